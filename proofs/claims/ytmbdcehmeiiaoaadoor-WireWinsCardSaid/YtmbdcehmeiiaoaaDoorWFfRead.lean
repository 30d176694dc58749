/- The walks, made by program: each call does what its pure predicate says. -/
import Derived.Test.YtmbdcehmeiiaoaaDoorWF
set_option linter.unusedVariables false
set_option linter.unusedSimpArgs false
namespace Go.Proofs.YtmbdcehmeiiaoaaDoor
open Go.Sy Go.RowKit
set_option maxRecDepth 100000 in
set_option maxHeartbeats 0 in
theorem fRead_walk (u0 : List UInt8)  (Z : Fz) (w : World)  (hZ : Z.on w) {K : (Frame × Int × Int) → Prop} (hp : fRead_vc u0 K) : Calls Tryd.prog 12 #[str u0] w fun e w' => ∃ (r : Frame × Int × Int) (ao1001 : Option Addr) (cap1002 : Nat) (Z' : Fz), e = .returned (.tuple #[.agg #[.int .i64 r.1.ID, .bool r.1.Long, .bool r.1.Fast, .bool r.1.Remote, .int .i64 r.1.Size, .slice ao1001 r.1.Data.length cap1002], .int .i64 r.2.1, .int .i64 r.2.2]) ∧ K r ∧ SlR (tyInt .u8) Z' ao1001 cap1002 r.1.Data ∧ Mem w.heap.size [] w Z [] Z' w' := by
 refine enter0 Tryd.func12 rfl rfl (by kernel_rfl) ?_; intro a0 hF0; have hM0 := Mem.start w Z hZ; have hle0 := Fz.le.refl Z
 refine sqH ?_; intro hQ1Q hQ1
 refine sn hF0 hM0 (fun b => .pointer (some ⟨b, 0, none⟩)) [.int .i64 0, .bool false, .bool false, .bool false, .int .i64 0, .slice none 0 0] 24 (nog rfl _) rfl (by kernel_rfl) (by kernel_rfl) ?_; intro b2 a3 wd5 hF4 hM6; clear hF0 hM0
 refine s1 hF4 3 (.int .i64 0) ?_; intro a7 hF8; clear hF4
 refine s1 hF8 4 (.int .i64 0) ?_; intro a9 hF10; clear hF8
 refine nlH (hQ1 _ _ ?_); clear hQ1 hQ1Q
 refine wp_seq ?_
 refine sqH ?_; intro hQ11Q hQ11
 refine s1 hF10 13 (str u0) ?_; intro a12 hF13; clear hF10
 refine fcl hF13 hM6 (.int .i64 (bcheckS u0)) 16 #[str u0] (nog rfl _) rfl (by kernel_rfl) (fun _ => by kernel_rfl) (bcheck_fun u0 _ _ hM6.fz) ?_; intro a14 wd16 hF15 hM17; clear hF13 hM6
 refine s1 hF15 5 (.int .i64 (bcheckS u0)) ?_; intro a18 hF19; clear hF15
 refine nlH (hQ11 _ _ ?_); clear hQ11 hQ11Q
 refine sqH ?_; intro hQ20Q hQ20
 refine s1 hF19 15 (.int .i64 (bcheckS u0)) ?_; intro a21 hF22; clear hF19
 refine s1 hF22 16 (.bool ((bcheckS u0) != 0)) ?_; intro a23 hF24; clear hF22
 refine nlH (hQ20 _ _ ?_); clear hQ20 hQ20Q
 refine cd hF24 (t := (bcheckS u0) != 0) (by kernel_rfl) (fun hb25 => ?_) (fun hb25 => ?_)
 · -- yes
  have hp26 := hp.1 hb25; clear hp
  refine sqH ?_; intro hQ27Q hQ27
  refine s1 hF24 17 (.agg #[.int .i64 0, .bool false, .bool false, .bool false, .int .i64 0, .slice none 0 0]) ?_; intro a28 hF29; clear hF24
  refine s1 hF29 18 (.int .i64 (bcheckS u0)) ?_; intro a30 hF31; clear hF29
  refine sr hF31 hM17 0 [.int .i64 0, .bool false, .bool false, .bool false, .int .i64 0, .slice none 0 0] (b := b2) (off := 0) (cs := [.int .i64 0, .bool false, .bool false, .bool false, .int .i64 0, .slice none 0 0]) (ty := 24) (u := .agg #[.int .i64 0, .bool false, .bool false, .bool false, .int .i64 0, .slice none 0 0]) (nog rfl _) rfl rfl (by kernel_rfl) (by kernel_rfl) (by kernel_rfl) (by kernel_rfl) (by kernel_rfl) (by kernel_rfl) (by kernel_rfl) ?_; intro wd32 hM33; clear hM17
  refine s1 hF31 3 (.int .i64 0) ?_; intro a34 hF35; clear hF31
  refine s1 hF35 4 (.int .i64 (bcheckS u0)) ?_; intro a36 hF37; clear hF35
  have hM38 : Mem w.heap.size [] w Z [.row b2 [.int .i64 0, .bool false, .bool false, .bool false, .int .i64 0, .slice none 0 0] 24] Z wd32 := hM33; clear hM33
  refine nlH (hQ27 _ _ ?_); clear hQ27 hQ27Q
  refine wp_ret ?_
  refine thr ?_
  refine rt (fn := Tryd.f12) (v := .tuple #[.agg #[.int .i64 0, .bool false, .bool false, .bool false, .int .i64 0, .slice none 0 0], .int .i64 0, .int .i64 (bcheckS u0)]) hF37 (re3c hF37 (fn := Tryd.f12) rfl (ad := ⟨b2, 0, none⟩) (by kernel_rfl) (loadVar_run hM38 0 (b := b2) (k := 6) (vs := [.int .i64 0, .bool false, .bool false, .bool false, .int .i64 0, .slice none 0 0]) (ty := 24) rfl (by kernel_rfl) (by kernel_rfl)) (by kernel_rfl) (by kernel_rfl)) ?_
  exact ⟨((⟨0, false, false, false, 0, []⟩ : Frame), 0, (bcheckS u0)), none, 0, Z, rfl, hp26, (SlR.nil _ _), hM38.keep (List.Sublist.cons _ (List.Sublist.slnil))⟩
 · -- no
  have hp39 := hp.2 hb25; clear hp
  refine wp_skip ?_
  refine thn ?_
  refine sqH ?_; intro hQ40Q hQ40
  refine s1 hF24 19 (str u0) ?_; intro a41 hF42; clear hF24
  refine s1 hF42 20 (.agg #[str u0, .int .i64 0, .int .i64 0, .int .u8 0, .int .i64 0]) ?_; intro a43 hF44; clear hF42
  refine s1 hF44 21 (.agg #[str u0, .int .i64 0, .int .i64 0, .int .u8 0, .int .i64 0, .int .i64 0, .bool false, .bool false, .bool false, .int .i64 0, .slice none 0 0]) ?_; intro a45 hF46; clear hF44
  refine sn hF46 hM17 (fun b => .pointer (some ⟨b, 0, none⟩)) [str u0, .int .i64 0, .int .i64 0, .int .u8 0, .int .i64 0, .int .i64 0, .bool false, .bool false, .bool false, .int .i64 0, .slice none 0 0] 64 (nog rfl _) rfl (by kernel_rfl) (by kernel_rfl) ?_; intro b47 a48 wd50 hF49 hM51; clear hF46 hM17
  refine s1 hF49 6 (.pointer (some ⟨b47, 0, none⟩)) ?_; intro a52 hF53; clear hF49
  refine nlH (hQ40 _ _ ?_); clear hQ40 hQ40Q
  refine sqH ?_; intro hQ54Q hQ54
  refine s1 hF53 23 (.pointer (some ⟨b47, 0, none⟩)) ?_; intro a55 hF56; clear hF53
  have hc57 := hp39.1; have hp58 := hp39.2; clear hp39
  refine cl hF56 37 #[.pointer (some ⟨b47, 0, none⟩)] (nog rfl _) rfl (by kernel_rfl) (by kernel_rfl) ?_
  obtain ⟨r63, hr64⟩ : ∃ x, (rnamesS (⟨(⟨u0, 0, 0, (⟨0, 0⟩ : Counter)⟩ : Reader), (⟨0, false, false, false, 0, []⟩ : Frame)⟩ : FReader)) = x := ⟨_, rfl⟩; have hp65 := hp58 r63 hr64; clear hp58
  have h9 := rnames_fun (⟨(⟨u0, 0, 0, (⟨0, 0⟩ : Counter)⟩ : Reader), (⟨0, false, false, false, 0, []⟩ : Frame)⟩ : FReader) hc57 b47 none 0 _ _ _ _ _ _ (SlR.nil _ _) hM51 hM51.fz; rw [hr64] at h9; refine h9.mono ?_; clear h9; rintro _ wd59 ⟨ao67, cap68, Z70, rfl, hle71, hs69, hm⟩; refine ⟨_, rfl, ?_⟩; intro a60 hF61; have hM62 := hm; clear hm hM51 hF56
  replace hle0 := Fz.le.trans hle0 hle71
  have hM72 : Mem w.heap.size [] w Z [.row b47 [str r63.Reader.Row, .int .i64 r63.Reader.At, .int .i64 r63.Reader.Code, .int .u8 r63.Reader.c.last, .int .i64 r63.Reader.c.n, .int .i64 r63.f.ID, .bool r63.f.Long, .bool r63.f.Fast, .bool r63.f.Remote, .int .i64 r63.f.Size, .slice ao67 r63.f.Data.length cap68] 64, .row b2 [.int .i64 0, .bool false, .bool false, .bool false, .int .i64 0, .slice none 0 0] 24] Z70 wd59 := hM62; clear hM62
  have hp73 := hp65 (hs69.small); clear hp65
  refine nlH (hQ54 _ _ ?_); clear hQ54 hQ54Q
  have hF74 : Fr 158 [] [⟨2, [], .pointer (some ⟨b2, 0, none⟩)⟩, ⟨6, [], .pointer (some ⟨b47, 0, none⟩)⟩] a60 := hF61.region (by kernel_rfl) (by kernel_rfl); clear hF61
  refine sqH ?_; intro hQ75Q hQ75
  refine s1 hF74 25 (.pointer (some ⟨b47, 0, none⟩)) ?_; intro a76 hF77; clear hF74
  have hc78 := hp73.1; have hp79 := hp73.2; clear hp73
  refine cl hF77 38 #[.pointer (some ⟨b47, 0, none⟩), .int .i64 4] (nog rfl _) rfl (by kernel_rfl) (by kernel_rfl) ?_
  obtain ⟨r84, hr85⟩ : ∃ x, (rnumberS r63 4) = x := ⟨_, rfl⟩; have hp86 := hp79 r84 hr85; clear hp79
  have h9 := rnumber_fun r63 4 hc78 b47 ao67 cap68 _ _ _ _ _ _ hs69 hM72 hM72.fz; rw [hr85] at h9; refine h9.mono ?_; clear h9; rintro _ wd80 ⟨ao88, cap89, Z91, rfl, hle92, hs90, hm⟩; refine ⟨_, rfl, ?_⟩; intro a81 hF82; have hM83 := hm; clear hm hM72 hF77
  replace hs69 := hs69.mono hle92
  replace hle0 := Fz.le.trans hle0 hle92
  have hM93 : Mem w.heap.size [] w Z [.row b47 [str r84.2.Reader.Row, .int .i64 r84.2.Reader.At, .int .i64 r84.2.Reader.Code, .int .u8 r84.2.Reader.c.last, .int .i64 r84.2.Reader.c.n, .int .i64 r84.2.f.ID, .bool r84.2.f.Long, .bool r84.2.f.Fast, .bool r84.2.f.Remote, .int .i64 r84.2.f.Size, .slice ao88 r84.2.f.Data.length cap89] 64, .row b2 [.int .i64 0, .bool false, .bool false, .bool false, .int .i64 0, .slice none 0 0] 24] Z91 wd80 := hM83; clear hM83
  have hp94 := hp86 (hs90.small); clear hp86
  refine s1 hF82 7 (.int .i64 r84.1) ?_; intro a95 hF96; clear hF82
  refine nlH (hQ75 _ _ ?_); clear hQ75 hQ75Q
  have hF97 : Fr 158 [] [⟨2, [], .pointer (some ⟨b2, 0, none⟩)⟩, ⟨6, [], .pointer (some ⟨b47, 0, none⟩)⟩, ⟨7, [], .int .i64 r84.1⟩] a95 := hF96.region (by kernel_rfl) (by kernel_rfl); clear hF96
  have hF99 : Fr 158 [] [⟨2, [], .pointer (some ⟨b2, 0, none⟩)⟩, ⟨6, [], .pointer (some ⟨b47, 0, none⟩)⟩, ⟨7, [], .int .i64 r84.1⟩] a95 := hF97.region (by kernel_rfl) (by kernel_rfl); clear hF97
  obtain ⟨inv98, hp100, hp101⟩ := hp94
  refine wp_seq_k fun KJ102 hKJ103 => ?_
  have hJ104 : ∀ (yb47 : FReader) (aoyb47_0 : Option Addr) (capyb47_0 : Nat) (ZJ98 : Fz), inv98 yb47 ∧ SlR (tyInt .u8) ZJ98 aoyb47_0 capyb47_0 yb47.f.Data ∧ Fz.le Z91 ZJ98 → ∀ a1 w1, Fr 158 [] [⟨2, [], .pointer (some ⟨b2, 0, none⟩)⟩, ⟨6, [], .pointer (some ⟨b47, 0, none⟩)⟩] a1 → Mem w.heap.size [] w Z [.row b47 [str yb47.Reader.Row, .int .i64 yb47.Reader.At, .int .i64 yb47.Reader.Code, .int .u8 yb47.Reader.c.last, .int .i64 yb47.Reader.c.n, .int .i64 yb47.f.ID, .bool yb47.f.Long, .bool yb47.f.Fast, .bool yb47.f.Remote, .int .i64 yb47.f.Size, .slice aoyb47_0 yb47.f.Data.length capyb47_0] 64, .row b2 [.int .i64 0, .bool false, .bool false, .bool false, .int .i64 0, .slice none 0 0] 24] ZJ98 w1 → KJ102 a1 w1 := by
   rintro yb47 aoyb47_0 capyb47_0 ZJ98 ⟨hI109, hsyb47_0, hleJ98⟩ a105 wd106 hF107 hM108; clear hF99 hM93
   refine hKJ103 _ _ ?_; clear hKJ103
   have hp110 := hp101 yb47 hI109
   replace hle0 := Fz.le.trans hle0 hleJ98
   have hs111 := hs69.mono hleJ98
   have hs112 := hs90.mono hleJ98
   refine wp_seq ?_
   refine sqH ?_; intro hQ113Q hQ113
   refine s1 hF107 77 (.pointer (some ⟨b47, 0, none⟩)) ?_; intro a114 hF115; clear hF107
   refine s1 hF115 78 (.pointer (some ⟨b47, 0, none⟩)) ?_; intro a116 hF117; clear hF115
   refine s1 hF117 79 (.pointer (some ⟨b47, 5, none⟩)) ?_; intro a118 hF119; clear hF117
   refine s1 hF119 80 (.pointer (some ⟨b47, 7, none⟩)) ?_; intro a120 hF121; clear hF119
   refine l1 hF121 hM108 81 0 7 (.bool yb47.f.Fast) rfl rfl ?_; intro a122 hF123; clear hF121
   refine nlH (hQ113 _ _ ?_); clear hQ113 hQ113Q
   have hF124 : Fr 158 [] [⟨2, [], .pointer (some ⟨b2, 0, none⟩)⟩, ⟨6, [], .pointer (some ⟨b47, 0, none⟩)⟩, ⟨81, [], .bool yb47.f.Fast⟩] a122 := hF123.region (by kernel_rfl) (by kernel_rfl); clear hF123
   have hF126 : Fr 158 [] [⟨2, [], .pointer (some ⟨b2, 0, none⟩)⟩, ⟨6, [], .pointer (some ⟨b47, 0, none⟩)⟩, ⟨81, [], .bool yb47.f.Fast⟩] a122 := hF124.region (by kernel_rfl) (by kernel_rfl); clear hF124
   obtain ⟨inv125, hp127, hp128⟩ := hp110
   refine wp_then_k fun KJ129 hKJ130 => ?_
   have hJ131 : ∀ (yb47v : FReader) (aoyb47v_0 : Option Addr) (capyb47v_0 : Nat) (ZJ125 : Fz), inv125 yb47v ∧ SlR (tyInt .u8) ZJ125 aoyb47v_0 capyb47v_0 yb47v.f.Data ∧ Fz.le ZJ98 ZJ125 → ∀ a1 w1, Fr 158 [] [⟨2, [], .pointer (some ⟨b2, 0, none⟩)⟩, ⟨6, [], .pointer (some ⟨b47, 0, none⟩)⟩] a1 → Mem w.heap.size [] w Z [.row b47 [str yb47v.Reader.Row, .int .i64 yb47v.Reader.At, .int .i64 yb47v.Reader.Code, .int .u8 yb47v.Reader.c.last, .int .i64 yb47v.Reader.c.n, .int .i64 yb47v.f.ID, .bool yb47v.f.Long, .bool yb47v.f.Fast, .bool yb47v.f.Remote, .int .i64 yb47v.f.Size, .slice aoyb47v_0 yb47v.f.Data.length capyb47v_0] 64, .row b2 [.int .i64 0, .bool false, .bool false, .bool false, .int .i64 0, .slice none 0 0] 24] ZJ125 w1 → KJ129 a1 w1 := by
    rintro yb47v aoyb47v_0 capyb47v_0 ZJ125 ⟨hI136, hsyb47v_0, hleJ125⟩ a132 wd133 hF134 hM135; clear hF126 hM108
    refine hKJ130 _ _ ?_; clear hKJ130
    have hp137 := hp128 yb47v hI136
    replace hle0 := Fz.le.trans hle0 hleJ125
    have hs138 := hs111.mono hleJ125
    have hs139 := hs112.mono hleJ125
    have hs140 := hsyb47_0.mono hleJ125
    have hs141 := hleJ98.mono hleJ125
    refine sqH ?_; intro hQ142Q hQ142
    refine s1 hF134 116 (.pointer (some ⟨b47, 0, none⟩)) ?_; intro a143 hF144; clear hF134
    refine s1 hF144 117 (.pointer (some ⟨b47, 0, none⟩)) ?_; intro a145 hF146; clear hF144
    refine s1 hF146 118 (.pointer (some ⟨b47, 0, none⟩)) ?_; intro a147 hF148; clear hF146
    have hc149 := hp137.1; have hp150 := hp137.2; clear hp137
    refine cl hF148 44 #[.pointer (some ⟨b47, 0, none⟩), .int .i64 10] (nog rfl _) rfl (by kernel_rfl) (by kernel_rfl) ?_
    obtain ⟨r155, hr156⟩ : ∃ x, (rplainFS yb47v 10) = x := ⟨_, rfl⟩; have hp157 := hp150 r155 hr156; clear hp150
    have h9 := rplainF_fun yb47v 10 hc149 b47 aoyb47v_0 capyb47v_0 _ _ _ _ _ _ hsyb47v_0 hM135 hM135.fz; rw [hr156] at h9; refine h9.mono ?_; clear h9; rintro _ wd151 ⟨ao159, cap160, Z162, rfl, hle163, hs161, hm⟩; refine ⟨_, rfl, ?_⟩; intro a152 hF153; have hM154 := hm; clear hm hM135 hF148
    replace hs138 := hs138.mono hle163
    replace hs139 := hs139.mono hle163
    replace hs140 := hs140.mono hle163
    replace hs141 := hs141.mono hle163
    replace hsyb47v_0 := hsyb47v_0.mono hle163
    replace hleJ125 := hleJ125.mono hle163
    replace hle0 := Fz.le.trans hle0 hle163
    have hM164 : Mem w.heap.size [] w Z [.row b47 [str r155.2.Reader.Row, .int .i64 r155.2.Reader.At, .int .i64 r155.2.Reader.Code, .int .u8 r155.2.Reader.c.last, .int .i64 r155.2.Reader.c.n, .int .i64 r155.2.f.ID, .bool r155.2.f.Long, .bool r155.2.f.Fast, .bool r155.2.f.Remote, .int .i64 r155.2.f.Size, .slice ao159 r155.2.f.Data.length cap160] 64, .row b2 [.int .i64 0, .bool false, .bool false, .bool false, .int .i64 0, .slice none 0 0] 24] Z162 wd151 := hM154; clear hM154
    have hp165 := hp157 (hs161.small); clear hp157
    refine s1 hF153 12 (str r155.1) ?_; intro a166 hF167; clear hF153
    refine nlH (hQ142 _ _ ?_); clear hQ142 hQ142Q
    refine wp_seq ?_
    have hF168 : Fr 158 [] [⟨2, [], .pointer (some ⟨b2, 0, none⟩)⟩, ⟨6, [], .pointer (some ⟨b47, 0, none⟩)⟩, ⟨12, [], str r155.1⟩] a166 := hF167.region (by kernel_rfl) (by kernel_rfl); clear hF167
    rcases Bool.eq_false_or_eq_true (r155.2.Reader.Code == 0) with hb169 | hb169
    · -- true
     have hp170 := hp165.1 hb169; clear hp165
     have hF171 : Fr 158 [] [⟨2, [], .pointer (some ⟨b2, 0, none⟩)⟩, ⟨6, [], .pointer (some ⟨b47, 0, none⟩)⟩, ⟨12, [], str r155.1⟩] a166 := hF168.region (by kernel_rfl) (by kernel_rfl); clear hF168
     refine sqQH mixed (by kernel_rfl) hM164 ?_; intro hQ172Q hQ172
     refine q1 hF171 120 (.pointer (some ⟨b47, 0, none⟩)) ?_; intro a174 hF175; clear hF171
     refine q1 hF175 121 (.pointer (some ⟨b47, 0, none⟩)) ?_; intro a177 hF178; clear hF175
     refine q1 hF178 122 (.pointer (some ⟨b47, 0, none⟩)) ?_; intro a180 hF181; clear hF178
     refine q1 hF181 123 (.pointer (some ⟨b47, 2, none⟩)) ?_; intro a183 hF184; clear hF181
     refine qst hF184 (.int .i64 r155.2.Reader.Code) (nog rfl _) rfl (by kernel_rfl) (fun v185 hC => ld hF184 hC 0 (g := []) (b := b47) (off := 2) (cs := [str r155.2.Reader.Row, .int .i64 r155.2.Reader.At, .int .i64 r155.2.Reader.Code, .int .u8 r155.2.Reader.c.last, .int .i64 r155.2.Reader.c.n, .int .i64 r155.2.f.ID, .bool r155.2.f.Long, .bool r155.2.f.Fast, .bool r155.2.f.Remote, .int .i64 r155.2.f.Size, .slice ao159 r155.2.f.Data.length cap160]) (ty := 64) rfl (by kernel_rfl) (by kernel_rfl) (by kernel_rfl) (by kernel_rfl) rfl) ?_; intro a186 hF187; clear hF184
     refine q1 hF187 125 (.bool (r155.2.Reader.Code == 0)) ?_; intro a189 hF190; clear hF187
     have hF191 := hF190.reval (d := 125) (c := []) (v := .bool (r155.2.Reader.Code == 0)) (by kernel_rfl) (.bool true) (by rw [hb169]); clear hF190
     refine q1 hF191 126 (.bool true) ?_; intro a193 hF194; clear hF191
     refine qst hF194 (str r155.1) (by rw [wanted_of hF194 (b := true) rfl rfl (by kernel_rfl) (by kernel_rfl)]; rfl) rfl (by kernel_rfl) (fun v195 hC => p0 hF194 (by kernel_rfl)) ?_; intro a196 hF197; clear hF194
     have hc199 := hp170.1; have hp200 := hp170.2; clear hp170
     refine qst hF197 (str (r155.1.take (1 : Int).toNat)) (by rw [wanted_of hF197 (b := true) rfl rfl (by kernel_rfl) (by kernel_rfl)]; rfl) rfl (by kernel_rfl) (fun v198 hC => strslH_run hF197 (g := []) (k := .i64) rfl (by kernel_rfl) (by kernel_rfl) (by kernel_rfl) hc199 rfl) ?_; intro a201 hF202; clear hF197
     have hc204 := hp200.1; have hp205 := hp200.2; clear hp200
     refine qst hF202 (str ((r155.1.take (1 : Int).toNat) ++ ([49] : List UInt8))) (by rw [wanted_of hF202 (b := true) rfl rfl (by kernel_rfl) (by kernel_rfl)]; rfl) rfl (by kernel_rfl) (fun v203 hC => stradd_run hF202 (g := []) rfl (by kernel_rfl) (by kernel_rfl) hc204 rfl) ?_; intro a206 hF207; clear hF202
     refine qst hF207 (str r155.1) (by rw [wanted_of hF207 (b := true) rfl rfl (by kernel_rfl) (by kernel_rfl)]; rfl) rfl (by kernel_rfl) (fun v208 hC => p0 hF207 (by kernel_rfl)) ?_; intro a209 hF210; clear hF207
     have hc212 := hp205.1; have hp213 := hp205.2; clear hp205
     refine qst hF210 (str (r155.1.drop (2 : Int).toNat)) (by rw [wanted_of hF210 (b := true) rfl rfl (by kernel_rfl) (by kernel_rfl)]; rfl) rfl (by kernel_rfl) (fun v211 hC => strslL_run hF210 (g := []) (k := .i64) rfl (by kernel_rfl) (by kernel_rfl) (by kernel_rfl) hc212 rfl) ?_; intro a214 hF215; clear hF210
     have hc217 := hp213.1; have hp218 := hp213.2; clear hp213
     refine qst hF215 (str (((r155.1.take (1 : Int).toNat) ++ ([49] : List UInt8)) ++ (r155.1.drop (2 : Int).toNat))) (by rw [wanted_of hF215 (b := true) rfl rfl (by kernel_rfl) (by kernel_rfl)]; rfl) rfl (by kernel_rfl) (fun v216 hC => stradd_run hF215 (g := []) rfl (by kernel_rfl) (by kernel_rfl) hc217 rfl) ?_; intro a219 hF220; clear hF215
     refine qst hF220 (.bool ((((r155.1.take (1 : Int).toNat) ++ ([49] : List UInt8)) ++ (r155.1.drop (2 : Int).toNat)) != ([49, 49, 49, 49, 49, 49, 49, 49, 49, 49] : List UInt8))) (by rw [wanted_of hF220 (b := true) rfl rfl (by kernel_rfl) (by kernel_rfl)]; rfl) rfl (by kernel_rfl) (fun v221 hC => strcmp_run hF220 (g := []) (op := .neq) rfl (by kernel_rfl) (by kernel_rfl) (by decide) rfl) ?_; intro a222 hF223; clear hF220
     refine q1 hF223 134 (.bool ((((r155.1.take (1 : Int).toNat) ++ ([49] : List UInt8)) ++ (r155.1.drop (2 : Int).toNat)) != ([49, 49, 49, 49, 49, 49, 49, 49, 49, 49] : List UInt8))) ?_; intro a225 hF226; clear hF223
     refine qnl (hQ172 _ ?_); clear hQ172 hQ172Q; intro wd227 hM228; clear hM164
     have hF229 : Fr 158 [] [⟨2, [], .pointer (some ⟨b2, 0, none⟩)⟩, ⟨6, [], .pointer (some ⟨b47, 0, none⟩)⟩, ⟨134, [], .bool ((((r155.1.take (1 : Int).toNat) ++ ([49] : List UInt8)) ++ (r155.1.drop (2 : Int).toNat)) != ([49, 49, 49, 49, 49, 49, 49, 49, 49, 49] : List UInt8))⟩] a225 := hF226.region (by kernel_rfl) (by kernel_rfl); clear hF226
     have hF231 : Fr 158 [] [⟨2, [], .pointer (some ⟨b2, 0, none⟩)⟩, ⟨6, [], .pointer (some ⟨b47, 0, none⟩)⟩, ⟨134, [], .bool ((((r155.1.take (1 : Int).toNat) ++ ([49] : List UInt8)) ++ (r155.1.drop (2 : Int).toNat)) != ([49, 49, 49, 49, 49, 49, 49, 49, 49, 49] : List UInt8))⟩] a225 := hF229.region (by kernel_rfl) (by kernel_rfl); clear hF229
     obtain ⟨inv230, hp232, hp233⟩ := hp218
     refine wp_then_k fun KJ234 hKJ235 => ?_
     have hJ236 : ∀ (yb47vv : FReader) (aoyb47vv_0 : Option Addr) (capyb47vv_0 : Nat) (ZJ230 : Fz), inv230 yb47vv ∧ SlR (tyInt .u8) ZJ230 aoyb47vv_0 capyb47vv_0 yb47vv.f.Data ∧ Fz.le Z162 ZJ230 → ∀ a1 w1, Fr 158 [] [⟨2, [], .pointer (some ⟨b2, 0, none⟩)⟩, ⟨6, [], .pointer (some ⟨b47, 0, none⟩)⟩] a1 → Mem w.heap.size [] w Z [.row b47 [str yb47vv.Reader.Row, .int .i64 yb47vv.Reader.At, .int .i64 yb47vv.Reader.Code, .int .u8 yb47vv.Reader.c.last, .int .i64 yb47vv.Reader.c.n, .int .i64 yb47vv.f.ID, .bool yb47vv.f.Long, .bool yb47vv.f.Fast, .bool yb47vv.f.Remote, .int .i64 yb47vv.f.Size, .slice aoyb47vv_0 yb47vv.f.Data.length capyb47vv_0] 64, .row b2 [.int .i64 0, .bool false, .bool false, .bool false, .int .i64 0, .slice none 0 0] 24] ZJ230 w1 → KJ234 a1 w1 := by
      rintro yb47vv aoyb47vv_0 capyb47vv_0 ZJ230 ⟨hI241, hsyb47vv_0, hleJ230⟩ a237 wd238 hF239 hM240; clear hF231 hM228
      refine hKJ235 _ _ ?_; clear hKJ235
      have hp242 := hp233 yb47vv hI241
      replace hle0 := Fz.le.trans hle0 hleJ230
      have hs243 := hs138.mono hleJ230
      have hs244 := hs139.mono hleJ230
      have hs245 := hs140.mono hleJ230
      have hs246 := hs141.mono hleJ230
      have hs247 := hsyb47v_0.mono hleJ230
      have hs248 := hleJ125.mono hleJ230
      have hs249 := hs161.mono hleJ230
      refine wp_seq ?_
      refine sqH ?_; intro hQ250Q hQ250
      refine s1 hF239 137 (.pointer (some ⟨b47, 0, none⟩)) ?_; intro a251 hF252; clear hF239
      refine s1 hF252 138 (.pointer (some ⟨b47, 0, none⟩)) ?_; intro a253 hF254; clear hF252
      refine s1 hF254 139 (.pointer (some ⟨b47, 0, none⟩)) ?_; intro a255 hF256; clear hF254
      refine s1 hF256 140 (.pointer (some ⟨b47, 2, none⟩)) ?_; intro a257 hF258; clear hF256
      refine l1 hF258 hM240 141 0 2 (.int .i64 yb47vv.Reader.Code) rfl rfl ?_; intro a259 hF260; clear hF258
      refine s1 hF260 142 (.bool (yb47vv.Reader.Code != 0)) ?_; intro a261 hF262; clear hF260
      refine nlH (hQ250 _ _ ?_); clear hQ250 hQ250Q
      refine cd hF262 (t := yb47vv.Reader.Code != 0) (by kernel_rfl) (fun hb263 => ?_) (fun hb263 => ?_)
      · -- yes
       have hp264 := hp242.1 hb263; clear hp242
       have hF265 : Fr 158 [] [⟨2, [], .pointer (some ⟨b2, 0, none⟩)⟩, ⟨6, [], .pointer (some ⟨b47, 0, none⟩)⟩] a261 := hF262.region (by kernel_rfl) (by kernel_rfl); clear hF262
       refine wp_seq (any_invE mixed [[], [], [1], [2], [3], [4], [0], [0, 6], [0, 1, 2, 3, 4, 5, 6, 7]] 9 (fun S a w1 => ∃ (ud3 : Value) (ud4 : Value) (ud143 : Value) (ud144 : Value) (ud145 : Value) (ud146 : Value) (ud147 : Value) (ud148 : Value) (rh0 : Res) (rh1 : Res), Fz.le ZJ230 ZJ230 ∧ Fr 158 [] [⟨2, [], .pointer (some ⟨b2, 0, none⟩)⟩, ⟨3, [], ud3⟩, ⟨4, [], ud4⟩, ⟨6, [], .pointer (some ⟨b47, 0, none⟩)⟩, ⟨143, [], ud143⟩, ⟨144, [], ud144⟩, ⟨145, [], ud145⟩, ⟨146, [], ud146⟩, ⟨147, [], ud147⟩, ⟨148, [], ud148⟩] a ∧ Mem w.heap.size [] w Z [rh0, rh1] ZJ230 w1 ∧ (S 7 = true → ud3 = .int .i64 0) ∧ (S 8 = true → ud4 = .int .i64 yb47vv.Reader.Code) ∧ (S 0 = true → ud143 = .agg #[.int .i64 0, .bool false, .bool false, .bool false, .int .i64 0, .slice none 0 0]) ∧ (S 1 = true → ud144 = .pointer (some ⟨b47, 0, none⟩)) ∧ (S 2 = true → ud145 = .pointer (some ⟨b47, 0, none⟩)) ∧ (S 3 = true → ud146 = .pointer (some ⟨b47, 0, none⟩)) ∧ (S 4 = true → ud147 = .pointer (some ⟨b47, 2, none⟩)) ∧ (S 5 = true → ud148 = .int .i64 yb47vv.Reader.Code) ∧ (rh0 = .row b47 [str yb47vv.Reader.Row, .int .i64 yb47vv.Reader.At, .int .i64 yb47vv.Reader.Code, .int .u8 yb47vv.Reader.c.last, .int .i64 yb47vv.Reader.c.n, .int .i64 yb47vv.f.ID, .bool yb47vv.f.Long, .bool yb47vv.f.Fast, .bool yb47vv.f.Remote, .int .i64 yb47vv.f.Size, .slice aoyb47vv_0 yb47vv.f.Data.length capyb47vv_0] 64) ∧ (rh1 = .row b2 [.int .i64 0, .bool false, .bool false, .bool false, .int .i64 0, .slice none 0 0] 24)) ?h0 ?hs ?hE)
       case h0 =>
        have hF285 := hF265.any 3
        have hF286 := hF285.any 4
        have hF287 := hF286.any 143
        have hF288 := hF287.any 144
        have hF289 := hF288.any 145
        have hF290 := hF289.any 146
        have hF291 := hF290.any 147
        have hF292 := hF291.any 148
        have hM293 := (hM240.perm (List.Perm.refl _)).drew
        exact ⟨a261.tmps.getD 3 undef, a261.tmps.getD 4 undef, a261.tmps.getD 143 undef, a261.tmps.getD 144 undef, a261.tmps.getD 145 undef, a261.tmps.getD 146 undef, a261.tmps.getD 147 undef, a261.tmps.getD 148 undef, .row b47 [str yb47vv.Reader.Row, .int .i64 yb47vv.Reader.At, .int .i64 yb47vv.Reader.Code, .int .u8 yb47vv.Reader.c.last, .int .i64 yb47vv.Reader.c.n, .int .i64 yb47vv.f.ID, .bool yb47vv.f.Long, .bool yb47vv.f.Fast, .bool yb47vv.f.Remote, .int .i64 yb47vv.f.Size, .slice aoyb47vv_0 yb47vv.f.Data.length capyb47vv_0] 64, .row b2 [.int .i64 0, .bool false, .bool false, .bool false, .int .i64 0, .slice none 0 0] 24, Fz.le.refl _, hF292.region (by kernel_rfl) (by kernel_rfl), hM293, ff, ff, ff, ff, ff, ff, ff, ff, rfl, rfl⟩
       case hs =>
        intro S hcl i o hil hi hSi hpre a w1 hI; refine Go.Sy.hid ?_; intro G hG; obtain ⟨ud3, hI⟩ := hI; obtain ⟨ud4, hI⟩ := hI; obtain ⟨ud143, hI⟩ := hI; obtain ⟨ud144, hI⟩ := hI; obtain ⟨ud145, hI⟩ := hI; obtain ⟨ud146, hI⟩ := hI; obtain ⟨ud147, hI⟩ := hI; obtain ⟨ud148, hI⟩ := hI; obtain ⟨rh0, hI⟩ := hI; obtain ⟨rh1, hI⟩ := hI; obtain ⟨hle284, hI⟩ := hI; obtain ⟨hFx, hI⟩ := hI; obtain ⟨hMx, hI⟩ := hI; obtain ⟨cu3, hI⟩ := hI; obtain ⟨cu4, hI⟩ := hI; obtain ⟨cu143, hI⟩ := hI; obtain ⟨cu144, hI⟩ := hI; obtain ⟨cu145, hI⟩ := hI; obtain ⟨cu146, hI⟩ := hI; obtain ⟨cu147, hI⟩ := hI; obtain ⟨cu148, hI⟩ := hI; obtain ⟨cr0_0, hI⟩ := hI; have cr1_0 := hI; clear hI
        have hcase : i = 0 ∨ i = 1 ∨ i = 2 ∨ i = 3 ∨ i = 4 ∨ i = 5 ∨ i = 6 ∨ i = 7 ∨ i = 8 := by clear hi; omega
        rcases hcase with rfl | rfl | rfl | rfl | rfl | rfl | rfl | rfl | rfl
        · -- 0: build
         obtain rfl := Option.some.inj hi
         have hx0 := hSi
         have hx6 := negF hcl 6 0 (by kernel_rfl) hx0
         have hx7 := negF hcl 7 0 (by kernel_rfl) hx0
         have hx8 := negF hcl 8 0 (by kernel_rfl) hx0
         obtain rfl := cr0_0
         obtain rfl := cr1_0
         refine hG (any_step ?_); clear hG G; intro A J hJ
         have hle0 := Fz.le.trans hle0 hle284
         have hs294 := hs243.mono hle284
         have hs295 := hs244.mono hle284
         have hs296 := hs245.mono hle284
         have hs297 := hs246.mono hle284
         have hs298 := hs247.mono hle284
         have hs299 := hs248.mono hle284
         have hs300 := hs249.mono hle284
         have hs301 := hsyb47vv_0.mono hle284
         have hs302 := hleJ230.mono hle284
         refine s1 hFx 143 (.agg #[.int .i64 0, .bool false, .bool false, .bool false, .int .i64 0, .slice none 0 0]) ?_; intro a303 hF304; clear hFx
         refine nl (qnI (hJ _ _ ?_)); clear hJ J
         exact ⟨ud3, ud4, .agg #[.int .i64 0, .bool false, .bool false, .bool false, .int .i64 0, .slice none 0 0], ud144, ud145, ud146, ud147, ud148, .row b47 [str yb47vv.Reader.Row, .int .i64 yb47vv.Reader.At, .int .i64 yb47vv.Reader.Code, .int .u8 yb47vv.Reader.c.last, .int .i64 yb47vv.Reader.c.n, .int .i64 yb47vv.f.ID, .bool yb47vv.f.Long, .bool yb47vv.f.Fast, .bool yb47vv.f.Remote, .int .i64 yb47vv.f.Size, .slice aoyb47vv_0 yb47vv.f.Data.length capyb47vv_0] 64, .row b2 [.int .i64 0, .bool false, .bool false, .bool false, .int .i64 0, .slice none 0 0] 24, hle284, hF304.region (by kernel_rfl) (by kernel_rfl), hMx.perm (List.Perm.refl _), (nt hx7), (nt hx8), kf, cu144, cu145, cu146, cu147, cu148, rfl, rfl⟩
        · -- 1: move
         obtain rfl := Option.some.inj hi
         have hx1 := hSi
         have hx2 := negF hcl 2 1 (by kernel_rfl) hx1
         have hx3 := negF hcl 3 2 (by kernel_rfl) hx2
         have hx4 := negF hcl 4 3 (by kernel_rfl) hx3
         have hx5 := negF hcl 5 4 (by kernel_rfl) hx4
         have hx8 := negF hcl 8 1 (by kernel_rfl) hx1
         obtain rfl := cr0_0
         obtain rfl := cr1_0
         refine hG (any_step ?_); clear hG G; intro A J hJ
         have hle0 := Fz.le.trans hle0 hle284
         have hs306 := hs243.mono hle284
         have hs307 := hs244.mono hle284
         have hs308 := hs245.mono hle284
         have hs309 := hs246.mono hle284
         have hs310 := hs247.mono hle284
         have hs311 := hs248.mono hle284
         have hs312 := hs249.mono hle284
         have hs313 := hsyb47vv_0.mono hle284
         have hs314 := hleJ230.mono hle284
         refine s1 hFx 144 (.pointer (some ⟨b47, 0, none⟩)) ?_; intro a315 hF316; clear hFx
         refine nl (qnI (hJ _ _ ?_)); clear hJ J
         exact ⟨ud3, ud4, ud143, .pointer (some ⟨b47, 0, none⟩), ud145, ud146, ud147, ud148, .row b47 [str yb47vv.Reader.Row, .int .i64 yb47vv.Reader.At, .int .i64 yb47vv.Reader.Code, .int .u8 yb47vv.Reader.c.last, .int .i64 yb47vv.Reader.c.n, .int .i64 yb47vv.f.ID, .bool yb47vv.f.Long, .bool yb47vv.f.Fast, .bool yb47vv.f.Remote, .int .i64 yb47vv.f.Size, .slice aoyb47vv_0 yb47vv.f.Data.length capyb47vv_0] 64, .row b2 [.int .i64 0, .bool false, .bool false, .bool false, .int .i64 0, .slice none 0 0] 24, hle284, hF316.region (by kernel_rfl) (by kernel_rfl), hMx.perm (List.Perm.refl _), cu3, (nt hx8), cu143, kf, (nt hx2), (nt hx3), (nt hx4), (nt hx5), rfl, rfl⟩
        · -- 2: nilCheck
         obtain rfl := Option.some.inj hi
         have hx1 := hpre 1 (by kernel_rfl)
         have hx2 := hSi
         have hx3 := negF hcl 3 2 (by kernel_rfl) hx2
         have hx4 := negF hcl 4 3 (by kernel_rfl) hx3
         have hx5 := negF hcl 5 4 (by kernel_rfl) hx4
         have hx8 := negF hcl 8 2 (by kernel_rfl) hx2
         obtain rfl := cu144 hx1
         obtain rfl := cr0_0
         obtain rfl := cr1_0
         refine hG (any_step ?_); clear hG G; intro A J hJ
         have hle0 := Fz.le.trans hle0 hle284
         have hs318 := hs243.mono hle284
         have hs319 := hs244.mono hle284
         have hs320 := hs245.mono hle284
         have hs321 := hs246.mono hle284
         have hs322 := hs247.mono hle284
         have hs323 := hs248.mono hle284
         have hs324 := hs249.mono hle284
         have hs325 := hsyb47vv_0.mono hle284
         have hs326 := hleJ230.mono hle284
         refine s1 hFx 145 (.pointer (some ⟨b47, 0, none⟩)) ?_; intro a327 hF328; clear hFx
         refine nl (qnI (hJ _ _ ?_)); clear hJ J
         exact ⟨ud3, ud4, ud143, .pointer (some ⟨b47, 0, none⟩), .pointer (some ⟨b47, 0, none⟩), ud146, ud147, ud148, .row b47 [str yb47vv.Reader.Row, .int .i64 yb47vv.Reader.At, .int .i64 yb47vv.Reader.Code, .int .u8 yb47vv.Reader.c.last, .int .i64 yb47vv.Reader.c.n, .int .i64 yb47vv.f.ID, .bool yb47vv.f.Long, .bool yb47vv.f.Fast, .bool yb47vv.f.Remote, .int .i64 yb47vv.f.Size, .slice aoyb47vv_0 yb47vv.f.Data.length capyb47vv_0] 64, .row b2 [.int .i64 0, .bool false, .bool false, .bool false, .int .i64 0, .slice none 0 0] 24, hle284, hF328.region (by kernel_rfl) (by kernel_rfl), hMx.perm (List.Perm.refl _), cu3, (nt hx8), cu143, kf, kf, (nt hx3), (nt hx4), (nt hx5), rfl, rfl⟩
        · -- 3: fieldAddr
         obtain rfl := Option.some.inj hi
         have hx2 := hpre 2 (by kernel_rfl)
         have hx1 := hcl 2 1 (by kernel_rfl) hx2
         have hx3 := hSi
         have hx4 := negF hcl 4 3 (by kernel_rfl) hx3
         have hx5 := negF hcl 5 4 (by kernel_rfl) hx4
         have hx8 := negF hcl 8 3 (by kernel_rfl) hx3
         obtain rfl := cu144 hx1
         obtain rfl := cu145 hx2
         obtain rfl := cr0_0
         obtain rfl := cr1_0
         refine hG (any_step ?_); clear hG G; intro A J hJ
         have hle0 := Fz.le.trans hle0 hle284
         have hs330 := hs243.mono hle284
         have hs331 := hs244.mono hle284
         have hs332 := hs245.mono hle284
         have hs333 := hs246.mono hle284
         have hs334 := hs247.mono hle284
         have hs335 := hs248.mono hle284
         have hs336 := hs249.mono hle284
         have hs337 := hsyb47vv_0.mono hle284
         have hs338 := hleJ230.mono hle284
         refine s1 hFx 146 (.pointer (some ⟨b47, 0, none⟩)) ?_; intro a339 hF340; clear hFx
         refine nl (qnI (hJ _ _ ?_)); clear hJ J
         exact ⟨ud3, ud4, ud143, .pointer (some ⟨b47, 0, none⟩), .pointer (some ⟨b47, 0, none⟩), .pointer (some ⟨b47, 0, none⟩), ud147, ud148, .row b47 [str yb47vv.Reader.Row, .int .i64 yb47vv.Reader.At, .int .i64 yb47vv.Reader.Code, .int .u8 yb47vv.Reader.c.last, .int .i64 yb47vv.Reader.c.n, .int .i64 yb47vv.f.ID, .bool yb47vv.f.Long, .bool yb47vv.f.Fast, .bool yb47vv.f.Remote, .int .i64 yb47vv.f.Size, .slice aoyb47vv_0 yb47vv.f.Data.length capyb47vv_0] 64, .row b2 [.int .i64 0, .bool false, .bool false, .bool false, .int .i64 0, .slice none 0 0] 24, hle284, hF340.region (by kernel_rfl) (by kernel_rfl), hMx.perm (List.Perm.refl _), cu3, (nt hx8), cu143, kf, kf, kf, (nt hx4), (nt hx5), rfl, rfl⟩
        · -- 4: fieldAddr
         obtain rfl := Option.some.inj hi
         have hx3 := hpre 3 (by kernel_rfl)
         have hx2 := hcl 3 2 (by kernel_rfl) hx3
         have hx1 := hcl 2 1 (by kernel_rfl) hx2
         have hx4 := hSi
         have hx5 := negF hcl 5 4 (by kernel_rfl) hx4
         have hx8 := negF hcl 8 4 (by kernel_rfl) hx4
         obtain rfl := cu144 hx1
         obtain rfl := cu145 hx2
         obtain rfl := cu146 hx3
         obtain rfl := cr0_0
         obtain rfl := cr1_0
         refine hG (any_step ?_); clear hG G; intro A J hJ
         have hle0 := Fz.le.trans hle0 hle284
         have hs342 := hs243.mono hle284
         have hs343 := hs244.mono hle284
         have hs344 := hs245.mono hle284
         have hs345 := hs246.mono hle284
         have hs346 := hs247.mono hle284
         have hs347 := hs248.mono hle284
         have hs348 := hs249.mono hle284
         have hs349 := hsyb47vv_0.mono hle284
         have hs350 := hleJ230.mono hle284
         refine s1 hFx 147 (.pointer (some ⟨b47, 2, none⟩)) ?_; intro a351 hF352; clear hFx
         refine nl (qnI (hJ _ _ ?_)); clear hJ J
         exact ⟨ud3, ud4, ud143, .pointer (some ⟨b47, 0, none⟩), .pointer (some ⟨b47, 0, none⟩), .pointer (some ⟨b47, 0, none⟩), .pointer (some ⟨b47, 2, none⟩), ud148, .row b47 [str yb47vv.Reader.Row, .int .i64 yb47vv.Reader.At, .int .i64 yb47vv.Reader.Code, .int .u8 yb47vv.Reader.c.last, .int .i64 yb47vv.Reader.c.n, .int .i64 yb47vv.f.ID, .bool yb47vv.f.Long, .bool yb47vv.f.Fast, .bool yb47vv.f.Remote, .int .i64 yb47vv.f.Size, .slice aoyb47vv_0 yb47vv.f.Data.length capyb47vv_0] 64, .row b2 [.int .i64 0, .bool false, .bool false, .bool false, .int .i64 0, .slice none 0 0] 24, hle284, hF352.region (by kernel_rfl) (by kernel_rfl), hMx.perm (List.Perm.refl _), cu3, (nt hx8), cu143, kf, kf, kf, kf, (nt hx5), rfl, rfl⟩
        · -- 5: load
         obtain rfl := Option.some.inj hi
         have hx4 := hpre 4 (by kernel_rfl)
         have hx3 := hcl 4 3 (by kernel_rfl) hx4
         have hx2 := hcl 3 2 (by kernel_rfl) hx3
         have hx1 := hcl 2 1 (by kernel_rfl) hx2
         have hx5 := hSi
         have hx8 := negF hcl 8 5 (by kernel_rfl) hx5
         obtain rfl := cu144 hx1
         obtain rfl := cu145 hx2
         obtain rfl := cu146 hx3
         obtain rfl := cu147 hx4
         obtain rfl := cr0_0
         obtain rfl := cr1_0
         refine hG (any_step ?_); clear hG G; intro A J hJ
         have hle0 := Fz.le.trans hle0 hle284
         have hs354 := hs243.mono hle284
         have hs355 := hs244.mono hle284
         have hs356 := hs245.mono hle284
         have hs357 := hs246.mono hle284
         have hs358 := hs247.mono hle284
         have hs359 := hs248.mono hle284
         have hs360 := hs249.mono hle284
         have hs361 := hsyb47vv_0.mono hle284
         have hs362 := hleJ230.mono hle284
         refine l1 hFx hMx 148 0 2 (.int .i64 yb47vv.Reader.Code) rfl rfl ?_; intro a363 hF364; clear hFx
         refine nl (qnI (hJ _ _ ?_)); clear hJ J
         exact ⟨ud3, ud4, ud143, .pointer (some ⟨b47, 0, none⟩), .pointer (some ⟨b47, 0, none⟩), .pointer (some ⟨b47, 0, none⟩), .pointer (some ⟨b47, 2, none⟩), .int .i64 yb47vv.Reader.Code, .row b47 [str yb47vv.Reader.Row, .int .i64 yb47vv.Reader.At, .int .i64 yb47vv.Reader.Code, .int .u8 yb47vv.Reader.c.last, .int .i64 yb47vv.Reader.c.n, .int .i64 yb47vv.f.ID, .bool yb47vv.f.Long, .bool yb47vv.f.Fast, .bool yb47vv.f.Remote, .int .i64 yb47vv.f.Size, .slice aoyb47vv_0 yb47vv.f.Data.length capyb47vv_0] 64, .row b2 [.int .i64 0, .bool false, .bool false, .bool false, .int .i64 0, .slice none 0 0] 24, hle284, hF364.region (by kernel_rfl) (by kernel_rfl), hMx.perm (List.Perm.refl _), cu3, (nt hx8), cu143, kf, kf, kf, kf, kf, rfl, rfl⟩
        · -- 6: store
         obtain rfl := Option.some.inj hi
         have hx0 := hpre 0 (by kernel_rfl)
         have hx6 := hSi
         have hx7 := negF hcl 7 6 (by kernel_rfl) hx6
         have hx8 := negF hcl 8 6 (by kernel_rfl) hx6
         obtain rfl := cu143 hx0
         obtain rfl := cr0_0
         obtain rfl := cr1_0
         refine hG (any_step ?_); clear hG G; intro A J hJ
         have hle0 := Fz.le.trans hle0 hle284
         have hs366 := hs243.mono hle284
         have hs367 := hs244.mono hle284
         have hs368 := hs245.mono hle284
         have hs369 := hs246.mono hle284
         have hs370 := hs247.mono hle284
         have hs371 := hs248.mono hle284
         have hs372 := hs249.mono hle284
         have hs373 := hsyb47vv_0.mono hle284
         have hs374 := hleJ230.mono hle284
         refine sr hFx hMx 1 [.int .i64 0, .bool false, .bool false, .bool false, .int .i64 0, .slice none 0 0] (b := b2) (off := 0) (cs := [.int .i64 0, .bool false, .bool false, .bool false, .int .i64 0, .slice none 0 0]) (ty := 24) (u := .agg #[.int .i64 0, .bool false, .bool false, .bool false, .int .i64 0, .slice none 0 0]) (nog rfl _) rfl rfl (by kernel_rfl) (by kernel_rfl) (by kernel_rfl) (by kernel_rfl) (by kernel_rfl) (by kernel_rfl) (by kernel_rfl) ?_; intro wd375 hM376; clear hMx
         refine nl (qnI (hJ _ _ ?_)); clear hJ J
         exact ⟨ud3, ud4, .agg #[.int .i64 0, .bool false, .bool false, .bool false, .int .i64 0, .slice none 0 0], ud144, ud145, ud146, ud147, ud148, .row b47 [str yb47vv.Reader.Row, .int .i64 yb47vv.Reader.At, .int .i64 yb47vv.Reader.Code, .int .u8 yb47vv.Reader.c.last, .int .i64 yb47vv.Reader.c.n, .int .i64 yb47vv.f.ID, .bool yb47vv.f.Long, .bool yb47vv.f.Fast, .bool yb47vv.f.Remote, .int .i64 yb47vv.f.Size, .slice aoyb47vv_0 yb47vv.f.Data.length capyb47vv_0] 64, .row b2 [.int .i64 0, .bool false, .bool false, .bool false, .int .i64 0, .slice none 0 0] 24, hle284, hFx.region (by kernel_rfl) (by kernel_rfl), hM376.perm (List.Perm.refl _), (nt hx7), (nt hx8), kf, cu144, cu145, cu146, cu147, cu148, rfl, rfl⟩
        · -- 7: assign
         obtain rfl := Option.some.inj hi
         have hx6 := hpre 6 (by kernel_rfl)
         have hx0 := hpre 0 (by kernel_rfl)
         have hx7 := hSi
         have hx8 := negF hcl 8 7 (by kernel_rfl) hx7
         obtain rfl := cu143 hx0
         obtain rfl := cr0_0
         obtain rfl := cr1_0
         refine hG (any_step ?_); clear hG G; intro A J hJ
         have hle0 := Fz.le.trans hle0 hle284
         have hs378 := hs243.mono hle284
         have hs379 := hs244.mono hle284
         have hs380 := hs245.mono hle284
         have hs381 := hs246.mono hle284
         have hs382 := hs247.mono hle284
         have hs383 := hs248.mono hle284
         have hs384 := hs249.mono hle284
         have hs385 := hsyb47vv_0.mono hle284
         have hs386 := hleJ230.mono hle284
         refine s1 hFx 3 (.int .i64 0) ?_; intro a387 hF388; clear hFx
         refine nl (qnI (hJ _ _ ?_)); clear hJ J
         exact ⟨.int .i64 0, ud4, .agg #[.int .i64 0, .bool false, .bool false, .bool false, .int .i64 0, .slice none 0 0], ud144, ud145, ud146, ud147, ud148, .row b47 [str yb47vv.Reader.Row, .int .i64 yb47vv.Reader.At, .int .i64 yb47vv.Reader.Code, .int .u8 yb47vv.Reader.c.last, .int .i64 yb47vv.Reader.c.n, .int .i64 yb47vv.f.ID, .bool yb47vv.f.Long, .bool yb47vv.f.Fast, .bool yb47vv.f.Remote, .int .i64 yb47vv.f.Size, .slice aoyb47vv_0 yb47vv.f.Data.length capyb47vv_0] 64, .row b2 [.int .i64 0, .bool false, .bool false, .bool false, .int .i64 0, .slice none 0 0] 24, hle284, hF388.region (by kernel_rfl) (by kernel_rfl), hMx.perm (List.Perm.refl _), kf, (nt hx8), kf, cu144, cu145, cu146, cu147, cu148, rfl, rfl⟩
        · -- 8: assign
         obtain rfl := Option.some.inj hi
         have hx7 := hpre 7 (by kernel_rfl)
         have hx6 := hpre 6 (by kernel_rfl)
         have hx5 := hpre 5 (by kernel_rfl)
         have hx4 := hpre 4 (by kernel_rfl)
         have hx3 := hpre 3 (by kernel_rfl)
         have hx2 := hpre 2 (by kernel_rfl)
         have hx1 := hpre 1 (by kernel_rfl)
         have hx0 := hpre 0 (by kernel_rfl)
         have hx8 := hSi
         obtain rfl := cu3 hx7
         obtain rfl := cu143 hx0
         obtain rfl := cu144 hx1
         obtain rfl := cu145 hx2
         obtain rfl := cu146 hx3
         obtain rfl := cu147 hx4
         obtain rfl := cu148 hx5
         obtain rfl := cr0_0
         obtain rfl := cr1_0
         refine hG (any_step ?_); clear hG G; intro A J hJ
         have hle0 := Fz.le.trans hle0 hle284
         have hs390 := hs243.mono hle284
         have hs391 := hs244.mono hle284
         have hs392 := hs245.mono hle284
         have hs393 := hs246.mono hle284
         have hs394 := hs247.mono hle284
         have hs395 := hs248.mono hle284
         have hs396 := hs249.mono hle284
         have hs397 := hsyb47vv_0.mono hle284
         have hs398 := hleJ230.mono hle284
         refine s1 hFx 4 (.int .i64 yb47vv.Reader.Code) ?_; intro a399 hF400; clear hFx
         refine nl (qnI (hJ _ _ ?_)); clear hJ J
         exact ⟨.int .i64 0, .int .i64 yb47vv.Reader.Code, .agg #[.int .i64 0, .bool false, .bool false, .bool false, .int .i64 0, .slice none 0 0], .pointer (some ⟨b47, 0, none⟩), .pointer (some ⟨b47, 0, none⟩), .pointer (some ⟨b47, 0, none⟩), .pointer (some ⟨b47, 2, none⟩), .int .i64 yb47vv.Reader.Code, .row b47 [str yb47vv.Reader.Row, .int .i64 yb47vv.Reader.At, .int .i64 yb47vv.Reader.Code, .int .u8 yb47vv.Reader.c.last, .int .i64 yb47vv.Reader.c.n, .int .i64 yb47vv.f.ID, .bool yb47vv.f.Long, .bool yb47vv.f.Fast, .bool yb47vv.f.Remote, .int .i64 yb47vv.f.Size, .slice aoyb47vv_0 yb47vv.f.Data.length capyb47vv_0] 64, .row b2 [.int .i64 0, .bool false, .bool false, .bool false, .int .i64 0, .slice none 0 0] 24, hle284, hF400.region (by kernel_rfl) (by kernel_rfl), hMx.perm (List.Perm.refl _), kf, kf, kf, kf, kf, kf, kf, kf, rfl, rfl⟩
       case hE =>
        intro S hS a402 wd403 hI; refine Go.Sy.hid ?_; intro G hG; obtain ⟨ud3, hI⟩ := hI; obtain ⟨ud4, hI⟩ := hI; obtain ⟨ud143, hI⟩ := hI; obtain ⟨ud144, hI⟩ := hI; obtain ⟨ud145, hI⟩ := hI; obtain ⟨ud146, hI⟩ := hI; obtain ⟨ud147, hI⟩ := hI; obtain ⟨ud148, hI⟩ := hI; obtain ⟨rh0, hI⟩ := hI; obtain ⟨rh1, hI⟩ := hI; obtain ⟨hle284, hI⟩ := hI; obtain ⟨hFx, hI⟩ := hI; obtain ⟨hMx, hI⟩ := hI; obtain ⟨cu3, hI⟩ := hI; obtain ⟨cu4, hI⟩ := hI; obtain ⟨cu143, hI⟩ := hI; obtain ⟨cu144, hI⟩ := hI; obtain ⟨cu145, hI⟩ := hI; obtain ⟨cu146, hI⟩ := hI; obtain ⟨cu147, hI⟩ := hI; obtain ⟨cu148, hI⟩ := hI; obtain ⟨cr0_0, hI⟩ := hI; have cr1_0 := hI; clear hI; refine hG ?_; clear hG G
        obtain rfl := cu3 (hS 7 (by decide))
        obtain rfl := cu4 (hS 8 (by decide))
        obtain rfl := cu143 (hS 0 (by decide))
        obtain rfl := cu144 (hS 1 (by decide))
        obtain rfl := cu145 (hS 2 (by decide))
        obtain rfl := cu146 (hS 3 (by decide))
        obtain rfl := cu147 (hS 4 (by decide))
        obtain rfl := cu148 (hS 5 (by decide))
        obtain rfl := cr0_0
        obtain rfl := cr1_0
        have hle0 := Fz.le.trans hle0 hle284
        have hs404 := hs243.mono hle284
        have hs405 := hs244.mono hle284
        have hs406 := hs245.mono hle284
        have hs407 := hs246.mono hle284
        have hs408 := hs247.mono hle284
        have hs409 := hs248.mono hle284
        have hs410 := hs249.mono hle284
        have hs411 := hsyb47vv_0.mono hle284
        have hs412 := hleJ230.mono hle284
        refine thn ?_
        refine wp_ret ?_
        refine thr ?_
        refine rt (fn := Tryd.f12) (v := .tuple #[.agg #[.int .i64 0, .bool false, .bool false, .bool false, .int .i64 0, .slice none 0 0], .int .i64 0, .int .i64 yb47vv.Reader.Code]) hFx (re3c hFx (fn := Tryd.f12) rfl (ad := ⟨b2, 0, none⟩) (by kernel_rfl) (loadVar_run hMx 1 (b := b2) (k := 6) (vs := [.int .i64 0, .bool false, .bool false, .bool false, .int .i64 0, .slice none 0 0]) (ty := 24) rfl (by kernel_rfl) (by kernel_rfl)) (by kernel_rfl) (by kernel_rfl)) ?_
        exact ⟨((⟨0, false, false, false, 0, []⟩ : Frame), 0, yb47vv.Reader.Code), none, 0, ZJ230, rfl, hp264, (SlR.nil _ _), hMx.keep (List.Sublist.cons _ (List.Sublist.cons _ (List.Sublist.slnil)))⟩
      · -- no
       have hp413 := hp242.2 hb263; clear hp242
       refine wp_skip ?_
       refine thn ?_
       have hF414 : Fr 158 [] [⟨2, [], .pointer (some ⟨b2, 0, none⟩)⟩, ⟨6, [], .pointer (some ⟨b47, 0, none⟩)⟩] a261 := hF262.region (by kernel_rfl) (by kernel_rfl); clear hF262
       refine wp_seq (any_invE mixed [[], [0], [1], [2], [], [4], [5], [6], [7], [0, 1, 2, 3], [0, 1, 2, 3, 4, 5, 6, 7, 8, 9], [0, 1, 2, 3, 4, 5, 6, 7, 8, 9, 10]] 12 (fun S a w1 => ∃ (ud3 : Value) (ud4 : Value) (ud149 : Value) (ud150 : Value) (ud151 : Value) (ud152 : Value) (ud153 : Value) (ud154 : Value) (ud155 : Value) (ud156 : Value) (ud157 : Value) (rh0 : Res) (rh1 : Res), Fz.le ZJ230 ZJ230 ∧ Fr 158 [] [⟨2, [], .pointer (some ⟨b2, 0, none⟩)⟩, ⟨3, [], ud3⟩, ⟨4, [], ud4⟩, ⟨6, [], .pointer (some ⟨b47, 0, none⟩)⟩, ⟨149, [], ud149⟩, ⟨150, [], ud150⟩, ⟨151, [], ud151⟩, ⟨152, [], ud152⟩, ⟨153, [], ud153⟩, ⟨154, [], ud154⟩, ⟨155, [], ud155⟩, ⟨156, [], ud156⟩, ⟨157, [], ud157⟩] a ∧ Mem w.heap.size [] w Z [rh0, rh1] ZJ230 w1 ∧ (S 10 = true → ud3 = .int .i64 yb47vv.Reader.At) ∧ (S 11 = true → ud4 = .int .i64 0) ∧ (S 0 = true → ud149 = .pointer (some ⟨b47, 0, none⟩)) ∧ (S 1 = true → ud150 = .pointer (some ⟨b47, 0, none⟩)) ∧ (S 2 = true → ud151 = .pointer (some ⟨b47, 5, none⟩)) ∧ (S 3 = true → ud152 = .agg #[.int .i64 yb47vv.f.ID, .bool yb47vv.f.Long, .bool yb47vv.f.Fast, .bool yb47vv.f.Remote, .int .i64 yb47vv.f.Size, .slice aoyb47vv_0 yb47vv.f.Data.length capyb47vv_0]) ∧ (S 4 = true → ud153 = .pointer (some ⟨b47, 0, none⟩)) ∧ (S 5 = true → ud154 = .pointer (some ⟨b47, 0, none⟩)) ∧ (S 6 = true → ud155 = .pointer (some ⟨b47, 0, none⟩)) ∧ (S 7 = true → ud156 = .pointer (some ⟨b47, 1, none⟩)) ∧ (S 8 = true → ud157 = .int .i64 yb47vv.Reader.At) ∧ (rh0 = .row b47 [str yb47vv.Reader.Row, .int .i64 yb47vv.Reader.At, .int .i64 yb47vv.Reader.Code, .int .u8 yb47vv.Reader.c.last, .int .i64 yb47vv.Reader.c.n, .int .i64 yb47vv.f.ID, .bool yb47vv.f.Long, .bool yb47vv.f.Fast, .bool yb47vv.f.Remote, .int .i64 yb47vv.f.Size, .slice aoyb47vv_0 yb47vv.f.Data.length capyb47vv_0] 64) ∧ (S 9 = false → rh1 = .row b2 [.int .i64 0, .bool false, .bool false, .bool false, .int .i64 0, .slice none 0 0] 24) ∧ (S 9 = true → rh1 = .row b2 [.int .i64 yb47vv.f.ID, .bool yb47vv.f.Long, .bool yb47vv.f.Fast, .bool yb47vv.f.Remote, .int .i64 yb47vv.f.Size, .slice aoyb47vv_0 yb47vv.f.Data.length capyb47vv_0] 24)) ?h0 ?hs ?hE)
       case h0 =>
        have hF440 := hF414.any 3
        have hF441 := hF440.any 4
        have hF442 := hF441.any 149
        have hF443 := hF442.any 150
        have hF444 := hF443.any 151
        have hF445 := hF444.any 152
        have hF446 := hF445.any 153
        have hF447 := hF446.any 154
        have hF448 := hF447.any 155
        have hF449 := hF448.any 156
        have hF450 := hF449.any 157
        have hM451 := (hM240.perm (List.Perm.refl _)).drew
        exact ⟨a261.tmps.getD 3 undef, a261.tmps.getD 4 undef, a261.tmps.getD 149 undef, a261.tmps.getD 150 undef, a261.tmps.getD 151 undef, a261.tmps.getD 152 undef, a261.tmps.getD 153 undef, a261.tmps.getD 154 undef, a261.tmps.getD 155 undef, a261.tmps.getD 156 undef, a261.tmps.getD 157 undef, .row b47 [str yb47vv.Reader.Row, .int .i64 yb47vv.Reader.At, .int .i64 yb47vv.Reader.Code, .int .u8 yb47vv.Reader.c.last, .int .i64 yb47vv.Reader.c.n, .int .i64 yb47vv.f.ID, .bool yb47vv.f.Long, .bool yb47vv.f.Fast, .bool yb47vv.f.Remote, .int .i64 yb47vv.f.Size, .slice aoyb47vv_0 yb47vv.f.Data.length capyb47vv_0] 64, .row b2 [.int .i64 0, .bool false, .bool false, .bool false, .int .i64 0, .slice none 0 0] 24, Fz.le.refl _, hF450.region (by kernel_rfl) (by kernel_rfl), hM451, ff, ff, ff, ff, ff, ff, ff, ff, ff, ff, ff, rfl, kf, ff⟩
       case hs =>
        intro S hcl i o hil hi hSi hpre a w1 hI; refine Go.Sy.hid ?_; intro G hG; obtain ⟨ud3, hI⟩ := hI; obtain ⟨ud4, hI⟩ := hI; obtain ⟨ud149, hI⟩ := hI; obtain ⟨ud150, hI⟩ := hI; obtain ⟨ud151, hI⟩ := hI; obtain ⟨ud152, hI⟩ := hI; obtain ⟨ud153, hI⟩ := hI; obtain ⟨ud154, hI⟩ := hI; obtain ⟨ud155, hI⟩ := hI; obtain ⟨ud156, hI⟩ := hI; obtain ⟨ud157, hI⟩ := hI; obtain ⟨rh0, hI⟩ := hI; obtain ⟨rh1, hI⟩ := hI; obtain ⟨hle439, hI⟩ := hI; obtain ⟨hFx, hI⟩ := hI; obtain ⟨hMx, hI⟩ := hI; obtain ⟨cu3, hI⟩ := hI; obtain ⟨cu4, hI⟩ := hI; obtain ⟨cu149, hI⟩ := hI; obtain ⟨cu150, hI⟩ := hI; obtain ⟨cu151, hI⟩ := hI; obtain ⟨cu152, hI⟩ := hI; obtain ⟨cu153, hI⟩ := hI; obtain ⟨cu154, hI⟩ := hI; obtain ⟨cu155, hI⟩ := hI; obtain ⟨cu156, hI⟩ := hI; obtain ⟨cu157, hI⟩ := hI; obtain ⟨cr0_0, hI⟩ := hI; obtain ⟨cr1_0, hI⟩ := hI; have cr1_1 := hI; clear hI
        have hcase : i = 0 ∨ i = 1 ∨ i = 2 ∨ i = 3 ∨ i = 4 ∨ i = 5 ∨ i = 6 ∨ i = 7 ∨ i = 8 ∨ i = 9 ∨ i = 10 ∨ i = 11 := by clear hi; omega
        rcases hcase with rfl | rfl | rfl | rfl | rfl | rfl | rfl | rfl | rfl | rfl | rfl | rfl
        · -- 0: move
         obtain rfl := Option.some.inj hi
         have hx0 := hSi
         have hx1 := negF hcl 1 0 (by kernel_rfl) hx0
         have hx2 := negF hcl 2 1 (by kernel_rfl) hx1
         have hx3 := negF hcl 3 2 (by kernel_rfl) hx2
         have hx9 := negF hcl 9 0 (by kernel_rfl) hx0
         have hx10 := negF hcl 10 0 (by kernel_rfl) hx0
         have hx11 := negF hcl 11 0 (by kernel_rfl) hx0
         obtain rfl := cr0_0
         obtain rfl := cr1_0 hx9
         refine hG (any_step ?_); clear hG G; intro A J hJ
         have hle0 := Fz.le.trans hle0 hle439
         have hs452 := hs243.mono hle439
         have hs453 := hs244.mono hle439
         have hs454 := hs245.mono hle439
         have hs455 := hs246.mono hle439
         have hs456 := hs247.mono hle439
         have hs457 := hs248.mono hle439
         have hs458 := hs249.mono hle439
         have hs459 := hsyb47vv_0.mono hle439
         have hs460 := hleJ230.mono hle439
         refine s1 hFx 149 (.pointer (some ⟨b47, 0, none⟩)) ?_; intro a461 hF462; clear hFx
         refine nl (qnI (hJ _ _ ?_)); clear hJ J
         exact ⟨ud3, ud4, .pointer (some ⟨b47, 0, none⟩), ud150, ud151, ud152, ud153, ud154, ud155, ud156, ud157, .row b47 [str yb47vv.Reader.Row, .int .i64 yb47vv.Reader.At, .int .i64 yb47vv.Reader.Code, .int .u8 yb47vv.Reader.c.last, .int .i64 yb47vv.Reader.c.n, .int .i64 yb47vv.f.ID, .bool yb47vv.f.Long, .bool yb47vv.f.Fast, .bool yb47vv.f.Remote, .int .i64 yb47vv.f.Size, .slice aoyb47vv_0 yb47vv.f.Data.length capyb47vv_0] 64, .row b2 [.int .i64 0, .bool false, .bool false, .bool false, .int .i64 0, .slice none 0 0] 24, hle439, hF462.region (by kernel_rfl) (by kernel_rfl), hMx.perm (List.Perm.refl _), (nt hx10), (nt hx11), kf, (nt hx1), (nt hx2), (nt hx3), cu153, cu154, cu155, cu156, cu157, rfl, kf, (nt hx9)⟩
        · -- 1: nilCheck
         obtain rfl := Option.some.inj hi
         have hx0 := hpre 0 (by kernel_rfl)
         have hx1 := hSi
         have hx2 := negF hcl 2 1 (by kernel_rfl) hx1
         have hx3 := negF hcl 3 2 (by kernel_rfl) hx2
         have hx9 := negF hcl 9 1 (by kernel_rfl) hx1
         have hx10 := negF hcl 10 1 (by kernel_rfl) hx1
         have hx11 := negF hcl 11 1 (by kernel_rfl) hx1
         obtain rfl := cu149 hx0
         obtain rfl := cr0_0
         obtain rfl := cr1_0 hx9
         refine hG (any_step ?_); clear hG G; intro A J hJ
         have hle0 := Fz.le.trans hle0 hle439
         have hs464 := hs243.mono hle439
         have hs465 := hs244.mono hle439
         have hs466 := hs245.mono hle439
         have hs467 := hs246.mono hle439
         have hs468 := hs247.mono hle439
         have hs469 := hs248.mono hle439
         have hs470 := hs249.mono hle439
         have hs471 := hsyb47vv_0.mono hle439
         have hs472 := hleJ230.mono hle439
         refine s1 hFx 150 (.pointer (some ⟨b47, 0, none⟩)) ?_; intro a473 hF474; clear hFx
         refine nl (qnI (hJ _ _ ?_)); clear hJ J
         exact ⟨ud3, ud4, .pointer (some ⟨b47, 0, none⟩), .pointer (some ⟨b47, 0, none⟩), ud151, ud152, ud153, ud154, ud155, ud156, ud157, .row b47 [str yb47vv.Reader.Row, .int .i64 yb47vv.Reader.At, .int .i64 yb47vv.Reader.Code, .int .u8 yb47vv.Reader.c.last, .int .i64 yb47vv.Reader.c.n, .int .i64 yb47vv.f.ID, .bool yb47vv.f.Long, .bool yb47vv.f.Fast, .bool yb47vv.f.Remote, .int .i64 yb47vv.f.Size, .slice aoyb47vv_0 yb47vv.f.Data.length capyb47vv_0] 64, .row b2 [.int .i64 0, .bool false, .bool false, .bool false, .int .i64 0, .slice none 0 0] 24, hle439, hF474.region (by kernel_rfl) (by kernel_rfl), hMx.perm (List.Perm.refl _), (nt hx10), (nt hx11), kf, kf, (nt hx2), (nt hx3), cu153, cu154, cu155, cu156, cu157, rfl, kf, (nt hx9)⟩
        · -- 2: fieldAddr
         obtain rfl := Option.some.inj hi
         have hx1 := hpre 1 (by kernel_rfl)
         have hx0 := hcl 1 0 (by kernel_rfl) hx1
         have hx2 := hSi
         have hx3 := negF hcl 3 2 (by kernel_rfl) hx2
         have hx9 := negF hcl 9 2 (by kernel_rfl) hx2
         have hx10 := negF hcl 10 2 (by kernel_rfl) hx2
         have hx11 := negF hcl 11 2 (by kernel_rfl) hx2
         obtain rfl := cu149 hx0
         obtain rfl := cu150 hx1
         obtain rfl := cr0_0
         obtain rfl := cr1_0 hx9
         refine hG (any_step ?_); clear hG G; intro A J hJ
         have hle0 := Fz.le.trans hle0 hle439
         have hs476 := hs243.mono hle439
         have hs477 := hs244.mono hle439
         have hs478 := hs245.mono hle439
         have hs479 := hs246.mono hle439
         have hs480 := hs247.mono hle439
         have hs481 := hs248.mono hle439
         have hs482 := hs249.mono hle439
         have hs483 := hsyb47vv_0.mono hle439
         have hs484 := hleJ230.mono hle439
         refine s1 hFx 151 (.pointer (some ⟨b47, 5, none⟩)) ?_; intro a485 hF486; clear hFx
         refine nl (qnI (hJ _ _ ?_)); clear hJ J
         exact ⟨ud3, ud4, .pointer (some ⟨b47, 0, none⟩), .pointer (some ⟨b47, 0, none⟩), .pointer (some ⟨b47, 5, none⟩), ud152, ud153, ud154, ud155, ud156, ud157, .row b47 [str yb47vv.Reader.Row, .int .i64 yb47vv.Reader.At, .int .i64 yb47vv.Reader.Code, .int .u8 yb47vv.Reader.c.last, .int .i64 yb47vv.Reader.c.n, .int .i64 yb47vv.f.ID, .bool yb47vv.f.Long, .bool yb47vv.f.Fast, .bool yb47vv.f.Remote, .int .i64 yb47vv.f.Size, .slice aoyb47vv_0 yb47vv.f.Data.length capyb47vv_0] 64, .row b2 [.int .i64 0, .bool false, .bool false, .bool false, .int .i64 0, .slice none 0 0] 24, hle439, hF486.region (by kernel_rfl) (by kernel_rfl), hMx.perm (List.Perm.refl _), (nt hx10), (nt hx11), kf, kf, kf, (nt hx3), cu153, cu154, cu155, cu156, cu157, rfl, kf, (nt hx9)⟩
        · -- 3: load
         obtain rfl := Option.some.inj hi
         have hx2 := hpre 2 (by kernel_rfl)
         have hx1 := hcl 2 1 (by kernel_rfl) hx2
         have hx0 := hcl 1 0 (by kernel_rfl) hx1
         have hx3 := hSi
         have hx9 := negF hcl 9 3 (by kernel_rfl) hx3
         have hx10 := negF hcl 10 3 (by kernel_rfl) hx3
         have hx11 := negF hcl 11 3 (by kernel_rfl) hx3
         obtain rfl := cu149 hx0
         obtain rfl := cu150 hx1
         obtain rfl := cu151 hx2
         obtain rfl := cr0_0
         obtain rfl := cr1_0 hx9
         refine hG (any_step ?_); clear hG G; intro A J hJ
         have hle0 := Fz.le.trans hle0 hle439
         have hs488 := hs243.mono hle439
         have hs489 := hs244.mono hle439
         have hs490 := hs245.mono hle439
         have hs491 := hs246.mono hle439
         have hs492 := hs247.mono hle439
         have hs493 := hs248.mono hle439
         have hs494 := hs249.mono hle439
         have hs495 := hsyb47vv_0.mono hle439
         have hs496 := hleJ230.mono hle439
         refine l2 hFx hMx 152 0 5 6 [.int .i64 yb47vv.f.ID, .bool yb47vv.f.Long, .bool yb47vv.f.Fast, .bool yb47vv.f.Remote, .int .i64 yb47vv.f.Size, .slice aoyb47vv_0 yb47vv.f.Data.length capyb47vv_0] rfl rfl ?_; intro a497 hF498; clear hFx
         refine nl (qnI (hJ _ _ ?_)); clear hJ J
         exact ⟨ud3, ud4, .pointer (some ⟨b47, 0, none⟩), .pointer (some ⟨b47, 0, none⟩), .pointer (some ⟨b47, 5, none⟩), .agg #[.int .i64 yb47vv.f.ID, .bool yb47vv.f.Long, .bool yb47vv.f.Fast, .bool yb47vv.f.Remote, .int .i64 yb47vv.f.Size, .slice aoyb47vv_0 yb47vv.f.Data.length capyb47vv_0], ud153, ud154, ud155, ud156, ud157, .row b47 [str yb47vv.Reader.Row, .int .i64 yb47vv.Reader.At, .int .i64 yb47vv.Reader.Code, .int .u8 yb47vv.Reader.c.last, .int .i64 yb47vv.Reader.c.n, .int .i64 yb47vv.f.ID, .bool yb47vv.f.Long, .bool yb47vv.f.Fast, .bool yb47vv.f.Remote, .int .i64 yb47vv.f.Size, .slice aoyb47vv_0 yb47vv.f.Data.length capyb47vv_0] 64, .row b2 [.int .i64 0, .bool false, .bool false, .bool false, .int .i64 0, .slice none 0 0] 24, hle439, hF498.region (by kernel_rfl) (by kernel_rfl), hMx.perm (List.Perm.refl _), (nt hx10), (nt hx11), kf, kf, kf, kf, cu153, cu154, cu155, cu156, cu157, rfl, kf, (nt hx9)⟩
        · -- 4: move
         obtain rfl := Option.some.inj hi
         have hx4 := hSi
         have hx5 := negF hcl 5 4 (by kernel_rfl) hx4
         have hx6 := negF hcl 6 5 (by kernel_rfl) hx5
         have hx7 := negF hcl 7 6 (by kernel_rfl) hx6
         have hx8 := negF hcl 8 7 (by kernel_rfl) hx7
         have hx10 := negF hcl 10 4 (by kernel_rfl) hx4
         have hx11 := negF hcl 11 4 (by kernel_rfl) hx4
         obtain rfl := cr0_0
         refine hG (any_step ?_); clear hG G; intro A J hJ
         have hle0 := Fz.le.trans hle0 hle439
         have hs500 := hs243.mono hle439
         have hs501 := hs244.mono hle439
         have hs502 := hs245.mono hle439
         have hs503 := hs246.mono hle439
         have hs504 := hs247.mono hle439
         have hs505 := hs248.mono hle439
         have hs506 := hs249.mono hle439
         have hs507 := hsyb47vv_0.mono hle439
         have hs508 := hleJ230.mono hle439
         refine s1 hFx 153 (.pointer (some ⟨b47, 0, none⟩)) ?_; intro a509 hF510; clear hFx
         refine nl (qnI (hJ _ _ ?_)); clear hJ J
         exact ⟨ud3, ud4, ud149, ud150, ud151, ud152, .pointer (some ⟨b47, 0, none⟩), ud154, ud155, ud156, ud157, .row b47 [str yb47vv.Reader.Row, .int .i64 yb47vv.Reader.At, .int .i64 yb47vv.Reader.Code, .int .u8 yb47vv.Reader.c.last, .int .i64 yb47vv.Reader.c.n, .int .i64 yb47vv.f.ID, .bool yb47vv.f.Long, .bool yb47vv.f.Fast, .bool yb47vv.f.Remote, .int .i64 yb47vv.f.Size, .slice aoyb47vv_0 yb47vv.f.Data.length capyb47vv_0] 64, rh1, hle439, hF510.region (by kernel_rfl) (by kernel_rfl), hMx.perm (List.Perm.refl _), (nt hx10), (nt hx11), cu149, cu150, cu151, cu152, kf, (nt hx5), (nt hx6), (nt hx7), (nt hx8), rfl, cr1_0, cr1_1⟩
        · -- 5: nilCheck
         obtain rfl := Option.some.inj hi
         have hx4 := hpre 4 (by kernel_rfl)
         have hx5 := hSi
         have hx6 := negF hcl 6 5 (by kernel_rfl) hx5
         have hx7 := negF hcl 7 6 (by kernel_rfl) hx6
         have hx8 := negF hcl 8 7 (by kernel_rfl) hx7
         have hx10 := negF hcl 10 5 (by kernel_rfl) hx5
         have hx11 := negF hcl 11 5 (by kernel_rfl) hx5
         obtain rfl := cu153 hx4
         obtain rfl := cr0_0
         refine hG (any_step ?_); clear hG G; intro A J hJ
         have hle0 := Fz.le.trans hle0 hle439
         have hs512 := hs243.mono hle439
         have hs513 := hs244.mono hle439
         have hs514 := hs245.mono hle439
         have hs515 := hs246.mono hle439
         have hs516 := hs247.mono hle439
         have hs517 := hs248.mono hle439
         have hs518 := hs249.mono hle439
         have hs519 := hsyb47vv_0.mono hle439
         have hs520 := hleJ230.mono hle439
         refine s1 hFx 154 (.pointer (some ⟨b47, 0, none⟩)) ?_; intro a521 hF522; clear hFx
         refine nl (qnI (hJ _ _ ?_)); clear hJ J
         exact ⟨ud3, ud4, ud149, ud150, ud151, ud152, .pointer (some ⟨b47, 0, none⟩), .pointer (some ⟨b47, 0, none⟩), ud155, ud156, ud157, .row b47 [str yb47vv.Reader.Row, .int .i64 yb47vv.Reader.At, .int .i64 yb47vv.Reader.Code, .int .u8 yb47vv.Reader.c.last, .int .i64 yb47vv.Reader.c.n, .int .i64 yb47vv.f.ID, .bool yb47vv.f.Long, .bool yb47vv.f.Fast, .bool yb47vv.f.Remote, .int .i64 yb47vv.f.Size, .slice aoyb47vv_0 yb47vv.f.Data.length capyb47vv_0] 64, rh1, hle439, hF522.region (by kernel_rfl) (by kernel_rfl), hMx.perm (List.Perm.refl _), (nt hx10), (nt hx11), cu149, cu150, cu151, cu152, kf, kf, (nt hx6), (nt hx7), (nt hx8), rfl, cr1_0, cr1_1⟩
        · -- 6: fieldAddr
         obtain rfl := Option.some.inj hi
         have hx5 := hpre 5 (by kernel_rfl)
         have hx4 := hcl 5 4 (by kernel_rfl) hx5
         have hx6 := hSi
         have hx7 := negF hcl 7 6 (by kernel_rfl) hx6
         have hx8 := negF hcl 8 7 (by kernel_rfl) hx7
         have hx10 := negF hcl 10 6 (by kernel_rfl) hx6
         have hx11 := negF hcl 11 6 (by kernel_rfl) hx6
         obtain rfl := cu153 hx4
         obtain rfl := cu154 hx5
         obtain rfl := cr0_0
         refine hG (any_step ?_); clear hG G; intro A J hJ
         have hle0 := Fz.le.trans hle0 hle439
         have hs524 := hs243.mono hle439
         have hs525 := hs244.mono hle439
         have hs526 := hs245.mono hle439
         have hs527 := hs246.mono hle439
         have hs528 := hs247.mono hle439
         have hs529 := hs248.mono hle439
         have hs530 := hs249.mono hle439
         have hs531 := hsyb47vv_0.mono hle439
         have hs532 := hleJ230.mono hle439
         refine s1 hFx 155 (.pointer (some ⟨b47, 0, none⟩)) ?_; intro a533 hF534; clear hFx
         refine nl (qnI (hJ _ _ ?_)); clear hJ J
         exact ⟨ud3, ud4, ud149, ud150, ud151, ud152, .pointer (some ⟨b47, 0, none⟩), .pointer (some ⟨b47, 0, none⟩), .pointer (some ⟨b47, 0, none⟩), ud156, ud157, .row b47 [str yb47vv.Reader.Row, .int .i64 yb47vv.Reader.At, .int .i64 yb47vv.Reader.Code, .int .u8 yb47vv.Reader.c.last, .int .i64 yb47vv.Reader.c.n, .int .i64 yb47vv.f.ID, .bool yb47vv.f.Long, .bool yb47vv.f.Fast, .bool yb47vv.f.Remote, .int .i64 yb47vv.f.Size, .slice aoyb47vv_0 yb47vv.f.Data.length capyb47vv_0] 64, rh1, hle439, hF534.region (by kernel_rfl) (by kernel_rfl), hMx.perm (List.Perm.refl _), (nt hx10), (nt hx11), cu149, cu150, cu151, cu152, kf, kf, kf, (nt hx7), (nt hx8), rfl, cr1_0, cr1_1⟩
        · -- 7: fieldAddr
         obtain rfl := Option.some.inj hi
         have hx6 := hpre 6 (by kernel_rfl)
         have hx5 := hcl 6 5 (by kernel_rfl) hx6
         have hx4 := hcl 5 4 (by kernel_rfl) hx5
         have hx7 := hSi
         have hx8 := negF hcl 8 7 (by kernel_rfl) hx7
         have hx10 := negF hcl 10 7 (by kernel_rfl) hx7
         have hx11 := negF hcl 11 7 (by kernel_rfl) hx7
         obtain rfl := cu153 hx4
         obtain rfl := cu154 hx5
         obtain rfl := cu155 hx6
         obtain rfl := cr0_0
         refine hG (any_step ?_); clear hG G; intro A J hJ
         have hle0 := Fz.le.trans hle0 hle439
         have hs536 := hs243.mono hle439
         have hs537 := hs244.mono hle439
         have hs538 := hs245.mono hle439
         have hs539 := hs246.mono hle439
         have hs540 := hs247.mono hle439
         have hs541 := hs248.mono hle439
         have hs542 := hs249.mono hle439
         have hs543 := hsyb47vv_0.mono hle439
         have hs544 := hleJ230.mono hle439
         refine s1 hFx 156 (.pointer (some ⟨b47, 1, none⟩)) ?_; intro a545 hF546; clear hFx
         refine nl (qnI (hJ _ _ ?_)); clear hJ J
         exact ⟨ud3, ud4, ud149, ud150, ud151, ud152, .pointer (some ⟨b47, 0, none⟩), .pointer (some ⟨b47, 0, none⟩), .pointer (some ⟨b47, 0, none⟩), .pointer (some ⟨b47, 1, none⟩), ud157, .row b47 [str yb47vv.Reader.Row, .int .i64 yb47vv.Reader.At, .int .i64 yb47vv.Reader.Code, .int .u8 yb47vv.Reader.c.last, .int .i64 yb47vv.Reader.c.n, .int .i64 yb47vv.f.ID, .bool yb47vv.f.Long, .bool yb47vv.f.Fast, .bool yb47vv.f.Remote, .int .i64 yb47vv.f.Size, .slice aoyb47vv_0 yb47vv.f.Data.length capyb47vv_0] 64, rh1, hle439, hF546.region (by kernel_rfl) (by kernel_rfl), hMx.perm (List.Perm.refl _), (nt hx10), (nt hx11), cu149, cu150, cu151, cu152, kf, kf, kf, kf, (nt hx8), rfl, cr1_0, cr1_1⟩
        · -- 8: load
         obtain rfl := Option.some.inj hi
         have hx7 := hpre 7 (by kernel_rfl)
         have hx6 := hcl 7 6 (by kernel_rfl) hx7
         have hx5 := hcl 6 5 (by kernel_rfl) hx6
         have hx4 := hcl 5 4 (by kernel_rfl) hx5
         have hx8 := hSi
         have hx10 := negF hcl 10 8 (by kernel_rfl) hx8
         have hx11 := negF hcl 11 8 (by kernel_rfl) hx8
         obtain rfl := cu153 hx4
         obtain rfl := cu154 hx5
         obtain rfl := cu155 hx6
         obtain rfl := cu156 hx7
         obtain rfl := cr0_0
         refine hG (any_step ?_); clear hG G; intro A J hJ
         have hle0 := Fz.le.trans hle0 hle439
         have hs548 := hs243.mono hle439
         have hs549 := hs244.mono hle439
         have hs550 := hs245.mono hle439
         have hs551 := hs246.mono hle439
         have hs552 := hs247.mono hle439
         have hs553 := hs248.mono hle439
         have hs554 := hs249.mono hle439
         have hs555 := hsyb47vv_0.mono hle439
         have hs556 := hleJ230.mono hle439
         refine l1 hFx hMx 157 0 1 (.int .i64 yb47vv.Reader.At) rfl rfl ?_; intro a557 hF558; clear hFx
         refine nl (qnI (hJ _ _ ?_)); clear hJ J
         exact ⟨ud3, ud4, ud149, ud150, ud151, ud152, .pointer (some ⟨b47, 0, none⟩), .pointer (some ⟨b47, 0, none⟩), .pointer (some ⟨b47, 0, none⟩), .pointer (some ⟨b47, 1, none⟩), .int .i64 yb47vv.Reader.At, .row b47 [str yb47vv.Reader.Row, .int .i64 yb47vv.Reader.At, .int .i64 yb47vv.Reader.Code, .int .u8 yb47vv.Reader.c.last, .int .i64 yb47vv.Reader.c.n, .int .i64 yb47vv.f.ID, .bool yb47vv.f.Long, .bool yb47vv.f.Fast, .bool yb47vv.f.Remote, .int .i64 yb47vv.f.Size, .slice aoyb47vv_0 yb47vv.f.Data.length capyb47vv_0] 64, rh1, hle439, hF558.region (by kernel_rfl) (by kernel_rfl), hMx.perm (List.Perm.refl _), (nt hx10), (nt hx11), cu149, cu150, cu151, cu152, kf, kf, kf, kf, kf, rfl, cr1_0, cr1_1⟩
        · -- 9: store
         obtain rfl := Option.some.inj hi
         have hx3 := hpre 3 (by kernel_rfl)
         have hx2 := hpre 2 (by kernel_rfl)
         have hx1 := hpre 1 (by kernel_rfl)
         have hx0 := hpre 0 (by kernel_rfl)
         have hx9 := hSi
         have hx10 := negF hcl 10 9 (by kernel_rfl) hx9
         have hx11 := negF hcl 11 9 (by kernel_rfl) hx9
         obtain rfl := cu149 hx0
         obtain rfl := cu150 hx1
         obtain rfl := cu151 hx2
         obtain rfl := cu152 hx3
         obtain rfl := cr0_0
         obtain rfl := cr1_0 hx9
         refine hG (any_step ?_); clear hG G; intro A J hJ
         have hle0 := Fz.le.trans hle0 hle439
         have hs560 := hs243.mono hle439
         have hs561 := hs244.mono hle439
         have hs562 := hs245.mono hle439
         have hs563 := hs246.mono hle439
         have hs564 := hs247.mono hle439
         have hs565 := hs248.mono hle439
         have hs566 := hs249.mono hle439
         have hs567 := hsyb47vv_0.mono hle439
         have hs568 := hleJ230.mono hle439
         refine sr hFx hMx 1 [.int .i64 yb47vv.f.ID, .bool yb47vv.f.Long, .bool yb47vv.f.Fast, .bool yb47vv.f.Remote, .int .i64 yb47vv.f.Size, .slice aoyb47vv_0 yb47vv.f.Data.length capyb47vv_0] (b := b2) (off := 0) (cs := [.int .i64 0, .bool false, .bool false, .bool false, .int .i64 0, .slice none 0 0]) (ty := 24) (u := .agg #[.int .i64 yb47vv.f.ID, .bool yb47vv.f.Long, .bool yb47vv.f.Fast, .bool yb47vv.f.Remote, .int .i64 yb47vv.f.Size, .slice aoyb47vv_0 yb47vv.f.Data.length capyb47vv_0]) (nog rfl _) rfl rfl (by kernel_rfl) (by kernel_rfl) (by kernel_rfl) (by kernel_rfl) (by kernel_rfl) (by kernel_rfl) (by kernel_rfl) ?_; intro wd569 hM570; clear hMx
         refine nl (qnI (hJ _ _ ?_)); clear hJ J
         exact ⟨ud3, ud4, .pointer (some ⟨b47, 0, none⟩), .pointer (some ⟨b47, 0, none⟩), .pointer (some ⟨b47, 5, none⟩), .agg #[.int .i64 yb47vv.f.ID, .bool yb47vv.f.Long, .bool yb47vv.f.Fast, .bool yb47vv.f.Remote, .int .i64 yb47vv.f.Size, .slice aoyb47vv_0 yb47vv.f.Data.length capyb47vv_0], ud153, ud154, ud155, ud156, ud157, .row b47 [str yb47vv.Reader.Row, .int .i64 yb47vv.Reader.At, .int .i64 yb47vv.Reader.Code, .int .u8 yb47vv.Reader.c.last, .int .i64 yb47vv.Reader.c.n, .int .i64 yb47vv.f.ID, .bool yb47vv.f.Long, .bool yb47vv.f.Fast, .bool yb47vv.f.Remote, .int .i64 yb47vv.f.Size, .slice aoyb47vv_0 yb47vv.f.Data.length capyb47vv_0] 64, .row b2 [.int .i64 yb47vv.f.ID, .bool yb47vv.f.Long, .bool yb47vv.f.Fast, .bool yb47vv.f.Remote, .int .i64 yb47vv.f.Size, .slice aoyb47vv_0 yb47vv.f.Data.length capyb47vv_0] 24, hle439, hFx.region (by kernel_rfl) (by kernel_rfl), hM570.perm (List.Perm.refl _), (nt hx10), (nt hx11), kf, kf, kf, kf, cu153, cu154, cu155, cu156, cu157, rfl, nu, kf⟩
        · -- 10: assign
         obtain rfl := Option.some.inj hi
         have hx9 := hpre 9 (by kernel_rfl)
         have hx8 := hpre 8 (by kernel_rfl)
         have hx7 := hpre 7 (by kernel_rfl)
         have hx6 := hpre 6 (by kernel_rfl)
         have hx5 := hpre 5 (by kernel_rfl)
         have hx4 := hpre 4 (by kernel_rfl)
         have hx3 := hpre 3 (by kernel_rfl)
         have hx2 := hpre 2 (by kernel_rfl)
         have hx1 := hpre 1 (by kernel_rfl)
         have hx0 := hpre 0 (by kernel_rfl)
         have hx10 := hSi
         have hx11 := negF hcl 11 10 (by kernel_rfl) hx10
         obtain rfl := cu149 hx0
         obtain rfl := cu150 hx1
         obtain rfl := cu151 hx2
         obtain rfl := cu152 hx3
         obtain rfl := cu153 hx4
         obtain rfl := cu154 hx5
         obtain rfl := cu155 hx6
         obtain rfl := cu156 hx7
         obtain rfl := cu157 hx8
         obtain rfl := cr0_0
         obtain rfl := cr1_1 hx9
         refine hG (any_step ?_); clear hG G; intro A J hJ
         have hle0 := Fz.le.trans hle0 hle439
         have hs572 := hs243.mono hle439
         have hs573 := hs244.mono hle439
         have hs574 := hs245.mono hle439
         have hs575 := hs246.mono hle439
         have hs576 := hs247.mono hle439
         have hs577 := hs248.mono hle439
         have hs578 := hs249.mono hle439
         have hs579 := hsyb47vv_0.mono hle439
         have hs580 := hleJ230.mono hle439
         refine s1 hFx 3 (.int .i64 yb47vv.Reader.At) ?_; intro a581 hF582; clear hFx
         refine nl (qnI (hJ _ _ ?_)); clear hJ J
         exact ⟨.int .i64 yb47vv.Reader.At, ud4, .pointer (some ⟨b47, 0, none⟩), .pointer (some ⟨b47, 0, none⟩), .pointer (some ⟨b47, 5, none⟩), .agg #[.int .i64 yb47vv.f.ID, .bool yb47vv.f.Long, .bool yb47vv.f.Fast, .bool yb47vv.f.Remote, .int .i64 yb47vv.f.Size, .slice aoyb47vv_0 yb47vv.f.Data.length capyb47vv_0], .pointer (some ⟨b47, 0, none⟩), .pointer (some ⟨b47, 0, none⟩), .pointer (some ⟨b47, 0, none⟩), .pointer (some ⟨b47, 1, none⟩), .int .i64 yb47vv.Reader.At, .row b47 [str yb47vv.Reader.Row, .int .i64 yb47vv.Reader.At, .int .i64 yb47vv.Reader.Code, .int .u8 yb47vv.Reader.c.last, .int .i64 yb47vv.Reader.c.n, .int .i64 yb47vv.f.ID, .bool yb47vv.f.Long, .bool yb47vv.f.Fast, .bool yb47vv.f.Remote, .int .i64 yb47vv.f.Size, .slice aoyb47vv_0 yb47vv.f.Data.length capyb47vv_0] 64, .row b2 [.int .i64 yb47vv.f.ID, .bool yb47vv.f.Long, .bool yb47vv.f.Fast, .bool yb47vv.f.Remote, .int .i64 yb47vv.f.Size, .slice aoyb47vv_0 yb47vv.f.Data.length capyb47vv_0] 24, hle439, hF582.region (by kernel_rfl) (by kernel_rfl), hMx.perm (List.Perm.refl _), kf, (nt hx11), kf, kf, kf, kf, kf, kf, kf, kf, kf, rfl, (tn hx9), kf⟩
        · -- 11: assign
         obtain rfl := Option.some.inj hi
         have hx10 := hpre 10 (by kernel_rfl)
         have hx9 := hpre 9 (by kernel_rfl)
         have hx8 := hpre 8 (by kernel_rfl)
         have hx7 := hpre 7 (by kernel_rfl)
         have hx6 := hpre 6 (by kernel_rfl)
         have hx5 := hpre 5 (by kernel_rfl)
         have hx4 := hpre 4 (by kernel_rfl)
         have hx3 := hpre 3 (by kernel_rfl)
         have hx2 := hpre 2 (by kernel_rfl)
         have hx1 := hpre 1 (by kernel_rfl)
         have hx0 := hpre 0 (by kernel_rfl)
         have hx11 := hSi
         obtain rfl := cu3 hx10
         obtain rfl := cu149 hx0
         obtain rfl := cu150 hx1
         obtain rfl := cu151 hx2
         obtain rfl := cu152 hx3
         obtain rfl := cu153 hx4
         obtain rfl := cu154 hx5
         obtain rfl := cu155 hx6
         obtain rfl := cu156 hx7
         obtain rfl := cu157 hx8
         obtain rfl := cr0_0
         obtain rfl := cr1_1 hx9
         refine hG (any_step ?_); clear hG G; intro A J hJ
         have hle0 := Fz.le.trans hle0 hle439
         have hs584 := hs243.mono hle439
         have hs585 := hs244.mono hle439
         have hs586 := hs245.mono hle439
         have hs587 := hs246.mono hle439
         have hs588 := hs247.mono hle439
         have hs589 := hs248.mono hle439
         have hs590 := hs249.mono hle439
         have hs591 := hsyb47vv_0.mono hle439
         have hs592 := hleJ230.mono hle439
         refine s1 hFx 4 (.int .i64 0) ?_; intro a593 hF594; clear hFx
         refine nl (qnI (hJ _ _ ?_)); clear hJ J
         exact ⟨.int .i64 yb47vv.Reader.At, .int .i64 0, .pointer (some ⟨b47, 0, none⟩), .pointer (some ⟨b47, 0, none⟩), .pointer (some ⟨b47, 5, none⟩), .agg #[.int .i64 yb47vv.f.ID, .bool yb47vv.f.Long, .bool yb47vv.f.Fast, .bool yb47vv.f.Remote, .int .i64 yb47vv.f.Size, .slice aoyb47vv_0 yb47vv.f.Data.length capyb47vv_0], .pointer (some ⟨b47, 0, none⟩), .pointer (some ⟨b47, 0, none⟩), .pointer (some ⟨b47, 0, none⟩), .pointer (some ⟨b47, 1, none⟩), .int .i64 yb47vv.Reader.At, .row b47 [str yb47vv.Reader.Row, .int .i64 yb47vv.Reader.At, .int .i64 yb47vv.Reader.Code, .int .u8 yb47vv.Reader.c.last, .int .i64 yb47vv.Reader.c.n, .int .i64 yb47vv.f.ID, .bool yb47vv.f.Long, .bool yb47vv.f.Fast, .bool yb47vv.f.Remote, .int .i64 yb47vv.f.Size, .slice aoyb47vv_0 yb47vv.f.Data.length capyb47vv_0] 64, .row b2 [.int .i64 yb47vv.f.ID, .bool yb47vv.f.Long, .bool yb47vv.f.Fast, .bool yb47vv.f.Remote, .int .i64 yb47vv.f.Size, .slice aoyb47vv_0 yb47vv.f.Data.length capyb47vv_0] 24, hle439, hF594.region (by kernel_rfl) (by kernel_rfl), hMx.perm (List.Perm.refl _), kf, kf, kf, kf, kf, kf, kf, kf, kf, kf, kf, rfl, (tn hx9), kf⟩
       case hE =>
        intro S hS a596 wd597 hI; refine Go.Sy.hid ?_; intro G hG; obtain ⟨ud3, hI⟩ := hI; obtain ⟨ud4, hI⟩ := hI; obtain ⟨ud149, hI⟩ := hI; obtain ⟨ud150, hI⟩ := hI; obtain ⟨ud151, hI⟩ := hI; obtain ⟨ud152, hI⟩ := hI; obtain ⟨ud153, hI⟩ := hI; obtain ⟨ud154, hI⟩ := hI; obtain ⟨ud155, hI⟩ := hI; obtain ⟨ud156, hI⟩ := hI; obtain ⟨ud157, hI⟩ := hI; obtain ⟨rh0, hI⟩ := hI; obtain ⟨rh1, hI⟩ := hI; obtain ⟨hle439, hI⟩ := hI; obtain ⟨hFx, hI⟩ := hI; obtain ⟨hMx, hI⟩ := hI; obtain ⟨cu3, hI⟩ := hI; obtain ⟨cu4, hI⟩ := hI; obtain ⟨cu149, hI⟩ := hI; obtain ⟨cu150, hI⟩ := hI; obtain ⟨cu151, hI⟩ := hI; obtain ⟨cu152, hI⟩ := hI; obtain ⟨cu153, hI⟩ := hI; obtain ⟨cu154, hI⟩ := hI; obtain ⟨cu155, hI⟩ := hI; obtain ⟨cu156, hI⟩ := hI; obtain ⟨cu157, hI⟩ := hI; obtain ⟨cr0_0, hI⟩ := hI; obtain ⟨cr1_0, hI⟩ := hI; have cr1_1 := hI; clear hI; refine hG ?_; clear hG G
        obtain rfl := cu3 (hS 10 (by decide))
        obtain rfl := cu4 (hS 11 (by decide))
        obtain rfl := cu149 (hS 0 (by decide))
        obtain rfl := cu150 (hS 1 (by decide))
        obtain rfl := cu151 (hS 2 (by decide))
        obtain rfl := cu152 (hS 3 (by decide))
        obtain rfl := cu153 (hS 4 (by decide))
        obtain rfl := cu154 (hS 5 (by decide))
        obtain rfl := cu155 (hS 6 (by decide))
        obtain rfl := cu156 (hS 7 (by decide))
        obtain rfl := cu157 (hS 8 (by decide))
        obtain rfl := cr0_0
        obtain rfl := cr1_1 (hS 9 (by decide))
        have hle0 := Fz.le.trans hle0 hle439
        have hs598 := hs243.mono hle439
        have hs599 := hs244.mono hle439
        have hs600 := hs245.mono hle439
        have hs601 := hs246.mono hle439
        have hs602 := hs247.mono hle439
        have hs603 := hs248.mono hle439
        have hs604 := hs249.mono hle439
        have hs605 := hsyb47vv_0.mono hle439
        have hs606 := hleJ230.mono hle439
        refine thn ?_
        refine wp_ret ?_
        refine rt (fn := Tryd.f12) (v := .tuple #[.agg #[.int .i64 yb47vv.f.ID, .bool yb47vv.f.Long, .bool yb47vv.f.Fast, .bool yb47vv.f.Remote, .int .i64 yb47vv.f.Size, .slice aoyb47vv_0 yb47vv.f.Data.length capyb47vv_0], .int .i64 yb47vv.Reader.At, .int .i64 0]) hFx (re3c hFx (fn := Tryd.f12) rfl (ad := ⟨b2, 0, none⟩) (by kernel_rfl) (loadVar_run hMx 1 (b := b2) (k := 6) (vs := [.int .i64 yb47vv.f.ID, .bool yb47vv.f.Long, .bool yb47vv.f.Fast, .bool yb47vv.f.Remote, .int .i64 yb47vv.f.Size, .slice aoyb47vv_0 yb47vv.f.Data.length capyb47vv_0]) (ty := 24) rfl (by kernel_rfl) (by kernel_rfl)) (by kernel_rfl) (by kernel_rfl)) ?_
        exact ⟨(yb47vv.f, yb47vv.Reader.At, 0), aoyb47vv_0, capyb47vv_0, ZJ230, rfl, hp413, hs605, hMx.keep (List.Sublist.cons _ (List.Sublist.cons _ (List.Sublist.slnil)))⟩
     have hle607 := Fz.le.refl Z162
     refine cd hF231 (t := (((r155.1.take (1 : Int).toNat) ++ ([49] : List UInt8)) ++ (r155.1.drop (2 : Int).toNat)) != ([49, 49, 49, 49, 49, 49, 49, 49, 49, 49] : List UInt8)) (by kernel_rfl) (fun hb608 => ?_) (fun hb608 => ?_)
     · -- yes
      have hp609 := hp232.1 hb608; clear hp232
      refine rgH ?_; intro hQ610Q hQ610
      refine s1 hF231 135 (.pointer (some ⟨b47, 0, none⟩)) ?_; intro a611 hF612; clear hF231
      refine cl hF612 39 #[.pointer (some ⟨b47, 0, none⟩), .int .i64 4] (nog rfl _) rfl (by kernel_rfl) (by kernel_rfl) ?_
      obtain ⟨r617, hr618⟩ : ∃ x, (rfailS r155.2 4) = x := ⟨_, rfl⟩; have hp619 := hp609 r617 hr618; clear hp609
      have h9 := rfail_fun r155.2 4 b47 ao159 cap160 _ _ _ _ _ _ hs161 hM228 hM228.fz; rw [hr618] at h9; refine h9.mono ?_; clear h9; rintro _ wd613 ⟨ao621, cap622, Z624, rfl, hle625, hs623, hm⟩; refine ⟨_, rfl, ?_⟩; intro a614 hF615; have hM616 := hm; clear hm hM228 hF612
      replace hs138 := hs138.mono hle625
      replace hs139 := hs139.mono hle625
      replace hs140 := hs140.mono hle625
      replace hs141 := hs141.mono hle625
      replace hsyb47v_0 := hsyb47v_0.mono hle625
      replace hleJ125 := hleJ125.mono hle625
      replace hs161 := hs161.mono hle625
      replace hle607 := hle607.mono hle625
      replace hle0 := Fz.le.trans hle0 hle625
      have hM626 : Mem w.heap.size [] w Z [.row b47 [str r617.Reader.Row, .int .i64 r617.Reader.At, .int .i64 r617.Reader.Code, .int .u8 r617.Reader.c.last, .int .i64 r617.Reader.c.n, .int .i64 r617.f.ID, .bool r617.f.Long, .bool r617.f.Fast, .bool r617.f.Remote, .int .i64 r617.f.Size, .slice ao621 r617.f.Data.length cap622] 64, .row b2 [.int .i64 0, .bool false, .bool false, .bool false, .int .i64 0, .slice none 0 0] 24] Z624 wd613 := hM616; clear hM616
      have hp627 := hp619 (hs623.small); clear hp619
      refine nlH (hQ610 _ _ ?_); clear hQ610 hQ610Q
      refine rd ?_
      exact hJ236 r617 ao621 cap622 Z624 ⟨hp627, hs623, hle607⟩ _ _ ((hF615.region (by kernel_rfl) (by kernel_rfl)).anyβ _ (by kernel_rfl)) (hM626.keep (List.Sublist.cons_cons _ (List.Sublist.cons_cons _ (List.Sublist.slnil))))
     · -- no
      have hp628 := hp232.2 hb608; clear hp232
      refine wp_skip ?_
      refine rd ?_
      exact hJ236 r155.2 ao159 cap160 Z162 ⟨hp628, hs161, hle607⟩ _ _ ((hF231.region (by kernel_rfl) (by kernel_rfl)).anyβ _ (by kernel_rfl)) (hM228.keep (List.Sublist.cons_cons _ (List.Sublist.cons_cons _ (List.Sublist.slnil))))
    · -- false
     have hp629 := hp165.2 hb169; clear hp165
     have hF630 : Fr 158 [] [⟨2, [], .pointer (some ⟨b2, 0, none⟩)⟩, ⟨6, [], .pointer (some ⟨b47, 0, none⟩)⟩, ⟨12, [], str r155.1⟩] a166 := hF168.region (by kernel_rfl) (by kernel_rfl); clear hF168
     refine sqQH mixed (by kernel_rfl) hM164 ?_; intro hQ631Q hQ631
     refine q1 hF630 120 (.pointer (some ⟨b47, 0, none⟩)) ?_; intro a633 hF634; clear hF630
     refine q1 hF634 121 (.pointer (some ⟨b47, 0, none⟩)) ?_; intro a636 hF637; clear hF634
     refine q1 hF637 122 (.pointer (some ⟨b47, 0, none⟩)) ?_; intro a639 hF640; clear hF637
     refine q1 hF640 123 (.pointer (some ⟨b47, 2, none⟩)) ?_; intro a642 hF643; clear hF640
     refine qst hF643 (.int .i64 r155.2.Reader.Code) (nog rfl _) rfl (by kernel_rfl) (fun v644 hC => ld hF643 hC 0 (g := []) (b := b47) (off := 2) (cs := [str r155.2.Reader.Row, .int .i64 r155.2.Reader.At, .int .i64 r155.2.Reader.Code, .int .u8 r155.2.Reader.c.last, .int .i64 r155.2.Reader.c.n, .int .i64 r155.2.f.ID, .bool r155.2.f.Long, .bool r155.2.f.Fast, .bool r155.2.f.Remote, .int .i64 r155.2.f.Size, .slice ao159 r155.2.f.Data.length cap160]) (ty := 64) rfl (by kernel_rfl) (by kernel_rfl) (by kernel_rfl) (by kernel_rfl) rfl) ?_; intro a645 hF646; clear hF643
     refine q1 hF646 125 (.bool (r155.2.Reader.Code == 0)) ?_; intro a648 hF649; clear hF646
     have hF650 := hF649.reval (d := 125) (c := []) (v := .bool (r155.2.Reader.Code == 0)) (by kernel_rfl) (.bool false) (by rw [hb169]); clear hF649
     refine q1 hF650 126 (.bool false) ?_; intro a652 hF653; clear hF650
     refine qsk hF653 (b := false) rfl rfl (by kernel_rfl) (by kernel_rfl) rfl rfl (by kernel_rfl) ?_; intro a654 hF655; clear hF653
     refine qsk hF655 (b := false) rfl rfl (by kernel_rfl) (by kernel_rfl) rfl rfl (by kernel_rfl) ?_; intro a656 hF657; clear hF655
     refine qsk hF657 (b := false) rfl rfl (by kernel_rfl) (by kernel_rfl) rfl rfl (by kernel_rfl) ?_; intro a658 hF659; clear hF657
     refine qsk hF659 (b := false) rfl rfl (by kernel_rfl) (by kernel_rfl) rfl rfl (by kernel_rfl) ?_; intro a660 hF661; clear hF659
     refine qsk hF661 (b := false) rfl rfl (by kernel_rfl) (by kernel_rfl) rfl rfl (by kernel_rfl) ?_; intro a662 hF663; clear hF661
     refine qsk hF663 (b := false) rfl rfl (by kernel_rfl) (by kernel_rfl) rfl rfl (by kernel_rfl) ?_; intro a664 hF665; clear hF663
     refine qsk hF665 (b := false) rfl rfl (by kernel_rfl) (by kernel_rfl) rfl rfl (by kernel_rfl) ?_; intro a666 hF667; clear hF665
     refine q1 hF667 134 (.bool false) ?_; intro a669 hF670; clear hF667
     refine qnl (hQ631 _ ?_); clear hQ631 hQ631Q; intro wd671 hM672; clear hM164
     refine cdF hF670 (by kernel_rfl) ?_
     refine wp_skip ?_
     refine thn ?_
     refine wp_seq ?_
     have hF673 : Fr 158 [] [⟨2, [], .pointer (some ⟨b2, 0, none⟩)⟩, ⟨6, [], .pointer (some ⟨b47, 0, none⟩)⟩] a669 := hF670.region (by kernel_rfl) (by kernel_rfl); clear hF670
     refine sqH ?_; intro hQ674Q hQ674
     refine s1 hF673 137 (.pointer (some ⟨b47, 0, none⟩)) ?_; intro a675 hF676; clear hF673
     refine s1 hF676 138 (.pointer (some ⟨b47, 0, none⟩)) ?_; intro a677 hF678; clear hF676
     refine s1 hF678 139 (.pointer (some ⟨b47, 0, none⟩)) ?_; intro a679 hF680; clear hF678
     refine s1 hF680 140 (.pointer (some ⟨b47, 2, none⟩)) ?_; intro a681 hF682; clear hF680
     refine l1 hF682 hM672 141 0 2 (.int .i64 r155.2.Reader.Code) rfl rfl ?_; intro a683 hF684; clear hF682
     refine s1 hF684 142 (.bool (r155.2.Reader.Code != 0)) ?_; intro a685 hF686; clear hF684
     refine nlH (hQ674 _ _ ?_); clear hQ674 hQ674Q
     refine cd hF686 (t := r155.2.Reader.Code != 0) (by kernel_rfl) (fun hb687 => ?_) (fun hb687 => ?_)
     · -- yes
      have hp688 := hp629.1 hb687; clear hp629
      have hF689 : Fr 158 [] [⟨2, [], .pointer (some ⟨b2, 0, none⟩)⟩, ⟨6, [], .pointer (some ⟨b47, 0, none⟩)⟩] a685 := hF686.region (by kernel_rfl) (by kernel_rfl); clear hF686
      refine wp_seq (any_invE mixed [[], [], [1], [2], [3], [4], [0], [0, 6], [0, 1, 2, 3, 4, 5, 6, 7]] 9 (fun S a w1 => ∃ (ud3 : Value) (ud4 : Value) (ud143 : Value) (ud144 : Value) (ud145 : Value) (ud146 : Value) (ud147 : Value) (ud148 : Value) (rh0 : Res) (rh1 : Res), Fz.le Z162 Z162 ∧ Fr 158 [] [⟨2, [], .pointer (some ⟨b2, 0, none⟩)⟩, ⟨3, [], ud3⟩, ⟨4, [], ud4⟩, ⟨6, [], .pointer (some ⟨b47, 0, none⟩)⟩, ⟨143, [], ud143⟩, ⟨144, [], ud144⟩, ⟨145, [], ud145⟩, ⟨146, [], ud146⟩, ⟨147, [], ud147⟩, ⟨148, [], ud148⟩] a ∧ Mem w.heap.size [] w Z [rh0, rh1] Z162 w1 ∧ (S 7 = true → ud3 = .int .i64 0) ∧ (S 8 = true → ud4 = .int .i64 r155.2.Reader.Code) ∧ (S 0 = true → ud143 = .agg #[.int .i64 0, .bool false, .bool false, .bool false, .int .i64 0, .slice none 0 0]) ∧ (S 1 = true → ud144 = .pointer (some ⟨b47, 0, none⟩)) ∧ (S 2 = true → ud145 = .pointer (some ⟨b47, 0, none⟩)) ∧ (S 3 = true → ud146 = .pointer (some ⟨b47, 0, none⟩)) ∧ (S 4 = true → ud147 = .pointer (some ⟨b47, 2, none⟩)) ∧ (S 5 = true → ud148 = .int .i64 r155.2.Reader.Code) ∧ (rh0 = .row b47 [str r155.2.Reader.Row, .int .i64 r155.2.Reader.At, .int .i64 r155.2.Reader.Code, .int .u8 r155.2.Reader.c.last, .int .i64 r155.2.Reader.c.n, .int .i64 r155.2.f.ID, .bool r155.2.f.Long, .bool r155.2.f.Fast, .bool r155.2.f.Remote, .int .i64 r155.2.f.Size, .slice ao159 r155.2.f.Data.length cap160] 64) ∧ (rh1 = .row b2 [.int .i64 0, .bool false, .bool false, .bool false, .int .i64 0, .slice none 0 0] 24)) ?h0 ?hs ?hE)
      case h0 =>
       have hF709 := hF689.any 3
       have hF710 := hF709.any 4
       have hF711 := hF710.any 143
       have hF712 := hF711.any 144
       have hF713 := hF712.any 145
       have hF714 := hF713.any 146
       have hF715 := hF714.any 147
       have hF716 := hF715.any 148
       have hM717 := (hM672.perm (List.Perm.refl _)).drew
       exact ⟨a685.tmps.getD 3 undef, a685.tmps.getD 4 undef, a685.tmps.getD 143 undef, a685.tmps.getD 144 undef, a685.tmps.getD 145 undef, a685.tmps.getD 146 undef, a685.tmps.getD 147 undef, a685.tmps.getD 148 undef, .row b47 [str r155.2.Reader.Row, .int .i64 r155.2.Reader.At, .int .i64 r155.2.Reader.Code, .int .u8 r155.2.Reader.c.last, .int .i64 r155.2.Reader.c.n, .int .i64 r155.2.f.ID, .bool r155.2.f.Long, .bool r155.2.f.Fast, .bool r155.2.f.Remote, .int .i64 r155.2.f.Size, .slice ao159 r155.2.f.Data.length cap160] 64, .row b2 [.int .i64 0, .bool false, .bool false, .bool false, .int .i64 0, .slice none 0 0] 24, Fz.le.refl _, hF716.region (by kernel_rfl) (by kernel_rfl), hM717, ff, ff, ff, ff, ff, ff, ff, ff, rfl, rfl⟩
      case hs =>
       intro S hcl i o hil hi hSi hpre a w1 hI; refine Go.Sy.hid ?_; intro G hG; obtain ⟨ud3, hI⟩ := hI; obtain ⟨ud4, hI⟩ := hI; obtain ⟨ud143, hI⟩ := hI; obtain ⟨ud144, hI⟩ := hI; obtain ⟨ud145, hI⟩ := hI; obtain ⟨ud146, hI⟩ := hI; obtain ⟨ud147, hI⟩ := hI; obtain ⟨ud148, hI⟩ := hI; obtain ⟨rh0, hI⟩ := hI; obtain ⟨rh1, hI⟩ := hI; obtain ⟨hle708, hI⟩ := hI; obtain ⟨hFx, hI⟩ := hI; obtain ⟨hMx, hI⟩ := hI; obtain ⟨cu3, hI⟩ := hI; obtain ⟨cu4, hI⟩ := hI; obtain ⟨cu143, hI⟩ := hI; obtain ⟨cu144, hI⟩ := hI; obtain ⟨cu145, hI⟩ := hI; obtain ⟨cu146, hI⟩ := hI; obtain ⟨cu147, hI⟩ := hI; obtain ⟨cu148, hI⟩ := hI; obtain ⟨cr0_0, hI⟩ := hI; have cr1_0 := hI; clear hI
       have hcase : i = 0 ∨ i = 1 ∨ i = 2 ∨ i = 3 ∨ i = 4 ∨ i = 5 ∨ i = 6 ∨ i = 7 ∨ i = 8 := by clear hi; omega
       rcases hcase with rfl | rfl | rfl | rfl | rfl | rfl | rfl | rfl | rfl
       · -- 0: build
        obtain rfl := Option.some.inj hi
        have hx0 := hSi
        have hx6 := negF hcl 6 0 (by kernel_rfl) hx0
        have hx7 := negF hcl 7 0 (by kernel_rfl) hx0
        have hx8 := negF hcl 8 0 (by kernel_rfl) hx0
        obtain rfl := cr0_0
        obtain rfl := cr1_0
        refine hG (any_step ?_); clear hG G; intro A J hJ
        have hle0 := Fz.le.trans hle0 hle708
        have hs718 := hs138.mono hle708
        have hs719 := hs139.mono hle708
        have hs720 := hs140.mono hle708
        have hs721 := hs141.mono hle708
        have hs722 := hsyb47v_0.mono hle708
        have hs723 := hleJ125.mono hle708
        have hs724 := hs161.mono hle708
        refine s1 hFx 143 (.agg #[.int .i64 0, .bool false, .bool false, .bool false, .int .i64 0, .slice none 0 0]) ?_; intro a725 hF726; clear hFx
        refine nl (qnI (hJ _ _ ?_)); clear hJ J
        exact ⟨ud3, ud4, .agg #[.int .i64 0, .bool false, .bool false, .bool false, .int .i64 0, .slice none 0 0], ud144, ud145, ud146, ud147, ud148, .row b47 [str r155.2.Reader.Row, .int .i64 r155.2.Reader.At, .int .i64 r155.2.Reader.Code, .int .u8 r155.2.Reader.c.last, .int .i64 r155.2.Reader.c.n, .int .i64 r155.2.f.ID, .bool r155.2.f.Long, .bool r155.2.f.Fast, .bool r155.2.f.Remote, .int .i64 r155.2.f.Size, .slice ao159 r155.2.f.Data.length cap160] 64, .row b2 [.int .i64 0, .bool false, .bool false, .bool false, .int .i64 0, .slice none 0 0] 24, hle708, hF726.region (by kernel_rfl) (by kernel_rfl), hMx.perm (List.Perm.refl _), (nt hx7), (nt hx8), kf, cu144, cu145, cu146, cu147, cu148, rfl, rfl⟩
       · -- 1: move
        obtain rfl := Option.some.inj hi
        have hx1 := hSi
        have hx2 := negF hcl 2 1 (by kernel_rfl) hx1
        have hx3 := negF hcl 3 2 (by kernel_rfl) hx2
        have hx4 := negF hcl 4 3 (by kernel_rfl) hx3
        have hx5 := negF hcl 5 4 (by kernel_rfl) hx4
        have hx8 := negF hcl 8 1 (by kernel_rfl) hx1
        obtain rfl := cr0_0
        obtain rfl := cr1_0
        refine hG (any_step ?_); clear hG G; intro A J hJ
        have hle0 := Fz.le.trans hle0 hle708
        have hs728 := hs138.mono hle708
        have hs729 := hs139.mono hle708
        have hs730 := hs140.mono hle708
        have hs731 := hs141.mono hle708
        have hs732 := hsyb47v_0.mono hle708
        have hs733 := hleJ125.mono hle708
        have hs734 := hs161.mono hle708
        refine s1 hFx 144 (.pointer (some ⟨b47, 0, none⟩)) ?_; intro a735 hF736; clear hFx
        refine nl (qnI (hJ _ _ ?_)); clear hJ J
        exact ⟨ud3, ud4, ud143, .pointer (some ⟨b47, 0, none⟩), ud145, ud146, ud147, ud148, .row b47 [str r155.2.Reader.Row, .int .i64 r155.2.Reader.At, .int .i64 r155.2.Reader.Code, .int .u8 r155.2.Reader.c.last, .int .i64 r155.2.Reader.c.n, .int .i64 r155.2.f.ID, .bool r155.2.f.Long, .bool r155.2.f.Fast, .bool r155.2.f.Remote, .int .i64 r155.2.f.Size, .slice ao159 r155.2.f.Data.length cap160] 64, .row b2 [.int .i64 0, .bool false, .bool false, .bool false, .int .i64 0, .slice none 0 0] 24, hle708, hF736.region (by kernel_rfl) (by kernel_rfl), hMx.perm (List.Perm.refl _), cu3, (nt hx8), cu143, kf, (nt hx2), (nt hx3), (nt hx4), (nt hx5), rfl, rfl⟩
       · -- 2: nilCheck
        obtain rfl := Option.some.inj hi
        have hx1 := hpre 1 (by kernel_rfl)
        have hx2 := hSi
        have hx3 := negF hcl 3 2 (by kernel_rfl) hx2
        have hx4 := negF hcl 4 3 (by kernel_rfl) hx3
        have hx5 := negF hcl 5 4 (by kernel_rfl) hx4
        have hx8 := negF hcl 8 2 (by kernel_rfl) hx2
        obtain rfl := cu144 hx1
        obtain rfl := cr0_0
        obtain rfl := cr1_0
        refine hG (any_step ?_); clear hG G; intro A J hJ
        have hle0 := Fz.le.trans hle0 hle708
        have hs738 := hs138.mono hle708
        have hs739 := hs139.mono hle708
        have hs740 := hs140.mono hle708
        have hs741 := hs141.mono hle708
        have hs742 := hsyb47v_0.mono hle708
        have hs743 := hleJ125.mono hle708
        have hs744 := hs161.mono hle708
        refine s1 hFx 145 (.pointer (some ⟨b47, 0, none⟩)) ?_; intro a745 hF746; clear hFx
        refine nl (qnI (hJ _ _ ?_)); clear hJ J
        exact ⟨ud3, ud4, ud143, .pointer (some ⟨b47, 0, none⟩), .pointer (some ⟨b47, 0, none⟩), ud146, ud147, ud148, .row b47 [str r155.2.Reader.Row, .int .i64 r155.2.Reader.At, .int .i64 r155.2.Reader.Code, .int .u8 r155.2.Reader.c.last, .int .i64 r155.2.Reader.c.n, .int .i64 r155.2.f.ID, .bool r155.2.f.Long, .bool r155.2.f.Fast, .bool r155.2.f.Remote, .int .i64 r155.2.f.Size, .slice ao159 r155.2.f.Data.length cap160] 64, .row b2 [.int .i64 0, .bool false, .bool false, .bool false, .int .i64 0, .slice none 0 0] 24, hle708, hF746.region (by kernel_rfl) (by kernel_rfl), hMx.perm (List.Perm.refl _), cu3, (nt hx8), cu143, kf, kf, (nt hx3), (nt hx4), (nt hx5), rfl, rfl⟩
       · -- 3: fieldAddr
        obtain rfl := Option.some.inj hi
        have hx2 := hpre 2 (by kernel_rfl)
        have hx1 := hcl 2 1 (by kernel_rfl) hx2
        have hx3 := hSi
        have hx4 := negF hcl 4 3 (by kernel_rfl) hx3
        have hx5 := negF hcl 5 4 (by kernel_rfl) hx4
        have hx8 := negF hcl 8 3 (by kernel_rfl) hx3
        obtain rfl := cu144 hx1
        obtain rfl := cu145 hx2
        obtain rfl := cr0_0
        obtain rfl := cr1_0
        refine hG (any_step ?_); clear hG G; intro A J hJ
        have hle0 := Fz.le.trans hle0 hle708
        have hs748 := hs138.mono hle708
        have hs749 := hs139.mono hle708
        have hs750 := hs140.mono hle708
        have hs751 := hs141.mono hle708
        have hs752 := hsyb47v_0.mono hle708
        have hs753 := hleJ125.mono hle708
        have hs754 := hs161.mono hle708
        refine s1 hFx 146 (.pointer (some ⟨b47, 0, none⟩)) ?_; intro a755 hF756; clear hFx
        refine nl (qnI (hJ _ _ ?_)); clear hJ J
        exact ⟨ud3, ud4, ud143, .pointer (some ⟨b47, 0, none⟩), .pointer (some ⟨b47, 0, none⟩), .pointer (some ⟨b47, 0, none⟩), ud147, ud148, .row b47 [str r155.2.Reader.Row, .int .i64 r155.2.Reader.At, .int .i64 r155.2.Reader.Code, .int .u8 r155.2.Reader.c.last, .int .i64 r155.2.Reader.c.n, .int .i64 r155.2.f.ID, .bool r155.2.f.Long, .bool r155.2.f.Fast, .bool r155.2.f.Remote, .int .i64 r155.2.f.Size, .slice ao159 r155.2.f.Data.length cap160] 64, .row b2 [.int .i64 0, .bool false, .bool false, .bool false, .int .i64 0, .slice none 0 0] 24, hle708, hF756.region (by kernel_rfl) (by kernel_rfl), hMx.perm (List.Perm.refl _), cu3, (nt hx8), cu143, kf, kf, kf, (nt hx4), (nt hx5), rfl, rfl⟩
       · -- 4: fieldAddr
        obtain rfl := Option.some.inj hi
        have hx3 := hpre 3 (by kernel_rfl)
        have hx2 := hcl 3 2 (by kernel_rfl) hx3
        have hx1 := hcl 2 1 (by kernel_rfl) hx2
        have hx4 := hSi
        have hx5 := negF hcl 5 4 (by kernel_rfl) hx4
        have hx8 := negF hcl 8 4 (by kernel_rfl) hx4
        obtain rfl := cu144 hx1
        obtain rfl := cu145 hx2
        obtain rfl := cu146 hx3
        obtain rfl := cr0_0
        obtain rfl := cr1_0
        refine hG (any_step ?_); clear hG G; intro A J hJ
        have hle0 := Fz.le.trans hle0 hle708
        have hs758 := hs138.mono hle708
        have hs759 := hs139.mono hle708
        have hs760 := hs140.mono hle708
        have hs761 := hs141.mono hle708
        have hs762 := hsyb47v_0.mono hle708
        have hs763 := hleJ125.mono hle708
        have hs764 := hs161.mono hle708
        refine s1 hFx 147 (.pointer (some ⟨b47, 2, none⟩)) ?_; intro a765 hF766; clear hFx
        refine nl (qnI (hJ _ _ ?_)); clear hJ J
        exact ⟨ud3, ud4, ud143, .pointer (some ⟨b47, 0, none⟩), .pointer (some ⟨b47, 0, none⟩), .pointer (some ⟨b47, 0, none⟩), .pointer (some ⟨b47, 2, none⟩), ud148, .row b47 [str r155.2.Reader.Row, .int .i64 r155.2.Reader.At, .int .i64 r155.2.Reader.Code, .int .u8 r155.2.Reader.c.last, .int .i64 r155.2.Reader.c.n, .int .i64 r155.2.f.ID, .bool r155.2.f.Long, .bool r155.2.f.Fast, .bool r155.2.f.Remote, .int .i64 r155.2.f.Size, .slice ao159 r155.2.f.Data.length cap160] 64, .row b2 [.int .i64 0, .bool false, .bool false, .bool false, .int .i64 0, .slice none 0 0] 24, hle708, hF766.region (by kernel_rfl) (by kernel_rfl), hMx.perm (List.Perm.refl _), cu3, (nt hx8), cu143, kf, kf, kf, kf, (nt hx5), rfl, rfl⟩
       · -- 5: load
        obtain rfl := Option.some.inj hi
        have hx4 := hpre 4 (by kernel_rfl)
        have hx3 := hcl 4 3 (by kernel_rfl) hx4
        have hx2 := hcl 3 2 (by kernel_rfl) hx3
        have hx1 := hcl 2 1 (by kernel_rfl) hx2
        have hx5 := hSi
        have hx8 := negF hcl 8 5 (by kernel_rfl) hx5
        obtain rfl := cu144 hx1
        obtain rfl := cu145 hx2
        obtain rfl := cu146 hx3
        obtain rfl := cu147 hx4
        obtain rfl := cr0_0
        obtain rfl := cr1_0
        refine hG (any_step ?_); clear hG G; intro A J hJ
        have hle0 := Fz.le.trans hle0 hle708
        have hs768 := hs138.mono hle708
        have hs769 := hs139.mono hle708
        have hs770 := hs140.mono hle708
        have hs771 := hs141.mono hle708
        have hs772 := hsyb47v_0.mono hle708
        have hs773 := hleJ125.mono hle708
        have hs774 := hs161.mono hle708
        refine l1 hFx hMx 148 0 2 (.int .i64 r155.2.Reader.Code) rfl rfl ?_; intro a775 hF776; clear hFx
        refine nl (qnI (hJ _ _ ?_)); clear hJ J
        exact ⟨ud3, ud4, ud143, .pointer (some ⟨b47, 0, none⟩), .pointer (some ⟨b47, 0, none⟩), .pointer (some ⟨b47, 0, none⟩), .pointer (some ⟨b47, 2, none⟩), .int .i64 r155.2.Reader.Code, .row b47 [str r155.2.Reader.Row, .int .i64 r155.2.Reader.At, .int .i64 r155.2.Reader.Code, .int .u8 r155.2.Reader.c.last, .int .i64 r155.2.Reader.c.n, .int .i64 r155.2.f.ID, .bool r155.2.f.Long, .bool r155.2.f.Fast, .bool r155.2.f.Remote, .int .i64 r155.2.f.Size, .slice ao159 r155.2.f.Data.length cap160] 64, .row b2 [.int .i64 0, .bool false, .bool false, .bool false, .int .i64 0, .slice none 0 0] 24, hle708, hF776.region (by kernel_rfl) (by kernel_rfl), hMx.perm (List.Perm.refl _), cu3, (nt hx8), cu143, kf, kf, kf, kf, kf, rfl, rfl⟩
       · -- 6: store
        obtain rfl := Option.some.inj hi
        have hx0 := hpre 0 (by kernel_rfl)
        have hx6 := hSi
        have hx7 := negF hcl 7 6 (by kernel_rfl) hx6
        have hx8 := negF hcl 8 6 (by kernel_rfl) hx6
        obtain rfl := cu143 hx0
        obtain rfl := cr0_0
        obtain rfl := cr1_0
        refine hG (any_step ?_); clear hG G; intro A J hJ
        have hle0 := Fz.le.trans hle0 hle708
        have hs778 := hs138.mono hle708
        have hs779 := hs139.mono hle708
        have hs780 := hs140.mono hle708
        have hs781 := hs141.mono hle708
        have hs782 := hsyb47v_0.mono hle708
        have hs783 := hleJ125.mono hle708
        have hs784 := hs161.mono hle708
        refine sr hFx hMx 1 [.int .i64 0, .bool false, .bool false, .bool false, .int .i64 0, .slice none 0 0] (b := b2) (off := 0) (cs := [.int .i64 0, .bool false, .bool false, .bool false, .int .i64 0, .slice none 0 0]) (ty := 24) (u := .agg #[.int .i64 0, .bool false, .bool false, .bool false, .int .i64 0, .slice none 0 0]) (nog rfl _) rfl rfl (by kernel_rfl) (by kernel_rfl) (by kernel_rfl) (by kernel_rfl) (by kernel_rfl) (by kernel_rfl) (by kernel_rfl) ?_; intro wd785 hM786; clear hMx
        refine nl (qnI (hJ _ _ ?_)); clear hJ J
        exact ⟨ud3, ud4, .agg #[.int .i64 0, .bool false, .bool false, .bool false, .int .i64 0, .slice none 0 0], ud144, ud145, ud146, ud147, ud148, .row b47 [str r155.2.Reader.Row, .int .i64 r155.2.Reader.At, .int .i64 r155.2.Reader.Code, .int .u8 r155.2.Reader.c.last, .int .i64 r155.2.Reader.c.n, .int .i64 r155.2.f.ID, .bool r155.2.f.Long, .bool r155.2.f.Fast, .bool r155.2.f.Remote, .int .i64 r155.2.f.Size, .slice ao159 r155.2.f.Data.length cap160] 64, .row b2 [.int .i64 0, .bool false, .bool false, .bool false, .int .i64 0, .slice none 0 0] 24, hle708, hFx.region (by kernel_rfl) (by kernel_rfl), hM786.perm (List.Perm.refl _), (nt hx7), (nt hx8), kf, cu144, cu145, cu146, cu147, cu148, rfl, rfl⟩
       · -- 7: assign
        obtain rfl := Option.some.inj hi
        have hx6 := hpre 6 (by kernel_rfl)
        have hx0 := hpre 0 (by kernel_rfl)
        have hx7 := hSi
        have hx8 := negF hcl 8 7 (by kernel_rfl) hx7
        obtain rfl := cu143 hx0
        obtain rfl := cr0_0
        obtain rfl := cr1_0
        refine hG (any_step ?_); clear hG G; intro A J hJ
        have hle0 := Fz.le.trans hle0 hle708
        have hs788 := hs138.mono hle708
        have hs789 := hs139.mono hle708
        have hs790 := hs140.mono hle708
        have hs791 := hs141.mono hle708
        have hs792 := hsyb47v_0.mono hle708
        have hs793 := hleJ125.mono hle708
        have hs794 := hs161.mono hle708
        refine s1 hFx 3 (.int .i64 0) ?_; intro a795 hF796; clear hFx
        refine nl (qnI (hJ _ _ ?_)); clear hJ J
        exact ⟨.int .i64 0, ud4, .agg #[.int .i64 0, .bool false, .bool false, .bool false, .int .i64 0, .slice none 0 0], ud144, ud145, ud146, ud147, ud148, .row b47 [str r155.2.Reader.Row, .int .i64 r155.2.Reader.At, .int .i64 r155.2.Reader.Code, .int .u8 r155.2.Reader.c.last, .int .i64 r155.2.Reader.c.n, .int .i64 r155.2.f.ID, .bool r155.2.f.Long, .bool r155.2.f.Fast, .bool r155.2.f.Remote, .int .i64 r155.2.f.Size, .slice ao159 r155.2.f.Data.length cap160] 64, .row b2 [.int .i64 0, .bool false, .bool false, .bool false, .int .i64 0, .slice none 0 0] 24, hle708, hF796.region (by kernel_rfl) (by kernel_rfl), hMx.perm (List.Perm.refl _), kf, (nt hx8), kf, cu144, cu145, cu146, cu147, cu148, rfl, rfl⟩
       · -- 8: assign
        obtain rfl := Option.some.inj hi
        have hx7 := hpre 7 (by kernel_rfl)
        have hx6 := hpre 6 (by kernel_rfl)
        have hx5 := hpre 5 (by kernel_rfl)
        have hx4 := hpre 4 (by kernel_rfl)
        have hx3 := hpre 3 (by kernel_rfl)
        have hx2 := hpre 2 (by kernel_rfl)
        have hx1 := hpre 1 (by kernel_rfl)
        have hx0 := hpre 0 (by kernel_rfl)
        have hx8 := hSi
        obtain rfl := cu3 hx7
        obtain rfl := cu143 hx0
        obtain rfl := cu144 hx1
        obtain rfl := cu145 hx2
        obtain rfl := cu146 hx3
        obtain rfl := cu147 hx4
        obtain rfl := cu148 hx5
        obtain rfl := cr0_0
        obtain rfl := cr1_0
        refine hG (any_step ?_); clear hG G; intro A J hJ
        have hle0 := Fz.le.trans hle0 hle708
        have hs798 := hs138.mono hle708
        have hs799 := hs139.mono hle708
        have hs800 := hs140.mono hle708
        have hs801 := hs141.mono hle708
        have hs802 := hsyb47v_0.mono hle708
        have hs803 := hleJ125.mono hle708
        have hs804 := hs161.mono hle708
        refine s1 hFx 4 (.int .i64 r155.2.Reader.Code) ?_; intro a805 hF806; clear hFx
        refine nl (qnI (hJ _ _ ?_)); clear hJ J
        exact ⟨.int .i64 0, .int .i64 r155.2.Reader.Code, .agg #[.int .i64 0, .bool false, .bool false, .bool false, .int .i64 0, .slice none 0 0], .pointer (some ⟨b47, 0, none⟩), .pointer (some ⟨b47, 0, none⟩), .pointer (some ⟨b47, 0, none⟩), .pointer (some ⟨b47, 2, none⟩), .int .i64 r155.2.Reader.Code, .row b47 [str r155.2.Reader.Row, .int .i64 r155.2.Reader.At, .int .i64 r155.2.Reader.Code, .int .u8 r155.2.Reader.c.last, .int .i64 r155.2.Reader.c.n, .int .i64 r155.2.f.ID, .bool r155.2.f.Long, .bool r155.2.f.Fast, .bool r155.2.f.Remote, .int .i64 r155.2.f.Size, .slice ao159 r155.2.f.Data.length cap160] 64, .row b2 [.int .i64 0, .bool false, .bool false, .bool false, .int .i64 0, .slice none 0 0] 24, hle708, hF806.region (by kernel_rfl) (by kernel_rfl), hMx.perm (List.Perm.refl _), kf, kf, kf, kf, kf, kf, kf, kf, rfl, rfl⟩
      case hE =>
       intro S hS a808 wd809 hI; refine Go.Sy.hid ?_; intro G hG; obtain ⟨ud3, hI⟩ := hI; obtain ⟨ud4, hI⟩ := hI; obtain ⟨ud143, hI⟩ := hI; obtain ⟨ud144, hI⟩ := hI; obtain ⟨ud145, hI⟩ := hI; obtain ⟨ud146, hI⟩ := hI; obtain ⟨ud147, hI⟩ := hI; obtain ⟨ud148, hI⟩ := hI; obtain ⟨rh0, hI⟩ := hI; obtain ⟨rh1, hI⟩ := hI; obtain ⟨hle708, hI⟩ := hI; obtain ⟨hFx, hI⟩ := hI; obtain ⟨hMx, hI⟩ := hI; obtain ⟨cu3, hI⟩ := hI; obtain ⟨cu4, hI⟩ := hI; obtain ⟨cu143, hI⟩ := hI; obtain ⟨cu144, hI⟩ := hI; obtain ⟨cu145, hI⟩ := hI; obtain ⟨cu146, hI⟩ := hI; obtain ⟨cu147, hI⟩ := hI; obtain ⟨cu148, hI⟩ := hI; obtain ⟨cr0_0, hI⟩ := hI; have cr1_0 := hI; clear hI; refine hG ?_; clear hG G
       obtain rfl := cu3 (hS 7 (by decide))
       obtain rfl := cu4 (hS 8 (by decide))
       obtain rfl := cu143 (hS 0 (by decide))
       obtain rfl := cu144 (hS 1 (by decide))
       obtain rfl := cu145 (hS 2 (by decide))
       obtain rfl := cu146 (hS 3 (by decide))
       obtain rfl := cu147 (hS 4 (by decide))
       obtain rfl := cu148 (hS 5 (by decide))
       obtain rfl := cr0_0
       obtain rfl := cr1_0
       have hle0 := Fz.le.trans hle0 hle708
       have hs810 := hs138.mono hle708
       have hs811 := hs139.mono hle708
       have hs812 := hs140.mono hle708
       have hs813 := hs141.mono hle708
       have hs814 := hsyb47v_0.mono hle708
       have hs815 := hleJ125.mono hle708
       have hs816 := hs161.mono hle708
       refine thn ?_
       refine wp_ret ?_
       refine thr ?_
       refine rt (fn := Tryd.f12) (v := .tuple #[.agg #[.int .i64 0, .bool false, .bool false, .bool false, .int .i64 0, .slice none 0 0], .int .i64 0, .int .i64 r155.2.Reader.Code]) hFx (re3c hFx (fn := Tryd.f12) rfl (ad := ⟨b2, 0, none⟩) (by kernel_rfl) (loadVar_run hMx 1 (b := b2) (k := 6) (vs := [.int .i64 0, .bool false, .bool false, .bool false, .int .i64 0, .slice none 0 0]) (ty := 24) rfl (by kernel_rfl) (by kernel_rfl)) (by kernel_rfl) (by kernel_rfl)) ?_
       exact ⟨((⟨0, false, false, false, 0, []⟩ : Frame), 0, r155.2.Reader.Code), none, 0, Z162, rfl, hp688, (SlR.nil _ _), hMx.keep (List.Sublist.cons _ (List.Sublist.cons _ (List.Sublist.slnil)))⟩
     · -- no
      have hp817 := hp629.2 hb687; clear hp629
      refine wp_skip ?_
      refine thn ?_
      have hF818 : Fr 158 [] [⟨2, [], .pointer (some ⟨b2, 0, none⟩)⟩, ⟨6, [], .pointer (some ⟨b47, 0, none⟩)⟩] a685 := hF686.region (by kernel_rfl) (by kernel_rfl); clear hF686
      refine wp_seq (any_invE mixed [[], [0], [1], [2], [], [4], [5], [6], [7], [0, 1, 2, 3], [0, 1, 2, 3, 4, 5, 6, 7, 8, 9], [0, 1, 2, 3, 4, 5, 6, 7, 8, 9, 10]] 12 (fun S a w1 => ∃ (ud3 : Value) (ud4 : Value) (ud149 : Value) (ud150 : Value) (ud151 : Value) (ud152 : Value) (ud153 : Value) (ud154 : Value) (ud155 : Value) (ud156 : Value) (ud157 : Value) (rh0 : Res) (rh1 : Res), Fz.le Z162 Z162 ∧ Fr 158 [] [⟨2, [], .pointer (some ⟨b2, 0, none⟩)⟩, ⟨3, [], ud3⟩, ⟨4, [], ud4⟩, ⟨6, [], .pointer (some ⟨b47, 0, none⟩)⟩, ⟨149, [], ud149⟩, ⟨150, [], ud150⟩, ⟨151, [], ud151⟩, ⟨152, [], ud152⟩, ⟨153, [], ud153⟩, ⟨154, [], ud154⟩, ⟨155, [], ud155⟩, ⟨156, [], ud156⟩, ⟨157, [], ud157⟩] a ∧ Mem w.heap.size [] w Z [rh0, rh1] Z162 w1 ∧ (S 10 = true → ud3 = .int .i64 r155.2.Reader.At) ∧ (S 11 = true → ud4 = .int .i64 0) ∧ (S 0 = true → ud149 = .pointer (some ⟨b47, 0, none⟩)) ∧ (S 1 = true → ud150 = .pointer (some ⟨b47, 0, none⟩)) ∧ (S 2 = true → ud151 = .pointer (some ⟨b47, 5, none⟩)) ∧ (S 3 = true → ud152 = .agg #[.int .i64 r155.2.f.ID, .bool r155.2.f.Long, .bool r155.2.f.Fast, .bool r155.2.f.Remote, .int .i64 r155.2.f.Size, .slice ao159 r155.2.f.Data.length cap160]) ∧ (S 4 = true → ud153 = .pointer (some ⟨b47, 0, none⟩)) ∧ (S 5 = true → ud154 = .pointer (some ⟨b47, 0, none⟩)) ∧ (S 6 = true → ud155 = .pointer (some ⟨b47, 0, none⟩)) ∧ (S 7 = true → ud156 = .pointer (some ⟨b47, 1, none⟩)) ∧ (S 8 = true → ud157 = .int .i64 r155.2.Reader.At) ∧ (rh0 = .row b47 [str r155.2.Reader.Row, .int .i64 r155.2.Reader.At, .int .i64 r155.2.Reader.Code, .int .u8 r155.2.Reader.c.last, .int .i64 r155.2.Reader.c.n, .int .i64 r155.2.f.ID, .bool r155.2.f.Long, .bool r155.2.f.Fast, .bool r155.2.f.Remote, .int .i64 r155.2.f.Size, .slice ao159 r155.2.f.Data.length cap160] 64) ∧ (S 9 = false → rh1 = .row b2 [.int .i64 0, .bool false, .bool false, .bool false, .int .i64 0, .slice none 0 0] 24) ∧ (S 9 = true → rh1 = .row b2 [.int .i64 r155.2.f.ID, .bool r155.2.f.Long, .bool r155.2.f.Fast, .bool r155.2.f.Remote, .int .i64 r155.2.f.Size, .slice ao159 r155.2.f.Data.length cap160] 24)) ?h0 ?hs ?hE)
      case h0 =>
       have hF844 := hF818.any 3
       have hF845 := hF844.any 4
       have hF846 := hF845.any 149
       have hF847 := hF846.any 150
       have hF848 := hF847.any 151
       have hF849 := hF848.any 152
       have hF850 := hF849.any 153
       have hF851 := hF850.any 154
       have hF852 := hF851.any 155
       have hF853 := hF852.any 156
       have hF854 := hF853.any 157
       have hM855 := (hM672.perm (List.Perm.refl _)).drew
       exact ⟨a685.tmps.getD 3 undef, a685.tmps.getD 4 undef, a685.tmps.getD 149 undef, a685.tmps.getD 150 undef, a685.tmps.getD 151 undef, a685.tmps.getD 152 undef, a685.tmps.getD 153 undef, a685.tmps.getD 154 undef, a685.tmps.getD 155 undef, a685.tmps.getD 156 undef, a685.tmps.getD 157 undef, .row b47 [str r155.2.Reader.Row, .int .i64 r155.2.Reader.At, .int .i64 r155.2.Reader.Code, .int .u8 r155.2.Reader.c.last, .int .i64 r155.2.Reader.c.n, .int .i64 r155.2.f.ID, .bool r155.2.f.Long, .bool r155.2.f.Fast, .bool r155.2.f.Remote, .int .i64 r155.2.f.Size, .slice ao159 r155.2.f.Data.length cap160] 64, .row b2 [.int .i64 0, .bool false, .bool false, .bool false, .int .i64 0, .slice none 0 0] 24, Fz.le.refl _, hF854.region (by kernel_rfl) (by kernel_rfl), hM855, ff, ff, ff, ff, ff, ff, ff, ff, ff, ff, ff, rfl, kf, ff⟩
      case hs =>
       intro S hcl i o hil hi hSi hpre a w1 hI; refine Go.Sy.hid ?_; intro G hG; obtain ⟨ud3, hI⟩ := hI; obtain ⟨ud4, hI⟩ := hI; obtain ⟨ud149, hI⟩ := hI; obtain ⟨ud150, hI⟩ := hI; obtain ⟨ud151, hI⟩ := hI; obtain ⟨ud152, hI⟩ := hI; obtain ⟨ud153, hI⟩ := hI; obtain ⟨ud154, hI⟩ := hI; obtain ⟨ud155, hI⟩ := hI; obtain ⟨ud156, hI⟩ := hI; obtain ⟨ud157, hI⟩ := hI; obtain ⟨rh0, hI⟩ := hI; obtain ⟨rh1, hI⟩ := hI; obtain ⟨hle843, hI⟩ := hI; obtain ⟨hFx, hI⟩ := hI; obtain ⟨hMx, hI⟩ := hI; obtain ⟨cu3, hI⟩ := hI; obtain ⟨cu4, hI⟩ := hI; obtain ⟨cu149, hI⟩ := hI; obtain ⟨cu150, hI⟩ := hI; obtain ⟨cu151, hI⟩ := hI; obtain ⟨cu152, hI⟩ := hI; obtain ⟨cu153, hI⟩ := hI; obtain ⟨cu154, hI⟩ := hI; obtain ⟨cu155, hI⟩ := hI; obtain ⟨cu156, hI⟩ := hI; obtain ⟨cu157, hI⟩ := hI; obtain ⟨cr0_0, hI⟩ := hI; obtain ⟨cr1_0, hI⟩ := hI; have cr1_1 := hI; clear hI
       have hcase : i = 0 ∨ i = 1 ∨ i = 2 ∨ i = 3 ∨ i = 4 ∨ i = 5 ∨ i = 6 ∨ i = 7 ∨ i = 8 ∨ i = 9 ∨ i = 10 ∨ i = 11 := by clear hi; omega
       rcases hcase with rfl | rfl | rfl | rfl | rfl | rfl | rfl | rfl | rfl | rfl | rfl | rfl
       · -- 0: move
        obtain rfl := Option.some.inj hi
        have hx0 := hSi
        have hx1 := negF hcl 1 0 (by kernel_rfl) hx0
        have hx2 := negF hcl 2 1 (by kernel_rfl) hx1
        have hx3 := negF hcl 3 2 (by kernel_rfl) hx2
        have hx9 := negF hcl 9 0 (by kernel_rfl) hx0
        have hx10 := negF hcl 10 0 (by kernel_rfl) hx0
        have hx11 := negF hcl 11 0 (by kernel_rfl) hx0
        obtain rfl := cr0_0
        obtain rfl := cr1_0 hx9
        refine hG (any_step ?_); clear hG G; intro A J hJ
        have hle0 := Fz.le.trans hle0 hle843
        have hs856 := hs138.mono hle843
        have hs857 := hs139.mono hle843
        have hs858 := hs140.mono hle843
        have hs859 := hs141.mono hle843
        have hs860 := hsyb47v_0.mono hle843
        have hs861 := hleJ125.mono hle843
        have hs862 := hs161.mono hle843
        refine s1 hFx 149 (.pointer (some ⟨b47, 0, none⟩)) ?_; intro a863 hF864; clear hFx
        refine nl (qnI (hJ _ _ ?_)); clear hJ J
        exact ⟨ud3, ud4, .pointer (some ⟨b47, 0, none⟩), ud150, ud151, ud152, ud153, ud154, ud155, ud156, ud157, .row b47 [str r155.2.Reader.Row, .int .i64 r155.2.Reader.At, .int .i64 r155.2.Reader.Code, .int .u8 r155.2.Reader.c.last, .int .i64 r155.2.Reader.c.n, .int .i64 r155.2.f.ID, .bool r155.2.f.Long, .bool r155.2.f.Fast, .bool r155.2.f.Remote, .int .i64 r155.2.f.Size, .slice ao159 r155.2.f.Data.length cap160] 64, .row b2 [.int .i64 0, .bool false, .bool false, .bool false, .int .i64 0, .slice none 0 0] 24, hle843, hF864.region (by kernel_rfl) (by kernel_rfl), hMx.perm (List.Perm.refl _), (nt hx10), (nt hx11), kf, (nt hx1), (nt hx2), (nt hx3), cu153, cu154, cu155, cu156, cu157, rfl, kf, (nt hx9)⟩
       · -- 1: nilCheck
        obtain rfl := Option.some.inj hi
        have hx0 := hpre 0 (by kernel_rfl)
        have hx1 := hSi
        have hx2 := negF hcl 2 1 (by kernel_rfl) hx1
        have hx3 := negF hcl 3 2 (by kernel_rfl) hx2
        have hx9 := negF hcl 9 1 (by kernel_rfl) hx1
        have hx10 := negF hcl 10 1 (by kernel_rfl) hx1
        have hx11 := negF hcl 11 1 (by kernel_rfl) hx1
        obtain rfl := cu149 hx0
        obtain rfl := cr0_0
        obtain rfl := cr1_0 hx9
        refine hG (any_step ?_); clear hG G; intro A J hJ
        have hle0 := Fz.le.trans hle0 hle843
        have hs866 := hs138.mono hle843
        have hs867 := hs139.mono hle843
        have hs868 := hs140.mono hle843
        have hs869 := hs141.mono hle843
        have hs870 := hsyb47v_0.mono hle843
        have hs871 := hleJ125.mono hle843
        have hs872 := hs161.mono hle843
        refine s1 hFx 150 (.pointer (some ⟨b47, 0, none⟩)) ?_; intro a873 hF874; clear hFx
        refine nl (qnI (hJ _ _ ?_)); clear hJ J
        exact ⟨ud3, ud4, .pointer (some ⟨b47, 0, none⟩), .pointer (some ⟨b47, 0, none⟩), ud151, ud152, ud153, ud154, ud155, ud156, ud157, .row b47 [str r155.2.Reader.Row, .int .i64 r155.2.Reader.At, .int .i64 r155.2.Reader.Code, .int .u8 r155.2.Reader.c.last, .int .i64 r155.2.Reader.c.n, .int .i64 r155.2.f.ID, .bool r155.2.f.Long, .bool r155.2.f.Fast, .bool r155.2.f.Remote, .int .i64 r155.2.f.Size, .slice ao159 r155.2.f.Data.length cap160] 64, .row b2 [.int .i64 0, .bool false, .bool false, .bool false, .int .i64 0, .slice none 0 0] 24, hle843, hF874.region (by kernel_rfl) (by kernel_rfl), hMx.perm (List.Perm.refl _), (nt hx10), (nt hx11), kf, kf, (nt hx2), (nt hx3), cu153, cu154, cu155, cu156, cu157, rfl, kf, (nt hx9)⟩
       · -- 2: fieldAddr
        obtain rfl := Option.some.inj hi
        have hx1 := hpre 1 (by kernel_rfl)
        have hx0 := hcl 1 0 (by kernel_rfl) hx1
        have hx2 := hSi
        have hx3 := negF hcl 3 2 (by kernel_rfl) hx2
        have hx9 := negF hcl 9 2 (by kernel_rfl) hx2
        have hx10 := negF hcl 10 2 (by kernel_rfl) hx2
        have hx11 := negF hcl 11 2 (by kernel_rfl) hx2
        obtain rfl := cu149 hx0
        obtain rfl := cu150 hx1
        obtain rfl := cr0_0
        obtain rfl := cr1_0 hx9
        refine hG (any_step ?_); clear hG G; intro A J hJ
        have hle0 := Fz.le.trans hle0 hle843
        have hs876 := hs138.mono hle843
        have hs877 := hs139.mono hle843
        have hs878 := hs140.mono hle843
        have hs879 := hs141.mono hle843
        have hs880 := hsyb47v_0.mono hle843
        have hs881 := hleJ125.mono hle843
        have hs882 := hs161.mono hle843
        refine s1 hFx 151 (.pointer (some ⟨b47, 5, none⟩)) ?_; intro a883 hF884; clear hFx
        refine nl (qnI (hJ _ _ ?_)); clear hJ J
        exact ⟨ud3, ud4, .pointer (some ⟨b47, 0, none⟩), .pointer (some ⟨b47, 0, none⟩), .pointer (some ⟨b47, 5, none⟩), ud152, ud153, ud154, ud155, ud156, ud157, .row b47 [str r155.2.Reader.Row, .int .i64 r155.2.Reader.At, .int .i64 r155.2.Reader.Code, .int .u8 r155.2.Reader.c.last, .int .i64 r155.2.Reader.c.n, .int .i64 r155.2.f.ID, .bool r155.2.f.Long, .bool r155.2.f.Fast, .bool r155.2.f.Remote, .int .i64 r155.2.f.Size, .slice ao159 r155.2.f.Data.length cap160] 64, .row b2 [.int .i64 0, .bool false, .bool false, .bool false, .int .i64 0, .slice none 0 0] 24, hle843, hF884.region (by kernel_rfl) (by kernel_rfl), hMx.perm (List.Perm.refl _), (nt hx10), (nt hx11), kf, kf, kf, (nt hx3), cu153, cu154, cu155, cu156, cu157, rfl, kf, (nt hx9)⟩
       · -- 3: load
        obtain rfl := Option.some.inj hi
        have hx2 := hpre 2 (by kernel_rfl)
        have hx1 := hcl 2 1 (by kernel_rfl) hx2
        have hx0 := hcl 1 0 (by kernel_rfl) hx1
        have hx3 := hSi
        have hx9 := negF hcl 9 3 (by kernel_rfl) hx3
        have hx10 := negF hcl 10 3 (by kernel_rfl) hx3
        have hx11 := negF hcl 11 3 (by kernel_rfl) hx3
        obtain rfl := cu149 hx0
        obtain rfl := cu150 hx1
        obtain rfl := cu151 hx2
        obtain rfl := cr0_0
        obtain rfl := cr1_0 hx9
        refine hG (any_step ?_); clear hG G; intro A J hJ
        have hle0 := Fz.le.trans hle0 hle843
        have hs886 := hs138.mono hle843
        have hs887 := hs139.mono hle843
        have hs888 := hs140.mono hle843
        have hs889 := hs141.mono hle843
        have hs890 := hsyb47v_0.mono hle843
        have hs891 := hleJ125.mono hle843
        have hs892 := hs161.mono hle843
        refine l2 hFx hMx 152 0 5 6 [.int .i64 r155.2.f.ID, .bool r155.2.f.Long, .bool r155.2.f.Fast, .bool r155.2.f.Remote, .int .i64 r155.2.f.Size, .slice ao159 r155.2.f.Data.length cap160] rfl rfl ?_; intro a893 hF894; clear hFx
        refine nl (qnI (hJ _ _ ?_)); clear hJ J
        exact ⟨ud3, ud4, .pointer (some ⟨b47, 0, none⟩), .pointer (some ⟨b47, 0, none⟩), .pointer (some ⟨b47, 5, none⟩), .agg #[.int .i64 r155.2.f.ID, .bool r155.2.f.Long, .bool r155.2.f.Fast, .bool r155.2.f.Remote, .int .i64 r155.2.f.Size, .slice ao159 r155.2.f.Data.length cap160], ud153, ud154, ud155, ud156, ud157, .row b47 [str r155.2.Reader.Row, .int .i64 r155.2.Reader.At, .int .i64 r155.2.Reader.Code, .int .u8 r155.2.Reader.c.last, .int .i64 r155.2.Reader.c.n, .int .i64 r155.2.f.ID, .bool r155.2.f.Long, .bool r155.2.f.Fast, .bool r155.2.f.Remote, .int .i64 r155.2.f.Size, .slice ao159 r155.2.f.Data.length cap160] 64, .row b2 [.int .i64 0, .bool false, .bool false, .bool false, .int .i64 0, .slice none 0 0] 24, hle843, hF894.region (by kernel_rfl) (by kernel_rfl), hMx.perm (List.Perm.refl _), (nt hx10), (nt hx11), kf, kf, kf, kf, cu153, cu154, cu155, cu156, cu157, rfl, kf, (nt hx9)⟩
       · -- 4: move
        obtain rfl := Option.some.inj hi
        have hx4 := hSi
        have hx5 := negF hcl 5 4 (by kernel_rfl) hx4
        have hx6 := negF hcl 6 5 (by kernel_rfl) hx5
        have hx7 := negF hcl 7 6 (by kernel_rfl) hx6
        have hx8 := negF hcl 8 7 (by kernel_rfl) hx7
        have hx10 := negF hcl 10 4 (by kernel_rfl) hx4
        have hx11 := negF hcl 11 4 (by kernel_rfl) hx4
        obtain rfl := cr0_0
        refine hG (any_step ?_); clear hG G; intro A J hJ
        have hle0 := Fz.le.trans hle0 hle843
        have hs896 := hs138.mono hle843
        have hs897 := hs139.mono hle843
        have hs898 := hs140.mono hle843
        have hs899 := hs141.mono hle843
        have hs900 := hsyb47v_0.mono hle843
        have hs901 := hleJ125.mono hle843
        have hs902 := hs161.mono hle843
        refine s1 hFx 153 (.pointer (some ⟨b47, 0, none⟩)) ?_; intro a903 hF904; clear hFx
        refine nl (qnI (hJ _ _ ?_)); clear hJ J
        exact ⟨ud3, ud4, ud149, ud150, ud151, ud152, .pointer (some ⟨b47, 0, none⟩), ud154, ud155, ud156, ud157, .row b47 [str r155.2.Reader.Row, .int .i64 r155.2.Reader.At, .int .i64 r155.2.Reader.Code, .int .u8 r155.2.Reader.c.last, .int .i64 r155.2.Reader.c.n, .int .i64 r155.2.f.ID, .bool r155.2.f.Long, .bool r155.2.f.Fast, .bool r155.2.f.Remote, .int .i64 r155.2.f.Size, .slice ao159 r155.2.f.Data.length cap160] 64, rh1, hle843, hF904.region (by kernel_rfl) (by kernel_rfl), hMx.perm (List.Perm.refl _), (nt hx10), (nt hx11), cu149, cu150, cu151, cu152, kf, (nt hx5), (nt hx6), (nt hx7), (nt hx8), rfl, cr1_0, cr1_1⟩
       · -- 5: nilCheck
        obtain rfl := Option.some.inj hi
        have hx4 := hpre 4 (by kernel_rfl)
        have hx5 := hSi
        have hx6 := negF hcl 6 5 (by kernel_rfl) hx5
        have hx7 := negF hcl 7 6 (by kernel_rfl) hx6
        have hx8 := negF hcl 8 7 (by kernel_rfl) hx7
        have hx10 := negF hcl 10 5 (by kernel_rfl) hx5
        have hx11 := negF hcl 11 5 (by kernel_rfl) hx5
        obtain rfl := cu153 hx4
        obtain rfl := cr0_0
        refine hG (any_step ?_); clear hG G; intro A J hJ
        have hle0 := Fz.le.trans hle0 hle843
        have hs906 := hs138.mono hle843
        have hs907 := hs139.mono hle843
        have hs908 := hs140.mono hle843
        have hs909 := hs141.mono hle843
        have hs910 := hsyb47v_0.mono hle843
        have hs911 := hleJ125.mono hle843
        have hs912 := hs161.mono hle843
        refine s1 hFx 154 (.pointer (some ⟨b47, 0, none⟩)) ?_; intro a913 hF914; clear hFx
        refine nl (qnI (hJ _ _ ?_)); clear hJ J
        exact ⟨ud3, ud4, ud149, ud150, ud151, ud152, .pointer (some ⟨b47, 0, none⟩), .pointer (some ⟨b47, 0, none⟩), ud155, ud156, ud157, .row b47 [str r155.2.Reader.Row, .int .i64 r155.2.Reader.At, .int .i64 r155.2.Reader.Code, .int .u8 r155.2.Reader.c.last, .int .i64 r155.2.Reader.c.n, .int .i64 r155.2.f.ID, .bool r155.2.f.Long, .bool r155.2.f.Fast, .bool r155.2.f.Remote, .int .i64 r155.2.f.Size, .slice ao159 r155.2.f.Data.length cap160] 64, rh1, hle843, hF914.region (by kernel_rfl) (by kernel_rfl), hMx.perm (List.Perm.refl _), (nt hx10), (nt hx11), cu149, cu150, cu151, cu152, kf, kf, (nt hx6), (nt hx7), (nt hx8), rfl, cr1_0, cr1_1⟩
       · -- 6: fieldAddr
        obtain rfl := Option.some.inj hi
        have hx5 := hpre 5 (by kernel_rfl)
        have hx4 := hcl 5 4 (by kernel_rfl) hx5
        have hx6 := hSi
        have hx7 := negF hcl 7 6 (by kernel_rfl) hx6
        have hx8 := negF hcl 8 7 (by kernel_rfl) hx7
        have hx10 := negF hcl 10 6 (by kernel_rfl) hx6
        have hx11 := negF hcl 11 6 (by kernel_rfl) hx6
        obtain rfl := cu153 hx4
        obtain rfl := cu154 hx5
        obtain rfl := cr0_0
        refine hG (any_step ?_); clear hG G; intro A J hJ
        have hle0 := Fz.le.trans hle0 hle843
        have hs916 := hs138.mono hle843
        have hs917 := hs139.mono hle843
        have hs918 := hs140.mono hle843
        have hs919 := hs141.mono hle843
        have hs920 := hsyb47v_0.mono hle843
        have hs921 := hleJ125.mono hle843
        have hs922 := hs161.mono hle843
        refine s1 hFx 155 (.pointer (some ⟨b47, 0, none⟩)) ?_; intro a923 hF924; clear hFx
        refine nl (qnI (hJ _ _ ?_)); clear hJ J
        exact ⟨ud3, ud4, ud149, ud150, ud151, ud152, .pointer (some ⟨b47, 0, none⟩), .pointer (some ⟨b47, 0, none⟩), .pointer (some ⟨b47, 0, none⟩), ud156, ud157, .row b47 [str r155.2.Reader.Row, .int .i64 r155.2.Reader.At, .int .i64 r155.2.Reader.Code, .int .u8 r155.2.Reader.c.last, .int .i64 r155.2.Reader.c.n, .int .i64 r155.2.f.ID, .bool r155.2.f.Long, .bool r155.2.f.Fast, .bool r155.2.f.Remote, .int .i64 r155.2.f.Size, .slice ao159 r155.2.f.Data.length cap160] 64, rh1, hle843, hF924.region (by kernel_rfl) (by kernel_rfl), hMx.perm (List.Perm.refl _), (nt hx10), (nt hx11), cu149, cu150, cu151, cu152, kf, kf, kf, (nt hx7), (nt hx8), rfl, cr1_0, cr1_1⟩
       · -- 7: fieldAddr
        obtain rfl := Option.some.inj hi
        have hx6 := hpre 6 (by kernel_rfl)
        have hx5 := hcl 6 5 (by kernel_rfl) hx6
        have hx4 := hcl 5 4 (by kernel_rfl) hx5
        have hx7 := hSi
        have hx8 := negF hcl 8 7 (by kernel_rfl) hx7
        have hx10 := negF hcl 10 7 (by kernel_rfl) hx7
        have hx11 := negF hcl 11 7 (by kernel_rfl) hx7
        obtain rfl := cu153 hx4
        obtain rfl := cu154 hx5
        obtain rfl := cu155 hx6
        obtain rfl := cr0_0
        refine hG (any_step ?_); clear hG G; intro A J hJ
        have hle0 := Fz.le.trans hle0 hle843
        have hs926 := hs138.mono hle843
        have hs927 := hs139.mono hle843
        have hs928 := hs140.mono hle843
        have hs929 := hs141.mono hle843
        have hs930 := hsyb47v_0.mono hle843
        have hs931 := hleJ125.mono hle843
        have hs932 := hs161.mono hle843
        refine s1 hFx 156 (.pointer (some ⟨b47, 1, none⟩)) ?_; intro a933 hF934; clear hFx
        refine nl (qnI (hJ _ _ ?_)); clear hJ J
        exact ⟨ud3, ud4, ud149, ud150, ud151, ud152, .pointer (some ⟨b47, 0, none⟩), .pointer (some ⟨b47, 0, none⟩), .pointer (some ⟨b47, 0, none⟩), .pointer (some ⟨b47, 1, none⟩), ud157, .row b47 [str r155.2.Reader.Row, .int .i64 r155.2.Reader.At, .int .i64 r155.2.Reader.Code, .int .u8 r155.2.Reader.c.last, .int .i64 r155.2.Reader.c.n, .int .i64 r155.2.f.ID, .bool r155.2.f.Long, .bool r155.2.f.Fast, .bool r155.2.f.Remote, .int .i64 r155.2.f.Size, .slice ao159 r155.2.f.Data.length cap160] 64, rh1, hle843, hF934.region (by kernel_rfl) (by kernel_rfl), hMx.perm (List.Perm.refl _), (nt hx10), (nt hx11), cu149, cu150, cu151, cu152, kf, kf, kf, kf, (nt hx8), rfl, cr1_0, cr1_1⟩
       · -- 8: load
        obtain rfl := Option.some.inj hi
        have hx7 := hpre 7 (by kernel_rfl)
        have hx6 := hcl 7 6 (by kernel_rfl) hx7
        have hx5 := hcl 6 5 (by kernel_rfl) hx6
        have hx4 := hcl 5 4 (by kernel_rfl) hx5
        have hx8 := hSi
        have hx10 := negF hcl 10 8 (by kernel_rfl) hx8
        have hx11 := negF hcl 11 8 (by kernel_rfl) hx8
        obtain rfl := cu153 hx4
        obtain rfl := cu154 hx5
        obtain rfl := cu155 hx6
        obtain rfl := cu156 hx7
        obtain rfl := cr0_0
        refine hG (any_step ?_); clear hG G; intro A J hJ
        have hle0 := Fz.le.trans hle0 hle843
        have hs936 := hs138.mono hle843
        have hs937 := hs139.mono hle843
        have hs938 := hs140.mono hle843
        have hs939 := hs141.mono hle843
        have hs940 := hsyb47v_0.mono hle843
        have hs941 := hleJ125.mono hle843
        have hs942 := hs161.mono hle843
        refine l1 hFx hMx 157 0 1 (.int .i64 r155.2.Reader.At) rfl rfl ?_; intro a943 hF944; clear hFx
        refine nl (qnI (hJ _ _ ?_)); clear hJ J
        exact ⟨ud3, ud4, ud149, ud150, ud151, ud152, .pointer (some ⟨b47, 0, none⟩), .pointer (some ⟨b47, 0, none⟩), .pointer (some ⟨b47, 0, none⟩), .pointer (some ⟨b47, 1, none⟩), .int .i64 r155.2.Reader.At, .row b47 [str r155.2.Reader.Row, .int .i64 r155.2.Reader.At, .int .i64 r155.2.Reader.Code, .int .u8 r155.2.Reader.c.last, .int .i64 r155.2.Reader.c.n, .int .i64 r155.2.f.ID, .bool r155.2.f.Long, .bool r155.2.f.Fast, .bool r155.2.f.Remote, .int .i64 r155.2.f.Size, .slice ao159 r155.2.f.Data.length cap160] 64, rh1, hle843, hF944.region (by kernel_rfl) (by kernel_rfl), hMx.perm (List.Perm.refl _), (nt hx10), (nt hx11), cu149, cu150, cu151, cu152, kf, kf, kf, kf, kf, rfl, cr1_0, cr1_1⟩
       · -- 9: store
        obtain rfl := Option.some.inj hi
        have hx3 := hpre 3 (by kernel_rfl)
        have hx2 := hpre 2 (by kernel_rfl)
        have hx1 := hpre 1 (by kernel_rfl)
        have hx0 := hpre 0 (by kernel_rfl)
        have hx9 := hSi
        have hx10 := negF hcl 10 9 (by kernel_rfl) hx9
        have hx11 := negF hcl 11 9 (by kernel_rfl) hx9
        obtain rfl := cu149 hx0
        obtain rfl := cu150 hx1
        obtain rfl := cu151 hx2
        obtain rfl := cu152 hx3
        obtain rfl := cr0_0
        obtain rfl := cr1_0 hx9
        refine hG (any_step ?_); clear hG G; intro A J hJ
        have hle0 := Fz.le.trans hle0 hle843
        have hs946 := hs138.mono hle843
        have hs947 := hs139.mono hle843
        have hs948 := hs140.mono hle843
        have hs949 := hs141.mono hle843
        have hs950 := hsyb47v_0.mono hle843
        have hs951 := hleJ125.mono hle843
        have hs952 := hs161.mono hle843
        refine sr hFx hMx 1 [.int .i64 r155.2.f.ID, .bool r155.2.f.Long, .bool r155.2.f.Fast, .bool r155.2.f.Remote, .int .i64 r155.2.f.Size, .slice ao159 r155.2.f.Data.length cap160] (b := b2) (off := 0) (cs := [.int .i64 0, .bool false, .bool false, .bool false, .int .i64 0, .slice none 0 0]) (ty := 24) (u := .agg #[.int .i64 r155.2.f.ID, .bool r155.2.f.Long, .bool r155.2.f.Fast, .bool r155.2.f.Remote, .int .i64 r155.2.f.Size, .slice ao159 r155.2.f.Data.length cap160]) (nog rfl _) rfl rfl (by kernel_rfl) (by kernel_rfl) (by kernel_rfl) (by kernel_rfl) (by kernel_rfl) (by kernel_rfl) (by kernel_rfl) ?_; intro wd953 hM954; clear hMx
        refine nl (qnI (hJ _ _ ?_)); clear hJ J
        exact ⟨ud3, ud4, .pointer (some ⟨b47, 0, none⟩), .pointer (some ⟨b47, 0, none⟩), .pointer (some ⟨b47, 5, none⟩), .agg #[.int .i64 r155.2.f.ID, .bool r155.2.f.Long, .bool r155.2.f.Fast, .bool r155.2.f.Remote, .int .i64 r155.2.f.Size, .slice ao159 r155.2.f.Data.length cap160], ud153, ud154, ud155, ud156, ud157, .row b47 [str r155.2.Reader.Row, .int .i64 r155.2.Reader.At, .int .i64 r155.2.Reader.Code, .int .u8 r155.2.Reader.c.last, .int .i64 r155.2.Reader.c.n, .int .i64 r155.2.f.ID, .bool r155.2.f.Long, .bool r155.2.f.Fast, .bool r155.2.f.Remote, .int .i64 r155.2.f.Size, .slice ao159 r155.2.f.Data.length cap160] 64, .row b2 [.int .i64 r155.2.f.ID, .bool r155.2.f.Long, .bool r155.2.f.Fast, .bool r155.2.f.Remote, .int .i64 r155.2.f.Size, .slice ao159 r155.2.f.Data.length cap160] 24, hle843, hFx.region (by kernel_rfl) (by kernel_rfl), hM954.perm (List.Perm.refl _), (nt hx10), (nt hx11), kf, kf, kf, kf, cu153, cu154, cu155, cu156, cu157, rfl, nu, kf⟩
       · -- 10: assign
        obtain rfl := Option.some.inj hi
        have hx9 := hpre 9 (by kernel_rfl)
        have hx8 := hpre 8 (by kernel_rfl)
        have hx7 := hpre 7 (by kernel_rfl)
        have hx6 := hpre 6 (by kernel_rfl)
        have hx5 := hpre 5 (by kernel_rfl)
        have hx4 := hpre 4 (by kernel_rfl)
        have hx3 := hpre 3 (by kernel_rfl)
        have hx2 := hpre 2 (by kernel_rfl)
        have hx1 := hpre 1 (by kernel_rfl)
        have hx0 := hpre 0 (by kernel_rfl)
        have hx10 := hSi
        have hx11 := negF hcl 11 10 (by kernel_rfl) hx10
        obtain rfl := cu149 hx0
        obtain rfl := cu150 hx1
        obtain rfl := cu151 hx2
        obtain rfl := cu152 hx3
        obtain rfl := cu153 hx4
        obtain rfl := cu154 hx5
        obtain rfl := cu155 hx6
        obtain rfl := cu156 hx7
        obtain rfl := cu157 hx8
        obtain rfl := cr0_0
        obtain rfl := cr1_1 hx9
        refine hG (any_step ?_); clear hG G; intro A J hJ
        have hle0 := Fz.le.trans hle0 hle843
        have hs956 := hs138.mono hle843
        have hs957 := hs139.mono hle843
        have hs958 := hs140.mono hle843
        have hs959 := hs141.mono hle843
        have hs960 := hsyb47v_0.mono hle843
        have hs961 := hleJ125.mono hle843
        have hs962 := hs161.mono hle843
        refine s1 hFx 3 (.int .i64 r155.2.Reader.At) ?_; intro a963 hF964; clear hFx
        refine nl (qnI (hJ _ _ ?_)); clear hJ J
        exact ⟨.int .i64 r155.2.Reader.At, ud4, .pointer (some ⟨b47, 0, none⟩), .pointer (some ⟨b47, 0, none⟩), .pointer (some ⟨b47, 5, none⟩), .agg #[.int .i64 r155.2.f.ID, .bool r155.2.f.Long, .bool r155.2.f.Fast, .bool r155.2.f.Remote, .int .i64 r155.2.f.Size, .slice ao159 r155.2.f.Data.length cap160], .pointer (some ⟨b47, 0, none⟩), .pointer (some ⟨b47, 0, none⟩), .pointer (some ⟨b47, 0, none⟩), .pointer (some ⟨b47, 1, none⟩), .int .i64 r155.2.Reader.At, .row b47 [str r155.2.Reader.Row, .int .i64 r155.2.Reader.At, .int .i64 r155.2.Reader.Code, .int .u8 r155.2.Reader.c.last, .int .i64 r155.2.Reader.c.n, .int .i64 r155.2.f.ID, .bool r155.2.f.Long, .bool r155.2.f.Fast, .bool r155.2.f.Remote, .int .i64 r155.2.f.Size, .slice ao159 r155.2.f.Data.length cap160] 64, .row b2 [.int .i64 r155.2.f.ID, .bool r155.2.f.Long, .bool r155.2.f.Fast, .bool r155.2.f.Remote, .int .i64 r155.2.f.Size, .slice ao159 r155.2.f.Data.length cap160] 24, hle843, hF964.region (by kernel_rfl) (by kernel_rfl), hMx.perm (List.Perm.refl _), kf, (nt hx11), kf, kf, kf, kf, kf, kf, kf, kf, kf, rfl, (tn hx9), kf⟩
       · -- 11: assign
        obtain rfl := Option.some.inj hi
        have hx10 := hpre 10 (by kernel_rfl)
        have hx9 := hpre 9 (by kernel_rfl)
        have hx8 := hpre 8 (by kernel_rfl)
        have hx7 := hpre 7 (by kernel_rfl)
        have hx6 := hpre 6 (by kernel_rfl)
        have hx5 := hpre 5 (by kernel_rfl)
        have hx4 := hpre 4 (by kernel_rfl)
        have hx3 := hpre 3 (by kernel_rfl)
        have hx2 := hpre 2 (by kernel_rfl)
        have hx1 := hpre 1 (by kernel_rfl)
        have hx0 := hpre 0 (by kernel_rfl)
        have hx11 := hSi
        obtain rfl := cu3 hx10
        obtain rfl := cu149 hx0
        obtain rfl := cu150 hx1
        obtain rfl := cu151 hx2
        obtain rfl := cu152 hx3
        obtain rfl := cu153 hx4
        obtain rfl := cu154 hx5
        obtain rfl := cu155 hx6
        obtain rfl := cu156 hx7
        obtain rfl := cu157 hx8
        obtain rfl := cr0_0
        obtain rfl := cr1_1 hx9
        refine hG (any_step ?_); clear hG G; intro A J hJ
        have hle0 := Fz.le.trans hle0 hle843
        have hs966 := hs138.mono hle843
        have hs967 := hs139.mono hle843
        have hs968 := hs140.mono hle843
        have hs969 := hs141.mono hle843
        have hs970 := hsyb47v_0.mono hle843
        have hs971 := hleJ125.mono hle843
        have hs972 := hs161.mono hle843
        refine s1 hFx 4 (.int .i64 0) ?_; intro a973 hF974; clear hFx
        refine nl (qnI (hJ _ _ ?_)); clear hJ J
        exact ⟨.int .i64 r155.2.Reader.At, .int .i64 0, .pointer (some ⟨b47, 0, none⟩), .pointer (some ⟨b47, 0, none⟩), .pointer (some ⟨b47, 5, none⟩), .agg #[.int .i64 r155.2.f.ID, .bool r155.2.f.Long, .bool r155.2.f.Fast, .bool r155.2.f.Remote, .int .i64 r155.2.f.Size, .slice ao159 r155.2.f.Data.length cap160], .pointer (some ⟨b47, 0, none⟩), .pointer (some ⟨b47, 0, none⟩), .pointer (some ⟨b47, 0, none⟩), .pointer (some ⟨b47, 1, none⟩), .int .i64 r155.2.Reader.At, .row b47 [str r155.2.Reader.Row, .int .i64 r155.2.Reader.At, .int .i64 r155.2.Reader.Code, .int .u8 r155.2.Reader.c.last, .int .i64 r155.2.Reader.c.n, .int .i64 r155.2.f.ID, .bool r155.2.f.Long, .bool r155.2.f.Fast, .bool r155.2.f.Remote, .int .i64 r155.2.f.Size, .slice ao159 r155.2.f.Data.length cap160] 64, .row b2 [.int .i64 r155.2.f.ID, .bool r155.2.f.Long, .bool r155.2.f.Fast, .bool r155.2.f.Remote, .int .i64 r155.2.f.Size, .slice ao159 r155.2.f.Data.length cap160] 24, hle843, hF974.region (by kernel_rfl) (by kernel_rfl), hMx.perm (List.Perm.refl _), kf, kf, kf, kf, kf, kf, kf, kf, kf, kf, kf, rfl, (tn hx9), kf⟩
      case hE =>
       intro S hS a976 wd977 hI; refine Go.Sy.hid ?_; intro G hG; obtain ⟨ud3, hI⟩ := hI; obtain ⟨ud4, hI⟩ := hI; obtain ⟨ud149, hI⟩ := hI; obtain ⟨ud150, hI⟩ := hI; obtain ⟨ud151, hI⟩ := hI; obtain ⟨ud152, hI⟩ := hI; obtain ⟨ud153, hI⟩ := hI; obtain ⟨ud154, hI⟩ := hI; obtain ⟨ud155, hI⟩ := hI; obtain ⟨ud156, hI⟩ := hI; obtain ⟨ud157, hI⟩ := hI; obtain ⟨rh0, hI⟩ := hI; obtain ⟨rh1, hI⟩ := hI; obtain ⟨hle843, hI⟩ := hI; obtain ⟨hFx, hI⟩ := hI; obtain ⟨hMx, hI⟩ := hI; obtain ⟨cu3, hI⟩ := hI; obtain ⟨cu4, hI⟩ := hI; obtain ⟨cu149, hI⟩ := hI; obtain ⟨cu150, hI⟩ := hI; obtain ⟨cu151, hI⟩ := hI; obtain ⟨cu152, hI⟩ := hI; obtain ⟨cu153, hI⟩ := hI; obtain ⟨cu154, hI⟩ := hI; obtain ⟨cu155, hI⟩ := hI; obtain ⟨cu156, hI⟩ := hI; obtain ⟨cu157, hI⟩ := hI; obtain ⟨cr0_0, hI⟩ := hI; obtain ⟨cr1_0, hI⟩ := hI; have cr1_1 := hI; clear hI; refine hG ?_; clear hG G
       obtain rfl := cu3 (hS 10 (by decide))
       obtain rfl := cu4 (hS 11 (by decide))
       obtain rfl := cu149 (hS 0 (by decide))
       obtain rfl := cu150 (hS 1 (by decide))
       obtain rfl := cu151 (hS 2 (by decide))
       obtain rfl := cu152 (hS 3 (by decide))
       obtain rfl := cu153 (hS 4 (by decide))
       obtain rfl := cu154 (hS 5 (by decide))
       obtain rfl := cu155 (hS 6 (by decide))
       obtain rfl := cu156 (hS 7 (by decide))
       obtain rfl := cu157 (hS 8 (by decide))
       obtain rfl := cr0_0
       obtain rfl := cr1_1 (hS 9 (by decide))
       have hle0 := Fz.le.trans hle0 hle843
       have hs978 := hs138.mono hle843
       have hs979 := hs139.mono hle843
       have hs980 := hs140.mono hle843
       have hs981 := hs141.mono hle843
       have hs982 := hsyb47v_0.mono hle843
       have hs983 := hleJ125.mono hle843
       have hs984 := hs161.mono hle843
       refine thn ?_
       refine wp_ret ?_
       refine rt (fn := Tryd.f12) (v := .tuple #[.agg #[.int .i64 r155.2.f.ID, .bool r155.2.f.Long, .bool r155.2.f.Fast, .bool r155.2.f.Remote, .int .i64 r155.2.f.Size, .slice ao159 r155.2.f.Data.length cap160], .int .i64 r155.2.Reader.At, .int .i64 0]) hFx (re3c hFx (fn := Tryd.f12) rfl (ad := ⟨b2, 0, none⟩) (by kernel_rfl) (loadVar_run hMx 1 (b := b2) (k := 6) (vs := [.int .i64 r155.2.f.ID, .bool r155.2.f.Long, .bool r155.2.f.Fast, .bool r155.2.f.Remote, .int .i64 r155.2.f.Size, .slice ao159 r155.2.f.Data.length cap160]) (ty := 24) rfl (by kernel_rfl) (by kernel_rfl)) (by kernel_rfl) (by kernel_rfl)) ?_
       exact ⟨(r155.2.f, r155.2.Reader.At, 0), ao159, cap160, Z162, rfl, hp817, hs984, hMx.keep (List.Sublist.cons _ (List.Sublist.cons _ (List.Sublist.slnil)))⟩
   have hle985 := Fz.le.refl ZJ98
   refine cd hF126 (t := yb47.f.Fast) (by kernel_rfl) (fun hb986 => ?_) (fun hb986 => ?_)
   · -- yes
    have hp987 := hp127.1 hb986; clear hp127
    refine rgH ?_; intro hQ988Q hQ988
    refine s1 hF126 82 (.pointer (some ⟨b47, 0, none⟩)) ?_; intro a989 hF990; clear hF126
    have hc991 := hp987.1; have hp992 := hp987.2; clear hp987
    refine cl hF990 43 #[.pointer (some ⟨b47, 0, none⟩)] (nog rfl _) rfl (by kernel_rfl) (by kernel_rfl) ?_
    obtain ⟨r997, hr998⟩ : ∃ x, (rfastS yb47) = x := ⟨_, rfl⟩; have hp999 := hp992 r997 hr998; clear hp992
    have h9 := rfast_fun yb47 hc991 b47 aoyb47_0 capyb47_0 _ _ _ _ _ _ hsyb47_0 hM108 hM108.fz; rw [hr998] at h9; refine h9.mono ?_; clear h9; rintro _ wd993 ⟨ao1001, cap1002, Z1004, rfl, hle1005, hs1003, hm⟩; refine ⟨_, rfl, ?_⟩; intro a994 hF995; have hM996 := hm; clear hm hM108 hF990
    replace hs111 := hs111.mono hle1005
    replace hs112 := hs112.mono hle1005
    replace hsyb47_0 := hsyb47_0.mono hle1005
    replace hleJ98 := hleJ98.mono hle1005
    replace hle985 := hle985.mono hle1005
    replace hle0 := Fz.le.trans hle0 hle1005
    have hM1006 : Mem w.heap.size [] w Z [.row b47 [str r997.Reader.Row, .int .i64 r997.Reader.At, .int .i64 r997.Reader.Code, .int .u8 r997.Reader.c.last, .int .i64 r997.Reader.c.n, .int .i64 r997.f.ID, .bool r997.f.Long, .bool r997.f.Fast, .bool r997.f.Remote, .int .i64 r997.f.Size, .slice ao1001 r997.f.Data.length cap1002] 64, .row b2 [.int .i64 0, .bool false, .bool false, .bool false, .int .i64 0, .slice none 0 0] 24] Z1004 wd993 := hM996; clear hM996
    have hp1007 := hp999 (hs1003.small); clear hp999
    refine nlH (hQ988 _ _ ?_); clear hQ988 hQ988Q
    refine rd ?_
    exact hJ131 r997 ao1001 cap1002 Z1004 ⟨hp1007, hs1003, hle985⟩ _ _ ((hF995.region (by kernel_rfl) (by kernel_rfl)).anyβ _ (by kernel_rfl)) (hM1006.keep (List.Sublist.cons_cons _ (List.Sublist.cons_cons _ (List.Sublist.slnil))))
   · -- no
    have hp1008 := hp127.2 hb986; clear hp127
    refine sqH ?_; intro hQ1009Q hQ1009
    refine s1 hF126 84 (.pointer (some ⟨b47, 0, none⟩)) ?_; intro a1010 hF1011; clear hF126
    refine s1 hF1011 85 (.pointer (some ⟨b47, 0, none⟩)) ?_; intro a1012 hF1013; clear hF1011
    refine s1 hF1013 86 (.pointer (some ⟨b47, 0, none⟩)) ?_; intro a1014 hF1015; clear hF1013
    refine s1 hF1015 87 (.pointer (some ⟨b47, 2, none⟩)) ?_; intro a1016 hF1017; clear hF1015
    refine l1 hF1017 hM108 88 0 2 (.int .i64 yb47.Reader.Code) rfl rfl ?_; intro a1018 hF1019; clear hF1017
    refine s1 hF1019 89 (.bool (yb47.Reader.Code == 0)) ?_; intro a1020 hF1021; clear hF1019
    refine nlH (hQ1009 _ _ ?_); clear hQ1009 hQ1009Q
    refine cd hF1021 (t := yb47.Reader.Code == 0) (by kernel_rfl) (fun hb1022 => ?_) (fun hb1022 => ?_)
    · -- yes
     have hp1023 := hp1008.1 hb1022; clear hp1008
     refine sqH ?_; intro hQ1024Q hQ1024
     refine s1 hF1021 91 (.pointer (some ⟨b47, 0, none⟩)) ?_; intro a1025 hF1026; clear hF1021
     refine s1 hF1026 92 (.pointer (some ⟨b47, 0, none⟩)) ?_; intro a1027 hF1028; clear hF1026
     refine s1 hF1028 93 (.pointer (some ⟨b47, 5, none⟩)) ?_; intro a1029 hF1030; clear hF1028
     refine l2 hF1030 hM108 94 0 5 6 [.int .i64 yb47.f.ID, .bool yb47.f.Long, .bool yb47.f.Fast, .bool yb47.f.Remote, .int .i64 yb47.f.Size, .slice aoyb47_0 yb47.f.Data.length capyb47_0] rfl rfl ?_; intro a1031 hF1032; clear hF1030
     have hc1033 := hp1023.1; have hp1034 := hp1023.2; clear hp1023
     refine fcl hF1032 hM108 (str (fheadS yb47.f)) 30 #[.agg #[.int .i64 yb47.f.ID, .bool yb47.f.Long, .bool yb47.f.Fast, .bool yb47.f.Remote, .int .i64 yb47.f.Size, .slice aoyb47_0 yb47.f.Data.length capyb47_0]] (nog rfl _) rfl (by kernel_rfl) (fun _ => by kernel_rfl) (fhead_fun yb47.f hc1033 aoyb47_0 capyb47_0 _ _ hsyb47_0 hM108.fz) ?_; intro a1035 wd1037 hF1036 hM1038; clear hF1032 hM108
     refine fcl hF1036 hM1038 (.tuple #[str ((csumS 0 (fheadS yb47.f)).1), .int .i64 ((csumS 0 (fheadS yb47.f)).2)]) 31 #[.int .i64 0, str (fheadS yb47.f)] (nog rfl _) rfl (by kernel_rfl) (fun _ => by kernel_rfl) (csum_fun 0 (fheadS yb47.f) _ _ hM1038.fz) ?_; intro a1039 wd1041 hF1040 hM1042; clear hF1036 hM1038
     refine s1 hF1040 90 (.tuple #[str ((csumS 0 (fheadS yb47.f)).1), .int .i64 ((csumS 0 (fheadS yb47.f)).2)]) ?_; intro a1043 hF1044; clear hF1040
     refine s1 hF1044 97 (str ((csumS 0 (fheadS yb47.f)).1)) ?_; intro a1045 hF1046; clear hF1044
     refine s1 hF1046 98 (.int .i64 ((csumS 0 (fheadS yb47.f)).2)) ?_; intro a1047 hF1048; clear hF1046
     refine s1 hF1048 9 (str ((csumS 0 (fheadS yb47.f)).1)) ?_; intro a1049 hF1050; clear hF1048
     refine s1 hF1050 10 (.int .i64 ((csumS 0 (fheadS yb47.f)).2)) ?_; intro a1051 hF1052; clear hF1050
     refine nlH (hQ1024 _ _ ?_); clear hQ1024 hQ1024Q
     have hF1053 : Fr 158 [] [⟨2, [], .pointer (some ⟨b2, 0, none⟩)⟩, ⟨6, [], .pointer (some ⟨b47, 0, none⟩)⟩, ⟨9, [], str ((csumS 0 (fheadS yb47.f)).1)⟩] a1051 := hF1052.region (by kernel_rfl) (by kernel_rfl); clear hF1052
     refine sqH ?_; intro hQ1054Q hQ1054
     refine s1 hF1053 99 (.pointer (some ⟨b47, 0, none⟩)) ?_; intro a1055 hF1056; clear hF1053
     refine s1 hF1056 100 (.pointer (some ⟨b47, 0, none⟩)) ?_; intro a1057 hF1058; clear hF1056
     refine s1 hF1058 101 (.pointer (some ⟨b47, 0, none⟩)) ?_; intro a1059 hF1060; clear hF1058
     have hc1061 := hp1034.1; have hp1062 := hp1034.2; clear hp1034
     refine cl hF1060 41 #[.pointer (some ⟨b47, 0, none⟩), .int .i64 15] (nog rfl _) rfl (by kernel_rfl) (by kernel_rfl) ?_
     obtain ⟨r1067, hr1068⟩ : ∃ x, (rtakeFS yb47 15) = x := ⟨_, rfl⟩; have hp1069 := hp1062 r1067 hr1068; clear hp1062
     have h9 := rtakeF_fun yb47 15 hc1061 b47 aoyb47_0 capyb47_0 _ _ _ _ _ _ hsyb47_0 hM1042 hM1042.fz; rw [hr1068] at h9; refine h9.mono ?_; clear h9; rintro _ wd1063 ⟨ao1071, cap1072, Z1074, rfl, hle1075, hs1073, hm⟩; refine ⟨_, rfl, ?_⟩; intro a1064 hF1065; have hM1066 := hm; clear hm hM1042 hF1060
     replace hs111 := hs111.mono hle1075
     replace hs112 := hs112.mono hle1075
     replace hsyb47_0 := hsyb47_0.mono hle1075
     replace hleJ98 := hleJ98.mono hle1075
     replace hle985 := hle985.mono hle1075
     replace hle0 := Fz.le.trans hle0 hle1075
     have hM1076 : Mem w.heap.size [] w Z [.row b47 [str r1067.2.Reader.Row, .int .i64 r1067.2.Reader.At, .int .i64 r1067.2.Reader.Code, .int .u8 r1067.2.Reader.c.last, .int .i64 r1067.2.Reader.c.n, .int .i64 r1067.2.f.ID, .bool r1067.2.f.Long, .bool r1067.2.f.Fast, .bool r1067.2.f.Remote, .int .i64 r1067.2.f.Size, .slice ao1071 r1067.2.f.Data.length cap1072] 64, .row b2 [.int .i64 0, .bool false, .bool false, .bool false, .int .i64 0, .slice none 0 0] 24] Z1074 wd1063 := hM1066; clear hM1066
     have hp1077 := hp1069 (hs1073.small); clear hp1069
     refine s1 hF1065 11 (str r1067.1) ?_; intro a1078 hF1079; clear hF1065
     refine nlH (hQ1054 _ _ ?_); clear hQ1054 hQ1054Q
     refine sqH ?_; intro hQ1080Q hQ1080
     refine s1 hF1079 103 (.pointer (some ⟨b47, 0, none⟩)) ?_; intro a1081 hF1082; clear hF1079
     refine s1 hF1082 104 (.pointer (some ⟨b47, 0, none⟩)) ?_; intro a1083 hF1084; clear hF1082
     refine s1 hF1084 105 (.pointer (some ⟨b47, 0, none⟩)) ?_; intro a1085 hF1086; clear hF1084
     refine s1 hF1086 106 (.pointer (some ⟨b47, 2, none⟩)) ?_; intro a1087 hF1088; clear hF1086
     refine l1 hF1088 hM1076 107 0 2 (.int .i64 r1067.2.Reader.Code) rfl rfl ?_; intro a1089 hF1090; clear hF1088
     refine s1 hF1090 108 (.bool (r1067.2.Reader.Code == 0)) ?_; intro a1091 hF1092; clear hF1090
     refine s1 hF1092 109 (.bool (r1067.2.Reader.Code == 0)) ?_; intro a1093 hF1094; clear hF1092
     have hF1095 := hF1094.atom ((r1067.2.Reader.Code == 0) == true) (by kernel_rfl); clear hF1094
     refine gp hF1095 110 0 [] (r1067.2.Reader.Code == 0) (str r1067.1) rfl rfl ?_; intro a1096 hF1097; clear hF1095
     refine gp hF1097 111 0 [] (r1067.2.Reader.Code == 0) (str ((csumS 0 (fheadS yb47.f)).1)) rfl rfl ?_; intro a1098 hF1099; clear hF1097
     refine gd hF1099 (.bool (r1067.1 != ((csumS 0 (fheadS yb47.f)).1))) (m := 0) (cj := []) (bj := r1067.2.Reader.Code == 0) rfl rfl (by kernel_rfl) rfl (by kernel_rfl) (by kernel_rfl) (by kernel_rfl) (fun hg => strcmp_run hF1099 (g := [0]) (op := .neq) rfl (by kernel_rfl) (by kernel_rfl) (by decide) hg) ?_; intro a1100 hF1101; clear hF1099
     refine st hF1101 (.bool ((r1067.2.Reader.Code == 0) && (r1067.1 != ((csumS 0 (fheadS yb47.f)).1)))) (nog rfl _) rfl (by kernel_rfl) (pk_and hF1101 (g := []) (m := 0) (b := r1067.2.Reader.Code == 0) (v := r1067.1 != ((csumS 0 (fheadS yb47.f)).1)) rfl (by kernel_rfl) (by kernel_rfl) (by kernel_rfl) rfl) ?_; intro a1102 hF1103; clear hF1101
     refine nlH (hQ1080 _ _ ?_); clear hQ1080 hQ1080Q
     refine cd hF1103 (t := (r1067.2.Reader.Code == 0) && (r1067.1 != ((csumS 0 (fheadS yb47.f)).1))) (by kernel_rfl) (fun hb1104 => ?_) (fun hb1104 => ?_)
     · -- yes
      have hp1105 := hp1077.1 hb1104; clear hp1077
      have hF1106 : Fr 158 [] [⟨2, [], .pointer (some ⟨b2, 0, none⟩)⟩, ⟨6, [], .pointer (some ⟨b47, 0, none⟩)⟩] a1102 := hF1103.region (by kernel_rfl) (by kernel_rfl); clear hF1103
      refine rgH ?_; intro hQ1107Q hQ1107
      refine s1 hF1106 114 (.pointer (some ⟨b47, 0, none⟩)) ?_; intro a1108 hF1109; clear hF1106
      refine cl hF1109 39 #[.pointer (some ⟨b47, 0, none⟩), .int .i64 6] (nog rfl _) rfl (by kernel_rfl) (by kernel_rfl) ?_
      obtain ⟨r1114, hr1115⟩ : ∃ x, (rfailS r1067.2 6) = x := ⟨_, rfl⟩; have hp1116 := hp1105 r1114 hr1115; clear hp1105
      have h9 := rfail_fun r1067.2 6 b47 ao1071 cap1072 _ _ _ _ _ _ hs1073 hM1076 hM1076.fz; rw [hr1115] at h9; refine h9.mono ?_; clear h9; rintro _ wd1110 ⟨ao1118, cap1119, Z1121, rfl, hle1122, hs1120, hm⟩; refine ⟨_, rfl, ?_⟩; intro a1111 hF1112; have hM1113 := hm; clear hm hM1076 hF1109
      replace hs111 := hs111.mono hle1122
      replace hs112 := hs112.mono hle1122
      replace hsyb47_0 := hsyb47_0.mono hle1122
      replace hleJ98 := hleJ98.mono hle1122
      replace hle985 := hle985.mono hle1122
      replace hs1073 := hs1073.mono hle1122
      replace hle0 := Fz.le.trans hle0 hle1122
      have hM1123 : Mem w.heap.size [] w Z [.row b47 [str r1114.Reader.Row, .int .i64 r1114.Reader.At, .int .i64 r1114.Reader.Code, .int .u8 r1114.Reader.c.last, .int .i64 r1114.Reader.c.n, .int .i64 r1114.f.ID, .bool r1114.f.Long, .bool r1114.f.Fast, .bool r1114.f.Remote, .int .i64 r1114.f.Size, .slice ao1118 r1114.f.Data.length cap1119] 64, .row b2 [.int .i64 0, .bool false, .bool false, .bool false, .int .i64 0, .slice none 0 0] 24] Z1121 wd1110 := hM1113; clear hM1113
      have hp1124 := hp1116 (hs1120.small); clear hp1116
      refine nlH (hQ1107 _ _ ?_); clear hQ1107 hQ1107Q
      refine rd ?_
      exact hJ131 r1114 ao1118 cap1119 Z1121 ⟨hp1124, hs1120, hle985⟩ _ _ ((hF1112.region (by kernel_rfl) (by kernel_rfl)).anyβ _ (by kernel_rfl)) (hM1123.keep (List.Sublist.cons_cons _ (List.Sublist.cons_cons _ (List.Sublist.slnil))))
     · -- no
      have hp1125 := hp1077.2 hb1104; clear hp1077
      refine wp_skip ?_
      refine rd ?_
      exact hJ131 r1067.2 ao1071 cap1072 Z1074 ⟨hp1125, hs1073, hle985⟩ _ _ ((hF1103.region (by kernel_rfl) (by kernel_rfl)).anyβ _ (by kernel_rfl)) (hM1076.keep (List.Sublist.cons_cons _ (List.Sublist.cons_cons _ (List.Sublist.slnil))))
    · -- no
     have hp1126 := hp1008.2 hb1022; clear hp1008
     refine wp_skip ?_
     refine rd ?_
     exact hJ131 yb47 aoyb47_0 capyb47_0 ZJ98 ⟨hp1126, hsyb47_0, hle985⟩ _ _ ((hF1021.region (by kernel_rfl) (by kernel_rfl)).anyβ _ (by kernel_rfl)) (hM108.keep (List.Sublist.cons_cons _ (List.Sublist.cons_cons _ (List.Sublist.slnil))))
  have hle1127 := Fz.le.refl Z91
  refine wp_block ?_
  refine sqH ?_; intro hQ1128Q hQ1128
  refine s1 hF99 47 (.pointer (some ⟨b47, 0, none⟩)) ?_; intro a1129 hF1130; clear hF99
  refine s1 hF1130 48 (.pointer (some ⟨b47, 0, none⟩)) ?_; intro a1131 hF1132; clear hF1130
  refine s1 hF1132 49 (.pointer (some ⟨b47, 0, none⟩)) ?_; intro a1133 hF1134; clear hF1132
  refine s1 hF1134 50 (.pointer (some ⟨b47, 2, none⟩)) ?_; intro a1135 hF1136; clear hF1134
  refine l1 hF1136 hM93 51 0 2 (.int .i64 r84.2.Reader.Code) rfl rfl ?_; intro a1137 hF1138; clear hF1136
  refine s1 hF1138 52 (.bool (r84.2.Reader.Code != 0)) ?_; intro a1139 hF1140; clear hF1138
  refine s1 hF1140 46 (.bool (r84.2.Reader.Code != 0)) ?_; intro a1141 hF1142; clear hF1140
  refine nlH (hQ1128 _ _ ?_); clear hQ1128 hQ1128Q
  refine cd hF1142 (t := r84.2.Reader.Code != 0) (by kernel_rfl) (fun hb1143 => ?_) (fun hb1143 => ?_)
  · -- yes
   have hp1144 := hp100.1 hb1143; clear hp100
   refine wp_skip ?_
   refine ibn ?_
   refine rd ?_
   exact hJ104 r84.2 ao88 cap89 Z91 ⟨hp1144, hs90, hle1127⟩ _ _ ((hF1142.region (by kernel_rfl) (by kernel_rfl)).anyβ _ (by kernel_rfl)) (hM93.keep (List.Sublist.cons_cons _ (List.Sublist.cons_cons _ (List.Sublist.slnil))))
  · -- no
   have hp1145 := hp100.2 hb1143; clear hp100
   refine sqH ?_; intro hQ1146Q hQ1146
   refine s1 hF1142 54 (.pointer (some ⟨b47, 0, none⟩)) ?_; intro a1147 hF1148; clear hF1142
   refine s1 hF1148 55 (.pointer (some ⟨b47, 0, none⟩)) ?_; intro a1149 hF1150; clear hF1148
   refine s1 hF1150 56 (.pointer (some ⟨b47, 5, none⟩)) ?_; intro a1151 hF1152; clear hF1150
   refine s1 hF1152 57 (.pointer (some ⟨b47, 7, none⟩)) ?_; intro a1153 hF1154; clear hF1152
   refine l1 hF1154 hM93 58 0 7 (.bool r84.2.f.Fast) rfl rfl ?_; intro a1155 hF1156; clear hF1154
   refine s1 hF1156 59 (.bool (!r84.2.f.Fast)) ?_; intro a1157 hF1158; clear hF1156
   refine s1 hF1158 60 (.bool (!r84.2.f.Fast)) ?_; intro a1159 hF1160; clear hF1158
   have hF1161 := hF1160.atom ((!r84.2.f.Fast) == true) (by kernel_rfl); clear hF1160
   refine gp hF1161 61 0 [] (!r84.2.f.Fast) (.int .i64 r84.1) rfl rfl ?_; intro a1162 hF1163; clear hF1161
   refine gp hF1163 62 0 [] (!r84.2.f.Fast) (.bool (decide (r84.1 > 8))) rfl rfl ?_; intro a1164 hF1165; clear hF1163
   refine st hF1165 (.bool ((!r84.2.f.Fast) && (decide (r84.1 > 8)))) (nog rfl _) rfl (by kernel_rfl) (pk_and hF1165 (g := []) (m := 0) (b := !r84.2.f.Fast) (v := decide (r84.1 > 8)) rfl (by kernel_rfl) (by kernel_rfl) (by kernel_rfl) rfl) ?_; intro a1166 hF1167; clear hF1165
   refine s1 hF1167 53 (.bool ((!r84.2.f.Fast) && (decide (r84.1 > 8)))) ?_; intro a1168 hF1169; clear hF1167
   refine nlH (hQ1146 _ _ ?_); clear hQ1146 hQ1146Q
   refine cd hF1169 (t := (!r84.2.f.Fast) && (decide (r84.1 > 8))) (by kernel_rfl) (fun hb1170 => ?_) (fun hb1170 => ?_)
   · -- yes
    have hp1171 := hp1145.1 hb1170; clear hp1145
    have hF1172 : Fr 158 [] [⟨2, [], .pointer (some ⟨b2, 0, none⟩)⟩, ⟨6, [], .pointer (some ⟨b47, 0, none⟩)⟩] a1168 := hF1169.region (by kernel_rfl) (by kernel_rfl); clear hF1169
    refine rgH ?_; intro hQ1173Q hQ1173
    refine s1 hF1172 64 (.pointer (some ⟨b47, 0, none⟩)) ?_; intro a1174 hF1175; clear hF1172
    refine cl hF1175 39 #[.pointer (some ⟨b47, 0, none⟩), .int .i64 4] (nog rfl _) rfl (by kernel_rfl) (by kernel_rfl) ?_
    obtain ⟨r1180, hr1181⟩ : ∃ x, (rfailS r84.2 4) = x := ⟨_, rfl⟩; have hp1182 := hp1171 r1180 hr1181; clear hp1171
    have h9 := rfail_fun r84.2 4 b47 ao88 cap89 _ _ _ _ _ _ hs90 hM93 hM93.fz; rw [hr1181] at h9; refine h9.mono ?_; clear h9; rintro _ wd1176 ⟨ao1184, cap1185, Z1187, rfl, hle1188, hs1186, hm⟩; refine ⟨_, rfl, ?_⟩; intro a1177 hF1178; have hM1179 := hm; clear hm hM93 hF1175
    replace hs69 := hs69.mono hle1188
    replace hs90 := hs90.mono hle1188
    replace hle1127 := hle1127.mono hle1188
    replace hle0 := Fz.le.trans hle0 hle1188
    have hM1189 : Mem w.heap.size [] w Z [.row b47 [str r1180.Reader.Row, .int .i64 r1180.Reader.At, .int .i64 r1180.Reader.Code, .int .u8 r1180.Reader.c.last, .int .i64 r1180.Reader.c.n, .int .i64 r1180.f.ID, .bool r1180.f.Long, .bool r1180.f.Fast, .bool r1180.f.Remote, .int .i64 r1180.f.Size, .slice ao1184 r1180.f.Data.length cap1185] 64, .row b2 [.int .i64 0, .bool false, .bool false, .bool false, .int .i64 0, .slice none 0 0] 24] Z1187 wd1176 := hM1179; clear hM1179
    have hp1190 := hp1182 (hs1186.small); clear hp1182
    refine nlH (hQ1173 _ _ ?_); clear hQ1173 hQ1173Q
    refine ibn ?_
    refine rd ?_
    exact hJ104 r1180 ao1184 cap1185 Z1187 ⟨hp1190, hs1186, hle1127⟩ _ _ ((hF1178.region (by kernel_rfl) (by kernel_rfl)).anyβ _ (by kernel_rfl)) (hM1189.keep (List.Sublist.cons_cons _ (List.Sublist.cons_cons _ (List.Sublist.slnil))))
   · -- no
    have hp1191 := hp1145.2 hb1170; clear hp1145
    have hF1192 : Fr 158 [] [⟨2, [], .pointer (some ⟨b2, 0, none⟩)⟩, ⟨6, [], .pointer (some ⟨b47, 0, none⟩)⟩, ⟨7, [], .int .i64 r84.1⟩] a1168 := hF1169.region (by kernel_rfl) (by kernel_rfl); clear hF1169
    refine sqH ?_; intro hQ1193Q hQ1193
    refine s1 hF1192 67 (.pointer (some ⟨b47, 0, none⟩)) ?_; intro a1194 hF1195; clear hF1192
    refine s1 hF1195 68 (.pointer (some ⟨b47, 0, none⟩)) ?_; intro a1196 hF1197; clear hF1195
    refine s1 hF1197 69 (.pointer (some ⟨b47, 5, none⟩)) ?_; intro a1198 hF1199; clear hF1197
    refine s1 hF1199 70 (.pointer (some ⟨b47, 8, none⟩)) ?_; intro a1200 hF1201; clear hF1199
    refine l1 hF1201 hM93 71 0 8 (.bool r84.2.f.Remote) rfl rfl ?_; intro a1202 hF1203; clear hF1201
    refine s1 hF1203 66 (.bool r84.2.f.Remote) ?_; intro a1204 hF1205; clear hF1203
    refine nlH (hQ1193 _ _ ?_); clear hQ1193 hQ1193Q
    refine cd hF1205 (t := r84.2.f.Remote) (by kernel_rfl) (fun hb1206 => ?_) (fun hb1206 => ?_)
    · -- yes
     have hp1207 := hp1191.1 hb1206; clear hp1191
     refine rgH ?_; intro hQ1208Q hQ1208
     refine s1 hF1205 72 (.pointer (some ⟨b47, 0, none⟩)) ?_; intro a1209 hF1210; clear hF1205
     refine s1 hF1210 73 (.int .i64 r84.1) ?_; intro a1211 hF1212; clear hF1210
     refine s1 hF1212 74 (.pointer (some ⟨b47, 0, none⟩)) ?_; intro a1213 hF1214; clear hF1212
     refine s1 hF1214 75 (.pointer (some ⟨b47, 5, none⟩)) ?_; intro a1215 hF1216; clear hF1214
     refine s1 hF1216 76 (.pointer (some ⟨b47, 9, none⟩)) ?_; intro a1217 hF1218; clear hF1216
     refine sr hF1218 hM93 0 [str r84.2.Reader.Row, .int .i64 r84.2.Reader.At, .int .i64 r84.2.Reader.Code, .int .u8 r84.2.Reader.c.last, .int .i64 r84.2.Reader.c.n, .int .i64 r84.2.f.ID, .bool r84.2.f.Long, .bool r84.2.f.Fast, .bool r84.2.f.Remote, .int .i64 r84.1, .slice ao88 r84.2.f.Data.length cap89] (b := b47) (off := 9) (cs := [str r84.2.Reader.Row, .int .i64 r84.2.Reader.At, .int .i64 r84.2.Reader.Code, .int .u8 r84.2.Reader.c.last, .int .i64 r84.2.Reader.c.n, .int .i64 r84.2.f.ID, .bool r84.2.f.Long, .bool r84.2.f.Fast, .bool r84.2.f.Remote, .int .i64 r84.2.f.Size, .slice ao88 r84.2.f.Data.length cap89]) (ty := 64) (u := .int .i64 r84.1) (nog rfl _) rfl rfl (by kernel_rfl) (by kernel_rfl) (by kernel_rfl) (by kernel_rfl) (by kernel_rfl) (by kernel_rfl) (by kernel_rfl) ?_; intro wd1219 hM1220; clear hM93
     have hM1221 : Mem w.heap.size [] w Z [.row b47 [str r84.2.Reader.Row, .int .i64 r84.2.Reader.At, .int .i64 r84.2.Reader.Code, .int .u8 r84.2.Reader.c.last, .int .i64 r84.2.Reader.c.n, .int .i64 r84.2.f.ID, .bool r84.2.f.Long, .bool r84.2.f.Fast, .bool r84.2.f.Remote, .int .i64 r84.1, .slice ao88 r84.2.f.Data.length cap89] 64, .row b2 [.int .i64 0, .bool false, .bool false, .bool false, .int .i64 0, .slice none 0 0] 24] Z91 wd1219 := hM1220; clear hM1220
     refine nlH (hQ1208 _ _ ?_); clear hQ1208 hQ1208Q
     refine ibn ?_
     refine rd ?_
     exact hJ104 (⟨r84.2.Reader, (⟨r84.2.f.ID, r84.2.f.Long, r84.2.f.Fast, r84.2.f.Remote, r84.1, r84.2.f.Data⟩ : Frame)⟩ : FReader) ao88 cap89 Z91 ⟨hp1207, hs90, hle1127⟩ _ _ ((hF1218.region (by kernel_rfl) (by kernel_rfl)).anyβ _ (by kernel_rfl)) (hM1221.keep (List.Sublist.cons_cons _ (List.Sublist.cons_cons _ (List.Sublist.slnil))))
    · -- no
     have hp1222 := hp1191.2 hb1206; clear hp1191
     refine sqH ?_; intro hQ1223Q hQ1223
     refine cl hF1205 40 #[] (nog rfl _) rfl (by kernel_rfl) (by kernel_rfl) ?_
     refine (fsizes_fun  _ _ hM93.fz).mono ?_; rintro _ wd1224 ⟨ao1228, cap1229, Z1230, rfl, hm⟩; refine ⟨_, rfl, ?_⟩; intro a1225 hF1226; have hM1227 := hM93.callZ hm; have hle1231 := hm.ext.le; clear hm hM93 hF1205
     replace hs69 := hs69.mono hle1231
     replace hs90 := hs90.mono hle1231
     replace hle1127 := hle1127.mono hle1231
     replace hle0 := Fz.le.trans hle0 hle1231
     have hM1232 : Mem w.heap.size [] w Z [.own (tyInt .i64) 3 ao1228 cap1229 fsizes, .row b47 [str r84.2.Reader.Row, .int .i64 r84.2.Reader.At, .int .i64 r84.2.Reader.Code, .int .u8 r84.2.Reader.c.last, .int .i64 r84.2.Reader.c.n, .int .i64 r84.2.f.ID, .bool r84.2.f.Long, .bool r84.2.f.Fast, .bool r84.2.f.Remote, .int .i64 r84.2.f.Size, .slice ao88 r84.2.f.Data.length cap89] 64, .row b2 [.int .i64 0, .bool false, .bool false, .bool false, .int .i64 0, .slice none 0 0] 24] Z1230 wd1224 := hM1227; clear hM1227
     have hp1233 := hp1222 (hM1232.ownSmall 0 rfl); clear hp1222
     refine s1 hF1226 28 (.int .i64 r84.1) ?_; intro a1234 hF1235; clear hF1226
     have hc1236 := hp1233.1; have hp1237 := hp1233.2; clear hp1233
     refine ixo hF1235 hM1232 0 (T := (tyInt .i64)) (xs := fsizes) r84.1 hc1236 (k := .i64) (e := 3) (bytes := 8) (nog rfl _) rfl (by kernel_rfl) rfl (by kernel_rfl) (by kernel_rfl) rfl (by kernel_rfl) ?_; intro g1238 a1240 hg1239 hF1241; clear hF1235
     subst hg1239
     have hF1242 : Fr 158 [] [⟨2, [], .pointer (some ⟨b2, 0, none⟩)⟩, ⟨6, [], .pointer (some ⟨b47, 0, none⟩)⟩, ⟨7, [], .int .i64 r84.1⟩, ⟨27, [], .slice (some ⟨g1238, 0, none⟩) fsizes.length cap1229⟩, ⟨28, [], .int .i64 r84.1⟩, ⟨29, [], .pointer (some ⟨g1238, r84.1.toNat * 1, none⟩)⟩, ⟨66, [], .bool r84.2.f.Remote⟩, ⟨67, [], .pointer (some ⟨b47, 0, none⟩)⟩, ⟨68, [], .pointer (some ⟨b47, 0, none⟩)⟩, ⟨69, [], .pointer (some ⟨b47, 5, none⟩)⟩, ⟨70, [], .pointer (some ⟨b47, 8, none⟩)⟩, ⟨71, [], .bool r84.2.f.Remote⟩] a1240 := hF1241.region (by kernel_rfl) (by kernel_rfl); clear hF1241
     have hM1243 : Mem w.heap.size [] w Z [.own (tyInt .i64) 3 (some ⟨g1238, 0, none⟩) cap1229 fsizes, .row b47 [str r84.2.Reader.Row, .int .i64 r84.2.Reader.At, .int .i64 r84.2.Reader.Code, .int .u8 r84.2.Reader.c.last, .int .i64 r84.2.Reader.c.n, .int .i64 r84.2.f.ID, .bool r84.2.f.Long, .bool r84.2.f.Fast, .bool r84.2.f.Remote, .int .i64 r84.2.f.Size, .slice ao88 r84.2.f.Data.length cap89] 64, .row b2 [.int .i64 0, .bool false, .bool false, .bool false, .int .i64 0, .slice none 0 0] 24] Z1230 wd1224 := hM1232; clear hM1232
     obtain ⟨q1244, hq1245⟩ : ∃ q, fsizes[r84.1.toNat]? = some q := ⟨_, List.getElem?_eq_getElem (by first | omega | (simp only [List.length_set] at *; omega))⟩; have hp1246 := hp1237 q1244 hq1245; clear hp1237
     obtain ⟨cs1247, hT1248, hcl1249⟩ := own_el hM1243 0 (T := (tyInt .i64)) (xs := fsizes) rfl r84.1.toNat hq1245
     obtain rfl : cs1247 = ([.int .i64 q1244] : List Value) := hT1248
     refine lc1 hF1242 30 (.int .i64 q1244) (hcl1249 0 _ rfl) rfl ?_; intro a1250 hF1251; clear hF1242
     refine s1 hF1251 7 (.int .i64 q1244) ?_; intro a1252 hF1253; clear hF1251
     refine nlH (hQ1223 _ _ ?_); clear hQ1223 hQ1223Q
     refine sqH ?_; intro hQ1254Q hQ1254
     refine s1 hF1253 31 (.pointer (some ⟨b47, 0, none⟩)) ?_; intro a1255 hF1256; clear hF1253
     refine s1 hF1256 32 (.pointer (some ⟨b47, 0, none⟩)) ?_; intro a1257 hF1258; clear hF1256
     refine s1 hF1258 33 (.pointer (some ⟨b47, 0, none⟩)) ?_; intro a1259 hF1260; clear hF1258
     refine s1 hF1260 34 (.int .i64 q1244) ?_; intro a1261 hF1262; clear hF1260
     refine s1 hF1262 35 (.int .i64 (w64 (8 * q1244))) ?_; intro a1263 hF1264; clear hF1262
     have hc1265 := hp1246.1; have hp1266 := hp1246.2; clear hp1246
     refine cl hF1264 41 #[.pointer (some ⟨b47, 0, none⟩), .int .i64 (w64 (8 * q1244))] (nog rfl _) rfl (by kernel_rfl) (by kernel_rfl) ?_
     obtain ⟨r1271, hr1272⟩ : ∃ x, (rtakeFS r84.2 (w64 (8 * q1244))) = x := ⟨_, rfl⟩; have hp1273 := hp1266 r1271 hr1272; clear hp1266
     have h9 := rtakeF_fun r84.2 (w64 (8 * q1244)) hc1265 b47 ao88 cap89 _ _ _ _ _ _ hs90 (hM1243.perm (pk 1 rfl)) hM1243.fz; rw [hr1272] at h9; refine h9.mono ?_; clear h9; rintro _ wd1267 ⟨ao1275, cap1276, Z1278, rfl, hle1279, hs1277, hm⟩; refine ⟨_, rfl, ?_⟩; intro a1268 hF1269; have hM1270 := hm; clear hm hM1243 hF1264
     replace hs69 := hs69.mono hle1279
     replace hs90 := hs90.mono hle1279
     replace hle1127 := hle1127.mono hle1279
     replace hle0 := Fz.le.trans hle0 hle1279
     have hM1280 : Mem w.heap.size [] w Z [.row b47 [str r1271.2.Reader.Row, .int .i64 r1271.2.Reader.At, .int .i64 r1271.2.Reader.Code, .int .u8 r1271.2.Reader.c.last, .int .i64 r1271.2.Reader.c.n, .int .i64 r1271.2.f.ID, .bool r1271.2.f.Long, .bool r1271.2.f.Fast, .bool r1271.2.f.Remote, .int .i64 r1271.2.f.Size, .slice ao1275 r1271.2.f.Data.length cap1276] 64, .own (tyInt .i64) 3 (some ⟨g1238, 0, none⟩) cap1229 fsizes, .row b2 [.int .i64 0, .bool false, .bool false, .bool false, .int .i64 0, .slice none 0 0] 24] Z1278 wd1267 := hM1270; clear hM1270
     have hp1281 := hp1273 (hs1277.small); clear hp1273
     refine s1 hF1269 8 (str r1271.1) ?_; intro a1282 hF1283; clear hF1269
     refine nlH (hQ1254 _ _ ?_); clear hQ1254 hQ1254Q
     have hF1284 : Fr 158 [] [⟨2, [], .pointer (some ⟨b2, 0, none⟩)⟩, ⟨6, [], .pointer (some ⟨b47, 0, none⟩)⟩, ⟨8, [], str r1271.1⟩] a1282 := hF1283.region (by kernel_rfl) (by kernel_rfl); clear hF1283
     refine rgH ?_; intro hQ1285Q hQ1285
     refine s1 hF1284 38 (.pointer (some ⟨b47, 0, none⟩)) ?_; intro a1286 hF1287; clear hF1284
     refine s1 hF1287 39 (str r1271.1) ?_; intro a1288 hF1289; clear hF1287
     refine cl hF1289 42 #[str r1271.1] (nog rfl _) rfl (by kernel_rfl) (by kernel_rfl) ?_
     refine (bbytes_fun r1271.1 _ _ hM1280.fz).mono ?_; rintro _ wd1290 ⟨ao1294, cap1295, Z1296, rfl, hm⟩; refine ⟨_, rfl, ?_⟩; intro a1291 hF1292; have hM1293 := hM1280.callZ hm; have hle1297 := hm.ext.le; clear hm hM1280 hF1289
     replace hs69 := hs69.mono hle1297
     replace hs90 := hs90.mono hle1297
     replace hle1127 := hle1127.mono hle1297
     replace hs1277 := hs1277.mono hle1297
     replace hle0 := Fz.le.trans hle0 hle1297
     have hM1298 : Mem w.heap.size [] w Z [.own (tyInt .u8) 5 ao1294 cap1295 ((bbytesS r1271.1).1), .row b47 [str r1271.2.Reader.Row, .int .i64 r1271.2.Reader.At, .int .i64 r1271.2.Reader.Code, .int .u8 r1271.2.Reader.c.last, .int .i64 r1271.2.Reader.c.n, .int .i64 r1271.2.f.ID, .bool r1271.2.f.Long, .bool r1271.2.f.Fast, .bool r1271.2.f.Remote, .int .i64 r1271.2.f.Size, .slice ao1275 r1271.2.f.Data.length cap1276] 64, .own (tyInt .i64) 3 (some ⟨g1238, 0, none⟩) cap1229 fsizes, .row b2 [.int .i64 0, .bool false, .bool false, .bool false, .int .i64 0, .slice none 0 0] 24] Z1296 wd1290 := hM1293; clear hM1293
     have hp1299 := hp1281 (hM1298.ownSmall 0 rfl); clear hp1281
     refine s1 hF1292 37 (.tuple #[.slice ao1294 ((bbytesS r1271.1).1).length cap1295, .int .i64 ((bbytesS r1271.1).2)]) ?_; intro a1300 hF1301; clear hF1292
     refine s1 hF1301 41 (.slice ao1294 ((bbytesS r1271.1).1).length cap1295) ?_; intro a1302 hF1303; clear hF1301
     refine s1 hF1303 42 (.int .i64 ((bbytesS r1271.1).2)) ?_; intro a1304 hF1305; clear hF1303
     refine s1 hF1305 43 (.pointer (some ⟨b47, 0, none⟩)) ?_; intro a1306 hF1307; clear hF1305
     refine s1 hF1307 44 (.pointer (some ⟨b47, 5, none⟩)) ?_; intro a1308 hF1309; clear hF1307
     refine s1 hF1309 45 (.pointer (some ⟨b47, 10, none⟩)) ?_; intro a1310 hF1311; clear hF1309
     refine sr hF1311 hM1298 1 [str r1271.2.Reader.Row, .int .i64 r1271.2.Reader.At, .int .i64 r1271.2.Reader.Code, .int .u8 r1271.2.Reader.c.last, .int .i64 r1271.2.Reader.c.n, .int .i64 r1271.2.f.ID, .bool r1271.2.f.Long, .bool r1271.2.f.Fast, .bool r1271.2.f.Remote, .int .i64 r1271.2.f.Size, .slice ao1294 ((bbytesS r1271.1).1).length cap1295] (b := b47) (off := 10) (cs := [str r1271.2.Reader.Row, .int .i64 r1271.2.Reader.At, .int .i64 r1271.2.Reader.Code, .int .u8 r1271.2.Reader.c.last, .int .i64 r1271.2.Reader.c.n, .int .i64 r1271.2.f.ID, .bool r1271.2.f.Long, .bool r1271.2.f.Fast, .bool r1271.2.f.Remote, .int .i64 r1271.2.f.Size, .slice ao1275 r1271.2.f.Data.length cap1276]) (ty := 64) (u := .slice ao1294 ((bbytesS r1271.1).1).length cap1295) (nog rfl _) rfl rfl (by kernel_rfl) (by kernel_rfl) (by kernel_rfl) (by kernel_rfl) (by kernel_rfl) (by kernel_rfl) (by kernel_rfl) ?_; intro wd1312 hM1313; clear hM1298
     have hM1314 : Mem w.heap.size [] w Z [.own (tyInt .u8) 5 ao1294 cap1295 ((bbytesS r1271.1).1), .row b47 [str r1271.2.Reader.Row, .int .i64 r1271.2.Reader.At, .int .i64 r1271.2.Reader.Code, .int .u8 r1271.2.Reader.c.last, .int .i64 r1271.2.Reader.c.n, .int .i64 r1271.2.f.ID, .bool r1271.2.f.Long, .bool r1271.2.f.Fast, .bool r1271.2.f.Remote, .int .i64 r1271.2.f.Size, .slice ao1294 ((bbytesS r1271.1).1).length cap1295] 64, .own (tyInt .i64) 3 (some ⟨g1238, 0, none⟩) cap1229 fsizes, .row b2 [.int .i64 0, .bool false, .bool false, .bool false, .int .i64 0, .slice none 0 0] 24] Z1296 wd1312 := hM1313; clear hM1313
     refine nlH (hQ1285 _ _ ?_); clear hQ1285 hQ1285Q
     refine ibn ?_
     refine rd ?_
     obtain ⟨Z1315, hle1316, hM1317, hs1318⟩ := hM1314.freeze 0 rfl
     replace hs69 := hs69.mono hle1316
     replace hs90 := hs90.mono hle1316
     replace hle1127 := hle1127.mono hle1316
     replace hs1277 := hs1277.mono hle1316
     replace hle0 := Fz.le.trans hle0 hle1316
     have hM1319 : Mem w.heap.size [] w Z [.row b47 [str r1271.2.Reader.Row, .int .i64 r1271.2.Reader.At, .int .i64 r1271.2.Reader.Code, .int .u8 r1271.2.Reader.c.last, .int .i64 r1271.2.Reader.c.n, .int .i64 r1271.2.f.ID, .bool r1271.2.f.Long, .bool r1271.2.f.Fast, .bool r1271.2.f.Remote, .int .i64 r1271.2.f.Size, .slice ao1294 ((bbytesS r1271.1).1).length cap1295] 64, .own (tyInt .i64) 3 (some ⟨g1238, 0, none⟩) cap1229 fsizes, .row b2 [.int .i64 0, .bool false, .bool false, .bool false, .int .i64 0, .slice none 0 0] 24] Z1315 wd1312 := hM1317; clear hM1317
     exact hJ104 (⟨r1271.2.Reader, (⟨r1271.2.f.ID, r1271.2.f.Long, r1271.2.f.Fast, r1271.2.f.Remote, r1271.2.f.Size, (bbytesS r1271.1).1⟩ : Frame)⟩ : FReader) ao1294 cap1295 Z1315 ⟨hp1299, hs1318, hle1127⟩ _ _ ((hF1311.region (by kernel_rfl) (by kernel_rfl)).anyβ _ (by kernel_rfl)) (hM1319.keep (List.Sublist.cons_cons _ (List.Sublist.cons _ (List.Sublist.cons_cons _ (List.Sublist.slnil)))))

end Go.Proofs.YtmbdcehmeiiaoaaDoor
