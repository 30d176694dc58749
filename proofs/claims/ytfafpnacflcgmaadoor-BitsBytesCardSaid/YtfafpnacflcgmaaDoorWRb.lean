/- The walks, made by program: each call does what its pure predicate says. -/
import Derived.Test.YtfafpnacflcgmaaDoorPRb
import Derived.Test.YtfafpnacflcgmaaDoorWRa
import Derived.Test.YtfafpnacflcgmaaDoorWD
set_option linter.unusedVariables false
set_option linter.unusedSimpArgs false
namespace Go.Proofs.YtfafpnacflcgmaaDoor
open Go.Sy Go.RowKit
theorem rofb_fun (u0 : List Int) (hpre : (∀ x ∈ u0, 0 ≤ x ∧ x ≤ 255) ∧ u0.length ≤ 1000) (ao1 : Option Addr) (cap2 : Nat) (Z : Fz) (w : World) (hs3 : SlR (tyInt .u8) Z ao1 cap2 u0) (hg5 : SlR (tyInt .u8) Z (some ⟨5, 0, none⟩) 64 deBruijn64) (hZ : Z.on w) : Calls Tryd.prog 26 #[.slice ao1 u0.length cap2] w fun e w' => e = .returned (str (ofb u0)) ∧ Below w.heap.size w w' :=
  (rofb_walk u0 ao1 cap2 Z w hs3 hg5 hZ (rofb_ok u0 hpre)).mono fun _ _ ⟨r, he, hk, hb⟩ => ⟨by subst hk; exact he, hb⟩

set_option maxRecDepth 100000 in
set_option maxHeartbeats 0 in
theorem LBytes_walk (u0 : List Int) (u1 : List UInt8) (ao1 : Option Addr) (cap2 : Nat) (Z : Fz) (w : World) (hs3 : SlR (tyInt .u8) Z ao1 cap2 u0) (hg5 : SlR (tyInt .u8) Z (some ⟨5, 0, none⟩) 64 deBruijn64) (hZ : Z.on w) {K : Bool → Prop} (hp : LBytes_vc u0 u1 K) : Calls Tryd.prog 6 #[.slice ao1 u0.length cap2, str u1] w fun e w' => ∃ r : Bool, e = .returned (.bool r) ∧ K r ∧ Below w.heap.size w w' := by
 refine enter0 Tryd.func6 rfl rfl (by kernel_rfl) ?_; intro a0 hF0; have hM0 := Mem.start w Z hZ; have hle0 := Fz.le.refl Z
 have hp4 := hp (hs3.small); clear hp
 refine sqH ?_; intro hQ5Q hQ5
 refine s1 hF0 4 (.bool false) ?_; intro a6 hF7; clear hF0
 refine nlH (hQ5 _ _ ?_); clear hQ5 hQ5Q
 refine sqH ?_; intro hQ8Q hQ8
 refine s1 hF7 11 (.slice ao1 u0.length cap2) ?_; intro a9 hF10; clear hF7
 have hc11 := hp4.1; have hp12 := hp4.2; clear hp4
 refine fcl hF10 hM0 (.tuple #[str ((bofS u0).1), .int .i64 ((bofS u0).2)]) 16 #[.slice ao1 u0.length cap2] (nog rfl _) rfl (by kernel_rfl) (fun _ => by kernel_rfl) (bof_fun u0 hc11 ao1 cap2 _ _ hs3 hM0.fz) ?_; intro a13 wd15 hF14 hM16; clear hF10 hM0
 refine s1 hF14 10 (.tuple #[str ((bofS u0).1), .int .i64 ((bofS u0).2)]) ?_; intro a17 hF18; clear hF14
 refine s1 hF18 13 (str ((bofS u0).1)) ?_; intro a19 hF20; clear hF18
 refine s1 hF20 14 (.int .i64 ((bofS u0).2)) ?_; intro a21 hF22; clear hF20
 refine s1 hF22 5 (str ((bofS u0).1)) ?_; intro a23 hF24; clear hF22
 refine s1 hF24 6 (.int .i64 ((bofS u0).2)) ?_; intro a25 hF26; clear hF24
 refine nlH (hQ8 _ _ ?_); clear hQ8 hQ8Q
 refine sqH ?_; intro hQ27Q hQ27
 refine s1 hF26 16 (str u1) ?_; intro a28 hF29; clear hF26
 refine cl hF29 17 #[str u1] (nog rfl _) rfl (by kernel_rfl) (by kernel_rfl) ?_
 refine (bbytes_fun u1 _ _ hM16.fz).mono ?_; rintro _ wd30 ⟨ao34, cap35, Z36, rfl, hm⟩; refine ⟨_, rfl, ?_⟩; intro a31 hF32; have hM33 := hM16.callZ hm; have hle37 := hm.ext.le; clear hm hM16 hF29
 replace hs3 := hs3.mono hle37
 replace hg5 := hg5.mono hle37
 replace hle0 := Fz.le.trans hle0 hle37
 have hM38 : Mem w.heap.size [] w Z [.own (tyInt .u8) 5 ao34 cap35 ((bbytesS u1).1)] Z36 wd30 := hM33; clear hM33
 have hp39 := hp12 (hM38.ownSmall 0 rfl); clear hp12
 refine s1 hF32 15 (.tuple #[.slice ao34 ((bbytesS u1).1).length cap35, .int .i64 ((bbytesS u1).2)]) ?_; intro a40 hF41; clear hF32
 refine s1 hF41 18 (.slice ao34 ((bbytesS u1).1).length cap35) ?_; intro a42 hF43; clear hF41
 refine s1 hF43 19 (.int .i64 ((bbytesS u1).2)) ?_; intro a44 hF45; clear hF43
 refine s1 hF45 7 (.slice ao34 ((bbytesS u1).1).length cap35) ?_; intro a46 hF47; clear hF45
 refine s1 hF47 8 (.int .i64 ((bbytesS u1).2)) ?_; intro a48 hF49; clear hF47
 refine nlH (hQ27 _ _ ?_); clear hQ27 hQ27Q
 refine wp_seq ?_
 have hF50 : Fr 67 [] [⟨0, [], .slice ao1 u0.length cap2⟩, ⟨1, [], str u1⟩, ⟨5, [], str ((bofS u0).1)⟩, ⟨6, [], .int .i64 ((bofS u0).2)⟩, ⟨7, [], .slice ao34 ((bbytesS u1).1).length cap35⟩, ⟨8, [], .int .i64 ((bbytesS u1).2)⟩] a48 := hF49.region (by kernel_rfl) (by kernel_rfl); clear hF49
 refine sqH ?_; intro hQ51Q hQ51
 refine fcl hF50 hM38 (.bool true) 14 #[] (nog rfl _) rfl (by kernel_rfl) (fun _ => by kernel_rfl) (rowed_fun  _ _ hM38.fz) ?_; intro a52 wd54 hF53 hM55; clear hF50 hM38
 refine s1 hF53 21 (.bool false) ?_; intro a56 hF57; clear hF53
 refine nlH (hQ51 _ _ ?_); clear hQ51 hQ51Q
 refine cdF hF57 (by kernel_rfl) ?_
 refine wp_skip ?_
 refine thn ?_
 refine wp_seq ?_
 refine sqH ?_; intro hQ58Q hQ58
 refine s1 hF57 22 (.slice ao1 u0.length cap2) ?_; intro a59 hF60; clear hF57
 refine s1 hF60 23 (.int .i64 (u0.length : Int)) ?_; intro a61 hF62; clear hF60
 refine s1 hF62 24 (.bool (decide ((u0.length : Int) > 125))) ?_; intro a63 hF64; clear hF62
 refine nlH (hQ58 _ _ ?_); clear hQ58 hQ58Q
 refine cd hF64 (t := decide ((u0.length : Int) > 125)) (by kernel_rfl) (fun hb65 => ?_) (fun hb65 => ?_)
 · -- yes
  have hp66 := hp39.1 hb65; clear hp39
  refine sqH ?_; intro hQ67Q hQ67
  refine s1 hF64 25 (.int .i64 ((bofS u0).2)) ?_; intro a68 hF69; clear hF64
  refine s1 hF69 26 (.bool (((bofS u0).2) != 2)) ?_; intro a70 hF71; clear hF69
  refine s1 hF71 27 (.bool (((bofS u0).2) != 2)) ?_; intro a72 hF73; clear hF71
  have hF74 := hF73.atom ((((bofS u0).2) != 2) == false) (by kernel_rfl); clear hF73
  refine gp hF74 28 0 [] (((bofS u0).2) != 2) (str ((bofS u0).1)) rfl rfl ?_; intro a75 hF76; clear hF74
  refine gd hF76 (.bool (((bofS u0).1) != ([] : List UInt8))) (m := 0) (cj := []) (bj := ((bofS u0).2) != 2) rfl rfl (by kernel_rfl) rfl (by kernel_rfl) (by kernel_rfl) (by kernel_rfl) (fun hg => strcmp_run hF76 (g := [0]) (op := .neq) rfl (by kernel_rfl) (by kernel_rfl) (by decide) hg) ?_; intro a77 hF78; clear hF76
  refine st hF78 (.bool ((((bofS u0).2) != 2) || (((bofS u0).1) != ([] : List UInt8)))) (nog rfl _) rfl (by kernel_rfl) (pk_or hF78 (g := []) (m := 0) (b := ((bofS u0).2) != 2) (v := ((bofS u0).1) != ([] : List UInt8)) rfl (by kernel_rfl) (by kernel_rfl) (by kernel_rfl) rfl) ?_; intro a79 hF80; clear hF78
  refine nlH (hQ67 _ _ ?_); clear hQ67 hQ67Q
  refine cd hF80 (t := (((bofS u0).2) != 2) || (((bofS u0).1) != ([] : List UInt8))) (by kernel_rfl) (fun hb81 => ?_) (fun hb81 => ?_)
  · -- yes
   have hp82 := hp66.1 hb81; clear hp66
   have hF83 : Fr 67 [] [] a79 := hF80.region (by kernel_rfl) (by kernel_rfl); clear hF80
   refine sqH ?_; intro hQ84Q hQ84
   refine s1 hF83 4 (.bool false) ?_; intro a85 hF86; clear hF83
   refine nlH (hQ84 _ _ ?_); clear hQ84 hQ84Q
   refine wp_ret ?_
   refine thr ?_
   refine rt (fn := Tryd.f6) (v := .bool false) hF86 (re1 hF86 (fn := Tryd.f6) rfl (by kernel_rfl)) ?_
   exact ⟨false, rfl, hp82, hM55.below⟩
  · -- no
   have hp87 := hp66.2 hb81; clear hp66
   refine wp_skip ?_
   refine thn ?_
   have hF88 : Fr 67 [] [⟨1, [], str u1⟩, ⟨7, [], .slice ao34 ((bbytesS u1).1).length cap35⟩, ⟨8, [], .int .i64 ((bbytesS u1).2)⟩] a79 := hF80.region (by kernel_rfl) (by kernel_rfl); clear hF80
   refine sqH ?_; intro hQ89Q hQ89
   refine s1 hF88 39 (str u1) ?_; intro a90 hF91; clear hF88
   refine fcl hF91 hM55 (.int .i64 (bcheckS u1)) 21 #[str u1] (nog rfl _) rfl (by kernel_rfl) (fun _ => by kernel_rfl) (rcheckrow_fun u1 _ _ hM55.fz) ?_; intro a92 wd94 hF93 hM95; clear hF91 hM55
   refine s1 hF93 9 (.int .i64 (bcheckS u1)) ?_; intro a96 hF97; clear hF93
   refine nlH (hQ89 _ _ ?_); clear hQ89 hQ89Q
   refine wp_seq ?_
   refine sqH ?_; intro hQ98Q hQ98
   refine s1 hF97 41 (.int .i64 (bcheckS u1)) ?_; intro a99 hF100; clear hF97
   refine s1 hF100 42 (.bool ((bcheckS u1) == 0)) ?_; intro a101 hF102; clear hF100
   refine s1 hF102 43 (.bool ((bcheckS u1) == 0)) ?_; intro a103 hF104; clear hF102
   have hF105 := hF104.atom (((bcheckS u1) == 0) == true) (by kernel_rfl); clear hF104
   refine gp hF105 44 0 [] ((bcheckS u1) == 0) (str u1) rfl rfl ?_; intro a106 hF107; clear hF105
   refine gp hF107 45 0 [] ((bcheckS u1) == 0) (.int .i64 (u1.length : Int)) rfl rfl ?_; intro a108 hF109; clear hF107
   refine gp hF109 46 0 [] ((bcheckS u1) == 0) (.int .i64 ((u1.length : Int).tmod 8)) rfl rfl ?_; intro a110 hF111; clear hF109
   refine gp hF111 47 0 [] ((bcheckS u1) == 0) (.bool (((u1.length : Int).tmod 8) != 0)) rfl rfl ?_; intro a112 hF113; clear hF111
   refine st hF113 (.bool (((bcheckS u1) == 0) && (((u1.length : Int).tmod 8) != 0))) (nog rfl _) rfl (by kernel_rfl) (pk_and hF113 (g := []) (m := 0) (b := (bcheckS u1) == 0) (v := ((u1.length : Int).tmod 8) != 0) rfl (by kernel_rfl) (by kernel_rfl) (by kernel_rfl) rfl) ?_; intro a114 hF115; clear hF113
   refine nlH (hQ98 _ _ ?_); clear hQ98 hQ98Q
   refine cd hF115 (t := ((bcheckS u1) == 0) && (((u1.length : Int).tmod 8) != 0)) (by kernel_rfl) (fun hb116 => ?_) (fun hb116 => ?_)
   · -- yes
    have hp117 := hp87.1 hb116; clear hp87
    have hF118 : Fr 67 [] [⟨1, [], str u1⟩, ⟨7, [], .slice ao34 ((bbytesS u1).1).length cap35⟩, ⟨8, [], .int .i64 ((bbytesS u1).2)⟩] a114 := hF115.region (by kernel_rfl) (by kernel_rfl); clear hF115
    refine rgH ?_; intro hQ119Q hQ119
    refine s1 hF118 9 (.int .i64 4) ?_; intro a120 hF121; clear hF118
    refine nlH (hQ119 _ _ ?_); clear hQ119 hQ119Q
    refine thn ?_
    refine wp_seq ?_
    refine sqH ?_; intro hQ122Q hQ122
    refine s1 hF121 49 (.int .i64 4) ?_; intro a123 hF124; clear hF121
    refine s1 hF124 50 (.bool true) ?_; intro a125 hF126; clear hF124
    refine nlH (hQ122 _ _ ?_); clear hQ122 hQ122Q
    refine cdT hF126 (by kernel_rfl) ?_
    refine sqH ?_; intro hQ127Q hQ127
    refine s1 hF126 51 (.int .i64 ((bbytesS u1).2)) ?_; intro a128 hF129; clear hF126
    refine s1 hF129 52 (.int .i64 4) ?_; intro a130 hF131; clear hF129
    refine s1 hF131 53 (.bool (((bbytesS u1).2) == 4)) ?_; intro a132 hF133; clear hF131
    refine s1 hF133 54 (.bool (((bbytesS u1).2) == 4)) ?_; intro a134 hF135; clear hF133
    have hF136 := hF135.atom ((((bbytesS u1).2) == 4) == true) (by kernel_rfl); clear hF135
    refine gp hF136 55 0 [] (((bbytesS u1).2) == 4) (.slice ao34 ((bbytesS u1).1).length cap35) rfl rfl ?_; intro a137 hF138; clear hF136
    refine gp hF138 56 0 [] (((bbytesS u1).2) == 4) (.int .i64 (((bbytesS u1).1).length : Int)) rfl rfl ?_; intro a139 hF140; clear hF138
    refine gp hF140 57 0 [] (((bbytesS u1).2) == 4) (.bool ((((bbytesS u1).1).length : Int) == 0)) rfl rfl ?_; intro a141 hF142; clear hF140
    refine st hF142 (.bool ((((bbytesS u1).2) == 4) && ((((bbytesS u1).1).length : Int) == 0))) (nog rfl _) rfl (by kernel_rfl) (pk_and hF142 (g := []) (m := 0) (b := ((bbytesS u1).2) == 4) (v := (((bbytesS u1).1).length : Int) == 0) rfl (by kernel_rfl) (by kernel_rfl) (by kernel_rfl) rfl) ?_; intro a143 hF144; clear hF142
    refine s1 hF144 4 (.bool ((((bbytesS u1).2) == 4) && ((((bbytesS u1).1).length : Int) == 0))) ?_; intro a145 hF146; clear hF144
    refine nlH (hQ127 _ _ ?_); clear hQ127 hQ127Q
    refine wp_ret ?_
    refine thr ?_
    refine rt (fn := Tryd.f6) (v := .bool ((((bbytesS u1).2) == 4) && ((((bbytesS u1).1).length : Int) == 0))) hF146 (re1 hF146 (fn := Tryd.f6) rfl (by kernel_rfl)) ?_
    exact ⟨(((bbytesS u1).2) == 4) && ((((bbytesS u1).1).length : Int) == 0), rfl, hp117, hM95.below⟩
   · -- no
    have hp147 := hp87.2 hb116; clear hp87
    refine wp_skip ?_
    refine thn ?_
    refine wp_seq ?_
    have hF148 : Fr 67 [] [⟨1, [], str u1⟩, ⟨7, [], .slice ao34 ((bbytesS u1).1).length cap35⟩, ⟨8, [], .int .i64 ((bbytesS u1).2)⟩, ⟨9, [], .int .i64 (bcheckS u1)⟩] a114 := hF115.region (by kernel_rfl) (by kernel_rfl); clear hF115
    refine sqH ?_; intro hQ149Q hQ149
    refine s1 hF148 49 (.int .i64 (bcheckS u1)) ?_; intro a150 hF151; clear hF148
    refine s1 hF151 50 (.bool ((bcheckS u1) != 0)) ?_; intro a152 hF153; clear hF151
    refine nlH (hQ149 _ _ ?_); clear hQ149 hQ149Q
    refine cd hF153 (t := (bcheckS u1) != 0) (by kernel_rfl) (fun hb154 => ?_) (fun hb154 => ?_)
    · -- yes
     have hp155 := hp147.1 hb154; clear hp147
     refine sqH ?_; intro hQ156Q hQ156
     refine s1 hF153 51 (.int .i64 ((bbytesS u1).2)) ?_; intro a157 hF158; clear hF153
     refine s1 hF158 52 (.int .i64 (bcheckS u1)) ?_; intro a159 hF160; clear hF158
     refine s1 hF160 53 (.bool (((bbytesS u1).2) == (bcheckS u1))) ?_; intro a161 hF162; clear hF160
     refine s1 hF162 54 (.bool (((bbytesS u1).2) == (bcheckS u1))) ?_; intro a163 hF164; clear hF162
     have hF165 := hF164.atom ((((bbytesS u1).2) == (bcheckS u1)) == true) (by kernel_rfl); clear hF164
     refine gp hF165 55 0 [] (((bbytesS u1).2) == (bcheckS u1)) (.slice ao34 ((bbytesS u1).1).length cap35) rfl rfl ?_; intro a166 hF167; clear hF165
     refine gp hF167 56 0 [] (((bbytesS u1).2) == (bcheckS u1)) (.int .i64 (((bbytesS u1).1).length : Int)) rfl rfl ?_; intro a168 hF169; clear hF167
     refine gp hF169 57 0 [] (((bbytesS u1).2) == (bcheckS u1)) (.bool ((((bbytesS u1).1).length : Int) == 0)) rfl rfl ?_; intro a170 hF171; clear hF169
     refine st hF171 (.bool ((((bbytesS u1).2) == (bcheckS u1)) && ((((bbytesS u1).1).length : Int) == 0))) (nog rfl _) rfl (by kernel_rfl) (pk_and hF171 (g := []) (m := 0) (b := ((bbytesS u1).2) == (bcheckS u1)) (v := (((bbytesS u1).1).length : Int) == 0) rfl (by kernel_rfl) (by kernel_rfl) (by kernel_rfl) rfl) ?_; intro a172 hF173; clear hF171
     refine s1 hF173 4 (.bool ((((bbytesS u1).2) == (bcheckS u1)) && ((((bbytesS u1).1).length : Int) == 0))) ?_; intro a174 hF175; clear hF173
     refine nlH (hQ156 _ _ ?_); clear hQ156 hQ156Q
     refine wp_ret ?_
     refine thr ?_
     refine rt (fn := Tryd.f6) (v := .bool ((((bbytesS u1).2) == (bcheckS u1)) && ((((bbytesS u1).1).length : Int) == 0))) hF175 (re1 hF175 (fn := Tryd.f6) rfl (by kernel_rfl)) ?_
     exact ⟨(((bbytesS u1).2) == (bcheckS u1)) && ((((bbytesS u1).1).length : Int) == 0), rfl, hp155, hM95.below⟩
    · -- no
     have hp176 := hp147.2 hb154; clear hp147
     refine wp_skip ?_
     refine thn ?_
     refine sqH ?_; intro hQ177Q hQ177
     refine s1 hF153 59 (.int .i64 ((bbytesS u1).2)) ?_; intro a178 hF179; clear hF153
     refine s1 hF179 60 (.bool (((bbytesS u1).2) == 0)) ?_; intro a180 hF181; clear hF179
     refine s1 hF181 61 (.bool (((bbytesS u1).2) == 0)) ?_; intro a182 hF183; clear hF181
     have hF184 := hF183.atom ((((bbytesS u1).2) == 0) == true) (by kernel_rfl); clear hF183
     refine gp hF184 62 0 [] (((bbytesS u1).2) == 0) (.slice ao34 ((bbytesS u1).1).length cap35) rfl rfl ?_; intro a185 hF186; clear hF184
     rcases Bool.eq_false_or_eq_true (((bbytesS u1).2) == 0) with hb187 | hb187
     · -- true
      have hp188 := hp176.1 hb187; clear hp176
      have hF189 := hF186.reval (d := 61) (c := []) (v := .bool (((bbytesS u1).2) == 0)) (by kernel_rfl) (.bool true) (by rw [hb187]); clear hF186
      have hF190 := hF189.setc (d := 62) (c := [0]) (v := .slice ao34 ((bbytesS u1).1).length cap35) (by kernel_rfl) (v' := .slice ao34 ((bbytesS u1).1).length cap35) (by rw [hb187]; kernel_rfl); clear hF189
      obtain ⟨Z191, hle192, hM193, hs194⟩ := hM95.freeze 0 rfl
      replace hs3 := hs3.mono hle192
      replace hg5 := hg5.mono hle192
      replace hle0 := Fz.le.trans hle0 hle192
      have hM195 : Mem w.heap.size [] w Z [] Z191 wd94 := hM193; clear hM193
      have hc196 := hp188.1; have hp197 := hp188.2; clear hp188
      refine fcl hF190 hM195 (str (ofb ((bbytesS u1).1))) 26 #[.slice ao34 ((bbytesS u1).1).length cap35] (by rw [wanted_of hF190 (b := true) rfl rfl (by kernel_rfl) (by kernel_rfl)]; rfl) rfl (by kernel_rfl) (fun _ => by kernel_rfl) (rofb_fun ((bbytesS u1).1) hc196 ao34 cap35 _ _ hs194 hg5 hM195.fz) ?_; intro a198 wd200 hF199 hM201; clear hF190 hM195
      refine st hF199 (str u1) (by rw [wanted_of hF199 (b := true) rfl rfl (by kernel_rfl) (by kernel_rfl)]; rfl) rfl (by kernel_rfl) (p0 hF199 (by kernel_rfl)) ?_; intro a202 hF203; clear hF199
      refine st hF203 (.bool ((ofb ((bbytesS u1).1)) == u1)) (by rw [wanted_of hF203 (b := true) rfl rfl (by kernel_rfl) (by kernel_rfl)]; rfl) rfl (by kernel_rfl) (strcmp_run hF203 (g := []) (op := .eql) rfl (by kernel_rfl) (by kernel_rfl) (by decide) rfl) ?_; intro a204 hF205; clear hF203
      refine s1 hF205 66 (.bool ((ofb ((bbytesS u1).1)) == u1)) ?_; intro a206 hF207; clear hF205
      refine s1 hF207 4 (.bool ((ofb ((bbytesS u1).1)) == u1)) ?_; intro a208 hF209; clear hF207
      refine nlH (hQ177 _ _ ?_); clear hQ177 hQ177Q
      refine wp_ret ?_
      refine rt (fn := Tryd.f6) (v := .bool ((ofb ((bbytesS u1).1)) == u1)) hF209 (re1 hF209 (fn := Tryd.f6) rfl (by kernel_rfl)) ?_
      exact ⟨(ofb ((bbytesS u1).1)) == u1, rfl, hp197, hM201.below⟩
     · -- false
      have hp210 := hp176.2 hb187; clear hp176
      have hF211 := hF186.reval (d := 61) (c := []) (v := .bool (((bbytesS u1).2) == 0)) (by kernel_rfl) (.bool false) (by rw [hb187]); clear hF186
      have hF212 := hF211.setc (d := 62) (c := [0]) (v := .slice ao34 ((bbytesS u1).1).length cap35) (by kernel_rfl) (v' := undef) (by rw [hb187]; kernel_rfl); clear hF211
      refine sk hF212 (b := false) rfl rfl (by kernel_rfl) (by kernel_rfl) rfl rfl (by kernel_rfl) ?_; intro a213 hF214; clear hF212
      refine sk hF214 (b := false) rfl rfl (by kernel_rfl) (by kernel_rfl) rfl rfl (by kernel_rfl) ?_; intro a215 hF216; clear hF214
      refine sk hF216 (b := false) rfl rfl (by kernel_rfl) (by kernel_rfl) rfl rfl (by kernel_rfl) ?_; intro a217 hF218; clear hF216
      refine s1 hF218 66 (.bool false) ?_; intro a219 hF220; clear hF218
      refine s1 hF220 4 (.bool false) ?_; intro a221 hF222; clear hF220
      refine nlH (hQ177 _ _ ?_); clear hQ177 hQ177Q
      refine wp_ret ?_
      refine rt (fn := Tryd.f6) (v := .bool false) hF222 (re1 hF222 (fn := Tryd.f6) rfl (by kernel_rfl)) ?_
      exact ⟨false, rfl, hp210, hM95.below⟩
 · -- no
  have hp223 := hp39.2 hb65; clear hp39
  refine sqH ?_; intro hQ224Q hQ224
  refine s1 hF64 31 (.int .i64 ((bofS u0).2)) ?_; intro a225 hF226; clear hF64
  refine s1 hF226 32 (.bool (((bofS u0).2) != 0)) ?_; intro a227 hF228; clear hF226
  refine s1 hF228 33 (.bool (((bofS u0).2) != 0)) ?_; intro a229 hF230; clear hF228
  have hF231 := hF230.atom ((((bofS u0).2) != 0) == false) (by kernel_rfl); clear hF230
  refine gp hF231 34 0 [] (((bofS u0).2) != 0) (str ((bofS u0).1)) rfl rfl ?_; intro a232 hF233; clear hF231
  refine gp hF233 35 0 [] (((bofS u0).2) != 0) (.slice ao1 u0.length cap2) rfl rfl ?_; intro a234 hF235; clear hF233
  rcases Bool.eq_false_or_eq_true (((bofS u0).2) != 0) with hb236 | hb236
  · -- true
   have hp237 := hp223.1 hb236; clear hp223
   have hF238 := hF235.reval (d := 33) (c := []) (v := .bool (((bofS u0).2) != 0)) (by kernel_rfl) (.bool true) (by rw [hb236]); clear hF235
   have hF239 := hF238.setc (d := 34) (c := [0]) (v := str ((bofS u0).1)) (by kernel_rfl) (v' := undef) (by rw [hb236]; kernel_rfl); clear hF238
   have hF240 := hF239.setc (d := 35) (c := [0]) (v := .slice ao1 u0.length cap2) (by kernel_rfl) (v' := undef) (by rw [hb236]; kernel_rfl); clear hF239
   refine sk hF240 (b := true) rfl rfl (by kernel_rfl) (by kernel_rfl) rfl rfl (by kernel_rfl) ?_; intro a241 hF242; clear hF240
   refine sk hF242 (b := true) rfl rfl (by kernel_rfl) (by kernel_rfl) rfl rfl (by kernel_rfl) ?_; intro a243 hF244; clear hF242
   refine s1 hF244 38 (.bool true) ?_; intro a245 hF246; clear hF244
   refine nlH (hQ224 _ _ ?_); clear hQ224 hQ224Q
   refine cdT hF246 (by kernel_rfl) ?_
   have hF247 : Fr 67 [] [] a245 := hF246.region (by kernel_rfl) (by kernel_rfl); clear hF246
   refine sqH ?_; intro hQ248Q hQ248
   refine s1 hF247 4 (.bool false) ?_; intro a249 hF250; clear hF247
   refine nlH (hQ248 _ _ ?_); clear hQ248 hQ248Q
   refine wp_ret ?_
   refine thr ?_
   refine rt (fn := Tryd.f6) (v := .bool false) hF250 (re1 hF250 (fn := Tryd.f6) rfl (by kernel_rfl)) ?_
   exact ⟨false, rfl, hp237, hM55.below⟩
  · -- false
   have hp251 := hp223.2 hb236; clear hp223
   have hF252 := hF235.reval (d := 33) (c := []) (v := .bool (((bofS u0).2) != 0)) (by kernel_rfl) (.bool false) (by rw [hb236]); clear hF235
   have hF253 := hF252.setc (d := 34) (c := [0]) (v := str ((bofS u0).1)) (by kernel_rfl) (v' := str ((bofS u0).1)) (by rw [hb236]; kernel_rfl); clear hF252
   have hF254 := hF253.setc (d := 35) (c := [0]) (v := .slice ao1 u0.length cap2) (by kernel_rfl) (v' := .slice ao1 u0.length cap2) (by rw [hb236]; kernel_rfl); clear hF253
   have hc255 := hp251.1; have hp256 := hp251.2; clear hp251
   refine fcl hF254 hM55 (str (ofb u0)) 26 #[.slice ao1 u0.length cap2] (by rw [wanted_of hF254 (b := false) rfl rfl (by kernel_rfl) (by kernel_rfl)]; rfl) rfl (by kernel_rfl) (fun _ => by kernel_rfl) (rofb_fun u0 hc255 ao1 cap2 _ _ hs3 hg5 hM55.fz) ?_; intro a257 wd259 hF258 hM260; clear hF254 hM55
   refine st hF258 (.bool (((bofS u0).1) != (ofb u0))) (by rw [wanted_of hF258 (b := false) rfl rfl (by kernel_rfl) (by kernel_rfl)]; rfl) rfl (by kernel_rfl) (strcmp_run hF258 (g := []) (op := .neq) rfl (by kernel_rfl) (by kernel_rfl) (by decide) rfl) ?_; intro a261 hF262; clear hF258
   refine s1 hF262 38 (.bool (((bofS u0).1) != (ofb u0))) ?_; intro a263 hF264; clear hF262
   refine nlH (hQ224 _ _ ?_); clear hQ224 hQ224Q
   refine cd hF264 (t := ((bofS u0).1) != (ofb u0)) (by kernel_rfl) (fun hb265 => ?_) (fun hb265 => ?_)
   · -- yes
    have hp266 := hp256.1 hb265; clear hp256
    have hF267 : Fr 67 [] [] a263 := hF264.region (by kernel_rfl) (by kernel_rfl); clear hF264
    refine sqH ?_; intro hQ268Q hQ268
    refine s1 hF267 4 (.bool false) ?_; intro a269 hF270; clear hF267
    refine nlH (hQ268 _ _ ?_); clear hQ268 hQ268Q
    refine wp_ret ?_
    refine thr ?_
    refine rt (fn := Tryd.f6) (v := .bool false) hF270 (re1 hF270 (fn := Tryd.f6) rfl (by kernel_rfl)) ?_
    exact ⟨false, rfl, hp266, hM260.below⟩
   · -- no
    have hp271 := hp256.2 hb265; clear hp256
    refine wp_skip ?_
    refine thn ?_
    have hF272 : Fr 67 [] [⟨1, [], str u1⟩, ⟨7, [], .slice ao34 ((bbytesS u1).1).length cap35⟩, ⟨8, [], .int .i64 ((bbytesS u1).2)⟩] a263 := hF264.region (by kernel_rfl) (by kernel_rfl); clear hF264
    refine sqH ?_; intro hQ273Q hQ273
    refine s1 hF272 39 (str u1) ?_; intro a274 hF275; clear hF272
    refine fcl hF275 hM260 (.int .i64 (bcheckS u1)) 21 #[str u1] (nog rfl _) rfl (by kernel_rfl) (fun _ => by kernel_rfl) (rcheckrow_fun u1 _ _ hM260.fz) ?_; intro a276 wd278 hF277 hM279; clear hF275 hM260
    refine s1 hF277 9 (.int .i64 (bcheckS u1)) ?_; intro a280 hF281; clear hF277
    refine nlH (hQ273 _ _ ?_); clear hQ273 hQ273Q
    refine wp_seq ?_
    refine sqH ?_; intro hQ282Q hQ282
    refine s1 hF281 41 (.int .i64 (bcheckS u1)) ?_; intro a283 hF284; clear hF281
    refine s1 hF284 42 (.bool ((bcheckS u1) == 0)) ?_; intro a285 hF286; clear hF284
    refine s1 hF286 43 (.bool ((bcheckS u1) == 0)) ?_; intro a287 hF288; clear hF286
    have hF289 := hF288.atom (((bcheckS u1) == 0) == true) (by kernel_rfl); clear hF288
    refine gp hF289 44 0 [] ((bcheckS u1) == 0) (str u1) rfl rfl ?_; intro a290 hF291; clear hF289
    refine gp hF291 45 0 [] ((bcheckS u1) == 0) (.int .i64 (u1.length : Int)) rfl rfl ?_; intro a292 hF293; clear hF291
    refine gp hF293 46 0 [] ((bcheckS u1) == 0) (.int .i64 ((u1.length : Int).tmod 8)) rfl rfl ?_; intro a294 hF295; clear hF293
    refine gp hF295 47 0 [] ((bcheckS u1) == 0) (.bool (((u1.length : Int).tmod 8) != 0)) rfl rfl ?_; intro a296 hF297; clear hF295
    refine st hF297 (.bool (((bcheckS u1) == 0) && (((u1.length : Int).tmod 8) != 0))) (nog rfl _) rfl (by kernel_rfl) (pk_and hF297 (g := []) (m := 0) (b := (bcheckS u1) == 0) (v := ((u1.length : Int).tmod 8) != 0) rfl (by kernel_rfl) (by kernel_rfl) (by kernel_rfl) rfl) ?_; intro a298 hF299; clear hF297
    refine nlH (hQ282 _ _ ?_); clear hQ282 hQ282Q
    refine cd hF299 (t := ((bcheckS u1) == 0) && (((u1.length : Int).tmod 8) != 0)) (by kernel_rfl) (fun hb300 => ?_) (fun hb300 => ?_)
    · -- yes
     have hp301 := hp271.1 hb300; clear hp271
     have hF302 : Fr 67 [] [⟨1, [], str u1⟩, ⟨7, [], .slice ao34 ((bbytesS u1).1).length cap35⟩, ⟨8, [], .int .i64 ((bbytesS u1).2)⟩] a298 := hF299.region (by kernel_rfl) (by kernel_rfl); clear hF299
     refine rgH ?_; intro hQ303Q hQ303
     refine s1 hF302 9 (.int .i64 4) ?_; intro a304 hF305; clear hF302
     refine nlH (hQ303 _ _ ?_); clear hQ303 hQ303Q
     refine thn ?_
     refine wp_seq ?_
     refine sqH ?_; intro hQ306Q hQ306
     refine s1 hF305 49 (.int .i64 4) ?_; intro a307 hF308; clear hF305
     refine s1 hF308 50 (.bool true) ?_; intro a309 hF310; clear hF308
     refine nlH (hQ306 _ _ ?_); clear hQ306 hQ306Q
     refine cdT hF310 (by kernel_rfl) ?_
     refine sqH ?_; intro hQ311Q hQ311
     refine s1 hF310 51 (.int .i64 ((bbytesS u1).2)) ?_; intro a312 hF313; clear hF310
     refine s1 hF313 52 (.int .i64 4) ?_; intro a314 hF315; clear hF313
     refine s1 hF315 53 (.bool (((bbytesS u1).2) == 4)) ?_; intro a316 hF317; clear hF315
     refine s1 hF317 54 (.bool (((bbytesS u1).2) == 4)) ?_; intro a318 hF319; clear hF317
     have hF320 := hF319.atom ((((bbytesS u1).2) == 4) == true) (by kernel_rfl); clear hF319
     refine gp hF320 55 0 [] (((bbytesS u1).2) == 4) (.slice ao34 ((bbytesS u1).1).length cap35) rfl rfl ?_; intro a321 hF322; clear hF320
     refine gp hF322 56 0 [] (((bbytesS u1).2) == 4) (.int .i64 (((bbytesS u1).1).length : Int)) rfl rfl ?_; intro a323 hF324; clear hF322
     refine gp hF324 57 0 [] (((bbytesS u1).2) == 4) (.bool ((((bbytesS u1).1).length : Int) == 0)) rfl rfl ?_; intro a325 hF326; clear hF324
     refine st hF326 (.bool ((((bbytesS u1).2) == 4) && ((((bbytesS u1).1).length : Int) == 0))) (nog rfl _) rfl (by kernel_rfl) (pk_and hF326 (g := []) (m := 0) (b := ((bbytesS u1).2) == 4) (v := (((bbytesS u1).1).length : Int) == 0) rfl (by kernel_rfl) (by kernel_rfl) (by kernel_rfl) rfl) ?_; intro a327 hF328; clear hF326
     refine s1 hF328 4 (.bool ((((bbytesS u1).2) == 4) && ((((bbytesS u1).1).length : Int) == 0))) ?_; intro a329 hF330; clear hF328
     refine nlH (hQ311 _ _ ?_); clear hQ311 hQ311Q
     refine wp_ret ?_
     refine thr ?_
     refine rt (fn := Tryd.f6) (v := .bool ((((bbytesS u1).2) == 4) && ((((bbytesS u1).1).length : Int) == 0))) hF330 (re1 hF330 (fn := Tryd.f6) rfl (by kernel_rfl)) ?_
     exact ⟨(((bbytesS u1).2) == 4) && ((((bbytesS u1).1).length : Int) == 0), rfl, hp301, hM279.below⟩
    · -- no
     have hp331 := hp271.2 hb300; clear hp271
     refine wp_skip ?_
     refine thn ?_
     refine wp_seq ?_
     have hF332 : Fr 67 [] [⟨1, [], str u1⟩, ⟨7, [], .slice ao34 ((bbytesS u1).1).length cap35⟩, ⟨8, [], .int .i64 ((bbytesS u1).2)⟩, ⟨9, [], .int .i64 (bcheckS u1)⟩] a298 := hF299.region (by kernel_rfl) (by kernel_rfl); clear hF299
     refine sqH ?_; intro hQ333Q hQ333
     refine s1 hF332 49 (.int .i64 (bcheckS u1)) ?_; intro a334 hF335; clear hF332
     refine s1 hF335 50 (.bool ((bcheckS u1) != 0)) ?_; intro a336 hF337; clear hF335
     refine nlH (hQ333 _ _ ?_); clear hQ333 hQ333Q
     refine cd hF337 (t := (bcheckS u1) != 0) (by kernel_rfl) (fun hb338 => ?_) (fun hb338 => ?_)
     · -- yes
      have hp339 := hp331.1 hb338; clear hp331
      refine sqH ?_; intro hQ340Q hQ340
      refine s1 hF337 51 (.int .i64 ((bbytesS u1).2)) ?_; intro a341 hF342; clear hF337
      refine s1 hF342 52 (.int .i64 (bcheckS u1)) ?_; intro a343 hF344; clear hF342
      refine s1 hF344 53 (.bool (((bbytesS u1).2) == (bcheckS u1))) ?_; intro a345 hF346; clear hF344
      refine s1 hF346 54 (.bool (((bbytesS u1).2) == (bcheckS u1))) ?_; intro a347 hF348; clear hF346
      have hF349 := hF348.atom ((((bbytesS u1).2) == (bcheckS u1)) == true) (by kernel_rfl); clear hF348
      refine gp hF349 55 0 [] (((bbytesS u1).2) == (bcheckS u1)) (.slice ao34 ((bbytesS u1).1).length cap35) rfl rfl ?_; intro a350 hF351; clear hF349
      refine gp hF351 56 0 [] (((bbytesS u1).2) == (bcheckS u1)) (.int .i64 (((bbytesS u1).1).length : Int)) rfl rfl ?_; intro a352 hF353; clear hF351
      refine gp hF353 57 0 [] (((bbytesS u1).2) == (bcheckS u1)) (.bool ((((bbytesS u1).1).length : Int) == 0)) rfl rfl ?_; intro a354 hF355; clear hF353
      refine st hF355 (.bool ((((bbytesS u1).2) == (bcheckS u1)) && ((((bbytesS u1).1).length : Int) == 0))) (nog rfl _) rfl (by kernel_rfl) (pk_and hF355 (g := []) (m := 0) (b := ((bbytesS u1).2) == (bcheckS u1)) (v := (((bbytesS u1).1).length : Int) == 0) rfl (by kernel_rfl) (by kernel_rfl) (by kernel_rfl) rfl) ?_; intro a356 hF357; clear hF355
      refine s1 hF357 4 (.bool ((((bbytesS u1).2) == (bcheckS u1)) && ((((bbytesS u1).1).length : Int) == 0))) ?_; intro a358 hF359; clear hF357
      refine nlH (hQ340 _ _ ?_); clear hQ340 hQ340Q
      refine wp_ret ?_
      refine thr ?_
      refine rt (fn := Tryd.f6) (v := .bool ((((bbytesS u1).2) == (bcheckS u1)) && ((((bbytesS u1).1).length : Int) == 0))) hF359 (re1 hF359 (fn := Tryd.f6) rfl (by kernel_rfl)) ?_
      exact ⟨(((bbytesS u1).2) == (bcheckS u1)) && ((((bbytesS u1).1).length : Int) == 0), rfl, hp339, hM279.below⟩
     · -- no
      have hp360 := hp331.2 hb338; clear hp331
      refine wp_skip ?_
      refine thn ?_
      refine sqH ?_; intro hQ361Q hQ361
      refine s1 hF337 59 (.int .i64 ((bbytesS u1).2)) ?_; intro a362 hF363; clear hF337
      refine s1 hF363 60 (.bool (((bbytesS u1).2) == 0)) ?_; intro a364 hF365; clear hF363
      refine s1 hF365 61 (.bool (((bbytesS u1).2) == 0)) ?_; intro a366 hF367; clear hF365
      have hF368 := hF367.atom ((((bbytesS u1).2) == 0) == true) (by kernel_rfl); clear hF367
      refine gp hF368 62 0 [] (((bbytesS u1).2) == 0) (.slice ao34 ((bbytesS u1).1).length cap35) rfl rfl ?_; intro a369 hF370; clear hF368
      rcases Bool.eq_false_or_eq_true (((bbytesS u1).2) == 0) with hb371 | hb371
      · -- true
       have hp372 := hp360.1 hb371; clear hp360
       have hF373 := hF370.reval (d := 61) (c := []) (v := .bool (((bbytesS u1).2) == 0)) (by kernel_rfl) (.bool true) (by rw [hb371]); clear hF370
       have hF374 := hF373.setc (d := 62) (c := [0]) (v := .slice ao34 ((bbytesS u1).1).length cap35) (by kernel_rfl) (v' := .slice ao34 ((bbytesS u1).1).length cap35) (by rw [hb371]; kernel_rfl); clear hF373
       obtain ⟨Z375, hle376, hM377, hs378⟩ := hM279.freeze 0 rfl
       replace hs3 := hs3.mono hle376
       replace hg5 := hg5.mono hle376
       replace hle0 := Fz.le.trans hle0 hle376
       have hM379 : Mem w.heap.size [] w Z [] Z375 wd278 := hM377; clear hM377
       have hc380 := hp372.1; have hp381 := hp372.2; clear hp372
       refine fcl hF374 hM379 (str (ofb ((bbytesS u1).1))) 26 #[.slice ao34 ((bbytesS u1).1).length cap35] (by rw [wanted_of hF374 (b := true) rfl rfl (by kernel_rfl) (by kernel_rfl)]; rfl) rfl (by kernel_rfl) (fun _ => by kernel_rfl) (rofb_fun ((bbytesS u1).1) hc380 ao34 cap35 _ _ hs378 hg5 hM379.fz) ?_; intro a382 wd384 hF383 hM385; clear hF374 hM379
       refine st hF383 (str u1) (by rw [wanted_of hF383 (b := true) rfl rfl (by kernel_rfl) (by kernel_rfl)]; rfl) rfl (by kernel_rfl) (p0 hF383 (by kernel_rfl)) ?_; intro a386 hF387; clear hF383
       refine st hF387 (.bool ((ofb ((bbytesS u1).1)) == u1)) (by rw [wanted_of hF387 (b := true) rfl rfl (by kernel_rfl) (by kernel_rfl)]; rfl) rfl (by kernel_rfl) (strcmp_run hF387 (g := []) (op := .eql) rfl (by kernel_rfl) (by kernel_rfl) (by decide) rfl) ?_; intro a388 hF389; clear hF387
       refine s1 hF389 66 (.bool ((ofb ((bbytesS u1).1)) == u1)) ?_; intro a390 hF391; clear hF389
       refine s1 hF391 4 (.bool ((ofb ((bbytesS u1).1)) == u1)) ?_; intro a392 hF393; clear hF391
       refine nlH (hQ361 _ _ ?_); clear hQ361 hQ361Q
       refine wp_ret ?_
       refine rt (fn := Tryd.f6) (v := .bool ((ofb ((bbytesS u1).1)) == u1)) hF393 (re1 hF393 (fn := Tryd.f6) rfl (by kernel_rfl)) ?_
       exact ⟨(ofb ((bbytesS u1).1)) == u1, rfl, hp381, hM385.below⟩
      · -- false
       have hp394 := hp360.2 hb371; clear hp360
       have hF395 := hF370.reval (d := 61) (c := []) (v := .bool (((bbytesS u1).2) == 0)) (by kernel_rfl) (.bool false) (by rw [hb371]); clear hF370
       have hF396 := hF395.setc (d := 62) (c := [0]) (v := .slice ao34 ((bbytesS u1).1).length cap35) (by kernel_rfl) (v' := undef) (by rw [hb371]; kernel_rfl); clear hF395
       refine sk hF396 (b := false) rfl rfl (by kernel_rfl) (by kernel_rfl) rfl rfl (by kernel_rfl) ?_; intro a397 hF398; clear hF396
       refine sk hF398 (b := false) rfl rfl (by kernel_rfl) (by kernel_rfl) rfl rfl (by kernel_rfl) ?_; intro a399 hF400; clear hF398
       refine sk hF400 (b := false) rfl rfl (by kernel_rfl) (by kernel_rfl) rfl rfl (by kernel_rfl) ?_; intro a401 hF402; clear hF400
       refine s1 hF402 66 (.bool false) ?_; intro a403 hF404; clear hF402
       refine s1 hF404 4 (.bool false) ?_; intro a405 hF406; clear hF404
       refine nlH (hQ361 _ _ ?_); clear hQ361 hQ361Q
       refine wp_ret ?_
       refine rt (fn := Tryd.f6) (v := .bool false) hF406 (re1 hF406 (fn := Tryd.f6) rfl (by kernel_rfl)) ?_
       exact ⟨false, rfl, hp394, hM279.below⟩

end Go.Proofs.YtfafpnacflcgmaaDoor
