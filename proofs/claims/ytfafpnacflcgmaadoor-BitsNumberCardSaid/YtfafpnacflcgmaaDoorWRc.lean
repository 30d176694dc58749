/- The walks, made by program: each call does what its pure predicate says. -/
import Derived.Test.YtfafpnacflcgmaaDoorPRc
import Derived.Test.YtfafpnacflcgmaaDoorWBe
import Derived.Test.YtfafpnacflcgmaaDoorWBm
import Derived.Test.YtfafpnacflcgmaaDoorWD
set_option linter.unusedVariables false
set_option linter.unusedSimpArgs false
namespace Go.Proofs.YtfafpnacflcgmaaDoor
open Go.Sy Go.RowKit
set_option maxRecDepth 100000 in
set_option maxHeartbeats 0 in
theorem LNumber_walk (u0 : List UInt8) (u1 : Int) (u2 : Int)  (Z : Fz) (w : World) (hg5 : SlR (tyInt .u8) Z (some ⟨5, 0, none⟩) 64 deBruijn64) (hZ : Z.on w) {K : Bool → Prop} (hp : LNumber_vc u0 u1 u2 K) : Calls Tryd.prog 5 #[str u0, .int .i64 u1, .int .i64 u2] w fun e w' => ∃ r : Bool, e = .returned (.bool r) ∧ K r ∧ Below w.heap.size w w' := by
 refine enter0 Tryd.func5 rfl rfl (by kernel_rfl) ?_; intro a0 hF0; have hM0 := Mem.start w Z hZ; have hle0 := Fz.le.refl Z
 refine sqH ?_; intro hQ1Q hQ1
 refine s1 hF0 6 (.bool false) ?_; intro a2 hF3; clear hF0
 refine nlH (hQ1 _ _ ?_); clear hQ1 hQ1Q
 refine sqH ?_; intro hQ4Q hQ4
 refine s1 hF3 15 (str u0) ?_; intro a5 hF6; clear hF3
 refine fcl hF6 hM0 (.tuple #[.int .i64 ((bnumberS u0).1), .int .i64 ((bnumberS u0).2)]) 13 #[str u0] (nog rfl _) rfl (by kernel_rfl) (fun _ => by kernel_rfl) (bnumber_fun u0 _ _ hM0.fz) ?_; intro a7 wd9 hF8 hM10; clear hF6 hM0
 refine s1 hF8 14 (.tuple #[.int .i64 ((bnumberS u0).1), .int .i64 ((bnumberS u0).2)]) ?_; intro a11 hF12; clear hF8
 refine s1 hF12 17 (.int .i64 ((bnumberS u0).1)) ?_; intro a13 hF14; clear hF12
 refine s1 hF14 18 (.int .i64 ((bnumberS u0).2)) ?_; intro a15 hF16; clear hF14
 refine s1 hF16 7 (.int .i64 ((bnumberS u0).1)) ?_; intro a17 hF18; clear hF16
 refine s1 hF18 8 (.int .i64 ((bnumberS u0).2)) ?_; intro a19 hF20; clear hF18
 refine nlH (hQ4 _ _ ?_); clear hQ4 hQ4Q
 refine sqH ?_; intro hQ21Q hQ21
 refine s1 hF20 20 (.int .i64 u1) ?_; intro a22 hF23; clear hF20
 refine s1 hF23 21 (.int .i64 u2) ?_; intro a24 hF25; clear hF23
 have hc26 := hp.1; have hp27 := hp.2; clear hp
 refine fcl hF25 hM10 (.tuple #[str ((browS u1 u2).1), .int .i64 ((browS u1 u2).2)]) 15 #[.int .i64 u1, .int .i64 u2] (nog rfl _) rfl (by kernel_rfl) (fun _ => by kernel_rfl) (brow_fun u1 u2 hc26 _ _ hM10.fz) ?_; intro a28 wd30 hF29 hM31; clear hF25 hM10
 refine s1 hF29 19 (.tuple #[str ((browS u1 u2).1), .int .i64 ((browS u1 u2).2)]) ?_; intro a32 hF33; clear hF29
 refine s1 hF33 23 (str ((browS u1 u2).1)) ?_; intro a34 hF35; clear hF33
 refine s1 hF35 24 (.int .i64 ((browS u1 u2).2)) ?_; intro a36 hF37; clear hF35
 refine s1 hF37 9 (str ((browS u1 u2).1)) ?_; intro a38 hF39; clear hF37
 refine s1 hF39 10 (.int .i64 ((browS u1 u2).2)) ?_; intro a40 hF41; clear hF39
 refine nlH (hQ21 _ _ ?_); clear hQ21 hQ21Q
 have hF42 : Fr 95 [] [⟨0, [], str u0⟩, ⟨1, [], .int .i64 u1⟩, ⟨2, [], .int .i64 u2⟩, ⟨7, [], .int .i64 ((bnumberS u0).1)⟩, ⟨8, [], .int .i64 ((bnumberS u0).2)⟩, ⟨9, [], str ((browS u1 u2).1)⟩, ⟨10, [], .int .i64 ((browS u1 u2).2)⟩] a40 := hF41.reg; clear hF41
 refine sqH ?_; intro hQ43Q hQ43
 refine s1 hF42 25 (str u0) ?_; intro a44 hF45; clear hF42
 refine fcl hF45 hM31 (.int .i64 (bcheckS u0)) 21 #[str u0] (nog rfl _) rfl (by kernel_rfl) (fun _ => by kernel_rfl) (rcheckrow_fun u0 _ _ hM31.fz) ?_; intro a46 wd48 hF47 hM49; clear hF45 hM31
 refine s1 hF47 11 (.int .i64 (bcheckS u0)) ?_; intro a50 hF51; clear hF47
 refine nlH (hQ43 _ _ ?_); clear hQ43 hQ43Q
 refine wp_seq ?_
 refine sqH ?_; intro hQ52Q hQ52
 refine fcl hF51 hM49 (.bool true) 14 #[] (nog rfl _) rfl (by kernel_rfl) (fun _ => by kernel_rfl) (rowed_fun  _ _ hM49.fz) ?_; intro a53 wd55 hF54 hM56; clear hF51 hM49
 refine s1 hF54 28 (.bool false) ?_; intro a57 hF58; clear hF54
 refine s1 hF58 29 (.bool false) ?_; intro a59 hF60; clear hF58
 refine st hF60 (str u0) (by rw [wanted_of hF60 (b := false) rfl rfl (by kernel_rfl) (by kernel_rfl)]; rfl) rfl (by kernel_rfl) (p0 hF60 (by kernel_rfl)) ?_; intro a61 hF62; clear hF60
 refine fcl hF62 hM56 (.int .i64 (bcheckS u0)) 22 #[str u0] (by rw [wanted_of hF62 (b := false) rfl rfl (by kernel_rfl) (by kernel_rfl)]; rfl) rfl (by kernel_rfl) (fun _ => by kernel_rfl) (bcheck_fun u0 _ _ hM56.fz) ?_; intro a63 wd65 hF64 hM66; clear hF62 hM56
 refine st hF64 (.int .i64 (bcheckS u0)) (by rw [wanted_of hF64 (b := false) rfl rfl (by kernel_rfl) (by kernel_rfl)]; rfl) rfl (by kernel_rfl) (p0 hF64 (by kernel_rfl)) ?_; intro a67 hF68; clear hF64
 refine st hF68 (.bool ((bcheckS u0) != (bcheckS u0))) (by rw [wanted_of hF68 (b := false) rfl rfl (by kernel_rfl) (by kernel_rfl)]; rfl) rfl (by kernel_rfl) (p0 hF68 (by kernel_rfl)) ?_; intro a69 hF70; clear hF68
 refine s1 hF70 34 (.bool ((bcheckS u0) != (bcheckS u0))) ?_; intro a71 hF72; clear hF70
 refine nlH (hQ52 _ _ ?_); clear hQ52 hQ52Q
 refine cd hF72 (t := (bcheckS u0) != (bcheckS u0)) (by kernel_rfl) (fun hb73 => ?_) (fun hb73 => ?_)
 ·
  have hp74 := hp27.1 hb73; clear hp27
  refine sqH ?_; intro hQ75Q hQ75
  refine s1 hF72 6 (.bool false) ?_; intro a76 hF77; clear hF72
  refine nlH (hQ75 _ _ ?_); clear hQ75 hQ75Q
  refine wp_ret ?_
  refine thr ?_
  refine rt (fn := Tryd.f5) (v := .bool false) hF77 (re1 hF77 (fn := Tryd.f5) rfl (by kernel_rfl)) ?_
  exact ⟨false, rfl, hp74, hM66.below⟩
 ·
  have hp78 := hp27.2 hb73; clear hp27
  refine wp_skip ?_
  refine thn ?_
  refine wp_seq ?_
  refine sqH ?_; intro hQ79Q hQ79
  refine s1 hF72 35 (.int .i64 (bcheckS u0)) ?_; intro a80 hF81; clear hF72
  refine s1 hF81 36 (.bool ((bcheckS u0) == 0)) ?_; intro a82 hF83; clear hF81
  refine s1 hF83 37 (.bool ((bcheckS u0) == 0)) ?_; intro a84 hF85; clear hF83
  have hF86 := hF85.atom (((bcheckS u0) == 0) == true) (by kernel_rfl); clear hF85
  refine gp hF86 38 0 [] ((bcheckS u0) == 0) (str u0) rfl rfl ?_; intro a87 hF88; clear hF86
  refine gp hF88 39 0 [] ((bcheckS u0) == 0) (.int .i64 (u0.length : Int)) rfl rfl ?_; intro a89 hF90; clear hF88
  refine gp hF90 40 0 [] ((bcheckS u0) == 0) (.bool (decide ((u0.length : Int) > 62))) rfl rfl ?_; intro a91 hF92; clear hF90
  refine st hF92 (.bool (((bcheckS u0) == 0) && (decide ((u0.length : Int) > 62)))) (nog rfl _) rfl (by kernel_rfl) (pk_and hF92 (g := []) (m := 0) (b := (bcheckS u0) == 0) (v := decide ((u0.length : Int) > 62)) rfl (by kernel_rfl) (by kernel_rfl) (by kernel_rfl) rfl) ?_; intro a93 hF94; clear hF92
  refine nlH (hQ79 _ _ ?_); clear hQ79 hQ79Q
  refine cd hF94 (t := ((bcheckS u0) == 0) && (decide ((u0.length : Int) > 62))) (by kernel_rfl) (fun hb95 => ?_) (fun hb95 => ?_)
  ·
   have hp96 := hp78.1 hb95; clear hp78
   have hF97 : Fr 95 [] [⟨0, [], str u0⟩, ⟨1, [], .int .i64 u1⟩, ⟨2, [], .int .i64 u2⟩, ⟨7, [], .int .i64 ((bnumberS u0).1)⟩, ⟨8, [], .int .i64 ((bnumberS u0).2)⟩, ⟨9, [], str ((browS u1 u2).1)⟩, ⟨10, [], .int .i64 ((browS u1 u2).2)⟩] a93 := hF94.reg; clear hF94
   refine rgH ?_; intro hQ98Q hQ98
   refine s1 hF97 11 (.int .i64 2) ?_; intro a99 hF100; clear hF97
   refine nlH (hQ98 _ _ ?_); clear hQ98 hQ98Q
   refine thn ?_
   refine wp_seq ?_
   refine sqH ?_; intro hQ101Q hQ101
   refine s1 hF100 42 (.int .i64 2) ?_; intro a102 hF103; clear hF100
   refine s1 hF103 43 (.bool true) ?_; intro a104 hF105; clear hF103
   refine nlH (hQ101 _ _ ?_); clear hQ101 hQ101Q
   refine cdT hF105 (by kernel_rfl) ?_
   refine sqH ?_; intro hQ106Q hQ106
   refine s1 hF105 44 (.int .i64 ((bnumberS u0).2)) ?_; intro a107 hF108; clear hF105
   refine s1 hF108 45 (.int .i64 2) ?_; intro a109 hF110; clear hF108
   refine s1 hF110 46 (.bool (((bnumberS u0).2) != 2)) ?_; intro a111 hF112; clear hF110
   refine s1 hF112 47 (.bool (((bnumberS u0).2) != 2)) ?_; intro a113 hF114; clear hF112
   have hF115 := hF114.atom ((((bnumberS u0).2) != 2) == false) (by kernel_rfl); clear hF114
   refine gp hF115 48 0 [] (((bnumberS u0).2) != 2) (.int .i64 ((bnumberS u0).1)) rfl rfl ?_; intro a116 hF117; clear hF115
   refine gp hF117 49 0 [] (((bnumberS u0).2) != 2) (.bool (((bnumberS u0).1) != 0)) rfl rfl ?_; intro a118 hF119; clear hF117
   refine st hF119 (.bool ((((bnumberS u0).2) != 2) || (((bnumberS u0).1) != 0))) (nog rfl _) rfl (by kernel_rfl) (pk_or hF119 (g := []) (m := 0) (b := ((bnumberS u0).2) != 2) (v := ((bnumberS u0).1) != 0) rfl (by kernel_rfl) (by kernel_rfl) (by kernel_rfl) rfl) ?_; intro a120 hF121; clear hF119
   refine nlH (hQ106 _ _ ?_); clear hQ106 hQ106Q
   refine cd hF121 (t := (((bnumberS u0).2) != 2) || (((bnumberS u0).1) != 0)) (by kernel_rfl) (fun hb122 => ?_) (fun hb122 => ?_)
   ·
    have hp123 := hp96.1 hb122; clear hp96
    have hF124 : Fr 95 [] [] a120 := hF121.reg; clear hF121
    refine sqH ?_; intro hQ125Q hQ125
    refine s1 hF124 6 (.bool false) ?_; intro a126 hF127; clear hF124
    refine nlH (hQ125 _ _ ?_); clear hQ125 hQ125Q
    refine wp_ret ?_
    refine thr ?_
    refine rt (fn := Tryd.f5) (v := .bool false) hF127 (re1 hF127 (fn := Tryd.f5) rfl (by kernel_rfl)) ?_
    exact ⟨false, rfl, hp123, hM66.below⟩
   ·
    have hp128 := hp96.2 hb122; clear hp96
    refine wp_skip ?_
    refine thn ?_
    refine wp_seq ?_
    have hF129 : Fr 95 [] [⟨1, [], .int .i64 u1⟩, ⟨2, [], .int .i64 u2⟩, ⟨9, [], str ((browS u1 u2).1)⟩, ⟨10, [], .int .i64 ((browS u1 u2).2)⟩] a120 := hF121.reg; clear hF121
    refine sqH ?_; intro hQ130Q hQ130
    refine s1 hF129 60 (.int .i64 u2) ?_; intro a131 hF132; clear hF129
    refine s1 hF132 61 (.bool (decide (u2 < 0))) ?_; intro a133 hF134; clear hF132
    refine s1 hF134 62 (.bool (decide (u2 < 0))) ?_; intro a135 hF136; clear hF134
    have hF137 := hF136.atom ((decide (u2 < 0)) == false) (by kernel_rfl); clear hF136
    refine gp hF137 63 0 [] (decide (u2 < 0)) (.int .i64 u2) rfl rfl ?_; intro a138 hF139; clear hF137
    refine gp hF139 64 0 [] (decide (u2 < 0)) (.bool (decide (u2 > 62))) rfl rfl ?_; intro a140 hF141; clear hF139
    refine st hF141 (.bool ((decide (u2 < 0)) || (decide (u2 > 62)))) (nog rfl _) rfl (by kernel_rfl) (pk_or hF141 (g := []) (m := 0) (b := decide (u2 < 0)) (v := decide (u2 > 62)) rfl (by kernel_rfl) (by kernel_rfl) (by kernel_rfl) rfl) ?_; intro a142 hF143; clear hF141
    refine nlH (hQ130 _ _ ?_); clear hQ130 hQ130Q
    refine cd hF143 (t := (decide (u2 < 0)) || (decide (u2 > 62))) (by kernel_rfl) (fun hb144 => ?_) (fun hb144 => ?_)
    ·
     have hp145 := hp128.1 hb144; clear hp128
     have hF146 : Fr 95 [] [⟨9, [], str ((browS u1 u2).1)⟩, ⟨10, [], .int .i64 ((browS u1 u2).2)⟩] a142 := hF143.reg; clear hF143
     refine sqH ?_; intro hQ147Q hQ147
     refine s1 hF146 66 (.int .i64 ((browS u1 u2).2)) ?_; intro a148 hF149; clear hF146
     refine s1 hF149 67 (.bool (((browS u1 u2).2) == 2)) ?_; intro a150 hF151; clear hF149
     refine s1 hF151 68 (.bool (((browS u1 u2).2) == 2)) ?_; intro a152 hF153; clear hF151
     have hF154 := hF153.atom ((((browS u1 u2).2) == 2) == true) (by kernel_rfl); clear hF153
     refine gp hF154 69 0 [] (((browS u1 u2).2) == 2) (str ((browS u1 u2).1)) rfl rfl ?_; intro a155 hF156; clear hF154
     refine gd hF156 (.bool (((browS u1 u2).1) == ([] : List UInt8))) (m := 0) (cj := []) (bj := ((browS u1 u2).2) == 2) rfl rfl (by kernel_rfl) rfl (by kernel_rfl) (by kernel_rfl) (by kernel_rfl) (fun hg => strcmp_run hF156 (g := [0]) (op := .eql) rfl (by kernel_rfl) (by kernel_rfl) (by decide) hg) ?_; intro a157 hF158; clear hF156
     refine st hF158 (.bool ((((browS u1 u2).2) == 2) && (((browS u1 u2).1) == ([] : List UInt8)))) (nog rfl _) rfl (by kernel_rfl) (pk_and hF158 (g := []) (m := 0) (b := ((browS u1 u2).2) == 2) (v := ((browS u1 u2).1) == ([] : List UInt8)) rfl (by kernel_rfl) (by kernel_rfl) (by kernel_rfl) rfl) ?_; intro a159 hF160; clear hF158
     refine s1 hF160 6 (.bool ((((browS u1 u2).2) == 2) && (((browS u1 u2).1) == ([] : List UInt8)))) ?_; intro a161 hF162; clear hF160
     refine nlH (hQ147 _ _ ?_); clear hQ147 hQ147Q
     refine wp_ret ?_
     refine thr ?_
     refine rt (fn := Tryd.f5) (v := .bool ((((browS u1 u2).2) == 2) && (((browS u1 u2).1) == ([] : List UInt8)))) hF162 (re1 hF162 (fn := Tryd.f5) rfl (by kernel_rfl)) ?_
     exact ⟨(((browS u1 u2).2) == 2) && (((browS u1 u2).1) == ([] : List UInt8)), rfl, hp145, hM66.below⟩
    ·
     have hp163 := hp128.2 hb144; clear hp128
     refine wp_skip ?_
     refine thn ?_
     have hF164 : Fr 95 [] [⟨1, [], .int .i64 u1⟩, ⟨2, [], .int .i64 u2⟩, ⟨9, [], str ((browS u1 u2).1)⟩, ⟨10, [], .int .i64 ((browS u1 u2).2)⟩] a142 := hF143.reg; clear hF143
     refine sqH ?_; intro hQ165Q hQ165
     refine s1 hF164 12 (str []) ?_; intro a166 hF167; clear hF164
     refine s1 hF167 13 (.bool false) ?_; intro a168 hF169; clear hF167
     refine nlH (hQ165 _ _ ?_); clear hQ165 hQ165Q
     refine wp_seq ?_
     refine sqH ?_; intro hQ170Q hQ170
     refine s1 hF169 72 (.int .i64 u1) ?_; intro a171 hF172; clear hF169
     refine s1 hF172 73 (.bool (decide (u1 ≥ 0))) ?_; intro a173 hF174; clear hF172
     refine nlH (hQ170 _ _ ?_); clear hQ170 hQ170Q
     refine cd hF174 (t := decide (u1 ≥ 0)) (by kernel_rfl) (fun hb175 => ?_) (fun hb175 => ?_)
     ·
      have hp176 := hp163.1 hb175; clear hp163
      refine rgH ?_; intro hQ177Q hQ177
      refine s1 hF174 75 (.int .i64 u1) ?_; intro a178 hF179; clear hF174
      refine s1 hF179 76 (.int .i64 u2) ?_; intro a180 hF181; clear hF179
      have hc182 := hp176.1; have hp183 := hp176.2; clear hp176
      refine fcl hF181 hM66 (.tuple #[str ((rrowS u1 u2).1), .bool ((rrowS u1 u2).2)]) 25 #[.int .i64 u1, .int .i64 u2] (nog rfl _) rfl (by kernel_rfl) (fun _ => by kernel_rfl) (rrow_fun u1 u2 hc182 _ _ hg5 hM66.fz) ?_; intro a184 wd186 hF185 hM187; clear hF181 hM66
      refine s1 hF185 74 (.tuple #[str ((rrowS u1 u2).1), .bool ((rrowS u1 u2).2)]) ?_; intro a188 hF189; clear hF185
      refine s1 hF189 78 (str ((rrowS u1 u2).1)) ?_; intro a190 hF191; clear hF189
      refine s1 hF191 79 (.bool ((rrowS u1 u2).2)) ?_; intro a192 hF193; clear hF191
      refine s1 hF193 12 (str ((rrowS u1 u2).1)) ?_; intro a194 hF195; clear hF193
      refine s1 hF195 13 (.bool ((rrowS u1 u2).2)) ?_; intro a196 hF197; clear hF195
      refine nlH (hQ177 _ _ ?_); clear hQ177 hQ177Q
      refine thn ?_
      refine wp_seq ?_
      refine sqH ?_; intro hQ198Q hQ198
      refine s1 hF197 80 (.bool ((rrowS u1 u2).2)) ?_; intro a199 hF200; clear hF197
      refine s1 hF200 81 (.bool (!((rrowS u1 u2).2))) ?_; intro a201 hF202; clear hF200
      refine nlH (hQ198 _ _ ?_); clear hQ198 hQ198Q
      refine cd hF202 (t := !((rrowS u1 u2).2)) (by kernel_rfl) (fun hb203 => ?_) (fun hb203 => ?_)
      ·
       have hp204 := hp183.1 hb203; clear hp183
       have hF205 : Fr 95 [] [⟨9, [], str ((browS u1 u2).1)⟩, ⟨10, [], .int .i64 ((browS u1 u2).2)⟩] a201 := hF202.reg; clear hF202
       refine sqH ?_; intro hQ206Q hQ206
       refine s1 hF205 82 (.int .i64 ((browS u1 u2).2)) ?_; intro a207 hF208; clear hF205
       refine s1 hF208 83 (.bool (((browS u1 u2).2) == 3)) ?_; intro a209 hF210; clear hF208
       refine s1 hF210 84 (.bool (((browS u1 u2).2) == 3)) ?_; intro a211 hF212; clear hF210
       have hF213 := hF212.atom ((((browS u1 u2).2) == 3) == true) (by kernel_rfl); clear hF212
       refine gp hF213 85 0 [] (((browS u1 u2).2) == 3) (str ((browS u1 u2).1)) rfl rfl ?_; intro a214 hF215; clear hF213
       refine gd hF215 (.bool (((browS u1 u2).1) == ([] : List UInt8))) (m := 0) (cj := []) (bj := ((browS u1 u2).2) == 3) rfl rfl (by kernel_rfl) rfl (by kernel_rfl) (by kernel_rfl) (by kernel_rfl) (fun hg => strcmp_run hF215 (g := [0]) (op := .eql) rfl (by kernel_rfl) (by kernel_rfl) (by decide) hg) ?_; intro a216 hF217; clear hF215
       refine st hF217 (.bool ((((browS u1 u2).2) == 3) && (((browS u1 u2).1) == ([] : List UInt8)))) (nog rfl _) rfl (by kernel_rfl) (pk_and hF217 (g := []) (m := 0) (b := ((browS u1 u2).2) == 3) (v := ((browS u1 u2).1) == ([] : List UInt8)) rfl (by kernel_rfl) (by kernel_rfl) (by kernel_rfl) rfl) ?_; intro a218 hF219; clear hF217
       refine s1 hF219 6 (.bool ((((browS u1 u2).2) == 3) && (((browS u1 u2).1) == ([] : List UInt8)))) ?_; intro a220 hF221; clear hF219
       refine nlH (hQ206 _ _ ?_); clear hQ206 hQ206Q
       refine wp_ret ?_
       refine thr ?_
       refine rt (fn := Tryd.f5) (v := .bool ((((browS u1 u2).2) == 3) && (((browS u1 u2).1) == ([] : List UInt8)))) hF221 (re1 hF221 (fn := Tryd.f5) rfl (by kernel_rfl)) ?_
       exact ⟨(((browS u1 u2).2) == 3) && (((browS u1 u2).1) == ([] : List UInt8)), rfl, hp204, hM187.below⟩
      ·
       have hp222 := hp183.2 hb203; clear hp183
       refine wp_skip ?_
       refine thn ?_
       have hF223 : Fr 95 [] [⟨9, [], str ((browS u1 u2).1)⟩, ⟨10, [], .int .i64 ((browS u1 u2).2)⟩, ⟨12, [], str ((rrowS u1 u2).1)⟩] a201 := hF202.reg; clear hF202
       refine sqH ?_; intro hQ224Q hQ224
       refine s1 hF223 88 (.int .i64 ((browS u1 u2).2)) ?_; intro a225 hF226; clear hF223
       refine s1 hF226 89 (.bool (((browS u1 u2).2) == 0)) ?_; intro a227 hF228; clear hF226
       refine s1 hF228 90 (.bool (((browS u1 u2).2) == 0)) ?_; intro a229 hF230; clear hF228
       have hF231 := hF230.atom ((((browS u1 u2).2) == 0) == true) (by kernel_rfl); clear hF230
       refine gp hF231 91 0 [] (((browS u1 u2).2) == 0) (str ((browS u1 u2).1)) rfl rfl ?_; intro a232 hF233; clear hF231
       refine gp hF233 92 0 [] (((browS u1 u2).2) == 0) (str ((rrowS u1 u2).1)) rfl rfl ?_; intro a234 hF235; clear hF233
       refine gd hF235 (.bool (((browS u1 u2).1) == ((rrowS u1 u2).1))) (m := 0) (cj := []) (bj := ((browS u1 u2).2) == 0) rfl rfl (by kernel_rfl) rfl (by kernel_rfl) (by kernel_rfl) (by kernel_rfl) (fun hg => strcmp_run hF235 (g := [0]) (op := .eql) rfl (by kernel_rfl) (by kernel_rfl) (by decide) hg) ?_; intro a236 hF237; clear hF235
       refine st hF237 (.bool ((((browS u1 u2).2) == 0) && (((browS u1 u2).1) == ((rrowS u1 u2).1)))) (nog rfl _) rfl (by kernel_rfl) (pk_and hF237 (g := []) (m := 0) (b := ((browS u1 u2).2) == 0) (v := ((browS u1 u2).1) == ((rrowS u1 u2).1)) rfl (by kernel_rfl) (by kernel_rfl) (by kernel_rfl) rfl) ?_; intro a238 hF239; clear hF237
       refine s1 hF239 6 (.bool ((((browS u1 u2).2) == 0) && (((browS u1 u2).1) == ((rrowS u1 u2).1)))) ?_; intro a240 hF241; clear hF239
       refine nlH (hQ224 _ _ ?_); clear hQ224 hQ224Q
       refine wp_ret ?_
       refine rt (fn := Tryd.f5) (v := .bool ((((browS u1 u2).2) == 0) && (((browS u1 u2).1) == ((rrowS u1 u2).1)))) hF241 (re1 hF241 (fn := Tryd.f5) rfl (by kernel_rfl)) ?_
       exact ⟨(((browS u1 u2).2) == 0) && (((browS u1 u2).1) == ((rrowS u1 u2).1)), rfl, hp222, hM187.below⟩
     ·
      have hp242 := hp163.2 hb175; clear hp163
      refine wp_skip ?_
      refine thn ?_
      refine wp_seq ?_
      refine sqH ?_; intro hQ243Q hQ243
      refine s1 hF174 80 (.bool false) ?_; intro a244 hF245; clear hF174
      refine s1 hF245 81 (.bool true) ?_; intro a246 hF247; clear hF245
      refine nlH (hQ243 _ _ ?_); clear hQ243 hQ243Q
      refine cdT hF247 (by kernel_rfl) ?_
      refine sqH ?_; intro hQ248Q hQ248
      refine s1 hF247 82 (.int .i64 ((browS u1 u2).2)) ?_; intro a249 hF250; clear hF247
      refine s1 hF250 83 (.bool (((browS u1 u2).2) == 3)) ?_; intro a251 hF252; clear hF250
      refine s1 hF252 84 (.bool (((browS u1 u2).2) == 3)) ?_; intro a253 hF254; clear hF252
      have hF255 := hF254.atom ((((browS u1 u2).2) == 3) == true) (by kernel_rfl); clear hF254
      refine gp hF255 85 0 [] (((browS u1 u2).2) == 3) (str ((browS u1 u2).1)) rfl rfl ?_; intro a256 hF257; clear hF255
      refine gd hF257 (.bool (((browS u1 u2).1) == ([] : List UInt8))) (m := 0) (cj := []) (bj := ((browS u1 u2).2) == 3) rfl rfl (by kernel_rfl) rfl (by kernel_rfl) (by kernel_rfl) (by kernel_rfl) (fun hg => strcmp_run hF257 (g := [0]) (op := .eql) rfl (by kernel_rfl) (by kernel_rfl) (by decide) hg) ?_; intro a258 hF259; clear hF257
      refine st hF259 (.bool ((((browS u1 u2).2) == 3) && (((browS u1 u2).1) == ([] : List UInt8)))) (nog rfl _) rfl (by kernel_rfl) (pk_and hF259 (g := []) (m := 0) (b := ((browS u1 u2).2) == 3) (v := ((browS u1 u2).1) == ([] : List UInt8)) rfl (by kernel_rfl) (by kernel_rfl) (by kernel_rfl) rfl) ?_; intro a260 hF261; clear hF259
      refine s1 hF261 6 (.bool ((((browS u1 u2).2) == 3) && (((browS u1 u2).1) == ([] : List UInt8)))) ?_; intro a262 hF263; clear hF261
      refine nlH (hQ248 _ _ ?_); clear hQ248 hQ248Q
      refine wp_ret ?_
      refine thr ?_
      refine rt (fn := Tryd.f5) (v := .bool ((((browS u1 u2).2) == 3) && (((browS u1 u2).1) == ([] : List UInt8)))) hF263 (re1 hF263 (fn := Tryd.f5) rfl (by kernel_rfl)) ?_
      exact ⟨(((browS u1 u2).2) == 3) && (((browS u1 u2).1) == ([] : List UInt8)), rfl, hp242, hM66.below⟩
  ·
   have hp264 := hp78.2 hb95; clear hp78
   refine wp_skip ?_
   refine thn ?_
   refine wp_seq ?_
   have hF265 : Fr 95 [] [⟨0, [], str u0⟩, ⟨1, [], .int .i64 u1⟩, ⟨2, [], .int .i64 u2⟩, ⟨7, [], .int .i64 ((bnumberS u0).1)⟩, ⟨8, [], .int .i64 ((bnumberS u0).2)⟩, ⟨9, [], str ((browS u1 u2).1)⟩, ⟨10, [], .int .i64 ((browS u1 u2).2)⟩, ⟨11, [], .int .i64 (bcheckS u0)⟩] a93 := hF94.reg; clear hF94
   refine sqH ?_; intro hQ266Q hQ266
   refine s1 hF265 42 (.int .i64 (bcheckS u0)) ?_; intro a267 hF268; clear hF265
   refine s1 hF268 43 (.bool ((bcheckS u0) != 0)) ?_; intro a269 hF270; clear hF268
   refine nlH (hQ266 _ _ ?_); clear hQ266 hQ266Q
   refine cd hF270 (t := (bcheckS u0) != 0) (by kernel_rfl) (fun hb271 => ?_) (fun hb271 => ?_)
   ·
    have hp272 := hp264.1 hb271; clear hp264
    refine sqH ?_; intro hQ273Q hQ273
    refine s1 hF270 44 (.int .i64 ((bnumberS u0).2)) ?_; intro a274 hF275; clear hF270
    refine s1 hF275 45 (.int .i64 (bcheckS u0)) ?_; intro a276 hF277; clear hF275
    refine s1 hF277 46 (.bool (((bnumberS u0).2) != (bcheckS u0))) ?_; intro a278 hF279; clear hF277
    refine s1 hF279 47 (.bool (((bnumberS u0).2) != (bcheckS u0))) ?_; intro a280 hF281; clear hF279
    have hF282 := hF281.atom ((((bnumberS u0).2) != (bcheckS u0)) == false) (by kernel_rfl); clear hF281
    refine gp hF282 48 0 [] (((bnumberS u0).2) != (bcheckS u0)) (.int .i64 ((bnumberS u0).1)) rfl rfl ?_; intro a283 hF284; clear hF282
    refine gp hF284 49 0 [] (((bnumberS u0).2) != (bcheckS u0)) (.bool (((bnumberS u0).1) != 0)) rfl rfl ?_; intro a285 hF286; clear hF284
    refine st hF286 (.bool ((((bnumberS u0).2) != (bcheckS u0)) || (((bnumberS u0).1) != 0))) (nog rfl _) rfl (by kernel_rfl) (pk_or hF286 (g := []) (m := 0) (b := ((bnumberS u0).2) != (bcheckS u0)) (v := ((bnumberS u0).1) != 0) rfl (by kernel_rfl) (by kernel_rfl) (by kernel_rfl) rfl) ?_; intro a287 hF288; clear hF286
    refine nlH (hQ273 _ _ ?_); clear hQ273 hQ273Q
    refine cd hF288 (t := (((bnumberS u0).2) != (bcheckS u0)) || (((bnumberS u0).1) != 0)) (by kernel_rfl) (fun hb289 => ?_) (fun hb289 => ?_)
    ·
     have hp290 := hp272.1 hb289; clear hp272
     have hF291 : Fr 95 [] [] a287 := hF288.reg; clear hF288
     refine sqH ?_; intro hQ292Q hQ292
     refine s1 hF291 6 (.bool false) ?_; intro a293 hF294; clear hF291
     refine nlH (hQ292 _ _ ?_); clear hQ292 hQ292Q
     refine wp_ret ?_
     refine thr ?_
     refine rt (fn := Tryd.f5) (v := .bool false) hF294 (re1 hF294 (fn := Tryd.f5) rfl (by kernel_rfl)) ?_
     exact ⟨false, rfl, hp290, hM66.below⟩
    ·
     have hp295 := hp272.2 hb289; clear hp272
     refine wp_skip ?_
     refine thn ?_
     refine wp_seq ?_
     have hF296 : Fr 95 [] [⟨1, [], .int .i64 u1⟩, ⟨2, [], .int .i64 u2⟩, ⟨9, [], str ((browS u1 u2).1)⟩, ⟨10, [], .int .i64 ((browS u1 u2).2)⟩] a287 := hF288.reg; clear hF288
     refine sqH ?_; intro hQ297Q hQ297
     refine s1 hF296 60 (.int .i64 u2) ?_; intro a298 hF299; clear hF296
     refine s1 hF299 61 (.bool (decide (u2 < 0))) ?_; intro a300 hF301; clear hF299
     refine s1 hF301 62 (.bool (decide (u2 < 0))) ?_; intro a302 hF303; clear hF301
     have hF304 := hF303.atom ((decide (u2 < 0)) == false) (by kernel_rfl); clear hF303
     refine gp hF304 63 0 [] (decide (u2 < 0)) (.int .i64 u2) rfl rfl ?_; intro a305 hF306; clear hF304
     refine gp hF306 64 0 [] (decide (u2 < 0)) (.bool (decide (u2 > 62))) rfl rfl ?_; intro a307 hF308; clear hF306
     refine st hF308 (.bool ((decide (u2 < 0)) || (decide (u2 > 62)))) (nog rfl _) rfl (by kernel_rfl) (pk_or hF308 (g := []) (m := 0) (b := decide (u2 < 0)) (v := decide (u2 > 62)) rfl (by kernel_rfl) (by kernel_rfl) (by kernel_rfl) rfl) ?_; intro a309 hF310; clear hF308
     refine nlH (hQ297 _ _ ?_); clear hQ297 hQ297Q
     refine cd hF310 (t := (decide (u2 < 0)) || (decide (u2 > 62))) (by kernel_rfl) (fun hb311 => ?_) (fun hb311 => ?_)
     ·
      have hp312 := hp295.1 hb311; clear hp295
      have hF313 : Fr 95 [] [⟨9, [], str ((browS u1 u2).1)⟩, ⟨10, [], .int .i64 ((browS u1 u2).2)⟩] a309 := hF310.reg; clear hF310
      refine sqH ?_; intro hQ314Q hQ314
      refine s1 hF313 66 (.int .i64 ((browS u1 u2).2)) ?_; intro a315 hF316; clear hF313
      refine s1 hF316 67 (.bool (((browS u1 u2).2) == 2)) ?_; intro a317 hF318; clear hF316
      refine s1 hF318 68 (.bool (((browS u1 u2).2) == 2)) ?_; intro a319 hF320; clear hF318
      have hF321 := hF320.atom ((((browS u1 u2).2) == 2) == true) (by kernel_rfl); clear hF320
      refine gp hF321 69 0 [] (((browS u1 u2).2) == 2) (str ((browS u1 u2).1)) rfl rfl ?_; intro a322 hF323; clear hF321
      refine gd hF323 (.bool (((browS u1 u2).1) == ([] : List UInt8))) (m := 0) (cj := []) (bj := ((browS u1 u2).2) == 2) rfl rfl (by kernel_rfl) rfl (by kernel_rfl) (by kernel_rfl) (by kernel_rfl) (fun hg => strcmp_run hF323 (g := [0]) (op := .eql) rfl (by kernel_rfl) (by kernel_rfl) (by decide) hg) ?_; intro a324 hF325; clear hF323
      refine st hF325 (.bool ((((browS u1 u2).2) == 2) && (((browS u1 u2).1) == ([] : List UInt8)))) (nog rfl _) rfl (by kernel_rfl) (pk_and hF325 (g := []) (m := 0) (b := ((browS u1 u2).2) == 2) (v := ((browS u1 u2).1) == ([] : List UInt8)) rfl (by kernel_rfl) (by kernel_rfl) (by kernel_rfl) rfl) ?_; intro a326 hF327; clear hF325
      refine s1 hF327 6 (.bool ((((browS u1 u2).2) == 2) && (((browS u1 u2).1) == ([] : List UInt8)))) ?_; intro a328 hF329; clear hF327
      refine nlH (hQ314 _ _ ?_); clear hQ314 hQ314Q
      refine wp_ret ?_
      refine thr ?_
      refine rt (fn := Tryd.f5) (v := .bool ((((browS u1 u2).2) == 2) && (((browS u1 u2).1) == ([] : List UInt8)))) hF329 (re1 hF329 (fn := Tryd.f5) rfl (by kernel_rfl)) ?_
      exact ⟨(((browS u1 u2).2) == 2) && (((browS u1 u2).1) == ([] : List UInt8)), rfl, hp312, hM66.below⟩
     ·
      have hp330 := hp295.2 hb311; clear hp295
      refine wp_skip ?_
      refine thn ?_
      have hF331 : Fr 95 [] [⟨1, [], .int .i64 u1⟩, ⟨2, [], .int .i64 u2⟩, ⟨9, [], str ((browS u1 u2).1)⟩, ⟨10, [], .int .i64 ((browS u1 u2).2)⟩] a309 := hF310.reg; clear hF310
      refine sqH ?_; intro hQ332Q hQ332
      refine s1 hF331 12 (str []) ?_; intro a333 hF334; clear hF331
      refine s1 hF334 13 (.bool false) ?_; intro a335 hF336; clear hF334
      refine nlH (hQ332 _ _ ?_); clear hQ332 hQ332Q
      refine wp_seq ?_
      refine sqH ?_; intro hQ337Q hQ337
      refine s1 hF336 72 (.int .i64 u1) ?_; intro a338 hF339; clear hF336
      refine s1 hF339 73 (.bool (decide (u1 ≥ 0))) ?_; intro a340 hF341; clear hF339
      refine nlH (hQ337 _ _ ?_); clear hQ337 hQ337Q
      refine cd hF341 (t := decide (u1 ≥ 0)) (by kernel_rfl) (fun hb342 => ?_) (fun hb342 => ?_)
      ·
       have hp343 := hp330.1 hb342; clear hp330
       refine rgH ?_; intro hQ344Q hQ344
       refine s1 hF341 75 (.int .i64 u1) ?_; intro a345 hF346; clear hF341
       refine s1 hF346 76 (.int .i64 u2) ?_; intro a347 hF348; clear hF346
       have hc349 := hp343.1; have hp350 := hp343.2; clear hp343
       refine fcl hF348 hM66 (.tuple #[str ((rrowS u1 u2).1), .bool ((rrowS u1 u2).2)]) 25 #[.int .i64 u1, .int .i64 u2] (nog rfl _) rfl (by kernel_rfl) (fun _ => by kernel_rfl) (rrow_fun u1 u2 hc349 _ _ hg5 hM66.fz) ?_; intro a351 wd353 hF352 hM354; clear hF348 hM66
       refine s1 hF352 74 (.tuple #[str ((rrowS u1 u2).1), .bool ((rrowS u1 u2).2)]) ?_; intro a355 hF356; clear hF352
       refine s1 hF356 78 (str ((rrowS u1 u2).1)) ?_; intro a357 hF358; clear hF356
       refine s1 hF358 79 (.bool ((rrowS u1 u2).2)) ?_; intro a359 hF360; clear hF358
       refine s1 hF360 12 (str ((rrowS u1 u2).1)) ?_; intro a361 hF362; clear hF360
       refine s1 hF362 13 (.bool ((rrowS u1 u2).2)) ?_; intro a363 hF364; clear hF362
       refine nlH (hQ344 _ _ ?_); clear hQ344 hQ344Q
       refine thn ?_
       refine wp_seq ?_
       refine sqH ?_; intro hQ365Q hQ365
       refine s1 hF364 80 (.bool ((rrowS u1 u2).2)) ?_; intro a366 hF367; clear hF364
       refine s1 hF367 81 (.bool (!((rrowS u1 u2).2))) ?_; intro a368 hF369; clear hF367
       refine nlH (hQ365 _ _ ?_); clear hQ365 hQ365Q
       refine cd hF369 (t := !((rrowS u1 u2).2)) (by kernel_rfl) (fun hb370 => ?_) (fun hb370 => ?_)
       ·
        have hp371 := hp350.1 hb370; clear hp350
        have hF372 : Fr 95 [] [⟨9, [], str ((browS u1 u2).1)⟩, ⟨10, [], .int .i64 ((browS u1 u2).2)⟩] a368 := hF369.reg; clear hF369
        refine sqH ?_; intro hQ373Q hQ373
        refine s1 hF372 82 (.int .i64 ((browS u1 u2).2)) ?_; intro a374 hF375; clear hF372
        refine s1 hF375 83 (.bool (((browS u1 u2).2) == 3)) ?_; intro a376 hF377; clear hF375
        refine s1 hF377 84 (.bool (((browS u1 u2).2) == 3)) ?_; intro a378 hF379; clear hF377
        have hF380 := hF379.atom ((((browS u1 u2).2) == 3) == true) (by kernel_rfl); clear hF379
        refine gp hF380 85 0 [] (((browS u1 u2).2) == 3) (str ((browS u1 u2).1)) rfl rfl ?_; intro a381 hF382; clear hF380
        refine gd hF382 (.bool (((browS u1 u2).1) == ([] : List UInt8))) (m := 0) (cj := []) (bj := ((browS u1 u2).2) == 3) rfl rfl (by kernel_rfl) rfl (by kernel_rfl) (by kernel_rfl) (by kernel_rfl) (fun hg => strcmp_run hF382 (g := [0]) (op := .eql) rfl (by kernel_rfl) (by kernel_rfl) (by decide) hg) ?_; intro a383 hF384; clear hF382
        refine st hF384 (.bool ((((browS u1 u2).2) == 3) && (((browS u1 u2).1) == ([] : List UInt8)))) (nog rfl _) rfl (by kernel_rfl) (pk_and hF384 (g := []) (m := 0) (b := ((browS u1 u2).2) == 3) (v := ((browS u1 u2).1) == ([] : List UInt8)) rfl (by kernel_rfl) (by kernel_rfl) (by kernel_rfl) rfl) ?_; intro a385 hF386; clear hF384
        refine s1 hF386 6 (.bool ((((browS u1 u2).2) == 3) && (((browS u1 u2).1) == ([] : List UInt8)))) ?_; intro a387 hF388; clear hF386
        refine nlH (hQ373 _ _ ?_); clear hQ373 hQ373Q
        refine wp_ret ?_
        refine thr ?_
        refine rt (fn := Tryd.f5) (v := .bool ((((browS u1 u2).2) == 3) && (((browS u1 u2).1) == ([] : List UInt8)))) hF388 (re1 hF388 (fn := Tryd.f5) rfl (by kernel_rfl)) ?_
        exact ⟨(((browS u1 u2).2) == 3) && (((browS u1 u2).1) == ([] : List UInt8)), rfl, hp371, hM354.below⟩
       ·
        have hp389 := hp350.2 hb370; clear hp350
        refine wp_skip ?_
        refine thn ?_
        have hF390 : Fr 95 [] [⟨9, [], str ((browS u1 u2).1)⟩, ⟨10, [], .int .i64 ((browS u1 u2).2)⟩, ⟨12, [], str ((rrowS u1 u2).1)⟩] a368 := hF369.reg; clear hF369
        refine sqH ?_; intro hQ391Q hQ391
        refine s1 hF390 88 (.int .i64 ((browS u1 u2).2)) ?_; intro a392 hF393; clear hF390
        refine s1 hF393 89 (.bool (((browS u1 u2).2) == 0)) ?_; intro a394 hF395; clear hF393
        refine s1 hF395 90 (.bool (((browS u1 u2).2) == 0)) ?_; intro a396 hF397; clear hF395
        have hF398 := hF397.atom ((((browS u1 u2).2) == 0) == true) (by kernel_rfl); clear hF397
        refine gp hF398 91 0 [] (((browS u1 u2).2) == 0) (str ((browS u1 u2).1)) rfl rfl ?_; intro a399 hF400; clear hF398
        refine gp hF400 92 0 [] (((browS u1 u2).2) == 0) (str ((rrowS u1 u2).1)) rfl rfl ?_; intro a401 hF402; clear hF400
        refine gd hF402 (.bool (((browS u1 u2).1) == ((rrowS u1 u2).1))) (m := 0) (cj := []) (bj := ((browS u1 u2).2) == 0) rfl rfl (by kernel_rfl) rfl (by kernel_rfl) (by kernel_rfl) (by kernel_rfl) (fun hg => strcmp_run hF402 (g := [0]) (op := .eql) rfl (by kernel_rfl) (by kernel_rfl) (by decide) hg) ?_; intro a403 hF404; clear hF402
        refine st hF404 (.bool ((((browS u1 u2).2) == 0) && (((browS u1 u2).1) == ((rrowS u1 u2).1)))) (nog rfl _) rfl (by kernel_rfl) (pk_and hF404 (g := []) (m := 0) (b := ((browS u1 u2).2) == 0) (v := ((browS u1 u2).1) == ((rrowS u1 u2).1)) rfl (by kernel_rfl) (by kernel_rfl) (by kernel_rfl) rfl) ?_; intro a405 hF406; clear hF404
        refine s1 hF406 6 (.bool ((((browS u1 u2).2) == 0) && (((browS u1 u2).1) == ((rrowS u1 u2).1)))) ?_; intro a407 hF408; clear hF406
        refine nlH (hQ391 _ _ ?_); clear hQ391 hQ391Q
        refine wp_ret ?_
        refine rt (fn := Tryd.f5) (v := .bool ((((browS u1 u2).2) == 0) && (((browS u1 u2).1) == ((rrowS u1 u2).1)))) hF408 (re1 hF408 (fn := Tryd.f5) rfl (by kernel_rfl)) ?_
        exact ⟨(((browS u1 u2).2) == 0) && (((browS u1 u2).1) == ((rrowS u1 u2).1)), rfl, hp389, hM354.below⟩
      ·
       have hp409 := hp330.2 hb342; clear hp330
       refine wp_skip ?_
       refine thn ?_
       refine wp_seq ?_
       refine sqH ?_; intro hQ410Q hQ410
       refine s1 hF341 80 (.bool false) ?_; intro a411 hF412; clear hF341
       refine s1 hF412 81 (.bool true) ?_; intro a413 hF414; clear hF412
       refine nlH (hQ410 _ _ ?_); clear hQ410 hQ410Q
       refine cdT hF414 (by kernel_rfl) ?_
       refine sqH ?_; intro hQ415Q hQ415
       refine s1 hF414 82 (.int .i64 ((browS u1 u2).2)) ?_; intro a416 hF417; clear hF414
       refine s1 hF417 83 (.bool (((browS u1 u2).2) == 3)) ?_; intro a418 hF419; clear hF417
       refine s1 hF419 84 (.bool (((browS u1 u2).2) == 3)) ?_; intro a420 hF421; clear hF419
       have hF422 := hF421.atom ((((browS u1 u2).2) == 3) == true) (by kernel_rfl); clear hF421
       refine gp hF422 85 0 [] (((browS u1 u2).2) == 3) (str ((browS u1 u2).1)) rfl rfl ?_; intro a423 hF424; clear hF422
       refine gd hF424 (.bool (((browS u1 u2).1) == ([] : List UInt8))) (m := 0) (cj := []) (bj := ((browS u1 u2).2) == 3) rfl rfl (by kernel_rfl) rfl (by kernel_rfl) (by kernel_rfl) (by kernel_rfl) (fun hg => strcmp_run hF424 (g := [0]) (op := .eql) rfl (by kernel_rfl) (by kernel_rfl) (by decide) hg) ?_; intro a425 hF426; clear hF424
       refine st hF426 (.bool ((((browS u1 u2).2) == 3) && (((browS u1 u2).1) == ([] : List UInt8)))) (nog rfl _) rfl (by kernel_rfl) (pk_and hF426 (g := []) (m := 0) (b := ((browS u1 u2).2) == 3) (v := ((browS u1 u2).1) == ([] : List UInt8)) rfl (by kernel_rfl) (by kernel_rfl) (by kernel_rfl) rfl) ?_; intro a427 hF428; clear hF426
       refine s1 hF428 6 (.bool ((((browS u1 u2).2) == 3) && (((browS u1 u2).1) == ([] : List UInt8)))) ?_; intro a429 hF430; clear hF428
       refine nlH (hQ415 _ _ ?_); clear hQ415 hQ415Q
       refine wp_ret ?_
       refine thr ?_
       refine rt (fn := Tryd.f5) (v := .bool ((((browS u1 u2).2) == 3) && (((browS u1 u2).1) == ([] : List UInt8)))) hF430 (re1 hF430 (fn := Tryd.f5) rfl (by kernel_rfl)) ?_
       exact ⟨(((browS u1 u2).2) == 3) && (((browS u1 u2).1) == ([] : List UInt8)), rfl, hp409, hM66.below⟩
   ·
    have hp431 := hp264.2 hb271; clear hp264
    refine sqH ?_; intro hQ432Q hQ432
    refine s1 hF270 51 (.int .i64 ((bnumberS u0).2)) ?_; intro a433 hF434; clear hF270
    refine s1 hF434 52 (.bool (((bnumberS u0).2) != 0)) ?_; intro a435 hF436; clear hF434
    refine s1 hF436 53 (.bool (((bnumberS u0).2) != 0)) ?_; intro a437 hF438; clear hF436
    have hF439 := hF438.atom ((((bnumberS u0).2) != 0) == false) (by kernel_rfl); clear hF438
    refine gp hF439 54 0 [] (((bnumberS u0).2) != 0) (str u0) rfl rfl ?_; intro a440 hF441; clear hF439
    rcases Bool.eq_false_or_eq_true (((bnumberS u0).2) != 0) with hb442 | hb442
    ·
     have hp443 := hp431.1 hb442; clear hp431
     have hF444 := hF441.reval (d := 53) (c := []) (v := .bool (((bnumberS u0).2) != 0)) (by kernel_rfl) (.bool true) (by rw [hb442]); clear hF441
     have hF445 := hF444.setc (d := 54) (c := [0]) (v := str u0) (by kernel_rfl) (v' := undef) (by rw [hb442]; kernel_rfl); clear hF444
     refine sk hF445 (b := true) rfl rfl (by kernel_rfl) (by kernel_rfl) rfl rfl (by kernel_rfl) ?_; intro a446 hF447; clear hF445
     refine sk hF447 (b := true) rfl rfl (by kernel_rfl) (by kernel_rfl) rfl rfl (by kernel_rfl) ?_; intro a448 hF449; clear hF447
     refine sk hF449 (b := true) rfl rfl (by kernel_rfl) (by kernel_rfl) rfl rfl (by kernel_rfl) ?_; intro a450 hF451; clear hF449
     refine sk hF451 (b := true) rfl rfl (by kernel_rfl) (by kernel_rfl) rfl rfl (by kernel_rfl) ?_; intro a452 hF453; clear hF451
     refine s1 hF453 59 (.bool true) ?_; intro a454 hF455; clear hF453
     refine nlH (hQ432 _ _ ?_); clear hQ432 hQ432Q
     refine cdT hF455 (by kernel_rfl) ?_
     have hF456 : Fr 95 [] [] a454 := hF455.reg; clear hF455
     refine sqH ?_; intro hQ457Q hQ457
     refine s1 hF456 6 (.bool false) ?_; intro a458 hF459; clear hF456
     refine nlH (hQ457 _ _ ?_); clear hQ457 hQ457Q
     refine wp_ret ?_
     refine thr ?_
     refine rt (fn := Tryd.f5) (v := .bool false) hF459 (re1 hF459 (fn := Tryd.f5) rfl (by kernel_rfl)) ?_
     exact ⟨false, rfl, hp443, hM66.below⟩
    ·
     have hp460 := hp431.2 hb442; clear hp431
     have hF461 := hF441.reval (d := 53) (c := []) (v := .bool (((bnumberS u0).2) != 0)) (by kernel_rfl) (.bool false) (by rw [hb442]); clear hF441
     have hF462 := hF461.setc (d := 54) (c := [0]) (v := str u0) (by kernel_rfl) (v' := str u0) (by rw [hb442]; kernel_rfl); clear hF461
     have hc463 := hp460.1; have hp464 := hp460.2; clear hp460
     refine cl hF462 23 #[str u0] (by rw [wanted_of hF462 (b := false) rfl rfl (by kernel_rfl) (by kernel_rfl)]; rfl) rfl (by kernel_rfl) (by kernel_rfl) ?_
     refine (rvalue_fun u0 hc463 _ _ hM66.fz).mono ?_; rintro _ wd465 ⟨b469, ao470, cap471, Z473, rfl, hs472, hm⟩; refine ⟨_, rfl, ?_⟩; intro a466 hF467; have hM468 := hM66.callZ hm; have hle474 := hm.ext.le; clear hm hM66 hF462
     replace hg5 := hg5.mono hle474
     replace hle0 := Fz.le.trans hle0 hle474
     have hM475 : Mem w.heap.size [] w Z [.row b469 [.bool ((rvalueS u0).neg), .slice ao470 ((rvalueS u0).abs).length cap471] 71] Z473 wd465 := hM468; clear hM468
     have hc476 := hp464.1; have hp477 := hp464.2; clear hp464
     refine cl hF467 24 #[.pointer (some ⟨b469, 0, none⟩)] (by rw [wanted_of hF467 (b := false) rfl rfl (by kernel_rfl) (by kernel_rfl)]; rfl) rfl (by kernel_rfl) (by kernel_rfl) ?_
     obtain ⟨r482, hr483⟩ : ∃ x, (gint64S (rvalueS u0)) = x := ⟨_, rfl⟩; have hp484 := hp477 r482 hr483; clear hp477
     have h9 := gint64_fun (rvalueS u0) hc476 b469 ao470 cap471 _ _ _ _ _ _ hs472 hM475 hM475.fz; rw [hr483] at h9; refine h9.mono ?_; clear h9; rintro _ wd478 ⟨ao486, cap487, Z489, rfl, hle490, hs488, hm⟩; refine ⟨_, rfl, ?_⟩; intro a479 hF480; have hM481 := hm; clear hm hM475 hF467
     replace hg5 := hg5.mono hle490
     replace hs472 := hs472.mono hle490
     replace hle0 := Fz.le.trans hle0 hle490
     have hM491 : Mem w.heap.size [] w Z [.row b469 [.bool r482.2.neg, .slice ao486 r482.2.abs.length cap487] 71] Z489 wd478 := hM481; clear hM481
     have hp492 := hp484 (hs488.small); clear hp484
     refine st hF480 (.int .i64 ((bnumberS u0).1)) (by rw [wanted_of hF480 (b := false) rfl rfl (by kernel_rfl) (by kernel_rfl)]; rfl) rfl (by kernel_rfl) (p0 hF480 (by kernel_rfl)) ?_; intro a493 hF494; clear hF480
     refine st hF494 (.bool (r482.1 != ((bnumberS u0).1))) (by rw [wanted_of hF494 (b := false) rfl rfl (by kernel_rfl) (by kernel_rfl)]; rfl) rfl (by kernel_rfl) (p0 hF494 (by kernel_rfl)) ?_; intro a495 hF496; clear hF494
     refine s1 hF496 59 (.bool (r482.1 != ((bnumberS u0).1))) ?_; intro a497 hF498; clear hF496
     refine nlH (hQ432 _ _ ?_); clear hQ432 hQ432Q
     refine cd hF498 (t := r482.1 != ((bnumberS u0).1)) (by kernel_rfl) (fun hb499 => ?_) (fun hb499 => ?_)
     ·
      have hp500 := hp492.1 hb499; clear hp492
      have hF501 : Fr 95 [] [] a497 := hF498.reg; clear hF498
      refine sqH ?_; intro hQ502Q hQ502
      refine s1 hF501 6 (.bool false) ?_; intro a503 hF504; clear hF501
      refine nlH (hQ502 _ _ ?_); clear hQ502 hQ502Q
      refine wp_ret ?_
      refine thr ?_
      refine rt (fn := Tryd.f5) (v := .bool false) hF504 (re1 hF504 (fn := Tryd.f5) rfl (by kernel_rfl)) ?_
      exact ⟨false, rfl, hp500, hM491.below⟩
     ·
      have hp505 := hp492.2 hb499; clear hp492
      refine wp_skip ?_
      refine thn ?_
      refine wp_seq ?_
      have hF506 : Fr 95 [] [⟨1, [], .int .i64 u1⟩, ⟨2, [], .int .i64 u2⟩, ⟨9, [], str ((browS u1 u2).1)⟩, ⟨10, [], .int .i64 ((browS u1 u2).2)⟩] a497 := hF498.reg; clear hF498
      refine sqH ?_; intro hQ507Q hQ507
      refine s1 hF506 60 (.int .i64 u2) ?_; intro a508 hF509; clear hF506
      refine s1 hF509 61 (.bool (decide (u2 < 0))) ?_; intro a510 hF511; clear hF509
      refine s1 hF511 62 (.bool (decide (u2 < 0))) ?_; intro a512 hF513; clear hF511
      have hF514 := hF513.atom ((decide (u2 < 0)) == false) (by kernel_rfl); clear hF513
      refine gp hF514 63 0 [] (decide (u2 < 0)) (.int .i64 u2) rfl rfl ?_; intro a515 hF516; clear hF514
      refine gp hF516 64 0 [] (decide (u2 < 0)) (.bool (decide (u2 > 62))) rfl rfl ?_; intro a517 hF518; clear hF516
      refine st hF518 (.bool ((decide (u2 < 0)) || (decide (u2 > 62)))) (nog rfl _) rfl (by kernel_rfl) (pk_or hF518 (g := []) (m := 0) (b := decide (u2 < 0)) (v := decide (u2 > 62)) rfl (by kernel_rfl) (by kernel_rfl) (by kernel_rfl) rfl) ?_; intro a519 hF520; clear hF518
      refine nlH (hQ507 _ _ ?_); clear hQ507 hQ507Q
      refine cd hF520 (t := (decide (u2 < 0)) || (decide (u2 > 62))) (by kernel_rfl) (fun hb521 => ?_) (fun hb521 => ?_)
      ·
       have hp522 := hp505.1 hb521; clear hp505
       have hF523 : Fr 95 [] [⟨9, [], str ((browS u1 u2).1)⟩, ⟨10, [], .int .i64 ((browS u1 u2).2)⟩] a519 := hF520.reg; clear hF520
       refine sqH ?_; intro hQ524Q hQ524
       refine s1 hF523 66 (.int .i64 ((browS u1 u2).2)) ?_; intro a525 hF526; clear hF523
       refine s1 hF526 67 (.bool (((browS u1 u2).2) == 2)) ?_; intro a527 hF528; clear hF526
       refine s1 hF528 68 (.bool (((browS u1 u2).2) == 2)) ?_; intro a529 hF530; clear hF528
       have hF531 := hF530.atom ((((browS u1 u2).2) == 2) == true) (by kernel_rfl); clear hF530
       refine gp hF531 69 0 [] (((browS u1 u2).2) == 2) (str ((browS u1 u2).1)) rfl rfl ?_; intro a532 hF533; clear hF531
       refine gd hF533 (.bool (((browS u1 u2).1) == ([] : List UInt8))) (m := 0) (cj := []) (bj := ((browS u1 u2).2) == 2) rfl rfl (by kernel_rfl) rfl (by kernel_rfl) (by kernel_rfl) (by kernel_rfl) (fun hg => strcmp_run hF533 (g := [0]) (op := .eql) rfl (by kernel_rfl) (by kernel_rfl) (by decide) hg) ?_; intro a534 hF535; clear hF533
       refine st hF535 (.bool ((((browS u1 u2).2) == 2) && (((browS u1 u2).1) == ([] : List UInt8)))) (nog rfl _) rfl (by kernel_rfl) (pk_and hF535 (g := []) (m := 0) (b := ((browS u1 u2).2) == 2) (v := ((browS u1 u2).1) == ([] : List UInt8)) rfl (by kernel_rfl) (by kernel_rfl) (by kernel_rfl) rfl) ?_; intro a536 hF537; clear hF535
       refine s1 hF537 6 (.bool ((((browS u1 u2).2) == 2) && (((browS u1 u2).1) == ([] : List UInt8)))) ?_; intro a538 hF539; clear hF537
       refine nlH (hQ524 _ _ ?_); clear hQ524 hQ524Q
       refine wp_ret ?_
       refine thr ?_
       refine rt (fn := Tryd.f5) (v := .bool ((((browS u1 u2).2) == 2) && (((browS u1 u2).1) == ([] : List UInt8)))) hF539 (re1 hF539 (fn := Tryd.f5) rfl (by kernel_rfl)) ?_
       exact ⟨(((browS u1 u2).2) == 2) && (((browS u1 u2).1) == ([] : List UInt8)), rfl, hp522, hM491.below⟩
      ·
       have hp540 := hp505.2 hb521; clear hp505
       refine wp_skip ?_
       refine thn ?_
       have hF541 : Fr 95 [] [⟨1, [], .int .i64 u1⟩, ⟨2, [], .int .i64 u2⟩, ⟨9, [], str ((browS u1 u2).1)⟩, ⟨10, [], .int .i64 ((browS u1 u2).2)⟩] a519 := hF520.reg; clear hF520
       refine sqH ?_; intro hQ542Q hQ542
       refine s1 hF541 12 (str []) ?_; intro a543 hF544; clear hF541
       refine s1 hF544 13 (.bool false) ?_; intro a545 hF546; clear hF544
       refine nlH (hQ542 _ _ ?_); clear hQ542 hQ542Q
       refine wp_seq ?_
       refine sqH ?_; intro hQ547Q hQ547
       refine s1 hF546 72 (.int .i64 u1) ?_; intro a548 hF549; clear hF546
       refine s1 hF549 73 (.bool (decide (u1 ≥ 0))) ?_; intro a550 hF551; clear hF549
       refine nlH (hQ547 _ _ ?_); clear hQ547 hQ547Q
       refine cd hF551 (t := decide (u1 ≥ 0)) (by kernel_rfl) (fun hb552 => ?_) (fun hb552 => ?_)
       ·
        have hp553 := hp540.1 hb552; clear hp540
        refine rgH ?_; intro hQ554Q hQ554
        refine s1 hF551 75 (.int .i64 u1) ?_; intro a555 hF556; clear hF551
        refine s1 hF556 76 (.int .i64 u2) ?_; intro a557 hF558; clear hF556
        have hc559 := hp553.1; have hp560 := hp553.2; clear hp553
        refine fcl hF558 hM491 (.tuple #[str ((rrowS u1 u2).1), .bool ((rrowS u1 u2).2)]) 25 #[.int .i64 u1, .int .i64 u2] (nog rfl _) rfl (by kernel_rfl) (fun _ => by kernel_rfl) (rrow_fun u1 u2 hc559 _ _ hg5 hM491.fz) ?_; intro a561 wd563 hF562 hM564; clear hF558 hM491
        refine s1 hF562 74 (.tuple #[str ((rrowS u1 u2).1), .bool ((rrowS u1 u2).2)]) ?_; intro a565 hF566; clear hF562
        refine s1 hF566 78 (str ((rrowS u1 u2).1)) ?_; intro a567 hF568; clear hF566
        refine s1 hF568 79 (.bool ((rrowS u1 u2).2)) ?_; intro a569 hF570; clear hF568
        refine s1 hF570 12 (str ((rrowS u1 u2).1)) ?_; intro a571 hF572; clear hF570
        refine s1 hF572 13 (.bool ((rrowS u1 u2).2)) ?_; intro a573 hF574; clear hF572
        refine nlH (hQ554 _ _ ?_); clear hQ554 hQ554Q
        refine thn ?_
        refine wp_seq ?_
        refine sqH ?_; intro hQ575Q hQ575
        refine s1 hF574 80 (.bool ((rrowS u1 u2).2)) ?_; intro a576 hF577; clear hF574
        refine s1 hF577 81 (.bool (!((rrowS u1 u2).2))) ?_; intro a578 hF579; clear hF577
        refine nlH (hQ575 _ _ ?_); clear hQ575 hQ575Q
        refine cd hF579 (t := !((rrowS u1 u2).2)) (by kernel_rfl) (fun hb580 => ?_) (fun hb580 => ?_)
        ·
         have hp581 := hp560.1 hb580; clear hp560
         have hF582 : Fr 95 [] [⟨9, [], str ((browS u1 u2).1)⟩, ⟨10, [], .int .i64 ((browS u1 u2).2)⟩] a578 := hF579.reg; clear hF579
         refine sqH ?_; intro hQ583Q hQ583
         refine s1 hF582 82 (.int .i64 ((browS u1 u2).2)) ?_; intro a584 hF585; clear hF582
         refine s1 hF585 83 (.bool (((browS u1 u2).2) == 3)) ?_; intro a586 hF587; clear hF585
         refine s1 hF587 84 (.bool (((browS u1 u2).2) == 3)) ?_; intro a588 hF589; clear hF587
         have hF590 := hF589.atom ((((browS u1 u2).2) == 3) == true) (by kernel_rfl); clear hF589
         refine gp hF590 85 0 [] (((browS u1 u2).2) == 3) (str ((browS u1 u2).1)) rfl rfl ?_; intro a591 hF592; clear hF590
         refine gd hF592 (.bool (((browS u1 u2).1) == ([] : List UInt8))) (m := 0) (cj := []) (bj := ((browS u1 u2).2) == 3) rfl rfl (by kernel_rfl) rfl (by kernel_rfl) (by kernel_rfl) (by kernel_rfl) (fun hg => strcmp_run hF592 (g := [0]) (op := .eql) rfl (by kernel_rfl) (by kernel_rfl) (by decide) hg) ?_; intro a593 hF594; clear hF592
         refine st hF594 (.bool ((((browS u1 u2).2) == 3) && (((browS u1 u2).1) == ([] : List UInt8)))) (nog rfl _) rfl (by kernel_rfl) (pk_and hF594 (g := []) (m := 0) (b := ((browS u1 u2).2) == 3) (v := ((browS u1 u2).1) == ([] : List UInt8)) rfl (by kernel_rfl) (by kernel_rfl) (by kernel_rfl) rfl) ?_; intro a595 hF596; clear hF594
         refine s1 hF596 6 (.bool ((((browS u1 u2).2) == 3) && (((browS u1 u2).1) == ([] : List UInt8)))) ?_; intro a597 hF598; clear hF596
         refine nlH (hQ583 _ _ ?_); clear hQ583 hQ583Q
         refine wp_ret ?_
         refine thr ?_
         refine rt (fn := Tryd.f5) (v := .bool ((((browS u1 u2).2) == 3) && (((browS u1 u2).1) == ([] : List UInt8)))) hF598 (re1 hF598 (fn := Tryd.f5) rfl (by kernel_rfl)) ?_
         exact ⟨(((browS u1 u2).2) == 3) && (((browS u1 u2).1) == ([] : List UInt8)), rfl, hp581, hM564.below⟩
        ·
         have hp599 := hp560.2 hb580; clear hp560
         refine wp_skip ?_
         refine thn ?_
         have hF600 : Fr 95 [] [⟨9, [], str ((browS u1 u2).1)⟩, ⟨10, [], .int .i64 ((browS u1 u2).2)⟩, ⟨12, [], str ((rrowS u1 u2).1)⟩] a578 := hF579.reg; clear hF579
         refine sqH ?_; intro hQ601Q hQ601
         refine s1 hF600 88 (.int .i64 ((browS u1 u2).2)) ?_; intro a602 hF603; clear hF600
         refine s1 hF603 89 (.bool (((browS u1 u2).2) == 0)) ?_; intro a604 hF605; clear hF603
         refine s1 hF605 90 (.bool (((browS u1 u2).2) == 0)) ?_; intro a606 hF607; clear hF605
         have hF608 := hF607.atom ((((browS u1 u2).2) == 0) == true) (by kernel_rfl); clear hF607
         refine gp hF608 91 0 [] (((browS u1 u2).2) == 0) (str ((browS u1 u2).1)) rfl rfl ?_; intro a609 hF610; clear hF608
         refine gp hF610 92 0 [] (((browS u1 u2).2) == 0) (str ((rrowS u1 u2).1)) rfl rfl ?_; intro a611 hF612; clear hF610
         refine gd hF612 (.bool (((browS u1 u2).1) == ((rrowS u1 u2).1))) (m := 0) (cj := []) (bj := ((browS u1 u2).2) == 0) rfl rfl (by kernel_rfl) rfl (by kernel_rfl) (by kernel_rfl) (by kernel_rfl) (fun hg => strcmp_run hF612 (g := [0]) (op := .eql) rfl (by kernel_rfl) (by kernel_rfl) (by decide) hg) ?_; intro a613 hF614; clear hF612
         refine st hF614 (.bool ((((browS u1 u2).2) == 0) && (((browS u1 u2).1) == ((rrowS u1 u2).1)))) (nog rfl _) rfl (by kernel_rfl) (pk_and hF614 (g := []) (m := 0) (b := ((browS u1 u2).2) == 0) (v := ((browS u1 u2).1) == ((rrowS u1 u2).1)) rfl (by kernel_rfl) (by kernel_rfl) (by kernel_rfl) rfl) ?_; intro a615 hF616; clear hF614
         refine s1 hF616 6 (.bool ((((browS u1 u2).2) == 0) && (((browS u1 u2).1) == ((rrowS u1 u2).1)))) ?_; intro a617 hF618; clear hF616
         refine nlH (hQ601 _ _ ?_); clear hQ601 hQ601Q
         refine wp_ret ?_
         refine rt (fn := Tryd.f5) (v := .bool ((((browS u1 u2).2) == 0) && (((browS u1 u2).1) == ((rrowS u1 u2).1)))) hF618 (re1 hF618 (fn := Tryd.f5) rfl (by kernel_rfl)) ?_
         exact ⟨(((browS u1 u2).2) == 0) && (((browS u1 u2).1) == ((rrowS u1 u2).1)), rfl, hp599, hM564.below⟩
       ·
        have hp619 := hp540.2 hb552; clear hp540
        refine wp_skip ?_
        refine thn ?_
        refine wp_seq ?_
        refine sqH ?_; intro hQ620Q hQ620
        refine s1 hF551 80 (.bool false) ?_; intro a621 hF622; clear hF551
        refine s1 hF622 81 (.bool true) ?_; intro a623 hF624; clear hF622
        refine nlH (hQ620 _ _ ?_); clear hQ620 hQ620Q
        refine cdT hF624 (by kernel_rfl) ?_
        refine sqH ?_; intro hQ625Q hQ625
        refine s1 hF624 82 (.int .i64 ((browS u1 u2).2)) ?_; intro a626 hF627; clear hF624
        refine s1 hF627 83 (.bool (((browS u1 u2).2) == 3)) ?_; intro a628 hF629; clear hF627
        refine s1 hF629 84 (.bool (((browS u1 u2).2) == 3)) ?_; intro a630 hF631; clear hF629
        have hF632 := hF631.atom ((((browS u1 u2).2) == 3) == true) (by kernel_rfl); clear hF631
        refine gp hF632 85 0 [] (((browS u1 u2).2) == 3) (str ((browS u1 u2).1)) rfl rfl ?_; intro a633 hF634; clear hF632
        refine gd hF634 (.bool (((browS u1 u2).1) == ([] : List UInt8))) (m := 0) (cj := []) (bj := ((browS u1 u2).2) == 3) rfl rfl (by kernel_rfl) rfl (by kernel_rfl) (by kernel_rfl) (by kernel_rfl) (fun hg => strcmp_run hF634 (g := [0]) (op := .eql) rfl (by kernel_rfl) (by kernel_rfl) (by decide) hg) ?_; intro a635 hF636; clear hF634
        refine st hF636 (.bool ((((browS u1 u2).2) == 3) && (((browS u1 u2).1) == ([] : List UInt8)))) (nog rfl _) rfl (by kernel_rfl) (pk_and hF636 (g := []) (m := 0) (b := ((browS u1 u2).2) == 3) (v := ((browS u1 u2).1) == ([] : List UInt8)) rfl (by kernel_rfl) (by kernel_rfl) (by kernel_rfl) rfl) ?_; intro a637 hF638; clear hF636
        refine s1 hF638 6 (.bool ((((browS u1 u2).2) == 3) && (((browS u1 u2).1) == ([] : List UInt8)))) ?_; intro a639 hF640; clear hF638
        refine nlH (hQ625 _ _ ?_); clear hQ625 hQ625Q
        refine wp_ret ?_
        refine thr ?_
        refine rt (fn := Tryd.f5) (v := .bool ((((browS u1 u2).2) == 3) && (((browS u1 u2).1) == ([] : List UInt8)))) hF640 (re1 hF640 (fn := Tryd.f5) rfl (by kernel_rfl)) ?_
        exact ⟨(((browS u1 u2).2) == 3) && (((browS u1 u2).1) == ([] : List UInt8)), rfl, hp619, hM491.below⟩

end Go.Proofs.YtfafpnacflcgmaaDoor
