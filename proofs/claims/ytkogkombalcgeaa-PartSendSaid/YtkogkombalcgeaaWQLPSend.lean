/- The walks, made by program: each call does what its pure predicate says. -/
import Derived.Test.YtkogkombalcgeaaWQ
set_option linter.unusedVariables false
set_option linter.unusedSimpArgs false
namespace Go.Proofs.Ytkogkombalcgeaa
open Go.Sy Go.RowKit
set_option maxRecDepth 100000 in
theorem LPSend_walk (u0 : List Int) (u1 : Int) (ao1 : Option Addr) (cap2 : Nat) (Z : Fz) (w : World) (hs3 : SlR (tyInt .u8) Z ao1 cap2 u0) (hZ : Z.on w) {K : Bool → Prop} (hp : LPSend_vc u0 u1 K) : Calls Try.prog 10 #[.slice ao1 u0.length cap2, .int .i64 u1] w fun e w' => ∃ r : Bool, e = .returned (.bool r) ∧ K r ∧ Below w.heap.size w w' := by
 refine enter0 Try.func10 rfl rfl (by kernel_rfl) ?_; intro a0 hF0; have hM0 := Mem.start w Z hZ; have hle0 := Fz.le.refl Z
 have hp4 := hp (hs3.small); clear hp
 refine sqH ?_; intro hQ5Q hQ5
 refine s1 hF0 4 (.bool false) ?_; intro a6 hF7; clear hF0
 refine nlH (hQ5 _ _ ?_); clear hQ5 hQ5Q
 refine sqH ?_; intro hQ8Q hQ8
 refine s1 hF7 12 (.slice ao1 u0.length cap2) ?_; intro a9 hF10; clear hF7
 refine s1 hF10 13 (.int .i64 u1) ?_; intro a11 hF12; clear hF10
 have hc13 := hp4.1; have hp14 := hp4.2; clear hp4
 refine cl hF12 38 #[.slice ao1 u0.length cap2, .int .i64 u1] (nog rfl _) rfl (by kernel_rfl) (by kernel_rfl) ?_
 refine (psend_fun u0 u1 hc13 ao1 cap2 _ _ hs3 hM0.fz).mono ?_; rintro _ wd15 ⟨ao19, cap20, Z21, rfl, hm⟩; refine ⟨_, rfl, ?_⟩; intro a16 hF17; have hM18 := hM0.callZ hm; have hle22 := hm.ext.le; clear hm hM0 hF12
 replace hs3 := hs3.mono hle22
 replace hle0 := Fz.le.trans hle0 hle22
 have hM23 : Mem w.heap.size [] w Z [.own (tyInt .u8) 5 ao19 cap20 ((psendS u0 u1).1)] Z21 wd15 := hM18; clear hM18
 have hp24 := hp14 (hM23.ownSmall 0 rfl); clear hp14
 refine s1 hF17 11 (.tuple #[.slice ao19 ((psendS u0 u1).1).length cap20, .int .i64 ((psendS u0 u1).2.1), .int .i64 ((psendS u0 u1).2.2)]) ?_; intro a25 hF26; clear hF17
 refine s1 hF26 15 (.slice ao19 ((psendS u0 u1).1).length cap20) ?_; intro a27 hF28; clear hF26
 refine s1 hF28 16 (.int .i64 ((psendS u0 u1).2.1)) ?_; intro a29 hF30; clear hF28
 refine s1 hF30 17 (.int .i64 ((psendS u0 u1).2.2)) ?_; intro a31 hF32; clear hF30
 refine s1 hF32 5 (.slice ao19 ((psendS u0 u1).1).length cap20) ?_; intro a33 hF34; clear hF32
 refine s1 hF34 6 (.int .i64 ((psendS u0 u1).2.1)) ?_; intro a35 hF36; clear hF34
 refine s1 hF36 7 (.int .i64 ((psendS u0 u1).2.2)) ?_; intro a37 hF38; clear hF36
 refine nlH (hQ8 _ _ ?_); clear hQ8 hQ8Q
 refine sqH ?_; intro hQ39Q hQ39
 refine s1 hF38 8 (.int .i64 0) ?_; intro a40 hF41; clear hF38
 refine nlH (hQ39 _ _ ?_); clear hQ39 hQ39Q
 refine wp_seq ?_
 refine sqH ?_; intro hQ42Q hQ42
 refine s1 hF41 18 (.int .i64 u1) ?_; intro a43 hF44; clear hF41
 refine s1 hF44 19 (.bool (decide (u1 < 0))) ?_; intro a45 hF46; clear hF44
 refine s1 hF46 20 (.bool (decide (u1 < 0))) ?_; intro a47 hF48; clear hF46
 have hF49 := hF48.atom ((decide (u1 < 0)) == false) (by kernel_rfl); clear hF48
 refine gp hF49 21 0 [] (decide (u1 < 0)) (.int .i64 u1) rfl rfl ?_; intro a50 hF51; clear hF49
 refine gp hF51 22 0 [] (decide (u1 < 0)) (.bool (decide (u1 > 255))) rfl rfl ?_; intro a52 hF53; clear hF51
 refine st hF53 (.bool ((decide (u1 < 0)) || (decide (u1 > 255)))) (nog rfl _) rfl (by kernel_rfl) (pk_or hF53 (g := []) (m := 0) (b := decide (u1 < 0)) (v := decide (u1 > 255)) rfl (by kernel_rfl) (by kernel_rfl) (by kernel_rfl) rfl) ?_; intro a54 hF55; clear hF53
 refine nlH (hQ42 _ _ ?_); clear hQ42 hQ42Q
 refine cd hF55 (t := (decide (u1 < 0)) || (decide (u1 > 255))) (by kernel_rfl) (fun hb56 => ?_) (fun hb56 => ?_)
 · -- yes
  have hp57 := hp24.1 hb56; clear hp24
  have hF58 : Fr 75 [] [⟨0, [], .slice ao1 u0.length cap2⟩, ⟨1, [], .int .i64 u1⟩, ⟨5, [], .slice ao19 ((psendS u0 u1).1).length cap20⟩, ⟨6, [], .int .i64 ((psendS u0 u1).2.1)⟩, ⟨7, [], .int .i64 ((psendS u0 u1).2.2)⟩] a54 := hF55.region (by kernel_rfl) (by kernel_rfl); clear hF55
  refine rgH ?_; intro hQ59Q hQ59
  refine s1 hF58 8 (.int .i64 3) ?_; intro a60 hF61; clear hF58
  refine nlH (hQ59 _ _ ?_); clear hQ59 hQ59Q
  refine thn ?_
  refine wp_seq ?_
  refine sqH ?_; intro hQ62Q hQ62
  refine fcl hF61 hM23 (.bool true) 33 #[] (nog rfl _) rfl (by kernel_rfl) (fun _ => by kernel_rfl) (parted_fun  _ _ hM23.fz) ?_; intro a63 wd65 hF64 hM66; clear hF61 hM23
  refine s1 hF64 27 (.bool false) ?_; intro a67 hF68; clear hF64
  refine s1 hF68 28 (.bool false) ?_; intro a69 hF70; clear hF68
  refine st hF70 (.int .i64 3) (by rw [wanted_of hF70 (b := false) rfl rfl (by kernel_rfl) (by kernel_rfl)]; rfl) rfl (by kernel_rfl) (p0 hF70 (by kernel_rfl)) ?_; intro a71 hF72; clear hF70
  refine st hF72 (.bool true) (by rw [wanted_of hF72 (b := false) rfl rfl (by kernel_rfl) (by kernel_rfl)]; rfl) rfl (by kernel_rfl) (p0 hF72 (by kernel_rfl)) ?_; intro a73 hF74; clear hF72
  refine s1 hF74 31 (.bool true) ?_; intro a75 hF76; clear hF74
  refine nlH (hQ62 _ _ ?_); clear hQ62 hQ62Q
  refine cdT hF76 (by kernel_rfl) ?_
  refine sqH ?_; intro hQ77Q hQ77
  refine fcl hF76 hM66 (.bool true) 33 #[] (nog rfl _) rfl (by kernel_rfl) (fun _ => by kernel_rfl) (parted_fun  _ _ hM66.fz) ?_; intro a78 wd80 hF79 hM81; clear hF76 hM66
  refine s1 hF79 33 (.bool true) ?_; intro a82 hF83; clear hF79
  refine st hF83 (.int .i64 ((psendS u0 u1).2.2)) (by rw [wanted_of hF83 (b := true) rfl rfl (by kernel_rfl) (by kernel_rfl)]; rfl) rfl (by kernel_rfl) (p0 hF83 (by kernel_rfl)) ?_; intro a84 hF85; clear hF83
  refine st hF85 (.int .i64 3) (by rw [wanted_of hF85 (b := true) rfl rfl (by kernel_rfl) (by kernel_rfl)]; rfl) rfl (by kernel_rfl) (p0 hF85 (by kernel_rfl)) ?_; intro a86 hF87; clear hF85
  refine st hF87 (.bool (((psendS u0 u1).2.2) == 3)) (by rw [wanted_of hF87 (b := true) rfl rfl (by kernel_rfl) (by kernel_rfl)]; rfl) rfl (by kernel_rfl) (p0 hF87 (by kernel_rfl)) ?_; intro a88 hF89; clear hF87
  refine s1 hF89 37 (.bool (((psendS u0 u1).2.2) == 3)) ?_; intro a90 hF91; clear hF89
  refine s1 hF91 38 (.bool (((psendS u0 u1).2.2) == 3)) ?_; intro a92 hF93; clear hF91
  have hF94 := hF93.atom ((((psendS u0 u1).2.2) == 3) == true) (by kernel_rfl); clear hF93
  refine gp hF94 39 0 [] (((psendS u0 u1).2.2) == 3) (.slice ao19 ((psendS u0 u1).1).length cap20) rfl rfl ?_; intro a95 hF96; clear hF94
  refine gp hF96 40 0 [] (((psendS u0 u1).2.2) == 3) (.int .i64 (((psendS u0 u1).1).length : Int)) rfl rfl ?_; intro a97 hF98; clear hF96
  refine gp hF98 41 0 [] (((psendS u0 u1).2.2) == 3) (.bool ((((psendS u0 u1).1).length : Int) == 0)) rfl rfl ?_; intro a99 hF100; clear hF98
  refine st hF100 (.bool ((((psendS u0 u1).2.2) == 3) && ((((psendS u0 u1).1).length : Int) == 0))) (nog rfl _) rfl (by kernel_rfl) (pk_and hF100 (g := []) (m := 0) (b := ((psendS u0 u1).2.2) == 3) (v := (((psendS u0 u1).1).length : Int) == 0) rfl (by kernel_rfl) (by kernel_rfl) (by kernel_rfl) rfl) ?_; intro a101 hF102; clear hF100
  refine s1 hF102 43 (.bool ((((psendS u0 u1).2.2) == 3) && ((((psendS u0 u1).1).length : Int) == 0))) ?_; intro a103 hF104; clear hF102
  have hF105 := hF104.atom (((((psendS u0 u1).2.2) == 3) && ((((psendS u0 u1).1).length : Int) == 0)) == true) (by kernel_rfl); clear hF104
  refine gp hF105 44 1 [] ((((psendS u0 u1).2.2) == 3) && ((((psendS u0 u1).1).length : Int) == 0)) (.int .i64 ((psendS u0 u1).2.1)) rfl rfl ?_; intro a106 hF107; clear hF105
  refine gp hF107 45 1 [] ((((psendS u0 u1).2.2) == 3) && ((((psendS u0 u1).1).length : Int) == 0)) (.bool (((psendS u0 u1).2.1) == 0)) rfl rfl ?_; intro a108 hF109; clear hF107
  refine st hF109 (.bool (((((psendS u0 u1).2.2) == 3) && ((((psendS u0 u1).1).length : Int) == 0)) && (((psendS u0 u1).2.1) == 0))) (nog rfl _) rfl (by kernel_rfl) (pk_and hF109 (g := []) (m := 1) (b := (((psendS u0 u1).2.2) == 3) && ((((psendS u0 u1).1).length : Int) == 0)) (v := ((psendS u0 u1).2.1) == 0) rfl (by kernel_rfl) (by kernel_rfl) (by kernel_rfl) rfl) ?_; intro a110 hF111; clear hF109
  refine s1 hF111 4 (.bool (((((psendS u0 u1).2.2) == 3) && ((((psendS u0 u1).1).length : Int) == 0)) && (((psendS u0 u1).2.1) == 0))) ?_; intro a112 hF113; clear hF111
  refine nlH (hQ77 _ _ ?_); clear hQ77 hQ77Q
  refine wp_ret ?_
  refine thr ?_
  refine rt (fn := Try.f10) (v := .bool (((((psendS u0 u1).2.2) == 3) && ((((psendS u0 u1).1).length : Int) == 0)) && (((psendS u0 u1).2.1) == 0))) hF113 (re1 hF113 (fn := Try.f10) rfl (by kernel_rfl)) ?_
  exact ⟨((((psendS u0 u1).2.2) == 3) && ((((psendS u0 u1).1).length : Int) == 0)) && (((psendS u0 u1).2.1) == 0), rfl, hp57, hM81.below⟩
 · -- no
  have hp114 := hp24.2 hb56; clear hp24
  have hF115 : Fr 75 [] [⟨0, [], .slice ao1 u0.length cap2⟩, ⟨1, [], .int .i64 u1⟩, ⟨5, [], .slice ao19 ((psendS u0 u1).1).length cap20⟩, ⟨6, [], .int .i64 ((psendS u0 u1).2.1)⟩, ⟨7, [], .int .i64 ((psendS u0 u1).2.2)⟩] a54 := hF55.region (by kernel_rfl) (by kernel_rfl); clear hF55
  refine rgH ?_; intro hQ116Q hQ116
  refine s1 hF115 24 (.slice ao1 u0.length cap2) ?_; intro a117 hF118; clear hF115
  refine fcl hF118 hM23 (.int .i64 (pbad u0)) 39 #[.slice ao1 u0.length cap2] (nog rfl _) rfl (by kernel_rfl) (fun _ => by kernel_rfl) (pbad_fun u0 ao1 cap2 _ _ hs3 hM23.fz) ?_; intro a119 wd121 hF120 hM122; clear hF118 hM23
  refine s1 hF120 8 (.int .i64 (pbad u0)) ?_; intro a123 hF124; clear hF120
  refine nlH (hQ116 _ _ ?_); clear hQ116 hQ116Q
  refine thn ?_
  refine wp_seq ?_
  refine sqH ?_; intro hQ125Q hQ125
  refine fcl hF124 hM122 (.bool true) 33 #[] (nog rfl _) rfl (by kernel_rfl) (fun _ => by kernel_rfl) (parted_fun  _ _ hM122.fz) ?_; intro a126 wd128 hF127 hM129; clear hF124 hM122
  refine s1 hF127 27 (.bool false) ?_; intro a130 hF131; clear hF127
  refine s1 hF131 28 (.bool false) ?_; intro a132 hF133; clear hF131
  refine st hF133 (.int .i64 (pbad u0)) (by rw [wanted_of hF133 (b := false) rfl rfl (by kernel_rfl) (by kernel_rfl)]; rfl) rfl (by kernel_rfl) (p0 hF133 (by kernel_rfl)) ?_; intro a134 hF135; clear hF133
  refine st hF135 (.bool ((pbad u0) != 0)) (by rw [wanted_of hF135 (b := false) rfl rfl (by kernel_rfl) (by kernel_rfl)]; rfl) rfl (by kernel_rfl) (p0 hF135 (by kernel_rfl)) ?_; intro a136 hF137; clear hF135
  refine s1 hF137 31 (.bool ((pbad u0) != 0)) ?_; intro a138 hF139; clear hF137
  refine nlH (hQ125 _ _ ?_); clear hQ125 hQ125Q
  refine cd hF139 (t := (pbad u0) != 0) (by kernel_rfl) (fun hb140 => ?_) (fun hb140 => ?_)
  · -- yes
   have hp141 := hp114.1 hb140; clear hp114
   refine sqH ?_; intro hQ142Q hQ142
   refine fcl hF139 hM129 (.bool true) 33 #[] (nog rfl _) rfl (by kernel_rfl) (fun _ => by kernel_rfl) (parted_fun  _ _ hM129.fz) ?_; intro a143 wd145 hF144 hM146; clear hF139 hM129
   refine s1 hF144 33 (.bool true) ?_; intro a147 hF148; clear hF144
   refine st hF148 (.int .i64 ((psendS u0 u1).2.2)) (by rw [wanted_of hF148 (b := true) rfl rfl (by kernel_rfl) (by kernel_rfl)]; rfl) rfl (by kernel_rfl) (p0 hF148 (by kernel_rfl)) ?_; intro a149 hF150; clear hF148
   refine st hF150 (.int .i64 (pbad u0)) (by rw [wanted_of hF150 (b := true) rfl rfl (by kernel_rfl) (by kernel_rfl)]; rfl) rfl (by kernel_rfl) (p0 hF150 (by kernel_rfl)) ?_; intro a151 hF152; clear hF150
   refine st hF152 (.bool (((psendS u0 u1).2.2) == (pbad u0))) (by rw [wanted_of hF152 (b := true) rfl rfl (by kernel_rfl) (by kernel_rfl)]; rfl) rfl (by kernel_rfl) (p0 hF152 (by kernel_rfl)) ?_; intro a153 hF154; clear hF152
   refine s1 hF154 37 (.bool (((psendS u0 u1).2.2) == (pbad u0))) ?_; intro a155 hF156; clear hF154
   refine s1 hF156 38 (.bool (((psendS u0 u1).2.2) == (pbad u0))) ?_; intro a157 hF158; clear hF156
   have hF159 := hF158.atom ((((psendS u0 u1).2.2) == (pbad u0)) == true) (by kernel_rfl); clear hF158
   refine gp hF159 39 0 [] (((psendS u0 u1).2.2) == (pbad u0)) (.slice ao19 ((psendS u0 u1).1).length cap20) rfl rfl ?_; intro a160 hF161; clear hF159
   refine gp hF161 40 0 [] (((psendS u0 u1).2.2) == (pbad u0)) (.int .i64 (((psendS u0 u1).1).length : Int)) rfl rfl ?_; intro a162 hF163; clear hF161
   refine gp hF163 41 0 [] (((psendS u0 u1).2.2) == (pbad u0)) (.bool ((((psendS u0 u1).1).length : Int) == 0)) rfl rfl ?_; intro a164 hF165; clear hF163
   refine st hF165 (.bool ((((psendS u0 u1).2.2) == (pbad u0)) && ((((psendS u0 u1).1).length : Int) == 0))) (nog rfl _) rfl (by kernel_rfl) (pk_and hF165 (g := []) (m := 0) (b := ((psendS u0 u1).2.2) == (pbad u0)) (v := (((psendS u0 u1).1).length : Int) == 0) rfl (by kernel_rfl) (by kernel_rfl) (by kernel_rfl) rfl) ?_; intro a166 hF167; clear hF165
   refine s1 hF167 43 (.bool ((((psendS u0 u1).2.2) == (pbad u0)) && ((((psendS u0 u1).1).length : Int) == 0))) ?_; intro a168 hF169; clear hF167
   have hF170 := hF169.atom (((((psendS u0 u1).2.2) == (pbad u0)) && ((((psendS u0 u1).1).length : Int) == 0)) == true) (by kernel_rfl); clear hF169
   refine gp hF170 44 1 [] ((((psendS u0 u1).2.2) == (pbad u0)) && ((((psendS u0 u1).1).length : Int) == 0)) (.int .i64 ((psendS u0 u1).2.1)) rfl rfl ?_; intro a171 hF172; clear hF170
   refine gp hF172 45 1 [] ((((psendS u0 u1).2.2) == (pbad u0)) && ((((psendS u0 u1).1).length : Int) == 0)) (.bool (((psendS u0 u1).2.1) == 0)) rfl rfl ?_; intro a173 hF174; clear hF172
   refine st hF174 (.bool (((((psendS u0 u1).2.2) == (pbad u0)) && ((((psendS u0 u1).1).length : Int) == 0)) && (((psendS u0 u1).2.1) == 0))) (nog rfl _) rfl (by kernel_rfl) (pk_and hF174 (g := []) (m := 1) (b := (((psendS u0 u1).2.2) == (pbad u0)) && ((((psendS u0 u1).1).length : Int) == 0)) (v := ((psendS u0 u1).2.1) == 0) rfl (by kernel_rfl) (by kernel_rfl) (by kernel_rfl) rfl) ?_; intro a175 hF176; clear hF174
   refine s1 hF176 4 (.bool (((((psendS u0 u1).2.2) == (pbad u0)) && ((((psendS u0 u1).1).length : Int) == 0)) && (((psendS u0 u1).2.1) == 0))) ?_; intro a177 hF178; clear hF176
   refine nlH (hQ142 _ _ ?_); clear hQ142 hQ142Q
   refine wp_ret ?_
   refine thr ?_
   refine rt (fn := Try.f10) (v := .bool (((((psendS u0 u1).2.2) == (pbad u0)) && ((((psendS u0 u1).1).length : Int) == 0)) && (((psendS u0 u1).2.1) == 0))) hF178 (re1 hF178 (fn := Try.f10) rfl (by kernel_rfl)) ?_
   exact ⟨((((psendS u0 u1).2.2) == (pbad u0)) && ((((psendS u0 u1).1).length : Int) == 0)) && (((psendS u0 u1).2.1) == 0), rfl, hp141, hM146.below⟩
  · -- no
   have hp179 := hp114.2 hb140; clear hp114
   refine wp_skip ?_
   refine thn ?_
   refine sqH ?_; intro hQ180Q hQ180
   refine s1 hF139 47 (.slice ao1 u0.length cap2) ?_; intro a181 hF182; clear hF139
   have hc183 := hp179.1; have hp184 := hp179.2; clear hp179
   refine cl hF182 36 #[.slice ao1 u0.length cap2] (nog rfl _) rfl (by kernel_rfl) (by kernel_rfl) ?_
   refine (ppartsof_fun u0 hc183 ao1 cap2 _ _ hs3 hM129.fz).mono ?_; rintro _ wd185 ⟨ao189, cap190, Z191, rfl, hm⟩; refine ⟨_, rfl, ?_⟩; intro a186 hF187; have hM188 := hM129.callZ hm; have hle192 := hm.ext.le; clear hm hM129 hF182
   replace hs3 := hs3.mono hle192
   replace hle0 := Fz.le.trans hle0 hle192
   have hM193 : Mem w.heap.size [] w Z [.own (tySl (tyInt .u8)) 36 ao189 cap190 (ppartsofS u0), .own (tyInt .u8) 5 ao19 cap20 ((psendS u0 u1).1)] Z191 wd185 := hM188; clear hM188
   have hp194 := hp184 (hM193.ownSmall 0 rfl); clear hp184
   refine s1 hF187 49 (.int .i64 ((ppartsofS u0).length : Int)) ?_; intro a195 hF196; clear hF187
   refine s1 hF196 9 (.int .i64 ((ppartsofS u0).length : Int)) ?_; intro a197 hF198; clear hF196
   refine nlH (hQ180 _ _ ?_); clear hQ180 hQ180Q
   refine sqH ?_; intro hQ199Q hQ199
   refine s1 hF198 50 (.int .i64 ((ppartsofS u0).length : Int)) ?_; intro a200 hF201; clear hF198
   refine s1 hF201 10 (.int .i64 ((ppartsofS u0).length : Int)) ?_; intro a202 hF203; clear hF201
   refine nlH (hQ199 _ _ ?_); clear hQ199 hQ199Q
   refine wp_seq ?_
   have hF204 : Fr 75 [] [⟨0, [], .slice ao1 u0.length cap2⟩, ⟨1, [], .int .i64 u1⟩, ⟨5, [], .slice ao19 ((psendS u0 u1).1).length cap20⟩, ⟨6, [], .int .i64 ((psendS u0 u1).2.1)⟩, ⟨7, [], .int .i64 ((psendS u0 u1).2.2)⟩, ⟨9, [], .int .i64 ((ppartsofS u0).length : Int)⟩, ⟨10, [], .int .i64 ((ppartsofS u0).length : Int)⟩] a202 := hF203.region (by kernel_rfl) (by kernel_rfl); clear hF203
   refine sqH ?_; intro hQ205Q hQ205
   refine s1 hF204 51 (.int .i64 ((ppartsofS u0).length : Int)) ?_; intro a206 hF207; clear hF204
   refine s1 hF207 52 (.bool (decide (((ppartsofS u0).length : Int) > 1))) ?_; intro a208 hF209; clear hF207
   refine nlH (hQ205 _ _ ?_); clear hQ205 hQ205Q
   refine cd hF209 (t := decide (((ppartsofS u0).length : Int) > 1)) (by kernel_rfl) (fun hb210 => ?_) (fun hb210 => ?_)
   · -- yes
    have hp211 := hp194.1 hb210; clear hp194
    refine sqH ?_; intro hQ212Q hQ212
    refine s1 hF209 53 (.int .i64 ((ppartsofS u0).length : Int)) ?_; intro a213 hF214; clear hF209
    refine s1 hF214 54 (.int .i64 (w64 (((ppartsofS u0).length : Int) + 1))) ?_; intro a215 hF216; clear hF214
    refine s1 hF216 10 (.int .i64 (w64 (((ppartsofS u0).length : Int) + 1))) ?_; intro a217 hF218; clear hF216
    refine nlH (hQ212 _ _ ?_); clear hQ212 hQ212Q
    refine sqH ?_; intro hQ219Q hQ219
    refine s1 hF218 55 (.int .i64 u1) ?_; intro a220 hF221; clear hF218
    refine s1 hF221 56 (.bool (decide (u1 > 0))) ?_; intro a222 hF223; clear hF221
    refine nlH (hQ219 _ _ ?_); clear hQ219 hQ219Q
    refine cd hF223 (t := decide (u1 > 0)) (by kernel_rfl) (fun hb224 => ?_) (fun hb224 => ?_)
    · -- yes
     have hp225 := hp211.1 hb224; clear hp211
     refine rgH ?_; intro hQ226Q hQ226
     refine s1 hF223 57 (.int .i64 (w64 (((ppartsofS u0).length : Int) + 1))) ?_; intro a227 hF228; clear hF223
     refine s1 hF228 58 (.int .i64 ((ppartsofS u0).length : Int)) ?_; intro a229 hF230; clear hF228
     refine s1 hF230 59 (.int .i64 (w64 (((ppartsofS u0).length : Int) - 2))) ?_; intro a231 hF232; clear hF230
     refine s1 hF232 60 (.int .i64 u1) ?_; intro a233 hF234; clear hF232
     have hc235 := hp225.1; have hp236 := hp225.2; clear hp225
     refine st hF234 (.int .i64 (w64 ((w64 (((ppartsofS u0).length : Int) - 2)).tdiv u1))) (nog rfl _) rfl (by kernel_rfl) (quo_run hF234 (g := []) rfl (by kernel_rfl) (by kernel_rfl) hc235 rfl) ?_; intro a237 hF238; clear hF234
     refine s1 hF238 62 (.int .i64 (w64 ((w64 (((ppartsofS u0).length : Int) + 1)) + (w64 ((w64 (((ppartsofS u0).length : Int) - 2)).tdiv u1))))) ?_; intro a239 hF240; clear hF238
     refine s1 hF240 10 (.int .i64 (w64 ((w64 (((ppartsofS u0).length : Int) + 1)) + (w64 ((w64 (((ppartsofS u0).length : Int) - 2)).tdiv u1))))) ?_; intro a241 hF242; clear hF240
     refine nlH (hQ226 _ _ ?_); clear hQ226 hQ226Q
     refine thn ?_
     have hF243 : Fr 75 [] [⟨0, [], .slice ao1 u0.length cap2⟩, ⟨5, [], .slice ao19 ((psendS u0 u1).1).length cap20⟩, ⟨6, [], .int .i64 ((psendS u0 u1).2.1)⟩, ⟨7, [], .int .i64 ((psendS u0 u1).2.2)⟩, ⟨10, [], .int .i64 (w64 ((w64 (((ppartsofS u0).length : Int) + 1)) + (w64 ((w64 (((ppartsofS u0).length : Int) - 2)).tdiv u1))))⟩] a241 := hF242.region (by kernel_rfl) (by kernel_rfl); clear hF242
     refine sqH ?_; intro hQ244Q hQ244
     refine s1 hF243 63 (.int .i64 ((psendS u0 u1).2.2)) ?_; intro a245 hF246; clear hF243
     refine s1 hF246 64 (.bool (((psendS u0 u1).2.2) == 0)) ?_; intro a247 hF248; clear hF246
     refine s1 hF248 65 (.bool (((psendS u0 u1).2.2) == 0)) ?_; intro a249 hF250; clear hF248
     have hF251 := hF250.atom ((((psendS u0 u1).2.2) == 0) == true) (by kernel_rfl); clear hF250
     refine gp hF251 66 0 [] (((psendS u0 u1).2.2) == 0) (.slice ao19 ((psendS u0 u1).1).length cap20) rfl rfl ?_; intro a252 hF253; clear hF251
     refine gp hF253 67 0 [] (((psendS u0 u1).2.2) == 0) (.slice ao1 u0.length cap2) rfl rfl ?_; intro a254 hF255; clear hF253
     obtain ⟨Z256, hle257, hM258, hs259⟩ := hM193.freeze 1 rfl
     replace hs3 := hs3.mono hle257
     replace hle0 := Fz.le.trans hle0 hle257
     have hM260 : Mem w.heap.size [] w Z [.own (tySl (tyInt .u8)) 36 ao189 cap190 (ppartsofS u0)] Z256 wd185 := hM258; clear hM258
     refine gcl hF255 hM260 (.bool (beqS ((psendS u0 u1).1) u0)) 37 #[.slice ao19 ((psendS u0 u1).1).length cap20, .slice ao1 u0.length cap2] (m := 0) (cj := []) (bj := ((psendS u0 u1).2.2) == 0) rfl rfl (by kernel_rfl) rfl (by kernel_rfl) (by kernel_rfl) (by kernel_rfl) (fun _ => by kernel_rfl) (fun hg => beq_fun ((psendS u0 u1).1) u0 ao19 cap20 ao1 cap2 _ _ hs259 hs3 hM260.fz) ?_; intro a261 wd263 hF262 hM264; clear hF255 hM260
     refine st hF262 (.bool ((((psendS u0 u1).2.2) == 0) && (beqS ((psendS u0 u1).1) u0))) (nog rfl _) rfl (by kernel_rfl) (pk_and hF262 (g := []) (m := 0) (b := ((psendS u0 u1).2.2) == 0) (v := (beqS ((psendS u0 u1).1) u0)) rfl (by kernel_rfl) (by kernel_rfl) (by kernel_rfl) rfl) ?_; intro a265 hF266; clear hF262
     refine s1 hF266 70 (.bool ((((psendS u0 u1).2.2) == 0) && (beqS ((psendS u0 u1).1) u0))) ?_; intro a267 hF268; clear hF266
     have hF269 := hF268.atom (((((psendS u0 u1).2.2) == 0) && (beqS ((psendS u0 u1).1) u0)) == true) (by kernel_rfl); clear hF268
     refine gp hF269 71 1 [] ((((psendS u0 u1).2.2) == 0) && (beqS ((psendS u0 u1).1) u0)) (.int .i64 ((psendS u0 u1).2.1)) rfl rfl ?_; intro a270 hF271; clear hF269
     refine gp hF271 72 1 [] ((((psendS u0 u1).2.2) == 0) && (beqS ((psendS u0 u1).1) u0)) (.int .i64 (w64 ((w64 (((ppartsofS u0).length : Int) + 1)) + (w64 ((w64 (((ppartsofS u0).length : Int) - 2)).tdiv u1))))) rfl rfl ?_; intro a272 hF273; clear hF271
     refine gp hF273 73 1 [] ((((psendS u0 u1).2.2) == 0) && (beqS ((psendS u0 u1).1) u0)) (.bool (((psendS u0 u1).2.1) == (w64 ((w64 (((ppartsofS u0).length : Int) + 1)) + (w64 ((w64 (((ppartsofS u0).length : Int) - 2)).tdiv u1)))))) rfl rfl ?_; intro a274 hF275; clear hF273
     refine st hF275 (.bool (((((psendS u0 u1).2.2) == 0) && (beqS ((psendS u0 u1).1) u0)) && (((psendS u0 u1).2.1) == (w64 ((w64 (((ppartsofS u0).length : Int) + 1)) + (w64 ((w64 (((ppartsofS u0).length : Int) - 2)).tdiv u1))))))) (nog rfl _) rfl (by kernel_rfl) (pk_and hF275 (g := []) (m := 1) (b := (((psendS u0 u1).2.2) == 0) && (beqS ((psendS u0 u1).1) u0)) (v := ((psendS u0 u1).2.1) == (w64 ((w64 (((ppartsofS u0).length : Int) + 1)) + (w64 ((w64 (((ppartsofS u0).length : Int) - 2)).tdiv u1))))) rfl (by kernel_rfl) (by kernel_rfl) (by kernel_rfl) rfl) ?_; intro a276 hF277; clear hF275
     refine s1 hF277 4 (.bool (((((psendS u0 u1).2.2) == 0) && (beqS ((psendS u0 u1).1) u0)) && (((psendS u0 u1).2.1) == (w64 ((w64 (((ppartsofS u0).length : Int) + 1)) + (w64 ((w64 (((ppartsofS u0).length : Int) - 2)).tdiv u1))))))) ?_; intro a278 hF279; clear hF277
     refine nlH (hQ244 _ _ ?_); clear hQ244 hQ244Q
     refine wp_ret ?_
     refine rt (fn := Try.f10) (v := .bool (((((psendS u0 u1).2.2) == 0) && (beqS ((psendS u0 u1).1) u0)) && (((psendS u0 u1).2.1) == (w64 ((w64 (((ppartsofS u0).length : Int) + 1)) + (w64 ((w64 (((ppartsofS u0).length : Int) - 2)).tdiv u1))))))) hF279 (re1 hF279 (fn := Try.f10) rfl (by kernel_rfl)) ?_
     exact ⟨((((psendS u0 u1).2.2) == 0) && (beqS ((psendS u0 u1).1) u0)) && (((psendS u0 u1).2.1) == (w64 ((w64 (((ppartsofS u0).length : Int) + 1)) + (w64 ((w64 (((ppartsofS u0).length : Int) - 2)).tdiv u1))))), rfl, hp236, hM264.below⟩
    · -- no
     have hp280 := hp211.2 hb224; clear hp211
     refine wp_skip ?_
     refine thn ?_
     refine sqH ?_; intro hQ281Q hQ281
     refine s1 hF223 63 (.int .i64 ((psendS u0 u1).2.2)) ?_; intro a282 hF283; clear hF223
     refine s1 hF283 64 (.bool (((psendS u0 u1).2.2) == 0)) ?_; intro a284 hF285; clear hF283
     refine s1 hF285 65 (.bool (((psendS u0 u1).2.2) == 0)) ?_; intro a286 hF287; clear hF285
     have hF288 := hF287.atom ((((psendS u0 u1).2.2) == 0) == true) (by kernel_rfl); clear hF287
     refine gp hF288 66 0 [] (((psendS u0 u1).2.2) == 0) (.slice ao19 ((psendS u0 u1).1).length cap20) rfl rfl ?_; intro a289 hF290; clear hF288
     refine gp hF290 67 0 [] (((psendS u0 u1).2.2) == 0) (.slice ao1 u0.length cap2) rfl rfl ?_; intro a291 hF292; clear hF290
     obtain ⟨Z293, hle294, hM295, hs296⟩ := hM193.freeze 1 rfl
     replace hs3 := hs3.mono hle294
     replace hle0 := Fz.le.trans hle0 hle294
     have hM297 : Mem w.heap.size [] w Z [.own (tySl (tyInt .u8)) 36 ao189 cap190 (ppartsofS u0)] Z293 wd185 := hM295; clear hM295
     refine gcl hF292 hM297 (.bool (beqS ((psendS u0 u1).1) u0)) 37 #[.slice ao19 ((psendS u0 u1).1).length cap20, .slice ao1 u0.length cap2] (m := 0) (cj := []) (bj := ((psendS u0 u1).2.2) == 0) rfl rfl (by kernel_rfl) rfl (by kernel_rfl) (by kernel_rfl) (by kernel_rfl) (fun _ => by kernel_rfl) (fun hg => beq_fun ((psendS u0 u1).1) u0 ao19 cap20 ao1 cap2 _ _ hs296 hs3 hM297.fz) ?_; intro a298 wd300 hF299 hM301; clear hF292 hM297
     refine st hF299 (.bool ((((psendS u0 u1).2.2) == 0) && (beqS ((psendS u0 u1).1) u0))) (nog rfl _) rfl (by kernel_rfl) (pk_and hF299 (g := []) (m := 0) (b := ((psendS u0 u1).2.2) == 0) (v := (beqS ((psendS u0 u1).1) u0)) rfl (by kernel_rfl) (by kernel_rfl) (by kernel_rfl) rfl) ?_; intro a302 hF303; clear hF299
     refine s1 hF303 70 (.bool ((((psendS u0 u1).2.2) == 0) && (beqS ((psendS u0 u1).1) u0))) ?_; intro a304 hF305; clear hF303
     have hF306 := hF305.atom (((((psendS u0 u1).2.2) == 0) && (beqS ((psendS u0 u1).1) u0)) == true) (by kernel_rfl); clear hF305
     refine gp hF306 71 1 [] ((((psendS u0 u1).2.2) == 0) && (beqS ((psendS u0 u1).1) u0)) (.int .i64 ((psendS u0 u1).2.1)) rfl rfl ?_; intro a307 hF308; clear hF306
     refine gp hF308 72 1 [] ((((psendS u0 u1).2.2) == 0) && (beqS ((psendS u0 u1).1) u0)) (.int .i64 (w64 (((ppartsofS u0).length : Int) + 1))) rfl rfl ?_; intro a309 hF310; clear hF308
     refine gp hF310 73 1 [] ((((psendS u0 u1).2.2) == 0) && (beqS ((psendS u0 u1).1) u0)) (.bool (((psendS u0 u1).2.1) == (w64 (((ppartsofS u0).length : Int) + 1)))) rfl rfl ?_; intro a311 hF312; clear hF310
     refine st hF312 (.bool (((((psendS u0 u1).2.2) == 0) && (beqS ((psendS u0 u1).1) u0)) && (((psendS u0 u1).2.1) == (w64 (((ppartsofS u0).length : Int) + 1))))) (nog rfl _) rfl (by kernel_rfl) (pk_and hF312 (g := []) (m := 1) (b := (((psendS u0 u1).2.2) == 0) && (beqS ((psendS u0 u1).1) u0)) (v := ((psendS u0 u1).2.1) == (w64 (((ppartsofS u0).length : Int) + 1))) rfl (by kernel_rfl) (by kernel_rfl) (by kernel_rfl) rfl) ?_; intro a313 hF314; clear hF312
     refine s1 hF314 4 (.bool (((((psendS u0 u1).2.2) == 0) && (beqS ((psendS u0 u1).1) u0)) && (((psendS u0 u1).2.1) == (w64 (((ppartsofS u0).length : Int) + 1))))) ?_; intro a315 hF316; clear hF314
     refine nlH (hQ281 _ _ ?_); clear hQ281 hQ281Q
     refine wp_ret ?_
     refine rt (fn := Try.f10) (v := .bool (((((psendS u0 u1).2.2) == 0) && (beqS ((psendS u0 u1).1) u0)) && (((psendS u0 u1).2.1) == (w64 (((ppartsofS u0).length : Int) + 1))))) hF316 (re1 hF316 (fn := Try.f10) rfl (by kernel_rfl)) ?_
     exact ⟨((((psendS u0 u1).2.2) == 0) && (beqS ((psendS u0 u1).1) u0)) && (((psendS u0 u1).2.1) == (w64 (((ppartsofS u0).length : Int) + 1))), rfl, hp280, hM301.below⟩
   · -- no
    have hp317 := hp194.2 hb210; clear hp194
    refine wp_skip ?_
    refine thn ?_
    refine sqH ?_; intro hQ318Q hQ318
    refine s1 hF209 63 (.int .i64 ((psendS u0 u1).2.2)) ?_; intro a319 hF320; clear hF209
    refine s1 hF320 64 (.bool (((psendS u0 u1).2.2) == 0)) ?_; intro a321 hF322; clear hF320
    refine s1 hF322 65 (.bool (((psendS u0 u1).2.2) == 0)) ?_; intro a323 hF324; clear hF322
    have hF325 := hF324.atom ((((psendS u0 u1).2.2) == 0) == true) (by kernel_rfl); clear hF324
    refine gp hF325 66 0 [] (((psendS u0 u1).2.2) == 0) (.slice ao19 ((psendS u0 u1).1).length cap20) rfl rfl ?_; intro a326 hF327; clear hF325
    refine gp hF327 67 0 [] (((psendS u0 u1).2.2) == 0) (.slice ao1 u0.length cap2) rfl rfl ?_; intro a328 hF329; clear hF327
    obtain ⟨Z330, hle331, hM332, hs333⟩ := hM193.freeze 1 rfl
    replace hs3 := hs3.mono hle331
    replace hle0 := Fz.le.trans hle0 hle331
    have hM334 : Mem w.heap.size [] w Z [.own (tySl (tyInt .u8)) 36 ao189 cap190 (ppartsofS u0)] Z330 wd185 := hM332; clear hM332
    refine gcl hF329 hM334 (.bool (beqS ((psendS u0 u1).1) u0)) 37 #[.slice ao19 ((psendS u0 u1).1).length cap20, .slice ao1 u0.length cap2] (m := 0) (cj := []) (bj := ((psendS u0 u1).2.2) == 0) rfl rfl (by kernel_rfl) rfl (by kernel_rfl) (by kernel_rfl) (by kernel_rfl) (fun _ => by kernel_rfl) (fun hg => beq_fun ((psendS u0 u1).1) u0 ao19 cap20 ao1 cap2 _ _ hs333 hs3 hM334.fz) ?_; intro a335 wd337 hF336 hM338; clear hF329 hM334
    refine st hF336 (.bool ((((psendS u0 u1).2.2) == 0) && (beqS ((psendS u0 u1).1) u0))) (nog rfl _) rfl (by kernel_rfl) (pk_and hF336 (g := []) (m := 0) (b := ((psendS u0 u1).2.2) == 0) (v := (beqS ((psendS u0 u1).1) u0)) rfl (by kernel_rfl) (by kernel_rfl) (by kernel_rfl) rfl) ?_; intro a339 hF340; clear hF336
    refine s1 hF340 70 (.bool ((((psendS u0 u1).2.2) == 0) && (beqS ((psendS u0 u1).1) u0))) ?_; intro a341 hF342; clear hF340
    have hF343 := hF342.atom (((((psendS u0 u1).2.2) == 0) && (beqS ((psendS u0 u1).1) u0)) == true) (by kernel_rfl); clear hF342
    refine gp hF343 71 1 [] ((((psendS u0 u1).2.2) == 0) && (beqS ((psendS u0 u1).1) u0)) (.int .i64 ((psendS u0 u1).2.1)) rfl rfl ?_; intro a344 hF345; clear hF343
    refine gp hF345 72 1 [] ((((psendS u0 u1).2.2) == 0) && (beqS ((psendS u0 u1).1) u0)) (.int .i64 ((ppartsofS u0).length : Int)) rfl rfl ?_; intro a346 hF347; clear hF345
    refine gp hF347 73 1 [] ((((psendS u0 u1).2.2) == 0) && (beqS ((psendS u0 u1).1) u0)) (.bool (((psendS u0 u1).2.1) == ((ppartsofS u0).length : Int))) rfl rfl ?_; intro a348 hF349; clear hF347
    refine st hF349 (.bool (((((psendS u0 u1).2.2) == 0) && (beqS ((psendS u0 u1).1) u0)) && (((psendS u0 u1).2.1) == ((ppartsofS u0).length : Int)))) (nog rfl _) rfl (by kernel_rfl) (pk_and hF349 (g := []) (m := 1) (b := (((psendS u0 u1).2.2) == 0) && (beqS ((psendS u0 u1).1) u0)) (v := ((psendS u0 u1).2.1) == ((ppartsofS u0).length : Int)) rfl (by kernel_rfl) (by kernel_rfl) (by kernel_rfl) rfl) ?_; intro a350 hF351; clear hF349
    refine s1 hF351 4 (.bool (((((psendS u0 u1).2.2) == 0) && (beqS ((psendS u0 u1).1) u0)) && (((psendS u0 u1).2.1) == ((ppartsofS u0).length : Int)))) ?_; intro a352 hF353; clear hF351
    refine nlH (hQ318 _ _ ?_); clear hQ318 hQ318Q
    refine wp_ret ?_
    refine rt (fn := Try.f10) (v := .bool (((((psendS u0 u1).2.2) == 0) && (beqS ((psendS u0 u1).1) u0)) && (((psendS u0 u1).2.1) == ((ppartsofS u0).length : Int)))) hF353 (re1 hF353 (fn := Try.f10) rfl (by kernel_rfl)) ?_
    exact ⟨((((psendS u0 u1).2.2) == 0) && (beqS ((psendS u0 u1).1) u0)) && (((psendS u0 u1).2.1) == ((ppartsofS u0).length : Int)), rfl, hp317, hM338.below⟩

end Go.Proofs.Ytkogkombalcgeaa
