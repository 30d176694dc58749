/- The walks, made by program: each call does what its pure predicate says. -/
import Derived.Test.YtmbdcehmeiiaoaaDoorPM
import Derived.Test.YtmbdcehmeiiaoaaDoorWL
import Derived.Test.YtmbdcehmeiiaoaaDoorWG
set_option linter.unusedVariables false
set_option linter.unusedSimpArgs false
namespace Go.Proofs.YtmbdcehmeiiaoaaDoor
open Go.Sy Go.RowKit
set_option maxRecDepth 100000 in
set_option maxHeartbeats 0 in
theorem LWins_walk (u0 : List Frame) (ao1 : Option Addr) (cap2 : Nat) (Z : Fz) (w : World) (hs3 : SlR tyFrame Z ao1 cap2 u0) (hZ : Z.on w) {K : Bool → Prop} (hp : LWins_vc u0 K) : Calls Tryd.prog 8 #[.slice ao1 u0.length cap2] w fun e w' => ∃ r : Bool, e = .returned (.bool r) ∧ K r ∧ Below w.heap.size w w' := by
 refine enter0 Tryd.func8 rfl rfl (by kernel_rfl) ?_; intro a0 hF0; have hM0 := Mem.start w Z hZ; have hle0 := Fz.le.refl Z
 have hp4 := hp (hs3.small); clear hp
 refine sqH ?_; intro hQ5Q hQ5
 refine s1 hF0 2 (.bool false) ?_; intro a6 hF7; clear hF0
 refine nlH (hQ5 _ _ ?_); clear hQ5 hQ5Q
 refine sqH ?_; intro hQ8Q hQ8
 refine s1 hF7 13 (.slice ao1 u0.length cap2) ?_; intro a9 hF10; clear hF7
 have hc11 := hp4.1; have hp12 := hp4.2; clear hp4
 refine cl hF10 18 #[.slice ao1 u0.length cap2] (nog rfl _) rfl (by kernel_rfl) (by kernel_rfl) ?_
 refine (wsend_fun u0 hc11 ao1 cap2 _ _ hs3 hM0.fz).mono ?_; rintro _ wd13 ⟨ao17, cap18, Z19, rfl, hm⟩; refine ⟨_, rfl, ?_⟩; intro a14 hF15; have hM16 := hM0.callZ hm; have hle20 := hm.ext.le; clear hm hM0 hF10
 replace hs3 := hs3.mono hle20
 replace hle0 := Fz.le.trans hle0 hle20
 have hM21 : Mem w.heap.size [] w Z [.own (tyInt .i64) 3 ao17 cap18 ((sendS u0).2.2.1)] Z19 wd13 := hM16; clear hM16
 have hp22 := hp12 (hM21.ownSmall 0 rfl); clear hp12
 refine s1 hF15 12 (.tuple #[str ((sendS u0).1), .int .i64 ((sendS u0).2.1), .slice ao17 ((sendS u0).2.2.1).length cap18, .int .i64 ((sendS u0).2.2.2)]) ?_; intro a23 hF24; clear hF15
 refine s1 hF24 15 (str ((sendS u0).1)) ?_; intro a25 hF26; clear hF24
 refine s1 hF26 16 (.int .i64 ((sendS u0).2.1)) ?_; intro a27 hF28; clear hF26
 refine s1 hF28 17 (.slice ao17 ((sendS u0).2.2.1).length cap18) ?_; intro a29 hF30; clear hF28
 refine s1 hF30 18 (.int .i64 ((sendS u0).2.2.2)) ?_; intro a31 hF32; clear hF30
 refine s1 hF32 3 (str ((sendS u0).1)) ?_; intro a33 hF34; clear hF32
 refine s1 hF34 4 (.int .i64 ((sendS u0).2.1)) ?_; intro a35 hF36; clear hF34
 refine s1 hF36 5 (.slice ao17 ((sendS u0).2.2.1).length cap18) ?_; intro a37 hF38; clear hF36
 refine s1 hF38 6 (.int .i64 ((sendS u0).2.2.2)) ?_; intro a39 hF40; clear hF38
 refine nlH (hQ8 _ _ ?_); clear hQ8 hQ8Q
 refine sqH ?_; intro hQ41Q hQ41
 refine s1 hF40 20 (.slice ao1 u0.length cap2) ?_; intro a42 hF43; clear hF40
 refine fcl hF43 hM21 (.tuple #[.int .i64 ((firstS u0).1), .int .i64 ((firstS u0).2)]) 24 #[.slice ao1 u0.length cap2] (nog rfl _) rfl (by kernel_rfl) (fun _ => by kernel_rfl) (wfirst_fun u0 ao1 cap2 _ _ hs3 hM21.fz) ?_; intro a44 wd46 hF45 hM47; clear hF43 hM21
 refine s1 hF45 19 (.tuple #[.int .i64 ((firstS u0).1), .int .i64 ((firstS u0).2)]) ?_; intro a48 hF49; clear hF45
 refine s1 hF49 22 (.int .i64 ((firstS u0).1)) ?_; intro a50 hF51; clear hF49
 refine s1 hF51 23 (.int .i64 ((firstS u0).2)) ?_; intro a52 hF53; clear hF51
 refine s1 hF53 7 (.int .i64 ((firstS u0).1)) ?_; intro a54 hF55; clear hF53
 refine s1 hF55 8 (.int .i64 ((firstS u0).2)) ?_; intro a56 hF57; clear hF55
 refine nlH (hQ41 _ _ ?_); clear hQ41 hQ41Q
 refine wp_seq ?_
 have hF58 : Fr 86 [] [⟨0, [], .slice ao1 u0.length cap2⟩, ⟨3, [], str ((sendS u0).1)⟩, ⟨4, [], .int .i64 ((sendS u0).2.1)⟩, ⟨6, [], .int .i64 ((sendS u0).2.2.2)⟩, ⟨7, [], .int .i64 ((firstS u0).1)⟩, ⟨8, [], .int .i64 ((firstS u0).2)⟩] a56 := hF57.region (by kernel_rfl) (by kernel_rfl); clear hF57
 refine sqH ?_; intro hQ59Q hQ59
 refine fcl hF58 hM47 (.bool true) 21 #[] (nog rfl _) rfl (by kernel_rfl) (fun _ => by kernel_rfl) (wired_fun  _ _ hM47.fz) ?_; intro a60 wd62 hF61 hM63; clear hF58 hM47
 refine s1 hF61 25 (.bool false) ?_; intro a64 hF65; clear hF61
 refine nlH (hQ59 _ _ ?_); clear hQ59 hQ59Q
 refine cdF hF65 (by kernel_rfl) ?_
 refine wp_skip ?_
 refine thn ?_
 refine wp_seq ?_
 refine sqH ?_; intro hQ66Q hQ66
 refine s1 hF65 26 (.int .i64 ((firstS u0).2)) ?_; intro a67 hF68; clear hF65
 refine s1 hF68 27 (.bool (((firstS u0).2) == 0)) ?_; intro a69 hF70; clear hF68
 refine s1 hF70 28 (.bool (((firstS u0).2) == 0)) ?_; intro a71 hF72; clear hF70
 have hF73 := hF72.atom ((((firstS u0).2) == 0) == true) (by kernel_rfl); clear hF72
 refine gp hF73 29 0 [] (((firstS u0).2) == 0) (.int .i64 ((sendS u0).2.2.2)) rfl rfl ?_; intro a74 hF75; clear hF73
 refine gp hF75 30 0 [] (((firstS u0).2) == 0) (.bool (((sendS u0).2.2.2) != 0)) rfl rfl ?_; intro a76 hF77; clear hF75
 refine gp hF77 31 0 [] (((firstS u0).2) == 0) (.bool (((sendS u0).2.2.2) != 0)) rfl rfl ?_; intro a78 hF79; clear hF77
 have hF80 := hF79.atom ((((sendS u0).2.2.2) != 0) == false) (by kernel_rfl); clear hF79
 refine gp hF80 32 1 [0] (((sendS u0).2.2.2) != 0) (.int .i64 ((firstS u0).1)) rfl rfl ?_; intro a81 hF82; clear hF80
 refine gp hF82 33 1 [0] (((sendS u0).2.2.2) != 0) (.int .i64 ((sendS u0).2.1)) rfl rfl ?_; intro a83 hF84; clear hF82
 refine gp hF84 34 1 [0] (((sendS u0).2.2.2) != 0) (.bool (((firstS u0).1) != ((sendS u0).2.1))) rfl rfl ?_; intro a85 hF86; clear hF84
 refine gd hF86 (.bool ((((sendS u0).2.2.2) != 0) || (((firstS u0).1) != ((sendS u0).2.1)))) (m := 0) (cj := []) (bj := ((firstS u0).2) == 0) rfl rfl (by kernel_rfl) rfl (by kernel_rfl) (by kernel_rfl) (by kernel_rfl) (fun hg => pk_or hF86 (g := [0]) (m := 1) (b := ((sendS u0).2.2.2) != 0) (v := ((firstS u0).1) != ((sendS u0).2.1)) rfl (by kernel_rfl) (by kernel_rfl) (by kernel_rfl) hg) ?_; intro a87 hF88; clear hF86
 refine st hF88 (.bool ((((firstS u0).2) == 0) && ((((sendS u0).2.2.2) != 0) || (((firstS u0).1) != ((sendS u0).2.1))))) (nog rfl _) rfl (by kernel_rfl) (pk_and hF88 (g := []) (m := 0) (b := ((firstS u0).2) == 0) (v := (((sendS u0).2.2.2) != 0) || (((firstS u0).1) != ((sendS u0).2.1))) rfl (by kernel_rfl) (by kernel_rfl) (by kernel_rfl) rfl) ?_; intro a89 hF90; clear hF88
 refine nlH (hQ66 _ _ ?_); clear hQ66 hQ66Q
 refine cd hF90 (t := (((firstS u0).2) == 0) && ((((sendS u0).2.2.2) != 0) || (((firstS u0).1) != ((sendS u0).2.1)))) (by kernel_rfl) (fun hb91 => ?_) (fun hb91 => ?_)
 · -- yes
  have hp92 := hp22.1 hb91; clear hp22
  have hF93 : Fr 86 [] [] a89 := hF90.region (by kernel_rfl) (by kernel_rfl); clear hF90
  refine sqH ?_; intro hQ94Q hQ94
  refine s1 hF93 2 (.bool false) ?_; intro a95 hF96; clear hF93
  refine nlH (hQ94 _ _ ?_); clear hQ94 hQ94Q
  refine wp_ret ?_
  refine thr ?_
  refine rt (fn := Tryd.f8) (v := .bool false) hF96 (re1 hF96 (fn := Tryd.f8) rfl (by kernel_rfl)) ?_
  exact ⟨false, rfl, hp92, hM63.below⟩
 · -- no
  have hp97 := hp22.2 hb91; clear hp22
  refine wp_skip ?_
  refine thn ?_
  refine wp_seq ?_
  have hF98 : Fr 86 [] [⟨0, [], .slice ao1 u0.length cap2⟩, ⟨3, [], str ((sendS u0).1)⟩, ⟨4, [], .int .i64 ((sendS u0).2.1)⟩, ⟨6, [], .int .i64 ((sendS u0).2.2.2)⟩] a89 := hF90.region (by kernel_rfl) (by kernel_rfl); clear hF90
  refine sqH ?_; intro hQ99Q hQ99
  refine s1 hF98 37 (.int .i64 ((sendS u0).2.2.2)) ?_; intro a100 hF101; clear hF98
  refine s1 hF101 38 (.bool (((sendS u0).2.2.2) != 0)) ?_; intro a102 hF103; clear hF101
  refine nlH (hQ99 _ _ ?_); clear hQ99 hQ99Q
  refine cd hF103 (t := ((sendS u0).2.2.2) != 0) (by kernel_rfl) (fun hb104 => ?_) (fun hb104 => ?_)
  · -- yes
   have hp105 := hp97.1 hb104; clear hp97
   refine sqH ?_; intro hQ106Q hQ106
   refine s1 hF103 2 (.bool true) ?_; intro a107 hF108; clear hF103
   refine nlH (hQ106 _ _ ?_); clear hQ106 hQ106Q
   refine wp_ret ?_
   refine thr ?_
   refine rt (fn := Tryd.f8) (v := .bool true) hF108 (re1 hF108 (fn := Tryd.f8) rfl (by kernel_rfl)) ?_
   exact ⟨true, rfl, hp105, hM63.below⟩
  · -- no
   have hp109 := hp97.2 hb104; clear hp97
   refine wp_skip ?_
   refine thn ?_
   refine wp_seq ?_
   refine sqH ?_; intro hQ110Q hQ110
   refine s1 hF103 39 (.int .i64 ((sendS u0).2.1)) ?_; intro a111 hF112; clear hF103
   refine s1 hF112 40 (.bool (decide (((sendS u0).2.1) < 0))) ?_; intro a113 hF114; clear hF112
   refine s1 hF114 41 (.bool (decide (((sendS u0).2.1) < 0))) ?_; intro a115 hF116; clear hF114
   have hF117 := hF116.atom ((decide (((sendS u0).2.1) < 0)) == false) (by kernel_rfl); clear hF116
   refine gp hF117 42 0 [] (decide (((sendS u0).2.1) < 0)) (.int .i64 ((sendS u0).2.1)) rfl rfl ?_; intro a118 hF119; clear hF117
   refine gp hF119 43 0 [] (decide (((sendS u0).2.1) < 0)) (.slice ao1 u0.length cap2) rfl rfl ?_; intro a120 hF121; clear hF119
   refine gp hF121 44 0 [] (decide (((sendS u0).2.1) < 0)) (.int .i64 (u0.length : Int)) rfl rfl ?_; intro a122 hF123; clear hF121
   refine gp hF123 45 0 [] (decide (((sendS u0).2.1) < 0)) (.bool (decide (((sendS u0).2.1) ≥ (u0.length : Int)))) rfl rfl ?_; intro a124 hF125; clear hF123
   refine st hF125 (.bool ((decide (((sendS u0).2.1) < 0)) || (decide (((sendS u0).2.1) ≥ (u0.length : Int))))) (nog rfl _) rfl (by kernel_rfl) (pk_or hF125 (g := []) (m := 0) (b := decide (((sendS u0).2.1) < 0)) (v := decide (((sendS u0).2.1) ≥ (u0.length : Int))) rfl (by kernel_rfl) (by kernel_rfl) (by kernel_rfl) rfl) ?_; intro a126 hF127; clear hF125
   refine nlH (hQ110 _ _ ?_); clear hQ110 hQ110Q
   refine cd hF127 (t := (decide (((sendS u0).2.1) < 0)) || (decide (((sendS u0).2.1) ≥ (u0.length : Int)))) (by kernel_rfl) (fun hb128 => ?_) (fun hb128 => ?_)
   · -- yes
    have hp129 := hp109.1 hb128; clear hp109
    have hF130 : Fr 86 [] [] a126 := hF127.region (by kernel_rfl) (by kernel_rfl); clear hF127
    refine sqH ?_; intro hQ131Q hQ131
    refine s1 hF130 2 (.bool false) ?_; intro a132 hF133; clear hF130
    refine nlH (hQ131 _ _ ?_); clear hQ131 hQ131Q
    refine wp_ret ?_
    refine thr ?_
    refine rt (fn := Tryd.f8) (v := .bool false) hF133 (re1 hF133 (fn := Tryd.f8) rfl (by kernel_rfl)) ?_
    exact ⟨false, rfl, hp129, hM63.below⟩
   · -- no
    have hp134 := hp109.2 hb128; clear hp109
    refine wp_skip ?_
    refine thn ?_
    have hF135 : Fr 86 [] [⟨0, [], .slice ao1 u0.length cap2⟩, ⟨3, [], str ((sendS u0).1)⟩, ⟨4, [], .int .i64 ((sendS u0).2.1)⟩] a126 := hF127.region (by kernel_rfl) (by kernel_rfl); clear hF127
    refine sqH ?_; intro hQ136Q hQ136
    refine s1 hF135 48 (.slice ao1 u0.length cap2) ?_; intro a137 hF138; clear hF135
    refine s1 hF138 49 (.int .i64 ((sendS u0).2.1)) ?_; intro a139 hF140; clear hF138
    have hc141 := hp134.1; have hp142 := hp134.2; clear hp134
    refine ix hF140 (T := tyFrame) (xs := u0) hs3 ((sendS u0).2.1) hc141 (k := .i64) (e := 24) (bytes := 48) (nog rfl _) rfl (by kernel_rfl) rfl (by kernel_rfl) (by kernel_rfl) (by kernel_rfl) ?_; intro b143 off144 cs145 q146 a150 hq147 hP148 hT149 hF151; clear hF140
    have hp152 := hp142 q146 hq147; clear hp142
    obtain ⟨ao153, cap154, rfl, hs155⟩ := hT149
    have hp156 := hp152 (hs155.small); clear hp152
    refine z2 hF151 hM63 51 hP148 0 6 [.int .i64 q146.ID, .bool q146.Long, .bool q146.Fast, .bool q146.Remote, .int .i64 q146.Size, .slice ao153 q146.Data.length cap154] rfl ?_; intro a157 hF158; clear hF151
    have hc159 := hp156.1; have hp160 := hp156.2; clear hp156
    refine fcl hF158 hM63 (.tuple #[str ((BitsS q146).1), .int .i64 ((BitsS q146).2)]) 10 #[.agg #[.int .i64 q146.ID, .bool q146.Long, .bool q146.Fast, .bool q146.Remote, .int .i64 q146.Size, .slice ao153 q146.Data.length cap154]] (nog rfl _) rfl (by kernel_rfl) (fun _ => by kernel_rfl) (fBits_fun q146 hc159 ao153 cap154 _ _ hs155 hM63.fz) ?_; intro a161 wd163 hF162 hM164; clear hF158 hM63
    refine s1 hF162 47 (.tuple #[str ((BitsS q146).1), .int .i64 ((BitsS q146).2)]) ?_; intro a165 hF166; clear hF162
    refine s1 hF166 53 (str ((BitsS q146).1)) ?_; intro a167 hF168; clear hF166
    refine s1 hF168 54 (.int .i64 ((BitsS q146).2)) ?_; intro a169 hF170; clear hF168
    refine s1 hF170 9 (str ((BitsS q146).1)) ?_; intro a171 hF172; clear hF170
    refine s1 hF172 6 (.int .i64 ((BitsS q146).2)) ?_; intro a173 hF174; clear hF172
    refine nlH (hQ136 _ _ ?_); clear hQ136 hQ136Q
    refine sqH ?_; intro hQ175Q hQ175
    refine s1 hF174 56 (str ((sendS u0).1)) ?_; intro a176 hF177; clear hF174
    refine cl hF177 12 #[str ((sendS u0).1)] (nog rfl _) rfl (by kernel_rfl) (by kernel_rfl) ?_
    refine (fRead_fun ((sendS u0).1) _ _ hM164.fz).mono ?_; rintro _ wd178 ⟨ao182, cap183, Z185, rfl, hs184, hm⟩; refine ⟨_, rfl, ?_⟩; intro a179 hF180; have hM181 := hM164.callZ hm; have hle186 := hm.ext.le; clear hm hM164 hF177
    replace hs3 := hs3.mono hle186
    replace hs155 := hs155.mono hle186
    replace hP148 := hP148.mono hle186
    replace hle0 := Fz.le.trans hle0 hle186
    have hM187 : Mem w.heap.size [] w Z [.own (tyInt .i64) 3 ao17 cap18 ((sendS u0).2.2.1)] Z185 wd178 := hM181; clear hM181
    have hp188 := hp160 (hs184.small); clear hp160
    refine s1 hF180 55 (.tuple #[.agg #[.int .i64 (((readS ((sendS u0).1)).1).ID), .bool (((readS ((sendS u0).1)).1).Long), .bool (((readS ((sendS u0).1)).1).Fast), .bool (((readS ((sendS u0).1)).1).Remote), .int .i64 (((readS ((sendS u0).1)).1).Size), .slice ao182 (((readS ((sendS u0).1)).1).Data).length cap183], .int .i64 ((readS ((sendS u0).1)).2.1), .int .i64 ((readS ((sendS u0).1)).2.2)]) ?_; intro a189 hF190; clear hF180
    refine s1 hF190 58 (.agg #[.int .i64 (((readS ((sendS u0).1)).1).ID), .bool (((readS ((sendS u0).1)).1).Long), .bool (((readS ((sendS u0).1)).1).Fast), .bool (((readS ((sendS u0).1)).1).Remote), .int .i64 (((readS ((sendS u0).1)).1).Size), .slice ao182 (((readS ((sendS u0).1)).1).Data).length cap183]) ?_; intro a191 hF192; clear hF190
    refine s1 hF192 59 (.int .i64 ((readS ((sendS u0).1)).2.1)) ?_; intro a193 hF194; clear hF192
    refine s1 hF194 60 (.int .i64 ((readS ((sendS u0).1)).2.2)) ?_; intro a195 hF196; clear hF194
    refine sn hF196 hM187 (fun b => .pointer (some ⟨b, 0, none⟩)) [.int .i64 0, .bool false, .bool false, .bool false, .int .i64 0, .slice none 0 0] 24 (nog rfl _) rfl (by kernel_rfl) (by kernel_rfl) ?_; intro b197 a198 wd200 hF199 hM201; clear hF196 hM187
    refine sr hF199 hM201 0 [.int .i64 (((readS ((sendS u0).1)).1).ID), .bool (((readS ((sendS u0).1)).1).Long), .bool (((readS ((sendS u0).1)).1).Fast), .bool (((readS ((sendS u0).1)).1).Remote), .int .i64 (((readS ((sendS u0).1)).1).Size), .slice ao182 (((readS ((sendS u0).1)).1).Data).length cap183] (b := b197) (off := 0) (cs := [.int .i64 0, .bool false, .bool false, .bool false, .int .i64 0, .slice none 0 0]) (ty := 24) (u := .agg #[.int .i64 (((readS ((sendS u0).1)).1).ID), .bool (((readS ((sendS u0).1)).1).Long), .bool (((readS ((sendS u0).1)).1).Fast), .bool (((readS ((sendS u0).1)).1).Remote), .int .i64 (((readS ((sendS u0).1)).1).Size), .slice ao182 (((readS ((sendS u0).1)).1).Data).length cap183]) (nog rfl _) rfl rfl (by kernel_rfl) (by kernel_rfl) (by kernel_rfl) (by kernel_rfl) (by kernel_rfl) (by kernel_rfl) (by kernel_rfl) ?_; intro wd202 hM203; clear hM201
    refine s1 hF199 11 (.int .i64 ((readS ((sendS u0).1)).2.1)) ?_; intro a204 hF205; clear hF199
    refine s1 hF205 8 (.int .i64 ((readS ((sendS u0).1)).2.2)) ?_; intro a206 hF207; clear hF205
    have hM208 : Mem w.heap.size [] w Z [.row b197 [.int .i64 (((readS ((sendS u0).1)).1).ID), .bool (((readS ((sendS u0).1)).1).Long), .bool (((readS ((sendS u0).1)).1).Fast), .bool (((readS ((sendS u0).1)).1).Remote), .int .i64 (((readS ((sendS u0).1)).1).Size), .slice ao182 (((readS ((sendS u0).1)).1).Data).length cap183] 24, .own (tyInt .i64) 3 ao17 cap18 ((sendS u0).2.2.1)] Z185 wd202 := hM203; clear hM203
    refine nlH (hQ175 _ _ ?_); clear hQ175 hQ175Q
    have hF209 : Fr 86 [] [⟨0, [], .slice ao1 u0.length cap2⟩, ⟨3, [], str ((sendS u0).1)⟩, ⟨4, [], .int .i64 ((sendS u0).2.1)⟩, ⟨6, [], .int .i64 ((BitsS q146).2)⟩, ⟨8, [], .int .i64 ((readS ((sendS u0).1)).2.2)⟩, ⟨9, [], str ((BitsS q146).1)⟩, ⟨10, [], .pointer (some ⟨b197, 0, none⟩)⟩, ⟨11, [], .int .i64 ((readS ((sendS u0).1)).2.1)⟩] a206 := hF207.region (by kernel_rfl) (by kernel_rfl); clear hF207
    rcases Bool.eq_false_or_eq_true ((((((BitsS q146).2) == 0) && (((readS ((sendS u0).1)).2.2) == 0)) && (((BitsS q146).1) == ((sendS u0).1))) && (((readS ((sendS u0).1)).2.1) == (((sendS u0).1).length : Int))) with hb210 | hb210
    · -- true
     have hp211 := hp188.1 hb210; clear hp188
     have hF212 : Fr 86 [] [⟨0, [], .slice ao1 u0.length cap2⟩, ⟨3, [], str ((sendS u0).1)⟩, ⟨4, [], .int .i64 ((sendS u0).2.1)⟩, ⟨6, [], .int .i64 ((BitsS q146).2)⟩, ⟨8, [], .int .i64 ((readS ((sendS u0).1)).2.2)⟩, ⟨9, [], str ((BitsS q146).1)⟩, ⟨10, [], .pointer (some ⟨b197, 0, none⟩)⟩, ⟨11, [], .int .i64 ((readS ((sendS u0).1)).2.1)⟩] a206 := hF209.region (by kernel_rfl) (by kernel_rfl); clear hF209
     refine sqQH mixed (by kernel_rfl) hM208 ?_; intro hQ213Q hQ213
     refine q1 hF212 61 (.int .i64 ((BitsS q146).2)) ?_; intro a215 hF216; clear hF212
     refine q1 hF216 62 (.bool (((BitsS q146).2) == 0)) ?_; intro a218 hF219; clear hF216
     refine q1 hF219 63 (.bool (((BitsS q146).2) == 0)) ?_; intro a221 hF222; clear hF219
     have hF223 := hF222.atom ((((BitsS q146).2) == 0) == true) (by kernel_rfl); clear hF222
     refine qgd hF223 (.int .i64 ((readS ((sendS u0).1)).2.2)) (m := 0) (cj := []) (bj := ((BitsS q146).2) == 0) rfl rfl (by kernel_rfl) rfl (by kernel_rfl) (by kernel_rfl) (by kernel_rfl) (fun hg => qat_ok (fun v224 hC => pu hF223 (g := [0]) (by kernel_rfl) hg)) ?_; intro a225 hF226; clear hF223
     refine qgd hF226 (.bool (((readS ((sendS u0).1)).2.2) == 0)) (m := 0) (cj := []) (bj := ((BitsS q146).2) == 0) rfl rfl (by kernel_rfl) rfl (by kernel_rfl) (by kernel_rfl) (by kernel_rfl) (fun hg => qat_ok (fun v227 hC => pu hF226 (g := [0]) (by kernel_rfl) hg)) ?_; intro a228 hF229; clear hF226
     refine qst hF229 (.bool ((((BitsS q146).2) == 0) && (((readS ((sendS u0).1)).2.2) == 0))) (nog rfl _) rfl (by kernel_rfl) (fun v230 hC => pk_and hF229 (g := []) (m := 0) (b := ((BitsS q146).2) == 0) (v := ((readS ((sendS u0).1)).2.2) == 0) rfl (by kernel_rfl) (by kernel_rfl) (by kernel_rfl) rfl) ?_; intro a231 hF232; clear hF229
     refine q1 hF232 67 (.bool ((((BitsS q146).2) == 0) && (((readS ((sendS u0).1)).2.2) == 0))) ?_; intro a234 hF235; clear hF232
     have hF236 := hF235.atom (((((BitsS q146).2) == 0) && (((readS ((sendS u0).1)).2.2) == 0)) == true) (by kernel_rfl); clear hF235
     refine qgd hF236 (str ((BitsS q146).1)) (m := 1) (cj := []) (bj := (((BitsS q146).2) == 0) && (((readS ((sendS u0).1)).2.2) == 0)) rfl rfl (by kernel_rfl) rfl (by kernel_rfl) (by kernel_rfl) (by kernel_rfl) (fun hg => qat_ok (fun v237 hC => pu hF236 (g := [1]) (by kernel_rfl) hg)) ?_; intro a238 hF239; clear hF236
     refine qgd hF239 (str ((sendS u0).1)) (m := 1) (cj := []) (bj := (((BitsS q146).2) == 0) && (((readS ((sendS u0).1)).2.2) == 0)) rfl rfl (by kernel_rfl) rfl (by kernel_rfl) (by kernel_rfl) (by kernel_rfl) (fun hg => qat_ok (fun v240 hC => pu hF239 (g := [1]) (by kernel_rfl) hg)) ?_; intro a241 hF242; clear hF239
     refine qgd hF242 (.bool (((BitsS q146).1) == ((sendS u0).1))) (m := 1) (cj := []) (bj := (((BitsS q146).2) == 0) && (((readS ((sendS u0).1)).2.2) == 0)) rfl rfl (by kernel_rfl) rfl (by kernel_rfl) (by kernel_rfl) (by kernel_rfl) (fun hg => qat_ok (fun v243 hC => strcmp_run hF242 (g := [1]) (op := .eql) rfl (by kernel_rfl) (by kernel_rfl) (by decide) hg)) ?_; intro a244 hF245; clear hF242
     refine qst hF245 (.bool (((((BitsS q146).2) == 0) && (((readS ((sendS u0).1)).2.2) == 0)) && (((BitsS q146).1) == ((sendS u0).1)))) (nog rfl _) rfl (by kernel_rfl) (fun v246 hC => pk_and hF245 (g := []) (m := 1) (b := (((BitsS q146).2) == 0) && (((readS ((sendS u0).1)).2.2) == 0)) (v := ((BitsS q146).1) == ((sendS u0).1)) rfl (by kernel_rfl) (by kernel_rfl) (by kernel_rfl) rfl) ?_; intro a247 hF248; clear hF245
     refine q1 hF248 72 (.bool (((((BitsS q146).2) == 0) && (((readS ((sendS u0).1)).2.2) == 0)) && (((BitsS q146).1) == ((sendS u0).1)))) ?_; intro a250 hF251; clear hF248
     have hF252 := hF251.atom ((((((BitsS q146).2) == 0) && (((readS ((sendS u0).1)).2.2) == 0)) && (((BitsS q146).1) == ((sendS u0).1))) == true) (by kernel_rfl); clear hF251
     refine qgd hF252 (.int .i64 ((readS ((sendS u0).1)).2.1)) (m := 2) (cj := []) (bj := ((((BitsS q146).2) == 0) && (((readS ((sendS u0).1)).2.2) == 0)) && (((BitsS q146).1) == ((sendS u0).1))) rfl rfl (by kernel_rfl) rfl (by kernel_rfl) (by kernel_rfl) (by kernel_rfl) (fun hg => qat_ok (fun v253 hC => pu hF252 (g := [2]) (by kernel_rfl) hg)) ?_; intro a254 hF255; clear hF252
     refine qgd hF255 (str ((sendS u0).1)) (m := 2) (cj := []) (bj := ((((BitsS q146).2) == 0) && (((readS ((sendS u0).1)).2.2) == 0)) && (((BitsS q146).1) == ((sendS u0).1))) rfl rfl (by kernel_rfl) rfl (by kernel_rfl) (by kernel_rfl) (by kernel_rfl) (fun hg => qat_ok (fun v256 hC => pu hF255 (g := [2]) (by kernel_rfl) hg)) ?_; intro a257 hF258; clear hF255
     refine qgd hF258 (.int .i64 (((sendS u0).1).length : Int)) (m := 2) (cj := []) (bj := ((((BitsS q146).2) == 0) && (((readS ((sendS u0).1)).2.2) == 0)) && (((BitsS q146).1) == ((sendS u0).1))) rfl rfl (by kernel_rfl) rfl (by kernel_rfl) (by kernel_rfl) (by kernel_rfl) (fun hg => qat_ok (fun v259 hC => pu hF258 (g := [2]) (by kernel_rfl) hg)) ?_; intro a260 hF261; clear hF258
     refine qgd hF261 (.bool (((readS ((sendS u0).1)).2.1) == (((sendS u0).1).length : Int))) (m := 2) (cj := []) (bj := ((((BitsS q146).2) == 0) && (((readS ((sendS u0).1)).2.2) == 0)) && (((BitsS q146).1) == ((sendS u0).1))) rfl rfl (by kernel_rfl) rfl (by kernel_rfl) (by kernel_rfl) (by kernel_rfl) (fun hg => qat_ok (fun v262 hC => pu hF261 (g := [2]) (by kernel_rfl) hg)) ?_; intro a263 hF264; clear hF261
     refine qst hF264 (.bool ((((((BitsS q146).2) == 0) && (((readS ((sendS u0).1)).2.2) == 0)) && (((BitsS q146).1) == ((sendS u0).1))) && (((readS ((sendS u0).1)).2.1) == (((sendS u0).1).length : Int)))) (nog rfl _) rfl (by kernel_rfl) (fun v265 hC => pk_and hF264 (g := []) (m := 2) (b := ((((BitsS q146).2) == 0) && (((readS ((sendS u0).1)).2.2) == 0)) && (((BitsS q146).1) == ((sendS u0).1))) (v := ((readS ((sendS u0).1)).2.1) == (((sendS u0).1).length : Int)) rfl (by kernel_rfl) (by kernel_rfl) (by kernel_rfl) rfl) ?_; intro a266 hF267; clear hF264
     have hF268 := hF267.reval (d := 77) (c := []) (v := .bool ((((((BitsS q146).2) == 0) && (((readS ((sendS u0).1)).2.2) == 0)) && (((BitsS q146).1) == ((sendS u0).1))) && (((readS ((sendS u0).1)).2.1) == (((sendS u0).1).length : Int)))) (by kernel_rfl) (.bool true) (by rw [hb210]); clear hF267
     refine q1 hF268 78 (.bool true) ?_; intro a270 hF271; clear hF268
     refine qst hF271 (.agg #[.int .i64 (((readS ((sendS u0).1)).1).ID), .bool (((readS ((sendS u0).1)).1).Long), .bool (((readS ((sendS u0).1)).1).Fast), .bool (((readS ((sendS u0).1)).1).Remote), .int .i64 (((readS ((sendS u0).1)).1).Size), .slice ao182 (((readS ((sendS u0).1)).1).Data).length cap183]) (by rw [wanted_of hF271 (b := true) rfl rfl (by kernel_rfl) (by kernel_rfl)]; rfl) rfl (by kernel_rfl) (fun v272 hC => lda hF271 hC 0 (g := []) (b := b197) (off := 0) (k := 6) (cs := [.int .i64 (((readS ((sendS u0).1)).1).ID), .bool (((readS ((sendS u0).1)).1).Long), .bool (((readS ((sendS u0).1)).1).Fast), .bool (((readS ((sendS u0).1)).1).Remote), .int .i64 (((readS ((sendS u0).1)).1).Size), .slice ao182 (((readS ((sendS u0).1)).1).Data).length cap183]) (vs := [.int .i64 (((readS ((sendS u0).1)).1).ID), .bool (((readS ((sendS u0).1)).1).Long), .bool (((readS ((sendS u0).1)).1).Fast), .bool (((readS ((sendS u0).1)).1).Remote), .int .i64 (((readS ((sendS u0).1)).1).Size), .slice ao182 (((readS ((sendS u0).1)).1).Data).length cap183]) (ty := 24) rfl (by kernel_rfl) (by kernel_rfl) (by kernel_rfl) (by kernel_rfl) (by kernel_rfl) rfl) ?_; intro a273 hF274; clear hF271
     refine qst hF274 (.slice ao1 u0.length cap2) (by rw [wanted_of hF274 (b := true) rfl rfl (by kernel_rfl) (by kernel_rfl)]; rfl) rfl (by kernel_rfl) (fun v275 hC => p0 hF274 (by kernel_rfl)) ?_; intro a276 hF277; clear hF274
     refine qst hF277 (.int .i64 ((sendS u0).2.1)) (by rw [wanted_of hF277 (b := true) rfl rfl (by kernel_rfl) (by kernel_rfl)]; rfl) rfl (by kernel_rfl) (fun v278 hC => p0 hF277 (by kernel_rfl)) ?_; intro a279 hF280; clear hF277
     have hc282 := hp211.1; have hp283 := hp211.2; clear hp211
     refine qix hF280 (T := tyFrame) (xs := u0) hs3 ((sendS u0).2.1) hc282 (k := .i64) (e := 24) (bytes := 48) (by rw [wanted_of hF280 (b := true) rfl rfl (by kernel_rfl) (by kernel_rfl)]; rfl) rfl (by kernel_rfl) rfl (by kernel_rfl) (by kernel_rfl) (by kernel_rfl) ?_; intro b284 off285 cs286 q287 a291 hq288 hP289 hT290 hF292; clear hF280
     have hp293 := hp283 q287 hq288; clear hp283
     obtain ⟨ao294, cap295, rfl, hs296⟩ := hT290
     have hp297 := hp293 (hs296.small); clear hp293
     refine qst hF292 (.agg #[.int .i64 q287.ID, .bool q287.Long, .bool q287.Fast, .bool q287.Remote, .int .i64 q287.Size, .slice ao294 q287.Data.length cap295]) (by rw [wanted_of hF292 (b := true) rfl rfl (by kernel_rfl) (by kernel_rfl)]; rfl) rfl (by kernel_rfl) (fun v298 hC => lza hF292 hC.fz hP289 0 (g := []) (m := 6) (vs := [.int .i64 q287.ID, .bool q287.Long, .bool q287.Fast, .bool q287.Remote, .int .i64 q287.Size, .slice ao294 q287.Data.length cap295]) rfl (by kernel_rfl) (by kernel_rfl) (by kernel_rfl) (by kernel_rfl) rfl) ?_; intro a299 hF300; clear hF292
     refine qcl hF300 (.bool (sameS ((readS ((sendS u0).1)).1) q287)) 13 #[.agg #[.int .i64 (((readS ((sendS u0).1)).1).ID), .bool (((readS ((sendS u0).1)).1).Long), .bool (((readS ((sendS u0).1)).1).Fast), .bool (((readS ((sendS u0).1)).1).Remote), .int .i64 (((readS ((sendS u0).1)).1).Size), .slice ao182 (((readS ((sendS u0).1)).1).Data).length cap183], .agg #[.int .i64 q287.ID, .bool q287.Long, .bool q287.Fast, .bool q287.Remote, .int .i64 q287.Size, .slice ao294 q287.Data.length cap295]] (by rw [wanted_of hF300 (b := true) rfl rfl (by kernel_rfl) (by kernel_rfl)]; rfl) rfl (by kernel_rfl) (fun _ => by kernel_rfl) (qfc fun w hC => fSame_fun ((readS ((sendS u0).1)).1) q287 ao182 cap183 ao294 cap295 _ _ hs184 hs296 hC.fz) ?_; intro a302 hF303; clear hF300
     refine q1 hF303 85 (.bool (sameS ((readS ((sendS u0).1)).1) q287)) ?_; intro a305 hF306; clear hF303
     refine q1 hF306 2 (.bool (sameS ((readS ((sendS u0).1)).1) q287)) ?_; intro a308 hF309; clear hF306
     refine qnl (hQ213 _ ?_); clear hQ213 hQ213Q; intro wd310 hM311; clear hM208
     refine wp_ret ?_
     refine rt (fn := Tryd.f8) (v := .bool (sameS ((readS ((sendS u0).1)).1) q287)) hF309 (re1 hF309 (fn := Tryd.f8) rfl (by kernel_rfl)) ?_
     exact ⟨(sameS ((readS ((sendS u0).1)).1) q287), rfl, hp297, hM311.below⟩
    · -- false
     have hp312 := hp188.2 hb210; clear hp188
     have hF313 : Fr 86 [] [⟨0, [], .slice ao1 u0.length cap2⟩, ⟨3, [], str ((sendS u0).1)⟩, ⟨4, [], .int .i64 ((sendS u0).2.1)⟩, ⟨6, [], .int .i64 ((BitsS q146).2)⟩, ⟨8, [], .int .i64 ((readS ((sendS u0).1)).2.2)⟩, ⟨9, [], str ((BitsS q146).1)⟩, ⟨10, [], .pointer (some ⟨b197, 0, none⟩)⟩, ⟨11, [], .int .i64 ((readS ((sendS u0).1)).2.1)⟩] a206 := hF209.region (by kernel_rfl) (by kernel_rfl); clear hF209
     refine sqQH mixed (by kernel_rfl) hM208 ?_; intro hQ314Q hQ314
     refine q1 hF313 61 (.int .i64 ((BitsS q146).2)) ?_; intro a316 hF317; clear hF313
     refine q1 hF317 62 (.bool (((BitsS q146).2) == 0)) ?_; intro a319 hF320; clear hF317
     refine q1 hF320 63 (.bool (((BitsS q146).2) == 0)) ?_; intro a322 hF323; clear hF320
     have hF324 := hF323.atom ((((BitsS q146).2) == 0) == true) (by kernel_rfl); clear hF323
     refine qgd hF324 (.int .i64 ((readS ((sendS u0).1)).2.2)) (m := 0) (cj := []) (bj := ((BitsS q146).2) == 0) rfl rfl (by kernel_rfl) rfl (by kernel_rfl) (by kernel_rfl) (by kernel_rfl) (fun hg => qat_ok (fun v325 hC => pu hF324 (g := [0]) (by kernel_rfl) hg)) ?_; intro a326 hF327; clear hF324
     refine qgd hF327 (.bool (((readS ((sendS u0).1)).2.2) == 0)) (m := 0) (cj := []) (bj := ((BitsS q146).2) == 0) rfl rfl (by kernel_rfl) rfl (by kernel_rfl) (by kernel_rfl) (by kernel_rfl) (fun hg => qat_ok (fun v328 hC => pu hF327 (g := [0]) (by kernel_rfl) hg)) ?_; intro a329 hF330; clear hF327
     refine qst hF330 (.bool ((((BitsS q146).2) == 0) && (((readS ((sendS u0).1)).2.2) == 0))) (nog rfl _) rfl (by kernel_rfl) (fun v331 hC => pk_and hF330 (g := []) (m := 0) (b := ((BitsS q146).2) == 0) (v := ((readS ((sendS u0).1)).2.2) == 0) rfl (by kernel_rfl) (by kernel_rfl) (by kernel_rfl) rfl) ?_; intro a332 hF333; clear hF330
     refine q1 hF333 67 (.bool ((((BitsS q146).2) == 0) && (((readS ((sendS u0).1)).2.2) == 0))) ?_; intro a335 hF336; clear hF333
     have hF337 := hF336.atom (((((BitsS q146).2) == 0) && (((readS ((sendS u0).1)).2.2) == 0)) == true) (by kernel_rfl); clear hF336
     refine qgd hF337 (str ((BitsS q146).1)) (m := 1) (cj := []) (bj := (((BitsS q146).2) == 0) && (((readS ((sendS u0).1)).2.2) == 0)) rfl rfl (by kernel_rfl) rfl (by kernel_rfl) (by kernel_rfl) (by kernel_rfl) (fun hg => qat_ok (fun v338 hC => pu hF337 (g := [1]) (by kernel_rfl) hg)) ?_; intro a339 hF340; clear hF337
     refine qgd hF340 (str ((sendS u0).1)) (m := 1) (cj := []) (bj := (((BitsS q146).2) == 0) && (((readS ((sendS u0).1)).2.2) == 0)) rfl rfl (by kernel_rfl) rfl (by kernel_rfl) (by kernel_rfl) (by kernel_rfl) (fun hg => qat_ok (fun v341 hC => pu hF340 (g := [1]) (by kernel_rfl) hg)) ?_; intro a342 hF343; clear hF340
     refine qgd hF343 (.bool (((BitsS q146).1) == ((sendS u0).1))) (m := 1) (cj := []) (bj := (((BitsS q146).2) == 0) && (((readS ((sendS u0).1)).2.2) == 0)) rfl rfl (by kernel_rfl) rfl (by kernel_rfl) (by kernel_rfl) (by kernel_rfl) (fun hg => qat_ok (fun v344 hC => strcmp_run hF343 (g := [1]) (op := .eql) rfl (by kernel_rfl) (by kernel_rfl) (by decide) hg)) ?_; intro a345 hF346; clear hF343
     refine qst hF346 (.bool (((((BitsS q146).2) == 0) && (((readS ((sendS u0).1)).2.2) == 0)) && (((BitsS q146).1) == ((sendS u0).1)))) (nog rfl _) rfl (by kernel_rfl) (fun v347 hC => pk_and hF346 (g := []) (m := 1) (b := (((BitsS q146).2) == 0) && (((readS ((sendS u0).1)).2.2) == 0)) (v := ((BitsS q146).1) == ((sendS u0).1)) rfl (by kernel_rfl) (by kernel_rfl) (by kernel_rfl) rfl) ?_; intro a348 hF349; clear hF346
     refine q1 hF349 72 (.bool (((((BitsS q146).2) == 0) && (((readS ((sendS u0).1)).2.2) == 0)) && (((BitsS q146).1) == ((sendS u0).1)))) ?_; intro a351 hF352; clear hF349
     have hF353 := hF352.atom ((((((BitsS q146).2) == 0) && (((readS ((sendS u0).1)).2.2) == 0)) && (((BitsS q146).1) == ((sendS u0).1))) == true) (by kernel_rfl); clear hF352
     refine qgd hF353 (.int .i64 ((readS ((sendS u0).1)).2.1)) (m := 2) (cj := []) (bj := ((((BitsS q146).2) == 0) && (((readS ((sendS u0).1)).2.2) == 0)) && (((BitsS q146).1) == ((sendS u0).1))) rfl rfl (by kernel_rfl) rfl (by kernel_rfl) (by kernel_rfl) (by kernel_rfl) (fun hg => qat_ok (fun v354 hC => pu hF353 (g := [2]) (by kernel_rfl) hg)) ?_; intro a355 hF356; clear hF353
     refine qgd hF356 (str ((sendS u0).1)) (m := 2) (cj := []) (bj := ((((BitsS q146).2) == 0) && (((readS ((sendS u0).1)).2.2) == 0)) && (((BitsS q146).1) == ((sendS u0).1))) rfl rfl (by kernel_rfl) rfl (by kernel_rfl) (by kernel_rfl) (by kernel_rfl) (fun hg => qat_ok (fun v357 hC => pu hF356 (g := [2]) (by kernel_rfl) hg)) ?_; intro a358 hF359; clear hF356
     refine qgd hF359 (.int .i64 (((sendS u0).1).length : Int)) (m := 2) (cj := []) (bj := ((((BitsS q146).2) == 0) && (((readS ((sendS u0).1)).2.2) == 0)) && (((BitsS q146).1) == ((sendS u0).1))) rfl rfl (by kernel_rfl) rfl (by kernel_rfl) (by kernel_rfl) (by kernel_rfl) (fun hg => qat_ok (fun v360 hC => pu hF359 (g := [2]) (by kernel_rfl) hg)) ?_; intro a361 hF362; clear hF359
     refine qgd hF362 (.bool (((readS ((sendS u0).1)).2.1) == (((sendS u0).1).length : Int))) (m := 2) (cj := []) (bj := ((((BitsS q146).2) == 0) && (((readS ((sendS u0).1)).2.2) == 0)) && (((BitsS q146).1) == ((sendS u0).1))) rfl rfl (by kernel_rfl) rfl (by kernel_rfl) (by kernel_rfl) (by kernel_rfl) (fun hg => qat_ok (fun v363 hC => pu hF362 (g := [2]) (by kernel_rfl) hg)) ?_; intro a364 hF365; clear hF362
     refine qst hF365 (.bool ((((((BitsS q146).2) == 0) && (((readS ((sendS u0).1)).2.2) == 0)) && (((BitsS q146).1) == ((sendS u0).1))) && (((readS ((sendS u0).1)).2.1) == (((sendS u0).1).length : Int)))) (nog rfl _) rfl (by kernel_rfl) (fun v366 hC => pk_and hF365 (g := []) (m := 2) (b := ((((BitsS q146).2) == 0) && (((readS ((sendS u0).1)).2.2) == 0)) && (((BitsS q146).1) == ((sendS u0).1))) (v := ((readS ((sendS u0).1)).2.1) == (((sendS u0).1).length : Int)) rfl (by kernel_rfl) (by kernel_rfl) (by kernel_rfl) rfl) ?_; intro a367 hF368; clear hF365
     have hF369 := hF368.reval (d := 77) (c := []) (v := .bool ((((((BitsS q146).2) == 0) && (((readS ((sendS u0).1)).2.2) == 0)) && (((BitsS q146).1) == ((sendS u0).1))) && (((readS ((sendS u0).1)).2.1) == (((sendS u0).1).length : Int)))) (by kernel_rfl) (.bool false) (by rw [hb210]); clear hF368
     refine q1 hF369 78 (.bool false) ?_; intro a371 hF372; clear hF369
     refine qsk hF372 (b := false) rfl rfl (by kernel_rfl) (by kernel_rfl) rfl rfl (by kernel_rfl) ?_; intro a373 hF374; clear hF372
     refine qsk hF374 (b := false) rfl rfl (by kernel_rfl) (by kernel_rfl) rfl rfl (by kernel_rfl) ?_; intro a375 hF376; clear hF374
     refine qsk hF376 (b := false) rfl rfl (by kernel_rfl) (by kernel_rfl) rfl rfl (by kernel_rfl) ?_; intro a377 hF378; clear hF376
     refine qsk hF378 (b := false) rfl rfl (by kernel_rfl) (by kernel_rfl) rfl rfl (by kernel_rfl) ?_; intro a379 hF380; clear hF378
     refine qsk hF380 (b := false) rfl rfl (by kernel_rfl) (by kernel_rfl) rfl rfl (by kernel_rfl) ?_; intro a381 hF382; clear hF380
     refine qsk hF382 (b := false) rfl rfl (by kernel_rfl) (by kernel_rfl) rfl rfl (by kernel_rfl) ?_; intro a383 hF384; clear hF382
     refine q1 hF384 85 (.bool false) ?_; intro a386 hF387; clear hF384
     refine q1 hF387 2 (.bool false) ?_; intro a389 hF390; clear hF387
     refine qnl (hQ314 _ ?_); clear hQ314 hQ314Q; intro wd391 hM392; clear hM208
     refine wp_ret ?_
     refine rt (fn := Tryd.f8) (v := .bool false) hF390 (re1 hF390 (fn := Tryd.f8) rfl (by kernel_rfl)) ?_
     exact ⟨false, rfl, hp312, hM392.below⟩

end Go.Proofs.YtmbdcehmeiiaoaaDoor
