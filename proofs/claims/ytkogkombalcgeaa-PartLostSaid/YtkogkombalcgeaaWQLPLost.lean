/- The walks, made by program: each call does what its pure predicate says. -/
import Derived.Test.YtkogkombalcgeaaWQ
set_option linter.unusedVariables false
set_option linter.unusedSimpArgs false
namespace Go.Proofs.Ytkogkombalcgeaa
open Go.Sy Go.RowKit
set_option maxRecDepth 100000 in
theorem LPLost_walk (u0 : List Int) (u1 : Int) (ao1 : Option Addr) (cap2 : Nat) (Z : Fz) (w : World) (hs3 : SlR (tyInt .u8) Z ao1 cap2 u0) (hZ : Z.on w) {K : Bool → Prop} (hp : LPLost_vc u0 u1 K) : Calls Try.prog 11 #[.slice ao1 u0.length cap2, .int .i64 u1] w fun e w' => ∃ r : Bool, e = .returned (.bool r) ∧ K r ∧ Below w.heap.size w w' := by
 refine enter0 Try.func11 rfl rfl (by kernel_rfl) ?_; intro a0 hF0; have hM0 := Mem.start w Z hZ; have hle0 := Fz.le.refl Z
 have hp4 := hp (hs3.small); clear hp
 refine sqH ?_; intro hQ5Q hQ5
 refine s1 hF0 4 (.bool false) ?_; intro a6 hF7; clear hF0
 refine nlH (hQ5 _ _ ?_); clear hQ5 hQ5Q
 refine sqH ?_; intro hQ8Q hQ8
 refine s1 hF7 15 (.slice ao1 u0.length cap2) ?_; intro a9 hF10; clear hF7
 refine cl hF10 40 #[.slice ao1 u0.length cap2] (nog rfl _) rfl (by kernel_rfl) (by kernel_rfl) ?_
 refine (psplit_fun u0 ao1 cap2 _ _ hs3 hM0.fz).mono ?_; rintro _ wd11 ⟨ao15, cap16, Z17, rfl, hm⟩; refine ⟨_, rfl, ?_⟩; intro a12 hF13; have hM14 := hM0.callZ hm; have hle18 := hm.ext.le; clear hm hM0 hF10
 replace hs3 := hs3.mono hle18
 replace hle0 := Fz.le.trans hle0 hle18
 have hM19 : Mem w.heap.size [] w Z [.own (tySl (tyInt .u8)) 36 ao15 cap16 ((psplitS u0).1)] Z17 wd11 := hM14; clear hM14
 have hp20 := hp4 (hM19.ownSmall 0 rfl); clear hp4
 refine s1 hF13 14 (.tuple #[.slice ao15 ((psplitS u0).1).length cap16, .int .i64 ((psplitS u0).2)]) ?_; intro a21 hF22; clear hF13
 refine s1 hF22 17 (.slice ao15 ((psplitS u0).1).length cap16) ?_; intro a23 hF24; clear hF22
 refine s1 hF24 18 (.int .i64 ((psplitS u0).2)) ?_; intro a25 hF26; clear hF24
 refine s1 hF26 5 (.slice ao15 ((psplitS u0).1).length cap16) ?_; intro a27 hF28; clear hF26
 refine s1 hF28 6 (.int .i64 ((psplitS u0).2)) ?_; intro a29 hF30; clear hF28
 refine nlH (hQ8 _ _ ?_); clear hQ8 hQ8Q
 refine wp_seq ?_
 refine sqH ?_; intro hQ31Q hQ31
 refine fcl hF30 hM19 (.bool true) 33 #[] (nog rfl _) rfl (by kernel_rfl) (fun _ => by kernel_rfl) (parted_fun  _ _ hM19.fz) ?_; intro a32 wd34 hF33 hM35; clear hF30 hM19
 refine s1 hF33 20 (.bool false) ?_; intro a36 hF37; clear hF33
 refine s1 hF37 21 (.bool false) ?_; intro a38 hF39; clear hF37
 refine st hF39 (.int .i64 ((psplitS u0).2)) (by rw [wanted_of hF39 (b := false) rfl rfl (by kernel_rfl) (by kernel_rfl)]; rfl) rfl (by kernel_rfl) (p0 hF39 (by kernel_rfl)) ?_; intro a40 hF41; clear hF39
 refine st hF41 (.bool (((psplitS u0).2) != 0)) (by rw [wanted_of hF41 (b := false) rfl rfl (by kernel_rfl) (by kernel_rfl)]; rfl) rfl (by kernel_rfl) (p0 hF41 (by kernel_rfl)) ?_; intro a42 hF43; clear hF41
 refine s1 hF43 24 (.bool (((psplitS u0).2) != 0)) ?_; intro a44 hF45; clear hF43
 refine s1 hF45 25 (.bool (((psplitS u0).2) != 0)) ?_; intro a46 hF47; clear hF45
 have hF48 := hF47.atom ((((psplitS u0).2) != 0) == false) (by kernel_rfl); clear hF47
 refine gp hF48 26 0 [] (((psplitS u0).2) != 0) (.slice ao15 ((psplitS u0).1).length cap16) rfl rfl ?_; intro a49 hF50; clear hF48
 refine gp hF50 27 0 [] (((psplitS u0).2) != 0) (.int .i64 (((psplitS u0).1).length : Int)) rfl rfl ?_; intro a51 hF52; clear hF50
 refine gp hF52 28 0 [] (((psplitS u0).2) != 0) (.bool (decide ((((psplitS u0).1).length : Int) < 3))) rfl rfl ?_; intro a53 hF54; clear hF52
 refine st hF54 (.bool ((((psplitS u0).2) != 0) || (decide ((((psplitS u0).1).length : Int) < 3)))) (nog rfl _) rfl (by kernel_rfl) (pk_or hF54 (g := []) (m := 0) (b := ((psplitS u0).2) != 0) (v := decide ((((psplitS u0).1).length : Int) < 3)) rfl (by kernel_rfl) (by kernel_rfl) (by kernel_rfl) rfl) ?_; intro a55 hF56; clear hF54
 refine nlH (hQ31 _ _ ?_); clear hQ31 hQ31Q
 refine cd hF56 (t := (((psplitS u0).2) != 0) || (decide ((((psplitS u0).1).length : Int) < 3))) (by kernel_rfl) (fun hb57 => ?_) (fun hb57 => ?_)
 · -- yes
  have hp58 := hp20.1 hb57; clear hp20
  have hF59 : Fr 73 [] [] a55 := hF56.region (by kernel_rfl) (by kernel_rfl); clear hF56
  refine sqH ?_; intro hQ60Q hQ60
  refine fcl hF59 hM35 (.bool true) 33 #[] (nog rfl _) rfl (by kernel_rfl) (fun _ => by kernel_rfl) (parted_fun  _ _ hM35.fz) ?_; intro a61 wd63 hF62 hM64; clear hF59 hM35
  refine s1 hF62 4 (.bool true) ?_; intro a65 hF66; clear hF62
  refine nlH (hQ60 _ _ ?_); clear hQ60 hQ60Q
  refine wp_ret ?_
  refine thr ?_
  refine rt (fn := Try.f11) (v := .bool true) hF66 (re1 hF66 (fn := Try.f11) rfl (by kernel_rfl)) ?_
  exact ⟨true, rfl, hp58, hM64.below⟩
 · -- no
  have hp67 := hp20.2 hb57; clear hp20
  refine wp_skip ?_
  refine thn ?_
  refine wp_seq ?_
  have hF68 : Fr 73 [] [⟨1, [], .int .i64 u1⟩, ⟨5, [], .slice ao15 ((psplitS u0).1).length cap16⟩] a55 := hF56.region (by kernel_rfl) (by kernel_rfl); clear hF56
  refine sqH ?_; intro hQ69Q hQ69
  refine s1 hF68 31 (.int .i64 u1) ?_; intro a70 hF71; clear hF68
  refine s1 hF71 32 (.bool (decide (u1 < 1))) ?_; intro a72 hF73; clear hF71
  refine s1 hF73 33 (.bool (decide (u1 < 1))) ?_; intro a74 hF75; clear hF73
  have hF76 := hF75.atom ((decide (u1 < 1)) == false) (by kernel_rfl); clear hF75
  refine gp hF76 34 0 [] (decide (u1 < 1)) (.int .i64 u1) rfl rfl ?_; intro a77 hF78; clear hF76
  refine gp hF78 35 0 [] (decide (u1 < 1)) (.slice ao15 ((psplitS u0).1).length cap16) rfl rfl ?_; intro a79 hF80; clear hF78
  refine gp hF80 36 0 [] (decide (u1 < 1)) (.int .i64 (((psplitS u0).1).length : Int)) rfl rfl ?_; intro a81 hF82; clear hF80
  refine gp hF82 37 0 [] (decide (u1 < 1)) (.int .i64 (w64 ((((psplitS u0).1).length : Int) - 1))) rfl rfl ?_; intro a83 hF84; clear hF82
  refine gp hF84 38 0 [] (decide (u1 < 1)) (.bool (decide (u1 ≥ (w64 ((((psplitS u0).1).length : Int) - 1))))) rfl rfl ?_; intro a85 hF86; clear hF84
  refine st hF86 (.bool ((decide (u1 < 1)) || (decide (u1 ≥ (w64 ((((psplitS u0).1).length : Int) - 1)))))) (nog rfl _) rfl (by kernel_rfl) (pk_or hF86 (g := []) (m := 0) (b := decide (u1 < 1)) (v := decide (u1 ≥ (w64 ((((psplitS u0).1).length : Int) - 1)))) rfl (by kernel_rfl) (by kernel_rfl) (by kernel_rfl) rfl) ?_; intro a87 hF88; clear hF86
  refine nlH (hQ69 _ _ ?_); clear hQ69 hQ69Q
  refine cd hF88 (t := (decide (u1 < 1)) || (decide (u1 ≥ (w64 ((((psplitS u0).1).length : Int) - 1))))) (by kernel_rfl) (fun hb89 => ?_) (fun hb89 => ?_)
  · -- yes
   have hp90 := hp67.1 hb89; clear hp67
   have hF91 : Fr 73 [] [⟨5, [], .slice ao15 ((psplitS u0).1).length cap16⟩] a87 := hF88.region (by kernel_rfl) (by kernel_rfl); clear hF88
   refine rgH ?_; intro hQ92Q hQ92
   refine s1 hF91 1 (.int .i64 1) ?_; intro a93 hF94; clear hF91
   refine nlH (hQ92 _ _ ?_); clear hQ92 hQ92Q
   refine thn ?_
   refine sqH ?_; intro hQ95Q hQ95
   refine s1 hF94 40 (.agg #[.int .i64 0, .slice none 0 0, .int .i64 0, .int .i64 0, .int .i64 0]) ?_; intro a96 hF97; clear hF94
   refine sn hF97 hM35 (fun b => .pointer (some ⟨b, 0, none⟩)) [.int .i64 0, .slice none 0 0, .int .i64 0, .int .i64 0, .int .i64 0] 71 (nog rfl _) rfl (by kernel_rfl) (by kernel_rfl) ?_; intro b98 a99 wd101 hF100 hM102; clear hF97 hM35
   refine sr hF100 hM102 0 [.int .i64 0, .slice none 0 0, .int .i64 0, .int .i64 0, .int .i64 0] (b := b98) (off := 0) (cs := [.int .i64 0, .slice none 0 0, .int .i64 0, .int .i64 0, .int .i64 0]) (ty := 71) (u := .agg #[.int .i64 0, .slice none 0 0, .int .i64 0, .int .i64 0, .int .i64 0]) (nog rfl _) rfl rfl (by kernel_rfl) (by kernel_rfl) (by kernel_rfl) (by kernel_rfl) (by kernel_rfl) (by kernel_rfl) (by kernel_rfl) ?_; intro wd103 hM104; clear hM102
   have hM105 : Mem w.heap.size [] w Z [.row b98 [.int .i64 0, .slice none 0 0, .int .i64 0, .int .i64 0, .int .i64 0] 71, .own (tySl (tyInt .u8)) 36 ao15 cap16 ((psplitS u0).1)] Z17 wd103 := hM104; clear hM104
   refine nlH (hQ95 _ _ ?_); clear hQ95 hQ95Q
   refine wp_seq ?_
   refine sqH ?_; intro hQ106Q hQ106
   refine s1 hF100 41 (.slice ao15 ((psplitS u0).1).length cap16) ?_; intro a107 hF108; clear hF100
   refine s1 hF108 42 (.int .i64 (((psplitS u0).1).length : Int)) ?_; intro a109 hF110; clear hF108
   refine s1 hF110 43 (.int .i64 0) ?_; intro a111 hF112; clear hF110
   refine nlH (hQ106 _ _ ?_); clear hQ106 hQ106Q
   refine wp_block ?_
   have hF113 : Fr 73 [] [⟨1, [], .int .i64 1⟩, ⟨7, [], .pointer (some ⟨b98, 0, none⟩)⟩, ⟨41, [], .slice ao15 ((psplitS u0).1).length cap16⟩, ⟨42, [], .int .i64 (((psplitS u0).1).length : Int)⟩, ⟨43, [], .int .i64 0⟩] a111 := hF112.region (by kernel_rfl) (by kernel_rfl); clear hF112
   obtain ⟨Z115, hle116, hM117, hs118⟩ := hM105.freeze 1 rfl
   replace hs3 := hs3.mono hle116
   replace hle0 := Fz.le.trans hle0 hle116
   have hM119 : Mem w.heap.size [] w Z [.row b98 [.int .i64 0, .slice none 0 0, .int .i64 0, .int .i64 0, .int .i64 0] 71] Z115 wd103 := hM117; clear hM117
   have hF120 : Fr 73 [] [⟨1, [], .int .i64 1⟩, ⟨7, [], .pointer (some ⟨b98, 0, none⟩)⟩, ⟨41, [], .slice ao15 ((psplitS u0).1).length cap16⟩, ⟨42, [], .int .i64 (((psplitS u0).1).length : Int)⟩, ⟨43, [], .int .i64 0⟩] a111 := hF113.region (by kernel_rfl) (by kernel_rfl); clear hF113
   obtain ⟨inv114, mu114, hI123, hr122⟩ := hp90
   have hle124 := hle0
   refine lp (ι := Int × Getter × (Option Addr) × Nat × Fz) (fun (s : Int × Getter × (Option Addr) × Nat × Fz) => [⟨1, [], .int .i64 1⟩, ⟨7, [], .pointer (some ⟨b98, 0, none⟩)⟩, ⟨41, [], .slice ao15 ((psplitS u0).1).length cap16⟩, ⟨42, [], .int .i64 (((psplitS u0).1).length : Int)⟩, ⟨43, [], .int .i64 s.1⟩]) (fun (s : Int × Getter × (Option Addr) × Nat × Fz) => [.row b98 [.int .i64 s.2.1.Want, .slice s.2.2.1 s.2.1.Data.length s.2.2.2.1, .int .i64 s.2.1.Next, .int .i64 s.2.1.Block, .int .i64 s.2.1.Left] 71]) (fun (s : Int × Getter × (Option Addr) × Nat × Fz) => s.2.2.2.2) (fun (s : Int × Getter × (Option Addr) × Nat × Fz) => inv114 s.1 s.2.1 ∧ SlR (tyInt .u8) s.2.2.2.2 s.2.2.1 s.2.2.2.1 s.2.1.Data ∧ Fz.le Z115 s.2.2.2.2) (fun (s : Int × Getter × (Option Addr) × Nat × Fz) => mu114 s.1 s.2.1) ⟨0, (⟨0, [], 0, 0, 0⟩ : Getter), none, 0, Z115⟩ ⟨hI123, (SlR.nil _ _), Fz.le.refl _⟩ (by exact hF120.region (by kernel_rfl) (by kernel_rfl)) (by exact hM119) ?_
   rintro ⟨x43, yb98, aoyb98_0, capyb98_0, ZL114⟩ ⟨hI121, hsyb98_0, hleL114⟩ a125 wd126 hF127 hM128
   have hF129 : Fr 73 [] [⟨1, [], .int .i64 1⟩, ⟨7, [], .pointer (some ⟨b98, 0, none⟩)⟩, ⟨41, [], .slice ao15 ((psplitS u0).1).length cap16⟩, ⟨42, [], .int .i64 (((psplitS u0).1).length : Int)⟩, ⟨43, [], .int .i64 x43⟩] a125 := hF127; clear hF127 hF120
   have hM130 : Mem w.heap.size [] w Z [.row b98 [.int .i64 yb98.Want, .slice aoyb98_0 yb98.Data.length capyb98_0, .int .i64 yb98.Next, .int .i64 yb98.Block, .int .i64 yb98.Left] 71] ZL114 wd126 := hM128; clear hM128 hM119
   have hp131 := hr122 x43 yb98 hI121
   replace hle0 := Fz.le.trans hle0 hleL114
   have hs132 := hs3.mono hleL114
   have hs133 := hs118.mono hleL114
   refine sqH ?_; intro hQ134Q hQ134
   refine s1 hF129 44 (.bool (decide (x43 < (((psplitS u0).1).length : Int)))) ?_; intro a135 hF136; clear hF129
   refine nlH (hQ134 _ _ ?_); clear hQ134 hQ134Q
   refine wp_seq ?_
   refine cd hF136 (t := decide (x43 < (((psplitS u0).1).length : Int))) (by kernel_rfl) (fun hb137 => ?_) (fun hb137 => ?_)
   · -- yes
    have hp138 := hp131.1 hb137; clear hp131
    refine wp_skip ?_
    refine thn ?_
    refine wp_seq ?_
    refine wp_block ?_
    refine sqH ?_; intro hQ139Q hQ139
    refine s1 hF136 45 (.int .i64 x43) ?_; intro a140 hF141; clear hF136
    have hc142 := hp138.1; have hp143 := hp138.2; clear hp138
    refine ix hF141 (T := (tySl (tyInt .u8))) (xs := (psplitS u0).1) hs133 x43 hc142 (k := .i64) (e := 36) (bytes := 24) (nog rfl _) rfl (by kernel_rfl) rfl (by kernel_rfl) (by kernel_rfl) (by kernel_rfl) ?_; intro b144 off145 cs146 q147 a151 hq148 hP149 hT150 hF152; clear hF141
    have hp153 := hp143 q147 hq148; clear hp143
    obtain ⟨ao154, cap155, rfl, hs156⟩ := hT150
    have hp157 := hp153 (hs156.small); clear hp153
    refine z1 hF152 hM130 47 hP149 0 (.slice ao154 q147.length cap155) rfl ?_; intro a158 hF159; clear hF152
    refine s1 hF159 8 (.int .i64 x43) ?_; intro a160 hF161; clear hF159
    refine s1 hF161 9 (.slice ao154 q147.length cap155) ?_; intro a162 hF163; clear hF161
    refine nlH (hQ139 _ _ ?_); clear hQ139 hQ139Q
    refine wp_seq ?_
    refine sqH ?_; intro hQ164Q hQ164
    refine s1 hF163 48 (.int .i64 x43) ?_; intro a165 hF166; clear hF163
    refine s1 hF166 49 (.int .i64 1) ?_; intro a167 hF168; clear hF166
    refine s1 hF168 50 (.bool (x43 == 1)) ?_; intro a169 hF170; clear hF168
    refine nlH (hQ164 _ _ ?_); clear hQ164 hQ164Q
    refine cd hF170 (t := x43 == 1) (by kernel_rfl) (fun hb171 => ?_) (fun hb171 => ?_)
    · -- yes
     have hp172 := hp157.1 hb171; clear hp157
     refine wp_exit ?_
     refine thx ?_
     refine ibx ?_
     refine thn ?_
     refine rgH ?_; intro hQ173Q hQ173
     refine s1 hF170 72 (.int .i64 (w64 (x43 + 1))) ?_; intro a174 hF175; clear hF170
     refine s1 hF175 43 (.int .i64 (w64 (x43 + 1))) ?_; intro a176 hF177; clear hF175
     refine nlH (hQ173 _ _ ?_); clear hQ173 hQ173Q
     refine rd ?_
     exact ⟨⟨w64 (x43 + 1), yb98, aoyb98_0, capyb98_0, ZL114⟩, ⟨hp172.1, hsyb98_0, hleL114⟩, hp172.2, (hF177.region (by kernel_rfl) (by kernel_rfl)).anyβ _ (by kernel_rfl), hM130.keep (List.Sublist.cons_cons _ (List.Sublist.slnil))⟩
    · -- no
     have hp178 := hp157.2 hb171; clear hp157
     refine wp_skip ?_
     refine thn ?_
     refine sqH ?_; intro hQ179Q hQ179
     refine l2 hF170 hM130 52 0 0 5 [.int .i64 yb98.Want, .slice aoyb98_0 yb98.Data.length capyb98_0, .int .i64 yb98.Next, .int .i64 yb98.Block, .int .i64 yb98.Left] rfl rfl ?_; intro a180 hF181; clear hF170
     refine s1 hF181 53 (.slice ao154 q147.length cap155) ?_; intro a182 hF183; clear hF181
     have hc184 := hp178.1; have hp185 := hp178.2; clear hp178
     refine cl hF183 41 #[.agg #[.int .i64 yb98.Want, .slice aoyb98_0 yb98.Data.length capyb98_0, .int .i64 yb98.Next, .int .i64 yb98.Block, .int .i64 yb98.Left], .slice ao154 q147.length cap155] (nog rfl _) rfl (by kernel_rfl) (by kernel_rfl) ?_
     refine (pget_fun yb98 q147 hc184 aoyb98_0 capyb98_0 ao154 cap155 _ _ hsyb98_0 hs156 hM130.fz).mono ?_; rintro _ wd186 ⟨ao190, cap191, ao193, cap194, ao196, cap197, Z199, rfl, hs192, hn195, hn198, hm⟩; refine ⟨_, rfl, ?_⟩; intro a187 hF188; have hM189 := hM130.callZ hm; have hle200 := hm.ext.le; clear hm hM130 hF183
     replace hs132 := hs132.mono hle200
     replace hs133 := hs133.mono hle200
     replace hsyb98_0 := hsyb98_0.mono hle200
     replace hleL114 := hleL114.mono hle200
     replace hs156 := hs156.mono hle200
     replace hP149 := hP149.mono hle200
     replace hle0 := Fz.le.trans hle0 hle200
     have hM201 : Mem w.heap.size [] w Z [.own (tyInt .u8) 5 ao193 cap194 ((pgetS yb98 q147).2.1), .own (tyInt .u8) 5 ao196 cap197 ((pgetS yb98 q147).2.2.1), .row b98 [.int .i64 yb98.Want, .slice aoyb98_0 yb98.Data.length capyb98_0, .int .i64 yb98.Next, .int .i64 yb98.Block, .int .i64 yb98.Left] 71] Z199 wd186 := hM189; clear hM189
     have hp202 := hp185 (hM201.ownSmall 0 rfl); clear hp185
     have hp203 := hp202 (hM201.ownSmall 1 rfl); clear hp202
     have hp204 := hp203 (hs192.small); clear hp203
     refine s1 hF188 51 (.tuple #[.agg #[.int .i64 (((pgetS yb98 q147).1).Want), .slice ao190 (((pgetS yb98 q147).1).Data).length cap191, .int .i64 (((pgetS yb98 q147).1).Next), .int .i64 (((pgetS yb98 q147).1).Block), .int .i64 (((pgetS yb98 q147).1).Left)], .slice ao193 ((pgetS yb98 q147).2.1).length cap194, .slice ao196 ((pgetS yb98 q147).2.2.1).length cap197, .int .i64 ((pgetS yb98 q147).2.2.2.1)]) ?_; intro a205 hF206; clear hF188
     refine s1 hF206 55 (.agg #[.int .i64 (((pgetS yb98 q147).1).Want), .slice ao190 (((pgetS yb98 q147).1).Data).length cap191, .int .i64 (((pgetS yb98 q147).1).Next), .int .i64 (((pgetS yb98 q147).1).Block), .int .i64 (((pgetS yb98 q147).1).Left)]) ?_; intro a207 hF208; clear hF206
     refine s1 hF208 56 (.slice ao193 ((pgetS yb98 q147).2.1).length cap194) ?_; intro a209 hF210; clear hF208
     refine s1 hF210 57 (.slice ao196 ((pgetS yb98 q147).2.2.1).length cap197) ?_; intro a211 hF212; clear hF210
     refine s1 hF212 58 (.int .i64 ((pgetS yb98 q147).2.2.2.1)) ?_; intro a213 hF214; clear hF212
     refine sn hF214 hM201 (fun b => .pointer (some ⟨b, 0, none⟩)) [.int .i64 0, .slice none 0 0, .int .i64 0, .int .i64 0, .int .i64 0] 71 (nog rfl _) rfl (by kernel_rfl) (by kernel_rfl) ?_; intro b215 a216 wd218 hF217 hM219; clear hF214 hM201
     refine sr hF217 hM219 0 [.int .i64 (((pgetS yb98 q147).1).Want), .slice ao190 (((pgetS yb98 q147).1).Data).length cap191, .int .i64 (((pgetS yb98 q147).1).Next), .int .i64 (((pgetS yb98 q147).1).Block), .int .i64 (((pgetS yb98 q147).1).Left)] (b := b215) (off := 0) (cs := [.int .i64 0, .slice none 0 0, .int .i64 0, .int .i64 0, .int .i64 0]) (ty := 71) (u := .agg #[.int .i64 (((pgetS yb98 q147).1).Want), .slice ao190 (((pgetS yb98 q147).1).Data).length cap191, .int .i64 (((pgetS yb98 q147).1).Next), .int .i64 (((pgetS yb98 q147).1).Block), .int .i64 (((pgetS yb98 q147).1).Left)]) (nog rfl _) rfl rfl (by kernel_rfl) (by kernel_rfl) (by kernel_rfl) (by kernel_rfl) (by kernel_rfl) (by kernel_rfl) (by kernel_rfl) ?_; intro wd220 hM221; clear hM219
     refine s1 hF217 11 (.slice ao193 ((pgetS yb98 q147).2.1).length cap194) ?_; intro a222 hF223; clear hF217
     refine s1 hF223 12 (.slice ao196 ((pgetS yb98 q147).2.2.1).length cap197) ?_; intro a224 hF225; clear hF223
     refine s1 hF225 13 (.int .i64 ((pgetS yb98 q147).2.2.2.1)) ?_; intro a226 hF227; clear hF225
     have hM228 : Mem w.heap.size [] w Z [.row b215 [.int .i64 (((pgetS yb98 q147).1).Want), .slice ao190 (((pgetS yb98 q147).1).Data).length cap191, .int .i64 (((pgetS yb98 q147).1).Next), .int .i64 (((pgetS yb98 q147).1).Block), .int .i64 (((pgetS yb98 q147).1).Left)] 71, .own (tyInt .u8) 5 ao193 cap194 ((pgetS yb98 q147).2.1), .own (tyInt .u8) 5 ao196 cap197 ((pgetS yb98 q147).2.2.1), .row b98 [.int .i64 yb98.Want, .slice aoyb98_0 yb98.Data.length capyb98_0, .int .i64 yb98.Next, .int .i64 yb98.Block, .int .i64 yb98.Left] 71] Z199 wd220 := hM221; clear hM221
     refine nlH (hQ179 _ _ ?_); clear hQ179 hQ179Q
     refine wp_seq ?_
     have hF229 : Fr 73 [] [⟨1, [], .int .i64 1⟩, ⟨7, [], .pointer (some ⟨b98, 0, none⟩)⟩, ⟨8, [], .int .i64 x43⟩, ⟨10, [], .pointer (some ⟨b215, 0, none⟩)⟩, ⟨12, [], .slice ao196 ((pgetS yb98 q147).2.2.1).length cap197⟩, ⟨13, [], .int .i64 ((pgetS yb98 q147).2.2.2.1)⟩, ⟨41, [], .slice ao15 ((psplitS u0).1).length cap16⟩, ⟨42, [], .int .i64 (((psplitS u0).1).length : Int)⟩, ⟨43, [], .int .i64 x43⟩] a226 := hF227.region (by kernel_rfl) (by kernel_rfl); clear hF227
     refine sqH ?_; intro hQ230Q hQ230
     refine s1 hF229 59 (.slice ao196 ((pgetS yb98 q147).2.2.1).length cap197) ?_; intro a231 hF232; clear hF229
     refine st hF232 (.bool (!((pgetS yb98 q147).2.2.2.2.2))) (nog rfl _) rfl (by kernel_rfl) (re_ (r := .ok (.value (.bool (!ao196.isNone))) wd220) (by cases ao196 <;> exact p0 hF232 (by kernel_rfl)) (by rw [hn198])) ?_; intro a233 hF234; clear hF232
     refine nlH (hQ230 _ _ ?_); clear hQ230 hQ230Q
     refine cd hF234 (t := !((pgetS yb98 q147).2.2.2.2.2)) (by kernel_rfl) (fun hb235 => ?_) (fun hb235 => ?_)
     · -- yes
      have hp236 := hp204.1 hb235; clear hp204
      refine sqH ?_; intro hQ237Q hQ237
      refine s1 hF234 4 (.bool false) ?_; intro a238 hF239; clear hF234
      refine nlH (hQ237 _ _ ?_); clear hQ237 hQ237Q
      refine wp_ret ?_
      refine thr ?_
      refine ibr ?_
      refine thr ?_
      refine thr ?_
      refine ibr ?_
      refine thr ?_
      refine rt (fn := Try.f11) (v := .bool false) hF239 (re1 hF239 (fn := Try.f11) rfl (by kernel_rfl)) ?_
      exact ⟨false, rfl, hp236, hM228.below⟩
     · -- no
      have hp240 := hp204.2 hb235; clear hp204
      refine wp_skip ?_
      refine thn ?_
      refine wp_seq ?_
      refine sqH ?_; intro hQ241Q hQ241
      refine s1 hF234 61 (.int .i64 ((pgetS yb98 q147).2.2.2.1)) ?_; intro a242 hF243; clear hF234
      refine s1 hF243 62 (.bool (((pgetS yb98 q147).2.2.2.1) != 0)) ?_; intro a244 hF245; clear hF243
      refine nlH (hQ241 _ _ ?_); clear hQ241 hQ241Q
      refine cd hF245 (t := ((pgetS yb98 q147).2.2.2.1) != 0) (by kernel_rfl) (fun hb246 => ?_) (fun hb246 => ?_)
      · -- yes
       have hp247 := hp240.1 hb246; clear hp240
       refine sqH ?_; intro hQ248Q hQ248
       refine s1 hF245 63 (.int .i64 ((pgetS yb98 q147).2.2.2.1)) ?_; intro a249 hF250; clear hF245
       refine s1 hF250 64 (.bool (((pgetS yb98 q147).2.2.2.1) == 14)) ?_; intro a251 hF252; clear hF250
       refine s1 hF252 65 (.bool (((pgetS yb98 q147).2.2.2.1) == 14)) ?_; intro a253 hF254; clear hF252
       have hF255 := hF254.atom ((((pgetS yb98 q147).2.2.2.1) == 14) == true) (by kernel_rfl); clear hF254
       refine gp hF255 66 0 [] (((pgetS yb98 q147).2.2.2.1) == 14) (.int .i64 x43) rfl rfl ?_; intro a256 hF257; clear hF255
       refine gp hF257 67 0 [] (((pgetS yb98 q147).2.2.2.1) == 14) (.int .i64 1) rfl rfl ?_; intro a258 hF259; clear hF257
       refine gp hF259 68 0 [] (((pgetS yb98 q147).2.2.2.1) == 14) (.int .i64 2) rfl rfl ?_; intro a260 hF261; clear hF259
       refine gp hF261 69 0 [] (((pgetS yb98 q147).2.2.2.1) == 14) (.bool (x43 == 2)) rfl rfl ?_; intro a262 hF263; clear hF261
       refine st hF263 (.bool ((((pgetS yb98 q147).2.2.2.1) == 14) && (x43 == 2))) (nog rfl _) rfl (by kernel_rfl) (pk_and hF263 (g := []) (m := 0) (b := ((pgetS yb98 q147).2.2.2.1) == 14) (v := x43 == 2) rfl (by kernel_rfl) (by kernel_rfl) (by kernel_rfl) rfl) ?_; intro a264 hF265; clear hF263
       refine s1 hF265 4 (.bool ((((pgetS yb98 q147).2.2.2.1) == 14) && (x43 == 2))) ?_; intro a266 hF267; clear hF265
       refine nlH (hQ248 _ _ ?_); clear hQ248 hQ248Q
       refine wp_ret ?_
       refine thr ?_
       refine ibr ?_
       refine thr ?_
       refine thr ?_
       refine ibr ?_
       refine thr ?_
       refine rt (fn := Try.f11) (v := .bool ((((pgetS yb98 q147).2.2.2.1) == 14) && (x43 == 2))) hF267 (re1 hF267 (fn := Try.f11) rfl (by kernel_rfl)) ?_
       exact ⟨(((pgetS yb98 q147).2.2.2.1) == 14) && (x43 == 2), rfl, hp247, hM228.below⟩
      · -- no
       have hp268 := hp240.2 hb246; clear hp240
       refine wp_skip ?_
       refine thn ?_
       refine rgH ?_; intro hQ269Q hQ269
       refine l2 hF245 hM228 71 0 0 5 [.int .i64 (((pgetS yb98 q147).1).Want), .slice ao190 (((pgetS yb98 q147).1).Data).length cap191, .int .i64 (((pgetS yb98 q147).1).Next), .int .i64 (((pgetS yb98 q147).1).Block), .int .i64 (((pgetS yb98 q147).1).Left)] rfl rfl ?_; intro a270 hF271; clear hF245
       refine sr hF271 hM228 3 [.int .i64 (((pgetS yb98 q147).1).Want), .slice ao190 (((pgetS yb98 q147).1).Data).length cap191, .int .i64 (((pgetS yb98 q147).1).Next), .int .i64 (((pgetS yb98 q147).1).Block), .int .i64 (((pgetS yb98 q147).1).Left)] (b := b98) (off := 0) (cs := [.int .i64 yb98.Want, .slice aoyb98_0 yb98.Data.length capyb98_0, .int .i64 yb98.Next, .int .i64 yb98.Block, .int .i64 yb98.Left]) (ty := 71) (u := .agg #[.int .i64 (((pgetS yb98 q147).1).Want), .slice ao190 (((pgetS yb98 q147).1).Data).length cap191, .int .i64 (((pgetS yb98 q147).1).Next), .int .i64 (((pgetS yb98 q147).1).Block), .int .i64 (((pgetS yb98 q147).1).Left)]) (nog rfl _) rfl rfl (by kernel_rfl) (by kernel_rfl) (by kernel_rfl) (by kernel_rfl) (by kernel_rfl) (by kernel_rfl) (by kernel_rfl) ?_; intro wd272 hM273; clear hM228
       have hM274 : Mem w.heap.size [] w Z [.row b215 [.int .i64 (((pgetS yb98 q147).1).Want), .slice ao190 (((pgetS yb98 q147).1).Data).length cap191, .int .i64 (((pgetS yb98 q147).1).Next), .int .i64 (((pgetS yb98 q147).1).Block), .int .i64 (((pgetS yb98 q147).1).Left)] 71, .own (tyInt .u8) 5 ao193 cap194 ((pgetS yb98 q147).2.1), .own (tyInt .u8) 5 ao196 cap197 ((pgetS yb98 q147).2.2.1), .row b98 [.int .i64 (((pgetS yb98 q147).1).Want), .slice ao190 (((pgetS yb98 q147).1).Data).length cap191, .int .i64 (((pgetS yb98 q147).1).Next), .int .i64 (((pgetS yb98 q147).1).Block), .int .i64 (((pgetS yb98 q147).1).Left)] 71] Z199 wd272 := hM273; clear hM273
       refine nlH (hQ269 _ _ ?_); clear hQ269 hQ269Q
       refine ibn ?_
       refine thn ?_
       refine rgH ?_; intro hQ275Q hQ275
       refine s1 hF271 72 (.int .i64 (w64 (x43 + 1))) ?_; intro a276 hF277; clear hF271
       refine s1 hF277 43 (.int .i64 (w64 (x43 + 1))) ?_; intro a278 hF279; clear hF277
       refine nlH (hQ275 _ _ ?_); clear hQ275 hQ275Q
       refine rd ?_
       exact ⟨⟨w64 (x43 + 1), ((pgetS yb98 q147).1), ao190, cap191, Z199⟩, ⟨hp268.1, hs192, hleL114⟩, hp268.2, (hF279.region (by kernel_rfl) (by kernel_rfl)).anyβ _ (by kernel_rfl), hM274.keep (List.Sublist.cons _ (List.Sublist.cons _ (List.Sublist.cons _ (List.Sublist.cons_cons _ (List.Sublist.slnil)))))⟩
   · -- no
    have hp280 := hp131.2 hb137; clear hp131
    refine wp_exit ?_
    refine thx ?_
    refine thx ?_
    refine ibx ?_
    refine thn ?_
    refine sqH ?_; intro hQ281Q hQ281
    refine s1 hF136 4 (.bool false) ?_; intro a282 hF283; clear hF136
    refine nlH (hQ281 _ _ ?_); clear hQ281 hQ281Q
    refine wp_ret ?_
    refine rt (fn := Try.f11) (v := .bool false) hF283 (re1 hF283 (fn := Try.f11) rfl (by kernel_rfl)) ?_
    exact ⟨false, rfl, hp280, hM130.below⟩
  · -- no
   have hp284 := hp67.2 hb89; clear hp67
   refine wp_skip ?_
   refine thn ?_
   have hF285 : Fr 73 [] [⟨1, [], .int .i64 u1⟩, ⟨5, [], .slice ao15 ((psplitS u0).1).length cap16⟩] a87 := hF88.region (by kernel_rfl) (by kernel_rfl); clear hF88
   refine sqH ?_; intro hQ286Q hQ286
   refine s1 hF285 40 (.agg #[.int .i64 0, .slice none 0 0, .int .i64 0, .int .i64 0, .int .i64 0]) ?_; intro a287 hF288; clear hF285
   refine sn hF288 hM35 (fun b => .pointer (some ⟨b, 0, none⟩)) [.int .i64 0, .slice none 0 0, .int .i64 0, .int .i64 0, .int .i64 0] 71 (nog rfl _) rfl (by kernel_rfl) (by kernel_rfl) ?_; intro b289 a290 wd292 hF291 hM293; clear hF288 hM35
   refine sr hF291 hM293 0 [.int .i64 0, .slice none 0 0, .int .i64 0, .int .i64 0, .int .i64 0] (b := b289) (off := 0) (cs := [.int .i64 0, .slice none 0 0, .int .i64 0, .int .i64 0, .int .i64 0]) (ty := 71) (u := .agg #[.int .i64 0, .slice none 0 0, .int .i64 0, .int .i64 0, .int .i64 0]) (nog rfl _) rfl rfl (by kernel_rfl) (by kernel_rfl) (by kernel_rfl) (by kernel_rfl) (by kernel_rfl) (by kernel_rfl) (by kernel_rfl) ?_; intro wd294 hM295; clear hM293
   have hM296 : Mem w.heap.size [] w Z [.row b289 [.int .i64 0, .slice none 0 0, .int .i64 0, .int .i64 0, .int .i64 0] 71, .own (tySl (tyInt .u8)) 36 ao15 cap16 ((psplitS u0).1)] Z17 wd294 := hM295; clear hM295
   refine nlH (hQ286 _ _ ?_); clear hQ286 hQ286Q
   refine wp_seq ?_
   refine sqH ?_; intro hQ297Q hQ297
   refine s1 hF291 41 (.slice ao15 ((psplitS u0).1).length cap16) ?_; intro a298 hF299; clear hF291
   refine s1 hF299 42 (.int .i64 (((psplitS u0).1).length : Int)) ?_; intro a300 hF301; clear hF299
   refine s1 hF301 43 (.int .i64 0) ?_; intro a302 hF303; clear hF301
   refine nlH (hQ297 _ _ ?_); clear hQ297 hQ297Q
   refine wp_block ?_
   have hF304 : Fr 73 [] [⟨1, [], .int .i64 u1⟩, ⟨7, [], .pointer (some ⟨b289, 0, none⟩)⟩, ⟨41, [], .slice ao15 ((psplitS u0).1).length cap16⟩, ⟨42, [], .int .i64 (((psplitS u0).1).length : Int)⟩, ⟨43, [], .int .i64 0⟩] a302 := hF303.region (by kernel_rfl) (by kernel_rfl); clear hF303
   obtain ⟨Z306, hle307, hM308, hs309⟩ := hM296.freeze 1 rfl
   replace hs3 := hs3.mono hle307
   replace hle0 := Fz.le.trans hle0 hle307
   have hM310 : Mem w.heap.size [] w Z [.row b289 [.int .i64 0, .slice none 0 0, .int .i64 0, .int .i64 0, .int .i64 0] 71] Z306 wd294 := hM308; clear hM308
   have hF311 : Fr 73 [] [⟨1, [], .int .i64 u1⟩, ⟨7, [], .pointer (some ⟨b289, 0, none⟩)⟩, ⟨41, [], .slice ao15 ((psplitS u0).1).length cap16⟩, ⟨42, [], .int .i64 (((psplitS u0).1).length : Int)⟩, ⟨43, [], .int .i64 0⟩] a302 := hF304.region (by kernel_rfl) (by kernel_rfl); clear hF304
   obtain ⟨inv305, mu305, hI314, hr313⟩ := hp284
   have hle315 := hle0
   refine lp (ι := Int × Getter × (Option Addr) × Nat × Fz) (fun (s : Int × Getter × (Option Addr) × Nat × Fz) => [⟨1, [], .int .i64 u1⟩, ⟨7, [], .pointer (some ⟨b289, 0, none⟩)⟩, ⟨41, [], .slice ao15 ((psplitS u0).1).length cap16⟩, ⟨42, [], .int .i64 (((psplitS u0).1).length : Int)⟩, ⟨43, [], .int .i64 s.1⟩]) (fun (s : Int × Getter × (Option Addr) × Nat × Fz) => [.row b289 [.int .i64 s.2.1.Want, .slice s.2.2.1 s.2.1.Data.length s.2.2.2.1, .int .i64 s.2.1.Next, .int .i64 s.2.1.Block, .int .i64 s.2.1.Left] 71]) (fun (s : Int × Getter × (Option Addr) × Nat × Fz) => s.2.2.2.2) (fun (s : Int × Getter × (Option Addr) × Nat × Fz) => inv305 s.1 s.2.1 ∧ SlR (tyInt .u8) s.2.2.2.2 s.2.2.1 s.2.2.2.1 s.2.1.Data ∧ Fz.le Z306 s.2.2.2.2) (fun (s : Int × Getter × (Option Addr) × Nat × Fz) => mu305 s.1 s.2.1) ⟨0, (⟨0, [], 0, 0, 0⟩ : Getter), none, 0, Z306⟩ ⟨hI314, (SlR.nil _ _), Fz.le.refl _⟩ (by exact hF311.region (by kernel_rfl) (by kernel_rfl)) (by exact hM310) ?_
   rintro ⟨x43, yb289, aoyb289_0, capyb289_0, ZL305⟩ ⟨hI312, hsyb289_0, hleL305⟩ a316 wd317 hF318 hM319
   have hF320 : Fr 73 [] [⟨1, [], .int .i64 u1⟩, ⟨7, [], .pointer (some ⟨b289, 0, none⟩)⟩, ⟨41, [], .slice ao15 ((psplitS u0).1).length cap16⟩, ⟨42, [], .int .i64 (((psplitS u0).1).length : Int)⟩, ⟨43, [], .int .i64 x43⟩] a316 := hF318; clear hF318 hF311
   have hM321 : Mem w.heap.size [] w Z [.row b289 [.int .i64 yb289.Want, .slice aoyb289_0 yb289.Data.length capyb289_0, .int .i64 yb289.Next, .int .i64 yb289.Block, .int .i64 yb289.Left] 71] ZL305 wd317 := hM319; clear hM319 hM310
   have hp322 := hr313 x43 yb289 hI312
   replace hle0 := Fz.le.trans hle0 hleL305
   have hs323 := hs3.mono hleL305
   have hs324 := hs309.mono hleL305
   refine sqH ?_; intro hQ325Q hQ325
   refine s1 hF320 44 (.bool (decide (x43 < (((psplitS u0).1).length : Int)))) ?_; intro a326 hF327; clear hF320
   refine nlH (hQ325 _ _ ?_); clear hQ325 hQ325Q
   refine wp_seq ?_
   refine cd hF327 (t := decide (x43 < (((psplitS u0).1).length : Int))) (by kernel_rfl) (fun hb328 => ?_) (fun hb328 => ?_)
   · -- yes
    have hp329 := hp322.1 hb328; clear hp322
    refine wp_skip ?_
    refine thn ?_
    refine wp_seq ?_
    refine wp_block ?_
    refine sqH ?_; intro hQ330Q hQ330
    refine s1 hF327 45 (.int .i64 x43) ?_; intro a331 hF332; clear hF327
    have hc333 := hp329.1; have hp334 := hp329.2; clear hp329
    refine ix hF332 (T := (tySl (tyInt .u8))) (xs := (psplitS u0).1) hs324 x43 hc333 (k := .i64) (e := 36) (bytes := 24) (nog rfl _) rfl (by kernel_rfl) rfl (by kernel_rfl) (by kernel_rfl) (by kernel_rfl) ?_; intro b335 off336 cs337 q338 a342 hq339 hP340 hT341 hF343; clear hF332
    have hp344 := hp334 q338 hq339; clear hp334
    obtain ⟨ao345, cap346, rfl, hs347⟩ := hT341
    have hp348 := hp344 (hs347.small); clear hp344
    refine z1 hF343 hM321 47 hP340 0 (.slice ao345 q338.length cap346) rfl ?_; intro a349 hF350; clear hF343
    refine s1 hF350 8 (.int .i64 x43) ?_; intro a351 hF352; clear hF350
    refine s1 hF352 9 (.slice ao345 q338.length cap346) ?_; intro a353 hF354; clear hF352
    refine nlH (hQ330 _ _ ?_); clear hQ330 hQ330Q
    refine wp_seq ?_
    refine sqH ?_; intro hQ355Q hQ355
    refine s1 hF354 48 (.int .i64 x43) ?_; intro a356 hF357; clear hF354
    refine s1 hF357 49 (.int .i64 u1) ?_; intro a358 hF359; clear hF357
    refine s1 hF359 50 (.bool (x43 == u1)) ?_; intro a360 hF361; clear hF359
    refine nlH (hQ355 _ _ ?_); clear hQ355 hQ355Q
    refine cd hF361 (t := x43 == u1) (by kernel_rfl) (fun hb362 => ?_) (fun hb362 => ?_)
    · -- yes
     have hp363 := hp348.1 hb362; clear hp348
     refine wp_exit ?_
     refine thx ?_
     refine ibx ?_
     refine thn ?_
     refine rgH ?_; intro hQ364Q hQ364
     refine s1 hF361 72 (.int .i64 (w64 (x43 + 1))) ?_; intro a365 hF366; clear hF361
     refine s1 hF366 43 (.int .i64 (w64 (x43 + 1))) ?_; intro a367 hF368; clear hF366
     refine nlH (hQ364 _ _ ?_); clear hQ364 hQ364Q
     refine rd ?_
     exact ⟨⟨w64 (x43 + 1), yb289, aoyb289_0, capyb289_0, ZL305⟩, ⟨hp363.1, hsyb289_0, hleL305⟩, hp363.2, (hF368.region (by kernel_rfl) (by kernel_rfl)).anyβ _ (by kernel_rfl), hM321.keep (List.Sublist.cons_cons _ (List.Sublist.slnil))⟩
    · -- no
     have hp369 := hp348.2 hb362; clear hp348
     refine wp_skip ?_
     refine thn ?_
     refine sqH ?_; intro hQ370Q hQ370
     refine l2 hF361 hM321 52 0 0 5 [.int .i64 yb289.Want, .slice aoyb289_0 yb289.Data.length capyb289_0, .int .i64 yb289.Next, .int .i64 yb289.Block, .int .i64 yb289.Left] rfl rfl ?_; intro a371 hF372; clear hF361
     refine s1 hF372 53 (.slice ao345 q338.length cap346) ?_; intro a373 hF374; clear hF372
     have hc375 := hp369.1; have hp376 := hp369.2; clear hp369
     refine cl hF374 41 #[.agg #[.int .i64 yb289.Want, .slice aoyb289_0 yb289.Data.length capyb289_0, .int .i64 yb289.Next, .int .i64 yb289.Block, .int .i64 yb289.Left], .slice ao345 q338.length cap346] (nog rfl _) rfl (by kernel_rfl) (by kernel_rfl) ?_
     refine (pget_fun yb289 q338 hc375 aoyb289_0 capyb289_0 ao345 cap346 _ _ hsyb289_0 hs347 hM321.fz).mono ?_; rintro _ wd377 ⟨ao381, cap382, ao384, cap385, ao387, cap388, Z390, rfl, hs383, hn386, hn389, hm⟩; refine ⟨_, rfl, ?_⟩; intro a378 hF379; have hM380 := hM321.callZ hm; have hle391 := hm.ext.le; clear hm hM321 hF374
     replace hs323 := hs323.mono hle391
     replace hs324 := hs324.mono hle391
     replace hsyb289_0 := hsyb289_0.mono hle391
     replace hleL305 := hleL305.mono hle391
     replace hs347 := hs347.mono hle391
     replace hP340 := hP340.mono hle391
     replace hle0 := Fz.le.trans hle0 hle391
     have hM392 : Mem w.heap.size [] w Z [.own (tyInt .u8) 5 ao384 cap385 ((pgetS yb289 q338).2.1), .own (tyInt .u8) 5 ao387 cap388 ((pgetS yb289 q338).2.2.1), .row b289 [.int .i64 yb289.Want, .slice aoyb289_0 yb289.Data.length capyb289_0, .int .i64 yb289.Next, .int .i64 yb289.Block, .int .i64 yb289.Left] 71] Z390 wd377 := hM380; clear hM380
     have hp393 := hp376 (hM392.ownSmall 0 rfl); clear hp376
     have hp394 := hp393 (hM392.ownSmall 1 rfl); clear hp393
     have hp395 := hp394 (hs383.small); clear hp394
     refine s1 hF379 51 (.tuple #[.agg #[.int .i64 (((pgetS yb289 q338).1).Want), .slice ao381 (((pgetS yb289 q338).1).Data).length cap382, .int .i64 (((pgetS yb289 q338).1).Next), .int .i64 (((pgetS yb289 q338).1).Block), .int .i64 (((pgetS yb289 q338).1).Left)], .slice ao384 ((pgetS yb289 q338).2.1).length cap385, .slice ao387 ((pgetS yb289 q338).2.2.1).length cap388, .int .i64 ((pgetS yb289 q338).2.2.2.1)]) ?_; intro a396 hF397; clear hF379
     refine s1 hF397 55 (.agg #[.int .i64 (((pgetS yb289 q338).1).Want), .slice ao381 (((pgetS yb289 q338).1).Data).length cap382, .int .i64 (((pgetS yb289 q338).1).Next), .int .i64 (((pgetS yb289 q338).1).Block), .int .i64 (((pgetS yb289 q338).1).Left)]) ?_; intro a398 hF399; clear hF397
     refine s1 hF399 56 (.slice ao384 ((pgetS yb289 q338).2.1).length cap385) ?_; intro a400 hF401; clear hF399
     refine s1 hF401 57 (.slice ao387 ((pgetS yb289 q338).2.2.1).length cap388) ?_; intro a402 hF403; clear hF401
     refine s1 hF403 58 (.int .i64 ((pgetS yb289 q338).2.2.2.1)) ?_; intro a404 hF405; clear hF403
     refine sn hF405 hM392 (fun b => .pointer (some ⟨b, 0, none⟩)) [.int .i64 0, .slice none 0 0, .int .i64 0, .int .i64 0, .int .i64 0] 71 (nog rfl _) rfl (by kernel_rfl) (by kernel_rfl) ?_; intro b406 a407 wd409 hF408 hM410; clear hF405 hM392
     refine sr hF408 hM410 0 [.int .i64 (((pgetS yb289 q338).1).Want), .slice ao381 (((pgetS yb289 q338).1).Data).length cap382, .int .i64 (((pgetS yb289 q338).1).Next), .int .i64 (((pgetS yb289 q338).1).Block), .int .i64 (((pgetS yb289 q338).1).Left)] (b := b406) (off := 0) (cs := [.int .i64 0, .slice none 0 0, .int .i64 0, .int .i64 0, .int .i64 0]) (ty := 71) (u := .agg #[.int .i64 (((pgetS yb289 q338).1).Want), .slice ao381 (((pgetS yb289 q338).1).Data).length cap382, .int .i64 (((pgetS yb289 q338).1).Next), .int .i64 (((pgetS yb289 q338).1).Block), .int .i64 (((pgetS yb289 q338).1).Left)]) (nog rfl _) rfl rfl (by kernel_rfl) (by kernel_rfl) (by kernel_rfl) (by kernel_rfl) (by kernel_rfl) (by kernel_rfl) (by kernel_rfl) ?_; intro wd411 hM412; clear hM410
     refine s1 hF408 11 (.slice ao384 ((pgetS yb289 q338).2.1).length cap385) ?_; intro a413 hF414; clear hF408
     refine s1 hF414 12 (.slice ao387 ((pgetS yb289 q338).2.2.1).length cap388) ?_; intro a415 hF416; clear hF414
     refine s1 hF416 13 (.int .i64 ((pgetS yb289 q338).2.2.2.1)) ?_; intro a417 hF418; clear hF416
     have hM419 : Mem w.heap.size [] w Z [.row b406 [.int .i64 (((pgetS yb289 q338).1).Want), .slice ao381 (((pgetS yb289 q338).1).Data).length cap382, .int .i64 (((pgetS yb289 q338).1).Next), .int .i64 (((pgetS yb289 q338).1).Block), .int .i64 (((pgetS yb289 q338).1).Left)] 71, .own (tyInt .u8) 5 ao384 cap385 ((pgetS yb289 q338).2.1), .own (tyInt .u8) 5 ao387 cap388 ((pgetS yb289 q338).2.2.1), .row b289 [.int .i64 yb289.Want, .slice aoyb289_0 yb289.Data.length capyb289_0, .int .i64 yb289.Next, .int .i64 yb289.Block, .int .i64 yb289.Left] 71] Z390 wd411 := hM412; clear hM412
     refine nlH (hQ370 _ _ ?_); clear hQ370 hQ370Q
     refine wp_seq ?_
     have hF420 : Fr 73 [] [⟨1, [], .int .i64 u1⟩, ⟨7, [], .pointer (some ⟨b289, 0, none⟩)⟩, ⟨8, [], .int .i64 x43⟩, ⟨10, [], .pointer (some ⟨b406, 0, none⟩)⟩, ⟨12, [], .slice ao387 ((pgetS yb289 q338).2.2.1).length cap388⟩, ⟨13, [], .int .i64 ((pgetS yb289 q338).2.2.2.1)⟩, ⟨41, [], .slice ao15 ((psplitS u0).1).length cap16⟩, ⟨42, [], .int .i64 (((psplitS u0).1).length : Int)⟩, ⟨43, [], .int .i64 x43⟩] a417 := hF418.region (by kernel_rfl) (by kernel_rfl); clear hF418
     refine sqH ?_; intro hQ421Q hQ421
     refine s1 hF420 59 (.slice ao387 ((pgetS yb289 q338).2.2.1).length cap388) ?_; intro a422 hF423; clear hF420
     refine st hF423 (.bool (!((pgetS yb289 q338).2.2.2.2.2))) (nog rfl _) rfl (by kernel_rfl) (re_ (r := .ok (.value (.bool (!ao387.isNone))) wd411) (by cases ao387 <;> exact p0 hF423 (by kernel_rfl)) (by rw [hn389])) ?_; intro a424 hF425; clear hF423
     refine nlH (hQ421 _ _ ?_); clear hQ421 hQ421Q
     refine cd hF425 (t := !((pgetS yb289 q338).2.2.2.2.2)) (by kernel_rfl) (fun hb426 => ?_) (fun hb426 => ?_)
     · -- yes
      have hp427 := hp395.1 hb426; clear hp395
      refine sqH ?_; intro hQ428Q hQ428
      refine s1 hF425 4 (.bool false) ?_; intro a429 hF430; clear hF425
      refine nlH (hQ428 _ _ ?_); clear hQ428 hQ428Q
      refine wp_ret ?_
      refine thr ?_
      refine ibr ?_
      refine thr ?_
      refine thr ?_
      refine ibr ?_
      refine thr ?_
      refine rt (fn := Try.f11) (v := .bool false) hF430 (re1 hF430 (fn := Try.f11) rfl (by kernel_rfl)) ?_
      exact ⟨false, rfl, hp427, hM419.below⟩
     · -- no
      have hp431 := hp395.2 hb426; clear hp395
      refine wp_skip ?_
      refine thn ?_
      refine wp_seq ?_
      refine sqH ?_; intro hQ432Q hQ432
      refine s1 hF425 61 (.int .i64 ((pgetS yb289 q338).2.2.2.1)) ?_; intro a433 hF434; clear hF425
      refine s1 hF434 62 (.bool (((pgetS yb289 q338).2.2.2.1) != 0)) ?_; intro a435 hF436; clear hF434
      refine nlH (hQ432 _ _ ?_); clear hQ432 hQ432Q
      refine cd hF436 (t := ((pgetS yb289 q338).2.2.2.1) != 0) (by kernel_rfl) (fun hb437 => ?_) (fun hb437 => ?_)
      · -- yes
       have hp438 := hp431.1 hb437; clear hp431
       refine sqH ?_; intro hQ439Q hQ439
       refine s1 hF436 63 (.int .i64 ((pgetS yb289 q338).2.2.2.1)) ?_; intro a440 hF441; clear hF436
       refine s1 hF441 64 (.bool (((pgetS yb289 q338).2.2.2.1) == 14)) ?_; intro a442 hF443; clear hF441
       refine s1 hF443 65 (.bool (((pgetS yb289 q338).2.2.2.1) == 14)) ?_; intro a444 hF445; clear hF443
       have hF446 := hF445.atom ((((pgetS yb289 q338).2.2.2.1) == 14) == true) (by kernel_rfl); clear hF445
       refine gp hF446 66 0 [] (((pgetS yb289 q338).2.2.2.1) == 14) (.int .i64 x43) rfl rfl ?_; intro a447 hF448; clear hF446
       refine gp hF448 67 0 [] (((pgetS yb289 q338).2.2.2.1) == 14) (.int .i64 u1) rfl rfl ?_; intro a449 hF450; clear hF448
       refine gp hF450 68 0 [] (((pgetS yb289 q338).2.2.2.1) == 14) (.int .i64 (w64 (u1 + 1))) rfl rfl ?_; intro a451 hF452; clear hF450
       refine gp hF452 69 0 [] (((pgetS yb289 q338).2.2.2.1) == 14) (.bool (x43 == (w64 (u1 + 1)))) rfl rfl ?_; intro a453 hF454; clear hF452
       refine st hF454 (.bool ((((pgetS yb289 q338).2.2.2.1) == 14) && (x43 == (w64 (u1 + 1))))) (nog rfl _) rfl (by kernel_rfl) (pk_and hF454 (g := []) (m := 0) (b := ((pgetS yb289 q338).2.2.2.1) == 14) (v := x43 == (w64 (u1 + 1))) rfl (by kernel_rfl) (by kernel_rfl) (by kernel_rfl) rfl) ?_; intro a455 hF456; clear hF454
       refine s1 hF456 4 (.bool ((((pgetS yb289 q338).2.2.2.1) == 14) && (x43 == (w64 (u1 + 1))))) ?_; intro a457 hF458; clear hF456
       refine nlH (hQ439 _ _ ?_); clear hQ439 hQ439Q
       refine wp_ret ?_
       refine thr ?_
       refine ibr ?_
       refine thr ?_
       refine thr ?_
       refine ibr ?_
       refine thr ?_
       refine rt (fn := Try.f11) (v := .bool ((((pgetS yb289 q338).2.2.2.1) == 14) && (x43 == (w64 (u1 + 1))))) hF458 (re1 hF458 (fn := Try.f11) rfl (by kernel_rfl)) ?_
       exact ⟨(((pgetS yb289 q338).2.2.2.1) == 14) && (x43 == (w64 (u1 + 1))), rfl, hp438, hM419.below⟩
      · -- no
       have hp459 := hp431.2 hb437; clear hp431
       refine wp_skip ?_
       refine thn ?_
       refine rgH ?_; intro hQ460Q hQ460
       refine l2 hF436 hM419 71 0 0 5 [.int .i64 (((pgetS yb289 q338).1).Want), .slice ao381 (((pgetS yb289 q338).1).Data).length cap382, .int .i64 (((pgetS yb289 q338).1).Next), .int .i64 (((pgetS yb289 q338).1).Block), .int .i64 (((pgetS yb289 q338).1).Left)] rfl rfl ?_; intro a461 hF462; clear hF436
       refine sr hF462 hM419 3 [.int .i64 (((pgetS yb289 q338).1).Want), .slice ao381 (((pgetS yb289 q338).1).Data).length cap382, .int .i64 (((pgetS yb289 q338).1).Next), .int .i64 (((pgetS yb289 q338).1).Block), .int .i64 (((pgetS yb289 q338).1).Left)] (b := b289) (off := 0) (cs := [.int .i64 yb289.Want, .slice aoyb289_0 yb289.Data.length capyb289_0, .int .i64 yb289.Next, .int .i64 yb289.Block, .int .i64 yb289.Left]) (ty := 71) (u := .agg #[.int .i64 (((pgetS yb289 q338).1).Want), .slice ao381 (((pgetS yb289 q338).1).Data).length cap382, .int .i64 (((pgetS yb289 q338).1).Next), .int .i64 (((pgetS yb289 q338).1).Block), .int .i64 (((pgetS yb289 q338).1).Left)]) (nog rfl _) rfl rfl (by kernel_rfl) (by kernel_rfl) (by kernel_rfl) (by kernel_rfl) (by kernel_rfl) (by kernel_rfl) (by kernel_rfl) ?_; intro wd463 hM464; clear hM419
       have hM465 : Mem w.heap.size [] w Z [.row b406 [.int .i64 (((pgetS yb289 q338).1).Want), .slice ao381 (((pgetS yb289 q338).1).Data).length cap382, .int .i64 (((pgetS yb289 q338).1).Next), .int .i64 (((pgetS yb289 q338).1).Block), .int .i64 (((pgetS yb289 q338).1).Left)] 71, .own (tyInt .u8) 5 ao384 cap385 ((pgetS yb289 q338).2.1), .own (tyInt .u8) 5 ao387 cap388 ((pgetS yb289 q338).2.2.1), .row b289 [.int .i64 (((pgetS yb289 q338).1).Want), .slice ao381 (((pgetS yb289 q338).1).Data).length cap382, .int .i64 (((pgetS yb289 q338).1).Next), .int .i64 (((pgetS yb289 q338).1).Block), .int .i64 (((pgetS yb289 q338).1).Left)] 71] Z390 wd463 := hM464; clear hM464
       refine nlH (hQ460 _ _ ?_); clear hQ460 hQ460Q
       refine ibn ?_
       refine thn ?_
       refine rgH ?_; intro hQ466Q hQ466
       refine s1 hF462 72 (.int .i64 (w64 (x43 + 1))) ?_; intro a467 hF468; clear hF462
       refine s1 hF468 43 (.int .i64 (w64 (x43 + 1))) ?_; intro a469 hF470; clear hF468
       refine nlH (hQ466 _ _ ?_); clear hQ466 hQ466Q
       refine rd ?_
       exact ⟨⟨w64 (x43 + 1), ((pgetS yb289 q338).1), ao381, cap382, Z390⟩, ⟨hp459.1, hs383, hleL305⟩, hp459.2, (hF470.region (by kernel_rfl) (by kernel_rfl)).anyβ _ (by kernel_rfl), hM465.keep (List.Sublist.cons _ (List.Sublist.cons _ (List.Sublist.cons _ (List.Sublist.cons_cons _ (List.Sublist.slnil)))))⟩
   · -- no
    have hp471 := hp322.2 hb328; clear hp322
    refine wp_exit ?_
    refine thx ?_
    refine thx ?_
    refine ibx ?_
    refine thn ?_
    refine sqH ?_; intro hQ472Q hQ472
    refine s1 hF327 4 (.bool false) ?_; intro a473 hF474; clear hF327
    refine nlH (hQ472 _ _ ?_); clear hQ472 hQ472Q
    refine wp_ret ?_
    refine rt (fn := Try.f11) (v := .bool false) hF474 (re1 hF474 (fn := Try.f11) rfl (by kernel_rfl)) ?_
    exact ⟨false, rfl, hp471, hM321.below⟩

end Go.Proofs.Ytkogkombalcgeaa
