/- The walks, made by program: each call does what its pure predicate says. -/
import Derived.Test.YtkogkombalcgeaaPE
import Derived.Test.YtkogkombalcgeaaWD
set_option linter.unusedVariables false
set_option linter.unusedSimpArgs false
namespace Go.Proofs.Ytkogkombalcgeaa
open Go.Sy Go.RowKit
theorem filtered_fun   (Z : Fz) (w : World)  (hZ : Z.on w) : Calls Try.prog 16 #[] w fun e w' => e = .returned (.bool true) ∧ Below w.heap.size w w' :=
  (filtered_walk   Z w  hZ (filtered_ok )).mono fun _ _ ⟨r, he, hk, hb⟩ => ⟨by subst hk; exact he, hb⟩

set_option maxRecDepth 100000 in
theorem LRanges_walk (u0 : Int) (u1 : Int) (u2 : Bool)  (Z : Fz) (w : World)  (hZ : Z.on w) {K : Bool → Prop} (hp : LRanges_vc u0 u1 u2 K) : Calls Try.prog 3 #[.int .i64 u0, .int .i64 u1, .bool u2] w fun e w' => ∃ r : Bool, e = .returned (.bool r) ∧ K r ∧ Below w.heap.size w w' := by
 refine enter0 Try.func3 rfl rfl (by kernel_rfl) ?_; intro a0 hF0; have hM0 := Mem.start w Z hZ; have hle0 := Fz.le.refl Z
 refine sqH ?_; intro hQ1Q hQ1
 refine s1 hF0 6 (.bool false) ?_; intro a2 hF3; clear hF0
 refine nlH (hQ1 _ _ ?_); clear hQ1 hQ1Q
 refine sqH ?_; intro hQ4Q hQ4
 refine s1 hF3 13 (.int .i64 u0) ?_; intro a5 hF6; clear hF3
 refine s1 hF6 14 (.int .i64 u1) ?_; intro a7 hF8; clear hF6
 refine s1 hF8 15 (.bool u2) ?_; intro a9 hF10; clear hF8
 refine cl hF10 15 #[.int .i64 u0, .int .i64 u1, .bool u2] (nog rfl _) rfl (by kernel_rfl) (by kernel_rfl) ?_
 refine (franges_fun u0 u1 u2 _ _ hM0.fz).mono ?_; rintro _ wd11 ⟨ao15, cap16, Z17, rfl, hm⟩; refine ⟨_, rfl, ?_⟩; intro a12 hF13; have hM14 := hM0.callZ hm; have hle18 := hm.ext.le; clear hm hM0 hF10
 replace hle0 := Fz.le.trans hle0 hle18
 have hM19 : Mem w.heap.size [] w Z [.own tyFilter 28 ao15 cap16 ((rangesS u0 u1 u2).1)] Z17 wd11 := hM14; clear hM14
 have hp20 := hp (hM19.ownSmall 0 rfl); clear hp
 refine s1 hF13 12 (.tuple #[.slice ao15 ((rangesS u0 u1 u2).1).length cap16, .int .i64 ((rangesS u0 u1 u2).2)]) ?_; intro a21 hF22; clear hF13
 refine s1 hF22 17 (.slice ao15 ((rangesS u0 u1 u2).1).length cap16) ?_; intro a23 hF24; clear hF22
 refine s1 hF24 18 (.int .i64 ((rangesS u0 u1 u2).2)) ?_; intro a25 hF26; clear hF24
 refine s1 hF26 7 (.slice ao15 ((rangesS u0 u1 u2).1).length cap16) ?_; intro a27 hF28; clear hF26
 refine s1 hF28 8 (.int .i64 ((rangesS u0 u1 u2).2)) ?_; intro a29 hF30; clear hF28
 refine nlH (hQ4 _ _ ?_); clear hQ4 hQ4Q
 refine sqH ?_; intro hQ31Q hQ31
 refine s1 hF30 9 (.int .i64 2047) ?_; intro a32 hF33; clear hF30
 refine nlH (hQ31 _ _ ?_); clear hQ31 hQ31Q
 refine wp_seq ?_
 refine sqH ?_; intro hQ34Q hQ34
 refine s1 hF33 19 (.bool u2) ?_; intro a35 hF36; clear hF33
 refine nlH (hQ34 _ _ ?_); clear hQ34 hQ34Q
 refine cd hF36 (t := u2) (by kernel_rfl) (fun hb37 => ?_) (fun hb37 => ?_)
 · -- yes
  have hp38 := hp20.1 hb37; clear hp20
  refine rgH ?_; intro hQ39Q hQ39
  refine s1 hF36 9 (.int .i64 536870911) ?_; intro a40 hF41; clear hF36
  refine nlH (hQ39 _ _ ?_); clear hQ39 hQ39Q
  refine thn ?_
  refine wp_seq ?_
  refine sqH ?_; intro hQ42Q hQ42
  refine fcl hF41 hM19 (.bool true) 16 #[] (nog rfl _) rfl (by kernel_rfl) (fun _ => by kernel_rfl) (filtered_fun  _ _ hM19.fz) ?_; intro a43 wd45 hF44 hM46; clear hF41 hM19
  refine s1 hF44 21 (.bool false) ?_; intro a47 hF48; clear hF44
  refine s1 hF48 22 (.bool false) ?_; intro a49 hF50; clear hF48
  refine st hF50 (.int .i64 u0) (by rw [wanted_of hF50 (b := false) rfl rfl (by kernel_rfl) (by kernel_rfl)]; rfl) rfl (by kernel_rfl) (p0 hF50 (by kernel_rfl)) ?_; intro a51 hF52; clear hF50
  refine st hF52 (.bool (decide (u0 < 0))) (by rw [wanted_of hF52 (b := false) rfl rfl (by kernel_rfl) (by kernel_rfl)]; rfl) rfl (by kernel_rfl) (p0 hF52 (by kernel_rfl)) ?_; intro a53 hF54; clear hF52
  refine s1 hF54 25 (.bool (decide (u0 < 0))) ?_; intro a55 hF56; clear hF54
  refine s1 hF56 26 (.bool (decide (u0 < 0))) ?_; intro a57 hF58; clear hF56
  have hF59 := hF58.atom ((decide (u0 < 0)) == false) (by kernel_rfl); clear hF58
  refine gp hF59 27 0 [] (decide (u0 < 0)) (.int .i64 u1) rfl rfl ?_; intro a60 hF61; clear hF59
  refine gp hF61 28 0 [] (decide (u0 < 0)) (.int .i64 536870911) rfl rfl ?_; intro a62 hF63; clear hF61
  refine gp hF63 29 0 [] (decide (u0 < 0)) (.bool (decide (u1 > 536870911))) rfl rfl ?_; intro a64 hF65; clear hF63
  refine st hF65 (.bool ((decide (u0 < 0)) || (decide (u1 > 536870911)))) (nog rfl _) rfl (by kernel_rfl) (pk_or hF65 (g := []) (m := 0) (b := decide (u0 < 0)) (v := decide (u1 > 536870911)) rfl (by kernel_rfl) (by kernel_rfl) (by kernel_rfl) rfl) ?_; intro a66 hF67; clear hF65
  refine s1 hF67 31 (.bool ((decide (u0 < 0)) || (decide (u1 > 536870911)))) ?_; intro a68 hF69; clear hF67
  have hF70 := hF69.atom (((decide (u0 < 0)) || (decide (u1 > 536870911))) == false) (by kernel_rfl); clear hF69
  refine gp hF70 32 1 [] ((decide (u0 < 0)) || (decide (u1 > 536870911))) (.int .i64 u0) rfl rfl ?_; intro a71 hF72; clear hF70
  refine gp hF72 33 1 [] ((decide (u0 < 0)) || (decide (u1 > 536870911))) (.int .i64 u1) rfl rfl ?_; intro a73 hF74; clear hF72
  refine gp hF74 34 1 [] ((decide (u0 < 0)) || (decide (u1 > 536870911))) (.bool (decide (u0 > u1))) rfl rfl ?_; intro a75 hF76; clear hF74
  refine st hF76 (.bool (((decide (u0 < 0)) || (decide (u1 > 536870911))) || (decide (u0 > u1)))) (nog rfl _) rfl (by kernel_rfl) (pk_or hF76 (g := []) (m := 1) (b := (decide (u0 < 0)) || (decide (u1 > 536870911))) (v := decide (u0 > u1)) rfl (by kernel_rfl) (by kernel_rfl) (by kernel_rfl) rfl) ?_; intro a77 hF78; clear hF76
  refine nlH (hQ42 _ _ ?_); clear hQ42 hQ42Q
  refine cd hF78 (t := ((decide (u0 < 0)) || (decide (u1 > 536870911))) || (decide (u0 > u1))) (by kernel_rfl) (fun hb79 => ?_) (fun hb79 => ?_)
  · -- yes
   have hp80 := hp38.1 hb79; clear hp38
   have hF81 : Fr 85 [] [⟨7, [], .slice ao15 ((rangesS u0 u1 u2).1).length cap16⟩, ⟨8, [], .int .i64 ((rangesS u0 u1 u2).2)⟩] a77 := hF78.region (by kernel_rfl) (by kernel_rfl); clear hF78
   refine sqH ?_; intro hQ82Q hQ82
   refine fcl hF81 hM46 (.bool true) 16 #[] (nog rfl _) rfl (by kernel_rfl) (fun _ => by kernel_rfl) (filtered_fun  _ _ hM46.fz) ?_; intro a83 wd85 hF84 hM86; clear hF81 hM46
   refine s1 hF84 37 (.bool true) ?_; intro a87 hF88; clear hF84
   refine st hF88 (.int .i64 ((rangesS u0 u1 u2).2)) (by rw [wanted_of hF88 (b := true) rfl rfl (by kernel_rfl) (by kernel_rfl)]; rfl) rfl (by kernel_rfl) (p0 hF88 (by kernel_rfl)) ?_; intro a89 hF90; clear hF88
   refine st hF90 (.bool (((rangesS u0 u1 u2).2) == 3)) (by rw [wanted_of hF90 (b := true) rfl rfl (by kernel_rfl) (by kernel_rfl)]; rfl) rfl (by kernel_rfl) (p0 hF90 (by kernel_rfl)) ?_; intro a91 hF92; clear hF90
   refine s1 hF92 40 (.bool (((rangesS u0 u1 u2).2) == 3)) ?_; intro a93 hF94; clear hF92
   refine s1 hF94 41 (.bool (((rangesS u0 u1 u2).2) == 3)) ?_; intro a95 hF96; clear hF94
   have hF97 := hF96.atom ((((rangesS u0 u1 u2).2) == 3) == true) (by kernel_rfl); clear hF96
   refine gp hF97 42 0 [] (((rangesS u0 u1 u2).2) == 3) (.slice ao15 ((rangesS u0 u1 u2).1).length cap16) rfl rfl ?_; intro a98 hF99; clear hF97
   refine gp hF99 43 0 [] (((rangesS u0 u1 u2).2) == 3) (.int .i64 (((rangesS u0 u1 u2).1).length : Int)) rfl rfl ?_; intro a100 hF101; clear hF99
   refine gp hF101 44 0 [] (((rangesS u0 u1 u2).2) == 3) (.bool ((((rangesS u0 u1 u2).1).length : Int) == 0)) rfl rfl ?_; intro a102 hF103; clear hF101
   refine st hF103 (.bool ((((rangesS u0 u1 u2).2) == 3) && ((((rangesS u0 u1 u2).1).length : Int) == 0))) (nog rfl _) rfl (by kernel_rfl) (pk_and hF103 (g := []) (m := 0) (b := ((rangesS u0 u1 u2).2) == 3) (v := (((rangesS u0 u1 u2).1).length : Int) == 0) rfl (by kernel_rfl) (by kernel_rfl) (by kernel_rfl) rfl) ?_; intro a104 hF105; clear hF103
   refine s1 hF105 6 (.bool ((((rangesS u0 u1 u2).2) == 3) && ((((rangesS u0 u1 u2).1).length : Int) == 0))) ?_; intro a106 hF107; clear hF105
   refine nlH (hQ82 _ _ ?_); clear hQ82 hQ82Q
   refine wp_ret ?_
   refine thr ?_
   refine rt (fn := Try.f3) (v := .bool ((((rangesS u0 u1 u2).2) == 3) && ((((rangesS u0 u1 u2).1).length : Int) == 0))) hF107 (re1 hF107 (fn := Try.f3) rfl (by kernel_rfl)) ?_
   exact ⟨(((rangesS u0 u1 u2).2) == 3) && ((((rangesS u0 u1 u2).1).length : Int) == 0), rfl, hp80, hM86.below⟩
  · -- no
   have hp108 := hp38.2 hb79; clear hp38
   refine wp_skip ?_
   refine thn ?_
   have hF109 : Fr 85 [] [⟨0, [], .int .i64 u0⟩, ⟨1, [], .int .i64 u1⟩, ⟨2, [], .bool u2⟩, ⟨7, [], .slice ao15 ((rangesS u0 u1 u2).1).length cap16⟩, ⟨8, [], .int .i64 ((rangesS u0 u1 u2).2)⟩, ⟨9, [], .int .i64 536870911⟩] a77 := hF78.region (by kernel_rfl) (by kernel_rfl); clear hF78
   refine sqH ?_; intro hQ110Q hQ110
   refine s1 hF109 10 (.slice none 0 0) ?_; intro a111 hF112; clear hF109
   refine nlH (hQ110 _ _ ?_); clear hQ110 hQ110Q
   refine wp_seq ?_
   refine wp_block ?_
   have hF113 : Fr 85 [] [⟨0, [], .int .i64 u0⟩, ⟨1, [], .int .i64 u1⟩, ⟨2, [], .bool u2⟩, ⟨7, [], .slice ao15 ((rangesS u0 u1 u2).1).length cap16⟩, ⟨8, [], .int .i64 ((rangesS u0 u1 u2).2)⟩, ⟨9, [], .int .i64 536870911⟩, ⟨10, [], .slice none 0 0⟩] a111 := hF112.region (by kernel_rfl) (by kernel_rfl); clear hF112
   have hM115 : Mem w.heap.size [] w Z [.own tyFilter 28 none 0 ([] : List Filter), .own tyFilter 28 ao15 cap16 ((rangesS u0 u1 u2).1)] Z17 wd45 := hM46.addNil tyFilter 28 (by decide); clear hM46
   have hF116 : Fr 85 [] [⟨0, [], .int .i64 u0⟩, ⟨1, [], .int .i64 u1⟩, ⟨2, [], .bool u2⟩, ⟨7, [], .slice ao15 ((rangesS u0 u1 u2).1).length cap16⟩, ⟨8, [], .int .i64 ((rangesS u0 u1 u2).2)⟩, ⟨9, [], .int .i64 536870911⟩, ⟨10, [], .slice none ([] : List Filter).length 0⟩] a111 := hF113.region (by kernel_rfl) (by kernel_rfl); clear hF113
   obtain ⟨inv114, mu114, hI119, hr118⟩ := hp108
   refine lp (ι := Int × (List Filter) × (Option Addr) × Nat) (fun (s : Int × (List Filter) × (Option Addr) × Nat) => [⟨0, [], .int .i64 s.1⟩, ⟨1, [], .int .i64 u1⟩, ⟨2, [], .bool u2⟩, ⟨7, [], .slice ao15 ((rangesS u0 u1 u2).1).length cap16⟩, ⟨8, [], .int .i64 ((rangesS u0 u1 u2).2)⟩, ⟨9, [], .int .i64 536870911⟩, ⟨10, [], .slice s.2.2.1 s.2.1.length s.2.2.2⟩]) (fun (s : Int × (List Filter) × (Option Addr) × Nat) => [.own tyFilter 28 s.2.2.1 s.2.2.2 s.2.1, .own tyFilter 28 ao15 cap16 ((rangesS u0 u1 u2).1)]) (fun (s : Int × (List Filter) × (Option Addr) × Nat) => Z17) (fun (s : Int × (List Filter) × (Option Addr) × Nat) => inv114 s.1 s.2.1) (fun (s : Int × (List Filter) × (Option Addr) × Nat) => mu114 s.1 s.2.1) ⟨u0, ([] : List Filter), none, 0⟩ hI119 (by exact hF116.region (by kernel_rfl) (by kernel_rfl)) (by exact hM115) ?_
   rintro ⟨x0, x10, aox10, capx10⟩ hI117 a121 wd122 hF123 hM124
   have hF125 : Fr 85 [] [⟨0, [], .int .i64 x0⟩, ⟨1, [], .int .i64 u1⟩, ⟨2, [], .bool u2⟩, ⟨7, [], .slice ao15 ((rangesS u0 u1 u2).1).length cap16⟩, ⟨8, [], .int .i64 ((rangesS u0 u1 u2).2)⟩, ⟨9, [], .int .i64 536870911⟩, ⟨10, [], .slice aox10 x10.length capx10⟩] a121 := hF123; clear hF123 hF116
   have hM126 : Mem w.heap.size [] w Z [.own tyFilter 28 aox10 capx10 x10, .own tyFilter 28 ao15 cap16 ((rangesS u0 u1 u2).1)] Z17 wd122 := hM124; clear hM124 hM115
   have hp127 := hr118 x0 x10 hI117
   refine wp_seq ?_
   refine sqH ?_; intro hQ128Q hQ128
   refine s1 hF125 46 (.int .i64 x0) ?_; intro a129 hF130; clear hF125
   refine s1 hF130 47 (.int .i64 u1) ?_; intro a131 hF132; clear hF130
   refine s1 hF132 48 (.bool (decide (x0 ≤ u1))) ?_; intro a133 hF134; clear hF132
   refine nlH (hQ128 _ _ ?_); clear hQ128 hQ128Q
   refine cd hF134 (t := decide (x0 ≤ u1)) (by kernel_rfl) (fun hb135 => ?_) (fun hb135 => ?_)
   · -- yes
    have hp136 := hp127.1 hb135; clear hp127
    refine wp_skip ?_
    refine thn ?_
    refine wp_block ?_
    refine sqH ?_; intro hQ137Q hQ137
    refine s1 hF134 11 (.int .i64 1) ?_; intro a138 hF139; clear hF134
    refine nlH (hQ137 _ _ ?_); clear hQ137 hQ137Q
    refine wp_seq ?_
    refine wp_block ?_
    have hF140 : Fr 85 [] [⟨0, [], .int .i64 x0⟩, ⟨1, [], .int .i64 u1⟩, ⟨2, [], .bool u2⟩, ⟨7, [], .slice ao15 ((rangesS u0 u1 u2).1).length cap16⟩, ⟨8, [], .int .i64 ((rangesS u0 u1 u2).2)⟩, ⟨9, [], .int .i64 536870911⟩, ⟨10, [], .slice aox10 x10.length capx10⟩, ⟨11, [], .int .i64 1⟩] a138 := hF139.region (by kernel_rfl) (by kernel_rfl); clear hF139
    have hF142 : Fr 85 [] [⟨0, [], .int .i64 x0⟩, ⟨1, [], .int .i64 u1⟩, ⟨2, [], .bool u2⟩, ⟨7, [], .slice ao15 ((rangesS u0 u1 u2).1).length cap16⟩, ⟨8, [], .int .i64 ((rangesS u0 u1 u2).2)⟩, ⟨9, [], .int .i64 536870911⟩, ⟨10, [], .slice aox10 x10.length capx10⟩, ⟨11, [], .int .i64 1⟩] a138 := hF140.region (by kernel_rfl) (by kernel_rfl); clear hF140
    obtain ⟨inv141, mu141, hI145, hr144⟩ := hp136
    refine lp (ι := Int) (fun (s : Int) => [⟨0, [], .int .i64 x0⟩, ⟨1, [], .int .i64 u1⟩, ⟨2, [], .bool u2⟩, ⟨7, [], .slice ao15 ((rangesS u0 u1 u2).1).length cap16⟩, ⟨8, [], .int .i64 ((rangesS u0 u1 u2).2)⟩, ⟨9, [], .int .i64 536870911⟩, ⟨10, [], .slice aox10 x10.length capx10⟩, ⟨11, [], .int .i64 s⟩]) (fun (s : Int) => [.own tyFilter 28 aox10 capx10 x10, .own tyFilter 28 ao15 cap16 ((rangesS u0 u1 u2).1)]) (fun (s : Int) => Z17) (fun (s : Int) => inv141 s) (fun (s : Int) => mu141 s) 1 hI145 (by exact hF142.region (by kernel_rfl) (by kernel_rfl)) (by exact hM126) ?_
    rintro x11 hI143 a147 wd148 hF149 hM150
    have hF151 : Fr 85 [] [⟨0, [], .int .i64 x0⟩, ⟨1, [], .int .i64 u1⟩, ⟨2, [], .bool u2⟩, ⟨7, [], .slice ao15 ((rangesS u0 u1 u2).1).length cap16⟩, ⟨8, [], .int .i64 ((rangesS u0 u1 u2).2)⟩, ⟨9, [], .int .i64 536870911⟩, ⟨10, [], .slice aox10 x10.length capx10⟩, ⟨11, [], .int .i64 x11⟩] a147 := hF149; clear hF149 hF142
    have hM152 : Mem w.heap.size [] w Z [.own tyFilter 28 aox10 capx10 x10, .own tyFilter 28 ao15 cap16 ((rangesS u0 u1 u2).1)] Z17 wd148 := hM150; clear hM150 hM126
    have hp153 := hr144 x11 hI143
    refine wp_seq ?_
    refine sqH ?_; intro hQ154Q hQ154
    refine s1 hF151 49 (.int .i64 x0) ?_; intro a155 hF156; clear hF151
    refine s1 hF156 50 (.int .i64 x11) ?_; intro a157 hF158; clear hF156
    refine s1 hF158 51 (.int .i64 (w64 (2 * x11))) ?_; intro a159 hF160; clear hF158
    have hc161 := hp153.1; have hp162 := hp153.2; clear hp153
    refine st hF160 (.int .i64 (x0.tmod (w64 (2 * x11)))) (nog rfl _) rfl (by kernel_rfl) (rem_run hF160 (g := []) rfl (by kernel_rfl) (by kernel_rfl) hc161 rfl) ?_; intro a163 hF164; clear hF160
    refine s1 hF164 53 (.bool ((x0.tmod (w64 (2 * x11))) == 0)) ?_; intro a165 hF166; clear hF164
    refine s1 hF166 54 (.bool ((x0.tmod (w64 (2 * x11))) == 0)) ?_; intro a167 hF168; clear hF166
    have hF169 := hF168.atom (((x0.tmod (w64 (2 * x11))) == 0) == true) (by kernel_rfl); clear hF168
    refine gp hF169 55 0 [] ((x0.tmod (w64 (2 * x11))) == 0) (.int .i64 x0) rfl rfl ?_; intro a170 hF171; clear hF169
    refine gp hF171 56 0 [] ((x0.tmod (w64 (2 * x11))) == 0) (.int .i64 x11) rfl rfl ?_; intro a172 hF173; clear hF171
    refine gp hF173 57 0 [] ((x0.tmod (w64 (2 * x11))) == 0) (.int .i64 (w64 (2 * x11))) rfl rfl ?_; intro a174 hF175; clear hF173
    refine gp hF175 58 0 [] ((x0.tmod (w64 (2 * x11))) == 0) (.int .i64 (w64 (x0 + (w64 (2 * x11))))) rfl rfl ?_; intro a176 hF177; clear hF175
    refine gp hF177 59 0 [] ((x0.tmod (w64 (2 * x11))) == 0) (.int .i64 (w64 ((w64 (x0 + (w64 (2 * x11)))) - 1))) rfl rfl ?_; intro a178 hF179; clear hF177
    refine gp hF179 60 0 [] ((x0.tmod (w64 (2 * x11))) == 0) (.int .i64 u1) rfl rfl ?_; intro a180 hF181; clear hF179
    refine gp hF181 61 0 [] ((x0.tmod (w64 (2 * x11))) == 0) (.bool (decide ((w64 ((w64 (x0 + (w64 (2 * x11)))) - 1)) ≤ u1))) rfl rfl ?_; intro a182 hF183; clear hF181
    refine st hF183 (.bool (((x0.tmod (w64 (2 * x11))) == 0) && (decide ((w64 ((w64 (x0 + (w64 (2 * x11)))) - 1)) ≤ u1)))) (nog rfl _) rfl (by kernel_rfl) (pk_and hF183 (g := []) (m := 0) (b := (x0.tmod (w64 (2 * x11))) == 0) (v := decide ((w64 ((w64 (x0 + (w64 (2 * x11)))) - 1)) ≤ u1)) rfl (by kernel_rfl) (by kernel_rfl) (by kernel_rfl) rfl) ?_; intro a184 hF185; clear hF183
    refine nlH (hQ154 _ _ ?_); clear hQ154 hQ154Q
    refine cd hF185 (t := ((x0.tmod (w64 (2 * x11))) == 0) && (decide ((w64 ((w64 (x0 + (w64 (2 * x11)))) - 1)) ≤ u1))) (by kernel_rfl) (fun hb186 => ?_) (fun hb186 => ?_)
    · -- yes
     have hp187 := hp162.1 hb186; clear hp162
     refine wp_skip ?_
     refine thn ?_
     refine wp_block ?_
     have hF188 : Fr 85 [] [⟨0, [], .int .i64 x0⟩, ⟨1, [], .int .i64 u1⟩, ⟨2, [], .bool u2⟩, ⟨7, [], .slice ao15 ((rangesS u0 u1 u2).1).length cap16⟩, ⟨8, [], .int .i64 ((rangesS u0 u1 u2).2)⟩, ⟨9, [], .int .i64 536870911⟩, ⟨10, [], .slice aox10 x10.length capx10⟩, ⟨11, [], .int .i64 x11⟩] a184 := hF185.region (by kernel_rfl) (by kernel_rfl); clear hF185
     refine rgH ?_; intro hQ189Q hQ189
     refine s1 hF188 63 (.int .i64 x11) ?_; intro a190 hF191; clear hF188
     refine s1 hF191 64 (.int .i64 (w64 (x11 * 2))) ?_; intro a192 hF193; clear hF191
     refine s1 hF193 11 (.int .i64 (w64 (x11 * 2))) ?_; intro a194 hF195; clear hF193
     refine nlH (hQ189 _ _ ?_); clear hQ189 hQ189Q
     refine ibn ?_
     refine rd ?_
     exact ⟨w64 (x11 * 2), hp187.1, hp187.2, (hF195.region (by kernel_rfl) (by kernel_rfl)).anyβ _ (by kernel_rfl), hM152.keep (List.Sublist.cons_cons _ (List.Sublist.cons_cons _ (List.Sublist.slnil)))⟩
    · -- no
     have hp196 := hp162.2 hb186; clear hp162
     refine wp_exit ?_
     refine thx ?_
     refine thx ?_
     refine ibx ?_
     refine thn ?_
     have hF197 : Fr 85 [] [⟨0, [], .int .i64 x0⟩, ⟨1, [], .int .i64 u1⟩, ⟨2, [], .bool u2⟩, ⟨7, [], .slice ao15 ((rangesS u0 u1 u2).1).length cap16⟩, ⟨8, [], .int .i64 ((rangesS u0 u1 u2).2)⟩, ⟨9, [], .int .i64 536870911⟩, ⟨10, [], .slice aox10 x10.length capx10⟩, ⟨11, [], .int .i64 x11⟩] a184 := hF185.region (by kernel_rfl) (by kernel_rfl); clear hF185
     refine sqH ?_; intro hQ198Q hQ198
     refine s1 hF197 65 (.slice aox10 x10.length capx10) ?_; intro a199 hF200; clear hF197
     refine s1 hF200 66 (.int .i64 x0) ?_; intro a201 hF202; clear hF200
     refine s1 hF202 67 (.int .i64 536870911) ?_; intro a203 hF204; clear hF202
     refine s1 hF204 68 (.int .i64 x11) ?_; intro a205 hF206; clear hF204
     refine s1 hF206 69 (.int .i64 (w64 (x11 - 1))) ?_; intro a207 hF208; clear hF206
     refine s1 hF208 70 (.int .i64 (w64 (536870911 - (w64 (x11 - 1))))) ?_; intro a209 hF210; clear hF208
     refine s1 hF210 71 (.bool u2) ?_; intro a211 hF212; clear hF210
     refine s1 hF212 72 (.agg #[.int .i64 x0, .int .i64 (w64 (536870911 - (w64 (x11 - 1)))), .bool u2]) ?_; intro a213 hF214; clear hF212
     refine sn hF214 hM152 (fun b => .slice (some ⟨b, 0, none⟩) 1 1) [.int .i64 x0, .int .i64 (w64 (536870911 - (w64 (x11 - 1)))), .bool u2] 28 (nog rfl _) rfl (by kernel_rfl) (by kernel_rfl) ?_; intro b215 a216 wd218 hF217 hM219; clear hF214 hM152
     have hc220 := hp196.1; have hp221 := hp196.2; clear hp196
     refine ap hF217 hM219 1 (T := tyFilter) (xs := x10) (ys := [(⟨x0, w64 (536870911 - (w64 (x11 - 1))), u2⟩ : Filter)]) (ao := aox10) (cap := capx10) (ao2 := (some ⟨b215, 0, none⟩)) (cap2 := 1) (t := 22) (e := 28) (bytes := 24) (nog rfl _) rfl (by kernel_rfl) rfl (by kernel_rfl) (by kernel_rfl) (by kernel_rfl) rfl (Src.row hM219 0 rfl (RepAll.one (T := tyFilter) (x := (⟨x0, w64 (536870911 - (w64 (x11 - 1))), u2⟩ : Filter)) rfl)) hc220 ?_; intro ao222 cap223 a227 wd224 hnil225 hF228 hM226; clear hF217 hM219
     have hM229 : Mem w.heap.size [] w Z [.row b215 [.int .i64 x0, .int .i64 (w64 (536870911 - (w64 (x11 - 1)))), .bool u2] 28, .own tyFilter 28 ao222 cap223 (x10 ++ [(⟨x0, w64 (536870911 - (w64 (x11 - 1))), u2⟩ : Filter)]), .own tyFilter 28 ao15 cap16 ((rangesS u0 u1 u2).1)] Z17 wd224 := hM226; clear hM226
     refine s1 hF228 10 (.slice ao222 (x10 ++ [(⟨x0, w64 (536870911 - (w64 (x11 - 1))), u2⟩ : Filter)]).length cap223) ?_; intro a230 hF231; clear hF228
     refine nlH (hQ198 _ _ ?_); clear hQ198 hQ198Q
     refine rgH ?_; intro hQ232Q hQ232
     refine s1 hF231 75 (.int .i64 x0) ?_; intro a233 hF234; clear hF231
     refine s1 hF234 76 (.int .i64 x11) ?_; intro a235 hF236; clear hF234
     refine s1 hF236 77 (.int .i64 (w64 (x0 + x11))) ?_; intro a237 hF238; clear hF236
     refine s1 hF238 0 (.int .i64 (w64 (x0 + x11))) ?_; intro a239 hF240; clear hF238
     refine nlH (hQ232 _ _ ?_); clear hQ232 hQ232Q
     refine ibn ?_
     refine rd ?_
     exact ⟨⟨w64 (x0 + x11), x10 ++ [(⟨x0, w64 (536870911 - (w64 (x11 - 1))), u2⟩ : Filter)], ao222, cap223⟩, hp221.1, hp221.2, (hF240.region (by kernel_rfl) (by kernel_rfl)).anyβ _ (by kernel_rfl), hM229.keep (List.Sublist.cons _ (List.Sublist.cons_cons _ (List.Sublist.cons_cons _ (List.Sublist.slnil))))⟩
   · -- no
    have hp241 := hp127.2 hb135; clear hp127
    refine wp_exit ?_
    refine thx ?_
    refine thx ?_
    refine ibx ?_
    refine thn ?_
    refine sqH ?_; intro hQ242Q hQ242
    refine s1 hF134 78 (.int .i64 ((rangesS u0 u1 u2).2)) ?_; intro a243 hF244; clear hF134
    refine s1 hF244 79 (.bool (((rangesS u0 u1 u2).2) == 0)) ?_; intro a245 hF246; clear hF244
    refine s1 hF246 80 (.bool (((rangesS u0 u1 u2).2) == 0)) ?_; intro a247 hF248; clear hF246
    have hF249 := hF248.atom ((((rangesS u0 u1 u2).2) == 0) == true) (by kernel_rfl); clear hF248
    refine gp hF249 81 0 [] (((rangesS u0 u1 u2).2) == 0) (.slice ao15 ((rangesS u0 u1 u2).1).length cap16) rfl rfl ?_; intro a250 hF251; clear hF249
    refine gp hF251 82 0 [] (((rangesS u0 u1 u2).2) == 0) (.slice aox10 x10.length capx10) rfl rfl ?_; intro a252 hF253; clear hF251
    obtain ⟨Z254, hle255, hM256, hs257⟩ := hM126.freeze 1 rfl
    replace hle0 := Fz.le.trans hle0 hle255
    have hM258 : Mem w.heap.size [] w Z [.own tyFilter 28 aox10 capx10 x10] Z254 wd122 := hM256; clear hM256
    obtain ⟨Z259, hle260, hM261, hs262⟩ := hM258.freeze 0 rfl
    replace hs257 := hs257.mono hle260
    replace hle0 := Fz.le.trans hle0 hle260
    have hM263 : Mem w.heap.size [] w Z [] Z259 wd122 := hM261; clear hM261
    refine gcl hF253 hM263 (.bool (feqS ((rangesS u0 u1 u2).1) x10)) 17 #[.slice ao15 ((rangesS u0 u1 u2).1).length cap16, .slice aox10 x10.length capx10] (m := 0) (cj := []) (bj := ((rangesS u0 u1 u2).2) == 0) rfl rfl (by kernel_rfl) rfl (by kernel_rfl) (by kernel_rfl) (by kernel_rfl) (fun _ => by kernel_rfl) (fun hg => feq_fun ((rangesS u0 u1 u2).1) x10 ao15 cap16 aox10 capx10 _ _ hs257 hs262 hM263.fz) ?_; intro a264 wd266 hF265 hM267; clear hF253 hM263
    refine st hF265 (.bool ((((rangesS u0 u1 u2).2) == 0) && (feqS ((rangesS u0 u1 u2).1) x10))) (nog rfl _) rfl (by kernel_rfl) (pk_and hF265 (g := []) (m := 0) (b := ((rangesS u0 u1 u2).2) == 0) (v := (feqS ((rangesS u0 u1 u2).1) x10)) rfl (by kernel_rfl) (by kernel_rfl) (by kernel_rfl) rfl) ?_; intro a268 hF269; clear hF265
    refine s1 hF269 6 (.bool ((((rangesS u0 u1 u2).2) == 0) && (feqS ((rangesS u0 u1 u2).1) x10))) ?_; intro a270 hF271; clear hF269
    refine nlH (hQ242 _ _ ?_); clear hQ242 hQ242Q
    refine wp_ret ?_
    refine rt (fn := Try.f3) (v := .bool ((((rangesS u0 u1 u2).2) == 0) && (feqS ((rangesS u0 u1 u2).1) x10))) hF271 (re1 hF271 (fn := Try.f3) rfl (by kernel_rfl)) ?_
    exact ⟨(((rangesS u0 u1 u2).2) == 0) && (feqS ((rangesS u0 u1 u2).1) x10), rfl, hp241, hM267.below⟩
 · -- no
  have hp272 := hp20.2 hb37; clear hp20
  refine wp_skip ?_
  refine thn ?_
  refine wp_seq ?_
  refine sqH ?_; intro hQ273Q hQ273
  refine fcl hF36 hM19 (.bool true) 16 #[] (nog rfl _) rfl (by kernel_rfl) (fun _ => by kernel_rfl) (filtered_fun  _ _ hM19.fz) ?_; intro a274 wd276 hF275 hM277; clear hF36 hM19
  refine s1 hF275 21 (.bool false) ?_; intro a278 hF279; clear hF275
  refine s1 hF279 22 (.bool false) ?_; intro a280 hF281; clear hF279
  refine st hF281 (.int .i64 u0) (by rw [wanted_of hF281 (b := false) rfl rfl (by kernel_rfl) (by kernel_rfl)]; rfl) rfl (by kernel_rfl) (p0 hF281 (by kernel_rfl)) ?_; intro a282 hF283; clear hF281
  refine st hF283 (.bool (decide (u0 < 0))) (by rw [wanted_of hF283 (b := false) rfl rfl (by kernel_rfl) (by kernel_rfl)]; rfl) rfl (by kernel_rfl) (p0 hF283 (by kernel_rfl)) ?_; intro a284 hF285; clear hF283
  refine s1 hF285 25 (.bool (decide (u0 < 0))) ?_; intro a286 hF287; clear hF285
  refine s1 hF287 26 (.bool (decide (u0 < 0))) ?_; intro a288 hF289; clear hF287
  have hF290 := hF289.atom ((decide (u0 < 0)) == false) (by kernel_rfl); clear hF289
  refine gp hF290 27 0 [] (decide (u0 < 0)) (.int .i64 u1) rfl rfl ?_; intro a291 hF292; clear hF290
  refine gp hF292 28 0 [] (decide (u0 < 0)) (.int .i64 2047) rfl rfl ?_; intro a293 hF294; clear hF292
  refine gp hF294 29 0 [] (decide (u0 < 0)) (.bool (decide (u1 > 2047))) rfl rfl ?_; intro a295 hF296; clear hF294
  refine st hF296 (.bool ((decide (u0 < 0)) || (decide (u1 > 2047)))) (nog rfl _) rfl (by kernel_rfl) (pk_or hF296 (g := []) (m := 0) (b := decide (u0 < 0)) (v := decide (u1 > 2047)) rfl (by kernel_rfl) (by kernel_rfl) (by kernel_rfl) rfl) ?_; intro a297 hF298; clear hF296
  refine s1 hF298 31 (.bool ((decide (u0 < 0)) || (decide (u1 > 2047)))) ?_; intro a299 hF300; clear hF298
  have hF301 := hF300.atom (((decide (u0 < 0)) || (decide (u1 > 2047))) == false) (by kernel_rfl); clear hF300
  refine gp hF301 32 1 [] ((decide (u0 < 0)) || (decide (u1 > 2047))) (.int .i64 u0) rfl rfl ?_; intro a302 hF303; clear hF301
  refine gp hF303 33 1 [] ((decide (u0 < 0)) || (decide (u1 > 2047))) (.int .i64 u1) rfl rfl ?_; intro a304 hF305; clear hF303
  refine gp hF305 34 1 [] ((decide (u0 < 0)) || (decide (u1 > 2047))) (.bool (decide (u0 > u1))) rfl rfl ?_; intro a306 hF307; clear hF305
  refine st hF307 (.bool (((decide (u0 < 0)) || (decide (u1 > 2047))) || (decide (u0 > u1)))) (nog rfl _) rfl (by kernel_rfl) (pk_or hF307 (g := []) (m := 1) (b := (decide (u0 < 0)) || (decide (u1 > 2047))) (v := decide (u0 > u1)) rfl (by kernel_rfl) (by kernel_rfl) (by kernel_rfl) rfl) ?_; intro a308 hF309; clear hF307
  refine nlH (hQ273 _ _ ?_); clear hQ273 hQ273Q
  refine cd hF309 (t := ((decide (u0 < 0)) || (decide (u1 > 2047))) || (decide (u0 > u1))) (by kernel_rfl) (fun hb310 => ?_) (fun hb310 => ?_)
  · -- yes
   have hp311 := hp272.1 hb310; clear hp272
   have hF312 : Fr 85 [] [⟨7, [], .slice ao15 ((rangesS u0 u1 u2).1).length cap16⟩, ⟨8, [], .int .i64 ((rangesS u0 u1 u2).2)⟩] a308 := hF309.region (by kernel_rfl) (by kernel_rfl); clear hF309
   refine sqH ?_; intro hQ313Q hQ313
   refine fcl hF312 hM277 (.bool true) 16 #[] (nog rfl _) rfl (by kernel_rfl) (fun _ => by kernel_rfl) (filtered_fun  _ _ hM277.fz) ?_; intro a314 wd316 hF315 hM317; clear hF312 hM277
   refine s1 hF315 37 (.bool true) ?_; intro a318 hF319; clear hF315
   refine st hF319 (.int .i64 ((rangesS u0 u1 u2).2)) (by rw [wanted_of hF319 (b := true) rfl rfl (by kernel_rfl) (by kernel_rfl)]; rfl) rfl (by kernel_rfl) (p0 hF319 (by kernel_rfl)) ?_; intro a320 hF321; clear hF319
   refine st hF321 (.bool (((rangesS u0 u1 u2).2) == 3)) (by rw [wanted_of hF321 (b := true) rfl rfl (by kernel_rfl) (by kernel_rfl)]; rfl) rfl (by kernel_rfl) (p0 hF321 (by kernel_rfl)) ?_; intro a322 hF323; clear hF321
   refine s1 hF323 40 (.bool (((rangesS u0 u1 u2).2) == 3)) ?_; intro a324 hF325; clear hF323
   refine s1 hF325 41 (.bool (((rangesS u0 u1 u2).2) == 3)) ?_; intro a326 hF327; clear hF325
   have hF328 := hF327.atom ((((rangesS u0 u1 u2).2) == 3) == true) (by kernel_rfl); clear hF327
   refine gp hF328 42 0 [] (((rangesS u0 u1 u2).2) == 3) (.slice ao15 ((rangesS u0 u1 u2).1).length cap16) rfl rfl ?_; intro a329 hF330; clear hF328
   refine gp hF330 43 0 [] (((rangesS u0 u1 u2).2) == 3) (.int .i64 (((rangesS u0 u1 u2).1).length : Int)) rfl rfl ?_; intro a331 hF332; clear hF330
   refine gp hF332 44 0 [] (((rangesS u0 u1 u2).2) == 3) (.bool ((((rangesS u0 u1 u2).1).length : Int) == 0)) rfl rfl ?_; intro a333 hF334; clear hF332
   refine st hF334 (.bool ((((rangesS u0 u1 u2).2) == 3) && ((((rangesS u0 u1 u2).1).length : Int) == 0))) (nog rfl _) rfl (by kernel_rfl) (pk_and hF334 (g := []) (m := 0) (b := ((rangesS u0 u1 u2).2) == 3) (v := (((rangesS u0 u1 u2).1).length : Int) == 0) rfl (by kernel_rfl) (by kernel_rfl) (by kernel_rfl) rfl) ?_; intro a335 hF336; clear hF334
   refine s1 hF336 6 (.bool ((((rangesS u0 u1 u2).2) == 3) && ((((rangesS u0 u1 u2).1).length : Int) == 0))) ?_; intro a337 hF338; clear hF336
   refine nlH (hQ313 _ _ ?_); clear hQ313 hQ313Q
   refine wp_ret ?_
   refine thr ?_
   refine rt (fn := Try.f3) (v := .bool ((((rangesS u0 u1 u2).2) == 3) && ((((rangesS u0 u1 u2).1).length : Int) == 0))) hF338 (re1 hF338 (fn := Try.f3) rfl (by kernel_rfl)) ?_
   exact ⟨(((rangesS u0 u1 u2).2) == 3) && ((((rangesS u0 u1 u2).1).length : Int) == 0), rfl, hp311, hM317.below⟩
  · -- no
   have hp339 := hp272.2 hb310; clear hp272
   refine wp_skip ?_
   refine thn ?_
   have hF340 : Fr 85 [] [⟨0, [], .int .i64 u0⟩, ⟨1, [], .int .i64 u1⟩, ⟨2, [], .bool u2⟩, ⟨7, [], .slice ao15 ((rangesS u0 u1 u2).1).length cap16⟩, ⟨8, [], .int .i64 ((rangesS u0 u1 u2).2)⟩, ⟨9, [], .int .i64 2047⟩] a308 := hF309.region (by kernel_rfl) (by kernel_rfl); clear hF309
   refine sqH ?_; intro hQ341Q hQ341
   refine s1 hF340 10 (.slice none 0 0) ?_; intro a342 hF343; clear hF340
   refine nlH (hQ341 _ _ ?_); clear hQ341 hQ341Q
   refine wp_seq ?_
   refine wp_block ?_
   have hF344 : Fr 85 [] [⟨0, [], .int .i64 u0⟩, ⟨1, [], .int .i64 u1⟩, ⟨2, [], .bool u2⟩, ⟨7, [], .slice ao15 ((rangesS u0 u1 u2).1).length cap16⟩, ⟨8, [], .int .i64 ((rangesS u0 u1 u2).2)⟩, ⟨9, [], .int .i64 2047⟩, ⟨10, [], .slice none 0 0⟩] a342 := hF343.region (by kernel_rfl) (by kernel_rfl); clear hF343
   have hM346 : Mem w.heap.size [] w Z [.own tyFilter 28 none 0 ([] : List Filter), .own tyFilter 28 ao15 cap16 ((rangesS u0 u1 u2).1)] Z17 wd276 := hM277.addNil tyFilter 28 (by decide); clear hM277
   have hF347 : Fr 85 [] [⟨0, [], .int .i64 u0⟩, ⟨1, [], .int .i64 u1⟩, ⟨2, [], .bool u2⟩, ⟨7, [], .slice ao15 ((rangesS u0 u1 u2).1).length cap16⟩, ⟨8, [], .int .i64 ((rangesS u0 u1 u2).2)⟩, ⟨9, [], .int .i64 2047⟩, ⟨10, [], .slice none ([] : List Filter).length 0⟩] a342 := hF344.region (by kernel_rfl) (by kernel_rfl); clear hF344
   obtain ⟨inv345, mu345, hI350, hr349⟩ := hp339
   refine lp (ι := Int × (List Filter) × (Option Addr) × Nat) (fun (s : Int × (List Filter) × (Option Addr) × Nat) => [⟨0, [], .int .i64 s.1⟩, ⟨1, [], .int .i64 u1⟩, ⟨2, [], .bool u2⟩, ⟨7, [], .slice ao15 ((rangesS u0 u1 u2).1).length cap16⟩, ⟨8, [], .int .i64 ((rangesS u0 u1 u2).2)⟩, ⟨9, [], .int .i64 2047⟩, ⟨10, [], .slice s.2.2.1 s.2.1.length s.2.2.2⟩]) (fun (s : Int × (List Filter) × (Option Addr) × Nat) => [.own tyFilter 28 s.2.2.1 s.2.2.2 s.2.1, .own tyFilter 28 ao15 cap16 ((rangesS u0 u1 u2).1)]) (fun (s : Int × (List Filter) × (Option Addr) × Nat) => Z17) (fun (s : Int × (List Filter) × (Option Addr) × Nat) => inv345 s.1 s.2.1) (fun (s : Int × (List Filter) × (Option Addr) × Nat) => mu345 s.1 s.2.1) ⟨u0, ([] : List Filter), none, 0⟩ hI350 (by exact hF347.region (by kernel_rfl) (by kernel_rfl)) (by exact hM346) ?_
   rintro ⟨x0, x10, aox10, capx10⟩ hI348 a352 wd353 hF354 hM355
   have hF356 : Fr 85 [] [⟨0, [], .int .i64 x0⟩, ⟨1, [], .int .i64 u1⟩, ⟨2, [], .bool u2⟩, ⟨7, [], .slice ao15 ((rangesS u0 u1 u2).1).length cap16⟩, ⟨8, [], .int .i64 ((rangesS u0 u1 u2).2)⟩, ⟨9, [], .int .i64 2047⟩, ⟨10, [], .slice aox10 x10.length capx10⟩] a352 := hF354; clear hF354 hF347
   have hM357 : Mem w.heap.size [] w Z [.own tyFilter 28 aox10 capx10 x10, .own tyFilter 28 ao15 cap16 ((rangesS u0 u1 u2).1)] Z17 wd353 := hM355; clear hM355 hM346
   have hp358 := hr349 x0 x10 hI348
   refine wp_seq ?_
   refine sqH ?_; intro hQ359Q hQ359
   refine s1 hF356 46 (.int .i64 x0) ?_; intro a360 hF361; clear hF356
   refine s1 hF361 47 (.int .i64 u1) ?_; intro a362 hF363; clear hF361
   refine s1 hF363 48 (.bool (decide (x0 ≤ u1))) ?_; intro a364 hF365; clear hF363
   refine nlH (hQ359 _ _ ?_); clear hQ359 hQ359Q
   refine cd hF365 (t := decide (x0 ≤ u1)) (by kernel_rfl) (fun hb366 => ?_) (fun hb366 => ?_)
   · -- yes
    have hp367 := hp358.1 hb366; clear hp358
    refine wp_skip ?_
    refine thn ?_
    refine wp_block ?_
    refine sqH ?_; intro hQ368Q hQ368
    refine s1 hF365 11 (.int .i64 1) ?_; intro a369 hF370; clear hF365
    refine nlH (hQ368 _ _ ?_); clear hQ368 hQ368Q
    refine wp_seq ?_
    refine wp_block ?_
    have hF371 : Fr 85 [] [⟨0, [], .int .i64 x0⟩, ⟨1, [], .int .i64 u1⟩, ⟨2, [], .bool u2⟩, ⟨7, [], .slice ao15 ((rangesS u0 u1 u2).1).length cap16⟩, ⟨8, [], .int .i64 ((rangesS u0 u1 u2).2)⟩, ⟨9, [], .int .i64 2047⟩, ⟨10, [], .slice aox10 x10.length capx10⟩, ⟨11, [], .int .i64 1⟩] a369 := hF370.region (by kernel_rfl) (by kernel_rfl); clear hF370
    have hF373 : Fr 85 [] [⟨0, [], .int .i64 x0⟩, ⟨1, [], .int .i64 u1⟩, ⟨2, [], .bool u2⟩, ⟨7, [], .slice ao15 ((rangesS u0 u1 u2).1).length cap16⟩, ⟨8, [], .int .i64 ((rangesS u0 u1 u2).2)⟩, ⟨9, [], .int .i64 2047⟩, ⟨10, [], .slice aox10 x10.length capx10⟩, ⟨11, [], .int .i64 1⟩] a369 := hF371.region (by kernel_rfl) (by kernel_rfl); clear hF371
    obtain ⟨inv372, mu372, hI376, hr375⟩ := hp367
    refine lp (ι := Int) (fun (s : Int) => [⟨0, [], .int .i64 x0⟩, ⟨1, [], .int .i64 u1⟩, ⟨2, [], .bool u2⟩, ⟨7, [], .slice ao15 ((rangesS u0 u1 u2).1).length cap16⟩, ⟨8, [], .int .i64 ((rangesS u0 u1 u2).2)⟩, ⟨9, [], .int .i64 2047⟩, ⟨10, [], .slice aox10 x10.length capx10⟩, ⟨11, [], .int .i64 s⟩]) (fun (s : Int) => [.own tyFilter 28 aox10 capx10 x10, .own tyFilter 28 ao15 cap16 ((rangesS u0 u1 u2).1)]) (fun (s : Int) => Z17) (fun (s : Int) => inv372 s) (fun (s : Int) => mu372 s) 1 hI376 (by exact hF373.region (by kernel_rfl) (by kernel_rfl)) (by exact hM357) ?_
    rintro x11 hI374 a378 wd379 hF380 hM381
    have hF382 : Fr 85 [] [⟨0, [], .int .i64 x0⟩, ⟨1, [], .int .i64 u1⟩, ⟨2, [], .bool u2⟩, ⟨7, [], .slice ao15 ((rangesS u0 u1 u2).1).length cap16⟩, ⟨8, [], .int .i64 ((rangesS u0 u1 u2).2)⟩, ⟨9, [], .int .i64 2047⟩, ⟨10, [], .slice aox10 x10.length capx10⟩, ⟨11, [], .int .i64 x11⟩] a378 := hF380; clear hF380 hF373
    have hM383 : Mem w.heap.size [] w Z [.own tyFilter 28 aox10 capx10 x10, .own tyFilter 28 ao15 cap16 ((rangesS u0 u1 u2).1)] Z17 wd379 := hM381; clear hM381 hM357
    have hp384 := hr375 x11 hI374
    refine wp_seq ?_
    refine sqH ?_; intro hQ385Q hQ385
    refine s1 hF382 49 (.int .i64 x0) ?_; intro a386 hF387; clear hF382
    refine s1 hF387 50 (.int .i64 x11) ?_; intro a388 hF389; clear hF387
    refine s1 hF389 51 (.int .i64 (w64 (2 * x11))) ?_; intro a390 hF391; clear hF389
    have hc392 := hp384.1; have hp393 := hp384.2; clear hp384
    refine st hF391 (.int .i64 (x0.tmod (w64 (2 * x11)))) (nog rfl _) rfl (by kernel_rfl) (rem_run hF391 (g := []) rfl (by kernel_rfl) (by kernel_rfl) hc392 rfl) ?_; intro a394 hF395; clear hF391
    refine s1 hF395 53 (.bool ((x0.tmod (w64 (2 * x11))) == 0)) ?_; intro a396 hF397; clear hF395
    refine s1 hF397 54 (.bool ((x0.tmod (w64 (2 * x11))) == 0)) ?_; intro a398 hF399; clear hF397
    have hF400 := hF399.atom (((x0.tmod (w64 (2 * x11))) == 0) == true) (by kernel_rfl); clear hF399
    refine gp hF400 55 0 [] ((x0.tmod (w64 (2 * x11))) == 0) (.int .i64 x0) rfl rfl ?_; intro a401 hF402; clear hF400
    refine gp hF402 56 0 [] ((x0.tmod (w64 (2 * x11))) == 0) (.int .i64 x11) rfl rfl ?_; intro a403 hF404; clear hF402
    refine gp hF404 57 0 [] ((x0.tmod (w64 (2 * x11))) == 0) (.int .i64 (w64 (2 * x11))) rfl rfl ?_; intro a405 hF406; clear hF404
    refine gp hF406 58 0 [] ((x0.tmod (w64 (2 * x11))) == 0) (.int .i64 (w64 (x0 + (w64 (2 * x11))))) rfl rfl ?_; intro a407 hF408; clear hF406
    refine gp hF408 59 0 [] ((x0.tmod (w64 (2 * x11))) == 0) (.int .i64 (w64 ((w64 (x0 + (w64 (2 * x11)))) - 1))) rfl rfl ?_; intro a409 hF410; clear hF408
    refine gp hF410 60 0 [] ((x0.tmod (w64 (2 * x11))) == 0) (.int .i64 u1) rfl rfl ?_; intro a411 hF412; clear hF410
    refine gp hF412 61 0 [] ((x0.tmod (w64 (2 * x11))) == 0) (.bool (decide ((w64 ((w64 (x0 + (w64 (2 * x11)))) - 1)) ≤ u1))) rfl rfl ?_; intro a413 hF414; clear hF412
    refine st hF414 (.bool (((x0.tmod (w64 (2 * x11))) == 0) && (decide ((w64 ((w64 (x0 + (w64 (2 * x11)))) - 1)) ≤ u1)))) (nog rfl _) rfl (by kernel_rfl) (pk_and hF414 (g := []) (m := 0) (b := (x0.tmod (w64 (2 * x11))) == 0) (v := decide ((w64 ((w64 (x0 + (w64 (2 * x11)))) - 1)) ≤ u1)) rfl (by kernel_rfl) (by kernel_rfl) (by kernel_rfl) rfl) ?_; intro a415 hF416; clear hF414
    refine nlH (hQ385 _ _ ?_); clear hQ385 hQ385Q
    refine cd hF416 (t := ((x0.tmod (w64 (2 * x11))) == 0) && (decide ((w64 ((w64 (x0 + (w64 (2 * x11)))) - 1)) ≤ u1))) (by kernel_rfl) (fun hb417 => ?_) (fun hb417 => ?_)
    · -- yes
     have hp418 := hp393.1 hb417; clear hp393
     refine wp_skip ?_
     refine thn ?_
     refine wp_block ?_
     have hF419 : Fr 85 [] [⟨0, [], .int .i64 x0⟩, ⟨1, [], .int .i64 u1⟩, ⟨2, [], .bool u2⟩, ⟨7, [], .slice ao15 ((rangesS u0 u1 u2).1).length cap16⟩, ⟨8, [], .int .i64 ((rangesS u0 u1 u2).2)⟩, ⟨9, [], .int .i64 2047⟩, ⟨10, [], .slice aox10 x10.length capx10⟩, ⟨11, [], .int .i64 x11⟩] a415 := hF416.region (by kernel_rfl) (by kernel_rfl); clear hF416
     refine rgH ?_; intro hQ420Q hQ420
     refine s1 hF419 63 (.int .i64 x11) ?_; intro a421 hF422; clear hF419
     refine s1 hF422 64 (.int .i64 (w64 (x11 * 2))) ?_; intro a423 hF424; clear hF422
     refine s1 hF424 11 (.int .i64 (w64 (x11 * 2))) ?_; intro a425 hF426; clear hF424
     refine nlH (hQ420 _ _ ?_); clear hQ420 hQ420Q
     refine ibn ?_
     refine rd ?_
     exact ⟨w64 (x11 * 2), hp418.1, hp418.2, (hF426.region (by kernel_rfl) (by kernel_rfl)).anyβ _ (by kernel_rfl), hM383.keep (List.Sublist.cons_cons _ (List.Sublist.cons_cons _ (List.Sublist.slnil)))⟩
    · -- no
     have hp427 := hp393.2 hb417; clear hp393
     refine wp_exit ?_
     refine thx ?_
     refine thx ?_
     refine ibx ?_
     refine thn ?_
     have hF428 : Fr 85 [] [⟨0, [], .int .i64 x0⟩, ⟨1, [], .int .i64 u1⟩, ⟨2, [], .bool u2⟩, ⟨7, [], .slice ao15 ((rangesS u0 u1 u2).1).length cap16⟩, ⟨8, [], .int .i64 ((rangesS u0 u1 u2).2)⟩, ⟨9, [], .int .i64 2047⟩, ⟨10, [], .slice aox10 x10.length capx10⟩, ⟨11, [], .int .i64 x11⟩] a415 := hF416.region (by kernel_rfl) (by kernel_rfl); clear hF416
     refine sqH ?_; intro hQ429Q hQ429
     refine s1 hF428 65 (.slice aox10 x10.length capx10) ?_; intro a430 hF431; clear hF428
     refine s1 hF431 66 (.int .i64 x0) ?_; intro a432 hF433; clear hF431
     refine s1 hF433 67 (.int .i64 2047) ?_; intro a434 hF435; clear hF433
     refine s1 hF435 68 (.int .i64 x11) ?_; intro a436 hF437; clear hF435
     refine s1 hF437 69 (.int .i64 (w64 (x11 - 1))) ?_; intro a438 hF439; clear hF437
     refine s1 hF439 70 (.int .i64 (w64 (2047 - (w64 (x11 - 1))))) ?_; intro a440 hF441; clear hF439
     refine s1 hF441 71 (.bool u2) ?_; intro a442 hF443; clear hF441
     refine s1 hF443 72 (.agg #[.int .i64 x0, .int .i64 (w64 (2047 - (w64 (x11 - 1)))), .bool u2]) ?_; intro a444 hF445; clear hF443
     refine sn hF445 hM383 (fun b => .slice (some ⟨b, 0, none⟩) 1 1) [.int .i64 x0, .int .i64 (w64 (2047 - (w64 (x11 - 1)))), .bool u2] 28 (nog rfl _) rfl (by kernel_rfl) (by kernel_rfl) ?_; intro b446 a447 wd449 hF448 hM450; clear hF445 hM383
     have hc451 := hp427.1; have hp452 := hp427.2; clear hp427
     refine ap hF448 hM450 1 (T := tyFilter) (xs := x10) (ys := [(⟨x0, w64 (2047 - (w64 (x11 - 1))), u2⟩ : Filter)]) (ao := aox10) (cap := capx10) (ao2 := (some ⟨b446, 0, none⟩)) (cap2 := 1) (t := 22) (e := 28) (bytes := 24) (nog rfl _) rfl (by kernel_rfl) rfl (by kernel_rfl) (by kernel_rfl) (by kernel_rfl) rfl (Src.row hM450 0 rfl (RepAll.one (T := tyFilter) (x := (⟨x0, w64 (2047 - (w64 (x11 - 1))), u2⟩ : Filter)) rfl)) hc451 ?_; intro ao453 cap454 a458 wd455 hnil456 hF459 hM457; clear hF448 hM450
     have hM460 : Mem w.heap.size [] w Z [.row b446 [.int .i64 x0, .int .i64 (w64 (2047 - (w64 (x11 - 1)))), .bool u2] 28, .own tyFilter 28 ao453 cap454 (x10 ++ [(⟨x0, w64 (2047 - (w64 (x11 - 1))), u2⟩ : Filter)]), .own tyFilter 28 ao15 cap16 ((rangesS u0 u1 u2).1)] Z17 wd455 := hM457; clear hM457
     refine s1 hF459 10 (.slice ao453 (x10 ++ [(⟨x0, w64 (2047 - (w64 (x11 - 1))), u2⟩ : Filter)]).length cap454) ?_; intro a461 hF462; clear hF459
     refine nlH (hQ429 _ _ ?_); clear hQ429 hQ429Q
     refine rgH ?_; intro hQ463Q hQ463
     refine s1 hF462 75 (.int .i64 x0) ?_; intro a464 hF465; clear hF462
     refine s1 hF465 76 (.int .i64 x11) ?_; intro a466 hF467; clear hF465
     refine s1 hF467 77 (.int .i64 (w64 (x0 + x11))) ?_; intro a468 hF469; clear hF467
     refine s1 hF469 0 (.int .i64 (w64 (x0 + x11))) ?_; intro a470 hF471; clear hF469
     refine nlH (hQ463 _ _ ?_); clear hQ463 hQ463Q
     refine ibn ?_
     refine rd ?_
     exact ⟨⟨w64 (x0 + x11), x10 ++ [(⟨x0, w64 (2047 - (w64 (x11 - 1))), u2⟩ : Filter)], ao453, cap454⟩, hp452.1, hp452.2, (hF471.region (by kernel_rfl) (by kernel_rfl)).anyβ _ (by kernel_rfl), hM460.keep (List.Sublist.cons _ (List.Sublist.cons_cons _ (List.Sublist.cons_cons _ (List.Sublist.slnil))))⟩
   · -- no
    have hp472 := hp358.2 hb366; clear hp358
    refine wp_exit ?_
    refine thx ?_
    refine thx ?_
    refine ibx ?_
    refine thn ?_
    refine sqH ?_; intro hQ473Q hQ473
    refine s1 hF365 78 (.int .i64 ((rangesS u0 u1 u2).2)) ?_; intro a474 hF475; clear hF365
    refine s1 hF475 79 (.bool (((rangesS u0 u1 u2).2) == 0)) ?_; intro a476 hF477; clear hF475
    refine s1 hF477 80 (.bool (((rangesS u0 u1 u2).2) == 0)) ?_; intro a478 hF479; clear hF477
    have hF480 := hF479.atom ((((rangesS u0 u1 u2).2) == 0) == true) (by kernel_rfl); clear hF479
    refine gp hF480 81 0 [] (((rangesS u0 u1 u2).2) == 0) (.slice ao15 ((rangesS u0 u1 u2).1).length cap16) rfl rfl ?_; intro a481 hF482; clear hF480
    refine gp hF482 82 0 [] (((rangesS u0 u1 u2).2) == 0) (.slice aox10 x10.length capx10) rfl rfl ?_; intro a483 hF484; clear hF482
    obtain ⟨Z485, hle486, hM487, hs488⟩ := hM357.freeze 1 rfl
    replace hle0 := Fz.le.trans hle0 hle486
    have hM489 : Mem w.heap.size [] w Z [.own tyFilter 28 aox10 capx10 x10] Z485 wd353 := hM487; clear hM487
    obtain ⟨Z490, hle491, hM492, hs493⟩ := hM489.freeze 0 rfl
    replace hs488 := hs488.mono hle491
    replace hle0 := Fz.le.trans hle0 hle491
    have hM494 : Mem w.heap.size [] w Z [] Z490 wd353 := hM492; clear hM492
    refine gcl hF484 hM494 (.bool (feqS ((rangesS u0 u1 u2).1) x10)) 17 #[.slice ao15 ((rangesS u0 u1 u2).1).length cap16, .slice aox10 x10.length capx10] (m := 0) (cj := []) (bj := ((rangesS u0 u1 u2).2) == 0) rfl rfl (by kernel_rfl) rfl (by kernel_rfl) (by kernel_rfl) (by kernel_rfl) (fun _ => by kernel_rfl) (fun hg => feq_fun ((rangesS u0 u1 u2).1) x10 ao15 cap16 aox10 capx10 _ _ hs488 hs493 hM494.fz) ?_; intro a495 wd497 hF496 hM498; clear hF484 hM494
    refine st hF496 (.bool ((((rangesS u0 u1 u2).2) == 0) && (feqS ((rangesS u0 u1 u2).1) x10))) (nog rfl _) rfl (by kernel_rfl) (pk_and hF496 (g := []) (m := 0) (b := ((rangesS u0 u1 u2).2) == 0) (v := (feqS ((rangesS u0 u1 u2).1) x10)) rfl (by kernel_rfl) (by kernel_rfl) (by kernel_rfl) rfl) ?_; intro a499 hF500; clear hF496
    refine s1 hF500 6 (.bool ((((rangesS u0 u1 u2).2) == 0) && (feqS ((rangesS u0 u1 u2).1) x10))) ?_; intro a501 hF502; clear hF500
    refine nlH (hQ473 _ _ ?_); clear hQ473 hQ473Q
    refine wp_ret ?_
    refine rt (fn := Try.f3) (v := .bool ((((rangesS u0 u1 u2).2) == 0) && (feqS ((rangesS u0 u1 u2).1) x10))) hF502 (re1 hF502 (fn := Try.f3) rfl (by kernel_rfl)) ?_
    exact ⟨(((rangesS u0 u1 u2).2) == 0) && (feqS ((rangesS u0 u1 u2).1) x10), rfl, hp472, hM498.below⟩

set_option maxRecDepth 100000 in
theorem LLeast_walk (u0 : List Filter) (ao1 : Option Addr) (cap2 : Nat) (Z : Fz) (w : World) (hs3 : SlR tyFilter Z ao1 cap2 u0) (hZ : Z.on w) {K : Bool → Prop} (hp : LLeast_vc u0 K) : Calls Try.prog 5 #[.slice ao1 u0.length cap2] w fun e w' => ∃ r : Bool, e = .returned (.bool r) ∧ K r ∧ Below w.heap.size w w' := by
 refine enter0 Try.func5 rfl rfl (by kernel_rfl) ?_; intro a0 hF0; have hM0 := Mem.start w Z hZ; have hle0 := Fz.le.refl Z
 have hp4 := hp (hs3.small); clear hp
 refine sqH ?_; intro hQ5Q hQ5
 refine s1 hF0 2 (.bool false) ?_; intro a6 hF7; clear hF0
 refine nlH (hQ5 _ _ ?_); clear hQ5 hQ5Q
 refine sqH ?_; intro hQ8Q hQ8
 refine s1 hF7 13 (.slice ao1 u0.length cap2) ?_; intro a9 hF10; clear hF7
 refine cl hF10 23 #[.slice ao1 u0.length cap2] (nog rfl _) rfl (by kernel_rfl) (by kernel_rfl) ?_
 refine (fleast_fun u0 ao1 cap2 _ _ hs3 hM0.fz).mono ?_; rintro _ wd11 ⟨ao15, cap16, Z17, rfl, hm⟩; refine ⟨_, rfl, ?_⟩; intro a12 hF13; have hM14 := hM0.callZ hm; have hle18 := hm.ext.le; clear hm hM0 hF10
 replace hs3 := hs3.mono hle18
 replace hle0 := Fz.le.trans hle0 hle18
 have hM19 : Mem w.heap.size [] w Z [.own tyFilter 28 ao15 cap16 ((fleastS u0).1)] Z17 wd11 := hM14; clear hM14
 have hp20 := hp4 (hM19.ownSmall 0 rfl); clear hp4
 refine s1 hF13 12 (.tuple #[.slice ao15 ((fleastS u0).1).length cap16, .int .i64 ((fleastS u0).2)]) ?_; intro a21 hF22; clear hF13
 refine s1 hF22 15 (.slice ao15 ((fleastS u0).1).length cap16) ?_; intro a23 hF24; clear hF22
 refine s1 hF24 16 (.int .i64 ((fleastS u0).2)) ?_; intro a25 hF26; clear hF24
 refine s1 hF26 3 (.slice ao15 ((fleastS u0).1).length cap16) ?_; intro a27 hF28; clear hF26
 refine s1 hF28 4 (.int .i64 ((fleastS u0).2)) ?_; intro a29 hF30; clear hF28
 refine nlH (hQ8 _ _ ?_); clear hQ8 hQ8Q
 refine wp_seq ?_
 refine sqH ?_; intro hQ31Q hQ31
 refine s1 hF30 17 (.slice ao1 u0.length cap2) ?_; intro a32 hF33; clear hF30
 refine fcl hF33 hM19 (.int .i64 (fcheckS u0)) 19 #[.slice ao1 u0.length cap2] (nog rfl _) rfl (by kernel_rfl) (fun _ => by kernel_rfl) (rcheckf_fun u0 ao1 cap2 _ _ hs3 hM19.fz) ?_; intro a34 wd36 hF35 hM37; clear hF33 hM19
 refine s1 hF35 5 (.int .i64 (fcheckS u0)) ?_; intro a38 hF39; clear hF35
 refine nlH (hQ31 _ _ ?_); clear hQ31 hQ31Q
 refine sqH ?_; intro hQ40Q hQ40
 refine fcl hF39 hM37 (.bool true) 16 #[] (nog rfl _) rfl (by kernel_rfl) (fun _ => by kernel_rfl) (filtered_fun  _ _ hM37.fz) ?_; intro a41 wd43 hF42 hM44; clear hF39 hM37
 refine s1 hF42 20 (.bool false) ?_; intro a45 hF46; clear hF42
 refine s1 hF46 21 (.bool false) ?_; intro a47 hF48; clear hF46
 refine st hF48 (.int .i64 (fcheckS u0)) (by rw [wanted_of hF48 (b := false) rfl rfl (by kernel_rfl) (by kernel_rfl)]; rfl) rfl (by kernel_rfl) (p0 hF48 (by kernel_rfl)) ?_; intro a49 hF50; clear hF48
 refine st hF50 (.bool ((fcheckS u0) != 0)) (by rw [wanted_of hF50 (b := false) rfl rfl (by kernel_rfl) (by kernel_rfl)]; rfl) rfl (by kernel_rfl) (p0 hF50 (by kernel_rfl)) ?_; intro a51 hF52; clear hF50
 refine s1 hF52 24 (.bool ((fcheckS u0) != 0)) ?_; intro a53 hF54; clear hF52
 refine nlH (hQ40 _ _ ?_); clear hQ40 hQ40Q
 refine cd hF54 (t := (fcheckS u0) != 0) (by kernel_rfl) (fun hb55 => ?_) (fun hb55 => ?_)
 · -- yes
  have hp56 := hp20.1 hb55; clear hp20
  have hF57 : Fr 91 [] [⟨3, [], .slice ao15 ((fleastS u0).1).length cap16⟩, ⟨4, [], .int .i64 ((fleastS u0).2)⟩, ⟨5, [], .int .i64 (fcheckS u0)⟩] a53 := hF54.region (by kernel_rfl) (by kernel_rfl); clear hF54
  refine sqH ?_; intro hQ58Q hQ58
  refine fcl hF57 hM44 (.bool true) 16 #[] (nog rfl _) rfl (by kernel_rfl) (fun _ => by kernel_rfl) (filtered_fun  _ _ hM44.fz) ?_; intro a59 wd61 hF60 hM62; clear hF57 hM44
  refine s1 hF60 26 (.bool true) ?_; intro a63 hF64; clear hF60
  refine st hF64 (.int .i64 ((fleastS u0).2)) (by rw [wanted_of hF64 (b := true) rfl rfl (by kernel_rfl) (by kernel_rfl)]; rfl) rfl (by kernel_rfl) (p0 hF64 (by kernel_rfl)) ?_; intro a65 hF66; clear hF64
  refine st hF66 (.int .i64 (fcheckS u0)) (by rw [wanted_of hF66 (b := true) rfl rfl (by kernel_rfl) (by kernel_rfl)]; rfl) rfl (by kernel_rfl) (p0 hF66 (by kernel_rfl)) ?_; intro a67 hF68; clear hF66
  refine st hF68 (.bool (((fleastS u0).2) == (fcheckS u0))) (by rw [wanted_of hF68 (b := true) rfl rfl (by kernel_rfl) (by kernel_rfl)]; rfl) rfl (by kernel_rfl) (p0 hF68 (by kernel_rfl)) ?_; intro a69 hF70; clear hF68
  refine s1 hF70 30 (.bool (((fleastS u0).2) == (fcheckS u0))) ?_; intro a71 hF72; clear hF70
  refine s1 hF72 31 (.bool (((fleastS u0).2) == (fcheckS u0))) ?_; intro a73 hF74; clear hF72
  have hF75 := hF74.atom ((((fleastS u0).2) == (fcheckS u0)) == true) (by kernel_rfl); clear hF74
  refine gp hF75 32 0 [] (((fleastS u0).2) == (fcheckS u0)) (.slice ao15 ((fleastS u0).1).length cap16) rfl rfl ?_; intro a76 hF77; clear hF75
  refine gp hF77 33 0 [] (((fleastS u0).2) == (fcheckS u0)) (.int .i64 (((fleastS u0).1).length : Int)) rfl rfl ?_; intro a78 hF79; clear hF77
  refine gp hF79 34 0 [] (((fleastS u0).2) == (fcheckS u0)) (.bool ((((fleastS u0).1).length : Int) == 0)) rfl rfl ?_; intro a80 hF81; clear hF79
  refine st hF81 (.bool ((((fleastS u0).2) == (fcheckS u0)) && ((((fleastS u0).1).length : Int) == 0))) (nog rfl _) rfl (by kernel_rfl) (pk_and hF81 (g := []) (m := 0) (b := ((fleastS u0).2) == (fcheckS u0)) (v := (((fleastS u0).1).length : Int) == 0) rfl (by kernel_rfl) (by kernel_rfl) (by kernel_rfl) rfl) ?_; intro a82 hF83; clear hF81
  refine s1 hF83 2 (.bool ((((fleastS u0).2) == (fcheckS u0)) && ((((fleastS u0).1).length : Int) == 0))) ?_; intro a84 hF85; clear hF83
  refine nlH (hQ58 _ _ ?_); clear hQ58 hQ58Q
  refine wp_ret ?_
  refine thr ?_
  refine rt (fn := Try.f5) (v := .bool ((((fleastS u0).2) == (fcheckS u0)) && ((((fleastS u0).1).length : Int) == 0))) hF85 (re1 hF85 (fn := Try.f5) rfl (by kernel_rfl)) ?_
  exact ⟨(((fleastS u0).2) == (fcheckS u0)) && ((((fleastS u0).1).length : Int) == 0), rfl, hp56, hM62.below⟩
 · -- no
  have hp86 := hp20.2 hb55; clear hp20
  refine wp_skip ?_
  refine thn ?_
  have hF87 : Fr 91 [] [⟨0, [], .slice ao1 u0.length cap2⟩, ⟨3, [], .slice ao15 ((fleastS u0).1).length cap16⟩, ⟨4, [], .int .i64 ((fleastS u0).2)⟩] a53 := hF54.region (by kernel_rfl) (by kernel_rfl); clear hF54
  refine sqH ?_; intro hQ88Q hQ88
  refine s1 hF87 6 (.slice none 0 0) ?_; intro a89 hF90; clear hF87
  refine nlH (hQ88 _ _ ?_); clear hQ88 hQ88Q
  refine wp_seq ?_
  refine sqH ?_; intro hQ91Q hQ91
  refine s1 hF90 36 (.slice ao1 u0.length cap2) ?_; intro a92 hF93; clear hF90
  refine s1 hF93 37 (.int .i64 (u0.length : Int)) ?_; intro a94 hF95; clear hF93
  refine s1 hF95 38 (.int .i64 0) ?_; intro a96 hF97; clear hF95
  refine nlH (hQ91 _ _ ?_); clear hQ91 hQ91Q
  refine wp_block ?_
  have hF98 : Fr 91 [] [⟨0, [], .slice ao1 u0.length cap2⟩, ⟨3, [], .slice ao15 ((fleastS u0).1).length cap16⟩, ⟨4, [], .int .i64 ((fleastS u0).2)⟩, ⟨6, [], .slice none 0 0⟩, ⟨36, [], .slice ao1 u0.length cap2⟩, ⟨37, [], .int .i64 (u0.length : Int)⟩, ⟨38, [], .int .i64 0⟩] a96 := hF97.region (by kernel_rfl) (by kernel_rfl); clear hF97
  have hM100 : Mem w.heap.size [] w Z [.own tyFilter 28 none 0 ([] : List Filter), .own tyFilter 28 ao15 cap16 ((fleastS u0).1)] Z17 wd43 := hM44.addNil tyFilter 28 (by decide); clear hM44
  have hF101 : Fr 91 [] [⟨0, [], .slice ao1 u0.length cap2⟩, ⟨3, [], .slice ao15 ((fleastS u0).1).length cap16⟩, ⟨4, [], .int .i64 ((fleastS u0).2)⟩, ⟨6, [], .slice none ([] : List Filter).length 0⟩, ⟨36, [], .slice ao1 u0.length cap2⟩, ⟨37, [], .int .i64 (u0.length : Int)⟩, ⟨38, [], .int .i64 0⟩] a96 := hF98.region (by kernel_rfl) (by kernel_rfl); clear hF98
  obtain ⟨inv99, mu99, hI104, hr103⟩ := hp86
  refine lp (ι := (List Filter) × Int × (Option Addr) × Nat) (fun (s : (List Filter) × Int × (Option Addr) × Nat) => [⟨0, [], .slice ao1 u0.length cap2⟩, ⟨3, [], .slice ao15 ((fleastS u0).1).length cap16⟩, ⟨4, [], .int .i64 ((fleastS u0).2)⟩, ⟨6, [], .slice s.2.2.1 s.1.length s.2.2.2⟩, ⟨36, [], .slice ao1 u0.length cap2⟩, ⟨37, [], .int .i64 (u0.length : Int)⟩, ⟨38, [], .int .i64 s.2.1⟩]) (fun (s : (List Filter) × Int × (Option Addr) × Nat) => [.own tyFilter 28 s.2.2.1 s.2.2.2 s.1, .own tyFilter 28 ao15 cap16 ((fleastS u0).1)]) (fun (s : (List Filter) × Int × (Option Addr) × Nat) => Z17) (fun (s : (List Filter) × Int × (Option Addr) × Nat) => inv99 s.1 s.2.1) (fun (s : (List Filter) × Int × (Option Addr) × Nat) => mu99 s.1 s.2.1) ⟨([] : List Filter), 0, none, 0⟩ hI104 (by exact hF101.region (by kernel_rfl) (by kernel_rfl)) (by exact hM100) ?_
  rintro ⟨x6, x38, aox6, capx6⟩ hI102 a106 wd107 hF108 hM109
  have hF110 : Fr 91 [] [⟨0, [], .slice ao1 u0.length cap2⟩, ⟨3, [], .slice ao15 ((fleastS u0).1).length cap16⟩, ⟨4, [], .int .i64 ((fleastS u0).2)⟩, ⟨6, [], .slice aox6 x6.length capx6⟩, ⟨36, [], .slice ao1 u0.length cap2⟩, ⟨37, [], .int .i64 (u0.length : Int)⟩, ⟨38, [], .int .i64 x38⟩] a106 := hF108; clear hF108 hF101
  have hM111 : Mem w.heap.size [] w Z [.own tyFilter 28 aox6 capx6 x6, .own tyFilter 28 ao15 cap16 ((fleastS u0).1)] Z17 wd107 := hM109; clear hM109 hM100
  have hp112 := hr103 x6 x38 hI102
  refine sqH ?_; intro hQ113Q hQ113
  refine s1 hF110 39 (.bool (decide (x38 < (u0.length : Int)))) ?_; intro a114 hF115; clear hF110
  refine nlH (hQ113 _ _ ?_); clear hQ113 hQ113Q
  refine wp_seq ?_
  refine cd hF115 (t := decide (x38 < (u0.length : Int))) (by kernel_rfl) (fun hb116 => ?_) (fun hb116 => ?_)
  · -- yes
   have hp117 := hp112.1 hb116; clear hp112
   refine wp_skip ?_
   refine thn ?_
   refine wp_seq ?_
   refine wp_block ?_
   refine sqH ?_; intro hQ118Q hQ118
   refine s1 hF115 40 (.int .i64 x38) ?_; intro a119 hF120; clear hF115
   have hc121 := hp117.1; have hp122 := hp117.2; clear hp117
   refine ix hF120 (T := tyFilter) (xs := u0) hs3 x38 hc121 (k := .i64) (e := 28) (bytes := 24) (nog rfl _) rfl (by kernel_rfl) rfl (by kernel_rfl) (by kernel_rfl) (by kernel_rfl) ?_; intro b123 off124 cs125 q126 a130 hq127 hP128 hT129 hF131; clear hF120
   have hp132 := hp122 q126 hq127; clear hp122
   obtain rfl : cs125 = ([.int .i64 q126.Want, .int .i64 q126.Mask, .bool q126.Long] : List Value) := hT129
   refine z2 hF131 hM111 42 hP128 0 3 [.int .i64 q126.Want, .int .i64 q126.Mask, .bool q126.Long] rfl ?_; intro a133 hF134; clear hF131
   refine sn hF134 hM111 (fun b => .pointer (some ⟨b, 0, none⟩)) [.int .i64 0, .int .i64 0, .bool false] 28 (nog rfl _) rfl (by kernel_rfl) (by kernel_rfl) ?_; intro b135 a136 wd138 hF137 hM139; clear hF134 hM111
   refine s1 hF137 7 (.int .i64 x38) ?_; intro a140 hF141; clear hF137
   refine sr hF141 hM139 0 [.int .i64 q126.Want, .int .i64 q126.Mask, .bool q126.Long] (b := b135) (off := 0) (cs := [.int .i64 0, .int .i64 0, .bool false]) (ty := 28) (u := .agg #[.int .i64 q126.Want, .int .i64 q126.Mask, .bool q126.Long]) (nog rfl _) rfl rfl (by kernel_rfl) (by kernel_rfl) (by kernel_rfl) (by kernel_rfl) (by kernel_rfl) (by kernel_rfl) (by kernel_rfl) ?_; intro wd142 hM143; clear hM139
   have hM144 : Mem w.heap.size [] w Z [.row b135 [.int .i64 q126.Want, .int .i64 q126.Mask, .bool q126.Long] 28, .own tyFilter 28 aox6 capx6 x6, .own tyFilter 28 ao15 cap16 ((fleastS u0).1)] Z17 wd142 := hM143; clear hM143
   refine nlH (hQ118 _ _ ?_); clear hQ118 hQ118Q
   refine sqH ?_; intro hQ145Q hQ145
   refine s1 hF141 9 (.bool true) ?_; intro a146 hF147; clear hF141
   refine nlH (hQ145 _ _ ?_); clear hQ145 hQ145Q
   refine wp_seq ?_
   refine sqH ?_; intro hQ148Q hQ148
   refine s1 hF147 43 (.slice ao1 u0.length cap2) ?_; intro a149 hF150; clear hF147
   refine s1 hF150 44 (.int .i64 (u0.length : Int)) ?_; intro a151 hF152; clear hF150
   refine s1 hF152 45 (.int .i64 0) ?_; intro a153 hF154; clear hF152
   refine nlH (hQ148 _ _ ?_); clear hQ148 hQ148Q
   refine wp_block ?_
   have hF155 : Fr 91 [] [⟨0, [], .slice ao1 u0.length cap2⟩, ⟨3, [], .slice ao15 ((fleastS u0).1).length cap16⟩, ⟨4, [], .int .i64 ((fleastS u0).2)⟩, ⟨6, [], .slice aox6 x6.length capx6⟩, ⟨7, [], .int .i64 x38⟩, ⟨8, [], .pointer (some ⟨b135, 0, none⟩)⟩, ⟨9, [], .bool true⟩, ⟨36, [], .slice ao1 u0.length cap2⟩, ⟨37, [], .int .i64 (u0.length : Int)⟩, ⟨38, [], .int .i64 x38⟩, ⟨43, [], .slice ao1 u0.length cap2⟩, ⟨44, [], .int .i64 (u0.length : Int)⟩, ⟨45, [], .int .i64 0⟩] a153 := hF154.region (by kernel_rfl) (by kernel_rfl); clear hF154
   have hF157 : Fr 91 [] [⟨0, [], .slice ao1 u0.length cap2⟩, ⟨3, [], .slice ao15 ((fleastS u0).1).length cap16⟩, ⟨4, [], .int .i64 ((fleastS u0).2)⟩, ⟨6, [], .slice aox6 x6.length capx6⟩, ⟨7, [], .int .i64 x38⟩, ⟨8, [], .pointer (some ⟨b135, 0, none⟩)⟩, ⟨9, [], .bool true⟩, ⟨36, [], .slice ao1 u0.length cap2⟩, ⟨37, [], .int .i64 (u0.length : Int)⟩, ⟨38, [], .int .i64 x38⟩, ⟨43, [], .slice ao1 u0.length cap2⟩, ⟨44, [], .int .i64 (u0.length : Int)⟩, ⟨45, [], .int .i64 0⟩] a153 := hF155.region (by kernel_rfl) (by kernel_rfl); clear hF155
   obtain ⟨inv156, mu156, hI160, hr159⟩ := hp132
   refine lp (ι := Bool × Int) (fun (s : Bool × Int) => [⟨0, [], .slice ao1 u0.length cap2⟩, ⟨3, [], .slice ao15 ((fleastS u0).1).length cap16⟩, ⟨4, [], .int .i64 ((fleastS u0).2)⟩, ⟨6, [], .slice aox6 x6.length capx6⟩, ⟨7, [], .int .i64 x38⟩, ⟨8, [], .pointer (some ⟨b135, 0, none⟩)⟩, ⟨9, [], .bool s.1⟩, ⟨36, [], .slice ao1 u0.length cap2⟩, ⟨37, [], .int .i64 (u0.length : Int)⟩, ⟨38, [], .int .i64 x38⟩, ⟨43, [], .slice ao1 u0.length cap2⟩, ⟨44, [], .int .i64 (u0.length : Int)⟩, ⟨45, [], .int .i64 s.2⟩]) (fun (s : Bool × Int) => [.row b135 [.int .i64 q126.Want, .int .i64 q126.Mask, .bool q126.Long] 28, .own tyFilter 28 aox6 capx6 x6, .own tyFilter 28 ao15 cap16 ((fleastS u0).1)]) (fun (s : Bool × Int) => Z17) (fun (s : Bool × Int) => inv156 s.1 s.2) (fun (s : Bool × Int) => mu156 s.1 s.2) ⟨true, 0⟩ hI160 (by exact hF157.region (by kernel_rfl) (by kernel_rfl)) (by exact hM144) ?_
   rintro ⟨x9, x45⟩ hI158 a162 wd163 hF164 hM165
   have hF166 : Fr 91 [] [⟨0, [], .slice ao1 u0.length cap2⟩, ⟨3, [], .slice ao15 ((fleastS u0).1).length cap16⟩, ⟨4, [], .int .i64 ((fleastS u0).2)⟩, ⟨6, [], .slice aox6 x6.length capx6⟩, ⟨7, [], .int .i64 x38⟩, ⟨8, [], .pointer (some ⟨b135, 0, none⟩)⟩, ⟨9, [], .bool x9⟩, ⟨36, [], .slice ao1 u0.length cap2⟩, ⟨37, [], .int .i64 (u0.length : Int)⟩, ⟨38, [], .int .i64 x38⟩, ⟨43, [], .slice ao1 u0.length cap2⟩, ⟨44, [], .int .i64 (u0.length : Int)⟩, ⟨45, [], .int .i64 x45⟩] a162 := hF164; clear hF164 hF157
   have hM167 : Mem w.heap.size [] w Z [.row b135 [.int .i64 q126.Want, .int .i64 q126.Mask, .bool q126.Long] 28, .own tyFilter 28 aox6 capx6 x6, .own tyFilter 28 ao15 cap16 ((fleastS u0).1)] Z17 wd163 := hM165; clear hM165 hM144
   have hp168 := hr159 x9 x45 hI158
   refine sqH ?_; intro hQ169Q hQ169
   refine s1 hF166 46 (.bool (decide (x45 < (u0.length : Int)))) ?_; intro a170 hF171; clear hF166
   refine nlH (hQ169 _ _ ?_); clear hQ169 hQ169Q
   refine wp_seq ?_
   refine cd hF171 (t := decide (x45 < (u0.length : Int))) (by kernel_rfl) (fun hb172 => ?_) (fun hb172 => ?_)
   · -- yes
    have hp173 := hp168.1 hb172; clear hp168
    refine wp_skip ?_
    refine thn ?_
    refine wp_seq ?_
    refine wp_block ?_
    refine sqH ?_; intro hQ174Q hQ174
    refine s1 hF171 47 (.int .i64 x45) ?_; intro a175 hF176; clear hF171
    have hc177 := hp173.1; have hp178 := hp173.2; clear hp173
    refine ix hF176 (T := tyFilter) (xs := u0) hs3 x45 hc177 (k := .i64) (e := 28) (bytes := 24) (nog rfl _) rfl (by kernel_rfl) rfl (by kernel_rfl) (by kernel_rfl) (by kernel_rfl) ?_; intro b179 off180 cs181 q182 a186 hq183 hP184 hT185 hF187; clear hF176
    have hp188 := hp178 q182 hq183; clear hp178
    obtain rfl : cs181 = ([.int .i64 q182.Want, .int .i64 q182.Mask, .bool q182.Long] : List Value) := hT185
    refine z2 hF187 hM167 49 hP184 0 3 [.int .i64 q182.Want, .int .i64 q182.Mask, .bool q182.Long] rfl ?_; intro a189 hF190; clear hF187
    refine sn hF190 hM167 (fun b => .pointer (some ⟨b, 0, none⟩)) [.int .i64 0, .int .i64 0, .bool false] 28 (nog rfl _) rfl (by kernel_rfl) (by kernel_rfl) ?_; intro b191 a192 wd194 hF193 hM195; clear hF190 hM167
    refine s1 hF193 10 (.int .i64 x45) ?_; intro a196 hF197; clear hF193
    refine sr hF197 hM195 0 [.int .i64 q182.Want, .int .i64 q182.Mask, .bool q182.Long] (b := b191) (off := 0) (cs := [.int .i64 0, .int .i64 0, .bool false]) (ty := 28) (u := .agg #[.int .i64 q182.Want, .int .i64 q182.Mask, .bool q182.Long]) (nog rfl _) rfl rfl (by kernel_rfl) (by kernel_rfl) (by kernel_rfl) (by kernel_rfl) (by kernel_rfl) (by kernel_rfl) (by kernel_rfl) ?_; intro wd198 hM199; clear hM195
    have hM200 : Mem w.heap.size [] w Z [.row b191 [.int .i64 q182.Want, .int .i64 q182.Mask, .bool q182.Long] 28, .row b135 [.int .i64 q126.Want, .int .i64 q126.Mask, .bool q126.Long] 28, .own tyFilter 28 aox6 capx6 x6, .own tyFilter 28 ao15 cap16 ((fleastS u0).1)] Z17 wd198 := hM199; clear hM199
    refine nlH (hQ174 _ _ ?_); clear hQ174 hQ174Q
    refine wp_seq ?_
    refine sqH ?_; intro hQ201Q hQ201
    refine s1 hF197 50 (.int .i64 x38) ?_; intro a202 hF203; clear hF197
    refine s1 hF203 51 (.int .i64 x45) ?_; intro a204 hF205; clear hF203
    refine s1 hF205 52 (.bool (x38 == x45)) ?_; intro a206 hF207; clear hF205
    refine s1 hF207 53 (.bool (x38 == x45)) ?_; intro a208 hF209; clear hF207
    have hF210 := hF209.atom ((x38 == x45) == false) (by kernel_rfl); clear hF209
    refine gd hF210 (.agg #[.int .i64 q126.Want, .int .i64 q126.Mask, .bool q126.Long]) (m := 0) (cj := []) (bj := x38 == x45) rfl rfl (by kernel_rfl) rfl (by kernel_rfl) (by kernel_rfl) (by kernel_rfl) (fun hg => lda hF210 hM200 1 (g := [0]) (b := b135) (off := 0) (k := 3) (cs := [.int .i64 q126.Want, .int .i64 q126.Mask, .bool q126.Long]) (vs := [.int .i64 q126.Want, .int .i64 q126.Mask, .bool q126.Long]) (ty := 28) rfl (by kernel_rfl) (by kernel_rfl) (by kernel_rfl) (by kernel_rfl) (by kernel_rfl) hg) ?_; intro a211 hF212; clear hF210
    refine gd hF212 (.agg #[.int .i64 q182.Want, .int .i64 q182.Mask, .bool q182.Long]) (m := 0) (cj := []) (bj := x38 == x45) rfl rfl (by kernel_rfl) rfl (by kernel_rfl) (by kernel_rfl) (by kernel_rfl) (fun hg => lda hF212 hM200 0 (g := [0]) (b := b191) (off := 0) (k := 3) (cs := [.int .i64 q182.Want, .int .i64 q182.Mask, .bool q182.Long]) (vs := [.int .i64 q182.Want, .int .i64 q182.Mask, .bool q182.Long]) (ty := 28) rfl (by kernel_rfl) (by kernel_rfl) (by kernel_rfl) (by kernel_rfl) (by kernel_rfl) hg) ?_; intro a213 hF214; clear hF212
    refine gcl hF214 hM200 (.bool (inall q126 q182)) 24 #[.agg #[.int .i64 q126.Want, .int .i64 q126.Mask, .bool q126.Long], .agg #[.int .i64 q182.Want, .int .i64 q182.Mask, .bool q182.Long]] (m := 0) (cj := []) (bj := x38 == x45) rfl rfl (by kernel_rfl) rfl (by kernel_rfl) (by kernel_rfl) (by kernel_rfl) (fun _ => by kernel_rfl) (fun hg => inall_fun q126 q182 _ _ hM200.fz) ?_; intro a215 wd217 hF216 hM218; clear hF214 hM200
    refine gp hF216 57 0 [] (x38 == x45) (.bool (!(inall q126 q182))) rfl rfl ?_; intro a219 hF220; clear hF216
    refine st hF220 (.bool ((x38 == x45) || (!(inall q126 q182)))) (nog rfl _) rfl (by kernel_rfl) (pk_or hF220 (g := []) (m := 0) (b := x38 == x45) (v := !(inall q126 q182)) rfl (by kernel_rfl) (by kernel_rfl) (by kernel_rfl) rfl) ?_; intro a221 hF222; clear hF220
    refine nlH (hQ201 _ _ ?_); clear hQ201 hQ201Q
    refine cd hF222 (t := (x38 == x45) || (!(inall q126 q182))) (by kernel_rfl) (fun hb223 => ?_) (fun hb223 => ?_)
    · -- yes
     have hp224 := hp188.1 hb223; clear hp188
     refine wp_exit ?_
     refine thx ?_
     refine ibx ?_
     refine thn ?_
     have hF225 : Fr 91 [] [⟨0, [], .slice ao1 u0.length cap2⟩, ⟨3, [], .slice ao15 ((fleastS u0).1).length cap16⟩, ⟨4, [], .int .i64 ((fleastS u0).2)⟩, ⟨6, [], .slice aox6 x6.length capx6⟩, ⟨7, [], .int .i64 x38⟩, ⟨8, [], .pointer (some ⟨b135, 0, none⟩)⟩, ⟨9, [], .bool x9⟩, ⟨36, [], .slice ao1 u0.length cap2⟩, ⟨37, [], .int .i64 (u0.length : Int)⟩, ⟨38, [], .int .i64 x38⟩, ⟨43, [], .slice ao1 u0.length cap2⟩, ⟨44, [], .int .i64 (u0.length : Int)⟩, ⟨45, [], .int .i64 x45⟩] a221 := hF222.region (by kernel_rfl) (by kernel_rfl); clear hF222
     refine rgH ?_; intro hQ226Q hQ226
     refine s1 hF225 68 (.int .i64 (w64 (x45 + 1))) ?_; intro a227 hF228; clear hF225
     refine s1 hF228 45 (.int .i64 (w64 (x45 + 1))) ?_; intro a229 hF230; clear hF228
     refine nlH (hQ226 _ _ ?_); clear hQ226 hQ226Q
     refine rd ?_
     exact ⟨⟨x9, w64 (x45 + 1)⟩, hp224.1, hp224.2, (hF230.region (by kernel_rfl) (by kernel_rfl)).anyβ _ (by kernel_rfl), hM218.keep (List.Sublist.cons _ (List.Sublist.cons_cons _ (List.Sublist.cons_cons _ (List.Sublist.cons_cons _ (List.Sublist.slnil)))))⟩
    · -- no
     have hp231 := hp188.2 hb223; clear hp188
     refine wp_skip ?_
     refine thn ?_
     have hF232 : Fr 91 [] [⟨0, [], .slice ao1 u0.length cap2⟩, ⟨3, [], .slice ao15 ((fleastS u0).1).length cap16⟩, ⟨4, [], .int .i64 ((fleastS u0).2)⟩, ⟨6, [], .slice aox6 x6.length capx6⟩, ⟨7, [], .int .i64 x38⟩, ⟨8, [], .pointer (some ⟨b135, 0, none⟩)⟩, ⟨9, [], .bool x9⟩, ⟨10, [], .int .i64 x45⟩, ⟨11, [], .pointer (some ⟨b191, 0, none⟩)⟩, ⟨36, [], .slice ao1 u0.length cap2⟩, ⟨37, [], .int .i64 (u0.length : Int)⟩, ⟨38, [], .int .i64 x38⟩, ⟨43, [], .slice ao1 u0.length cap2⟩, ⟨44, [], .int .i64 (u0.length : Int)⟩, ⟨45, [], .int .i64 x45⟩] a221 := hF222.region (by kernel_rfl) (by kernel_rfl); clear hF222
     refine sqH ?_; intro hQ233Q hQ233
     refine l2 hF232 hM218 59 0 0 3 [.int .i64 q182.Want, .int .i64 q182.Mask, .bool q182.Long] rfl rfl ?_; intro a234 hF235; clear hF232
     refine l2 hF235 hM218 60 1 0 3 [.int .i64 q126.Want, .int .i64 q126.Mask, .bool q126.Long] rfl rfl ?_; intro a236 hF237; clear hF235
     refine fcl hF237 hM218 (.bool (inall q182 q126)) 24 #[.agg #[.int .i64 q182.Want, .int .i64 q182.Mask, .bool q182.Long], .agg #[.int .i64 q126.Want, .int .i64 q126.Mask, .bool q126.Long]] (nog rfl _) rfl (by kernel_rfl) (fun _ => by kernel_rfl) (inall_fun q182 q126 _ _ hM218.fz) ?_; intro a238 wd240 hF239 hM241; clear hF237 hM218
     refine s1 hF239 62 (.bool (!(inall q182 q126))) ?_; intro a242 hF243; clear hF239
     refine s1 hF243 63 (.bool (!(inall q182 q126))) ?_; intro a244 hF245; clear hF243
     have hF246 := hF245.atom ((!(inall q182 q126)) == false) (by kernel_rfl); clear hF245
     refine gp hF246 64 0 [] (!(inall q182 q126)) (.int .i64 x45) rfl rfl ?_; intro a247 hF248; clear hF246
     refine gp hF248 65 0 [] (!(inall q182 q126)) (.int .i64 x38) rfl rfl ?_; intro a249 hF250; clear hF248
     refine gp hF250 66 0 [] (!(inall q182 q126)) (.bool (decide (x45 < x38))) rfl rfl ?_; intro a251 hF252; clear hF250
     refine st hF252 (.bool ((!(inall q182 q126)) || (decide (x45 < x38)))) (nog rfl _) rfl (by kernel_rfl) (pk_or hF252 (g := []) (m := 0) (b := !(inall q182 q126)) (v := decide (x45 < x38)) rfl (by kernel_rfl) (by kernel_rfl) (by kernel_rfl) rfl) ?_; intro a253 hF254; clear hF252
     refine nlH (hQ233 _ _ ?_); clear hQ233 hQ233Q
     refine cd hF254 (t := (!(inall q182 q126)) || (decide (x45 < x38))) (by kernel_rfl) (fun hb255 => ?_) (fun hb255 => ?_)
     · -- yes
      have hp256 := hp231.1 hb255; clear hp231
      have hF257 : Fr 91 [] [⟨0, [], .slice ao1 u0.length cap2⟩, ⟨3, [], .slice ao15 ((fleastS u0).1).length cap16⟩, ⟨4, [], .int .i64 ((fleastS u0).2)⟩, ⟨6, [], .slice aox6 x6.length capx6⟩, ⟨7, [], .int .i64 x38⟩, ⟨8, [], .pointer (some ⟨b135, 0, none⟩)⟩, ⟨36, [], .slice ao1 u0.length cap2⟩, ⟨37, [], .int .i64 (u0.length : Int)⟩, ⟨38, [], .int .i64 x38⟩, ⟨43, [], .slice ao1 u0.length cap2⟩, ⟨44, [], .int .i64 (u0.length : Int)⟩, ⟨45, [], .int .i64 x45⟩] a253 := hF254.region (by kernel_rfl) (by kernel_rfl); clear hF254
      refine rgH ?_; intro hQ258Q hQ258
      refine s1 hF257 9 (.bool false) ?_; intro a259 hF260; clear hF257
      refine nlH (hQ258 _ _ ?_); clear hQ258 hQ258Q
      refine ibn ?_
      refine thn ?_
      refine rgH ?_; intro hQ261Q hQ261
      refine s1 hF260 68 (.int .i64 (w64 (x45 + 1))) ?_; intro a262 hF263; clear hF260
      refine s1 hF263 45 (.int .i64 (w64 (x45 + 1))) ?_; intro a264 hF265; clear hF263
      refine nlH (hQ261 _ _ ?_); clear hQ261 hQ261Q
      refine rd ?_
      exact ⟨⟨false, w64 (x45 + 1)⟩, hp256.1, hp256.2, (hF265.region (by kernel_rfl) (by kernel_rfl)).anyβ _ (by kernel_rfl), hM241.keep (List.Sublist.cons _ (List.Sublist.cons_cons _ (List.Sublist.cons_cons _ (List.Sublist.cons_cons _ (List.Sublist.slnil)))))⟩
     · -- no
      have hp266 := hp231.2 hb255; clear hp231
      refine wp_skip ?_
      refine ibn ?_
      refine thn ?_
      have hF267 : Fr 91 [] [⟨0, [], .slice ao1 u0.length cap2⟩, ⟨3, [], .slice ao15 ((fleastS u0).1).length cap16⟩, ⟨4, [], .int .i64 ((fleastS u0).2)⟩, ⟨6, [], .slice aox6 x6.length capx6⟩, ⟨7, [], .int .i64 x38⟩, ⟨8, [], .pointer (some ⟨b135, 0, none⟩)⟩, ⟨9, [], .bool x9⟩, ⟨36, [], .slice ao1 u0.length cap2⟩, ⟨37, [], .int .i64 (u0.length : Int)⟩, ⟨38, [], .int .i64 x38⟩, ⟨43, [], .slice ao1 u0.length cap2⟩, ⟨44, [], .int .i64 (u0.length : Int)⟩, ⟨45, [], .int .i64 x45⟩] a253 := hF254.region (by kernel_rfl) (by kernel_rfl); clear hF254
      refine rgH ?_; intro hQ268Q hQ268
      refine s1 hF267 68 (.int .i64 (w64 (x45 + 1))) ?_; intro a269 hF270; clear hF267
      refine s1 hF270 45 (.int .i64 (w64 (x45 + 1))) ?_; intro a271 hF272; clear hF270
      refine nlH (hQ268 _ _ ?_); clear hQ268 hQ268Q
      refine rd ?_
      exact ⟨⟨x9, w64 (x45 + 1)⟩, hp266.1, hp266.2, (hF272.region (by kernel_rfl) (by kernel_rfl)).anyβ _ (by kernel_rfl), hM241.keep (List.Sublist.cons _ (List.Sublist.cons_cons _ (List.Sublist.cons_cons _ (List.Sublist.cons_cons _ (List.Sublist.slnil)))))⟩
   · -- no
    have hp273 := hp168.2 hb172; clear hp168
    refine wp_exit ?_
    refine thx ?_
    refine thx ?_
    refine ibx ?_
    refine thn ?_
    refine sqH ?_; intro hQ274Q hQ274
    refine s1 hF171 69 (.bool x9) ?_; intro a275 hF276; clear hF171
    refine nlH (hQ274 _ _ ?_); clear hQ274 hQ274Q
    refine cd hF276 (t := x9) (by kernel_rfl) (fun hb277 => ?_) (fun hb277 => ?_)
    · -- yes
     have hp278 := hp273.1 hb277; clear hp273
     refine rgH ?_; intro hQ279Q hQ279
     refine s1 hF276 70 (.slice aox6 x6.length capx6) ?_; intro a280 hF281; clear hF276
     refine s1 hF281 71 (.pointer (some ⟨b135, 0, none⟩)) ?_; intro a282 hF283; clear hF281
     refine l1 hF283 hM167 72 0 0 (.int .i64 q126.Want) rfl rfl ?_; intro a284 hF285; clear hF283
     refine s1 hF285 73 (.pointer (some ⟨b135, 1, none⟩)) ?_; intro a286 hF287; clear hF285
     refine l1 hF287 hM167 74 0 1 (.int .i64 q126.Mask) rfl rfl ?_; intro a288 hF289; clear hF287
     refine s1 hF289 75 (.int .i64 (bAnd .i64 q126.Want q126.Mask)) ?_; intro a290 hF291; clear hF289
     refine s1 hF291 76 (.pointer (some ⟨b135, 1, none⟩)) ?_; intro a292 hF293; clear hF291
     refine l1 hF293 hM167 77 0 1 (.int .i64 q126.Mask) rfl rfl ?_; intro a294 hF295; clear hF293
     refine s1 hF295 78 (.pointer (some ⟨b135, 2, none⟩)) ?_; intro a296 hF297; clear hF295
     refine l1 hF297 hM167 79 0 2 (.bool q126.Long) rfl rfl ?_; intro a298 hF299; clear hF297
     refine s1 hF299 80 (.agg #[.int .i64 (bAnd .i64 q126.Want q126.Mask), .int .i64 q126.Mask, .bool q126.Long]) ?_; intro a300 hF301; clear hF299
     refine sn hF301 hM167 (fun b => .slice (some ⟨b, 0, none⟩) 1 1) [.int .i64 (bAnd .i64 q126.Want q126.Mask), .int .i64 q126.Mask, .bool q126.Long] 28 (nog rfl _) rfl (by kernel_rfl) (by kernel_rfl) ?_; intro b302 a303 wd305 hF304 hM306; clear hF301 hM167
     have hc307 := hp278.1; have hp308 := hp278.2; clear hp278
     refine ap hF304 hM306 2 (T := tyFilter) (xs := x6) (ys := [(⟨bAnd .i64 q126.Want q126.Mask, q126.Mask, q126.Long⟩ : Filter)]) (ao := aox6) (cap := capx6) (ao2 := (some ⟨b302, 0, none⟩)) (cap2 := 1) (t := 22) (e := 28) (bytes := 24) (nog rfl _) rfl (by kernel_rfl) rfl (by kernel_rfl) (by kernel_rfl) (by kernel_rfl) rfl (Src.row hM306 0 rfl (RepAll.one (T := tyFilter) (x := (⟨bAnd .i64 q126.Want q126.Mask, q126.Mask, q126.Long⟩ : Filter)) rfl)) hc307 ?_; intro ao309 cap310 a314 wd311 hnil312 hF315 hM313; clear hF304 hM306
     have hM316 : Mem w.heap.size [] w Z [.row b302 [.int .i64 (bAnd .i64 q126.Want q126.Mask), .int .i64 q126.Mask, .bool q126.Long] 28, .row b135 [.int .i64 q126.Want, .int .i64 q126.Mask, .bool q126.Long] 28, .own tyFilter 28 ao309 cap310 (x6 ++ [(⟨bAnd .i64 q126.Want q126.Mask, q126.Mask, q126.Long⟩ : Filter)]), .own tyFilter 28 ao15 cap16 ((fleastS u0).1)] Z17 wd311 := hM313; clear hM313
     refine s1 hF315 6 (.slice ao309 (x6 ++ [(⟨bAnd .i64 q126.Want q126.Mask, q126.Mask, q126.Long⟩ : Filter)]).length cap310) ?_; intro a317 hF318; clear hF315
     refine nlH (hQ279 _ _ ?_); clear hQ279 hQ279Q
     refine ibn ?_
     refine thn ?_
     have hF319 : Fr 91 [] [⟨0, [], .slice ao1 u0.length cap2⟩, ⟨3, [], .slice ao15 ((fleastS u0).1).length cap16⟩, ⟨4, [], .int .i64 ((fleastS u0).2)⟩, ⟨6, [], .slice ao309 (x6 ++ [(⟨bAnd .i64 q126.Want q126.Mask, q126.Mask, q126.Long⟩ : Filter)]).length cap310⟩, ⟨36, [], .slice ao1 u0.length cap2⟩, ⟨37, [], .int .i64 (u0.length : Int)⟩, ⟨38, [], .int .i64 x38⟩] a317 := hF318.region (by kernel_rfl) (by kernel_rfl); clear hF318
     refine rgH ?_; intro hQ320Q hQ320
     refine s1 hF319 83 (.int .i64 (w64 (x38 + 1))) ?_; intro a321 hF322; clear hF319
     refine s1 hF322 38 (.int .i64 (w64 (x38 + 1))) ?_; intro a323 hF324; clear hF322
     refine nlH (hQ320 _ _ ?_); clear hQ320 hQ320Q
     refine rd ?_
     exact ⟨⟨x6 ++ [(⟨bAnd .i64 q126.Want q126.Mask, q126.Mask, q126.Long⟩ : Filter)], w64 (x38 + 1), ao309, cap310⟩, hp308.1, hp308.2, (hF324.region (by kernel_rfl) (by kernel_rfl)).anyβ _ (by kernel_rfl), hM316.keep (List.Sublist.cons _ (List.Sublist.cons _ (List.Sublist.cons_cons _ (List.Sublist.cons_cons _ (List.Sublist.slnil)))))⟩
    · -- no
     have hp325 := hp273.2 hb277; clear hp273
     refine wp_skip ?_
     refine ibn ?_
     refine thn ?_
     refine rgH ?_; intro hQ326Q hQ326
     refine s1 hF276 83 (.int .i64 (w64 (x38 + 1))) ?_; intro a327 hF328; clear hF276
     refine s1 hF328 38 (.int .i64 (w64 (x38 + 1))) ?_; intro a329 hF330; clear hF328
     refine nlH (hQ326 _ _ ?_); clear hQ326 hQ326Q
     refine rd ?_
     exact ⟨⟨x6, w64 (x38 + 1), aox6, capx6⟩, hp325.1, hp325.2, (hF330.region (by kernel_rfl) (by kernel_rfl)).anyβ _ (by kernel_rfl), hM167.keep (List.Sublist.cons _ (List.Sublist.cons_cons _ (List.Sublist.cons_cons _ (List.Sublist.slnil))))⟩
  · -- no
   have hp331 := hp112.2 hb116; clear hp112
   refine wp_exit ?_
   refine thx ?_
   refine thx ?_
   refine ibx ?_
   refine thn ?_
   refine sqH ?_; intro hQ332Q hQ332
   refine s1 hF115 84 (.int .i64 ((fleastS u0).2)) ?_; intro a333 hF334; clear hF115
   refine s1 hF334 85 (.bool (((fleastS u0).2) == 0)) ?_; intro a335 hF336; clear hF334
   refine s1 hF336 86 (.bool (((fleastS u0).2) == 0)) ?_; intro a337 hF338; clear hF336
   have hF339 := hF338.atom ((((fleastS u0).2) == 0) == true) (by kernel_rfl); clear hF338
   refine gp hF339 87 0 [] (((fleastS u0).2) == 0) (.slice ao15 ((fleastS u0).1).length cap16) rfl rfl ?_; intro a340 hF341; clear hF339
   refine gp hF341 88 0 [] (((fleastS u0).2) == 0) (.slice aox6 x6.length capx6) rfl rfl ?_; intro a342 hF343; clear hF341
   obtain ⟨Z344, hle345, hM346, hs347⟩ := hM111.freeze 1 rfl
   replace hs3 := hs3.mono hle345
   replace hle0 := Fz.le.trans hle0 hle345
   have hM348 : Mem w.heap.size [] w Z [.own tyFilter 28 aox6 capx6 x6] Z344 wd107 := hM346; clear hM346
   obtain ⟨Z349, hle350, hM351, hs352⟩ := hM348.freeze 0 rfl
   replace hs3 := hs3.mono hle350
   replace hs347 := hs347.mono hle350
   replace hle0 := Fz.le.trans hle0 hle350
   have hM353 : Mem w.heap.size [] w Z [] Z349 wd107 := hM351; clear hM351
   refine gcl hF343 hM353 (.bool (feqS ((fleastS u0).1) x6)) 17 #[.slice ao15 ((fleastS u0).1).length cap16, .slice aox6 x6.length capx6] (m := 0) (cj := []) (bj := ((fleastS u0).2) == 0) rfl rfl (by kernel_rfl) rfl (by kernel_rfl) (by kernel_rfl) (by kernel_rfl) (fun _ => by kernel_rfl) (fun hg => feq_fun ((fleastS u0).1) x6 ao15 cap16 aox6 capx6 _ _ hs347 hs352 hM353.fz) ?_; intro a354 wd356 hF355 hM357; clear hF343 hM353
   refine st hF355 (.bool ((((fleastS u0).2) == 0) && (feqS ((fleastS u0).1) x6))) (nog rfl _) rfl (by kernel_rfl) (pk_and hF355 (g := []) (m := 0) (b := ((fleastS u0).2) == 0) (v := (feqS ((fleastS u0).1) x6)) rfl (by kernel_rfl) (by kernel_rfl) (by kernel_rfl) rfl) ?_; intro a358 hF359; clear hF355
   refine s1 hF359 2 (.bool ((((fleastS u0).2) == 0) && (feqS ((fleastS u0).1) x6))) ?_; intro a360 hF361; clear hF359
   refine nlH (hQ332 _ _ ?_); clear hQ332 hQ332Q
   refine wp_ret ?_
   refine rt (fn := Try.f5) (v := .bool ((((fleastS u0).2) == 0) && (feqS ((fleastS u0).1) x6))) hF361 (re1 hF361 (fn := Try.f5) rfl (by kernel_rfl)) ?_
   exact ⟨(((fleastS u0).2) == 0) && (feqS ((fleastS u0).1) x6), rfl, hp331, hM357.below⟩

set_option maxRecDepth 100000 in
theorem LIn_walk (u0 : List Filter) (u1 : Frame) (ao1 : Option Addr) (cap2 : Nat) (ao4 : Option Addr) (cap5 : Nat) (Z : Fz) (w : World) (hs3 : SlR tyFilter Z ao1 cap2 u0) (hs6 : SlR (tyInt .u8) Z ao4 cap5 u1.Data) (hZ : Z.on w) {K : Bool → Prop} (hp : LIn_vc u0 u1 K) : Calls Try.prog 6 #[.slice ao1 u0.length cap2, .agg #[.int .i64 u1.ID, .bool u1.Long, .bool u1.Fast, .bool u1.Remote, .int .i64 u1.Size, .slice ao4 u1.Data.length cap5]] w fun e w' => ∃ r : Bool, e = .returned (.bool r) ∧ K r ∧ Below w.heap.size w w' := by
 refine enter0 Try.func6 rfl rfl (by kernel_rfl) ?_; intro a0 hF0; have hM0 := Mem.start w Z hZ; have hle0 := Fz.le.refl Z
 have hp7 := hp (hs3.small); clear hp
 have hp8 := hp7 (hs6.small); clear hp7
 refine sqH ?_; intro hQ9Q hQ9
 refine sn hF0 hM0 (fun b => .pointer (some ⟨b, 0, none⟩)) [.int .i64 u1.ID, .bool u1.Long, .bool u1.Fast, .bool u1.Remote, .int .i64 u1.Size, .slice ao4 u1.Data.length cap5] 38 (nog rfl _) rfl (by kernel_rfl) (by kernel_rfl) ?_; intro b10 a11 wd13 hF12 hM14; clear hF0 hM0
 refine s1 hF12 4 (.bool false) ?_; intro a15 hF16; clear hF12
 refine nlH (hQ9 _ _ ?_); clear hQ9 hQ9Q
 refine sqH ?_; intro hQ17Q hQ17
 refine s1 hF16 12 (.slice ao1 u0.length cap2) ?_; intro a18 hF19; clear hF16
 refine l2 hF19 hM14 13 0 0 6 [.int .i64 u1.ID, .bool u1.Long, .bool u1.Fast, .bool u1.Remote, .int .i64 u1.Size, .slice ao4 u1.Data.length cap5] rfl rfl ?_; intro a20 hF21; clear hF19
 refine cl hF21 25 #[.slice ao1 u0.length cap2, .agg #[.int .i64 u1.ID, .bool u1.Long, .bool u1.Fast, .bool u1.Remote, .int .i64 u1.Size, .slice ao4 u1.Data.length cap5]] (nog rfl _) rfl (by kernel_rfl) (by kernel_rfl) ?_
 refine (filterin_fun u0 u1 ao1 cap2 ao4 cap5 _ _ hs3 hs6 hM14.fz).mono ?_; rintro _ wd22 ⟨ao26, cap27, Z28, rfl, hm⟩; refine ⟨_, rfl, ?_⟩; intro a23 hF24; have hM25 := hM14.callZ hm; have hle29 := hm.ext.le; clear hm hM14 hF21
 replace hs3 := hs3.mono hle29
 replace hs6 := hs6.mono hle29
 replace hle0 := Fz.le.trans hle0 hle29
 have hM30 : Mem w.heap.size [] w Z [.own (tyInt .i64) 3 ao26 cap27 ((finS u0 u1).1), .row b10 [.int .i64 u1.ID, .bool u1.Long, .bool u1.Fast, .bool u1.Remote, .int .i64 u1.Size, .slice ao4 u1.Data.length cap5] 38] Z28 wd22 := hM25; clear hM25
 have hp31 := hp8 (hM30.ownSmall 0 rfl); clear hp8
 refine s1 hF24 11 (.tuple #[.slice ao26 ((finS u0 u1).1).length cap27, .int .i64 ((finS u0 u1).2)]) ?_; intro a32 hF33; clear hF24
 refine s1 hF33 15 (.slice ao26 ((finS u0 u1).1).length cap27) ?_; intro a34 hF35; clear hF33
 refine s1 hF35 16 (.int .i64 ((finS u0 u1).2)) ?_; intro a36 hF37; clear hF35
 refine s1 hF37 5 (.slice ao26 ((finS u0 u1).1).length cap27) ?_; intro a38 hF39; clear hF37
 refine s1 hF39 6 (.int .i64 ((finS u0 u1).2)) ?_; intro a40 hF41; clear hF39
 refine nlH (hQ17 _ _ ?_); clear hQ17 hQ17Q
 refine sqH ?_; intro hQ42Q hQ42
 refine s1 hF41 17 (.slice ao1 u0.length cap2) ?_; intro a43 hF44; clear hF41
 refine fcl hF44 hM30 (.int .i64 (fcheckS u0)) 19 #[.slice ao1 u0.length cap2] (nog rfl _) rfl (by kernel_rfl) (fun _ => by kernel_rfl) (rcheckf_fun u0 ao1 cap2 _ _ hs3 hM30.fz) ?_; intro a45 wd47 hF46 hM48; clear hF44 hM30
 refine s1 hF46 7 (.int .i64 (fcheckS u0)) ?_; intro a49 hF50; clear hF46
 refine nlH (hQ42 _ _ ?_); clear hQ42 hQ42Q
 refine wp_seq ?_
 refine sqH ?_; intro hQ51Q hQ51
 refine fcl hF50 hM48 (.bool true) 16 #[] (nog rfl _) rfl (by kernel_rfl) (fun _ => by kernel_rfl) (filtered_fun  _ _ hM48.fz) ?_; intro a52 wd54 hF53 hM55; clear hF50 hM48
 refine s1 hF53 20 (.bool false) ?_; intro a56 hF57; clear hF53
 refine s1 hF57 21 (.bool false) ?_; intro a58 hF59; clear hF57
 refine st hF59 (.slice ao1 u0.length cap2) (by rw [wanted_of hF59 (b := false) rfl rfl (by kernel_rfl) (by kernel_rfl)]; rfl) rfl (by kernel_rfl) (p0 hF59 (by kernel_rfl)) ?_; intro a60 hF61; clear hF59
 refine fcl hF61 hM55 (.int .i64 (fcheckS u0)) 26 #[.slice ao1 u0.length cap2] (by rw [wanted_of hF61 (b := false) rfl rfl (by kernel_rfl) (by kernel_rfl)]; rfl) rfl (by kernel_rfl) (fun _ => by kernel_rfl) (fcheck_fun u0 ao1 cap2 _ _ hs3 hM55.fz) ?_; intro a62 wd64 hF63 hM65; clear hF61 hM55
 refine st hF63 (.int .i64 (fcheckS u0)) (by rw [wanted_of hF63 (b := false) rfl rfl (by kernel_rfl) (by kernel_rfl)]; rfl) rfl (by kernel_rfl) (p0 hF63 (by kernel_rfl)) ?_; intro a66 hF67; clear hF63
 refine st hF67 (.bool ((fcheckS u0) != (fcheckS u0))) (by rw [wanted_of hF67 (b := false) rfl rfl (by kernel_rfl) (by kernel_rfl)]; rfl) rfl (by kernel_rfl) (p0 hF67 (by kernel_rfl)) ?_; intro a68 hF69; clear hF67
 refine s1 hF69 26 (.bool ((fcheckS u0) != (fcheckS u0))) ?_; intro a70 hF71; clear hF69
 refine nlH (hQ51 _ _ ?_); clear hQ51 hQ51Q
 refine cd hF71 (t := (fcheckS u0) != (fcheckS u0)) (by kernel_rfl) (fun hb72 => ?_) (fun hb72 => ?_)
 · -- yes
  have hp73 := hp31.1 hb72; clear hp31
  have hF74 : Fr 63 [] [] a70 := hF71.region (by kernel_rfl) (by kernel_rfl); clear hF71
  refine sqH ?_; intro hQ75Q hQ75
  refine s1 hF74 4 (.bool false) ?_; intro a76 hF77; clear hF74
  refine nlH (hQ75 _ _ ?_); clear hQ75 hQ75Q
  refine wp_ret ?_
  refine thr ?_
  refine rt (fn := Try.f6) (v := .bool false) hF77 (re1 hF77 (fn := Try.f6) rfl (by kernel_rfl)) ?_
  exact ⟨false, rfl, hp73, hM65.below⟩
 · -- no
  have hp78 := hp31.2 hb72; clear hp31
  refine wp_skip ?_
  refine thn ?_
  refine wp_seq ?_
  have hF79 : Fr 63 [] [⟨0, [], .slice ao1 u0.length cap2⟩, ⟨3, [], .pointer (some ⟨b10, 0, none⟩)⟩, ⟨5, [], .slice ao26 ((finS u0 u1).1).length cap27⟩, ⟨6, [], .int .i64 ((finS u0 u1).2)⟩, ⟨7, [], .int .i64 (fcheckS u0)⟩] a70 := hF71.region (by kernel_rfl) (by kernel_rfl); clear hF71
  refine sqH ?_; intro hQ80Q hQ80
  refine s1 hF79 27 (.int .i64 (fcheckS u0)) ?_; intro a81 hF82; clear hF79
  refine s1 hF82 28 (.bool ((fcheckS u0) == 0)) ?_; intro a83 hF84; clear hF82
  refine nlH (hQ80 _ _ ?_); clear hQ80 hQ80Q
  refine cd hF84 (t := (fcheckS u0) == 0) (by kernel_rfl) (fun hb85 => ?_) (fun hb85 => ?_)
  · -- yes
   have hp86 := hp78.1 hb85; clear hp78
   refine rgH ?_; intro hQ87Q hQ87
   refine l2 hF84 hM65 29 1 0 6 [.int .i64 u1.ID, .bool u1.Long, .bool u1.Fast, .bool u1.Remote, .int .i64 u1.Size, .slice ao4 u1.Data.length cap5] rfl rfl ?_; intro a88 hF89; clear hF84
   refine fcl hF89 hM65 (.int .i64 (rcheckfr u1)) 27 #[.agg #[.int .i64 u1.ID, .bool u1.Long, .bool u1.Fast, .bool u1.Remote, .int .i64 u1.Size, .slice ao4 u1.Data.length cap5]] (nog rfl _) rfl (by kernel_rfl) (fun _ => by kernel_rfl) (rcheckfr_fun u1 ao4 cap5 _ _ hs6 hM65.fz) ?_; intro a90 wd92 hF91 hM93; clear hF89 hM65
   refine s1 hF91 7 (.int .i64 (rcheckfr u1)) ?_; intro a94 hF95; clear hF91
   refine nlH (hQ87 _ _ ?_); clear hQ87 hQ87Q
   refine thn ?_
   refine wp_seq ?_
   refine sqH ?_; intro hQ96Q hQ96
   refine s1 hF95 31 (.int .i64 (rcheckfr u1)) ?_; intro a97 hF98; clear hF95
   refine s1 hF98 32 (.bool ((rcheckfr u1) != 0)) ?_; intro a99 hF100; clear hF98
   refine nlH (hQ96 _ _ ?_); clear hQ96 hQ96Q
   refine cd hF100 (t := (rcheckfr u1) != 0) (by kernel_rfl) (fun hb101 => ?_) (fun hb101 => ?_)
   · -- yes
    have hp102 := hp86.1 hb101; clear hp86
    refine sqH ?_; intro hQ103Q hQ103
    refine s1 hF100 33 (.int .i64 ((finS u0 u1).2)) ?_; intro a104 hF105; clear hF100
    refine s1 hF105 34 (.int .i64 (rcheckfr u1)) ?_; intro a106 hF107; clear hF105
    refine s1 hF107 35 (.bool (((finS u0 u1).2) == (rcheckfr u1))) ?_; intro a108 hF109; clear hF107
    refine s1 hF109 36 (.bool (((finS u0 u1).2) == (rcheckfr u1))) ?_; intro a110 hF111; clear hF109
    have hF112 := hF111.atom ((((finS u0 u1).2) == (rcheckfr u1)) == true) (by kernel_rfl); clear hF111
    refine gp hF112 37 0 [] (((finS u0 u1).2) == (rcheckfr u1)) (.slice ao26 ((finS u0 u1).1).length cap27) rfl rfl ?_; intro a113 hF114; clear hF112
    refine gp hF114 38 0 [] (((finS u0 u1).2) == (rcheckfr u1)) (.int .i64 (((finS u0 u1).1).length : Int)) rfl rfl ?_; intro a115 hF116; clear hF114
    refine gp hF116 39 0 [] (((finS u0 u1).2) == (rcheckfr u1)) (.bool ((((finS u0 u1).1).length : Int) == 0)) rfl rfl ?_; intro a117 hF118; clear hF116
    refine st hF118 (.bool ((((finS u0 u1).2) == (rcheckfr u1)) && ((((finS u0 u1).1).length : Int) == 0))) (nog rfl _) rfl (by kernel_rfl) (pk_and hF118 (g := []) (m := 0) (b := ((finS u0 u1).2) == (rcheckfr u1)) (v := (((finS u0 u1).1).length : Int) == 0) rfl (by kernel_rfl) (by kernel_rfl) (by kernel_rfl) rfl) ?_; intro a119 hF120; clear hF118
    refine s1 hF120 4 (.bool ((((finS u0 u1).2) == (rcheckfr u1)) && ((((finS u0 u1).1).length : Int) == 0))) ?_; intro a121 hF122; clear hF120
    refine nlH (hQ103 _ _ ?_); clear hQ103 hQ103Q
    refine wp_ret ?_
    refine thr ?_
    refine rt (fn := Try.f6) (v := .bool ((((finS u0 u1).2) == (rcheckfr u1)) && ((((finS u0 u1).1).length : Int) == 0))) hF122 (re1 hF122 (fn := Try.f6) rfl (by kernel_rfl)) ?_
    exact ⟨(((finS u0 u1).2) == (rcheckfr u1)) && ((((finS u0 u1).1).length : Int) == 0), rfl, hp102, hM93.below⟩
   · -- no
    have hp123 := hp86.2 hb101; clear hp86
    refine wp_skip ?_
    refine thn ?_
    refine sqH ?_; intro hQ124Q hQ124
    refine s1 hF100 8 (.slice none 0 0) ?_; intro a125 hF126; clear hF100
    refine nlH (hQ124 _ _ ?_); clear hQ124 hQ124Q
    refine wp_seq ?_
    refine sqH ?_; intro hQ127Q hQ127
    refine s1 hF126 41 (.slice ao1 u0.length cap2) ?_; intro a128 hF129; clear hF126
    refine s1 hF129 42 (.int .i64 (u0.length : Int)) ?_; intro a130 hF131; clear hF129
    refine s1 hF131 43 (.int .i64 0) ?_; intro a132 hF133; clear hF131
    refine nlH (hQ127 _ _ ?_); clear hQ127 hQ127Q
    refine wp_block ?_
    have hF134 : Fr 63 [] [⟨3, [], .pointer (some ⟨b10, 0, none⟩)⟩, ⟨5, [], .slice ao26 ((finS u0 u1).1).length cap27⟩, ⟨6, [], .int .i64 ((finS u0 u1).2)⟩, ⟨8, [], .slice none 0 0⟩, ⟨41, [], .slice ao1 u0.length cap2⟩, ⟨42, [], .int .i64 (u0.length : Int)⟩, ⟨43, [], .int .i64 0⟩] a132 := hF133.region (by kernel_rfl) (by kernel_rfl); clear hF133
    have hM136 : Mem w.heap.size [] w Z [.own (tyInt .i64) 3 none 0 ([] : List Int), .own (tyInt .i64) 3 ao26 cap27 ((finS u0 u1).1), .row b10 [.int .i64 u1.ID, .bool u1.Long, .bool u1.Fast, .bool u1.Remote, .int .i64 u1.Size, .slice ao4 u1.Data.length cap5] 38] Z28 wd92 := hM93.addNil (tyInt .i64) 3 (by decide); clear hM93
    have hF137 : Fr 63 [] [⟨3, [], .pointer (some ⟨b10, 0, none⟩)⟩, ⟨5, [], .slice ao26 ((finS u0 u1).1).length cap27⟩, ⟨6, [], .int .i64 ((finS u0 u1).2)⟩, ⟨8, [], .slice none ([] : List Int).length 0⟩, ⟨41, [], .slice ao1 u0.length cap2⟩, ⟨42, [], .int .i64 (u0.length : Int)⟩, ⟨43, [], .int .i64 0⟩] a132 := hF134.region (by kernel_rfl) (by kernel_rfl); clear hF134
    obtain ⟨inv135, mu135, hI140, hr139⟩ := hp123
    refine lp (ι := (List Int) × Int × (Option Addr) × Nat) (fun (s : (List Int) × Int × (Option Addr) × Nat) => [⟨3, [], .pointer (some ⟨b10, 0, none⟩)⟩, ⟨5, [], .slice ao26 ((finS u0 u1).1).length cap27⟩, ⟨6, [], .int .i64 ((finS u0 u1).2)⟩, ⟨8, [], .slice s.2.2.1 s.1.length s.2.2.2⟩, ⟨41, [], .slice ao1 u0.length cap2⟩, ⟨42, [], .int .i64 (u0.length : Int)⟩, ⟨43, [], .int .i64 s.2.1⟩]) (fun (s : (List Int) × Int × (Option Addr) × Nat) => [.own (tyInt .i64) 3 s.2.2.1 s.2.2.2 s.1, .own (tyInt .i64) 3 ao26 cap27 ((finS u0 u1).1), .row b10 [.int .i64 u1.ID, .bool u1.Long, .bool u1.Fast, .bool u1.Remote, .int .i64 u1.Size, .slice ao4 u1.Data.length cap5] 38]) (fun (s : (List Int) × Int × (Option Addr) × Nat) => Z28) (fun (s : (List Int) × Int × (Option Addr) × Nat) => inv135 s.1 s.2.1) (fun (s : (List Int) × Int × (Option Addr) × Nat) => mu135 s.1 s.2.1) ⟨([] : List Int), 0, none, 0⟩ hI140 (by exact hF137.region (by kernel_rfl) (by kernel_rfl)) (by exact hM136) ?_
    rintro ⟨x8, x43, aox8, capx8⟩ hI138 a142 wd143 hF144 hM145
    have hF146 : Fr 63 [] [⟨3, [], .pointer (some ⟨b10, 0, none⟩)⟩, ⟨5, [], .slice ao26 ((finS u0 u1).1).length cap27⟩, ⟨6, [], .int .i64 ((finS u0 u1).2)⟩, ⟨8, [], .slice aox8 x8.length capx8⟩, ⟨41, [], .slice ao1 u0.length cap2⟩, ⟨42, [], .int .i64 (u0.length : Int)⟩, ⟨43, [], .int .i64 x43⟩] a142 := hF144; clear hF144 hF137
    have hM147 : Mem w.heap.size [] w Z [.own (tyInt .i64) 3 aox8 capx8 x8, .own (tyInt .i64) 3 ao26 cap27 ((finS u0 u1).1), .row b10 [.int .i64 u1.ID, .bool u1.Long, .bool u1.Fast, .bool u1.Remote, .int .i64 u1.Size, .slice ao4 u1.Data.length cap5] 38] Z28 wd143 := hM145; clear hM145 hM136
    have hp148 := hr139 x8 x43 hI138
    refine sqH ?_; intro hQ149Q hQ149
    refine s1 hF146 44 (.bool (decide (x43 < (u0.length : Int)))) ?_; intro a150 hF151; clear hF146
    refine nlH (hQ149 _ _ ?_); clear hQ149 hQ149Q
    refine wp_seq ?_
    refine cd hF151 (t := decide (x43 < (u0.length : Int))) (by kernel_rfl) (fun hb152 => ?_) (fun hb152 => ?_)
    · -- yes
     have hp153 := hp148.1 hb152; clear hp148
     refine wp_skip ?_
     refine thn ?_
     refine wp_seq ?_
     refine wp_block ?_
     refine sqH ?_; intro hQ154Q hQ154
     refine s1 hF151 45 (.int .i64 x43) ?_; intro a155 hF156; clear hF151
     have hc157 := hp153.1; have hp158 := hp153.2; clear hp153
     refine ix hF156 (T := tyFilter) (xs := u0) hs3 x43 hc157 (k := .i64) (e := 28) (bytes := 24) (nog rfl _) rfl (by kernel_rfl) rfl (by kernel_rfl) (by kernel_rfl) (by kernel_rfl) ?_; intro b159 off160 cs161 q162 a166 hq163 hP164 hT165 hF167; clear hF156
     have hp168 := hp158 q162 hq163; clear hp158
     obtain rfl : cs161 = ([.int .i64 q162.Want, .int .i64 q162.Mask, .bool q162.Long] : List Value) := hT165
     refine z2 hF167 hM147 47 hP164 0 3 [.int .i64 q162.Want, .int .i64 q162.Mask, .bool q162.Long] rfl ?_; intro a169 hF170; clear hF167
     refine sn hF170 hM147 (fun b => .pointer (some ⟨b, 0, none⟩)) [.int .i64 0, .int .i64 0, .bool false] 28 (nog rfl _) rfl (by kernel_rfl) (by kernel_rfl) ?_; intro b171 a172 wd174 hF173 hM175; clear hF170 hM147
     refine s1 hF173 9 (.int .i64 x43) ?_; intro a176 hF177; clear hF173
     refine sr hF177 hM175 0 [.int .i64 q162.Want, .int .i64 q162.Mask, .bool q162.Long] (b := b171) (off := 0) (cs := [.int .i64 0, .int .i64 0, .bool false]) (ty := 28) (u := .agg #[.int .i64 q162.Want, .int .i64 q162.Mask, .bool q162.Long]) (nog rfl _) rfl rfl (by kernel_rfl) (by kernel_rfl) (by kernel_rfl) (by kernel_rfl) (by kernel_rfl) (by kernel_rfl) (by kernel_rfl) ?_; intro wd178 hM179; clear hM175
     have hM180 : Mem w.heap.size [] w Z [.row b171 [.int .i64 q162.Want, .int .i64 q162.Mask, .bool q162.Long] 28, .own (tyInt .i64) 3 aox8 capx8 x8, .own (tyInt .i64) 3 ao26 cap27 ((finS u0 u1).1), .row b10 [.int .i64 u1.ID, .bool u1.Long, .bool u1.Fast, .bool u1.Remote, .int .i64 u1.Size, .slice ao4 u1.Data.length cap5] 38] Z28 wd178 := hM179; clear hM179
     refine nlH (hQ154 _ _ ?_); clear hQ154 hQ154Q
     refine sqH ?_; intro hQ181Q hQ181
     refine l2 hF177 hM180 48 0 0 3 [.int .i64 q162.Want, .int .i64 q162.Mask, .bool q162.Long] rfl rfl ?_; intro a182 hF183; clear hF177
     refine l2 hF183 hM180 49 3 0 6 [.int .i64 u1.ID, .bool u1.Long, .bool u1.Fast, .bool u1.Remote, .int .i64 u1.Size, .slice ao4 u1.Data.length cap5] rfl rfl ?_; intro a184 hF185; clear hF183
     refine fcl hF185 hM180 (.bool (letsin q162 u1)) 22 #[.agg #[.int .i64 q162.Want, .int .i64 q162.Mask, .bool q162.Long], .agg #[.int .i64 u1.ID, .bool u1.Long, .bool u1.Fast, .bool u1.Remote, .int .i64 u1.Size, .slice ao4 u1.Data.length cap5]] (nog rfl _) rfl (by kernel_rfl) (fun _ => by kernel_rfl) (letsin_fun q162 u1 ao4 cap5 _ _ hs6 hM180.fz) ?_; intro a186 wd188 hF187 hM189; clear hF185 hM180
     refine nlH (hQ181 _ _ ?_); clear hQ181 hQ181Q
     refine cd hF187 (t := (letsin q162 u1)) (by kernel_rfl) (fun hb190 => ?_) (fun hb190 => ?_)
     · -- yes
      have hp191 := hp168.1 hb190; clear hp168
      refine rgH ?_; intro hQ192Q hQ192
      refine s1 hF187 51 (.slice aox8 x8.length capx8) ?_; intro a193 hF194; clear hF187
      refine s1 hF194 52 (.int .i64 x43) ?_; intro a195 hF196; clear hF194
      refine sn hF196 hM189 (fun b => .slice (some ⟨b, 0, none⟩) 1 1) [.int .i64 x43] 3 (nog rfl _) rfl (by kernel_rfl) (by kernel_rfl) ?_; intro b197 a198 wd200 hF199 hM201; clear hF196 hM189
      have hc202 := hp191.1; have hp203 := hp191.2; clear hp191
      refine ap hF199 hM201 2 (T := (tyInt .i64)) (xs := x8) (ys := [x43]) (ao := aox8) (cap := capx8) (ao2 := (some ⟨b197, 0, none⟩)) (cap2 := 1) (t := 43) (e := 3) (bytes := 8) (nog rfl _) rfl (by kernel_rfl) rfl (by kernel_rfl) (by kernel_rfl) (by kernel_rfl) rfl (Src.row hM201 0 rfl (RepAll.one (T := (tyInt .i64)) (x := x43) rfl)) hc202 ?_; intro ao204 cap205 a209 wd206 hnil207 hF210 hM208; clear hF199 hM201
      have hM211 : Mem w.heap.size [] w Z [.row b197 [.int .i64 x43] 3, .row b171 [.int .i64 q162.Want, .int .i64 q162.Mask, .bool q162.Long] 28, .own (tyInt .i64) 3 ao204 cap205 (x8 ++ [x43]), .own (tyInt .i64) 3 ao26 cap27 ((finS u0 u1).1), .row b10 [.int .i64 u1.ID, .bool u1.Long, .bool u1.Fast, .bool u1.Remote, .int .i64 u1.Size, .slice ao4 u1.Data.length cap5] 38] Z28 wd206 := hM208; clear hM208
      refine s1 hF210 8 (.slice ao204 (x8 ++ [x43]).length cap205) ?_; intro a212 hF213; clear hF210
      refine nlH (hQ192 _ _ ?_); clear hQ192 hQ192Q
      refine ibn ?_
      refine thn ?_
      have hF214 : Fr 63 [] [⟨3, [], .pointer (some ⟨b10, 0, none⟩)⟩, ⟨5, [], .slice ao26 ((finS u0 u1).1).length cap27⟩, ⟨6, [], .int .i64 ((finS u0 u1).2)⟩, ⟨8, [], .slice ao204 (x8 ++ [x43]).length cap205⟩, ⟨41, [], .slice ao1 u0.length cap2⟩, ⟨42, [], .int .i64 (u0.length : Int)⟩, ⟨43, [], .int .i64 x43⟩] a212 := hF213.region (by kernel_rfl) (by kernel_rfl); clear hF213
      refine rgH ?_; intro hQ215Q hQ215
      refine s1 hF214 55 (.int .i64 (w64 (x43 + 1))) ?_; intro a216 hF217; clear hF214
      refine s1 hF217 43 (.int .i64 (w64 (x43 + 1))) ?_; intro a218 hF219; clear hF217
      refine nlH (hQ215 _ _ ?_); clear hQ215 hQ215Q
      refine rd ?_
      exact ⟨⟨x8 ++ [x43], w64 (x43 + 1), ao204, cap205⟩, hp203.1, hp203.2, (hF219.region (by kernel_rfl) (by kernel_rfl)).anyβ _ (by kernel_rfl), hM211.keep (List.Sublist.cons _ (List.Sublist.cons _ (List.Sublist.cons_cons _ (List.Sublist.cons_cons _ (List.Sublist.cons_cons _ (List.Sublist.slnil))))))⟩
     · -- no
      have hp220 := hp168.2 hb190; clear hp168
      refine wp_skip ?_
      refine ibn ?_
      refine thn ?_
      refine rgH ?_; intro hQ221Q hQ221
      refine s1 hF187 55 (.int .i64 (w64 (x43 + 1))) ?_; intro a222 hF223; clear hF187
      refine s1 hF223 43 (.int .i64 (w64 (x43 + 1))) ?_; intro a224 hF225; clear hF223
      refine nlH (hQ221 _ _ ?_); clear hQ221 hQ221Q
      refine rd ?_
      exact ⟨⟨x8, w64 (x43 + 1), aox8, capx8⟩, hp220.1, hp220.2, (hF225.region (by kernel_rfl) (by kernel_rfl)).anyβ _ (by kernel_rfl), hM189.keep (List.Sublist.cons _ (List.Sublist.cons_cons _ (List.Sublist.cons_cons _ (List.Sublist.cons_cons _ (List.Sublist.slnil)))))⟩
    · -- no
     have hp226 := hp148.2 hb152; clear hp148
     refine wp_exit ?_
     refine thx ?_
     refine thx ?_
     refine ibx ?_
     refine thn ?_
     refine sqH ?_; intro hQ227Q hQ227
     refine s1 hF151 56 (.int .i64 ((finS u0 u1).2)) ?_; intro a228 hF229; clear hF151
     refine s1 hF229 57 (.bool (((finS u0 u1).2) == 0)) ?_; intro a230 hF231; clear hF229
     refine s1 hF231 58 (.bool (((finS u0 u1).2) == 0)) ?_; intro a232 hF233; clear hF231
     have hF234 := hF233.atom ((((finS u0 u1).2) == 0) == true) (by kernel_rfl); clear hF233
     refine gp hF234 59 0 [] (((finS u0 u1).2) == 0) (.slice ao26 ((finS u0 u1).1).length cap27) rfl rfl ?_; intro a235 hF236; clear hF234
     refine gp hF236 60 0 [] (((finS u0 u1).2) == 0) (.slice aox8 x8.length capx8) rfl rfl ?_; intro a237 hF238; clear hF236
     obtain ⟨Z239, hle240, hM241, hs242⟩ := hM147.freeze 1 rfl
     replace hs3 := hs3.mono hle240
     replace hs6 := hs6.mono hle240
     replace hle0 := Fz.le.trans hle0 hle240
     have hM243 : Mem w.heap.size [] w Z [.own (tyInt .i64) 3 aox8 capx8 x8, .row b10 [.int .i64 u1.ID, .bool u1.Long, .bool u1.Fast, .bool u1.Remote, .int .i64 u1.Size, .slice ao4 u1.Data.length cap5] 38] Z239 wd143 := hM241; clear hM241
     obtain ⟨Z244, hle245, hM246, hs247⟩ := hM243.freeze 0 rfl
     replace hs3 := hs3.mono hle245
     replace hs6 := hs6.mono hle245
     replace hs242 := hs242.mono hle245
     replace hle0 := Fz.le.trans hle0 hle245
     have hM248 : Mem w.heap.size [] w Z [.row b10 [.int .i64 u1.ID, .bool u1.Long, .bool u1.Fast, .bool u1.Remote, .int .i64 u1.Size, .slice ao4 u1.Data.length cap5] 38] Z244 wd143 := hM246; clear hM246
     refine gcl hF238 hM248 (.bool (sequalS ((finS u0 u1).1) x8)) 28 #[.slice ao26 ((finS u0 u1).1).length cap27, .slice aox8 x8.length capx8] (m := 0) (cj := []) (bj := ((finS u0 u1).2) == 0) rfl rfl (by kernel_rfl) rfl (by kernel_rfl) (by kernel_rfl) (by kernel_rfl) (fun _ => by kernel_rfl) (fun hg => sequal_fun ((finS u0 u1).1) x8 ao26 cap27 aox8 capx8 _ _ hs242 hs247 hM248.fz) ?_; intro a249 wd251 hF250 hM252; clear hF238 hM248
     refine st hF250 (.bool ((((finS u0 u1).2) == 0) && (sequalS ((finS u0 u1).1) x8))) (nog rfl _) rfl (by kernel_rfl) (pk_and hF250 (g := []) (m := 0) (b := ((finS u0 u1).2) == 0) (v := (sequalS ((finS u0 u1).1) x8)) rfl (by kernel_rfl) (by kernel_rfl) (by kernel_rfl) rfl) ?_; intro a253 hF254; clear hF250
     refine s1 hF254 4 (.bool ((((finS u0 u1).2) == 0) && (sequalS ((finS u0 u1).1) x8))) ?_; intro a255 hF256; clear hF254
     refine nlH (hQ227 _ _ ?_); clear hQ227 hQ227Q
     refine wp_ret ?_
     refine rt (fn := Try.f6) (v := .bool ((((finS u0 u1).2) == 0) && (sequalS ((finS u0 u1).1) x8))) hF256 (re1 hF256 (fn := Try.f6) rfl (by kernel_rfl)) ?_
     exact ⟨(((finS u0 u1).2) == 0) && (sequalS ((finS u0 u1).1) x8), rfl, hp226, hM252.below⟩
  · -- no
   have hp257 := hp78.2 hb85; clear hp78
   refine wp_skip ?_
   refine thn ?_
   refine wp_seq ?_
   refine sqH ?_; intro hQ258Q hQ258
   refine s1 hF84 31 (.int .i64 (fcheckS u0)) ?_; intro a259 hF260; clear hF84
   refine s1 hF260 32 (.bool ((fcheckS u0) != 0)) ?_; intro a261 hF262; clear hF260
   refine nlH (hQ258 _ _ ?_); clear hQ258 hQ258Q
   refine cd hF262 (t := (fcheckS u0) != 0) (by kernel_rfl) (fun hb263 => ?_) (fun hb263 => ?_)
   · -- yes
    have hp264 := hp257.1 hb263; clear hp257
    refine sqH ?_; intro hQ265Q hQ265
    refine s1 hF262 33 (.int .i64 ((finS u0 u1).2)) ?_; intro a266 hF267; clear hF262
    refine s1 hF267 34 (.int .i64 (fcheckS u0)) ?_; intro a268 hF269; clear hF267
    refine s1 hF269 35 (.bool (((finS u0 u1).2) == (fcheckS u0))) ?_; intro a270 hF271; clear hF269
    refine s1 hF271 36 (.bool (((finS u0 u1).2) == (fcheckS u0))) ?_; intro a272 hF273; clear hF271
    have hF274 := hF273.atom ((((finS u0 u1).2) == (fcheckS u0)) == true) (by kernel_rfl); clear hF273
    refine gp hF274 37 0 [] (((finS u0 u1).2) == (fcheckS u0)) (.slice ao26 ((finS u0 u1).1).length cap27) rfl rfl ?_; intro a275 hF276; clear hF274
    refine gp hF276 38 0 [] (((finS u0 u1).2) == (fcheckS u0)) (.int .i64 (((finS u0 u1).1).length : Int)) rfl rfl ?_; intro a277 hF278; clear hF276
    refine gp hF278 39 0 [] (((finS u0 u1).2) == (fcheckS u0)) (.bool ((((finS u0 u1).1).length : Int) == 0)) rfl rfl ?_; intro a279 hF280; clear hF278
    refine st hF280 (.bool ((((finS u0 u1).2) == (fcheckS u0)) && ((((finS u0 u1).1).length : Int) == 0))) (nog rfl _) rfl (by kernel_rfl) (pk_and hF280 (g := []) (m := 0) (b := ((finS u0 u1).2) == (fcheckS u0)) (v := (((finS u0 u1).1).length : Int) == 0) rfl (by kernel_rfl) (by kernel_rfl) (by kernel_rfl) rfl) ?_; intro a281 hF282; clear hF280
    refine s1 hF282 4 (.bool ((((finS u0 u1).2) == (fcheckS u0)) && ((((finS u0 u1).1).length : Int) == 0))) ?_; intro a283 hF284; clear hF282
    refine nlH (hQ265 _ _ ?_); clear hQ265 hQ265Q
    refine wp_ret ?_
    refine thr ?_
    refine rt (fn := Try.f6) (v := .bool ((((finS u0 u1).2) == (fcheckS u0)) && ((((finS u0 u1).1).length : Int) == 0))) hF284 (re1 hF284 (fn := Try.f6) rfl (by kernel_rfl)) ?_
    exact ⟨(((finS u0 u1).2) == (fcheckS u0)) && ((((finS u0 u1).1).length : Int) == 0), rfl, hp264, hM65.below⟩
   · -- no
    have hp285 := hp257.2 hb263; clear hp257
    refine wp_skip ?_
    refine thn ?_
    refine sqH ?_; intro hQ286Q hQ286
    refine s1 hF262 8 (.slice none 0 0) ?_; intro a287 hF288; clear hF262
    refine nlH (hQ286 _ _ ?_); clear hQ286 hQ286Q
    refine wp_seq ?_
    refine sqH ?_; intro hQ289Q hQ289
    refine s1 hF288 41 (.slice ao1 u0.length cap2) ?_; intro a290 hF291; clear hF288
    refine s1 hF291 42 (.int .i64 (u0.length : Int)) ?_; intro a292 hF293; clear hF291
    refine s1 hF293 43 (.int .i64 0) ?_; intro a294 hF295; clear hF293
    refine nlH (hQ289 _ _ ?_); clear hQ289 hQ289Q
    refine wp_block ?_
    have hF296 : Fr 63 [] [⟨3, [], .pointer (some ⟨b10, 0, none⟩)⟩, ⟨5, [], .slice ao26 ((finS u0 u1).1).length cap27⟩, ⟨6, [], .int .i64 ((finS u0 u1).2)⟩, ⟨8, [], .slice none 0 0⟩, ⟨41, [], .slice ao1 u0.length cap2⟩, ⟨42, [], .int .i64 (u0.length : Int)⟩, ⟨43, [], .int .i64 0⟩] a294 := hF295.region (by kernel_rfl) (by kernel_rfl); clear hF295
    have hM298 : Mem w.heap.size [] w Z [.own (tyInt .i64) 3 none 0 ([] : List Int), .own (tyInt .i64) 3 ao26 cap27 ((finS u0 u1).1), .row b10 [.int .i64 u1.ID, .bool u1.Long, .bool u1.Fast, .bool u1.Remote, .int .i64 u1.Size, .slice ao4 u1.Data.length cap5] 38] Z28 wd64 := hM65.addNil (tyInt .i64) 3 (by decide); clear hM65
    have hF299 : Fr 63 [] [⟨3, [], .pointer (some ⟨b10, 0, none⟩)⟩, ⟨5, [], .slice ao26 ((finS u0 u1).1).length cap27⟩, ⟨6, [], .int .i64 ((finS u0 u1).2)⟩, ⟨8, [], .slice none ([] : List Int).length 0⟩, ⟨41, [], .slice ao1 u0.length cap2⟩, ⟨42, [], .int .i64 (u0.length : Int)⟩, ⟨43, [], .int .i64 0⟩] a294 := hF296.region (by kernel_rfl) (by kernel_rfl); clear hF296
    obtain ⟨inv297, mu297, hI302, hr301⟩ := hp285
    refine lp (ι := (List Int) × Int × (Option Addr) × Nat) (fun (s : (List Int) × Int × (Option Addr) × Nat) => [⟨3, [], .pointer (some ⟨b10, 0, none⟩)⟩, ⟨5, [], .slice ao26 ((finS u0 u1).1).length cap27⟩, ⟨6, [], .int .i64 ((finS u0 u1).2)⟩, ⟨8, [], .slice s.2.2.1 s.1.length s.2.2.2⟩, ⟨41, [], .slice ao1 u0.length cap2⟩, ⟨42, [], .int .i64 (u0.length : Int)⟩, ⟨43, [], .int .i64 s.2.1⟩]) (fun (s : (List Int) × Int × (Option Addr) × Nat) => [.own (tyInt .i64) 3 s.2.2.1 s.2.2.2 s.1, .own (tyInt .i64) 3 ao26 cap27 ((finS u0 u1).1), .row b10 [.int .i64 u1.ID, .bool u1.Long, .bool u1.Fast, .bool u1.Remote, .int .i64 u1.Size, .slice ao4 u1.Data.length cap5] 38]) (fun (s : (List Int) × Int × (Option Addr) × Nat) => Z28) (fun (s : (List Int) × Int × (Option Addr) × Nat) => inv297 s.1 s.2.1) (fun (s : (List Int) × Int × (Option Addr) × Nat) => mu297 s.1 s.2.1) ⟨([] : List Int), 0, none, 0⟩ hI302 (by exact hF299.region (by kernel_rfl) (by kernel_rfl)) (by exact hM298) ?_
    rintro ⟨x8, x43, aox8, capx8⟩ hI300 a304 wd305 hF306 hM307
    have hF308 : Fr 63 [] [⟨3, [], .pointer (some ⟨b10, 0, none⟩)⟩, ⟨5, [], .slice ao26 ((finS u0 u1).1).length cap27⟩, ⟨6, [], .int .i64 ((finS u0 u1).2)⟩, ⟨8, [], .slice aox8 x8.length capx8⟩, ⟨41, [], .slice ao1 u0.length cap2⟩, ⟨42, [], .int .i64 (u0.length : Int)⟩, ⟨43, [], .int .i64 x43⟩] a304 := hF306; clear hF306 hF299
    have hM309 : Mem w.heap.size [] w Z [.own (tyInt .i64) 3 aox8 capx8 x8, .own (tyInt .i64) 3 ao26 cap27 ((finS u0 u1).1), .row b10 [.int .i64 u1.ID, .bool u1.Long, .bool u1.Fast, .bool u1.Remote, .int .i64 u1.Size, .slice ao4 u1.Data.length cap5] 38] Z28 wd305 := hM307; clear hM307 hM298
    have hp310 := hr301 x8 x43 hI300
    refine sqH ?_; intro hQ311Q hQ311
    refine s1 hF308 44 (.bool (decide (x43 < (u0.length : Int)))) ?_; intro a312 hF313; clear hF308
    refine nlH (hQ311 _ _ ?_); clear hQ311 hQ311Q
    refine wp_seq ?_
    refine cd hF313 (t := decide (x43 < (u0.length : Int))) (by kernel_rfl) (fun hb314 => ?_) (fun hb314 => ?_)
    · -- yes
     have hp315 := hp310.1 hb314; clear hp310
     refine wp_skip ?_
     refine thn ?_
     refine wp_seq ?_
     refine wp_block ?_
     refine sqH ?_; intro hQ316Q hQ316
     refine s1 hF313 45 (.int .i64 x43) ?_; intro a317 hF318; clear hF313
     have hc319 := hp315.1; have hp320 := hp315.2; clear hp315
     refine ix hF318 (T := tyFilter) (xs := u0) hs3 x43 hc319 (k := .i64) (e := 28) (bytes := 24) (nog rfl _) rfl (by kernel_rfl) rfl (by kernel_rfl) (by kernel_rfl) (by kernel_rfl) ?_; intro b321 off322 cs323 q324 a328 hq325 hP326 hT327 hF329; clear hF318
     have hp330 := hp320 q324 hq325; clear hp320
     obtain rfl : cs323 = ([.int .i64 q324.Want, .int .i64 q324.Mask, .bool q324.Long] : List Value) := hT327
     refine z2 hF329 hM309 47 hP326 0 3 [.int .i64 q324.Want, .int .i64 q324.Mask, .bool q324.Long] rfl ?_; intro a331 hF332; clear hF329
     refine sn hF332 hM309 (fun b => .pointer (some ⟨b, 0, none⟩)) [.int .i64 0, .int .i64 0, .bool false] 28 (nog rfl _) rfl (by kernel_rfl) (by kernel_rfl) ?_; intro b333 a334 wd336 hF335 hM337; clear hF332 hM309
     refine s1 hF335 9 (.int .i64 x43) ?_; intro a338 hF339; clear hF335
     refine sr hF339 hM337 0 [.int .i64 q324.Want, .int .i64 q324.Mask, .bool q324.Long] (b := b333) (off := 0) (cs := [.int .i64 0, .int .i64 0, .bool false]) (ty := 28) (u := .agg #[.int .i64 q324.Want, .int .i64 q324.Mask, .bool q324.Long]) (nog rfl _) rfl rfl (by kernel_rfl) (by kernel_rfl) (by kernel_rfl) (by kernel_rfl) (by kernel_rfl) (by kernel_rfl) (by kernel_rfl) ?_; intro wd340 hM341; clear hM337
     have hM342 : Mem w.heap.size [] w Z [.row b333 [.int .i64 q324.Want, .int .i64 q324.Mask, .bool q324.Long] 28, .own (tyInt .i64) 3 aox8 capx8 x8, .own (tyInt .i64) 3 ao26 cap27 ((finS u0 u1).1), .row b10 [.int .i64 u1.ID, .bool u1.Long, .bool u1.Fast, .bool u1.Remote, .int .i64 u1.Size, .slice ao4 u1.Data.length cap5] 38] Z28 wd340 := hM341; clear hM341
     refine nlH (hQ316 _ _ ?_); clear hQ316 hQ316Q
     refine sqH ?_; intro hQ343Q hQ343
     refine l2 hF339 hM342 48 0 0 3 [.int .i64 q324.Want, .int .i64 q324.Mask, .bool q324.Long] rfl rfl ?_; intro a344 hF345; clear hF339
     refine l2 hF345 hM342 49 3 0 6 [.int .i64 u1.ID, .bool u1.Long, .bool u1.Fast, .bool u1.Remote, .int .i64 u1.Size, .slice ao4 u1.Data.length cap5] rfl rfl ?_; intro a346 hF347; clear hF345
     refine fcl hF347 hM342 (.bool (letsin q324 u1)) 22 #[.agg #[.int .i64 q324.Want, .int .i64 q324.Mask, .bool q324.Long], .agg #[.int .i64 u1.ID, .bool u1.Long, .bool u1.Fast, .bool u1.Remote, .int .i64 u1.Size, .slice ao4 u1.Data.length cap5]] (nog rfl _) rfl (by kernel_rfl) (fun _ => by kernel_rfl) (letsin_fun q324 u1 ao4 cap5 _ _ hs6 hM342.fz) ?_; intro a348 wd350 hF349 hM351; clear hF347 hM342
     refine nlH (hQ343 _ _ ?_); clear hQ343 hQ343Q
     refine cd hF349 (t := (letsin q324 u1)) (by kernel_rfl) (fun hb352 => ?_) (fun hb352 => ?_)
     · -- yes
      have hp353 := hp330.1 hb352; clear hp330
      refine rgH ?_; intro hQ354Q hQ354
      refine s1 hF349 51 (.slice aox8 x8.length capx8) ?_; intro a355 hF356; clear hF349
      refine s1 hF356 52 (.int .i64 x43) ?_; intro a357 hF358; clear hF356
      refine sn hF358 hM351 (fun b => .slice (some ⟨b, 0, none⟩) 1 1) [.int .i64 x43] 3 (nog rfl _) rfl (by kernel_rfl) (by kernel_rfl) ?_; intro b359 a360 wd362 hF361 hM363; clear hF358 hM351
      have hc364 := hp353.1; have hp365 := hp353.2; clear hp353
      refine ap hF361 hM363 2 (T := (tyInt .i64)) (xs := x8) (ys := [x43]) (ao := aox8) (cap := capx8) (ao2 := (some ⟨b359, 0, none⟩)) (cap2 := 1) (t := 43) (e := 3) (bytes := 8) (nog rfl _) rfl (by kernel_rfl) rfl (by kernel_rfl) (by kernel_rfl) (by kernel_rfl) rfl (Src.row hM363 0 rfl (RepAll.one (T := (tyInt .i64)) (x := x43) rfl)) hc364 ?_; intro ao366 cap367 a371 wd368 hnil369 hF372 hM370; clear hF361 hM363
      have hM373 : Mem w.heap.size [] w Z [.row b359 [.int .i64 x43] 3, .row b333 [.int .i64 q324.Want, .int .i64 q324.Mask, .bool q324.Long] 28, .own (tyInt .i64) 3 ao366 cap367 (x8 ++ [x43]), .own (tyInt .i64) 3 ao26 cap27 ((finS u0 u1).1), .row b10 [.int .i64 u1.ID, .bool u1.Long, .bool u1.Fast, .bool u1.Remote, .int .i64 u1.Size, .slice ao4 u1.Data.length cap5] 38] Z28 wd368 := hM370; clear hM370
      refine s1 hF372 8 (.slice ao366 (x8 ++ [x43]).length cap367) ?_; intro a374 hF375; clear hF372
      refine nlH (hQ354 _ _ ?_); clear hQ354 hQ354Q
      refine ibn ?_
      refine thn ?_
      have hF376 : Fr 63 [] [⟨3, [], .pointer (some ⟨b10, 0, none⟩)⟩, ⟨5, [], .slice ao26 ((finS u0 u1).1).length cap27⟩, ⟨6, [], .int .i64 ((finS u0 u1).2)⟩, ⟨8, [], .slice ao366 (x8 ++ [x43]).length cap367⟩, ⟨41, [], .slice ao1 u0.length cap2⟩, ⟨42, [], .int .i64 (u0.length : Int)⟩, ⟨43, [], .int .i64 x43⟩] a374 := hF375.region (by kernel_rfl) (by kernel_rfl); clear hF375
      refine rgH ?_; intro hQ377Q hQ377
      refine s1 hF376 55 (.int .i64 (w64 (x43 + 1))) ?_; intro a378 hF379; clear hF376
      refine s1 hF379 43 (.int .i64 (w64 (x43 + 1))) ?_; intro a380 hF381; clear hF379
      refine nlH (hQ377 _ _ ?_); clear hQ377 hQ377Q
      refine rd ?_
      exact ⟨⟨x8 ++ [x43], w64 (x43 + 1), ao366, cap367⟩, hp365.1, hp365.2, (hF381.region (by kernel_rfl) (by kernel_rfl)).anyβ _ (by kernel_rfl), hM373.keep (List.Sublist.cons _ (List.Sublist.cons _ (List.Sublist.cons_cons _ (List.Sublist.cons_cons _ (List.Sublist.cons_cons _ (List.Sublist.slnil))))))⟩
     · -- no
      have hp382 := hp330.2 hb352; clear hp330
      refine wp_skip ?_
      refine ibn ?_
      refine thn ?_
      refine rgH ?_; intro hQ383Q hQ383
      refine s1 hF349 55 (.int .i64 (w64 (x43 + 1))) ?_; intro a384 hF385; clear hF349
      refine s1 hF385 43 (.int .i64 (w64 (x43 + 1))) ?_; intro a386 hF387; clear hF385
      refine nlH (hQ383 _ _ ?_); clear hQ383 hQ383Q
      refine rd ?_
      exact ⟨⟨x8, w64 (x43 + 1), aox8, capx8⟩, hp382.1, hp382.2, (hF387.region (by kernel_rfl) (by kernel_rfl)).anyβ _ (by kernel_rfl), hM351.keep (List.Sublist.cons _ (List.Sublist.cons_cons _ (List.Sublist.cons_cons _ (List.Sublist.cons_cons _ (List.Sublist.slnil)))))⟩
    · -- no
     have hp388 := hp310.2 hb314; clear hp310
     refine wp_exit ?_
     refine thx ?_
     refine thx ?_
     refine ibx ?_
     refine thn ?_
     refine sqH ?_; intro hQ389Q hQ389
     refine s1 hF313 56 (.int .i64 ((finS u0 u1).2)) ?_; intro a390 hF391; clear hF313
     refine s1 hF391 57 (.bool (((finS u0 u1).2) == 0)) ?_; intro a392 hF393; clear hF391
     refine s1 hF393 58 (.bool (((finS u0 u1).2) == 0)) ?_; intro a394 hF395; clear hF393
     have hF396 := hF395.atom ((((finS u0 u1).2) == 0) == true) (by kernel_rfl); clear hF395
     refine gp hF396 59 0 [] (((finS u0 u1).2) == 0) (.slice ao26 ((finS u0 u1).1).length cap27) rfl rfl ?_; intro a397 hF398; clear hF396
     refine gp hF398 60 0 [] (((finS u0 u1).2) == 0) (.slice aox8 x8.length capx8) rfl rfl ?_; intro a399 hF400; clear hF398
     obtain ⟨Z401, hle402, hM403, hs404⟩ := hM309.freeze 1 rfl
     replace hs3 := hs3.mono hle402
     replace hs6 := hs6.mono hle402
     replace hle0 := Fz.le.trans hle0 hle402
     have hM405 : Mem w.heap.size [] w Z [.own (tyInt .i64) 3 aox8 capx8 x8, .row b10 [.int .i64 u1.ID, .bool u1.Long, .bool u1.Fast, .bool u1.Remote, .int .i64 u1.Size, .slice ao4 u1.Data.length cap5] 38] Z401 wd305 := hM403; clear hM403
     obtain ⟨Z406, hle407, hM408, hs409⟩ := hM405.freeze 0 rfl
     replace hs3 := hs3.mono hle407
     replace hs6 := hs6.mono hle407
     replace hs404 := hs404.mono hle407
     replace hle0 := Fz.le.trans hle0 hle407
     have hM410 : Mem w.heap.size [] w Z [.row b10 [.int .i64 u1.ID, .bool u1.Long, .bool u1.Fast, .bool u1.Remote, .int .i64 u1.Size, .slice ao4 u1.Data.length cap5] 38] Z406 wd305 := hM408; clear hM408
     refine gcl hF400 hM410 (.bool (sequalS ((finS u0 u1).1) x8)) 28 #[.slice ao26 ((finS u0 u1).1).length cap27, .slice aox8 x8.length capx8] (m := 0) (cj := []) (bj := ((finS u0 u1).2) == 0) rfl rfl (by kernel_rfl) rfl (by kernel_rfl) (by kernel_rfl) (by kernel_rfl) (fun _ => by kernel_rfl) (fun hg => sequal_fun ((finS u0 u1).1) x8 ao26 cap27 aox8 capx8 _ _ hs404 hs409 hM410.fz) ?_; intro a411 wd413 hF412 hM414; clear hF400 hM410
     refine st hF412 (.bool ((((finS u0 u1).2) == 0) && (sequalS ((finS u0 u1).1) x8))) (nog rfl _) rfl (by kernel_rfl) (pk_and hF412 (g := []) (m := 0) (b := ((finS u0 u1).2) == 0) (v := (sequalS ((finS u0 u1).1) x8)) rfl (by kernel_rfl) (by kernel_rfl) (by kernel_rfl) rfl) ?_; intro a415 hF416; clear hF412
     refine s1 hF416 4 (.bool ((((finS u0 u1).2) == 0) && (sequalS ((finS u0 u1).1) x8))) ?_; intro a417 hF418; clear hF416
     refine nlH (hQ389 _ _ ?_); clear hQ389 hQ389Q
     refine wp_ret ?_
     refine rt (fn := Try.f6) (v := .bool ((((finS u0 u1).2) == 0) && (sequalS ((finS u0 u1).1) x8))) hF418 (re1 hF418 (fn := Try.f6) rfl (by kernel_rfl)) ?_
     exact ⟨(((finS u0 u1).2) == 0) && (sequalS ((finS u0 u1).1) x8), rfl, hp388, hM414.below⟩

set_option maxRecDepth 100000 in
theorem LCount_walk (u0 : List Filter) (ao1 : Option Addr) (cap2 : Nat) (Z : Fz) (w : World) (hs3 : SlR tyFilter Z ao1 cap2 u0) (hZ : Z.on w) {K : Bool → Prop} (hp : LCount_vc u0 K) : Calls Try.prog 4 #[.slice ao1 u0.length cap2] w fun e w' => ∃ r : Bool, e = .returned (.bool r) ∧ K r ∧ Below w.heap.size w w' := by
 refine enter0 Try.func4 rfl rfl (by kernel_rfl) ?_; intro a0 hF0; have hM0 := Mem.start w Z hZ; have hle0 := Fz.le.refl Z
 have hp4 := hp (hs3.small); clear hp
 refine sqH ?_; intro hQ5Q hQ5
 refine s1 hF0 2 (.bool false) ?_; intro a6 hF7; clear hF0
 refine nlH (hQ5 _ _ ?_); clear hQ5 hQ5Q
 refine sqH ?_; intro hQ8Q hQ8
 refine s1 hF7 13 (.slice ao1 u0.length cap2) ?_; intro a9 hF10; clear hF7
 refine fcl hF10 hM0 (.tuple #[.int .i64 ((fCountS u0 false).1), .int .i64 ((fCountS u0 false).2)]) 18 #[.slice ao1 u0.length cap2, .bool false] (nog rfl _) rfl (by kernel_rfl) (fun _ => by kernel_rfl) (fCount_fun u0 false ao1 cap2 _ _ hs3 hM0.fz) ?_; intro a11 wd13 hF12 hM14; clear hF10 hM0
 refine s1 hF12 12 (.tuple #[.int .i64 ((fCountS u0 false).1), .int .i64 ((fCountS u0 false).2)]) ?_; intro a15 hF16; clear hF12
 refine s1 hF16 15 (.int .i64 ((fCountS u0 false).1)) ?_; intro a17 hF18; clear hF16
 refine s1 hF18 16 (.int .i64 ((fCountS u0 false).2)) ?_; intro a19 hF20; clear hF18
 refine s1 hF20 3 (.int .i64 ((fCountS u0 false).1)) ?_; intro a21 hF22; clear hF20
 refine s1 hF22 4 (.int .i64 ((fCountS u0 false).2)) ?_; intro a23 hF24; clear hF22
 refine nlH (hQ8 _ _ ?_); clear hQ8 hQ8Q
 refine wp_seq ?_
 refine sqH ?_; intro hQ25Q hQ25
 refine s1 hF24 17 (.slice ao1 u0.length cap2) ?_; intro a26 hF27; clear hF24
 refine fcl hF27 hM14 (.int .i64 (fcheckS u0)) 19 #[.slice ao1 u0.length cap2] (nog rfl _) rfl (by kernel_rfl) (fun _ => by kernel_rfl) (rcheckf_fun u0 ao1 cap2 _ _ hs3 hM14.fz) ?_; intro a28 wd30 hF29 hM31; clear hF27 hM14
 refine s1 hF29 5 (.int .i64 (fcheckS u0)) ?_; intro a32 hF33; clear hF29
 refine nlH (hQ25 _ _ ?_); clear hQ25 hQ25Q
 refine sqH ?_; intro hQ34Q hQ34
 refine fcl hF33 hM31 (.bool true) 16 #[] (nog rfl _) rfl (by kernel_rfl) (fun _ => by kernel_rfl) (filtered_fun  _ _ hM31.fz) ?_; intro a35 wd37 hF36 hM38; clear hF33 hM31
 refine s1 hF36 20 (.bool false) ?_; intro a39 hF40; clear hF36
 refine s1 hF40 21 (.bool false) ?_; intro a41 hF42; clear hF40
 refine st hF42 (.int .i64 (fcheckS u0)) (by rw [wanted_of hF42 (b := false) rfl rfl (by kernel_rfl) (by kernel_rfl)]; rfl) rfl (by kernel_rfl) (p0 hF42 (by kernel_rfl)) ?_; intro a43 hF44; clear hF42
 refine st hF44 (.bool ((fcheckS u0) != 0)) (by rw [wanted_of hF44 (b := false) rfl rfl (by kernel_rfl) (by kernel_rfl)]; rfl) rfl (by kernel_rfl) (p0 hF44 (by kernel_rfl)) ?_; intro a45 hF46; clear hF44
 refine s1 hF46 24 (.bool ((fcheckS u0) != 0)) ?_; intro a47 hF48; clear hF46
 refine nlH (hQ34 _ _ ?_); clear hQ34 hQ34Q
 refine cd hF48 (t := (fcheckS u0) != 0) (by kernel_rfl) (fun hb49 => ?_) (fun hb49 => ?_)
 · -- yes
  have hp50 := hp4.1 hb49; clear hp4
  have hF51 : Fr 82 [] [⟨3, [], .int .i64 ((fCountS u0 false).1)⟩, ⟨4, [], .int .i64 ((fCountS u0 false).2)⟩, ⟨5, [], .int .i64 (fcheckS u0)⟩] a47 := hF48.region (by kernel_rfl) (by kernel_rfl); clear hF48
  refine sqH ?_; intro hQ52Q hQ52
  refine fcl hF51 hM38 (.bool true) 16 #[] (nog rfl _) rfl (by kernel_rfl) (fun _ => by kernel_rfl) (filtered_fun  _ _ hM38.fz) ?_; intro a53 wd55 hF54 hM56; clear hF51 hM38
  refine s1 hF54 26 (.bool true) ?_; intro a57 hF58; clear hF54
  refine st hF58 (.int .i64 ((fCountS u0 false).2)) (by rw [wanted_of hF58 (b := true) rfl rfl (by kernel_rfl) (by kernel_rfl)]; rfl) rfl (by kernel_rfl) (p0 hF58 (by kernel_rfl)) ?_; intro a59 hF60; clear hF58
  refine st hF60 (.int .i64 (fcheckS u0)) (by rw [wanted_of hF60 (b := true) rfl rfl (by kernel_rfl) (by kernel_rfl)]; rfl) rfl (by kernel_rfl) (p0 hF60 (by kernel_rfl)) ?_; intro a61 hF62; clear hF60
  refine st hF62 (.bool (((fCountS u0 false).2) == (fcheckS u0))) (by rw [wanted_of hF62 (b := true) rfl rfl (by kernel_rfl) (by kernel_rfl)]; rfl) rfl (by kernel_rfl) (p0 hF62 (by kernel_rfl)) ?_; intro a63 hF64; clear hF62
  refine s1 hF64 30 (.bool (((fCountS u0 false).2) == (fcheckS u0))) ?_; intro a65 hF66; clear hF64
  refine s1 hF66 31 (.bool (((fCountS u0 false).2) == (fcheckS u0))) ?_; intro a67 hF68; clear hF66
  have hF69 := hF68.atom ((((fCountS u0 false).2) == (fcheckS u0)) == true) (by kernel_rfl); clear hF68
  refine gp hF69 32 0 [] (((fCountS u0 false).2) == (fcheckS u0)) (.int .i64 ((fCountS u0 false).1)) rfl rfl ?_; intro a70 hF71; clear hF69
  refine gp hF71 33 0 [] (((fCountS u0 false).2) == (fcheckS u0)) (.bool (((fCountS u0 false).1) == 0)) rfl rfl ?_; intro a72 hF73; clear hF71
  refine st hF73 (.bool ((((fCountS u0 false).2) == (fcheckS u0)) && (((fCountS u0 false).1) == 0))) (nog rfl _) rfl (by kernel_rfl) (pk_and hF73 (g := []) (m := 0) (b := ((fCountS u0 false).2) == (fcheckS u0)) (v := ((fCountS u0 false).1) == 0) rfl (by kernel_rfl) (by kernel_rfl) (by kernel_rfl) rfl) ?_; intro a74 hF75; clear hF73
  refine s1 hF75 2 (.bool ((((fCountS u0 false).2) == (fcheckS u0)) && (((fCountS u0 false).1) == 0))) ?_; intro a76 hF77; clear hF75
  refine nlH (hQ52 _ _ ?_); clear hQ52 hQ52Q
  refine wp_ret ?_
  refine thr ?_
  refine rt (fn := Try.f4) (v := .bool ((((fCountS u0 false).2) == (fcheckS u0)) && (((fCountS u0 false).1) == 0))) hF77 (re1 hF77 (fn := Try.f4) rfl (by kernel_rfl)) ?_
  exact ⟨(((fCountS u0 false).2) == (fcheckS u0)) && (((fCountS u0 false).1) == 0), rfl, hp50, hM56.below⟩
 · -- no
  have hp78 := hp4.2 hb49; clear hp4
  refine wp_skip ?_
  refine thn ?_
  have hF79 : Fr 82 [] [⟨0, [], .slice ao1 u0.length cap2⟩, ⟨3, [], .int .i64 ((fCountS u0 false).1)⟩, ⟨4, [], .int .i64 ((fCountS u0 false).2)⟩] a47 := hF48.region (by kernel_rfl) (by kernel_rfl); clear hF48
  refine sqH ?_; intro hQ80Q hQ80
  refine s1 hF79 6 (.int .i64 0) ?_; intro a81 hF82; clear hF79
  refine nlH (hQ80 _ _ ?_); clear hQ80 hQ80Q
  refine wp_seq ?_
  refine sqH ?_; intro hQ83Q hQ83
  refine s1 hF82 35 (.int .i64 0) ?_; intro a84 hF85; clear hF82
  refine nlH (hQ83 _ _ ?_); clear hQ83 hQ83Q
  refine wp_block ?_
  have hF86 : Fr 82 [] [⟨0, [], .slice ao1 u0.length cap2⟩, ⟨3, [], .int .i64 ((fCountS u0 false).1)⟩, ⟨4, [], .int .i64 ((fCountS u0 false).2)⟩, ⟨6, [], .int .i64 0⟩, ⟨35, [], .int .i64 0⟩] a84 := hF85.region (by kernel_rfl) (by kernel_rfl); clear hF85
  have hF88 : Fr 82 [] [⟨0, [], .slice ao1 u0.length cap2⟩, ⟨3, [], .int .i64 ((fCountS u0 false).1)⟩, ⟨4, [], .int .i64 ((fCountS u0 false).2)⟩, ⟨6, [], .int .i64 0⟩, ⟨35, [], .int .i64 0⟩] a84 := hF86.region (by kernel_rfl) (by kernel_rfl); clear hF86
  obtain ⟨inv87, mu87, hI91, hr90⟩ := hp78
  have hle92 := hle0
  refine lp (ι := Int × Int × Fz) (fun (s : Int × Int × Fz) => [⟨0, [], .slice ao1 u0.length cap2⟩, ⟨3, [], .int .i64 ((fCountS u0 false).1)⟩, ⟨4, [], .int .i64 ((fCountS u0 false).2)⟩, ⟨6, [], .int .i64 s.1⟩, ⟨35, [], .int .i64 s.2.1⟩]) (fun (s : Int × Int × Fz) => []) (fun (s : Int × Int × Fz) => s.2.2) (fun (s : Int × Int × Fz) => inv87 s.1 s.2.1 ∧ Fz.le Z s.2.2) (fun (s : Int × Int × Fz) => mu87 s.1 s.2.1) ⟨0, 0, Z⟩ ⟨hI91, Fz.le.refl _⟩ (by exact hF88.region (by kernel_rfl) (by kernel_rfl)) (by exact hM38) ?_
  rintro ⟨x6, x35, ZL87⟩ ⟨hI89, hleL87⟩ a93 wd94 hF95 hM96
  have hF97 : Fr 82 [] [⟨0, [], .slice ao1 u0.length cap2⟩, ⟨3, [], .int .i64 ((fCountS u0 false).1)⟩, ⟨4, [], .int .i64 ((fCountS u0 false).2)⟩, ⟨6, [], .int .i64 x6⟩, ⟨35, [], .int .i64 x35⟩] a93 := hF95; clear hF95 hF88
  have hM98 : Mem w.heap.size [] w Z [] ZL87 wd94 := hM96; clear hM96 hM38
  have hp99 := hr90 x6 x35 hI89
  replace hle0 := Fz.le.trans hle0 hleL87
  have hs100 := hs3.mono hleL87
  refine sqH ?_; intro hQ101Q hQ101
  refine s1 hF97 36 (.bool (decide (x35 < 2048))) ?_; intro a102 hF103; clear hF97
  refine nlH (hQ101 _ _ ?_); clear hQ101 hQ101Q
  refine wp_seq ?_
  refine cd hF103 (t := decide (x35 < 2048)) (by kernel_rfl) (fun hb104 => ?_) (fun hb104 => ?_)
  · -- yes
   have hp105 := hp99.1 hb104; clear hp99
   refine wp_skip ?_
   refine thn ?_
   refine wp_seq ?_
   refine wp_block ?_
   refine sqH ?_; intro hQ106Q hQ106
   refine s1 hF103 37 (.int .i64 x35) ?_; intro a107 hF108; clear hF103
   refine sn hF108 hM98 (fun b => .pointer (some ⟨b, 0, none⟩)) [.int .i64 0] 3 (nog rfl _) rfl (by kernel_rfl) (by kernel_rfl) ?_; intro b109 a110 wd112 hF111 hM113; clear hF108 hM98
   refine sr hF111 hM113 0 [.int .i64 x35] (b := b109) (off := 0) (cs := [.int .i64 0]) (ty := 3) (u := .int .i64 x35) (nog rfl _) rfl rfl (by kernel_rfl) (by kernel_rfl) (by kernel_rfl) (by kernel_rfl) (by kernel_rfl) (by kernel_rfl) (by kernel_rfl) ?_; intro wd114 hM115; clear hM113
   have hM116 : Mem w.heap.size [] w Z [.row b109 [.int .i64 x35] 3] ZL87 wd114 := hM115; clear hM115
   refine nlH (hQ106 _ _ ?_); clear hQ106 hQ106Q
   refine sqH ?_; intro hQ117Q hQ117
   refine s1 hF111 38 (.slice ao1 u0.length cap2) ?_; intro a118 hF119; clear hF111
   refine s1 hF119 39 (.func (.func 21) #[] #[.pointer (some ⟨b109, 0, none⟩)]) ?_; intro a120 hF121; clear hF119
   obtain ⟨Z122, hle123, hM124, hP125⟩ := hM116.freezeRow 0 rfl
   replace hs100 := hs100.mono hle123
   replace hleL87 := hleL87.mono hle123
   replace hle0 := Fz.le.trans hle0 hle123
   have hM126 : Mem w.heap.size [] w Z [] Z122 wd114 := hM124; clear hM124
   refine fcl hF121 hM126 (.bool (fcontfS u0 (fun x0 => fc1 x0 x35))) 20 #[.slice ao1 u0.length cap2, .func (.func 21) #[] #[.pointer (some ⟨b109, 0, none⟩)]] (nog rfl _) rfl (by kernel_rfl) (fun _ => by kernel_rfl) (fcontf_fun u0 (fun x0 => fc1 x0 x35) ao1 cap2 21 #[.pointer (some ⟨b109, 0, none⟩)] _ _ hs100 (fun Z1 w1 h1 h2 x0 => fc1_fun x0 x35 b109 0 Z1 w1 (hP125.mono h1) h2) (fun _ _ => by kernel_rfl) hM126.fz) ?_; intro a127 wd129 hF128 hM130; clear hF121 hM126
   refine nlH (hQ117 _ _ ?_); clear hQ117 hQ117Q
   refine cd hF128 (t := (fcontfS u0 (fun x0 => fc1 x0 x35))) (by kernel_rfl) (fun hb131 => ?_) (fun hb131 => ?_)
   · -- yes
    have hp132 := hp105.1 hb131; clear hp105
    refine rgH ?_; intro hQ133Q hQ133
    refine s1 hF128 41 (.int .i64 x6) ?_; intro a134 hF135; clear hF128
    refine s1 hF135 42 (.int .i64 (w64 (x6 + 1))) ?_; intro a136 hF137; clear hF135
    refine s1 hF137 6 (.int .i64 (w64 (x6 + 1))) ?_; intro a138 hF139; clear hF137
    refine nlH (hQ133 _ _ ?_); clear hQ133 hQ133Q
    refine ibn ?_
    refine thn ?_
    refine rgH ?_; intro hQ140Q hQ140
    refine s1 hF139 43 (.int .i64 (w64 (x35 + 1))) ?_; intro a141 hF142; clear hF139
    refine s1 hF142 35 (.int .i64 (w64 (x35 + 1))) ?_; intro a143 hF144; clear hF142
    refine nlH (hQ140 _ _ ?_); clear hQ140 hQ140Q
    refine rd ?_
    exact ⟨⟨w64 (x6 + 1), w64 (x35 + 1), Z122⟩, ⟨hp132.1, hleL87⟩, hp132.2, (hF144.region (by kernel_rfl) (by kernel_rfl)).anyβ _ (by kernel_rfl), hM130.keep (List.Sublist.slnil)⟩
   · -- no
    have hp145 := hp105.2 hb131; clear hp105
    refine wp_skip ?_
    refine ibn ?_
    refine thn ?_
    refine rgH ?_; intro hQ146Q hQ146
    refine s1 hF128 43 (.int .i64 (w64 (x35 + 1))) ?_; intro a147 hF148; clear hF128
    refine s1 hF148 35 (.int .i64 (w64 (x35 + 1))) ?_; intro a149 hF150; clear hF148
    refine nlH (hQ146 _ _ ?_); clear hQ146 hQ146Q
    refine rd ?_
    exact ⟨⟨x6, w64 (x35 + 1), Z122⟩, ⟨hp145.1, hleL87⟩, hp145.2, (hF150.region (by kernel_rfl) (by kernel_rfl)).anyβ _ (by kernel_rfl), hM130.keep (List.Sublist.slnil)⟩
  · -- no
   have hp151 := hp99.2 hb104; clear hp99
   refine wp_exit ?_
   refine thx ?_
   refine thx ?_
   refine ibx ?_
   refine thn ?_
   refine wp_seq ?_
   refine sqH ?_; intro hQ152Q hQ152
   refine s1 hF103 44 (.int .i64 ((fCountS u0 false).2)) ?_; intro a153 hF154; clear hF103
   refine s1 hF154 45 (.bool (((fCountS u0 false).2) != 0)) ?_; intro a155 hF156; clear hF154
   refine s1 hF156 46 (.bool (((fCountS u0 false).2) != 0)) ?_; intro a157 hF158; clear hF156
   have hF159 := hF158.atom ((((fCountS u0 false).2) != 0) == false) (by kernel_rfl); clear hF158
   refine gp hF159 47 0 [] (((fCountS u0 false).2) != 0) (.int .i64 ((fCountS u0 false).1)) rfl rfl ?_; intro a160 hF161; clear hF159
   refine gp hF161 48 0 [] (((fCountS u0 false).2) != 0) (.int .i64 x6) rfl rfl ?_; intro a162 hF163; clear hF161
   refine gp hF163 49 0 [] (((fCountS u0 false).2) != 0) (.bool (((fCountS u0 false).1) != x6)) rfl rfl ?_; intro a164 hF165; clear hF163
   refine st hF165 (.bool ((((fCountS u0 false).2) != 0) || (((fCountS u0 false).1) != x6))) (nog rfl _) rfl (by kernel_rfl) (pk_or hF165 (g := []) (m := 0) (b := ((fCountS u0 false).2) != 0) (v := ((fCountS u0 false).1) != x6) rfl (by kernel_rfl) (by kernel_rfl) (by kernel_rfl) rfl) ?_; intro a166 hF167; clear hF165
   refine nlH (hQ152 _ _ ?_); clear hQ152 hQ152Q
   refine cd hF167 (t := (((fCountS u0 false).2) != 0) || (((fCountS u0 false).1) != x6)) (by kernel_rfl) (fun hb168 => ?_) (fun hb168 => ?_)
   · -- yes
    have hp169 := hp151.1 hb168; clear hp151
    have hF170 : Fr 82 [] [] a166 := hF167.region (by kernel_rfl) (by kernel_rfl); clear hF167
    refine sqH ?_; intro hQ171Q hQ171
    refine s1 hF170 2 (.bool false) ?_; intro a172 hF173; clear hF170
    refine nlH (hQ171 _ _ ?_); clear hQ171 hQ171Q
    refine wp_ret ?_
    refine thr ?_
    refine rt (fn := Try.f4) (v := .bool false) hF173 (re1 hF173 (fn := Try.f4) rfl (by kernel_rfl)) ?_
    exact ⟨false, rfl, hp169, hM98.below⟩
   · -- no
    have hp174 := hp151.2 hb168; clear hp151
    refine wp_skip ?_
    refine thn ?_
    have hF175 : Fr 82 [] [⟨0, [], .slice ao1 u0.length cap2⟩, ⟨6, [], .int .i64 x6⟩] a166 := hF167.region (by kernel_rfl) (by kernel_rfl); clear hF167
    refine sqH ?_; intro hQ176Q hQ176
    refine s1 hF175 8 (.slice none 0 0) ?_; intro a177 hF178; clear hF175
    refine nlH (hQ176 _ _ ?_); clear hQ176 hQ176Q
    refine wp_seq ?_
    refine sqH ?_; intro hQ179Q hQ179
    refine s1 hF178 51 (.slice ao1 u0.length cap2) ?_; intro a180 hF181; clear hF178
    refine s1 hF181 52 (.int .i64 (u0.length : Int)) ?_; intro a182 hF183; clear hF181
    refine s1 hF183 53 (.int .i64 0) ?_; intro a184 hF185; clear hF183
    refine nlH (hQ179 _ _ ?_); clear hQ179 hQ179Q
    refine wp_block ?_
    have hF186 : Fr 82 [] [⟨6, [], .int .i64 x6⟩, ⟨8, [], .slice none 0 0⟩, ⟨51, [], .slice ao1 u0.length cap2⟩, ⟨52, [], .int .i64 (u0.length : Int)⟩, ⟨53, [], .int .i64 0⟩] a184 := hF185.region (by kernel_rfl) (by kernel_rfl); clear hF185
    have hM188 : Mem w.heap.size [] w Z [.own tyFilter 28 none 0 ([] : List Filter)] ZL87 wd94 := hM98.addNil tyFilter 28 (by decide); clear hM98
    have hF189 : Fr 82 [] [⟨6, [], .int .i64 x6⟩, ⟨8, [], .slice none ([] : List Filter).length 0⟩, ⟨51, [], .slice ao1 u0.length cap2⟩, ⟨52, [], .int .i64 (u0.length : Int)⟩, ⟨53, [], .int .i64 0⟩] a184 := hF186.region (by kernel_rfl) (by kernel_rfl); clear hF186
    obtain ⟨inv187, mu187, hI192, hr191⟩ := hp174
    refine lp (ι := (List Filter) × Int × (Option Addr) × Nat) (fun (s : (List Filter) × Int × (Option Addr) × Nat) => [⟨6, [], .int .i64 x6⟩, ⟨8, [], .slice s.2.2.1 s.1.length s.2.2.2⟩, ⟨51, [], .slice ao1 u0.length cap2⟩, ⟨52, [], .int .i64 (u0.length : Int)⟩, ⟨53, [], .int .i64 s.2.1⟩]) (fun (s : (List Filter) × Int × (Option Addr) × Nat) => [.own tyFilter 28 s.2.2.1 s.2.2.2 s.1]) (fun (s : (List Filter) × Int × (Option Addr) × Nat) => ZL87) (fun (s : (List Filter) × Int × (Option Addr) × Nat) => inv187 s.1 s.2.1) (fun (s : (List Filter) × Int × (Option Addr) × Nat) => mu187 s.1 s.2.1) ⟨([] : List Filter), 0, none, 0⟩ hI192 (by exact hF189.region (by kernel_rfl) (by kernel_rfl)) (by exact hM188) ?_
    rintro ⟨x8, x53, aox8, capx8⟩ hI190 a194 wd195 hF196 hM197
    have hF198 : Fr 82 [] [⟨6, [], .int .i64 x6⟩, ⟨8, [], .slice aox8 x8.length capx8⟩, ⟨51, [], .slice ao1 u0.length cap2⟩, ⟨52, [], .int .i64 (u0.length : Int)⟩, ⟨53, [], .int .i64 x53⟩] a194 := hF196; clear hF196 hF189
    have hM199 : Mem w.heap.size [] w Z [.own tyFilter 28 aox8 capx8 x8] ZL87 wd195 := hM197; clear hM197 hM188
    have hp200 := hr191 x8 x53 hI190
    refine sqH ?_; intro hQ201Q hQ201
    refine s1 hF198 54 (.bool (decide (x53 < (u0.length : Int)))) ?_; intro a202 hF203; clear hF198
    refine nlH (hQ201 _ _ ?_); clear hQ201 hQ201Q
    refine wp_seq ?_
    refine cd hF203 (t := decide (x53 < (u0.length : Int))) (by kernel_rfl) (fun hb204 => ?_) (fun hb204 => ?_)
    · -- yes
     have hp205 := hp200.1 hb204; clear hp200
     refine wp_skip ?_
     refine thn ?_
     refine wp_seq ?_
     refine wp_block ?_
     refine sqH ?_; intro hQ206Q hQ206
     have hc207 := hp205.1; have hp208 := hp205.2; clear hp205
     refine ix hF203 (T := tyFilter) (xs := u0) hs100 x53 hc207 (k := .i64) (e := 28) (bytes := 24) (nog rfl _) rfl (by kernel_rfl) rfl (by kernel_rfl) (by kernel_rfl) (by kernel_rfl) ?_; intro b209 off210 cs211 q212 a216 hq213 hP214 hT215 hF217; clear hF203
     have hp218 := hp208 q212 hq213; clear hp208
     obtain rfl : cs211 = ([.int .i64 q212.Want, .int .i64 q212.Mask, .bool q212.Long] : List Value) := hT215
     refine z2 hF217 hM199 56 hP214 0 3 [.int .i64 q212.Want, .int .i64 q212.Mask, .bool q212.Long] rfl ?_; intro a219 hF220; clear hF217
     refine sn hF220 hM199 (fun b => .pointer (some ⟨b, 0, none⟩)) [.int .i64 0, .int .i64 0, .bool false] 28 (nog rfl _) rfl (by kernel_rfl) (by kernel_rfl) ?_; intro b221 a222 wd224 hF223 hM225; clear hF220 hM199
     refine sr hF223 hM225 0 [.int .i64 q212.Want, .int .i64 q212.Mask, .bool q212.Long] (b := b221) (off := 0) (cs := [.int .i64 0, .int .i64 0, .bool false]) (ty := 28) (u := .agg #[.int .i64 q212.Want, .int .i64 q212.Mask, .bool q212.Long]) (nog rfl _) rfl rfl (by kernel_rfl) (by kernel_rfl) (by kernel_rfl) (by kernel_rfl) (by kernel_rfl) (by kernel_rfl) (by kernel_rfl) ?_; intro wd226 hM227; clear hM225
     have hM228 : Mem w.heap.size [] w Z [.row b221 [.int .i64 q212.Want, .int .i64 q212.Mask, .bool q212.Long] 28, .own tyFilter 28 aox8 capx8 x8] ZL87 wd226 := hM227; clear hM227
     refine nlH (hQ206 _ _ ?_); clear hQ206 hQ206Q
     refine sqH ?_; intro hQ229Q hQ229
     refine s1 hF223 57 (.pointer (some ⟨b221, 2, none⟩)) ?_; intro a230 hF231; clear hF223
     refine l1 hF231 hM228 58 0 2 (.bool q212.Long) rfl rfl ?_; intro a232 hF233; clear hF231
     refine s1 hF233 59 (.bool (!q212.Long)) ?_; intro a234 hF235; clear hF233
     refine nlH (hQ229 _ _ ?_); clear hQ229 hQ229Q
     refine cd hF235 (t := !q212.Long) (by kernel_rfl) (fun hb236 => ?_) (fun hb236 => ?_)
     · -- yes
      have hp237 := hp218.1 hb236; clear hp218
      refine rgH ?_; intro hQ238Q hQ238
      refine s1 hF235 60 (.slice aox8 x8.length capx8) ?_; intro a239 hF240; clear hF235
      refine s1 hF240 61 (.pointer (some ⟨b221, 0, none⟩)) ?_; intro a241 hF242; clear hF240
      refine l1 hF242 hM228 62 0 0 (.int .i64 q212.Want) rfl rfl ?_; intro a243 hF244; clear hF242
      refine s1 hF244 63 (.pointer (some ⟨b221, 1, none⟩)) ?_; intro a245 hF246; clear hF244
      refine l1 hF246 hM228 64 0 1 (.int .i64 q212.Mask) rfl rfl ?_; intro a247 hF248; clear hF246
      refine s1 hF248 65 (.int .i64 (bOr .i64 q212.Mask 536868864)) ?_; intro a249 hF250; clear hF248
      refine s1 hF250 66 (.agg #[.int .i64 q212.Want, .int .i64 (bOr .i64 q212.Mask 536868864), .bool true]) ?_; intro a251 hF252; clear hF250
      refine sn hF252 hM228 (fun b => .slice (some ⟨b, 0, none⟩) 1 1) [.int .i64 q212.Want, .int .i64 (bOr .i64 q212.Mask 536868864), .bool true] 28 (nog rfl _) rfl (by kernel_rfl) (by kernel_rfl) ?_; intro b253 a254 wd256 hF255 hM257; clear hF252 hM228
      have hc258 := hp237.1; have hp259 := hp237.2; clear hp237
      refine ap hF255 hM257 2 (T := tyFilter) (xs := x8) (ys := [(⟨q212.Want, bOr .i64 q212.Mask 536868864, true⟩ : Filter)]) (ao := aox8) (cap := capx8) (ao2 := (some ⟨b253, 0, none⟩)) (cap2 := 1) (t := 22) (e := 28) (bytes := 24) (nog rfl _) rfl (by kernel_rfl) rfl (by kernel_rfl) (by kernel_rfl) (by kernel_rfl) rfl (Src.row hM257 0 rfl (RepAll.one (T := tyFilter) (x := (⟨q212.Want, bOr .i64 q212.Mask 536868864, true⟩ : Filter)) rfl)) hc258 ?_; intro ao260 cap261 a265 wd262 hnil263 hF266 hM264; clear hF255 hM257
      have hM267 : Mem w.heap.size [] w Z [.row b253 [.int .i64 q212.Want, .int .i64 (bOr .i64 q212.Mask 536868864), .bool true] 28, .row b221 [.int .i64 q212.Want, .int .i64 q212.Mask, .bool q212.Long] 28, .own tyFilter 28 ao260 cap261 (x8 ++ [(⟨q212.Want, bOr .i64 q212.Mask 536868864, true⟩ : Filter)])] ZL87 wd262 := hM264; clear hM264
      refine s1 hF266 8 (.slice ao260 (x8 ++ [(⟨q212.Want, bOr .i64 q212.Mask 536868864, true⟩ : Filter)]).length cap261) ?_; intro a268 hF269; clear hF266
      refine nlH (hQ238 _ _ ?_); clear hQ238 hQ238Q
      refine ibn ?_
      refine thn ?_
      have hF270 : Fr 82 [] [⟨6, [], .int .i64 x6⟩, ⟨8, [], .slice ao260 (x8 ++ [(⟨q212.Want, bOr .i64 q212.Mask 536868864, true⟩ : Filter)]).length cap261⟩, ⟨51, [], .slice ao1 u0.length cap2⟩, ⟨52, [], .int .i64 (u0.length : Int)⟩, ⟨53, [], .int .i64 x53⟩] a268 := hF269.region (by kernel_rfl) (by kernel_rfl); clear hF269
      refine rgH ?_; intro hQ271Q hQ271
      refine s1 hF270 69 (.int .i64 (w64 (x53 + 1))) ?_; intro a272 hF273; clear hF270
      refine s1 hF273 53 (.int .i64 (w64 (x53 + 1))) ?_; intro a274 hF275; clear hF273
      refine nlH (hQ271 _ _ ?_); clear hQ271 hQ271Q
      refine rd ?_
      exact ⟨⟨x8 ++ [(⟨q212.Want, bOr .i64 q212.Mask 536868864, true⟩ : Filter)], w64 (x53 + 1), ao260, cap261⟩, hp259.1, hp259.2, (hF275.region (by kernel_rfl) (by kernel_rfl)).anyβ _ (by kernel_rfl), hM267.keep (List.Sublist.cons _ (List.Sublist.cons _ (List.Sublist.cons_cons _ (List.Sublist.slnil))))⟩
     · -- no
      have hp276 := hp218.2 hb236; clear hp218
      refine wp_skip ?_
      refine ibn ?_
      refine thn ?_
      refine rgH ?_; intro hQ277Q hQ277
      refine s1 hF235 69 (.int .i64 (w64 (x53 + 1))) ?_; intro a278 hF279; clear hF235
      refine s1 hF279 53 (.int .i64 (w64 (x53 + 1))) ?_; intro a280 hF281; clear hF279
      refine nlH (hQ277 _ _ ?_); clear hQ277 hQ277Q
      refine rd ?_
      exact ⟨⟨x8, w64 (x53 + 1), aox8, capx8⟩, hp276.1, hp276.2, (hF281.region (by kernel_rfl) (by kernel_rfl)).anyβ _ (by kernel_rfl), hM228.keep (List.Sublist.cons _ (List.Sublist.cons_cons _ (List.Sublist.slnil)))⟩
    · -- no
     have hp282 := hp200.2 hb204; clear hp200
     refine wp_exit ?_
     refine thx ?_
     refine thx ?_
     refine ibx ?_
     refine thn ?_
     refine sqH ?_; intro hQ283Q hQ283
     refine s1 hF203 71 (.slice aox8 x8.length capx8) ?_; intro a284 hF285; clear hF203
     obtain ⟨Z286, hle287, hM288, hs289⟩ := hM199.freeze 0 rfl
     replace hs100 := hs100.mono hle287
     replace hleL87 := hleL87.mono hle287
     replace hle0 := Fz.le.trans hle0 hle287
     have hM290 : Mem w.heap.size [] w Z [] Z286 wd195 := hM288; clear hM288
     refine fcl hF285 hM290 (.tuple #[.int .i64 ((fCountS x8 true).1), .int .i64 ((fCountS x8 true).2)]) 18 #[.slice aox8 x8.length capx8, .bool true] (nog rfl _) rfl (by kernel_rfl) (fun _ => by kernel_rfl) (fCount_fun x8 true aox8 capx8 _ _ hs289 hM290.fz) ?_; intro a291 wd293 hF292 hM294; clear hF285 hM290
     refine s1 hF292 70 (.tuple #[.int .i64 ((fCountS x8 true).1), .int .i64 ((fCountS x8 true).2)]) ?_; intro a295 hF296; clear hF292
     refine s1 hF296 73 (.int .i64 ((fCountS x8 true).1)) ?_; intro a297 hF298; clear hF296
     refine s1 hF298 74 (.int .i64 ((fCountS x8 true).2)) ?_; intro a299 hF300; clear hF298
     refine s1 hF300 11 (.int .i64 ((fCountS x8 true).1)) ?_; intro a301 hF302; clear hF300
     refine s1 hF302 4 (.int .i64 ((fCountS x8 true).2)) ?_; intro a303 hF304; clear hF302
     refine nlH (hQ283 _ _ ?_); clear hQ283 hQ283Q
     refine sqH ?_; intro hQ305Q hQ305
     refine s1 hF304 75 (.int .i64 ((fCountS x8 true).2)) ?_; intro a306 hF307; clear hF304
     refine s1 hF307 76 (.bool (((fCountS x8 true).2) == 0)) ?_; intro a308 hF309; clear hF307
     refine s1 hF309 77 (.bool (((fCountS x8 true).2) == 0)) ?_; intro a310 hF311; clear hF309
     have hF312 := hF311.atom ((((fCountS x8 true).2) == 0) == true) (by kernel_rfl); clear hF311
     refine gp hF312 78 0 [] (((fCountS x8 true).2) == 0) (.int .i64 ((fCountS x8 true).1)) rfl rfl ?_; intro a313 hF314; clear hF312
     refine gp hF314 79 0 [] (((fCountS x8 true).2) == 0) (.int .i64 x6) rfl rfl ?_; intro a315 hF316; clear hF314
     refine gp hF316 80 0 [] (((fCountS x8 true).2) == 0) (.bool (((fCountS x8 true).1) == x6)) rfl rfl ?_; intro a317 hF318; clear hF316
     refine st hF318 (.bool ((((fCountS x8 true).2) == 0) && (((fCountS x8 true).1) == x6))) (nog rfl _) rfl (by kernel_rfl) (pk_and hF318 (g := []) (m := 0) (b := ((fCountS x8 true).2) == 0) (v := ((fCountS x8 true).1) == x6) rfl (by kernel_rfl) (by kernel_rfl) (by kernel_rfl) rfl) ?_; intro a319 hF320; clear hF318
     refine s1 hF320 2 (.bool ((((fCountS x8 true).2) == 0) && (((fCountS x8 true).1) == x6))) ?_; intro a321 hF322; clear hF320
     refine nlH (hQ305 _ _ ?_); clear hQ305 hQ305Q
     refine wp_ret ?_
     refine rt (fn := Try.f4) (v := .bool ((((fCountS x8 true).2) == 0) && (((fCountS x8 true).1) == x6))) hF322 (re1 hF322 (fn := Try.f4) rfl (by kernel_rfl)) ?_
     exact ⟨(((fCountS x8 true).2) == 0) && (((fCountS x8 true).1) == x6), rfl, hp282, hM294.below⟩

set_option maxRecDepth 100000 in
theorem LSame_walk (u0 : List Filter) (u1 : Frame) (u2 : Int) (u3 : Int) (ao1 : Option Addr) (cap2 : Nat) (ao4 : Option Addr) (cap5 : Nat) (Z : Fz) (w : World) (hs3 : SlR tyFilter Z ao1 cap2 u0) (hs6 : SlR (tyInt .u8) Z ao4 cap5 u1.Data) (hZ : Z.on w) {K : Bool → Prop} (hp : LSame_vc u0 u1 u2 u3 K) : Calls Try.prog 7 #[.slice ao1 u0.length cap2, .agg #[.int .i64 u1.ID, .bool u1.Long, .bool u1.Fast, .bool u1.Remote, .int .i64 u1.Size, .slice ao4 u1.Data.length cap5], .int .i64 u2, .int .i64 u3] w fun e w' => ∃ r : Bool, e = .returned (.bool r) ∧ K r ∧ Below w.heap.size w w' := by
 refine enter0 Try.func7 rfl rfl (by kernel_rfl) ?_; intro a0 hF0; have hM0 := Mem.start w Z hZ; have hle0 := Fz.le.refl Z
 have hp7 := hp (hs3.small); clear hp
 have hp8 := hp7 (hs6.small); clear hp7
 refine sqH ?_; intro hQ9Q hQ9
 refine sn hF0 hM0 (fun b => .pointer (some ⟨b, 0, none⟩)) [.int .i64 u1.ID, .bool u1.Long, .bool u1.Fast, .bool u1.Remote, .int .i64 u1.Size, .slice ao4 u1.Data.length cap5] 38 (nog rfl _) rfl (by kernel_rfl) (by kernel_rfl) ?_; intro b10 a11 wd13 hF12 hM14; clear hF0 hM0
 refine s1 hF12 8 (.bool false) ?_; intro a15 hF16; clear hF12
 refine nlH (hQ9 _ _ ?_); clear hQ9 hQ9Q
 refine sqH ?_; intro hQ17Q hQ17
 refine s1 hF16 21 (.slice ao1 u0.length cap2) ?_; intro a18 hF19; clear hF16
 refine cl hF19 23 #[.slice ao1 u0.length cap2] (nog rfl _) rfl (by kernel_rfl) (by kernel_rfl) ?_
 refine (fleast_fun u0 ao1 cap2 _ _ hs3 hM14.fz).mono ?_; rintro _ wd20 ⟨ao24, cap25, Z26, rfl, hm⟩; refine ⟨_, rfl, ?_⟩; intro a21 hF22; have hM23 := hM14.callZ hm; have hle27 := hm.ext.le; clear hm hM14 hF19
 replace hs3 := hs3.mono hle27
 replace hs6 := hs6.mono hle27
 replace hle0 := Fz.le.trans hle0 hle27
 have hM28 : Mem w.heap.size [] w Z [.own tyFilter 28 ao24 cap25 ((fleastS u0).1), .row b10 [.int .i64 u1.ID, .bool u1.Long, .bool u1.Fast, .bool u1.Remote, .int .i64 u1.Size, .slice ao4 u1.Data.length cap5] 38] Z26 wd20 := hM23; clear hM23
 have hp29 := hp8 (hM28.ownSmall 0 rfl); clear hp8
 refine s1 hF22 20 (.tuple #[.slice ao24 ((fleastS u0).1).length cap25, .int .i64 ((fleastS u0).2)]) ?_; intro a30 hF31; clear hF22
 refine s1 hF31 23 (.slice ao24 ((fleastS u0).1).length cap25) ?_; intro a32 hF33; clear hF31
 refine s1 hF33 24 (.int .i64 ((fleastS u0).2)) ?_; intro a34 hF35; clear hF33
 refine s1 hF35 9 (.slice ao24 ((fleastS u0).1).length cap25) ?_; intro a36 hF37; clear hF35
 refine s1 hF37 10 (.int .i64 ((fleastS u0).2)) ?_; intro a38 hF39; clear hF37
 refine nlH (hQ17 _ _ ?_); clear hQ17 hQ17Q
 refine wp_seq ?_
 refine sqH ?_; intro hQ40Q hQ40
 refine fcl hF39 hM28 (.bool true) 16 #[] (nog rfl _) rfl (by kernel_rfl) (fun _ => by kernel_rfl) (filtered_fun  _ _ hM28.fz) ?_; intro a41 wd43 hF42 hM44; clear hF39 hM28
 refine s1 hF42 26 (.bool false) ?_; intro a45 hF46; clear hF42
 refine nlH (hQ40 _ _ ?_); clear hQ40 hQ40Q
 refine cdF hF46 (by kernel_rfl) ?_
 refine wp_skip ?_
 refine thn ?_
 refine wp_seq ?_
 refine sqH ?_; intro hQ47Q hQ47
 refine s1 hF46 27 (.int .i64 ((fleastS u0).2)) ?_; intro a48 hF49; clear hF46
 refine s1 hF49 28 (.bool (((fleastS u0).2) == 0)) ?_; intro a50 hF51; clear hF49
 refine nlH (hQ47 _ _ ?_); clear hQ47 hQ47Q
 refine cd hF51 (t := ((fleastS u0).2) == 0) (by kernel_rfl) (fun hb52 => ?_) (fun hb52 => ?_)
 · -- yes
  have hp53 := hp29.1 hb52; clear hp29
  refine sqH ?_; intro hQ54Q hQ54
  refine s1 hF51 30 (.slice ao1 u0.length cap2) ?_; intro a55 hF56; clear hF51
  refine l2 hF56 hM44 31 1 0 6 [.int .i64 u1.ID, .bool u1.Long, .bool u1.Fast, .bool u1.Remote, .int .i64 u1.Size, .slice ao4 u1.Data.length cap5] rfl rfl ?_; intro a57 hF58; clear hF56
  refine cl hF58 25 #[.slice ao1 u0.length cap2, .agg #[.int .i64 u1.ID, .bool u1.Long, .bool u1.Fast, .bool u1.Remote, .int .i64 u1.Size, .slice ao4 u1.Data.length cap5]] (nog rfl _) rfl (by kernel_rfl) (by kernel_rfl) ?_
  refine (filterin_fun u0 u1 ao1 cap2 ao4 cap5 _ _ hs3 hs6 hM44.fz).mono ?_; rintro _ wd59 ⟨ao63, cap64, Z65, rfl, hm⟩; refine ⟨_, rfl, ?_⟩; intro a60 hF61; have hM62 := hM44.callZ hm; have hle66 := hm.ext.le; clear hm hM44 hF58
  replace hs3 := hs3.mono hle66
  replace hs6 := hs6.mono hle66
  replace hle0 := Fz.le.trans hle0 hle66
  have hM67 : Mem w.heap.size [] w Z [.own (tyInt .i64) 3 ao63 cap64 ((finS u0 u1).1), .own tyFilter 28 ao24 cap25 ((fleastS u0).1), .row b10 [.int .i64 u1.ID, .bool u1.Long, .bool u1.Fast, .bool u1.Remote, .int .i64 u1.Size, .slice ao4 u1.Data.length cap5] 38] Z65 wd59 := hM62; clear hM62
  have hp68 := hp53 (hM67.ownSmall 0 rfl); clear hp53
  refine s1 hF61 29 (.tuple #[.slice ao63 ((finS u0 u1).1).length cap64, .int .i64 ((finS u0 u1).2)]) ?_; intro a69 hF70; clear hF61
  refine s1 hF70 33 (.slice ao63 ((finS u0 u1).1).length cap64) ?_; intro a71 hF72; clear hF70
  refine s1 hF72 34 (.int .i64 ((finS u0 u1).2)) ?_; intro a73 hF74; clear hF72
  refine s1 hF74 11 (.slice ao63 ((finS u0 u1).1).length cap64) ?_; intro a75 hF76; clear hF74
  refine s1 hF76 12 (.int .i64 ((finS u0 u1).2)) ?_; intro a77 hF78; clear hF76
  refine nlH (hQ54 _ _ ?_); clear hQ54 hQ54Q
  have hF79 : Fr 135 [] [⟨0, [], .slice ao1 u0.length cap2⟩, ⟨2, [], .int .i64 u2⟩, ⟨3, [], .int .i64 u3⟩, ⟨5, [], .pointer (some ⟨b10, 0, none⟩)⟩, ⟨9, [], .slice ao24 ((fleastS u0).1).length cap25⟩, ⟨11, [], .slice ao63 ((finS u0 u1).1).length cap64⟩, ⟨12, [], .int .i64 ((finS u0 u1).2)⟩] a77 := hF78.region (by kernel_rfl) (by kernel_rfl); clear hF78
  refine sqH ?_; intro hQ80Q hQ80
  refine s1 hF79 36 (.slice ao24 ((fleastS u0).1).length cap25) ?_; intro a81 hF82; clear hF79
  refine l2 hF82 hM67 37 2 0 6 [.int .i64 u1.ID, .bool u1.Long, .bool u1.Fast, .bool u1.Remote, .int .i64 u1.Size, .slice ao4 u1.Data.length cap5] rfl rfl ?_; intro a83 hF84; clear hF82
  obtain ⟨Z85, hle86, hM87, hs88⟩ := hM67.freeze 1 rfl
  replace hs3 := hs3.mono hle86
  replace hs6 := hs6.mono hle86
  replace hle0 := Fz.le.trans hle0 hle86
  have hM89 : Mem w.heap.size [] w Z [.own (tyInt .i64) 3 ao63 cap64 ((finS u0 u1).1), .row b10 [.int .i64 u1.ID, .bool u1.Long, .bool u1.Fast, .bool u1.Remote, .int .i64 u1.Size, .slice ao4 u1.Data.length cap5] 38] Z85 wd59 := hM87; clear hM87
  refine cl hF84 25 #[.slice ao24 ((fleastS u0).1).length cap25, .agg #[.int .i64 u1.ID, .bool u1.Long, .bool u1.Fast, .bool u1.Remote, .int .i64 u1.Size, .slice ao4 u1.Data.length cap5]] (nog rfl _) rfl (by kernel_rfl) (by kernel_rfl) ?_
  refine (filterin_fun ((fleastS u0).1) u1 ao24 cap25 ao4 cap5 _ _ hs88 hs6 hM89.fz).mono ?_; rintro _ wd90 ⟨ao94, cap95, Z96, rfl, hm⟩; refine ⟨_, rfl, ?_⟩; intro a91 hF92; have hM93 := hM89.callZ hm; have hle97 := hm.ext.le; clear hm hM89 hF84
  replace hs3 := hs3.mono hle97
  replace hs6 := hs6.mono hle97
  replace hs88 := hs88.mono hle97
  replace hle0 := Fz.le.trans hle0 hle97
  have hM98 : Mem w.heap.size [] w Z [.own (tyInt .i64) 3 ao94 cap95 ((finS ((fleastS u0).1) u1).1), .own (tyInt .i64) 3 ao63 cap64 ((finS u0 u1).1), .row b10 [.int .i64 u1.ID, .bool u1.Long, .bool u1.Fast, .bool u1.Remote, .int .i64 u1.Size, .slice ao4 u1.Data.length cap5] 38] Z96 wd90 := hM93; clear hM93
  have hp99 := hp68 (hM98.ownSmall 0 rfl); clear hp68
  refine s1 hF92 35 (.tuple #[.slice ao94 ((finS ((fleastS u0).1) u1).1).length cap95, .int .i64 ((finS ((fleastS u0).1) u1).2)]) ?_; intro a100 hF101; clear hF92
  refine s1 hF101 39 (.slice ao94 ((finS ((fleastS u0).1) u1).1).length cap95) ?_; intro a102 hF103; clear hF101
  refine s1 hF103 40 (.int .i64 ((finS ((fleastS u0).1) u1).2)) ?_; intro a104 hF105; clear hF103
  refine s1 hF105 13 (.slice ao94 ((finS ((fleastS u0).1) u1).1).length cap95) ?_; intro a106 hF107; clear hF105
  refine s1 hF107 14 (.int .i64 ((finS ((fleastS u0).1) u1).2)) ?_; intro a108 hF109; clear hF107
  refine nlH (hQ80 _ _ ?_); clear hQ80 hQ80Q
  refine wp_seq ?_
  refine sqH ?_; intro hQ110Q hQ110
  refine s1 hF109 41 (.int .i64 ((finS u0 u1).2)) ?_; intro a111 hF112; clear hF109
  refine s1 hF112 42 (.int .i64 ((finS ((fleastS u0).1) u1).2)) ?_; intro a113 hF114; clear hF112
  refine s1 hF114 43 (.bool (((finS u0 u1).2) != ((finS ((fleastS u0).1) u1).2))) ?_; intro a115 hF116; clear hF114
  refine s1 hF116 44 (.bool (((finS u0 u1).2) != ((finS ((fleastS u0).1) u1).2))) ?_; intro a117 hF118; clear hF116
  have hF119 := hF118.atom ((((finS u0 u1).2) != ((finS ((fleastS u0).1) u1).2)) == false) (by kernel_rfl); clear hF118
  refine gp hF119 45 0 [] (((finS u0 u1).2) != ((finS ((fleastS u0).1) u1).2)) (.slice ao63 ((finS u0 u1).1).length cap64) rfl rfl ?_; intro a120 hF121; clear hF119
  refine gp hF121 46 0 [] (((finS u0 u1).2) != ((finS ((fleastS u0).1) u1).2)) (.int .i64 (((finS u0 u1).1).length : Int)) rfl rfl ?_; intro a122 hF123; clear hF121
  refine gp hF123 47 0 [] (((finS u0 u1).2) != ((finS ((fleastS u0).1) u1).2)) (.bool (decide ((((finS u0 u1).1).length : Int) > 0))) rfl rfl ?_; intro a124 hF125; clear hF123
  refine gp hF125 48 0 [] (((finS u0 u1).2) != ((finS ((fleastS u0).1) u1).2)) (.slice ao94 ((finS ((fleastS u0).1) u1).1).length cap95) rfl rfl ?_; intro a126 hF127; clear hF125
  refine gp hF127 49 0 [] (((finS u0 u1).2) != ((finS ((fleastS u0).1) u1).2)) (.int .i64 (((finS ((fleastS u0).1) u1).1).length : Int)) rfl rfl ?_; intro a128 hF129; clear hF127
  refine gp hF129 50 0 [] (((finS u0 u1).2) != ((finS ((fleastS u0).1) u1).2)) (.bool (decide ((((finS ((fleastS u0).1) u1).1).length : Int) > 0))) rfl rfl ?_; intro a130 hF131; clear hF129
  refine gp hF131 51 0 [] (((finS u0 u1).2) != ((finS ((fleastS u0).1) u1).2)) (.bool ((decide ((((finS u0 u1).1).length : Int) > 0)) != (decide ((((finS ((fleastS u0).1) u1).1).length : Int) > 0)))) rfl rfl ?_; intro a132 hF133; clear hF131
  refine st hF133 (.bool ((((finS u0 u1).2) != ((finS ((fleastS u0).1) u1).2)) || ((decide ((((finS u0 u1).1).length : Int) > 0)) != (decide ((((finS ((fleastS u0).1) u1).1).length : Int) > 0))))) (nog rfl _) rfl (by kernel_rfl) (pk_or hF133 (g := []) (m := 0) (b := ((finS u0 u1).2) != ((finS ((fleastS u0).1) u1).2)) (v := (decide ((((finS u0 u1).1).length : Int) > 0)) != (decide ((((finS ((fleastS u0).1) u1).1).length : Int) > 0))) rfl (by kernel_rfl) (by kernel_rfl) (by kernel_rfl) rfl) ?_; intro a134 hF135; clear hF133
  refine nlH (hQ110 _ _ ?_); clear hQ110 hQ110Q
  refine cd hF135 (t := (((finS u0 u1).2) != ((finS ((fleastS u0).1) u1).2)) || ((decide ((((finS u0 u1).1).length : Int) > 0)) != (decide ((((finS ((fleastS u0).1) u1).1).length : Int) > 0)))) (by kernel_rfl) (fun hb136 => ?_) (fun hb136 => ?_)
  · -- yes
   have hp137 := hp99.1 hb136; clear hp99
   have hF138 : Fr 135 [] [] a134 := hF135.region (by kernel_rfl) (by kernel_rfl); clear hF135
   refine sqH ?_; intro hQ139Q hQ139
   refine s1 hF138 8 (.bool false) ?_; intro a140 hF141; clear hF138
   refine nlH (hQ139 _ _ ?_); clear hQ139 hQ139Q
   refine wp_ret ?_
   refine thr ?_
   refine thr ?_
   refine rt (fn := Try.f7) (v := .bool false) hF141 (re1 hF141 (fn := Try.f7) rfl (by kernel_rfl)) ?_
   exact ⟨false, rfl, hp137, hM98.below⟩
  · -- no
   have hp142 := hp99.2 hb136; clear hp99
   refine wp_skip ?_
   refine thn ?_
   have hF143 : Fr 135 [] [⟨0, [], .slice ao1 u0.length cap2⟩, ⟨2, [], .int .i64 u2⟩, ⟨3, [], .int .i64 u3⟩, ⟨5, [], .pointer (some ⟨b10, 0, none⟩)⟩, ⟨9, [], .slice ao24 ((fleastS u0).1).length cap25⟩] a134 := hF135.region (by kernel_rfl) (by kernel_rfl); clear hF135
   refine sqH ?_; intro hQ144Q hQ144
   refine s1 hF143 54 (.slice ao1 u0.length cap2) ?_; intro a145 hF146; clear hF143
   refine fcl hF146 hM98 (.tuple #[.int .i64 ((fCountS u0 true).1), .int .i64 ((fCountS u0 true).2)]) 18 #[.slice ao1 u0.length cap2, .bool true] (nog rfl _) rfl (by kernel_rfl) (fun _ => by kernel_rfl) (fCount_fun u0 true ao1 cap2 _ _ hs3 hM98.fz) ?_; intro a147 wd149 hF148 hM150; clear hF146 hM98
   refine s1 hF148 53 (.tuple #[.int .i64 ((fCountS u0 true).1), .int .i64 ((fCountS u0 true).2)]) ?_; intro a151 hF152; clear hF148
   refine s1 hF152 56 (.int .i64 ((fCountS u0 true).1)) ?_; intro a153 hF154; clear hF152
   refine s1 hF154 57 (.int .i64 ((fCountS u0 true).2)) ?_; intro a155 hF156; clear hF154
   refine s1 hF156 15 (.int .i64 ((fCountS u0 true).1)) ?_; intro a157 hF158; clear hF156
   refine s1 hF158 12 (.int .i64 ((fCountS u0 true).2)) ?_; intro a159 hF160; clear hF158
   refine nlH (hQ144 _ _ ?_); clear hQ144 hQ144Q
   refine sqH ?_; intro hQ161Q hQ161
   refine s1 hF160 59 (.slice ao24 ((fleastS u0).1).length cap25) ?_; intro a162 hF163; clear hF160
   refine fcl hF163 hM150 (.tuple #[.int .i64 ((fCountS ((fleastS u0).1) true).1), .int .i64 ((fCountS ((fleastS u0).1) true).2)]) 18 #[.slice ao24 ((fleastS u0).1).length cap25, .bool true] (nog rfl _) rfl (by kernel_rfl) (fun _ => by kernel_rfl) (fCount_fun ((fleastS u0).1) true ao24 cap25 _ _ hs88 hM150.fz) ?_; intro a164 wd166 hF165 hM167; clear hF163 hM150
   refine s1 hF165 58 (.tuple #[.int .i64 ((fCountS ((fleastS u0).1) true).1), .int .i64 ((fCountS ((fleastS u0).1) true).2)]) ?_; intro a168 hF169; clear hF165
   refine s1 hF169 61 (.int .i64 ((fCountS ((fleastS u0).1) true).1)) ?_; intro a170 hF171; clear hF169
   refine s1 hF171 62 (.int .i64 ((fCountS ((fleastS u0).1) true).2)) ?_; intro a172 hF173; clear hF171
   refine s1 hF173 16 (.int .i64 ((fCountS ((fleastS u0).1) true).1)) ?_; intro a174 hF175; clear hF173
   refine s1 hF175 14 (.int .i64 ((fCountS ((fleastS u0).1) true).2)) ?_; intro a176 hF177; clear hF175
   refine nlH (hQ161 _ _ ?_); clear hQ161 hQ161Q
   have hF178 : Fr 135 [] [⟨2, [], .int .i64 u2⟩, ⟨3, [], .int .i64 u3⟩, ⟨5, [], .pointer (some ⟨b10, 0, none⟩)⟩, ⟨12, [], .int .i64 ((fCountS u0 true).2)⟩, ⟨14, [], .int .i64 ((fCountS ((fleastS u0).1) true).2)⟩, ⟨15, [], .int .i64 ((fCountS u0 true).1)⟩, ⟨16, [], .int .i64 ((fCountS ((fleastS u0).1) true).1)⟩] a176 := hF177.region (by kernel_rfl) (by kernel_rfl); clear hF177
   refine sqH ?_; intro hQ179Q hQ179
   refine s1 hF178 63 (.int .i64 ((fCountS u0 true).2)) ?_; intro a180 hF181; clear hF178
   refine s1 hF181 64 (.bool (((fCountS u0 true).2) != 0)) ?_; intro a182 hF183; clear hF181
   refine s1 hF183 65 (.bool (((fCountS u0 true).2) != 0)) ?_; intro a184 hF185; clear hF183
   have hF186 := hF185.atom ((((fCountS u0 true).2) != 0) == false) (by kernel_rfl); clear hF185
   refine gp hF186 66 0 [] (((fCountS u0 true).2) != 0) (.int .i64 ((fCountS ((fleastS u0).1) true).2)) rfl rfl ?_; intro a187 hF188; clear hF186
   refine gp hF188 67 0 [] (((fCountS u0 true).2) != 0) (.bool (((fCountS ((fleastS u0).1) true).2) != 0)) rfl rfl ?_; intro a189 hF190; clear hF188
   refine st hF190 (.bool ((((fCountS u0 true).2) != 0) || (((fCountS ((fleastS u0).1) true).2) != 0))) (nog rfl _) rfl (by kernel_rfl) (pk_or hF190 (g := []) (m := 0) (b := ((fCountS u0 true).2) != 0) (v := ((fCountS ((fleastS u0).1) true).2) != 0) rfl (by kernel_rfl) (by kernel_rfl) (by kernel_rfl) rfl) ?_; intro a191 hF192; clear hF190
   refine s1 hF192 69 (.bool ((((fCountS u0 true).2) != 0) || (((fCountS ((fleastS u0).1) true).2) != 0))) ?_; intro a193 hF194; clear hF192
   have hF195 := hF194.atom (((((fCountS u0 true).2) != 0) || (((fCountS ((fleastS u0).1) true).2) != 0)) == false) (by kernel_rfl); clear hF194
   refine gp hF195 70 1 [] ((((fCountS u0 true).2) != 0) || (((fCountS ((fleastS u0).1) true).2) != 0)) (.int .i64 ((fCountS u0 true).1)) rfl rfl ?_; intro a196 hF197; clear hF195
   refine gp hF197 71 1 [] ((((fCountS u0 true).2) != 0) || (((fCountS ((fleastS u0).1) true).2) != 0)) (.int .i64 ((fCountS ((fleastS u0).1) true).1)) rfl rfl ?_; intro a198 hF199; clear hF197
   refine gp hF199 72 1 [] ((((fCountS u0 true).2) != 0) || (((fCountS ((fleastS u0).1) true).2) != 0)) (.bool (((fCountS u0 true).1) != ((fCountS ((fleastS u0).1) true).1))) rfl rfl ?_; intro a200 hF201; clear hF199
   refine st hF201 (.bool (((((fCountS u0 true).2) != 0) || (((fCountS ((fleastS u0).1) true).2) != 0)) || (((fCountS u0 true).1) != ((fCountS ((fleastS u0).1) true).1)))) (nog rfl _) rfl (by kernel_rfl) (pk_or hF201 (g := []) (m := 1) (b := (((fCountS u0 true).2) != 0) || (((fCountS ((fleastS u0).1) true).2) != 0)) (v := ((fCountS u0 true).1) != ((fCountS ((fleastS u0).1) true).1)) rfl (by kernel_rfl) (by kernel_rfl) (by kernel_rfl) rfl) ?_; intro a202 hF203; clear hF201
   refine nlH (hQ179 _ _ ?_); clear hQ179 hQ179Q
   refine cd hF203 (t := ((((fCountS u0 true).2) != 0) || (((fCountS ((fleastS u0).1) true).2) != 0)) || (((fCountS u0 true).1) != ((fCountS ((fleastS u0).1) true).1))) (by kernel_rfl) (fun hb204 => ?_) (fun hb204 => ?_)
   · -- yes
    have hp205 := hp142.1 hb204; clear hp142
    have hF206 : Fr 135 [] [] a202 := hF203.region (by kernel_rfl) (by kernel_rfl); clear hF203
    refine sqH ?_; intro hQ207Q hQ207
    refine s1 hF206 8 (.bool false) ?_; intro a208 hF209; clear hF206
    refine nlH (hQ207 _ _ ?_); clear hQ207 hQ207Q
    refine wp_ret ?_
    refine thr ?_
    refine rt (fn := Try.f7) (v := .bool false) hF209 (re1 hF209 (fn := Try.f7) rfl (by kernel_rfl)) ?_
    exact ⟨false, rfl, hp205, hM167.below⟩
   · -- no
    have hp210 := hp142.2 hb204; clear hp142
    refine wp_skip ?_
    refine thn ?_
    have hF211 : Fr 135 [] [⟨2, [], .int .i64 u2⟩, ⟨3, [], .int .i64 u3⟩, ⟨5, [], .pointer (some ⟨b10, 0, none⟩)⟩] a202 := hF203.region (by kernel_rfl) (by kernel_rfl); clear hF203
    refine sqH ?_; intro hQ212Q hQ212
    refine s1 hF211 75 (.int .i64 u2) ?_; intro a213 hF214; clear hF211
    refine s1 hF214 76 (.int .i64 u3) ?_; intro a215 hF216; clear hF214
    refine s1 hF216 77 (.pointer (some ⟨b10, 1, none⟩)) ?_; intro a217 hF218; clear hF216
    refine l1 hF218 hM167 78 2 1 (.bool u1.Long) rfl rfl ?_; intro a219 hF220; clear hF218
    refine cl hF220 15 #[.int .i64 u2, .int .i64 u3, .bool u1.Long] (nog rfl _) rfl (by kernel_rfl) (by kernel_rfl) ?_
    refine (franges_fun u2 u3 u1.Long _ _ hM167.fz).mono ?_; rintro _ wd221 ⟨ao225, cap226, Z227, rfl, hm⟩; refine ⟨_, rfl, ?_⟩; intro a222 hF223; have hM224 := hM167.callZ hm; have hle228 := hm.ext.le; clear hm hM167 hF220
    replace hs3 := hs3.mono hle228
    replace hs6 := hs6.mono hle228
    replace hs88 := hs88.mono hle228
    replace hle0 := Fz.le.trans hle0 hle228
    have hM229 : Mem w.heap.size [] w Z [.own tyFilter 28 ao225 cap226 ((rangesS u2 u3 u1.Long).1), .own (tyInt .i64) 3 ao94 cap95 ((finS ((fleastS u0).1) u1).1), .own (tyInt .i64) 3 ao63 cap64 ((finS u0 u1).1), .row b10 [.int .i64 u1.ID, .bool u1.Long, .bool u1.Fast, .bool u1.Remote, .int .i64 u1.Size, .slice ao4 u1.Data.length cap5] 38] Z227 wd221 := hM224; clear hM224
    have hp230 := hp210 (hM229.ownSmall 0 rfl); clear hp210
    refine s1 hF223 74 (.tuple #[.slice ao225 ((rangesS u2 u3 u1.Long).1).length cap226, .int .i64 ((rangesS u2 u3 u1.Long).2)]) ?_; intro a231 hF232; clear hF223
    refine s1 hF232 80 (.slice ao225 ((rangesS u2 u3 u1.Long).1).length cap226) ?_; intro a233 hF234; clear hF232
    refine s1 hF234 81 (.int .i64 ((rangesS u2 u3 u1.Long).2)) ?_; intro a235 hF236; clear hF234
    refine s1 hF236 17 (.slice ao225 ((rangesS u2 u3 u1.Long).1).length cap226) ?_; intro a237 hF238; clear hF236
    refine s1 hF238 10 (.int .i64 ((rangesS u2 u3 u1.Long).2)) ?_; intro a239 hF240; clear hF238
    refine nlH (hQ212 _ _ ?_); clear hQ212 hQ212Q
    refine wp_seq ?_
    refine sqH ?_; intro hQ241Q hQ241
    refine s1 hF240 82 (.int .i64 ((rangesS u2 u3 u1.Long).2)) ?_; intro a242 hF243; clear hF240
    refine s1 hF243 83 (.bool (((rangesS u2 u3 u1.Long).2) != 0)) ?_; intro a244 hF245; clear hF243
    refine s1 hF245 84 (.bool (((rangesS u2 u3 u1.Long).2) != 0)) ?_; intro a246 hF247; clear hF245
    have hF248 := hF247.atom ((((rangesS u2 u3 u1.Long).2) != 0) == false) (by kernel_rfl); clear hF247
    refine gp hF248 85 0 [] (((rangesS u2 u3 u1.Long).2) != 0) (.slice ao225 ((rangesS u2 u3 u1.Long).1).length cap226) rfl rfl ?_; intro a249 hF250; clear hF248
    refine gp hF250 86 0 [] (((rangesS u2 u3 u1.Long).2) != 0) (.int .i64 (((rangesS u2 u3 u1.Long).1).length : Int)) rfl rfl ?_; intro a251 hF252; clear hF250
    refine gp hF252 87 0 [] (((rangesS u2 u3 u1.Long).2) != 0) (.bool (decide ((((rangesS u2 u3 u1.Long).1).length : Int) > 16))) rfl rfl ?_; intro a253 hF254; clear hF252
    refine st hF254 (.bool ((((rangesS u2 u3 u1.Long).2) != 0) || (decide ((((rangesS u2 u3 u1.Long).1).length : Int) > 16)))) (nog rfl _) rfl (by kernel_rfl) (pk_or hF254 (g := []) (m := 0) (b := ((rangesS u2 u3 u1.Long).2) != 0) (v := decide ((((rangesS u2 u3 u1.Long).1).length : Int) > 16)) rfl (by kernel_rfl) (by kernel_rfl) (by kernel_rfl) rfl) ?_; intro a255 hF256; clear hF254
    refine nlH (hQ241 _ _ ?_); clear hQ241 hQ241Q
    refine cd hF256 (t := (((rangesS u2 u3 u1.Long).2) != 0) || (decide ((((rangesS u2 u3 u1.Long).1).length : Int) > 16))) (by kernel_rfl) (fun hb257 => ?_) (fun hb257 => ?_)
    · -- yes
     have hp258 := hp230.1 hb257; clear hp230
     have hF259 : Fr 135 [] [] a255 := hF256.region (by kernel_rfl) (by kernel_rfl); clear hF256
     refine sqH ?_; intro hQ260Q hQ260
     refine s1 hF259 8 (.bool true) ?_; intro a261 hF262; clear hF259
     refine nlH (hQ260 _ _ ?_); clear hQ260 hQ260Q
     refine wp_ret ?_
     refine thr ?_
     refine rt (fn := Try.f7) (v := .bool true) hF262 (re1 hF262 (fn := Try.f7) rfl (by kernel_rfl)) ?_
     exact ⟨true, rfl, hp258, hM229.below⟩
    · -- no
     have hp263 := hp230.2 hb257; clear hp230
     refine wp_skip ?_
     refine thn ?_
     have hF264 : Fr 135 [] [⟨2, [], .int .i64 u2⟩, ⟨3, [], .int .i64 u3⟩, ⟨5, [], .pointer (some ⟨b10, 0, none⟩)⟩, ⟨17, [], .slice ao225 ((rangesS u2 u3 u1.Long).1).length cap226⟩] a255 := hF256.region (by kernel_rfl) (by kernel_rfl); clear hF256
     refine sqH ?_; intro hQ265Q hQ265
     refine s1 hF264 90 (.slice ao225 ((rangesS u2 u3 u1.Long).1).length cap226) ?_; intro a266 hF267; clear hF264
     refine s1 hF267 91 (.pointer (some ⟨b10, 1, none⟩)) ?_; intro a268 hF269; clear hF267
     refine l1 hF269 hM229 92 3 1 (.bool u1.Long) rfl rfl ?_; intro a270 hF271; clear hF269
     obtain ⟨Z272, hle273, hM274, hs275⟩ := hM229.freeze 0 rfl
     replace hs3 := hs3.mono hle273
     replace hs6 := hs6.mono hle273
     replace hs88 := hs88.mono hle273
     replace hle0 := Fz.le.trans hle0 hle273
     have hM276 : Mem w.heap.size [] w Z [.own (tyInt .i64) 3 ao94 cap95 ((finS ((fleastS u0).1) u1).1), .own (tyInt .i64) 3 ao63 cap64 ((finS u0 u1).1), .row b10 [.int .i64 u1.ID, .bool u1.Long, .bool u1.Fast, .bool u1.Remote, .int .i64 u1.Size, .slice ao4 u1.Data.length cap5] 38] Z272 wd221 := hM274; clear hM274
     refine fcl hF271 hM276 (.tuple #[.int .i64 ((fCountS ((rangesS u2 u3 u1.Long).1) u1.Long).1), .int .i64 ((fCountS ((rangesS u2 u3 u1.Long).1) u1.Long).2)]) 18 #[.slice ao225 ((rangesS u2 u3 u1.Long).1).length cap226, .bool u1.Long] (nog rfl _) rfl (by kernel_rfl) (fun _ => by kernel_rfl) (fCount_fun ((rangesS u2 u3 u1.Long).1) u1.Long ao225 cap226 _ _ hs275 hM276.fz) ?_; intro a277 wd279 hF278 hM280; clear hF271 hM276
     refine s1 hF278 89 (.tuple #[.int .i64 ((fCountS ((rangesS u2 u3 u1.Long).1) u1.Long).1), .int .i64 ((fCountS ((rangesS u2 u3 u1.Long).1) u1.Long).2)]) ?_; intro a281 hF282; clear hF278
     refine s1 hF282 94 (.int .i64 ((fCountS ((rangesS u2 u3 u1.Long).1) u1.Long).1)) ?_; intro a283 hF284; clear hF282
     refine s1 hF284 95 (.int .i64 ((fCountS ((rangesS u2 u3 u1.Long).1) u1.Long).2)) ?_; intro a285 hF286; clear hF284
     refine s1 hF286 18 (.int .i64 ((fCountS ((rangesS u2 u3 u1.Long).1) u1.Long).1)) ?_; intro a287 hF288; clear hF286
     refine s1 hF288 10 (.int .i64 ((fCountS ((rangesS u2 u3 u1.Long).1) u1.Long).2)) ?_; intro a289 hF290; clear hF288
     refine nlH (hQ265 _ _ ?_); clear hQ265 hQ265Q
     refine wp_seq ?_
     refine sqH ?_; intro hQ291Q hQ291
     refine s1 hF290 96 (.int .i64 ((fCountS ((rangesS u2 u3 u1.Long).1) u1.Long).2)) ?_; intro a292 hF293; clear hF290
     refine s1 hF293 97 (.bool (((fCountS ((rangesS u2 u3 u1.Long).1) u1.Long).2) != 0)) ?_; intro a294 hF295; clear hF293
     refine s1 hF295 98 (.bool (((fCountS ((rangesS u2 u3 u1.Long).1) u1.Long).2) != 0)) ?_; intro a296 hF297; clear hF295
     have hF298 := hF297.atom ((((fCountS ((rangesS u2 u3 u1.Long).1) u1.Long).2) != 0) == false) (by kernel_rfl); clear hF297
     refine gp hF298 99 0 [] (((fCountS ((rangesS u2 u3 u1.Long).1) u1.Long).2) != 0) (.int .i64 ((fCountS ((rangesS u2 u3 u1.Long).1) u1.Long).1)) rfl rfl ?_; intro a299 hF300; clear hF298
     refine gp hF300 100 0 [] (((fCountS ((rangesS u2 u3 u1.Long).1) u1.Long).2) != 0) (.int .i64 u3) rfl rfl ?_; intro a301 hF302; clear hF300
     refine gp hF302 101 0 [] (((fCountS ((rangesS u2 u3 u1.Long).1) u1.Long).2) != 0) (.int .i64 u2) rfl rfl ?_; intro a303 hF304; clear hF302
     refine gp hF304 102 0 [] (((fCountS ((rangesS u2 u3 u1.Long).1) u1.Long).2) != 0) (.int .i64 (w64 (u3 - u2))) rfl rfl ?_; intro a305 hF306; clear hF304
     refine gp hF306 103 0 [] (((fCountS ((rangesS u2 u3 u1.Long).1) u1.Long).2) != 0) (.int .i64 (w64 ((w64 (u3 - u2)) + 1))) rfl rfl ?_; intro a307 hF308; clear hF306
     refine gp hF308 104 0 [] (((fCountS ((rangesS u2 u3 u1.Long).1) u1.Long).2) != 0) (.bool (((fCountS ((rangesS u2 u3 u1.Long).1) u1.Long).1) != (w64 ((w64 (u3 - u2)) + 1)))) rfl rfl ?_; intro a309 hF310; clear hF308
     refine st hF310 (.bool ((((fCountS ((rangesS u2 u3 u1.Long).1) u1.Long).2) != 0) || (((fCountS ((rangesS u2 u3 u1.Long).1) u1.Long).1) != (w64 ((w64 (u3 - u2)) + 1))))) (nog rfl _) rfl (by kernel_rfl) (pk_or hF310 (g := []) (m := 0) (b := ((fCountS ((rangesS u2 u3 u1.Long).1) u1.Long).2) != 0) (v := ((fCountS ((rangesS u2 u3 u1.Long).1) u1.Long).1) != (w64 ((w64 (u3 - u2)) + 1))) rfl (by kernel_rfl) (by kernel_rfl) (by kernel_rfl) rfl) ?_; intro a311 hF312; clear hF310
     refine nlH (hQ291 _ _ ?_); clear hQ291 hQ291Q
     refine cd hF312 (t := (((fCountS ((rangesS u2 u3 u1.Long).1) u1.Long).2) != 0) || (((fCountS ((rangesS u2 u3 u1.Long).1) u1.Long).1) != (w64 ((w64 (u3 - u2)) + 1)))) (by kernel_rfl) (fun hb313 => ?_) (fun hb313 => ?_)
     · -- yes
      have hp314 := hp263.1 hb313; clear hp263
      have hF315 : Fr 135 [] [] a311 := hF312.region (by kernel_rfl) (by kernel_rfl); clear hF312
      refine sqH ?_; intro hQ316Q hQ316
      refine s1 hF315 8 (.bool false) ?_; intro a317 hF318; clear hF315
      refine nlH (hQ316 _ _ ?_); clear hQ316 hQ316Q
      refine wp_ret ?_
      refine thr ?_
      refine rt (fn := Try.f7) (v := .bool false) hF318 (re1 hF318 (fn := Try.f7) rfl (by kernel_rfl)) ?_
      exact ⟨false, rfl, hp314, hM280.below⟩
     · -- no
      have hp319 := hp263.2 hb313; clear hp263
      refine wp_skip ?_
      refine thn ?_
      have hF320 : Fr 135 [] [⟨2, [], .int .i64 u2⟩, ⟨3, [], .int .i64 u3⟩, ⟨5, [], .pointer (some ⟨b10, 0, none⟩)⟩, ⟨17, [], .slice ao225 ((rangesS u2 u3 u1.Long).1).length cap226⟩] a311 := hF312.region (by kernel_rfl) (by kernel_rfl); clear hF312
      refine sqH ?_; intro hQ321Q hQ321
      refine s1 hF320 107 (.slice ao225 ((rangesS u2 u3 u1.Long).1).length cap226) ?_; intro a322 hF323; clear hF320
      refine l2 hF323 hM280 108 2 0 6 [.int .i64 u1.ID, .bool u1.Long, .bool u1.Fast, .bool u1.Remote, .int .i64 u1.Size, .slice ao4 u1.Data.length cap5] rfl rfl ?_; intro a324 hF325; clear hF323
      refine cl hF325 25 #[.slice ao225 ((rangesS u2 u3 u1.Long).1).length cap226, .agg #[.int .i64 u1.ID, .bool u1.Long, .bool u1.Fast, .bool u1.Remote, .int .i64 u1.Size, .slice ao4 u1.Data.length cap5]] (nog rfl _) rfl (by kernel_rfl) (by kernel_rfl) ?_
      refine (filterin_fun ((rangesS u2 u3 u1.Long).1) u1 ao225 cap226 ao4 cap5 _ _ hs275 hs6 hM280.fz).mono ?_; rintro _ wd326 ⟨ao330, cap331, Z332, rfl, hm⟩; refine ⟨_, rfl, ?_⟩; intro a327 hF328; have hM329 := hM280.callZ hm; have hle333 := hm.ext.le; clear hm hM280 hF325
      replace hs3 := hs3.mono hle333
      replace hs6 := hs6.mono hle333
      replace hs88 := hs88.mono hle333
      replace hs275 := hs275.mono hle333
      replace hle0 := Fz.le.trans hle0 hle333
      have hM334 : Mem w.heap.size [] w Z [.own (tyInt .i64) 3 ao330 cap331 ((finS ((rangesS u2 u3 u1.Long).1) u1).1), .own (tyInt .i64) 3 ao94 cap95 ((finS ((fleastS u0).1) u1).1), .own (tyInt .i64) 3 ao63 cap64 ((finS u0 u1).1), .row b10 [.int .i64 u1.ID, .bool u1.Long, .bool u1.Fast, .bool u1.Remote, .int .i64 u1.Size, .slice ao4 u1.Data.length cap5] 38] Z332 wd326 := hM329; clear hM329
      have hp335 := hp319 (hM334.ownSmall 0 rfl); clear hp319
      refine s1 hF328 106 (.tuple #[.slice ao330 ((finS ((rangesS u2 u3 u1.Long).1) u1).1).length cap331, .int .i64 ((finS ((rangesS u2 u3 u1.Long).1) u1).2)]) ?_; intro a336 hF337; clear hF328
      refine s1 hF337 110 (.slice ao330 ((finS ((rangesS u2 u3 u1.Long).1) u1).1).length cap331) ?_; intro a338 hF339; clear hF337
      refine s1 hF339 111 (.int .i64 ((finS ((rangesS u2 u3 u1.Long).1) u1).2)) ?_; intro a340 hF341; clear hF339
      refine s1 hF341 19 (.slice ao330 ((finS ((rangesS u2 u3 u1.Long).1) u1).1).length cap331) ?_; intro a342 hF343; clear hF341
      refine s1 hF343 10 (.int .i64 ((finS ((rangesS u2 u3 u1.Long).1) u1).2)) ?_; intro a344 hF345; clear hF343
      refine nlH (hQ321 _ _ ?_); clear hQ321 hQ321Q
      refine sqH ?_; intro hQ346Q hQ346
      refine s1 hF345 112 (.int .i64 ((finS ((rangesS u2 u3 u1.Long).1) u1).2)) ?_; intro a347 hF348; clear hF345
      refine s1 hF348 113 (.bool (((finS ((rangesS u2 u3 u1.Long).1) u1).2) != 0)) ?_; intro a349 hF350; clear hF348
      refine s1 hF350 114 (.bool (((finS ((rangesS u2 u3 u1.Long).1) u1).2) != 0)) ?_; intro a351 hF352; clear hF350
      have hF353 := hF352.atom ((((finS ((rangesS u2 u3 u1.Long).1) u1).2) != 0) == false) (by kernel_rfl); clear hF352
      refine gp hF353 115 0 [] (((finS ((rangesS u2 u3 u1.Long).1) u1).2) != 0) (.slice ao330 ((finS ((rangesS u2 u3 u1.Long).1) u1).1).length cap331) rfl rfl ?_; intro a354 hF355; clear hF353
      refine gp hF355 116 0 [] (((finS ((rangesS u2 u3 u1.Long).1) u1).2) != 0) (.int .i64 (((finS ((rangesS u2 u3 u1.Long).1) u1).1).length : Int)) rfl rfl ?_; intro a356 hF357; clear hF355
      refine gp hF357 117 0 [] (((finS ((rangesS u2 u3 u1.Long).1) u1).2) != 0) (.bool ((((finS ((rangesS u2 u3 u1.Long).1) u1).1).length : Int) == 1)) rfl rfl ?_; intro a358 hF359; clear hF357
      refine gp hF359 118 0 [] (((finS ((rangesS u2 u3 u1.Long).1) u1).2) != 0) (.pointer (some ⟨b10, 0, none⟩)) rfl rfl ?_; intro a360 hF361; clear hF359
      refine gd hF361 (.int .i64 u1.ID) (m := 0) (cj := []) (bj := ((finS ((rangesS u2 u3 u1.Long).1) u1).2) != 0) rfl rfl (by kernel_rfl) rfl (by kernel_rfl) (by kernel_rfl) (by kernel_rfl) (fun hg => ld hF361 hM334 3 (g := [0]) (b := b10) (off := 0) (cs := [.int .i64 u1.ID, .bool u1.Long, .bool u1.Fast, .bool u1.Remote, .int .i64 u1.Size, .slice ao4 u1.Data.length cap5]) (ty := 38) rfl (by kernel_rfl) (by kernel_rfl) (by kernel_rfl) (by kernel_rfl) hg) ?_; intro a362 hF363; clear hF361
      refine gp hF363 120 0 [] (((finS ((rangesS u2 u3 u1.Long).1) u1).2) != 0) (.int .i64 u2) rfl rfl ?_; intro a364 hF365; clear hF363
      refine gp hF365 121 0 [] (((finS ((rangesS u2 u3 u1.Long).1) u1).2) != 0) (.bool (decide (u1.ID ≥ u2))) rfl rfl ?_; intro a366 hF367; clear hF365
      refine gp hF367 122 0 [] (((finS ((rangesS u2 u3 u1.Long).1) u1).2) != 0) (.bool (decide (u1.ID ≥ u2))) rfl rfl ?_; intro a368 hF369; clear hF367
      have hF370 := hF369.atom ((decide (u1.ID ≥ u2)) == true) (by kernel_rfl); clear hF369
      refine gp hF370 123 1 [0] (decide (u1.ID ≥ u2)) (.pointer (some ⟨b10, 0, none⟩)) rfl rfl ?_; intro a371 hF372; clear hF370
      refine gd hF372 (.int .i64 u1.ID) (m := 1) (cj := [0]) (bj := decide (u1.ID ≥ u2)) rfl rfl (by kernel_rfl) rfl (by kernel_rfl) (by kernel_rfl) (by kernel_rfl) (fun hg => ld hF372 hM334 3 (g := [1, 0]) (b := b10) (off := 0) (cs := [.int .i64 u1.ID, .bool u1.Long, .bool u1.Fast, .bool u1.Remote, .int .i64 u1.Size, .slice ao4 u1.Data.length cap5]) (ty := 38) rfl (by kernel_rfl) (by kernel_rfl) (by kernel_rfl) (by kernel_rfl) hg) ?_; intro a373 hF374; clear hF372
      refine gp hF374 125 1 [0] (decide (u1.ID ≥ u2)) (.int .i64 u3) rfl rfl ?_; intro a375 hF376; clear hF374
      refine gp hF376 126 1 [0] (decide (u1.ID ≥ u2)) (.bool (decide (u1.ID ≤ u3))) rfl rfl ?_; intro a377 hF378; clear hF376
      refine gd hF378 (.bool ((decide (u1.ID ≥ u2)) && (decide (u1.ID ≤ u3)))) (m := 0) (cj := []) (bj := ((finS ((rangesS u2 u3 u1.Long).1) u1).2) != 0) rfl rfl (by kernel_rfl) rfl (by kernel_rfl) (by kernel_rfl) (by kernel_rfl) (fun hg => pk_and hF378 (g := [0]) (m := 1) (b := decide (u1.ID ≥ u2)) (v := decide (u1.ID ≤ u3)) rfl (by kernel_rfl) (by kernel_rfl) (by kernel_rfl) hg) ?_; intro a379 hF380; clear hF378
      refine gp hF380 128 0 [] (((finS ((rangesS u2 u3 u1.Long).1) u1).2) != 0) (.bool (((((finS ((rangesS u2 u3 u1.Long).1) u1).1).length : Int) == 1) == ((decide (u1.ID ≥ u2)) && (decide (u1.ID ≤ u3))))) rfl rfl ?_; intro a381 hF382; clear hF380
      refine gp hF382 129 0 [] (((finS ((rangesS u2 u3 u1.Long).1) u1).2) != 0) (.bool (((((finS ((rangesS u2 u3 u1.Long).1) u1).1).length : Int) == 1) == ((decide (u1.ID ≥ u2)) && (decide (u1.ID ≤ u3))))) rfl rfl ?_; intro a383 hF384; clear hF382
      have hF385 := hF384.atom ((((((finS ((rangesS u2 u3 u1.Long).1) u1).1).length : Int) == 1) == ((decide (u1.ID ≥ u2)) && (decide (u1.ID ≤ u3)))) == true) (by kernel_rfl); clear hF384
      refine gp hF385 130 2 [0] (((((finS ((rangesS u2 u3 u1.Long).1) u1).1).length : Int) == 1) == ((decide (u1.ID ≥ u2)) && (decide (u1.ID ≤ u3)))) (.slice ao330 ((finS ((rangesS u2 u3 u1.Long).1) u1).1).length cap331) rfl rfl ?_; intro a386 hF387; clear hF385
      refine gp hF387 131 2 [0] (((((finS ((rangesS u2 u3 u1.Long).1) u1).1).length : Int) == 1) == ((decide (u1.ID ≥ u2)) && (decide (u1.ID ≤ u3)))) (.int .i64 (((finS ((rangesS u2 u3 u1.Long).1) u1).1).length : Int)) rfl rfl ?_; intro a388 hF389; clear hF387
      refine gp hF389 132 2 [0] (((((finS ((rangesS u2 u3 u1.Long).1) u1).1).length : Int) == 1) == ((decide (u1.ID ≥ u2)) && (decide (u1.ID ≤ u3)))) (.bool (decide ((((finS ((rangesS u2 u3 u1.Long).1) u1).1).length : Int) ≤ 1))) rfl rfl ?_; intro a390 hF391; clear hF389
      refine gd hF391 (.bool ((((((finS ((rangesS u2 u3 u1.Long).1) u1).1).length : Int) == 1) == ((decide (u1.ID ≥ u2)) && (decide (u1.ID ≤ u3)))) && (decide ((((finS ((rangesS u2 u3 u1.Long).1) u1).1).length : Int) ≤ 1)))) (m := 0) (cj := []) (bj := ((finS ((rangesS u2 u3 u1.Long).1) u1).2) != 0) rfl rfl (by kernel_rfl) rfl (by kernel_rfl) (by kernel_rfl) (by kernel_rfl) (fun hg => pk_and hF391 (g := [0]) (m := 2) (b := ((((finS ((rangesS u2 u3 u1.Long).1) u1).1).length : Int) == 1) == ((decide (u1.ID ≥ u2)) && (decide (u1.ID ≤ u3)))) (v := decide ((((finS ((rangesS u2 u3 u1.Long).1) u1).1).length : Int) ≤ 1)) rfl (by kernel_rfl) (by kernel_rfl) (by kernel_rfl) hg) ?_; intro a392 hF393; clear hF391
      refine st hF393 (.bool ((((finS ((rangesS u2 u3 u1.Long).1) u1).2) != 0) || ((((((finS ((rangesS u2 u3 u1.Long).1) u1).1).length : Int) == 1) == ((decide (u1.ID ≥ u2)) && (decide (u1.ID ≤ u3)))) && (decide ((((finS ((rangesS u2 u3 u1.Long).1) u1).1).length : Int) ≤ 1))))) (nog rfl _) rfl (by kernel_rfl) (pk_or hF393 (g := []) (m := 0) (b := ((finS ((rangesS u2 u3 u1.Long).1) u1).2) != 0) (v := (((((finS ((rangesS u2 u3 u1.Long).1) u1).1).length : Int) == 1) == ((decide (u1.ID ≥ u2)) && (decide (u1.ID ≤ u3)))) && (decide ((((finS ((rangesS u2 u3 u1.Long).1) u1).1).length : Int) ≤ 1))) rfl (by kernel_rfl) (by kernel_rfl) (by kernel_rfl) rfl) ?_; intro a394 hF395; clear hF393
      refine s1 hF395 8 (.bool ((((finS ((rangesS u2 u3 u1.Long).1) u1).2) != 0) || ((((((finS ((rangesS u2 u3 u1.Long).1) u1).1).length : Int) == 1) == ((decide (u1.ID ≥ u2)) && (decide (u1.ID ≤ u3)))) && (decide ((((finS ((rangesS u2 u3 u1.Long).1) u1).1).length : Int) ≤ 1))))) ?_; intro a396 hF397; clear hF395
      refine nlH (hQ346 _ _ ?_); clear hQ346 hQ346Q
      refine wp_ret ?_
      refine rt (fn := Try.f7) (v := .bool ((((finS ((rangesS u2 u3 u1.Long).1) u1).2) != 0) || ((((((finS ((rangesS u2 u3 u1.Long).1) u1).1).length : Int) == 1) == ((decide (u1.ID ≥ u2)) && (decide (u1.ID ≤ u3)))) && (decide ((((finS ((rangesS u2 u3 u1.Long).1) u1).1).length : Int) ≤ 1))))) hF397 (re1 hF397 (fn := Try.f7) rfl (by kernel_rfl)) ?_
      exact ⟨(((finS ((rangesS u2 u3 u1.Long).1) u1).2) != 0) || ((((((finS ((rangesS u2 u3 u1.Long).1) u1).1).length : Int) == 1) == ((decide (u1.ID ≥ u2)) && (decide (u1.ID ≤ u3)))) && (decide ((((finS ((rangesS u2 u3 u1.Long).1) u1).1).length : Int) ≤ 1))), rfl, hp335, hM334.below⟩
 · -- no
  have hp398 := hp29.2 hb52; clear hp29
  refine wp_skip ?_
  refine thn ?_
  refine sqH ?_; intro hQ399Q hQ399
  refine s1 hF51 75 (.int .i64 u2) ?_; intro a400 hF401; clear hF51
  refine s1 hF401 76 (.int .i64 u3) ?_; intro a402 hF403; clear hF401
  refine s1 hF403 77 (.pointer (some ⟨b10, 1, none⟩)) ?_; intro a404 hF405; clear hF403
  refine l1 hF405 hM44 78 1 1 (.bool u1.Long) rfl rfl ?_; intro a406 hF407; clear hF405
  refine cl hF407 15 #[.int .i64 u2, .int .i64 u3, .bool u1.Long] (nog rfl _) rfl (by kernel_rfl) (by kernel_rfl) ?_
  refine (franges_fun u2 u3 u1.Long _ _ hM44.fz).mono ?_; rintro _ wd408 ⟨ao412, cap413, Z414, rfl, hm⟩; refine ⟨_, rfl, ?_⟩; intro a409 hF410; have hM411 := hM44.callZ hm; have hle415 := hm.ext.le; clear hm hM44 hF407
  replace hs3 := hs3.mono hle415
  replace hs6 := hs6.mono hle415
  replace hle0 := Fz.le.trans hle0 hle415
  have hM416 : Mem w.heap.size [] w Z [.own tyFilter 28 ao412 cap413 ((rangesS u2 u3 u1.Long).1), .own tyFilter 28 ao24 cap25 ((fleastS u0).1), .row b10 [.int .i64 u1.ID, .bool u1.Long, .bool u1.Fast, .bool u1.Remote, .int .i64 u1.Size, .slice ao4 u1.Data.length cap5] 38] Z414 wd408 := hM411; clear hM411
  have hp417 := hp398 (hM416.ownSmall 0 rfl); clear hp398
  refine s1 hF410 74 (.tuple #[.slice ao412 ((rangesS u2 u3 u1.Long).1).length cap413, .int .i64 ((rangesS u2 u3 u1.Long).2)]) ?_; intro a418 hF419; clear hF410
  refine s1 hF419 80 (.slice ao412 ((rangesS u2 u3 u1.Long).1).length cap413) ?_; intro a420 hF421; clear hF419
  refine s1 hF421 81 (.int .i64 ((rangesS u2 u3 u1.Long).2)) ?_; intro a422 hF423; clear hF421
  refine s1 hF423 17 (.slice ao412 ((rangesS u2 u3 u1.Long).1).length cap413) ?_; intro a424 hF425; clear hF423
  refine s1 hF425 10 (.int .i64 ((rangesS u2 u3 u1.Long).2)) ?_; intro a426 hF427; clear hF425
  refine nlH (hQ399 _ _ ?_); clear hQ399 hQ399Q
  refine wp_seq ?_
  have hF428 : Fr 135 [] [⟨2, [], .int .i64 u2⟩, ⟨3, [], .int .i64 u3⟩, ⟨5, [], .pointer (some ⟨b10, 0, none⟩)⟩, ⟨10, [], .int .i64 ((rangesS u2 u3 u1.Long).2)⟩, ⟨17, [], .slice ao412 ((rangesS u2 u3 u1.Long).1).length cap413⟩] a426 := hF427.region (by kernel_rfl) (by kernel_rfl); clear hF427
  refine sqH ?_; intro hQ429Q hQ429
  refine s1 hF428 82 (.int .i64 ((rangesS u2 u3 u1.Long).2)) ?_; intro a430 hF431; clear hF428
  refine s1 hF431 83 (.bool (((rangesS u2 u3 u1.Long).2) != 0)) ?_; intro a432 hF433; clear hF431
  refine s1 hF433 84 (.bool (((rangesS u2 u3 u1.Long).2) != 0)) ?_; intro a434 hF435; clear hF433
  have hF436 := hF435.atom ((((rangesS u2 u3 u1.Long).2) != 0) == false) (by kernel_rfl); clear hF435
  refine gp hF436 85 0 [] (((rangesS u2 u3 u1.Long).2) != 0) (.slice ao412 ((rangesS u2 u3 u1.Long).1).length cap413) rfl rfl ?_; intro a437 hF438; clear hF436
  refine gp hF438 86 0 [] (((rangesS u2 u3 u1.Long).2) != 0) (.int .i64 (((rangesS u2 u3 u1.Long).1).length : Int)) rfl rfl ?_; intro a439 hF440; clear hF438
  refine gp hF440 87 0 [] (((rangesS u2 u3 u1.Long).2) != 0) (.bool (decide ((((rangesS u2 u3 u1.Long).1).length : Int) > 16))) rfl rfl ?_; intro a441 hF442; clear hF440
  refine st hF442 (.bool ((((rangesS u2 u3 u1.Long).2) != 0) || (decide ((((rangesS u2 u3 u1.Long).1).length : Int) > 16)))) (nog rfl _) rfl (by kernel_rfl) (pk_or hF442 (g := []) (m := 0) (b := ((rangesS u2 u3 u1.Long).2) != 0) (v := decide ((((rangesS u2 u3 u1.Long).1).length : Int) > 16)) rfl (by kernel_rfl) (by kernel_rfl) (by kernel_rfl) rfl) ?_; intro a443 hF444; clear hF442
  refine nlH (hQ429 _ _ ?_); clear hQ429 hQ429Q
  refine cd hF444 (t := (((rangesS u2 u3 u1.Long).2) != 0) || (decide ((((rangesS u2 u3 u1.Long).1).length : Int) > 16))) (by kernel_rfl) (fun hb445 => ?_) (fun hb445 => ?_)
  · -- yes
   have hp446 := hp417.1 hb445; clear hp417
   have hF447 : Fr 135 [] [] a443 := hF444.region (by kernel_rfl) (by kernel_rfl); clear hF444
   refine sqH ?_; intro hQ448Q hQ448
   refine s1 hF447 8 (.bool true) ?_; intro a449 hF450; clear hF447
   refine nlH (hQ448 _ _ ?_); clear hQ448 hQ448Q
   refine wp_ret ?_
   refine thr ?_
   refine rt (fn := Try.f7) (v := .bool true) hF450 (re1 hF450 (fn := Try.f7) rfl (by kernel_rfl)) ?_
   exact ⟨true, rfl, hp446, hM416.below⟩
  · -- no
   have hp451 := hp417.2 hb445; clear hp417
   refine wp_skip ?_
   refine thn ?_
   have hF452 : Fr 135 [] [⟨2, [], .int .i64 u2⟩, ⟨3, [], .int .i64 u3⟩, ⟨5, [], .pointer (some ⟨b10, 0, none⟩)⟩, ⟨17, [], .slice ao412 ((rangesS u2 u3 u1.Long).1).length cap413⟩] a443 := hF444.region (by kernel_rfl) (by kernel_rfl); clear hF444
   refine sqH ?_; intro hQ453Q hQ453
   refine s1 hF452 90 (.slice ao412 ((rangesS u2 u3 u1.Long).1).length cap413) ?_; intro a454 hF455; clear hF452
   refine s1 hF455 91 (.pointer (some ⟨b10, 1, none⟩)) ?_; intro a456 hF457; clear hF455
   refine l1 hF457 hM416 92 2 1 (.bool u1.Long) rfl rfl ?_; intro a458 hF459; clear hF457
   obtain ⟨Z460, hle461, hM462, hs463⟩ := hM416.freeze 0 rfl
   replace hs3 := hs3.mono hle461
   replace hs6 := hs6.mono hle461
   replace hle0 := Fz.le.trans hle0 hle461
   have hM464 : Mem w.heap.size [] w Z [.own tyFilter 28 ao24 cap25 ((fleastS u0).1), .row b10 [.int .i64 u1.ID, .bool u1.Long, .bool u1.Fast, .bool u1.Remote, .int .i64 u1.Size, .slice ao4 u1.Data.length cap5] 38] Z460 wd408 := hM462; clear hM462
   refine fcl hF459 hM464 (.tuple #[.int .i64 ((fCountS ((rangesS u2 u3 u1.Long).1) u1.Long).1), .int .i64 ((fCountS ((rangesS u2 u3 u1.Long).1) u1.Long).2)]) 18 #[.slice ao412 ((rangesS u2 u3 u1.Long).1).length cap413, .bool u1.Long] (nog rfl _) rfl (by kernel_rfl) (fun _ => by kernel_rfl) (fCount_fun ((rangesS u2 u3 u1.Long).1) u1.Long ao412 cap413 _ _ hs463 hM464.fz) ?_; intro a465 wd467 hF466 hM468; clear hF459 hM464
   refine s1 hF466 89 (.tuple #[.int .i64 ((fCountS ((rangesS u2 u3 u1.Long).1) u1.Long).1), .int .i64 ((fCountS ((rangesS u2 u3 u1.Long).1) u1.Long).2)]) ?_; intro a469 hF470; clear hF466
   refine s1 hF470 94 (.int .i64 ((fCountS ((rangesS u2 u3 u1.Long).1) u1.Long).1)) ?_; intro a471 hF472; clear hF470
   refine s1 hF472 95 (.int .i64 ((fCountS ((rangesS u2 u3 u1.Long).1) u1.Long).2)) ?_; intro a473 hF474; clear hF472
   refine s1 hF474 18 (.int .i64 ((fCountS ((rangesS u2 u3 u1.Long).1) u1.Long).1)) ?_; intro a475 hF476; clear hF474
   refine s1 hF476 10 (.int .i64 ((fCountS ((rangesS u2 u3 u1.Long).1) u1.Long).2)) ?_; intro a477 hF478; clear hF476
   refine nlH (hQ453 _ _ ?_); clear hQ453 hQ453Q
   refine wp_seq ?_
   refine sqH ?_; intro hQ479Q hQ479
   refine s1 hF478 96 (.int .i64 ((fCountS ((rangesS u2 u3 u1.Long).1) u1.Long).2)) ?_; intro a480 hF481; clear hF478
   refine s1 hF481 97 (.bool (((fCountS ((rangesS u2 u3 u1.Long).1) u1.Long).2) != 0)) ?_; intro a482 hF483; clear hF481
   refine s1 hF483 98 (.bool (((fCountS ((rangesS u2 u3 u1.Long).1) u1.Long).2) != 0)) ?_; intro a484 hF485; clear hF483
   have hF486 := hF485.atom ((((fCountS ((rangesS u2 u3 u1.Long).1) u1.Long).2) != 0) == false) (by kernel_rfl); clear hF485
   refine gp hF486 99 0 [] (((fCountS ((rangesS u2 u3 u1.Long).1) u1.Long).2) != 0) (.int .i64 ((fCountS ((rangesS u2 u3 u1.Long).1) u1.Long).1)) rfl rfl ?_; intro a487 hF488; clear hF486
   refine gp hF488 100 0 [] (((fCountS ((rangesS u2 u3 u1.Long).1) u1.Long).2) != 0) (.int .i64 u3) rfl rfl ?_; intro a489 hF490; clear hF488
   refine gp hF490 101 0 [] (((fCountS ((rangesS u2 u3 u1.Long).1) u1.Long).2) != 0) (.int .i64 u2) rfl rfl ?_; intro a491 hF492; clear hF490
   refine gp hF492 102 0 [] (((fCountS ((rangesS u2 u3 u1.Long).1) u1.Long).2) != 0) (.int .i64 (w64 (u3 - u2))) rfl rfl ?_; intro a493 hF494; clear hF492
   refine gp hF494 103 0 [] (((fCountS ((rangesS u2 u3 u1.Long).1) u1.Long).2) != 0) (.int .i64 (w64 ((w64 (u3 - u2)) + 1))) rfl rfl ?_; intro a495 hF496; clear hF494
   refine gp hF496 104 0 [] (((fCountS ((rangesS u2 u3 u1.Long).1) u1.Long).2) != 0) (.bool (((fCountS ((rangesS u2 u3 u1.Long).1) u1.Long).1) != (w64 ((w64 (u3 - u2)) + 1)))) rfl rfl ?_; intro a497 hF498; clear hF496
   refine st hF498 (.bool ((((fCountS ((rangesS u2 u3 u1.Long).1) u1.Long).2) != 0) || (((fCountS ((rangesS u2 u3 u1.Long).1) u1.Long).1) != (w64 ((w64 (u3 - u2)) + 1))))) (nog rfl _) rfl (by kernel_rfl) (pk_or hF498 (g := []) (m := 0) (b := ((fCountS ((rangesS u2 u3 u1.Long).1) u1.Long).2) != 0) (v := ((fCountS ((rangesS u2 u3 u1.Long).1) u1.Long).1) != (w64 ((w64 (u3 - u2)) + 1))) rfl (by kernel_rfl) (by kernel_rfl) (by kernel_rfl) rfl) ?_; intro a499 hF500; clear hF498
   refine nlH (hQ479 _ _ ?_); clear hQ479 hQ479Q
   refine cd hF500 (t := (((fCountS ((rangesS u2 u3 u1.Long).1) u1.Long).2) != 0) || (((fCountS ((rangesS u2 u3 u1.Long).1) u1.Long).1) != (w64 ((w64 (u3 - u2)) + 1)))) (by kernel_rfl) (fun hb501 => ?_) (fun hb501 => ?_)
   · -- yes
    have hp502 := hp451.1 hb501; clear hp451
    have hF503 : Fr 135 [] [] a499 := hF500.region (by kernel_rfl) (by kernel_rfl); clear hF500
    refine sqH ?_; intro hQ504Q hQ504
    refine s1 hF503 8 (.bool false) ?_; intro a505 hF506; clear hF503
    refine nlH (hQ504 _ _ ?_); clear hQ504 hQ504Q
    refine wp_ret ?_
    refine thr ?_
    refine rt (fn := Try.f7) (v := .bool false) hF506 (re1 hF506 (fn := Try.f7) rfl (by kernel_rfl)) ?_
    exact ⟨false, rfl, hp502, hM468.below⟩
   · -- no
    have hp507 := hp451.2 hb501; clear hp451
    refine wp_skip ?_
    refine thn ?_
    have hF508 : Fr 135 [] [⟨2, [], .int .i64 u2⟩, ⟨3, [], .int .i64 u3⟩, ⟨5, [], .pointer (some ⟨b10, 0, none⟩)⟩, ⟨17, [], .slice ao412 ((rangesS u2 u3 u1.Long).1).length cap413⟩] a499 := hF500.region (by kernel_rfl) (by kernel_rfl); clear hF500
    refine sqH ?_; intro hQ509Q hQ509
    refine s1 hF508 107 (.slice ao412 ((rangesS u2 u3 u1.Long).1).length cap413) ?_; intro a510 hF511; clear hF508
    refine l2 hF511 hM468 108 1 0 6 [.int .i64 u1.ID, .bool u1.Long, .bool u1.Fast, .bool u1.Remote, .int .i64 u1.Size, .slice ao4 u1.Data.length cap5] rfl rfl ?_; intro a512 hF513; clear hF511
    refine cl hF513 25 #[.slice ao412 ((rangesS u2 u3 u1.Long).1).length cap413, .agg #[.int .i64 u1.ID, .bool u1.Long, .bool u1.Fast, .bool u1.Remote, .int .i64 u1.Size, .slice ao4 u1.Data.length cap5]] (nog rfl _) rfl (by kernel_rfl) (by kernel_rfl) ?_
    refine (filterin_fun ((rangesS u2 u3 u1.Long).1) u1 ao412 cap413 ao4 cap5 _ _ hs463 hs6 hM468.fz).mono ?_; rintro _ wd514 ⟨ao518, cap519, Z520, rfl, hm⟩; refine ⟨_, rfl, ?_⟩; intro a515 hF516; have hM517 := hM468.callZ hm; have hle521 := hm.ext.le; clear hm hM468 hF513
    replace hs3 := hs3.mono hle521
    replace hs6 := hs6.mono hle521
    replace hs463 := hs463.mono hle521
    replace hle0 := Fz.le.trans hle0 hle521
    have hM522 : Mem w.heap.size [] w Z [.own (tyInt .i64) 3 ao518 cap519 ((finS ((rangesS u2 u3 u1.Long).1) u1).1), .own tyFilter 28 ao24 cap25 ((fleastS u0).1), .row b10 [.int .i64 u1.ID, .bool u1.Long, .bool u1.Fast, .bool u1.Remote, .int .i64 u1.Size, .slice ao4 u1.Data.length cap5] 38] Z520 wd514 := hM517; clear hM517
    have hp523 := hp507 (hM522.ownSmall 0 rfl); clear hp507
    refine s1 hF516 106 (.tuple #[.slice ao518 ((finS ((rangesS u2 u3 u1.Long).1) u1).1).length cap519, .int .i64 ((finS ((rangesS u2 u3 u1.Long).1) u1).2)]) ?_; intro a524 hF525; clear hF516
    refine s1 hF525 110 (.slice ao518 ((finS ((rangesS u2 u3 u1.Long).1) u1).1).length cap519) ?_; intro a526 hF527; clear hF525
    refine s1 hF527 111 (.int .i64 ((finS ((rangesS u2 u3 u1.Long).1) u1).2)) ?_; intro a528 hF529; clear hF527
    refine s1 hF529 19 (.slice ao518 ((finS ((rangesS u2 u3 u1.Long).1) u1).1).length cap519) ?_; intro a530 hF531; clear hF529
    refine s1 hF531 10 (.int .i64 ((finS ((rangesS u2 u3 u1.Long).1) u1).2)) ?_; intro a532 hF533; clear hF531
    refine nlH (hQ509 _ _ ?_); clear hQ509 hQ509Q
    refine sqH ?_; intro hQ534Q hQ534
    refine s1 hF533 112 (.int .i64 ((finS ((rangesS u2 u3 u1.Long).1) u1).2)) ?_; intro a535 hF536; clear hF533
    refine s1 hF536 113 (.bool (((finS ((rangesS u2 u3 u1.Long).1) u1).2) != 0)) ?_; intro a537 hF538; clear hF536
    refine s1 hF538 114 (.bool (((finS ((rangesS u2 u3 u1.Long).1) u1).2) != 0)) ?_; intro a539 hF540; clear hF538
    have hF541 := hF540.atom ((((finS ((rangesS u2 u3 u1.Long).1) u1).2) != 0) == false) (by kernel_rfl); clear hF540
    refine gp hF541 115 0 [] (((finS ((rangesS u2 u3 u1.Long).1) u1).2) != 0) (.slice ao518 ((finS ((rangesS u2 u3 u1.Long).1) u1).1).length cap519) rfl rfl ?_; intro a542 hF543; clear hF541
    refine gp hF543 116 0 [] (((finS ((rangesS u2 u3 u1.Long).1) u1).2) != 0) (.int .i64 (((finS ((rangesS u2 u3 u1.Long).1) u1).1).length : Int)) rfl rfl ?_; intro a544 hF545; clear hF543
    refine gp hF545 117 0 [] (((finS ((rangesS u2 u3 u1.Long).1) u1).2) != 0) (.bool ((((finS ((rangesS u2 u3 u1.Long).1) u1).1).length : Int) == 1)) rfl rfl ?_; intro a546 hF547; clear hF545
    refine gp hF547 118 0 [] (((finS ((rangesS u2 u3 u1.Long).1) u1).2) != 0) (.pointer (some ⟨b10, 0, none⟩)) rfl rfl ?_; intro a548 hF549; clear hF547
    refine gd hF549 (.int .i64 u1.ID) (m := 0) (cj := []) (bj := ((finS ((rangesS u2 u3 u1.Long).1) u1).2) != 0) rfl rfl (by kernel_rfl) rfl (by kernel_rfl) (by kernel_rfl) (by kernel_rfl) (fun hg => ld hF549 hM522 2 (g := [0]) (b := b10) (off := 0) (cs := [.int .i64 u1.ID, .bool u1.Long, .bool u1.Fast, .bool u1.Remote, .int .i64 u1.Size, .slice ao4 u1.Data.length cap5]) (ty := 38) rfl (by kernel_rfl) (by kernel_rfl) (by kernel_rfl) (by kernel_rfl) hg) ?_; intro a550 hF551; clear hF549
    refine gp hF551 120 0 [] (((finS ((rangesS u2 u3 u1.Long).1) u1).2) != 0) (.int .i64 u2) rfl rfl ?_; intro a552 hF553; clear hF551
    refine gp hF553 121 0 [] (((finS ((rangesS u2 u3 u1.Long).1) u1).2) != 0) (.bool (decide (u1.ID ≥ u2))) rfl rfl ?_; intro a554 hF555; clear hF553
    refine gp hF555 122 0 [] (((finS ((rangesS u2 u3 u1.Long).1) u1).2) != 0) (.bool (decide (u1.ID ≥ u2))) rfl rfl ?_; intro a556 hF557; clear hF555
    have hF558 := hF557.atom ((decide (u1.ID ≥ u2)) == true) (by kernel_rfl); clear hF557
    refine gp hF558 123 1 [0] (decide (u1.ID ≥ u2)) (.pointer (some ⟨b10, 0, none⟩)) rfl rfl ?_; intro a559 hF560; clear hF558
    refine gd hF560 (.int .i64 u1.ID) (m := 1) (cj := [0]) (bj := decide (u1.ID ≥ u2)) rfl rfl (by kernel_rfl) rfl (by kernel_rfl) (by kernel_rfl) (by kernel_rfl) (fun hg => ld hF560 hM522 2 (g := [1, 0]) (b := b10) (off := 0) (cs := [.int .i64 u1.ID, .bool u1.Long, .bool u1.Fast, .bool u1.Remote, .int .i64 u1.Size, .slice ao4 u1.Data.length cap5]) (ty := 38) rfl (by kernel_rfl) (by kernel_rfl) (by kernel_rfl) (by kernel_rfl) hg) ?_; intro a561 hF562; clear hF560
    refine gp hF562 125 1 [0] (decide (u1.ID ≥ u2)) (.int .i64 u3) rfl rfl ?_; intro a563 hF564; clear hF562
    refine gp hF564 126 1 [0] (decide (u1.ID ≥ u2)) (.bool (decide (u1.ID ≤ u3))) rfl rfl ?_; intro a565 hF566; clear hF564
    refine gd hF566 (.bool ((decide (u1.ID ≥ u2)) && (decide (u1.ID ≤ u3)))) (m := 0) (cj := []) (bj := ((finS ((rangesS u2 u3 u1.Long).1) u1).2) != 0) rfl rfl (by kernel_rfl) rfl (by kernel_rfl) (by kernel_rfl) (by kernel_rfl) (fun hg => pk_and hF566 (g := [0]) (m := 1) (b := decide (u1.ID ≥ u2)) (v := decide (u1.ID ≤ u3)) rfl (by kernel_rfl) (by kernel_rfl) (by kernel_rfl) hg) ?_; intro a567 hF568; clear hF566
    refine gp hF568 128 0 [] (((finS ((rangesS u2 u3 u1.Long).1) u1).2) != 0) (.bool (((((finS ((rangesS u2 u3 u1.Long).1) u1).1).length : Int) == 1) == ((decide (u1.ID ≥ u2)) && (decide (u1.ID ≤ u3))))) rfl rfl ?_; intro a569 hF570; clear hF568
    refine gp hF570 129 0 [] (((finS ((rangesS u2 u3 u1.Long).1) u1).2) != 0) (.bool (((((finS ((rangesS u2 u3 u1.Long).1) u1).1).length : Int) == 1) == ((decide (u1.ID ≥ u2)) && (decide (u1.ID ≤ u3))))) rfl rfl ?_; intro a571 hF572; clear hF570
    have hF573 := hF572.atom ((((((finS ((rangesS u2 u3 u1.Long).1) u1).1).length : Int) == 1) == ((decide (u1.ID ≥ u2)) && (decide (u1.ID ≤ u3)))) == true) (by kernel_rfl); clear hF572
    refine gp hF573 130 2 [0] (((((finS ((rangesS u2 u3 u1.Long).1) u1).1).length : Int) == 1) == ((decide (u1.ID ≥ u2)) && (decide (u1.ID ≤ u3)))) (.slice ao518 ((finS ((rangesS u2 u3 u1.Long).1) u1).1).length cap519) rfl rfl ?_; intro a574 hF575; clear hF573
    refine gp hF575 131 2 [0] (((((finS ((rangesS u2 u3 u1.Long).1) u1).1).length : Int) == 1) == ((decide (u1.ID ≥ u2)) && (decide (u1.ID ≤ u3)))) (.int .i64 (((finS ((rangesS u2 u3 u1.Long).1) u1).1).length : Int)) rfl rfl ?_; intro a576 hF577; clear hF575
    refine gp hF577 132 2 [0] (((((finS ((rangesS u2 u3 u1.Long).1) u1).1).length : Int) == 1) == ((decide (u1.ID ≥ u2)) && (decide (u1.ID ≤ u3)))) (.bool (decide ((((finS ((rangesS u2 u3 u1.Long).1) u1).1).length : Int) ≤ 1))) rfl rfl ?_; intro a578 hF579; clear hF577
    refine gd hF579 (.bool ((((((finS ((rangesS u2 u3 u1.Long).1) u1).1).length : Int) == 1) == ((decide (u1.ID ≥ u2)) && (decide (u1.ID ≤ u3)))) && (decide ((((finS ((rangesS u2 u3 u1.Long).1) u1).1).length : Int) ≤ 1)))) (m := 0) (cj := []) (bj := ((finS ((rangesS u2 u3 u1.Long).1) u1).2) != 0) rfl rfl (by kernel_rfl) rfl (by kernel_rfl) (by kernel_rfl) (by kernel_rfl) (fun hg => pk_and hF579 (g := [0]) (m := 2) (b := ((((finS ((rangesS u2 u3 u1.Long).1) u1).1).length : Int) == 1) == ((decide (u1.ID ≥ u2)) && (decide (u1.ID ≤ u3)))) (v := decide ((((finS ((rangesS u2 u3 u1.Long).1) u1).1).length : Int) ≤ 1)) rfl (by kernel_rfl) (by kernel_rfl) (by kernel_rfl) hg) ?_; intro a580 hF581; clear hF579
    refine st hF581 (.bool ((((finS ((rangesS u2 u3 u1.Long).1) u1).2) != 0) || ((((((finS ((rangesS u2 u3 u1.Long).1) u1).1).length : Int) == 1) == ((decide (u1.ID ≥ u2)) && (decide (u1.ID ≤ u3)))) && (decide ((((finS ((rangesS u2 u3 u1.Long).1) u1).1).length : Int) ≤ 1))))) (nog rfl _) rfl (by kernel_rfl) (pk_or hF581 (g := []) (m := 0) (b := ((finS ((rangesS u2 u3 u1.Long).1) u1).2) != 0) (v := (((((finS ((rangesS u2 u3 u1.Long).1) u1).1).length : Int) == 1) == ((decide (u1.ID ≥ u2)) && (decide (u1.ID ≤ u3)))) && (decide ((((finS ((rangesS u2 u3 u1.Long).1) u1).1).length : Int) ≤ 1))) rfl (by kernel_rfl) (by kernel_rfl) (by kernel_rfl) rfl) ?_; intro a582 hF583; clear hF581
    refine s1 hF583 8 (.bool ((((finS ((rangesS u2 u3 u1.Long).1) u1).2) != 0) || ((((((finS ((rangesS u2 u3 u1.Long).1) u1).1).length : Int) == 1) == ((decide (u1.ID ≥ u2)) && (decide (u1.ID ≤ u3)))) && (decide ((((finS ((rangesS u2 u3 u1.Long).1) u1).1).length : Int) ≤ 1))))) ?_; intro a584 hF585; clear hF583
    refine nlH (hQ534 _ _ ?_); clear hQ534 hQ534Q
    refine wp_ret ?_
    refine rt (fn := Try.f7) (v := .bool ((((finS ((rangesS u2 u3 u1.Long).1) u1).2) != 0) || ((((((finS ((rangesS u2 u3 u1.Long).1) u1).1).length : Int) == 1) == ((decide (u1.ID ≥ u2)) && (decide (u1.ID ≤ u3)))) && (decide ((((finS ((rangesS u2 u3 u1.Long).1) u1).1).length : Int) ≤ 1))))) hF585 (re1 hF585 (fn := Try.f7) rfl (by kernel_rfl)) ?_
    exact ⟨(((finS ((rangesS u2 u3 u1.Long).1) u1).2) != 0) || ((((((finS ((rangesS u2 u3 u1.Long).1) u1).1).length : Int) == 1) == ((decide (u1.ID ≥ u2)) && (decide (u1.ID ≤ u3)))) && (decide ((((finS ((rangesS u2 u3 u1.Long).1) u1).1).length : Int) ≤ 1))), rfl, hp523, hM522.below⟩

end Go.Proofs.Ytkogkombalcgeaa
