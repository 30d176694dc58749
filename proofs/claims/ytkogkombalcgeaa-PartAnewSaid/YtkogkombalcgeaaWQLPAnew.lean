/- The walks, made by program: each call does what its pure predicate says. -/
import Derived.Test.YtkogkombalcgeaaWQ
set_option linter.unusedVariables false
set_option linter.unusedSimpArgs false
namespace Go.Proofs.Ytkogkombalcgeaa
open Go.Sy Go.RowKit
set_option maxRecDepth 100000 in
theorem LPAnew_walk (u0 : Getter) (u1 : List Int) (ao1 : Option Addr) (cap2 : Nat) (ao4 : Option Addr) (cap5 : Nat) (Z : Fz) (w : World) (hs3 : SlR (tyInt .u8) Z ao1 cap2 u0.Data) (hs6 : SlR (tyInt .u8) Z ao4 cap5 u1) (hZ : Z.on w) {K : Bool → Prop} (hp : LPAnew_vc u0 u1 K) : Calls Try.prog 12 #[.agg #[.int .i64 u0.Want, .slice ao1 u0.Data.length cap2, .int .i64 u0.Next, .int .i64 u0.Block, .int .i64 u0.Left], .slice ao4 u1.length cap5] w fun e w' => ∃ r : Bool, e = .returned (.bool r) ∧ K r ∧ Below w.heap.size w w' := by
 refine enter0 Try.func12 rfl rfl (by kernel_rfl) ?_; intro a0 hF0; have hM0 := Mem.start w Z hZ; have hle0 := Fz.le.refl Z
 have hp7 := hp (hs3.small); clear hp
 have hp8 := hp7 (hs6.small); clear hp7
 refine sqH ?_; intro hQ9Q hQ9
 refine sn hF0 hM0 (fun b => .pointer (some ⟨b, 0, none⟩)) [.int .i64 u0.Want, .slice ao1 u0.Data.length cap2, .int .i64 u0.Next, .int .i64 u0.Block, .int .i64 u0.Left] 71 (nog rfl _) rfl (by kernel_rfl) (by kernel_rfl) ?_; intro b10 a11 wd13 hF12 hM14; clear hF0 hM0
 refine s1 hF12 4 (.bool false) ?_; intro a15 hF16; clear hF12
 refine nlH (hQ9 _ _ ?_); clear hQ9 hQ9Q
 refine sqH ?_; intro hQ17Q hQ17
 refine s1 hF16 14 (.slice ao4 u1.length cap5) ?_; intro a18 hF19; clear hF16
 refine cl hF19 40 #[.slice ao4 u1.length cap5] (nog rfl _) rfl (by kernel_rfl) (by kernel_rfl) ?_
 refine (psplit_fun u1 ao4 cap5 _ _ hs6 hM14.fz).mono ?_; rintro _ wd20 ⟨ao24, cap25, Z26, rfl, hm⟩; refine ⟨_, rfl, ?_⟩; intro a21 hF22; have hM23 := hM14.callZ hm; have hle27 := hm.ext.le; clear hm hM14 hF19
 replace hs3 := hs3.mono hle27
 replace hs6 := hs6.mono hle27
 replace hle0 := Fz.le.trans hle0 hle27
 have hM28 : Mem w.heap.size [] w Z [.own (tySl (tyInt .u8)) 36 ao24 cap25 ((psplitS u1).1), .row b10 [.int .i64 u0.Want, .slice ao1 u0.Data.length cap2, .int .i64 u0.Next, .int .i64 u0.Block, .int .i64 u0.Left] 71] Z26 wd20 := hM23; clear hM23
 have hp29 := hp8 (hM28.ownSmall 0 rfl); clear hp8
 refine s1 hF22 13 (.tuple #[.slice ao24 ((psplitS u1).1).length cap25, .int .i64 ((psplitS u1).2)]) ?_; intro a30 hF31; clear hF22
 refine s1 hF31 16 (.slice ao24 ((psplitS u1).1).length cap25) ?_; intro a32 hF33; clear hF31
 refine s1 hF33 17 (.int .i64 ((psplitS u1).2)) ?_; intro a34 hF35; clear hF33
 refine s1 hF35 5 (.slice ao24 ((psplitS u1).1).length cap25) ?_; intro a36 hF37; clear hF35
 refine s1 hF37 6 (.int .i64 ((psplitS u1).2)) ?_; intro a38 hF39; clear hF37
 refine nlH (hQ17 _ _ ?_); clear hQ17 hQ17Q
 refine wp_seq ?_
 refine sqH ?_; intro hQ40Q hQ40
 refine fcl hF39 hM28 (.bool true) 33 #[] (nog rfl _) rfl (by kernel_rfl) (fun _ => by kernel_rfl) (parted_fun  _ _ hM28.fz) ?_; intro a41 wd43 hF42 hM44; clear hF39 hM28
 refine s1 hF42 19 (.bool false) ?_; intro a45 hF46; clear hF42
 refine s1 hF46 20 (.bool false) ?_; intro a47 hF48; clear hF46
 refine st hF48 (.int .i64 ((psplitS u1).2)) (by rw [wanted_of hF48 (b := false) rfl rfl (by kernel_rfl) (by kernel_rfl)]; rfl) rfl (by kernel_rfl) (p0 hF48 (by kernel_rfl)) ?_; intro a49 hF50; clear hF48
 refine st hF50 (.bool (((psplitS u1).2) != 0)) (by rw [wanted_of hF50 (b := false) rfl rfl (by kernel_rfl) (by kernel_rfl)]; rfl) rfl (by kernel_rfl) (p0 hF50 (by kernel_rfl)) ?_; intro a51 hF52; clear hF50
 refine s1 hF52 23 (.bool (((psplitS u1).2) != 0)) ?_; intro a53 hF54; clear hF52
 refine s1 hF54 24 (.bool (((psplitS u1).2) != 0)) ?_; intro a55 hF56; clear hF54
 have hF57 := hF56.atom ((((psplitS u1).2) != 0) == false) (by kernel_rfl); clear hF56
 refine gd hF57 (.agg #[.int .i64 u0.Want, .slice ao1 u0.Data.length cap2, .int .i64 u0.Next, .int .i64 u0.Block, .int .i64 u0.Left]) (m := 0) (cj := []) (bj := ((psplitS u1).2) != 0) rfl rfl (by kernel_rfl) rfl (by kernel_rfl) (by kernel_rfl) (by kernel_rfl) (fun hg => lda hF57 hM44 1 (g := [0]) (b := b10) (off := 0) (k := 5) (cs := [.int .i64 u0.Want, .slice ao1 u0.Data.length cap2, .int .i64 u0.Next, .int .i64 u0.Block, .int .i64 u0.Left]) (vs := [.int .i64 u0.Want, .slice ao1 u0.Data.length cap2, .int .i64 u0.Next, .int .i64 u0.Block, .int .i64 u0.Left]) (ty := 71) rfl (by kernel_rfl) (by kernel_rfl) (by kernel_rfl) (by kernel_rfl) (by kernel_rfl) hg) ?_; intro a58 hF59; clear hF57
 refine gcl hF59 hM44 (.int .i64 (pcheckg u0)) 42 #[.agg #[.int .i64 u0.Want, .slice ao1 u0.Data.length cap2, .int .i64 u0.Next, .int .i64 u0.Block, .int .i64 u0.Left]] (m := 0) (cj := []) (bj := ((psplitS u1).2) != 0) rfl rfl (by kernel_rfl) rfl (by kernel_rfl) (by kernel_rfl) (by kernel_rfl) (fun _ => by kernel_rfl) (fun hg => pcheckg_fun u0 ao1 cap2 _ _ hs3 hM44.fz) ?_; intro a60 wd62 hF61 hM63; clear hF59 hM44
 refine gp hF61 27 0 [] (((psplitS u1).2) != 0) (.bool ((pcheckg u0) != 0)) rfl rfl ?_; intro a64 hF65; clear hF61
 refine st hF65 (.bool ((((psplitS u1).2) != 0) || ((pcheckg u0) != 0))) (nog rfl _) rfl (by kernel_rfl) (pk_or hF65 (g := []) (m := 0) (b := ((psplitS u1).2) != 0) (v := (pcheckg u0) != 0) rfl (by kernel_rfl) (by kernel_rfl) (by kernel_rfl) rfl) ?_; intro a66 hF67; clear hF65
 refine nlH (hQ40 _ _ ?_); clear hQ40 hQ40Q
 refine cd hF67 (t := (((psplitS u1).2) != 0) || ((pcheckg u0) != 0)) (by kernel_rfl) (fun hb68 => ?_) (fun hb68 => ?_)
 · -- yes
  have hp69 := hp29.1 hb68; clear hp29
  have hF70 : Fr 69 [] [] a66 := hF67.region (by kernel_rfl) (by kernel_rfl); clear hF67
  refine sqH ?_; intro hQ71Q hQ71
  refine fcl hF70 hM63 (.bool true) 33 #[] (nog rfl _) rfl (by kernel_rfl) (fun _ => by kernel_rfl) (parted_fun  _ _ hM63.fz) ?_; intro a72 wd74 hF73 hM75; clear hF70 hM63
  refine s1 hF73 4 (.bool true) ?_; intro a76 hF77; clear hF73
  refine nlH (hQ71 _ _ ?_); clear hQ71 hQ71Q
  refine wp_ret ?_
  refine thr ?_
  refine rt (fn := Try.f12) (v := .bool true) hF77 (re1 hF77 (fn := Try.f12) rfl (by kernel_rfl)) ?_
  exact ⟨true, rfl, hp69, hM75.below⟩
 · -- no
  have hp78 := hp29.2 hb68; clear hp29
  refine wp_skip ?_
  refine thn ?_
  refine wp_seq ?_
  have hF79 : Fr 69 [] [⟨1, [], .slice ao4 u1.length cap5⟩, ⟨2, [], .pointer (some ⟨b10, 0, none⟩)⟩, ⟨5, [], .slice ao24 ((psplitS u1).1).length cap25⟩] a66 := hF67.region (by kernel_rfl) (by kernel_rfl); clear hF67
  refine sqH ?_; intro hQ80Q hQ80
  refine s1 hF79 30 (.slice ao24 ((psplitS u1).1).length cap25) ?_; intro a81 hF82; clear hF79
  refine s1 hF82 31 (.int .i64 (((psplitS u1).1).length : Int)) ?_; intro a83 hF84; clear hF82
  refine s1 hF84 32 (.int .i64 0) ?_; intro a85 hF86; clear hF84
  refine nlH (hQ80 _ _ ?_); clear hQ80 hQ80Q
  refine wp_block ?_
  have hF87 : Fr 69 [] [⟨1, [], .slice ao4 u1.length cap5⟩, ⟨2, [], .pointer (some ⟨b10, 0, none⟩)⟩, ⟨5, [], .slice ao24 ((psplitS u1).1).length cap25⟩, ⟨30, [], .slice ao24 ((psplitS u1).1).length cap25⟩, ⟨31, [], .int .i64 (((psplitS u1).1).length : Int)⟩, ⟨32, [], .int .i64 0⟩] a85 := hF86.region (by kernel_rfl) (by kernel_rfl); clear hF86
  obtain ⟨Z89, hle90, hM91, hs92⟩ := hM63.freeze 0 rfl
  replace hs3 := hs3.mono hle90
  replace hs6 := hs6.mono hle90
  replace hle0 := Fz.le.trans hle0 hle90
  have hM93 : Mem w.heap.size [] w Z [.row b10 [.int .i64 u0.Want, .slice ao1 u0.Data.length cap2, .int .i64 u0.Next, .int .i64 u0.Block, .int .i64 u0.Left] 71] Z89 wd62 := hM91; clear hM91
  have hF94 : Fr 69 [] [⟨1, [], .slice ao4 u1.length cap5⟩, ⟨2, [], .pointer (some ⟨b10, 0, none⟩)⟩, ⟨5, [], .slice ao24 ((psplitS u1).1).length cap25⟩, ⟨30, [], .slice ao24 ((psplitS u1).1).length cap25⟩, ⟨31, [], .int .i64 (((psplitS u1).1).length : Int)⟩, ⟨32, [], .int .i64 0⟩] a85 := hF87.region (by kernel_rfl) (by kernel_rfl); clear hF87
  obtain ⟨inv88, mu88, hI97, hr96⟩ := hp78
  have hle98 := hle0
  refine lp (ι := Int × Getter × (Option Addr) × Nat × Fz) (fun (s : Int × Getter × (Option Addr) × Nat × Fz) => [⟨1, [], .slice ao4 u1.length cap5⟩, ⟨2, [], .pointer (some ⟨b10, 0, none⟩)⟩, ⟨5, [], .slice ao24 ((psplitS u1).1).length cap25⟩, ⟨30, [], .slice ao24 ((psplitS u1).1).length cap25⟩, ⟨31, [], .int .i64 (((psplitS u1).1).length : Int)⟩, ⟨32, [], .int .i64 s.1⟩]) (fun (s : Int × Getter × (Option Addr) × Nat × Fz) => [.row b10 [.int .i64 s.2.1.Want, .slice s.2.2.1 s.2.1.Data.length s.2.2.2.1, .int .i64 s.2.1.Next, .int .i64 s.2.1.Block, .int .i64 s.2.1.Left] 71]) (fun (s : Int × Getter × (Option Addr) × Nat × Fz) => s.2.2.2.2) (fun (s : Int × Getter × (Option Addr) × Nat × Fz) => inv88 s.1 s.2.1 ∧ SlR (tyInt .u8) s.2.2.2.2 s.2.2.1 s.2.2.2.1 s.2.1.Data ∧ Fz.le Z89 s.2.2.2.2) (fun (s : Int × Getter × (Option Addr) × Nat × Fz) => mu88 s.1 s.2.1) ⟨0, u0, ao1, cap2, Z89⟩ ⟨hI97, hs3, Fz.le.refl _⟩ (by exact hF94.region (by kernel_rfl) (by kernel_rfl)) (by exact hM93) ?_
  rintro ⟨x32, yb10, aoyb10_0, capyb10_0, ZL88⟩ ⟨hI95, hsyb10_0, hleL88⟩ a99 wd100 hF101 hM102
  have hF103 : Fr 69 [] [⟨1, [], .slice ao4 u1.length cap5⟩, ⟨2, [], .pointer (some ⟨b10, 0, none⟩)⟩, ⟨5, [], .slice ao24 ((psplitS u1).1).length cap25⟩, ⟨30, [], .slice ao24 ((psplitS u1).1).length cap25⟩, ⟨31, [], .int .i64 (((psplitS u1).1).length : Int)⟩, ⟨32, [], .int .i64 x32⟩] a99 := hF101; clear hF101 hF94
  have hM104 : Mem w.heap.size [] w Z [.row b10 [.int .i64 yb10.Want, .slice aoyb10_0 yb10.Data.length capyb10_0, .int .i64 yb10.Next, .int .i64 yb10.Block, .int .i64 yb10.Left] 71] ZL88 wd100 := hM102; clear hM102 hM93
  have hp105 := hr96 x32 yb10 hI95
  replace hle0 := Fz.le.trans hle0 hleL88
  have hs106 := hs3.mono hleL88
  have hs107 := hs6.mono hleL88
  have hs108 := hs92.mono hleL88
  refine sqH ?_; intro hQ109Q hQ109
  refine s1 hF103 33 (.bool (decide (x32 < (((psplitS u1).1).length : Int)))) ?_; intro a110 hF111; clear hF103
  refine nlH (hQ109 _ _ ?_); clear hQ109 hQ109Q
  refine wp_seq ?_
  refine cd hF111 (t := decide (x32 < (((psplitS u1).1).length : Int))) (by kernel_rfl) (fun hb112 => ?_) (fun hb112 => ?_)
  · -- yes
   have hp113 := hp105.1 hb112; clear hp105
   refine wp_skip ?_
   refine thn ?_
   refine wp_seq ?_
   refine wp_block ?_
   refine sqH ?_; intro hQ114Q hQ114
   refine s1 hF111 34 (.int .i64 x32) ?_; intro a115 hF116; clear hF111
   have hc117 := hp113.1; have hp118 := hp113.2; clear hp113
   refine ix hF116 (T := (tySl (tyInt .u8))) (xs := (psplitS u1).1) hs108 x32 hc117 (k := .i64) (e := 36) (bytes := 24) (nog rfl _) rfl (by kernel_rfl) rfl (by kernel_rfl) (by kernel_rfl) (by kernel_rfl) ?_; intro b119 off120 cs121 q122 a126 hq123 hP124 hT125 hF127; clear hF116
   have hp128 := hp118 q122 hq123; clear hp118
   obtain ⟨ao129, cap130, rfl, hs131⟩ := hT125
   have hp132 := hp128 (hs131.small); clear hp128
   refine z1 hF127 hM104 36 hP124 0 (.slice ao129 q122.length cap130) rfl ?_; intro a133 hF134; clear hF127
   refine s1 hF134 7 (.int .i64 x32) ?_; intro a135 hF136; clear hF134
   refine s1 hF136 8 (.slice ao129 q122.length cap130) ?_; intro a137 hF138; clear hF136
   refine nlH (hQ114 _ _ ?_); clear hQ114 hQ114Q
   refine sqH ?_; intro hQ139Q hQ139
   refine l2 hF138 hM104 38 0 0 5 [.int .i64 yb10.Want, .slice aoyb10_0 yb10.Data.length capyb10_0, .int .i64 yb10.Next, .int .i64 yb10.Block, .int .i64 yb10.Left] rfl rfl ?_; intro a140 hF141; clear hF138
   refine s1 hF141 39 (.slice ao129 q122.length cap130) ?_; intro a142 hF143; clear hF141
   have hc144 := hp132.1; have hp145 := hp132.2; clear hp132
   refine cl hF143 41 #[.agg #[.int .i64 yb10.Want, .slice aoyb10_0 yb10.Data.length capyb10_0, .int .i64 yb10.Next, .int .i64 yb10.Block, .int .i64 yb10.Left], .slice ao129 q122.length cap130] (nog rfl _) rfl (by kernel_rfl) (by kernel_rfl) ?_
   refine (pget_fun yb10 q122 hc144 aoyb10_0 capyb10_0 ao129 cap130 _ _ hsyb10_0 hs131 hM104.fz).mono ?_; rintro _ wd146 ⟨ao150, cap151, ao153, cap154, ao156, cap157, Z159, rfl, hs152, hn155, hn158, hm⟩; refine ⟨_, rfl, ?_⟩; intro a147 hF148; have hM149 := hM104.callZ hm; have hle160 := hm.ext.le; clear hm hM104 hF143
   replace hs106 := hs106.mono hle160
   replace hs107 := hs107.mono hle160
   replace hs108 := hs108.mono hle160
   replace hsyb10_0 := hsyb10_0.mono hle160
   replace hleL88 := hleL88.mono hle160
   replace hs131 := hs131.mono hle160
   replace hP124 := hP124.mono hle160
   replace hle0 := Fz.le.trans hle0 hle160
   have hM161 : Mem w.heap.size [] w Z [.own (tyInt .u8) 5 ao153 cap154 ((pgetS yb10 q122).2.1), .own (tyInt .u8) 5 ao156 cap157 ((pgetS yb10 q122).2.2.1), .row b10 [.int .i64 yb10.Want, .slice aoyb10_0 yb10.Data.length capyb10_0, .int .i64 yb10.Next, .int .i64 yb10.Block, .int .i64 yb10.Left] 71] Z159 wd146 := hM149; clear hM149
   have hp162 := hp145 (hM161.ownSmall 0 rfl); clear hp145
   have hp163 := hp162 (hM161.ownSmall 1 rfl); clear hp162
   have hp164 := hp163 (hs152.small); clear hp163
   refine s1 hF148 37 (.tuple #[.agg #[.int .i64 (((pgetS yb10 q122).1).Want), .slice ao150 (((pgetS yb10 q122).1).Data).length cap151, .int .i64 (((pgetS yb10 q122).1).Next), .int .i64 (((pgetS yb10 q122).1).Block), .int .i64 (((pgetS yb10 q122).1).Left)], .slice ao153 ((pgetS yb10 q122).2.1).length cap154, .slice ao156 ((pgetS yb10 q122).2.2.1).length cap157, .int .i64 ((pgetS yb10 q122).2.2.2.1)]) ?_; intro a165 hF166; clear hF148
   refine s1 hF166 41 (.agg #[.int .i64 (((pgetS yb10 q122).1).Want), .slice ao150 (((pgetS yb10 q122).1).Data).length cap151, .int .i64 (((pgetS yb10 q122).1).Next), .int .i64 (((pgetS yb10 q122).1).Block), .int .i64 (((pgetS yb10 q122).1).Left)]) ?_; intro a167 hF168; clear hF166
   refine s1 hF168 42 (.slice ao153 ((pgetS yb10 q122).2.1).length cap154) ?_; intro a169 hF170; clear hF168
   refine s1 hF170 43 (.slice ao156 ((pgetS yb10 q122).2.2.1).length cap157) ?_; intro a171 hF172; clear hF170
   refine s1 hF172 44 (.int .i64 ((pgetS yb10 q122).2.2.2.1)) ?_; intro a173 hF174; clear hF172
   refine sn hF174 hM161 (fun b => .pointer (some ⟨b, 0, none⟩)) [.int .i64 0, .slice none 0 0, .int .i64 0, .int .i64 0, .int .i64 0] 71 (nog rfl _) rfl (by kernel_rfl) (by kernel_rfl) ?_; intro b175 a176 wd178 hF177 hM179; clear hF174 hM161
   refine sr hF177 hM179 0 [.int .i64 (((pgetS yb10 q122).1).Want), .slice ao150 (((pgetS yb10 q122).1).Data).length cap151, .int .i64 (((pgetS yb10 q122).1).Next), .int .i64 (((pgetS yb10 q122).1).Block), .int .i64 (((pgetS yb10 q122).1).Left)] (b := b175) (off := 0) (cs := [.int .i64 0, .slice none 0 0, .int .i64 0, .int .i64 0, .int .i64 0]) (ty := 71) (u := .agg #[.int .i64 (((pgetS yb10 q122).1).Want), .slice ao150 (((pgetS yb10 q122).1).Data).length cap151, .int .i64 (((pgetS yb10 q122).1).Next), .int .i64 (((pgetS yb10 q122).1).Block), .int .i64 (((pgetS yb10 q122).1).Left)]) (nog rfl _) rfl rfl (by kernel_rfl) (by kernel_rfl) (by kernel_rfl) (by kernel_rfl) (by kernel_rfl) (by kernel_rfl) (by kernel_rfl) ?_; intro wd180 hM181; clear hM179
   refine s1 hF177 10 (.slice ao153 ((pgetS yb10 q122).2.1).length cap154) ?_; intro a182 hF183; clear hF177
   refine s1 hF183 11 (.slice ao156 ((pgetS yb10 q122).2.2.1).length cap157) ?_; intro a184 hF185; clear hF183
   refine s1 hF185 12 (.int .i64 ((pgetS yb10 q122).2.2.2.1)) ?_; intro a186 hF187; clear hF185
   have hM188 : Mem w.heap.size [] w Z [.row b175 [.int .i64 (((pgetS yb10 q122).1).Want), .slice ao150 (((pgetS yb10 q122).1).Data).length cap151, .int .i64 (((pgetS yb10 q122).1).Next), .int .i64 (((pgetS yb10 q122).1).Block), .int .i64 (((pgetS yb10 q122).1).Left)] 71, .own (tyInt .u8) 5 ao153 cap154 ((pgetS yb10 q122).2.1), .own (tyInt .u8) 5 ao156 cap157 ((pgetS yb10 q122).2.2.1), .row b10 [.int .i64 yb10.Want, .slice aoyb10_0 yb10.Data.length capyb10_0, .int .i64 yb10.Next, .int .i64 yb10.Block, .int .i64 yb10.Left] 71] Z159 wd180 := hM181; clear hM181
   refine nlH (hQ139 _ _ ?_); clear hQ139 hQ139Q
   refine wp_seq ?_
   have hF189 : Fr 69 [] [⟨1, [], .slice ao4 u1.length cap5⟩, ⟨2, [], .pointer (some ⟨b10, 0, none⟩)⟩, ⟨5, [], .slice ao24 ((psplitS u1).1).length cap25⟩, ⟨7, [], .int .i64 x32⟩, ⟨9, [], .pointer (some ⟨b175, 0, none⟩)⟩, ⟨11, [], .slice ao156 ((pgetS yb10 q122).2.2.1).length cap157⟩, ⟨12, [], .int .i64 ((pgetS yb10 q122).2.2.2.1)⟩, ⟨30, [], .slice ao24 ((psplitS u1).1).length cap25⟩, ⟨31, [], .int .i64 (((psplitS u1).1).length : Int)⟩, ⟨32, [], .int .i64 x32⟩] a186 := hF187.region (by kernel_rfl) (by kernel_rfl); clear hF187
   refine sqH ?_; intro hQ190Q hQ190
   refine s1 hF189 45 (.int .i64 ((pgetS yb10 q122).2.2.2.1)) ?_; intro a191 hF192; clear hF189
   refine s1 hF192 46 (.bool (((pgetS yb10 q122).2.2.2.1) != 0)) ?_; intro a193 hF194; clear hF192
   refine s1 hF194 47 (.bool (((pgetS yb10 q122).2.2.2.1) != 0)) ?_; intro a195 hF196; clear hF194
   have hF197 := hF196.atom ((((pgetS yb10 q122).2.2.2.1) != 0) == false) (by kernel_rfl); clear hF196
   refine gp hF197 48 0 [] (((pgetS yb10 q122).2.2.2.1) != 0) (.slice ao156 ((pgetS yb10 q122).2.2.1).length cap157) rfl rfl ?_; intro a198 hF199; clear hF197
   rcases Bool.eq_false_or_eq_true (((pgetS yb10 q122).2.2.2.1) != 0) with hb200 | hb200
   · -- true
    have hp201 := hp164.1 hb200; clear hp164
    have hF202 := hF199.reval (d := 47) (c := []) (v := .bool (((pgetS yb10 q122).2.2.2.1) != 0)) (by kernel_rfl) (.bool true) (by rw [hb200]); clear hF199
    have hF203 := hF202.setc (d := 48) (c := [0]) (v := .slice ao156 ((pgetS yb10 q122).2.2.1).length cap157) (by kernel_rfl) (v' := undef) (by rw [hb200]; kernel_rfl); clear hF202
    refine sk hF203 (b := true) rfl rfl (by kernel_rfl) (by kernel_rfl) rfl rfl (by kernel_rfl) ?_; intro a204 hF205; clear hF203
    refine sk hF205 (b := true) rfl rfl (by kernel_rfl) (by kernel_rfl) rfl rfl (by kernel_rfl) ?_; intro a206 hF207; clear hF205
    refine sk hF207 (b := true) rfl rfl (by kernel_rfl) (by kernel_rfl) rfl rfl (by kernel_rfl) ?_; intro a208 hF209; clear hF207
    refine sk hF209 (b := true) rfl rfl (by kernel_rfl) (by kernel_rfl) rfl rfl (by kernel_rfl) ?_; intro a210 hF211; clear hF209
    refine sk hF211 (b := true) rfl rfl (by kernel_rfl) (by kernel_rfl) rfl rfl (by kernel_rfl) ?_; intro a212 hF213; clear hF211
    refine sk hF213 (b := true) rfl rfl (by kernel_rfl) (by kernel_rfl) rfl rfl (by kernel_rfl) ?_; intro a214 hF215; clear hF213
    refine sk hF215 (b := true) rfl rfl (by kernel_rfl) (by kernel_rfl) rfl rfl (by kernel_rfl) ?_; intro a216 hF217; clear hF215
    refine s1 hF217 56 (.bool true) ?_; intro a218 hF219; clear hF217
    refine nlH (hQ190 _ _ ?_); clear hQ190 hQ190Q
    refine cdT hF219 (by kernel_rfl) ?_
    have hF220 : Fr 69 [] [] a218 := hF219.region (by kernel_rfl) (by kernel_rfl); clear hF219
    refine sqH ?_; intro hQ221Q hQ221
    refine s1 hF220 4 (.bool false) ?_; intro a222 hF223; clear hF220
    refine nlH (hQ221 _ _ ?_); clear hQ221 hQ221Q
    refine wp_ret ?_
    refine thr ?_
    refine ibr ?_
    refine thr ?_
    refine thr ?_
    refine ibr ?_
    refine thr ?_
    refine rt (fn := Try.f12) (v := .bool false) hF223 (re1 hF223 (fn := Try.f12) rfl (by kernel_rfl)) ?_
    exact ⟨false, rfl, hp201, hM188.below⟩
   · -- false
    have hp224 := hp164.2 hb200; clear hp164
    have hF225 := hF199.reval (d := 47) (c := []) (v := .bool (((pgetS yb10 q122).2.2.2.1) != 0)) (by kernel_rfl) (.bool false) (by rw [hb200]); clear hF199
    have hF226 := hF225.setc (d := 48) (c := [0]) (v := .slice ao156 ((pgetS yb10 q122).2.2.1).length cap157) (by kernel_rfl) (v' := .slice ao156 ((pgetS yb10 q122).2.2.1).length cap157) (by rw [hb200]; kernel_rfl); clear hF225
    refine st hF226 (.bool (!((pgetS yb10 q122).2.2.2.2.2))) (by rw [wanted_of hF226 (b := false) rfl rfl (by kernel_rfl) (by kernel_rfl)]; rfl) rfl (by kernel_rfl) (re_ (r := .ok (.value (.bool (!ao156.isNone))) wd180) (by cases ao156 <;> exact p0 hF226 (by kernel_rfl)) (by rw [hn158])) ?_; intro a227 hF228; clear hF226
    refine st hF228 (.int .i64 x32) (by rw [wanted_of hF228 (b := false) rfl rfl (by kernel_rfl) (by kernel_rfl)]; rfl) rfl (by kernel_rfl) (p0 hF228 (by kernel_rfl)) ?_; intro a229 hF230; clear hF228
    refine st hF230 (.slice ao24 ((psplitS u1).1).length cap25) (by rw [wanted_of hF230 (b := false) rfl rfl (by kernel_rfl) (by kernel_rfl)]; rfl) rfl (by kernel_rfl) (p0 hF230 (by kernel_rfl)) ?_; intro a231 hF232; clear hF230
    refine st hF232 (.int .i64 (((psplitS u1).1).length : Int)) (by rw [wanted_of hF232 (b := false) rfl rfl (by kernel_rfl) (by kernel_rfl)]; rfl) rfl (by kernel_rfl) (p0 hF232 (by kernel_rfl)) ?_; intro a233 hF234; clear hF232
    refine st hF234 (.int .i64 (w64 ((((psplitS u1).1).length : Int) - 1))) (by rw [wanted_of hF234 (b := false) rfl rfl (by kernel_rfl) (by kernel_rfl)]; rfl) rfl (by kernel_rfl) (p0 hF234 (by kernel_rfl)) ?_; intro a235 hF236; clear hF234
    refine st hF236 (.bool (x32 == (w64 ((((psplitS u1).1).length : Int) - 1)))) (by rw [wanted_of hF236 (b := false) rfl rfl (by kernel_rfl) (by kernel_rfl)]; rfl) rfl (by kernel_rfl) (p0 hF236 (by kernel_rfl)) ?_; intro a237 hF238; clear hF236
    refine st hF238 (.bool ((!((pgetS yb10 q122).2.2.2.2.2)) != (x32 == (w64 ((((psplitS u1).1).length : Int) - 1))))) (by rw [wanted_of hF238 (b := false) rfl rfl (by kernel_rfl) (by kernel_rfl)]; rfl) rfl (by kernel_rfl) (p0 hF238 (by kernel_rfl)) ?_; intro a239 hF240; clear hF238
    refine s1 hF240 56 (.bool ((!((pgetS yb10 q122).2.2.2.2.2)) != (x32 == (w64 ((((psplitS u1).1).length : Int) - 1))))) ?_; intro a241 hF242; clear hF240
    refine nlH (hQ190 _ _ ?_); clear hQ190 hQ190Q
    refine cd hF242 (t := (!((pgetS yb10 q122).2.2.2.2.2)) != (x32 == (w64 ((((psplitS u1).1).length : Int) - 1)))) (by kernel_rfl) (fun hb243 => ?_) (fun hb243 => ?_)
    · -- yes
     have hp244 := hp224.1 hb243; clear hp224
     have hF245 : Fr 69 [] [] a241 := hF242.region (by kernel_rfl) (by kernel_rfl); clear hF242
     refine sqH ?_; intro hQ246Q hQ246
     refine s1 hF245 4 (.bool false) ?_; intro a247 hF248; clear hF245
     refine nlH (hQ246 _ _ ?_); clear hQ246 hQ246Q
     refine wp_ret ?_
     refine thr ?_
     refine ibr ?_
     refine thr ?_
     refine thr ?_
     refine ibr ?_
     refine thr ?_
     refine rt (fn := Try.f12) (v := .bool false) hF248 (re1 hF248 (fn := Try.f12) rfl (by kernel_rfl)) ?_
     exact ⟨false, rfl, hp244, hM188.below⟩
    · -- no
     have hp249 := hp224.2 hb243; clear hp224
     refine wp_skip ?_
     refine thn ?_
     refine wp_seq ?_
     have hF250 : Fr 69 [] [⟨1, [], .slice ao4 u1.length cap5⟩, ⟨2, [], .pointer (some ⟨b10, 0, none⟩)⟩, ⟨5, [], .slice ao24 ((psplitS u1).1).length cap25⟩, ⟨9, [], .pointer (some ⟨b175, 0, none⟩)⟩, ⟨11, [], .slice ao156 ((pgetS yb10 q122).2.2.1).length cap157⟩, ⟨30, [], .slice ao24 ((psplitS u1).1).length cap25⟩, ⟨31, [], .int .i64 (((psplitS u1).1).length : Int)⟩, ⟨32, [], .int .i64 x32⟩] a241 := hF242.region (by kernel_rfl) (by kernel_rfl); clear hF242
     refine sqH ?_; intro hQ251Q hQ251
     refine s1 hF250 57 (.slice ao156 ((pgetS yb10 q122).2.2.1).length cap157) ?_; intro a252 hF253; clear hF250
     refine st hF253 (.bool (!((pgetS yb10 q122).2.2.2.2.2))) (nog rfl _) rfl (by kernel_rfl) (re_ (r := .ok (.value (.bool (!ao156.isNone))) wd180) (by cases ao156 <;> exact p0 hF253 (by kernel_rfl)) (by rw [hn158])) ?_; intro a254 hF255; clear hF253
     refine nlH (hQ251 _ _ ?_); clear hQ251 hQ251Q
     refine cd hF255 (t := !((pgetS yb10 q122).2.2.2.2.2)) (by kernel_rfl) (fun hb256 => ?_) (fun hb256 => ?_)
     · -- yes
      have hp257 := hp249.1 hb256; clear hp249
      refine sqH ?_; intro hQ258Q hQ258
      refine s1 hF255 59 (.slice ao156 ((pgetS yb10 q122).2.2.1).length cap157) ?_; intro a259 hF260; clear hF255
      refine s1 hF260 60 (.slice ao4 u1.length cap5) ?_; intro a261 hF262; clear hF260
      obtain ⟨Z263, hle264, hM265, hs266⟩ := hM188.freeze 2 rfl
      replace hs106 := hs106.mono hle264
      replace hs107 := hs107.mono hle264
      replace hs108 := hs108.mono hle264
      replace hsyb10_0 := hsyb10_0.mono hle264
      replace hleL88 := hleL88.mono hle264
      replace hs131 := hs131.mono hle264
      replace hP124 := hP124.mono hle264
      replace hs152 := hs152.mono hle264
      replace hle0 := Fz.le.trans hle0 hle264
      have hM267 : Mem w.heap.size [] w Z [.row b175 [.int .i64 (((pgetS yb10 q122).1).Want), .slice ao150 (((pgetS yb10 q122).1).Data).length cap151, .int .i64 (((pgetS yb10 q122).1).Next), .int .i64 (((pgetS yb10 q122).1).Block), .int .i64 (((pgetS yb10 q122).1).Left)] 71, .own (tyInt .u8) 5 ao153 cap154 ((pgetS yb10 q122).2.1), .row b10 [.int .i64 yb10.Want, .slice aoyb10_0 yb10.Data.length capyb10_0, .int .i64 yb10.Next, .int .i64 yb10.Block, .int .i64 yb10.Left] 71] Z263 wd180 := hM265; clear hM265
      refine fcl hF262 hM267 (.bool (beqS ((pgetS yb10 q122).2.2.1) u1)) 37 #[.slice ao156 ((pgetS yb10 q122).2.2.1).length cap157, .slice ao4 u1.length cap5] (nog rfl _) rfl (by kernel_rfl) (fun _ => by kernel_rfl) (beq_fun ((pgetS yb10 q122).2.2.1) u1 ao156 cap157 ao4 cap5 _ _ hs266 hs107 hM267.fz) ?_; intro a268 wd270 hF269 hM271; clear hF262 hM267
      refine s1 hF269 62 (.bool (beqS ((pgetS yb10 q122).2.2.1) u1)) ?_; intro a272 hF273; clear hF269
      have hF274 := hF273.atom ((beqS ((pgetS yb10 q122).2.2.1) u1) == true) (by kernel_rfl); clear hF273
      refine gp hF274 63 0 [] ((beqS ((pgetS yb10 q122).2.2.1) u1)) (.pointer (some ⟨b175, 0, none⟩)) rfl rfl ?_; intro a275 hF276; clear hF274
      refine gd hF276 (.int .i64 (((pgetS yb10 q122).1).Want)) (m := 0) (cj := []) (bj := (beqS ((pgetS yb10 q122).2.2.1) u1)) rfl rfl (by kernel_rfl) rfl (by kernel_rfl) (by kernel_rfl) (by kernel_rfl) (fun hg => ld hF276 hM271 0 (g := [0]) (b := b175) (off := 0) (cs := [.int .i64 (((pgetS yb10 q122).1).Want), .slice ao150 (((pgetS yb10 q122).1).Data).length cap151, .int .i64 (((pgetS yb10 q122).1).Next), .int .i64 (((pgetS yb10 q122).1).Block), .int .i64 (((pgetS yb10 q122).1).Left)]) (ty := 71) rfl (by kernel_rfl) (by kernel_rfl) (by kernel_rfl) (by kernel_rfl) hg) ?_; intro a277 hF278; clear hF276
      refine gp hF278 65 0 [] ((beqS ((pgetS yb10 q122).2.2.1) u1)) (.bool ((((pgetS yb10 q122).1).Want) == 0)) rfl rfl ?_; intro a279 hF280; clear hF278
      refine st hF280 (.bool ((beqS ((pgetS yb10 q122).2.2.1) u1) && ((((pgetS yb10 q122).1).Want) == 0))) (nog rfl _) rfl (by kernel_rfl) (pk_and hF280 (g := []) (m := 0) (b := (beqS ((pgetS yb10 q122).2.2.1) u1)) (v := (((pgetS yb10 q122).1).Want) == 0) rfl (by kernel_rfl) (by kernel_rfl) (by kernel_rfl) rfl) ?_; intro a281 hF282; clear hF280
      refine s1 hF282 4 (.bool ((beqS ((pgetS yb10 q122).2.2.1) u1) && ((((pgetS yb10 q122).1).Want) == 0))) ?_; intro a283 hF284; clear hF282
      refine nlH (hQ258 _ _ ?_); clear hQ258 hQ258Q
      refine wp_ret ?_
      refine thr ?_
      refine ibr ?_
      refine thr ?_
      refine thr ?_
      refine ibr ?_
      refine thr ?_
      refine rt (fn := Try.f12) (v := .bool ((beqS ((pgetS yb10 q122).2.2.1) u1) && ((((pgetS yb10 q122).1).Want) == 0))) hF284 (re1 hF284 (fn := Try.f12) rfl (by kernel_rfl)) ?_
      exact ⟨(beqS ((pgetS yb10 q122).2.2.1) u1) && ((((pgetS yb10 q122).1).Want) == 0), rfl, hp257, hM271.below⟩
     · -- no
      have hp285 := hp249.2 hb256; clear hp249
      refine wp_skip ?_
      refine thn ?_
      refine rgH ?_; intro hQ286Q hQ286
      refine l2 hF255 hM188 67 0 0 5 [.int .i64 (((pgetS yb10 q122).1).Want), .slice ao150 (((pgetS yb10 q122).1).Data).length cap151, .int .i64 (((pgetS yb10 q122).1).Next), .int .i64 (((pgetS yb10 q122).1).Block), .int .i64 (((pgetS yb10 q122).1).Left)] rfl rfl ?_; intro a287 hF288; clear hF255
      refine sr hF288 hM188 3 [.int .i64 (((pgetS yb10 q122).1).Want), .slice ao150 (((pgetS yb10 q122).1).Data).length cap151, .int .i64 (((pgetS yb10 q122).1).Next), .int .i64 (((pgetS yb10 q122).1).Block), .int .i64 (((pgetS yb10 q122).1).Left)] (b := b10) (off := 0) (cs := [.int .i64 yb10.Want, .slice aoyb10_0 yb10.Data.length capyb10_0, .int .i64 yb10.Next, .int .i64 yb10.Block, .int .i64 yb10.Left]) (ty := 71) (u := .agg #[.int .i64 (((pgetS yb10 q122).1).Want), .slice ao150 (((pgetS yb10 q122).1).Data).length cap151, .int .i64 (((pgetS yb10 q122).1).Next), .int .i64 (((pgetS yb10 q122).1).Block), .int .i64 (((pgetS yb10 q122).1).Left)]) (nog rfl _) rfl rfl (by kernel_rfl) (by kernel_rfl) (by kernel_rfl) (by kernel_rfl) (by kernel_rfl) (by kernel_rfl) (by kernel_rfl) ?_; intro wd289 hM290; clear hM188
      have hM291 : Mem w.heap.size [] w Z [.row b175 [.int .i64 (((pgetS yb10 q122).1).Want), .slice ao150 (((pgetS yb10 q122).1).Data).length cap151, .int .i64 (((pgetS yb10 q122).1).Next), .int .i64 (((pgetS yb10 q122).1).Block), .int .i64 (((pgetS yb10 q122).1).Left)] 71, .own (tyInt .u8) 5 ao153 cap154 ((pgetS yb10 q122).2.1), .own (tyInt .u8) 5 ao156 cap157 ((pgetS yb10 q122).2.2.1), .row b10 [.int .i64 (((pgetS yb10 q122).1).Want), .slice ao150 (((pgetS yb10 q122).1).Data).length cap151, .int .i64 (((pgetS yb10 q122).1).Next), .int .i64 (((pgetS yb10 q122).1).Block), .int .i64 (((pgetS yb10 q122).1).Left)] 71] Z159 wd289 := hM290; clear hM290
      refine nlH (hQ286 _ _ ?_); clear hQ286 hQ286Q
      refine ibn ?_
      refine thn ?_
      refine rgH ?_; intro hQ292Q hQ292
      refine s1 hF288 68 (.int .i64 (w64 (x32 + 1))) ?_; intro a293 hF294; clear hF288
      refine s1 hF294 32 (.int .i64 (w64 (x32 + 1))) ?_; intro a295 hF296; clear hF294
      refine nlH (hQ292 _ _ ?_); clear hQ292 hQ292Q
      refine rd ?_
      exact ⟨⟨w64 (x32 + 1), ((pgetS yb10 q122).1), ao150, cap151, Z159⟩, ⟨hp285.1, hs152, hleL88⟩, hp285.2, (hF296.region (by kernel_rfl) (by kernel_rfl)).anyβ _ (by kernel_rfl), hM291.keep (List.Sublist.cons _ (List.Sublist.cons _ (List.Sublist.cons _ (List.Sublist.cons_cons _ (List.Sublist.slnil)))))⟩
  · -- no
   have hp297 := hp105.2 hb112; clear hp105
   refine wp_exit ?_
   refine thx ?_
   refine thx ?_
   refine ibx ?_
   refine thn ?_
   refine sqH ?_; intro hQ298Q hQ298
   refine s1 hF111 4 (.bool false) ?_; intro a299 hF300; clear hF111
   refine nlH (hQ298 _ _ ?_); clear hQ298 hQ298Q
   refine wp_ret ?_
   refine rt (fn := Try.f12) (v := .bool false) hF300 (re1 hF300 (fn := Try.f12) rfl (by kernel_rfl)) ?_
   exact ⟨false, rfl, hp297, hM104.below⟩

end Go.Proofs.Ytkogkombalcgeaa
