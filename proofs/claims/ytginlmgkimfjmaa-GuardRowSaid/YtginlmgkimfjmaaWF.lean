/- The walks, made by program: each call does what its pure predicate says. -/
import Derived.Test.YtginlmgkimfjmaaPF
import Derived.Test.YtginlmgkimfjmaaWE
set_option linter.unusedVariables false
set_option linter.unusedSimpArgs false
namespace Go.Proofs.Ytginlmgkimfjmaa
open Go.Sy Go.RowKit
theorem guarded_fun   (Z : Fz) (w : World)  (hZ : Z.on w) : Calls Try.prog 13 #[] w fun e w' => e = .returned (.bool true) ∧ Below w.heap.size w w' :=
  (guarded_walk   Z w  hZ (guarded_ok )).mono fun _ _ ⟨r, he, hk, hb⟩ => ⟨by subst hk; exact he, hb⟩

set_option maxRecDepth 100000 in
set_option maxHeartbeats 0 in
theorem LGRow_walk (u0 : Int) (u1 : List Int) (u2 : Int) (u3 : Int) (ao1 : Option Addr) (cap2 : Nat) (Z : Fz) (w : World) (hs3 : SlR (tyInt .u8) Z ao1 cap2 u1) (hZ : Z.on w) {K : Bool → Prop} (hp : LGRow_vc u0 u1 u2 u3 K) : Calls Try.prog 3 #[.int .i64 u0, .slice ao1 u1.length cap2, .int .i64 u2, .int .i64 u3] w fun e w' => ∃ r : Bool, e = .returned (.bool r) ∧ K r ∧ Below w.heap.size w w' := by
 refine enter0 Try.func3 rfl rfl (by kernel_rfl) ?_; intro a0 hF0; have hM0 := Mem.start w Z hZ; have hle0 := Fz.le.refl Z
 have hp4 := hp (hs3.small); clear hp
 refine sqH ?_; intro hQ5Q hQ5
 refine s1 hF0 8 (.bool false) ?_; intro a6 hF7; clear hF0
 refine nlH (hQ5 _ _ ?_); clear hQ5 hQ5Q
 refine sqH ?_; intro hQ8Q hQ8
 refine s1 hF7 18 (.int .i64 u0) ?_; intro a9 hF10; clear hF7
 refine s1 hF10 19 (.agg #[.int .i64 u0, .int .i64 (-1), .int .i64 0, .int .i64 0]) ?_; intro a11 hF12; clear hF10
 refine sn hF12 hM0 (fun b => .pointer (some ⟨b, 0, none⟩)) [.int .i64 0, .int .i64 0, .int .i64 0, .int .i64 0] 24 (nog rfl _) rfl (by kernel_rfl) (by kernel_rfl) ?_; intro b13 a14 wd16 hF15 hM17; clear hF12 hM0
 refine sr hF15 hM17 0 [.int .i64 u0, .int .i64 (-1), .int .i64 0, .int .i64 0] (b := b13) (off := 0) (cs := [.int .i64 0, .int .i64 0, .int .i64 0, .int .i64 0]) (ty := 24) (u := .agg #[.int .i64 u0, .int .i64 (-1), .int .i64 0, .int .i64 0]) (nog rfl _) rfl rfl (by kernel_rfl) (by kernel_rfl) (by kernel_rfl) (by kernel_rfl) (by kernel_rfl) (by kernel_rfl) (by kernel_rfl) ?_; intro wd18 hM19; clear hM17
 have hM20 : Mem w.heap.size [] w Z [.row b13 [.int .i64 u0, .int .i64 (-1), .int .i64 0, .int .i64 0] 24] Z wd18 := hM19; clear hM19
 refine nlH (hQ8 _ _ ?_); clear hQ8 hQ8Q
 refine wp_seq ?_
 refine sqH ?_; intro hQ21Q hQ21
 refine s1 hF15 20 (.int .i64 u2) ?_; intro a22 hF23; clear hF15
 refine s1 hF23 21 (.bool (decide (u2 < 0))) ?_; intro a24 hF25; clear hF23
 refine s1 hF25 22 (.bool (decide (u2 < 0))) ?_; intro a26 hF27; clear hF25
 have hF28 := hF27.atom ((decide (u2 < 0)) == false) (by kernel_rfl); clear hF27
 refine gp hF28 23 0 [] (decide (u2 < 0)) (.int .i64 u2) rfl rfl ?_; intro a29 hF30; clear hF28
 refine gp hF30 24 0 [] (decide (u2 < 0)) (.bool (decide (u2 > 40))) rfl rfl ?_; intro a31 hF32; clear hF30
 refine st hF32 (.bool ((decide (u2 < 0)) || (decide (u2 > 40)))) (nog rfl _) rfl (by kernel_rfl) (pk_or hF32 (g := []) (m := 0) (b := decide (u2 < 0)) (v := decide (u2 > 40)) rfl (by kernel_rfl) (by kernel_rfl) (by kernel_rfl) rfl) ?_; intro a33 hF34; clear hF32
 refine nlH (hQ21 _ _ ?_); clear hQ21 hQ21Q
 refine cd hF34 (t := (decide (u2 < 0)) || (decide (u2 > 40))) (by kernel_rfl) (fun hb35 => ?_) (fun hb35 => ?_)
 · -- yes
  have hp36 := hp4.1 hb35; clear hp4
  have hF37 : Fr 114 [] [⟨0, [], .int .i64 u0⟩, ⟨1, [], .slice ao1 u1.length cap2⟩, ⟨3, [], .int .i64 u3⟩, ⟨9, [], .pointer (some ⟨b13, 0, none⟩)⟩] a33 := hF34.region (by kernel_rfl) (by kernel_rfl); clear hF34
  refine rgH ?_; intro hQ38Q hQ38
  refine s1 hF37 2 (.int .i64 20) ?_; intro a39 hF40; clear hF37
  refine nlH (hQ38 _ _ ?_); clear hQ38 hQ38Q
  refine thn ?_
  refine wp_seq ?_
  refine sqH ?_; intro hQ41Q hQ41
  refine s1 hF40 26 (.int .i64 20) ?_; intro a42 hF43; clear hF40
  refine s1 hF43 27 (.int .i64 0) ?_; intro a44 hF45; clear hF43
  refine nlH (hQ41 _ _ ?_); clear hQ41 hQ41Q
  refine wp_block ?_
  have hF46 : Fr 114 [] [⟨0, [], .int .i64 u0⟩, ⟨1, [], .slice ao1 u1.length cap2⟩, ⟨3, [], .int .i64 u3⟩, ⟨9, [], .pointer (some ⟨b13, 0, none⟩)⟩, ⟨26, [], .int .i64 20⟩, ⟨27, [], .int .i64 0⟩] a44 := hF45.region (by kernel_rfl) (by kernel_rfl); clear hF45
  have hF48 : Fr 114 [] [⟨0, [], .int .i64 u0⟩, ⟨1, [], .slice ao1 u1.length cap2⟩, ⟨3, [], .int .i64 u3⟩, ⟨9, [], .pointer (some ⟨b13, 0, none⟩)⟩, ⟨26, [], .int .i64 20⟩, ⟨27, [], .int .i64 0⟩] a44 := hF46.region (by kernel_rfl) (by kernel_rfl); clear hF46
  obtain ⟨inv47, mu47, hI51, hr50⟩ := hp36
  have hle52 := hle0
  refine lp (ι := Int × Guard × Fz) (fun (s : Int × Guard × Fz) => [⟨0, [], .int .i64 u0⟩, ⟨1, [], .slice ao1 u1.length cap2⟩, ⟨3, [], .int .i64 u3⟩, ⟨9, [], .pointer (some ⟨b13, 0, none⟩)⟩, ⟨26, [], .int .i64 20⟩, ⟨27, [], .int .i64 s.1⟩]) (fun (s : Int × Guard × Fz) => [.row b13 [.int .i64 s.2.1.Key, .int .i64 s.2.1.Last, .int .i64 s.2.1.Bad, .int .i64 s.2.1.State] 24]) (fun (s : Int × Guard × Fz) => s.2.2) (fun (s : Int × Guard × Fz) => inv47 s.1 s.2.1 ∧ Fz.le Z s.2.2) (fun (s : Int × Guard × Fz) => mu47 s.1 s.2.1) ⟨0, (⟨u0, -1, 0, 0⟩ : Guard), Z⟩ ⟨hI51, Fz.le.refl _⟩ (by exact hF48.region (by kernel_rfl) (by kernel_rfl)) (by exact hM20) ?_
  rintro ⟨x27, yb13, ZL47⟩ ⟨hI49, hleL47⟩ a53 wd54 hF55 hM56
  have hF57 : Fr 114 [] [⟨0, [], .int .i64 u0⟩, ⟨1, [], .slice ao1 u1.length cap2⟩, ⟨3, [], .int .i64 u3⟩, ⟨9, [], .pointer (some ⟨b13, 0, none⟩)⟩, ⟨26, [], .int .i64 20⟩, ⟨27, [], .int .i64 x27⟩] a53 := hF55; clear hF55 hF48
  have hM58 : Mem w.heap.size [] w Z [.row b13 [.int .i64 yb13.Key, .int .i64 yb13.Last, .int .i64 yb13.Bad, .int .i64 yb13.State] 24] ZL47 wd54 := hM56; clear hM56 hM20
  have hp59 := hr50 x27 yb13 hI49
  replace hle0 := Fz.le.trans hle0 hleL47
  have hs60 := hs3.mono hleL47
  refine sqH ?_; intro hQ61Q hQ61
  refine s1 hF57 28 (.bool (decide (x27 < 20))) ?_; intro a62 hF63; clear hF57
  refine nlH (hQ61 _ _ ?_); clear hQ61 hQ61Q
  refine wp_seq ?_
  refine cd hF63 (t := decide (x27 < 20)) (by kernel_rfl) (fun hb64 => ?_) (fun hb64 => ?_)
  · -- yes
   have hp65 := hp59.1 hb64; clear hp59
   refine wp_skip ?_
   refine thn ?_
   refine wp_seq ?_
   refine wp_block ?_
   refine sqH ?_; intro hQ66Q hQ66
   refine s1 hF63 29 (.int .i64 x27) ?_; intro a67 hF68; clear hF63
   refine s1 hF68 10 (.int .i64 x27) ?_; intro a69 hF70; clear hF68
   refine nlH (hQ66 _ _ ?_); clear hQ66 hQ66Q
   refine sqH ?_; intro hQ71Q hQ71
   refine s1 hF70 31 (.int .i64 u0) ?_; intro a72 hF73; clear hF70
   refine s1 hF73 32 (.int .i64 x27) ?_; intro a74 hF75; clear hF73
   refine s1 hF75 33 (.int .i64 (x27.tmod 15)) ?_; intro a76 hF77; clear hF75
   refine s1 hF77 34 (.slice ao1 u1.length cap2) ?_; intro a78 hF79; clear hF77
   have hc80 := hp65.1; have hp81 := hp65.2; clear hp65
   refine cl hF79 12 #[.int .i64 u0, .int .i64 (x27.tmod 15), .slice ao1 u1.length cap2] (nog rfl _) rfl (by kernel_rfl) (by kernel_rfl) ?_
   refine (gput_fun u0 (x27.tmod 15) u1 hc80 ao1 cap2 _ _ hs60 hM58.fz).mono ?_; rintro _ wd82 ⟨ao86, cap87, Z88, rfl, hm⟩; refine ⟨_, rfl, ?_⟩; intro a83 hF84; have hM85 := hM58.callZ hm; have hle89 := hm.ext.le; clear hm hM58 hF79
   replace hs60 := hs60.mono hle89
   replace hleL47 := hleL47.mono hle89
   replace hle0 := Fz.le.trans hle0 hle89
   have hM90 : Mem w.heap.size [] w Z [.own (tyInt .u8) 5 ao86 cap87 ((gputS u0 (x27.tmod 15) u1).1), .row b13 [.int .i64 yb13.Key, .int .i64 yb13.Last, .int .i64 yb13.Bad, .int .i64 yb13.State] 24] Z88 wd82 := hM85; clear hM85
   have hp91 := hp81 (hM90.ownSmall 0 rfl); clear hp81
   refine s1 hF84 30 (.tuple #[.slice ao86 ((gputS u0 (x27.tmod 15) u1).1).length cap87, .int .i64 ((gputS u0 (x27.tmod 15) u1).2)]) ?_; intro a92 hF93; clear hF84
   refine s1 hF93 36 (.slice ao86 ((gputS u0 (x27.tmod 15) u1).1).length cap87) ?_; intro a94 hF95; clear hF93
   refine s1 hF95 37 (.int .i64 ((gputS u0 (x27.tmod 15) u1).2)) ?_; intro a96 hF97; clear hF95
   refine s1 hF97 11 (.slice ao86 ((gputS u0 (x27.tmod 15) u1).1).length cap87) ?_; intro a98 hF99; clear hF97
   refine s1 hF99 12 (.int .i64 ((gputS u0 (x27.tmod 15) u1).2)) ?_; intro a100 hF101; clear hF99
   refine nlH (hQ71 _ _ ?_); clear hQ71 hQ71Q
   refine wp_seq ?_
   refine sqH ?_; intro hQ102Q hQ102
   refine s1 hF101 38 (.int .i64 ((gputS u0 (x27.tmod 15) u1).2)) ?_; intro a103 hF104; clear hF101
   refine s1 hF104 39 (.bool (((gputS u0 (x27.tmod 15) u1).2) != 0)) ?_; intro a105 hF106; clear hF104
   refine nlH (hQ102 _ _ ?_); clear hQ102 hQ102Q
   refine cd hF106 (t := ((gputS u0 (x27.tmod 15) u1).2) != 0) (by kernel_rfl) (fun hb107 => ?_) (fun hb107 => ?_)
   · -- yes
    have hp108 := hp91.1 hb107; clear hp91
    have hF109 : Fr 114 [] [] a105 := hF106.region (by kernel_rfl) (by kernel_rfl); clear hF106
    refine sqH ?_; intro hQ110Q hQ110
    refine fcl hF109 hM90 (.bool true) 13 #[] (nog rfl _) rfl (by kernel_rfl) (fun _ => by kernel_rfl) (guarded_fun  _ _ hM90.fz) ?_; intro a111 wd113 hF112 hM114; clear hF109 hM90
    refine s1 hF112 8 (.bool true) ?_; intro a115 hF116; clear hF112
    refine nlH (hQ110 _ _ ?_); clear hQ110 hQ110Q
    refine wp_ret ?_
    refine thr ?_
    refine ibr ?_
    refine thr ?_
    refine thr ?_
    refine ibr ?_
    refine thr ?_
    refine rt (fn := Try.f3) (v := .bool true) hF116 (re1 hF116 (fn := Try.f3) rfl (by kernel_rfl)) ?_
    exact ⟨true, rfl, hp108, hM114.below⟩
   · -- no
    have hp117 := hp91.2 hb107; clear hp91
    refine wp_skip ?_
    refine thn ?_
    have hF118 : Fr 114 [] [⟨0, [], .int .i64 u0⟩, ⟨1, [], .slice ao1 u1.length cap2⟩, ⟨3, [], .int .i64 u3⟩, ⟨9, [], .pointer (some ⟨b13, 0, none⟩)⟩, ⟨11, [], .slice ao86 ((gputS u0 (x27.tmod 15) u1).1).length cap87⟩, ⟨26, [], .int .i64 20⟩, ⟨27, [], .int .i64 x27⟩] a105 := hF106.region (by kernel_rfl) (by kernel_rfl); clear hF106
    refine sqH ?_; intro hQ119Q hQ119
    refine l2 hF118 hM90 42 1 0 4 [.int .i64 yb13.Key, .int .i64 yb13.Last, .int .i64 yb13.Bad, .int .i64 yb13.State] rfl rfl ?_; intro a120 hF121; clear hF118
    refine s1 hF121 43 (.slice ao86 ((gputS u0 (x27.tmod 15) u1).1).length cap87) ?_; intro a122 hF123; clear hF121
    have hc125 := hp117.1; have hp126 := hp117.2; clear hp117
    refine fcl hF123 hM90 (.tuple #[.agg #[.int .i64 (((gseeS yb13 ((gputS u0 (x27.tmod 15) u1).1) 1).1).Key), .int .i64 (((gseeS yb13 ((gputS u0 (x27.tmod 15) u1).1) 1).1).Last), .int .i64 (((gseeS yb13 ((gputS u0 (x27.tmod 15) u1).1) 1).1).Bad), .int .i64 (((gseeS yb13 ((gputS u0 (x27.tmod 15) u1).1) 1).1).State)], .int .i64 ((gseeS yb13 ((gputS u0 (x27.tmod 15) u1).1) 1).2)]) 14 #[.agg #[.int .i64 yb13.Key, .int .i64 yb13.Last, .int .i64 yb13.Bad, .int .i64 yb13.State], .slice ao86 ((gputS u0 (x27.tmod 15) u1).1).length cap87, .int .i64 1] (nog rfl _) rfl (by kernel_rfl) (fun _ => by kernel_rfl) ((by obtain ⟨Z9, hle9, hon9, hs124⟩ := hM90.lend 0 rfl; exact gsee_fun yb13 ((gputS u0 (x27.tmod 15) u1).1) 1 hc125 ao86 cap87 _ _ hs124 hon9)) ?_; intro a127 wd129 hF128 hM130; clear hF123 hM90
    refine s1 hF128 41 (.tuple #[.agg #[.int .i64 (((gseeS yb13 ((gputS u0 (x27.tmod 15) u1).1) 1).1).Key), .int .i64 (((gseeS yb13 ((gputS u0 (x27.tmod 15) u1).1) 1).1).Last), .int .i64 (((gseeS yb13 ((gputS u0 (x27.tmod 15) u1).1) 1).1).Bad), .int .i64 (((gseeS yb13 ((gputS u0 (x27.tmod 15) u1).1) 1).1).State)], .int .i64 ((gseeS yb13 ((gputS u0 (x27.tmod 15) u1).1) 1).2)]) ?_; intro a131 hF132; clear hF128
    refine s1 hF132 45 (.agg #[.int .i64 (((gseeS yb13 ((gputS u0 (x27.tmod 15) u1).1) 1).1).Key), .int .i64 (((gseeS yb13 ((gputS u0 (x27.tmod 15) u1).1) 1).1).Last), .int .i64 (((gseeS yb13 ((gputS u0 (x27.tmod 15) u1).1) 1).1).Bad), .int .i64 (((gseeS yb13 ((gputS u0 (x27.tmod 15) u1).1) 1).1).State)]) ?_; intro a133 hF134; clear hF132
    refine s1 hF134 46 (.int .i64 ((gseeS yb13 ((gputS u0 (x27.tmod 15) u1).1) 1).2)) ?_; intro a135 hF136; clear hF134
    refine sn hF136 hM130 (fun b => .pointer (some ⟨b, 0, none⟩)) [.int .i64 0, .int .i64 0, .int .i64 0, .int .i64 0] 24 (nog rfl _) rfl (by kernel_rfl) (by kernel_rfl) ?_; intro b137 a138 wd140 hF139 hM141; clear hF136 hM130
    refine sr hF139 hM141 0 [.int .i64 (((gseeS yb13 ((gputS u0 (x27.tmod 15) u1).1) 1).1).Key), .int .i64 (((gseeS yb13 ((gputS u0 (x27.tmod 15) u1).1) 1).1).Last), .int .i64 (((gseeS yb13 ((gputS u0 (x27.tmod 15) u1).1) 1).1).Bad), .int .i64 (((gseeS yb13 ((gputS u0 (x27.tmod 15) u1).1) 1).1).State)] (b := b137) (off := 0) (cs := [.int .i64 0, .int .i64 0, .int .i64 0, .int .i64 0]) (ty := 24) (u := .agg #[.int .i64 (((gseeS yb13 ((gputS u0 (x27.tmod 15) u1).1) 1).1).Key), .int .i64 (((gseeS yb13 ((gputS u0 (x27.tmod 15) u1).1) 1).1).Last), .int .i64 (((gseeS yb13 ((gputS u0 (x27.tmod 15) u1).1) 1).1).Bad), .int .i64 (((gseeS yb13 ((gputS u0 (x27.tmod 15) u1).1) 1).1).State)]) (nog rfl _) rfl rfl (by kernel_rfl) (by kernel_rfl) (by kernel_rfl) (by kernel_rfl) (by kernel_rfl) (by kernel_rfl) (by kernel_rfl) ?_; intro wd142 hM143; clear hM141
    refine s1 hF139 12 (.int .i64 ((gseeS yb13 ((gputS u0 (x27.tmod 15) u1).1) 1).2)) ?_; intro a144 hF145; clear hF139
    have hM146 : Mem w.heap.size [] w Z [.row b137 [.int .i64 (((gseeS yb13 ((gputS u0 (x27.tmod 15) u1).1) 1).1).Key), .int .i64 (((gseeS yb13 ((gputS u0 (x27.tmod 15) u1).1) 1).1).Last), .int .i64 (((gseeS yb13 ((gputS u0 (x27.tmod 15) u1).1) 1).1).Bad), .int .i64 (((gseeS yb13 ((gputS u0 (x27.tmod 15) u1).1) 1).1).State)] 24, .own (tyInt .u8) 5 ao86 cap87 ((gputS u0 (x27.tmod 15) u1).1), .row b13 [.int .i64 yb13.Key, .int .i64 yb13.Last, .int .i64 yb13.Bad, .int .i64 yb13.State] 24] Z88 wd142 := hM143; clear hM143
    refine nlH (hQ119 _ _ ?_); clear hQ119 hQ119Q
    refine sqH ?_; intro hQ147Q hQ147
    refine l2 hF145 hM146 48 0 0 4 [.int .i64 (((gseeS yb13 ((gputS u0 (x27.tmod 15) u1).1) 1).1).Key), .int .i64 (((gseeS yb13 ((gputS u0 (x27.tmod 15) u1).1) 1).1).Last), .int .i64 (((gseeS yb13 ((gputS u0 (x27.tmod 15) u1).1) 1).1).Bad), .int .i64 (((gseeS yb13 ((gputS u0 (x27.tmod 15) u1).1) 1).1).State)] rfl rfl ?_; intro a148 hF149; clear hF145
    refine s1 hF149 49 (.slice ao86 ((gputS u0 (x27.tmod 15) u1).1).length cap87) ?_; intro a150 hF151; clear hF149
    have hc153 := hp126.1; have hp154 := hp126.2; clear hp126
    refine fcl hF151 hM146 (.tuple #[.agg #[.int .i64 (((gseeS ((gseeS yb13 ((gputS u0 (x27.tmod 15) u1).1) 1).1) ((gputS u0 (x27.tmod 15) u1).1) 1).1).Key), .int .i64 (((gseeS ((gseeS yb13 ((gputS u0 (x27.tmod 15) u1).1) 1).1) ((gputS u0 (x27.tmod 15) u1).1) 1).1).Last), .int .i64 (((gseeS ((gseeS yb13 ((gputS u0 (x27.tmod 15) u1).1) 1).1) ((gputS u0 (x27.tmod 15) u1).1) 1).1).Bad), .int .i64 (((gseeS ((gseeS yb13 ((gputS u0 (x27.tmod 15) u1).1) 1).1) ((gputS u0 (x27.tmod 15) u1).1) 1).1).State)], .int .i64 ((gseeS ((gseeS yb13 ((gputS u0 (x27.tmod 15) u1).1) 1).1) ((gputS u0 (x27.tmod 15) u1).1) 1).2)]) 14 #[.agg #[.int .i64 (((gseeS yb13 ((gputS u0 (x27.tmod 15) u1).1) 1).1).Key), .int .i64 (((gseeS yb13 ((gputS u0 (x27.tmod 15) u1).1) 1).1).Last), .int .i64 (((gseeS yb13 ((gputS u0 (x27.tmod 15) u1).1) 1).1).Bad), .int .i64 (((gseeS yb13 ((gputS u0 (x27.tmod 15) u1).1) 1).1).State)], .slice ao86 ((gputS u0 (x27.tmod 15) u1).1).length cap87, .int .i64 1] (nog rfl _) rfl (by kernel_rfl) (fun _ => by kernel_rfl) ((by obtain ⟨Z9, hle9, hon9, hs152⟩ := hM146.lend 1 rfl; exact gsee_fun ((gseeS yb13 ((gputS u0 (x27.tmod 15) u1).1) 1).1) ((gputS u0 (x27.tmod 15) u1).1) 1 hc153 ao86 cap87 _ _ hs152 hon9)) ?_; intro a155 wd157 hF156 hM158; clear hF151 hM146
    refine s1 hF156 47 (.tuple #[.agg #[.int .i64 (((gseeS ((gseeS yb13 ((gputS u0 (x27.tmod 15) u1).1) 1).1) ((gputS u0 (x27.tmod 15) u1).1) 1).1).Key), .int .i64 (((gseeS ((gseeS yb13 ((gputS u0 (x27.tmod 15) u1).1) 1).1) ((gputS u0 (x27.tmod 15) u1).1) 1).1).Last), .int .i64 (((gseeS ((gseeS yb13 ((gputS u0 (x27.tmod 15) u1).1) 1).1) ((gputS u0 (x27.tmod 15) u1).1) 1).1).Bad), .int .i64 (((gseeS ((gseeS yb13 ((gputS u0 (x27.tmod 15) u1).1) 1).1) ((gputS u0 (x27.tmod 15) u1).1) 1).1).State)], .int .i64 ((gseeS ((gseeS yb13 ((gputS u0 (x27.tmod 15) u1).1) 1).1) ((gputS u0 (x27.tmod 15) u1).1) 1).2)]) ?_; intro a159 hF160; clear hF156
    refine s1 hF160 51 (.agg #[.int .i64 (((gseeS ((gseeS yb13 ((gputS u0 (x27.tmod 15) u1).1) 1).1) ((gputS u0 (x27.tmod 15) u1).1) 1).1).Key), .int .i64 (((gseeS ((gseeS yb13 ((gputS u0 (x27.tmod 15) u1).1) 1).1) ((gputS u0 (x27.tmod 15) u1).1) 1).1).Last), .int .i64 (((gseeS ((gseeS yb13 ((gputS u0 (x27.tmod 15) u1).1) 1).1) ((gputS u0 (x27.tmod 15) u1).1) 1).1).Bad), .int .i64 (((gseeS ((gseeS yb13 ((gputS u0 (x27.tmod 15) u1).1) 1).1) ((gputS u0 (x27.tmod 15) u1).1) 1).1).State)]) ?_; intro a161 hF162; clear hF160
    refine s1 hF162 52 (.int .i64 ((gseeS ((gseeS yb13 ((gputS u0 (x27.tmod 15) u1).1) 1).1) ((gputS u0 (x27.tmod 15) u1).1) 1).2)) ?_; intro a163 hF164; clear hF162
    refine sn hF164 hM158 (fun b => .pointer (some ⟨b, 0, none⟩)) [.int .i64 0, .int .i64 0, .int .i64 0, .int .i64 0] 24 (nog rfl _) rfl (by kernel_rfl) (by kernel_rfl) ?_; intro b165 a166 wd168 hF167 hM169; clear hF164 hM158
    refine sr hF167 hM169 0 [.int .i64 (((gseeS ((gseeS yb13 ((gputS u0 (x27.tmod 15) u1).1) 1).1) ((gputS u0 (x27.tmod 15) u1).1) 1).1).Key), .int .i64 (((gseeS ((gseeS yb13 ((gputS u0 (x27.tmod 15) u1).1) 1).1) ((gputS u0 (x27.tmod 15) u1).1) 1).1).Last), .int .i64 (((gseeS ((gseeS yb13 ((gputS u0 (x27.tmod 15) u1).1) 1).1) ((gputS u0 (x27.tmod 15) u1).1) 1).1).Bad), .int .i64 (((gseeS ((gseeS yb13 ((gputS u0 (x27.tmod 15) u1).1) 1).1) ((gputS u0 (x27.tmod 15) u1).1) 1).1).State)] (b := b165) (off := 0) (cs := [.int .i64 0, .int .i64 0, .int .i64 0, .int .i64 0]) (ty := 24) (u := .agg #[.int .i64 (((gseeS ((gseeS yb13 ((gputS u0 (x27.tmod 15) u1).1) 1).1) ((gputS u0 (x27.tmod 15) u1).1) 1).1).Key), .int .i64 (((gseeS ((gseeS yb13 ((gputS u0 (x27.tmod 15) u1).1) 1).1) ((gputS u0 (x27.tmod 15) u1).1) 1).1).Last), .int .i64 (((gseeS ((gseeS yb13 ((gputS u0 (x27.tmod 15) u1).1) 1).1) ((gputS u0 (x27.tmod 15) u1).1) 1).1).Bad), .int .i64 (((gseeS ((gseeS yb13 ((gputS u0 (x27.tmod 15) u1).1) 1).1) ((gputS u0 (x27.tmod 15) u1).1) 1).1).State)]) (nog rfl _) rfl rfl (by kernel_rfl) (by kernel_rfl) (by kernel_rfl) (by kernel_rfl) (by kernel_rfl) (by kernel_rfl) (by kernel_rfl) ?_; intro wd170 hM171; clear hM169
    refine s1 hF167 15 (.int .i64 ((gseeS ((gseeS yb13 ((gputS u0 (x27.tmod 15) u1).1) 1).1) ((gputS u0 (x27.tmod 15) u1).1) 1).2)) ?_; intro a172 hF173; clear hF167
    have hM174 : Mem w.heap.size [] w Z [.row b165 [.int .i64 (((gseeS ((gseeS yb13 ((gputS u0 (x27.tmod 15) u1).1) 1).1) ((gputS u0 (x27.tmod 15) u1).1) 1).1).Key), .int .i64 (((gseeS ((gseeS yb13 ((gputS u0 (x27.tmod 15) u1).1) 1).1) ((gputS u0 (x27.tmod 15) u1).1) 1).1).Last), .int .i64 (((gseeS ((gseeS yb13 ((gputS u0 (x27.tmod 15) u1).1) 1).1) ((gputS u0 (x27.tmod 15) u1).1) 1).1).Bad), .int .i64 (((gseeS ((gseeS yb13 ((gputS u0 (x27.tmod 15) u1).1) 1).1) ((gputS u0 (x27.tmod 15) u1).1) 1).1).State)] 24, .row b137 [.int .i64 (((gseeS yb13 ((gputS u0 (x27.tmod 15) u1).1) 1).1).Key), .int .i64 (((gseeS yb13 ((gputS u0 (x27.tmod 15) u1).1) 1).1).Last), .int .i64 (((gseeS yb13 ((gputS u0 (x27.tmod 15) u1).1) 1).1).Bad), .int .i64 (((gseeS yb13 ((gputS u0 (x27.tmod 15) u1).1) 1).1).State)] 24, .own (tyInt .u8) 5 ao86 cap87 ((gputS u0 (x27.tmod 15) u1).1), .row b13 [.int .i64 yb13.Key, .int .i64 yb13.Last, .int .i64 yb13.Bad, .int .i64 yb13.State] 24] Z88 wd170 := hM171; clear hM171
    refine nlH (hQ147 _ _ ?_); clear hQ147 hQ147Q
    refine wp_seq ?_
    have hF175 : Fr 114 [] [⟨0, [], .int .i64 u0⟩, ⟨1, [], .slice ao1 u1.length cap2⟩, ⟨3, [], .int .i64 u3⟩, ⟨9, [], .pointer (some ⟨b13, 0, none⟩)⟩, ⟨11, [], .slice ao86 ((gputS u0 (x27.tmod 15) u1).1).length cap87⟩, ⟨12, [], .int .i64 ((gseeS yb13 ((gputS u0 (x27.tmod 15) u1).1) 1).2)⟩, ⟨13, [], .pointer (some ⟨b137, 0, none⟩)⟩, ⟨14, [], .pointer (some ⟨b165, 0, none⟩)⟩, ⟨15, [], .int .i64 ((gseeS ((gseeS yb13 ((gputS u0 (x27.tmod 15) u1).1) 1).1) ((gputS u0 (x27.tmod 15) u1).1) 1).2)⟩, ⟨26, [], .int .i64 20⟩, ⟨27, [], .int .i64 x27⟩] a172 := hF173.region (by kernel_rfl) (by kernel_rfl); clear hF173
    refine sqH ?_; intro hQ176Q hQ176
    refine s1 hF175 53 (.int .i64 ((gseeS yb13 ((gputS u0 (x27.tmod 15) u1).1) 1).2)) ?_; intro a177 hF178; clear hF175
    refine s1 hF178 54 (.bool (((gseeS yb13 ((gputS u0 (x27.tmod 15) u1).1) 1).2) != 0)) ?_; intro a179 hF180; clear hF178
    refine s1 hF180 55 (.bool (((gseeS yb13 ((gputS u0 (x27.tmod 15) u1).1) 1).2) != 0)) ?_; intro a181 hF182; clear hF180
    have hF183 := hF182.atom ((((gseeS yb13 ((gputS u0 (x27.tmod 15) u1).1) 1).2) != 0) == false) (by kernel_rfl); clear hF182
    refine gp hF183 56 0 [] (((gseeS yb13 ((gputS u0 (x27.tmod 15) u1).1) 1).2) != 0) (.int .i64 ((gseeS ((gseeS yb13 ((gputS u0 (x27.tmod 15) u1).1) 1).1) ((gputS u0 (x27.tmod 15) u1).1) 1).2)) rfl rfl ?_; intro a184 hF185; clear hF183
    refine gp hF185 57 0 [] (((gseeS yb13 ((gputS u0 (x27.tmod 15) u1).1) 1).2) != 0) (.bool (((gseeS ((gseeS yb13 ((gputS u0 (x27.tmod 15) u1).1) 1).1) ((gputS u0 (x27.tmod 15) u1).1) 1).2) != 0)) rfl rfl ?_; intro a186 hF187; clear hF185
    refine st hF187 (.bool ((((gseeS yb13 ((gputS u0 (x27.tmod 15) u1).1) 1).2) != 0) || (((gseeS ((gseeS yb13 ((gputS u0 (x27.tmod 15) u1).1) 1).1) ((gputS u0 (x27.tmod 15) u1).1) 1).2) != 0))) (nog rfl _) rfl (by kernel_rfl) (pk_or hF187 (g := []) (m := 0) (b := ((gseeS yb13 ((gputS u0 (x27.tmod 15) u1).1) 1).2) != 0) (v := ((gseeS ((gseeS yb13 ((gputS u0 (x27.tmod 15) u1).1) 1).1) ((gputS u0 (x27.tmod 15) u1).1) 1).2) != 0) rfl (by kernel_rfl) (by kernel_rfl) (by kernel_rfl) rfl) ?_; intro a188 hF189; clear hF187
    refine s1 hF189 59 (.bool ((((gseeS yb13 ((gputS u0 (x27.tmod 15) u1).1) 1).2) != 0) || (((gseeS ((gseeS yb13 ((gputS u0 (x27.tmod 15) u1).1) 1).1) ((gputS u0 (x27.tmod 15) u1).1) 1).2) != 0))) ?_; intro a190 hF191; clear hF189
    have hF192 := hF191.atom (((((gseeS yb13 ((gputS u0 (x27.tmod 15) u1).1) 1).2) != 0) || (((gseeS ((gseeS yb13 ((gputS u0 (x27.tmod 15) u1).1) 1).1) ((gputS u0 (x27.tmod 15) u1).1) 1).2) != 0)) == false) (by kernel_rfl); clear hF191
    refine gp hF192 60 1 [] ((((gseeS yb13 ((gputS u0 (x27.tmod 15) u1).1) 1).2) != 0) || (((gseeS ((gseeS yb13 ((gputS u0 (x27.tmod 15) u1).1) 1).1) ((gputS u0 (x27.tmod 15) u1).1) 1).2) != 0)) (.pointer (some ⟨b137, 3, none⟩)) rfl rfl ?_; intro a193 hF194; clear hF192
    refine gd hF194 (.int .i64 (((gseeS yb13 ((gputS u0 (x27.tmod 15) u1).1) 1).1).State)) (m := 1) (cj := []) (bj := (((gseeS yb13 ((gputS u0 (x27.tmod 15) u1).1) 1).2) != 0) || (((gseeS ((gseeS yb13 ((gputS u0 (x27.tmod 15) u1).1) 1).1) ((gputS u0 (x27.tmod 15) u1).1) 1).2) != 0)) rfl rfl (by kernel_rfl) rfl (by kernel_rfl) (by kernel_rfl) (by kernel_rfl) (fun hg => ld hF194 hM174 1 (g := [1]) (b := b137) (off := 3) (cs := [.int .i64 (((gseeS yb13 ((gputS u0 (x27.tmod 15) u1).1) 1).1).Key), .int .i64 (((gseeS yb13 ((gputS u0 (x27.tmod 15) u1).1) 1).1).Last), .int .i64 (((gseeS yb13 ((gputS u0 (x27.tmod 15) u1).1) 1).1).Bad), .int .i64 (((gseeS yb13 ((gputS u0 (x27.tmod 15) u1).1) 1).1).State)]) (ty := 24) rfl (by kernel_rfl) (by kernel_rfl) (by kernel_rfl) (by kernel_rfl) hg) ?_; intro a195 hF196; clear hF194
    refine gp hF196 62 1 [] ((((gseeS yb13 ((gputS u0 (x27.tmod 15) u1).1) 1).2) != 0) || (((gseeS ((gseeS yb13 ((gputS u0 (x27.tmod 15) u1).1) 1).1) ((gputS u0 (x27.tmod 15) u1).1) 1).2) != 0)) (.bool ((((gseeS yb13 ((gputS u0 (x27.tmod 15) u1).1) 1).1).State) != 1)) rfl rfl ?_; intro a197 hF198; clear hF196
    refine st hF198 (.bool (((((gseeS yb13 ((gputS u0 (x27.tmod 15) u1).1) 1).2) != 0) || (((gseeS ((gseeS yb13 ((gputS u0 (x27.tmod 15) u1).1) 1).1) ((gputS u0 (x27.tmod 15) u1).1) 1).2) != 0)) || ((((gseeS yb13 ((gputS u0 (x27.tmod 15) u1).1) 1).1).State) != 1))) (nog rfl _) rfl (by kernel_rfl) (pk_or hF198 (g := []) (m := 1) (b := (((gseeS yb13 ((gputS u0 (x27.tmod 15) u1).1) 1).2) != 0) || (((gseeS ((gseeS yb13 ((gputS u0 (x27.tmod 15) u1).1) 1).1) ((gputS u0 (x27.tmod 15) u1).1) 1).2) != 0)) (v := (((gseeS yb13 ((gputS u0 (x27.tmod 15) u1).1) 1).1).State) != 1) rfl (by kernel_rfl) (by kernel_rfl) (by kernel_rfl) rfl) ?_; intro a199 hF200; clear hF198
    refine s1 hF200 64 (.bool (((((gseeS yb13 ((gputS u0 (x27.tmod 15) u1).1) 1).2) != 0) || (((gseeS ((gseeS yb13 ((gputS u0 (x27.tmod 15) u1).1) 1).1) ((gputS u0 (x27.tmod 15) u1).1) 1).2) != 0)) || ((((gseeS yb13 ((gputS u0 (x27.tmod 15) u1).1) 1).1).State) != 1))) ?_; intro a201 hF202; clear hF200
    have hF203 := hF202.atom ((((((gseeS yb13 ((gputS u0 (x27.tmod 15) u1).1) 1).2) != 0) || (((gseeS ((gseeS yb13 ((gputS u0 (x27.tmod 15) u1).1) 1).1) ((gputS u0 (x27.tmod 15) u1).1) 1).2) != 0)) || ((((gseeS yb13 ((gputS u0 (x27.tmod 15) u1).1) 1).1).State) != 1)) == false) (by kernel_rfl); clear hF202
    refine gp hF203 65 2 [] (((((gseeS yb13 ((gputS u0 (x27.tmod 15) u1).1) 1).2) != 0) || (((gseeS ((gseeS yb13 ((gputS u0 (x27.tmod 15) u1).1) 1).1) ((gputS u0 (x27.tmod 15) u1).1) 1).2) != 0)) || ((((gseeS yb13 ((gputS u0 (x27.tmod 15) u1).1) 1).1).State) != 1)) (.pointer (some ⟨b137, 2, none⟩)) rfl rfl ?_; intro a204 hF205; clear hF203
    refine gd hF205 (.int .i64 (((gseeS yb13 ((gputS u0 (x27.tmod 15) u1).1) 1).1).Bad)) (m := 2) (cj := []) (bj := ((((gseeS yb13 ((gputS u0 (x27.tmod 15) u1).1) 1).2) != 0) || (((gseeS ((gseeS yb13 ((gputS u0 (x27.tmod 15) u1).1) 1).1) ((gputS u0 (x27.tmod 15) u1).1) 1).2) != 0)) || ((((gseeS yb13 ((gputS u0 (x27.tmod 15) u1).1) 1).1).State) != 1)) rfl rfl (by kernel_rfl) rfl (by kernel_rfl) (by kernel_rfl) (by kernel_rfl) (fun hg => ld hF205 hM174 1 (g := [2]) (b := b137) (off := 2) (cs := [.int .i64 (((gseeS yb13 ((gputS u0 (x27.tmod 15) u1).1) 1).1).Key), .int .i64 (((gseeS yb13 ((gputS u0 (x27.tmod 15) u1).1) 1).1).Last), .int .i64 (((gseeS yb13 ((gputS u0 (x27.tmod 15) u1).1) 1).1).Bad), .int .i64 (((gseeS yb13 ((gputS u0 (x27.tmod 15) u1).1) 1).1).State)]) (ty := 24) rfl (by kernel_rfl) (by kernel_rfl) (by kernel_rfl) (by kernel_rfl) hg) ?_; intro a206 hF207; clear hF205
    refine gp hF207 67 2 [] (((((gseeS yb13 ((gputS u0 (x27.tmod 15) u1).1) 1).2) != 0) || (((gseeS ((gseeS yb13 ((gputS u0 (x27.tmod 15) u1).1) 1).1) ((gputS u0 (x27.tmod 15) u1).1) 1).2) != 0)) || ((((gseeS yb13 ((gputS u0 (x27.tmod 15) u1).1) 1).1).State) != 1)) (.bool ((((gseeS yb13 ((gputS u0 (x27.tmod 15) u1).1) 1).1).Bad) != 0)) rfl rfl ?_; intro a208 hF209; clear hF207
    refine st hF209 (.bool ((((((gseeS yb13 ((gputS u0 (x27.tmod 15) u1).1) 1).2) != 0) || (((gseeS ((gseeS yb13 ((gputS u0 (x27.tmod 15) u1).1) 1).1) ((gputS u0 (x27.tmod 15) u1).1) 1).2) != 0)) || ((((gseeS yb13 ((gputS u0 (x27.tmod 15) u1).1) 1).1).State) != 1)) || ((((gseeS yb13 ((gputS u0 (x27.tmod 15) u1).1) 1).1).Bad) != 0))) (nog rfl _) rfl (by kernel_rfl) (pk_or hF209 (g := []) (m := 2) (b := ((((gseeS yb13 ((gputS u0 (x27.tmod 15) u1).1) 1).2) != 0) || (((gseeS ((gseeS yb13 ((gputS u0 (x27.tmod 15) u1).1) 1).1) ((gputS u0 (x27.tmod 15) u1).1) 1).2) != 0)) || ((((gseeS yb13 ((gputS u0 (x27.tmod 15) u1).1) 1).1).State) != 1)) (v := (((gseeS yb13 ((gputS u0 (x27.tmod 15) u1).1) 1).1).Bad) != 0) rfl (by kernel_rfl) (by kernel_rfl) (by kernel_rfl) rfl) ?_; intro a210 hF211; clear hF209
    refine s1 hF211 69 (.bool ((((((gseeS yb13 ((gputS u0 (x27.tmod 15) u1).1) 1).2) != 0) || (((gseeS ((gseeS yb13 ((gputS u0 (x27.tmod 15) u1).1) 1).1) ((gputS u0 (x27.tmod 15) u1).1) 1).2) != 0)) || ((((gseeS yb13 ((gputS u0 (x27.tmod 15) u1).1) 1).1).State) != 1)) || ((((gseeS yb13 ((gputS u0 (x27.tmod 15) u1).1) 1).1).Bad) != 0))) ?_; intro a212 hF213; clear hF211
    have hF214 := hF213.atom (((((((gseeS yb13 ((gputS u0 (x27.tmod 15) u1).1) 1).2) != 0) || (((gseeS ((gseeS yb13 ((gputS u0 (x27.tmod 15) u1).1) 1).1) ((gputS u0 (x27.tmod 15) u1).1) 1).2) != 0)) || ((((gseeS yb13 ((gputS u0 (x27.tmod 15) u1).1) 1).1).State) != 1)) || ((((gseeS yb13 ((gputS u0 (x27.tmod 15) u1).1) 1).1).Bad) != 0)) == false) (by kernel_rfl); clear hF213
    refine gp hF214 70 3 [] ((((((gseeS yb13 ((gputS u0 (x27.tmod 15) u1).1) 1).2) != 0) || (((gseeS ((gseeS yb13 ((gputS u0 (x27.tmod 15) u1).1) 1).1) ((gputS u0 (x27.tmod 15) u1).1) 1).2) != 0)) || ((((gseeS yb13 ((gputS u0 (x27.tmod 15) u1).1) 1).1).State) != 1)) || ((((gseeS yb13 ((gputS u0 (x27.tmod 15) u1).1) 1).1).Bad) != 0)) (.pointer (some ⟨b165, 3, none⟩)) rfl rfl ?_; intro a215 hF216; clear hF214
    refine gd hF216 (.int .i64 (((gseeS ((gseeS yb13 ((gputS u0 (x27.tmod 15) u1).1) 1).1) ((gputS u0 (x27.tmod 15) u1).1) 1).1).State)) (m := 3) (cj := []) (bj := (((((gseeS yb13 ((gputS u0 (x27.tmod 15) u1).1) 1).2) != 0) || (((gseeS ((gseeS yb13 ((gputS u0 (x27.tmod 15) u1).1) 1).1) ((gputS u0 (x27.tmod 15) u1).1) 1).2) != 0)) || ((((gseeS yb13 ((gputS u0 (x27.tmod 15) u1).1) 1).1).State) != 1)) || ((((gseeS yb13 ((gputS u0 (x27.tmod 15) u1).1) 1).1).Bad) != 0)) rfl rfl (by kernel_rfl) rfl (by kernel_rfl) (by kernel_rfl) (by kernel_rfl) (fun hg => ld hF216 hM174 0 (g := [3]) (b := b165) (off := 3) (cs := [.int .i64 (((gseeS ((gseeS yb13 ((gputS u0 (x27.tmod 15) u1).1) 1).1) ((gputS u0 (x27.tmod 15) u1).1) 1).1).Key), .int .i64 (((gseeS ((gseeS yb13 ((gputS u0 (x27.tmod 15) u1).1) 1).1) ((gputS u0 (x27.tmod 15) u1).1) 1).1).Last), .int .i64 (((gseeS ((gseeS yb13 ((gputS u0 (x27.tmod 15) u1).1) 1).1) ((gputS u0 (x27.tmod 15) u1).1) 1).1).Bad), .int .i64 (((gseeS ((gseeS yb13 ((gputS u0 (x27.tmod 15) u1).1) 1).1) ((gputS u0 (x27.tmod 15) u1).1) 1).1).State)]) (ty := 24) rfl (by kernel_rfl) (by kernel_rfl) (by kernel_rfl) (by kernel_rfl) hg) ?_; intro a217 hF218; clear hF216
    refine gp hF218 72 3 [] ((((((gseeS yb13 ((gputS u0 (x27.tmod 15) u1).1) 1).2) != 0) || (((gseeS ((gseeS yb13 ((gputS u0 (x27.tmod 15) u1).1) 1).1) ((gputS u0 (x27.tmod 15) u1).1) 1).2) != 0)) || ((((gseeS yb13 ((gputS u0 (x27.tmod 15) u1).1) 1).1).State) != 1)) || ((((gseeS yb13 ((gputS u0 (x27.tmod 15) u1).1) 1).1).Bad) != 0)) (.bool ((((gseeS ((gseeS yb13 ((gputS u0 (x27.tmod 15) u1).1) 1).1) ((gputS u0 (x27.tmod 15) u1).1) 1).1).State) != 3)) rfl rfl ?_; intro a219 hF220; clear hF218
    refine st hF220 (.bool (((((((gseeS yb13 ((gputS u0 (x27.tmod 15) u1).1) 1).2) != 0) || (((gseeS ((gseeS yb13 ((gputS u0 (x27.tmod 15) u1).1) 1).1) ((gputS u0 (x27.tmod 15) u1).1) 1).2) != 0)) || ((((gseeS yb13 ((gputS u0 (x27.tmod 15) u1).1) 1).1).State) != 1)) || ((((gseeS yb13 ((gputS u0 (x27.tmod 15) u1).1) 1).1).Bad) != 0)) || ((((gseeS ((gseeS yb13 ((gputS u0 (x27.tmod 15) u1).1) 1).1) ((gputS u0 (x27.tmod 15) u1).1) 1).1).State) != 3))) (nog rfl _) rfl (by kernel_rfl) (pk_or hF220 (g := []) (m := 3) (b := (((((gseeS yb13 ((gputS u0 (x27.tmod 15) u1).1) 1).2) != 0) || (((gseeS ((gseeS yb13 ((gputS u0 (x27.tmod 15) u1).1) 1).1) ((gputS u0 (x27.tmod 15) u1).1) 1).2) != 0)) || ((((gseeS yb13 ((gputS u0 (x27.tmod 15) u1).1) 1).1).State) != 1)) || ((((gseeS yb13 ((gputS u0 (x27.tmod 15) u1).1) 1).1).Bad) != 0)) (v := (((gseeS ((gseeS yb13 ((gputS u0 (x27.tmod 15) u1).1) 1).1) ((gputS u0 (x27.tmod 15) u1).1) 1).1).State) != 3) rfl (by kernel_rfl) (by kernel_rfl) (by kernel_rfl) rfl) ?_; intro a221 hF222; clear hF220
    refine nlH (hQ176 _ _ ?_); clear hQ176 hQ176Q
    refine cd hF222 (t := ((((((gseeS yb13 ((gputS u0 (x27.tmod 15) u1).1) 1).2) != 0) || (((gseeS ((gseeS yb13 ((gputS u0 (x27.tmod 15) u1).1) 1).1) ((gputS u0 (x27.tmod 15) u1).1) 1).2) != 0)) || ((((gseeS yb13 ((gputS u0 (x27.tmod 15) u1).1) 1).1).State) != 1)) || ((((gseeS yb13 ((gputS u0 (x27.tmod 15) u1).1) 1).1).Bad) != 0)) || ((((gseeS ((gseeS yb13 ((gputS u0 (x27.tmod 15) u1).1) 1).1) ((gputS u0 (x27.tmod 15) u1).1) 1).1).State) != 3)) (by kernel_rfl) (fun hb223 => ?_) (fun hb223 => ?_)
    · -- yes
     have hp224 := hp154.1 hb223; clear hp154
     have hF225 : Fr 114 [] [] a221 := hF222.region (by kernel_rfl) (by kernel_rfl); clear hF222
     refine sqH ?_; intro hQ226Q hQ226
     refine s1 hF225 8 (.bool false) ?_; intro a227 hF228; clear hF225
     refine nlH (hQ226 _ _ ?_); clear hQ226 hQ226Q
     refine wp_ret ?_
     refine thr ?_
     refine ibr ?_
     refine thr ?_
     refine thr ?_
     refine ibr ?_
     refine thr ?_
     refine rt (fn := Try.f3) (v := .bool false) hF228 (re1 hF228 (fn := Try.f3) rfl (by kernel_rfl)) ?_
     exact ⟨false, rfl, hp224, hM174.below⟩
    · -- no
     have hp229 := hp154.2 hb223; clear hp154
     refine wp_skip ?_
     refine thn ?_
     have hF230 : Fr 114 [] [⟨0, [], .int .i64 u0⟩, ⟨1, [], .slice ao1 u1.length cap2⟩, ⟨3, [], .int .i64 u3⟩, ⟨9, [], .pointer (some ⟨b13, 0, none⟩)⟩, ⟨11, [], .slice ao86 ((gputS u0 (x27.tmod 15) u1).1).length cap87⟩, ⟨13, [], .pointer (some ⟨b137, 0, none⟩)⟩, ⟨26, [], .int .i64 20⟩, ⟨27, [], .int .i64 x27⟩] a221 := hF222.region (by kernel_rfl) (by kernel_rfl); clear hF222
     refine sqH ?_; intro hQ231Q hQ231
     refine l2 hF230 hM174 74 1 0 4 [.int .i64 (((gseeS yb13 ((gputS u0 (x27.tmod 15) u1).1) 1).1).Key), .int .i64 (((gseeS yb13 ((gputS u0 (x27.tmod 15) u1).1) 1).1).Last), .int .i64 (((gseeS yb13 ((gputS u0 (x27.tmod 15) u1).1) 1).1).Bad), .int .i64 (((gseeS yb13 ((gputS u0 (x27.tmod 15) u1).1) 1).1).State)] rfl rfl ?_; intro a232 hF233; clear hF230
     refine sr hF233 hM174 3 [.int .i64 (((gseeS yb13 ((gputS u0 (x27.tmod 15) u1).1) 1).1).Key), .int .i64 (((gseeS yb13 ((gputS u0 (x27.tmod 15) u1).1) 1).1).Last), .int .i64 (((gseeS yb13 ((gputS u0 (x27.tmod 15) u1).1) 1).1).Bad), .int .i64 (((gseeS yb13 ((gputS u0 (x27.tmod 15) u1).1) 1).1).State)] (b := b13) (off := 0) (cs := [.int .i64 yb13.Key, .int .i64 yb13.Last, .int .i64 yb13.Bad, .int .i64 yb13.State]) (ty := 24) (u := .agg #[.int .i64 (((gseeS yb13 ((gputS u0 (x27.tmod 15) u1).1) 1).1).Key), .int .i64 (((gseeS yb13 ((gputS u0 (x27.tmod 15) u1).1) 1).1).Last), .int .i64 (((gseeS yb13 ((gputS u0 (x27.tmod 15) u1).1) 1).1).Bad), .int .i64 (((gseeS yb13 ((gputS u0 (x27.tmod 15) u1).1) 1).1).State)]) (nog rfl _) rfl rfl (by kernel_rfl) (by kernel_rfl) (by kernel_rfl) (by kernel_rfl) (by kernel_rfl) (by kernel_rfl) (by kernel_rfl) ?_; intro wd234 hM235; clear hM174
     have hM236 : Mem w.heap.size [] w Z [.row b165 [.int .i64 (((gseeS ((gseeS yb13 ((gputS u0 (x27.tmod 15) u1).1) 1).1) ((gputS u0 (x27.tmod 15) u1).1) 1).1).Key), .int .i64 (((gseeS ((gseeS yb13 ((gputS u0 (x27.tmod 15) u1).1) 1).1) ((gputS u0 (x27.tmod 15) u1).1) 1).1).Last), .int .i64 (((gseeS ((gseeS yb13 ((gputS u0 (x27.tmod 15) u1).1) 1).1) ((gputS u0 (x27.tmod 15) u1).1) 1).1).Bad), .int .i64 (((gseeS ((gseeS yb13 ((gputS u0 (x27.tmod 15) u1).1) 1).1) ((gputS u0 (x27.tmod 15) u1).1) 1).1).State)] 24, .row b137 [.int .i64 (((gseeS yb13 ((gputS u0 (x27.tmod 15) u1).1) 1).1).Key), .int .i64 (((gseeS yb13 ((gputS u0 (x27.tmod 15) u1).1) 1).1).Last), .int .i64 (((gseeS yb13 ((gputS u0 (x27.tmod 15) u1).1) 1).1).Bad), .int .i64 (((gseeS yb13 ((gputS u0 (x27.tmod 15) u1).1) 1).1).State)] 24, .own (tyInt .u8) 5 ao86 cap87 ((gputS u0 (x27.tmod 15) u1).1), .row b13 [.int .i64 (((gseeS yb13 ((gputS u0 (x27.tmod 15) u1).1) 1).1).Key), .int .i64 (((gseeS yb13 ((gputS u0 (x27.tmod 15) u1).1) 1).1).Last), .int .i64 (((gseeS yb13 ((gputS u0 (x27.tmod 15) u1).1) 1).1).Bad), .int .i64 (((gseeS yb13 ((gputS u0 (x27.tmod 15) u1).1) 1).1).State)] 24] Z88 wd234 := hM235; clear hM235
     refine nlH (hQ231 _ _ ?_); clear hQ231 hQ231Q
     refine sqH ?_; intro hQ237Q hQ237
     refine s1 hF233 75 (.int .i64 u3) ?_; intro a238 hF239; clear hF233
     refine s1 hF239 76 (.bool (decide (u3 ≥ 0))) ?_; intro a240 hF241; clear hF239
     refine s1 hF241 77 (.bool (decide (u3 ≥ 0))) ?_; intro a242 hF243; clear hF241
     have hF244 := hF243.atom ((decide (u3 ≥ 0)) == true) (by kernel_rfl); clear hF243
     refine gp hF244 78 0 [] (decide (u3 ≥ 0)) (.int .i64 u3) rfl rfl ?_; intro a245 hF246; clear hF244
     refine gp hF246 79 0 [] (decide (u3 ≥ 0)) (.slice ao86 ((gputS u0 (x27.tmod 15) u1).1).length cap87) rfl rfl ?_; intro a247 hF248; clear hF246
     refine gp hF248 80 0 [] (decide (u3 ≥ 0)) (.int .i64 (((gputS u0 (x27.tmod 15) u1).1).length : Int)) rfl rfl ?_; intro a249 hF250; clear hF248
     refine gp hF250 81 0 [] (decide (u3 ≥ 0)) (.int .i64 (w64 (8 * (((gputS u0 (x27.tmod 15) u1).1).length : Int)))) rfl rfl ?_; intro a251 hF252; clear hF250
     refine gp hF252 82 0 [] (decide (u3 ≥ 0)) (.bool (decide (u3 < (w64 (8 * (((gputS u0 (x27.tmod 15) u1).1).length : Int)))))) rfl rfl ?_; intro a253 hF254; clear hF252
     refine st hF254 (.bool ((decide (u3 ≥ 0)) && (decide (u3 < (w64 (8 * (((gputS u0 (x27.tmod 15) u1).1).length : Int))))))) (nog rfl _) rfl (by kernel_rfl) (pk_and hF254 (g := []) (m := 0) (b := decide (u3 ≥ 0)) (v := decide (u3 < (w64 (8 * (((gputS u0 (x27.tmod 15) u1).1).length : Int))))) rfl (by kernel_rfl) (by kernel_rfl) (by kernel_rfl) rfl) ?_; intro a255 hF256; clear hF254
     refine nlH (hQ237 _ _ ?_); clear hQ237 hQ237Q
     refine cd hF256 (t := (decide (u3 ≥ 0)) && (decide (u3 < (w64 (8 * (((gputS u0 (x27.tmod 15) u1).1).length : Int)))))) (by kernel_rfl) (fun hb257 => ?_) (fun hb257 => ?_)
     · -- yes
      have hp258 := hp229.1 hb257; clear hp229
      have hF259 : Fr 114 [] [⟨0, [], .int .i64 u0⟩, ⟨1, [], .slice ao1 u1.length cap2⟩, ⟨3, [], .int .i64 u3⟩, ⟨9, [], .pointer (some ⟨b13, 0, none⟩)⟩, ⟨11, [], .slice ao86 ((gputS u0 (x27.tmod 15) u1).1).length cap87⟩, ⟨26, [], .int .i64 20⟩, ⟨27, [], .int .i64 x27⟩] a255 := hF256.region (by kernel_rfl) (by kernel_rfl); clear hF256
      have hcd3_0 := hp258.1; have hp289 := hp258.2; clear hp258
      obtain ⟨qd4_0, hqd4_0⟩ : ∃ q, ((gputS u0 (x27.tmod 15) u1).1)[(w64 (u3.tdiv 8)).toNat]? = some q := ⟨_, List.getElem?_eq_getElem (by omega)⟩; have hp290 := hp289 qd4_0 hqd4_0; clear hp289
      have hcd7_0 := hp290.1; have hp291 := hp290.2; clear hp290
      have hcd9_0 := hp291.1; have hp292 := hp291.2; clear hp291
      refine wp_seq (any_invE mixed [[], [], [1], [0, 2], [3], [], [5], [6], [4, 7], [0, 1, 2, 3, 4, 5, 6, 7, 8], [0, 1, 2, 3, 4, 5, 6, 7, 8, 9]] 11 (fun S a w1 => ∃ (g266 : Nat) (g283 : Nat) (ud84 : Value) (ud85 : Value) (ud86 : Value) (ud87 : Value) (ud88 : Value) (ud89 : Value) (ud90 : Value) (ud91 : Value) (ud92 : Value) (ud93 : Value) (rh0 : Res) (rh1 : Res) (rh2 : Res) (rh3 : Res), Fz.le Z88 Z88 ∧ Fr 114 [] [⟨0, [], .int .i64 u0⟩, ⟨1, [], .slice ao1 u1.length cap2⟩, ⟨3, [], .int .i64 u3⟩, ⟨9, [], .pointer (some ⟨b13, 0, none⟩)⟩, ⟨11, [], .slice ao86 ((gputS u0 (x27.tmod 15) u1).1).length cap87⟩, ⟨26, [], .int .i64 20⟩, ⟨27, [], .int .i64 x27⟩, ⟨84, [], ud84⟩, ⟨85, [], ud85⟩, ⟨86, [], ud86⟩, ⟨87, [], ud87⟩, ⟨88, [], ud88⟩, ⟨89, [], ud89⟩, ⟨90, [], ud90⟩, ⟨91, [], ud91⟩, ⟨92, [], ud92⟩, ⟨93, [], ud93⟩] a ∧ Mem w.heap.size [] w Z [rh0, rh1, rh2, rh3] Z88 w1 ∧ (S 0 = true → ud84 = .slice ao86 ((gputS u0 (x27.tmod 15) u1).1).length cap87) ∧ (S 1 = true → ud85 = .int .i64 u3) ∧ (S 2 = true → ud86 = .int .i64 (w64 (u3.tdiv 8))) ∧ (S 3 = true → ud87 = .pointer (some ⟨g266, (w64 (u3.tdiv 8)).toNat * 1, none⟩)) ∧ (S 4 = true → ud88 = .int .u8 qd4_0) ∧ (S 5 = true → ud89 = .int .i64 u3) ∧ (S 6 = true → ud90 = .int .i64 (u3.tmod 8)) ∧ (S 7 = true → ud91 = .int .u8 (bShl .u8 1 (u3.tmod 8))) ∧ (S 8 = true → ud92 = .int .u8 (bXor .u8 qd4_0 (bShl .u8 1 (u3.tmod 8)))) ∧ (S 9 = true → ud93 = .pointer (some ⟨g283, (w64 (u3.tdiv 8)).toNat * 1, none⟩)) ∧ (rh0 = .row b165 [.int .i64 (((gseeS ((gseeS yb13 ((gputS u0 (x27.tmod 15) u1).1) 1).1) ((gputS u0 (x27.tmod 15) u1).1) 1).1).Key), .int .i64 (((gseeS ((gseeS yb13 ((gputS u0 (x27.tmod 15) u1).1) 1).1) ((gputS u0 (x27.tmod 15) u1).1) 1).1).Last), .int .i64 (((gseeS ((gseeS yb13 ((gputS u0 (x27.tmod 15) u1).1) 1).1) ((gputS u0 (x27.tmod 15) u1).1) 1).1).Bad), .int .i64 (((gseeS ((gseeS yb13 ((gputS u0 (x27.tmod 15) u1).1) 1).1) ((gputS u0 (x27.tmod 15) u1).1) 1).1).State)] 24) ∧ (rh1 = .row b137 [.int .i64 (((gseeS yb13 ((gputS u0 (x27.tmod 15) u1).1) 1).1).Key), .int .i64 (((gseeS yb13 ((gputS u0 (x27.tmod 15) u1).1) 1).1).Last), .int .i64 (((gseeS yb13 ((gputS u0 (x27.tmod 15) u1).1) 1).1).Bad), .int .i64 (((gseeS yb13 ((gputS u0 (x27.tmod 15) u1).1) 1).1).State)] 24) ∧ (S 10 = false → rh2 = .own (tyInt .u8) 5 ao86 cap87 ((gputS u0 (x27.tmod 15) u1).1)) ∧ (S 10 = true → rh2 = .own (tyInt .u8) 5 ao86 cap87 (((gputS u0 (x27.tmod 15) u1).1).set (w64 (u3.tdiv 8)).toNat (bXor .u8 qd4_0 (bShl .u8 1 (u3.tmod 8))))) ∧ (rh3 = .row b13 [.int .i64 (((gseeS yb13 ((gputS u0 (x27.tmod 15) u1).1) 1).1).Key), .int .i64 (((gseeS yb13 ((gputS u0 (x27.tmod 15) u1).1) 1).1).Last), .int .i64 (((gseeS yb13 ((gputS u0 (x27.tmod 15) u1).1) 1).1).Bad), .int .i64 (((gseeS yb13 ((gputS u0 (x27.tmod 15) u1).1) 1).1).State)] 24) ∧ (S 3 = true → ao86 = some ⟨g266, 0, none⟩) ∧ (S 9 = true → ao86 = some ⟨g283, 0, none⟩)) ?h0 ?hs ?hE)
      case h0 =>
       have hF294 := hF259.any 84
       have hF295 := hF294.any 85
       have hF296 := hF295.any 86
       have hF297 := hF296.any 87
       have hF298 := hF297.any 88
       have hF299 := hF298.any 89
       have hF300 := hF299.any 90
       have hF301 := hF300.any 91
       have hF302 := hF301.any 92
       have hF303 := hF302.any 93
       have hM304 := (hM236.perm (List.Perm.refl _)).drew
       exact ⟨0, 0, a255.tmps.getD 84 undef, a255.tmps.getD 85 undef, a255.tmps.getD 86 undef, a255.tmps.getD 87 undef, a255.tmps.getD 88 undef, a255.tmps.getD 89 undef, a255.tmps.getD 90 undef, a255.tmps.getD 91 undef, a255.tmps.getD 92 undef, a255.tmps.getD 93 undef, .row b165 [.int .i64 (((gseeS ((gseeS yb13 ((gputS u0 (x27.tmod 15) u1).1) 1).1) ((gputS u0 (x27.tmod 15) u1).1) 1).1).Key), .int .i64 (((gseeS ((gseeS yb13 ((gputS u0 (x27.tmod 15) u1).1) 1).1) ((gputS u0 (x27.tmod 15) u1).1) 1).1).Last), .int .i64 (((gseeS ((gseeS yb13 ((gputS u0 (x27.tmod 15) u1).1) 1).1) ((gputS u0 (x27.tmod 15) u1).1) 1).1).Bad), .int .i64 (((gseeS ((gseeS yb13 ((gputS u0 (x27.tmod 15) u1).1) 1).1) ((gputS u0 (x27.tmod 15) u1).1) 1).1).State)] 24, .row b137 [.int .i64 (((gseeS yb13 ((gputS u0 (x27.tmod 15) u1).1) 1).1).Key), .int .i64 (((gseeS yb13 ((gputS u0 (x27.tmod 15) u1).1) 1).1).Last), .int .i64 (((gseeS yb13 ((gputS u0 (x27.tmod 15) u1).1) 1).1).Bad), .int .i64 (((gseeS yb13 ((gputS u0 (x27.tmod 15) u1).1) 1).1).State)] 24, .own (tyInt .u8) 5 ao86 cap87 ((gputS u0 (x27.tmod 15) u1).1), .row b13 [.int .i64 (((gseeS yb13 ((gputS u0 (x27.tmod 15) u1).1) 1).1).Key), .int .i64 (((gseeS yb13 ((gputS u0 (x27.tmod 15) u1).1) 1).1).Last), .int .i64 (((gseeS yb13 ((gputS u0 (x27.tmod 15) u1).1) 1).1).Bad), .int .i64 (((gseeS yb13 ((gputS u0 (x27.tmod 15) u1).1) 1).1).State)] 24, Fz.le.refl _, hF303.region (by kernel_rfl) (by kernel_rfl), hM304, ff, ff, ff, ff, ff, ff, ff, ff, ff, ff, rfl, rfl, kf, ff, rfl, ff, ff⟩
      case hs =>
       intro S hcl i o hil hi hSi hpre a w1 hI; refine hid ?_; intro G hG; obtain ⟨g266, hI⟩ := hI; obtain ⟨g283, hI⟩ := hI; obtain ⟨ud84, hI⟩ := hI; obtain ⟨ud85, hI⟩ := hI; obtain ⟨ud86, hI⟩ := hI; obtain ⟨ud87, hI⟩ := hI; obtain ⟨ud88, hI⟩ := hI; obtain ⟨ud89, hI⟩ := hI; obtain ⟨ud90, hI⟩ := hI; obtain ⟨ud91, hI⟩ := hI; obtain ⟨ud92, hI⟩ := hI; obtain ⟨ud93, hI⟩ := hI; obtain ⟨rh0, hI⟩ := hI; obtain ⟨rh1, hI⟩ := hI; obtain ⟨rh2, hI⟩ := hI; obtain ⟨rh3, hI⟩ := hI; obtain ⟨hle293, hI⟩ := hI; obtain ⟨hFx, hI⟩ := hI; obtain ⟨hMx, hI⟩ := hI; obtain ⟨cu84, hI⟩ := hI; obtain ⟨cu85, hI⟩ := hI; obtain ⟨cu86, hI⟩ := hI; obtain ⟨cu87, hI⟩ := hI; obtain ⟨cu88, hI⟩ := hI; obtain ⟨cu89, hI⟩ := hI; obtain ⟨cu90, hI⟩ := hI; obtain ⟨cu91, hI⟩ := hI; obtain ⟨cu92, hI⟩ := hI; obtain ⟨cu93, hI⟩ := hI; obtain ⟨cr0_0, hI⟩ := hI; obtain ⟨cr1_0, hI⟩ := hI; obtain ⟨cr2_0, hI⟩ := hI; obtain ⟨cr2_1, hI⟩ := hI; obtain ⟨cr3_0, hI⟩ := hI; obtain ⟨cf0, hI⟩ := hI; have cf1 := hI; clear hI
       have hcase : i = 0 ∨ i = 1 ∨ i = 2 ∨ i = 3 ∨ i = 4 ∨ i = 5 ∨ i = 6 ∨ i = 7 ∨ i = 8 ∨ i = 9 ∨ i = 10 := by clear hi; omega
       rcases hcase with rfl | rfl | rfl | rfl | rfl | rfl | rfl | rfl | rfl | rfl | rfl
       · -- 0: move
        obtain rfl := Option.some.inj hi
        have hx0 := hSi
        have hx3 := negF hcl 3 0 (by kernel_rfl) hx0
        have hx4 := negF hcl 4 3 (by kernel_rfl) hx3
        have hx8 := negF hcl 8 4 (by kernel_rfl) hx4
        have hx9 := negF hcl 9 0 (by kernel_rfl) hx0
        have hx10 := negF hcl 10 0 (by kernel_rfl) hx0
        obtain rfl := cr0_0
        obtain rfl := cr1_0
        obtain rfl := cr2_0 hx10
        obtain rfl := cr3_0
        refine hG (any_step ?_); clear hG G; intro A J hJ
        have hle0 := Fz.le.trans hle0 hle293
        have hs305 := hs60.mono hle293
        have hs306 := hleL47.mono hle293
        refine s1 hFx 84 (.slice ao86 ((gputS u0 (x27.tmod 15) u1).1).length cap87) ?_; intro a307 hF308; clear hFx
        refine nl (qnI (hJ _ _ ?_)); clear hJ J
        exact ⟨g266, g283, .slice ao86 ((gputS u0 (x27.tmod 15) u1).1).length cap87, ud85, ud86, ud87, ud88, ud89, ud90, ud91, ud92, ud93, .row b165 [.int .i64 (((gseeS ((gseeS yb13 ((gputS u0 (x27.tmod 15) u1).1) 1).1) ((gputS u0 (x27.tmod 15) u1).1) 1).1).Key), .int .i64 (((gseeS ((gseeS yb13 ((gputS u0 (x27.tmod 15) u1).1) 1).1) ((gputS u0 (x27.tmod 15) u1).1) 1).1).Last), .int .i64 (((gseeS ((gseeS yb13 ((gputS u0 (x27.tmod 15) u1).1) 1).1) ((gputS u0 (x27.tmod 15) u1).1) 1).1).Bad), .int .i64 (((gseeS ((gseeS yb13 ((gputS u0 (x27.tmod 15) u1).1) 1).1) ((gputS u0 (x27.tmod 15) u1).1) 1).1).State)] 24, .row b137 [.int .i64 (((gseeS yb13 ((gputS u0 (x27.tmod 15) u1).1) 1).1).Key), .int .i64 (((gseeS yb13 ((gputS u0 (x27.tmod 15) u1).1) 1).1).Last), .int .i64 (((gseeS yb13 ((gputS u0 (x27.tmod 15) u1).1) 1).1).Bad), .int .i64 (((gseeS yb13 ((gputS u0 (x27.tmod 15) u1).1) 1).1).State)] 24, .own (tyInt .u8) 5 ao86 cap87 ((gputS u0 (x27.tmod 15) u1).1), .row b13 [.int .i64 (((gseeS yb13 ((gputS u0 (x27.tmod 15) u1).1) 1).1).Key), .int .i64 (((gseeS yb13 ((gputS u0 (x27.tmod 15) u1).1) 1).1).Last), .int .i64 (((gseeS yb13 ((gputS u0 (x27.tmod 15) u1).1) 1).1).Bad), .int .i64 (((gseeS yb13 ((gputS u0 (x27.tmod 15) u1).1) 1).1).State)] 24, hle293, hF308.region (by kernel_rfl) (by kernel_rfl), hMx.perm (List.Perm.refl _), kf, cu85, cu86, (nt hx3), (nt hx4), cu89, cu90, cu91, (nt hx8), (nt hx9), rfl, rfl, kf, (nt hx10), rfl, (nt hx3), (nt hx9)⟩
       · -- 1: move
        obtain rfl := Option.some.inj hi
        have hx1 := hSi
        have hx2 := negF hcl 2 1 (by kernel_rfl) hx1
        have hx3 := negF hcl 3 2 (by kernel_rfl) hx2
        have hx4 := negF hcl 4 3 (by kernel_rfl) hx3
        have hx8 := negF hcl 8 4 (by kernel_rfl) hx4
        have hx9 := negF hcl 9 1 (by kernel_rfl) hx1
        have hx10 := negF hcl 10 1 (by kernel_rfl) hx1
        obtain rfl := cr0_0
        obtain rfl := cr1_0
        obtain rfl := cr2_0 hx10
        obtain rfl := cr3_0
        refine hG (any_step ?_); clear hG G; intro A J hJ
        have hle0 := Fz.le.trans hle0 hle293
        have hs310 := hs60.mono hle293
        have hs311 := hleL47.mono hle293
        refine s1 hFx 85 (.int .i64 u3) ?_; intro a312 hF313; clear hFx
        refine nl (qnI (hJ _ _ ?_)); clear hJ J
        exact ⟨g266, g283, ud84, .int .i64 u3, ud86, ud87, ud88, ud89, ud90, ud91, ud92, ud93, .row b165 [.int .i64 (((gseeS ((gseeS yb13 ((gputS u0 (x27.tmod 15) u1).1) 1).1) ((gputS u0 (x27.tmod 15) u1).1) 1).1).Key), .int .i64 (((gseeS ((gseeS yb13 ((gputS u0 (x27.tmod 15) u1).1) 1).1) ((gputS u0 (x27.tmod 15) u1).1) 1).1).Last), .int .i64 (((gseeS ((gseeS yb13 ((gputS u0 (x27.tmod 15) u1).1) 1).1) ((gputS u0 (x27.tmod 15) u1).1) 1).1).Bad), .int .i64 (((gseeS ((gseeS yb13 ((gputS u0 (x27.tmod 15) u1).1) 1).1) ((gputS u0 (x27.tmod 15) u1).1) 1).1).State)] 24, .row b137 [.int .i64 (((gseeS yb13 ((gputS u0 (x27.tmod 15) u1).1) 1).1).Key), .int .i64 (((gseeS yb13 ((gputS u0 (x27.tmod 15) u1).1) 1).1).Last), .int .i64 (((gseeS yb13 ((gputS u0 (x27.tmod 15) u1).1) 1).1).Bad), .int .i64 (((gseeS yb13 ((gputS u0 (x27.tmod 15) u1).1) 1).1).State)] 24, .own (tyInt .u8) 5 ao86 cap87 ((gputS u0 (x27.tmod 15) u1).1), .row b13 [.int .i64 (((gseeS yb13 ((gputS u0 (x27.tmod 15) u1).1) 1).1).Key), .int .i64 (((gseeS yb13 ((gputS u0 (x27.tmod 15) u1).1) 1).1).Last), .int .i64 (((gseeS yb13 ((gputS u0 (x27.tmod 15) u1).1) 1).1).Bad), .int .i64 (((gseeS yb13 ((gputS u0 (x27.tmod 15) u1).1) 1).1).State)] 24, hle293, hF313.region (by kernel_rfl) (by kernel_rfl), hMx.perm (List.Perm.refl _), cu84, kf, (nt hx2), (nt hx3), (nt hx4), cu89, cu90, cu91, (nt hx8), (nt hx9), rfl, rfl, kf, (nt hx10), rfl, (nt hx3), (nt hx9)⟩
       · -- 2: binOp
        obtain rfl := Option.some.inj hi
        have hx1 := hpre 1 (by kernel_rfl)
        have hx2 := hSi
        have hx3 := negF hcl 3 2 (by kernel_rfl) hx2
        have hx4 := negF hcl 4 3 (by kernel_rfl) hx3
        have hx8 := negF hcl 8 4 (by kernel_rfl) hx4
        have hx9 := negF hcl 9 2 (by kernel_rfl) hx2
        have hx10 := negF hcl 10 2 (by kernel_rfl) hx2
        obtain rfl := cu85 hx1
        obtain rfl := cr0_0
        obtain rfl := cr1_0
        obtain rfl := cr2_0 hx10
        obtain rfl := cr3_0
        refine hG (any_step ?_); clear hG G; intro A J hJ
        have hle0 := Fz.le.trans hle0 hle293
        have hs315 := hs60.mono hle293
        have hs316 := hleL47.mono hle293
        refine s1 hFx 86 (.int .i64 (w64 (u3.tdiv 8))) ?_; intro a317 hF318; clear hFx
        refine nl (qnI (hJ _ _ ?_)); clear hJ J
        exact ⟨g266, g283, ud84, .int .i64 u3, .int .i64 (w64 (u3.tdiv 8)), ud87, ud88, ud89, ud90, ud91, ud92, ud93, .row b165 [.int .i64 (((gseeS ((gseeS yb13 ((gputS u0 (x27.tmod 15) u1).1) 1).1) ((gputS u0 (x27.tmod 15) u1).1) 1).1).Key), .int .i64 (((gseeS ((gseeS yb13 ((gputS u0 (x27.tmod 15) u1).1) 1).1) ((gputS u0 (x27.tmod 15) u1).1) 1).1).Last), .int .i64 (((gseeS ((gseeS yb13 ((gputS u0 (x27.tmod 15) u1).1) 1).1) ((gputS u0 (x27.tmod 15) u1).1) 1).1).Bad), .int .i64 (((gseeS ((gseeS yb13 ((gputS u0 (x27.tmod 15) u1).1) 1).1) ((gputS u0 (x27.tmod 15) u1).1) 1).1).State)] 24, .row b137 [.int .i64 (((gseeS yb13 ((gputS u0 (x27.tmod 15) u1).1) 1).1).Key), .int .i64 (((gseeS yb13 ((gputS u0 (x27.tmod 15) u1).1) 1).1).Last), .int .i64 (((gseeS yb13 ((gputS u0 (x27.tmod 15) u1).1) 1).1).Bad), .int .i64 (((gseeS yb13 ((gputS u0 (x27.tmod 15) u1).1) 1).1).State)] 24, .own (tyInt .u8) 5 ao86 cap87 ((gputS u0 (x27.tmod 15) u1).1), .row b13 [.int .i64 (((gseeS yb13 ((gputS u0 (x27.tmod 15) u1).1) 1).1).Key), .int .i64 (((gseeS yb13 ((gputS u0 (x27.tmod 15) u1).1) 1).1).Last), .int .i64 (((gseeS yb13 ((gputS u0 (x27.tmod 15) u1).1) 1).1).Bad), .int .i64 (((gseeS yb13 ((gputS u0 (x27.tmod 15) u1).1) 1).1).State)] 24, hle293, hF318.region (by kernel_rfl) (by kernel_rfl), hMx.perm (List.Perm.refl _), cu84, kf, kf, (nt hx3), (nt hx4), cu89, cu90, cu91, (nt hx8), (nt hx9), rfl, rfl, kf, (nt hx10), rfl, (nt hx3), (nt hx9)⟩
       · -- 3: indexAddr
        obtain rfl := Option.some.inj hi
        have hx2 := hpre 2 (by kernel_rfl)
        have hx0 := hpre 0 (by kernel_rfl)
        have hx1 := hcl 2 1 (by kernel_rfl) hx2
        have hx3 := hSi
        have hx4 := negF hcl 4 3 (by kernel_rfl) hx3
        have hx8 := negF hcl 8 4 (by kernel_rfl) hx4
        have hx9 := negF hcl 9 3 (by kernel_rfl) hx3
        have hx10 := negF hcl 10 3 (by kernel_rfl) hx3
        obtain rfl := cu84 hx0
        obtain rfl := cu85 hx1
        obtain rfl := cu86 hx2
        obtain rfl := cr0_0
        obtain rfl := cr1_0
        obtain rfl := cr2_0 hx10
        obtain rfl := cr3_0
        refine hG (any_step ?_); clear hG G; intro A J hJ
        have hle0 := Fz.le.trans hle0 hle293
        have hs320 := hs60.mono hle293
        have hs321 := hleL47.mono hle293
        refine ixo hFx hMx 2 (T := (tyInt .u8)) (xs := (gputS u0 (x27.tmod 15) u1).1) (w64 (u3.tdiv 8)) hcd3_0 (k := .i64) (e := 5) (bytes := 1) (nog rfl _) rfl (by kernel_rfl) rfl (by kernel_rfl) (by kernel_rfl) rfl (by kernel_rfl) ?_; intro g322 a324 hg323 hF325; clear hFx
        refine nl (qnI (hJ _ _ ?_)); clear hJ J
        exact ⟨g322, g283, .slice ao86 ((gputS u0 (x27.tmod 15) u1).1).length cap87, .int .i64 u3, .int .i64 (w64 (u3.tdiv 8)), .pointer (some ⟨g322, (w64 (u3.tdiv 8)).toNat * 1, none⟩), ud88, ud89, ud90, ud91, ud92, ud93, .row b165 [.int .i64 (((gseeS ((gseeS yb13 ((gputS u0 (x27.tmod 15) u1).1) 1).1) ((gputS u0 (x27.tmod 15) u1).1) 1).1).Key), .int .i64 (((gseeS ((gseeS yb13 ((gputS u0 (x27.tmod 15) u1).1) 1).1) ((gputS u0 (x27.tmod 15) u1).1) 1).1).Last), .int .i64 (((gseeS ((gseeS yb13 ((gputS u0 (x27.tmod 15) u1).1) 1).1) ((gputS u0 (x27.tmod 15) u1).1) 1).1).Bad), .int .i64 (((gseeS ((gseeS yb13 ((gputS u0 (x27.tmod 15) u1).1) 1).1) ((gputS u0 (x27.tmod 15) u1).1) 1).1).State)] 24, .row b137 [.int .i64 (((gseeS yb13 ((gputS u0 (x27.tmod 15) u1).1) 1).1).Key), .int .i64 (((gseeS yb13 ((gputS u0 (x27.tmod 15) u1).1) 1).1).Last), .int .i64 (((gseeS yb13 ((gputS u0 (x27.tmod 15) u1).1) 1).1).Bad), .int .i64 (((gseeS yb13 ((gputS u0 (x27.tmod 15) u1).1) 1).1).State)] 24, .own (tyInt .u8) 5 ao86 cap87 ((gputS u0 (x27.tmod 15) u1).1), .row b13 [.int .i64 (((gseeS yb13 ((gputS u0 (x27.tmod 15) u1).1) 1).1).Key), .int .i64 (((gseeS yb13 ((gputS u0 (x27.tmod 15) u1).1) 1).1).Last), .int .i64 (((gseeS yb13 ((gputS u0 (x27.tmod 15) u1).1) 1).1).Bad), .int .i64 (((gseeS yb13 ((gputS u0 (x27.tmod 15) u1).1) 1).1).State)] 24, hle293, hF325.region (by kernel_rfl) (by kernel_rfl), hMx.perm (List.Perm.refl _), kf, kf, kf, kf, (nt hx4), cu89, cu90, cu91, (nt hx8), (nt hx9), rfl, rfl, kf, (nt hx10), rfl, (fun _ => hg323), (nt hx9)⟩
       · -- 4: load
        obtain rfl := Option.some.inj hi
        have hx3 := hpre 3 (by kernel_rfl)
        have hx2 := hcl 3 2 (by kernel_rfl) hx3
        have hx0 := hcl 3 0 (by kernel_rfl) hx3
        have hx1 := hcl 2 1 (by kernel_rfl) hx2
        have hx4 := hSi
        have hx8 := negF hcl 8 4 (by kernel_rfl) hx4
        have hx9 := negF hcl 9 4 (by kernel_rfl) hx4
        have hx10 := negF hcl 10 4 (by kernel_rfl) hx4
        obtain rfl := cu84 hx0
        obtain rfl := cu85 hx1
        obtain rfl := cu86 hx2
        obtain rfl := cu87 hx3
        obtain rfl := cr0_0
        obtain rfl := cr1_0
        obtain rfl := cr2_0 hx10
        obtain rfl := cr3_0
        refine hG (any_step ?_); clear hG G; intro A J hJ
        have hle0 := Fz.le.trans hle0 hle293
        have hs327 := hs60.mono hle293
        have hs328 := hleL47.mono hle293
        have hs329 := cf0 hx3
        obtain ⟨cs330, hT331, hcl332⟩ := own_elx hMx 2 (T := (tyInt .u8)) (xs := (gputS u0 (x27.tmod 15) u1).1) rfl hs329 (w64 (u3.tdiv 8)).toNat hqd4_0
        obtain rfl : cs330 = ([.int .u8 qd4_0] : List Value) := hT331
        refine lc1 hFx 88 (.int .u8 qd4_0) (hcl332 0 _ rfl) rfl ?_; intro a333 hF334; clear hFx
        refine nl (qnI (hJ _ _ ?_)); clear hJ J
        exact ⟨g266, g283, .slice ao86 ((gputS u0 (x27.tmod 15) u1).1).length cap87, .int .i64 u3, .int .i64 (w64 (u3.tdiv 8)), .pointer (some ⟨g266, (w64 (u3.tdiv 8)).toNat * 1, none⟩), .int .u8 qd4_0, ud89, ud90, ud91, ud92, ud93, .row b165 [.int .i64 (((gseeS ((gseeS yb13 ((gputS u0 (x27.tmod 15) u1).1) 1).1) ((gputS u0 (x27.tmod 15) u1).1) 1).1).Key), .int .i64 (((gseeS ((gseeS yb13 ((gputS u0 (x27.tmod 15) u1).1) 1).1) ((gputS u0 (x27.tmod 15) u1).1) 1).1).Last), .int .i64 (((gseeS ((gseeS yb13 ((gputS u0 (x27.tmod 15) u1).1) 1).1) ((gputS u0 (x27.tmod 15) u1).1) 1).1).Bad), .int .i64 (((gseeS ((gseeS yb13 ((gputS u0 (x27.tmod 15) u1).1) 1).1) ((gputS u0 (x27.tmod 15) u1).1) 1).1).State)] 24, .row b137 [.int .i64 (((gseeS yb13 ((gputS u0 (x27.tmod 15) u1).1) 1).1).Key), .int .i64 (((gseeS yb13 ((gputS u0 (x27.tmod 15) u1).1) 1).1).Last), .int .i64 (((gseeS yb13 ((gputS u0 (x27.tmod 15) u1).1) 1).1).Bad), .int .i64 (((gseeS yb13 ((gputS u0 (x27.tmod 15) u1).1) 1).1).State)] 24, .own (tyInt .u8) 5 ao86 cap87 ((gputS u0 (x27.tmod 15) u1).1), .row b13 [.int .i64 (((gseeS yb13 ((gputS u0 (x27.tmod 15) u1).1) 1).1).Key), .int .i64 (((gseeS yb13 ((gputS u0 (x27.tmod 15) u1).1) 1).1).Last), .int .i64 (((gseeS yb13 ((gputS u0 (x27.tmod 15) u1).1) 1).1).Bad), .int .i64 (((gseeS yb13 ((gputS u0 (x27.tmod 15) u1).1) 1).1).State)] 24, hle293, hF334.region (by kernel_rfl) (by kernel_rfl), hMx.perm (List.Perm.refl _), kf, kf, kf, kf, kf, cu89, cu90, cu91, (nt hx8), (nt hx9), rfl, rfl, kf, (nt hx10), rfl, (fun _ => hs329), (nt hx9)⟩
       · -- 5: move
        obtain rfl := Option.some.inj hi
        have hx5 := hSi
        have hx6 := negF hcl 6 5 (by kernel_rfl) hx5
        have hx7 := negF hcl 7 6 (by kernel_rfl) hx6
        have hx8 := negF hcl 8 7 (by kernel_rfl) hx7
        have hx9 := negF hcl 9 5 (by kernel_rfl) hx5
        have hx10 := negF hcl 10 5 (by kernel_rfl) hx5
        obtain rfl := cr0_0
        obtain rfl := cr1_0
        obtain rfl := cr2_0 hx10
        obtain rfl := cr3_0
        refine hG (any_step ?_); clear hG G; intro A J hJ
        have hle0 := Fz.le.trans hle0 hle293
        have hs336 := hs60.mono hle293
        have hs337 := hleL47.mono hle293
        refine s1 hFx 89 (.int .i64 u3) ?_; intro a338 hF339; clear hFx
        refine nl (qnI (hJ _ _ ?_)); clear hJ J
        exact ⟨g266, g283, ud84, ud85, ud86, ud87, ud88, .int .i64 u3, ud90, ud91, ud92, ud93, .row b165 [.int .i64 (((gseeS ((gseeS yb13 ((gputS u0 (x27.tmod 15) u1).1) 1).1) ((gputS u0 (x27.tmod 15) u1).1) 1).1).Key), .int .i64 (((gseeS ((gseeS yb13 ((gputS u0 (x27.tmod 15) u1).1) 1).1) ((gputS u0 (x27.tmod 15) u1).1) 1).1).Last), .int .i64 (((gseeS ((gseeS yb13 ((gputS u0 (x27.tmod 15) u1).1) 1).1) ((gputS u0 (x27.tmod 15) u1).1) 1).1).Bad), .int .i64 (((gseeS ((gseeS yb13 ((gputS u0 (x27.tmod 15) u1).1) 1).1) ((gputS u0 (x27.tmod 15) u1).1) 1).1).State)] 24, .row b137 [.int .i64 (((gseeS yb13 ((gputS u0 (x27.tmod 15) u1).1) 1).1).Key), .int .i64 (((gseeS yb13 ((gputS u0 (x27.tmod 15) u1).1) 1).1).Last), .int .i64 (((gseeS yb13 ((gputS u0 (x27.tmod 15) u1).1) 1).1).Bad), .int .i64 (((gseeS yb13 ((gputS u0 (x27.tmod 15) u1).1) 1).1).State)] 24, .own (tyInt .u8) 5 ao86 cap87 ((gputS u0 (x27.tmod 15) u1).1), .row b13 [.int .i64 (((gseeS yb13 ((gputS u0 (x27.tmod 15) u1).1) 1).1).Key), .int .i64 (((gseeS yb13 ((gputS u0 (x27.tmod 15) u1).1) 1).1).Last), .int .i64 (((gseeS yb13 ((gputS u0 (x27.tmod 15) u1).1) 1).1).Bad), .int .i64 (((gseeS yb13 ((gputS u0 (x27.tmod 15) u1).1) 1).1).State)] 24, hle293, hF339.region (by kernel_rfl) (by kernel_rfl), hMx.perm (List.Perm.refl _), cu84, cu85, cu86, cu87, cu88, kf, (nt hx6), (nt hx7), (nt hx8), (nt hx9), rfl, rfl, kf, (nt hx10), rfl, cf0, (nt hx9)⟩
       · -- 6: binOp
        obtain rfl := Option.some.inj hi
        have hx5 := hpre 5 (by kernel_rfl)
        have hx6 := hSi
        have hx7 := negF hcl 7 6 (by kernel_rfl) hx6
        have hx8 := negF hcl 8 7 (by kernel_rfl) hx7
        have hx9 := negF hcl 9 6 (by kernel_rfl) hx6
        have hx10 := negF hcl 10 6 (by kernel_rfl) hx6
        obtain rfl := cu89 hx5
        obtain rfl := cr0_0
        obtain rfl := cr1_0
        obtain rfl := cr2_0 hx10
        obtain rfl := cr3_0
        refine hG (any_step ?_); clear hG G; intro A J hJ
        have hle0 := Fz.le.trans hle0 hle293
        have hs341 := hs60.mono hle293
        have hs342 := hleL47.mono hle293
        refine s1 hFx 90 (.int .i64 (u3.tmod 8)) ?_; intro a343 hF344; clear hFx
        refine nl (qnI (hJ _ _ ?_)); clear hJ J
        exact ⟨g266, g283, ud84, ud85, ud86, ud87, ud88, .int .i64 u3, .int .i64 (u3.tmod 8), ud91, ud92, ud93, .row b165 [.int .i64 (((gseeS ((gseeS yb13 ((gputS u0 (x27.tmod 15) u1).1) 1).1) ((gputS u0 (x27.tmod 15) u1).1) 1).1).Key), .int .i64 (((gseeS ((gseeS yb13 ((gputS u0 (x27.tmod 15) u1).1) 1).1) ((gputS u0 (x27.tmod 15) u1).1) 1).1).Last), .int .i64 (((gseeS ((gseeS yb13 ((gputS u0 (x27.tmod 15) u1).1) 1).1) ((gputS u0 (x27.tmod 15) u1).1) 1).1).Bad), .int .i64 (((gseeS ((gseeS yb13 ((gputS u0 (x27.tmod 15) u1).1) 1).1) ((gputS u0 (x27.tmod 15) u1).1) 1).1).State)] 24, .row b137 [.int .i64 (((gseeS yb13 ((gputS u0 (x27.tmod 15) u1).1) 1).1).Key), .int .i64 (((gseeS yb13 ((gputS u0 (x27.tmod 15) u1).1) 1).1).Last), .int .i64 (((gseeS yb13 ((gputS u0 (x27.tmod 15) u1).1) 1).1).Bad), .int .i64 (((gseeS yb13 ((gputS u0 (x27.tmod 15) u1).1) 1).1).State)] 24, .own (tyInt .u8) 5 ao86 cap87 ((gputS u0 (x27.tmod 15) u1).1), .row b13 [.int .i64 (((gseeS yb13 ((gputS u0 (x27.tmod 15) u1).1) 1).1).Key), .int .i64 (((gseeS yb13 ((gputS u0 (x27.tmod 15) u1).1) 1).1).Last), .int .i64 (((gseeS yb13 ((gputS u0 (x27.tmod 15) u1).1) 1).1).Bad), .int .i64 (((gseeS yb13 ((gputS u0 (x27.tmod 15) u1).1) 1).1).State)] 24, hle293, hF344.region (by kernel_rfl) (by kernel_rfl), hMx.perm (List.Perm.refl _), cu84, cu85, cu86, cu87, cu88, kf, kf, (nt hx7), (nt hx8), (nt hx9), rfl, rfl, kf, (nt hx10), rfl, cf0, (nt hx9)⟩
       · -- 7: binOp
        obtain rfl := Option.some.inj hi
        have hx6 := hpre 6 (by kernel_rfl)
        have hx5 := hcl 6 5 (by kernel_rfl) hx6
        have hx7 := hSi
        have hx8 := negF hcl 8 7 (by kernel_rfl) hx7
        have hx9 := negF hcl 9 7 (by kernel_rfl) hx7
        have hx10 := negF hcl 10 7 (by kernel_rfl) hx7
        obtain rfl := cu89 hx5
        obtain rfl := cu90 hx6
        obtain rfl := cr0_0
        obtain rfl := cr1_0
        obtain rfl := cr2_0 hx10
        obtain rfl := cr3_0
        refine hG (any_step ?_); clear hG G; intro A J hJ
        have hle0 := Fz.le.trans hle0 hle293
        have hs346 := hs60.mono hle293
        have hs347 := hleL47.mono hle293
        refine st hFx (.int .u8 (bShl .u8 1 (u3.tmod 8))) (nog rfl _) rfl (by kernel_rfl) (shl_run hFx (g := []) (k' := .i64) rfl (by kernel_rfl) (by kernel_rfl) hcd7_0 rfl) ?_; intro a348 hF349; clear hFx
        refine nl (qnI (hJ _ _ ?_)); clear hJ J
        exact ⟨g266, g283, ud84, ud85, ud86, ud87, ud88, .int .i64 u3, .int .i64 (u3.tmod 8), .int .u8 (bShl .u8 1 (u3.tmod 8)), ud92, ud93, .row b165 [.int .i64 (((gseeS ((gseeS yb13 ((gputS u0 (x27.tmod 15) u1).1) 1).1) ((gputS u0 (x27.tmod 15) u1).1) 1).1).Key), .int .i64 (((gseeS ((gseeS yb13 ((gputS u0 (x27.tmod 15) u1).1) 1).1) ((gputS u0 (x27.tmod 15) u1).1) 1).1).Last), .int .i64 (((gseeS ((gseeS yb13 ((gputS u0 (x27.tmod 15) u1).1) 1).1) ((gputS u0 (x27.tmod 15) u1).1) 1).1).Bad), .int .i64 (((gseeS ((gseeS yb13 ((gputS u0 (x27.tmod 15) u1).1) 1).1) ((gputS u0 (x27.tmod 15) u1).1) 1).1).State)] 24, .row b137 [.int .i64 (((gseeS yb13 ((gputS u0 (x27.tmod 15) u1).1) 1).1).Key), .int .i64 (((gseeS yb13 ((gputS u0 (x27.tmod 15) u1).1) 1).1).Last), .int .i64 (((gseeS yb13 ((gputS u0 (x27.tmod 15) u1).1) 1).1).Bad), .int .i64 (((gseeS yb13 ((gputS u0 (x27.tmod 15) u1).1) 1).1).State)] 24, .own (tyInt .u8) 5 ao86 cap87 ((gputS u0 (x27.tmod 15) u1).1), .row b13 [.int .i64 (((gseeS yb13 ((gputS u0 (x27.tmod 15) u1).1) 1).1).Key), .int .i64 (((gseeS yb13 ((gputS u0 (x27.tmod 15) u1).1) 1).1).Last), .int .i64 (((gseeS yb13 ((gputS u0 (x27.tmod 15) u1).1) 1).1).Bad), .int .i64 (((gseeS yb13 ((gputS u0 (x27.tmod 15) u1).1) 1).1).State)] 24, hle293, hF349.region (by kernel_rfl) (by kernel_rfl), hMx.perm (List.Perm.refl _), cu84, cu85, cu86, cu87, cu88, kf, kf, kf, (nt hx8), (nt hx9), rfl, rfl, kf, (nt hx10), rfl, cf0, (nt hx9)⟩
       · -- 8: binOp
        obtain rfl := Option.some.inj hi
        have hx7 := hpre 7 (by kernel_rfl)
        have hx4 := hpre 4 (by kernel_rfl)
        have hx6 := hcl 7 6 (by kernel_rfl) hx7
        have hx3 := hcl 4 3 (by kernel_rfl) hx4
        have hx5 := hcl 6 5 (by kernel_rfl) hx6
        have hx2 := hcl 3 2 (by kernel_rfl) hx3
        have hx0 := hcl 3 0 (by kernel_rfl) hx3
        have hx1 := hcl 2 1 (by kernel_rfl) hx2
        have hx8 := hSi
        have hx9 := negF hcl 9 8 (by kernel_rfl) hx8
        have hx10 := negF hcl 10 8 (by kernel_rfl) hx8
        obtain rfl := cu84 hx0
        obtain rfl := cu85 hx1
        obtain rfl := cu86 hx2
        obtain rfl := cu87 hx3
        obtain rfl := cu88 hx4
        obtain rfl := cu89 hx5
        obtain rfl := cu90 hx6
        obtain rfl := cu91 hx7
        obtain rfl := cr0_0
        obtain rfl := cr1_0
        obtain rfl := cr2_0 hx10
        obtain rfl := cr3_0
        refine hG (any_step ?_); clear hG G; intro A J hJ
        have hle0 := Fz.le.trans hle0 hle293
        have hs351 := hs60.mono hle293
        have hs352 := hleL47.mono hle293
        have hs353 := cf0 hx3
        refine s1 hFx 92 (.int .u8 (bXor .u8 qd4_0 (bShl .u8 1 (u3.tmod 8)))) ?_; intro a354 hF355; clear hFx
        refine nl (qnI (hJ _ _ ?_)); clear hJ J
        exact ⟨g266, g283, .slice ao86 ((gputS u0 (x27.tmod 15) u1).1).length cap87, .int .i64 u3, .int .i64 (w64 (u3.tdiv 8)), .pointer (some ⟨g266, (w64 (u3.tdiv 8)).toNat * 1, none⟩), .int .u8 qd4_0, .int .i64 u3, .int .i64 (u3.tmod 8), .int .u8 (bShl .u8 1 (u3.tmod 8)), .int .u8 (bXor .u8 qd4_0 (bShl .u8 1 (u3.tmod 8))), ud93, .row b165 [.int .i64 (((gseeS ((gseeS yb13 ((gputS u0 (x27.tmod 15) u1).1) 1).1) ((gputS u0 (x27.tmod 15) u1).1) 1).1).Key), .int .i64 (((gseeS ((gseeS yb13 ((gputS u0 (x27.tmod 15) u1).1) 1).1) ((gputS u0 (x27.tmod 15) u1).1) 1).1).Last), .int .i64 (((gseeS ((gseeS yb13 ((gputS u0 (x27.tmod 15) u1).1) 1).1) ((gputS u0 (x27.tmod 15) u1).1) 1).1).Bad), .int .i64 (((gseeS ((gseeS yb13 ((gputS u0 (x27.tmod 15) u1).1) 1).1) ((gputS u0 (x27.tmod 15) u1).1) 1).1).State)] 24, .row b137 [.int .i64 (((gseeS yb13 ((gputS u0 (x27.tmod 15) u1).1) 1).1).Key), .int .i64 (((gseeS yb13 ((gputS u0 (x27.tmod 15) u1).1) 1).1).Last), .int .i64 (((gseeS yb13 ((gputS u0 (x27.tmod 15) u1).1) 1).1).Bad), .int .i64 (((gseeS yb13 ((gputS u0 (x27.tmod 15) u1).1) 1).1).State)] 24, .own (tyInt .u8) 5 ao86 cap87 ((gputS u0 (x27.tmod 15) u1).1), .row b13 [.int .i64 (((gseeS yb13 ((gputS u0 (x27.tmod 15) u1).1) 1).1).Key), .int .i64 (((gseeS yb13 ((gputS u0 (x27.tmod 15) u1).1) 1).1).Last), .int .i64 (((gseeS yb13 ((gputS u0 (x27.tmod 15) u1).1) 1).1).Bad), .int .i64 (((gseeS yb13 ((gputS u0 (x27.tmod 15) u1).1) 1).1).State)] 24, hle293, hF355.region (by kernel_rfl) (by kernel_rfl), hMx.perm (List.Perm.refl _), kf, kf, kf, kf, kf, kf, kf, kf, kf, (nt hx9), rfl, rfl, kf, (nt hx10), rfl, (fun _ => hs353), (nt hx9)⟩
       · -- 9: indexAddr
        obtain rfl := Option.some.inj hi
        have hx8 := hpre 8 (by kernel_rfl)
        have hx7 := hpre 7 (by kernel_rfl)
        have hx6 := hpre 6 (by kernel_rfl)
        have hx5 := hpre 5 (by kernel_rfl)
        have hx4 := hpre 4 (by kernel_rfl)
        have hx3 := hpre 3 (by kernel_rfl)
        have hx2 := hpre 2 (by kernel_rfl)
        have hx1 := hpre 1 (by kernel_rfl)
        have hx0 := hpre 0 (by kernel_rfl)
        have hx9 := hSi
        have hx10 := negF hcl 10 9 (by kernel_rfl) hx9
        obtain rfl := cu84 hx0
        obtain rfl := cu85 hx1
        obtain rfl := cu86 hx2
        obtain rfl := cu87 hx3
        obtain rfl := cu88 hx4
        obtain rfl := cu89 hx5
        obtain rfl := cu90 hx6
        obtain rfl := cu91 hx7
        obtain rfl := cu92 hx8
        obtain rfl := cr0_0
        obtain rfl := cr1_0
        obtain rfl := cr2_0 hx10
        obtain rfl := cr3_0
        refine hG (any_step ?_); clear hG G; intro A J hJ
        have hle0 := Fz.le.trans hle0 hle293
        have hs357 := hs60.mono hle293
        have hs358 := hleL47.mono hle293
        have hs359 := cf0 hx3
        refine ixo hFx hMx 2 (T := (tyInt .u8)) (xs := (gputS u0 (x27.tmod 15) u1).1) (w64 (u3.tdiv 8)) hcd9_0 (k := .i64) (e := 5) (bytes := 1) (nog rfl _) rfl (by kernel_rfl) rfl (by kernel_rfl) (by kernel_rfl) rfl (by kernel_rfl) ?_; intro g360 a362 hg361 hF363; clear hFx
        refine nl (qnI (hJ _ _ ?_)); clear hJ J
        exact ⟨g266, g360, .slice ao86 ((gputS u0 (x27.tmod 15) u1).1).length cap87, .int .i64 u3, .int .i64 (w64 (u3.tdiv 8)), .pointer (some ⟨g266, (w64 (u3.tdiv 8)).toNat * 1, none⟩), .int .u8 qd4_0, .int .i64 u3, .int .i64 (u3.tmod 8), .int .u8 (bShl .u8 1 (u3.tmod 8)), .int .u8 (bXor .u8 qd4_0 (bShl .u8 1 (u3.tmod 8))), .pointer (some ⟨g360, (w64 (u3.tdiv 8)).toNat * 1, none⟩), .row b165 [.int .i64 (((gseeS ((gseeS yb13 ((gputS u0 (x27.tmod 15) u1).1) 1).1) ((gputS u0 (x27.tmod 15) u1).1) 1).1).Key), .int .i64 (((gseeS ((gseeS yb13 ((gputS u0 (x27.tmod 15) u1).1) 1).1) ((gputS u0 (x27.tmod 15) u1).1) 1).1).Last), .int .i64 (((gseeS ((gseeS yb13 ((gputS u0 (x27.tmod 15) u1).1) 1).1) ((gputS u0 (x27.tmod 15) u1).1) 1).1).Bad), .int .i64 (((gseeS ((gseeS yb13 ((gputS u0 (x27.tmod 15) u1).1) 1).1) ((gputS u0 (x27.tmod 15) u1).1) 1).1).State)] 24, .row b137 [.int .i64 (((gseeS yb13 ((gputS u0 (x27.tmod 15) u1).1) 1).1).Key), .int .i64 (((gseeS yb13 ((gputS u0 (x27.tmod 15) u1).1) 1).1).Last), .int .i64 (((gseeS yb13 ((gputS u0 (x27.tmod 15) u1).1) 1).1).Bad), .int .i64 (((gseeS yb13 ((gputS u0 (x27.tmod 15) u1).1) 1).1).State)] 24, .own (tyInt .u8) 5 ao86 cap87 ((gputS u0 (x27.tmod 15) u1).1), .row b13 [.int .i64 (((gseeS yb13 ((gputS u0 (x27.tmod 15) u1).1) 1).1).Key), .int .i64 (((gseeS yb13 ((gputS u0 (x27.tmod 15) u1).1) 1).1).Last), .int .i64 (((gseeS yb13 ((gputS u0 (x27.tmod 15) u1).1) 1).1).Bad), .int .i64 (((gseeS yb13 ((gputS u0 (x27.tmod 15) u1).1) 1).1).State)] 24, hle293, hF363.region (by kernel_rfl) (by kernel_rfl), hMx.perm (List.Perm.refl _), kf, kf, kf, kf, kf, kf, kf, kf, kf, kf, rfl, rfl, kf, (nt hx10), rfl, (fun _ => hs359), (fun _ => hg361)⟩
       · -- 10: store
        obtain rfl := Option.some.inj hi
        have hx9 := hpre 9 (by kernel_rfl)
        have hx8 := hpre 8 (by kernel_rfl)
        have hx7 := hpre 7 (by kernel_rfl)
        have hx6 := hpre 6 (by kernel_rfl)
        have hx5 := hpre 5 (by kernel_rfl)
        have hx4 := hpre 4 (by kernel_rfl)
        have hx3 := hpre 3 (by kernel_rfl)
        have hx2 := hpre 2 (by kernel_rfl)
        have hx1 := hpre 1 (by kernel_rfl)
        have hx0 := hpre 0 (by kernel_rfl)
        have hx10 := hSi
        obtain rfl := cu84 hx0
        obtain rfl := cu85 hx1
        obtain rfl := cu86 hx2
        obtain rfl := cu87 hx3
        obtain rfl := cu88 hx4
        obtain rfl := cu89 hx5
        obtain rfl := cu90 hx6
        obtain rfl := cu91 hx7
        obtain rfl := cu92 hx8
        obtain rfl := cu93 hx9
        obtain rfl := cr0_0
        obtain rfl := cr1_0
        obtain rfl := cr2_0 hx10
        obtain rfl := cr3_0
        refine hG (any_step ?_); clear hG G; intro A J hJ
        have hle0 := Fz.le.trans hle0 hle293
        have hs365 := hs60.mono hle293
        have hs366 := hleL47.mono hle293
        have hs367 := cf0 hx3
        have hs368 := cf1 hx9
        refine sox hFx hMx 2 hs368 (T := (tyInt .u8)) (xs := (gputS u0 (x27.tmod 15) u1).1) (w64 (u3.tdiv 8)).toNat (bXor .u8 qd4_0 (bShl .u8 1 (u3.tmod 8))) (u := .int .u8 (bXor .u8 qd4_0 (bShl .u8 1 (u3.tmod 8)))) (nog rfl _) rfl rfl (by kernel_rfl) rfl (by kernel_rfl) rfl (by kernel_rfl) (by simp only [List.length_set] at *; omega) rfl ?_; intro wd369 hM370; clear hMx
        refine nl (qnI (hJ _ _ ?_)); clear hJ J
        exact ⟨g266, g283, .slice ao86 ((gputS u0 (x27.tmod 15) u1).1).length cap87, .int .i64 u3, .int .i64 (w64 (u3.tdiv 8)), .pointer (some ⟨g266, (w64 (u3.tdiv 8)).toNat * 1, none⟩), .int .u8 qd4_0, .int .i64 u3, .int .i64 (u3.tmod 8), .int .u8 (bShl .u8 1 (u3.tmod 8)), .int .u8 (bXor .u8 qd4_0 (bShl .u8 1 (u3.tmod 8))), .pointer (some ⟨g283, (w64 (u3.tdiv 8)).toNat * 1, none⟩), .row b165 [.int .i64 (((gseeS ((gseeS yb13 ((gputS u0 (x27.tmod 15) u1).1) 1).1) ((gputS u0 (x27.tmod 15) u1).1) 1).1).Key), .int .i64 (((gseeS ((gseeS yb13 ((gputS u0 (x27.tmod 15) u1).1) 1).1) ((gputS u0 (x27.tmod 15) u1).1) 1).1).Last), .int .i64 (((gseeS ((gseeS yb13 ((gputS u0 (x27.tmod 15) u1).1) 1).1) ((gputS u0 (x27.tmod 15) u1).1) 1).1).Bad), .int .i64 (((gseeS ((gseeS yb13 ((gputS u0 (x27.tmod 15) u1).1) 1).1) ((gputS u0 (x27.tmod 15) u1).1) 1).1).State)] 24, .row b137 [.int .i64 (((gseeS yb13 ((gputS u0 (x27.tmod 15) u1).1) 1).1).Key), .int .i64 (((gseeS yb13 ((gputS u0 (x27.tmod 15) u1).1) 1).1).Last), .int .i64 (((gseeS yb13 ((gputS u0 (x27.tmod 15) u1).1) 1).1).Bad), .int .i64 (((gseeS yb13 ((gputS u0 (x27.tmod 15) u1).1) 1).1).State)] 24, .own (tyInt .u8) 5 ao86 cap87 (((gputS u0 (x27.tmod 15) u1).1).set (w64 (u3.tdiv 8)).toNat (bXor .u8 qd4_0 (bShl .u8 1 (u3.tmod 8)))), .row b13 [.int .i64 (((gseeS yb13 ((gputS u0 (x27.tmod 15) u1).1) 1).1).Key), .int .i64 (((gseeS yb13 ((gputS u0 (x27.tmod 15) u1).1) 1).1).Last), .int .i64 (((gseeS yb13 ((gputS u0 (x27.tmod 15) u1).1) 1).1).Bad), .int .i64 (((gseeS yb13 ((gputS u0 (x27.tmod 15) u1).1) 1).1).State)] 24, hle293, hFx.region (by kernel_rfl) (by kernel_rfl), hM370.perm (List.Perm.refl _), kf, kf, kf, kf, kf, kf, kf, kf, kf, kf, rfl, rfl, nu, kf, rfl, (fun _ => hs367), (fun _ => hs368)⟩
      case hE =>
       intro S hS a372 wd373 hI; refine hid ?_; intro G hG; obtain ⟨g266, hI⟩ := hI; obtain ⟨g283, hI⟩ := hI; obtain ⟨ud84, hI⟩ := hI; obtain ⟨ud85, hI⟩ := hI; obtain ⟨ud86, hI⟩ := hI; obtain ⟨ud87, hI⟩ := hI; obtain ⟨ud88, hI⟩ := hI; obtain ⟨ud89, hI⟩ := hI; obtain ⟨ud90, hI⟩ := hI; obtain ⟨ud91, hI⟩ := hI; obtain ⟨ud92, hI⟩ := hI; obtain ⟨ud93, hI⟩ := hI; obtain ⟨rh0, hI⟩ := hI; obtain ⟨rh1, hI⟩ := hI; obtain ⟨rh2, hI⟩ := hI; obtain ⟨rh3, hI⟩ := hI; obtain ⟨hle293, hI⟩ := hI; obtain ⟨hFx, hI⟩ := hI; obtain ⟨hMx, hI⟩ := hI; obtain ⟨cu84, hI⟩ := hI; obtain ⟨cu85, hI⟩ := hI; obtain ⟨cu86, hI⟩ := hI; obtain ⟨cu87, hI⟩ := hI; obtain ⟨cu88, hI⟩ := hI; obtain ⟨cu89, hI⟩ := hI; obtain ⟨cu90, hI⟩ := hI; obtain ⟨cu91, hI⟩ := hI; obtain ⟨cu92, hI⟩ := hI; obtain ⟨cu93, hI⟩ := hI; obtain ⟨cr0_0, hI⟩ := hI; obtain ⟨cr1_0, hI⟩ := hI; obtain ⟨cr2_0, hI⟩ := hI; obtain ⟨cr2_1, hI⟩ := hI; obtain ⟨cr3_0, hI⟩ := hI; obtain ⟨cf0, hI⟩ := hI; have cf1 := hI; clear hI; refine hG ?_; clear hG G
       obtain rfl := cu84 (hS 0 (by decide))
       obtain rfl := cu85 (hS 1 (by decide))
       obtain rfl := cu86 (hS 2 (by decide))
       obtain rfl := cu87 (hS 3 (by decide))
       obtain rfl := cu88 (hS 4 (by decide))
       obtain rfl := cu89 (hS 5 (by decide))
       obtain rfl := cu90 (hS 6 (by decide))
       obtain rfl := cu91 (hS 7 (by decide))
       obtain rfl := cu92 (hS 8 (by decide))
       obtain rfl := cu93 (hS 9 (by decide))
       obtain rfl := cr0_0
       obtain rfl := cr1_0
       obtain rfl := cr2_1 (hS 10 (by decide))
       obtain rfl := cr3_0
       have hle0 := Fz.le.trans hle0 hle293
       have hs374 := hs60.mono hle293
       have hs375 := hleL47.mono hle293
       have hs376 := cf0 (hS 3 (by decide))
       have hs377 := cf1 (hS 9 (by decide))
       have hl378 : (((gputS u0 (x27.tmod 15) u1).1).set (w64 (u3.tdiv 8)).toNat (bXor .u8 qd4_0 (bShl .u8 1 (u3.tmod 8)))).length = ((gputS u0 (x27.tmod 15) u1).1).length := by simp; try omega
       have hF379 : Fr 114 [] [⟨0, [], .int .i64 u0⟩, ⟨1, [], .slice ao1 u1.length cap2⟩, ⟨3, [], .int .i64 u3⟩, ⟨9, [], .pointer (some ⟨b13, 0, none⟩)⟩, ⟨11, [], .slice ao86 (((gputS u0 (x27.tmod 15) u1).1).set (w64 (u3.tdiv 8)).toNat (bXor .u8 qd4_0 (bShl .u8 1 (u3.tmod 8)))).length cap87⟩, ⟨26, [], .int .i64 20⟩, ⟨27, [], .int .i64 x27⟩, ⟨84, [], .slice ao86 (((gputS u0 (x27.tmod 15) u1).1).set (w64 (u3.tdiv 8)).toNat (bXor .u8 qd4_0 (bShl .u8 1 (u3.tmod 8)))).length cap87⟩, ⟨85, [], .int .i64 u3⟩, ⟨86, [], .int .i64 (w64 (u3.tdiv 8))⟩, ⟨87, [], .pointer (some ⟨g266, (w64 (u3.tdiv 8)).toNat * 1, none⟩)⟩, ⟨88, [], .int .u8 qd4_0⟩, ⟨89, [], .int .i64 u3⟩, ⟨90, [], .int .i64 (u3.tmod 8)⟩, ⟨91, [], .int .u8 (bShl .u8 1 (u3.tmod 8))⟩, ⟨92, [], .int .u8 (bXor .u8 qd4_0 (bShl .u8 1 (u3.tmod 8)))⟩, ⟨93, [], .pointer (some ⟨g283, (w64 (u3.tdiv 8)).toNat * 1, none⟩)⟩] a372 := by rw [hl378]; exact hFx.region (by kernel_rfl) (by kernel_rfl)
       clear hFx
       refine thn ?_
       have hF380 : Fr 114 [] [⟨0, [], .int .i64 u0⟩, ⟨1, [], .slice ao1 u1.length cap2⟩, ⟨3, [], .int .i64 u3⟩, ⟨9, [], .pointer (some ⟨b13, 0, none⟩)⟩, ⟨11, [], .slice ao86 (((gputS u0 (x27.tmod 15) u1).1).set (w64 (u3.tdiv 8)).toNat (bXor .u8 qd4_0 (bShl .u8 1 (u3.tmod 8)))).length cap87⟩, ⟨26, [], .int .i64 20⟩, ⟨27, [], .int .i64 x27⟩] a372 := hF379.region (by kernel_rfl) (by kernel_rfl); clear hF379
       refine sqH ?_; intro hQ381Q hQ381
       refine l2 hF380 hMx 95 3 0 4 [.int .i64 (((gseeS yb13 ((gputS u0 (x27.tmod 15) u1).1) 1).1).Key), .int .i64 (((gseeS yb13 ((gputS u0 (x27.tmod 15) u1).1) 1).1).Last), .int .i64 (((gseeS yb13 ((gputS u0 (x27.tmod 15) u1).1) 1).1).Bad), .int .i64 (((gseeS yb13 ((gputS u0 (x27.tmod 15) u1).1) 1).1).State)] rfl rfl ?_; intro a382 hF383; clear hF380
       refine s1 hF383 96 (.slice ao86 (((gputS u0 (x27.tmod 15) u1).1).set (w64 (u3.tdiv 8)).toNat (bXor .u8 qd4_0 (bShl .u8 1 (u3.tmod 8)))).length cap87) ?_; intro a384 hF385; clear hF383
       have hc387 := hp292.1; have hp388 := hp292.2; clear hp292
       refine fcl hF385 hMx (.tuple #[.agg #[.int .i64 (((gseeS ((gseeS yb13 ((gputS u0 (x27.tmod 15) u1).1) 1).1) (((gputS u0 (x27.tmod 15) u1).1).set (w64 (u3.tdiv 8)).toNat (bXor .u8 qd4_0 (bShl .u8 1 (u3.tmod 8)))) 14).1).Key), .int .i64 (((gseeS ((gseeS yb13 ((gputS u0 (x27.tmod 15) u1).1) 1).1) (((gputS u0 (x27.tmod 15) u1).1).set (w64 (u3.tdiv 8)).toNat (bXor .u8 qd4_0 (bShl .u8 1 (u3.tmod 8)))) 14).1).Last), .int .i64 (((gseeS ((gseeS yb13 ((gputS u0 (x27.tmod 15) u1).1) 1).1) (((gputS u0 (x27.tmod 15) u1).1).set (w64 (u3.tdiv 8)).toNat (bXor .u8 qd4_0 (bShl .u8 1 (u3.tmod 8)))) 14).1).Bad), .int .i64 (((gseeS ((gseeS yb13 ((gputS u0 (x27.tmod 15) u1).1) 1).1) (((gputS u0 (x27.tmod 15) u1).1).set (w64 (u3.tdiv 8)).toNat (bXor .u8 qd4_0 (bShl .u8 1 (u3.tmod 8)))) 14).1).State)], .int .i64 ((gseeS ((gseeS yb13 ((gputS u0 (x27.tmod 15) u1).1) 1).1) (((gputS u0 (x27.tmod 15) u1).1).set (w64 (u3.tdiv 8)).toNat (bXor .u8 qd4_0 (bShl .u8 1 (u3.tmod 8)))) 14).2)]) 14 #[.agg #[.int .i64 (((gseeS yb13 ((gputS u0 (x27.tmod 15) u1).1) 1).1).Key), .int .i64 (((gseeS yb13 ((gputS u0 (x27.tmod 15) u1).1) 1).1).Last), .int .i64 (((gseeS yb13 ((gputS u0 (x27.tmod 15) u1).1) 1).1).Bad), .int .i64 (((gseeS yb13 ((gputS u0 (x27.tmod 15) u1).1) 1).1).State)], .slice ao86 (((gputS u0 (x27.tmod 15) u1).1).set (w64 (u3.tdiv 8)).toNat (bXor .u8 qd4_0 (bShl .u8 1 (u3.tmod 8)))).length cap87, .int .i64 14] (nog rfl _) rfl (by kernel_rfl) (fun _ => by kernel_rfl) ((by obtain ⟨Z9, hle9, hon9, hs386⟩ := hMx.lend 2 rfl; exact gsee_fun ((gseeS yb13 ((gputS u0 (x27.tmod 15) u1).1) 1).1) (((gputS u0 (x27.tmod 15) u1).1).set (w64 (u3.tdiv 8)).toNat (bXor .u8 qd4_0 (bShl .u8 1 (u3.tmod 8)))) 14 hc387 ao86 cap87 _ _ hs386 hon9)) ?_; intro a389 wd391 hF390 hM392; clear hF385 hMx
       refine s1 hF390 94 (.tuple #[.agg #[.int .i64 (((gseeS ((gseeS yb13 ((gputS u0 (x27.tmod 15) u1).1) 1).1) (((gputS u0 (x27.tmod 15) u1).1).set (w64 (u3.tdiv 8)).toNat (bXor .u8 qd4_0 (bShl .u8 1 (u3.tmod 8)))) 14).1).Key), .int .i64 (((gseeS ((gseeS yb13 ((gputS u0 (x27.tmod 15) u1).1) 1).1) (((gputS u0 (x27.tmod 15) u1).1).set (w64 (u3.tdiv 8)).toNat (bXor .u8 qd4_0 (bShl .u8 1 (u3.tmod 8)))) 14).1).Last), .int .i64 (((gseeS ((gseeS yb13 ((gputS u0 (x27.tmod 15) u1).1) 1).1) (((gputS u0 (x27.tmod 15) u1).1).set (w64 (u3.tdiv 8)).toNat (bXor .u8 qd4_0 (bShl .u8 1 (u3.tmod 8)))) 14).1).Bad), .int .i64 (((gseeS ((gseeS yb13 ((gputS u0 (x27.tmod 15) u1).1) 1).1) (((gputS u0 (x27.tmod 15) u1).1).set (w64 (u3.tdiv 8)).toNat (bXor .u8 qd4_0 (bShl .u8 1 (u3.tmod 8)))) 14).1).State)], .int .i64 ((gseeS ((gseeS yb13 ((gputS u0 (x27.tmod 15) u1).1) 1).1) (((gputS u0 (x27.tmod 15) u1).1).set (w64 (u3.tdiv 8)).toNat (bXor .u8 qd4_0 (bShl .u8 1 (u3.tmod 8)))) 14).2)]) ?_; intro a393 hF394; clear hF390
       refine s1 hF394 98 (.agg #[.int .i64 (((gseeS ((gseeS yb13 ((gputS u0 (x27.tmod 15) u1).1) 1).1) (((gputS u0 (x27.tmod 15) u1).1).set (w64 (u3.tdiv 8)).toNat (bXor .u8 qd4_0 (bShl .u8 1 (u3.tmod 8)))) 14).1).Key), .int .i64 (((gseeS ((gseeS yb13 ((gputS u0 (x27.tmod 15) u1).1) 1).1) (((gputS u0 (x27.tmod 15) u1).1).set (w64 (u3.tdiv 8)).toNat (bXor .u8 qd4_0 (bShl .u8 1 (u3.tmod 8)))) 14).1).Last), .int .i64 (((gseeS ((gseeS yb13 ((gputS u0 (x27.tmod 15) u1).1) 1).1) (((gputS u0 (x27.tmod 15) u1).1).set (w64 (u3.tdiv 8)).toNat (bXor .u8 qd4_0 (bShl .u8 1 (u3.tmod 8)))) 14).1).Bad), .int .i64 (((gseeS ((gseeS yb13 ((gputS u0 (x27.tmod 15) u1).1) 1).1) (((gputS u0 (x27.tmod 15) u1).1).set (w64 (u3.tdiv 8)).toNat (bXor .u8 qd4_0 (bShl .u8 1 (u3.tmod 8)))) 14).1).State)]) ?_; intro a395 hF396; clear hF394
       refine s1 hF396 99 (.int .i64 ((gseeS ((gseeS yb13 ((gputS u0 (x27.tmod 15) u1).1) 1).1) (((gputS u0 (x27.tmod 15) u1).1).set (w64 (u3.tdiv 8)).toNat (bXor .u8 qd4_0 (bShl .u8 1 (u3.tmod 8)))) 14).2)) ?_; intro a397 hF398; clear hF396
       refine sn hF398 hM392 (fun b => .pointer (some ⟨b, 0, none⟩)) [.int .i64 0, .int .i64 0, .int .i64 0, .int .i64 0] 24 (nog rfl _) rfl (by kernel_rfl) (by kernel_rfl) ?_; intro b399 a400 wd402 hF401 hM403; clear hF398 hM392
       refine sr hF401 hM403 0 [.int .i64 (((gseeS ((gseeS yb13 ((gputS u0 (x27.tmod 15) u1).1) 1).1) (((gputS u0 (x27.tmod 15) u1).1).set (w64 (u3.tdiv 8)).toNat (bXor .u8 qd4_0 (bShl .u8 1 (u3.tmod 8)))) 14).1).Key), .int .i64 (((gseeS ((gseeS yb13 ((gputS u0 (x27.tmod 15) u1).1) 1).1) (((gputS u0 (x27.tmod 15) u1).1).set (w64 (u3.tdiv 8)).toNat (bXor .u8 qd4_0 (bShl .u8 1 (u3.tmod 8)))) 14).1).Last), .int .i64 (((gseeS ((gseeS yb13 ((gputS u0 (x27.tmod 15) u1).1) 1).1) (((gputS u0 (x27.tmod 15) u1).1).set (w64 (u3.tdiv 8)).toNat (bXor .u8 qd4_0 (bShl .u8 1 (u3.tmod 8)))) 14).1).Bad), .int .i64 (((gseeS ((gseeS yb13 ((gputS u0 (x27.tmod 15) u1).1) 1).1) (((gputS u0 (x27.tmod 15) u1).1).set (w64 (u3.tdiv 8)).toNat (bXor .u8 qd4_0 (bShl .u8 1 (u3.tmod 8)))) 14).1).State)] (b := b399) (off := 0) (cs := [.int .i64 0, .int .i64 0, .int .i64 0, .int .i64 0]) (ty := 24) (u := .agg #[.int .i64 (((gseeS ((gseeS yb13 ((gputS u0 (x27.tmod 15) u1).1) 1).1) (((gputS u0 (x27.tmod 15) u1).1).set (w64 (u3.tdiv 8)).toNat (bXor .u8 qd4_0 (bShl .u8 1 (u3.tmod 8)))) 14).1).Key), .int .i64 (((gseeS ((gseeS yb13 ((gputS u0 (x27.tmod 15) u1).1) 1).1) (((gputS u0 (x27.tmod 15) u1).1).set (w64 (u3.tdiv 8)).toNat (bXor .u8 qd4_0 (bShl .u8 1 (u3.tmod 8)))) 14).1).Last), .int .i64 (((gseeS ((gseeS yb13 ((gputS u0 (x27.tmod 15) u1).1) 1).1) (((gputS u0 (x27.tmod 15) u1).1).set (w64 (u3.tdiv 8)).toNat (bXor .u8 qd4_0 (bShl .u8 1 (u3.tmod 8)))) 14).1).Bad), .int .i64 (((gseeS ((gseeS yb13 ((gputS u0 (x27.tmod 15) u1).1) 1).1) (((gputS u0 (x27.tmod 15) u1).1).set (w64 (u3.tdiv 8)).toNat (bXor .u8 qd4_0 (bShl .u8 1 (u3.tmod 8)))) 14).1).State)]) (nog rfl _) rfl rfl (by kernel_rfl) (by kernel_rfl) (by kernel_rfl) (by kernel_rfl) (by kernel_rfl) (by kernel_rfl) (by kernel_rfl) ?_; intro wd404 hM405; clear hM403
       refine s1 hF401 17 (.int .i64 ((gseeS ((gseeS yb13 ((gputS u0 (x27.tmod 15) u1).1) 1).1) (((gputS u0 (x27.tmod 15) u1).1).set (w64 (u3.tdiv 8)).toNat (bXor .u8 qd4_0 (bShl .u8 1 (u3.tmod 8)))) 14).2)) ?_; intro a406 hF407; clear hF401
       have hM408 : Mem w.heap.size [] w Z [.row b399 [.int .i64 (((gseeS ((gseeS yb13 ((gputS u0 (x27.tmod 15) u1).1) 1).1) (((gputS u0 (x27.tmod 15) u1).1).set (w64 (u3.tdiv 8)).toNat (bXor .u8 qd4_0 (bShl .u8 1 (u3.tmod 8)))) 14).1).Key), .int .i64 (((gseeS ((gseeS yb13 ((gputS u0 (x27.tmod 15) u1).1) 1).1) (((gputS u0 (x27.tmod 15) u1).1).set (w64 (u3.tdiv 8)).toNat (bXor .u8 qd4_0 (bShl .u8 1 (u3.tmod 8)))) 14).1).Last), .int .i64 (((gseeS ((gseeS yb13 ((gputS u0 (x27.tmod 15) u1).1) 1).1) (((gputS u0 (x27.tmod 15) u1).1).set (w64 (u3.tdiv 8)).toNat (bXor .u8 qd4_0 (bShl .u8 1 (u3.tmod 8)))) 14).1).Bad), .int .i64 (((gseeS ((gseeS yb13 ((gputS u0 (x27.tmod 15) u1).1) 1).1) (((gputS u0 (x27.tmod 15) u1).1).set (w64 (u3.tdiv 8)).toNat (bXor .u8 qd4_0 (bShl .u8 1 (u3.tmod 8)))) 14).1).State)] 24, .row b165 [.int .i64 (((gseeS ((gseeS yb13 ((gputS u0 (x27.tmod 15) u1).1) 1).1) ((gputS u0 (x27.tmod 15) u1).1) 1).1).Key), .int .i64 (((gseeS ((gseeS yb13 ((gputS u0 (x27.tmod 15) u1).1) 1).1) ((gputS u0 (x27.tmod 15) u1).1) 1).1).Last), .int .i64 (((gseeS ((gseeS yb13 ((gputS u0 (x27.tmod 15) u1).1) 1).1) ((gputS u0 (x27.tmod 15) u1).1) 1).1).Bad), .int .i64 (((gseeS ((gseeS yb13 ((gputS u0 (x27.tmod 15) u1).1) 1).1) ((gputS u0 (x27.tmod 15) u1).1) 1).1).State)] 24, .row b137 [.int .i64 (((gseeS yb13 ((gputS u0 (x27.tmod 15) u1).1) 1).1).Key), .int .i64 (((gseeS yb13 ((gputS u0 (x27.tmod 15) u1).1) 1).1).Last), .int .i64 (((gseeS yb13 ((gputS u0 (x27.tmod 15) u1).1) 1).1).Bad), .int .i64 (((gseeS yb13 ((gputS u0 (x27.tmod 15) u1).1) 1).1).State)] 24, .own (tyInt .u8) 5 ao86 cap87 (((gputS u0 (x27.tmod 15) u1).1).set (w64 (u3.tdiv 8)).toNat (bXor .u8 qd4_0 (bShl .u8 1 (u3.tmod 8)))), .row b13 [.int .i64 (((gseeS yb13 ((gputS u0 (x27.tmod 15) u1).1) 1).1).Key), .int .i64 (((gseeS yb13 ((gputS u0 (x27.tmod 15) u1).1) 1).1).Last), .int .i64 (((gseeS yb13 ((gputS u0 (x27.tmod 15) u1).1) 1).1).Bad), .int .i64 (((gseeS yb13 ((gputS u0 (x27.tmod 15) u1).1) 1).1).State)] 24] Z88 wd404 := hM405; clear hM405
       refine nlH (hQ381 _ _ ?_); clear hQ381 hQ381Q
       refine sqH ?_; intro hQ409Q hQ409
       refine s1 hF407 100 (.int .i64 ((gseeS ((gseeS yb13 ((gputS u0 (x27.tmod 15) u1).1) 1).1) (((gputS u0 (x27.tmod 15) u1).1).set (w64 (u3.tdiv 8)).toNat (bXor .u8 qd4_0 (bShl .u8 1 (u3.tmod 8)))) 14).2)) ?_; intro a410 hF411; clear hF407
       refine s1 hF411 101 (.bool (((gseeS ((gseeS yb13 ((gputS u0 (x27.tmod 15) u1).1) 1).1) (((gputS u0 (x27.tmod 15) u1).1).set (w64 (u3.tdiv 8)).toNat (bXor .u8 qd4_0 (bShl .u8 1 (u3.tmod 8)))) 14).2) != 0)) ?_; intro a412 hF413; clear hF411
       refine s1 hF413 102 (.bool (((gseeS ((gseeS yb13 ((gputS u0 (x27.tmod 15) u1).1) 1).1) (((gputS u0 (x27.tmod 15) u1).1).set (w64 (u3.tdiv 8)).toNat (bXor .u8 qd4_0 (bShl .u8 1 (u3.tmod 8)))) 14).2) != 0)) ?_; intro a414 hF415; clear hF413
       have hF416 := hF415.atom ((((gseeS ((gseeS yb13 ((gputS u0 (x27.tmod 15) u1).1) 1).1) (((gputS u0 (x27.tmod 15) u1).1).set (w64 (u3.tdiv 8)).toNat (bXor .u8 qd4_0 (bShl .u8 1 (u3.tmod 8)))) 14).2) != 0) == false) (by kernel_rfl); clear hF415
       refine gp hF416 103 0 [] (((gseeS ((gseeS yb13 ((gputS u0 (x27.tmod 15) u1).1) 1).1) (((gputS u0 (x27.tmod 15) u1).1).set (w64 (u3.tdiv 8)).toNat (bXor .u8 qd4_0 (bShl .u8 1 (u3.tmod 8)))) 14).2) != 0) (.pointer (some ⟨b399, 3, none⟩)) rfl rfl ?_; intro a417 hF418; clear hF416
       refine gd hF418 (.int .i64 (((gseeS ((gseeS yb13 ((gputS u0 (x27.tmod 15) u1).1) 1).1) (((gputS u0 (x27.tmod 15) u1).1).set (w64 (u3.tdiv 8)).toNat (bXor .u8 qd4_0 (bShl .u8 1 (u3.tmod 8)))) 14).1).State)) (m := 0) (cj := []) (bj := ((gseeS ((gseeS yb13 ((gputS u0 (x27.tmod 15) u1).1) 1).1) (((gputS u0 (x27.tmod 15) u1).1).set (w64 (u3.tdiv 8)).toNat (bXor .u8 qd4_0 (bShl .u8 1 (u3.tmod 8)))) 14).2) != 0) rfl rfl (by kernel_rfl) rfl (by kernel_rfl) (by kernel_rfl) (by kernel_rfl) (fun hg => ld hF418 hM408 0 (g := [0]) (b := b399) (off := 3) (cs := [.int .i64 (((gseeS ((gseeS yb13 ((gputS u0 (x27.tmod 15) u1).1) 1).1) (((gputS u0 (x27.tmod 15) u1).1).set (w64 (u3.tdiv 8)).toNat (bXor .u8 qd4_0 (bShl .u8 1 (u3.tmod 8)))) 14).1).Key), .int .i64 (((gseeS ((gseeS yb13 ((gputS u0 (x27.tmod 15) u1).1) 1).1) (((gputS u0 (x27.tmod 15) u1).1).set (w64 (u3.tdiv 8)).toNat (bXor .u8 qd4_0 (bShl .u8 1 (u3.tmod 8)))) 14).1).Last), .int .i64 (((gseeS ((gseeS yb13 ((gputS u0 (x27.tmod 15) u1).1) 1).1) (((gputS u0 (x27.tmod 15) u1).1).set (w64 (u3.tdiv 8)).toNat (bXor .u8 qd4_0 (bShl .u8 1 (u3.tmod 8)))) 14).1).Bad), .int .i64 (((gseeS ((gseeS yb13 ((gputS u0 (x27.tmod 15) u1).1) 1).1) (((gputS u0 (x27.tmod 15) u1).1).set (w64 (u3.tdiv 8)).toNat (bXor .u8 qd4_0 (bShl .u8 1 (u3.tmod 8)))) 14).1).State)]) (ty := 24) rfl (by kernel_rfl) (by kernel_rfl) (by kernel_rfl) (by kernel_rfl) hg) ?_; intro a419 hF420; clear hF418
       refine gp hF420 105 0 [] (((gseeS ((gseeS yb13 ((gputS u0 (x27.tmod 15) u1).1) 1).1) (((gputS u0 (x27.tmod 15) u1).1).set (w64 (u3.tdiv 8)).toNat (bXor .u8 qd4_0 (bShl .u8 1 (u3.tmod 8)))) 14).2) != 0) (.bool ((((gseeS ((gseeS yb13 ((gputS u0 (x27.tmod 15) u1).1) 1).1) (((gputS u0 (x27.tmod 15) u1).1).set (w64 (u3.tdiv 8)).toNat (bXor .u8 qd4_0 (bShl .u8 1 (u3.tmod 8)))) 14).1).State) != 4)) rfl rfl ?_; intro a421 hF422; clear hF420
       refine st hF422 (.bool ((((gseeS ((gseeS yb13 ((gputS u0 (x27.tmod 15) u1).1) 1).1) (((gputS u0 (x27.tmod 15) u1).1).set (w64 (u3.tdiv 8)).toNat (bXor .u8 qd4_0 (bShl .u8 1 (u3.tmod 8)))) 14).2) != 0) || ((((gseeS ((gseeS yb13 ((gputS u0 (x27.tmod 15) u1).1) 1).1) (((gputS u0 (x27.tmod 15) u1).1).set (w64 (u3.tdiv 8)).toNat (bXor .u8 qd4_0 (bShl .u8 1 (u3.tmod 8)))) 14).1).State) != 4))) (nog rfl _) rfl (by kernel_rfl) (pk_or hF422 (g := []) (m := 0) (b := ((gseeS ((gseeS yb13 ((gputS u0 (x27.tmod 15) u1).1) 1).1) (((gputS u0 (x27.tmod 15) u1).1).set (w64 (u3.tdiv 8)).toNat (bXor .u8 qd4_0 (bShl .u8 1 (u3.tmod 8)))) 14).2) != 0) (v := (((gseeS ((gseeS yb13 ((gputS u0 (x27.tmod 15) u1).1) 1).1) (((gputS u0 (x27.tmod 15) u1).1).set (w64 (u3.tdiv 8)).toNat (bXor .u8 qd4_0 (bShl .u8 1 (u3.tmod 8)))) 14).1).State) != 4) rfl (by kernel_rfl) (by kernel_rfl) (by kernel_rfl) rfl) ?_; intro a423 hF424; clear hF422
       refine s1 hF424 107 (.bool ((((gseeS ((gseeS yb13 ((gputS u0 (x27.tmod 15) u1).1) 1).1) (((gputS u0 (x27.tmod 15) u1).1).set (w64 (u3.tdiv 8)).toNat (bXor .u8 qd4_0 (bShl .u8 1 (u3.tmod 8)))) 14).2) != 0) || ((((gseeS ((gseeS yb13 ((gputS u0 (x27.tmod 15) u1).1) 1).1) (((gputS u0 (x27.tmod 15) u1).1).set (w64 (u3.tdiv 8)).toNat (bXor .u8 qd4_0 (bShl .u8 1 (u3.tmod 8)))) 14).1).State) != 4))) ?_; intro a425 hF426; clear hF424
       have hF427 := hF426.atom (((((gseeS ((gseeS yb13 ((gputS u0 (x27.tmod 15) u1).1) 1).1) (((gputS u0 (x27.tmod 15) u1).1).set (w64 (u3.tdiv 8)).toNat (bXor .u8 qd4_0 (bShl .u8 1 (u3.tmod 8)))) 14).2) != 0) || ((((gseeS ((gseeS yb13 ((gputS u0 (x27.tmod 15) u1).1) 1).1) (((gputS u0 (x27.tmod 15) u1).1).set (w64 (u3.tdiv 8)).toNat (bXor .u8 qd4_0 (bShl .u8 1 (u3.tmod 8)))) 14).1).State) != 4)) == false) (by kernel_rfl); clear hF426
       refine gp hF427 108 1 [] ((((gseeS ((gseeS yb13 ((gputS u0 (x27.tmod 15) u1).1) 1).1) (((gputS u0 (x27.tmod 15) u1).1).set (w64 (u3.tdiv 8)).toNat (bXor .u8 qd4_0 (bShl .u8 1 (u3.tmod 8)))) 14).2) != 0) || ((((gseeS ((gseeS yb13 ((gputS u0 (x27.tmod 15) u1).1) 1).1) (((gputS u0 (x27.tmod 15) u1).1).set (w64 (u3.tdiv 8)).toNat (bXor .u8 qd4_0 (bShl .u8 1 (u3.tmod 8)))) 14).1).State) != 4)) (.pointer (some ⟨b399, 2, none⟩)) rfl rfl ?_; intro a428 hF429; clear hF427
       refine gd hF429 (.int .i64 (((gseeS ((gseeS yb13 ((gputS u0 (x27.tmod 15) u1).1) 1).1) (((gputS u0 (x27.tmod 15) u1).1).set (w64 (u3.tdiv 8)).toNat (bXor .u8 qd4_0 (bShl .u8 1 (u3.tmod 8)))) 14).1).Bad)) (m := 1) (cj := []) (bj := (((gseeS ((gseeS yb13 ((gputS u0 (x27.tmod 15) u1).1) 1).1) (((gputS u0 (x27.tmod 15) u1).1).set (w64 (u3.tdiv 8)).toNat (bXor .u8 qd4_0 (bShl .u8 1 (u3.tmod 8)))) 14).2) != 0) || ((((gseeS ((gseeS yb13 ((gputS u0 (x27.tmod 15) u1).1) 1).1) (((gputS u0 (x27.tmod 15) u1).1).set (w64 (u3.tdiv 8)).toNat (bXor .u8 qd4_0 (bShl .u8 1 (u3.tmod 8)))) 14).1).State) != 4)) rfl rfl (by kernel_rfl) rfl (by kernel_rfl) (by kernel_rfl) (by kernel_rfl) (fun hg => ld hF429 hM408 0 (g := [1]) (b := b399) (off := 2) (cs := [.int .i64 (((gseeS ((gseeS yb13 ((gputS u0 (x27.tmod 15) u1).1) 1).1) (((gputS u0 (x27.tmod 15) u1).1).set (w64 (u3.tdiv 8)).toNat (bXor .u8 qd4_0 (bShl .u8 1 (u3.tmod 8)))) 14).1).Key), .int .i64 (((gseeS ((gseeS yb13 ((gputS u0 (x27.tmod 15) u1).1) 1).1) (((gputS u0 (x27.tmod 15) u1).1).set (w64 (u3.tdiv 8)).toNat (bXor .u8 qd4_0 (bShl .u8 1 (u3.tmod 8)))) 14).1).Last), .int .i64 (((gseeS ((gseeS yb13 ((gputS u0 (x27.tmod 15) u1).1) 1).1) (((gputS u0 (x27.tmod 15) u1).1).set (w64 (u3.tdiv 8)).toNat (bXor .u8 qd4_0 (bShl .u8 1 (u3.tmod 8)))) 14).1).Bad), .int .i64 (((gseeS ((gseeS yb13 ((gputS u0 (x27.tmod 15) u1).1) 1).1) (((gputS u0 (x27.tmod 15) u1).1).set (w64 (u3.tdiv 8)).toNat (bXor .u8 qd4_0 (bShl .u8 1 (u3.tmod 8)))) 14).1).State)]) (ty := 24) rfl (by kernel_rfl) (by kernel_rfl) (by kernel_rfl) (by kernel_rfl) hg) ?_; intro a430 hF431; clear hF429
       refine gp hF431 110 1 [] ((((gseeS ((gseeS yb13 ((gputS u0 (x27.tmod 15) u1).1) 1).1) (((gputS u0 (x27.tmod 15) u1).1).set (w64 (u3.tdiv 8)).toNat (bXor .u8 qd4_0 (bShl .u8 1 (u3.tmod 8)))) 14).2) != 0) || ((((gseeS ((gseeS yb13 ((gputS u0 (x27.tmod 15) u1).1) 1).1) (((gputS u0 (x27.tmod 15) u1).1).set (w64 (u3.tdiv 8)).toNat (bXor .u8 qd4_0 (bShl .u8 1 (u3.tmod 8)))) 14).1).State) != 4)) (.bool ((((gseeS ((gseeS yb13 ((gputS u0 (x27.tmod 15) u1).1) 1).1) (((gputS u0 (x27.tmod 15) u1).1).set (w64 (u3.tdiv 8)).toNat (bXor .u8 qd4_0 (bShl .u8 1 (u3.tmod 8)))) 14).1).Bad) != 1)) rfl rfl ?_; intro a432 hF433; clear hF431
       refine st hF433 (.bool (((((gseeS ((gseeS yb13 ((gputS u0 (x27.tmod 15) u1).1) 1).1) (((gputS u0 (x27.tmod 15) u1).1).set (w64 (u3.tdiv 8)).toNat (bXor .u8 qd4_0 (bShl .u8 1 (u3.tmod 8)))) 14).2) != 0) || ((((gseeS ((gseeS yb13 ((gputS u0 (x27.tmod 15) u1).1) 1).1) (((gputS u0 (x27.tmod 15) u1).1).set (w64 (u3.tdiv 8)).toNat (bXor .u8 qd4_0 (bShl .u8 1 (u3.tmod 8)))) 14).1).State) != 4)) || ((((gseeS ((gseeS yb13 ((gputS u0 (x27.tmod 15) u1).1) 1).1) (((gputS u0 (x27.tmod 15) u1).1).set (w64 (u3.tdiv 8)).toNat (bXor .u8 qd4_0 (bShl .u8 1 (u3.tmod 8)))) 14).1).Bad) != 1))) (nog rfl _) rfl (by kernel_rfl) (pk_or hF433 (g := []) (m := 1) (b := (((gseeS ((gseeS yb13 ((gputS u0 (x27.tmod 15) u1).1) 1).1) (((gputS u0 (x27.tmod 15) u1).1).set (w64 (u3.tdiv 8)).toNat (bXor .u8 qd4_0 (bShl .u8 1 (u3.tmod 8)))) 14).2) != 0) || ((((gseeS ((gseeS yb13 ((gputS u0 (x27.tmod 15) u1).1) 1).1) (((gputS u0 (x27.tmod 15) u1).1).set (w64 (u3.tdiv 8)).toNat (bXor .u8 qd4_0 (bShl .u8 1 (u3.tmod 8)))) 14).1).State) != 4)) (v := (((gseeS ((gseeS yb13 ((gputS u0 (x27.tmod 15) u1).1) 1).1) (((gputS u0 (x27.tmod 15) u1).1).set (w64 (u3.tdiv 8)).toNat (bXor .u8 qd4_0 (bShl .u8 1 (u3.tmod 8)))) 14).1).Bad) != 1) rfl (by kernel_rfl) (by kernel_rfl) (by kernel_rfl) rfl) ?_; intro a434 hF435; clear hF433
       refine nlH (hQ409 _ _ ?_); clear hQ409 hQ409Q
       refine cd hF435 (t := ((((gseeS ((gseeS yb13 ((gputS u0 (x27.tmod 15) u1).1) 1).1) (((gputS u0 (x27.tmod 15) u1).1).set (w64 (u3.tdiv 8)).toNat (bXor .u8 qd4_0 (bShl .u8 1 (u3.tmod 8)))) 14).2) != 0) || ((((gseeS ((gseeS yb13 ((gputS u0 (x27.tmod 15) u1).1) 1).1) (((gputS u0 (x27.tmod 15) u1).1).set (w64 (u3.tdiv 8)).toNat (bXor .u8 qd4_0 (bShl .u8 1 (u3.tmod 8)))) 14).1).State) != 4)) || ((((gseeS ((gseeS yb13 ((gputS u0 (x27.tmod 15) u1).1) 1).1) (((gputS u0 (x27.tmod 15) u1).1).set (w64 (u3.tdiv 8)).toNat (bXor .u8 qd4_0 (bShl .u8 1 (u3.tmod 8)))) 14).1).Bad) != 1)) (by kernel_rfl) (fun hb436 => ?_) (fun hb436 => ?_)
       · -- yes
        have hp437 := hp388.1 hb436; clear hp388
        have hF438 : Fr 114 [] [] a434 := hF435.region (by kernel_rfl) (by kernel_rfl); clear hF435
        refine sqH ?_; intro hQ439Q hQ439
        refine s1 hF438 8 (.bool false) ?_; intro a440 hF441; clear hF438
        refine nlH (hQ439 _ _ ?_); clear hQ439 hQ439Q
        refine wp_ret ?_
        refine ibr ?_
        refine thr ?_
        refine thr ?_
        refine ibr ?_
        refine thr ?_
        refine rt (fn := Try.f3) (v := .bool false) hF441 (re1 hF441 (fn := Try.f3) rfl (by kernel_rfl)) ?_
        exact ⟨false, rfl, hp437, hM408.below⟩
       · -- no
        have hp442 := hp388.2 hb436; clear hp388
        refine wp_skip ?_
        refine ibn ?_
        refine thn ?_
        have hF443 : Fr 114 [] [⟨0, [], .int .i64 u0⟩, ⟨1, [], .slice ao1 u1.length cap2⟩, ⟨3, [], .int .i64 u3⟩, ⟨9, [], .pointer (some ⟨b13, 0, none⟩)⟩, ⟨26, [], .int .i64 20⟩, ⟨27, [], .int .i64 x27⟩] a434 := hF435.region (by kernel_rfl) (by kernel_rfl); clear hF435
        refine rgH ?_; intro hQ444Q hQ444
        refine s1 hF443 112 (.int .i64 (w64 (x27 + 1))) ?_; intro a445 hF446; clear hF443
        refine s1 hF446 27 (.int .i64 (w64 (x27 + 1))) ?_; intro a447 hF448; clear hF446
        refine nlH (hQ444 _ _ ?_); clear hQ444 hQ444Q
        refine rd ?_
        exact ⟨⟨w64 (x27 + 1), ((gseeS yb13 ((gputS u0 (x27.tmod 15) u1).1) 1).1), Z88⟩, ⟨hp442.1, hs375⟩, hp442.2, (hF448.region (by kernel_rfl) (by kernel_rfl)).anyβ _ (by kernel_rfl), hM408.keep (List.Sublist.cons _ (List.Sublist.cons _ (List.Sublist.cons _ (List.Sublist.cons _ (List.Sublist.cons_cons _ (List.Sublist.slnil))))))⟩
     · -- no
      have hp449 := hp229.2 hb257; clear hp229
      refine wp_skip ?_
      refine ibn ?_
      refine thn ?_
      have hF450 : Fr 114 [] [⟨0, [], .int .i64 u0⟩, ⟨1, [], .slice ao1 u1.length cap2⟩, ⟨3, [], .int .i64 u3⟩, ⟨9, [], .pointer (some ⟨b13, 0, none⟩)⟩, ⟨26, [], .int .i64 20⟩, ⟨27, [], .int .i64 x27⟩] a255 := hF256.region (by kernel_rfl) (by kernel_rfl); clear hF256
      refine rgH ?_; intro hQ451Q hQ451
      refine s1 hF450 112 (.int .i64 (w64 (x27 + 1))) ?_; intro a452 hF453; clear hF450
      refine s1 hF453 27 (.int .i64 (w64 (x27 + 1))) ?_; intro a454 hF455; clear hF453
      refine nlH (hQ451 _ _ ?_); clear hQ451 hQ451Q
      refine rd ?_
      exact ⟨⟨w64 (x27 + 1), ((gseeS yb13 ((gputS u0 (x27.tmod 15) u1).1) 1).1), Z88⟩, ⟨hp449.1, hleL47⟩, hp449.2, (hF455.region (by kernel_rfl) (by kernel_rfl)).anyβ _ (by kernel_rfl), hM236.keep (List.Sublist.cons _ (List.Sublist.cons _ (List.Sublist.cons _ (List.Sublist.cons_cons _ (List.Sublist.slnil)))))⟩
  · -- no
   have hp456 := hp59.2 hb64; clear hp59
   refine wp_exit ?_
   refine thx ?_
   refine thx ?_
   refine ibx ?_
   refine thn ?_
   refine sqH ?_; intro hQ457Q hQ457
   refine fcl hF63 hM58 (.bool true) 13 #[] (nog rfl _) rfl (by kernel_rfl) (fun _ => by kernel_rfl) (guarded_fun  _ _ hM58.fz) ?_; intro a458 wd460 hF459 hM461; clear hF63 hM58
   refine s1 hF459 8 (.bool true) ?_; intro a462 hF463; clear hF459
   refine nlH (hQ457 _ _ ?_); clear hQ457 hQ457Q
   refine wp_ret ?_
   refine rt (fn := Try.f3) (v := .bool true) hF463 (re1 hF463 (fn := Try.f3) rfl (by kernel_rfl)) ?_
   exact ⟨true, rfl, hp456, hM461.below⟩
 · -- no
  have hp464 := hp4.2 hb35; clear hp4
  refine wp_skip ?_
  refine thn ?_
  refine wp_seq ?_
  have hF465 : Fr 114 [] [⟨0, [], .int .i64 u0⟩, ⟨1, [], .slice ao1 u1.length cap2⟩, ⟨2, [], .int .i64 u2⟩, ⟨3, [], .int .i64 u3⟩, ⟨9, [], .pointer (some ⟨b13, 0, none⟩)⟩] a33 := hF34.region (by kernel_rfl) (by kernel_rfl); clear hF34
  refine sqH ?_; intro hQ466Q hQ466
  refine s1 hF465 26 (.int .i64 u2) ?_; intro a467 hF468; clear hF465
  refine s1 hF468 27 (.int .i64 0) ?_; intro a469 hF470; clear hF468
  refine nlH (hQ466 _ _ ?_); clear hQ466 hQ466Q
  refine wp_block ?_
  have hF471 : Fr 114 [] [⟨0, [], .int .i64 u0⟩, ⟨1, [], .slice ao1 u1.length cap2⟩, ⟨3, [], .int .i64 u3⟩, ⟨9, [], .pointer (some ⟨b13, 0, none⟩)⟩, ⟨26, [], .int .i64 u2⟩, ⟨27, [], .int .i64 0⟩] a469 := hF470.region (by kernel_rfl) (by kernel_rfl); clear hF470
  have hF473 : Fr 114 [] [⟨0, [], .int .i64 u0⟩, ⟨1, [], .slice ao1 u1.length cap2⟩, ⟨3, [], .int .i64 u3⟩, ⟨9, [], .pointer (some ⟨b13, 0, none⟩)⟩, ⟨26, [], .int .i64 u2⟩, ⟨27, [], .int .i64 0⟩] a469 := hF471.region (by kernel_rfl) (by kernel_rfl); clear hF471
  obtain ⟨inv472, mu472, hI476, hr475⟩ := hp464
  have hle477 := hle0
  refine lp (ι := Int × Guard × Fz) (fun (s : Int × Guard × Fz) => [⟨0, [], .int .i64 u0⟩, ⟨1, [], .slice ao1 u1.length cap2⟩, ⟨3, [], .int .i64 u3⟩, ⟨9, [], .pointer (some ⟨b13, 0, none⟩)⟩, ⟨26, [], .int .i64 u2⟩, ⟨27, [], .int .i64 s.1⟩]) (fun (s : Int × Guard × Fz) => [.row b13 [.int .i64 s.2.1.Key, .int .i64 s.2.1.Last, .int .i64 s.2.1.Bad, .int .i64 s.2.1.State] 24]) (fun (s : Int × Guard × Fz) => s.2.2) (fun (s : Int × Guard × Fz) => inv472 s.1 s.2.1 ∧ Fz.le Z s.2.2) (fun (s : Int × Guard × Fz) => mu472 s.1 s.2.1) ⟨0, (⟨u0, -1, 0, 0⟩ : Guard), Z⟩ ⟨hI476, Fz.le.refl _⟩ (by exact hF473.region (by kernel_rfl) (by kernel_rfl)) (by exact hM20) ?_
  rintro ⟨x27, yb13, ZL472⟩ ⟨hI474, hleL472⟩ a478 wd479 hF480 hM481
  have hF482 : Fr 114 [] [⟨0, [], .int .i64 u0⟩, ⟨1, [], .slice ao1 u1.length cap2⟩, ⟨3, [], .int .i64 u3⟩, ⟨9, [], .pointer (some ⟨b13, 0, none⟩)⟩, ⟨26, [], .int .i64 u2⟩, ⟨27, [], .int .i64 x27⟩] a478 := hF480; clear hF480 hF473
  have hM483 : Mem w.heap.size [] w Z [.row b13 [.int .i64 yb13.Key, .int .i64 yb13.Last, .int .i64 yb13.Bad, .int .i64 yb13.State] 24] ZL472 wd479 := hM481; clear hM481 hM20
  have hp484 := hr475 x27 yb13 hI474
  replace hle0 := Fz.le.trans hle0 hleL472
  have hs485 := hs3.mono hleL472
  refine sqH ?_; intro hQ486Q hQ486
  refine s1 hF482 28 (.bool (decide (x27 < u2))) ?_; intro a487 hF488; clear hF482
  refine nlH (hQ486 _ _ ?_); clear hQ486 hQ486Q
  refine wp_seq ?_
  refine cd hF488 (t := decide (x27 < u2)) (by kernel_rfl) (fun hb489 => ?_) (fun hb489 => ?_)
  · -- yes
   have hp490 := hp484.1 hb489; clear hp484
   refine wp_skip ?_
   refine thn ?_
   refine wp_seq ?_
   refine wp_block ?_
   refine sqH ?_; intro hQ491Q hQ491
   refine s1 hF488 29 (.int .i64 x27) ?_; intro a492 hF493; clear hF488
   refine s1 hF493 10 (.int .i64 x27) ?_; intro a494 hF495; clear hF493
   refine nlH (hQ491 _ _ ?_); clear hQ491 hQ491Q
   refine sqH ?_; intro hQ496Q hQ496
   refine s1 hF495 31 (.int .i64 u0) ?_; intro a497 hF498; clear hF495
   refine s1 hF498 32 (.int .i64 x27) ?_; intro a499 hF500; clear hF498
   refine s1 hF500 33 (.int .i64 (x27.tmod 15)) ?_; intro a501 hF502; clear hF500
   refine s1 hF502 34 (.slice ao1 u1.length cap2) ?_; intro a503 hF504; clear hF502
   have hc505 := hp490.1; have hp506 := hp490.2; clear hp490
   refine cl hF504 12 #[.int .i64 u0, .int .i64 (x27.tmod 15), .slice ao1 u1.length cap2] (nog rfl _) rfl (by kernel_rfl) (by kernel_rfl) ?_
   refine (gput_fun u0 (x27.tmod 15) u1 hc505 ao1 cap2 _ _ hs485 hM483.fz).mono ?_; rintro _ wd507 ⟨ao511, cap512, Z513, rfl, hm⟩; refine ⟨_, rfl, ?_⟩; intro a508 hF509; have hM510 := hM483.callZ hm; have hle514 := hm.ext.le; clear hm hM483 hF504
   replace hs485 := hs485.mono hle514
   replace hleL472 := hleL472.mono hle514
   replace hle0 := Fz.le.trans hle0 hle514
   have hM515 : Mem w.heap.size [] w Z [.own (tyInt .u8) 5 ao511 cap512 ((gputS u0 (x27.tmod 15) u1).1), .row b13 [.int .i64 yb13.Key, .int .i64 yb13.Last, .int .i64 yb13.Bad, .int .i64 yb13.State] 24] Z513 wd507 := hM510; clear hM510
   have hp516 := hp506 (hM515.ownSmall 0 rfl); clear hp506
   refine s1 hF509 30 (.tuple #[.slice ao511 ((gputS u0 (x27.tmod 15) u1).1).length cap512, .int .i64 ((gputS u0 (x27.tmod 15) u1).2)]) ?_; intro a517 hF518; clear hF509
   refine s1 hF518 36 (.slice ao511 ((gputS u0 (x27.tmod 15) u1).1).length cap512) ?_; intro a519 hF520; clear hF518
   refine s1 hF520 37 (.int .i64 ((gputS u0 (x27.tmod 15) u1).2)) ?_; intro a521 hF522; clear hF520
   refine s1 hF522 11 (.slice ao511 ((gputS u0 (x27.tmod 15) u1).1).length cap512) ?_; intro a523 hF524; clear hF522
   refine s1 hF524 12 (.int .i64 ((gputS u0 (x27.tmod 15) u1).2)) ?_; intro a525 hF526; clear hF524
   refine nlH (hQ496 _ _ ?_); clear hQ496 hQ496Q
   refine wp_seq ?_
   refine sqH ?_; intro hQ527Q hQ527
   refine s1 hF526 38 (.int .i64 ((gputS u0 (x27.tmod 15) u1).2)) ?_; intro a528 hF529; clear hF526
   refine s1 hF529 39 (.bool (((gputS u0 (x27.tmod 15) u1).2) != 0)) ?_; intro a530 hF531; clear hF529
   refine nlH (hQ527 _ _ ?_); clear hQ527 hQ527Q
   refine cd hF531 (t := ((gputS u0 (x27.tmod 15) u1).2) != 0) (by kernel_rfl) (fun hb532 => ?_) (fun hb532 => ?_)
   · -- yes
    have hp533 := hp516.1 hb532; clear hp516
    have hF534 : Fr 114 [] [] a530 := hF531.region (by kernel_rfl) (by kernel_rfl); clear hF531
    refine sqH ?_; intro hQ535Q hQ535
    refine fcl hF534 hM515 (.bool true) 13 #[] (nog rfl _) rfl (by kernel_rfl) (fun _ => by kernel_rfl) (guarded_fun  _ _ hM515.fz) ?_; intro a536 wd538 hF537 hM539; clear hF534 hM515
    refine s1 hF537 8 (.bool true) ?_; intro a540 hF541; clear hF537
    refine nlH (hQ535 _ _ ?_); clear hQ535 hQ535Q
    refine wp_ret ?_
    refine thr ?_
    refine ibr ?_
    refine thr ?_
    refine thr ?_
    refine ibr ?_
    refine thr ?_
    refine rt (fn := Try.f3) (v := .bool true) hF541 (re1 hF541 (fn := Try.f3) rfl (by kernel_rfl)) ?_
    exact ⟨true, rfl, hp533, hM539.below⟩
   · -- no
    have hp542 := hp516.2 hb532; clear hp516
    refine wp_skip ?_
    refine thn ?_
    have hF543 : Fr 114 [] [⟨0, [], .int .i64 u0⟩, ⟨1, [], .slice ao1 u1.length cap2⟩, ⟨3, [], .int .i64 u3⟩, ⟨9, [], .pointer (some ⟨b13, 0, none⟩)⟩, ⟨11, [], .slice ao511 ((gputS u0 (x27.tmod 15) u1).1).length cap512⟩, ⟨26, [], .int .i64 u2⟩, ⟨27, [], .int .i64 x27⟩] a530 := hF531.region (by kernel_rfl) (by kernel_rfl); clear hF531
    refine sqH ?_; intro hQ544Q hQ544
    refine l2 hF543 hM515 42 1 0 4 [.int .i64 yb13.Key, .int .i64 yb13.Last, .int .i64 yb13.Bad, .int .i64 yb13.State] rfl rfl ?_; intro a545 hF546; clear hF543
    refine s1 hF546 43 (.slice ao511 ((gputS u0 (x27.tmod 15) u1).1).length cap512) ?_; intro a547 hF548; clear hF546
    have hc550 := hp542.1; have hp551 := hp542.2; clear hp542
    refine fcl hF548 hM515 (.tuple #[.agg #[.int .i64 (((gseeS yb13 ((gputS u0 (x27.tmod 15) u1).1) 1).1).Key), .int .i64 (((gseeS yb13 ((gputS u0 (x27.tmod 15) u1).1) 1).1).Last), .int .i64 (((gseeS yb13 ((gputS u0 (x27.tmod 15) u1).1) 1).1).Bad), .int .i64 (((gseeS yb13 ((gputS u0 (x27.tmod 15) u1).1) 1).1).State)], .int .i64 ((gseeS yb13 ((gputS u0 (x27.tmod 15) u1).1) 1).2)]) 14 #[.agg #[.int .i64 yb13.Key, .int .i64 yb13.Last, .int .i64 yb13.Bad, .int .i64 yb13.State], .slice ao511 ((gputS u0 (x27.tmod 15) u1).1).length cap512, .int .i64 1] (nog rfl _) rfl (by kernel_rfl) (fun _ => by kernel_rfl) ((by obtain ⟨Z9, hle9, hon9, hs549⟩ := hM515.lend 0 rfl; exact gsee_fun yb13 ((gputS u0 (x27.tmod 15) u1).1) 1 hc550 ao511 cap512 _ _ hs549 hon9)) ?_; intro a552 wd554 hF553 hM555; clear hF548 hM515
    refine s1 hF553 41 (.tuple #[.agg #[.int .i64 (((gseeS yb13 ((gputS u0 (x27.tmod 15) u1).1) 1).1).Key), .int .i64 (((gseeS yb13 ((gputS u0 (x27.tmod 15) u1).1) 1).1).Last), .int .i64 (((gseeS yb13 ((gputS u0 (x27.tmod 15) u1).1) 1).1).Bad), .int .i64 (((gseeS yb13 ((gputS u0 (x27.tmod 15) u1).1) 1).1).State)], .int .i64 ((gseeS yb13 ((gputS u0 (x27.tmod 15) u1).1) 1).2)]) ?_; intro a556 hF557; clear hF553
    refine s1 hF557 45 (.agg #[.int .i64 (((gseeS yb13 ((gputS u0 (x27.tmod 15) u1).1) 1).1).Key), .int .i64 (((gseeS yb13 ((gputS u0 (x27.tmod 15) u1).1) 1).1).Last), .int .i64 (((gseeS yb13 ((gputS u0 (x27.tmod 15) u1).1) 1).1).Bad), .int .i64 (((gseeS yb13 ((gputS u0 (x27.tmod 15) u1).1) 1).1).State)]) ?_; intro a558 hF559; clear hF557
    refine s1 hF559 46 (.int .i64 ((gseeS yb13 ((gputS u0 (x27.tmod 15) u1).1) 1).2)) ?_; intro a560 hF561; clear hF559
    refine sn hF561 hM555 (fun b => .pointer (some ⟨b, 0, none⟩)) [.int .i64 0, .int .i64 0, .int .i64 0, .int .i64 0] 24 (nog rfl _) rfl (by kernel_rfl) (by kernel_rfl) ?_; intro b562 a563 wd565 hF564 hM566; clear hF561 hM555
    refine sr hF564 hM566 0 [.int .i64 (((gseeS yb13 ((gputS u0 (x27.tmod 15) u1).1) 1).1).Key), .int .i64 (((gseeS yb13 ((gputS u0 (x27.tmod 15) u1).1) 1).1).Last), .int .i64 (((gseeS yb13 ((gputS u0 (x27.tmod 15) u1).1) 1).1).Bad), .int .i64 (((gseeS yb13 ((gputS u0 (x27.tmod 15) u1).1) 1).1).State)] (b := b562) (off := 0) (cs := [.int .i64 0, .int .i64 0, .int .i64 0, .int .i64 0]) (ty := 24) (u := .agg #[.int .i64 (((gseeS yb13 ((gputS u0 (x27.tmod 15) u1).1) 1).1).Key), .int .i64 (((gseeS yb13 ((gputS u0 (x27.tmod 15) u1).1) 1).1).Last), .int .i64 (((gseeS yb13 ((gputS u0 (x27.tmod 15) u1).1) 1).1).Bad), .int .i64 (((gseeS yb13 ((gputS u0 (x27.tmod 15) u1).1) 1).1).State)]) (nog rfl _) rfl rfl (by kernel_rfl) (by kernel_rfl) (by kernel_rfl) (by kernel_rfl) (by kernel_rfl) (by kernel_rfl) (by kernel_rfl) ?_; intro wd567 hM568; clear hM566
    refine s1 hF564 12 (.int .i64 ((gseeS yb13 ((gputS u0 (x27.tmod 15) u1).1) 1).2)) ?_; intro a569 hF570; clear hF564
    have hM571 : Mem w.heap.size [] w Z [.row b562 [.int .i64 (((gseeS yb13 ((gputS u0 (x27.tmod 15) u1).1) 1).1).Key), .int .i64 (((gseeS yb13 ((gputS u0 (x27.tmod 15) u1).1) 1).1).Last), .int .i64 (((gseeS yb13 ((gputS u0 (x27.tmod 15) u1).1) 1).1).Bad), .int .i64 (((gseeS yb13 ((gputS u0 (x27.tmod 15) u1).1) 1).1).State)] 24, .own (tyInt .u8) 5 ao511 cap512 ((gputS u0 (x27.tmod 15) u1).1), .row b13 [.int .i64 yb13.Key, .int .i64 yb13.Last, .int .i64 yb13.Bad, .int .i64 yb13.State] 24] Z513 wd567 := hM568; clear hM568
    refine nlH (hQ544 _ _ ?_); clear hQ544 hQ544Q
    refine sqH ?_; intro hQ572Q hQ572
    refine l2 hF570 hM571 48 0 0 4 [.int .i64 (((gseeS yb13 ((gputS u0 (x27.tmod 15) u1).1) 1).1).Key), .int .i64 (((gseeS yb13 ((gputS u0 (x27.tmod 15) u1).1) 1).1).Last), .int .i64 (((gseeS yb13 ((gputS u0 (x27.tmod 15) u1).1) 1).1).Bad), .int .i64 (((gseeS yb13 ((gputS u0 (x27.tmod 15) u1).1) 1).1).State)] rfl rfl ?_; intro a573 hF574; clear hF570
    refine s1 hF574 49 (.slice ao511 ((gputS u0 (x27.tmod 15) u1).1).length cap512) ?_; intro a575 hF576; clear hF574
    have hc578 := hp551.1; have hp579 := hp551.2; clear hp551
    refine fcl hF576 hM571 (.tuple #[.agg #[.int .i64 (((gseeS ((gseeS yb13 ((gputS u0 (x27.tmod 15) u1).1) 1).1) ((gputS u0 (x27.tmod 15) u1).1) 1).1).Key), .int .i64 (((gseeS ((gseeS yb13 ((gputS u0 (x27.tmod 15) u1).1) 1).1) ((gputS u0 (x27.tmod 15) u1).1) 1).1).Last), .int .i64 (((gseeS ((gseeS yb13 ((gputS u0 (x27.tmod 15) u1).1) 1).1) ((gputS u0 (x27.tmod 15) u1).1) 1).1).Bad), .int .i64 (((gseeS ((gseeS yb13 ((gputS u0 (x27.tmod 15) u1).1) 1).1) ((gputS u0 (x27.tmod 15) u1).1) 1).1).State)], .int .i64 ((gseeS ((gseeS yb13 ((gputS u0 (x27.tmod 15) u1).1) 1).1) ((gputS u0 (x27.tmod 15) u1).1) 1).2)]) 14 #[.agg #[.int .i64 (((gseeS yb13 ((gputS u0 (x27.tmod 15) u1).1) 1).1).Key), .int .i64 (((gseeS yb13 ((gputS u0 (x27.tmod 15) u1).1) 1).1).Last), .int .i64 (((gseeS yb13 ((gputS u0 (x27.tmod 15) u1).1) 1).1).Bad), .int .i64 (((gseeS yb13 ((gputS u0 (x27.tmod 15) u1).1) 1).1).State)], .slice ao511 ((gputS u0 (x27.tmod 15) u1).1).length cap512, .int .i64 1] (nog rfl _) rfl (by kernel_rfl) (fun _ => by kernel_rfl) ((by obtain ⟨Z9, hle9, hon9, hs577⟩ := hM571.lend 1 rfl; exact gsee_fun ((gseeS yb13 ((gputS u0 (x27.tmod 15) u1).1) 1).1) ((gputS u0 (x27.tmod 15) u1).1) 1 hc578 ao511 cap512 _ _ hs577 hon9)) ?_; intro a580 wd582 hF581 hM583; clear hF576 hM571
    refine s1 hF581 47 (.tuple #[.agg #[.int .i64 (((gseeS ((gseeS yb13 ((gputS u0 (x27.tmod 15) u1).1) 1).1) ((gputS u0 (x27.tmod 15) u1).1) 1).1).Key), .int .i64 (((gseeS ((gseeS yb13 ((gputS u0 (x27.tmod 15) u1).1) 1).1) ((gputS u0 (x27.tmod 15) u1).1) 1).1).Last), .int .i64 (((gseeS ((gseeS yb13 ((gputS u0 (x27.tmod 15) u1).1) 1).1) ((gputS u0 (x27.tmod 15) u1).1) 1).1).Bad), .int .i64 (((gseeS ((gseeS yb13 ((gputS u0 (x27.tmod 15) u1).1) 1).1) ((gputS u0 (x27.tmod 15) u1).1) 1).1).State)], .int .i64 ((gseeS ((gseeS yb13 ((gputS u0 (x27.tmod 15) u1).1) 1).1) ((gputS u0 (x27.tmod 15) u1).1) 1).2)]) ?_; intro a584 hF585; clear hF581
    refine s1 hF585 51 (.agg #[.int .i64 (((gseeS ((gseeS yb13 ((gputS u0 (x27.tmod 15) u1).1) 1).1) ((gputS u0 (x27.tmod 15) u1).1) 1).1).Key), .int .i64 (((gseeS ((gseeS yb13 ((gputS u0 (x27.tmod 15) u1).1) 1).1) ((gputS u0 (x27.tmod 15) u1).1) 1).1).Last), .int .i64 (((gseeS ((gseeS yb13 ((gputS u0 (x27.tmod 15) u1).1) 1).1) ((gputS u0 (x27.tmod 15) u1).1) 1).1).Bad), .int .i64 (((gseeS ((gseeS yb13 ((gputS u0 (x27.tmod 15) u1).1) 1).1) ((gputS u0 (x27.tmod 15) u1).1) 1).1).State)]) ?_; intro a586 hF587; clear hF585
    refine s1 hF587 52 (.int .i64 ((gseeS ((gseeS yb13 ((gputS u0 (x27.tmod 15) u1).1) 1).1) ((gputS u0 (x27.tmod 15) u1).1) 1).2)) ?_; intro a588 hF589; clear hF587
    refine sn hF589 hM583 (fun b => .pointer (some ⟨b, 0, none⟩)) [.int .i64 0, .int .i64 0, .int .i64 0, .int .i64 0] 24 (nog rfl _) rfl (by kernel_rfl) (by kernel_rfl) ?_; intro b590 a591 wd593 hF592 hM594; clear hF589 hM583
    refine sr hF592 hM594 0 [.int .i64 (((gseeS ((gseeS yb13 ((gputS u0 (x27.tmod 15) u1).1) 1).1) ((gputS u0 (x27.tmod 15) u1).1) 1).1).Key), .int .i64 (((gseeS ((gseeS yb13 ((gputS u0 (x27.tmod 15) u1).1) 1).1) ((gputS u0 (x27.tmod 15) u1).1) 1).1).Last), .int .i64 (((gseeS ((gseeS yb13 ((gputS u0 (x27.tmod 15) u1).1) 1).1) ((gputS u0 (x27.tmod 15) u1).1) 1).1).Bad), .int .i64 (((gseeS ((gseeS yb13 ((gputS u0 (x27.tmod 15) u1).1) 1).1) ((gputS u0 (x27.tmod 15) u1).1) 1).1).State)] (b := b590) (off := 0) (cs := [.int .i64 0, .int .i64 0, .int .i64 0, .int .i64 0]) (ty := 24) (u := .agg #[.int .i64 (((gseeS ((gseeS yb13 ((gputS u0 (x27.tmod 15) u1).1) 1).1) ((gputS u0 (x27.tmod 15) u1).1) 1).1).Key), .int .i64 (((gseeS ((gseeS yb13 ((gputS u0 (x27.tmod 15) u1).1) 1).1) ((gputS u0 (x27.tmod 15) u1).1) 1).1).Last), .int .i64 (((gseeS ((gseeS yb13 ((gputS u0 (x27.tmod 15) u1).1) 1).1) ((gputS u0 (x27.tmod 15) u1).1) 1).1).Bad), .int .i64 (((gseeS ((gseeS yb13 ((gputS u0 (x27.tmod 15) u1).1) 1).1) ((gputS u0 (x27.tmod 15) u1).1) 1).1).State)]) (nog rfl _) rfl rfl (by kernel_rfl) (by kernel_rfl) (by kernel_rfl) (by kernel_rfl) (by kernel_rfl) (by kernel_rfl) (by kernel_rfl) ?_; intro wd595 hM596; clear hM594
    refine s1 hF592 15 (.int .i64 ((gseeS ((gseeS yb13 ((gputS u0 (x27.tmod 15) u1).1) 1).1) ((gputS u0 (x27.tmod 15) u1).1) 1).2)) ?_; intro a597 hF598; clear hF592
    have hM599 : Mem w.heap.size [] w Z [.row b590 [.int .i64 (((gseeS ((gseeS yb13 ((gputS u0 (x27.tmod 15) u1).1) 1).1) ((gputS u0 (x27.tmod 15) u1).1) 1).1).Key), .int .i64 (((gseeS ((gseeS yb13 ((gputS u0 (x27.tmod 15) u1).1) 1).1) ((gputS u0 (x27.tmod 15) u1).1) 1).1).Last), .int .i64 (((gseeS ((gseeS yb13 ((gputS u0 (x27.tmod 15) u1).1) 1).1) ((gputS u0 (x27.tmod 15) u1).1) 1).1).Bad), .int .i64 (((gseeS ((gseeS yb13 ((gputS u0 (x27.tmod 15) u1).1) 1).1) ((gputS u0 (x27.tmod 15) u1).1) 1).1).State)] 24, .row b562 [.int .i64 (((gseeS yb13 ((gputS u0 (x27.tmod 15) u1).1) 1).1).Key), .int .i64 (((gseeS yb13 ((gputS u0 (x27.tmod 15) u1).1) 1).1).Last), .int .i64 (((gseeS yb13 ((gputS u0 (x27.tmod 15) u1).1) 1).1).Bad), .int .i64 (((gseeS yb13 ((gputS u0 (x27.tmod 15) u1).1) 1).1).State)] 24, .own (tyInt .u8) 5 ao511 cap512 ((gputS u0 (x27.tmod 15) u1).1), .row b13 [.int .i64 yb13.Key, .int .i64 yb13.Last, .int .i64 yb13.Bad, .int .i64 yb13.State] 24] Z513 wd595 := hM596; clear hM596
    refine nlH (hQ572 _ _ ?_); clear hQ572 hQ572Q
    refine wp_seq ?_
    have hF600 : Fr 114 [] [⟨0, [], .int .i64 u0⟩, ⟨1, [], .slice ao1 u1.length cap2⟩, ⟨3, [], .int .i64 u3⟩, ⟨9, [], .pointer (some ⟨b13, 0, none⟩)⟩, ⟨11, [], .slice ao511 ((gputS u0 (x27.tmod 15) u1).1).length cap512⟩, ⟨12, [], .int .i64 ((gseeS yb13 ((gputS u0 (x27.tmod 15) u1).1) 1).2)⟩, ⟨13, [], .pointer (some ⟨b562, 0, none⟩)⟩, ⟨14, [], .pointer (some ⟨b590, 0, none⟩)⟩, ⟨15, [], .int .i64 ((gseeS ((gseeS yb13 ((gputS u0 (x27.tmod 15) u1).1) 1).1) ((gputS u0 (x27.tmod 15) u1).1) 1).2)⟩, ⟨26, [], .int .i64 u2⟩, ⟨27, [], .int .i64 x27⟩] a597 := hF598.region (by kernel_rfl) (by kernel_rfl); clear hF598
    refine sqH ?_; intro hQ601Q hQ601
    refine s1 hF600 53 (.int .i64 ((gseeS yb13 ((gputS u0 (x27.tmod 15) u1).1) 1).2)) ?_; intro a602 hF603; clear hF600
    refine s1 hF603 54 (.bool (((gseeS yb13 ((gputS u0 (x27.tmod 15) u1).1) 1).2) != 0)) ?_; intro a604 hF605; clear hF603
    refine s1 hF605 55 (.bool (((gseeS yb13 ((gputS u0 (x27.tmod 15) u1).1) 1).2) != 0)) ?_; intro a606 hF607; clear hF605
    have hF608 := hF607.atom ((((gseeS yb13 ((gputS u0 (x27.tmod 15) u1).1) 1).2) != 0) == false) (by kernel_rfl); clear hF607
    refine gp hF608 56 0 [] (((gseeS yb13 ((gputS u0 (x27.tmod 15) u1).1) 1).2) != 0) (.int .i64 ((gseeS ((gseeS yb13 ((gputS u0 (x27.tmod 15) u1).1) 1).1) ((gputS u0 (x27.tmod 15) u1).1) 1).2)) rfl rfl ?_; intro a609 hF610; clear hF608
    refine gp hF610 57 0 [] (((gseeS yb13 ((gputS u0 (x27.tmod 15) u1).1) 1).2) != 0) (.bool (((gseeS ((gseeS yb13 ((gputS u0 (x27.tmod 15) u1).1) 1).1) ((gputS u0 (x27.tmod 15) u1).1) 1).2) != 0)) rfl rfl ?_; intro a611 hF612; clear hF610
    refine st hF612 (.bool ((((gseeS yb13 ((gputS u0 (x27.tmod 15) u1).1) 1).2) != 0) || (((gseeS ((gseeS yb13 ((gputS u0 (x27.tmod 15) u1).1) 1).1) ((gputS u0 (x27.tmod 15) u1).1) 1).2) != 0))) (nog rfl _) rfl (by kernel_rfl) (pk_or hF612 (g := []) (m := 0) (b := ((gseeS yb13 ((gputS u0 (x27.tmod 15) u1).1) 1).2) != 0) (v := ((gseeS ((gseeS yb13 ((gputS u0 (x27.tmod 15) u1).1) 1).1) ((gputS u0 (x27.tmod 15) u1).1) 1).2) != 0) rfl (by kernel_rfl) (by kernel_rfl) (by kernel_rfl) rfl) ?_; intro a613 hF614; clear hF612
    refine s1 hF614 59 (.bool ((((gseeS yb13 ((gputS u0 (x27.tmod 15) u1).1) 1).2) != 0) || (((gseeS ((gseeS yb13 ((gputS u0 (x27.tmod 15) u1).1) 1).1) ((gputS u0 (x27.tmod 15) u1).1) 1).2) != 0))) ?_; intro a615 hF616; clear hF614
    have hF617 := hF616.atom (((((gseeS yb13 ((gputS u0 (x27.tmod 15) u1).1) 1).2) != 0) || (((gseeS ((gseeS yb13 ((gputS u0 (x27.tmod 15) u1).1) 1).1) ((gputS u0 (x27.tmod 15) u1).1) 1).2) != 0)) == false) (by kernel_rfl); clear hF616
    refine gp hF617 60 1 [] ((((gseeS yb13 ((gputS u0 (x27.tmod 15) u1).1) 1).2) != 0) || (((gseeS ((gseeS yb13 ((gputS u0 (x27.tmod 15) u1).1) 1).1) ((gputS u0 (x27.tmod 15) u1).1) 1).2) != 0)) (.pointer (some ⟨b562, 3, none⟩)) rfl rfl ?_; intro a618 hF619; clear hF617
    refine gd hF619 (.int .i64 (((gseeS yb13 ((gputS u0 (x27.tmod 15) u1).1) 1).1).State)) (m := 1) (cj := []) (bj := (((gseeS yb13 ((gputS u0 (x27.tmod 15) u1).1) 1).2) != 0) || (((gseeS ((gseeS yb13 ((gputS u0 (x27.tmod 15) u1).1) 1).1) ((gputS u0 (x27.tmod 15) u1).1) 1).2) != 0)) rfl rfl (by kernel_rfl) rfl (by kernel_rfl) (by kernel_rfl) (by kernel_rfl) (fun hg => ld hF619 hM599 1 (g := [1]) (b := b562) (off := 3) (cs := [.int .i64 (((gseeS yb13 ((gputS u0 (x27.tmod 15) u1).1) 1).1).Key), .int .i64 (((gseeS yb13 ((gputS u0 (x27.tmod 15) u1).1) 1).1).Last), .int .i64 (((gseeS yb13 ((gputS u0 (x27.tmod 15) u1).1) 1).1).Bad), .int .i64 (((gseeS yb13 ((gputS u0 (x27.tmod 15) u1).1) 1).1).State)]) (ty := 24) rfl (by kernel_rfl) (by kernel_rfl) (by kernel_rfl) (by kernel_rfl) hg) ?_; intro a620 hF621; clear hF619
    refine gp hF621 62 1 [] ((((gseeS yb13 ((gputS u0 (x27.tmod 15) u1).1) 1).2) != 0) || (((gseeS ((gseeS yb13 ((gputS u0 (x27.tmod 15) u1).1) 1).1) ((gputS u0 (x27.tmod 15) u1).1) 1).2) != 0)) (.bool ((((gseeS yb13 ((gputS u0 (x27.tmod 15) u1).1) 1).1).State) != 1)) rfl rfl ?_; intro a622 hF623; clear hF621
    refine st hF623 (.bool (((((gseeS yb13 ((gputS u0 (x27.tmod 15) u1).1) 1).2) != 0) || (((gseeS ((gseeS yb13 ((gputS u0 (x27.tmod 15) u1).1) 1).1) ((gputS u0 (x27.tmod 15) u1).1) 1).2) != 0)) || ((((gseeS yb13 ((gputS u0 (x27.tmod 15) u1).1) 1).1).State) != 1))) (nog rfl _) rfl (by kernel_rfl) (pk_or hF623 (g := []) (m := 1) (b := (((gseeS yb13 ((gputS u0 (x27.tmod 15) u1).1) 1).2) != 0) || (((gseeS ((gseeS yb13 ((gputS u0 (x27.tmod 15) u1).1) 1).1) ((gputS u0 (x27.tmod 15) u1).1) 1).2) != 0)) (v := (((gseeS yb13 ((gputS u0 (x27.tmod 15) u1).1) 1).1).State) != 1) rfl (by kernel_rfl) (by kernel_rfl) (by kernel_rfl) rfl) ?_; intro a624 hF625; clear hF623
    refine s1 hF625 64 (.bool (((((gseeS yb13 ((gputS u0 (x27.tmod 15) u1).1) 1).2) != 0) || (((gseeS ((gseeS yb13 ((gputS u0 (x27.tmod 15) u1).1) 1).1) ((gputS u0 (x27.tmod 15) u1).1) 1).2) != 0)) || ((((gseeS yb13 ((gputS u0 (x27.tmod 15) u1).1) 1).1).State) != 1))) ?_; intro a626 hF627; clear hF625
    have hF628 := hF627.atom ((((((gseeS yb13 ((gputS u0 (x27.tmod 15) u1).1) 1).2) != 0) || (((gseeS ((gseeS yb13 ((gputS u0 (x27.tmod 15) u1).1) 1).1) ((gputS u0 (x27.tmod 15) u1).1) 1).2) != 0)) || ((((gseeS yb13 ((gputS u0 (x27.tmod 15) u1).1) 1).1).State) != 1)) == false) (by kernel_rfl); clear hF627
    refine gp hF628 65 2 [] (((((gseeS yb13 ((gputS u0 (x27.tmod 15) u1).1) 1).2) != 0) || (((gseeS ((gseeS yb13 ((gputS u0 (x27.tmod 15) u1).1) 1).1) ((gputS u0 (x27.tmod 15) u1).1) 1).2) != 0)) || ((((gseeS yb13 ((gputS u0 (x27.tmod 15) u1).1) 1).1).State) != 1)) (.pointer (some ⟨b562, 2, none⟩)) rfl rfl ?_; intro a629 hF630; clear hF628
    refine gd hF630 (.int .i64 (((gseeS yb13 ((gputS u0 (x27.tmod 15) u1).1) 1).1).Bad)) (m := 2) (cj := []) (bj := ((((gseeS yb13 ((gputS u0 (x27.tmod 15) u1).1) 1).2) != 0) || (((gseeS ((gseeS yb13 ((gputS u0 (x27.tmod 15) u1).1) 1).1) ((gputS u0 (x27.tmod 15) u1).1) 1).2) != 0)) || ((((gseeS yb13 ((gputS u0 (x27.tmod 15) u1).1) 1).1).State) != 1)) rfl rfl (by kernel_rfl) rfl (by kernel_rfl) (by kernel_rfl) (by kernel_rfl) (fun hg => ld hF630 hM599 1 (g := [2]) (b := b562) (off := 2) (cs := [.int .i64 (((gseeS yb13 ((gputS u0 (x27.tmod 15) u1).1) 1).1).Key), .int .i64 (((gseeS yb13 ((gputS u0 (x27.tmod 15) u1).1) 1).1).Last), .int .i64 (((gseeS yb13 ((gputS u0 (x27.tmod 15) u1).1) 1).1).Bad), .int .i64 (((gseeS yb13 ((gputS u0 (x27.tmod 15) u1).1) 1).1).State)]) (ty := 24) rfl (by kernel_rfl) (by kernel_rfl) (by kernel_rfl) (by kernel_rfl) hg) ?_; intro a631 hF632; clear hF630
    refine gp hF632 67 2 [] (((((gseeS yb13 ((gputS u0 (x27.tmod 15) u1).1) 1).2) != 0) || (((gseeS ((gseeS yb13 ((gputS u0 (x27.tmod 15) u1).1) 1).1) ((gputS u0 (x27.tmod 15) u1).1) 1).2) != 0)) || ((((gseeS yb13 ((gputS u0 (x27.tmod 15) u1).1) 1).1).State) != 1)) (.bool ((((gseeS yb13 ((gputS u0 (x27.tmod 15) u1).1) 1).1).Bad) != 0)) rfl rfl ?_; intro a633 hF634; clear hF632
    refine st hF634 (.bool ((((((gseeS yb13 ((gputS u0 (x27.tmod 15) u1).1) 1).2) != 0) || (((gseeS ((gseeS yb13 ((gputS u0 (x27.tmod 15) u1).1) 1).1) ((gputS u0 (x27.tmod 15) u1).1) 1).2) != 0)) || ((((gseeS yb13 ((gputS u0 (x27.tmod 15) u1).1) 1).1).State) != 1)) || ((((gseeS yb13 ((gputS u0 (x27.tmod 15) u1).1) 1).1).Bad) != 0))) (nog rfl _) rfl (by kernel_rfl) (pk_or hF634 (g := []) (m := 2) (b := ((((gseeS yb13 ((gputS u0 (x27.tmod 15) u1).1) 1).2) != 0) || (((gseeS ((gseeS yb13 ((gputS u0 (x27.tmod 15) u1).1) 1).1) ((gputS u0 (x27.tmod 15) u1).1) 1).2) != 0)) || ((((gseeS yb13 ((gputS u0 (x27.tmod 15) u1).1) 1).1).State) != 1)) (v := (((gseeS yb13 ((gputS u0 (x27.tmod 15) u1).1) 1).1).Bad) != 0) rfl (by kernel_rfl) (by kernel_rfl) (by kernel_rfl) rfl) ?_; intro a635 hF636; clear hF634
    refine s1 hF636 69 (.bool ((((((gseeS yb13 ((gputS u0 (x27.tmod 15) u1).1) 1).2) != 0) || (((gseeS ((gseeS yb13 ((gputS u0 (x27.tmod 15) u1).1) 1).1) ((gputS u0 (x27.tmod 15) u1).1) 1).2) != 0)) || ((((gseeS yb13 ((gputS u0 (x27.tmod 15) u1).1) 1).1).State) != 1)) || ((((gseeS yb13 ((gputS u0 (x27.tmod 15) u1).1) 1).1).Bad) != 0))) ?_; intro a637 hF638; clear hF636
    have hF639 := hF638.atom (((((((gseeS yb13 ((gputS u0 (x27.tmod 15) u1).1) 1).2) != 0) || (((gseeS ((gseeS yb13 ((gputS u0 (x27.tmod 15) u1).1) 1).1) ((gputS u0 (x27.tmod 15) u1).1) 1).2) != 0)) || ((((gseeS yb13 ((gputS u0 (x27.tmod 15) u1).1) 1).1).State) != 1)) || ((((gseeS yb13 ((gputS u0 (x27.tmod 15) u1).1) 1).1).Bad) != 0)) == false) (by kernel_rfl); clear hF638
    refine gp hF639 70 3 [] ((((((gseeS yb13 ((gputS u0 (x27.tmod 15) u1).1) 1).2) != 0) || (((gseeS ((gseeS yb13 ((gputS u0 (x27.tmod 15) u1).1) 1).1) ((gputS u0 (x27.tmod 15) u1).1) 1).2) != 0)) || ((((gseeS yb13 ((gputS u0 (x27.tmod 15) u1).1) 1).1).State) != 1)) || ((((gseeS yb13 ((gputS u0 (x27.tmod 15) u1).1) 1).1).Bad) != 0)) (.pointer (some ⟨b590, 3, none⟩)) rfl rfl ?_; intro a640 hF641; clear hF639
    refine gd hF641 (.int .i64 (((gseeS ((gseeS yb13 ((gputS u0 (x27.tmod 15) u1).1) 1).1) ((gputS u0 (x27.tmod 15) u1).1) 1).1).State)) (m := 3) (cj := []) (bj := (((((gseeS yb13 ((gputS u0 (x27.tmod 15) u1).1) 1).2) != 0) || (((gseeS ((gseeS yb13 ((gputS u0 (x27.tmod 15) u1).1) 1).1) ((gputS u0 (x27.tmod 15) u1).1) 1).2) != 0)) || ((((gseeS yb13 ((gputS u0 (x27.tmod 15) u1).1) 1).1).State) != 1)) || ((((gseeS yb13 ((gputS u0 (x27.tmod 15) u1).1) 1).1).Bad) != 0)) rfl rfl (by kernel_rfl) rfl (by kernel_rfl) (by kernel_rfl) (by kernel_rfl) (fun hg => ld hF641 hM599 0 (g := [3]) (b := b590) (off := 3) (cs := [.int .i64 (((gseeS ((gseeS yb13 ((gputS u0 (x27.tmod 15) u1).1) 1).1) ((gputS u0 (x27.tmod 15) u1).1) 1).1).Key), .int .i64 (((gseeS ((gseeS yb13 ((gputS u0 (x27.tmod 15) u1).1) 1).1) ((gputS u0 (x27.tmod 15) u1).1) 1).1).Last), .int .i64 (((gseeS ((gseeS yb13 ((gputS u0 (x27.tmod 15) u1).1) 1).1) ((gputS u0 (x27.tmod 15) u1).1) 1).1).Bad), .int .i64 (((gseeS ((gseeS yb13 ((gputS u0 (x27.tmod 15) u1).1) 1).1) ((gputS u0 (x27.tmod 15) u1).1) 1).1).State)]) (ty := 24) rfl (by kernel_rfl) (by kernel_rfl) (by kernel_rfl) (by kernel_rfl) hg) ?_; intro a642 hF643; clear hF641
    refine gp hF643 72 3 [] ((((((gseeS yb13 ((gputS u0 (x27.tmod 15) u1).1) 1).2) != 0) || (((gseeS ((gseeS yb13 ((gputS u0 (x27.tmod 15) u1).1) 1).1) ((gputS u0 (x27.tmod 15) u1).1) 1).2) != 0)) || ((((gseeS yb13 ((gputS u0 (x27.tmod 15) u1).1) 1).1).State) != 1)) || ((((gseeS yb13 ((gputS u0 (x27.tmod 15) u1).1) 1).1).Bad) != 0)) (.bool ((((gseeS ((gseeS yb13 ((gputS u0 (x27.tmod 15) u1).1) 1).1) ((gputS u0 (x27.tmod 15) u1).1) 1).1).State) != 3)) rfl rfl ?_; intro a644 hF645; clear hF643
    refine st hF645 (.bool (((((((gseeS yb13 ((gputS u0 (x27.tmod 15) u1).1) 1).2) != 0) || (((gseeS ((gseeS yb13 ((gputS u0 (x27.tmod 15) u1).1) 1).1) ((gputS u0 (x27.tmod 15) u1).1) 1).2) != 0)) || ((((gseeS yb13 ((gputS u0 (x27.tmod 15) u1).1) 1).1).State) != 1)) || ((((gseeS yb13 ((gputS u0 (x27.tmod 15) u1).1) 1).1).Bad) != 0)) || ((((gseeS ((gseeS yb13 ((gputS u0 (x27.tmod 15) u1).1) 1).1) ((gputS u0 (x27.tmod 15) u1).1) 1).1).State) != 3))) (nog rfl _) rfl (by kernel_rfl) (pk_or hF645 (g := []) (m := 3) (b := (((((gseeS yb13 ((gputS u0 (x27.tmod 15) u1).1) 1).2) != 0) || (((gseeS ((gseeS yb13 ((gputS u0 (x27.tmod 15) u1).1) 1).1) ((gputS u0 (x27.tmod 15) u1).1) 1).2) != 0)) || ((((gseeS yb13 ((gputS u0 (x27.tmod 15) u1).1) 1).1).State) != 1)) || ((((gseeS yb13 ((gputS u0 (x27.tmod 15) u1).1) 1).1).Bad) != 0)) (v := (((gseeS ((gseeS yb13 ((gputS u0 (x27.tmod 15) u1).1) 1).1) ((gputS u0 (x27.tmod 15) u1).1) 1).1).State) != 3) rfl (by kernel_rfl) (by kernel_rfl) (by kernel_rfl) rfl) ?_; intro a646 hF647; clear hF645
    refine nlH (hQ601 _ _ ?_); clear hQ601 hQ601Q
    refine cd hF647 (t := ((((((gseeS yb13 ((gputS u0 (x27.tmod 15) u1).1) 1).2) != 0) || (((gseeS ((gseeS yb13 ((gputS u0 (x27.tmod 15) u1).1) 1).1) ((gputS u0 (x27.tmod 15) u1).1) 1).2) != 0)) || ((((gseeS yb13 ((gputS u0 (x27.tmod 15) u1).1) 1).1).State) != 1)) || ((((gseeS yb13 ((gputS u0 (x27.tmod 15) u1).1) 1).1).Bad) != 0)) || ((((gseeS ((gseeS yb13 ((gputS u0 (x27.tmod 15) u1).1) 1).1) ((gputS u0 (x27.tmod 15) u1).1) 1).1).State) != 3)) (by kernel_rfl) (fun hb648 => ?_) (fun hb648 => ?_)
    · -- yes
     have hp649 := hp579.1 hb648; clear hp579
     have hF650 : Fr 114 [] [] a646 := hF647.region (by kernel_rfl) (by kernel_rfl); clear hF647
     refine sqH ?_; intro hQ651Q hQ651
     refine s1 hF650 8 (.bool false) ?_; intro a652 hF653; clear hF650
     refine nlH (hQ651 _ _ ?_); clear hQ651 hQ651Q
     refine wp_ret ?_
     refine thr ?_
     refine ibr ?_
     refine thr ?_
     refine thr ?_
     refine ibr ?_
     refine thr ?_
     refine rt (fn := Try.f3) (v := .bool false) hF653 (re1 hF653 (fn := Try.f3) rfl (by kernel_rfl)) ?_
     exact ⟨false, rfl, hp649, hM599.below⟩
    · -- no
     have hp654 := hp579.2 hb648; clear hp579
     refine wp_skip ?_
     refine thn ?_
     have hF655 : Fr 114 [] [⟨0, [], .int .i64 u0⟩, ⟨1, [], .slice ao1 u1.length cap2⟩, ⟨3, [], .int .i64 u3⟩, ⟨9, [], .pointer (some ⟨b13, 0, none⟩)⟩, ⟨11, [], .slice ao511 ((gputS u0 (x27.tmod 15) u1).1).length cap512⟩, ⟨13, [], .pointer (some ⟨b562, 0, none⟩)⟩, ⟨26, [], .int .i64 u2⟩, ⟨27, [], .int .i64 x27⟩] a646 := hF647.region (by kernel_rfl) (by kernel_rfl); clear hF647
     refine sqH ?_; intro hQ656Q hQ656
     refine l2 hF655 hM599 74 1 0 4 [.int .i64 (((gseeS yb13 ((gputS u0 (x27.tmod 15) u1).1) 1).1).Key), .int .i64 (((gseeS yb13 ((gputS u0 (x27.tmod 15) u1).1) 1).1).Last), .int .i64 (((gseeS yb13 ((gputS u0 (x27.tmod 15) u1).1) 1).1).Bad), .int .i64 (((gseeS yb13 ((gputS u0 (x27.tmod 15) u1).1) 1).1).State)] rfl rfl ?_; intro a657 hF658; clear hF655
     refine sr hF658 hM599 3 [.int .i64 (((gseeS yb13 ((gputS u0 (x27.tmod 15) u1).1) 1).1).Key), .int .i64 (((gseeS yb13 ((gputS u0 (x27.tmod 15) u1).1) 1).1).Last), .int .i64 (((gseeS yb13 ((gputS u0 (x27.tmod 15) u1).1) 1).1).Bad), .int .i64 (((gseeS yb13 ((gputS u0 (x27.tmod 15) u1).1) 1).1).State)] (b := b13) (off := 0) (cs := [.int .i64 yb13.Key, .int .i64 yb13.Last, .int .i64 yb13.Bad, .int .i64 yb13.State]) (ty := 24) (u := .agg #[.int .i64 (((gseeS yb13 ((gputS u0 (x27.tmod 15) u1).1) 1).1).Key), .int .i64 (((gseeS yb13 ((gputS u0 (x27.tmod 15) u1).1) 1).1).Last), .int .i64 (((gseeS yb13 ((gputS u0 (x27.tmod 15) u1).1) 1).1).Bad), .int .i64 (((gseeS yb13 ((gputS u0 (x27.tmod 15) u1).1) 1).1).State)]) (nog rfl _) rfl rfl (by kernel_rfl) (by kernel_rfl) (by kernel_rfl) (by kernel_rfl) (by kernel_rfl) (by kernel_rfl) (by kernel_rfl) ?_; intro wd659 hM660; clear hM599
     have hM661 : Mem w.heap.size [] w Z [.row b590 [.int .i64 (((gseeS ((gseeS yb13 ((gputS u0 (x27.tmod 15) u1).1) 1).1) ((gputS u0 (x27.tmod 15) u1).1) 1).1).Key), .int .i64 (((gseeS ((gseeS yb13 ((gputS u0 (x27.tmod 15) u1).1) 1).1) ((gputS u0 (x27.tmod 15) u1).1) 1).1).Last), .int .i64 (((gseeS ((gseeS yb13 ((gputS u0 (x27.tmod 15) u1).1) 1).1) ((gputS u0 (x27.tmod 15) u1).1) 1).1).Bad), .int .i64 (((gseeS ((gseeS yb13 ((gputS u0 (x27.tmod 15) u1).1) 1).1) ((gputS u0 (x27.tmod 15) u1).1) 1).1).State)] 24, .row b562 [.int .i64 (((gseeS yb13 ((gputS u0 (x27.tmod 15) u1).1) 1).1).Key), .int .i64 (((gseeS yb13 ((gputS u0 (x27.tmod 15) u1).1) 1).1).Last), .int .i64 (((gseeS yb13 ((gputS u0 (x27.tmod 15) u1).1) 1).1).Bad), .int .i64 (((gseeS yb13 ((gputS u0 (x27.tmod 15) u1).1) 1).1).State)] 24, .own (tyInt .u8) 5 ao511 cap512 ((gputS u0 (x27.tmod 15) u1).1), .row b13 [.int .i64 (((gseeS yb13 ((gputS u0 (x27.tmod 15) u1).1) 1).1).Key), .int .i64 (((gseeS yb13 ((gputS u0 (x27.tmod 15) u1).1) 1).1).Last), .int .i64 (((gseeS yb13 ((gputS u0 (x27.tmod 15) u1).1) 1).1).Bad), .int .i64 (((gseeS yb13 ((gputS u0 (x27.tmod 15) u1).1) 1).1).State)] 24] Z513 wd659 := hM660; clear hM660
     refine nlH (hQ656 _ _ ?_); clear hQ656 hQ656Q
     refine sqH ?_; intro hQ662Q hQ662
     refine s1 hF658 75 (.int .i64 u3) ?_; intro a663 hF664; clear hF658
     refine s1 hF664 76 (.bool (decide (u3 ≥ 0))) ?_; intro a665 hF666; clear hF664
     refine s1 hF666 77 (.bool (decide (u3 ≥ 0))) ?_; intro a667 hF668; clear hF666
     have hF669 := hF668.atom ((decide (u3 ≥ 0)) == true) (by kernel_rfl); clear hF668
     refine gp hF669 78 0 [] (decide (u3 ≥ 0)) (.int .i64 u3) rfl rfl ?_; intro a670 hF671; clear hF669
     refine gp hF671 79 0 [] (decide (u3 ≥ 0)) (.slice ao511 ((gputS u0 (x27.tmod 15) u1).1).length cap512) rfl rfl ?_; intro a672 hF673; clear hF671
     refine gp hF673 80 0 [] (decide (u3 ≥ 0)) (.int .i64 (((gputS u0 (x27.tmod 15) u1).1).length : Int)) rfl rfl ?_; intro a674 hF675; clear hF673
     refine gp hF675 81 0 [] (decide (u3 ≥ 0)) (.int .i64 (w64 (8 * (((gputS u0 (x27.tmod 15) u1).1).length : Int)))) rfl rfl ?_; intro a676 hF677; clear hF675
     refine gp hF677 82 0 [] (decide (u3 ≥ 0)) (.bool (decide (u3 < (w64 (8 * (((gputS u0 (x27.tmod 15) u1).1).length : Int)))))) rfl rfl ?_; intro a678 hF679; clear hF677
     refine st hF679 (.bool ((decide (u3 ≥ 0)) && (decide (u3 < (w64 (8 * (((gputS u0 (x27.tmod 15) u1).1).length : Int))))))) (nog rfl _) rfl (by kernel_rfl) (pk_and hF679 (g := []) (m := 0) (b := decide (u3 ≥ 0)) (v := decide (u3 < (w64 (8 * (((gputS u0 (x27.tmod 15) u1).1).length : Int))))) rfl (by kernel_rfl) (by kernel_rfl) (by kernel_rfl) rfl) ?_; intro a680 hF681; clear hF679
     refine nlH (hQ662 _ _ ?_); clear hQ662 hQ662Q
     refine cd hF681 (t := (decide (u3 ≥ 0)) && (decide (u3 < (w64 (8 * (((gputS u0 (x27.tmod 15) u1).1).length : Int)))))) (by kernel_rfl) (fun hb682 => ?_) (fun hb682 => ?_)
     · -- yes
      have hp683 := hp654.1 hb682; clear hp654
      have hF684 : Fr 114 [] [⟨0, [], .int .i64 u0⟩, ⟨1, [], .slice ao1 u1.length cap2⟩, ⟨3, [], .int .i64 u3⟩, ⟨9, [], .pointer (some ⟨b13, 0, none⟩)⟩, ⟨11, [], .slice ao511 ((gputS u0 (x27.tmod 15) u1).1).length cap512⟩, ⟨26, [], .int .i64 u2⟩, ⟨27, [], .int .i64 x27⟩] a680 := hF681.region (by kernel_rfl) (by kernel_rfl); clear hF681
      have hcd3_0 := hp683.1; have hp714 := hp683.2; clear hp683
      obtain ⟨qd4_0, hqd4_0⟩ : ∃ q, ((gputS u0 (x27.tmod 15) u1).1)[(w64 (u3.tdiv 8)).toNat]? = some q := ⟨_, List.getElem?_eq_getElem (by omega)⟩; have hp715 := hp714 qd4_0 hqd4_0; clear hp714
      have hcd7_0 := hp715.1; have hp716 := hp715.2; clear hp715
      have hcd9_0 := hp716.1; have hp717 := hp716.2; clear hp716
      refine wp_seq (any_invE mixed [[], [], [1], [0, 2], [3], [], [5], [6], [4, 7], [0, 1, 2, 3, 4, 5, 6, 7, 8], [0, 1, 2, 3, 4, 5, 6, 7, 8, 9]] 11 (fun S a w1 => ∃ (g691 : Nat) (g708 : Nat) (ud84 : Value) (ud85 : Value) (ud86 : Value) (ud87 : Value) (ud88 : Value) (ud89 : Value) (ud90 : Value) (ud91 : Value) (ud92 : Value) (ud93 : Value) (rh0 : Res) (rh1 : Res) (rh2 : Res) (rh3 : Res), Fz.le Z513 Z513 ∧ Fr 114 [] [⟨0, [], .int .i64 u0⟩, ⟨1, [], .slice ao1 u1.length cap2⟩, ⟨3, [], .int .i64 u3⟩, ⟨9, [], .pointer (some ⟨b13, 0, none⟩)⟩, ⟨11, [], .slice ao511 ((gputS u0 (x27.tmod 15) u1).1).length cap512⟩, ⟨26, [], .int .i64 u2⟩, ⟨27, [], .int .i64 x27⟩, ⟨84, [], ud84⟩, ⟨85, [], ud85⟩, ⟨86, [], ud86⟩, ⟨87, [], ud87⟩, ⟨88, [], ud88⟩, ⟨89, [], ud89⟩, ⟨90, [], ud90⟩, ⟨91, [], ud91⟩, ⟨92, [], ud92⟩, ⟨93, [], ud93⟩] a ∧ Mem w.heap.size [] w Z [rh0, rh1, rh2, rh3] Z513 w1 ∧ (S 0 = true → ud84 = .slice ao511 ((gputS u0 (x27.tmod 15) u1).1).length cap512) ∧ (S 1 = true → ud85 = .int .i64 u3) ∧ (S 2 = true → ud86 = .int .i64 (w64 (u3.tdiv 8))) ∧ (S 3 = true → ud87 = .pointer (some ⟨g691, (w64 (u3.tdiv 8)).toNat * 1, none⟩)) ∧ (S 4 = true → ud88 = .int .u8 qd4_0) ∧ (S 5 = true → ud89 = .int .i64 u3) ∧ (S 6 = true → ud90 = .int .i64 (u3.tmod 8)) ∧ (S 7 = true → ud91 = .int .u8 (bShl .u8 1 (u3.tmod 8))) ∧ (S 8 = true → ud92 = .int .u8 (bXor .u8 qd4_0 (bShl .u8 1 (u3.tmod 8)))) ∧ (S 9 = true → ud93 = .pointer (some ⟨g708, (w64 (u3.tdiv 8)).toNat * 1, none⟩)) ∧ (rh0 = .row b590 [.int .i64 (((gseeS ((gseeS yb13 ((gputS u0 (x27.tmod 15) u1).1) 1).1) ((gputS u0 (x27.tmod 15) u1).1) 1).1).Key), .int .i64 (((gseeS ((gseeS yb13 ((gputS u0 (x27.tmod 15) u1).1) 1).1) ((gputS u0 (x27.tmod 15) u1).1) 1).1).Last), .int .i64 (((gseeS ((gseeS yb13 ((gputS u0 (x27.tmod 15) u1).1) 1).1) ((gputS u0 (x27.tmod 15) u1).1) 1).1).Bad), .int .i64 (((gseeS ((gseeS yb13 ((gputS u0 (x27.tmod 15) u1).1) 1).1) ((gputS u0 (x27.tmod 15) u1).1) 1).1).State)] 24) ∧ (rh1 = .row b562 [.int .i64 (((gseeS yb13 ((gputS u0 (x27.tmod 15) u1).1) 1).1).Key), .int .i64 (((gseeS yb13 ((gputS u0 (x27.tmod 15) u1).1) 1).1).Last), .int .i64 (((gseeS yb13 ((gputS u0 (x27.tmod 15) u1).1) 1).1).Bad), .int .i64 (((gseeS yb13 ((gputS u0 (x27.tmod 15) u1).1) 1).1).State)] 24) ∧ (S 10 = false → rh2 = .own (tyInt .u8) 5 ao511 cap512 ((gputS u0 (x27.tmod 15) u1).1)) ∧ (S 10 = true → rh2 = .own (tyInt .u8) 5 ao511 cap512 (((gputS u0 (x27.tmod 15) u1).1).set (w64 (u3.tdiv 8)).toNat (bXor .u8 qd4_0 (bShl .u8 1 (u3.tmod 8))))) ∧ (rh3 = .row b13 [.int .i64 (((gseeS yb13 ((gputS u0 (x27.tmod 15) u1).1) 1).1).Key), .int .i64 (((gseeS yb13 ((gputS u0 (x27.tmod 15) u1).1) 1).1).Last), .int .i64 (((gseeS yb13 ((gputS u0 (x27.tmod 15) u1).1) 1).1).Bad), .int .i64 (((gseeS yb13 ((gputS u0 (x27.tmod 15) u1).1) 1).1).State)] 24) ∧ (S 3 = true → ao511 = some ⟨g691, 0, none⟩) ∧ (S 9 = true → ao511 = some ⟨g708, 0, none⟩)) ?h0 ?hs ?hE)
      case h0 =>
       have hF719 := hF684.any 84
       have hF720 := hF719.any 85
       have hF721 := hF720.any 86
       have hF722 := hF721.any 87
       have hF723 := hF722.any 88
       have hF724 := hF723.any 89
       have hF725 := hF724.any 90
       have hF726 := hF725.any 91
       have hF727 := hF726.any 92
       have hF728 := hF727.any 93
       have hM729 := (hM661.perm (List.Perm.refl _)).drew
       exact ⟨0, 0, a680.tmps.getD 84 undef, a680.tmps.getD 85 undef, a680.tmps.getD 86 undef, a680.tmps.getD 87 undef, a680.tmps.getD 88 undef, a680.tmps.getD 89 undef, a680.tmps.getD 90 undef, a680.tmps.getD 91 undef, a680.tmps.getD 92 undef, a680.tmps.getD 93 undef, .row b590 [.int .i64 (((gseeS ((gseeS yb13 ((gputS u0 (x27.tmod 15) u1).1) 1).1) ((gputS u0 (x27.tmod 15) u1).1) 1).1).Key), .int .i64 (((gseeS ((gseeS yb13 ((gputS u0 (x27.tmod 15) u1).1) 1).1) ((gputS u0 (x27.tmod 15) u1).1) 1).1).Last), .int .i64 (((gseeS ((gseeS yb13 ((gputS u0 (x27.tmod 15) u1).1) 1).1) ((gputS u0 (x27.tmod 15) u1).1) 1).1).Bad), .int .i64 (((gseeS ((gseeS yb13 ((gputS u0 (x27.tmod 15) u1).1) 1).1) ((gputS u0 (x27.tmod 15) u1).1) 1).1).State)] 24, .row b562 [.int .i64 (((gseeS yb13 ((gputS u0 (x27.tmod 15) u1).1) 1).1).Key), .int .i64 (((gseeS yb13 ((gputS u0 (x27.tmod 15) u1).1) 1).1).Last), .int .i64 (((gseeS yb13 ((gputS u0 (x27.tmod 15) u1).1) 1).1).Bad), .int .i64 (((gseeS yb13 ((gputS u0 (x27.tmod 15) u1).1) 1).1).State)] 24, .own (tyInt .u8) 5 ao511 cap512 ((gputS u0 (x27.tmod 15) u1).1), .row b13 [.int .i64 (((gseeS yb13 ((gputS u0 (x27.tmod 15) u1).1) 1).1).Key), .int .i64 (((gseeS yb13 ((gputS u0 (x27.tmod 15) u1).1) 1).1).Last), .int .i64 (((gseeS yb13 ((gputS u0 (x27.tmod 15) u1).1) 1).1).Bad), .int .i64 (((gseeS yb13 ((gputS u0 (x27.tmod 15) u1).1) 1).1).State)] 24, Fz.le.refl _, hF728.region (by kernel_rfl) (by kernel_rfl), hM729, ff, ff, ff, ff, ff, ff, ff, ff, ff, ff, rfl, rfl, kf, ff, rfl, ff, ff⟩
      case hs =>
       intro S hcl i o hil hi hSi hpre a w1 hI; refine hid ?_; intro G hG; obtain ⟨g691, hI⟩ := hI; obtain ⟨g708, hI⟩ := hI; obtain ⟨ud84, hI⟩ := hI; obtain ⟨ud85, hI⟩ := hI; obtain ⟨ud86, hI⟩ := hI; obtain ⟨ud87, hI⟩ := hI; obtain ⟨ud88, hI⟩ := hI; obtain ⟨ud89, hI⟩ := hI; obtain ⟨ud90, hI⟩ := hI; obtain ⟨ud91, hI⟩ := hI; obtain ⟨ud92, hI⟩ := hI; obtain ⟨ud93, hI⟩ := hI; obtain ⟨rh0, hI⟩ := hI; obtain ⟨rh1, hI⟩ := hI; obtain ⟨rh2, hI⟩ := hI; obtain ⟨rh3, hI⟩ := hI; obtain ⟨hle718, hI⟩ := hI; obtain ⟨hFx, hI⟩ := hI; obtain ⟨hMx, hI⟩ := hI; obtain ⟨cu84, hI⟩ := hI; obtain ⟨cu85, hI⟩ := hI; obtain ⟨cu86, hI⟩ := hI; obtain ⟨cu87, hI⟩ := hI; obtain ⟨cu88, hI⟩ := hI; obtain ⟨cu89, hI⟩ := hI; obtain ⟨cu90, hI⟩ := hI; obtain ⟨cu91, hI⟩ := hI; obtain ⟨cu92, hI⟩ := hI; obtain ⟨cu93, hI⟩ := hI; obtain ⟨cr0_0, hI⟩ := hI; obtain ⟨cr1_0, hI⟩ := hI; obtain ⟨cr2_0, hI⟩ := hI; obtain ⟨cr2_1, hI⟩ := hI; obtain ⟨cr3_0, hI⟩ := hI; obtain ⟨cf0, hI⟩ := hI; have cf1 := hI; clear hI
       have hcase : i = 0 ∨ i = 1 ∨ i = 2 ∨ i = 3 ∨ i = 4 ∨ i = 5 ∨ i = 6 ∨ i = 7 ∨ i = 8 ∨ i = 9 ∨ i = 10 := by clear hi; omega
       rcases hcase with rfl | rfl | rfl | rfl | rfl | rfl | rfl | rfl | rfl | rfl | rfl
       · -- 0: move
        obtain rfl := Option.some.inj hi
        have hx0 := hSi
        have hx3 := negF hcl 3 0 (by kernel_rfl) hx0
        have hx4 := negF hcl 4 3 (by kernel_rfl) hx3
        have hx8 := negF hcl 8 4 (by kernel_rfl) hx4
        have hx9 := negF hcl 9 0 (by kernel_rfl) hx0
        have hx10 := negF hcl 10 0 (by kernel_rfl) hx0
        obtain rfl := cr0_0
        obtain rfl := cr1_0
        obtain rfl := cr2_0 hx10
        obtain rfl := cr3_0
        refine hG (any_step ?_); clear hG G; intro A J hJ
        have hle0 := Fz.le.trans hle0 hle718
        have hs730 := hs485.mono hle718
        have hs731 := hleL472.mono hle718
        refine s1 hFx 84 (.slice ao511 ((gputS u0 (x27.tmod 15) u1).1).length cap512) ?_; intro a732 hF733; clear hFx
        refine nl (qnI (hJ _ _ ?_)); clear hJ J
        exact ⟨g691, g708, .slice ao511 ((gputS u0 (x27.tmod 15) u1).1).length cap512, ud85, ud86, ud87, ud88, ud89, ud90, ud91, ud92, ud93, .row b590 [.int .i64 (((gseeS ((gseeS yb13 ((gputS u0 (x27.tmod 15) u1).1) 1).1) ((gputS u0 (x27.tmod 15) u1).1) 1).1).Key), .int .i64 (((gseeS ((gseeS yb13 ((gputS u0 (x27.tmod 15) u1).1) 1).1) ((gputS u0 (x27.tmod 15) u1).1) 1).1).Last), .int .i64 (((gseeS ((gseeS yb13 ((gputS u0 (x27.tmod 15) u1).1) 1).1) ((gputS u0 (x27.tmod 15) u1).1) 1).1).Bad), .int .i64 (((gseeS ((gseeS yb13 ((gputS u0 (x27.tmod 15) u1).1) 1).1) ((gputS u0 (x27.tmod 15) u1).1) 1).1).State)] 24, .row b562 [.int .i64 (((gseeS yb13 ((gputS u0 (x27.tmod 15) u1).1) 1).1).Key), .int .i64 (((gseeS yb13 ((gputS u0 (x27.tmod 15) u1).1) 1).1).Last), .int .i64 (((gseeS yb13 ((gputS u0 (x27.tmod 15) u1).1) 1).1).Bad), .int .i64 (((gseeS yb13 ((gputS u0 (x27.tmod 15) u1).1) 1).1).State)] 24, .own (tyInt .u8) 5 ao511 cap512 ((gputS u0 (x27.tmod 15) u1).1), .row b13 [.int .i64 (((gseeS yb13 ((gputS u0 (x27.tmod 15) u1).1) 1).1).Key), .int .i64 (((gseeS yb13 ((gputS u0 (x27.tmod 15) u1).1) 1).1).Last), .int .i64 (((gseeS yb13 ((gputS u0 (x27.tmod 15) u1).1) 1).1).Bad), .int .i64 (((gseeS yb13 ((gputS u0 (x27.tmod 15) u1).1) 1).1).State)] 24, hle718, hF733.region (by kernel_rfl) (by kernel_rfl), hMx.perm (List.Perm.refl _), kf, cu85, cu86, (nt hx3), (nt hx4), cu89, cu90, cu91, (nt hx8), (nt hx9), rfl, rfl, kf, (nt hx10), rfl, (nt hx3), (nt hx9)⟩
       · -- 1: move
        obtain rfl := Option.some.inj hi
        have hx1 := hSi
        have hx2 := negF hcl 2 1 (by kernel_rfl) hx1
        have hx3 := negF hcl 3 2 (by kernel_rfl) hx2
        have hx4 := negF hcl 4 3 (by kernel_rfl) hx3
        have hx8 := negF hcl 8 4 (by kernel_rfl) hx4
        have hx9 := negF hcl 9 1 (by kernel_rfl) hx1
        have hx10 := negF hcl 10 1 (by kernel_rfl) hx1
        obtain rfl := cr0_0
        obtain rfl := cr1_0
        obtain rfl := cr2_0 hx10
        obtain rfl := cr3_0
        refine hG (any_step ?_); clear hG G; intro A J hJ
        have hle0 := Fz.le.trans hle0 hle718
        have hs735 := hs485.mono hle718
        have hs736 := hleL472.mono hle718
        refine s1 hFx 85 (.int .i64 u3) ?_; intro a737 hF738; clear hFx
        refine nl (qnI (hJ _ _ ?_)); clear hJ J
        exact ⟨g691, g708, ud84, .int .i64 u3, ud86, ud87, ud88, ud89, ud90, ud91, ud92, ud93, .row b590 [.int .i64 (((gseeS ((gseeS yb13 ((gputS u0 (x27.tmod 15) u1).1) 1).1) ((gputS u0 (x27.tmod 15) u1).1) 1).1).Key), .int .i64 (((gseeS ((gseeS yb13 ((gputS u0 (x27.tmod 15) u1).1) 1).1) ((gputS u0 (x27.tmod 15) u1).1) 1).1).Last), .int .i64 (((gseeS ((gseeS yb13 ((gputS u0 (x27.tmod 15) u1).1) 1).1) ((gputS u0 (x27.tmod 15) u1).1) 1).1).Bad), .int .i64 (((gseeS ((gseeS yb13 ((gputS u0 (x27.tmod 15) u1).1) 1).1) ((gputS u0 (x27.tmod 15) u1).1) 1).1).State)] 24, .row b562 [.int .i64 (((gseeS yb13 ((gputS u0 (x27.tmod 15) u1).1) 1).1).Key), .int .i64 (((gseeS yb13 ((gputS u0 (x27.tmod 15) u1).1) 1).1).Last), .int .i64 (((gseeS yb13 ((gputS u0 (x27.tmod 15) u1).1) 1).1).Bad), .int .i64 (((gseeS yb13 ((gputS u0 (x27.tmod 15) u1).1) 1).1).State)] 24, .own (tyInt .u8) 5 ao511 cap512 ((gputS u0 (x27.tmod 15) u1).1), .row b13 [.int .i64 (((gseeS yb13 ((gputS u0 (x27.tmod 15) u1).1) 1).1).Key), .int .i64 (((gseeS yb13 ((gputS u0 (x27.tmod 15) u1).1) 1).1).Last), .int .i64 (((gseeS yb13 ((gputS u0 (x27.tmod 15) u1).1) 1).1).Bad), .int .i64 (((gseeS yb13 ((gputS u0 (x27.tmod 15) u1).1) 1).1).State)] 24, hle718, hF738.region (by kernel_rfl) (by kernel_rfl), hMx.perm (List.Perm.refl _), cu84, kf, (nt hx2), (nt hx3), (nt hx4), cu89, cu90, cu91, (nt hx8), (nt hx9), rfl, rfl, kf, (nt hx10), rfl, (nt hx3), (nt hx9)⟩
       · -- 2: binOp
        obtain rfl := Option.some.inj hi
        have hx1 := hpre 1 (by kernel_rfl)
        have hx2 := hSi
        have hx3 := negF hcl 3 2 (by kernel_rfl) hx2
        have hx4 := negF hcl 4 3 (by kernel_rfl) hx3
        have hx8 := negF hcl 8 4 (by kernel_rfl) hx4
        have hx9 := negF hcl 9 2 (by kernel_rfl) hx2
        have hx10 := negF hcl 10 2 (by kernel_rfl) hx2
        obtain rfl := cu85 hx1
        obtain rfl := cr0_0
        obtain rfl := cr1_0
        obtain rfl := cr2_0 hx10
        obtain rfl := cr3_0
        refine hG (any_step ?_); clear hG G; intro A J hJ
        have hle0 := Fz.le.trans hle0 hle718
        have hs740 := hs485.mono hle718
        have hs741 := hleL472.mono hle718
        refine s1 hFx 86 (.int .i64 (w64 (u3.tdiv 8))) ?_; intro a742 hF743; clear hFx
        refine nl (qnI (hJ _ _ ?_)); clear hJ J
        exact ⟨g691, g708, ud84, .int .i64 u3, .int .i64 (w64 (u3.tdiv 8)), ud87, ud88, ud89, ud90, ud91, ud92, ud93, .row b590 [.int .i64 (((gseeS ((gseeS yb13 ((gputS u0 (x27.tmod 15) u1).1) 1).1) ((gputS u0 (x27.tmod 15) u1).1) 1).1).Key), .int .i64 (((gseeS ((gseeS yb13 ((gputS u0 (x27.tmod 15) u1).1) 1).1) ((gputS u0 (x27.tmod 15) u1).1) 1).1).Last), .int .i64 (((gseeS ((gseeS yb13 ((gputS u0 (x27.tmod 15) u1).1) 1).1) ((gputS u0 (x27.tmod 15) u1).1) 1).1).Bad), .int .i64 (((gseeS ((gseeS yb13 ((gputS u0 (x27.tmod 15) u1).1) 1).1) ((gputS u0 (x27.tmod 15) u1).1) 1).1).State)] 24, .row b562 [.int .i64 (((gseeS yb13 ((gputS u0 (x27.tmod 15) u1).1) 1).1).Key), .int .i64 (((gseeS yb13 ((gputS u0 (x27.tmod 15) u1).1) 1).1).Last), .int .i64 (((gseeS yb13 ((gputS u0 (x27.tmod 15) u1).1) 1).1).Bad), .int .i64 (((gseeS yb13 ((gputS u0 (x27.tmod 15) u1).1) 1).1).State)] 24, .own (tyInt .u8) 5 ao511 cap512 ((gputS u0 (x27.tmod 15) u1).1), .row b13 [.int .i64 (((gseeS yb13 ((gputS u0 (x27.tmod 15) u1).1) 1).1).Key), .int .i64 (((gseeS yb13 ((gputS u0 (x27.tmod 15) u1).1) 1).1).Last), .int .i64 (((gseeS yb13 ((gputS u0 (x27.tmod 15) u1).1) 1).1).Bad), .int .i64 (((gseeS yb13 ((gputS u0 (x27.tmod 15) u1).1) 1).1).State)] 24, hle718, hF743.region (by kernel_rfl) (by kernel_rfl), hMx.perm (List.Perm.refl _), cu84, kf, kf, (nt hx3), (nt hx4), cu89, cu90, cu91, (nt hx8), (nt hx9), rfl, rfl, kf, (nt hx10), rfl, (nt hx3), (nt hx9)⟩
       · -- 3: indexAddr
        obtain rfl := Option.some.inj hi
        have hx2 := hpre 2 (by kernel_rfl)
        have hx0 := hpre 0 (by kernel_rfl)
        have hx1 := hcl 2 1 (by kernel_rfl) hx2
        have hx3 := hSi
        have hx4 := negF hcl 4 3 (by kernel_rfl) hx3
        have hx8 := negF hcl 8 4 (by kernel_rfl) hx4
        have hx9 := negF hcl 9 3 (by kernel_rfl) hx3
        have hx10 := negF hcl 10 3 (by kernel_rfl) hx3
        obtain rfl := cu84 hx0
        obtain rfl := cu85 hx1
        obtain rfl := cu86 hx2
        obtain rfl := cr0_0
        obtain rfl := cr1_0
        obtain rfl := cr2_0 hx10
        obtain rfl := cr3_0
        refine hG (any_step ?_); clear hG G; intro A J hJ
        have hle0 := Fz.le.trans hle0 hle718
        have hs745 := hs485.mono hle718
        have hs746 := hleL472.mono hle718
        refine ixo hFx hMx 2 (T := (tyInt .u8)) (xs := (gputS u0 (x27.tmod 15) u1).1) (w64 (u3.tdiv 8)) hcd3_0 (k := .i64) (e := 5) (bytes := 1) (nog rfl _) rfl (by kernel_rfl) rfl (by kernel_rfl) (by kernel_rfl) rfl (by kernel_rfl) ?_; intro g747 a749 hg748 hF750; clear hFx
        refine nl (qnI (hJ _ _ ?_)); clear hJ J
        exact ⟨g747, g708, .slice ao511 ((gputS u0 (x27.tmod 15) u1).1).length cap512, .int .i64 u3, .int .i64 (w64 (u3.tdiv 8)), .pointer (some ⟨g747, (w64 (u3.tdiv 8)).toNat * 1, none⟩), ud88, ud89, ud90, ud91, ud92, ud93, .row b590 [.int .i64 (((gseeS ((gseeS yb13 ((gputS u0 (x27.tmod 15) u1).1) 1).1) ((gputS u0 (x27.tmod 15) u1).1) 1).1).Key), .int .i64 (((gseeS ((gseeS yb13 ((gputS u0 (x27.tmod 15) u1).1) 1).1) ((gputS u0 (x27.tmod 15) u1).1) 1).1).Last), .int .i64 (((gseeS ((gseeS yb13 ((gputS u0 (x27.tmod 15) u1).1) 1).1) ((gputS u0 (x27.tmod 15) u1).1) 1).1).Bad), .int .i64 (((gseeS ((gseeS yb13 ((gputS u0 (x27.tmod 15) u1).1) 1).1) ((gputS u0 (x27.tmod 15) u1).1) 1).1).State)] 24, .row b562 [.int .i64 (((gseeS yb13 ((gputS u0 (x27.tmod 15) u1).1) 1).1).Key), .int .i64 (((gseeS yb13 ((gputS u0 (x27.tmod 15) u1).1) 1).1).Last), .int .i64 (((gseeS yb13 ((gputS u0 (x27.tmod 15) u1).1) 1).1).Bad), .int .i64 (((gseeS yb13 ((gputS u0 (x27.tmod 15) u1).1) 1).1).State)] 24, .own (tyInt .u8) 5 ao511 cap512 ((gputS u0 (x27.tmod 15) u1).1), .row b13 [.int .i64 (((gseeS yb13 ((gputS u0 (x27.tmod 15) u1).1) 1).1).Key), .int .i64 (((gseeS yb13 ((gputS u0 (x27.tmod 15) u1).1) 1).1).Last), .int .i64 (((gseeS yb13 ((gputS u0 (x27.tmod 15) u1).1) 1).1).Bad), .int .i64 (((gseeS yb13 ((gputS u0 (x27.tmod 15) u1).1) 1).1).State)] 24, hle718, hF750.region (by kernel_rfl) (by kernel_rfl), hMx.perm (List.Perm.refl _), kf, kf, kf, kf, (nt hx4), cu89, cu90, cu91, (nt hx8), (nt hx9), rfl, rfl, kf, (nt hx10), rfl, (fun _ => hg748), (nt hx9)⟩
       · -- 4: load
        obtain rfl := Option.some.inj hi
        have hx3 := hpre 3 (by kernel_rfl)
        have hx2 := hcl 3 2 (by kernel_rfl) hx3
        have hx0 := hcl 3 0 (by kernel_rfl) hx3
        have hx1 := hcl 2 1 (by kernel_rfl) hx2
        have hx4 := hSi
        have hx8 := negF hcl 8 4 (by kernel_rfl) hx4
        have hx9 := negF hcl 9 4 (by kernel_rfl) hx4
        have hx10 := negF hcl 10 4 (by kernel_rfl) hx4
        obtain rfl := cu84 hx0
        obtain rfl := cu85 hx1
        obtain rfl := cu86 hx2
        obtain rfl := cu87 hx3
        obtain rfl := cr0_0
        obtain rfl := cr1_0
        obtain rfl := cr2_0 hx10
        obtain rfl := cr3_0
        refine hG (any_step ?_); clear hG G; intro A J hJ
        have hle0 := Fz.le.trans hle0 hle718
        have hs752 := hs485.mono hle718
        have hs753 := hleL472.mono hle718
        have hs754 := cf0 hx3
        obtain ⟨cs755, hT756, hcl757⟩ := own_elx hMx 2 (T := (tyInt .u8)) (xs := (gputS u0 (x27.tmod 15) u1).1) rfl hs754 (w64 (u3.tdiv 8)).toNat hqd4_0
        obtain rfl : cs755 = ([.int .u8 qd4_0] : List Value) := hT756
        refine lc1 hFx 88 (.int .u8 qd4_0) (hcl757 0 _ rfl) rfl ?_; intro a758 hF759; clear hFx
        refine nl (qnI (hJ _ _ ?_)); clear hJ J
        exact ⟨g691, g708, .slice ao511 ((gputS u0 (x27.tmod 15) u1).1).length cap512, .int .i64 u3, .int .i64 (w64 (u3.tdiv 8)), .pointer (some ⟨g691, (w64 (u3.tdiv 8)).toNat * 1, none⟩), .int .u8 qd4_0, ud89, ud90, ud91, ud92, ud93, .row b590 [.int .i64 (((gseeS ((gseeS yb13 ((gputS u0 (x27.tmod 15) u1).1) 1).1) ((gputS u0 (x27.tmod 15) u1).1) 1).1).Key), .int .i64 (((gseeS ((gseeS yb13 ((gputS u0 (x27.tmod 15) u1).1) 1).1) ((gputS u0 (x27.tmod 15) u1).1) 1).1).Last), .int .i64 (((gseeS ((gseeS yb13 ((gputS u0 (x27.tmod 15) u1).1) 1).1) ((gputS u0 (x27.tmod 15) u1).1) 1).1).Bad), .int .i64 (((gseeS ((gseeS yb13 ((gputS u0 (x27.tmod 15) u1).1) 1).1) ((gputS u0 (x27.tmod 15) u1).1) 1).1).State)] 24, .row b562 [.int .i64 (((gseeS yb13 ((gputS u0 (x27.tmod 15) u1).1) 1).1).Key), .int .i64 (((gseeS yb13 ((gputS u0 (x27.tmod 15) u1).1) 1).1).Last), .int .i64 (((gseeS yb13 ((gputS u0 (x27.tmod 15) u1).1) 1).1).Bad), .int .i64 (((gseeS yb13 ((gputS u0 (x27.tmod 15) u1).1) 1).1).State)] 24, .own (tyInt .u8) 5 ao511 cap512 ((gputS u0 (x27.tmod 15) u1).1), .row b13 [.int .i64 (((gseeS yb13 ((gputS u0 (x27.tmod 15) u1).1) 1).1).Key), .int .i64 (((gseeS yb13 ((gputS u0 (x27.tmod 15) u1).1) 1).1).Last), .int .i64 (((gseeS yb13 ((gputS u0 (x27.tmod 15) u1).1) 1).1).Bad), .int .i64 (((gseeS yb13 ((gputS u0 (x27.tmod 15) u1).1) 1).1).State)] 24, hle718, hF759.region (by kernel_rfl) (by kernel_rfl), hMx.perm (List.Perm.refl _), kf, kf, kf, kf, kf, cu89, cu90, cu91, (nt hx8), (nt hx9), rfl, rfl, kf, (nt hx10), rfl, (fun _ => hs754), (nt hx9)⟩
       · -- 5: move
        obtain rfl := Option.some.inj hi
        have hx5 := hSi
        have hx6 := negF hcl 6 5 (by kernel_rfl) hx5
        have hx7 := negF hcl 7 6 (by kernel_rfl) hx6
        have hx8 := negF hcl 8 7 (by kernel_rfl) hx7
        have hx9 := negF hcl 9 5 (by kernel_rfl) hx5
        have hx10 := negF hcl 10 5 (by kernel_rfl) hx5
        obtain rfl := cr0_0
        obtain rfl := cr1_0
        obtain rfl := cr2_0 hx10
        obtain rfl := cr3_0
        refine hG (any_step ?_); clear hG G; intro A J hJ
        have hle0 := Fz.le.trans hle0 hle718
        have hs761 := hs485.mono hle718
        have hs762 := hleL472.mono hle718
        refine s1 hFx 89 (.int .i64 u3) ?_; intro a763 hF764; clear hFx
        refine nl (qnI (hJ _ _ ?_)); clear hJ J
        exact ⟨g691, g708, ud84, ud85, ud86, ud87, ud88, .int .i64 u3, ud90, ud91, ud92, ud93, .row b590 [.int .i64 (((gseeS ((gseeS yb13 ((gputS u0 (x27.tmod 15) u1).1) 1).1) ((gputS u0 (x27.tmod 15) u1).1) 1).1).Key), .int .i64 (((gseeS ((gseeS yb13 ((gputS u0 (x27.tmod 15) u1).1) 1).1) ((gputS u0 (x27.tmod 15) u1).1) 1).1).Last), .int .i64 (((gseeS ((gseeS yb13 ((gputS u0 (x27.tmod 15) u1).1) 1).1) ((gputS u0 (x27.tmod 15) u1).1) 1).1).Bad), .int .i64 (((gseeS ((gseeS yb13 ((gputS u0 (x27.tmod 15) u1).1) 1).1) ((gputS u0 (x27.tmod 15) u1).1) 1).1).State)] 24, .row b562 [.int .i64 (((gseeS yb13 ((gputS u0 (x27.tmod 15) u1).1) 1).1).Key), .int .i64 (((gseeS yb13 ((gputS u0 (x27.tmod 15) u1).1) 1).1).Last), .int .i64 (((gseeS yb13 ((gputS u0 (x27.tmod 15) u1).1) 1).1).Bad), .int .i64 (((gseeS yb13 ((gputS u0 (x27.tmod 15) u1).1) 1).1).State)] 24, .own (tyInt .u8) 5 ao511 cap512 ((gputS u0 (x27.tmod 15) u1).1), .row b13 [.int .i64 (((gseeS yb13 ((gputS u0 (x27.tmod 15) u1).1) 1).1).Key), .int .i64 (((gseeS yb13 ((gputS u0 (x27.tmod 15) u1).1) 1).1).Last), .int .i64 (((gseeS yb13 ((gputS u0 (x27.tmod 15) u1).1) 1).1).Bad), .int .i64 (((gseeS yb13 ((gputS u0 (x27.tmod 15) u1).1) 1).1).State)] 24, hle718, hF764.region (by kernel_rfl) (by kernel_rfl), hMx.perm (List.Perm.refl _), cu84, cu85, cu86, cu87, cu88, kf, (nt hx6), (nt hx7), (nt hx8), (nt hx9), rfl, rfl, kf, (nt hx10), rfl, cf0, (nt hx9)⟩
       · -- 6: binOp
        obtain rfl := Option.some.inj hi
        have hx5 := hpre 5 (by kernel_rfl)
        have hx6 := hSi
        have hx7 := negF hcl 7 6 (by kernel_rfl) hx6
        have hx8 := negF hcl 8 7 (by kernel_rfl) hx7
        have hx9 := negF hcl 9 6 (by kernel_rfl) hx6
        have hx10 := negF hcl 10 6 (by kernel_rfl) hx6
        obtain rfl := cu89 hx5
        obtain rfl := cr0_0
        obtain rfl := cr1_0
        obtain rfl := cr2_0 hx10
        obtain rfl := cr3_0
        refine hG (any_step ?_); clear hG G; intro A J hJ
        have hle0 := Fz.le.trans hle0 hle718
        have hs766 := hs485.mono hle718
        have hs767 := hleL472.mono hle718
        refine s1 hFx 90 (.int .i64 (u3.tmod 8)) ?_; intro a768 hF769; clear hFx
        refine nl (qnI (hJ _ _ ?_)); clear hJ J
        exact ⟨g691, g708, ud84, ud85, ud86, ud87, ud88, .int .i64 u3, .int .i64 (u3.tmod 8), ud91, ud92, ud93, .row b590 [.int .i64 (((gseeS ((gseeS yb13 ((gputS u0 (x27.tmod 15) u1).1) 1).1) ((gputS u0 (x27.tmod 15) u1).1) 1).1).Key), .int .i64 (((gseeS ((gseeS yb13 ((gputS u0 (x27.tmod 15) u1).1) 1).1) ((gputS u0 (x27.tmod 15) u1).1) 1).1).Last), .int .i64 (((gseeS ((gseeS yb13 ((gputS u0 (x27.tmod 15) u1).1) 1).1) ((gputS u0 (x27.tmod 15) u1).1) 1).1).Bad), .int .i64 (((gseeS ((gseeS yb13 ((gputS u0 (x27.tmod 15) u1).1) 1).1) ((gputS u0 (x27.tmod 15) u1).1) 1).1).State)] 24, .row b562 [.int .i64 (((gseeS yb13 ((gputS u0 (x27.tmod 15) u1).1) 1).1).Key), .int .i64 (((gseeS yb13 ((gputS u0 (x27.tmod 15) u1).1) 1).1).Last), .int .i64 (((gseeS yb13 ((gputS u0 (x27.tmod 15) u1).1) 1).1).Bad), .int .i64 (((gseeS yb13 ((gputS u0 (x27.tmod 15) u1).1) 1).1).State)] 24, .own (tyInt .u8) 5 ao511 cap512 ((gputS u0 (x27.tmod 15) u1).1), .row b13 [.int .i64 (((gseeS yb13 ((gputS u0 (x27.tmod 15) u1).1) 1).1).Key), .int .i64 (((gseeS yb13 ((gputS u0 (x27.tmod 15) u1).1) 1).1).Last), .int .i64 (((gseeS yb13 ((gputS u0 (x27.tmod 15) u1).1) 1).1).Bad), .int .i64 (((gseeS yb13 ((gputS u0 (x27.tmod 15) u1).1) 1).1).State)] 24, hle718, hF769.region (by kernel_rfl) (by kernel_rfl), hMx.perm (List.Perm.refl _), cu84, cu85, cu86, cu87, cu88, kf, kf, (nt hx7), (nt hx8), (nt hx9), rfl, rfl, kf, (nt hx10), rfl, cf0, (nt hx9)⟩
       · -- 7: binOp
        obtain rfl := Option.some.inj hi
        have hx6 := hpre 6 (by kernel_rfl)
        have hx5 := hcl 6 5 (by kernel_rfl) hx6
        have hx7 := hSi
        have hx8 := negF hcl 8 7 (by kernel_rfl) hx7
        have hx9 := negF hcl 9 7 (by kernel_rfl) hx7
        have hx10 := negF hcl 10 7 (by kernel_rfl) hx7
        obtain rfl := cu89 hx5
        obtain rfl := cu90 hx6
        obtain rfl := cr0_0
        obtain rfl := cr1_0
        obtain rfl := cr2_0 hx10
        obtain rfl := cr3_0
        refine hG (any_step ?_); clear hG G; intro A J hJ
        have hle0 := Fz.le.trans hle0 hle718
        have hs771 := hs485.mono hle718
        have hs772 := hleL472.mono hle718
        refine st hFx (.int .u8 (bShl .u8 1 (u3.tmod 8))) (nog rfl _) rfl (by kernel_rfl) (shl_run hFx (g := []) (k' := .i64) rfl (by kernel_rfl) (by kernel_rfl) hcd7_0 rfl) ?_; intro a773 hF774; clear hFx
        refine nl (qnI (hJ _ _ ?_)); clear hJ J
        exact ⟨g691, g708, ud84, ud85, ud86, ud87, ud88, .int .i64 u3, .int .i64 (u3.tmod 8), .int .u8 (bShl .u8 1 (u3.tmod 8)), ud92, ud93, .row b590 [.int .i64 (((gseeS ((gseeS yb13 ((gputS u0 (x27.tmod 15) u1).1) 1).1) ((gputS u0 (x27.tmod 15) u1).1) 1).1).Key), .int .i64 (((gseeS ((gseeS yb13 ((gputS u0 (x27.tmod 15) u1).1) 1).1) ((gputS u0 (x27.tmod 15) u1).1) 1).1).Last), .int .i64 (((gseeS ((gseeS yb13 ((gputS u0 (x27.tmod 15) u1).1) 1).1) ((gputS u0 (x27.tmod 15) u1).1) 1).1).Bad), .int .i64 (((gseeS ((gseeS yb13 ((gputS u0 (x27.tmod 15) u1).1) 1).1) ((gputS u0 (x27.tmod 15) u1).1) 1).1).State)] 24, .row b562 [.int .i64 (((gseeS yb13 ((gputS u0 (x27.tmod 15) u1).1) 1).1).Key), .int .i64 (((gseeS yb13 ((gputS u0 (x27.tmod 15) u1).1) 1).1).Last), .int .i64 (((gseeS yb13 ((gputS u0 (x27.tmod 15) u1).1) 1).1).Bad), .int .i64 (((gseeS yb13 ((gputS u0 (x27.tmod 15) u1).1) 1).1).State)] 24, .own (tyInt .u8) 5 ao511 cap512 ((gputS u0 (x27.tmod 15) u1).1), .row b13 [.int .i64 (((gseeS yb13 ((gputS u0 (x27.tmod 15) u1).1) 1).1).Key), .int .i64 (((gseeS yb13 ((gputS u0 (x27.tmod 15) u1).1) 1).1).Last), .int .i64 (((gseeS yb13 ((gputS u0 (x27.tmod 15) u1).1) 1).1).Bad), .int .i64 (((gseeS yb13 ((gputS u0 (x27.tmod 15) u1).1) 1).1).State)] 24, hle718, hF774.region (by kernel_rfl) (by kernel_rfl), hMx.perm (List.Perm.refl _), cu84, cu85, cu86, cu87, cu88, kf, kf, kf, (nt hx8), (nt hx9), rfl, rfl, kf, (nt hx10), rfl, cf0, (nt hx9)⟩
       · -- 8: binOp
        obtain rfl := Option.some.inj hi
        have hx7 := hpre 7 (by kernel_rfl)
        have hx4 := hpre 4 (by kernel_rfl)
        have hx6 := hcl 7 6 (by kernel_rfl) hx7
        have hx3 := hcl 4 3 (by kernel_rfl) hx4
        have hx5 := hcl 6 5 (by kernel_rfl) hx6
        have hx2 := hcl 3 2 (by kernel_rfl) hx3
        have hx0 := hcl 3 0 (by kernel_rfl) hx3
        have hx1 := hcl 2 1 (by kernel_rfl) hx2
        have hx8 := hSi
        have hx9 := negF hcl 9 8 (by kernel_rfl) hx8
        have hx10 := negF hcl 10 8 (by kernel_rfl) hx8
        obtain rfl := cu84 hx0
        obtain rfl := cu85 hx1
        obtain rfl := cu86 hx2
        obtain rfl := cu87 hx3
        obtain rfl := cu88 hx4
        obtain rfl := cu89 hx5
        obtain rfl := cu90 hx6
        obtain rfl := cu91 hx7
        obtain rfl := cr0_0
        obtain rfl := cr1_0
        obtain rfl := cr2_0 hx10
        obtain rfl := cr3_0
        refine hG (any_step ?_); clear hG G; intro A J hJ
        have hle0 := Fz.le.trans hle0 hle718
        have hs776 := hs485.mono hle718
        have hs777 := hleL472.mono hle718
        have hs778 := cf0 hx3
        refine s1 hFx 92 (.int .u8 (bXor .u8 qd4_0 (bShl .u8 1 (u3.tmod 8)))) ?_; intro a779 hF780; clear hFx
        refine nl (qnI (hJ _ _ ?_)); clear hJ J
        exact ⟨g691, g708, .slice ao511 ((gputS u0 (x27.tmod 15) u1).1).length cap512, .int .i64 u3, .int .i64 (w64 (u3.tdiv 8)), .pointer (some ⟨g691, (w64 (u3.tdiv 8)).toNat * 1, none⟩), .int .u8 qd4_0, .int .i64 u3, .int .i64 (u3.tmod 8), .int .u8 (bShl .u8 1 (u3.tmod 8)), .int .u8 (bXor .u8 qd4_0 (bShl .u8 1 (u3.tmod 8))), ud93, .row b590 [.int .i64 (((gseeS ((gseeS yb13 ((gputS u0 (x27.tmod 15) u1).1) 1).1) ((gputS u0 (x27.tmod 15) u1).1) 1).1).Key), .int .i64 (((gseeS ((gseeS yb13 ((gputS u0 (x27.tmod 15) u1).1) 1).1) ((gputS u0 (x27.tmod 15) u1).1) 1).1).Last), .int .i64 (((gseeS ((gseeS yb13 ((gputS u0 (x27.tmod 15) u1).1) 1).1) ((gputS u0 (x27.tmod 15) u1).1) 1).1).Bad), .int .i64 (((gseeS ((gseeS yb13 ((gputS u0 (x27.tmod 15) u1).1) 1).1) ((gputS u0 (x27.tmod 15) u1).1) 1).1).State)] 24, .row b562 [.int .i64 (((gseeS yb13 ((gputS u0 (x27.tmod 15) u1).1) 1).1).Key), .int .i64 (((gseeS yb13 ((gputS u0 (x27.tmod 15) u1).1) 1).1).Last), .int .i64 (((gseeS yb13 ((gputS u0 (x27.tmod 15) u1).1) 1).1).Bad), .int .i64 (((gseeS yb13 ((gputS u0 (x27.tmod 15) u1).1) 1).1).State)] 24, .own (tyInt .u8) 5 ao511 cap512 ((gputS u0 (x27.tmod 15) u1).1), .row b13 [.int .i64 (((gseeS yb13 ((gputS u0 (x27.tmod 15) u1).1) 1).1).Key), .int .i64 (((gseeS yb13 ((gputS u0 (x27.tmod 15) u1).1) 1).1).Last), .int .i64 (((gseeS yb13 ((gputS u0 (x27.tmod 15) u1).1) 1).1).Bad), .int .i64 (((gseeS yb13 ((gputS u0 (x27.tmod 15) u1).1) 1).1).State)] 24, hle718, hF780.region (by kernel_rfl) (by kernel_rfl), hMx.perm (List.Perm.refl _), kf, kf, kf, kf, kf, kf, kf, kf, kf, (nt hx9), rfl, rfl, kf, (nt hx10), rfl, (fun _ => hs778), (nt hx9)⟩
       · -- 9: indexAddr
        obtain rfl := Option.some.inj hi
        have hx8 := hpre 8 (by kernel_rfl)
        have hx7 := hpre 7 (by kernel_rfl)
        have hx6 := hpre 6 (by kernel_rfl)
        have hx5 := hpre 5 (by kernel_rfl)
        have hx4 := hpre 4 (by kernel_rfl)
        have hx3 := hpre 3 (by kernel_rfl)
        have hx2 := hpre 2 (by kernel_rfl)
        have hx1 := hpre 1 (by kernel_rfl)
        have hx0 := hpre 0 (by kernel_rfl)
        have hx9 := hSi
        have hx10 := negF hcl 10 9 (by kernel_rfl) hx9
        obtain rfl := cu84 hx0
        obtain rfl := cu85 hx1
        obtain rfl := cu86 hx2
        obtain rfl := cu87 hx3
        obtain rfl := cu88 hx4
        obtain rfl := cu89 hx5
        obtain rfl := cu90 hx6
        obtain rfl := cu91 hx7
        obtain rfl := cu92 hx8
        obtain rfl := cr0_0
        obtain rfl := cr1_0
        obtain rfl := cr2_0 hx10
        obtain rfl := cr3_0
        refine hG (any_step ?_); clear hG G; intro A J hJ
        have hle0 := Fz.le.trans hle0 hle718
        have hs782 := hs485.mono hle718
        have hs783 := hleL472.mono hle718
        have hs784 := cf0 hx3
        refine ixo hFx hMx 2 (T := (tyInt .u8)) (xs := (gputS u0 (x27.tmod 15) u1).1) (w64 (u3.tdiv 8)) hcd9_0 (k := .i64) (e := 5) (bytes := 1) (nog rfl _) rfl (by kernel_rfl) rfl (by kernel_rfl) (by kernel_rfl) rfl (by kernel_rfl) ?_; intro g785 a787 hg786 hF788; clear hFx
        refine nl (qnI (hJ _ _ ?_)); clear hJ J
        exact ⟨g691, g785, .slice ao511 ((gputS u0 (x27.tmod 15) u1).1).length cap512, .int .i64 u3, .int .i64 (w64 (u3.tdiv 8)), .pointer (some ⟨g691, (w64 (u3.tdiv 8)).toNat * 1, none⟩), .int .u8 qd4_0, .int .i64 u3, .int .i64 (u3.tmod 8), .int .u8 (bShl .u8 1 (u3.tmod 8)), .int .u8 (bXor .u8 qd4_0 (bShl .u8 1 (u3.tmod 8))), .pointer (some ⟨g785, (w64 (u3.tdiv 8)).toNat * 1, none⟩), .row b590 [.int .i64 (((gseeS ((gseeS yb13 ((gputS u0 (x27.tmod 15) u1).1) 1).1) ((gputS u0 (x27.tmod 15) u1).1) 1).1).Key), .int .i64 (((gseeS ((gseeS yb13 ((gputS u0 (x27.tmod 15) u1).1) 1).1) ((gputS u0 (x27.tmod 15) u1).1) 1).1).Last), .int .i64 (((gseeS ((gseeS yb13 ((gputS u0 (x27.tmod 15) u1).1) 1).1) ((gputS u0 (x27.tmod 15) u1).1) 1).1).Bad), .int .i64 (((gseeS ((gseeS yb13 ((gputS u0 (x27.tmod 15) u1).1) 1).1) ((gputS u0 (x27.tmod 15) u1).1) 1).1).State)] 24, .row b562 [.int .i64 (((gseeS yb13 ((gputS u0 (x27.tmod 15) u1).1) 1).1).Key), .int .i64 (((gseeS yb13 ((gputS u0 (x27.tmod 15) u1).1) 1).1).Last), .int .i64 (((gseeS yb13 ((gputS u0 (x27.tmod 15) u1).1) 1).1).Bad), .int .i64 (((gseeS yb13 ((gputS u0 (x27.tmod 15) u1).1) 1).1).State)] 24, .own (tyInt .u8) 5 ao511 cap512 ((gputS u0 (x27.tmod 15) u1).1), .row b13 [.int .i64 (((gseeS yb13 ((gputS u0 (x27.tmod 15) u1).1) 1).1).Key), .int .i64 (((gseeS yb13 ((gputS u0 (x27.tmod 15) u1).1) 1).1).Last), .int .i64 (((gseeS yb13 ((gputS u0 (x27.tmod 15) u1).1) 1).1).Bad), .int .i64 (((gseeS yb13 ((gputS u0 (x27.tmod 15) u1).1) 1).1).State)] 24, hle718, hF788.region (by kernel_rfl) (by kernel_rfl), hMx.perm (List.Perm.refl _), kf, kf, kf, kf, kf, kf, kf, kf, kf, kf, rfl, rfl, kf, (nt hx10), rfl, (fun _ => hs784), (fun _ => hg786)⟩
       · -- 10: store
        obtain rfl := Option.some.inj hi
        have hx9 := hpre 9 (by kernel_rfl)
        have hx8 := hpre 8 (by kernel_rfl)
        have hx7 := hpre 7 (by kernel_rfl)
        have hx6 := hpre 6 (by kernel_rfl)
        have hx5 := hpre 5 (by kernel_rfl)
        have hx4 := hpre 4 (by kernel_rfl)
        have hx3 := hpre 3 (by kernel_rfl)
        have hx2 := hpre 2 (by kernel_rfl)
        have hx1 := hpre 1 (by kernel_rfl)
        have hx0 := hpre 0 (by kernel_rfl)
        have hx10 := hSi
        obtain rfl := cu84 hx0
        obtain rfl := cu85 hx1
        obtain rfl := cu86 hx2
        obtain rfl := cu87 hx3
        obtain rfl := cu88 hx4
        obtain rfl := cu89 hx5
        obtain rfl := cu90 hx6
        obtain rfl := cu91 hx7
        obtain rfl := cu92 hx8
        obtain rfl := cu93 hx9
        obtain rfl := cr0_0
        obtain rfl := cr1_0
        obtain rfl := cr2_0 hx10
        obtain rfl := cr3_0
        refine hG (any_step ?_); clear hG G; intro A J hJ
        have hle0 := Fz.le.trans hle0 hle718
        have hs790 := hs485.mono hle718
        have hs791 := hleL472.mono hle718
        have hs792 := cf0 hx3
        have hs793 := cf1 hx9
        refine sox hFx hMx 2 hs793 (T := (tyInt .u8)) (xs := (gputS u0 (x27.tmod 15) u1).1) (w64 (u3.tdiv 8)).toNat (bXor .u8 qd4_0 (bShl .u8 1 (u3.tmod 8))) (u := .int .u8 (bXor .u8 qd4_0 (bShl .u8 1 (u3.tmod 8)))) (nog rfl _) rfl rfl (by kernel_rfl) rfl (by kernel_rfl) rfl (by kernel_rfl) (by simp only [List.length_set] at *; omega) rfl ?_; intro wd794 hM795; clear hMx
        refine nl (qnI (hJ _ _ ?_)); clear hJ J
        exact ⟨g691, g708, .slice ao511 ((gputS u0 (x27.tmod 15) u1).1).length cap512, .int .i64 u3, .int .i64 (w64 (u3.tdiv 8)), .pointer (some ⟨g691, (w64 (u3.tdiv 8)).toNat * 1, none⟩), .int .u8 qd4_0, .int .i64 u3, .int .i64 (u3.tmod 8), .int .u8 (bShl .u8 1 (u3.tmod 8)), .int .u8 (bXor .u8 qd4_0 (bShl .u8 1 (u3.tmod 8))), .pointer (some ⟨g708, (w64 (u3.tdiv 8)).toNat * 1, none⟩), .row b590 [.int .i64 (((gseeS ((gseeS yb13 ((gputS u0 (x27.tmod 15) u1).1) 1).1) ((gputS u0 (x27.tmod 15) u1).1) 1).1).Key), .int .i64 (((gseeS ((gseeS yb13 ((gputS u0 (x27.tmod 15) u1).1) 1).1) ((gputS u0 (x27.tmod 15) u1).1) 1).1).Last), .int .i64 (((gseeS ((gseeS yb13 ((gputS u0 (x27.tmod 15) u1).1) 1).1) ((gputS u0 (x27.tmod 15) u1).1) 1).1).Bad), .int .i64 (((gseeS ((gseeS yb13 ((gputS u0 (x27.tmod 15) u1).1) 1).1) ((gputS u0 (x27.tmod 15) u1).1) 1).1).State)] 24, .row b562 [.int .i64 (((gseeS yb13 ((gputS u0 (x27.tmod 15) u1).1) 1).1).Key), .int .i64 (((gseeS yb13 ((gputS u0 (x27.tmod 15) u1).1) 1).1).Last), .int .i64 (((gseeS yb13 ((gputS u0 (x27.tmod 15) u1).1) 1).1).Bad), .int .i64 (((gseeS yb13 ((gputS u0 (x27.tmod 15) u1).1) 1).1).State)] 24, .own (tyInt .u8) 5 ao511 cap512 (((gputS u0 (x27.tmod 15) u1).1).set (w64 (u3.tdiv 8)).toNat (bXor .u8 qd4_0 (bShl .u8 1 (u3.tmod 8)))), .row b13 [.int .i64 (((gseeS yb13 ((gputS u0 (x27.tmod 15) u1).1) 1).1).Key), .int .i64 (((gseeS yb13 ((gputS u0 (x27.tmod 15) u1).1) 1).1).Last), .int .i64 (((gseeS yb13 ((gputS u0 (x27.tmod 15) u1).1) 1).1).Bad), .int .i64 (((gseeS yb13 ((gputS u0 (x27.tmod 15) u1).1) 1).1).State)] 24, hle718, hFx.region (by kernel_rfl) (by kernel_rfl), hM795.perm (List.Perm.refl _), kf, kf, kf, kf, kf, kf, kf, kf, kf, kf, rfl, rfl, nu, kf, rfl, (fun _ => hs792), (fun _ => hs793)⟩
      case hE =>
       intro S hS a797 wd798 hI; refine hid ?_; intro G hG; obtain ⟨g691, hI⟩ := hI; obtain ⟨g708, hI⟩ := hI; obtain ⟨ud84, hI⟩ := hI; obtain ⟨ud85, hI⟩ := hI; obtain ⟨ud86, hI⟩ := hI; obtain ⟨ud87, hI⟩ := hI; obtain ⟨ud88, hI⟩ := hI; obtain ⟨ud89, hI⟩ := hI; obtain ⟨ud90, hI⟩ := hI; obtain ⟨ud91, hI⟩ := hI; obtain ⟨ud92, hI⟩ := hI; obtain ⟨ud93, hI⟩ := hI; obtain ⟨rh0, hI⟩ := hI; obtain ⟨rh1, hI⟩ := hI; obtain ⟨rh2, hI⟩ := hI; obtain ⟨rh3, hI⟩ := hI; obtain ⟨hle718, hI⟩ := hI; obtain ⟨hFx, hI⟩ := hI; obtain ⟨hMx, hI⟩ := hI; obtain ⟨cu84, hI⟩ := hI; obtain ⟨cu85, hI⟩ := hI; obtain ⟨cu86, hI⟩ := hI; obtain ⟨cu87, hI⟩ := hI; obtain ⟨cu88, hI⟩ := hI; obtain ⟨cu89, hI⟩ := hI; obtain ⟨cu90, hI⟩ := hI; obtain ⟨cu91, hI⟩ := hI; obtain ⟨cu92, hI⟩ := hI; obtain ⟨cu93, hI⟩ := hI; obtain ⟨cr0_0, hI⟩ := hI; obtain ⟨cr1_0, hI⟩ := hI; obtain ⟨cr2_0, hI⟩ := hI; obtain ⟨cr2_1, hI⟩ := hI; obtain ⟨cr3_0, hI⟩ := hI; obtain ⟨cf0, hI⟩ := hI; have cf1 := hI; clear hI; refine hG ?_; clear hG G
       obtain rfl := cu84 (hS 0 (by decide))
       obtain rfl := cu85 (hS 1 (by decide))
       obtain rfl := cu86 (hS 2 (by decide))
       obtain rfl := cu87 (hS 3 (by decide))
       obtain rfl := cu88 (hS 4 (by decide))
       obtain rfl := cu89 (hS 5 (by decide))
       obtain rfl := cu90 (hS 6 (by decide))
       obtain rfl := cu91 (hS 7 (by decide))
       obtain rfl := cu92 (hS 8 (by decide))
       obtain rfl := cu93 (hS 9 (by decide))
       obtain rfl := cr0_0
       obtain rfl := cr1_0
       obtain rfl := cr2_1 (hS 10 (by decide))
       obtain rfl := cr3_0
       have hle0 := Fz.le.trans hle0 hle718
       have hs799 := hs485.mono hle718
       have hs800 := hleL472.mono hle718
       have hs801 := cf0 (hS 3 (by decide))
       have hs802 := cf1 (hS 9 (by decide))
       have hl803 : (((gputS u0 (x27.tmod 15) u1).1).set (w64 (u3.tdiv 8)).toNat (bXor .u8 qd4_0 (bShl .u8 1 (u3.tmod 8)))).length = ((gputS u0 (x27.tmod 15) u1).1).length := by simp; try omega
       have hF804 : Fr 114 [] [⟨0, [], .int .i64 u0⟩, ⟨1, [], .slice ao1 u1.length cap2⟩, ⟨3, [], .int .i64 u3⟩, ⟨9, [], .pointer (some ⟨b13, 0, none⟩)⟩, ⟨11, [], .slice ao511 (((gputS u0 (x27.tmod 15) u1).1).set (w64 (u3.tdiv 8)).toNat (bXor .u8 qd4_0 (bShl .u8 1 (u3.tmod 8)))).length cap512⟩, ⟨26, [], .int .i64 u2⟩, ⟨27, [], .int .i64 x27⟩, ⟨84, [], .slice ao511 (((gputS u0 (x27.tmod 15) u1).1).set (w64 (u3.tdiv 8)).toNat (bXor .u8 qd4_0 (bShl .u8 1 (u3.tmod 8)))).length cap512⟩, ⟨85, [], .int .i64 u3⟩, ⟨86, [], .int .i64 (w64 (u3.tdiv 8))⟩, ⟨87, [], .pointer (some ⟨g691, (w64 (u3.tdiv 8)).toNat * 1, none⟩)⟩, ⟨88, [], .int .u8 qd4_0⟩, ⟨89, [], .int .i64 u3⟩, ⟨90, [], .int .i64 (u3.tmod 8)⟩, ⟨91, [], .int .u8 (bShl .u8 1 (u3.tmod 8))⟩, ⟨92, [], .int .u8 (bXor .u8 qd4_0 (bShl .u8 1 (u3.tmod 8)))⟩, ⟨93, [], .pointer (some ⟨g708, (w64 (u3.tdiv 8)).toNat * 1, none⟩)⟩] a797 := by rw [hl803]; exact hFx.region (by kernel_rfl) (by kernel_rfl)
       clear hFx
       refine thn ?_
       have hF805 : Fr 114 [] [⟨0, [], .int .i64 u0⟩, ⟨1, [], .slice ao1 u1.length cap2⟩, ⟨3, [], .int .i64 u3⟩, ⟨9, [], .pointer (some ⟨b13, 0, none⟩)⟩, ⟨11, [], .slice ao511 (((gputS u0 (x27.tmod 15) u1).1).set (w64 (u3.tdiv 8)).toNat (bXor .u8 qd4_0 (bShl .u8 1 (u3.tmod 8)))).length cap512⟩, ⟨26, [], .int .i64 u2⟩, ⟨27, [], .int .i64 x27⟩] a797 := hF804.region (by kernel_rfl) (by kernel_rfl); clear hF804
       refine sqH ?_; intro hQ806Q hQ806
       refine l2 hF805 hMx 95 3 0 4 [.int .i64 (((gseeS yb13 ((gputS u0 (x27.tmod 15) u1).1) 1).1).Key), .int .i64 (((gseeS yb13 ((gputS u0 (x27.tmod 15) u1).1) 1).1).Last), .int .i64 (((gseeS yb13 ((gputS u0 (x27.tmod 15) u1).1) 1).1).Bad), .int .i64 (((gseeS yb13 ((gputS u0 (x27.tmod 15) u1).1) 1).1).State)] rfl rfl ?_; intro a807 hF808; clear hF805
       refine s1 hF808 96 (.slice ao511 (((gputS u0 (x27.tmod 15) u1).1).set (w64 (u3.tdiv 8)).toNat (bXor .u8 qd4_0 (bShl .u8 1 (u3.tmod 8)))).length cap512) ?_; intro a809 hF810; clear hF808
       have hc812 := hp717.1; have hp813 := hp717.2; clear hp717
       refine fcl hF810 hMx (.tuple #[.agg #[.int .i64 (((gseeS ((gseeS yb13 ((gputS u0 (x27.tmod 15) u1).1) 1).1) (((gputS u0 (x27.tmod 15) u1).1).set (w64 (u3.tdiv 8)).toNat (bXor .u8 qd4_0 (bShl .u8 1 (u3.tmod 8)))) 14).1).Key), .int .i64 (((gseeS ((gseeS yb13 ((gputS u0 (x27.tmod 15) u1).1) 1).1) (((gputS u0 (x27.tmod 15) u1).1).set (w64 (u3.tdiv 8)).toNat (bXor .u8 qd4_0 (bShl .u8 1 (u3.tmod 8)))) 14).1).Last), .int .i64 (((gseeS ((gseeS yb13 ((gputS u0 (x27.tmod 15) u1).1) 1).1) (((gputS u0 (x27.tmod 15) u1).1).set (w64 (u3.tdiv 8)).toNat (bXor .u8 qd4_0 (bShl .u8 1 (u3.tmod 8)))) 14).1).Bad), .int .i64 (((gseeS ((gseeS yb13 ((gputS u0 (x27.tmod 15) u1).1) 1).1) (((gputS u0 (x27.tmod 15) u1).1).set (w64 (u3.tdiv 8)).toNat (bXor .u8 qd4_0 (bShl .u8 1 (u3.tmod 8)))) 14).1).State)], .int .i64 ((gseeS ((gseeS yb13 ((gputS u0 (x27.tmod 15) u1).1) 1).1) (((gputS u0 (x27.tmod 15) u1).1).set (w64 (u3.tdiv 8)).toNat (bXor .u8 qd4_0 (bShl .u8 1 (u3.tmod 8)))) 14).2)]) 14 #[.agg #[.int .i64 (((gseeS yb13 ((gputS u0 (x27.tmod 15) u1).1) 1).1).Key), .int .i64 (((gseeS yb13 ((gputS u0 (x27.tmod 15) u1).1) 1).1).Last), .int .i64 (((gseeS yb13 ((gputS u0 (x27.tmod 15) u1).1) 1).1).Bad), .int .i64 (((gseeS yb13 ((gputS u0 (x27.tmod 15) u1).1) 1).1).State)], .slice ao511 (((gputS u0 (x27.tmod 15) u1).1).set (w64 (u3.tdiv 8)).toNat (bXor .u8 qd4_0 (bShl .u8 1 (u3.tmod 8)))).length cap512, .int .i64 14] (nog rfl _) rfl (by kernel_rfl) (fun _ => by kernel_rfl) ((by obtain ⟨Z9, hle9, hon9, hs811⟩ := hMx.lend 2 rfl; exact gsee_fun ((gseeS yb13 ((gputS u0 (x27.tmod 15) u1).1) 1).1) (((gputS u0 (x27.tmod 15) u1).1).set (w64 (u3.tdiv 8)).toNat (bXor .u8 qd4_0 (bShl .u8 1 (u3.tmod 8)))) 14 hc812 ao511 cap512 _ _ hs811 hon9)) ?_; intro a814 wd816 hF815 hM817; clear hF810 hMx
       refine s1 hF815 94 (.tuple #[.agg #[.int .i64 (((gseeS ((gseeS yb13 ((gputS u0 (x27.tmod 15) u1).1) 1).1) (((gputS u0 (x27.tmod 15) u1).1).set (w64 (u3.tdiv 8)).toNat (bXor .u8 qd4_0 (bShl .u8 1 (u3.tmod 8)))) 14).1).Key), .int .i64 (((gseeS ((gseeS yb13 ((gputS u0 (x27.tmod 15) u1).1) 1).1) (((gputS u0 (x27.tmod 15) u1).1).set (w64 (u3.tdiv 8)).toNat (bXor .u8 qd4_0 (bShl .u8 1 (u3.tmod 8)))) 14).1).Last), .int .i64 (((gseeS ((gseeS yb13 ((gputS u0 (x27.tmod 15) u1).1) 1).1) (((gputS u0 (x27.tmod 15) u1).1).set (w64 (u3.tdiv 8)).toNat (bXor .u8 qd4_0 (bShl .u8 1 (u3.tmod 8)))) 14).1).Bad), .int .i64 (((gseeS ((gseeS yb13 ((gputS u0 (x27.tmod 15) u1).1) 1).1) (((gputS u0 (x27.tmod 15) u1).1).set (w64 (u3.tdiv 8)).toNat (bXor .u8 qd4_0 (bShl .u8 1 (u3.tmod 8)))) 14).1).State)], .int .i64 ((gseeS ((gseeS yb13 ((gputS u0 (x27.tmod 15) u1).1) 1).1) (((gputS u0 (x27.tmod 15) u1).1).set (w64 (u3.tdiv 8)).toNat (bXor .u8 qd4_0 (bShl .u8 1 (u3.tmod 8)))) 14).2)]) ?_; intro a818 hF819; clear hF815
       refine s1 hF819 98 (.agg #[.int .i64 (((gseeS ((gseeS yb13 ((gputS u0 (x27.tmod 15) u1).1) 1).1) (((gputS u0 (x27.tmod 15) u1).1).set (w64 (u3.tdiv 8)).toNat (bXor .u8 qd4_0 (bShl .u8 1 (u3.tmod 8)))) 14).1).Key), .int .i64 (((gseeS ((gseeS yb13 ((gputS u0 (x27.tmod 15) u1).1) 1).1) (((gputS u0 (x27.tmod 15) u1).1).set (w64 (u3.tdiv 8)).toNat (bXor .u8 qd4_0 (bShl .u8 1 (u3.tmod 8)))) 14).1).Last), .int .i64 (((gseeS ((gseeS yb13 ((gputS u0 (x27.tmod 15) u1).1) 1).1) (((gputS u0 (x27.tmod 15) u1).1).set (w64 (u3.tdiv 8)).toNat (bXor .u8 qd4_0 (bShl .u8 1 (u3.tmod 8)))) 14).1).Bad), .int .i64 (((gseeS ((gseeS yb13 ((gputS u0 (x27.tmod 15) u1).1) 1).1) (((gputS u0 (x27.tmod 15) u1).1).set (w64 (u3.tdiv 8)).toNat (bXor .u8 qd4_0 (bShl .u8 1 (u3.tmod 8)))) 14).1).State)]) ?_; intro a820 hF821; clear hF819
       refine s1 hF821 99 (.int .i64 ((gseeS ((gseeS yb13 ((gputS u0 (x27.tmod 15) u1).1) 1).1) (((gputS u0 (x27.tmod 15) u1).1).set (w64 (u3.tdiv 8)).toNat (bXor .u8 qd4_0 (bShl .u8 1 (u3.tmod 8)))) 14).2)) ?_; intro a822 hF823; clear hF821
       refine sn hF823 hM817 (fun b => .pointer (some ⟨b, 0, none⟩)) [.int .i64 0, .int .i64 0, .int .i64 0, .int .i64 0] 24 (nog rfl _) rfl (by kernel_rfl) (by kernel_rfl) ?_; intro b824 a825 wd827 hF826 hM828; clear hF823 hM817
       refine sr hF826 hM828 0 [.int .i64 (((gseeS ((gseeS yb13 ((gputS u0 (x27.tmod 15) u1).1) 1).1) (((gputS u0 (x27.tmod 15) u1).1).set (w64 (u3.tdiv 8)).toNat (bXor .u8 qd4_0 (bShl .u8 1 (u3.tmod 8)))) 14).1).Key), .int .i64 (((gseeS ((gseeS yb13 ((gputS u0 (x27.tmod 15) u1).1) 1).1) (((gputS u0 (x27.tmod 15) u1).1).set (w64 (u3.tdiv 8)).toNat (bXor .u8 qd4_0 (bShl .u8 1 (u3.tmod 8)))) 14).1).Last), .int .i64 (((gseeS ((gseeS yb13 ((gputS u0 (x27.tmod 15) u1).1) 1).1) (((gputS u0 (x27.tmod 15) u1).1).set (w64 (u3.tdiv 8)).toNat (bXor .u8 qd4_0 (bShl .u8 1 (u3.tmod 8)))) 14).1).Bad), .int .i64 (((gseeS ((gseeS yb13 ((gputS u0 (x27.tmod 15) u1).1) 1).1) (((gputS u0 (x27.tmod 15) u1).1).set (w64 (u3.tdiv 8)).toNat (bXor .u8 qd4_0 (bShl .u8 1 (u3.tmod 8)))) 14).1).State)] (b := b824) (off := 0) (cs := [.int .i64 0, .int .i64 0, .int .i64 0, .int .i64 0]) (ty := 24) (u := .agg #[.int .i64 (((gseeS ((gseeS yb13 ((gputS u0 (x27.tmod 15) u1).1) 1).1) (((gputS u0 (x27.tmod 15) u1).1).set (w64 (u3.tdiv 8)).toNat (bXor .u8 qd4_0 (bShl .u8 1 (u3.tmod 8)))) 14).1).Key), .int .i64 (((gseeS ((gseeS yb13 ((gputS u0 (x27.tmod 15) u1).1) 1).1) (((gputS u0 (x27.tmod 15) u1).1).set (w64 (u3.tdiv 8)).toNat (bXor .u8 qd4_0 (bShl .u8 1 (u3.tmod 8)))) 14).1).Last), .int .i64 (((gseeS ((gseeS yb13 ((gputS u0 (x27.tmod 15) u1).1) 1).1) (((gputS u0 (x27.tmod 15) u1).1).set (w64 (u3.tdiv 8)).toNat (bXor .u8 qd4_0 (bShl .u8 1 (u3.tmod 8)))) 14).1).Bad), .int .i64 (((gseeS ((gseeS yb13 ((gputS u0 (x27.tmod 15) u1).1) 1).1) (((gputS u0 (x27.tmod 15) u1).1).set (w64 (u3.tdiv 8)).toNat (bXor .u8 qd4_0 (bShl .u8 1 (u3.tmod 8)))) 14).1).State)]) (nog rfl _) rfl rfl (by kernel_rfl) (by kernel_rfl) (by kernel_rfl) (by kernel_rfl) (by kernel_rfl) (by kernel_rfl) (by kernel_rfl) ?_; intro wd829 hM830; clear hM828
       refine s1 hF826 17 (.int .i64 ((gseeS ((gseeS yb13 ((gputS u0 (x27.tmod 15) u1).1) 1).1) (((gputS u0 (x27.tmod 15) u1).1).set (w64 (u3.tdiv 8)).toNat (bXor .u8 qd4_0 (bShl .u8 1 (u3.tmod 8)))) 14).2)) ?_; intro a831 hF832; clear hF826
       have hM833 : Mem w.heap.size [] w Z [.row b824 [.int .i64 (((gseeS ((gseeS yb13 ((gputS u0 (x27.tmod 15) u1).1) 1).1) (((gputS u0 (x27.tmod 15) u1).1).set (w64 (u3.tdiv 8)).toNat (bXor .u8 qd4_0 (bShl .u8 1 (u3.tmod 8)))) 14).1).Key), .int .i64 (((gseeS ((gseeS yb13 ((gputS u0 (x27.tmod 15) u1).1) 1).1) (((gputS u0 (x27.tmod 15) u1).1).set (w64 (u3.tdiv 8)).toNat (bXor .u8 qd4_0 (bShl .u8 1 (u3.tmod 8)))) 14).1).Last), .int .i64 (((gseeS ((gseeS yb13 ((gputS u0 (x27.tmod 15) u1).1) 1).1) (((gputS u0 (x27.tmod 15) u1).1).set (w64 (u3.tdiv 8)).toNat (bXor .u8 qd4_0 (bShl .u8 1 (u3.tmod 8)))) 14).1).Bad), .int .i64 (((gseeS ((gseeS yb13 ((gputS u0 (x27.tmod 15) u1).1) 1).1) (((gputS u0 (x27.tmod 15) u1).1).set (w64 (u3.tdiv 8)).toNat (bXor .u8 qd4_0 (bShl .u8 1 (u3.tmod 8)))) 14).1).State)] 24, .row b590 [.int .i64 (((gseeS ((gseeS yb13 ((gputS u0 (x27.tmod 15) u1).1) 1).1) ((gputS u0 (x27.tmod 15) u1).1) 1).1).Key), .int .i64 (((gseeS ((gseeS yb13 ((gputS u0 (x27.tmod 15) u1).1) 1).1) ((gputS u0 (x27.tmod 15) u1).1) 1).1).Last), .int .i64 (((gseeS ((gseeS yb13 ((gputS u0 (x27.tmod 15) u1).1) 1).1) ((gputS u0 (x27.tmod 15) u1).1) 1).1).Bad), .int .i64 (((gseeS ((gseeS yb13 ((gputS u0 (x27.tmod 15) u1).1) 1).1) ((gputS u0 (x27.tmod 15) u1).1) 1).1).State)] 24, .row b562 [.int .i64 (((gseeS yb13 ((gputS u0 (x27.tmod 15) u1).1) 1).1).Key), .int .i64 (((gseeS yb13 ((gputS u0 (x27.tmod 15) u1).1) 1).1).Last), .int .i64 (((gseeS yb13 ((gputS u0 (x27.tmod 15) u1).1) 1).1).Bad), .int .i64 (((gseeS yb13 ((gputS u0 (x27.tmod 15) u1).1) 1).1).State)] 24, .own (tyInt .u8) 5 ao511 cap512 (((gputS u0 (x27.tmod 15) u1).1).set (w64 (u3.tdiv 8)).toNat (bXor .u8 qd4_0 (bShl .u8 1 (u3.tmod 8)))), .row b13 [.int .i64 (((gseeS yb13 ((gputS u0 (x27.tmod 15) u1).1) 1).1).Key), .int .i64 (((gseeS yb13 ((gputS u0 (x27.tmod 15) u1).1) 1).1).Last), .int .i64 (((gseeS yb13 ((gputS u0 (x27.tmod 15) u1).1) 1).1).Bad), .int .i64 (((gseeS yb13 ((gputS u0 (x27.tmod 15) u1).1) 1).1).State)] 24] Z513 wd829 := hM830; clear hM830
       refine nlH (hQ806 _ _ ?_); clear hQ806 hQ806Q
       refine sqH ?_; intro hQ834Q hQ834
       refine s1 hF832 100 (.int .i64 ((gseeS ((gseeS yb13 ((gputS u0 (x27.tmod 15) u1).1) 1).1) (((gputS u0 (x27.tmod 15) u1).1).set (w64 (u3.tdiv 8)).toNat (bXor .u8 qd4_0 (bShl .u8 1 (u3.tmod 8)))) 14).2)) ?_; intro a835 hF836; clear hF832
       refine s1 hF836 101 (.bool (((gseeS ((gseeS yb13 ((gputS u0 (x27.tmod 15) u1).1) 1).1) (((gputS u0 (x27.tmod 15) u1).1).set (w64 (u3.tdiv 8)).toNat (bXor .u8 qd4_0 (bShl .u8 1 (u3.tmod 8)))) 14).2) != 0)) ?_; intro a837 hF838; clear hF836
       refine s1 hF838 102 (.bool (((gseeS ((gseeS yb13 ((gputS u0 (x27.tmod 15) u1).1) 1).1) (((gputS u0 (x27.tmod 15) u1).1).set (w64 (u3.tdiv 8)).toNat (bXor .u8 qd4_0 (bShl .u8 1 (u3.tmod 8)))) 14).2) != 0)) ?_; intro a839 hF840; clear hF838
       have hF841 := hF840.atom ((((gseeS ((gseeS yb13 ((gputS u0 (x27.tmod 15) u1).1) 1).1) (((gputS u0 (x27.tmod 15) u1).1).set (w64 (u3.tdiv 8)).toNat (bXor .u8 qd4_0 (bShl .u8 1 (u3.tmod 8)))) 14).2) != 0) == false) (by kernel_rfl); clear hF840
       refine gp hF841 103 0 [] (((gseeS ((gseeS yb13 ((gputS u0 (x27.tmod 15) u1).1) 1).1) (((gputS u0 (x27.tmod 15) u1).1).set (w64 (u3.tdiv 8)).toNat (bXor .u8 qd4_0 (bShl .u8 1 (u3.tmod 8)))) 14).2) != 0) (.pointer (some ⟨b824, 3, none⟩)) rfl rfl ?_; intro a842 hF843; clear hF841
       refine gd hF843 (.int .i64 (((gseeS ((gseeS yb13 ((gputS u0 (x27.tmod 15) u1).1) 1).1) (((gputS u0 (x27.tmod 15) u1).1).set (w64 (u3.tdiv 8)).toNat (bXor .u8 qd4_0 (bShl .u8 1 (u3.tmod 8)))) 14).1).State)) (m := 0) (cj := []) (bj := ((gseeS ((gseeS yb13 ((gputS u0 (x27.tmod 15) u1).1) 1).1) (((gputS u0 (x27.tmod 15) u1).1).set (w64 (u3.tdiv 8)).toNat (bXor .u8 qd4_0 (bShl .u8 1 (u3.tmod 8)))) 14).2) != 0) rfl rfl (by kernel_rfl) rfl (by kernel_rfl) (by kernel_rfl) (by kernel_rfl) (fun hg => ld hF843 hM833 0 (g := [0]) (b := b824) (off := 3) (cs := [.int .i64 (((gseeS ((gseeS yb13 ((gputS u0 (x27.tmod 15) u1).1) 1).1) (((gputS u0 (x27.tmod 15) u1).1).set (w64 (u3.tdiv 8)).toNat (bXor .u8 qd4_0 (bShl .u8 1 (u3.tmod 8)))) 14).1).Key), .int .i64 (((gseeS ((gseeS yb13 ((gputS u0 (x27.tmod 15) u1).1) 1).1) (((gputS u0 (x27.tmod 15) u1).1).set (w64 (u3.tdiv 8)).toNat (bXor .u8 qd4_0 (bShl .u8 1 (u3.tmod 8)))) 14).1).Last), .int .i64 (((gseeS ((gseeS yb13 ((gputS u0 (x27.tmod 15) u1).1) 1).1) (((gputS u0 (x27.tmod 15) u1).1).set (w64 (u3.tdiv 8)).toNat (bXor .u8 qd4_0 (bShl .u8 1 (u3.tmod 8)))) 14).1).Bad), .int .i64 (((gseeS ((gseeS yb13 ((gputS u0 (x27.tmod 15) u1).1) 1).1) (((gputS u0 (x27.tmod 15) u1).1).set (w64 (u3.tdiv 8)).toNat (bXor .u8 qd4_0 (bShl .u8 1 (u3.tmod 8)))) 14).1).State)]) (ty := 24) rfl (by kernel_rfl) (by kernel_rfl) (by kernel_rfl) (by kernel_rfl) hg) ?_; intro a844 hF845; clear hF843
       refine gp hF845 105 0 [] (((gseeS ((gseeS yb13 ((gputS u0 (x27.tmod 15) u1).1) 1).1) (((gputS u0 (x27.tmod 15) u1).1).set (w64 (u3.tdiv 8)).toNat (bXor .u8 qd4_0 (bShl .u8 1 (u3.tmod 8)))) 14).2) != 0) (.bool ((((gseeS ((gseeS yb13 ((gputS u0 (x27.tmod 15) u1).1) 1).1) (((gputS u0 (x27.tmod 15) u1).1).set (w64 (u3.tdiv 8)).toNat (bXor .u8 qd4_0 (bShl .u8 1 (u3.tmod 8)))) 14).1).State) != 4)) rfl rfl ?_; intro a846 hF847; clear hF845
       refine st hF847 (.bool ((((gseeS ((gseeS yb13 ((gputS u0 (x27.tmod 15) u1).1) 1).1) (((gputS u0 (x27.tmod 15) u1).1).set (w64 (u3.tdiv 8)).toNat (bXor .u8 qd4_0 (bShl .u8 1 (u3.tmod 8)))) 14).2) != 0) || ((((gseeS ((gseeS yb13 ((gputS u0 (x27.tmod 15) u1).1) 1).1) (((gputS u0 (x27.tmod 15) u1).1).set (w64 (u3.tdiv 8)).toNat (bXor .u8 qd4_0 (bShl .u8 1 (u3.tmod 8)))) 14).1).State) != 4))) (nog rfl _) rfl (by kernel_rfl) (pk_or hF847 (g := []) (m := 0) (b := ((gseeS ((gseeS yb13 ((gputS u0 (x27.tmod 15) u1).1) 1).1) (((gputS u0 (x27.tmod 15) u1).1).set (w64 (u3.tdiv 8)).toNat (bXor .u8 qd4_0 (bShl .u8 1 (u3.tmod 8)))) 14).2) != 0) (v := (((gseeS ((gseeS yb13 ((gputS u0 (x27.tmod 15) u1).1) 1).1) (((gputS u0 (x27.tmod 15) u1).1).set (w64 (u3.tdiv 8)).toNat (bXor .u8 qd4_0 (bShl .u8 1 (u3.tmod 8)))) 14).1).State) != 4) rfl (by kernel_rfl) (by kernel_rfl) (by kernel_rfl) rfl) ?_; intro a848 hF849; clear hF847
       refine s1 hF849 107 (.bool ((((gseeS ((gseeS yb13 ((gputS u0 (x27.tmod 15) u1).1) 1).1) (((gputS u0 (x27.tmod 15) u1).1).set (w64 (u3.tdiv 8)).toNat (bXor .u8 qd4_0 (bShl .u8 1 (u3.tmod 8)))) 14).2) != 0) || ((((gseeS ((gseeS yb13 ((gputS u0 (x27.tmod 15) u1).1) 1).1) (((gputS u0 (x27.tmod 15) u1).1).set (w64 (u3.tdiv 8)).toNat (bXor .u8 qd4_0 (bShl .u8 1 (u3.tmod 8)))) 14).1).State) != 4))) ?_; intro a850 hF851; clear hF849
       have hF852 := hF851.atom (((((gseeS ((gseeS yb13 ((gputS u0 (x27.tmod 15) u1).1) 1).1) (((gputS u0 (x27.tmod 15) u1).1).set (w64 (u3.tdiv 8)).toNat (bXor .u8 qd4_0 (bShl .u8 1 (u3.tmod 8)))) 14).2) != 0) || ((((gseeS ((gseeS yb13 ((gputS u0 (x27.tmod 15) u1).1) 1).1) (((gputS u0 (x27.tmod 15) u1).1).set (w64 (u3.tdiv 8)).toNat (bXor .u8 qd4_0 (bShl .u8 1 (u3.tmod 8)))) 14).1).State) != 4)) == false) (by kernel_rfl); clear hF851
       refine gp hF852 108 1 [] ((((gseeS ((gseeS yb13 ((gputS u0 (x27.tmod 15) u1).1) 1).1) (((gputS u0 (x27.tmod 15) u1).1).set (w64 (u3.tdiv 8)).toNat (bXor .u8 qd4_0 (bShl .u8 1 (u3.tmod 8)))) 14).2) != 0) || ((((gseeS ((gseeS yb13 ((gputS u0 (x27.tmod 15) u1).1) 1).1) (((gputS u0 (x27.tmod 15) u1).1).set (w64 (u3.tdiv 8)).toNat (bXor .u8 qd4_0 (bShl .u8 1 (u3.tmod 8)))) 14).1).State) != 4)) (.pointer (some ⟨b824, 2, none⟩)) rfl rfl ?_; intro a853 hF854; clear hF852
       refine gd hF854 (.int .i64 (((gseeS ((gseeS yb13 ((gputS u0 (x27.tmod 15) u1).1) 1).1) (((gputS u0 (x27.tmod 15) u1).1).set (w64 (u3.tdiv 8)).toNat (bXor .u8 qd4_0 (bShl .u8 1 (u3.tmod 8)))) 14).1).Bad)) (m := 1) (cj := []) (bj := (((gseeS ((gseeS yb13 ((gputS u0 (x27.tmod 15) u1).1) 1).1) (((gputS u0 (x27.tmod 15) u1).1).set (w64 (u3.tdiv 8)).toNat (bXor .u8 qd4_0 (bShl .u8 1 (u3.tmod 8)))) 14).2) != 0) || ((((gseeS ((gseeS yb13 ((gputS u0 (x27.tmod 15) u1).1) 1).1) (((gputS u0 (x27.tmod 15) u1).1).set (w64 (u3.tdiv 8)).toNat (bXor .u8 qd4_0 (bShl .u8 1 (u3.tmod 8)))) 14).1).State) != 4)) rfl rfl (by kernel_rfl) rfl (by kernel_rfl) (by kernel_rfl) (by kernel_rfl) (fun hg => ld hF854 hM833 0 (g := [1]) (b := b824) (off := 2) (cs := [.int .i64 (((gseeS ((gseeS yb13 ((gputS u0 (x27.tmod 15) u1).1) 1).1) (((gputS u0 (x27.tmod 15) u1).1).set (w64 (u3.tdiv 8)).toNat (bXor .u8 qd4_0 (bShl .u8 1 (u3.tmod 8)))) 14).1).Key), .int .i64 (((gseeS ((gseeS yb13 ((gputS u0 (x27.tmod 15) u1).1) 1).1) (((gputS u0 (x27.tmod 15) u1).1).set (w64 (u3.tdiv 8)).toNat (bXor .u8 qd4_0 (bShl .u8 1 (u3.tmod 8)))) 14).1).Last), .int .i64 (((gseeS ((gseeS yb13 ((gputS u0 (x27.tmod 15) u1).1) 1).1) (((gputS u0 (x27.tmod 15) u1).1).set (w64 (u3.tdiv 8)).toNat (bXor .u8 qd4_0 (bShl .u8 1 (u3.tmod 8)))) 14).1).Bad), .int .i64 (((gseeS ((gseeS yb13 ((gputS u0 (x27.tmod 15) u1).1) 1).1) (((gputS u0 (x27.tmod 15) u1).1).set (w64 (u3.tdiv 8)).toNat (bXor .u8 qd4_0 (bShl .u8 1 (u3.tmod 8)))) 14).1).State)]) (ty := 24) rfl (by kernel_rfl) (by kernel_rfl) (by kernel_rfl) (by kernel_rfl) hg) ?_; intro a855 hF856; clear hF854
       refine gp hF856 110 1 [] ((((gseeS ((gseeS yb13 ((gputS u0 (x27.tmod 15) u1).1) 1).1) (((gputS u0 (x27.tmod 15) u1).1).set (w64 (u3.tdiv 8)).toNat (bXor .u8 qd4_0 (bShl .u8 1 (u3.tmod 8)))) 14).2) != 0) || ((((gseeS ((gseeS yb13 ((gputS u0 (x27.tmod 15) u1).1) 1).1) (((gputS u0 (x27.tmod 15) u1).1).set (w64 (u3.tdiv 8)).toNat (bXor .u8 qd4_0 (bShl .u8 1 (u3.tmod 8)))) 14).1).State) != 4)) (.bool ((((gseeS ((gseeS yb13 ((gputS u0 (x27.tmod 15) u1).1) 1).1) (((gputS u0 (x27.tmod 15) u1).1).set (w64 (u3.tdiv 8)).toNat (bXor .u8 qd4_0 (bShl .u8 1 (u3.tmod 8)))) 14).1).Bad) != 1)) rfl rfl ?_; intro a857 hF858; clear hF856
       refine st hF858 (.bool (((((gseeS ((gseeS yb13 ((gputS u0 (x27.tmod 15) u1).1) 1).1) (((gputS u0 (x27.tmod 15) u1).1).set (w64 (u3.tdiv 8)).toNat (bXor .u8 qd4_0 (bShl .u8 1 (u3.tmod 8)))) 14).2) != 0) || ((((gseeS ((gseeS yb13 ((gputS u0 (x27.tmod 15) u1).1) 1).1) (((gputS u0 (x27.tmod 15) u1).1).set (w64 (u3.tdiv 8)).toNat (bXor .u8 qd4_0 (bShl .u8 1 (u3.tmod 8)))) 14).1).State) != 4)) || ((((gseeS ((gseeS yb13 ((gputS u0 (x27.tmod 15) u1).1) 1).1) (((gputS u0 (x27.tmod 15) u1).1).set (w64 (u3.tdiv 8)).toNat (bXor .u8 qd4_0 (bShl .u8 1 (u3.tmod 8)))) 14).1).Bad) != 1))) (nog rfl _) rfl (by kernel_rfl) (pk_or hF858 (g := []) (m := 1) (b := (((gseeS ((gseeS yb13 ((gputS u0 (x27.tmod 15) u1).1) 1).1) (((gputS u0 (x27.tmod 15) u1).1).set (w64 (u3.tdiv 8)).toNat (bXor .u8 qd4_0 (bShl .u8 1 (u3.tmod 8)))) 14).2) != 0) || ((((gseeS ((gseeS yb13 ((gputS u0 (x27.tmod 15) u1).1) 1).1) (((gputS u0 (x27.tmod 15) u1).1).set (w64 (u3.tdiv 8)).toNat (bXor .u8 qd4_0 (bShl .u8 1 (u3.tmod 8)))) 14).1).State) != 4)) (v := (((gseeS ((gseeS yb13 ((gputS u0 (x27.tmod 15) u1).1) 1).1) (((gputS u0 (x27.tmod 15) u1).1).set (w64 (u3.tdiv 8)).toNat (bXor .u8 qd4_0 (bShl .u8 1 (u3.tmod 8)))) 14).1).Bad) != 1) rfl (by kernel_rfl) (by kernel_rfl) (by kernel_rfl) rfl) ?_; intro a859 hF860; clear hF858
       refine nlH (hQ834 _ _ ?_); clear hQ834 hQ834Q
       refine cd hF860 (t := ((((gseeS ((gseeS yb13 ((gputS u0 (x27.tmod 15) u1).1) 1).1) (((gputS u0 (x27.tmod 15) u1).1).set (w64 (u3.tdiv 8)).toNat (bXor .u8 qd4_0 (bShl .u8 1 (u3.tmod 8)))) 14).2) != 0) || ((((gseeS ((gseeS yb13 ((gputS u0 (x27.tmod 15) u1).1) 1).1) (((gputS u0 (x27.tmod 15) u1).1).set (w64 (u3.tdiv 8)).toNat (bXor .u8 qd4_0 (bShl .u8 1 (u3.tmod 8)))) 14).1).State) != 4)) || ((((gseeS ((gseeS yb13 ((gputS u0 (x27.tmod 15) u1).1) 1).1) (((gputS u0 (x27.tmod 15) u1).1).set (w64 (u3.tdiv 8)).toNat (bXor .u8 qd4_0 (bShl .u8 1 (u3.tmod 8)))) 14).1).Bad) != 1)) (by kernel_rfl) (fun hb861 => ?_) (fun hb861 => ?_)
       · -- yes
        have hp862 := hp813.1 hb861; clear hp813
        have hF863 : Fr 114 [] [] a859 := hF860.region (by kernel_rfl) (by kernel_rfl); clear hF860
        refine sqH ?_; intro hQ864Q hQ864
        refine s1 hF863 8 (.bool false) ?_; intro a865 hF866; clear hF863
        refine nlH (hQ864 _ _ ?_); clear hQ864 hQ864Q
        refine wp_ret ?_
        refine ibr ?_
        refine thr ?_
        refine thr ?_
        refine ibr ?_
        refine thr ?_
        refine rt (fn := Try.f3) (v := .bool false) hF866 (re1 hF866 (fn := Try.f3) rfl (by kernel_rfl)) ?_
        exact ⟨false, rfl, hp862, hM833.below⟩
       · -- no
        have hp867 := hp813.2 hb861; clear hp813
        refine wp_skip ?_
        refine ibn ?_
        refine thn ?_
        have hF868 : Fr 114 [] [⟨0, [], .int .i64 u0⟩, ⟨1, [], .slice ao1 u1.length cap2⟩, ⟨3, [], .int .i64 u3⟩, ⟨9, [], .pointer (some ⟨b13, 0, none⟩)⟩, ⟨26, [], .int .i64 u2⟩, ⟨27, [], .int .i64 x27⟩] a859 := hF860.region (by kernel_rfl) (by kernel_rfl); clear hF860
        refine rgH ?_; intro hQ869Q hQ869
        refine s1 hF868 112 (.int .i64 (w64 (x27 + 1))) ?_; intro a870 hF871; clear hF868
        refine s1 hF871 27 (.int .i64 (w64 (x27 + 1))) ?_; intro a872 hF873; clear hF871
        refine nlH (hQ869 _ _ ?_); clear hQ869 hQ869Q
        refine rd ?_
        exact ⟨⟨w64 (x27 + 1), ((gseeS yb13 ((gputS u0 (x27.tmod 15) u1).1) 1).1), Z513⟩, ⟨hp867.1, hs800⟩, hp867.2, (hF873.region (by kernel_rfl) (by kernel_rfl)).anyβ _ (by kernel_rfl), hM833.keep (List.Sublist.cons _ (List.Sublist.cons _ (List.Sublist.cons _ (List.Sublist.cons _ (List.Sublist.cons_cons _ (List.Sublist.slnil))))))⟩
     · -- no
      have hp874 := hp654.2 hb682; clear hp654
      refine wp_skip ?_
      refine ibn ?_
      refine thn ?_
      have hF875 : Fr 114 [] [⟨0, [], .int .i64 u0⟩, ⟨1, [], .slice ao1 u1.length cap2⟩, ⟨3, [], .int .i64 u3⟩, ⟨9, [], .pointer (some ⟨b13, 0, none⟩)⟩, ⟨26, [], .int .i64 u2⟩, ⟨27, [], .int .i64 x27⟩] a680 := hF681.region (by kernel_rfl) (by kernel_rfl); clear hF681
      refine rgH ?_; intro hQ876Q hQ876
      refine s1 hF875 112 (.int .i64 (w64 (x27 + 1))) ?_; intro a877 hF878; clear hF875
      refine s1 hF878 27 (.int .i64 (w64 (x27 + 1))) ?_; intro a879 hF880; clear hF878
      refine nlH (hQ876 _ _ ?_); clear hQ876 hQ876Q
      refine rd ?_
      exact ⟨⟨w64 (x27 + 1), ((gseeS yb13 ((gputS u0 (x27.tmod 15) u1).1) 1).1), Z513⟩, ⟨hp874.1, hleL472⟩, hp874.2, (hF880.region (by kernel_rfl) (by kernel_rfl)).anyβ _ (by kernel_rfl), hM661.keep (List.Sublist.cons _ (List.Sublist.cons _ (List.Sublist.cons _ (List.Sublist.cons_cons _ (List.Sublist.slnil)))))⟩
  · -- no
   have hp881 := hp484.2 hb489; clear hp484
   refine wp_exit ?_
   refine thx ?_
   refine thx ?_
   refine ibx ?_
   refine thn ?_
   refine sqH ?_; intro hQ882Q hQ882
   refine fcl hF488 hM483 (.bool true) 13 #[] (nog rfl _) rfl (by kernel_rfl) (fun _ => by kernel_rfl) (guarded_fun  _ _ hM483.fz) ?_; intro a883 wd885 hF884 hM886; clear hF488 hM483
   refine s1 hF884 8 (.bool true) ?_; intro a887 hF888; clear hF884
   refine nlH (hQ882 _ _ ?_); clear hQ882 hQ882Q
   refine wp_ret ?_
   refine rt (fn := Try.f3) (v := .bool true) hF888 (re1 hF888 (fn := Try.f3) rfl (by kernel_rfl)) ?_
   exact ⟨true, rfl, hp881, hM886.below⟩

end Go.Proofs.Ytginlmgkimfjmaa
