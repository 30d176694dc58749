/- The walks, made by program: each call does what its pure predicate says. -/
import Derived.Test.YtmbdcehmeiiaoaaGreatDoorWE
set_option linter.unusedVariables false
set_option linter.unusedSimpArgs false
namespace Go.Proofs.YtmbdcehmeiiaoaaGreatDoor
open Go.Sy Go.RowKit
set_option maxRecDepth 100000 in
set_option maxHeartbeats 0 in
theorem flongest_walk (u0 : Bool) (u1 : Bool) (u2 : Int)  (Z : Fz) (w : World)  (hZ : Z.on w) {K : (Int × Int) → Prop} (hp : flongest_vc u0 u1 u2 K) : Calls Tryz.prog 22 #[.bool u0, .bool u1, .int .i64 u2] w fun e w' => ∃ r : Int × Int, e = .returned (.tuple #[.int .i64 r.1, .int .i64 r.2]) ∧ K r ∧ Below w.heap.size w w' := by
 refine enter0 Tryz.func22 rfl rfl (by kernel_rfl) ?_; intro a0 hF0; have hM0 := Mem.start w Z hZ; have hle0 := Fz.le.refl Z
 refine sqH ?_; intro hQ1Q hQ1
 refine s1 hF0 6 (.int .i64 0) ?_; intro a2 hF3; clear hF0
 refine s1 hF3 7 (.int .i64 0) ?_; intro a4 hF5; clear hF3
 refine nlH (hQ1 _ _ ?_); clear hQ1 hQ1Q
 refine sqH ?_; intro hQ6Q hQ6
 refine s1 hF5 17 (.bool u0) ?_; intro a7 hF8; clear hF5
 refine s1 hF8 18 (.bool u1) ?_; intro a9 hF10; clear hF8
 refine s1 hF10 19 (.agg #[.int .i64 0, .bool u0, .bool u1, .bool false, .int .i64 0, .slice none 0 0]) ?_; intro a11 hF12; clear hF10
 refine sn hF12 hM0 (fun b => .pointer (some ⟨b, 0, none⟩)) [.int .i64 0, .bool false, .bool false, .bool false, .int .i64 0, .slice none 0 0] 24 (nog rfl _) rfl (by kernel_rfl) (by kernel_rfl) ?_; intro b13 a14 wd16 hF15 hM17; clear hF12 hM0
 refine sr hF15 hM17 0 [.int .i64 0, .bool u0, .bool u1, .bool false, .int .i64 0, .slice none 0 0] (b := b13) (off := 0) (cs := [.int .i64 0, .bool false, .bool false, .bool false, .int .i64 0, .slice none 0 0]) (ty := 24) (u := .agg #[.int .i64 0, .bool u0, .bool u1, .bool false, .int .i64 0, .slice none 0 0]) (nog rfl _) rfl rfl (by kernel_rfl) (by kernel_rfl) (by kernel_rfl) (by kernel_rfl) (by kernel_rfl) (by kernel_rfl) (by kernel_rfl) ?_; intro wd18 hM19; clear hM17
 have hM20 : Mem w.heap.size [] w Z [.row b13 [.int .i64 0, .bool u0, .bool u1, .bool false, .int .i64 0, .slice none 0 0] 24] Z wd18 := hM19; clear hM19
 refine nlH (hQ6 _ _ ?_); clear hQ6 hQ6Q
 refine wp_seq ?_
 refine sqH ?_; intro hQ21Q hQ21
 refine s1 hF15 20 (.int .i64 u2) ?_; intro a22 hF23; clear hF15
 refine s1 hF23 21 (.bool (decide (u2 < 0))) ?_; intro a24 hF25; clear hF23
 refine s1 hF25 22 (.bool (decide (u2 < 0))) ?_; intro a26 hF27; clear hF25
 have hF28 := hF27.atom ((decide (u2 < 0)) == false) (by kernel_rfl); clear hF27
 refine gp hF28 23 0 [] (decide (u2 < 0)) (.int .i64 u2) rfl rfl ?_; intro a29 hF30; clear hF28
 refine gp hF30 24 0 [] (decide (u2 < 0)) (.bool (decide (u2 > 64))) rfl rfl ?_; intro a31 hF32; clear hF30
 refine st hF32 (.bool ((decide (u2 < 0)) || (decide (u2 > 64)))) (nog rfl _) rfl (by kernel_rfl) (pk_or hF32 (g := []) (m := 0) (b := decide (u2 < 0)) (v := decide (u2 > 64)) rfl (by kernel_rfl) (by kernel_rfl) (by kernel_rfl) rfl) ?_; intro a33 hF34; clear hF32
 refine nlH (hQ21 _ _ ?_); clear hQ21 hQ21Q
 refine cd hF34 (t := (decide (u2 < 0)) || (decide (u2 > 64))) (by kernel_rfl) (fun hb35 => ?_) (fun hb35 => ?_)
 · -- yes
  have hp36 := hp.1 hb35; clear hp
  have hF37 : Fr 68 [] [] a33 := hF34.region (by kernel_rfl) (by kernel_rfl); clear hF34
  refine sqH ?_; intro hQ38Q hQ38
  refine s1 hF37 6 (.int .i64 0) ?_; intro a39 hF40; clear hF37
  refine s1 hF40 7 (.int .i64 2) ?_; intro a41 hF42; clear hF40
  refine nlH (hQ38 _ _ ?_); clear hQ38 hQ38Q
  refine wp_ret ?_
  refine thr ?_
  refine rt (fn := Tryz.f22) (v := .tuple #[.int .i64 0, .int .i64 2]) hF42 (re2 hF42 (fn := Tryz.f22) rfl (by kernel_rfl) (by kernel_rfl)) ?_
  exact ⟨(0, 2), rfl, hp36, hM20.below⟩
 · -- no
  have hp43 := hp.2 hb35; clear hp
  refine wp_skip ?_
  refine thn ?_
  have hF44 : Fr 68 [] [⟨1, [], .bool u1⟩, ⟨2, [], .int .i64 u2⟩, ⟨8, [], .pointer (some ⟨b13, 0, none⟩)⟩] a33 := hF34.region (by kernel_rfl) (by kernel_rfl); clear hF34
  refine sqH ?_; intro hQ45Q hQ45
  refine s1 hF44 26 (.int .i64 u2) ?_; intro a46 hF47; clear hF44
  have hc48 := hp43.1; have hp49 := hp43.2; clear hp43
  refine mks hF47 hM20 (T := (tyInt .u8)) u2 u2 (k := .i64) (k' := .i64) (e := 5) (bytes := 1) (zs := [.int .u8 0]) (z := 0) (by simp only [lim]; omega) (nog rfl _) rfl (by kernel_rfl) rfl (by kernel_rfl) (by kernel_rfl) (by kernel_rfl) (by kernel_rfl) rfl ?_; intro g50 a53 wd51 hF54 hM52; clear hF47 hM20
  have hM55 : Mem w.heap.size [] w Z [.own (tyInt .u8) 5 (some ⟨g50, 0, none⟩) u2.toNat (List.replicate u2.toNat (0 : Int)), .row b13 [.int .i64 0, .bool u0, .bool u1, .bool false, .int .i64 0, .slice none 0 0] 24] Z wd51 := hM52; clear hM52
  refine s1 hF54 28 (.pointer (some ⟨b13, 5, none⟩)) ?_; intro a56 hF57; clear hF54
  refine sr hF57 hM55 1 [.int .i64 0, .bool u0, .bool u1, .bool false, .int .i64 0, .slice (some ⟨g50, 0, none⟩) (List.replicate u2.toNat (0 : Int)).length u2.toNat] (b := b13) (off := 5) (cs := [.int .i64 0, .bool u0, .bool u1, .bool false, .int .i64 0, .slice none 0 0]) (ty := 24) (u := .slice (some ⟨g50, 0, none⟩) (List.replicate u2.toNat (0 : Int)).length u2.toNat) (nog rfl _) rfl rfl (by kernel_rfl) (by kernel_rfl) (by kernel_rfl) (by kernel_rfl) (by kernel_rfl) (by kernel_rfl) (by kernel_rfl) ?_; intro wd58 hM59; clear hM55
  have hM60 : Mem w.heap.size [] w Z [.own (tyInt .u8) 5 (some ⟨g50, 0, none⟩) u2.toNat (List.replicate u2.toNat (0 : Int)), .row b13 [.int .i64 0, .bool u0, .bool u1, .bool false, .int .i64 0, .slice (some ⟨g50, 0, none⟩) (List.replicate u2.toNat (0 : Int)).length u2.toNat] 24] Z wd58 := hM59; clear hM59
  refine nlH (hQ45 _ _ ?_); clear hQ45 hQ45Q
  refine wp_seq ?_
  refine sqH ?_; intro hQ61Q hQ61
  refine l2 hF57 hM60 29 1 0 6 [.int .i64 0, .bool u0, .bool u1, .bool false, .int .i64 0, .slice (some ⟨g50, 0, none⟩) (List.replicate u2.toNat (0 : Int)).length u2.toNat] rfl rfl ?_; intro a62 hF63; clear hF57
  obtain ⟨Z64, hle65, hM66, hs67⟩ := hM60.freeze 0 rfl
  replace hle0 := Fz.le.trans hle0 hle65
  have hM68 : Mem w.heap.size [] w Z [.row b13 [.int .i64 0, .bool u0, .bool u1, .bool false, .int .i64 0, .slice (some ⟨g50, 0, none⟩) (List.replicate u2.toNat (0 : Int)).length u2.toNat] 24] Z64 wd58 := hM66; clear hM66
  refine fcl hF63 hM68 (.int .i64 (fcheckfr (⟨0, u0, u1, false, 0, (List.replicate u2.toNat (0 : Int))⟩ : Frame))) 18 #[.agg #[.int .i64 0, .bool u0, .bool u1, .bool false, .int .i64 0, .slice (some ⟨g50, 0, none⟩) (List.replicate u2.toNat (0 : Int)).length u2.toNat]] (nog rfl _) rfl (by kernel_rfl) (fun _ => by kernel_rfl) (fcheckfr_fun (⟨0, u0, u1, false, 0, (List.replicate u2.toNat (0 : Int))⟩ : Frame) (some ⟨g50, 0, none⟩) u2.toNat _ _ hs67 hM68.fz) ?_; intro a69 wd71 hF70 hM72; clear hF63 hM68
  refine s1 hF70 9 (.int .i64 (fcheckfr (⟨0, u0, u1, false, 0, (List.replicate u2.toNat (0 : Int))⟩ : Frame))) ?_; intro a73 hF74; clear hF70
  refine nlH (hQ61 _ _ ?_); clear hQ61 hQ61Q
  refine sqH ?_; intro hQ75Q hQ75
  refine s1 hF74 31 (.int .i64 (fcheckfr (⟨0, u0, u1, false, 0, (List.replicate u2.toNat (0 : Int))⟩ : Frame))) ?_; intro a76 hF77; clear hF74
  refine s1 hF77 32 (.bool ((fcheckfr (⟨0, u0, u1, false, 0, (List.replicate u2.toNat (0 : Int))⟩ : Frame)) != 0)) ?_; intro a78 hF79; clear hF77
  refine nlH (hQ75 _ _ ?_); clear hQ75 hQ75Q
  refine cd hF79 (t := (fcheckfr (⟨0, u0, u1, false, 0, (List.replicate u2.toNat (0 : Int))⟩ : Frame)) != 0) (by kernel_rfl) (fun hb80 => ?_) (fun hb80 => ?_)
  · -- yes
   have hp81 := hp49.1 hb80; clear hp49
   refine sqH ?_; intro hQ82Q hQ82
   refine s1 hF79 33 (.int .i64 (fcheckfr (⟨0, u0, u1, false, 0, (List.replicate u2.toNat (0 : Int))⟩ : Frame))) ?_; intro a83 hF84; clear hF79
   refine s1 hF84 6 (.int .i64 0) ?_; intro a85 hF86; clear hF84
   refine s1 hF86 7 (.int .i64 (fcheckfr (⟨0, u0, u1, false, 0, (List.replicate u2.toNat (0 : Int))⟩ : Frame))) ?_; intro a87 hF88; clear hF86
   refine nlH (hQ82 _ _ ?_); clear hQ82 hQ82Q
   refine wp_ret ?_
   refine thr ?_
   refine rt (fn := Tryz.f22) (v := .tuple #[.int .i64 0, .int .i64 (fcheckfr (⟨0, u0, u1, false, 0, (List.replicate u2.toNat (0 : Int))⟩ : Frame))]) hF88 (re2 hF88 (fn := Tryz.f22) rfl (by kernel_rfl) (by kernel_rfl)) ?_
   exact ⟨(0, (fcheckfr (⟨0, u0, u1, false, 0, (List.replicate u2.toNat (0 : Int))⟩ : Frame))), rfl, hp81, hM72.below⟩
  · -- no
   have hp89 := hp49.2 hb80; clear hp49
   refine wp_skip ?_
   refine thn ?_
   refine sqH ?_; intro hQ90Q hQ90
   refine l2 hF79 hM72 34 0 0 6 [.int .i64 0, .bool u0, .bool u1, .bool false, .int .i64 0, .slice (some ⟨g50, 0, none⟩) (List.replicate u2.toNat (0 : Int)).length u2.toNat] rfl rfl ?_; intro a91 hF92; clear hF79
   have hc93 := hp89.1; have hp94 := hp89.2; clear hp89
   refine fcl hF92 hM72 (str (fheadS (⟨0, u0, u1, false, 0, (List.replicate u2.toNat (0 : Int))⟩ : Frame))) 40 #[.agg #[.int .i64 0, .bool u0, .bool u1, .bool false, .int .i64 0, .slice (some ⟨g50, 0, none⟩) (List.replicate u2.toNat (0 : Int)).length u2.toNat]] (nog rfl _) rfl (by kernel_rfl) (fun _ => by kernel_rfl) (fhead_fun (⟨0, u0, u1, false, 0, (List.replicate u2.toNat (0 : Int))⟩ : Frame) hc93 (some ⟨g50, 0, none⟩) u2.toNat _ _ hs67 hM72.fz) ?_; intro a95 wd97 hF96 hM98; clear hF92 hM72
   refine s1 hF96 36 (.int .i64 ((fheadS (⟨0, u0, u1, false, 0, (List.replicate u2.toNat (0 : Int))⟩ : Frame)).length : Int)) ?_; intro a99 hF100; clear hF96
   refine s1 hF100 10 (.int .i64 ((fheadS (⟨0, u0, u1, false, 0, (List.replicate u2.toNat (0 : Int))⟩ : Frame)).length : Int)) ?_; intro a101 hF102; clear hF100
   refine nlH (hQ90 _ _ ?_); clear hQ90 hQ90Q
   refine wp_seq ?_
   refine sqH ?_; intro hQ103Q hQ103
   refine s1 hF102 37 (.bool u1) ?_; intro a104 hF105; clear hF102
   refine s1 hF105 38 (.bool (!u1)) ?_; intro a106 hF107; clear hF105
   refine nlH (hQ103 _ _ ?_); clear hQ103 hQ103Q
   refine cd hF107 (t := !u1) (by kernel_rfl) (fun hb108 => ?_) (fun hb108 => ?_)
   · -- yes
    have hp109 := hp94.1 hb108; clear hp94
    have hF110 : Fr 68 [] [⟨10, [], .int .i64 ((fheadS (⟨0, u0, u1, false, 0, (List.replicate u2.toNat (0 : Int))⟩ : Frame)).length : Int)⟩] a106 := hF107.region (by kernel_rfl) (by kernel_rfl); clear hF107
    refine sqH ?_; intro hQ111Q hQ111
    refine s1 hF110 40 (.int .i64 ((fheadS (⟨0, u0, u1, false, 0, (List.replicate u2.toNat (0 : Int))⟩ : Frame)).length : Int)) ?_; intro a112 hF113; clear hF110
    refine s1 hF113 41 (.int .i64 (w64 (((fheadS (⟨0, u0, u1, false, 0, (List.replicate u2.toNat (0 : Int))⟩ : Frame)).length : Int) + 15))) ?_; intro a114 hF115; clear hF113
    refine fcl hF115 hM98 (.tuple #[.int .i64 ((smost (w64 (((fheadS (⟨0, u0, u1, false, 0, (List.replicate u2.toNat (0 : Int))⟩ : Frame)).length : Int) + 15))).1), .int .i64 ((smost (w64 (((fheadS (⟨0, u0, u1, false, 0, (List.replicate u2.toNat (0 : Int))⟩ : Frame)).length : Int) + 15))).2)]) 62 #[.int .i64 (w64 (((fheadS (⟨0, u0, u1, false, 0, (List.replicate u2.toNat (0 : Int))⟩ : Frame)).length : Int) + 15))] (nog rfl _) rfl (by kernel_rfl) (fun _ => by kernel_rfl) (smost_fun (w64 (((fheadS (⟨0, u0, u1, false, 0, (List.replicate u2.toNat (0 : Int))⟩ : Frame)).length : Int) + 15)) _ _ hM98.fz) ?_; intro a116 wd118 hF117 hM119; clear hF115 hM98
    refine s1 hF117 39 (.tuple #[.int .i64 ((smost (w64 (((fheadS (⟨0, u0, u1, false, 0, (List.replicate u2.toNat (0 : Int))⟩ : Frame)).length : Int) + 15))).1), .int .i64 ((smost (w64 (((fheadS (⟨0, u0, u1, false, 0, (List.replicate u2.toNat (0 : Int))⟩ : Frame)).length : Int) + 15))).2)]) ?_; intro a120 hF121; clear hF117
    refine s1 hF121 43 (.int .i64 ((smost (w64 (((fheadS (⟨0, u0, u1, false, 0, (List.replicate u2.toNat (0 : Int))⟩ : Frame)).length : Int) + 15))).1)) ?_; intro a122 hF123; clear hF121
    refine s1 hF123 44 (.int .i64 ((smost (w64 (((fheadS (⟨0, u0, u1, false, 0, (List.replicate u2.toNat (0 : Int))⟩ : Frame)).length : Int) + 15))).2)) ?_; intro a124 hF125; clear hF123
    refine s1 hF125 11 (.int .i64 ((smost (w64 (((fheadS (⟨0, u0, u1, false, 0, (List.replicate u2.toNat (0 : Int))⟩ : Frame)).length : Int) + 15))).1)) ?_; intro a126 hF127; clear hF125
    refine s1 hF127 12 (.int .i64 ((smost (w64 (((fheadS (⟨0, u0, u1, false, 0, (List.replicate u2.toNat (0 : Int))⟩ : Frame)).length : Int) + 15))).2)) ?_; intro a128 hF129; clear hF127
    refine nlH (hQ111 _ _ ?_); clear hQ111 hQ111Q
    refine sqH ?_; intro hQ130Q hQ130
    refine s1 hF129 45 (.int .i64 ((smost (w64 (((fheadS (⟨0, u0, u1, false, 0, (List.replicate u2.toNat (0 : Int))⟩ : Frame)).length : Int) + 15))).1)) ?_; intro a131 hF132; clear hF129
    refine s1 hF132 46 (.int .i64 (w64 (((smost (w64 (((fheadS (⟨0, u0, u1, false, 0, (List.replicate u2.toNat (0 : Int))⟩ : Frame)).length : Int) + 15))).1) + 10))) ?_; intro a133 hF134; clear hF132
    refine s1 hF134 6 (.int .i64 (w64 (((smost (w64 (((fheadS (⟨0, u0, u1, false, 0, (List.replicate u2.toNat (0 : Int))⟩ : Frame)).length : Int) + 15))).1) + 10))) ?_; intro a135 hF136; clear hF134
    refine s1 hF136 7 (.int .i64 0) ?_; intro a137 hF138; clear hF136
    refine nlH (hQ130 _ _ ?_); clear hQ130 hQ130Q
    refine wp_ret ?_
    refine thr ?_
    refine rt (fn := Tryz.f22) (v := .tuple #[.int .i64 (w64 (((smost (w64 (((fheadS (⟨0, u0, u1, false, 0, (List.replicate u2.toNat (0 : Int))⟩ : Frame)).length : Int) + 15))).1) + 10)), .int .i64 0]) hF138 (re2 hF138 (fn := Tryz.f22) rfl (by kernel_rfl) (by kernel_rfl)) ?_
    exact ⟨(w64 (((smost (w64 (((fheadS (⟨0, u0, u1, false, 0, (List.replicate u2.toNat (0 : Int))⟩ : Frame)).length : Int) + 15))).1) + 10), 0), rfl, hp109, hM119.below⟩
   · -- no
    have hp139 := hp94.2 hb108; clear hp94
    refine wp_skip ?_
    refine thn ?_
    have hF140 : Fr 68 [] [⟨8, [], .pointer (some ⟨b13, 0, none⟩)⟩, ⟨10, [], .int .i64 ((fheadS (⟨0, u0, u1, false, 0, (List.replicate u2.toNat (0 : Int))⟩ : Frame)).length : Int)⟩] a106 := hF107.region (by kernel_rfl) (by kernel_rfl); clear hF107
    refine sqH ?_; intro hQ141Q hQ141
    refine s1 hF140 48 (.int .i64 ((fheadS (⟨0, u0, u1, false, 0, (List.replicate u2.toNat (0 : Int))⟩ : Frame)).length : Int)) ?_; intro a142 hF143; clear hF140
    refine fcl hF143 hM98 (.tuple #[.int .i64 ((smost ((fheadS (⟨0, u0, u1, false, 0, (List.replicate u2.toNat (0 : Int))⟩ : Frame)).length : Int)).1), .int .i64 ((smost ((fheadS (⟨0, u0, u1, false, 0, (List.replicate u2.toNat (0 : Int))⟩ : Frame)).length : Int)).2)]) 62 #[.int .i64 ((fheadS (⟨0, u0, u1, false, 0, (List.replicate u2.toNat (0 : Int))⟩ : Frame)).length : Int)] (nog rfl _) rfl (by kernel_rfl) (fun _ => by kernel_rfl) (smost_fun ((fheadS (⟨0, u0, u1, false, 0, (List.replicate u2.toNat (0 : Int))⟩ : Frame)).length : Int) _ _ hM98.fz) ?_; intro a144 wd146 hF145 hM147; clear hF143 hM98
    refine s1 hF145 47 (.tuple #[.int .i64 ((smost ((fheadS (⟨0, u0, u1, false, 0, (List.replicate u2.toNat (0 : Int))⟩ : Frame)).length : Int)).1), .int .i64 ((smost ((fheadS (⟨0, u0, u1, false, 0, (List.replicate u2.toNat (0 : Int))⟩ : Frame)).length : Int)).2)]) ?_; intro a148 hF149; clear hF145
    refine s1 hF149 50 (.int .i64 ((smost ((fheadS (⟨0, u0, u1, false, 0, (List.replicate u2.toNat (0 : Int))⟩ : Frame)).length : Int)).1)) ?_; intro a150 hF151; clear hF149
    refine s1 hF151 51 (.int .i64 ((smost ((fheadS (⟨0, u0, u1, false, 0, (List.replicate u2.toNat (0 : Int))⟩ : Frame)).length : Int)).2)) ?_; intro a152 hF153; clear hF151
    refine s1 hF153 13 (.int .i64 ((smost ((fheadS (⟨0, u0, u1, false, 0, (List.replicate u2.toNat (0 : Int))⟩ : Frame)).length : Int)).1)) ?_; intro a154 hF155; clear hF153
    refine s1 hF155 14 (.int .i64 ((smost ((fheadS (⟨0, u0, u1, false, 0, (List.replicate u2.toNat (0 : Int))⟩ : Frame)).length : Int)).2)) ?_; intro a156 hF157; clear hF155
    refine nlH (hQ141 _ _ ?_); clear hQ141 hQ141Q
    refine sqH ?_; intro hQ158Q hQ158
    refine l2 hF157 hM147 53 0 0 6 [.int .i64 0, .bool u0, .bool u1, .bool false, .int .i64 0, .slice (some ⟨g50, 0, none⟩) (List.replicate u2.toNat (0 : Int)).length u2.toNat] rfl rfl ?_; intro a159 hF160; clear hF157
    refine fcl hF160 hM147 (.int .i64 (fkind (⟨0, u0, u1, false, 0, (List.replicate u2.toNat (0 : Int))⟩ : Frame))) 56 #[.agg #[.int .i64 0, .bool u0, .bool u1, .bool false, .int .i64 0, .slice (some ⟨g50, 0, none⟩) (List.replicate u2.toNat (0 : Int)).length u2.toNat]] (nog rfl _) rfl (by kernel_rfl) (fun _ => by kernel_rfl) (fkind_fun (⟨0, u0, u1, false, 0, (List.replicate u2.toNat (0 : Int))⟩ : Frame) (some ⟨g50, 0, none⟩) u2.toNat _ _ hs67 hM147.fz) ?_; intro a161 wd163 hF162 hM164; clear hF160 hM147
    refine fcl hF162 hM164 (.tuple #[.int .i64 ((csize (fkind (⟨0, u0, u1, false, 0, (List.replicate u2.toNat (0 : Int))⟩ : Frame))).1), .int .i64 ((csize (fkind (⟨0, u0, u1, false, 0, (List.replicate u2.toNat (0 : Int))⟩ : Frame))).2)]) 63 #[.int .i64 (fkind (⟨0, u0, u1, false, 0, (List.replicate u2.toNat (0 : Int))⟩ : Frame))] (nog rfl _) rfl (by kernel_rfl) (fun _ => by kernel_rfl) (csize_fun (fkind (⟨0, u0, u1, false, 0, (List.replicate u2.toNat (0 : Int))⟩ : Frame)) _ _ hM164.fz) ?_; intro a165 wd167 hF166 hM168; clear hF162 hM164
    refine s1 hF166 52 (.tuple #[.int .i64 ((csize (fkind (⟨0, u0, u1, false, 0, (List.replicate u2.toNat (0 : Int))⟩ : Frame))).1), .int .i64 ((csize (fkind (⟨0, u0, u1, false, 0, (List.replicate u2.toNat (0 : Int))⟩ : Frame))).2)]) ?_; intro a169 hF170; clear hF166
    refine s1 hF170 56 (.int .i64 ((csize (fkind (⟨0, u0, u1, false, 0, (List.replicate u2.toNat (0 : Int))⟩ : Frame))).1)) ?_; intro a171 hF172; clear hF170
    refine s1 hF172 57 (.int .i64 ((csize (fkind (⟨0, u0, u1, false, 0, (List.replicate u2.toNat (0 : Int))⟩ : Frame))).2)) ?_; intro a173 hF174; clear hF172
    refine s1 hF174 15 (.int .i64 ((csize (fkind (⟨0, u0, u1, false, 0, (List.replicate u2.toNat (0 : Int))⟩ : Frame))).1)) ?_; intro a175 hF176; clear hF174
    refine s1 hF176 16 (.int .i64 ((csize (fkind (⟨0, u0, u1, false, 0, (List.replicate u2.toNat (0 : Int))⟩ : Frame))).2)) ?_; intro a177 hF178; clear hF176
    refine nlH (hQ158 _ _ ?_); clear hQ158 hQ158Q
    have hF179 : Fr 68 [] [⟨13, [], .int .i64 ((smost ((fheadS (⟨0, u0, u1, false, 0, (List.replicate u2.toNat (0 : Int))⟩ : Frame)).length : Int)).1)⟩, ⟨15, [], .int .i64 ((csize (fkind (⟨0, u0, u1, false, 0, (List.replicate u2.toNat (0 : Int))⟩ : Frame))).1)⟩] a177 := hF178.region (by kernel_rfl) (by kernel_rfl); clear hF178
    refine sqH ?_; intro hQ180Q hQ180
    refine s1 hF179 58 (.int .i64 ((smost ((fheadS (⟨0, u0, u1, false, 0, (List.replicate u2.toNat (0 : Int))⟩ : Frame)).length : Int)).1)) ?_; intro a181 hF182; clear hF179
    refine s1 hF182 59 (.int .i64 ((csize (fkind (⟨0, u0, u1, false, 0, (List.replicate u2.toNat (0 : Int))⟩ : Frame))).1)) ?_; intro a183 hF184; clear hF182
    refine s1 hF184 60 (.int .i64 (w64 (4 + ((csize (fkind (⟨0, u0, u1, false, 0, (List.replicate u2.toNat (0 : Int))⟩ : Frame))).1)))) ?_; intro a185 hF186; clear hF184
    refine s1 hF186 61 (.int .i64 ((csize (fkind (⟨0, u0, u1, false, 0, (List.replicate u2.toNat (0 : Int))⟩ : Frame))).1)) ?_; intro a187 hF188; clear hF186
    refine s1 hF188 62 (.int .i64 (w64 (4 + ((csize (fkind (⟨0, u0, u1, false, 0, (List.replicate u2.toNat (0 : Int))⟩ : Frame))).1)))) ?_; intro a189 hF190; clear hF188
    refine s1 hF190 63 (.int .i64 (w64 ((w64 (4 + ((csize (fkind (⟨0, u0, u1, false, 0, (List.replicate u2.toNat (0 : Int))⟩ : Frame))).1))) + 3))) ?_; intro a191 hF192; clear hF190
    refine s1 hF192 64 (.int .i64 (w64 ((w64 ((w64 (4 + ((csize (fkind (⟨0, u0, u1, false, 0, (List.replicate u2.toNat (0 : Int))⟩ : Frame))).1))) + 3)).tdiv 4))) ?_; intro a193 hF194; clear hF192
    refine s1 hF194 65 (.int .i64 (w64 ((w64 (4 + ((csize (fkind (⟨0, u0, u1, false, 0, (List.replicate u2.toNat (0 : Int))⟩ : Frame))).1))) + (w64 ((w64 ((w64 (4 + ((csize (fkind (⟨0, u0, u1, false, 0, (List.replicate u2.toNat (0 : Int))⟩ : Frame))).1))) + 3)).tdiv 4))))) ?_; intro a195 hF196; clear hF194
    refine s1 hF196 66 (.int .i64 (w64 (((smost ((fheadS (⟨0, u0, u1, false, 0, (List.replicate u2.toNat (0 : Int))⟩ : Frame)).length : Int)).1) + (w64 ((w64 (4 + ((csize (fkind (⟨0, u0, u1, false, 0, (List.replicate u2.toNat (0 : Int))⟩ : Frame))).1))) + (w64 ((w64 ((w64 (4 + ((csize (fkind (⟨0, u0, u1, false, 0, (List.replicate u2.toNat (0 : Int))⟩ : Frame))).1))) + 3)).tdiv 4))))))) ?_; intro a197 hF198; clear hF196
    refine s1 hF198 67 (.int .i64 (w64 ((w64 (((smost ((fheadS (⟨0, u0, u1, false, 0, (List.replicate u2.toNat (0 : Int))⟩ : Frame)).length : Int)).1) + (w64 ((w64 (4 + ((csize (fkind (⟨0, u0, u1, false, 0, (List.replicate u2.toNat (0 : Int))⟩ : Frame))).1))) + (w64 ((w64 ((w64 (4 + ((csize (fkind (⟨0, u0, u1, false, 0, (List.replicate u2.toNat (0 : Int))⟩ : Frame))).1))) + 3)).tdiv 4)))))) + 10))) ?_; intro a199 hF200; clear hF198
    refine s1 hF200 6 (.int .i64 (w64 ((w64 (((smost ((fheadS (⟨0, u0, u1, false, 0, (List.replicate u2.toNat (0 : Int))⟩ : Frame)).length : Int)).1) + (w64 ((w64 (4 + ((csize (fkind (⟨0, u0, u1, false, 0, (List.replicate u2.toNat (0 : Int))⟩ : Frame))).1))) + (w64 ((w64 ((w64 (4 + ((csize (fkind (⟨0, u0, u1, false, 0, (List.replicate u2.toNat (0 : Int))⟩ : Frame))).1))) + 3)).tdiv 4)))))) + 10))) ?_; intro a201 hF202; clear hF200
    refine s1 hF202 7 (.int .i64 0) ?_; intro a203 hF204; clear hF202
    refine nlH (hQ180 _ _ ?_); clear hQ180 hQ180Q
    refine wp_ret ?_
    refine rt (fn := Tryz.f22) (v := .tuple #[.int .i64 (w64 ((w64 (((smost ((fheadS (⟨0, u0, u1, false, 0, (List.replicate u2.toNat (0 : Int))⟩ : Frame)).length : Int)).1) + (w64 ((w64 (4 + ((csize (fkind (⟨0, u0, u1, false, 0, (List.replicate u2.toNat (0 : Int))⟩ : Frame))).1))) + (w64 ((w64 ((w64 (4 + ((csize (fkind (⟨0, u0, u1, false, 0, (List.replicate u2.toNat (0 : Int))⟩ : Frame))).1))) + 3)).tdiv 4)))))) + 10)), .int .i64 0]) hF204 (re2 hF204 (fn := Tryz.f22) rfl (by kernel_rfl) (by kernel_rfl)) ?_
    exact ⟨(w64 ((w64 (((smost ((fheadS (⟨0, u0, u1, false, 0, (List.replicate u2.toNat (0 : Int))⟩ : Frame)).length : Int)).1) + (w64 ((w64 (4 + ((csize (fkind (⟨0, u0, u1, false, 0, (List.replicate u2.toNat (0 : Int))⟩ : Frame))).1))) + (w64 ((w64 ((w64 (4 + ((csize (fkind (⟨0, u0, u1, false, 0, (List.replicate u2.toNat (0 : Int))⟩ : Frame))).1))) + 3)).tdiv 4)))))) + 10), 0), rfl, hp139, hM168.below⟩

end Go.Proofs.YtmbdcehmeiiaoaaGreatDoor
