/- The walks, made by program: each call does what its pure predicate says. -/
import Derived.Test.YtmbdcehmeiiaoaaGreatDoorPRd
import Derived.Test.YtmbdcehmeiiaoaaGreatDoorWRc
import Derived.Test.YtmbdcehmeiiaoaaGreatDoorWHg
set_option linter.unusedVariables false
set_option linter.unusedSimpArgs false
namespace Go.Proofs.YtmbdcehmeiiaoaaGreatDoor
open Go.Sy Go.RowKit
theorem rlong_fun (u0 : Bool) (u1 : Bool) (u2 : Int) (hpre : 0 ≤ u2 ∧ u2 ≤ 64 ∧ fcheckfr (lframe u0 u1 u2) = 0)  (Z : Fz) (w : World) (hg5 : SlR (tyInt .u8) Z (some ⟨5, 0, none⟩) 64 deBruijn64) (hZ : Z.on w) : Calls Tryz.prog 23 #[.bool u0, .bool u1, .int .i64 u2] w fun e w' => e = .returned (.int .i64 (rlongS u0 u1 u2)) ∧ Below w.heap.size w w' :=
  (rlong_walk u0 u1 u2  Z w hg5 hZ (rlong_ok u0 u1 u2 hpre)).mono fun _ _ ⟨r, he, hk, hb⟩ => ⟨by subst hk; exact he, hb⟩

set_option maxRecDepth 100000 in
set_option maxHeartbeats 0 in
theorem LLongest_walk (u0 : Bool) (u1 : Bool) (u2 : Int)  (Z : Fz) (w : World) (hg5 : SlR (tyInt .u8) Z (some ⟨5, 0, none⟩) 64 deBruijn64) (hZ : Z.on w) {K : Bool → Prop} (hp : LLongest_vc u0 u1 u2 K) : Calls Tryz.prog 5 #[.bool u0, .bool u1, .int .i64 u2] w fun e w' => ∃ r : Bool, e = .returned (.bool r) ∧ K r ∧ Below w.heap.size w w' := by
 refine enter0 Tryz.func5 rfl rfl (by kernel_rfl) ?_; intro a0 hF0; have hM0 := Mem.start w Z hZ; have hle0 := Fz.le.refl Z
 refine sqH ?_; intro hQ1Q hQ1
 refine s1 hF0 6 (.bool false) ?_; intro a2 hF3; clear hF0
 refine nlH (hQ1 _ _ ?_); clear hQ1 hQ1Q
 refine sqH ?_; intro hQ4Q hQ4
 refine s1 hF3 11 (.bool u0) ?_; intro a5 hF6; clear hF3
 refine s1 hF6 12 (.bool u1) ?_; intro a7 hF8; clear hF6
 refine s1 hF8 13 (.int .i64 u2) ?_; intro a9 hF10; clear hF8
 refine fcl hF10 hM0 (.tuple #[.int .i64 ((flongestS u0 u1 u2).1), .int .i64 ((flongestS u0 u1 u2).2)]) 22 #[.bool u0, .bool u1, .int .i64 u2] (nog rfl _) rfl (by kernel_rfl) (fun _ => by kernel_rfl) (flongest_fun u0 u1 u2 _ _ hM0.fz) ?_; intro a11 wd13 hF12 hM14; clear hF10 hM0
 refine s1 hF12 10 (.tuple #[.int .i64 ((flongestS u0 u1 u2).1), .int .i64 ((flongestS u0 u1 u2).2)]) ?_; intro a15 hF16; clear hF12
 refine s1 hF16 15 (.int .i64 ((flongestS u0 u1 u2).1)) ?_; intro a17 hF18; clear hF16
 refine s1 hF18 16 (.int .i64 ((flongestS u0 u1 u2).2)) ?_; intro a19 hF20; clear hF18
 refine s1 hF20 7 (.int .i64 ((flongestS u0 u1 u2).1)) ?_; intro a21 hF22; clear hF20
 refine s1 hF22 8 (.int .i64 ((flongestS u0 u1 u2).2)) ?_; intro a23 hF24; clear hF22
 refine nlH (hQ4 _ _ ?_); clear hQ4 hQ4Q
 refine wp_seq ?_
 refine sqH ?_; intro hQ25Q hQ25
 refine fcl hF24 hM14 (.bool true) 10 #[] (nog rfl _) rfl (by kernel_rfl) (fun _ => by kernel_rfl) (framed_fun  _ _ hM14.fz) ?_; intro a26 wd28 hF27 hM29; clear hF24 hM14
 refine s1 hF27 18 (.bool false) ?_; intro a30 hF31; clear hF27
 refine s1 hF31 19 (.bool false) ?_; intro a32 hF33; clear hF31
 refine st hF33 (.int .i64 u2) (by rw [wanted_of hF33 (b := false) rfl rfl (by kernel_rfl) (by kernel_rfl)]; rfl) rfl (by kernel_rfl) (p0 hF33 (by kernel_rfl)) ?_; intro a34 hF35; clear hF33
 refine st hF35 (.bool (decide (u2 < 0))) (by rw [wanted_of hF35 (b := false) rfl rfl (by kernel_rfl) (by kernel_rfl)]; rfl) rfl (by kernel_rfl) (p0 hF35 (by kernel_rfl)) ?_; intro a36 hF37; clear hF35
 refine s1 hF37 22 (.bool (decide (u2 < 0))) ?_; intro a38 hF39; clear hF37
 refine s1 hF39 23 (.bool (decide (u2 < 0))) ?_; intro a40 hF41; clear hF39
 have hF42 := hF41.atom ((decide (u2 < 0)) == false) (by kernel_rfl); clear hF41
 refine gp hF42 24 0 [] (decide (u2 < 0)) (.int .i64 u2) rfl rfl ?_; intro a43 hF44; clear hF42
 refine gp hF44 25 0 [] (decide (u2 < 0)) (.bool (decide (u2 > 64))) rfl rfl ?_; intro a45 hF46; clear hF44
 refine st hF46 (.bool ((decide (u2 < 0)) || (decide (u2 > 64)))) (nog rfl _) rfl (by kernel_rfl) (pk_or hF46 (g := []) (m := 0) (b := decide (u2 < 0)) (v := decide (u2 > 64)) rfl (by kernel_rfl) (by kernel_rfl) (by kernel_rfl) rfl) ?_; intro a47 hF48; clear hF46
 refine nlH (hQ25 _ _ ?_); clear hQ25 hQ25Q
 refine cd hF48 (t := (decide (u2 < 0)) || (decide (u2 > 64))) (by kernel_rfl) (fun hb49 => ?_) (fun hb49 => ?_)
 · -- yes
  have hp50 := hp.1 hb49; clear hp
  have hF51 : Fr 61 [] [⟨7, [], .int .i64 ((flongestS u0 u1 u2).1)⟩, ⟨8, [], .int .i64 ((flongestS u0 u1 u2).2)⟩] a47 := hF48.region (by kernel_rfl) (by kernel_rfl); clear hF48
  refine sqH ?_; intro hQ52Q hQ52
  refine fcl hF51 hM29 (.bool true) 10 #[] (nog rfl _) rfl (by kernel_rfl) (fun _ => by kernel_rfl) (framed_fun  _ _ hM29.fz) ?_; intro a53 wd55 hF54 hM56; clear hF51 hM29
  refine s1 hF54 28 (.bool true) ?_; intro a57 hF58; clear hF54
  refine st hF58 (.int .i64 ((flongestS u0 u1 u2).2)) (by rw [wanted_of hF58 (b := true) rfl rfl (by kernel_rfl) (by kernel_rfl)]; rfl) rfl (by kernel_rfl) (p0 hF58 (by kernel_rfl)) ?_; intro a59 hF60; clear hF58
  refine st hF60 (.bool (((flongestS u0 u1 u2).2) == 2)) (by rw [wanted_of hF60 (b := true) rfl rfl (by kernel_rfl) (by kernel_rfl)]; rfl) rfl (by kernel_rfl) (p0 hF60 (by kernel_rfl)) ?_; intro a61 hF62; clear hF60
  refine s1 hF62 31 (.bool (((flongestS u0 u1 u2).2) == 2)) ?_; intro a63 hF64; clear hF62
  refine s1 hF64 32 (.bool (((flongestS u0 u1 u2).2) == 2)) ?_; intro a65 hF66; clear hF64
  have hF67 := hF66.atom ((((flongestS u0 u1 u2).2) == 2) == true) (by kernel_rfl); clear hF66
  refine gp hF67 33 0 [] (((flongestS u0 u1 u2).2) == 2) (.int .i64 ((flongestS u0 u1 u2).1)) rfl rfl ?_; intro a68 hF69; clear hF67
  refine gp hF69 34 0 [] (((flongestS u0 u1 u2).2) == 2) (.bool (((flongestS u0 u1 u2).1) == 0)) rfl rfl ?_; intro a70 hF71; clear hF69
  refine st hF71 (.bool ((((flongestS u0 u1 u2).2) == 2) && (((flongestS u0 u1 u2).1) == 0))) (nog rfl _) rfl (by kernel_rfl) (pk_and hF71 (g := []) (m := 0) (b := ((flongestS u0 u1 u2).2) == 2) (v := ((flongestS u0 u1 u2).1) == 0) rfl (by kernel_rfl) (by kernel_rfl) (by kernel_rfl) rfl) ?_; intro a72 hF73; clear hF71
  refine s1 hF73 6 (.bool ((((flongestS u0 u1 u2).2) == 2) && (((flongestS u0 u1 u2).1) == 0))) ?_; intro a74 hF75; clear hF73
  refine nlH (hQ52 _ _ ?_); clear hQ52 hQ52Q
  refine wp_ret ?_
  refine thr ?_
  refine rt (fn := Tryz.f5) (v := .bool ((((flongestS u0 u1 u2).2) == 2) && (((flongestS u0 u1 u2).1) == 0))) hF75 (re1 hF75 (fn := Tryz.f5) rfl (by kernel_rfl)) ?_
  exact ⟨(((flongestS u0 u1 u2).2) == 2) && (((flongestS u0 u1 u2).1) == 0), rfl, hp50, hM56.below⟩
 · -- no
  have hp76 := hp.2 hb49; clear hp
  refine wp_skip ?_
  refine thn ?_
  refine wp_seq ?_
  have hF77 : Fr 61 [] [⟨0, [], .bool u0⟩, ⟨1, [], .bool u1⟩, ⟨2, [], .int .i64 u2⟩, ⟨7, [], .int .i64 ((flongestS u0 u1 u2).1)⟩, ⟨8, [], .int .i64 ((flongestS u0 u1 u2).2)⟩] a47 := hF48.region (by kernel_rfl) (by kernel_rfl); clear hF48
  refine sqH ?_; intro hQ78Q hQ78
  refine s1 hF77 36 (.bool u0) ?_; intro a79 hF80; clear hF77
  refine s1 hF80 37 (.bool u1) ?_; intro a81 hF82; clear hF80
  refine s1 hF82 38 (.int .i64 u2) ?_; intro a83 hF84; clear hF82
  have hc85 := hp76.1; have hp86 := hp76.2; clear hp76
  refine mks hF84 hM29 (T := (tyInt .u8)) u2 u2 (k := .i64) (k' := .i64) (e := 5) (bytes := 1) (zs := [.int .u8 0]) (z := 0) (by simp only [lim]; omega) (nog rfl _) rfl (by kernel_rfl) rfl (by kernel_rfl) (by kernel_rfl) (by kernel_rfl) (by kernel_rfl) rfl ?_; intro g87 a90 wd88 hF91 hM89; clear hF84 hM29
  have hM92 : Mem w.heap.size [] w Z [.own (tyInt .u8) 5 (some ⟨g87, 0, none⟩) u2.toNat (List.replicate u2.toNat (0 : Int))] Z wd88 := hM89; clear hM89
  refine s1 hF91 40 (.agg #[.int .i64 0, .bool u0, .bool u1, .bool false, .int .i64 0, .slice (some ⟨g87, 0, none⟩) (List.replicate u2.toNat (0 : Int)).length u2.toNat]) ?_; intro a93 hF94; clear hF91
  obtain ⟨Z95, hle96, hM97, hs98⟩ := hM92.freeze 0 rfl
  replace hg5 := hg5.mono hle96
  replace hle0 := Fz.le.trans hle0 hle96
  have hM99 : Mem w.heap.size [] w Z [] Z95 wd88 := hM97; clear hM97
  refine fcl hF94 hM99 (.int .i64 (fcheckfr (⟨0, u0, u1, false, 0, (List.replicate u2.toNat (0 : Int))⟩ : Frame))) 17 #[.agg #[.int .i64 0, .bool u0, .bool u1, .bool false, .int .i64 0, .slice (some ⟨g87, 0, none⟩) (List.replicate u2.toNat (0 : Int)).length u2.toNat]] (nog rfl _) rfl (by kernel_rfl) (fun _ => by kernel_rfl) (rcheckfr_fun (⟨0, u0, u1, false, 0, (List.replicate u2.toNat (0 : Int))⟩ : Frame) (some ⟨g87, 0, none⟩) u2.toNat _ _ hs98 hM99.fz) ?_; intro a100 wd102 hF101 hM103; clear hF94 hM99
  refine s1 hF101 9 (.int .i64 (fcheckfr (⟨0, u0, u1, false, 0, (List.replicate u2.toNat (0 : Int))⟩ : Frame))) ?_; intro a104 hF105; clear hF101
  refine nlH (hQ78 _ _ ?_); clear hQ78 hQ78Q
  refine sqH ?_; intro hQ106Q hQ106
  refine s1 hF105 42 (.int .i64 (fcheckfr (⟨0, u0, u1, false, 0, (List.replicate u2.toNat (0 : Int))⟩ : Frame))) ?_; intro a107 hF108; clear hF105
  refine s1 hF108 43 (.bool ((fcheckfr (⟨0, u0, u1, false, 0, (List.replicate u2.toNat (0 : Int))⟩ : Frame)) != 0)) ?_; intro a109 hF110; clear hF108
  refine nlH (hQ106 _ _ ?_); clear hQ106 hQ106Q
  refine cd hF110 (t := (fcheckfr (⟨0, u0, u1, false, 0, (List.replicate u2.toNat (0 : Int))⟩ : Frame)) != 0) (by kernel_rfl) (fun hb111 => ?_) (fun hb111 => ?_)
  · -- yes
   have hp112 := hp86.1 hb111; clear hp86
   refine sqH ?_; intro hQ113Q hQ113
   refine s1 hF110 44 (.int .i64 ((flongestS u0 u1 u2).2)) ?_; intro a114 hF115; clear hF110
   refine s1 hF115 45 (.int .i64 (fcheckfr (⟨0, u0, u1, false, 0, (List.replicate u2.toNat (0 : Int))⟩ : Frame))) ?_; intro a116 hF117; clear hF115
   refine s1 hF117 46 (.bool (((flongestS u0 u1 u2).2) == (fcheckfr (⟨0, u0, u1, false, 0, (List.replicate u2.toNat (0 : Int))⟩ : Frame)))) ?_; intro a118 hF119; clear hF117
   refine s1 hF119 47 (.bool (((flongestS u0 u1 u2).2) == (fcheckfr (⟨0, u0, u1, false, 0, (List.replicate u2.toNat (0 : Int))⟩ : Frame)))) ?_; intro a120 hF121; clear hF119
   have hF122 := hF121.atom ((((flongestS u0 u1 u2).2) == (fcheckfr (⟨0, u0, u1, false, 0, (List.replicate u2.toNat (0 : Int))⟩ : Frame))) == true) (by kernel_rfl); clear hF121
   refine gp hF122 48 0 [] (((flongestS u0 u1 u2).2) == (fcheckfr (⟨0, u0, u1, false, 0, (List.replicate u2.toNat (0 : Int))⟩ : Frame))) (.int .i64 ((flongestS u0 u1 u2).1)) rfl rfl ?_; intro a123 hF124; clear hF122
   refine gp hF124 49 0 [] (((flongestS u0 u1 u2).2) == (fcheckfr (⟨0, u0, u1, false, 0, (List.replicate u2.toNat (0 : Int))⟩ : Frame))) (.bool (((flongestS u0 u1 u2).1) == 0)) rfl rfl ?_; intro a125 hF126; clear hF124
   refine st hF126 (.bool ((((flongestS u0 u1 u2).2) == (fcheckfr (⟨0, u0, u1, false, 0, (List.replicate u2.toNat (0 : Int))⟩ : Frame))) && (((flongestS u0 u1 u2).1) == 0))) (nog rfl _) rfl (by kernel_rfl) (pk_and hF126 (g := []) (m := 0) (b := ((flongestS u0 u1 u2).2) == (fcheckfr (⟨0, u0, u1, false, 0, (List.replicate u2.toNat (0 : Int))⟩ : Frame))) (v := ((flongestS u0 u1 u2).1) == 0) rfl (by kernel_rfl) (by kernel_rfl) (by kernel_rfl) rfl) ?_; intro a127 hF128; clear hF126
   refine s1 hF128 6 (.bool ((((flongestS u0 u1 u2).2) == (fcheckfr (⟨0, u0, u1, false, 0, (List.replicate u2.toNat (0 : Int))⟩ : Frame))) && (((flongestS u0 u1 u2).1) == 0))) ?_; intro a129 hF130; clear hF128
   refine nlH (hQ113 _ _ ?_); clear hQ113 hQ113Q
   refine wp_ret ?_
   refine thr ?_
   refine rt (fn := Tryz.f5) (v := .bool ((((flongestS u0 u1 u2).2) == (fcheckfr (⟨0, u0, u1, false, 0, (List.replicate u2.toNat (0 : Int))⟩ : Frame))) && (((flongestS u0 u1 u2).1) == 0))) hF130 (re1 hF130 (fn := Tryz.f5) rfl (by kernel_rfl)) ?_
   exact ⟨(((flongestS u0 u1 u2).2) == (fcheckfr (⟨0, u0, u1, false, 0, (List.replicate u2.toNat (0 : Int))⟩ : Frame))) && (((flongestS u0 u1 u2).1) == 0), rfl, hp112, hM103.below⟩
  · -- no
   have hp131 := hp86.2 hb111; clear hp86
   refine wp_skip ?_
   refine thn ?_
   refine sqH ?_; intro hQ132Q hQ132
   refine s1 hF110 51 (.int .i64 ((flongestS u0 u1 u2).2)) ?_; intro a133 hF134; clear hF110
   refine s1 hF134 52 (.bool (((flongestS u0 u1 u2).2) == 0)) ?_; intro a135 hF136; clear hF134
   refine s1 hF136 53 (.bool (((flongestS u0 u1 u2).2) == 0)) ?_; intro a137 hF138; clear hF136
   have hF139 := hF138.atom ((((flongestS u0 u1 u2).2) == 0) == true) (by kernel_rfl); clear hF138
   refine gp hF139 54 0 [] (((flongestS u0 u1 u2).2) == 0) (.int .i64 ((flongestS u0 u1 u2).1)) rfl rfl ?_; intro a140 hF141; clear hF139
   refine gp hF141 55 0 [] (((flongestS u0 u1 u2).2) == 0) (.bool u0) rfl rfl ?_; intro a142 hF143; clear hF141
   refine gp hF143 56 0 [] (((flongestS u0 u1 u2).2) == 0) (.bool u1) rfl rfl ?_; intro a144 hF145; clear hF143
   refine gp hF145 57 0 [] (((flongestS u0 u1 u2).2) == 0) (.int .i64 u2) rfl rfl ?_; intro a146 hF147; clear hF145
   rcases Bool.eq_false_or_eq_true (((flongestS u0 u1 u2).2) == 0) with hb148 | hb148
   · -- true
    have hp149 := hp131.1 hb148; clear hp131
    have hF150 := hF147.reval (d := 53) (c := []) (v := .bool (((flongestS u0 u1 u2).2) == 0)) (by kernel_rfl) (.bool true) (by rw [hb148]); clear hF147
    have hF151 := hF150.setc (d := 54) (c := [0]) (v := .int .i64 ((flongestS u0 u1 u2).1)) (by kernel_rfl) (v' := .int .i64 ((flongestS u0 u1 u2).1)) (by rw [hb148]; kernel_rfl); clear hF150
    have hF152 := hF151.setc (d := 55) (c := [0]) (v := .bool u0) (by kernel_rfl) (v' := .bool u0) (by rw [hb148]; kernel_rfl); clear hF151
    have hF153 := hF152.setc (d := 56) (c := [0]) (v := .bool u1) (by kernel_rfl) (v' := .bool u1) (by rw [hb148]; kernel_rfl); clear hF152
    have hF154 := hF153.setc (d := 57) (c := [0]) (v := .int .i64 u2) (by kernel_rfl) (v' := .int .i64 u2) (by rw [hb148]; kernel_rfl); clear hF153
    have hc155 := hp149.1; have hp156 := hp149.2; clear hp149
    refine fcl hF154 hM103 (.int .i64 (rlongS u0 u1 u2)) 23 #[.bool u0, .bool u1, .int .i64 u2] (by rw [wanted_of hF154 (b := true) rfl rfl (by kernel_rfl) (by kernel_rfl)]; rfl) rfl (by kernel_rfl) (fun _ => by kernel_rfl) (rlong_fun u0 u1 u2 hc155 _ _ hg5 hM103.fz) ?_; intro a157 wd159 hF158 hM160; clear hF154 hM103
    refine st hF158 (.bool (((flongestS u0 u1 u2).1) == (rlongS u0 u1 u2))) (by rw [wanted_of hF158 (b := true) rfl rfl (by kernel_rfl) (by kernel_rfl)]; rfl) rfl (by kernel_rfl) (p0 hF158 (by kernel_rfl)) ?_; intro a161 hF162; clear hF158
    refine s1 hF162 60 (.bool (((flongestS u0 u1 u2).1) == (rlongS u0 u1 u2))) ?_; intro a163 hF164; clear hF162
    refine s1 hF164 6 (.bool (((flongestS u0 u1 u2).1) == (rlongS u0 u1 u2))) ?_; intro a165 hF166; clear hF164
    refine nlH (hQ132 _ _ ?_); clear hQ132 hQ132Q
    refine wp_ret ?_
    refine rt (fn := Tryz.f5) (v := .bool (((flongestS u0 u1 u2).1) == (rlongS u0 u1 u2))) hF166 (re1 hF166 (fn := Tryz.f5) rfl (by kernel_rfl)) ?_
    exact ⟨((flongestS u0 u1 u2).1) == (rlongS u0 u1 u2), rfl, hp156, hM160.below⟩
   · -- false
    have hp167 := hp131.2 hb148; clear hp131
    have hF168 := hF147.reval (d := 53) (c := []) (v := .bool (((flongestS u0 u1 u2).2) == 0)) (by kernel_rfl) (.bool false) (by rw [hb148]); clear hF147
    have hF169 := hF168.setc (d := 54) (c := [0]) (v := .int .i64 ((flongestS u0 u1 u2).1)) (by kernel_rfl) (v' := undef) (by rw [hb148]; kernel_rfl); clear hF168
    have hF170 := hF169.setc (d := 55) (c := [0]) (v := .bool u0) (by kernel_rfl) (v' := undef) (by rw [hb148]; kernel_rfl); clear hF169
    have hF171 := hF170.setc (d := 56) (c := [0]) (v := .bool u1) (by kernel_rfl) (v' := undef) (by rw [hb148]; kernel_rfl); clear hF170
    have hF172 := hF171.setc (d := 57) (c := [0]) (v := .int .i64 u2) (by kernel_rfl) (v' := undef) (by rw [hb148]; kernel_rfl); clear hF171
    refine sk hF172 (b := false) rfl rfl (by kernel_rfl) (by kernel_rfl) rfl rfl (by kernel_rfl) ?_; intro a173 hF174; clear hF172
    refine sk hF174 (b := false) rfl rfl (by kernel_rfl) (by kernel_rfl) rfl rfl (by kernel_rfl) ?_; intro a175 hF176; clear hF174
    refine s1 hF176 60 (.bool false) ?_; intro a177 hF178; clear hF176
    refine s1 hF178 6 (.bool false) ?_; intro a179 hF180; clear hF178
    refine nlH (hQ132 _ _ ?_); clear hQ132 hQ132Q
    refine wp_ret ?_
    refine rt (fn := Tryz.f5) (v := .bool false) hF180 (re1 hF180 (fn := Tryz.f5) rfl (by kernel_rfl)) ?_
    exact ⟨false, rfl, hp167, hM103.below⟩

end Go.Proofs.YtmbdcehmeiiaoaaGreatDoor
