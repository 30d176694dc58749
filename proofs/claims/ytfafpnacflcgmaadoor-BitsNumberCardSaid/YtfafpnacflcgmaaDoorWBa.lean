/- The walks, made by program: each call does what its pure predicate says. -/
import Derived.Test.YtfafpnacflcgmaaDoorPBa
import Derived.Test.YtfafpnacflcgmaaDoorWZ
set_option linter.unusedVariables false
set_option linter.unusedSimpArgs false
namespace Go.Proofs.YtfafpnacflcgmaaDoor
open Go.Sy Go.RowKit
set_option maxRecDepth 100000 in
set_option maxHeartbeats 0 in
theorem gtrim_walk (u0 : List Int) (ao1 : Option Addr) (cap2 : Nat) (Z : Fz) (w : World) (hs3 : SlR (tyInt .u32) Z ao1 cap2 u0) (hZ : Z.on w) {K : (List Int) → Prop} (hp : gtrim_vc u0 K) : Calls Tryd.prog 86 #[.slice ao1 u0.length cap2] w fun e w' => ∃ (r : (List Int)) (ao1001 : Option Addr) (cap1002 : Nat) (Z' : Fz), e = .returned (.slice ao1001 r.length cap1002) ∧ K r ∧ SlR (tyInt .u32) Z' ao1001 cap1002 r ∧ Mem w.heap.size [] w Z [] Z' w' := by
 refine enter0 Tryd.func86 rfl rfl (by kernel_rfl) ?_; intro a0 hF0; have hM0 := Mem.start w Z hZ; have hle0 := Fz.le.refl Z
 have hp4 := hp (hs3.small); clear hp
 refine sqH ?_; intro hQ5Q hQ5
 refine s1 hF0 2 (.slice none 0 0) ?_; intro a6 hF7; clear hF0
 refine nlH (hQ5 _ _ ?_); clear hQ5 hQ5Q
 refine sqH ?_; intro hQ8Q hQ8
 refine s1 hF7 4 (.slice ao1 u0.length cap2) ?_; intro a9 hF10; clear hF7
 refine s1 hF10 5 (.int .i64 (u0.length : Int)) ?_; intro a11 hF12; clear hF10
 refine s1 hF12 3 (.int .i64 (u0.length : Int)) ?_; intro a13 hF14; clear hF12
 refine nlH (hQ8 _ _ ?_); clear hQ8 hQ8Q
 refine wp_seq ?_
 refine wp_block ?_
 have hF15 : Fr 21 [] [⟨0, [], .slice ao1 u0.length cap2⟩, ⟨3, [], .int .i64 (u0.length : Int)⟩] a13 := hF14.region (by kernel_rfl) (by kernel_rfl); clear hF14
 have hF17 : Fr 21 [] [⟨0, [], .slice ao1 u0.length cap2⟩, ⟨3, [], .int .i64 (u0.length : Int)⟩] a13 := hF15.region (by kernel_rfl) (by kernel_rfl); clear hF15
 obtain ⟨inv16, mu16, hI20, hr19⟩ := hp4
 refine lp (ι := Int) (fun (s : Int) => [⟨0, [], .slice ao1 u0.length cap2⟩, ⟨3, [], .int .i64 s⟩]) (fun (s : Int) => []) (fun (s : Int) => Z) (fun (s : Int) => inv16 s) (fun (s : Int) => mu16 s) (u0.length : Int) hI20 (by exact hF17.region (by kernel_rfl) (by kernel_rfl)) (by exact hM0) ?_
 rintro x3 hI18 a22 wd23 hF24 hM25
 have hF26 : Fr 21 [] [⟨0, [], .slice ao1 u0.length cap2⟩, ⟨3, [], .int .i64 x3⟩] a22 := hF24; clear hF24 hF17
 have hM27 : Mem w.heap.size [] w Z [] Z wd23 := hM25; clear hM25 hM0
 have hp28 := hr19 x3 hI18
 refine wp_seq ?_
 refine sqH ?_; intro hQ29Q hQ29
 refine s1 hF26 6 (.int .i64 x3) ?_; intro a30 hF31; clear hF26
 refine s1 hF31 7 (.bool (decide (x3 > 0))) ?_; intro a32 hF33; clear hF31
 refine s1 hF33 8 (.bool (decide (x3 > 0))) ?_; intro a34 hF35; clear hF33
 have hF36 := hF35.atom ((decide (x3 > 0)) == true) (by kernel_rfl); clear hF35
 refine gp hF36 9 0 [] (decide (x3 > 0)) (.slice ao1 u0.length cap2) rfl rfl ?_; intro a37 hF38; clear hF36
 refine gp hF38 10 0 [] (decide (x3 > 0)) (.int .i64 x3) rfl rfl ?_; intro a39 hF40; clear hF38
 refine gp hF40 11 0 [] (decide (x3 > 0)) (.int .i64 (w64 (x3 - 1))) rfl rfl ?_; intro a41 hF42; clear hF40
 rcases Bool.eq_false_or_eq_true (decide (x3 > 0)) with hb43 | hb43
 · -- true
  have hp44 := hp28.1 hb43; clear hp28
  have hF45 := hF42.reval (d := 8) (c := []) (v := .bool (decide (x3 > 0))) (by kernel_rfl) (.bool true) (by rw [hb43]); clear hF42
  have hF46 := hF45.setc (d := 9) (c := [0]) (v := .slice ao1 u0.length cap2) (by kernel_rfl) (v' := .slice ao1 u0.length cap2) (by rw [hb43]; kernel_rfl); clear hF45
  have hF47 := hF46.setc (d := 10) (c := [0]) (v := .int .i64 x3) (by kernel_rfl) (v' := .int .i64 x3) (by rw [hb43]; kernel_rfl); clear hF46
  have hF48 := hF47.setc (d := 11) (c := [0]) (v := .int .i64 (w64 (x3 - 1))) (by kernel_rfl) (v' := .int .i64 (w64 (x3 - 1))) (by rw [hb43]; kernel_rfl); clear hF47
  have hc49 := hp44.1; have hp50 := hp44.2; clear hp44
  refine ix hF48 (T := (tyInt .u32)) (xs := u0) hs3 (w64 (x3 - 1)) hc49 (k := .i64) (e := 105) (bytes := 4) (by rw [wanted_of hF48 (b := true) rfl rfl (by kernel_rfl) (by kernel_rfl)]; rfl) rfl (by kernel_rfl) rfl (by kernel_rfl) (by kernel_rfl) (by kernel_rfl) ?_; intro b51 off52 cs53 q54 a58 hq55 hP56 hT57 hF59; clear hF48
  have hp60 := hp50 q54 hq55; clear hp50
  obtain rfl : cs53 = ([.int .u32 q54] : List Value) := hT57
  refine st hF59 (.int .u32 q54) (by rw [wanted_of hF59 (b := true) rfl rfl (by kernel_rfl) (by kernel_rfl)]; rfl) rfl (by kernel_rfl) (lz hF59 hM27.fz hP56 0 (g := []) rfl (by kernel_rfl) (by kernel_rfl) (by kernel_rfl) rfl) ?_; intro a61 hF62; clear hF59
  refine st hF62 (.bool (q54 == 0)) (by rw [wanted_of hF62 (b := true) rfl rfl (by kernel_rfl) (by kernel_rfl)]; rfl) rfl (by kernel_rfl) (p0 hF62 (by kernel_rfl)) ?_; intro a63 hF64; clear hF62
  refine s1 hF64 15 (.bool (q54 == 0)) ?_; intro a65 hF66; clear hF64
  refine nlH (hQ29 _ _ ?_); clear hQ29 hQ29Q
  refine cd hF66 (t := q54 == 0) (by kernel_rfl) (fun hb67 => ?_) (fun hb67 => ?_)
  · -- yes
   have hp68 := hp60.1 hb67; clear hp60
   refine wp_skip ?_
   refine thn ?_
   refine wp_block ?_
   have hF69 : Fr 21 [] [⟨0, [], .slice ao1 u0.length cap2⟩, ⟨3, [], .int .i64 x3⟩] a65 := hF66.region (by kernel_rfl) (by kernel_rfl); clear hF66
   refine rgH ?_; intro hQ70Q hQ70
   refine s1 hF69 16 (.int .i64 x3) ?_; intro a71 hF72; clear hF69
   refine s1 hF72 17 (.int .i64 (w64 (x3 - 1))) ?_; intro a73 hF74; clear hF72
   refine s1 hF74 3 (.int .i64 (w64 (x3 - 1))) ?_; intro a75 hF76; clear hF74
   refine nlH (hQ70 _ _ ?_); clear hQ70 hQ70Q
   refine ibn ?_
   refine rd ?_
   exact ⟨w64 (x3 - 1), hp68.1, hp68.2, (hF76.region (by kernel_rfl) (by kernel_rfl)).anyβ _ (by kernel_rfl), hM27.keep (List.Sublist.slnil)⟩
  · -- no
   have hp77 := hp60.2 hb67; clear hp60
   refine wp_exit ?_
   refine thx ?_
   refine thx ?_
   refine ibx ?_
   refine thn ?_
   have hF78 : Fr 21 [] [⟨0, [], .slice ao1 u0.length cap2⟩, ⟨3, [], .int .i64 x3⟩] a65 := hF66.region (by kernel_rfl) (by kernel_rfl); clear hF66
   refine sqH ?_; intro hQ79Q hQ79
   refine s1 hF78 18 (.slice ao1 u0.length cap2) ?_; intro a80 hF81; clear hF78
   refine s1 hF81 19 (.int .i64 x3) ?_; intro a82 hF83; clear hF81
   have hc84 := hp77.1; have hp85 := hp77.2; clear hp77
   refine slH hF83 (T := (tyInt .u32)) (xs := u0) hs3 x3 hc84 (k' := .i64) (e := 105) (bytes := 4) (nog rfl _) rfl (by kernel_rfl) rfl (by kernel_rfl) (by kernel_rfl) (by kernel_rfl) ?_; intro ao86 cap87 a90 hn88 hs89 hF91; clear hF83
   refine s1 hF91 2 (.slice ao86 (u0.take x3.toNat).length cap87) ?_; intro a92 hF93; clear hF91
   refine nlH (hQ79 _ _ ?_); clear hQ79 hQ79Q
   refine wp_ret ?_
   refine rt (fn := Tryd.f86) (v := .slice ao86 (u0.take x3.toNat).length cap87) hF93 (re1 hF93 (fn := Tryd.f86) rfl (by kernel_rfl)) ?_
   exact ⟨u0.take x3.toNat, ao86, cap87, Z, rfl, hp85, hs89, hM27.keep (List.Sublist.slnil)⟩
 · -- false
  have hp94 := hp28.2 hb43; clear hp28
  have hF95 := hF42.reval (d := 8) (c := []) (v := .bool (decide (x3 > 0))) (by kernel_rfl) (.bool false) (by rw [hb43]); clear hF42
  have hF96 := hF95.setc (d := 9) (c := [0]) (v := .slice ao1 u0.length cap2) (by kernel_rfl) (v' := undef) (by rw [hb43]; kernel_rfl); clear hF95
  have hF97 := hF96.setc (d := 10) (c := [0]) (v := .int .i64 x3) (by kernel_rfl) (v' := undef) (by rw [hb43]; kernel_rfl); clear hF96
  have hF98 := hF97.setc (d := 11) (c := [0]) (v := .int .i64 (w64 (x3 - 1))) (by kernel_rfl) (v' := undef) (by rw [hb43]; kernel_rfl); clear hF97
  refine sk hF98 (b := false) rfl rfl (by kernel_rfl) (by kernel_rfl) rfl rfl (by kernel_rfl) ?_; intro a99 hF100; clear hF98
  refine sk hF100 (b := false) rfl rfl (by kernel_rfl) (by kernel_rfl) rfl rfl (by kernel_rfl) ?_; intro a101 hF102; clear hF100
  refine sk hF102 (b := false) rfl rfl (by kernel_rfl) (by kernel_rfl) rfl rfl (by kernel_rfl) ?_; intro a103 hF104; clear hF102
  refine s1 hF104 15 (.bool false) ?_; intro a105 hF106; clear hF104
  refine nlH (hQ29 _ _ ?_); clear hQ29 hQ29Q
  refine cdF hF106 (by kernel_rfl) ?_
  refine wp_exit ?_
  refine thx ?_
  refine thx ?_
  refine ibx ?_
  refine thn ?_
  have hF107 : Fr 21 [] [⟨0, [], .slice ao1 u0.length cap2⟩, ⟨3, [], .int .i64 x3⟩] a105 := hF106.region (by kernel_rfl) (by kernel_rfl); clear hF106
  refine sqH ?_; intro hQ108Q hQ108
  refine s1 hF107 18 (.slice ao1 u0.length cap2) ?_; intro a109 hF110; clear hF107
  refine s1 hF110 19 (.int .i64 x3) ?_; intro a111 hF112; clear hF110
  have hc113 := hp94.1; have hp114 := hp94.2; clear hp94
  refine slH hF112 (T := (tyInt .u32)) (xs := u0) hs3 x3 hc113 (k' := .i64) (e := 105) (bytes := 4) (nog rfl _) rfl (by kernel_rfl) rfl (by kernel_rfl) (by kernel_rfl) (by kernel_rfl) ?_; intro ao115 cap116 a119 hn117 hs118 hF120; clear hF112
  refine s1 hF120 2 (.slice ao115 (u0.take x3.toNat).length cap116) ?_; intro a121 hF122; clear hF120
  refine nlH (hQ108 _ _ ?_); clear hQ108 hQ108Q
  refine wp_ret ?_
  refine rt (fn := Tryd.f86) (v := .slice ao115 (u0.take x3.toNat).length cap116) hF122 (re1 hF122 (fn := Tryd.f86) rfl (by kernel_rfl)) ?_
  exact ⟨u0.take x3.toNat, ao115, cap116, Z, rfl, hp114, hs118, hM27.keep (List.Sublist.slnil)⟩

end Go.Proofs.YtfafpnacflcgmaaDoor
