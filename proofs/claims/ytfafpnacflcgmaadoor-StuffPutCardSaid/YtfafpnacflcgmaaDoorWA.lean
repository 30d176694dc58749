/- The walks, made by program: each call does what its pure predicate says. -/
import Derived.Test.YtfafpnacflcgmaaDoorPA
import Derived.Test.YtfafpnacflcgmaaDoorWZ
set_option linter.unusedVariables false
set_option linter.unusedSimpArgs false
namespace Go.Proofs.YtfafpnacflcgmaaDoor
open Go.Sy Go.RowKit
set_option maxRecDepth 100000 in
set_option maxHeartbeats 0 in
theorem bread_walk (u0 : List UInt8)  (Z : Fz) (w : World)  (hZ : Z.on w) {K : Int → Prop} (hp : bread_vc u0 K) : Calls Tryd.prog 36 #[str u0] w fun e w' => ∃ r : Int, e = .returned (.int .u64 r) ∧ K r ∧ Below w.heap.size w w' := by
 refine enter0 Tryd.func36 rfl rfl (by kernel_rfl) ?_; intro a0 hF0; have hM0 := Mem.start w Z hZ; have hle0 := Fz.le.refl Z
 refine sqH ?_; intro hQ1Q hQ1
 refine s1 hF0 2 (.int .u64 0) ?_; intro a2 hF3; clear hF0
 refine nlH (hQ1 _ _ ?_); clear hQ1 hQ1Q
 refine sqH ?_; intro hQ4Q hQ4
 refine s1 hF3 3 (.int .u64 0) ?_; intro a5 hF6; clear hF3
 refine nlH (hQ4 _ _ ?_); clear hQ4 hQ4Q
 refine wp_seq ?_
 refine sqH ?_; intro hQ7Q hQ7
 refine s1 hF6 5 (str u0) ?_; intro a8 hF9; clear hF6
 refine s1 hF9 6 (.int .i64 (u0.length : Int)) ?_; intro a10 hF11; clear hF9
 refine s1 hF11 7 (.int .i64 0) ?_; intro a12 hF13; clear hF11
 refine nlH (hQ7 _ _ ?_); clear hQ7 hQ7Q
 refine wp_block ?_
 have hF14 : Fr 20 [] [⟨0, [], str u0⟩, ⟨3, [], .int .u64 0⟩, ⟨6, [], .int .i64 (u0.length : Int)⟩, ⟨7, [], .int .i64 0⟩] a12 := hF13.region (by kernel_rfl) (by kernel_rfl); clear hF13
 have hF16 : Fr 20 [] [⟨0, [], str u0⟩, ⟨3, [], .int .u64 0⟩, ⟨6, [], .int .i64 (u0.length : Int)⟩, ⟨7, [], .int .i64 0⟩] a12 := hF14.region (by kernel_rfl) (by kernel_rfl); clear hF14
 obtain ⟨inv15, mu15, hI19, hr18⟩ := hp
 refine lp (ι := Int × Int) (fun (s : Int × Int) => [⟨0, [], str u0⟩, ⟨3, [], .int .u64 s.1⟩, ⟨6, [], .int .i64 (u0.length : Int)⟩, ⟨7, [], .int .i64 s.2⟩]) (fun (s : Int × Int) => []) (fun (s : Int × Int) => Z) (fun (s : Int × Int) => inv15 s.1 s.2) (fun (s : Int × Int) => mu15 s.1 s.2) ⟨0, 0⟩ hI19 (by exact hF16.region (by kernel_rfl) (by kernel_rfl)) (by exact hM0) ?_
 rintro ⟨x3, x7⟩ hI17 a21 wd22 hF23 hM24
 have hF25 : Fr 20 [] [⟨0, [], str u0⟩, ⟨3, [], .int .u64 x3⟩, ⟨6, [], .int .i64 (u0.length : Int)⟩, ⟨7, [], .int .i64 x7⟩] a21 := hF23; clear hF23 hF16
 have hM26 : Mem w.heap.size [] w Z [] Z wd22 := hM24; clear hM24 hM0
 have hp27 := hr18 x3 x7 hI17
 refine sqH ?_; intro hQ28Q hQ28
 refine s1 hF25 8 (.bool (decide (x7 < (u0.length : Int)))) ?_; intro a29 hF30; clear hF25
 refine nlH (hQ28 _ _ ?_); clear hQ28 hQ28Q
 refine wp_seq ?_
 refine cd hF30 (t := decide (x7 < (u0.length : Int))) (by kernel_rfl) (fun hb31 => ?_) (fun hb31 => ?_)
 · -- yes
  have hp32 := hp27.1 hb31; clear hp27
  refine wp_skip ?_
  refine thn ?_
  refine wp_seq ?_
  refine wp_block ?_
  refine sqH ?_; intro hQ33Q hQ33
  refine s1 hF30 9 (.int .i64 x7) ?_; intro a34 hF35; clear hF30
  refine s1 hF35 4 (.int .i64 x7) ?_; intro a36 hF37; clear hF35
  refine nlH (hQ33 _ _ ?_); clear hQ33 hQ33Q
  refine rgH ?_; intro hQ38Q hQ38
  refine s1 hF37 10 (.int .u64 x3) ?_; intro a39 hF40; clear hF37
  refine s1 hF40 11 (.int .u64 (bShl .u64 x3 1)) ?_; intro a41 hF42; clear hF40
  refine s1 hF42 12 (str u0) ?_; intro a43 hF44; clear hF42
  refine s1 hF44 13 (.int .i64 x7) ?_; intro a45 hF46; clear hF44
  have hc47 := hp32.1; have hp48 := hp32.2; clear hp32
  obtain ⟨c49, hq50⟩ : ∃ q, u0[x7.toNat]? = some q := ⟨_, List.getElem?_eq_getElem (by omega)⟩; have hp51 := hp48 c49 hq50
  refine st hF46 (.int .u8 (c49.toNat : Int)) (nog rfl _) rfl (by kernel_rfl) (stridx_run hF46 (k := .i64) rfl (by kernel_rfl) (by kernel_rfl) (by kernel_rfl) hc47.1 hq50) ?_; intro a52 hF53; clear hF46
  refine s1 hF53 15 (.int .u8 (w8 ((c49.toNat : Int) - 48))) ?_; intro a54 hF55; clear hF53
  refine s1 hF55 16 (.int .u64 (wu64 (w8 ((c49.toNat : Int) - 48)))) ?_; intro a56 hF57; clear hF55
  refine s1 hF57 17 (.int .u64 (bOr .u64 (bShl .u64 x3 1) (wu64 (w8 ((c49.toNat : Int) - 48))))) ?_; intro a58 hF59; clear hF57
  refine s1 hF59 3 (.int .u64 (bOr .u64 (bShl .u64 x3 1) (wu64 (w8 ((c49.toNat : Int) - 48))))) ?_; intro a60 hF61; clear hF59
  refine nlH (hQ38 _ _ ?_); clear hQ38 hQ38Q
  refine ibn ?_
  refine thn ?_
  refine rgH ?_; intro hQ62Q hQ62
  refine s1 hF61 18 (.int .i64 (w64 (x7 + 1))) ?_; intro a63 hF64; clear hF61
  refine s1 hF64 7 (.int .i64 (w64 (x7 + 1))) ?_; intro a65 hF66; clear hF64
  refine nlH (hQ62 _ _ ?_); clear hQ62 hQ62Q
  refine rd ?_
  exact ⟨⟨bOr .u64 (bShl .u64 x3 1) (wu64 (w8 ((c49.toNat : Int) - 48))), w64 (x7 + 1)⟩, hp51.1, hp51.2, (hF66.region (by kernel_rfl) (by kernel_rfl)).anyβ _ (by kernel_rfl), hM26.keep (List.Sublist.slnil)⟩
 · -- no
  have hp67 := hp27.2 hb31; clear hp27
  refine wp_exit ?_
  refine thx ?_
  refine thx ?_
  refine ibx ?_
  refine thn ?_
  refine sqH ?_; intro hQ68Q hQ68
  refine s1 hF30 19 (.int .u64 x3) ?_; intro a69 hF70; clear hF30
  refine s1 hF70 2 (.int .u64 x3) ?_; intro a71 hF72; clear hF70
  refine nlH (hQ68 _ _ ?_); clear hQ68 hQ68Q
  refine wp_ret ?_
  refine rt (fn := Tryd.f36) (v := .int .u64 x3) hF72 (re1 hF72 (fn := Tryd.f36) rfl (by kernel_rfl)) ?_
  exact ⟨x3, rfl, hp67, hM26.below⟩

set_option maxRecDepth 100000 in
set_option maxHeartbeats 0 in
theorem bwrite_walk (u0 : Int) (u1 : Int)  (Z : Fz) (w : World)  (hZ : Z.on w) {K : (List UInt8) → Prop} (hp : bwrite_vc u0 u1 K) : Calls Tryd.prog 37 #[.int .u64 u0, .int .i64 u1] w fun e w' => ∃ r : (List UInt8), e = .returned (str r) ∧ K r ∧ Below w.heap.size w w' := by
 refine enter0 Tryd.func37 rfl rfl (by kernel_rfl) ?_; intro a0 hF0; have hM0 := Mem.start w Z hZ; have hle0 := Fz.le.refl Z
 refine sqH ?_; intro hQ1Q hQ1
 refine s1 hF0 4 (str []) ?_; intro a2 hF3; clear hF0
 refine nlH (hQ1 _ _ ?_); clear hQ1 hQ1Q
 refine sqH ?_; intro hQ4Q hQ4
 refine s1 hF3 7 (.int .i64 u1) ?_; intro a5 hF6; clear hF3
 have hc7 := hp.1; have hp8 := hp.2; clear hp
 refine mks hF6 hM0 (T := (tyInt .u8)) u1 u1 (k := .i64) (k' := .i64) (e := 5) (bytes := 1) (zs := [.int .u8 0]) (z := 0) (by simp only [lim]; omega) (nog rfl _) rfl (by kernel_rfl) rfl (by kernel_rfl) (by kernel_rfl) (by kernel_rfl) (by kernel_rfl) rfl ?_; intro g9 a12 wd10 hF13 hM11; clear hF6 hM0
 have hM14 : Mem w.heap.size [] w Z [.own (tyInt .u8) 5 (some ⟨g9, 0, none⟩) u1.toNat (List.replicate u1.toNat (0 : Int))] Z wd10 := hM11; clear hM11
 refine s1 hF13 5 (.slice (some ⟨g9, 0, none⟩) (List.replicate u1.toNat (0 : Int)).length u1.toNat) ?_; intro a15 hF16; clear hF13
 refine nlH (hQ4 _ _ ?_); clear hQ4 hQ4Q
 refine wp_seq ?_
 refine sqH ?_; intro hQ17Q hQ17
 refine s1 hF16 9 (.int .i64 u1) ?_; intro a18 hF19; clear hF16
 refine s1 hF19 10 (.int .i64 0) ?_; intro a20 hF21; clear hF19
 refine nlH (hQ17 _ _ ?_); clear hQ17 hQ17Q
 refine wp_block ?_
 have hF22 : Fr 28 [] [⟨0, [], .int .u64 u0⟩, ⟨1, [], .int .i64 u1⟩, ⟨5, [], .slice (some ⟨g9, 0, none⟩) (List.replicate u1.toNat (0 : Int)).length u1.toNat⟩, ⟨9, [], .int .i64 u1⟩, ⟨10, [], .int .i64 0⟩] a20 := hF21.region (by kernel_rfl) (by kernel_rfl); clear hF21
 have hF24 : Fr 28 [] [⟨0, [], .int .u64 u0⟩, ⟨1, [], .int .i64 u1⟩, ⟨5, [], .slice (some ⟨g9, 0, none⟩) (List.replicate u1.toNat (0 : Int)).length u1.toNat⟩, ⟨9, [], .int .i64 u1⟩, ⟨10, [], .int .i64 0⟩] a20 := hF22.region (by kernel_rfl) (by kernel_rfl); clear hF22
 obtain ⟨inv23, mu23, hI27, hr26⟩ := hp8
 refine lp (ι := Int × Int × (List Int)) (fun (s : Int × Int × (List Int)) => [⟨0, [], .int .u64 s.1⟩, ⟨1, [], .int .i64 u1⟩, ⟨5, [], .slice (some ⟨g9, 0, none⟩) s.2.2.length u1.toNat⟩, ⟨9, [], .int .i64 u1⟩, ⟨10, [], .int .i64 s.2.1⟩]) (fun (s : Int × Int × (List Int)) => [.own (tyInt .u8) 5 (some ⟨g9, 0, none⟩) u1.toNat s.2.2]) (fun (s : Int × Int × (List Int)) => Z) (fun (s : Int × Int × (List Int)) => inv23 s.1 s.2.1 s.2.2) (fun (s : Int × Int × (List Int)) => mu23 s.1 s.2.1 s.2.2) ⟨u0, 0, (List.replicate u1.toNat (0 : Int))⟩ hI27 (by exact hF24.region (by kernel_rfl) (by kernel_rfl)) (by exact hM14) ?_
 rintro ⟨x0, x10, zg90⟩ hI25 a29 wd30 hF31 hM32
 have hF33 : Fr 28 [] [⟨0, [], .int .u64 x0⟩, ⟨1, [], .int .i64 u1⟩, ⟨5, [], .slice (some ⟨g9, 0, none⟩) zg90.length u1.toNat⟩, ⟨9, [], .int .i64 u1⟩, ⟨10, [], .int .i64 x10⟩] a29 := hF31; clear hF31 hF24
 have hM34 : Mem w.heap.size [] w Z [.own (tyInt .u8) 5 (some ⟨g9, 0, none⟩) u1.toNat zg90] Z wd30 := hM32; clear hM32 hM14
 have hp35 := hr26 x0 x10 zg90 hI25
 refine sqH ?_; intro hQ36Q hQ36
 refine s1 hF33 11 (.bool (decide (x10 < u1))) ?_; intro a37 hF38; clear hF33
 refine nlH (hQ36 _ _ ?_); clear hQ36 hQ36Q
 refine wp_seq ?_
 refine cd hF38 (t := decide (x10 < u1)) (by kernel_rfl) (fun hb39 => ?_) (fun hb39 => ?_)
 · -- yes
  have hp40 := hp35.1 hb39; clear hp35
  refine wp_skip ?_
  refine thn ?_
  refine wp_seq ?_
  refine wp_block ?_
  refine sqH ?_; intro hQ41Q hQ41
  refine s1 hF38 12 (.int .i64 x10) ?_; intro a42 hF43; clear hF38
  refine s1 hF43 6 (.int .i64 x10) ?_; intro a44 hF45; clear hF43
  refine nlH (hQ41 _ _ ?_); clear hQ41 hQ41Q
  refine sqH ?_; intro hQ46Q hQ46
  refine s1 hF45 13 (.slice (some ⟨g9, 0, none⟩) zg90.length u1.toNat) ?_; intro a47 hF48; clear hF45
  refine s1 hF48 14 (.int .i64 u1) ?_; intro a49 hF50; clear hF48
  refine s1 hF50 15 (.int .i64 (w64 (u1 - 1))) ?_; intro a51 hF52; clear hF50
  refine s1 hF52 16 (.int .i64 x10) ?_; intro a53 hF54; clear hF52
  refine s1 hF54 17 (.int .i64 (w64 ((w64 (u1 - 1)) - x10))) ?_; intro a55 hF56; clear hF54
  refine s1 hF56 18 (.int .u64 x0) ?_; intro a57 hF58; clear hF56
  refine s1 hF58 19 (.int .u64 (bAnd .u64 x0 1)) ?_; intro a59 hF60; clear hF58
  refine s1 hF60 20 (.int .u8 (w8 (bAnd .u64 x0 1))) ?_; intro a61 hF62; clear hF60
  refine s1 hF62 21 (.int .u8 (w8 (48 + (w8 (bAnd .u64 x0 1))))) ?_; intro a63 hF64; clear hF62
  have hc65 := hp40.1; have hp66 := hp40.2; clear hp40
  refine ixo hF64 hM34 0 (T := (tyInt .u8)) (xs := zg90) (w64 ((w64 (u1 - 1)) - x10)) hc65 (k := .i64) (e := 5) (bytes := 1) (nog rfl _) rfl (by kernel_rfl) rfl (by kernel_rfl) (by kernel_rfl) rfl (by kernel_rfl) ?_; intro g67 a69 hg68 hF70; clear hF64
  obtain rfl : g9 = g67 := by simpa using hg68
  have hF71 : Fr 28 [] [⟨0, [], .int .u64 x0⟩, ⟨1, [], .int .i64 u1⟩, ⟨5, [], .slice (some ⟨g9, 0, none⟩) zg90.length u1.toNat⟩, ⟨6, [], .int .i64 x10⟩, ⟨9, [], .int .i64 u1⟩, ⟨10, [], .int .i64 x10⟩, ⟨11, [], .bool (decide (x10 < u1))⟩, ⟨12, [], .int .i64 x10⟩, ⟨13, [], .slice (some ⟨g9, 0, none⟩) zg90.length u1.toNat⟩, ⟨14, [], .int .i64 u1⟩, ⟨15, [], .int .i64 (w64 (u1 - 1))⟩, ⟨16, [], .int .i64 x10⟩, ⟨17, [], .int .i64 (w64 ((w64 (u1 - 1)) - x10))⟩, ⟨18, [], .int .u64 x0⟩, ⟨19, [], .int .u64 (bAnd .u64 x0 1)⟩, ⟨20, [], .int .u8 (w8 (bAnd .u64 x0 1))⟩, ⟨21, [], .int .u8 (w8 (48 + (w8 (bAnd .u64 x0 1))))⟩, ⟨22, [], .pointer (some ⟨g9, (w64 ((w64 (u1 - 1)) - x10)).toNat * 1, none⟩)⟩] a69 := hF70.region (by kernel_rfl) (by kernel_rfl); clear hF70
  have hM72 : Mem w.heap.size [] w Z [.own (tyInt .u8) 5 (some ⟨g9, 0, none⟩) u1.toNat zg90] Z wd30 := hM34; clear hM34
  refine so hF71 hM72 0 (T := (tyInt .u8)) (xs := zg90) (w64 ((w64 (u1 - 1)) - x10)).toNat (w8 (48 + (w8 (bAnd .u64 x0 1)))) (u := .int .u8 (w8 (48 + (w8 (bAnd .u64 x0 1))))) (nog rfl _) rfl rfl (by kernel_rfl) rfl (by kernel_rfl) rfl (by kernel_rfl) (by simp only [List.length_set] at *; omega) rfl ?_; intro wd73 hM74; clear hM72
  have hF75 : Fr 28 [] [⟨0, [], .int .u64 x0⟩, ⟨1, [], .int .i64 u1⟩, ⟨5, [], .slice (some ⟨g9, 0, none⟩) (zg90.set (w64 ((w64 (u1 - 1)) - x10)).toNat (w8 (48 + (w8 (bAnd .u64 x0 1))))).length u1.toNat⟩, ⟨6, [], .int .i64 x10⟩, ⟨9, [], .int .i64 u1⟩, ⟨10, [], .int .i64 x10⟩, ⟨11, [], .bool (decide (x10 < u1))⟩, ⟨12, [], .int .i64 x10⟩, ⟨13, [], .slice (some ⟨g9, 0, none⟩) (zg90.set (w64 ((w64 (u1 - 1)) - x10)).toNat (w8 (48 + (w8 (bAnd .u64 x0 1))))).length u1.toNat⟩, ⟨14, [], .int .i64 u1⟩, ⟨15, [], .int .i64 (w64 (u1 - 1))⟩, ⟨16, [], .int .i64 x10⟩, ⟨17, [], .int .i64 (w64 ((w64 (u1 - 1)) - x10))⟩, ⟨18, [], .int .u64 x0⟩, ⟨19, [], .int .u64 (bAnd .u64 x0 1)⟩, ⟨20, [], .int .u8 (w8 (bAnd .u64 x0 1))⟩, ⟨21, [], .int .u8 (w8 (48 + (w8 (bAnd .u64 x0 1))))⟩, ⟨22, [], .pointer (some ⟨g9, (w64 ((w64 (u1 - 1)) - x10)).toNat * 1, none⟩)⟩] a69 := by (try simp only [List.length_set] at hF71); simp only [List.length_set]; exact hF71.region (by kernel_rfl) (by kernel_rfl)
  clear hF71
  have hM76 : Mem w.heap.size [] w Z [.own (tyInt .u8) 5 (some ⟨g9, 0, none⟩) u1.toNat (zg90.set (w64 ((w64 (u1 - 1)) - x10)).toNat (w8 (48 + (w8 (bAnd .u64 x0 1)))))] Z wd73 := hM74; clear hM74
  refine nlH (hQ46 _ _ ?_); clear hQ46 hQ46Q
  refine rgH ?_; intro hQ77Q hQ77
  refine s1 hF75 23 (.int .u64 x0) ?_; intro a78 hF79; clear hF75
  refine s1 hF79 24 (.int .u64 (bShr .u64 x0 1)) ?_; intro a80 hF81; clear hF79
  refine s1 hF81 0 (.int .u64 (bShr .u64 x0 1)) ?_; intro a82 hF83; clear hF81
  refine nlH (hQ77 _ _ ?_); clear hQ77 hQ77Q
  refine ibn ?_
  refine thn ?_
  have hF84 : Fr 28 [] [⟨0, [], .int .u64 (bShr .u64 x0 1)⟩, ⟨1, [], .int .i64 u1⟩, ⟨5, [], .slice (some ⟨g9, 0, none⟩) (zg90.set (w64 ((w64 (u1 - 1)) - x10)).toNat (w8 (48 + (w8 (bAnd .u64 x0 1))))).length u1.toNat⟩, ⟨9, [], .int .i64 u1⟩, ⟨10, [], .int .i64 x10⟩] a82 := hF83.region (by kernel_rfl) (by kernel_rfl); clear hF83
  refine rgH ?_; intro hQ85Q hQ85
  refine s1 hF84 25 (.int .i64 (w64 (x10 + 1))) ?_; intro a86 hF87; clear hF84
  refine s1 hF87 10 (.int .i64 (w64 (x10 + 1))) ?_; intro a88 hF89; clear hF87
  refine nlH (hQ85 _ _ ?_); clear hQ85 hQ85Q
  refine rd ?_
  exact ⟨⟨bShr .u64 x0 1, w64 (x10 + 1), zg90.set (w64 ((w64 (u1 - 1)) - x10)).toNat (w8 (48 + (w8 (bAnd .u64 x0 1))))⟩, hp66.1, hp66.2, (hF89.region (by kernel_rfl) (by kernel_rfl)).anyβ _ (by kernel_rfl), hM76.keep (List.Sublist.cons_cons _ (List.Sublist.slnil))⟩
 · -- no
  have hp90 := hp35.2 hb39; clear hp35
  refine wp_exit ?_
  refine thx ?_
  refine thx ?_
  refine ibx ?_
  refine thn ?_
  refine sqH ?_; intro hQ91Q hQ91
  refine s1 hF38 26 (.slice (some ⟨g9, 0, none⟩) zg90.length u1.toNat) ?_; intro a92 hF93; clear hF38
  refine st hF93 (str (bstr zg90)) (nog rfl _) rfl (by kernel_rfl) ((by obtain ⟨Z9, hle9, hon9, hs9⟩ := hM34.lend 0 rfl; exact bstr_op hF93 (g := []) (e := 5) (ao := (some ⟨g9, 0, none⟩)) (cap := u1.toNat) (xs := zg90) rfl (by kernel_rfl) (by kernel_rfl) (by kernel_rfl) (by kernel_rfl)  hs9 hon9 rfl)) ?_; intro a94 hF95; clear hF93
  refine s1 hF95 4 (str (bstr zg90)) ?_; intro a96 hF97; clear hF95
  refine nlH (hQ91 _ _ ?_); clear hQ91 hQ91Q
  refine wp_ret ?_
  refine rt (fn := Tryd.f37) (v := str (bstr zg90)) hF97 (re1 hF97 (fn := Tryd.f37) rfl (by kernel_rfl)) ?_
  exact ⟨bstr zg90, rfl, hp90, hM34.below⟩

set_option maxRecDepth 100000 in
set_option maxHeartbeats 0 in
theorem rother_walk (u0 : Int)  (Z : Fz) (w : World)  (hZ : Z.on w) {K : Int → Prop} (hp : rother_vc u0 K) : Calls Tryd.prog 51 #[.int .u8 u0] w fun e w' => ∃ r : Int, e = .returned (.int .u8 r) ∧ K r ∧ Below w.heap.size w w' := by
 refine enter0 Tryd.func51 rfl rfl (by kernel_rfl) ?_; intro a0 hF0; have hM0 := Mem.start w Z hZ; have hle0 := Fz.le.refl Z
 refine sqH ?_; intro hQ1Q hQ1
 refine s1 hF0 2 (.int .u8 0) ?_; intro a2 hF3; clear hF0
 refine nlH (hQ1 _ _ ?_); clear hQ1 hQ1Q
 refine wp_seq ?_
 refine sqH ?_; intro hQ4Q hQ4
 refine s1 hF3 3 (.int .u8 u0) ?_; intro a5 hF6; clear hF3
 refine s1 hF6 4 (.bool (u0 == 48)) ?_; intro a7 hF8; clear hF6
 refine nlH (hQ4 _ _ ?_); clear hQ4 hQ4Q
 refine cd hF8 (t := u0 == 48) (by kernel_rfl) (fun hb9 => ?_) (fun hb9 => ?_)
 · -- yes
  have hp10 := hp.1 hb9; clear hp
  refine sqH ?_; intro hQ11Q hQ11
  refine s1 hF8 2 (.int .u8 49) ?_; intro a12 hF13; clear hF8
  refine nlH (hQ11 _ _ ?_); clear hQ11 hQ11Q
  refine wp_ret ?_
  refine thr ?_
  refine rt (fn := Tryd.f51) (v := .int .u8 49) hF13 (re1 hF13 (fn := Tryd.f51) rfl (by kernel_rfl)) ?_
  exact ⟨49, rfl, hp10, hM0.below⟩
 · -- no
  have hp14 := hp.2 hb9; clear hp
  refine wp_skip ?_
  refine thn ?_
  refine sqH ?_; intro hQ15Q hQ15
  refine s1 hF8 2 (.int .u8 48) ?_; intro a16 hF17; clear hF8
  refine nlH (hQ15 _ _ ?_); clear hQ15 hQ15Q
  refine wp_ret ?_
  refine rt (fn := Tryd.f51) (v := .int .u8 48) hF17 (re1 hF17 (fn := Tryd.f51) rfl (by kernel_rfl)) ?_
  exact ⟨48, rfl, hp14, hM0.below⟩
theorem rother_fun (u0 : Int)  (Z : Fz) (w : World)  (hZ : Z.on w) : Calls Tryd.prog 51 #[.int .u8 u0] w fun e w' => e = .returned (.int .u8 (rother u0)) ∧ Below w.heap.size w w' :=
  (rother_walk u0  Z w  hZ (rother_ok u0)).mono fun _ _ ⟨r, he, hk, hb⟩ => ⟨by subst hk; exact he, hb⟩

set_option maxRecDepth 100000 in
set_option maxHeartbeats 0 in
theorem smost_walk (u0 : Int)  (Z : Fz) (w : World)  (hZ : Z.on w) {K : (Int × Int) → Prop} (hp : smost_vc u0 K) : Calls Tryd.prog 31 #[.int .i64 u0] w fun e w' => ∃ r : Int × Int, e = .returned (.tuple #[.int .i64 r.1, .int .i64 r.2]) ∧ K r ∧ Below w.heap.size w w' := by
 refine enter0 Tryd.func31 rfl rfl (by kernel_rfl) ?_; intro a0 hF0; have hM0 := Mem.start w Z hZ; have hle0 := Fz.le.refl Z
 refine sqH ?_; intro hQ1Q hQ1
 refine s1 hF0 2 (.int .i64 0) ?_; intro a2 hF3; clear hF0
 refine s1 hF3 3 (.int .i64 0) ?_; intro a4 hF5; clear hF3
 refine nlH (hQ1 _ _ ?_); clear hQ1 hQ1Q
 refine wp_seq ?_
 refine sqH ?_; intro hQ6Q hQ6
 refine s1 hF5 4 (.int .i64 u0) ?_; intro a7 hF8; clear hF5
 refine s1 hF8 5 (.bool (decide (u0 < 0))) ?_; intro a9 hF10; clear hF8
 refine s1 hF10 6 (.bool (decide (u0 < 0))) ?_; intro a11 hF12; clear hF10
 have hF13 := hF12.atom ((decide (u0 < 0)) == false) (by kernel_rfl); clear hF12
 refine gp hF13 7 0 [] (decide (u0 < 0)) (.int .i64 u0) rfl rfl ?_; intro a14 hF15; clear hF13
 refine gp hF15 8 0 [] (decide (u0 < 0)) (.bool (decide (u0 > 1000))) rfl rfl ?_; intro a16 hF17; clear hF15
 refine st hF17 (.bool ((decide (u0 < 0)) || (decide (u0 > 1000)))) (nog rfl _) rfl (by kernel_rfl) (pk_or hF17 (g := []) (m := 0) (b := decide (u0 < 0)) (v := decide (u0 > 1000)) rfl (by kernel_rfl) (by kernel_rfl) (by kernel_rfl) rfl) ?_; intro a18 hF19; clear hF17
 refine nlH (hQ6 _ _ ?_); clear hQ6 hQ6Q
 refine cd hF19 (t := (decide (u0 < 0)) || (decide (u0 > 1000))) (by kernel_rfl) (fun hb20 => ?_) (fun hb20 => ?_)
 · -- yes
  have hp21 := hp.1 hb20; clear hp
  have hF22 : Fr 17 [] [] a18 := hF19.region (by kernel_rfl) (by kernel_rfl); clear hF19
  refine sqH ?_; intro hQ23Q hQ23
  refine s1 hF22 2 (.int .i64 0) ?_; intro a24 hF25; clear hF22
  refine s1 hF25 3 (.int .i64 3) ?_; intro a26 hF27; clear hF25
  refine nlH (hQ23 _ _ ?_); clear hQ23 hQ23Q
  refine wp_ret ?_
  refine thr ?_
  refine rt (fn := Tryd.f31) (v := .tuple #[.int .i64 0, .int .i64 3]) hF27 (re2 hF27 (fn := Tryd.f31) rfl (by kernel_rfl) (by kernel_rfl)) ?_
  exact ⟨(0, 3), rfl, hp21, hM0.below⟩
 · -- no
  have hp28 := hp.2 hb20; clear hp
  refine wp_skip ?_
  refine thn ?_
  refine wp_seq ?_
  have hF29 : Fr 17 [] [⟨0, [], .int .i64 u0⟩] a18 := hF19.region (by kernel_rfl) (by kernel_rfl); clear hF19
  refine sqH ?_; intro hQ30Q hQ30
  refine s1 hF29 10 (.int .i64 u0) ?_; intro a31 hF32; clear hF29
  refine s1 hF32 11 (.bool (u0 == 0)) ?_; intro a33 hF34; clear hF32
  refine nlH (hQ30 _ _ ?_); clear hQ30 hQ30Q
  refine cd hF34 (t := u0 == 0) (by kernel_rfl) (fun hb35 => ?_) (fun hb35 => ?_)
  · -- yes
   have hp36 := hp28.1 hb35; clear hp28
   refine sqH ?_; intro hQ37Q hQ37
   refine s1 hF34 2 (.int .i64 0) ?_; intro a38 hF39; clear hF34
   refine s1 hF39 3 (.int .i64 0) ?_; intro a40 hF41; clear hF39
   refine nlH (hQ37 _ _ ?_); clear hQ37 hQ37Q
   refine wp_ret ?_
   refine thr ?_
   refine rt (fn := Tryd.f31) (v := .tuple #[.int .i64 0, .int .i64 0]) hF41 (re2 hF41 (fn := Tryd.f31) rfl (by kernel_rfl) (by kernel_rfl)) ?_
   exact ⟨(0, 0), rfl, hp36, hM0.below⟩
  · -- no
   have hp42 := hp28.2 hb35; clear hp28
   refine wp_skip ?_
   refine thn ?_
   refine sqH ?_; intro hQ43Q hQ43
   refine s1 hF34 12 (.int .i64 u0) ?_; intro a44 hF45; clear hF34
   refine s1 hF45 13 (.int .i64 u0) ?_; intro a46 hF47; clear hF45
   refine s1 hF47 14 (.int .i64 (w64 (u0 - 1))) ?_; intro a48 hF49; clear hF47
   refine s1 hF49 15 (.int .i64 (w64 ((w64 (u0 - 1)).tdiv 4))) ?_; intro a50 hF51; clear hF49
   refine s1 hF51 16 (.int .i64 (w64 (u0 + (w64 ((w64 (u0 - 1)).tdiv 4))))) ?_; intro a52 hF53; clear hF51
   refine s1 hF53 2 (.int .i64 (w64 (u0 + (w64 ((w64 (u0 - 1)).tdiv 4))))) ?_; intro a54 hF55; clear hF53
   refine s1 hF55 3 (.int .i64 0) ?_; intro a56 hF57; clear hF55
   refine nlH (hQ43 _ _ ?_); clear hQ43 hQ43Q
   refine wp_ret ?_
   refine rt (fn := Tryd.f31) (v := .tuple #[.int .i64 (w64 (u0 + (w64 ((w64 (u0 - 1)).tdiv 4)))), .int .i64 0]) hF57 (re2 hF57 (fn := Tryd.f31) rfl (by kernel_rfl) (by kernel_rfl)) ?_
   exact ⟨(w64 (u0 + (w64 ((w64 (u0 - 1)).tdiv 4))), 0), rfl, hp42, hM0.below⟩
theorem smost_fun (u0 : Int)  (Z : Fz) (w : World)  (hZ : Z.on w) : Calls Tryd.prog 31 #[.int .i64 u0] w fun e w' => e = .returned (.tuple #[.int .i64 ((smost u0).1), .int .i64 ((smost u0).2)]) ∧ Below w.heap.size w w' :=
  (smost_walk u0  Z w  hZ (smost_ok u0)).mono fun _ _ ⟨r, he, hk, hb⟩ => ⟨by subst hk; exact he, hb⟩

set_option maxRecDepth 100000 in
set_option maxHeartbeats 0 in
theorem hasprefix0_walk (u0 : List UInt8) (u1 : List UInt8)  (Z : Fz) (w : World)  (hZ : Z.on w) {K : Bool → Prop} (hp : hasprefix0_vc u0 u1 K) : Calls Tryd.prog 49 #[str u0, str u1] w fun e w' => ∃ r : Bool, e = .returned (.bool r) ∧ K r ∧ Below w.heap.size w w' := by
 refine enter0 Tryd.func49 rfl rfl (by kernel_rfl) ?_; intro a0 hF0; have hM0 := Mem.start w Z hZ; have hle0 := Fz.le.refl Z
 refine sqH ?_; intro hQ1Q hQ1
 refine s1 hF0 4 (.bool false) ?_; intro a2 hF3; clear hF0
 refine nlH (hQ1 _ _ ?_); clear hQ1 hQ1Q
 refine sqH ?_; intro hQ4Q hQ4
 refine s1 hF3 5 (str u0) ?_; intro a5 hF6; clear hF3
 refine s1 hF6 6 (.int .i64 (u0.length : Int)) ?_; intro a7 hF8; clear hF6
 refine s1 hF8 7 (str u1) ?_; intro a9 hF10; clear hF8
 refine s1 hF10 8 (.int .i64 (u1.length : Int)) ?_; intro a11 hF12; clear hF10
 refine s1 hF12 9 (.bool (decide ((u0.length : Int) ≥ (u1.length : Int)))) ?_; intro a13 hF14; clear hF12
 refine s1 hF14 10 (.bool (decide ((u0.length : Int) ≥ (u1.length : Int)))) ?_; intro a15 hF16; clear hF14
 have hF17 := hF16.atom ((decide ((u0.length : Int) ≥ (u1.length : Int))) == true) (by kernel_rfl); clear hF16
 refine gp hF17 11 0 [] (decide ((u0.length : Int) ≥ (u1.length : Int))) (str u0) rfl rfl ?_; intro a18 hF19; clear hF17
 refine gp hF19 12 0 [] (decide ((u0.length : Int) ≥ (u1.length : Int))) (str u1) rfl rfl ?_; intro a20 hF21; clear hF19
 refine gp hF21 13 0 [] (decide ((u0.length : Int) ≥ (u1.length : Int))) (.int .i64 (u1.length : Int)) rfl rfl ?_; intro a22 hF23; clear hF21
 rcases Bool.eq_false_or_eq_true (decide ((u0.length : Int) ≥ (u1.length : Int))) with hb24 | hb24
 · -- true
  have hp25 := hp.1 hb24; clear hp
  have hF26 := hF23.reval (d := 10) (c := []) (v := .bool (decide ((u0.length : Int) ≥ (u1.length : Int)))) (by kernel_rfl) (.bool true) (by rw [hb24]); clear hF23
  have hF27 := hF26.setc (d := 11) (c := [0]) (v := str u0) (by kernel_rfl) (v' := str u0) (by rw [hb24]; kernel_rfl); clear hF26
  have hF28 := hF27.setc (d := 12) (c := [0]) (v := str u1) (by kernel_rfl) (v' := str u1) (by rw [hb24]; kernel_rfl); clear hF27
  have hF29 := hF28.setc (d := 13) (c := [0]) (v := .int .i64 (u1.length : Int)) (by kernel_rfl) (v' := .int .i64 (u1.length : Int)) (by rw [hb24]; kernel_rfl); clear hF28
  have hc30 := hp25.1; have hp31 := hp25.2; clear hp25
  refine st hF29 (str (u0.take (u1.length : Int).toNat)) (by rw [wanted_of hF29 (b := true) rfl rfl (by kernel_rfl) (by kernel_rfl)]; rfl) rfl (by kernel_rfl) (strslH_run hF29 (g := []) (k := .i64) rfl (by kernel_rfl) (by kernel_rfl) (by kernel_rfl) hc30 rfl) ?_; intro a32 hF33; clear hF29
  refine st hF33 (str u1) (by rw [wanted_of hF33 (b := true) rfl rfl (by kernel_rfl) (by kernel_rfl)]; rfl) rfl (by kernel_rfl) (p0 hF33 (by kernel_rfl)) ?_; intro a34 hF35; clear hF33
  refine st hF35 (.bool ((u0.take (u1.length : Int).toNat) == u1)) (by rw [wanted_of hF35 (b := true) rfl rfl (by kernel_rfl) (by kernel_rfl)]; rfl) rfl (by kernel_rfl) (strcmp_run hF35 (g := []) (op := .eql) rfl (by kernel_rfl) (by kernel_rfl) (by decide) rfl) ?_; intro a36 hF37; clear hF35
  refine s1 hF37 17 (.bool ((u0.take (u1.length : Int).toNat) == u1)) ?_; intro a38 hF39; clear hF37
  refine s1 hF39 4 (.bool ((u0.take (u1.length : Int).toNat) == u1)) ?_; intro a40 hF41; clear hF39
  refine nlH (hQ4 _ _ ?_); clear hQ4 hQ4Q
  refine wp_ret ?_
  refine rt (fn := Tryd.f49) (v := .bool ((u0.take (u1.length : Int).toNat) == u1)) hF41 (re1 hF41 (fn := Tryd.f49) rfl (by kernel_rfl)) ?_
  exact ⟨(u0.take (u1.length : Int).toNat) == u1, rfl, hp31, hM0.below⟩
 · -- false
  have hp42 := hp.2 hb24; clear hp
  have hF43 := hF23.reval (d := 10) (c := []) (v := .bool (decide ((u0.length : Int) ≥ (u1.length : Int)))) (by kernel_rfl) (.bool false) (by rw [hb24]); clear hF23
  have hF44 := hF43.setc (d := 11) (c := [0]) (v := str u0) (by kernel_rfl) (v' := undef) (by rw [hb24]; kernel_rfl); clear hF43
  have hF45 := hF44.setc (d := 12) (c := [0]) (v := str u1) (by kernel_rfl) (v' := undef) (by rw [hb24]; kernel_rfl); clear hF44
  have hF46 := hF45.setc (d := 13) (c := [0]) (v := .int .i64 (u1.length : Int)) (by kernel_rfl) (v' := undef) (by rw [hb24]; kernel_rfl); clear hF45
  refine sk hF46 (b := false) rfl rfl (by kernel_rfl) (by kernel_rfl) rfl rfl (by kernel_rfl) ?_; intro a47 hF48; clear hF46
  refine sk hF48 (b := false) rfl rfl (by kernel_rfl) (by kernel_rfl) rfl rfl (by kernel_rfl) ?_; intro a49 hF50; clear hF48
  refine sk hF50 (b := false) rfl rfl (by kernel_rfl) (by kernel_rfl) rfl rfl (by kernel_rfl) ?_; intro a51 hF52; clear hF50
  refine s1 hF52 17 (.bool false) ?_; intro a53 hF54; clear hF52
  refine s1 hF54 4 (.bool false) ?_; intro a55 hF56; clear hF54
  refine nlH (hQ4 _ _ ?_); clear hQ4 hQ4Q
  refine wp_ret ?_
  refine rt (fn := Tryd.f49) (v := .bool false) hF56 (re1 hF56 (fn := Tryd.f49) rfl (by kernel_rfl)) ?_
  exact ⟨false, rfl, hp42, hM0.below⟩
theorem hasprefix0_fun (u0 : List UInt8) (u1 : List UInt8)  (Z : Fz) (w : World)  (hZ : Z.on w) : Calls Tryd.prog 49 #[str u0, str u1] w fun e w' => e = .returned (.bool (hasprefix0 u0 u1)) ∧ Below w.heap.size w w' :=
  (hasprefix0_walk u0 u1  Z w  hZ (hasprefix0_ok u0 u1)).mono fun _ _ ⟨r, he, hk, hb⟩ => ⟨by subst hk; exact he, hb⟩

set_option maxRecDepth 100000 in
set_option maxHeartbeats 0 in
theorem hasprefix_walk (u0 : List UInt8) (u1 : List UInt8)  (Z : Fz) (w : World)  (hZ : Z.on w) {K : Bool → Prop} (hp : hasprefix_vc u0 u1 K) : Calls Tryd.prog 29 #[str u0, str u1] w fun e w' => ∃ r : Bool, e = .returned (.bool r) ∧ K r ∧ Below w.heap.size w w' := by
 refine enter0 Tryd.func29 rfl rfl (by kernel_rfl) ?_; intro a0 hF0; have hM0 := Mem.start w Z hZ; have hle0 := Fz.le.refl Z
 refine sqH ?_; intro hQ1Q hQ1
 refine s1 hF0 4 (.bool false) ?_; intro a2 hF3; clear hF0
 refine nlH (hQ1 _ _ ?_); clear hQ1 hQ1Q
 refine sqH ?_; intro hQ4Q hQ4
 refine s1 hF3 5 (str u0) ?_; intro a5 hF6; clear hF3
 refine s1 hF6 6 (str u1) ?_; intro a7 hF8; clear hF6
 refine fcl hF8 hM0 (.bool (hasprefix0 u0 u1)) 49 #[str u0, str u1] (nog rfl _) rfl (by kernel_rfl) (fun _ => by kernel_rfl) (hasprefix0_fun u0 u1 _ _ hM0.fz) ?_; intro a9 wd11 hF10 hM12; clear hF8 hM0
 refine s1 hF10 4 (.bool (hasprefix0 u0 u1)) ?_; intro a13 hF14; clear hF10
 refine nlH (hQ4 _ _ ?_); clear hQ4 hQ4Q
 refine wp_ret ?_
 refine rt (fn := Tryd.f29) (v := .bool (hasprefix0 u0 u1)) hF14 (re1 hF14 (fn := Tryd.f29) rfl (by kernel_rfl)) ?_
 exact ⟨(hasprefix0 u0 u1), rfl, hp, hM12.below⟩
theorem hasprefix_fun (u0 : List UInt8) (u1 : List UInt8)  (Z : Fz) (w : World)  (hZ : Z.on w) : Calls Tryd.prog 29 #[str u0, str u1] w fun e w' => e = .returned (.bool (hasprefix u0 u1)) ∧ Below w.heap.size w w' :=
  (hasprefix_walk u0 u1  Z w  hZ (hasprefix_ok u0 u1)).mono fun _ _ ⟨r, he, hk, hb⟩ => ⟨by subst hk; exact he, hb⟩

set_option maxRecDepth 100000 in
set_option maxHeartbeats 0 in
theorem bcheck_walk (u0 : List UInt8)  (Z : Fz) (w : World)  (hZ : Z.on w) {K : Int → Prop} (hp : bcheck_vc u0 K) : Calls Tryd.prog 22 #[str u0] w fun e w' => ∃ r : Int, e = .returned (.int .i64 r) ∧ K r ∧ Below w.heap.size w w' := by
 refine enter0 Tryd.func22 rfl rfl (by kernel_rfl) ?_; intro a0 hF0; have hM0 := Mem.start w Z hZ; have hle0 := Fz.le.refl Z
 refine sqH ?_; intro hQ1Q hQ1
 refine s1 hF0 2 (.int .i64 0) ?_; intro a2 hF3; clear hF0
 refine nlH (hQ1 _ _ ?_); clear hQ1 hQ1Q
 refine wp_seq ?_
 refine sqH ?_; intro hQ4Q hQ4
 refine s1 hF3 3 (str u0) ?_; intro a5 hF6; clear hF3
 refine s1 hF6 4 (.int .i64 (u0.length : Int)) ?_; intro a7 hF8; clear hF6
 refine s1 hF8 5 (.bool (decide ((u0.length : Int) > 1000))) ?_; intro a9 hF10; clear hF8
 refine nlH (hQ4 _ _ ?_); clear hQ4 hQ4Q
 refine cd hF10 (t := decide ((u0.length : Int) > 1000)) (by kernel_rfl) (fun hb11 => ?_) (fun hb11 => ?_)
 · -- yes
  have hp12 := hp.1 hb11; clear hp
  refine sqH ?_; intro hQ13Q hQ13
  refine s1 hF10 2 (.int .i64 2) ?_; intro a14 hF15; clear hF10
  refine nlH (hQ13 _ _ ?_); clear hQ13 hQ13Q
  refine wp_ret ?_
  refine thr ?_
  refine rt (fn := Tryd.f22) (v := .int .i64 2) hF15 (re1 hF15 (fn := Tryd.f22) rfl (by kernel_rfl)) ?_
  exact ⟨2, rfl, hp12, hM0.below⟩
 · -- no
  have hp16 := hp.2 hb11; clear hp
  refine wp_skip ?_
  refine thn ?_
  refine wp_seq ?_
  refine sqH ?_; intro hQ17Q hQ17
  refine s1 hF10 6 (str u0) ?_; intro a18 hF19; clear hF10
  have hc20 := hp16.1; have hp21 := hp16.2; clear hp16
  refine fcl hF19 hM0 (str (trimS u0 ([48, 49] : List UInt8))) 43 #[str u0, str ([48, 49] : List UInt8)] (nog rfl _) rfl (by kernel_rfl) (fun _ => by kernel_rfl) (trim_fun u0 ([48, 49] : List UInt8) hc20 _ _ hM0.fz) ?_; intro a22 wd24 hF23 hM25; clear hF19 hM0
  refine st hF23 (.bool ((trimS u0 ([48, 49] : List UInt8)) != [])) (nog rfl _) rfl (by kernel_rfl) (strcmp_run hF23 (g := []) (op := .neq) rfl (by kernel_rfl) (by kernel_rfl) (by decide) rfl) ?_; intro a26 hF27; clear hF23
  refine nlH (hQ17 _ _ ?_); clear hQ17 hQ17Q
  refine cd hF27 (t := (trimS u0 ([48, 49] : List UInt8)) != []) (by kernel_rfl) (fun hb28 => ?_) (fun hb28 => ?_)
  · -- yes
   have hp29 := hp21.1 hb28; clear hp21
   refine sqH ?_; intro hQ30Q hQ30
   refine s1 hF27 2 (.int .i64 4) ?_; intro a31 hF32; clear hF27
   refine nlH (hQ30 _ _ ?_); clear hQ30 hQ30Q
   refine wp_ret ?_
   refine thr ?_
   refine rt (fn := Tryd.f22) (v := .int .i64 4) hF32 (re1 hF32 (fn := Tryd.f22) rfl (by kernel_rfl)) ?_
   exact ⟨4, rfl, hp29, hM25.below⟩
  · -- no
   have hp33 := hp21.2 hb28; clear hp21
   refine wp_skip ?_
   refine thn ?_
   refine sqH ?_; intro hQ34Q hQ34
   refine s1 hF27 2 (.int .i64 0) ?_; intro a35 hF36; clear hF27
   refine nlH (hQ34 _ _ ?_); clear hQ34 hQ34Q
   refine wp_ret ?_
   refine rt (fn := Tryd.f22) (v := .int .i64 0) hF36 (re1 hF36 (fn := Tryd.f22) rfl (by kernel_rfl)) ?_
   exact ⟨0, rfl, hp33, hM25.below⟩

set_option maxRecDepth 100000 in
set_option maxHeartbeats 0 in
theorem rcheckrow_walk (u0 : List UInt8)  (Z : Fz) (w : World)  (hZ : Z.on w) {K : Int → Prop} (hp : rcheckrow_vc u0 K) : Calls Tryd.prog 21 #[str u0] w fun e w' => ∃ r : Int, e = .returned (.int .i64 r) ∧ K r ∧ Below w.heap.size w w' := by
 refine enter0 Tryd.func21 rfl rfl (by kernel_rfl) ?_; intro a0 hF0; have hM0 := Mem.start w Z hZ; have hle0 := Fz.le.refl Z
 refine sqH ?_; intro hQ1Q hQ1
 refine s1 hF0 2 (.int .i64 0) ?_; intro a2 hF3; clear hF0
 refine nlH (hQ1 _ _ ?_); clear hQ1 hQ1Q
 refine wp_seq ?_
 refine sqH ?_; intro hQ4Q hQ4
 refine s1 hF3 3 (str u0) ?_; intro a5 hF6; clear hF3
 refine s1 hF6 4 (.int .i64 (u0.length : Int)) ?_; intro a7 hF8; clear hF6
 refine s1 hF8 5 (.bool (decide ((u0.length : Int) > 1000))) ?_; intro a9 hF10; clear hF8
 refine nlH (hQ4 _ _ ?_); clear hQ4 hQ4Q
 refine cd hF10 (t := decide ((u0.length : Int) > 1000)) (by kernel_rfl) (fun hb11 => ?_) (fun hb11 => ?_)
 · -- yes
  have hp12 := hp.1 hb11; clear hp
  refine sqH ?_; intro hQ13Q hQ13
  refine s1 hF10 2 (.int .i64 2) ?_; intro a14 hF15; clear hF10
  refine nlH (hQ13 _ _ ?_); clear hQ13 hQ13Q
  refine wp_ret ?_
  refine thr ?_
  refine rt (fn := Tryd.f21) (v := .int .i64 2) hF15 (re1 hF15 (fn := Tryd.f21) rfl (by kernel_rfl)) ?_
  exact ⟨2, rfl, hp12, hM0.below⟩
 · -- no
  have hp16 := hp.2 hb11; clear hp
  refine wp_skip ?_
  refine thn ?_
  refine wp_seq ?_
  refine sqH ?_; intro hQ17Q hQ17
  refine s1 hF10 6 (str u0) ?_; intro a18 hF19; clear hF10
  have hc20 := hp16.1; have hp21 := hp16.2; clear hp16
  refine fcl hF19 hM0 (.int .i64 (count1S u0 ([48] : List UInt8))) 42 #[str u0, str ([48] : List UInt8)] (nog rfl _) rfl (by kernel_rfl) (fun _ => by kernel_rfl) (count1_fun u0 ([48] : List UInt8) hc20 _ _ hM0.fz) ?_; intro a22 wd24 hF23 hM25; clear hF19 hM0
  refine s1 hF23 8 (str u0) ?_; intro a26 hF27; clear hF23
  have hc28 := hp21.1; have hp29 := hp21.2; clear hp21
  refine fcl hF27 hM25 (.int .i64 (count1S u0 ([49] : List UInt8))) 42 #[str u0, str ([49] : List UInt8)] (nog rfl _) rfl (by kernel_rfl) (fun _ => by kernel_rfl) (count1_fun u0 ([49] : List UInt8) hc28 _ _ hM25.fz) ?_; intro a30 wd32 hF31 hM33; clear hF27 hM25
  refine s1 hF31 10 (.int .i64 (w64 ((count1S u0 ([48] : List UInt8)) + (count1S u0 ([49] : List UInt8))))) ?_; intro a34 hF35; clear hF31
  refine s1 hF35 11 (str u0) ?_; intro a36 hF37; clear hF35
  refine s1 hF37 12 (.int .i64 (u0.length : Int)) ?_; intro a38 hF39; clear hF37
  refine s1 hF39 13 (.bool ((w64 ((count1S u0 ([48] : List UInt8)) + (count1S u0 ([49] : List UInt8)))) != (u0.length : Int))) ?_; intro a40 hF41; clear hF39
  refine nlH (hQ17 _ _ ?_); clear hQ17 hQ17Q
  refine cd hF41 (t := (w64 ((count1S u0 ([48] : List UInt8)) + (count1S u0 ([49] : List UInt8)))) != (u0.length : Int)) (by kernel_rfl) (fun hb42 => ?_) (fun hb42 => ?_)
  · -- yes
   have hp43 := hp29.1 hb42; clear hp29
   refine sqH ?_; intro hQ44Q hQ44
   refine s1 hF41 2 (.int .i64 4) ?_; intro a45 hF46; clear hF41
   refine nlH (hQ44 _ _ ?_); clear hQ44 hQ44Q
   refine wp_ret ?_
   refine thr ?_
   refine rt (fn := Tryd.f21) (v := .int .i64 4) hF46 (re1 hF46 (fn := Tryd.f21) rfl (by kernel_rfl)) ?_
   exact ⟨4, rfl, hp43, hM33.below⟩
  · -- no
   have hp47 := hp29.2 hb42; clear hp29
   refine wp_skip ?_
   refine thn ?_
   refine sqH ?_; intro hQ48Q hQ48
   refine s1 hF41 2 (.int .i64 0) ?_; intro a49 hF50; clear hF41
   refine nlH (hQ48 _ _ ?_); clear hQ48 hQ48Q
   refine wp_ret ?_
   refine rt (fn := Tryd.f21) (v := .int .i64 0) hF50 (re1 hF50 (fn := Tryd.f21) rfl (by kernel_rfl)) ?_
   exact ⟨0, rfl, hp47, hM33.below⟩

set_option maxRecDepth 100000 in
set_option maxHeartbeats 0 in
theorem rsame_walk (u0 : List UInt8)  (Z : Fz) (w : World)  (hZ : Z.on w) {K : Bool → Prop} (hp : rsame_vc u0 K) : Calls Tryd.prog 52 #[str u0] w fun e w' => ∃ r : Bool, e = .returned (.bool r) ∧ K r ∧ Below w.heap.size w w' := by
 refine enter0 Tryd.func52 rfl rfl (by kernel_rfl) ?_; intro a0 hF0; have hM0 := Mem.start w Z hZ; have hle0 := Fz.le.refl Z
 refine sqH ?_; intro hQ1Q hQ1
 refine s1 hF0 2 (.bool false) ?_; intro a2 hF3; clear hF0
 refine nlH (hQ1 _ _ ?_); clear hQ1 hQ1Q
 refine sqH ?_; intro hQ4Q hQ4
 refine s1 hF3 3 (str u0) ?_; intro a5 hF6; clear hF3
 refine s1 hF6 4 (str u0) ?_; intro a7 hF8; clear hF6
 have hc9 := hp.1; have hp10 := hp.2; clear hp
 refine st hF8 (str (u0.take (1 : Int).toNat)) (nog rfl _) rfl (by kernel_rfl) (strslH_run hF8 (g := []) (k := .i64) rfl (by kernel_rfl) (by kernel_rfl) (by kernel_rfl) hc9 rfl) ?_; intro a11 hF12; clear hF8
 have hc13 := hp10.1; have hp14 := hp10.2; clear hp10
 refine fcl hF12 hM0 (.int .i64 (count1S u0 (u0.take (1 : Int).toNat))) 42 #[str u0, str (u0.take (1 : Int).toNat)] (nog rfl _) rfl (by kernel_rfl) (fun _ => by kernel_rfl) (count1_fun u0 (u0.take (1 : Int).toNat) hc13 _ _ hM0.fz) ?_; intro a15 wd17 hF16 hM18; clear hF12 hM0
 refine s1 hF16 7 (str u0) ?_; intro a19 hF20; clear hF16
 refine s1 hF20 8 (.int .i64 (u0.length : Int)) ?_; intro a21 hF22; clear hF20
 refine s1 hF22 9 (.bool ((count1S u0 (u0.take (1 : Int).toNat)) == (u0.length : Int))) ?_; intro a23 hF24; clear hF22
 refine s1 hF24 2 (.bool ((count1S u0 (u0.take (1 : Int).toNat)) == (u0.length : Int))) ?_; intro a25 hF26; clear hF24
 refine nlH (hQ4 _ _ ?_); clear hQ4 hQ4Q
 refine wp_ret ?_
 refine rt (fn := Tryd.f52) (v := .bool ((count1S u0 (u0.take (1 : Int).toNat)) == (u0.length : Int))) hF26 (re1 hF26 (fn := Tryd.f52) rfl (by kernel_rfl)) ?_
 exact ⟨(count1S u0 (u0.take (1 : Int).toNat)) == (u0.length : Int), rfl, hp14, hM18.below⟩

set_option maxRecDepth 100000 in
set_option maxHeartbeats 0 in
theorem cnext_walk (u0 : Counter) (u1 : Int) (b1 : Nat) (B : Nat) (w0 : World) (Z0 : Fz) (Rr : List Res) (Z : Fz) (w : World) (hM0 : Mem B [] w0 Z0 ((.row b1 [.int .u8 u0.last, .int .i64 u0.n] 78) :: Rr) Z w) (hZ : Z.on w) {K : (Int × Bool × Counter) → Prop} (hp : cnext_vc u0 u1 K) : Calls Tryd.prog 50 #[.pointer (some ⟨b1, 0, none⟩), .int .u8 u1] w fun e w' => ∃ (r : Int × Bool × Counter) (Z' : Fz), e = .returned (.tuple #[.int .u8 r.1, .bool r.2.1]) ∧ K r ∧ Fz.le Z Z' ∧ Mem B [] w0 Z0 ((.row b1 [.int .u8 r.2.2.last, .int .i64 r.2.2.n] 78) :: Rr) Z' w' := by
 refine enter0 Tryd.func50 rfl rfl (by kernel_rfl) ?_; intro a0 hF0; have hle0 := Fz.le.refl Z
 refine sqH ?_; intro hQ2Q hQ2
 refine s1 hF0 4 (.int .u8 0) ?_; intro a3 hF4; clear hF0
 refine s1 hF4 5 (.bool false) ?_; intro a5 hF6; clear hF4
 refine nlH (hQ2 _ _ ?_); clear hQ2 hQ2Q
 refine wp_seq ?_
 refine sqH ?_; intro hQ7Q hQ7
 refine s1 hF6 6 (.int .u8 u1) ?_; intro a8 hF9; clear hF6
 refine s1 hF9 7 (.pointer (some ⟨b1, 0, none⟩)) ?_; intro a10 hF11; clear hF9
 refine s1 hF11 8 (.pointer (some ⟨b1, 0, none⟩)) ?_; intro a12 hF13; clear hF11
 refine s1 hF13 9 (.pointer (some ⟨b1, 0, none⟩)) ?_; intro a14 hF15; clear hF13
 refine l1 hF15 hM0 10 0 0 (.int .u8 u0.last) rfl rfl ?_; intro a16 hF17; clear hF15
 refine s1 hF17 11 (.bool (u1 == u0.last)) ?_; intro a18 hF19; clear hF17
 refine nlH (hQ7 _ _ ?_); clear hQ7 hQ7Q
 refine cd hF19 (t := u1 == u0.last) (by kernel_rfl) (fun hb20 => ?_) (fun hb20 => ?_)
 · -- yes
  have hp21 := hp.1 hb20; clear hp
  refine rgH ?_; intro hQ22Q hQ22
  refine s1 hF19 12 (.pointer (some ⟨b1, 0, none⟩)) ?_; intro a23 hF24; clear hF19
  refine s1 hF24 13 (.pointer (some ⟨b1, 0, none⟩)) ?_; intro a25 hF26; clear hF24
  refine s1 hF26 14 (.pointer (some ⟨b1, 1, none⟩)) ?_; intro a27 hF28; clear hF26
  refine l1 hF28 hM0 15 0 1 (.int .i64 u0.n) rfl rfl ?_; intro a29 hF30; clear hF28
  refine s1 hF30 16 (.int .i64 (w64 (u0.n + 1))) ?_; intro a31 hF32; clear hF30
  refine s1 hF32 17 (.pointer (some ⟨b1, 0, none⟩)) ?_; intro a33 hF34; clear hF32
  refine s1 hF34 18 (.pointer (some ⟨b1, 1, none⟩)) ?_; intro a35 hF36; clear hF34
  refine sr hF36 hM0 0 [.int .u8 u0.last, .int .i64 (w64 (u0.n + 1))] (b := b1) (off := 1) (cs := [.int .u8 u0.last, .int .i64 u0.n]) (ty := 78) (u := .int .i64 (w64 (u0.n + 1))) (nog rfl _) rfl rfl (by kernel_rfl) (by kernel_rfl) (by kernel_rfl) (by kernel_rfl) (by kernel_rfl) (by kernel_rfl) (by kernel_rfl) ?_; intro wd37 hM38; clear hM0
  have hM39 : Mem B [] w0 Z0 ((.row b1 [.int .u8 u0.last, .int .i64 (w64 (u0.n + 1))] 78) :: Rr) Z wd37 := hM38; clear hM38
  refine nlH (hQ22 _ _ ?_); clear hQ22 hQ22Q
  refine thn ?_
  have hF40 : Fr 33 [] [⟨0, [], .pointer (some ⟨b1, 0, none⟩)⟩, ⟨1, [], .int .u8 u1⟩] a35 := hF36.region (by kernel_rfl) (by kernel_rfl); clear hF36
  refine sqQH mixed (by kernel_rfl) hM39 ?_; intro hQ41Q hQ41
  refine q1 hF40 26 (.int .u8 u1) ?_; intro a43 hF44; clear hF40
  refine q1 hF44 27 (.int .u8 (w8 (97 - u1))) ?_; intro a46 hF47; clear hF44
  refine q1 hF47 28 (.pointer (some ⟨b1, 0, none⟩)) ?_; intro a49 hF50; clear hF47
  refine q1 hF50 29 (.pointer (some ⟨b1, 0, none⟩)) ?_; intro a52 hF53; clear hF50
  refine q1 hF53 30 (.pointer (some ⟨b1, 1, none⟩)) ?_; intro a55 hF56; clear hF53
  refine qst hF56 (.int .i64 (w64 (u0.n + 1))) (nog rfl _) rfl (by kernel_rfl) (fun v57 hC => ld hF56 hC 0 (g := []) (b := b1) (off := 1) (cs := [.int .u8 u0.last, .int .i64 (w64 (u0.n + 1))]) (ty := 78) rfl (by kernel_rfl) (by kernel_rfl) (by kernel_rfl) (by kernel_rfl) rfl) ?_; intro a58 hF59; clear hF56
  refine q1 hF59 32 (.bool ((w64 (u0.n + 1)) == 5)) ?_; intro a61 hF62; clear hF59
  refine q1 hF62 4 (.int .u8 (w8 (97 - u1))) ?_; intro a64 hF65; clear hF62
  refine q1 hF65 5 (.bool ((w64 (u0.n + 1)) == 5)) ?_; intro a67 hF68; clear hF65
  refine qnl (hQ41 _ ?_); clear hQ41 hQ41Q; intro wd69 hM70; clear hM39
  refine wp_ret ?_
  refine rt (fn := Tryd.f50) (v := .tuple #[.int .u8 (w8 (97 - u1)), .bool ((w64 (u0.n + 1)) == 5)]) hF68 (re2 hF68 (fn := Tryd.f50) rfl (by kernel_rfl) (by kernel_rfl)) ?_
  exact ⟨(w8 (97 - u1), (w64 (u0.n + 1)) == 5, (⟨u0.last, w64 (u0.n + 1)⟩ : Counter)), Z, rfl, hp21, hle0, hM70.keep (List.Sublist.cons_cons _ (List.Sublist.refl _))⟩
 · -- no
  have hp71 := hp.2 hb20; clear hp
  refine rgH ?_; intro hQ72Q hQ72
  refine s1 hF19 19 (.pointer (some ⟨b1, 0, none⟩)) ?_; intro a73 hF74; clear hF19
  refine s1 hF74 20 (.pointer (some ⟨b1, 0, none⟩)) ?_; intro a75 hF76; clear hF74
  refine s1 hF76 21 (.int .u8 u1) ?_; intro a77 hF78; clear hF76
  refine s1 hF78 22 (.pointer (some ⟨b1, 0, none⟩)) ?_; intro a79 hF80; clear hF78
  refine s1 hF80 23 (.pointer (some ⟨b1, 0, none⟩)) ?_; intro a81 hF82; clear hF80
  refine sr hF82 hM0 0 [.int .u8 u1, .int .i64 u0.n] (b := b1) (off := 0) (cs := [.int .u8 u0.last, .int .i64 u0.n]) (ty := 78) (u := .int .u8 u1) (nog rfl _) rfl rfl (by kernel_rfl) (by kernel_rfl) (by kernel_rfl) (by kernel_rfl) (by kernel_rfl) (by kernel_rfl) (by kernel_rfl) ?_; intro wd83 hM84; clear hM0
  refine s1 hF82 24 (.pointer (some ⟨b1, 0, none⟩)) ?_; intro a85 hF86; clear hF82
  refine s1 hF86 25 (.pointer (some ⟨b1, 1, none⟩)) ?_; intro a87 hF88; clear hF86
  refine sr hF88 hM84 0 [.int .u8 u1, .int .i64 1] (b := b1) (off := 1) (cs := [.int .u8 u1, .int .i64 u0.n]) (ty := 78) (u := .int .i64 1) (nog rfl _) rfl rfl (by kernel_rfl) (by kernel_rfl) (by kernel_rfl) (by kernel_rfl) (by kernel_rfl) (by kernel_rfl) (by kernel_rfl) ?_; intro wd89 hM90; clear hM84
  have hM91 : Mem B [] w0 Z0 ((.row b1 [.int .u8 u1, .int .i64 1] 78) :: Rr) Z wd89 := hM90; clear hM90
  refine nlH (hQ72 _ _ ?_); clear hQ72 hQ72Q
  refine thn ?_
  have hF92 : Fr 33 [] [⟨0, [], .pointer (some ⟨b1, 0, none⟩)⟩, ⟨1, [], .int .u8 u1⟩] a87 := hF88.region (by kernel_rfl) (by kernel_rfl); clear hF88
  refine sqQH mixed (by kernel_rfl) hM91 ?_; intro hQ93Q hQ93
  refine q1 hF92 26 (.int .u8 u1) ?_; intro a95 hF96; clear hF92
  refine q1 hF96 27 (.int .u8 (w8 (97 - u1))) ?_; intro a98 hF99; clear hF96
  refine q1 hF99 28 (.pointer (some ⟨b1, 0, none⟩)) ?_; intro a101 hF102; clear hF99
  refine q1 hF102 29 (.pointer (some ⟨b1, 0, none⟩)) ?_; intro a104 hF105; clear hF102
  refine q1 hF105 30 (.pointer (some ⟨b1, 1, none⟩)) ?_; intro a107 hF108; clear hF105
  refine qst hF108 (.int .i64 1) (nog rfl _) rfl (by kernel_rfl) (fun v109 hC => ld hF108 hC 0 (g := []) (b := b1) (off := 1) (cs := [.int .u8 u1, .int .i64 1]) (ty := 78) rfl (by kernel_rfl) (by kernel_rfl) (by kernel_rfl) (by kernel_rfl) rfl) ?_; intro a110 hF111; clear hF108
  refine q1 hF111 32 (.bool false) ?_; intro a113 hF114; clear hF111
  refine q1 hF114 4 (.int .u8 (w8 (97 - u1))) ?_; intro a116 hF117; clear hF114
  refine q1 hF117 5 (.bool false) ?_; intro a119 hF120; clear hF117
  refine qnl (hQ93 _ ?_); clear hQ93 hQ93Q; intro wd121 hM122; clear hM91
  refine wp_ret ?_
  refine rt (fn := Tryd.f50) (v := .tuple #[.int .u8 (w8 (97 - u1)), .bool false]) hF120 (re2 hF120 (fn := Tryd.f50) rfl (by kernel_rfl) (by kernel_rfl)) ?_
  exact ⟨(w8 (97 - u1), false, (⟨u1, 1⟩ : Counter)), Z, rfl, hp71, hle0, hM122.keep (List.Sublist.cons_cons _ (List.Sublist.refl _))⟩

set_option maxRecDepth 100000 in
set_option maxHeartbeats 0 in
theorem cnextR_walk (u0 : Reader) (u1 : Int) (b1 : Nat) (B : Nat) (w0 : World) (Z0 : Fz) (Rr : List Res) (Z : Fz) (w : World) (hM0 : Mem B [] w0 Z0 ((.row b1 [str u0.Row, .int .i64 u0.At, .int .i64 u0.Code, .int .u8 u0.c.last, .int .i64 u0.c.n] 80) :: Rr) Z w) (hZ : Z.on w) {K : (Int × Bool × Reader) → Prop} (hp : cnextR_vc u0 u1 K) : Calls Tryd.prog 50 #[.pointer (some ⟨b1, 3, none⟩), .int .u8 u1] w fun e w' => ∃ (r : Int × Bool × Reader) (Z' : Fz), e = .returned (.tuple #[.int .u8 r.1, .bool r.2.1]) ∧ K r ∧ Fz.le Z Z' ∧ Mem B [] w0 Z0 ((.row b1 [str r.2.2.Row, .int .i64 r.2.2.At, .int .i64 r.2.2.Code, .int .u8 r.2.2.c.last, .int .i64 r.2.2.c.n] 80) :: Rr) Z' w' := by
 refine enter0 Tryd.func50 rfl rfl (by kernel_rfl) ?_; intro a0 hF0; have hle0 := Fz.le.refl Z
 refine sqH ?_; intro hQ2Q hQ2
 refine s1 hF0 4 (.int .u8 0) ?_; intro a3 hF4; clear hF0
 refine s1 hF4 5 (.bool false) ?_; intro a5 hF6; clear hF4
 refine nlH (hQ2 _ _ ?_); clear hQ2 hQ2Q
 refine wp_seq ?_
 refine sqH ?_; intro hQ7Q hQ7
 refine s1 hF6 6 (.int .u8 u1) ?_; intro a8 hF9; clear hF6
 refine s1 hF9 7 (.pointer (some ⟨b1, 3, none⟩)) ?_; intro a10 hF11; clear hF9
 refine s1 hF11 8 (.pointer (some ⟨b1, 3, none⟩)) ?_; intro a12 hF13; clear hF11
 refine s1 hF13 9 (.pointer (some ⟨b1, 3, none⟩)) ?_; intro a14 hF15; clear hF13
 refine l1 hF15 hM0 10 0 3 (.int .u8 u0.c.last) rfl rfl ?_; intro a16 hF17; clear hF15
 refine s1 hF17 11 (.bool (u1 == u0.c.last)) ?_; intro a18 hF19; clear hF17
 refine nlH (hQ7 _ _ ?_); clear hQ7 hQ7Q
 refine cd hF19 (t := u1 == u0.c.last) (by kernel_rfl) (fun hb20 => ?_) (fun hb20 => ?_)
 · -- yes
  have hp21 := hp.1 hb20; clear hp
  refine rgH ?_; intro hQ22Q hQ22
  refine s1 hF19 12 (.pointer (some ⟨b1, 3, none⟩)) ?_; intro a23 hF24; clear hF19
  refine s1 hF24 13 (.pointer (some ⟨b1, 3, none⟩)) ?_; intro a25 hF26; clear hF24
  refine s1 hF26 14 (.pointer (some ⟨b1, 4, none⟩)) ?_; intro a27 hF28; clear hF26
  refine l1 hF28 hM0 15 0 4 (.int .i64 u0.c.n) rfl rfl ?_; intro a29 hF30; clear hF28
  refine s1 hF30 16 (.int .i64 (w64 (u0.c.n + 1))) ?_; intro a31 hF32; clear hF30
  refine s1 hF32 17 (.pointer (some ⟨b1, 3, none⟩)) ?_; intro a33 hF34; clear hF32
  refine s1 hF34 18 (.pointer (some ⟨b1, 4, none⟩)) ?_; intro a35 hF36; clear hF34
  refine sr hF36 hM0 0 [str u0.Row, .int .i64 u0.At, .int .i64 u0.Code, .int .u8 u0.c.last, .int .i64 (w64 (u0.c.n + 1))] (b := b1) (off := 4) (cs := [str u0.Row, .int .i64 u0.At, .int .i64 u0.Code, .int .u8 u0.c.last, .int .i64 u0.c.n]) (ty := 80) (u := .int .i64 (w64 (u0.c.n + 1))) (nog rfl _) rfl rfl (by kernel_rfl) (by kernel_rfl) (by kernel_rfl) (by kernel_rfl) (by kernel_rfl) (by kernel_rfl) (by kernel_rfl) ?_; intro wd37 hM38; clear hM0
  have hM39 : Mem B [] w0 Z0 ((.row b1 [str u0.Row, .int .i64 u0.At, .int .i64 u0.Code, .int .u8 u0.c.last, .int .i64 (w64 (u0.c.n + 1))] 80) :: Rr) Z wd37 := hM38; clear hM38
  refine nlH (hQ22 _ _ ?_); clear hQ22 hQ22Q
  refine thn ?_
  have hF40 : Fr 33 [] [⟨0, [], .pointer (some ⟨b1, 3, none⟩)⟩, ⟨1, [], .int .u8 u1⟩] a35 := hF36.region (by kernel_rfl) (by kernel_rfl); clear hF36
  refine sqQH mixed (by kernel_rfl) hM39 ?_; intro hQ41Q hQ41
  refine q1 hF40 26 (.int .u8 u1) ?_; intro a43 hF44; clear hF40
  refine q1 hF44 27 (.int .u8 (w8 (97 - u1))) ?_; intro a46 hF47; clear hF44
  refine q1 hF47 28 (.pointer (some ⟨b1, 3, none⟩)) ?_; intro a49 hF50; clear hF47
  refine q1 hF50 29 (.pointer (some ⟨b1, 3, none⟩)) ?_; intro a52 hF53; clear hF50
  refine q1 hF53 30 (.pointer (some ⟨b1, 4, none⟩)) ?_; intro a55 hF56; clear hF53
  refine qst hF56 (.int .i64 (w64 (u0.c.n + 1))) (nog rfl _) rfl (by kernel_rfl) (fun v57 hC => ld hF56 hC 0 (g := []) (b := b1) (off := 4) (cs := [str u0.Row, .int .i64 u0.At, .int .i64 u0.Code, .int .u8 u0.c.last, .int .i64 (w64 (u0.c.n + 1))]) (ty := 80) rfl (by kernel_rfl) (by kernel_rfl) (by kernel_rfl) (by kernel_rfl) rfl) ?_; intro a58 hF59; clear hF56
  refine q1 hF59 32 (.bool ((w64 (u0.c.n + 1)) == 5)) ?_; intro a61 hF62; clear hF59
  refine q1 hF62 4 (.int .u8 (w8 (97 - u1))) ?_; intro a64 hF65; clear hF62
  refine q1 hF65 5 (.bool ((w64 (u0.c.n + 1)) == 5)) ?_; intro a67 hF68; clear hF65
  refine qnl (hQ41 _ ?_); clear hQ41 hQ41Q; intro wd69 hM70; clear hM39
  refine wp_ret ?_
  refine rt (fn := Tryd.f50) (v := .tuple #[.int .u8 (w8 (97 - u1)), .bool ((w64 (u0.c.n + 1)) == 5)]) hF68 (re2 hF68 (fn := Tryd.f50) rfl (by kernel_rfl) (by kernel_rfl)) ?_
  exact ⟨(w8 (97 - u1), (w64 (u0.c.n + 1)) == 5, (⟨u0.Row, u0.At, u0.Code, (⟨u0.c.last, w64 (u0.c.n + 1)⟩ : Counter)⟩ : Reader)), Z, rfl, hp21, hle0, hM70.keep (List.Sublist.cons_cons _ (List.Sublist.refl _))⟩
 · -- no
  have hp71 := hp.2 hb20; clear hp
  refine rgH ?_; intro hQ72Q hQ72
  refine s1 hF19 19 (.pointer (some ⟨b1, 3, none⟩)) ?_; intro a73 hF74; clear hF19
  refine s1 hF74 20 (.pointer (some ⟨b1, 3, none⟩)) ?_; intro a75 hF76; clear hF74
  refine s1 hF76 21 (.int .u8 u1) ?_; intro a77 hF78; clear hF76
  refine s1 hF78 22 (.pointer (some ⟨b1, 3, none⟩)) ?_; intro a79 hF80; clear hF78
  refine s1 hF80 23 (.pointer (some ⟨b1, 3, none⟩)) ?_; intro a81 hF82; clear hF80
  refine sr hF82 hM0 0 [str u0.Row, .int .i64 u0.At, .int .i64 u0.Code, .int .u8 u1, .int .i64 u0.c.n] (b := b1) (off := 3) (cs := [str u0.Row, .int .i64 u0.At, .int .i64 u0.Code, .int .u8 u0.c.last, .int .i64 u0.c.n]) (ty := 80) (u := .int .u8 u1) (nog rfl _) rfl rfl (by kernel_rfl) (by kernel_rfl) (by kernel_rfl) (by kernel_rfl) (by kernel_rfl) (by kernel_rfl) (by kernel_rfl) ?_; intro wd83 hM84; clear hM0
  refine s1 hF82 24 (.pointer (some ⟨b1, 3, none⟩)) ?_; intro a85 hF86; clear hF82
  refine s1 hF86 25 (.pointer (some ⟨b1, 4, none⟩)) ?_; intro a87 hF88; clear hF86
  refine sr hF88 hM84 0 [str u0.Row, .int .i64 u0.At, .int .i64 u0.Code, .int .u8 u1, .int .i64 1] (b := b1) (off := 4) (cs := [str u0.Row, .int .i64 u0.At, .int .i64 u0.Code, .int .u8 u1, .int .i64 u0.c.n]) (ty := 80) (u := .int .i64 1) (nog rfl _) rfl rfl (by kernel_rfl) (by kernel_rfl) (by kernel_rfl) (by kernel_rfl) (by kernel_rfl) (by kernel_rfl) (by kernel_rfl) ?_; intro wd89 hM90; clear hM84
  have hM91 : Mem B [] w0 Z0 ((.row b1 [str u0.Row, .int .i64 u0.At, .int .i64 u0.Code, .int .u8 u1, .int .i64 1] 80) :: Rr) Z wd89 := hM90; clear hM90
  refine nlH (hQ72 _ _ ?_); clear hQ72 hQ72Q
  refine thn ?_
  have hF92 : Fr 33 [] [⟨0, [], .pointer (some ⟨b1, 3, none⟩)⟩, ⟨1, [], .int .u8 u1⟩] a87 := hF88.region (by kernel_rfl) (by kernel_rfl); clear hF88
  refine sqQH mixed (by kernel_rfl) hM91 ?_; intro hQ93Q hQ93
  refine q1 hF92 26 (.int .u8 u1) ?_; intro a95 hF96; clear hF92
  refine q1 hF96 27 (.int .u8 (w8 (97 - u1))) ?_; intro a98 hF99; clear hF96
  refine q1 hF99 28 (.pointer (some ⟨b1, 3, none⟩)) ?_; intro a101 hF102; clear hF99
  refine q1 hF102 29 (.pointer (some ⟨b1, 3, none⟩)) ?_; intro a104 hF105; clear hF102
  refine q1 hF105 30 (.pointer (some ⟨b1, 4, none⟩)) ?_; intro a107 hF108; clear hF105
  refine qst hF108 (.int .i64 1) (nog rfl _) rfl (by kernel_rfl) (fun v109 hC => ld hF108 hC 0 (g := []) (b := b1) (off := 4) (cs := [str u0.Row, .int .i64 u0.At, .int .i64 u0.Code, .int .u8 u1, .int .i64 1]) (ty := 80) rfl (by kernel_rfl) (by kernel_rfl) (by kernel_rfl) (by kernel_rfl) rfl) ?_; intro a110 hF111; clear hF108
  refine q1 hF111 32 (.bool false) ?_; intro a113 hF114; clear hF111
  refine q1 hF114 4 (.int .u8 (w8 (97 - u1))) ?_; intro a116 hF117; clear hF114
  refine q1 hF117 5 (.bool false) ?_; intro a119 hF120; clear hF117
  refine qnl (hQ93 _ ?_); clear hQ93 hQ93Q; intro wd121 hM122; clear hM91
  refine wp_ret ?_
  refine rt (fn := Tryd.f50) (v := .tuple #[.int .u8 (w8 (97 - u1)), .bool false]) hF120 (re2 hF120 (fn := Tryd.f50) rfl (by kernel_rfl) (by kernel_rfl)) ?_
  exact ⟨(w8 (97 - u1), false, (⟨u0.Row, u0.At, u0.Code, (⟨u1, 1⟩ : Counter)⟩ : Reader)), Z, rfl, hp71, hle0, hM122.keep (List.Sublist.cons_cons _ (List.Sublist.refl _))⟩

set_option maxRecDepth 100000 in
set_option maxHeartbeats 0 in
theorem rbit_walk (u0 : Reader) (b1 : Nat) (B : Nat) (w0 : World) (Z0 : Fz) (Rr : List Res) (Z : Fz) (w : World) (hM0 : Mem B [] w0 Z0 ((.row b1 [str u0.Row, .int .i64 u0.At, .int .i64 u0.Code, .int .u8 u0.c.last, .int .i64 u0.c.n] 80) :: Rr) Z w) (hZ : Z.on w) {K : (Int × Reader) → Prop} (hp : rbit_vc u0 K) : Calls Tryd.prog 77 #[.pointer (some ⟨b1, 0, none⟩)] w fun e w' => ∃ (r : Int × Reader) (Z' : Fz), e = .returned (.int .u8 r.1) ∧ K r ∧ Fz.le Z Z' ∧ Mem B [] w0 Z0 ((.row b1 [str r.2.Row, .int .i64 r.2.At, .int .i64 r.2.Code, .int .u8 r.2.c.last, .int .i64 r.2.c.n] 80) :: Rr) Z' w' := by
 refine enter0 Tryd.func77 rfl rfl (by kernel_rfl) ?_; intro a0 hF0; have hle0 := Fz.le.refl Z
 refine sqH ?_; intro hQ2Q hQ2
 refine s1 hF0 2 (.int .u8 0) ?_; intro a3 hF4; clear hF0
 refine nlH (hQ2 _ _ ?_); clear hQ2 hQ2Q
 refine wp_seq ?_
 refine sqH ?_; intro hQ5Q hQ5
 refine s1 hF4 3 (.pointer (some ⟨b1, 0, none⟩)) ?_; intro a6 hF7; clear hF4
 refine s1 hF7 4 (.pointer (some ⟨b1, 0, none⟩)) ?_; intro a8 hF9; clear hF7
 refine s1 hF9 5 (.pointer (some ⟨b1, 2, none⟩)) ?_; intro a10 hF11; clear hF9
 refine l1 hF11 hM0 6 0 2 (.int .i64 u0.Code) rfl rfl ?_; intro a12 hF13; clear hF11
 refine s1 hF13 7 (.bool (u0.Code != 0)) ?_; intro a14 hF15; clear hF13
 refine nlH (hQ5 _ _ ?_); clear hQ5 hQ5Q
 refine cd hF15 (t := u0.Code != 0) (by kernel_rfl) (fun hb16 => ?_) (fun hb16 => ?_)
 · -- yes
  have hp17 := hp.1 hb16; clear hp
  refine sqH ?_; intro hQ18Q hQ18
  refine s1 hF15 2 (.int .u8 48) ?_; intro a19 hF20; clear hF15
  refine nlH (hQ18 _ _ ?_); clear hQ18 hQ18Q
  refine wp_ret ?_
  refine thr ?_
  refine rt (fn := Tryd.f77) (v := .int .u8 48) hF20 (re1 hF20 (fn := Tryd.f77) rfl (by kernel_rfl)) ?_
  exact ⟨(48, u0), Z, rfl, hp17, hle0, hM0.keep (List.Sublist.cons_cons _ (List.Sublist.refl _))⟩
 · -- no
  have hp21 := hp.2 hb16; clear hp
  refine wp_skip ?_
  refine thn ?_
  refine wp_seq ?_
  have hF22 : Fr 38 [] [⟨0, [], .pointer (some ⟨b1, 0, none⟩)⟩] a14 := hF15.region (by kernel_rfl) (by kernel_rfl); clear hF15
  refine sqQH mixed (by kernel_rfl) hM0 ?_; intro hQ23Q hQ23
  refine q1 hF22 8 (.pointer (some ⟨b1, 0, none⟩)) ?_; intro a25 hF26; clear hF22
  refine q1 hF26 9 (.pointer (some ⟨b1, 0, none⟩)) ?_; intro a28 hF29; clear hF26
  refine q1 hF29 10 (.pointer (some ⟨b1, 1, none⟩)) ?_; intro a31 hF32; clear hF29
  refine qst hF32 (.int .i64 u0.At) (nog rfl _) rfl (by kernel_rfl) (fun v33 hC => ld hF32 hC 0 (g := []) (b := b1) (off := 1) (cs := [str u0.Row, .int .i64 u0.At, .int .i64 u0.Code, .int .u8 u0.c.last, .int .i64 u0.c.n]) (ty := 80) rfl (by kernel_rfl) (by kernel_rfl) (by kernel_rfl) (by kernel_rfl) rfl) ?_; intro a34 hF35; clear hF32
  refine q1 hF35 12 (.pointer (some ⟨b1, 0, none⟩)) ?_; intro a37 hF38; clear hF35
  refine q1 hF38 13 (.pointer (some ⟨b1, 0, none⟩)) ?_; intro a40 hF41; clear hF38
  refine q1 hF41 14 (.pointer (some ⟨b1, 0, none⟩)) ?_; intro a43 hF44; clear hF41
  refine qst hF44 (str u0.Row) (nog rfl _) rfl (by kernel_rfl) (fun v45 hC => ld hF44 hC 0 (g := []) (b := b1) (off := 0) (cs := [str u0.Row, .int .i64 u0.At, .int .i64 u0.Code, .int .u8 u0.c.last, .int .i64 u0.c.n]) (ty := 80) rfl (by kernel_rfl) (by kernel_rfl) (by kernel_rfl) (by kernel_rfl) rfl) ?_; intro a46 hF47; clear hF44
  refine q1 hF47 16 (.int .i64 (u0.Row.length : Int)) ?_; intro a49 hF50; clear hF47
  refine q1 hF50 17 (.bool (u0.At == (u0.Row.length : Int))) ?_; intro a52 hF53; clear hF50
  refine qnl (hQ23 _ ?_); clear hQ23 hQ23Q; intro wd54 hM55; clear hM0
  refine cd hF53 (t := u0.At == (u0.Row.length : Int)) (by kernel_rfl) (fun hb56 => ?_) (fun hb56 => ?_)
  · -- yes
   have hp57 := hp21.1 hb56; clear hp21
   refine sqH ?_; intro hQ58Q hQ58
   refine s1 hF53 18 (.pointer (some ⟨b1, 0, none⟩)) ?_; intro a59 hF60; clear hF53
   refine s1 hF60 19 (.pointer (some ⟨b1, 0, none⟩)) ?_; intro a61 hF62; clear hF60
   refine s1 hF62 20 (.pointer (some ⟨b1, 2, none⟩)) ?_; intro a63 hF64; clear hF62
   refine sr hF64 hM55 0 [str u0.Row, .int .i64 u0.At, .int .i64 7, .int .u8 u0.c.last, .int .i64 u0.c.n] (b := b1) (off := 2) (cs := [str u0.Row, .int .i64 u0.At, .int .i64 u0.Code, .int .u8 u0.c.last, .int .i64 u0.c.n]) (ty := 80) (u := .int .i64 7) (nog rfl _) rfl rfl (by kernel_rfl) (by kernel_rfl) (by kernel_rfl) (by kernel_rfl) (by kernel_rfl) (by kernel_rfl) (by kernel_rfl) ?_; intro wd65 hM66; clear hM55
   have hM67 : Mem B [] w0 Z0 ((.row b1 [str u0.Row, .int .i64 u0.At, .int .i64 7, .int .u8 u0.c.last, .int .i64 u0.c.n] 80) :: Rr) Z wd65 := hM66; clear hM66
   refine nlH (hQ58 _ _ ?_); clear hQ58 hQ58Q
   refine sqH ?_; intro hQ68Q hQ68
   refine s1 hF64 2 (.int .u8 48) ?_; intro a69 hF70; clear hF64
   refine nlH (hQ68 _ _ ?_); clear hQ68 hQ68Q
   refine wp_ret ?_
   refine thr ?_
   refine rt (fn := Tryd.f77) (v := .int .u8 48) hF70 (re1 hF70 (fn := Tryd.f77) rfl (by kernel_rfl)) ?_
   exact ⟨(48, (⟨u0.Row, u0.At, 7, u0.c⟩ : Reader)), Z, rfl, hp57, hle0, hM67.keep (List.Sublist.cons_cons _ (List.Sublist.refl _))⟩
  · -- no
   have hp71 := hp21.2 hb56; clear hp21
   refine wp_skip ?_
   refine thn ?_
   refine sqH ?_; intro hQ72Q hQ72
   refine s1 hF53 21 (.pointer (some ⟨b1, 0, none⟩)) ?_; intro a73 hF74; clear hF53
   refine s1 hF74 22 (.pointer (some ⟨b1, 0, none⟩)) ?_; intro a75 hF76; clear hF74
   refine s1 hF76 23 (.pointer (some ⟨b1, 1, none⟩)) ?_; intro a77 hF78; clear hF76
   refine l1 hF78 hM55 24 0 1 (.int .i64 u0.At) rfl rfl ?_; intro a79 hF80; clear hF78
   refine s1 hF80 25 (.int .i64 (w64 (u0.At + 1))) ?_; intro a81 hF82; clear hF80
   refine s1 hF82 26 (.pointer (some ⟨b1, 0, none⟩)) ?_; intro a83 hF84; clear hF82
   refine s1 hF84 27 (.pointer (some ⟨b1, 1, none⟩)) ?_; intro a85 hF86; clear hF84
   refine sr hF86 hM55 0 [str u0.Row, .int .i64 (w64 (u0.At + 1)), .int .i64 u0.Code, .int .u8 u0.c.last, .int .i64 u0.c.n] (b := b1) (off := 1) (cs := [str u0.Row, .int .i64 u0.At, .int .i64 u0.Code, .int .u8 u0.c.last, .int .i64 u0.c.n]) (ty := 80) (u := .int .i64 (w64 (u0.At + 1))) (nog rfl _) rfl rfl (by kernel_rfl) (by kernel_rfl) (by kernel_rfl) (by kernel_rfl) (by kernel_rfl) (by kernel_rfl) (by kernel_rfl) ?_; intro wd87 hM88; clear hM55
   have hM89 : Mem B [] w0 Z0 ((.row b1 [str u0.Row, .int .i64 (w64 (u0.At + 1)), .int .i64 u0.Code, .int .u8 u0.c.last, .int .i64 u0.c.n] 80) :: Rr) Z wd87 := hM88; clear hM88
   refine nlH (hQ72 _ _ ?_); clear hQ72 hQ72Q
   have hF90 : Fr 38 [] [⟨0, [], .pointer (some ⟨b1, 0, none⟩)⟩] a85 := hF86.region (by kernel_rfl) (by kernel_rfl); clear hF86
   refine sqQH mixed (by kernel_rfl) hM89 ?_; intro hQ91Q hQ91
   refine q1 hF90 28 (.pointer (some ⟨b1, 0, none⟩)) ?_; intro a93 hF94; clear hF90
   refine q1 hF94 29 (.pointer (some ⟨b1, 0, none⟩)) ?_; intro a96 hF97; clear hF94
   refine q1 hF97 30 (.pointer (some ⟨b1, 0, none⟩)) ?_; intro a99 hF100; clear hF97
   refine qst hF100 (str u0.Row) (nog rfl _) rfl (by kernel_rfl) (fun v101 hC => ld hF100 hC 0 (g := []) (b := b1) (off := 0) (cs := [str u0.Row, .int .i64 (w64 (u0.At + 1)), .int .i64 u0.Code, .int .u8 u0.c.last, .int .i64 u0.c.n]) (ty := 80) rfl (by kernel_rfl) (by kernel_rfl) (by kernel_rfl) (by kernel_rfl) rfl) ?_; intro a102 hF103; clear hF100
   refine q1 hF103 32 (.pointer (some ⟨b1, 0, none⟩)) ?_; intro a105 hF106; clear hF103
   refine q1 hF106 33 (.pointer (some ⟨b1, 0, none⟩)) ?_; intro a108 hF109; clear hF106
   refine q1 hF109 34 (.pointer (some ⟨b1, 1, none⟩)) ?_; intro a111 hF112; clear hF109
   refine qst hF112 (.int .i64 (w64 (u0.At + 1))) (nog rfl _) rfl (by kernel_rfl) (fun v113 hC => ld hF112 hC 0 (g := []) (b := b1) (off := 1) (cs := [str u0.Row, .int .i64 (w64 (u0.At + 1)), .int .i64 u0.Code, .int .u8 u0.c.last, .int .i64 u0.c.n]) (ty := 80) rfl (by kernel_rfl) (by kernel_rfl) (by kernel_rfl) (by kernel_rfl) rfl) ?_; intro a114 hF115; clear hF112
   refine q1 hF115 36 (.int .i64 (w64 ((w64 (u0.At + 1)) - 1))) ?_; intro a117 hF118; clear hF115
   have hc120 := hp71.1; have hp121 := hp71.2; clear hp71
   obtain ⟨c122, hq123⟩ : ∃ q, u0.Row[(w64 ((w64 (u0.At + 1)) - 1)).toNat]? = some q := ⟨_, List.getElem?_eq_getElem (by omega)⟩; have hp124 := hp121 c122 hq123
   refine qst hF118 (.int .u8 (c122.toNat : Int)) (nog rfl _) rfl (by kernel_rfl) (fun v119 hC => stridx_run hF118 (k := .i64) rfl (by kernel_rfl) (by kernel_rfl) (by kernel_rfl) hc120.1 hq123) ?_; intro a125 hF126; clear hF118
   refine q1 hF126 2 (.int .u8 (c122.toNat : Int)) ?_; intro a128 hF129; clear hF126
   refine qnl (hQ91 _ ?_); clear hQ91 hQ91Q; intro wd130 hM131; clear hM89
   refine wp_ret ?_
   refine rt (fn := Tryd.f77) (v := .int .u8 (c122.toNat : Int)) hF129 (re1 hF129 (fn := Tryd.f77) rfl (by kernel_rfl)) ?_
   exact ⟨((c122.toNat : Int), (⟨u0.Row, w64 (u0.At + 1), u0.Code, u0.c⟩ : Reader)), Z, rfl, hp124, hle0, hM131.keep (List.Sublist.cons_cons _ (List.Sublist.refl _))⟩

set_option maxRecDepth 100000 in
set_option maxHeartbeats 0 in
theorem fixbits_walk (u0 : List UInt8) (u1 : Int)  (Z : Fz) (w : World)  (hZ : Z.on w) {K : (List UInt8) → Prop} (hp : fixbits_vc u0 u1 K) : Calls Tryd.prog 35 #[str u0, .int .u8 u1] w fun e w' => ∃ r : (List UInt8), e = .returned (str r) ∧ K r ∧ Below w.heap.size w w' := by
 refine enter0 Tryd.func35 rfl rfl (by kernel_rfl) ?_; intro a0 hF0; have hM0 := Mem.start w Z hZ; have hle0 := Fz.le.refl Z
 refine sqH ?_; intro hQ1Q hQ1
 refine s1 hF0 4 (str []) ?_; intro a2 hF3; clear hF0
 refine nlH (hQ1 _ _ ?_); clear hQ1 hQ1Q
 refine sqH ?_; intro hQ4Q hQ4
 refine s1 hF3 5 (str []) ?_; intro a5 hF6; clear hF3
 refine nlH (hQ4 _ _ ?_); clear hQ4 hQ4Q
 refine wp_seq ?_
 refine sqH ?_; intro hQ7Q hQ7
 refine s1 hF6 6 (.int .i64 0) ?_; intro a8 hF9; clear hF6
 refine nlH (hQ7 _ _ ?_); clear hQ7 hQ7Q
 refine wp_block ?_
 have hF10 : Fr 34 [] [⟨0, [], str u0⟩, ⟨1, [], .int .u8 u1⟩, ⟨5, [], str []⟩, ⟨6, [], .int .i64 0⟩] a8 := hF9.region (by kernel_rfl) (by kernel_rfl); clear hF9
 have hF12 : Fr 34 [] [⟨0, [], str u0⟩, ⟨1, [], .int .u8 u1⟩, ⟨5, [], str []⟩, ⟨6, [], .int .i64 0⟩] a8 := hF10.region (by kernel_rfl) (by kernel_rfl); clear hF10
 obtain ⟨inv11, mu11, hI15, hr14⟩ := hp
 have hle16 := hle0
 refine lp (ι := Int × (List UInt8) × Int × Fz) (fun (s : Int × (List UInt8) × Int × Fz) => [⟨0, [], str u0⟩, ⟨1, [], .int .u8 s.1⟩, ⟨5, [], str s.2.1⟩, ⟨6, [], .int .i64 s.2.2.1⟩]) (fun (s : Int × (List UInt8) × Int × Fz) => []) (fun (s : Int × (List UInt8) × Int × Fz) => s.2.2.2) (fun (s : Int × (List UInt8) × Int × Fz) => inv11 s.1 s.2.1 s.2.2.1 ∧ Fz.le Z s.2.2.2) (fun (s : Int × (List UInt8) × Int × Fz) => mu11 s.1 s.2.1 s.2.2.1) ⟨u1, [], 0, Z⟩ ⟨hI15, Fz.le.refl _⟩ (by exact hF12.region (by kernel_rfl) (by kernel_rfl)) (by exact hM0) ?_
 rintro ⟨x1, x5, x6, ZL11⟩ ⟨hI13, hleL11⟩ a17 wd18 hF19 hM20
 have hF21 : Fr 34 [] [⟨0, [], str u0⟩, ⟨1, [], .int .u8 x1⟩, ⟨5, [], str x5⟩, ⟨6, [], .int .i64 x6⟩] a17 := hF19; clear hF19 hF12
 have hM22 : Mem w.heap.size [] w Z [] ZL11 wd18 := hM20; clear hM20 hM0
 have hp23 := hr14 x1 x5 x6 hI13
 replace hle0 := Fz.le.trans hle0 hleL11
 refine wp_seq ?_
 refine sqH ?_; intro hQ24Q hQ24
 refine s1 hF21 7 (.int .i64 x6) ?_; intro a25 hF26; clear hF21
 refine s1 hF26 8 (str u0) ?_; intro a27 hF28; clear hF26
 refine s1 hF28 9 (.int .i64 (u0.length : Int)) ?_; intro a29 hF30; clear hF28
 refine s1 hF30 10 (.bool (decide (x6 < (u0.length : Int)))) ?_; intro a31 hF32; clear hF30
 refine nlH (hQ24 _ _ ?_); clear hQ24 hQ24Q
 refine cd hF32 (t := decide (x6 < (u0.length : Int))) (by kernel_rfl) (fun hb33 => ?_) (fun hb33 => ?_)
 · -- yes
  have hp34 := hp23.1 hb33; clear hp23
  refine wp_skip ?_
  refine thn ?_
  refine wp_seq ?_
  refine wp_block ?_
  have hF35 : Fr 34 [] [⟨0, [], str u0⟩, ⟨1, [], .int .u8 x1⟩, ⟨5, [], str x5⟩, ⟨6, [], .int .i64 x6⟩] a31 := hF32.region (by kernel_rfl) (by kernel_rfl); clear hF32
  have hcd12_0 := hp34.1; have hp79 := hp34.2; clear hp34
  have hcd13_0 := hp79.1; have hp80 := hp79.2; clear hp79
  have hcd14_0 := hp80.1; have hp81 := hp80.2; clear hp80
  refine wp_seq (any_invE mixed [[], [], [1], [2], [3], [], [], [], [7], [], [9], [8, 10], [5, 6, 11], [4, 12], [0, 13], [0, 1, 2, 3, 4, 5, 6, 7, 8, 9, 10, 11, 12, 13, 14]] 16 (fun S a w1 => ∃ (b44 : Nat) (ud5 : Value) (ud13 : Value) (ud14 : Value) (ud15 : Value) (ud16 : Value) (ud17 : Value) (ud18 : Value) (ud19 : Value) (ud20 : Value) (ud21 : Value) (ud22 : Value) (ud23 : Value) (ud24 : Value) (ud25 : Value) (ud26 : Value) (ud27 : Value) (rh0 : Res) (Z82 : Fz), Fz.le ZL11 Z82 ∧ Fr 34 [] [⟨0, [], str u0⟩, ⟨1, [], .int .u8 x1⟩, ⟨5, [], ud5⟩, ⟨6, [], .int .i64 x6⟩, ⟨13, [], ud13⟩, ⟨14, [], ud14⟩, ⟨15, [], ud15⟩, ⟨16, [], ud16⟩, ⟨17, [], ud17⟩, ⟨18, [], ud18⟩, ⟨19, [], ud19⟩, ⟨20, [], ud20⟩, ⟨21, [], ud21⟩, ⟨22, [], ud22⟩, ⟨23, [], ud23⟩, ⟨24, [], ud24⟩, ⟨25, [], ud25⟩, ⟨26, [], ud26⟩, ⟨27, [], ud27⟩] a ∧ Mem w.heap.size [] w Z [rh0] Z82 w1 ∧ (S 15 = true → ud5 = str (x5 ++ ((bstr ([(rother x1)] : List Int)) ++ ((u0.take (min (w64 (x6 + 4)) (u0.length : Int)).toNat).drop x6.toNat)))) ∧ (S 15 = false → ud5 = str x5) ∧ (S 0 = true → ud13 = str x5) ∧ (S 1 = true → ud14 = .int .u8 x1) ∧ (S 2 = true → ud15 = .int .u8 (rother x1)) ∧ (S 3 = true → ud16 = .slice (some ⟨b44, 0, none⟩) 1 1) ∧ (S 4 = true → ud17 = str (bstr ([(rother x1)] : List Int))) ∧ (S 5 = true → ud18 = str u0) ∧ (S 6 = true → ud19 = .int .i64 x6) ∧ (S 7 = true → ud20 = .int .i64 x6) ∧ (S 8 = true → ud21 = .int .i64 (w64 (x6 + 4))) ∧ (S 9 = true → ud22 = str u0) ∧ (S 10 = true → ud23 = .int .i64 (u0.length : Int)) ∧ (S 11 = true → ud24 = .int .i64 (min (w64 (x6 + 4)) (u0.length : Int))) ∧ (S 12 = true → ud25 = str ((u0.take (min (w64 (x6 + 4)) (u0.length : Int)).toNat).drop x6.toNat)) ∧ (S 13 = true → ud26 = str ((bstr ([(rother x1)] : List Int)) ++ ((u0.take (min (w64 (x6 + 4)) (u0.length : Int)).toNat).drop x6.toNat))) ∧ (S 14 = true → ud27 = str (x5 ++ ((bstr ([(rother x1)] : List Int)) ++ ((u0.take (min (w64 (x6 + 4)) (u0.length : Int)).toNat).drop x6.toNat)))) ∧ (S 3 = false → rh0 = .nil) ∧ (S 3 = true → S 4 = false → rh0 = .row b44 [.int .u8 (rother x1)] 5) ∧ (S 4 = true → rh0 = .nil) ∧ (S 4 = true → SlR (tyInt .u8) Z82 (some ⟨b44, 0, none⟩) 1 ([(rother x1)] : List Int))) ?h0 ?hs ?hE)
  case h0 =>
   have hF84 := hF35.any 13
   have hF85 := hF84.any 14
   have hF86 := hF85.any 15
   have hF87 := hF86.any 16
   have hF88 := hF87.any 17
   have hF89 := hF88.any 18
   have hF90 := hF89.any 19
   have hF91 := hF90.any 20
   have hF92 := hF91.any 21
   have hF93 := hF92.any 22
   have hF94 := hF93.any 23
   have hF95 := hF94.any 24
   have hF96 := hF95.any 25
   have hF97 := hF96.any 26
   have hF98 := hF97.any 27
   have hM99 := hM22.nilRes
   have hM100 := (hM99.perm (List.Perm.refl _)).drew
   exact ⟨0, str x5, a31.tmps.getD 13 undef, a31.tmps.getD 14 undef, a31.tmps.getD 15 undef, a31.tmps.getD 16 undef, a31.tmps.getD 17 undef, a31.tmps.getD 18 undef, a31.tmps.getD 19 undef, a31.tmps.getD 20 undef, a31.tmps.getD 21 undef, a31.tmps.getD 22 undef, a31.tmps.getD 23 undef, a31.tmps.getD 24 undef, a31.tmps.getD 25 undef, a31.tmps.getD 26 undef, a31.tmps.getD 27 undef, .nil, ZL11, Fz.le.refl _, hF98.region (by kernel_rfl) (by kernel_rfl), hM100, ff, kf, ff, ff, ff, ff, ff, ff, ff, ff, ff, ff, ff, ff, ff, ff, ff, kf, ff, ff, ff⟩
  case hs =>
   intro S hcl i o hil hi hSi hpre a w1 hI; refine Go.Sy.hid ?_; intro G hG; obtain ⟨b44, hI⟩ := hI; obtain ⟨ud5, hI⟩ := hI; obtain ⟨ud13, hI⟩ := hI; obtain ⟨ud14, hI⟩ := hI; obtain ⟨ud15, hI⟩ := hI; obtain ⟨ud16, hI⟩ := hI; obtain ⟨ud17, hI⟩ := hI; obtain ⟨ud18, hI⟩ := hI; obtain ⟨ud19, hI⟩ := hI; obtain ⟨ud20, hI⟩ := hI; obtain ⟨ud21, hI⟩ := hI; obtain ⟨ud22, hI⟩ := hI; obtain ⟨ud23, hI⟩ := hI; obtain ⟨ud24, hI⟩ := hI; obtain ⟨ud25, hI⟩ := hI; obtain ⟨ud26, hI⟩ := hI; obtain ⟨ud27, hI⟩ := hI; obtain ⟨rh0, hI⟩ := hI; obtain ⟨Z82, hI⟩ := hI; obtain ⟨hle83, hI⟩ := hI; obtain ⟨hFx, hI⟩ := hI; obtain ⟨hMx, hI⟩ := hI; obtain ⟨cu5, hI⟩ := hI; obtain ⟨cz5, hI⟩ := hI; obtain ⟨cu13, hI⟩ := hI; obtain ⟨cu14, hI⟩ := hI; obtain ⟨cu15, hI⟩ := hI; obtain ⟨cu16, hI⟩ := hI; obtain ⟨cu17, hI⟩ := hI; obtain ⟨cu18, hI⟩ := hI; obtain ⟨cu19, hI⟩ := hI; obtain ⟨cu20, hI⟩ := hI; obtain ⟨cu21, hI⟩ := hI; obtain ⟨cu22, hI⟩ := hI; obtain ⟨cu23, hI⟩ := hI; obtain ⟨cu24, hI⟩ := hI; obtain ⟨cu25, hI⟩ := hI; obtain ⟨cu26, hI⟩ := hI; obtain ⟨cu27, hI⟩ := hI; obtain ⟨cr0_0, hI⟩ := hI; obtain ⟨cr0_1, hI⟩ := hI; obtain ⟨cr0_2, hI⟩ := hI; have cf0 := hI; clear hI
   have hcase : i = 0 ∨ i = 1 ∨ i = 2 ∨ i = 3 ∨ i = 4 ∨ i = 5 ∨ i = 6 ∨ i = 7 ∨ i = 8 ∨ i = 9 ∨ i = 10 ∨ i = 11 ∨ i = 12 ∨ i = 13 ∨ i = 14 ∨ i = 15 := by clear hi; omega
   rcases hcase with rfl | rfl | rfl | rfl | rfl | rfl | rfl | rfl | rfl | rfl | rfl | rfl | rfl | rfl | rfl | rfl
   · -- 0: move
    obtain rfl := Option.some.inj hi
    have hx0 := hSi
    have hx14 := negF hcl 14 0 (by kernel_rfl) hx0
    have hx15 := negF hcl 15 0 (by kernel_rfl) hx0
    obtain rfl := cz5 hx15
    refine hG (any_step ?_); clear hG G; intro A J hJ
    have hle0 := Fz.le.trans hle0 hle83
    have hzst := Fz.le.refl Z82
    have hs101 := hleL11.mono hle83
    refine s1 hFx 13 (str x5) ?_; intro a102 hF103; clear hFx
    refine nl (qnI (hJ _ _ ?_)); clear hJ J
    exact ⟨b44, str x5, str x5, ud14, ud15, ud16, ud17, ud18, ud19, ud20, ud21, ud22, ud23, ud24, ud25, ud26, ud27, rh0, Z82, hle83, hF103.region (by kernel_rfl) (by kernel_rfl), hMx.perm (List.Perm.refl _), (nt hx15), kf, kf, cu14, cu15, cu16, cu17, cu18, cu19, cu20, cu21, cu22, cu23, cu24, cu25, cu26, (nt hx14), cr0_0, cr0_1, cr0_2, cf0⟩
   · -- 1: move
    obtain rfl := Option.some.inj hi
    have hx1 := hSi
    have hx2 := negF hcl 2 1 (by kernel_rfl) hx1
    have hx3 := negF hcl 3 2 (by kernel_rfl) hx2
    have hx4 := negF hcl 4 3 (by kernel_rfl) hx3
    have hx13 := negF hcl 13 4 (by kernel_rfl) hx4
    have hx14 := negF hcl 14 13 (by kernel_rfl) hx13
    have hx15 := negF hcl 15 1 (by kernel_rfl) hx1
    obtain rfl := cz5 hx15
    obtain rfl := cr0_0 hx3
    refine hG (any_step ?_); clear hG G; intro A J hJ
    have hle0 := Fz.le.trans hle0 hle83
    have hzst := Fz.le.refl Z82
    have hs105 := hleL11.mono hle83
    have hM106 := hMx.keep (List.Sublist.cons _ (List.Sublist.slnil)); clear hMx
    refine s1 hFx 14 (.int .u8 x1) ?_; intro a107 hF108; clear hFx
    refine nl (qnI (hJ _ _ ?_)); clear hJ J
    have hM109 := hM106.nilRes
    exact ⟨b44, str x5, ud13, .int .u8 x1, ud15, ud16, ud17, ud18, ud19, ud20, ud21, ud22, ud23, ud24, ud25, ud26, ud27, .nil, Z82, hle83, hF108.region (by kernel_rfl) (by kernel_rfl), hM109.perm (List.Perm.refl _), (nt hx15), kf, cu13, kf, (nt hx2), (nt hx3), (nt hx4), cu18, cu19, cu20, cu21, cu22, cu23, cu24, cu25, (nt hx13), (nt hx14), kf, (fun h _ => nt hx3 h), (nt hx4), (nt hx4)⟩
   · -- 2: call
    obtain rfl := Option.some.inj hi
    have hx1 := hpre 1 (by kernel_rfl)
    have hx2 := hSi
    have hx3 := negF hcl 3 2 (by kernel_rfl) hx2
    have hx4 := negF hcl 4 3 (by kernel_rfl) hx3
    have hx13 := negF hcl 13 4 (by kernel_rfl) hx4
    have hx14 := negF hcl 14 13 (by kernel_rfl) hx13
    have hx15 := negF hcl 15 2 (by kernel_rfl) hx2
    obtain rfl := cz5 hx15
    obtain rfl := cu14 hx1
    obtain rfl := cr0_0 hx3
    refine hG (any_step ?_); clear hG G; intro A J hJ
    have hle0 := Fz.le.trans hle0 hle83
    have hzst := Fz.le.refl Z82
    have hs111 := hleL11.mono hle83
    have hM112 := hMx.keep (List.Sublist.cons _ (List.Sublist.slnil)); clear hMx
    refine fcl hFx hM112 (.int .u8 (rother x1)) 51 #[.int .u8 x1] (nog rfl _) rfl (by kernel_rfl) (fun _ => by kernel_rfl) (rother_fun x1 _ _ hM112.fz) ?_; intro a113 wd115 hF114 hM116; clear hFx hM112
    refine nl (qnI (hJ _ _ ?_)); clear hJ J
    have hM117 := hM116.nilRes
    exact ⟨b44, str x5, ud13, .int .u8 x1, .int .u8 (rother x1), ud16, ud17, ud18, ud19, ud20, ud21, ud22, ud23, ud24, ud25, ud26, ud27, .nil, Z82, hle83, hF114.region (by kernel_rfl) (by kernel_rfl), hM117.perm (List.Perm.refl _), (nt hx15), kf, cu13, kf, kf, (nt hx3), (nt hx4), cu18, cu19, cu20, cu21, cu22, cu23, cu24, cu25, (nt hx13), (nt hx14), kf, (fun h _ => nt hx3 h), (nt hx4), (nt hx4)⟩
   · -- 3: buildSlice
    obtain rfl := Option.some.inj hi
    have hx2 := hpre 2 (by kernel_rfl)
    have hx1 := hcl 2 1 (by kernel_rfl) hx2
    have hx3 := hSi
    have hx4 := negF hcl 4 3 (by kernel_rfl) hx3
    have hx13 := negF hcl 13 4 (by kernel_rfl) hx4
    have hx14 := negF hcl 14 13 (by kernel_rfl) hx13
    have hx15 := negF hcl 15 3 (by kernel_rfl) hx3
    obtain rfl := cz5 hx15
    obtain rfl := cu14 hx1
    obtain rfl := cu15 hx2
    obtain rfl := cr0_0 hx3
    refine hG (any_step ?_); clear hG G; intro A J hJ
    have hle0 := Fz.le.trans hle0 hle83
    have hzst := Fz.le.refl Z82
    have hs119 := hleL11.mono hle83
    have hM120 := hMx.keep (List.Sublist.cons _ (List.Sublist.slnil)); clear hMx
    refine sn hFx hM120 (fun b => .slice (some ⟨b, 0, none⟩) 1 1) [.int .u8 (rother x1)] 5 (nog rfl _) rfl (by kernel_rfl) (by kernel_rfl) ?_; intro b121 a122 wd124 hF123 hM125; clear hFx hM120
    refine nl (qnI (hJ _ _ ?_)); clear hJ J
    exact ⟨b121, str x5, ud13, .int .u8 x1, .int .u8 (rother x1), .slice (some ⟨b121, 0, none⟩) 1 1, ud17, ud18, ud19, ud20, ud21, ud22, ud23, ud24, ud25, ud26, ud27, .row b121 [.int .u8 (rother x1)] 5, Z82, hle83, hF123.region (by kernel_rfl) (by kernel_rfl), hM125.perm (List.Perm.refl _), (nt hx15), kf, cu13, kf, kf, kf, (nt hx4), cu18, cu19, cu20, cu21, cu22, cu23, cu24, cu25, (nt hx13), (nt hx14), nu, kf2, (nt hx4), (nt hx4)⟩
   · -- 4: convert
    obtain rfl := Option.some.inj hi
    have hx3 := hpre 3 (by kernel_rfl)
    have hx2 := hcl 3 2 (by kernel_rfl) hx3
    have hx1 := hcl 2 1 (by kernel_rfl) hx2
    have hx4 := hSi
    have hx13 := negF hcl 13 4 (by kernel_rfl) hx4
    have hx14 := negF hcl 14 13 (by kernel_rfl) hx13
    have hx15 := negF hcl 15 4 (by kernel_rfl) hx4
    obtain rfl := cz5 hx15
    obtain rfl := cu14 hx1
    obtain rfl := cu15 hx2
    obtain rfl := cu16 hx3
    obtain rfl := cr0_1 hx3 hx4
    refine hG (any_step ?_); clear hG G; intro A J hJ
    have hle0 := Fz.le.trans hle0 hle83
    have hzst := Fz.le.refl Z82
    have hs127 := hleL11.mono hle83
    have hM128 : Mem w.heap.size [] w Z [.own (tyInt .u8) 5 (some ⟨b44, 0, none⟩) 1 ([(rother x1)] : List Int)] Z82 w1 := hMx.rowOwn (T := (tyInt .u8)) (xs := ([(rother x1)] : List Int)) 0 rfl (by decide) (by show 1 ≤ lim; decide) (RepAll.one (T := (tyInt .u8)) (x := (rother x1)) rfl); clear hMx
    obtain ⟨Z129, hle130, hM131, hs132⟩ := hM128.freeze 0 rfl
    replace hzst := hzst.mono hle130
    replace hs127 := hs127.mono hle130
    replace hle0 := Fz.le.trans hle0 hle130
    have hM133 : Mem w.heap.size [] w Z [] Z129 w1 := hM131; clear hM131
    refine st hFx (str (bstr ([(rother x1)] : List Int))) (nog rfl _) rfl (by kernel_rfl) (bstr_op hFx (g := []) (e := 5) (ao := (some ⟨b44, 0, none⟩)) (cap := 1) (xs := ([(rother x1)] : List Int)) rfl (by kernel_rfl) (by kernel_rfl) (by kernel_rfl) (by kernel_rfl) hs132 hM133.fz rfl) ?_; intro a134 hF135; clear hFx
    refine nl (qnI (hJ _ _ ?_)); clear hJ J
    have hM136 := hM133.nilRes
    exact ⟨b44, str x5, ud13, .int .u8 x1, .int .u8 (rother x1), .slice (some ⟨b44, 0, none⟩) 1 1, str (bstr ([(rother x1)] : List Int)), ud18, ud19, ud20, ud21, ud22, ud23, ud24, ud25, ud26, ud27, .nil, Z129, hle83.trans hzst, hF135.region (by kernel_rfl) (by kernel_rfl), hM136.perm (List.Perm.refl _), (nt hx15), kf, cu13, kf, kf, kf, kf, cu18, cu19, cu20, cu21, cu22, cu23, cu24, cu25, (nt hx13), (nt hx14), (tn hx3), (fun _ => nu), kf, (fun _ => hs132)⟩
   · -- 5: move
    obtain rfl := Option.some.inj hi
    have hx5 := hSi
    have hx12 := negF hcl 12 5 (by kernel_rfl) hx5
    have hx13 := negF hcl 13 12 (by kernel_rfl) hx12
    have hx14 := negF hcl 14 13 (by kernel_rfl) hx13
    have hx15 := negF hcl 15 5 (by kernel_rfl) hx5
    obtain rfl := cz5 hx15
    refine hG (any_step ?_); clear hG G; intro A J hJ
    have hle0 := Fz.le.trans hle0 hle83
    have hzst := Fz.le.refl Z82
    have hs138 := hleL11.mono hle83
    refine s1 hFx 18 (str u0) ?_; intro a139 hF140; clear hFx
    refine nl (qnI (hJ _ _ ?_)); clear hJ J
    exact ⟨b44, str x5, ud13, ud14, ud15, ud16, ud17, str u0, ud19, ud20, ud21, ud22, ud23, ud24, ud25, ud26, ud27, rh0, Z82, hle83, hF140.region (by kernel_rfl) (by kernel_rfl), hMx.perm (List.Perm.refl _), (nt hx15), kf, cu13, cu14, cu15, cu16, cu17, kf, cu19, cu20, cu21, cu22, cu23, cu24, (nt hx12), (nt hx13), (nt hx14), cr0_0, cr0_1, cr0_2, cf0⟩
   · -- 6: move
    obtain rfl := Option.some.inj hi
    have hx6 := hSi
    have hx12 := negF hcl 12 6 (by kernel_rfl) hx6
    have hx13 := negF hcl 13 12 (by kernel_rfl) hx12
    have hx14 := negF hcl 14 13 (by kernel_rfl) hx13
    have hx15 := negF hcl 15 6 (by kernel_rfl) hx6
    obtain rfl := cz5 hx15
    refine hG (any_step ?_); clear hG G; intro A J hJ
    have hle0 := Fz.le.trans hle0 hle83
    have hzst := Fz.le.refl Z82
    have hs142 := hleL11.mono hle83
    refine s1 hFx 19 (.int .i64 x6) ?_; intro a143 hF144; clear hFx
    refine nl (qnI (hJ _ _ ?_)); clear hJ J
    exact ⟨b44, str x5, ud13, ud14, ud15, ud16, ud17, ud18, .int .i64 x6, ud20, ud21, ud22, ud23, ud24, ud25, ud26, ud27, rh0, Z82, hle83, hF144.region (by kernel_rfl) (by kernel_rfl), hMx.perm (List.Perm.refl _), (nt hx15), kf, cu13, cu14, cu15, cu16, cu17, cu18, kf, cu20, cu21, cu22, cu23, cu24, (nt hx12), (nt hx13), (nt hx14), cr0_0, cr0_1, cr0_2, cf0⟩
   · -- 7: move
    obtain rfl := Option.some.inj hi
    have hx7 := hSi
    have hx8 := negF hcl 8 7 (by kernel_rfl) hx7
    have hx11 := negF hcl 11 8 (by kernel_rfl) hx8
    have hx12 := negF hcl 12 11 (by kernel_rfl) hx11
    have hx13 := negF hcl 13 12 (by kernel_rfl) hx12
    have hx14 := negF hcl 14 13 (by kernel_rfl) hx13
    have hx15 := negF hcl 15 7 (by kernel_rfl) hx7
    obtain rfl := cz5 hx15
    refine hG (any_step ?_); clear hG G; intro A J hJ
    have hle0 := Fz.le.trans hle0 hle83
    have hzst := Fz.le.refl Z82
    have hs146 := hleL11.mono hle83
    refine s1 hFx 20 (.int .i64 x6) ?_; intro a147 hF148; clear hFx
    refine nl (qnI (hJ _ _ ?_)); clear hJ J
    exact ⟨b44, str x5, ud13, ud14, ud15, ud16, ud17, ud18, ud19, .int .i64 x6, ud21, ud22, ud23, ud24, ud25, ud26, ud27, rh0, Z82, hle83, hF148.region (by kernel_rfl) (by kernel_rfl), hMx.perm (List.Perm.refl _), (nt hx15), kf, cu13, cu14, cu15, cu16, cu17, cu18, cu19, kf, (nt hx8), cu22, cu23, (nt hx11), (nt hx12), (nt hx13), (nt hx14), cr0_0, cr0_1, cr0_2, cf0⟩
   · -- 8: binOp
    obtain rfl := Option.some.inj hi
    have hx7 := hpre 7 (by kernel_rfl)
    have hx8 := hSi
    have hx11 := negF hcl 11 8 (by kernel_rfl) hx8
    have hx12 := negF hcl 12 11 (by kernel_rfl) hx11
    have hx13 := negF hcl 13 12 (by kernel_rfl) hx12
    have hx14 := negF hcl 14 13 (by kernel_rfl) hx13
    have hx15 := negF hcl 15 8 (by kernel_rfl) hx8
    obtain rfl := cz5 hx15
    obtain rfl := cu20 hx7
    refine hG (any_step ?_); clear hG G; intro A J hJ
    have hle0 := Fz.le.trans hle0 hle83
    have hzst := Fz.le.refl Z82
    have hs150 := hleL11.mono hle83
    refine s1 hFx 21 (.int .i64 (w64 (x6 + 4))) ?_; intro a151 hF152; clear hFx
    refine nl (qnI (hJ _ _ ?_)); clear hJ J
    exact ⟨b44, str x5, ud13, ud14, ud15, ud16, ud17, ud18, ud19, .int .i64 x6, .int .i64 (w64 (x6 + 4)), ud22, ud23, ud24, ud25, ud26, ud27, rh0, Z82, hle83, hF152.region (by kernel_rfl) (by kernel_rfl), hMx.perm (List.Perm.refl _), (nt hx15), kf, cu13, cu14, cu15, cu16, cu17, cu18, cu19, kf, kf, cu22, cu23, (nt hx11), (nt hx12), (nt hx13), (nt hx14), cr0_0, cr0_1, cr0_2, cf0⟩
   · -- 9: move
    obtain rfl := Option.some.inj hi
    have hx9 := hSi
    have hx10 := negF hcl 10 9 (by kernel_rfl) hx9
    have hx11 := negF hcl 11 10 (by kernel_rfl) hx10
    have hx12 := negF hcl 12 11 (by kernel_rfl) hx11
    have hx13 := negF hcl 13 12 (by kernel_rfl) hx12
    have hx14 := negF hcl 14 13 (by kernel_rfl) hx13
    have hx15 := negF hcl 15 9 (by kernel_rfl) hx9
    obtain rfl := cz5 hx15
    refine hG (any_step ?_); clear hG G; intro A J hJ
    have hle0 := Fz.le.trans hle0 hle83
    have hzst := Fz.le.refl Z82
    have hs154 := hleL11.mono hle83
    refine s1 hFx 22 (str u0) ?_; intro a155 hF156; clear hFx
    refine nl (qnI (hJ _ _ ?_)); clear hJ J
    exact ⟨b44, str x5, ud13, ud14, ud15, ud16, ud17, ud18, ud19, ud20, ud21, str u0, ud23, ud24, ud25, ud26, ud27, rh0, Z82, hle83, hF156.region (by kernel_rfl) (by kernel_rfl), hMx.perm (List.Perm.refl _), (nt hx15), kf, cu13, cu14, cu15, cu16, cu17, cu18, cu19, cu20, cu21, kf, (nt hx10), (nt hx11), (nt hx12), (nt hx13), (nt hx14), cr0_0, cr0_1, cr0_2, cf0⟩
   · -- 10: call
    obtain rfl := Option.some.inj hi
    have hx9 := hpre 9 (by kernel_rfl)
    have hx10 := hSi
    have hx11 := negF hcl 11 10 (by kernel_rfl) hx10
    have hx12 := negF hcl 12 11 (by kernel_rfl) hx11
    have hx13 := negF hcl 13 12 (by kernel_rfl) hx12
    have hx14 := negF hcl 14 13 (by kernel_rfl) hx13
    have hx15 := negF hcl 15 10 (by kernel_rfl) hx10
    obtain rfl := cz5 hx15
    obtain rfl := cu22 hx9
    refine hG (any_step ?_); clear hG G; intro A J hJ
    have hle0 := Fz.le.trans hle0 hle83
    have hzst := Fz.le.refl Z82
    have hs158 := hleL11.mono hle83
    refine s1 hFx 23 (.int .i64 (u0.length : Int)) ?_; intro a159 hF160; clear hFx
    refine nl (qnI (hJ _ _ ?_)); clear hJ J
    exact ⟨b44, str x5, ud13, ud14, ud15, ud16, ud17, ud18, ud19, ud20, ud21, str u0, .int .i64 (u0.length : Int), ud24, ud25, ud26, ud27, rh0, Z82, hle83, hF160.region (by kernel_rfl) (by kernel_rfl), hMx.perm (List.Perm.refl _), (nt hx15), kf, cu13, cu14, cu15, cu16, cu17, cu18, cu19, cu20, cu21, kf, kf, (nt hx11), (nt hx12), (nt hx13), (nt hx14), cr0_0, cr0_1, cr0_2, cf0⟩
   · -- 11: call
    obtain rfl := Option.some.inj hi
    have hx10 := hpre 10 (by kernel_rfl)
    have hx8 := hpre 8 (by kernel_rfl)
    have hx9 := hcl 10 9 (by kernel_rfl) hx10
    have hx7 := hcl 8 7 (by kernel_rfl) hx8
    have hx11 := hSi
    have hx12 := negF hcl 12 11 (by kernel_rfl) hx11
    have hx13 := negF hcl 13 12 (by kernel_rfl) hx12
    have hx14 := negF hcl 14 13 (by kernel_rfl) hx13
    have hx15 := negF hcl 15 11 (by kernel_rfl) hx11
    obtain rfl := cz5 hx15
    obtain rfl := cu20 hx7
    obtain rfl := cu21 hx8
    obtain rfl := cu22 hx9
    obtain rfl := cu23 hx10
    refine hG (any_step ?_); clear hG G; intro A J hJ
    have hle0 := Fz.le.trans hle0 hle83
    have hzst := Fz.le.refl Z82
    have hs162 := hleL11.mono hle83
    refine st hFx (.int .i64 (min (w64 (x6 + 4)) (u0.length : Int))) (nog rfl _) rfl (by kernel_rfl) (re_ (p0 hFx (r := .ok (.value (.int .i64 (if (u0.length : Int) < (w64 (x6 + 4)) then (u0.length : Int) else (w64 (x6 + 4))))) w1) (by kernel_rfl)) (by rw [imin])) ?_; intro a163 hF164; clear hFx
    refine nl (qnI (hJ _ _ ?_)); clear hJ J
    exact ⟨b44, str x5, ud13, ud14, ud15, ud16, ud17, ud18, ud19, .int .i64 x6, .int .i64 (w64 (x6 + 4)), str u0, .int .i64 (u0.length : Int), .int .i64 (min (w64 (x6 + 4)) (u0.length : Int)), ud25, ud26, ud27, rh0, Z82, hle83, hF164.region (by kernel_rfl) (by kernel_rfl), hMx.perm (List.Perm.refl _), (nt hx15), kf, cu13, cu14, cu15, cu16, cu17, cu18, cu19, kf, kf, kf, kf, kf, (nt hx12), (nt hx13), (nt hx14), cr0_0, cr0_1, cr0_2, cf0⟩
   · -- 12: slice
    obtain rfl := Option.some.inj hi
    have hx11 := hpre 11 (by kernel_rfl)
    have hx6 := hpre 6 (by kernel_rfl)
    have hx5 := hpre 5 (by kernel_rfl)
    have hx10 := hcl 11 10 (by kernel_rfl) hx11
    have hx8 := hcl 11 8 (by kernel_rfl) hx11
    have hx9 := hcl 10 9 (by kernel_rfl) hx10
    have hx7 := hcl 8 7 (by kernel_rfl) hx8
    have hx12 := hSi
    have hx13 := negF hcl 13 12 (by kernel_rfl) hx12
    have hx14 := negF hcl 14 13 (by kernel_rfl) hx13
    have hx15 := negF hcl 15 12 (by kernel_rfl) hx12
    obtain rfl := cz5 hx15
    obtain rfl := cu18 hx5
    obtain rfl := cu19 hx6
    obtain rfl := cu20 hx7
    obtain rfl := cu21 hx8
    obtain rfl := cu22 hx9
    obtain rfl := cu23 hx10
    obtain rfl := cu24 hx11
    refine hG (any_step ?_); clear hG G; intro A J hJ
    have hle0 := Fz.le.trans hle0 hle83
    have hzst := Fz.le.refl Z82
    have hs166 := hleL11.mono hle83
    refine st hFx (str ((u0.take (min (w64 (x6 + 4)) (u0.length : Int)).toNat).drop x6.toNat)) (nog rfl _) rfl (by kernel_rfl) (strslI_run hFx (g := []) (k := .i64) (k' := .i64) rfl (by kernel_rfl) (by kernel_rfl) (by kernel_rfl) (by kernel_rfl) hcd12_0 rfl) ?_; intro a167 hF168; clear hFx
    refine nl (qnI (hJ _ _ ?_)); clear hJ J
    exact ⟨b44, str x5, ud13, ud14, ud15, ud16, ud17, str u0, .int .i64 x6, .int .i64 x6, .int .i64 (w64 (x6 + 4)), str u0, .int .i64 (u0.length : Int), .int .i64 (min (w64 (x6 + 4)) (u0.length : Int)), str ((u0.take (min (w64 (x6 + 4)) (u0.length : Int)).toNat).drop x6.toNat), ud26, ud27, rh0, Z82, hle83, hF168.region (by kernel_rfl) (by kernel_rfl), hMx.perm (List.Perm.refl _), (nt hx15), kf, cu13, cu14, cu15, cu16, cu17, kf, kf, kf, kf, kf, kf, kf, kf, (nt hx13), (nt hx14), cr0_0, cr0_1, cr0_2, cf0⟩
   · -- 13: binOp
    obtain rfl := Option.some.inj hi
    have hx12 := hpre 12 (by kernel_rfl)
    have hx4 := hpre 4 (by kernel_rfl)
    have hx11 := hcl 12 11 (by kernel_rfl) hx12
    have hx6 := hcl 12 6 (by kernel_rfl) hx12
    have hx5 := hcl 12 5 (by kernel_rfl) hx12
    have hx3 := hcl 4 3 (by kernel_rfl) hx4
    have hx10 := hcl 11 10 (by kernel_rfl) hx11
    have hx8 := hcl 11 8 (by kernel_rfl) hx11
    have hx2 := hcl 3 2 (by kernel_rfl) hx3
    have hx9 := hcl 10 9 (by kernel_rfl) hx10
    have hx7 := hcl 8 7 (by kernel_rfl) hx8
    have hx1 := hcl 2 1 (by kernel_rfl) hx2
    have hx13 := hSi
    have hx14 := negF hcl 14 13 (by kernel_rfl) hx13
    have hx15 := negF hcl 15 13 (by kernel_rfl) hx13
    obtain rfl := cz5 hx15
    obtain rfl := cu14 hx1
    obtain rfl := cu15 hx2
    obtain rfl := cu16 hx3
    obtain rfl := cu17 hx4
    obtain rfl := cu18 hx5
    obtain rfl := cu19 hx6
    obtain rfl := cu20 hx7
    obtain rfl := cu21 hx8
    obtain rfl := cu22 hx9
    obtain rfl := cu23 hx10
    obtain rfl := cu24 hx11
    obtain rfl := cu25 hx12
    obtain rfl := cr0_2 hx4
    refine hG (any_step ?_); clear hG G; intro A J hJ
    have hle0 := Fz.le.trans hle0 hle83
    have hzst := Fz.le.refl Z82
    have hs170 := hleL11.mono hle83
    have hs171 := cf0 hx4
    have hM172 := hMx.keep (List.Sublist.cons _ (List.Sublist.slnil)); clear hMx
    refine st hFx (str ((bstr ([(rother x1)] : List Int)) ++ ((u0.take (min (w64 (x6 + 4)) (u0.length : Int)).toNat).drop x6.toNat))) (nog rfl _) rfl (by kernel_rfl) (stradd_run hFx (g := []) rfl (by kernel_rfl) (by kernel_rfl) hcd13_0 rfl) ?_; intro a173 hF174; clear hFx
    refine nl (qnI (hJ _ _ ?_)); clear hJ J
    have hM175 := hM172.nilRes
    exact ⟨b44, str x5, ud13, .int .u8 x1, .int .u8 (rother x1), .slice (some ⟨b44, 0, none⟩) 1 1, str (bstr ([(rother x1)] : List Int)), str u0, .int .i64 x6, .int .i64 x6, .int .i64 (w64 (x6 + 4)), str u0, .int .i64 (u0.length : Int), .int .i64 (min (w64 (x6 + 4)) (u0.length : Int)), str ((u0.take (min (w64 (x6 + 4)) (u0.length : Int)).toNat).drop x6.toNat), str ((bstr ([(rother x1)] : List Int)) ++ ((u0.take (min (w64 (x6 + 4)) (u0.length : Int)).toNat).drop x6.toNat)), ud27, .nil, Z82, hle83, hF174.region (by kernel_rfl) (by kernel_rfl), hM175.perm (List.Perm.refl _), (nt hx15), kf, cu13, kf, kf, kf, kf, kf, kf, kf, kf, kf, kf, kf, kf, kf, (nt hx14), (tn hx3), (fun _ => tn hx4), kf, (fun _ => hs171)⟩
   · -- 14: binOp
    obtain rfl := Option.some.inj hi
    have hx13 := hpre 13 (by kernel_rfl)
    have hx0 := hpre 0 (by kernel_rfl)
    have hx12 := hcl 13 12 (by kernel_rfl) hx13
    have hx4 := hcl 13 4 (by kernel_rfl) hx13
    have hx11 := hcl 12 11 (by kernel_rfl) hx12
    have hx6 := hcl 12 6 (by kernel_rfl) hx12
    have hx5 := hcl 12 5 (by kernel_rfl) hx12
    have hx3 := hcl 4 3 (by kernel_rfl) hx4
    have hx10 := hcl 11 10 (by kernel_rfl) hx11
    have hx8 := hcl 11 8 (by kernel_rfl) hx11
    have hx2 := hcl 3 2 (by kernel_rfl) hx3
    have hx9 := hcl 10 9 (by kernel_rfl) hx10
    have hx7 := hcl 8 7 (by kernel_rfl) hx8
    have hx1 := hcl 2 1 (by kernel_rfl) hx2
    have hx14 := hSi
    have hx15 := negF hcl 15 14 (by kernel_rfl) hx14
    obtain rfl := cz5 hx15
    obtain rfl := cu13 hx0
    obtain rfl := cu14 hx1
    obtain rfl := cu15 hx2
    obtain rfl := cu16 hx3
    obtain rfl := cu17 hx4
    obtain rfl := cu18 hx5
    obtain rfl := cu19 hx6
    obtain rfl := cu20 hx7
    obtain rfl := cu21 hx8
    obtain rfl := cu22 hx9
    obtain rfl := cu23 hx10
    obtain rfl := cu24 hx11
    obtain rfl := cu25 hx12
    obtain rfl := cu26 hx13
    obtain rfl := cr0_2 hx4
    refine hG (any_step ?_); clear hG G; intro A J hJ
    have hle0 := Fz.le.trans hle0 hle83
    have hzst := Fz.le.refl Z82
    have hs177 := hleL11.mono hle83
    have hs178 := cf0 hx4
    have hM179 := hMx.keep (List.Sublist.cons _ (List.Sublist.slnil)); clear hMx
    refine st hFx (str (x5 ++ ((bstr ([(rother x1)] : List Int)) ++ ((u0.take (min (w64 (x6 + 4)) (u0.length : Int)).toNat).drop x6.toNat)))) (nog rfl _) rfl (by kernel_rfl) (stradd_run hFx (g := []) rfl (by kernel_rfl) (by kernel_rfl) hcd14_0 rfl) ?_; intro a180 hF181; clear hFx
    refine nl (qnI (hJ _ _ ?_)); clear hJ J
    have hM182 := hM179.nilRes
    exact ⟨b44, str x5, str x5, .int .u8 x1, .int .u8 (rother x1), .slice (some ⟨b44, 0, none⟩) 1 1, str (bstr ([(rother x1)] : List Int)), str u0, .int .i64 x6, .int .i64 x6, .int .i64 (w64 (x6 + 4)), str u0, .int .i64 (u0.length : Int), .int .i64 (min (w64 (x6 + 4)) (u0.length : Int)), str ((u0.take (min (w64 (x6 + 4)) (u0.length : Int)).toNat).drop x6.toNat), str ((bstr ([(rother x1)] : List Int)) ++ ((u0.take (min (w64 (x6 + 4)) (u0.length : Int)).toNat).drop x6.toNat)), str (x5 ++ ((bstr ([(rother x1)] : List Int)) ++ ((u0.take (min (w64 (x6 + 4)) (u0.length : Int)).toNat).drop x6.toNat))), .nil, Z82, hle83, hF181.region (by kernel_rfl) (by kernel_rfl), hM182.perm (List.Perm.refl _), (nt hx15), kf, kf, kf, kf, kf, kf, kf, kf, kf, kf, kf, kf, kf, kf, kf, kf, (tn hx3), (fun _ => tn hx4), kf, (fun _ => hs178)⟩
   · -- 15: assign
    obtain rfl := Option.some.inj hi
    have hx14 := hpre 14 (by kernel_rfl)
    have hx13 := hpre 13 (by kernel_rfl)
    have hx12 := hpre 12 (by kernel_rfl)
    have hx11 := hpre 11 (by kernel_rfl)
    have hx10 := hpre 10 (by kernel_rfl)
    have hx9 := hpre 9 (by kernel_rfl)
    have hx8 := hpre 8 (by kernel_rfl)
    have hx7 := hpre 7 (by kernel_rfl)
    have hx6 := hpre 6 (by kernel_rfl)
    have hx5 := hpre 5 (by kernel_rfl)
    have hx4 := hpre 4 (by kernel_rfl)
    have hx3 := hpre 3 (by kernel_rfl)
    have hx2 := hpre 2 (by kernel_rfl)
    have hx1 := hpre 1 (by kernel_rfl)
    have hx0 := hpre 0 (by kernel_rfl)
    have hx15 := hSi
    obtain rfl := cz5 hx15
    obtain rfl := cu13 hx0
    obtain rfl := cu14 hx1
    obtain rfl := cu15 hx2
    obtain rfl := cu16 hx3
    obtain rfl := cu17 hx4
    obtain rfl := cu18 hx5
    obtain rfl := cu19 hx6
    obtain rfl := cu20 hx7
    obtain rfl := cu21 hx8
    obtain rfl := cu22 hx9
    obtain rfl := cu23 hx10
    obtain rfl := cu24 hx11
    obtain rfl := cu25 hx12
    obtain rfl := cu26 hx13
    obtain rfl := cu27 hx14
    obtain rfl := cr0_2 hx4
    refine hG (any_step ?_); clear hG G; intro A J hJ
    have hle0 := Fz.le.trans hle0 hle83
    have hzst := Fz.le.refl Z82
    have hs184 := hleL11.mono hle83
    have hs185 := cf0 hx4
    have hM186 := hMx.keep (List.Sublist.cons _ (List.Sublist.slnil)); clear hMx
    refine s1 hFx 5 (str (x5 ++ ((bstr ([(rother x1)] : List Int)) ++ ((u0.take (min (w64 (x6 + 4)) (u0.length : Int)).toNat).drop x6.toNat)))) ?_; intro a187 hF188; clear hFx
    refine nl (qnI (hJ _ _ ?_)); clear hJ J
    have hM189 := hM186.nilRes
    exact ⟨b44, str (x5 ++ ((bstr ([(rother x1)] : List Int)) ++ ((u0.take (min (w64 (x6 + 4)) (u0.length : Int)).toNat).drop x6.toNat))), str x5, .int .u8 x1, .int .u8 (rother x1), .slice (some ⟨b44, 0, none⟩) 1 1, str (bstr ([(rother x1)] : List Int)), str u0, .int .i64 x6, .int .i64 x6, .int .i64 (w64 (x6 + 4)), str u0, .int .i64 (u0.length : Int), .int .i64 (min (w64 (x6 + 4)) (u0.length : Int)), str ((u0.take (min (w64 (x6 + 4)) (u0.length : Int)).toNat).drop x6.toNat), str ((bstr ([(rother x1)] : List Int)) ++ ((u0.take (min (w64 (x6 + 4)) (u0.length : Int)).toNat).drop x6.toNat)), str (x5 ++ ((bstr ([(rother x1)] : List Int)) ++ ((u0.take (min (w64 (x6 + 4)) (u0.length : Int)).toNat).drop x6.toNat))), .nil, Z82, hle83, hF188.region (by kernel_rfl) (by kernel_rfl), hM189.perm (List.Perm.refl _), kf, nu, kf, kf, kf, kf, kf, kf, kf, kf, kf, kf, kf, kf, kf, kf, kf, (tn hx3), (fun _ => tn hx4), kf, (fun _ => hs185)⟩
  case hE =>
   intro S hS a191 wd192 hI; refine Go.Sy.hid ?_; intro G hG; obtain ⟨b44, hI⟩ := hI; obtain ⟨ud5, hI⟩ := hI; obtain ⟨ud13, hI⟩ := hI; obtain ⟨ud14, hI⟩ := hI; obtain ⟨ud15, hI⟩ := hI; obtain ⟨ud16, hI⟩ := hI; obtain ⟨ud17, hI⟩ := hI; obtain ⟨ud18, hI⟩ := hI; obtain ⟨ud19, hI⟩ := hI; obtain ⟨ud20, hI⟩ := hI; obtain ⟨ud21, hI⟩ := hI; obtain ⟨ud22, hI⟩ := hI; obtain ⟨ud23, hI⟩ := hI; obtain ⟨ud24, hI⟩ := hI; obtain ⟨ud25, hI⟩ := hI; obtain ⟨ud26, hI⟩ := hI; obtain ⟨ud27, hI⟩ := hI; obtain ⟨rh0, hI⟩ := hI; obtain ⟨Z82, hI⟩ := hI; obtain ⟨hle83, hI⟩ := hI; obtain ⟨hFx, hI⟩ := hI; obtain ⟨hMx, hI⟩ := hI; obtain ⟨cu5, hI⟩ := hI; obtain ⟨cz5, hI⟩ := hI; obtain ⟨cu13, hI⟩ := hI; obtain ⟨cu14, hI⟩ := hI; obtain ⟨cu15, hI⟩ := hI; obtain ⟨cu16, hI⟩ := hI; obtain ⟨cu17, hI⟩ := hI; obtain ⟨cu18, hI⟩ := hI; obtain ⟨cu19, hI⟩ := hI; obtain ⟨cu20, hI⟩ := hI; obtain ⟨cu21, hI⟩ := hI; obtain ⟨cu22, hI⟩ := hI; obtain ⟨cu23, hI⟩ := hI; obtain ⟨cu24, hI⟩ := hI; obtain ⟨cu25, hI⟩ := hI; obtain ⟨cu26, hI⟩ := hI; obtain ⟨cu27, hI⟩ := hI; obtain ⟨cr0_0, hI⟩ := hI; obtain ⟨cr0_1, hI⟩ := hI; obtain ⟨cr0_2, hI⟩ := hI; have cf0 := hI; clear hI; refine hG ?_; clear hG G
   obtain rfl := cu5 (hS 15 (by decide))
   obtain rfl := cu13 (hS 0 (by decide))
   obtain rfl := cu14 (hS 1 (by decide))
   obtain rfl := cu15 (hS 2 (by decide))
   obtain rfl := cu16 (hS 3 (by decide))
   obtain rfl := cu17 (hS 4 (by decide))
   obtain rfl := cu18 (hS 5 (by decide))
   obtain rfl := cu19 (hS 6 (by decide))
   obtain rfl := cu20 (hS 7 (by decide))
   obtain rfl := cu21 (hS 8 (by decide))
   obtain rfl := cu22 (hS 9 (by decide))
   obtain rfl := cu23 (hS 10 (by decide))
   obtain rfl := cu24 (hS 11 (by decide))
   obtain rfl := cu25 (hS 12 (by decide))
   obtain rfl := cu26 (hS 13 (by decide))
   obtain rfl := cu27 (hS 14 (by decide))
   obtain rfl := cr0_2 (hS 4 (by decide))
   have hle0 := Fz.le.trans hle0 hle83
   have hs193 := hleL11.mono hle83
   have hs194 := cf0 (hS 4 (by decide))
   have hMx := hMx.keep (List.Sublist.cons _ (List.Sublist.slnil))
   refine thn ?_
   have hF195 : Fr 34 [] [⟨0, [], str u0⟩, ⟨5, [], str (x5 ++ ((bstr ([(rother x1)] : List Int)) ++ ((u0.take (min (w64 (x6 + 4)) (u0.length : Int)).toNat).drop x6.toNat)))⟩, ⟨6, [], .int .i64 x6⟩] a191 := hFx.region (by kernel_rfl) (by kernel_rfl); clear hFx
   refine rgH ?_; intro hQ196Q hQ196
   refine s1 hF195 28 (str (x5 ++ ((bstr ([(rother x1)] : List Int)) ++ ((u0.take (min (w64 (x6 + 4)) (u0.length : Int)).toNat).drop x6.toNat)))) ?_; intro a197 hF198; clear hF195
   refine s1 hF198 29 (str (x5 ++ ((bstr ([(rother x1)] : List Int)) ++ ((u0.take (min (w64 (x6 + 4)) (u0.length : Int)).toNat).drop x6.toNat)))) ?_; intro a199 hF200; clear hF198
   refine s1 hF200 30 (.int .i64 ((x5 ++ ((bstr ([(rother x1)] : List Int)) ++ ((u0.take (min (w64 (x6 + 4)) (u0.length : Int)).toNat).drop x6.toNat))).length : Int)) ?_; intro a201 hF202; clear hF200
   refine s1 hF202 31 (.int .i64 (w64 (((x5 ++ ((bstr ([(rother x1)] : List Int)) ++ ((u0.take (min (w64 (x6 + 4)) (u0.length : Int)).toNat).drop x6.toNat))).length : Int) - 1))) ?_; intro a203 hF204; clear hF202
   have hc205 := hp81.1; have hp206 := hp81.2; clear hp81
   obtain ⟨c207, hq208⟩ : ∃ q, (x5 ++ ((bstr ([(rother x1)] : List Int)) ++ ((u0.take (min (w64 (x6 + 4)) (u0.length : Int)).toNat).drop x6.toNat)))[(w64 (((x5 ++ ((bstr ([(rother x1)] : List Int)) ++ ((u0.take (min (w64 (x6 + 4)) (u0.length : Int)).toNat).drop x6.toNat))).length : Int) - 1)).toNat]? = some q := ⟨_, List.getElem?_eq_getElem (by omega)⟩; have hp209 := hp206 c207 hq208
   refine st hF204 (.int .u8 (c207.toNat : Int)) (nog rfl _) rfl (by kernel_rfl) (stridx_run hF204 (k := .i64) rfl (by kernel_rfl) (by kernel_rfl) (by kernel_rfl) hc205.1 hq208) ?_; intro a210 hF211; clear hF204
   refine s1 hF211 1 (.int .u8 (c207.toNat : Int)) ?_; intro a212 hF213; clear hF211
   refine nlH (hQ196 _ _ ?_); clear hQ196 hQ196Q
   refine ibn ?_
   refine thn ?_
   refine rgH ?_; intro hQ214Q hQ214
   refine s1 hF213 11 (.int .i64 x6) ?_; intro a215 hF216; clear hF213
   refine s1 hF216 12 (.int .i64 (w64 (x6 + 4))) ?_; intro a217 hF218; clear hF216
   refine s1 hF218 6 (.int .i64 (w64 (x6 + 4))) ?_; intro a219 hF220; clear hF218
   refine nlH (hQ214 _ _ ?_); clear hQ214 hQ214Q
   refine rd ?_
   exact ⟨⟨(c207.toNat : Int), x5 ++ ((bstr ([(rother x1)] : List Int)) ++ ((u0.take (min (w64 (x6 + 4)) (u0.length : Int)).toNat).drop x6.toNat)), w64 (x6 + 4), Z82⟩, ⟨hp209.1, hs193⟩, hp209.2, (hF220.region (by kernel_rfl) (by kernel_rfl)).anyβ _ (by kernel_rfl), hMx.keep (List.Sublist.slnil)⟩
 · -- no
  have hp221 := hp23.2 hb33; clear hp23
  refine wp_exit ?_
  refine thx ?_
  refine thx ?_
  refine ibx ?_
  refine thn ?_
  refine sqH ?_; intro hQ222Q hQ222
  refine s1 hF32 33 (str x5) ?_; intro a223 hF224; clear hF32
  refine s1 hF224 4 (str x5) ?_; intro a225 hF226; clear hF224
  refine nlH (hQ222 _ _ ?_); clear hQ222 hQ222Q
  refine wp_ret ?_
  refine rt (fn := Tryd.f35) (v := str x5) hF226 (re1 hF226 (fn := Tryd.f35) rfl (by kernel_rfl)) ?_
  exact ⟨x5, rfl, hp221, hM22.below⟩

end Go.Proofs.YtfafpnacflcgmaaDoor
