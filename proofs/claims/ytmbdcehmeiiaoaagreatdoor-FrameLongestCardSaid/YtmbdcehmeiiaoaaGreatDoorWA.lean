/- The walks, made by program: each call does what its pure predicate says. -/
import Derived.Test.YtmbdcehmeiiaoaaGreatDoorPA
import Derived.Test.YtmbdcehmeiiaoaaGreatDoorWZ
import Derived.Test.YtmbdcehmeiiaoaaGreatDoorBld
namespace Go.Proofs
open Go.Shelf
def Tryz.lays166_ren : Go.Shelf.Ren := ⟨fun | 166 => 98 | 240 => 118 | 276 => 138 | n => n, fun | 37 => 22 | 70 => 131 | 72 => 133 | 75 => 135 | 80 => 73 | 164 => 169 | n => n, fun n => n⟩
theorem Tryz.lays166 : Lays.n166 Tryz.prog Tryz.lays166_ren where
  mixed := by kernel_rfl
  f166 := Tryz.func98.trans (congrArg some (by kernel_rfl))
  f240 := Tryz.func118.trans (congrArg some (by kernel_rfl))
  f276 := Tryz.func138.trans (congrArg some (by kernel_rfl))
  t0 := Tryz.underlying0
  a0 := Tryz.isAgg0
  z0 := Tryz.sizeOf0
  v0 := Tryz.zeroValue0
  t3 := Tryz.underlying3
  a3 := Tryz.isAgg3
  z3 := Tryz.sizeOf3
  v3 := Tryz.zeroValue3
  t4 := Tryz.underlying4
  a4 := Tryz.isAgg4
  z4 := Tryz.sizeOf4
  v4 := Tryz.zeroValue4
  t9 := Tryz.underlying9
  a9 := Tryz.isAgg9
  z9 := Tryz.sizeOf9
  v9 := Tryz.zeroValue9
  t20 := Tryz.underlying20
  a20 := Tryz.isAgg20
  z20 := Tryz.sizeOf20
  v20 := Tryz.zeroValue20
  t37 := Tryz.underlying22
  a37 := Tryz.isAgg22
  z37 := Tryz.sizeOf22
  v37 := Tryz.zeroValue22
  t70 := Tryz.underlying131
  a70 := Tryz.isAgg131
  z70 := Tryz.sizeOf131
  v70 := Tryz.zeroValue131
  t72 := Tryz.underlying133
  a72 := Tryz.isAgg133
  z72 := Tryz.sizeOf133
  v72 := Tryz.zeroValue133
  t75 := Tryz.underlying135
  a75 := Tryz.isAgg135
  z75 := Tryz.sizeOf135
  v75 := Tryz.zeroValue135
  t164 := Tryz.underlying169
  a164 := Tryz.isAgg169
  z164 := Tryz.sizeOf169
  v164 := Tryz.zeroValue169
theorem Tryz.lays166X : Builder.Extra Tryz.prog Tryz.lays166_ren where
  sizeBuilder := by kernel_rfl
  liesBuilder := by kernel_rfl
  t5 := by kernel_rfl
  a5 := fun w => by kernel_rfl
  z5 := fun w => by kernel_rfl
  v5 := fun w => by kernel_rfl
  infoByte := by kernel_rfl
  cellsByte := by kernel_rfl
  sizeByte := by kernel_rfl
  neB5 := by decide

def Tryz.lays169_ren : Go.Shelf.Ren := ⟨fun | 169 => 99 | n => n, fun | 37 => 22 | 70 => 131 | 72 => 133 | 127 => 155 | n => n, fun n => n⟩
theorem Tryz.lays169 : Lays.n169 Tryz.prog Tryz.lays169_ren where
  mixed := by kernel_rfl
  f169 := Tryz.func99.trans (congrArg some (by kernel_rfl))
  t0 := Tryz.underlying0
  a0 := Tryz.isAgg0
  z0 := Tryz.sizeOf0
  v0 := Tryz.zeroValue0
  t3 := Tryz.underlying3
  a3 := Tryz.isAgg3
  z3 := Tryz.sizeOf3
  v3 := Tryz.zeroValue3
  t9 := Tryz.underlying9
  a9 := Tryz.isAgg9
  z9 := Tryz.sizeOf9
  v9 := Tryz.zeroValue9
  t37 := Tryz.underlying22
  a37 := Tryz.isAgg22
  z37 := Tryz.sizeOf22
  v37 := Tryz.zeroValue22
  t70 := Tryz.underlying131
  a70 := Tryz.isAgg131
  z70 := Tryz.sizeOf131
  v70 := Tryz.zeroValue131
  t72 := Tryz.underlying133
  a72 := Tryz.isAgg133
  z72 := Tryz.sizeOf133
  v72 := Tryz.zeroValue133
  t127 := Tryz.underlying155
  a127 := Tryz.isAgg155
  z127 := Tryz.sizeOf155
  v127 := Tryz.zeroValue155
theorem Tryz.lays169X : Builder.Extra Tryz.prog Tryz.lays169_ren where
  sizeBuilder := by kernel_rfl
  liesBuilder := by kernel_rfl
  t5 := by kernel_rfl
  a5 := fun w => by kernel_rfl
  z5 := fun w => by kernel_rfl
  v5 := fun w => by kernel_rfl
  infoByte := by kernel_rfl
  cellsByte := by kernel_rfl
  sizeByte := by kernel_rfl
  neB5 := by decide

end Go.Proofs
set_option linter.unusedVariables false
set_option linter.unusedSimpArgs false
namespace Go.Proofs.YtmbdcehmeiiaoaaGreatDoor
open Go.Sy Go.RowKit
set_option maxRecDepth 100000 in
set_option maxHeartbeats 0 in
theorem bread_walk (u0 : List UInt8)  (Z : Fz) (w : World)  (hZ : Z.on w) {K : Int → Prop} (hp : bread_vc u0 K) : Calls Tryz.prog 67 #[str u0] w fun e w' => ∃ r : Int, e = .returned (.int .u64 r) ∧ K r ∧ Below w.heap.size w w' := by
 refine enter0 Tryz.func67 rfl rfl (by kernel_rfl) ?_; intro a0 hF0; have hM0 := Mem.start w Z hZ; have hle0 := Fz.le.refl Z
 refine sqH ?_; intro hQ1Q hQ1
 refine s1 hF0 2 (.int .u64 0) ?_; intro a2 hF3; clear hF0
 refine nlH (hQ1 _ _ ?_); clear hQ1 hQ1Q
 refine sqH ?_; intro hQ4Q hQ4
 refine s1 hF3 3 (.int .u64 0) ?_; intro a5 hF6; clear hF3
 refine nlH (hQ4 _ _ ?_); clear hQ4 hQ4Q
 refine wp_seq ?_
 refine sqH ?_; intro hQ7Q hQ7
 refine s1 hF6 5 (str u0) ?_; intro a8 hF9; clear hF6
 refine s1 hF9 6 (.int .i64 (u0.length : Int)) ?_; intro a10 hF11; clear hF9
 refine s1 hF11 7 (.int .i64 0) ?_; intro a12 hF13; clear hF11
 refine nlH (hQ7 _ _ ?_); clear hQ7 hQ7Q
 refine wp_block ?_
 have hF14 : Fr 20 [] [⟨0, [], str u0⟩, ⟨3, [], .int .u64 0⟩, ⟨6, [], .int .i64 (u0.length : Int)⟩, ⟨7, [], .int .i64 0⟩] a12 := hF13.reg; clear hF13
 have hF16 : Fr 20 [] [⟨0, [], str u0⟩, ⟨3, [], .int .u64 0⟩, ⟨6, [], .int .i64 (u0.length : Int)⟩, ⟨7, [], .int .i64 0⟩] a12 := hF14.reg; clear hF14
 obtain ⟨inv15, mu15, hI19, hr18⟩ := hp
 refine lp (ι := Int × Int) (fun (s : Int × Int) => [⟨0, [], str u0⟩, ⟨3, [], .int .u64 s.1⟩, ⟨6, [], .int .i64 (u0.length : Int)⟩, ⟨7, [], .int .i64 s.2⟩]) (fun (s : Int × Int) => []) (fun (s : Int × Int) => Z) (fun (s : Int × Int) => inv15 s.1 s.2) (fun (s : Int × Int) => mu15 s.1 s.2) ⟨0, 0⟩ hI19 (by exact hF16.reg) (by exact hM0) ?_
 rintro ⟨x3, x7⟩ hI17 a21 wd22 hF23 hM24
 have hF25 : Fr 20 [] [⟨0, [], str u0⟩, ⟨3, [], .int .u64 x3⟩, ⟨6, [], .int .i64 (u0.length : Int)⟩, ⟨7, [], .int .i64 x7⟩] a21 := hF23; clear hF23 hF16
 have hM26 : Mem w.heap.size [] w Z [] Z wd22 := hM24; clear hM24 hM0
 have hp27 := hr18 x3 x7 hI17
 refine sqH ?_; intro hQ28Q hQ28
 refine s1 hF25 8 (.bool (decide (x7 < (u0.length : Int)))) ?_; intro a29 hF30; clear hF25
 refine nlH (hQ28 _ _ ?_); clear hQ28 hQ28Q
 refine wp_seq ?_
 refine cd hF30 (t := decide (x7 < (u0.length : Int))) (by kernel_rfl) (fun hb31 => ?_) (fun hb31 => ?_)
 ·
  have hp32 := hp27.1 hb31; clear hp27
  refine wp_skip ?_
  refine thn ?_
  refine wp_seq ?_
  refine wp_block ?_
  refine sqH ?_; intro hQ33Q hQ33
  refine s1 hF30 9 (.int .i64 x7) ?_; intro a34 hF35; clear hF30
  refine s1 hF35 4 (.int .i64 x7) ?_; intro a36 hF37; clear hF35
  refine nlH (hQ33 _ _ ?_); clear hQ33 hQ33Q
  refine rgH ?_; intro hQ38Q hQ38
  refine s1 hF37 10 (.int .u64 x3) ?_; intro a39 hF40; clear hF37
  refine s1 hF40 11 (.int .u64 (bShl .u64 x3 1)) ?_; intro a41 hF42; clear hF40
  refine s1 hF42 12 (str u0) ?_; intro a43 hF44; clear hF42
  refine s1 hF44 13 (.int .i64 x7) ?_; intro a45 hF46; clear hF44
  have hc47 := hp32.1; have hp48 := hp32.2; clear hp32
  obtain ⟨c49, hq50⟩ : ∃ q, u0[x7.toNat]? = some q := ⟨_, List.getElem?_eq_getElem (by omega)⟩; have hp51 := hp48 c49 hq50
  refine st hF46 (.int .u8 (c49.toNat : Int)) (nog rfl _) rfl (by kernel_rfl) (stridx_run hF46 (k := .i64) rfl (by kernel_rfl) (by kernel_rfl) (by kernel_rfl) hc47.1 hq50) ?_; intro a52 hF53; clear hF46
  refine s1 hF53 15 (.int .u8 (w8 ((c49.toNat : Int) - 48))) ?_; intro a54 hF55; clear hF53
  refine s1 hF55 16 (.int .u64 (wu64 (w8 ((c49.toNat : Int) - 48)))) ?_; intro a56 hF57; clear hF55
  refine s1 hF57 17 (.int .u64 (bOr .u64 (bShl .u64 x3 1) (wu64 (w8 ((c49.toNat : Int) - 48))))) ?_; intro a58 hF59; clear hF57
  refine s1 hF59 3 (.int .u64 (bOr .u64 (bShl .u64 x3 1) (wu64 (w8 ((c49.toNat : Int) - 48))))) ?_; intro a60 hF61; clear hF59
  refine nlH (hQ38 _ _ ?_); clear hQ38 hQ38Q
  refine ibn ?_
  refine thn ?_
  refine rgH ?_; intro hQ62Q hQ62
  refine s1 hF61 18 (.int .i64 (w64 (x7 + 1))) ?_; intro a63 hF64; clear hF61
  refine s1 hF64 7 (.int .i64 (w64 (x7 + 1))) ?_; intro a65 hF66; clear hF64
  refine nlH (hQ62 _ _ ?_); clear hQ62 hQ62Q
  refine rd ?_
  exact ⟨⟨bOr .u64 (bShl .u64 x3 1) (wu64 (w8 ((c49.toNat : Int) - 48))), w64 (x7 + 1)⟩, hp51.1, hp51.2, (hF66.reg).anyβ _ (by kernel_rfl), hM26.keep (List.Sublist.slnil)⟩
 ·
  have hp67 := hp27.2 hb31; clear hp27
  refine wp_exit ?_
  refine thx ?_
  refine thx ?_
  refine ibx ?_
  refine thn ?_
  refine sqH ?_; intro hQ68Q hQ68
  refine s1 hF30 19 (.int .u64 x3) ?_; intro a69 hF70; clear hF30
  refine s1 hF70 2 (.int .u64 x3) ?_; intro a71 hF72; clear hF70
  refine nlH (hQ68 _ _ ?_); clear hQ68 hQ68Q
  refine wp_ret ?_
  refine rt (fn := Tryz.f67) (v := .int .u64 x3) hF72 (re1 hF72 (fn := Tryz.f67) rfl (by kernel_rfl)) ?_
  exact ⟨x3, rfl, hp67, hM26.below⟩

set_option maxRecDepth 100000 in
set_option maxHeartbeats 0 in
theorem bwrite_walk (u0 : Int) (u1 : Int)  (Z : Fz) (w : World)  (hZ : Z.on w) {K : (List UInt8) → Prop} (hp : bwrite_vc u0 u1 K) : Calls Tryz.prog 71 #[.int .u64 u0, .int .i64 u1] w fun e w' => ∃ r : (List UInt8), e = .returned (str r) ∧ K r ∧ Below w.heap.size w w' := by
 refine enter0 Tryz.func71 rfl rfl (by kernel_rfl) ?_; intro a0 hF0; have hM0 := Mem.start w Z hZ; have hle0 := Fz.le.refl Z
 refine sqH ?_; intro hQ1Q hQ1
 refine s1 hF0 4 (str []) ?_; intro a2 hF3; clear hF0
 refine nlH (hQ1 _ _ ?_); clear hQ1 hQ1Q
 refine sqH ?_; intro hQ4Q hQ4
 refine s1 hF3 7 (.int .i64 u1) ?_; intro a5 hF6; clear hF3
 have hc7 := hp.1; have hp8 := hp.2; clear hp
 refine mks hF6 hM0 (T := (tyInt .u8)) u1 u1 (k := .i64) (k' := .i64) (e := 5) (bytes := 1) (zs := [.int .u8 0]) (z := 0) (by simp only [lim]; omega) (nog rfl _) rfl (by kernel_rfl) rfl (by kernel_rfl) (by kernel_rfl) (by kernel_rfl) (by kernel_rfl) rfl ?_; intro g9 a12 wd10 hF13 hM11; clear hF6 hM0
 have hM14 : Mem w.heap.size [] w Z [.own (tyInt .u8) 5 (some ⟨g9, 0, none⟩) u1.toNat (List.replicate u1.toNat (0 : Int))] Z wd10 := hM11; clear hM11
 refine s1 hF13 5 (.slice (some ⟨g9, 0, none⟩) (List.replicate u1.toNat (0 : Int)).length u1.toNat) ?_; intro a15 hF16; clear hF13
 refine nlH (hQ4 _ _ ?_); clear hQ4 hQ4Q
 refine wp_seq ?_
 refine sqH ?_; intro hQ17Q hQ17
 refine s1 hF16 9 (.int .i64 u1) ?_; intro a18 hF19; clear hF16
 refine s1 hF19 10 (.int .i64 0) ?_; intro a20 hF21; clear hF19
 refine nlH (hQ17 _ _ ?_); clear hQ17 hQ17Q
 refine wp_block ?_
 have hF22 : Fr 28 [] [⟨0, [], .int .u64 u0⟩, ⟨1, [], .int .i64 u1⟩, ⟨5, [], .slice (some ⟨g9, 0, none⟩) (List.replicate u1.toNat (0 : Int)).length u1.toNat⟩, ⟨9, [], .int .i64 u1⟩, ⟨10, [], .int .i64 0⟩] a20 := hF21.reg; clear hF21
 have hF24 : Fr 28 [] [⟨0, [], .int .u64 u0⟩, ⟨1, [], .int .i64 u1⟩, ⟨5, [], .slice (some ⟨g9, 0, none⟩) (List.replicate u1.toNat (0 : Int)).length u1.toNat⟩, ⟨9, [], .int .i64 u1⟩, ⟨10, [], .int .i64 0⟩] a20 := hF22.reg; clear hF22
 obtain ⟨inv23, mu23, hI27, hr26⟩ := hp8
 refine lp (ι := Int × Int × (List Int)) (fun (s : Int × Int × (List Int)) => [⟨0, [], .int .u64 s.1⟩, ⟨1, [], .int .i64 u1⟩, ⟨5, [], .slice (some ⟨g9, 0, none⟩) s.2.2.length u1.toNat⟩, ⟨9, [], .int .i64 u1⟩, ⟨10, [], .int .i64 s.2.1⟩]) (fun (s : Int × Int × (List Int)) => [.own (tyInt .u8) 5 (some ⟨g9, 0, none⟩) u1.toNat s.2.2]) (fun (s : Int × Int × (List Int)) => Z) (fun (s : Int × Int × (List Int)) => inv23 s.1 s.2.1 s.2.2) (fun (s : Int × Int × (List Int)) => mu23 s.1 s.2.1 s.2.2) ⟨u0, 0, (List.replicate u1.toNat (0 : Int))⟩ hI27 (by exact hF24.reg) (by exact hM14) ?_
 rintro ⟨x0, x10, zg90⟩ hI25 a29 wd30 hF31 hM32
 have hF33 : Fr 28 [] [⟨0, [], .int .u64 x0⟩, ⟨1, [], .int .i64 u1⟩, ⟨5, [], .slice (some ⟨g9, 0, none⟩) zg90.length u1.toNat⟩, ⟨9, [], .int .i64 u1⟩, ⟨10, [], .int .i64 x10⟩] a29 := hF31; clear hF31 hF24
 have hM34 : Mem w.heap.size [] w Z [.own (tyInt .u8) 5 (some ⟨g9, 0, none⟩) u1.toNat zg90] Z wd30 := hM32; clear hM32 hM14
 have hp35 := hr26 x0 x10 zg90 hI25
 refine sqH ?_; intro hQ36Q hQ36
 refine s1 hF33 11 (.bool (decide (x10 < u1))) ?_; intro a37 hF38; clear hF33
 refine nlH (hQ36 _ _ ?_); clear hQ36 hQ36Q
 refine wp_seq ?_
 refine cd hF38 (t := decide (x10 < u1)) (by kernel_rfl) (fun hb39 => ?_) (fun hb39 => ?_)
 ·
  have hp40 := hp35.1 hb39; clear hp35
  refine wp_skip ?_
  refine thn ?_
  refine wp_seq ?_
  refine wp_block ?_
  refine sqH ?_; intro hQ41Q hQ41
  refine s1 hF38 12 (.int .i64 x10) ?_; intro a42 hF43; clear hF38
  refine s1 hF43 6 (.int .i64 x10) ?_; intro a44 hF45; clear hF43
  refine nlH (hQ41 _ _ ?_); clear hQ41 hQ41Q
  refine sqH ?_; intro hQ46Q hQ46
  refine s1 hF45 13 (.slice (some ⟨g9, 0, none⟩) zg90.length u1.toNat) ?_; intro a47 hF48; clear hF45
  refine s1 hF48 14 (.int .i64 u1) ?_; intro a49 hF50; clear hF48
  refine s1 hF50 15 (.int .i64 (w64 (u1 - 1))) ?_; intro a51 hF52; clear hF50
  refine s1 hF52 16 (.int .i64 x10) ?_; intro a53 hF54; clear hF52
  refine s1 hF54 17 (.int .i64 (w64 ((w64 (u1 - 1)) - x10))) ?_; intro a55 hF56; clear hF54
  refine s1 hF56 18 (.int .u64 x0) ?_; intro a57 hF58; clear hF56
  refine s1 hF58 19 (.int .u64 (bAnd .u64 x0 1)) ?_; intro a59 hF60; clear hF58
  refine s1 hF60 20 (.int .u8 (w8 (bAnd .u64 x0 1))) ?_; intro a61 hF62; clear hF60
  refine s1 hF62 21 (.int .u8 (w8 (48 + (w8 (bAnd .u64 x0 1))))) ?_; intro a63 hF64; clear hF62
  have hc65 := hp40.1; have hp66 := hp40.2; clear hp40
  refine ixo hF64 hM34 0 (T := (tyInt .u8)) (xs := zg90) (w64 ((w64 (u1 - 1)) - x10)) hc65 (k := .i64) (e := 5) (bytes := 1) (nog rfl _) rfl (by kernel_rfl) rfl (by kernel_rfl) (by kernel_rfl) rfl (by kernel_rfl) ?_; intro g67 a69 hg68 hF70; clear hF64
  obtain rfl : g9 = g67 := by simpa using hg68
  have hF71 : Fr 28 [] [⟨0, [], .int .u64 x0⟩, ⟨1, [], .int .i64 u1⟩, ⟨5, [], .slice (some ⟨g9, 0, none⟩) zg90.length u1.toNat⟩, ⟨6, [], .int .i64 x10⟩, ⟨9, [], .int .i64 u1⟩, ⟨10, [], .int .i64 x10⟩, ⟨11, [], .bool (decide (x10 < u1))⟩, ⟨12, [], .int .i64 x10⟩, ⟨13, [], .slice (some ⟨g9, 0, none⟩) zg90.length u1.toNat⟩, ⟨14, [], .int .i64 u1⟩, ⟨15, [], .int .i64 (w64 (u1 - 1))⟩, ⟨16, [], .int .i64 x10⟩, ⟨17, [], .int .i64 (w64 ((w64 (u1 - 1)) - x10))⟩, ⟨18, [], .int .u64 x0⟩, ⟨19, [], .int .u64 (bAnd .u64 x0 1)⟩, ⟨20, [], .int .u8 (w8 (bAnd .u64 x0 1))⟩, ⟨21, [], .int .u8 (w8 (48 + (w8 (bAnd .u64 x0 1))))⟩, ⟨22, [], .pointer (some ⟨g9, (w64 ((w64 (u1 - 1)) - x10)).toNat * 1, none⟩)⟩] a69 := hF70.reg; clear hF70
  have hM72 : Mem w.heap.size [] w Z [.own (tyInt .u8) 5 (some ⟨g9, 0, none⟩) u1.toNat zg90] Z wd30 := hM34; clear hM34
  refine so hF71 hM72 0 (T := (tyInt .u8)) (xs := zg90) (w64 ((w64 (u1 - 1)) - x10)).toNat (w8 (48 + (w8 (bAnd .u64 x0 1)))) (u := .int .u8 (w8 (48 + (w8 (bAnd .u64 x0 1))))) (nog rfl _) rfl rfl (by kernel_rfl) rfl (by kernel_rfl) rfl (by kernel_rfl) (by first | omega | (simp only [List.length_set] at *; omega)) rfl ?_; intro wd73 hM74; clear hM72
  have hF75 : Fr 28 [] [⟨0, [], .int .u64 x0⟩, ⟨1, [], .int .i64 u1⟩, ⟨5, [], .slice (some ⟨g9, 0, none⟩) (zg90.set (w64 ((w64 (u1 - 1)) - x10)).toNat (w8 (48 + (w8 (bAnd .u64 x0 1))))).length u1.toNat⟩, ⟨6, [], .int .i64 x10⟩, ⟨9, [], .int .i64 u1⟩, ⟨10, [], .int .i64 x10⟩, ⟨11, [], .bool (decide (x10 < u1))⟩, ⟨12, [], .int .i64 x10⟩, ⟨13, [], .slice (some ⟨g9, 0, none⟩) (zg90.set (w64 ((w64 (u1 - 1)) - x10)).toNat (w8 (48 + (w8 (bAnd .u64 x0 1))))).length u1.toNat⟩, ⟨14, [], .int .i64 u1⟩, ⟨15, [], .int .i64 (w64 (u1 - 1))⟩, ⟨16, [], .int .i64 x10⟩, ⟨17, [], .int .i64 (w64 ((w64 (u1 - 1)) - x10))⟩, ⟨18, [], .int .u64 x0⟩, ⟨19, [], .int .u64 (bAnd .u64 x0 1)⟩, ⟨20, [], .int .u8 (w8 (bAnd .u64 x0 1))⟩, ⟨21, [], .int .u8 (w8 (48 + (w8 (bAnd .u64 x0 1))))⟩, ⟨22, [], .pointer (some ⟨g9, (w64 ((w64 (u1 - 1)) - x10)).toNat * 1, none⟩)⟩] a69 := by (try simp only [List.length_set] at hF71); (try simp only [List.length_set]); exact hF71.reg
  clear hF71
  have hM76 : Mem w.heap.size [] w Z [.own (tyInt .u8) 5 (some ⟨g9, 0, none⟩) u1.toNat (zg90.set (w64 ((w64 (u1 - 1)) - x10)).toNat (w8 (48 + (w8 (bAnd .u64 x0 1)))))] Z wd73 := hM74; clear hM74
  refine nlH (hQ46 _ _ ?_); clear hQ46 hQ46Q
  refine rgH ?_; intro hQ77Q hQ77
  refine s1 hF75 23 (.int .u64 x0) ?_; intro a78 hF79; clear hF75
  refine s1 hF79 24 (.int .u64 (bShr .u64 x0 1)) ?_; intro a80 hF81; clear hF79
  refine s1 hF81 0 (.int .u64 (bShr .u64 x0 1)) ?_; intro a82 hF83; clear hF81
  refine nlH (hQ77 _ _ ?_); clear hQ77 hQ77Q
  refine ibn ?_
  refine thn ?_
  have hF84 : Fr 28 [] [⟨0, [], .int .u64 (bShr .u64 x0 1)⟩, ⟨1, [], .int .i64 u1⟩, ⟨5, [], .slice (some ⟨g9, 0, none⟩) (zg90.set (w64 ((w64 (u1 - 1)) - x10)).toNat (w8 (48 + (w8 (bAnd .u64 x0 1))))).length u1.toNat⟩, ⟨9, [], .int .i64 u1⟩, ⟨10, [], .int .i64 x10⟩] a82 := hF83.reg; clear hF83
  refine rgH ?_; intro hQ85Q hQ85
  refine s1 hF84 25 (.int .i64 (w64 (x10 + 1))) ?_; intro a86 hF87; clear hF84
  refine s1 hF87 10 (.int .i64 (w64 (x10 + 1))) ?_; intro a88 hF89; clear hF87
  refine nlH (hQ85 _ _ ?_); clear hQ85 hQ85Q
  refine rd ?_
  exact ⟨⟨bShr .u64 x0 1, w64 (x10 + 1), zg90.set (w64 ((w64 (u1 - 1)) - x10)).toNat (w8 (48 + (w8 (bAnd .u64 x0 1))))⟩, hp66.1, hp66.2, (hF89.reg).anyβ _ (by kernel_rfl), hM76.keep (List.Sublist.cons_cons _ (List.Sublist.slnil))⟩
 ·
  have hp90 := hp35.2 hb39; clear hp35
  refine wp_exit ?_
  refine thx ?_
  refine thx ?_
  refine ibx ?_
  refine thn ?_
  refine sqH ?_; intro hQ91Q hQ91
  refine s1 hF38 26 (.slice (some ⟨g9, 0, none⟩) zg90.length u1.toNat) ?_; intro a92 hF93; clear hF38
  refine st hF93 (str (bstr zg90)) (nog rfl _) rfl (by kernel_rfl) ((by obtain ⟨Z9, hle9, hon9, hs9⟩ := hM34.lend 0 rfl; exact bstr_op hF93 (g := []) (e := 5) (ao := (some ⟨g9, 0, none⟩)) (cap := u1.toNat) (xs := zg90) rfl (by kernel_rfl) (by kernel_rfl) (by kernel_rfl) (by kernel_rfl)  hs9 hon9 rfl)) ?_; intro a94 hF95; clear hF93
  refine s1 hF95 4 (str (bstr zg90)) ?_; intro a96 hF97; clear hF95
  refine nlH (hQ91 _ _ ?_); clear hQ91 hQ91Q
  refine wp_ret ?_
  refine rt (fn := Tryz.f71) (v := str (bstr zg90)) hF97 (re1 hF97 (fn := Tryz.f71) rfl (by kernel_rfl)) ?_
  exact ⟨bstr zg90, rfl, hp90, hM34.below⟩

set_option maxRecDepth 100000 in
set_option maxHeartbeats 0 in
theorem bcheck_walk (u0 : List UInt8)  (Z : Fz) (w : World)  (hZ : Z.on w) {K : Int → Prop} (hp : bcheck_vc u0 K) : Calls Tryz.prog 31 #[str u0] w fun e w' => ∃ r : Int, e = .returned (.int .i64 r) ∧ K r ∧ Below w.heap.size w w' := by
 refine enter0 Tryz.func31 rfl rfl (by kernel_rfl) ?_; intro a0 hF0; have hM0 := Mem.start w Z hZ; have hle0 := Fz.le.refl Z
 refine sqH ?_; intro hQ1Q hQ1
 refine s1 hF0 2 (.int .i64 0) ?_; intro a2 hF3; clear hF0
 refine nlH (hQ1 _ _ ?_); clear hQ1 hQ1Q
 refine wp_seq ?_
 refine sqH ?_; intro hQ4Q hQ4
 refine s1 hF3 3 (str u0) ?_; intro a5 hF6; clear hF3
 refine s1 hF6 4 (.int .i64 (u0.length : Int)) ?_; intro a7 hF8; clear hF6
 refine s1 hF8 5 (.bool (decide ((u0.length : Int) > 1000))) ?_; intro a9 hF10; clear hF8
 refine nlH (hQ4 _ _ ?_); clear hQ4 hQ4Q
 refine cd hF10 (t := decide ((u0.length : Int) > 1000)) (by kernel_rfl) (fun hb11 => ?_) (fun hb11 => ?_)
 ·
  have hp12 := hp.1 hb11; clear hp
  refine sqH ?_; intro hQ13Q hQ13
  refine s1 hF10 2 (.int .i64 2) ?_; intro a14 hF15; clear hF10
  refine nlH (hQ13 _ _ ?_); clear hQ13 hQ13Q
  refine wp_ret ?_
  refine thr ?_
  refine rt (fn := Tryz.f31) (v := .int .i64 2) hF15 (re1 hF15 (fn := Tryz.f31) rfl (by kernel_rfl)) ?_
  exact ⟨2, rfl, hp12, hM0.below⟩
 ·
  have hp16 := hp.2 hb11; clear hp
  refine wp_skip ?_
  refine thn ?_
  refine wp_seq ?_
  refine sqH ?_; intro hQ17Q hQ17
  refine s1 hF10 6 (str u0) ?_; intro a18 hF19; clear hF10
  have hc20 := hp16.1; have hp21 := hp16.2; clear hp16
  refine fcl hF19 hM0 (str (trimS u0 ([48, 49] : List UInt8))) 65 #[str u0, str ([48, 49] : List UInt8)] (nog rfl _) rfl (by kernel_rfl) (fun _ => by kernel_rfl) (trim_fun u0 ([48, 49] : List UInt8) hc20 _ _ hM0.fz) ?_; intro a22 wd24 hF23 hM25; clear hF19 hM0
  refine st hF23 (.bool ((trimS u0 ([48, 49] : List UInt8)) != ([] : List UInt8))) (nog rfl _) rfl (by kernel_rfl) (strcmp_run hF23 (g := []) (op := .neq) rfl (by kernel_rfl) (by kernel_rfl) (by decide) rfl) ?_; intro a26 hF27; clear hF23
  refine nlH (hQ17 _ _ ?_); clear hQ17 hQ17Q
  refine cd hF27 (t := (trimS u0 ([48, 49] : List UInt8)) != ([] : List UInt8)) (by kernel_rfl) (fun hb28 => ?_) (fun hb28 => ?_)
  ·
   have hp29 := hp21.1 hb28; clear hp21
   refine sqH ?_; intro hQ30Q hQ30
   refine s1 hF27 2 (.int .i64 4) ?_; intro a31 hF32; clear hF27
   refine nlH (hQ30 _ _ ?_); clear hQ30 hQ30Q
   refine wp_ret ?_
   refine thr ?_
   refine rt (fn := Tryz.f31) (v := .int .i64 4) hF32 (re1 hF32 (fn := Tryz.f31) rfl (by kernel_rfl)) ?_
   exact ⟨4, rfl, hp29, hM25.below⟩
  ·
   have hp33 := hp21.2 hb28; clear hp21
   refine wp_skip ?_
   refine thn ?_
   refine sqH ?_; intro hQ34Q hQ34
   refine s1 hF27 2 (.int .i64 0) ?_; intro a35 hF36; clear hF27
   refine nlH (hQ34 _ _ ?_); clear hQ34 hQ34Q
   refine wp_ret ?_
   refine rt (fn := Tryz.f31) (v := .int .i64 0) hF36 (re1 hF36 (fn := Tryz.f31) rfl (by kernel_rfl)) ?_
   exact ⟨0, rfl, hp33, hM25.below⟩

set_option maxRecDepth 100000 in
set_option maxHeartbeats 0 in
theorem smost_walk (u0 : Int)  (Z : Fz) (w : World)  (hZ : Z.on w) {K : (Int × Int) → Prop} (hp : smost_vc u0 K) : Calls Tryz.prog 62 #[.int .i64 u0] w fun e w' => ∃ r : Int × Int, e = .returned (.tuple #[.int .i64 r.1, .int .i64 r.2]) ∧ K r ∧ Below w.heap.size w w' := by
 refine enter0 Tryz.func62 rfl rfl (by kernel_rfl) ?_; intro a0 hF0; have hM0 := Mem.start w Z hZ; have hle0 := Fz.le.refl Z
 refine sqH ?_; intro hQ1Q hQ1
 refine s1 hF0 2 (.int .i64 0) ?_; intro a2 hF3; clear hF0
 refine s1 hF3 3 (.int .i64 0) ?_; intro a4 hF5; clear hF3
 refine nlH (hQ1 _ _ ?_); clear hQ1 hQ1Q
 refine wp_seq ?_
 refine sqH ?_; intro hQ6Q hQ6
 refine s1 hF5 4 (.int .i64 u0) ?_; intro a7 hF8; clear hF5
 refine s1 hF8 5 (.bool (decide (u0 < 0))) ?_; intro a9 hF10; clear hF8
 refine s1 hF10 6 (.bool (decide (u0 < 0))) ?_; intro a11 hF12; clear hF10
 have hF13 := hF12.atom ((decide (u0 < 0)) == false) (by kernel_rfl); clear hF12
 refine gp hF13 7 0 [] (decide (u0 < 0)) (.int .i64 u0) rfl rfl ?_; intro a14 hF15; clear hF13
 refine gp hF15 8 0 [] (decide (u0 < 0)) (.bool (decide (u0 > 1000))) rfl rfl ?_; intro a16 hF17; clear hF15
 refine st hF17 (.bool ((decide (u0 < 0)) || (decide (u0 > 1000)))) (nog rfl _) rfl (by kernel_rfl) (pk_or hF17 (g := []) (m := 0) (b := decide (u0 < 0)) (v := decide (u0 > 1000)) rfl (by kernel_rfl) (by kernel_rfl) (by kernel_rfl) rfl) ?_; intro a18 hF19; clear hF17
 refine nlH (hQ6 _ _ ?_); clear hQ6 hQ6Q
 refine cd hF19 (t := (decide (u0 < 0)) || (decide (u0 > 1000))) (by kernel_rfl) (fun hb20 => ?_) (fun hb20 => ?_)
 ·
  have hp21 := hp.1 hb20; clear hp
  have hF22 : Fr 17 [] [] a18 := hF19.reg; clear hF19
  refine sqH ?_; intro hQ23Q hQ23
  refine s1 hF22 2 (.int .i64 0) ?_; intro a24 hF25; clear hF22
  refine s1 hF25 3 (.int .i64 3) ?_; intro a26 hF27; clear hF25
  refine nlH (hQ23 _ _ ?_); clear hQ23 hQ23Q
  refine wp_ret ?_
  refine thr ?_
  refine rt (fn := Tryz.f62) (v := .tuple #[.int .i64 0, .int .i64 3]) hF27 (re2 hF27 (fn := Tryz.f62) rfl (by kernel_rfl) (by kernel_rfl)) ?_
  exact ⟨(0, 3), rfl, hp21, hM0.below⟩
 ·
  have hp28 := hp.2 hb20; clear hp
  refine wp_skip ?_
  refine thn ?_
  refine wp_seq ?_
  have hF29 : Fr 17 [] [⟨0, [], .int .i64 u0⟩] a18 := hF19.reg; clear hF19
  refine sqH ?_; intro hQ30Q hQ30
  refine s1 hF29 10 (.int .i64 u0) ?_; intro a31 hF32; clear hF29
  refine s1 hF32 11 (.bool (u0 == 0)) ?_; intro a33 hF34; clear hF32
  refine nlH (hQ30 _ _ ?_); clear hQ30 hQ30Q
  refine cd hF34 (t := u0 == 0) (by kernel_rfl) (fun hb35 => ?_) (fun hb35 => ?_)
  ·
   have hp36 := hp28.1 hb35; clear hp28
   refine sqH ?_; intro hQ37Q hQ37
   refine s1 hF34 2 (.int .i64 0) ?_; intro a38 hF39; clear hF34
   refine s1 hF39 3 (.int .i64 0) ?_; intro a40 hF41; clear hF39
   refine nlH (hQ37 _ _ ?_); clear hQ37 hQ37Q
   refine wp_ret ?_
   refine thr ?_
   refine rt (fn := Tryz.f62) (v := .tuple #[.int .i64 0, .int .i64 0]) hF41 (re2 hF41 (fn := Tryz.f62) rfl (by kernel_rfl) (by kernel_rfl)) ?_
   exact ⟨(0, 0), rfl, hp36, hM0.below⟩
  ·
   have hp42 := hp28.2 hb35; clear hp28
   refine wp_skip ?_
   refine thn ?_
   refine sqH ?_; intro hQ43Q hQ43
   refine s1 hF34 12 (.int .i64 u0) ?_; intro a44 hF45; clear hF34
   refine s1 hF45 13 (.int .i64 u0) ?_; intro a46 hF47; clear hF45
   refine s1 hF47 14 (.int .i64 (w64 (u0 - 1))) ?_; intro a48 hF49; clear hF47
   refine s1 hF49 15 (.int .i64 (w64 ((w64 (u0 - 1)).tdiv 4))) ?_; intro a50 hF51; clear hF49
   refine s1 hF51 16 (.int .i64 (w64 (u0 + (w64 ((w64 (u0 - 1)).tdiv 4))))) ?_; intro a52 hF53; clear hF51
   refine s1 hF53 2 (.int .i64 (w64 (u0 + (w64 ((w64 (u0 - 1)).tdiv 4))))) ?_; intro a54 hF55; clear hF53
   refine s1 hF55 3 (.int .i64 0) ?_; intro a56 hF57; clear hF55
   refine nlH (hQ43 _ _ ?_); clear hQ43 hQ43Q
   refine wp_ret ?_
   refine rt (fn := Tryz.f62) (v := .tuple #[.int .i64 (w64 (u0 + (w64 ((w64 (u0 - 1)).tdiv 4)))), .int .i64 0]) hF57 (re2 hF57 (fn := Tryz.f62) rfl (by kernel_rfl) (by kernel_rfl)) ?_
   exact ⟨(w64 (u0 + (w64 ((w64 (u0 - 1)).tdiv 4))), 0), rfl, hp42, hM0.below⟩
theorem smost_fun (u0 : Int)  (Z : Fz) (w : World)  (hZ : Z.on w) : Calls Tryz.prog 62 #[.int .i64 u0] w fun e w' => e = .returned (.tuple #[.int .i64 ((smost u0).1), .int .i64 ((smost u0).2)]) ∧ Below w.heap.size w w' :=
  (smost_walk u0  Z w  hZ (smost_ok u0)).mono fun _ _ ⟨r, he, hk, hb⟩ => ⟨by subst hk; exact he, hb⟩

set_option maxRecDepth 100000 in
set_option maxHeartbeats 0 in
theorem ckinds_walk   (Z : Fz) (w : World)  (hZ : Z.on w) {K : (Kind × Kind × Kind × Kind × Kind) → Prop} (hp : ckinds_vc  K) : Calls Tryz.prog 70 #[] w fun e w' => ∃ r : (Kind × Kind × Kind × Kind × Kind), e = .returned (.agg #[.int .i64 r.1.Size, .int .u64 r.1.Poly, .int .u64 r.1.From, .int .u64 r.1.End, .int .i64 r.2.1.Size, .int .u64 r.2.1.Poly, .int .u64 r.2.1.From, .int .u64 r.2.1.End, .int .i64 r.2.2.1.Size, .int .u64 r.2.2.1.Poly, .int .u64 r.2.2.1.From, .int .u64 r.2.2.1.End, .int .i64 r.2.2.2.1.Size, .int .u64 r.2.2.2.1.Poly, .int .u64 r.2.2.2.1.From, .int .u64 r.2.2.2.1.End, .int .i64 r.2.2.2.2.Size, .int .u64 r.2.2.2.2.Poly, .int .u64 r.2.2.2.2.From, .int .u64 r.2.2.2.2.End]) ∧ K r ∧ Below w.heap.size w w' := by
 refine enter0 Tryz.func70 rfl rfl (by kernel_rfl) ?_; intro a0 hF0; have hM0 := Mem.start w Z hZ; have hle0 := Fz.le.refl Z
 refine sqH ?_; intro hQ1Q hQ1
 refine sn hF0 hM0 (fun b => .pointer (some ⟨b, 0, none⟩)) [.int .i64 0, .int .u64 0, .int .u64 0, .int .u64 0, .int .i64 0, .int .u64 0, .int .u64 0, .int .u64 0, .int .i64 0, .int .u64 0, .int .u64 0, .int .u64 0, .int .i64 0, .int .u64 0, .int .u64 0, .int .u64 0, .int .i64 0, .int .u64 0, .int .u64 0, .int .u64 0] 101 (nog rfl _) rfl (by kernel_rfl) (by kernel_rfl) ?_; intro b2 a3 wd5 hF4 hM6; clear hF0 hM0
 refine nlH (hQ1 _ _ ?_); clear hQ1 hQ1Q
 refine sqH ?_; intro hQ7Q hQ7
 refine s1 hF4 1 (.agg #[.int .i64 15, .int .u64 17817, .int .u64 0, .int .u64 0]) ?_; intro a8 hF9; clear hF4
 refine s1 hF9 2 (.agg #[.int .i64 17, .int .u64 92251, .int .u64 65536, .int .u64 0]) ?_; intro a10 hF11; clear hF9
 refine s1 hF11 3 (.agg #[.int .i64 21, .int .u64 1058969, .int .u64 1048576, .int .u64 0]) ?_; intro a12 hF13; clear hF11
 refine s1 hF13 4 (.agg #[.int .i64 8, .int .u64 47, .int .u64 255, .int .u64 255]) ?_; intro a14 hF15; clear hF13
 refine s1 hF15 5 (.agg #[.int .i64 16, .int .u64 4129, .int .u64 65535, .int .u64 0]) ?_; intro a16 hF17; clear hF15
 refine s1 hF17 6 (.agg #[.int .i64 15, .int .u64 17817, .int .u64 0, .int .u64 0, .int .i64 17, .int .u64 92251, .int .u64 65536, .int .u64 0, .int .i64 21, .int .u64 1058969, .int .u64 1048576, .int .u64 0, .int .i64 8, .int .u64 47, .int .u64 255, .int .u64 255, .int .i64 16, .int .u64 4129, .int .u64 65535, .int .u64 0]) ?_; intro a18 hF19; clear hF17
 refine sr hF19 hM6 0 [.int .i64 15, .int .u64 17817, .int .u64 0, .int .u64 0, .int .i64 17, .int .u64 92251, .int .u64 65536, .int .u64 0, .int .i64 21, .int .u64 1058969, .int .u64 1048576, .int .u64 0, .int .i64 8, .int .u64 47, .int .u64 255, .int .u64 255, .int .i64 16, .int .u64 4129, .int .u64 65535, .int .u64 0] (b := b2) (off := 0) (cs := [.int .i64 0, .int .u64 0, .int .u64 0, .int .u64 0, .int .i64 0, .int .u64 0, .int .u64 0, .int .u64 0, .int .i64 0, .int .u64 0, .int .u64 0, .int .u64 0, .int .i64 0, .int .u64 0, .int .u64 0, .int .u64 0, .int .i64 0, .int .u64 0, .int .u64 0, .int .u64 0]) (ty := 101) (u := .agg #[.int .i64 15, .int .u64 17817, .int .u64 0, .int .u64 0, .int .i64 17, .int .u64 92251, .int .u64 65536, .int .u64 0, .int .i64 21, .int .u64 1058969, .int .u64 1048576, .int .u64 0, .int .i64 8, .int .u64 47, .int .u64 255, .int .u64 255, .int .i64 16, .int .u64 4129, .int .u64 65535, .int .u64 0]) (nog rfl _) rfl rfl (by kernel_rfl) (by kernel_rfl) (by kernel_rfl) (by kernel_rfl) (by kernel_rfl) (by kernel_rfl) (by kernel_rfl) ?_; intro wd20 hM21; clear hM6
 have hM22 : Mem w.heap.size [] w Z [.row b2 [.int .i64 15, .int .u64 17817, .int .u64 0, .int .u64 0, .int .i64 17, .int .u64 92251, .int .u64 65536, .int .u64 0, .int .i64 21, .int .u64 1058969, .int .u64 1048576, .int .u64 0, .int .i64 8, .int .u64 47, .int .u64 255, .int .u64 255, .int .i64 16, .int .u64 4129, .int .u64 65535, .int .u64 0] 101] Z wd20 := hM21; clear hM21
 refine nlH (hQ7 _ _ ?_); clear hQ7 hQ7Q
 refine wp_ret ?_
 refine rt (fn := Tryz.f70) (v := .agg #[.int .i64 15, .int .u64 17817, .int .u64 0, .int .u64 0, .int .i64 17, .int .u64 92251, .int .u64 65536, .int .u64 0, .int .i64 21, .int .u64 1058969, .int .u64 1048576, .int .u64 0, .int .i64 8, .int .u64 47, .int .u64 255, .int .u64 255, .int .i64 16, .int .u64 4129, .int .u64 65535, .int .u64 0]) hF19 (re1c hF19 (fn := Tryz.f70) rfl (ad := ⟨b2, 0, none⟩) (by kernel_rfl) (loadVar_run hM22 0 (b := b2) (k := 20) (vs := [.int .i64 15, .int .u64 17817, .int .u64 0, .int .u64 0, .int .i64 17, .int .u64 92251, .int .u64 65536, .int .u64 0, .int .i64 21, .int .u64 1058969, .int .u64 1048576, .int .u64 0, .int .i64 8, .int .u64 47, .int .u64 255, .int .u64 255, .int .i64 16, .int .u64 4129, .int .u64 65535, .int .u64 0]) (ty := 101) rfl (by kernel_rfl) (by kernel_rfl)) ) ?_
 exact ⟨((⟨15, 17817, 0, 0⟩ : Kind), (⟨17, 92251, 65536, 0⟩ : Kind), (⟨21, 1058969, 1048576, 0⟩ : Kind), (⟨8, 47, 255, 255⟩ : Kind), (⟨16, 4129, 65535, 0⟩ : Kind)), rfl, hp, hM22.below⟩
theorem ckinds_fun   (Z : Fz) (w : World)  (hZ : Z.on w) : Calls Tryz.prog 70 #[] w fun e w' => e = .returned (.agg #[.int .i64 ckinds.1.Size, .int .u64 ckinds.1.Poly, .int .u64 ckinds.1.From, .int .u64 ckinds.1.End, .int .i64 ckinds.2.1.Size, .int .u64 ckinds.2.1.Poly, .int .u64 ckinds.2.1.From, .int .u64 ckinds.2.1.End, .int .i64 ckinds.2.2.1.Size, .int .u64 ckinds.2.2.1.Poly, .int .u64 ckinds.2.2.1.From, .int .u64 ckinds.2.2.1.End, .int .i64 ckinds.2.2.2.1.Size, .int .u64 ckinds.2.2.2.1.Poly, .int .u64 ckinds.2.2.2.1.From, .int .u64 ckinds.2.2.2.1.End, .int .i64 ckinds.2.2.2.2.Size, .int .u64 ckinds.2.2.2.2.Poly, .int .u64 ckinds.2.2.2.2.From, .int .u64 ckinds.2.2.2.2.End]) ∧ Below w.heap.size w w' :=
  (ckinds_walk   Z w  hZ (ckinds_ok )).mono fun _ _ ⟨r, he, hk, hb⟩ => ⟨by subst hk; exact he, hb⟩

set_option maxRecDepth 100000 in
set_option maxHeartbeats 0 in
theorem csize_walk (u0 : Int)  (Z : Fz) (w : World)  (hZ : Z.on w) {K : (Int × Int) → Prop} (hp : csize_vc u0 K) : Calls Tryz.prog 63 #[.int .i64 u0] w fun e w' => ∃ r : Int × Int, e = .returned (.tuple #[.int .i64 r.1, .int .i64 r.2]) ∧ K r ∧ Below w.heap.size w w' := by
 refine enter0 Tryz.func63 rfl rfl (by kernel_rfl) ?_; intro a0 hF0; have hM0 := Mem.start w Z hZ; have hle0 := Fz.le.refl Z
 refine sqH ?_; intro hQ1Q hQ1
 refine s1 hF0 2 (.int .i64 0) ?_; intro a2 hF3; clear hF0
 refine s1 hF3 3 (.int .i64 0) ?_; intro a4 hF5; clear hF3
 refine nlH (hQ1 _ _ ?_); clear hQ1 hQ1Q
 refine wp_seq ?_
 refine sqH ?_; intro hQ6Q hQ6
 refine s1 hF5 4 (.int .i64 u0) ?_; intro a7 hF8; clear hF5
 refine s1 hF8 5 (.bool (decide (u0 < 0))) ?_; intro a9 hF10; clear hF8
 refine s1 hF10 6 (.bool (decide (u0 < 0))) ?_; intro a11 hF12; clear hF10
 have hF13 := hF12.atom ((decide (u0 < 0)) == false) (by kernel_rfl); clear hF12
 refine gp hF13 7 0 [] (decide (u0 < 0)) (.int .i64 u0) rfl rfl ?_; intro a14 hF15; clear hF13
 refine gcl hF15 hM0 (.agg #[.int .i64 ckinds.1.Size, .int .u64 ckinds.1.Poly, .int .u64 ckinds.1.From, .int .u64 ckinds.1.End, .int .i64 ckinds.2.1.Size, .int .u64 ckinds.2.1.Poly, .int .u64 ckinds.2.1.From, .int .u64 ckinds.2.1.End, .int .i64 ckinds.2.2.1.Size, .int .u64 ckinds.2.2.1.Poly, .int .u64 ckinds.2.2.1.From, .int .u64 ckinds.2.2.1.End, .int .i64 ckinds.2.2.2.1.Size, .int .u64 ckinds.2.2.2.1.Poly, .int .u64 ckinds.2.2.2.1.From, .int .u64 ckinds.2.2.2.1.End, .int .i64 ckinds.2.2.2.2.Size, .int .u64 ckinds.2.2.2.2.Poly, .int .u64 ckinds.2.2.2.2.From, .int .u64 ckinds.2.2.2.2.End]) 70 #[] (m := 0) (cj := []) (bj := decide (u0 < 0)) rfl rfl (by kernel_rfl) rfl (by kernel_rfl) (by kernel_rfl) (by kernel_rfl) (fun _ => by kernel_rfl) (fun hg => ckinds_fun  _ _ hM0.fz) ?_; intro a16 wd18 hF17 hM19; clear hF15 hM0
 refine gp hF17 9 0 [] (decide (u0 < 0)) (.int .i64 5) rfl rfl ?_; intro a20 hF21; clear hF17
 refine gp hF21 10 0 [] (decide (u0 < 0)) (.bool (decide (u0 ≥ 5))) rfl rfl ?_; intro a22 hF23; clear hF21
 refine st hF23 (.bool ((decide (u0 < 0)) || (decide (u0 ≥ 5)))) (nog rfl _) rfl (by kernel_rfl) (pk_or hF23 (g := []) (m := 0) (b := decide (u0 < 0)) (v := decide (u0 ≥ 5)) rfl (by kernel_rfl) (by kernel_rfl) (by kernel_rfl) rfl) ?_; intro a24 hF25; clear hF23
 refine nlH (hQ6 _ _ ?_); clear hQ6 hQ6Q
 refine cd hF25 (t := (decide (u0 < 0)) || (decide (u0 ≥ 5))) (by kernel_rfl) (fun hb26 => ?_) (fun hb26 => ?_)
 ·
  have hp27 := hp.1 hb26; clear hp
  have hF28 : Fr 16 [] [] a24 := hF25.reg; clear hF25
  refine sqH ?_; intro hQ29Q hQ29
  refine s1 hF28 2 (.int .i64 0) ?_; intro a30 hF31; clear hF28
  refine s1 hF31 3 (.int .i64 8) ?_; intro a32 hF33; clear hF31
  refine nlH (hQ29 _ _ ?_); clear hQ29 hQ29Q
  refine wp_ret ?_
  refine thr ?_
  refine rt (fn := Tryz.f63) (v := .tuple #[.int .i64 0, .int .i64 8]) hF33 (re2 hF33 (fn := Tryz.f63) rfl (by kernel_rfl) (by kernel_rfl)) ?_
  exact ⟨(0, 8), rfl, hp27, hM19.below⟩
 ·
  have hp34 := hp.2 hb26; clear hp
  refine wp_skip ?_
  refine thn ?_
  have hF35 : Fr 16 [] [⟨0, [], .int .i64 u0⟩] a24 := hF25.reg; clear hF25
  refine sqH ?_; intro hQ36Q hQ36
  refine fcl hF35 hM19 (.agg #[.int .i64 ckinds.1.Size, .int .u64 ckinds.1.Poly, .int .u64 ckinds.1.From, .int .u64 ckinds.1.End, .int .i64 ckinds.2.1.Size, .int .u64 ckinds.2.1.Poly, .int .u64 ckinds.2.1.From, .int .u64 ckinds.2.1.End, .int .i64 ckinds.2.2.1.Size, .int .u64 ckinds.2.2.1.Poly, .int .u64 ckinds.2.2.1.From, .int .u64 ckinds.2.2.1.End, .int .i64 ckinds.2.2.2.1.Size, .int .u64 ckinds.2.2.2.1.Poly, .int .u64 ckinds.2.2.2.1.From, .int .u64 ckinds.2.2.2.1.End, .int .i64 ckinds.2.2.2.2.Size, .int .u64 ckinds.2.2.2.2.Poly, .int .u64 ckinds.2.2.2.2.From, .int .u64 ckinds.2.2.2.2.End]) 70 #[] (nog rfl _) rfl (by kernel_rfl) (fun _ => by kernel_rfl) (ckinds_fun  _ _ hM19.fz) ?_; intro a37 wd39 hF38 hM40; clear hF35 hM19
  refine s1 hF38 13 (.int .i64 u0) ?_; intro a41 hF42; clear hF38
  have hc43 := hp34.1; have hp44 := hp34.2; clear hp34
  have hix : ∀ x : Int, 0 ≤ x ∧ x < 5 → x = 0 ∨ x = 1 ∨ x = 2 ∨ x = 3 ∨ x = 4 := by intro x hx; omega
  refine st hF42 (.agg #[.int .i64 (([ckinds.1.Size, ckinds.2.1.Size, ckinds.2.2.1.Size, ckinds.2.2.2.1.Size, ckinds.2.2.2.2.Size] : List Int).getD u0.toNat 0), .int .u64 (([ckinds.1.Poly, ckinds.2.1.Poly, ckinds.2.2.1.Poly, ckinds.2.2.2.1.Poly, ckinds.2.2.2.2.Poly] : List Int).getD u0.toNat 0), .int .u64 (([ckinds.1.From, ckinds.2.1.From, ckinds.2.2.1.From, ckinds.2.2.2.1.From, ckinds.2.2.2.2.From] : List Int).getD u0.toNat 0), .int .u64 (([ckinds.1.End, ckinds.2.1.End, ckinds.2.2.1.End, ckinds.2.2.2.1.End, ckinds.2.2.2.2.End] : List Int).getD u0.toNat 0)]) (nog rfl _) rfl (by kernel_rfl) ((by generalize u0 = ix at *; rcases hix _ hc43 with rfl | rfl | rfl | rfl | rfl <;> exact p0 hF42 (by kernel_rfl))) ?_; intro a45 hF46; clear hF42
  refine s1 hF46 15 (.int .i64 (([ckinds.1.Size, ckinds.2.1.Size, ckinds.2.2.1.Size, ckinds.2.2.2.1.Size, ckinds.2.2.2.2.Size] : List Int).getD u0.toNat 0)) ?_; intro a47 hF48; clear hF46
  refine s1 hF48 2 (.int .i64 (([ckinds.1.Size, ckinds.2.1.Size, ckinds.2.2.1.Size, ckinds.2.2.2.1.Size, ckinds.2.2.2.2.Size] : List Int).getD u0.toNat 0)) ?_; intro a49 hF50; clear hF48
  refine s1 hF50 3 (.int .i64 0) ?_; intro a51 hF52; clear hF50
  refine nlH (hQ36 _ _ ?_); clear hQ36 hQ36Q
  refine wp_ret ?_
  refine rt (fn := Tryz.f63) (v := .tuple #[.int .i64 (([ckinds.1.Size, ckinds.2.1.Size, ckinds.2.2.1.Size, ckinds.2.2.2.1.Size, ckinds.2.2.2.2.Size] : List Int).getD u0.toNat 0), .int .i64 0]) hF52 (re2 hF52 (fn := Tryz.f63) rfl (by kernel_rfl) (by kernel_rfl)) ?_
  exact ⟨(([ckinds.1.Size, ckinds.2.1.Size, ckinds.2.2.1.Size, ckinds.2.2.2.1.Size, ckinds.2.2.2.2.Size] : List Int).getD u0.toNat 0, 0), rfl, hp44, hM40.below⟩
theorem csize_fun (u0 : Int)  (Z : Fz) (w : World)  (hZ : Z.on w) : Calls Tryz.prog 63 #[.int .i64 u0] w fun e w' => e = .returned (.tuple #[.int .i64 ((csize u0).1), .int .i64 ((csize u0).2)]) ∧ Below w.heap.size w w' :=
  (csize_walk u0  Z w  hZ (csize_ok u0)).mono fun _ _ ⟨r, he, hk, hb⟩ => ⟨by subst hk; exact he, hb⟩

set_option maxRecDepth 100000 in
set_option maxHeartbeats 0 in
theorem ksum_walk (u0 : Kind) (u1 : List UInt8)  (Z : Fz) (w : World)  (hZ : Z.on w) {K : Int → Prop} (hp : ksum_vc u0 u1 K) : Calls Tryz.prog 72 #[.agg #[.int .i64 u0.Size, .int .u64 u0.Poly, .int .u64 u0.From, .int .u64 u0.End], str u1] w fun e w' => ∃ r : Int, e = .returned (.int .u64 r) ∧ K r ∧ Below w.heap.size w w' := by
 refine enter0 Tryz.func72 rfl rfl (by kernel_rfl) ?_; intro a0 hF0; have hM0 := Mem.start w Z hZ; have hle0 := Fz.le.refl Z
 refine sqH ?_; intro hQ1Q hQ1
 refine sn hF0 hM0 (fun b => .pointer (some ⟨b, 0, none⟩)) [.int .i64 u0.Size, .int .u64 u0.Poly, .int .u64 u0.From, .int .u64 u0.End] 100 (nog rfl _) rfl (by kernel_rfl) (by kernel_rfl) ?_; intro b2 a3 wd5 hF4 hM6; clear hF0 hM0
 refine s1 hF4 4 (.int .u64 0) ?_; intro a7 hF8; clear hF4
 refine nlH (hQ1 _ _ ?_); clear hQ1 hQ1Q
 refine sqH ?_; intro hQ9Q hQ9
 refine s1 hF8 9 (.pointer (some ⟨b2, 2, none⟩)) ?_; intro a10 hF11; clear hF8
 refine l1 hF11 hM6 10 0 2 (.int .u64 u0.From) rfl rfl ?_; intro a12 hF13; clear hF11
 refine s1 hF13 5 (.int .u64 u0.From) ?_; intro a14 hF15; clear hF13
 refine nlH (hQ9 _ _ ?_); clear hQ9 hQ9Q
 refine sqH ?_; intro hQ16Q hQ16
 refine s1 hF15 11 (.pointer (some ⟨b2, 0, none⟩)) ?_; intro a17 hF18; clear hF15
 refine l1 hF18 hM6 12 0 0 (.int .i64 u0.Size) rfl rfl ?_; intro a19 hF20; clear hF18
 refine s1 hF20 13 (.int .i64 (w64 (u0.Size - 1))) ?_; intro a21 hF22; clear hF20
 have hc23 := hp.1; have hp24 := hp.2; clear hp
 refine st hF22 (.int .u64 (bShl .u64 1 (w64 (u0.Size - 1)))) (nog rfl _) rfl (by kernel_rfl) (shl_run hF22 (g := []) (k' := .i64) rfl (by kernel_rfl) (by kernel_rfl) hc23 rfl) ?_; intro a25 hF26; clear hF22
 refine s1 hF26 6 (.int .u64 (bShl .u64 1 (w64 (u0.Size - 1)))) ?_; intro a27 hF28; clear hF26
 refine nlH (hQ16 _ _ ?_); clear hQ16 hQ16Q
 refine wp_seq ?_
 refine sqH ?_; intro hQ29Q hQ29
 refine s1 hF28 15 (str u1) ?_; intro a30 hF31; clear hF28
 refine s1 hF31 16 (.int .i64 (u1.length : Int)) ?_; intro a32 hF33; clear hF31
 refine s1 hF33 17 (.int .i64 0) ?_; intro a34 hF35; clear hF33
 refine nlH (hQ29 _ _ ?_); clear hQ29 hQ29Q
 refine wp_block ?_
 have hF36 : Fr 45 [] [⟨1, [], str u1⟩, ⟨2, [], .pointer (some ⟨b2, 0, none⟩)⟩, ⟨5, [], .int .u64 u0.From⟩, ⟨6, [], .int .u64 (bShl .u64 1 (w64 (u0.Size - 1)))⟩, ⟨16, [], .int .i64 (u1.length : Int)⟩, ⟨17, [], .int .i64 0⟩] a34 := hF35.reg; clear hF35
 have hF38 : Fr 45 [] [⟨1, [], str u1⟩, ⟨2, [], .pointer (some ⟨b2, 0, none⟩)⟩, ⟨5, [], .int .u64 u0.From⟩, ⟨6, [], .int .u64 (bShl .u64 1 (w64 (u0.Size - 1)))⟩, ⟨16, [], .int .i64 (u1.length : Int)⟩, ⟨17, [], .int .i64 0⟩] a34 := hF36.reg; clear hF36
 obtain ⟨inv37, mu37, hI41, hr40⟩ := hp24
 refine lp (ι := Int × Int) (fun (s : Int × Int) => [⟨1, [], str u1⟩, ⟨2, [], .pointer (some ⟨b2, 0, none⟩)⟩, ⟨5, [], .int .u64 s.1⟩, ⟨6, [], .int .u64 (bShl .u64 1 (w64 (u0.Size - 1)))⟩, ⟨16, [], .int .i64 (u1.length : Int)⟩, ⟨17, [], .int .i64 s.2⟩]) (fun (s : Int × Int) => [.row b2 [.int .i64 u0.Size, .int .u64 u0.Poly, .int .u64 u0.From, .int .u64 u0.End] 100]) (fun (s : Int × Int) => Z) (fun (s : Int × Int) => inv37 s.1 s.2) (fun (s : Int × Int) => mu37 s.1 s.2) ⟨u0.From, 0⟩ hI41 (by exact hF38.reg) (by exact hM6) ?_
 rintro ⟨x5, x17⟩ hI39 a43 wd44 hF45 hM46
 have hF47 : Fr 45 [] [⟨1, [], str u1⟩, ⟨2, [], .pointer (some ⟨b2, 0, none⟩)⟩, ⟨5, [], .int .u64 x5⟩, ⟨6, [], .int .u64 (bShl .u64 1 (w64 (u0.Size - 1)))⟩, ⟨16, [], .int .i64 (u1.length : Int)⟩, ⟨17, [], .int .i64 x17⟩] a43 := hF45; clear hF45 hF38
 have hM48 : Mem w.heap.size [] w Z [.row b2 [.int .i64 u0.Size, .int .u64 u0.Poly, .int .u64 u0.From, .int .u64 u0.End] 100] Z wd44 := hM46; clear hM46 hM6
 have hp49 := hr40 x5 x17 hI39
 refine sqH ?_; intro hQ50Q hQ50
 refine s1 hF47 18 (.bool (decide (x17 < (u1.length : Int)))) ?_; intro a51 hF52; clear hF47
 refine nlH (hQ50 _ _ ?_); clear hQ50 hQ50Q
 refine wp_seq ?_
 refine cd hF52 (t := decide (x17 < (u1.length : Int))) (by kernel_rfl) (fun hb53 => ?_) (fun hb53 => ?_)
 ·
  have hp54 := hp49.1 hb53; clear hp49
  refine wp_skip ?_
  refine thn ?_
  refine wp_seq ?_
  refine wp_block ?_
  refine sqH ?_; intro hQ55Q hQ55
  refine s1 hF52 19 (.int .i64 x17) ?_; intro a56 hF57; clear hF52
  refine s1 hF57 7 (.int .i64 x17) ?_; intro a58 hF59; clear hF57
  refine nlH (hQ55 _ _ ?_); clear hQ55 hQ55Q
  refine sqH ?_; intro hQ60Q hQ60
  refine s1 hF59 20 (.int .u64 x5) ?_; intro a61 hF62; clear hF59
  refine s1 hF62 21 (.int .u64 (bShl .u64 1 (w64 (u0.Size - 1)))) ?_; intro a63 hF64; clear hF62
  refine s1 hF64 22 (.int .u64 (bAnd .u64 x5 (bShl .u64 1 (w64 (u0.Size - 1))))) ?_; intro a65 hF66; clear hF64
  refine s1 hF66 23 (.bool ((bAnd .u64 x5 (bShl .u64 1 (w64 (u0.Size - 1)))) != 0)) ?_; intro a67 hF68; clear hF66
  refine s1 hF68 24 (str u1) ?_; intro a69 hF70; clear hF68
  refine s1 hF70 25 (.int .i64 x17) ?_; intro a71 hF72; clear hF70
  have hc73 := hp54.1; have hp74 := hp54.2; clear hp54
  obtain ⟨c75, hq76⟩ : ∃ q, u1[x17.toNat]? = some q := ⟨_, List.getElem?_eq_getElem (by omega)⟩; have hp77 := hp74 c75 hq76
  refine st hF72 (.int .u8 (c75.toNat : Int)) (nog rfl _) rfl (by kernel_rfl) (stridx_run hF72 (k := .i64) rfl (by kernel_rfl) (by kernel_rfl) (by kernel_rfl) hc73.1 hq76) ?_; intro a78 hF79; clear hF72
  refine s1 hF79 27 (.bool ((c75.toNat : Int) == 49)) ?_; intro a80 hF81; clear hF79
  refine s1 hF81 28 (.bool (((bAnd .u64 x5 (bShl .u64 1 (w64 (u0.Size - 1)))) != 0) != ((c75.toNat : Int) == 49))) ?_; intro a82 hF83; clear hF81
  refine s1 hF83 8 (.bool (((bAnd .u64 x5 (bShl .u64 1 (w64 (u0.Size - 1)))) != 0) != ((c75.toNat : Int) == 49))) ?_; intro a84 hF85; clear hF83
  refine nlH (hQ60 _ _ ?_); clear hQ60 hQ60Q
  refine sqH ?_; intro hQ86Q hQ86
  refine s1 hF85 29 (.int .u64 x5) ?_; intro a87 hF88; clear hF85
  refine s1 hF88 30 (.int .u64 (bShl .u64 x5 1)) ?_; intro a89 hF90; clear hF88
  refine s1 hF90 31 (.int .u64 (bShl .u64 1 (w64 (u0.Size - 1)))) ?_; intro a91 hF92; clear hF90
  refine s1 hF92 32 (.int .u64 (bShl .u64 (bShl .u64 1 (w64 (u0.Size - 1))) 1)) ?_; intro a93 hF94; clear hF92
  refine s1 hF94 33 (.int .u64 (wu64 ((bShl .u64 (bShl .u64 1 (w64 (u0.Size - 1))) 1) - 1))) ?_; intro a95 hF96; clear hF94
  refine s1 hF96 34 (.int .u64 (bAnd .u64 (bShl .u64 x5 1) (wu64 ((bShl .u64 (bShl .u64 1 (w64 (u0.Size - 1))) 1) - 1)))) ?_; intro a97 hF98; clear hF96
  refine s1 hF98 5 (.int .u64 (bAnd .u64 (bShl .u64 x5 1) (wu64 ((bShl .u64 (bShl .u64 1 (w64 (u0.Size - 1))) 1) - 1)))) ?_; intro a99 hF100; clear hF98
  refine nlH (hQ86 _ _ ?_); clear hQ86 hQ86Q
  have hF101 : Fr 45 [] [⟨1, [], str u1⟩, ⟨2, [], .pointer (some ⟨b2, 0, none⟩)⟩, ⟨5, [], .int .u64 (bAnd .u64 (bShl .u64 x5 1) (wu64 ((bShl .u64 (bShl .u64 1 (w64 (u0.Size - 1))) 1) - 1)))⟩, ⟨6, [], .int .u64 (bShl .u64 1 (w64 (u0.Size - 1)))⟩, ⟨8, [], .bool (((bAnd .u64 x5 (bShl .u64 1 (w64 (u0.Size - 1)))) != 0) != ((c75.toNat : Int) == 49))⟩, ⟨16, [], .int .i64 (u1.length : Int)⟩, ⟨17, [], .int .i64 x17⟩] a99 := hF100.reg; clear hF100
  refine sqH ?_; intro hQ102Q hQ102
  refine s1 hF101 35 (.bool (((bAnd .u64 x5 (bShl .u64 1 (w64 (u0.Size - 1)))) != 0) != ((c75.toNat : Int) == 49))) ?_; intro a103 hF104; clear hF101
  refine nlH (hQ102 _ _ ?_); clear hQ102 hQ102Q
  refine cd hF104 (t := ((bAnd .u64 x5 (bShl .u64 1 (w64 (u0.Size - 1)))) != 0) != ((c75.toNat : Int) == 49)) (by kernel_rfl) (fun hb105 => ?_) (fun hb105 => ?_)
  ·
   have hp106 := hp77.1 hb105; clear hp77
   refine rgH ?_; intro hQ107Q hQ107
   refine s1 hF104 36 (.int .u64 (bAnd .u64 (bShl .u64 x5 1) (wu64 ((bShl .u64 (bShl .u64 1 (w64 (u0.Size - 1))) 1) - 1)))) ?_; intro a108 hF109; clear hF104
   refine s1 hF109 37 (.pointer (some ⟨b2, 1, none⟩)) ?_; intro a110 hF111; clear hF109
   refine l1 hF111 hM48 38 0 1 (.int .u64 u0.Poly) rfl rfl ?_; intro a112 hF113; clear hF111
   refine s1 hF113 39 (.int .u64 (bXor .u64 (bAnd .u64 (bShl .u64 x5 1) (wu64 ((bShl .u64 (bShl .u64 1 (w64 (u0.Size - 1))) 1) - 1))) u0.Poly)) ?_; intro a114 hF115; clear hF113
   refine s1 hF115 5 (.int .u64 (bXor .u64 (bAnd .u64 (bShl .u64 x5 1) (wu64 ((bShl .u64 (bShl .u64 1 (w64 (u0.Size - 1))) 1) - 1))) u0.Poly)) ?_; intro a116 hF117; clear hF115
   refine nlH (hQ107 _ _ ?_); clear hQ107 hQ107Q
   refine ibn ?_
   refine thn ?_
   refine rgH ?_; intro hQ118Q hQ118
   refine s1 hF117 40 (.int .i64 (w64 (x17 + 1))) ?_; intro a119 hF120; clear hF117
   refine s1 hF120 17 (.int .i64 (w64 (x17 + 1))) ?_; intro a121 hF122; clear hF120
   refine nlH (hQ118 _ _ ?_); clear hQ118 hQ118Q
   refine rd ?_
   exact ⟨⟨bXor .u64 (bAnd .u64 (bShl .u64 x5 1) (wu64 ((bShl .u64 (bShl .u64 1 (w64 (u0.Size - 1))) 1) - 1))) u0.Poly, w64 (x17 + 1)⟩, hp106.1, hp106.2, (hF122.reg).anyβ _ (by kernel_rfl), hM48.keep (List.Sublist.cons_cons _ (List.Sublist.slnil))⟩
  ·
   have hp123 := hp77.2 hb105; clear hp77
   refine wp_skip ?_
   refine ibn ?_
   refine thn ?_
   refine rgH ?_; intro hQ124Q hQ124
   refine s1 hF104 40 (.int .i64 (w64 (x17 + 1))) ?_; intro a125 hF126; clear hF104
   refine s1 hF126 17 (.int .i64 (w64 (x17 + 1))) ?_; intro a127 hF128; clear hF126
   refine nlH (hQ124 _ _ ?_); clear hQ124 hQ124Q
   refine rd ?_
   exact ⟨⟨bAnd .u64 (bShl .u64 x5 1) (wu64 ((bShl .u64 (bShl .u64 1 (w64 (u0.Size - 1))) 1) - 1)), w64 (x17 + 1)⟩, hp123.1, hp123.2, (hF128.reg).anyβ _ (by kernel_rfl), hM48.keep (List.Sublist.cons_cons _ (List.Sublist.slnil))⟩
 ·
  have hp129 := hp49.2 hb53; clear hp49
  refine wp_exit ?_
  refine thx ?_
  refine thx ?_
  refine ibx ?_
  refine thn ?_
  refine sqH ?_; intro hQ130Q hQ130
  refine s1 hF52 41 (.int .u64 x5) ?_; intro a131 hF132; clear hF52
  refine s1 hF132 42 (.pointer (some ⟨b2, 3, none⟩)) ?_; intro a133 hF134; clear hF132
  refine l1 hF134 hM48 43 0 3 (.int .u64 u0.End) rfl rfl ?_; intro a135 hF136; clear hF134
  refine s1 hF136 44 (.int .u64 (bXor .u64 x5 u0.End)) ?_; intro a137 hF138; clear hF136
  refine s1 hF138 4 (.int .u64 (bXor .u64 x5 u0.End)) ?_; intro a139 hF140; clear hF138
  refine nlH (hQ130 _ _ ?_); clear hQ130 hQ130Q
  refine wp_ret ?_
  refine rt (fn := Tryz.f72) (v := .int .u64 (bXor .u64 x5 u0.End)) hF140 (re1 hF140 (fn := Tryz.f72) rfl (by kernel_rfl)) ?_
  exact ⟨bXor .u64 x5 u0.End, rfl, hp129, hM48.below⟩

set_option maxRecDepth 100000 in
set_option maxHeartbeats 0 in
theorem cnext_walk (u0 : Counter) (u1 : Int) (b1 : Nat) (B : Nat) (w0 : World) (Z0 : Fz) (Rr : List Res) (Z : Fz) (w : World) (hM0 : Mem B [] w0 Z0 ((.row b1 [.int .u8 u0.last, .int .i64 u0.n] 57) :: Rr) Z w) (hZ : Z.on w) {K : (Int × Bool × Counter) → Prop} (hp : cnext_vc u0 u1 K) : Calls Tryz.prog 69 #[.pointer (some ⟨b1, 0, none⟩), .int .u8 u1] w fun e w' => ∃ (r : Int × Bool × Counter) (Z' : Fz), e = .returned (.tuple #[.int .u8 r.1, .bool r.2.1]) ∧ K r ∧ Fz.le Z Z' ∧ Mem B [] w0 Z0 ((.row b1 [.int .u8 r.2.2.last, .int .i64 r.2.2.n] 57) :: Rr) Z' w' := by
 refine enter0 Tryz.func69 rfl rfl (by kernel_rfl) ?_; intro a0 hF0; have hle0 := Fz.le.refl Z
 refine sqH ?_; intro hQ2Q hQ2
 refine s1 hF0 4 (.int .u8 0) ?_; intro a3 hF4; clear hF0
 refine s1 hF4 5 (.bool false) ?_; intro a5 hF6; clear hF4
 refine nlH (hQ2 _ _ ?_); clear hQ2 hQ2Q
 refine wp_seq ?_
 refine sqH ?_; intro hQ7Q hQ7
 refine s1 hF6 6 (.int .u8 u1) ?_; intro a8 hF9; clear hF6
 refine s1 hF9 7 (.pointer (some ⟨b1, 0, none⟩)) ?_; intro a10 hF11; clear hF9
 refine s1 hF11 8 (.pointer (some ⟨b1, 0, none⟩)) ?_; intro a12 hF13; clear hF11
 refine s1 hF13 9 (.pointer (some ⟨b1, 0, none⟩)) ?_; intro a14 hF15; clear hF13
 refine l1 hF15 hM0 10 0 0 (.int .u8 u0.last) rfl rfl ?_; intro a16 hF17; clear hF15
 refine s1 hF17 11 (.bool (u1 == u0.last)) ?_; intro a18 hF19; clear hF17
 refine nlH (hQ7 _ _ ?_); clear hQ7 hQ7Q
 refine cd hF19 (t := u1 == u0.last) (by kernel_rfl) (fun hb20 => ?_) (fun hb20 => ?_)
 ·
  have hp21 := hp.1 hb20; clear hp
  refine rgH ?_; intro hQ22Q hQ22
  refine s1 hF19 12 (.pointer (some ⟨b1, 0, none⟩)) ?_; intro a23 hF24; clear hF19
  refine s1 hF24 13 (.pointer (some ⟨b1, 0, none⟩)) ?_; intro a25 hF26; clear hF24
  refine s1 hF26 14 (.pointer (some ⟨b1, 1, none⟩)) ?_; intro a27 hF28; clear hF26
  refine l1 hF28 hM0 15 0 1 (.int .i64 u0.n) rfl rfl ?_; intro a29 hF30; clear hF28
  refine s1 hF30 16 (.int .i64 (w64 (u0.n + 1))) ?_; intro a31 hF32; clear hF30
  refine s1 hF32 17 (.pointer (some ⟨b1, 0, none⟩)) ?_; intro a33 hF34; clear hF32
  refine s1 hF34 18 (.pointer (some ⟨b1, 1, none⟩)) ?_; intro a35 hF36; clear hF34
  refine sr hF36 hM0 0 [.int .u8 u0.last, .int .i64 (w64 (u0.n + 1))] (b := b1) (off := 1) (cs := [.int .u8 u0.last, .int .i64 u0.n]) (ty := 57) (u := .int .i64 (w64 (u0.n + 1))) (nog rfl _) rfl rfl (by kernel_rfl) (by kernel_rfl) (by kernel_rfl) (by kernel_rfl) (by kernel_rfl) (by kernel_rfl) (by kernel_rfl) ?_; intro wd37 hM38; clear hM0
  have hM39 : Mem B [] w0 Z0 ((.row b1 [.int .u8 u0.last, .int .i64 (w64 (u0.n + 1))] 57) :: Rr) Z wd37 := hM38; clear hM38
  refine nlH (hQ22 _ _ ?_); clear hQ22 hQ22Q
  refine thn ?_
  have hF40 : Fr 33 [] [⟨0, [], .pointer (some ⟨b1, 0, none⟩)⟩, ⟨1, [], .int .u8 u1⟩] a35 := hF36.reg; clear hF36
  refine sqQH mixed (by kernel_rfl) hM39 ?_; intro hQ41Q hQ41
  refine q1 hF40 26 (.int .u8 u1) ?_; intro a43 hF44; clear hF40
  refine q1 hF44 27 (.int .u8 (w8 (97 - u1))) ?_; intro a46 hF47; clear hF44
  refine q1 hF47 28 (.pointer (some ⟨b1, 0, none⟩)) ?_; intro a49 hF50; clear hF47
  refine q1 hF50 29 (.pointer (some ⟨b1, 0, none⟩)) ?_; intro a52 hF53; clear hF50
  refine q1 hF53 30 (.pointer (some ⟨b1, 1, none⟩)) ?_; intro a55 hF56; clear hF53
  refine qst hF56 (.int .i64 (w64 (u0.n + 1))) (nog rfl _) rfl (by kernel_rfl) (fun v57 hC => ld hF56 hC 0 (g := []) (b := b1) (off := 1) (cs := [.int .u8 u0.last, .int .i64 (w64 (u0.n + 1))]) (ty := 57) rfl (by kernel_rfl) (by kernel_rfl) (by kernel_rfl) (by kernel_rfl) rfl) ?_; intro a58 hF59; clear hF56
  refine q1 hF59 32 (.bool ((w64 (u0.n + 1)) == 5)) ?_; intro a61 hF62; clear hF59
  refine q1 hF62 4 (.int .u8 (w8 (97 - u1))) ?_; intro a64 hF65; clear hF62
  refine q1 hF65 5 (.bool ((w64 (u0.n + 1)) == 5)) ?_; intro a67 hF68; clear hF65
  refine qnl (hQ41 _ ?_); clear hQ41 hQ41Q; intro wd69 hM70; clear hM39
  refine wp_ret ?_
  refine rt (fn := Tryz.f69) (v := .tuple #[.int .u8 (w8 (97 - u1)), .bool ((w64 (u0.n + 1)) == 5)]) hF68 (re2 hF68 (fn := Tryz.f69) rfl (by kernel_rfl) (by kernel_rfl)) ?_
  exact ⟨(w8 (97 - u1), (w64 (u0.n + 1)) == 5, (⟨u0.last, w64 (u0.n + 1)⟩ : Counter)), Z, rfl, hp21, hle0, hM70.keep (List.Sublist.cons_cons _ (List.Sublist.refl _))⟩
 ·
  have hp71 := hp.2 hb20; clear hp
  refine rgH ?_; intro hQ72Q hQ72
  refine s1 hF19 19 (.pointer (some ⟨b1, 0, none⟩)) ?_; intro a73 hF74; clear hF19
  refine s1 hF74 20 (.pointer (some ⟨b1, 0, none⟩)) ?_; intro a75 hF76; clear hF74
  refine s1 hF76 21 (.int .u8 u1) ?_; intro a77 hF78; clear hF76
  refine s1 hF78 22 (.pointer (some ⟨b1, 0, none⟩)) ?_; intro a79 hF80; clear hF78
  refine s1 hF80 23 (.pointer (some ⟨b1, 0, none⟩)) ?_; intro a81 hF82; clear hF80
  refine sr hF82 hM0 0 [.int .u8 u1, .int .i64 u0.n] (b := b1) (off := 0) (cs := [.int .u8 u0.last, .int .i64 u0.n]) (ty := 57) (u := .int .u8 u1) (nog rfl _) rfl rfl (by kernel_rfl) (by kernel_rfl) (by kernel_rfl) (by kernel_rfl) (by kernel_rfl) (by kernel_rfl) (by kernel_rfl) ?_; intro wd83 hM84; clear hM0
  refine s1 hF82 24 (.pointer (some ⟨b1, 0, none⟩)) ?_; intro a85 hF86; clear hF82
  refine s1 hF86 25 (.pointer (some ⟨b1, 1, none⟩)) ?_; intro a87 hF88; clear hF86
  refine sr hF88 hM84 0 [.int .u8 u1, .int .i64 1] (b := b1) (off := 1) (cs := [.int .u8 u1, .int .i64 u0.n]) (ty := 57) (u := .int .i64 1) (nog rfl _) rfl rfl (by kernel_rfl) (by kernel_rfl) (by kernel_rfl) (by kernel_rfl) (by kernel_rfl) (by kernel_rfl) (by kernel_rfl) ?_; intro wd89 hM90; clear hM84
  have hM91 : Mem B [] w0 Z0 ((.row b1 [.int .u8 u1, .int .i64 1] 57) :: Rr) Z wd89 := hM90; clear hM90
  refine nlH (hQ72 _ _ ?_); clear hQ72 hQ72Q
  refine thn ?_
  have hF92 : Fr 33 [] [⟨0, [], .pointer (some ⟨b1, 0, none⟩)⟩, ⟨1, [], .int .u8 u1⟩] a87 := hF88.reg; clear hF88
  refine sqQH mixed (by kernel_rfl) hM91 ?_; intro hQ93Q hQ93
  refine q1 hF92 26 (.int .u8 u1) ?_; intro a95 hF96; clear hF92
  refine q1 hF96 27 (.int .u8 (w8 (97 - u1))) ?_; intro a98 hF99; clear hF96
  refine q1 hF99 28 (.pointer (some ⟨b1, 0, none⟩)) ?_; intro a101 hF102; clear hF99
  refine q1 hF102 29 (.pointer (some ⟨b1, 0, none⟩)) ?_; intro a104 hF105; clear hF102
  refine q1 hF105 30 (.pointer (some ⟨b1, 1, none⟩)) ?_; intro a107 hF108; clear hF105
  refine qst hF108 (.int .i64 1) (nog rfl _) rfl (by kernel_rfl) (fun v109 hC => ld hF108 hC 0 (g := []) (b := b1) (off := 1) (cs := [.int .u8 u1, .int .i64 1]) (ty := 57) rfl (by kernel_rfl) (by kernel_rfl) (by kernel_rfl) (by kernel_rfl) rfl) ?_; intro a110 hF111; clear hF108
  refine q1 hF111 32 (.bool false) ?_; intro a113 hF114; clear hF111
  refine q1 hF114 4 (.int .u8 (w8 (97 - u1))) ?_; intro a116 hF117; clear hF114
  refine q1 hF117 5 (.bool false) ?_; intro a119 hF120; clear hF117
  refine qnl (hQ93 _ ?_); clear hQ93 hQ93Q; intro wd121 hM122; clear hM91
  refine wp_ret ?_
  refine rt (fn := Tryz.f69) (v := .tuple #[.int .u8 (w8 (97 - u1)), .bool false]) hF120 (re2 hF120 (fn := Tryz.f69) rfl (by kernel_rfl) (by kernel_rfl)) ?_
  exact ⟨(w8 (97 - u1), false, (⟨u1, 1⟩ : Counter)), Z, rfl, hp71, hle0, hM122.keep (List.Sublist.cons_cons _ (List.Sublist.refl _))⟩



set_option maxRecDepth 100000 in
set_option maxHeartbeats 0 in
theorem cnextF_walk (u0 : FReader) (u1 : Int) (b1 : Nat) (ao2 : Option Addr) (cap3 : Nat) (B : Nat) (w0 : World) (Z0 : Fz) (Rr : List Res) (Z : Fz) (w : World) (hs4 : SlR (tyInt .u8) Z ao2 cap3 u0.f.Data) (hM0 : Mem B [] w0 Z0 ((.row b1 [str u0.Reader.Row, .int .i64 u0.Reader.At, .int .i64 u0.Reader.Code, .int .u8 u0.Reader.c.last, .int .i64 u0.Reader.c.n, .int .i64 u0.f.ID, .bool u0.f.Long, .bool u0.f.Fast, .bool u0.f.Remote, .int .i64 u0.f.Size, .slice ao2 u0.f.Data.length cap3] 61) :: Rr) Z w) (hZ : Z.on w) {K : (Int × Bool × FReader) → Prop} (hp : cnextF_vc u0 u1 K) : Calls Tryz.prog 69 #[.pointer (some ⟨b1, 3, none⟩), .int .u8 u1] w fun e w' => ∃ (r : Int × Bool × FReader) (ao1001 : Option Addr) (cap1002 : Nat) (Z' : Fz), e = .returned (.tuple #[.int .u8 r.1, .bool r.2.1]) ∧ K r ∧ Fz.le Z Z' ∧ SlR (tyInt .u8) Z' ao1001 cap1002 r.2.2.f.Data ∧ Mem B [] w0 Z0 ((.row b1 [str r.2.2.Reader.Row, .int .i64 r.2.2.Reader.At, .int .i64 r.2.2.Reader.Code, .int .u8 r.2.2.Reader.c.last, .int .i64 r.2.2.Reader.c.n, .int .i64 r.2.2.f.ID, .bool r.2.2.f.Long, .bool r.2.2.f.Fast, .bool r.2.2.f.Remote, .int .i64 r.2.2.f.Size, .slice ao1001 r.2.2.f.Data.length cap1002] 61) :: Rr) Z' w' := by
 refine enter0 Tryz.func69 rfl rfl (by kernel_rfl) ?_; intro a0 hF0; have hle0 := Fz.le.refl Z
 have hp5 := hp (hs4.small); clear hp
 refine sqH ?_; intro hQ6Q hQ6
 refine s1 hF0 4 (.int .u8 0) ?_; intro a7 hF8; clear hF0
 refine s1 hF8 5 (.bool false) ?_; intro a9 hF10; clear hF8
 refine nlH (hQ6 _ _ ?_); clear hQ6 hQ6Q
 refine wp_seq ?_
 refine sqH ?_; intro hQ11Q hQ11
 refine s1 hF10 6 (.int .u8 u1) ?_; intro a12 hF13; clear hF10
 refine s1 hF13 7 (.pointer (some ⟨b1, 3, none⟩)) ?_; intro a14 hF15; clear hF13
 refine s1 hF15 8 (.pointer (some ⟨b1, 3, none⟩)) ?_; intro a16 hF17; clear hF15
 refine s1 hF17 9 (.pointer (some ⟨b1, 3, none⟩)) ?_; intro a18 hF19; clear hF17
 refine l1 hF19 hM0 10 0 3 (.int .u8 u0.Reader.c.last) rfl rfl ?_; intro a20 hF21; clear hF19
 refine s1 hF21 11 (.bool (u1 == u0.Reader.c.last)) ?_; intro a22 hF23; clear hF21
 refine nlH (hQ11 _ _ ?_); clear hQ11 hQ11Q
 refine cd hF23 (t := u1 == u0.Reader.c.last) (by kernel_rfl) (fun hb24 => ?_) (fun hb24 => ?_)
 ·
  have hp25 := hp5.1 hb24; clear hp5
  refine rgH ?_; intro hQ26Q hQ26
  refine s1 hF23 12 (.pointer (some ⟨b1, 3, none⟩)) ?_; intro a27 hF28; clear hF23
  refine s1 hF28 13 (.pointer (some ⟨b1, 3, none⟩)) ?_; intro a29 hF30; clear hF28
  refine s1 hF30 14 (.pointer (some ⟨b1, 4, none⟩)) ?_; intro a31 hF32; clear hF30
  refine l1 hF32 hM0 15 0 4 (.int .i64 u0.Reader.c.n) rfl rfl ?_; intro a33 hF34; clear hF32
  refine s1 hF34 16 (.int .i64 (w64 (u0.Reader.c.n + 1))) ?_; intro a35 hF36; clear hF34
  refine s1 hF36 17 (.pointer (some ⟨b1, 3, none⟩)) ?_; intro a37 hF38; clear hF36
  refine s1 hF38 18 (.pointer (some ⟨b1, 4, none⟩)) ?_; intro a39 hF40; clear hF38
  refine sr hF40 hM0 0 [str u0.Reader.Row, .int .i64 u0.Reader.At, .int .i64 u0.Reader.Code, .int .u8 u0.Reader.c.last, .int .i64 (w64 (u0.Reader.c.n + 1)), .int .i64 u0.f.ID, .bool u0.f.Long, .bool u0.f.Fast, .bool u0.f.Remote, .int .i64 u0.f.Size, .slice ao2 u0.f.Data.length cap3] (b := b1) (off := 4) (cs := [str u0.Reader.Row, .int .i64 u0.Reader.At, .int .i64 u0.Reader.Code, .int .u8 u0.Reader.c.last, .int .i64 u0.Reader.c.n, .int .i64 u0.f.ID, .bool u0.f.Long, .bool u0.f.Fast, .bool u0.f.Remote, .int .i64 u0.f.Size, .slice ao2 u0.f.Data.length cap3]) (ty := 61) (u := .int .i64 (w64 (u0.Reader.c.n + 1))) (nog rfl _) rfl rfl (by kernel_rfl) (by kernel_rfl) (by kernel_rfl) (by kernel_rfl) (by kernel_rfl) (by kernel_rfl) (by kernel_rfl) ?_; intro wd41 hM42; clear hM0
  have hM43 : Mem B [] w0 Z0 ((.row b1 [str u0.Reader.Row, .int .i64 u0.Reader.At, .int .i64 u0.Reader.Code, .int .u8 u0.Reader.c.last, .int .i64 (w64 (u0.Reader.c.n + 1)), .int .i64 u0.f.ID, .bool u0.f.Long, .bool u0.f.Fast, .bool u0.f.Remote, .int .i64 u0.f.Size, .slice ao2 u0.f.Data.length cap3] 61) :: Rr) Z wd41 := hM42; clear hM42
  refine nlH (hQ26 _ _ ?_); clear hQ26 hQ26Q
  refine thn ?_
  have hF44 : Fr 33 [] [⟨0, [], .pointer (some ⟨b1, 3, none⟩)⟩, ⟨1, [], .int .u8 u1⟩] a39 := hF40.reg; clear hF40
  refine sqQH mixed (by kernel_rfl) hM43 ?_; intro hQ45Q hQ45
  refine q1 hF44 26 (.int .u8 u1) ?_; intro a47 hF48; clear hF44
  refine q1 hF48 27 (.int .u8 (w8 (97 - u1))) ?_; intro a50 hF51; clear hF48
  refine q1 hF51 28 (.pointer (some ⟨b1, 3, none⟩)) ?_; intro a53 hF54; clear hF51
  refine q1 hF54 29 (.pointer (some ⟨b1, 3, none⟩)) ?_; intro a56 hF57; clear hF54
  refine q1 hF57 30 (.pointer (some ⟨b1, 4, none⟩)) ?_; intro a59 hF60; clear hF57
  refine qst hF60 (.int .i64 (w64 (u0.Reader.c.n + 1))) (nog rfl _) rfl (by kernel_rfl) (fun v61 hC => ld hF60 hC 0 (g := []) (b := b1) (off := 4) (cs := [str u0.Reader.Row, .int .i64 u0.Reader.At, .int .i64 u0.Reader.Code, .int .u8 u0.Reader.c.last, .int .i64 (w64 (u0.Reader.c.n + 1)), .int .i64 u0.f.ID, .bool u0.f.Long, .bool u0.f.Fast, .bool u0.f.Remote, .int .i64 u0.f.Size, .slice ao2 u0.f.Data.length cap3]) (ty := 61) rfl (by kernel_rfl) (by kernel_rfl) (by kernel_rfl) (by kernel_rfl) rfl) ?_; intro a62 hF63; clear hF60
  refine q1 hF63 32 (.bool ((w64 (u0.Reader.c.n + 1)) == 5)) ?_; intro a65 hF66; clear hF63
  refine q1 hF66 4 (.int .u8 (w8 (97 - u1))) ?_; intro a68 hF69; clear hF66
  refine q1 hF69 5 (.bool ((w64 (u0.Reader.c.n + 1)) == 5)) ?_; intro a71 hF72; clear hF69
  refine qnl (hQ45 _ ?_); clear hQ45 hQ45Q; intro wd73 hM74; clear hM43
  refine wp_ret ?_
  refine rt (fn := Tryz.f69) (v := .tuple #[.int .u8 (w8 (97 - u1)), .bool ((w64 (u0.Reader.c.n + 1)) == 5)]) hF72 (re2 hF72 (fn := Tryz.f69) rfl (by kernel_rfl) (by kernel_rfl)) ?_
  exact ⟨(w8 (97 - u1), (w64 (u0.Reader.c.n + 1)) == 5, (⟨(⟨u0.Reader.Row, u0.Reader.At, u0.Reader.Code, (⟨u0.Reader.c.last, w64 (u0.Reader.c.n + 1)⟩ : Counter)⟩ : Reader), u0.f⟩ : FReader)), ao2, cap3, Z, rfl, hp25, hle0, hs4, hM74.keep (List.Sublist.cons_cons _ (List.Sublist.refl _))⟩
 ·
  have hp75 := hp5.2 hb24; clear hp5
  refine rgH ?_; intro hQ76Q hQ76
  refine s1 hF23 19 (.pointer (some ⟨b1, 3, none⟩)) ?_; intro a77 hF78; clear hF23
  refine s1 hF78 20 (.pointer (some ⟨b1, 3, none⟩)) ?_; intro a79 hF80; clear hF78
  refine s1 hF80 21 (.int .u8 u1) ?_; intro a81 hF82; clear hF80
  refine s1 hF82 22 (.pointer (some ⟨b1, 3, none⟩)) ?_; intro a83 hF84; clear hF82
  refine s1 hF84 23 (.pointer (some ⟨b1, 3, none⟩)) ?_; intro a85 hF86; clear hF84
  refine sr hF86 hM0 0 [str u0.Reader.Row, .int .i64 u0.Reader.At, .int .i64 u0.Reader.Code, .int .u8 u1, .int .i64 u0.Reader.c.n, .int .i64 u0.f.ID, .bool u0.f.Long, .bool u0.f.Fast, .bool u0.f.Remote, .int .i64 u0.f.Size, .slice ao2 u0.f.Data.length cap3] (b := b1) (off := 3) (cs := [str u0.Reader.Row, .int .i64 u0.Reader.At, .int .i64 u0.Reader.Code, .int .u8 u0.Reader.c.last, .int .i64 u0.Reader.c.n, .int .i64 u0.f.ID, .bool u0.f.Long, .bool u0.f.Fast, .bool u0.f.Remote, .int .i64 u0.f.Size, .slice ao2 u0.f.Data.length cap3]) (ty := 61) (u := .int .u8 u1) (nog rfl _) rfl rfl (by kernel_rfl) (by kernel_rfl) (by kernel_rfl) (by kernel_rfl) (by kernel_rfl) (by kernel_rfl) (by kernel_rfl) ?_; intro wd87 hM88; clear hM0
  refine s1 hF86 24 (.pointer (some ⟨b1, 3, none⟩)) ?_; intro a89 hF90; clear hF86
  refine s1 hF90 25 (.pointer (some ⟨b1, 4, none⟩)) ?_; intro a91 hF92; clear hF90
  refine sr hF92 hM88 0 [str u0.Reader.Row, .int .i64 u0.Reader.At, .int .i64 u0.Reader.Code, .int .u8 u1, .int .i64 1, .int .i64 u0.f.ID, .bool u0.f.Long, .bool u0.f.Fast, .bool u0.f.Remote, .int .i64 u0.f.Size, .slice ao2 u0.f.Data.length cap3] (b := b1) (off := 4) (cs := [str u0.Reader.Row, .int .i64 u0.Reader.At, .int .i64 u0.Reader.Code, .int .u8 u1, .int .i64 u0.Reader.c.n, .int .i64 u0.f.ID, .bool u0.f.Long, .bool u0.f.Fast, .bool u0.f.Remote, .int .i64 u0.f.Size, .slice ao2 u0.f.Data.length cap3]) (ty := 61) (u := .int .i64 1) (nog rfl _) rfl rfl (by kernel_rfl) (by kernel_rfl) (by kernel_rfl) (by kernel_rfl) (by kernel_rfl) (by kernel_rfl) (by kernel_rfl) ?_; intro wd93 hM94; clear hM88
  have hM95 : Mem B [] w0 Z0 ((.row b1 [str u0.Reader.Row, .int .i64 u0.Reader.At, .int .i64 u0.Reader.Code, .int .u8 u1, .int .i64 1, .int .i64 u0.f.ID, .bool u0.f.Long, .bool u0.f.Fast, .bool u0.f.Remote, .int .i64 u0.f.Size, .slice ao2 u0.f.Data.length cap3] 61) :: Rr) Z wd93 := hM94; clear hM94
  refine nlH (hQ76 _ _ ?_); clear hQ76 hQ76Q
  refine thn ?_
  have hF96 : Fr 33 [] [⟨0, [], .pointer (some ⟨b1, 3, none⟩)⟩, ⟨1, [], .int .u8 u1⟩] a91 := hF92.reg; clear hF92
  refine sqQH mixed (by kernel_rfl) hM95 ?_; intro hQ97Q hQ97
  refine q1 hF96 26 (.int .u8 u1) ?_; intro a99 hF100; clear hF96
  refine q1 hF100 27 (.int .u8 (w8 (97 - u1))) ?_; intro a102 hF103; clear hF100
  refine q1 hF103 28 (.pointer (some ⟨b1, 3, none⟩)) ?_; intro a105 hF106; clear hF103
  refine q1 hF106 29 (.pointer (some ⟨b1, 3, none⟩)) ?_; intro a108 hF109; clear hF106
  refine q1 hF109 30 (.pointer (some ⟨b1, 4, none⟩)) ?_; intro a111 hF112; clear hF109
  refine qst hF112 (.int .i64 1) (nog rfl _) rfl (by kernel_rfl) (fun v113 hC => ld hF112 hC 0 (g := []) (b := b1) (off := 4) (cs := [str u0.Reader.Row, .int .i64 u0.Reader.At, .int .i64 u0.Reader.Code, .int .u8 u1, .int .i64 1, .int .i64 u0.f.ID, .bool u0.f.Long, .bool u0.f.Fast, .bool u0.f.Remote, .int .i64 u0.f.Size, .slice ao2 u0.f.Data.length cap3]) (ty := 61) rfl (by kernel_rfl) (by kernel_rfl) (by kernel_rfl) (by kernel_rfl) rfl) ?_; intro a114 hF115; clear hF112
  refine q1 hF115 32 (.bool false) ?_; intro a117 hF118; clear hF115
  refine q1 hF118 4 (.int .u8 (w8 (97 - u1))) ?_; intro a120 hF121; clear hF118
  refine q1 hF121 5 (.bool false) ?_; intro a123 hF124; clear hF121
  refine qnl (hQ97 _ ?_); clear hQ97 hQ97Q; intro wd125 hM126; clear hM95
  refine wp_ret ?_
  refine rt (fn := Tryz.f69) (v := .tuple #[.int .u8 (w8 (97 - u1)), .bool false]) hF124 (re2 hF124 (fn := Tryz.f69) rfl (by kernel_rfl) (by kernel_rfl)) ?_
  exact ⟨(w8 (97 - u1), false, (⟨(⟨u0.Reader.Row, u0.Reader.At, u0.Reader.Code, (⟨u1, 1⟩ : Counter)⟩ : Reader), u0.f⟩ : FReader)), ao2, cap3, Z, rfl, hp75, hle0, hs4, hM126.keep (List.Sublist.cons_cons _ (List.Sublist.refl _))⟩

set_option maxRecDepth 100000 in
set_option maxHeartbeats 0 in
theorem rbitF_walk (u0 : FReader) (b1 : Nat) (ao2 : Option Addr) (cap3 : Nat) (B : Nat) (w0 : World) (Z0 : Fz) (Rr : List Res) (Z : Fz) (w : World) (hs4 : SlR (tyInt .u8) Z ao2 cap3 u0.f.Data) (hM0 : Mem B [] w0 Z0 ((.row b1 [str u0.Reader.Row, .int .i64 u0.Reader.At, .int .i64 u0.Reader.Code, .int .u8 u0.Reader.c.last, .int .i64 u0.Reader.c.n, .int .i64 u0.f.ID, .bool u0.f.Long, .bool u0.f.Fast, .bool u0.f.Remote, .int .i64 u0.f.Size, .slice ao2 u0.f.Data.length cap3] 61) :: Rr) Z w) (hZ : Z.on w) {K : (Int × FReader) → Prop} (hp : rbitF_vc u0 K) : Calls Tryz.prog 68 #[.pointer (some ⟨b1, 0, none⟩)] w fun e w' => ∃ (r : Int × FReader) (ao1001 : Option Addr) (cap1002 : Nat) (Z' : Fz), e = .returned (.int .u8 r.1) ∧ K r ∧ Fz.le Z Z' ∧ SlR (tyInt .u8) Z' ao1001 cap1002 r.2.f.Data ∧ Mem B [] w0 Z0 ((.row b1 [str r.2.Reader.Row, .int .i64 r.2.Reader.At, .int .i64 r.2.Reader.Code, .int .u8 r.2.Reader.c.last, .int .i64 r.2.Reader.c.n, .int .i64 r.2.f.ID, .bool r.2.f.Long, .bool r.2.f.Fast, .bool r.2.f.Remote, .int .i64 r.2.f.Size, .slice ao1001 r.2.f.Data.length cap1002] 61) :: Rr) Z' w' := by
 refine enter0 Tryz.func68 rfl rfl (by kernel_rfl) ?_; intro a0 hF0; have hle0 := Fz.le.refl Z
 have hp5 := hp (hs4.small); clear hp
 refine sqH ?_; intro hQ6Q hQ6
 refine s1 hF0 2 (.int .u8 0) ?_; intro a7 hF8; clear hF0
 refine nlH (hQ6 _ _ ?_); clear hQ6 hQ6Q
 refine wp_seq ?_
 refine sqH ?_; intro hQ9Q hQ9
 refine s1 hF8 3 (.pointer (some ⟨b1, 0, none⟩)) ?_; intro a10 hF11; clear hF8
 refine s1 hF11 4 (.pointer (some ⟨b1, 0, none⟩)) ?_; intro a12 hF13; clear hF11
 refine s1 hF13 5 (.pointer (some ⟨b1, 2, none⟩)) ?_; intro a14 hF15; clear hF13
 refine l1 hF15 hM0 6 0 2 (.int .i64 u0.Reader.Code) rfl rfl ?_; intro a16 hF17; clear hF15
 refine s1 hF17 7 (.bool (u0.Reader.Code != 0)) ?_; intro a18 hF19; clear hF17
 refine nlH (hQ9 _ _ ?_); clear hQ9 hQ9Q
 refine cd hF19 (t := u0.Reader.Code != 0) (by kernel_rfl) (fun hb20 => ?_) (fun hb20 => ?_)
 ·
  have hp21 := hp5.1 hb20; clear hp5
  refine sqH ?_; intro hQ22Q hQ22
  refine s1 hF19 2 (.int .u8 48) ?_; intro a23 hF24; clear hF19
  refine nlH (hQ22 _ _ ?_); clear hQ22 hQ22Q
  refine wp_ret ?_
  refine thr ?_
  refine rt (fn := Tryz.f68) (v := .int .u8 48) hF24 (re1 hF24 (fn := Tryz.f68) rfl (by kernel_rfl)) ?_
  exact ⟨(48, u0), ao2, cap3, Z, rfl, hp21, hle0, hs4, hM0.keep (List.Sublist.cons_cons _ (List.Sublist.refl _))⟩
 ·
  have hp25 := hp5.2 hb20; clear hp5
  refine wp_skip ?_
  refine thn ?_
  refine wp_seq ?_
  have hF26 : Fr 38 [] [⟨0, [], .pointer (some ⟨b1, 0, none⟩)⟩] a18 := hF19.reg; clear hF19
  refine sqQH mixed (by kernel_rfl) hM0 ?_; intro hQ27Q hQ27
  refine q1 hF26 8 (.pointer (some ⟨b1, 0, none⟩)) ?_; intro a29 hF30; clear hF26
  refine q1 hF30 9 (.pointer (some ⟨b1, 0, none⟩)) ?_; intro a32 hF33; clear hF30
  refine q1 hF33 10 (.pointer (some ⟨b1, 1, none⟩)) ?_; intro a35 hF36; clear hF33
  refine qst hF36 (.int .i64 u0.Reader.At) (nog rfl _) rfl (by kernel_rfl) (fun v37 hC => ld hF36 hC 0 (g := []) (b := b1) (off := 1) (cs := [str u0.Reader.Row, .int .i64 u0.Reader.At, .int .i64 u0.Reader.Code, .int .u8 u0.Reader.c.last, .int .i64 u0.Reader.c.n, .int .i64 u0.f.ID, .bool u0.f.Long, .bool u0.f.Fast, .bool u0.f.Remote, .int .i64 u0.f.Size, .slice ao2 u0.f.Data.length cap3]) (ty := 61) rfl (by kernel_rfl) (by kernel_rfl) (by kernel_rfl) (by kernel_rfl) rfl) ?_; intro a38 hF39; clear hF36
  refine q1 hF39 12 (.pointer (some ⟨b1, 0, none⟩)) ?_; intro a41 hF42; clear hF39
  refine q1 hF42 13 (.pointer (some ⟨b1, 0, none⟩)) ?_; intro a44 hF45; clear hF42
  refine q1 hF45 14 (.pointer (some ⟨b1, 0, none⟩)) ?_; intro a47 hF48; clear hF45
  refine qst hF48 (str u0.Reader.Row) (nog rfl _) rfl (by kernel_rfl) (fun v49 hC => ld hF48 hC 0 (g := []) (b := b1) (off := 0) (cs := [str u0.Reader.Row, .int .i64 u0.Reader.At, .int .i64 u0.Reader.Code, .int .u8 u0.Reader.c.last, .int .i64 u0.Reader.c.n, .int .i64 u0.f.ID, .bool u0.f.Long, .bool u0.f.Fast, .bool u0.f.Remote, .int .i64 u0.f.Size, .slice ao2 u0.f.Data.length cap3]) (ty := 61) rfl (by kernel_rfl) (by kernel_rfl) (by kernel_rfl) (by kernel_rfl) rfl) ?_; intro a50 hF51; clear hF48
  refine q1 hF51 16 (.int .i64 (u0.Reader.Row.length : Int)) ?_; intro a53 hF54; clear hF51
  refine q1 hF54 17 (.bool (u0.Reader.At == (u0.Reader.Row.length : Int))) ?_; intro a56 hF57; clear hF54
  refine qnl (hQ27 _ ?_); clear hQ27 hQ27Q; intro wd58 hM59; clear hM0
  refine cd hF57 (t := u0.Reader.At == (u0.Reader.Row.length : Int)) (by kernel_rfl) (fun hb60 => ?_) (fun hb60 => ?_)
  ·
   have hp61 := hp25.1 hb60; clear hp25
   refine sqH ?_; intro hQ62Q hQ62
   refine s1 hF57 18 (.pointer (some ⟨b1, 0, none⟩)) ?_; intro a63 hF64; clear hF57
   refine s1 hF64 19 (.pointer (some ⟨b1, 0, none⟩)) ?_; intro a65 hF66; clear hF64
   refine s1 hF66 20 (.pointer (some ⟨b1, 2, none⟩)) ?_; intro a67 hF68; clear hF66
   refine sr hF68 hM59 0 [str u0.Reader.Row, .int .i64 u0.Reader.At, .int .i64 7, .int .u8 u0.Reader.c.last, .int .i64 u0.Reader.c.n, .int .i64 u0.f.ID, .bool u0.f.Long, .bool u0.f.Fast, .bool u0.f.Remote, .int .i64 u0.f.Size, .slice ao2 u0.f.Data.length cap3] (b := b1) (off := 2) (cs := [str u0.Reader.Row, .int .i64 u0.Reader.At, .int .i64 u0.Reader.Code, .int .u8 u0.Reader.c.last, .int .i64 u0.Reader.c.n, .int .i64 u0.f.ID, .bool u0.f.Long, .bool u0.f.Fast, .bool u0.f.Remote, .int .i64 u0.f.Size, .slice ao2 u0.f.Data.length cap3]) (ty := 61) (u := .int .i64 7) (nog rfl _) rfl rfl (by kernel_rfl) (by kernel_rfl) (by kernel_rfl) (by kernel_rfl) (by kernel_rfl) (by kernel_rfl) (by kernel_rfl) ?_; intro wd69 hM70; clear hM59
   have hM71 : Mem B [] w0 Z0 ((.row b1 [str u0.Reader.Row, .int .i64 u0.Reader.At, .int .i64 7, .int .u8 u0.Reader.c.last, .int .i64 u0.Reader.c.n, .int .i64 u0.f.ID, .bool u0.f.Long, .bool u0.f.Fast, .bool u0.f.Remote, .int .i64 u0.f.Size, .slice ao2 u0.f.Data.length cap3] 61) :: Rr) Z wd69 := hM70; clear hM70
   refine nlH (hQ62 _ _ ?_); clear hQ62 hQ62Q
   refine sqH ?_; intro hQ72Q hQ72
   refine s1 hF68 2 (.int .u8 48) ?_; intro a73 hF74; clear hF68
   refine nlH (hQ72 _ _ ?_); clear hQ72 hQ72Q
   refine wp_ret ?_
   refine thr ?_
   refine rt (fn := Tryz.f68) (v := .int .u8 48) hF74 (re1 hF74 (fn := Tryz.f68) rfl (by kernel_rfl)) ?_
   exact ⟨(48, (⟨(⟨u0.Reader.Row, u0.Reader.At, 7, u0.Reader.c⟩ : Reader), u0.f⟩ : FReader)), ao2, cap3, Z, rfl, hp61, hle0, hs4, hM71.keep (List.Sublist.cons_cons _ (List.Sublist.refl _))⟩
  ·
   have hp75 := hp25.2 hb60; clear hp25
   refine wp_skip ?_
   refine thn ?_
   refine sqH ?_; intro hQ76Q hQ76
   refine s1 hF57 21 (.pointer (some ⟨b1, 0, none⟩)) ?_; intro a77 hF78; clear hF57
   refine s1 hF78 22 (.pointer (some ⟨b1, 0, none⟩)) ?_; intro a79 hF80; clear hF78
   refine s1 hF80 23 (.pointer (some ⟨b1, 1, none⟩)) ?_; intro a81 hF82; clear hF80
   refine l1 hF82 hM59 24 0 1 (.int .i64 u0.Reader.At) rfl rfl ?_; intro a83 hF84; clear hF82
   refine s1 hF84 25 (.int .i64 (w64 (u0.Reader.At + 1))) ?_; intro a85 hF86; clear hF84
   refine s1 hF86 26 (.pointer (some ⟨b1, 0, none⟩)) ?_; intro a87 hF88; clear hF86
   refine s1 hF88 27 (.pointer (some ⟨b1, 1, none⟩)) ?_; intro a89 hF90; clear hF88
   refine sr hF90 hM59 0 [str u0.Reader.Row, .int .i64 (w64 (u0.Reader.At + 1)), .int .i64 u0.Reader.Code, .int .u8 u0.Reader.c.last, .int .i64 u0.Reader.c.n, .int .i64 u0.f.ID, .bool u0.f.Long, .bool u0.f.Fast, .bool u0.f.Remote, .int .i64 u0.f.Size, .slice ao2 u0.f.Data.length cap3] (b := b1) (off := 1) (cs := [str u0.Reader.Row, .int .i64 u0.Reader.At, .int .i64 u0.Reader.Code, .int .u8 u0.Reader.c.last, .int .i64 u0.Reader.c.n, .int .i64 u0.f.ID, .bool u0.f.Long, .bool u0.f.Fast, .bool u0.f.Remote, .int .i64 u0.f.Size, .slice ao2 u0.f.Data.length cap3]) (ty := 61) (u := .int .i64 (w64 (u0.Reader.At + 1))) (nog rfl _) rfl rfl (by kernel_rfl) (by kernel_rfl) (by kernel_rfl) (by kernel_rfl) (by kernel_rfl) (by kernel_rfl) (by kernel_rfl) ?_; intro wd91 hM92; clear hM59
   have hM93 : Mem B [] w0 Z0 ((.row b1 [str u0.Reader.Row, .int .i64 (w64 (u0.Reader.At + 1)), .int .i64 u0.Reader.Code, .int .u8 u0.Reader.c.last, .int .i64 u0.Reader.c.n, .int .i64 u0.f.ID, .bool u0.f.Long, .bool u0.f.Fast, .bool u0.f.Remote, .int .i64 u0.f.Size, .slice ao2 u0.f.Data.length cap3] 61) :: Rr) Z wd91 := hM92; clear hM92
   refine nlH (hQ76 _ _ ?_); clear hQ76 hQ76Q
   have hF94 : Fr 38 [] [⟨0, [], .pointer (some ⟨b1, 0, none⟩)⟩] a89 := hF90.reg; clear hF90
   refine sqQH mixed (by kernel_rfl) hM93 ?_; intro hQ95Q hQ95
   refine q1 hF94 28 (.pointer (some ⟨b1, 0, none⟩)) ?_; intro a97 hF98; clear hF94
   refine q1 hF98 29 (.pointer (some ⟨b1, 0, none⟩)) ?_; intro a100 hF101; clear hF98
   refine q1 hF101 30 (.pointer (some ⟨b1, 0, none⟩)) ?_; intro a103 hF104; clear hF101
   refine qst hF104 (str u0.Reader.Row) (nog rfl _) rfl (by kernel_rfl) (fun v105 hC => ld hF104 hC 0 (g := []) (b := b1) (off := 0) (cs := [str u0.Reader.Row, .int .i64 (w64 (u0.Reader.At + 1)), .int .i64 u0.Reader.Code, .int .u8 u0.Reader.c.last, .int .i64 u0.Reader.c.n, .int .i64 u0.f.ID, .bool u0.f.Long, .bool u0.f.Fast, .bool u0.f.Remote, .int .i64 u0.f.Size, .slice ao2 u0.f.Data.length cap3]) (ty := 61) rfl (by kernel_rfl) (by kernel_rfl) (by kernel_rfl) (by kernel_rfl) rfl) ?_; intro a106 hF107; clear hF104
   refine q1 hF107 32 (.pointer (some ⟨b1, 0, none⟩)) ?_; intro a109 hF110; clear hF107
   refine q1 hF110 33 (.pointer (some ⟨b1, 0, none⟩)) ?_; intro a112 hF113; clear hF110
   refine q1 hF113 34 (.pointer (some ⟨b1, 1, none⟩)) ?_; intro a115 hF116; clear hF113
   refine qst hF116 (.int .i64 (w64 (u0.Reader.At + 1))) (nog rfl _) rfl (by kernel_rfl) (fun v117 hC => ld hF116 hC 0 (g := []) (b := b1) (off := 1) (cs := [str u0.Reader.Row, .int .i64 (w64 (u0.Reader.At + 1)), .int .i64 u0.Reader.Code, .int .u8 u0.Reader.c.last, .int .i64 u0.Reader.c.n, .int .i64 u0.f.ID, .bool u0.f.Long, .bool u0.f.Fast, .bool u0.f.Remote, .int .i64 u0.f.Size, .slice ao2 u0.f.Data.length cap3]) (ty := 61) rfl (by kernel_rfl) (by kernel_rfl) (by kernel_rfl) (by kernel_rfl) rfl) ?_; intro a118 hF119; clear hF116
   refine q1 hF119 36 (.int .i64 (w64 ((w64 (u0.Reader.At + 1)) - 1))) ?_; intro a121 hF122; clear hF119
   have hc124 := hp75.1; have hp125 := hp75.2; clear hp75
   obtain ⟨c126, hq127⟩ : ∃ q, u0.Reader.Row[(w64 ((w64 (u0.Reader.At + 1)) - 1)).toNat]? = some q := ⟨_, List.getElem?_eq_getElem (by omega)⟩; have hp128 := hp125 c126 hq127
   refine qst hF122 (.int .u8 (c126.toNat : Int)) (nog rfl _) rfl (by kernel_rfl) (fun v123 hC => stridx_run hF122 (k := .i64) rfl (by kernel_rfl) (by kernel_rfl) (by kernel_rfl) hc124.1 hq127) ?_; intro a129 hF130; clear hF122
   refine q1 hF130 2 (.int .u8 (c126.toNat : Int)) ?_; intro a132 hF133; clear hF130
   refine qnl (hQ95 _ ?_); clear hQ95 hQ95Q; intro wd134 hM135; clear hM93
   refine wp_ret ?_
   refine rt (fn := Tryz.f68) (v := .int .u8 (c126.toNat : Int)) hF133 (re1 hF133 (fn := Tryz.f68) rfl (by kernel_rfl)) ?_
   exact ⟨((c126.toNat : Int), (⟨(⟨u0.Reader.Row, w64 (u0.Reader.At + 1), u0.Reader.Code, u0.Reader.c⟩ : Reader), u0.f⟩ : FReader)), ao2, cap3, Z, rfl, hp128, hle0, hs4, hM135.keep (List.Sublist.cons_cons _ (List.Sublist.refl _))⟩

set_option maxRecDepth 100000 in
set_option maxHeartbeats 0 in
theorem fsizes_walk   (Z : Fz) (w : World)  (hZ : Z.on w) {K : (List Int) → Prop} (hp : fsizes_vc  K) : Calls Tryz.prog 35 #[] w fun e w' => ∃ (r : (List Int)) (ao1001 : Option Addr) (cap1002 : Nat) (Z' : Fz), e = .returned (.slice ao1001 r.length cap1002) ∧ K r ∧ Mem w.heap.size [] w Z [.own (tyInt .i64) 3 ao1001 cap1002 r] Z' w' := by
 refine enter0 Tryz.func35 rfl rfl (by kernel_rfl) ?_; intro a0 hF0; have hM0 := Mem.start w Z hZ; have hle0 := Fz.le.refl Z
 refine sqH ?_; intro hQ1Q hQ1
 refine s1 hF0 0 (.slice none 0 0) ?_; intro a2 hF3; clear hF0
 refine nlH (hQ1 _ _ ?_); clear hQ1 hQ1Q
 refine sqH ?_; intro hQ4Q hQ4
 refine sn hF3 hM0 (fun b => .slice (some ⟨b, 0, none⟩) 16 16) [.int .i64 0, .int .i64 1, .int .i64 2, .int .i64 3, .int .i64 4, .int .i64 5, .int .i64 6, .int .i64 7, .int .i64 8, .int .i64 12, .int .i64 16, .int .i64 20, .int .i64 24, .int .i64 32, .int .i64 48, .int .i64 64] 3 (nog rfl _) rfl (by kernel_rfl) (by kernel_rfl) ?_; intro b5 a6 wd8 hF7 hM9; clear hF3 hM0
 refine s1 hF7 0 (.slice (some ⟨b5, 0, none⟩) 16 16) ?_; intro a10 hF11; clear hF7
 refine nlH (hQ4 _ _ ?_); clear hQ4 hQ4Q
 refine wp_ret ?_
 have hM12 : Mem w.heap.size [] w Z [.own (tyInt .i64) 3 (some ⟨b5, 0, none⟩) 16 ([0, 1, 2, 3, 4, 5, 6, 7, 8, 12, 16, 20, 24, 32, 48, 64] : List Int)] Z wd8 := hM9.rowOwn (T := (tyInt .i64)) (xs := ([0, 1, 2, 3, 4, 5, 6, 7, 8, 12, 16, 20, 24, 32, 48, 64] : List Int)) 0 rfl (by decide) (by show 16 ≤ lim; decide) ((RepAll.one (T := (tyInt .i64)) (x := 0) rfl).append ((RepAll.one (T := (tyInt .i64)) (x := 1) rfl).append ((RepAll.one (T := (tyInt .i64)) (x := 2) rfl).append ((RepAll.one (T := (tyInt .i64)) (x := 3) rfl).append ((RepAll.one (T := (tyInt .i64)) (x := 4) rfl).append ((RepAll.one (T := (tyInt .i64)) (x := 5) rfl).append ((RepAll.one (T := (tyInt .i64)) (x := 6) rfl).append ((RepAll.one (T := (tyInt .i64)) (x := 7) rfl).append ((RepAll.one (T := (tyInt .i64)) (x := 8) rfl).append ((RepAll.one (T := (tyInt .i64)) (x := 12) rfl).append ((RepAll.one (T := (tyInt .i64)) (x := 16) rfl).append ((RepAll.one (T := (tyInt .i64)) (x := 20) rfl).append ((RepAll.one (T := (tyInt .i64)) (x := 24) rfl).append ((RepAll.one (T := (tyInt .i64)) (x := 32) rfl).append ((RepAll.one (T := (tyInt .i64)) (x := 48) rfl).append (RepAll.one (T := (tyInt .i64)) (x := 64) rfl)))))))))))))))); clear hM9
 refine rt (fn := Tryz.f35) (v := .slice (some ⟨b5, 0, none⟩) ([0, 1, 2, 3, 4, 5, 6, 7, 8, 12, 16, 20, 24, 32, 48, 64] : List Int).length 16) hF11 (re1 hF11 (fn := Tryz.f35) rfl (by kernel_rfl)) ?_
 exact ⟨([0, 1, 2, 3, 4, 5, 6, 7, 8, 12, 16, 20, 24, 32, 48, 64] : List Int), (some ⟨b5, 0, none⟩), 16, Z, rfl, hp, hM12.keep (List.Sublist.cons_cons _ (List.Sublist.slnil))⟩
theorem fsizes_fun   (Z : Fz) (w : World)  (hZ : Z.on w) : Calls Tryz.prog 35 #[] w fun e w' => ∃ (ao1001 : Option Addr) (cap1002 : Nat) (Z' : Fz), e = .returned (.slice ao1001 fsizes.length cap1002) ∧ Mem w.heap.size [] w Z [.own (tyInt .i64) 3 ao1001 cap1002 fsizes] Z' w' :=
  (fsizes_walk   Z w  hZ (fsizes_ok )).mono fun _ _ ⟨r, h0, h1, h2, he, hk, hm⟩ => by subst hk; exact ⟨h0, h1, h2, he, hm⟩

set_option maxRecDepth 100000 in
set_option maxHeartbeats 0 in
theorem fbit_walk (u0 : Bool)  (Z : Fz) (w : World)  (hZ : Z.on w) {K : (List UInt8) → Prop} (hp : fbit_vc u0 K) : Calls Tryz.prog 87 #[.bool u0] w fun e w' => ∃ r : (List UInt8), e = .returned (str r) ∧ K r ∧ Below w.heap.size w w' := by
 refine enter0 Tryz.func87 rfl rfl (by kernel_rfl) ?_; intro a0 hF0; have hM0 := Mem.start w Z hZ; have hle0 := Fz.le.refl Z
 refine sqH ?_; intro hQ1Q hQ1
 refine s1 hF0 2 (str []) ?_; intro a2 hF3; clear hF0
 refine nlH (hQ1 _ _ ?_); clear hQ1 hQ1Q
 refine wp_seq ?_
 refine sqH ?_; intro hQ4Q hQ4
 refine s1 hF3 3 (.bool u0) ?_; intro a5 hF6; clear hF3
 refine nlH (hQ4 _ _ ?_); clear hQ4 hQ4Q
 refine cd hF6 (t := u0) (by kernel_rfl) (fun hb7 => ?_) (fun hb7 => ?_)
 ·
  have hp8 := hp.1 hb7; clear hp
  refine sqH ?_; intro hQ9Q hQ9
  refine s1 hF6 2 (str ([49] : List UInt8)) ?_; intro a10 hF11; clear hF6
  refine nlH (hQ9 _ _ ?_); clear hQ9 hQ9Q
  refine wp_ret ?_
  refine thr ?_
  refine rt (fn := Tryz.f87) (v := str ([49] : List UInt8)) hF11 (re1 hF11 (fn := Tryz.f87) rfl (by kernel_rfl)) ?_
  exact ⟨([49] : List UInt8), rfl, hp8, hM0.below⟩
 ·
  have hp12 := hp.2 hb7; clear hp
  refine wp_skip ?_
  refine thn ?_
  refine sqH ?_; intro hQ13Q hQ13
  refine s1 hF6 2 (str ([48] : List UInt8)) ?_; intro a14 hF15; clear hF6
  refine nlH (hQ13 _ _ ?_); clear hQ13 hQ13Q
  refine wp_ret ?_
  refine rt (fn := Tryz.f87) (v := str ([48] : List UInt8)) hF15 (re1 hF15 (fn := Tryz.f87) rfl (by kernel_rfl)) ?_
  exact ⟨([48] : List UInt8), rfl, hp12, hM0.below⟩
theorem fbit_fun (u0 : Bool)  (Z : Fz) (w : World)  (hZ : Z.on w) : Calls Tryz.prog 87 #[.bool u0] w fun e w' => e = .returned (str (fbit u0)) ∧ Below w.heap.size w w' :=
  (fbit_walk u0  Z w  hZ (fbit_ok u0)).mono fun _ _ ⟨r, he, hk, hb⟩ => ⟨by subst hk; exact he, hb⟩

set_option maxRecDepth 100000 in
set_option maxHeartbeats 0 in
theorem fkind_walk (u0 : Frame) (ao1 : Option Addr) (cap2 : Nat) (Z : Fz) (w : World) (hs3 : SlR (tyInt .u8) Z ao1 cap2 u0.Data) (hZ : Z.on w) {K : Int → Prop} (hp : fkind_vc u0 K) : Calls Tryz.prog 56 #[.agg #[.int .i64 u0.ID, .bool u0.Long, .bool u0.Fast, .bool u0.Remote, .int .i64 u0.Size, .slice ao1 u0.Data.length cap2]] w fun e w' => ∃ r : Int, e = .returned (.int .i64 r) ∧ K r ∧ Below w.heap.size w w' := by
 refine enter0 Tryz.func56 rfl rfl (by kernel_rfl) ?_; intro a0 hF0; have hM0 := Mem.start w Z hZ; have hle0 := Fz.le.refl Z
 have hp4 := hp (hs3.small); clear hp
 refine sqH ?_; intro hQ5Q hQ5
 refine sn hF0 hM0 (fun b => .pointer (some ⟨b, 0, none⟩)) [.int .i64 u0.ID, .bool u0.Long, .bool u0.Fast, .bool u0.Remote, .int .i64 u0.Size, .slice ao1 u0.Data.length cap2] 24 (nog rfl _) rfl (by kernel_rfl) (by kernel_rfl) ?_; intro b6 a7 wd9 hF8 hM10; clear hF0 hM0
 refine s1 hF8 2 (.int .i64 0) ?_; intro a11 hF12; clear hF8
 refine nlH (hQ5 _ _ ?_); clear hQ5 hQ5Q
 refine wp_seq ?_
 refine wp_block ?_
 refine sqH ?_; intro hQ13Q hQ13
 refine s1 hF12 4 (.pointer (some ⟨b6, 2, none⟩)) ?_; intro a14 hF15; clear hF12
 refine l1 hF15 hM10 5 0 2 (.bool u0.Fast) rfl rfl ?_; intro a16 hF17; clear hF15
 refine s1 hF17 6 (.bool (!u0.Fast)) ?_; intro a18 hF19; clear hF17
 refine s1 hF19 3 (.bool (!u0.Fast)) ?_; intro a20 hF21; clear hF19
 refine nlH (hQ13 _ _ ?_); clear hQ13 hQ13Q
 refine cd hF21 (t := !u0.Fast) (by kernel_rfl) (fun hb22 => ?_) (fun hb22 => ?_)
 ·
  have hp23 := hp4.1 hb22; clear hp4
  refine sqH ?_; intro hQ24Q hQ24
  refine s1 hF21 2 (.int .i64 0) ?_; intro a25 hF26; clear hF21
  refine nlH (hQ24 _ _ ?_); clear hQ24 hQ24Q
  refine wp_ret ?_
  refine ibr ?_
  refine thr ?_
  refine rt (fn := Tryz.f56) (v := .int .i64 0) hF26 (re1 hF26 (fn := Tryz.f56) rfl (by kernel_rfl)) ?_
  exact ⟨0, rfl, hp23, hM10.below⟩
 ·
  have hp27 := hp4.2 hb22; clear hp4
  refine sqH ?_; intro hQ28Q hQ28
  refine s1 hF21 8 (.pointer (some ⟨b6, 5, none⟩)) ?_; intro a29 hF30; clear hF21
  refine l1 hF30 hM10 9 0 5 (.slice ao1 u0.Data.length cap2) rfl rfl ?_; intro a31 hF32; clear hF30
  refine s1 hF32 10 (.int .i64 (u0.Data.length : Int)) ?_; intro a33 hF34; clear hF32
  refine s1 hF34 11 (.bool (decide ((u0.Data.length : Int) ≤ 16))) ?_; intro a35 hF36; clear hF34
  refine s1 hF36 7 (.bool (decide ((u0.Data.length : Int) ≤ 16))) ?_; intro a37 hF38; clear hF36
  refine nlH (hQ28 _ _ ?_); clear hQ28 hQ28Q
  refine cd hF38 (t := decide ((u0.Data.length : Int) ≤ 16)) (by kernel_rfl) (fun hb39 => ?_) (fun hb39 => ?_)
  ·
   have hp40 := hp27.1 hb39; clear hp27
   refine sqH ?_; intro hQ41Q hQ41
   refine s1 hF38 2 (.int .i64 1) ?_; intro a42 hF43; clear hF38
   refine nlH (hQ41 _ _ ?_); clear hQ41 hQ41Q
   refine wp_ret ?_
   refine ibr ?_
   refine thr ?_
   refine rt (fn := Tryz.f56) (v := .int .i64 1) hF43 (re1 hF43 (fn := Tryz.f56) rfl (by kernel_rfl)) ?_
   exact ⟨1, rfl, hp40, hM10.below⟩
  ·
   have hp44 := hp27.2 hb39; clear hp27
   refine wp_skip ?_
   refine ibn ?_
   refine thn ?_
   refine sqH ?_; intro hQ45Q hQ45
   refine s1 hF38 2 (.int .i64 2) ?_; intro a46 hF47; clear hF38
   refine nlH (hQ45 _ _ ?_); clear hQ45 hQ45Q
   refine wp_ret ?_
   refine rt (fn := Tryz.f56) (v := .int .i64 2) hF47 (re1 hF47 (fn := Tryz.f56) rfl (by kernel_rfl)) ?_
   exact ⟨2, rfl, hp44, hM10.below⟩
theorem fkind_fun (u0 : Frame) (ao1 : Option Addr) (cap2 : Nat) (Z : Fz) (w : World) (hs3 : SlR (tyInt .u8) Z ao1 cap2 u0.Data) (hZ : Z.on w) : Calls Tryz.prog 56 #[.agg #[.int .i64 u0.ID, .bool u0.Long, .bool u0.Fast, .bool u0.Remote, .int .i64 u0.Size, .slice ao1 u0.Data.length cap2]] w fun e w' => e = .returned (.int .i64 (fkind u0)) ∧ Below w.heap.size w w' :=
  (fkind_walk u0 ao1 cap2 Z w hs3 hZ (fkind_ok u0)).mono fun _ _ ⟨r, he, hk, hb⟩ => ⟨by subst hk; exact he, hb⟩

set_option maxRecDepth 100000 in
set_option maxHeartbeats 0 in
theorem sindex_walk (u0 : List Int) (u1 : Int) (ao1 : Option Addr) (cap2 : Nat) (Z : Fz) (w : World) (hs3 : SlR (tyInt .i64) Z ao1 cap2 u0) (hZ : Z.on w) {K : Int → Prop} (hp : sindex_vc u0 u1 K) : Calls Tryz.prog 27 #[.slice ao1 u0.length cap2, .int .i64 u1] w fun e w' => ∃ r : Int, e = .returned (.int .i64 r) ∧ K r ∧ Below w.heap.size w w' := by
 refine enter0 Tryz.func27 rfl rfl (by kernel_rfl) ?_; intro a0 hF0; have hM0 := Mem.start w Z hZ; have hle0 := Fz.le.refl Z
 have hp4 := hp (hs3.small); clear hp
 refine sqH ?_; intro hQ5Q hQ5
 refine s1 hF0 4 (.int .i64 0) ?_; intro a6 hF7; clear hF0
 refine nlH (hQ5 _ _ ?_); clear hQ5 hQ5Q
 refine wp_seq ?_
 refine sqH ?_; intro hQ8Q hQ8
 refine s1 hF7 6 (.slice ao1 u0.length cap2) ?_; intro a9 hF10; clear hF7
 refine s1 hF10 7 (.int .i64 (u0.length : Int)) ?_; intro a11 hF12; clear hF10
 refine s1 hF12 8 (.int .i64 0) ?_; intro a13 hF14; clear hF12
 refine nlH (hQ8 _ _ ?_); clear hQ8 hQ8Q
 refine wp_block ?_
 have hF15 : Fr 19 [] [⟨0, [], .slice ao1 u0.length cap2⟩, ⟨1, [], .int .i64 u1⟩, ⟨7, [], .int .i64 (u0.length : Int)⟩, ⟨8, [], .int .i64 0⟩] a13 := hF14.reg; clear hF14
 have hF17 : Fr 19 [] [⟨0, [], .slice ao1 u0.length cap2⟩, ⟨1, [], .int .i64 u1⟩, ⟨7, [], .int .i64 (u0.length : Int)⟩, ⟨8, [], .int .i64 0⟩] a13 := hF15.reg; clear hF15
 obtain ⟨inv16, mu16, hI20, hr19⟩ := hp4
 refine lp (ι := Int) (fun (s : Int) => [⟨0, [], .slice ao1 u0.length cap2⟩, ⟨1, [], .int .i64 u1⟩, ⟨7, [], .int .i64 (u0.length : Int)⟩, ⟨8, [], .int .i64 s⟩]) (fun (s : Int) => []) (fun (s : Int) => Z) (fun (s : Int) => inv16 s) (fun (s : Int) => mu16 s) 0 hI20 (by exact hF17.reg) (by exact hM0) ?_
 rintro x8 hI18 a22 wd23 hF24 hM25
 have hF26 : Fr 19 [] [⟨0, [], .slice ao1 u0.length cap2⟩, ⟨1, [], .int .i64 u1⟩, ⟨7, [], .int .i64 (u0.length : Int)⟩, ⟨8, [], .int .i64 x8⟩] a22 := hF24; clear hF24 hF17
 have hM27 : Mem w.heap.size [] w Z [] Z wd23 := hM25; clear hM25 hM0
 have hp28 := hr19 x8 hI18
 refine sqH ?_; intro hQ29Q hQ29
 refine s1 hF26 9 (.bool (decide (x8 < (u0.length : Int)))) ?_; intro a30 hF31; clear hF26
 refine nlH (hQ29 _ _ ?_); clear hQ29 hQ29Q
 refine wp_seq ?_
 refine cd hF31 (t := decide (x8 < (u0.length : Int))) (by kernel_rfl) (fun hb32 => ?_) (fun hb32 => ?_)
 ·
  have hp33 := hp28.1 hb32; clear hp28
  refine wp_skip ?_
  refine thn ?_
  refine wp_seq ?_
  refine wp_block ?_
  refine sqH ?_; intro hQ34Q hQ34
  refine s1 hF31 10 (.int .i64 x8) ?_; intro a35 hF36; clear hF31
  refine s1 hF36 5 (.int .i64 x8) ?_; intro a37 hF38; clear hF36
  refine nlH (hQ34 _ _ ?_); clear hQ34 hQ34Q
  refine sqH ?_; intro hQ39Q hQ39
  refine s1 hF38 11 (.int .i64 u1) ?_; intro a40 hF41; clear hF38
  refine s1 hF41 12 (.slice ao1 u0.length cap2) ?_; intro a42 hF43; clear hF41
  refine s1 hF43 13 (.int .i64 x8) ?_; intro a44 hF45; clear hF43
  have hc46 := hp33.1; have hp47 := hp33.2; clear hp33
  refine ix hF45 (T := (tyInt .i64)) (xs := u0) hs3 x8 hc46 (k := .i64) (e := 3) (bytes := 8) (nog rfl _) rfl (by kernel_rfl) rfl (by kernel_rfl) (by kernel_rfl) (by kernel_rfl) ?_; intro b48 off49 cs50 q51 a55 hq52 hP53 hT54 hF56; clear hF45
  have hp57 := hp47 q51 hq52; clear hp47
  obtain rfl : cs50 = ([.int .i64 q51] : List Value) := hT54
  refine z1 hF56 hM27 15 hP53 0 (.int .i64 q51) rfl ?_; intro a58 hF59; clear hF56
  refine s1 hF59 16 (.bool (u1 == q51)) ?_; intro a60 hF61; clear hF59
  refine nlH (hQ39 _ _ ?_); clear hQ39 hQ39Q
  refine cd hF61 (t := u1 == q51) (by kernel_rfl) (fun hb62 => ?_) (fun hb62 => ?_)
  ·
   have hp63 := hp57.1 hb62; clear hp57
   refine sqH ?_; intro hQ64Q hQ64
   refine s1 hF61 17 (.int .i64 x8) ?_; intro a65 hF66; clear hF61
   refine s1 hF66 4 (.int .i64 x8) ?_; intro a67 hF68; clear hF66
   refine nlH (hQ64 _ _ ?_); clear hQ64 hQ64Q
   refine wp_ret ?_
   refine ibr ?_
   refine thr ?_
   refine thr ?_
   refine ibr ?_
   refine thr ?_
   refine rt (fn := Tryz.f27) (v := .int .i64 x8) hF68 (re1 hF68 (fn := Tryz.f27) rfl (by kernel_rfl)) ?_
   exact ⟨x8, rfl, hp63, hM27.below⟩
  ·
   have hp69 := hp57.2 hb62; clear hp57
   refine wp_skip ?_
   refine ibn ?_
   refine thn ?_
   refine rgH ?_; intro hQ70Q hQ70
   refine s1 hF61 18 (.int .i64 (w64 (x8 + 1))) ?_; intro a71 hF72; clear hF61
   refine s1 hF72 8 (.int .i64 (w64 (x8 + 1))) ?_; intro a73 hF74; clear hF72
   refine nlH (hQ70 _ _ ?_); clear hQ70 hQ70Q
   refine rd ?_
   exact ⟨w64 (x8 + 1), hp69.1, hp69.2, (hF74.reg).anyβ _ (by kernel_rfl), hM27.keep (List.Sublist.slnil)⟩
 ·
  have hp75 := hp28.2 hb32; clear hp28
  refine wp_exit ?_
  refine thx ?_
  refine thx ?_
  refine ibx ?_
  refine thn ?_
  refine sqH ?_; intro hQ76Q hQ76
  refine s1 hF31 4 (.int .i64 (-1)) ?_; intro a77 hF78; clear hF31
  refine nlH (hQ76 _ _ ?_); clear hQ76 hQ76Q
  refine wp_ret ?_
  refine rt (fn := Tryz.f27) (v := .int .i64 (-1)) hF78 (re1 hF78 (fn := Tryz.f27) rfl (by kernel_rfl)) ?_
  exact ⟨-1, rfl, hp75, hM27.below⟩

set_option maxRecDepth 100000 in
set_option maxHeartbeats 0 in
theorem scontains_walk (u0 : List Int) (u1 : Int) (ao1 : Option Addr) (cap2 : Nat) (Z : Fz) (w : World) (hs3 : SlR (tyInt .i64) Z ao1 cap2 u0) (hZ : Z.on w) {K : Bool → Prop} (hp : scontains_vc u0 u1 K) : Calls Tryz.prog 58 #[.slice ao1 u0.length cap2, .int .i64 u1] w fun e w' => ∃ r : Bool, e = .returned (.bool r) ∧ K r ∧ Below w.heap.size w w' := by
 refine enter0 Tryz.func58 rfl rfl (by kernel_rfl) ?_; intro a0 hF0; have hM0 := Mem.start w Z hZ; have hle0 := Fz.le.refl Z
 have hp4 := hp (hs3.small); clear hp
 refine sqH ?_; intro hQ5Q hQ5
 refine s1 hF0 4 (.bool false) ?_; intro a6 hF7; clear hF0
 refine nlH (hQ5 _ _ ?_); clear hQ5 hQ5Q
 refine sqH ?_; intro hQ8Q hQ8
 refine s1 hF7 5 (.slice ao1 u0.length cap2) ?_; intro a9 hF10; clear hF7
 refine s1 hF10 6 (.int .i64 u1) ?_; intro a11 hF12; clear hF10
 refine cl hF12 27 #[.slice ao1 u0.length cap2, .int .i64 u1] (nog rfl _) rfl (by kernel_rfl) (by kernel_rfl) ?_
 refine (sindex_walk u0 u1 ao1 cap2 _ _ hs3 hM0.fz hp4).mono ?_; rintro _ wd14 ⟨r13, rfl, hp18, hb⟩; refine ⟨_, rfl, ?_⟩; intro a15 hF16; have hM17 := hM0.call hb; clear hb hM0 hF12
 refine s1 hF16 8 (.bool (decide (r13 ≥ 0))) ?_; intro a19 hF20; clear hF16
 refine s1 hF20 4 (.bool (decide (r13 ≥ 0))) ?_; intro a21 hF22; clear hF20
 refine nlH (hQ8 _ _ ?_); clear hQ8 hQ8Q
 refine wp_ret ?_
 refine rt (fn := Tryz.f58) (v := .bool (decide (r13 ≥ 0))) hF22 (re1 hF22 (fn := Tryz.f58) rfl (by kernel_rfl)) ?_
 exact ⟨decide (r13 ≥ 0), rfl, hp18, hM17.below⟩

end Go.Proofs.YtmbdcehmeiiaoaaGreatDoor
