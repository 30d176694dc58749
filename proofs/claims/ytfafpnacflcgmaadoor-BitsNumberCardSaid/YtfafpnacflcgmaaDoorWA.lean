/- The walks, made by program: each call does what its pure predicate says. -/
import Derived.Test.YtfafpnacflcgmaaDoorPA
import Derived.Test.YtfafpnacflcgmaaDoorWZ
import Derived.Test.YtfafpnacflcgmaaDoorBld
namespace Go.Proofs
open Go.Shelf
def Tryd.lays166_ren : Go.Shelf.Ren := ⟨fun | 166 => 38 | 240 => 53 | 276 => 78 | n => n, fun | 37 => 27 | 70 => 57 | 72 => 59 | 75 => 61 | 80 => 64 | 164 => 111 | n => n, fun n => n⟩
theorem Tryd.lays166 : Lays.n166 Tryd.prog Tryd.lays166_ren where
  mixed := by kernel_rfl
  f166 := Tryd.func38.trans (congrArg some (by kernel_rfl))
  f240 := Tryd.func53.trans (congrArg some (by kernel_rfl))
  f276 := Tryd.func78.trans (congrArg some (by kernel_rfl))
  t0 := Tryd.underlying0
  a0 := Tryd.isAgg0
  z0 := Tryd.sizeOf0
  v0 := Tryd.zeroValue0
  t3 := Tryd.underlying3
  a3 := Tryd.isAgg3
  z3 := Tryd.sizeOf3
  v3 := Tryd.zeroValue3
  t4 := Tryd.underlying4
  a4 := Tryd.isAgg4
  z4 := Tryd.sizeOf4
  v4 := Tryd.zeroValue4
  t9 := Tryd.underlying9
  a9 := Tryd.isAgg9
  z9 := Tryd.sizeOf9
  v9 := Tryd.zeroValue9
  t20 := Tryd.underlying20
  a20 := Tryd.isAgg20
  z20 := Tryd.sizeOf20
  v20 := Tryd.zeroValue20
  t37 := Tryd.underlying27
  a37 := Tryd.isAgg27
  z37 := Tryd.sizeOf27
  v37 := Tryd.zeroValue27
  t70 := Tryd.underlying57
  a70 := Tryd.isAgg57
  z70 := Tryd.sizeOf57
  v70 := Tryd.zeroValue57
  t72 := Tryd.underlying59
  a72 := Tryd.isAgg59
  z72 := Tryd.sizeOf59
  v72 := Tryd.zeroValue59
  t75 := Tryd.underlying61
  a75 := Tryd.isAgg61
  z75 := Tryd.sizeOf61
  v75 := Tryd.zeroValue61
  t164 := Tryd.underlying111
  a164 := Tryd.isAgg111
  z164 := Tryd.sizeOf111
  v164 := Tryd.zeroValue111
theorem Tryd.lays166X : Builder.Extra Tryd.prog Tryd.lays166_ren where
  sizeBuilder := by kernel_rfl
  liesBuilder := by kernel_rfl
  t5 := by kernel_rfl
  a5 := fun w => by kernel_rfl
  z5 := fun w => by kernel_rfl
  v5 := fun w => by kernel_rfl
  infoByte := by kernel_rfl
  cellsByte := by kernel_rfl
  sizeByte := by kernel_rfl
  neB5 := by decide

def Tryd.lays169_ren : Go.Shelf.Ren := ⟨fun | 169 => 39 | n => n, fun | 37 => 27 | 70 => 57 | 72 => 59 | 127 => 86 | n => n, fun n => n⟩
theorem Tryd.lays169 : Lays.n169 Tryd.prog Tryd.lays169_ren where
  mixed := by kernel_rfl
  f169 := Tryd.func39.trans (congrArg some (by kernel_rfl))
  t0 := Tryd.underlying0
  a0 := Tryd.isAgg0
  z0 := Tryd.sizeOf0
  v0 := Tryd.zeroValue0
  t3 := Tryd.underlying3
  a3 := Tryd.isAgg3
  z3 := Tryd.sizeOf3
  v3 := Tryd.zeroValue3
  t9 := Tryd.underlying9
  a9 := Tryd.isAgg9
  z9 := Tryd.sizeOf9
  v9 := Tryd.zeroValue9
  t37 := Tryd.underlying27
  a37 := Tryd.isAgg27
  z37 := Tryd.sizeOf27
  v37 := Tryd.zeroValue27
  t70 := Tryd.underlying57
  a70 := Tryd.isAgg57
  z70 := Tryd.sizeOf57
  v70 := Tryd.zeroValue57
  t72 := Tryd.underlying59
  a72 := Tryd.isAgg59
  z72 := Tryd.sizeOf59
  v72 := Tryd.zeroValue59
  t127 := Tryd.underlying86
  a127 := Tryd.isAgg86
  z127 := Tryd.sizeOf86
  v127 := Tryd.zeroValue86
theorem Tryd.lays169X : Builder.Extra Tryd.prog Tryd.lays169_ren where
  sizeBuilder := by kernel_rfl
  liesBuilder := by kernel_rfl
  t5 := by kernel_rfl
  a5 := fun w => by kernel_rfl
  z5 := fun w => by kernel_rfl
  v5 := fun w => by kernel_rfl
  infoByte := by kernel_rfl
  cellsByte := by kernel_rfl
  sizeByte := by kernel_rfl
  neB5 := by decide

def Tryd.lays138_ren : Go.Shelf.Ren := ⟨fun | 138 => 42 | 195 => 60 | 218 => 61 | 143 => 62 | 219 => 82 | 217 => 95 | 225 => 96 | 224 => 97 | 267 => 98 | 266 => 106 | 314 => 107 | n => n, fun | 9 => 9 | 3 => 3 | 4 => 4 | 5 => 5 | 0 => 0 | 46 => 85 | 146 => 122 | 51 => 105 | n => n, fun | 1 => 0 | n => n⟩
theorem Tryd.lays138 : Go.Proofs.Lays.n138 Tryd.prog Tryd.lays138_ren := {
  mixed := by kernel_rfl
  f138 := Tryd.func42.trans (congrArg some (by kernel_rfl))
  f143 := Tryd.func62.trans (congrArg some (by kernel_rfl))
  f195 := Tryd.func60.trans (congrArg some (by kernel_rfl))
  f217 := Tryd.func95.trans (congrArg some (by kernel_rfl))
  f218 := Tryd.func61.trans (congrArg some (by kernel_rfl))
  f219 := Tryd.func82.trans (congrArg some (by kernel_rfl))
  f224 := Tryd.func97.trans (congrArg some (by kernel_rfl))
  f225 := Tryd.func96.trans (congrArg some (by kernel_rfl))
  f266 := Tryd.func106.trans (congrArg some (by kernel_rfl))
  f267 := Tryd.func98.trans (congrArg some (by kernel_rfl))
  f314 := Tryd.func107.trans (congrArg some (by kernel_rfl))
  t0 := Tryd.underlying0
  a0 := Tryd.isAgg0
  z0 := Tryd.sizeOf0
  v0 := Tryd.zeroValue0
  t3 := Tryd.underlying3
  a3 := Tryd.isAgg3
  z3 := Tryd.sizeOf3
  v3 := Tryd.zeroValue3
  t4 := Tryd.underlying4
  a4 := Tryd.isAgg4
  z4 := Tryd.sizeOf4
  v4 := Tryd.zeroValue4
  t5 := Tryd.underlying5
  a5 := Tryd.isAgg5
  z5 := Tryd.sizeOf5
  v5 := Tryd.zeroValue5
  t9 := Tryd.underlying9
  a9 := Tryd.isAgg9
  z9 := Tryd.sizeOf9
  v9 := Tryd.zeroValue9
  t46 := Tryd.underlying85
  a46 := Tryd.isAgg85
  z46 := Tryd.sizeOf85
  v46 := Tryd.zeroValue85
  t51 := Tryd.underlying105
  a51 := Tryd.isAgg105
  z51 := Tryd.sizeOf105
  v51 := Tryd.zeroValue105
  t146 := Tryd.underlying122
  a146 := Tryd.isAgg122
  z146 := Tryd.sizeOf122
  v146 := Tryd.zeroValue122
  g1 := by kernel_rfl }
end Go.Proofs
set_option linter.unusedVariables false
set_option linter.unusedSimpArgs false
namespace Go.Proofs.YtfafpnacflcgmaaDoor
open Go.Sy Go.RowKit
set_option maxRecDepth 100000 in
set_option maxHeartbeats 0 in
theorem bread_walk (u0 : List UInt8)  (Z : Fz) (w : World)  (hZ : Z.on w) {K : Int → Prop} (hp : bread_vc u0 K) : Calls Tryd.prog 36 #[str u0] w fun e w' => ∃ r : Int, e = .returned (.int .u64 r) ∧ K r ∧ Below w.heap.size w w' := by
 refine enter0 Tryd.func36 rfl rfl (by kernel_rfl) ?_; intro a0 hF0; have hM0 := Mem.start w Z hZ; have hle0 := Fz.le.refl Z
 refine sqH ?_; intro hQ1Q hQ1
 refine s1 hF0 2 (.int .u64 0) ?_; intro a2 hF3; clear hF0
 refine nlH (hQ1 _ _ ?_); clear hQ1 hQ1Q
 refine sqH ?_; intro hQ4Q hQ4
 refine s1 hF3 3 (.int .u64 0) ?_; intro a5 hF6; clear hF3
 refine nlH (hQ4 _ _ ?_); clear hQ4 hQ4Q
 refine wp_seq ?_
 refine sqH ?_; intro hQ7Q hQ7
 refine s1 hF6 5 (str u0) ?_; intro a8 hF9; clear hF6
 refine s1 hF9 6 (.int .i64 (u0.length : Int)) ?_; intro a10 hF11; clear hF9
 refine s1 hF11 7 (.int .i64 0) ?_; intro a12 hF13; clear hF11
 refine nlH (hQ7 _ _ ?_); clear hQ7 hQ7Q
 refine wp_block ?_
 have hF14 : Fr 20 [] [⟨0, [], str u0⟩, ⟨3, [], .int .u64 0⟩, ⟨6, [], .int .i64 (u0.length : Int)⟩, ⟨7, [], .int .i64 0⟩] a12 := hF13.region (by kernel_rfl) (by kernel_rfl); clear hF13
 have hF16 : Fr 20 [] [⟨0, [], str u0⟩, ⟨3, [], .int .u64 0⟩, ⟨6, [], .int .i64 (u0.length : Int)⟩, ⟨7, [], .int .i64 0⟩] a12 := hF14.region (by kernel_rfl) (by kernel_rfl); clear hF14
 obtain ⟨inv15, mu15, hI19, hr18⟩ := hp
 refine lp (ι := Int × Int) (fun (s : Int × Int) => [⟨0, [], str u0⟩, ⟨3, [], .int .u64 s.1⟩, ⟨6, [], .int .i64 (u0.length : Int)⟩, ⟨7, [], .int .i64 s.2⟩]) (fun (s : Int × Int) => []) (fun (s : Int × Int) => Z) (fun (s : Int × Int) => inv15 s.1 s.2) (fun (s : Int × Int) => mu15 s.1 s.2) ⟨0, 0⟩ hI19 (by exact hF16.region (by kernel_rfl) (by kernel_rfl)) (by exact hM0) ?_
 rintro ⟨x3, x7⟩ hI17 a21 wd22 hF23 hM24
 have hF25 : Fr 20 [] [⟨0, [], str u0⟩, ⟨3, [], .int .u64 x3⟩, ⟨6, [], .int .i64 (u0.length : Int)⟩, ⟨7, [], .int .i64 x7⟩] a21 := hF23; clear hF23 hF16
 have hM26 : Mem w.heap.size [] w Z [] Z wd22 := hM24; clear hM24 hM0
 have hp27 := hr18 x3 x7 hI17
 refine sqH ?_; intro hQ28Q hQ28
 refine s1 hF25 8 (.bool (decide (x7 < (u0.length : Int)))) ?_; intro a29 hF30; clear hF25
 refine nlH (hQ28 _ _ ?_); clear hQ28 hQ28Q
 refine wp_seq ?_
 refine cd hF30 (t := decide (x7 < (u0.length : Int))) (by kernel_rfl) (fun hb31 => ?_) (fun hb31 => ?_)
 · -- yes
  have hp32 := hp27.1 hb31; clear hp27
  refine wp_skip ?_
  refine thn ?_
  refine wp_seq ?_
  refine wp_block ?_
  refine sqH ?_; intro hQ33Q hQ33
  refine s1 hF30 9 (.int .i64 x7) ?_; intro a34 hF35; clear hF30
  refine s1 hF35 4 (.int .i64 x7) ?_; intro a36 hF37; clear hF35
  refine nlH (hQ33 _ _ ?_); clear hQ33 hQ33Q
  refine rgH ?_; intro hQ38Q hQ38
  refine s1 hF37 10 (.int .u64 x3) ?_; intro a39 hF40; clear hF37
  refine s1 hF40 11 (.int .u64 (bShl .u64 x3 1)) ?_; intro a41 hF42; clear hF40
  refine s1 hF42 12 (str u0) ?_; intro a43 hF44; clear hF42
  refine s1 hF44 13 (.int .i64 x7) ?_; intro a45 hF46; clear hF44
  have hc47 := hp32.1; have hp48 := hp32.2; clear hp32
  obtain ⟨c49, hq50⟩ : ∃ q, u0[x7.toNat]? = some q := ⟨_, List.getElem?_eq_getElem (by omega)⟩; have hp51 := hp48 c49 hq50
  refine st hF46 (.int .u8 (c49.toNat : Int)) (nog rfl _) rfl (by kernel_rfl) (stridx_run hF46 (k := .i64) rfl (by kernel_rfl) (by kernel_rfl) (by kernel_rfl) hc47.1 hq50) ?_; intro a52 hF53; clear hF46
  refine s1 hF53 15 (.int .u8 (w8 ((c49.toNat : Int) - 48))) ?_; intro a54 hF55; clear hF53
  refine s1 hF55 16 (.int .u64 (wu64 (w8 ((c49.toNat : Int) - 48)))) ?_; intro a56 hF57; clear hF55
  refine s1 hF57 17 (.int .u64 (bOr .u64 (bShl .u64 x3 1) (wu64 (w8 ((c49.toNat : Int) - 48))))) ?_; intro a58 hF59; clear hF57
  refine s1 hF59 3 (.int .u64 (bOr .u64 (bShl .u64 x3 1) (wu64 (w8 ((c49.toNat : Int) - 48))))) ?_; intro a60 hF61; clear hF59
  refine nlH (hQ38 _ _ ?_); clear hQ38 hQ38Q
  refine ibn ?_
  refine thn ?_
  refine rgH ?_; intro hQ62Q hQ62
  refine s1 hF61 18 (.int .i64 (w64 (x7 + 1))) ?_; intro a63 hF64; clear hF61
  refine s1 hF64 7 (.int .i64 (w64 (x7 + 1))) ?_; intro a65 hF66; clear hF64
  refine nlH (hQ62 _ _ ?_); clear hQ62 hQ62Q
  refine rd ?_
  exact ⟨⟨bOr .u64 (bShl .u64 x3 1) (wu64 (w8 ((c49.toNat : Int) - 48))), w64 (x7 + 1)⟩, hp51.1, hp51.2, (hF66.region (by kernel_rfl) (by kernel_rfl)).anyβ _ (by kernel_rfl), hM26.keep (List.Sublist.slnil)⟩
 · -- no
  have hp67 := hp27.2 hb31; clear hp27
  refine wp_exit ?_
  refine thx ?_
  refine thx ?_
  refine ibx ?_
  refine thn ?_
  refine sqH ?_; intro hQ68Q hQ68
  refine s1 hF30 19 (.int .u64 x3) ?_; intro a69 hF70; clear hF30
  refine s1 hF70 2 (.int .u64 x3) ?_; intro a71 hF72; clear hF70
  refine nlH (hQ68 _ _ ?_); clear hQ68 hQ68Q
  refine wp_ret ?_
  refine rt (fn := Tryd.f36) (v := .int .u64 x3) hF72 (re1 hF72 (fn := Tryd.f36) rfl (by kernel_rfl)) ?_
  exact ⟨x3, rfl, hp67, hM26.below⟩

set_option maxRecDepth 100000 in
set_option maxHeartbeats 0 in
theorem bwrite_walk (u0 : Int) (u1 : Int)  (Z : Fz) (w : World)  (hZ : Z.on w) {K : (List UInt8) → Prop} (hp : bwrite_vc u0 u1 K) : Calls Tryd.prog 37 #[.int .u64 u0, .int .i64 u1] w fun e w' => ∃ r : (List UInt8), e = .returned (str r) ∧ K r ∧ Below w.heap.size w w' := by
 refine enter0 Tryd.func37 rfl rfl (by kernel_rfl) ?_; intro a0 hF0; have hM0 := Mem.start w Z hZ; have hle0 := Fz.le.refl Z
 refine sqH ?_; intro hQ1Q hQ1
 refine s1 hF0 4 (str []) ?_; intro a2 hF3; clear hF0
 refine nlH (hQ1 _ _ ?_); clear hQ1 hQ1Q
 refine sqH ?_; intro hQ4Q hQ4
 refine s1 hF3 7 (.int .i64 u1) ?_; intro a5 hF6; clear hF3
 have hc7 := hp.1; have hp8 := hp.2; clear hp
 refine mks hF6 hM0 (T := (tyInt .u8)) u1 u1 (k := .i64) (k' := .i64) (e := 5) (bytes := 1) (zs := [.int .u8 0]) (z := 0) (by simp only [lim]; omega) (nog rfl _) rfl (by kernel_rfl) rfl (by kernel_rfl) (by kernel_rfl) (by kernel_rfl) (by kernel_rfl) rfl ?_; intro g9 a12 wd10 hF13 hM11; clear hF6 hM0
 have hM14 : Mem w.heap.size [] w Z [.own (tyInt .u8) 5 (some ⟨g9, 0, none⟩) u1.toNat (List.replicate u1.toNat (0 : Int))] Z wd10 := hM11; clear hM11
 refine s1 hF13 5 (.slice (some ⟨g9, 0, none⟩) (List.replicate u1.toNat (0 : Int)).length u1.toNat) ?_; intro a15 hF16; clear hF13
 refine nlH (hQ4 _ _ ?_); clear hQ4 hQ4Q
 refine wp_seq ?_
 refine sqH ?_; intro hQ17Q hQ17
 refine s1 hF16 9 (.int .i64 u1) ?_; intro a18 hF19; clear hF16
 refine s1 hF19 10 (.int .i64 0) ?_; intro a20 hF21; clear hF19
 refine nlH (hQ17 _ _ ?_); clear hQ17 hQ17Q
 refine wp_block ?_
 have hF22 : Fr 28 [] [⟨0, [], .int .u64 u0⟩, ⟨1, [], .int .i64 u1⟩, ⟨5, [], .slice (some ⟨g9, 0, none⟩) (List.replicate u1.toNat (0 : Int)).length u1.toNat⟩, ⟨9, [], .int .i64 u1⟩, ⟨10, [], .int .i64 0⟩] a20 := hF21.region (by kernel_rfl) (by kernel_rfl); clear hF21
 have hF24 : Fr 28 [] [⟨0, [], .int .u64 u0⟩, ⟨1, [], .int .i64 u1⟩, ⟨5, [], .slice (some ⟨g9, 0, none⟩) (List.replicate u1.toNat (0 : Int)).length u1.toNat⟩, ⟨9, [], .int .i64 u1⟩, ⟨10, [], .int .i64 0⟩] a20 := hF22.region (by kernel_rfl) (by kernel_rfl); clear hF22
 obtain ⟨inv23, mu23, hI27, hr26⟩ := hp8
 refine lp (ι := Int × Int × (List Int)) (fun (s : Int × Int × (List Int)) => [⟨0, [], .int .u64 s.1⟩, ⟨1, [], .int .i64 u1⟩, ⟨5, [], .slice (some ⟨g9, 0, none⟩) s.2.2.length u1.toNat⟩, ⟨9, [], .int .i64 u1⟩, ⟨10, [], .int .i64 s.2.1⟩]) (fun (s : Int × Int × (List Int)) => [.own (tyInt .u8) 5 (some ⟨g9, 0, none⟩) u1.toNat s.2.2]) (fun (s : Int × Int × (List Int)) => Z) (fun (s : Int × Int × (List Int)) => inv23 s.1 s.2.1 s.2.2) (fun (s : Int × Int × (List Int)) => mu23 s.1 s.2.1 s.2.2) ⟨u0, 0, (List.replicate u1.toNat (0 : Int))⟩ hI27 (by exact hF24.region (by kernel_rfl) (by kernel_rfl)) (by exact hM14) ?_
 rintro ⟨x0, x10, zg90⟩ hI25 a29 wd30 hF31 hM32
 have hF33 : Fr 28 [] [⟨0, [], .int .u64 x0⟩, ⟨1, [], .int .i64 u1⟩, ⟨5, [], .slice (some ⟨g9, 0, none⟩) zg90.length u1.toNat⟩, ⟨9, [], .int .i64 u1⟩, ⟨10, [], .int .i64 x10⟩] a29 := hF31; clear hF31 hF24
 have hM34 : Mem w.heap.size [] w Z [.own (tyInt .u8) 5 (some ⟨g9, 0, none⟩) u1.toNat zg90] Z wd30 := hM32; clear hM32 hM14
 have hp35 := hr26 x0 x10 zg90 hI25
 refine sqH ?_; intro hQ36Q hQ36
 refine s1 hF33 11 (.bool (decide (x10 < u1))) ?_; intro a37 hF38; clear hF33
 refine nlH (hQ36 _ _ ?_); clear hQ36 hQ36Q
 refine wp_seq ?_
 refine cd hF38 (t := decide (x10 < u1)) (by kernel_rfl) (fun hb39 => ?_) (fun hb39 => ?_)
 · -- yes
  have hp40 := hp35.1 hb39; clear hp35
  refine wp_skip ?_
  refine thn ?_
  refine wp_seq ?_
  refine wp_block ?_
  refine sqH ?_; intro hQ41Q hQ41
  refine s1 hF38 12 (.int .i64 x10) ?_; intro a42 hF43; clear hF38
  refine s1 hF43 6 (.int .i64 x10) ?_; intro a44 hF45; clear hF43
  refine nlH (hQ41 _ _ ?_); clear hQ41 hQ41Q
  refine sqH ?_; intro hQ46Q hQ46
  refine s1 hF45 13 (.slice (some ⟨g9, 0, none⟩) zg90.length u1.toNat) ?_; intro a47 hF48; clear hF45
  refine s1 hF48 14 (.int .i64 u1) ?_; intro a49 hF50; clear hF48
  refine s1 hF50 15 (.int .i64 (w64 (u1 - 1))) ?_; intro a51 hF52; clear hF50
  refine s1 hF52 16 (.int .i64 x10) ?_; intro a53 hF54; clear hF52
  refine s1 hF54 17 (.int .i64 (w64 ((w64 (u1 - 1)) - x10))) ?_; intro a55 hF56; clear hF54
  refine s1 hF56 18 (.int .u64 x0) ?_; intro a57 hF58; clear hF56
  refine s1 hF58 19 (.int .u64 (bAnd .u64 x0 1)) ?_; intro a59 hF60; clear hF58
  refine s1 hF60 20 (.int .u8 (w8 (bAnd .u64 x0 1))) ?_; intro a61 hF62; clear hF60
  refine s1 hF62 21 (.int .u8 (w8 (48 + (w8 (bAnd .u64 x0 1))))) ?_; intro a63 hF64; clear hF62
  have hc65 := hp40.1; have hp66 := hp40.2; clear hp40
  refine ixo hF64 hM34 0 (T := (tyInt .u8)) (xs := zg90) (w64 ((w64 (u1 - 1)) - x10)) hc65 (k := .i64) (e := 5) (bytes := 1) (nog rfl _) rfl (by kernel_rfl) rfl (by kernel_rfl) (by kernel_rfl) rfl (by kernel_rfl) ?_; intro g67 a69 hg68 hF70; clear hF64
  obtain rfl : g9 = g67 := by simpa using hg68
  have hF71 : Fr 28 [] [⟨0, [], .int .u64 x0⟩, ⟨1, [], .int .i64 u1⟩, ⟨5, [], .slice (some ⟨g9, 0, none⟩) zg90.length u1.toNat⟩, ⟨6, [], .int .i64 x10⟩, ⟨9, [], .int .i64 u1⟩, ⟨10, [], .int .i64 x10⟩, ⟨11, [], .bool (decide (x10 < u1))⟩, ⟨12, [], .int .i64 x10⟩, ⟨13, [], .slice (some ⟨g9, 0, none⟩) zg90.length u1.toNat⟩, ⟨14, [], .int .i64 u1⟩, ⟨15, [], .int .i64 (w64 (u1 - 1))⟩, ⟨16, [], .int .i64 x10⟩, ⟨17, [], .int .i64 (w64 ((w64 (u1 - 1)) - x10))⟩, ⟨18, [], .int .u64 x0⟩, ⟨19, [], .int .u64 (bAnd .u64 x0 1)⟩, ⟨20, [], .int .u8 (w8 (bAnd .u64 x0 1))⟩, ⟨21, [], .int .u8 (w8 (48 + (w8 (bAnd .u64 x0 1))))⟩, ⟨22, [], .pointer (some ⟨g9, (w64 ((w64 (u1 - 1)) - x10)).toNat * 1, none⟩)⟩] a69 := hF70.region (by kernel_rfl) (by kernel_rfl); clear hF70
  have hM72 : Mem w.heap.size [] w Z [.own (tyInt .u8) 5 (some ⟨g9, 0, none⟩) u1.toNat zg90] Z wd30 := hM34; clear hM34
  refine so hF71 hM72 0 (T := (tyInt .u8)) (xs := zg90) (w64 ((w64 (u1 - 1)) - x10)).toNat (w8 (48 + (w8 (bAnd .u64 x0 1)))) (u := .int .u8 (w8 (48 + (w8 (bAnd .u64 x0 1))))) (nog rfl _) rfl rfl (by kernel_rfl) rfl (by kernel_rfl) rfl (by kernel_rfl) (by first | omega | (simp only [List.length_set] at *; omega)) rfl ?_; intro wd73 hM74; clear hM72
  have hF75 : Fr 28 [] [⟨0, [], .int .u64 x0⟩, ⟨1, [], .int .i64 u1⟩, ⟨5, [], .slice (some ⟨g9, 0, none⟩) (zg90.set (w64 ((w64 (u1 - 1)) - x10)).toNat (w8 (48 + (w8 (bAnd .u64 x0 1))))).length u1.toNat⟩, ⟨6, [], .int .i64 x10⟩, ⟨9, [], .int .i64 u1⟩, ⟨10, [], .int .i64 x10⟩, ⟨11, [], .bool (decide (x10 < u1))⟩, ⟨12, [], .int .i64 x10⟩, ⟨13, [], .slice (some ⟨g9, 0, none⟩) (zg90.set (w64 ((w64 (u1 - 1)) - x10)).toNat (w8 (48 + (w8 (bAnd .u64 x0 1))))).length u1.toNat⟩, ⟨14, [], .int .i64 u1⟩, ⟨15, [], .int .i64 (w64 (u1 - 1))⟩, ⟨16, [], .int .i64 x10⟩, ⟨17, [], .int .i64 (w64 ((w64 (u1 - 1)) - x10))⟩, ⟨18, [], .int .u64 x0⟩, ⟨19, [], .int .u64 (bAnd .u64 x0 1)⟩, ⟨20, [], .int .u8 (w8 (bAnd .u64 x0 1))⟩, ⟨21, [], .int .u8 (w8 (48 + (w8 (bAnd .u64 x0 1))))⟩, ⟨22, [], .pointer (some ⟨g9, (w64 ((w64 (u1 - 1)) - x10)).toNat * 1, none⟩)⟩] a69 := by (try simp only [List.length_set] at hF71); (try simp only [List.length_set]); exact hF71.region (by kernel_rfl) (by kernel_rfl)
  clear hF71
  have hM76 : Mem w.heap.size [] w Z [.own (tyInt .u8) 5 (some ⟨g9, 0, none⟩) u1.toNat (zg90.set (w64 ((w64 (u1 - 1)) - x10)).toNat (w8 (48 + (w8 (bAnd .u64 x0 1)))))] Z wd73 := hM74; clear hM74
  refine nlH (hQ46 _ _ ?_); clear hQ46 hQ46Q
  refine rgH ?_; intro hQ77Q hQ77
  refine s1 hF75 23 (.int .u64 x0) ?_; intro a78 hF79; clear hF75
  refine s1 hF79 24 (.int .u64 (bShr .u64 x0 1)) ?_; intro a80 hF81; clear hF79
  refine s1 hF81 0 (.int .u64 (bShr .u64 x0 1)) ?_; intro a82 hF83; clear hF81
  refine nlH (hQ77 _ _ ?_); clear hQ77 hQ77Q
  refine ibn ?_
  refine thn ?_
  have hF84 : Fr 28 [] [⟨0, [], .int .u64 (bShr .u64 x0 1)⟩, ⟨1, [], .int .i64 u1⟩, ⟨5, [], .slice (some ⟨g9, 0, none⟩) (zg90.set (w64 ((w64 (u1 - 1)) - x10)).toNat (w8 (48 + (w8 (bAnd .u64 x0 1))))).length u1.toNat⟩, ⟨9, [], .int .i64 u1⟩, ⟨10, [], .int .i64 x10⟩] a82 := hF83.region (by kernel_rfl) (by kernel_rfl); clear hF83
  refine rgH ?_; intro hQ85Q hQ85
  refine s1 hF84 25 (.int .i64 (w64 (x10 + 1))) ?_; intro a86 hF87; clear hF84
  refine s1 hF87 10 (.int .i64 (w64 (x10 + 1))) ?_; intro a88 hF89; clear hF87
  refine nlH (hQ85 _ _ ?_); clear hQ85 hQ85Q
  refine rd ?_
  exact ⟨⟨bShr .u64 x0 1, w64 (x10 + 1), zg90.set (w64 ((w64 (u1 - 1)) - x10)).toNat (w8 (48 + (w8 (bAnd .u64 x0 1))))⟩, hp66.1, hp66.2, (hF89.region (by kernel_rfl) (by kernel_rfl)).anyβ _ (by kernel_rfl), hM76.keep (List.Sublist.cons_cons _ (List.Sublist.slnil))⟩
 · -- no
  have hp90 := hp35.2 hb39; clear hp35
  refine wp_exit ?_
  refine thx ?_
  refine thx ?_
  refine ibx ?_
  refine thn ?_
  refine sqH ?_; intro hQ91Q hQ91
  refine s1 hF38 26 (.slice (some ⟨g9, 0, none⟩) zg90.length u1.toNat) ?_; intro a92 hF93; clear hF38
  refine st hF93 (str (bstr zg90)) (nog rfl _) rfl (by kernel_rfl) ((by obtain ⟨Z9, hle9, hon9, hs9⟩ := hM34.lend 0 rfl; exact bstr_op hF93 (g := []) (e := 5) (ao := (some ⟨g9, 0, none⟩)) (cap := u1.toNat) (xs := zg90) rfl (by kernel_rfl) (by kernel_rfl) (by kernel_rfl) (by kernel_rfl)  hs9 hon9 rfl)) ?_; intro a94 hF95; clear hF93
  refine s1 hF95 4 (str (bstr zg90)) ?_; intro a96 hF97; clear hF95
  refine nlH (hQ91 _ _ ?_); clear hQ91 hQ91Q
  refine wp_ret ?_
  refine rt (fn := Tryd.f37) (v := str (bstr zg90)) hF97 (re1 hF97 (fn := Tryd.f37) rfl (by kernel_rfl)) ?_
  exact ⟨bstr zg90, rfl, hp90, hM34.below⟩

set_option maxRecDepth 100000 in
set_option maxHeartbeats 0 in
theorem bcheck_walk (u0 : List UInt8)  (Z : Fz) (w : World)  (hZ : Z.on w) {K : Int → Prop} (hp : bcheck_vc u0 K) : Calls Tryd.prog 22 #[str u0] w fun e w' => ∃ r : Int, e = .returned (.int .i64 r) ∧ K r ∧ Below w.heap.size w w' := by
 refine enter0 Tryd.func22 rfl rfl (by kernel_rfl) ?_; intro a0 hF0; have hM0 := Mem.start w Z hZ; have hle0 := Fz.le.refl Z
 refine sqH ?_; intro hQ1Q hQ1
 refine s1 hF0 2 (.int .i64 0) ?_; intro a2 hF3; clear hF0
 refine nlH (hQ1 _ _ ?_); clear hQ1 hQ1Q
 refine wp_seq ?_
 refine sqH ?_; intro hQ4Q hQ4
 refine s1 hF3 3 (str u0) ?_; intro a5 hF6; clear hF3
 refine s1 hF6 4 (.int .i64 (u0.length : Int)) ?_; intro a7 hF8; clear hF6
 refine s1 hF8 5 (.bool (decide ((u0.length : Int) > 1000))) ?_; intro a9 hF10; clear hF8
 refine nlH (hQ4 _ _ ?_); clear hQ4 hQ4Q
 refine cd hF10 (t := decide ((u0.length : Int) > 1000)) (by kernel_rfl) (fun hb11 => ?_) (fun hb11 => ?_)
 · -- yes
  have hp12 := hp.1 hb11; clear hp
  refine sqH ?_; intro hQ13Q hQ13
  refine s1 hF10 2 (.int .i64 2) ?_; intro a14 hF15; clear hF10
  refine nlH (hQ13 _ _ ?_); clear hQ13 hQ13Q
  refine wp_ret ?_
  refine thr ?_
  refine rt (fn := Tryd.f22) (v := .int .i64 2) hF15 (re1 hF15 (fn := Tryd.f22) rfl (by kernel_rfl)) ?_
  exact ⟨2, rfl, hp12, hM0.below⟩
 · -- no
  have hp16 := hp.2 hb11; clear hp
  refine wp_skip ?_
  refine thn ?_
  refine wp_seq ?_
  refine sqH ?_; intro hQ17Q hQ17
  refine s1 hF10 6 (str u0) ?_; intro a18 hF19; clear hF10
  have hc20 := hp16.1; have hp21 := hp16.2; clear hp16
  refine fcl hF19 hM0 (str (trimS u0 ([48, 49] : List UInt8))) 43 #[str u0, str ([48, 49] : List UInt8)] (nog rfl _) rfl (by kernel_rfl) (fun _ => by kernel_rfl) (trim_fun u0 ([48, 49] : List UInt8) hc20 _ _ hM0.fz) ?_; intro a22 wd24 hF23 hM25; clear hF19 hM0
  refine st hF23 (.bool ((trimS u0 ([48, 49] : List UInt8)) != ([] : List UInt8))) (nog rfl _) rfl (by kernel_rfl) (strcmp_run hF23 (g := []) (op := .neq) rfl (by kernel_rfl) (by kernel_rfl) (by decide) rfl) ?_; intro a26 hF27; clear hF23
  refine nlH (hQ17 _ _ ?_); clear hQ17 hQ17Q
  refine cd hF27 (t := (trimS u0 ([48, 49] : List UInt8)) != ([] : List UInt8)) (by kernel_rfl) (fun hb28 => ?_) (fun hb28 => ?_)
  · -- yes
   have hp29 := hp21.1 hb28; clear hp21
   refine sqH ?_; intro hQ30Q hQ30
   refine s1 hF27 2 (.int .i64 4) ?_; intro a31 hF32; clear hF27
   refine nlH (hQ30 _ _ ?_); clear hQ30 hQ30Q
   refine wp_ret ?_
   refine thr ?_
   refine rt (fn := Tryd.f22) (v := .int .i64 4) hF32 (re1 hF32 (fn := Tryd.f22) rfl (by kernel_rfl)) ?_
   exact ⟨4, rfl, hp29, hM25.below⟩
  · -- no
   have hp33 := hp21.2 hb28; clear hp21
   refine wp_skip ?_
   refine thn ?_
   refine sqH ?_; intro hQ34Q hQ34
   refine s1 hF27 2 (.int .i64 0) ?_; intro a35 hF36; clear hF27
   refine nlH (hQ34 _ _ ?_); clear hQ34 hQ34Q
   refine wp_ret ?_
   refine rt (fn := Tryd.f22) (v := .int .i64 0) hF36 (re1 hF36 (fn := Tryd.f22) rfl (by kernel_rfl)) ?_
   exact ⟨0, rfl, hp33, hM25.below⟩

theorem count1_fun (u0 : List UInt8) (u1 : List UInt8) (hpre : u1.length = 1) (Z : Fz) (w : World) (hZ : Z.on w) : Calls Tryd.prog 42 #[str u0, str u1] w fun e w' => e = .returned (.int .i64 (count1S u0 u1)) ∧ Below w.heap.size w w' := by
  obtain ⟨c, rfl⟩ : ∃ c, u1 = [c] := by
    match u1, hpre with
    | [c], _ => exact ⟨c, rfl⟩
  exact (Any.strings_Count_one Tryd.lays138 ⟨⟨u0⟩⟩ c w).mono fun _ _ ⟨h1, h2⟩ => ⟨h1, h2 ▸ Below.refl _ _⟩

set_option maxRecDepth 100000 in
set_option maxHeartbeats 0 in
theorem rcheckrow_walk (u0 : List UInt8)  (Z : Fz) (w : World)  (hZ : Z.on w) {K : Int → Prop} (hp : rcheckrow_vc u0 K) : Calls Tryd.prog 21 #[str u0] w fun e w' => ∃ r : Int, e = .returned (.int .i64 r) ∧ K r ∧ Below w.heap.size w w' := by
 refine enter0 Tryd.func21 rfl rfl (by kernel_rfl) ?_; intro a0 hF0; have hM0 := Mem.start w Z hZ; have hle0 := Fz.le.refl Z
 refine sqH ?_; intro hQ1Q hQ1
 refine s1 hF0 2 (.int .i64 0) ?_; intro a2 hF3; clear hF0
 refine nlH (hQ1 _ _ ?_); clear hQ1 hQ1Q
 refine wp_seq ?_
 refine sqH ?_; intro hQ4Q hQ4
 refine s1 hF3 3 (str u0) ?_; intro a5 hF6; clear hF3
 refine s1 hF6 4 (.int .i64 (u0.length : Int)) ?_; intro a7 hF8; clear hF6
 refine s1 hF8 5 (.bool (decide ((u0.length : Int) > 1000))) ?_; intro a9 hF10; clear hF8
 refine nlH (hQ4 _ _ ?_); clear hQ4 hQ4Q
 refine cd hF10 (t := decide ((u0.length : Int) > 1000)) (by kernel_rfl) (fun hb11 => ?_) (fun hb11 => ?_)
 · -- yes
  have hp12 := hp.1 hb11; clear hp
  refine sqH ?_; intro hQ13Q hQ13
  refine s1 hF10 2 (.int .i64 2) ?_; intro a14 hF15; clear hF10
  refine nlH (hQ13 _ _ ?_); clear hQ13 hQ13Q
  refine wp_ret ?_
  refine thr ?_
  refine rt (fn := Tryd.f21) (v := .int .i64 2) hF15 (re1 hF15 (fn := Tryd.f21) rfl (by kernel_rfl)) ?_
  exact ⟨2, rfl, hp12, hM0.below⟩
 · -- no
  have hp16 := hp.2 hb11; clear hp
  refine wp_skip ?_
  refine thn ?_
  refine wp_seq ?_
  refine sqH ?_; intro hQ17Q hQ17
  refine s1 hF10 6 (str u0) ?_; intro a18 hF19; clear hF10
  have hc20 := hp16.1; have hp21 := hp16.2; clear hp16
  refine fcl hF19 hM0 (.int .i64 (count1S u0 ([48] : List UInt8))) 42 #[str u0, str ([48] : List UInt8)] (nog rfl _) rfl (by kernel_rfl) (fun _ => by kernel_rfl) (count1_fun u0 ([48] : List UInt8) hc20 _ _ hM0.fz) ?_; intro a22 wd24 hF23 hM25; clear hF19 hM0
  refine s1 hF23 8 (str u0) ?_; intro a26 hF27; clear hF23
  have hc28 := hp21.1; have hp29 := hp21.2; clear hp21
  refine fcl hF27 hM25 (.int .i64 (count1S u0 ([49] : List UInt8))) 42 #[str u0, str ([49] : List UInt8)] (nog rfl _) rfl (by kernel_rfl) (fun _ => by kernel_rfl) (count1_fun u0 ([49] : List UInt8) hc28 _ _ hM25.fz) ?_; intro a30 wd32 hF31 hM33; clear hF27 hM25
  refine s1 hF31 10 (.int .i64 (w64 ((count1S u0 ([48] : List UInt8)) + (count1S u0 ([49] : List UInt8))))) ?_; intro a34 hF35; clear hF31
  refine s1 hF35 11 (str u0) ?_; intro a36 hF37; clear hF35
  refine s1 hF37 12 (.int .i64 (u0.length : Int)) ?_; intro a38 hF39; clear hF37
  refine s1 hF39 13 (.bool ((w64 ((count1S u0 ([48] : List UInt8)) + (count1S u0 ([49] : List UInt8)))) != (u0.length : Int))) ?_; intro a40 hF41; clear hF39
  refine nlH (hQ17 _ _ ?_); clear hQ17 hQ17Q
  refine cd hF41 (t := (w64 ((count1S u0 ([48] : List UInt8)) + (count1S u0 ([49] : List UInt8)))) != (u0.length : Int)) (by kernel_rfl) (fun hb42 => ?_) (fun hb42 => ?_)
  · -- yes
   have hp43 := hp29.1 hb42; clear hp29
   refine sqH ?_; intro hQ44Q hQ44
   refine s1 hF41 2 (.int .i64 4) ?_; intro a45 hF46; clear hF41
   refine nlH (hQ44 _ _ ?_); clear hQ44 hQ44Q
   refine wp_ret ?_
   refine thr ?_
   refine rt (fn := Tryd.f21) (v := .int .i64 4) hF46 (re1 hF46 (fn := Tryd.f21) rfl (by kernel_rfl)) ?_
   exact ⟨4, rfl, hp43, hM33.below⟩
  · -- no
   have hp47 := hp29.2 hb42; clear hp29
   refine wp_skip ?_
   refine thn ?_
   refine sqH ?_; intro hQ48Q hQ48
   refine s1 hF41 2 (.int .i64 0) ?_; intro a49 hF50; clear hF41
   refine nlH (hQ48 _ _ ?_); clear hQ48 hQ48Q
   refine wp_ret ?_
   refine rt (fn := Tryd.f21) (v := .int .i64 0) hF50 (re1 hF50 (fn := Tryd.f21) rfl (by kernel_rfl)) ?_
   exact ⟨0, rfl, hp47, hM33.below⟩

end Go.Proofs.YtfafpnacflcgmaaDoor
