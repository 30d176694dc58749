/- The walks, made by program: each call does what its pure predicate says. -/
import Derived.Test.YtinegicenfndkaaDoorPA
import Derived.Test.YtinegicenfndkaaDoorWZ
import Derived.Test.YtinegicenfndkaaDoorBld
namespace Go.Proofs
open Go.Shelf
def Tryd.lays166_ren : Go.Shelf.Ren := ⟨fun | 166 => 77 | 240 => 112 | 276 => 134 | n => n, fun | 37 => 32 | 70 => 108 | 72 => 110 | 75 => 112 | 80 => 115 | 164 => 158 | n => n, fun n => n⟩
theorem Tryd.lays166 : Lays.n166 Tryd.prog Tryd.lays166_ren := {
  mixed := by kernel_rfl
  f166 := Tryd.func77.trans (congrArg some (by kernel_rfl))
  f240 := Tryd.func112.trans (congrArg some (by kernel_rfl))
  f276 := Tryd.func134.trans (congrArg some (by kernel_rfl))
  t0 := Tryd.underlying0
  a0 := Tryd.isAgg0
  z0 := Tryd.sizeOf0
  v0 := Tryd.zeroValue0
  t3 := Tryd.underlying3
  a3 := Tryd.isAgg3
  z3 := Tryd.sizeOf3
  v3 := Tryd.zeroValue3
  t4 := Tryd.underlying4
  a4 := Tryd.isAgg4
  z4 := Tryd.sizeOf4
  v4 := Tryd.zeroValue4
  t9 := Tryd.underlying9
  a9 := Tryd.isAgg9
  z9 := Tryd.sizeOf9
  v9 := Tryd.zeroValue9
  t20 := Tryd.underlying20
  a20 := Tryd.isAgg20
  z20 := Tryd.sizeOf20
  v20 := Tryd.zeroValue20
  t37 := Tryd.underlying32
  a37 := Tryd.isAgg32
  z37 := Tryd.sizeOf32
  v37 := Tryd.zeroValue32
  t70 := Tryd.underlying108
  a70 := Tryd.isAgg108
  z70 := Tryd.sizeOf108
  v70 := Tryd.zeroValue108
  t72 := Tryd.underlying110
  a72 := Tryd.isAgg110
  z72 := Tryd.sizeOf110
  v72 := Tryd.zeroValue110
  t75 := Tryd.underlying112
  a75 := Tryd.isAgg112
  z75 := Tryd.sizeOf112
  v75 := Tryd.zeroValue112
  t164 := Tryd.underlying158
  a164 := Tryd.isAgg158
  z164 := Tryd.sizeOf158
  v164 := Tryd.zeroValue158 }
theorem Tryd.lays166X : Builder.Extra Tryd.prog Tryd.lays166_ren := {
  sizeBuilder := by kernel_rfl
  liesBuilder := by kernel_rfl
  t5 := by kernel_rfl
  a5 := fun w => by kernel_rfl
  z5 := fun w => by kernel_rfl
  v5 := fun w => by kernel_rfl
  infoByte := by kernel_rfl
  cellsByte := by kernel_rfl
  sizeByte := by kernel_rfl
  neB5 := by decide }

def Tryd.lays169_ren : Go.Shelf.Ren := ⟨fun | 169 => 78 | n => n, fun | 37 => 32 | 70 => 108 | 72 => 110 | 127 => 145 | n => n, fun n => n⟩
theorem Tryd.lays169 : Lays.n169 Tryd.prog Tryd.lays169_ren := {
  mixed := by kernel_rfl
  f169 := Tryd.func78.trans (congrArg some (by kernel_rfl))
  t0 := Tryd.underlying0
  a0 := Tryd.isAgg0
  z0 := Tryd.sizeOf0
  v0 := Tryd.zeroValue0
  t3 := Tryd.underlying3
  a3 := Tryd.isAgg3
  z3 := Tryd.sizeOf3
  v3 := Tryd.zeroValue3
  t9 := Tryd.underlying9
  a9 := Tryd.isAgg9
  z9 := Tryd.sizeOf9
  v9 := Tryd.zeroValue9
  t37 := Tryd.underlying32
  a37 := Tryd.isAgg32
  z37 := Tryd.sizeOf32
  v37 := Tryd.zeroValue32
  t70 := Tryd.underlying108
  a70 := Tryd.isAgg108
  z70 := Tryd.sizeOf108
  v70 := Tryd.zeroValue108
  t72 := Tryd.underlying110
  a72 := Tryd.isAgg110
  z72 := Tryd.sizeOf110
  v72 := Tryd.zeroValue110
  t127 := Tryd.underlying145
  a127 := Tryd.isAgg145
  z127 := Tryd.sizeOf145
  v127 := Tryd.zeroValue145 }
theorem Tryd.lays169X : Builder.Extra Tryd.prog Tryd.lays169_ren := {
  sizeBuilder := by kernel_rfl
  liesBuilder := by kernel_rfl
  t5 := by kernel_rfl
  a5 := fun w => by kernel_rfl
  z5 := fun w => by kernel_rfl
  v5 := fun w => by kernel_rfl
  infoByte := by kernel_rfl
  cellsByte := by kernel_rfl
  sizeByte := by kernel_rfl
  neB5 := by decide }

def Tryd.lays138_ren : Go.Shelf.Ren := ⟨fun | 138 => 53 | 195 => 88 | 218 => 89 | 143 => 52 | 219 => 87 | 217 => 117 | 225 => 118 | 224 => 119 | 267 => 120 | 266 => 138 | 314 => 139 | n => n, fun | 9 => 9 | 3 => 3 | 4 => 4 | 5 => 5 | 0 => 0 | 46 => 86 | 146 => 161 | 51 => 130 | n => n, fun | 1 => 0 | n => n⟩
theorem Tryd.lays138 : Go.Proofs.Lays.n138 Tryd.prog Tryd.lays138_ren := {
  mixed := by kernel_rfl
  f138 := Tryd.func53.trans (congrArg some (by kernel_rfl))
  f143 := Tryd.func52.trans (congrArg some (by kernel_rfl))
  f195 := Tryd.func88.trans (congrArg some (by kernel_rfl))
  f217 := Tryd.func117.trans (congrArg some (by kernel_rfl))
  f218 := Tryd.func89.trans (congrArg some (by kernel_rfl))
  f219 := Tryd.func87.trans (congrArg some (by kernel_rfl))
  f224 := Tryd.func119.trans (congrArg some (by kernel_rfl))
  f225 := Tryd.func118.trans (congrArg some (by kernel_rfl))
  f266 := Tryd.func138.trans (congrArg some (by kernel_rfl))
  f267 := Tryd.func120.trans (congrArg some (by kernel_rfl))
  f314 := Tryd.func139.trans (congrArg some (by kernel_rfl))
  t0 := Tryd.underlying0
  a0 := Tryd.isAgg0
  z0 := Tryd.sizeOf0
  v0 := Tryd.zeroValue0
  t3 := Tryd.underlying3
  a3 := Tryd.isAgg3
  z3 := Tryd.sizeOf3
  v3 := Tryd.zeroValue3
  t4 := Tryd.underlying4
  a4 := Tryd.isAgg4
  z4 := Tryd.sizeOf4
  v4 := Tryd.zeroValue4
  t5 := Tryd.underlying5
  a5 := Tryd.isAgg5
  z5 := Tryd.sizeOf5
  v5 := Tryd.zeroValue5
  t9 := Tryd.underlying9
  a9 := Tryd.isAgg9
  z9 := Tryd.sizeOf9
  v9 := Tryd.zeroValue9
  t46 := Tryd.underlying86
  a46 := Tryd.isAgg86
  z46 := Tryd.sizeOf86
  v46 := Tryd.zeroValue86
  t51 := Tryd.underlying130
  a51 := Tryd.isAgg130
  z51 := Tryd.sizeOf130
  v51 := Tryd.zeroValue130
  t146 := Tryd.underlying161
  a146 := Tryd.isAgg161
  z146 := Tryd.sizeOf161
  v146 := Tryd.zeroValue161
  g1 := by kernel_rfl }
end Go.Proofs
set_option linter.unusedVariables false
set_option linter.unusedSimpArgs false
namespace Go.Proofs.YtinegicenfndkaaDoor
open Go.Sy Go.RowKit
set_option maxRecDepth 100000 in
set_option maxHeartbeats 0 in
theorem bread_walk (u0 : List UInt8)  (Z : Fz) (w : World)  (hZ : Z.on w) {K : Int → Prop} (hp : bread_vc u0 K) : Calls Tryd.prog 79 #[str u0] w fun e w' => ∃ r : Int, e = .returned (.int .u64 r) ∧ K r ∧ Below w.heap.size w w' := by
 refine enter0 Tryd.func79 rfl rfl (by kernel_rfl) ?_; intro a0 hF0; have hM0 := Mem.start w Z hZ; have hle0 := Fz.le.refl Z
 refine sqH ?_; intro hQ1Q hQ1
 refine s1 hF0 2 (.int .u64 0) ?_; intro a2 hF3; clear hF0
 refine nlH (hQ1 _ _ ?_); clear hQ1 hQ1Q
 refine sqH ?_; intro hQ4Q hQ4
 refine s1 hF3 3 (.int .u64 0) ?_; intro a5 hF6; clear hF3
 refine nlH (hQ4 _ _ ?_); clear hQ4 hQ4Q
 refine wp_seq ?_
 refine sqH ?_; intro hQ7Q hQ7
 refine s1 hF6 5 (str u0) ?_; intro a8 hF9; clear hF6
 refine s1 hF9 6 (.int .i64 (u0.length : Int)) ?_; intro a10 hF11; clear hF9
 refine s1 hF11 7 (.int .i64 0) ?_; intro a12 hF13; clear hF11
 refine nlH (hQ7 _ _ ?_); clear hQ7 hQ7Q
 refine wp_block ?_
 have hF14 : Fr 20 [] [⟨0, [], str u0⟩, ⟨3, [], .int .u64 0⟩, ⟨6, [], .int .i64 (u0.length : Int)⟩, ⟨7, [], .int .i64 0⟩] a12 := hF13.region (by kernel_rfl) (by kernel_rfl); clear hF13
 have hF16 : Fr 20 [] [⟨0, [], str u0⟩, ⟨3, [], .int .u64 0⟩, ⟨6, [], .int .i64 (u0.length : Int)⟩, ⟨7, [], .int .i64 0⟩] a12 := hF14.region (by kernel_rfl) (by kernel_rfl); clear hF14
 obtain ⟨inv15, mu15, hI19, hr18⟩ := hp
 refine lp (ι := Int × Int) (fun (s : Int × Int) => [⟨0, [], str u0⟩, ⟨3, [], .int .u64 s.1⟩, ⟨6, [], .int .i64 (u0.length : Int)⟩, ⟨7, [], .int .i64 s.2⟩]) (fun (s : Int × Int) => []) (fun (s : Int × Int) => Z) (fun (s : Int × Int) => inv15 s.1 s.2) (fun (s : Int × Int) => mu15 s.1 s.2) ⟨0, 0⟩ hI19 (by exact hF16.region (by kernel_rfl) (by kernel_rfl)) (by exact hM0) ?_
 rintro ⟨x3, x7⟩ hI17 a21 wd22 hF23 hM24
 have hF25 : Fr 20 [] [⟨0, [], str u0⟩, ⟨3, [], .int .u64 x3⟩, ⟨6, [], .int .i64 (u0.length : Int)⟩, ⟨7, [], .int .i64 x7⟩] a21 := hF23; clear hF23 hF16
 have hM26 : Mem w.heap.size [] w Z [] Z wd22 := hM24; clear hM24 hM0
 have hp27 := hr18 x3 x7 hI17
 refine sqH ?_; intro hQ28Q hQ28
 refine s1 hF25 8 (.bool (decide (x7 < (u0.length : Int)))) ?_; intro a29 hF30; clear hF25
 refine nlH (hQ28 _ _ ?_); clear hQ28 hQ28Q
 refine wp_seq ?_
 refine cd hF30 (t := decide (x7 < (u0.length : Int))) (by kernel_rfl) (fun hb31 => ?_) (fun hb31 => ?_)
 · -- yes
  have hp32 := hp27.1 hb31; clear hp27
  refine wp_skip ?_
  refine thn ?_
  refine wp_seq ?_
  refine wp_block ?_
  refine sqH ?_; intro hQ33Q hQ33
  refine s1 hF30 9 (.int .i64 x7) ?_; intro a34 hF35; clear hF30
  refine s1 hF35 4 (.int .i64 x7) ?_; intro a36 hF37; clear hF35
  refine nlH (hQ33 _ _ ?_); clear hQ33 hQ33Q
  refine rgH ?_; intro hQ38Q hQ38
  refine s1 hF37 10 (.int .u64 x3) ?_; intro a39 hF40; clear hF37
  refine s1 hF40 11 (.int .u64 (bShl .u64 x3 1)) ?_; intro a41 hF42; clear hF40
  refine s1 hF42 12 (str u0) ?_; intro a43 hF44; clear hF42
  refine s1 hF44 13 (.int .i64 x7) ?_; intro a45 hF46; clear hF44
  have hc47 := hp32.1; have hp48 := hp32.2; clear hp32
  obtain ⟨c49, hq50⟩ : ∃ q, u0[x7.toNat]? = some q := ⟨_, List.getElem?_eq_getElem (by omega)⟩; have hp51 := hp48 c49 hq50
  refine st hF46 (.int .u8 (c49.toNat : Int)) (nog rfl _) rfl (by kernel_rfl) (stridx_run hF46 (k := .i64) rfl (by kernel_rfl) (by kernel_rfl) (by kernel_rfl) hc47.1 hq50) ?_; intro a52 hF53; clear hF46
  refine s1 hF53 15 (.int .u8 (w8 ((c49.toNat : Int) - 48))) ?_; intro a54 hF55; clear hF53
  refine s1 hF55 16 (.int .u64 (wu64 (w8 ((c49.toNat : Int) - 48)))) ?_; intro a56 hF57; clear hF55
  refine s1 hF57 17 (.int .u64 (bOr .u64 (bShl .u64 x3 1) (wu64 (w8 ((c49.toNat : Int) - 48))))) ?_; intro a58 hF59; clear hF57
  refine s1 hF59 3 (.int .u64 (bOr .u64 (bShl .u64 x3 1) (wu64 (w8 ((c49.toNat : Int) - 48))))) ?_; intro a60 hF61; clear hF59
  refine nlH (hQ38 _ _ ?_); clear hQ38 hQ38Q
  refine ibn ?_
  refine thn ?_
  refine rgH ?_; intro hQ62Q hQ62
  refine s1 hF61 18 (.int .i64 (w64 (x7 + 1))) ?_; intro a63 hF64; clear hF61
  refine s1 hF64 7 (.int .i64 (w64 (x7 + 1))) ?_; intro a65 hF66; clear hF64
  refine nlH (hQ62 _ _ ?_); clear hQ62 hQ62Q
  refine rd ?_
  exact ⟨⟨bOr .u64 (bShl .u64 x3 1) (wu64 (w8 ((c49.toNat : Int) - 48))), w64 (x7 + 1)⟩, hp51.1, hp51.2, (hF66.region (by kernel_rfl) (by kernel_rfl)).anyβ _ (by kernel_rfl), hM26.keep (List.Sublist.slnil)⟩
 · -- no
  have hp67 := hp27.2 hb31; clear hp27
  refine wp_exit ?_
  refine thx ?_
  refine thx ?_
  refine ibx ?_
  refine thn ?_
  refine sqH ?_; intro hQ68Q hQ68
  refine s1 hF30 19 (.int .u64 x3) ?_; intro a69 hF70; clear hF30
  refine s1 hF70 2 (.int .u64 x3) ?_; intro a71 hF72; clear hF70
  refine nlH (hQ68 _ _ ?_); clear hQ68 hQ68Q
  refine wp_ret ?_
  refine rt (fn := Tryd.f79) (v := .int .u64 x3) hF72 (re1 hF72 (fn := Tryd.f79) rfl (by kernel_rfl)) ?_
  exact ⟨x3, rfl, hp67, hM26.below⟩

set_option maxRecDepth 100000 in
set_option maxHeartbeats 0 in
theorem bwrite_walk (u0 : Int) (u1 : Int)  (Z : Fz) (w : World)  (hZ : Z.on w) {K : (List UInt8) → Prop} (hp : bwrite_vc u0 u1 K) : Calls Tryd.prog 47 #[.int .u64 u0, .int .i64 u1] w fun e w' => ∃ r : (List UInt8), e = .returned (str r) ∧ K r ∧ Below w.heap.size w w' := by
 refine enter0 Tryd.func47 rfl rfl (by kernel_rfl) ?_; intro a0 hF0; have hM0 := Mem.start w Z hZ; have hle0 := Fz.le.refl Z
 refine sqH ?_; intro hQ1Q hQ1
 refine s1 hF0 4 (str []) ?_; intro a2 hF3; clear hF0
 refine nlH (hQ1 _ _ ?_); clear hQ1 hQ1Q
 refine sqH ?_; intro hQ4Q hQ4
 refine s1 hF3 7 (.int .i64 u1) ?_; intro a5 hF6; clear hF3
 have hc7 := hp.1; have hp8 := hp.2; clear hp
 refine mks hF6 hM0 (T := (tyInt .u8)) u1 u1 (k := .i64) (k' := .i64) (e := 5) (bytes := 1) (zs := [.int .u8 0]) (z := 0) (by simp only [lim]; omega) (nog rfl _) rfl (by kernel_rfl) rfl (by kernel_rfl) (by kernel_rfl) (by kernel_rfl) (by kernel_rfl) rfl ?_; intro g9 a12 wd10 hF13 hM11; clear hF6 hM0
 have hM14 : Mem w.heap.size [] w Z [.own (tyInt .u8) 5 (some ⟨g9, 0, none⟩) u1.toNat (List.replicate u1.toNat (0 : Int))] Z wd10 := hM11; clear hM11
 refine s1 hF13 5 (.slice (some ⟨g9, 0, none⟩) (List.replicate u1.toNat (0 : Int)).length u1.toNat) ?_; intro a15 hF16; clear hF13
 refine nlH (hQ4 _ _ ?_); clear hQ4 hQ4Q
 refine wp_seq ?_
 refine sqH ?_; intro hQ17Q hQ17
 refine s1 hF16 9 (.int .i64 u1) ?_; intro a18 hF19; clear hF16
 refine s1 hF19 10 (.int .i64 0) ?_; intro a20 hF21; clear hF19
 refine nlH (hQ17 _ _ ?_); clear hQ17 hQ17Q
 refine wp_block ?_
 have hF22 : Fr 28 [] [⟨0, [], .int .u64 u0⟩, ⟨1, [], .int .i64 u1⟩, ⟨5, [], .slice (some ⟨g9, 0, none⟩) (List.replicate u1.toNat (0 : Int)).length u1.toNat⟩, ⟨9, [], .int .i64 u1⟩, ⟨10, [], .int .i64 0⟩] a20 := hF21.region (by kernel_rfl) (by kernel_rfl); clear hF21
 have hF24 : Fr 28 [] [⟨0, [], .int .u64 u0⟩, ⟨1, [], .int .i64 u1⟩, ⟨5, [], .slice (some ⟨g9, 0, none⟩) (List.replicate u1.toNat (0 : Int)).length u1.toNat⟩, ⟨9, [], .int .i64 u1⟩, ⟨10, [], .int .i64 0⟩] a20 := hF22.region (by kernel_rfl) (by kernel_rfl); clear hF22
 obtain ⟨inv23, mu23, hI27, hr26⟩ := hp8
 refine lp (ι := Int × Int × (List Int)) (fun (s : Int × Int × (List Int)) => [⟨0, [], .int .u64 s.1⟩, ⟨1, [], .int .i64 u1⟩, ⟨5, [], .slice (some ⟨g9, 0, none⟩) s.2.2.length u1.toNat⟩, ⟨9, [], .int .i64 u1⟩, ⟨10, [], .int .i64 s.2.1⟩]) (fun (s : Int × Int × (List Int)) => [.own (tyInt .u8) 5 (some ⟨g9, 0, none⟩) u1.toNat s.2.2]) (fun (s : Int × Int × (List Int)) => Z) (fun (s : Int × Int × (List Int)) => inv23 s.1 s.2.1 s.2.2) (fun (s : Int × Int × (List Int)) => mu23 s.1 s.2.1 s.2.2) ⟨u0, 0, (List.replicate u1.toNat (0 : Int))⟩ hI27 (by exact hF24.region (by kernel_rfl) (by kernel_rfl)) (by exact hM14) ?_
 rintro ⟨x0, x10, zg90⟩ hI25 a29 wd30 hF31 hM32
 have hF33 : Fr 28 [] [⟨0, [], .int .u64 x0⟩, ⟨1, [], .int .i64 u1⟩, ⟨5, [], .slice (some ⟨g9, 0, none⟩) zg90.length u1.toNat⟩, ⟨9, [], .int .i64 u1⟩, ⟨10, [], .int .i64 x10⟩] a29 := hF31; clear hF31 hF24
 have hM34 : Mem w.heap.size [] w Z [.own (tyInt .u8) 5 (some ⟨g9, 0, none⟩) u1.toNat zg90] Z wd30 := hM32; clear hM32 hM14
 have hp35 := hr26 x0 x10 zg90 hI25
 refine sqH ?_; intro hQ36Q hQ36
 refine s1 hF33 11 (.bool (decide (x10 < u1))) ?_; intro a37 hF38; clear hF33
 refine nlH (hQ36 _ _ ?_); clear hQ36 hQ36Q
 refine wp_seq ?_
 refine cd hF38 (t := decide (x10 < u1)) (by kernel_rfl) (fun hb39 => ?_) (fun hb39 => ?_)
 · -- yes
  have hp40 := hp35.1 hb39; clear hp35
  refine wp_skip ?_
  refine thn ?_
  refine wp_seq ?_
  refine wp_block ?_
  refine sqH ?_; intro hQ41Q hQ41
  refine s1 hF38 12 (.int .i64 x10) ?_; intro a42 hF43; clear hF38
  refine s1 hF43 6 (.int .i64 x10) ?_; intro a44 hF45; clear hF43
  refine nlH (hQ41 _ _ ?_); clear hQ41 hQ41Q
  refine sqH ?_; intro hQ46Q hQ46
  refine s1 hF45 13 (.slice (some ⟨g9, 0, none⟩) zg90.length u1.toNat) ?_; intro a47 hF48; clear hF45
  refine s1 hF48 14 (.int .i64 u1) ?_; intro a49 hF50; clear hF48
  refine s1 hF50 15 (.int .i64 (w64 (u1 - 1))) ?_; intro a51 hF52; clear hF50
  refine s1 hF52 16 (.int .i64 x10) ?_; intro a53 hF54; clear hF52
  refine s1 hF54 17 (.int .i64 (w64 ((w64 (u1 - 1)) - x10))) ?_; intro a55 hF56; clear hF54
  refine s1 hF56 18 (.int .u64 x0) ?_; intro a57 hF58; clear hF56
  refine s1 hF58 19 (.int .u64 (bAnd .u64 x0 1)) ?_; intro a59 hF60; clear hF58
  refine s1 hF60 20 (.int .u8 (w8 (bAnd .u64 x0 1))) ?_; intro a61 hF62; clear hF60
  refine s1 hF62 21 (.int .u8 (w8 (48 + (w8 (bAnd .u64 x0 1))))) ?_; intro a63 hF64; clear hF62
  have hc65 := hp40.1; have hp66 := hp40.2; clear hp40
  refine ixo hF64 hM34 0 (T := (tyInt .u8)) (xs := zg90) (w64 ((w64 (u1 - 1)) - x10)) hc65 (k := .i64) (e := 5) (bytes := 1) (nog rfl _) rfl (by kernel_rfl) rfl (by kernel_rfl) (by kernel_rfl) rfl (by kernel_rfl) ?_; intro g67 a69 hg68 hF70; clear hF64
  obtain rfl : g9 = g67 := by simpa using hg68
  have hF71 : Fr 28 [] [⟨0, [], .int .u64 x0⟩, ⟨1, [], .int .i64 u1⟩, ⟨5, [], .slice (some ⟨g9, 0, none⟩) zg90.length u1.toNat⟩, ⟨6, [], .int .i64 x10⟩, ⟨9, [], .int .i64 u1⟩, ⟨10, [], .int .i64 x10⟩, ⟨11, [], .bool (decide (x10 < u1))⟩, ⟨12, [], .int .i64 x10⟩, ⟨13, [], .slice (some ⟨g9, 0, none⟩) zg90.length u1.toNat⟩, ⟨14, [], .int .i64 u1⟩, ⟨15, [], .int .i64 (w64 (u1 - 1))⟩, ⟨16, [], .int .i64 x10⟩, ⟨17, [], .int .i64 (w64 ((w64 (u1 - 1)) - x10))⟩, ⟨18, [], .int .u64 x0⟩, ⟨19, [], .int .u64 (bAnd .u64 x0 1)⟩, ⟨20, [], .int .u8 (w8 (bAnd .u64 x0 1))⟩, ⟨21, [], .int .u8 (w8 (48 + (w8 (bAnd .u64 x0 1))))⟩, ⟨22, [], .pointer (some ⟨g9, (w64 ((w64 (u1 - 1)) - x10)).toNat * 1, none⟩)⟩] a69 := hF70.region (by kernel_rfl) (by kernel_rfl); clear hF70
  have hM72 : Mem w.heap.size [] w Z [.own (tyInt .u8) 5 (some ⟨g9, 0, none⟩) u1.toNat zg90] Z wd30 := hM34; clear hM34
  refine so hF71 hM72 0 (T := (tyInt .u8)) (xs := zg90) (w64 ((w64 (u1 - 1)) - x10)).toNat (w8 (48 + (w8 (bAnd .u64 x0 1)))) (u := .int .u8 (w8 (48 + (w8 (bAnd .u64 x0 1))))) (nog rfl _) rfl rfl (by kernel_rfl) rfl (by kernel_rfl) rfl (by kernel_rfl) (by first | omega | (simp only [List.length_set] at *; omega)) rfl ?_; intro wd73 hM74; clear hM72
  have hF75 : Fr 28 [] [⟨0, [], .int .u64 x0⟩, ⟨1, [], .int .i64 u1⟩, ⟨5, [], .slice (some ⟨g9, 0, none⟩) (zg90.set (w64 ((w64 (u1 - 1)) - x10)).toNat (w8 (48 + (w8 (bAnd .u64 x0 1))))).length u1.toNat⟩, ⟨6, [], .int .i64 x10⟩, ⟨9, [], .int .i64 u1⟩, ⟨10, [], .int .i64 x10⟩, ⟨11, [], .bool (decide (x10 < u1))⟩, ⟨12, [], .int .i64 x10⟩, ⟨13, [], .slice (some ⟨g9, 0, none⟩) (zg90.set (w64 ((w64 (u1 - 1)) - x10)).toNat (w8 (48 + (w8 (bAnd .u64 x0 1))))).length u1.toNat⟩, ⟨14, [], .int .i64 u1⟩, ⟨15, [], .int .i64 (w64 (u1 - 1))⟩, ⟨16, [], .int .i64 x10⟩, ⟨17, [], .int .i64 (w64 ((w64 (u1 - 1)) - x10))⟩, ⟨18, [], .int .u64 x0⟩, ⟨19, [], .int .u64 (bAnd .u64 x0 1)⟩, ⟨20, [], .int .u8 (w8 (bAnd .u64 x0 1))⟩, ⟨21, [], .int .u8 (w8 (48 + (w8 (bAnd .u64 x0 1))))⟩, ⟨22, [], .pointer (some ⟨g9, (w64 ((w64 (u1 - 1)) - x10)).toNat * 1, none⟩)⟩] a69 := by (try simp only [List.length_set] at hF71); (try simp only [List.length_set]); exact hF71.region (by kernel_rfl) (by kernel_rfl)
  clear hF71
  have hM76 : Mem w.heap.size [] w Z [.own (tyInt .u8) 5 (some ⟨g9, 0, none⟩) u1.toNat (zg90.set (w64 ((w64 (u1 - 1)) - x10)).toNat (w8 (48 + (w8 (bAnd .u64 x0 1)))))] Z wd73 := hM74; clear hM74
  refine nlH (hQ46 _ _ ?_); clear hQ46 hQ46Q
  refine rgH ?_; intro hQ77Q hQ77
  refine s1 hF75 23 (.int .u64 x0) ?_; intro a78 hF79; clear hF75
  refine s1 hF79 24 (.int .u64 (bShr .u64 x0 1)) ?_; intro a80 hF81; clear hF79
  refine s1 hF81 0 (.int .u64 (bShr .u64 x0 1)) ?_; intro a82 hF83; clear hF81
  refine nlH (hQ77 _ _ ?_); clear hQ77 hQ77Q
  refine ibn ?_
  refine thn ?_
  have hF84 : Fr 28 [] [⟨0, [], .int .u64 (bShr .u64 x0 1)⟩, ⟨1, [], .int .i64 u1⟩, ⟨5, [], .slice (some ⟨g9, 0, none⟩) (zg90.set (w64 ((w64 (u1 - 1)) - x10)).toNat (w8 (48 + (w8 (bAnd .u64 x0 1))))).length u1.toNat⟩, ⟨9, [], .int .i64 u1⟩, ⟨10, [], .int .i64 x10⟩] a82 := hF83.region (by kernel_rfl) (by kernel_rfl); clear hF83
  refine rgH ?_; intro hQ85Q hQ85
  refine s1 hF84 25 (.int .i64 (w64 (x10 + 1))) ?_; intro a86 hF87; clear hF84
  refine s1 hF87 10 (.int .i64 (w64 (x10 + 1))) ?_; intro a88 hF89; clear hF87
  refine nlH (hQ85 _ _ ?_); clear hQ85 hQ85Q
  refine rd ?_
  exact ⟨⟨bShr .u64 x0 1, w64 (x10 + 1), zg90.set (w64 ((w64 (u1 - 1)) - x10)).toNat (w8 (48 + (w8 (bAnd .u64 x0 1))))⟩, hp66.1, hp66.2, (hF89.region (by kernel_rfl) (by kernel_rfl)).anyβ _ (by kernel_rfl), hM76.keep (List.Sublist.cons_cons _ (List.Sublist.slnil))⟩
 · -- no
  have hp90 := hp35.2 hb39; clear hp35
  refine wp_exit ?_
  refine thx ?_
  refine thx ?_
  refine ibx ?_
  refine thn ?_
  refine sqH ?_; intro hQ91Q hQ91
  refine s1 hF38 26 (.slice (some ⟨g9, 0, none⟩) zg90.length u1.toNat) ?_; intro a92 hF93; clear hF38
  refine st hF93 (str (bstr zg90)) (nog rfl _) rfl (by kernel_rfl) ((by obtain ⟨Z9, hle9, hon9, hs9⟩ := hM34.lend 0 rfl; exact bstr_op hF93 (g := []) (e := 5) (ao := (some ⟨g9, 0, none⟩)) (cap := u1.toNat) (xs := zg90) rfl (by kernel_rfl) (by kernel_rfl) (by kernel_rfl) (by kernel_rfl)  hs9 hon9 rfl)) ?_; intro a94 hF95; clear hF93
  refine s1 hF95 4 (str (bstr zg90)) ?_; intro a96 hF97; clear hF95
  refine nlH (hQ91 _ _ ?_); clear hQ91 hQ91Q
  refine wp_ret ?_
  refine rt (fn := Tryd.f47) (v := str (bstr zg90)) hF97 (re1 hF97 (fn := Tryd.f47) rfl (by kernel_rfl)) ?_
  exact ⟨bstr zg90, rfl, hp90, hM34.below⟩

set_option maxRecDepth 100000 in
set_option maxHeartbeats 0 in
theorem bcheck_walk (u0 : List UInt8)  (Z : Fz) (w : World)  (hZ : Z.on w) {K : Int → Prop} (hp : bcheck_vc u0 K) : Calls Tryd.prog 15 #[str u0] w fun e w' => ∃ r : Int, e = .returned (.int .i64 r) ∧ K r ∧ Below w.heap.size w w' := by
 refine enter0 Tryd.func15 rfl rfl (by kernel_rfl) ?_; intro a0 hF0; have hM0 := Mem.start w Z hZ; have hle0 := Fz.le.refl Z
 refine sqH ?_; intro hQ1Q hQ1
 refine s1 hF0 2 (.int .i64 0) ?_; intro a2 hF3; clear hF0
 refine nlH (hQ1 _ _ ?_); clear hQ1 hQ1Q
 refine wp_seq ?_
 refine sqH ?_; intro hQ4Q hQ4
 refine s1 hF3 3 (str u0) ?_; intro a5 hF6; clear hF3
 refine s1 hF6 4 (.int .i64 (u0.length : Int)) ?_; intro a7 hF8; clear hF6
 refine s1 hF8 5 (.bool (decide ((u0.length : Int) > 1000))) ?_; intro a9 hF10; clear hF8
 refine nlH (hQ4 _ _ ?_); clear hQ4 hQ4Q
 refine cd hF10 (t := decide ((u0.length : Int) > 1000)) (by kernel_rfl) (fun hb11 => ?_) (fun hb11 => ?_)
 · -- yes
  have hp12 := hp.1 hb11; clear hp
  refine sqH ?_; intro hQ13Q hQ13
  refine s1 hF10 2 (.int .i64 2) ?_; intro a14 hF15; clear hF10
  refine nlH (hQ13 _ _ ?_); clear hQ13 hQ13Q
  refine wp_ret ?_
  refine thr ?_
  refine rt (fn := Tryd.f15) (v := .int .i64 2) hF15 (re1 hF15 (fn := Tryd.f15) rfl (by kernel_rfl)) ?_
  exact ⟨2, rfl, hp12, hM0.below⟩
 · -- no
  have hp16 := hp.2 hb11; clear hp
  refine wp_skip ?_
  refine thn ?_
  refine wp_seq ?_
  refine sqH ?_; intro hQ17Q hQ17
  refine s1 hF10 6 (str u0) ?_; intro a18 hF19; clear hF10
  have hc20 := hp16.1; have hp21 := hp16.2; clear hp16
  refine fcl hF19 hM0 (str (trimS u0 ([48, 49] : List UInt8))) 51 #[str u0, str ([48, 49] : List UInt8)] (nog rfl _) rfl (by kernel_rfl) (fun _ => by kernel_rfl) (trim_fun u0 ([48, 49] : List UInt8) hc20 _ _ hM0.fz) ?_; intro a22 wd24 hF23 hM25; clear hF19 hM0
  refine st hF23 (.bool ((trimS u0 ([48, 49] : List UInt8)) != ([] : List UInt8))) (nog rfl _) rfl (by kernel_rfl) (strcmp_run hF23 (g := []) (op := .neq) rfl (by kernel_rfl) (by kernel_rfl) (by decide) rfl) ?_; intro a26 hF27; clear hF23
  refine nlH (hQ17 _ _ ?_); clear hQ17 hQ17Q
  refine cd hF27 (t := (trimS u0 ([48, 49] : List UInt8)) != ([] : List UInt8)) (by kernel_rfl) (fun hb28 => ?_) (fun hb28 => ?_)
  · -- yes
   have hp29 := hp21.1 hb28; clear hp21
   refine sqH ?_; intro hQ30Q hQ30
   refine s1 hF27 2 (.int .i64 4) ?_; intro a31 hF32; clear hF27
   refine nlH (hQ30 _ _ ?_); clear hQ30 hQ30Q
   refine wp_ret ?_
   refine thr ?_
   refine rt (fn := Tryd.f15) (v := .int .i64 4) hF32 (re1 hF32 (fn := Tryd.f15) rfl (by kernel_rfl)) ?_
   exact ⟨4, rfl, hp29, hM25.below⟩
  · -- no
   have hp33 := hp21.2 hb28; clear hp21
   refine wp_skip ?_
   refine thn ?_
   refine sqH ?_; intro hQ34Q hQ34
   refine s1 hF27 2 (.int .i64 0) ?_; intro a35 hF36; clear hF27
   refine nlH (hQ34 _ _ ?_); clear hQ34 hQ34Q
   refine wp_ret ?_
   refine rt (fn := Tryd.f15) (v := .int .i64 0) hF36 (re1 hF36 (fn := Tryd.f15) rfl (by kernel_rfl)) ?_
   exact ⟨0, rfl, hp33, hM25.below⟩

set_option maxRecDepth 100000 in
set_option maxHeartbeats 0 in
theorem ckinds_walk   (Z : Fz) (w : World)  (hZ : Z.on w) {K : (Kind × Kind × Kind × Kind × Kind) → Prop} (hp : ckinds_vc  K) : Calls Tryd.prog 46 #[] w fun e w' => ∃ r : (Kind × Kind × Kind × Kind × Kind), e = .returned (.agg #[.int .i64 r.1.Size, .int .u64 r.1.Poly, .int .u64 r.1.From, .int .u64 r.1.End, .int .i64 r.2.1.Size, .int .u64 r.2.1.Poly, .int .u64 r.2.1.From, .int .u64 r.2.1.End, .int .i64 r.2.2.1.Size, .int .u64 r.2.2.1.Poly, .int .u64 r.2.2.1.From, .int .u64 r.2.2.1.End, .int .i64 r.2.2.2.1.Size, .int .u64 r.2.2.2.1.Poly, .int .u64 r.2.2.2.1.From, .int .u64 r.2.2.2.1.End, .int .i64 r.2.2.2.2.Size, .int .u64 r.2.2.2.2.Poly, .int .u64 r.2.2.2.2.From, .int .u64 r.2.2.2.2.End]) ∧ K r ∧ Below w.heap.size w w' := by
 refine enter0 Tryd.func46 rfl rfl (by kernel_rfl) ?_; intro a0 hF0; have hM0 := Mem.start w Z hZ; have hle0 := Fz.le.refl Z
 refine sqH ?_; intro hQ1Q hQ1
 refine sn hF0 hM0 (fun b => .pointer (some ⟨b, 0, none⟩)) [.int .i64 0, .int .u64 0, .int .u64 0, .int .u64 0, .int .i64 0, .int .u64 0, .int .u64 0, .int .u64 0, .int .i64 0, .int .u64 0, .int .u64 0, .int .u64 0, .int .i64 0, .int .u64 0, .int .u64 0, .int .u64 0, .int .i64 0, .int .u64 0, .int .u64 0, .int .u64 0] 76 (nog rfl _) rfl (by kernel_rfl) (by kernel_rfl) ?_; intro b2 a3 wd5 hF4 hM6; clear hF0 hM0
 refine nlH (hQ1 _ _ ?_); clear hQ1 hQ1Q
 refine sqH ?_; intro hQ7Q hQ7
 refine s1 hF4 1 (.agg #[.int .i64 15, .int .u64 17817, .int .u64 0, .int .u64 0]) ?_; intro a8 hF9; clear hF4
 refine s1 hF9 2 (.agg #[.int .i64 17, .int .u64 92251, .int .u64 65536, .int .u64 0]) ?_; intro a10 hF11; clear hF9
 refine s1 hF11 3 (.agg #[.int .i64 21, .int .u64 1058969, .int .u64 1048576, .int .u64 0]) ?_; intro a12 hF13; clear hF11
 refine s1 hF13 4 (.agg #[.int .i64 8, .int .u64 47, .int .u64 255, .int .u64 255]) ?_; intro a14 hF15; clear hF13
 refine s1 hF15 5 (.agg #[.int .i64 16, .int .u64 4129, .int .u64 65535, .int .u64 0]) ?_; intro a16 hF17; clear hF15
 refine s1 hF17 6 (.agg #[.int .i64 15, .int .u64 17817, .int .u64 0, .int .u64 0, .int .i64 17, .int .u64 92251, .int .u64 65536, .int .u64 0, .int .i64 21, .int .u64 1058969, .int .u64 1048576, .int .u64 0, .int .i64 8, .int .u64 47, .int .u64 255, .int .u64 255, .int .i64 16, .int .u64 4129, .int .u64 65535, .int .u64 0]) ?_; intro a18 hF19; clear hF17
 refine sr hF19 hM6 0 [.int .i64 15, .int .u64 17817, .int .u64 0, .int .u64 0, .int .i64 17, .int .u64 92251, .int .u64 65536, .int .u64 0, .int .i64 21, .int .u64 1058969, .int .u64 1048576, .int .u64 0, .int .i64 8, .int .u64 47, .int .u64 255, .int .u64 255, .int .i64 16, .int .u64 4129, .int .u64 65535, .int .u64 0] (b := b2) (off := 0) (cs := [.int .i64 0, .int .u64 0, .int .u64 0, .int .u64 0, .int .i64 0, .int .u64 0, .int .u64 0, .int .u64 0, .int .i64 0, .int .u64 0, .int .u64 0, .int .u64 0, .int .i64 0, .int .u64 0, .int .u64 0, .int .u64 0, .int .i64 0, .int .u64 0, .int .u64 0, .int .u64 0]) (ty := 76) (u := .agg #[.int .i64 15, .int .u64 17817, .int .u64 0, .int .u64 0, .int .i64 17, .int .u64 92251, .int .u64 65536, .int .u64 0, .int .i64 21, .int .u64 1058969, .int .u64 1048576, .int .u64 0, .int .i64 8, .int .u64 47, .int .u64 255, .int .u64 255, .int .i64 16, .int .u64 4129, .int .u64 65535, .int .u64 0]) (nog rfl _) rfl rfl (by kernel_rfl) (by kernel_rfl) (by kernel_rfl) (by kernel_rfl) (by kernel_rfl) (by kernel_rfl) (by kernel_rfl) ?_; intro wd20 hM21; clear hM6
 have hM22 : Mem w.heap.size [] w Z [.row b2 [.int .i64 15, .int .u64 17817, .int .u64 0, .int .u64 0, .int .i64 17, .int .u64 92251, .int .u64 65536, .int .u64 0, .int .i64 21, .int .u64 1058969, .int .u64 1048576, .int .u64 0, .int .i64 8, .int .u64 47, .int .u64 255, .int .u64 255, .int .i64 16, .int .u64 4129, .int .u64 65535, .int .u64 0] 76] Z wd20 := hM21; clear hM21
 refine nlH (hQ7 _ _ ?_); clear hQ7 hQ7Q
 refine wp_ret ?_
 refine rt (fn := Tryd.f46) (v := .agg #[.int .i64 15, .int .u64 17817, .int .u64 0, .int .u64 0, .int .i64 17, .int .u64 92251, .int .u64 65536, .int .u64 0, .int .i64 21, .int .u64 1058969, .int .u64 1048576, .int .u64 0, .int .i64 8, .int .u64 47, .int .u64 255, .int .u64 255, .int .i64 16, .int .u64 4129, .int .u64 65535, .int .u64 0]) hF19 (re1c hF19 (fn := Tryd.f46) rfl (ad := ⟨b2, 0, none⟩) (by kernel_rfl) (loadVar_run hM22 0 (b := b2) (k := 20) (vs := [.int .i64 15, .int .u64 17817, .int .u64 0, .int .u64 0, .int .i64 17, .int .u64 92251, .int .u64 65536, .int .u64 0, .int .i64 21, .int .u64 1058969, .int .u64 1048576, .int .u64 0, .int .i64 8, .int .u64 47, .int .u64 255, .int .u64 255, .int .i64 16, .int .u64 4129, .int .u64 65535, .int .u64 0]) (ty := 76) rfl (by kernel_rfl) (by kernel_rfl)) ) ?_
 exact ⟨((⟨15, 17817, 0, 0⟩ : Kind), (⟨17, 92251, 65536, 0⟩ : Kind), (⟨21, 1058969, 1048576, 0⟩ : Kind), (⟨8, 47, 255, 255⟩ : Kind), (⟨16, 4129, 65535, 0⟩ : Kind)), rfl, hp, hM22.below⟩
theorem ckinds_fun   (Z : Fz) (w : World)  (hZ : Z.on w) : Calls Tryd.prog 46 #[] w fun e w' => e = .returned (.agg #[.int .i64 ckinds.1.Size, .int .u64 ckinds.1.Poly, .int .u64 ckinds.1.From, .int .u64 ckinds.1.End, .int .i64 ckinds.2.1.Size, .int .u64 ckinds.2.1.Poly, .int .u64 ckinds.2.1.From, .int .u64 ckinds.2.1.End, .int .i64 ckinds.2.2.1.Size, .int .u64 ckinds.2.2.1.Poly, .int .u64 ckinds.2.2.1.From, .int .u64 ckinds.2.2.1.End, .int .i64 ckinds.2.2.2.1.Size, .int .u64 ckinds.2.2.2.1.Poly, .int .u64 ckinds.2.2.2.1.From, .int .u64 ckinds.2.2.2.1.End, .int .i64 ckinds.2.2.2.2.Size, .int .u64 ckinds.2.2.2.2.Poly, .int .u64 ckinds.2.2.2.2.From, .int .u64 ckinds.2.2.2.2.End]) ∧ Below w.heap.size w w' :=
  (ckinds_walk   Z w  hZ (ckinds_ok )).mono fun _ _ ⟨r, he, hk, hb⟩ => ⟨by subst hk; exact he, hb⟩

set_option maxRecDepth 100000 in
set_option maxHeartbeats 0 in
theorem csize_walk (u0 : Int)  (Z : Fz) (w : World)  (hZ : Z.on w) {K : (Int × Int) → Prop} (hp : csize_vc u0 K) : Calls Tryd.prog 14 #[.int .i64 u0] w fun e w' => ∃ r : Int × Int, e = .returned (.tuple #[.int .i64 r.1, .int .i64 r.2]) ∧ K r ∧ Below w.heap.size w w' := by
 refine enter0 Tryd.func14 rfl rfl (by kernel_rfl) ?_; intro a0 hF0; have hM0 := Mem.start w Z hZ; have hle0 := Fz.le.refl Z
 refine sqH ?_; intro hQ1Q hQ1
 refine s1 hF0 2 (.int .i64 0) ?_; intro a2 hF3; clear hF0
 refine s1 hF3 3 (.int .i64 0) ?_; intro a4 hF5; clear hF3
 refine nlH (hQ1 _ _ ?_); clear hQ1 hQ1Q
 refine wp_seq ?_
 refine sqH ?_; intro hQ6Q hQ6
 refine s1 hF5 4 (.int .i64 u0) ?_; intro a7 hF8; clear hF5
 refine s1 hF8 5 (.bool (decide (u0 < 0))) ?_; intro a9 hF10; clear hF8
 refine s1 hF10 6 (.bool (decide (u0 < 0))) ?_; intro a11 hF12; clear hF10
 have hF13 := hF12.atom ((decide (u0 < 0)) == false) (by kernel_rfl); clear hF12
 refine gp hF13 7 0 [] (decide (u0 < 0)) (.int .i64 u0) rfl rfl ?_; intro a14 hF15; clear hF13
 refine gcl hF15 hM0 (.agg #[.int .i64 ckinds.1.Size, .int .u64 ckinds.1.Poly, .int .u64 ckinds.1.From, .int .u64 ckinds.1.End, .int .i64 ckinds.2.1.Size, .int .u64 ckinds.2.1.Poly, .int .u64 ckinds.2.1.From, .int .u64 ckinds.2.1.End, .int .i64 ckinds.2.2.1.Size, .int .u64 ckinds.2.2.1.Poly, .int .u64 ckinds.2.2.1.From, .int .u64 ckinds.2.2.1.End, .int .i64 ckinds.2.2.2.1.Size, .int .u64 ckinds.2.2.2.1.Poly, .int .u64 ckinds.2.2.2.1.From, .int .u64 ckinds.2.2.2.1.End, .int .i64 ckinds.2.2.2.2.Size, .int .u64 ckinds.2.2.2.2.Poly, .int .u64 ckinds.2.2.2.2.From, .int .u64 ckinds.2.2.2.2.End]) 46 #[] (m := 0) (cj := []) (bj := decide (u0 < 0)) rfl rfl (by kernel_rfl) rfl (by kernel_rfl) (by kernel_rfl) (by kernel_rfl) (fun _ => by kernel_rfl) (fun hg => ckinds_fun  _ _ hM0.fz) ?_; intro a16 wd18 hF17 hM19; clear hF15 hM0
 refine gp hF17 9 0 [] (decide (u0 < 0)) (.int .i64 5) rfl rfl ?_; intro a20 hF21; clear hF17
 refine gp hF21 10 0 [] (decide (u0 < 0)) (.bool (decide (u0 ≥ 5))) rfl rfl ?_; intro a22 hF23; clear hF21
 refine st hF23 (.bool ((decide (u0 < 0)) || (decide (u0 ≥ 5)))) (nog rfl _) rfl (by kernel_rfl) (pk_or hF23 (g := []) (m := 0) (b := decide (u0 < 0)) (v := decide (u0 ≥ 5)) rfl (by kernel_rfl) (by kernel_rfl) (by kernel_rfl) rfl) ?_; intro a24 hF25; clear hF23
 refine nlH (hQ6 _ _ ?_); clear hQ6 hQ6Q
 refine cd hF25 (t := (decide (u0 < 0)) || (decide (u0 ≥ 5))) (by kernel_rfl) (fun hb26 => ?_) (fun hb26 => ?_)
 · -- yes
  have hp27 := hp.1 hb26; clear hp
  have hF28 : Fr 16 [] [] a24 := hF25.region (by kernel_rfl) (by kernel_rfl); clear hF25
  refine sqH ?_; intro hQ29Q hQ29
  refine s1 hF28 2 (.int .i64 0) ?_; intro a30 hF31; clear hF28
  refine s1 hF31 3 (.int .i64 8) ?_; intro a32 hF33; clear hF31
  refine nlH (hQ29 _ _ ?_); clear hQ29 hQ29Q
  refine wp_ret ?_
  refine thr ?_
  refine rt (fn := Tryd.f14) (v := .tuple #[.int .i64 0, .int .i64 8]) hF33 (re2 hF33 (fn := Tryd.f14) rfl (by kernel_rfl) (by kernel_rfl)) ?_
  exact ⟨(0, 8), rfl, hp27, hM19.below⟩
 · -- no
  have hp34 := hp.2 hb26; clear hp
  refine wp_skip ?_
  refine thn ?_
  have hF35 : Fr 16 [] [⟨0, [], .int .i64 u0⟩] a24 := hF25.region (by kernel_rfl) (by kernel_rfl); clear hF25
  refine sqH ?_; intro hQ36Q hQ36
  refine fcl hF35 hM19 (.agg #[.int .i64 ckinds.1.Size, .int .u64 ckinds.1.Poly, .int .u64 ckinds.1.From, .int .u64 ckinds.1.End, .int .i64 ckinds.2.1.Size, .int .u64 ckinds.2.1.Poly, .int .u64 ckinds.2.1.From, .int .u64 ckinds.2.1.End, .int .i64 ckinds.2.2.1.Size, .int .u64 ckinds.2.2.1.Poly, .int .u64 ckinds.2.2.1.From, .int .u64 ckinds.2.2.1.End, .int .i64 ckinds.2.2.2.1.Size, .int .u64 ckinds.2.2.2.1.Poly, .int .u64 ckinds.2.2.2.1.From, .int .u64 ckinds.2.2.2.1.End, .int .i64 ckinds.2.2.2.2.Size, .int .u64 ckinds.2.2.2.2.Poly, .int .u64 ckinds.2.2.2.2.From, .int .u64 ckinds.2.2.2.2.End]) 46 #[] (nog rfl _) rfl (by kernel_rfl) (fun _ => by kernel_rfl) (ckinds_fun  _ _ hM19.fz) ?_; intro a37 wd39 hF38 hM40; clear hF35 hM19
  refine s1 hF38 13 (.int .i64 u0) ?_; intro a41 hF42; clear hF38
  have hc43 := hp34.1; have hp44 := hp34.2; clear hp34
  have hix : ∀ x : Int, 0 ≤ x ∧ x < 5 → x = 0 ∨ x = 1 ∨ x = 2 ∨ x = 3 ∨ x = 4 := by intro x hx; omega
  refine st hF42 (.agg #[.int .i64 (([ckinds.1.Size, ckinds.2.1.Size, ckinds.2.2.1.Size, ckinds.2.2.2.1.Size, ckinds.2.2.2.2.Size] : List Int).getD u0.toNat 0), .int .u64 (([ckinds.1.Poly, ckinds.2.1.Poly, ckinds.2.2.1.Poly, ckinds.2.2.2.1.Poly, ckinds.2.2.2.2.Poly] : List Int).getD u0.toNat 0), .int .u64 (([ckinds.1.From, ckinds.2.1.From, ckinds.2.2.1.From, ckinds.2.2.2.1.From, ckinds.2.2.2.2.From] : List Int).getD u0.toNat 0), .int .u64 (([ckinds.1.End, ckinds.2.1.End, ckinds.2.2.1.End, ckinds.2.2.2.1.End, ckinds.2.2.2.2.End] : List Int).getD u0.toNat 0)]) (nog rfl _) rfl (by kernel_rfl) ((by generalize u0 = ix at *; rcases hix _ hc43 with rfl | rfl | rfl | rfl | rfl <;> exact p0 hF42 (by kernel_rfl))) ?_; intro a45 hF46; clear hF42
  refine s1 hF46 15 (.int .i64 (([ckinds.1.Size, ckinds.2.1.Size, ckinds.2.2.1.Size, ckinds.2.2.2.1.Size, ckinds.2.2.2.2.Size] : List Int).getD u0.toNat 0)) ?_; intro a47 hF48; clear hF46
  refine s1 hF48 2 (.int .i64 (([ckinds.1.Size, ckinds.2.1.Size, ckinds.2.2.1.Size, ckinds.2.2.2.1.Size, ckinds.2.2.2.2.Size] : List Int).getD u0.toNat 0)) ?_; intro a49 hF50; clear hF48
  refine s1 hF50 3 (.int .i64 0) ?_; intro a51 hF52; clear hF50
  refine nlH (hQ36 _ _ ?_); clear hQ36 hQ36Q
  refine wp_ret ?_
  refine rt (fn := Tryd.f14) (v := .tuple #[.int .i64 (([ckinds.1.Size, ckinds.2.1.Size, ckinds.2.2.1.Size, ckinds.2.2.2.1.Size, ckinds.2.2.2.2.Size] : List Int).getD u0.toNat 0), .int .i64 0]) hF52 (re2 hF52 (fn := Tryd.f14) rfl (by kernel_rfl) (by kernel_rfl)) ?_
  exact ⟨(([ckinds.1.Size, ckinds.2.1.Size, ckinds.2.2.1.Size, ckinds.2.2.2.1.Size, ckinds.2.2.2.2.Size] : List Int).getD u0.toNat 0, 0), rfl, hp44, hM40.below⟩
theorem csize_fun (u0 : Int)  (Z : Fz) (w : World)  (hZ : Z.on w) : Calls Tryd.prog 14 #[.int .i64 u0] w fun e w' => e = .returned (.tuple #[.int .i64 ((csize u0).1), .int .i64 ((csize u0).2)]) ∧ Below w.heap.size w w' :=
  (csize_walk u0  Z w  hZ (csize_ok u0)).mono fun _ _ ⟨r, he, hk, hb⟩ => ⟨by subst hk; exact he, hb⟩

set_option maxRecDepth 100000 in
set_option maxHeartbeats 0 in
theorem ksum_walk (u0 : Kind) (u1 : List UInt8)  (Z : Fz) (w : World)  (hZ : Z.on w) {K : Int → Prop} (hp : ksum_vc u0 u1 K) : Calls Tryd.prog 48 #[.agg #[.int .i64 u0.Size, .int .u64 u0.Poly, .int .u64 u0.From, .int .u64 u0.End], str u1] w fun e w' => ∃ r : Int, e = .returned (.int .u64 r) ∧ K r ∧ Below w.heap.size w w' := by
 refine enter0 Tryd.func48 rfl rfl (by kernel_rfl) ?_; intro a0 hF0; have hM0 := Mem.start w Z hZ; have hle0 := Fz.le.refl Z
 refine sqH ?_; intro hQ1Q hQ1
 refine sn hF0 hM0 (fun b => .pointer (some ⟨b, 0, none⟩)) [.int .i64 u0.Size, .int .u64 u0.Poly, .int .u64 u0.From, .int .u64 u0.End] 75 (nog rfl _) rfl (by kernel_rfl) (by kernel_rfl) ?_; intro b2 a3 wd5 hF4 hM6; clear hF0 hM0
 refine s1 hF4 4 (.int .u64 0) ?_; intro a7 hF8; clear hF4
 refine nlH (hQ1 _ _ ?_); clear hQ1 hQ1Q
 refine sqH ?_; intro hQ9Q hQ9
 refine s1 hF8 9 (.pointer (some ⟨b2, 2, none⟩)) ?_; intro a10 hF11; clear hF8
 refine l1 hF11 hM6 10 0 2 (.int .u64 u0.From) rfl rfl ?_; intro a12 hF13; clear hF11
 refine s1 hF13 5 (.int .u64 u0.From) ?_; intro a14 hF15; clear hF13
 refine nlH (hQ9 _ _ ?_); clear hQ9 hQ9Q
 refine sqH ?_; intro hQ16Q hQ16
 refine s1 hF15 11 (.pointer (some ⟨b2, 0, none⟩)) ?_; intro a17 hF18; clear hF15
 refine l1 hF18 hM6 12 0 0 (.int .i64 u0.Size) rfl rfl ?_; intro a19 hF20; clear hF18
 refine s1 hF20 13 (.int .i64 (w64 (u0.Size - 1))) ?_; intro a21 hF22; clear hF20
 have hc23 := hp.1; have hp24 := hp.2; clear hp
 refine st hF22 (.int .u64 (bShl .u64 1 (w64 (u0.Size - 1)))) (nog rfl _) rfl (by kernel_rfl) (shl_run hF22 (g := []) (k' := .i64) rfl (by kernel_rfl) (by kernel_rfl) hc23 rfl) ?_; intro a25 hF26; clear hF22
 refine s1 hF26 6 (.int .u64 (bShl .u64 1 (w64 (u0.Size - 1)))) ?_; intro a27 hF28; clear hF26
 refine nlH (hQ16 _ _ ?_); clear hQ16 hQ16Q
 refine wp_seq ?_
 refine sqH ?_; intro hQ29Q hQ29
 refine s1 hF28 15 (str u1) ?_; intro a30 hF31; clear hF28
 refine s1 hF31 16 (.int .i64 (u1.length : Int)) ?_; intro a32 hF33; clear hF31
 refine s1 hF33 17 (.int .i64 0) ?_; intro a34 hF35; clear hF33
 refine nlH (hQ29 _ _ ?_); clear hQ29 hQ29Q
 refine wp_block ?_
 have hF36 : Fr 45 [] [⟨1, [], str u1⟩, ⟨2, [], .pointer (some ⟨b2, 0, none⟩)⟩, ⟨5, [], .int .u64 u0.From⟩, ⟨6, [], .int .u64 (bShl .u64 1 (w64 (u0.Size - 1)))⟩, ⟨16, [], .int .i64 (u1.length : Int)⟩, ⟨17, [], .int .i64 0⟩] a34 := hF35.region (by kernel_rfl) (by kernel_rfl); clear hF35
 have hF38 : Fr 45 [] [⟨1, [], str u1⟩, ⟨2, [], .pointer (some ⟨b2, 0, none⟩)⟩, ⟨5, [], .int .u64 u0.From⟩, ⟨6, [], .int .u64 (bShl .u64 1 (w64 (u0.Size - 1)))⟩, ⟨16, [], .int .i64 (u1.length : Int)⟩, ⟨17, [], .int .i64 0⟩] a34 := hF36.region (by kernel_rfl) (by kernel_rfl); clear hF36
 obtain ⟨inv37, mu37, hI41, hr40⟩ := hp24
 refine lp (ι := Int × Int) (fun (s : Int × Int) => [⟨1, [], str u1⟩, ⟨2, [], .pointer (some ⟨b2, 0, none⟩)⟩, ⟨5, [], .int .u64 s.1⟩, ⟨6, [], .int .u64 (bShl .u64 1 (w64 (u0.Size - 1)))⟩, ⟨16, [], .int .i64 (u1.length : Int)⟩, ⟨17, [], .int .i64 s.2⟩]) (fun (s : Int × Int) => [.row b2 [.int .i64 u0.Size, .int .u64 u0.Poly, .int .u64 u0.From, .int .u64 u0.End] 75]) (fun (s : Int × Int) => Z) (fun (s : Int × Int) => inv37 s.1 s.2) (fun (s : Int × Int) => mu37 s.1 s.2) ⟨u0.From, 0⟩ hI41 (by exact hF38.region (by kernel_rfl) (by kernel_rfl)) (by exact hM6) ?_
 rintro ⟨x5, x17⟩ hI39 a43 wd44 hF45 hM46
 have hF47 : Fr 45 [] [⟨1, [], str u1⟩, ⟨2, [], .pointer (some ⟨b2, 0, none⟩)⟩, ⟨5, [], .int .u64 x5⟩, ⟨6, [], .int .u64 (bShl .u64 1 (w64 (u0.Size - 1)))⟩, ⟨16, [], .int .i64 (u1.length : Int)⟩, ⟨17, [], .int .i64 x17⟩] a43 := hF45; clear hF45 hF38
 have hM48 : Mem w.heap.size [] w Z [.row b2 [.int .i64 u0.Size, .int .u64 u0.Poly, .int .u64 u0.From, .int .u64 u0.End] 75] Z wd44 := hM46; clear hM46 hM6
 have hp49 := hr40 x5 x17 hI39
 refine sqH ?_; intro hQ50Q hQ50
 refine s1 hF47 18 (.bool (decide (x17 < (u1.length : Int)))) ?_; intro a51 hF52; clear hF47
 refine nlH (hQ50 _ _ ?_); clear hQ50 hQ50Q
 refine wp_seq ?_
 refine cd hF52 (t := decide (x17 < (u1.length : Int))) (by kernel_rfl) (fun hb53 => ?_) (fun hb53 => ?_)
 · -- yes
  have hp54 := hp49.1 hb53; clear hp49
  refine wp_skip ?_
  refine thn ?_
  refine wp_seq ?_
  refine wp_block ?_
  refine sqH ?_; intro hQ55Q hQ55
  refine s1 hF52 19 (.int .i64 x17) ?_; intro a56 hF57; clear hF52
  refine s1 hF57 7 (.int .i64 x17) ?_; intro a58 hF59; clear hF57
  refine nlH (hQ55 _ _ ?_); clear hQ55 hQ55Q
  refine sqH ?_; intro hQ60Q hQ60
  refine s1 hF59 20 (.int .u64 x5) ?_; intro a61 hF62; clear hF59
  refine s1 hF62 21 (.int .u64 (bShl .u64 1 (w64 (u0.Size - 1)))) ?_; intro a63 hF64; clear hF62
  refine s1 hF64 22 (.int .u64 (bAnd .u64 x5 (bShl .u64 1 (w64 (u0.Size - 1))))) ?_; intro a65 hF66; clear hF64
  refine s1 hF66 23 (.bool ((bAnd .u64 x5 (bShl .u64 1 (w64 (u0.Size - 1)))) != 0)) ?_; intro a67 hF68; clear hF66
  refine s1 hF68 24 (str u1) ?_; intro a69 hF70; clear hF68
  refine s1 hF70 25 (.int .i64 x17) ?_; intro a71 hF72; clear hF70
  have hc73 := hp54.1; have hp74 := hp54.2; clear hp54
  obtain ⟨c75, hq76⟩ : ∃ q, u1[x17.toNat]? = some q := ⟨_, List.getElem?_eq_getElem (by omega)⟩; have hp77 := hp74 c75 hq76
  refine st hF72 (.int .u8 (c75.toNat : Int)) (nog rfl _) rfl (by kernel_rfl) (stridx_run hF72 (k := .i64) rfl (by kernel_rfl) (by kernel_rfl) (by kernel_rfl) hc73.1 hq76) ?_; intro a78 hF79; clear hF72
  refine s1 hF79 27 (.bool ((c75.toNat : Int) == 49)) ?_; intro a80 hF81; clear hF79
  refine s1 hF81 28 (.bool (((bAnd .u64 x5 (bShl .u64 1 (w64 (u0.Size - 1)))) != 0) != ((c75.toNat : Int) == 49))) ?_; intro a82 hF83; clear hF81
  refine s1 hF83 8 (.bool (((bAnd .u64 x5 (bShl .u64 1 (w64 (u0.Size - 1)))) != 0) != ((c75.toNat : Int) == 49))) ?_; intro a84 hF85; clear hF83
  refine nlH (hQ60 _ _ ?_); clear hQ60 hQ60Q
  refine sqH ?_; intro hQ86Q hQ86
  refine s1 hF85 29 (.int .u64 x5) ?_; intro a87 hF88; clear hF85
  refine s1 hF88 30 (.int .u64 (bShl .u64 x5 1)) ?_; intro a89 hF90; clear hF88
  refine s1 hF90 31 (.int .u64 (bShl .u64 1 (w64 (u0.Size - 1)))) ?_; intro a91 hF92; clear hF90
  refine s1 hF92 32 (.int .u64 (bShl .u64 (bShl .u64 1 (w64 (u0.Size - 1))) 1)) ?_; intro a93 hF94; clear hF92
  refine s1 hF94 33 (.int .u64 (wu64 ((bShl .u64 (bShl .u64 1 (w64 (u0.Size - 1))) 1) - 1))) ?_; intro a95 hF96; clear hF94
  refine s1 hF96 34 (.int .u64 (bAnd .u64 (bShl .u64 x5 1) (wu64 ((bShl .u64 (bShl .u64 1 (w64 (u0.Size - 1))) 1) - 1)))) ?_; intro a97 hF98; clear hF96
  refine s1 hF98 5 (.int .u64 (bAnd .u64 (bShl .u64 x5 1) (wu64 ((bShl .u64 (bShl .u64 1 (w64 (u0.Size - 1))) 1) - 1)))) ?_; intro a99 hF100; clear hF98
  refine nlH (hQ86 _ _ ?_); clear hQ86 hQ86Q
  have hF101 : Fr 45 [] [⟨1, [], str u1⟩, ⟨2, [], .pointer (some ⟨b2, 0, none⟩)⟩, ⟨5, [], .int .u64 (bAnd .u64 (bShl .u64 x5 1) (wu64 ((bShl .u64 (bShl .u64 1 (w64 (u0.Size - 1))) 1) - 1)))⟩, ⟨6, [], .int .u64 (bShl .u64 1 (w64 (u0.Size - 1)))⟩, ⟨8, [], .bool (((bAnd .u64 x5 (bShl .u64 1 (w64 (u0.Size - 1)))) != 0) != ((c75.toNat : Int) == 49))⟩, ⟨16, [], .int .i64 (u1.length : Int)⟩, ⟨17, [], .int .i64 x17⟩] a99 := hF100.region (by kernel_rfl) (by kernel_rfl); clear hF100
  refine sqH ?_; intro hQ102Q hQ102
  refine s1 hF101 35 (.bool (((bAnd .u64 x5 (bShl .u64 1 (w64 (u0.Size - 1)))) != 0) != ((c75.toNat : Int) == 49))) ?_; intro a103 hF104; clear hF101
  refine nlH (hQ102 _ _ ?_); clear hQ102 hQ102Q
  refine cd hF104 (t := ((bAnd .u64 x5 (bShl .u64 1 (w64 (u0.Size - 1)))) != 0) != ((c75.toNat : Int) == 49)) (by kernel_rfl) (fun hb105 => ?_) (fun hb105 => ?_)
  · -- yes
   have hp106 := hp77.1 hb105; clear hp77
   refine rgH ?_; intro hQ107Q hQ107
   refine s1 hF104 36 (.int .u64 (bAnd .u64 (bShl .u64 x5 1) (wu64 ((bShl .u64 (bShl .u64 1 (w64 (u0.Size - 1))) 1) - 1)))) ?_; intro a108 hF109; clear hF104
   refine s1 hF109 37 (.pointer (some ⟨b2, 1, none⟩)) ?_; intro a110 hF111; clear hF109
   refine l1 hF111 hM48 38 0 1 (.int .u64 u0.Poly) rfl rfl ?_; intro a112 hF113; clear hF111
   refine s1 hF113 39 (.int .u64 (bXor .u64 (bAnd .u64 (bShl .u64 x5 1) (wu64 ((bShl .u64 (bShl .u64 1 (w64 (u0.Size - 1))) 1) - 1))) u0.Poly)) ?_; intro a114 hF115; clear hF113
   refine s1 hF115 5 (.int .u64 (bXor .u64 (bAnd .u64 (bShl .u64 x5 1) (wu64 ((bShl .u64 (bShl .u64 1 (w64 (u0.Size - 1))) 1) - 1))) u0.Poly)) ?_; intro a116 hF117; clear hF115
   refine nlH (hQ107 _ _ ?_); clear hQ107 hQ107Q
   refine ibn ?_
   refine thn ?_
   refine rgH ?_; intro hQ118Q hQ118
   refine s1 hF117 40 (.int .i64 (w64 (x17 + 1))) ?_; intro a119 hF120; clear hF117
   refine s1 hF120 17 (.int .i64 (w64 (x17 + 1))) ?_; intro a121 hF122; clear hF120
   refine nlH (hQ118 _ _ ?_); clear hQ118 hQ118Q
   refine rd ?_
   exact ⟨⟨bXor .u64 (bAnd .u64 (bShl .u64 x5 1) (wu64 ((bShl .u64 (bShl .u64 1 (w64 (u0.Size - 1))) 1) - 1))) u0.Poly, w64 (x17 + 1)⟩, hp106.1, hp106.2, (hF122.region (by kernel_rfl) (by kernel_rfl)).anyβ _ (by kernel_rfl), hM48.keep (List.Sublist.cons_cons _ (List.Sublist.slnil))⟩
  · -- no
   have hp123 := hp77.2 hb105; clear hp77
   refine wp_skip ?_
   refine ibn ?_
   refine thn ?_
   refine rgH ?_; intro hQ124Q hQ124
   refine s1 hF104 40 (.int .i64 (w64 (x17 + 1))) ?_; intro a125 hF126; clear hF104
   refine s1 hF126 17 (.int .i64 (w64 (x17 + 1))) ?_; intro a127 hF128; clear hF126
   refine nlH (hQ124 _ _ ?_); clear hQ124 hQ124Q
   refine rd ?_
   exact ⟨⟨bAnd .u64 (bShl .u64 x5 1) (wu64 ((bShl .u64 (bShl .u64 1 (w64 (u0.Size - 1))) 1) - 1)), w64 (x17 + 1)⟩, hp123.1, hp123.2, (hF128.region (by kernel_rfl) (by kernel_rfl)).anyβ _ (by kernel_rfl), hM48.keep (List.Sublist.cons_cons _ (List.Sublist.slnil))⟩
 · -- no
  have hp129 := hp49.2 hb53; clear hp49
  refine wp_exit ?_
  refine thx ?_
  refine thx ?_
  refine ibx ?_
  refine thn ?_
  refine sqH ?_; intro hQ130Q hQ130
  refine s1 hF52 41 (.int .u64 x5) ?_; intro a131 hF132; clear hF52
  refine s1 hF132 42 (.pointer (some ⟨b2, 3, none⟩)) ?_; intro a133 hF134; clear hF132
  refine l1 hF134 hM48 43 0 3 (.int .u64 u0.End) rfl rfl ?_; intro a135 hF136; clear hF134
  refine s1 hF136 44 (.int .u64 (bXor .u64 x5 u0.End)) ?_; intro a137 hF138; clear hF136
  refine s1 hF138 4 (.int .u64 (bXor .u64 x5 u0.End)) ?_; intro a139 hF140; clear hF138
  refine nlH (hQ130 _ _ ?_); clear hQ130 hQ130Q
  refine wp_ret ?_
  refine rt (fn := Tryd.f48) (v := .int .u64 (bXor .u64 x5 u0.End)) hF140 (re1 hF140 (fn := Tryd.f48) rfl (by kernel_rfl)) ?_
  exact ⟨bXor .u64 x5 u0.End, rfl, hp129, hM48.below⟩

theorem count1_fun (u0 : List UInt8) (u1 : List UInt8) (hpre : u1.length = 1) (Z : Fz) (w : World) (hZ : Z.on w) : Calls Tryd.prog 53 #[str u0, str u1] w fun e w' => e = .returned (.int .i64 (count1S u0 u1)) ∧ Below w.heap.size w w' := by
  obtain ⟨c, rfl⟩ : ∃ c, u1 = [c] := by
    match u1, hpre with
    | [c], _ => exact ⟨c, rfl⟩
  exact (Any.strings_Count_one Tryd.lays138 ⟨⟨u0⟩⟩ c w).mono fun _ _ ⟨h1, h2⟩ => ⟨h1, h2 ▸ Below.refl _ _⟩

set_option maxRecDepth 100000 in
set_option maxHeartbeats 0 in
theorem rcheckrow_walk (u0 : List UInt8)  (Z : Fz) (w : World)  (hZ : Z.on w) {K : Int → Prop} (hp : rcheckrow_vc u0 K) : Calls Tryd.prog 18 #[str u0] w fun e w' => ∃ r : Int, e = .returned (.int .i64 r) ∧ K r ∧ Below w.heap.size w w' := by
 refine enter0 Tryd.func18 rfl rfl (by kernel_rfl) ?_; intro a0 hF0; have hM0 := Mem.start w Z hZ; have hle0 := Fz.le.refl Z
 refine sqH ?_; intro hQ1Q hQ1
 refine s1 hF0 2 (.int .i64 0) ?_; intro a2 hF3; clear hF0
 refine nlH (hQ1 _ _ ?_); clear hQ1 hQ1Q
 refine wp_seq ?_
 refine sqH ?_; intro hQ4Q hQ4
 refine s1 hF3 3 (str u0) ?_; intro a5 hF6; clear hF3
 refine s1 hF6 4 (.int .i64 (u0.length : Int)) ?_; intro a7 hF8; clear hF6
 refine s1 hF8 5 (.bool (decide ((u0.length : Int) > 1000))) ?_; intro a9 hF10; clear hF8
 refine nlH (hQ4 _ _ ?_); clear hQ4 hQ4Q
 refine cd hF10 (t := decide ((u0.length : Int) > 1000)) (by kernel_rfl) (fun hb11 => ?_) (fun hb11 => ?_)
 · -- yes
  have hp12 := hp.1 hb11; clear hp
  refine sqH ?_; intro hQ13Q hQ13
  refine s1 hF10 2 (.int .i64 2) ?_; intro a14 hF15; clear hF10
  refine nlH (hQ13 _ _ ?_); clear hQ13 hQ13Q
  refine wp_ret ?_
  refine thr ?_
  refine rt (fn := Tryd.f18) (v := .int .i64 2) hF15 (re1 hF15 (fn := Tryd.f18) rfl (by kernel_rfl)) ?_
  exact ⟨2, rfl, hp12, hM0.below⟩
 · -- no
  have hp16 := hp.2 hb11; clear hp
  refine wp_skip ?_
  refine thn ?_
  refine wp_seq ?_
  refine sqH ?_; intro hQ17Q hQ17
  refine s1 hF10 6 (str u0) ?_; intro a18 hF19; clear hF10
  have hc20 := hp16.1; have hp21 := hp16.2; clear hp16
  refine fcl hF19 hM0 (.int .i64 (count1S u0 ([48] : List UInt8))) 53 #[str u0, str ([48] : List UInt8)] (nog rfl _) rfl (by kernel_rfl) (fun _ => by kernel_rfl) (count1_fun u0 ([48] : List UInt8) hc20 _ _ hM0.fz) ?_; intro a22 wd24 hF23 hM25; clear hF19 hM0
  refine s1 hF23 8 (str u0) ?_; intro a26 hF27; clear hF23
  have hc28 := hp21.1; have hp29 := hp21.2; clear hp21
  refine fcl hF27 hM25 (.int .i64 (count1S u0 ([49] : List UInt8))) 53 #[str u0, str ([49] : List UInt8)] (nog rfl _) rfl (by kernel_rfl) (fun _ => by kernel_rfl) (count1_fun u0 ([49] : List UInt8) hc28 _ _ hM25.fz) ?_; intro a30 wd32 hF31 hM33; clear hF27 hM25
  refine s1 hF31 10 (.int .i64 (w64 ((count1S u0 ([48] : List UInt8)) + (count1S u0 ([49] : List UInt8))))) ?_; intro a34 hF35; clear hF31
  refine s1 hF35 11 (str u0) ?_; intro a36 hF37; clear hF35
  refine s1 hF37 12 (.int .i64 (u0.length : Int)) ?_; intro a38 hF39; clear hF37
  refine s1 hF39 13 (.bool ((w64 ((count1S u0 ([48] : List UInt8)) + (count1S u0 ([49] : List UInt8)))) != (u0.length : Int))) ?_; intro a40 hF41; clear hF39
  refine nlH (hQ17 _ _ ?_); clear hQ17 hQ17Q
  refine cd hF41 (t := (w64 ((count1S u0 ([48] : List UInt8)) + (count1S u0 ([49] : List UInt8)))) != (u0.length : Int)) (by kernel_rfl) (fun hb42 => ?_) (fun hb42 => ?_)
  · -- yes
   have hp43 := hp29.1 hb42; clear hp29
   refine sqH ?_; intro hQ44Q hQ44
   refine s1 hF41 2 (.int .i64 4) ?_; intro a45 hF46; clear hF41
   refine nlH (hQ44 _ _ ?_); clear hQ44 hQ44Q
   refine wp_ret ?_
   refine thr ?_
   refine rt (fn := Tryd.f18) (v := .int .i64 4) hF46 (re1 hF46 (fn := Tryd.f18) rfl (by kernel_rfl)) ?_
   exact ⟨4, rfl, hp43, hM33.below⟩
  · -- no
   have hp47 := hp29.2 hb42; clear hp29
   refine wp_skip ?_
   refine thn ?_
   refine sqH ?_; intro hQ48Q hQ48
   refine s1 hF41 2 (.int .i64 0) ?_; intro a49 hF50; clear hF41
   refine nlH (hQ48 _ _ ?_); clear hQ48 hQ48Q
   refine wp_ret ?_
   refine rt (fn := Tryd.f18) (v := .int .i64 0) hF50 (re1 hF50 (fn := Tryd.f18) rfl (by kernel_rfl)) ?_
   exact ⟨0, rfl, hp47, hM33.below⟩

end Go.Proofs.YtinegicenfndkaaDoor
