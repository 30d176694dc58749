/- The walks, made by program: each call does what its pure predicate says. -/
import Derived.Test.YtmbdcehmeiiaoaaGreatDoorPBf
import Derived.Test.YtmbdcehmeiiaoaaGreatDoorWZ
import Derived.Shelf.Lay
import Derived.Ground.NamesProg
import Derived.Shelf.Strings.Repeat
namespace Go.Proofs
open Go.Shelf
def Tryz.lays105_ren : Go.Shelf.Ren := ⟨fun | 99 => 43 | 105 => 89 | 165 => 112 | 166 => 98 | 169 => 99 | 170 => 113 | 206 => 77 | 212 => 111 | 240 => 118 | 241 => 134 | 263 => 132 | 264 => 133 | 276 => 138 | 277 => 146 | n => n, fun | 37 => 22 | 46 => 75 | 51 => 143 | 53 => 93 | 70 => 131 | 72 => 133 | 75 => 135 | 76 => 136 | 80 => 73 | 109 => 148 | 127 => 155 | 146 => 164 | 148 => 166 | 164 => 169 | n => n, fun n => n⟩
theorem Tryz.lays105 : Lays.n105 Tryz.prog Tryz.lays105_ren where
  mixed := by kernel_rfl
  f99 := Tryz.func43.trans (congrArg some (by kernel_rfl))
  f105 := Tryz.func89.trans (congrArg some (by kernel_rfl))
  f165 := Tryz.func112.trans (congrArg some (by kernel_rfl))
  f166 := Tryz.func98.trans (congrArg some (by kernel_rfl))
  f169 := Tryz.func99.trans (congrArg some (by kernel_rfl))
  f170 := Tryz.func113.trans (congrArg some (by kernel_rfl))
  f206 := Tryz.func77.trans (congrArg some (by kernel_rfl))
  f212 := Tryz.func111.trans (congrArg some (by kernel_rfl))
  f240 := Tryz.func118.trans (congrArg some (by kernel_rfl))
  f241 := Tryz.func134.trans (congrArg some (by kernel_rfl))
  f263 := Tryz.func132.trans (congrArg some (by kernel_rfl))
  f264 := Tryz.func133.trans (congrArg some (by kernel_rfl))
  f276 := Tryz.func138.trans (congrArg some (by kernel_rfl))
  f277 := Tryz.func146.trans (congrArg some (by kernel_rfl))
  t0 := Tryz.underlying0
  a0 := Tryz.isAgg0
  z0 := Tryz.sizeOf0
  v0 := Tryz.zeroValue0
  t3 := Tryz.underlying3
  a3 := Tryz.isAgg3
  z3 := Tryz.sizeOf3
  v3 := Tryz.zeroValue3
  t4 := Tryz.underlying4
  a4 := Tryz.isAgg4
  z4 := Tryz.sizeOf4
  v4 := Tryz.zeroValue4
  t5 := Tryz.underlying5
  a5 := Tryz.isAgg5
  z5 := Tryz.sizeOf5
  v5 := Tryz.zeroValue5
  t9 := Tryz.underlying9
  a9 := Tryz.isAgg9
  z9 := Tryz.sizeOf9
  v9 := Tryz.zeroValue9
  t20 := Tryz.underlying20
  a20 := Tryz.isAgg20
  z20 := Tryz.sizeOf20
  v20 := Tryz.zeroValue20
  t37 := Tryz.underlying22
  a37 := Tryz.isAgg22
  z37 := Tryz.sizeOf22
  v37 := Tryz.zeroValue22
  t46 := Tryz.underlying75
  a46 := Tryz.isAgg75
  z46 := Tryz.sizeOf75
  v46 := Tryz.zeroValue75
  t51 := Tryz.underlying143
  a51 := Tryz.isAgg143
  z51 := Tryz.sizeOf143
  v51 := Tryz.zeroValue143
  t53 := Tryz.underlying93
  a53 := Tryz.isAgg93
  z53 := Tryz.sizeOf93
  v53 := Tryz.zeroValue93
  t70 := Tryz.underlying131
  a70 := Tryz.isAgg131
  z70 := Tryz.sizeOf131
  v70 := Tryz.zeroValue131
  t72 := Tryz.underlying133
  a72 := Tryz.isAgg133
  z72 := Tryz.sizeOf133
  v72 := Tryz.zeroValue133
  t75 := Tryz.underlying135
  a75 := Tryz.isAgg135
  z75 := Tryz.sizeOf135
  v75 := Tryz.zeroValue135
  t76 := Tryz.underlying136
  a76 := Tryz.isAgg136
  z76 := Tryz.sizeOf136
  v76 := Tryz.zeroValue136
  t109 := Tryz.underlying148
  a109 := Tryz.isAgg148
  z109 := Tryz.sizeOf148
  v109 := Tryz.zeroValue148
  t127 := Tryz.underlying155
  a127 := Tryz.isAgg155
  z127 := Tryz.sizeOf155
  v127 := Tryz.zeroValue155
  t146 := Tryz.underlying164
  a146 := Tryz.isAgg164
  z146 := Tryz.sizeOf164
  v146 := Tryz.zeroValue164
  t148 := Tryz.underlying166
  a148 := Tryz.isAgg166
  z148 := Tryz.sizeOf166
  v148 := Tryz.zeroValue166
  t164 := Tryz.underlying169
  a164 := Tryz.isAgg169
  z164 := Tryz.sizeOf169
  v164 := Tryz.zeroValue169
theorem Tryz.lays105X : Builder.Extra Tryz.prog Tryz.lays105_ren where
  sizeBuilder := by kernel_rfl
  liesBuilder := by kernel_rfl
  t5 := by kernel_rfl
  a5 := fun w => by kernel_rfl
  z5 := fun w => by kernel_rfl
  v5 := fun w => by kernel_rfl
  infoByte := by kernel_rfl
  cellsByte := by kernel_rfl
  sizeByte := by kernel_rfl
  neB5 := by decide

end Go.Proofs
set_option linter.unusedVariables false
set_option linter.unusedSimpArgs false
namespace Go.Proofs.YtmbdcehmeiiaoaaGreatDoor
open Go.Sy Go.RowKit
theorem srep_fun (u0 : List UInt8) (u1 : Int) (hpre : 0 ≤ u1 ∧ u1 ≤ 1000000 ∧ (u0.length : Int) * u1 ≤ 140737488355328) (Z : Fz) (w : World) (hZ : Z.on w) : Calls Tryz.prog 89 #[str u0, .int .i64 u1] w fun e w' => e = .returned (str (srepS u0 u1)) ∧ Below w.heap.size w w' := by
  obtain ⟨m, rfl⟩ := Int.eq_ofNat_of_zero_le hpre.1
  have hl : u0.length * m ≤ 140737488355328 := by have := hpre.2.2; rw [← Int.natCast_mul] at this; omega
  have hm : m ≤ 1000000 := by have := hpre.2.1; omega
  have e : ∀ c : Nat, srepS u0 (c : Int) = Lib.repeatL u0 c := by
    intro c
    unfold srepS
    rw [Int.toNat_natCast]
    induction c with
    | zero => rfl
    | succ c ih => rw [List.replicate_succ, List.flatten_cons, ih]; rfl
  rw [e]
  exact Any.strings_Repeat Tryz.lays105 Tryz.lays105X ⟨⟨u0⟩⟩ m w (by omega) hl

set_option maxRecDepth 100000 in
set_option maxHeartbeats 0 in
theorem tz64_walk (u0 : Int)  (Z : Fz) (w : World) (hg5 : SlR (tyInt .u8) Z (some ⟨5, 0, none⟩) 64 deBruijn64) (hZ : Z.on w) {K : Int → Prop} (hp : tz64_vc u0 K) : Calls Tryz.prog 150 #[.int .u64 u0] w fun e w' => ∃ r : Int, e = .returned (.int .i64 r) ∧ K r ∧ Below w.heap.size w w' := by
 refine enter0 Tryz.func150 rfl rfl (by kernel_rfl) ?_; intro a0 hF0; have hM0 := Mem.start w Z hZ; have hle0 := Fz.le.refl Z
 refine sqH ?_; intro hQ1Q hQ1
 refine s1 hF0 2 (.int .i64 0) ?_; intro a2 hF3; clear hF0
 refine nlH (hQ1 _ _ ?_); clear hQ1 hQ1Q
 refine wp_seq ?_
 refine sqH ?_; intro hQ4Q hQ4
 refine s1 hF3 3 (.int .u64 u0) ?_; intro a5 hF6; clear hF3
 refine s1 hF6 4 (.bool (u0 == 0)) ?_; intro a7 hF8; clear hF6
 refine nlH (hQ4 _ _ ?_); clear hQ4 hQ4Q
 refine cd hF8 (t := u0 == 0) (by kernel_rfl) (fun hb9 => ?_) (fun hb9 => ?_)
 · -- yes
  have hp10 := hp.1 hb9; clear hp
  refine sqH ?_; intro hQ11Q hQ11
  refine s1 hF8 2 (.int .i64 64) ?_; intro a12 hF13; clear hF8
  refine nlH (hQ11 _ _ ?_); clear hQ11 hQ11Q
  refine wp_ret ?_
  refine thr ?_
  refine rt (fn := Tryz.f150) (v := .int .i64 64) hF13 (re1 hF13 (fn := Tryz.f150) rfl (by kernel_rfl)) ?_
  exact ⟨64, rfl, hp10, hM0.below⟩
 · -- no
  have hp14 := hp.2 hb9; clear hp
  refine wp_skip ?_
  refine thn ?_
  refine sqH ?_; intro hQ15Q hQ15
  refine s1 hF8 5 (.int .u64 u0) ?_; intro a16 hF17; clear hF8
  refine s1 hF17 6 (.int .u64 u0) ?_; intro a18 hF19; clear hF17
  refine s1 hF19 7 (.int .u64 (wu64 (0 - u0))) ?_; intro a20 hF21; clear hF19
  refine s1 hF21 8 (.int .u64 (bAnd .u64 u0 (wu64 (0 - u0)))) ?_; intro a22 hF23; clear hF21
  refine s1 hF23 9 (.int .u64 (wu64 ((bAnd .u64 u0 (wu64 (0 - u0))) * 285870213051353865))) ?_; intro a24 hF25; clear hF23
  refine s1 hF25 10 (.int .u64 (bShr .u64 (wu64 ((bAnd .u64 u0 (wu64 (0 - u0))) * 285870213051353865)) 58)) ?_; intro a26 hF27; clear hF25
  have hc28 := hp14.1; have hp29 := hp14.2; clear hp14
  refine ixG hF27 (T := (tyInt .u8)) (xs := deBruijn64) hg5 (bShr .u64 (wu64 ((bAnd .u64 u0 (wu64 (0 - u0))) * 285870213051353865)) 58) 64 rfl hc28 (e := 5) (k := .u64) (nog rfl _) rfl (by kernel_rfl) rfl (by kernel_rfl) (by kernel_rfl) (by kernel_rfl) ?_; intro b30 off31 cs32 q33 a37 hq34 hP35 hT36 hF38; clear hF27
  have hp39 := hp29 q33 hq34; clear hp29
  obtain rfl : cs32 = ([.int .u8 q33] : List Value) := hT36
  refine z1 hF38 hM0 12 hP35 0 (.int .u8 q33) rfl ?_; intro a40 hF41; clear hF38
  refine s1 hF41 13 (.int .i64 (w64 q33)) ?_; intro a42 hF43; clear hF41
  refine s1 hF43 2 (.int .i64 (w64 q33)) ?_; intro a44 hF45; clear hF43
  refine nlH (hQ15 _ _ ?_); clear hQ15 hQ15Q
  refine wp_ret ?_
  refine rt (fn := Tryz.f150) (v := .int .i64 (w64 q33)) hF45 (re1 hF45 (fn := Tryz.f150) rfl (by kernel_rfl)) ?_
  exact ⟨w64 q33, rfl, hp39, hM0.below⟩

set_option maxRecDepth 100000 in
set_option maxHeartbeats 0 in
theorem isp2_walk (u0 : Int)  (Z : Fz) (w : World)  (hZ : Z.on w) {K : Bool → Prop} (hp : isp2_vc u0 K) : Calls Tryz.prog 144 #[.int .i64 u0] w fun e w' => ∃ r : Bool, e = .returned (.bool r) ∧ K r ∧ Below w.heap.size w w' := by
 refine enter0 Tryz.func144 rfl rfl (by kernel_rfl) ?_; intro a0 hF0; have hM0 := Mem.start w Z hZ; have hle0 := Fz.le.refl Z
 refine sqH ?_; intro hQ1Q hQ1
 refine s1 hF0 2 (.bool false) ?_; intro a2 hF3; clear hF0
 refine nlH (hQ1 _ _ ?_); clear hQ1 hQ1Q
 refine sqH ?_; intro hQ4Q hQ4
 refine s1 hF3 3 (.int .i64 u0) ?_; intro a5 hF6; clear hF3
 refine s1 hF6 4 (.int .i64 u0) ?_; intro a7 hF8; clear hF6
 refine s1 hF8 5 (.int .i64 (w64 (u0 - 1))) ?_; intro a9 hF10; clear hF8
 refine s1 hF10 6 (.int .i64 (bAnd .i64 u0 (w64 (u0 - 1)))) ?_; intro a11 hF12; clear hF10
 refine s1 hF12 7 (.bool ((bAnd .i64 u0 (w64 (u0 - 1))) == 0)) ?_; intro a13 hF14; clear hF12
 refine s1 hF14 2 (.bool ((bAnd .i64 u0 (w64 (u0 - 1))) == 0)) ?_; intro a15 hF16; clear hF14
 refine nlH (hQ4 _ _ ?_); clear hQ4 hQ4Q
 refine wp_ret ?_
 refine rt (fn := Tryz.f144) (v := .bool ((bAnd .i64 u0 (w64 (u0 - 1))) == 0)) hF16 (re1 hF16 (fn := Tryz.f144) rfl (by kernel_rfl)) ?_
 exact ⟨(bAnd .i64 u0 (w64 (u0 - 1))) == 0, rfl, hp, hM0.below⟩
theorem isp2_fun (u0 : Int)  (Z : Fz) (w : World)  (hZ : Z.on w) : Calls Tryz.prog 144 #[.int .i64 u0] w fun e w' => e = .returned (.bool (isp2 u0)) ∧ Below w.heap.size w w' :=
  (isp2_walk u0  Z w  hZ (isp2_ok u0)).mono fun _ _ ⟨r, he, hk, hb⟩ => ⟨by subst hk; exact he, hb⟩

end Go.Proofs.YtmbdcehmeiiaoaaGreatDoor
