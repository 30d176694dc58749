/- The walks, made by program: each call does what its pure predicate says. -/
import Derived.Test.YtinegicenfndkaaDoorPBf
import Derived.Test.YtinegicenfndkaaDoorWBe
import Derived.Shelf.Lay
import Derived.Ground.NamesProg
import Derived.Shelf.Strings.Repeat
namespace Go.Proofs
open Go.Shelf
def Tryd.lays105_ren : Go.Shelf.Ren := ⟨fun | 99 => 128 | 105 => 99 | 165 => 129 | 166 => 77 | 169 => 78 | 170 => 130 | 206 => 146 | 212 => 127 | 240 => 112 | 241 => 147 | 263 => 144 | 264 => 145 | 276 => 134 | 277 => 157 | n => n, fun | 37 => 32 | 46 => 86 | 51 => 130 | 53 => 73 | 70 => 108 | 72 => 110 | 75 => 112 | 76 => 113 | 80 => 115 | 109 => 154 | 127 => 145 | 146 => 161 | 148 => 170 | 164 => 158 | n => n, fun n => n⟩
theorem Tryd.lays105 : Lays.n105 Tryd.prog Tryd.lays105_ren := {
  mixed := by kernel_rfl
  f99 := Tryd.func128.trans (congrArg some (by kernel_rfl))
  f105 := Tryd.func99.trans (congrArg some (by kernel_rfl))
  f165 := Tryd.func129.trans (congrArg some (by kernel_rfl))
  f166 := Tryd.func77.trans (congrArg some (by kernel_rfl))
  f169 := Tryd.func78.trans (congrArg some (by kernel_rfl))
  f170 := Tryd.func130.trans (congrArg some (by kernel_rfl))
  f206 := Tryd.func146.trans (congrArg some (by kernel_rfl))
  f212 := Tryd.func127.trans (congrArg some (by kernel_rfl))
  f240 := Tryd.func112.trans (congrArg some (by kernel_rfl))
  f241 := Tryd.func147.trans (congrArg some (by kernel_rfl))
  f263 := Tryd.func144.trans (congrArg some (by kernel_rfl))
  f264 := Tryd.func145.trans (congrArg some (by kernel_rfl))
  f276 := Tryd.func134.trans (congrArg some (by kernel_rfl))
  f277 := Tryd.func157.trans (congrArg some (by kernel_rfl))
  t0 := Tryd.underlying0
  a0 := Tryd.isAgg0
  z0 := Tryd.sizeOf0
  v0 := Tryd.zeroValue0
  t3 := Tryd.underlying3
  a3 := Tryd.isAgg3
  z3 := Tryd.sizeOf3
  v3 := Tryd.zeroValue3
  t4 := Tryd.underlying4
  a4 := Tryd.isAgg4
  z4 := Tryd.sizeOf4
  v4 := Tryd.zeroValue4
  t5 := Tryd.underlying5
  a5 := Tryd.isAgg5
  z5 := Tryd.sizeOf5
  v5 := Tryd.zeroValue5
  t9 := Tryd.underlying9
  a9 := Tryd.isAgg9
  z9 := Tryd.sizeOf9
  v9 := Tryd.zeroValue9
  t20 := Tryd.underlying20
  a20 := Tryd.isAgg20
  z20 := Tryd.sizeOf20
  v20 := Tryd.zeroValue20
  t37 := Tryd.underlying32
  a37 := Tryd.isAgg32
  z37 := Tryd.sizeOf32
  v37 := Tryd.zeroValue32
  t46 := Tryd.underlying86
  a46 := Tryd.isAgg86
  z46 := Tryd.sizeOf86
  v46 := Tryd.zeroValue86
  t51 := Tryd.underlying130
  a51 := Tryd.isAgg130
  z51 := Tryd.sizeOf130
  v51 := Tryd.zeroValue130
  t53 := Tryd.underlying73
  a53 := Tryd.isAgg73
  z53 := Tryd.sizeOf73
  v53 := Tryd.zeroValue73
  t70 := Tryd.underlying108
  a70 := Tryd.isAgg108
  z70 := Tryd.sizeOf108
  v70 := Tryd.zeroValue108
  t72 := Tryd.underlying110
  a72 := Tryd.isAgg110
  z72 := Tryd.sizeOf110
  v72 := Tryd.zeroValue110
  t75 := Tryd.underlying112
  a75 := Tryd.isAgg112
  z75 := Tryd.sizeOf112
  v75 := Tryd.zeroValue112
  t76 := Tryd.underlying113
  a76 := Tryd.isAgg113
  z76 := Tryd.sizeOf113
  v76 := Tryd.zeroValue113
  t109 := Tryd.underlying154
  a109 := Tryd.isAgg154
  z109 := Tryd.sizeOf154
  v109 := Tryd.zeroValue154
  t127 := Tryd.underlying145
  a127 := Tryd.isAgg145
  z127 := Tryd.sizeOf145
  v127 := Tryd.zeroValue145
  t146 := Tryd.underlying161
  a146 := Tryd.isAgg161
  z146 := Tryd.sizeOf161
  v146 := Tryd.zeroValue161
  t148 := Tryd.underlying170
  a148 := Tryd.isAgg170
  z148 := Tryd.sizeOf170
  v148 := Tryd.zeroValue170
  t164 := Tryd.underlying158
  a164 := Tryd.isAgg158
  z164 := Tryd.sizeOf158
  v164 := Tryd.zeroValue158 }
theorem Tryd.lays105X : Builder.Extra Tryd.prog Tryd.lays105_ren := {
  sizeBuilder := by kernel_rfl
  liesBuilder := by kernel_rfl
  t5 := by kernel_rfl
  a5 := fun w => by kernel_rfl
  z5 := fun w => by kernel_rfl
  v5 := fun w => by kernel_rfl
  infoByte := by kernel_rfl
  cellsByte := by kernel_rfl
  sizeByte := by kernel_rfl
  neB5 := by decide }

end Go.Proofs
set_option linter.unusedVariables false
set_option linter.unusedSimpArgs false
namespace Go.Proofs.YtinegicenfndkaaDoor
open Go.Sy Go.RowKit
theorem srep_fun (u0 : List UInt8) (u1 : Int) (hpre : 0 ≤ u1 ∧ u1 ≤ 1000000 ∧ (u0.length : Int) * u1 ≤ 140737488355328) (Z : Fz) (w : World) (hZ : Z.on w) : Calls Tryd.prog 99 #[str u0, .int .i64 u1] w fun e w' => e = .returned (str (srepS u0 u1)) ∧ Below w.heap.size w w' := by
  obtain ⟨m, rfl⟩ := Int.eq_ofNat_of_zero_le hpre.1
  have hl : u0.length * m ≤ 140737488355328 := by have := hpre.2.2; rw [← Int.natCast_mul] at this; omega
  have hm : m ≤ 1000000 := by have := hpre.2.1; omega
  have e : ∀ c : Nat, srepS u0 (c : Int) = Lib.repeatL u0 c := by
    intro c
    unfold srepS
    rw [Int.toNat_natCast]
    induction c with
    | zero => rfl
    | succ c ih => rw [List.replicate_succ, List.flatten_cons, ih]; rfl
  rw [e]
  exact Any.strings_Repeat Tryd.lays105 Tryd.lays105X ⟨⟨u0⟩⟩ m w (by omega) hl

set_option maxRecDepth 100000 in
set_option maxHeartbeats 0 in
theorem tz64_walk (u0 : Int)  (Z : Fz) (w : World) (hg5 : SlR (tyInt .u8) Z (some ⟨5, 0, none⟩) 64 deBruijn64) (hZ : Z.on w) {K : Int → Prop} (hp : tz64_vc u0 K) : Calls Tryd.prog 159 #[.int .u64 u0] w fun e w' => ∃ r : Int, e = .returned (.int .i64 r) ∧ K r ∧ Below w.heap.size w w' := by
 refine enter0 Tryd.func159 rfl rfl (by kernel_rfl) ?_; intro a0 hF0; have hM0 := Mem.start w Z hZ; have hle0 := Fz.le.refl Z
 refine sqH ?_; intro hQ1Q hQ1
 refine s1 hF0 2 (.int .i64 0) ?_; intro a2 hF3; clear hF0
 refine nlH (hQ1 _ _ ?_); clear hQ1 hQ1Q
 refine wp_seq ?_
 refine sqH ?_; intro hQ4Q hQ4
 refine s1 hF3 3 (.int .u64 u0) ?_; intro a5 hF6; clear hF3
 refine s1 hF6 4 (.bool (u0 == 0)) ?_; intro a7 hF8; clear hF6
 refine nlH (hQ4 _ _ ?_); clear hQ4 hQ4Q
 refine cd hF8 (t := u0 == 0) (by kernel_rfl) (fun hb9 => ?_) (fun hb9 => ?_)
 · -- yes
  have hp10 := hp.1 hb9; clear hp
  refine sqH ?_; intro hQ11Q hQ11
  refine s1 hF8 2 (.int .i64 64) ?_; intro a12 hF13; clear hF8
  refine nlH (hQ11 _ _ ?_); clear hQ11 hQ11Q
  refine wp_ret ?_
  refine thr ?_
  refine rt (fn := Tryd.f159) (v := .int .i64 64) hF13 (re1 hF13 (fn := Tryd.f159) rfl (by kernel_rfl)) ?_
  exact ⟨64, rfl, hp10, hM0.below⟩
 · -- no
  have hp14 := hp.2 hb9; clear hp
  refine wp_skip ?_
  refine thn ?_
  refine sqH ?_; intro hQ15Q hQ15
  refine s1 hF8 5 (.int .u64 u0) ?_; intro a16 hF17; clear hF8
  refine s1 hF17 6 (.int .u64 u0) ?_; intro a18 hF19; clear hF17
  refine s1 hF19 7 (.int .u64 (wu64 (0 - u0))) ?_; intro a20 hF21; clear hF19
  refine s1 hF21 8 (.int .u64 (bAnd .u64 u0 (wu64 (0 - u0)))) ?_; intro a22 hF23; clear hF21
  refine s1 hF23 9 (.int .u64 (wu64 ((bAnd .u64 u0 (wu64 (0 - u0))) * 285870213051353865))) ?_; intro a24 hF25; clear hF23
  refine s1 hF25 10 (.int .u64 (bShr .u64 (wu64 ((bAnd .u64 u0 (wu64 (0 - u0))) * 285870213051353865)) 58)) ?_; intro a26 hF27; clear hF25
  have hc28 := hp14.1; have hp29 := hp14.2; clear hp14
  refine ixG hF27 (T := (tyInt .u8)) (xs := deBruijn64) hg5 (bShr .u64 (wu64 ((bAnd .u64 u0 (wu64 (0 - u0))) * 285870213051353865)) 58) 64 rfl hc28 (e := 5) (k := .u64) (nog rfl _) rfl (by kernel_rfl) rfl (by kernel_rfl) (by kernel_rfl) (by kernel_rfl) ?_; intro b30 off31 cs32 q33 a37 hq34 hP35 hT36 hF38; clear hF27
  have hp39 := hp29 q33 hq34; clear hp29
  obtain rfl : cs32 = ([.int .u8 q33] : List Value) := hT36
  refine z1 hF38 hM0 12 hP35 0 (.int .u8 q33) rfl ?_; intro a40 hF41; clear hF38
  refine s1 hF41 13 (.int .i64 (w64 q33)) ?_; intro a42 hF43; clear hF41
  refine s1 hF43 2 (.int .i64 (w64 q33)) ?_; intro a44 hF45; clear hF43
  refine nlH (hQ15 _ _ ?_); clear hQ15 hQ15Q
  refine wp_ret ?_
  refine rt (fn := Tryd.f159) (v := .int .i64 (w64 q33)) hF45 (re1 hF45 (fn := Tryd.f159) rfl (by kernel_rfl)) ?_
  exact ⟨w64 q33, rfl, hp39, hM0.below⟩

set_option maxRecDepth 100000 in
set_option maxHeartbeats 0 in
theorem isp2_walk (u0 : Int)  (Z : Fz) (w : World)  (hZ : Z.on w) {K : Bool → Prop} (hp : isp2_vc u0 K) : Calls Tryd.prog 155 #[.int .i64 u0] w fun e w' => ∃ r : Bool, e = .returned (.bool r) ∧ K r ∧ Below w.heap.size w w' := by
 refine enter0 Tryd.func155 rfl rfl (by kernel_rfl) ?_; intro a0 hF0; have hM0 := Mem.start w Z hZ; have hle0 := Fz.le.refl Z
 refine sqH ?_; intro hQ1Q hQ1
 refine s1 hF0 2 (.bool false) ?_; intro a2 hF3; clear hF0
 refine nlH (hQ1 _ _ ?_); clear hQ1 hQ1Q
 refine sqH ?_; intro hQ4Q hQ4
 refine s1 hF3 3 (.int .i64 u0) ?_; intro a5 hF6; clear hF3
 refine s1 hF6 4 (.int .i64 u0) ?_; intro a7 hF8; clear hF6
 refine s1 hF8 5 (.int .i64 (w64 (u0 - 1))) ?_; intro a9 hF10; clear hF8
 refine s1 hF10 6 (.int .i64 (bAnd .i64 u0 (w64 (u0 - 1)))) ?_; intro a11 hF12; clear hF10
 refine s1 hF12 7 (.bool ((bAnd .i64 u0 (w64 (u0 - 1))) == 0)) ?_; intro a13 hF14; clear hF12
 refine s1 hF14 2 (.bool ((bAnd .i64 u0 (w64 (u0 - 1))) == 0)) ?_; intro a15 hF16; clear hF14
 refine nlH (hQ4 _ _ ?_); clear hQ4 hQ4Q
 refine wp_ret ?_
 refine rt (fn := Tryd.f155) (v := .bool ((bAnd .i64 u0 (w64 (u0 - 1))) == 0)) hF16 (re1 hF16 (fn := Tryd.f155) rfl (by kernel_rfl)) ?_
 exact ⟨(bAnd .i64 u0 (w64 (u0 - 1))) == 0, rfl, hp, hM0.below⟩
theorem isp2_fun (u0 : Int)  (Z : Fz) (w : World)  (hZ : Z.on w) : Calls Tryd.prog 155 #[.int .i64 u0] w fun e w' => e = .returned (.bool (isp2 u0)) ∧ Below w.heap.size w w' :=
  (isp2_walk u0  Z w  hZ (isp2_ok u0)).mono fun _ _ ⟨r, he, hk, hb⟩ => ⟨by subst hk; exact he, hb⟩

end Go.Proofs.YtinegicenfndkaaDoor
