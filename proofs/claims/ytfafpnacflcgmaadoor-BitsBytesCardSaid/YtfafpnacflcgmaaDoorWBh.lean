/- The walks, made by program: each call does what its pure predicate says. -/
import Derived.Test.YtfafpnacflcgmaaDoorPBh
import Derived.Test.YtfafpnacflcgmaaDoorWBg
set_option linter.unusedVariables false
set_option linter.unusedSimpArgs false
namespace Go.Proofs.YtfafpnacflcgmaaDoor
open Go.Sy Go.RowKit
theorem fbits_fun (u1 : Int) (u3 : Bool) (hpre : u3 = false ∧ 0 ≤ u1 ∧ u1 ≤ 9223372036854775807)  (Z : Fz) (w : World) (hg5 : SlR (tyInt .u8) Z (some ⟨5, 0, none⟩) 64 deBruijn64) (hZ : Z.on w) : Calls Tryd.prog 90 #[.slice none 0 0, .int .u64 u1, .int .i64 2, .bool u3, .bool false] w fun e w' => ∃ (ao1001 : Option Addr) (cap1002 : Nat) (Z' : Fz), e = .returned (.tuple #[.slice ao1001 (fbitsS u1 u3).1.length cap1002, str (fbitsS u1 u3).2]) ∧ Mem w.heap.size [] w Z [.own (tyInt .u8) 5 ao1001 cap1002 (fbitsS u1 u3).1] Z' w' :=
  (fbits_walk u1 u3  Z w hg5 hZ (fbits_ok u1 u3 hpre)).mono fun _ _ ⟨r, h0, h1, h2, he, hk, hm⟩ => by subst hk; exact ⟨h0, h1, h2, he, hm⟩

set_option maxRecDepth 100000 in
set_option maxHeartbeats 0 in
theorem fint0_walk (u0 : Int)  (Z : Fz) (w : World) (hg5 : SlR (tyInt .u8) Z (some ⟨5, 0, none⟩) 64 deBruijn64) (hZ : Z.on w) {K : (List UInt8) → Prop} (hp : fint0_vc u0 K) : Calls Tryd.prog 74 #[.int .i64 u0, .int .i64 2] w fun e w' => ∃ r : (List UInt8), e = .returned (str r) ∧ K r ∧ Below w.heap.size w w' := by
 refine enter0 Tryd.func74 rfl rfl (by kernel_rfl) ?_; intro a0 hF0; have hM0 := Mem.start w Z hZ; have hle0 := Fz.le.refl Z
 refine sqH ?_; intro hQ1Q hQ1
 refine s1 hF0 4 (str []) ?_; intro a2 hF3; clear hF0
 refine nlH (hQ1 _ _ ?_); clear hQ1 hQ1Q
 refine wp_seq ?_
 refine sqH ?_; intro hQ4Q hQ4
 refine s1 hF3 10 (.int .i64 2) ?_; intro a5 hF6; clear hF3
 refine s1 hF6 11 (.bool false) ?_; intro a7 hF8; clear hF6
 refine nlH (hQ4 _ _ ?_); clear hQ4 hQ4Q
 refine cdF hF8 (by kernel_rfl) ?_
 refine wp_skip ?_
 refine thn ?_
 refine sqH ?_; intro hQ9Q hQ9
 refine s1 hF8 45 (.int .i64 u0) ?_; intro a10 hF11; clear hF8
 refine s1 hF11 46 (.int .u64 (wu64 u0)) ?_; intro a12 hF13; clear hF11
 refine s1 hF13 47 (.int .i64 2) ?_; intro a14 hF15; clear hF13
 refine s1 hF15 48 (.int .i64 u0) ?_; intro a16 hF17; clear hF15
 refine s1 hF17 49 (.bool (decide (u0 < 0))) ?_; intro a18 hF19; clear hF17
 have hc20 := hp.1; have hp21 := hp.2; clear hp
 refine cl hF19 90 #[.slice none 0 0, .int .u64 (wu64 u0), .int .i64 2, .bool (decide (u0 < 0)), .bool false] (nog rfl _) rfl (by kernel_rfl) (by kernel_rfl) ?_
 refine (fbits_fun (wu64 u0) (decide (u0 < 0)) hc20 _ _ hg5 hM0.fz).mono ?_; rintro _ wd22 ⟨ao26, cap27, Z28, rfl, hm⟩; refine ⟨_, rfl, ?_⟩; intro a23 hF24; have hM25 := hM0.callZ hm; have hle29 := hm.ext.le; clear hm hM0 hF19
 replace hg5 := hg5.mono hle29
 replace hle0 := Fz.le.trans hle0 hle29
 have hM30 : Mem w.heap.size [] w Z [.own (tyInt .u8) 5 ao26 cap27 ((fbitsS (wu64 u0) (decide (u0 < 0))).1)] Z28 wd22 := hM25; clear hM25
 have hp31 := hp21 (hM30.ownSmall 0 rfl); clear hp21
 refine s1 hF24 44 (.tuple #[.slice ao26 ((fbitsS (wu64 u0) (decide (u0 < 0))).1).length cap27, str ((fbitsS (wu64 u0) (decide (u0 < 0))).2)]) ?_; intro a32 hF33; clear hF24
 refine s1 hF33 51 (.slice ao26 ((fbitsS (wu64 u0) (decide (u0 < 0))).1).length cap27) ?_; intro a34 hF35; clear hF33
 refine s1 hF35 52 (str ((fbitsS (wu64 u0) (decide (u0 < 0))).2)) ?_; intro a36 hF37; clear hF35
 refine s1 hF37 8 (.slice ao26 ((fbitsS (wu64 u0) (decide (u0 < 0))).1).length cap27) ?_; intro a38 hF39; clear hF37
 refine s1 hF39 9 (str ((fbitsS (wu64 u0) (decide (u0 < 0))).2)) ?_; intro a40 hF41; clear hF39
 refine nlH (hQ9 _ _ ?_); clear hQ9 hQ9Q
 have hF42 : Fr 54 [] [⟨9, [], str ((fbitsS (wu64 u0) (decide (u0 < 0))).2)⟩] a40 := hF41.region (by kernel_rfl) (by kernel_rfl); clear hF41
 refine sqH ?_; intro hQ43Q hQ43
 refine s1 hF42 53 (str ((fbitsS (wu64 u0) (decide (u0 < 0))).2)) ?_; intro a44 hF45; clear hF42
 refine s1 hF45 4 (str ((fbitsS (wu64 u0) (decide (u0 < 0))).2)) ?_; intro a46 hF47; clear hF45
 refine nlH (hQ43 _ _ ?_); clear hQ43 hQ43Q
 refine wp_ret ?_
 refine rt (fn := Tryd.f74) (v := str ((fbitsS (wu64 u0) (decide (u0 < 0))).2)) hF47 (re1 hF47 (fn := Tryd.f74) rfl (by kernel_rfl)) ?_
 exact ⟨(fbitsS (wu64 u0) (decide (u0 < 0))).2, rfl, hp31, hM30.below⟩

end Go.Proofs.YtfafpnacflcgmaaDoor
