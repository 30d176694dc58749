/- The walks, made by program: each call does what its pure predicate says. -/
import Derived.Test.YtfafpnacflcgmaaDoorPBi
import Derived.Test.YtfafpnacflcgmaaDoorWBh
set_option linter.unusedVariables false
set_option linter.unusedSimpArgs false
namespace Go.Proofs.YtfafpnacflcgmaaDoor
open Go.Sy Go.RowKit
theorem fint0_fun (u0 : Int) (hpre : 0 ≤ u0 ∧ u0 ≤ 9223372036854775807)  (Z : Fz) (w : World) (hg5 : SlR (tyInt .u8) Z (some ⟨5, 0, none⟩) 64 deBruijn64) (hZ : Z.on w) : Calls Tryd.prog 74 #[.int .i64 u0, .int .i64 2] w fun e w' => e = .returned (str (fintS u0)) ∧ Below w.heap.size w w' :=
  (fint0_walk u0  Z w hg5 hZ (fint_ok u0 hpre)).mono fun _ _ ⟨r, he, hk, hb⟩ => ⟨by subst hk; exact he, hb⟩

set_option maxRecDepth 100000 in
set_option maxHeartbeats 0 in
theorem fint1_walk (u0 : Int)  (Z : Fz) (w : World) (hg5 : SlR (tyInt .u8) Z (some ⟨5, 0, none⟩) 64 deBruijn64) (hZ : Z.on w) {K : (List UInt8) → Prop} (hp : fint1_vc u0 K) : Calls Tryd.prog 46 #[.int .i64 u0, .int .i64 2] w fun e w' => ∃ r : (List UInt8), e = .returned (str r) ∧ K r ∧ Below w.heap.size w w' := by
 refine enter0 Tryd.func46 rfl rfl (by kernel_rfl) ?_; intro a0 hF0; have hM0 := Mem.start w Z hZ; have hle0 := Fz.le.refl Z
 refine sqH ?_; intro hQ1Q hQ1
 refine s1 hF0 4 (str []) ?_; intro a2 hF3; clear hF0
 refine nlH (hQ1 _ _ ?_); clear hQ1 hQ1Q
 refine sqH ?_; intro hQ4Q hQ4
 refine s1 hF3 5 (.int .i64 u0) ?_; intro a5 hF6; clear hF3
 refine s1 hF6 6 (.int .i64 2) ?_; intro a7 hF8; clear hF6
 have hc9 := hp.1; have hp10 := hp.2; clear hp
 refine fcl hF8 hM0 (str (fintS u0)) 74 #[.int .i64 u0, .int .i64 2] (nog rfl _) rfl (by kernel_rfl) (fun _ => by kernel_rfl) (fint0_fun u0 hc9 _ _ hg5 hM0.fz) ?_; intro a11 wd13 hF12 hM14; clear hF8 hM0
 refine s1 hF12 4 (str (fintS u0)) ?_; intro a15 hF16; clear hF12
 refine nlH (hQ4 _ _ ?_); clear hQ4 hQ4Q
 refine wp_ret ?_
 refine rt (fn := Tryd.f46) (v := str (fintS u0)) hF16 (re1 hF16 (fn := Tryd.f46) rfl (by kernel_rfl)) ?_
 exact ⟨(fintS u0), rfl, hp10, hM14.below⟩

set_option maxRecDepth 100000 in
set_option maxHeartbeats 0 in
theorem rrow_walk (u0 : Int) (u1 : Int)  (Z : Fz) (w : World) (hg5 : SlR (tyInt .u8) Z (some ⟨5, 0, none⟩) 64 deBruijn64) (hZ : Z.on w) {K : ((List UInt8) × Bool) → Prop} (hp : rrow_vc u0 u1 K) : Calls Tryd.prog 25 #[.int .i64 u0, .int .i64 u1] w fun e w' => ∃ r : (List UInt8) × Bool, e = .returned (.tuple #[str r.1, .bool r.2]) ∧ K r ∧ Below w.heap.size w w' := by
 refine enter0 Tryd.func25 rfl rfl (by kernel_rfl) ?_; intro a0 hF0; have hM0 := Mem.start w Z hZ; have hle0 := Fz.le.refl Z
 refine sqH ?_; intro hQ1Q hQ1
 refine s1 hF0 4 (str []) ?_; intro a2 hF3; clear hF0
 refine s1 hF3 5 (.bool false) ?_; intro a4 hF5; clear hF3
 refine nlH (hQ1 _ _ ?_); clear hQ1 hQ1Q
 refine sqH ?_; intro hQ6Q hQ6
 refine s1 hF5 6 (str []) ?_; intro a7 hF8; clear hF5
 refine nlH (hQ6 _ _ ?_); clear hQ6 hQ6Q
 refine wp_seq ?_
 refine sqH ?_; intro hQ9Q hQ9
 refine s1 hF8 7 (.int .i64 u0) ?_; intro a10 hF11; clear hF8
 refine s1 hF11 8 (.bool (decide (u0 > 0))) ?_; intro a12 hF13; clear hF11
 refine nlH (hQ9 _ _ ?_); clear hQ9 hQ9Q
 refine cd hF13 (t := decide (u0 > 0)) (by kernel_rfl) (fun hb14 => ?_) (fun hb14 => ?_)
 · -- yes
  have hp15 := hp.1 hb14; clear hp
  refine rgH ?_; intro hQ16Q hQ16
  refine s1 hF13 9 (.int .i64 u0) ?_; intro a17 hF18; clear hF13
  refine cl hF18 46 #[.int .i64 u0, .int .i64 2] (nog rfl _) rfl (by kernel_rfl) (by kernel_rfl) ?_
  refine (fint1_walk u0 _ _ hg5 hM0.fz hp15).mono ?_; rintro _ wd20 ⟨r19, rfl, hp24, hb⟩; refine ⟨_, rfl, ?_⟩; intro a21 hF22; have hM23 := hM0.call hb; clear hb hM0 hF18
  refine s1 hF22 6 (str r19) ?_; intro a25 hF26; clear hF22
  refine nlH (hQ16 _ _ ?_); clear hQ16 hQ16Q
  refine thn ?_
  refine wp_seq ?_
  refine sqH ?_; intro hQ27Q hQ27
  refine s1 hF26 11 (str r19) ?_; intro a28 hF29; clear hF26
  refine s1 hF29 12 (.int .i64 (r19.length : Int)) ?_; intro a30 hF31; clear hF29
  refine s1 hF31 13 (.int .i64 u1) ?_; intro a32 hF33; clear hF31
  refine s1 hF33 14 (.bool (decide ((r19.length : Int) > u1))) ?_; intro a34 hF35; clear hF33
  refine nlH (hQ27 _ _ ?_); clear hQ27 hQ27Q
  refine cd hF35 (t := decide ((r19.length : Int) > u1)) (by kernel_rfl) (fun hb36 => ?_) (fun hb36 => ?_)
  · -- yes
   have hp37 := hp24.1 hb36; clear hp24
   refine sqH ?_; intro hQ38Q hQ38
   refine s1 hF35 4 (str []) ?_; intro a39 hF40; clear hF35
   refine s1 hF40 5 (.bool false) ?_; intro a41 hF42; clear hF40
   refine nlH (hQ38 _ _ ?_); clear hQ38 hQ38Q
   refine wp_ret ?_
   refine thr ?_
   refine rt (fn := Tryd.f25) (v := .tuple #[str [], .bool false]) hF42 (re2 hF42 (fn := Tryd.f25) rfl (by kernel_rfl) (by kernel_rfl)) ?_
   exact ⟨([], false), rfl, hp37, hM23.below⟩
  · -- no
   have hp43 := hp24.2 hb36; clear hp24
   refine wp_skip ?_
   refine thn ?_
   refine sqH ?_; intro hQ44Q hQ44
   refine s1 hF35 15 (.int .i64 u1) ?_; intro a45 hF46; clear hF35
   refine s1 hF46 16 (str r19) ?_; intro a47 hF48; clear hF46
   refine s1 hF48 17 (.int .i64 (r19.length : Int)) ?_; intro a49 hF50; clear hF48
   refine s1 hF50 18 (.int .i64 (w64 (u1 - (r19.length : Int)))) ?_; intro a51 hF52; clear hF50
   have hc53 := hp43.1; have hp54 := hp43.2; clear hp43
   refine fcl hF52 hM23 (str (srepS ([48] : List UInt8) (w64 (u1 - (r19.length : Int))))) 47 #[str ([48] : List UInt8), .int .i64 (w64 (u1 - (r19.length : Int)))] (nog rfl _) rfl (by kernel_rfl) (fun _ => by kernel_rfl) (srep_fun ([48] : List UInt8) (w64 (u1 - (r19.length : Int))) hc53 _ _ hM23.fz) ?_; intro a55 wd57 hF56 hM58; clear hF52 hM23
   refine s1 hF56 20 (str r19) ?_; intro a59 hF60; clear hF56
   have hc61 := hp54.1; have hp62 := hp54.2; clear hp54
   refine st hF60 (str ((srepS ([48] : List UInt8) (w64 (u1 - (r19.length : Int)))) ++ r19)) (nog rfl _) rfl (by kernel_rfl) (stradd_run hF60 (g := []) rfl (by kernel_rfl) (by kernel_rfl) hc61 rfl) ?_; intro a63 hF64; clear hF60
   refine s1 hF64 4 (str ((srepS ([48] : List UInt8) (w64 (u1 - (r19.length : Int)))) ++ r19)) ?_; intro a65 hF66; clear hF64
   refine s1 hF66 5 (.bool true) ?_; intro a67 hF68; clear hF66
   refine nlH (hQ44 _ _ ?_); clear hQ44 hQ44Q
   refine wp_ret ?_
   refine rt (fn := Tryd.f25) (v := .tuple #[str ((srepS ([48] : List UInt8) (w64 (u1 - (r19.length : Int)))) ++ r19), .bool true]) hF68 (re2 hF68 (fn := Tryd.f25) rfl (by kernel_rfl) (by kernel_rfl)) ?_
   exact ⟨((srepS ([48] : List UInt8) (w64 (u1 - (r19.length : Int)))) ++ r19, true), rfl, hp62, hM58.below⟩
 · -- no
  have hp69 := hp.2 hb14; clear hp
  refine wp_skip ?_
  refine thn ?_
  refine wp_seq ?_
  refine sqH ?_; intro hQ70Q hQ70
  refine s1 hF13 11 (str []) ?_; intro a71 hF72; clear hF13
  refine s1 hF72 12 (.int .i64 0) ?_; intro a73 hF74; clear hF72
  refine s1 hF74 13 (.int .i64 u1) ?_; intro a75 hF76; clear hF74
  refine s1 hF76 14 (.bool (decide (0 > u1))) ?_; intro a77 hF78; clear hF76
  refine nlH (hQ70 _ _ ?_); clear hQ70 hQ70Q
  refine cd hF78 (t := decide (0 > u1)) (by kernel_rfl) (fun hb79 => ?_) (fun hb79 => ?_)
  · -- yes
   have hp80 := hp69.1 hb79; clear hp69
   refine sqH ?_; intro hQ81Q hQ81
   refine s1 hF78 4 (str []) ?_; intro a82 hF83; clear hF78
   refine s1 hF83 5 (.bool false) ?_; intro a84 hF85; clear hF83
   refine nlH (hQ81 _ _ ?_); clear hQ81 hQ81Q
   refine wp_ret ?_
   refine thr ?_
   refine rt (fn := Tryd.f25) (v := .tuple #[str [], .bool false]) hF85 (re2 hF85 (fn := Tryd.f25) rfl (by kernel_rfl) (by kernel_rfl)) ?_
   exact ⟨([], false), rfl, hp80, hM0.below⟩
  · -- no
   have hp86 := hp69.2 hb79; clear hp69
   refine wp_skip ?_
   refine thn ?_
   refine sqH ?_; intro hQ87Q hQ87
   refine s1 hF78 15 (.int .i64 u1) ?_; intro a88 hF89; clear hF78
   refine s1 hF89 16 (str []) ?_; intro a90 hF91; clear hF89
   refine s1 hF91 17 (.int .i64 0) ?_; intro a92 hF93; clear hF91
   refine s1 hF93 18 (.int .i64 (w64 (u1 - 0))) ?_; intro a94 hF95; clear hF93
   have hc96 := hp86.1; have hp97 := hp86.2; clear hp86
   refine fcl hF95 hM0 (str (srepS ([48] : List UInt8) (w64 (u1 - 0)))) 47 #[str ([48] : List UInt8), .int .i64 (w64 (u1 - 0))] (nog rfl _) rfl (by kernel_rfl) (fun _ => by kernel_rfl) (srep_fun ([48] : List UInt8) (w64 (u1 - 0)) hc96 _ _ hM0.fz) ?_; intro a98 wd100 hF99 hM101; clear hF95 hM0
   refine s1 hF99 20 (str []) ?_; intro a102 hF103; clear hF99
   have hc104 := hp97.1; have hp105 := hp97.2; clear hp97
   refine st hF103 (str ((srepS ([48] : List UInt8) (w64 (u1 - 0))) ++ ([] : List UInt8))) (nog rfl _) rfl (by kernel_rfl) (stradd_run hF103 (g := []) rfl (by kernel_rfl) (by kernel_rfl) hc104 rfl) ?_; intro a106 hF107; clear hF103
   refine s1 hF107 4 (str ((srepS ([48] : List UInt8) (w64 (u1 - 0))) ++ ([] : List UInt8))) ?_; intro a108 hF109; clear hF107
   refine s1 hF109 5 (.bool true) ?_; intro a110 hF111; clear hF109
   refine nlH (hQ87 _ _ ?_); clear hQ87 hQ87Q
   refine wp_ret ?_
   refine rt (fn := Tryd.f25) (v := .tuple #[str ((srepS ([48] : List UInt8) (w64 (u1 - 0))) ++ ([] : List UInt8)), .bool true]) hF111 (re2 hF111 (fn := Tryd.f25) rfl (by kernel_rfl) (by kernel_rfl)) ?_
   exact ⟨((srepS ([48] : List UInt8) (w64 (u1 - 0))) ++ ([] : List UInt8), true), rfl, hp105, hM101.below⟩

end Go.Proofs.YtfafpnacflcgmaaDoor
