/- The walks, made by program: each call does what its pure predicate says. -/
import Derived.Test.YtfafpnacflcgmaaDoorPB
import Derived.Test.YtfafpnacflcgmaaDoorWA
set_option linter.unusedVariables false
set_option linter.unusedSimpArgs false
namespace Go.Proofs.YtfafpnacflcgmaaDoor
open Go.Sy Go.RowKit
theorem bread_fun (u0 : List UInt8) (hpre : u0.length ≤ 62 ∧ isRow u0 = true)  (Z : Fz) (w : World)  (hZ : Z.on w) : Calls Tryd.prog 36 #[str u0] w fun e w' => e = .returned (.int .u64 (breadS u0)) ∧ Below w.heap.size w w' :=
  (bread_walk u0  Z w  hZ (bread_ok u0 hpre)).mono fun _ _ ⟨r, he, hk, hb⟩ => ⟨by subst hk; exact he, hb⟩

theorem bwrite_fun (u0 : Int) (u1 : Int) (hpre : 0 ≤ u1 ∧ u1 ≤ 64 ∧ 0 ≤ u0 ∧ u0 < 2 ^ 62)  (Z : Fz) (w : World)  (hZ : Z.on w) : Calls Tryd.prog 37 #[.int .u64 u0, .int .i64 u1] w fun e w' => e = .returned (str (bwriteS u0 u1)) ∧ Below w.heap.size w w' :=
  (bwrite_walk u0 u1  Z w  hZ (bwrite_ok u0 u1 hpre)).mono fun _ _ ⟨r, he, hk, hb⟩ => ⟨by subst hk; exact he, hb⟩

theorem bcheck_fun (u0 : List UInt8)  (Z : Fz) (w : World)  (hZ : Z.on w) : Calls Tryd.prog 22 #[str u0] w fun e w' => e = .returned (.int .i64 (bcheckS u0)) ∧ Below w.heap.size w w' :=
  (bcheck_walk u0  Z w  hZ (bcheck_ok u0)).mono fun _ _ ⟨r, he, hk, hb⟩ => ⟨by subst hk; exact he, hb⟩

theorem rcheckrow_fun (u0 : List UInt8)  (Z : Fz) (w : World)  (hZ : Z.on w) : Calls Tryd.prog 21 #[str u0] w fun e w' => e = .returned (.int .i64 (bcheckS u0)) ∧ Below w.heap.size w w' :=
  (rcheckrow_walk u0  Z w  hZ (rcheckrow_ok u0)).mono fun _ _ ⟨r, he, hk, hb⟩ => ⟨by subst hk; exact he, hb⟩

set_option maxRecDepth 100000 in
set_option maxHeartbeats 0 in
theorem bnumber_walk (u0 : List UInt8)  (Z : Fz) (w : World)  (hZ : Z.on w) {K : (Int × Int) → Prop} (hp : bnumber_vc u0 K) : Calls Tryd.prog 13 #[str u0] w fun e w' => ∃ r : Int × Int, e = .returned (.tuple #[.int .i64 r.1, .int .i64 r.2]) ∧ K r ∧ Below w.heap.size w w' := by
 refine enter0 Tryd.func13 rfl rfl (by kernel_rfl) ?_; intro a0 hF0; have hM0 := Mem.start w Z hZ; have hle0 := Fz.le.refl Z
 refine sqH ?_; intro hQ1Q hQ1
 refine s1 hF0 2 (.int .i64 0) ?_; intro a2 hF3; clear hF0
 refine s1 hF3 3 (.int .i64 0) ?_; intro a4 hF5; clear hF3
 refine nlH (hQ1 _ _ ?_); clear hQ1 hQ1Q
 refine wp_seq ?_
 refine sqH ?_; intro hQ6Q hQ6
 refine s1 hF5 5 (str u0) ?_; intro a7 hF8; clear hF5
 refine fcl hF8 hM0 (.int .i64 (bcheckS u0)) 22 #[str u0] (nog rfl _) rfl (by kernel_rfl) (fun _ => by kernel_rfl) (bcheck_fun u0 _ _ hM0.fz) ?_; intro a9 wd11 hF10 hM12; clear hF8 hM0
 refine s1 hF10 4 (.int .i64 (bcheckS u0)) ?_; intro a13 hF14; clear hF10
 refine nlH (hQ6 _ _ ?_); clear hQ6 hQ6Q
 refine sqH ?_; intro hQ15Q hQ15
 refine s1 hF14 7 (.int .i64 (bcheckS u0)) ?_; intro a16 hF17; clear hF14
 refine s1 hF17 8 (.bool ((bcheckS u0) != 0)) ?_; intro a18 hF19; clear hF17
 refine nlH (hQ15 _ _ ?_); clear hQ15 hQ15Q
 refine cd hF19 (t := (bcheckS u0) != 0) (by kernel_rfl) (fun hb20 => ?_) (fun hb20 => ?_)
 · -- yes
  have hp21 := hp.1 hb20; clear hp
  refine sqH ?_; intro hQ22Q hQ22
  refine s1 hF19 9 (.int .i64 (bcheckS u0)) ?_; intro a23 hF24; clear hF19
  refine s1 hF24 2 (.int .i64 0) ?_; intro a25 hF26; clear hF24
  refine s1 hF26 3 (.int .i64 (bcheckS u0)) ?_; intro a27 hF28; clear hF26
  refine nlH (hQ22 _ _ ?_); clear hQ22 hQ22Q
  refine wp_ret ?_
  refine thr ?_
  refine rt (fn := Tryd.f13) (v := .tuple #[.int .i64 0, .int .i64 (bcheckS u0)]) hF28 (re2 hF28 (fn := Tryd.f13) rfl (by kernel_rfl) (by kernel_rfl)) ?_
  exact ⟨(0, (bcheckS u0)), rfl, hp21, hM12.below⟩
 · -- no
  have hp29 := hp.2 hb20; clear hp
  refine wp_skip ?_
  refine thn ?_
  refine wp_seq ?_
  refine sqH ?_; intro hQ30Q hQ30
  refine s1 hF19 10 (str u0) ?_; intro a31 hF32; clear hF19
  refine s1 hF32 11 (.int .i64 (u0.length : Int)) ?_; intro a33 hF34; clear hF32
  refine s1 hF34 12 (.bool (decide ((u0.length : Int) > 62))) ?_; intro a35 hF36; clear hF34
  refine nlH (hQ30 _ _ ?_); clear hQ30 hQ30Q
  refine cd hF36 (t := decide ((u0.length : Int) > 62)) (by kernel_rfl) (fun hb37 => ?_) (fun hb37 => ?_)
  · -- yes
   have hp38 := hp29.1 hb37; clear hp29
   refine sqH ?_; intro hQ39Q hQ39
   refine s1 hF36 2 (.int .i64 0) ?_; intro a40 hF41; clear hF36
   refine s1 hF41 3 (.int .i64 2) ?_; intro a42 hF43; clear hF41
   refine nlH (hQ39 _ _ ?_); clear hQ39 hQ39Q
   refine wp_ret ?_
   refine thr ?_
   refine rt (fn := Tryd.f13) (v := .tuple #[.int .i64 0, .int .i64 2]) hF43 (re2 hF43 (fn := Tryd.f13) rfl (by kernel_rfl) (by kernel_rfl)) ?_
   exact ⟨(0, 2), rfl, hp38, hM12.below⟩
  · -- no
   have hp44 := hp29.2 hb37; clear hp29
   refine wp_skip ?_
   refine thn ?_
   refine sqH ?_; intro hQ45Q hQ45
   refine s1 hF36 13 (str u0) ?_; intro a46 hF47; clear hF36
   have hc48 := hp44.1; have hp49 := hp44.2; clear hp44
   refine fcl hF47 hM12 (.int .u64 (breadS u0)) 36 #[str u0] (nog rfl _) rfl (by kernel_rfl) (fun _ => by kernel_rfl) (bread_fun u0 hc48 _ _ hM12.fz) ?_; intro a50 wd52 hF51 hM53; clear hF47 hM12
   refine s1 hF51 15 (.int .i64 (w64 (breadS u0))) ?_; intro a54 hF55; clear hF51
   refine s1 hF55 2 (.int .i64 (w64 (breadS u0))) ?_; intro a56 hF57; clear hF55
   refine s1 hF57 3 (.int .i64 0) ?_; intro a58 hF59; clear hF57
   refine nlH (hQ45 _ _ ?_); clear hQ45 hQ45Q
   refine wp_ret ?_
   refine rt (fn := Tryd.f13) (v := .tuple #[.int .i64 (w64 (breadS u0)), .int .i64 0]) hF59 (re2 hF59 (fn := Tryd.f13) rfl (by kernel_rfl) (by kernel_rfl)) ?_
   exact ⟨(w64 (breadS u0), 0), rfl, hp49, hM53.below⟩

set_option maxRecDepth 100000 in
set_option maxHeartbeats 0 in
theorem brow_walk (u0 : Int) (u1 : Int)  (Z : Fz) (w : World)  (hZ : Z.on w) {K : ((List UInt8) × Int) → Prop} (hp : brow_vc u0 u1 K) : Calls Tryd.prog 15 #[.int .i64 u0, .int .i64 u1] w fun e w' => ∃ r : (List UInt8) × Int, e = .returned (.tuple #[str r.1, .int .i64 r.2]) ∧ K r ∧ Below w.heap.size w w' := by
 refine enter0 Tryd.func15 rfl rfl (by kernel_rfl) ?_; intro a0 hF0; have hM0 := Mem.start w Z hZ; have hle0 := Fz.le.refl Z
 refine sqH ?_; intro hQ1Q hQ1
 refine s1 hF0 4 (str []) ?_; intro a2 hF3; clear hF0
 refine s1 hF3 5 (.int .i64 0) ?_; intro a4 hF5; clear hF3
 refine nlH (hQ1 _ _ ?_); clear hQ1 hQ1Q
 refine wp_seq ?_
 refine sqH ?_; intro hQ6Q hQ6
 refine s1 hF5 6 (.int .i64 u1) ?_; intro a7 hF8; clear hF5
 refine s1 hF8 7 (.bool (decide (u1 < 0))) ?_; intro a9 hF10; clear hF8
 refine s1 hF10 8 (.bool (decide (u1 < 0))) ?_; intro a11 hF12; clear hF10
 have hF13 := hF12.atom ((decide (u1 < 0)) == false) (by kernel_rfl); clear hF12
 refine gp hF13 9 0 [] (decide (u1 < 0)) (.int .i64 u1) rfl rfl ?_; intro a14 hF15; clear hF13
 refine gp hF15 10 0 [] (decide (u1 < 0)) (.bool (decide (u1 > 62))) rfl rfl ?_; intro a16 hF17; clear hF15
 refine st hF17 (.bool ((decide (u1 < 0)) || (decide (u1 > 62)))) (nog rfl _) rfl (by kernel_rfl) (pk_or hF17 (g := []) (m := 0) (b := decide (u1 < 0)) (v := decide (u1 > 62)) rfl (by kernel_rfl) (by kernel_rfl) (by kernel_rfl) rfl) ?_; intro a18 hF19; clear hF17
 refine nlH (hQ6 _ _ ?_); clear hQ6 hQ6Q
 refine cd hF19 (t := (decide (u1 < 0)) || (decide (u1 > 62))) (by kernel_rfl) (fun hb20 => ?_) (fun hb20 => ?_)
 · -- yes
  have hp21 := hp.1 hb20; clear hp
  have hF22 : Fr 24 [] [] a18 := hF19.region (by kernel_rfl) (by kernel_rfl); clear hF19
  refine sqH ?_; intro hQ23Q hQ23
  refine s1 hF22 4 (str []) ?_; intro a24 hF25; clear hF22
  refine s1 hF25 5 (.int .i64 2) ?_; intro a26 hF27; clear hF25
  refine nlH (hQ23 _ _ ?_); clear hQ23 hQ23Q
  refine wp_ret ?_
  refine thr ?_
  refine rt (fn := Tryd.f15) (v := .tuple #[str [], .int .i64 2]) hF27 (re2 hF27 (fn := Tryd.f15) rfl (by kernel_rfl) (by kernel_rfl)) ?_
  exact ⟨([], 2), rfl, hp21, hM0.below⟩
 · -- no
  have hp28 := hp.2 hb20; clear hp
  refine wp_skip ?_
  refine thn ?_
  refine wp_seq ?_
  have hF29 : Fr 24 [] [⟨0, [], .int .i64 u0⟩, ⟨1, [], .int .i64 u1⟩] a18 := hF19.region (by kernel_rfl) (by kernel_rfl); clear hF19
  refine sqH ?_; intro hQ30Q hQ30
  refine s1 hF29 12 (.int .i64 u0) ?_; intro a31 hF32; clear hF29
  refine s1 hF32 13 (.bool (decide (u0 < 0))) ?_; intro a33 hF34; clear hF32
  refine s1 hF34 14 (.bool (decide (u0 < 0))) ?_; intro a35 hF36; clear hF34
  have hF37 := hF36.atom ((decide (u0 < 0)) == false) (by kernel_rfl); clear hF36
  refine gp hF37 15 0 [] (decide (u0 < 0)) (.int .i64 u0) rfl rfl ?_; intro a38 hF39; clear hF37
  refine gp hF39 16 0 [] (decide (u0 < 0)) (.int .i64 u1) rfl rfl ?_; intro a40 hF41; clear hF39
  rcases Bool.eq_false_or_eq_true (decide (u0 < 0)) with hb42 | hb42
  · -- true
   have hp43 := hp28.1 hb42; clear hp28
   have hF44 := hF41.reval (d := 14) (c := []) (v := .bool (decide (u0 < 0))) (by kernel_rfl) (.bool true) (by rw [hb42]); clear hF41
   have hF45 := hF44.setc (d := 15) (c := [0]) (v := .int .i64 u0) (by kernel_rfl) (v' := undef) (by rw [hb42]; kernel_rfl); clear hF44
   have hF46 := hF45.setc (d := 16) (c := [0]) (v := .int .i64 u1) (by kernel_rfl) (v' := undef) (by rw [hb42]; kernel_rfl); clear hF45
   refine sk hF46 (b := true) rfl rfl (by kernel_rfl) (by kernel_rfl) rfl rfl (by kernel_rfl) ?_; intro a47 hF48; clear hF46
   refine sk hF48 (b := true) rfl rfl (by kernel_rfl) (by kernel_rfl) rfl rfl (by kernel_rfl) ?_; intro a49 hF50; clear hF48
   refine s1 hF50 19 (.bool true) ?_; intro a51 hF52; clear hF50
   refine nlH (hQ30 _ _ ?_); clear hQ30 hQ30Q
   refine cdT hF52 (by kernel_rfl) ?_
   have hF53 : Fr 24 [] [] a51 := hF52.region (by kernel_rfl) (by kernel_rfl); clear hF52
   refine sqH ?_; intro hQ54Q hQ54
   refine s1 hF53 4 (str []) ?_; intro a55 hF56; clear hF53
   refine s1 hF56 5 (.int .i64 3) ?_; intro a57 hF58; clear hF56
   refine nlH (hQ54 _ _ ?_); clear hQ54 hQ54Q
   refine wp_ret ?_
   refine thr ?_
   refine rt (fn := Tryd.f15) (v := .tuple #[str [], .int .i64 3]) hF58 (re2 hF58 (fn := Tryd.f15) rfl (by kernel_rfl) (by kernel_rfl)) ?_
   exact ⟨([], 3), rfl, hp43, hM0.below⟩
  · -- false
   have hp59 := hp28.2 hb42; clear hp28
   have hF60 := hF41.reval (d := 14) (c := []) (v := .bool (decide (u0 < 0))) (by kernel_rfl) (.bool false) (by rw [hb42]); clear hF41
   have hF61 := hF60.setc (d := 15) (c := [0]) (v := .int .i64 u0) (by kernel_rfl) (v' := .int .i64 u0) (by rw [hb42]; kernel_rfl); clear hF60
   have hF62 := hF61.setc (d := 16) (c := [0]) (v := .int .i64 u1) (by kernel_rfl) (v' := .int .i64 u1) (by rw [hb42]; kernel_rfl); clear hF61
   have hc63 := hp59.1; have hp64 := hp59.2; clear hp59
   refine st hF62 (.int .i64 (bShr .i64 u0 u1)) (by rw [wanted_of hF62 (b := false) rfl rfl (by kernel_rfl) (by kernel_rfl)]; rfl) rfl (by kernel_rfl) (shr_run hF62 (g := []) (k' := .i64) rfl (by kernel_rfl) (by kernel_rfl) hc63 rfl) ?_; intro a65 hF66; clear hF62
   refine st hF66 (.bool ((bShr .i64 u0 u1) != 0)) (by rw [wanted_of hF66 (b := false) rfl rfl (by kernel_rfl) (by kernel_rfl)]; rfl) rfl (by kernel_rfl) (p0 hF66 (by kernel_rfl)) ?_; intro a67 hF68; clear hF66
   refine s1 hF68 19 (.bool ((bShr .i64 u0 u1) != 0)) ?_; intro a69 hF70; clear hF68
   refine nlH (hQ30 _ _ ?_); clear hQ30 hQ30Q
   refine cd hF70 (t := (bShr .i64 u0 u1) != 0) (by kernel_rfl) (fun hb71 => ?_) (fun hb71 => ?_)
   · -- yes
    have hp72 := hp64.1 hb71; clear hp64
    have hF73 : Fr 24 [] [] a69 := hF70.region (by kernel_rfl) (by kernel_rfl); clear hF70
    refine sqH ?_; intro hQ74Q hQ74
    refine s1 hF73 4 (str []) ?_; intro a75 hF76; clear hF73
    refine s1 hF76 5 (.int .i64 3) ?_; intro a77 hF78; clear hF76
    refine nlH (hQ74 _ _ ?_); clear hQ74 hQ74Q
    refine wp_ret ?_
    refine thr ?_
    refine rt (fn := Tryd.f15) (v := .tuple #[str [], .int .i64 3]) hF78 (re2 hF78 (fn := Tryd.f15) rfl (by kernel_rfl) (by kernel_rfl)) ?_
    exact ⟨([], 3), rfl, hp72, hM0.below⟩
   · -- no
    have hp79 := hp64.2 hb71; clear hp64
    refine wp_skip ?_
    refine thn ?_
    have hF80 : Fr 24 [] [⟨0, [], .int .i64 u0⟩, ⟨1, [], .int .i64 u1⟩] a69 := hF70.region (by kernel_rfl) (by kernel_rfl); clear hF70
    refine sqH ?_; intro hQ81Q hQ81
    refine s1 hF80 20 (.int .i64 u0) ?_; intro a82 hF83; clear hF80
    refine s1 hF83 21 (.int .u64 (wu64 u0)) ?_; intro a84 hF85; clear hF83
    refine s1 hF85 22 (.int .i64 u1) ?_; intro a86 hF87; clear hF85
    have hc88 := hp79.1; have hp89 := hp79.2; clear hp79
    refine fcl hF87 hM0 (str (bwriteS (wu64 u0) u1)) 37 #[.int .u64 (wu64 u0), .int .i64 u1] (nog rfl _) rfl (by kernel_rfl) (fun _ => by kernel_rfl) (bwrite_fun (wu64 u0) u1 hc88 _ _ hM0.fz) ?_; intro a90 wd92 hF91 hM93; clear hF87 hM0
    refine s1 hF91 4 (str (bwriteS (wu64 u0) u1)) ?_; intro a94 hF95; clear hF91
    refine s1 hF95 5 (.int .i64 0) ?_; intro a96 hF97; clear hF95
    refine nlH (hQ81 _ _ ?_); clear hQ81 hQ81Q
    refine wp_ret ?_
    refine rt (fn := Tryd.f15) (v := .tuple #[str (bwriteS (wu64 u0) u1), .int .i64 0]) hF97 (re2 hF97 (fn := Tryd.f15) rfl (by kernel_rfl) (by kernel_rfl)) ?_
    exact ⟨((bwriteS (wu64 u0) u1), 0), rfl, hp89, hM93.below⟩

set_option maxRecDepth 100000 in
set_option maxHeartbeats 0 in
theorem bof_walk (u0 : List Int) (ao1 : Option Addr) (cap2 : Nat) (Z : Fz) (w : World) (hs3 : SlR (tyInt .u8) Z ao1 cap2 u0) (hZ : Z.on w) {K : ((List UInt8) × Int) → Prop} (hp : bof_vc u0 K) : Calls Tryd.prog 16 #[.slice ao1 u0.length cap2] w fun e w' => ∃ r : (List UInt8) × Int, e = .returned (.tuple #[str r.1, .int .i64 r.2]) ∧ K r ∧ Below w.heap.size w w' := by
 refine enter0 Tryd.func16 rfl rfl (by kernel_rfl) ?_; intro a0 hF0; have hM0 := Mem.start w Z hZ; have hle0 := Fz.le.refl Z
 have hzB := Go.Sy.zB hZ
 have hp4 := hp (hs3.small); clear hp
 refine sqH ?_; intro hQ5Q hQ5
 refine s1 hF0 2 (str []) ?_; intro a6 hF7; clear hF0
 refine s1 hF7 3 (.int .i64 0) ?_; intro a8 hF9; clear hF7
 refine nlH (hQ5 _ _ ?_); clear hQ5 hQ5Q
 refine wp_seq ?_
 refine sqH ?_; intro hQ10Q hQ10
 refine s1 hF9 7 (.slice ao1 u0.length cap2) ?_; intro a11 hF12; clear hF9
 refine s1 hF12 8 (.int .i64 (u0.length : Int)) ?_; intro a13 hF14; clear hF12
 refine s1 hF14 9 (.bool (decide ((u0.length : Int) > 125))) ?_; intro a15 hF16; clear hF14
 refine nlH (hQ10 _ _ ?_); clear hQ10 hQ10Q
 refine cd hF16 (t := decide ((u0.length : Int) > 125)) (by kernel_rfl) (fun hb17 => ?_) (fun hb17 => ?_)
 · -- yes
  have hp18 := hp4.1 hb17; clear hp4
  refine sqH ?_; intro hQ19Q hQ19
  refine s1 hF16 2 (str []) ?_; intro a20 hF21; clear hF16
  refine s1 hF21 3 (.int .i64 2) ?_; intro a22 hF23; clear hF21
  refine nlH (hQ19 _ _ ?_); clear hQ19 hQ19Q
  refine wp_ret ?_
  refine thr ?_
  refine rt (fn := Tryd.f16) (v := .tuple #[str [], .int .i64 2]) hF23 (re2 hF23 (fn := Tryd.f16) rfl (by kernel_rfl) (by kernel_rfl)) ?_
  exact ⟨([], 2), rfl, hp18, hM0.below⟩
 · -- no
  have hp24 := hp4.2 hb17; clear hp4
  refine wp_skip ?_
  refine thn ?_
  refine sqH ?_; intro hQ25Q hQ25
  refine sn hF16 hM0 (fun b => .pointer (some ⟨b, 0, none⟩)) [.pointer none, .slice none 0 0] 59 (nog rfl _) rfl (by kernel_rfl) (by kernel_rfl) ?_; intro b26 a27 wd29 hF28 hM30; clear hF16 hM0
  refine nlH (hQ25 _ _ ?_); clear hQ25 hQ25Q
  refine wp_seq ?_
  refine sqH ?_; intro hQ31Q hQ31
  refine s1 hF28 10 (.slice ao1 u0.length cap2) ?_; intro a32 hF33; clear hF28
  refine s1 hF33 11 (.int .i64 (u0.length : Int)) ?_; intro a34 hF35; clear hF33
  refine s1 hF35 12 (.int .i64 0) ?_; intro a36 hF37; clear hF35
  refine nlH (hQ31 _ _ ?_); clear hQ31 hQ31Q
  refine wp_block ?_
  have hF38 : Fr 22 [] [⟨4, [], .pointer (some ⟨b26, 0, none⟩)⟩, ⟨10, [], .slice ao1 u0.length cap2⟩, ⟨11, [], .int .i64 (u0.length : Int)⟩, ⟨12, [], .int .i64 0⟩] a36 := hF37.region (by kernel_rfl) (by kernel_rfl); clear hF37
  have hM40 : Mem w.heap.size [] w Z [.row b26 [.pointer none, .slice none ([] : List UInt8).length 0] 59, .own tyByte 5 none 0 ([] : List UInt8)] Z wd29 := hM30.bldNil 5; clear hM30
  have hF41 : Fr 22 [] [⟨4, [], .pointer (some ⟨b26, 0, none⟩)⟩, ⟨10, [], .slice ao1 u0.length cap2⟩, ⟨11, [], .int .i64 (u0.length : Int)⟩, ⟨12, [], .int .i64 0⟩] a36 := hF38.region (by kernel_rfl) (by kernel_rfl); clear hF38
  obtain ⟨inv39, mu39, hI44, hr43⟩ := hp24
  refine lp (ι := Int × (List UInt8) × Value × (Option Addr) × Nat) (fun (s : Int × (List UInt8) × Value × (Option Addr) × Nat) => [⟨4, [], .pointer (some ⟨b26, 0, none⟩)⟩, ⟨10, [], .slice ao1 u0.length cap2⟩, ⟨11, [], .int .i64 (u0.length : Int)⟩, ⟨12, [], .int .i64 s.1⟩]) (fun (s : Int × (List UInt8) × Value × (Option Addr) × Nat) => [.row b26 [s.2.2.1, .slice s.2.2.2.1 s.2.1.length s.2.2.2.2] 59, .own tyByte 5 s.2.2.2.1 s.2.2.2.2 s.2.1]) (fun (s : Int × (List UInt8) × Value × (Option Addr) × Nat) => Z) (fun (s : Int × (List UInt8) × Value × (Option Addr) × Nat) => inv39 s.1 s.2.1 ∧ (s.2.2.1 = .pointer none ∨ s.2.2.1 = .pointer (some ⟨b26, 0, none⟩))) (fun (s : Int × (List UInt8) × Value × (Option Addr) × Nat) => mu39 s.1 s.2.1) ⟨0, ([] : List UInt8), (.pointer none), none, 0⟩ ⟨hI44, (.inl rfl)⟩ (by exact hF41.region (by kernel_rfl) (by kernel_rfl)) (by exact hM40) ?_
  rintro ⟨x12, yb26, vpyb26, aoyb26, capyb26⟩ ⟨hI42, hvpyb26⟩ a46 wd47 hF48 hM49
  have hF50 : Fr 22 [] [⟨4, [], .pointer (some ⟨b26, 0, none⟩)⟩, ⟨10, [], .slice ao1 u0.length cap2⟩, ⟨11, [], .int .i64 (u0.length : Int)⟩, ⟨12, [], .int .i64 x12⟩] a46 := hF48; clear hF48 hF41
  have hM51 : Mem w.heap.size [] w Z [.row b26 [vpyb26, .slice aoyb26 yb26.length capyb26] 59, .own tyByte 5 aoyb26 capyb26 yb26] Z wd47 := hM49; clear hM49 hM40
  have hp52 := hr43 x12 yb26 hI42
  refine sqH ?_; intro hQ53Q hQ53
  refine s1 hF50 13 (.bool (decide (x12 < (u0.length : Int)))) ?_; intro a54 hF55; clear hF50
  refine nlH (hQ53 _ _ ?_); clear hQ53 hQ53Q
  refine wp_seq ?_
  refine cd hF55 (t := decide (x12 < (u0.length : Int))) (by kernel_rfl) (fun hb56 => ?_) (fun hb56 => ?_)
  · -- yes
   have hp57 := hp52.1 hb56; clear hp52
   refine wp_skip ?_
   refine thn ?_
   refine wp_seq ?_
   refine wp_block ?_
   refine sqH ?_; intro hQ58Q hQ58
   have hc59 := hp57.1; have hp60 := hp57.2; clear hp57
   refine ix hF55 (T := (tyInt .u8)) (xs := u0) hs3 x12 hc59 (k := .i64) (e := 5) (bytes := 1) (nog rfl _) rfl (by kernel_rfl) rfl (by kernel_rfl) (by kernel_rfl) (by kernel_rfl) ?_; intro b61 off62 cs63 q64 a68 hq65 hP66 hT67 hF69; clear hF55
   have hp70 := hp60 q64 hq65; clear hp60
   obtain rfl : cs63 = ([.int .u8 q64] : List Value) := hT67
   refine z1 hF69 hM51 15 hP66 0 (.int .u8 q64) rfl ?_; intro a71 hF72; clear hF69
   refine s1 hF72 6 (.int .u8 q64) ?_; intro a73 hF74; clear hF72
   refine nlH (hQ58 _ _ ?_); clear hQ58 hQ58Q
   refine rgH ?_; intro hQ75Q hQ75
   refine s1 hF74 16 (.int .u8 q64) ?_; intro a76 hF77; clear hF74
   refine s1 hF77 17 (.int .u64 (wu64 q64)) ?_; intro a78 hF79; clear hF77
   have hc80 := hp70.1; have hp81 := hp70.2; clear hp70
   refine fcl hF79 hM51 (str (bwriteS (wu64 q64) 8)) 37 #[.int .u64 (wu64 q64), .int .i64 8] (nog rfl _) rfl (by kernel_rfl) (fun _ => by kernel_rfl) (bwrite_fun (wu64 q64) 8 hc80 _ _ hM51.fz) ?_; intro a82 wd84 hF83 hM85; clear hF79 hM51
   have hc90 := hp81.1; have hp91 := hp81.2; clear hp81
   refine cl hF83 38 #[.pointer (some ⟨b26, 0, none⟩), str (bwriteS (wu64 q64) 8)] (nog rfl _) rfl (by kernel_rfl) (by kernel_rfl) ?_
   refine (Go.Sy.bld_write Tryd.lays166 Tryd.lays166X hM85 hzB hvpyb26 hc90).mono ?_; rintro _ wd86 ⟨ao92, cap93, rfl, hm⟩; refine ⟨_, rfl, ?_⟩; intro a87 hF88; have hM89 := hm; clear hm hM85 hF83
   have hM94 : Mem w.heap.size [] w Z [.row b26 [.pointer (some ⟨b26, 0, none⟩), .slice ao92 (yb26 ++ (bwriteS (wu64 q64) 8)).length cap93] 59, .own tyByte 5 ao92 cap93 (yb26 ++ (bwriteS (wu64 q64) 8))] Z wd86 := hM89; clear hM89
   refine nlH (hQ75 _ _ ?_); clear hQ75 hQ75Q
   refine ibn ?_
   refine thn ?_
   refine rgH ?_; intro hQ95Q hQ95
   refine s1 hF88 20 (.int .i64 (w64 (x12 + 1))) ?_; intro a96 hF97; clear hF88
   refine s1 hF97 12 (.int .i64 (w64 (x12 + 1))) ?_; intro a98 hF99; clear hF97
   refine nlH (hQ95 _ _ ?_); clear hQ95 hQ95Q
   refine rd ?_
   exact ⟨⟨w64 (x12 + 1), yb26 ++ (bwriteS (wu64 q64) 8), (.pointer (some ⟨b26, 0, none⟩)), ao92, cap93⟩, ⟨hp91.1, (.inr rfl)⟩, hp91.2, (hF99.region (by kernel_rfl) (by kernel_rfl)).anyβ _ (by kernel_rfl), hM94.keep (List.Sublist.cons_cons _ (List.Sublist.cons_cons _ (List.Sublist.slnil)))⟩
  · -- no
   have hp100 := hp52.2 hb56; clear hp52
   refine wp_exit ?_
   refine thx ?_
   refine thx ?_
   refine ibx ?_
   refine thn ?_
   refine sqH ?_; intro hQ101Q hQ101
   refine cl hF55 39 #[.pointer (some ⟨b26, 0, none⟩)] (nog rfl _) rfl (by kernel_rfl) (by kernel_rfl) ?_
   refine (Go.Sy.bld_string Tryd.lays169 Tryd.lays169X hM51 hzB hvpyb26).mono ?_; rintro _ wd102 ⟨rfl, hm⟩; refine ⟨_, rfl, ?_⟩; intro a103 hF104; have hM105 := hm; clear hm hM51 hF55
   have hM106 : Mem w.heap.size [] w Z [] Z wd102 := hM105; clear hM105
   refine s1 hF104 2 (str yb26) ?_; intro a107 hF108; clear hF104
   refine s1 hF108 3 (.int .i64 0) ?_; intro a109 hF110; clear hF108
   refine nlH (hQ101 _ _ ?_); clear hQ101 hQ101Q
   refine wp_ret ?_
   refine rt (fn := Tryd.f16) (v := .tuple #[str yb26, .int .i64 0]) hF110 (re2 hF110 (fn := Tryd.f16) rfl (by kernel_rfl) (by kernel_rfl)) ?_
   exact ⟨(yb26, 0), rfl, hp100, hM106.below⟩

set_option maxRecDepth 100000 in
set_option maxHeartbeats 0 in
theorem bbytes_walk (u0 : List UInt8)  (Z : Fz) (w : World)  (hZ : Z.on w) {K : ((List Int) × Int) → Prop} (hp : bbytes_vc u0 K) : Calls Tryd.prog 17 #[str u0] w fun e w' => ∃ (r : (List Int) × Int) (ao1001 : Option Addr) (cap1002 : Nat) (Z' : Fz), e = .returned (.tuple #[.slice ao1001 r.1.length cap1002, .int .i64 r.2]) ∧ K r ∧ Mem w.heap.size [] w Z [.own (tyInt .u8) 5 ao1001 cap1002 r.1] Z' w' := by
 refine enter0 Tryd.func17 rfl rfl (by kernel_rfl) ?_; intro a0 hF0; have hM0 := Mem.start w Z hZ; have hle0 := Fz.le.refl Z
 refine sqH ?_; intro hQ1Q hQ1
 refine s1 hF0 2 (.slice none 0 0) ?_; intro a2 hF3; clear hF0
 refine s1 hF3 3 (.int .i64 0) ?_; intro a4 hF5; clear hF3
 refine nlH (hQ1 _ _ ?_); clear hQ1 hQ1Q
 refine wp_seq ?_
 refine sqH ?_; intro hQ6Q hQ6
 refine s1 hF5 6 (str u0) ?_; intro a7 hF8; clear hF5
 refine fcl hF8 hM0 (.int .i64 (bcheckS u0)) 22 #[str u0] (nog rfl _) rfl (by kernel_rfl) (fun _ => by kernel_rfl) (bcheck_fun u0 _ _ hM0.fz) ?_; intro a9 wd11 hF10 hM12; clear hF8 hM0
 refine s1 hF10 4 (.int .i64 (bcheckS u0)) ?_; intro a13 hF14; clear hF10
 refine nlH (hQ6 _ _ ?_); clear hQ6 hQ6Q
 refine sqH ?_; intro hQ15Q hQ15
 refine s1 hF14 8 (.int .i64 (bcheckS u0)) ?_; intro a16 hF17; clear hF14
 refine s1 hF17 9 (.bool ((bcheckS u0) != 0)) ?_; intro a18 hF19; clear hF17
 refine nlH (hQ15 _ _ ?_); clear hQ15 hQ15Q
 refine cd hF19 (t := (bcheckS u0) != 0) (by kernel_rfl) (fun hb20 => ?_) (fun hb20 => ?_)
 · -- yes
  have hp21 := hp.1 hb20; clear hp
  refine sqH ?_; intro hQ22Q hQ22
  refine s1 hF19 10 (.int .i64 (bcheckS u0)) ?_; intro a23 hF24; clear hF19
  refine s1 hF24 2 (.slice none 0 0) ?_; intro a25 hF26; clear hF24
  refine s1 hF26 3 (.int .i64 (bcheckS u0)) ?_; intro a27 hF28; clear hF26
  refine nlH (hQ22 _ _ ?_); clear hQ22 hQ22Q
  refine wp_ret ?_
  refine thr ?_
  have hM29 : Mem w.heap.size [] w Z [.own (tyInt .u8) 5 none 0 ([] : List Int)] Z wd11 := hM12.addNil (tyInt .u8) 5 (by decide); clear hM12
  refine rt (fn := Tryd.f17) (v := .tuple #[.slice none ([] : List Int).length 0, .int .i64 (bcheckS u0)]) hF28 (re2 hF28 (fn := Tryd.f17) rfl (by kernel_rfl) (by kernel_rfl)) ?_
  exact ⟨(([] : List Int), (bcheckS u0)), none, 0, Z, rfl, hp21, hM29.keep (List.Sublist.cons_cons _ (List.Sublist.slnil))⟩
 · -- no
  have hp30 := hp.2 hb20; clear hp
  refine wp_skip ?_
  refine thn ?_
  refine wp_seq ?_
  refine sqH ?_; intro hQ31Q hQ31
  refine s1 hF19 11 (str u0) ?_; intro a32 hF33; clear hF19
  refine s1 hF33 12 (.int .i64 (u0.length : Int)) ?_; intro a34 hF35; clear hF33
  refine s1 hF35 13 (.int .i64 ((u0.length : Int).tmod 8)) ?_; intro a36 hF37; clear hF35
  refine s1 hF37 14 (.bool (((u0.length : Int).tmod 8) != 0)) ?_; intro a38 hF39; clear hF37
  refine nlH (hQ31 _ _ ?_); clear hQ31 hQ31Q
  refine cd hF39 (t := ((u0.length : Int).tmod 8) != 0) (by kernel_rfl) (fun hb40 => ?_) (fun hb40 => ?_)
  · -- yes
   have hp41 := hp30.1 hb40; clear hp30
   refine sqH ?_; intro hQ42Q hQ42
   refine s1 hF39 2 (.slice none 0 0) ?_; intro a43 hF44; clear hF39
   refine s1 hF44 3 (.int .i64 4) ?_; intro a45 hF46; clear hF44
   refine nlH (hQ42 _ _ ?_); clear hQ42 hQ42Q
   refine wp_ret ?_
   refine thr ?_
   have hM47 : Mem w.heap.size [] w Z [.own (tyInt .u8) 5 none 0 ([] : List Int)] Z wd11 := hM12.addNil (tyInt .u8) 5 (by decide); clear hM12
   refine rt (fn := Tryd.f17) (v := .tuple #[.slice none ([] : List Int).length 0, .int .i64 4]) hF46 (re2 hF46 (fn := Tryd.f17) rfl (by kernel_rfl) (by kernel_rfl)) ?_
   exact ⟨(([] : List Int), 4), none, 0, Z, rfl, hp41, hM47.keep (List.Sublist.cons_cons _ (List.Sublist.slnil))⟩
  · -- no
   have hp48 := hp30.2 hb40; clear hp30
   refine wp_skip ?_
   refine thn ?_
   refine sqH ?_; intro hQ49Q hQ49
   refine s1 hF39 5 (.slice none 0 0) ?_; intro a50 hF51; clear hF39
   refine nlH (hQ49 _ _ ?_); clear hQ49 hQ49Q
   refine wp_seq ?_
   refine wp_block ?_
   have hF52 : Fr 28 [] [⟨0, [], str u0⟩, ⟨5, [], .slice none 0 0⟩] a50 := hF51.region (by kernel_rfl) (by kernel_rfl); clear hF51
   have hM54 : Mem w.heap.size [] w Z [.own (tyInt .u8) 5 none 0 ([] : List Int)] Z wd11 := hM12.addNil (tyInt .u8) 5 (by decide); clear hM12
   have hF55 : Fr 28 [] [⟨0, [], str u0⟩, ⟨5, [], .slice none ([] : List Int).length 0⟩] a50 := hF52.region (by kernel_rfl) (by kernel_rfl); clear hF52
   obtain ⟨inv53, mu53, hI58, hr57⟩ := hp48
   refine lp (ι := (List UInt8) × (List Int) × (Option Addr) × Nat) (fun (s : (List UInt8) × (List Int) × (Option Addr) × Nat) => [⟨0, [], str s.1⟩, ⟨5, [], .slice s.2.2.1 s.2.1.length s.2.2.2⟩]) (fun (s : (List UInt8) × (List Int) × (Option Addr) × Nat) => [.own (tyInt .u8) 5 s.2.2.1 s.2.2.2 s.2.1]) (fun (s : (List UInt8) × (List Int) × (Option Addr) × Nat) => Z) (fun (s : (List UInt8) × (List Int) × (Option Addr) × Nat) => inv53 s.1 s.2.1) (fun (s : (List UInt8) × (List Int) × (Option Addr) × Nat) => mu53 s.1 s.2.1) ⟨u0, ([] : List Int), none, 0⟩ hI58 (by exact hF55.region (by kernel_rfl) (by kernel_rfl)) (by exact hM54) ?_
   rintro ⟨x0, x5, aox5, capx5⟩ hI56 a60 wd61 hF62 hM63
   have hF64 : Fr 28 [] [⟨0, [], str x0⟩, ⟨5, [], .slice aox5 x5.length capx5⟩] a60 := hF62; clear hF62 hF55
   have hM65 : Mem w.heap.size [] w Z [.own (tyInt .u8) 5 aox5 capx5 x5] Z wd61 := hM63; clear hM63 hM54
   have hp66 := hr57 x0 x5 hI56
   refine wp_seq ?_
   refine sqH ?_; intro hQ67Q hQ67
   refine s1 hF64 15 (str x0) ?_; intro a68 hF69; clear hF64
   refine s1 hF69 16 (.int .i64 (x0.length : Int)) ?_; intro a70 hF71; clear hF69
   refine s1 hF71 17 (.bool (decide ((x0.length : Int) > 0))) ?_; intro a72 hF73; clear hF71
   refine nlH (hQ67 _ _ ?_); clear hQ67 hQ67Q
   refine cd hF73 (t := decide ((x0.length : Int) > 0)) (by kernel_rfl) (fun hb74 => ?_) (fun hb74 => ?_)
   · -- yes
    have hp75 := hp66.1 hb74; clear hp66
    refine wp_skip ?_
    refine thn ?_
    refine wp_block ?_
    refine sqH ?_; intro hQ76Q hQ76
    refine s1 hF73 18 (.slice aox5 x5.length capx5) ?_; intro a77 hF78; clear hF73
    refine s1 hF78 19 (str x0) ?_; intro a79 hF80; clear hF78
    have hc81 := hp75.1; have hp82 := hp75.2; clear hp75
    refine st hF80 (str (x0.take (8 : Int).toNat)) (nog rfl _) rfl (by kernel_rfl) (strslH_run hF80 (g := []) (k := .i64) rfl (by kernel_rfl) (by kernel_rfl) (by kernel_rfl) hc81 rfl) ?_; intro a83 hF84; clear hF80
    have hc85 := hp82.1; have hp86 := hp82.2; clear hp82
    refine fcl hF84 hM65 (.int .u64 (breadS (x0.take (8 : Int).toNat))) 36 #[str (x0.take (8 : Int).toNat)] (nog rfl _) rfl (by kernel_rfl) (fun _ => by kernel_rfl) (bread_fun (x0.take (8 : Int).toNat) hc85 _ _ hM65.fz) ?_; intro a87 wd89 hF88 hM90; clear hF84 hM65
    refine s1 hF88 22 (.int .u8 (w8 (breadS (x0.take (8 : Int).toNat)))) ?_; intro a91 hF92; clear hF88
    refine sn hF92 hM90 (fun b => .slice (some ⟨b, 0, none⟩) 1 1) [.int .u8 (w8 (breadS (x0.take (8 : Int).toNat)))] 5 (nog rfl _) rfl (by kernel_rfl) (by kernel_rfl) ?_; intro b93 a94 wd96 hF95 hM97; clear hF92 hM90
    have hc98 := hp86.1; have hp99 := hp86.2; clear hp86
    refine ap hF95 hM97 1 (T := (tyInt .u8)) (xs := x5) (ys := [w8 (breadS (x0.take (8 : Int).toNat))]) (ao := aox5) (cap := capx5) (ao2 := (some ⟨b93, 0, none⟩)) (cap2 := 1) (t := 27) (e := 5) (bytes := 1) (nog rfl _) rfl (by kernel_rfl) rfl (by kernel_rfl) (by kernel_rfl) (by kernel_rfl) rfl (Src.row hM97 0 rfl (RepAll.one (T := (tyInt .u8)) (x := (w8 (breadS (x0.take (8 : Int).toNat)))) rfl)) hc98 ?_; intro ao100 cap101 a105 wd102 hnil103 hF106 hM104; clear hF95 hM97
    have hM107 : Mem w.heap.size [] w Z [.row b93 [.int .u8 (w8 (breadS (x0.take (8 : Int).toNat)))] 5, .own (tyInt .u8) 5 ao100 cap101 (x5 ++ [w8 (breadS (x0.take (8 : Int).toNat))])] Z wd102 := hM104; clear hM104
    refine s1 hF106 5 (.slice ao100 (x5 ++ [w8 (breadS (x0.take (8 : Int).toNat))]).length cap101) ?_; intro a108 hF109; clear hF106
    refine nlH (hQ76 _ _ ?_); clear hQ76 hQ76Q
    refine rgH ?_; intro hQ110Q hQ110
    refine s1 hF109 25 (str x0) ?_; intro a111 hF112; clear hF109
    have hc113 := hp99.1; have hp114 := hp99.2; clear hp99
    refine st hF112 (str (x0.drop (8 : Int).toNat)) (nog rfl _) rfl (by kernel_rfl) (strslL_run hF112 (g := []) (k := .i64) rfl (by kernel_rfl) (by kernel_rfl) (by kernel_rfl) hc113 rfl) ?_; intro a115 hF116; clear hF112
    refine s1 hF116 0 (str (x0.drop (8 : Int).toNat)) ?_; intro a117 hF118; clear hF116
    refine nlH (hQ110 _ _ ?_); clear hQ110 hQ110Q
    refine ibn ?_
    refine rd ?_
    exact ⟨⟨x0.drop (8 : Int).toNat, x5 ++ [w8 (breadS (x0.take (8 : Int).toNat))], ao100, cap101⟩, hp114.1, hp114.2, (hF118.region (by kernel_rfl) (by kernel_rfl)).anyβ _ (by kernel_rfl), hM107.keep (List.Sublist.cons _ (List.Sublist.cons_cons _ (List.Sublist.slnil)))⟩
   · -- no
    have hp119 := hp66.2 hb74; clear hp66
    refine wp_exit ?_
    refine thx ?_
    refine thx ?_
    refine ibx ?_
    refine thn ?_
    refine sqH ?_; intro hQ120Q hQ120
    refine s1 hF73 27 (.slice aox5 x5.length capx5) ?_; intro a121 hF122; clear hF73
    refine s1 hF122 2 (.slice aox5 x5.length capx5) ?_; intro a123 hF124; clear hF122
    refine s1 hF124 3 (.int .i64 0) ?_; intro a125 hF126; clear hF124
    refine nlH (hQ120 _ _ ?_); clear hQ120 hQ120Q
    refine wp_ret ?_
    refine rt (fn := Tryd.f17) (v := .tuple #[.slice aox5 x5.length capx5, .int .i64 0]) hF126 (re2 hF126 (fn := Tryd.f17) rfl (by kernel_rfl) (by kernel_rfl)) ?_
    exact ⟨(x5, 0), aox5, capx5, Z, rfl, hp119, hM65.keep (List.Sublist.cons_cons _ (List.Sublist.slnil))⟩

end Go.Proofs.YtfafpnacflcgmaaDoor
