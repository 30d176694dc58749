/- The walks, made by program: each call does what its pure predicate says. -/
import Derived.Test.YtfafpnacflcgmaaDoorPC
import Derived.Test.YtfafpnacflcgmaaDoorWB
set_option linter.unusedVariables false
set_option linter.unusedSimpArgs false
namespace Go.Proofs.YtfafpnacflcgmaaDoor
open Go.Sy Go.RowKit
theorem bnumber_fun (u0 : List UInt8)  (Z : Fz) (w : World)  (hZ : Z.on w) : Calls Tryd.prog 13 #[str u0] w fun e w' => e = .returned (.tuple #[.int .i64 ((bnumberS u0).1), .int .i64 ((bnumberS u0).2)]) ∧ Below w.heap.size w w' :=
  (bnumber_walk u0  Z w  hZ (bnumber_ok u0)).mono fun _ _ ⟨r, he, hk, hb⟩ => ⟨by subst hk; exact he, hb⟩

theorem brow_fun (u0 : Int) (u1 : Int) (hpre : u0 ≤ 9223372036854775807)  (Z : Fz) (w : World)  (hZ : Z.on w) : Calls Tryd.prog 15 #[.int .i64 u0, .int .i64 u1] w fun e w' => e = .returned (.tuple #[str ((browS u0 u1).1), .int .i64 ((browS u0 u1).2)]) ∧ Below w.heap.size w w' :=
  (brow_walk u0 u1  Z w  hZ (brow_ok u0 u1 hpre)).mono fun _ _ ⟨r, he, hk, hb⟩ => ⟨by subst hk; exact he, hb⟩

theorem rtake_fun (u0 : Reader) (u1 : Int) (hpre : Rok u0 ∧ u1 ≤ 9223372036854775807) (b1 : Nat) (B : Nat) (w0 : World) (Z0 : Fz) (Rr : List Res) (Z : Fz) (w : World) (hM0 : Mem B [] w0 Z0 ((.row b1 [str u0.Row, .int .i64 u0.At, .int .i64 u0.Code, .int .u8 u0.c.last, .int .i64 u0.c.n] 80) :: Rr) Z w) (hZ : Z.on w) : Calls Tryd.prog 48 #[.pointer (some ⟨b1, 0, none⟩), .int .i64 u1] w fun e w' => ∃ (Z' : Fz), e = .returned (str (rtakeS u0 u1).1) ∧ Fz.le Z Z' ∧ Mem B [] w0 Z0 ((.row b1 [str (rtakeS u0 u1).2.Row, .int .i64 (rtakeS u0 u1).2.At, .int .i64 (rtakeS u0 u1).2.Code, .int .u8 (rtakeS u0 u1).2.c.last, .int .i64 (rtakeS u0 u1).2.c.n] 80) :: Rr) Z' w' :=
  (rtake_walk u0 u1 b1 B w0 Z0 Rr Z w hM0 hZ (rtake_ok u0 u1 hpre)).mono fun _ _ ⟨r, h0, he, hk, f0, hm⟩ => by subst hk; exact ⟨h0, he, f0, hm⟩

theorem sput_fun (u0 : List UInt8)  (Z : Fz) (w : World)  (hZ : Z.on w) : Calls Tryd.prog 30 #[str u0] w fun e w' => e = .returned (.tuple #[str ((sputS u0).1), .int .i64 ((sputS u0).2)]) ∧ Below w.heap.size w w' :=
  (sput_walk u0  Z w  hZ (sput_ok u0)).mono fun _ _ ⟨r, he, hk, hb⟩ => ⟨by subst hk; exact he, hb⟩

theorem sfixed_fun (u0 : List UInt8) (u1 : Int)  (Z : Fz) (w : World)  (hZ : Z.on w) : Calls Tryd.prog 34 #[str u0, .int .u8 u1] w fun e w' => e = .returned (.tuple #[str ((sfixedS u0 u1).1), .int .i64 ((sfixedS u0 u1).2)]) ∧ Below w.heap.size w w' :=
  (sfixed_walk u0 u1  Z w  hZ (sfixed_ok u0 u1)).mono fun _ _ ⟨r, he, hk, hb⟩ => ⟨by subst hk; exact he, hb⟩

theorem putbits_fun (u0 : List UInt8) (hpre : isRow u0 = true ∧ u0.length ≤ 1000)  (Z : Fz) (w : World)  (hZ : Z.on w) : Calls Tryd.prog 32 #[str u0] w fun e w' => e = .returned (str (putbitsS u0)) ∧ Below w.heap.size w w' :=
  (putbits_walk u0  Z w  hZ (putbits_ok u0 hpre)).mono fun _ _ ⟨r, he, hk, hb⟩ => ⟨by subst hk; exact he, hb⟩

theorem takebits_fun (u0 : List UInt8) (u1 : Int) (hpre : isRow u0 = true ∧ u0.length ≤ 1000 ∧ 0 ≤ u1 ∧ u1 ≤ 1000)  (Z : Fz) (w : World)  (hZ : Z.on w) : Calls Tryd.prog 33 #[str u0, .int .i64 u1] w fun e w' => e = .returned (.tuple #[str ((takebitsS u0 u1).1), .int .i64 ((takebitsS u0 u1).2.1), .int .i64 ((takebitsS u0 u1).2.2)]) ∧ Below w.heap.size w w' :=
  (takebits_walk u0 u1  Z w  hZ (takebits_ok u0 u1 hpre)).mono fun _ _ ⟨r, he, hk, hb⟩ => ⟨by subst hk; exact he, hb⟩

theorem brun_fun (u0 : List UInt8)  (Z : Fz) (w : World)  (hZ : Z.on w) : Calls Tryd.prog 20 #[str u0] w fun e w' => e = .returned (.tuple #[.int .i64 ((brunS u0).1), .int .i64 ((brunS u0).2)]) ∧ Below w.heap.size w w' :=
  (brun_walk u0  Z w  hZ (brun_ok u0)).mono fun _ _ ⟨r, he, hk, hb⟩ => ⟨by subst hk; exact he, hb⟩

set_option maxRecDepth 100000 in
set_option maxHeartbeats 0 in
theorem stake_walk (u0 : List UInt8) (u1 : Int)  (Z : Fz) (w : World)  (hZ : Z.on w) {K : ((List UInt8) × Int × Int) → Prop} (hp : stake_vc u0 u1 K) : Calls Tryd.prog 27 #[str u0, .int .i64 u1] w fun e w' => ∃ r : (List UInt8) × Int × Int, e = .returned (.tuple #[str r.1, .int .i64 r.2.1, .int .i64 r.2.2]) ∧ K r ∧ Below w.heap.size w w' := by
 refine enter0 Tryd.func27 rfl rfl (by kernel_rfl) ?_; intro a0 hF0; have hM0 := Mem.start w Z hZ; have hle0 := Fz.le.refl Z
 refine sqH ?_; intro hQ1Q hQ1
 refine s1 hF0 4 (str []) ?_; intro a2 hF3; clear hF0
 refine s1 hF3 5 (.int .i64 0) ?_; intro a4 hF5; clear hF3
 refine s1 hF5 6 (.int .i64 0) ?_; intro a6 hF7; clear hF5
 refine nlH (hQ1 _ _ ?_); clear hQ1 hQ1Q
 refine wp_seq ?_
 refine sqH ?_; intro hQ8Q hQ8
 refine s1 hF7 10 (str u0) ?_; intro a9 hF10; clear hF7
 refine fcl hF10 hM0 (.int .i64 (bcheckS u0)) 22 #[str u0] (nog rfl _) rfl (by kernel_rfl) (fun _ => by kernel_rfl) (bcheck_fun u0 _ _ hM0.fz) ?_; intro a11 wd13 hF12 hM14; clear hF10 hM0
 refine s1 hF12 7 (.int .i64 (bcheckS u0)) ?_; intro a15 hF16; clear hF12
 refine nlH (hQ8 _ _ ?_); clear hQ8 hQ8Q
 refine sqH ?_; intro hQ17Q hQ17
 refine s1 hF16 12 (.int .i64 (bcheckS u0)) ?_; intro a18 hF19; clear hF16
 refine s1 hF19 13 (.bool ((bcheckS u0) != 0)) ?_; intro a20 hF21; clear hF19
 refine nlH (hQ17 _ _ ?_); clear hQ17 hQ17Q
 refine cd hF21 (t := (bcheckS u0) != 0) (by kernel_rfl) (fun hb22 => ?_) (fun hb22 => ?_)
 · -- yes
  have hp23 := hp.1 hb22; clear hp
  refine sqH ?_; intro hQ24Q hQ24
  refine s1 hF21 14 (.int .i64 (bcheckS u0)) ?_; intro a25 hF26; clear hF21
  refine s1 hF26 4 (str []) ?_; intro a27 hF28; clear hF26
  refine s1 hF28 5 (.int .i64 0) ?_; intro a29 hF30; clear hF28
  refine s1 hF30 6 (.int .i64 (bcheckS u0)) ?_; intro a31 hF32; clear hF30
  refine nlH (hQ24 _ _ ?_); clear hQ24 hQ24Q
  refine wp_ret ?_
  refine thr ?_
  refine rt (fn := Tryd.f27) (v := .tuple #[str [], .int .i64 0, .int .i64 (bcheckS u0)]) hF32 (re3 hF32 (fn := Tryd.f27) rfl (by kernel_rfl) (by kernel_rfl) (by kernel_rfl)) ?_
  exact ⟨([], 0, (bcheckS u0)), rfl, hp23, hM14.below⟩
 · -- no
  have hp33 := hp.2 hb22; clear hp
  refine wp_skip ?_
  refine thn ?_
  refine wp_seq ?_
  refine sqH ?_; intro hQ34Q hQ34
  refine s1 hF21 15 (.int .i64 u1) ?_; intro a35 hF36; clear hF21
  refine s1 hF36 16 (.bool (decide (u1 < 0))) ?_; intro a37 hF38; clear hF36
  refine s1 hF38 17 (.bool (decide (u1 < 0))) ?_; intro a39 hF40; clear hF38
  have hF41 := hF40.atom ((decide (u1 < 0)) == false) (by kernel_rfl); clear hF40
  refine gp hF41 18 0 [] (decide (u1 < 0)) (.int .i64 u1) rfl rfl ?_; intro a42 hF43; clear hF41
  refine gp hF43 19 0 [] (decide (u1 < 0)) (.bool (decide (u1 > 1000))) rfl rfl ?_; intro a44 hF45; clear hF43
  refine st hF45 (.bool ((decide (u1 < 0)) || (decide (u1 > 1000)))) (nog rfl _) rfl (by kernel_rfl) (pk_or hF45 (g := []) (m := 0) (b := decide (u1 < 0)) (v := decide (u1 > 1000)) rfl (by kernel_rfl) (by kernel_rfl) (by kernel_rfl) rfl) ?_; intro a46 hF47; clear hF45
  refine nlH (hQ34 _ _ ?_); clear hQ34 hQ34Q
  refine cd hF47 (t := (decide (u1 < 0)) || (decide (u1 > 1000))) (by kernel_rfl) (fun hb48 => ?_) (fun hb48 => ?_)
  · -- yes
   have hp49 := hp33.1 hb48; clear hp33
   have hF50 : Fr 33 [] [] a46 := hF47.region (by kernel_rfl) (by kernel_rfl); clear hF47
   refine sqH ?_; intro hQ51Q hQ51
   refine s1 hF50 4 (str []) ?_; intro a52 hF53; clear hF50
   refine s1 hF53 5 (.int .i64 0) ?_; intro a54 hF55; clear hF53
   refine s1 hF55 6 (.int .i64 3) ?_; intro a56 hF57; clear hF55
   refine nlH (hQ51 _ _ ?_); clear hQ51 hQ51Q
   refine wp_ret ?_
   refine thr ?_
   refine rt (fn := Tryd.f27) (v := .tuple #[str [], .int .i64 0, .int .i64 3]) hF57 (re3 hF57 (fn := Tryd.f27) rfl (by kernel_rfl) (by kernel_rfl) (by kernel_rfl)) ?_
   exact ⟨([], 0, 3), rfl, hp49, hM14.below⟩
  · -- no
   have hp58 := hp33.2 hb48; clear hp33
   refine wp_skip ?_
   refine thn ?_
   have hF59 : Fr 33 [] [⟨0, [], str u0⟩, ⟨1, [], .int .i64 u1⟩] a46 := hF47.region (by kernel_rfl) (by kernel_rfl); clear hF47
   refine sqH ?_; intro hQ60Q hQ60
   refine s1 hF59 21 (str u0) ?_; intro a61 hF62; clear hF59
   refine s1 hF62 22 (.agg #[str u0, .int .i64 0, .int .i64 0, .int .u8 0, .int .i64 0]) ?_; intro a63 hF64; clear hF62
   refine sn hF64 hM14 (fun b => .pointer (some ⟨b, 0, none⟩)) [str [], .int .i64 0, .int .i64 0, .int .u8 0, .int .i64 0] 80 (nog rfl _) rfl (by kernel_rfl) (by kernel_rfl) ?_; intro b65 a66 wd68 hF67 hM69; clear hF64 hM14
   refine sr hF67 hM69 0 [str u0, .int .i64 0, .int .i64 0, .int .u8 0, .int .i64 0] (b := b65) (off := 0) (cs := [str [], .int .i64 0, .int .i64 0, .int .u8 0, .int .i64 0]) (ty := 80) (u := .agg #[str u0, .int .i64 0, .int .i64 0, .int .u8 0, .int .i64 0]) (nog rfl _) rfl rfl (by kernel_rfl) (by kernel_rfl) (by kernel_rfl) (by kernel_rfl) (by kernel_rfl) (by kernel_rfl) (by kernel_rfl) ?_; intro wd70 hM71; clear hM69
   have hM72 : Mem w.heap.size [] w Z [.row b65 [str u0, .int .i64 0, .int .i64 0, .int .u8 0, .int .i64 0] 80] Z wd70 := hM71; clear hM71
   refine nlH (hQ60 _ _ ?_); clear hQ60 hQ60Q
   refine sqH ?_; intro hQ73Q hQ73
   refine s1 hF67 23 (.int .i64 u1) ?_; intro a74 hF75; clear hF67
   have hc76 := hp58.1; have hp77 := hp58.2; clear hp58
   refine cl hF75 48 #[.pointer (some ⟨b65, 0, none⟩), .int .i64 u1] (nog rfl _) rfl (by kernel_rfl) (by kernel_rfl) ?_
   obtain ⟨r82, hr83⟩ : ∃ x, (rtakeS (⟨u0, 0, 0, (⟨0, 0⟩ : Counter)⟩ : Reader) u1) = x := ⟨_, rfl⟩; have hp84 := hp77 r82 hr83; clear hp77
   have h9 := rtake_fun (⟨u0, 0, 0, (⟨0, 0⟩ : Counter)⟩ : Reader) u1 hc76 b65 _ _ _ _ _ _ hM72 hM72.fz; rw [hr83] at h9; refine h9.mono ?_; clear h9; rintro _ wd78 ⟨Z86, rfl, hle87, hm⟩; refine ⟨_, rfl, ?_⟩; intro a79 hF80; have hM81 := hm; clear hm hM72 hF75
   replace hle0 := Fz.le.trans hle0 hle87
   have hM88 : Mem w.heap.size [] w Z [.row b65 [str r82.2.Row, .int .i64 r82.2.At, .int .i64 r82.2.Code, .int .u8 r82.2.c.last, .int .i64 r82.2.c.n] 80] Z86 wd78 := hM81; clear hM81
   refine s1 hF80 9 (str r82.1) ?_; intro a89 hF90; clear hF80
   refine nlH (hQ73 _ _ ?_); clear hQ73 hQ73Q
   refine wp_seq ?_
   refine sqH ?_; intro hQ91Q hQ91
   refine s1 hF90 25 (.pointer (some ⟨b65, 2, none⟩)) ?_; intro a92 hF93; clear hF90
   refine l1 hF93 hM88 26 0 2 (.int .i64 r82.2.Code) rfl rfl ?_; intro a94 hF95; clear hF93
   refine s1 hF95 27 (.bool (r82.2.Code != 0)) ?_; intro a96 hF97; clear hF95
   refine nlH (hQ91 _ _ ?_); clear hQ91 hQ91Q
   refine cd hF97 (t := r82.2.Code != 0) (by kernel_rfl) (fun hb98 => ?_) (fun hb98 => ?_)
   · -- yes
    have hp99 := hp84.1 hb98; clear hp84
    have hF100 : Fr 33 [] [⟨8, [], .pointer (some ⟨b65, 0, none⟩)⟩] a96 := hF97.region (by kernel_rfl) (by kernel_rfl); clear hF97
    refine sqQH mixed (by kernel_rfl) hM88 ?_; intro hQ101Q hQ101
    refine q1 hF100 28 (.pointer (some ⟨b65, 2, none⟩)) ?_; intro a103 hF104; clear hF100
    refine qst hF104 (.int .i64 r82.2.Code) (nog rfl _) rfl (by kernel_rfl) (fun v105 hC => ld hF104 hC 0 (g := []) (b := b65) (off := 2) (cs := [str r82.2.Row, .int .i64 r82.2.At, .int .i64 r82.2.Code, .int .u8 r82.2.c.last, .int .i64 r82.2.c.n]) (ty := 80) rfl (by kernel_rfl) (by kernel_rfl) (by kernel_rfl) (by kernel_rfl) rfl) ?_; intro a106 hF107; clear hF104
    refine q1 hF107 4 (str []) ?_; intro a109 hF110; clear hF107
    refine q1 hF110 5 (.int .i64 0) ?_; intro a112 hF113; clear hF110
    refine q1 hF113 6 (.int .i64 r82.2.Code) ?_; intro a115 hF116; clear hF113
    refine qnl (hQ101 _ ?_); clear hQ101 hQ101Q; intro wd117 hM118; clear hM88
    refine wp_ret ?_
    refine thr ?_
    refine rt (fn := Tryd.f27) (v := .tuple #[str [], .int .i64 0, .int .i64 r82.2.Code]) hF116 (re3 hF116 (fn := Tryd.f27) rfl (by kernel_rfl) (by kernel_rfl) (by kernel_rfl)) ?_
    exact ⟨([], 0, r82.2.Code), rfl, hp99, hM118.below⟩
   · -- no
    have hp119 := hp84.2 hb98; clear hp84
    refine wp_skip ?_
    refine thn ?_
    have hF120 : Fr 33 [] [⟨8, [], .pointer (some ⟨b65, 0, none⟩)⟩, ⟨9, [], str r82.1⟩] a96 := hF97.region (by kernel_rfl) (by kernel_rfl); clear hF97
    refine sqQH mixed (by kernel_rfl) hM88 ?_; intro hQ121Q hQ121
    refine q1 hF120 30 (str r82.1) ?_; intro a123 hF124; clear hF120
    refine q1 hF124 31 (.pointer (some ⟨b65, 1, none⟩)) ?_; intro a126 hF127; clear hF124
    refine qst hF127 (.int .i64 r82.2.At) (nog rfl _) rfl (by kernel_rfl) (fun v128 hC => ld hF127 hC 0 (g := []) (b := b65) (off := 1) (cs := [str r82.2.Row, .int .i64 r82.2.At, .int .i64 r82.2.Code, .int .u8 r82.2.c.last, .int .i64 r82.2.c.n]) (ty := 80) rfl (by kernel_rfl) (by kernel_rfl) (by kernel_rfl) (by kernel_rfl) rfl) ?_; intro a129 hF130; clear hF127
    refine q1 hF130 4 (str r82.1) ?_; intro a132 hF133; clear hF130
    refine q1 hF133 5 (.int .i64 r82.2.At) ?_; intro a135 hF136; clear hF133
    refine q1 hF136 6 (.int .i64 0) ?_; intro a138 hF139; clear hF136
    refine qnl (hQ121 _ ?_); clear hQ121 hQ121Q; intro wd140 hM141; clear hM88
    refine wp_ret ?_
    refine rt (fn := Tryd.f27) (v := .tuple #[str r82.1, .int .i64 r82.2.At, .int .i64 0]) hF139 (re3 hF139 (fn := Tryd.f27) rfl (by kernel_rfl) (by kernel_rfl) (by kernel_rfl)) ?_
    exact ⟨(r82.1, r82.2.At, 0), rfl, hp119, hM141.below⟩

set_option maxRecDepth 100000 in
set_option maxHeartbeats 0 in
theorem rowed_walk   (Z : Fz) (w : World)  (hZ : Z.on w) {K : Bool → Prop} (hp : rowed_vc  K) : Calls Tryd.prog 14 #[] w fun e w' => ∃ r : Bool, e = .returned (.bool r) ∧ K r ∧ Below w.heap.size w w' := by
 refine enter0 Tryd.func14 rfl rfl (by kernel_rfl) ?_; intro a0 hF0; have hM0 := Mem.start w Z hZ; have hle0 := Fz.le.refl Z
 refine sqH ?_; intro hQ1Q hQ1
 refine s1 hF0 0 (.bool false) ?_; intro a2 hF3; clear hF0
 refine nlH (hQ1 _ _ ?_); clear hQ1 hQ1Q
 refine sqH ?_; intro hQ4Q hQ4
 refine fcl hF3 hM0 (.tuple #[.int .i64 ((bnumberS ([49, 48, 49, 48] : List UInt8)).1), .int .i64 ((bnumberS ([49, 48, 49, 48] : List UInt8)).2)]) 13 #[str ([49, 48, 49, 48] : List UInt8)] (nog rfl _) rfl (by kernel_rfl) (fun _ => by kernel_rfl) (bnumber_fun ([49, 48, 49, 48] : List UInt8) _ _ hM0.fz) ?_; intro a5 wd7 hF6 hM8; clear hF3 hM0
 refine s1 hF6 5 (.tuple #[.int .i64 ((bnumberS ([49, 48, 49, 48] : List UInt8)).1), .int .i64 ((bnumberS ([49, 48, 49, 48] : List UInt8)).2)]) ?_; intro a9 hF10; clear hF6
 refine s1 hF10 7 (.int .i64 ((bnumberS ([49, 48, 49, 48] : List UInt8)).1)) ?_; intro a11 hF12; clear hF10
 refine s1 hF12 8 (.int .i64 ((bnumberS ([49, 48, 49, 48] : List UInt8)).2)) ?_; intro a13 hF14; clear hF12
 refine s1 hF14 1 (.int .i64 ((bnumberS ([49, 48, 49, 48] : List UInt8)).1)) ?_; intro a15 hF16; clear hF14
 refine s1 hF16 2 (.int .i64 ((bnumberS ([49, 48, 49, 48] : List UInt8)).2)) ?_; intro a17 hF18; clear hF16
 refine nlH (hQ4 _ _ ?_); clear hQ4 hQ4Q
 refine sqH ?_; intro hQ19Q hQ19
 have hc20 := hp.1; have hp21 := hp.2; clear hp
 refine fcl hF18 hM8 (.tuple #[str ((browS 10 5).1), .int .i64 ((browS 10 5).2)]) 15 #[.int .i64 10, .int .i64 5] (nog rfl _) rfl (by kernel_rfl) (fun _ => by kernel_rfl) (brow_fun 10 5 hc20 _ _ hM8.fz) ?_; intro a22 wd24 hF23 hM25; clear hF18 hM8
 refine s1 hF23 9 (.tuple #[str ((browS 10 5).1), .int .i64 ((browS 10 5).2)]) ?_; intro a26 hF27; clear hF23
 refine s1 hF27 11 (str ((browS 10 5).1)) ?_; intro a28 hF29; clear hF27
 refine s1 hF29 12 (.int .i64 ((browS 10 5).2)) ?_; intro a30 hF31; clear hF29
 refine s1 hF31 3 (str ((browS 10 5).1)) ?_; intro a32 hF33; clear hF31
 refine s1 hF33 4 (.int .i64 ((browS 10 5).2)) ?_; intro a34 hF35; clear hF33
 refine nlH (hQ19 _ _ ?_); clear hQ19 hQ19Q
 refine sqH ?_; intro hQ36Q hQ36
 refine s1 hF35 13 (.int .i64 ((bnumberS ([49, 48, 49, 48] : List UInt8)).2)) ?_; intro a37 hF38; clear hF35
 refine s1 hF38 14 (.bool (((bnumberS ([49, 48, 49, 48] : List UInt8)).2) == 0)) ?_; intro a39 hF40; clear hF38
 refine s1 hF40 15 (.bool (((bnumberS ([49, 48, 49, 48] : List UInt8)).2) == 0)) ?_; intro a41 hF42; clear hF40
 have hF43 := hF42.atom ((((bnumberS ([49, 48, 49, 48] : List UInt8)).2) == 0) == true) (by kernel_rfl); clear hF42
 refine gp hF43 16 0 [] (((bnumberS ([49, 48, 49, 48] : List UInt8)).2) == 0) (.int .i64 ((browS 10 5).2)) rfl rfl ?_; intro a44 hF45; clear hF43
 refine gp hF45 17 0 [] (((bnumberS ([49, 48, 49, 48] : List UInt8)).2) == 0) (.bool (((browS 10 5).2) == 0)) rfl rfl ?_; intro a46 hF47; clear hF45
 refine st hF47 (.bool ((((bnumberS ([49, 48, 49, 48] : List UInt8)).2) == 0) && (((browS 10 5).2) == 0))) (nog rfl _) rfl (by kernel_rfl) (pk_and hF47 (g := []) (m := 0) (b := ((bnumberS ([49, 48, 49, 48] : List UInt8)).2) == 0) (v := ((browS 10 5).2) == 0) rfl (by kernel_rfl) (by kernel_rfl) (by kernel_rfl) rfl) ?_; intro a48 hF49; clear hF47
 refine s1 hF49 19 (.bool ((((bnumberS ([49, 48, 49, 48] : List UInt8)).2) == 0) && (((browS 10 5).2) == 0))) ?_; intro a50 hF51; clear hF49
 have hF52 := hF51.atom (((((bnumberS ([49, 48, 49, 48] : List UInt8)).2) == 0) && (((browS 10 5).2) == 0)) == true) (by kernel_rfl); clear hF51
 refine gp hF52 20 1 [] ((((bnumberS ([49, 48, 49, 48] : List UInt8)).2) == 0) && (((browS 10 5).2) == 0)) (.int .i64 ((bnumberS ([49, 48, 49, 48] : List UInt8)).1)) rfl rfl ?_; intro a53 hF54; clear hF52
 refine gp hF54 21 1 [] ((((bnumberS ([49, 48, 49, 48] : List UInt8)).2) == 0) && (((browS 10 5).2) == 0)) (.bool (((bnumberS ([49, 48, 49, 48] : List UInt8)).1) == 10)) rfl rfl ?_; intro a55 hF56; clear hF54
 refine st hF56 (.bool (((((bnumberS ([49, 48, 49, 48] : List UInt8)).2) == 0) && (((browS 10 5).2) == 0)) && (((bnumberS ([49, 48, 49, 48] : List UInt8)).1) == 10))) (nog rfl _) rfl (by kernel_rfl) (pk_and hF56 (g := []) (m := 1) (b := (((bnumberS ([49, 48, 49, 48] : List UInt8)).2) == 0) && (((browS 10 5).2) == 0)) (v := ((bnumberS ([49, 48, 49, 48] : List UInt8)).1) == 10) rfl (by kernel_rfl) (by kernel_rfl) (by kernel_rfl) rfl) ?_; intro a57 hF58; clear hF56
 refine s1 hF58 23 (.bool (((((bnumberS ([49, 48, 49, 48] : List UInt8)).2) == 0) && (((browS 10 5).2) == 0)) && (((bnumberS ([49, 48, 49, 48] : List UInt8)).1) == 10))) ?_; intro a59 hF60; clear hF58
 have hF61 := hF60.atom ((((((bnumberS ([49, 48, 49, 48] : List UInt8)).2) == 0) && (((browS 10 5).2) == 0)) && (((bnumberS ([49, 48, 49, 48] : List UInt8)).1) == 10)) == true) (by kernel_rfl); clear hF60
 refine gp hF61 24 2 [] (((((bnumberS ([49, 48, 49, 48] : List UInt8)).2) == 0) && (((browS 10 5).2) == 0)) && (((bnumberS ([49, 48, 49, 48] : List UInt8)).1) == 10)) (str ((browS 10 5).1)) rfl rfl ?_; intro a62 hF63; clear hF61
 refine gd hF63 (.bool (((browS 10 5).1) == ([48, 49, 48, 49, 48] : List UInt8))) (m := 2) (cj := []) (bj := ((((bnumberS ([49, 48, 49, 48] : List UInt8)).2) == 0) && (((browS 10 5).2) == 0)) && (((bnumberS ([49, 48, 49, 48] : List UInt8)).1) == 10)) rfl rfl (by kernel_rfl) rfl (by kernel_rfl) (by kernel_rfl) (by kernel_rfl) (fun hg => strcmp_run hF63 (g := [2]) (op := .eql) rfl (by kernel_rfl) (by kernel_rfl) (by decide) hg) ?_; intro a64 hF65; clear hF63
 refine st hF65 (.bool ((((((bnumberS ([49, 48, 49, 48] : List UInt8)).2) == 0) && (((browS 10 5).2) == 0)) && (((bnumberS ([49, 48, 49, 48] : List UInt8)).1) == 10)) && (((browS 10 5).1) == ([48, 49, 48, 49, 48] : List UInt8)))) (nog rfl _) rfl (by kernel_rfl) (pk_and hF65 (g := []) (m := 2) (b := ((((bnumberS ([49, 48, 49, 48] : List UInt8)).2) == 0) && (((browS 10 5).2) == 0)) && (((bnumberS ([49, 48, 49, 48] : List UInt8)).1) == 10)) (v := ((browS 10 5).1) == ([48, 49, 48, 49, 48] : List UInt8)) rfl (by kernel_rfl) (by kernel_rfl) (by kernel_rfl) rfl) ?_; intro a66 hF67; clear hF65
 refine s1 hF67 0 (.bool ((((((bnumberS ([49, 48, 49, 48] : List UInt8)).2) == 0) && (((browS 10 5).2) == 0)) && (((bnumberS ([49, 48, 49, 48] : List UInt8)).1) == 10)) && (((browS 10 5).1) == ([48, 49, 48, 49, 48] : List UInt8)))) ?_; intro a68 hF69; clear hF67
 refine nlH (hQ36 _ _ ?_); clear hQ36 hQ36Q
 refine wp_ret ?_
 refine rt (fn := Tryd.f14) (v := .bool ((((((bnumberS ([49, 48, 49, 48] : List UInt8)).2) == 0) && (((browS 10 5).2) == 0)) && (((bnumberS ([49, 48, 49, 48] : List UInt8)).1) == 10)) && (((browS 10 5).1) == ([48, 49, 48, 49, 48] : List UInt8)))) hF69 (re1 hF69 (fn := Tryd.f14) rfl (by kernel_rfl)) ?_
 exact ⟨(((((bnumberS ([49, 48, 49, 48] : List UInt8)).2) == 0) && (((browS 10 5).2) == 0)) && (((bnumberS ([49, 48, 49, 48] : List UInt8)).1) == 10)) && (((browS 10 5).1) == ([48, 49, 48, 49, 48] : List UInt8)), rfl, hp21, hM25.below⟩

set_option maxRecDepth 100000 in
set_option maxHeartbeats 0 in
theorem bbytes_walk (u0 : List UInt8)  (Z : Fz) (w : World)  (hZ : Z.on w) {K : ((List Int) × Int) → Prop} (hp : bbytes_vc u0 K) : Calls Tryd.prog 17 #[str u0] w fun e w' => ∃ (r : (List Int) × Int) (ao1001 : Option Addr) (cap1002 : Nat) (Z' : Fz), e = .returned (.tuple #[.slice ao1001 r.1.length cap1002, .int .i64 r.2]) ∧ K r ∧ Mem w.heap.size [] w Z [.own (tyInt .u8) 5 ao1001 cap1002 r.1] Z' w' := by
 refine enter0 Tryd.func17 rfl rfl (by kernel_rfl) ?_; intro a0 hF0; have hM0 := Mem.start w Z hZ; have hle0 := Fz.le.refl Z
 refine sqH ?_; intro hQ1Q hQ1
 refine s1 hF0 2 (.slice none 0 0) ?_; intro a2 hF3; clear hF0
 refine s1 hF3 3 (.int .i64 0) ?_; intro a4 hF5; clear hF3
 refine nlH (hQ1 _ _ ?_); clear hQ1 hQ1Q
 refine wp_seq ?_
 refine sqH ?_; intro hQ6Q hQ6
 refine s1 hF5 6 (str u0) ?_; intro a7 hF8; clear hF5
 refine fcl hF8 hM0 (.int .i64 (bcheckS u0)) 22 #[str u0] (nog rfl _) rfl (by kernel_rfl) (fun _ => by kernel_rfl) (bcheck_fun u0 _ _ hM0.fz) ?_; intro a9 wd11 hF10 hM12; clear hF8 hM0
 refine s1 hF10 4 (.int .i64 (bcheckS u0)) ?_; intro a13 hF14; clear hF10
 refine nlH (hQ6 _ _ ?_); clear hQ6 hQ6Q
 refine sqH ?_; intro hQ15Q hQ15
 refine s1 hF14 8 (.int .i64 (bcheckS u0)) ?_; intro a16 hF17; clear hF14
 refine s1 hF17 9 (.bool ((bcheckS u0) != 0)) ?_; intro a18 hF19; clear hF17
 refine nlH (hQ15 _ _ ?_); clear hQ15 hQ15Q
 refine cd hF19 (t := (bcheckS u0) != 0) (by kernel_rfl) (fun hb20 => ?_) (fun hb20 => ?_)
 · -- yes
  have hp21 := hp.1 hb20; clear hp
  refine sqH ?_; intro hQ22Q hQ22
  refine s1 hF19 10 (.int .i64 (bcheckS u0)) ?_; intro a23 hF24; clear hF19
  refine s1 hF24 2 (.slice none 0 0) ?_; intro a25 hF26; clear hF24
  refine s1 hF26 3 (.int .i64 (bcheckS u0)) ?_; intro a27 hF28; clear hF26
  refine nlH (hQ22 _ _ ?_); clear hQ22 hQ22Q
  refine wp_ret ?_
  refine thr ?_
  have hM29 : Mem w.heap.size [] w Z [.own (tyInt .u8) 5 none 0 ([] : List Int)] Z wd11 := hM12.addNil (tyInt .u8) 5 (by decide); clear hM12
  refine rt (fn := Tryd.f17) (v := .tuple #[.slice none ([] : List Int).length 0, .int .i64 (bcheckS u0)]) hF28 (re2 hF28 (fn := Tryd.f17) rfl (by kernel_rfl) (by kernel_rfl)) ?_
  exact ⟨(([] : List Int), (bcheckS u0)), none, 0, Z, rfl, hp21, hM29.keep (List.Sublist.cons_cons _ (List.Sublist.slnil))⟩
 · -- no
  have hp30 := hp.2 hb20; clear hp
  refine wp_skip ?_
  refine thn ?_
  refine wp_seq ?_
  refine sqH ?_; intro hQ31Q hQ31
  refine s1 hF19 11 (str u0) ?_; intro a32 hF33; clear hF19
  refine s1 hF33 12 (.int .i64 (u0.length : Int)) ?_; intro a34 hF35; clear hF33
  refine s1 hF35 13 (.int .i64 ((u0.length : Int).tmod 8)) ?_; intro a36 hF37; clear hF35
  refine s1 hF37 14 (.bool (((u0.length : Int).tmod 8) != 0)) ?_; intro a38 hF39; clear hF37
  refine nlH (hQ31 _ _ ?_); clear hQ31 hQ31Q
  refine cd hF39 (t := ((u0.length : Int).tmod 8) != 0) (by kernel_rfl) (fun hb40 => ?_) (fun hb40 => ?_)
  · -- yes
   have hp41 := hp30.1 hb40; clear hp30
   refine sqH ?_; intro hQ42Q hQ42
   refine s1 hF39 2 (.slice none 0 0) ?_; intro a43 hF44; clear hF39
   refine s1 hF44 3 (.int .i64 4) ?_; intro a45 hF46; clear hF44
   refine nlH (hQ42 _ _ ?_); clear hQ42 hQ42Q
   refine wp_ret ?_
   refine thr ?_
   have hM47 : Mem w.heap.size [] w Z [.own (tyInt .u8) 5 none 0 ([] : List Int)] Z wd11 := hM12.addNil (tyInt .u8) 5 (by decide); clear hM12
   refine rt (fn := Tryd.f17) (v := .tuple #[.slice none ([] : List Int).length 0, .int .i64 4]) hF46 (re2 hF46 (fn := Tryd.f17) rfl (by kernel_rfl) (by kernel_rfl)) ?_
   exact ⟨(([] : List Int), 4), none, 0, Z, rfl, hp41, hM47.keep (List.Sublist.cons_cons _ (List.Sublist.slnil))⟩
  · -- no
   have hp48 := hp30.2 hb40; clear hp30
   refine wp_skip ?_
   refine thn ?_
   refine sqH ?_; intro hQ49Q hQ49
   refine s1 hF39 5 (.slice none 0 0) ?_; intro a50 hF51; clear hF39
   refine nlH (hQ49 _ _ ?_); clear hQ49 hQ49Q
   refine wp_seq ?_
   refine wp_block ?_
   have hF52 : Fr 28 [] [⟨0, [], str u0⟩, ⟨5, [], .slice none 0 0⟩] a50 := hF51.region (by kernel_rfl) (by kernel_rfl); clear hF51
   have hM54 : Mem w.heap.size [] w Z [.own (tyInt .u8) 5 none 0 ([] : List Int)] Z wd11 := hM12.addNil (tyInt .u8) 5 (by decide); clear hM12
   have hF55 : Fr 28 [] [⟨0, [], str u0⟩, ⟨5, [], .slice none ([] : List Int).length 0⟩] a50 := hF52.region (by kernel_rfl) (by kernel_rfl); clear hF52
   obtain ⟨inv53, mu53, hI58, hr57⟩ := hp48
   refine lp (ι := (List UInt8) × (List Int) × (Option Addr) × Nat) (fun (s : (List UInt8) × (List Int) × (Option Addr) × Nat) => [⟨0, [], str s.1⟩, ⟨5, [], .slice s.2.2.1 s.2.1.length s.2.2.2⟩]) (fun (s : (List UInt8) × (List Int) × (Option Addr) × Nat) => [.own (tyInt .u8) 5 s.2.2.1 s.2.2.2 s.2.1]) (fun (s : (List UInt8) × (List Int) × (Option Addr) × Nat) => Z) (fun (s : (List UInt8) × (List Int) × (Option Addr) × Nat) => inv53 s.1 s.2.1) (fun (s : (List UInt8) × (List Int) × (Option Addr) × Nat) => mu53 s.1 s.2.1) ⟨u0, ([] : List Int), none, 0⟩ hI58 (by exact hF55.region (by kernel_rfl) (by kernel_rfl)) (by exact hM54) ?_
   rintro ⟨x0, x5, aox5, capx5⟩ hI56 a60 wd61 hF62 hM63
   have hF64 : Fr 28 [] [⟨0, [], str x0⟩, ⟨5, [], .slice aox5 x5.length capx5⟩] a60 := hF62; clear hF62 hF55
   have hM65 : Mem w.heap.size [] w Z [.own (tyInt .u8) 5 aox5 capx5 x5] Z wd61 := hM63; clear hM63 hM54
   have hp66 := hr57 x0 x5 hI56
   refine wp_seq ?_
   refine sqH ?_; intro hQ67Q hQ67
   refine s1 hF64 15 (str x0) ?_; intro a68 hF69; clear hF64
   refine s1 hF69 16 (.int .i64 (x0.length : Int)) ?_; intro a70 hF71; clear hF69
   refine s1 hF71 17 (.bool (decide ((x0.length : Int) > 0))) ?_; intro a72 hF73; clear hF71
   refine nlH (hQ67 _ _ ?_); clear hQ67 hQ67Q
   refine cd hF73 (t := decide ((x0.length : Int) > 0)) (by kernel_rfl) (fun hb74 => ?_) (fun hb74 => ?_)
   · -- yes
    have hp75 := hp66.1 hb74; clear hp66
    refine wp_skip ?_
    refine thn ?_
    refine wp_block ?_
    refine sqH ?_; intro hQ76Q hQ76
    refine s1 hF73 18 (.slice aox5 x5.length capx5) ?_; intro a77 hF78; clear hF73
    refine s1 hF78 19 (str x0) ?_; intro a79 hF80; clear hF78
    have hc81 := hp75.1; have hp82 := hp75.2; clear hp75
    refine st hF80 (str (x0.take (8 : Int).toNat)) (nog rfl _) rfl (by kernel_rfl) (strslH_run hF80 (g := []) (k := .i64) rfl (by kernel_rfl) (by kernel_rfl) (by kernel_rfl) hc81 rfl) ?_; intro a83 hF84; clear hF80
    have hc85 := hp82.1; have hp86 := hp82.2; clear hp82
    refine fcl hF84 hM65 (.int .u64 (breadS (x0.take (8 : Int).toNat))) 36 #[str (x0.take (8 : Int).toNat)] (nog rfl _) rfl (by kernel_rfl) (fun _ => by kernel_rfl) (bread_fun (x0.take (8 : Int).toNat) hc85 _ _ hM65.fz) ?_; intro a87 wd89 hF88 hM90; clear hF84 hM65
    refine s1 hF88 22 (.int .u8 (w8 (breadS (x0.take (8 : Int).toNat)))) ?_; intro a91 hF92; clear hF88
    refine sn hF92 hM90 (fun b => .slice (some ⟨b, 0, none⟩) 1 1) [.int .u8 (w8 (breadS (x0.take (8 : Int).toNat)))] 5 (nog rfl _) rfl (by kernel_rfl) (by kernel_rfl) ?_; intro b93 a94 wd96 hF95 hM97; clear hF92 hM90
    have hc98 := hp86.1; have hp99 := hp86.2; clear hp86
    refine ap hF95 hM97 1 (T := (tyInt .u8)) (xs := x5) (ys := [w8 (breadS (x0.take (8 : Int).toNat))]) (ao := aox5) (cap := capx5) (ao2 := (some ⟨b93, 0, none⟩)) (cap2 := 1) (t := 27) (e := 5) (bytes := 1) (nog rfl _) rfl (by kernel_rfl) rfl (by kernel_rfl) (by kernel_rfl) (by kernel_rfl) rfl (Src.row hM97 0 rfl (RepAll.one (T := (tyInt .u8)) (x := (w8 (breadS (x0.take (8 : Int).toNat)))) rfl)) hc98 ?_; intro ao100 cap101 a105 wd102 hnil103 hF106 hM104; clear hF95 hM97
    have hM107 : Mem w.heap.size [] w Z [.row b93 [.int .u8 (w8 (breadS (x0.take (8 : Int).toNat)))] 5, .own (tyInt .u8) 5 ao100 cap101 (x5 ++ [w8 (breadS (x0.take (8 : Int).toNat))])] Z wd102 := hM104; clear hM104
    refine s1 hF106 5 (.slice ao100 (x5 ++ [w8 (breadS (x0.take (8 : Int).toNat))]).length cap101) ?_; intro a108 hF109; clear hF106
    refine nlH (hQ76 _ _ ?_); clear hQ76 hQ76Q
    refine rgH ?_; intro hQ110Q hQ110
    refine s1 hF109 25 (str x0) ?_; intro a111 hF112; clear hF109
    have hc113 := hp99.1; have hp114 := hp99.2; clear hp99
    refine st hF112 (str (x0.drop (8 : Int).toNat)) (nog rfl _) rfl (by kernel_rfl) (strslL_run hF112 (g := []) (k := .i64) rfl (by kernel_rfl) (by kernel_rfl) (by kernel_rfl) hc113 rfl) ?_; intro a115 hF116; clear hF112
    refine s1 hF116 0 (str (x0.drop (8 : Int).toNat)) ?_; intro a117 hF118; clear hF116
    refine nlH (hQ110 _ _ ?_); clear hQ110 hQ110Q
    refine ibn ?_
    refine rd ?_
    exact ⟨⟨x0.drop (8 : Int).toNat, x5 ++ [w8 (breadS (x0.take (8 : Int).toNat))], ao100, cap101⟩, hp114.1, hp114.2, (hF118.region (by kernel_rfl) (by kernel_rfl)).anyβ _ (by kernel_rfl), hM107.keep (List.Sublist.cons _ (List.Sublist.cons_cons _ (List.Sublist.slnil)))⟩
   · -- no
    have hp119 := hp66.2 hb74; clear hp66
    refine wp_exit ?_
    refine thx ?_
    refine thx ?_
    refine ibx ?_
    refine thn ?_
    refine sqH ?_; intro hQ120Q hQ120
    refine s1 hF73 27 (.slice aox5 x5.length capx5) ?_; intro a121 hF122; clear hF73
    refine s1 hF122 2 (.slice aox5 x5.length capx5) ?_; intro a123 hF124; clear hF122
    refine s1 hF124 3 (.int .i64 0) ?_; intro a125 hF126; clear hF124
    refine nlH (hQ120 _ _ ?_); clear hQ120 hQ120Q
    refine wp_ret ?_
    refine rt (fn := Tryd.f17) (v := .tuple #[.slice aox5 x5.length capx5, .int .i64 0]) hF126 (re2 hF126 (fn := Tryd.f17) rfl (by kernel_rfl) (by kernel_rfl)) ?_
    exact ⟨(x5, 0), aox5, capx5, Z, rfl, hp119, hM65.keep (List.Sublist.cons_cons _ (List.Sublist.slnil))⟩

end Go.Proofs.YtfafpnacflcgmaaDoor
