/- The walks, made by program: each call does what its pure predicate says. -/
import Derived.Test.YtfafpnacflcgmaaDoorPB
import Derived.Test.YtfafpnacflcgmaaDoorWA
set_option linter.unusedVariables false
set_option linter.unusedSimpArgs false
namespace Go.Proofs.YtfafpnacflcgmaaDoor
open Go.Sy Go.RowKit
theorem bread_fun (u0 : List UInt8) (hpre : u0.length ≤ 62 ∧ isRow u0 = true)  (Z : Fz) (w : World)  (hZ : Z.on w) : Calls Tryd.prog 36 #[str u0] w fun e w' => e = .returned (.int .u64 (breadS u0)) ∧ Below w.heap.size w w' :=
  (bread_walk u0  Z w  hZ (bread_ok u0 hpre)).mono fun _ _ ⟨r, he, hk, hb⟩ => ⟨by subst hk; exact he, hb⟩

theorem bwrite_fun (u0 : Int) (u1 : Int) (hpre : 0 ≤ u1 ∧ u1 ≤ 64 ∧ 0 ≤ u0 ∧ u0 < 2 ^ 62)  (Z : Fz) (w : World)  (hZ : Z.on w) : Calls Tryd.prog 37 #[.int .u64 u0, .int .i64 u1] w fun e w' => e = .returned (str (bwriteS u0 u1)) ∧ Below w.heap.size w w' :=
  (bwrite_walk u0 u1  Z w  hZ (bwrite_ok u0 u1 hpre)).mono fun _ _ ⟨r, he, hk, hb⟩ => ⟨by subst hk; exact he, hb⟩

theorem bcheck_fun (u0 : List UInt8)  (Z : Fz) (w : World)  (hZ : Z.on w) : Calls Tryd.prog 22 #[str u0] w fun e w' => e = .returned (.int .i64 (bcheckS u0)) ∧ Below w.heap.size w w' :=
  (bcheck_walk u0  Z w  hZ (bcheck_ok u0)).mono fun _ _ ⟨r, he, hk, hb⟩ => ⟨by subst hk; exact he, hb⟩

theorem rcheckrow_fun (u0 : List UInt8)  (Z : Fz) (w : World)  (hZ : Z.on w) : Calls Tryd.prog 21 #[str u0] w fun e w' => e = .returned (.int .i64 (bcheckS u0)) ∧ Below w.heap.size w w' :=
  (rcheckrow_walk u0  Z w  hZ (rcheckrow_ok u0)).mono fun _ _ ⟨r, he, hk, hb⟩ => ⟨by subst hk; exact he, hb⟩

theorem rsame_fun (u0 : List UInt8) (hpre : 0 < u0.length ∧ u0.length ≤ 1000)  (Z : Fz) (w : World)  (hZ : Z.on w) : Calls Tryd.prog 52 #[str u0] w fun e w' => e = .returned (.bool (rsameS u0)) ∧ Below w.heap.size w w' :=
  (rsame_walk u0  Z w  hZ (rsame_ok u0 hpre)).mono fun _ _ ⟨r, he, hk, hb⟩ => ⟨by subst hk; exact he, hb⟩

theorem cnext_fun (u0 : Counter) (u1 : Int) (hpre : -1000000 ≤ u0.n ∧ u0.n ≤ 1000000 ∧ 0 ≤ u1 ∧ u1 ≤ 97) (b1 : Nat) (B : Nat) (w0 : World) (Z0 : Fz) (Rr : List Res) (Z : Fz) (w : World) (hM0 : Mem B [] w0 Z0 ((.row b1 [.int .u8 u0.last, .int .i64 u0.n] 78) :: Rr) Z w) (hZ : Z.on w) : Calls Tryd.prog 50 #[.pointer (some ⟨b1, 0, none⟩), .int .u8 u1] w fun e w' => ∃ (Z' : Fz), e = .returned (.tuple #[.int .u8 (cnextS u0 u1).1, .bool (cnextS u0 u1).2.1]) ∧ Fz.le Z Z' ∧ Mem B [] w0 Z0 ((.row b1 [.int .u8 (cnextS u0 u1).2.2.last, .int .i64 (cnextS u0 u1).2.2.n] 78) :: Rr) Z' w' :=
  (cnext_walk u0 u1 b1 B w0 Z0 Rr Z w hM0 hZ (cnext_ok u0 u1 hpre)).mono fun _ _ ⟨r, h0, he, hk, f0, hm⟩ => by subst hk; exact ⟨h0, he, f0, hm⟩

theorem cnextR_fun (u0 : Reader) (u1 : Int) (hpre : -1000000 ≤ u0.c.n ∧ u0.c.n ≤ 1000000 ∧ 0 ≤ u1 ∧ u1 ≤ 97) (b1 : Nat) (B : Nat) (w0 : World) (Z0 : Fz) (Rr : List Res) (Z : Fz) (w : World) (hM0 : Mem B [] w0 Z0 ((.row b1 [str u0.Row, .int .i64 u0.At, .int .i64 u0.Code, .int .u8 u0.c.last, .int .i64 u0.c.n] 80) :: Rr) Z w) (hZ : Z.on w) : Calls Tryd.prog 50 #[.pointer (some ⟨b1, 3, none⟩), .int .u8 u1] w fun e w' => ∃ (Z' : Fz), e = .returned (.tuple #[.int .u8 (cnextRS u0 u1).1, .bool (cnextRS u0 u1).2.1]) ∧ Fz.le Z Z' ∧ Mem B [] w0 Z0 ((.row b1 [str (cnextRS u0 u1).2.2.Row, .int .i64 (cnextRS u0 u1).2.2.At, .int .i64 (cnextRS u0 u1).2.2.Code, .int .u8 (cnextRS u0 u1).2.2.c.last, .int .i64 (cnextRS u0 u1).2.2.c.n] 80) :: Rr) Z' w' :=
  (cnextR_walk u0 u1 b1 B w0 Z0 Rr Z w hM0 hZ (cnextR_ok u0 u1 hpre)).mono fun _ _ ⟨r, h0, he, hk, f0, hm⟩ => by subst hk; exact ⟨h0, he, f0, hm⟩

theorem rbit_fun (u0 : Reader) (hpre : 0 ≤ u0.At ∧ u0.At ≤ (u0.Row.length : Int) ∧ u0.Row.length ≤ 1000000) (b1 : Nat) (B : Nat) (w0 : World) (Z0 : Fz) (Rr : List Res) (Z : Fz) (w : World) (hM0 : Mem B [] w0 Z0 ((.row b1 [str u0.Row, .int .i64 u0.At, .int .i64 u0.Code, .int .u8 u0.c.last, .int .i64 u0.c.n] 80) :: Rr) Z w) (hZ : Z.on w) : Calls Tryd.prog 77 #[.pointer (some ⟨b1, 0, none⟩)] w fun e w' => ∃ (Z' : Fz), e = .returned (.int .u8 (rbitS u0).1) ∧ Fz.le Z Z' ∧ Mem B [] w0 Z0 ((.row b1 [str (rbitS u0).2.Row, .int .i64 (rbitS u0).2.At, .int .i64 (rbitS u0).2.Code, .int .u8 (rbitS u0).2.c.last, .int .i64 (rbitS u0).2.c.n] 80) :: Rr) Z' w' :=
  (rbit_walk u0 b1 B w0 Z0 Rr Z w hM0 hZ (rbit_ok u0 hpre)).mono fun _ _ ⟨r, h0, he, hk, f0, hm⟩ => by subst hk; exact ⟨h0, he, f0, hm⟩

theorem fixbits_fun (u0 : List UInt8) (u1 : Int) (hpre : isRow u0 = true ∧ u0.length ≤ 1000 ∧ (u1 = 48 ∨ u1 = 49))  (Z : Fz) (w : World)  (hZ : Z.on w) : Calls Tryd.prog 35 #[str u0, .int .u8 u1] w fun e w' => e = .returned (str (fixbitsS u0 u1)) ∧ Below w.heap.size w w' :=
  (fixbits_walk u0 u1  Z w  hZ (fixbits_ok u0 u1 hpre)).mono fun _ _ ⟨r, he, hk, hb⟩ => ⟨by subst hk; exact he, hb⟩

set_option maxRecDepth 100000 in
set_option maxHeartbeats 0 in
theorem bnumber_walk (u0 : List UInt8)  (Z : Fz) (w : World)  (hZ : Z.on w) {K : (Int × Int) → Prop} (hp : bnumber_vc u0 K) : Calls Tryd.prog 13 #[str u0] w fun e w' => ∃ r : Int × Int, e = .returned (.tuple #[.int .i64 r.1, .int .i64 r.2]) ∧ K r ∧ Below w.heap.size w w' := by
 refine enter0 Tryd.func13 rfl rfl (by kernel_rfl) ?_; intro a0 hF0; have hM0 := Mem.start w Z hZ; have hle0 := Fz.le.refl Z
 refine sqH ?_; intro hQ1Q hQ1
 refine s1 hF0 2 (.int .i64 0) ?_; intro a2 hF3; clear hF0
 refine s1 hF3 3 (.int .i64 0) ?_; intro a4 hF5; clear hF3
 refine nlH (hQ1 _ _ ?_); clear hQ1 hQ1Q
 refine wp_seq ?_
 refine sqH ?_; intro hQ6Q hQ6
 refine s1 hF5 5 (str u0) ?_; intro a7 hF8; clear hF5
 refine fcl hF8 hM0 (.int .i64 (bcheckS u0)) 22 #[str u0] (nog rfl _) rfl (by kernel_rfl) (fun _ => by kernel_rfl) (bcheck_fun u0 _ _ hM0.fz) ?_; intro a9 wd11 hF10 hM12; clear hF8 hM0
 refine s1 hF10 4 (.int .i64 (bcheckS u0)) ?_; intro a13 hF14; clear hF10
 refine nlH (hQ6 _ _ ?_); clear hQ6 hQ6Q
 refine sqH ?_; intro hQ15Q hQ15
 refine s1 hF14 7 (.int .i64 (bcheckS u0)) ?_; intro a16 hF17; clear hF14
 refine s1 hF17 8 (.bool ((bcheckS u0) != 0)) ?_; intro a18 hF19; clear hF17
 refine nlH (hQ15 _ _ ?_); clear hQ15 hQ15Q
 refine cd hF19 (t := (bcheckS u0) != 0) (by kernel_rfl) (fun hb20 => ?_) (fun hb20 => ?_)
 · -- yes
  have hp21 := hp.1 hb20; clear hp
  refine sqH ?_; intro hQ22Q hQ22
  refine s1 hF19 9 (.int .i64 (bcheckS u0)) ?_; intro a23 hF24; clear hF19
  refine s1 hF24 2 (.int .i64 0) ?_; intro a25 hF26; clear hF24
  refine s1 hF26 3 (.int .i64 (bcheckS u0)) ?_; intro a27 hF28; clear hF26
  refine nlH (hQ22 _ _ ?_); clear hQ22 hQ22Q
  refine wp_ret ?_
  refine thr ?_
  refine rt (fn := Tryd.f13) (v := .tuple #[.int .i64 0, .int .i64 (bcheckS u0)]) hF28 (re2 hF28 (fn := Tryd.f13) rfl (by kernel_rfl) (by kernel_rfl)) ?_
  exact ⟨(0, (bcheckS u0)), rfl, hp21, hM12.below⟩
 · -- no
  have hp29 := hp.2 hb20; clear hp
  refine wp_skip ?_
  refine thn ?_
  refine wp_seq ?_
  refine sqH ?_; intro hQ30Q hQ30
  refine s1 hF19 10 (str u0) ?_; intro a31 hF32; clear hF19
  refine s1 hF32 11 (.int .i64 (u0.length : Int)) ?_; intro a33 hF34; clear hF32
  refine s1 hF34 12 (.bool (decide ((u0.length : Int) > 62))) ?_; intro a35 hF36; clear hF34
  refine nlH (hQ30 _ _ ?_); clear hQ30 hQ30Q
  refine cd hF36 (t := decide ((u0.length : Int) > 62)) (by kernel_rfl) (fun hb37 => ?_) (fun hb37 => ?_)
  · -- yes
   have hp38 := hp29.1 hb37; clear hp29
   refine sqH ?_; intro hQ39Q hQ39
   refine s1 hF36 2 (.int .i64 0) ?_; intro a40 hF41; clear hF36
   refine s1 hF41 3 (.int .i64 2) ?_; intro a42 hF43; clear hF41
   refine nlH (hQ39 _ _ ?_); clear hQ39 hQ39Q
   refine wp_ret ?_
   refine thr ?_
   refine rt (fn := Tryd.f13) (v := .tuple #[.int .i64 0, .int .i64 2]) hF43 (re2 hF43 (fn := Tryd.f13) rfl (by kernel_rfl) (by kernel_rfl)) ?_
   exact ⟨(0, 2), rfl, hp38, hM12.below⟩
  · -- no
   have hp44 := hp29.2 hb37; clear hp29
   refine wp_skip ?_
   refine thn ?_
   refine sqH ?_; intro hQ45Q hQ45
   refine s1 hF36 13 (str u0) ?_; intro a46 hF47; clear hF36
   have hc48 := hp44.1; have hp49 := hp44.2; clear hp44
   refine fcl hF47 hM12 (.int .u64 (breadS u0)) 36 #[str u0] (nog rfl _) rfl (by kernel_rfl) (fun _ => by kernel_rfl) (bread_fun u0 hc48 _ _ hM12.fz) ?_; intro a50 wd52 hF51 hM53; clear hF47 hM12
   refine s1 hF51 15 (.int .i64 (w64 (breadS u0))) ?_; intro a54 hF55; clear hF51
   refine s1 hF55 2 (.int .i64 (w64 (breadS u0))) ?_; intro a56 hF57; clear hF55
   refine s1 hF57 3 (.int .i64 0) ?_; intro a58 hF59; clear hF57
   refine nlH (hQ45 _ _ ?_); clear hQ45 hQ45Q
   refine wp_ret ?_
   refine rt (fn := Tryd.f13) (v := .tuple #[.int .i64 (w64 (breadS u0)), .int .i64 0]) hF59 (re2 hF59 (fn := Tryd.f13) rfl (by kernel_rfl) (by kernel_rfl)) ?_
   exact ⟨(w64 (breadS u0), 0), rfl, hp49, hM53.below⟩

set_option maxRecDepth 100000 in
set_option maxHeartbeats 0 in
theorem brow_walk (u0 : Int) (u1 : Int)  (Z : Fz) (w : World)  (hZ : Z.on w) {K : ((List UInt8) × Int) → Prop} (hp : brow_vc u0 u1 K) : Calls Tryd.prog 15 #[.int .i64 u0, .int .i64 u1] w fun e w' => ∃ r : (List UInt8) × Int, e = .returned (.tuple #[str r.1, .int .i64 r.2]) ∧ K r ∧ Below w.heap.size w w' := by
 refine enter0 Tryd.func15 rfl rfl (by kernel_rfl) ?_; intro a0 hF0; have hM0 := Mem.start w Z hZ; have hle0 := Fz.le.refl Z
 refine sqH ?_; intro hQ1Q hQ1
 refine s1 hF0 4 (str []) ?_; intro a2 hF3; clear hF0
 refine s1 hF3 5 (.int .i64 0) ?_; intro a4 hF5; clear hF3
 refine nlH (hQ1 _ _ ?_); clear hQ1 hQ1Q
 refine wp_seq ?_
 refine sqH ?_; intro hQ6Q hQ6
 refine s1 hF5 6 (.int .i64 u1) ?_; intro a7 hF8; clear hF5
 refine s1 hF8 7 (.bool (decide (u1 < 0))) ?_; intro a9 hF10; clear hF8
 refine s1 hF10 8 (.bool (decide (u1 < 0))) ?_; intro a11 hF12; clear hF10
 have hF13 := hF12.atom ((decide (u1 < 0)) == false) (by kernel_rfl); clear hF12
 refine gp hF13 9 0 [] (decide (u1 < 0)) (.int .i64 u1) rfl rfl ?_; intro a14 hF15; clear hF13
 refine gp hF15 10 0 [] (decide (u1 < 0)) (.bool (decide (u1 > 62))) rfl rfl ?_; intro a16 hF17; clear hF15
 refine st hF17 (.bool ((decide (u1 < 0)) || (decide (u1 > 62)))) (nog rfl _) rfl (by kernel_rfl) (pk_or hF17 (g := []) (m := 0) (b := decide (u1 < 0)) (v := decide (u1 > 62)) rfl (by kernel_rfl) (by kernel_rfl) (by kernel_rfl) rfl) ?_; intro a18 hF19; clear hF17
 refine nlH (hQ6 _ _ ?_); clear hQ6 hQ6Q
 refine cd hF19 (t := (decide (u1 < 0)) || (decide (u1 > 62))) (by kernel_rfl) (fun hb20 => ?_) (fun hb20 => ?_)
 · -- yes
  have hp21 := hp.1 hb20; clear hp
  have hF22 : Fr 24 [] [] a18 := hF19.region (by kernel_rfl) (by kernel_rfl); clear hF19
  refine sqH ?_; intro hQ23Q hQ23
  refine s1 hF22 4 (str []) ?_; intro a24 hF25; clear hF22
  refine s1 hF25 5 (.int .i64 2) ?_; intro a26 hF27; clear hF25
  refine nlH (hQ23 _ _ ?_); clear hQ23 hQ23Q
  refine wp_ret ?_
  refine thr ?_
  refine rt (fn := Tryd.f15) (v := .tuple #[str [], .int .i64 2]) hF27 (re2 hF27 (fn := Tryd.f15) rfl (by kernel_rfl) (by kernel_rfl)) ?_
  exact ⟨([], 2), rfl, hp21, hM0.below⟩
 · -- no
  have hp28 := hp.2 hb20; clear hp
  refine wp_skip ?_
  refine thn ?_
  refine wp_seq ?_
  have hF29 : Fr 24 [] [⟨0, [], .int .i64 u0⟩, ⟨1, [], .int .i64 u1⟩] a18 := hF19.region (by kernel_rfl) (by kernel_rfl); clear hF19
  refine sqH ?_; intro hQ30Q hQ30
  refine s1 hF29 12 (.int .i64 u0) ?_; intro a31 hF32; clear hF29
  refine s1 hF32 13 (.bool (decide (u0 < 0))) ?_; intro a33 hF34; clear hF32
  refine s1 hF34 14 (.bool (decide (u0 < 0))) ?_; intro a35 hF36; clear hF34
  have hF37 := hF36.atom ((decide (u0 < 0)) == false) (by kernel_rfl); clear hF36
  refine gp hF37 15 0 [] (decide (u0 < 0)) (.int .i64 u0) rfl rfl ?_; intro a38 hF39; clear hF37
  refine gp hF39 16 0 [] (decide (u0 < 0)) (.int .i64 u1) rfl rfl ?_; intro a40 hF41; clear hF39
  rcases Bool.eq_false_or_eq_true (decide (u0 < 0)) with hb42 | hb42
  · -- true
   have hp43 := hp28.1 hb42; clear hp28
   have hF44 := hF41.reval (d := 14) (c := []) (v := .bool (decide (u0 < 0))) (by kernel_rfl) (.bool true) (by rw [hb42]); clear hF41
   have hF45 := hF44.setc (d := 15) (c := [0]) (v := .int .i64 u0) (by kernel_rfl) (v' := undef) (by rw [hb42]; kernel_rfl); clear hF44
   have hF46 := hF45.setc (d := 16) (c := [0]) (v := .int .i64 u1) (by kernel_rfl) (v' := undef) (by rw [hb42]; kernel_rfl); clear hF45
   refine sk hF46 (b := true) rfl rfl (by kernel_rfl) (by kernel_rfl) rfl rfl (by kernel_rfl) ?_; intro a47 hF48; clear hF46
   refine sk hF48 (b := true) rfl rfl (by kernel_rfl) (by kernel_rfl) rfl rfl (by kernel_rfl) ?_; intro a49 hF50; clear hF48
   refine s1 hF50 19 (.bool true) ?_; intro a51 hF52; clear hF50
   refine nlH (hQ30 _ _ ?_); clear hQ30 hQ30Q
   refine cdT hF52 (by kernel_rfl) ?_
   have hF53 : Fr 24 [] [] a51 := hF52.region (by kernel_rfl) (by kernel_rfl); clear hF52
   refine sqH ?_; intro hQ54Q hQ54
   refine s1 hF53 4 (str []) ?_; intro a55 hF56; clear hF53
   refine s1 hF56 5 (.int .i64 3) ?_; intro a57 hF58; clear hF56
   refine nlH (hQ54 _ _ ?_); clear hQ54 hQ54Q
   refine wp_ret ?_
   refine thr ?_
   refine rt (fn := Tryd.f15) (v := .tuple #[str [], .int .i64 3]) hF58 (re2 hF58 (fn := Tryd.f15) rfl (by kernel_rfl) (by kernel_rfl)) ?_
   exact ⟨([], 3), rfl, hp43, hM0.below⟩
  · -- false
   have hp59 := hp28.2 hb42; clear hp28
   have hF60 := hF41.reval (d := 14) (c := []) (v := .bool (decide (u0 < 0))) (by kernel_rfl) (.bool false) (by rw [hb42]); clear hF41
   have hF61 := hF60.setc (d := 15) (c := [0]) (v := .int .i64 u0) (by kernel_rfl) (v' := .int .i64 u0) (by rw [hb42]; kernel_rfl); clear hF60
   have hF62 := hF61.setc (d := 16) (c := [0]) (v := .int .i64 u1) (by kernel_rfl) (v' := .int .i64 u1) (by rw [hb42]; kernel_rfl); clear hF61
   have hc63 := hp59.1; have hp64 := hp59.2; clear hp59
   refine st hF62 (.int .i64 (bShr .i64 u0 u1)) (by rw [wanted_of hF62 (b := false) rfl rfl (by kernel_rfl) (by kernel_rfl)]; rfl) rfl (by kernel_rfl) (shr_run hF62 (g := []) (k' := .i64) rfl (by kernel_rfl) (by kernel_rfl) hc63 rfl) ?_; intro a65 hF66; clear hF62
   refine st hF66 (.bool ((bShr .i64 u0 u1) != 0)) (by rw [wanted_of hF66 (b := false) rfl rfl (by kernel_rfl) (by kernel_rfl)]; rfl) rfl (by kernel_rfl) (p0 hF66 (by kernel_rfl)) ?_; intro a67 hF68; clear hF66
   refine s1 hF68 19 (.bool ((bShr .i64 u0 u1) != 0)) ?_; intro a69 hF70; clear hF68
   refine nlH (hQ30 _ _ ?_); clear hQ30 hQ30Q
   refine cd hF70 (t := (bShr .i64 u0 u1) != 0) (by kernel_rfl) (fun hb71 => ?_) (fun hb71 => ?_)
   · -- yes
    have hp72 := hp64.1 hb71; clear hp64
    have hF73 : Fr 24 [] [] a69 := hF70.region (by kernel_rfl) (by kernel_rfl); clear hF70
    refine sqH ?_; intro hQ74Q hQ74
    refine s1 hF73 4 (str []) ?_; intro a75 hF76; clear hF73
    refine s1 hF76 5 (.int .i64 3) ?_; intro a77 hF78; clear hF76
    refine nlH (hQ74 _ _ ?_); clear hQ74 hQ74Q
    refine wp_ret ?_
    refine thr ?_
    refine rt (fn := Tryd.f15) (v := .tuple #[str [], .int .i64 3]) hF78 (re2 hF78 (fn := Tryd.f15) rfl (by kernel_rfl) (by kernel_rfl)) ?_
    exact ⟨([], 3), rfl, hp72, hM0.below⟩
   · -- no
    have hp79 := hp64.2 hb71; clear hp64
    refine wp_skip ?_
    refine thn ?_
    have hF80 : Fr 24 [] [⟨0, [], .int .i64 u0⟩, ⟨1, [], .int .i64 u1⟩] a69 := hF70.region (by kernel_rfl) (by kernel_rfl); clear hF70
    refine sqH ?_; intro hQ81Q hQ81
    refine s1 hF80 20 (.int .i64 u0) ?_; intro a82 hF83; clear hF80
    refine s1 hF83 21 (.int .u64 (wu64 u0)) ?_; intro a84 hF85; clear hF83
    refine s1 hF85 22 (.int .i64 u1) ?_; intro a86 hF87; clear hF85
    have hc88 := hp79.1; have hp89 := hp79.2; clear hp79
    refine fcl hF87 hM0 (str (bwriteS (wu64 u0) u1)) 37 #[.int .u64 (wu64 u0), .int .i64 u1] (nog rfl _) rfl (by kernel_rfl) (fun _ => by kernel_rfl) (bwrite_fun (wu64 u0) u1 hc88 _ _ hM0.fz) ?_; intro a90 wd92 hF91 hM93; clear hF87 hM0
    refine s1 hF91 4 (str (bwriteS (wu64 u0) u1)) ?_; intro a94 hF95; clear hF91
    refine s1 hF95 5 (.int .i64 0) ?_; intro a96 hF97; clear hF95
    refine nlH (hQ81 _ _ ?_); clear hQ81 hQ81Q
    refine wp_ret ?_
    refine rt (fn := Tryd.f15) (v := .tuple #[str (bwriteS (wu64 u0) u1), .int .i64 0]) hF97 (re2 hF97 (fn := Tryd.f15) rfl (by kernel_rfl) (by kernel_rfl)) ?_
    exact ⟨((bwriteS (wu64 u0) u1), 0), rfl, hp89, hM93.below⟩

set_option maxRecDepth 100000 in
set_option maxHeartbeats 0 in
theorem rtake_walk (u0 : Reader) (u1 : Int) (b1 : Nat) (B : Nat) (w0 : World) (Z0 : Fz) (Rr : List Res) (Z : Fz) (w : World) (hM0 : Mem B [] w0 Z0 ((.row b1 [str u0.Row, .int .i64 u0.At, .int .i64 u0.Code, .int .u8 u0.c.last, .int .i64 u0.c.n] 80) :: Rr) Z w) (hZ : Z.on w) {K : ((List UInt8) × Reader) → Prop} (hp : rtake_vc u0 u1 K) : Calls Tryd.prog 48 #[.pointer (some ⟨b1, 0, none⟩), .int .i64 u1] w fun e w' => ∃ (r : (List UInt8) × Reader) (Z' : Fz), e = .returned (str r.1) ∧ K r ∧ Fz.le Z Z' ∧ Mem B [] w0 Z0 ((.row b1 [str r.2.Row, .int .i64 r.2.At, .int .i64 r.2.Code, .int .u8 r.2.c.last, .int .i64 r.2.c.n] 80) :: Rr) Z' w' := by
 refine enter0 Tryd.func48 rfl rfl (by kernel_rfl) ?_; intro a0 hF0; have hle0 := Fz.le.refl Z
 refine sqH ?_; intro hQ2Q hQ2
 refine s1 hF0 4 (str []) ?_; intro a3 hF4; clear hF0
 refine nlH (hQ2 _ _ ?_); clear hQ2 hQ2Q
 refine sqH ?_; intro hQ5Q hQ5
 refine s1 hF4 5 (.slice none 0 0) ?_; intro a6 hF7; clear hF4
 refine nlH (hQ5 _ _ ?_); clear hQ5 hQ5Q
 refine wp_seq ?_
 refine sqH ?_; intro hQ8Q hQ8
 refine s1 hF7 10 (.int .i64 u1) ?_; intro a9 hF10; clear hF7
 refine s1 hF10 11 (.int .i64 0) ?_; intro a11 hF12; clear hF10
 refine nlH (hQ8 _ _ ?_); clear hQ8 hQ8Q
 refine wp_block ?_
 have hF13 : Fr 61 [] [⟨0, [], .pointer (some ⟨b1, 0, none⟩)⟩, ⟨5, [], .slice none 0 0⟩, ⟨10, [], .int .i64 u1⟩, ⟨11, [], .int .i64 0⟩] a11 := hF12.region (by kernel_rfl) (by kernel_rfl); clear hF12
 have hM15 : Mem B [] w0 Z0 ((.own (tyInt .u8) 5 none 0 ([] : List Int)) :: (.row b1 [str u0.Row, .int .i64 u0.At, .int .i64 u0.Code, .int .u8 u0.c.last, .int .i64 u0.c.n] 80) :: Rr) Z w := hM0.addNil (tyInt .u8) 5 (by decide); clear hM0
 have hF16 : Fr 61 [] [⟨0, [], .pointer (some ⟨b1, 0, none⟩)⟩, ⟨5, [], .slice none ([] : List Int).length 0⟩, ⟨10, [], .int .i64 u1⟩, ⟨11, [], .int .i64 0⟩] a11 := hF13.region (by kernel_rfl) (by kernel_rfl); clear hF13
 obtain ⟨inv14, mu14, hI19, hr18⟩ := hp
 have hle20 := hle0
 refine lp (ι := (List Int) × Int × Reader × (Option Addr) × Nat × Fz) (fun (s : (List Int) × Int × Reader × (Option Addr) × Nat × Fz) => [⟨0, [], .pointer (some ⟨b1, 0, none⟩)⟩, ⟨5, [], .slice s.2.2.2.1 s.1.length s.2.2.2.2.1⟩, ⟨10, [], .int .i64 u1⟩, ⟨11, [], .int .i64 s.2.1⟩]) (fun (s : (List Int) × Int × Reader × (Option Addr) × Nat × Fz) => ((.own (tyInt .u8) 5 s.2.2.2.1 s.2.2.2.2.1 s.1) :: (.row b1 [str s.2.2.1.Row, .int .i64 s.2.2.1.At, .int .i64 s.2.2.1.Code, .int .u8 s.2.2.1.c.last, .int .i64 s.2.2.1.c.n] 80) :: Rr)) (fun (s : (List Int) × Int × Reader × (Option Addr) × Nat × Fz) => s.2.2.2.2.2) (fun (s : (List Int) × Int × Reader × (Option Addr) × Nat × Fz) => inv14 s.1 s.2.1 s.2.2.1 ∧ Fz.le Z s.2.2.2.2.2) (fun (s : (List Int) × Int × Reader × (Option Addr) × Nat × Fz) => mu14 s.1 s.2.1 s.2.2.1) ⟨([] : List Int), 0, u0, none, 0, Z⟩ ⟨hI19, Fz.le.refl _⟩ (by exact hF16.region (by kernel_rfl) (by kernel_rfl)) (by exact hM15) ?_
 rintro ⟨x5, x11, yb1, aox5, capx5, ZL14⟩ ⟨hI17, hleL14⟩ a21 wd22 hF23 hM24
 have hF25 : Fr 61 [] [⟨0, [], .pointer (some ⟨b1, 0, none⟩)⟩, ⟨5, [], .slice aox5 x5.length capx5⟩, ⟨10, [], .int .i64 u1⟩, ⟨11, [], .int .i64 x11⟩] a21 := hF23; clear hF23 hF16
 have hM26 : Mem B [] w0 Z0 ((.own (tyInt .u8) 5 aox5 capx5 x5) :: (.row b1 [str yb1.Row, .int .i64 yb1.At, .int .i64 yb1.Code, .int .u8 yb1.c.last, .int .i64 yb1.c.n] 80) :: Rr) ZL14 wd22 := hM24; clear hM24 hM15
 have hp27 := hr18 x5 x11 yb1 hI17
 replace hle0 := Fz.le.trans hle0 hleL14
 refine sqH ?_; intro hQ28Q hQ28
 refine s1 hF25 12 (.bool (decide (x11 < u1))) ?_; intro a29 hF30; clear hF25
 refine nlH (hQ28 _ _ ?_); clear hQ28 hQ28Q
 refine wp_seq ?_
 refine cd hF30 (t := decide (x11 < u1)) (by kernel_rfl) (fun hb31 => ?_) (fun hb31 => ?_)
 · -- yes
  have hp32 := hp27.1 hb31; clear hp27
  refine wp_skip ?_
  refine thn ?_
  refine wp_seq ?_
  refine wp_block ?_
  refine sqH ?_; intro hQ33Q hQ33
  refine s1 hF30 13 (.pointer (some ⟨b1, 0, none⟩)) ?_; intro a34 hF35; clear hF30
  have hc36 := hp32.1; have hp37 := hp32.2; clear hp32
  refine cl hF35 77 #[.pointer (some ⟨b1, 0, none⟩)] (nog rfl _) rfl (by kernel_rfl) (by kernel_rfl) ?_
  obtain ⟨r42, hr43⟩ : ∃ x, (rbitS yb1) = x := ⟨_, rfl⟩; have hp44 := hp37 r42 hr43; clear hp37
  have h9 := rbit_fun yb1 hc36 b1 _ _ _ _ _ _ (hM26.perm (pk 1 rfl)) hM26.fz; rw [hr43] at h9; refine h9.mono ?_; clear h9; rintro _ wd38 ⟨Z46, rfl, hle47, hm⟩; refine ⟨_, rfl, ?_⟩; intro a39 hF40; have hM41 := hm; clear hm hM26 hF35
  replace hleL14 := hleL14.mono hle47
  replace hle0 := Fz.le.trans hle0 hle47
  have hM48 : Mem B [] w0 Z0 ((.row b1 [str r42.2.Row, .int .i64 r42.2.At, .int .i64 r42.2.Code, .int .u8 r42.2.c.last, .int .i64 r42.2.c.n] 80) :: (.own (tyInt .u8) 5 aox5 capx5 x5) :: Rr) Z46 wd38 := hM41; clear hM41
  refine s1 hF40 6 (.int .u8 r42.1) ?_; intro a49 hF50; clear hF40
  refine nlH (hQ33 _ _ ?_); clear hQ33 hQ33Q
  refine wp_seq ?_
  refine sqH ?_; intro hQ51Q hQ51
  refine s1 hF50 15 (.pointer (some ⟨b1, 0, none⟩)) ?_; intro a52 hF53; clear hF50
  refine s1 hF53 16 (.pointer (some ⟨b1, 0, none⟩)) ?_; intro a54 hF55; clear hF53
  refine s1 hF55 17 (.pointer (some ⟨b1, 2, none⟩)) ?_; intro a56 hF57; clear hF55
  refine l1 hF57 hM48 18 0 2 (.int .i64 r42.2.Code) rfl rfl ?_; intro a58 hF59; clear hF57
  refine s1 hF59 19 (.bool (r42.2.Code != 0)) ?_; intro a60 hF61; clear hF59
  refine nlH (hQ51 _ _ ?_); clear hQ51 hQ51Q
  refine cd hF61 (t := r42.2.Code != 0) (by kernel_rfl) (fun hb62 => ?_) (fun hb62 => ?_)
  · -- yes
   have hp63 := hp44.1 hb62; clear hp44
   refine sqH ?_; intro hQ64Q hQ64
   refine s1 hF61 4 (str []) ?_; intro a65 hF66; clear hF61
   refine nlH (hQ64 _ _ ?_); clear hQ64 hQ64Q
   refine wp_ret ?_
   refine thr ?_
   refine ibr ?_
   refine thr ?_
   refine thr ?_
   refine ibr ?_
   refine thr ?_
   refine rt (fn := Tryd.f48) (v := str []) hF66 (re1 hF66 (fn := Tryd.f48) rfl (by kernel_rfl)) ?_
   exact ⟨([], r42.2), Z46, rfl, hp63, hle0, hM48.keep (List.Sublist.cons_cons _ (List.Sublist.cons _ (List.Sublist.refl _)))⟩
  · -- no
   have hp67 := hp44.2 hb62; clear hp44
   refine wp_skip ?_
   refine thn ?_
   refine sqH ?_; intro hQ68Q hQ68
   refine s1 hF61 20 (.slice aox5 x5.length capx5) ?_; intro a69 hF70; clear hF61
   refine s1 hF70 21 (.int .u8 r42.1) ?_; intro a71 hF72; clear hF70
   refine sn hF72 hM48 (fun b => .slice (some ⟨b, 0, none⟩) 1 1) [.int .u8 r42.1] 5 (nog rfl _) rfl (by kernel_rfl) (by kernel_rfl) ?_; intro b73 a74 wd76 hF75 hM77; clear hF72 hM48
   have hc78 := hp67.1; have hp79 := hp67.2; clear hp67
   refine ap hF75 hM77 2 (T := (tyInt .u8)) (xs := x5) (ys := [r42.1]) (ao := aox5) (cap := capx5) (ao2 := (some ⟨b73, 0, none⟩)) (cap2 := 1) (t := 27) (e := 5) (bytes := 1) (nog rfl _) rfl (by kernel_rfl) rfl (by kernel_rfl) (by kernel_rfl) (by kernel_rfl) rfl (Src.row hM77 0 rfl (RepAll.one (T := (tyInt .u8)) (x := r42.1) rfl)) hc78 ?_; intro ao80 cap81 a85 wd82 hnil83 hF86 hM84; clear hF75 hM77
   have hM87 : Mem B [] w0 Z0 ((.row b73 [.int .u8 r42.1] 5) :: (.row b1 [str r42.2.Row, .int .i64 r42.2.At, .int .i64 r42.2.Code, .int .u8 r42.2.c.last, .int .i64 r42.2.c.n] 80) :: (.own (tyInt .u8) 5 ao80 cap81 (x5 ++ [r42.1])) :: Rr) Z46 wd82 := hM84; clear hM84
   refine s1 hF86 5 (.slice ao80 (x5 ++ [r42.1]).length cap81) ?_; intro a88 hF89; clear hF86
   refine nlH (hQ68 _ _ ?_); clear hQ68 hQ68Q
   have hF90 : Fr 61 [] [⟨0, [], .pointer (some ⟨b1, 0, none⟩)⟩, ⟨5, [], .slice ao80 (x5 ++ [r42.1]).length cap81⟩, ⟨6, [], .int .u8 r42.1⟩, ⟨10, [], .int .i64 u1⟩, ⟨11, [], .int .i64 x11⟩] a88 := hF89.region (by kernel_rfl) (by kernel_rfl); clear hF89
   refine sqH ?_; intro hQ91Q hQ91
   refine s1 hF90 25 (.pointer (some ⟨b1, 0, none⟩)) ?_; intro a92 hF93; clear hF90
   refine s1 hF93 26 (.pointer (some ⟨b1, 0, none⟩)) ?_; intro a94 hF95; clear hF93
   refine s1 hF95 27 (.pointer (some ⟨b1, 3, none⟩)) ?_; intro a96 hF97; clear hF95
   refine s1 hF97 28 (.int .u8 r42.1) ?_; intro a98 hF99; clear hF97
   have hc100 := hp79.1; have hp101 := hp79.2; clear hp79
   refine cl hF99 50 #[.pointer (some ⟨b1, 3, none⟩), .int .u8 r42.1] (nog rfl _) rfl (by kernel_rfl) (by kernel_rfl) ?_
   obtain ⟨r106, hr107⟩ : ∃ x, (cnextRS r42.2 r42.1) = x := ⟨_, rfl⟩; have hp108 := hp101 r106 hr107; clear hp101
   have h9 := cnextR_fun r42.2 r42.1 hc100 b1 _ _ _ _ _ _ (hM87.perm (pk 1 rfl)) hM87.fz; rw [hr107] at h9; refine h9.mono ?_; clear h9; rintro _ wd102 ⟨Z110, rfl, hle111, hm⟩; refine ⟨_, rfl, ?_⟩; intro a103 hF104; have hM105 := hm; clear hm hM87 hF99
   replace hleL14 := hleL14.mono hle111
   replace hle0 := Fz.le.trans hle0 hle111
   have hM112 : Mem B [] w0 Z0 ((.row b1 [str r106.2.2.Row, .int .i64 r106.2.2.At, .int .i64 r106.2.2.Code, .int .u8 r106.2.2.c.last, .int .i64 r106.2.2.c.n] 80) :: (.row b73 [.int .u8 r42.1] 5) :: (.own (tyInt .u8) 5 ao80 cap81 (x5 ++ [r42.1])) :: Rr) Z110 wd102 := hM105; clear hM105
   refine s1 hF104 24 (.tuple #[.int .u8 r106.1, .bool r106.2.1]) ?_; intro a113 hF114; clear hF104
   refine s1 hF114 30 (.int .u8 r106.1) ?_; intro a115 hF116; clear hF114
   refine s1 hF116 31 (.bool r106.2.1) ?_; intro a117 hF118; clear hF116
   refine s1 hF118 7 (.int .u8 r106.1) ?_; intro a119 hF120; clear hF118
   refine s1 hF120 8 (.bool r106.2.1) ?_; intro a121 hF122; clear hF120
   refine nlH (hQ91 _ _ ?_); clear hQ91 hQ91Q
   refine sqH ?_; intro hQ123Q hQ123
   refine s1 hF122 32 (.bool r106.2.1) ?_; intro a124 hF125; clear hF122
   refine nlH (hQ123 _ _ ?_); clear hQ123 hQ123Q
   refine cd hF125 (t := r106.2.1) (by kernel_rfl) (fun hb126 => ?_) (fun hb126 => ?_)
   · -- yes
    have hp127 := hp108.1 hb126; clear hp108
    refine wp_seq ?_
    refine sqH ?_; intro hQ128Q hQ128
    refine s1 hF125 33 (.pointer (some ⟨b1, 0, none⟩)) ?_; intro a129 hF130; clear hF125
    have hc131 := hp127.1; have hp132 := hp127.2; clear hp127
    refine cl hF130 77 #[.pointer (some ⟨b1, 0, none⟩)] (nog rfl _) rfl (by kernel_rfl) (by kernel_rfl) ?_
    obtain ⟨r137, hr138⟩ : ∃ x, (rbitS r106.2.2) = x := ⟨_, rfl⟩; have hp139 := hp132 r137 hr138; clear hp132
    have h9 := rbit_fun r106.2.2 hc131 b1 _ _ _ _ _ _ hM112 hM112.fz; rw [hr138] at h9; refine h9.mono ?_; clear h9; rintro _ wd133 ⟨Z141, rfl, hle142, hm⟩; refine ⟨_, rfl, ?_⟩; intro a134 hF135; have hM136 := hm; clear hm hM112 hF130
    replace hleL14 := hleL14.mono hle142
    replace hle0 := Fz.le.trans hle0 hle142
    have hM143 : Mem B [] w0 Z0 ((.row b1 [str r137.2.Row, .int .i64 r137.2.At, .int .i64 r137.2.Code, .int .u8 r137.2.c.last, .int .i64 r137.2.c.n] 80) :: (.row b73 [.int .u8 r42.1] 5) :: (.own (tyInt .u8) 5 ao80 cap81 (x5 ++ [r42.1])) :: Rr) Z141 wd133 := hM136; clear hM136
    refine s1 hF135 9 (.int .u8 r137.1) ?_; intro a144 hF145; clear hF135
    refine nlH (hQ128 _ _ ?_); clear hQ128 hQ128Q
    have hF146 : Fr 61 [] [⟨0, [], .pointer (some ⟨b1, 0, none⟩)⟩, ⟨5, [], .slice ao80 (x5 ++ [r42.1]).length cap81⟩, ⟨7, [], .int .u8 r106.1⟩, ⟨9, [], .int .u8 r137.1⟩, ⟨10, [], .int .i64 u1⟩, ⟨11, [], .int .i64 x11⟩] a144 := hF145.region (by kernel_rfl) (by kernel_rfl); clear hF145
    refine sqH ?_; intro hQ147Q hQ147
    refine s1 hF146 35 (.pointer (some ⟨b1, 0, none⟩)) ?_; intro a148 hF149; clear hF146
    refine s1 hF149 36 (.pointer (some ⟨b1, 0, none⟩)) ?_; intro a150 hF151; clear hF149
    refine s1 hF151 37 (.pointer (some ⟨b1, 2, none⟩)) ?_; intro a152 hF153; clear hF151
    refine l1 hF153 hM143 38 0 2 (.int .i64 r137.2.Code) rfl rfl ?_; intro a154 hF155; clear hF153
    refine s1 hF155 39 (.bool (r137.2.Code == 0)) ?_; intro a156 hF157; clear hF155
    refine s1 hF157 40 (.bool (r137.2.Code == 0)) ?_; intro a158 hF159; clear hF157
    have hF160 := hF159.atom ((r137.2.Code == 0) == true) (by kernel_rfl); clear hF159
    refine gp hF160 41 0 [] (r137.2.Code == 0) (.int .u8 r137.1) rfl rfl ?_; intro a161 hF162; clear hF160
    refine gp hF162 42 0 [] (r137.2.Code == 0) (.int .u8 r106.1) rfl rfl ?_; intro a163 hF164; clear hF162
    refine gp hF164 43 0 [] (r137.2.Code == 0) (.bool (r137.1 != r106.1)) rfl rfl ?_; intro a165 hF166; clear hF164
    refine st hF166 (.bool ((r137.2.Code == 0) && (r137.1 != r106.1))) (nog rfl _) rfl (by kernel_rfl) (pk_and hF166 (g := []) (m := 0) (b := r137.2.Code == 0) (v := r137.1 != r106.1) rfl (by kernel_rfl) (by kernel_rfl) (by kernel_rfl) rfl) ?_; intro a167 hF168; clear hF166
    refine nlH (hQ147 _ _ ?_); clear hQ147 hQ147Q
    refine cd hF168 (t := (r137.2.Code == 0) && (r137.1 != r106.1)) (by kernel_rfl) (fun hb169 => ?_) (fun hb169 => ?_)
    · -- yes
     have hp170 := hp139.1 hb169; clear hp139
     have hF171 : Fr 61 [] [⟨0, [], .pointer (some ⟨b1, 0, none⟩)⟩, ⟨5, [], .slice ao80 (x5 ++ [r42.1]).length cap81⟩, ⟨7, [], .int .u8 r106.1⟩, ⟨10, [], .int .i64 u1⟩, ⟨11, [], .int .i64 x11⟩] a167 := hF168.region (by kernel_rfl) (by kernel_rfl); clear hF168
     refine rgH ?_; intro hQ172Q hQ172
     refine s1 hF171 45 (.pointer (some ⟨b1, 0, none⟩)) ?_; intro a173 hF174; clear hF171
     refine s1 hF174 46 (.pointer (some ⟨b1, 0, none⟩)) ?_; intro a175 hF176; clear hF174
     refine s1 hF176 47 (.pointer (some ⟨b1, 2, none⟩)) ?_; intro a177 hF178; clear hF176
     refine sr hF178 hM143 0 [str r137.2.Row, .int .i64 r137.2.At, .int .i64 5, .int .u8 r137.2.c.last, .int .i64 r137.2.c.n] (b := b1) (off := 2) (cs := [str r137.2.Row, .int .i64 r137.2.At, .int .i64 r137.2.Code, .int .u8 r137.2.c.last, .int .i64 r137.2.c.n]) (ty := 80) (u := .int .i64 5) (nog rfl _) rfl rfl (by kernel_rfl) (by kernel_rfl) (by kernel_rfl) (by kernel_rfl) (by kernel_rfl) (by kernel_rfl) (by kernel_rfl) ?_; intro wd179 hM180; clear hM143
     have hM181 : Mem B [] w0 Z0 ((.row b1 [str r137.2.Row, .int .i64 r137.2.At, .int .i64 5, .int .u8 r137.2.c.last, .int .i64 r137.2.c.n] 80) :: (.row b73 [.int .u8 r42.1] 5) :: (.own (tyInt .u8) 5 ao80 cap81 (x5 ++ [r42.1])) :: Rr) Z141 wd179 := hM180; clear hM180
     refine nlH (hQ172 _ _ ?_); clear hQ172 hQ172Q
     refine thn ?_
     refine rgH ?_; intro hQ182Q hQ182
     refine s1 hF178 48 (.pointer (some ⟨b1, 0, none⟩)) ?_; intro a183 hF184; clear hF178
     refine s1 hF184 49 (.pointer (some ⟨b1, 0, none⟩)) ?_; intro a185 hF186; clear hF184
     refine s1 hF186 50 (.pointer (some ⟨b1, 3, none⟩)) ?_; intro a187 hF188; clear hF186
     refine s1 hF188 51 (.int .u8 r106.1) ?_; intro a189 hF190; clear hF188
     have hc191 := hp170.1; have hp192 := hp170.2; clear hp170
     refine cl hF190 50 #[.pointer (some ⟨b1, 3, none⟩), .int .u8 r106.1] (nog rfl _) rfl (by kernel_rfl) (by kernel_rfl) ?_
     obtain ⟨r197, hr198⟩ : ∃ x, (cnextRS (⟨r137.2.Row, r137.2.At, 5, r137.2.c⟩ : Reader) r106.1) = x := ⟨_, rfl⟩; have hp199 := hp192 r197 hr198; clear hp192
     have h9 := cnextR_fun (⟨r137.2.Row, r137.2.At, 5, r137.2.c⟩ : Reader) r106.1 hc191 b1 _ _ _ _ _ _ hM181 hM181.fz; rw [hr198] at h9; refine h9.mono ?_; clear h9; rintro _ wd193 ⟨Z201, rfl, hle202, hm⟩; refine ⟨_, rfl, ?_⟩; intro a194 hF195; have hM196 := hm; clear hm hM181 hF190
     replace hleL14 := hleL14.mono hle202
     replace hle0 := Fz.le.trans hle0 hle202
     have hM203 : Mem B [] w0 Z0 ((.row b1 [str r197.2.2.Row, .int .i64 r197.2.2.At, .int .i64 r197.2.2.Code, .int .u8 r197.2.2.c.last, .int .i64 r197.2.2.c.n] 80) :: (.row b73 [.int .u8 r42.1] 5) :: (.own (tyInt .u8) 5 ao80 cap81 (x5 ++ [r42.1])) :: Rr) Z201 wd193 := hM196; clear hM196
     refine nlH (hQ182 _ _ ?_); clear hQ182 hQ182Q
     refine ibn ?_
     refine thn ?_
     refine rgH ?_; intro hQ204Q hQ204
     refine s1 hF195 53 (.int .i64 (w64 (x11 + 1))) ?_; intro a205 hF206; clear hF195
     refine s1 hF206 11 (.int .i64 (w64 (x11 + 1))) ?_; intro a207 hF208; clear hF206
     refine nlH (hQ204 _ _ ?_); clear hQ204 hQ204Q
     refine rd ?_
     have hM209 := hM203.perm ((pk 2 rfl).trans ((List.Perm.refl _).cons _))
     exact ⟨⟨x5 ++ [r42.1], w64 (x11 + 1), r197.2.2, ao80, cap81, Z201⟩, ⟨hp199.1, hleL14⟩, hp199.2, (hF208.region (by kernel_rfl) (by kernel_rfl)).anyβ _ (by kernel_rfl), hM209.keep (List.Sublist.cons_cons _ (List.Sublist.cons_cons _ (List.Sublist.cons _ (List.Sublist.refl _))))⟩
    · -- no
     have hp210 := hp139.2 hb169; clear hp139
     refine wp_skip ?_
     refine thn ?_
     have hF211 : Fr 61 [] [⟨0, [], .pointer (some ⟨b1, 0, none⟩)⟩, ⟨5, [], .slice ao80 (x5 ++ [r42.1]).length cap81⟩, ⟨7, [], .int .u8 r106.1⟩, ⟨10, [], .int .i64 u1⟩, ⟨11, [], .int .i64 x11⟩] a167 := hF168.region (by kernel_rfl) (by kernel_rfl); clear hF168
     refine rgH ?_; intro hQ212Q hQ212
     refine s1 hF211 48 (.pointer (some ⟨b1, 0, none⟩)) ?_; intro a213 hF214; clear hF211
     refine s1 hF214 49 (.pointer (some ⟨b1, 0, none⟩)) ?_; intro a215 hF216; clear hF214
     refine s1 hF216 50 (.pointer (some ⟨b1, 3, none⟩)) ?_; intro a217 hF218; clear hF216
     refine s1 hF218 51 (.int .u8 r106.1) ?_; intro a219 hF220; clear hF218
     have hc221 := hp210.1; have hp222 := hp210.2; clear hp210
     refine cl hF220 50 #[.pointer (some ⟨b1, 3, none⟩), .int .u8 r106.1] (nog rfl _) rfl (by kernel_rfl) (by kernel_rfl) ?_
     obtain ⟨r227, hr228⟩ : ∃ x, (cnextRS r137.2 r106.1) = x := ⟨_, rfl⟩; have hp229 := hp222 r227 hr228; clear hp222
     have h9 := cnextR_fun r137.2 r106.1 hc221 b1 _ _ _ _ _ _ hM143 hM143.fz; rw [hr228] at h9; refine h9.mono ?_; clear h9; rintro _ wd223 ⟨Z231, rfl, hle232, hm⟩; refine ⟨_, rfl, ?_⟩; intro a224 hF225; have hM226 := hm; clear hm hM143 hF220
     replace hleL14 := hleL14.mono hle232
     replace hle0 := Fz.le.trans hle0 hle232
     have hM233 : Mem B [] w0 Z0 ((.row b1 [str r227.2.2.Row, .int .i64 r227.2.2.At, .int .i64 r227.2.2.Code, .int .u8 r227.2.2.c.last, .int .i64 r227.2.2.c.n] 80) :: (.row b73 [.int .u8 r42.1] 5) :: (.own (tyInt .u8) 5 ao80 cap81 (x5 ++ [r42.1])) :: Rr) Z231 wd223 := hM226; clear hM226
     refine nlH (hQ212 _ _ ?_); clear hQ212 hQ212Q
     refine ibn ?_
     refine thn ?_
     refine rgH ?_; intro hQ234Q hQ234
     refine s1 hF225 53 (.int .i64 (w64 (x11 + 1))) ?_; intro a235 hF236; clear hF225
     refine s1 hF236 11 (.int .i64 (w64 (x11 + 1))) ?_; intro a237 hF238; clear hF236
     refine nlH (hQ234 _ _ ?_); clear hQ234 hQ234Q
     refine rd ?_
     have hM239 := hM233.perm ((pk 2 rfl).trans ((List.Perm.refl _).cons _))
     exact ⟨⟨x5 ++ [r42.1], w64 (x11 + 1), r227.2.2, ao80, cap81, Z231⟩, ⟨hp229.1, hleL14⟩, hp229.2, (hF238.region (by kernel_rfl) (by kernel_rfl)).anyβ _ (by kernel_rfl), hM239.keep (List.Sublist.cons_cons _ (List.Sublist.cons_cons _ (List.Sublist.cons _ (List.Sublist.refl _))))⟩
   · -- no
    have hp240 := hp108.2 hb126; clear hp108
    refine wp_skip ?_
    refine ibn ?_
    refine thn ?_
    refine rgH ?_; intro hQ241Q hQ241
    refine s1 hF125 53 (.int .i64 (w64 (x11 + 1))) ?_; intro a242 hF243; clear hF125
    refine s1 hF243 11 (.int .i64 (w64 (x11 + 1))) ?_; intro a244 hF245; clear hF243
    refine nlH (hQ241 _ _ ?_); clear hQ241 hQ241Q
    refine rd ?_
    have hM246 := hM112.perm ((pk 2 rfl).trans ((List.Perm.refl _).cons _))
    exact ⟨⟨x5 ++ [r42.1], w64 (x11 + 1), r106.2.2, ao80, cap81, Z110⟩, ⟨hp240.1, hleL14⟩, hp240.2, (hF245.region (by kernel_rfl) (by kernel_rfl)).anyβ _ (by kernel_rfl), hM246.keep (List.Sublist.cons_cons _ (List.Sublist.cons_cons _ (List.Sublist.cons _ (List.Sublist.refl _))))⟩
 · -- no
  have hp247 := hp27.2 hb31; clear hp27
  refine wp_exit ?_
  refine thx ?_
  refine thx ?_
  refine ibx ?_
  refine thn ?_
  refine wp_seq ?_
  refine sqH ?_; intro hQ248Q hQ248
  refine s1 hF30 54 (.pointer (some ⟨b1, 0, none⟩)) ?_; intro a249 hF250; clear hF30
  refine s1 hF250 55 (.pointer (some ⟨b1, 0, none⟩)) ?_; intro a251 hF252; clear hF250
  refine s1 hF252 56 (.pointer (some ⟨b1, 2, none⟩)) ?_; intro a253 hF254; clear hF252
  refine l1 hF254 hM26 57 1 2 (.int .i64 yb1.Code) rfl rfl ?_; intro a255 hF256; clear hF254
  refine s1 hF256 58 (.bool (yb1.Code != 0)) ?_; intro a257 hF258; clear hF256
  refine nlH (hQ248 _ _ ?_); clear hQ248 hQ248Q
  refine cd hF258 (t := yb1.Code != 0) (by kernel_rfl) (fun hb259 => ?_) (fun hb259 => ?_)
  · -- yes
   have hp260 := hp247.1 hb259; clear hp247
   refine sqH ?_; intro hQ261Q hQ261
   refine s1 hF258 4 (str []) ?_; intro a262 hF263; clear hF258
   refine nlH (hQ261 _ _ ?_); clear hQ261 hQ261Q
   refine wp_ret ?_
   refine thr ?_
   refine rt (fn := Tryd.f48) (v := str []) hF263 (re1 hF263 (fn := Tryd.f48) rfl (by kernel_rfl)) ?_
   exact ⟨([], yb1), ZL14, rfl, hp260, hle0, hM26.keep (List.Sublist.cons _ (List.Sublist.cons_cons _ (List.Sublist.refl _)))⟩
  · -- no
   have hp264 := hp247.2 hb259; clear hp247
   refine wp_skip ?_
   refine thn ?_
   refine sqH ?_; intro hQ265Q hQ265
   refine s1 hF258 59 (.slice aox5 x5.length capx5) ?_; intro a266 hF267; clear hF258
   refine st hF267 (str (bstr x5)) (nog rfl _) rfl (by kernel_rfl) ((by obtain ⟨Z9, hle9, hon9, hs9⟩ := hM26.lend 0 rfl; exact bstr_op hF267 (g := []) (e := 5) (ao := aox5) (cap := capx5) (xs := x5) rfl (by kernel_rfl) (by kernel_rfl) (by kernel_rfl) (by kernel_rfl)  hs9 hon9 rfl)) ?_; intro a268 hF269; clear hF267
   refine s1 hF269 4 (str (bstr x5)) ?_; intro a270 hF271; clear hF269
   refine nlH (hQ265 _ _ ?_); clear hQ265 hQ265Q
   refine wp_ret ?_
   refine rt (fn := Tryd.f48) (v := str (bstr x5)) hF271 (re1 hF271 (fn := Tryd.f48) rfl (by kernel_rfl)) ?_
   exact ⟨(bstr x5, yb1), ZL14, rfl, hp264, hle0, hM26.keep (List.Sublist.cons _ (List.Sublist.cons_cons _ (List.Sublist.refl _)))⟩

set_option maxRecDepth 100000 in
set_option maxHeartbeats 0 in
theorem sput_walk (u0 : List UInt8)  (Z : Fz) (w : World)  (hZ : Z.on w) {K : ((List UInt8) × Int) → Prop} (hp : sput_vc u0 K) : Calls Tryd.prog 30 #[str u0] w fun e w' => ∃ r : (List UInt8) × Int, e = .returned (.tuple #[str r.1, .int .i64 r.2]) ∧ K r ∧ Below w.heap.size w w' := by
 refine enter0 Tryd.func30 rfl rfl (by kernel_rfl) ?_; intro a0 hF0; have hM0 := Mem.start w Z hZ; have hle0 := Fz.le.refl Z
 refine sqH ?_; intro hQ1Q hQ1
 refine s1 hF0 2 (str []) ?_; intro a2 hF3; clear hF0
 refine s1 hF3 3 (.int .i64 0) ?_; intro a4 hF5; clear hF3
 refine nlH (hQ1 _ _ ?_); clear hQ1 hQ1Q
 refine wp_seq ?_
 refine sqH ?_; intro hQ6Q hQ6
 refine s1 hF5 10 (str u0) ?_; intro a7 hF8; clear hF5
 refine fcl hF8 hM0 (.int .i64 (bcheckS u0)) 22 #[str u0] (nog rfl _) rfl (by kernel_rfl) (fun _ => by kernel_rfl) (bcheck_fun u0 _ _ hM0.fz) ?_; intro a9 wd11 hF10 hM12; clear hF8 hM0
 refine s1 hF10 4 (.int .i64 (bcheckS u0)) ?_; intro a13 hF14; clear hF10
 refine nlH (hQ6 _ _ ?_); clear hQ6 hQ6Q
 refine sqH ?_; intro hQ15Q hQ15
 refine s1 hF14 12 (.int .i64 (bcheckS u0)) ?_; intro a16 hF17; clear hF14
 refine s1 hF17 13 (.bool ((bcheckS u0) != 0)) ?_; intro a18 hF19; clear hF17
 refine nlH (hQ15 _ _ ?_); clear hQ15 hQ15Q
 refine cd hF19 (t := (bcheckS u0) != 0) (by kernel_rfl) (fun hb20 => ?_) (fun hb20 => ?_)
 · -- yes
  have hp21 := hp.1 hb20; clear hp
  refine sqH ?_; intro hQ22Q hQ22
  refine s1 hF19 14 (.int .i64 (bcheckS u0)) ?_; intro a23 hF24; clear hF19
  refine s1 hF24 2 (str []) ?_; intro a25 hF26; clear hF24
  refine s1 hF26 3 (.int .i64 (bcheckS u0)) ?_; intro a27 hF28; clear hF26
  refine nlH (hQ22 _ _ ?_); clear hQ22 hQ22Q
  refine wp_ret ?_
  refine thr ?_
  refine rt (fn := Tryd.f30) (v := .tuple #[str [], .int .i64 (bcheckS u0)]) hF28 (re2 hF28 (fn := Tryd.f30) rfl (by kernel_rfl) (by kernel_rfl)) ?_
  exact ⟨([], (bcheckS u0)), rfl, hp21, hM12.below⟩
 · -- no
  have hp29 := hp.2 hb20; clear hp
  refine wp_skip ?_
  refine thn ?_
  refine sqH ?_; intro hQ30Q hQ30
  refine s1 hF19 5 (.slice none 0 0) ?_; intro a31 hF32; clear hF19
  refine nlH (hQ30 _ _ ?_); clear hQ30 hQ30Q
  refine sqH ?_; intro hQ33Q hQ33
  refine sn hF32 hM12 (fun b => .pointer (some ⟨b, 0, none⟩)) [.int .u8 0, .int .i64 0] 78 (nog rfl _) rfl (by kernel_rfl) (by kernel_rfl) ?_; intro b34 a35 wd37 hF36 hM38; clear hF32 hM12
  refine nlH (hQ33 _ _ ?_); clear hQ33 hQ33Q
  refine wp_seq ?_
  refine sqH ?_; intro hQ39Q hQ39
  refine s1 hF36 15 (str u0) ?_; intro a40 hF41; clear hF36
  refine s1 hF41 16 (.int .i64 (u0.length : Int)) ?_; intro a42 hF43; clear hF41
  refine s1 hF43 17 (.int .i64 0) ?_; intro a44 hF45; clear hF43
  refine nlH (hQ39 _ _ ?_); clear hQ39 hQ39Q
  refine wp_block ?_
  have hF46 : Fr 43 [] [⟨0, [], str u0⟩, ⟨5, [], .slice none 0 0⟩, ⟨6, [], .pointer (some ⟨b34, 0, none⟩)⟩, ⟨16, [], .int .i64 (u0.length : Int)⟩, ⟨17, [], .int .i64 0⟩] a44 := hF45.region (by kernel_rfl) (by kernel_rfl); clear hF45
  have hM48 : Mem w.heap.size [] w Z [.own (tyInt .u8) 5 none 0 ([] : List Int), .row b34 [.int .u8 0, .int .i64 0] 78] Z wd37 := hM38.addNil (tyInt .u8) 5 (by decide); clear hM38
  have hF49 : Fr 43 [] [⟨0, [], str u0⟩, ⟨5, [], .slice none ([] : List Int).length 0⟩, ⟨6, [], .pointer (some ⟨b34, 0, none⟩)⟩, ⟨16, [], .int .i64 (u0.length : Int)⟩, ⟨17, [], .int .i64 0⟩] a44 := hF46.region (by kernel_rfl) (by kernel_rfl); clear hF46
  obtain ⟨inv47, mu47, hI52, hr51⟩ := hp29
  have hle53 := hle0
  refine lp (ι := (List Int) × Int × Counter × (Option Addr) × Nat × Fz) (fun (s : (List Int) × Int × Counter × (Option Addr) × Nat × Fz) => [⟨0, [], str u0⟩, ⟨5, [], .slice s.2.2.2.1 s.1.length s.2.2.2.2.1⟩, ⟨6, [], .pointer (some ⟨b34, 0, none⟩)⟩, ⟨16, [], .int .i64 (u0.length : Int)⟩, ⟨17, [], .int .i64 s.2.1⟩]) (fun (s : (List Int) × Int × Counter × (Option Addr) × Nat × Fz) => [.own (tyInt .u8) 5 s.2.2.2.1 s.2.2.2.2.1 s.1, .row b34 [.int .u8 s.2.2.1.last, .int .i64 s.2.2.1.n] 78]) (fun (s : (List Int) × Int × Counter × (Option Addr) × Nat × Fz) => s.2.2.2.2.2) (fun (s : (List Int) × Int × Counter × (Option Addr) × Nat × Fz) => inv47 s.1 s.2.1 s.2.2.1 ∧ Fz.le Z s.2.2.2.2.2) (fun (s : (List Int) × Int × Counter × (Option Addr) × Nat × Fz) => mu47 s.1 s.2.1 s.2.2.1) ⟨([] : List Int), 0, (⟨0, 0⟩ : Counter), none, 0, Z⟩ ⟨hI52, Fz.le.refl _⟩ (by exact hF49.region (by kernel_rfl) (by kernel_rfl)) (by exact hM48) ?_
  rintro ⟨x5, x17, yb34, aox5, capx5, ZL47⟩ ⟨hI50, hleL47⟩ a54 wd55 hF56 hM57
  have hF58 : Fr 43 [] [⟨0, [], str u0⟩, ⟨5, [], .slice aox5 x5.length capx5⟩, ⟨6, [], .pointer (some ⟨b34, 0, none⟩)⟩, ⟨16, [], .int .i64 (u0.length : Int)⟩, ⟨17, [], .int .i64 x17⟩] a54 := hF56; clear hF56 hF49
  have hM59 : Mem w.heap.size [] w Z [.own (tyInt .u8) 5 aox5 capx5 x5, .row b34 [.int .u8 yb34.last, .int .i64 yb34.n] 78] ZL47 wd55 := hM57; clear hM57 hM48
  have hp60 := hr51 x5 x17 yb34 hI50
  replace hle0 := Fz.le.trans hle0 hleL47
  refine sqH ?_; intro hQ61Q hQ61
  refine s1 hF58 18 (.bool (decide (x17 < (u0.length : Int)))) ?_; intro a62 hF63; clear hF58
  refine nlH (hQ61 _ _ ?_); clear hQ61 hQ61Q
  refine wp_seq ?_
  refine cd hF63 (t := decide (x17 < (u0.length : Int))) (by kernel_rfl) (fun hb64 => ?_) (fun hb64 => ?_)
  · -- yes
   have hp65 := hp60.1 hb64; clear hp60
   refine wp_skip ?_
   refine thn ?_
   refine wp_seq ?_
   refine wp_block ?_
   refine sqH ?_; intro hQ66Q hQ66
   refine s1 hF63 19 (.int .i64 x17) ?_; intro a67 hF68; clear hF63
   refine s1 hF68 7 (.int .i64 x17) ?_; intro a69 hF70; clear hF68
   refine nlH (hQ66 _ _ ?_); clear hQ66 hQ66Q
   refine sqH ?_; intro hQ71Q hQ71
   refine s1 hF70 20 (.slice aox5 x5.length capx5) ?_; intro a72 hF73; clear hF70
   refine s1 hF73 21 (str u0) ?_; intro a74 hF75; clear hF73
   refine s1 hF75 22 (.int .i64 x17) ?_; intro a76 hF77; clear hF75
   have hc78 := hp65.1; have hp79 := hp65.2; clear hp65
   obtain ⟨c80, hq81⟩ : ∃ q, u0[x17.toNat]? = some q := ⟨_, List.getElem?_eq_getElem (by omega)⟩; have hp82 := hp79 c80 hq81
   refine st hF77 (.int .u8 (c80.toNat : Int)) (nog rfl _) rfl (by kernel_rfl) (stridx_run hF77 (k := .i64) rfl (by kernel_rfl) (by kernel_rfl) (by kernel_rfl) hc78.1 hq81) ?_; intro a83 hF84; clear hF77
   refine sn hF84 hM59 (fun b => .slice (some ⟨b, 0, none⟩) 1 1) [.int .u8 (c80.toNat : Int)] 5 (nog rfl _) rfl (by kernel_rfl) (by kernel_rfl) ?_; intro b85 a86 wd88 hF87 hM89; clear hF84 hM59
   have hc90 := hp82.1; have hp91 := hp82.2; clear hp82
   refine ap hF87 hM89 1 (T := (tyInt .u8)) (xs := x5) (ys := [(c80.toNat : Int)]) (ao := aox5) (cap := capx5) (ao2 := (some ⟨b85, 0, none⟩)) (cap2 := 1) (t := 27) (e := 5) (bytes := 1) (nog rfl _) rfl (by kernel_rfl) rfl (by kernel_rfl) (by kernel_rfl) (by kernel_rfl) rfl (Src.row hM89 0 rfl (RepAll.one (T := (tyInt .u8)) (x := (c80.toNat : Int)) rfl)) hc90 ?_; intro ao92 cap93 a97 wd94 hnil95 hF98 hM96; clear hF87 hM89
   have hM99 : Mem w.heap.size [] w Z [.row b85 [.int .u8 (c80.toNat : Int)] 5, .own (tyInt .u8) 5 ao92 cap93 (x5 ++ [(c80.toNat : Int)]), .row b34 [.int .u8 yb34.last, .int .i64 yb34.n] 78] ZL47 wd94 := hM96; clear hM96
   refine s1 hF98 5 (.slice ao92 (x5 ++ [(c80.toNat : Int)]).length cap93) ?_; intro a100 hF101; clear hF98
   refine nlH (hQ71 _ _ ?_); clear hQ71 hQ71Q
   refine sqH ?_; intro hQ102Q hQ102
   refine s1 hF101 27 (str u0) ?_; intro a103 hF104; clear hF101
   refine s1 hF104 28 (.int .i64 x17) ?_; intro a105 hF106; clear hF104
   have hc107 := hp91.1; have hp108 := hp91.2; clear hp91
   obtain ⟨c109, hq110⟩ : ∃ q, u0[x17.toNat]? = some q := ⟨_, List.getElem?_eq_getElem (by omega)⟩; have hp111 := hp108 c109 hq110
   refine st hF106 (.int .u8 (c109.toNat : Int)) (nog rfl _) rfl (by kernel_rfl) (stridx_run hF106 (k := .i64) rfl (by kernel_rfl) (by kernel_rfl) (by kernel_rfl) hc107.1 hq110) ?_; intro a112 hF113; clear hF106
   have hc114 := hp111.1; have hp115 := hp111.2; clear hp111
   refine cl hF113 50 #[.pointer (some ⟨b34, 0, none⟩), .int .u8 (c109.toNat : Int)] (nog rfl _) rfl (by kernel_rfl) (by kernel_rfl) ?_
   obtain ⟨r120, hr121⟩ : ∃ x, (cnextS yb34 (c109.toNat : Int)) = x := ⟨_, rfl⟩; have hp122 := hp115 r120 hr121; clear hp115
   have h9 := cnext_fun yb34 (c109.toNat : Int) hc114 b34 _ _ _ _ _ _ (hM99.perm (pk 2 rfl)) hM99.fz; rw [hr121] at h9; refine h9.mono ?_; clear h9; rintro _ wd116 ⟨Z124, rfl, hle125, hm⟩; refine ⟨_, rfl, ?_⟩; intro a117 hF118; have hM119 := hm; clear hm hM99 hF113
   replace hleL47 := hleL47.mono hle125
   replace hle0 := Fz.le.trans hle0 hle125
   have hM126 : Mem w.heap.size [] w Z [.row b34 [.int .u8 r120.2.2.last, .int .i64 r120.2.2.n] 78, .row b85 [.int .u8 (c80.toNat : Int)] 5, .own (tyInt .u8) 5 ao92 cap93 (x5 ++ [(c80.toNat : Int)])] Z124 wd116 := hM119; clear hM119
   refine s1 hF118 26 (.tuple #[.int .u8 r120.1, .bool r120.2.1]) ?_; intro a127 hF128; clear hF118
   refine s1 hF128 31 (.int .u8 r120.1) ?_; intro a129 hF130; clear hF128
   refine s1 hF130 32 (.bool r120.2.1) ?_; intro a131 hF132; clear hF130
   refine s1 hF132 8 (.int .u8 r120.1) ?_; intro a133 hF134; clear hF132
   refine s1 hF134 9 (.bool r120.2.1) ?_; intro a135 hF136; clear hF134
   refine nlH (hQ102 _ _ ?_); clear hQ102 hQ102Q
   have hF137 : Fr 43 [] [⟨0, [], str u0⟩, ⟨5, [], .slice ao92 (x5 ++ [(c80.toNat : Int)]).length cap93⟩, ⟨6, [], .pointer (some ⟨b34, 0, none⟩)⟩, ⟨8, [], .int .u8 r120.1⟩, ⟨9, [], .bool r120.2.1⟩, ⟨16, [], .int .i64 (u0.length : Int)⟩, ⟨17, [], .int .i64 x17⟩] a135 := hF136.region (by kernel_rfl) (by kernel_rfl); clear hF136
   refine sqH ?_; intro hQ138Q hQ138
   refine s1 hF137 33 (.bool r120.2.1) ?_; intro a139 hF140; clear hF137
   refine nlH (hQ138 _ _ ?_); clear hQ138 hQ138Q
   refine cd hF140 (t := r120.2.1) (by kernel_rfl) (fun hb141 => ?_) (fun hb141 => ?_)
   · -- yes
    have hp142 := hp122.1 hb141; clear hp122
    refine sqH ?_; intro hQ143Q hQ143
    refine s1 hF140 34 (.slice ao92 (x5 ++ [(c80.toNat : Int)]).length cap93) ?_; intro a144 hF145; clear hF140
    refine s1 hF145 35 (.int .u8 r120.1) ?_; intro a146 hF147; clear hF145
    refine sn hF147 hM126 (fun b => .slice (some ⟨b, 0, none⟩) 1 1) [.int .u8 r120.1] 5 (nog rfl _) rfl (by kernel_rfl) (by kernel_rfl) ?_; intro b148 a149 wd151 hF150 hM152; clear hF147 hM126
    have hc153 := hp142.1; have hp154 := hp142.2; clear hp142
    refine ap hF150 hM152 3 (T := (tyInt .u8)) (xs := x5 ++ [(c80.toNat : Int)]) (ys := [r120.1]) (ao := ao92) (cap := cap93) (ao2 := (some ⟨b148, 0, none⟩)) (cap2 := 1) (t := 27) (e := 5) (bytes := 1) (nog rfl _) rfl (by kernel_rfl) rfl (by kernel_rfl) (by kernel_rfl) (by kernel_rfl) rfl (Src.row hM152 0 rfl (RepAll.one (T := (tyInt .u8)) (x := r120.1) rfl)) hc153 ?_; intro ao155 cap156 a160 wd157 hnil158 hF161 hM159; clear hF150 hM152
    have hM162 : Mem w.heap.size [] w Z [.row b148 [.int .u8 r120.1] 5, .row b34 [.int .u8 r120.2.2.last, .int .i64 r120.2.2.n] 78, .row b85 [.int .u8 (c80.toNat : Int)] 5, .own (tyInt .u8) 5 ao155 cap156 ((x5 ++ [(c80.toNat : Int)]) ++ [r120.1])] Z124 wd157 := hM159; clear hM159
    refine s1 hF161 5 (.slice ao155 ((x5 ++ [(c80.toNat : Int)]) ++ [r120.1]).length cap156) ?_; intro a163 hF164; clear hF161
    refine nlH (hQ143 _ _ ?_); clear hQ143 hQ143Q
    refine rgH ?_; intro hQ165Q hQ165
    refine s1 hF164 38 (.int .u8 r120.1) ?_; intro a166 hF167; clear hF164
    have hc168 := hp154.1; have hp169 := hp154.2; clear hp154
    refine cl hF167 50 #[.pointer (some ⟨b34, 0, none⟩), .int .u8 r120.1] (nog rfl _) rfl (by kernel_rfl) (by kernel_rfl) ?_
    obtain ⟨r174, hr175⟩ : ∃ x, (cnextS r120.2.2 r120.1) = x := ⟨_, rfl⟩; have hp176 := hp169 r174 hr175; clear hp169
    have h9 := cnext_fun r120.2.2 r120.1 hc168 b34 _ _ _ _ _ _ (hM162.perm (pk 1 rfl)) hM162.fz; rw [hr175] at h9; refine h9.mono ?_; clear h9; rintro _ wd170 ⟨Z178, rfl, hle179, hm⟩; refine ⟨_, rfl, ?_⟩; intro a171 hF172; have hM173 := hm; clear hm hM162 hF167
    replace hleL47 := hleL47.mono hle179
    replace hle0 := Fz.le.trans hle0 hle179
    have hM180 : Mem w.heap.size [] w Z [.row b34 [.int .u8 r174.2.2.last, .int .i64 r174.2.2.n] 78, .row b148 [.int .u8 r120.1] 5, .row b85 [.int .u8 (c80.toNat : Int)] 5, .own (tyInt .u8) 5 ao155 cap156 ((x5 ++ [(c80.toNat : Int)]) ++ [r120.1])] Z178 wd170 := hM173; clear hM173
    refine nlH (hQ165 _ _ ?_); clear hQ165 hQ165Q
    refine ibn ?_
    refine thn ?_
    refine rgH ?_; intro hQ181Q hQ181
    refine s1 hF172 40 (.int .i64 (w64 (x17 + 1))) ?_; intro a182 hF183; clear hF172
    refine s1 hF183 17 (.int .i64 (w64 (x17 + 1))) ?_; intro a184 hF185; clear hF183
    refine nlH (hQ181 _ _ ?_); clear hQ181 hQ181Q
    refine rd ?_
    have hM186 := hM180.perm ((pk 3 rfl).trans ((List.Perm.refl _).cons _))
    exact ⟨⟨(x5 ++ [(c80.toNat : Int)]) ++ [r120.1], w64 (x17 + 1), r174.2.2, ao155, cap156, Z178⟩, ⟨hp176.1, hleL47⟩, hp176.2, (hF185.region (by kernel_rfl) (by kernel_rfl)).anyβ _ (by kernel_rfl), hM186.keep (List.Sublist.cons_cons _ (List.Sublist.cons_cons _ (List.Sublist.cons _ (List.Sublist.cons _ (List.Sublist.slnil)))))⟩
   · -- no
    have hp187 := hp122.2 hb141; clear hp122
    refine wp_skip ?_
    refine ibn ?_
    refine thn ?_
    refine rgH ?_; intro hQ188Q hQ188
    refine s1 hF140 40 (.int .i64 (w64 (x17 + 1))) ?_; intro a189 hF190; clear hF140
    refine s1 hF190 17 (.int .i64 (w64 (x17 + 1))) ?_; intro a191 hF192; clear hF190
    refine nlH (hQ188 _ _ ?_); clear hQ188 hQ188Q
    refine rd ?_
    have hM193 := hM126.perm ((pk 2 rfl).trans ((List.Perm.refl _).cons _))
    exact ⟨⟨x5 ++ [(c80.toNat : Int)], w64 (x17 + 1), r120.2.2, ao92, cap93, Z124⟩, ⟨hp187.1, hleL47⟩, hp187.2, (hF192.region (by kernel_rfl) (by kernel_rfl)).anyβ _ (by kernel_rfl), hM193.keep (List.Sublist.cons_cons _ (List.Sublist.cons_cons _ (List.Sublist.cons _ (List.Sublist.slnil))))⟩
  · -- no
   have hp194 := hp60.2 hb64; clear hp60
   refine wp_exit ?_
   refine thx ?_
   refine thx ?_
   refine ibx ?_
   refine thn ?_
   refine sqH ?_; intro hQ195Q hQ195
   refine s1 hF63 41 (.slice aox5 x5.length capx5) ?_; intro a196 hF197; clear hF63
   refine st hF197 (str (bstr x5)) (nog rfl _) rfl (by kernel_rfl) ((by obtain ⟨Z9, hle9, hon9, hs9⟩ := hM59.lend 0 rfl; exact bstr_op hF197 (g := []) (e := 5) (ao := aox5) (cap := capx5) (xs := x5) rfl (by kernel_rfl) (by kernel_rfl) (by kernel_rfl) (by kernel_rfl)  hs9 hon9 rfl)) ?_; intro a198 hF199; clear hF197
   refine s1 hF199 2 (str (bstr x5)) ?_; intro a200 hF201; clear hF199
   refine s1 hF201 3 (.int .i64 0) ?_; intro a202 hF203; clear hF201
   refine nlH (hQ195 _ _ ?_); clear hQ195 hQ195Q
   refine wp_ret ?_
   refine rt (fn := Tryd.f30) (v := .tuple #[str (bstr x5), .int .i64 0]) hF203 (re2 hF203 (fn := Tryd.f30) rfl (by kernel_rfl) (by kernel_rfl)) ?_
   exact ⟨(bstr x5, 0), rfl, hp194, hM59.below⟩

set_option maxRecDepth 100000 in
set_option maxHeartbeats 0 in
theorem sfixed_walk (u0 : List UInt8) (u1 : Int)  (Z : Fz) (w : World)  (hZ : Z.on w) {K : ((List UInt8) × Int) → Prop} (hp : sfixed_vc u0 u1 K) : Calls Tryd.prog 34 #[str u0, .int .u8 u1] w fun e w' => ∃ r : (List UInt8) × Int, e = .returned (.tuple #[str r.1, .int .i64 r.2]) ∧ K r ∧ Below w.heap.size w w' := by
 refine enter0 Tryd.func34 rfl rfl (by kernel_rfl) ?_; intro a0 hF0; have hM0 := Mem.start w Z hZ; have hle0 := Fz.le.refl Z
 refine sqH ?_; intro hQ1Q hQ1
 refine s1 hF0 4 (str []) ?_; intro a2 hF3; clear hF0
 refine s1 hF3 5 (.int .i64 0) ?_; intro a4 hF5; clear hF3
 refine nlH (hQ1 _ _ ?_); clear hQ1 hQ1Q
 refine wp_seq ?_
 refine sqH ?_; intro hQ6Q hQ6
 refine s1 hF5 10 (str u0) ?_; intro a7 hF8; clear hF5
 refine fcl hF8 hM0 (.int .i64 (bcheckS u0)) 22 #[str u0] (nog rfl _) rfl (by kernel_rfl) (fun _ => by kernel_rfl) (bcheck_fun u0 _ _ hM0.fz) ?_; intro a9 wd11 hF10 hM12; clear hF8 hM0
 refine s1 hF10 6 (.int .i64 (bcheckS u0)) ?_; intro a13 hF14; clear hF10
 refine nlH (hQ6 _ _ ?_); clear hQ6 hQ6Q
 refine sqH ?_; intro hQ15Q hQ15
 refine s1 hF14 12 (.int .i64 (bcheckS u0)) ?_; intro a16 hF17; clear hF14
 refine s1 hF17 13 (.bool ((bcheckS u0) != 0)) ?_; intro a18 hF19; clear hF17
 refine nlH (hQ15 _ _ ?_); clear hQ15 hQ15Q
 refine cd hF19 (t := (bcheckS u0) != 0) (by kernel_rfl) (fun hb20 => ?_) (fun hb20 => ?_)
 · -- yes
  have hp21 := hp.1 hb20; clear hp
  refine sqH ?_; intro hQ22Q hQ22
  refine s1 hF19 14 (.int .i64 (bcheckS u0)) ?_; intro a23 hF24; clear hF19
  refine s1 hF24 4 (str []) ?_; intro a25 hF26; clear hF24
  refine s1 hF26 5 (.int .i64 (bcheckS u0)) ?_; intro a27 hF28; clear hF26
  refine nlH (hQ22 _ _ ?_); clear hQ22 hQ22Q
  refine wp_ret ?_
  refine thr ?_
  refine rt (fn := Tryd.f34) (v := .tuple #[str [], .int .i64 (bcheckS u0)]) hF28 (re2 hF28 (fn := Tryd.f34) rfl (by kernel_rfl) (by kernel_rfl)) ?_
  exact ⟨([], (bcheckS u0)), rfl, hp21, hM12.below⟩
 · -- no
  have hp29 := hp.2 hb20; clear hp
  refine wp_skip ?_
  refine thn ?_
  refine wp_seq ?_
  refine sqH ?_; intro hQ30Q hQ30
  refine s1 hF19 15 (.int .u8 u1) ?_; intro a31 hF32; clear hF19
  refine s1 hF32 16 (.bool (u1 != 48)) ?_; intro a33 hF34; clear hF32
  refine s1 hF34 17 (.bool (u1 != 48)) ?_; intro a35 hF36; clear hF34
  have hF37 := hF36.atom ((u1 != 48) == true) (by kernel_rfl); clear hF36
  refine gp hF37 18 0 [] (u1 != 48) (.int .u8 u1) rfl rfl ?_; intro a38 hF39; clear hF37
  refine gp hF39 19 0 [] (u1 != 48) (.bool (u1 != 49)) rfl rfl ?_; intro a40 hF41; clear hF39
  refine st hF41 (.bool ((u1 != 48) && (u1 != 49))) (nog rfl _) rfl (by kernel_rfl) (pk_and hF41 (g := []) (m := 0) (b := u1 != 48) (v := u1 != 49) rfl (by kernel_rfl) (by kernel_rfl) (by kernel_rfl) rfl) ?_; intro a42 hF43; clear hF41
  refine nlH (hQ30 _ _ ?_); clear hQ30 hQ30Q
  refine cd hF43 (t := (u1 != 48) && (u1 != 49)) (by kernel_rfl) (fun hb44 => ?_) (fun hb44 => ?_)
  · -- yes
   have hp45 := hp29.1 hb44; clear hp29
   have hF46 : Fr 47 [] [] a42 := hF43.region (by kernel_rfl) (by kernel_rfl); clear hF43
   refine sqH ?_; intro hQ47Q hQ47
   refine s1 hF46 4 (str []) ?_; intro a48 hF49; clear hF46
   refine s1 hF49 5 (.int .i64 3) ?_; intro a50 hF51; clear hF49
   refine nlH (hQ47 _ _ ?_); clear hQ47 hQ47Q
   refine wp_ret ?_
   refine thr ?_
   refine rt (fn := Tryd.f34) (v := .tuple #[str [], .int .i64 3]) hF51 (re2 hF51 (fn := Tryd.f34) rfl (by kernel_rfl) (by kernel_rfl)) ?_
   exact ⟨([], 3), rfl, hp45, hM12.below⟩
  · -- no
   have hp52 := hp29.2 hb44; clear hp29
   refine wp_skip ?_
   refine thn ?_
   have hF53 : Fr 47 [] [⟨0, [], str u0⟩, ⟨1, [], .int .u8 u1⟩] a42 := hF43.region (by kernel_rfl) (by kernel_rfl); clear hF43
   refine sqH ?_; intro hQ54Q hQ54
   refine s1 hF53 7 (.slice none 0 0) ?_; intro a55 hF56; clear hF53
   refine nlH (hQ54 _ _ ?_); clear hQ54 hQ54Q
   refine sqH ?_; intro hQ57Q hQ57
   refine s1 hF56 21 (.int .u8 u1) ?_; intro a58 hF59; clear hF56
   refine s1 hF59 8 (.int .u8 u1) ?_; intro a60 hF61; clear hF59
   refine nlH (hQ57 _ _ ?_); clear hQ57 hQ57Q
   refine wp_seq ?_
   refine sqH ?_; intro hQ62Q hQ62
   refine s1 hF61 22 (str u0) ?_; intro a63 hF64; clear hF61
   refine s1 hF64 23 (.int .i64 (u0.length : Int)) ?_; intro a65 hF66; clear hF64
   refine s1 hF66 24 (.int .i64 0) ?_; intro a67 hF68; clear hF66
   refine nlH (hQ62 _ _ ?_); clear hQ62 hQ62Q
   refine wp_block ?_
   have hF69 : Fr 47 [] [⟨0, [], str u0⟩, ⟨7, [], .slice none 0 0⟩, ⟨8, [], .int .u8 u1⟩, ⟨23, [], .int .i64 (u0.length : Int)⟩, ⟨24, [], .int .i64 0⟩] a67 := hF68.region (by kernel_rfl) (by kernel_rfl); clear hF68
   have hM71 : Mem w.heap.size [] w Z [.own (tyInt .u8) 5 none 0 ([] : List Int)] Z wd11 := hM12.addNil (tyInt .u8) 5 (by decide); clear hM12
   have hF72 : Fr 47 [] [⟨0, [], str u0⟩, ⟨7, [], .slice none ([] : List Int).length 0⟩, ⟨8, [], .int .u8 u1⟩, ⟨23, [], .int .i64 (u0.length : Int)⟩, ⟨24, [], .int .i64 0⟩] a67 := hF69.region (by kernel_rfl) (by kernel_rfl); clear hF69
   obtain ⟨inv70, mu70, hI75, hr74⟩ := hp52
   refine lp (ι := (List Int) × Int × Int × (Option Addr) × Nat) (fun (s : (List Int) × Int × Int × (Option Addr) × Nat) => [⟨0, [], str u0⟩, ⟨7, [], .slice s.2.2.2.1 s.1.length s.2.2.2.2⟩, ⟨8, [], .int .u8 s.2.1⟩, ⟨23, [], .int .i64 (u0.length : Int)⟩, ⟨24, [], .int .i64 s.2.2.1⟩]) (fun (s : (List Int) × Int × Int × (Option Addr) × Nat) => [.own (tyInt .u8) 5 s.2.2.2.1 s.2.2.2.2 s.1]) (fun (s : (List Int) × Int × Int × (Option Addr) × Nat) => Z) (fun (s : (List Int) × Int × Int × (Option Addr) × Nat) => inv70 s.1 s.2.1 s.2.2.1) (fun (s : (List Int) × Int × Int × (Option Addr) × Nat) => mu70 s.1 s.2.1 s.2.2.1) ⟨([] : List Int), u1, 0, none, 0⟩ hI75 (by exact hF72.region (by kernel_rfl) (by kernel_rfl)) (by exact hM71) ?_
   rintro ⟨x7, x8, x24, aox7, capx7⟩ hI73 a77 wd78 hF79 hM80
   have hF81 : Fr 47 [] [⟨0, [], str u0⟩, ⟨7, [], .slice aox7 x7.length capx7⟩, ⟨8, [], .int .u8 x8⟩, ⟨23, [], .int .i64 (u0.length : Int)⟩, ⟨24, [], .int .i64 x24⟩] a77 := hF79; clear hF79 hF72
   have hM82 : Mem w.heap.size [] w Z [.own (tyInt .u8) 5 aox7 capx7 x7] Z wd78 := hM80; clear hM80 hM71
   have hp83 := hr74 x7 x8 x24 hI73
   refine sqH ?_; intro hQ84Q hQ84
   refine s1 hF81 25 (.bool (decide (x24 < (u0.length : Int)))) ?_; intro a85 hF86; clear hF81
   refine nlH (hQ84 _ _ ?_); clear hQ84 hQ84Q
   refine wp_seq ?_
   refine cd hF86 (t := decide (x24 < (u0.length : Int))) (by kernel_rfl) (fun hb87 => ?_) (fun hb87 => ?_)
   · -- yes
    have hp88 := hp83.1 hb87; clear hp83
    refine wp_skip ?_
    refine thn ?_
    refine wp_seq ?_
    refine wp_block ?_
    refine sqH ?_; intro hQ89Q hQ89
    refine s1 hF86 26 (.int .i64 x24) ?_; intro a90 hF91; clear hF86
    refine s1 hF91 9 (.int .i64 x24) ?_; intro a92 hF93; clear hF91
    refine nlH (hQ89 _ _ ?_); clear hQ89 hQ89Q
    refine wp_seq ?_
    refine sqH ?_; intro hQ94Q hQ94
    refine s1 hF93 27 (.int .i64 x24) ?_; intro a95 hF96; clear hF93
    refine s1 hF96 28 (.int .i64 (x24.tmod 4)) ?_; intro a97 hF98; clear hF96
    refine s1 hF98 29 (.bool ((x24.tmod 4) == 0)) ?_; intro a99 hF100; clear hF98
    refine nlH (hQ94 _ _ ?_); clear hQ94 hQ94Q
    refine cd hF100 (t := (x24.tmod 4) == 0) (by kernel_rfl) (fun hb101 => ?_) (fun hb101 => ?_)
    · -- yes
     have hp102 := hp88.1 hb101; clear hp88
     refine rgH ?_; intro hQ103Q hQ103
     refine s1 hF100 30 (.slice aox7 x7.length capx7) ?_; intro a104 hF105; clear hF100
     refine s1 hF105 31 (.int .u8 x8) ?_; intro a106 hF107; clear hF105
     refine s1 hF107 32 (.int .u8 (w8 (97 - x8))) ?_; intro a108 hF109; clear hF107
     refine sn hF109 hM82 (fun b => .slice (some ⟨b, 0, none⟩) 1 1) [.int .u8 (w8 (97 - x8))] 5 (nog rfl _) rfl (by kernel_rfl) (by kernel_rfl) ?_; intro b110 a111 wd113 hF112 hM114; clear hF109 hM82
     have hc115 := hp102.1; have hp116 := hp102.2; clear hp102
     refine ap hF112 hM114 1 (T := (tyInt .u8)) (xs := x7) (ys := [w8 (97 - x8)]) (ao := aox7) (cap := capx7) (ao2 := (some ⟨b110, 0, none⟩)) (cap2 := 1) (t := 27) (e := 5) (bytes := 1) (nog rfl _) rfl (by kernel_rfl) rfl (by kernel_rfl) (by kernel_rfl) (by kernel_rfl) rfl (Src.row hM114 0 rfl (RepAll.one (T := (tyInt .u8)) (x := (w8 (97 - x8))) rfl)) hc115 ?_; intro ao117 cap118 a122 wd119 hnil120 hF123 hM121; clear hF112 hM114
     have hM124 : Mem w.heap.size [] w Z [.row b110 [.int .u8 (w8 (97 - x8))] 5, .own (tyInt .u8) 5 ao117 cap118 (x7 ++ [w8 (97 - x8)])] Z wd119 := hM121; clear hM121
     refine s1 hF123 7 (.slice ao117 (x7 ++ [w8 (97 - x8)]).length cap118) ?_; intro a125 hF126; clear hF123
     refine nlH (hQ103 _ _ ?_); clear hQ103 hQ103Q
     refine thn ?_
     refine sqH ?_; intro hQ127Q hQ127
     refine s1 hF126 35 (.slice ao117 (x7 ++ [w8 (97 - x8)]).length cap118) ?_; intro a128 hF129; clear hF126
     refine s1 hF129 36 (str u0) ?_; intro a130 hF131; clear hF129
     refine s1 hF131 37 (.int .i64 x24) ?_; intro a132 hF133; clear hF131
     have hc134 := hp116.1; have hp135 := hp116.2; clear hp116
     obtain ⟨c136, hq137⟩ : ∃ q, u0[x24.toNat]? = some q := ⟨_, List.getElem?_eq_getElem (by omega)⟩; have hp138 := hp135 c136 hq137
     refine st hF133 (.int .u8 (c136.toNat : Int)) (nog rfl _) rfl (by kernel_rfl) (stridx_run hF133 (k := .i64) rfl (by kernel_rfl) (by kernel_rfl) (by kernel_rfl) hc134.1 hq137) ?_; intro a139 hF140; clear hF133
     refine sn hF140 hM124 (fun b => .slice (some ⟨b, 0, none⟩) 1 1) [.int .u8 (c136.toNat : Int)] 5 (nog rfl _) rfl (by kernel_rfl) (by kernel_rfl) ?_; intro b141 a142 wd144 hF143 hM145; clear hF140 hM124
     have hc146 := hp138.1; have hp147 := hp138.2; clear hp138
     refine ap hF143 hM145 2 (T := (tyInt .u8)) (xs := x7 ++ [w8 (97 - x8)]) (ys := [(c136.toNat : Int)]) (ao := ao117) (cap := cap118) (ao2 := (some ⟨b141, 0, none⟩)) (cap2 := 1) (t := 27) (e := 5) (bytes := 1) (nog rfl _) rfl (by kernel_rfl) rfl (by kernel_rfl) (by kernel_rfl) (by kernel_rfl) rfl (Src.row hM145 0 rfl (RepAll.one (T := (tyInt .u8)) (x := (c136.toNat : Int)) rfl)) hc146 ?_; intro ao148 cap149 a153 wd150 hnil151 hF154 hM152; clear hF143 hM145
     have hM155 : Mem w.heap.size [] w Z [.row b141 [.int .u8 (c136.toNat : Int)] 5, .row b110 [.int .u8 (w8 (97 - x8))] 5, .own (tyInt .u8) 5 ao148 cap149 ((x7 ++ [w8 (97 - x8)]) ++ [(c136.toNat : Int)])] Z wd150 := hM152; clear hM152
     refine s1 hF154 7 (.slice ao148 ((x7 ++ [w8 (97 - x8)]) ++ [(c136.toNat : Int)]).length cap149) ?_; intro a156 hF157; clear hF154
     refine nlH (hQ127 _ _ ?_); clear hQ127 hQ127Q
     have hF158 : Fr 47 [] [⟨0, [], str u0⟩, ⟨7, [], .slice ao148 ((x7 ++ [w8 (97 - x8)]) ++ [(c136.toNat : Int)]).length cap149⟩, ⟨9, [], .int .i64 x24⟩, ⟨23, [], .int .i64 (u0.length : Int)⟩, ⟨24, [], .int .i64 x24⟩] a156 := hF157.region (by kernel_rfl) (by kernel_rfl); clear hF157
     refine rgH ?_; intro hQ159Q hQ159
     refine s1 hF158 41 (str u0) ?_; intro a160 hF161; clear hF158
     refine s1 hF161 42 (.int .i64 x24) ?_; intro a162 hF163; clear hF161
     have hc164 := hp147.1; have hp165 := hp147.2; clear hp147
     obtain ⟨c166, hq167⟩ : ∃ q, u0[x24.toNat]? = some q := ⟨_, List.getElem?_eq_getElem (by omega)⟩; have hp168 := hp165 c166 hq167
     refine st hF163 (.int .u8 (c166.toNat : Int)) (nog rfl _) rfl (by kernel_rfl) (stridx_run hF163 (k := .i64) rfl (by kernel_rfl) (by kernel_rfl) (by kernel_rfl) hc164.1 hq167) ?_; intro a169 hF170; clear hF163
     refine s1 hF170 8 (.int .u8 (c166.toNat : Int)) ?_; intro a171 hF172; clear hF170
     refine nlH (hQ159 _ _ ?_); clear hQ159 hQ159Q
     refine ibn ?_
     refine thn ?_
     refine rgH ?_; intro hQ173Q hQ173
     refine s1 hF172 44 (.int .i64 (w64 (x24 + 1))) ?_; intro a174 hF175; clear hF172
     refine s1 hF175 24 (.int .i64 (w64 (x24 + 1))) ?_; intro a176 hF177; clear hF175
     refine nlH (hQ173 _ _ ?_); clear hQ173 hQ173Q
     refine rd ?_
     exact ⟨⟨(x7 ++ [w8 (97 - x8)]) ++ [(c136.toNat : Int)], (c166.toNat : Int), w64 (x24 + 1), ao148, cap149⟩, hp168.1, hp168.2, (hF177.region (by kernel_rfl) (by kernel_rfl)).anyβ _ (by kernel_rfl), hM155.keep (List.Sublist.cons _ (List.Sublist.cons _ (List.Sublist.cons_cons _ (List.Sublist.slnil))))⟩
    · -- no
     have hp178 := hp88.2 hb101; clear hp88
     refine wp_skip ?_
     refine thn ?_
     refine sqH ?_; intro hQ179Q hQ179
     refine s1 hF100 35 (.slice aox7 x7.length capx7) ?_; intro a180 hF181; clear hF100
     refine s1 hF181 36 (str u0) ?_; intro a182 hF183; clear hF181
     refine s1 hF183 37 (.int .i64 x24) ?_; intro a184 hF185; clear hF183
     have hc186 := hp178.1; have hp187 := hp178.2; clear hp178
     obtain ⟨c188, hq189⟩ : ∃ q, u0[x24.toNat]? = some q := ⟨_, List.getElem?_eq_getElem (by omega)⟩; have hp190 := hp187 c188 hq189
     refine st hF185 (.int .u8 (c188.toNat : Int)) (nog rfl _) rfl (by kernel_rfl) (stridx_run hF185 (k := .i64) rfl (by kernel_rfl) (by kernel_rfl) (by kernel_rfl) hc186.1 hq189) ?_; intro a191 hF192; clear hF185
     refine sn hF192 hM82 (fun b => .slice (some ⟨b, 0, none⟩) 1 1) [.int .u8 (c188.toNat : Int)] 5 (nog rfl _) rfl (by kernel_rfl) (by kernel_rfl) ?_; intro b193 a194 wd196 hF195 hM197; clear hF192 hM82
     have hc198 := hp190.1; have hp199 := hp190.2; clear hp190
     refine ap hF195 hM197 1 (T := (tyInt .u8)) (xs := x7) (ys := [(c188.toNat : Int)]) (ao := aox7) (cap := capx7) (ao2 := (some ⟨b193, 0, none⟩)) (cap2 := 1) (t := 27) (e := 5) (bytes := 1) (nog rfl _) rfl (by kernel_rfl) rfl (by kernel_rfl) (by kernel_rfl) (by kernel_rfl) rfl (Src.row hM197 0 rfl (RepAll.one (T := (tyInt .u8)) (x := (c188.toNat : Int)) rfl)) hc198 ?_; intro ao200 cap201 a205 wd202 hnil203 hF206 hM204; clear hF195 hM197
     have hM207 : Mem w.heap.size [] w Z [.row b193 [.int .u8 (c188.toNat : Int)] 5, .own (tyInt .u8) 5 ao200 cap201 (x7 ++ [(c188.toNat : Int)])] Z wd202 := hM204; clear hM204
     refine s1 hF206 7 (.slice ao200 (x7 ++ [(c188.toNat : Int)]).length cap201) ?_; intro a208 hF209; clear hF206
     refine nlH (hQ179 _ _ ?_); clear hQ179 hQ179Q
     refine rgH ?_; intro hQ210Q hQ210
     refine s1 hF209 41 (str u0) ?_; intro a211 hF212; clear hF209
     refine s1 hF212 42 (.int .i64 x24) ?_; intro a213 hF214; clear hF212
     have hc215 := hp199.1; have hp216 := hp199.2; clear hp199
     obtain ⟨c217, hq218⟩ : ∃ q, u0[x24.toNat]? = some q := ⟨_, List.getElem?_eq_getElem (by omega)⟩; have hp219 := hp216 c217 hq218
     refine st hF214 (.int .u8 (c217.toNat : Int)) (nog rfl _) rfl (by kernel_rfl) (stridx_run hF214 (k := .i64) rfl (by kernel_rfl) (by kernel_rfl) (by kernel_rfl) hc215.1 hq218) ?_; intro a220 hF221; clear hF214
     refine s1 hF221 8 (.int .u8 (c217.toNat : Int)) ?_; intro a222 hF223; clear hF221
     refine nlH (hQ210 _ _ ?_); clear hQ210 hQ210Q
     refine ibn ?_
     refine thn ?_
     have hF224 : Fr 47 [] [⟨0, [], str u0⟩, ⟨7, [], .slice ao200 (x7 ++ [(c188.toNat : Int)]).length cap201⟩, ⟨8, [], .int .u8 (c217.toNat : Int)⟩, ⟨23, [], .int .i64 (u0.length : Int)⟩, ⟨24, [], .int .i64 x24⟩] a222 := hF223.region (by kernel_rfl) (by kernel_rfl); clear hF223
     refine rgH ?_; intro hQ225Q hQ225
     refine s1 hF224 44 (.int .i64 (w64 (x24 + 1))) ?_; intro a226 hF227; clear hF224
     refine s1 hF227 24 (.int .i64 (w64 (x24 + 1))) ?_; intro a228 hF229; clear hF227
     refine nlH (hQ225 _ _ ?_); clear hQ225 hQ225Q
     refine rd ?_
     exact ⟨⟨x7 ++ [(c188.toNat : Int)], (c217.toNat : Int), w64 (x24 + 1), ao200, cap201⟩, hp219.1, hp219.2, (hF229.region (by kernel_rfl) (by kernel_rfl)).anyβ _ (by kernel_rfl), hM207.keep (List.Sublist.cons _ (List.Sublist.cons_cons _ (List.Sublist.slnil)))⟩
   · -- no
    have hp230 := hp83.2 hb87; clear hp83
    refine wp_exit ?_
    refine thx ?_
    refine thx ?_
    refine ibx ?_
    refine thn ?_
    refine sqH ?_; intro hQ231Q hQ231
    refine s1 hF86 45 (.slice aox7 x7.length capx7) ?_; intro a232 hF233; clear hF86
    refine st hF233 (str (bstr x7)) (nog rfl _) rfl (by kernel_rfl) ((by obtain ⟨Z9, hle9, hon9, hs9⟩ := hM82.lend 0 rfl; exact bstr_op hF233 (g := []) (e := 5) (ao := aox7) (cap := capx7) (xs := x7) rfl (by kernel_rfl) (by kernel_rfl) (by kernel_rfl) (by kernel_rfl)  hs9 hon9 rfl)) ?_; intro a234 hF235; clear hF233
    refine s1 hF235 4 (str (bstr x7)) ?_; intro a236 hF237; clear hF235
    refine s1 hF237 5 (.int .i64 0) ?_; intro a238 hF239; clear hF237
    refine nlH (hQ231 _ _ ?_); clear hQ231 hQ231Q
    refine wp_ret ?_
    refine rt (fn := Tryd.f34) (v := .tuple #[str (bstr x7), .int .i64 0]) hF239 (re2 hF239 (fn := Tryd.f34) rfl (by kernel_rfl) (by kernel_rfl)) ?_
    exact ⟨(bstr x7, 0), rfl, hp230, hM82.below⟩

set_option maxRecDepth 100000 in
set_option maxHeartbeats 0 in
theorem putbits_walk (u0 : List UInt8)  (Z : Fz) (w : World)  (hZ : Z.on w) {K : (List UInt8) → Prop} (hp : putbits_vc u0 K) : Calls Tryd.prog 32 #[str u0] w fun e w' => ∃ r : (List UInt8), e = .returned (str r) ∧ K r ∧ Below w.heap.size w w' := by
 refine enter0 Tryd.func32 rfl rfl (by kernel_rfl) ?_; intro a0 hF0; have hM0 := Mem.start w Z hZ; have hle0 := Fz.le.refl Z
 refine sqH ?_; intro hQ1Q hQ1
 refine s1 hF0 2 (str []) ?_; intro a2 hF3; clear hF0
 refine nlH (hQ1 _ _ ?_); clear hQ1 hQ1Q
 refine sqH ?_; intro hQ4Q hQ4
 refine s1 hF3 3 (str []) ?_; intro a5 hF6; clear hF3
 refine nlH (hQ4 _ _ ?_); clear hQ4 hQ4Q
 refine wp_seq ?_
 refine sqH ?_; intro hQ7Q hQ7
 refine s1 hF6 6 (str u0) ?_; intro a8 hF9; clear hF6
 refine s1 hF9 7 (.int .i64 (u0.length : Int)) ?_; intro a10 hF11; clear hF9
 refine s1 hF11 8 (.int .i64 0) ?_; intro a12 hF13; clear hF11
 refine nlH (hQ7 _ _ ?_); clear hQ7 hQ7Q
 refine wp_block ?_
 have hF14 : Fr 45 [] [⟨0, [], str u0⟩, ⟨3, [], str []⟩, ⟨7, [], .int .i64 (u0.length : Int)⟩, ⟨8, [], .int .i64 0⟩] a12 := hF13.region (by kernel_rfl) (by kernel_rfl); clear hF13
 have hF16 : Fr 45 [] [⟨0, [], str u0⟩, ⟨3, [], str []⟩, ⟨7, [], .int .i64 (u0.length : Int)⟩, ⟨8, [], .int .i64 0⟩] a12 := hF14.region (by kernel_rfl) (by kernel_rfl); clear hF14
 obtain ⟨inv15, mu15, hI19, hr18⟩ := hp
 have hle20 := hle0
 refine lp (ι := (List UInt8) × Int × Fz) (fun (s : (List UInt8) × Int × Fz) => [⟨0, [], str u0⟩, ⟨3, [], str s.1⟩, ⟨7, [], .int .i64 (u0.length : Int)⟩, ⟨8, [], .int .i64 s.2.1⟩]) (fun (s : (List UInt8) × Int × Fz) => []) (fun (s : (List UInt8) × Int × Fz) => s.2.2) (fun (s : (List UInt8) × Int × Fz) => inv15 s.1 s.2.1 ∧ Fz.le Z s.2.2) (fun (s : (List UInt8) × Int × Fz) => mu15 s.1 s.2.1) ⟨[], 0, Z⟩ ⟨hI19, Fz.le.refl _⟩ (by exact hF16.region (by kernel_rfl) (by kernel_rfl)) (by exact hM0) ?_
 rintro ⟨x3, x8, ZL15⟩ ⟨hI17, hleL15⟩ a21 wd22 hF23 hM24
 have hF25 : Fr 45 [] [⟨0, [], str u0⟩, ⟨3, [], str x3⟩, ⟨7, [], .int .i64 (u0.length : Int)⟩, ⟨8, [], .int .i64 x8⟩] a21 := hF23; clear hF23 hF16
 have hM26 : Mem w.heap.size [] w Z [] ZL15 wd22 := hM24; clear hM24 hM0
 have hp27 := hr18 x3 x8 hI17
 replace hle0 := Fz.le.trans hle0 hleL15
 refine sqH ?_; intro hQ28Q hQ28
 refine s1 hF25 9 (.bool (decide (x8 < (u0.length : Int)))) ?_; intro a29 hF30; clear hF25
 refine nlH (hQ28 _ _ ?_); clear hQ28 hQ28Q
 refine wp_seq ?_
 refine cd hF30 (t := decide (x8 < (u0.length : Int))) (by kernel_rfl) (fun hb31 => ?_) (fun hb31 => ?_)
 · -- yes
  have hp32 := hp27.1 hb31; clear hp27
  refine wp_skip ?_
  refine thn ?_
  refine wp_seq ?_
  refine wp_block ?_
  refine sqH ?_; intro hQ33Q hQ33
  refine s1 hF30 10 (.int .i64 x8) ?_; intro a34 hF35; clear hF30
  refine s1 hF35 4 (.int .i64 x8) ?_; intro a36 hF37; clear hF35
  refine nlH (hQ33 _ _ ?_); clear hQ33 hQ33Q
  refine sqH ?_; intro hQ38Q hQ38
  refine s1 hF37 11 (str x3) ?_; intro a39 hF40; clear hF37
  refine s1 hF40 12 (str u0) ?_; intro a41 hF42; clear hF40
  refine s1 hF42 13 (.int .i64 x8) ?_; intro a43 hF44; clear hF42
  refine s1 hF44 14 (.int .i64 x8) ?_; intro a45 hF46; clear hF44
  refine s1 hF46 15 (.int .i64 (w64 (x8 + 1))) ?_; intro a47 hF48; clear hF46
  have hc49 := hp32.1; have hp50 := hp32.2; clear hp32
  refine st hF48 (str ((u0.take (w64 (x8 + 1)).toNat).drop x8.toNat)) (nog rfl _) rfl (by kernel_rfl) (strslI_run hF48 (g := []) (k := .i64) (k' := .i64) rfl (by kernel_rfl) (by kernel_rfl) (by kernel_rfl) (by kernel_rfl) hc49 rfl) ?_; intro a51 hF52; clear hF48
  have hc53 := hp50.1; have hp54 := hp50.2; clear hp50
  refine st hF52 (str (x3 ++ ((u0.take (w64 (x8 + 1)).toNat).drop x8.toNat))) (nog rfl _) rfl (by kernel_rfl) (stradd_run hF52 (g := []) rfl (by kernel_rfl) (by kernel_rfl) hc53 rfl) ?_; intro a55 hF56; clear hF52
  refine s1 hF56 3 (str (x3 ++ ((u0.take (w64 (x8 + 1)).toNat).drop x8.toNat))) ?_; intro a57 hF58; clear hF56
  refine nlH (hQ38 _ _ ?_); clear hQ38 hQ38Q
  refine sqH ?_; intro hQ59Q hQ59
  refine s1 hF58 18 (str (x3 ++ ((u0.take (w64 (x8 + 1)).toNat).drop x8.toNat))) ?_; intro a60 hF61; clear hF58
  refine s1 hF61 19 (.int .i64 ((x3 ++ ((u0.take (w64 (x8 + 1)).toNat).drop x8.toNat)).length : Int)) ?_; intro a62 hF63; clear hF61
  refine s1 hF63 5 (.int .i64 ((x3 ++ ((u0.take (w64 (x8 + 1)).toNat).drop x8.toNat)).length : Int)) ?_; intro a64 hF65; clear hF63
  refine nlH (hQ59 _ _ ?_); clear hQ59 hQ59Q
  have hF66 : Fr 45 [] [⟨0, [], str u0⟩, ⟨3, [], str (x3 ++ ((u0.take (w64 (x8 + 1)).toNat).drop x8.toNat))⟩, ⟨5, [], .int .i64 ((x3 ++ ((u0.take (w64 (x8 + 1)).toNat).drop x8.toNat)).length : Int)⟩, ⟨7, [], .int .i64 (u0.length : Int)⟩, ⟨8, [], .int .i64 x8⟩] a64 := hF65.region (by kernel_rfl) (by kernel_rfl); clear hF65
  rcases Bool.eq_false_or_eq_true (decide (((x3 ++ ((u0.take (w64 (x8 + 1)).toNat).drop x8.toNat)).length : Int) ≥ 5)) with hb67 | hb67
  · -- true
   have hp68 := hp54.1 hb67; clear hp54
   have hF69 : Fr 45 [] [⟨0, [], str u0⟩, ⟨3, [], str (x3 ++ ((u0.take (w64 (x8 + 1)).toNat).drop x8.toNat))⟩, ⟨5, [], .int .i64 ((x3 ++ ((u0.take (w64 (x8 + 1)).toNat).drop x8.toNat)).length : Int)⟩, ⟨7, [], .int .i64 (u0.length : Int)⟩, ⟨8, [], .int .i64 x8⟩] a64 := hF66.region (by kernel_rfl) (by kernel_rfl); clear hF66
   refine sqQH mixed (by kernel_rfl) hM26 ?_; intro hQ70Q hQ70
   refine q1 hF69 20 (.int .i64 ((x3 ++ ((u0.take (w64 (x8 + 1)).toNat).drop x8.toNat)).length : Int)) ?_; intro a72 hF73; clear hF69
   refine q1 hF73 21 (.bool (decide (((x3 ++ ((u0.take (w64 (x8 + 1)).toNat).drop x8.toNat)).length : Int) ≥ 5))) ?_; intro a75 hF76; clear hF73
   have hF77 := hF76.reval (d := 21) (c := []) (v := .bool (decide (((x3 ++ ((u0.take (w64 (x8 + 1)).toNat).drop x8.toNat)).length : Int) ≥ 5))) (by kernel_rfl) (.bool true) (by rw [hb67]); clear hF76
   refine q1 hF77 22 (.bool true) ?_; intro a79 hF80; clear hF77
   refine qst hF80 (str (x3 ++ ((u0.take (w64 (x8 + 1)).toNat).drop x8.toNat))) (by rw [wanted_of hF80 (b := true) rfl rfl (by kernel_rfl) (by kernel_rfl)]; rfl) rfl (by kernel_rfl) (fun v81 hC => p0 hF80 (by kernel_rfl)) ?_; intro a82 hF83; clear hF80
   refine qst hF83 (.int .i64 ((x3 ++ ((u0.take (w64 (x8 + 1)).toNat).drop x8.toNat)).length : Int)) (by rw [wanted_of hF83 (b := true) rfl rfl (by kernel_rfl) (by kernel_rfl)]; rfl) rfl (by kernel_rfl) (fun v84 hC => p0 hF83 (by kernel_rfl)) ?_; intro a85 hF86; clear hF83
   refine qst hF86 (.int .i64 (w64 (((x3 ++ ((u0.take (w64 (x8 + 1)).toNat).drop x8.toNat)).length : Int) - 5))) (by rw [wanted_of hF86 (b := true) rfl rfl (by kernel_rfl) (by kernel_rfl)]; rfl) rfl (by kernel_rfl) (fun v87 hC => p0 hF86 (by kernel_rfl)) ?_; intro a88 hF89; clear hF86
   have hc91 := hp68.1; have hp92 := hp68.2; clear hp68
   refine qst hF89 (str ((x3 ++ ((u0.take (w64 (x8 + 1)).toNat).drop x8.toNat)).drop (w64 (((x3 ++ ((u0.take (w64 (x8 + 1)).toNat).drop x8.toNat)).length : Int) - 5)).toNat)) (by rw [wanted_of hF89 (b := true) rfl rfl (by kernel_rfl) (by kernel_rfl)]; rfl) rfl (by kernel_rfl) (fun v90 hC => strslL_run hF89 (g := []) (k := .i64) rfl (by kernel_rfl) (by kernel_rfl) (by kernel_rfl) hc91 rfl) ?_; intro a93 hF94; clear hF89
   refine qst hF94 (str (x3 ++ ((u0.take (w64 (x8 + 1)).toNat).drop x8.toNat))) (by rw [wanted_of hF94 (b := true) rfl rfl (by kernel_rfl) (by kernel_rfl)]; rfl) rfl (by kernel_rfl) (fun v95 hC => p0 hF94 (by kernel_rfl)) ?_; intro a96 hF97; clear hF94
   refine qst hF97 (.int .i64 ((x3 ++ ((u0.take (w64 (x8 + 1)).toNat).drop x8.toNat)).length : Int)) (by rw [wanted_of hF97 (b := true) rfl rfl (by kernel_rfl) (by kernel_rfl)]; rfl) rfl (by kernel_rfl) (fun v98 hC => p0 hF97 (by kernel_rfl)) ?_; intro a99 hF100; clear hF97
   refine qst hF100 (.int .i64 (w64 (((x3 ++ ((u0.take (w64 (x8 + 1)).toNat).drop x8.toNat)).length : Int) - 1))) (by rw [wanted_of hF100 (b := true) rfl rfl (by kernel_rfl) (by kernel_rfl)]; rfl) rfl (by kernel_rfl) (fun v101 hC => p0 hF100 (by kernel_rfl)) ?_; intro a102 hF103; clear hF100
   have hc105 := hp92.1; have hp106 := hp92.2; clear hp92
   refine qst hF103 (str ((x3 ++ ((u0.take (w64 (x8 + 1)).toNat).drop x8.toNat)).drop (w64 (((x3 ++ ((u0.take (w64 (x8 + 1)).toNat).drop x8.toNat)).length : Int) - 1)).toNat)) (by rw [wanted_of hF103 (b := true) rfl rfl (by kernel_rfl) (by kernel_rfl)]; rfl) rfl (by kernel_rfl) (fun v104 hC => strslL_run hF103 (g := []) (k := .i64) rfl (by kernel_rfl) (by kernel_rfl) (by kernel_rfl) hc105 rfl) ?_; intro a107 hF108; clear hF103
   have hc110 := hp106.1; have hp111 := hp106.2; clear hp106
   refine qcl hF108 (.int .i64 (count1S ((x3 ++ ((u0.take (w64 (x8 + 1)).toNat).drop x8.toNat)).drop (w64 (((x3 ++ ((u0.take (w64 (x8 + 1)).toNat).drop x8.toNat)).length : Int) - 5)).toNat) ((x3 ++ ((u0.take (w64 (x8 + 1)).toNat).drop x8.toNat)).drop (w64 (((x3 ++ ((u0.take (w64 (x8 + 1)).toNat).drop x8.toNat)).length : Int) - 1)).toNat))) 42 #[str ((x3 ++ ((u0.take (w64 (x8 + 1)).toNat).drop x8.toNat)).drop (w64 (((x3 ++ ((u0.take (w64 (x8 + 1)).toNat).drop x8.toNat)).length : Int) - 5)).toNat), str ((x3 ++ ((u0.take (w64 (x8 + 1)).toNat).drop x8.toNat)).drop (w64 (((x3 ++ ((u0.take (w64 (x8 + 1)).toNat).drop x8.toNat)).length : Int) - 1)).toNat)] (by rw [wanted_of hF108 (b := true) rfl rfl (by kernel_rfl) (by kernel_rfl)]; rfl) rfl (by kernel_rfl) (fun _ => by kernel_rfl) (qfc fun w hC => count1_fun ((x3 ++ ((u0.take (w64 (x8 + 1)).toNat).drop x8.toNat)).drop (w64 (((x3 ++ ((u0.take (w64 (x8 + 1)).toNat).drop x8.toNat)).length : Int) - 5)).toNat) ((x3 ++ ((u0.take (w64 (x8 + 1)).toNat).drop x8.toNat)).drop (w64 (((x3 ++ ((u0.take (w64 (x8 + 1)).toNat).drop x8.toNat)).length : Int) - 1)).toNat) hc110 _ _ hC.fz) ?_; intro a112 hF113; clear hF108
   refine qst hF113 (.bool ((count1S ((x3 ++ ((u0.take (w64 (x8 + 1)).toNat).drop x8.toNat)).drop (w64 (((x3 ++ ((u0.take (w64 (x8 + 1)).toNat).drop x8.toNat)).length : Int) - 5)).toNat) ((x3 ++ ((u0.take (w64 (x8 + 1)).toNat).drop x8.toNat)).drop (w64 (((x3 ++ ((u0.take (w64 (x8 + 1)).toNat).drop x8.toNat)).length : Int) - 1)).toNat)) == 5)) (by rw [wanted_of hF113 (b := true) rfl rfl (by kernel_rfl) (by kernel_rfl)]; rfl) rfl (by kernel_rfl) (fun v114 hC => p0 hF113 (by kernel_rfl)) ?_; intro a115 hF116; clear hF113
   refine q1 hF116 33 (.bool ((count1S ((x3 ++ ((u0.take (w64 (x8 + 1)).toNat).drop x8.toNat)).drop (w64 (((x3 ++ ((u0.take (w64 (x8 + 1)).toNat).drop x8.toNat)).length : Int) - 5)).toNat) ((x3 ++ ((u0.take (w64 (x8 + 1)).toNat).drop x8.toNat)).drop (w64 (((x3 ++ ((u0.take (w64 (x8 + 1)).toNat).drop x8.toNat)).length : Int) - 1)).toNat)) == 5)) ?_; intro a118 hF119; clear hF116
   refine qnl (hQ70 _ ?_); clear hQ70 hQ70Q; intro wd120 hM121; clear hM26
   refine cd hF119 (t := (count1S ((x3 ++ ((u0.take (w64 (x8 + 1)).toNat).drop x8.toNat)).drop (w64 (((x3 ++ ((u0.take (w64 (x8 + 1)).toNat).drop x8.toNat)).length : Int) - 5)).toNat) ((x3 ++ ((u0.take (w64 (x8 + 1)).toNat).drop x8.toNat)).drop (w64 (((x3 ++ ((u0.take (w64 (x8 + 1)).toNat).drop x8.toNat)).length : Int) - 1)).toNat)) == 5) (by kernel_rfl) (fun hb122 => ?_) (fun hb122 => ?_)
   · -- yes
    have hp123 := hp111.1 hb122; clear hp111
    have hF124 : Fr 45 [] [⟨0, [], str u0⟩, ⟨3, [], str (x3 ++ ((u0.take (w64 (x8 + 1)).toNat).drop x8.toNat))⟩, ⟨5, [], .int .i64 ((x3 ++ ((u0.take (w64 (x8 + 1)).toNat).drop x8.toNat)).length : Int)⟩, ⟨7, [], .int .i64 (u0.length : Int)⟩, ⟨8, [], .int .i64 x8⟩] a118 := hF119.region (by kernel_rfl) (by kernel_rfl); clear hF119
    refine rgH ?_; intro hQ125Q hQ125
    refine s1 hF124 34 (str (x3 ++ ((u0.take (w64 (x8 + 1)).toNat).drop x8.toNat))) ?_; intro a126 hF127; clear hF124
    refine s1 hF127 35 (str (x3 ++ ((u0.take (w64 (x8 + 1)).toNat).drop x8.toNat))) ?_; intro a128 hF129; clear hF127
    refine s1 hF129 36 (.int .i64 ((x3 ++ ((u0.take (w64 (x8 + 1)).toNat).drop x8.toNat)).length : Int)) ?_; intro a130 hF131; clear hF129
    refine s1 hF131 37 (.int .i64 (w64 (((x3 ++ ((u0.take (w64 (x8 + 1)).toNat).drop x8.toNat)).length : Int) - 1))) ?_; intro a132 hF133; clear hF131
    have hc134 := hp123.1; have hp135 := hp123.2; clear hp123
    obtain ⟨c136, hq137⟩ : ∃ q, (x3 ++ ((u0.take (w64 (x8 + 1)).toNat).drop x8.toNat))[(w64 (((x3 ++ ((u0.take (w64 (x8 + 1)).toNat).drop x8.toNat)).length : Int) - 1)).toNat]? = some q := ⟨_, List.getElem?_eq_getElem (by omega)⟩; have hp138 := hp135 c136 hq137
    refine st hF133 (.int .u8 (c136.toNat : Int)) (nog rfl _) rfl (by kernel_rfl) (stridx_run hF133 (k := .i64) rfl (by kernel_rfl) (by kernel_rfl) (by kernel_rfl) hc134.1 hq137) ?_; intro a139 hF140; clear hF133
    refine fcl hF140 hM121 (.int .u8 (rother (c136.toNat : Int))) 51 #[.int .u8 (c136.toNat : Int)] (nog rfl _) rfl (by kernel_rfl) (fun _ => by kernel_rfl) (rother_fun (c136.toNat : Int) _ _ hM121.fz) ?_; intro a141 wd143 hF142 hM144; clear hF140 hM121
    refine sn hF142 hM144 (fun b => .slice (some ⟨b, 0, none⟩) 1 1) [.int .u8 (rother (c136.toNat : Int))] 5 (nog rfl _) rfl (by kernel_rfl) (by kernel_rfl) ?_; intro b145 a146 wd148 hF147 hM149; clear hF142 hM144
    have hM150 : Mem w.heap.size [] w Z [.own (tyInt .u8) 5 (some ⟨b145, 0, none⟩) 1 ([(rother (c136.toNat : Int))] : List Int)] ZL15 wd148 := hM149.rowOwn (T := (tyInt .u8)) (xs := ([(rother (c136.toNat : Int))] : List Int)) 0 rfl (by decide) (by show 1 ≤ lim; decide) (RepAll.one (T := (tyInt .u8)) (x := (rother (c136.toNat : Int))) rfl); clear hM149
    obtain ⟨Z151, hle152, hM153, hs154⟩ := hM150.freeze 0 rfl
    replace hleL15 := hleL15.mono hle152
    replace hle0 := Fz.le.trans hle0 hle152
    have hM155 : Mem w.heap.size [] w Z [] Z151 wd148 := hM153; clear hM153
    refine st hF147 (str (bstr ([(rother (c136.toNat : Int))] : List Int))) (nog rfl _) rfl (by kernel_rfl) (bstr_op hF147 (g := []) (e := 5) (ao := (some ⟨b145, 0, none⟩)) (cap := 1) (xs := ([(rother (c136.toNat : Int))] : List Int)) rfl (by kernel_rfl) (by kernel_rfl) (by kernel_rfl) (by kernel_rfl) hs154 hM155.fz rfl) ?_; intro a156 hF157; clear hF147
    have hc158 := hp138.1; have hp159 := hp138.2; clear hp138
    refine st hF157 (str ((x3 ++ ((u0.take (w64 (x8 + 1)).toNat).drop x8.toNat)) ++ (bstr ([(rother (c136.toNat : Int))] : List Int)))) (nog rfl _) rfl (by kernel_rfl) (stradd_run hF157 (g := []) rfl (by kernel_rfl) (by kernel_rfl) hc158 rfl) ?_; intro a160 hF161; clear hF157
    refine s1 hF161 3 (str ((x3 ++ ((u0.take (w64 (x8 + 1)).toNat).drop x8.toNat)) ++ (bstr ([(rother (c136.toNat : Int))] : List Int)))) ?_; intro a162 hF163; clear hF161
    refine nlH (hQ125 _ _ ?_); clear hQ125 hQ125Q
    refine ibn ?_
    refine thn ?_
    refine rgH ?_; intro hQ164Q hQ164
    refine s1 hF163 43 (.int .i64 (w64 (x8 + 1))) ?_; intro a165 hF166; clear hF163
    refine s1 hF166 8 (.int .i64 (w64 (x8 + 1))) ?_; intro a167 hF168; clear hF166
    refine nlH (hQ164 _ _ ?_); clear hQ164 hQ164Q
    refine rd ?_
    exact ⟨⟨(x3 ++ ((u0.take (w64 (x8 + 1)).toNat).drop x8.toNat)) ++ (bstr ([(rother (c136.toNat : Int))] : List Int)), w64 (x8 + 1), Z151⟩, ⟨hp159.1, hleL15⟩, hp159.2, (hF168.region (by kernel_rfl) (by kernel_rfl)).anyβ _ (by kernel_rfl), hM155.keep (List.Sublist.slnil)⟩
   · -- no
    have hp169 := hp111.2 hb122; clear hp111
    refine wp_skip ?_
    refine ibn ?_
    refine thn ?_
    have hF170 : Fr 45 [] [⟨0, [], str u0⟩, ⟨3, [], str (x3 ++ ((u0.take (w64 (x8 + 1)).toNat).drop x8.toNat))⟩, ⟨7, [], .int .i64 (u0.length : Int)⟩, ⟨8, [], .int .i64 x8⟩] a118 := hF119.region (by kernel_rfl) (by kernel_rfl); clear hF119
    refine rgH ?_; intro hQ171Q hQ171
    refine s1 hF170 43 (.int .i64 (w64 (x8 + 1))) ?_; intro a172 hF173; clear hF170
    refine s1 hF173 8 (.int .i64 (w64 (x8 + 1))) ?_; intro a174 hF175; clear hF173
    refine nlH (hQ171 _ _ ?_); clear hQ171 hQ171Q
    refine rd ?_
    exact ⟨⟨x3 ++ ((u0.take (w64 (x8 + 1)).toNat).drop x8.toNat), w64 (x8 + 1), ZL15⟩, ⟨hp169.1, hleL15⟩, hp169.2, (hF175.region (by kernel_rfl) (by kernel_rfl)).anyβ _ (by kernel_rfl), hM121.keep (List.Sublist.slnil)⟩
  · -- false
   have hp176 := hp54.2 hb67; clear hp54
   have hF177 : Fr 45 [] [⟨0, [], str u0⟩, ⟨3, [], str (x3 ++ ((u0.take (w64 (x8 + 1)).toNat).drop x8.toNat))⟩, ⟨5, [], .int .i64 ((x3 ++ ((u0.take (w64 (x8 + 1)).toNat).drop x8.toNat)).length : Int)⟩, ⟨7, [], .int .i64 (u0.length : Int)⟩, ⟨8, [], .int .i64 x8⟩] a64 := hF66.region (by kernel_rfl) (by kernel_rfl); clear hF66
   refine sqQH mixed (by kernel_rfl) hM26 ?_; intro hQ178Q hQ178
   refine q1 hF177 20 (.int .i64 ((x3 ++ ((u0.take (w64 (x8 + 1)).toNat).drop x8.toNat)).length : Int)) ?_; intro a180 hF181; clear hF177
   refine q1 hF181 21 (.bool (decide (((x3 ++ ((u0.take (w64 (x8 + 1)).toNat).drop x8.toNat)).length : Int) ≥ 5))) ?_; intro a183 hF184; clear hF181
   have hF185 := hF184.reval (d := 21) (c := []) (v := .bool (decide (((x3 ++ ((u0.take (w64 (x8 + 1)).toNat).drop x8.toNat)).length : Int) ≥ 5))) (by kernel_rfl) (.bool false) (by rw [hb67]); clear hF184
   refine q1 hF185 22 (.bool false) ?_; intro a187 hF188; clear hF185
   refine qsk hF188 (b := false) rfl rfl (by kernel_rfl) (by kernel_rfl) rfl rfl (by kernel_rfl) ?_; intro a189 hF190; clear hF188
   refine qsk hF190 (b := false) rfl rfl (by kernel_rfl) (by kernel_rfl) rfl rfl (by kernel_rfl) ?_; intro a191 hF192; clear hF190
   refine qsk hF192 (b := false) rfl rfl (by kernel_rfl) (by kernel_rfl) rfl rfl (by kernel_rfl) ?_; intro a193 hF194; clear hF192
   refine qsk hF194 (b := false) rfl rfl (by kernel_rfl) (by kernel_rfl) rfl rfl (by kernel_rfl) ?_; intro a195 hF196; clear hF194
   refine qsk hF196 (b := false) rfl rfl (by kernel_rfl) (by kernel_rfl) rfl rfl (by kernel_rfl) ?_; intro a197 hF198; clear hF196
   refine qsk hF198 (b := false) rfl rfl (by kernel_rfl) (by kernel_rfl) rfl rfl (by kernel_rfl) ?_; intro a199 hF200; clear hF198
   refine qsk hF200 (b := false) rfl rfl (by kernel_rfl) (by kernel_rfl) rfl rfl (by kernel_rfl) ?_; intro a201 hF202; clear hF200
   refine qsk hF202 (b := false) rfl rfl (by kernel_rfl) (by kernel_rfl) rfl rfl (by kernel_rfl) ?_; intro a203 hF204; clear hF202
   refine qsk hF204 (b := false) rfl rfl (by kernel_rfl) (by kernel_rfl) rfl rfl (by kernel_rfl) ?_; intro a205 hF206; clear hF204
   refine qsk hF206 (b := false) rfl rfl (by kernel_rfl) (by kernel_rfl) rfl rfl (by kernel_rfl) ?_; intro a207 hF208; clear hF206
   refine q1 hF208 33 (.bool false) ?_; intro a210 hF211; clear hF208
   refine qnl (hQ178 _ ?_); clear hQ178 hQ178Q; intro wd212 hM213; clear hM26
   refine cdF hF211 (by kernel_rfl) ?_
   refine wp_skip ?_
   refine ibn ?_
   refine thn ?_
   have hF214 : Fr 45 [] [⟨0, [], str u0⟩, ⟨3, [], str (x3 ++ ((u0.take (w64 (x8 + 1)).toNat).drop x8.toNat))⟩, ⟨7, [], .int .i64 (u0.length : Int)⟩, ⟨8, [], .int .i64 x8⟩] a210 := hF211.region (by kernel_rfl) (by kernel_rfl); clear hF211
   refine rgH ?_; intro hQ215Q hQ215
   refine s1 hF214 43 (.int .i64 (w64 (x8 + 1))) ?_; intro a216 hF217; clear hF214
   refine s1 hF217 8 (.int .i64 (w64 (x8 + 1))) ?_; intro a218 hF219; clear hF217
   refine nlH (hQ215 _ _ ?_); clear hQ215 hQ215Q
   refine rd ?_
   exact ⟨⟨x3 ++ ((u0.take (w64 (x8 + 1)).toNat).drop x8.toNat), w64 (x8 + 1), ZL15⟩, ⟨hp176.1, hleL15⟩, hp176.2, (hF219.region (by kernel_rfl) (by kernel_rfl)).anyβ _ (by kernel_rfl), hM213.keep (List.Sublist.slnil)⟩
 · -- no
  have hp220 := hp27.2 hb31; clear hp27
  refine wp_exit ?_
  refine thx ?_
  refine thx ?_
  refine ibx ?_
  refine thn ?_
  refine sqH ?_; intro hQ221Q hQ221
  refine s1 hF30 44 (str x3) ?_; intro a222 hF223; clear hF30
  refine s1 hF223 2 (str x3) ?_; intro a224 hF225; clear hF223
  refine nlH (hQ221 _ _ ?_); clear hQ221 hQ221Q
  refine wp_ret ?_
  refine rt (fn := Tryd.f32) (v := str x3) hF225 (re1 hF225 (fn := Tryd.f32) rfl (by kernel_rfl)) ?_
  exact ⟨x3, rfl, hp220, hM26.below⟩

set_option maxRecDepth 100000 in
set_option maxHeartbeats 0 in
theorem takebits_walk (u0 : List UInt8) (u1 : Int)  (Z : Fz) (w : World)  (hZ : Z.on w) {K : ((List UInt8) × Int × Int) → Prop} (hp : takebits_vc u0 u1 K) : Calls Tryd.prog 33 #[str u0, .int .i64 u1] w fun e w' => ∃ r : (List UInt8) × Int × Int, e = .returned (.tuple #[str r.1, .int .i64 r.2.1, .int .i64 r.2.2]) ∧ K r ∧ Below w.heap.size w w' := by
 refine enter0 Tryd.func33 rfl rfl (by kernel_rfl) ?_; intro a0 hF0; have hM0 := Mem.start w Z hZ; have hle0 := Fz.le.refl Z
 refine sqH ?_; intro hQ1Q hQ1
 refine s1 hF0 4 (str []) ?_; intro a2 hF3; clear hF0
 refine s1 hF3 5 (.int .i64 0) ?_; intro a4 hF5; clear hF3
 refine s1 hF5 6 (.int .i64 0) ?_; intro a6 hF7; clear hF5
 refine nlH (hQ1 _ _ ?_); clear hQ1 hQ1Q
 refine sqH ?_; intro hQ8Q hQ8
 refine s1 hF7 7 (str []) ?_; intro a9 hF10; clear hF7
 refine nlH (hQ8 _ _ ?_); clear hQ8 hQ8Q
 refine sqH ?_; intro hQ11Q hQ11
 refine s1 hF10 8 (.int .i64 0) ?_; intro a12 hF13; clear hF10
 refine nlH (hQ11 _ _ ?_); clear hQ11 hQ11Q
 refine wp_seq ?_
 refine wp_block ?_
 have hF14 : Fr 52 [] [⟨0, [], str u0⟩, ⟨1, [], .int .i64 u1⟩, ⟨7, [], str []⟩, ⟨8, [], .int .i64 0⟩] a12 := hF13.region (by kernel_rfl) (by kernel_rfl); clear hF13
 have hF16 : Fr 52 [] [⟨0, [], str u0⟩, ⟨1, [], .int .i64 u1⟩, ⟨7, [], str []⟩, ⟨8, [], .int .i64 0⟩] a12 := hF14.region (by kernel_rfl) (by kernel_rfl); clear hF14
 obtain ⟨inv15, mu15, hI19, hr18⟩ := hp
 refine lp (ι := (List UInt8) × Int) (fun (s : (List UInt8) × Int) => [⟨0, [], str u0⟩, ⟨1, [], .int .i64 u1⟩, ⟨7, [], str s.1⟩, ⟨8, [], .int .i64 s.2⟩]) (fun (s : (List UInt8) × Int) => []) (fun (s : (List UInt8) × Int) => Z) (fun (s : (List UInt8) × Int) => inv15 s.1 s.2) (fun (s : (List UInt8) × Int) => mu15 s.1 s.2) ⟨[], 0⟩ hI19 (by exact hF16.region (by kernel_rfl) (by kernel_rfl)) (by exact hM0) ?_
 rintro ⟨x7, x8⟩ hI17 a21 wd22 hF23 hM24
 have hF25 : Fr 52 [] [⟨0, [], str u0⟩, ⟨1, [], .int .i64 u1⟩, ⟨7, [], str x7⟩, ⟨8, [], .int .i64 x8⟩] a21 := hF23; clear hF23 hF16
 have hM26 : Mem w.heap.size [] w Z [] Z wd22 := hM24; clear hM24 hM0
 have hp27 := hr18 x7 x8 hI17
 refine wp_seq ?_
 refine sqH ?_; intro hQ28Q hQ28
 refine s1 hF25 9 (str x7) ?_; intro a29 hF30; clear hF25
 refine s1 hF30 10 (.int .i64 (x7.length : Int)) ?_; intro a31 hF32; clear hF30
 refine s1 hF32 11 (.int .i64 u1) ?_; intro a33 hF34; clear hF32
 refine s1 hF34 12 (.bool (decide ((x7.length : Int) < u1))) ?_; intro a35 hF36; clear hF34
 refine nlH (hQ28 _ _ ?_); clear hQ28 hQ28Q
 refine cd hF36 (t := decide ((x7.length : Int) < u1)) (by kernel_rfl) (fun hb37 => ?_) (fun hb37 => ?_)
 · -- yes
  have hp38 := hp27.1 hb37; clear hp27
  refine wp_skip ?_
  refine thn ?_
  refine wp_block ?_
  refine wp_seq ?_
  refine sqH ?_; intro hQ39Q hQ39
  refine s1 hF36 13 (.int .i64 x8) ?_; intro a40 hF41; clear hF36
  refine s1 hF41 14 (str u0) ?_; intro a42 hF43; clear hF41
  refine s1 hF43 15 (.int .i64 (u0.length : Int)) ?_; intro a44 hF45; clear hF43
  refine s1 hF45 16 (.bool (x8 == (u0.length : Int))) ?_; intro a46 hF47; clear hF45
  refine nlH (hQ39 _ _ ?_); clear hQ39 hQ39Q
  refine cd hF47 (t := x8 == (u0.length : Int)) (by kernel_rfl) (fun hb48 => ?_) (fun hb48 => ?_)
  · -- yes
   have hp49 := hp38.1 hb48; clear hp38
   refine sqH ?_; intro hQ50Q hQ50
   refine s1 hF47 4 (str []) ?_; intro a51 hF52; clear hF47
   refine s1 hF52 5 (.int .i64 0) ?_; intro a53 hF54; clear hF52
   refine s1 hF54 6 (.int .i64 7) ?_; intro a55 hF56; clear hF54
   refine nlH (hQ50 _ _ ?_); clear hQ50 hQ50Q
   refine wp_ret ?_
   refine thr ?_
   refine ibr ?_
   refine thr ?_
   refine ibr ?_
   refine thr ?_
   refine rt (fn := Tryd.f33) (v := .tuple #[str [], .int .i64 0, .int .i64 7]) hF56 (re3 hF56 (fn := Tryd.f33) rfl (by kernel_rfl) (by kernel_rfl) (by kernel_rfl)) ?_
   exact ⟨([], 0, 7), rfl, hp49, hM26.below⟩
  · -- no
   have hp57 := hp38.2 hb48; clear hp38
   refine wp_skip ?_
   refine thn ?_
   refine sqH ?_; intro hQ58Q hQ58
   refine s1 hF47 17 (str x7) ?_; intro a59 hF60; clear hF47
   refine s1 hF60 18 (str u0) ?_; intro a61 hF62; clear hF60
   refine s1 hF62 19 (.int .i64 x8) ?_; intro a63 hF64; clear hF62
   refine s1 hF64 20 (.int .i64 x8) ?_; intro a65 hF66; clear hF64
   refine s1 hF66 21 (.int .i64 (w64 (x8 + 1))) ?_; intro a67 hF68; clear hF66
   have hc69 := hp57.1; have hp70 := hp57.2; clear hp57
   refine st hF68 (str ((u0.take (w64 (x8 + 1)).toNat).drop x8.toNat)) (nog rfl _) rfl (by kernel_rfl) (strslI_run hF68 (g := []) (k := .i64) (k' := .i64) rfl (by kernel_rfl) (by kernel_rfl) (by kernel_rfl) (by kernel_rfl) hc69 rfl) ?_; intro a71 hF72; clear hF68
   have hc73 := hp70.1; have hp74 := hp70.2; clear hp70
   refine st hF72 (str (x7 ++ ((u0.take (w64 (x8 + 1)).toNat).drop x8.toNat))) (nog rfl _) rfl (by kernel_rfl) (stradd_run hF72 (g := []) rfl (by kernel_rfl) (by kernel_rfl) hc73 rfl) ?_; intro a75 hF76; clear hF72
   refine s1 hF76 7 (str (x7 ++ ((u0.take (w64 (x8 + 1)).toNat).drop x8.toNat))) ?_; intro a77 hF78; clear hF76
   refine nlH (hQ58 _ _ ?_); clear hQ58 hQ58Q
   have hF79 : Fr 52 [] [⟨0, [], str u0⟩, ⟨1, [], .int .i64 u1⟩, ⟨7, [], str (x7 ++ ((u0.take (w64 (x8 + 1)).toNat).drop x8.toNat))⟩, ⟨8, [], .int .i64 x8⟩] a77 := hF78.region (by kernel_rfl) (by kernel_rfl); clear hF78
   refine sqH ?_; intro hQ80Q hQ80
   refine s1 hF79 24 (.int .i64 x8) ?_; intro a81 hF82; clear hF79
   refine s1 hF82 25 (.int .i64 (w64 (x8 + 1))) ?_; intro a83 hF84; clear hF82
   refine s1 hF84 8 (.int .i64 (w64 (x8 + 1))) ?_; intro a85 hF86; clear hF84
   refine nlH (hQ80 _ _ ?_); clear hQ80 hQ80Q
   refine sqH ?_; intro hQ87Q hQ87
   refine s1 hF86 26 (.int .i64 (w64 (x8 + 1))) ?_; intro a88 hF89; clear hF86
   refine s1 hF89 27 (.bool (decide ((w64 (x8 + 1)) ≥ 5))) ?_; intro a90 hF91; clear hF89
   refine s1 hF91 28 (.bool (decide ((w64 (x8 + 1)) ≥ 5))) ?_; intro a92 hF93; clear hF91
   have hF94 := hF93.atom ((decide ((w64 (x8 + 1)) ≥ 5)) == true) (by kernel_rfl); clear hF93
   refine gp hF94 29 0 [] (decide ((w64 (x8 + 1)) ≥ 5)) (str u0) rfl rfl ?_; intro a95 hF96; clear hF94
   refine gp hF96 30 0 [] (decide ((w64 (x8 + 1)) ≥ 5)) (.int .i64 (w64 (x8 + 1))) rfl rfl ?_; intro a97 hF98; clear hF96
   refine gp hF98 31 0 [] (decide ((w64 (x8 + 1)) ≥ 5)) (.int .i64 (w64 ((w64 (x8 + 1)) - 5))) rfl rfl ?_; intro a99 hF100; clear hF98
   refine gp hF100 32 0 [] (decide ((w64 (x8 + 1)) ≥ 5)) (.int .i64 (w64 (x8 + 1))) rfl rfl ?_; intro a101 hF102; clear hF100
   rcases Bool.eq_false_or_eq_true (decide ((w64 (x8 + 1)) ≥ 5)) with hb103 | hb103
   · -- true
    have hp104 := hp74.1 hb103; clear hp74
    have hF105 := hF102.reval (d := 28) (c := []) (v := .bool (decide ((w64 (x8 + 1)) ≥ 5))) (by kernel_rfl) (.bool true) (by rw [hb103]); clear hF102
    have hF106 := hF105.setc (d := 29) (c := [0]) (v := str u0) (by kernel_rfl) (v' := str u0) (by rw [hb103]; kernel_rfl); clear hF105
    have hF107 := hF106.setc (d := 30) (c := [0]) (v := .int .i64 (w64 (x8 + 1))) (by kernel_rfl) (v' := .int .i64 (w64 (x8 + 1))) (by rw [hb103]; kernel_rfl); clear hF106
    have hF108 := hF107.setc (d := 31) (c := [0]) (v := .int .i64 (w64 ((w64 (x8 + 1)) - 5))) (by kernel_rfl) (v' := .int .i64 (w64 ((w64 (x8 + 1)) - 5))) (by rw [hb103]; kernel_rfl); clear hF107
    have hF109 := hF108.setc (d := 32) (c := [0]) (v := .int .i64 (w64 (x8 + 1))) (by kernel_rfl) (v' := .int .i64 (w64 (x8 + 1))) (by rw [hb103]; kernel_rfl); clear hF108
    have hc110 := hp104.1; have hp111 := hp104.2; clear hp104
    refine st hF109 (str ((u0.take (w64 (x8 + 1)).toNat).drop (w64 ((w64 (x8 + 1)) - 5)).toNat)) (by rw [wanted_of hF109 (b := true) rfl rfl (by kernel_rfl) (by kernel_rfl)]; rfl) rfl (by kernel_rfl) (strslI_run hF109 (g := []) (k := .i64) (k' := .i64) rfl (by kernel_rfl) (by kernel_rfl) (by kernel_rfl) (by kernel_rfl) hc110 rfl) ?_; intro a112 hF113; clear hF109
    have hc114 := hp111.1; have hp115 := hp111.2; clear hp111
    refine fcl hF113 hM26 (.bool (rsameS ((u0.take (w64 (x8 + 1)).toNat).drop (w64 ((w64 (x8 + 1)) - 5)).toNat))) 52 #[str ((u0.take (w64 (x8 + 1)).toNat).drop (w64 ((w64 (x8 + 1)) - 5)).toNat)] (by rw [wanted_of hF113 (b := true) rfl rfl (by kernel_rfl) (by kernel_rfl)]; rfl) rfl (by kernel_rfl) (fun _ => by kernel_rfl) (rsame_fun ((u0.take (w64 (x8 + 1)).toNat).drop (w64 ((w64 (x8 + 1)) - 5)).toNat) hc114 _ _ hM26.fz) ?_; intro a116 wd118 hF117 hM119; clear hF113 hM26
    refine s1 hF117 35 (.bool (rsameS ((u0.take (w64 (x8 + 1)).toNat).drop (w64 ((w64 (x8 + 1)) - 5)).toNat))) ?_; intro a120 hF121; clear hF117
    refine nlH (hQ87 _ _ ?_); clear hQ87 hQ87Q
    refine cd hF121 (t := (rsameS ((u0.take (w64 (x8 + 1)).toNat).drop (w64 ((w64 (x8 + 1)) - 5)).toNat))) (by kernel_rfl) (fun hb122 => ?_) (fun hb122 => ?_)
    · -- yes
     have hp123 := hp115.1 hb122; clear hp115
     refine wp_seq ?_
     have hF124 : Fr 52 [] [⟨0, [], str u0⟩, ⟨1, [], .int .i64 u1⟩, ⟨7, [], str (x7 ++ ((u0.take (w64 (x8 + 1)).toNat).drop x8.toNat))⟩, ⟨8, [], .int .i64 (w64 (x8 + 1))⟩] a120 := hF121.region (by kernel_rfl) (by kernel_rfl); clear hF121
     refine sqH ?_; intro hQ125Q hQ125
     refine s1 hF124 36 (.int .i64 (w64 (x8 + 1))) ?_; intro a126 hF127; clear hF124
     refine s1 hF127 37 (str u0) ?_; intro a128 hF129; clear hF127
     refine s1 hF129 38 (.int .i64 (u0.length : Int)) ?_; intro a130 hF131; clear hF129
     refine s1 hF131 39 (.bool ((w64 (x8 + 1)) == (u0.length : Int))) ?_; intro a132 hF133; clear hF131
     refine nlH (hQ125 _ _ ?_); clear hQ125 hQ125Q
     refine cd hF133 (t := (w64 (x8 + 1)) == (u0.length : Int)) (by kernel_rfl) (fun hb134 => ?_) (fun hb134 => ?_)
     · -- yes
      have hp135 := hp123.1 hb134; clear hp123
      refine sqH ?_; intro hQ136Q hQ136
      refine s1 hF133 4 (str []) ?_; intro a137 hF138; clear hF133
      refine s1 hF138 5 (.int .i64 0) ?_; intro a139 hF140; clear hF138
      refine s1 hF140 6 (.int .i64 7) ?_; intro a141 hF142; clear hF140
      refine nlH (hQ136 _ _ ?_); clear hQ136 hQ136Q
      refine wp_ret ?_
      refine thr ?_
      refine ibr ?_
      refine thr ?_
      refine ibr ?_
      refine thr ?_
      refine rt (fn := Tryd.f33) (v := .tuple #[str [], .int .i64 0, .int .i64 7]) hF142 (re3 hF142 (fn := Tryd.f33) rfl (by kernel_rfl) (by kernel_rfl) (by kernel_rfl)) ?_
      exact ⟨([], 0, 7), rfl, hp135, hM119.below⟩
     · -- no
      have hp143 := hp123.2 hb134; clear hp123
      refine wp_skip ?_
      refine thn ?_
      refine wp_seq ?_
      have hF144 : Fr 52 [] [⟨0, [], str u0⟩, ⟨1, [], .int .i64 u1⟩, ⟨7, [], str (x7 ++ ((u0.take (w64 (x8 + 1)).toNat).drop x8.toNat))⟩, ⟨8, [], .int .i64 (w64 (x8 + 1))⟩] a132 := hF133.region (by kernel_rfl) (by kernel_rfl); clear hF133
      refine sqQH mixed (by kernel_rfl) hM119 ?_; intro hQ145Q hQ145
      refine q1 hF144 40 (str u0) ?_; intro a147 hF148; clear hF144
      refine q1 hF148 41 (.int .i64 (w64 (x8 + 1))) ?_; intro a150 hF151; clear hF148
      have hc153 := hp143.1; have hp154 := hp143.2; clear hp143
      obtain ⟨c155, hq156⟩ : ∃ q, u0[(w64 (x8 + 1)).toNat]? = some q := ⟨_, List.getElem?_eq_getElem (by omega)⟩; have hp157 := hp154 c155 hq156
      refine qst hF151 (.int .u8 (c155.toNat : Int)) (nog rfl _) rfl (by kernel_rfl) (fun v152 hC => stridx_run hF151 (k := .i64) rfl (by kernel_rfl) (by kernel_rfl) (by kernel_rfl) hc153.1 hq156) ?_; intro a158 hF159; clear hF151
      refine q1 hF159 43 (str u0) ?_; intro a161 hF162; clear hF159
      refine q1 hF162 44 (.int .i64 (w64 (x8 + 1))) ?_; intro a164 hF165; clear hF162
      refine q1 hF165 45 (.int .i64 (w64 ((w64 (x8 + 1)) - 1))) ?_; intro a167 hF168; clear hF165
      have hc170 := hp157.1; have hp171 := hp157.2; clear hp157
      obtain ⟨c172, hq173⟩ : ∃ q, u0[(w64 ((w64 (x8 + 1)) - 1)).toNat]? = some q := ⟨_, List.getElem?_eq_getElem (by omega)⟩; have hp174 := hp171 c172 hq173
      refine qst hF168 (.int .u8 (c172.toNat : Int)) (nog rfl _) rfl (by kernel_rfl) (fun v169 hC => stridx_run hF168 (k := .i64) rfl (by kernel_rfl) (by kernel_rfl) (by kernel_rfl) hc170.1 hq173) ?_; intro a175 hF176; clear hF168
      refine q1 hF176 47 (.bool ((c155.toNat : Int) == (c172.toNat : Int))) ?_; intro a178 hF179; clear hF176
      refine qnl (hQ145 _ ?_); clear hQ145 hQ145Q; intro wd180 hM181; clear hM119
      refine cd hF179 (t := (c155.toNat : Int) == (c172.toNat : Int)) (by kernel_rfl) (fun hb182 => ?_) (fun hb182 => ?_)
      · -- yes
       have hp183 := hp174.1 hb182; clear hp174
       refine sqH ?_; intro hQ184Q hQ184
       refine s1 hF179 4 (str []) ?_; intro a185 hF186; clear hF179
       refine s1 hF186 5 (.int .i64 0) ?_; intro a187 hF188; clear hF186
       refine s1 hF188 6 (.int .i64 5) ?_; intro a189 hF190; clear hF188
       refine nlH (hQ184 _ _ ?_); clear hQ184 hQ184Q
       refine wp_ret ?_
       refine thr ?_
       refine ibr ?_
       refine thr ?_
       refine ibr ?_
       refine thr ?_
       refine rt (fn := Tryd.f33) (v := .tuple #[str [], .int .i64 0, .int .i64 5]) hF190 (re3 hF190 (fn := Tryd.f33) rfl (by kernel_rfl) (by kernel_rfl) (by kernel_rfl)) ?_
       exact ⟨([], 0, 5), rfl, hp183, hM181.below⟩
      · -- no
       have hp191 := hp174.2 hb182; clear hp174
       refine wp_skip ?_
       refine thn ?_
       refine rgH ?_; intro hQ192Q hQ192
       refine s1 hF179 48 (.int .i64 (w64 (x8 + 1))) ?_; intro a193 hF194; clear hF179
       refine s1 hF194 49 (.int .i64 (w64 ((w64 (x8 + 1)) + 1))) ?_; intro a195 hF196; clear hF194
       refine s1 hF196 8 (.int .i64 (w64 ((w64 (x8 + 1)) + 1))) ?_; intro a197 hF198; clear hF196
       refine nlH (hQ192 _ _ ?_); clear hQ192 hQ192Q
       refine ibn ?_
       refine rd ?_
       exact ⟨⟨x7 ++ ((u0.take (w64 (x8 + 1)).toNat).drop x8.toNat), w64 ((w64 (x8 + 1)) + 1)⟩, hp191.1, hp191.2, (hF198.region (by kernel_rfl) (by kernel_rfl)).anyβ _ (by kernel_rfl), hM181.keep (List.Sublist.slnil)⟩
    · -- no
     have hp199 := hp115.2 hb122; clear hp115
     refine wp_skip ?_
     refine ibn ?_
     refine rd ?_
     exact ⟨⟨x7 ++ ((u0.take (w64 (x8 + 1)).toNat).drop x8.toNat), w64 (x8 + 1)⟩, hp199.1, hp199.2, (hF121.region (by kernel_rfl) (by kernel_rfl)).anyβ _ (by kernel_rfl), hM119.keep (List.Sublist.slnil)⟩
   · -- false
    have hp200 := hp74.2 hb103; clear hp74
    have hF201 := hF102.reval (d := 28) (c := []) (v := .bool (decide ((w64 (x8 + 1)) ≥ 5))) (by kernel_rfl) (.bool false) (by rw [hb103]); clear hF102
    have hF202 := hF201.setc (d := 29) (c := [0]) (v := str u0) (by kernel_rfl) (v' := undef) (by rw [hb103]; kernel_rfl); clear hF201
    have hF203 := hF202.setc (d := 30) (c := [0]) (v := .int .i64 (w64 (x8 + 1))) (by kernel_rfl) (v' := undef) (by rw [hb103]; kernel_rfl); clear hF202
    have hF204 := hF203.setc (d := 31) (c := [0]) (v := .int .i64 (w64 ((w64 (x8 + 1)) - 5))) (by kernel_rfl) (v' := undef) (by rw [hb103]; kernel_rfl); clear hF203
    have hF205 := hF204.setc (d := 32) (c := [0]) (v := .int .i64 (w64 (x8 + 1))) (by kernel_rfl) (v' := undef) (by rw [hb103]; kernel_rfl); clear hF204
    refine sk hF205 (b := false) rfl rfl (by kernel_rfl) (by kernel_rfl) rfl rfl (by kernel_rfl) ?_; intro a206 hF207; clear hF205
    refine sk hF207 (b := false) rfl rfl (by kernel_rfl) (by kernel_rfl) rfl rfl (by kernel_rfl) ?_; intro a208 hF209; clear hF207
    refine s1 hF209 35 (.bool false) ?_; intro a210 hF211; clear hF209
    refine nlH (hQ87 _ _ ?_); clear hQ87 hQ87Q
    refine cdF hF211 (by kernel_rfl) ?_
    refine wp_skip ?_
    refine ibn ?_
    refine rd ?_
    exact ⟨⟨x7 ++ ((u0.take (w64 (x8 + 1)).toNat).drop x8.toNat), w64 (x8 + 1)⟩, hp200.1, hp200.2, (hF211.region (by kernel_rfl) (by kernel_rfl)).anyβ _ (by kernel_rfl), hM26.keep (List.Sublist.slnil)⟩
 · -- no
  have hp212 := hp27.2 hb37; clear hp27
  refine wp_exit ?_
  refine thx ?_
  refine thx ?_
  refine ibx ?_
  refine thn ?_
  refine sqH ?_; intro hQ213Q hQ213
  refine s1 hF36 50 (str x7) ?_; intro a214 hF215; clear hF36
  refine s1 hF215 51 (.int .i64 x8) ?_; intro a216 hF217; clear hF215
  refine s1 hF217 4 (str x7) ?_; intro a218 hF219; clear hF217
  refine s1 hF219 5 (.int .i64 x8) ?_; intro a220 hF221; clear hF219
  refine s1 hF221 6 (.int .i64 0) ?_; intro a222 hF223; clear hF221
  refine nlH (hQ213 _ _ ?_); clear hQ213 hQ213Q
  refine wp_ret ?_
  refine rt (fn := Tryd.f33) (v := .tuple #[str x7, .int .i64 x8, .int .i64 0]) hF223 (re3 hF223 (fn := Tryd.f33) rfl (by kernel_rfl) (by kernel_rfl) (by kernel_rfl)) ?_
  exact ⟨(x7, x8, 0), rfl, hp212, hM26.below⟩

set_option maxRecDepth 100000 in
set_option maxHeartbeats 0 in
theorem brun_walk (u0 : List UInt8)  (Z : Fz) (w : World)  (hZ : Z.on w) {K : (Int × Int) → Prop} (hp : brun_vc u0 K) : Calls Tryd.prog 20 #[str u0] w fun e w' => ∃ r : Int × Int, e = .returned (.tuple #[.int .i64 r.1, .int .i64 r.2]) ∧ K r ∧ Below w.heap.size w w' := by
 refine enter0 Tryd.func20 rfl rfl (by kernel_rfl) ?_; intro a0 hF0; have hM0 := Mem.start w Z hZ; have hle0 := Fz.le.refl Z
 refine sqH ?_; intro hQ1Q hQ1
 refine s1 hF0 2 (.int .i64 0) ?_; intro a2 hF3; clear hF0
 refine s1 hF3 3 (.int .i64 0) ?_; intro a4 hF5; clear hF3
 refine nlH (hQ1 _ _ ?_); clear hQ1 hQ1Q
 refine wp_seq ?_
 refine sqH ?_; intro hQ6Q hQ6
 refine s1 hF5 8 (str u0) ?_; intro a7 hF8; clear hF5
 refine fcl hF8 hM0 (.int .i64 (bcheckS u0)) 22 #[str u0] (nog rfl _) rfl (by kernel_rfl) (fun _ => by kernel_rfl) (bcheck_fun u0 _ _ hM0.fz) ?_; intro a9 wd11 hF10 hM12; clear hF8 hM0
 refine s1 hF10 4 (.int .i64 (bcheckS u0)) ?_; intro a13 hF14; clear hF10
 refine nlH (hQ6 _ _ ?_); clear hQ6 hQ6Q
 refine sqH ?_; intro hQ15Q hQ15
 refine s1 hF14 10 (.int .i64 (bcheckS u0)) ?_; intro a16 hF17; clear hF14
 refine s1 hF17 11 (.bool ((bcheckS u0) != 0)) ?_; intro a18 hF19; clear hF17
 refine nlH (hQ15 _ _ ?_); clear hQ15 hQ15Q
 refine cd hF19 (t := (bcheckS u0) != 0) (by kernel_rfl) (fun hb20 => ?_) (fun hb20 => ?_)
 · -- yes
  have hp21 := hp.1 hb20; clear hp
  refine sqH ?_; intro hQ22Q hQ22
  refine s1 hF19 12 (.int .i64 (bcheckS u0)) ?_; intro a23 hF24; clear hF19
  refine s1 hF24 2 (.int .i64 0) ?_; intro a25 hF26; clear hF24
  refine s1 hF26 3 (.int .i64 (bcheckS u0)) ?_; intro a27 hF28; clear hF26
  refine nlH (hQ22 _ _ ?_); clear hQ22 hQ22Q
  refine wp_ret ?_
  refine thr ?_
  refine rt (fn := Tryd.f20) (v := .tuple #[.int .i64 0, .int .i64 (bcheckS u0)]) hF28 (re2 hF28 (fn := Tryd.f20) rfl (by kernel_rfl) (by kernel_rfl)) ?_
  exact ⟨(0, (bcheckS u0)), rfl, hp21, hM12.below⟩
 · -- no
  have hp29 := hp.2 hb20; clear hp
  refine wp_skip ?_
  refine thn ?_
  refine sqH ?_; intro hQ30Q hQ30
  refine s1 hF19 5 (.int .i64 0) ?_; intro a31 hF32; clear hF19
  refine s1 hF32 6 (.int .i64 0) ?_; intro a33 hF34; clear hF32
  refine nlH (hQ30 _ _ ?_); clear hQ30 hQ30Q
  refine wp_seq ?_
  refine sqH ?_; intro hQ35Q hQ35
  refine s1 hF34 13 (str u0) ?_; intro a36 hF37; clear hF34
  refine s1 hF37 14 (.int .i64 (u0.length : Int)) ?_; intro a38 hF39; clear hF37
  refine s1 hF39 15 (.int .i64 0) ?_; intro a40 hF41; clear hF39
  refine nlH (hQ35 _ _ ?_); clear hQ35 hQ35Q
  refine wp_block ?_
  have hF42 : Fr 37 [] [⟨0, [], str u0⟩, ⟨5, [], .int .i64 0⟩, ⟨6, [], .int .i64 0⟩, ⟨14, [], .int .i64 (u0.length : Int)⟩, ⟨15, [], .int .i64 0⟩] a40 := hF41.region (by kernel_rfl) (by kernel_rfl); clear hF41
  have hF44 : Fr 37 [] [⟨0, [], str u0⟩, ⟨5, [], .int .i64 0⟩, ⟨6, [], .int .i64 0⟩, ⟨14, [], .int .i64 (u0.length : Int)⟩, ⟨15, [], .int .i64 0⟩] a40 := hF42.region (by kernel_rfl) (by kernel_rfl); clear hF42
  obtain ⟨inv43, mu43, hI47, hr46⟩ := hp29
  refine lp (ι := Int × Int × Int) (fun (s : Int × Int × Int) => [⟨0, [], str u0⟩, ⟨5, [], .int .i64 s.1⟩, ⟨6, [], .int .i64 s.2.1⟩, ⟨14, [], .int .i64 (u0.length : Int)⟩, ⟨15, [], .int .i64 s.2.2⟩]) (fun (s : Int × Int × Int) => []) (fun (s : Int × Int × Int) => Z) (fun (s : Int × Int × Int) => inv43 s.1 s.2.1 s.2.2) (fun (s : Int × Int × Int) => mu43 s.1 s.2.1 s.2.2) ⟨0, 0, 0⟩ hI47 (by exact hF44.region (by kernel_rfl) (by kernel_rfl)) (by exact hM12) ?_
  rintro ⟨x5, x6, x15⟩ hI45 a49 wd50 hF51 hM52
  have hF53 : Fr 37 [] [⟨0, [], str u0⟩, ⟨5, [], .int .i64 x5⟩, ⟨6, [], .int .i64 x6⟩, ⟨14, [], .int .i64 (u0.length : Int)⟩, ⟨15, [], .int .i64 x15⟩] a49 := hF51; clear hF51 hF44
  have hM54 : Mem w.heap.size [] w Z [] Z wd50 := hM52; clear hM52 hM12
  have hp55 := hr46 x5 x6 x15 hI45
  refine sqH ?_; intro hQ56Q hQ56
  refine s1 hF53 16 (.bool (decide (x15 < (u0.length : Int)))) ?_; intro a57 hF58; clear hF53
  refine nlH (hQ56 _ _ ?_); clear hQ56 hQ56Q
  refine wp_seq ?_
  refine cd hF58 (t := decide (x15 < (u0.length : Int))) (by kernel_rfl) (fun hb59 => ?_) (fun hb59 => ?_)
  · -- yes
   have hp60 := hp55.1 hb59; clear hp55
   refine wp_skip ?_
   refine thn ?_
   refine wp_seq ?_
   refine wp_block ?_
   refine sqH ?_; intro hQ61Q hQ61
   refine s1 hF58 17 (.int .i64 x15) ?_; intro a62 hF63; clear hF58
   refine s1 hF63 7 (.int .i64 x15) ?_; intro a64 hF65; clear hF63
   refine nlH (hQ61 _ _ ?_); clear hQ61 hQ61Q
   refine wp_seq ?_
   have hF66 : Fr 37 [] [⟨0, [], str u0⟩, ⟨5, [], .int .i64 x5⟩, ⟨6, [], .int .i64 x6⟩, ⟨7, [], .int .i64 x15⟩, ⟨14, [], .int .i64 (u0.length : Int)⟩, ⟨15, [], .int .i64 x15⟩] a64 := hF65.region (by kernel_rfl) (by kernel_rfl); clear hF65
   rcases Bool.eq_false_or_eq_true (decide (x15 > 0)) with hb67 | hb67
   · -- true
    have hp68 := hp60.1 hb67; clear hp60
    have hF69 : Fr 37 [] [⟨0, [], str u0⟩, ⟨5, [], .int .i64 x5⟩, ⟨6, [], .int .i64 x6⟩, ⟨7, [], .int .i64 x15⟩, ⟨14, [], .int .i64 (u0.length : Int)⟩, ⟨15, [], .int .i64 x15⟩] a64 := hF66.region (by kernel_rfl) (by kernel_rfl); clear hF66
    refine sqQH mixed (by kernel_rfl) hM54 ?_; intro hQ70Q hQ70
    refine q1 hF69 18 (.int .i64 x15) ?_; intro a72 hF73; clear hF69
    refine q1 hF73 19 (.bool (decide (x15 > 0))) ?_; intro a75 hF76; clear hF73
    have hF77 := hF76.reval (d := 19) (c := []) (v := .bool (decide (x15 > 0))) (by kernel_rfl) (.bool true) (by rw [hb67]); clear hF76
    refine q1 hF77 20 (.bool true) ?_; intro a79 hF80; clear hF77
    refine qst hF80 (str u0) (by rw [wanted_of hF80 (b := true) rfl rfl (by kernel_rfl) (by kernel_rfl)]; rfl) rfl (by kernel_rfl) (fun v81 hC => p0 hF80 (by kernel_rfl)) ?_; intro a82 hF83; clear hF80
    refine qst hF83 (.int .i64 x15) (by rw [wanted_of hF83 (b := true) rfl rfl (by kernel_rfl) (by kernel_rfl)]; rfl) rfl (by kernel_rfl) (fun v84 hC => p0 hF83 (by kernel_rfl)) ?_; intro a85 hF86; clear hF83
    have hc88 := hp68.1; have hp89 := hp68.2; clear hp68
    obtain ⟨c90, hq91⟩ : ∃ q, u0[x15.toNat]? = some q := ⟨_, List.getElem?_eq_getElem (by omega)⟩; have hp92 := hp89 c90 hq91
    refine qst hF86 (.int .u8 (c90.toNat : Int)) (by rw [wanted_of hF86 (b := true) rfl rfl (by kernel_rfl) (by kernel_rfl)]; rfl) rfl (by kernel_rfl) (fun v87 hC => stridx_run hF86 (k := .i64) rfl (by kernel_rfl) (by kernel_rfl) (by kernel_rfl) hc88.1 hq91) ?_; intro a93 hF94; clear hF86
    refine qst hF94 (str u0) (by rw [wanted_of hF94 (b := true) rfl rfl (by kernel_rfl) (by kernel_rfl)]; rfl) rfl (by kernel_rfl) (fun v95 hC => p0 hF94 (by kernel_rfl)) ?_; intro a96 hF97; clear hF94
    refine qst hF97 (.int .i64 x15) (by rw [wanted_of hF97 (b := true) rfl rfl (by kernel_rfl) (by kernel_rfl)]; rfl) rfl (by kernel_rfl) (fun v98 hC => p0 hF97 (by kernel_rfl)) ?_; intro a99 hF100; clear hF97
    refine qst hF100 (.int .i64 (w64 (x15 - 1))) (by rw [wanted_of hF100 (b := true) rfl rfl (by kernel_rfl) (by kernel_rfl)]; rfl) rfl (by kernel_rfl) (fun v101 hC => p0 hF100 (by kernel_rfl)) ?_; intro a102 hF103; clear hF100
    have hc105 := hp92.1; have hp106 := hp92.2; clear hp92
    obtain ⟨c107, hq108⟩ : ∃ q, u0[(w64 (x15 - 1)).toNat]? = some q := ⟨_, List.getElem?_eq_getElem (by omega)⟩; have hp109 := hp106 c107 hq108
    refine qst hF103 (.int .u8 (c107.toNat : Int)) (by rw [wanted_of hF103 (b := true) rfl rfl (by kernel_rfl) (by kernel_rfl)]; rfl) rfl (by kernel_rfl) (fun v104 hC => stridx_run hF103 (k := .i64) rfl (by kernel_rfl) (by kernel_rfl) (by kernel_rfl) hc105.1 hq108) ?_; intro a110 hF111; clear hF103
    refine qst hF111 (.bool ((c90.toNat : Int) == (c107.toNat : Int))) (by rw [wanted_of hF111 (b := true) rfl rfl (by kernel_rfl) (by kernel_rfl)]; rfl) rfl (by kernel_rfl) (fun v112 hC => p0 hF111 (by kernel_rfl)) ?_; intro a113 hF114; clear hF111
    refine q1 hF114 29 (.bool ((c90.toNat : Int) == (c107.toNat : Int))) ?_; intro a116 hF117; clear hF114
    refine qnl (hQ70 _ ?_); clear hQ70 hQ70Q; intro wd118 hM119; clear hM54
    refine cd hF117 (t := (c90.toNat : Int) == (c107.toNat : Int)) (by kernel_rfl) (fun hb120 => ?_) (fun hb120 => ?_)
    · -- yes
     have hp121 := hp109.1 hb120; clear hp109
     refine rgH ?_; intro hQ122Q hQ122
     refine s1 hF117 30 (.int .i64 x6) ?_; intro a123 hF124; clear hF117
     refine s1 hF124 31 (.int .i64 (w64 (x6 + 1))) ?_; intro a125 hF126; clear hF124
     refine s1 hF126 6 (.int .i64 (w64 (x6 + 1))) ?_; intro a127 hF128; clear hF126
     refine nlH (hQ122 _ _ ?_); clear hQ122 hQ122Q
     refine thn ?_
     have hF129 : Fr 37 [] [⟨0, [], str u0⟩, ⟨5, [], .int .i64 x5⟩, ⟨6, [], .int .i64 (w64 (x6 + 1))⟩, ⟨14, [], .int .i64 (u0.length : Int)⟩, ⟨15, [], .int .i64 x15⟩] a127 := hF128.region (by kernel_rfl) (by kernel_rfl); clear hF128
     refine rgH ?_; intro hQ130Q hQ130
     refine s1 hF129 32 (.int .i64 x5) ?_; intro a131 hF132; clear hF129
     refine s1 hF132 33 (.int .i64 (w64 (x6 + 1))) ?_; intro a133 hF134; clear hF132
     refine st hF134 (.int .i64 (max x5 (w64 (x6 + 1)))) (nog rfl _) rfl (by kernel_rfl) (re_ (p0 hF134 (r := .ok (.value (.int .i64 (if x5 < (w64 (x6 + 1)) then (w64 (x6 + 1)) else x5))) wd118) (by kernel_rfl)) (by rw [imax])) ?_; intro a135 hF136; clear hF134
     refine s1 hF136 5 (.int .i64 (max x5 (w64 (x6 + 1)))) ?_; intro a137 hF138; clear hF136
     refine nlH (hQ130 _ _ ?_); clear hQ130 hQ130Q
     refine ibn ?_
     refine thn ?_
     refine rgH ?_; intro hQ139Q hQ139
     refine s1 hF138 35 (.int .i64 (w64 (x15 + 1))) ?_; intro a140 hF141; clear hF138
     refine s1 hF141 15 (.int .i64 (w64 (x15 + 1))) ?_; intro a142 hF143; clear hF141
     refine nlH (hQ139 _ _ ?_); clear hQ139 hQ139Q
     refine rd ?_
     exact ⟨⟨max x5 (w64 (x6 + 1)), w64 (x6 + 1), w64 (x15 + 1)⟩, hp121.1, hp121.2, (hF143.region (by kernel_rfl) (by kernel_rfl)).anyβ _ (by kernel_rfl), hM119.keep (List.Sublist.slnil)⟩
    · -- no
     have hp144 := hp109.2 hb120; clear hp109
     refine rgH ?_; intro hQ145Q hQ145
     refine s1 hF117 6 (.int .i64 1) ?_; intro a146 hF147; clear hF117
     refine nlH (hQ145 _ _ ?_); clear hQ145 hQ145Q
     refine thn ?_
     refine rgH ?_; intro hQ148Q hQ148
     refine s1 hF147 32 (.int .i64 x5) ?_; intro a149 hF150; clear hF147
     refine s1 hF150 33 (.int .i64 1) ?_; intro a151 hF152; clear hF150
     refine st hF152 (.int .i64 (max x5 1)) (nog rfl _) rfl (by kernel_rfl) (re_ (p0 hF152 (r := .ok (.value (.int .i64 (if x5 < 1 then 1 else x5))) wd118) (by kernel_rfl)) (by rw [imax])) ?_; intro a153 hF154; clear hF152
     refine s1 hF154 5 (.int .i64 (max x5 1)) ?_; intro a155 hF156; clear hF154
     refine nlH (hQ148 _ _ ?_); clear hQ148 hQ148Q
     refine ibn ?_
     refine thn ?_
     have hF157 : Fr 37 [] [⟨0, [], str u0⟩, ⟨5, [], .int .i64 (max x5 1)⟩, ⟨6, [], .int .i64 1⟩, ⟨14, [], .int .i64 (u0.length : Int)⟩, ⟨15, [], .int .i64 x15⟩] a155 := hF156.region (by kernel_rfl) (by kernel_rfl); clear hF156
     refine rgH ?_; intro hQ158Q hQ158
     refine s1 hF157 35 (.int .i64 (w64 (x15 + 1))) ?_; intro a159 hF160; clear hF157
     refine s1 hF160 15 (.int .i64 (w64 (x15 + 1))) ?_; intro a161 hF162; clear hF160
     refine nlH (hQ158 _ _ ?_); clear hQ158 hQ158Q
     refine rd ?_
     exact ⟨⟨max x5 1, 1, w64 (x15 + 1)⟩, hp144.1, hp144.2, (hF162.region (by kernel_rfl) (by kernel_rfl)).anyβ _ (by kernel_rfl), hM119.keep (List.Sublist.slnil)⟩
   · -- false
    have hp163 := hp60.2 hb67; clear hp60
    have hF164 : Fr 37 [] [⟨0, [], str u0⟩, ⟨5, [], .int .i64 x5⟩, ⟨6, [], .int .i64 x6⟩, ⟨7, [], .int .i64 x15⟩, ⟨14, [], .int .i64 (u0.length : Int)⟩, ⟨15, [], .int .i64 x15⟩] a64 := hF66.region (by kernel_rfl) (by kernel_rfl); clear hF66
    refine sqQH mixed (by kernel_rfl) hM54 ?_; intro hQ165Q hQ165
    refine q1 hF164 18 (.int .i64 x15) ?_; intro a167 hF168; clear hF164
    refine q1 hF168 19 (.bool (decide (x15 > 0))) ?_; intro a170 hF171; clear hF168
    have hF172 := hF171.reval (d := 19) (c := []) (v := .bool (decide (x15 > 0))) (by kernel_rfl) (.bool false) (by rw [hb67]); clear hF171
    refine q1 hF172 20 (.bool false) ?_; intro a174 hF175; clear hF172
    refine qsk hF175 (b := false) rfl rfl (by kernel_rfl) (by kernel_rfl) rfl rfl (by kernel_rfl) ?_; intro a176 hF177; clear hF175
    refine qsk hF177 (b := false) rfl rfl (by kernel_rfl) (by kernel_rfl) rfl rfl (by kernel_rfl) ?_; intro a178 hF179; clear hF177
    refine qsk hF179 (b := false) rfl rfl (by kernel_rfl) (by kernel_rfl) rfl rfl (by kernel_rfl) ?_; intro a180 hF181; clear hF179
    refine qsk hF181 (b := false) rfl rfl (by kernel_rfl) (by kernel_rfl) rfl rfl (by kernel_rfl) ?_; intro a182 hF183; clear hF181
    refine qsk hF183 (b := false) rfl rfl (by kernel_rfl) (by kernel_rfl) rfl rfl (by kernel_rfl) ?_; intro a184 hF185; clear hF183
    refine qsk hF185 (b := false) rfl rfl (by kernel_rfl) (by kernel_rfl) rfl rfl (by kernel_rfl) ?_; intro a186 hF187; clear hF185
    refine qsk hF187 (b := false) rfl rfl (by kernel_rfl) (by kernel_rfl) rfl rfl (by kernel_rfl) ?_; intro a188 hF189; clear hF187
    refine qsk hF189 (b := false) rfl rfl (by kernel_rfl) (by kernel_rfl) rfl rfl (by kernel_rfl) ?_; intro a190 hF191; clear hF189
    refine q1 hF191 29 (.bool false) ?_; intro a193 hF194; clear hF191
    refine qnl (hQ165 _ ?_); clear hQ165 hQ165Q; intro wd195 hM196; clear hM54
    refine cdF hF194 (by kernel_rfl) ?_
    refine rgH ?_; intro hQ197Q hQ197
    refine s1 hF194 6 (.int .i64 1) ?_; intro a198 hF199; clear hF194
    refine nlH (hQ197 _ _ ?_); clear hQ197 hQ197Q
    refine thn ?_
    refine rgH ?_; intro hQ200Q hQ200
    refine s1 hF199 32 (.int .i64 x5) ?_; intro a201 hF202; clear hF199
    refine s1 hF202 33 (.int .i64 1) ?_; intro a203 hF204; clear hF202
    refine st hF204 (.int .i64 (max x5 1)) (nog rfl _) rfl (by kernel_rfl) (re_ (p0 hF204 (r := .ok (.value (.int .i64 (if x5 < 1 then 1 else x5))) wd195) (by kernel_rfl)) (by rw [imax])) ?_; intro a205 hF206; clear hF204
    refine s1 hF206 5 (.int .i64 (max x5 1)) ?_; intro a207 hF208; clear hF206
    refine nlH (hQ200 _ _ ?_); clear hQ200 hQ200Q
    refine ibn ?_
    refine thn ?_
    have hF209 : Fr 37 [] [⟨0, [], str u0⟩, ⟨5, [], .int .i64 (max x5 1)⟩, ⟨6, [], .int .i64 1⟩, ⟨14, [], .int .i64 (u0.length : Int)⟩, ⟨15, [], .int .i64 x15⟩] a207 := hF208.region (by kernel_rfl) (by kernel_rfl); clear hF208
    refine rgH ?_; intro hQ210Q hQ210
    refine s1 hF209 35 (.int .i64 (w64 (x15 + 1))) ?_; intro a211 hF212; clear hF209
    refine s1 hF212 15 (.int .i64 (w64 (x15 + 1))) ?_; intro a213 hF214; clear hF212
    refine nlH (hQ210 _ _ ?_); clear hQ210 hQ210Q
    refine rd ?_
    exact ⟨⟨max x5 1, 1, w64 (x15 + 1)⟩, hp163.1, hp163.2, (hF214.region (by kernel_rfl) (by kernel_rfl)).anyβ _ (by kernel_rfl), hM196.keep (List.Sublist.slnil)⟩
  · -- no
   have hp215 := hp55.2 hb59; clear hp55
   refine wp_exit ?_
   refine thx ?_
   refine thx ?_
   refine ibx ?_
   refine thn ?_
   refine sqH ?_; intro hQ216Q hQ216
   refine s1 hF58 36 (.int .i64 x5) ?_; intro a217 hF218; clear hF58
   refine s1 hF218 2 (.int .i64 x5) ?_; intro a219 hF220; clear hF218
   refine s1 hF220 3 (.int .i64 0) ?_; intro a221 hF222; clear hF220
   refine nlH (hQ216 _ _ ?_); clear hQ216 hQ216Q
   refine wp_ret ?_
   refine rt (fn := Tryd.f20) (v := .tuple #[.int .i64 x5, .int .i64 0]) hF222 (re2 hF222 (fn := Tryd.f20) rfl (by kernel_rfl) (by kernel_rfl)) ?_
   exact ⟨(x5, 0), rfl, hp215, hM54.below⟩

end Go.Proofs.YtfafpnacflcgmaaDoor
