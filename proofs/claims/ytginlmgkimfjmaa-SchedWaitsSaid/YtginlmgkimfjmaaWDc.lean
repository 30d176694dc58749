/- The walks, made by program: each call does what its pure predicate says. -/
import Derived.Test.YtginlmgkimfjmaaPDc
import Derived.Test.YtginlmgkimfjmaaWDb
set_option linter.unusedVariables false
set_option linter.unusedSimpArgs false
namespace Go.Proofs.Ytginlmgkimfjmaa
open Go.Sy Go.RowKit
theorem bof_fun (u0 : List Int) (hpre : ∀ x ∈ u0, 0 ≤ x ∧ x ≤ 255) (ao1 : Option Addr) (cap2 : Nat) (Z : Fz) (w : World) (hs3 : SlR (tyInt .u8) Z ao1 cap2 u0) (hZ : Z.on w) : Calls Try.prog 114 #[.slice ao1 u0.length cap2] w fun e w' => e = .returned (.tuple #[str ((bofS u0).1), .int .i64 ((bofS u0).2)]) ∧ Below w.heap.size w w' :=
  (bof_walk u0 ao1 cap2 Z w hs3 hZ (bof_ok u0 hpre)).mono fun _ _ ⟨r, he, hk, hb⟩ => ⟨by subst hk; exact he, hb⟩

set_option maxRecDepth 100000 in
set_option maxHeartbeats 0 in
theorem fsizes_walk   (Z : Fz) (w : World)  (hZ : Z.on w) {K : (List Int) → Prop} (hp : fsizes_vc  K) : Calls Try.prog 91 #[] w fun e w' => ∃ (r : (List Int)) (ao1001 : Option Addr) (cap1002 : Nat) (Z' : Fz), e = .returned (.slice ao1001 r.length cap1002) ∧ K r ∧ Mem w.heap.size [] w Z [.own (tyInt .i64) 3 ao1001 cap1002 r] Z' w' := by
 refine enter0 Try.func91 rfl rfl (by kernel_rfl) ?_; intro a0 hF0; have hM0 := Mem.start w Z hZ; have hle0 := Fz.le.refl Z
 refine sqH ?_; intro hQ1Q hQ1
 refine s1 hF0 0 (.slice none 0 0) ?_; intro a2 hF3; clear hF0
 refine nlH (hQ1 _ _ ?_); clear hQ1 hQ1Q
 refine sqH ?_; intro hQ4Q hQ4
 refine sn hF3 hM0 (fun b => .slice (some ⟨b, 0, none⟩) 16 16) [.int .i64 0, .int .i64 1, .int .i64 2, .int .i64 3, .int .i64 4, .int .i64 5, .int .i64 6, .int .i64 7, .int .i64 8, .int .i64 12, .int .i64 16, .int .i64 20, .int .i64 24, .int .i64 32, .int .i64 48, .int .i64 64] 3 (nog rfl _) rfl (by kernel_rfl) (by kernel_rfl) ?_; intro b5 a6 wd8 hF7 hM9; clear hF3 hM0
 refine s1 hF7 0 (.slice (some ⟨b5, 0, none⟩) 16 16) ?_; intro a10 hF11; clear hF7
 refine nlH (hQ4 _ _ ?_); clear hQ4 hQ4Q
 refine wp_ret ?_
 have hM12 : Mem w.heap.size [] w Z [.own (tyInt .i64) 3 (some ⟨b5, 0, none⟩) 16 ([0, 1, 2, 3, 4, 5, 6, 7, 8, 12, 16, 20, 24, 32, 48, 64] : List Int)] Z wd8 := hM9.rowOwn (T := (tyInt .i64)) (xs := ([0, 1, 2, 3, 4, 5, 6, 7, 8, 12, 16, 20, 24, 32, 48, 64] : List Int)) 0 rfl (by decide) (by show 16 ≤ lim; decide) ((RepAll.one (T := (tyInt .i64)) (x := 0) rfl).append ((RepAll.one (T := (tyInt .i64)) (x := 1) rfl).append ((RepAll.one (T := (tyInt .i64)) (x := 2) rfl).append ((RepAll.one (T := (tyInt .i64)) (x := 3) rfl).append ((RepAll.one (T := (tyInt .i64)) (x := 4) rfl).append ((RepAll.one (T := (tyInt .i64)) (x := 5) rfl).append ((RepAll.one (T := (tyInt .i64)) (x := 6) rfl).append ((RepAll.one (T := (tyInt .i64)) (x := 7) rfl).append ((RepAll.one (T := (tyInt .i64)) (x := 8) rfl).append ((RepAll.one (T := (tyInt .i64)) (x := 12) rfl).append ((RepAll.one (T := (tyInt .i64)) (x := 16) rfl).append ((RepAll.one (T := (tyInt .i64)) (x := 20) rfl).append ((RepAll.one (T := (tyInt .i64)) (x := 24) rfl).append ((RepAll.one (T := (tyInt .i64)) (x := 32) rfl).append ((RepAll.one (T := (tyInt .i64)) (x := 48) rfl).append (RepAll.one (T := (tyInt .i64)) (x := 64) rfl)))))))))))))))); clear hM9
 refine rt (fn := Try.f91) (v := .slice (some ⟨b5, 0, none⟩) ([0, 1, 2, 3, 4, 5, 6, 7, 8, 12, 16, 20, 24, 32, 48, 64] : List Int).length 16) hF11 (re1 hF11 (fn := Try.f91) rfl (by kernel_rfl)) ?_
 exact ⟨([0, 1, 2, 3, 4, 5, 6, 7, 8, 12, 16, 20, 24, 32, 48, 64] : List Int), (some ⟨b5, 0, none⟩), 16, Z, rfl, hp, hM12.keep (List.Sublist.cons_cons _ (List.Sublist.slnil))⟩
theorem fsizes_fun   (Z : Fz) (w : World)  (hZ : Z.on w) : Calls Try.prog 91 #[] w fun e w' => ∃ (ao1001 : Option Addr) (cap1002 : Nat) (Z' : Fz), e = .returned (.slice ao1001 fsizes.length cap1002) ∧ Mem w.heap.size [] w Z [.own (tyInt .i64) 3 ao1001 cap1002 fsizes] Z' w' :=
  (fsizes_walk   Z w  hZ (fsizes_ok )).mono fun _ _ ⟨r, h0, h1, h2, he, hk, hm⟩ => by subst hk; exact ⟨h0, h1, h2, he, hm⟩

set_option maxRecDepth 100000 in
set_option maxHeartbeats 0 in
theorem fbit_walk (u0 : Bool)  (Z : Fz) (w : World)  (hZ : Z.on w) {K : (List UInt8) → Prop} (hp : fbit_vc u0 K) : Calls Try.prog 127 #[.bool u0] w fun e w' => ∃ r : (List UInt8), e = .returned (str r) ∧ K r ∧ Below w.heap.size w w' := by
 refine enter0 Try.func127 rfl rfl (by kernel_rfl) ?_; intro a0 hF0; have hM0 := Mem.start w Z hZ; have hle0 := Fz.le.refl Z
 refine sqH ?_; intro hQ1Q hQ1
 refine s1 hF0 2 (str []) ?_; intro a2 hF3; clear hF0
 refine nlH (hQ1 _ _ ?_); clear hQ1 hQ1Q
 refine wp_seq ?_
 refine sqH ?_; intro hQ4Q hQ4
 refine s1 hF3 3 (.bool u0) ?_; intro a5 hF6; clear hF3
 refine nlH (hQ4 _ _ ?_); clear hQ4 hQ4Q
 refine cd hF6 (t := u0) (by kernel_rfl) (fun hb7 => ?_) (fun hb7 => ?_)
 ·
  have hp8 := hp.1 hb7; clear hp
  refine sqH ?_; intro hQ9Q hQ9
  refine s1 hF6 2 (str ([49] : List UInt8)) ?_; intro a10 hF11; clear hF6
  refine nlH (hQ9 _ _ ?_); clear hQ9 hQ9Q
  refine wp_ret ?_
  refine thr ?_
  refine rt (fn := Try.f127) (v := str ([49] : List UInt8)) hF11 (re1 hF11 (fn := Try.f127) rfl (by kernel_rfl)) ?_
  exact ⟨([49] : List UInt8), rfl, hp8, hM0.below⟩
 ·
  have hp12 := hp.2 hb7; clear hp
  refine wp_skip ?_
  refine thn ?_
  refine sqH ?_; intro hQ13Q hQ13
  refine s1 hF6 2 (str ([48] : List UInt8)) ?_; intro a14 hF15; clear hF6
  refine nlH (hQ13 _ _ ?_); clear hQ13 hQ13Q
  refine wp_ret ?_
  refine rt (fn := Try.f127) (v := str ([48] : List UInt8)) hF15 (re1 hF15 (fn := Try.f127) rfl (by kernel_rfl)) ?_
  exact ⟨([48] : List UInt8), rfl, hp12, hM0.below⟩
theorem fbit_fun (u0 : Bool)  (Z : Fz) (w : World)  (hZ : Z.on w) : Calls Try.prog 127 #[.bool u0] w fun e w' => e = .returned (str (fbit u0)) ∧ Below w.heap.size w w' :=
  (fbit_walk u0  Z w  hZ (fbit_ok u0)).mono fun _ _ ⟨r, he, hk, hb⟩ => ⟨by subst hk; exact he, hb⟩

set_option maxRecDepth 100000 in
set_option maxHeartbeats 0 in
theorem smost_walk (u0 : Int)  (Z : Fz) (w : World)  (hZ : Z.on w) {K : (Int × Int) → Prop} (hp : smost_vc u0 K) : Calls Try.prog 88 #[.int .i64 u0] w fun e w' => ∃ r : Int × Int, e = .returned (.tuple #[.int .i64 r.1, .int .i64 r.2]) ∧ K r ∧ Below w.heap.size w w' := by
 refine enter0 Try.func88 rfl rfl (by kernel_rfl) ?_; intro a0 hF0; have hM0 := Mem.start w Z hZ; have hle0 := Fz.le.refl Z
 refine sqH ?_; intro hQ1Q hQ1
 refine s1 hF0 2 (.int .i64 0) ?_; intro a2 hF3; clear hF0
 refine s1 hF3 3 (.int .i64 0) ?_; intro a4 hF5; clear hF3
 refine nlH (hQ1 _ _ ?_); clear hQ1 hQ1Q
 refine wp_seq ?_
 refine sqH ?_; intro hQ6Q hQ6
 refine s1 hF5 4 (.int .i64 u0) ?_; intro a7 hF8; clear hF5
 refine s1 hF8 5 (.bool (decide (u0 < 0))) ?_; intro a9 hF10; clear hF8
 refine s1 hF10 6 (.bool (decide (u0 < 0))) ?_; intro a11 hF12; clear hF10
 have hF13 := hF12.atom ((decide (u0 < 0)) == false) (by kernel_rfl); clear hF12
 refine gp hF13 7 0 [] (decide (u0 < 0)) (.int .i64 u0) rfl rfl ?_; intro a14 hF15; clear hF13
 refine gp hF15 8 0 [] (decide (u0 < 0)) (.bool (decide (u0 > 1000))) rfl rfl ?_; intro a16 hF17; clear hF15
 refine st hF17 (.bool ((decide (u0 < 0)) || (decide (u0 > 1000)))) (nog rfl _) rfl (by kernel_rfl) (pk_or hF17 (g := []) (m := 0) (b := decide (u0 < 0)) (v := decide (u0 > 1000)) rfl (by kernel_rfl) (by kernel_rfl) (by kernel_rfl) rfl) ?_; intro a18 hF19; clear hF17
 refine nlH (hQ6 _ _ ?_); clear hQ6 hQ6Q
 refine cd hF19 (t := (decide (u0 < 0)) || (decide (u0 > 1000))) (by kernel_rfl) (fun hb20 => ?_) (fun hb20 => ?_)
 ·
  have hp21 := hp.1 hb20; clear hp
  have hF22 : Fr 17 [] [] a18 := hF19.reg; clear hF19
  refine sqH ?_; intro hQ23Q hQ23
  refine s1 hF22 2 (.int .i64 0) ?_; intro a24 hF25; clear hF22
  refine s1 hF25 3 (.int .i64 3) ?_; intro a26 hF27; clear hF25
  refine nlH (hQ23 _ _ ?_); clear hQ23 hQ23Q
  refine wp_ret ?_
  refine thr ?_
  refine rt (fn := Try.f88) (v := .tuple #[.int .i64 0, .int .i64 3]) hF27 (re2 hF27 (fn := Try.f88) rfl (by kernel_rfl) (by kernel_rfl)) ?_
  exact ⟨(0, 3), rfl, hp21, hM0.below⟩
 ·
  have hp28 := hp.2 hb20; clear hp
  refine wp_skip ?_
  refine thn ?_
  refine wp_seq ?_
  have hF29 : Fr 17 [] [⟨0, [], .int .i64 u0⟩] a18 := hF19.reg; clear hF19
  refine sqH ?_; intro hQ30Q hQ30
  refine s1 hF29 10 (.int .i64 u0) ?_; intro a31 hF32; clear hF29
  refine s1 hF32 11 (.bool (u0 == 0)) ?_; intro a33 hF34; clear hF32
  refine nlH (hQ30 _ _ ?_); clear hQ30 hQ30Q
  refine cd hF34 (t := u0 == 0) (by kernel_rfl) (fun hb35 => ?_) (fun hb35 => ?_)
  ·
   have hp36 := hp28.1 hb35; clear hp28
   refine sqH ?_; intro hQ37Q hQ37
   refine s1 hF34 2 (.int .i64 0) ?_; intro a38 hF39; clear hF34
   refine s1 hF39 3 (.int .i64 0) ?_; intro a40 hF41; clear hF39
   refine nlH (hQ37 _ _ ?_); clear hQ37 hQ37Q
   refine wp_ret ?_
   refine thr ?_
   refine rt (fn := Try.f88) (v := .tuple #[.int .i64 0, .int .i64 0]) hF41 (re2 hF41 (fn := Try.f88) rfl (by kernel_rfl) (by kernel_rfl)) ?_
   exact ⟨(0, 0), rfl, hp36, hM0.below⟩
  ·
   have hp42 := hp28.2 hb35; clear hp28
   refine wp_skip ?_
   refine thn ?_
   refine sqH ?_; intro hQ43Q hQ43
   refine s1 hF34 12 (.int .i64 u0) ?_; intro a44 hF45; clear hF34
   refine s1 hF45 13 (.int .i64 u0) ?_; intro a46 hF47; clear hF45
   refine s1 hF47 14 (.int .i64 (w64 (u0 - 1))) ?_; intro a48 hF49; clear hF47
   refine s1 hF49 15 (.int .i64 (w64 ((w64 (u0 - 1)).tdiv 4))) ?_; intro a50 hF51; clear hF49
   refine s1 hF51 16 (.int .i64 (w64 (u0 + (w64 ((w64 (u0 - 1)).tdiv 4))))) ?_; intro a52 hF53; clear hF51
   refine s1 hF53 2 (.int .i64 (w64 (u0 + (w64 ((w64 (u0 - 1)).tdiv 4))))) ?_; intro a54 hF55; clear hF53
   refine s1 hF55 3 (.int .i64 0) ?_; intro a56 hF57; clear hF55
   refine nlH (hQ43 _ _ ?_); clear hQ43 hQ43Q
   refine wp_ret ?_
   refine rt (fn := Try.f88) (v := .tuple #[.int .i64 (w64 (u0 + (w64 ((w64 (u0 - 1)).tdiv 4)))), .int .i64 0]) hF57 (re2 hF57 (fn := Try.f88) rfl (by kernel_rfl) (by kernel_rfl)) ?_
   exact ⟨(w64 (u0 + (w64 ((w64 (u0 - 1)).tdiv 4))), 0), rfl, hp42, hM0.below⟩
theorem smost_fun (u0 : Int)  (Z : Fz) (w : World)  (hZ : Z.on w) : Calls Try.prog 88 #[.int .i64 u0] w fun e w' => e = .returned (.tuple #[.int .i64 ((smost u0).1), .int .i64 ((smost u0).2)]) ∧ Below w.heap.size w w' :=
  (smost_walk u0  Z w  hZ (smost_ok u0)).mono fun _ _ ⟨r, he, hk, hb⟩ => ⟨by subst hk; exact he, hb⟩

set_option maxRecDepth 100000 in
set_option maxHeartbeats 0 in
theorem ckinds_walk   (Z : Fz) (w : World)  (hZ : Z.on w) {K : (Kind × Kind × Kind × Kind × Kind) → Prop} (hp : ckinds_vc  K) : Calls Try.prog 116 #[] w fun e w' => ∃ r : (Kind × Kind × Kind × Kind × Kind), e = .returned (.agg #[.int .i64 r.1.Size, .int .u64 r.1.Poly, .int .u64 r.1.From, .int .u64 r.1.End, .int .i64 r.2.1.Size, .int .u64 r.2.1.Poly, .int .u64 r.2.1.From, .int .u64 r.2.1.End, .int .i64 r.2.2.1.Size, .int .u64 r.2.2.1.Poly, .int .u64 r.2.2.1.From, .int .u64 r.2.2.1.End, .int .i64 r.2.2.2.1.Size, .int .u64 r.2.2.2.1.Poly, .int .u64 r.2.2.2.1.From, .int .u64 r.2.2.2.1.End, .int .i64 r.2.2.2.2.Size, .int .u64 r.2.2.2.2.Poly, .int .u64 r.2.2.2.2.From, .int .u64 r.2.2.2.2.End]) ∧ K r ∧ Below w.heap.size w w' := by
 refine enter0 Try.func116 rfl rfl (by kernel_rfl) ?_; intro a0 hF0; have hM0 := Mem.start w Z hZ; have hle0 := Fz.le.refl Z
 refine sqH ?_; intro hQ1Q hQ1
 refine sn hF0 hM0 (fun b => .pointer (some ⟨b, 0, none⟩)) [.int .i64 0, .int .u64 0, .int .u64 0, .int .u64 0, .int .i64 0, .int .u64 0, .int .u64 0, .int .u64 0, .int .i64 0, .int .u64 0, .int .u64 0, .int .u64 0, .int .i64 0, .int .u64 0, .int .u64 0, .int .u64 0, .int .i64 0, .int .u64 0, .int .u64 0, .int .u64 0] 177 (nog rfl _) rfl (by kernel_rfl) (by kernel_rfl) ?_; intro b2 a3 wd5 hF4 hM6; clear hF0 hM0
 refine nlH (hQ1 _ _ ?_); clear hQ1 hQ1Q
 refine sqH ?_; intro hQ7Q hQ7
 refine s1 hF4 1 (.agg #[.int .i64 15, .int .u64 17817, .int .u64 0, .int .u64 0]) ?_; intro a8 hF9; clear hF4
 refine s1 hF9 2 (.agg #[.int .i64 17, .int .u64 92251, .int .u64 65536, .int .u64 0]) ?_; intro a10 hF11; clear hF9
 refine s1 hF11 3 (.agg #[.int .i64 21, .int .u64 1058969, .int .u64 1048576, .int .u64 0]) ?_; intro a12 hF13; clear hF11
 refine s1 hF13 4 (.agg #[.int .i64 8, .int .u64 47, .int .u64 255, .int .u64 255]) ?_; intro a14 hF15; clear hF13
 refine s1 hF15 5 (.agg #[.int .i64 16, .int .u64 4129, .int .u64 65535, .int .u64 0]) ?_; intro a16 hF17; clear hF15
 refine s1 hF17 6 (.agg #[.int .i64 15, .int .u64 17817, .int .u64 0, .int .u64 0, .int .i64 17, .int .u64 92251, .int .u64 65536, .int .u64 0, .int .i64 21, .int .u64 1058969, .int .u64 1048576, .int .u64 0, .int .i64 8, .int .u64 47, .int .u64 255, .int .u64 255, .int .i64 16, .int .u64 4129, .int .u64 65535, .int .u64 0]) ?_; intro a18 hF19; clear hF17
 refine sr hF19 hM6 0 [.int .i64 15, .int .u64 17817, .int .u64 0, .int .u64 0, .int .i64 17, .int .u64 92251, .int .u64 65536, .int .u64 0, .int .i64 21, .int .u64 1058969, .int .u64 1048576, .int .u64 0, .int .i64 8, .int .u64 47, .int .u64 255, .int .u64 255, .int .i64 16, .int .u64 4129, .int .u64 65535, .int .u64 0] (b := b2) (off := 0) (cs := [.int .i64 0, .int .u64 0, .int .u64 0, .int .u64 0, .int .i64 0, .int .u64 0, .int .u64 0, .int .u64 0, .int .i64 0, .int .u64 0, .int .u64 0, .int .u64 0, .int .i64 0, .int .u64 0, .int .u64 0, .int .u64 0, .int .i64 0, .int .u64 0, .int .u64 0, .int .u64 0]) (ty := 177) (u := .agg #[.int .i64 15, .int .u64 17817, .int .u64 0, .int .u64 0, .int .i64 17, .int .u64 92251, .int .u64 65536, .int .u64 0, .int .i64 21, .int .u64 1058969, .int .u64 1048576, .int .u64 0, .int .i64 8, .int .u64 47, .int .u64 255, .int .u64 255, .int .i64 16, .int .u64 4129, .int .u64 65535, .int .u64 0]) (nog rfl _) rfl rfl (by kernel_rfl) (by kernel_rfl) (by kernel_rfl) (by kernel_rfl) (by kernel_rfl) (by kernel_rfl) (by kernel_rfl) ?_; intro wd20 hM21; clear hM6
 have hM22 : Mem w.heap.size [] w Z [.row b2 [.int .i64 15, .int .u64 17817, .int .u64 0, .int .u64 0, .int .i64 17, .int .u64 92251, .int .u64 65536, .int .u64 0, .int .i64 21, .int .u64 1058969, .int .u64 1048576, .int .u64 0, .int .i64 8, .int .u64 47, .int .u64 255, .int .u64 255, .int .i64 16, .int .u64 4129, .int .u64 65535, .int .u64 0] 177] Z wd20 := hM21; clear hM21
 refine nlH (hQ7 _ _ ?_); clear hQ7 hQ7Q
 refine wp_ret ?_
 refine rt (fn := Try.f116) (v := .agg #[.int .i64 15, .int .u64 17817, .int .u64 0, .int .u64 0, .int .i64 17, .int .u64 92251, .int .u64 65536, .int .u64 0, .int .i64 21, .int .u64 1058969, .int .u64 1048576, .int .u64 0, .int .i64 8, .int .u64 47, .int .u64 255, .int .u64 255, .int .i64 16, .int .u64 4129, .int .u64 65535, .int .u64 0]) hF19 (re1c hF19 (fn := Try.f116) rfl (ad := ⟨b2, 0, none⟩) (by kernel_rfl) (loadVar_run hM22 0 (b := b2) (k := 20) (vs := [.int .i64 15, .int .u64 17817, .int .u64 0, .int .u64 0, .int .i64 17, .int .u64 92251, .int .u64 65536, .int .u64 0, .int .i64 21, .int .u64 1058969, .int .u64 1048576, .int .u64 0, .int .i64 8, .int .u64 47, .int .u64 255, .int .u64 255, .int .i64 16, .int .u64 4129, .int .u64 65535, .int .u64 0]) (ty := 177) rfl (by kernel_rfl) (by kernel_rfl)) ) ?_
 exact ⟨((⟨15, 17817, 0, 0⟩ : Kind), (⟨17, 92251, 65536, 0⟩ : Kind), (⟨21, 1058969, 1048576, 0⟩ : Kind), (⟨8, 47, 255, 255⟩ : Kind), (⟨16, 4129, 65535, 0⟩ : Kind)), rfl, hp, hM22.below⟩
theorem ckinds_fun   (Z : Fz) (w : World)  (hZ : Z.on w) : Calls Try.prog 116 #[] w fun e w' => e = .returned (.agg #[.int .i64 ckinds.1.Size, .int .u64 ckinds.1.Poly, .int .u64 ckinds.1.From, .int .u64 ckinds.1.End, .int .i64 ckinds.2.1.Size, .int .u64 ckinds.2.1.Poly, .int .u64 ckinds.2.1.From, .int .u64 ckinds.2.1.End, .int .i64 ckinds.2.2.1.Size, .int .u64 ckinds.2.2.1.Poly, .int .u64 ckinds.2.2.1.From, .int .u64 ckinds.2.2.1.End, .int .i64 ckinds.2.2.2.1.Size, .int .u64 ckinds.2.2.2.1.Poly, .int .u64 ckinds.2.2.2.1.From, .int .u64 ckinds.2.2.2.1.End, .int .i64 ckinds.2.2.2.2.Size, .int .u64 ckinds.2.2.2.2.Poly, .int .u64 ckinds.2.2.2.2.From, .int .u64 ckinds.2.2.2.2.End]) ∧ Below w.heap.size w w' :=
  (ckinds_walk   Z w  hZ (ckinds_ok )).mono fun _ _ ⟨r, he, hk, hb⟩ => ⟨by subst hk; exact he, hb⟩

set_option maxRecDepth 100000 in
set_option maxHeartbeats 0 in
theorem sindex_walk (u0 : List Int) (u1 : Int) (ao1 : Option Addr) (cap2 : Nat) (Z : Fz) (w : World) (hs3 : SlR (tyInt .i64) Z ao1 cap2 u0) (hZ : Z.on w) {K : Int → Prop} (hp : sindex_vc u0 u1 K) : Calls Try.prog 99 #[.slice ao1 u0.length cap2, .int .i64 u1] w fun e w' => ∃ r : Int, e = .returned (.int .i64 r) ∧ K r ∧ Below w.heap.size w w' := by
 refine enter0 Try.func99 rfl rfl (by kernel_rfl) ?_; intro a0 hF0; have hM0 := Mem.start w Z hZ; have hle0 := Fz.le.refl Z
 have hp4 := hp (hs3.small); clear hp
 refine sqH ?_; intro hQ5Q hQ5
 refine s1 hF0 4 (.int .i64 0) ?_; intro a6 hF7; clear hF0
 refine nlH (hQ5 _ _ ?_); clear hQ5 hQ5Q
 refine wp_seq ?_
 refine sqH ?_; intro hQ8Q hQ8
 refine s1 hF7 6 (.slice ao1 u0.length cap2) ?_; intro a9 hF10; clear hF7
 refine s1 hF10 7 (.int .i64 (u0.length : Int)) ?_; intro a11 hF12; clear hF10
 refine s1 hF12 8 (.int .i64 0) ?_; intro a13 hF14; clear hF12
 refine nlH (hQ8 _ _ ?_); clear hQ8 hQ8Q
 refine wp_block ?_
 have hF15 : Fr 19 [] [⟨0, [], .slice ao1 u0.length cap2⟩, ⟨1, [], .int .i64 u1⟩, ⟨7, [], .int .i64 (u0.length : Int)⟩, ⟨8, [], .int .i64 0⟩] a13 := hF14.reg; clear hF14
 have hF17 : Fr 19 [] [⟨0, [], .slice ao1 u0.length cap2⟩, ⟨1, [], .int .i64 u1⟩, ⟨7, [], .int .i64 (u0.length : Int)⟩, ⟨8, [], .int .i64 0⟩] a13 := hF15.reg; clear hF15
 obtain ⟨inv16, mu16, hI20, hr19⟩ := hp4
 refine lp (ι := Int) (fun (s : Int) => [⟨0, [], .slice ao1 u0.length cap2⟩, ⟨1, [], .int .i64 u1⟩, ⟨7, [], .int .i64 (u0.length : Int)⟩, ⟨8, [], .int .i64 s⟩]) (fun (s : Int) => []) (fun (s : Int) => Z) (fun (s : Int) => inv16 s) (fun (s : Int) => mu16 s) 0 hI20 (by exact hF17.reg) (by exact hM0) ?_
 rintro x8 hI18 a22 wd23 hF24 hM25
 have hF26 : Fr 19 [] [⟨0, [], .slice ao1 u0.length cap2⟩, ⟨1, [], .int .i64 u1⟩, ⟨7, [], .int .i64 (u0.length : Int)⟩, ⟨8, [], .int .i64 x8⟩] a22 := hF24; clear hF24 hF17
 have hM27 : Mem w.heap.size [] w Z [] Z wd23 := hM25; clear hM25 hM0
 have hp28 := hr19 x8 hI18
 refine sqH ?_; intro hQ29Q hQ29
 refine s1 hF26 9 (.bool (decide (x8 < (u0.length : Int)))) ?_; intro a30 hF31; clear hF26
 refine nlH (hQ29 _ _ ?_); clear hQ29 hQ29Q
 refine wp_seq ?_
 refine cd hF31 (t := decide (x8 < (u0.length : Int))) (by kernel_rfl) (fun hb32 => ?_) (fun hb32 => ?_)
 ·
  have hp33 := hp28.1 hb32; clear hp28
  refine wp_skip ?_
  refine thn ?_
  refine wp_seq ?_
  refine wp_block ?_
  refine sqH ?_; intro hQ34Q hQ34
  refine s1 hF31 10 (.int .i64 x8) ?_; intro a35 hF36; clear hF31
  refine s1 hF36 5 (.int .i64 x8) ?_; intro a37 hF38; clear hF36
  refine nlH (hQ34 _ _ ?_); clear hQ34 hQ34Q
  refine sqH ?_; intro hQ39Q hQ39
  refine s1 hF38 11 (.int .i64 u1) ?_; intro a40 hF41; clear hF38
  refine s1 hF41 12 (.slice ao1 u0.length cap2) ?_; intro a42 hF43; clear hF41
  refine s1 hF43 13 (.int .i64 x8) ?_; intro a44 hF45; clear hF43
  have hc46 := hp33.1; have hp47 := hp33.2; clear hp33
  refine ix hF45 (T := (tyInt .i64)) (xs := u0) hs3 x8 hc46 (k := .i64) (e := 3) (bytes := 8) (nog rfl _) rfl (by kernel_rfl) rfl (by kernel_rfl) (by kernel_rfl) (by kernel_rfl) ?_; intro b48 off49 cs50 q51 a55 hq52 hP53 hT54 hF56; clear hF45
  have hp57 := hp47 q51 hq52; clear hp47
  obtain rfl : cs50 = ([.int .i64 q51] : List Value) := hT54
  refine z1 hF56 hM27 15 hP53 0 (.int .i64 q51) rfl ?_; intro a58 hF59; clear hF56
  refine s1 hF59 16 (.bool (u1 == q51)) ?_; intro a60 hF61; clear hF59
  refine nlH (hQ39 _ _ ?_); clear hQ39 hQ39Q
  refine cd hF61 (t := u1 == q51) (by kernel_rfl) (fun hb62 => ?_) (fun hb62 => ?_)
  ·
   have hp63 := hp57.1 hb62; clear hp57
   refine sqH ?_; intro hQ64Q hQ64
   refine s1 hF61 17 (.int .i64 x8) ?_; intro a65 hF66; clear hF61
   refine s1 hF66 4 (.int .i64 x8) ?_; intro a67 hF68; clear hF66
   refine nlH (hQ64 _ _ ?_); clear hQ64 hQ64Q
   refine wp_ret ?_
   refine ibr ?_
   refine thr ?_
   refine thr ?_
   refine ibr ?_
   refine thr ?_
   refine rt (fn := Try.f99) (v := .int .i64 x8) hF68 (re1 hF68 (fn := Try.f99) rfl (by kernel_rfl)) ?_
   exact ⟨x8, rfl, hp63, hM27.below⟩
  ·
   have hp69 := hp57.2 hb62; clear hp57
   refine wp_skip ?_
   refine ibn ?_
   refine thn ?_
   refine rgH ?_; intro hQ70Q hQ70
   refine s1 hF61 18 (.int .i64 (w64 (x8 + 1))) ?_; intro a71 hF72; clear hF61
   refine s1 hF72 8 (.int .i64 (w64 (x8 + 1))) ?_; intro a73 hF74; clear hF72
   refine nlH (hQ70 _ _ ?_); clear hQ70 hQ70Q
   refine rd ?_
   exact ⟨w64 (x8 + 1), hp69.1, hp69.2, (hF74.reg).anyβ _ (by kernel_rfl), hM27.keep (List.Sublist.slnil)⟩
 ·
  have hp75 := hp28.2 hb32; clear hp28
  refine wp_exit ?_
  refine thx ?_
  refine thx ?_
  refine ibx ?_
  refine thn ?_
  refine sqH ?_; intro hQ76Q hQ76
  refine s1 hF31 4 (.int .i64 (-1)) ?_; intro a77 hF78; clear hF31
  refine nlH (hQ76 _ _ ?_); clear hQ76 hQ76Q
  refine wp_ret ?_
  refine rt (fn := Try.f99) (v := .int .i64 (-1)) hF78 (re1 hF78 (fn := Try.f99) rfl (by kernel_rfl)) ?_
  exact ⟨-1, rfl, hp75, hM27.below⟩

set_option maxRecDepth 100000 in
set_option maxHeartbeats 0 in
theorem scontains_walk (u0 : List Int) (u1 : Int) (ao1 : Option Addr) (cap2 : Nat) (Z : Fz) (w : World) (hs3 : SlR (tyInt .i64) Z ao1 cap2 u0) (hZ : Z.on w) {K : Bool → Prop} (hp : scontains_vc u0 u1 K) : Calls Try.prog 70 #[.slice ao1 u0.length cap2, .int .i64 u1] w fun e w' => ∃ r : Bool, e = .returned (.bool r) ∧ K r ∧ Below w.heap.size w w' := by
 refine enter0 Try.func70 rfl rfl (by kernel_rfl) ?_; intro a0 hF0; have hM0 := Mem.start w Z hZ; have hle0 := Fz.le.refl Z
 have hp4 := hp (hs3.small); clear hp
 refine sqH ?_; intro hQ5Q hQ5
 refine s1 hF0 4 (.bool false) ?_; intro a6 hF7; clear hF0
 refine nlH (hQ5 _ _ ?_); clear hQ5 hQ5Q
 refine sqH ?_; intro hQ8Q hQ8
 refine s1 hF7 5 (.slice ao1 u0.length cap2) ?_; intro a9 hF10; clear hF7
 refine s1 hF10 6 (.int .i64 u1) ?_; intro a11 hF12; clear hF10
 refine cl hF12 99 #[.slice ao1 u0.length cap2, .int .i64 u1] (nog rfl _) rfl (by kernel_rfl) (by kernel_rfl) ?_
 refine (sindex_walk u0 u1 ao1 cap2 _ _ hs3 hM0.fz hp4).mono ?_; rintro _ wd14 ⟨r13, rfl, hp18, hb⟩; refine ⟨_, rfl, ?_⟩; intro a15 hF16; have hM17 := hM0.call hb; clear hb hM0 hF12
 refine s1 hF16 8 (.bool (decide (r13 ≥ 0))) ?_; intro a19 hF20; clear hF16
 refine s1 hF20 4 (.bool (decide (r13 ≥ 0))) ?_; intro a21 hF22; clear hF20
 refine nlH (hQ8 _ _ ?_); clear hQ8 hQ8Q
 refine wp_ret ?_
 refine rt (fn := Try.f70) (v := .bool (decide (r13 ≥ 0))) hF22 (re1 hF22 (fn := Try.f70) rfl (by kernel_rfl)) ?_
 exact ⟨decide (r13 ≥ 0), rfl, hp18, hM17.below⟩

set_option maxRecDepth 100000 in
set_option maxHeartbeats 0 in
theorem fkind_walk (u0 : Frame) (ao1 : Option Addr) (cap2 : Nat) (Z : Fz) (w : World) (hs3 : SlR (tyInt .u8) Z ao1 cap2 u0.Data) (hZ : Z.on w) {K : Int → Prop} (hp : fkind_vc u0 K) : Calls Try.prog 90 #[.agg #[.int .i64 u0.ID, .bool u0.Long, .bool u0.Fast, .bool u0.Remote, .int .i64 u0.Size, .slice ao1 u0.Data.length cap2]] w fun e w' => ∃ r : Int, e = .returned (.int .i64 r) ∧ K r ∧ Below w.heap.size w w' := by
 refine enter0 Try.func90 rfl rfl (by kernel_rfl) ?_; intro a0 hF0; have hM0 := Mem.start w Z hZ; have hle0 := Fz.le.refl Z
 have hp4 := hp (hs3.small); clear hp
 refine sqH ?_; intro hQ5Q hQ5
 refine sn hF0 hM0 (fun b => .pointer (some ⟨b, 0, none⟩)) [.int .i64 u0.ID, .bool u0.Long, .bool u0.Fast, .bool u0.Remote, .int .i64 u0.Size, .slice ao1 u0.Data.length cap2] 58 (nog rfl _) rfl (by kernel_rfl) (by kernel_rfl) ?_; intro b6 a7 wd9 hF8 hM10; clear hF0 hM0
 refine s1 hF8 2 (.int .i64 0) ?_; intro a11 hF12; clear hF8
 refine nlH (hQ5 _ _ ?_); clear hQ5 hQ5Q
 refine wp_seq ?_
 refine wp_block ?_
 refine sqH ?_; intro hQ13Q hQ13
 refine s1 hF12 4 (.pointer (some ⟨b6, 2, none⟩)) ?_; intro a14 hF15; clear hF12
 refine l1 hF15 hM10 5 0 2 (.bool u0.Fast) rfl rfl ?_; intro a16 hF17; clear hF15
 refine s1 hF17 6 (.bool (!u0.Fast)) ?_; intro a18 hF19; clear hF17
 refine s1 hF19 3 (.bool (!u0.Fast)) ?_; intro a20 hF21; clear hF19
 refine nlH (hQ13 _ _ ?_); clear hQ13 hQ13Q
 refine cd hF21 (t := !u0.Fast) (by kernel_rfl) (fun hb22 => ?_) (fun hb22 => ?_)
 ·
  have hp23 := hp4.1 hb22; clear hp4
  refine sqH ?_; intro hQ24Q hQ24
  refine s1 hF21 2 (.int .i64 0) ?_; intro a25 hF26; clear hF21
  refine nlH (hQ24 _ _ ?_); clear hQ24 hQ24Q
  refine wp_ret ?_
  refine ibr ?_
  refine thr ?_
  refine rt (fn := Try.f90) (v := .int .i64 0) hF26 (re1 hF26 (fn := Try.f90) rfl (by kernel_rfl)) ?_
  exact ⟨0, rfl, hp23, hM10.below⟩
 ·
  have hp27 := hp4.2 hb22; clear hp4
  refine sqH ?_; intro hQ28Q hQ28
  refine s1 hF21 8 (.pointer (some ⟨b6, 5, none⟩)) ?_; intro a29 hF30; clear hF21
  refine l1 hF30 hM10 9 0 5 (.slice ao1 u0.Data.length cap2) rfl rfl ?_; intro a31 hF32; clear hF30
  refine s1 hF32 10 (.int .i64 (u0.Data.length : Int)) ?_; intro a33 hF34; clear hF32
  refine s1 hF34 11 (.bool (decide ((u0.Data.length : Int) ≤ 16))) ?_; intro a35 hF36; clear hF34
  refine s1 hF36 7 (.bool (decide ((u0.Data.length : Int) ≤ 16))) ?_; intro a37 hF38; clear hF36
  refine nlH (hQ28 _ _ ?_); clear hQ28 hQ28Q
  refine cd hF38 (t := decide ((u0.Data.length : Int) ≤ 16)) (by kernel_rfl) (fun hb39 => ?_) (fun hb39 => ?_)
  ·
   have hp40 := hp27.1 hb39; clear hp27
   refine sqH ?_; intro hQ41Q hQ41
   refine s1 hF38 2 (.int .i64 1) ?_; intro a42 hF43; clear hF38
   refine nlH (hQ41 _ _ ?_); clear hQ41 hQ41Q
   refine wp_ret ?_
   refine ibr ?_
   refine thr ?_
   refine rt (fn := Try.f90) (v := .int .i64 1) hF43 (re1 hF43 (fn := Try.f90) rfl (by kernel_rfl)) ?_
   exact ⟨1, rfl, hp40, hM10.below⟩
  ·
   have hp44 := hp27.2 hb39; clear hp27
   refine wp_skip ?_
   refine ibn ?_
   refine thn ?_
   refine sqH ?_; intro hQ45Q hQ45
   refine s1 hF38 2 (.int .i64 2) ?_; intro a46 hF47; clear hF38
   refine nlH (hQ45 _ _ ?_); clear hQ45 hQ45Q
   refine wp_ret ?_
   refine rt (fn := Try.f90) (v := .int .i64 2) hF47 (re1 hF47 (fn := Try.f90) rfl (by kernel_rfl)) ?_
   exact ⟨2, rfl, hp44, hM10.below⟩
theorem fkind_fun (u0 : Frame) (ao1 : Option Addr) (cap2 : Nat) (Z : Fz) (w : World) (hs3 : SlR (tyInt .u8) Z ao1 cap2 u0.Data) (hZ : Z.on w) : Calls Try.prog 90 #[.agg #[.int .i64 u0.ID, .bool u0.Long, .bool u0.Fast, .bool u0.Remote, .int .i64 u0.Size, .slice ao1 u0.Data.length cap2]] w fun e w' => e = .returned (.int .i64 (fkind u0)) ∧ Below w.heap.size w w' :=
  (fkind_walk u0 ao1 cap2 Z w hs3 hZ (fkind_ok u0)).mono fun _ _ ⟨r, he, hk, hb⟩ => ⟨by subst hk; exact he, hb⟩

set_option maxRecDepth 100000 in
set_option maxHeartbeats 0 in
theorem fname_walk (u0 : Frame) (ao1 : Option Addr) (cap2 : Nat) (Z : Fz) (w : World) (hs3 : SlR (tyInt .u8) Z ao1 cap2 u0.Data) (hZ : Z.on w) {K : (List UInt8) → Prop} (hp : fname_vc u0 K) : Calls Try.prog 113 #[.agg #[.int .i64 u0.ID, .bool u0.Long, .bool u0.Fast, .bool u0.Remote, .int .i64 u0.Size, .slice ao1 u0.Data.length cap2]] w fun e w' => ∃ r : (List UInt8), e = .returned (str r) ∧ K r ∧ Below w.heap.size w w' := by
 refine enter0 Try.func113 rfl rfl (by kernel_rfl) ?_; intro a0 hF0; have hM0 := Mem.start w Z hZ; have hle0 := Fz.le.refl Z
 have hp4 := hp (hs3.small); clear hp
 refine sqH ?_; intro hQ5Q hQ5
 refine sn hF0 hM0 (fun b => .pointer (some ⟨b, 0, none⟩)) [.int .i64 u0.ID, .bool u0.Long, .bool u0.Fast, .bool u0.Remote, .int .i64 u0.Size, .slice ao1 u0.Data.length cap2] 58 (nog rfl _) rfl (by kernel_rfl) (by kernel_rfl) ?_; intro b6 a7 wd9 hF8 hM10; clear hF0 hM0
 refine s1 hF8 2 (str []) ?_; intro a11 hF12; clear hF8
 refine nlH (hQ5 _ _ ?_); clear hQ5 hQ5Q
 refine wp_seq ?_
 refine sqH ?_; intro hQ13Q hQ13
 refine s1 hF12 3 (.pointer (some ⟨b6, 1, none⟩)) ?_; intro a14 hF15; clear hF12
 refine l1 hF15 hM10 4 0 1 (.bool u0.Long) rfl rfl ?_; intro a16 hF17; clear hF15
 refine s1 hF17 5 (.bool (!u0.Long)) ?_; intro a18 hF19; clear hF17
 refine nlH (hQ13 _ _ ?_); clear hQ13 hQ13Q
 refine cd hF19 (t := !u0.Long) (by kernel_rfl) (fun hb20 => ?_) (fun hb20 => ?_)
 ·
  have hp21 := hp4.1 hb20; clear hp4
  have hF22 : Fr 30 [] [⟨1, [], .pointer (some ⟨b6, 0, none⟩)⟩] a18 := hF19.reg; clear hF19
  refine sqQH mixed (by kernel_rfl) hM10 ?_; intro hQ23Q hQ23
  refine q1 hF22 6 (.pointer (some ⟨b6, 0, none⟩)) ?_; intro a25 hF26; clear hF22
  refine qst hF26 (.int .i64 u0.ID) (nog rfl _) rfl (by kernel_rfl) (fun v27 hC => ld hF26 hC 0 (g := []) (b := b6) (off := 0) (cs := [.int .i64 u0.ID, .bool u0.Long, .bool u0.Fast, .bool u0.Remote, .int .i64 u0.Size, .slice ao1 u0.Data.length cap2]) (ty := 58) rfl (by kernel_rfl) (by kernel_rfl) (by kernel_rfl) (by kernel_rfl) rfl) ?_; intro a28 hF29; clear hF26
  refine q1 hF29 8 (.int .u64 (wu64 u0.ID)) ?_; intro a31 hF32; clear hF29
  have hc34 := hp21.1; have hp35 := hp21.2; clear hp21
  refine qcl hF32 (str (bwriteS (wu64 u0.ID) 11)) 115 #[.int .u64 (wu64 u0.ID), .int .i64 11] (nog rfl _) rfl (by kernel_rfl) (fun _ => by kernel_rfl) (qfc fun w hC => bwrite_fun (wu64 u0.ID) 11 hc34 _ _ hC.fz) ?_; intro a36 hF37; clear hF32
  refine q1 hF37 10 (.pointer (some ⟨b6, 3, none⟩)) ?_; intro a39 hF40; clear hF37
  refine qst hF40 (.bool u0.Remote) (nog rfl _) rfl (by kernel_rfl) (fun v41 hC => ld hF40 hC 0 (g := []) (b := b6) (off := 3) (cs := [.int .i64 u0.ID, .bool u0.Long, .bool u0.Fast, .bool u0.Remote, .int .i64 u0.Size, .slice ao1 u0.Data.length cap2]) (ty := 58) rfl (by kernel_rfl) (by kernel_rfl) (by kernel_rfl) (by kernel_rfl) rfl) ?_; intro a42 hF43; clear hF40
  refine qcl hF43 (str (fbit u0.Remote)) 127 #[.bool u0.Remote] (nog rfl _) rfl (by kernel_rfl) (fun _ => by kernel_rfl) (qfc fun w hC => fbit_fun u0.Remote _ _ hC.fz) ?_; intro a45 hF46; clear hF43
  have hc48 := hp35.1; have hp49 := hp35.2; clear hp35
  refine qst hF46 (str ((bwriteS (wu64 u0.ID) 11) ++ (fbit u0.Remote))) (nog rfl _) rfl (by kernel_rfl) (fun v47 hC => stradd_run hF46 (g := []) rfl (by kernel_rfl) (by kernel_rfl) hc48 rfl) ?_; intro a50 hF51; clear hF46
  have hc53 := hp49.1; have hp54 := hp49.2; clear hp49
  refine qst hF51 (str (((bwriteS (wu64 u0.ID) 11) ++ (fbit u0.Remote)) ++ ([48] : List UInt8))) (nog rfl _) rfl (by kernel_rfl) (fun v52 hC => stradd_run hF51 (g := []) rfl (by kernel_rfl) (by kernel_rfl) hc53 rfl) ?_; intro a55 hF56; clear hF51
  refine q1 hF56 2 (str (((bwriteS (wu64 u0.ID) 11) ++ (fbit u0.Remote)) ++ ([48] : List UInt8))) ?_; intro a58 hF59; clear hF56
  refine qnl (hQ23 _ ?_); clear hQ23 hQ23Q; intro wd60 hM61; clear hM10
  refine wp_ret ?_
  refine thr ?_
  refine rt (fn := Try.f113) (v := str (((bwriteS (wu64 u0.ID) 11) ++ (fbit u0.Remote)) ++ ([48] : List UInt8))) hF59 (re1 hF59 (fn := Try.f113) rfl (by kernel_rfl)) ?_
  exact ⟨((bwriteS (wu64 u0.ID) 11) ++ (fbit u0.Remote)) ++ ([48] : List UInt8), rfl, hp54, hM61.below⟩
 ·
  have hp62 := hp4.2 hb20; clear hp4
  refine wp_skip ?_
  refine thn ?_
  have hF63 : Fr 30 [] [⟨1, [], .pointer (some ⟨b6, 0, none⟩)⟩] a18 := hF19.reg; clear hF19
  refine sqQH mixed (by kernel_rfl) hM10 ?_; intro hQ64Q hQ64
  refine q1 hF63 15 (.pointer (some ⟨b6, 0, none⟩)) ?_; intro a66 hF67; clear hF63
  refine qst hF67 (.int .i64 u0.ID) (nog rfl _) rfl (by kernel_rfl) (fun v68 hC => ld hF67 hC 0 (g := []) (b := b6) (off := 0) (cs := [.int .i64 u0.ID, .bool u0.Long, .bool u0.Fast, .bool u0.Remote, .int .i64 u0.Size, .slice ao1 u0.Data.length cap2]) (ty := 58) rfl (by kernel_rfl) (by kernel_rfl) (by kernel_rfl) (by kernel_rfl) rfl) ?_; intro a69 hF70; clear hF67
  refine q1 hF70 17 (.int .i64 (bShr .i64 u0.ID 18)) ?_; intro a72 hF73; clear hF70
  refine q1 hF73 18 (.int .u64 (wu64 (bShr .i64 u0.ID 18))) ?_; intro a75 hF76; clear hF73
  have hc78 := hp62.1; have hp79 := hp62.2; clear hp62
  refine qcl hF76 (str (bwriteS (wu64 (bShr .i64 u0.ID 18)) 11)) 115 #[.int .u64 (wu64 (bShr .i64 u0.ID 18)), .int .i64 11] (nog rfl _) rfl (by kernel_rfl) (fun _ => by kernel_rfl) (qfc fun w hC => bwrite_fun (wu64 (bShr .i64 u0.ID 18)) 11 hc78 _ _ hC.fz) ?_; intro a80 hF81; clear hF76
  have hc83 := hp79.1; have hp84 := hp79.2; clear hp79
  refine qst hF81 (str ((bwriteS (wu64 (bShr .i64 u0.ID 18)) 11) ++ ([49, 49] : List UInt8))) (nog rfl _) rfl (by kernel_rfl) (fun v82 hC => stradd_run hF81 (g := []) rfl (by kernel_rfl) (by kernel_rfl) hc83 rfl) ?_; intro a85 hF86; clear hF81
  refine q1 hF86 21 (.pointer (some ⟨b6, 0, none⟩)) ?_; intro a88 hF89; clear hF86
  refine qst hF89 (.int .i64 u0.ID) (nog rfl _) rfl (by kernel_rfl) (fun v90 hC => ld hF89 hC 0 (g := []) (b := b6) (off := 0) (cs := [.int .i64 u0.ID, .bool u0.Long, .bool u0.Fast, .bool u0.Remote, .int .i64 u0.Size, .slice ao1 u0.Data.length cap2]) (ty := 58) rfl (by kernel_rfl) (by kernel_rfl) (by kernel_rfl) (by kernel_rfl) rfl) ?_; intro a91 hF92; clear hF89
  refine q1 hF92 23 (.int .u64 (wu64 u0.ID)) ?_; intro a94 hF95; clear hF92
  have hc97 := hp84.1; have hp98 := hp84.2; clear hp84
  refine qcl hF95 (str (bwriteS (wu64 u0.ID) 18)) 115 #[.int .u64 (wu64 u0.ID), .int .i64 18] (nog rfl _) rfl (by kernel_rfl) (fun _ => by kernel_rfl) (qfc fun w hC => bwrite_fun (wu64 u0.ID) 18 hc97 _ _ hC.fz) ?_; intro a99 hF100; clear hF95
  have hc102 := hp98.1; have hp103 := hp98.2; clear hp98
  refine qst hF100 (str (((bwriteS (wu64 (bShr .i64 u0.ID 18)) 11) ++ ([49, 49] : List UInt8)) ++ (bwriteS (wu64 u0.ID) 18))) (nog rfl _) rfl (by kernel_rfl) (fun v101 hC => stradd_run hF100 (g := []) rfl (by kernel_rfl) (by kernel_rfl) hc102 rfl) ?_; intro a104 hF105; clear hF100
  refine q1 hF105 26 (.pointer (some ⟨b6, 3, none⟩)) ?_; intro a107 hF108; clear hF105
  refine qst hF108 (.bool u0.Remote) (nog rfl _) rfl (by kernel_rfl) (fun v109 hC => ld hF108 hC 0 (g := []) (b := b6) (off := 3) (cs := [.int .i64 u0.ID, .bool u0.Long, .bool u0.Fast, .bool u0.Remote, .int .i64 u0.Size, .slice ao1 u0.Data.length cap2]) (ty := 58) rfl (by kernel_rfl) (by kernel_rfl) (by kernel_rfl) (by kernel_rfl) rfl) ?_; intro a110 hF111; clear hF108
  refine qcl hF111 (str (fbit u0.Remote)) 127 #[.bool u0.Remote] (nog rfl _) rfl (by kernel_rfl) (fun _ => by kernel_rfl) (qfc fun w hC => fbit_fun u0.Remote _ _ hC.fz) ?_; intro a113 hF114; clear hF111
  have hc116 := hp103.1; have hp117 := hp103.2; clear hp103
  refine qst hF114 (str ((((bwriteS (wu64 (bShr .i64 u0.ID 18)) 11) ++ ([49, 49] : List UInt8)) ++ (bwriteS (wu64 u0.ID) 18)) ++ (fbit u0.Remote))) (nog rfl _) rfl (by kernel_rfl) (fun v115 hC => stradd_run hF114 (g := []) rfl (by kernel_rfl) (by kernel_rfl) hc116 rfl) ?_; intro a118 hF119; clear hF114
  refine q1 hF119 2 (str ((((bwriteS (wu64 (bShr .i64 u0.ID 18)) 11) ++ ([49, 49] : List UInt8)) ++ (bwriteS (wu64 u0.ID) 18)) ++ (fbit u0.Remote))) ?_; intro a121 hF122; clear hF119
  refine qnl (hQ64 _ ?_); clear hQ64 hQ64Q; intro wd123 hM124; clear hM10
  refine wp_ret ?_
  refine rt (fn := Try.f113) (v := str ((((bwriteS (wu64 (bShr .i64 u0.ID 18)) 11) ++ ([49, 49] : List UInt8)) ++ (bwriteS (wu64 u0.ID) 18)) ++ (fbit u0.Remote))) hF122 (re1 hF122 (fn := Try.f113) rfl (by kernel_rfl)) ?_
  exact ⟨(((bwriteS (wu64 (bShr .i64 u0.ID 18)) 11) ++ ([49, 49] : List UInt8)) ++ (bwriteS (wu64 u0.ID) 18)) ++ (fbit u0.Remote), rfl, hp117, hM124.below⟩

set_option maxRecDepth 100000 in
set_option maxHeartbeats 0 in
theorem dasks_walk (u0 : Task) (u1 : Int) (u2 : Bool)  (Z : Fz) (w : World)  (hZ : Z.on w) {K : Int → Prop} (hp : dasks_vc u0 u1 u2 K) : Calls Try.prog 84 #[.agg #[.int .i64 u0.ID, .int .i64 u0.Bytes, .int .i64 u0.Every, .int .i64 u0.Late, .int .i64 u0.Jitter], .int .i64 u1, .bool u2] w fun e w' => ∃ r : Int, e = .returned (.int .i64 r) ∧ K r ∧ Below w.heap.size w w' := by
 refine enter0 Try.func84 rfl rfl (by kernel_rfl) ?_; intro a0 hF0; have hM0 := Mem.start w Z hZ; have hle0 := Fz.le.refl Z
 refine sqH ?_; intro hQ1Q hQ1
 refine sn hF0 hM0 (fun b => .pointer (some ⟨b, 0, none⟩)) [.int .i64 u0.ID, .int .i64 u0.Bytes, .int .i64 u0.Every, .int .i64 u0.Late, .int .i64 u0.Jitter] 34 (nog rfl _) rfl (by kernel_rfl) (by kernel_rfl) ?_; intro b2 a3 wd5 hF4 hM6; clear hF0 hM0
 refine s1 hF4 6 (.int .i64 0) ?_; intro a7 hF8; clear hF4
 refine nlH (hQ1 _ _ ?_); clear hQ1 hQ1Q
 refine sqH ?_; intro hQ9Q hQ9
 refine s1 hF8 8 (.int .i64 u1) ?_; intro a10 hF11; clear hF8
 refine s1 hF11 9 (.pointer (some ⟨b2, 4, none⟩)) ?_; intro a12 hF13; clear hF11
 refine l1 hF13 hM6 10 0 4 (.int .i64 u0.Jitter) rfl rfl ?_; intro a14 hF15; clear hF13
 refine s1 hF15 11 (.int .i64 (w64 (u1 + u0.Jitter))) ?_; intro a16 hF17; clear hF15
 refine s1 hF17 7 (.int .i64 (w64 (u1 + u0.Jitter))) ?_; intro a18 hF19; clear hF17
 refine nlH (hQ9 _ _ ?_); clear hQ9 hQ9Q
 refine wp_seq ?_
 refine sqH ?_; intro hQ20Q hQ20
 refine s1 hF19 12 (.bool u2) ?_; intro a21 hF22; clear hF19
 refine nlH (hQ20 _ _ ?_); clear hQ20 hQ20Q
 refine cd hF22 (t := u2) (by kernel_rfl) (fun hb23 => ?_) (fun hb23 => ?_)
 ·
  have hp24 := hp.1 hb23; clear hp
  refine sqH ?_; intro hQ25Q hQ25
  refine s1 hF22 13 (.int .i64 (w64 (u1 + u0.Jitter))) ?_; intro a26 hF27; clear hF22
  refine s1 hF27 14 (.pointer (some ⟨b2, 2, none⟩)) ?_; intro a28 hF29; clear hF27
  refine l1 hF29 hM6 15 0 2 (.int .i64 u0.Every) rfl rfl ?_; intro a30 hF31; clear hF29
  have hc32 := hp24.1; have hp33 := hp24.2; clear hp24
  refine st hF31 (.int .i64 (w64 ((w64 (u1 + u0.Jitter)).tdiv u0.Every))) (nog rfl _) rfl (by kernel_rfl) (quo_run hF31 (g := []) rfl (by kernel_rfl) (by kernel_rfl) hc32 rfl) ?_; intro a34 hF35; clear hF31
  refine s1 hF35 17 (.int .i64 (w64 ((w64 ((w64 (u1 + u0.Jitter)).tdiv u0.Every)) + 1))) ?_; intro a36 hF37; clear hF35
  refine s1 hF37 6 (.int .i64 (w64 ((w64 ((w64 (u1 + u0.Jitter)).tdiv u0.Every)) + 1))) ?_; intro a38 hF39; clear hF37
  refine nlH (hQ25 _ _ ?_); clear hQ25 hQ25Q
  refine wp_ret ?_
  refine thr ?_
  refine rt (fn := Try.f84) (v := .int .i64 (w64 ((w64 ((w64 (u1 + u0.Jitter)).tdiv u0.Every)) + 1))) hF39 (re1 hF39 (fn := Try.f84) rfl (by kernel_rfl)) ?_
  exact ⟨w64 ((w64 ((w64 (u1 + u0.Jitter)).tdiv u0.Every)) + 1), rfl, hp33, hM6.below⟩
 ·
  have hp40 := hp.2 hb23; clear hp
  refine wp_skip ?_
  refine thn ?_
  refine sqH ?_; intro hQ41Q hQ41
  refine s1 hF22 18 (.int .i64 (w64 (u1 + u0.Jitter))) ?_; intro a42 hF43; clear hF22
  refine s1 hF43 19 (.pointer (some ⟨b2, 2, none⟩)) ?_; intro a44 hF45; clear hF43
  refine l1 hF45 hM6 20 0 2 (.int .i64 u0.Every) rfl rfl ?_; intro a46 hF47; clear hF45
  refine s1 hF47 21 (.int .i64 (w64 ((w64 (u1 + u0.Jitter)) + u0.Every))) ?_; intro a48 hF49; clear hF47
  refine s1 hF49 22 (.int .i64 (w64 ((w64 ((w64 (u1 + u0.Jitter)) + u0.Every)) - 1))) ?_; intro a50 hF51; clear hF49
  refine s1 hF51 23 (.pointer (some ⟨b2, 2, none⟩)) ?_; intro a52 hF53; clear hF51
  refine l1 hF53 hM6 24 0 2 (.int .i64 u0.Every) rfl rfl ?_; intro a54 hF55; clear hF53
  have hc56 := hp40.1; have hp57 := hp40.2; clear hp40
  refine st hF55 (.int .i64 (w64 ((w64 ((w64 ((w64 (u1 + u0.Jitter)) + u0.Every)) - 1)).tdiv u0.Every))) (nog rfl _) rfl (by kernel_rfl) (quo_run hF55 (g := []) rfl (by kernel_rfl) (by kernel_rfl) hc56 rfl) ?_; intro a58 hF59; clear hF55
  refine s1 hF59 6 (.int .i64 (w64 ((w64 ((w64 ((w64 (u1 + u0.Jitter)) + u0.Every)) - 1)).tdiv u0.Every))) ?_; intro a60 hF61; clear hF59
  refine nlH (hQ41 _ _ ?_); clear hQ41 hQ41Q
  refine wp_ret ?_
  refine rt (fn := Try.f84) (v := .int .i64 (w64 ((w64 ((w64 ((w64 (u1 + u0.Jitter)) + u0.Every)) - 1)).tdiv u0.Every))) hF61 (re1 hF61 (fn := Try.f84) rfl (by kernel_rfl)) ?_
  exact ⟨w64 ((w64 ((w64 ((w64 (u1 + u0.Jitter)) + u0.Every)) - 1)).tdiv u0.Every), rfl, hp57, hM6.below⟩

set_option maxRecDepth 100000 in
set_option maxHeartbeats 0 in
theorem dcheck_walk (u0 : List Task) (ao1 : Option Addr) (cap2 : Nat) (Z : Fz) (w : World) (hs3 : SlR tyTask Z ao1 cap2 u0) (hZ : Z.on w) {K : Int → Prop} (hp : dcheck_vc u0 K) : Calls Try.prog 47 #[.slice ao1 u0.length cap2] w fun e w' => ∃ r : Int, e = .returned (.int .i64 r) ∧ K r ∧ Below w.heap.size w w' := by
 refine enter0 Try.func47 rfl rfl (by kernel_rfl) ?_; intro a0 hF0; have hM0 := Mem.start w Z hZ; have hle0 := Fz.le.refl Z
 have hp4 := hp (hs3.small); clear hp
 refine sqH ?_; intro hQ5Q hQ5
 refine s1 hF0 2 (.int .i64 0) ?_; intro a6 hF7; clear hF0
 refine nlH (hQ5 _ _ ?_); clear hQ5 hQ5Q
 refine wp_seq ?_
 refine sqH ?_; intro hQ8Q hQ8
 refine s1 hF7 6 (.slice ao1 u0.length cap2) ?_; intro a9 hF10; clear hF7
 refine s1 hF10 7 (.int .i64 (u0.length : Int)) ?_; intro a11 hF12; clear hF10
 refine s1 hF12 8 (.bool (decide ((u0.length : Int) > 20))) ?_; intro a13 hF14; clear hF12
 refine nlH (hQ8 _ _ ?_); clear hQ8 hQ8Q
 refine cd hF14 (t := decide ((u0.length : Int) > 20)) (by kernel_rfl) (fun hb15 => ?_) (fun hb15 => ?_)
 ·
  have hp16 := hp4.1 hb15; clear hp4
  refine sqH ?_; intro hQ17Q hQ17
  refine s1 hF14 2 (.int .i64 2) ?_; intro a18 hF19; clear hF14
  refine nlH (hQ17 _ _ ?_); clear hQ17 hQ17Q
  refine wp_ret ?_
  refine thr ?_
  refine rt (fn := Try.f47) (v := .int .i64 2) hF19 (re1 hF19 (fn := Try.f47) rfl (by kernel_rfl)) ?_
  exact ⟨2, rfl, hp16, hM0.below⟩
 ·
  have hp20 := hp4.2 hb15; clear hp4
  refine wp_skip ?_
  refine thn ?_
  refine sqH ?_; intro hQ21Q hQ21
  refine s1 hF14 3 (.int .i64 (-1)) ?_; intro a22 hF23; clear hF14
  refine nlH (hQ21 _ _ ?_); clear hQ21 hQ21Q
  refine wp_seq ?_
  refine sqH ?_; intro hQ24Q hQ24
  refine s1 hF23 9 (.slice ao1 u0.length cap2) ?_; intro a25 hF26; clear hF23
  refine s1 hF26 10 (.int .i64 (u0.length : Int)) ?_; intro a27 hF28; clear hF26
  refine s1 hF28 11 (.int .i64 0) ?_; intro a29 hF30; clear hF28
  refine nlH (hQ24 _ _ ?_); clear hQ24 hQ24Q
  refine wp_block ?_
  have hF31 : Fr 72 [] [⟨3, [], .int .i64 (-1)⟩, ⟨9, [], .slice ao1 u0.length cap2⟩, ⟨10, [], .int .i64 (u0.length : Int)⟩, ⟨11, [], .int .i64 0⟩] a29 := hF30.reg; clear hF30
  have hF33 : Fr 72 [] [⟨3, [], .int .i64 (-1)⟩, ⟨9, [], .slice ao1 u0.length cap2⟩, ⟨10, [], .int .i64 (u0.length : Int)⟩, ⟨11, [], .int .i64 0⟩] a29 := hF31.reg; clear hF31
  obtain ⟨inv32, mu32, hI36, hr35⟩ := hp20
  refine lp (ι := Int × Int) (fun (s : Int × Int) => [⟨3, [], .int .i64 s.1⟩, ⟨9, [], .slice ao1 u0.length cap2⟩, ⟨10, [], .int .i64 (u0.length : Int)⟩, ⟨11, [], .int .i64 s.2⟩]) (fun (s : Int × Int) => []) (fun (s : Int × Int) => Z) (fun (s : Int × Int) => inv32 s.1 s.2) (fun (s : Int × Int) => mu32 s.1 s.2) ⟨-1, 0⟩ hI36 (by exact hF33.reg) (by exact hM0) ?_
  rintro ⟨x3, x11⟩ hI34 a38 wd39 hF40 hM41
  have hF42 : Fr 72 [] [⟨3, [], .int .i64 x3⟩, ⟨9, [], .slice ao1 u0.length cap2⟩, ⟨10, [], .int .i64 (u0.length : Int)⟩, ⟨11, [], .int .i64 x11⟩] a38 := hF40; clear hF40 hF33
  have hM43 : Mem w.heap.size [] w Z [] Z wd39 := hM41; clear hM41 hM0
  have hp44 := hr35 x3 x11 hI34
  refine sqH ?_; intro hQ45Q hQ45
  refine s1 hF42 12 (.bool (decide (x11 < (u0.length : Int)))) ?_; intro a46 hF47; clear hF42
  refine nlH (hQ45 _ _ ?_); clear hQ45 hQ45Q
  refine wp_seq ?_
  refine cd hF47 (t := decide (x11 < (u0.length : Int))) (by kernel_rfl) (fun hb48 => ?_) (fun hb48 => ?_)
  ·
   have hp49 := hp44.1 hb48; clear hp44
   refine wp_skip ?_
   refine thn ?_
   refine wp_seq ?_
   refine wp_block ?_
   refine sqH ?_; intro hQ50Q hQ50
   have hc51 := hp49.1; have hp52 := hp49.2; clear hp49
   refine ix hF47 (T := tyTask) (xs := u0) hs3 x11 hc51 (k := .i64) (e := 34) (bytes := 40) (nog rfl _) rfl (by kernel_rfl) rfl (by kernel_rfl) (by kernel_rfl) (by kernel_rfl) ?_; intro b53 off54 cs55 q56 a60 hq57 hP58 hT59 hF61; clear hF47
   have hp62 := hp52 q56 hq57; clear hp52
   obtain rfl : cs55 = ([.int .i64 q56.ID, .int .i64 q56.Bytes, .int .i64 q56.Every, .int .i64 q56.Late, .int .i64 q56.Jitter] : List Value) := hT59
   refine z2 hF61 hM43 14 hP58 0 5 [.int .i64 q56.ID, .int .i64 q56.Bytes, .int .i64 q56.Every, .int .i64 q56.Late, .int .i64 q56.Jitter] rfl ?_; intro a63 hF64; clear hF61
   refine sn hF64 hM43 (fun b => .pointer (some ⟨b, 0, none⟩)) [.int .i64 0, .int .i64 0, .int .i64 0, .int .i64 0, .int .i64 0] 34 (nog rfl _) rfl (by kernel_rfl) (by kernel_rfl) ?_; intro b65 a66 wd68 hF67 hM69; clear hF64 hM43
   refine sr hF67 hM69 0 [.int .i64 q56.ID, .int .i64 q56.Bytes, .int .i64 q56.Every, .int .i64 q56.Late, .int .i64 q56.Jitter] (b := b65) (off := 0) (cs := [.int .i64 0, .int .i64 0, .int .i64 0, .int .i64 0, .int .i64 0]) (ty := 34) (u := .agg #[.int .i64 q56.ID, .int .i64 q56.Bytes, .int .i64 q56.Every, .int .i64 q56.Late, .int .i64 q56.Jitter]) (nog rfl _) rfl rfl (by kernel_rfl) (by kernel_rfl) (by kernel_rfl) (by kernel_rfl) (by kernel_rfl) (by kernel_rfl) (by kernel_rfl) ?_; intro wd70 hM71; clear hM69
   have hM72 : Mem w.heap.size [] w Z [.row b65 [.int .i64 q56.ID, .int .i64 q56.Bytes, .int .i64 q56.Every, .int .i64 q56.Late, .int .i64 q56.Jitter] 34] Z wd70 := hM71; clear hM71
   refine nlH (hQ50 _ _ ?_); clear hQ50 hQ50Q
   refine wp_seq ?_
   refine sqH ?_; intro hQ73Q hQ73
   refine s1 hF67 15 (.pointer (some ⟨b65, 0, none⟩)) ?_; intro a74 hF75; clear hF67
   refine l1 hF75 hM72 16 0 0 (.int .i64 q56.ID) rfl rfl ?_; intro a76 hF77; clear hF75
   refine s1 hF77 17 (.bool (decide (q56.ID < 0))) ?_; intro a78 hF79; clear hF77
   refine s1 hF79 18 (.bool (decide (q56.ID < 0))) ?_; intro a80 hF81; clear hF79
   have hF82 := hF81.atom ((decide (q56.ID < 0)) == false) (by kernel_rfl); clear hF81
   refine gp hF82 19 0 [] (decide (q56.ID < 0)) (.pointer (some ⟨b65, 0, none⟩)) rfl rfl ?_; intro a83 hF84; clear hF82
   refine gd hF84 (.int .i64 q56.ID) (m := 0) (cj := []) (bj := decide (q56.ID < 0)) rfl rfl (by kernel_rfl) rfl (by kernel_rfl) (by kernel_rfl) (by kernel_rfl) (fun hg => ld hF84 hM72 0 (g := [0]) (b := b65) (off := 0) (cs := [.int .i64 q56.ID, .int .i64 q56.Bytes, .int .i64 q56.Every, .int .i64 q56.Late, .int .i64 q56.Jitter]) (ty := 34) rfl (by kernel_rfl) (by kernel_rfl) (by kernel_rfl) (by kernel_rfl) hg) ?_; intro a85 hF86; clear hF84
   refine gp hF86 21 0 [] (decide (q56.ID < 0)) (.bool (decide (q56.ID > 2047))) rfl rfl ?_; intro a87 hF88; clear hF86
   refine st hF88 (.bool ((decide (q56.ID < 0)) || (decide (q56.ID > 2047)))) (nog rfl _) rfl (by kernel_rfl) (pk_or hF88 (g := []) (m := 0) (b := decide (q56.ID < 0)) (v := decide (q56.ID > 2047)) rfl (by kernel_rfl) (by kernel_rfl) (by kernel_rfl) rfl) ?_; intro a89 hF90; clear hF88
   refine s1 hF90 23 (.bool ((decide (q56.ID < 0)) || (decide (q56.ID > 2047)))) ?_; intro a91 hF92; clear hF90
   have hF93 := hF92.atom (((decide (q56.ID < 0)) || (decide (q56.ID > 2047))) == false) (by kernel_rfl); clear hF92
   refine gp hF93 24 1 [] ((decide (q56.ID < 0)) || (decide (q56.ID > 2047))) (.pointer (some ⟨b65, 2, none⟩)) rfl rfl ?_; intro a94 hF95; clear hF93
   refine gd hF95 (.int .i64 q56.Every) (m := 1) (cj := []) (bj := (decide (q56.ID < 0)) || (decide (q56.ID > 2047))) rfl rfl (by kernel_rfl) rfl (by kernel_rfl) (by kernel_rfl) (by kernel_rfl) (fun hg => ld hF95 hM72 0 (g := [1]) (b := b65) (off := 2) (cs := [.int .i64 q56.ID, .int .i64 q56.Bytes, .int .i64 q56.Every, .int .i64 q56.Late, .int .i64 q56.Jitter]) (ty := 34) rfl (by kernel_rfl) (by kernel_rfl) (by kernel_rfl) (by kernel_rfl) hg) ?_; intro a96 hF97; clear hF95
   refine gp hF97 26 1 [] ((decide (q56.ID < 0)) || (decide (q56.ID > 2047))) (.bool (decide (q56.Every < 1))) rfl rfl ?_; intro a98 hF99; clear hF97
   refine st hF99 (.bool (((decide (q56.ID < 0)) || (decide (q56.ID > 2047))) || (decide (q56.Every < 1)))) (nog rfl _) rfl (by kernel_rfl) (pk_or hF99 (g := []) (m := 1) (b := (decide (q56.ID < 0)) || (decide (q56.ID > 2047))) (v := decide (q56.Every < 1)) rfl (by kernel_rfl) (by kernel_rfl) (by kernel_rfl) rfl) ?_; intro a100 hF101; clear hF99
   refine s1 hF101 28 (.bool (((decide (q56.ID < 0)) || (decide (q56.ID > 2047))) || (decide (q56.Every < 1)))) ?_; intro a102 hF103; clear hF101
   have hF104 := hF103.atom ((((decide (q56.ID < 0)) || (decide (q56.ID > 2047))) || (decide (q56.Every < 1))) == false) (by kernel_rfl); clear hF103
   refine gp hF104 29 2 [] (((decide (q56.ID < 0)) || (decide (q56.ID > 2047))) || (decide (q56.Every < 1))) (.pointer (some ⟨b65, 2, none⟩)) rfl rfl ?_; intro a105 hF106; clear hF104
   refine gd hF106 (.int .i64 q56.Every) (m := 2) (cj := []) (bj := ((decide (q56.ID < 0)) || (decide (q56.ID > 2047))) || (decide (q56.Every < 1))) rfl rfl (by kernel_rfl) rfl (by kernel_rfl) (by kernel_rfl) (by kernel_rfl) (fun hg => ld hF106 hM72 0 (g := [2]) (b := b65) (off := 2) (cs := [.int .i64 q56.ID, .int .i64 q56.Bytes, .int .i64 q56.Every, .int .i64 q56.Late, .int .i64 q56.Jitter]) (ty := 34) rfl (by kernel_rfl) (by kernel_rfl) (by kernel_rfl) (by kernel_rfl) hg) ?_; intro a107 hF108; clear hF106
   refine gp hF108 31 2 [] (((decide (q56.ID < 0)) || (decide (q56.ID > 2047))) || (decide (q56.Every < 1))) (.bool (decide (q56.Every > 1000000))) rfl rfl ?_; intro a109 hF110; clear hF108
   refine st hF110 (.bool ((((decide (q56.ID < 0)) || (decide (q56.ID > 2047))) || (decide (q56.Every < 1))) || (decide (q56.Every > 1000000)))) (nog rfl _) rfl (by kernel_rfl) (pk_or hF110 (g := []) (m := 2) (b := ((decide (q56.ID < 0)) || (decide (q56.ID > 2047))) || (decide (q56.Every < 1))) (v := decide (q56.Every > 1000000)) rfl (by kernel_rfl) (by kernel_rfl) (by kernel_rfl) rfl) ?_; intro a111 hF112; clear hF110
   refine s1 hF112 33 (.bool ((((decide (q56.ID < 0)) || (decide (q56.ID > 2047))) || (decide (q56.Every < 1))) || (decide (q56.Every > 1000000)))) ?_; intro a113 hF114; clear hF112
   have hF115 := hF114.atom (((((decide (q56.ID < 0)) || (decide (q56.ID > 2047))) || (decide (q56.Every < 1))) || (decide (q56.Every > 1000000))) == false) (by kernel_rfl); clear hF114
   refine gp hF115 34 3 [] ((((decide (q56.ID < 0)) || (decide (q56.ID > 2047))) || (decide (q56.Every < 1))) || (decide (q56.Every > 1000000))) (.pointer (some ⟨b65, 3, none⟩)) rfl rfl ?_; intro a116 hF117; clear hF115
   refine gd hF117 (.int .i64 q56.Late) (m := 3) (cj := []) (bj := (((decide (q56.ID < 0)) || (decide (q56.ID > 2047))) || (decide (q56.Every < 1))) || (decide (q56.Every > 1000000))) rfl rfl (by kernel_rfl) rfl (by kernel_rfl) (by kernel_rfl) (by kernel_rfl) (fun hg => ld hF117 hM72 0 (g := [3]) (b := b65) (off := 3) (cs := [.int .i64 q56.ID, .int .i64 q56.Bytes, .int .i64 q56.Every, .int .i64 q56.Late, .int .i64 q56.Jitter]) (ty := 34) rfl (by kernel_rfl) (by kernel_rfl) (by kernel_rfl) (by kernel_rfl) hg) ?_; intro a118 hF119; clear hF117
   refine gp hF119 36 3 [] ((((decide (q56.ID < 0)) || (decide (q56.ID > 2047))) || (decide (q56.Every < 1))) || (decide (q56.Every > 1000000))) (.bool (decide (q56.Late < 0))) rfl rfl ?_; intro a120 hF121; clear hF119
   refine st hF121 (.bool (((((decide (q56.ID < 0)) || (decide (q56.ID > 2047))) || (decide (q56.Every < 1))) || (decide (q56.Every > 1000000))) || (decide (q56.Late < 0)))) (nog rfl _) rfl (by kernel_rfl) (pk_or hF121 (g := []) (m := 3) (b := (((decide (q56.ID < 0)) || (decide (q56.ID > 2047))) || (decide (q56.Every < 1))) || (decide (q56.Every > 1000000))) (v := decide (q56.Late < 0)) rfl (by kernel_rfl) (by kernel_rfl) (by kernel_rfl) rfl) ?_; intro a122 hF123; clear hF121
   refine s1 hF123 38 (.bool (((((decide (q56.ID < 0)) || (decide (q56.ID > 2047))) || (decide (q56.Every < 1))) || (decide (q56.Every > 1000000))) || (decide (q56.Late < 0)))) ?_; intro a124 hF125; clear hF123
   have hF126 := hF125.atom ((((((decide (q56.ID < 0)) || (decide (q56.ID > 2047))) || (decide (q56.Every < 1))) || (decide (q56.Every > 1000000))) || (decide (q56.Late < 0))) == false) (by kernel_rfl); clear hF125
   refine gp hF126 39 4 [] (((((decide (q56.ID < 0)) || (decide (q56.ID > 2047))) || (decide (q56.Every < 1))) || (decide (q56.Every > 1000000))) || (decide (q56.Late < 0))) (.pointer (some ⟨b65, 3, none⟩)) rfl rfl ?_; intro a127 hF128; clear hF126
   refine gd hF128 (.int .i64 q56.Late) (m := 4) (cj := []) (bj := ((((decide (q56.ID < 0)) || (decide (q56.ID > 2047))) || (decide (q56.Every < 1))) || (decide (q56.Every > 1000000))) || (decide (q56.Late < 0))) rfl rfl (by kernel_rfl) rfl (by kernel_rfl) (by kernel_rfl) (by kernel_rfl) (fun hg => ld hF128 hM72 0 (g := [4]) (b := b65) (off := 3) (cs := [.int .i64 q56.ID, .int .i64 q56.Bytes, .int .i64 q56.Every, .int .i64 q56.Late, .int .i64 q56.Jitter]) (ty := 34) rfl (by kernel_rfl) (by kernel_rfl) (by kernel_rfl) (by kernel_rfl) hg) ?_; intro a129 hF130; clear hF128
   refine gp hF130 41 4 [] (((((decide (q56.ID < 0)) || (decide (q56.ID > 2047))) || (decide (q56.Every < 1))) || (decide (q56.Every > 1000000))) || (decide (q56.Late < 0))) (.bool (decide (q56.Late > 1000000))) rfl rfl ?_; intro a131 hF132; clear hF130
   refine st hF132 (.bool ((((((decide (q56.ID < 0)) || (decide (q56.ID > 2047))) || (decide (q56.Every < 1))) || (decide (q56.Every > 1000000))) || (decide (q56.Late < 0))) || (decide (q56.Late > 1000000)))) (nog rfl _) rfl (by kernel_rfl) (pk_or hF132 (g := []) (m := 4) (b := ((((decide (q56.ID < 0)) || (decide (q56.ID > 2047))) || (decide (q56.Every < 1))) || (decide (q56.Every > 1000000))) || (decide (q56.Late < 0))) (v := decide (q56.Late > 1000000)) rfl (by kernel_rfl) (by kernel_rfl) (by kernel_rfl) rfl) ?_; intro a133 hF134; clear hF132
   refine s1 hF134 43 (.bool ((((((decide (q56.ID < 0)) || (decide (q56.ID > 2047))) || (decide (q56.Every < 1))) || (decide (q56.Every > 1000000))) || (decide (q56.Late < 0))) || (decide (q56.Late > 1000000)))) ?_; intro a135 hF136; clear hF134
   have hF137 := hF136.atom (((((((decide (q56.ID < 0)) || (decide (q56.ID > 2047))) || (decide (q56.Every < 1))) || (decide (q56.Every > 1000000))) || (decide (q56.Late < 0))) || (decide (q56.Late > 1000000))) == false) (by kernel_rfl); clear hF136
   refine gp hF137 44 5 [] ((((((decide (q56.ID < 0)) || (decide (q56.ID > 2047))) || (decide (q56.Every < 1))) || (decide (q56.Every > 1000000))) || (decide (q56.Late < 0))) || (decide (q56.Late > 1000000))) (.pointer (some ⟨b65, 4, none⟩)) rfl rfl ?_; intro a138 hF139; clear hF137
   refine gd hF139 (.int .i64 q56.Jitter) (m := 5) (cj := []) (bj := (((((decide (q56.ID < 0)) || (decide (q56.ID > 2047))) || (decide (q56.Every < 1))) || (decide (q56.Every > 1000000))) || (decide (q56.Late < 0))) || (decide (q56.Late > 1000000))) rfl rfl (by kernel_rfl) rfl (by kernel_rfl) (by kernel_rfl) (by kernel_rfl) (fun hg => ld hF139 hM72 0 (g := [5]) (b := b65) (off := 4) (cs := [.int .i64 q56.ID, .int .i64 q56.Bytes, .int .i64 q56.Every, .int .i64 q56.Late, .int .i64 q56.Jitter]) (ty := 34) rfl (by kernel_rfl) (by kernel_rfl) (by kernel_rfl) (by kernel_rfl) hg) ?_; intro a140 hF141; clear hF139
   refine gp hF141 46 5 [] ((((((decide (q56.ID < 0)) || (decide (q56.ID > 2047))) || (decide (q56.Every < 1))) || (decide (q56.Every > 1000000))) || (decide (q56.Late < 0))) || (decide (q56.Late > 1000000))) (.bool (decide (q56.Jitter < 0))) rfl rfl ?_; intro a142 hF143; clear hF141
   refine st hF143 (.bool (((((((decide (q56.ID < 0)) || (decide (q56.ID > 2047))) || (decide (q56.Every < 1))) || (decide (q56.Every > 1000000))) || (decide (q56.Late < 0))) || (decide (q56.Late > 1000000))) || (decide (q56.Jitter < 0)))) (nog rfl _) rfl (by kernel_rfl) (pk_or hF143 (g := []) (m := 5) (b := (((((decide (q56.ID < 0)) || (decide (q56.ID > 2047))) || (decide (q56.Every < 1))) || (decide (q56.Every > 1000000))) || (decide (q56.Late < 0))) || (decide (q56.Late > 1000000))) (v := decide (q56.Jitter < 0)) rfl (by kernel_rfl) (by kernel_rfl) (by kernel_rfl) rfl) ?_; intro a144 hF145; clear hF143
   refine s1 hF145 48 (.bool (((((((decide (q56.ID < 0)) || (decide (q56.ID > 2047))) || (decide (q56.Every < 1))) || (decide (q56.Every > 1000000))) || (decide (q56.Late < 0))) || (decide (q56.Late > 1000000))) || (decide (q56.Jitter < 0)))) ?_; intro a146 hF147; clear hF145
   have hF148 := hF147.atom ((((((((decide (q56.ID < 0)) || (decide (q56.ID > 2047))) || (decide (q56.Every < 1))) || (decide (q56.Every > 1000000))) || (decide (q56.Late < 0))) || (decide (q56.Late > 1000000))) || (decide (q56.Jitter < 0))) == false) (by kernel_rfl); clear hF147
   refine gp hF148 49 6 [] (((((((decide (q56.ID < 0)) || (decide (q56.ID > 2047))) || (decide (q56.Every < 1))) || (decide (q56.Every > 1000000))) || (decide (q56.Late < 0))) || (decide (q56.Late > 1000000))) || (decide (q56.Jitter < 0))) (.pointer (some ⟨b65, 4, none⟩)) rfl rfl ?_; intro a149 hF150; clear hF148
   refine gd hF150 (.int .i64 q56.Jitter) (m := 6) (cj := []) (bj := ((((((decide (q56.ID < 0)) || (decide (q56.ID > 2047))) || (decide (q56.Every < 1))) || (decide (q56.Every > 1000000))) || (decide (q56.Late < 0))) || (decide (q56.Late > 1000000))) || (decide (q56.Jitter < 0))) rfl rfl (by kernel_rfl) rfl (by kernel_rfl) (by kernel_rfl) (by kernel_rfl) (fun hg => ld hF150 hM72 0 (g := [6]) (b := b65) (off := 4) (cs := [.int .i64 q56.ID, .int .i64 q56.Bytes, .int .i64 q56.Every, .int .i64 q56.Late, .int .i64 q56.Jitter]) (ty := 34) rfl (by kernel_rfl) (by kernel_rfl) (by kernel_rfl) (by kernel_rfl) hg) ?_; intro a151 hF152; clear hF150
   refine gp hF152 51 6 [] (((((((decide (q56.ID < 0)) || (decide (q56.ID > 2047))) || (decide (q56.Every < 1))) || (decide (q56.Every > 1000000))) || (decide (q56.Late < 0))) || (decide (q56.Late > 1000000))) || (decide (q56.Jitter < 0))) (.pointer (some ⟨b65, 2, none⟩)) rfl rfl ?_; intro a153 hF154; clear hF152
   refine gd hF154 (.int .i64 q56.Every) (m := 6) (cj := []) (bj := ((((((decide (q56.ID < 0)) || (decide (q56.ID > 2047))) || (decide (q56.Every < 1))) || (decide (q56.Every > 1000000))) || (decide (q56.Late < 0))) || (decide (q56.Late > 1000000))) || (decide (q56.Jitter < 0))) rfl rfl (by kernel_rfl) rfl (by kernel_rfl) (by kernel_rfl) (by kernel_rfl) (fun hg => ld hF154 hM72 0 (g := [6]) (b := b65) (off := 2) (cs := [.int .i64 q56.ID, .int .i64 q56.Bytes, .int .i64 q56.Every, .int .i64 q56.Late, .int .i64 q56.Jitter]) (ty := 34) rfl (by kernel_rfl) (by kernel_rfl) (by kernel_rfl) (by kernel_rfl) hg) ?_; intro a155 hF156; clear hF154
   refine gp hF156 53 6 [] (((((((decide (q56.ID < 0)) || (decide (q56.ID > 2047))) || (decide (q56.Every < 1))) || (decide (q56.Every > 1000000))) || (decide (q56.Late < 0))) || (decide (q56.Late > 1000000))) || (decide (q56.Jitter < 0))) (.bool (decide (q56.Jitter ≥ q56.Every))) rfl rfl ?_; intro a157 hF158; clear hF156
   refine st hF158 (.bool ((((((((decide (q56.ID < 0)) || (decide (q56.ID > 2047))) || (decide (q56.Every < 1))) || (decide (q56.Every > 1000000))) || (decide (q56.Late < 0))) || (decide (q56.Late > 1000000))) || (decide (q56.Jitter < 0))) || (decide (q56.Jitter ≥ q56.Every)))) (nog rfl _) rfl (by kernel_rfl) (pk_or hF158 (g := []) (m := 6) (b := ((((((decide (q56.ID < 0)) || (decide (q56.ID > 2047))) || (decide (q56.Every < 1))) || (decide (q56.Every > 1000000))) || (decide (q56.Late < 0))) || (decide (q56.Late > 1000000))) || (decide (q56.Jitter < 0))) (v := decide (q56.Jitter ≥ q56.Every)) rfl (by kernel_rfl) (by kernel_rfl) (by kernel_rfl) rfl) ?_; intro a159 hF160; clear hF158
   refine s1 hF160 55 (.bool ((((((((decide (q56.ID < 0)) || (decide (q56.ID > 2047))) || (decide (q56.Every < 1))) || (decide (q56.Every > 1000000))) || (decide (q56.Late < 0))) || (decide (q56.Late > 1000000))) || (decide (q56.Jitter < 0))) || (decide (q56.Jitter ≥ q56.Every)))) ?_; intro a161 hF162; clear hF160
   have hF163 := hF162.atom (((((((((decide (q56.ID < 0)) || (decide (q56.ID > 2047))) || (decide (q56.Every < 1))) || (decide (q56.Every > 1000000))) || (decide (q56.Late < 0))) || (decide (q56.Late > 1000000))) || (decide (q56.Jitter < 0))) || (decide (q56.Jitter ≥ q56.Every))) == false) (by kernel_rfl); clear hF162
   refine gp hF163 56 7 [] ((((((((decide (q56.ID < 0)) || (decide (q56.ID > 2047))) || (decide (q56.Every < 1))) || (decide (q56.Every > 1000000))) || (decide (q56.Late < 0))) || (decide (q56.Late > 1000000))) || (decide (q56.Jitter < 0))) || (decide (q56.Jitter ≥ q56.Every))) (.pointer (some ⟨b65, 1, none⟩)) rfl rfl ?_; intro a164 hF165; clear hF163
   refine gd hF165 (.int .i64 q56.Bytes) (m := 7) (cj := []) (bj := (((((((decide (q56.ID < 0)) || (decide (q56.ID > 2047))) || (decide (q56.Every < 1))) || (decide (q56.Every > 1000000))) || (decide (q56.Late < 0))) || (decide (q56.Late > 1000000))) || (decide (q56.Jitter < 0))) || (decide (q56.Jitter ≥ q56.Every))) rfl rfl (by kernel_rfl) rfl (by kernel_rfl) (by kernel_rfl) (by kernel_rfl) (fun hg => ld hF165 hM72 0 (g := [7]) (b := b65) (off := 1) (cs := [.int .i64 q56.ID, .int .i64 q56.Bytes, .int .i64 q56.Every, .int .i64 q56.Late, .int .i64 q56.Jitter]) (ty := 34) rfl (by kernel_rfl) (by kernel_rfl) (by kernel_rfl) (by kernel_rfl) hg) ?_; intro a166 hF167; clear hF165
   refine gp hF167 58 7 [] ((((((((decide (q56.ID < 0)) || (decide (q56.ID > 2047))) || (decide (q56.Every < 1))) || (decide (q56.Every > 1000000))) || (decide (q56.Late < 0))) || (decide (q56.Late > 1000000))) || (decide (q56.Jitter < 0))) || (decide (q56.Jitter ≥ q56.Every))) (.bool (decide (q56.Bytes < 0))) rfl rfl ?_; intro a168 hF169; clear hF167
   refine st hF169 (.bool (((((((((decide (q56.ID < 0)) || (decide (q56.ID > 2047))) || (decide (q56.Every < 1))) || (decide (q56.Every > 1000000))) || (decide (q56.Late < 0))) || (decide (q56.Late > 1000000))) || (decide (q56.Jitter < 0))) || (decide (q56.Jitter ≥ q56.Every))) || (decide (q56.Bytes < 0)))) (nog rfl _) rfl (by kernel_rfl) (pk_or hF169 (g := []) (m := 7) (b := (((((((decide (q56.ID < 0)) || (decide (q56.ID > 2047))) || (decide (q56.Every < 1))) || (decide (q56.Every > 1000000))) || (decide (q56.Late < 0))) || (decide (q56.Late > 1000000))) || (decide (q56.Jitter < 0))) || (decide (q56.Jitter ≥ q56.Every))) (v := decide (q56.Bytes < 0)) rfl (by kernel_rfl) (by kernel_rfl) (by kernel_rfl) rfl) ?_; intro a170 hF171; clear hF169
   refine s1 hF171 60 (.bool (((((((((decide (q56.ID < 0)) || (decide (q56.ID > 2047))) || (decide (q56.Every < 1))) || (decide (q56.Every > 1000000))) || (decide (q56.Late < 0))) || (decide (q56.Late > 1000000))) || (decide (q56.Jitter < 0))) || (decide (q56.Jitter ≥ q56.Every))) || (decide (q56.Bytes < 0)))) ?_; intro a172 hF173; clear hF171
   have hF174 := hF173.atom ((((((((((decide (q56.ID < 0)) || (decide (q56.ID > 2047))) || (decide (q56.Every < 1))) || (decide (q56.Every > 1000000))) || (decide (q56.Late < 0))) || (decide (q56.Late > 1000000))) || (decide (q56.Jitter < 0))) || (decide (q56.Jitter ≥ q56.Every))) || (decide (q56.Bytes < 0))) == false) (by kernel_rfl); clear hF173
   refine gp hF174 61 8 [] (((((((((decide (q56.ID < 0)) || (decide (q56.ID > 2047))) || (decide (q56.Every < 1))) || (decide (q56.Every > 1000000))) || (decide (q56.Late < 0))) || (decide (q56.Late > 1000000))) || (decide (q56.Jitter < 0))) || (decide (q56.Jitter ≥ q56.Every))) || (decide (q56.Bytes < 0))) (.pointer (some ⟨b65, 1, none⟩)) rfl rfl ?_; intro a175 hF176; clear hF174
   refine gd hF176 (.int .i64 q56.Bytes) (m := 8) (cj := []) (bj := ((((((((decide (q56.ID < 0)) || (decide (q56.ID > 2047))) || (decide (q56.Every < 1))) || (decide (q56.Every > 1000000))) || (decide (q56.Late < 0))) || (decide (q56.Late > 1000000))) || (decide (q56.Jitter < 0))) || (decide (q56.Jitter ≥ q56.Every))) || (decide (q56.Bytes < 0))) rfl rfl (by kernel_rfl) rfl (by kernel_rfl) (by kernel_rfl) (by kernel_rfl) (fun hg => ld hF176 hM72 0 (g := [8]) (b := b65) (off := 1) (cs := [.int .i64 q56.ID, .int .i64 q56.Bytes, .int .i64 q56.Every, .int .i64 q56.Late, .int .i64 q56.Jitter]) (ty := 34) rfl (by kernel_rfl) (by kernel_rfl) (by kernel_rfl) (by kernel_rfl) hg) ?_; intro a177 hF178; clear hF176
   refine gp hF178 63 8 [] (((((((((decide (q56.ID < 0)) || (decide (q56.ID > 2047))) || (decide (q56.Every < 1))) || (decide (q56.Every > 1000000))) || (decide (q56.Late < 0))) || (decide (q56.Late > 1000000))) || (decide (q56.Jitter < 0))) || (decide (q56.Jitter ≥ q56.Every))) || (decide (q56.Bytes < 0))) (.bool (decide (q56.Bytes > 8))) rfl rfl ?_; intro a179 hF180; clear hF178
   refine st hF180 (.bool ((((((((((decide (q56.ID < 0)) || (decide (q56.ID > 2047))) || (decide (q56.Every < 1))) || (decide (q56.Every > 1000000))) || (decide (q56.Late < 0))) || (decide (q56.Late > 1000000))) || (decide (q56.Jitter < 0))) || (decide (q56.Jitter ≥ q56.Every))) || (decide (q56.Bytes < 0))) || (decide (q56.Bytes > 8)))) (nog rfl _) rfl (by kernel_rfl) (pk_or hF180 (g := []) (m := 8) (b := ((((((((decide (q56.ID < 0)) || (decide (q56.ID > 2047))) || (decide (q56.Every < 1))) || (decide (q56.Every > 1000000))) || (decide (q56.Late < 0))) || (decide (q56.Late > 1000000))) || (decide (q56.Jitter < 0))) || (decide (q56.Jitter ≥ q56.Every))) || (decide (q56.Bytes < 0))) (v := decide (q56.Bytes > 8)) rfl (by kernel_rfl) (by kernel_rfl) (by kernel_rfl) rfl) ?_; intro a181 hF182; clear hF180
   refine nlH (hQ73 _ _ ?_); clear hQ73 hQ73Q
   refine cd hF182 (t := (((((((((decide (q56.ID < 0)) || (decide (q56.ID > 2047))) || (decide (q56.Every < 1))) || (decide (q56.Every > 1000000))) || (decide (q56.Late < 0))) || (decide (q56.Late > 1000000))) || (decide (q56.Jitter < 0))) || (decide (q56.Jitter ≥ q56.Every))) || (decide (q56.Bytes < 0))) || (decide (q56.Bytes > 8))) (by kernel_rfl) (fun hb183 => ?_) (fun hb183 => ?_)
   ·
    have hp184 := hp62.1 hb183; clear hp62
    have hF185 : Fr 72 [] [] a181 := hF182.reg; clear hF182
    refine sqH ?_; intro hQ186Q hQ186
    refine s1 hF185 2 (.int .i64 3) ?_; intro a187 hF188; clear hF185
    refine nlH (hQ186 _ _ ?_); clear hQ186 hQ186Q
    refine wp_ret ?_
    refine thr ?_
    refine ibr ?_
    refine thr ?_
    refine thr ?_
    refine ibr ?_
    refine thr ?_
    refine rt (fn := Try.f47) (v := .int .i64 3) hF188 (re1 hF188 (fn := Try.f47) rfl (by kernel_rfl)) ?_
    exact ⟨3, rfl, hp184, hM72.below⟩
   ·
    have hp189 := hp62.2 hb183; clear hp62
    refine wp_skip ?_
    refine thn ?_
    refine wp_seq ?_
    have hF190 : Fr 72 [] [⟨3, [], .int .i64 x3⟩, ⟨5, [], .pointer (some ⟨b65, 0, none⟩)⟩, ⟨9, [], .slice ao1 u0.length cap2⟩, ⟨10, [], .int .i64 (u0.length : Int)⟩, ⟨11, [], .int .i64 x11⟩] a181 := hF182.reg; clear hF182
    refine sqH ?_; intro hQ191Q hQ191
    refine s1 hF190 65 (.pointer (some ⟨b65, 0, none⟩)) ?_; intro a192 hF193; clear hF190
    refine l1 hF193 hM72 66 0 0 (.int .i64 q56.ID) rfl rfl ?_; intro a194 hF195; clear hF193
    refine s1 hF195 67 (.int .i64 x3) ?_; intro a196 hF197; clear hF195
    refine s1 hF197 68 (.bool (decide (q56.ID ≤ x3))) ?_; intro a198 hF199; clear hF197
    refine nlH (hQ191 _ _ ?_); clear hQ191 hQ191Q
    refine cd hF199 (t := decide (q56.ID ≤ x3)) (by kernel_rfl) (fun hb200 => ?_) (fun hb200 => ?_)
    ·
     have hp201 := hp189.1 hb200; clear hp189
     refine sqH ?_; intro hQ202Q hQ202
     refine s1 hF199 2 (.int .i64 4) ?_; intro a203 hF204; clear hF199
     refine nlH (hQ202 _ _ ?_); clear hQ202 hQ202Q
     refine wp_ret ?_
     refine thr ?_
     refine ibr ?_
     refine thr ?_
     refine thr ?_
     refine ibr ?_
     refine thr ?_
     refine rt (fn := Try.f47) (v := .int .i64 4) hF204 (re1 hF204 (fn := Try.f47) rfl (by kernel_rfl)) ?_
     exact ⟨4, rfl, hp201, hM72.below⟩
    ·
     have hp205 := hp189.2 hb200; clear hp189
     refine wp_skip ?_
     refine thn ?_
     refine rgH ?_; intro hQ206Q hQ206
     refine s1 hF199 69 (.pointer (some ⟨b65, 0, none⟩)) ?_; intro a207 hF208; clear hF199
     refine l1 hF208 hM72 70 0 0 (.int .i64 q56.ID) rfl rfl ?_; intro a209 hF210; clear hF208
     refine s1 hF210 3 (.int .i64 q56.ID) ?_; intro a211 hF212; clear hF210
     refine nlH (hQ206 _ _ ?_); clear hQ206 hQ206Q
     refine ibn ?_
     refine thn ?_
     refine rgH ?_; intro hQ213Q hQ213
     refine s1 hF212 71 (.int .i64 (w64 (x11 + 1))) ?_; intro a214 hF215; clear hF212
     refine s1 hF215 11 (.int .i64 (w64 (x11 + 1))) ?_; intro a216 hF217; clear hF215
     refine nlH (hQ213 _ _ ?_); clear hQ213 hQ213Q
     refine rd ?_
     exact ⟨⟨q56.ID, w64 (x11 + 1)⟩, hp205.1, hp205.2, (hF217.reg).anyβ _ (by kernel_rfl), hM72.keep (List.Sublist.cons _ (List.Sublist.slnil))⟩
  ·
   have hp218 := hp44.2 hb48; clear hp44
   refine wp_exit ?_
   refine thx ?_
   refine thx ?_
   refine ibx ?_
   refine thn ?_
   refine sqH ?_; intro hQ219Q hQ219
   refine s1 hF47 2 (.int .i64 0) ?_; intro a220 hF221; clear hF47
   refine nlH (hQ219 _ _ ?_); clear hQ219 hQ219Q
   refine wp_ret ?_
   refine rt (fn := Try.f47) (v := .int .i64 0) hF221 (re1 hF221 (fn := Try.f47) rfl (by kernel_rfl)) ?_
   exact ⟨0, rfl, hp218, hM43.below⟩

set_option maxRecDepth 100000 in
set_option maxHeartbeats 0 in
theorem tclone_walk (u0 : List Task) (ao1 : Option Addr) (cap2 : Nat) (Z : Fz) (w : World) (hs3 : SlR tyTask Z ao1 cap2 u0) (hZ : Z.on w) {K : (List Task) → Prop} (hp : tclone_vc u0 K) : Calls Try.prog 16 #[.slice ao1 u0.length cap2] w fun e w' => ∃ (r : (List Task)) (ao1001 : Option Addr) (cap1002 : Nat) (Z' : Fz), e = .returned (.slice ao1001 r.length cap1002) ∧ K r ∧ Mem w.heap.size [] w Z [.own tyTask 34 ao1001 cap1002 r] Z' w' := by
 refine enter0 Try.func16 rfl rfl (by kernel_rfl) ?_; intro a0 hF0; have hM0 := Mem.start w Z hZ; have hle0 := Fz.le.refl Z
 have hp4 := hp (hs3.small); clear hp
 refine sqH ?_; intro hQ5Q hQ5
 refine s1 hF0 2 (.slice none 0 0) ?_; intro a6 hF7; clear hF0
 refine nlH (hQ5 _ _ ?_); clear hQ5 hQ5Q
 refine wp_seq ?_
 refine sqH ?_; intro hQ8Q hQ8
 refine s1 hF7 3 (.slice ao1 u0.length cap2) ?_; intro a9 hF10; clear hF7
 obtain ⟨nb11, hnb12⟩ : ∃ b, ao1.isNone = b := ⟨_, rfl⟩; have hp13 := hp4 nb11 (by rw [← hnb12]; exact hs3.isNone); clear hp4
 refine st hF10 (.bool nb11) (nog rfl _) rfl (by kernel_rfl) (re_ (r := .ok (.value (.bool ao1.isNone)) w) (by cases ao1 <;> exact p0 hF10 (by kernel_rfl)) (by rw [hnb12])) ?_; intro a14 hF15; clear hF10
 refine nlH (hQ8 _ _ ?_); clear hQ8 hQ8Q
 refine cd hF15 (t := nb11) (by kernel_rfl) (fun hb16 => ?_) (fun hb16 => ?_)
 ·
  have hp17 := hp13.1 hb16; clear hp13
  refine sqH ?_; intro hQ18Q hQ18
  refine s1 hF15 2 (.slice none 0 0) ?_; intro a19 hF20; clear hF15
  refine nlH (hQ18 _ _ ?_); clear hQ18 hQ18Q
  refine wp_ret ?_
  refine thr ?_
  have hM21 : Mem w.heap.size [] w Z [.own tyTask 34 none 0 ([] : List Task)] Z w := hM0.addNil tyTask 34 (by decide); clear hM0
  refine rt (fn := Try.f16) (v := .slice none ([] : List Task).length 0) hF20 (re1 hF20 (fn := Try.f16) rfl (by kernel_rfl)) ?_
  exact ⟨([] : List Task), none, 0, Z, rfl, hp17, hM21.keep (List.Sublist.cons_cons _ (List.Sublist.slnil))⟩
 ·
  have hp22 := hp13.2 hb16; clear hp13
  refine wp_skip ?_
  refine thn ?_
  refine sqH ?_; intro hQ23Q hQ23
  refine sn hF15 hM0 (fun b => .slice (some ⟨b, 0, none⟩) 0 0) [] 34 (nog rfl _) rfl (by kernel_rfl) (by kernel_rfl) ?_; intro b24 a25 wd27 hF26 hM28; clear hF15 hM0
  refine s1 hF26 6 (.slice ao1 u0.length cap2) ?_; intro a29 hF30; clear hF26
  have hM31 : Mem w.heap.size [] w Z [.own tyTask 34 (some ⟨b24, 0, none⟩) 0 ([] : List Task)] Z wd27 := hM28.rowOwn (T := tyTask) (xs := ([] : List Task)) 0 rfl (by decide) (by show 0 ≤ lim; decide) (RepAll.nil _ _); clear hM28
  have hc32 := hp22.1; have hp33 := hp22.2; clear hp22
  refine ap hF30 hM31 0 (T := tyTask) (xs := ([] : List Task)) (ys := u0) (ao := (some ⟨b24, 0, none⟩)) (cap := 0) (ao2 := ao1) (cap2 := cap2) (t := 32) (e := 34) (bytes := 40) (nog rfl _) rfl (by kernel_rfl) rfl (by kernel_rfl) (by kernel_rfl) (by kernel_rfl) rfl (Src.fz (by decide) hM31.fz hs3) hc32 ?_; intro ao34 cap35 a39 wd36 hnil37 hF40 hM38; clear hF30 hM31
  have hM41 : Mem w.heap.size [] w Z [.own tyTask 34 ao34 cap35 (([] : List Task) ++ u0)] Z wd36 := hM38; clear hM38
  refine s1 hF40 2 (.slice ao34 (([] : List Task) ++ u0).length cap35) ?_; intro a42 hF43; clear hF40
  refine nlH (hQ23 _ _ ?_); clear hQ23 hQ23Q
  refine wp_ret ?_
  refine rt (fn := Try.f16) (v := .slice ao34 (([] : List Task) ++ u0).length cap35) hF43 (re1 hF43 (fn := Try.f16) rfl (by kernel_rfl)) ?_
  exact ⟨([] : List Task) ++ u0, ao34, cap35, Z, rfl, hp33, hM41.keep (List.Sublist.cons_cons _ (List.Sublist.slnil))⟩

set_option maxRecDepth 100000 in
set_option maxHeartbeats 0 in
theorem dfix_walk (u0 : Int) (u1 : Int → Int) (fid1 : Nat) (caps2 : Array Value) (Z : Fz) (w : World) (hf3 : ∀ (Z1 : Fz) (w1 : World), Z.le Z1 → Z1.on w1 → ∀ (x0 : Int), Calls Try.prog fid1 (#[.int .i64 x0] ++ caps2) w1 fun e w2 => e = .returned (.int .i64 (u1 x0)) ∧ Below w1.heap.size w1 w2) (hg4 : ∀ x w, Sem.run Try.prog (callFunc fid1 x) w = .ok (.enter fid1 x) w) (hZ : Z.on w) {K : Int → Prop} (hp : dfix_vc u0 u1 K) : Calls Try.prog 82 #[.int .i64 u0, .func (.func fid1) #[] caps2] w fun e w' => ∃ r : Int, e = .returned (.int .i64 r) ∧ K r ∧ Below w.heap.size w w' := by
 refine enter0 Try.func82 rfl rfl (by kernel_rfl) ?_; intro a0 hF0; have hM0 := Mem.start w Z hZ; have hle0 := Fz.le.refl Z
 refine sqH ?_; intro hQ5Q hQ5
 refine s1 hF0 4 (.int .i64 0) ?_; intro a6 hF7; clear hF0
 refine nlH (hQ5 _ _ ?_); clear hQ5 hQ5Q
 refine wp_block ?_
 have hF8 : Fr 18 [] [⟨0, [], .int .i64 u0⟩, ⟨1, [], .func (.func fid1) #[] caps2⟩] a6 := hF7.reg; clear hF7
 have hF10 : Fr 18 [] [⟨0, [], .int .i64 u0⟩, ⟨1, [], .func (.func fid1) #[] caps2⟩] a6 := hF8.reg; clear hF8
 obtain ⟨inv9, mu9, hI13, hr12⟩ := hp
 refine lp (ι := Int) (fun (s : Int) => [⟨0, [], .int .i64 s⟩, ⟨1, [], .func (.func fid1) #[] caps2⟩]) (fun (s : Int) => []) (fun (s : Int) => Z) (fun (s : Int) => inv9 s) (fun (s : Int) => mu9 s) u0 hI13 (by exact hF10.reg) (by exact hM0) ?_
 rintro x0 hI11 a15 wd16 hF17 hM18
 have hF19 : Fr 18 [] [⟨0, [], .int .i64 x0⟩, ⟨1, [], .func (.func fid1) #[] caps2⟩] a15 := hF17; clear hF17 hF10
 have hM20 : Mem w.heap.size [] w Z [] Z wd16 := hM18; clear hM18 hM0
 have hp21 := hr12 x0 hI11
 refine wp_block ?_
 refine sqH ?_; intro hQ22Q hQ22
 refine s1 hF19 6 (.func (.func fid1) #[] caps2) ?_; intro a23 hF24; clear hF19
 refine s1 hF24 7 (.int .i64 x0) ?_; intro a25 hF26; clear hF24
 have hc31 := hf3 _ _ hle0 hM20.fz x0
 refine fcl hF26 hM20 (.int .i64 (u1 x0)) fid1 (#[.int .i64 x0] ++ caps2) (nog rfl _) rfl (by kernel_rfl) ?h1 ?h2 ?_
 case h1 => exact fv_run rfl (by kernel_rfl) (by kernel_rfl) hg4
 case h2 => exact hc31
 intro a27 wd29 hF28 hM30; clear hF26 hM20
 refine s1 hF28 5 (.int .i64 (u1 x0)) ?_; intro a32 hF33; clear hF28
 refine nlH (hQ22 _ _ ?_); clear hQ22 hQ22Q
 refine wp_seq ?_
 refine wp_block ?_
 refine sqH ?_; intro hQ34Q hQ34
 refine s1 hF33 10 (.int .i64 (u1 x0)) ?_; intro a35 hF36; clear hF33
 refine s1 hF36 11 (.bool (decide ((u1 x0) > 200000))) ?_; intro a37 hF38; clear hF36
 refine s1 hF38 9 (.bool (decide ((u1 x0) > 200000))) ?_; intro a39 hF40; clear hF38
 refine nlH (hQ34 _ _ ?_); clear hQ34 hQ34Q
 refine cd hF40 (t := decide ((u1 x0) > 200000)) (by kernel_rfl) (fun hb41 => ?_) (fun hb41 => ?_)
 ·
  have hp42 := hp21.1 hb41; clear hp21
  refine sqH ?_; intro hQ43Q hQ43
  refine s1 hF40 4 (.int .i64 (-1)) ?_; intro a44 hF45; clear hF40
  refine nlH (hQ43 _ _ ?_); clear hQ43 hQ43Q
  refine wp_ret ?_
  refine ibr ?_
  refine thr ?_
  refine ibr ?_
  refine thr ?_
  refine ibr ?_
  refine rt (fn := Try.f82) (v := .int .i64 (-1)) hF45 (re1 hF45 (fn := Try.f82) rfl (by kernel_rfl)) ?_
  exact ⟨-1, rfl, hp42, hM30.below⟩
 ·
  have hp46 := hp21.2 hb41; clear hp21
  refine sqH ?_; intro hQ47Q hQ47
  refine s1 hF40 13 (.int .i64 (u1 x0)) ?_; intro a48 hF49; clear hF40
  refine s1 hF49 14 (.int .i64 x0) ?_; intro a50 hF51; clear hF49
  refine s1 hF51 15 (.bool ((u1 x0) == x0)) ?_; intro a52 hF53; clear hF51
  refine s1 hF53 12 (.bool ((u1 x0) == x0)) ?_; intro a54 hF55; clear hF53
  refine nlH (hQ47 _ _ ?_); clear hQ47 hQ47Q
  refine cd hF55 (t := (u1 x0) == x0) (by kernel_rfl) (fun hb56 => ?_) (fun hb56 => ?_)
  ·
   have hp57 := hp46.1 hb56; clear hp46
   refine sqH ?_; intro hQ58Q hQ58
   refine s1 hF55 16 (.int .i64 (u1 x0)) ?_; intro a59 hF60; clear hF55
   refine s1 hF60 4 (.int .i64 (u1 x0)) ?_; intro a61 hF62; clear hF60
   refine nlH (hQ58 _ _ ?_); clear hQ58 hQ58Q
   refine wp_ret ?_
   refine ibr ?_
   refine thr ?_
   refine ibr ?_
   refine thr ?_
   refine ibr ?_
   refine rt (fn := Try.f82) (v := .int .i64 (u1 x0)) hF62 (re1 hF62 (fn := Try.f82) rfl (by kernel_rfl)) ?_
   exact ⟨(u1 x0), rfl, hp57, hM30.below⟩
  ·
   have hp63 := hp46.2 hb56; clear hp46
   refine wp_skip ?_
   refine ibn ?_
   refine thn ?_
   refine rgH ?_; intro hQ64Q hQ64
   refine s1 hF55 17 (.int .i64 (u1 x0)) ?_; intro a65 hF66; clear hF55
   refine s1 hF66 0 (.int .i64 (u1 x0)) ?_; intro a67 hF68; clear hF66
   refine nlH (hQ64 _ _ ?_); clear hQ64 hQ64Q
   refine ibn ?_
   refine rd ?_
   exact ⟨(u1 x0), hp63.1, hp63.2, (hF68.reg).anyβ _ (by kernel_rfl), hM30.keep (List.Sublist.slnil)⟩

end Go.Proofs.Ytginlmgkimfjmaa
