/- The walks, made by program: each call does what its pure predicate says. -/
import Derived.Test.YtdndfbamhnchfaaDoorPS
import Derived.Test.YtdndfbamhnchfaaDoorWR
set_option linter.unusedVariables false
set_option linter.unusedSimpArgs false
namespace Go.Proofs.YtdndfbamhnchfaaDoor
open Go.Sy Go.RowKit
theorem rcheck_fun (u0 : Signal) (u1 : Int)  (Z : Fz) (w : World)  (hZ : Z.on w) : Calls Tryd.prog 8 #[.agg #[str u0.Name, .int .i64 u0.Start, .int .i64 u0.Size, .bool u0.Back, .bool u0.Signed, .int .i64 u0.Mul, .int .i64 u0.Div, .int .i64 u0.Add, .int .i64 u0.Key], .int .i64 u1] w fun e w' => e = .returned (.int .i64 (checkS u0 u1)) ∧ Below w.heap.size w w' :=
  (rcheck_walk u0 u1  Z w  hZ (rcheck_ok u0 u1)).mono fun _ _ ⟨r, he, hk, hb⟩ => ⟨by subst hk; exact he, hb⟩

theorem splc_fun (u0 : Signal) (u1 : Int)  (Z : Fz) (w : World)  (hZ : Z.on w) : Calls Tryd.prog 18 #[.agg #[str u0.Name, .int .i64 u0.Start, .int .i64 u0.Size, .bool u0.Back, .bool u0.Signed, .int .i64 u0.Mul, .int .i64 u0.Div, .int .i64 u0.Add, .int .i64 u0.Key], .int .i64 u1] w fun e w' => ∃ (ao1001 : Option Addr) (cap1002 : Nat) (Z' : Fz), e = .returned (.tuple #[.slice ao1001 (splcS u0 u1).1.length cap1002, .int .i64 (splcS u0 u1).2]) ∧ Mem w.heap.size [] w Z [.own (tyInt .i64) 3 ao1001 cap1002 (splcS u0 u1).1] Z' w' :=
  (splc_walk u0 u1  Z w  hZ (splc_ok u0 u1)).mono fun _ _ ⟨r, h0, h1, h2, he, hk, hm⟩ => by subst hk; exact ⟨h0, h1, h2, he, hm⟩

theorem rover_fun (u0 : Signal) (u1 : Signal) (hpre : ((0 ≤ u0.Start ∧ u0.Start ≤ 512) ∧ 1 ≤ u0.Size ∧ u0.Size ≤ 40) ∧ (0 ≤ u1.Start ∧ u1.Start ≤ 512) ∧ 1 ≤ u1.Size ∧ u1.Size ≤ 40)  (Z : Fz) (w : World)  (hZ : Z.on w) : Calls Tryd.prog 23 #[.agg #[str u0.Name, .int .i64 u0.Start, .int .i64 u0.Size, .bool u0.Back, .bool u0.Signed, .int .i64 u0.Mul, .int .i64 u0.Div, .int .i64 u0.Add, .int .i64 u0.Key], .agg #[str u1.Name, .int .i64 u1.Start, .int .i64 u1.Size, .bool u1.Back, .bool u1.Signed, .int .i64 u1.Mul, .int .i64 u1.Div, .int .i64 u1.Add, .int .i64 u1.Key]] w fun e w' => e = .returned (.bool (roverS u0 u1)) ∧ Below w.heap.size w w' :=
  (rover_walk u0 u1  Z w  hZ (rover_ok u0 u1 hpre)).mono fun _ _ ⟨r, he, hk, hb⟩ => ⟨by subst hk; exact he, hb⟩

theorem ieq_fun (u0 : List Int) (u1 : List Int) (ao1 : Option Addr) (cap2 : Nat) (ao4 : Option Addr) (cap5 : Nat) (Z : Fz) (w : World) (hs3 : SlR (tyInt .i64) Z ao1 cap2 u0) (hs6 : SlR (tyInt .i64) Z ao4 cap5 u1) (hZ : Z.on w) : Calls Tryd.prog 24 #[.slice ao1 u0.length cap2, .slice ao4 u1.length cap5] w fun e w' => e = .returned (.bool (ieqS u0 u1)) ∧ Below w.heap.size w w' :=
  (ieq_walk u0 u1 ao1 cap2 ao4 cap5 Z w hs3 hs6 hZ (ieq_ok u0 u1)).mono fun _ _ ⟨r, he, hk, hb⟩ => ⟨by subst hk; exact he, hb⟩

theorem signalled_fun   (Z : Fz) (w : World)  (hZ : Z.on w) : Calls Tryd.prog 9 #[] w fun e w' => e = .returned (.bool true) ∧ Below w.heap.size w w' :=
  (signalled_walk   Z w  hZ (signalled_ok )).mono fun _ _ ⟨r, he, hk, hb⟩ => ⟨by subst hk; exact he, hb⟩

set_option maxRecDepth 100000 in
set_option maxHeartbeats 0 in
theorem LPlaces_walk (u0 : Signal) (u1 : Signal) (u2 : Int) (u3 : List UInt8)  (Z : Fz) (w : World)  (hZ : Z.on w) {K : Bool → Prop} (hp : LPlaces_vc u0 u1 u2 u3 K) : Calls Tryd.prog 5 #[.agg #[str u0.Name, .int .i64 u0.Start, .int .i64 u0.Size, .bool u0.Back, .bool u0.Signed, .int .i64 u0.Mul, .int .i64 u0.Div, .int .i64 u0.Add, .int .i64 u0.Key], .agg #[str u1.Name, .int .i64 u1.Start, .int .i64 u1.Size, .bool u1.Back, .bool u1.Signed, .int .i64 u1.Mul, .int .i64 u1.Div, .int .i64 u1.Add, .int .i64 u1.Key], .int .i64 u2, str u3] w fun e w' => ∃ r : Bool, e = .returned (.bool r) ∧ K r ∧ Below w.heap.size w w' := by
 refine enter0 Tryd.func5 rfl rfl (by kernel_rfl) ?_; intro a0 hF0; have hM0 := Mem.start w Z hZ; have hle0 := Fz.le.refl Z
 refine sqH ?_; intro hQ1Q hQ1
 refine sn hF0 hM0 (fun b => .pointer (some ⟨b, 0, none⟩)) [str u0.Name, .int .i64 u0.Start, .int .i64 u0.Size, .bool u0.Back, .bool u0.Signed, .int .i64 u0.Mul, .int .i64 u0.Div, .int .i64 u0.Add, .int .i64 u0.Key] 23 (nog rfl _) rfl (by kernel_rfl) (by kernel_rfl) ?_; intro b2 a3 wd5 hF4 hM6; clear hF0 hM0
 refine sn hF4 hM6 (fun b => .pointer (some ⟨b, 0, none⟩)) [str u1.Name, .int .i64 u1.Start, .int .i64 u1.Size, .bool u1.Back, .bool u1.Signed, .int .i64 u1.Mul, .int .i64 u1.Div, .int .i64 u1.Add, .int .i64 u1.Key] 23 (nog rfl _) rfl (by kernel_rfl) (by kernel_rfl) ?_; intro b7 a8 wd10 hF9 hM11; clear hF4 hM6
 refine s1 hF9 8 (.bool false) ?_; intro a12 hF13; clear hF9
 refine nlH (hQ1 _ _ ?_); clear hQ1 hQ1Q
 refine sqH ?_; intro hQ14Q hQ14
 refine l2 hF13 hM11 14 1 0 9 [str u0.Name, .int .i64 u0.Start, .int .i64 u0.Size, .bool u0.Back, .bool u0.Signed, .int .i64 u0.Mul, .int .i64 u0.Div, .int .i64 u0.Add, .int .i64 u0.Key] rfl rfl ?_; intro a15 hF16; clear hF13
 refine s1 hF16 15 (.int .i64 u2) ?_; intro a17 hF18; clear hF16
 refine cl hF18 18 #[.agg #[str u0.Name, .int .i64 u0.Start, .int .i64 u0.Size, .bool u0.Back, .bool u0.Signed, .int .i64 u0.Mul, .int .i64 u0.Div, .int .i64 u0.Add, .int .i64 u0.Key], .int .i64 u2] (nog rfl _) rfl (by kernel_rfl) (by kernel_rfl) ?_
 refine (splc_fun u0 u2 _ _ hM11.fz).mono ?_; rintro _ wd19 ⟨ao23, cap24, Z25, rfl, hm⟩; refine ⟨_, rfl, ?_⟩; intro a20 hF21; have hM22 := hM11.callZ hm; have hle26 := hm.ext.le; clear hm hM11 hF18
 replace hle0 := Fz.le.trans hle0 hle26
 have hM27 : Mem w.heap.size [] w Z [.own (tyInt .i64) 3 ao23 cap24 ((splcS u0 u2).1), .row b7 [str u1.Name, .int .i64 u1.Start, .int .i64 u1.Size, .bool u1.Back, .bool u1.Signed, .int .i64 u1.Mul, .int .i64 u1.Div, .int .i64 u1.Add, .int .i64 u1.Key] 23, .row b2 [str u0.Name, .int .i64 u0.Start, .int .i64 u0.Size, .bool u0.Back, .bool u0.Signed, .int .i64 u0.Mul, .int .i64 u0.Div, .int .i64 u0.Add, .int .i64 u0.Key] 23] Z25 wd19 := hM22; clear hM22
 have hp28 := hp (hM27.ownSmall 0 rfl); clear hp
 refine s1 hF21 13 (.tuple #[.slice ao23 ((splcS u0 u2).1).length cap24, .int .i64 ((splcS u0 u2).2)]) ?_; intro a29 hF30; clear hF21
 refine s1 hF30 17 (.slice ao23 ((splcS u0 u2).1).length cap24) ?_; intro a31 hF32; clear hF30
 refine s1 hF32 18 (.int .i64 ((splcS u0 u2).2)) ?_; intro a33 hF34; clear hF32
 refine s1 hF34 9 (.slice ao23 ((splcS u0 u2).1).length cap24) ?_; intro a35 hF36; clear hF34
 refine s1 hF36 10 (.int .i64 ((splcS u0 u2).2)) ?_; intro a37 hF38; clear hF36
 refine nlH (hQ14 _ _ ?_); clear hQ14 hQ14Q
 refine sqH ?_; intro hQ39Q hQ39
 refine l2 hF38 hM27 19 2 0 9 [str u0.Name, .int .i64 u0.Start, .int .i64 u0.Size, .bool u0.Back, .bool u0.Signed, .int .i64 u0.Mul, .int .i64 u0.Div, .int .i64 u0.Add, .int .i64 u0.Key] rfl rfl ?_; intro a40 hF41; clear hF38
 refine s1 hF41 20 (.int .i64 u2) ?_; intro a42 hF43; clear hF41
 refine fcl hF43 hM27 (.int .i64 (checkS u0 u2)) 8 #[.agg #[str u0.Name, .int .i64 u0.Start, .int .i64 u0.Size, .bool u0.Back, .bool u0.Signed, .int .i64 u0.Mul, .int .i64 u0.Div, .int .i64 u0.Add, .int .i64 u0.Key], .int .i64 u2] (nog rfl _) rfl (by kernel_rfl) (fun _ => by kernel_rfl) (rcheck_fun u0 u2 _ _ hM27.fz) ?_; intro a44 wd46 hF45 hM47; clear hF43 hM27
 refine s1 hF45 11 (.int .i64 (checkS u0 u2)) ?_; intro a48 hF49; clear hF45
 refine nlH (hQ39 _ _ ?_); clear hQ39 hQ39Q
 refine wp_seq ?_
 have hF50 : Fr 74 [] [⟨2, [], .int .i64 u2⟩, ⟨3, [], str u3⟩, ⟨4, [], .pointer (some ⟨b2, 0, none⟩)⟩, ⟨5, [], .pointer (some ⟨b7, 0, none⟩)⟩, ⟨9, [], .slice ao23 ((splcS u0 u2).1).length cap24⟩, ⟨10, [], .int .i64 ((splcS u0 u2).2)⟩, ⟨11, [], .int .i64 (checkS u0 u2)⟩] a48 := hF49.region (by kernel_rfl) (by kernel_rfl); clear hF49
 refine sqH ?_; intro hQ51Q hQ51
 refine fcl hF50 hM47 (.bool true) 9 #[] (nog rfl _) rfl (by kernel_rfl) (fun _ => by kernel_rfl) (signalled_fun  _ _ hM47.fz) ?_; intro a52 wd54 hF53 hM55; clear hF50 hM47
 refine s1 hF53 23 (.bool false) ?_; intro a56 hF57; clear hF53
 refine s1 hF57 24 (.bool false) ?_; intro a58 hF59; clear hF57
 refine st hF59 (.agg #[str u0.Name, .int .i64 u0.Start, .int .i64 u0.Size, .bool u0.Back, .bool u0.Signed, .int .i64 u0.Mul, .int .i64 u0.Div, .int .i64 u0.Add, .int .i64 u0.Key]) (by rw [wanted_of hF59 (b := false) rfl rfl (by kernel_rfl) (by kernel_rfl)]; rfl) rfl (by kernel_rfl) (lda hF59 hM55 2 (g := []) (b := b2) (off := 0) (k := 9) (cs := [str u0.Name, .int .i64 u0.Start, .int .i64 u0.Size, .bool u0.Back, .bool u0.Signed, .int .i64 u0.Mul, .int .i64 u0.Div, .int .i64 u0.Add, .int .i64 u0.Key]) (vs := [str u0.Name, .int .i64 u0.Start, .int .i64 u0.Size, .bool u0.Back, .bool u0.Signed, .int .i64 u0.Mul, .int .i64 u0.Div, .int .i64 u0.Add, .int .i64 u0.Key]) (ty := 23) rfl (by kernel_rfl) (by kernel_rfl) (by kernel_rfl) (by kernel_rfl) (by kernel_rfl) rfl) ?_; intro a60 hF61; clear hF59
 refine st hF61 (.int .i64 u2) (by rw [wanted_of hF61 (b := false) rfl rfl (by kernel_rfl) (by kernel_rfl)]; rfl) rfl (by kernel_rfl) (p0 hF61 (by kernel_rfl)) ?_; intro a62 hF63; clear hF61
 refine fcl hF63 hM55 (.int .i64 (checkS u0 u2)) 19 #[.agg #[str u0.Name, .int .i64 u0.Start, .int .i64 u0.Size, .bool u0.Back, .bool u0.Signed, .int .i64 u0.Mul, .int .i64 u0.Div, .int .i64 u0.Add, .int .i64 u0.Key], .int .i64 u2] (by rw [wanted_of hF63 (b := false) rfl rfl (by kernel_rfl) (by kernel_rfl)]; rfl) rfl (by kernel_rfl) (fun _ => by kernel_rfl) (scheck_fun u0 u2 _ _ hM55.fz) ?_; intro a64 wd66 hF65 hM67; clear hF63 hM55
 refine st hF65 (.int .i64 (checkS u0 u2)) (by rw [wanted_of hF65 (b := false) rfl rfl (by kernel_rfl) (by kernel_rfl)]; rfl) rfl (by kernel_rfl) (p0 hF65 (by kernel_rfl)) ?_; intro a68 hF69; clear hF65
 refine st hF69 (.bool ((checkS u0 u2) != (checkS u0 u2))) (by rw [wanted_of hF69 (b := false) rfl rfl (by kernel_rfl) (by kernel_rfl)]; rfl) rfl (by kernel_rfl) (p0 hF69 (by kernel_rfl)) ?_; intro a70 hF71; clear hF69
 refine s1 hF71 30 (.bool ((checkS u0 u2) != (checkS u0 u2))) ?_; intro a72 hF73; clear hF71
 refine s1 hF73 31 (.bool ((checkS u0 u2) != (checkS u0 u2))) ?_; intro a74 hF75; clear hF73
 have hF76 := hF75.atom (((checkS u0 u2) != (checkS u0 u2)) == false) (by kernel_rfl); clear hF75
 refine gp hF76 32 0 [] ((checkS u0 u2) != (checkS u0 u2)) (str u3) rfl rfl ?_; intro a77 hF78; clear hF76
 refine gcl hF78 hM67 (.bool (nameS u3)) 20 #[str u3] (m := 0) (cj := []) (bj := (checkS u0 u2) != (checkS u0 u2)) rfl rfl (by kernel_rfl) rfl (by kernel_rfl) (by kernel_rfl) (by kernel_rfl) (fun _ => by kernel_rfl) (fun hg => sname_fun u3 _ _ hM67.fz) ?_; intro a79 wd81 hF80 hM82; clear hF78 hM67
 refine gp hF80 34 0 [] ((checkS u0 u2) != (checkS u0 u2)) (str u3) rfl rfl ?_; intro a83 hF84; clear hF80
 refine gcl hF84 hM82 (.bool (nameS u3)) 21 #[str u3] (m := 0) (cj := []) (bj := (checkS u0 u2) != (checkS u0 u2)) rfl rfl (by kernel_rfl) rfl (by kernel_rfl) (by kernel_rfl) (by kernel_rfl) (fun _ => by kernel_rfl) (fun hg => risname_fun u3 _ _ hM82.fz) ?_; intro a85 wd87 hF86 hM88; clear hF84 hM82
 refine gp hF86 36 0 [] ((checkS u0 u2) != (checkS u0 u2)) (.bool ((nameS u3) != (nameS u3))) rfl rfl ?_; intro a89 hF90; clear hF86
 refine st hF90 (.bool (((checkS u0 u2) != (checkS u0 u2)) || ((nameS u3) != (nameS u3)))) (nog rfl _) rfl (by kernel_rfl) (pk_or hF90 (g := []) (m := 0) (b := (checkS u0 u2) != (checkS u0 u2)) (v := (nameS u3) != (nameS u3)) rfl (by kernel_rfl) (by kernel_rfl) (by kernel_rfl) rfl) ?_; intro a91 hF92; clear hF90
 refine nlH (hQ51 _ _ ?_); clear hQ51 hQ51Q
 refine cd hF92 (t := ((checkS u0 u2) != (checkS u0 u2)) || ((nameS u3) != (nameS u3))) (by kernel_rfl) (fun hb93 => ?_) (fun hb93 => ?_)
 · -- yes
  have hp94 := hp28.1 hb93; clear hp28
  have hF95 : Fr 74 [] [] a91 := hF92.region (by kernel_rfl) (by kernel_rfl); clear hF92
  refine sqH ?_; intro hQ96Q hQ96
  refine s1 hF95 8 (.bool false) ?_; intro a97 hF98; clear hF95
  refine nlH (hQ96 _ _ ?_); clear hQ96 hQ96Q
  refine wp_ret ?_
  refine thr ?_
  refine rt (fn := Tryd.f5) (v := .bool false) hF98 (re1 hF98 (fn := Tryd.f5) rfl (by kernel_rfl)) ?_
  exact ⟨false, rfl, hp94, hM88.below⟩
 · -- no
  have hp99 := hp28.2 hb93; clear hp28
  refine wp_skip ?_
  refine thn ?_
  have hF100 : Fr 74 [] [⟨4, [], .pointer (some ⟨b2, 0, none⟩)⟩, ⟨5, [], .pointer (some ⟨b7, 0, none⟩)⟩, ⟨9, [], .slice ao23 ((splcS u0 u2).1).length cap24⟩, ⟨10, [], .int .i64 ((splcS u0 u2).2)⟩, ⟨11, [], .int .i64 (checkS u0 u2)⟩] a91 := hF92.region (by kernel_rfl) (by kernel_rfl); clear hF92
  refine sqH ?_; intro hQ101Q hQ101
  refine l2 hF100 hM88 38 2 0 9 [str u0.Name, .int .i64 u0.Start, .int .i64 u0.Size, .bool u0.Back, .bool u0.Signed, .int .i64 u0.Mul, .int .i64 u0.Div, .int .i64 u0.Add, .int .i64 u0.Key] rfl rfl ?_; intro a102 hF103; clear hF100
  refine fcl hF103 hM88 (.int .i64 (checkS u0 64)) 8 #[.agg #[str u0.Name, .int .i64 u0.Start, .int .i64 u0.Size, .bool u0.Back, .bool u0.Signed, .int .i64 u0.Mul, .int .i64 u0.Div, .int .i64 u0.Add, .int .i64 u0.Key], .int .i64 64] (nog rfl _) rfl (by kernel_rfl) (fun _ => by kernel_rfl) (rcheck_fun u0 64 _ _ hM88.fz) ?_; intro a104 wd106 hF105 hM107; clear hF103 hM88
  refine s1 hF105 40 (.bool ((checkS u0 64) == 0)) ?_; intro a108 hF109; clear hF105
  refine s1 hF109 41 (.bool ((checkS u0 64) == 0)) ?_; intro a110 hF111; clear hF109
  have hF112 := hF111.atom (((checkS u0 64) == 0) == true) (by kernel_rfl); clear hF111
  refine gd hF112 (.agg #[str u1.Name, .int .i64 u1.Start, .int .i64 u1.Size, .bool u1.Back, .bool u1.Signed, .int .i64 u1.Mul, .int .i64 u1.Div, .int .i64 u1.Add, .int .i64 u1.Key]) (m := 0) (cj := []) (bj := (checkS u0 64) == 0) rfl rfl (by kernel_rfl) rfl (by kernel_rfl) (by kernel_rfl) (by kernel_rfl) (fun hg => lda hF112 hM107 1 (g := [0]) (b := b7) (off := 0) (k := 9) (cs := [str u1.Name, .int .i64 u1.Start, .int .i64 u1.Size, .bool u1.Back, .bool u1.Signed, .int .i64 u1.Mul, .int .i64 u1.Div, .int .i64 u1.Add, .int .i64 u1.Key]) (vs := [str u1.Name, .int .i64 u1.Start, .int .i64 u1.Size, .bool u1.Back, .bool u1.Signed, .int .i64 u1.Mul, .int .i64 u1.Div, .int .i64 u1.Add, .int .i64 u1.Key]) (ty := 23) rfl (by kernel_rfl) (by kernel_rfl) (by kernel_rfl) (by kernel_rfl) (by kernel_rfl) hg) ?_; intro a113 hF114; clear hF112
  refine gcl hF114 hM107 (.int .i64 (checkS u1 64)) 8 #[.agg #[str u1.Name, .int .i64 u1.Start, .int .i64 u1.Size, .bool u1.Back, .bool u1.Signed, .int .i64 u1.Mul, .int .i64 u1.Div, .int .i64 u1.Add, .int .i64 u1.Key], .int .i64 64] (m := 0) (cj := []) (bj := (checkS u0 64) == 0) rfl rfl (by kernel_rfl) rfl (by kernel_rfl) (by kernel_rfl) (by kernel_rfl) (fun _ => by kernel_rfl) (fun hg => rcheck_fun u1 64 _ _ hM107.fz) ?_; intro a115 wd117 hF116 hM118; clear hF114 hM107
  refine gp hF116 44 0 [] ((checkS u0 64) == 0) (.bool ((checkS u1 64) == 0)) rfl rfl ?_; intro a119 hF120; clear hF116
  refine st hF120 (.bool (((checkS u0 64) == 0) && ((checkS u1 64) == 0))) (nog rfl _) rfl (by kernel_rfl) (pk_and hF120 (g := []) (m := 0) (b := (checkS u0 64) == 0) (v := (checkS u1 64) == 0) rfl (by kernel_rfl) (by kernel_rfl) (by kernel_rfl) rfl) ?_; intro a121 hF122; clear hF120
  refine s1 hF122 12 (.bool (((checkS u0 64) == 0) && ((checkS u1 64) == 0))) ?_; intro a123 hF124; clear hF122
  refine nlH (hQ101 _ _ ?_); clear hQ101 hQ101Q
  refine wp_seq ?_
  have hF125 : Fr 74 [] [⟨4, [], .pointer (some ⟨b2, 0, none⟩)⟩, ⟨5, [], .pointer (some ⟨b7, 0, none⟩)⟩, ⟨9, [], .slice ao23 ((splcS u0 u2).1).length cap24⟩, ⟨10, [], .int .i64 ((splcS u0 u2).2)⟩, ⟨11, [], .int .i64 (checkS u0 u2)⟩, ⟨12, [], .bool (((checkS u0 64) == 0) && ((checkS u1 64) == 0))⟩] a123 := hF124.region (by kernel_rfl) (by kernel_rfl); clear hF124
  refine sqH ?_; intro hQ126Q hQ126
  refine l2 hF125 hM118 46 2 0 9 [str u0.Name, .int .i64 u0.Start, .int .i64 u0.Size, .bool u0.Back, .bool u0.Signed, .int .i64 u0.Mul, .int .i64 u0.Div, .int .i64 u0.Add, .int .i64 u0.Key] rfl rfl ?_; intro a127 hF128; clear hF125
  refine l2 hF128 hM118 47 1 0 9 [str u1.Name, .int .i64 u1.Start, .int .i64 u1.Size, .bool u1.Back, .bool u1.Signed, .int .i64 u1.Mul, .int .i64 u1.Div, .int .i64 u1.Add, .int .i64 u1.Key] rfl rfl ?_; intro a129 hF130; clear hF128
  refine fcl hF130 hM118 (.bool (overS u0 u1)) 22 #[.agg #[str u0.Name, .int .i64 u0.Start, .int .i64 u0.Size, .bool u0.Back, .bool u0.Signed, .int .i64 u0.Mul, .int .i64 u0.Div, .int .i64 u0.Add, .int .i64 u0.Key], .agg #[str u1.Name, .int .i64 u1.Start, .int .i64 u1.Size, .bool u1.Back, .bool u1.Signed, .int .i64 u1.Mul, .int .i64 u1.Div, .int .i64 u1.Add, .int .i64 u1.Key]] (nog rfl _) rfl (by kernel_rfl) (fun _ => by kernel_rfl) (sover_fun u0 u1 _ _ hM118.fz) ?_; intro a131 wd133 hF132 hM134; clear hF130 hM118
  refine s1 hF132 49 (.bool (((checkS u0 64) == 0) && ((checkS u1 64) == 0))) ?_; intro a135 hF136; clear hF132
  refine s1 hF136 50 (.bool (((checkS u0 64) == 0) && ((checkS u1 64) == 0))) ?_; intro a137 hF138; clear hF136
  have hF139 := hF138.atom ((((checkS u0 64) == 0) && ((checkS u1 64) == 0)) == true) (by kernel_rfl); clear hF138
  refine gd hF139 (.agg #[str u0.Name, .int .i64 u0.Start, .int .i64 u0.Size, .bool u0.Back, .bool u0.Signed, .int .i64 u0.Mul, .int .i64 u0.Div, .int .i64 u0.Add, .int .i64 u0.Key]) (m := 0) (cj := []) (bj := ((checkS u0 64) == 0) && ((checkS u1 64) == 0)) rfl rfl (by kernel_rfl) rfl (by kernel_rfl) (by kernel_rfl) (by kernel_rfl) (fun hg => lda hF139 hM134 2 (g := [0]) (b := b2) (off := 0) (k := 9) (cs := [str u0.Name, .int .i64 u0.Start, .int .i64 u0.Size, .bool u0.Back, .bool u0.Signed, .int .i64 u0.Mul, .int .i64 u0.Div, .int .i64 u0.Add, .int .i64 u0.Key]) (vs := [str u0.Name, .int .i64 u0.Start, .int .i64 u0.Size, .bool u0.Back, .bool u0.Signed, .int .i64 u0.Mul, .int .i64 u0.Div, .int .i64 u0.Add, .int .i64 u0.Key]) (ty := 23) rfl (by kernel_rfl) (by kernel_rfl) (by kernel_rfl) (by kernel_rfl) (by kernel_rfl) hg) ?_; intro a140 hF141; clear hF139
  refine gd hF141 (.agg #[str u1.Name, .int .i64 u1.Start, .int .i64 u1.Size, .bool u1.Back, .bool u1.Signed, .int .i64 u1.Mul, .int .i64 u1.Div, .int .i64 u1.Add, .int .i64 u1.Key]) (m := 0) (cj := []) (bj := ((checkS u0 64) == 0) && ((checkS u1 64) == 0)) rfl rfl (by kernel_rfl) rfl (by kernel_rfl) (by kernel_rfl) (by kernel_rfl) (fun hg => lda hF141 hM134 1 (g := [0]) (b := b7) (off := 0) (k := 9) (cs := [str u1.Name, .int .i64 u1.Start, .int .i64 u1.Size, .bool u1.Back, .bool u1.Signed, .int .i64 u1.Mul, .int .i64 u1.Div, .int .i64 u1.Add, .int .i64 u1.Key]) (vs := [str u1.Name, .int .i64 u1.Start, .int .i64 u1.Size, .bool u1.Back, .bool u1.Signed, .int .i64 u1.Mul, .int .i64 u1.Div, .int .i64 u1.Add, .int .i64 u1.Key]) (ty := 23) rfl (by kernel_rfl) (by kernel_rfl) (by kernel_rfl) (by kernel_rfl) (by kernel_rfl) hg) ?_; intro a142 hF143; clear hF141
  rcases Bool.eq_false_or_eq_true (((checkS u0 64) == 0) && ((checkS u1 64) == 0)) with hb144 | hb144
  · -- true
   have hp145 := hp99.1 hb144; clear hp99
   have hF146 := hF143.reval (d := 50) (c := []) (v := .bool (((checkS u0 64) == 0) && ((checkS u1 64) == 0))) (by kernel_rfl) (.bool true) (by rw [hb144]); clear hF143
   have hF147 := hF146.setc (d := 51) (c := [0]) (v := .agg #[str u0.Name, .int .i64 u0.Start, .int .i64 u0.Size, .bool u0.Back, .bool u0.Signed, .int .i64 u0.Mul, .int .i64 u0.Div, .int .i64 u0.Add, .int .i64 u0.Key]) (by kernel_rfl) (v' := .agg #[str u0.Name, .int .i64 u0.Start, .int .i64 u0.Size, .bool u0.Back, .bool u0.Signed, .int .i64 u0.Mul, .int .i64 u0.Div, .int .i64 u0.Add, .int .i64 u0.Key]) (by rw [hb144]; kernel_rfl); clear hF146
   have hF148 := hF147.setc (d := 52) (c := [0]) (v := .agg #[str u1.Name, .int .i64 u1.Start, .int .i64 u1.Size, .bool u1.Back, .bool u1.Signed, .int .i64 u1.Mul, .int .i64 u1.Div, .int .i64 u1.Add, .int .i64 u1.Key]) (by kernel_rfl) (v' := .agg #[str u1.Name, .int .i64 u1.Start, .int .i64 u1.Size, .bool u1.Back, .bool u1.Signed, .int .i64 u1.Mul, .int .i64 u1.Div, .int .i64 u1.Add, .int .i64 u1.Key]) (by rw [hb144]; kernel_rfl); clear hF147
   have hc149 := hp145.1; have hp150 := hp145.2; clear hp145
   refine fcl hF148 hM134 (.bool (roverS u0 u1)) 23 #[.agg #[str u0.Name, .int .i64 u0.Start, .int .i64 u0.Size, .bool u0.Back, .bool u0.Signed, .int .i64 u0.Mul, .int .i64 u0.Div, .int .i64 u0.Add, .int .i64 u0.Key], .agg #[str u1.Name, .int .i64 u1.Start, .int .i64 u1.Size, .bool u1.Back, .bool u1.Signed, .int .i64 u1.Mul, .int .i64 u1.Div, .int .i64 u1.Add, .int .i64 u1.Key]] (by rw [wanted_of hF148 (b := true) rfl rfl (by kernel_rfl) (by kernel_rfl)]; rfl) rfl (by kernel_rfl) (fun _ => by kernel_rfl) (rover_fun u0 u1 hc149 _ _ hM134.fz) ?_; intro a151 wd153 hF152 hM154; clear hF148 hM134
   refine s1 hF152 54 (.bool (roverS u0 u1)) ?_; intro a155 hF156; clear hF152
   refine s1 hF156 55 (.bool ((overS u0 u1) != (roverS u0 u1))) ?_; intro a157 hF158; clear hF156
   refine nlH (hQ126 _ _ ?_); clear hQ126 hQ126Q
   refine cd hF158 (t := (overS u0 u1) != (roverS u0 u1)) (by kernel_rfl) (fun hb159 => ?_) (fun hb159 => ?_)
   · -- yes
    have hp160 := hp150.1 hb159; clear hp150
    have hF161 : Fr 74 [] [] a157 := hF158.region (by kernel_rfl) (by kernel_rfl); clear hF158
    refine sqH ?_; intro hQ162Q hQ162
    refine s1 hF161 8 (.bool false) ?_; intro a163 hF164; clear hF161
    refine nlH (hQ162 _ _ ?_); clear hQ162 hQ162Q
    refine wp_ret ?_
    refine thr ?_
    refine rt (fn := Tryd.f5) (v := .bool false) hF164 (re1 hF164 (fn := Tryd.f5) rfl (by kernel_rfl)) ?_
    exact ⟨false, rfl, hp160, hM154.below⟩
   · -- no
    have hp165 := hp150.2 hb159; clear hp150
    refine wp_skip ?_
    refine thn ?_
    refine wp_seq ?_
    have hF166 : Fr 74 [] [⟨4, [], .pointer (some ⟨b2, 0, none⟩)⟩, ⟨9, [], .slice ao23 ((splcS u0 u2).1).length cap24⟩, ⟨10, [], .int .i64 ((splcS u0 u2).2)⟩, ⟨11, [], .int .i64 (checkS u0 u2)⟩] a157 := hF158.region (by kernel_rfl) (by kernel_rfl); clear hF158
    refine sqH ?_; intro hQ167Q hQ167
    refine s1 hF166 56 (.int .i64 (checkS u0 u2)) ?_; intro a168 hF169; clear hF166
    refine s1 hF169 57 (.bool ((checkS u0 u2) != 0)) ?_; intro a170 hF171; clear hF169
    refine nlH (hQ167 _ _ ?_); clear hQ167 hQ167Q
    refine cd hF171 (t := (checkS u0 u2) != 0) (by kernel_rfl) (fun hb172 => ?_) (fun hb172 => ?_)
    · -- yes
     have hp173 := hp165.1 hb172; clear hp165
     refine sqH ?_; intro hQ174Q hQ174
     refine s1 hF171 58 (.int .i64 ((splcS u0 u2).2)) ?_; intro a175 hF176; clear hF171
     refine s1 hF176 59 (.int .i64 (checkS u0 u2)) ?_; intro a177 hF178; clear hF176
     refine s1 hF178 60 (.bool (((splcS u0 u2).2) == (checkS u0 u2))) ?_; intro a179 hF180; clear hF178
     refine s1 hF180 61 (.bool (((splcS u0 u2).2) == (checkS u0 u2))) ?_; intro a181 hF182; clear hF180
     have hF183 := hF182.atom ((((splcS u0 u2).2) == (checkS u0 u2)) == true) (by kernel_rfl); clear hF182
     refine gp hF183 62 0 [] (((splcS u0 u2).2) == (checkS u0 u2)) (.slice ao23 ((splcS u0 u2).1).length cap24) rfl rfl ?_; intro a184 hF185; clear hF183
     refine gp hF185 63 0 [] (((splcS u0 u2).2) == (checkS u0 u2)) (.int .i64 (((splcS u0 u2).1).length : Int)) rfl rfl ?_; intro a186 hF187; clear hF185
     refine gp hF187 64 0 [] (((splcS u0 u2).2) == (checkS u0 u2)) (.bool ((((splcS u0 u2).1).length : Int) == 0)) rfl rfl ?_; intro a188 hF189; clear hF187
     refine st hF189 (.bool ((((splcS u0 u2).2) == (checkS u0 u2)) && ((((splcS u0 u2).1).length : Int) == 0))) (nog rfl _) rfl (by kernel_rfl) (pk_and hF189 (g := []) (m := 0) (b := ((splcS u0 u2).2) == (checkS u0 u2)) (v := (((splcS u0 u2).1).length : Int) == 0) rfl (by kernel_rfl) (by kernel_rfl) (by kernel_rfl) rfl) ?_; intro a190 hF191; clear hF189
     refine s1 hF191 8 (.bool ((((splcS u0 u2).2) == (checkS u0 u2)) && ((((splcS u0 u2).1).length : Int) == 0))) ?_; intro a192 hF193; clear hF191
     refine nlH (hQ174 _ _ ?_); clear hQ174 hQ174Q
     refine wp_ret ?_
     refine thr ?_
     refine rt (fn := Tryd.f5) (v := .bool ((((splcS u0 u2).2) == (checkS u0 u2)) && ((((splcS u0 u2).1).length : Int) == 0))) hF193 (re1 hF193 (fn := Tryd.f5) rfl (by kernel_rfl)) ?_
     exact ⟨(((splcS u0 u2).2) == (checkS u0 u2)) && ((((splcS u0 u2).1).length : Int) == 0), rfl, hp173, hM154.below⟩
    · -- no
     have hp194 := hp165.2 hb172; clear hp165
     refine wp_skip ?_
     refine thn ?_
     refine sqH ?_; intro hQ195Q hQ195
     refine s1 hF171 66 (.int .i64 ((splcS u0 u2).2)) ?_; intro a196 hF197; clear hF171
     refine s1 hF197 67 (.bool (((splcS u0 u2).2) == 0)) ?_; intro a198 hF199; clear hF197
     refine s1 hF199 68 (.bool (((splcS u0 u2).2) == 0)) ?_; intro a200 hF201; clear hF199
     have hF202 := hF201.atom ((((splcS u0 u2).2) == 0) == true) (by kernel_rfl); clear hF201
     refine gp hF202 69 0 [] (((splcS u0 u2).2) == 0) (.slice ao23 ((splcS u0 u2).1).length cap24) rfl rfl ?_; intro a203 hF204; clear hF202
     refine gd hF204 (.agg #[str u0.Name, .int .i64 u0.Start, .int .i64 u0.Size, .bool u0.Back, .bool u0.Signed, .int .i64 u0.Mul, .int .i64 u0.Div, .int .i64 u0.Add, .int .i64 u0.Key]) (m := 0) (cj := []) (bj := ((splcS u0 u2).2) == 0) rfl rfl (by kernel_rfl) rfl (by kernel_rfl) (by kernel_rfl) (by kernel_rfl) (fun hg => lda hF204 hM154 2 (g := [0]) (b := b2) (off := 0) (k := 9) (cs := [str u0.Name, .int .i64 u0.Start, .int .i64 u0.Size, .bool u0.Back, .bool u0.Signed, .int .i64 u0.Mul, .int .i64 u0.Div, .int .i64 u0.Add, .int .i64 u0.Key]) (vs := [str u0.Name, .int .i64 u0.Start, .int .i64 u0.Size, .bool u0.Back, .bool u0.Signed, .int .i64 u0.Mul, .int .i64 u0.Div, .int .i64 u0.Add, .int .i64 u0.Key]) (ty := 23) rfl (by kernel_rfl) (by kernel_rfl) (by kernel_rfl) (by kernel_rfl) (by kernel_rfl) hg) ?_; intro a205 hF206; clear hF204
     rcases Bool.eq_false_or_eq_true (((splcS u0 u2).2) == 0) with hb207 | hb207
     · -- true
      have hp208 := hp194.1 hb207; clear hp194
      have hF209 := hF206.reval (d := 68) (c := []) (v := .bool (((splcS u0 u2).2) == 0)) (by kernel_rfl) (.bool true) (by rw [hb207]); clear hF206
      have hF210 := hF209.setc (d := 69) (c := [0]) (v := .slice ao23 ((splcS u0 u2).1).length cap24) (by kernel_rfl) (v' := .slice ao23 ((splcS u0 u2).1).length cap24) (by rw [hb207]; kernel_rfl); clear hF209
      have hF211 := hF210.setc (d := 70) (c := [0]) (v := .agg #[str u0.Name, .int .i64 u0.Start, .int .i64 u0.Size, .bool u0.Back, .bool u0.Signed, .int .i64 u0.Mul, .int .i64 u0.Div, .int .i64 u0.Add, .int .i64 u0.Key]) (by kernel_rfl) (v' := .agg #[str u0.Name, .int .i64 u0.Start, .int .i64 u0.Size, .bool u0.Back, .bool u0.Signed, .int .i64 u0.Mul, .int .i64 u0.Div, .int .i64 u0.Add, .int .i64 u0.Key]) (by rw [hb207]; kernel_rfl); clear hF210
      have hc212 := hp208.1; have hp213 := hp208.2; clear hp208
      refine cl hF211 25 #[.agg #[str u0.Name, .int .i64 u0.Start, .int .i64 u0.Size, .bool u0.Back, .bool u0.Signed, .int .i64 u0.Mul, .int .i64 u0.Div, .int .i64 u0.Add, .int .i64 u0.Key]] (by rw [wanted_of hF211 (b := true) rfl rfl (by kernel_rfl) (by kernel_rfl)]; rfl) rfl (by kernel_rfl) (by kernel_rfl) ?_
      refine (rplaces_fun u0 hc212 _ _ hM154.fz).mono ?_; rintro _ wd214 ⟨ao218, cap219, Z220, rfl, hm⟩; refine ⟨_, rfl, ?_⟩; intro a215 hF216; have hM217 := hM154.callZ hm; have hle221 := hm.ext.le; clear hm hM154 hF211
      replace hle0 := Fz.le.trans hle0 hle221
      have hM222 : Mem w.heap.size [] w Z [.own (tyInt .i64) 3 ao218 cap219 (placesS u0), .own (tyInt .i64) 3 ao23 cap24 ((splcS u0 u2).1), .row b7 [str u1.Name, .int .i64 u1.Start, .int .i64 u1.Size, .bool u1.Back, .bool u1.Signed, .int .i64 u1.Mul, .int .i64 u1.Div, .int .i64 u1.Add, .int .i64 u1.Key] 23, .row b2 [str u0.Name, .int .i64 u0.Start, .int .i64 u0.Size, .bool u0.Back, .bool u0.Signed, .int .i64 u0.Mul, .int .i64 u0.Div, .int .i64 u0.Add, .int .i64 u0.Key] 23] Z220 wd214 := hM217; clear hM217
      have hp223 := hp213 (hM222.ownSmall 0 rfl); clear hp213
      obtain ⟨Z224, hle225, hM226, hs227⟩ := hM222.freeze 1 rfl
      replace hle0 := Fz.le.trans hle0 hle225
      have hM228 : Mem w.heap.size [] w Z [.own (tyInt .i64) 3 ao218 cap219 (placesS u0), .row b7 [str u1.Name, .int .i64 u1.Start, .int .i64 u1.Size, .bool u1.Back, .bool u1.Signed, .int .i64 u1.Mul, .int .i64 u1.Div, .int .i64 u1.Add, .int .i64 u1.Key] 23, .row b2 [str u0.Name, .int .i64 u0.Start, .int .i64 u0.Size, .bool u0.Back, .bool u0.Signed, .int .i64 u0.Mul, .int .i64 u0.Div, .int .i64 u0.Add, .int .i64 u0.Key] 23] Z224 wd214 := hM226; clear hM226
      obtain ⟨Z229, hle230, hM231, hs232⟩ := hM228.freeze 0 rfl
      replace hs227 := hs227.mono hle230
      replace hle0 := Fz.le.trans hle0 hle230
      have hM233 : Mem w.heap.size [] w Z [.row b7 [str u1.Name, .int .i64 u1.Start, .int .i64 u1.Size, .bool u1.Back, .bool u1.Signed, .int .i64 u1.Mul, .int .i64 u1.Div, .int .i64 u1.Add, .int .i64 u1.Key] 23, .row b2 [str u0.Name, .int .i64 u0.Start, .int .i64 u0.Size, .bool u0.Back, .bool u0.Signed, .int .i64 u0.Mul, .int .i64 u0.Div, .int .i64 u0.Add, .int .i64 u0.Key] 23] Z229 wd214 := hM231; clear hM231
      refine fcl hF216 hM233 (.bool (ieqS ((splcS u0 u2).1) (placesS u0))) 24 #[.slice ao23 ((splcS u0 u2).1).length cap24, .slice ao218 (placesS u0).length cap219] (by rw [wanted_of hF216 (b := true) rfl rfl (by kernel_rfl) (by kernel_rfl)]; rfl) rfl (by kernel_rfl) (fun _ => by kernel_rfl) (ieq_fun ((splcS u0 u2).1) (placesS u0) ao23 cap24 ao218 cap219 _ _ hs227 hs232 hM233.fz) ?_; intro a234 wd236 hF235 hM237; clear hF216 hM233
      refine s1 hF235 73 (.bool (ieqS ((splcS u0 u2).1) (placesS u0))) ?_; intro a238 hF239; clear hF235
      refine s1 hF239 8 (.bool (ieqS ((splcS u0 u2).1) (placesS u0))) ?_; intro a240 hF241; clear hF239
      refine nlH (hQ195 _ _ ?_); clear hQ195 hQ195Q
      refine wp_ret ?_
      refine rt (fn := Tryd.f5) (v := .bool (ieqS ((splcS u0 u2).1) (placesS u0))) hF241 (re1 hF241 (fn := Tryd.f5) rfl (by kernel_rfl)) ?_
      exact ⟨(ieqS ((splcS u0 u2).1) (placesS u0)), rfl, hp223, hM237.below⟩
     · -- false
      have hp242 := hp194.2 hb207; clear hp194
      have hF243 := hF206.reval (d := 68) (c := []) (v := .bool (((splcS u0 u2).2) == 0)) (by kernel_rfl) (.bool false) (by rw [hb207]); clear hF206
      have hF244 := hF243.setc (d := 69) (c := [0]) (v := .slice ao23 ((splcS u0 u2).1).length cap24) (by kernel_rfl) (v' := undef) (by rw [hb207]; kernel_rfl); clear hF243
      have hF245 := hF244.setc (d := 70) (c := [0]) (v := .agg #[str u0.Name, .int .i64 u0.Start, .int .i64 u0.Size, .bool u0.Back, .bool u0.Signed, .int .i64 u0.Mul, .int .i64 u0.Div, .int .i64 u0.Add, .int .i64 u0.Key]) (by kernel_rfl) (v' := undef) (by rw [hb207]; kernel_rfl); clear hF244
      refine sk hF245 (b := false) rfl rfl (by kernel_rfl) (by kernel_rfl) rfl rfl (by kernel_rfl) ?_; intro a246 hF247; clear hF245
      refine sk hF247 (b := false) rfl rfl (by kernel_rfl) (by kernel_rfl) rfl rfl (by kernel_rfl) ?_; intro a248 hF249; clear hF247
      refine s1 hF249 73 (.bool false) ?_; intro a250 hF251; clear hF249
      refine s1 hF251 8 (.bool false) ?_; intro a252 hF253; clear hF251
      refine nlH (hQ195 _ _ ?_); clear hQ195 hQ195Q
      refine wp_ret ?_
      refine rt (fn := Tryd.f5) (v := .bool false) hF253 (re1 hF253 (fn := Tryd.f5) rfl (by kernel_rfl)) ?_
      exact ⟨false, rfl, hp242, hM154.below⟩
  · -- false
   have hp254 := hp99.2 hb144; clear hp99
   have hF255 := hF143.reval (d := 50) (c := []) (v := .bool (((checkS u0 64) == 0) && ((checkS u1 64) == 0))) (by kernel_rfl) (.bool false) (by rw [hb144]); clear hF143
   have hF256 := hF255.setc (d := 51) (c := [0]) (v := .agg #[str u0.Name, .int .i64 u0.Start, .int .i64 u0.Size, .bool u0.Back, .bool u0.Signed, .int .i64 u0.Mul, .int .i64 u0.Div, .int .i64 u0.Add, .int .i64 u0.Key]) (by kernel_rfl) (v' := undef) (by rw [hb144]; kernel_rfl); clear hF255
   have hF257 := hF256.setc (d := 52) (c := [0]) (v := .agg #[str u1.Name, .int .i64 u1.Start, .int .i64 u1.Size, .bool u1.Back, .bool u1.Signed, .int .i64 u1.Mul, .int .i64 u1.Div, .int .i64 u1.Add, .int .i64 u1.Key]) (by kernel_rfl) (v' := undef) (by rw [hb144]; kernel_rfl); clear hF256
   refine sk hF257 (b := false) rfl rfl (by kernel_rfl) (by kernel_rfl) rfl rfl (by kernel_rfl) ?_; intro a258 hF259; clear hF257
   refine s1 hF259 54 (.bool false) ?_; intro a260 hF261; clear hF259
   refine s1 hF261 55 (.bool ((overS u0 u1) != false)) ?_; intro a262 hF263; clear hF261
   refine nlH (hQ126 _ _ ?_); clear hQ126 hQ126Q
   refine cd hF263 (t := (overS u0 u1) != false) (by kernel_rfl) (fun hb264 => ?_) (fun hb264 => ?_)
   · -- yes
    have hp265 := hp254.1 hb264; clear hp254
    have hF266 : Fr 74 [] [] a262 := hF263.region (by kernel_rfl) (by kernel_rfl); clear hF263
    refine sqH ?_; intro hQ267Q hQ267
    refine s1 hF266 8 (.bool false) ?_; intro a268 hF269; clear hF266
    refine nlH (hQ267 _ _ ?_); clear hQ267 hQ267Q
    refine wp_ret ?_
    refine thr ?_
    refine rt (fn := Tryd.f5) (v := .bool false) hF269 (re1 hF269 (fn := Tryd.f5) rfl (by kernel_rfl)) ?_
    exact ⟨false, rfl, hp265, hM134.below⟩
   · -- no
    have hp270 := hp254.2 hb264; clear hp254
    refine wp_skip ?_
    refine thn ?_
    refine wp_seq ?_
    have hF271 : Fr 74 [] [⟨4, [], .pointer (some ⟨b2, 0, none⟩)⟩, ⟨9, [], .slice ao23 ((splcS u0 u2).1).length cap24⟩, ⟨10, [], .int .i64 ((splcS u0 u2).2)⟩, ⟨11, [], .int .i64 (checkS u0 u2)⟩] a262 := hF263.region (by kernel_rfl) (by kernel_rfl); clear hF263
    refine sqH ?_; intro hQ272Q hQ272
    refine s1 hF271 56 (.int .i64 (checkS u0 u2)) ?_; intro a273 hF274; clear hF271
    refine s1 hF274 57 (.bool ((checkS u0 u2) != 0)) ?_; intro a275 hF276; clear hF274
    refine nlH (hQ272 _ _ ?_); clear hQ272 hQ272Q
    refine cd hF276 (t := (checkS u0 u2) != 0) (by kernel_rfl) (fun hb277 => ?_) (fun hb277 => ?_)
    · -- yes
     have hp278 := hp270.1 hb277; clear hp270
     refine sqH ?_; intro hQ279Q hQ279
     refine s1 hF276 58 (.int .i64 ((splcS u0 u2).2)) ?_; intro a280 hF281; clear hF276
     refine s1 hF281 59 (.int .i64 (checkS u0 u2)) ?_; intro a282 hF283; clear hF281
     refine s1 hF283 60 (.bool (((splcS u0 u2).2) == (checkS u0 u2))) ?_; intro a284 hF285; clear hF283
     refine s1 hF285 61 (.bool (((splcS u0 u2).2) == (checkS u0 u2))) ?_; intro a286 hF287; clear hF285
     have hF288 := hF287.atom ((((splcS u0 u2).2) == (checkS u0 u2)) == true) (by kernel_rfl); clear hF287
     refine gp hF288 62 0 [] (((splcS u0 u2).2) == (checkS u0 u2)) (.slice ao23 ((splcS u0 u2).1).length cap24) rfl rfl ?_; intro a289 hF290; clear hF288
     refine gp hF290 63 0 [] (((splcS u0 u2).2) == (checkS u0 u2)) (.int .i64 (((splcS u0 u2).1).length : Int)) rfl rfl ?_; intro a291 hF292; clear hF290
     refine gp hF292 64 0 [] (((splcS u0 u2).2) == (checkS u0 u2)) (.bool ((((splcS u0 u2).1).length : Int) == 0)) rfl rfl ?_; intro a293 hF294; clear hF292
     refine st hF294 (.bool ((((splcS u0 u2).2) == (checkS u0 u2)) && ((((splcS u0 u2).1).length : Int) == 0))) (nog rfl _) rfl (by kernel_rfl) (pk_and hF294 (g := []) (m := 0) (b := ((splcS u0 u2).2) == (checkS u0 u2)) (v := (((splcS u0 u2).1).length : Int) == 0) rfl (by kernel_rfl) (by kernel_rfl) (by kernel_rfl) rfl) ?_; intro a295 hF296; clear hF294
     refine s1 hF296 8 (.bool ((((splcS u0 u2).2) == (checkS u0 u2)) && ((((splcS u0 u2).1).length : Int) == 0))) ?_; intro a297 hF298; clear hF296
     refine nlH (hQ279 _ _ ?_); clear hQ279 hQ279Q
     refine wp_ret ?_
     refine thr ?_
     refine rt (fn := Tryd.f5) (v := .bool ((((splcS u0 u2).2) == (checkS u0 u2)) && ((((splcS u0 u2).1).length : Int) == 0))) hF298 (re1 hF298 (fn := Tryd.f5) rfl (by kernel_rfl)) ?_
     exact ⟨(((splcS u0 u2).2) == (checkS u0 u2)) && ((((splcS u0 u2).1).length : Int) == 0), rfl, hp278, hM134.below⟩
    · -- no
     have hp299 := hp270.2 hb277; clear hp270
     refine wp_skip ?_
     refine thn ?_
     refine sqH ?_; intro hQ300Q hQ300
     refine s1 hF276 66 (.int .i64 ((splcS u0 u2).2)) ?_; intro a301 hF302; clear hF276
     refine s1 hF302 67 (.bool (((splcS u0 u2).2) == 0)) ?_; intro a303 hF304; clear hF302
     refine s1 hF304 68 (.bool (((splcS u0 u2).2) == 0)) ?_; intro a305 hF306; clear hF304
     have hF307 := hF306.atom ((((splcS u0 u2).2) == 0) == true) (by kernel_rfl); clear hF306
     refine gp hF307 69 0 [] (((splcS u0 u2).2) == 0) (.slice ao23 ((splcS u0 u2).1).length cap24) rfl rfl ?_; intro a308 hF309; clear hF307
     refine gd hF309 (.agg #[str u0.Name, .int .i64 u0.Start, .int .i64 u0.Size, .bool u0.Back, .bool u0.Signed, .int .i64 u0.Mul, .int .i64 u0.Div, .int .i64 u0.Add, .int .i64 u0.Key]) (m := 0) (cj := []) (bj := ((splcS u0 u2).2) == 0) rfl rfl (by kernel_rfl) rfl (by kernel_rfl) (by kernel_rfl) (by kernel_rfl) (fun hg => lda hF309 hM134 2 (g := [0]) (b := b2) (off := 0) (k := 9) (cs := [str u0.Name, .int .i64 u0.Start, .int .i64 u0.Size, .bool u0.Back, .bool u0.Signed, .int .i64 u0.Mul, .int .i64 u0.Div, .int .i64 u0.Add, .int .i64 u0.Key]) (vs := [str u0.Name, .int .i64 u0.Start, .int .i64 u0.Size, .bool u0.Back, .bool u0.Signed, .int .i64 u0.Mul, .int .i64 u0.Div, .int .i64 u0.Add, .int .i64 u0.Key]) (ty := 23) rfl (by kernel_rfl) (by kernel_rfl) (by kernel_rfl) (by kernel_rfl) (by kernel_rfl) hg) ?_; intro a310 hF311; clear hF309
     rcases Bool.eq_false_or_eq_true (((splcS u0 u2).2) == 0) with hb312 | hb312
     · -- true
      have hp313 := hp299.1 hb312; clear hp299
      have hF314 := hF311.reval (d := 68) (c := []) (v := .bool (((splcS u0 u2).2) == 0)) (by kernel_rfl) (.bool true) (by rw [hb312]); clear hF311
      have hF315 := hF314.setc (d := 69) (c := [0]) (v := .slice ao23 ((splcS u0 u2).1).length cap24) (by kernel_rfl) (v' := .slice ao23 ((splcS u0 u2).1).length cap24) (by rw [hb312]; kernel_rfl); clear hF314
      have hF316 := hF315.setc (d := 70) (c := [0]) (v := .agg #[str u0.Name, .int .i64 u0.Start, .int .i64 u0.Size, .bool u0.Back, .bool u0.Signed, .int .i64 u0.Mul, .int .i64 u0.Div, .int .i64 u0.Add, .int .i64 u0.Key]) (by kernel_rfl) (v' := .agg #[str u0.Name, .int .i64 u0.Start, .int .i64 u0.Size, .bool u0.Back, .bool u0.Signed, .int .i64 u0.Mul, .int .i64 u0.Div, .int .i64 u0.Add, .int .i64 u0.Key]) (by rw [hb312]; kernel_rfl); clear hF315
      have hc317 := hp313.1; have hp318 := hp313.2; clear hp313
      refine cl hF316 25 #[.agg #[str u0.Name, .int .i64 u0.Start, .int .i64 u0.Size, .bool u0.Back, .bool u0.Signed, .int .i64 u0.Mul, .int .i64 u0.Div, .int .i64 u0.Add, .int .i64 u0.Key]] (by rw [wanted_of hF316 (b := true) rfl rfl (by kernel_rfl) (by kernel_rfl)]; rfl) rfl (by kernel_rfl) (by kernel_rfl) ?_
      refine (rplaces_fun u0 hc317 _ _ hM134.fz).mono ?_; rintro _ wd319 ⟨ao323, cap324, Z325, rfl, hm⟩; refine ⟨_, rfl, ?_⟩; intro a320 hF321; have hM322 := hM134.callZ hm; have hle326 := hm.ext.le; clear hm hM134 hF316
      replace hle0 := Fz.le.trans hle0 hle326
      have hM327 : Mem w.heap.size [] w Z [.own (tyInt .i64) 3 ao323 cap324 (placesS u0), .own (tyInt .i64) 3 ao23 cap24 ((splcS u0 u2).1), .row b7 [str u1.Name, .int .i64 u1.Start, .int .i64 u1.Size, .bool u1.Back, .bool u1.Signed, .int .i64 u1.Mul, .int .i64 u1.Div, .int .i64 u1.Add, .int .i64 u1.Key] 23, .row b2 [str u0.Name, .int .i64 u0.Start, .int .i64 u0.Size, .bool u0.Back, .bool u0.Signed, .int .i64 u0.Mul, .int .i64 u0.Div, .int .i64 u0.Add, .int .i64 u0.Key] 23] Z325 wd319 := hM322; clear hM322
      have hp328 := hp318 (hM327.ownSmall 0 rfl); clear hp318
      obtain ⟨Z329, hle330, hM331, hs332⟩ := hM327.freeze 1 rfl
      replace hle0 := Fz.le.trans hle0 hle330
      have hM333 : Mem w.heap.size [] w Z [.own (tyInt .i64) 3 ao323 cap324 (placesS u0), .row b7 [str u1.Name, .int .i64 u1.Start, .int .i64 u1.Size, .bool u1.Back, .bool u1.Signed, .int .i64 u1.Mul, .int .i64 u1.Div, .int .i64 u1.Add, .int .i64 u1.Key] 23, .row b2 [str u0.Name, .int .i64 u0.Start, .int .i64 u0.Size, .bool u0.Back, .bool u0.Signed, .int .i64 u0.Mul, .int .i64 u0.Div, .int .i64 u0.Add, .int .i64 u0.Key] 23] Z329 wd319 := hM331; clear hM331
      obtain ⟨Z334, hle335, hM336, hs337⟩ := hM333.freeze 0 rfl
      replace hs332 := hs332.mono hle335
      replace hle0 := Fz.le.trans hle0 hle335
      have hM338 : Mem w.heap.size [] w Z [.row b7 [str u1.Name, .int .i64 u1.Start, .int .i64 u1.Size, .bool u1.Back, .bool u1.Signed, .int .i64 u1.Mul, .int .i64 u1.Div, .int .i64 u1.Add, .int .i64 u1.Key] 23, .row b2 [str u0.Name, .int .i64 u0.Start, .int .i64 u0.Size, .bool u0.Back, .bool u0.Signed, .int .i64 u0.Mul, .int .i64 u0.Div, .int .i64 u0.Add, .int .i64 u0.Key] 23] Z334 wd319 := hM336; clear hM336
      refine fcl hF321 hM338 (.bool (ieqS ((splcS u0 u2).1) (placesS u0))) 24 #[.slice ao23 ((splcS u0 u2).1).length cap24, .slice ao323 (placesS u0).length cap324] (by rw [wanted_of hF321 (b := true) rfl rfl (by kernel_rfl) (by kernel_rfl)]; rfl) rfl (by kernel_rfl) (fun _ => by kernel_rfl) (ieq_fun ((splcS u0 u2).1) (placesS u0) ao23 cap24 ao323 cap324 _ _ hs332 hs337 hM338.fz) ?_; intro a339 wd341 hF340 hM342; clear hF321 hM338
      refine s1 hF340 73 (.bool (ieqS ((splcS u0 u2).1) (placesS u0))) ?_; intro a343 hF344; clear hF340
      refine s1 hF344 8 (.bool (ieqS ((splcS u0 u2).1) (placesS u0))) ?_; intro a345 hF346; clear hF344
      refine nlH (hQ300 _ _ ?_); clear hQ300 hQ300Q
      refine wp_ret ?_
      refine rt (fn := Tryd.f5) (v := .bool (ieqS ((splcS u0 u2).1) (placesS u0))) hF346 (re1 hF346 (fn := Tryd.f5) rfl (by kernel_rfl)) ?_
      exact ⟨(ieqS ((splcS u0 u2).1) (placesS u0)), rfl, hp328, hM342.below⟩
     · -- false
      have hp347 := hp299.2 hb312; clear hp299
      have hF348 := hF311.reval (d := 68) (c := []) (v := .bool (((splcS u0 u2).2) == 0)) (by kernel_rfl) (.bool false) (by rw [hb312]); clear hF311
      have hF349 := hF348.setc (d := 69) (c := [0]) (v := .slice ao23 ((splcS u0 u2).1).length cap24) (by kernel_rfl) (v' := undef) (by rw [hb312]; kernel_rfl); clear hF348
      have hF350 := hF349.setc (d := 70) (c := [0]) (v := .agg #[str u0.Name, .int .i64 u0.Start, .int .i64 u0.Size, .bool u0.Back, .bool u0.Signed, .int .i64 u0.Mul, .int .i64 u0.Div, .int .i64 u0.Add, .int .i64 u0.Key]) (by kernel_rfl) (v' := undef) (by rw [hb312]; kernel_rfl); clear hF349
      refine sk hF350 (b := false) rfl rfl (by kernel_rfl) (by kernel_rfl) rfl rfl (by kernel_rfl) ?_; intro a351 hF352; clear hF350
      refine sk hF352 (b := false) rfl rfl (by kernel_rfl) (by kernel_rfl) rfl rfl (by kernel_rfl) ?_; intro a353 hF354; clear hF352
      refine s1 hF354 73 (.bool false) ?_; intro a355 hF356; clear hF354
      refine s1 hF356 8 (.bool false) ?_; intro a357 hF358; clear hF356
      refine nlH (hQ300 _ _ ?_); clear hQ300 hQ300Q
      refine wp_ret ?_
      refine rt (fn := Tryd.f5) (v := .bool false) hF358 (re1 hF358 (fn := Tryd.f5) rfl (by kernel_rfl)) ?_
      exact ⟨false, rfl, hp347, hM134.below⟩

end Go.Proofs.YtdndfbamhnchfaaDoor
