/- The walks, made by program: each call does what its pure predicate says. -/
import Derived.Test.YtfafpnacflcgmaaDoorPC
import Derived.Test.YtfafpnacflcgmaaDoorWB
set_option linter.unusedVariables false
set_option linter.unusedSimpArgs false
namespace Go.Proofs.YtfafpnacflcgmaaDoor
open Go.Sy Go.RowKit
theorem bnumber_fun (u0 : List UInt8)  (Z : Fz) (w : World)  (hZ : Z.on w) : Calls Tryd.prog 13 #[str u0] w fun e w' => e = .returned (.tuple #[.int .i64 ((bnumberS u0).1), .int .i64 ((bnumberS u0).2)]) ∧ Below w.heap.size w w' :=
  (bnumber_walk u0  Z w  hZ (bnumber_ok u0)).mono fun _ _ ⟨r, he, hk, hb⟩ => ⟨by subst hk; exact he, hb⟩

theorem brow_fun (u0 : Int) (u1 : Int) (hpre : u0 ≤ 9223372036854775807)  (Z : Fz) (w : World)  (hZ : Z.on w) : Calls Tryd.prog 15 #[.int .i64 u0, .int .i64 u1] w fun e w' => e = .returned (.tuple #[str ((browS u0 u1).1), .int .i64 ((browS u0 u1).2)]) ∧ Below w.heap.size w w' :=
  (brow_walk u0 u1  Z w  hZ (brow_ok u0 u1 hpre)).mono fun _ _ ⟨r, he, hk, hb⟩ => ⟨by subst hk; exact he, hb⟩

theorem bof_fun (u0 : List Int) (hpre : ∀ x ∈ u0, 0 ≤ x ∧ x ≤ 255) (ao1 : Option Addr) (cap2 : Nat) (Z : Fz) (w : World) (hs3 : SlR (tyInt .u8) Z ao1 cap2 u0) (hZ : Z.on w) : Calls Tryd.prog 16 #[.slice ao1 u0.length cap2] w fun e w' => e = .returned (.tuple #[str ((bofS u0).1), .int .i64 ((bofS u0).2)]) ∧ Below w.heap.size w w' :=
  (bof_walk u0 ao1 cap2 Z w hs3 hZ (bof_ok u0 hpre)).mono fun _ _ ⟨r, he, hk, hb⟩ => ⟨by subst hk; exact he, hb⟩

theorem bbytes_fun (u0 : List UInt8)  (Z : Fz) (w : World)  (hZ : Z.on w) : Calls Tryd.prog 17 #[str u0] w fun e w' => ∃ (ao1001 : Option Addr) (cap1002 : Nat) (Z' : Fz), e = .returned (.tuple #[.slice ao1001 (bbytesS u0).1.length cap1002, .int .i64 (bbytesS u0).2]) ∧ Mem w.heap.size [] w Z [.own (tyInt .u8) 5 ao1001 cap1002 (bbytesS u0).1] Z' w' :=
  (bbytes_walk u0  Z w  hZ (bbytes_ok u0)).mono fun _ _ ⟨r, h0, h1, h2, he, hk, hm⟩ => by subst hk; exact ⟨h0, h1, h2, he, hm⟩

set_option maxRecDepth 100000 in
set_option maxHeartbeats 0 in
theorem rowed_walk   (Z : Fz) (w : World)  (hZ : Z.on w) {K : Bool → Prop} (hp : rowed_vc  K) : Calls Tryd.prog 14 #[] w fun e w' => ∃ r : Bool, e = .returned (.bool r) ∧ K r ∧ Below w.heap.size w w' := by
 refine enter0 Tryd.func14 rfl rfl (by kernel_rfl) ?_; intro a0 hF0; have hM0 := Mem.start w Z hZ; have hle0 := Fz.le.refl Z
 refine sqH ?_; intro hQ1Q hQ1
 refine s1 hF0 0 (.bool false) ?_; intro a2 hF3; clear hF0
 refine nlH (hQ1 _ _ ?_); clear hQ1 hQ1Q
 refine sqH ?_; intro hQ4Q hQ4
 refine fcl hF3 hM0 (.tuple #[.int .i64 ((bnumberS ([49, 48, 49, 48] : List UInt8)).1), .int .i64 ((bnumberS ([49, 48, 49, 48] : List UInt8)).2)]) 13 #[str ([49, 48, 49, 48] : List UInt8)] (nog rfl _) rfl (by kernel_rfl) (fun _ => by kernel_rfl) (bnumber_fun ([49, 48, 49, 48] : List UInt8) _ _ hM0.fz) ?_; intro a5 wd7 hF6 hM8; clear hF3 hM0
 refine s1 hF6 5 (.tuple #[.int .i64 ((bnumberS ([49, 48, 49, 48] : List UInt8)).1), .int .i64 ((bnumberS ([49, 48, 49, 48] : List UInt8)).2)]) ?_; intro a9 hF10; clear hF6
 refine s1 hF10 7 (.int .i64 ((bnumberS ([49, 48, 49, 48] : List UInt8)).1)) ?_; intro a11 hF12; clear hF10
 refine s1 hF12 8 (.int .i64 ((bnumberS ([49, 48, 49, 48] : List UInt8)).2)) ?_; intro a13 hF14; clear hF12
 refine s1 hF14 1 (.int .i64 ((bnumberS ([49, 48, 49, 48] : List UInt8)).1)) ?_; intro a15 hF16; clear hF14
 refine s1 hF16 2 (.int .i64 ((bnumberS ([49, 48, 49, 48] : List UInt8)).2)) ?_; intro a17 hF18; clear hF16
 refine nlH (hQ4 _ _ ?_); clear hQ4 hQ4Q
 refine sqH ?_; intro hQ19Q hQ19
 have hc20 := hp.1; have hp21 := hp.2; clear hp
 refine fcl hF18 hM8 (.tuple #[str ((browS 10 5).1), .int .i64 ((browS 10 5).2)]) 15 #[.int .i64 10, .int .i64 5] (nog rfl _) rfl (by kernel_rfl) (fun _ => by kernel_rfl) (brow_fun 10 5 hc20 _ _ hM8.fz) ?_; intro a22 wd24 hF23 hM25; clear hF18 hM8
 refine s1 hF23 9 (.tuple #[str ((browS 10 5).1), .int .i64 ((browS 10 5).2)]) ?_; intro a26 hF27; clear hF23
 refine s1 hF27 11 (str ((browS 10 5).1)) ?_; intro a28 hF29; clear hF27
 refine s1 hF29 12 (.int .i64 ((browS 10 5).2)) ?_; intro a30 hF31; clear hF29
 refine s1 hF31 3 (str ((browS 10 5).1)) ?_; intro a32 hF33; clear hF31
 refine s1 hF33 4 (.int .i64 ((browS 10 5).2)) ?_; intro a34 hF35; clear hF33
 refine nlH (hQ19 _ _ ?_); clear hQ19 hQ19Q
 refine sqH ?_; intro hQ36Q hQ36
 refine s1 hF35 13 (.int .i64 ((bnumberS ([49, 48, 49, 48] : List UInt8)).2)) ?_; intro a37 hF38; clear hF35
 refine s1 hF38 14 (.bool (((bnumberS ([49, 48, 49, 48] : List UInt8)).2) == 0)) ?_; intro a39 hF40; clear hF38
 refine s1 hF40 15 (.bool (((bnumberS ([49, 48, 49, 48] : List UInt8)).2) == 0)) ?_; intro a41 hF42; clear hF40
 have hF43 := hF42.atom ((((bnumberS ([49, 48, 49, 48] : List UInt8)).2) == 0) == true) (by kernel_rfl); clear hF42
 refine gp hF43 16 0 [] (((bnumberS ([49, 48, 49, 48] : List UInt8)).2) == 0) (.int .i64 ((browS 10 5).2)) rfl rfl ?_; intro a44 hF45; clear hF43
 refine gp hF45 17 0 [] (((bnumberS ([49, 48, 49, 48] : List UInt8)).2) == 0) (.bool (((browS 10 5).2) == 0)) rfl rfl ?_; intro a46 hF47; clear hF45
 refine st hF47 (.bool ((((bnumberS ([49, 48, 49, 48] : List UInt8)).2) == 0) && (((browS 10 5).2) == 0))) (nog rfl _) rfl (by kernel_rfl) (pk_and hF47 (g := []) (m := 0) (b := ((bnumberS ([49, 48, 49, 48] : List UInt8)).2) == 0) (v := ((browS 10 5).2) == 0) rfl (by kernel_rfl) (by kernel_rfl) (by kernel_rfl) rfl) ?_; intro a48 hF49; clear hF47
 refine s1 hF49 19 (.bool ((((bnumberS ([49, 48, 49, 48] : List UInt8)).2) == 0) && (((browS 10 5).2) == 0))) ?_; intro a50 hF51; clear hF49
 have hF52 := hF51.atom (((((bnumberS ([49, 48, 49, 48] : List UInt8)).2) == 0) && (((browS 10 5).2) == 0)) == true) (by kernel_rfl); clear hF51
 refine gp hF52 20 1 [] ((((bnumberS ([49, 48, 49, 48] : List UInt8)).2) == 0) && (((browS 10 5).2) == 0)) (.int .i64 ((bnumberS ([49, 48, 49, 48] : List UInt8)).1)) rfl rfl ?_; intro a53 hF54; clear hF52
 refine gp hF54 21 1 [] ((((bnumberS ([49, 48, 49, 48] : List UInt8)).2) == 0) && (((browS 10 5).2) == 0)) (.bool (((bnumberS ([49, 48, 49, 48] : List UInt8)).1) == 10)) rfl rfl ?_; intro a55 hF56; clear hF54
 refine st hF56 (.bool (((((bnumberS ([49, 48, 49, 48] : List UInt8)).2) == 0) && (((browS 10 5).2) == 0)) && (((bnumberS ([49, 48, 49, 48] : List UInt8)).1) == 10))) (nog rfl _) rfl (by kernel_rfl) (pk_and hF56 (g := []) (m := 1) (b := (((bnumberS ([49, 48, 49, 48] : List UInt8)).2) == 0) && (((browS 10 5).2) == 0)) (v := ((bnumberS ([49, 48, 49, 48] : List UInt8)).1) == 10) rfl (by kernel_rfl) (by kernel_rfl) (by kernel_rfl) rfl) ?_; intro a57 hF58; clear hF56
 refine s1 hF58 23 (.bool (((((bnumberS ([49, 48, 49, 48] : List UInt8)).2) == 0) && (((browS 10 5).2) == 0)) && (((bnumberS ([49, 48, 49, 48] : List UInt8)).1) == 10))) ?_; intro a59 hF60; clear hF58
 have hF61 := hF60.atom ((((((bnumberS ([49, 48, 49, 48] : List UInt8)).2) == 0) && (((browS 10 5).2) == 0)) && (((bnumberS ([49, 48, 49, 48] : List UInt8)).1) == 10)) == true) (by kernel_rfl); clear hF60
 refine gp hF61 24 2 [] (((((bnumberS ([49, 48, 49, 48] : List UInt8)).2) == 0) && (((browS 10 5).2) == 0)) && (((bnumberS ([49, 48, 49, 48] : List UInt8)).1) == 10)) (str ((browS 10 5).1)) rfl rfl ?_; intro a62 hF63; clear hF61
 refine gd hF63 (.bool (((browS 10 5).1) == ([48, 49, 48, 49, 48] : List UInt8))) (m := 2) (cj := []) (bj := ((((bnumberS ([49, 48, 49, 48] : List UInt8)).2) == 0) && (((browS 10 5).2) == 0)) && (((bnumberS ([49, 48, 49, 48] : List UInt8)).1) == 10)) rfl rfl (by kernel_rfl) rfl (by kernel_rfl) (by kernel_rfl) (by kernel_rfl) (fun hg => strcmp_run hF63 (g := [2]) (op := .eql) rfl (by kernel_rfl) (by kernel_rfl) (by decide) hg) ?_; intro a64 hF65; clear hF63
 refine st hF65 (.bool ((((((bnumberS ([49, 48, 49, 48] : List UInt8)).2) == 0) && (((browS 10 5).2) == 0)) && (((bnumberS ([49, 48, 49, 48] : List UInt8)).1) == 10)) && (((browS 10 5).1) == ([48, 49, 48, 49, 48] : List UInt8)))) (nog rfl _) rfl (by kernel_rfl) (pk_and hF65 (g := []) (m := 2) (b := ((((bnumberS ([49, 48, 49, 48] : List UInt8)).2) == 0) && (((browS 10 5).2) == 0)) && (((bnumberS ([49, 48, 49, 48] : List UInt8)).1) == 10)) (v := ((browS 10 5).1) == ([48, 49, 48, 49, 48] : List UInt8)) rfl (by kernel_rfl) (by kernel_rfl) (by kernel_rfl) rfl) ?_; intro a66 hF67; clear hF65
 refine s1 hF67 0 (.bool ((((((bnumberS ([49, 48, 49, 48] : List UInt8)).2) == 0) && (((browS 10 5).2) == 0)) && (((bnumberS ([49, 48, 49, 48] : List UInt8)).1) == 10)) && (((browS 10 5).1) == ([48, 49, 48, 49, 48] : List UInt8)))) ?_; intro a68 hF69; clear hF67
 refine nlH (hQ36 _ _ ?_); clear hQ36 hQ36Q
 refine wp_ret ?_
 refine rt (fn := Tryd.f14) (v := .bool ((((((bnumberS ([49, 48, 49, 48] : List UInt8)).2) == 0) && (((browS 10 5).2) == 0)) && (((bnumberS ([49, 48, 49, 48] : List UInt8)).1) == 10)) && (((browS 10 5).1) == ([48, 49, 48, 49, 48] : List UInt8)))) hF69 (re1 hF69 (fn := Tryd.f14) rfl (by kernel_rfl)) ?_
 exact ⟨(((((bnumberS ([49, 48, 49, 48] : List UInt8)).2) == 0) && (((browS 10 5).2) == 0)) && (((bnumberS ([49, 48, 49, 48] : List UInt8)).1) == 10)) && (((browS 10 5).1) == ([48, 49, 48, 49, 48] : List UInt8)), rfl, hp21, hM25.below⟩

end Go.Proofs.YtfafpnacflcgmaaDoor
