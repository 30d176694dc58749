/- The walks, made by program: each call does what its pure predicate says. -/
import Derived.Test.YtinegicenfndkaaDoorPC
import Derived.Test.YtinegicenfndkaaDoorWB
set_option linter.unusedVariables false
set_option linter.unusedSimpArgs false
namespace Go.Proofs.YtinegicenfndkaaDoor
open Go.Sy Go.RowKit
theorem bnumber_fun (u0 : List UInt8)  (Z : Fz) (w : World)  (hZ : Z.on w) : Calls Tryd.prog 50 #[str u0] w fun e w' => e = .returned (.tuple #[.int .i64 ((bnumberS u0).1), .int .i64 ((bnumberS u0).2)]) ∧ Below w.heap.size w w' :=
  (bnumber_walk u0  Z w  hZ (bnumber_ok u0)).mono fun _ _ ⟨r, he, hk, hb⟩ => ⟨by subst hk; exact he, hb⟩

theorem bof_fun (u0 : List Int) (hpre : ∀ x ∈ u0, 0 ≤ x ∧ x ≤ 255) (ao1 : Option Addr) (cap2 : Nat) (Z : Fz) (w : World) (hs3 : SlR (tyInt .u8) Z ao1 cap2 u0) (hZ : Z.on w) : Calls Tryd.prog 49 #[.slice ao1 u0.length cap2] w fun e w' => e = .returned (.tuple #[str ((bofS u0).1), .int .i64 ((bofS u0).2)]) ∧ Below w.heap.size w w' :=
  (bof_walk u0 ao1 cap2 Z w hs3 hZ (bof_ok u0 hpre)).mono fun _ _ ⟨r, he, hk, hb⟩ => ⟨by subst hk; exact he, hb⟩

theorem csum_fun (u0 : Int) (u1 : List UInt8)  (Z : Fz) (w : World)  (hZ : Z.on w) : Calls Tryd.prog 11 #[.int .i64 u0, str u1] w fun e w' => e = .returned (.tuple #[str ((csumS u0 u1).1), .int .i64 ((csumS u0 u1).2)]) ∧ Below w.heap.size w w' :=
  (csum_walk u0 u1  Z w  hZ (csum_ok u0 u1)).mono fun _ _ ⟨r, he, hk, hb⟩ => ⟨by subst hk; exact he, hb⟩

theorem cholds_fun (u0 : Int) (u1 : List UInt8)  (Z : Fz) (w : World)  (hZ : Z.on w) : Calls Tryd.prog 17 #[.int .i64 u0, str u1] w fun e w' => e = .returned (.tuple #[.bool ((choldsS u0 u1).1), .int .i64 ((choldsS u0 u1).2)]) ∧ Below w.heap.size w w' :=
  (cholds_walk u0 u1  Z w  hZ (cholds_ok u0 u1)).mono fun _ _ ⟨r, he, hk, hb⟩ => ⟨by subst hk; exact he, hb⟩

theorem lxor_fun (u0 : List UInt8) (u1 : List UInt8) (hpre : u1.length ≤ u0.length ∧ u0.length ≤ 1000000)  (Z : Fz) (w : World)  (hZ : Z.on w) : Calls Tryd.prog 13 #[str u0, str u1] w fun e w' => e = .returned (str (xorS u0 u1)) ∧ Below w.heap.size w w' :=
  (lxor_walk u0 u1  Z w  hZ (lxor_ok u0 u1 hpre)).mono fun _ _ ⟨r, he, hk, hb⟩ => ⟨by subst hk; exact he, hb⟩

set_option maxRecDepth 100000 in
set_option maxHeartbeats 0 in
theorem summed_walk   (Z : Fz) (w : World)  (hZ : Z.on w) {K : Bool → Prop} (hp : summed_vc  K) : Calls Tryd.prog 12 #[] w fun e w' => ∃ r : Bool, e = .returned (.bool r) ∧ K r ∧ Below w.heap.size w w' := by
 refine enter0 Tryd.func12 rfl rfl (by kernel_rfl) ?_; intro a0 hF0; have hM0 := Mem.start w Z hZ; have hle0 := Fz.le.refl Z
 refine sqH ?_; intro hQ1Q hQ1
 refine s1 hF0 0 (.bool false) ?_; intro a2 hF3; clear hF0
 refine nlH (hQ1 _ _ ?_); clear hQ1 hQ1Q
 refine sqH ?_; intro hQ4Q hQ4
 refine sn hF3 hM0 (fun b => .slice (some ⟨b, 0, none⟩) 9 9) [.int .u8 49, .int .u8 50, .int .u8 51, .int .u8 52, .int .u8 53, .int .u8 54, .int .u8 55, .int .u8 56, .int .u8 57] 5 (nog rfl _) rfl (by kernel_rfl) (by kernel_rfl) ?_; intro b5 a6 wd8 hF7 hM9; clear hF3 hM0
 have hM10 : Mem w.heap.size [] w Z [.own (tyInt .u8) 5 (some ⟨b5, 0, none⟩) 9 ([49, 50, 51, 52, 53, 54, 55, 56, 57] : List Int)] Z wd8 := hM9.rowOwn (T := (tyInt .u8)) (xs := ([49, 50, 51, 52, 53, 54, 55, 56, 57] : List Int)) 0 rfl (by decide) (by show 9 ≤ lim; decide) ((RepAll.one (T := (tyInt .u8)) (x := 49) rfl).append ((RepAll.one (T := (tyInt .u8)) (x := 50) rfl).append ((RepAll.one (T := (tyInt .u8)) (x := 51) rfl).append ((RepAll.one (T := (tyInt .u8)) (x := 52) rfl).append ((RepAll.one (T := (tyInt .u8)) (x := 53) rfl).append ((RepAll.one (T := (tyInt .u8)) (x := 54) rfl).append ((RepAll.one (T := (tyInt .u8)) (x := 55) rfl).append ((RepAll.one (T := (tyInt .u8)) (x := 56) rfl).append (RepAll.one (T := (tyInt .u8)) (x := 57) rfl))))))))); clear hM9
 refine c2b hF7 hM10 0 (T := (tyInt .u8)) (xs := ([49, 50, 51, 52, 53, 54, 55, 56, 57] : List Int)) (e := 5) (nog rfl _) rfl (by kernel_rfl) rfl (by kernel_rfl) rfl (by kernel_rfl) (by kernel_rfl) ?_; intro a13 wd11 hF14 hM12; clear hF7 hM10
 have hM15 : Mem w.heap.size [] w Z [.mrk (tyInt .u8) 5 (some ⟨b5, 0, none⟩) 9 ([49, 50, 51, 52, 53, 54, 55, 56, 57] : List Int)] Z wd11 := hM12; clear hM12
 obtain ⟨Z16, hle17, hM18, hs19⟩ := hM15.freezeM 0 rfl
 replace hle0 := Fz.le.trans hle0 hle17
 have hM20 : Mem w.heap.size [] w Z [] Z16 wd11 := hM18; clear hM18
 have hc21 := hp.1; have hp22 := hp.2; clear hp
 refine fcl hF14 hM20 (.tuple #[str ((bofS ([49, 50, 51, 52, 53, 54, 55, 56, 57] : List Int)).1), .int .i64 ((bofS ([49, 50, 51, 52, 53, 54, 55, 56, 57] : List Int)).2)]) 49 #[.slice (some ⟨b5, 0, none⟩) ([49, 50, 51, 52, 53, 54, 55, 56, 57] : List Int).length 9] (nog rfl _) rfl (by kernel_rfl) (fun _ => by kernel_rfl) (bof_fun ([49, 50, 51, 52, 53, 54, 55, 56, 57] : List Int) hc21 (some ⟨b5, 0, none⟩) 9 _ _ hs19 hM20.fz) ?_; intro a23 wd25 hF24 hM26; clear hF14 hM20
 refine s1 hF24 7 (.tuple #[str ((bofS ([49, 50, 51, 52, 53, 54, 55, 56, 57] : List Int)).1), .int .i64 ((bofS ([49, 50, 51, 52, 53, 54, 55, 56, 57] : List Int)).2)]) ?_; intro a27 hF28; clear hF24
 refine s1 hF28 11 (str ((bofS ([49, 50, 51, 52, 53, 54, 55, 56, 57] : List Int)).1)) ?_; intro a29 hF30; clear hF28
 refine s1 hF30 12 (.int .i64 ((bofS ([49, 50, 51, 52, 53, 54, 55, 56, 57] : List Int)).2)) ?_; intro a31 hF32; clear hF30
 refine s1 hF32 1 (str ((bofS ([49, 50, 51, 52, 53, 54, 55, 56, 57] : List Int)).1)) ?_; intro a33 hF34; clear hF32
 refine s1 hF34 2 (.int .i64 ((bofS ([49, 50, 51, 52, 53, 54, 55, 56, 57] : List Int)).2)) ?_; intro a35 hF36; clear hF34
 refine nlH (hQ4 _ _ ?_); clear hQ4 hQ4Q
 refine sqH ?_; intro hQ37Q hQ37
 refine s1 hF36 14 (str ((bofS ([49, 50, 51, 52, 53, 54, 55, 56, 57] : List Int)).1)) ?_; intro a38 hF39; clear hF36
 refine fcl hF39 hM26 (.tuple #[str ((csumS 4 ((bofS ([49, 50, 51, 52, 53, 54, 55, 56, 57] : List Int)).1)).1), .int .i64 ((csumS 4 ((bofS ([49, 50, 51, 52, 53, 54, 55, 56, 57] : List Int)).1)).2)]) 11 #[.int .i64 4, str ((bofS ([49, 50, 51, 52, 53, 54, 55, 56, 57] : List Int)).1)] (nog rfl _) rfl (by kernel_rfl) (fun _ => by kernel_rfl) (csum_fun 4 ((bofS ([49, 50, 51, 52, 53, 54, 55, 56, 57] : List Int)).1) _ _ hM26.fz) ?_; intro a40 wd42 hF41 hM43; clear hF39 hM26
 refine s1 hF41 13 (.tuple #[str ((csumS 4 ((bofS ([49, 50, 51, 52, 53, 54, 55, 56, 57] : List Int)).1)).1), .int .i64 ((csumS 4 ((bofS ([49, 50, 51, 52, 53, 54, 55, 56, 57] : List Int)).1)).2)]) ?_; intro a44 hF45; clear hF41
 refine s1 hF45 16 (str ((csumS 4 ((bofS ([49, 50, 51, 52, 53, 54, 55, 56, 57] : List Int)).1)).1)) ?_; intro a46 hF47; clear hF45
 refine s1 hF47 17 (.int .i64 ((csumS 4 ((bofS ([49, 50, 51, 52, 53, 54, 55, 56, 57] : List Int)).1)).2)) ?_; intro a48 hF49; clear hF47
 refine s1 hF49 3 (str ((csumS 4 ((bofS ([49, 50, 51, 52, 53, 54, 55, 56, 57] : List Int)).1)).1)) ?_; intro a50 hF51; clear hF49
 refine s1 hF51 4 (.int .i64 ((csumS 4 ((bofS ([49, 50, 51, 52, 53, 54, 55, 56, 57] : List Int)).1)).2)) ?_; intro a52 hF53; clear hF51
 refine nlH (hQ37 _ _ ?_); clear hQ37 hQ37Q
 have hF54 : Fr 33 [] [⟨3, [], str ((csumS 4 ((bofS ([49, 50, 51, 52, 53, 54, 55, 56, 57] : List Int)).1)).1)⟩, ⟨4, [], .int .i64 ((csumS 4 ((bofS ([49, 50, 51, 52, 53, 54, 55, 56, 57] : List Int)).1)).2)⟩] a52 := hF53.region (by kernel_rfl) (by kernel_rfl); clear hF53
 refine sqH ?_; intro hQ55Q hQ55
 refine s1 hF54 19 (str ((csumS 4 ((bofS ([49, 50, 51, 52, 53, 54, 55, 56, 57] : List Int)).1)).1)) ?_; intro a56 hF57; clear hF54
 refine fcl hF57 hM43 (.tuple #[.int .i64 ((bnumberS ((csumS 4 ((bofS ([49, 50, 51, 52, 53, 54, 55, 56, 57] : List Int)).1)).1)).1), .int .i64 ((bnumberS ((csumS 4 ((bofS ([49, 50, 51, 52, 53, 54, 55, 56, 57] : List Int)).1)).1)).2)]) 50 #[str ((csumS 4 ((bofS ([49, 50, 51, 52, 53, 54, 55, 56, 57] : List Int)).1)).1)] (nog rfl _) rfl (by kernel_rfl) (fun _ => by kernel_rfl) (bnumber_fun ((csumS 4 ((bofS ([49, 50, 51, 52, 53, 54, 55, 56, 57] : List Int)).1)).1) _ _ hM43.fz) ?_; intro a58 wd60 hF59 hM61; clear hF57 hM43
 refine s1 hF59 18 (.tuple #[.int .i64 ((bnumberS ((csumS 4 ((bofS ([49, 50, 51, 52, 53, 54, 55, 56, 57] : List Int)).1)).1)).1), .int .i64 ((bnumberS ((csumS 4 ((bofS ([49, 50, 51, 52, 53, 54, 55, 56, 57] : List Int)).1)).1)).2)]) ?_; intro a62 hF63; clear hF59
 refine s1 hF63 21 (.int .i64 ((bnumberS ((csumS 4 ((bofS ([49, 50, 51, 52, 53, 54, 55, 56, 57] : List Int)).1)).1)).1)) ?_; intro a64 hF65; clear hF63
 refine s1 hF65 22 (.int .i64 ((bnumberS ((csumS 4 ((bofS ([49, 50, 51, 52, 53, 54, 55, 56, 57] : List Int)).1)).1)).2)) ?_; intro a66 hF67; clear hF65
 refine s1 hF67 5 (.int .i64 ((bnumberS ((csumS 4 ((bofS ([49, 50, 51, 52, 53, 54, 55, 56, 57] : List Int)).1)).1)).1)) ?_; intro a68 hF69; clear hF67
 refine s1 hF69 6 (.int .i64 ((bnumberS ((csumS 4 ((bofS ([49, 50, 51, 52, 53, 54, 55, 56, 57] : List Int)).1)).1)).2)) ?_; intro a70 hF71; clear hF69
 refine nlH (hQ55 _ _ ?_); clear hQ55 hQ55Q
 refine sqH ?_; intro hQ72Q hQ72
 refine s1 hF71 23 (.int .i64 ((csumS 4 ((bofS ([49, 50, 51, 52, 53, 54, 55, 56, 57] : List Int)).1)).2)) ?_; intro a73 hF74; clear hF71
 refine s1 hF74 24 (.bool (((csumS 4 ((bofS ([49, 50, 51, 52, 53, 54, 55, 56, 57] : List Int)).1)).2) == 0)) ?_; intro a75 hF76; clear hF74
 refine s1 hF76 25 (.bool (((csumS 4 ((bofS ([49, 50, 51, 52, 53, 54, 55, 56, 57] : List Int)).1)).2) == 0)) ?_; intro a77 hF78; clear hF76
 have hF79 := hF78.atom ((((csumS 4 ((bofS ([49, 50, 51, 52, 53, 54, 55, 56, 57] : List Int)).1)).2) == 0) == true) (by kernel_rfl); clear hF78
 refine gp hF79 26 0 [] (((csumS 4 ((bofS ([49, 50, 51, 52, 53, 54, 55, 56, 57] : List Int)).1)).2) == 0) (.int .i64 ((bnumberS ((csumS 4 ((bofS ([49, 50, 51, 52, 53, 54, 55, 56, 57] : List Int)).1)).1)).2)) rfl rfl ?_; intro a80 hF81; clear hF79
 refine gp hF81 27 0 [] (((csumS 4 ((bofS ([49, 50, 51, 52, 53, 54, 55, 56, 57] : List Int)).1)).2) == 0) (.bool (((bnumberS ((csumS 4 ((bofS ([49, 50, 51, 52, 53, 54, 55, 56, 57] : List Int)).1)).1)).2) == 0)) rfl rfl ?_; intro a82 hF83; clear hF81
 refine st hF83 (.bool ((((csumS 4 ((bofS ([49, 50, 51, 52, 53, 54, 55, 56, 57] : List Int)).1)).2) == 0) && (((bnumberS ((csumS 4 ((bofS ([49, 50, 51, 52, 53, 54, 55, 56, 57] : List Int)).1)).1)).2) == 0))) (nog rfl _) rfl (by kernel_rfl) (pk_and hF83 (g := []) (m := 0) (b := ((csumS 4 ((bofS ([49, 50, 51, 52, 53, 54, 55, 56, 57] : List Int)).1)).2) == 0) (v := ((bnumberS ((csumS 4 ((bofS ([49, 50, 51, 52, 53, 54, 55, 56, 57] : List Int)).1)).1)).2) == 0) rfl (by kernel_rfl) (by kernel_rfl) (by kernel_rfl) rfl) ?_; intro a84 hF85; clear hF83
 refine s1 hF85 29 (.bool ((((csumS 4 ((bofS ([49, 50, 51, 52, 53, 54, 55, 56, 57] : List Int)).1)).2) == 0) && (((bnumberS ((csumS 4 ((bofS ([49, 50, 51, 52, 53, 54, 55, 56, 57] : List Int)).1)).1)).2) == 0))) ?_; intro a86 hF87; clear hF85
 have hF88 := hF87.atom (((((csumS 4 ((bofS ([49, 50, 51, 52, 53, 54, 55, 56, 57] : List Int)).1)).2) == 0) && (((bnumberS ((csumS 4 ((bofS ([49, 50, 51, 52, 53, 54, 55, 56, 57] : List Int)).1)).1)).2) == 0)) == true) (by kernel_rfl); clear hF87
 refine gp hF88 30 1 [] ((((csumS 4 ((bofS ([49, 50, 51, 52, 53, 54, 55, 56, 57] : List Int)).1)).2) == 0) && (((bnumberS ((csumS 4 ((bofS ([49, 50, 51, 52, 53, 54, 55, 56, 57] : List Int)).1)).1)).2) == 0)) (.int .i64 ((bnumberS ((csumS 4 ((bofS ([49, 50, 51, 52, 53, 54, 55, 56, 57] : List Int)).1)).1)).1)) rfl rfl ?_; intro a89 hF90; clear hF88
 refine gp hF90 31 1 [] ((((csumS 4 ((bofS ([49, 50, 51, 52, 53, 54, 55, 56, 57] : List Int)).1)).2) == 0) && (((bnumberS ((csumS 4 ((bofS ([49, 50, 51, 52, 53, 54, 55, 56, 57] : List Int)).1)).1)).2) == 0)) (.bool (((bnumberS ((csumS 4 ((bofS ([49, 50, 51, 52, 53, 54, 55, 56, 57] : List Int)).1)).1)).1) == 10673)) rfl rfl ?_; intro a91 hF92; clear hF90
 refine st hF92 (.bool (((((csumS 4 ((bofS ([49, 50, 51, 52, 53, 54, 55, 56, 57] : List Int)).1)).2) == 0) && (((bnumberS ((csumS 4 ((bofS ([49, 50, 51, 52, 53, 54, 55, 56, 57] : List Int)).1)).1)).2) == 0)) && (((bnumberS ((csumS 4 ((bofS ([49, 50, 51, 52, 53, 54, 55, 56, 57] : List Int)).1)).1)).1) == 10673))) (nog rfl _) rfl (by kernel_rfl) (pk_and hF92 (g := []) (m := 1) (b := (((csumS 4 ((bofS ([49, 50, 51, 52, 53, 54, 55, 56, 57] : List Int)).1)).2) == 0) && (((bnumberS ((csumS 4 ((bofS ([49, 50, 51, 52, 53, 54, 55, 56, 57] : List Int)).1)).1)).2) == 0)) (v := ((bnumberS ((csumS 4 ((bofS ([49, 50, 51, 52, 53, 54, 55, 56, 57] : List Int)).1)).1)).1) == 10673) rfl (by kernel_rfl) (by kernel_rfl) (by kernel_rfl) rfl) ?_; intro a93 hF94; clear hF92
 refine s1 hF94 0 (.bool (((((csumS 4 ((bofS ([49, 50, 51, 52, 53, 54, 55, 56, 57] : List Int)).1)).2) == 0) && (((bnumberS ((csumS 4 ((bofS ([49, 50, 51, 52, 53, 54, 55, 56, 57] : List Int)).1)).1)).2) == 0)) && (((bnumberS ((csumS 4 ((bofS ([49, 50, 51, 52, 53, 54, 55, 56, 57] : List Int)).1)).1)).1) == 10673))) ?_; intro a95 hF96; clear hF94
 refine nlH (hQ72 _ _ ?_); clear hQ72 hQ72Q
 refine wp_ret ?_
 refine rt (fn := Tryd.f12) (v := .bool (((((csumS 4 ((bofS ([49, 50, 51, 52, 53, 54, 55, 56, 57] : List Int)).1)).2) == 0) && (((bnumberS ((csumS 4 ((bofS ([49, 50, 51, 52, 53, 54, 55, 56, 57] : List Int)).1)).1)).2) == 0)) && (((bnumberS ((csumS 4 ((bofS ([49, 50, 51, 52, 53, 54, 55, 56, 57] : List Int)).1)).1)).1) == 10673))) hF96 (re1 hF96 (fn := Tryd.f12) rfl (by kernel_rfl)) ?_
 exact ⟨((((csumS 4 ((bofS ([49, 50, 51, 52, 53, 54, 55, 56, 57] : List Int)).1)).2) == 0) && (((bnumberS ((csumS 4 ((bofS ([49, 50, 51, 52, 53, 54, 55, 56, 57] : List Int)).1)).1)).2) == 0)) && (((bnumberS ((csumS 4 ((bofS ([49, 50, 51, 52, 53, 54, 55, 56, 57] : List Int)).1)).1)).1) == 10673), rfl, hp22, hM61.below⟩

end Go.Proofs.YtinegicenfndkaaDoor
