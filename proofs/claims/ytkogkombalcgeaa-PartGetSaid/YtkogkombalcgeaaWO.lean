/- The walks, made by program: each call does what its pure predicate says. -/
import Derived.Test.YtkogkombalcgeaaPO
import Derived.Test.YtkogkombalcgeaaWN
set_option linter.unusedVariables false
set_option linter.unusedSimpArgs false
namespace Go.Proofs.Ytkogkombalcgeaa
open Go.Sy Go.RowKit
theorem psend_fun (u0 : List Int) (u1 : Int) (hpre : ∀ x ∈ u0, 0 ≤ x ∧ x ≤ 255) (ao1 : Option Addr) (cap2 : Nat) (Z : Fz) (w : World) (hs3 : SlR (tyInt .u8) Z ao1 cap2 u0) (hZ : Z.on w) : Calls Try.prog 38 #[.slice ao1 u0.length cap2, .int .i64 u1] w fun e w' => ∃ (ao1001 : Option Addr) (cap1002 : Nat) (Z' : Fz), e = .returned (.tuple #[.slice ao1001 (psendS u0 u1).1.length cap1002, .int .i64 (psendS u0 u1).2.1, .int .i64 (psendS u0 u1).2.2]) ∧ Mem w.heap.size [] w Z [.own (tyInt .u8) 5 ao1001 cap1002 (psendS u0 u1).1] Z' w' :=
  (psend_walk u0 u1 ao1 cap2 Z w hs3 hZ (psend_ok u0 u1 hpre)).mono fun _ _ ⟨r, h0, h1, h2, he, hk, hm⟩ => by subst hk; exact ⟨h0, h1, h2, he, hm⟩

set_option maxRecDepth 100000 in
theorem parted_walk   (Z : Fz) (w : World)  (hZ : Z.on w) {K : Bool → Prop} (hp : parted_vc  K) : Calls Try.prog 33 #[] w fun e w' => ∃ r : Bool, e = .returned (.bool r) ∧ K r ∧ Below w.heap.size w w' := by
 refine enter0 Try.func33 rfl rfl (by kernel_rfl) ?_; intro a0 hF0; have hM0 := Mem.start w Z hZ; have hle0 := Fz.le.refl Z
 refine sqH ?_; intro hQ1Q hQ1
 refine s1 hF0 0 (.bool false) ?_; intro a2 hF3; clear hF0
 refine nlH (hQ1 _ _ ?_); clear hQ1 hQ1Q
 refine sqH ?_; intro hQ4Q hQ4
 refine sn hF3 hM0 (fun b => .slice (some ⟨b, 0, none⟩) 8 8) [.int .u8 1, .int .u8 2, .int .u8 3, .int .u8 4, .int .u8 5, .int .u8 6, .int .u8 7, .int .u8 8] 5 (nog rfl _) rfl (by kernel_rfl) (by kernel_rfl) ?_; intro b5 a6 wd8 hF7 hM9; clear hF3 hM0
 have hM10 : Mem w.heap.size [] w Z [.own (tyInt .u8) 5 (some ⟨b5, 0, none⟩) 8 ([1, 2, 3, 4, 5, 6, 7, 8] : List Int)] Z wd8 := hM9.rowOwn (T := (tyInt .u8)) (xs := ([1, 2, 3, 4, 5, 6, 7, 8] : List Int)) 0 rfl (by decide) (by show 8 ≤ lim; decide) ((RepAll.one (T := (tyInt .u8)) (x := 1) rfl).append ((RepAll.one (T := (tyInt .u8)) (x := 2) rfl).append ((RepAll.one (T := (tyInt .u8)) (x := 3) rfl).append ((RepAll.one (T := (tyInt .u8)) (x := 4) rfl).append ((RepAll.one (T := (tyInt .u8)) (x := 5) rfl).append ((RepAll.one (T := (tyInt .u8)) (x := 6) rfl).append ((RepAll.one (T := (tyInt .u8)) (x := 7) rfl).append (RepAll.one (T := (tyInt .u8)) (x := 8) rfl)))))))); clear hM9
 obtain ⟨Z11, hle12, hM13, hs14⟩ := hM10.freeze 0 rfl
 replace hle0 := Fz.le.trans hle0 hle12
 have hM15 : Mem w.heap.size [] w Z [] Z11 wd8 := hM13; clear hM13
 refine cl hF7 40 #[.slice (some ⟨b5, 0, none⟩) ([1, 2, 3, 4, 5, 6, 7, 8] : List Int).length 8] (nog rfl _) rfl (by kernel_rfl) (by kernel_rfl) ?_
 refine (psplit_fun ([1, 2, 3, 4, 5, 6, 7, 8] : List Int) (some ⟨b5, 0, none⟩) 8 _ _ hs14 hM15.fz).mono ?_; rintro _ wd16 ⟨ao20, cap21, Z22, rfl, hm⟩; refine ⟨_, rfl, ?_⟩; intro a17 hF18; have hM19 := hM15.callZ hm; have hle23 := hm.ext.le; clear hm hM15 hF7
 replace hs14 := hs14.mono hle23
 replace hle0 := Fz.le.trans hle0 hle23
 have hM24 : Mem w.heap.size [] w Z [.own (tySl (tyInt .u8)) 36 ao20 cap21 ((psplitS ([1, 2, 3, 4, 5, 6, 7, 8] : List Int)).1)] Z22 wd16 := hM19; clear hM19
 have hp25 := hp (hM24.ownSmall 0 rfl); clear hp
 refine s1 hF18 6 (.tuple #[.slice ao20 ((psplitS ([1, 2, 3, 4, 5, 6, 7, 8] : List Int)).1).length cap21, .int .i64 ((psplitS ([1, 2, 3, 4, 5, 6, 7, 8] : List Int)).2)]) ?_; intro a26 hF27; clear hF18
 refine s1 hF27 9 (.slice ao20 ((psplitS ([1, 2, 3, 4, 5, 6, 7, 8] : List Int)).1).length cap21) ?_; intro a28 hF29; clear hF27
 refine s1 hF29 10 (.int .i64 ((psplitS ([1, 2, 3, 4, 5, 6, 7, 8] : List Int)).2)) ?_; intro a30 hF31; clear hF29
 refine s1 hF31 1 (.slice ao20 ((psplitS ([1, 2, 3, 4, 5, 6, 7, 8] : List Int)).1).length cap21) ?_; intro a32 hF33; clear hF31
 refine s1 hF33 2 (.int .i64 ((psplitS ([1, 2, 3, 4, 5, 6, 7, 8] : List Int)).2)) ?_; intro a34 hF35; clear hF33
 refine nlH (hQ4 _ _ ?_); clear hQ4 hQ4Q
 refine sqH ?_; intro hQ36Q hQ36
 refine sn hF35 hM24 (fun b => .slice (some ⟨b, 0, none⟩) 8 8) [.int .u8 1, .int .u8 2, .int .u8 3, .int .u8 4, .int .u8 5, .int .u8 6, .int .u8 7, .int .u8 8] 5 (nog rfl _) rfl (by kernel_rfl) (by kernel_rfl) ?_; intro b37 a38 wd40 hF39 hM41; clear hF35 hM24
 have hM42 : Mem w.heap.size [] w Z [.own (tyInt .u8) 5 (some ⟨b37, 0, none⟩) 8 ([1, 2, 3, 4, 5, 6, 7, 8] : List Int), .own (tySl (tyInt .u8)) 36 ao20 cap21 ((psplitS ([1, 2, 3, 4, 5, 6, 7, 8] : List Int)).1)] Z22 wd40 := hM41.rowOwn (T := (tyInt .u8)) (xs := ([1, 2, 3, 4, 5, 6, 7, 8] : List Int)) 0 rfl (by decide) (by show 8 ≤ lim; decide) ((RepAll.one (T := (tyInt .u8)) (x := 1) rfl).append ((RepAll.one (T := (tyInt .u8)) (x := 2) rfl).append ((RepAll.one (T := (tyInt .u8)) (x := 3) rfl).append ((RepAll.one (T := (tyInt .u8)) (x := 4) rfl).append ((RepAll.one (T := (tyInt .u8)) (x := 5) rfl).append ((RepAll.one (T := (tyInt .u8)) (x := 6) rfl).append ((RepAll.one (T := (tyInt .u8)) (x := 7) rfl).append (RepAll.one (T := (tyInt .u8)) (x := 8) rfl)))))))); clear hM41
 obtain ⟨Z43, hle44, hM45, hs46⟩ := hM42.freeze 0 rfl
 replace hs14 := hs14.mono hle44
 replace hle0 := Fz.le.trans hle0 hle44
 have hM47 : Mem w.heap.size [] w Z [.own (tySl (tyInt .u8)) 36 ao20 cap21 ((psplitS ([1, 2, 3, 4, 5, 6, 7, 8] : List Int)).1)] Z43 wd40 := hM45; clear hM45
 have hc48 := hp25.1; have hp49 := hp25.2; clear hp25
 refine cl hF39 38 #[.slice (some ⟨b37, 0, none⟩) ([1, 2, 3, 4, 5, 6, 7, 8] : List Int).length 8, .int .i64 0] (nog rfl _) rfl (by kernel_rfl) (by kernel_rfl) ?_
 refine (psend_fun ([1, 2, 3, 4, 5, 6, 7, 8] : List Int) 0 hc48 (some ⟨b37, 0, none⟩) 8 _ _ hs46 hM47.fz).mono ?_; rintro _ wd50 ⟨ao54, cap55, Z56, rfl, hm⟩; refine ⟨_, rfl, ?_⟩; intro a51 hF52; have hM53 := hM47.callZ hm; have hle57 := hm.ext.le; clear hm hM47 hF39
 replace hs14 := hs14.mono hle57
 replace hs46 := hs46.mono hle57
 replace hle0 := Fz.le.trans hle0 hle57
 have hM58 : Mem w.heap.size [] w Z [.own (tyInt .u8) 5 ao54 cap55 ((psendS ([1, 2, 3, 4, 5, 6, 7, 8] : List Int) 0).1), .own (tySl (tyInt .u8)) 36 ao20 cap21 ((psplitS ([1, 2, 3, 4, 5, 6, 7, 8] : List Int)).1)] Z56 wd50 := hM53; clear hM53
 have hp59 := hp49 (hM58.ownSmall 0 rfl); clear hp49
 refine s1 hF52 11 (.tuple #[.slice ao54 ((psendS ([1, 2, 3, 4, 5, 6, 7, 8] : List Int) 0).1).length cap55, .int .i64 ((psendS ([1, 2, 3, 4, 5, 6, 7, 8] : List Int) 0).2.1), .int .i64 ((psendS ([1, 2, 3, 4, 5, 6, 7, 8] : List Int) 0).2.2)]) ?_; intro a60 hF61; clear hF52
 refine s1 hF61 14 (.slice ao54 ((psendS ([1, 2, 3, 4, 5, 6, 7, 8] : List Int) 0).1).length cap55) ?_; intro a62 hF63; clear hF61
 refine s1 hF63 15 (.int .i64 ((psendS ([1, 2, 3, 4, 5, 6, 7, 8] : List Int) 0).2.1)) ?_; intro a64 hF65; clear hF63
 refine s1 hF65 16 (.int .i64 ((psendS ([1, 2, 3, 4, 5, 6, 7, 8] : List Int) 0).2.2)) ?_; intro a66 hF67; clear hF65
 refine s1 hF67 3 (.slice ao54 ((psendS ([1, 2, 3, 4, 5, 6, 7, 8] : List Int) 0).1).length cap55) ?_; intro a68 hF69; clear hF67
 refine s1 hF69 4 (.int .i64 ((psendS ([1, 2, 3, 4, 5, 6, 7, 8] : List Int) 0).2.1)) ?_; intro a70 hF71; clear hF69
 refine s1 hF71 5 (.int .i64 ((psendS ([1, 2, 3, 4, 5, 6, 7, 8] : List Int) 0).2.2)) ?_; intro a72 hF73; clear hF71
 refine nlH (hQ36 _ _ ?_); clear hQ36 hQ36Q
 have hF74 : Fr 44 [] [⟨1, [], .slice ao20 ((psplitS ([1, 2, 3, 4, 5, 6, 7, 8] : List Int)).1).length cap21⟩, ⟨2, [], .int .i64 ((psplitS ([1, 2, 3, 4, 5, 6, 7, 8] : List Int)).2)⟩, ⟨3, [], .slice ao54 ((psendS ([1, 2, 3, 4, 5, 6, 7, 8] : List Int) 0).1).length cap55⟩, ⟨4, [], .int .i64 ((psendS ([1, 2, 3, 4, 5, 6, 7, 8] : List Int) 0).2.1)⟩, ⟨5, [], .int .i64 ((psendS ([1, 2, 3, 4, 5, 6, 7, 8] : List Int) 0).2.2)⟩] a72 := hF73.region (by kernel_rfl) (by kernel_rfl); clear hF73
 refine sqH ?_; intro hQ75Q hQ75
 refine s1 hF74 17 (.int .i64 ((psplitS ([1, 2, 3, 4, 5, 6, 7, 8] : List Int)).2)) ?_; intro a76 hF77; clear hF74
 refine s1 hF77 18 (.bool (((psplitS ([1, 2, 3, 4, 5, 6, 7, 8] : List Int)).2) == 0)) ?_; intro a78 hF79; clear hF77
 refine s1 hF79 19 (.bool (((psplitS ([1, 2, 3, 4, 5, 6, 7, 8] : List Int)).2) == 0)) ?_; intro a80 hF81; clear hF79
 have hF82 := hF81.atom ((((psplitS ([1, 2, 3, 4, 5, 6, 7, 8] : List Int)).2) == 0) == true) (by kernel_rfl); clear hF81
 refine gp hF82 20 0 [] (((psplitS ([1, 2, 3, 4, 5, 6, 7, 8] : List Int)).2) == 0) (.int .i64 ((psendS ([1, 2, 3, 4, 5, 6, 7, 8] : List Int) 0).2.2)) rfl rfl ?_; intro a83 hF84; clear hF82
 refine gp hF84 21 0 [] (((psplitS ([1, 2, 3, 4, 5, 6, 7, 8] : List Int)).2) == 0) (.bool (((psendS ([1, 2, 3, 4, 5, 6, 7, 8] : List Int) 0).2.2) == 0)) rfl rfl ?_; intro a85 hF86; clear hF84
 refine st hF86 (.bool ((((psplitS ([1, 2, 3, 4, 5, 6, 7, 8] : List Int)).2) == 0) && (((psendS ([1, 2, 3, 4, 5, 6, 7, 8] : List Int) 0).2.2) == 0))) (nog rfl _) rfl (by kernel_rfl) (pk_and hF86 (g := []) (m := 0) (b := ((psplitS ([1, 2, 3, 4, 5, 6, 7, 8] : List Int)).2) == 0) (v := ((psendS ([1, 2, 3, 4, 5, 6, 7, 8] : List Int) 0).2.2) == 0) rfl (by kernel_rfl) (by kernel_rfl) (by kernel_rfl) rfl) ?_; intro a87 hF88; clear hF86
 refine s1 hF88 23 (.bool ((((psplitS ([1, 2, 3, 4, 5, 6, 7, 8] : List Int)).2) == 0) && (((psendS ([1, 2, 3, 4, 5, 6, 7, 8] : List Int) 0).2.2) == 0))) ?_; intro a89 hF90; clear hF88
 have hF91 := hF90.atom (((((psplitS ([1, 2, 3, 4, 5, 6, 7, 8] : List Int)).2) == 0) && (((psendS ([1, 2, 3, 4, 5, 6, 7, 8] : List Int) 0).2.2) == 0)) == true) (by kernel_rfl); clear hF90
 refine gp hF91 24 1 [] ((((psplitS ([1, 2, 3, 4, 5, 6, 7, 8] : List Int)).2) == 0) && (((psendS ([1, 2, 3, 4, 5, 6, 7, 8] : List Int) 0).2.2) == 0)) (.slice ao20 ((psplitS ([1, 2, 3, 4, 5, 6, 7, 8] : List Int)).1).length cap21) rfl rfl ?_; intro a92 hF93; clear hF91
 refine gp hF93 25 1 [] ((((psplitS ([1, 2, 3, 4, 5, 6, 7, 8] : List Int)).2) == 0) && (((psendS ([1, 2, 3, 4, 5, 6, 7, 8] : List Int) 0).2.2) == 0)) (.int .i64 (((psplitS ([1, 2, 3, 4, 5, 6, 7, 8] : List Int)).1).length : Int)) rfl rfl ?_; intro a94 hF95; clear hF93
 refine gp hF95 26 1 [] ((((psplitS ([1, 2, 3, 4, 5, 6, 7, 8] : List Int)).2) == 0) && (((psendS ([1, 2, 3, 4, 5, 6, 7, 8] : List Int) 0).2.2) == 0)) (.bool ((((psplitS ([1, 2, 3, 4, 5, 6, 7, 8] : List Int)).1).length : Int) == 2)) rfl rfl ?_; intro a96 hF97; clear hF95
 refine st hF97 (.bool (((((psplitS ([1, 2, 3, 4, 5, 6, 7, 8] : List Int)).2) == 0) && (((psendS ([1, 2, 3, 4, 5, 6, 7, 8] : List Int) 0).2.2) == 0)) && ((((psplitS ([1, 2, 3, 4, 5, 6, 7, 8] : List Int)).1).length : Int) == 2))) (nog rfl _) rfl (by kernel_rfl) (pk_and hF97 (g := []) (m := 1) (b := (((psplitS ([1, 2, 3, 4, 5, 6, 7, 8] : List Int)).2) == 0) && (((psendS ([1, 2, 3, 4, 5, 6, 7, 8] : List Int) 0).2.2) == 0)) (v := (((psplitS ([1, 2, 3, 4, 5, 6, 7, 8] : List Int)).1).length : Int) == 2) rfl (by kernel_rfl) (by kernel_rfl) (by kernel_rfl) rfl) ?_; intro a98 hF99; clear hF97
 refine s1 hF99 28 (.bool (((((psplitS ([1, 2, 3, 4, 5, 6, 7, 8] : List Int)).2) == 0) && (((psendS ([1, 2, 3, 4, 5, 6, 7, 8] : List Int) 0).2.2) == 0)) && ((((psplitS ([1, 2, 3, 4, 5, 6, 7, 8] : List Int)).1).length : Int) == 2))) ?_; intro a100 hF101; clear hF99
 have hF102 := hF101.atom ((((((psplitS ([1, 2, 3, 4, 5, 6, 7, 8] : List Int)).2) == 0) && (((psendS ([1, 2, 3, 4, 5, 6, 7, 8] : List Int) 0).2.2) == 0)) && ((((psplitS ([1, 2, 3, 4, 5, 6, 7, 8] : List Int)).1).length : Int) == 2)) == true) (by kernel_rfl); clear hF101
 refine gp hF102 29 2 [] (((((psplitS ([1, 2, 3, 4, 5, 6, 7, 8] : List Int)).2) == 0) && (((psendS ([1, 2, 3, 4, 5, 6, 7, 8] : List Int) 0).2.2) == 0)) && ((((psplitS ([1, 2, 3, 4, 5, 6, 7, 8] : List Int)).1).length : Int) == 2)) (.slice ao20 ((psplitS ([1, 2, 3, 4, 5, 6, 7, 8] : List Int)).1).length cap21) rfl rfl ?_; intro a103 hF104; clear hF102
 rcases Bool.eq_false_or_eq_true (((((psplitS ([1, 2, 3, 4, 5, 6, 7, 8] : List Int)).2) == 0) && (((psendS ([1, 2, 3, 4, 5, 6, 7, 8] : List Int) 0).2.2) == 0)) && ((((psplitS ([1, 2, 3, 4, 5, 6, 7, 8] : List Int)).1).length : Int) == 2)) with hb105 | hb105
 · -- true
  have hp106 := hp59.1 hb105; clear hp59
  have hF107 := hF104.reval (d := 28) (c := []) (v := .bool (((((psplitS ([1, 2, 3, 4, 5, 6, 7, 8] : List Int)).2) == 0) && (((psendS ([1, 2, 3, 4, 5, 6, 7, 8] : List Int) 0).2.2) == 0)) && ((((psplitS ([1, 2, 3, 4, 5, 6, 7, 8] : List Int)).1).length : Int) == 2))) (by kernel_rfl) (.bool true) (by rw [hb105]); clear hF104
  have hF108 := hF107.setc (d := 29) (c := [2]) (v := .slice ao20 ((psplitS ([1, 2, 3, 4, 5, 6, 7, 8] : List Int)).1).length cap21) (by kernel_rfl) (v' := .slice ao20 ((psplitS ([1, 2, 3, 4, 5, 6, 7, 8] : List Int)).1).length cap21) (by rw [hb105]; kernel_rfl); clear hF107
  have hc109 := hp106.1; have hp110 := hp106.2; clear hp106
  refine ixo hF108 hM58 1 (T := (tySl (tyInt .u8))) (xs := (psplitS ([1, 2, 3, 4, 5, 6, 7, 8] : List Int)).1) (1 : Int) hc109 (k := .i64) (e := 36) (bytes := 24) (by rw [wanted_of hF108 (b := true) rfl rfl (by kernel_rfl) (by kernel_rfl)]; rfl) rfl (by kernel_rfl) rfl (by kernel_rfl) (by kernel_rfl) rfl (by kernel_rfl) ?_; intro g111 a113 hg112 hF114; clear hF108
  subst hg112
  have hM116 : Mem w.heap.size [] w Z [.own (tyInt .u8) 5 ao54 cap55 ((psendS ([1, 2, 3, 4, 5, 6, 7, 8] : List Int) 0).1), .own (tySl (tyInt .u8)) 36 (some ⟨g111, 0, none⟩) cap21 ((psplitS ([1, 2, 3, 4, 5, 6, 7, 8] : List Int)).1)] Z56 wd50 := hM58; clear hM58
  obtain ⟨q117, hq118⟩ : ∃ q, ((psplitS ([1, 2, 3, 4, 5, 6, 7, 8] : List Int)).1)[(1 : Int).toNat]? = some q := ⟨_, List.getElem?_eq_getElem (by first | omega | (simp only [List.length_set] at *; omega))⟩; have hp119 := hp110 q117 hq118; clear hp110
  obtain ⟨cs120, hT121, hcl122⟩ := own_el hM116 1 (T := (tySl (tyInt .u8))) (xs := (psplitS ([1, 2, 3, 4, 5, 6, 7, 8] : List Int)).1) rfl (1 : Int).toNat hq118
  obtain ⟨ao123, cap124, rfl, hs125⟩ := hT121
  have hp126 := hp119 (hs125.small); clear hp119
  refine lc1 hF114 31 (.slice ao123 q117.length cap124) (hcl122 0 _ rfl) rfl ?_ (hw := (by rw [wanted_of hF114 (b := true) rfl rfl (by kernel_rfl) (by kernel_rfl)]; rfl)); intro a127 hF128; clear hF114
  refine sn hF128 hM116 (fun b => .slice (some ⟨b, 0, none⟩) 3 3) [.int .u8 33, .int .u8 7, .int .u8 8] 5 (by rw [wanted_of hF128 (b := true) rfl rfl (by kernel_rfl) (by kernel_rfl)]; rfl) rfl (by kernel_rfl) (by kernel_rfl) ?_; intro b129 a130 wd132 hF131 hM133; clear hF128 hM116
  have hM134 : Mem w.heap.size [] w Z [.own (tyInt .u8) 5 (some ⟨b129, 0, none⟩) 3 ([33, 7, 8] : List Int), .own (tyInt .u8) 5 ao54 cap55 ((psendS ([1, 2, 3, 4, 5, 6, 7, 8] : List Int) 0).1), .own (tySl (tyInt .u8)) 36 (some ⟨g111, 0, none⟩) cap21 ((psplitS ([1, 2, 3, 4, 5, 6, 7, 8] : List Int)).1)] Z56 wd132 := hM133.rowOwn (T := (tyInt .u8)) (xs := ([33, 7, 8] : List Int)) 0 rfl (by decide) (by show 3 ≤ lim; decide) ((RepAll.one (T := (tyInt .u8)) (x := 33) rfl).append ((RepAll.one (T := (tyInt .u8)) (x := 7) rfl).append (RepAll.one (T := (tyInt .u8)) (x := 8) rfl))); clear hM133
  obtain ⟨Z135, hle136, hM137, hs138⟩ := hM134.freeze 0 rfl
  replace hs14 := hs14.mono hle136
  replace hs46 := hs46.mono hle136
  replace hs125 := hs125.mono hle136
  replace hle0 := Fz.le.trans hle0 hle136
  have hM139 : Mem w.heap.size [] w Z [.own (tyInt .u8) 5 ao54 cap55 ((psendS ([1, 2, 3, 4, 5, 6, 7, 8] : List Int) 0).1), .own (tySl (tyInt .u8)) 36 (some ⟨g111, 0, none⟩) cap21 ((psplitS ([1, 2, 3, 4, 5, 6, 7, 8] : List Int)).1)] Z135 wd132 := hM137; clear hM137
  refine fcl hF131 hM139 (.bool (beqS q117 ([33, 7, 8] : List Int))) 37 #[.slice ao123 q117.length cap124, .slice (some ⟨b129, 0, none⟩) ([33, 7, 8] : List Int).length 3] (by rw [wanted_of hF131 (b := true) rfl rfl (by kernel_rfl) (by kernel_rfl)]; rfl) rfl (by kernel_rfl) (fun _ => by kernel_rfl) (beq_fun q117 ([33, 7, 8] : List Int) ao123 cap124 (some ⟨b129, 0, none⟩) 3 _ _ hs125 hs138 hM139.fz) ?_; intro a140 wd142 hF141 hM143; clear hF131 hM139
  refine s1 hF141 34 (.bool (beqS q117 ([33, 7, 8] : List Int))) ?_; intro a144 hF145; clear hF141
  refine s1 hF145 35 (.bool (beqS q117 ([33, 7, 8] : List Int))) ?_; intro a146 hF147; clear hF145
  have hF148 := hF147.atom ((beqS q117 ([33, 7, 8] : List Int)) == true) (by kernel_rfl); clear hF147
  refine gp hF148 36 3 [] ((beqS q117 ([33, 7, 8] : List Int))) (.slice ao54 ((psendS ([1, 2, 3, 4, 5, 6, 7, 8] : List Int) 0).1).length cap55) rfl rfl ?_; intro a149 hF150; clear hF148
  rcases Bool.eq_false_or_eq_true ((beqS q117 ([33, 7, 8] : List Int))) with hb151 | hb151
  · -- true
   have hp152 := hp126.1 hb151; clear hp126
   have hF153 := hF150.reval (d := 35) (c := []) (v := .bool (beqS q117 ([33, 7, 8] : List Int))) (by kernel_rfl) (.bool true) (by rw [hb151]); clear hF150
   have hF154 := hF153.setc (d := 36) (c := [3]) (v := .slice ao54 ((psendS ([1, 2, 3, 4, 5, 6, 7, 8] : List Int) 0).1).length cap55) (by kernel_rfl) (v' := .slice ao54 ((psendS ([1, 2, 3, 4, 5, 6, 7, 8] : List Int) 0).1).length cap55) (by rw [hb151]; kernel_rfl); clear hF153
   refine sn hF154 hM143 (fun b => .slice (some ⟨b, 0, none⟩) 8 8) [.int .u8 1, .int .u8 2, .int .u8 3, .int .u8 4, .int .u8 5, .int .u8 6, .int .u8 7, .int .u8 8] 5 (by rw [wanted_of hF154 (b := true) rfl rfl (by kernel_rfl) (by kernel_rfl)]; rfl) rfl (by kernel_rfl) (by kernel_rfl) ?_; intro b155 a156 wd158 hF157 hM159; clear hF154 hM143
   obtain ⟨Z160, hle161, hM162, hs163⟩ := hM159.freeze 1 rfl
   replace hs14 := hs14.mono hle161
   replace hs46 := hs46.mono hle161
   replace hs125 := hs125.mono hle161
   replace hs138 := hs138.mono hle161
   replace hle0 := Fz.le.trans hle0 hle161
   have hM164 : Mem w.heap.size [] w Z [.row b155 [.int .u8 1, .int .u8 2, .int .u8 3, .int .u8 4, .int .u8 5, .int .u8 6, .int .u8 7, .int .u8 8] 5, .own (tySl (tyInt .u8)) 36 (some ⟨g111, 0, none⟩) cap21 ((psplitS ([1, 2, 3, 4, 5, 6, 7, 8] : List Int)).1)] Z160 wd158 := hM162; clear hM162
   have hM165 : Mem w.heap.size [] w Z [.own (tyInt .u8) 5 (some ⟨b155, 0, none⟩) 8 ([1, 2, 3, 4, 5, 6, 7, 8] : List Int), .own (tySl (tyInt .u8)) 36 (some ⟨g111, 0, none⟩) cap21 ((psplitS ([1, 2, 3, 4, 5, 6, 7, 8] : List Int)).1)] Z160 wd158 := hM164.rowOwn (T := (tyInt .u8)) (xs := ([1, 2, 3, 4, 5, 6, 7, 8] : List Int)) 0 rfl (by decide) (by show 8 ≤ lim; decide) ((RepAll.one (T := (tyInt .u8)) (x := 1) rfl).append ((RepAll.one (T := (tyInt .u8)) (x := 2) rfl).append ((RepAll.one (T := (tyInt .u8)) (x := 3) rfl).append ((RepAll.one (T := (tyInt .u8)) (x := 4) rfl).append ((RepAll.one (T := (tyInt .u8)) (x := 5) rfl).append ((RepAll.one (T := (tyInt .u8)) (x := 6) rfl).append ((RepAll.one (T := (tyInt .u8)) (x := 7) rfl).append (RepAll.one (T := (tyInt .u8)) (x := 8) rfl)))))))); clear hM164
   obtain ⟨Z166, hle167, hM168, hs169⟩ := hM165.freeze 0 rfl
   replace hs14 := hs14.mono hle167
   replace hs46 := hs46.mono hle167
   replace hs125 := hs125.mono hle167
   replace hs138 := hs138.mono hle167
   replace hs163 := hs163.mono hle167
   replace hle0 := Fz.le.trans hle0 hle167
   have hM170 : Mem w.heap.size [] w Z [.own (tySl (tyInt .u8)) 36 (some ⟨g111, 0, none⟩) cap21 ((psplitS ([1, 2, 3, 4, 5, 6, 7, 8] : List Int)).1)] Z166 wd158 := hM168; clear hM168
   refine fcl hF157 hM170 (.bool (beqS ((psendS ([1, 2, 3, 4, 5, 6, 7, 8] : List Int) 0).1) ([1, 2, 3, 4, 5, 6, 7, 8] : List Int))) 37 #[.slice ao54 ((psendS ([1, 2, 3, 4, 5, 6, 7, 8] : List Int) 0).1).length cap55, .slice (some ⟨b155, 0, none⟩) ([1, 2, 3, 4, 5, 6, 7, 8] : List Int).length 8] (by rw [wanted_of hF157 (b := true) rfl rfl (by kernel_rfl) (by kernel_rfl)]; rfl) rfl (by kernel_rfl) (fun _ => by kernel_rfl) (beq_fun ((psendS ([1, 2, 3, 4, 5, 6, 7, 8] : List Int) 0).1) ([1, 2, 3, 4, 5, 6, 7, 8] : List Int) ao54 cap55 (some ⟨b155, 0, none⟩) 8 _ _ hs163 hs169 hM170.fz) ?_; intro a171 wd173 hF172 hM174; clear hF157 hM170
   refine s1 hF172 39 (.bool (beqS ((psendS ([1, 2, 3, 4, 5, 6, 7, 8] : List Int) 0).1) ([1, 2, 3, 4, 5, 6, 7, 8] : List Int))) ?_; intro a175 hF176; clear hF172
   refine s1 hF176 40 (.bool (beqS ((psendS ([1, 2, 3, 4, 5, 6, 7, 8] : List Int) 0).1) ([1, 2, 3, 4, 5, 6, 7, 8] : List Int))) ?_; intro a177 hF178; clear hF176
   have hF179 := hF178.atom ((beqS ((psendS ([1, 2, 3, 4, 5, 6, 7, 8] : List Int) 0).1) ([1, 2, 3, 4, 5, 6, 7, 8] : List Int)) == true) (by kernel_rfl); clear hF178
   refine gp hF179 41 4 [] ((beqS ((psendS ([1, 2, 3, 4, 5, 6, 7, 8] : List Int) 0).1) ([1, 2, 3, 4, 5, 6, 7, 8] : List Int))) (.int .i64 ((psendS ([1, 2, 3, 4, 5, 6, 7, 8] : List Int) 0).2.1)) rfl rfl ?_; intro a180 hF181; clear hF179
   refine gp hF181 42 4 [] ((beqS ((psendS ([1, 2, 3, 4, 5, 6, 7, 8] : List Int) 0).1) ([1, 2, 3, 4, 5, 6, 7, 8] : List Int))) (.bool (((psendS ([1, 2, 3, 4, 5, 6, 7, 8] : List Int) 0).2.1) == 3)) rfl rfl ?_; intro a182 hF183; clear hF181
   refine st hF183 (.bool ((beqS ((psendS ([1, 2, 3, 4, 5, 6, 7, 8] : List Int) 0).1) ([1, 2, 3, 4, 5, 6, 7, 8] : List Int)) && (((psendS ([1, 2, 3, 4, 5, 6, 7, 8] : List Int) 0).2.1) == 3))) (nog rfl _) rfl (by kernel_rfl) (pk_and hF183 (g := []) (m := 4) (b := (beqS ((psendS ([1, 2, 3, 4, 5, 6, 7, 8] : List Int) 0).1) ([1, 2, 3, 4, 5, 6, 7, 8] : List Int))) (v := ((psendS ([1, 2, 3, 4, 5, 6, 7, 8] : List Int) 0).2.1) == 3) rfl (by kernel_rfl) (by kernel_rfl) (by kernel_rfl) rfl) ?_; intro a184 hF185; clear hF183
   refine s1 hF185 0 (.bool ((beqS ((psendS ([1, 2, 3, 4, 5, 6, 7, 8] : List Int) 0).1) ([1, 2, 3, 4, 5, 6, 7, 8] : List Int)) && (((psendS ([1, 2, 3, 4, 5, 6, 7, 8] : List Int) 0).2.1) == 3))) ?_; intro a186 hF187; clear hF185
   refine nlH (hQ75 _ _ ?_); clear hQ75 hQ75Q
   refine wp_ret ?_
   refine rt (fn := Try.f33) (v := .bool ((beqS ((psendS ([1, 2, 3, 4, 5, 6, 7, 8] : List Int) 0).1) ([1, 2, 3, 4, 5, 6, 7, 8] : List Int)) && (((psendS ([1, 2, 3, 4, 5, 6, 7, 8] : List Int) 0).2.1) == 3))) hF187 (re1 hF187 (fn := Try.f33) rfl (by kernel_rfl)) ?_
   exact ⟨(beqS ((psendS ([1, 2, 3, 4, 5, 6, 7, 8] : List Int) 0).1) ([1, 2, 3, 4, 5, 6, 7, 8] : List Int)) && (((psendS ([1, 2, 3, 4, 5, 6, 7, 8] : List Int) 0).2.1) == 3), rfl, hp152, hM174.below⟩
  · -- false
   have hp188 := hp126.2 hb151; clear hp126
   have hF189 := hF150.reval (d := 35) (c := []) (v := .bool (beqS q117 ([33, 7, 8] : List Int))) (by kernel_rfl) (.bool false) (by rw [hb151]); clear hF150
   have hF190 := hF189.setc (d := 36) (c := [3]) (v := .slice ao54 ((psendS ([1, 2, 3, 4, 5, 6, 7, 8] : List Int) 0).1).length cap55) (by kernel_rfl) (v' := undef) (by rw [hb151]; kernel_rfl); clear hF189
   refine sk hF190 (b := false) rfl rfl (by kernel_rfl) (by kernel_rfl) rfl rfl (by kernel_rfl) ?_; intro a191 hF192; clear hF190
   refine sk hF192 (b := false) rfl rfl (by kernel_rfl) (by kernel_rfl) rfl rfl (by kernel_rfl) ?_; intro a193 hF194; clear hF192
   refine s1 hF194 39 (.bool false) ?_; intro a195 hF196; clear hF194
   refine s1 hF196 40 (.bool false) ?_; intro a197 hF198; clear hF196
   refine sk hF198 (b := false) rfl rfl (by kernel_rfl) (by kernel_rfl) rfl rfl (by kernel_rfl) ?_; intro a199 hF200; clear hF198
   refine sk hF200 (b := false) rfl rfl (by kernel_rfl) (by kernel_rfl) rfl rfl (by kernel_rfl) ?_; intro a201 hF202; clear hF200
   refine s1 hF202 43 (.bool false) ?_; intro a203 hF204; clear hF202
   refine s1 hF204 0 (.bool false) ?_; intro a205 hF206; clear hF204
   refine nlH (hQ75 _ _ ?_); clear hQ75 hQ75Q
   refine wp_ret ?_
   refine rt (fn := Try.f33) (v := .bool false) hF206 (re1 hF206 (fn := Try.f33) rfl (by kernel_rfl)) ?_
   exact ⟨false, rfl, hp188, hM143.below⟩
 · -- false
  have hp207 := hp59.2 hb105; clear hp59
  have hF208 := hF104.reval (d := 28) (c := []) (v := .bool (((((psplitS ([1, 2, 3, 4, 5, 6, 7, 8] : List Int)).2) == 0) && (((psendS ([1, 2, 3, 4, 5, 6, 7, 8] : List Int) 0).2.2) == 0)) && ((((psplitS ([1, 2, 3, 4, 5, 6, 7, 8] : List Int)).1).length : Int) == 2))) (by kernel_rfl) (.bool false) (by rw [hb105]); clear hF104
  have hF209 := hF208.setc (d := 29) (c := [2]) (v := .slice ao20 ((psplitS ([1, 2, 3, 4, 5, 6, 7, 8] : List Int)).1).length cap21) (by kernel_rfl) (v' := undef) (by rw [hb105]; kernel_rfl); clear hF208
  refine sk hF209 (b := false) rfl rfl (by kernel_rfl) (by kernel_rfl) rfl rfl (by kernel_rfl) ?_; intro a210 hF211; clear hF209
  refine sk hF211 (b := false) rfl rfl (by kernel_rfl) (by kernel_rfl) rfl rfl (by kernel_rfl) ?_; intro a212 hF213; clear hF211
  refine sk hF213 (b := false) rfl rfl (by kernel_rfl) (by kernel_rfl) rfl rfl (by kernel_rfl) ?_; intro a214 hF215; clear hF213
  refine sk hF215 (b := false) rfl rfl (by kernel_rfl) (by kernel_rfl) rfl rfl (by kernel_rfl) ?_; intro a216 hF217; clear hF215
  refine s1 hF217 34 (.bool false) ?_; intro a218 hF219; clear hF217
  refine s1 hF219 35 (.bool false) ?_; intro a220 hF221; clear hF219
  refine sk hF221 (b := false) rfl rfl (by kernel_rfl) (by kernel_rfl) rfl rfl (by kernel_rfl) ?_; intro a222 hF223; clear hF221
  refine sk hF223 (b := false) rfl rfl (by kernel_rfl) (by kernel_rfl) rfl rfl (by kernel_rfl) ?_; intro a224 hF225; clear hF223
  refine sk hF225 (b := false) rfl rfl (by kernel_rfl) (by kernel_rfl) rfl rfl (by kernel_rfl) ?_; intro a226 hF227; clear hF225
  refine s1 hF227 39 (.bool false) ?_; intro a228 hF229; clear hF227
  refine s1 hF229 40 (.bool false) ?_; intro a230 hF231; clear hF229
  refine sk hF231 (b := false) rfl rfl (by kernel_rfl) (by kernel_rfl) rfl rfl (by kernel_rfl) ?_; intro a232 hF233; clear hF231
  refine sk hF233 (b := false) rfl rfl (by kernel_rfl) (by kernel_rfl) rfl rfl (by kernel_rfl) ?_; intro a234 hF235; clear hF233
  refine s1 hF235 43 (.bool false) ?_; intro a236 hF237; clear hF235
  refine s1 hF237 0 (.bool false) ?_; intro a238 hF239; clear hF237
  refine nlH (hQ75 _ _ ?_); clear hQ75 hQ75Q
  refine wp_ret ?_
  refine rt (fn := Try.f33) (v := .bool false) hF239 (re1 hF239 (fn := Try.f33) rfl (by kernel_rfl)) ?_
  exact ⟨false, rfl, hp207, hM58.below⟩

end Go.Proofs.Ytkogkombalcgeaa
