/- The walks, made by program: each call does what its pure predicate says. -/
import Derived.Test.YtdndfbamhnchfaaDoorPG
import Derived.Test.YtdndfbamhnchfaaDoorWF
set_option linter.unusedVariables false
set_option linter.unusedSimpArgs false
namespace Go.Proofs.YtdndfbamhnchfaaDoor
open Go.Sy Go.RowKit
theorem sover_fun (u0 : Signal) (u1 : Signal)  (Z : Fz) (w : World)  (hZ : Z.on w) : Calls Tryd.prog 22 #[.agg #[str u0.Name, .int .i64 u0.Start, .int .i64 u0.Size, .bool u0.Back, .bool u0.Signed, .int .i64 u0.Mul, .int .i64 u0.Div, .int .i64 u0.Add, .int .i64 u0.Key], .agg #[str u1.Name, .int .i64 u1.Start, .int .i64 u1.Size, .bool u1.Back, .bool u1.Signed, .int .i64 u1.Mul, .int .i64 u1.Div, .int .i64 u1.Add, .int .i64 u1.Key]] w fun e w' => e = .returned (.bool (overS u0 u1)) ∧ Below w.heap.size w w' :=
  (sover_walk u0 u1  Z w  hZ (sover_ok u0 u1)).mono fun _ _ ⟨r, he, hk, hb⟩ => ⟨by subst hk; exact he, hb⟩

set_option maxRecDepth 100000 in
set_option maxHeartbeats 0 in
theorem speed_walk   (Z : Fz) (w : World)  (hZ : Z.on w) {K : Signal → Prop} (hp : speed_vc  K) : Calls Tryd.prog 38 #[] w fun e w' => ∃ r : Signal, e = .returned (.agg #[str r.Name, .int .i64 r.Start, .int .i64 r.Size, .bool r.Back, .bool r.Signed, .int .i64 r.Mul, .int .i64 r.Div, .int .i64 r.Add, .int .i64 r.Key]) ∧ K r ∧ Below w.heap.size w w' := by
 refine enter0 Tryd.func38 rfl rfl (by kernel_rfl) ?_; intro a0 hF0; have hM0 := Mem.start w Z hZ; have hle0 := Fz.le.refl Z
 refine sqH ?_; intro hQ1Q hQ1
 refine sn hF0 hM0 (fun b => .pointer (some ⟨b, 0, none⟩)) [str [], .int .i64 0, .int .i64 0, .bool false, .bool false, .int .i64 0, .int .i64 0, .int .i64 0, .int .i64 0] 23 (nog rfl _) rfl (by kernel_rfl) (by kernel_rfl) ?_; intro b2 a3 wd5 hF4 hM6; clear hF0 hM0
 refine nlH (hQ1 _ _ ?_); clear hQ1 hQ1Q
 refine sqH ?_; intro hQ7Q hQ7
 refine s1 hF4 1 (.agg #[str ([115, 112, 101, 101, 100] : List UInt8), .int .i64 8, .int .i64 16, .bool false, .bool false, .int .i64 1, .int .i64 10, .int .i64 0, .int .i64 (-1)]) ?_; intro a8 hF9; clear hF4
 refine sr hF9 hM6 0 [str ([115, 112, 101, 101, 100] : List UInt8), .int .i64 8, .int .i64 16, .bool false, .bool false, .int .i64 1, .int .i64 10, .int .i64 0, .int .i64 (-1)] (b := b2) (off := 0) (cs := [str [], .int .i64 0, .int .i64 0, .bool false, .bool false, .int .i64 0, .int .i64 0, .int .i64 0, .int .i64 0]) (ty := 23) (u := .agg #[str ([115, 112, 101, 101, 100] : List UInt8), .int .i64 8, .int .i64 16, .bool false, .bool false, .int .i64 1, .int .i64 10, .int .i64 0, .int .i64 (-1)]) (nog rfl _) rfl rfl (by kernel_rfl) (by kernel_rfl) (by kernel_rfl) (by kernel_rfl) (by kernel_rfl) (by kernel_rfl) (by kernel_rfl) ?_; intro wd10 hM11; clear hM6
 have hM12 : Mem w.heap.size [] w Z [.row b2 [str ([115, 112, 101, 101, 100] : List UInt8), .int .i64 8, .int .i64 16, .bool false, .bool false, .int .i64 1, .int .i64 10, .int .i64 0, .int .i64 (-1)] 23] Z wd10 := hM11; clear hM11
 refine nlH (hQ7 _ _ ?_); clear hQ7 hQ7Q
 refine wp_ret ?_
 refine rt (fn := Tryd.f38) (v := .agg #[str ([115, 112, 101, 101, 100] : List UInt8), .int .i64 8, .int .i64 16, .bool false, .bool false, .int .i64 1, .int .i64 10, .int .i64 0, .int .i64 (-1)]) hF9 (re1c hF9 (fn := Tryd.f38) rfl (ad := ⟨b2, 0, none⟩) (by kernel_rfl) (loadVar_run hM12 0 (b := b2) (k := 9) (vs := [str ([115, 112, 101, 101, 100] : List UInt8), .int .i64 8, .int .i64 16, .bool false, .bool false, .int .i64 1, .int .i64 10, .int .i64 0, .int .i64 (-1)]) (ty := 23) rfl (by kernel_rfl) (by kernel_rfl)) ) ?_
 exact ⟨(⟨([115, 112, 101, 101, 100] : List UInt8), 8, 16, false, false, 1, 10, 0, -1⟩ : Signal), rfl, hp, hM12.below⟩
theorem speed_fun   (Z : Fz) (w : World)  (hZ : Z.on w) : Calls Tryd.prog 38 #[] w fun e w' => e = .returned (.agg #[str speed.Name, .int .i64 speed.Start, .int .i64 speed.Size, .bool speed.Back, .bool speed.Signed, .int .i64 speed.Mul, .int .i64 speed.Div, .int .i64 speed.Add, .int .i64 speed.Key]) ∧ Below w.heap.size w w' :=
  (speed_walk   Z w  hZ (speed_ok )).mono fun _ _ ⟨r, he, hk, hb⟩ => ⟨by subst hk; exact he, hb⟩

set_option maxRecDepth 100000 in
set_option maxHeartbeats 0 in
theorem signalled_walk   (Z : Fz) (w : World)  (hZ : Z.on w) {K : Bool → Prop} (hp : signalled_vc  K) : Calls Tryd.prog 9 #[] w fun e w' => ∃ r : Bool, e = .returned (.bool r) ∧ K r ∧ Below w.heap.size w w' := by
 refine enter0 Tryd.func9 rfl rfl (by kernel_rfl) ?_; intro a0 hF0; have hM0 := Mem.start w Z hZ; have hle0 := Fz.le.refl Z
 refine sqH ?_; intro hQ1Q hQ1
 refine s1 hF0 0 (.bool false) ?_; intro a2 hF3; clear hF0
 refine nlH (hQ1 _ _ ?_); clear hQ1 hQ1Q
 refine sqH ?_; intro hQ4Q hQ4
 refine fcl hF3 hM0 (.agg #[str speed.Name, .int .i64 speed.Start, .int .i64 speed.Size, .bool speed.Back, .bool speed.Signed, .int .i64 speed.Mul, .int .i64 speed.Div, .int .i64 speed.Add, .int .i64 speed.Key]) 38 #[] (nog rfl _) rfl (by kernel_rfl) (fun _ => by kernel_rfl) (speed_fun  _ _ hM0.fz) ?_; intro a5 wd7 hF6 hM8; clear hF3 hM0
 refine sn hF6 hM8 (fun b => .slice (some ⟨b, 0, none⟩) 3 3) [.int .u8 0, .int .u8 44, .int .u8 1] 5 (nog rfl _) rfl (by kernel_rfl) (by kernel_rfl) ?_; intro b9 a10 wd12 hF11 hM13; clear hF6 hM8
 have hM14 : Mem w.heap.size [] w Z [.own (tyInt .u8) 5 (some ⟨b9, 0, none⟩) 3 ([0, 44, 1] : List Int)] Z wd12 := hM13.rowOwn (T := (tyInt .u8)) (xs := ([0, 44, 1] : List Int)) 0 rfl (by decide) (by show 3 ≤ lim; decide) ((RepAll.one (T := (tyInt .u8)) (x := 0) rfl).append ((RepAll.one (T := (tyInt .u8)) (x := 44) rfl).append (RepAll.one (T := (tyInt .u8)) (x := 1) rfl))); clear hM13
 obtain ⟨Z15, hle16, hM17, hs18⟩ := hM14.freeze 0 rfl
 replace hle0 := Fz.le.trans hle0 hle16
 have hM19 : Mem w.heap.size [] w Z [] Z15 wd12 := hM17; clear hM17
 have hc20 := hp.1; have hp21 := hp.2; clear hp
 refine fcl hF11 hM19 (.tuple #[.int .i64 ((sreadS speed ([0, 44, 1] : List Int)).1), .agg #[str (((sreadS speed ([0, 44, 1] : List Int)).2.1).Name), .int .i64 (((sreadS speed ([0, 44, 1] : List Int)).2.1).Num), .int .i64 (((sreadS speed ([0, 44, 1] : List Int)).2.1).Den)], .int .i64 ((sreadS speed ([0, 44, 1] : List Int)).2.2)]) 7 #[.agg #[str speed.Name, .int .i64 speed.Start, .int .i64 speed.Size, .bool speed.Back, .bool speed.Signed, .int .i64 speed.Mul, .int .i64 speed.Div, .int .i64 speed.Add, .int .i64 speed.Key], .slice (some ⟨b9, 0, none⟩) ([0, 44, 1] : List Int).length 3] (nog rfl _) rfl (by kernel_rfl) (fun _ => by kernel_rfl) (sread_fun speed ([0, 44, 1] : List Int) hc20 (some ⟨b9, 0, none⟩) 3 _ _ hs18 hM19.fz) ?_; intro a22 wd24 hF23 hM25; clear hF11 hM19
 refine s1 hF23 6 (.tuple #[.int .i64 ((sreadS speed ([0, 44, 1] : List Int)).1), .agg #[str (((sreadS speed ([0, 44, 1] : List Int)).2.1).Name), .int .i64 (((sreadS speed ([0, 44, 1] : List Int)).2.1).Num), .int .i64 (((sreadS speed ([0, 44, 1] : List Int)).2.1).Den)], .int .i64 ((sreadS speed ([0, 44, 1] : List Int)).2.2)]) ?_; intro a26 hF27; clear hF23
 refine s1 hF27 10 (.int .i64 ((sreadS speed ([0, 44, 1] : List Int)).1)) ?_; intro a28 hF29; clear hF27
 refine s1 hF29 11 (.agg #[str (((sreadS speed ([0, 44, 1] : List Int)).2.1).Name), .int .i64 (((sreadS speed ([0, 44, 1] : List Int)).2.1).Num), .int .i64 (((sreadS speed ([0, 44, 1] : List Int)).2.1).Den)]) ?_; intro a30 hF31; clear hF29
 refine s1 hF31 12 (.int .i64 ((sreadS speed ([0, 44, 1] : List Int)).2.2)) ?_; intro a32 hF33; clear hF31
 refine sn hF33 hM25 (fun b => .pointer (some ⟨b, 0, none⟩)) [str [], .int .i64 0, .int .i64 0] 26 (nog rfl _) rfl (by kernel_rfl) (by kernel_rfl) ?_; intro b34 a35 wd37 hF36 hM38; clear hF33 hM25
 refine s1 hF36 1 (.int .i64 ((sreadS speed ([0, 44, 1] : List Int)).1)) ?_; intro a39 hF40; clear hF36
 refine sr hF40 hM38 0 [str (((sreadS speed ([0, 44, 1] : List Int)).2.1).Name), .int .i64 (((sreadS speed ([0, 44, 1] : List Int)).2.1).Num), .int .i64 (((sreadS speed ([0, 44, 1] : List Int)).2.1).Den)] (b := b34) (off := 0) (cs := [str [], .int .i64 0, .int .i64 0]) (ty := 26) (u := .agg #[str (((sreadS speed ([0, 44, 1] : List Int)).2.1).Name), .int .i64 (((sreadS speed ([0, 44, 1] : List Int)).2.1).Num), .int .i64 (((sreadS speed ([0, 44, 1] : List Int)).2.1).Den)]) (nog rfl _) rfl rfl (by kernel_rfl) (by kernel_rfl) (by kernel_rfl) (by kernel_rfl) (by kernel_rfl) (by kernel_rfl) (by kernel_rfl) ?_; intro wd41 hM42; clear hM38
 refine s1 hF40 3 (.int .i64 ((sreadS speed ([0, 44, 1] : List Int)).2.2)) ?_; intro a43 hF44; clear hF40
 have hM45 : Mem w.heap.size [] w Z [.row b34 [str (((sreadS speed ([0, 44, 1] : List Int)).2.1).Name), .int .i64 (((sreadS speed ([0, 44, 1] : List Int)).2.1).Num), .int .i64 (((sreadS speed ([0, 44, 1] : List Int)).2.1).Den)] 26] Z15 wd41 := hM42; clear hM42
 refine nlH (hQ4 _ _ ?_); clear hQ4 hQ4Q
 refine sqH ?_; intro hQ46Q hQ46
 refine fcl hF44 hM45 (.agg #[str speed.Name, .int .i64 speed.Start, .int .i64 speed.Size, .bool speed.Back, .bool speed.Signed, .int .i64 speed.Mul, .int .i64 speed.Div, .int .i64 speed.Add, .int .i64 speed.Key]) 38 #[] (nog rfl _) rfl (by kernel_rfl) (fun _ => by kernel_rfl) (speed_fun  _ _ hM45.fz) ?_; intro a47 wd49 hF48 hM50; clear hF44 hM45
 refine sn hF48 hM50 (fun b => .slice (some ⟨b, 0, none⟩) 3 3) [.int .u8 9, .int .u8 0, .int .u8 0] 5 (nog rfl _) rfl (by kernel_rfl) (by kernel_rfl) ?_; intro b51 a52 wd54 hF53 hM55; clear hF48 hM50
 have hM56 : Mem w.heap.size [] w Z [.own (tyInt .u8) 5 (some ⟨b51, 0, none⟩) 3 ([9, 0, 0] : List Int), .row b34 [str (((sreadS speed ([0, 44, 1] : List Int)).2.1).Name), .int .i64 (((sreadS speed ([0, 44, 1] : List Int)).2.1).Num), .int .i64 (((sreadS speed ([0, 44, 1] : List Int)).2.1).Den)] 26] Z15 wd54 := hM55.rowOwn (T := (tyInt .u8)) (xs := ([9, 0, 0] : List Int)) 0 rfl (by decide) (by show 3 ≤ lim; decide) ((RepAll.one (T := (tyInt .u8)) (x := 9) rfl).append ((RepAll.one (T := (tyInt .u8)) (x := 0) rfl).append (RepAll.one (T := (tyInt .u8)) (x := 0) rfl))); clear hM55
 obtain ⟨Z57, hle58, hM59, hs60⟩ := hM56.freeze 0 rfl
 replace hs18 := hs18.mono hle58
 replace hle0 := Fz.le.trans hle0 hle58
 have hM61 : Mem w.heap.size [] w Z [.row b34 [str (((sreadS speed ([0, 44, 1] : List Int)).2.1).Name), .int .i64 (((sreadS speed ([0, 44, 1] : List Int)).2.1).Num), .int .i64 (((sreadS speed ([0, 44, 1] : List Int)).2.1).Den)] 26] Z57 wd54 := hM59; clear hM59
 have hc62 := hp21.1; have hp63 := hp21.2; clear hp21
 refine cl hF53 14 #[.agg #[str speed.Name, .int .i64 speed.Start, .int .i64 speed.Size, .bool speed.Back, .bool speed.Signed, .int .i64 speed.Mul, .int .i64 speed.Div, .int .i64 speed.Add, .int .i64 speed.Key], .slice (some ⟨b51, 0, none⟩) ([9, 0, 0] : List Int).length 3, .int .i64 30, .int .i64 1] (nog rfl _) rfl (by kernel_rfl) (by kernel_rfl) ?_
 refine (swrite_fun speed ([9, 0, 0] : List Int) 30 1 hc62 (some ⟨b51, 0, none⟩) 3 _ _ hs60 hM61.fz).mono ?_; rintro _ wd64 ⟨ao68, cap69, Z70, rfl, hm⟩; refine ⟨_, rfl, ?_⟩; intro a65 hF66; have hM67 := hM61.callZ hm; have hle71 := hm.ext.le; clear hm hM61 hF53
 replace hs18 := hs18.mono hle71
 replace hs60 := hs60.mono hle71
 replace hle0 := Fz.le.trans hle0 hle71
 have hM72 : Mem w.heap.size [] w Z [.own (tyInt .u8) 5 ao68 cap69 ((swriteS speed ([9, 0, 0] : List Int) 30 1).1), .row b34 [str (((sreadS speed ([0, 44, 1] : List Int)).2.1).Name), .int .i64 (((sreadS speed ([0, 44, 1] : List Int)).2.1).Num), .int .i64 (((sreadS speed ([0, 44, 1] : List Int)).2.1).Den)] 26] Z70 wd64 := hM67; clear hM67
 have hp73 := hp63 (hM72.ownSmall 0 rfl); clear hp63
 refine s1 hF66 13 (.tuple #[.slice ao68 ((swriteS speed ([9, 0, 0] : List Int) 30 1).1).length cap69, .int .i64 ((swriteS speed ([9, 0, 0] : List Int) 30 1).2)]) ?_; intro a74 hF75; clear hF66
 refine s1 hF75 17 (.slice ao68 ((swriteS speed ([9, 0, 0] : List Int) 30 1).1).length cap69) ?_; intro a76 hF77; clear hF75
 refine s1 hF77 18 (.int .i64 ((swriteS speed ([9, 0, 0] : List Int) 30 1).2)) ?_; intro a78 hF79; clear hF77
 refine s1 hF79 4 (.slice ao68 ((swriteS speed ([9, 0, 0] : List Int) 30 1).1).length cap69) ?_; intro a80 hF81; clear hF79
 refine s1 hF81 5 (.int .i64 ((swriteS speed ([9, 0, 0] : List Int) 30 1).2)) ?_; intro a82 hF83; clear hF81
 refine nlH (hQ46 _ _ ?_); clear hQ46 hQ46Q
 have hF84 : Fr 39 [] [⟨1, [], .int .i64 ((sreadS speed ([0, 44, 1] : List Int)).1)⟩, ⟨2, [], .pointer (some ⟨b34, 0, none⟩)⟩, ⟨3, [], .int .i64 ((sreadS speed ([0, 44, 1] : List Int)).2.2)⟩, ⟨4, [], .slice ao68 ((swriteS speed ([9, 0, 0] : List Int) 30 1).1).length cap69⟩, ⟨5, [], .int .i64 ((swriteS speed ([9, 0, 0] : List Int) 30 1).2)⟩] a82 := hF83.region (by kernel_rfl) (by kernel_rfl); clear hF83
 refine sqH ?_; intro hQ85Q hQ85
 refine s1 hF84 19 (.int .i64 ((sreadS speed ([0, 44, 1] : List Int)).2.2)) ?_; intro a86 hF87; clear hF84
 refine s1 hF87 20 (.bool (((sreadS speed ([0, 44, 1] : List Int)).2.2) == 0)) ?_; intro a88 hF89; clear hF87
 refine s1 hF89 21 (.bool (((sreadS speed ([0, 44, 1] : List Int)).2.2) == 0)) ?_; intro a90 hF91; clear hF89
 have hF92 := hF91.atom ((((sreadS speed ([0, 44, 1] : List Int)).2.2) == 0) == true) (by kernel_rfl); clear hF91
 refine gp hF92 22 0 [] (((sreadS speed ([0, 44, 1] : List Int)).2.2) == 0) (.int .i64 ((swriteS speed ([9, 0, 0] : List Int) 30 1).2)) rfl rfl ?_; intro a93 hF94; clear hF92
 refine gp hF94 23 0 [] (((sreadS speed ([0, 44, 1] : List Int)).2.2) == 0) (.bool (((swriteS speed ([9, 0, 0] : List Int) 30 1).2) == 0)) rfl rfl ?_; intro a95 hF96; clear hF94
 refine st hF96 (.bool ((((sreadS speed ([0, 44, 1] : List Int)).2.2) == 0) && (((swriteS speed ([9, 0, 0] : List Int) 30 1).2) == 0))) (nog rfl _) rfl (by kernel_rfl) (pk_and hF96 (g := []) (m := 0) (b := ((sreadS speed ([0, 44, 1] : List Int)).2.2) == 0) (v := ((swriteS speed ([9, 0, 0] : List Int) 30 1).2) == 0) rfl (by kernel_rfl) (by kernel_rfl) (by kernel_rfl) rfl) ?_; intro a97 hF98; clear hF96
 refine s1 hF98 25 (.bool ((((sreadS speed ([0, 44, 1] : List Int)).2.2) == 0) && (((swriteS speed ([9, 0, 0] : List Int) 30 1).2) == 0))) ?_; intro a99 hF100; clear hF98
 have hF101 := hF100.atom (((((sreadS speed ([0, 44, 1] : List Int)).2.2) == 0) && (((swriteS speed ([9, 0, 0] : List Int) 30 1).2) == 0)) == true) (by kernel_rfl); clear hF100
 refine gp hF101 26 1 [] ((((sreadS speed ([0, 44, 1] : List Int)).2.2) == 0) && (((swriteS speed ([9, 0, 0] : List Int) 30 1).2) == 0)) (.int .i64 ((sreadS speed ([0, 44, 1] : List Int)).1)) rfl rfl ?_; intro a102 hF103; clear hF101
 refine gp hF103 27 1 [] ((((sreadS speed ([0, 44, 1] : List Int)).2.2) == 0) && (((swriteS speed ([9, 0, 0] : List Int) 30 1).2) == 0)) (.bool (((sreadS speed ([0, 44, 1] : List Int)).1) == 300)) rfl rfl ?_; intro a104 hF105; clear hF103
 refine st hF105 (.bool (((((sreadS speed ([0, 44, 1] : List Int)).2.2) == 0) && (((swriteS speed ([9, 0, 0] : List Int) 30 1).2) == 0)) && (((sreadS speed ([0, 44, 1] : List Int)).1) == 300))) (nog rfl _) rfl (by kernel_rfl) (pk_and hF105 (g := []) (m := 1) (b := (((sreadS speed ([0, 44, 1] : List Int)).2.2) == 0) && (((swriteS speed ([9, 0, 0] : List Int) 30 1).2) == 0)) (v := ((sreadS speed ([0, 44, 1] : List Int)).1) == 300) rfl (by kernel_rfl) (by kernel_rfl) (by kernel_rfl) rfl) ?_; intro a106 hF107; clear hF105
 refine s1 hF107 29 (.bool (((((sreadS speed ([0, 44, 1] : List Int)).2.2) == 0) && (((swriteS speed ([9, 0, 0] : List Int) 30 1).2) == 0)) && (((sreadS speed ([0, 44, 1] : List Int)).1) == 300))) ?_; intro a108 hF109; clear hF107
 have hF110 := hF109.atom ((((((sreadS speed ([0, 44, 1] : List Int)).2.2) == 0) && (((swriteS speed ([9, 0, 0] : List Int) 30 1).2) == 0)) && (((sreadS speed ([0, 44, 1] : List Int)).1) == 300)) == true) (by kernel_rfl); clear hF109
 refine gd hF110 (.agg #[str (((sreadS speed ([0, 44, 1] : List Int)).2.1).Name), .int .i64 (((sreadS speed ([0, 44, 1] : List Int)).2.1).Num), .int .i64 (((sreadS speed ([0, 44, 1] : List Int)).2.1).Den)]) (m := 2) (cj := []) (bj := ((((sreadS speed ([0, 44, 1] : List Int)).2.2) == 0) && (((swriteS speed ([9, 0, 0] : List Int) 30 1).2) == 0)) && (((sreadS speed ([0, 44, 1] : List Int)).1) == 300)) rfl rfl (by kernel_rfl) rfl (by kernel_rfl) (by kernel_rfl) (by kernel_rfl) (fun hg => lda hF110 hM72 1 (g := [2]) (b := b34) (off := 0) (k := 3) (cs := [str (((sreadS speed ([0, 44, 1] : List Int)).2.1).Name), .int .i64 (((sreadS speed ([0, 44, 1] : List Int)).2.1).Num), .int .i64 (((sreadS speed ([0, 44, 1] : List Int)).2.1).Den)]) (vs := [str (((sreadS speed ([0, 44, 1] : List Int)).2.1).Name), .int .i64 (((sreadS speed ([0, 44, 1] : List Int)).2.1).Num), .int .i64 (((sreadS speed ([0, 44, 1] : List Int)).2.1).Den)]) (ty := 26) rfl (by kernel_rfl) (by kernel_rfl) (by kernel_rfl) (by kernel_rfl) (by kernel_rfl) hg) ?_; intro a111 hF112; clear hF110
 refine gp hF112 31 2 [] (((((sreadS speed ([0, 44, 1] : List Int)).2.2) == 0) && (((swriteS speed ([9, 0, 0] : List Int) 30 1).2) == 0)) && (((sreadS speed ([0, 44, 1] : List Int)).1) == 300)) (.agg #[str ([115, 112, 101, 101, 100] : List UInt8), .int .i64 30, .int .i64 1]) rfl rfl ?_; intro a113 hF114; clear hF112
 refine gd hF114 (.bool (((((sreadS speed ([0, 44, 1] : List Int)).2.1).Name) == ([115, 112, 101, 101, 100] : List UInt8)) && (((((sreadS speed ([0, 44, 1] : List Int)).2.1).Num) == 30) && (((((sreadS speed ([0, 44, 1] : List Int)).2.1).Den) == 1) && true)))) (m := 2) (cj := []) (bj := ((((sreadS speed ([0, 44, 1] : List Int)).2.2) == 0) && (((swriteS speed ([9, 0, 0] : List Int) 30 1).2) == 0)) && (((sreadS speed ([0, 44, 1] : List Int)).1) == 300)) rfl rfl (by kernel_rfl) rfl (by kernel_rfl) (by kernel_rfl) (by kernel_rfl) (fun hg => eqs_run hF114 (g := [2]) (xs := #[str (((sreadS speed ([0, 44, 1] : List Int)).2.1).Name), .int .i64 (((sreadS speed ([0, 44, 1] : List Int)).2.1).Num), .int .i64 (((sreadS speed ([0, 44, 1] : List Int)).2.1).Den)]) (ys := #[str ([115, 112, 101, 101, 100] : List UInt8), .int .i64 30, .int .i64 1]) (b := ((((sreadS speed ([0, 44, 1] : List Int)).2.1).Name) == ([115, 112, 101, 101, 100] : List UInt8)) && (((((sreadS speed ([0, 44, 1] : List Int)).2.1).Num) == 30) && (((((sreadS speed ([0, 44, 1] : List Int)).2.1).Den) == 1) && true))) rfl (by kernel_rfl) (by kernel_rfl) (by kernel_rfl) (by kernel_rfl) hg) ?_; intro a115 hF116; clear hF114
 refine st hF116 (.bool ((((((sreadS speed ([0, 44, 1] : List Int)).2.2) == 0) && (((swriteS speed ([9, 0, 0] : List Int) 30 1).2) == 0)) && (((sreadS speed ([0, 44, 1] : List Int)).1) == 300)) && (((((sreadS speed ([0, 44, 1] : List Int)).2.1).Name) == ([115, 112, 101, 101, 100] : List UInt8)) && (((((sreadS speed ([0, 44, 1] : List Int)).2.1).Num) == 30) && (((((sreadS speed ([0, 44, 1] : List Int)).2.1).Den) == 1) && true))))) (nog rfl _) rfl (by kernel_rfl) (pk_and hF116 (g := []) (m := 2) (b := ((((sreadS speed ([0, 44, 1] : List Int)).2.2) == 0) && (((swriteS speed ([9, 0, 0] : List Int) 30 1).2) == 0)) && (((sreadS speed ([0, 44, 1] : List Int)).1) == 300)) (v := ((((sreadS speed ([0, 44, 1] : List Int)).2.1).Name) == ([115, 112, 101, 101, 100] : List UInt8)) && (((((sreadS speed ([0, 44, 1] : List Int)).2.1).Num) == 30) && (((((sreadS speed ([0, 44, 1] : List Int)).2.1).Den) == 1) && true))) rfl (by kernel_rfl) (by kernel_rfl) (by kernel_rfl) rfl) ?_; intro a117 hF118; clear hF116
 refine s1 hF118 34 (.bool ((((((sreadS speed ([0, 44, 1] : List Int)).2.2) == 0) && (((swriteS speed ([9, 0, 0] : List Int) 30 1).2) == 0)) && (((sreadS speed ([0, 44, 1] : List Int)).1) == 300)) && (((((sreadS speed ([0, 44, 1] : List Int)).2.1).Name) == ([115, 112, 101, 101, 100] : List UInt8)) && (((((sreadS speed ([0, 44, 1] : List Int)).2.1).Num) == 30) && (((((sreadS speed ([0, 44, 1] : List Int)).2.1).Den) == 1) && true))))) ?_; intro a119 hF120; clear hF118
 have hF121 := hF120.atom (((((((sreadS speed ([0, 44, 1] : List Int)).2.2) == 0) && (((swriteS speed ([9, 0, 0] : List Int) 30 1).2) == 0)) && (((sreadS speed ([0, 44, 1] : List Int)).1) == 300)) && (((((sreadS speed ([0, 44, 1] : List Int)).2.1).Name) == ([115, 112, 101, 101, 100] : List UInt8)) && (((((sreadS speed ([0, 44, 1] : List Int)).2.1).Num) == 30) && (((((sreadS speed ([0, 44, 1] : List Int)).2.1).Den) == 1) && true)))) == true) (by kernel_rfl); clear hF120
 refine gp hF121 35 3 [] ((((((sreadS speed ([0, 44, 1] : List Int)).2.2) == 0) && (((swriteS speed ([9, 0, 0] : List Int) 30 1).2) == 0)) && (((sreadS speed ([0, 44, 1] : List Int)).1) == 300)) && (((((sreadS speed ([0, 44, 1] : List Int)).2.1).Name) == ([115, 112, 101, 101, 100] : List UInt8)) && (((((sreadS speed ([0, 44, 1] : List Int)).2.1).Num) == 30) && (((((sreadS speed ([0, 44, 1] : List Int)).2.1).Den) == 1) && true)))) (.slice ao68 ((swriteS speed ([9, 0, 0] : List Int) 30 1).1).length cap69) rfl rfl ?_; intro a122 hF123; clear hF121
 rcases Bool.eq_false_or_eq_true ((((((sreadS speed ([0, 44, 1] : List Int)).2.2) == 0) && (((swriteS speed ([9, 0, 0] : List Int) 30 1).2) == 0)) && (((sreadS speed ([0, 44, 1] : List Int)).1) == 300)) && (((((sreadS speed ([0, 44, 1] : List Int)).2.1).Name) == ([115, 112, 101, 101, 100] : List UInt8)) && (((((sreadS speed ([0, 44, 1] : List Int)).2.1).Num) == 30) && (((((sreadS speed ([0, 44, 1] : List Int)).2.1).Den) == 1) && true)))) with hb124 | hb124
 · -- true
  have hp125 := hp73.1 hb124; clear hp73
  have hF126 := hF123.reval (d := 34) (c := []) (v := .bool ((((((sreadS speed ([0, 44, 1] : List Int)).2.2) == 0) && (((swriteS speed ([9, 0, 0] : List Int) 30 1).2) == 0)) && (((sreadS speed ([0, 44, 1] : List Int)).1) == 300)) && (((((sreadS speed ([0, 44, 1] : List Int)).2.1).Name) == ([115, 112, 101, 101, 100] : List UInt8)) && (((((sreadS speed ([0, 44, 1] : List Int)).2.1).Num) == 30) && (((((sreadS speed ([0, 44, 1] : List Int)).2.1).Den) == 1) && true))))) (by kernel_rfl) (.bool true) (by rw [hb124]); clear hF123
  have hF127 := hF126.setc (d := 35) (c := [3]) (v := .slice ao68 ((swriteS speed ([9, 0, 0] : List Int) 30 1).1).length cap69) (by kernel_rfl) (v' := .slice ao68 ((swriteS speed ([9, 0, 0] : List Int) 30 1).1).length cap69) (by rw [hb124]; kernel_rfl); clear hF126
  refine sn hF127 hM72 (fun b => .slice (some ⟨b, 0, none⟩) 3 3) [.int .u8 9, .int .u8 44, .int .u8 1] 5 (by rw [wanted_of hF127 (b := true) rfl rfl (by kernel_rfl) (by kernel_rfl)]; rfl) rfl (by kernel_rfl) (by kernel_rfl) ?_; intro b128 a129 wd131 hF130 hM132; clear hF127 hM72
  obtain ⟨Z133, hle134, hM135, hs136⟩ := hM132.freeze 1 rfl
  replace hs18 := hs18.mono hle134
  replace hs60 := hs60.mono hle134
  replace hle0 := Fz.le.trans hle0 hle134
  have hM137 : Mem w.heap.size [] w Z [.row b128 [.int .u8 9, .int .u8 44, .int .u8 1] 5, .row b34 [str (((sreadS speed ([0, 44, 1] : List Int)).2.1).Name), .int .i64 (((sreadS speed ([0, 44, 1] : List Int)).2.1).Num), .int .i64 (((sreadS speed ([0, 44, 1] : List Int)).2.1).Den)] 26] Z133 wd131 := hM135; clear hM135
  have hM138 : Mem w.heap.size [] w Z [.own (tyInt .u8) 5 (some ⟨b128, 0, none⟩) 3 ([9, 44, 1] : List Int), .row b34 [str (((sreadS speed ([0, 44, 1] : List Int)).2.1).Name), .int .i64 (((sreadS speed ([0, 44, 1] : List Int)).2.1).Num), .int .i64 (((sreadS speed ([0, 44, 1] : List Int)).2.1).Den)] 26] Z133 wd131 := hM137.rowOwn (T := (tyInt .u8)) (xs := ([9, 44, 1] : List Int)) 0 rfl (by decide) (by show 3 ≤ lim; decide) ((RepAll.one (T := (tyInt .u8)) (x := 9) rfl).append ((RepAll.one (T := (tyInt .u8)) (x := 44) rfl).append (RepAll.one (T := (tyInt .u8)) (x := 1) rfl))); clear hM137
  obtain ⟨Z139, hle140, hM141, hs142⟩ := hM138.freeze 0 rfl
  replace hs18 := hs18.mono hle140
  replace hs60 := hs60.mono hle140
  replace hs136 := hs136.mono hle140
  replace hle0 := Fz.le.trans hle0 hle140
  have hM143 : Mem w.heap.size [] w Z [.row b34 [str (((sreadS speed ([0, 44, 1] : List Int)).2.1).Name), .int .i64 (((sreadS speed ([0, 44, 1] : List Int)).2.1).Num), .int .i64 (((sreadS speed ([0, 44, 1] : List Int)).2.1).Den)] 26] Z139 wd131 := hM141; clear hM141
  refine fcl hF130 hM143 (.bool (beqS ((swriteS speed ([9, 0, 0] : List Int) 30 1).1) ([9, 44, 1] : List Int))) 15 #[.slice ao68 ((swriteS speed ([9, 0, 0] : List Int) 30 1).1).length cap69, .slice (some ⟨b128, 0, none⟩) ([9, 44, 1] : List Int).length 3] (by rw [wanted_of hF130 (b := true) rfl rfl (by kernel_rfl) (by kernel_rfl)]; rfl) rfl (by kernel_rfl) (fun _ => by kernel_rfl) (beq_fun ((swriteS speed ([9, 0, 0] : List Int) 30 1).1) ([9, 44, 1] : List Int) ao68 cap69 (some ⟨b128, 0, none⟩) 3 _ _ hs136 hs142 hM143.fz) ?_; intro a144 wd146 hF145 hM147; clear hF130 hM143
  refine s1 hF145 38 (.bool (beqS ((swriteS speed ([9, 0, 0] : List Int) 30 1).1) ([9, 44, 1] : List Int))) ?_; intro a148 hF149; clear hF145
  refine s1 hF149 0 (.bool (beqS ((swriteS speed ([9, 0, 0] : List Int) 30 1).1) ([9, 44, 1] : List Int))) ?_; intro a150 hF151; clear hF149
  refine nlH (hQ85 _ _ ?_); clear hQ85 hQ85Q
  refine wp_ret ?_
  refine rt (fn := Tryd.f9) (v := .bool (beqS ((swriteS speed ([9, 0, 0] : List Int) 30 1).1) ([9, 44, 1] : List Int))) hF151 (re1 hF151 (fn := Tryd.f9) rfl (by kernel_rfl)) ?_
  exact ⟨(beqS ((swriteS speed ([9, 0, 0] : List Int) 30 1).1) ([9, 44, 1] : List Int)), rfl, hp125, hM147.below⟩
 · -- false
  have hp152 := hp73.2 hb124; clear hp73
  have hF153 := hF123.reval (d := 34) (c := []) (v := .bool ((((((sreadS speed ([0, 44, 1] : List Int)).2.2) == 0) && (((swriteS speed ([9, 0, 0] : List Int) 30 1).2) == 0)) && (((sreadS speed ([0, 44, 1] : List Int)).1) == 300)) && (((((sreadS speed ([0, 44, 1] : List Int)).2.1).Name) == ([115, 112, 101, 101, 100] : List UInt8)) && (((((sreadS speed ([0, 44, 1] : List Int)).2.1).Num) == 30) && (((((sreadS speed ([0, 44, 1] : List Int)).2.1).Den) == 1) && true))))) (by kernel_rfl) (.bool false) (by rw [hb124]); clear hF123
  have hF154 := hF153.setc (d := 35) (c := [3]) (v := .slice ao68 ((swriteS speed ([9, 0, 0] : List Int) 30 1).1).length cap69) (by kernel_rfl) (v' := undef) (by rw [hb124]; kernel_rfl); clear hF153
  refine sk hF154 (b := false) rfl rfl (by kernel_rfl) (by kernel_rfl) rfl rfl (by kernel_rfl) ?_; intro a155 hF156; clear hF154
  refine sk hF156 (b := false) rfl rfl (by kernel_rfl) (by kernel_rfl) rfl rfl (by kernel_rfl) ?_; intro a157 hF158; clear hF156
  refine s1 hF158 38 (.bool false) ?_; intro a159 hF160; clear hF158
  refine s1 hF160 0 (.bool false) ?_; intro a161 hF162; clear hF160
  refine nlH (hQ85 _ _ ?_); clear hQ85 hQ85Q
  refine wp_ret ?_
  refine rt (fn := Tryd.f9) (v := .bool false) hF162 (re1 hF162 (fn := Tryd.f9) rfl (by kernel_rfl)) ?_
  exact ⟨false, rfl, hp152, hM72.below⟩

end Go.Proofs.YtdndfbamhnchfaaDoor
