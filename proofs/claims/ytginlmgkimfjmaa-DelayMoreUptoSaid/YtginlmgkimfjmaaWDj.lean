/- The walks, made by program: each call does what its pure predicate says. -/
import Derived.Test.YtginlmgkimfjmaaPDj
import Derived.Test.YtginlmgkimfjmaaWDi
set_option linter.unusedVariables false
set_option linter.unusedSimpArgs false
namespace Go.Proofs.Ytginlmgkimfjmaa
open Go.Sy Go.RowKit
theorem dWorst_fun (u0 : List Task) (ao1 : Option Addr) (cap2 : Nat) (Z : Fz) (w : World) (hs3 : SlR tyTask Z ao1 cap2 u0) (hZ : Z.on w) : Calls Try.prog 15 #[.slice ao1 u0.length cap2] w fun e w' => ∃ (ao1001 : Option Addr) (cap1002 : Nat) (Z' : Fz), e = .returned (.tuple #[.slice ao1001 (WorstS u0).1.length cap1002, .int .i64 (WorstS u0).2]) ∧ Mem w.heap.size [] w Z [.own tyStop 40 ao1001 cap1002 (WorstS u0).1] Z' w' :=
  (dWorst_walk u0 ao1 cap2 Z w hs3 hZ (dWorst_ok u0)).mono fun _ _ ⟨r, h0, h1, h2, he, hk, hm⟩ => by subst hk; exact ⟨h0, h1, h2, he, hm⟩

theorem dtasks_fun   (Z : Fz) (w : World)  (hZ : Z.on w) : Calls Try.prog 49 #[] w fun e w' => ∃ (ao1001 : Option Addr) (cap1002 : Nat) (Z' : Fz), e = .returned (.slice ao1001 tasksS.length cap1002) ∧ Mem w.heap.size [] w Z [.own tyTask 34 ao1001 cap1002 tasksS] Z' w' :=
  (dtasks_walk   Z w  hZ (dtasks_ok )).mono fun _ _ ⟨r, h0, h1, h2, he, hk, hm⟩ => by subst hk; exact ⟨h0, h1, h2, he, hm⟩

theorem stopeq_fun (u0 : List Stop) (u1 : List Stop) (ao1 : Option Addr) (cap2 : Nat) (ao4 : Option Addr) (cap5 : Nat) (Z : Fz) (w : World) (hs3 : SlR tyStop Z ao1 cap2 u0) (hs6 : SlR tyStop Z ao4 cap5 u1) (hZ : Z.on w) : Calls Try.prog 50 #[.slice ao1 u0.length cap2, .slice ao4 u1.length cap5] w fun e w' => e = .returned (.bool (stopeqS u0 u1)) ∧ Below w.heap.size w w' :=
  (stopeq_walk u0 u1 ao1 cap2 ao4 cap5 Z w hs3 hs6 hZ (stopeq_ok u0 u1)).mono fun _ _ ⟨r, he, hk, hb⟩ => ⟨by subst hk; exact he, hb⟩

set_option maxRecDepth 100000 in
set_option maxHeartbeats 0 in
theorem delayed_walk   (Z : Fz) (w : World)  (hZ : Z.on w) {K : Bool → Prop} (hp : delayed_vc  K) : Calls Try.prog 17 #[] w fun e w' => ∃ r : Bool, e = .returned (.bool r) ∧ K r ∧ Below w.heap.size w w' := by
 refine enter0 Try.func17 rfl rfl (by kernel_rfl) ?_; intro a0 hF0; have hM0 := Mem.start w Z hZ; have hle0 := Fz.le.refl Z
 refine sqH ?_; intro hQ1Q hQ1
 refine s1 hF0 0 (.bool false) ?_; intro a2 hF3; clear hF0
 refine nlH (hQ1 _ _ ?_); clear hQ1 hQ1Q
 refine sqH ?_; intro hQ4Q hQ4
 refine cl hF3 49 #[] (nog rfl _) rfl (by kernel_rfl) (by kernel_rfl) ?_
 refine (dtasks_fun  _ _ hM0.fz).mono ?_; rintro _ wd5 ⟨ao9, cap10, Z11, rfl, hm⟩; refine ⟨_, rfl, ?_⟩; intro a6 hF7; have hM8 := hM0.callZ hm; have hle12 := hm.ext.le; clear hm hM0 hF3
 replace hle0 := Fz.le.trans hle0 hle12
 have hM13 : Mem w.heap.size [] w Z [.own tyTask 34 ao9 cap10 tasksS] Z11 wd5 := hM8; clear hM8
 have hp14 := hp (hM13.ownSmall 0 rfl); clear hp
 obtain ⟨Z15, hle16, hM17, hs18⟩ := hM13.freeze 0 rfl
 replace hle0 := Fz.le.trans hle0 hle16
 have hM19 : Mem w.heap.size [] w Z [] Z15 wd5 := hM17; clear hM17
 refine cl hF7 15 #[.slice ao9 tasksS.length cap10] (nog rfl _) rfl (by kernel_rfl) (by kernel_rfl) ?_
 refine (dWorst_fun tasksS ao9 cap10 _ _ hs18 hM19.fz).mono ?_; rintro _ wd20 ⟨ao24, cap25, Z26, rfl, hm⟩; refine ⟨_, rfl, ?_⟩; intro a21 hF22; have hM23 := hM19.callZ hm; have hle27 := hm.ext.le; clear hm hM19 hF7
 replace hs18 := hs18.mono hle27
 replace hle0 := Fz.le.trans hle0 hle27
 have hM28 : Mem w.heap.size [] w Z [.own tyStop 40 ao24 cap25 ((WorstS tasksS).1)] Z26 wd20 := hM23; clear hM23
 have hp29 := hp14 (hM28.ownSmall 0 rfl); clear hp14
 refine s1 hF22 3 (.tuple #[.slice ao24 ((WorstS tasksS).1).length cap25, .int .i64 ((WorstS tasksS).2)]) ?_; intro a30 hF31; clear hF22
 refine s1 hF31 6 (.slice ao24 ((WorstS tasksS).1).length cap25) ?_; intro a32 hF33; clear hF31
 refine s1 hF33 7 (.int .i64 ((WorstS tasksS).2)) ?_; intro a34 hF35; clear hF33
 refine s1 hF35 1 (.slice ao24 ((WorstS tasksS).1).length cap25) ?_; intro a36 hF37; clear hF35
 refine s1 hF37 2 (.int .i64 ((WorstS tasksS).2)) ?_; intro a38 hF39; clear hF37
 refine nlH (hQ4 _ _ ?_); clear hQ4 hQ4Q
 refine sqH ?_; intro hQ40Q hQ40
 refine s1 hF39 8 (.int .i64 ((WorstS tasksS).2)) ?_; intro a41 hF42; clear hF39
 refine s1 hF42 9 (.bool (((WorstS tasksS).2) == 0)) ?_; intro a43 hF44; clear hF42
 refine s1 hF44 10 (.bool (((WorstS tasksS).2) == 0)) ?_; intro a45 hF46; clear hF44
 have hF47 := hF46.atom ((((WorstS tasksS).2) == 0) == true) (by kernel_rfl); clear hF46
 refine gp hF47 11 0 [] (((WorstS tasksS).2) == 0) (.slice ao24 ((WorstS tasksS).1).length cap25) rfl rfl ?_; intro a48 hF49; clear hF47
 refine gp hF49 12 0 [] (((WorstS tasksS).2) == 0) (.agg #[.int .i64 270, .bool true]) rfl rfl ?_; intro a50 hF51; clear hF49
 refine gp hF51 13 0 [] (((WorstS tasksS).2) == 0) (.agg #[.int .i64 270, .bool true]) rfl rfl ?_; intro a52 hF53; clear hF51
 rcases Bool.eq_false_or_eq_true (((WorstS tasksS).2) == 0) with hb54 | hb54
 · -- true
  have hp55 := hp29.1 hb54; clear hp29
  have hF56 := hF53.reval (d := 10) (c := []) (v := .bool (((WorstS tasksS).2) == 0)) (by kernel_rfl) (.bool true) (by rw [hb54]); clear hF53
  have hF57 := hF56.setc (d := 11) (c := [0]) (v := .slice ao24 ((WorstS tasksS).1).length cap25) (by kernel_rfl) (v' := .slice ao24 ((WorstS tasksS).1).length cap25) (by rw [hb54]; kernel_rfl); clear hF56
  have hF58 := hF57.setc (d := 12) (c := [0]) (v := .agg #[.int .i64 270, .bool true]) (by kernel_rfl) (v' := .agg #[.int .i64 270, .bool true]) (by rw [hb54]; kernel_rfl); clear hF57
  have hF59 := hF58.setc (d := 13) (c := [0]) (v := .agg #[.int .i64 270, .bool true]) (by kernel_rfl) (v' := .agg #[.int .i64 270, .bool true]) (by rw [hb54]; kernel_rfl); clear hF58
  refine sn hF59 hM28 (fun b => .slice (some ⟨b, 0, none⟩) 2 2) [.int .i64 270, .bool true, .int .i64 270, .bool true] 40 (by rw [wanted_of hF59 (b := true) rfl rfl (by kernel_rfl) (by kernel_rfl)]; rfl) rfl (by kernel_rfl) (by kernel_rfl) ?_; intro b60 a61 wd63 hF62 hM64; clear hF59 hM28
  obtain ⟨Z65, hle66, hM67, hs68⟩ := hM64.freeze 1 rfl
  replace hs18 := hs18.mono hle66
  replace hle0 := Fz.le.trans hle0 hle66
  have hM69 : Mem w.heap.size [] w Z [.row b60 [.int .i64 270, .bool true, .int .i64 270, .bool true] 40] Z65 wd63 := hM67; clear hM67
  have hM70 : Mem w.heap.size [] w Z [.own tyStop 40 (some ⟨b60, 0, none⟩) 2 ([(⟨270, true⟩ : Stop), (⟨270, true⟩ : Stop)] : List Stop)] Z65 wd63 := hM69.rowOwn (T := tyStop) (xs := ([(⟨270, true⟩ : Stop), (⟨270, true⟩ : Stop)] : List Stop)) 0 rfl (by decide) (by show 2 ≤ lim; decide) ((RepAll.one (T := tyStop) (x := (⟨270, true⟩ : Stop)) rfl).append (RepAll.one (T := tyStop) (x := (⟨270, true⟩ : Stop)) rfl)); clear hM69
  obtain ⟨Z71, hle72, hM73, hs74⟩ := hM70.freeze 0 rfl
  replace hs18 := hs18.mono hle72
  replace hs68 := hs68.mono hle72
  replace hle0 := Fz.le.trans hle0 hle72
  have hM75 : Mem w.heap.size [] w Z [] Z71 wd63 := hM73; clear hM73
  refine fcl hF62 hM75 (.bool (stopeqS ((WorstS tasksS).1) ([(⟨270, true⟩ : Stop), (⟨270, true⟩ : Stop)] : List Stop))) 50 #[.slice ao24 ((WorstS tasksS).1).length cap25, .slice (some ⟨b60, 0, none⟩) ([(⟨270, true⟩ : Stop), (⟨270, true⟩ : Stop)] : List Stop).length 2] (by rw [wanted_of hF62 (b := true) rfl rfl (by kernel_rfl) (by kernel_rfl)]; rfl) rfl (by kernel_rfl) (fun _ => by kernel_rfl) (stopeq_fun ((WorstS tasksS).1) ([(⟨270, true⟩ : Stop), (⟨270, true⟩ : Stop)] : List Stop) ao24 cap25 (some ⟨b60, 0, none⟩) 2 _ _ hs68 hs74 hM75.fz) ?_; intro a76 wd78 hF77 hM79; clear hF62 hM75
  refine s1 hF77 16 (.bool (stopeqS ((WorstS tasksS).1) ([(⟨270, true⟩ : Stop), (⟨270, true⟩ : Stop)] : List Stop))) ?_; intro a80 hF81; clear hF77
  refine s1 hF81 0 (.bool (stopeqS ((WorstS tasksS).1) ([(⟨270, true⟩ : Stop), (⟨270, true⟩ : Stop)] : List Stop))) ?_; intro a82 hF83; clear hF81
  refine nlH (hQ40 _ _ ?_); clear hQ40 hQ40Q
  refine wp_ret ?_
  refine rt (fn := Try.f17) (v := .bool (stopeqS ((WorstS tasksS).1) ([(⟨270, true⟩ : Stop), (⟨270, true⟩ : Stop)] : List Stop))) hF83 (re1 hF83 (fn := Try.f17) rfl (by kernel_rfl)) ?_
  exact ⟨(stopeqS ((WorstS tasksS).1) ([(⟨270, true⟩ : Stop), (⟨270, true⟩ : Stop)] : List Stop)), rfl, hp55, hM79.below⟩
 · -- false
  have hp84 := hp29.2 hb54; clear hp29
  have hF85 := hF53.reval (d := 10) (c := []) (v := .bool (((WorstS tasksS).2) == 0)) (by kernel_rfl) (.bool false) (by rw [hb54]); clear hF53
  have hF86 := hF85.setc (d := 11) (c := [0]) (v := .slice ao24 ((WorstS tasksS).1).length cap25) (by kernel_rfl) (v' := undef) (by rw [hb54]; kernel_rfl); clear hF85
  have hF87 := hF86.setc (d := 12) (c := [0]) (v := .agg #[.int .i64 270, .bool true]) (by kernel_rfl) (v' := undef) (by rw [hb54]; kernel_rfl); clear hF86
  have hF88 := hF87.setc (d := 13) (c := [0]) (v := .agg #[.int .i64 270, .bool true]) (by kernel_rfl) (v' := undef) (by rw [hb54]; kernel_rfl); clear hF87
  refine sk hF88 (b := false) rfl rfl (by kernel_rfl) (by kernel_rfl) rfl rfl (by kernel_rfl) ?_; intro a89 hF90; clear hF88
  refine sk hF90 (b := false) rfl rfl (by kernel_rfl) (by kernel_rfl) rfl rfl (by kernel_rfl) ?_; intro a91 hF92; clear hF90
  refine s1 hF92 16 (.bool false) ?_; intro a93 hF94; clear hF92
  refine s1 hF94 0 (.bool false) ?_; intro a95 hF96; clear hF94
  refine nlH (hQ40 _ _ ?_); clear hQ40 hQ40Q
  refine wp_ret ?_
  refine rt (fn := Try.f17) (v := .bool false) hF96 (re1 hF96 (fn := Try.f17) rfl (by kernel_rfl)) ?_
  exact ⟨false, rfl, hp84, hM28.below⟩

end Go.Proofs.Ytginlmgkimfjmaa
