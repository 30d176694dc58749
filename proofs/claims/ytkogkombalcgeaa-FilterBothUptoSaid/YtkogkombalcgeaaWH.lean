/- The walks, made by program: each call does what its pure predicate says. -/
import Derived.Test.YtkogkombalcgeaaPH
import Derived.Test.YtkogkombalcgeaaWG
set_option linter.unusedVariables false
set_option linter.unusedSimpArgs false
namespace Go.Proofs.Ytkogkombalcgeaa
open Go.Sy Go.RowKit
theorem fconcat_fun (u0 : List (List Filter)) (hpre : (∀ l ∈ u0, l.length ≤ 1048576) ∧ u0.length ≤ 2) (ao1 : Option Addr) (cap2 : Nat) (Z : Fz) (w : World) (hs3 : SlR (tySl tyFilter) Z ao1 cap2 u0) (hZ : Z.on w) : Calls Try.prog 29 #[.slice ao1 u0.length cap2] w fun e w' => ∃ (ao1001 : Option Addr) (cap1002 : Nat) (Z' : Fz), e = .returned (.slice ao1001 (fconcatS u0).length cap1002) ∧ Mem w.heap.size [] w Z [.own tyFilter 28 ao1001 cap1002 (fconcatS u0)] Z' w' :=
  (fconcat_walk u0 ao1 cap2 Z w hs3 hZ (fconcat_ok u0 hpre)).mono fun _ _ ⟨r, h0, h1, h2, he, hk, hm⟩ => by subst hk; exact ⟨h0, h1, h2, he, hm⟩

set_option maxRecDepth 100000 in
theorem LBoth_walk (u0 : List Filter) (u1 : List Filter) (u2 : Frame) (ao1 : Option Addr) (cap2 : Nat) (ao4 : Option Addr) (cap5 : Nat) (ao7 : Option Addr) (cap8 : Nat) (Z : Fz) (w : World) (hs3 : SlR tyFilter Z ao1 cap2 u0) (hs6 : SlR tyFilter Z ao4 cap5 u1) (hs9 : SlR (tyInt .u8) Z ao7 cap8 u2.Data) (hZ : Z.on w) {K : Bool → Prop} (hp : LBoth_vc u0 u1 u2 K) : Calls Try.prog 8 #[.slice ao1 u0.length cap2, .slice ao4 u1.length cap5, .agg #[.int .i64 u2.ID, .bool u2.Long, .bool u2.Fast, .bool u2.Remote, .int .i64 u2.Size, .slice ao7 u2.Data.length cap8]] w fun e w' => ∃ r : Bool, e = .returned (.bool r) ∧ K r ∧ Below w.heap.size w w' := by
 refine enter0 Try.func8 rfl rfl (by kernel_rfl) ?_; intro a0 hF0; have hM0 := Mem.start w Z hZ; have hle0 := Fz.le.refl Z
 have hp10 := hp (hs3.small); clear hp
 have hp11 := hp10 (hs6.small); clear hp10
 have hp12 := hp11 (hs9.small); clear hp11
 refine sqH ?_; intro hQ13Q hQ13
 refine sn hF0 hM0 (fun b => .pointer (some ⟨b, 0, none⟩)) [.int .i64 u2.ID, .bool u2.Long, .bool u2.Fast, .bool u2.Remote, .int .i64 u2.Size, .slice ao7 u2.Data.length cap8] 38 (nog rfl _) rfl (by kernel_rfl) (by kernel_rfl) ?_; intro b14 a15 wd17 hF16 hM18; clear hF0 hM0
 refine s1 hF16 6 (.bool false) ?_; intro a19 hF20; clear hF16
 refine nlH (hQ13 _ _ ?_); clear hQ13 hQ13Q
 refine sqH ?_; intro hQ21Q hQ21
 refine s1 hF20 18 (.slice ao1 u0.length cap2) ?_; intro a22 hF23; clear hF20
 refine l2 hF23 hM18 19 0 0 6 [.int .i64 u2.ID, .bool u2.Long, .bool u2.Fast, .bool u2.Remote, .int .i64 u2.Size, .slice ao7 u2.Data.length cap8] rfl rfl ?_; intro a24 hF25; clear hF23
 refine cl hF25 25 #[.slice ao1 u0.length cap2, .agg #[.int .i64 u2.ID, .bool u2.Long, .bool u2.Fast, .bool u2.Remote, .int .i64 u2.Size, .slice ao7 u2.Data.length cap8]] (nog rfl _) rfl (by kernel_rfl) (by kernel_rfl) ?_
 refine (filterin_fun u0 u2 ao1 cap2 ao7 cap8 _ _ hs3 hs9 hM18.fz).mono ?_; rintro _ wd26 ⟨ao30, cap31, Z32, rfl, hm⟩; refine ⟨_, rfl, ?_⟩; intro a27 hF28; have hM29 := hM18.callZ hm; have hle33 := hm.ext.le; clear hm hM18 hF25
 replace hs3 := hs3.mono hle33
 replace hs6 := hs6.mono hle33
 replace hs9 := hs9.mono hle33
 replace hle0 := Fz.le.trans hle0 hle33
 have hM34 : Mem w.heap.size [] w Z [.own (tyInt .i64) 3 ao30 cap31 ((finS u0 u2).1), .row b14 [.int .i64 u2.ID, .bool u2.Long, .bool u2.Fast, .bool u2.Remote, .int .i64 u2.Size, .slice ao7 u2.Data.length cap8] 38] Z32 wd26 := hM29; clear hM29
 have hp35 := hp12 (hM34.ownSmall 0 rfl); clear hp12
 refine s1 hF28 17 (.tuple #[.slice ao30 ((finS u0 u2).1).length cap31, .int .i64 ((finS u0 u2).2)]) ?_; intro a36 hF37; clear hF28
 refine s1 hF37 21 (.slice ao30 ((finS u0 u2).1).length cap31) ?_; intro a38 hF39; clear hF37
 refine s1 hF39 22 (.int .i64 ((finS u0 u2).2)) ?_; intro a40 hF41; clear hF39
 refine s1 hF41 7 (.slice ao30 ((finS u0 u2).1).length cap31) ?_; intro a42 hF43; clear hF41
 refine s1 hF43 8 (.int .i64 ((finS u0 u2).2)) ?_; intro a44 hF45; clear hF43
 refine nlH (hQ21 _ _ ?_); clear hQ21 hQ21Q
 refine sqH ?_; intro hQ46Q hQ46
 refine s1 hF45 24 (.slice ao4 u1.length cap5) ?_; intro a47 hF48; clear hF45
 refine l2 hF48 hM34 25 1 0 6 [.int .i64 u2.ID, .bool u2.Long, .bool u2.Fast, .bool u2.Remote, .int .i64 u2.Size, .slice ao7 u2.Data.length cap8] rfl rfl ?_; intro a49 hF50; clear hF48
 refine cl hF50 25 #[.slice ao4 u1.length cap5, .agg #[.int .i64 u2.ID, .bool u2.Long, .bool u2.Fast, .bool u2.Remote, .int .i64 u2.Size, .slice ao7 u2.Data.length cap8]] (nog rfl _) rfl (by kernel_rfl) (by kernel_rfl) ?_
 refine (filterin_fun u1 u2 ao4 cap5 ao7 cap8 _ _ hs6 hs9 hM34.fz).mono ?_; rintro _ wd51 ⟨ao55, cap56, Z57, rfl, hm⟩; refine ⟨_, rfl, ?_⟩; intro a52 hF53; have hM54 := hM34.callZ hm; have hle58 := hm.ext.le; clear hm hM34 hF50
 replace hs3 := hs3.mono hle58
 replace hs6 := hs6.mono hle58
 replace hs9 := hs9.mono hle58
 replace hle0 := Fz.le.trans hle0 hle58
 have hM59 : Mem w.heap.size [] w Z [.own (tyInt .i64) 3 ao55 cap56 ((finS u1 u2).1), .own (tyInt .i64) 3 ao30 cap31 ((finS u0 u2).1), .row b14 [.int .i64 u2.ID, .bool u2.Long, .bool u2.Fast, .bool u2.Remote, .int .i64 u2.Size, .slice ao7 u2.Data.length cap8] 38] Z57 wd51 := hM54; clear hM54
 have hp60 := hp35 (hM59.ownSmall 0 rfl); clear hp35
 refine s1 hF53 23 (.tuple #[.slice ao55 ((finS u1 u2).1).length cap56, .int .i64 ((finS u1 u2).2)]) ?_; intro a61 hF62; clear hF53
 refine s1 hF62 27 (.slice ao55 ((finS u1 u2).1).length cap56) ?_; intro a63 hF64; clear hF62
 refine s1 hF64 28 (.int .i64 ((finS u1 u2).2)) ?_; intro a65 hF66; clear hF64
 refine s1 hF66 9 (.slice ao55 ((finS u1 u2).1).length cap56) ?_; intro a67 hF68; clear hF66
 refine s1 hF68 10 (.int .i64 ((finS u1 u2).2)) ?_; intro a69 hF70; clear hF68
 refine nlH (hQ46 _ _ ?_); clear hQ46 hQ46Q
 have hF71 : Fr 100 [] [⟨0, [], .slice ao1 u0.length cap2⟩, ⟨1, [], .slice ao4 u1.length cap5⟩, ⟨5, [], .pointer (some ⟨b14, 0, none⟩)⟩, ⟨7, [], .slice ao30 ((finS u0 u2).1).length cap31⟩, ⟨8, [], .int .i64 ((finS u0 u2).2)⟩, ⟨9, [], .slice ao55 ((finS u1 u2).1).length cap56⟩, ⟨10, [], .int .i64 ((finS u1 u2).2)⟩] a69 := hF70.region (by kernel_rfl) (by kernel_rfl); clear hF70
 have hcd3_0 := hp60.1; have hp122 := hp60.2; clear hp60
 refine wp_seq (any_invE mixed [[], [], [0, 1], [2], [], [3, 4], [5], [6], [6], [0, 1, 2, 3, 4, 5, 6, 7], [0, 1, 2, 3, 4, 5, 6, 7, 8, 9]] 11 (fun S a w1 => ∃ (b76 : Nat) (ao91 : Option Addr) (cap92 : Nat) (ao107 : Option Addr) (cap108 : Nat) (ud11 : Value) (ud12 : Value) (ud29 : Value) (ud30 : Value) (ud31 : Value) (ud32 : Value) (ud33 : Value) (ud34 : Value) (ud35 : Value) (ud36 : Value) (ud37 : Value) (rh0 : Res) (rh1 : Res) (rh2 : Res) (rh3 : Res) (Z123 : Fz), Fz.le Z57 Z123 ∧ Fr 100 [] [⟨0, [], .slice ao1 u0.length cap2⟩, ⟨1, [], .slice ao4 u1.length cap5⟩, ⟨5, [], .pointer (some ⟨b14, 0, none⟩)⟩, ⟨7, [], .slice ao30 ((finS u0 u2).1).length cap31⟩, ⟨8, [], .int .i64 ((finS u0 u2).2)⟩, ⟨9, [], .slice ao55 ((finS u1 u2).1).length cap56⟩, ⟨10, [], .int .i64 ((finS u1 u2).2)⟩, ⟨11, [], ud11⟩, ⟨12, [], ud12⟩, ⟨29, [], ud29⟩, ⟨30, [], ud30⟩, ⟨31, [], ud31⟩, ⟨32, [], ud32⟩, ⟨33, [], ud33⟩, ⟨34, [], ud34⟩, ⟨35, [], ud35⟩, ⟨36, [], ud36⟩, ⟨37, [], ud37⟩] a ∧ Mem w.heap.size [] w Z [rh0, rh1, rh2, rh3] Z123 w1 ∧ (S 9 = true → ud11 = .slice ao107 ((finS (fconcatS ([u0, u1] : List (List Filter))) u2).1).length cap108) ∧ (S 10 = true → ud12 = .int .i64 ((finS (fconcatS ([u0, u1] : List (List Filter))) u2).2)) ∧ (S 6 = true → ud29 = .tuple #[.slice ao107 ((finS (fconcatS ([u0, u1] : List (List Filter))) u2).1).length cap108, .int .i64 ((finS (fconcatS ([u0, u1] : List (List Filter))) u2).2)]) ∧ (S 0 = true → ud30 = .slice ao1 u0.length cap2) ∧ (S 1 = true → ud31 = .slice ao4 u1.length cap5) ∧ (S 2 = true → ud32 = .slice (some ⟨b76, 0, none⟩) 2 2) ∧ (S 3 = true → ud33 = .slice ao91 (fconcatS ([u0, u1] : List (List Filter))).length cap92) ∧ (S 4 = true → ud34 = .agg #[.int .i64 u2.ID, .bool u2.Long, .bool u2.Fast, .bool u2.Remote, .int .i64 u2.Size, .slice ao7 u2.Data.length cap8]) ∧ (S 5 = true → ud35 = .tuple #[.slice ao107 ((finS (fconcatS ([u0, u1] : List (List Filter))) u2).1).length cap108, .int .i64 ((finS (fconcatS ([u0, u1] : List (List Filter))) u2).2)]) ∧ (S 7 = true → ud36 = .slice ao107 ((finS (fconcatS ([u0, u1] : List (List Filter))) u2).1).length cap108) ∧ (S 8 = true → ud37 = .int .i64 ((finS (fconcatS ([u0, u1] : List (List Filter))) u2).2)) ∧ (rh0 = .own (tyInt .i64) 3 ao55 cap56 ((finS u1 u2).1)) ∧ (rh1 = .own (tyInt .i64) 3 ao30 cap31 ((finS u0 u2).1)) ∧ (rh2 = .row b14 [.int .i64 u2.ID, .bool u2.Long, .bool u2.Fast, .bool u2.Remote, .int .i64 u2.Size, .slice ao7 u2.Data.length cap8] 38) ∧ (S 2 = false → rh3 = .nil) ∧ (S 2 = true → S 3 = false → rh3 = .row b76 [.slice ao1 u0.length cap2, .slice ao4 u1.length cap5] 22) ∧ (S 3 = true → S 5 = false → rh3 = .own tyFilter 28 ao91 cap92 (fconcatS ([u0, u1] : List (List Filter)))) ∧ (S 5 = true → rh3 = .own (tyInt .i64) 3 ao107 cap108 ((finS (fconcatS ([u0, u1] : List (List Filter))) u2).1)) ∧ (S 3 = true → SlR (tySl tyFilter) Z123 (some ⟨b76, 0, none⟩) 2 ([u0, u1] : List (List Filter))) ∧ (S 5 = true → SlR tyFilter Z123 ao91 cap92 (fconcatS ([u0, u1] : List (List Filter))))) ?h0 ?hs ?hE)
 case h0 =>
  have hF125 := hF71.any 11
  have hF126 := hF125.any 12
  have hF127 := hF126.any 29
  have hF128 := hF127.any 30
  have hF129 := hF128.any 31
  have hF130 := hF129.any 32
  have hF131 := hF130.any 33
  have hF132 := hF131.any 34
  have hF133 := hF132.any 35
  have hF134 := hF133.any 36
  have hF135 := hF134.any 37
  have hM136 := hM59.nilRes
  have hM137 := (hM136.perm ((pk 1 rfl).trans (((pk 1 rfl).trans (((pk 1 rfl).trans ((List.Perm.refl _).cons _)).cons _)).cons _))).drew
  exact ⟨0, none, 0, none, 0, a69.tmps.getD 11 undef, a69.tmps.getD 12 undef, a69.tmps.getD 29 undef, a69.tmps.getD 30 undef, a69.tmps.getD 31 undef, a69.tmps.getD 32 undef, a69.tmps.getD 33 undef, a69.tmps.getD 34 undef, a69.tmps.getD 35 undef, a69.tmps.getD 36 undef, a69.tmps.getD 37 undef, .own (tyInt .i64) 3 ao55 cap56 ((finS u1 u2).1), .own (tyInt .i64) 3 ao30 cap31 ((finS u0 u2).1), .row b14 [.int .i64 u2.ID, .bool u2.Long, .bool u2.Fast, .bool u2.Remote, .int .i64 u2.Size, .slice ao7 u2.Data.length cap8] 38, .nil, Z57, Fz.le.refl _, hF135.region (by kernel_rfl) (by kernel_rfl), hM137, ff, ff, ff, ff, ff, ff, ff, ff, ff, ff, ff, rfl, rfl, rfl, kf, ff, ff, ff, ff, ff⟩
 case hs =>
  intro S hcl i o hil hi hSi hpre a w1 hI; refine hid ?_; intro G hG; obtain ⟨b76, hI⟩ := hI; obtain ⟨ao91, hI⟩ := hI; obtain ⟨cap92, hI⟩ := hI; obtain ⟨ao107, hI⟩ := hI; obtain ⟨cap108, hI⟩ := hI; obtain ⟨ud11, hI⟩ := hI; obtain ⟨ud12, hI⟩ := hI; obtain ⟨ud29, hI⟩ := hI; obtain ⟨ud30, hI⟩ := hI; obtain ⟨ud31, hI⟩ := hI; obtain ⟨ud32, hI⟩ := hI; obtain ⟨ud33, hI⟩ := hI; obtain ⟨ud34, hI⟩ := hI; obtain ⟨ud35, hI⟩ := hI; obtain ⟨ud36, hI⟩ := hI; obtain ⟨ud37, hI⟩ := hI; obtain ⟨rh0, hI⟩ := hI; obtain ⟨rh1, hI⟩ := hI; obtain ⟨rh2, hI⟩ := hI; obtain ⟨rh3, hI⟩ := hI; obtain ⟨Z123, hI⟩ := hI; obtain ⟨hle124, hI⟩ := hI; obtain ⟨hFx, hI⟩ := hI; obtain ⟨hMx, hI⟩ := hI; obtain ⟨cu11, hI⟩ := hI; obtain ⟨cu12, hI⟩ := hI; obtain ⟨cu29, hI⟩ := hI; obtain ⟨cu30, hI⟩ := hI; obtain ⟨cu31, hI⟩ := hI; obtain ⟨cu32, hI⟩ := hI; obtain ⟨cu33, hI⟩ := hI; obtain ⟨cu34, hI⟩ := hI; obtain ⟨cu35, hI⟩ := hI; obtain ⟨cu36, hI⟩ := hI; obtain ⟨cu37, hI⟩ := hI; obtain ⟨cr0_0, hI⟩ := hI; obtain ⟨cr1_0, hI⟩ := hI; obtain ⟨cr2_0, hI⟩ := hI; obtain ⟨cr3_0, hI⟩ := hI; obtain ⟨cr3_1, hI⟩ := hI; obtain ⟨cr3_2, hI⟩ := hI; obtain ⟨cr3_3, hI⟩ := hI; obtain ⟨cf0, hI⟩ := hI; have cf1 := hI; clear hI
  have hcase : i = 0 ∨ i = 1 ∨ i = 2 ∨ i = 3 ∨ i = 4 ∨ i = 5 ∨ i = 6 ∨ i = 7 ∨ i = 8 ∨ i = 9 ∨ i = 10 := by clear hi; omega
  rcases hcase with rfl | rfl | rfl | rfl | rfl | rfl | rfl | rfl | rfl | rfl | rfl
  · -- 0: move
   obtain rfl := Option.some.inj hi
   have hx0 := hSi
   have hx2 := negF hcl 2 0 (by kernel_rfl) hx0
   have hx3 := negF hcl 3 2 (by kernel_rfl) hx2
   have hx5 := negF hcl 5 3 (by kernel_rfl) hx3
   have hx6 := negF hcl 6 5 (by kernel_rfl) hx5
   have hx7 := negF hcl 7 6 (by kernel_rfl) hx6
   have hx8 := negF hcl 8 6 (by kernel_rfl) hx6
   have hx9 := negF hcl 9 0 (by kernel_rfl) hx0
   have hx10 := negF hcl 10 0 (by kernel_rfl) hx0
   obtain rfl := cr0_0
   obtain rfl := cr1_0
   obtain rfl := cr2_0
   obtain rfl := cr3_0 hx2
   refine hG (any_step ?_); clear hG G; intro A J hJ
   have hle0 := Fz.le.trans hle0 hle124
   have hzst := Fz.le.refl Z123
   have hs138 := hs3.mono hle124
   have hs139 := hs6.mono hle124
   have hs140 := hs9.mono hle124
   have hM141 := hMx.keep (List.Sublist.cons_cons _ (List.Sublist.cons_cons _ (List.Sublist.cons_cons _ (List.Sublist.cons _ (List.Sublist.slnil))))); clear hMx
   refine s1 hFx 30 (.slice ao1 u0.length cap2) ?_; intro a142 hF143; clear hFx
   refine nl (qnI (hJ _ _ ?_)); clear hJ J
   have hM144 := hM141.nilRes
   exact ⟨b76, ao91, cap92, ao107, cap108, ud11, ud12, ud29, .slice ao1 u0.length cap2, ud31, ud32, ud33, ud34, ud35, ud36, ud37, .own (tyInt .i64) 3 ao55 cap56 ((finS u1 u2).1), .own (tyInt .i64) 3 ao30 cap31 ((finS u0 u2).1), .row b14 [.int .i64 u2.ID, .bool u2.Long, .bool u2.Fast, .bool u2.Remote, .int .i64 u2.Size, .slice ao7 u2.Data.length cap8] 38, .nil, Z123, hle124, hF143.region (by kernel_rfl) (by kernel_rfl), hM144.perm ((pk 1 rfl).trans (((pk 1 rfl).trans (((pk 1 rfl).trans ((List.Perm.refl _).cons _)).cons _)).cons _)), (nt hx9), (nt hx10), (nt hx6), kf, cu31, (nt hx2), (nt hx3), cu34, (nt hx5), (nt hx7), (nt hx8), rfl, rfl, rfl, kf, (fun h _ => nt hx2 h), (fun h _ => nt hx3 h), (nt hx5), (nt hx3), (nt hx5)⟩
  · -- 1: move
   obtain rfl := Option.some.inj hi
   have hx1 := hSi
   have hx2 := negF hcl 2 1 (by kernel_rfl) hx1
   have hx3 := negF hcl 3 2 (by kernel_rfl) hx2
   have hx5 := negF hcl 5 3 (by kernel_rfl) hx3
   have hx6 := negF hcl 6 5 (by kernel_rfl) hx5
   have hx7 := negF hcl 7 6 (by kernel_rfl) hx6
   have hx8 := negF hcl 8 6 (by kernel_rfl) hx6
   have hx9 := negF hcl 9 1 (by kernel_rfl) hx1
   have hx10 := negF hcl 10 1 (by kernel_rfl) hx1
   obtain rfl := cr0_0
   obtain rfl := cr1_0
   obtain rfl := cr2_0
   obtain rfl := cr3_0 hx2
   refine hG (any_step ?_); clear hG G; intro A J hJ
   have hle0 := Fz.le.trans hle0 hle124
   have hzst := Fz.le.refl Z123
   have hs146 := hs3.mono hle124
   have hs147 := hs6.mono hle124
   have hs148 := hs9.mono hle124
   have hM149 := hMx.keep (List.Sublist.cons_cons _ (List.Sublist.cons_cons _ (List.Sublist.cons_cons _ (List.Sublist.cons _ (List.Sublist.slnil))))); clear hMx
   refine s1 hFx 31 (.slice ao4 u1.length cap5) ?_; intro a150 hF151; clear hFx
   refine nl (qnI (hJ _ _ ?_)); clear hJ J
   have hM152 := hM149.nilRes
   exact ⟨b76, ao91, cap92, ao107, cap108, ud11, ud12, ud29, ud30, .slice ao4 u1.length cap5, ud32, ud33, ud34, ud35, ud36, ud37, .own (tyInt .i64) 3 ao55 cap56 ((finS u1 u2).1), .own (tyInt .i64) 3 ao30 cap31 ((finS u0 u2).1), .row b14 [.int .i64 u2.ID, .bool u2.Long, .bool u2.Fast, .bool u2.Remote, .int .i64 u2.Size, .slice ao7 u2.Data.length cap8] 38, .nil, Z123, hle124, hF151.region (by kernel_rfl) (by kernel_rfl), hM152.perm ((pk 1 rfl).trans (((pk 1 rfl).trans (((pk 1 rfl).trans ((List.Perm.refl _).cons _)).cons _)).cons _)), (nt hx9), (nt hx10), (nt hx6), cu30, kf, (nt hx2), (nt hx3), cu34, (nt hx5), (nt hx7), (nt hx8), rfl, rfl, rfl, kf, (fun h _ => nt hx2 h), (fun h _ => nt hx3 h), (nt hx5), (nt hx3), (nt hx5)⟩
  · -- 2: buildSlice
   obtain rfl := Option.some.inj hi
   have hx1 := hpre 1 (by kernel_rfl)
   have hx0 := hpre 0 (by kernel_rfl)
   have hx2 := hSi
   have hx3 := negF hcl 3 2 (by kernel_rfl) hx2
   have hx5 := negF hcl 5 3 (by kernel_rfl) hx3
   have hx6 := negF hcl 6 5 (by kernel_rfl) hx5
   have hx7 := negF hcl 7 6 (by kernel_rfl) hx6
   have hx8 := negF hcl 8 6 (by kernel_rfl) hx6
   have hx9 := negF hcl 9 2 (by kernel_rfl) hx2
   have hx10 := negF hcl 10 2 (by kernel_rfl) hx2
   obtain rfl := cu30 hx0
   obtain rfl := cu31 hx1
   obtain rfl := cr0_0
   obtain rfl := cr1_0
   obtain rfl := cr2_0
   obtain rfl := cr3_0 hx2
   refine hG (any_step ?_); clear hG G; intro A J hJ
   have hle0 := Fz.le.trans hle0 hle124
   have hzst := Fz.le.refl Z123
   have hs154 := hs3.mono hle124
   have hs155 := hs6.mono hle124
   have hs156 := hs9.mono hle124
   have hM157 := hMx.keep (List.Sublist.cons_cons _ (List.Sublist.cons_cons _ (List.Sublist.cons_cons _ (List.Sublist.cons _ (List.Sublist.slnil))))); clear hMx
   refine sn hFx hM157 (fun b => .slice (some ⟨b, 0, none⟩) 2 2) [.slice ao1 u0.length cap2, .slice ao4 u1.length cap5] 22 (nog rfl _) rfl (by kernel_rfl) (by kernel_rfl) ?_; intro b158 a159 wd161 hF160 hM162; clear hFx hM157
   refine nl (qnI (hJ _ _ ?_)); clear hJ J
   exact ⟨b158, ao91, cap92, ao107, cap108, ud11, ud12, ud29, .slice ao1 u0.length cap2, .slice ao4 u1.length cap5, .slice (some ⟨b158, 0, none⟩) 2 2, ud33, ud34, ud35, ud36, ud37, .own (tyInt .i64) 3 ao55 cap56 ((finS u1 u2).1), .own (tyInt .i64) 3 ao30 cap31 ((finS u0 u2).1), .row b14 [.int .i64 u2.ID, .bool u2.Long, .bool u2.Fast, .bool u2.Remote, .int .i64 u2.Size, .slice ao7 u2.Data.length cap8] 38, .row b158 [.slice ao1 u0.length cap2, .slice ao4 u1.length cap5] 22, Z123, hle124, hF160.region (by kernel_rfl) (by kernel_rfl), hM162.perm ((pk 1 rfl).trans (((pk 1 rfl).trans (((pk 1 rfl).trans ((List.Perm.refl _).cons _)).cons _)).cons _)), (nt hx9), (nt hx10), (nt hx6), kf, kf, kf, (nt hx3), cu34, (nt hx5), (nt hx7), (nt hx8), rfl, rfl, rfl, nu, kf2, (fun h _ => nt hx3 h), (nt hx5), (nt hx3), (nt hx5)⟩
  · -- 3: call
   obtain rfl := Option.some.inj hi
   have hx2 := hpre 2 (by kernel_rfl)
   have hx1 := hcl 2 1 (by kernel_rfl) hx2
   have hx0 := hcl 2 0 (by kernel_rfl) hx2
   have hx3 := hSi
   have hx5 := negF hcl 5 3 (by kernel_rfl) hx3
   have hx6 := negF hcl 6 5 (by kernel_rfl) hx5
   have hx7 := negF hcl 7 6 (by kernel_rfl) hx6
   have hx8 := negF hcl 8 6 (by kernel_rfl) hx6
   have hx9 := negF hcl 9 3 (by kernel_rfl) hx3
   have hx10 := negF hcl 10 3 (by kernel_rfl) hx3
   obtain rfl := cu30 hx0
   obtain rfl := cu31 hx1
   obtain rfl := cu32 hx2
   obtain rfl := cr0_0
   obtain rfl := cr1_0
   obtain rfl := cr2_0
   obtain rfl := cr3_1 hx2 hx3
   refine hG (any_step ?_); clear hG G; intro A J hJ
   have hle0 := Fz.le.trans hle0 hle124
   have hzst := Fz.le.refl Z123
   have hs164 := hs3.mono hle124
   have hs165 := hs6.mono hle124
   have hs166 := hs9.mono hle124
   have hM167 : Mem w.heap.size [] w Z [.own (tyInt .i64) 3 ao55 cap56 ((finS u1 u2).1), .own (tyInt .i64) 3 ao30 cap31 ((finS u0 u2).1), .row b14 [.int .i64 u2.ID, .bool u2.Long, .bool u2.Fast, .bool u2.Remote, .int .i64 u2.Size, .slice ao7 u2.Data.length cap8] 38, .own (tySl tyFilter) 22 (some ⟨b76, 0, none⟩) 2 ([u0, u1] : List (List Filter))] Z123 w1 := hMx.rowOwn (T := (tySl tyFilter)) (xs := ([u0, u1] : List (List Filter))) 3 rfl (by decide) (by show 2 ≤ lim; decide) ((RepAll.one (T := (tySl tyFilter)) (x := u0) ⟨ao1, cap2, rfl, hs164⟩).append (RepAll.one (T := (tySl tyFilter)) (x := u1) ⟨ao4, cap5, rfl, hs165⟩)); clear hMx
   obtain ⟨Z168, hle169, hM170, hs171⟩ := hM167.freeze 3 rfl
   replace hzst := hzst.mono hle169
   replace hs164 := hs164.mono hle169
   replace hs165 := hs165.mono hle169
   replace hs166 := hs166.mono hle169
   replace hle0 := Fz.le.trans hle0 hle169
   have hM172 : Mem w.heap.size [] w Z [.own (tyInt .i64) 3 ao55 cap56 ((finS u1 u2).1), .own (tyInt .i64) 3 ao30 cap31 ((finS u0 u2).1), .row b14 [.int .i64 u2.ID, .bool u2.Long, .bool u2.Fast, .bool u2.Remote, .int .i64 u2.Size, .slice ao7 u2.Data.length cap8] 38] Z168 w1 := hM170; clear hM170
   refine cl hFx 29 #[.slice (some ⟨b76, 0, none⟩) ([u0, u1] : List (List Filter)).length 2] (nog rfl _) rfl (by kernel_rfl) (by kernel_rfl) ?_
   refine (fconcat_fun ([u0, u1] : List (List Filter)) hcd3_0 (some ⟨b76, 0, none⟩) 2 _ _ hs171 hM172.fz).mono ?_; rintro _ wd173 ⟨ao177, cap178, Z179, rfl, hm⟩; refine ⟨_, rfl, ?_⟩; intro a174 hF175; have hM176 := hM172.callZ hm; have hle180 := hm.ext.le; clear hm hM172 hFx
   replace hzst := hzst.mono hle180
   replace hs164 := hs164.mono hle180
   replace hs165 := hs165.mono hle180
   replace hs166 := hs166.mono hle180
   replace hs171 := hs171.mono hle180
   replace hle0 := Fz.le.trans hle0 hle180
   have hM181 : Mem w.heap.size [] w Z [.own tyFilter 28 ao177 cap178 (fconcatS ([u0, u1] : List (List Filter))), .own (tyInt .i64) 3 ao55 cap56 ((finS u1 u2).1), .own (tyInt .i64) 3 ao30 cap31 ((finS u0 u2).1), .row b14 [.int .i64 u2.ID, .bool u2.Long, .bool u2.Fast, .bool u2.Remote, .int .i64 u2.Size, .slice ao7 u2.Data.length cap8] 38] Z179 wd173 := hM176; clear hM176
   refine nl (qnI (hJ _ _ ?_)); clear hJ J
   exact ⟨b76, ao177, cap178, ao107, cap108, ud11, ud12, ud29, .slice ao1 u0.length cap2, .slice ao4 u1.length cap5, .slice (some ⟨b76, 0, none⟩) 2 2, .slice ao177 (fconcatS ([u0, u1] : List (List Filter))).length cap178, ud34, ud35, ud36, ud37, .own (tyInt .i64) 3 ao55 cap56 ((finS u1 u2).1), .own (tyInt .i64) 3 ao30 cap31 ((finS u0 u2).1), .row b14 [.int .i64 u2.ID, .bool u2.Long, .bool u2.Fast, .bool u2.Remote, .int .i64 u2.Size, .slice ao7 u2.Data.length cap8] 38, .own tyFilter 28 ao177 cap178 (fconcatS ([u0, u1] : List (List Filter))), Z179, hle124.trans hzst, hF175.region (by kernel_rfl) (by kernel_rfl), hM181.perm ((pk 1 rfl).trans (((pk 1 rfl).trans (((pk 1 rfl).trans ((List.Perm.refl _).cons _)).cons _)).cons _)), (nt hx9), (nt hx10), (nt hx6), kf, kf, kf, kf, cu34, (nt hx5), (nt hx7), (nt hx8), rfl, rfl, rfl, (tn hx2), (fun _ => nu), kf2, (nt hx5), (fun _ => hs171), (nt hx5)⟩
  · -- 4: load
   obtain rfl := Option.some.inj hi
   have hx4 := hSi
   have hx5 := negF hcl 5 4 (by kernel_rfl) hx4
   have hx6 := negF hcl 6 5 (by kernel_rfl) hx5
   have hx7 := negF hcl 7 6 (by kernel_rfl) hx6
   have hx8 := negF hcl 8 6 (by kernel_rfl) hx6
   have hx9 := negF hcl 9 4 (by kernel_rfl) hx4
   have hx10 := negF hcl 10 4 (by kernel_rfl) hx4
   obtain rfl := cr0_0
   obtain rfl := cr1_0
   obtain rfl := cr2_0
   refine hG (any_step ?_); clear hG G; intro A J hJ
   have hle0 := Fz.le.trans hle0 hle124
   have hzst := Fz.le.refl Z123
   have hs183 := hs3.mono hle124
   have hs184 := hs6.mono hle124
   have hs185 := hs9.mono hle124
   refine l2 hFx hMx 34 2 0 6 [.int .i64 u2.ID, .bool u2.Long, .bool u2.Fast, .bool u2.Remote, .int .i64 u2.Size, .slice ao7 u2.Data.length cap8] rfl rfl ?_; intro a186 hF187; clear hFx
   refine nl (qnI (hJ _ _ ?_)); clear hJ J
   exact ⟨b76, ao91, cap92, ao107, cap108, ud11, ud12, ud29, ud30, ud31, ud32, ud33, .agg #[.int .i64 u2.ID, .bool u2.Long, .bool u2.Fast, .bool u2.Remote, .int .i64 u2.Size, .slice ao7 u2.Data.length cap8], ud35, ud36, ud37, .own (tyInt .i64) 3 ao55 cap56 ((finS u1 u2).1), .own (tyInt .i64) 3 ao30 cap31 ((finS u0 u2).1), .row b14 [.int .i64 u2.ID, .bool u2.Long, .bool u2.Fast, .bool u2.Remote, .int .i64 u2.Size, .slice ao7 u2.Data.length cap8] 38, rh3, Z123, hle124, hF187.region (by kernel_rfl) (by kernel_rfl), hMx.perm (List.Perm.refl _), (nt hx9), (nt hx10), (nt hx6), cu30, cu31, cu32, cu33, kf, (nt hx5), (nt hx7), (nt hx8), rfl, rfl, rfl, cr3_0, cr3_1, cr3_2, (nt hx5), cf0, (nt hx5)⟩
  · -- 5: call
   obtain rfl := Option.some.inj hi
   have hx4 := hpre 4 (by kernel_rfl)
   have hx3 := hpre 3 (by kernel_rfl)
   have hx2 := hcl 3 2 (by kernel_rfl) hx3
   have hx1 := hcl 2 1 (by kernel_rfl) hx2
   have hx0 := hcl 2 0 (by kernel_rfl) hx2
   have hx5 := hSi
   have hx6 := negF hcl 6 5 (by kernel_rfl) hx5
   have hx7 := negF hcl 7 6 (by kernel_rfl) hx6
   have hx8 := negF hcl 8 6 (by kernel_rfl) hx6
   have hx9 := negF hcl 9 5 (by kernel_rfl) hx5
   have hx10 := negF hcl 10 5 (by kernel_rfl) hx5
   obtain rfl := cu30 hx0
   obtain rfl := cu31 hx1
   obtain rfl := cu32 hx2
   obtain rfl := cu33 hx3
   obtain rfl := cu34 hx4
   obtain rfl := cr0_0
   obtain rfl := cr1_0
   obtain rfl := cr2_0
   obtain rfl := cr3_2 hx3 hx5
   refine hG (any_step ?_); clear hG G; intro A J hJ
   have hle0 := Fz.le.trans hle0 hle124
   have hzst := Fz.le.refl Z123
   have hs189 := hs3.mono hle124
   have hs190 := hs6.mono hle124
   have hs191 := hs9.mono hle124
   have hs192 := cf0 hx3
   obtain ⟨Z193, hle194, hM195, hs196⟩ := hMx.freeze 3 rfl
   replace hzst := hzst.mono hle194
   replace hs189 := hs189.mono hle194
   replace hs190 := hs190.mono hle194
   replace hs191 := hs191.mono hle194
   replace hs192 := hs192.mono hle194
   replace hle0 := Fz.le.trans hle0 hle194
   have hM197 : Mem w.heap.size [] w Z [.own (tyInt .i64) 3 ao55 cap56 ((finS u1 u2).1), .own (tyInt .i64) 3 ao30 cap31 ((finS u0 u2).1), .row b14 [.int .i64 u2.ID, .bool u2.Long, .bool u2.Fast, .bool u2.Remote, .int .i64 u2.Size, .slice ao7 u2.Data.length cap8] 38] Z193 w1 := hM195; clear hM195
   refine cl hFx 25 #[.slice ao91 (fconcatS ([u0, u1] : List (List Filter))).length cap92, .agg #[.int .i64 u2.ID, .bool u2.Long, .bool u2.Fast, .bool u2.Remote, .int .i64 u2.Size, .slice ao7 u2.Data.length cap8]] (nog rfl _) rfl (by kernel_rfl) (by kernel_rfl) ?_
   refine (filterin_fun (fconcatS ([u0, u1] : List (List Filter))) u2 ao91 cap92 ao7 cap8 _ _ hs196 hs191 hM197.fz).mono ?_; rintro _ wd198 ⟨ao202, cap203, Z204, rfl, hm⟩; refine ⟨_, rfl, ?_⟩; intro a199 hF200; have hM201 := hM197.callZ hm; have hle205 := hm.ext.le; clear hm hM197 hFx
   replace hzst := hzst.mono hle205
   replace hs189 := hs189.mono hle205
   replace hs190 := hs190.mono hle205
   replace hs191 := hs191.mono hle205
   replace hs192 := hs192.mono hle205
   replace hs196 := hs196.mono hle205
   replace hle0 := Fz.le.trans hle0 hle205
   have hM206 : Mem w.heap.size [] w Z [.own (tyInt .i64) 3 ao202 cap203 ((finS (fconcatS ([u0, u1] : List (List Filter))) u2).1), .own (tyInt .i64) 3 ao55 cap56 ((finS u1 u2).1), .own (tyInt .i64) 3 ao30 cap31 ((finS u0 u2).1), .row b14 [.int .i64 u2.ID, .bool u2.Long, .bool u2.Fast, .bool u2.Remote, .int .i64 u2.Size, .slice ao7 u2.Data.length cap8] 38] Z204 wd198 := hM201; clear hM201
   refine nl (qnI (hJ _ _ ?_)); clear hJ J
   exact ⟨b76, ao91, cap92, ao202, cap203, ud11, ud12, ud29, .slice ao1 u0.length cap2, .slice ao4 u1.length cap5, .slice (some ⟨b76, 0, none⟩) 2 2, .slice ao91 (fconcatS ([u0, u1] : List (List Filter))).length cap92, .agg #[.int .i64 u2.ID, .bool u2.Long, .bool u2.Fast, .bool u2.Remote, .int .i64 u2.Size, .slice ao7 u2.Data.length cap8], .tuple #[.slice ao202 ((finS (fconcatS ([u0, u1] : List (List Filter))) u2).1).length cap203, .int .i64 ((finS (fconcatS ([u0, u1] : List (List Filter))) u2).2)], ud36, ud37, .own (tyInt .i64) 3 ao55 cap56 ((finS u1 u2).1), .own (tyInt .i64) 3 ao30 cap31 ((finS u0 u2).1), .row b14 [.int .i64 u2.ID, .bool u2.Long, .bool u2.Fast, .bool u2.Remote, .int .i64 u2.Size, .slice ao7 u2.Data.length cap8] 38, .own (tyInt .i64) 3 ao202 cap203 ((finS (fconcatS ([u0, u1] : List (List Filter))) u2).1), Z204, hle124.trans hzst, hF200.region (by kernel_rfl) (by kernel_rfl), hM206.perm ((pk 1 rfl).trans (((pk 1 rfl).trans (((pk 1 rfl).trans ((List.Perm.refl _).cons _)).cons _)).cons _)), (nt hx9), (nt hx10), (nt hx6), kf, kf, kf, kf, kf, kf, (nt hx7), (nt hx8), rfl, rfl, rfl, (tn hx2), (fun _ => tn hx3), (fun _ => nu), kf, (fun _ => hs192), (fun _ => hs196)⟩
  · -- 6: move
   obtain rfl := Option.some.inj hi
   have hx5 := hpre 5 (by kernel_rfl)
   have hx4 := hcl 5 4 (by kernel_rfl) hx5
   have hx3 := hcl 5 3 (by kernel_rfl) hx5
   have hx2 := hcl 3 2 (by kernel_rfl) hx3
   have hx1 := hcl 2 1 (by kernel_rfl) hx2
   have hx0 := hcl 2 0 (by kernel_rfl) hx2
   have hx6 := hSi
   have hx7 := negF hcl 7 6 (by kernel_rfl) hx6
   have hx8 := negF hcl 8 6 (by kernel_rfl) hx6
   have hx9 := negF hcl 9 6 (by kernel_rfl) hx6
   have hx10 := negF hcl 10 6 (by kernel_rfl) hx6
   obtain rfl := cu30 hx0
   obtain rfl := cu31 hx1
   obtain rfl := cu32 hx2
   obtain rfl := cu33 hx3
   obtain rfl := cu34 hx4
   obtain rfl := cu35 hx5
   obtain rfl := cr0_0
   obtain rfl := cr1_0
   obtain rfl := cr2_0
   obtain rfl := cr3_3 hx5
   refine hG (any_step ?_); clear hG G; intro A J hJ
   have hle0 := Fz.le.trans hle0 hle124
   have hzst := Fz.le.refl Z123
   have hs208 := hs3.mono hle124
   have hs209 := hs6.mono hle124
   have hs210 := hs9.mono hle124
   have hs211 := cf0 hx3
   have hs212 := cf1 hx5
   refine s1 hFx 29 (.tuple #[.slice ao107 ((finS (fconcatS ([u0, u1] : List (List Filter))) u2).1).length cap108, .int .i64 ((finS (fconcatS ([u0, u1] : List (List Filter))) u2).2)]) ?_; intro a213 hF214; clear hFx
   refine nl (qnI (hJ _ _ ?_)); clear hJ J
   exact ⟨b76, ao91, cap92, ao107, cap108, ud11, ud12, .tuple #[.slice ao107 ((finS (fconcatS ([u0, u1] : List (List Filter))) u2).1).length cap108, .int .i64 ((finS (fconcatS ([u0, u1] : List (List Filter))) u2).2)], .slice ao1 u0.length cap2, .slice ao4 u1.length cap5, .slice (some ⟨b76, 0, none⟩) 2 2, .slice ao91 (fconcatS ([u0, u1] : List (List Filter))).length cap92, .agg #[.int .i64 u2.ID, .bool u2.Long, .bool u2.Fast, .bool u2.Remote, .int .i64 u2.Size, .slice ao7 u2.Data.length cap8], .tuple #[.slice ao107 ((finS (fconcatS ([u0, u1] : List (List Filter))) u2).1).length cap108, .int .i64 ((finS (fconcatS ([u0, u1] : List (List Filter))) u2).2)], ud36, ud37, .own (tyInt .i64) 3 ao55 cap56 ((finS u1 u2).1), .own (tyInt .i64) 3 ao30 cap31 ((finS u0 u2).1), .row b14 [.int .i64 u2.ID, .bool u2.Long, .bool u2.Fast, .bool u2.Remote, .int .i64 u2.Size, .slice ao7 u2.Data.length cap8] 38, .own (tyInt .i64) 3 ao107 cap108 ((finS (fconcatS ([u0, u1] : List (List Filter))) u2).1), Z123, hle124, hF214.region (by kernel_rfl) (by kernel_rfl), hMx.perm (List.Perm.refl _), (nt hx9), (nt hx10), kf, kf, kf, kf, kf, kf, kf, (nt hx7), (nt hx8), rfl, rfl, rfl, (tn hx2), (fun _ => tn hx3), (fun _ => tn hx5), kf, (fun _ => hs211), (fun _ => hs212)⟩
  · -- 7: extract
   obtain rfl := Option.some.inj hi
   have hx6 := hpre 6 (by kernel_rfl)
   have hx5 := hcl 6 5 (by kernel_rfl) hx6
   have hx4 := hcl 5 4 (by kernel_rfl) hx5
   have hx3 := hcl 5 3 (by kernel_rfl) hx5
   have hx2 := hcl 3 2 (by kernel_rfl) hx3
   have hx1 := hcl 2 1 (by kernel_rfl) hx2
   have hx0 := hcl 2 0 (by kernel_rfl) hx2
   have hx7 := hSi
   have hx9 := negF hcl 9 7 (by kernel_rfl) hx7
   have hx10 := negF hcl 10 7 (by kernel_rfl) hx7
   obtain rfl := cu29 hx6
   obtain rfl := cu30 hx0
   obtain rfl := cu31 hx1
   obtain rfl := cu32 hx2
   obtain rfl := cu33 hx3
   obtain rfl := cu34 hx4
   obtain rfl := cu35 hx5
   obtain rfl := cr0_0
   obtain rfl := cr1_0
   obtain rfl := cr2_0
   obtain rfl := cr3_3 hx5
   refine hG (any_step ?_); clear hG G; intro A J hJ
   have hle0 := Fz.le.trans hle0 hle124
   have hzst := Fz.le.refl Z123
   have hs216 := hs3.mono hle124
   have hs217 := hs6.mono hle124
   have hs218 := hs9.mono hle124
   have hs219 := cf0 hx3
   have hs220 := cf1 hx5
   refine s1 hFx 36 (.slice ao107 ((finS (fconcatS ([u0, u1] : List (List Filter))) u2).1).length cap108) ?_; intro a221 hF222; clear hFx
   refine nl (qnI (hJ _ _ ?_)); clear hJ J
   exact ⟨b76, ao91, cap92, ao107, cap108, ud11, ud12, .tuple #[.slice ao107 ((finS (fconcatS ([u0, u1] : List (List Filter))) u2).1).length cap108, .int .i64 ((finS (fconcatS ([u0, u1] : List (List Filter))) u2).2)], .slice ao1 u0.length cap2, .slice ao4 u1.length cap5, .slice (some ⟨b76, 0, none⟩) 2 2, .slice ao91 (fconcatS ([u0, u1] : List (List Filter))).length cap92, .agg #[.int .i64 u2.ID, .bool u2.Long, .bool u2.Fast, .bool u2.Remote, .int .i64 u2.Size, .slice ao7 u2.Data.length cap8], .tuple #[.slice ao107 ((finS (fconcatS ([u0, u1] : List (List Filter))) u2).1).length cap108, .int .i64 ((finS (fconcatS ([u0, u1] : List (List Filter))) u2).2)], .slice ao107 ((finS (fconcatS ([u0, u1] : List (List Filter))) u2).1).length cap108, ud37, .own (tyInt .i64) 3 ao55 cap56 ((finS u1 u2).1), .own (tyInt .i64) 3 ao30 cap31 ((finS u0 u2).1), .row b14 [.int .i64 u2.ID, .bool u2.Long, .bool u2.Fast, .bool u2.Remote, .int .i64 u2.Size, .slice ao7 u2.Data.length cap8] 38, .own (tyInt .i64) 3 ao107 cap108 ((finS (fconcatS ([u0, u1] : List (List Filter))) u2).1), Z123, hle124, hF222.region (by kernel_rfl) (by kernel_rfl), hMx.perm (List.Perm.refl _), (nt hx9), (nt hx10), kf, kf, kf, kf, kf, kf, kf, kf, cu37, rfl, rfl, rfl, (tn hx2), (fun _ => tn hx3), (fun _ => tn hx5), kf, (fun _ => hs219), (fun _ => hs220)⟩
  · -- 8: extract
   obtain rfl := Option.some.inj hi
   have hx6 := hpre 6 (by kernel_rfl)
   have hx5 := hcl 6 5 (by kernel_rfl) hx6
   have hx4 := hcl 5 4 (by kernel_rfl) hx5
   have hx3 := hcl 5 3 (by kernel_rfl) hx5
   have hx2 := hcl 3 2 (by kernel_rfl) hx3
   have hx1 := hcl 2 1 (by kernel_rfl) hx2
   have hx0 := hcl 2 0 (by kernel_rfl) hx2
   have hx8 := hSi
   have hx10 := negF hcl 10 8 (by kernel_rfl) hx8
   obtain rfl := cu29 hx6
   obtain rfl := cu30 hx0
   obtain rfl := cu31 hx1
   obtain rfl := cu32 hx2
   obtain rfl := cu33 hx3
   obtain rfl := cu34 hx4
   obtain rfl := cu35 hx5
   obtain rfl := cr0_0
   obtain rfl := cr1_0
   obtain rfl := cr2_0
   obtain rfl := cr3_3 hx5
   refine hG (any_step ?_); clear hG G; intro A J hJ
   have hle0 := Fz.le.trans hle0 hle124
   have hzst := Fz.le.refl Z123
   have hs224 := hs3.mono hle124
   have hs225 := hs6.mono hle124
   have hs226 := hs9.mono hle124
   have hs227 := cf0 hx3
   have hs228 := cf1 hx5
   refine s1 hFx 37 (.int .i64 ((finS (fconcatS ([u0, u1] : List (List Filter))) u2).2)) ?_; intro a229 hF230; clear hFx
   refine nl (qnI (hJ _ _ ?_)); clear hJ J
   exact ⟨b76, ao91, cap92, ao107, cap108, ud11, ud12, .tuple #[.slice ao107 ((finS (fconcatS ([u0, u1] : List (List Filter))) u2).1).length cap108, .int .i64 ((finS (fconcatS ([u0, u1] : List (List Filter))) u2).2)], .slice ao1 u0.length cap2, .slice ao4 u1.length cap5, .slice (some ⟨b76, 0, none⟩) 2 2, .slice ao91 (fconcatS ([u0, u1] : List (List Filter))).length cap92, .agg #[.int .i64 u2.ID, .bool u2.Long, .bool u2.Fast, .bool u2.Remote, .int .i64 u2.Size, .slice ao7 u2.Data.length cap8], .tuple #[.slice ao107 ((finS (fconcatS ([u0, u1] : List (List Filter))) u2).1).length cap108, .int .i64 ((finS (fconcatS ([u0, u1] : List (List Filter))) u2).2)], ud36, .int .i64 ((finS (fconcatS ([u0, u1] : List (List Filter))) u2).2), .own (tyInt .i64) 3 ao55 cap56 ((finS u1 u2).1), .own (tyInt .i64) 3 ao30 cap31 ((finS u0 u2).1), .row b14 [.int .i64 u2.ID, .bool u2.Long, .bool u2.Fast, .bool u2.Remote, .int .i64 u2.Size, .slice ao7 u2.Data.length cap8] 38, .own (tyInt .i64) 3 ao107 cap108 ((finS (fconcatS ([u0, u1] : List (List Filter))) u2).1), Z123, hle124, hF230.region (by kernel_rfl) (by kernel_rfl), hMx.perm (List.Perm.refl _), cu11, (nt hx10), kf, kf, kf, kf, kf, kf, kf, cu36, kf, rfl, rfl, rfl, (tn hx2), (fun _ => tn hx3), (fun _ => tn hx5), kf, (fun _ => hs227), (fun _ => hs228)⟩
  · -- 9: assign
   obtain rfl := Option.some.inj hi
   have hx7 := hpre 7 (by kernel_rfl)
   have hx6 := hpre 6 (by kernel_rfl)
   have hx5 := hpre 5 (by kernel_rfl)
   have hx4 := hpre 4 (by kernel_rfl)
   have hx3 := hpre 3 (by kernel_rfl)
   have hx2 := hpre 2 (by kernel_rfl)
   have hx1 := hpre 1 (by kernel_rfl)
   have hx0 := hpre 0 (by kernel_rfl)
   have hx9 := hSi
   have hx10 := negF hcl 10 9 (by kernel_rfl) hx9
   obtain rfl := cu29 hx6
   obtain rfl := cu30 hx0
   obtain rfl := cu31 hx1
   obtain rfl := cu32 hx2
   obtain rfl := cu33 hx3
   obtain rfl := cu34 hx4
   obtain rfl := cu35 hx5
   obtain rfl := cu36 hx7
   obtain rfl := cr0_0
   obtain rfl := cr1_0
   obtain rfl := cr2_0
   obtain rfl := cr3_3 hx5
   refine hG (any_step ?_); clear hG G; intro A J hJ
   have hle0 := Fz.le.trans hle0 hle124
   have hzst := Fz.le.refl Z123
   have hs232 := hs3.mono hle124
   have hs233 := hs6.mono hle124
   have hs234 := hs9.mono hle124
   have hs235 := cf0 hx3
   have hs236 := cf1 hx5
   refine s1 hFx 11 (.slice ao107 ((finS (fconcatS ([u0, u1] : List (List Filter))) u2).1).length cap108) ?_; intro a237 hF238; clear hFx
   refine nl (qnI (hJ _ _ ?_)); clear hJ J
   exact ⟨b76, ao91, cap92, ao107, cap108, .slice ao107 ((finS (fconcatS ([u0, u1] : List (List Filter))) u2).1).length cap108, ud12, .tuple #[.slice ao107 ((finS (fconcatS ([u0, u1] : List (List Filter))) u2).1).length cap108, .int .i64 ((finS (fconcatS ([u0, u1] : List (List Filter))) u2).2)], .slice ao1 u0.length cap2, .slice ao4 u1.length cap5, .slice (some ⟨b76, 0, none⟩) 2 2, .slice ao91 (fconcatS ([u0, u1] : List (List Filter))).length cap92, .agg #[.int .i64 u2.ID, .bool u2.Long, .bool u2.Fast, .bool u2.Remote, .int .i64 u2.Size, .slice ao7 u2.Data.length cap8], .tuple #[.slice ao107 ((finS (fconcatS ([u0, u1] : List (List Filter))) u2).1).length cap108, .int .i64 ((finS (fconcatS ([u0, u1] : List (List Filter))) u2).2)], .slice ao107 ((finS (fconcatS ([u0, u1] : List (List Filter))) u2).1).length cap108, ud37, .own (tyInt .i64) 3 ao55 cap56 ((finS u1 u2).1), .own (tyInt .i64) 3 ao30 cap31 ((finS u0 u2).1), .row b14 [.int .i64 u2.ID, .bool u2.Long, .bool u2.Fast, .bool u2.Remote, .int .i64 u2.Size, .slice ao7 u2.Data.length cap8] 38, .own (tyInt .i64) 3 ao107 cap108 ((finS (fconcatS ([u0, u1] : List (List Filter))) u2).1), Z123, hle124, hF238.region (by kernel_rfl) (by kernel_rfl), hMx.perm (List.Perm.refl _), kf, (nt hx10), kf, kf, kf, kf, kf, kf, kf, kf, cu37, rfl, rfl, rfl, (tn hx2), (fun _ => tn hx3), (fun _ => tn hx5), kf, (fun _ => hs235), (fun _ => hs236)⟩
  · -- 10: assign
   obtain rfl := Option.some.inj hi
   have hx9 := hpre 9 (by kernel_rfl)
   have hx8 := hpre 8 (by kernel_rfl)
   have hx7 := hpre 7 (by kernel_rfl)
   have hx6 := hpre 6 (by kernel_rfl)
   have hx5 := hpre 5 (by kernel_rfl)
   have hx4 := hpre 4 (by kernel_rfl)
   have hx3 := hpre 3 (by kernel_rfl)
   have hx2 := hpre 2 (by kernel_rfl)
   have hx1 := hpre 1 (by kernel_rfl)
   have hx0 := hpre 0 (by kernel_rfl)
   have hx10 := hSi
   obtain rfl := cu11 hx9
   obtain rfl := cu29 hx6
   obtain rfl := cu30 hx0
   obtain rfl := cu31 hx1
   obtain rfl := cu32 hx2
   obtain rfl := cu33 hx3
   obtain rfl := cu34 hx4
   obtain rfl := cu35 hx5
   obtain rfl := cu36 hx7
   obtain rfl := cu37 hx8
   obtain rfl := cr0_0
   obtain rfl := cr1_0
   obtain rfl := cr2_0
   obtain rfl := cr3_3 hx5
   refine hG (any_step ?_); clear hG G; intro A J hJ
   have hle0 := Fz.le.trans hle0 hle124
   have hzst := Fz.le.refl Z123
   have hs240 := hs3.mono hle124
   have hs241 := hs6.mono hle124
   have hs242 := hs9.mono hle124
   have hs243 := cf0 hx3
   have hs244 := cf1 hx5
   refine s1 hFx 12 (.int .i64 ((finS (fconcatS ([u0, u1] : List (List Filter))) u2).2)) ?_; intro a245 hF246; clear hFx
   refine nl (qnI (hJ _ _ ?_)); clear hJ J
   exact ⟨b76, ao91, cap92, ao107, cap108, .slice ao107 ((finS (fconcatS ([u0, u1] : List (List Filter))) u2).1).length cap108, .int .i64 ((finS (fconcatS ([u0, u1] : List (List Filter))) u2).2), .tuple #[.slice ao107 ((finS (fconcatS ([u0, u1] : List (List Filter))) u2).1).length cap108, .int .i64 ((finS (fconcatS ([u0, u1] : List (List Filter))) u2).2)], .slice ao1 u0.length cap2, .slice ao4 u1.length cap5, .slice (some ⟨b76, 0, none⟩) 2 2, .slice ao91 (fconcatS ([u0, u1] : List (List Filter))).length cap92, .agg #[.int .i64 u2.ID, .bool u2.Long, .bool u2.Fast, .bool u2.Remote, .int .i64 u2.Size, .slice ao7 u2.Data.length cap8], .tuple #[.slice ao107 ((finS (fconcatS ([u0, u1] : List (List Filter))) u2).1).length cap108, .int .i64 ((finS (fconcatS ([u0, u1] : List (List Filter))) u2).2)], .slice ao107 ((finS (fconcatS ([u0, u1] : List (List Filter))) u2).1).length cap108, .int .i64 ((finS (fconcatS ([u0, u1] : List (List Filter))) u2).2), .own (tyInt .i64) 3 ao55 cap56 ((finS u1 u2).1), .own (tyInt .i64) 3 ao30 cap31 ((finS u0 u2).1), .row b14 [.int .i64 u2.ID, .bool u2.Long, .bool u2.Fast, .bool u2.Remote, .int .i64 u2.Size, .slice ao7 u2.Data.length cap8] 38, .own (tyInt .i64) 3 ao107 cap108 ((finS (fconcatS ([u0, u1] : List (List Filter))) u2).1), Z123, hle124, hF246.region (by kernel_rfl) (by kernel_rfl), hMx.perm (List.Perm.refl _), kf, kf, kf, kf, kf, kf, kf, kf, kf, kf, kf, rfl, rfl, rfl, (tn hx2), (fun _ => tn hx3), (fun _ => tn hx5), kf, (fun _ => hs243), (fun _ => hs244)⟩
 case hE =>
  intro S hS a248 wd249 hI; refine hid ?_; intro G hG; obtain ⟨b76, hI⟩ := hI; obtain ⟨ao91, hI⟩ := hI; obtain ⟨cap92, hI⟩ := hI; obtain ⟨ao107, hI⟩ := hI; obtain ⟨cap108, hI⟩ := hI; obtain ⟨ud11, hI⟩ := hI; obtain ⟨ud12, hI⟩ := hI; obtain ⟨ud29, hI⟩ := hI; obtain ⟨ud30, hI⟩ := hI; obtain ⟨ud31, hI⟩ := hI; obtain ⟨ud32, hI⟩ := hI; obtain ⟨ud33, hI⟩ := hI; obtain ⟨ud34, hI⟩ := hI; obtain ⟨ud35, hI⟩ := hI; obtain ⟨ud36, hI⟩ := hI; obtain ⟨ud37, hI⟩ := hI; obtain ⟨rh0, hI⟩ := hI; obtain ⟨rh1, hI⟩ := hI; obtain ⟨rh2, hI⟩ := hI; obtain ⟨rh3, hI⟩ := hI; obtain ⟨Z123, hI⟩ := hI; obtain ⟨hle124, hI⟩ := hI; obtain ⟨hFx, hI⟩ := hI; obtain ⟨hMx, hI⟩ := hI; obtain ⟨cu11, hI⟩ := hI; obtain ⟨cu12, hI⟩ := hI; obtain ⟨cu29, hI⟩ := hI; obtain ⟨cu30, hI⟩ := hI; obtain ⟨cu31, hI⟩ := hI; obtain ⟨cu32, hI⟩ := hI; obtain ⟨cu33, hI⟩ := hI; obtain ⟨cu34, hI⟩ := hI; obtain ⟨cu35, hI⟩ := hI; obtain ⟨cu36, hI⟩ := hI; obtain ⟨cu37, hI⟩ := hI; obtain ⟨cr0_0, hI⟩ := hI; obtain ⟨cr1_0, hI⟩ := hI; obtain ⟨cr2_0, hI⟩ := hI; obtain ⟨cr3_0, hI⟩ := hI; obtain ⟨cr3_1, hI⟩ := hI; obtain ⟨cr3_2, hI⟩ := hI; obtain ⟨cr3_3, hI⟩ := hI; obtain ⟨cf0, hI⟩ := hI; have cf1 := hI; clear hI; refine hG ?_; clear hG G
  obtain rfl := cu11 (hS 9 (by decide))
  obtain rfl := cu12 (hS 10 (by decide))
  obtain rfl := cu29 (hS 6 (by decide))
  obtain rfl := cu30 (hS 0 (by decide))
  obtain rfl := cu31 (hS 1 (by decide))
  obtain rfl := cu32 (hS 2 (by decide))
  obtain rfl := cu33 (hS 3 (by decide))
  obtain rfl := cu34 (hS 4 (by decide))
  obtain rfl := cu35 (hS 5 (by decide))
  obtain rfl := cu36 (hS 7 (by decide))
  obtain rfl := cu37 (hS 8 (by decide))
  obtain rfl := cr0_0
  obtain rfl := cr1_0
  obtain rfl := cr2_0
  obtain rfl := cr3_3 (hS 5 (by decide))
  have hle0 := Fz.le.trans hle0 hle124
  have hs250 := hs3.mono hle124
  have hs251 := hs6.mono hle124
  have hs252 := hs9.mono hle124
  have hs253 := cf0 (hS 3 (by decide))
  have hs254 := cf1 (hS 5 (by decide))
  refine thn ?_
  refine wp_seq ?_
  have hF255 : Fr 100 [] [⟨0, [], .slice ao1 u0.length cap2⟩, ⟨1, [], .slice ao4 u1.length cap5⟩, ⟨5, [], .pointer (some ⟨b14, 0, none⟩)⟩, ⟨7, [], .slice ao30 ((finS u0 u2).1).length cap31⟩, ⟨8, [], .int .i64 ((finS u0 u2).2)⟩, ⟨9, [], .slice ao55 ((finS u1 u2).1).length cap56⟩, ⟨10, [], .int .i64 ((finS u1 u2).2)⟩, ⟨11, [], .slice ao107 ((finS (fconcatS ([u0, u1] : List (List Filter))) u2).1).length cap108⟩, ⟨12, [], .int .i64 ((finS (fconcatS ([u0, u1] : List (List Filter))) u2).2)⟩] a248 := hFx.region (by kernel_rfl) (by kernel_rfl); clear hFx
  refine sqH ?_; intro hQ256Q hQ256
  refine fcl hF255 hMx (.bool true) 16 #[] (nog rfl _) rfl (by kernel_rfl) (fun _ => by kernel_rfl) (filtered_fun  _ _ hMx.fz) ?_; intro a257 wd259 hF258 hM260; clear hF255 hMx
  refine s1 hF258 39 (.bool false) ?_; intro a261 hF262; clear hF258
  refine s1 hF262 40 (.bool false) ?_; intro a263 hF264; clear hF262
  refine st hF264 (.int .i64 ((finS u0 u2).2)) (by rw [wanted_of hF264 (b := false) rfl rfl (by kernel_rfl) (by kernel_rfl)]; rfl) rfl (by kernel_rfl) (p0 hF264 (by kernel_rfl)) ?_; intro a265 hF266; clear hF264
  refine st hF266 (.bool (((finS u0 u2).2) != 0)) (by rw [wanted_of hF266 (b := false) rfl rfl (by kernel_rfl) (by kernel_rfl)]; rfl) rfl (by kernel_rfl) (p0 hF266 (by kernel_rfl)) ?_; intro a267 hF268; clear hF266
  refine s1 hF268 43 (.bool (((finS u0 u2).2) != 0)) ?_; intro a269 hF270; clear hF268
  refine s1 hF270 44 (.bool (((finS u0 u2).2) != 0)) ?_; intro a271 hF272; clear hF270
  have hF273 := hF272.atom ((((finS u0 u2).2) != 0) == false) (by kernel_rfl); clear hF272
  refine gp hF273 45 0 [] (((finS u0 u2).2) != 0) (.int .i64 ((finS u1 u2).2)) rfl rfl ?_; intro a274 hF275; clear hF273
  refine gp hF275 46 0 [] (((finS u0 u2).2) != 0) (.bool (((finS u1 u2).2) != 0)) rfl rfl ?_; intro a276 hF277; clear hF275
  refine st hF277 (.bool ((((finS u0 u2).2) != 0) || (((finS u1 u2).2) != 0))) (nog rfl _) rfl (by kernel_rfl) (pk_or hF277 (g := []) (m := 0) (b := ((finS u0 u2).2) != 0) (v := ((finS u1 u2).2) != 0) rfl (by kernel_rfl) (by kernel_rfl) (by kernel_rfl) rfl) ?_; intro a278 hF279; clear hF277
  refine s1 hF279 48 (.bool ((((finS u0 u2).2) != 0) || (((finS u1 u2).2) != 0))) ?_; intro a280 hF281; clear hF279
  have hF282 := hF281.atom (((((finS u0 u2).2) != 0) || (((finS u1 u2).2) != 0)) == false) (by kernel_rfl); clear hF281
  refine gp hF282 49 1 [] ((((finS u0 u2).2) != 0) || (((finS u1 u2).2) != 0)) (.int .i64 ((finS (fconcatS ([u0, u1] : List (List Filter))) u2).2)) rfl rfl ?_; intro a283 hF284; clear hF282
  refine gp hF284 50 1 [] ((((finS u0 u2).2) != 0) || (((finS u1 u2).2) != 0)) (.bool (((finS (fconcatS ([u0, u1] : List (List Filter))) u2).2) != 0)) rfl rfl ?_; intro a285 hF286; clear hF284
  refine st hF286 (.bool (((((finS u0 u2).2) != 0) || (((finS u1 u2).2) != 0)) || (((finS (fconcatS ([u0, u1] : List (List Filter))) u2).2) != 0))) (nog rfl _) rfl (by kernel_rfl) (pk_or hF286 (g := []) (m := 1) (b := (((finS u0 u2).2) != 0) || (((finS u1 u2).2) != 0)) (v := ((finS (fconcatS ([u0, u1] : List (List Filter))) u2).2) != 0) rfl (by kernel_rfl) (by kernel_rfl) (by kernel_rfl) rfl) ?_; intro a287 hF288; clear hF286
  refine nlH (hQ256 _ _ ?_); clear hQ256 hQ256Q
  refine cd hF288 (t := ((((finS u0 u2).2) != 0) || (((finS u1 u2).2) != 0)) || (((finS (fconcatS ([u0, u1] : List (List Filter))) u2).2) != 0)) (by kernel_rfl) (fun hb289 => ?_) (fun hb289 => ?_)
  · -- yes
   have hp290 := hp122.1 hb289; clear hp122
   have hF291 : Fr 100 [] [] a287 := hF288.region (by kernel_rfl) (by kernel_rfl); clear hF288
   refine sqH ?_; intro hQ292Q hQ292
   refine fcl hF291 hM260 (.bool true) 16 #[] (nog rfl _) rfl (by kernel_rfl) (fun _ => by kernel_rfl) (filtered_fun  _ _ hM260.fz) ?_; intro a293 wd295 hF294 hM296; clear hF291 hM260
   refine s1 hF294 6 (.bool true) ?_; intro a297 hF298; clear hF294
   refine nlH (hQ292 _ _ ?_); clear hQ292 hQ292Q
   refine wp_ret ?_
   refine thr ?_
   refine rt (fn := Try.f8) (v := .bool true) hF298 (re1 hF298 (fn := Try.f8) rfl (by kernel_rfl)) ?_
   exact ⟨true, rfl, hp290, hM296.below⟩
  · -- no
   have hp299 := hp122.2 hb289; clear hp122
   refine wp_skip ?_
   refine thn ?_
   refine wp_seq ?_
   have hF300 : Fr 100 [] [⟨0, [], .slice ao1 u0.length cap2⟩, ⟨1, [], .slice ao4 u1.length cap5⟩, ⟨5, [], .pointer (some ⟨b14, 0, none⟩)⟩, ⟨7, [], .slice ao30 ((finS u0 u2).1).length cap31⟩, ⟨9, [], .slice ao55 ((finS u1 u2).1).length cap56⟩, ⟨11, [], .slice ao107 ((finS (fconcatS ([u0, u1] : List (List Filter))) u2).1).length cap108⟩] a287 := hF288.region (by kernel_rfl) (by kernel_rfl); clear hF288
   refine sqH ?_; intro hQ301Q hQ301
   refine s1 hF300 53 (.slice ao55 ((finS u1 u2).1).length cap56) ?_; intro a302 hF303; clear hF300
   refine s1 hF303 54 (.int .i64 (((finS u1 u2).1).length : Int)) ?_; intro a304 hF305; clear hF303
   refine s1 hF305 55 (.int .i64 0) ?_; intro a306 hF307; clear hF305
   refine nlH (hQ301 _ _ ?_); clear hQ301 hQ301Q
   refine wp_block ?_
   have hF308 : Fr 100 [] [⟨0, [], .slice ao1 u0.length cap2⟩, ⟨1, [], .slice ao4 u1.length cap5⟩, ⟨5, [], .pointer (some ⟨b14, 0, none⟩)⟩, ⟨7, [], .slice ao30 ((finS u0 u2).1).length cap31⟩, ⟨11, [], .slice ao107 ((finS (fconcatS ([u0, u1] : List (List Filter))) u2).1).length cap108⟩, ⟨53, [], .slice ao55 ((finS u1 u2).1).length cap56⟩, ⟨54, [], .int .i64 (((finS u1 u2).1).length : Int)⟩, ⟨55, [], .int .i64 0⟩] a306 := hF307.region (by kernel_rfl) (by kernel_rfl); clear hF307
   obtain ⟨Z310, hle311, hM312, hs313⟩ := hM260.freeze 0 rfl
   replace hs250 := hs250.mono hle311
   replace hs251 := hs251.mono hle311
   replace hs252 := hs252.mono hle311
   replace hs253 := hs253.mono hle311
   replace hs254 := hs254.mono hle311
   replace hle0 := Fz.le.trans hle0 hle311
   have hM314 : Mem w.heap.size [] w Z [.own (tyInt .i64) 3 ao30 cap31 ((finS u0 u2).1), .row b14 [.int .i64 u2.ID, .bool u2.Long, .bool u2.Fast, .bool u2.Remote, .int .i64 u2.Size, .slice ao7 u2.Data.length cap8] 38, .own (tyInt .i64) 3 ao107 cap108 ((finS (fconcatS ([u0, u1] : List (List Filter))) u2).1)] Z310 wd259 := hM312; clear hM312
   have hF315 : Fr 100 [] [⟨0, [], .slice ao1 u0.length cap2⟩, ⟨1, [], .slice ao4 u1.length cap5⟩, ⟨5, [], .pointer (some ⟨b14, 0, none⟩)⟩, ⟨7, [], .slice ao30 ((finS u0 u2).1).length cap31⟩, ⟨11, [], .slice ao107 ((finS (fconcatS ([u0, u1] : List (List Filter))) u2).1).length cap108⟩, ⟨53, [], .slice ao55 ((finS u1 u2).1).length cap56⟩, ⟨54, [], .int .i64 (((finS u1 u2).1).length : Int)⟩, ⟨55, [], .int .i64 0⟩] a306 := hF308.region (by kernel_rfl) (by kernel_rfl); clear hF308
   obtain ⟨inv309, mu309, hI318, hr317⟩ := hp299
   refine lp (ι := (List Int) × Int × (Option Addr) × Nat) (fun (s : (List Int) × Int × (Option Addr) × Nat) => [⟨0, [], .slice ao1 u0.length cap2⟩, ⟨1, [], .slice ao4 u1.length cap5⟩, ⟨5, [], .pointer (some ⟨b14, 0, none⟩)⟩, ⟨7, [], .slice s.2.2.1 s.1.length s.2.2.2⟩, ⟨11, [], .slice ao107 ((finS (fconcatS ([u0, u1] : List (List Filter))) u2).1).length cap108⟩, ⟨53, [], .slice ao55 ((finS u1 u2).1).length cap56⟩, ⟨54, [], .int .i64 (((finS u1 u2).1).length : Int)⟩, ⟨55, [], .int .i64 s.2.1⟩]) (fun (s : (List Int) × Int × (Option Addr) × Nat) => [.own (tyInt .i64) 3 s.2.2.1 s.2.2.2 s.1, .row b14 [.int .i64 u2.ID, .bool u2.Long, .bool u2.Fast, .bool u2.Remote, .int .i64 u2.Size, .slice ao7 u2.Data.length cap8] 38, .own (tyInt .i64) 3 ao107 cap108 ((finS (fconcatS ([u0, u1] : List (List Filter))) u2).1)]) (fun (s : (List Int) × Int × (Option Addr) × Nat) => Z310) (fun (s : (List Int) × Int × (Option Addr) × Nat) => inv309 s.1 s.2.1) (fun (s : (List Int) × Int × (Option Addr) × Nat) => mu309 s.1 s.2.1) ⟨(finS u0 u2).1, 0, ao30, cap31⟩ hI318 (by exact hF315.region (by kernel_rfl) (by kernel_rfl)) (by exact hM314) ?_
   rintro ⟨x7, x55, aox7, capx7⟩ hI316 a320 wd321 hF322 hM323
   have hF324 : Fr 100 [] [⟨0, [], .slice ao1 u0.length cap2⟩, ⟨1, [], .slice ao4 u1.length cap5⟩, ⟨5, [], .pointer (some ⟨b14, 0, none⟩)⟩, ⟨7, [], .slice aox7 x7.length capx7⟩, ⟨11, [], .slice ao107 ((finS (fconcatS ([u0, u1] : List (List Filter))) u2).1).length cap108⟩, ⟨53, [], .slice ao55 ((finS u1 u2).1).length cap56⟩, ⟨54, [], .int .i64 (((finS u1 u2).1).length : Int)⟩, ⟨55, [], .int .i64 x55⟩] a320 := hF322; clear hF322 hF315
   have hM325 : Mem w.heap.size [] w Z [.own (tyInt .i64) 3 aox7 capx7 x7, .row b14 [.int .i64 u2.ID, .bool u2.Long, .bool u2.Fast, .bool u2.Remote, .int .i64 u2.Size, .slice ao7 u2.Data.length cap8] 38, .own (tyInt .i64) 3 ao107 cap108 ((finS (fconcatS ([u0, u1] : List (List Filter))) u2).1)] Z310 wd321 := hM323; clear hM323 hM314
   have hp326 := hr317 x7 x55 hI316
   refine sqH ?_; intro hQ327Q hQ327
   refine s1 hF324 56 (.bool (decide (x55 < (((finS u1 u2).1).length : Int)))) ?_; intro a328 hF329; clear hF324
   refine nlH (hQ327 _ _ ?_); clear hQ327 hQ327Q
   refine wp_seq ?_
   refine cd hF329 (t := decide (x55 < (((finS u1 u2).1).length : Int))) (by kernel_rfl) (fun hb330 => ?_) (fun hb330 => ?_)
   · -- yes
    have hp331 := hp326.1 hb330; clear hp326
    refine wp_skip ?_
    refine thn ?_
    refine wp_seq ?_
    refine wp_block ?_
    refine sqH ?_; intro hQ332Q hQ332
    have hc333 := hp331.1; have hp334 := hp331.2; clear hp331
    refine ix hF329 (T := (tyInt .i64)) (xs := (finS u1 u2).1) hs313 x55 hc333 (k := .i64) (e := 3) (bytes := 8) (nog rfl _) rfl (by kernel_rfl) rfl (by kernel_rfl) (by kernel_rfl) (by kernel_rfl) ?_; intro b335 off336 cs337 q338 a342 hq339 hP340 hT341 hF343; clear hF329
    have hp344 := hp334 q338 hq339; clear hp334
    obtain rfl : cs337 = ([.int .i64 q338] : List Value) := hT341
    refine z1 hF343 hM325 58 hP340 0 (.int .i64 q338) rfl ?_; intro a345 hF346; clear hF343
    refine s1 hF346 14 (.int .i64 q338) ?_; intro a347 hF348; clear hF346
    refine nlH (hQ332 _ _ ?_); clear hQ332 hQ332Q
    refine rgH ?_; intro hQ349Q hQ349
    refine s1 hF348 59 (.slice aox7 x7.length capx7) ?_; intro a350 hF351; clear hF348
    refine s1 hF351 60 (.slice ao1 u0.length cap2) ?_; intro a352 hF353; clear hF351
    refine s1 hF353 61 (.int .i64 (u0.length : Int)) ?_; intro a354 hF355; clear hF353
    refine s1 hF355 62 (.int .i64 q338) ?_; intro a356 hF357; clear hF355
    refine s1 hF357 63 (.int .i64 (w64 ((u0.length : Int) + q338))) ?_; intro a358 hF359; clear hF357
    refine sn hF359 hM325 (fun b => .slice (some ⟨b, 0, none⟩) 1 1) [.int .i64 (w64 ((u0.length : Int) + q338))] 3 (nog rfl _) rfl (by kernel_rfl) (by kernel_rfl) ?_; intro b360 a361 wd363 hF362 hM364; clear hF359 hM325
    have hc365 := hp344.1; have hp366 := hp344.2; clear hp344
    refine ap hF362 hM364 1 (T := (tyInt .i64)) (xs := x7) (ys := [w64 ((u0.length : Int) + q338)]) (ao := aox7) (cap := capx7) (ao2 := (some ⟨b360, 0, none⟩)) (cap2 := 1) (t := 43) (e := 3) (bytes := 8) (nog rfl _) rfl (by kernel_rfl) rfl (by kernel_rfl) (by kernel_rfl) (by kernel_rfl) rfl (Src.row hM364 0 rfl (RepAll.one (T := (tyInt .i64)) (x := (w64 ((u0.length : Int) + q338))) rfl)) hc365 ?_; intro ao367 cap368 a372 wd369 hnil370 hF373 hM371; clear hF362 hM364
    have hM374 : Mem w.heap.size [] w Z [.row b360 [.int .i64 (w64 ((u0.length : Int) + q338))] 3, .own (tyInt .i64) 3 ao367 cap368 (x7 ++ [w64 ((u0.length : Int) + q338)]), .row b14 [.int .i64 u2.ID, .bool u2.Long, .bool u2.Fast, .bool u2.Remote, .int .i64 u2.Size, .slice ao7 u2.Data.length cap8] 38, .own (tyInt .i64) 3 ao107 cap108 ((finS (fconcatS ([u0, u1] : List (List Filter))) u2).1)] Z310 wd369 := hM371; clear hM371
    refine s1 hF373 7 (.slice ao367 (x7 ++ [w64 ((u0.length : Int) + q338)]).length cap368) ?_; intro a375 hF376; clear hF373
    refine nlH (hQ349 _ _ ?_); clear hQ349 hQ349Q
    refine ibn ?_
    refine thn ?_
    refine rgH ?_; intro hQ377Q hQ377
    refine s1 hF376 66 (.int .i64 (w64 (x55 + 1))) ?_; intro a378 hF379; clear hF376
    refine s1 hF379 55 (.int .i64 (w64 (x55 + 1))) ?_; intro a380 hF381; clear hF379
    refine nlH (hQ377 _ _ ?_); clear hQ377 hQ377Q
    refine rd ?_
    exact ⟨⟨x7 ++ [w64 ((u0.length : Int) + q338)], w64 (x55 + 1), ao367, cap368⟩, hp366.1, hp366.2, (hF381.region (by kernel_rfl) (by kernel_rfl)).anyβ _ (by kernel_rfl), hM374.keep (List.Sublist.cons _ (List.Sublist.cons_cons _ (List.Sublist.cons_cons _ (List.Sublist.cons_cons _ (List.Sublist.slnil)))))⟩
   · -- no
    have hp382 := hp326.2 hb330; clear hp326
    refine wp_exit ?_
    refine thx ?_
    refine thx ?_
    refine ibx ?_
    refine thn ?_
    have hF383 : Fr 100 [] [⟨0, [], .slice ao1 u0.length cap2⟩, ⟨1, [], .slice ao4 u1.length cap5⟩, ⟨5, [], .pointer (some ⟨b14, 0, none⟩)⟩, ⟨7, [], .slice aox7 x7.length capx7⟩, ⟨11, [], .slice ao107 ((finS (fconcatS ([u0, u1] : List (List Filter))) u2).1).length cap108⟩] a328 := hF329.region (by kernel_rfl) (by kernel_rfl); clear hF329
    have hcd3_0 := hp382.1; have hp431 := hp382.2; clear hp382
    refine wp_seq (any_invE mixed [[], [], [0, 1], [2], [], [4], [3, 5], [6], [7], [7], [0, 1, 2, 3, 4, 5, 6, 7, 8], [0, 1, 2, 3, 4, 5, 6, 7, 8, 9, 10]] 12 (fun S a w1 => ∃ (b388 : Nat) (ao403 : Option Addr) (cap404 : Nat) (ud8 : Value) (ud15 : Value) (ud67 : Value) (ud68 : Value) (ud69 : Value) (ud70 : Value) (ud71 : Value) (ud72 : Value) (ud73 : Value) (ud74 : Value) (ud75 : Value) (ud76 : Value) (rh0 : Res) (rh1 : Res) (rh2 : Res) (rh3 : Res) (Z432 : Fz), Fz.le Z310 Z432 ∧ Fr 100 [] [⟨0, [], .slice ao1 u0.length cap2⟩, ⟨1, [], .slice ao4 u1.length cap5⟩, ⟨5, [], .pointer (some ⟨b14, 0, none⟩)⟩, ⟨7, [], .slice aox7 x7.length capx7⟩, ⟨8, [], ud8⟩, ⟨11, [], .slice ao107 ((finS (fconcatS ([u0, u1] : List (List Filter))) u2).1).length cap108⟩, ⟨15, [], ud15⟩, ⟨67, [], ud67⟩, ⟨68, [], ud68⟩, ⟨69, [], ud69⟩, ⟨70, [], ud70⟩, ⟨71, [], ud71⟩, ⟨72, [], ud72⟩, ⟨73, [], ud73⟩, ⟨74, [], ud74⟩, ⟨75, [], ud75⟩, ⟨76, [], ud76⟩] a ∧ Mem w.heap.size [] w Z [rh0, rh1, rh2, rh3] Z432 w1 ∧ (S 11 = true → ud8 = .int .i64 ((fCountS (fconcatS ([u0, u1] : List (List Filter))) u2.Long).2)) ∧ (S 10 = true → ud15 = .int .i64 ((fCountS (fconcatS ([u0, u1] : List (List Filter))) u2.Long).1)) ∧ (S 7 = true → ud67 = .tuple #[.int .i64 ((fCountS (fconcatS ([u0, u1] : List (List Filter))) u2.Long).1), .int .i64 ((fCountS (fconcatS ([u0, u1] : List (List Filter))) u2.Long).2)]) ∧ (S 0 = true → ud68 = .slice ao1 u0.length cap2) ∧ (S 1 = true → ud69 = .slice ao4 u1.length cap5) ∧ (S 2 = true → ud70 = .slice (some ⟨b388, 0, none⟩) 2 2) ∧ (S 3 = true → ud71 = .slice ao403 (fconcatS ([u0, u1] : List (List Filter))).length cap404) ∧ (S 4 = true → ud72 = .pointer (some ⟨b14, 1, none⟩)) ∧ (S 5 = true → ud73 = .bool u2.Long) ∧ (S 6 = true → ud74 = .tuple #[.int .i64 ((fCountS (fconcatS ([u0, u1] : List (List Filter))) u2.Long).1), .int .i64 ((fCountS (fconcatS ([u0, u1] : List (List Filter))) u2.Long).2)]) ∧ (S 8 = true → ud75 = .int .i64 ((fCountS (fconcatS ([u0, u1] : List (List Filter))) u2.Long).1)) ∧ (S 9 = true → ud76 = .int .i64 ((fCountS (fconcatS ([u0, u1] : List (List Filter))) u2.Long).2)) ∧ (rh0 = .own (tyInt .i64) 3 aox7 capx7 x7) ∧ (rh1 = .row b14 [.int .i64 u2.ID, .bool u2.Long, .bool u2.Fast, .bool u2.Remote, .int .i64 u2.Size, .slice ao7 u2.Data.length cap8] 38) ∧ (rh2 = .own (tyInt .i64) 3 ao107 cap108 ((finS (fconcatS ([u0, u1] : List (List Filter))) u2).1)) ∧ (S 2 = false → rh3 = .nil) ∧ (S 2 = true → S 3 = false → rh3 = .row b388 [.slice ao1 u0.length cap2, .slice ao4 u1.length cap5] 22) ∧ (S 3 = true → S 6 = false → rh3 = .own tyFilter 28 ao403 cap404 (fconcatS ([u0, u1] : List (List Filter)))) ∧ (S 6 = true → rh3 = .nil) ∧ (S 3 = true → SlR (tySl tyFilter) Z432 (some ⟨b388, 0, none⟩) 2 ([u0, u1] : List (List Filter))) ∧ (S 6 = true → SlR tyFilter Z432 ao403 cap404 (fconcatS ([u0, u1] : List (List Filter))))) ?h0 ?hs ?hE)
    case h0 =>
     have hF434 := hF383.any 8
     have hF435 := hF434.any 15
     have hF436 := hF435.any 67
     have hF437 := hF436.any 68
     have hF438 := hF437.any 69
     have hF439 := hF438.any 70
     have hF440 := hF439.any 71
     have hF441 := hF440.any 72
     have hF442 := hF441.any 73
     have hF443 := hF442.any 74
     have hF444 := hF443.any 75
     have hF445 := hF444.any 76
     have hM446 := hM325.nilRes
     have hM447 := (hM446.perm ((pk 1 rfl).trans (((pk 1 rfl).trans (((pk 1 rfl).trans ((List.Perm.refl _).cons _)).cons _)).cons _))).drew
     exact ⟨0, none, 0, a328.tmps.getD 8 undef, a328.tmps.getD 15 undef, a328.tmps.getD 67 undef, a328.tmps.getD 68 undef, a328.tmps.getD 69 undef, a328.tmps.getD 70 undef, a328.tmps.getD 71 undef, a328.tmps.getD 72 undef, a328.tmps.getD 73 undef, a328.tmps.getD 74 undef, a328.tmps.getD 75 undef, a328.tmps.getD 76 undef, .own (tyInt .i64) 3 aox7 capx7 x7, .row b14 [.int .i64 u2.ID, .bool u2.Long, .bool u2.Fast, .bool u2.Remote, .int .i64 u2.Size, .slice ao7 u2.Data.length cap8] 38, .own (tyInt .i64) 3 ao107 cap108 ((finS (fconcatS ([u0, u1] : List (List Filter))) u2).1), .nil, Z310, Fz.le.refl _, hF445.region (by kernel_rfl) (by kernel_rfl), hM447, ff, ff, ff, ff, ff, ff, ff, ff, ff, ff, ff, ff, rfl, rfl, rfl, kf, ff, ff, ff, ff, ff⟩
    case hs =>
     intro S hcl i o hil hi hSi hpre a w1 hI; refine hid ?_; intro G hG; obtain ⟨b388, hI⟩ := hI; obtain ⟨ao403, hI⟩ := hI; obtain ⟨cap404, hI⟩ := hI; obtain ⟨ud8, hI⟩ := hI; obtain ⟨ud15, hI⟩ := hI; obtain ⟨ud67, hI⟩ := hI; obtain ⟨ud68, hI⟩ := hI; obtain ⟨ud69, hI⟩ := hI; obtain ⟨ud70, hI⟩ := hI; obtain ⟨ud71, hI⟩ := hI; obtain ⟨ud72, hI⟩ := hI; obtain ⟨ud73, hI⟩ := hI; obtain ⟨ud74, hI⟩ := hI; obtain ⟨ud75, hI⟩ := hI; obtain ⟨ud76, hI⟩ := hI; obtain ⟨rh0, hI⟩ := hI; obtain ⟨rh1, hI⟩ := hI; obtain ⟨rh2, hI⟩ := hI; obtain ⟨rh3, hI⟩ := hI; obtain ⟨Z432, hI⟩ := hI; obtain ⟨hle433, hI⟩ := hI; obtain ⟨hFx, hI⟩ := hI; obtain ⟨hMx, hI⟩ := hI; obtain ⟨cu8, hI⟩ := hI; obtain ⟨cu15, hI⟩ := hI; obtain ⟨cu67, hI⟩ := hI; obtain ⟨cu68, hI⟩ := hI; obtain ⟨cu69, hI⟩ := hI; obtain ⟨cu70, hI⟩ := hI; obtain ⟨cu71, hI⟩ := hI; obtain ⟨cu72, hI⟩ := hI; obtain ⟨cu73, hI⟩ := hI; obtain ⟨cu74, hI⟩ := hI; obtain ⟨cu75, hI⟩ := hI; obtain ⟨cu76, hI⟩ := hI; obtain ⟨cr0_0, hI⟩ := hI; obtain ⟨cr1_0, hI⟩ := hI; obtain ⟨cr2_0, hI⟩ := hI; obtain ⟨cr3_0, hI⟩ := hI; obtain ⟨cr3_1, hI⟩ := hI; obtain ⟨cr3_2, hI⟩ := hI; obtain ⟨cr3_3, hI⟩ := hI; obtain ⟨cf0, hI⟩ := hI; have cf1 := hI; clear hI
     have hcase : i = 0 ∨ i = 1 ∨ i = 2 ∨ i = 3 ∨ i = 4 ∨ i = 5 ∨ i = 6 ∨ i = 7 ∨ i = 8 ∨ i = 9 ∨ i = 10 ∨ i = 11 := by clear hi; omega
     rcases hcase with rfl | rfl | rfl | rfl | rfl | rfl | rfl | rfl | rfl | rfl | rfl | rfl
     · -- 0: move
      obtain rfl := Option.some.inj hi
      have hx0 := hSi
      have hx2 := negF hcl 2 0 (by kernel_rfl) hx0
      have hx3 := negF hcl 3 2 (by kernel_rfl) hx2
      have hx6 := negF hcl 6 3 (by kernel_rfl) hx3
      have hx7 := negF hcl 7 6 (by kernel_rfl) hx6
      have hx8 := negF hcl 8 7 (by kernel_rfl) hx7
      have hx9 := negF hcl 9 7 (by kernel_rfl) hx7
      have hx10 := negF hcl 10 0 (by kernel_rfl) hx0
      have hx11 := negF hcl 11 0 (by kernel_rfl) hx0
      obtain rfl := cr0_0
      obtain rfl := cr1_0
      obtain rfl := cr2_0
      obtain rfl := cr3_0 hx2
      refine hG (any_step ?_); clear hG G; intro A J hJ
      have hle0 := Fz.le.trans hle0 hle433
      have hzst := Fz.le.refl Z432
      have hs448 := hs250.mono hle433
      have hs449 := hs251.mono hle433
      have hs450 := hs252.mono hle433
      have hs451 := hs253.mono hle433
      have hs452 := hs254.mono hle433
      have hs453 := hs313.mono hle433
      have hM454 := hMx.keep (List.Sublist.cons_cons _ (List.Sublist.cons_cons _ (List.Sublist.cons_cons _ (List.Sublist.cons _ (List.Sublist.slnil))))); clear hMx
      refine s1 hFx 68 (.slice ao1 u0.length cap2) ?_; intro a455 hF456; clear hFx
      refine nl (qnI (hJ _ _ ?_)); clear hJ J
      have hM457 := hM454.nilRes
      exact ⟨b388, ao403, cap404, ud8, ud15, ud67, .slice ao1 u0.length cap2, ud69, ud70, ud71, ud72, ud73, ud74, ud75, ud76, .own (tyInt .i64) 3 aox7 capx7 x7, .row b14 [.int .i64 u2.ID, .bool u2.Long, .bool u2.Fast, .bool u2.Remote, .int .i64 u2.Size, .slice ao7 u2.Data.length cap8] 38, .own (tyInt .i64) 3 ao107 cap108 ((finS (fconcatS ([u0, u1] : List (List Filter))) u2).1), .nil, Z432, hle433, hF456.region (by kernel_rfl) (by kernel_rfl), hM457.perm ((pk 1 rfl).trans (((pk 1 rfl).trans (((pk 1 rfl).trans ((List.Perm.refl _).cons _)).cons _)).cons _)), (nt hx11), (nt hx10), (nt hx7), kf, cu69, (nt hx2), (nt hx3), cu72, cu73, (nt hx6), (nt hx8), (nt hx9), rfl, rfl, rfl, kf, (fun h _ => nt hx2 h), (fun h _ => nt hx3 h), (nt hx6), (nt hx3), (nt hx6)⟩
     · -- 1: move
      obtain rfl := Option.some.inj hi
      have hx1 := hSi
      have hx2 := negF hcl 2 1 (by kernel_rfl) hx1
      have hx3 := negF hcl 3 2 (by kernel_rfl) hx2
      have hx6 := negF hcl 6 3 (by kernel_rfl) hx3
      have hx7 := negF hcl 7 6 (by kernel_rfl) hx6
      have hx8 := negF hcl 8 7 (by kernel_rfl) hx7
      have hx9 := negF hcl 9 7 (by kernel_rfl) hx7
      have hx10 := negF hcl 10 1 (by kernel_rfl) hx1
      have hx11 := negF hcl 11 1 (by kernel_rfl) hx1
      obtain rfl := cr0_0
      obtain rfl := cr1_0
      obtain rfl := cr2_0
      obtain rfl := cr3_0 hx2
      refine hG (any_step ?_); clear hG G; intro A J hJ
      have hle0 := Fz.le.trans hle0 hle433
      have hzst := Fz.le.refl Z432
      have hs459 := hs250.mono hle433
      have hs460 := hs251.mono hle433
      have hs461 := hs252.mono hle433
      have hs462 := hs253.mono hle433
      have hs463 := hs254.mono hle433
      have hs464 := hs313.mono hle433
      have hM465 := hMx.keep (List.Sublist.cons_cons _ (List.Sublist.cons_cons _ (List.Sublist.cons_cons _ (List.Sublist.cons _ (List.Sublist.slnil))))); clear hMx
      refine s1 hFx 69 (.slice ao4 u1.length cap5) ?_; intro a466 hF467; clear hFx
      refine nl (qnI (hJ _ _ ?_)); clear hJ J
      have hM468 := hM465.nilRes
      exact ⟨b388, ao403, cap404, ud8, ud15, ud67, ud68, .slice ao4 u1.length cap5, ud70, ud71, ud72, ud73, ud74, ud75, ud76, .own (tyInt .i64) 3 aox7 capx7 x7, .row b14 [.int .i64 u2.ID, .bool u2.Long, .bool u2.Fast, .bool u2.Remote, .int .i64 u2.Size, .slice ao7 u2.Data.length cap8] 38, .own (tyInt .i64) 3 ao107 cap108 ((finS (fconcatS ([u0, u1] : List (List Filter))) u2).1), .nil, Z432, hle433, hF467.region (by kernel_rfl) (by kernel_rfl), hM468.perm ((pk 1 rfl).trans (((pk 1 rfl).trans (((pk 1 rfl).trans ((List.Perm.refl _).cons _)).cons _)).cons _)), (nt hx11), (nt hx10), (nt hx7), cu68, kf, (nt hx2), (nt hx3), cu72, cu73, (nt hx6), (nt hx8), (nt hx9), rfl, rfl, rfl, kf, (fun h _ => nt hx2 h), (fun h _ => nt hx3 h), (nt hx6), (nt hx3), (nt hx6)⟩
     · -- 2: buildSlice
      obtain rfl := Option.some.inj hi
      have hx1 := hpre 1 (by kernel_rfl)
      have hx0 := hpre 0 (by kernel_rfl)
      have hx2 := hSi
      have hx3 := negF hcl 3 2 (by kernel_rfl) hx2
      have hx6 := negF hcl 6 3 (by kernel_rfl) hx3
      have hx7 := negF hcl 7 6 (by kernel_rfl) hx6
      have hx8 := negF hcl 8 7 (by kernel_rfl) hx7
      have hx9 := negF hcl 9 7 (by kernel_rfl) hx7
      have hx10 := negF hcl 10 2 (by kernel_rfl) hx2
      have hx11 := negF hcl 11 2 (by kernel_rfl) hx2
      obtain rfl := cu68 hx0
      obtain rfl := cu69 hx1
      obtain rfl := cr0_0
      obtain rfl := cr1_0
      obtain rfl := cr2_0
      obtain rfl := cr3_0 hx2
      refine hG (any_step ?_); clear hG G; intro A J hJ
      have hle0 := Fz.le.trans hle0 hle433
      have hzst := Fz.le.refl Z432
      have hs470 := hs250.mono hle433
      have hs471 := hs251.mono hle433
      have hs472 := hs252.mono hle433
      have hs473 := hs253.mono hle433
      have hs474 := hs254.mono hle433
      have hs475 := hs313.mono hle433
      have hM476 := hMx.keep (List.Sublist.cons_cons _ (List.Sublist.cons_cons _ (List.Sublist.cons_cons _ (List.Sublist.cons _ (List.Sublist.slnil))))); clear hMx
      refine sn hFx hM476 (fun b => .slice (some ⟨b, 0, none⟩) 2 2) [.slice ao1 u0.length cap2, .slice ao4 u1.length cap5] 22 (nog rfl _) rfl (by kernel_rfl) (by kernel_rfl) ?_; intro b477 a478 wd480 hF479 hM481; clear hFx hM476
      refine nl (qnI (hJ _ _ ?_)); clear hJ J
      exact ⟨b477, ao403, cap404, ud8, ud15, ud67, .slice ao1 u0.length cap2, .slice ao4 u1.length cap5, .slice (some ⟨b477, 0, none⟩) 2 2, ud71, ud72, ud73, ud74, ud75, ud76, .own (tyInt .i64) 3 aox7 capx7 x7, .row b14 [.int .i64 u2.ID, .bool u2.Long, .bool u2.Fast, .bool u2.Remote, .int .i64 u2.Size, .slice ao7 u2.Data.length cap8] 38, .own (tyInt .i64) 3 ao107 cap108 ((finS (fconcatS ([u0, u1] : List (List Filter))) u2).1), .row b477 [.slice ao1 u0.length cap2, .slice ao4 u1.length cap5] 22, Z432, hle433, hF479.region (by kernel_rfl) (by kernel_rfl), hM481.perm ((pk 1 rfl).trans (((pk 1 rfl).trans (((pk 1 rfl).trans ((List.Perm.refl _).cons _)).cons _)).cons _)), (nt hx11), (nt hx10), (nt hx7), kf, kf, kf, (nt hx3), cu72, cu73, (nt hx6), (nt hx8), (nt hx9), rfl, rfl, rfl, nu, kf2, (fun h _ => nt hx3 h), (nt hx6), (nt hx3), (nt hx6)⟩
     · -- 3: call
      obtain rfl := Option.some.inj hi
      have hx2 := hpre 2 (by kernel_rfl)
      have hx1 := hcl 2 1 (by kernel_rfl) hx2
      have hx0 := hcl 2 0 (by kernel_rfl) hx2
      have hx3 := hSi
      have hx6 := negF hcl 6 3 (by kernel_rfl) hx3
      have hx7 := negF hcl 7 6 (by kernel_rfl) hx6
      have hx8 := negF hcl 8 7 (by kernel_rfl) hx7
      have hx9 := negF hcl 9 7 (by kernel_rfl) hx7
      have hx10 := negF hcl 10 3 (by kernel_rfl) hx3
      have hx11 := negF hcl 11 3 (by kernel_rfl) hx3
      obtain rfl := cu68 hx0
      obtain rfl := cu69 hx1
      obtain rfl := cu70 hx2
      obtain rfl := cr0_0
      obtain rfl := cr1_0
      obtain rfl := cr2_0
      obtain rfl := cr3_1 hx2 hx3
      refine hG (any_step ?_); clear hG G; intro A J hJ
      have hle0 := Fz.le.trans hle0 hle433
      have hzst := Fz.le.refl Z432
      have hs483 := hs250.mono hle433
      have hs484 := hs251.mono hle433
      have hs485 := hs252.mono hle433
      have hs486 := hs253.mono hle433
      have hs487 := hs254.mono hle433
      have hs488 := hs313.mono hle433
      have hM489 : Mem w.heap.size [] w Z [.own (tyInt .i64) 3 aox7 capx7 x7, .row b14 [.int .i64 u2.ID, .bool u2.Long, .bool u2.Fast, .bool u2.Remote, .int .i64 u2.Size, .slice ao7 u2.Data.length cap8] 38, .own (tyInt .i64) 3 ao107 cap108 ((finS (fconcatS ([u0, u1] : List (List Filter))) u2).1), .own (tySl tyFilter) 22 (some ⟨b388, 0, none⟩) 2 ([u0, u1] : List (List Filter))] Z432 w1 := hMx.rowOwn (T := (tySl tyFilter)) (xs := ([u0, u1] : List (List Filter))) 3 rfl (by decide) (by show 2 ≤ lim; decide) ((RepAll.one (T := (tySl tyFilter)) (x := u0) ⟨ao1, cap2, rfl, hs483⟩).append (RepAll.one (T := (tySl tyFilter)) (x := u1) ⟨ao4, cap5, rfl, hs484⟩)); clear hMx
      obtain ⟨Z490, hle491, hM492, hs493⟩ := hM489.freeze 3 rfl
      replace hzst := hzst.mono hle491
      replace hs483 := hs483.mono hle491
      replace hs484 := hs484.mono hle491
      replace hs485 := hs485.mono hle491
      replace hs486 := hs486.mono hle491
      replace hs487 := hs487.mono hle491
      replace hs488 := hs488.mono hle491
      replace hle0 := Fz.le.trans hle0 hle491
      have hM494 : Mem w.heap.size [] w Z [.own (tyInt .i64) 3 aox7 capx7 x7, .row b14 [.int .i64 u2.ID, .bool u2.Long, .bool u2.Fast, .bool u2.Remote, .int .i64 u2.Size, .slice ao7 u2.Data.length cap8] 38, .own (tyInt .i64) 3 ao107 cap108 ((finS (fconcatS ([u0, u1] : List (List Filter))) u2).1)] Z490 w1 := hM492; clear hM492
      refine cl hFx 29 #[.slice (some ⟨b388, 0, none⟩) ([u0, u1] : List (List Filter)).length 2] (nog rfl _) rfl (by kernel_rfl) (by kernel_rfl) ?_
      refine (fconcat_fun ([u0, u1] : List (List Filter)) hcd3_0 (some ⟨b388, 0, none⟩) 2 _ _ hs493 hM494.fz).mono ?_; rintro _ wd495 ⟨ao499, cap500, Z501, rfl, hm⟩; refine ⟨_, rfl, ?_⟩; intro a496 hF497; have hM498 := hM494.callZ hm; have hle502 := hm.ext.le; clear hm hM494 hFx
      replace hzst := hzst.mono hle502
      replace hs483 := hs483.mono hle502
      replace hs484 := hs484.mono hle502
      replace hs485 := hs485.mono hle502
      replace hs486 := hs486.mono hle502
      replace hs487 := hs487.mono hle502
      replace hs488 := hs488.mono hle502
      replace hs493 := hs493.mono hle502
      replace hle0 := Fz.le.trans hle0 hle502
      have hM503 : Mem w.heap.size [] w Z [.own tyFilter 28 ao499 cap500 (fconcatS ([u0, u1] : List (List Filter))), .own (tyInt .i64) 3 aox7 capx7 x7, .row b14 [.int .i64 u2.ID, .bool u2.Long, .bool u2.Fast, .bool u2.Remote, .int .i64 u2.Size, .slice ao7 u2.Data.length cap8] 38, .own (tyInt .i64) 3 ao107 cap108 ((finS (fconcatS ([u0, u1] : List (List Filter))) u2).1)] Z501 wd495 := hM498; clear hM498
      refine nl (qnI (hJ _ _ ?_)); clear hJ J
      exact ⟨b388, ao499, cap500, ud8, ud15, ud67, .slice ao1 u0.length cap2, .slice ao4 u1.length cap5, .slice (some ⟨b388, 0, none⟩) 2 2, .slice ao499 (fconcatS ([u0, u1] : List (List Filter))).length cap500, ud72, ud73, ud74, ud75, ud76, .own (tyInt .i64) 3 aox7 capx7 x7, .row b14 [.int .i64 u2.ID, .bool u2.Long, .bool u2.Fast, .bool u2.Remote, .int .i64 u2.Size, .slice ao7 u2.Data.length cap8] 38, .own (tyInt .i64) 3 ao107 cap108 ((finS (fconcatS ([u0, u1] : List (List Filter))) u2).1), .own tyFilter 28 ao499 cap500 (fconcatS ([u0, u1] : List (List Filter))), Z501, hle433.trans hzst, hF497.region (by kernel_rfl) (by kernel_rfl), hM503.perm ((pk 1 rfl).trans (((pk 1 rfl).trans (((pk 1 rfl).trans ((List.Perm.refl _).cons _)).cons _)).cons _)), (nt hx11), (nt hx10), (nt hx7), kf, kf, kf, kf, cu72, cu73, (nt hx6), (nt hx8), (nt hx9), rfl, rfl, rfl, (tn hx2), (fun _ => nu), kf2, (nt hx6), (fun _ => hs493), (nt hx6)⟩
     · -- 4: fieldAddr
      obtain rfl := Option.some.inj hi
      have hx4 := hSi
      have hx5 := negF hcl 5 4 (by kernel_rfl) hx4
      have hx6 := negF hcl 6 5 (by kernel_rfl) hx5
      have hx7 := negF hcl 7 6 (by kernel_rfl) hx6
      have hx8 := negF hcl 8 7 (by kernel_rfl) hx7
      have hx9 := negF hcl 9 7 (by kernel_rfl) hx7
      have hx10 := negF hcl 10 4 (by kernel_rfl) hx4
      have hx11 := negF hcl 11 4 (by kernel_rfl) hx4
      obtain rfl := cr0_0
      obtain rfl := cr1_0
      obtain rfl := cr2_0
      refine hG (any_step ?_); clear hG G; intro A J hJ
      have hle0 := Fz.le.trans hle0 hle433
      have hzst := Fz.le.refl Z432
      have hs505 := hs250.mono hle433
      have hs506 := hs251.mono hle433
      have hs507 := hs252.mono hle433
      have hs508 := hs253.mono hle433
      have hs509 := hs254.mono hle433
      have hs510 := hs313.mono hle433
      refine s1 hFx 72 (.pointer (some ⟨b14, 1, none⟩)) ?_; intro a511 hF512; clear hFx
      refine nl (qnI (hJ _ _ ?_)); clear hJ J
      exact ⟨b388, ao403, cap404, ud8, ud15, ud67, ud68, ud69, ud70, ud71, .pointer (some ⟨b14, 1, none⟩), ud73, ud74, ud75, ud76, .own (tyInt .i64) 3 aox7 capx7 x7, .row b14 [.int .i64 u2.ID, .bool u2.Long, .bool u2.Fast, .bool u2.Remote, .int .i64 u2.Size, .slice ao7 u2.Data.length cap8] 38, .own (tyInt .i64) 3 ao107 cap108 ((finS (fconcatS ([u0, u1] : List (List Filter))) u2).1), rh3, Z432, hle433, hF512.region (by kernel_rfl) (by kernel_rfl), hMx.perm (List.Perm.refl _), (nt hx11), (nt hx10), (nt hx7), cu68, cu69, cu70, cu71, kf, (nt hx5), (nt hx6), (nt hx8), (nt hx9), rfl, rfl, rfl, cr3_0, cr3_1, cr3_2, (nt hx6), cf0, (nt hx6)⟩
     · -- 5: load
      obtain rfl := Option.some.inj hi
      have hx4 := hpre 4 (by kernel_rfl)
      have hx5 := hSi
      have hx6 := negF hcl 6 5 (by kernel_rfl) hx5
      have hx7 := negF hcl 7 6 (by kernel_rfl) hx6
      have hx8 := negF hcl 8 7 (by kernel_rfl) hx7
      have hx9 := negF hcl 9 7 (by kernel_rfl) hx7
      have hx10 := negF hcl 10 5 (by kernel_rfl) hx5
      have hx11 := negF hcl 11 5 (by kernel_rfl) hx5
      obtain rfl := cu72 hx4
      obtain rfl := cr0_0
      obtain rfl := cr1_0
      obtain rfl := cr2_0
      refine hG (any_step ?_); clear hG G; intro A J hJ
      have hle0 := Fz.le.trans hle0 hle433
      have hzst := Fz.le.refl Z432
      have hs514 := hs250.mono hle433
      have hs515 := hs251.mono hle433
      have hs516 := hs252.mono hle433
      have hs517 := hs253.mono hle433
      have hs518 := hs254.mono hle433
      have hs519 := hs313.mono hle433
      refine l1 hFx hMx 73 1 1 (.bool u2.Long) rfl rfl ?_; intro a520 hF521; clear hFx
      refine nl (qnI (hJ _ _ ?_)); clear hJ J
      exact ⟨b388, ao403, cap404, ud8, ud15, ud67, ud68, ud69, ud70, ud71, .pointer (some ⟨b14, 1, none⟩), .bool u2.Long, ud74, ud75, ud76, .own (tyInt .i64) 3 aox7 capx7 x7, .row b14 [.int .i64 u2.ID, .bool u2.Long, .bool u2.Fast, .bool u2.Remote, .int .i64 u2.Size, .slice ao7 u2.Data.length cap8] 38, .own (tyInt .i64) 3 ao107 cap108 ((finS (fconcatS ([u0, u1] : List (List Filter))) u2).1), rh3, Z432, hle433, hF521.region (by kernel_rfl) (by kernel_rfl), hMx.perm (List.Perm.refl _), (nt hx11), (nt hx10), (nt hx7), cu68, cu69, cu70, cu71, kf, kf, (nt hx6), (nt hx8), (nt hx9), rfl, rfl, rfl, cr3_0, cr3_1, cr3_2, (nt hx6), cf0, (nt hx6)⟩
     · -- 6: call
      obtain rfl := Option.some.inj hi
      have hx5 := hpre 5 (by kernel_rfl)
      have hx3 := hpre 3 (by kernel_rfl)
      have hx4 := hcl 5 4 (by kernel_rfl) hx5
      have hx2 := hcl 3 2 (by kernel_rfl) hx3
      have hx1 := hcl 2 1 (by kernel_rfl) hx2
      have hx0 := hcl 2 0 (by kernel_rfl) hx2
      have hx6 := hSi
      have hx7 := negF hcl 7 6 (by kernel_rfl) hx6
      have hx8 := negF hcl 8 7 (by kernel_rfl) hx7
      have hx9 := negF hcl 9 7 (by kernel_rfl) hx7
      have hx10 := negF hcl 10 6 (by kernel_rfl) hx6
      have hx11 := negF hcl 11 6 (by kernel_rfl) hx6
      obtain rfl := cu68 hx0
      obtain rfl := cu69 hx1
      obtain rfl := cu70 hx2
      obtain rfl := cu71 hx3
      obtain rfl := cu72 hx4
      obtain rfl := cu73 hx5
      obtain rfl := cr0_0
      obtain rfl := cr1_0
      obtain rfl := cr2_0
      obtain rfl := cr3_2 hx3 hx6
      refine hG (any_step ?_); clear hG G; intro A J hJ
      have hle0 := Fz.le.trans hle0 hle433
      have hzst := Fz.le.refl Z432
      have hs523 := hs250.mono hle433
      have hs524 := hs251.mono hle433
      have hs525 := hs252.mono hle433
      have hs526 := hs253.mono hle433
      have hs527 := hs254.mono hle433
      have hs528 := hs313.mono hle433
      have hs529 := cf0 hx3
      obtain ⟨Z530, hle531, hM532, hs533⟩ := hMx.freeze 3 rfl
      replace hzst := hzst.mono hle531
      replace hs523 := hs523.mono hle531
      replace hs524 := hs524.mono hle531
      replace hs525 := hs525.mono hle531
      replace hs526 := hs526.mono hle531
      replace hs527 := hs527.mono hle531
      replace hs528 := hs528.mono hle531
      replace hs529 := hs529.mono hle531
      replace hle0 := Fz.le.trans hle0 hle531
      have hM534 : Mem w.heap.size [] w Z [.own (tyInt .i64) 3 aox7 capx7 x7, .row b14 [.int .i64 u2.ID, .bool u2.Long, .bool u2.Fast, .bool u2.Remote, .int .i64 u2.Size, .slice ao7 u2.Data.length cap8] 38, .own (tyInt .i64) 3 ao107 cap108 ((finS (fconcatS ([u0, u1] : List (List Filter))) u2).1)] Z530 w1 := hM532; clear hM532
      refine fcl hFx hM534 (.tuple #[.int .i64 ((fCountS (fconcatS ([u0, u1] : List (List Filter))) u2.Long).1), .int .i64 ((fCountS (fconcatS ([u0, u1] : List (List Filter))) u2.Long).2)]) 18 #[.slice ao403 (fconcatS ([u0, u1] : List (List Filter))).length cap404, .bool u2.Long] (nog rfl _) rfl (by kernel_rfl) (fun _ => by kernel_rfl) (fCount_fun (fconcatS ([u0, u1] : List (List Filter))) u2.Long ao403 cap404 _ _ hs533 hM534.fz) ?_; intro a535 wd537 hF536 hM538; clear hFx hM534
      refine nl (qnI (hJ _ _ ?_)); clear hJ J
      have hM539 := hM538.nilRes
      exact ⟨b388, ao403, cap404, ud8, ud15, ud67, .slice ao1 u0.length cap2, .slice ao4 u1.length cap5, .slice (some ⟨b388, 0, none⟩) 2 2, .slice ao403 (fconcatS ([u0, u1] : List (List Filter))).length cap404, .pointer (some ⟨b14, 1, none⟩), .bool u2.Long, .tuple #[.int .i64 ((fCountS (fconcatS ([u0, u1] : List (List Filter))) u2.Long).1), .int .i64 ((fCountS (fconcatS ([u0, u1] : List (List Filter))) u2.Long).2)], ud75, ud76, .own (tyInt .i64) 3 aox7 capx7 x7, .row b14 [.int .i64 u2.ID, .bool u2.Long, .bool u2.Fast, .bool u2.Remote, .int .i64 u2.Size, .slice ao7 u2.Data.length cap8] 38, .own (tyInt .i64) 3 ao107 cap108 ((finS (fconcatS ([u0, u1] : List (List Filter))) u2).1), .nil, Z530, hle433.trans hzst, hF536.region (by kernel_rfl) (by kernel_rfl), hM539.perm ((pk 1 rfl).trans (((pk 1 rfl).trans (((pk 1 rfl).trans ((List.Perm.refl _).cons _)).cons _)).cons _)), (nt hx11), (nt hx10), (nt hx7), kf, kf, kf, kf, kf, kf, kf, (nt hx8), (nt hx9), rfl, rfl, rfl, (tn hx2), (fun _ => tn hx3), (fun _ => nu), kf, (fun _ => hs529), (fun _ => hs533)⟩
     · -- 7: move
      obtain rfl := Option.some.inj hi
      have hx6 := hpre 6 (by kernel_rfl)
      have hx5 := hcl 6 5 (by kernel_rfl) hx6
      have hx3 := hcl 6 3 (by kernel_rfl) hx6
      have hx4 := hcl 5 4 (by kernel_rfl) hx5
      have hx2 := hcl 3 2 (by kernel_rfl) hx3
      have hx1 := hcl 2 1 (by kernel_rfl) hx2
      have hx0 := hcl 2 0 (by kernel_rfl) hx2
      have hx7 := hSi
      have hx8 := negF hcl 8 7 (by kernel_rfl) hx7
      have hx9 := negF hcl 9 7 (by kernel_rfl) hx7
      have hx10 := negF hcl 10 7 (by kernel_rfl) hx7
      have hx11 := negF hcl 11 7 (by kernel_rfl) hx7
      obtain rfl := cu68 hx0
      obtain rfl := cu69 hx1
      obtain rfl := cu70 hx2
      obtain rfl := cu71 hx3
      obtain rfl := cu72 hx4
      obtain rfl := cu73 hx5
      obtain rfl := cu74 hx6
      obtain rfl := cr0_0
      obtain rfl := cr1_0
      obtain rfl := cr2_0
      obtain rfl := cr3_3 hx6
      refine hG (any_step ?_); clear hG G; intro A J hJ
      have hle0 := Fz.le.trans hle0 hle433
      have hzst := Fz.le.refl Z432
      have hs541 := hs250.mono hle433
      have hs542 := hs251.mono hle433
      have hs543 := hs252.mono hle433
      have hs544 := hs253.mono hle433
      have hs545 := hs254.mono hle433
      have hs546 := hs313.mono hle433
      have hs547 := cf0 hx3
      have hs548 := cf1 hx6
      have hM549 := hMx.keep (List.Sublist.cons_cons _ (List.Sublist.cons_cons _ (List.Sublist.cons_cons _ (List.Sublist.cons _ (List.Sublist.slnil))))); clear hMx
      refine s1 hFx 67 (.tuple #[.int .i64 ((fCountS (fconcatS ([u0, u1] : List (List Filter))) u2.Long).1), .int .i64 ((fCountS (fconcatS ([u0, u1] : List (List Filter))) u2.Long).2)]) ?_; intro a550 hF551; clear hFx
      refine nl (qnI (hJ _ _ ?_)); clear hJ J
      have hM552 := hM549.nilRes
      exact ⟨b388, ao403, cap404, ud8, ud15, .tuple #[.int .i64 ((fCountS (fconcatS ([u0, u1] : List (List Filter))) u2.Long).1), .int .i64 ((fCountS (fconcatS ([u0, u1] : List (List Filter))) u2.Long).2)], .slice ao1 u0.length cap2, .slice ao4 u1.length cap5, .slice (some ⟨b388, 0, none⟩) 2 2, .slice ao403 (fconcatS ([u0, u1] : List (List Filter))).length cap404, .pointer (some ⟨b14, 1, none⟩), .bool u2.Long, .tuple #[.int .i64 ((fCountS (fconcatS ([u0, u1] : List (List Filter))) u2.Long).1), .int .i64 ((fCountS (fconcatS ([u0, u1] : List (List Filter))) u2.Long).2)], ud75, ud76, .own (tyInt .i64) 3 aox7 capx7 x7, .row b14 [.int .i64 u2.ID, .bool u2.Long, .bool u2.Fast, .bool u2.Remote, .int .i64 u2.Size, .slice ao7 u2.Data.length cap8] 38, .own (tyInt .i64) 3 ao107 cap108 ((finS (fconcatS ([u0, u1] : List (List Filter))) u2).1), .nil, Z432, hle433, hF551.region (by kernel_rfl) (by kernel_rfl), hM552.perm ((pk 1 rfl).trans (((pk 1 rfl).trans (((pk 1 rfl).trans ((List.Perm.refl _).cons _)).cons _)).cons _)), (nt hx11), (nt hx10), kf, kf, kf, kf, kf, kf, kf, kf, (nt hx8), (nt hx9), rfl, rfl, rfl, (tn hx2), (fun _ => tn hx3), (fun _ => tn hx6), kf, (fun _ => hs547), (fun _ => hs548)⟩
     · -- 8: extract
      obtain rfl := Option.some.inj hi
      have hx7 := hpre 7 (by kernel_rfl)
      have hx6 := hcl 7 6 (by kernel_rfl) hx7
      have hx5 := hcl 6 5 (by kernel_rfl) hx6
      have hx3 := hcl 6 3 (by kernel_rfl) hx6
      have hx4 := hcl 5 4 (by kernel_rfl) hx5
      have hx2 := hcl 3 2 (by kernel_rfl) hx3
      have hx1 := hcl 2 1 (by kernel_rfl) hx2
      have hx0 := hcl 2 0 (by kernel_rfl) hx2
      have hx8 := hSi
      have hx10 := negF hcl 10 8 (by kernel_rfl) hx8
      have hx11 := negF hcl 11 8 (by kernel_rfl) hx8
      obtain rfl := cu67 hx7
      obtain rfl := cu68 hx0
      obtain rfl := cu69 hx1
      obtain rfl := cu70 hx2
      obtain rfl := cu71 hx3
      obtain rfl := cu72 hx4
      obtain rfl := cu73 hx5
      obtain rfl := cu74 hx6
      obtain rfl := cr0_0
      obtain rfl := cr1_0
      obtain rfl := cr2_0
      obtain rfl := cr3_3 hx6
      refine hG (any_step ?_); clear hG G; intro A J hJ
      have hle0 := Fz.le.trans hle0 hle433
      have hzst := Fz.le.refl Z432
      have hs554 := hs250.mono hle433
      have hs555 := hs251.mono hle433
      have hs556 := hs252.mono hle433
      have hs557 := hs253.mono hle433
      have hs558 := hs254.mono hle433
      have hs559 := hs313.mono hle433
      have hs560 := cf0 hx3
      have hs561 := cf1 hx6
      have hM562 := hMx.keep (List.Sublist.cons_cons _ (List.Sublist.cons_cons _ (List.Sublist.cons_cons _ (List.Sublist.cons _ (List.Sublist.slnil))))); clear hMx
      refine s1 hFx 75 (.int .i64 ((fCountS (fconcatS ([u0, u1] : List (List Filter))) u2.Long).1)) ?_; intro a563 hF564; clear hFx
      refine nl (qnI (hJ _ _ ?_)); clear hJ J
      have hM565 := hM562.nilRes
      exact ⟨b388, ao403, cap404, ud8, ud15, .tuple #[.int .i64 ((fCountS (fconcatS ([u0, u1] : List (List Filter))) u2.Long).1), .int .i64 ((fCountS (fconcatS ([u0, u1] : List (List Filter))) u2.Long).2)], .slice ao1 u0.length cap2, .slice ao4 u1.length cap5, .slice (some ⟨b388, 0, none⟩) 2 2, .slice ao403 (fconcatS ([u0, u1] : List (List Filter))).length cap404, .pointer (some ⟨b14, 1, none⟩), .bool u2.Long, .tuple #[.int .i64 ((fCountS (fconcatS ([u0, u1] : List (List Filter))) u2.Long).1), .int .i64 ((fCountS (fconcatS ([u0, u1] : List (List Filter))) u2.Long).2)], .int .i64 ((fCountS (fconcatS ([u0, u1] : List (List Filter))) u2.Long).1), ud76, .own (tyInt .i64) 3 aox7 capx7 x7, .row b14 [.int .i64 u2.ID, .bool u2.Long, .bool u2.Fast, .bool u2.Remote, .int .i64 u2.Size, .slice ao7 u2.Data.length cap8] 38, .own (tyInt .i64) 3 ao107 cap108 ((finS (fconcatS ([u0, u1] : List (List Filter))) u2).1), .nil, Z432, hle433, hF564.region (by kernel_rfl) (by kernel_rfl), hM565.perm ((pk 1 rfl).trans (((pk 1 rfl).trans (((pk 1 rfl).trans ((List.Perm.refl _).cons _)).cons _)).cons _)), (nt hx11), (nt hx10), kf, kf, kf, kf, kf, kf, kf, kf, kf, cu76, rfl, rfl, rfl, (tn hx2), (fun _ => tn hx3), (fun _ => tn hx6), kf, (fun _ => hs560), (fun _ => hs561)⟩
     · -- 9: extract
      obtain rfl := Option.some.inj hi
      have hx7 := hpre 7 (by kernel_rfl)
      have hx6 := hcl 7 6 (by kernel_rfl) hx7
      have hx5 := hcl 6 5 (by kernel_rfl) hx6
      have hx3 := hcl 6 3 (by kernel_rfl) hx6
      have hx4 := hcl 5 4 (by kernel_rfl) hx5
      have hx2 := hcl 3 2 (by kernel_rfl) hx3
      have hx1 := hcl 2 1 (by kernel_rfl) hx2
      have hx0 := hcl 2 0 (by kernel_rfl) hx2
      have hx9 := hSi
      have hx11 := negF hcl 11 9 (by kernel_rfl) hx9
      obtain rfl := cu67 hx7
      obtain rfl := cu68 hx0
      obtain rfl := cu69 hx1
      obtain rfl := cu70 hx2
      obtain rfl := cu71 hx3
      obtain rfl := cu72 hx4
      obtain rfl := cu73 hx5
      obtain rfl := cu74 hx6
      obtain rfl := cr0_0
      obtain rfl := cr1_0
      obtain rfl := cr2_0
      obtain rfl := cr3_3 hx6
      refine hG (any_step ?_); clear hG G; intro A J hJ
      have hle0 := Fz.le.trans hle0 hle433
      have hzst := Fz.le.refl Z432
      have hs567 := hs250.mono hle433
      have hs568 := hs251.mono hle433
      have hs569 := hs252.mono hle433
      have hs570 := hs253.mono hle433
      have hs571 := hs254.mono hle433
      have hs572 := hs313.mono hle433
      have hs573 := cf0 hx3
      have hs574 := cf1 hx6
      have hM575 := hMx.keep (List.Sublist.cons_cons _ (List.Sublist.cons_cons _ (List.Sublist.cons_cons _ (List.Sublist.cons _ (List.Sublist.slnil))))); clear hMx
      refine s1 hFx 76 (.int .i64 ((fCountS (fconcatS ([u0, u1] : List (List Filter))) u2.Long).2)) ?_; intro a576 hF577; clear hFx
      refine nl (qnI (hJ _ _ ?_)); clear hJ J
      have hM578 := hM575.nilRes
      exact ⟨b388, ao403, cap404, ud8, ud15, .tuple #[.int .i64 ((fCountS (fconcatS ([u0, u1] : List (List Filter))) u2.Long).1), .int .i64 ((fCountS (fconcatS ([u0, u1] : List (List Filter))) u2.Long).2)], .slice ao1 u0.length cap2, .slice ao4 u1.length cap5, .slice (some ⟨b388, 0, none⟩) 2 2, .slice ao403 (fconcatS ([u0, u1] : List (List Filter))).length cap404, .pointer (some ⟨b14, 1, none⟩), .bool u2.Long, .tuple #[.int .i64 ((fCountS (fconcatS ([u0, u1] : List (List Filter))) u2.Long).1), .int .i64 ((fCountS (fconcatS ([u0, u1] : List (List Filter))) u2.Long).2)], ud75, .int .i64 ((fCountS (fconcatS ([u0, u1] : List (List Filter))) u2.Long).2), .own (tyInt .i64) 3 aox7 capx7 x7, .row b14 [.int .i64 u2.ID, .bool u2.Long, .bool u2.Fast, .bool u2.Remote, .int .i64 u2.Size, .slice ao7 u2.Data.length cap8] 38, .own (tyInt .i64) 3 ao107 cap108 ((finS (fconcatS ([u0, u1] : List (List Filter))) u2).1), .nil, Z432, hle433, hF577.region (by kernel_rfl) (by kernel_rfl), hM578.perm ((pk 1 rfl).trans (((pk 1 rfl).trans (((pk 1 rfl).trans ((List.Perm.refl _).cons _)).cons _)).cons _)), (nt hx11), cu15, kf, kf, kf, kf, kf, kf, kf, kf, cu75, kf, rfl, rfl, rfl, (tn hx2), (fun _ => tn hx3), (fun _ => tn hx6), kf, (fun _ => hs573), (fun _ => hs574)⟩
     · -- 10: assign
      obtain rfl := Option.some.inj hi
      have hx8 := hpre 8 (by kernel_rfl)
      have hx7 := hpre 7 (by kernel_rfl)
      have hx6 := hpre 6 (by kernel_rfl)
      have hx5 := hpre 5 (by kernel_rfl)
      have hx4 := hpre 4 (by kernel_rfl)
      have hx3 := hpre 3 (by kernel_rfl)
      have hx2 := hpre 2 (by kernel_rfl)
      have hx1 := hpre 1 (by kernel_rfl)
      have hx0 := hpre 0 (by kernel_rfl)
      have hx10 := hSi
      have hx11 := negF hcl 11 10 (by kernel_rfl) hx10
      obtain rfl := cu67 hx7
      obtain rfl := cu68 hx0
      obtain rfl := cu69 hx1
      obtain rfl := cu70 hx2
      obtain rfl := cu71 hx3
      obtain rfl := cu72 hx4
      obtain rfl := cu73 hx5
      obtain rfl := cu74 hx6
      obtain rfl := cu75 hx8
      obtain rfl := cr0_0
      obtain rfl := cr1_0
      obtain rfl := cr2_0
      obtain rfl := cr3_3 hx6
      refine hG (any_step ?_); clear hG G; intro A J hJ
      have hle0 := Fz.le.trans hle0 hle433
      have hzst := Fz.le.refl Z432
      have hs580 := hs250.mono hle433
      have hs581 := hs251.mono hle433
      have hs582 := hs252.mono hle433
      have hs583 := hs253.mono hle433
      have hs584 := hs254.mono hle433
      have hs585 := hs313.mono hle433
      have hs586 := cf0 hx3
      have hs587 := cf1 hx6
      have hM588 := hMx.keep (List.Sublist.cons_cons _ (List.Sublist.cons_cons _ (List.Sublist.cons_cons _ (List.Sublist.cons _ (List.Sublist.slnil))))); clear hMx
      refine s1 hFx 15 (.int .i64 ((fCountS (fconcatS ([u0, u1] : List (List Filter))) u2.Long).1)) ?_; intro a589 hF590; clear hFx
      refine nl (qnI (hJ _ _ ?_)); clear hJ J
      have hM591 := hM588.nilRes
      exact ⟨b388, ao403, cap404, ud8, .int .i64 ((fCountS (fconcatS ([u0, u1] : List (List Filter))) u2.Long).1), .tuple #[.int .i64 ((fCountS (fconcatS ([u0, u1] : List (List Filter))) u2.Long).1), .int .i64 ((fCountS (fconcatS ([u0, u1] : List (List Filter))) u2.Long).2)], .slice ao1 u0.length cap2, .slice ao4 u1.length cap5, .slice (some ⟨b388, 0, none⟩) 2 2, .slice ao403 (fconcatS ([u0, u1] : List (List Filter))).length cap404, .pointer (some ⟨b14, 1, none⟩), .bool u2.Long, .tuple #[.int .i64 ((fCountS (fconcatS ([u0, u1] : List (List Filter))) u2.Long).1), .int .i64 ((fCountS (fconcatS ([u0, u1] : List (List Filter))) u2.Long).2)], .int .i64 ((fCountS (fconcatS ([u0, u1] : List (List Filter))) u2.Long).1), ud76, .own (tyInt .i64) 3 aox7 capx7 x7, .row b14 [.int .i64 u2.ID, .bool u2.Long, .bool u2.Fast, .bool u2.Remote, .int .i64 u2.Size, .slice ao7 u2.Data.length cap8] 38, .own (tyInt .i64) 3 ao107 cap108 ((finS (fconcatS ([u0, u1] : List (List Filter))) u2).1), .nil, Z432, hle433, hF590.region (by kernel_rfl) (by kernel_rfl), hM591.perm ((pk 1 rfl).trans (((pk 1 rfl).trans (((pk 1 rfl).trans ((List.Perm.refl _).cons _)).cons _)).cons _)), (nt hx11), kf, kf, kf, kf, kf, kf, kf, kf, kf, kf, cu76, rfl, rfl, rfl, (tn hx2), (fun _ => tn hx3), (fun _ => tn hx6), kf, (fun _ => hs586), (fun _ => hs587)⟩
     · -- 11: assign
      obtain rfl := Option.some.inj hi
      have hx10 := hpre 10 (by kernel_rfl)
      have hx9 := hpre 9 (by kernel_rfl)
      have hx8 := hpre 8 (by kernel_rfl)
      have hx7 := hpre 7 (by kernel_rfl)
      have hx6 := hpre 6 (by kernel_rfl)
      have hx5 := hpre 5 (by kernel_rfl)
      have hx4 := hpre 4 (by kernel_rfl)
      have hx3 := hpre 3 (by kernel_rfl)
      have hx2 := hpre 2 (by kernel_rfl)
      have hx1 := hpre 1 (by kernel_rfl)
      have hx0 := hpre 0 (by kernel_rfl)
      have hx11 := hSi
      obtain rfl := cu15 hx10
      obtain rfl := cu67 hx7
      obtain rfl := cu68 hx0
      obtain rfl := cu69 hx1
      obtain rfl := cu70 hx2
      obtain rfl := cu71 hx3
      obtain rfl := cu72 hx4
      obtain rfl := cu73 hx5
      obtain rfl := cu74 hx6
      obtain rfl := cu75 hx8
      obtain rfl := cu76 hx9
      obtain rfl := cr0_0
      obtain rfl := cr1_0
      obtain rfl := cr2_0
      obtain rfl := cr3_3 hx6
      refine hG (any_step ?_); clear hG G; intro A J hJ
      have hle0 := Fz.le.trans hle0 hle433
      have hzst := Fz.le.refl Z432
      have hs593 := hs250.mono hle433
      have hs594 := hs251.mono hle433
      have hs595 := hs252.mono hle433
      have hs596 := hs253.mono hle433
      have hs597 := hs254.mono hle433
      have hs598 := hs313.mono hle433
      have hs599 := cf0 hx3
      have hs600 := cf1 hx6
      have hM601 := hMx.keep (List.Sublist.cons_cons _ (List.Sublist.cons_cons _ (List.Sublist.cons_cons _ (List.Sublist.cons _ (List.Sublist.slnil))))); clear hMx
      refine s1 hFx 8 (.int .i64 ((fCountS (fconcatS ([u0, u1] : List (List Filter))) u2.Long).2)) ?_; intro a602 hF603; clear hFx
      refine nl (qnI (hJ _ _ ?_)); clear hJ J
      have hM604 := hM601.nilRes
      exact ⟨b388, ao403, cap404, .int .i64 ((fCountS (fconcatS ([u0, u1] : List (List Filter))) u2.Long).2), .int .i64 ((fCountS (fconcatS ([u0, u1] : List (List Filter))) u2.Long).1), .tuple #[.int .i64 ((fCountS (fconcatS ([u0, u1] : List (List Filter))) u2.Long).1), .int .i64 ((fCountS (fconcatS ([u0, u1] : List (List Filter))) u2.Long).2)], .slice ao1 u0.length cap2, .slice ao4 u1.length cap5, .slice (some ⟨b388, 0, none⟩) 2 2, .slice ao403 (fconcatS ([u0, u1] : List (List Filter))).length cap404, .pointer (some ⟨b14, 1, none⟩), .bool u2.Long, .tuple #[.int .i64 ((fCountS (fconcatS ([u0, u1] : List (List Filter))) u2.Long).1), .int .i64 ((fCountS (fconcatS ([u0, u1] : List (List Filter))) u2.Long).2)], .int .i64 ((fCountS (fconcatS ([u0, u1] : List (List Filter))) u2.Long).1), .int .i64 ((fCountS (fconcatS ([u0, u1] : List (List Filter))) u2.Long).2), .own (tyInt .i64) 3 aox7 capx7 x7, .row b14 [.int .i64 u2.ID, .bool u2.Long, .bool u2.Fast, .bool u2.Remote, .int .i64 u2.Size, .slice ao7 u2.Data.length cap8] 38, .own (tyInt .i64) 3 ao107 cap108 ((finS (fconcatS ([u0, u1] : List (List Filter))) u2).1), .nil, Z432, hle433, hF603.region (by kernel_rfl) (by kernel_rfl), hM604.perm ((pk 1 rfl).trans (((pk 1 rfl).trans (((pk 1 rfl).trans ((List.Perm.refl _).cons _)).cons _)).cons _)), kf, kf, kf, kf, kf, kf, kf, kf, kf, kf, kf, kf, rfl, rfl, rfl, (tn hx2), (fun _ => tn hx3), (fun _ => tn hx6), kf, (fun _ => hs599), (fun _ => hs600)⟩
    case hE =>
     intro S hS a606 wd607 hI; refine hid ?_; intro G hG; obtain ⟨b388, hI⟩ := hI; obtain ⟨ao403, hI⟩ := hI; obtain ⟨cap404, hI⟩ := hI; obtain ⟨ud8, hI⟩ := hI; obtain ⟨ud15, hI⟩ := hI; obtain ⟨ud67, hI⟩ := hI; obtain ⟨ud68, hI⟩ := hI; obtain ⟨ud69, hI⟩ := hI; obtain ⟨ud70, hI⟩ := hI; obtain ⟨ud71, hI⟩ := hI; obtain ⟨ud72, hI⟩ := hI; obtain ⟨ud73, hI⟩ := hI; obtain ⟨ud74, hI⟩ := hI; obtain ⟨ud75, hI⟩ := hI; obtain ⟨ud76, hI⟩ := hI; obtain ⟨rh0, hI⟩ := hI; obtain ⟨rh1, hI⟩ := hI; obtain ⟨rh2, hI⟩ := hI; obtain ⟨rh3, hI⟩ := hI; obtain ⟨Z432, hI⟩ := hI; obtain ⟨hle433, hI⟩ := hI; obtain ⟨hFx, hI⟩ := hI; obtain ⟨hMx, hI⟩ := hI; obtain ⟨cu8, hI⟩ := hI; obtain ⟨cu15, hI⟩ := hI; obtain ⟨cu67, hI⟩ := hI; obtain ⟨cu68, hI⟩ := hI; obtain ⟨cu69, hI⟩ := hI; obtain ⟨cu70, hI⟩ := hI; obtain ⟨cu71, hI⟩ := hI; obtain ⟨cu72, hI⟩ := hI; obtain ⟨cu73, hI⟩ := hI; obtain ⟨cu74, hI⟩ := hI; obtain ⟨cu75, hI⟩ := hI; obtain ⟨cu76, hI⟩ := hI; obtain ⟨cr0_0, hI⟩ := hI; obtain ⟨cr1_0, hI⟩ := hI; obtain ⟨cr2_0, hI⟩ := hI; obtain ⟨cr3_0, hI⟩ := hI; obtain ⟨cr3_1, hI⟩ := hI; obtain ⟨cr3_2, hI⟩ := hI; obtain ⟨cr3_3, hI⟩ := hI; obtain ⟨cf0, hI⟩ := hI; have cf1 := hI; clear hI; refine hG ?_; clear hG G
     obtain rfl := cu8 (hS 11 (by decide))
     obtain rfl := cu15 (hS 10 (by decide))
     obtain rfl := cu67 (hS 7 (by decide))
     obtain rfl := cu68 (hS 0 (by decide))
     obtain rfl := cu69 (hS 1 (by decide))
     obtain rfl := cu70 (hS 2 (by decide))
     obtain rfl := cu71 (hS 3 (by decide))
     obtain rfl := cu72 (hS 4 (by decide))
     obtain rfl := cu73 (hS 5 (by decide))
     obtain rfl := cu74 (hS 6 (by decide))
     obtain rfl := cu75 (hS 8 (by decide))
     obtain rfl := cu76 (hS 9 (by decide))
     obtain rfl := cr0_0
     obtain rfl := cr1_0
     obtain rfl := cr2_0
     obtain rfl := cr3_3 (hS 6 (by decide))
     have hle0 := Fz.le.trans hle0 hle433
     have hs608 := hs250.mono hle433
     have hs609 := hs251.mono hle433
     have hs610 := hs252.mono hle433
     have hs611 := hs253.mono hle433
     have hs612 := hs254.mono hle433
     have hs613 := hs313.mono hle433
     have hs614 := cf0 (hS 3 (by decide))
     have hs615 := cf1 (hS 6 (by decide))
     have hMx := hMx.keep (List.Sublist.cons_cons _ (List.Sublist.cons_cons _ (List.Sublist.cons_cons _ (List.Sublist.cons _ (List.Sublist.slnil)))))
     refine thn ?_
     have hF616 : Fr 100 [] [⟨0, [], .slice ao1 u0.length cap2⟩, ⟨5, [], .pointer (some ⟨b14, 0, none⟩)⟩, ⟨7, [], .slice aox7 x7.length capx7⟩, ⟨8, [], .int .i64 ((fCountS (fconcatS ([u0, u1] : List (List Filter))) u2.Long).2)⟩, ⟨11, [], .slice ao107 ((finS (fconcatS ([u0, u1] : List (List Filter))) u2).1).length cap108⟩, ⟨15, [], .int .i64 ((fCountS (fconcatS ([u0, u1] : List (List Filter))) u2.Long).1)⟩] a606 := hFx.region (by kernel_rfl) (by kernel_rfl); clear hFx
     refine sqH ?_; intro hQ617Q hQ617
     refine s1 hF616 78 (.slice ao1 u0.length cap2) ?_; intro a618 hF619; clear hF616
     refine s1 hF619 79 (.pointer (some ⟨b14, 1, none⟩)) ?_; intro a620 hF621; clear hF619
     refine l1 hF621 hMx 80 1 1 (.bool u2.Long) rfl rfl ?_; intro a622 hF623; clear hF621
     refine fcl hF623 hMx (.tuple #[.int .i64 ((fCountS u0 u2.Long).1), .int .i64 ((fCountS u0 u2.Long).2)]) 18 #[.slice ao1 u0.length cap2, .bool u2.Long] (nog rfl _) rfl (by kernel_rfl) (fun _ => by kernel_rfl) (fCount_fun u0 u2.Long ao1 cap2 _ _ hs608 hMx.fz) ?_; intro a624 wd626 hF625 hM627; clear hF623 hMx
     refine s1 hF625 77 (.tuple #[.int .i64 ((fCountS u0 u2.Long).1), .int .i64 ((fCountS u0 u2.Long).2)]) ?_; intro a628 hF629; clear hF625
     refine s1 hF629 82 (.int .i64 ((fCountS u0 u2.Long).1)) ?_; intro a630 hF631; clear hF629
     refine s1 hF631 83 (.int .i64 ((fCountS u0 u2.Long).2)) ?_; intro a632 hF633; clear hF631
     refine s1 hF633 16 (.int .i64 ((fCountS u0 u2.Long).1)) ?_; intro a634 hF635; clear hF633
     refine s1 hF635 10 (.int .i64 ((fCountS u0 u2.Long).2)) ?_; intro a636 hF637; clear hF635
     refine nlH (hQ617 _ _ ?_); clear hQ617 hQ617Q
     refine sqH ?_; intro hQ638Q hQ638
     refine s1 hF637 84 (.slice aox7 x7.length capx7) ?_; intro a639 hF640; clear hF637
     refine s1 hF640 85 (.slice ao107 ((finS (fconcatS ([u0, u1] : List (List Filter))) u2).1).length cap108) ?_; intro a641 hF642; clear hF640
     obtain ⟨Z643, hle644, hM645, hs646⟩ := hM627.freeze 0 rfl
     replace hs608 := hs608.mono hle644
     replace hs609 := hs609.mono hle644
     replace hs610 := hs610.mono hle644
     replace hs611 := hs611.mono hle644
     replace hs612 := hs612.mono hle644
     replace hs613 := hs613.mono hle644
     replace hs614 := hs614.mono hle644
     replace hs615 := hs615.mono hle644
     replace hle0 := Fz.le.trans hle0 hle644
     have hM647 : Mem w.heap.size [] w Z [.row b14 [.int .i64 u2.ID, .bool u2.Long, .bool u2.Fast, .bool u2.Remote, .int .i64 u2.Size, .slice ao7 u2.Data.length cap8] 38, .own (tyInt .i64) 3 ao107 cap108 ((finS (fconcatS ([u0, u1] : List (List Filter))) u2).1)] Z643 wd626 := hM645; clear hM645
     obtain ⟨Z648, hle649, hM650, hs651⟩ := hM647.freeze 1 rfl
     replace hs608 := hs608.mono hle649
     replace hs609 := hs609.mono hle649
     replace hs610 := hs610.mono hle649
     replace hs611 := hs611.mono hle649
     replace hs612 := hs612.mono hle649
     replace hs613 := hs613.mono hle649
     replace hs614 := hs614.mono hle649
     replace hs615 := hs615.mono hle649
     replace hs646 := hs646.mono hle649
     replace hle0 := Fz.le.trans hle0 hle649
     have hM652 : Mem w.heap.size [] w Z [.row b14 [.int .i64 u2.ID, .bool u2.Long, .bool u2.Fast, .bool u2.Remote, .int .i64 u2.Size, .slice ao7 u2.Data.length cap8] 38] Z648 wd626 := hM650; clear hM650
     refine fcl hF642 hM652 (.bool (sequalS x7 ((finS (fconcatS ([u0, u1] : List (List Filter))) u2).1))) 28 #[.slice aox7 x7.length capx7, .slice ao107 ((finS (fconcatS ([u0, u1] : List (List Filter))) u2).1).length cap108] (nog rfl _) rfl (by kernel_rfl) (fun _ => by kernel_rfl) (sequal_fun x7 ((finS (fconcatS ([u0, u1] : List (List Filter))) u2).1) aox7 capx7 ao107 cap108 _ _ hs646 hs651 hM652.fz) ?_; intro a653 wd655 hF654 hM656; clear hF642 hM652
     refine s1 hF654 87 (.bool (sequalS x7 ((finS (fconcatS ([u0, u1] : List (List Filter))) u2).1))) ?_; intro a657 hF658; clear hF654
     have hF659 := hF658.atom ((sequalS x7 ((finS (fconcatS ([u0, u1] : List (List Filter))) u2).1)) == true) (by kernel_rfl); clear hF658
     refine gp hF659 88 0 [] ((sequalS x7 ((finS (fconcatS ([u0, u1] : List (List Filter))) u2).1))) (.int .i64 ((fCountS (fconcatS ([u0, u1] : List (List Filter))) u2.Long).2)) rfl rfl ?_; intro a660 hF661; clear hF659
     refine gp hF661 89 0 [] ((sequalS x7 ((finS (fconcatS ([u0, u1] : List (List Filter))) u2).1))) (.bool (((fCountS (fconcatS ([u0, u1] : List (List Filter))) u2.Long).2) == 0)) rfl rfl ?_; intro a662 hF663; clear hF661
     refine st hF663 (.bool ((sequalS x7 ((finS (fconcatS ([u0, u1] : List (List Filter))) u2).1)) && (((fCountS (fconcatS ([u0, u1] : List (List Filter))) u2.Long).2) == 0))) (nog rfl _) rfl (by kernel_rfl) (pk_and hF663 (g := []) (m := 0) (b := (sequalS x7 ((finS (fconcatS ([u0, u1] : List (List Filter))) u2).1))) (v := ((fCountS (fconcatS ([u0, u1] : List (List Filter))) u2.Long).2) == 0) rfl (by kernel_rfl) (by kernel_rfl) (by kernel_rfl) rfl) ?_; intro a664 hF665; clear hF663
     refine s1 hF665 91 (.bool ((sequalS x7 ((finS (fconcatS ([u0, u1] : List (List Filter))) u2).1)) && (((fCountS (fconcatS ([u0, u1] : List (List Filter))) u2.Long).2) == 0))) ?_; intro a666 hF667; clear hF665
     have hF668 := hF667.atom (((sequalS x7 ((finS (fconcatS ([u0, u1] : List (List Filter))) u2).1)) && (((fCountS (fconcatS ([u0, u1] : List (List Filter))) u2.Long).2) == 0)) == true) (by kernel_rfl); clear hF667
     refine gp hF668 92 1 [] ((sequalS x7 ((finS (fconcatS ([u0, u1] : List (List Filter))) u2).1)) && (((fCountS (fconcatS ([u0, u1] : List (List Filter))) u2.Long).2) == 0)) (.int .i64 ((fCountS u0 u2.Long).2)) rfl rfl ?_; intro a669 hF670; clear hF668
     refine gp hF670 93 1 [] ((sequalS x7 ((finS (fconcatS ([u0, u1] : List (List Filter))) u2).1)) && (((fCountS (fconcatS ([u0, u1] : List (List Filter))) u2.Long).2) == 0)) (.bool (((fCountS u0 u2.Long).2) == 0)) rfl rfl ?_; intro a671 hF672; clear hF670
     refine st hF672 (.bool (((sequalS x7 ((finS (fconcatS ([u0, u1] : List (List Filter))) u2).1)) && (((fCountS (fconcatS ([u0, u1] : List (List Filter))) u2.Long).2) == 0)) && (((fCountS u0 u2.Long).2) == 0))) (nog rfl _) rfl (by kernel_rfl) (pk_and hF672 (g := []) (m := 1) (b := (sequalS x7 ((finS (fconcatS ([u0, u1] : List (List Filter))) u2).1)) && (((fCountS (fconcatS ([u0, u1] : List (List Filter))) u2.Long).2) == 0)) (v := ((fCountS u0 u2.Long).2) == 0) rfl (by kernel_rfl) (by kernel_rfl) (by kernel_rfl) rfl) ?_; intro a673 hF674; clear hF672
     refine s1 hF674 95 (.bool (((sequalS x7 ((finS (fconcatS ([u0, u1] : List (List Filter))) u2).1)) && (((fCountS (fconcatS ([u0, u1] : List (List Filter))) u2.Long).2) == 0)) && (((fCountS u0 u2.Long).2) == 0))) ?_; intro a675 hF676; clear hF674
     have hF677 := hF676.atom ((((sequalS x7 ((finS (fconcatS ([u0, u1] : List (List Filter))) u2).1)) && (((fCountS (fconcatS ([u0, u1] : List (List Filter))) u2.Long).2) == 0)) && (((fCountS u0 u2.Long).2) == 0)) == true) (by kernel_rfl); clear hF676
     refine gp hF677 96 2 [] (((sequalS x7 ((finS (fconcatS ([u0, u1] : List (List Filter))) u2).1)) && (((fCountS (fconcatS ([u0, u1] : List (List Filter))) u2.Long).2) == 0)) && (((fCountS u0 u2.Long).2) == 0)) (.int .i64 ((fCountS (fconcatS ([u0, u1] : List (List Filter))) u2.Long).1)) rfl rfl ?_; intro a678 hF679; clear hF677
     refine gp hF679 97 2 [] (((sequalS x7 ((finS (fconcatS ([u0, u1] : List (List Filter))) u2).1)) && (((fCountS (fconcatS ([u0, u1] : List (List Filter))) u2.Long).2) == 0)) && (((fCountS u0 u2.Long).2) == 0)) (.int .i64 ((fCountS u0 u2.Long).1)) rfl rfl ?_; intro a680 hF681; clear hF679
     refine gp hF681 98 2 [] (((sequalS x7 ((finS (fconcatS ([u0, u1] : List (List Filter))) u2).1)) && (((fCountS (fconcatS ([u0, u1] : List (List Filter))) u2.Long).2) == 0)) && (((fCountS u0 u2.Long).2) == 0)) (.bool (decide (((fCountS (fconcatS ([u0, u1] : List (List Filter))) u2.Long).1) ≥ ((fCountS u0 u2.Long).1)))) rfl rfl ?_; intro a682 hF683; clear hF681
     refine st hF683 (.bool ((((sequalS x7 ((finS (fconcatS ([u0, u1] : List (List Filter))) u2).1)) && (((fCountS (fconcatS ([u0, u1] : List (List Filter))) u2.Long).2) == 0)) && (((fCountS u0 u2.Long).2) == 0)) && (decide (((fCountS (fconcatS ([u0, u1] : List (List Filter))) u2.Long).1) ≥ ((fCountS u0 u2.Long).1))))) (nog rfl _) rfl (by kernel_rfl) (pk_and hF683 (g := []) (m := 2) (b := ((sequalS x7 ((finS (fconcatS ([u0, u1] : List (List Filter))) u2).1)) && (((fCountS (fconcatS ([u0, u1] : List (List Filter))) u2.Long).2) == 0)) && (((fCountS u0 u2.Long).2) == 0)) (v := decide (((fCountS (fconcatS ([u0, u1] : List (List Filter))) u2.Long).1) ≥ ((fCountS u0 u2.Long).1))) rfl (by kernel_rfl) (by kernel_rfl) (by kernel_rfl) rfl) ?_; intro a684 hF685; clear hF683
     refine s1 hF685 6 (.bool ((((sequalS x7 ((finS (fconcatS ([u0, u1] : List (List Filter))) u2).1)) && (((fCountS (fconcatS ([u0, u1] : List (List Filter))) u2.Long).2) == 0)) && (((fCountS u0 u2.Long).2) == 0)) && (decide (((fCountS (fconcatS ([u0, u1] : List (List Filter))) u2.Long).1) ≥ ((fCountS u0 u2.Long).1))))) ?_; intro a686 hF687; clear hF685
     refine nlH (hQ638 _ _ ?_); clear hQ638 hQ638Q
     refine wp_ret ?_
     refine rt (fn := Try.f8) (v := .bool ((((sequalS x7 ((finS (fconcatS ([u0, u1] : List (List Filter))) u2).1)) && (((fCountS (fconcatS ([u0, u1] : List (List Filter))) u2.Long).2) == 0)) && (((fCountS u0 u2.Long).2) == 0)) && (decide (((fCountS (fconcatS ([u0, u1] : List (List Filter))) u2.Long).1) ≥ ((fCountS u0 u2.Long).1))))) hF687 (re1 hF687 (fn := Try.f8) rfl (by kernel_rfl)) ?_
     exact ⟨(((sequalS x7 ((finS (fconcatS ([u0, u1] : List (List Filter))) u2).1)) && (((fCountS (fconcatS ([u0, u1] : List (List Filter))) u2.Long).2) == 0)) && (((fCountS u0 u2.Long).2) == 0)) && (decide (((fCountS (fconcatS ([u0, u1] : List (List Filter))) u2.Long).1) ≥ ((fCountS u0 u2.Long).1))), rfl, hp431, hM656.below⟩

end Go.Proofs.Ytkogkombalcgeaa
