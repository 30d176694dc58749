/- The walks, made by program: each call does what its pure predicate says. -/
import Derived.Test.YtginlmgkimfjmaaPDk
import Derived.Test.YtginlmgkimfjmaaWDj
set_option linter.unusedVariables false
set_option linter.unusedSimpArgs false
namespace Go.Proofs.Ytginlmgkimfjmaa
open Go.Sy Go.RowKit
theorem delayed_fun   (Z : Fz) (w : World)  (hZ : Z.on w) : Calls Try.prog 17 #[] w fun e w' => e = .returned (.bool true) ∧ Below w.heap.size w w' :=
  (delayed_walk   Z w  hZ (delayed_ok )).mono fun _ _ ⟨r, he, hk, hb⟩ => ⟨by subst hk; exact he, hb⟩

set_option maxRecDepth 100000 in
set_option maxHeartbeats 0 in
theorem LMore_walk (u0 : List Task) (u1 : Task) (ao1 : Option Addr) (cap2 : Nat) (Z : Fz) (w : World) (hs3 : SlR tyTask Z ao1 cap2 u0) (hZ : Z.on w) {K : Bool → Prop} (hp : LMore_vc u0 u1 K) : Calls Try.prog 4 #[.slice ao1 u0.length cap2, .agg #[.int .i64 u1.ID, .int .i64 u1.Bytes, .int .i64 u1.Every, .int .i64 u1.Late, .int .i64 u1.Jitter]] w fun e w' => ∃ r : Bool, e = .returned (.bool r) ∧ K r ∧ Below w.heap.size w w' := by
 refine enter0 Try.func4 rfl rfl (by kernel_rfl) ?_; intro a0 hF0; have hM0 := Mem.start w Z hZ; have hle0 := Fz.le.refl Z
 have hp4 := hp (hs3.small); clear hp
 refine sqH ?_; intro hQ5Q hQ5
 refine sn hF0 hM0 (fun b => .pointer (some ⟨b, 0, none⟩)) [.int .i64 u1.ID, .int .i64 u1.Bytes, .int .i64 u1.Every, .int .i64 u1.Late, .int .i64 u1.Jitter] 34 (nog rfl _) rfl (by kernel_rfl) (by kernel_rfl) ?_; intro b6 a7 wd9 hF8 hM10; clear hF0 hM0
 refine s1 hF8 4 (.bool false) ?_; intro a11 hF12; clear hF8
 refine nlH (hQ5 _ _ ?_); clear hQ5 hQ5Q
 refine sqH ?_; intro hQ13Q hQ13
 refine s1 hF12 11 (.slice ao1 u0.length cap2) ?_; intro a14 hF15; clear hF12
 refine cl hF15 15 #[.slice ao1 u0.length cap2] (nog rfl _) rfl (by kernel_rfl) (by kernel_rfl) ?_
 refine (dWorst_fun u0 ao1 cap2 _ _ hs3 hM10.fz).mono ?_; rintro _ wd16 ⟨ao20, cap21, Z22, rfl, hm⟩; refine ⟨_, rfl, ?_⟩; intro a17 hF18; have hM19 := hM10.callZ hm; have hle23 := hm.ext.le; clear hm hM10 hF15
 replace hs3 := hs3.mono hle23
 replace hle0 := Fz.le.trans hle0 hle23
 have hM24 : Mem w.heap.size [] w Z [.own tyStop 40 ao20 cap21 ((WorstS u0).1), .row b6 [.int .i64 u1.ID, .int .i64 u1.Bytes, .int .i64 u1.Every, .int .i64 u1.Late, .int .i64 u1.Jitter] 34] Z22 wd16 := hM19; clear hM19
 have hp25 := hp4 (hM24.ownSmall 0 rfl); clear hp4
 refine s1 hF18 10 (.tuple #[.slice ao20 ((WorstS u0).1).length cap21, .int .i64 ((WorstS u0).2)]) ?_; intro a26 hF27; clear hF18
 refine s1 hF27 13 (.slice ao20 ((WorstS u0).1).length cap21) ?_; intro a28 hF29; clear hF27
 refine s1 hF29 14 (.int .i64 ((WorstS u0).2)) ?_; intro a30 hF31; clear hF29
 refine s1 hF31 5 (.slice ao20 ((WorstS u0).1).length cap21) ?_; intro a32 hF33; clear hF31
 refine s1 hF33 6 (.int .i64 ((WorstS u0).2)) ?_; intro a34 hF35; clear hF33
 refine nlH (hQ13 _ _ ?_); clear hQ13 hQ13Q
 have hF36 : Fr 68 [] [⟨0, [], .slice ao1 u0.length cap2⟩, ⟨3, [], .pointer (some ⟨b6, 0, none⟩)⟩, ⟨5, [], .slice ao20 ((WorstS u0).1).length cap21⟩, ⟨6, [], .int .i64 ((WorstS u0).2)⟩] a34 := hF35.region (by kernel_rfl) (by kernel_rfl); clear hF35
 have hcd1_0 := hp25.1; have hp87 := hp25.2; clear hp25
 have hcd4_0 := hp87.1; have hp88 := hp87.2; clear hp87
 refine wp_seq (any_invE mixed [[], [0], [], [2], [1, 3], [4], [5], [6], [6], [0, 1, 2, 3, 4, 5, 6, 7], [0, 1, 2, 3, 4, 5, 6, 7, 8, 9]] 11 (fun S a w1 => ∃ (ao43 : Option Addr) (cap44 : Nat) (b50 : Nat) (ao55 : Option Addr) (cap56 : Nat) (ao72 : Option Addr) (cap73 : Nat) (ud7 : Value) (ud8 : Value) (ud15 : Value) (ud16 : Value) (ud17 : Value) (ud18 : Value) (ud19 : Value) (ud20 : Value) (ud21 : Value) (ud22 : Value) (ud23 : Value) (rh0 : Res) (rh1 : Res) (rh2 : Res) (rh3 : Res) (Z89 : Fz), Fz.le Z22 Z89 ∧ Fr 68 [] [⟨0, [], .slice ao1 u0.length cap2⟩, ⟨3, [], .pointer (some ⟨b6, 0, none⟩)⟩, ⟨5, [], .slice ao20 ((WorstS u0).1).length cap21⟩, ⟨6, [], .int .i64 ((WorstS u0).2)⟩, ⟨7, [], ud7⟩, ⟨8, [], ud8⟩, ⟨15, [], ud15⟩, ⟨16, [], ud16⟩, ⟨17, [], ud17⟩, ⟨18, [], ud18⟩, ⟨19, [], ud19⟩, ⟨20, [], ud20⟩, ⟨21, [], ud21⟩, ⟨22, [], ud22⟩, ⟨23, [], ud23⟩] a ∧ Mem w.heap.size [] w Z [rh0, rh1, rh2, rh3] Z89 w1 ∧ (S 9 = true → ud7 = .slice ao72 ((WorstS ((tcloneS u0) ++ [u1])).1).length cap73) ∧ (S 10 = true → ud8 = .int .i64 ((WorstS ((tcloneS u0) ++ [u1])).2)) ∧ (S 6 = true → ud15 = .tuple #[.slice ao72 ((WorstS ((tcloneS u0) ++ [u1])).1).length cap73, .int .i64 ((WorstS ((tcloneS u0) ++ [u1])).2)]) ∧ (S 0 = true → ud16 = .slice ao1 u0.length cap2) ∧ (S 1 = true → ud17 = .slice ao43 (tcloneS u0).length cap44) ∧ (S 2 = true → ud18 = .agg #[.int .i64 u1.ID, .int .i64 u1.Bytes, .int .i64 u1.Every, .int .i64 u1.Late, .int .i64 u1.Jitter]) ∧ (S 3 = true → ud19 = .slice (some ⟨b50, 0, none⟩) 1 1) ∧ (S 4 = true → ud20 = .slice ao55 ((tcloneS u0) ++ [u1]).length cap56) ∧ (S 5 = true → ud21 = .tuple #[.slice ao72 ((WorstS ((tcloneS u0) ++ [u1])).1).length cap73, .int .i64 ((WorstS ((tcloneS u0) ++ [u1])).2)]) ∧ (S 7 = true → ud22 = .slice ao72 ((WorstS ((tcloneS u0) ++ [u1])).1).length cap73) ∧ (S 8 = true → ud23 = .int .i64 ((WorstS ((tcloneS u0) ++ [u1])).2)) ∧ (rh0 = .own tyStop 40 ao20 cap21 ((WorstS u0).1)) ∧ (rh1 = .row b6 [.int .i64 u1.ID, .int .i64 u1.Bytes, .int .i64 u1.Every, .int .i64 u1.Late, .int .i64 u1.Jitter] 34) ∧ (S 1 = false → rh2 = .nil) ∧ (S 1 = true → S 4 = false → rh2 = .own tyTask 34 ao43 cap44 (tcloneS u0)) ∧ (S 4 = true → S 5 = false → rh2 = .own tyTask 34 ao55 cap56 ((tcloneS u0) ++ [u1])) ∧ (S 5 = true → rh2 = .own tyStop 40 ao72 cap73 ((WorstS ((tcloneS u0) ++ [u1])).1)) ∧ (S 3 = false → rh3 = .nil) ∧ (S 3 = true → rh3 = .row b50 [.int .i64 u1.ID, .int .i64 u1.Bytes, .int .i64 u1.Every, .int .i64 u1.Late, .int .i64 u1.Jitter] 34) ∧ (S 5 = true → SlR tyTask Z89 ao55 cap56 ((tcloneS u0) ++ [u1]))) ?h0 ?hs ?hE)
 case h0 =>
  have hF91 := hF36.any 7
  have hF92 := hF91.any 8
  have hF93 := hF92.any 15
  have hF94 := hF93.any 16
  have hF95 := hF94.any 17
  have hF96 := hF95.any 18
  have hF97 := hF96.any 19
  have hF98 := hF97.any 20
  have hF99 := hF98.any 21
  have hF100 := hF99.any 22
  have hF101 := hF100.any 23
  have hM102 := hM24.nilRes
  have hM103 := hM102.nilRes
  have hM104 := (hM103.perm ((pk 2 rfl).trans (((pk 2 rfl).trans (((pk 1 rfl).trans ((List.Perm.refl _).cons _)).cons _)).cons _))).drew
  exact ⟨none, 0, 0, none, 0, none, 0, a34.tmps.getD 7 undef, a34.tmps.getD 8 undef, a34.tmps.getD 15 undef, a34.tmps.getD 16 undef, a34.tmps.getD 17 undef, a34.tmps.getD 18 undef, a34.tmps.getD 19 undef, a34.tmps.getD 20 undef, a34.tmps.getD 21 undef, a34.tmps.getD 22 undef, a34.tmps.getD 23 undef, .own tyStop 40 ao20 cap21 ((WorstS u0).1), .row b6 [.int .i64 u1.ID, .int .i64 u1.Bytes, .int .i64 u1.Every, .int .i64 u1.Late, .int .i64 u1.Jitter] 34, .nil, .nil, Z22, Fz.le.refl _, hF101.region (by kernel_rfl) (by kernel_rfl), hM104, ff, ff, ff, ff, ff, ff, ff, ff, ff, ff, ff, rfl, rfl, kf, ff, ff, ff, kf, ff, ff⟩
 case hs =>
  intro S hcl i o hil hi hSi hpre a w1 hI; refine Go.Sy.hid ?_; intro G hG; obtain ⟨ao43, hI⟩ := hI; obtain ⟨cap44, hI⟩ := hI; obtain ⟨b50, hI⟩ := hI; obtain ⟨ao55, hI⟩ := hI; obtain ⟨cap56, hI⟩ := hI; obtain ⟨ao72, hI⟩ := hI; obtain ⟨cap73, hI⟩ := hI; obtain ⟨ud7, hI⟩ := hI; obtain ⟨ud8, hI⟩ := hI; obtain ⟨ud15, hI⟩ := hI; obtain ⟨ud16, hI⟩ := hI; obtain ⟨ud17, hI⟩ := hI; obtain ⟨ud18, hI⟩ := hI; obtain ⟨ud19, hI⟩ := hI; obtain ⟨ud20, hI⟩ := hI; obtain ⟨ud21, hI⟩ := hI; obtain ⟨ud22, hI⟩ := hI; obtain ⟨ud23, hI⟩ := hI; obtain ⟨rh0, hI⟩ := hI; obtain ⟨rh1, hI⟩ := hI; obtain ⟨rh2, hI⟩ := hI; obtain ⟨rh3, hI⟩ := hI; obtain ⟨Z89, hI⟩ := hI; obtain ⟨hle90, hI⟩ := hI; obtain ⟨hFx, hI⟩ := hI; obtain ⟨hMx, hI⟩ := hI; obtain ⟨cu7, hI⟩ := hI; obtain ⟨cu8, hI⟩ := hI; obtain ⟨cu15, hI⟩ := hI; obtain ⟨cu16, hI⟩ := hI; obtain ⟨cu17, hI⟩ := hI; obtain ⟨cu18, hI⟩ := hI; obtain ⟨cu19, hI⟩ := hI; obtain ⟨cu20, hI⟩ := hI; obtain ⟨cu21, hI⟩ := hI; obtain ⟨cu22, hI⟩ := hI; obtain ⟨cu23, hI⟩ := hI; obtain ⟨cr0_0, hI⟩ := hI; obtain ⟨cr1_0, hI⟩ := hI; obtain ⟨cr2_0, hI⟩ := hI; obtain ⟨cr2_1, hI⟩ := hI; obtain ⟨cr2_2, hI⟩ := hI; obtain ⟨cr2_3, hI⟩ := hI; obtain ⟨cr3_0, hI⟩ := hI; obtain ⟨cr3_1, hI⟩ := hI; have cf0 := hI; clear hI
  have hcase : i = 0 ∨ i = 1 ∨ i = 2 ∨ i = 3 ∨ i = 4 ∨ i = 5 ∨ i = 6 ∨ i = 7 ∨ i = 8 ∨ i = 9 ∨ i = 10 := by clear hi; omega
  rcases hcase with rfl | rfl | rfl | rfl | rfl | rfl | rfl | rfl | rfl | rfl | rfl
  · -- 0: move
   obtain rfl := Option.some.inj hi
   have hx0 := hSi
   have hx1 := negF hcl 1 0 (by kernel_rfl) hx0
   have hx4 := negF hcl 4 1 (by kernel_rfl) hx1
   have hx5 := negF hcl 5 4 (by kernel_rfl) hx4
   have hx6 := negF hcl 6 5 (by kernel_rfl) hx5
   have hx7 := negF hcl 7 6 (by kernel_rfl) hx6
   have hx8 := negF hcl 8 6 (by kernel_rfl) hx6
   have hx9 := negF hcl 9 0 (by kernel_rfl) hx0
   have hx10 := negF hcl 10 0 (by kernel_rfl) hx0
   obtain rfl := cr0_0
   obtain rfl := cr1_0
   obtain rfl := cr2_0 hx1
   refine hG (any_step ?_); clear hG G; intro A J hJ
   have hle0 := Fz.le.trans hle0 hle90
   have hzst := Fz.le.refl Z89
   have hs105 := hs3.mono hle90
   have hM106 := hMx.keep (List.Sublist.cons_cons _ (List.Sublist.cons_cons _ (List.Sublist.cons _ (List.Sublist.cons_cons _ (List.Sublist.slnil))))); clear hMx
   refine s1 hFx 16 (.slice ao1 u0.length cap2) ?_; intro a107 hF108; clear hFx
   refine nl (qnI (hJ _ _ ?_)); clear hJ J
   have hM109 := hM106.nilRes
   exact ⟨ao43, cap44, b50, ao55, cap56, ao72, cap73, ud7, ud8, ud15, .slice ao1 u0.length cap2, ud17, ud18, ud19, ud20, ud21, ud22, ud23, .own tyStop 40 ao20 cap21 ((WorstS u0).1), .row b6 [.int .i64 u1.ID, .int .i64 u1.Bytes, .int .i64 u1.Every, .int .i64 u1.Late, .int .i64 u1.Jitter] 34, .nil, rh3, Z89, hle90, hF108.region (by kernel_rfl) (by kernel_rfl), hM109.perm ((pk 1 rfl).trans (((pk 1 rfl).trans ((List.Perm.refl _).cons _)).cons _)), (nt hx9), (nt hx10), (nt hx6), kf, (nt hx1), cu18, cu19, (nt hx4), (nt hx5), (nt hx7), (nt hx8), rfl, rfl, kf, (fun h _ => nt hx1 h), (fun h _ => nt hx4 h), (nt hx5), cr3_0, cr3_1, (nt hx5)⟩
  · -- 1: call
   obtain rfl := Option.some.inj hi
   have hx0 := hpre 0 (by kernel_rfl)
   have hx1 := hSi
   have hx4 := negF hcl 4 1 (by kernel_rfl) hx1
   have hx5 := negF hcl 5 4 (by kernel_rfl) hx4
   have hx6 := negF hcl 6 5 (by kernel_rfl) hx5
   have hx7 := negF hcl 7 6 (by kernel_rfl) hx6
   have hx8 := negF hcl 8 6 (by kernel_rfl) hx6
   have hx9 := negF hcl 9 1 (by kernel_rfl) hx1
   have hx10 := negF hcl 10 1 (by kernel_rfl) hx1
   obtain rfl := cu16 hx0
   obtain rfl := cr0_0
   obtain rfl := cr1_0
   obtain rfl := cr2_0 hx1
   refine hG (any_step ?_); clear hG G; intro A J hJ
   have hle0 := Fz.le.trans hle0 hle90
   have hzst := Fz.le.refl Z89
   have hs111 := hs3.mono hle90
   have hM112 := hMx.keep (List.Sublist.cons_cons _ (List.Sublist.cons_cons _ (List.Sublist.cons _ (List.Sublist.cons_cons _ (List.Sublist.slnil))))); clear hMx
   refine cl hFx 16 #[.slice ao1 u0.length cap2] (nog rfl _) rfl (by kernel_rfl) (by kernel_rfl) ?_
   refine (tclone_fun u0 hcd1_0 ao1 cap2 _ _ hs111 hM112.fz).mono ?_; rintro _ wd113 ⟨ao117, cap118, Z119, rfl, hm⟩; refine ⟨_, rfl, ?_⟩; intro a114 hF115; have hM116 := hM112.callZ hm; have hle120 := hm.ext.le; clear hm hM112 hFx
   replace hzst := hzst.mono hle120
   replace hs111 := hs111.mono hle120
   replace hle0 := Fz.le.trans hle0 hle120
   have hM121 : Mem w.heap.size [] w Z [.own tyTask 34 ao117 cap118 (tcloneS u0), .own tyStop 40 ao20 cap21 ((WorstS u0).1), .row b6 [.int .i64 u1.ID, .int .i64 u1.Bytes, .int .i64 u1.Every, .int .i64 u1.Late, .int .i64 u1.Jitter] 34, rh3] Z119 wd113 := hM116; clear hM116
   refine nl (qnI (hJ _ _ ?_)); clear hJ J
   exact ⟨ao117, cap118, b50, ao55, cap56, ao72, cap73, ud7, ud8, ud15, .slice ao1 u0.length cap2, .slice ao117 (tcloneS u0).length cap118, ud18, ud19, ud20, ud21, ud22, ud23, .own tyStop 40 ao20 cap21 ((WorstS u0).1), .row b6 [.int .i64 u1.ID, .int .i64 u1.Bytes, .int .i64 u1.Every, .int .i64 u1.Late, .int .i64 u1.Jitter] 34, .own tyTask 34 ao117 cap118 (tcloneS u0), rh3, Z119, hle90.trans hzst, hF115.region (by kernel_rfl) (by kernel_rfl), hM121.perm ((pk 1 rfl).trans (((pk 1 rfl).trans ((List.Perm.refl _).cons _)).cons _)), (nt hx9), (nt hx10), (nt hx6), kf, kf, cu18, cu19, (nt hx4), (nt hx5), (nt hx7), (nt hx8), rfl, rfl, nu, kf2, (fun h _ => nt hx4 h), (nt hx5), cr3_0, cr3_1, (nt hx5)⟩
  · -- 2: load
   obtain rfl := Option.some.inj hi
   have hx2 := hSi
   have hx3 := negF hcl 3 2 (by kernel_rfl) hx2
   have hx4 := negF hcl 4 3 (by kernel_rfl) hx3
   have hx5 := negF hcl 5 4 (by kernel_rfl) hx4
   have hx6 := negF hcl 6 5 (by kernel_rfl) hx5
   have hx7 := negF hcl 7 6 (by kernel_rfl) hx6
   have hx8 := negF hcl 8 6 (by kernel_rfl) hx6
   have hx9 := negF hcl 9 2 (by kernel_rfl) hx2
   have hx10 := negF hcl 10 2 (by kernel_rfl) hx2
   obtain rfl := cr0_0
   obtain rfl := cr1_0
   obtain rfl := cr3_0 hx3
   refine hG (any_step ?_); clear hG G; intro A J hJ
   have hle0 := Fz.le.trans hle0 hle90
   have hzst := Fz.le.refl Z89
   have hs123 := hs3.mono hle90
   have hM124 := hMx.keep (List.Sublist.cons_cons _ (List.Sublist.cons_cons _ (List.Sublist.cons_cons _ (List.Sublist.cons _ (List.Sublist.slnil))))); clear hMx
   refine l2 hFx hM124 18 1 0 5 [.int .i64 u1.ID, .int .i64 u1.Bytes, .int .i64 u1.Every, .int .i64 u1.Late, .int .i64 u1.Jitter] rfl rfl ?_; intro a125 hF126; clear hFx
   refine nl (qnI (hJ _ _ ?_)); clear hJ J
   have hM127 := hM124.nilRes
   exact ⟨ao43, cap44, b50, ao55, cap56, ao72, cap73, ud7, ud8, ud15, ud16, ud17, .agg #[.int .i64 u1.ID, .int .i64 u1.Bytes, .int .i64 u1.Every, .int .i64 u1.Late, .int .i64 u1.Jitter], ud19, ud20, ud21, ud22, ud23, .own tyStop 40 ao20 cap21 ((WorstS u0).1), .row b6 [.int .i64 u1.ID, .int .i64 u1.Bytes, .int .i64 u1.Every, .int .i64 u1.Late, .int .i64 u1.Jitter] 34, rh2, .nil, Z89, hle90, hF126.region (by kernel_rfl) (by kernel_rfl), hM127.perm ((pk 1 rfl).trans (((pk 1 rfl).trans (((pk 1 rfl).trans ((List.Perm.refl _).cons _)).cons _)).cons _)), (nt hx9), (nt hx10), (nt hx6), cu16, cu17, kf, (nt hx3), (nt hx4), (nt hx5), (nt hx7), (nt hx8), rfl, rfl, cr2_0, cr2_1, (fun h _ => nt hx4 h), (nt hx5), kf, (nt hx3), (nt hx5)⟩
  · -- 3: buildSlice
   obtain rfl := Option.some.inj hi
   have hx2 := hpre 2 (by kernel_rfl)
   have hx3 := hSi
   have hx4 := negF hcl 4 3 (by kernel_rfl) hx3
   have hx5 := negF hcl 5 4 (by kernel_rfl) hx4
   have hx6 := negF hcl 6 5 (by kernel_rfl) hx5
   have hx7 := negF hcl 7 6 (by kernel_rfl) hx6
   have hx8 := negF hcl 8 6 (by kernel_rfl) hx6
   have hx9 := negF hcl 9 3 (by kernel_rfl) hx3
   have hx10 := negF hcl 10 3 (by kernel_rfl) hx3
   obtain rfl := cu18 hx2
   obtain rfl := cr0_0
   obtain rfl := cr1_0
   obtain rfl := cr3_0 hx3
   refine hG (any_step ?_); clear hG G; intro A J hJ
   have hle0 := Fz.le.trans hle0 hle90
   have hzst := Fz.le.refl Z89
   have hs129 := hs3.mono hle90
   have hM130 := hMx.keep (List.Sublist.cons_cons _ (List.Sublist.cons_cons _ (List.Sublist.cons_cons _ (List.Sublist.cons _ (List.Sublist.slnil))))); clear hMx
   refine sn hFx hM130 (fun b => .slice (some ⟨b, 0, none⟩) 1 1) [.int .i64 u1.ID, .int .i64 u1.Bytes, .int .i64 u1.Every, .int .i64 u1.Late, .int .i64 u1.Jitter] 34 (nog rfl _) rfl (by kernel_rfl) (by kernel_rfl) ?_; intro b131 a132 wd134 hF133 hM135; clear hFx hM130
   refine nl (qnI (hJ _ _ ?_)); clear hJ J
   exact ⟨ao43, cap44, b131, ao55, cap56, ao72, cap73, ud7, ud8, ud15, ud16, ud17, .agg #[.int .i64 u1.ID, .int .i64 u1.Bytes, .int .i64 u1.Every, .int .i64 u1.Late, .int .i64 u1.Jitter], .slice (some ⟨b131, 0, none⟩) 1 1, ud20, ud21, ud22, ud23, .own tyStop 40 ao20 cap21 ((WorstS u0).1), .row b6 [.int .i64 u1.ID, .int .i64 u1.Bytes, .int .i64 u1.Every, .int .i64 u1.Late, .int .i64 u1.Jitter] 34, rh2, .row b131 [.int .i64 u1.ID, .int .i64 u1.Bytes, .int .i64 u1.Every, .int .i64 u1.Late, .int .i64 u1.Jitter] 34, Z89, hle90, hF133.region (by kernel_rfl) (by kernel_rfl), hM135.perm ((pk 1 rfl).trans (((pk 1 rfl).trans (((pk 1 rfl).trans ((List.Perm.refl _).cons _)).cons _)).cons _)), (nt hx9), (nt hx10), (nt hx6), cu16, cu17, kf, kf, (nt hx4), (nt hx5), (nt hx7), (nt hx8), rfl, rfl, cr2_0, cr2_1, (fun h _ => nt hx4 h), (nt hx5), nu, kf, (nt hx5)⟩
  · -- 4: call
   obtain rfl := Option.some.inj hi
   have hx3 := hpre 3 (by kernel_rfl)
   have hx1 := hpre 1 (by kernel_rfl)
   have hx2 := hcl 3 2 (by kernel_rfl) hx3
   have hx0 := hcl 1 0 (by kernel_rfl) hx1
   have hx4 := hSi
   have hx5 := negF hcl 5 4 (by kernel_rfl) hx4
   have hx6 := negF hcl 6 5 (by kernel_rfl) hx5
   have hx7 := negF hcl 7 6 (by kernel_rfl) hx6
   have hx8 := negF hcl 8 6 (by kernel_rfl) hx6
   have hx9 := negF hcl 9 4 (by kernel_rfl) hx4
   have hx10 := negF hcl 10 4 (by kernel_rfl) hx4
   obtain rfl := cu16 hx0
   obtain rfl := cu17 hx1
   obtain rfl := cu18 hx2
   obtain rfl := cu19 hx3
   obtain rfl := cr0_0
   obtain rfl := cr1_0
   obtain rfl := cr2_1 hx1 hx4
   obtain rfl := cr3_1 hx3
   refine hG (any_step ?_); clear hG G; intro A J hJ
   have hle0 := Fz.le.trans hle0 hle90
   have hzst := Fz.le.refl Z89
   have hs137 := hs3.mono hle90
   refine ap hFx hMx 2 (T := tyTask) (xs := (tcloneS u0)) (ys := [u1]) (ao := ao43) (cap := cap44) (ao2 := (some ⟨b50, 0, none⟩)) (cap2 := 1) (t := 32) (e := 34) (bytes := 40) (nog rfl _) rfl (by kernel_rfl) rfl (by kernel_rfl) (by kernel_rfl) (by kernel_rfl) rfl (Src.row hMx 3 rfl (RepAll.one (T := tyTask) (x := u1) rfl)) hcd4_0 ?_; intro ao138 cap139 a143 wd140 hnil141 hF144 hM142; clear hFx hMx
   have hM145 : Mem w.heap.size [] w Z [.own tyStop 40 ao20 cap21 ((WorstS u0).1), .row b6 [.int .i64 u1.ID, .int .i64 u1.Bytes, .int .i64 u1.Every, .int .i64 u1.Late, .int .i64 u1.Jitter] 34, .own tyTask 34 ao138 cap139 ((tcloneS u0) ++ [u1]), .row b50 [.int .i64 u1.ID, .int .i64 u1.Bytes, .int .i64 u1.Every, .int .i64 u1.Late, .int .i64 u1.Jitter] 34] Z89 wd140 := hM142; clear hM142
   refine nl (qnI (hJ _ _ ?_)); clear hJ J
   exact ⟨ao43, cap44, b50, ao138, cap139, ao72, cap73, ud7, ud8, ud15, .slice ao1 u0.length cap2, .slice ao43 (tcloneS u0).length cap44, .agg #[.int .i64 u1.ID, .int .i64 u1.Bytes, .int .i64 u1.Every, .int .i64 u1.Late, .int .i64 u1.Jitter], .slice (some ⟨b50, 0, none⟩) 1 1, .slice ao138 ((tcloneS u0) ++ [u1]).length cap139, ud21, ud22, ud23, .own tyStop 40 ao20 cap21 ((WorstS u0).1), .row b6 [.int .i64 u1.ID, .int .i64 u1.Bytes, .int .i64 u1.Every, .int .i64 u1.Late, .int .i64 u1.Jitter] 34, .own tyTask 34 ao138 cap139 ((tcloneS u0) ++ [u1]), .row b50 [.int .i64 u1.ID, .int .i64 u1.Bytes, .int .i64 u1.Every, .int .i64 u1.Late, .int .i64 u1.Jitter] 34, Z89, hle90, hF144.region (by kernel_rfl) (by kernel_rfl), hM145.perm (List.Perm.refl _), (nt hx9), (nt hx10), (nt hx6), kf, kf, kf, kf, kf, (nt hx5), (nt hx7), (nt hx8), rfl, rfl, (tn hx1), (fun _ => nu), kf2, (nt hx5), (tn hx3), kf, (nt hx5)⟩
  · -- 5: call
   obtain rfl := Option.some.inj hi
   have hx4 := hpre 4 (by kernel_rfl)
   have hx3 := hcl 4 3 (by kernel_rfl) hx4
   have hx1 := hcl 4 1 (by kernel_rfl) hx4
   have hx2 := hcl 3 2 (by kernel_rfl) hx3
   have hx0 := hcl 1 0 (by kernel_rfl) hx1
   have hx5 := hSi
   have hx6 := negF hcl 6 5 (by kernel_rfl) hx5
   have hx7 := negF hcl 7 6 (by kernel_rfl) hx6
   have hx8 := negF hcl 8 6 (by kernel_rfl) hx6
   have hx9 := negF hcl 9 5 (by kernel_rfl) hx5
   have hx10 := negF hcl 10 5 (by kernel_rfl) hx5
   obtain rfl := cu16 hx0
   obtain rfl := cu17 hx1
   obtain rfl := cu18 hx2
   obtain rfl := cu19 hx3
   obtain rfl := cu20 hx4
   obtain rfl := cr0_0
   obtain rfl := cr1_0
   obtain rfl := cr2_2 hx4 hx5
   obtain rfl := cr3_1 hx3
   refine hG (any_step ?_); clear hG G; intro A J hJ
   have hle0 := Fz.le.trans hle0 hle90
   have hzst := Fz.le.refl Z89
   have hs147 := hs3.mono hle90
   obtain ⟨Z148, hle149, hM150, hs151⟩ := hMx.freeze 2 rfl
   replace hzst := hzst.mono hle149
   replace hs147 := hs147.mono hle149
   replace hle0 := Fz.le.trans hle0 hle149
   have hM152 : Mem w.heap.size [] w Z [.own tyStop 40 ao20 cap21 ((WorstS u0).1), .row b6 [.int .i64 u1.ID, .int .i64 u1.Bytes, .int .i64 u1.Every, .int .i64 u1.Late, .int .i64 u1.Jitter] 34, .row b50 [.int .i64 u1.ID, .int .i64 u1.Bytes, .int .i64 u1.Every, .int .i64 u1.Late, .int .i64 u1.Jitter] 34] Z148 w1 := hM150; clear hM150
   refine cl hFx 15 #[.slice ao55 ((tcloneS u0) ++ [u1]).length cap56] (nog rfl _) rfl (by kernel_rfl) (by kernel_rfl) ?_
   refine (dWorst_fun ((tcloneS u0) ++ [u1]) ao55 cap56 _ _ hs151 hM152.fz).mono ?_; rintro _ wd153 ⟨ao157, cap158, Z159, rfl, hm⟩; refine ⟨_, rfl, ?_⟩; intro a154 hF155; have hM156 := hM152.callZ hm; have hle160 := hm.ext.le; clear hm hM152 hFx
   replace hzst := hzst.mono hle160
   replace hs147 := hs147.mono hle160
   replace hs151 := hs151.mono hle160
   replace hle0 := Fz.le.trans hle0 hle160
   have hM161 : Mem w.heap.size [] w Z [.own tyStop 40 ao157 cap158 ((WorstS ((tcloneS u0) ++ [u1])).1), .own tyStop 40 ao20 cap21 ((WorstS u0).1), .row b6 [.int .i64 u1.ID, .int .i64 u1.Bytes, .int .i64 u1.Every, .int .i64 u1.Late, .int .i64 u1.Jitter] 34, .row b50 [.int .i64 u1.ID, .int .i64 u1.Bytes, .int .i64 u1.Every, .int .i64 u1.Late, .int .i64 u1.Jitter] 34] Z159 wd153 := hM156; clear hM156
   refine nl (qnI (hJ _ _ ?_)); clear hJ J
   exact ⟨ao43, cap44, b50, ao55, cap56, ao157, cap158, ud7, ud8, ud15, .slice ao1 u0.length cap2, .slice ao43 (tcloneS u0).length cap44, .agg #[.int .i64 u1.ID, .int .i64 u1.Bytes, .int .i64 u1.Every, .int .i64 u1.Late, .int .i64 u1.Jitter], .slice (some ⟨b50, 0, none⟩) 1 1, .slice ao55 ((tcloneS u0) ++ [u1]).length cap56, .tuple #[.slice ao157 ((WorstS ((tcloneS u0) ++ [u1])).1).length cap158, .int .i64 ((WorstS ((tcloneS u0) ++ [u1])).2)], ud22, ud23, .own tyStop 40 ao20 cap21 ((WorstS u0).1), .row b6 [.int .i64 u1.ID, .int .i64 u1.Bytes, .int .i64 u1.Every, .int .i64 u1.Late, .int .i64 u1.Jitter] 34, .own tyStop 40 ao157 cap158 ((WorstS ((tcloneS u0) ++ [u1])).1), .row b50 [.int .i64 u1.ID, .int .i64 u1.Bytes, .int .i64 u1.Every, .int .i64 u1.Late, .int .i64 u1.Jitter] 34, Z159, hle90.trans hzst, hF155.region (by kernel_rfl) (by kernel_rfl), hM161.perm ((pk 1 rfl).trans (((pk 1 rfl).trans ((List.Perm.refl _).cons _)).cons _)), (nt hx9), (nt hx10), (nt hx6), kf, kf, kf, kf, kf, kf, (nt hx7), (nt hx8), rfl, rfl, (tn hx1), (fun _ => tn hx4), (fun _ => nu), kf, (tn hx3), kf, (fun _ => hs151)⟩
  · -- 6: move
   obtain rfl := Option.some.inj hi
   have hx5 := hpre 5 (by kernel_rfl)
   have hx4 := hcl 5 4 (by kernel_rfl) hx5
   have hx3 := hcl 4 3 (by kernel_rfl) hx4
   have hx1 := hcl 4 1 (by kernel_rfl) hx4
   have hx2 := hcl 3 2 (by kernel_rfl) hx3
   have hx0 := hcl 1 0 (by kernel_rfl) hx1
   have hx6 := hSi
   have hx7 := negF hcl 7 6 (by kernel_rfl) hx6
   have hx8 := negF hcl 8 6 (by kernel_rfl) hx6
   have hx9 := negF hcl 9 6 (by kernel_rfl) hx6
   have hx10 := negF hcl 10 6 (by kernel_rfl) hx6
   obtain rfl := cu16 hx0
   obtain rfl := cu17 hx1
   obtain rfl := cu18 hx2
   obtain rfl := cu19 hx3
   obtain rfl := cu20 hx4
   obtain rfl := cu21 hx5
   obtain rfl := cr0_0
   obtain rfl := cr1_0
   obtain rfl := cr2_3 hx5
   obtain rfl := cr3_1 hx3
   refine hG (any_step ?_); clear hG G; intro A J hJ
   have hle0 := Fz.le.trans hle0 hle90
   have hzst := Fz.le.refl Z89
   have hs163 := hs3.mono hle90
   have hs164 := cf0 hx5
   refine s1 hFx 15 (.tuple #[.slice ao72 ((WorstS ((tcloneS u0) ++ [u1])).1).length cap73, .int .i64 ((WorstS ((tcloneS u0) ++ [u1])).2)]) ?_; intro a165 hF166; clear hFx
   refine nl (qnI (hJ _ _ ?_)); clear hJ J
   exact ⟨ao43, cap44, b50, ao55, cap56, ao72, cap73, ud7, ud8, .tuple #[.slice ao72 ((WorstS ((tcloneS u0) ++ [u1])).1).length cap73, .int .i64 ((WorstS ((tcloneS u0) ++ [u1])).2)], .slice ao1 u0.length cap2, .slice ao43 (tcloneS u0).length cap44, .agg #[.int .i64 u1.ID, .int .i64 u1.Bytes, .int .i64 u1.Every, .int .i64 u1.Late, .int .i64 u1.Jitter], .slice (some ⟨b50, 0, none⟩) 1 1, .slice ao55 ((tcloneS u0) ++ [u1]).length cap56, .tuple #[.slice ao72 ((WorstS ((tcloneS u0) ++ [u1])).1).length cap73, .int .i64 ((WorstS ((tcloneS u0) ++ [u1])).2)], ud22, ud23, .own tyStop 40 ao20 cap21 ((WorstS u0).1), .row b6 [.int .i64 u1.ID, .int .i64 u1.Bytes, .int .i64 u1.Every, .int .i64 u1.Late, .int .i64 u1.Jitter] 34, .own tyStop 40 ao72 cap73 ((WorstS ((tcloneS u0) ++ [u1])).1), .row b50 [.int .i64 u1.ID, .int .i64 u1.Bytes, .int .i64 u1.Every, .int .i64 u1.Late, .int .i64 u1.Jitter] 34, Z89, hle90, hF166.region (by kernel_rfl) (by kernel_rfl), hMx.perm (List.Perm.refl _), (nt hx9), (nt hx10), kf, kf, kf, kf, kf, kf, kf, (nt hx7), (nt hx8), rfl, rfl, (tn hx1), (fun _ => tn hx4), (fun _ => tn hx5), kf, (tn hx3), kf, (fun _ => hs164)⟩
  · -- 7: extract
   obtain rfl := Option.some.inj hi
   have hx6 := hpre 6 (by kernel_rfl)
   have hx5 := hcl 6 5 (by kernel_rfl) hx6
   have hx4 := hcl 5 4 (by kernel_rfl) hx5
   have hx3 := hcl 4 3 (by kernel_rfl) hx4
   have hx1 := hcl 4 1 (by kernel_rfl) hx4
   have hx2 := hcl 3 2 (by kernel_rfl) hx3
   have hx0 := hcl 1 0 (by kernel_rfl) hx1
   have hx7 := hSi
   have hx9 := negF hcl 9 7 (by kernel_rfl) hx7
   have hx10 := negF hcl 10 7 (by kernel_rfl) hx7
   obtain rfl := cu15 hx6
   obtain rfl := cu16 hx0
   obtain rfl := cu17 hx1
   obtain rfl := cu18 hx2
   obtain rfl := cu19 hx3
   obtain rfl := cu20 hx4
   obtain rfl := cu21 hx5
   obtain rfl := cr0_0
   obtain rfl := cr1_0
   obtain rfl := cr2_3 hx5
   obtain rfl := cr3_1 hx3
   refine hG (any_step ?_); clear hG G; intro A J hJ
   have hle0 := Fz.le.trans hle0 hle90
   have hzst := Fz.le.refl Z89
   have hs168 := hs3.mono hle90
   have hs169 := cf0 hx5
   refine s1 hFx 22 (.slice ao72 ((WorstS ((tcloneS u0) ++ [u1])).1).length cap73) ?_; intro a170 hF171; clear hFx
   refine nl (qnI (hJ _ _ ?_)); clear hJ J
   exact ⟨ao43, cap44, b50, ao55, cap56, ao72, cap73, ud7, ud8, .tuple #[.slice ao72 ((WorstS ((tcloneS u0) ++ [u1])).1).length cap73, .int .i64 ((WorstS ((tcloneS u0) ++ [u1])).2)], .slice ao1 u0.length cap2, .slice ao43 (tcloneS u0).length cap44, .agg #[.int .i64 u1.ID, .int .i64 u1.Bytes, .int .i64 u1.Every, .int .i64 u1.Late, .int .i64 u1.Jitter], .slice (some ⟨b50, 0, none⟩) 1 1, .slice ao55 ((tcloneS u0) ++ [u1]).length cap56, .tuple #[.slice ao72 ((WorstS ((tcloneS u0) ++ [u1])).1).length cap73, .int .i64 ((WorstS ((tcloneS u0) ++ [u1])).2)], .slice ao72 ((WorstS ((tcloneS u0) ++ [u1])).1).length cap73, ud23, .own tyStop 40 ao20 cap21 ((WorstS u0).1), .row b6 [.int .i64 u1.ID, .int .i64 u1.Bytes, .int .i64 u1.Every, .int .i64 u1.Late, .int .i64 u1.Jitter] 34, .own tyStop 40 ao72 cap73 ((WorstS ((tcloneS u0) ++ [u1])).1), .row b50 [.int .i64 u1.ID, .int .i64 u1.Bytes, .int .i64 u1.Every, .int .i64 u1.Late, .int .i64 u1.Jitter] 34, Z89, hle90, hF171.region (by kernel_rfl) (by kernel_rfl), hMx.perm (List.Perm.refl _), (nt hx9), (nt hx10), kf, kf, kf, kf, kf, kf, kf, kf, cu23, rfl, rfl, (tn hx1), (fun _ => tn hx4), (fun _ => tn hx5), kf, (tn hx3), kf, (fun _ => hs169)⟩
  · -- 8: extract
   obtain rfl := Option.some.inj hi
   have hx6 := hpre 6 (by kernel_rfl)
   have hx5 := hcl 6 5 (by kernel_rfl) hx6
   have hx4 := hcl 5 4 (by kernel_rfl) hx5
   have hx3 := hcl 4 3 (by kernel_rfl) hx4
   have hx1 := hcl 4 1 (by kernel_rfl) hx4
   have hx2 := hcl 3 2 (by kernel_rfl) hx3
   have hx0 := hcl 1 0 (by kernel_rfl) hx1
   have hx8 := hSi
   have hx10 := negF hcl 10 8 (by kernel_rfl) hx8
   obtain rfl := cu15 hx6
   obtain rfl := cu16 hx0
   obtain rfl := cu17 hx1
   obtain rfl := cu18 hx2
   obtain rfl := cu19 hx3
   obtain rfl := cu20 hx4
   obtain rfl := cu21 hx5
   obtain rfl := cr0_0
   obtain rfl := cr1_0
   obtain rfl := cr2_3 hx5
   obtain rfl := cr3_1 hx3
   refine hG (any_step ?_); clear hG G; intro A J hJ
   have hle0 := Fz.le.trans hle0 hle90
   have hzst := Fz.le.refl Z89
   have hs173 := hs3.mono hle90
   have hs174 := cf0 hx5
   refine s1 hFx 23 (.int .i64 ((WorstS ((tcloneS u0) ++ [u1])).2)) ?_; intro a175 hF176; clear hFx
   refine nl (qnI (hJ _ _ ?_)); clear hJ J
   exact ⟨ao43, cap44, b50, ao55, cap56, ao72, cap73, ud7, ud8, .tuple #[.slice ao72 ((WorstS ((tcloneS u0) ++ [u1])).1).length cap73, .int .i64 ((WorstS ((tcloneS u0) ++ [u1])).2)], .slice ao1 u0.length cap2, .slice ao43 (tcloneS u0).length cap44, .agg #[.int .i64 u1.ID, .int .i64 u1.Bytes, .int .i64 u1.Every, .int .i64 u1.Late, .int .i64 u1.Jitter], .slice (some ⟨b50, 0, none⟩) 1 1, .slice ao55 ((tcloneS u0) ++ [u1]).length cap56, .tuple #[.slice ao72 ((WorstS ((tcloneS u0) ++ [u1])).1).length cap73, .int .i64 ((WorstS ((tcloneS u0) ++ [u1])).2)], ud22, .int .i64 ((WorstS ((tcloneS u0) ++ [u1])).2), .own tyStop 40 ao20 cap21 ((WorstS u0).1), .row b6 [.int .i64 u1.ID, .int .i64 u1.Bytes, .int .i64 u1.Every, .int .i64 u1.Late, .int .i64 u1.Jitter] 34, .own tyStop 40 ao72 cap73 ((WorstS ((tcloneS u0) ++ [u1])).1), .row b50 [.int .i64 u1.ID, .int .i64 u1.Bytes, .int .i64 u1.Every, .int .i64 u1.Late, .int .i64 u1.Jitter] 34, Z89, hle90, hF176.region (by kernel_rfl) (by kernel_rfl), hMx.perm (List.Perm.refl _), cu7, (nt hx10), kf, kf, kf, kf, kf, kf, kf, cu22, kf, rfl, rfl, (tn hx1), (fun _ => tn hx4), (fun _ => tn hx5), kf, (tn hx3), kf, (fun _ => hs174)⟩
  · -- 9: assign
   obtain rfl := Option.some.inj hi
   have hx7 := hpre 7 (by kernel_rfl)
   have hx6 := hpre 6 (by kernel_rfl)
   have hx5 := hpre 5 (by kernel_rfl)
   have hx4 := hpre 4 (by kernel_rfl)
   have hx3 := hpre 3 (by kernel_rfl)
   have hx2 := hpre 2 (by kernel_rfl)
   have hx1 := hpre 1 (by kernel_rfl)
   have hx0 := hpre 0 (by kernel_rfl)
   have hx9 := hSi
   have hx10 := negF hcl 10 9 (by kernel_rfl) hx9
   obtain rfl := cu15 hx6
   obtain rfl := cu16 hx0
   obtain rfl := cu17 hx1
   obtain rfl := cu18 hx2
   obtain rfl := cu19 hx3
   obtain rfl := cu20 hx4
   obtain rfl := cu21 hx5
   obtain rfl := cu22 hx7
   obtain rfl := cr0_0
   obtain rfl := cr1_0
   obtain rfl := cr2_3 hx5
   obtain rfl := cr3_1 hx3
   refine hG (any_step ?_); clear hG G; intro A J hJ
   have hle0 := Fz.le.trans hle0 hle90
   have hzst := Fz.le.refl Z89
   have hs178 := hs3.mono hle90
   have hs179 := cf0 hx5
   refine s1 hFx 7 (.slice ao72 ((WorstS ((tcloneS u0) ++ [u1])).1).length cap73) ?_; intro a180 hF181; clear hFx
   refine nl (qnI (hJ _ _ ?_)); clear hJ J
   exact ⟨ao43, cap44, b50, ao55, cap56, ao72, cap73, .slice ao72 ((WorstS ((tcloneS u0) ++ [u1])).1).length cap73, ud8, .tuple #[.slice ao72 ((WorstS ((tcloneS u0) ++ [u1])).1).length cap73, .int .i64 ((WorstS ((tcloneS u0) ++ [u1])).2)], .slice ao1 u0.length cap2, .slice ao43 (tcloneS u0).length cap44, .agg #[.int .i64 u1.ID, .int .i64 u1.Bytes, .int .i64 u1.Every, .int .i64 u1.Late, .int .i64 u1.Jitter], .slice (some ⟨b50, 0, none⟩) 1 1, .slice ao55 ((tcloneS u0) ++ [u1]).length cap56, .tuple #[.slice ao72 ((WorstS ((tcloneS u0) ++ [u1])).1).length cap73, .int .i64 ((WorstS ((tcloneS u0) ++ [u1])).2)], .slice ao72 ((WorstS ((tcloneS u0) ++ [u1])).1).length cap73, ud23, .own tyStop 40 ao20 cap21 ((WorstS u0).1), .row b6 [.int .i64 u1.ID, .int .i64 u1.Bytes, .int .i64 u1.Every, .int .i64 u1.Late, .int .i64 u1.Jitter] 34, .own tyStop 40 ao72 cap73 ((WorstS ((tcloneS u0) ++ [u1])).1), .row b50 [.int .i64 u1.ID, .int .i64 u1.Bytes, .int .i64 u1.Every, .int .i64 u1.Late, .int .i64 u1.Jitter] 34, Z89, hle90, hF181.region (by kernel_rfl) (by kernel_rfl), hMx.perm (List.Perm.refl _), kf, (nt hx10), kf, kf, kf, kf, kf, kf, kf, kf, cu23, rfl, rfl, (tn hx1), (fun _ => tn hx4), (fun _ => tn hx5), kf, (tn hx3), kf, (fun _ => hs179)⟩
  · -- 10: assign
   obtain rfl := Option.some.inj hi
   have hx9 := hpre 9 (by kernel_rfl)
   have hx8 := hpre 8 (by kernel_rfl)
   have hx7 := hpre 7 (by kernel_rfl)
   have hx6 := hpre 6 (by kernel_rfl)
   have hx5 := hpre 5 (by kernel_rfl)
   have hx4 := hpre 4 (by kernel_rfl)
   have hx3 := hpre 3 (by kernel_rfl)
   have hx2 := hpre 2 (by kernel_rfl)
   have hx1 := hpre 1 (by kernel_rfl)
   have hx0 := hpre 0 (by kernel_rfl)
   have hx10 := hSi
   obtain rfl := cu7 hx9
   obtain rfl := cu15 hx6
   obtain rfl := cu16 hx0
   obtain rfl := cu17 hx1
   obtain rfl := cu18 hx2
   obtain rfl := cu19 hx3
   obtain rfl := cu20 hx4
   obtain rfl := cu21 hx5
   obtain rfl := cu22 hx7
   obtain rfl := cu23 hx8
   obtain rfl := cr0_0
   obtain rfl := cr1_0
   obtain rfl := cr2_3 hx5
   obtain rfl := cr3_1 hx3
   refine hG (any_step ?_); clear hG G; intro A J hJ
   have hle0 := Fz.le.trans hle0 hle90
   have hzst := Fz.le.refl Z89
   have hs183 := hs3.mono hle90
   have hs184 := cf0 hx5
   refine s1 hFx 8 (.int .i64 ((WorstS ((tcloneS u0) ++ [u1])).2)) ?_; intro a185 hF186; clear hFx
   refine nl (qnI (hJ _ _ ?_)); clear hJ J
   exact ⟨ao43, cap44, b50, ao55, cap56, ao72, cap73, .slice ao72 ((WorstS ((tcloneS u0) ++ [u1])).1).length cap73, .int .i64 ((WorstS ((tcloneS u0) ++ [u1])).2), .tuple #[.slice ao72 ((WorstS ((tcloneS u0) ++ [u1])).1).length cap73, .int .i64 ((WorstS ((tcloneS u0) ++ [u1])).2)], .slice ao1 u0.length cap2, .slice ao43 (tcloneS u0).length cap44, .agg #[.int .i64 u1.ID, .int .i64 u1.Bytes, .int .i64 u1.Every, .int .i64 u1.Late, .int .i64 u1.Jitter], .slice (some ⟨b50, 0, none⟩) 1 1, .slice ao55 ((tcloneS u0) ++ [u1]).length cap56, .tuple #[.slice ao72 ((WorstS ((tcloneS u0) ++ [u1])).1).length cap73, .int .i64 ((WorstS ((tcloneS u0) ++ [u1])).2)], .slice ao72 ((WorstS ((tcloneS u0) ++ [u1])).1).length cap73, .int .i64 ((WorstS ((tcloneS u0) ++ [u1])).2), .own tyStop 40 ao20 cap21 ((WorstS u0).1), .row b6 [.int .i64 u1.ID, .int .i64 u1.Bytes, .int .i64 u1.Every, .int .i64 u1.Late, .int .i64 u1.Jitter] 34, .own tyStop 40 ao72 cap73 ((WorstS ((tcloneS u0) ++ [u1])).1), .row b50 [.int .i64 u1.ID, .int .i64 u1.Bytes, .int .i64 u1.Every, .int .i64 u1.Late, .int .i64 u1.Jitter] 34, Z89, hle90, hF186.region (by kernel_rfl) (by kernel_rfl), hMx.perm (List.Perm.refl _), kf, kf, kf, kf, kf, kf, kf, kf, kf, kf, kf, rfl, rfl, (tn hx1), (fun _ => tn hx4), (fun _ => tn hx5), kf, (tn hx3), kf, (fun _ => hs184)⟩
 case hE =>
  intro S hS a188 wd189 hI; refine Go.Sy.hid ?_; intro G hG; obtain ⟨ao43, hI⟩ := hI; obtain ⟨cap44, hI⟩ := hI; obtain ⟨b50, hI⟩ := hI; obtain ⟨ao55, hI⟩ := hI; obtain ⟨cap56, hI⟩ := hI; obtain ⟨ao72, hI⟩ := hI; obtain ⟨cap73, hI⟩ := hI; obtain ⟨ud7, hI⟩ := hI; obtain ⟨ud8, hI⟩ := hI; obtain ⟨ud15, hI⟩ := hI; obtain ⟨ud16, hI⟩ := hI; obtain ⟨ud17, hI⟩ := hI; obtain ⟨ud18, hI⟩ := hI; obtain ⟨ud19, hI⟩ := hI; obtain ⟨ud20, hI⟩ := hI; obtain ⟨ud21, hI⟩ := hI; obtain ⟨ud22, hI⟩ := hI; obtain ⟨ud23, hI⟩ := hI; obtain ⟨rh0, hI⟩ := hI; obtain ⟨rh1, hI⟩ := hI; obtain ⟨rh2, hI⟩ := hI; obtain ⟨rh3, hI⟩ := hI; obtain ⟨Z89, hI⟩ := hI; obtain ⟨hle90, hI⟩ := hI; obtain ⟨hFx, hI⟩ := hI; obtain ⟨hMx, hI⟩ := hI; obtain ⟨cu7, hI⟩ := hI; obtain ⟨cu8, hI⟩ := hI; obtain ⟨cu15, hI⟩ := hI; obtain ⟨cu16, hI⟩ := hI; obtain ⟨cu17, hI⟩ := hI; obtain ⟨cu18, hI⟩ := hI; obtain ⟨cu19, hI⟩ := hI; obtain ⟨cu20, hI⟩ := hI; obtain ⟨cu21, hI⟩ := hI; obtain ⟨cu22, hI⟩ := hI; obtain ⟨cu23, hI⟩ := hI; obtain ⟨cr0_0, hI⟩ := hI; obtain ⟨cr1_0, hI⟩ := hI; obtain ⟨cr2_0, hI⟩ := hI; obtain ⟨cr2_1, hI⟩ := hI; obtain ⟨cr2_2, hI⟩ := hI; obtain ⟨cr2_3, hI⟩ := hI; obtain ⟨cr3_0, hI⟩ := hI; obtain ⟨cr3_1, hI⟩ := hI; have cf0 := hI; clear hI; refine hG ?_; clear hG G
  obtain rfl := cu7 (hS 9 (by decide))
  obtain rfl := cu8 (hS 10 (by decide))
  obtain rfl := cu15 (hS 6 (by decide))
  obtain rfl := cu16 (hS 0 (by decide))
  obtain rfl := cu17 (hS 1 (by decide))
  obtain rfl := cu18 (hS 2 (by decide))
  obtain rfl := cu19 (hS 3 (by decide))
  obtain rfl := cu20 (hS 4 (by decide))
  obtain rfl := cu21 (hS 5 (by decide))
  obtain rfl := cu22 (hS 7 (by decide))
  obtain rfl := cu23 (hS 8 (by decide))
  obtain rfl := cr0_0
  obtain rfl := cr1_0
  obtain rfl := cr2_3 (hS 5 (by decide))
  obtain rfl := cr3_1 (hS 3 (by decide))
  have hle0 := Fz.le.trans hle0 hle90
  have hs190 := hs3.mono hle90
  have hs191 := cf0 (hS 5 (by decide))
  refine thn ?_
  refine wp_seq ?_
  have hF192 : Fr 68 [] [⟨5, [], .slice ao20 ((WorstS u0).1).length cap21⟩, ⟨6, [], .int .i64 ((WorstS u0).2)⟩, ⟨7, [], .slice ao72 ((WorstS ((tcloneS u0) ++ [u1])).1).length cap73⟩, ⟨8, [], .int .i64 ((WorstS ((tcloneS u0) ++ [u1])).2)⟩] a188 := hFx.region (by kernel_rfl) (by kernel_rfl); clear hFx
  refine sqH ?_; intro hQ193Q hQ193
  refine fcl hF192 hMx (.bool true) 17 #[] (nog rfl _) rfl (by kernel_rfl) (fun _ => by kernel_rfl) (delayed_fun  _ _ hMx.fz) ?_; intro a194 wd196 hF195 hM197; clear hF192 hMx
  refine s1 hF195 25 (.bool false) ?_; intro a198 hF199; clear hF195
  refine s1 hF199 26 (.bool false) ?_; intro a200 hF201; clear hF199
  refine st hF201 (.int .i64 ((WorstS u0).2)) (by rw [wanted_of hF201 (b := false) rfl rfl (by kernel_rfl) (by kernel_rfl)]; rfl) rfl (by kernel_rfl) (p0 hF201 (by kernel_rfl)) ?_; intro a202 hF203; clear hF201
  refine st hF203 (.bool (((WorstS u0).2) != 0)) (by rw [wanted_of hF203 (b := false) rfl rfl (by kernel_rfl) (by kernel_rfl)]; rfl) rfl (by kernel_rfl) (p0 hF203 (by kernel_rfl)) ?_; intro a204 hF205; clear hF203
  refine s1 hF205 29 (.bool (((WorstS u0).2) != 0)) ?_; intro a206 hF207; clear hF205
  refine s1 hF207 30 (.bool (((WorstS u0).2) != 0)) ?_; intro a208 hF209; clear hF207
  have hF210 := hF209.atom ((((WorstS u0).2) != 0) == false) (by kernel_rfl); clear hF209
  refine gp hF210 31 0 [] (((WorstS u0).2) != 0) (.int .i64 ((WorstS ((tcloneS u0) ++ [u1])).2)) rfl rfl ?_; intro a211 hF212; clear hF210
  refine gp hF212 32 0 [] (((WorstS u0).2) != 0) (.bool (((WorstS ((tcloneS u0) ++ [u1])).2) != 0)) rfl rfl ?_; intro a213 hF214; clear hF212
  refine st hF214 (.bool ((((WorstS u0).2) != 0) || (((WorstS ((tcloneS u0) ++ [u1])).2) != 0))) (nog rfl _) rfl (by kernel_rfl) (pk_or hF214 (g := []) (m := 0) (b := ((WorstS u0).2) != 0) (v := ((WorstS ((tcloneS u0) ++ [u1])).2) != 0) rfl (by kernel_rfl) (by kernel_rfl) (by kernel_rfl) rfl) ?_; intro a215 hF216; clear hF214
  refine nlH (hQ193 _ _ ?_); clear hQ193 hQ193Q
  refine cd hF216 (t := (((WorstS u0).2) != 0) || (((WorstS ((tcloneS u0) ++ [u1])).2) != 0)) (by kernel_rfl) (fun hb217 => ?_) (fun hb217 => ?_)
  · -- yes
   have hp218 := hp88.1 hb217; clear hp88
   have hF219 : Fr 68 [] [] a215 := hF216.region (by kernel_rfl) (by kernel_rfl); clear hF216
   refine sqH ?_; intro hQ220Q hQ220
   refine fcl hF219 hM197 (.bool true) 17 #[] (nog rfl _) rfl (by kernel_rfl) (fun _ => by kernel_rfl) (delayed_fun  _ _ hM197.fz) ?_; intro a221 wd223 hF222 hM224; clear hF219 hM197
   refine s1 hF222 4 (.bool true) ?_; intro a225 hF226; clear hF222
   refine nlH (hQ220 _ _ ?_); clear hQ220 hQ220Q
   refine wp_ret ?_
   refine thr ?_
   refine rt (fn := Try.f4) (v := .bool true) hF226 (re1 hF226 (fn := Try.f4) rfl (by kernel_rfl)) ?_
   exact ⟨true, rfl, hp218, hM224.below⟩
  · -- no
   have hp227 := hp88.2 hb217; clear hp88
   refine wp_skip ?_
   refine thn ?_
   refine wp_seq ?_
   have hF228 : Fr 68 [] [⟨5, [], .slice ao20 ((WorstS u0).1).length cap21⟩, ⟨7, [], .slice ao72 ((WorstS ((tcloneS u0) ++ [u1])).1).length cap73⟩] a215 := hF216.region (by kernel_rfl) (by kernel_rfl); clear hF216
   refine sqH ?_; intro hQ229Q hQ229
   refine s1 hF228 35 (.slice ao20 ((WorstS u0).1).length cap21) ?_; intro a230 hF231; clear hF228
   refine s1 hF231 36 (.int .i64 (((WorstS u0).1).length : Int)) ?_; intro a232 hF233; clear hF231
   refine s1 hF233 37 (.int .i64 0) ?_; intro a234 hF235; clear hF233
   refine nlH (hQ229 _ _ ?_); clear hQ229 hQ229Q
   refine wp_block ?_
   have hF236 : Fr 68 [] [⟨5, [], .slice ao20 ((WorstS u0).1).length cap21⟩, ⟨7, [], .slice ao72 ((WorstS ((tcloneS u0) ++ [u1])).1).length cap73⟩, ⟨36, [], .int .i64 (((WorstS u0).1).length : Int)⟩, ⟨37, [], .int .i64 0⟩] a234 := hF235.region (by kernel_rfl) (by kernel_rfl); clear hF235
   obtain ⟨Z238, hle239, hM240, hs241⟩ := hM197.freeze 0 rfl
   replace hs190 := hs190.mono hle239
   replace hs191 := hs191.mono hle239
   replace hle0 := Fz.le.trans hle0 hle239
   have hM242 : Mem w.heap.size [] w Z [.row b6 [.int .i64 u1.ID, .int .i64 u1.Bytes, .int .i64 u1.Every, .int .i64 u1.Late, .int .i64 u1.Jitter] 34, .own tyStop 40 ao72 cap73 ((WorstS ((tcloneS u0) ++ [u1])).1), .row b50 [.int .i64 u1.ID, .int .i64 u1.Bytes, .int .i64 u1.Every, .int .i64 u1.Late, .int .i64 u1.Jitter] 34] Z238 wd196 := hM240; clear hM240
   obtain ⟨Z243, hle244, hM245, hs246⟩ := hM242.freeze 1 rfl
   replace hs190 := hs190.mono hle244
   replace hs191 := hs191.mono hle244
   replace hs241 := hs241.mono hle244
   replace hle0 := Fz.le.trans hle0 hle244
   have hM247 : Mem w.heap.size [] w Z [.row b6 [.int .i64 u1.ID, .int .i64 u1.Bytes, .int .i64 u1.Every, .int .i64 u1.Late, .int .i64 u1.Jitter] 34, .row b50 [.int .i64 u1.ID, .int .i64 u1.Bytes, .int .i64 u1.Every, .int .i64 u1.Late, .int .i64 u1.Jitter] 34] Z243 wd196 := hM245; clear hM245
   have hF248 : Fr 68 [] [⟨5, [], .slice ao20 ((WorstS u0).1).length cap21⟩, ⟨7, [], .slice ao72 ((WorstS ((tcloneS u0) ++ [u1])).1).length cap73⟩, ⟨36, [], .int .i64 (((WorstS u0).1).length : Int)⟩, ⟨37, [], .int .i64 0⟩] a234 := hF236.region (by kernel_rfl) (by kernel_rfl); clear hF236
   obtain ⟨inv237, mu237, hI251, hr250⟩ := hp227
   refine lp (ι := Int) (fun (s : Int) => [⟨5, [], .slice ao20 ((WorstS u0).1).length cap21⟩, ⟨7, [], .slice ao72 ((WorstS ((tcloneS u0) ++ [u1])).1).length cap73⟩, ⟨36, [], .int .i64 (((WorstS u0).1).length : Int)⟩, ⟨37, [], .int .i64 s⟩]) (fun (s : Int) => [.row b6 [.int .i64 u1.ID, .int .i64 u1.Bytes, .int .i64 u1.Every, .int .i64 u1.Late, .int .i64 u1.Jitter] 34, .row b50 [.int .i64 u1.ID, .int .i64 u1.Bytes, .int .i64 u1.Every, .int .i64 u1.Late, .int .i64 u1.Jitter] 34]) (fun (s : Int) => Z243) (fun (s : Int) => inv237 s) (fun (s : Int) => mu237 s) 0 hI251 (by exact hF248.region (by kernel_rfl) (by kernel_rfl)) (by exact hM247) ?_
   rintro x37 hI249 a253 wd254 hF255 hM256
   have hF257 : Fr 68 [] [⟨5, [], .slice ao20 ((WorstS u0).1).length cap21⟩, ⟨7, [], .slice ao72 ((WorstS ((tcloneS u0) ++ [u1])).1).length cap73⟩, ⟨36, [], .int .i64 (((WorstS u0).1).length : Int)⟩, ⟨37, [], .int .i64 x37⟩] a253 := hF255; clear hF255 hF248
   have hM258 : Mem w.heap.size [] w Z [.row b6 [.int .i64 u1.ID, .int .i64 u1.Bytes, .int .i64 u1.Every, .int .i64 u1.Late, .int .i64 u1.Jitter] 34, .row b50 [.int .i64 u1.ID, .int .i64 u1.Bytes, .int .i64 u1.Every, .int .i64 u1.Late, .int .i64 u1.Jitter] 34] Z243 wd254 := hM256; clear hM256 hM247
   have hp259 := hr250 x37 hI249
   refine sqH ?_; intro hQ260Q hQ260
   refine s1 hF257 38 (.bool (decide (x37 < (((WorstS u0).1).length : Int)))) ?_; intro a261 hF262; clear hF257
   refine nlH (hQ260 _ _ ?_); clear hQ260 hQ260Q
   refine wp_seq ?_
   refine cd hF262 (t := decide (x37 < (((WorstS u0).1).length : Int))) (by kernel_rfl) (fun hb263 => ?_) (fun hb263 => ?_)
   · -- yes
    have hp264 := hp259.1 hb263; clear hp259
    refine wp_skip ?_
    refine thn ?_
    refine wp_seq ?_
    refine wp_block ?_
    refine sqH ?_; intro hQ265Q hQ265
    refine s1 hF262 39 (.int .i64 x37) ?_; intro a266 hF267; clear hF262
    refine s1 hF267 9 (.int .i64 x37) ?_; intro a268 hF269; clear hF267
    refine nlH (hQ265 _ _ ?_); clear hQ265 hQ265Q
    have hF270 : Fr 68 [] [⟨5, [], .slice ao20 ((WorstS u0).1).length cap21⟩, ⟨7, [], .slice ao72 ((WorstS ((tcloneS u0) ++ [u1])).1).length cap73⟩, ⟨9, [], .int .i64 x37⟩, ⟨36, [], .int .i64 (((WorstS u0).1).length : Int)⟩, ⟨37, [], .int .i64 x37⟩] a268 := hF269.region (by kernel_rfl) (by kernel_rfl); clear hF269
    refine sqQH mixed (by kernel_rfl) hM258 ?_; intro hQ271Q hQ271
    refine q1 hF270 40 (.slice ao72 ((WorstS ((tcloneS u0) ++ [u1])).1).length cap73) ?_; intro a273 hF274; clear hF270
    refine q1 hF274 41 (.int .i64 x37) ?_; intro a276 hF277; clear hF274
    have hc279 := hp264.1; have hp280 := hp264.2; clear hp264
    refine qix hF277 (T := tyStop) (xs := (WorstS ((tcloneS u0) ++ [u1])).1) hs246 x37 hc279 (k := .i64) (e := 40) (bytes := 16) (nog rfl _) rfl (by kernel_rfl) rfl (by kernel_rfl) (by kernel_rfl) (by kernel_rfl) ?_; intro b281 off282 cs283 q284 a288 hq285 hP286 hT287 hF289; clear hF277
    have hp290 := hp280 q284 hq285; clear hp280
    obtain rfl : cs283 = ([.int .i64 q284.Wait, .bool q284.Fits] : List Value) := hT287
    refine q1 hF289 43 (.pointer (some ⟨b281, off282, none⟩)) ?_; intro a292 hF293; clear hF289
    refine qst hF293 (.int .i64 q284.Wait) (nog rfl _) rfl (by kernel_rfl) (fun v294 hC => lz hF293 hC.fz hP286 0 (g := []) rfl (by kernel_rfl) (by kernel_rfl) (by kernel_rfl) rfl) ?_; intro a295 hF296; clear hF293
    refine q1 hF296 45 (.bool (decide (q284.Wait ≥ 0))) ?_; intro a298 hF299; clear hF296
    refine q1 hF299 46 (.bool (decide (q284.Wait ≥ 0))) ?_; intro a301 hF302; clear hF299
    have hF303 := hF302.atom ((decide (q284.Wait ≥ 0)) == true) (by kernel_rfl); clear hF302
    refine qgd hF303 (.slice ao20 ((WorstS u0).1).length cap21) (m := 0) (cj := []) (bj := decide (q284.Wait ≥ 0)) rfl rfl (by kernel_rfl) rfl (by kernel_rfl) (by kernel_rfl) (by kernel_rfl) (fun hg => qat_ok (fun v304 hC => pu hF303 (g := [0]) (by kernel_rfl) hg)) ?_; intro a305 hF306; clear hF303
    refine qgd hF306 (.int .i64 x37) (m := 0) (cj := []) (bj := decide (q284.Wait ≥ 0)) rfl rfl (by kernel_rfl) rfl (by kernel_rfl) (by kernel_rfl) (by kernel_rfl) (fun hg => qat_ok (fun v307 hC => pu hF306 (g := [0]) (by kernel_rfl) hg)) ?_; intro a308 hF309; clear hF306
    have hc311 := hp290.1; have hp312 := hp290.2; clear hp290
    obtain ⟨q317, hq318⟩ : ∃ q, ((WorstS u0).1)[x37.toNat]? = some q := ⟨_, List.getElem?_eq_getElem (by omega)⟩; have hp323 := hp312 q317 hq318; clear hp312
    obtain ⟨b313, off314, cs316, hb319, hP320, hT321⟩ := SlR.get hs241 hq318; obtain ⟨off315, ho322⟩ : ∃ z, off314 + x37.toNat * tyStop.n = z := ⟨_, rfl⟩; rw [ho322] at hP320
    obtain rfl : cs316 = ([.int .i64 q317.Wait, .bool q317.Fits] : List Value) := hT321
    refine qgd hF309 (.pointer (some ⟨b313, off315, none⟩)) (m := 0) (cj := []) (bj := decide (q284.Wait ≥ 0)) rfl rfl (by kernel_rfl) rfl (by kernel_rfl) (by kernel_rfl) (by kernel_rfl) (fun hg => qat_ok (fun v310 hC => ixg_run hF309 (g := [0]) (cap := cap21) (T := tyStop) (xs := (WorstS u0).1) x37 hc311 (k := .i64) (e := 40) (bytes := 16) rfl (by kernel_rfl) (by kernel_rfl) (by kernel_rfl) hb319 ho322 hg)) ?_; intro a324 hF325; clear hF309
    refine qgd hF325 (.pointer (some ⟨b313, off315, none⟩)) (m := 0) (cj := []) (bj := decide (q284.Wait ≥ 0)) rfl rfl (by kernel_rfl) rfl (by kernel_rfl) (by kernel_rfl) (by kernel_rfl) (fun hg => qat_ok (fun v326 hC => pu hF325 (g := [0]) (by kernel_rfl) hg)) ?_; intro a327 hF328; clear hF325
    refine qgd hF328 (.int .i64 q317.Wait) (m := 0) (cj := []) (bj := decide (q284.Wait ≥ 0)) rfl rfl (by kernel_rfl) rfl (by kernel_rfl) (by kernel_rfl) (by kernel_rfl) (fun hg => qat_ok (fun v329 hC => lz hF328 hC.fz hP320 0 (g := [0]) rfl (by kernel_rfl) (by kernel_rfl) (by kernel_rfl) hg)) ?_; intro a330 hF331; clear hF328
    refine qgd hF331 (.bool (decide (q317.Wait < 0))) (m := 0) (cj := []) (bj := decide (q284.Wait ≥ 0)) rfl rfl (by kernel_rfl) rfl (by kernel_rfl) (by kernel_rfl) (by kernel_rfl) (fun hg => qat_ok (fun v332 hC => pu hF331 (g := [0]) (by kernel_rfl) hg)) ?_; intro a333 hF334; clear hF331
    refine qgd hF334 (.bool (decide (q317.Wait < 0))) (m := 0) (cj := []) (bj := decide (q284.Wait ≥ 0)) rfl rfl (by kernel_rfl) rfl (by kernel_rfl) (by kernel_rfl) (by kernel_rfl) (fun hg => qat_ok (fun v335 hC => pu hF334 (g := [0]) (by kernel_rfl) hg)) ?_; intro a336 hF337; clear hF334
    have hF338 := hF337.atom ((decide (q317.Wait < 0)) == false) (by kernel_rfl); clear hF337
    refine qgd hF338 (.slice ao20 ((WorstS u0).1).length cap21) (m := 1) (cj := [0]) (bj := decide (q317.Wait < 0)) rfl rfl (by kernel_rfl) rfl (by kernel_rfl) (by kernel_rfl) (by kernel_rfl) (fun hg => qat_ok (fun v339 hC => pu hF338 (g := [1, 0]) (by kernel_rfl) hg)) ?_; intro a340 hF341; clear hF338
    refine qgd hF341 (.int .i64 x37) (m := 1) (cj := [0]) (bj := decide (q317.Wait < 0)) rfl rfl (by kernel_rfl) rfl (by kernel_rfl) (by kernel_rfl) (by kernel_rfl) (fun hg => qat_ok (fun v342 hC => pu hF341 (g := [1, 0]) (by kernel_rfl) hg)) ?_; intro a343 hF344; clear hF341
    have hc346 := hp323.1; have hp347 := hp323.2; clear hp323
    obtain ⟨q352, hq353⟩ : ∃ q, ((WorstS u0).1)[x37.toNat]? = some q := ⟨_, List.getElem?_eq_getElem (by omega)⟩; have hp358 := hp347 q352 hq353; clear hp347
    obtain ⟨b348, off349, cs351, hb354, hP355, hT356⟩ := SlR.get hs241 hq353; obtain ⟨off350, ho357⟩ : ∃ z, off349 + x37.toNat * tyStop.n = z := ⟨_, rfl⟩; rw [ho357] at hP355
    obtain rfl : cs351 = ([.int .i64 q352.Wait, .bool q352.Fits] : List Value) := hT356
    refine qgd hF344 (.pointer (some ⟨b348, off350, none⟩)) (m := 1) (cj := [0]) (bj := decide (q317.Wait < 0)) rfl rfl (by kernel_rfl) rfl (by kernel_rfl) (by kernel_rfl) (by kernel_rfl) (fun hg => qat_ok (fun v345 hC => ixg_run hF344 (g := [1, 0]) (cap := cap21) (T := tyStop) (xs := (WorstS u0).1) x37 hc346 (k := .i64) (e := 40) (bytes := 16) rfl (by kernel_rfl) (by kernel_rfl) (by kernel_rfl) hb354 ho357 hg)) ?_; intro a359 hF360; clear hF344
    refine qgd hF360 (.pointer (some ⟨b348, off350, none⟩)) (m := 1) (cj := [0]) (bj := decide (q317.Wait < 0)) rfl rfl (by kernel_rfl) rfl (by kernel_rfl) (by kernel_rfl) (by kernel_rfl) (fun hg => qat_ok (fun v361 hC => pu hF360 (g := [1, 0]) (by kernel_rfl) hg)) ?_; intro a362 hF363; clear hF360
    refine qgd hF363 (.int .i64 q352.Wait) (m := 1) (cj := [0]) (bj := decide (q317.Wait < 0)) rfl rfl (by kernel_rfl) rfl (by kernel_rfl) (by kernel_rfl) (by kernel_rfl) (fun hg => qat_ok (fun v364 hC => lz hF363 hC.fz hP355 0 (g := [1, 0]) rfl (by kernel_rfl) (by kernel_rfl) (by kernel_rfl) hg)) ?_; intro a365 hF366; clear hF363
    refine qgd hF366 (.slice ao72 ((WorstS ((tcloneS u0) ++ [u1])).1).length cap73) (m := 1) (cj := [0]) (bj := decide (q317.Wait < 0)) rfl rfl (by kernel_rfl) rfl (by kernel_rfl) (by kernel_rfl) (by kernel_rfl) (fun hg => qat_ok (fun v367 hC => pu hF366 (g := [1, 0]) (by kernel_rfl) hg)) ?_; intro a368 hF369; clear hF366
    refine qgd hF369 (.int .i64 x37) (m := 1) (cj := [0]) (bj := decide (q317.Wait < 0)) rfl rfl (by kernel_rfl) rfl (by kernel_rfl) (by kernel_rfl) (by kernel_rfl) (fun hg => qat_ok (fun v370 hC => pu hF369 (g := [1, 0]) (by kernel_rfl) hg)) ?_; intro a371 hF372; clear hF369
    have hc374 := hp358.1; have hp375 := hp358.2; clear hp358
    obtain ⟨q380, hq381⟩ : ∃ q, ((WorstS ((tcloneS u0) ++ [u1])).1)[x37.toNat]? = some q := ⟨_, List.getElem?_eq_getElem (by omega)⟩; have hp386 := hp375 q380 hq381; clear hp375
    obtain ⟨b376, off377, cs379, hb382, hP383, hT384⟩ := SlR.get hs246 hq381; obtain ⟨off378, ho385⟩ : ∃ z, off377 + x37.toNat * tyStop.n = z := ⟨_, rfl⟩; rw [ho385] at hP383
    obtain rfl : cs379 = ([.int .i64 q380.Wait, .bool q380.Fits] : List Value) := hT384
    refine qgd hF372 (.pointer (some ⟨b376, off378, none⟩)) (m := 1) (cj := [0]) (bj := decide (q317.Wait < 0)) rfl rfl (by kernel_rfl) rfl (by kernel_rfl) (by kernel_rfl) (by kernel_rfl) (fun hg => qat_ok (fun v373 hC => ixg_run hF372 (g := [1, 0]) (cap := cap73) (T := tyStop) (xs := (WorstS ((tcloneS u0) ++ [u1])).1) x37 hc374 (k := .i64) (e := 40) (bytes := 16) rfl (by kernel_rfl) (by kernel_rfl) (by kernel_rfl) hb382 ho385 hg)) ?_; intro a387 hF388; clear hF372
    refine qgd hF388 (.pointer (some ⟨b376, off378, none⟩)) (m := 1) (cj := [0]) (bj := decide (q317.Wait < 0)) rfl rfl (by kernel_rfl) rfl (by kernel_rfl) (by kernel_rfl) (by kernel_rfl) (fun hg => qat_ok (fun v389 hC => pu hF388 (g := [1, 0]) (by kernel_rfl) hg)) ?_; intro a390 hF391; clear hF388
    refine qgd hF391 (.int .i64 q380.Wait) (m := 1) (cj := [0]) (bj := decide (q317.Wait < 0)) rfl rfl (by kernel_rfl) rfl (by kernel_rfl) (by kernel_rfl) (by kernel_rfl) (fun hg => qat_ok (fun v392 hC => lz hF391 hC.fz hP383 0 (g := [1, 0]) rfl (by kernel_rfl) (by kernel_rfl) (by kernel_rfl) hg)) ?_; intro a393 hF394; clear hF391
    refine qgd hF394 (.bool (decide (q352.Wait > q380.Wait))) (m := 1) (cj := [0]) (bj := decide (q317.Wait < 0)) rfl rfl (by kernel_rfl) rfl (by kernel_rfl) (by kernel_rfl) (by kernel_rfl) (fun hg => qat_ok (fun v395 hC => pu hF394 (g := [1, 0]) (by kernel_rfl) hg)) ?_; intro a396 hF397; clear hF394
    refine qgd hF397 (.bool ((decide (q317.Wait < 0)) || (decide (q352.Wait > q380.Wait)))) (m := 0) (cj := []) (bj := decide (q284.Wait ≥ 0)) rfl rfl (by kernel_rfl) rfl (by kernel_rfl) (by kernel_rfl) (by kernel_rfl) (fun hg => qat_ok (fun v398 hC => pk_or hF397 (g := [0]) (m := 1) (b := decide (q317.Wait < 0)) (v := decide (q352.Wait > q380.Wait)) rfl (by kernel_rfl) (by kernel_rfl) (by kernel_rfl) hg)) ?_; intro a399 hF400; clear hF397
    refine qst hF400 (.bool ((decide (q284.Wait ≥ 0)) && ((decide (q317.Wait < 0)) || (decide (q352.Wait > q380.Wait))))) (nog rfl _) rfl (by kernel_rfl) (fun v401 hC => pk_and hF400 (g := []) (m := 0) (b := decide (q284.Wait ≥ 0)) (v := (decide (q317.Wait < 0)) || (decide (q352.Wait > q380.Wait))) rfl (by kernel_rfl) (by kernel_rfl) (by kernel_rfl) rfl) ?_; intro a402 hF403; clear hF400
    refine qnl (hQ271 _ ?_); clear hQ271 hQ271Q; intro wd404 hM405; clear hM258
    refine cd hF403 (t := (decide (q284.Wait ≥ 0)) && ((decide (q317.Wait < 0)) || (decide (q352.Wait > q380.Wait)))) (by kernel_rfl) (fun hb406 => ?_) (fun hb406 => ?_)
    · -- yes
     have hp407 := hp386.1 hb406; clear hp386
     have hF408 : Fr 68 [] [] a402 := hF403.region (by kernel_rfl) (by kernel_rfl); clear hF403
     refine sqH ?_; intro hQ409Q hQ409
     refine s1 hF408 4 (.bool false) ?_; intro a410 hF411; clear hF408
     refine nlH (hQ409 _ _ ?_); clear hQ409 hQ409Q
     refine wp_ret ?_
     refine ibr ?_
     refine thr ?_
     refine thr ?_
     refine ibr ?_
     refine thr ?_
     refine rt (fn := Try.f4) (v := .bool false) hF411 (re1 hF411 (fn := Try.f4) rfl (by kernel_rfl)) ?_
     exact ⟨false, rfl, hp407, hM405.below⟩
    · -- no
     have hp412 := hp386.2 hb406; clear hp386
     refine wp_skip ?_
     refine ibn ?_
     refine thn ?_
     have hF413 : Fr 68 [] [⟨5, [], .slice ao20 ((WorstS u0).1).length cap21⟩, ⟨7, [], .slice ao72 ((WorstS ((tcloneS u0) ++ [u1])).1).length cap73⟩, ⟨36, [], .int .i64 (((WorstS u0).1).length : Int)⟩, ⟨37, [], .int .i64 x37⟩] a402 := hF403.region (by kernel_rfl) (by kernel_rfl); clear hF403
     refine rgH ?_; intro hQ414Q hQ414
     refine s1 hF413 67 (.int .i64 (w64 (x37 + 1))) ?_; intro a415 hF416; clear hF413
     refine s1 hF416 37 (.int .i64 (w64 (x37 + 1))) ?_; intro a417 hF418; clear hF416
     refine nlH (hQ414 _ _ ?_); clear hQ414 hQ414Q
     refine rd ?_
     exact ⟨w64 (x37 + 1), hp412.1, hp412.2, (hF418.region (by kernel_rfl) (by kernel_rfl)).anyβ _ (by kernel_rfl), hM405.keep (List.Sublist.cons_cons _ (List.Sublist.cons_cons _ (List.Sublist.slnil)))⟩
   · -- no
    have hp419 := hp259.2 hb263; clear hp259
    refine wp_exit ?_
    refine thx ?_
    refine thx ?_
    refine ibx ?_
    refine thn ?_
    refine sqH ?_; intro hQ420Q hQ420
    refine s1 hF262 4 (.bool true) ?_; intro a421 hF422; clear hF262
    refine nlH (hQ420 _ _ ?_); clear hQ420 hQ420Q
    refine wp_ret ?_
    refine rt (fn := Try.f4) (v := .bool true) hF422 (re1 hF422 (fn := Try.f4) rfl (by kernel_rfl)) ?_
    exact ⟨true, rfl, hp419, hM258.below⟩

end Go.Proofs.Ytginlmgkimfjmaa
