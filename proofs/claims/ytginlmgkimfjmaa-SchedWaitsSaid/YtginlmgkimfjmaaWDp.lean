/- The walks, made by program: each call does what its pure predicate says. -/
import Derived.Test.YtginlmgkimfjmaaPDp
import Derived.Test.YtginlmgkimfjmaaWDo
set_option linter.unusedVariables false
set_option linter.unusedSimpArgs false
namespace Go.Proofs.Ytginlmgkimfjmaa
open Go.Sy Go.RowKit
set_option maxRecDepth 100000 in
set_option maxHeartbeats 0 in
theorem sdel_walk (u0 : List Job) (u1 : Int) (u2 : Int) (ao1 : Option Addr) (cap2 : Nat) (B : Nat) (w0 : World) (Z0 : Fz) (Rr : List Res) (Z : Fz) (w : World) (hM0 : Mem B [] w0 Z0 ((.own tyJob 110 ao1 cap2 u0) :: Rr) Z w) (hZ : Z.on w) {K : (List Job) → Prop} (hp : sdel_vc u0 u1 u2 K) : Calls Try.prog 54 #[.slice ao1 u0.length cap2, .int .i64 u1, .int .i64 u2] w fun e w' => ∃ (r : (List Job)) (ao1001 : Option Addr) (cap1002 : Nat) (Z' : Fz), e = .returned (.slice ao1001 r.length cap1002) ∧ K r ∧ Fz.le Z Z' ∧ Mem B [] w0 Z0 ((.own tyJob 110 ao1001 cap1002 r) :: Rr) Z' w' := by
 refine enter0 Try.func54 rfl rfl (by kernel_rfl) ?_; intro a0 hF0; have hle0 := Fz.le.refl Z
 have hlc0 := hM0.ownLec 0 rfl
 have hp3 := hp (hM0.ownSmall 0 rfl); clear hp
 refine sqH ?_; intro hQ4Q hQ4
 refine s1 hF0 6 (.slice none 0 0) ?_; intro a5 hF6; clear hF0
 refine nlH (hQ4 _ _ ?_); clear hQ4 hQ4Q
 refine sqH ?_; intro hQ7Q hQ7
 refine s1 hF6 8 (.slice ao1 u0.length cap2) ?_; intro a8 hF9; clear hF6
 refine s1 hF9 9 (.int .i64 u1) ?_; intro a10 hF11; clear hF9
 refine s1 hF11 10 (.int .i64 u2) ?_; intro a12 hF13; clear hF11
 refine s1 hF13 11 (.slice ao1 u0.length cap2) ?_; intro a14 hF15; clear hF13
 refine s1 hF15 12 (.int .i64 (u0.length : Int)) ?_; intro a16 hF17; clear hF15
 have hc18 := hp3.1; have hp19 := hp3.2; clear hp3
 refine sl3 hF17 (ao := ao1) (n' := u0.length) (cap := cap2) u1 u2 (u0.length : Int) (by have := hM0.ownLec 0 rfl; omega) (sz := 3) (e := 110) (bytes := 24) (k1 := .i64) (k2 := .i64) (k3 := .i64) (nog rfl _) rfl (by kernel_rfl) rfl (by kernel_rfl) (by kernel_rfl) (by kernel_rfl) (by kernel_rfl) (by kernel_rfl) ?_; intro v20 a21 hF22; clear hF17
 refine nlH (hQ7 _ _ ?_); clear hQ7 hQ7Q
 refine wp_seq ?_
 refine sqH ?_; intro hQ23Q hQ23
 refine s1 hF22 14 (.int .i64 u1) ?_; intro a24 hF25; clear hF22
 refine s1 hF25 15 (.int .i64 u2) ?_; intro a26 hF27; clear hF25
 refine s1 hF27 16 (.bool (u1 == u2)) ?_; intro a28 hF29; clear hF27
 refine nlH (hQ23 _ _ ?_); clear hQ23 hQ23Q
 refine cd hF29 (t := u1 == u2) (by kernel_rfl) (fun hb30 => ?_) (fun hb30 => ?_)
 · -- yes
  have hp31 := hp19.1 hb30; clear hp19
  refine sqH ?_; intro hQ32Q hQ32
  refine s1 hF29 17 (.slice ao1 u0.length cap2) ?_; intro a33 hF34; clear hF29
  refine s1 hF34 6 (.slice ao1 u0.length cap2) ?_; intro a35 hF36; clear hF34
  refine nlH (hQ32 _ _ ?_); clear hQ32 hQ32Q
  refine wp_ret ?_
  refine thr ?_
  refine rt (fn := Try.f54) (v := .slice ao1 u0.length cap2) hF36 (re1 hF36 (fn := Try.f54) rfl (by kernel_rfl)) ?_
  exact ⟨u0, ao1, cap2, Z, rfl, hp31, hle0, hM0.keep (List.Sublist.cons_cons _ (List.Sublist.refl _))⟩
 · -- no
  have hp37 := hp19.2 hb30; clear hp19
  refine wp_skip ?_
  refine thn ?_
  refine sqH ?_; intro hQ38Q hQ38
  refine s1 hF29 18 (.slice ao1 u0.length cap2) ?_; intro a39 hF40; clear hF29
  refine s1 hF40 19 (.int .i64 (u0.length : Int)) ?_; intro a41 hF42; clear hF40
  refine s1 hF42 7 (.int .i64 (u0.length : Int)) ?_; intro a43 hF44; clear hF42
  refine nlH (hQ38 _ _ ?_); clear hQ38 hQ38Q
  have hF45 : Fr 33 [] [⟨0, [], .slice ao1 u0.length cap2⟩, ⟨1, [], .int .i64 u1⟩, ⟨2, [], .int .i64 u2⟩, ⟨7, [], .int .i64 (u0.length : Int)⟩] a43 := hF44.region (by kernel_rfl) (by kernel_rfl); clear hF44
  have hcd2_0 := hp37.1; have hp64 := hp37.2; clear hp37
  have hcd5_0 := hp64.1; have hp65 := hp64.2; clear hp64
  have hcd6_0 := hp65.1; have hp66 := hp65.2; clear hp65
  refine wp_seq (any_invE mixed [[], [], [0, 1], [], [], [3, 4], [2, 5], [0, 1, 2, 3, 4, 5, 6]] 8 (fun S a w1 => ∃ (ud0 : Value) (ud20 : Value) (ud21 : Value) (ud22 : Value) (ud23 : Value) (ud24 : Value) (ud25 : Value) (ud26 : Value) (rh0 : Res), Fz.le Z Z ∧ Fr 33 [] [⟨0, [], ud0⟩, ⟨1, [], .int .i64 u1⟩, ⟨2, [], .int .i64 u2⟩, ⟨7, [], .int .i64 (u0.length : Int)⟩, ⟨20, [], ud20⟩, ⟨21, [], ud21⟩, ⟨22, [], ud22⟩, ⟨23, [], ud23⟩, ⟨24, [], ud24⟩, ⟨25, [], ud25⟩, ⟨26, [], ud26⟩] a ∧ Mem B [] w0 Z0 (rh0 :: Rr) Z w1 ∧ (S 7 = true → ud0 = .slice ao1 (u0.take u1.toNat ++ u0.drop u2.toNat).length cap2) ∧ (S 7 = false → ud0 = .slice ao1 u0.length cap2) ∧ (S 0 = true → ud20 = .slice ao1 u0.length cap2) ∧ (S 1 = true → ud21 = .int .i64 u1) ∧ (S 2 = true → ud22 = .slice ao1 u1.toNat cap2) ∧ (S 3 = true → ud23 = .slice ao1 u0.length cap2) ∧ (S 4 = true → ud24 = .int .i64 u2) ∧ (S 5 = true → ud25 = .slice (if cap2 = u2.toNat then ao1 else ao1.map (·.add (u2.toNat * 3))) (u0.length - u2.toNat) (cap2 - u2.toNat)) ∧ (S 6 = true → ud26 = .slice ao1 (u0.take u1.toNat ++ u0.drop u2.toNat).length cap2) ∧ (S 6 = false → rh0 = .own tyJob 110 ao1 cap2 u0) ∧ (S 6 = true → rh0 = .own tyJob 110 ao1 cap2 (u0.take u1.toNat ++ u0.drop u2.toNat))) ?h0 ?hs ?hE)
  case h0 =>
   have hF68 := hF45.any 20
   have hF69 := hF68.any 21
   have hF70 := hF69.any 22
   have hF71 := hF70.any 23
   have hF72 := hF71.any 24
   have hF73 := hF72.any 25
   have hF74 := hF73.any 26
   have hM75 := (hM0.perm (List.Perm.refl _)).drew
   exact ⟨.slice ao1 u0.length cap2, a43.tmps.getD 20 undef, a43.tmps.getD 21 undef, a43.tmps.getD 22 undef, a43.tmps.getD 23 undef, a43.tmps.getD 24 undef, a43.tmps.getD 25 undef, a43.tmps.getD 26 undef, .own tyJob 110 ao1 cap2 u0, Fz.le.refl _, hF74.region (by kernel_rfl) (by kernel_rfl), hM75, ff, kf, ff, ff, ff, ff, ff, ff, ff, kf, ff⟩
  case hs =>
   intro S hcl i o hil hi hSi hpre a w1 hI; refine Go.Sy.hid ?_; intro G hG; obtain ⟨ud0, hI⟩ := hI; obtain ⟨ud20, hI⟩ := hI; obtain ⟨ud21, hI⟩ := hI; obtain ⟨ud22, hI⟩ := hI; obtain ⟨ud23, hI⟩ := hI; obtain ⟨ud24, hI⟩ := hI; obtain ⟨ud25, hI⟩ := hI; obtain ⟨ud26, hI⟩ := hI; obtain ⟨rh0, hI⟩ := hI; obtain ⟨hle67, hI⟩ := hI; obtain ⟨hFx, hI⟩ := hI; obtain ⟨hMx, hI⟩ := hI; obtain ⟨cu0, hI⟩ := hI; obtain ⟨cz0, hI⟩ := hI; obtain ⟨cu20, hI⟩ := hI; obtain ⟨cu21, hI⟩ := hI; obtain ⟨cu22, hI⟩ := hI; obtain ⟨cu23, hI⟩ := hI; obtain ⟨cu24, hI⟩ := hI; obtain ⟨cu25, hI⟩ := hI; obtain ⟨cu26, hI⟩ := hI; obtain ⟨cr0_0, hI⟩ := hI; have cr0_1 := hI; clear hI
   have hcase : i = 0 ∨ i = 1 ∨ i = 2 ∨ i = 3 ∨ i = 4 ∨ i = 5 ∨ i = 6 ∨ i = 7 := by clear hi; omega
   rcases hcase with rfl | rfl | rfl | rfl | rfl | rfl | rfl | rfl
   · -- 0: move
    obtain rfl := Option.some.inj hi
    have hx0 := hSi
    have hx2 := negF hcl 2 0 (by kernel_rfl) hx0
    have hx6 := negF hcl 6 2 (by kernel_rfl) hx2
    have hx7 := negF hcl 7 0 (by kernel_rfl) hx0
    obtain rfl := cz0 hx7
    obtain rfl := cr0_0 hx6
    refine hG (any_step ?_); clear hG G; intro A J hJ
    have hle0 := Fz.le.trans hle0 hle67
    refine s1 hFx 20 (.slice ao1 u0.length cap2) ?_; intro a76 hF77; clear hFx
    refine nl (qnI (hJ _ _ ?_)); clear hJ J
    exact ⟨.slice ao1 u0.length cap2, .slice ao1 u0.length cap2, ud21, ud22, ud23, ud24, ud25, ud26, .own tyJob 110 ao1 cap2 u0, hle67, hF77.region (by kernel_rfl) (by kernel_rfl), hMx.perm (List.Perm.refl _), (nt hx7), kf, kf, cu21, (nt hx2), cu23, cu24, cu25, (nt hx6), kf, (nt hx6)⟩
   · -- 1: move
    obtain rfl := Option.some.inj hi
    have hx1 := hSi
    have hx2 := negF hcl 2 1 (by kernel_rfl) hx1
    have hx6 := negF hcl 6 2 (by kernel_rfl) hx2
    have hx7 := negF hcl 7 1 (by kernel_rfl) hx1
    obtain rfl := cz0 hx7
    obtain rfl := cr0_0 hx6
    refine hG (any_step ?_); clear hG G; intro A J hJ
    have hle0 := Fz.le.trans hle0 hle67
    refine s1 hFx 21 (.int .i64 u1) ?_; intro a79 hF80; clear hFx
    refine nl (qnI (hJ _ _ ?_)); clear hJ J
    exact ⟨.slice ao1 u0.length cap2, ud20, .int .i64 u1, ud22, ud23, ud24, ud25, ud26, .own tyJob 110 ao1 cap2 u0, hle67, hF80.region (by kernel_rfl) (by kernel_rfl), hMx.perm (List.Perm.refl _), (nt hx7), kf, cu20, kf, (nt hx2), cu23, cu24, cu25, (nt hx6), kf, (nt hx6)⟩
   · -- 2: slice
    obtain rfl := Option.some.inj hi
    have hx1 := hpre 1 (by kernel_rfl)
    have hx0 := hpre 0 (by kernel_rfl)
    have hx2 := hSi
    have hx6 := negF hcl 6 2 (by kernel_rfl) hx2
    have hx7 := negF hcl 7 2 (by kernel_rfl) hx2
    obtain rfl := cz0 hx7
    obtain rfl := cu20 hx0
    obtain rfl := cu21 hx1
    obtain rfl := cr0_0 hx6
    refine hG (any_step ?_); clear hG G; intro A J hJ
    have hle0 := Fz.le.trans hle0 hle67
    refine slP hFx hMx 0 (T := tyJob) (xs := u0) (ao := ao1) (cap := cap2) u1.toNat (by omega) (e := 110) (bytes := 24) (k := .i64) (nog rfl _) rfl (by kernel_rfl) rfl (by kernel_rfl) rfl (by kernel_rfl) (by rw [Int.toNat_of_nonneg (by omega)]; kernel_rfl) ?_; intro a82 hF83; clear hFx
    refine nl (qnI (hJ _ _ ?_)); clear hJ J
    exact ⟨.slice ao1 u0.length cap2, .slice ao1 u0.length cap2, .int .i64 u1, .slice ao1 u1.toNat cap2, ud23, ud24, ud25, ud26, .own tyJob 110 ao1 cap2 u0, hle67, hF83.region (by kernel_rfl) (by kernel_rfl), hMx.perm (List.Perm.refl _), (nt hx7), kf, kf, kf, kf, cu23, cu24, cu25, (nt hx6), kf, (nt hx6)⟩
   · -- 3: move
    obtain rfl := Option.some.inj hi
    have hx3 := hSi
    have hx5 := negF hcl 5 3 (by kernel_rfl) hx3
    have hx6 := negF hcl 6 5 (by kernel_rfl) hx5
    have hx7 := negF hcl 7 3 (by kernel_rfl) hx3
    obtain rfl := cz0 hx7
    obtain rfl := cr0_0 hx6
    refine hG (any_step ?_); clear hG G; intro A J hJ
    have hle0 := Fz.le.trans hle0 hle67
    refine s1 hFx 23 (.slice ao1 u0.length cap2) ?_; intro a85 hF86; clear hFx
    refine nl (qnI (hJ _ _ ?_)); clear hJ J
    exact ⟨.slice ao1 u0.length cap2, ud20, ud21, ud22, .slice ao1 u0.length cap2, ud24, ud25, ud26, .own tyJob 110 ao1 cap2 u0, hle67, hF86.region (by kernel_rfl) (by kernel_rfl), hMx.perm (List.Perm.refl _), (nt hx7), kf, cu20, cu21, cu22, kf, cu24, (nt hx5), (nt hx6), kf, (nt hx6)⟩
   · -- 4: move
    obtain rfl := Option.some.inj hi
    have hx4 := hSi
    have hx5 := negF hcl 5 4 (by kernel_rfl) hx4
    have hx6 := negF hcl 6 5 (by kernel_rfl) hx5
    have hx7 := negF hcl 7 4 (by kernel_rfl) hx4
    obtain rfl := cz0 hx7
    obtain rfl := cr0_0 hx6
    refine hG (any_step ?_); clear hG G; intro A J hJ
    have hle0 := Fz.le.trans hle0 hle67
    refine s1 hFx 24 (.int .i64 u2) ?_; intro a88 hF89; clear hFx
    refine nl (qnI (hJ _ _ ?_)); clear hJ J
    exact ⟨.slice ao1 u0.length cap2, ud20, ud21, ud22, ud23, .int .i64 u2, ud25, ud26, .own tyJob 110 ao1 cap2 u0, hle67, hF89.region (by kernel_rfl) (by kernel_rfl), hMx.perm (List.Perm.refl _), (nt hx7), kf, cu20, cu21, cu22, cu23, kf, (nt hx5), (nt hx6), kf, (nt hx6)⟩
   · -- 5: slice
    obtain rfl := Option.some.inj hi
    have hx4 := hpre 4 (by kernel_rfl)
    have hx3 := hpre 3 (by kernel_rfl)
    have hx5 := hSi
    have hx6 := negF hcl 6 5 (by kernel_rfl) hx5
    have hx7 := negF hcl 7 5 (by kernel_rfl) hx5
    obtain rfl := cz0 hx7
    obtain rfl := cu23 hx3
    obtain rfl := cu24 hx4
    obtain rfl := cr0_0 hx6
    refine hG (any_step ?_); clear hG G; intro A J hJ
    have hle0 := Fz.le.trans hle0 hle67
    refine slX hFx (ao := ao1) (n' := u0.length) (cap := cap2) u2.toNat u0.length 3 (by omega) (hMx.ownLec 0 rfl) (e := 110) (bytes := 24) (nog rfl _) rfl (by kernel_rfl) rfl (by kernel_rfl) (by kernel_rfl) (.inr ⟨.i64, _, rfl, by rw [Int.toNat_of_nonneg (by omega)]; kernel_rfl⟩) (.inl ⟨rfl, rfl⟩) ?_; intro a91 hF92; clear hFx
    refine nl (qnI (hJ _ _ ?_)); clear hJ J
    exact ⟨.slice ao1 u0.length cap2, ud20, ud21, ud22, .slice ao1 u0.length cap2, .int .i64 u2, .slice (if cap2 = u2.toNat then ao1 else ao1.map (·.add (u2.toNat * 3))) (u0.length - u2.toNat) (cap2 - u2.toNat), ud26, .own tyJob 110 ao1 cap2 u0, hle67, hF92.region (by kernel_rfl) (by kernel_rfl), hMx.perm (List.Perm.refl _), (nt hx7), kf, cu20, cu21, cu22, kf, kf, kf, (nt hx6), kf, (nt hx6)⟩
   · -- 6: call
    obtain rfl := Option.some.inj hi
    have hx5 := hpre 5 (by kernel_rfl)
    have hx2 := hpre 2 (by kernel_rfl)
    have hx4 := hcl 5 4 (by kernel_rfl) hx5
    have hx3 := hcl 5 3 (by kernel_rfl) hx5
    have hx1 := hcl 2 1 (by kernel_rfl) hx2
    have hx0 := hcl 2 0 (by kernel_rfl) hx2
    have hx6 := hSi
    have hx7 := negF hcl 7 6 (by kernel_rfl) hx6
    obtain rfl := cz0 hx7
    obtain rfl := cu20 hx0
    obtain rfl := cu21 hx1
    obtain rfl := cu22 hx2
    obtain rfl := cu23 hx3
    obtain rfl := cu24 hx4
    obtain rfl := cu25 hx5
    obtain rfl := cr0_0 hx6
    refine hG (any_step ?_); clear hG G; intro A J hJ
    have hle0 := Fz.le.trans hle0 hle67
    refine apD hFx hMx 0 (T := tyJob) (xs := u0) (ao := ao1) (cap := cap2) u1.toNat u2.toNat (by omega) (t := 108) (e := 110) (bytes := 24) (nog rfl _) rfl (by kernel_rfl) rfl (by kernel_rfl) (by kernel_rfl) (by kernel_rfl) rfl ?_; intro a96 wd94 hF97 hM95; clear hFx hMx
    refine nl (qnI (hJ _ _ ?_)); clear hJ J
    exact ⟨.slice ao1 u0.length cap2, .slice ao1 u0.length cap2, .int .i64 u1, .slice ao1 u1.toNat cap2, .slice ao1 u0.length cap2, .int .i64 u2, .slice (if cap2 = u2.toNat then ao1 else ao1.map (·.add (u2.toNat * 3))) (u0.length - u2.toNat) (cap2 - u2.toNat), .slice ao1 (u0.take u1.toNat ++ u0.drop u2.toNat).length cap2, .own tyJob 110 ao1 cap2 (u0.take u1.toNat ++ u0.drop u2.toNat), hle67, hF97.region (by kernel_rfl) (by kernel_rfl), hM95.perm (List.Perm.refl _), (nt hx7), kf, kf, kf, kf, kf, kf, kf, kf, nu, kf⟩
   · -- 7: assign
    obtain rfl := Option.some.inj hi
    have hx6 := hpre 6 (by kernel_rfl)
    have hx5 := hpre 5 (by kernel_rfl)
    have hx4 := hpre 4 (by kernel_rfl)
    have hx3 := hpre 3 (by kernel_rfl)
    have hx2 := hpre 2 (by kernel_rfl)
    have hx1 := hpre 1 (by kernel_rfl)
    have hx0 := hpre 0 (by kernel_rfl)
    have hx7 := hSi
    obtain rfl := cz0 hx7
    obtain rfl := cu20 hx0
    obtain rfl := cu21 hx1
    obtain rfl := cu22 hx2
    obtain rfl := cu23 hx3
    obtain rfl := cu24 hx4
    obtain rfl := cu25 hx5
    obtain rfl := cu26 hx6
    obtain rfl := cr0_1 hx6
    refine hG (any_step ?_); clear hG G; intro A J hJ
    have hle0 := Fz.le.trans hle0 hle67
    refine s1 hFx 0 (.slice ao1 (u0.take u1.toNat ++ u0.drop u2.toNat).length cap2) ?_; intro a99 hF100; clear hFx
    refine nl (qnI (hJ _ _ ?_)); clear hJ J
    exact ⟨.slice ao1 (u0.take u1.toNat ++ u0.drop u2.toNat).length cap2, .slice ao1 u0.length cap2, .int .i64 u1, .slice ao1 u1.toNat cap2, .slice ao1 u0.length cap2, .int .i64 u2, .slice (if cap2 = u2.toNat then ao1 else ao1.map (·.add (u2.toNat * 3))) (u0.length - u2.toNat) (cap2 - u2.toNat), .slice ao1 (u0.take u1.toNat ++ u0.drop u2.toNat).length cap2, .own tyJob 110 ao1 cap2 (u0.take u1.toNat ++ u0.drop u2.toNat), hle67, hF100.region (by kernel_rfl) (by kernel_rfl), hMx.perm (List.Perm.refl _), kf, nu, kf, kf, kf, kf, kf, kf, kf, (tn hx6), kf⟩
  case hE =>
   intro S hS a102 wd103 hI; refine Go.Sy.hid ?_; intro G hG; obtain ⟨ud0, hI⟩ := hI; obtain ⟨ud20, hI⟩ := hI; obtain ⟨ud21, hI⟩ := hI; obtain ⟨ud22, hI⟩ := hI; obtain ⟨ud23, hI⟩ := hI; obtain ⟨ud24, hI⟩ := hI; obtain ⟨ud25, hI⟩ := hI; obtain ⟨ud26, hI⟩ := hI; obtain ⟨rh0, hI⟩ := hI; obtain ⟨hle67, hI⟩ := hI; obtain ⟨hFx, hI⟩ := hI; obtain ⟨hMx, hI⟩ := hI; obtain ⟨cu0, hI⟩ := hI; obtain ⟨cz0, hI⟩ := hI; obtain ⟨cu20, hI⟩ := hI; obtain ⟨cu21, hI⟩ := hI; obtain ⟨cu22, hI⟩ := hI; obtain ⟨cu23, hI⟩ := hI; obtain ⟨cu24, hI⟩ := hI; obtain ⟨cu25, hI⟩ := hI; obtain ⟨cu26, hI⟩ := hI; obtain ⟨cr0_0, hI⟩ := hI; have cr0_1 := hI; clear hI; refine hG ?_; clear hG G
   obtain rfl := cu0 (hS 7 (by decide))
   obtain rfl := cu20 (hS 0 (by decide))
   obtain rfl := cu21 (hS 1 (by decide))
   obtain rfl := cu22 (hS 2 (by decide))
   obtain rfl := cu23 (hS 3 (by decide))
   obtain rfl := cu24 (hS 4 (by decide))
   obtain rfl := cu25 (hS 5 (by decide))
   obtain rfl := cu26 (hS 6 (by decide))
   obtain rfl := cr0_1 (hS 6 (by decide))
   have hle0 := Fz.le.trans hle0 hle67
   refine thn ?_
   have hF104 : Fr 33 [] [⟨0, [], .slice ao1 (u0.take u1.toNat ++ u0.drop u2.toNat).length cap2⟩, ⟨7, [], .int .i64 (u0.length : Int)⟩] a102 := hFx.region (by kernel_rfl) (by kernel_rfl); clear hFx
   refine sqH ?_; intro hQ105Q hQ105
   refine s1 hF104 27 (.slice ao1 (u0.take u1.toNat ++ u0.drop u2.toNat).length cap2) ?_; intro a106 hF107; clear hF104
   refine s1 hF107 28 (.slice ao1 (u0.take u1.toNat ++ u0.drop u2.toNat).length cap2) ?_; intro a108 hF109; clear hF107
   refine s1 hF109 29 (.int .i64 ((u0.take u1.toNat ++ u0.drop u2.toNat).length : Int)) ?_; intro a110 hF111; clear hF109
   refine s1 hF111 30 (.int .i64 (u0.length : Int)) ?_; intro a112 hF113; clear hF111
   refine slX hF113 (ao := ao1) (n' := (u0.take u1.toNat ++ u0.drop u2.toNat).length) (cap := cap2) ((u0.take u1.toNat ++ u0.drop u2.toNat).length) u0.length 3 (by first | omega | (simp only [List.length_append, List.length_take, List.length_drop]; omega)) (by omega) (e := 110) (bytes := 24) (nog rfl _) rfl (by kernel_rfl) rfl (by kernel_rfl) (by kernel_rfl) (.inr ⟨.i64, _, rfl, by kernel_rfl⟩) (.inr ⟨.i64, _, rfl, by kernel_rfl⟩) ?_; intro a114 hF115; clear hF113
   refine clrO hF115 hMx 0 (T := tyJob) (xs := (u0.take u1.toNat ++ u0.drop u2.toNat)) (ao := ao1) (cap := cap2) u0.length (by refine ⟨?_, ?_⟩ <;> first | omega | (simp only [List.length_append, List.length_take, List.length_drop]; omega)) (e := 110) (bytes := 24) (zs := [.int .i64 0, .int .i64 0, .int .i64 0]) (nog rfl _) rfl rfl (by kernel_rfl) (by kernel_rfl) rfl (by kernel_rfl) (by kernel_rfl) ?_; intro wd116 hM117; clear hMx
   have hM118 : Mem B [] w0 Z0 ((.own tyJob 110 ao1 cap2 (u0.take u1.toNat ++ u0.drop u2.toNat)) :: Rr) Z wd116 := hM117; clear hM117
   refine nlH (hQ105 _ _ ?_); clear hQ105 hQ105Q
   refine sqH ?_; intro hQ119Q hQ119
   refine s1 hF115 32 (.slice ao1 (u0.take u1.toNat ++ u0.drop u2.toNat).length cap2) ?_; intro a120 hF121; clear hF115
   refine s1 hF121 6 (.slice ao1 (u0.take u1.toNat ++ u0.drop u2.toNat).length cap2) ?_; intro a122 hF123; clear hF121
   refine nlH (hQ119 _ _ ?_); clear hQ119 hQ119Q
   refine wp_ret ?_
   refine rt (fn := Try.f54) (v := .slice ao1 (u0.take u1.toNat ++ u0.drop u2.toNat).length cap2) hF123 (re1 hF123 (fn := Try.f54) rfl (by kernel_rfl)) ?_
   exact ⟨(u0.take u1.toNat ++ u0.drop u2.toNat), ao1, cap2, Z, rfl, hp66, hle0, hM118.keep (List.Sublist.cons_cons _ (List.Sublist.refl _))⟩

end Go.Proofs.Ytginlmgkimfjmaa
