/- The walks, made by program: each call does what its pure predicate says. -/
import Derived.Test.YtdndfbamhnchfaaDoorPF
import Derived.Test.YtdndfbamhnchfaaDoorWE
set_option linter.unusedVariables false
set_option linter.unusedSimpArgs false
namespace Go.Proofs.YtdndfbamhnchfaaDoor
open Go.Sy Go.RowKit
theorem icmp_fun (u0 : Int) (u1 : Int)  (Z : Fz) (w : World)  (hZ : Z.on w) : Calls Tryd.prog 62 #[.int .i64 u0, .int .i64 u1] w fun e w' => e = .returned (.int .i64 (icmpS u0 u1)) ∧ Below w.heap.size w w' :=
  (icmp_walk u0 u1  Z w  hZ (icmp_ok u0 u1)).mono fun _ _ ⟨r, he, hk, hb⟩ => ⟨by subst hk; exact he, hb⟩

set_option maxRecDepth 100000 in
set_option maxHeartbeats 0 in
theorem sover_walk (u0 : Signal) (u1 : Signal)  (Z : Fz) (w : World)  (hZ : Z.on w) {K : Bool → Prop} (hp : sover_vc u0 u1 K) : Calls Tryd.prog 22 #[.agg #[str u0.Name, .int .i64 u0.Start, .int .i64 u0.Size, .bool u0.Back, .bool u0.Signed, .int .i64 u0.Mul, .int .i64 u0.Div, .int .i64 u0.Add, .int .i64 u0.Key], .agg #[str u1.Name, .int .i64 u1.Start, .int .i64 u1.Size, .bool u1.Back, .bool u1.Signed, .int .i64 u1.Mul, .int .i64 u1.Div, .int .i64 u1.Add, .int .i64 u1.Key]] w fun e w' => ∃ r : Bool, e = .returned (.bool r) ∧ K r ∧ Below w.heap.size w w' := by
 refine enter0 Tryd.func22 rfl rfl (by kernel_rfl) ?_; intro a0 hF0; have hM0 := Mem.start w Z hZ; have hle0 := Fz.le.refl Z
 refine sqH ?_; intro hQ1Q hQ1
 refine sn hF0 hM0 (fun b => .pointer (some ⟨b, 0, none⟩)) [str u0.Name, .int .i64 u0.Start, .int .i64 u0.Size, .bool u0.Back, .bool u0.Signed, .int .i64 u0.Mul, .int .i64 u0.Div, .int .i64 u0.Add, .int .i64 u0.Key] 23 (nog rfl _) rfl (by kernel_rfl) (by kernel_rfl) ?_; intro b2 a3 wd5 hF4 hM6; clear hF0 hM0
 refine sn hF4 hM6 (fun b => .pointer (some ⟨b, 0, none⟩)) [str u1.Name, .int .i64 u1.Start, .int .i64 u1.Size, .bool u1.Back, .bool u1.Signed, .int .i64 u1.Mul, .int .i64 u1.Div, .int .i64 u1.Add, .int .i64 u1.Key] 23 (nog rfl _) rfl (by kernel_rfl) (by kernel_rfl) ?_; intro b7 a8 wd10 hF9 hM11; clear hF4 hM6
 refine s1 hF9 4 (.bool false) ?_; intro a12 hF13; clear hF9
 refine nlH (hQ1 _ _ ?_); clear hQ1 hQ1Q
 refine wp_seq ?_
 refine sqH ?_; intro hQ14Q hQ14
 refine l2 hF13 hM11 8 1 0 9 [str u0.Name, .int .i64 u0.Start, .int .i64 u0.Size, .bool u0.Back, .bool u0.Signed, .int .i64 u0.Mul, .int .i64 u0.Div, .int .i64 u0.Add, .int .i64 u0.Key] rfl rfl ?_; intro a15 hF16; clear hF13
 refine fcl hF16 hM11 (.int .i64 (checkS u0 64)) 19 #[.agg #[str u0.Name, .int .i64 u0.Start, .int .i64 u0.Size, .bool u0.Back, .bool u0.Signed, .int .i64 u0.Mul, .int .i64 u0.Div, .int .i64 u0.Add, .int .i64 u0.Key], .int .i64 64] (nog rfl _) rfl (by kernel_rfl) (fun _ => by kernel_rfl) (scheck_fun u0 64 _ _ hM11.fz) ?_; intro a17 wd19 hF18 hM20; clear hF16 hM11
 refine s1 hF18 10 (.bool ((checkS u0 64) != 0)) ?_; intro a21 hF22; clear hF18
 refine s1 hF22 11 (.bool ((checkS u0 64) != 0)) ?_; intro a23 hF24; clear hF22
 have hF25 := hF24.atom (((checkS u0 64) != 0) == false) (by kernel_rfl); clear hF24
 refine gd hF25 (.agg #[str u1.Name, .int .i64 u1.Start, .int .i64 u1.Size, .bool u1.Back, .bool u1.Signed, .int .i64 u1.Mul, .int .i64 u1.Div, .int .i64 u1.Add, .int .i64 u1.Key]) (m := 0) (cj := []) (bj := (checkS u0 64) != 0) rfl rfl (by kernel_rfl) rfl (by kernel_rfl) (by kernel_rfl) (by kernel_rfl) (fun hg => lda hF25 hM20 0 (g := [0]) (b := b7) (off := 0) (k := 9) (cs := [str u1.Name, .int .i64 u1.Start, .int .i64 u1.Size, .bool u1.Back, .bool u1.Signed, .int .i64 u1.Mul, .int .i64 u1.Div, .int .i64 u1.Add, .int .i64 u1.Key]) (vs := [str u1.Name, .int .i64 u1.Start, .int .i64 u1.Size, .bool u1.Back, .bool u1.Signed, .int .i64 u1.Mul, .int .i64 u1.Div, .int .i64 u1.Add, .int .i64 u1.Key]) (ty := 23) rfl (by kernel_rfl) (by kernel_rfl) (by kernel_rfl) (by kernel_rfl) (by kernel_rfl) hg) ?_; intro a26 hF27; clear hF25
 refine gcl hF27 hM20 (.int .i64 (checkS u1 64)) 19 #[.agg #[str u1.Name, .int .i64 u1.Start, .int .i64 u1.Size, .bool u1.Back, .bool u1.Signed, .int .i64 u1.Mul, .int .i64 u1.Div, .int .i64 u1.Add, .int .i64 u1.Key], .int .i64 64] (m := 0) (cj := []) (bj := (checkS u0 64) != 0) rfl rfl (by kernel_rfl) rfl (by kernel_rfl) (by kernel_rfl) (by kernel_rfl) (fun _ => by kernel_rfl) (fun hg => scheck_fun u1 64 _ _ hM20.fz) ?_; intro a28 wd30 hF29 hM31; clear hF27 hM20
 refine gp hF29 14 0 [] ((checkS u0 64) != 0) (.bool ((checkS u1 64) != 0)) rfl rfl ?_; intro a32 hF33; clear hF29
 refine st hF33 (.bool (((checkS u0 64) != 0) || ((checkS u1 64) != 0))) (nog rfl _) rfl (by kernel_rfl) (pk_or hF33 (g := []) (m := 0) (b := (checkS u0 64) != 0) (v := (checkS u1 64) != 0) rfl (by kernel_rfl) (by kernel_rfl) (by kernel_rfl) rfl) ?_; intro a34 hF35; clear hF33
 refine nlH (hQ14 _ _ ?_); clear hQ14 hQ14Q
 refine cd hF35 (t := ((checkS u0 64) != 0) || ((checkS u1 64) != 0)) (by kernel_rfl) (fun hb36 => ?_) (fun hb36 => ?_)
 · -- yes
  have hp37 := hp.1 hb36; clear hp
  have hF38 : Fr 49 [] [] a34 := hF35.region (by kernel_rfl) (by kernel_rfl); clear hF35
  refine sqH ?_; intro hQ39Q hQ39
  refine s1 hF38 4 (.bool false) ?_; intro a40 hF41; clear hF38
  refine nlH (hQ39 _ _ ?_); clear hQ39 hQ39Q
  refine wp_ret ?_
  refine thr ?_
  refine rt (fn := Tryd.f22) (v := .bool false) hF41 (re1 hF41 (fn := Tryd.f22) rfl (by kernel_rfl)) ?_
  exact ⟨false, rfl, hp37, hM31.below⟩
 · -- no
  have hp42 := hp.2 hb36; clear hp
  refine wp_skip ?_
  refine thn ?_
  have hF43 : Fr 49 [] [⟨2, [], .pointer (some ⟨b2, 0, none⟩)⟩, ⟨3, [], .pointer (some ⟨b7, 0, none⟩)⟩] a34 := hF35.region (by kernel_rfl) (by kernel_rfl); clear hF35
  have hcd1_0 := hp42.1; have hp70 := hp42.2; clear hp42
  have hcd3_0 := hp70.1; have hp71 := hp70.2; clear hp70
  refine wp_seq (any_invE mixed [[], [0], [], [1, 2], [0, 1, 3], [0, 1, 2, 3, 4]] 6 (fun S a w1 => ∃ (ao50 : Option Addr) (cap51 : Nat) (ao61 : Option Addr) (cap62 : Nat) (ud5 : Value) (ud6 : Value) (ud16 : Value) (ud17 : Value) (ud18 : Value) (ud19 : Value) (rh0 : Res) (rh1 : Res) (rh2 : Res) (rh3 : Res) (Z72 : Fz), Fz.le Z Z72 ∧ Fr 49 [] [⟨2, [], .pointer (some ⟨b2, 0, none⟩)⟩, ⟨3, [], .pointer (some ⟨b7, 0, none⟩)⟩, ⟨5, [], ud5⟩, ⟨6, [], ud6⟩, ⟨16, [], ud16⟩, ⟨17, [], ud17⟩, ⟨18, [], ud18⟩, ⟨19, [], ud19⟩] a ∧ Mem w.heap.size [] w Z [rh0, rh1, rh2, rh3] Z72 w1 ∧ (S 4 = true → ud5 = .slice ao50 (placesS u0).length cap51) ∧ (S 5 = true → ud6 = .slice ao61 (placesS u1).length cap62) ∧ (S 0 = true → ud16 = .agg #[str u0.Name, .int .i64 u0.Start, .int .i64 u0.Size, .bool u0.Back, .bool u0.Signed, .int .i64 u0.Mul, .int .i64 u0.Div, .int .i64 u0.Add, .int .i64 u0.Key]) ∧ (S 1 = true → ud17 = .slice ao50 (placesS u0).length cap51) ∧ (S 2 = true → ud18 = .agg #[str u1.Name, .int .i64 u1.Start, .int .i64 u1.Size, .bool u1.Back, .bool u1.Signed, .int .i64 u1.Mul, .int .i64 u1.Div, .int .i64 u1.Add, .int .i64 u1.Key]) ∧ (S 3 = true → ud19 = .slice ao61 (placesS u1).length cap62) ∧ (rh0 = .row b7 [str u1.Name, .int .i64 u1.Start, .int .i64 u1.Size, .bool u1.Back, .bool u1.Signed, .int .i64 u1.Mul, .int .i64 u1.Div, .int .i64 u1.Add, .int .i64 u1.Key] 23) ∧ (rh1 = .row b2 [str u0.Name, .int .i64 u0.Start, .int .i64 u0.Size, .bool u0.Back, .bool u0.Signed, .int .i64 u0.Mul, .int .i64 u0.Div, .int .i64 u0.Add, .int .i64 u0.Key] 23) ∧ (S 1 = false → rh2 = .nil) ∧ (S 1 = true → rh2 = .own (tyInt .i64) 3 ao50 cap51 (placesS u0)) ∧ (S 3 = false → rh3 = .nil) ∧ (S 3 = true → rh3 = .own (tyInt .i64) 3 ao61 cap62 (placesS u1))) ?h0 ?hs ?hE)
  case h0 =>
   have hF74 := hF43.any 5
   have hF75 := hF74.any 6
   have hF76 := hF75.any 16
   have hF77 := hF76.any 17
   have hF78 := hF77.any 18
   have hF79 := hF78.any 19
   have hM80 := hM31.nilRes
   have hM81 := hM80.nilRes
   have hM82 := (hM81.perm ((pk 2 rfl).trans (((pk 2 rfl).trans (((pk 1 rfl).trans ((List.Perm.refl _).cons _)).cons _)).cons _))).drew
   exact ⟨none, 0, none, 0, a34.tmps.getD 5 undef, a34.tmps.getD 6 undef, a34.tmps.getD 16 undef, a34.tmps.getD 17 undef, a34.tmps.getD 18 undef, a34.tmps.getD 19 undef, .row b7 [str u1.Name, .int .i64 u1.Start, .int .i64 u1.Size, .bool u1.Back, .bool u1.Signed, .int .i64 u1.Mul, .int .i64 u1.Div, .int .i64 u1.Add, .int .i64 u1.Key] 23, .row b2 [str u0.Name, .int .i64 u0.Start, .int .i64 u0.Size, .bool u0.Back, .bool u0.Signed, .int .i64 u0.Mul, .int .i64 u0.Div, .int .i64 u0.Add, .int .i64 u0.Key] 23, .nil, .nil, Z, Fz.le.refl _, hF79.region (by kernel_rfl) (by kernel_rfl), hM82, ff, ff, ff, ff, ff, ff, rfl, rfl, kf, ff, kf, ff⟩
  case hs =>
   intro S hcl i o hil hi hSi hpre a w1 hI; refine Go.Sy.hid ?_; intro G hG; obtain ⟨ao50, hI⟩ := hI; obtain ⟨cap51, hI⟩ := hI; obtain ⟨ao61, hI⟩ := hI; obtain ⟨cap62, hI⟩ := hI; obtain ⟨ud5, hI⟩ := hI; obtain ⟨ud6, hI⟩ := hI; obtain ⟨ud16, hI⟩ := hI; obtain ⟨ud17, hI⟩ := hI; obtain ⟨ud18, hI⟩ := hI; obtain ⟨ud19, hI⟩ := hI; obtain ⟨rh0, hI⟩ := hI; obtain ⟨rh1, hI⟩ := hI; obtain ⟨rh2, hI⟩ := hI; obtain ⟨rh3, hI⟩ := hI; obtain ⟨Z72, hI⟩ := hI; obtain ⟨hle73, hI⟩ := hI; obtain ⟨hFx, hI⟩ := hI; obtain ⟨hMx, hI⟩ := hI; obtain ⟨cu5, hI⟩ := hI; obtain ⟨cu6, hI⟩ := hI; obtain ⟨cu16, hI⟩ := hI; obtain ⟨cu17, hI⟩ := hI; obtain ⟨cu18, hI⟩ := hI; obtain ⟨cu19, hI⟩ := hI; obtain ⟨cr0_0, hI⟩ := hI; obtain ⟨cr1_0, hI⟩ := hI; obtain ⟨cr2_0, hI⟩ := hI; obtain ⟨cr2_1, hI⟩ := hI; obtain ⟨cr3_0, hI⟩ := hI; have cr3_1 := hI; clear hI
   have hcase : i = 0 ∨ i = 1 ∨ i = 2 ∨ i = 3 ∨ i = 4 ∨ i = 5 := by clear hi; omega
   rcases hcase with rfl | rfl | rfl | rfl | rfl | rfl
   · -- 0: load
    obtain rfl := Option.some.inj hi
    have hx0 := hSi
    have hx1 := negF hcl 1 0 (by kernel_rfl) hx0
    have hx3 := negF hcl 3 1 (by kernel_rfl) hx1
    have hx4 := negF hcl 4 0 (by kernel_rfl) hx0
    have hx5 := negF hcl 5 0 (by kernel_rfl) hx0
    obtain rfl := cr0_0
    obtain rfl := cr1_0
    obtain rfl := cr2_0 hx1
    obtain rfl := cr3_0 hx3
    refine hG (any_step ?_); clear hG G; intro A J hJ
    have hle0 := Fz.le.trans hle0 hle73
    have hzst := Fz.le.refl Z72
    have hM83 := hMx.keep (List.Sublist.cons_cons _ (List.Sublist.cons_cons _ (List.Sublist.cons _ (List.Sublist.cons _ (List.Sublist.slnil))))); clear hMx
    refine l2 hFx hM83 16 1 0 9 [str u0.Name, .int .i64 u0.Start, .int .i64 u0.Size, .bool u0.Back, .bool u0.Signed, .int .i64 u0.Mul, .int .i64 u0.Div, .int .i64 u0.Add, .int .i64 u0.Key] rfl rfl ?_; intro a84 hF85; clear hFx
    refine nl (qnI (hJ _ _ ?_)); clear hJ J
    have hM86 := hM83.nilRes
    have hM87 := hM86.nilRes
    exact ⟨ao50, cap51, ao61, cap62, ud5, ud6, .agg #[str u0.Name, .int .i64 u0.Start, .int .i64 u0.Size, .bool u0.Back, .bool u0.Signed, .int .i64 u0.Mul, .int .i64 u0.Div, .int .i64 u0.Add, .int .i64 u0.Key], ud17, ud18, ud19, .row b7 [str u1.Name, .int .i64 u1.Start, .int .i64 u1.Size, .bool u1.Back, .bool u1.Signed, .int .i64 u1.Mul, .int .i64 u1.Div, .int .i64 u1.Add, .int .i64 u1.Key] 23, .row b2 [str u0.Name, .int .i64 u0.Start, .int .i64 u0.Size, .bool u0.Back, .bool u0.Signed, .int .i64 u0.Mul, .int .i64 u0.Div, .int .i64 u0.Add, .int .i64 u0.Key] 23, .nil, .nil, Z72, hle73, hF85.region (by kernel_rfl) (by kernel_rfl), hM87.perm ((pk 2 rfl).trans (((pk 2 rfl).trans ((List.Perm.refl _).cons _)).cons _)), (nt hx4), (nt hx5), kf, (nt hx1), cu18, (nt hx3), rfl, rfl, kf, (nt hx1), kf, (nt hx3)⟩
   · -- 1: call
    obtain rfl := Option.some.inj hi
    have hx0 := hpre 0 (by kernel_rfl)
    have hx1 := hSi
    have hx3 := negF hcl 3 1 (by kernel_rfl) hx1
    have hx4 := negF hcl 4 1 (by kernel_rfl) hx1
    have hx5 := negF hcl 5 1 (by kernel_rfl) hx1
    obtain rfl := cu16 hx0
    obtain rfl := cr0_0
    obtain rfl := cr1_0
    obtain rfl := cr2_0 hx1
    obtain rfl := cr3_0 hx3
    refine hG (any_step ?_); clear hG G; intro A J hJ
    have hle0 := Fz.le.trans hle0 hle73
    have hzst := Fz.le.refl Z72
    have hM89 := hMx.keep (List.Sublist.cons_cons _ (List.Sublist.cons_cons _ (List.Sublist.cons _ (List.Sublist.cons _ (List.Sublist.slnil))))); clear hMx
    refine cl hFx 57 #[.agg #[str u0.Name, .int .i64 u0.Start, .int .i64 u0.Size, .bool u0.Back, .bool u0.Signed, .int .i64 u0.Mul, .int .i64 u0.Div, .int .i64 u0.Add, .int .i64 u0.Key]] (nog rfl _) rfl (by kernel_rfl) (by kernel_rfl) ?_
    refine (splaces_fun u0 hcd1_0 _ _ hM89.fz).mono ?_; rintro _ wd90 ⟨ao94, cap95, Z96, rfl, hm⟩; refine ⟨_, rfl, ?_⟩; intro a91 hF92; have hM93 := hM89.callZ hm; have hle97 := hm.ext.le; clear hm hM89 hFx
    replace hzst := hzst.mono hle97
    replace hle0 := Fz.le.trans hle0 hle97
    have hM98 : Mem w.heap.size [] w Z [.own (tyInt .i64) 3 ao94 cap95 (placesS u0), .row b7 [str u1.Name, .int .i64 u1.Start, .int .i64 u1.Size, .bool u1.Back, .bool u1.Signed, .int .i64 u1.Mul, .int .i64 u1.Div, .int .i64 u1.Add, .int .i64 u1.Key] 23, .row b2 [str u0.Name, .int .i64 u0.Start, .int .i64 u0.Size, .bool u0.Back, .bool u0.Signed, .int .i64 u0.Mul, .int .i64 u0.Div, .int .i64 u0.Add, .int .i64 u0.Key] 23] Z96 wd90 := hM93; clear hM93
    refine nl (qnI (hJ _ _ ?_)); clear hJ J
    have hM99 := hM98.nilRes
    exact ⟨ao94, cap95, ao61, cap62, ud5, ud6, .agg #[str u0.Name, .int .i64 u0.Start, .int .i64 u0.Size, .bool u0.Back, .bool u0.Signed, .int .i64 u0.Mul, .int .i64 u0.Div, .int .i64 u0.Add, .int .i64 u0.Key], .slice ao94 (placesS u0).length cap95, ud18, ud19, .row b7 [str u1.Name, .int .i64 u1.Start, .int .i64 u1.Size, .bool u1.Back, .bool u1.Signed, .int .i64 u1.Mul, .int .i64 u1.Div, .int .i64 u1.Add, .int .i64 u1.Key] 23, .row b2 [str u0.Name, .int .i64 u0.Start, .int .i64 u0.Size, .bool u0.Back, .bool u0.Signed, .int .i64 u0.Mul, .int .i64 u0.Div, .int .i64 u0.Add, .int .i64 u0.Key] 23, .own (tyInt .i64) 3 ao94 cap95 (placesS u0), .nil, Z96, hle73.trans hzst, hF92.region (by kernel_rfl) (by kernel_rfl), hM99.perm ((pk 2 rfl).trans (((pk 2 rfl).trans (((pk 1 rfl).trans ((List.Perm.refl _).cons _)).cons _)).cons _)), (nt hx4), (nt hx5), kf, kf, cu18, (nt hx3), rfl, rfl, nu, kf, kf, (nt hx3)⟩
   · -- 2: load
    obtain rfl := Option.some.inj hi
    have hx2 := hSi
    have hx3 := negF hcl 3 2 (by kernel_rfl) hx2
    have hx4 := negF hcl 4 3 (by kernel_rfl) hx3
    have hx5 := negF hcl 5 2 (by kernel_rfl) hx2
    obtain rfl := cr0_0
    obtain rfl := cr1_0
    obtain rfl := cr3_0 hx3
    refine hG (any_step ?_); clear hG G; intro A J hJ
    have hle0 := Fz.le.trans hle0 hle73
    have hzst := Fz.le.refl Z72
    have hM101 := hMx.keep (List.Sublist.cons_cons _ (List.Sublist.cons_cons _ (List.Sublist.cons_cons _ (List.Sublist.cons _ (List.Sublist.slnil))))); clear hMx
    refine l2 hFx hM101 18 0 0 9 [str u1.Name, .int .i64 u1.Start, .int .i64 u1.Size, .bool u1.Back, .bool u1.Signed, .int .i64 u1.Mul, .int .i64 u1.Div, .int .i64 u1.Add, .int .i64 u1.Key] rfl rfl ?_; intro a102 hF103; clear hFx
    refine nl (qnI (hJ _ _ ?_)); clear hJ J
    have hM104 := hM101.nilRes
    exact ⟨ao50, cap51, ao61, cap62, ud5, ud6, ud16, ud17, .agg #[str u1.Name, .int .i64 u1.Start, .int .i64 u1.Size, .bool u1.Back, .bool u1.Signed, .int .i64 u1.Mul, .int .i64 u1.Div, .int .i64 u1.Add, .int .i64 u1.Key], ud19, .row b7 [str u1.Name, .int .i64 u1.Start, .int .i64 u1.Size, .bool u1.Back, .bool u1.Signed, .int .i64 u1.Mul, .int .i64 u1.Div, .int .i64 u1.Add, .int .i64 u1.Key] 23, .row b2 [str u0.Name, .int .i64 u0.Start, .int .i64 u0.Size, .bool u0.Back, .bool u0.Signed, .int .i64 u0.Mul, .int .i64 u0.Div, .int .i64 u0.Add, .int .i64 u0.Key] 23, rh2, .nil, Z72, hle73, hF103.region (by kernel_rfl) (by kernel_rfl), hM104.perm ((pk 1 rfl).trans (((pk 1 rfl).trans (((pk 1 rfl).trans ((List.Perm.refl _).cons _)).cons _)).cons _)), (nt hx4), (nt hx5), cu16, cu17, kf, (nt hx3), rfl, rfl, cr2_0, cr2_1, kf, (nt hx3)⟩
   · -- 3: call
    obtain rfl := Option.some.inj hi
    have hx2 := hpre 2 (by kernel_rfl)
    have hx1 := hpre 1 (by kernel_rfl)
    have hx0 := hcl 1 0 (by kernel_rfl) hx1
    have hx3 := hSi
    have hx4 := negF hcl 4 3 (by kernel_rfl) hx3
    have hx5 := negF hcl 5 3 (by kernel_rfl) hx3
    obtain rfl := cu16 hx0
    obtain rfl := cu17 hx1
    obtain rfl := cu18 hx2
    obtain rfl := cr0_0
    obtain rfl := cr1_0
    obtain rfl := cr2_1 hx1
    obtain rfl := cr3_0 hx3
    refine hG (any_step ?_); clear hG G; intro A J hJ
    have hle0 := Fz.le.trans hle0 hle73
    have hzst := Fz.le.refl Z72
    have hM106 := hMx.keep (List.Sublist.cons_cons _ (List.Sublist.cons_cons _ (List.Sublist.cons_cons _ (List.Sublist.cons _ (List.Sublist.slnil))))); clear hMx
    refine cl hFx 57 #[.agg #[str u1.Name, .int .i64 u1.Start, .int .i64 u1.Size, .bool u1.Back, .bool u1.Signed, .int .i64 u1.Mul, .int .i64 u1.Div, .int .i64 u1.Add, .int .i64 u1.Key]] (nog rfl _) rfl (by kernel_rfl) (by kernel_rfl) ?_
    refine (splaces_fun u1 hcd3_0 _ _ hM106.fz).mono ?_; rintro _ wd107 ⟨ao111, cap112, Z113, rfl, hm⟩; refine ⟨_, rfl, ?_⟩; intro a108 hF109; have hM110 := hM106.callZ hm; have hle114 := hm.ext.le; clear hm hM106 hFx
    replace hzst := hzst.mono hle114
    replace hle0 := Fz.le.trans hle0 hle114
    have hM115 : Mem w.heap.size [] w Z [.own (tyInt .i64) 3 ao111 cap112 (placesS u1), .row b7 [str u1.Name, .int .i64 u1.Start, .int .i64 u1.Size, .bool u1.Back, .bool u1.Signed, .int .i64 u1.Mul, .int .i64 u1.Div, .int .i64 u1.Add, .int .i64 u1.Key] 23, .row b2 [str u0.Name, .int .i64 u0.Start, .int .i64 u0.Size, .bool u0.Back, .bool u0.Signed, .int .i64 u0.Mul, .int .i64 u0.Div, .int .i64 u0.Add, .int .i64 u0.Key] 23, .own (tyInt .i64) 3 ao50 cap51 (placesS u0)] Z113 wd107 := hM110; clear hM110
    refine nl (qnI (hJ _ _ ?_)); clear hJ J
    exact ⟨ao50, cap51, ao111, cap112, ud5, ud6, .agg #[str u0.Name, .int .i64 u0.Start, .int .i64 u0.Size, .bool u0.Back, .bool u0.Signed, .int .i64 u0.Mul, .int .i64 u0.Div, .int .i64 u0.Add, .int .i64 u0.Key], .slice ao50 (placesS u0).length cap51, .agg #[str u1.Name, .int .i64 u1.Start, .int .i64 u1.Size, .bool u1.Back, .bool u1.Signed, .int .i64 u1.Mul, .int .i64 u1.Div, .int .i64 u1.Add, .int .i64 u1.Key], .slice ao111 (placesS u1).length cap112, .row b7 [str u1.Name, .int .i64 u1.Start, .int .i64 u1.Size, .bool u1.Back, .bool u1.Signed, .int .i64 u1.Mul, .int .i64 u1.Div, .int .i64 u1.Add, .int .i64 u1.Key] 23, .row b2 [str u0.Name, .int .i64 u0.Start, .int .i64 u0.Size, .bool u0.Back, .bool u0.Signed, .int .i64 u0.Mul, .int .i64 u0.Div, .int .i64 u0.Add, .int .i64 u0.Key] 23, .own (tyInt .i64) 3 ao50 cap51 (placesS u0), .own (tyInt .i64) 3 ao111 cap112 (placesS u1), Z113, hle73.trans hzst, hF109.region (by kernel_rfl) (by kernel_rfl), hM115.perm ((pk 1 rfl).trans (((pk 1 rfl).trans (((pk 1 rfl).trans ((List.Perm.refl _).cons _)).cons _)).cons _)), (nt hx4), (nt hx5), kf, kf, kf, kf, rfl, rfl, (tn hx1), kf, nu, kf⟩
   · -- 4: assign
    obtain rfl := Option.some.inj hi
    have hx3 := hpre 3 (by kernel_rfl)
    have hx1 := hpre 1 (by kernel_rfl)
    have hx0 := hpre 0 (by kernel_rfl)
    have hx2 := hcl 3 2 (by kernel_rfl) hx3
    have hx4 := hSi
    have hx5 := negF hcl 5 4 (by kernel_rfl) hx4
    obtain rfl := cu16 hx0
    obtain rfl := cu17 hx1
    obtain rfl := cu18 hx2
    obtain rfl := cu19 hx3
    obtain rfl := cr0_0
    obtain rfl := cr1_0
    obtain rfl := cr2_1 hx1
    obtain rfl := cr3_1 hx3
    refine hG (any_step ?_); clear hG G; intro A J hJ
    have hle0 := Fz.le.trans hle0 hle73
    have hzst := Fz.le.refl Z72
    refine s1 hFx 5 (.slice ao50 (placesS u0).length cap51) ?_; intro a117 hF118; clear hFx
    refine nl (qnI (hJ _ _ ?_)); clear hJ J
    exact ⟨ao50, cap51, ao61, cap62, .slice ao50 (placesS u0).length cap51, ud6, .agg #[str u0.Name, .int .i64 u0.Start, .int .i64 u0.Size, .bool u0.Back, .bool u0.Signed, .int .i64 u0.Mul, .int .i64 u0.Div, .int .i64 u0.Add, .int .i64 u0.Key], .slice ao50 (placesS u0).length cap51, .agg #[str u1.Name, .int .i64 u1.Start, .int .i64 u1.Size, .bool u1.Back, .bool u1.Signed, .int .i64 u1.Mul, .int .i64 u1.Div, .int .i64 u1.Add, .int .i64 u1.Key], .slice ao61 (placesS u1).length cap62, .row b7 [str u1.Name, .int .i64 u1.Start, .int .i64 u1.Size, .bool u1.Back, .bool u1.Signed, .int .i64 u1.Mul, .int .i64 u1.Div, .int .i64 u1.Add, .int .i64 u1.Key] 23, .row b2 [str u0.Name, .int .i64 u0.Start, .int .i64 u0.Size, .bool u0.Back, .bool u0.Signed, .int .i64 u0.Mul, .int .i64 u0.Div, .int .i64 u0.Add, .int .i64 u0.Key] 23, .own (tyInt .i64) 3 ao50 cap51 (placesS u0), .own (tyInt .i64) 3 ao61 cap62 (placesS u1), Z72, hle73, hF118.region (by kernel_rfl) (by kernel_rfl), hMx.perm (List.Perm.refl _), kf, (nt hx5), kf, kf, kf, kf, rfl, rfl, (tn hx1), kf, (tn hx3), kf⟩
   · -- 5: assign
    obtain rfl := Option.some.inj hi
    have hx4 := hpre 4 (by kernel_rfl)
    have hx3 := hpre 3 (by kernel_rfl)
    have hx2 := hpre 2 (by kernel_rfl)
    have hx1 := hpre 1 (by kernel_rfl)
    have hx0 := hpre 0 (by kernel_rfl)
    have hx5 := hSi
    obtain rfl := cu5 hx4
    obtain rfl := cu16 hx0
    obtain rfl := cu17 hx1
    obtain rfl := cu18 hx2
    obtain rfl := cu19 hx3
    obtain rfl := cr0_0
    obtain rfl := cr1_0
    obtain rfl := cr2_1 hx1
    obtain rfl := cr3_1 hx3
    refine hG (any_step ?_); clear hG G; intro A J hJ
    have hle0 := Fz.le.trans hle0 hle73
    have hzst := Fz.le.refl Z72
    refine s1 hFx 6 (.slice ao61 (placesS u1).length cap62) ?_; intro a120 hF121; clear hFx
    refine nl (qnI (hJ _ _ ?_)); clear hJ J
    exact ⟨ao50, cap51, ao61, cap62, .slice ao50 (placesS u0).length cap51, .slice ao61 (placesS u1).length cap62, .agg #[str u0.Name, .int .i64 u0.Start, .int .i64 u0.Size, .bool u0.Back, .bool u0.Signed, .int .i64 u0.Mul, .int .i64 u0.Div, .int .i64 u0.Add, .int .i64 u0.Key], .slice ao50 (placesS u0).length cap51, .agg #[str u1.Name, .int .i64 u1.Start, .int .i64 u1.Size, .bool u1.Back, .bool u1.Signed, .int .i64 u1.Mul, .int .i64 u1.Div, .int .i64 u1.Add, .int .i64 u1.Key], .slice ao61 (placesS u1).length cap62, .row b7 [str u1.Name, .int .i64 u1.Start, .int .i64 u1.Size, .bool u1.Back, .bool u1.Signed, .int .i64 u1.Mul, .int .i64 u1.Div, .int .i64 u1.Add, .int .i64 u1.Key] 23, .row b2 [str u0.Name, .int .i64 u0.Start, .int .i64 u0.Size, .bool u0.Back, .bool u0.Signed, .int .i64 u0.Mul, .int .i64 u0.Div, .int .i64 u0.Add, .int .i64 u0.Key] 23, .own (tyInt .i64) 3 ao50 cap51 (placesS u0), .own (tyInt .i64) 3 ao61 cap62 (placesS u1), Z72, hle73, hF121.region (by kernel_rfl) (by kernel_rfl), hMx.perm (List.Perm.refl _), kf, kf, kf, kf, kf, kf, rfl, rfl, (tn hx1), kf, (tn hx3), kf⟩
  case hE =>
   intro S hS a123 wd124 hI; refine Go.Sy.hid ?_; intro G hG; obtain ⟨ao50, hI⟩ := hI; obtain ⟨cap51, hI⟩ := hI; obtain ⟨ao61, hI⟩ := hI; obtain ⟨cap62, hI⟩ := hI; obtain ⟨ud5, hI⟩ := hI; obtain ⟨ud6, hI⟩ := hI; obtain ⟨ud16, hI⟩ := hI; obtain ⟨ud17, hI⟩ := hI; obtain ⟨ud18, hI⟩ := hI; obtain ⟨ud19, hI⟩ := hI; obtain ⟨rh0, hI⟩ := hI; obtain ⟨rh1, hI⟩ := hI; obtain ⟨rh2, hI⟩ := hI; obtain ⟨rh3, hI⟩ := hI; obtain ⟨Z72, hI⟩ := hI; obtain ⟨hle73, hI⟩ := hI; obtain ⟨hFx, hI⟩ := hI; obtain ⟨hMx, hI⟩ := hI; obtain ⟨cu5, hI⟩ := hI; obtain ⟨cu6, hI⟩ := hI; obtain ⟨cu16, hI⟩ := hI; obtain ⟨cu17, hI⟩ := hI; obtain ⟨cu18, hI⟩ := hI; obtain ⟨cu19, hI⟩ := hI; obtain ⟨cr0_0, hI⟩ := hI; obtain ⟨cr1_0, hI⟩ := hI; obtain ⟨cr2_0, hI⟩ := hI; obtain ⟨cr2_1, hI⟩ := hI; obtain ⟨cr3_0, hI⟩ := hI; have cr3_1 := hI; clear hI; refine hG ?_; clear hG G
   obtain rfl := cu5 (hS 4 (by decide))
   obtain rfl := cu6 (hS 5 (by decide))
   obtain rfl := cu16 (hS 0 (by decide))
   obtain rfl := cu17 (hS 1 (by decide))
   obtain rfl := cu18 (hS 2 (by decide))
   obtain rfl := cu19 (hS 3 (by decide))
   obtain rfl := cr0_0
   obtain rfl := cr1_0
   obtain rfl := cr2_1 (hS 1 (by decide))
   obtain rfl := cr3_1 (hS 3 (by decide))
   have hle0 := Fz.le.trans hle0 hle73
   refine thn ?_
   have hF125 : Fr 49 [] [⟨5, [], .slice ao50 (placesS u0).length cap51⟩, ⟨6, [], .slice ao61 (placesS u1).length cap62⟩] a123 := hFx.region (by kernel_rfl) (by kernel_rfl); clear hFx
   refine sqH ?_; intro hQ126Q hQ126
   refine s1 hF125 20 (.slice ao50 (placesS u0).length cap51) ?_; intro a127 hF128; clear hF125
   refine cl hF128 61 #[.slice ao50 (placesS u0).length cap51] (nog rfl _) rfl (by kernel_rfl) (by kernel_rfl) ?_
   refine (isort_fun (placesS u0) ao50 cap51 _ _ _ _ _ _ (hMx.perm (pk 2 rfl)) hMx.fz).mono ?_; rintro _ wd129 ⟨Z134, rfl, hle135, hl133, hm⟩; refine ⟨_, rfl, ?_⟩; intro a130 hF131; have hM132 := hm; clear hm hMx hF128
   replace hle0 := Fz.le.trans hle0 hle135
   have hF136 : Fr 49 [] [⟨5, [], .slice ao50 (isortS (placesS u0)).length cap51⟩, ⟨6, [], .slice ao61 (placesS u1).length cap62⟩, ⟨20, [], .slice ao50 (isortS (placesS u0)).length cap51⟩, ⟨21, [], .tuple #[]⟩] a130 := by rw [hl133]; exact hF131.region (by kernel_rfl) (by kernel_rfl)
   clear hF131
   have hM137 : Mem w.heap.size [] w Z [.own (tyInt .i64) 3 ao50 cap51 (isortS (placesS u0)), .row b7 [str u1.Name, .int .i64 u1.Start, .int .i64 u1.Size, .bool u1.Back, .bool u1.Signed, .int .i64 u1.Mul, .int .i64 u1.Div, .int .i64 u1.Add, .int .i64 u1.Key] 23, .row b2 [str u0.Name, .int .i64 u0.Start, .int .i64 u0.Size, .bool u0.Back, .bool u0.Signed, .int .i64 u0.Mul, .int .i64 u0.Div, .int .i64 u0.Add, .int .i64 u0.Key] 23, .own (tyInt .i64) 3 ao61 cap62 (placesS u1)] Z134 wd129 := hM132; clear hM132
   have hp138 := hp71 (hM137.ownSmall 0 rfl); clear hp71
   refine nlH (hQ126 _ _ ?_); clear hQ126 hQ126Q
   refine sqH ?_; intro hQ139Q hQ139
   refine s1 hF136 22 (.slice ao61 (placesS u1).length cap62) ?_; intro a140 hF141; clear hF136
   refine cl hF141 61 #[.slice ao61 (placesS u1).length cap62] (nog rfl _) rfl (by kernel_rfl) (by kernel_rfl) ?_
   refine (isort_fun (placesS u1) ao61 cap62 _ _ _ _ _ _ (hM137.perm (pk 3 rfl)) hM137.fz).mono ?_; rintro _ wd142 ⟨Z147, rfl, hle148, hl146, hm⟩; refine ⟨_, rfl, ?_⟩; intro a143 hF144; have hM145 := hm; clear hm hM137 hF141
   replace hle0 := Fz.le.trans hle0 hle148
   have hF149 : Fr 49 [] [⟨5, [], .slice ao50 (isortS (placesS u0)).length cap51⟩, ⟨6, [], .slice ao61 (isortS (placesS u1)).length cap62⟩, ⟨20, [], .slice ao50 (isortS (placesS u0)).length cap51⟩, ⟨21, [], .tuple #[]⟩, ⟨22, [], .slice ao61 (isortS (placesS u1)).length cap62⟩, ⟨23, [], .tuple #[]⟩] a143 := by rw [hl146]; exact hF144.region (by kernel_rfl) (by kernel_rfl)
   clear hF144
   have hM150 : Mem w.heap.size [] w Z [.own (tyInt .i64) 3 ao61 cap62 (isortS (placesS u1)), .own (tyInt .i64) 3 ao50 cap51 (isortS (placesS u0)), .row b7 [str u1.Name, .int .i64 u1.Start, .int .i64 u1.Size, .bool u1.Back, .bool u1.Signed, .int .i64 u1.Mul, .int .i64 u1.Div, .int .i64 u1.Add, .int .i64 u1.Key] 23, .row b2 [str u0.Name, .int .i64 u0.Start, .int .i64 u0.Size, .bool u0.Back, .bool u0.Signed, .int .i64 u0.Mul, .int .i64 u0.Div, .int .i64 u0.Add, .int .i64 u0.Key] 23] Z147 wd142 := hM145; clear hM145
   have hp151 := hp138 (hM150.ownSmall 0 rfl); clear hp138
   refine nlH (hQ139 _ _ ?_); clear hQ139 hQ139Q
   refine wp_seq ?_
   refine wp_block ?_
   have hF152 : Fr 49 [] [⟨5, [], .slice ao50 (isortS (placesS u0)).length cap51⟩, ⟨6, [], .slice ao61 (isortS (placesS u1)).length cap62⟩] a143 := hF149.region (by kernel_rfl) (by kernel_rfl); clear hF149
   obtain ⟨Z154, hle155, hM156, hs157⟩ := hM150.freeze 1 rfl
   replace hle0 := Fz.le.trans hle0 hle155
   have hM158 : Mem w.heap.size [] w Z [.own (tyInt .i64) 3 ao61 cap62 (isortS (placesS u1)), .row b7 [str u1.Name, .int .i64 u1.Start, .int .i64 u1.Size, .bool u1.Back, .bool u1.Signed, .int .i64 u1.Mul, .int .i64 u1.Div, .int .i64 u1.Add, .int .i64 u1.Key] 23, .row b2 [str u0.Name, .int .i64 u0.Start, .int .i64 u0.Size, .bool u0.Back, .bool u0.Signed, .int .i64 u0.Mul, .int .i64 u0.Div, .int .i64 u0.Add, .int .i64 u0.Key] 23] Z154 wd142 := hM156; clear hM156
   obtain ⟨Z159, hle160, hM161, hs162⟩ := hM158.freeze 0 rfl
   replace hs157 := hs157.mono hle160
   replace hle0 := Fz.le.trans hle0 hle160
   have hM163 : Mem w.heap.size [] w Z [.row b7 [str u1.Name, .int .i64 u1.Start, .int .i64 u1.Size, .bool u1.Back, .bool u1.Signed, .int .i64 u1.Mul, .int .i64 u1.Div, .int .i64 u1.Add, .int .i64 u1.Key] 23, .row b2 [str u0.Name, .int .i64 u0.Start, .int .i64 u0.Size, .bool u0.Back, .bool u0.Signed, .int .i64 u0.Mul, .int .i64 u0.Div, .int .i64 u0.Add, .int .i64 u0.Key] 23] Z159 wd142 := hM161; clear hM161
   have hF164 : Fr 49 [] [⟨5, [], .slice ao50 (isortS (placesS u0)).length cap51⟩, ⟨6, [], .slice ao61 (isortS (placesS u1)).length cap62⟩] a143 := hF152.region (by kernel_rfl) (by kernel_rfl); clear hF152
   obtain ⟨inv153, mu153, hI167, hr166⟩ := hp151
   have hle168 := hle0
   refine lp (ι := (List Int) × (List Int) × (Option Addr) × Nat × (Option Addr) × Nat × Fz) (fun (s : (List Int) × (List Int) × (Option Addr) × Nat × (Option Addr) × Nat × Fz) => [⟨5, [], .slice s.2.2.1 s.1.length s.2.2.2.1⟩, ⟨6, [], .slice s.2.2.2.2.1 s.2.1.length s.2.2.2.2.2.1⟩]) (fun (s : (List Int) × (List Int) × (Option Addr) × Nat × (Option Addr) × Nat × Fz) => [.row b7 [str u1.Name, .int .i64 u1.Start, .int .i64 u1.Size, .bool u1.Back, .bool u1.Signed, .int .i64 u1.Mul, .int .i64 u1.Div, .int .i64 u1.Add, .int .i64 u1.Key] 23, .row b2 [str u0.Name, .int .i64 u0.Start, .int .i64 u0.Size, .bool u0.Back, .bool u0.Signed, .int .i64 u0.Mul, .int .i64 u0.Div, .int .i64 u0.Add, .int .i64 u0.Key] 23]) (fun (s : (List Int) × (List Int) × (Option Addr) × Nat × (Option Addr) × Nat × Fz) => s.2.2.2.2.2.2) (fun (s : (List Int) × (List Int) × (Option Addr) × Nat × (Option Addr) × Nat × Fz) => inv153 s.1 s.2.1 ∧ SlR (tyInt .i64) s.2.2.2.2.2.2 s.2.2.1 s.2.2.2.1 s.1 ∧ SlR (tyInt .i64) s.2.2.2.2.2.2 s.2.2.2.2.1 s.2.2.2.2.2.1 s.2.1 ∧ Fz.le Z159 s.2.2.2.2.2.2) (fun (s : (List Int) × (List Int) × (Option Addr) × Nat × (Option Addr) × Nat × Fz) => mu153 s.1 s.2.1) ⟨(isortS (placesS u0)), (isortS (placesS u1)), ao50, cap51, ao61, cap62, Z159⟩ ⟨hI167, hs157, hs162, Fz.le.refl _⟩ (by exact hF164.region (by kernel_rfl) (by kernel_rfl)) (by exact hM163) ?_
   rintro ⟨x5, x6, aox5, capx5, aox6, capx6, ZL153⟩ ⟨hI165, hsx5, hsx6, hleL153⟩ a169 wd170 hF171 hM172
   have hF173 : Fr 49 [] [⟨5, [], .slice aox5 x5.length capx5⟩, ⟨6, [], .slice aox6 x6.length capx6⟩] a169 := hF171; clear hF171 hF164
   have hM174 : Mem w.heap.size [] w Z [.row b7 [str u1.Name, .int .i64 u1.Start, .int .i64 u1.Size, .bool u1.Back, .bool u1.Signed, .int .i64 u1.Mul, .int .i64 u1.Div, .int .i64 u1.Add, .int .i64 u1.Key] 23, .row b2 [str u0.Name, .int .i64 u0.Start, .int .i64 u0.Size, .bool u0.Back, .bool u0.Signed, .int .i64 u0.Mul, .int .i64 u0.Div, .int .i64 u0.Add, .int .i64 u0.Key] 23] ZL153 wd170 := hM172; clear hM172 hM163
   have hp175 := hr166 x5 x6 hI165
   replace hle0 := Fz.le.trans hle0 hleL153
   have hs176 := hs157.mono hleL153
   have hs177 := hs162.mono hleL153
   refine wp_seq ?_
   refine sqH ?_; intro hQ178Q hQ178
   refine s1 hF173 24 (.slice aox5 x5.length capx5) ?_; intro a179 hF180; clear hF173
   refine s1 hF180 25 (.int .i64 (x5.length : Int)) ?_; intro a181 hF182; clear hF180
   refine s1 hF182 26 (.bool (decide ((x5.length : Int) > 0))) ?_; intro a183 hF184; clear hF182
   refine s1 hF184 27 (.bool (decide ((x5.length : Int) > 0))) ?_; intro a185 hF186; clear hF184
   have hF187 := hF186.atom ((decide ((x5.length : Int) > 0)) == true) (by kernel_rfl); clear hF186
   refine gp hF187 28 0 [] (decide ((x5.length : Int) > 0)) (.slice aox6 x6.length capx6) rfl rfl ?_; intro a188 hF189; clear hF187
   refine gp hF189 29 0 [] (decide ((x5.length : Int) > 0)) (.int .i64 (x6.length : Int)) rfl rfl ?_; intro a190 hF191; clear hF189
   refine gp hF191 30 0 [] (decide ((x5.length : Int) > 0)) (.bool (decide ((x6.length : Int) > 0))) rfl rfl ?_; intro a192 hF193; clear hF191
   refine st hF193 (.bool ((decide ((x5.length : Int) > 0)) && (decide ((x6.length : Int) > 0)))) (nog rfl _) rfl (by kernel_rfl) (pk_and hF193 (g := []) (m := 0) (b := decide ((x5.length : Int) > 0)) (v := decide ((x6.length : Int) > 0)) rfl (by kernel_rfl) (by kernel_rfl) (by kernel_rfl) rfl) ?_; intro a194 hF195; clear hF193
   refine nlH (hQ178 _ _ ?_); clear hQ178 hQ178Q
   refine cd hF195 (t := (decide ((x5.length : Int) > 0)) && (decide ((x6.length : Int) > 0))) (by kernel_rfl) (fun hb196 => ?_) (fun hb196 => ?_)
   · -- yes
    have hp197 := hp175.1 hb196; clear hp175
    refine wp_skip ?_
    refine thn ?_
    refine wp_block ?_
    have hF198 : Fr 49 [] [⟨5, [], .slice aox5 x5.length capx5⟩, ⟨6, [], .slice aox6 x6.length capx6⟩] a194 := hF195.region (by kernel_rfl) (by kernel_rfl); clear hF195
    refine sqQH mixed (by kernel_rfl) hM174 ?_; intro hQ199Q hQ199
    refine q1 hF198 32 (.slice aox5 x5.length capx5) ?_; intro a201 hF202; clear hF198
    have hc204 := hp197.1; have hp205 := hp197.2; clear hp197
    refine qix hF202 (T := (tyInt .i64)) (xs := x5) hsx5 (0 : Int) hc204 (k := .i64) (e := 3) (bytes := 8) (nog rfl _) rfl (by kernel_rfl) rfl (by kernel_rfl) (by kernel_rfl) (by kernel_rfl) ?_; intro b206 off207 cs208 q209 a213 hq210 hP211 hT212 hF214; clear hF202
    have hp215 := hp205 q209 hq210; clear hp205
    obtain rfl : cs208 = ([.int .i64 q209] : List Value) := hT212
    refine qst hF214 (.int .i64 q209) (nog rfl _) rfl (by kernel_rfl) (fun v216 hC => lz hF214 hC.fz hP211 0 (g := []) rfl (by kernel_rfl) (by kernel_rfl) (by kernel_rfl) rfl) ?_; intro a217 hF218; clear hF214
    refine q1 hF218 35 (.slice aox6 x6.length capx6) ?_; intro a220 hF221; clear hF218
    have hc223 := hp215.1; have hp224 := hp215.2; clear hp215
    refine qix hF221 (T := (tyInt .i64)) (xs := x6) hsx6 (0 : Int) hc223 (k := .i64) (e := 3) (bytes := 8) (nog rfl _) rfl (by kernel_rfl) rfl (by kernel_rfl) (by kernel_rfl) (by kernel_rfl) ?_; intro b225 off226 cs227 q228 a232 hq229 hP230 hT231 hF233; clear hF221
    have hp234 := hp224 q228 hq229; clear hp224
    obtain rfl : cs227 = ([.int .i64 q228] : List Value) := hT231
    refine qst hF233 (.int .i64 q228) (nog rfl _) rfl (by kernel_rfl) (fun v235 hC => lz hF233 hC.fz hP230 0 (g := []) rfl (by kernel_rfl) (by kernel_rfl) (by kernel_rfl) rfl) ?_; intro a236 hF237; clear hF233
    refine qcl hF237 (.int .i64 (icmpS q209 q228)) 62 #[.int .i64 q209, .int .i64 q228] (nog rfl _) rfl (by kernel_rfl) (fun _ => by kernel_rfl) (qfc fun w hC => icmp_fun q209 q228 _ _ hC.fz) ?_; intro a239 hF240; clear hF237
    refine q1 hF240 7 (.int .i64 (icmpS q209 q228)) ?_; intro a242 hF243; clear hF240
    refine qnl (hQ199 _ ?_); clear hQ199 hQ199Q; intro wd244 hM245; clear hM174
    refine wp_block ?_
    refine sqH ?_; intro hQ246Q hQ246
    refine s1 hF243 42 (.int .i64 (icmpS q209 q228)) ?_; intro a247 hF248; clear hF243
    refine s1 hF248 43 (.bool ((icmpS q209 q228) == 0)) ?_; intro a249 hF250; clear hF248
    refine s1 hF250 41 (.bool ((icmpS q209 q228) == 0)) ?_; intro a251 hF252; clear hF250
    refine nlH (hQ246 _ _ ?_); clear hQ246 hQ246Q
    refine cd hF252 (t := (icmpS q209 q228) == 0) (by kernel_rfl) (fun hb253 => ?_) (fun hb253 => ?_)
    · -- yes
     have hp254 := hp234.1 hb253; clear hp234
     refine sqH ?_; intro hQ255Q hQ255
     refine s1 hF252 4 (.bool true) ?_; intro a256 hF257; clear hF252
     refine nlH (hQ255 _ _ ?_); clear hQ255 hQ255Q
     refine wp_ret ?_
     refine ibr ?_
     refine ibr ?_
     refine thr ?_
     refine ibr ?_
     refine thr ?_
     refine rt (fn := Tryd.f22) (v := .bool true) hF257 (re1 hF257 (fn := Tryd.f22) rfl (by kernel_rfl)) ?_
     exact ⟨true, rfl, hp254, hM245.below⟩
    · -- no
     have hp258 := hp234.2 hb253; clear hp234
     refine sqH ?_; intro hQ259Q hQ259
     refine s1 hF252 45 (.int .i64 (icmpS q209 q228)) ?_; intro a260 hF261; clear hF252
     refine s1 hF261 46 (.bool (decide ((icmpS q209 q228) < 0))) ?_; intro a262 hF263; clear hF261
     refine s1 hF263 44 (.bool (decide ((icmpS q209 q228) < 0))) ?_; intro a264 hF265; clear hF263
     refine nlH (hQ259 _ _ ?_); clear hQ259 hQ259Q
     refine cd hF265 (t := decide ((icmpS q209 q228) < 0)) (by kernel_rfl) (fun hb266 => ?_) (fun hb266 => ?_)
     · -- yes
      have hp267 := hp258.1 hb266; clear hp258
      have hF268 : Fr 49 [] [⟨5, [], .slice aox5 x5.length capx5⟩, ⟨6, [], .slice aox6 x6.length capx6⟩] a264 := hF265.region (by kernel_rfl) (by kernel_rfl); clear hF265
      refine rgH ?_; intro hQ269Q hQ269
      refine s1 hF268 47 (.slice aox5 x5.length capx5) ?_; intro a270 hF271; clear hF268
      have hc272 := hp267.1; have hp273 := hp267.2; clear hp267
      refine slL hF271 (T := (tyInt .i64)) (xs := x5) hsx5 (1 : Int) hc272 (k := .i64) (e := 3) (bytes := 8) (nog rfl _) rfl (by kernel_rfl) rfl (by kernel_rfl) (by kernel_rfl) (by kernel_rfl) ?_; intro ao274 cap275 a278 hn276 hs277 hF279; clear hF271
      refine s1 hF279 5 (.slice ao274 (x5.drop (1 : Int).toNat).length cap275) ?_; intro a280 hF281; clear hF279
      refine nlH (hQ269 _ _ ?_); clear hQ269 hQ269Q
      refine ibn ?_
      refine ibn ?_
      refine rd ?_
      exact ⟨⟨x5.drop (1 : Int).toNat, x6, ao274, cap275, aox6, capx6, ZL153⟩, ⟨hp273.1, hs277, hsx6, hleL153⟩, hp273.2, (hF281.region (by kernel_rfl) (by kernel_rfl)).anyβ _ (by kernel_rfl), hM245.keep (List.Sublist.cons_cons _ (List.Sublist.cons_cons _ (List.Sublist.slnil)))⟩
     · -- no
      have hp282 := hp258.2 hb266; clear hp258
      have hF283 : Fr 49 [] [⟨5, [], .slice aox5 x5.length capx5⟩, ⟨6, [], .slice aox6 x6.length capx6⟩] a264 := hF265.region (by kernel_rfl) (by kernel_rfl); clear hF265
      refine rgH ?_; intro hQ284Q hQ284
      refine s1 hF283 39 (.slice aox6 x6.length capx6) ?_; intro a285 hF286; clear hF283
      have hc287 := hp282.1; have hp288 := hp282.2; clear hp282
      refine slL hF286 (T := (tyInt .i64)) (xs := x6) hsx6 (1 : Int) hc287 (k := .i64) (e := 3) (bytes := 8) (nog rfl _) rfl (by kernel_rfl) rfl (by kernel_rfl) (by kernel_rfl) (by kernel_rfl) ?_; intro ao289 cap290 a293 hn291 hs292 hF294; clear hF286
      refine s1 hF294 6 (.slice ao289 (x6.drop (1 : Int).toNat).length cap290) ?_; intro a295 hF296; clear hF294
      refine nlH (hQ284 _ _ ?_); clear hQ284 hQ284Q
      refine ibn ?_
      refine ibn ?_
      refine rd ?_
      exact ⟨⟨x5, x6.drop (1 : Int).toNat, aox5, capx5, ao289, cap290, ZL153⟩, ⟨hp288.1, hsx5, hs292, hleL153⟩, hp288.2, (hF296.region (by kernel_rfl) (by kernel_rfl)).anyβ _ (by kernel_rfl), hM245.keep (List.Sublist.cons_cons _ (List.Sublist.cons_cons _ (List.Sublist.slnil)))⟩
   · -- no
    have hp297 := hp175.2 hb196; clear hp175
    refine wp_exit ?_
    refine thx ?_
    refine thx ?_
    refine ibx ?_
    refine thn ?_
    have hF298 : Fr 49 [] [] a194 := hF195.region (by kernel_rfl) (by kernel_rfl); clear hF195
    refine sqH ?_; intro hQ299Q hQ299
    refine s1 hF298 4 (.bool false) ?_; intro a300 hF301; clear hF298
    refine nlH (hQ299 _ _ ?_); clear hQ299 hQ299Q
    refine wp_ret ?_
    refine rt (fn := Tryd.f22) (v := .bool false) hF301 (re1 hF301 (fn := Tryd.f22) rfl (by kernel_rfl)) ?_
    exact ⟨false, rfl, hp297, hM174.below⟩

end Go.Proofs.YtdndfbamhnchfaaDoor
