/- The walks, made by program: each call does what its pure predicate says. -/
import Derived.Test.YtmbdcehmeiiaoaaGreatDoorPRb
import Derived.Test.YtmbdcehmeiiaoaaGreatDoorWRa
set_option linter.unusedVariables false
set_option linter.unusedSimpArgs false
namespace Go.Proofs.YtmbdcehmeiiaoaaGreatDoor
open Go.Sy Go.RowKit
theorem rofb_fun (u0 : List Int) (hpre : (∀ x ∈ u0, 0 ≤ x ∧ x ≤ 255) ∧ u0.length ≤ 1000) (ao1 : Option Addr) (cap2 : Nat) (Z : Fz) (w : World) (hs3 : SlR (tyInt .u8) Z ao1 cap2 u0) (hg5 : SlR (tyInt .u8) Z (some ⟨5, 0, none⟩) 64 deBruijn64) (hZ : Z.on w) : Calls Tryz.prog 90 #[.slice ao1 u0.length cap2] w fun e w' => e = .returned (str (ofb u0)) ∧ Below w.heap.size w w' :=
  (rofb_walk u0 ao1 cap2 Z w hs3 hg5 hZ (rofb_ok u0 hpre)).mono fun _ _ ⟨r, he, hk, hb⟩ => ⟨by subst hk; exact he, hb⟩

theorem rname_fun (u0 : Frame) (hpre : fcheckfr u0 = 0) (ao1 : Option Addr) (cap2 : Nat) (Z : Fz) (w : World) (hs3 : SlR (tyInt .u8) Z ao1 cap2 u0.Data) (hg5 : SlR (tyInt .u8) Z (some ⟨5, 0, none⟩) 64 deBruijn64) (hZ : Z.on w) : Calls Tryz.prog 20 #[.agg #[.int .i64 u0.ID, .bool u0.Long, .bool u0.Fast, .bool u0.Remote, .int .i64 u0.Size, .slice ao1 u0.Data.length cap2]] w fun e w' => e = .returned (str (fnameS u0)) ∧ Below w.heap.size w w' :=
  (rname_walk u0 ao1 cap2 Z w hs3 hg5 hZ (rname_ok u0 hpre)).mono fun _ _ ⟨r, he, hk, hb⟩ => ⟨by subst hk; exact he, hb⟩

theorem rcheckfr_fun (u0 : Frame) (ao1 : Option Addr) (cap2 : Nat) (Z : Fz) (w : World) (hs3 : SlR (tyInt .u8) Z ao1 cap2 u0.Data) (hZ : Z.on w) : Calls Tryz.prog 17 #[.agg #[.int .i64 u0.ID, .bool u0.Long, .bool u0.Fast, .bool u0.Remote, .int .i64 u0.Size, .slice ao1 u0.Data.length cap2]] w fun e w' => e = .returned (.int .i64 (fcheckfr u0)) ∧ Below w.heap.size w w' :=
  (rcheckfr_walk u0 ao1 cap2 Z w hs3 hZ (rcheckfr_ok u0)).mono fun _ _ ⟨r, he, hk, hb⟩ => ⟨by subst hk; exact he, hb⟩

set_option maxRecDepth 100000 in
set_option maxHeartbeats 0 in
theorem rhead_walk (u0 : Frame) (ao1 : Option Addr) (cap2 : Nat) (Z : Fz) (w : World) (hs3 : SlR (tyInt .u8) Z ao1 cap2 u0.Data) (hg5 : SlR (tyInt .u8) Z (some ⟨5, 0, none⟩) 64 deBruijn64) (hZ : Z.on w) {K : (List UInt8) → Prop} (hp : rhead_vc u0 K) : Calls Tryz.prog 60 #[.agg #[.int .i64 u0.ID, .bool u0.Long, .bool u0.Fast, .bool u0.Remote, .int .i64 u0.Size, .slice ao1 u0.Data.length cap2]] w fun e w' => ∃ r : (List UInt8), e = .returned (str r) ∧ K r ∧ Below w.heap.size w w' := by
 refine enter0 Tryz.func60 rfl rfl (by kernel_rfl) ?_; intro a0 hF0; have hM0 := Mem.start w Z hZ; have hle0 := Fz.le.refl Z
 have hp4 := hp (hs3.small); clear hp
 refine sqH ?_; intro hQ5Q hQ5
 refine sn hF0 hM0 (fun b => .pointer (some ⟨b, 0, none⟩)) [.int .i64 u0.ID, .bool u0.Long, .bool u0.Fast, .bool u0.Remote, .int .i64 u0.Size, .slice ao1 u0.Data.length cap2] 24 (nog rfl _) rfl (by kernel_rfl) (by kernel_rfl) ?_; intro b6 a7 wd9 hF8 hM10; clear hF0 hM0
 refine s1 hF8 2 (str []) ?_; intro a11 hF12; clear hF8
 refine nlH (hQ5 _ _ ?_); clear hQ5 hQ5Q
 refine sqH ?_; intro hQ13Q hQ13
 refine l2 hF12 hM10 7 0 0 6 [.int .i64 u0.ID, .bool u0.Long, .bool u0.Fast, .bool u0.Remote, .int .i64 u0.Size, .slice ao1 u0.Data.length cap2] rfl rfl ?_; intro a14 hF15; clear hF12
 have hc16 := hp4.1; have hp17 := hp4.2; clear hp4
 refine fcl hF15 hM10 (str (fnameS u0)) 20 #[.agg #[.int .i64 u0.ID, .bool u0.Long, .bool u0.Fast, .bool u0.Remote, .int .i64 u0.Size, .slice ao1 u0.Data.length cap2]] (nog rfl _) rfl (by kernel_rfl) (fun _ => by kernel_rfl) (rname_fun u0 hc16 ao1 cap2 _ _ hs3 hg5 hM10.fz) ?_; intro a18 wd20 hF19 hM21; clear hF15 hM10
 have hc22 := hp17.1; have hp23 := hp17.2; clear hp17
 refine st hF19 (str (([48] : List UInt8) ++ (fnameS u0))) (nog rfl _) rfl (by kernel_rfl) (stradd_run hF19 (g := []) rfl (by kernel_rfl) (by kernel_rfl) hc22 rfl) ?_; intro a24 hF25; clear hF19
 refine s1 hF25 3 (str (([48] : List UInt8) ++ (fnameS u0))) ?_; intro a26 hF27; clear hF25
 refine nlH (hQ13 _ _ ?_); clear hQ13 hQ13Q
 refine wp_seq ?_
 refine sqH ?_; intro hQ28Q hQ28
 refine s1 hF27 10 (.pointer (some ⟨b6, 2, none⟩)) ?_; intro a29 hF30; clear hF27
 refine l1 hF30 hM21 11 0 2 (.bool u0.Fast) rfl rfl ?_; intro a31 hF32; clear hF30
 refine nlH (hQ28 _ _ ?_); clear hQ28 hQ28Q
 refine cd hF32 (t := u0.Fast) (by kernel_rfl) (fun hb33 => ?_) (fun hb33 => ?_)
 ·
  have hp34 := hp23.1 hb33; clear hp23
  refine rgH ?_; intro hQ35Q hQ35
  refine s1 hF32 12 (str (([48] : List UInt8) ++ (fnameS u0))) ?_; intro a36 hF37; clear hF32
  have hc38 := hp34.1; have hp39 := hp34.2; clear hp34
  refine st hF37 (str ((([48] : List UInt8) ++ (fnameS u0)) ++ ([49, 48, 49, 48] : List UInt8))) (nog rfl _) rfl (by kernel_rfl) (stradd_run hF37 (g := []) rfl (by kernel_rfl) (by kernel_rfl) hc38 rfl) ?_; intro a40 hF41; clear hF37
  refine s1 hF41 3 (str ((([48] : List UInt8) ++ (fnameS u0)) ++ ([49, 48, 49, 48] : List UInt8))) ?_; intro a42 hF43; clear hF41
  refine nlH (hQ35 _ _ ?_); clear hQ35 hQ35Q
  refine thn ?_
  refine sqH ?_; intro hQ44Q hQ44
  refine s1 hF43 20 (.pointer (some ⟨b6, 4, none⟩)) ?_; intro a45 hF46; clear hF43
  refine l1 hF46 hM21 21 0 4 (.int .i64 u0.Size) rfl rfl ?_; intro a47 hF48; clear hF46
  refine s1 hF48 4 (.int .i64 u0.Size) ?_; intro a49 hF50; clear hF48
  refine nlH (hQ44 _ _ ?_); clear hQ44 hQ44Q
  refine wp_seq ?_
  have hF51 : Fr 42 [] [⟨1, [], .pointer (some ⟨b6, 0, none⟩)⟩, ⟨3, [], str ((([48] : List UInt8) ++ (fnameS u0)) ++ ([49, 48, 49, 48] : List UInt8))⟩, ⟨4, [], .int .i64 u0.Size⟩] a49 := hF50.reg; clear hF50
  refine sqH ?_; intro hQ52Q hQ52
  refine s1 hF51 22 (.pointer (some ⟨b6, 3, none⟩)) ?_; intro a53 hF54; clear hF51
  refine l1 hF54 hM21 23 0 3 (.bool u0.Remote) rfl rfl ?_; intro a55 hF56; clear hF54
  refine s1 hF56 24 (.bool (!u0.Remote)) ?_; intro a57 hF58; clear hF56
  refine nlH (hQ52 _ _ ?_); clear hQ52 hQ52Q
  refine cd hF58 (t := !u0.Remote) (by kernel_rfl) (fun hb59 => ?_) (fun hb59 => ?_)
  ·
   have hp60 := hp39.1 hb59; clear hp39
   have hF61 : Fr 42 [] [⟨1, [], .pointer (some ⟨b6, 0, none⟩)⟩, ⟨3, [], str ((([48] : List UInt8) ++ (fnameS u0)) ++ ([49, 48, 49, 48] : List UInt8))⟩] a57 := hF58.reg; clear hF58
   refine any_invE mixed [[], [], [1], [2], [0, 3], [0, 1, 2, 3, 4]] 6 (fun S a w1 => ∃ (ao66 : Option Addr) (cap67 : Nat) (ud4 : Value) (ud25 : Value) (ud26 : Value) (ud27 : Value) (ud28 : Value) (ud29 : Value) (rh0 : Res) (rh1 : Res) (Z88 : Fz), Fz.le Z Z88 ∧ Fr 42 [] [⟨1, [], .pointer (some ⟨b6, 0, none⟩)⟩, ⟨3, [], str ((([48] : List UInt8) ++ (fnameS u0)) ++ ([49, 48, 49, 48] : List UInt8))⟩, ⟨4, [], ud4⟩, ⟨25, [], ud25⟩, ⟨26, [], ud26⟩, ⟨27, [], ud27⟩, ⟨28, [], ud28⟩, ⟨29, [], ud29⟩] a ∧ Mem w.heap.size [] w Z [rh0, rh1] Z88 w1 ∧ (S 5 = true → ud4 = .int .i64 (sindexS rsizes (u0.Data.length : Int))) ∧ (S 0 = true → ud25 = .slice ao66 rsizes.length cap67) ∧ (S 1 = true → ud26 = .pointer (some ⟨b6, 5, none⟩)) ∧ (S 2 = true → ud27 = .slice ao1 u0.Data.length cap2) ∧ (S 3 = true → ud28 = .int .i64 (u0.Data.length : Int)) ∧ (S 4 = true → ud29 = .int .i64 (sindexS rsizes (u0.Data.length : Int))) ∧ (rh0 = .row b6 [.int .i64 u0.ID, .bool u0.Long, .bool u0.Fast, .bool u0.Remote, .int .i64 u0.Size, .slice ao1 u0.Data.length cap2] 24) ∧ (S 0 = false → rh1 = .nil) ∧ (S 0 = true → S 4 = false → rh1 = .own (tyInt .i64) 3 ao66 cap67 rsizes) ∧ (S 4 = true → rh1 = .nil) ∧ (S 4 = true → SlR (tyInt .i64) Z88 ao66 cap67 rsizes)) ?h0 ?hs ?hE
   case h0 =>
    have hF90 := hF61.any 4
    have hF91 := hF90.any 25
    have hF92 := hF91.any 26
    have hF93 := hF92.any 27
    have hF94 := hF93.any 28
    have hF95 := hF94.any 29
    have hM96 := hM21.nilRes
    have hM97 := (hM96.perm ((pk 1 rfl).trans (lpr.cons _))).drew
    exact ⟨none, 0, a57.tmps.getD 4 undef, a57.tmps.getD 25 undef, a57.tmps.getD 26 undef, a57.tmps.getD 27 undef, a57.tmps.getD 28 undef, a57.tmps.getD 29 undef, .row b6 [.int .i64 u0.ID, .bool u0.Long, .bool u0.Fast, .bool u0.Remote, .int .i64 u0.Size, .slice ao1 u0.Data.length cap2] 24, .nil, Z, Fz.le.refl _, hF95.reg, hM97, ff, ff, ff, ff, ff, ff, rfl, kf, ff, ff, ff⟩
   case hs =>
    intro S hcl i o hil hi hSi hpre a w1 hI; refine Go.Sy.hid ?_; intro G hG; obtain ⟨ao66, cap67, ud4, ud25, ud26, ud27, ud28, ud29, rh0, rh1, Z88, hle89, hFx, hMx, cu4, cu25, cu26, cu27, cu28, cu29, cr0_0, cr1_0, cr1_1, cr1_2, hI⟩ := hI; have cf0 := hI; clear hI
    have hcase : i = 0 ∨ i = 1 ∨ i = 2 ∨ i = 3 ∨ i = 4 ∨ i = 5 := by clear hi; omega
    rcases hcase with rfl | rfl | rfl | rfl | rfl | rfl
    ·
     obtain rfl := oj hi
     have hx0 := hSi
     have hx4 := ngF hcl 4 0 hx0
     have hx5 := ngF hcl 5 0 hx0
     obtain rfl := cr0_0
     obtain rfl := cr1_0 hx0
     refine hG (any_step ?_); clear hG G; intro A J hJ
     have hle0 := Fz.le.trans hle0 hle89
     have hzst := Fz.le.refl Z88
     have hs98 := hs3.mono hle89
     have hs99 := hg5.mono hle89
     have hM100 := hMx.keep (List.Sublist.cons_cons _ (List.Sublist.cons _ (List.Sublist.slnil))); clear hMx
     refine cl hFx 48 #[] (nog rfl _) rfl (by kernel_rfl) (by kernel_rfl) ?_
     refine (rsizes_fun  _ _ hM100.fz).mono ?_; rintro _ wd101 ⟨ao105, cap106, Z107, rfl, hm⟩; refine ⟨_, rfl, ?_⟩; intro a102 hF103; have hM104 := hM100.callZ hm; have hle108 := hm.ext.le; clear hm hM100 hFx
     replace hzst := hzst.mono hle108
     replace hs98 := hs98.mono hle108
     replace hs99 := hs99.mono hle108
     replace hle0 := Fz.le.trans hle0 hle108
     have hM109 : Mem w.heap.size [] w Z [.own (tyInt .i64) 3 ao105 cap106 rsizes, .row b6 [.int .i64 u0.ID, .bool u0.Long, .bool u0.Fast, .bool u0.Remote, .int .i64 u0.Size, .slice ao1 u0.Data.length cap2] 24] Z107 wd101 := hM104; clear hM104
     refine nl (qnI (hJ _ _ ?_)); clear hJ J
     exact ⟨ao105, cap106, ud4, .slice ao105 rsizes.length cap106, ud26, ud27, ud28, ud29, .row b6 [.int .i64 u0.ID, .bool u0.Long, .bool u0.Fast, .bool u0.Remote, .int .i64 u0.Size, .slice ao1 u0.Data.length cap2] 24, .own (tyInt .i64) 3 ao105 cap106 rsizes, Z107, hle89.trans hzst, hF103.reg, hM109.perm ((pk 1 rfl).trans (lpr.cons _)), (nt hx5), kf, cu26, cu27, cu28, (nt hx4), rfl, nu, kf2, (nt hx4), (nt hx4)⟩
    ·
     obtain rfl := oj hi
     have hx1 := hSi
     have hx2 := ngF hcl 2 1 hx1
     have hx3 := ngF hcl 3 2 hx2
     have hx4 := ngF hcl 4 3 hx3
     have hx5 := ngF hcl 5 1 hx1
     obtain rfl := cr0_0
     refine hG (any_step ?_); clear hG G; intro A J hJ
     have hle0 := Fz.le.trans hle0 hle89
     have hzst := Fz.le.refl Z88
     have hs111 := hs3.mono hle89
     have hs112 := hg5.mono hle89
     refine s1 hFx 26 (.pointer (some ⟨b6, 5, none⟩)) ?_; intro a113 hF114; clear hFx
     refine nl (qnI (hJ _ _ ?_)); clear hJ J
     exact ⟨ao66, cap67, ud4, ud25, .pointer (some ⟨b6, 5, none⟩), ud27, ud28, ud29, .row b6 [.int .i64 u0.ID, .bool u0.Long, .bool u0.Fast, .bool u0.Remote, .int .i64 u0.Size, .slice ao1 u0.Data.length cap2] 24, rh1, Z88, hle89, hF114.reg, hMx.perm lpr, (nt hx5), cu25, kf, (nt hx2), (nt hx3), (nt hx4), rfl, cr1_0, cr1_1, (nt hx4), (nt hx4)⟩
    ·
     obtain rfl := oj hi
     have hx1 := hpre 1 (by kernel_rfl)
     have hx2 := hSi
     have hx3 := ngF hcl 3 2 hx2
     have hx4 := ngF hcl 4 3 hx3
     have hx5 := ngF hcl 5 2 hx2
     obtain rfl := cu26 hx1
     obtain rfl := cr0_0
     refine hG (any_step ?_); clear hG G; intro A J hJ
     have hle0 := Fz.le.trans hle0 hle89
     have hzst := Fz.le.refl Z88
     have hs116 := hs3.mono hle89
     have hs117 := hg5.mono hle89
     refine l1 hFx hMx 27 0 5 (.slice ao1 u0.Data.length cap2) rfl rfl ?_; intro a118 hF119; clear hFx
     refine nl (qnI (hJ _ _ ?_)); clear hJ J
     exact ⟨ao66, cap67, ud4, ud25, .pointer (some ⟨b6, 5, none⟩), .slice ao1 u0.Data.length cap2, ud28, ud29, .row b6 [.int .i64 u0.ID, .bool u0.Long, .bool u0.Fast, .bool u0.Remote, .int .i64 u0.Size, .slice ao1 u0.Data.length cap2] 24, rh1, Z88, hle89, hF119.reg, hMx.perm lpr, (nt hx5), cu25, kf, kf, (nt hx3), (nt hx4), rfl, cr1_0, cr1_1, (nt hx4), (nt hx4)⟩
    ·
     obtain rfl := oj hi
     have hx2 := hpre 2 (by kernel_rfl)
     have hx1 := hcl 2 1 (by kernel_rfl) hx2
     have hx3 := hSi
     have hx4 := ngF hcl 4 3 hx3
     have hx5 := ngF hcl 5 3 hx3
     obtain rfl := cu26 hx1
     obtain rfl := cu27 hx2
     obtain rfl := cr0_0
     refine hG (any_step ?_); clear hG G; intro A J hJ
     have hle0 := Fz.le.trans hle0 hle89
     have hzst := Fz.le.refl Z88
     have hs121 := hs3.mono hle89
     have hs122 := hg5.mono hle89
     refine s1 hFx 28 (.int .i64 (u0.Data.length : Int)) ?_; intro a123 hF124; clear hFx
     refine nl (qnI (hJ _ _ ?_)); clear hJ J
     exact ⟨ao66, cap67, ud4, ud25, .pointer (some ⟨b6, 5, none⟩), .slice ao1 u0.Data.length cap2, .int .i64 (u0.Data.length : Int), ud29, .row b6 [.int .i64 u0.ID, .bool u0.Long, .bool u0.Fast, .bool u0.Remote, .int .i64 u0.Size, .slice ao1 u0.Data.length cap2] 24, rh1, Z88, hle89, hF124.reg, hMx.perm lpr, (nt hx5), cu25, kf, kf, kf, (nt hx4), rfl, cr1_0, cr1_1, (nt hx4), (nt hx4)⟩
    ·
     obtain rfl := oj hi
     have hx3 := hpre 3 (by kernel_rfl)
     have hx0 := hpre 0 (by kernel_rfl)
     have hx2 := hcl 3 2 (by kernel_rfl) hx3
     have hx1 := hcl 2 1 (by kernel_rfl) hx2
     have hx4 := hSi
     have hx5 := ngF hcl 5 4 hx4
     obtain rfl := cu25 hx0
     obtain rfl := cu26 hx1
     obtain rfl := cu27 hx2
     obtain rfl := cu28 hx3
     obtain rfl := cr0_0
     obtain rfl := cr1_1 hx0 hx4
     refine hG (any_step ?_); clear hG G; intro A J hJ
     have hle0 := Fz.le.trans hle0 hle89
     have hzst := Fz.le.refl Z88
     have hs126 := hs3.mono hle89
     have hs127 := hg5.mono hle89
     obtain ⟨Z128, hle129, hM130, hs131⟩ := hMx.freeze 1 rfl
     replace hzst := hzst.mono hle129
     replace hs126 := hs126.mono hle129
     replace hs127 := hs127.mono hle129
     replace hle0 := Fz.le.trans hle0 hle129
     have hM132 : Mem w.heap.size [] w Z [.row b6 [.int .i64 u0.ID, .bool u0.Long, .bool u0.Fast, .bool u0.Remote, .int .i64 u0.Size, .slice ao1 u0.Data.length cap2] 24] Z128 w1 := hM130; clear hM130
     refine fcl hFx hM132 (.int .i64 (sindexS rsizes (u0.Data.length : Int))) 27 #[.slice ao66 rsizes.length cap67, .int .i64 (u0.Data.length : Int)] (nog rfl _) rfl (by kernel_rfl) (fun _ => by kernel_rfl) (sindex_fun rsizes (u0.Data.length : Int) ao66 cap67 _ _ hs131 hM132.fz) ?_; intro a133 wd135 hF134 hM136; clear hFx hM132
     refine nl (qnI (hJ _ _ ?_)); clear hJ J
     have hM137 := hM136.nilRes
     exact ⟨ao66, cap67, ud4, .slice ao66 rsizes.length cap67, .pointer (some ⟨b6, 5, none⟩), .slice ao1 u0.Data.length cap2, .int .i64 (u0.Data.length : Int), .int .i64 (sindexS rsizes (u0.Data.length : Int)), .row b6 [.int .i64 u0.ID, .bool u0.Long, .bool u0.Fast, .bool u0.Remote, .int .i64 u0.Size, .slice ao1 u0.Data.length cap2] 24, .nil, Z128, hle89.trans hzst, hF134.reg, hM137.perm ((pk 1 rfl).trans (lpr.cons _)), (nt hx5), kf, kf, kf, kf, kf, rfl, (tn hx0), (fun _ => nu), kf, (fun _ => hs131)⟩
    ·
     obtain rfl := oj hi
     have hx4 := hpre 4 (by kernel_rfl)
     have hx3 := hpre 3 (by kernel_rfl)
     have hx2 := hpre 2 (by kernel_rfl)
     have hx1 := hpre 1 (by kernel_rfl)
     have hx0 := hpre 0 (by kernel_rfl)
     have hx5 := hSi
     obtain rfl := cu25 hx0
     obtain rfl := cu26 hx1
     obtain rfl := cu27 hx2
     obtain rfl := cu28 hx3
     obtain rfl := cu29 hx4
     obtain rfl := cr0_0
     obtain rfl := cr1_2 hx4
     refine hG (any_step ?_); clear hG G; intro A J hJ
     have hle0 := Fz.le.trans hle0 hle89
     have hzst := Fz.le.refl Z88
     have hs139 := hs3.mono hle89
     have hs140 := hg5.mono hle89
     have hs141 := cf0 hx4
     have hM142 := hMx.keep (List.Sublist.cons_cons _ (List.Sublist.cons _ (List.Sublist.slnil))); clear hMx
     refine s1 hFx 4 (.int .i64 (sindexS rsizes (u0.Data.length : Int))) ?_; intro a143 hF144; clear hFx
     refine nl (qnI (hJ _ _ ?_)); clear hJ J
     have hM145 := hM142.nilRes
     exact ⟨ao66, cap67, .int .i64 (sindexS rsizes (u0.Data.length : Int)), .slice ao66 rsizes.length cap67, .pointer (some ⟨b6, 5, none⟩), .slice ao1 u0.Data.length cap2, .int .i64 (u0.Data.length : Int), .int .i64 (sindexS rsizes (u0.Data.length : Int)), .row b6 [.int .i64 u0.ID, .bool u0.Long, .bool u0.Fast, .bool u0.Remote, .int .i64 u0.Size, .slice ao1 u0.Data.length cap2] 24, .nil, Z88, hle89, hF144.reg, hM145.perm ((pk 1 rfl).trans (lpr.cons _)), kf, kf, kf, kf, kf, kf, rfl, (tn hx0), (fun _ => tn hx4), kf, (fun _ => hs141)⟩
   case hE =>
    intro S hS a147 wd148 hI; refine Go.Sy.hid ?_; intro G hG; obtain ⟨ao66, cap67, ud4, ud25, ud26, ud27, ud28, ud29, rh0, rh1, Z88, hle89, hFx, hMx, cu4, cu25, cu26, cu27, cu28, cu29, cr0_0, cr1_0, cr1_1, cr1_2, hI⟩ := hI; have cf0 := hI; clear hI; refine hG ?_; clear hG G
    obtain rfl := cu4 (hS 5 (by decide))
    obtain rfl := cu25 (hS 0 (by decide))
    obtain rfl := cu26 (hS 1 (by decide))
    obtain rfl := cu27 (hS 2 (by decide))
    obtain rfl := cu28 (hS 3 (by decide))
    obtain rfl := cu29 (hS 4 (by decide))
    obtain rfl := cr0_0
    obtain rfl := cr1_2 (hS 4 (by decide))
    have hle0 := Fz.le.trans hle0 hle89
    have hs149 := hs3.mono hle89
    have hs150 := hg5.mono hle89
    have hs151 := cf0 (hS 4 (by decide))
    have hMx := hMx.keep (List.Sublist.cons_cons _ (List.Sublist.cons _ (List.Sublist.slnil)))
    refine thn ?_
    have hF152 : Fr 42 [] [⟨1, [], .pointer (some ⟨b6, 0, none⟩)⟩, ⟨3, [], str ((([48] : List UInt8) ++ (fnameS u0)) ++ ([49, 48, 49, 48] : List UInt8))⟩, ⟨4, [], .int .i64 (sindexS rsizes (u0.Data.length : Int))⟩] a147 := hFx.reg; clear hFx
    refine sqH ?_; intro hQ153Q hQ153
    refine s1 hF152 31 (.int .i64 (sindexS rsizes (u0.Data.length : Int))) ?_; intro a154 hF155; clear hF152
    have hc156 := hp60.1; have hp157 := hp60.2; clear hp60
    refine fcl hF155 hMx (.tuple #[str ((rrowS (sindexS rsizes (u0.Data.length : Int)) 4).1), .bool ((rrowS (sindexS rsizes (u0.Data.length : Int)) 4).2)]) 59 #[.int .i64 (sindexS rsizes (u0.Data.length : Int)), .int .i64 4] (nog rfl _) rfl (by kernel_rfl) (fun _ => by kernel_rfl) (rrow_fun (sindexS rsizes (u0.Data.length : Int)) 4 hc156 _ _ hs150 hMx.fz) ?_; intro a158 wd160 hF159 hM161; clear hF155 hMx
    refine s1 hF159 30 (.tuple #[str ((rrowS (sindexS rsizes (u0.Data.length : Int)) 4).1), .bool ((rrowS (sindexS rsizes (u0.Data.length : Int)) 4).2)]) ?_; intro a162 hF163; clear hF159
    refine s1 hF163 33 (str ((rrowS (sindexS rsizes (u0.Data.length : Int)) 4).1)) ?_; intro a164 hF165; clear hF163
    refine s1 hF165 34 (.bool ((rrowS (sindexS rsizes (u0.Data.length : Int)) 4).2)) ?_; intro a166 hF167; clear hF165
    refine s1 hF167 5 (str ((rrowS (sindexS rsizes (u0.Data.length : Int)) 4).1)) ?_; intro a168 hF169; clear hF167
    refine s1 hF169 6 (.bool ((rrowS (sindexS rsizes (u0.Data.length : Int)) 4).2)) ?_; intro a170 hF171; clear hF169
    refine nlH (hQ153 _ _ ?_); clear hQ153 hQ153Q
    refine sqH ?_; intro hQ172Q hQ172
    refine s1 hF171 35 (str ((([48] : List UInt8) ++ (fnameS u0)) ++ ([49, 48, 49, 48] : List UInt8))) ?_; intro a173 hF174; clear hF171
    refine s1 hF174 36 (str ((rrowS (sindexS rsizes (u0.Data.length : Int)) 4).1)) ?_; intro a175 hF176; clear hF174
    have hc177 := hp157.1; have hp178 := hp157.2; clear hp157
    refine st hF176 (str (((([48] : List UInt8) ++ (fnameS u0)) ++ ([49, 48, 49, 48] : List UInt8)) ++ ((rrowS (sindexS rsizes (u0.Data.length : Int)) 4).1))) (nog rfl _) rfl (by kernel_rfl) (stradd_run hF176 (g := []) rfl (by kernel_rfl) (by kernel_rfl) hc177 rfl) ?_; intro a179 hF180; clear hF176
    refine s1 hF180 38 (.pointer (some ⟨b6, 5, none⟩)) ?_; intro a181 hF182; clear hF180
    refine l1 hF182 hM161 39 0 5 (.slice ao1 u0.Data.length cap2) rfl rfl ?_; intro a183 hF184; clear hF182
    have hc185 := hp178.1; have hp186 := hp178.2; clear hp178
    refine fcl hF184 hM161 (str (ofb u0.Data)) 90 #[.slice ao1 u0.Data.length cap2] (nog rfl _) rfl (by kernel_rfl) (fun _ => by kernel_rfl) (rofb_fun u0.Data hc185 ao1 cap2 _ _ hs149 hs150 hM161.fz) ?_; intro a187 wd189 hF188 hM190; clear hF184 hM161
    have hc191 := hp186.1; have hp192 := hp186.2; clear hp186
    refine st hF188 (str ((((([48] : List UInt8) ++ (fnameS u0)) ++ ([49, 48, 49, 48] : List UInt8)) ++ ((rrowS (sindexS rsizes (u0.Data.length : Int)) 4).1)) ++ (ofb u0.Data))) (nog rfl _) rfl (by kernel_rfl) (stradd_run hF188 (g := []) rfl (by kernel_rfl) (by kernel_rfl) hc191 rfl) ?_; intro a193 hF194; clear hF188
    refine s1 hF194 2 (str ((((([48] : List UInt8) ++ (fnameS u0)) ++ ([49, 48, 49, 48] : List UInt8)) ++ ((rrowS (sindexS rsizes (u0.Data.length : Int)) 4).1)) ++ (ofb u0.Data))) ?_; intro a195 hF196; clear hF194
    refine nlH (hQ172 _ _ ?_); clear hQ172 hQ172Q
    refine wp_ret ?_
    refine rt (fn := Tryz.f60) (v := str ((((([48] : List UInt8) ++ (fnameS u0)) ++ ([49, 48, 49, 48] : List UInt8)) ++ ((rrowS (sindexS rsizes (u0.Data.length : Int)) 4).1)) ++ (ofb u0.Data))) hF196 (re1 hF196 (fn := Tryz.f60) rfl (by kernel_rfl)) ?_
    exact ⟨(((([48] : List UInt8) ++ (fnameS u0)) ++ ([49, 48, 49, 48] : List UInt8)) ++ ((rrowS (sindexS rsizes (u0.Data.length : Int)) 4).1)) ++ (ofb u0.Data), rfl, hp192, hM190.below⟩
  ·
   have hp197 := hp39.2 hb59; clear hp39
   refine wp_skip ?_
   refine thn ?_
   refine sqH ?_; intro hQ198Q hQ198
   refine s1 hF58 31 (.int .i64 u0.Size) ?_; intro a199 hF200; clear hF58
   have hc201 := hp197.1; have hp202 := hp197.2; clear hp197
   refine fcl hF200 hM21 (.tuple #[str ((rrowS u0.Size 4).1), .bool ((rrowS u0.Size 4).2)]) 59 #[.int .i64 u0.Size, .int .i64 4] (nog rfl _) rfl (by kernel_rfl) (fun _ => by kernel_rfl) (rrow_fun u0.Size 4 hc201 _ _ hg5 hM21.fz) ?_; intro a203 wd205 hF204 hM206; clear hF200 hM21
   refine s1 hF204 30 (.tuple #[str ((rrowS u0.Size 4).1), .bool ((rrowS u0.Size 4).2)]) ?_; intro a207 hF208; clear hF204
   refine s1 hF208 33 (str ((rrowS u0.Size 4).1)) ?_; intro a209 hF210; clear hF208
   refine s1 hF210 34 (.bool ((rrowS u0.Size 4).2)) ?_; intro a211 hF212; clear hF210
   refine s1 hF212 5 (str ((rrowS u0.Size 4).1)) ?_; intro a213 hF214; clear hF212
   refine s1 hF214 6 (.bool ((rrowS u0.Size 4).2)) ?_; intro a215 hF216; clear hF214
   refine nlH (hQ198 _ _ ?_); clear hQ198 hQ198Q
   refine sqH ?_; intro hQ217Q hQ217
   refine s1 hF216 35 (str ((([48] : List UInt8) ++ (fnameS u0)) ++ ([49, 48, 49, 48] : List UInt8))) ?_; intro a218 hF219; clear hF216
   refine s1 hF219 36 (str ((rrowS u0.Size 4).1)) ?_; intro a220 hF221; clear hF219
   have hc222 := hp202.1; have hp223 := hp202.2; clear hp202
   refine st hF221 (str (((([48] : List UInt8) ++ (fnameS u0)) ++ ([49, 48, 49, 48] : List UInt8)) ++ ((rrowS u0.Size 4).1))) (nog rfl _) rfl (by kernel_rfl) (stradd_run hF221 (g := []) rfl (by kernel_rfl) (by kernel_rfl) hc222 rfl) ?_; intro a224 hF225; clear hF221
   refine s1 hF225 38 (.pointer (some ⟨b6, 5, none⟩)) ?_; intro a226 hF227; clear hF225
   refine l1 hF227 hM206 39 0 5 (.slice ao1 u0.Data.length cap2) rfl rfl ?_; intro a228 hF229; clear hF227
   have hc230 := hp223.1; have hp231 := hp223.2; clear hp223
   refine fcl hF229 hM206 (str (ofb u0.Data)) 90 #[.slice ao1 u0.Data.length cap2] (nog rfl _) rfl (by kernel_rfl) (fun _ => by kernel_rfl) (rofb_fun u0.Data hc230 ao1 cap2 _ _ hs3 hg5 hM206.fz) ?_; intro a232 wd234 hF233 hM235; clear hF229 hM206
   have hc236 := hp231.1; have hp237 := hp231.2; clear hp231
   refine st hF233 (str ((((([48] : List UInt8) ++ (fnameS u0)) ++ ([49, 48, 49, 48] : List UInt8)) ++ ((rrowS u0.Size 4).1)) ++ (ofb u0.Data))) (nog rfl _) rfl (by kernel_rfl) (stradd_run hF233 (g := []) rfl (by kernel_rfl) (by kernel_rfl) hc236 rfl) ?_; intro a238 hF239; clear hF233
   refine s1 hF239 2 (str ((((([48] : List UInt8) ++ (fnameS u0)) ++ ([49, 48, 49, 48] : List UInt8)) ++ ((rrowS u0.Size 4).1)) ++ (ofb u0.Data))) ?_; intro a240 hF241; clear hF239
   refine nlH (hQ217 _ _ ?_); clear hQ217 hQ217Q
   refine wp_ret ?_
   refine rt (fn := Tryz.f60) (v := str ((((([48] : List UInt8) ++ (fnameS u0)) ++ ([49, 48, 49, 48] : List UInt8)) ++ ((rrowS u0.Size 4).1)) ++ (ofb u0.Data))) hF241 (re1 hF241 (fn := Tryz.f60) rfl (by kernel_rfl)) ?_
   exact ⟨(((([48] : List UInt8) ++ (fnameS u0)) ++ ([49, 48, 49, 48] : List UInt8)) ++ ((rrowS u0.Size 4).1)) ++ (ofb u0.Data), rfl, hp237, hM235.below⟩
 ·
  have hp242 := hp23.2 hb33; clear hp23
  refine sqH ?_; intro hQ243Q hQ243
  refine s1 hF32 14 (.pointer (some ⟨b6, 1, none⟩)) ?_; intro a244 hF245; clear hF32
  refine l1 hF245 hM21 15 0 1 (.bool u0.Long) rfl rfl ?_; intro a246 hF247; clear hF245
  refine nlH (hQ243 _ _ ?_); clear hQ243 hQ243Q
  refine cd hF247 (t := u0.Long) (by kernel_rfl) (fun hb248 => ?_) (fun hb248 => ?_)
  ·
   have hp249 := hp242.1 hb248; clear hp242
   refine rgH ?_; intro hQ250Q hQ250
   refine s1 hF247 16 (str (([48] : List UInt8) ++ (fnameS u0))) ?_; intro a251 hF252; clear hF247
   have hc253 := hp249.1; have hp254 := hp249.2; clear hp249
   refine st hF252 (str ((([48] : List UInt8) ++ (fnameS u0)) ++ ([48, 48] : List UInt8))) (nog rfl _) rfl (by kernel_rfl) (stradd_run hF252 (g := []) rfl (by kernel_rfl) (by kernel_rfl) hc253 rfl) ?_; intro a255 hF256; clear hF252
   refine s1 hF256 3 (str ((([48] : List UInt8) ++ (fnameS u0)) ++ ([48, 48] : List UInt8))) ?_; intro a257 hF258; clear hF256
   refine nlH (hQ250 _ _ ?_); clear hQ250 hQ250Q
   refine thn ?_
   refine sqH ?_; intro hQ259Q hQ259
   refine s1 hF258 20 (.pointer (some ⟨b6, 4, none⟩)) ?_; intro a260 hF261; clear hF258
   refine l1 hF261 hM21 21 0 4 (.int .i64 u0.Size) rfl rfl ?_; intro a262 hF263; clear hF261
   refine s1 hF263 4 (.int .i64 u0.Size) ?_; intro a264 hF265; clear hF263
   refine nlH (hQ259 _ _ ?_); clear hQ259 hQ259Q
   refine wp_seq ?_
   have hF266 : Fr 42 [] [⟨1, [], .pointer (some ⟨b6, 0, none⟩)⟩, ⟨3, [], str ((([48] : List UInt8) ++ (fnameS u0)) ++ ([48, 48] : List UInt8))⟩, ⟨4, [], .int .i64 u0.Size⟩] a264 := hF265.reg; clear hF265
   refine sqH ?_; intro hQ267Q hQ267
   refine s1 hF266 22 (.pointer (some ⟨b6, 3, none⟩)) ?_; intro a268 hF269; clear hF266
   refine l1 hF269 hM21 23 0 3 (.bool u0.Remote) rfl rfl ?_; intro a270 hF271; clear hF269
   refine s1 hF271 24 (.bool (!u0.Remote)) ?_; intro a272 hF273; clear hF271
   refine nlH (hQ267 _ _ ?_); clear hQ267 hQ267Q
   refine cd hF273 (t := !u0.Remote) (by kernel_rfl) (fun hb274 => ?_) (fun hb274 => ?_)
   ·
    have hp275 := hp254.1 hb274; clear hp254
    have hF276 : Fr 42 [] [⟨1, [], .pointer (some ⟨b6, 0, none⟩)⟩, ⟨3, [], str ((([48] : List UInt8) ++ (fnameS u0)) ++ ([48, 48] : List UInt8))⟩] a272 := hF273.reg; clear hF273
    refine any_invE mixed [[], [], [1], [2], [0, 3], [0, 1, 2, 3, 4]] 6 (fun S a w1 => ∃ (ao281 : Option Addr) (cap282 : Nat) (ud4 : Value) (ud25 : Value) (ud26 : Value) (ud27 : Value) (ud28 : Value) (ud29 : Value) (rh0 : Res) (rh1 : Res) (Z303 : Fz), Fz.le Z Z303 ∧ Fr 42 [] [⟨1, [], .pointer (some ⟨b6, 0, none⟩)⟩, ⟨3, [], str ((([48] : List UInt8) ++ (fnameS u0)) ++ ([48, 48] : List UInt8))⟩, ⟨4, [], ud4⟩, ⟨25, [], ud25⟩, ⟨26, [], ud26⟩, ⟨27, [], ud27⟩, ⟨28, [], ud28⟩, ⟨29, [], ud29⟩] a ∧ Mem w.heap.size [] w Z [rh0, rh1] Z303 w1 ∧ (S 5 = true → ud4 = .int .i64 (sindexS rsizes (u0.Data.length : Int))) ∧ (S 0 = true → ud25 = .slice ao281 rsizes.length cap282) ∧ (S 1 = true → ud26 = .pointer (some ⟨b6, 5, none⟩)) ∧ (S 2 = true → ud27 = .slice ao1 u0.Data.length cap2) ∧ (S 3 = true → ud28 = .int .i64 (u0.Data.length : Int)) ∧ (S 4 = true → ud29 = .int .i64 (sindexS rsizes (u0.Data.length : Int))) ∧ (rh0 = .row b6 [.int .i64 u0.ID, .bool u0.Long, .bool u0.Fast, .bool u0.Remote, .int .i64 u0.Size, .slice ao1 u0.Data.length cap2] 24) ∧ (S 0 = false → rh1 = .nil) ∧ (S 0 = true → S 4 = false → rh1 = .own (tyInt .i64) 3 ao281 cap282 rsizes) ∧ (S 4 = true → rh1 = .nil) ∧ (S 4 = true → SlR (tyInt .i64) Z303 ao281 cap282 rsizes)) ?h0 ?hs ?hE
    case h0 =>
     have hF305 := hF276.any 4
     have hF306 := hF305.any 25
     have hF307 := hF306.any 26
     have hF308 := hF307.any 27
     have hF309 := hF308.any 28
     have hF310 := hF309.any 29
     have hM311 := hM21.nilRes
     have hM312 := (hM311.perm ((pk 1 rfl).trans (lpr.cons _))).drew
     exact ⟨none, 0, a272.tmps.getD 4 undef, a272.tmps.getD 25 undef, a272.tmps.getD 26 undef, a272.tmps.getD 27 undef, a272.tmps.getD 28 undef, a272.tmps.getD 29 undef, .row b6 [.int .i64 u0.ID, .bool u0.Long, .bool u0.Fast, .bool u0.Remote, .int .i64 u0.Size, .slice ao1 u0.Data.length cap2] 24, .nil, Z, Fz.le.refl _, hF310.reg, hM312, ff, ff, ff, ff, ff, ff, rfl, kf, ff, ff, ff⟩
    case hs =>
     intro S hcl i o hil hi hSi hpre a w1 hI; refine Go.Sy.hid ?_; intro G hG; obtain ⟨ao281, cap282, ud4, ud25, ud26, ud27, ud28, ud29, rh0, rh1, Z303, hle304, hFx, hMx, cu4, cu25, cu26, cu27, cu28, cu29, cr0_0, cr1_0, cr1_1, cr1_2, hI⟩ := hI; have cf0 := hI; clear hI
     have hcase : i = 0 ∨ i = 1 ∨ i = 2 ∨ i = 3 ∨ i = 4 ∨ i = 5 := by clear hi; omega
     rcases hcase with rfl | rfl | rfl | rfl | rfl | rfl
     ·
      obtain rfl := oj hi
      have hx0 := hSi
      have hx4 := ngF hcl 4 0 hx0
      have hx5 := ngF hcl 5 0 hx0
      obtain rfl := cr0_0
      obtain rfl := cr1_0 hx0
      refine hG (any_step ?_); clear hG G; intro A J hJ
      have hle0 := Fz.le.trans hle0 hle304
      have hzst := Fz.le.refl Z303
      have hs313 := hs3.mono hle304
      have hs314 := hg5.mono hle304
      have hM315 := hMx.keep (List.Sublist.cons_cons _ (List.Sublist.cons _ (List.Sublist.slnil))); clear hMx
      refine cl hFx 48 #[] (nog rfl _) rfl (by kernel_rfl) (by kernel_rfl) ?_
      refine (rsizes_fun  _ _ hM315.fz).mono ?_; rintro _ wd316 ⟨ao320, cap321, Z322, rfl, hm⟩; refine ⟨_, rfl, ?_⟩; intro a317 hF318; have hM319 := hM315.callZ hm; have hle323 := hm.ext.le; clear hm hM315 hFx
      replace hzst := hzst.mono hle323
      replace hs313 := hs313.mono hle323
      replace hs314 := hs314.mono hle323
      replace hle0 := Fz.le.trans hle0 hle323
      have hM324 : Mem w.heap.size [] w Z [.own (tyInt .i64) 3 ao320 cap321 rsizes, .row b6 [.int .i64 u0.ID, .bool u0.Long, .bool u0.Fast, .bool u0.Remote, .int .i64 u0.Size, .slice ao1 u0.Data.length cap2] 24] Z322 wd316 := hM319; clear hM319
      refine nl (qnI (hJ _ _ ?_)); clear hJ J
      exact ⟨ao320, cap321, ud4, .slice ao320 rsizes.length cap321, ud26, ud27, ud28, ud29, .row b6 [.int .i64 u0.ID, .bool u0.Long, .bool u0.Fast, .bool u0.Remote, .int .i64 u0.Size, .slice ao1 u0.Data.length cap2] 24, .own (tyInt .i64) 3 ao320 cap321 rsizes, Z322, hle304.trans hzst, hF318.reg, hM324.perm ((pk 1 rfl).trans (lpr.cons _)), (nt hx5), kf, cu26, cu27, cu28, (nt hx4), rfl, nu, kf2, (nt hx4), (nt hx4)⟩
     ·
      obtain rfl := oj hi
      have hx1 := hSi
      have hx2 := ngF hcl 2 1 hx1
      have hx3 := ngF hcl 3 2 hx2
      have hx4 := ngF hcl 4 3 hx3
      have hx5 := ngF hcl 5 1 hx1
      obtain rfl := cr0_0
      refine hG (any_step ?_); clear hG G; intro A J hJ
      have hle0 := Fz.le.trans hle0 hle304
      have hzst := Fz.le.refl Z303
      have hs326 := hs3.mono hle304
      have hs327 := hg5.mono hle304
      refine s1 hFx 26 (.pointer (some ⟨b6, 5, none⟩)) ?_; intro a328 hF329; clear hFx
      refine nl (qnI (hJ _ _ ?_)); clear hJ J
      exact ⟨ao281, cap282, ud4, ud25, .pointer (some ⟨b6, 5, none⟩), ud27, ud28, ud29, .row b6 [.int .i64 u0.ID, .bool u0.Long, .bool u0.Fast, .bool u0.Remote, .int .i64 u0.Size, .slice ao1 u0.Data.length cap2] 24, rh1, Z303, hle304, hF329.reg, hMx.perm lpr, (nt hx5), cu25, kf, (nt hx2), (nt hx3), (nt hx4), rfl, cr1_0, cr1_1, (nt hx4), (nt hx4)⟩
     ·
      obtain rfl := oj hi
      have hx1 := hpre 1 (by kernel_rfl)
      have hx2 := hSi
      have hx3 := ngF hcl 3 2 hx2
      have hx4 := ngF hcl 4 3 hx3
      have hx5 := ngF hcl 5 2 hx2
      obtain rfl := cu26 hx1
      obtain rfl := cr0_0
      refine hG (any_step ?_); clear hG G; intro A J hJ
      have hle0 := Fz.le.trans hle0 hle304
      have hzst := Fz.le.refl Z303
      have hs331 := hs3.mono hle304
      have hs332 := hg5.mono hle304
      refine l1 hFx hMx 27 0 5 (.slice ao1 u0.Data.length cap2) rfl rfl ?_; intro a333 hF334; clear hFx
      refine nl (qnI (hJ _ _ ?_)); clear hJ J
      exact ⟨ao281, cap282, ud4, ud25, .pointer (some ⟨b6, 5, none⟩), .slice ao1 u0.Data.length cap2, ud28, ud29, .row b6 [.int .i64 u0.ID, .bool u0.Long, .bool u0.Fast, .bool u0.Remote, .int .i64 u0.Size, .slice ao1 u0.Data.length cap2] 24, rh1, Z303, hle304, hF334.reg, hMx.perm lpr, (nt hx5), cu25, kf, kf, (nt hx3), (nt hx4), rfl, cr1_0, cr1_1, (nt hx4), (nt hx4)⟩
     ·
      obtain rfl := oj hi
      have hx2 := hpre 2 (by kernel_rfl)
      have hx1 := hcl 2 1 (by kernel_rfl) hx2
      have hx3 := hSi
      have hx4 := ngF hcl 4 3 hx3
      have hx5 := ngF hcl 5 3 hx3
      obtain rfl := cu26 hx1
      obtain rfl := cu27 hx2
      obtain rfl := cr0_0
      refine hG (any_step ?_); clear hG G; intro A J hJ
      have hle0 := Fz.le.trans hle0 hle304
      have hzst := Fz.le.refl Z303
      have hs336 := hs3.mono hle304
      have hs337 := hg5.mono hle304
      refine s1 hFx 28 (.int .i64 (u0.Data.length : Int)) ?_; intro a338 hF339; clear hFx
      refine nl (qnI (hJ _ _ ?_)); clear hJ J
      exact ⟨ao281, cap282, ud4, ud25, .pointer (some ⟨b6, 5, none⟩), .slice ao1 u0.Data.length cap2, .int .i64 (u0.Data.length : Int), ud29, .row b6 [.int .i64 u0.ID, .bool u0.Long, .bool u0.Fast, .bool u0.Remote, .int .i64 u0.Size, .slice ao1 u0.Data.length cap2] 24, rh1, Z303, hle304, hF339.reg, hMx.perm lpr, (nt hx5), cu25, kf, kf, kf, (nt hx4), rfl, cr1_0, cr1_1, (nt hx4), (nt hx4)⟩
     ·
      obtain rfl := oj hi
      have hx3 := hpre 3 (by kernel_rfl)
      have hx0 := hpre 0 (by kernel_rfl)
      have hx2 := hcl 3 2 (by kernel_rfl) hx3
      have hx1 := hcl 2 1 (by kernel_rfl) hx2
      have hx4 := hSi
      have hx5 := ngF hcl 5 4 hx4
      obtain rfl := cu25 hx0
      obtain rfl := cu26 hx1
      obtain rfl := cu27 hx2
      obtain rfl := cu28 hx3
      obtain rfl := cr0_0
      obtain rfl := cr1_1 hx0 hx4
      refine hG (any_step ?_); clear hG G; intro A J hJ
      have hle0 := Fz.le.trans hle0 hle304
      have hzst := Fz.le.refl Z303
      have hs341 := hs3.mono hle304
      have hs342 := hg5.mono hle304
      obtain ⟨Z343, hle344, hM345, hs346⟩ := hMx.freeze 1 rfl
      replace hzst := hzst.mono hle344
      replace hs341 := hs341.mono hle344
      replace hs342 := hs342.mono hle344
      replace hle0 := Fz.le.trans hle0 hle344
      have hM347 : Mem w.heap.size [] w Z [.row b6 [.int .i64 u0.ID, .bool u0.Long, .bool u0.Fast, .bool u0.Remote, .int .i64 u0.Size, .slice ao1 u0.Data.length cap2] 24] Z343 w1 := hM345; clear hM345
      refine fcl hFx hM347 (.int .i64 (sindexS rsizes (u0.Data.length : Int))) 27 #[.slice ao281 rsizes.length cap282, .int .i64 (u0.Data.length : Int)] (nog rfl _) rfl (by kernel_rfl) (fun _ => by kernel_rfl) (sindex_fun rsizes (u0.Data.length : Int) ao281 cap282 _ _ hs346 hM347.fz) ?_; intro a348 wd350 hF349 hM351; clear hFx hM347
      refine nl (qnI (hJ _ _ ?_)); clear hJ J
      have hM352 := hM351.nilRes
      exact ⟨ao281, cap282, ud4, .slice ao281 rsizes.length cap282, .pointer (some ⟨b6, 5, none⟩), .slice ao1 u0.Data.length cap2, .int .i64 (u0.Data.length : Int), .int .i64 (sindexS rsizes (u0.Data.length : Int)), .row b6 [.int .i64 u0.ID, .bool u0.Long, .bool u0.Fast, .bool u0.Remote, .int .i64 u0.Size, .slice ao1 u0.Data.length cap2] 24, .nil, Z343, hle304.trans hzst, hF349.reg, hM352.perm ((pk 1 rfl).trans (lpr.cons _)), (nt hx5), kf, kf, kf, kf, kf, rfl, (tn hx0), (fun _ => nu), kf, (fun _ => hs346)⟩
     ·
      obtain rfl := oj hi
      have hx4 := hpre 4 (by kernel_rfl)
      have hx3 := hpre 3 (by kernel_rfl)
      have hx2 := hpre 2 (by kernel_rfl)
      have hx1 := hpre 1 (by kernel_rfl)
      have hx0 := hpre 0 (by kernel_rfl)
      have hx5 := hSi
      obtain rfl := cu25 hx0
      obtain rfl := cu26 hx1
      obtain rfl := cu27 hx2
      obtain rfl := cu28 hx3
      obtain rfl := cu29 hx4
      obtain rfl := cr0_0
      obtain rfl := cr1_2 hx4
      refine hG (any_step ?_); clear hG G; intro A J hJ
      have hle0 := Fz.le.trans hle0 hle304
      have hzst := Fz.le.refl Z303
      have hs354 := hs3.mono hle304
      have hs355 := hg5.mono hle304
      have hs356 := cf0 hx4
      have hM357 := hMx.keep (List.Sublist.cons_cons _ (List.Sublist.cons _ (List.Sublist.slnil))); clear hMx
      refine s1 hFx 4 (.int .i64 (sindexS rsizes (u0.Data.length : Int))) ?_; intro a358 hF359; clear hFx
      refine nl (qnI (hJ _ _ ?_)); clear hJ J
      have hM360 := hM357.nilRes
      exact ⟨ao281, cap282, .int .i64 (sindexS rsizes (u0.Data.length : Int)), .slice ao281 rsizes.length cap282, .pointer (some ⟨b6, 5, none⟩), .slice ao1 u0.Data.length cap2, .int .i64 (u0.Data.length : Int), .int .i64 (sindexS rsizes (u0.Data.length : Int)), .row b6 [.int .i64 u0.ID, .bool u0.Long, .bool u0.Fast, .bool u0.Remote, .int .i64 u0.Size, .slice ao1 u0.Data.length cap2] 24, .nil, Z303, hle304, hF359.reg, hM360.perm ((pk 1 rfl).trans (lpr.cons _)), kf, kf, kf, kf, kf, kf, rfl, (tn hx0), (fun _ => tn hx4), kf, (fun _ => hs356)⟩
    case hE =>
     intro S hS a362 wd363 hI; refine Go.Sy.hid ?_; intro G hG; obtain ⟨ao281, cap282, ud4, ud25, ud26, ud27, ud28, ud29, rh0, rh1, Z303, hle304, hFx, hMx, cu4, cu25, cu26, cu27, cu28, cu29, cr0_0, cr1_0, cr1_1, cr1_2, hI⟩ := hI; have cf0 := hI; clear hI; refine hG ?_; clear hG G
     obtain rfl := cu4 (hS 5 (by decide))
     obtain rfl := cu25 (hS 0 (by decide))
     obtain rfl := cu26 (hS 1 (by decide))
     obtain rfl := cu27 (hS 2 (by decide))
     obtain rfl := cu28 (hS 3 (by decide))
     obtain rfl := cu29 (hS 4 (by decide))
     obtain rfl := cr0_0
     obtain rfl := cr1_2 (hS 4 (by decide))
     have hle0 := Fz.le.trans hle0 hle304
     have hs364 := hs3.mono hle304
     have hs365 := hg5.mono hle304
     have hs366 := cf0 (hS 4 (by decide))
     have hMx := hMx.keep (List.Sublist.cons_cons _ (List.Sublist.cons _ (List.Sublist.slnil)))
     refine thn ?_
     have hF367 : Fr 42 [] [⟨1, [], .pointer (some ⟨b6, 0, none⟩)⟩, ⟨3, [], str ((([48] : List UInt8) ++ (fnameS u0)) ++ ([48, 48] : List UInt8))⟩, ⟨4, [], .int .i64 (sindexS rsizes (u0.Data.length : Int))⟩] a362 := hFx.reg; clear hFx
     refine sqH ?_; intro hQ368Q hQ368
     refine s1 hF367 31 (.int .i64 (sindexS rsizes (u0.Data.length : Int))) ?_; intro a369 hF370; clear hF367
     have hc371 := hp275.1; have hp372 := hp275.2; clear hp275
     refine fcl hF370 hMx (.tuple #[str ((rrowS (sindexS rsizes (u0.Data.length : Int)) 4).1), .bool ((rrowS (sindexS rsizes (u0.Data.length : Int)) 4).2)]) 59 #[.int .i64 (sindexS rsizes (u0.Data.length : Int)), .int .i64 4] (nog rfl _) rfl (by kernel_rfl) (fun _ => by kernel_rfl) (rrow_fun (sindexS rsizes (u0.Data.length : Int)) 4 hc371 _ _ hs365 hMx.fz) ?_; intro a373 wd375 hF374 hM376; clear hF370 hMx
     refine s1 hF374 30 (.tuple #[str ((rrowS (sindexS rsizes (u0.Data.length : Int)) 4).1), .bool ((rrowS (sindexS rsizes (u0.Data.length : Int)) 4).2)]) ?_; intro a377 hF378; clear hF374
     refine s1 hF378 33 (str ((rrowS (sindexS rsizes (u0.Data.length : Int)) 4).1)) ?_; intro a379 hF380; clear hF378
     refine s1 hF380 34 (.bool ((rrowS (sindexS rsizes (u0.Data.length : Int)) 4).2)) ?_; intro a381 hF382; clear hF380
     refine s1 hF382 5 (str ((rrowS (sindexS rsizes (u0.Data.length : Int)) 4).1)) ?_; intro a383 hF384; clear hF382
     refine s1 hF384 6 (.bool ((rrowS (sindexS rsizes (u0.Data.length : Int)) 4).2)) ?_; intro a385 hF386; clear hF384
     refine nlH (hQ368 _ _ ?_); clear hQ368 hQ368Q
     refine sqH ?_; intro hQ387Q hQ387
     refine s1 hF386 35 (str ((([48] : List UInt8) ++ (fnameS u0)) ++ ([48, 48] : List UInt8))) ?_; intro a388 hF389; clear hF386
     refine s1 hF389 36 (str ((rrowS (sindexS rsizes (u0.Data.length : Int)) 4).1)) ?_; intro a390 hF391; clear hF389
     have hc392 := hp372.1; have hp393 := hp372.2; clear hp372
     refine st hF391 (str (((([48] : List UInt8) ++ (fnameS u0)) ++ ([48, 48] : List UInt8)) ++ ((rrowS (sindexS rsizes (u0.Data.length : Int)) 4).1))) (nog rfl _) rfl (by kernel_rfl) (stradd_run hF391 (g := []) rfl (by kernel_rfl) (by kernel_rfl) hc392 rfl) ?_; intro a394 hF395; clear hF391
     refine s1 hF395 38 (.pointer (some ⟨b6, 5, none⟩)) ?_; intro a396 hF397; clear hF395
     refine l1 hF397 hM376 39 0 5 (.slice ao1 u0.Data.length cap2) rfl rfl ?_; intro a398 hF399; clear hF397
     have hc400 := hp393.1; have hp401 := hp393.2; clear hp393
     refine fcl hF399 hM376 (str (ofb u0.Data)) 90 #[.slice ao1 u0.Data.length cap2] (nog rfl _) rfl (by kernel_rfl) (fun _ => by kernel_rfl) (rofb_fun u0.Data hc400 ao1 cap2 _ _ hs364 hs365 hM376.fz) ?_; intro a402 wd404 hF403 hM405; clear hF399 hM376
     have hc406 := hp401.1; have hp407 := hp401.2; clear hp401
     refine st hF403 (str ((((([48] : List UInt8) ++ (fnameS u0)) ++ ([48, 48] : List UInt8)) ++ ((rrowS (sindexS rsizes (u0.Data.length : Int)) 4).1)) ++ (ofb u0.Data))) (nog rfl _) rfl (by kernel_rfl) (stradd_run hF403 (g := []) rfl (by kernel_rfl) (by kernel_rfl) hc406 rfl) ?_; intro a408 hF409; clear hF403
     refine s1 hF409 2 (str ((((([48] : List UInt8) ++ (fnameS u0)) ++ ([48, 48] : List UInt8)) ++ ((rrowS (sindexS rsizes (u0.Data.length : Int)) 4).1)) ++ (ofb u0.Data))) ?_; intro a410 hF411; clear hF409
     refine nlH (hQ387 _ _ ?_); clear hQ387 hQ387Q
     refine wp_ret ?_
     refine rt (fn := Tryz.f60) (v := str ((((([48] : List UInt8) ++ (fnameS u0)) ++ ([48, 48] : List UInt8)) ++ ((rrowS (sindexS rsizes (u0.Data.length : Int)) 4).1)) ++ (ofb u0.Data))) hF411 (re1 hF411 (fn := Tryz.f60) rfl (by kernel_rfl)) ?_
     exact ⟨(((([48] : List UInt8) ++ (fnameS u0)) ++ ([48, 48] : List UInt8)) ++ ((rrowS (sindexS rsizes (u0.Data.length : Int)) 4).1)) ++ (ofb u0.Data), rfl, hp407, hM405.below⟩
   ·
    have hp412 := hp254.2 hb274; clear hp254
    refine wp_skip ?_
    refine thn ?_
    refine sqH ?_; intro hQ413Q hQ413
    refine s1 hF273 31 (.int .i64 u0.Size) ?_; intro a414 hF415; clear hF273
    have hc416 := hp412.1; have hp417 := hp412.2; clear hp412
    refine fcl hF415 hM21 (.tuple #[str ((rrowS u0.Size 4).1), .bool ((rrowS u0.Size 4).2)]) 59 #[.int .i64 u0.Size, .int .i64 4] (nog rfl _) rfl (by kernel_rfl) (fun _ => by kernel_rfl) (rrow_fun u0.Size 4 hc416 _ _ hg5 hM21.fz) ?_; intro a418 wd420 hF419 hM421; clear hF415 hM21
    refine s1 hF419 30 (.tuple #[str ((rrowS u0.Size 4).1), .bool ((rrowS u0.Size 4).2)]) ?_; intro a422 hF423; clear hF419
    refine s1 hF423 33 (str ((rrowS u0.Size 4).1)) ?_; intro a424 hF425; clear hF423
    refine s1 hF425 34 (.bool ((rrowS u0.Size 4).2)) ?_; intro a426 hF427; clear hF425
    refine s1 hF427 5 (str ((rrowS u0.Size 4).1)) ?_; intro a428 hF429; clear hF427
    refine s1 hF429 6 (.bool ((rrowS u0.Size 4).2)) ?_; intro a430 hF431; clear hF429
    refine nlH (hQ413 _ _ ?_); clear hQ413 hQ413Q
    refine sqH ?_; intro hQ432Q hQ432
    refine s1 hF431 35 (str ((([48] : List UInt8) ++ (fnameS u0)) ++ ([48, 48] : List UInt8))) ?_; intro a433 hF434; clear hF431
    refine s1 hF434 36 (str ((rrowS u0.Size 4).1)) ?_; intro a435 hF436; clear hF434
    have hc437 := hp417.1; have hp438 := hp417.2; clear hp417
    refine st hF436 (str (((([48] : List UInt8) ++ (fnameS u0)) ++ ([48, 48] : List UInt8)) ++ ((rrowS u0.Size 4).1))) (nog rfl _) rfl (by kernel_rfl) (stradd_run hF436 (g := []) rfl (by kernel_rfl) (by kernel_rfl) hc437 rfl) ?_; intro a439 hF440; clear hF436
    refine s1 hF440 38 (.pointer (some ⟨b6, 5, none⟩)) ?_; intro a441 hF442; clear hF440
    refine l1 hF442 hM421 39 0 5 (.slice ao1 u0.Data.length cap2) rfl rfl ?_; intro a443 hF444; clear hF442
    have hc445 := hp438.1; have hp446 := hp438.2; clear hp438
    refine fcl hF444 hM421 (str (ofb u0.Data)) 90 #[.slice ao1 u0.Data.length cap2] (nog rfl _) rfl (by kernel_rfl) (fun _ => by kernel_rfl) (rofb_fun u0.Data hc445 ao1 cap2 _ _ hs3 hg5 hM421.fz) ?_; intro a447 wd449 hF448 hM450; clear hF444 hM421
    have hc451 := hp446.1; have hp452 := hp446.2; clear hp446
    refine st hF448 (str ((((([48] : List UInt8) ++ (fnameS u0)) ++ ([48, 48] : List UInt8)) ++ ((rrowS u0.Size 4).1)) ++ (ofb u0.Data))) (nog rfl _) rfl (by kernel_rfl) (stradd_run hF448 (g := []) rfl (by kernel_rfl) (by kernel_rfl) hc451 rfl) ?_; intro a453 hF454; clear hF448
    refine s1 hF454 2 (str ((((([48] : List UInt8) ++ (fnameS u0)) ++ ([48, 48] : List UInt8)) ++ ((rrowS u0.Size 4).1)) ++ (ofb u0.Data))) ?_; intro a455 hF456; clear hF454
    refine nlH (hQ432 _ _ ?_); clear hQ432 hQ432Q
    refine wp_ret ?_
    refine rt (fn := Tryz.f60) (v := str ((((([48] : List UInt8) ++ (fnameS u0)) ++ ([48, 48] : List UInt8)) ++ ((rrowS u0.Size 4).1)) ++ (ofb u0.Data))) hF456 (re1 hF456 (fn := Tryz.f60) rfl (by kernel_rfl)) ?_
    exact ⟨(((([48] : List UInt8) ++ (fnameS u0)) ++ ([48, 48] : List UInt8)) ++ ((rrowS u0.Size 4).1)) ++ (ofb u0.Data), rfl, hp452, hM450.below⟩
  ·
   have hp457 := hp242.2 hb248; clear hp242
   refine rgH ?_; intro hQ458Q hQ458
   refine s1 hF247 18 (str (([48] : List UInt8) ++ (fnameS u0))) ?_; intro a459 hF460; clear hF247
   have hc461 := hp457.1; have hp462 := hp457.2; clear hp457
   refine st hF460 (str ((([48] : List UInt8) ++ (fnameS u0)) ++ ([48] : List UInt8))) (nog rfl _) rfl (by kernel_rfl) (stradd_run hF460 (g := []) rfl (by kernel_rfl) (by kernel_rfl) hc461 rfl) ?_; intro a463 hF464; clear hF460
   refine s1 hF464 3 (str ((([48] : List UInt8) ++ (fnameS u0)) ++ ([48] : List UInt8))) ?_; intro a465 hF466; clear hF464
   refine nlH (hQ458 _ _ ?_); clear hQ458 hQ458Q
   refine thn ?_
   refine sqH ?_; intro hQ467Q hQ467
   refine s1 hF466 20 (.pointer (some ⟨b6, 4, none⟩)) ?_; intro a468 hF469; clear hF466
   refine l1 hF469 hM21 21 0 4 (.int .i64 u0.Size) rfl rfl ?_; intro a470 hF471; clear hF469
   refine s1 hF471 4 (.int .i64 u0.Size) ?_; intro a472 hF473; clear hF471
   refine nlH (hQ467 _ _ ?_); clear hQ467 hQ467Q
   refine wp_seq ?_
   have hF474 : Fr 42 [] [⟨1, [], .pointer (some ⟨b6, 0, none⟩)⟩, ⟨3, [], str ((([48] : List UInt8) ++ (fnameS u0)) ++ ([48] : List UInt8))⟩, ⟨4, [], .int .i64 u0.Size⟩] a472 := hF473.reg; clear hF473
   refine sqH ?_; intro hQ475Q hQ475
   refine s1 hF474 22 (.pointer (some ⟨b6, 3, none⟩)) ?_; intro a476 hF477; clear hF474
   refine l1 hF477 hM21 23 0 3 (.bool u0.Remote) rfl rfl ?_; intro a478 hF479; clear hF477
   refine s1 hF479 24 (.bool (!u0.Remote)) ?_; intro a480 hF481; clear hF479
   refine nlH (hQ475 _ _ ?_); clear hQ475 hQ475Q
   refine cd hF481 (t := !u0.Remote) (by kernel_rfl) (fun hb482 => ?_) (fun hb482 => ?_)
   ·
    have hp483 := hp462.1 hb482; clear hp462
    have hF484 : Fr 42 [] [⟨1, [], .pointer (some ⟨b6, 0, none⟩)⟩, ⟨3, [], str ((([48] : List UInt8) ++ (fnameS u0)) ++ ([48] : List UInt8))⟩] a480 := hF481.reg; clear hF481
    refine any_invE mixed [[], [], [1], [2], [0, 3], [0, 1, 2, 3, 4]] 6 (fun S a w1 => ∃ (ao489 : Option Addr) (cap490 : Nat) (ud4 : Value) (ud25 : Value) (ud26 : Value) (ud27 : Value) (ud28 : Value) (ud29 : Value) (rh0 : Res) (rh1 : Res) (Z511 : Fz), Fz.le Z Z511 ∧ Fr 42 [] [⟨1, [], .pointer (some ⟨b6, 0, none⟩)⟩, ⟨3, [], str ((([48] : List UInt8) ++ (fnameS u0)) ++ ([48] : List UInt8))⟩, ⟨4, [], ud4⟩, ⟨25, [], ud25⟩, ⟨26, [], ud26⟩, ⟨27, [], ud27⟩, ⟨28, [], ud28⟩, ⟨29, [], ud29⟩] a ∧ Mem w.heap.size [] w Z [rh0, rh1] Z511 w1 ∧ (S 5 = true → ud4 = .int .i64 (sindexS rsizes (u0.Data.length : Int))) ∧ (S 0 = true → ud25 = .slice ao489 rsizes.length cap490) ∧ (S 1 = true → ud26 = .pointer (some ⟨b6, 5, none⟩)) ∧ (S 2 = true → ud27 = .slice ao1 u0.Data.length cap2) ∧ (S 3 = true → ud28 = .int .i64 (u0.Data.length : Int)) ∧ (S 4 = true → ud29 = .int .i64 (sindexS rsizes (u0.Data.length : Int))) ∧ (rh0 = .row b6 [.int .i64 u0.ID, .bool u0.Long, .bool u0.Fast, .bool u0.Remote, .int .i64 u0.Size, .slice ao1 u0.Data.length cap2] 24) ∧ (S 0 = false → rh1 = .nil) ∧ (S 0 = true → S 4 = false → rh1 = .own (tyInt .i64) 3 ao489 cap490 rsizes) ∧ (S 4 = true → rh1 = .nil) ∧ (S 4 = true → SlR (tyInt .i64) Z511 ao489 cap490 rsizes)) ?h0 ?hs ?hE
    case h0 =>
     have hF513 := hF484.any 4
     have hF514 := hF513.any 25
     have hF515 := hF514.any 26
     have hF516 := hF515.any 27
     have hF517 := hF516.any 28
     have hF518 := hF517.any 29
     have hM519 := hM21.nilRes
     have hM520 := (hM519.perm ((pk 1 rfl).trans (lpr.cons _))).drew
     exact ⟨none, 0, a480.tmps.getD 4 undef, a480.tmps.getD 25 undef, a480.tmps.getD 26 undef, a480.tmps.getD 27 undef, a480.tmps.getD 28 undef, a480.tmps.getD 29 undef, .row b6 [.int .i64 u0.ID, .bool u0.Long, .bool u0.Fast, .bool u0.Remote, .int .i64 u0.Size, .slice ao1 u0.Data.length cap2] 24, .nil, Z, Fz.le.refl _, hF518.reg, hM520, ff, ff, ff, ff, ff, ff, rfl, kf, ff, ff, ff⟩
    case hs =>
     intro S hcl i o hil hi hSi hpre a w1 hI; refine Go.Sy.hid ?_; intro G hG; obtain ⟨ao489, cap490, ud4, ud25, ud26, ud27, ud28, ud29, rh0, rh1, Z511, hle512, hFx, hMx, cu4, cu25, cu26, cu27, cu28, cu29, cr0_0, cr1_0, cr1_1, cr1_2, hI⟩ := hI; have cf0 := hI; clear hI
     have hcase : i = 0 ∨ i = 1 ∨ i = 2 ∨ i = 3 ∨ i = 4 ∨ i = 5 := by clear hi; omega
     rcases hcase with rfl | rfl | rfl | rfl | rfl | rfl
     ·
      obtain rfl := oj hi
      have hx0 := hSi
      have hx4 := ngF hcl 4 0 hx0
      have hx5 := ngF hcl 5 0 hx0
      obtain rfl := cr0_0
      obtain rfl := cr1_0 hx0
      refine hG (any_step ?_); clear hG G; intro A J hJ
      have hle0 := Fz.le.trans hle0 hle512
      have hzst := Fz.le.refl Z511
      have hs521 := hs3.mono hle512
      have hs522 := hg5.mono hle512
      have hM523 := hMx.keep (List.Sublist.cons_cons _ (List.Sublist.cons _ (List.Sublist.slnil))); clear hMx
      refine cl hFx 48 #[] (nog rfl _) rfl (by kernel_rfl) (by kernel_rfl) ?_
      refine (rsizes_fun  _ _ hM523.fz).mono ?_; rintro _ wd524 ⟨ao528, cap529, Z530, rfl, hm⟩; refine ⟨_, rfl, ?_⟩; intro a525 hF526; have hM527 := hM523.callZ hm; have hle531 := hm.ext.le; clear hm hM523 hFx
      replace hzst := hzst.mono hle531
      replace hs521 := hs521.mono hle531
      replace hs522 := hs522.mono hle531
      replace hle0 := Fz.le.trans hle0 hle531
      have hM532 : Mem w.heap.size [] w Z [.own (tyInt .i64) 3 ao528 cap529 rsizes, .row b6 [.int .i64 u0.ID, .bool u0.Long, .bool u0.Fast, .bool u0.Remote, .int .i64 u0.Size, .slice ao1 u0.Data.length cap2] 24] Z530 wd524 := hM527; clear hM527
      refine nl (qnI (hJ _ _ ?_)); clear hJ J
      exact ⟨ao528, cap529, ud4, .slice ao528 rsizes.length cap529, ud26, ud27, ud28, ud29, .row b6 [.int .i64 u0.ID, .bool u0.Long, .bool u0.Fast, .bool u0.Remote, .int .i64 u0.Size, .slice ao1 u0.Data.length cap2] 24, .own (tyInt .i64) 3 ao528 cap529 rsizes, Z530, hle512.trans hzst, hF526.reg, hM532.perm ((pk 1 rfl).trans (lpr.cons _)), (nt hx5), kf, cu26, cu27, cu28, (nt hx4), rfl, nu, kf2, (nt hx4), (nt hx4)⟩
     ·
      obtain rfl := oj hi
      have hx1 := hSi
      have hx2 := ngF hcl 2 1 hx1
      have hx3 := ngF hcl 3 2 hx2
      have hx4 := ngF hcl 4 3 hx3
      have hx5 := ngF hcl 5 1 hx1
      obtain rfl := cr0_0
      refine hG (any_step ?_); clear hG G; intro A J hJ
      have hle0 := Fz.le.trans hle0 hle512
      have hzst := Fz.le.refl Z511
      have hs534 := hs3.mono hle512
      have hs535 := hg5.mono hle512
      refine s1 hFx 26 (.pointer (some ⟨b6, 5, none⟩)) ?_; intro a536 hF537; clear hFx
      refine nl (qnI (hJ _ _ ?_)); clear hJ J
      exact ⟨ao489, cap490, ud4, ud25, .pointer (some ⟨b6, 5, none⟩), ud27, ud28, ud29, .row b6 [.int .i64 u0.ID, .bool u0.Long, .bool u0.Fast, .bool u0.Remote, .int .i64 u0.Size, .slice ao1 u0.Data.length cap2] 24, rh1, Z511, hle512, hF537.reg, hMx.perm lpr, (nt hx5), cu25, kf, (nt hx2), (nt hx3), (nt hx4), rfl, cr1_0, cr1_1, (nt hx4), (nt hx4)⟩
     ·
      obtain rfl := oj hi
      have hx1 := hpre 1 (by kernel_rfl)
      have hx2 := hSi
      have hx3 := ngF hcl 3 2 hx2
      have hx4 := ngF hcl 4 3 hx3
      have hx5 := ngF hcl 5 2 hx2
      obtain rfl := cu26 hx1
      obtain rfl := cr0_0
      refine hG (any_step ?_); clear hG G; intro A J hJ
      have hle0 := Fz.le.trans hle0 hle512
      have hzst := Fz.le.refl Z511
      have hs539 := hs3.mono hle512
      have hs540 := hg5.mono hle512
      refine l1 hFx hMx 27 0 5 (.slice ao1 u0.Data.length cap2) rfl rfl ?_; intro a541 hF542; clear hFx
      refine nl (qnI (hJ _ _ ?_)); clear hJ J
      exact ⟨ao489, cap490, ud4, ud25, .pointer (some ⟨b6, 5, none⟩), .slice ao1 u0.Data.length cap2, ud28, ud29, .row b6 [.int .i64 u0.ID, .bool u0.Long, .bool u0.Fast, .bool u0.Remote, .int .i64 u0.Size, .slice ao1 u0.Data.length cap2] 24, rh1, Z511, hle512, hF542.reg, hMx.perm lpr, (nt hx5), cu25, kf, kf, (nt hx3), (nt hx4), rfl, cr1_0, cr1_1, (nt hx4), (nt hx4)⟩
     ·
      obtain rfl := oj hi
      have hx2 := hpre 2 (by kernel_rfl)
      have hx1 := hcl 2 1 (by kernel_rfl) hx2
      have hx3 := hSi
      have hx4 := ngF hcl 4 3 hx3
      have hx5 := ngF hcl 5 3 hx3
      obtain rfl := cu26 hx1
      obtain rfl := cu27 hx2
      obtain rfl := cr0_0
      refine hG (any_step ?_); clear hG G; intro A J hJ
      have hle0 := Fz.le.trans hle0 hle512
      have hzst := Fz.le.refl Z511
      have hs544 := hs3.mono hle512
      have hs545 := hg5.mono hle512
      refine s1 hFx 28 (.int .i64 (u0.Data.length : Int)) ?_; intro a546 hF547; clear hFx
      refine nl (qnI (hJ _ _ ?_)); clear hJ J
      exact ⟨ao489, cap490, ud4, ud25, .pointer (some ⟨b6, 5, none⟩), .slice ao1 u0.Data.length cap2, .int .i64 (u0.Data.length : Int), ud29, .row b6 [.int .i64 u0.ID, .bool u0.Long, .bool u0.Fast, .bool u0.Remote, .int .i64 u0.Size, .slice ao1 u0.Data.length cap2] 24, rh1, Z511, hle512, hF547.reg, hMx.perm lpr, (nt hx5), cu25, kf, kf, kf, (nt hx4), rfl, cr1_0, cr1_1, (nt hx4), (nt hx4)⟩
     ·
      obtain rfl := oj hi
      have hx3 := hpre 3 (by kernel_rfl)
      have hx0 := hpre 0 (by kernel_rfl)
      have hx2 := hcl 3 2 (by kernel_rfl) hx3
      have hx1 := hcl 2 1 (by kernel_rfl) hx2
      have hx4 := hSi
      have hx5 := ngF hcl 5 4 hx4
      obtain rfl := cu25 hx0
      obtain rfl := cu26 hx1
      obtain rfl := cu27 hx2
      obtain rfl := cu28 hx3
      obtain rfl := cr0_0
      obtain rfl := cr1_1 hx0 hx4
      refine hG (any_step ?_); clear hG G; intro A J hJ
      have hle0 := Fz.le.trans hle0 hle512
      have hzst := Fz.le.refl Z511
      have hs549 := hs3.mono hle512
      have hs550 := hg5.mono hle512
      obtain ⟨Z551, hle552, hM553, hs554⟩ := hMx.freeze 1 rfl
      replace hzst := hzst.mono hle552
      replace hs549 := hs549.mono hle552
      replace hs550 := hs550.mono hle552
      replace hle0 := Fz.le.trans hle0 hle552
      have hM555 : Mem w.heap.size [] w Z [.row b6 [.int .i64 u0.ID, .bool u0.Long, .bool u0.Fast, .bool u0.Remote, .int .i64 u0.Size, .slice ao1 u0.Data.length cap2] 24] Z551 w1 := hM553; clear hM553
      refine fcl hFx hM555 (.int .i64 (sindexS rsizes (u0.Data.length : Int))) 27 #[.slice ao489 rsizes.length cap490, .int .i64 (u0.Data.length : Int)] (nog rfl _) rfl (by kernel_rfl) (fun _ => by kernel_rfl) (sindex_fun rsizes (u0.Data.length : Int) ao489 cap490 _ _ hs554 hM555.fz) ?_; intro a556 wd558 hF557 hM559; clear hFx hM555
      refine nl (qnI (hJ _ _ ?_)); clear hJ J
      have hM560 := hM559.nilRes
      exact ⟨ao489, cap490, ud4, .slice ao489 rsizes.length cap490, .pointer (some ⟨b6, 5, none⟩), .slice ao1 u0.Data.length cap2, .int .i64 (u0.Data.length : Int), .int .i64 (sindexS rsizes (u0.Data.length : Int)), .row b6 [.int .i64 u0.ID, .bool u0.Long, .bool u0.Fast, .bool u0.Remote, .int .i64 u0.Size, .slice ao1 u0.Data.length cap2] 24, .nil, Z551, hle512.trans hzst, hF557.reg, hM560.perm ((pk 1 rfl).trans (lpr.cons _)), (nt hx5), kf, kf, kf, kf, kf, rfl, (tn hx0), (fun _ => nu), kf, (fun _ => hs554)⟩
     ·
      obtain rfl := oj hi
      have hx4 := hpre 4 (by kernel_rfl)
      have hx3 := hpre 3 (by kernel_rfl)
      have hx2 := hpre 2 (by kernel_rfl)
      have hx1 := hpre 1 (by kernel_rfl)
      have hx0 := hpre 0 (by kernel_rfl)
      have hx5 := hSi
      obtain rfl := cu25 hx0
      obtain rfl := cu26 hx1
      obtain rfl := cu27 hx2
      obtain rfl := cu28 hx3
      obtain rfl := cu29 hx4
      obtain rfl := cr0_0
      obtain rfl := cr1_2 hx4
      refine hG (any_step ?_); clear hG G; intro A J hJ
      have hle0 := Fz.le.trans hle0 hle512
      have hzst := Fz.le.refl Z511
      have hs562 := hs3.mono hle512
      have hs563 := hg5.mono hle512
      have hs564 := cf0 hx4
      have hM565 := hMx.keep (List.Sublist.cons_cons _ (List.Sublist.cons _ (List.Sublist.slnil))); clear hMx
      refine s1 hFx 4 (.int .i64 (sindexS rsizes (u0.Data.length : Int))) ?_; intro a566 hF567; clear hFx
      refine nl (qnI (hJ _ _ ?_)); clear hJ J
      have hM568 := hM565.nilRes
      exact ⟨ao489, cap490, .int .i64 (sindexS rsizes (u0.Data.length : Int)), .slice ao489 rsizes.length cap490, .pointer (some ⟨b6, 5, none⟩), .slice ao1 u0.Data.length cap2, .int .i64 (u0.Data.length : Int), .int .i64 (sindexS rsizes (u0.Data.length : Int)), .row b6 [.int .i64 u0.ID, .bool u0.Long, .bool u0.Fast, .bool u0.Remote, .int .i64 u0.Size, .slice ao1 u0.Data.length cap2] 24, .nil, Z511, hle512, hF567.reg, hM568.perm ((pk 1 rfl).trans (lpr.cons _)), kf, kf, kf, kf, kf, kf, rfl, (tn hx0), (fun _ => tn hx4), kf, (fun _ => hs564)⟩
    case hE =>
     intro S hS a570 wd571 hI; refine Go.Sy.hid ?_; intro G hG; obtain ⟨ao489, cap490, ud4, ud25, ud26, ud27, ud28, ud29, rh0, rh1, Z511, hle512, hFx, hMx, cu4, cu25, cu26, cu27, cu28, cu29, cr0_0, cr1_0, cr1_1, cr1_2, hI⟩ := hI; have cf0 := hI; clear hI; refine hG ?_; clear hG G
     obtain rfl := cu4 (hS 5 (by decide))
     obtain rfl := cu25 (hS 0 (by decide))
     obtain rfl := cu26 (hS 1 (by decide))
     obtain rfl := cu27 (hS 2 (by decide))
     obtain rfl := cu28 (hS 3 (by decide))
     obtain rfl := cu29 (hS 4 (by decide))
     obtain rfl := cr0_0
     obtain rfl := cr1_2 (hS 4 (by decide))
     have hle0 := Fz.le.trans hle0 hle512
     have hs572 := hs3.mono hle512
     have hs573 := hg5.mono hle512
     have hs574 := cf0 (hS 4 (by decide))
     have hMx := hMx.keep (List.Sublist.cons_cons _ (List.Sublist.cons _ (List.Sublist.slnil)))
     refine thn ?_
     have hF575 : Fr 42 [] [⟨1, [], .pointer (some ⟨b6, 0, none⟩)⟩, ⟨3, [], str ((([48] : List UInt8) ++ (fnameS u0)) ++ ([48] : List UInt8))⟩, ⟨4, [], .int .i64 (sindexS rsizes (u0.Data.length : Int))⟩] a570 := hFx.reg; clear hFx
     refine sqH ?_; intro hQ576Q hQ576
     refine s1 hF575 31 (.int .i64 (sindexS rsizes (u0.Data.length : Int))) ?_; intro a577 hF578; clear hF575
     have hc579 := hp483.1; have hp580 := hp483.2; clear hp483
     refine fcl hF578 hMx (.tuple #[str ((rrowS (sindexS rsizes (u0.Data.length : Int)) 4).1), .bool ((rrowS (sindexS rsizes (u0.Data.length : Int)) 4).2)]) 59 #[.int .i64 (sindexS rsizes (u0.Data.length : Int)), .int .i64 4] (nog rfl _) rfl (by kernel_rfl) (fun _ => by kernel_rfl) (rrow_fun (sindexS rsizes (u0.Data.length : Int)) 4 hc579 _ _ hs573 hMx.fz) ?_; intro a581 wd583 hF582 hM584; clear hF578 hMx
     refine s1 hF582 30 (.tuple #[str ((rrowS (sindexS rsizes (u0.Data.length : Int)) 4).1), .bool ((rrowS (sindexS rsizes (u0.Data.length : Int)) 4).2)]) ?_; intro a585 hF586; clear hF582
     refine s1 hF586 33 (str ((rrowS (sindexS rsizes (u0.Data.length : Int)) 4).1)) ?_; intro a587 hF588; clear hF586
     refine s1 hF588 34 (.bool ((rrowS (sindexS rsizes (u0.Data.length : Int)) 4).2)) ?_; intro a589 hF590; clear hF588
     refine s1 hF590 5 (str ((rrowS (sindexS rsizes (u0.Data.length : Int)) 4).1)) ?_; intro a591 hF592; clear hF590
     refine s1 hF592 6 (.bool ((rrowS (sindexS rsizes (u0.Data.length : Int)) 4).2)) ?_; intro a593 hF594; clear hF592
     refine nlH (hQ576 _ _ ?_); clear hQ576 hQ576Q
     refine sqH ?_; intro hQ595Q hQ595
     refine s1 hF594 35 (str ((([48] : List UInt8) ++ (fnameS u0)) ++ ([48] : List UInt8))) ?_; intro a596 hF597; clear hF594
     refine s1 hF597 36 (str ((rrowS (sindexS rsizes (u0.Data.length : Int)) 4).1)) ?_; intro a598 hF599; clear hF597
     have hc600 := hp580.1; have hp601 := hp580.2; clear hp580
     refine st hF599 (str (((([48] : List UInt8) ++ (fnameS u0)) ++ ([48] : List UInt8)) ++ ((rrowS (sindexS rsizes (u0.Data.length : Int)) 4).1))) (nog rfl _) rfl (by kernel_rfl) (stradd_run hF599 (g := []) rfl (by kernel_rfl) (by kernel_rfl) hc600 rfl) ?_; intro a602 hF603; clear hF599
     refine s1 hF603 38 (.pointer (some ⟨b6, 5, none⟩)) ?_; intro a604 hF605; clear hF603
     refine l1 hF605 hM584 39 0 5 (.slice ao1 u0.Data.length cap2) rfl rfl ?_; intro a606 hF607; clear hF605
     have hc608 := hp601.1; have hp609 := hp601.2; clear hp601
     refine fcl hF607 hM584 (str (ofb u0.Data)) 90 #[.slice ao1 u0.Data.length cap2] (nog rfl _) rfl (by kernel_rfl) (fun _ => by kernel_rfl) (rofb_fun u0.Data hc608 ao1 cap2 _ _ hs572 hs573 hM584.fz) ?_; intro a610 wd612 hF611 hM613; clear hF607 hM584
     have hc614 := hp609.1; have hp615 := hp609.2; clear hp609
     refine st hF611 (str ((((([48] : List UInt8) ++ (fnameS u0)) ++ ([48] : List UInt8)) ++ ((rrowS (sindexS rsizes (u0.Data.length : Int)) 4).1)) ++ (ofb u0.Data))) (nog rfl _) rfl (by kernel_rfl) (stradd_run hF611 (g := []) rfl (by kernel_rfl) (by kernel_rfl) hc614 rfl) ?_; intro a616 hF617; clear hF611
     refine s1 hF617 2 (str ((((([48] : List UInt8) ++ (fnameS u0)) ++ ([48] : List UInt8)) ++ ((rrowS (sindexS rsizes (u0.Data.length : Int)) 4).1)) ++ (ofb u0.Data))) ?_; intro a618 hF619; clear hF617
     refine nlH (hQ595 _ _ ?_); clear hQ595 hQ595Q
     refine wp_ret ?_
     refine rt (fn := Tryz.f60) (v := str ((((([48] : List UInt8) ++ (fnameS u0)) ++ ([48] : List UInt8)) ++ ((rrowS (sindexS rsizes (u0.Data.length : Int)) 4).1)) ++ (ofb u0.Data))) hF619 (re1 hF619 (fn := Tryz.f60) rfl (by kernel_rfl)) ?_
     exact ⟨(((([48] : List UInt8) ++ (fnameS u0)) ++ ([48] : List UInt8)) ++ ((rrowS (sindexS rsizes (u0.Data.length : Int)) 4).1)) ++ (ofb u0.Data), rfl, hp615, hM613.below⟩
   ·
    have hp620 := hp462.2 hb482; clear hp462
    refine wp_skip ?_
    refine thn ?_
    refine sqH ?_; intro hQ621Q hQ621
    refine s1 hF481 31 (.int .i64 u0.Size) ?_; intro a622 hF623; clear hF481
    have hc624 := hp620.1; have hp625 := hp620.2; clear hp620
    refine fcl hF623 hM21 (.tuple #[str ((rrowS u0.Size 4).1), .bool ((rrowS u0.Size 4).2)]) 59 #[.int .i64 u0.Size, .int .i64 4] (nog rfl _) rfl (by kernel_rfl) (fun _ => by kernel_rfl) (rrow_fun u0.Size 4 hc624 _ _ hg5 hM21.fz) ?_; intro a626 wd628 hF627 hM629; clear hF623 hM21
    refine s1 hF627 30 (.tuple #[str ((rrowS u0.Size 4).1), .bool ((rrowS u0.Size 4).2)]) ?_; intro a630 hF631; clear hF627
    refine s1 hF631 33 (str ((rrowS u0.Size 4).1)) ?_; intro a632 hF633; clear hF631
    refine s1 hF633 34 (.bool ((rrowS u0.Size 4).2)) ?_; intro a634 hF635; clear hF633
    refine s1 hF635 5 (str ((rrowS u0.Size 4).1)) ?_; intro a636 hF637; clear hF635
    refine s1 hF637 6 (.bool ((rrowS u0.Size 4).2)) ?_; intro a638 hF639; clear hF637
    refine nlH (hQ621 _ _ ?_); clear hQ621 hQ621Q
    refine sqH ?_; intro hQ640Q hQ640
    refine s1 hF639 35 (str ((([48] : List UInt8) ++ (fnameS u0)) ++ ([48] : List UInt8))) ?_; intro a641 hF642; clear hF639
    refine s1 hF642 36 (str ((rrowS u0.Size 4).1)) ?_; intro a643 hF644; clear hF642
    have hc645 := hp625.1; have hp646 := hp625.2; clear hp625
    refine st hF644 (str (((([48] : List UInt8) ++ (fnameS u0)) ++ ([48] : List UInt8)) ++ ((rrowS u0.Size 4).1))) (nog rfl _) rfl (by kernel_rfl) (stradd_run hF644 (g := []) rfl (by kernel_rfl) (by kernel_rfl) hc645 rfl) ?_; intro a647 hF648; clear hF644
    refine s1 hF648 38 (.pointer (some ⟨b6, 5, none⟩)) ?_; intro a649 hF650; clear hF648
    refine l1 hF650 hM629 39 0 5 (.slice ao1 u0.Data.length cap2) rfl rfl ?_; intro a651 hF652; clear hF650
    have hc653 := hp646.1; have hp654 := hp646.2; clear hp646
    refine fcl hF652 hM629 (str (ofb u0.Data)) 90 #[.slice ao1 u0.Data.length cap2] (nog rfl _) rfl (by kernel_rfl) (fun _ => by kernel_rfl) (rofb_fun u0.Data hc653 ao1 cap2 _ _ hs3 hg5 hM629.fz) ?_; intro a655 wd657 hF656 hM658; clear hF652 hM629
    have hc659 := hp654.1; have hp660 := hp654.2; clear hp654
    refine st hF656 (str ((((([48] : List UInt8) ++ (fnameS u0)) ++ ([48] : List UInt8)) ++ ((rrowS u0.Size 4).1)) ++ (ofb u0.Data))) (nog rfl _) rfl (by kernel_rfl) (stradd_run hF656 (g := []) rfl (by kernel_rfl) (by kernel_rfl) hc659 rfl) ?_; intro a661 hF662; clear hF656
    refine s1 hF662 2 (str ((((([48] : List UInt8) ++ (fnameS u0)) ++ ([48] : List UInt8)) ++ ((rrowS u0.Size 4).1)) ++ (ofb u0.Data))) ?_; intro a663 hF664; clear hF662
    refine nlH (hQ640 _ _ ?_); clear hQ640 hQ640Q
    refine wp_ret ?_
    refine rt (fn := Tryz.f60) (v := str ((((([48] : List UInt8) ++ (fnameS u0)) ++ ([48] : List UInt8)) ++ ((rrowS u0.Size 4).1)) ++ (ofb u0.Data))) hF664 (re1 hF664 (fn := Tryz.f60) rfl (by kernel_rfl)) ?_
    exact ⟨(((([48] : List UInt8) ++ (fnameS u0)) ++ ([48] : List UInt8)) ++ ((rrowS u0.Size 4).1)) ++ (ofb u0.Data), rfl, hp660, hM658.below⟩

set_option maxRecDepth 100000 in
set_option maxHeartbeats 0 in
theorem rlmost_walk (u0 : Int)  (Z : Fz) (w : World)  (hZ : Z.on w) {K : Int → Prop} (hp : rlmost_vc u0 K) : Calls Tryz.prog 64 #[.int .i64 u0] w fun e w' => ∃ r : Int, e = .returned (.int .i64 r) ∧ K r ∧ Below w.heap.size w w' := by
 refine enter0 Tryz.func64 rfl rfl (by kernel_rfl) ?_; intro a0 hF0; have hM0 := Mem.start w Z hZ; have hle0 := Fz.le.refl Z
 refine sqH ?_; intro hQ1Q hQ1
 refine s1 hF0 2 (.int .i64 0) ?_; intro a2 hF3; clear hF0
 refine nlH (hQ1 _ _ ?_); clear hQ1 hQ1Q
 refine sqH ?_; intro hQ4Q hQ4
 refine s1 hF3 3 (.int .i64 u0) ?_; intro a5 hF6; clear hF3
 refine s1 hF6 4 (.int .i64 u0) ?_; intro a7 hF8; clear hF6
 refine s1 hF8 5 (.int .i64 (w64 (u0 - 1))) ?_; intro a9 hF10; clear hF8
 refine s1 hF10 6 (.int .i64 (w64 ((w64 (u0 - 1)).tdiv 4))) ?_; intro a11 hF12; clear hF10
 refine s1 hF12 7 (.int .i64 (w64 (u0 + (w64 ((w64 (u0 - 1)).tdiv 4))))) ?_; intro a13 hF14; clear hF12
 refine s1 hF14 2 (.int .i64 (w64 (u0 + (w64 ((w64 (u0 - 1)).tdiv 4))))) ?_; intro a15 hF16; clear hF14
 refine nlH (hQ4 _ _ ?_); clear hQ4 hQ4Q
 refine wp_ret ?_
 refine rt (fn := Tryz.f64) (v := .int .i64 (w64 (u0 + (w64 ((w64 (u0 - 1)).tdiv 4))))) hF16 (re1 hF16 (fn := Tryz.f64) rfl (by kernel_rfl)) ?_
 exact ⟨w64 (u0 + (w64 ((w64 (u0 - 1)).tdiv 4))), rfl, hp, hM0.below⟩
theorem rlmost_fun (u0 : Int)  (Z : Fz) (w : World)  (hZ : Z.on w) : Calls Tryz.prog 64 #[.int .i64 u0] w fun e w' => e = .returned (.int .i64 (rlmost u0)) ∧ Below w.heap.size w w' :=
  (rlmost_walk u0  Z w  hZ (rlmost_ok u0)).mono fun _ _ ⟨r, he, hk, hb⟩ => ⟨by subst hk; exact he, hb⟩

end Go.Proofs.YtmbdcehmeiiaoaaGreatDoor
