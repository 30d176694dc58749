/- The walks, made by program: each call does what its pure predicate says. -/
import Derived.Test.YtginlmgkimfjmaaPDm
import Derived.Test.YtginlmgkimfjmaaWDgs
set_option linter.unusedVariables false
set_option linter.unusedSimpArgs false
namespace Go.Proofs.Ytginlmgkimfjmaa
open Go.Sy Go.RowKit
theorem dtasks_fun   (Z : Fz) (w : World)  (hZ : Z.on w) : Calls Try.prog 49 #[] w fun e w' => ∃ (ao1001 : Option Addr) (cap1002 : Nat) (Z' : Fz), e = .returned (.slice ao1001 tasksS.length cap1002) ∧ Mem w.heap.size [] w Z [.own tyTask 34 ao1001 cap1002 tasksS] Z' w' :=
  (dtasks_walk   Z w  hZ (dtasks_ok )).mono fun _ _ ⟨r, h0, h1, h2, he, hk, hm⟩ => by subst hk; exact ⟨h0, h1, h2, he, hm⟩

set_option maxRecDepth 100000 in
set_option maxHeartbeats 0 in
theorem sins_walk (u0 : List Job) (u1 : Int) (u2 : Int) (u3 : Job → Job → Int) (ao1 : Option Addr) (cap2 : Nat) (fid3 : Nat) (caps4 : Array Value) (B : Nat) (w0 : World) (Z0 : Fz) (Rr : List Res) (Z : Fz) (w : World) (hf5 : ∀ (Z1 : Fz) (w1 : World), Z.le Z1 → Z1.on w1 → ∀ (x0 : Job) (x1 : Job), Calls Try.prog fid3 (#[.agg #[.int .i64 x0.task, .int .i64 x0.from_, .int .i64 x0.asked], .agg #[.int .i64 x1.task, .int .i64 x1.from_, .int .i64 x1.asked]] ++ caps4) w1 fun e w2 => e = .returned (.int .i64 (u3 x0 x1)) ∧ Below w1.heap.size w1 w2) (hg6 : ∀ x w, Sem.run Try.prog (callFunc fid3 x) w = .ok (.enter fid3 x) w) (hM0 : Mem B [] w0 Z0 ((.own tyJob 110 ao1 cap2 u0) :: Rr) Z w) (hZ : Z.on w) {K : (List Job) → Prop} (hp : sins_vc u0 u1 u2 u3 K) : Calls Try.prog 111 #[.slice ao1 u0.length cap2, .int .i64 u1, .int .i64 u2, .func (.func fid3) #[] caps4] w fun e w' => ∃ (r : (List Job)) (Z' : Fz), e = .returned (.tuple #[]) ∧ K r ∧ Fz.le Z Z' ∧ (r.length = u0.length) ∧ Mem B [] w0 Z0 ((.own tyJob 110 ao1 cap2 r) :: Rr) Z' w' := by
 refine enter0 Try.func111 rfl rfl (by kernel_rfl) ?_; intro a0 hF0; have hle0 := Fz.le.refl Z
 have hp7 := hp (hM0.ownSmall 0 rfl); clear hp
 refine sqH ?_; intro hQ8Q hQ8
 refine s1 hF0 10 (.int .i64 u1) ?_; intro a9 hF10; clear hF0
 refine s1 hF10 11 (.int .i64 (w64 (u1 + 1))) ?_; intro a11 hF12; clear hF10
 refine s1 hF12 8 (.int .i64 (w64 (u1 + 1))) ?_; intro a13 hF14; clear hF12
 refine nlH (hQ8 _ _ ?_); clear hQ8 hQ8Q
 refine wp_block ?_
 have hF15 : Fr 53 [] [⟨0, [], .slice ao1 u0.length cap2⟩, ⟨1, [], .int .i64 u1⟩, ⟨2, [], .int .i64 u2⟩, ⟨3, [], .func (.func fid3) #[] caps4⟩, ⟨8, [], .int .i64 (w64 (u1 + 1))⟩] a13 := hF14.reg; clear hF14
 have hF17 : Fr 53 [] [⟨0, [], .slice ao1 u0.length cap2⟩, ⟨1, [], .int .i64 u1⟩, ⟨2, [], .int .i64 u2⟩, ⟨3, [], .func (.func fid3) #[] caps4⟩, ⟨8, [], .int .i64 (w64 (u1 + 1))⟩] a13 := hF15.reg; clear hF15
 obtain ⟨inv16, mu16, hI20, hr19⟩ := hp7
 refine lp (ι := Int × (List Job)) (fun (s : Int × (List Job)) => [⟨0, [], .slice ao1 s.2.length cap2⟩, ⟨1, [], .int .i64 u1⟩, ⟨2, [], .int .i64 u2⟩, ⟨3, [], .func (.func fid3) #[] caps4⟩, ⟨8, [], .int .i64 s.1⟩]) (fun (s : Int × (List Job)) => ((.own tyJob 110 ao1 cap2 s.2) :: Rr)) (fun (s : Int × (List Job)) => Z) (fun (s : Int × (List Job)) => inv16 s.1 s.2) (fun (s : Int × (List Job)) => mu16 s.1 s.2) ⟨w64 (u1 + 1), u0⟩ hI20 (by exact hF17.reg) (by exact hM0) ?_
 rintro ⟨x8, zao1⟩ hI18 a22 wd23 hF24 hM25
 have hF26 : Fr 53 [] [⟨0, [], .slice ao1 zao1.length cap2⟩, ⟨1, [], .int .i64 u1⟩, ⟨2, [], .int .i64 u2⟩, ⟨3, [], .func (.func fid3) #[] caps4⟩, ⟨8, [], .int .i64 x8⟩] a22 := hF24; clear hF24 hF17
 have hM27 : Mem B [] w0 Z0 ((.own tyJob 110 ao1 cap2 zao1) :: Rr) Z wd23 := hM25; clear hM25 hM0
 have hp28 := hr19 x8 zao1 hI18
 refine wp_seq ?_
 refine sqH ?_; intro hQ29Q hQ29
 refine s1 hF26 12 (.int .i64 x8) ?_; intro a30 hF31; clear hF26
 refine s1 hF31 13 (.int .i64 u2) ?_; intro a32 hF33; clear hF31
 refine s1 hF33 14 (.bool (decide (x8 < u2))) ?_; intro a34 hF35; clear hF33
 refine nlH (hQ29 _ _ ?_); clear hQ29 hQ29Q
 refine cd hF35 (t := decide (x8 < u2)) (by kernel_rfl) (fun hb36 => ?_) (fun hb36 => ?_)
 ·
  have hp37 := hp28.1 hb36; clear hp28
  refine wp_skip ?_
  refine thn ?_
  refine wp_seq ?_
  refine wp_block ?_
  refine sqH ?_; intro hQ38Q hQ38
  refine s1 hF35 17 (.int .i64 x8) ?_; intro a39 hF40; clear hF35
  refine s1 hF40 9 (.int .i64 x8) ?_; intro a41 hF42; clear hF40
  refine nlH (hQ38 _ _ ?_); clear hQ38 hQ38Q
  refine wp_block ?_
  have hF43 : Fr 53 [] [⟨0, [], .slice ao1 zao1.length cap2⟩, ⟨1, [], .int .i64 u1⟩, ⟨2, [], .int .i64 u2⟩, ⟨3, [], .func (.func fid3) #[] caps4⟩, ⟨8, [], .int .i64 x8⟩, ⟨9, [], .int .i64 x8⟩] a41 := hF42.reg; clear hF42
  have hF45 : Fr 53 [] [⟨0, [], .slice ao1 zao1.length cap2⟩, ⟨1, [], .int .i64 u1⟩, ⟨2, [], .int .i64 u2⟩, ⟨3, [], .func (.func fid3) #[] caps4⟩, ⟨8, [], .int .i64 x8⟩, ⟨9, [], .int .i64 x8⟩] a41 := hF43.reg; clear hF43
  obtain ⟨inv44, mu44, hI48, hr47⟩ := hp37
  refine lp (ι := Int × (List Job)) (fun (s : Int × (List Job)) => [⟨0, [], .slice ao1 s.2.length cap2⟩, ⟨1, [], .int .i64 u1⟩, ⟨2, [], .int .i64 u2⟩, ⟨3, [], .func (.func fid3) #[] caps4⟩, ⟨8, [], .int .i64 x8⟩, ⟨9, [], .int .i64 s.1⟩]) (fun (s : Int × (List Job)) => ((.own tyJob 110 ao1 cap2 s.2) :: Rr)) (fun (s : Int × (List Job)) => Z) (fun (s : Int × (List Job)) => inv44 s.1 s.2) (fun (s : Int × (List Job)) => mu44 s.1 s.2) ⟨x8, zao1⟩ hI48 (by exact hF45.reg) (by exact hM27) ?_
  rintro ⟨x9, zao1v⟩ hI46 a50 wd51 hF52 hM53
  have hF54 : Fr 53 [] [⟨0, [], .slice ao1 zao1v.length cap2⟩, ⟨1, [], .int .i64 u1⟩, ⟨2, [], .int .i64 u2⟩, ⟨3, [], .func (.func fid3) #[] caps4⟩, ⟨8, [], .int .i64 x8⟩, ⟨9, [], .int .i64 x9⟩] a50 := hF52; clear hF52 hF45
  have hM55 : Mem B [] w0 Z0 ((.own tyJob 110 ao1 cap2 zao1v) :: Rr) Z wd51 := hM53; clear hM53 hM27
  have hp56 := hr47 x9 zao1v hI46
  refine wp_seq ?_
  have hF57 : Fr 53 [] [⟨0, [], .slice ao1 zao1v.length cap2⟩, ⟨1, [], .int .i64 u1⟩, ⟨2, [], .int .i64 u2⟩, ⟨3, [], .func (.func fid3) #[] caps4⟩, ⟨8, [], .int .i64 x8⟩, ⟨9, [], .int .i64 x9⟩] a50 := hF54.reg; clear hF54
  rcases Bool.eq_false_or_eq_true (decide (x9 > u1)) with hb58 | hb58
  ·
   have hp59 := hp56.1 hb58; clear hp56
   have hF60 : Fr 53 [] [⟨0, [], .slice ao1 zao1v.length cap2⟩, ⟨1, [], .int .i64 u1⟩, ⟨2, [], .int .i64 u2⟩, ⟨3, [], .func (.func fid3) #[] caps4⟩, ⟨8, [], .int .i64 x8⟩, ⟨9, [], .int .i64 x9⟩] a50 := hF57.reg; clear hF57
   have hcd7_0 := hp59.1; have hp109 := hp59.2; clear hp59
   obtain ⟨qd8_0, hqd8_0⟩ : ∃ q, zao1v[x9.toNat]? = some q := ⟨_, List.getElem?_eq_getElem (by omega)⟩; have hp110 := hp109 qd8_0 hqd8_0; clear hp109
   have hcd12_0 := hp110.1; have hp111 := hp110.2; clear hp110
   obtain ⟨qd13_0, hqd13_0⟩ : ∃ q, zao1v[(w64 (x9 - 1)).toNat]? = some q := ⟨_, List.getElem?_eq_getElem (by omega)⟩; have hp112 := hp111 qd13_0 hqd13_0; clear hp111
   refine wp_seq (any_invE mixed [[], [], [0, 1], [2], [3], [3], [3], [3, 5, 6], [3, 7], [3], [3], [3, 10], [3, 9, 11], [3, 12], [3, 4, 8, 13], [3, 14], [3, 15]] 17 (fun S a w1 => ∃ (g76 : Nat) (g91 : Nat) (ud18 : Value) (ud19 : Value) (ud20 : Value) (ud21 : Value) (ud22 : Value) (ud23 : Value) (ud24 : Value) (ud25 : Value) (ud26 : Value) (ud27 : Value) (ud28 : Value) (ud29 : Value) (ud30 : Value) (ud31 : Value) (ud32 : Value) (ud33 : Value) (ud34 : Value) (rh0 : Res), Fz.le Z Z ∧ Fr 53 [] [⟨0, [], .slice ao1 zao1v.length cap2⟩, ⟨1, [], .int .i64 u1⟩, ⟨2, [], .int .i64 u2⟩, ⟨3, [], .func (.func fid3) #[] caps4⟩, ⟨8, [], .int .i64 x8⟩, ⟨9, [], .int .i64 x9⟩, ⟨18, [], ud18⟩, ⟨19, [], ud19⟩, ⟨20, [], ud20⟩, ⟨21, [], ud21⟩, ⟨22, [], ud22⟩, ⟨23, [], ud23⟩, ⟨24, [], ud24⟩, ⟨25, [], ud25⟩, ⟨26, [], ud26⟩, ⟨27, [], ud27⟩, ⟨28, [], ud28⟩, ⟨29, [], ud29⟩, ⟨30, [], ud30⟩, ⟨31, [], ud31⟩, ⟨32, [], ud32⟩, ⟨33, [], ud33⟩, ⟨34, [], ud34⟩] a ∧ Mem B [] w0 Z0 (rh0 :: Rr) Z w1 ∧ (S 0 = true → ud18 = .int .i64 x9) ∧ (S 1 = true → ud19 = .int .i64 u1) ∧ (S 2 = true → ud20 = .bool true) ∧ (S 3 = true → ud21 = .bool true) ∧ (S 4 = true → ud22 = .func (.func fid3) #[] caps4) ∧ (S 5 = true → ud23 = .slice ao1 zao1v.length cap2) ∧ (S 6 = true → ud24 = .int .i64 x9) ∧ (S 7 = true → ud25 = .pointer (some ⟨g76, x9.toNat * 3, none⟩)) ∧ (S 8 = true → ud26 = .agg #[.int .i64 qd8_0.task, .int .i64 qd8_0.from_, .int .i64 qd8_0.asked]) ∧ (S 9 = true → ud27 = .slice ao1 zao1v.length cap2) ∧ (S 10 = true → ud28 = .int .i64 x9) ∧ (S 11 = true → ud29 = .int .i64 (w64 (x9 - 1))) ∧ (S 12 = true → ud30 = .pointer (some ⟨g91, (w64 (x9 - 1)).toNat * 3, none⟩)) ∧ (S 13 = true → ud31 = .agg #[.int .i64 qd13_0.task, .int .i64 qd13_0.from_, .int .i64 qd13_0.asked]) ∧ (S 14 = true → ud32 = .int .i64 (u3 qd8_0 qd13_0)) ∧ (S 15 = true → ud33 = .bool (decide ((u3 qd8_0 qd13_0) < 0))) ∧ (S 16 = true → ud34 = .bool (decide ((u3 qd8_0 qd13_0) < 0))) ∧ (rh0 = .own tyJob 110 ao1 cap2 zao1v) ∧ (S 7 = true → ao1 = some ⟨g76, 0, none⟩) ∧ (S 12 = true → ao1 = some ⟨g91, 0, none⟩)) ?h0 ?hs ?hE)
   case h0 =>
    have hF114 := hF60.any 18
    have hF115 := hF114.any 19
    have hF116 := hF115.any 20
    have hF117 := hF116.any 21
    have hF118 := hF117.any 22
    have hF119 := hF118.any 23
    have hF120 := hF119.any 24
    have hF121 := hF120.any 25
    have hF122 := hF121.any 26
    have hF123 := hF122.any 27
    have hF124 := hF123.any 28
    have hF125 := hF124.any 29
    have hF126 := hF125.any 30
    have hF127 := hF126.any 31
    have hF128 := hF127.any 32
    have hF129 := hF128.any 33
    have hF130 := hF129.any 34
    have hM131 := (hM55.perm lpr).drew
    exact ⟨0, 0, a50.tmps.getD 18 undef, a50.tmps.getD 19 undef, a50.tmps.getD 20 undef, a50.tmps.getD 21 undef, a50.tmps.getD 22 undef, a50.tmps.getD 23 undef, a50.tmps.getD 24 undef, a50.tmps.getD 25 undef, a50.tmps.getD 26 undef, a50.tmps.getD 27 undef, a50.tmps.getD 28 undef, a50.tmps.getD 29 undef, a50.tmps.getD 30 undef, a50.tmps.getD 31 undef, a50.tmps.getD 32 undef, a50.tmps.getD 33 undef, a50.tmps.getD 34 undef, .own tyJob 110 ao1 cap2 zao1v, Fz.le.refl _, hF130.reg, hM131, ff, ff, ff, ff, ff, ff, ff, ff, ff, ff, ff, ff, ff, ff, ff, ff, ff, rfl, ff, ff⟩
   case hs =>
    intro S hcl i o hil hi hSi hpre a w1 hI; refine Go.Sy.hid ?_; intro G hG; obtain ⟨g76, g91, ud18, ud19, ud20, ud21, ud22, ud23, ud24, ud25, ud26, ud27, ud28, ud29, ud30, ud31, ud32, ud33, ud34, rh0, hle113, hFx, hMx, cu18, cu19, cu20, cu21, cu22, cu23, cu24, cu25, cu26, cu27, cu28, cu29, cu30, cu31, cu32, cu33, cu34, cr0_0, cf0, hI⟩ := hI; have cf1 := hI; clear hI
    have hcase : i = 0 ∨ i = 1 ∨ i = 2 ∨ i = 3 ∨ i = 4 ∨ i = 5 ∨ i = 6 ∨ i = 7 ∨ i = 8 ∨ i = 9 ∨ i = 10 ∨ i = 11 ∨ i = 12 ∨ i = 13 ∨ i = 14 ∨ i = 15 ∨ i = 16 := by clear hi; omega
    rcases hcase with rfl | rfl | rfl | rfl | rfl | rfl | rfl | rfl | rfl | rfl | rfl | rfl | rfl | rfl | rfl | rfl | rfl
    ·
     obtain rfl := oj hi
     have hx0 := hSi
     have hx2 := ngF hcl 2 0 hx0
     have hx3 := ngF hcl 3 2 hx2
     have hx4 := ngF hcl 4 3 hx3
     have hx5 := ngF hcl 5 3 hx3
     have hx6 := ngF hcl 6 3 hx3
     have hx7 := ngF hcl 7 3 hx3
     have hx8 := ngF hcl 8 3 hx3
     have hx9 := ngF hcl 9 3 hx3
     have hx10 := ngF hcl 10 3 hx3
     have hx11 := ngF hcl 11 3 hx3
     have hx12 := ngF hcl 12 3 hx3
     have hx13 := ngF hcl 13 3 hx3
     have hx14 := ngF hcl 14 3 hx3
     have hx15 := ngF hcl 15 3 hx3
     have hx16 := ngF hcl 16 3 hx3
     obtain rfl := cr0_0
     refine hG (any_step ?_); clear hG G; intro A J hJ
     have hle0 := Fz.le.trans hle0 hle113
     refine s1 hFx 18 (.int .i64 x9) ?_; intro a132 hF133; clear hFx
     refine nl (qnI (hJ _ _ ?_)); clear hJ J
     exact ⟨g76, g91, .int .i64 x9, ud19, ud20, ud21, ud22, ud23, ud24, ud25, ud26, ud27, ud28, ud29, ud30, ud31, ud32, ud33, ud34, .own tyJob 110 ao1 cap2 zao1v, hle113, hF133.reg, hMx.perm lpr, kf, cu19, (nt hx2), (nt hx3), (nt hx4), (nt hx5), (nt hx6), (nt hx7), (nt hx8), (nt hx9), (nt hx10), (nt hx11), (nt hx12), (nt hx13), (nt hx14), (nt hx15), (nt hx16), rfl, (nt hx7), (nt hx12)⟩
    ·
     obtain rfl := oj hi
     have hx1 := hSi
     have hx2 := ngF hcl 2 1 hx1
     have hx3 := ngF hcl 3 2 hx2
     have hx4 := ngF hcl 4 3 hx3
     have hx5 := ngF hcl 5 3 hx3
     have hx6 := ngF hcl 6 3 hx3
     have hx7 := ngF hcl 7 3 hx3
     have hx8 := ngF hcl 8 3 hx3
     have hx9 := ngF hcl 9 3 hx3
     have hx10 := ngF hcl 10 3 hx3
     have hx11 := ngF hcl 11 3 hx3
     have hx12 := ngF hcl 12 3 hx3
     have hx13 := ngF hcl 13 3 hx3
     have hx14 := ngF hcl 14 3 hx3
     have hx15 := ngF hcl 15 3 hx3
     have hx16 := ngF hcl 16 3 hx3
     obtain rfl := cr0_0
     refine hG (any_step ?_); clear hG G; intro A J hJ
     have hle0 := Fz.le.trans hle0 hle113
     refine s1 hFx 19 (.int .i64 u1) ?_; intro a135 hF136; clear hFx
     refine nl (qnI (hJ _ _ ?_)); clear hJ J
     exact ⟨g76, g91, ud18, .int .i64 u1, ud20, ud21, ud22, ud23, ud24, ud25, ud26, ud27, ud28, ud29, ud30, ud31, ud32, ud33, ud34, .own tyJob 110 ao1 cap2 zao1v, hle113, hF136.reg, hMx.perm lpr, cu18, kf, (nt hx2), (nt hx3), (nt hx4), (nt hx5), (nt hx6), (nt hx7), (nt hx8), (nt hx9), (nt hx10), (nt hx11), (nt hx12), (nt hx13), (nt hx14), (nt hx15), (nt hx16), rfl, (nt hx7), (nt hx12)⟩
    ·
     obtain rfl := oj hi
     have hx1 := hpre 1 (by kernel_rfl)
     have hx0 := hpre 0 (by kernel_rfl)
     have hx2 := hSi
     have hx3 := ngF hcl 3 2 hx2
     have hx4 := ngF hcl 4 3 hx3
     have hx5 := ngF hcl 5 3 hx3
     have hx6 := ngF hcl 6 3 hx3
     have hx7 := ngF hcl 7 3 hx3
     have hx8 := ngF hcl 8 3 hx3
     have hx9 := ngF hcl 9 3 hx3
     have hx10 := ngF hcl 10 3 hx3
     have hx11 := ngF hcl 11 3 hx3
     have hx12 := ngF hcl 12 3 hx3
     have hx13 := ngF hcl 13 3 hx3
     have hx14 := ngF hcl 14 3 hx3
     have hx15 := ngF hcl 15 3 hx3
     have hx16 := ngF hcl 16 3 hx3
     obtain rfl := cu18 hx0
     obtain rfl := cu19 hx1
     obtain rfl := cr0_0
     refine hG (any_step ?_); clear hG G; intro A J hJ
     have hle0 := Fz.le.trans hle0 hle113
     refine s1 hFx 20 (.bool (decide (x9 > u1))) ?_; intro a138 hF139; clear hFx
     have hF140 := hF139.reval (d := 20) (c := []) (v := .bool (decide (x9 > u1))) (by kernel_rfl) (.bool true) (by rw [hb58]); clear hF139
     refine nl (qnI (hJ _ _ ?_)); clear hJ J
     exact ⟨g76, g91, .int .i64 x9, .int .i64 u1, .bool true, ud21, ud22, ud23, ud24, ud25, ud26, ud27, ud28, ud29, ud30, ud31, ud32, ud33, ud34, .own tyJob 110 ao1 cap2 zao1v, hle113, hF140.reg, hMx.perm lpr, kf, kf, kf, (nt hx3), (nt hx4), (nt hx5), (nt hx6), (nt hx7), (nt hx8), (nt hx9), (nt hx10), (nt hx11), (nt hx12), (nt hx13), (nt hx14), (nt hx15), (nt hx16), rfl, (nt hx7), (nt hx12)⟩
    ·
     obtain rfl := oj hi
     have hx2 := hpre 2 (by kernel_rfl)
     have hx1 := hcl 2 1 (by kernel_rfl) hx2
     have hx0 := hcl 2 0 (by kernel_rfl) hx2
     have hx3 := hSi
     have hx4 := ngF hcl 4 3 hx3
     have hx5 := ngF hcl 5 3 hx3
     have hx6 := ngF hcl 6 3 hx3
     have hx7 := ngF hcl 7 3 hx3
     have hx8 := ngF hcl 8 3 hx3
     have hx9 := ngF hcl 9 3 hx3
     have hx10 := ngF hcl 10 3 hx3
     have hx11 := ngF hcl 11 3 hx3
     have hx12 := ngF hcl 12 3 hx3
     have hx13 := ngF hcl 13 3 hx3
     have hx14 := ngF hcl 14 3 hx3
     have hx15 := ngF hcl 15 3 hx3
     have hx16 := ngF hcl 16 3 hx3
     obtain rfl := cu18 hx0
     obtain rfl := cu19 hx1
     obtain rfl := cu20 hx2
     obtain rfl := cr0_0
     refine hG (any_step ?_); clear hG G; intro A J hJ
     have hle0 := Fz.le.trans hle0 hle113
     refine s1 hFx 21 (.bool true) ?_; intro a142 hF143; clear hFx
     refine nl (qnI (hJ _ _ ?_)); clear hJ J
     exact ⟨g76, g91, .int .i64 x9, .int .i64 u1, .bool true, .bool true, ud22, ud23, ud24, ud25, ud26, ud27, ud28, ud29, ud30, ud31, ud32, ud33, ud34, .own tyJob 110 ao1 cap2 zao1v, hle113, hF143.reg, hMx.perm lpr, kf, kf, kf, kf, (nt hx4), (nt hx5), (nt hx6), (nt hx7), (nt hx8), (nt hx9), (nt hx10), (nt hx11), (nt hx12), (nt hx13), (nt hx14), (nt hx15), (nt hx16), rfl, (nt hx7), (nt hx12)⟩
    ·
     obtain rfl := oj hi
     have hx3 := hpre 3 (by kernel_rfl)
     have hx2 := hcl 3 2 (by kernel_rfl) hx3
     have hx1 := hcl 2 1 (by kernel_rfl) hx2
     have hx0 := hcl 2 0 (by kernel_rfl) hx2
     have hx4 := hSi
     have hx14 := ngF hcl 14 4 hx4
     have hx15 := ngF hcl 15 14 hx14
     have hx16 := ngF hcl 16 15 hx15
     obtain rfl := cu18 hx0
     obtain rfl := cu19 hx1
     obtain rfl := cu20 hx2
     obtain rfl := cu21 hx3
     obtain rfl := cr0_0
     refine hG (any_stepG ?_); clear hG G; intro J hJ
     have hle0 := Fz.le.trans hle0 hle113
     refine st hFx (.func (.func fid3) #[] caps4) (by rw [wanted_of hFx (b := true) rfl rfl (by kernel_rfl) (by kernel_rfl)]; rfl) rfl (by kernel_rfl) (p0 hFx (by kernel_rfl)) ?_; intro a145 hF146; clear hFx
     refine nl (qnI (hJ _ _ ?_)); clear hJ J
     exact ⟨g76, g91, .int .i64 x9, .int .i64 u1, .bool true, .bool true, .func (.func fid3) #[] caps4, ud23, ud24, ud25, ud26, ud27, ud28, ud29, ud30, ud31, ud32, ud33, ud34, .own tyJob 110 ao1 cap2 zao1v, hle113, hF146.reg, hMx.perm lpr, kf, kf, kf, kf, kf, cu23, cu24, cu25, cu26, cu27, cu28, cu29, cu30, cu31, (nt hx14), (nt hx15), (nt hx16), rfl, cf0, cf1⟩
    ·
     obtain rfl := oj hi
     have hx3 := hpre 3 (by kernel_rfl)
     have hx2 := hcl 3 2 (by kernel_rfl) hx3
     have hx1 := hcl 2 1 (by kernel_rfl) hx2
     have hx0 := hcl 2 0 (by kernel_rfl) hx2
     have hx5 := hSi
     have hx7 := ngF hcl 7 5 hx5
     have hx8 := ngF hcl 8 7 hx7
     have hx14 := ngF hcl 14 8 hx8
     have hx15 := ngF hcl 15 14 hx14
     have hx16 := ngF hcl 16 15 hx15
     obtain rfl := cu18 hx0
     obtain rfl := cu19 hx1
     obtain rfl := cu20 hx2
     obtain rfl := cu21 hx3
     obtain rfl := cr0_0
     refine hG (any_stepG ?_); clear hG G; intro J hJ
     have hle0 := Fz.le.trans hle0 hle113
     refine st hFx (.slice ao1 zao1v.length cap2) (by rw [wanted_of hFx (b := true) rfl rfl (by kernel_rfl) (by kernel_rfl)]; rfl) rfl (by kernel_rfl) (p0 hFx (by kernel_rfl)) ?_; intro a148 hF149; clear hFx
     refine nl (qnI (hJ _ _ ?_)); clear hJ J
     exact ⟨g76, g91, .int .i64 x9, .int .i64 u1, .bool true, .bool true, ud22, .slice ao1 zao1v.length cap2, ud24, ud25, ud26, ud27, ud28, ud29, ud30, ud31, ud32, ud33, ud34, .own tyJob 110 ao1 cap2 zao1v, hle113, hF149.reg, hMx.perm lpr, kf, kf, kf, kf, cu22, kf, cu24, (nt hx7), (nt hx8), cu27, cu28, cu29, cu30, cu31, (nt hx14), (nt hx15), (nt hx16), rfl, (nt hx7), cf1⟩
    ·
     obtain rfl := oj hi
     have hx3 := hpre 3 (by kernel_rfl)
     have hx2 := hcl 3 2 (by kernel_rfl) hx3
     have hx1 := hcl 2 1 (by kernel_rfl) hx2
     have hx0 := hcl 2 0 (by kernel_rfl) hx2
     have hx6 := hSi
     have hx7 := ngF hcl 7 6 hx6
     have hx8 := ngF hcl 8 7 hx7
     have hx14 := ngF hcl 14 8 hx8
     have hx15 := ngF hcl 15 14 hx14
     have hx16 := ngF hcl 16 15 hx15
     obtain rfl := cu18 hx0
     obtain rfl := cu19 hx1
     obtain rfl := cu20 hx2
     obtain rfl := cu21 hx3
     obtain rfl := cr0_0
     refine hG (any_stepG ?_); clear hG G; intro J hJ
     have hle0 := Fz.le.trans hle0 hle113
     refine st hFx (.int .i64 x9) (by rw [wanted_of hFx (b := true) rfl rfl (by kernel_rfl) (by kernel_rfl)]; rfl) rfl (by kernel_rfl) (p0 hFx (by kernel_rfl)) ?_; intro a151 hF152; clear hFx
     refine nl (qnI (hJ _ _ ?_)); clear hJ J
     exact ⟨g76, g91, .int .i64 x9, .int .i64 u1, .bool true, .bool true, ud22, ud23, .int .i64 x9, ud25, ud26, ud27, ud28, ud29, ud30, ud31, ud32, ud33, ud34, .own tyJob 110 ao1 cap2 zao1v, hle113, hF152.reg, hMx.perm lpr, kf, kf, kf, kf, cu22, cu23, kf, (nt hx7), (nt hx8), cu27, cu28, cu29, cu30, cu31, (nt hx14), (nt hx15), (nt hx16), rfl, (nt hx7), cf1⟩
    ·
     obtain rfl := oj hi
     have hx6 := hpre 6 (by kernel_rfl)
     have hx5 := hpre 5 (by kernel_rfl)
     have hx3 := hpre 3 (by kernel_rfl)
     have hx2 := hcl 3 2 (by kernel_rfl) hx3
     have hx1 := hcl 2 1 (by kernel_rfl) hx2
     have hx0 := hcl 2 0 (by kernel_rfl) hx2
     have hx7 := hSi
     have hx8 := ngF hcl 8 7 hx7
     have hx14 := ngF hcl 14 8 hx8
     have hx15 := ngF hcl 15 14 hx14
     have hx16 := ngF hcl 16 15 hx15
     obtain rfl := cu18 hx0
     obtain rfl := cu19 hx1
     obtain rfl := cu20 hx2
     obtain rfl := cu21 hx3
     obtain rfl := cu23 hx5
     obtain rfl := cu24 hx6
     obtain rfl := cr0_0
     refine hG (any_stepG ?_); clear hG G; intro J hJ
     have hle0 := Fz.le.trans hle0 hle113
     refine ixo hFx hMx 0 (T := tyJob) (xs := zao1v) x9 (by simpa only [List.length_set] using hcd7_0) (k := .i64) (e := 110) (bytes := 24) (by rw [wanted_of hFx (b := true) rfl rfl (by kernel_rfl) (by kernel_rfl)]; rfl) rfl (by kernel_rfl) rfl (by kernel_rfl) (by kernel_rfl) rfl (by kernel_rfl) ?_; intro g154 a156 hg155 hF157; clear hFx
     refine nl (qnI (hJ _ _ ?_)); clear hJ J
     exact ⟨g154, g91, .int .i64 x9, .int .i64 u1, .bool true, .bool true, ud22, .slice ao1 zao1v.length cap2, .int .i64 x9, .pointer (some ⟨g154, x9.toNat * 3, none⟩), ud26, ud27, ud28, ud29, ud30, ud31, ud32, ud33, ud34, .own tyJob 110 ao1 cap2 zao1v, hle113, hF157.reg, hMx.perm lpr, kf, kf, kf, kf, cu22, kf, kf, kf, (nt hx8), cu27, cu28, cu29, cu30, cu31, (nt hx14), (nt hx15), (nt hx16), rfl, (fun _ => hg155), cf1⟩
    ·
     obtain rfl := oj hi
     have hx7 := hpre 7 (by kernel_rfl)
     have hx3 := hpre 3 (by kernel_rfl)
     have hx6 := hcl 7 6 (by kernel_rfl) hx7
     have hx5 := hcl 7 5 (by kernel_rfl) hx7
     have hx2 := hcl 3 2 (by kernel_rfl) hx3
     have hx1 := hcl 2 1 (by kernel_rfl) hx2
     have hx0 := hcl 2 0 (by kernel_rfl) hx2
     have hx8 := hSi
     have hx14 := ngF hcl 14 8 hx8
     have hx15 := ngF hcl 15 14 hx14
     have hx16 := ngF hcl 16 15 hx15
     obtain rfl := cu18 hx0
     obtain rfl := cu19 hx1
     obtain rfl := cu20 hx2
     obtain rfl := cu21 hx3
     obtain rfl := cu23 hx5
     obtain rfl := cu24 hx6
     obtain rfl := cu25 hx7
     obtain rfl := cr0_0
     refine hG (any_stepG ?_); clear hG G; intro J hJ
     have hle0 := Fz.le.trans hle0 hle113
     have hs159 := cf0 hx7
     obtain ⟨cs160, hT161, hcl162⟩ := own_elx hMx 0 (T := tyJob) (xs := zao1v) rfl hs159 x9.toNat hqd8_0
     obtain rfl : cs160 = ([.int .i64 qd8_0.task, .int .i64 qd8_0.from_, .int .i64 qd8_0.asked] : List Value) := hT161
     refine lc2 hFx 26 3 [.int .i64 qd8_0.task, .int .i64 qd8_0.from_, .int .i64 qd8_0.asked] hcl162 rfl ?_ (hw := (by rw [wanted_of hFx (b := true) rfl rfl (by kernel_rfl) (by kernel_rfl)]; rfl)); intro a163 hF164; clear hFx
     refine nl (qnI (hJ _ _ ?_)); clear hJ J
     exact ⟨g76, g91, .int .i64 x9, .int .i64 u1, .bool true, .bool true, ud22, .slice ao1 zao1v.length cap2, .int .i64 x9, .pointer (some ⟨g76, x9.toNat * 3, none⟩), .agg #[.int .i64 qd8_0.task, .int .i64 qd8_0.from_, .int .i64 qd8_0.asked], ud27, ud28, ud29, ud30, ud31, ud32, ud33, ud34, .own tyJob 110 ao1 cap2 zao1v, hle113, hF164.reg, hMx.perm lpr, kf, kf, kf, kf, cu22, kf, kf, kf, kf, cu27, cu28, cu29, cu30, cu31, (nt hx14), (nt hx15), (nt hx16), rfl, (fun _ => hs159), cf1⟩
    ·
     obtain rfl := oj hi
     have hx3 := hpre 3 (by kernel_rfl)
     have hx2 := hcl 3 2 (by kernel_rfl) hx3
     have hx1 := hcl 2 1 (by kernel_rfl) hx2
     have hx0 := hcl 2 0 (by kernel_rfl) hx2
     have hx9 := hSi
     have hx12 := ngF hcl 12 9 hx9
     have hx13 := ngF hcl 13 12 hx12
     have hx14 := ngF hcl 14 13 hx13
     have hx15 := ngF hcl 15 14 hx14
     have hx16 := ngF hcl 16 15 hx15
     obtain rfl := cu18 hx0
     obtain rfl := cu19 hx1
     obtain rfl := cu20 hx2
     obtain rfl := cu21 hx3
     obtain rfl := cr0_0
     refine hG (any_stepG ?_); clear hG G; intro J hJ
     have hle0 := Fz.le.trans hle0 hle113
     refine st hFx (.slice ao1 zao1v.length cap2) (by rw [wanted_of hFx (b := true) rfl rfl (by kernel_rfl) (by kernel_rfl)]; rfl) rfl (by kernel_rfl) (p0 hFx (by kernel_rfl)) ?_; intro a166 hF167; clear hFx
     refine nl (qnI (hJ _ _ ?_)); clear hJ J
     exact ⟨g76, g91, .int .i64 x9, .int .i64 u1, .bool true, .bool true, ud22, ud23, ud24, ud25, ud26, .slice ao1 zao1v.length cap2, ud28, ud29, ud30, ud31, ud32, ud33, ud34, .own tyJob 110 ao1 cap2 zao1v, hle113, hF167.reg, hMx.perm lpr, kf, kf, kf, kf, cu22, cu23, cu24, cu25, cu26, kf, cu28, cu29, (nt hx12), (nt hx13), (nt hx14), (nt hx15), (nt hx16), rfl, cf0, (nt hx12)⟩
    ·
     obtain rfl := oj hi
     have hx3 := hpre 3 (by kernel_rfl)
     have hx2 := hcl 3 2 (by kernel_rfl) hx3
     have hx1 := hcl 2 1 (by kernel_rfl) hx2
     have hx0 := hcl 2 0 (by kernel_rfl) hx2
     have hx10 := hSi
     have hx11 := ngF hcl 11 10 hx10
     have hx12 := ngF hcl 12 11 hx11
     have hx13 := ngF hcl 13 12 hx12
     have hx14 := ngF hcl 14 13 hx13
     have hx15 := ngF hcl 15 14 hx14
     have hx16 := ngF hcl 16 15 hx15
     obtain rfl := cu18 hx0
     obtain rfl := cu19 hx1
     obtain rfl := cu20 hx2
     obtain rfl := cu21 hx3
     obtain rfl := cr0_0
     refine hG (any_stepG ?_); clear hG G; intro J hJ
     have hle0 := Fz.le.trans hle0 hle113
     refine st hFx (.int .i64 x9) (by rw [wanted_of hFx (b := true) rfl rfl (by kernel_rfl) (by kernel_rfl)]; rfl) rfl (by kernel_rfl) (p0 hFx (by kernel_rfl)) ?_; intro a169 hF170; clear hFx
     refine nl (qnI (hJ _ _ ?_)); clear hJ J
     exact ⟨g76, g91, .int .i64 x9, .int .i64 u1, .bool true, .bool true, ud22, ud23, ud24, ud25, ud26, ud27, .int .i64 x9, ud29, ud30, ud31, ud32, ud33, ud34, .own tyJob 110 ao1 cap2 zao1v, hle113, hF170.reg, hMx.perm lpr, kf, kf, kf, kf, cu22, cu23, cu24, cu25, cu26, cu27, kf, (nt hx11), (nt hx12), (nt hx13), (nt hx14), (nt hx15), (nt hx16), rfl, cf0, (nt hx12)⟩
    ·
     obtain rfl := oj hi
     have hx10 := hpre 10 (by kernel_rfl)
     have hx3 := hpre 3 (by kernel_rfl)
     have hx2 := hcl 3 2 (by kernel_rfl) hx3
     have hx1 := hcl 2 1 (by kernel_rfl) hx2
     have hx0 := hcl 2 0 (by kernel_rfl) hx2
     have hx11 := hSi
     have hx12 := ngF hcl 12 11 hx11
     have hx13 := ngF hcl 13 12 hx12
     have hx14 := ngF hcl 14 13 hx13
     have hx15 := ngF hcl 15 14 hx14
     have hx16 := ngF hcl 16 15 hx15
     obtain rfl := cu18 hx0
     obtain rfl := cu19 hx1
     obtain rfl := cu20 hx2
     obtain rfl := cu21 hx3
     obtain rfl := cu28 hx10
     obtain rfl := cr0_0
     refine hG (any_stepG ?_); clear hG G; intro J hJ
     have hle0 := Fz.le.trans hle0 hle113
     refine st hFx (.int .i64 (w64 (x9 - 1))) (by rw [wanted_of hFx (b := true) rfl rfl (by kernel_rfl) (by kernel_rfl)]; rfl) rfl (by kernel_rfl) (p0 hFx (by kernel_rfl)) ?_; intro a172 hF173; clear hFx
     refine nl (qnI (hJ _ _ ?_)); clear hJ J
     exact ⟨g76, g91, .int .i64 x9, .int .i64 u1, .bool true, .bool true, ud22, ud23, ud24, ud25, ud26, ud27, .int .i64 x9, .int .i64 (w64 (x9 - 1)), ud30, ud31, ud32, ud33, ud34, .own tyJob 110 ao1 cap2 zao1v, hle113, hF173.reg, hMx.perm lpr, kf, kf, kf, kf, cu22, cu23, cu24, cu25, cu26, cu27, kf, kf, (nt hx12), (nt hx13), (nt hx14), (nt hx15), (nt hx16), rfl, cf0, (nt hx12)⟩
    ·
     obtain rfl := oj hi
     have hx11 := hpre 11 (by kernel_rfl)
     have hx9 := hpre 9 (by kernel_rfl)
     have hx3 := hpre 3 (by kernel_rfl)
     have hx10 := hcl 11 10 (by kernel_rfl) hx11
     have hx2 := hcl 3 2 (by kernel_rfl) hx3
     have hx1 := hcl 2 1 (by kernel_rfl) hx2
     have hx0 := hcl 2 0 (by kernel_rfl) hx2
     have hx12 := hSi
     have hx13 := ngF hcl 13 12 hx12
     have hx14 := ngF hcl 14 13 hx13
     have hx15 := ngF hcl 15 14 hx14
     have hx16 := ngF hcl 16 15 hx15
     obtain rfl := cu18 hx0
     obtain rfl := cu19 hx1
     obtain rfl := cu20 hx2
     obtain rfl := cu21 hx3
     obtain rfl := cu27 hx9
     obtain rfl := cu28 hx10
     obtain rfl := cu29 hx11
     obtain rfl := cr0_0
     refine hG (any_stepG ?_); clear hG G; intro J hJ
     have hle0 := Fz.le.trans hle0 hle113
     refine ixo hFx hMx 0 (T := tyJob) (xs := zao1v) (w64 (x9 - 1)) (by simpa only [List.length_set] using hcd12_0) (k := .i64) (e := 110) (bytes := 24) (by rw [wanted_of hFx (b := true) rfl rfl (by kernel_rfl) (by kernel_rfl)]; rfl) rfl (by kernel_rfl) rfl (by kernel_rfl) (by kernel_rfl) rfl (by kernel_rfl) ?_; intro g175 a177 hg176 hF178; clear hFx
     refine nl (qnI (hJ _ _ ?_)); clear hJ J
     exact ⟨g76, g175, .int .i64 x9, .int .i64 u1, .bool true, .bool true, ud22, ud23, ud24, ud25, ud26, .slice ao1 zao1v.length cap2, .int .i64 x9, .int .i64 (w64 (x9 - 1)), .pointer (some ⟨g175, (w64 (x9 - 1)).toNat * 3, none⟩), ud31, ud32, ud33, ud34, .own tyJob 110 ao1 cap2 zao1v, hle113, hF178.reg, hMx.perm lpr, kf, kf, kf, kf, cu22, cu23, cu24, cu25, cu26, kf, kf, kf, kf, (nt hx13), (nt hx14), (nt hx15), (nt hx16), rfl, cf0, (fun _ => hg176)⟩
    ·
     obtain rfl := oj hi
     have hx12 := hpre 12 (by kernel_rfl)
     have hx3 := hpre 3 (by kernel_rfl)
     have hx11 := hcl 12 11 (by kernel_rfl) hx12
     have hx9 := hcl 12 9 (by kernel_rfl) hx12
     have hx2 := hcl 3 2 (by kernel_rfl) hx3
     have hx10 := hcl 11 10 (by kernel_rfl) hx11
     have hx1 := hcl 2 1 (by kernel_rfl) hx2
     have hx0 := hcl 2 0 (by kernel_rfl) hx2
     have hx13 := hSi
     have hx14 := ngF hcl 14 13 hx13
     have hx15 := ngF hcl 15 14 hx14
     have hx16 := ngF hcl 16 15 hx15
     obtain rfl := cu18 hx0
     obtain rfl := cu19 hx1
     obtain rfl := cu20 hx2
     obtain rfl := cu21 hx3
     obtain rfl := cu27 hx9
     obtain rfl := cu28 hx10
     obtain rfl := cu29 hx11
     obtain rfl := cu30 hx12
     obtain rfl := cr0_0
     refine hG (any_stepG ?_); clear hG G; intro J hJ
     have hle0 := Fz.le.trans hle0 hle113
     have hs180 := cf1 hx12
     obtain ⟨cs181, hT182, hcl183⟩ := own_elx hMx 0 (T := tyJob) (xs := zao1v) rfl hs180 (w64 (x9 - 1)).toNat hqd13_0
     obtain rfl : cs181 = ([.int .i64 qd13_0.task, .int .i64 qd13_0.from_, .int .i64 qd13_0.asked] : List Value) := hT182
     refine lc2 hFx 31 3 [.int .i64 qd13_0.task, .int .i64 qd13_0.from_, .int .i64 qd13_0.asked] hcl183 rfl ?_ (hw := (by rw [wanted_of hFx (b := true) rfl rfl (by kernel_rfl) (by kernel_rfl)]; rfl)); intro a184 hF185; clear hFx
     refine nl (qnI (hJ _ _ ?_)); clear hJ J
     exact ⟨g76, g91, .int .i64 x9, .int .i64 u1, .bool true, .bool true, ud22, ud23, ud24, ud25, ud26, .slice ao1 zao1v.length cap2, .int .i64 x9, .int .i64 (w64 (x9 - 1)), .pointer (some ⟨g91, (w64 (x9 - 1)).toNat * 3, none⟩), .agg #[.int .i64 qd13_0.task, .int .i64 qd13_0.from_, .int .i64 qd13_0.asked], ud32, ud33, ud34, .own tyJob 110 ao1 cap2 zao1v, hle113, hF185.reg, hMx.perm lpr, kf, kf, kf, kf, cu22, cu23, cu24, cu25, cu26, kf, kf, kf, kf, kf, (nt hx14), (nt hx15), (nt hx16), rfl, cf0, (fun _ => hs180)⟩
    ·
     obtain rfl := oj hi
     have hx13 := hpre 13 (by kernel_rfl)
     have hx8 := hpre 8 (by kernel_rfl)
     have hx4 := hpre 4 (by kernel_rfl)
     have hx3 := hpre 3 (by kernel_rfl)
     have hx12 := hcl 13 12 (by kernel_rfl) hx13
     have hx7 := hcl 8 7 (by kernel_rfl) hx8
     have hx2 := hcl 3 2 (by kernel_rfl) hx3
     have hx11 := hcl 12 11 (by kernel_rfl) hx12
     have hx9 := hcl 12 9 (by kernel_rfl) hx12
     have hx6 := hcl 7 6 (by kernel_rfl) hx7
     have hx5 := hcl 7 5 (by kernel_rfl) hx7
     have hx1 := hcl 2 1 (by kernel_rfl) hx2
     have hx0 := hcl 2 0 (by kernel_rfl) hx2
     have hx10 := hcl 11 10 (by kernel_rfl) hx11
     have hx14 := hSi
     have hx15 := ngF hcl 15 14 hx14
     have hx16 := ngF hcl 16 15 hx15
     obtain rfl := cu18 hx0
     obtain rfl := cu19 hx1
     obtain rfl := cu20 hx2
     obtain rfl := cu21 hx3
     obtain rfl := cu22 hx4
     obtain rfl := cu23 hx5
     obtain rfl := cu24 hx6
     obtain rfl := cu25 hx7
     obtain rfl := cu26 hx8
     obtain rfl := cu27 hx9
     obtain rfl := cu28 hx10
     obtain rfl := cu29 hx11
     obtain rfl := cu30 hx12
     obtain rfl := cu31 hx13
     obtain rfl := cr0_0
     refine hG (any_stepG ?_); clear hG G; intro J hJ
     have hle0 := Fz.le.trans hle0 hle113
     have hs187 := cf0 hx7
     have hs188 := cf1 hx12
     have hc193 := hf5 _ _ hle0 hMx.fz qd8_0 qd13_0
     refine fcl hFx hMx (.int .i64 (u3 qd8_0 qd13_0)) fid3 (#[.agg #[.int .i64 qd8_0.task, .int .i64 qd8_0.from_, .int .i64 qd8_0.asked], .agg #[.int .i64 qd13_0.task, .int .i64 qd13_0.from_, .int .i64 qd13_0.asked]] ++ caps4) (by rw [wanted_of hFx (b := true) rfl rfl (by kernel_rfl) (by kernel_rfl)]; rfl) rfl (by kernel_rfl) ?h1 ?h2 ?_
     case h1 => exact fv_run rfl (by kernel_rfl) (by kernel_rfl) hg6
     case h2 => exact hc193
     intro a189 wd191 hF190 hM192; clear hFx hMx
     refine nl (qnI (hJ _ _ ?_)); clear hJ J
     exact ⟨g76, g91, .int .i64 x9, .int .i64 u1, .bool true, .bool true, .func (.func fid3) #[] caps4, .slice ao1 zao1v.length cap2, .int .i64 x9, .pointer (some ⟨g76, x9.toNat * 3, none⟩), .agg #[.int .i64 qd8_0.task, .int .i64 qd8_0.from_, .int .i64 qd8_0.asked], .slice ao1 zao1v.length cap2, .int .i64 x9, .int .i64 (w64 (x9 - 1)), .pointer (some ⟨g91, (w64 (x9 - 1)).toNat * 3, none⟩), .agg #[.int .i64 qd13_0.task, .int .i64 qd13_0.from_, .int .i64 qd13_0.asked], .int .i64 (u3 qd8_0 qd13_0), ud33, ud34, .own tyJob 110 ao1 cap2 zao1v, hle113, hF190.reg, hM192.perm lpr, kf, kf, kf, kf, kf, kf, kf, kf, kf, kf, kf, kf, kf, kf, kf, (nt hx15), (nt hx16), rfl, (fun _ => hs187), (fun _ => hs188)⟩
    ·
     obtain rfl := oj hi
     have hx14 := hpre 14 (by kernel_rfl)
     have hx3 := hpre 3 (by kernel_rfl)
     have hx13 := hcl 14 13 (by kernel_rfl) hx14
     have hx8 := hcl 14 8 (by kernel_rfl) hx14
     have hx4 := hcl 14 4 (by kernel_rfl) hx14
     have hx2 := hcl 3 2 (by kernel_rfl) hx3
     have hx12 := hcl 13 12 (by kernel_rfl) hx13
     have hx7 := hcl 8 7 (by kernel_rfl) hx8
     have hx1 := hcl 2 1 (by kernel_rfl) hx2
     have hx0 := hcl 2 0 (by kernel_rfl) hx2
     have hx11 := hcl 12 11 (by kernel_rfl) hx12
     have hx9 := hcl 12 9 (by kernel_rfl) hx12
     have hx6 := hcl 7 6 (by kernel_rfl) hx7
     have hx5 := hcl 7 5 (by kernel_rfl) hx7
     have hx10 := hcl 11 10 (by kernel_rfl) hx11
     have hx15 := hSi
     have hx16 := ngF hcl 16 15 hx15
     obtain rfl := cu18 hx0
     obtain rfl := cu19 hx1
     obtain rfl := cu20 hx2
     obtain rfl := cu21 hx3
     obtain rfl := cu22 hx4
     obtain rfl := cu23 hx5
     obtain rfl := cu24 hx6
     obtain rfl := cu25 hx7
     obtain rfl := cu26 hx8
     obtain rfl := cu27 hx9
     obtain rfl := cu28 hx10
     obtain rfl := cu29 hx11
     obtain rfl := cu30 hx12
     obtain rfl := cu31 hx13
     obtain rfl := cu32 hx14
     obtain rfl := cr0_0
     refine hG (any_stepG ?_); clear hG G; intro J hJ
     have hle0 := Fz.le.trans hle0 hle113
     have hs195 := cf0 hx7
     have hs196 := cf1 hx12
     refine st hFx (.bool (decide ((u3 qd8_0 qd13_0) < 0))) (by rw [wanted_of hFx (b := true) rfl rfl (by kernel_rfl) (by kernel_rfl)]; rfl) rfl (by kernel_rfl) (p0 hFx (by kernel_rfl)) ?_; intro a197 hF198; clear hFx
     refine nl (qnI (hJ _ _ ?_)); clear hJ J
     exact ⟨g76, g91, .int .i64 x9, .int .i64 u1, .bool true, .bool true, .func (.func fid3) #[] caps4, .slice ao1 zao1v.length cap2, .int .i64 x9, .pointer (some ⟨g76, x9.toNat * 3, none⟩), .agg #[.int .i64 qd8_0.task, .int .i64 qd8_0.from_, .int .i64 qd8_0.asked], .slice ao1 zao1v.length cap2, .int .i64 x9, .int .i64 (w64 (x9 - 1)), .pointer (some ⟨g91, (w64 (x9 - 1)).toNat * 3, none⟩), .agg #[.int .i64 qd13_0.task, .int .i64 qd13_0.from_, .int .i64 qd13_0.asked], .int .i64 (u3 qd8_0 qd13_0), .bool (decide ((u3 qd8_0 qd13_0) < 0)), ud34, .own tyJob 110 ao1 cap2 zao1v, hle113, hF198.reg, hMx.perm lpr, kf, kf, kf, kf, kf, kf, kf, kf, kf, kf, kf, kf, kf, kf, kf, kf, (nt hx16), rfl, (fun _ => hs195), (fun _ => hs196)⟩
    ·
     obtain rfl := oj hi
     have hx15 := hpre 15 (by kernel_rfl)
     have hx3 := hpre 3 (by kernel_rfl)
     have hx14 := hcl 15 14 (by kernel_rfl) hx15
     have hx2 := hcl 3 2 (by kernel_rfl) hx3
     have hx13 := hcl 14 13 (by kernel_rfl) hx14
     have hx8 := hcl 14 8 (by kernel_rfl) hx14
     have hx4 := hcl 14 4 (by kernel_rfl) hx14
     have hx1 := hcl 2 1 (by kernel_rfl) hx2
     have hx0 := hcl 2 0 (by kernel_rfl) hx2
     have hx12 := hcl 13 12 (by kernel_rfl) hx13
     have hx7 := hcl 8 7 (by kernel_rfl) hx8
     have hx11 := hcl 12 11 (by kernel_rfl) hx12
     have hx9 := hcl 12 9 (by kernel_rfl) hx12
     have hx6 := hcl 7 6 (by kernel_rfl) hx7
     have hx5 := hcl 7 5 (by kernel_rfl) hx7
     have hx10 := hcl 11 10 (by kernel_rfl) hx11
     have hx16 := hSi
     obtain rfl := cu18 hx0
     obtain rfl := cu19 hx1
     obtain rfl := cu20 hx2
     obtain rfl := cu21 hx3
     obtain rfl := cu22 hx4
     obtain rfl := cu23 hx5
     obtain rfl := cu24 hx6
     obtain rfl := cu25 hx7
     obtain rfl := cu26 hx8
     obtain rfl := cu27 hx9
     obtain rfl := cu28 hx10
     obtain rfl := cu29 hx11
     obtain rfl := cu30 hx12
     obtain rfl := cu31 hx13
     obtain rfl := cu32 hx14
     obtain rfl := cu33 hx15
     obtain rfl := cr0_0
     refine hG (any_step ?_); clear hG G; intro A J hJ
     have hle0 := Fz.le.trans hle0 hle113
     have hs200 := cf0 hx7
     have hs201 := cf1 hx12
     refine s1 hFx 34 (.bool (decide ((u3 qd8_0 qd13_0) < 0))) ?_; intro a202 hF203; clear hFx
     refine nl (qnI (hJ _ _ ?_)); clear hJ J
     exact ⟨g76, g91, .int .i64 x9, .int .i64 u1, .bool true, .bool true, .func (.func fid3) #[] caps4, .slice ao1 zao1v.length cap2, .int .i64 x9, .pointer (some ⟨g76, x9.toNat * 3, none⟩), .agg #[.int .i64 qd8_0.task, .int .i64 qd8_0.from_, .int .i64 qd8_0.asked], .slice ao1 zao1v.length cap2, .int .i64 x9, .int .i64 (w64 (x9 - 1)), .pointer (some ⟨g91, (w64 (x9 - 1)).toNat * 3, none⟩), .agg #[.int .i64 qd13_0.task, .int .i64 qd13_0.from_, .int .i64 qd13_0.asked], .int .i64 (u3 qd8_0 qd13_0), .bool (decide ((u3 qd8_0 qd13_0) < 0)), .bool (decide ((u3 qd8_0 qd13_0) < 0)), .own tyJob 110 ao1 cap2 zao1v, hle113, hF203.reg, hMx.perm lpr, kf, kf, kf, kf, kf, kf, kf, kf, kf, kf, kf, kf, kf, kf, kf, kf, kf, rfl, (fun _ => hs200), (fun _ => hs201)⟩
   case hE =>
    intro S hS a205 wd206 hI; refine Go.Sy.hid ?_; intro G hG; obtain ⟨g76, g91, ud18, ud19, ud20, ud21, ud22, ud23, ud24, ud25, ud26, ud27, ud28, ud29, ud30, ud31, ud32, ud33, ud34, rh0, hle113, hFx, hMx, cu18, cu19, cu20, cu21, cu22, cu23, cu24, cu25, cu26, cu27, cu28, cu29, cu30, cu31, cu32, cu33, cu34, cr0_0, cf0, hI⟩ := hI; have cf1 := hI; clear hI; refine hG ?_; clear hG G
    obtain rfl := cu18 (hS 0 (by decide))
    obtain rfl := cu19 (hS 1 (by decide))
    obtain rfl := cu20 (hS 2 (by decide))
    obtain rfl := cu21 (hS 3 (by decide))
    obtain rfl := cu22 (hS 4 (by decide))
    obtain rfl := cu23 (hS 5 (by decide))
    obtain rfl := cu24 (hS 6 (by decide))
    obtain rfl := cu25 (hS 7 (by decide))
    obtain rfl := cu26 (hS 8 (by decide))
    obtain rfl := cu27 (hS 9 (by decide))
    obtain rfl := cu28 (hS 10 (by decide))
    obtain rfl := cu29 (hS 11 (by decide))
    obtain rfl := cu30 (hS 12 (by decide))
    obtain rfl := cu31 (hS 13 (by decide))
    obtain rfl := cu32 (hS 14 (by decide))
    obtain rfl := cu33 (hS 15 (by decide))
    obtain rfl := cu34 (hS 16 (by decide))
    obtain rfl := cr0_0
    have hle0 := Fz.le.trans hle0 hle113
    have hs207 := cf0 (hS 7 (by decide))
    have hs208 := cf1 (hS 12 (by decide))
    refine thn ?_
    refine cd hFx (t := decide ((u3 qd8_0 qd13_0) < 0)) (by kernel_rfl) (fun hb209 => ?_) (fun hb209 => ?_)
    ·
     have hp210 := hp112.1 hb209; clear hp112
     refine wp_skip ?_
     refine thn ?_
     refine wp_seq ?_
     refine wp_block ?_
     have hF211 : Fr 53 [] [⟨0, [], .slice ao1 zao1v.length cap2⟩, ⟨1, [], .int .i64 u1⟩, ⟨2, [], .int .i64 u2⟩, ⟨3, [], .func (.func fid3) #[] caps4⟩, ⟨8, [], .int .i64 x8⟩, ⟨9, [], .int .i64 x9⟩] a205 := hFx.reg; clear hFx
     have hcd8_0 := hp210.1; have hp262 := hp210.2; clear hp210
     obtain ⟨qd9_0, hqd9_0⟩ : ∃ q, zao1v[(w64 (x9 - 1)).toNat]? = some q := ⟨_, List.getElem?_eq_getElem (by omega)⟩; have hp263 := hp262 qd9_0 hqd9_0; clear hp262
     have hcd12_0 := hp263.1; have hp264 := hp263.2; clear hp263
     obtain ⟨qd13_0, hqd13_0⟩ : ∃ q, zao1v[x9.toNat]? = some q := ⟨_, List.getElem?_eq_getElem (by omega)⟩; have hp265 := hp264 qd13_0 hqd13_0; clear hp264
     have hcd14_0 := hp265.1; have hp266 := hp265.2; clear hp265
     have hcd16_0 := hp266.1; have hp267 := hp266.2; clear hp266
     refine any_invE mixed [[], [], [], [], [3], [], [], [6], [5, 7], [8], [], [], [10, 11], [12], [0, 1, 5, 6, 7, 8, 9, 13], [0, 1, 5, 6, 7, 8, 9, 13, 14], [0, 1, 2, 3, 4, 5, 6, 7, 8, 9, 10, 11, 12, 13, 14, 15], [0, 1, 2, 3, 4, 5, 6, 7, 8, 9, 10, 11, 12, 13, 14, 15, 16]] 18 (fun S a w1 => ∃ (g228 : Nat) (g241 : Nat) (g250 : Nat) (g256 : Nat) (ud37 : Value) (ud38 : Value) (ud39 : Value) (ud40 : Value) (ud41 : Value) (ud42 : Value) (ud43 : Value) (ud44 : Value) (ud45 : Value) (ud46 : Value) (ud47 : Value) (ud48 : Value) (ud49 : Value) (ud50 : Value) (ud51 : Value) (ud52 : Value) (rh0 : Res), Fz.le Z Z ∧ Fr 53 [] [⟨0, [], .slice ao1 zao1v.length cap2⟩, ⟨1, [], .int .i64 u1⟩, ⟨2, [], .int .i64 u2⟩, ⟨3, [], .func (.func fid3) #[] caps4⟩, ⟨8, [], .int .i64 x8⟩, ⟨9, [], .int .i64 x9⟩, ⟨37, [], ud37⟩, ⟨38, [], ud38⟩, ⟨39, [], ud39⟩, ⟨40, [], ud40⟩, ⟨41, [], ud41⟩, ⟨42, [], ud42⟩, ⟨43, [], ud43⟩, ⟨44, [], ud44⟩, ⟨45, [], ud45⟩, ⟨46, [], ud46⟩, ⟨47, [], ud47⟩, ⟨48, [], ud48⟩, ⟨49, [], ud49⟩, ⟨50, [], ud50⟩, ⟨51, [], ud51⟩, ⟨52, [], ud52⟩] a ∧ Mem B [] w0 Z0 (rh0 :: Rr) Z w1 ∧ (S 0 = true → ud37 = .slice ao1 zao1v.length cap2) ∧ (S 1 = true → ud38 = .int .i64 x9) ∧ (S 2 = true → ud39 = .slice ao1 zao1v.length cap2) ∧ (S 3 = true → ud40 = .int .i64 x9) ∧ (S 4 = true → ud41 = .int .i64 (w64 (x9 - 1))) ∧ (S 5 = true → ud42 = .slice ao1 zao1v.length cap2) ∧ (S 6 = true → ud43 = .int .i64 x9) ∧ (S 7 = true → ud44 = .int .i64 (w64 (x9 - 1))) ∧ (S 8 = true → ud45 = .pointer (some ⟨g228, (w64 (x9 - 1)).toNat * 3, none⟩)) ∧ (S 9 = true → ud46 = .agg #[.int .i64 qd9_0.task, .int .i64 qd9_0.from_, .int .i64 qd9_0.asked]) ∧ (S 10 = true → ud47 = .slice ao1 zao1v.length cap2) ∧ (S 11 = true → ud48 = .int .i64 x9) ∧ (S 12 = true → ud49 = .pointer (some ⟨g241, x9.toNat * 3, none⟩)) ∧ (S 13 = true → ud50 = .agg #[.int .i64 qd13_0.task, .int .i64 qd13_0.from_, .int .i64 qd13_0.asked]) ∧ (S 14 = true → ud51 = .pointer (some ⟨g250, x9.toNat * 3, none⟩)) ∧ (S 16 = true → ud52 = .pointer (some ⟨g256, (w64 (x9 - 1)).toNat * 3, none⟩)) ∧ (S 15 = false → rh0 = .own tyJob 110 ao1 cap2 zao1v) ∧ (S 15 = true → S 17 = false → rh0 = .own tyJob 110 ao1 cap2 (zao1v.set x9.toNat qd9_0)) ∧ (S 17 = true → rh0 = .own tyJob 110 ao1 cap2 ((zao1v.set x9.toNat qd9_0).set (w64 (x9 - 1)).toNat qd13_0)) ∧ (S 8 = true → ao1 = some ⟨g228, 0, none⟩) ∧ (S 12 = true → ao1 = some ⟨g241, 0, none⟩) ∧ (S 14 = true → ao1 = some ⟨g250, 0, none⟩) ∧ (S 16 = true → ao1 = some ⟨g256, 0, none⟩)) ?h0 ?hs ?hE
     case h0 =>
      have hF269 := hF211.any 37
      have hF270 := hF269.any 38
      have hF271 := hF270.any 39
      have hF272 := hF271.any 40
      have hF273 := hF272.any 41
      have hF274 := hF273.any 42
      have hF275 := hF274.any 43
      have hF276 := hF275.any 44
      have hF277 := hF276.any 45
      have hF278 := hF277.any 46
      have hF279 := hF278.any 47
      have hF280 := hF279.any 48
      have hF281 := hF280.any 49
      have hF282 := hF281.any 50
      have hF283 := hF282.any 51
      have hF284 := hF283.any 52
      have hM285 := (hMx.perm lpr).drew
      exact ⟨0, 0, 0, 0, a205.tmps.getD 37 undef, a205.tmps.getD 38 undef, a205.tmps.getD 39 undef, a205.tmps.getD 40 undef, a205.tmps.getD 41 undef, a205.tmps.getD 42 undef, a205.tmps.getD 43 undef, a205.tmps.getD 44 undef, a205.tmps.getD 45 undef, a205.tmps.getD 46 undef, a205.tmps.getD 47 undef, a205.tmps.getD 48 undef, a205.tmps.getD 49 undef, a205.tmps.getD 50 undef, a205.tmps.getD 51 undef, a205.tmps.getD 52 undef, .own tyJob 110 ao1 cap2 zao1v, Fz.le.refl _, hF284.reg, hM285, ff, ff, ff, ff, ff, ff, ff, ff, ff, ff, ff, ff, ff, ff, ff, ff, kf, ff, ff, ff, ff, ff, ff⟩
     case hs =>
      intro S hcl i o hil hi hSi hpre a w1 hI; refine Go.Sy.hid ?_; intro G hG; obtain ⟨g228, g241, g250, g256, ud37, ud38, ud39, ud40, ud41, ud42, ud43, ud44, ud45, ud46, ud47, ud48, ud49, ud50, ud51, ud52, rh0, hle268, hFx, hMx, cu37, cu38, cu39, cu40, cu41, cu42, cu43, cu44, cu45, cu46, cu47, cu48, cu49, cu50, cu51, cu52, cr0_0, cr0_1, cr0_2, cf0, cf1, cf2, hI⟩ := hI; have cf3 := hI; clear hI
      have hcase : i = 0 ∨ i = 1 ∨ i = 2 ∨ i = 3 ∨ i = 4 ∨ i = 5 ∨ i = 6 ∨ i = 7 ∨ i = 8 ∨ i = 9 ∨ i = 10 ∨ i = 11 ∨ i = 12 ∨ i = 13 ∨ i = 14 ∨ i = 15 ∨ i = 16 ∨ i = 17 := by clear hi; omega
      rcases hcase with rfl | rfl | rfl | rfl | rfl | rfl | rfl | rfl | rfl | rfl | rfl | rfl | rfl | rfl | rfl | rfl | rfl | rfl
      ·
       obtain rfl := oj hi
       have hx0 := hSi
       have hx14 := ngF hcl 14 0 hx0
       have hx15 := ngF hcl 15 0 hx0
       have hx16 := ngF hcl 16 0 hx0
       have hx17 := ngF hcl 17 0 hx0
       obtain rfl := cr0_0 hx15
       refine hG (any_step ?_); clear hG G; intro A J hJ
       have hle0 := Fz.le.trans hle0 hle268
       have hs286 := hs207.mono hle268
       have hs287 := hs208.mono hle268
       refine s1 hFx 37 (.slice ao1 zao1v.length cap2) ?_; intro a288 hF289; clear hFx
       refine nl (qnI (hJ _ _ ?_)); clear hJ J
       exact ⟨g228, g241, g250, g256, .slice ao1 zao1v.length cap2, ud38, ud39, ud40, ud41, ud42, ud43, ud44, ud45, ud46, ud47, ud48, ud49, ud50, ud51, ud52, .own tyJob 110 ao1 cap2 zao1v, hle268, hF289.reg, hMx.perm lpr, kf, cu38, cu39, cu40, cu41, cu42, cu43, cu44, cu45, cu46, cu47, cu48, cu49, cu50, (nt hx14), (nt hx16), kf, (fun h _ => nt hx15 h), (nt hx17), cf0, cf1, (nt hx14), (nt hx16)⟩
      ·
       obtain rfl := oj hi
       have hx1 := hSi
       have hx14 := ngF hcl 14 1 hx1
       have hx15 := ngF hcl 15 1 hx1
       have hx16 := ngF hcl 16 1 hx1
       have hx17 := ngF hcl 17 1 hx1
       obtain rfl := cr0_0 hx15
       refine hG (any_step ?_); clear hG G; intro A J hJ
       have hle0 := Fz.le.trans hle0 hle268
       have hs291 := hs207.mono hle268
       have hs292 := hs208.mono hle268
       refine s1 hFx 38 (.int .i64 x9) ?_; intro a293 hF294; clear hFx
       refine nl (qnI (hJ _ _ ?_)); clear hJ J
       exact ⟨g228, g241, g250, g256, ud37, .int .i64 x9, ud39, ud40, ud41, ud42, ud43, ud44, ud45, ud46, ud47, ud48, ud49, ud50, ud51, ud52, .own tyJob 110 ao1 cap2 zao1v, hle268, hF294.reg, hMx.perm lpr, cu37, kf, cu39, cu40, cu41, cu42, cu43, cu44, cu45, cu46, cu47, cu48, cu49, cu50, (nt hx14), (nt hx16), kf, (fun h _ => nt hx15 h), (nt hx17), cf0, cf1, (nt hx14), (nt hx16)⟩
      ·
       obtain rfl := oj hi
       have hx2 := hSi
       have hx16 := ngF hcl 16 2 hx2
       have hx17 := ngF hcl 17 2 hx2
       refine hG (any_step ?_); clear hG G; intro A J hJ
       have hle0 := Fz.le.trans hle0 hle268
       have hs296 := hs207.mono hle268
       have hs297 := hs208.mono hle268
       refine s1 hFx 39 (.slice ao1 zao1v.length cap2) ?_; intro a298 hF299; clear hFx
       refine nl (qnI (hJ _ _ ?_)); clear hJ J
       exact ⟨g228, g241, g250, g256, ud37, ud38, .slice ao1 zao1v.length cap2, ud40, ud41, ud42, ud43, ud44, ud45, ud46, ud47, ud48, ud49, ud50, ud51, ud52, rh0, hle268, hF299.reg, hMx.perm lpr, cu37, cu38, kf, cu40, cu41, cu42, cu43, cu44, cu45, cu46, cu47, cu48, cu49, cu50, cu51, (nt hx16), cr0_0, cr0_1, (nt hx17), cf0, cf1, cf2, (nt hx16)⟩
      ·
       obtain rfl := oj hi
       have hx3 := hSi
       have hx4 := ngF hcl 4 3 hx3
       have hx16 := ngF hcl 16 3 hx3
       have hx17 := ngF hcl 17 3 hx3
       refine hG (any_step ?_); clear hG G; intro A J hJ
       have hle0 := Fz.le.trans hle0 hle268
       have hs301 := hs207.mono hle268
       have hs302 := hs208.mono hle268
       refine s1 hFx 40 (.int .i64 x9) ?_; intro a303 hF304; clear hFx
       refine nl (qnI (hJ _ _ ?_)); clear hJ J
       exact ⟨g228, g241, g250, g256, ud37, ud38, ud39, .int .i64 x9, ud41, ud42, ud43, ud44, ud45, ud46, ud47, ud48, ud49, ud50, ud51, ud52, rh0, hle268, hF304.reg, hMx.perm lpr, cu37, cu38, cu39, kf, (nt hx4), cu42, cu43, cu44, cu45, cu46, cu47, cu48, cu49, cu50, cu51, (nt hx16), cr0_0, cr0_1, (nt hx17), cf0, cf1, cf2, (nt hx16)⟩
      ·
       obtain rfl := oj hi
       have hx3 := hpre 3 (by kernel_rfl)
       have hx4 := hSi
       have hx16 := ngF hcl 16 4 hx4
       have hx17 := ngF hcl 17 4 hx4
       obtain rfl := cu40 hx3
       refine hG (any_step ?_); clear hG G; intro A J hJ
       have hle0 := Fz.le.trans hle0 hle268
       have hs306 := hs207.mono hle268
       have hs307 := hs208.mono hle268
       refine s1 hFx 41 (.int .i64 (w64 (x9 - 1))) ?_; intro a308 hF309; clear hFx
       refine nl (qnI (hJ _ _ ?_)); clear hJ J
       exact ⟨g228, g241, g250, g256, ud37, ud38, ud39, .int .i64 x9, .int .i64 (w64 (x9 - 1)), ud42, ud43, ud44, ud45, ud46, ud47, ud48, ud49, ud50, ud51, ud52, rh0, hle268, hF309.reg, hMx.perm lpr, cu37, cu38, cu39, kf, kf, cu42, cu43, cu44, cu45, cu46, cu47, cu48, cu49, cu50, cu51, (nt hx16), cr0_0, cr0_1, (nt hx17), cf0, cf1, cf2, (nt hx16)⟩
      ·
       obtain rfl := oj hi
       have hx5 := hSi
       have hx8 := ngF hcl 8 5 hx5
       have hx9 := ngF hcl 9 8 hx8
       have hx14 := ngF hcl 14 5 hx5
       have hx15 := ngF hcl 15 5 hx5
       have hx16 := ngF hcl 16 5 hx5
       have hx17 := ngF hcl 17 5 hx5
       obtain rfl := cr0_0 hx15
       refine hG (any_step ?_); clear hG G; intro A J hJ
       have hle0 := Fz.le.trans hle0 hle268
       have hs311 := hs207.mono hle268
       have hs312 := hs208.mono hle268
       refine s1 hFx 42 (.slice ao1 zao1v.length cap2) ?_; intro a313 hF314; clear hFx
       refine nl (qnI (hJ _ _ ?_)); clear hJ J
       exact ⟨g228, g241, g250, g256, ud37, ud38, ud39, ud40, ud41, .slice ao1 zao1v.length cap2, ud43, ud44, ud45, ud46, ud47, ud48, ud49, ud50, ud51, ud52, .own tyJob 110 ao1 cap2 zao1v, hle268, hF314.reg, hMx.perm lpr, cu37, cu38, cu39, cu40, cu41, kf, cu43, cu44, (nt hx8), (nt hx9), cu47, cu48, cu49, cu50, (nt hx14), (nt hx16), kf, (fun h _ => nt hx15 h), (nt hx17), (nt hx8), cf1, (nt hx14), (nt hx16)⟩
      ·
       obtain rfl := oj hi
       have hx6 := hSi
       have hx7 := ngF hcl 7 6 hx6
       have hx8 := ngF hcl 8 7 hx7
       have hx9 := ngF hcl 9 8 hx8
       have hx14 := ngF hcl 14 6 hx6
       have hx15 := ngF hcl 15 6 hx6
       have hx16 := ngF hcl 16 6 hx6
       have hx17 := ngF hcl 17 6 hx6
       obtain rfl := cr0_0 hx15
       refine hG (any_step ?_); clear hG G; intro A J hJ
       have hle0 := Fz.le.trans hle0 hle268
       have hs316 := hs207.mono hle268
       have hs317 := hs208.mono hle268
       refine s1 hFx 43 (.int .i64 x9) ?_; intro a318 hF319; clear hFx
       refine nl (qnI (hJ _ _ ?_)); clear hJ J
       exact ⟨g228, g241, g250, g256, ud37, ud38, ud39, ud40, ud41, ud42, .int .i64 x9, ud44, ud45, ud46, ud47, ud48, ud49, ud50, ud51, ud52, .own tyJob 110 ao1 cap2 zao1v, hle268, hF319.reg, hMx.perm lpr, cu37, cu38, cu39, cu40, cu41, cu42, kf, (nt hx7), (nt hx8), (nt hx9), cu47, cu48, cu49, cu50, (nt hx14), (nt hx16), kf, (fun h _ => nt hx15 h), (nt hx17), (nt hx8), cf1, (nt hx14), (nt hx16)⟩
      ·
       obtain rfl := oj hi
       have hx6 := hpre 6 (by kernel_rfl)
       have hx7 := hSi
       have hx8 := ngF hcl 8 7 hx7
       have hx9 := ngF hcl 9 8 hx8
       have hx14 := ngF hcl 14 7 hx7
       have hx15 := ngF hcl 15 7 hx7
       have hx16 := ngF hcl 16 7 hx7
       have hx17 := ngF hcl 17 7 hx7
       obtain rfl := cu43 hx6
       obtain rfl := cr0_0 hx15
       refine hG (any_step ?_); clear hG G; intro A J hJ
       have hle0 := Fz.le.trans hle0 hle268
       have hs321 := hs207.mono hle268
       have hs322 := hs208.mono hle268
       refine s1 hFx 44 (.int .i64 (w64 (x9 - 1))) ?_; intro a323 hF324; clear hFx
       refine nl (qnI (hJ _ _ ?_)); clear hJ J
       exact ⟨g228, g241, g250, g256, ud37, ud38, ud39, ud40, ud41, ud42, .int .i64 x9, .int .i64 (w64 (x9 - 1)), ud45, ud46, ud47, ud48, ud49, ud50, ud51, ud52, .own tyJob 110 ao1 cap2 zao1v, hle268, hF324.reg, hMx.perm lpr, cu37, cu38, cu39, cu40, cu41, cu42, kf, kf, (nt hx8), (nt hx9), cu47, cu48, cu49, cu50, (nt hx14), (nt hx16), kf, (fun h _ => nt hx15 h), (nt hx17), (nt hx8), cf1, (nt hx14), (nt hx16)⟩
      ·
       obtain rfl := oj hi
       have hx7 := hpre 7 (by kernel_rfl)
       have hx5 := hpre 5 (by kernel_rfl)
       have hx6 := hcl 7 6 (by kernel_rfl) hx7
       have hx8 := hSi
       have hx9 := ngF hcl 9 8 hx8
       have hx14 := ngF hcl 14 8 hx8
       have hx15 := ngF hcl 15 8 hx8
       have hx16 := ngF hcl 16 8 hx8
       have hx17 := ngF hcl 17 8 hx8
       obtain rfl := cu42 hx5
       obtain rfl := cu43 hx6
       obtain rfl := cu44 hx7
       obtain rfl := cr0_0 hx15
       refine hG (any_step ?_); clear hG G; intro A J hJ
       have hle0 := Fz.le.trans hle0 hle268
       have hs326 := hs207.mono hle268
       have hs327 := hs208.mono hle268
       refine ixo hFx hMx 0 (T := tyJob) (xs := zao1v) (w64 (x9 - 1)) (by simpa only [List.length_set] using hcd8_0) (k := .i64) (e := 110) (bytes := 24) (nog rfl _) rfl (by kernel_rfl) rfl (by kernel_rfl) (by kernel_rfl) rfl (by kernel_rfl) ?_; intro g328 a330 hg329 hF331; clear hFx
       refine nl (qnI (hJ _ _ ?_)); clear hJ J
       exact ⟨g328, g241, g250, g256, ud37, ud38, ud39, ud40, ud41, .slice ao1 zao1v.length cap2, .int .i64 x9, .int .i64 (w64 (x9 - 1)), .pointer (some ⟨g328, (w64 (x9 - 1)).toNat * 3, none⟩), ud46, ud47, ud48, ud49, ud50, ud51, ud52, .own tyJob 110 ao1 cap2 zao1v, hle268, hF331.reg, hMx.perm lpr, cu37, cu38, cu39, cu40, cu41, kf, kf, kf, kf, (nt hx9), cu47, cu48, cu49, cu50, (nt hx14), (nt hx16), kf, (fun h _ => nt hx15 h), (nt hx17), (fun _ => hg329), cf1, (nt hx14), (nt hx16)⟩
      ·
       obtain rfl := oj hi
       have hx8 := hpre 8 (by kernel_rfl)
       have hx7 := hcl 8 7 (by kernel_rfl) hx8
       have hx5 := hcl 8 5 (by kernel_rfl) hx8
       have hx6 := hcl 7 6 (by kernel_rfl) hx7
       have hx9 := hSi
       have hx14 := ngF hcl 14 9 hx9
       have hx15 := ngF hcl 15 9 hx9
       have hx16 := ngF hcl 16 9 hx9
       have hx17 := ngF hcl 17 9 hx9
       obtain rfl := cu42 hx5
       obtain rfl := cu43 hx6
       obtain rfl := cu44 hx7
       obtain rfl := cu45 hx8
       obtain rfl := cr0_0 hx15
       refine hG (any_step ?_); clear hG G; intro A J hJ
       have hle0 := Fz.le.trans hle0 hle268
       have hs333 := hs207.mono hle268
       have hs334 := hs208.mono hle268
       have hs335 := cf0 hx8
       obtain ⟨cs336, hT337, hcl338⟩ := own_elx hMx 0 (T := tyJob) (xs := zao1v) rfl hs335 (w64 (x9 - 1)).toNat hqd9_0
       obtain rfl : cs336 = ([.int .i64 qd9_0.task, .int .i64 qd9_0.from_, .int .i64 qd9_0.asked] : List Value) := hT337
       refine lc2 hFx 46 3 [.int .i64 qd9_0.task, .int .i64 qd9_0.from_, .int .i64 qd9_0.asked] hcl338 rfl ?_; intro a339 hF340; clear hFx
       refine nl (qnI (hJ _ _ ?_)); clear hJ J
       exact ⟨g228, g241, g250, g256, ud37, ud38, ud39, ud40, ud41, .slice ao1 zao1v.length cap2, .int .i64 x9, .int .i64 (w64 (x9 - 1)), .pointer (some ⟨g228, (w64 (x9 - 1)).toNat * 3, none⟩), .agg #[.int .i64 qd9_0.task, .int .i64 qd9_0.from_, .int .i64 qd9_0.asked], ud47, ud48, ud49, ud50, ud51, ud52, .own tyJob 110 ao1 cap2 zao1v, hle268, hF340.reg, hMx.perm lpr, cu37, cu38, cu39, cu40, cu41, kf, kf, kf, kf, kf, cu47, cu48, cu49, cu50, (nt hx14), (nt hx16), kf, (fun h _ => nt hx15 h), (nt hx17), (fun _ => hs335), cf1, (nt hx14), (nt hx16)⟩
      ·
       obtain rfl := oj hi
       have hx10 := hSi
       have hx12 := ngF hcl 12 10 hx10
       have hx13 := ngF hcl 13 12 hx12
       have hx14 := ngF hcl 14 13 hx13
       have hx15 := ngF hcl 15 13 hx13
       have hx16 := ngF hcl 16 10 hx10
       have hx17 := ngF hcl 17 10 hx10
       obtain rfl := cr0_0 hx15
       refine hG (any_step ?_); clear hG G; intro A J hJ
       have hle0 := Fz.le.trans hle0 hle268
       have hs342 := hs207.mono hle268
       have hs343 := hs208.mono hle268
       refine s1 hFx 47 (.slice ao1 zao1v.length cap2) ?_; intro a344 hF345; clear hFx
       refine nl (qnI (hJ _ _ ?_)); clear hJ J
       exact ⟨g228, g241, g250, g256, ud37, ud38, ud39, ud40, ud41, ud42, ud43, ud44, ud45, ud46, .slice ao1 zao1v.length cap2, ud48, ud49, ud50, ud51, ud52, .own tyJob 110 ao1 cap2 zao1v, hle268, hF345.reg, hMx.perm lpr, cu37, cu38, cu39, cu40, cu41, cu42, cu43, cu44, cu45, cu46, kf, cu48, (nt hx12), (nt hx13), (nt hx14), (nt hx16), kf, (fun h _ => nt hx15 h), (nt hx17), cf0, (nt hx12), (nt hx14), (nt hx16)⟩
      ·
       obtain rfl := oj hi
       have hx11 := hSi
       have hx12 := ngF hcl 12 11 hx11
       have hx13 := ngF hcl 13 12 hx12
       have hx14 := ngF hcl 14 13 hx13
       have hx15 := ngF hcl 15 13 hx13
       have hx16 := ngF hcl 16 11 hx11
       have hx17 := ngF hcl 17 11 hx11
       obtain rfl := cr0_0 hx15
       refine hG (any_step ?_); clear hG G; intro A J hJ
       have hle0 := Fz.le.trans hle0 hle268
       have hs347 := hs207.mono hle268
       have hs348 := hs208.mono hle268
       refine s1 hFx 48 (.int .i64 x9) ?_; intro a349 hF350; clear hFx
       refine nl (qnI (hJ _ _ ?_)); clear hJ J
       exact ⟨g228, g241, g250, g256, ud37, ud38, ud39, ud40, ud41, ud42, ud43, ud44, ud45, ud46, ud47, .int .i64 x9, ud49, ud50, ud51, ud52, .own tyJob 110 ao1 cap2 zao1v, hle268, hF350.reg, hMx.perm lpr, cu37, cu38, cu39, cu40, cu41, cu42, cu43, cu44, cu45, cu46, cu47, kf, (nt hx12), (nt hx13), (nt hx14), (nt hx16), kf, (fun h _ => nt hx15 h), (nt hx17), cf0, (nt hx12), (nt hx14), (nt hx16)⟩
      ·
       obtain rfl := oj hi
       have hx11 := hpre 11 (by kernel_rfl)
       have hx10 := hpre 10 (by kernel_rfl)
       have hx12 := hSi
       have hx13 := ngF hcl 13 12 hx12
       have hx14 := ngF hcl 14 13 hx13
       have hx15 := ngF hcl 15 13 hx13
       have hx16 := ngF hcl 16 12 hx12
       have hx17 := ngF hcl 17 12 hx12
       obtain rfl := cu47 hx10
       obtain rfl := cu48 hx11
       obtain rfl := cr0_0 hx15
       refine hG (any_step ?_); clear hG G; intro A J hJ
       have hle0 := Fz.le.trans hle0 hle268
       have hs352 := hs207.mono hle268
       have hs353 := hs208.mono hle268
       refine ixo hFx hMx 0 (T := tyJob) (xs := zao1v) x9 (by simpa only [List.length_set] using hcd12_0) (k := .i64) (e := 110) (bytes := 24) (nog rfl _) rfl (by kernel_rfl) rfl (by kernel_rfl) (by kernel_rfl) rfl (by kernel_rfl) ?_; intro g354 a356 hg355 hF357; clear hFx
       refine nl (qnI (hJ _ _ ?_)); clear hJ J
       exact ⟨g228, g354, g250, g256, ud37, ud38, ud39, ud40, ud41, ud42, ud43, ud44, ud45, ud46, .slice ao1 zao1v.length cap2, .int .i64 x9, .pointer (some ⟨g354, x9.toNat * 3, none⟩), ud50, ud51, ud52, .own tyJob 110 ao1 cap2 zao1v, hle268, hF357.reg, hMx.perm lpr, cu37, cu38, cu39, cu40, cu41, cu42, cu43, cu44, cu45, cu46, kf, kf, kf, (nt hx13), (nt hx14), (nt hx16), kf, (fun h _ => nt hx15 h), (nt hx17), cf0, (fun _ => hg355), (nt hx14), (nt hx16)⟩
      ·
       obtain rfl := oj hi
       have hx12 := hpre 12 (by kernel_rfl)
       have hx11 := hcl 12 11 (by kernel_rfl) hx12
       have hx10 := hcl 12 10 (by kernel_rfl) hx12
       have hx13 := hSi
       have hx14 := ngF hcl 14 13 hx13
       have hx15 := ngF hcl 15 13 hx13
       have hx16 := ngF hcl 16 13 hx13
       have hx17 := ngF hcl 17 13 hx13
       obtain rfl := cu47 hx10
       obtain rfl := cu48 hx11
       obtain rfl := cu49 hx12
       obtain rfl := cr0_0 hx15
       refine hG (any_step ?_); clear hG G; intro A J hJ
       have hle0 := Fz.le.trans hle0 hle268
       have hs359 := hs207.mono hle268
       have hs360 := hs208.mono hle268
       have hs361 := cf1 hx12
       obtain ⟨cs362, hT363, hcl364⟩ := own_elx hMx 0 (T := tyJob) (xs := zao1v) rfl hs361 x9.toNat hqd13_0
       obtain rfl : cs362 = ([.int .i64 qd13_0.task, .int .i64 qd13_0.from_, .int .i64 qd13_0.asked] : List Value) := hT363
       refine lc2 hFx 50 3 [.int .i64 qd13_0.task, .int .i64 qd13_0.from_, .int .i64 qd13_0.asked] hcl364 rfl ?_; intro a365 hF366; clear hFx
       refine nl (qnI (hJ _ _ ?_)); clear hJ J
       exact ⟨g228, g241, g250, g256, ud37, ud38, ud39, ud40, ud41, ud42, ud43, ud44, ud45, ud46, .slice ao1 zao1v.length cap2, .int .i64 x9, .pointer (some ⟨g241, x9.toNat * 3, none⟩), .agg #[.int .i64 qd13_0.task, .int .i64 qd13_0.from_, .int .i64 qd13_0.asked], ud51, ud52, .own tyJob 110 ao1 cap2 zao1v, hle268, hF366.reg, hMx.perm lpr, cu37, cu38, cu39, cu40, cu41, cu42, cu43, cu44, cu45, cu46, kf, kf, kf, kf, (nt hx14), (nt hx16), kf, (fun h _ => nt hx15 h), (nt hx17), cf0, (fun _ => hs361), (nt hx14), (nt hx16)⟩
      ·
       obtain rfl := oj hi
       have hx13 := hpre 13 (by kernel_rfl)
       have hx9 := hpre 9 (by kernel_rfl)
       have hx8 := hpre 8 (by kernel_rfl)
       have hx7 := hpre 7 (by kernel_rfl)
       have hx6 := hpre 6 (by kernel_rfl)
       have hx5 := hpre 5 (by kernel_rfl)
       have hx1 := hpre 1 (by kernel_rfl)
       have hx0 := hpre 0 (by kernel_rfl)
       have hx12 := hcl 13 12 (by kernel_rfl) hx13
       have hx11 := hcl 12 11 (by kernel_rfl) hx12
       have hx10 := hcl 12 10 (by kernel_rfl) hx12
       have hx14 := hSi
       have hx15 := ngF hcl 15 14 hx14
       have hx16 := ngF hcl 16 14 hx14
       have hx17 := ngF hcl 17 14 hx14
       obtain rfl := cu37 hx0
       obtain rfl := cu38 hx1
       obtain rfl := cu42 hx5
       obtain rfl := cu43 hx6
       obtain rfl := cu44 hx7
       obtain rfl := cu45 hx8
       obtain rfl := cu46 hx9
       obtain rfl := cu47 hx10
       obtain rfl := cu48 hx11
       obtain rfl := cu49 hx12
       obtain rfl := cu50 hx13
       obtain rfl := cr0_0 hx15
       refine hG (any_step ?_); clear hG G; intro A J hJ
       have hle0 := Fz.le.trans hle0 hle268
       have hs368 := hs207.mono hle268
       have hs369 := hs208.mono hle268
       have hs370 := cf0 hx8
       have hs371 := cf1 hx12
       refine ixo hFx hMx 0 (T := tyJob) (xs := zao1v) x9 (by simpa only [List.length_set] using hcd14_0) (k := .i64) (e := 110) (bytes := 24) (nog rfl _) rfl (by kernel_rfl) rfl (by kernel_rfl) (by kernel_rfl) rfl (by kernel_rfl) ?_; intro g372 a374 hg373 hF375; clear hFx
       refine nl (qnI (hJ _ _ ?_)); clear hJ J
       exact ⟨g228, g241, g372, g256, .slice ao1 zao1v.length cap2, .int .i64 x9, ud39, ud40, ud41, .slice ao1 zao1v.length cap2, .int .i64 x9, .int .i64 (w64 (x9 - 1)), .pointer (some ⟨g228, (w64 (x9 - 1)).toNat * 3, none⟩), .agg #[.int .i64 qd9_0.task, .int .i64 qd9_0.from_, .int .i64 qd9_0.asked], .slice ao1 zao1v.length cap2, .int .i64 x9, .pointer (some ⟨g241, x9.toNat * 3, none⟩), .agg #[.int .i64 qd13_0.task, .int .i64 qd13_0.from_, .int .i64 qd13_0.asked], .pointer (some ⟨g372, x9.toNat * 3, none⟩), ud52, .own tyJob 110 ao1 cap2 zao1v, hle268, hF375.reg, hMx.perm lpr, kf, kf, cu39, cu40, cu41, kf, kf, kf, kf, kf, kf, kf, kf, kf, kf, (nt hx16), kf, (fun h _ => nt hx15 h), (nt hx17), (fun _ => hs370), (fun _ => hs371), (fun _ => hg373), (nt hx16)⟩
      ·
       obtain rfl := oj hi
       have hx14 := hpre 14 (by kernel_rfl)
       have hx13 := hpre 13 (by kernel_rfl)
       have hx9 := hpre 9 (by kernel_rfl)
       have hx8 := hpre 8 (by kernel_rfl)
       have hx7 := hpre 7 (by kernel_rfl)
       have hx6 := hpre 6 (by kernel_rfl)
       have hx5 := hpre 5 (by kernel_rfl)
       have hx1 := hpre 1 (by kernel_rfl)
       have hx0 := hpre 0 (by kernel_rfl)
       have hx12 := hcl 13 12 (by kernel_rfl) hx13
       have hx11 := hcl 12 11 (by kernel_rfl) hx12
       have hx10 := hcl 12 10 (by kernel_rfl) hx12
       have hx15 := hSi
       have hx16 := ngF hcl 16 15 hx15
       have hx17 := ngF hcl 17 15 hx15
       obtain rfl := cu37 hx0
       obtain rfl := cu38 hx1
       obtain rfl := cu42 hx5
       obtain rfl := cu43 hx6
       obtain rfl := cu44 hx7
       obtain rfl := cu45 hx8
       obtain rfl := cu46 hx9
       obtain rfl := cu47 hx10
       obtain rfl := cu48 hx11
       obtain rfl := cu49 hx12
       obtain rfl := cu50 hx13
       obtain rfl := cu51 hx14
       obtain rfl := cr0_0 hx15
       refine hG (any_step ?_); clear hG G; intro A J hJ
       have hle0 := Fz.le.trans hle0 hle268
       have hs377 := hs207.mono hle268
       have hs378 := hs208.mono hle268
       have hs379 := cf0 hx8
       have hs380 := cf1 hx12
       have hs381 := cf2 hx14
       refine sox hFx hMx 0 hs381 (T := tyJob) (xs := zao1v) x9.toNat qd9_0 (u := .agg #[.int .i64 qd9_0.task, .int .i64 qd9_0.from_, .int .i64 qd9_0.asked]) (nog rfl _) rfl rfl (by kernel_rfl) rfl (by kernel_rfl) rfl (by kernel_rfl) (by first | omega | (simp only [List.length_set] at *; omega)) rfl ?_; intro wd382 hM383; clear hMx
       refine nl (qnI (hJ _ _ ?_)); clear hJ J
       exact ⟨g228, g241, g250, g256, .slice ao1 zao1v.length cap2, .int .i64 x9, ud39, ud40, ud41, .slice ao1 zao1v.length cap2, .int .i64 x9, .int .i64 (w64 (x9 - 1)), .pointer (some ⟨g228, (w64 (x9 - 1)).toNat * 3, none⟩), .agg #[.int .i64 qd9_0.task, .int .i64 qd9_0.from_, .int .i64 qd9_0.asked], .slice ao1 zao1v.length cap2, .int .i64 x9, .pointer (some ⟨g241, x9.toNat * 3, none⟩), .agg #[.int .i64 qd13_0.task, .int .i64 qd13_0.from_, .int .i64 qd13_0.asked], .pointer (some ⟨g250, x9.toNat * 3, none⟩), ud52, .own tyJob 110 ao1 cap2 (zao1v.set x9.toNat qd9_0), hle268, hFx.reg, hM383.perm lpr, kf, kf, cu39, cu40, cu41, kf, kf, kf, kf, kf, kf, kf, kf, kf, kf, (nt hx16), nu, kf2, (nt hx17), (fun _ => hs379), (fun _ => hs380), (fun _ => hs381), (nt hx16)⟩
      ·
       obtain rfl := oj hi
       have hx15 := hpre 15 (by kernel_rfl)
       have hx14 := hpre 14 (by kernel_rfl)
       have hx13 := hpre 13 (by kernel_rfl)
       have hx12 := hpre 12 (by kernel_rfl)
       have hx11 := hpre 11 (by kernel_rfl)
       have hx10 := hpre 10 (by kernel_rfl)
       have hx9 := hpre 9 (by kernel_rfl)
       have hx8 := hpre 8 (by kernel_rfl)
       have hx7 := hpre 7 (by kernel_rfl)
       have hx6 := hpre 6 (by kernel_rfl)
       have hx5 := hpre 5 (by kernel_rfl)
       have hx4 := hpre 4 (by kernel_rfl)
       have hx3 := hpre 3 (by kernel_rfl)
       have hx2 := hpre 2 (by kernel_rfl)
       have hx1 := hpre 1 (by kernel_rfl)
       have hx0 := hpre 0 (by kernel_rfl)
       have hx16 := hSi
       have hx17 := ngF hcl 17 16 hx16
       obtain rfl := cu37 hx0
       obtain rfl := cu38 hx1
       obtain rfl := cu39 hx2
       obtain rfl := cu40 hx3
       obtain rfl := cu41 hx4
       obtain rfl := cu42 hx5
       obtain rfl := cu43 hx6
       obtain rfl := cu44 hx7
       obtain rfl := cu45 hx8
       obtain rfl := cu46 hx9
       obtain rfl := cu47 hx10
       obtain rfl := cu48 hx11
       obtain rfl := cu49 hx12
       obtain rfl := cu50 hx13
       obtain rfl := cu51 hx14
       obtain rfl := cr0_1 hx15 hx17
       refine hG (any_step ?_); clear hG G; intro A J hJ
       have hle0 := Fz.le.trans hle0 hle268
       have hs385 := hs207.mono hle268
       have hs386 := hs208.mono hle268
       have hs387 := cf0 hx8
       have hs388 := cf1 hx12
       have hs389 := cf2 hx14
       have hl390 : (zao1v.set x9.toNat qd9_0).length = zao1v.length := by simp; try omega
       have hF391 : Fr 53 [] [⟨0, [], .slice ao1 (zao1v.set x9.toNat qd9_0).length cap2⟩, ⟨1, [], .int .i64 u1⟩, ⟨2, [], .int .i64 u2⟩, ⟨3, [], .func (.func fid3) #[] caps4⟩, ⟨8, [], .int .i64 x8⟩, ⟨9, [], .int .i64 x9⟩, ⟨37, [], .slice ao1 (zao1v.set x9.toNat qd9_0).length cap2⟩, ⟨38, [], .int .i64 x9⟩, ⟨39, [], .slice ao1 (zao1v.set x9.toNat qd9_0).length cap2⟩, ⟨40, [], .int .i64 x9⟩, ⟨41, [], .int .i64 (w64 (x9 - 1))⟩, ⟨42, [], .slice ao1 (zao1v.set x9.toNat qd9_0).length cap2⟩, ⟨43, [], .int .i64 x9⟩, ⟨44, [], .int .i64 (w64 (x9 - 1))⟩, ⟨45, [], .pointer (some ⟨g228, (w64 (x9 - 1)).toNat * 3, none⟩)⟩, ⟨46, [], .agg #[.int .i64 qd9_0.task, .int .i64 qd9_0.from_, .int .i64 qd9_0.asked]⟩, ⟨47, [], .slice ao1 (zao1v.set x9.toNat qd9_0).length cap2⟩, ⟨48, [], .int .i64 x9⟩, ⟨49, [], .pointer (some ⟨g241, x9.toNat * 3, none⟩)⟩, ⟨50, [], .agg #[.int .i64 qd13_0.task, .int .i64 qd13_0.from_, .int .i64 qd13_0.asked]⟩, ⟨51, [], .pointer (some ⟨g250, x9.toNat * 3, none⟩)⟩, ⟨52, [], ud52⟩] a := by rw [hl390]; exact hFx.reg
       clear hFx
       refine ixo hF391 hMx 0 (T := tyJob) (xs := zao1v.set x9.toNat qd9_0) (w64 (x9 - 1)) (by simpa only [List.length_set] using hcd16_0) (k := .i64) (e := 110) (bytes := 24) (nog rfl _) rfl (by kernel_rfl) rfl (by kernel_rfl) (by kernel_rfl) rfl (by kernel_rfl) ?_; intro g392 a394 hg393 hF395; clear hF391
       refine nl (qnI (hJ _ _ ?_)); clear hJ J
       rw [hl390] at hF395
       exact ⟨g228, g241, g250, g392, .slice ao1 zao1v.length cap2, .int .i64 x9, .slice ao1 zao1v.length cap2, .int .i64 x9, .int .i64 (w64 (x9 - 1)), .slice ao1 zao1v.length cap2, .int .i64 x9, .int .i64 (w64 (x9 - 1)), .pointer (some ⟨g228, (w64 (x9 - 1)).toNat * 3, none⟩), .agg #[.int .i64 qd9_0.task, .int .i64 qd9_0.from_, .int .i64 qd9_0.asked], .slice ao1 zao1v.length cap2, .int .i64 x9, .pointer (some ⟨g241, x9.toNat * 3, none⟩), .agg #[.int .i64 qd13_0.task, .int .i64 qd13_0.from_, .int .i64 qd13_0.asked], .pointer (some ⟨g250, x9.toNat * 3, none⟩), .pointer (some ⟨g392, (w64 (x9 - 1)).toNat * 3, none⟩), .own tyJob 110 ao1 cap2 (zao1v.set x9.toNat qd9_0), hle268, hF395.reg, hMx.perm lpr, (fun _ => by first | rfl | rw [hl390]), (fun _ => by first | rfl | rw [hl390]), (fun _ => by first | rfl | rw [hl390]), (fun _ => by first | rfl | rw [hl390]), (fun _ => by first | rfl | rw [hl390]), (fun _ => by first | rfl | rw [hl390]), (fun _ => by first | rfl | rw [hl390]), (fun _ => by first | rfl | rw [hl390]), (fun _ => by first | rfl | rw [hl390]), (fun _ => by first | rfl | rw [hl390]), (fun _ => by first | rfl | rw [hl390]), (fun _ => by first | rfl | rw [hl390]), (fun _ => by first | rfl | rw [hl390]), (fun _ => by first | rfl | rw [hl390]), (fun _ => by first | rfl | rw [hl390]), (fun _ => by first | rfl | rw [hl390]), (tn hx15), kf2, (nt hx17), (fun _ => hs387), (fun _ => hs388), (fun _ => hs389), (fun _ => hg393)⟩
      ·
       obtain rfl := oj hi
       have hx16 := hpre 16 (by kernel_rfl)
       have hx15 := hpre 15 (by kernel_rfl)
       have hx14 := hpre 14 (by kernel_rfl)
       have hx13 := hpre 13 (by kernel_rfl)
       have hx12 := hpre 12 (by kernel_rfl)
       have hx11 := hpre 11 (by kernel_rfl)
       have hx10 := hpre 10 (by kernel_rfl)
       have hx9 := hpre 9 (by kernel_rfl)
       have hx8 := hpre 8 (by kernel_rfl)
       have hx7 := hpre 7 (by kernel_rfl)
       have hx6 := hpre 6 (by kernel_rfl)
       have hx5 := hpre 5 (by kernel_rfl)
       have hx4 := hpre 4 (by kernel_rfl)
       have hx3 := hpre 3 (by kernel_rfl)
       have hx2 := hpre 2 (by kernel_rfl)
       have hx1 := hpre 1 (by kernel_rfl)
       have hx0 := hpre 0 (by kernel_rfl)
       have hx17 := hSi
       obtain rfl := cu37 hx0
       obtain rfl := cu38 hx1
       obtain rfl := cu39 hx2
       obtain rfl := cu40 hx3
       obtain rfl := cu41 hx4
       obtain rfl := cu42 hx5
       obtain rfl := cu43 hx6
       obtain rfl := cu44 hx7
       obtain rfl := cu45 hx8
       obtain rfl := cu46 hx9
       obtain rfl := cu47 hx10
       obtain rfl := cu48 hx11
       obtain rfl := cu49 hx12
       obtain rfl := cu50 hx13
       obtain rfl := cu51 hx14
       obtain rfl := cu52 hx16
       obtain rfl := cr0_1 hx15 hx17
       refine hG (any_step ?_); clear hG G; intro A J hJ
       have hle0 := Fz.le.trans hle0 hle268
       have hs397 := hs207.mono hle268
       have hs398 := hs208.mono hle268
       have hs399 := cf0 hx8
       have hs400 := cf1 hx12
       have hs401 := cf2 hx14
       have hs402 := cf3 hx16
       have hl403 : (zao1v.set x9.toNat qd9_0).length = zao1v.length := by simp; try omega
       have hF404 : Fr 53 [] [⟨0, [], .slice ao1 (zao1v.set x9.toNat qd9_0).length cap2⟩, ⟨1, [], .int .i64 u1⟩, ⟨2, [], .int .i64 u2⟩, ⟨3, [], .func (.func fid3) #[] caps4⟩, ⟨8, [], .int .i64 x8⟩, ⟨9, [], .int .i64 x9⟩, ⟨37, [], .slice ao1 (zao1v.set x9.toNat qd9_0).length cap2⟩, ⟨38, [], .int .i64 x9⟩, ⟨39, [], .slice ao1 (zao1v.set x9.toNat qd9_0).length cap2⟩, ⟨40, [], .int .i64 x9⟩, ⟨41, [], .int .i64 (w64 (x9 - 1))⟩, ⟨42, [], .slice ao1 (zao1v.set x9.toNat qd9_0).length cap2⟩, ⟨43, [], .int .i64 x9⟩, ⟨44, [], .int .i64 (w64 (x9 - 1))⟩, ⟨45, [], .pointer (some ⟨g228, (w64 (x9 - 1)).toNat * 3, none⟩)⟩, ⟨46, [], .agg #[.int .i64 qd9_0.task, .int .i64 qd9_0.from_, .int .i64 qd9_0.asked]⟩, ⟨47, [], .slice ao1 (zao1v.set x9.toNat qd9_0).length cap2⟩, ⟨48, [], .int .i64 x9⟩, ⟨49, [], .pointer (some ⟨g241, x9.toNat * 3, none⟩)⟩, ⟨50, [], .agg #[.int .i64 qd13_0.task, .int .i64 qd13_0.from_, .int .i64 qd13_0.asked]⟩, ⟨51, [], .pointer (some ⟨g250, x9.toNat * 3, none⟩)⟩, ⟨52, [], .pointer (some ⟨g256, (w64 (x9 - 1)).toNat * 3, none⟩)⟩] a := by rw [hl403]; exact hFx.reg
       clear hFx
       refine sox hF404 hMx 0 hs402 (T := tyJob) (xs := zao1v.set x9.toNat qd9_0) (w64 (x9 - 1)).toNat qd13_0 (u := .agg #[.int .i64 qd13_0.task, .int .i64 qd13_0.from_, .int .i64 qd13_0.asked]) (nog rfl _) rfl rfl (by kernel_rfl) rfl (by kernel_rfl) rfl (by kernel_rfl) (by first | omega | (simp only [List.length_set] at *; omega)) rfl ?_; intro wd405 hM406; clear hMx
       refine nl (qnI (hJ _ _ ?_)); clear hJ J
       rw [hl403] at hF404
       exact ⟨g228, g241, g250, g256, .slice ao1 zao1v.length cap2, .int .i64 x9, .slice ao1 zao1v.length cap2, .int .i64 x9, .int .i64 (w64 (x9 - 1)), .slice ao1 zao1v.length cap2, .int .i64 x9, .int .i64 (w64 (x9 - 1)), .pointer (some ⟨g228, (w64 (x9 - 1)).toNat * 3, none⟩), .agg #[.int .i64 qd9_0.task, .int .i64 qd9_0.from_, .int .i64 qd9_0.asked], .slice ao1 zao1v.length cap2, .int .i64 x9, .pointer (some ⟨g241, x9.toNat * 3, none⟩), .agg #[.int .i64 qd13_0.task, .int .i64 qd13_0.from_, .int .i64 qd13_0.asked], .pointer (some ⟨g250, x9.toNat * 3, none⟩), .pointer (some ⟨g256, (w64 (x9 - 1)).toNat * 3, none⟩), .own tyJob 110 ao1 cap2 ((zao1v.set x9.toNat qd9_0).set (w64 (x9 - 1)).toNat qd13_0), hle268, hF404.reg, hM406.perm lpr, (fun _ => by first | rfl | rw [hl403]), (fun _ => by first | rfl | rw [hl403]), (fun _ => by first | rfl | rw [hl403]), (fun _ => by first | rfl | rw [hl403]), (fun _ => by first | rfl | rw [hl403]), (fun _ => by first | rfl | rw [hl403]), (fun _ => by first | rfl | rw [hl403]), (fun _ => by first | rfl | rw [hl403]), (fun _ => by first | rfl | rw [hl403]), (fun _ => by first | rfl | rw [hl403]), (fun _ => by first | rfl | rw [hl403]), (fun _ => by first | rfl | rw [hl403]), (fun _ => by first | rfl | rw [hl403]), (fun _ => by first | rfl | rw [hl403]), (fun _ => by first | rfl | rw [hl403]), (fun _ => by first | rfl | rw [hl403]), (tn hx15), (fun _ => nu), kf, (fun _ => hs399), (fun _ => hs400), (fun _ => hs401), (fun _ => hs402)⟩
     case hE =>
      intro S hS a408 wd409 hI; refine Go.Sy.hid ?_; intro G hG; obtain ⟨g228, g241, g250, g256, ud37, ud38, ud39, ud40, ud41, ud42, ud43, ud44, ud45, ud46, ud47, ud48, ud49, ud50, ud51, ud52, rh0, hle268, hFx, hMx, cu37, cu38, cu39, cu40, cu41, cu42, cu43, cu44, cu45, cu46, cu47, cu48, cu49, cu50, cu51, cu52, cr0_0, cr0_1, cr0_2, cf0, cf1, cf2, hI⟩ := hI; have cf3 := hI; clear hI; refine hG ?_; clear hG G
      obtain rfl := cu37 (hS 0 (by decide))
      obtain rfl := cu38 (hS 1 (by decide))
      obtain rfl := cu39 (hS 2 (by decide))
      obtain rfl := cu40 (hS 3 (by decide))
      obtain rfl := cu41 (hS 4 (by decide))
      obtain rfl := cu42 (hS 5 (by decide))
      obtain rfl := cu43 (hS 6 (by decide))
      obtain rfl := cu44 (hS 7 (by decide))
      obtain rfl := cu45 (hS 8 (by decide))
      obtain rfl := cu46 (hS 9 (by decide))
      obtain rfl := cu47 (hS 10 (by decide))
      obtain rfl := cu48 (hS 11 (by decide))
      obtain rfl := cu49 (hS 12 (by decide))
      obtain rfl := cu50 (hS 13 (by decide))
      obtain rfl := cu51 (hS 14 (by decide))
      obtain rfl := cu52 (hS 16 (by decide))
      obtain rfl := cr0_2 (hS 17 (by decide))
      have hle0 := Fz.le.trans hle0 hle268
      have hs410 := hs207.mono hle268
      have hs411 := hs208.mono hle268
      have hs412 := cf0 (hS 8 (by decide))
      have hs413 := cf1 (hS 12 (by decide))
      have hs414 := cf2 (hS 14 (by decide))
      have hs415 := cf3 (hS 16 (by decide))
      have hl416 : ((zao1v.set x9.toNat qd9_0).set (w64 (x9 - 1)).toNat qd13_0).length = zao1v.length := by simp; try omega
      have hF417 : Fr 53 [] [⟨0, [], .slice ao1 ((zao1v.set x9.toNat qd9_0).set (w64 (x9 - 1)).toNat qd13_0).length cap2⟩, ⟨1, [], .int .i64 u1⟩, ⟨2, [], .int .i64 u2⟩, ⟨3, [], .func (.func fid3) #[] caps4⟩, ⟨8, [], .int .i64 x8⟩, ⟨9, [], .int .i64 x9⟩, ⟨37, [], .slice ao1 ((zao1v.set x9.toNat qd9_0).set (w64 (x9 - 1)).toNat qd13_0).length cap2⟩, ⟨38, [], .int .i64 x9⟩, ⟨39, [], .slice ao1 ((zao1v.set x9.toNat qd9_0).set (w64 (x9 - 1)).toNat qd13_0).length cap2⟩, ⟨40, [], .int .i64 x9⟩, ⟨41, [], .int .i64 (w64 (x9 - 1))⟩, ⟨42, [], .slice ao1 ((zao1v.set x9.toNat qd9_0).set (w64 (x9 - 1)).toNat qd13_0).length cap2⟩, ⟨43, [], .int .i64 x9⟩, ⟨44, [], .int .i64 (w64 (x9 - 1))⟩, ⟨45, [], .pointer (some ⟨g228, (w64 (x9 - 1)).toNat * 3, none⟩)⟩, ⟨46, [], .agg #[.int .i64 qd9_0.task, .int .i64 qd9_0.from_, .int .i64 qd9_0.asked]⟩, ⟨47, [], .slice ao1 ((zao1v.set x9.toNat qd9_0).set (w64 (x9 - 1)).toNat qd13_0).length cap2⟩, ⟨48, [], .int .i64 x9⟩, ⟨49, [], .pointer (some ⟨g241, x9.toNat * 3, none⟩)⟩, ⟨50, [], .agg #[.int .i64 qd13_0.task, .int .i64 qd13_0.from_, .int .i64 qd13_0.asked]⟩, ⟨51, [], .pointer (some ⟨g250, x9.toNat * 3, none⟩)⟩, ⟨52, [], .pointer (some ⟨g256, (w64 (x9 - 1)).toNat * 3, none⟩)⟩] a408 := by rw [hl416]; exact hFx.reg
      clear hFx
      refine ibn ?_
      refine thn ?_
      have hF418 : Fr 53 [] [⟨0, [], .slice ao1 ((zao1v.set x9.toNat qd9_0).set (w64 (x9 - 1)).toNat qd13_0).length cap2⟩, ⟨1, [], .int .i64 u1⟩, ⟨2, [], .int .i64 u2⟩, ⟨3, [], .func (.func fid3) #[] caps4⟩, ⟨8, [], .int .i64 x8⟩, ⟨9, [], .int .i64 x9⟩] a408 := hF417.reg; clear hF417
      refine rgH ?_; intro hQ419Q hQ419
      refine s1 hF418 35 (.int .i64 x9) ?_; intro a420 hF421; clear hF418
      refine s1 hF421 36 (.int .i64 (w64 (x9 - 1))) ?_; intro a422 hF423; clear hF421
      refine s1 hF423 9 (.int .i64 (w64 (x9 - 1))) ?_; intro a424 hF425; clear hF423
      refine nlH (hQ419 _ _ ?_); clear hQ419 hQ419Q
      refine rd ?_
      exact ⟨⟨w64 (x9 - 1), (zao1v.set x9.toNat qd9_0).set (w64 (x9 - 1)).toNat qd13_0⟩, hp267.1, hp267.2, (hF425.reg).anyβ _ (by kernel_rfl), hMx.keep (List.Sublist.cons_cons _ (List.Sublist.refl _))⟩
    ·
     have hp426 := hp112.2 hb209; clear hp112
     refine wp_exit ?_
     refine thx ?_
     refine thx ?_
     refine ibx ?_
     refine ibn ?_
     refine thn ?_
     have hF427 : Fr 53 [] [⟨0, [], .slice ao1 zao1v.length cap2⟩, ⟨1, [], .int .i64 u1⟩, ⟨2, [], .int .i64 u2⟩, ⟨3, [], .func (.func fid3) #[] caps4⟩, ⟨8, [], .int .i64 x8⟩] a205 := hFx.reg; clear hFx
     refine rgH ?_; intro hQ428Q hQ428
     refine s1 hF427 15 (.int .i64 x8) ?_; intro a429 hF430; clear hF427
     refine s1 hF430 16 (.int .i64 (w64 (x8 + 1))) ?_; intro a431 hF432; clear hF430
     refine s1 hF432 8 (.int .i64 (w64 (x8 + 1))) ?_; intro a433 hF434; clear hF432
     refine nlH (hQ428 _ _ ?_); clear hQ428 hQ428Q
     refine rd ?_
     exact ⟨⟨w64 (x8 + 1), zao1v⟩, hp426.1, hp426.2, (hF434.reg).anyβ _ (by kernel_rfl), hMx.keep (List.Sublist.cons_cons _ (List.Sublist.refl _))⟩
  ·
   have hp435 := hp56.2 hb58; clear hp56
   have hF436 : Fr 53 [] [⟨0, [], .slice ao1 zao1v.length cap2⟩, ⟨1, [], .int .i64 u1⟩, ⟨2, [], .int .i64 u2⟩, ⟨3, [], .func (.func fid3) #[] caps4⟩, ⟨8, [], .int .i64 x8⟩, ⟨9, [], .int .i64 x9⟩] a50 := hF57.reg; clear hF57
   refine sqQH mixed (by kernel_rfl) hM55 ?_; intro hQ437Q hQ437
   refine q1 hF436 18 (.int .i64 x9) ?_; intro a439 hF440; clear hF436
   refine q1 hF440 19 (.int .i64 u1) ?_; intro a442 hF443; clear hF440
   refine q1 hF443 20 (.bool (decide (x9 > u1))) ?_; intro a445 hF446; clear hF443
   have hF447 := hF446.reval (d := 20) (c := []) (v := .bool (decide (x9 > u1))) (by kernel_rfl) (.bool false) (by rw [hb58]); clear hF446
   refine q1 hF447 21 (.bool false) ?_; intro a449 hF450; clear hF447
   refine qsk hF450 (b := false) rfl rfl (by kernel_rfl) (by kernel_rfl) rfl rfl (by kernel_rfl) ?_; intro a451 hF452; clear hF450
   refine qsk hF452 (b := false) rfl rfl (by kernel_rfl) (by kernel_rfl) rfl rfl (by kernel_rfl) ?_; intro a453 hF454; clear hF452
   refine qsk hF454 (b := false) rfl rfl (by kernel_rfl) (by kernel_rfl) rfl rfl (by kernel_rfl) ?_; intro a455 hF456; clear hF454
   refine qsk hF456 (b := false) rfl rfl (by kernel_rfl) (by kernel_rfl) rfl rfl (by kernel_rfl) ?_; intro a457 hF458; clear hF456
   refine qsk hF458 (b := false) rfl rfl (by kernel_rfl) (by kernel_rfl) rfl rfl (by kernel_rfl) ?_; intro a459 hF460; clear hF458
   refine qsk hF460 (b := false) rfl rfl (by kernel_rfl) (by kernel_rfl) rfl rfl (by kernel_rfl) ?_; intro a461 hF462; clear hF460
   refine qsk hF462 (b := false) rfl rfl (by kernel_rfl) (by kernel_rfl) rfl rfl (by kernel_rfl) ?_; intro a463 hF464; clear hF462
   refine qsk hF464 (b := false) rfl rfl (by kernel_rfl) (by kernel_rfl) rfl rfl (by kernel_rfl) ?_; intro a465 hF466; clear hF464
   refine qsk hF466 (b := false) rfl rfl (by kernel_rfl) (by kernel_rfl) rfl rfl (by kernel_rfl) ?_; intro a467 hF468; clear hF466
   refine qsk hF468 (b := false) rfl rfl (by kernel_rfl) (by kernel_rfl) rfl rfl (by kernel_rfl) ?_; intro a469 hF470; clear hF468
   refine qsk hF470 (b := false) rfl rfl (by kernel_rfl) (by kernel_rfl) rfl rfl (by kernel_rfl) ?_; intro a471 hF472; clear hF470
   refine qsk hF472 (b := false) rfl rfl (by kernel_rfl) (by kernel_rfl) rfl rfl (by kernel_rfl) ?_; intro a473 hF474; clear hF472
   refine q1 hF474 34 (.bool false) ?_; intro a476 hF477; clear hF474
   refine qnl (hQ437 _ ?_); clear hQ437 hQ437Q; intro wd478 hM479; clear hM55
   refine cdF hF477 (by kernel_rfl) ?_
   refine wp_exit ?_
   refine thx ?_
   refine thx ?_
   refine ibx ?_
   refine ibn ?_
   refine thn ?_
   have hF480 : Fr 53 [] [⟨0, [], .slice ao1 zao1v.length cap2⟩, ⟨1, [], .int .i64 u1⟩, ⟨2, [], .int .i64 u2⟩, ⟨3, [], .func (.func fid3) #[] caps4⟩, ⟨8, [], .int .i64 x8⟩] a476 := hF477.reg; clear hF477
   refine rgH ?_; intro hQ481Q hQ481
   refine s1 hF480 15 (.int .i64 x8) ?_; intro a482 hF483; clear hF480
   refine s1 hF483 16 (.int .i64 (w64 (x8 + 1))) ?_; intro a484 hF485; clear hF483
   refine s1 hF485 8 (.int .i64 (w64 (x8 + 1))) ?_; intro a486 hF487; clear hF485
   refine nlH (hQ481 _ _ ?_); clear hQ481 hQ481Q
   refine rd ?_
   exact ⟨⟨w64 (x8 + 1), zao1v⟩, hp435.1, hp435.2, (hF487.reg).anyβ _ (by kernel_rfl), hM479.keep (List.Sublist.cons_cons _ (List.Sublist.refl _))⟩
 ·
  have hp488 := hp28.2 hb36; clear hp28
  refine wp_exit ?_
  refine thx ?_
  refine thx ?_
  refine ibx ?_
  have hc489 := hp488.1; have hp490 := hp488.2; clear hp488
  refine rN (fn := Try.f111) (v := .tuple #[]) hF35 (re0 hF35 (fn := Try.f111) rfl) ?_
  exact ⟨zao1, Z, rfl, hp490, hle0, hc489, hM27.keep (List.Sublist.cons_cons _ (List.Sublist.refl _))⟩

set_option maxRecDepth 100000 in
set_option maxHeartbeats 0 in
theorem sswap_walk (u0 : List Job) (u1 : Int) (u2 : Int) (u3 : Int) (u4 : Job → Job → Int) (ao1 : Option Addr) (cap2 : Nat) (fid3 : Nat) (caps4 : Array Value) (B : Nat) (w0 : World) (Z0 : Fz) (Rr : List Res) (Z : Fz) (w : World) (hf5 : ∀ (Z1 : Fz) (w1 : World), Z.le Z1 → Z1.on w1 → ∀ (x0 : Job) (x1 : Job), Calls Try.prog fid3 (#[.agg #[.int .i64 x0.task, .int .i64 x0.from_, .int .i64 x0.asked], .agg #[.int .i64 x1.task, .int .i64 x1.from_, .int .i64 x1.asked]] ++ caps4) w1 fun e w2 => e = .returned (.int .i64 (u4 x0 x1)) ∧ Below w1.heap.size w1 w2) (hg6 : ∀ x w, Sem.run Try.prog (callFunc fid3 x) w = .ok (.enter fid3 x) w) (hM0 : Mem B [] w0 Z0 ((.own tyJob 110 ao1 cap2 u0) :: Rr) Z w) (hZ : Z.on w) {K : (List Job) → Prop} (hp : sswap_vc u0 u1 u2 u3 u4 K) : Calls Try.prog 134 #[.slice ao1 u0.length cap2, .int .i64 u1, .int .i64 u2, .int .i64 u3, .func (.func fid3) #[] caps4] w fun e w' => ∃ (r : (List Job)) (Z' : Fz), e = .returned (.tuple #[]) ∧ K r ∧ Fz.le Z Z' ∧ (r.length = u0.length) ∧ Mem B [] w0 Z0 ((.own tyJob 110 ao1 cap2 r) :: Rr) Z' w' := by
 refine enter0 Try.func134 rfl rfl (by kernel_rfl) ?_; intro a0 hF0; have hle0 := Fz.le.refl Z
 have hp7 := hp (hM0.ownSmall 0 rfl); clear hp
 refine sqH ?_; intro hQ8Q hQ8
 refine s1 hF0 10 (.int .i64 0) ?_; intro a9 hF10; clear hF0
 refine nlH (hQ8 _ _ ?_); clear hQ8 hQ8Q
 refine wp_block ?_
 have hF11 : Fr 38 [] [⟨0, [], .slice ao1 u0.length cap2⟩, ⟨1, [], .int .i64 u1⟩, ⟨2, [], .int .i64 u2⟩, ⟨3, [], .int .i64 u3⟩, ⟨10, [], .int .i64 0⟩] a9 := hF10.reg; clear hF10
 have hF13 : Fr 38 [] [⟨0, [], .slice ao1 u0.length cap2⟩, ⟨1, [], .int .i64 u1⟩, ⟨2, [], .int .i64 u2⟩, ⟨3, [], .int .i64 u3⟩, ⟨10, [], .int .i64 0⟩] a9 := hF11.reg; clear hF11
 obtain ⟨inv12, mu12, hI16, hr15⟩ := hp7
 refine lp (ι := Int × (List Job)) (fun (s : Int × (List Job)) => [⟨0, [], .slice ao1 s.2.length cap2⟩, ⟨1, [], .int .i64 u1⟩, ⟨2, [], .int .i64 u2⟩, ⟨3, [], .int .i64 u3⟩, ⟨10, [], .int .i64 s.1⟩]) (fun (s : Int × (List Job)) => ((.own tyJob 110 ao1 cap2 s.2) :: Rr)) (fun (s : Int × (List Job)) => Z) (fun (s : Int × (List Job)) => inv12 s.1 s.2) (fun (s : Int × (List Job)) => mu12 s.1 s.2) ⟨0, u0⟩ hI16 (by exact hF13.reg) (by exact hM0) ?_
 rintro ⟨x10, zao1⟩ hI14 a18 wd19 hF20 hM21
 have hF22 : Fr 38 [] [⟨0, [], .slice ao1 zao1.length cap2⟩, ⟨1, [], .int .i64 u1⟩, ⟨2, [], .int .i64 u2⟩, ⟨3, [], .int .i64 u3⟩, ⟨10, [], .int .i64 x10⟩] a18 := hF20; clear hF20 hF13
 have hM23 : Mem B [] w0 Z0 ((.own tyJob 110 ao1 cap2 zao1) :: Rr) Z wd19 := hM21; clear hM21 hM0
 have hp24 := hr15 x10 zao1 hI14
 refine wp_seq ?_
 refine sqH ?_; intro hQ25Q hQ25
 refine s1 hF22 11 (.int .i64 x10) ?_; intro a26 hF27; clear hF22
 refine s1 hF27 12 (.int .i64 u3) ?_; intro a28 hF29; clear hF27
 refine s1 hF29 13 (.bool (decide (x10 < u3))) ?_; intro a30 hF31; clear hF29
 refine nlH (hQ25 _ _ ?_); clear hQ25 hQ25Q
 refine cd hF31 (t := decide (x10 < u3)) (by kernel_rfl) (fun hb32 => ?_) (fun hb32 => ?_)
 ·
  have hp33 := hp24.1 hb32; clear hp24
  refine wp_skip ?_
  refine thn ?_
  refine wp_seq ?_
  refine wp_block ?_
  have hF34 : Fr 38 [] [⟨0, [], .slice ao1 zao1.length cap2⟩, ⟨1, [], .int .i64 u1⟩, ⟨2, [], .int .i64 u2⟩, ⟨3, [], .int .i64 u3⟩, ⟨10, [], .int .i64 x10⟩] a30 := hF31.reg; clear hF31
  have hcd12_0 := hp33.1; have hp97 := hp33.2; clear hp33
  obtain ⟨qd13_0, hqd13_0⟩ : ∃ q, zao1[(w64 (u2 + x10)).toNat]? = some q := ⟨_, List.getElem?_eq_getElem (by omega)⟩; have hp98 := hp97 qd13_0 hqd13_0; clear hp97
  have hcd18_0 := hp98.1; have hp99 := hp98.2; clear hp98
  obtain ⟨qd19_0, hqd19_0⟩ : ∃ q, zao1[(w64 (u1 + x10)).toNat]? = some q := ⟨_, List.getElem?_eq_getElem (by omega)⟩; have hp100 := hp99 qd19_0 hqd19_0; clear hp99
  have hcd20_0 := hp100.1; have hp101 := hp100.2; clear hp100
  have hcd22_0 := hp101.1; have hp102 := hp101.2; clear hp101
  refine any_invE mixed [[], [], [], [1, 2], [], [], [], [5, 6], [], [], [], [9, 10], [8, 11], [12], [], [], [], [15, 16], [14, 17], [18], [0, 1, 2, 3, 8, 9, 10, 11, 12, 13, 19], [0, 1, 2, 3, 8, 9, 10, 11, 12, 13, 19, 20], [0, 1, 2, 3, 4, 5, 6, 7, 8, 9, 10, 11, 12, 13, 14, 15, 16, 17, 18, 19, 20, 21], [0, 1, 2, 3, 4, 5, 6, 7, 8, 9, 10, 11, 12, 13, 14, 15, 16, 17, 18, 19, 20, 21, 22]] 24 (fun S a w1 => ∃ (g59 : Nat) (g76 : Nat) (g85 : Nat) (g91 : Nat) (ud16 : Value) (ud17 : Value) (ud18 : Value) (ud19 : Value) (ud20 : Value) (ud21 : Value) (ud22 : Value) (ud23 : Value) (ud24 : Value) (ud25 : Value) (ud26 : Value) (ud27 : Value) (ud28 : Value) (ud29 : Value) (ud30 : Value) (ud31 : Value) (ud32 : Value) (ud33 : Value) (ud34 : Value) (ud35 : Value) (ud36 : Value) (ud37 : Value) (rh0 : Res), Fz.le Z Z ∧ Fr 38 [] [⟨0, [], .slice ao1 zao1.length cap2⟩, ⟨1, [], .int .i64 u1⟩, ⟨2, [], .int .i64 u2⟩, ⟨3, [], .int .i64 u3⟩, ⟨10, [], .int .i64 x10⟩, ⟨16, [], ud16⟩, ⟨17, [], ud17⟩, ⟨18, [], ud18⟩, ⟨19, [], ud19⟩, ⟨20, [], ud20⟩, ⟨21, [], ud21⟩, ⟨22, [], ud22⟩, ⟨23, [], ud23⟩, ⟨24, [], ud24⟩, ⟨25, [], ud25⟩, ⟨26, [], ud26⟩, ⟨27, [], ud27⟩, ⟨28, [], ud28⟩, ⟨29, [], ud29⟩, ⟨30, [], ud30⟩, ⟨31, [], ud31⟩, ⟨32, [], ud32⟩, ⟨33, [], ud33⟩, ⟨34, [], ud34⟩, ⟨35, [], ud35⟩, ⟨36, [], ud36⟩, ⟨37, [], ud37⟩] a ∧ Mem B [] w0 Z0 (rh0 :: Rr) Z w1 ∧ (S 0 = true → ud16 = .slice ao1 zao1.length cap2) ∧ (S 1 = true → ud17 = .int .i64 u1) ∧ (S 2 = true → ud18 = .int .i64 x10) ∧ (S 3 = true → ud19 = .int .i64 (w64 (u1 + x10))) ∧ (S 4 = true → ud20 = .slice ao1 zao1.length cap2) ∧ (S 5 = true → ud21 = .int .i64 u2) ∧ (S 6 = true → ud22 = .int .i64 x10) ∧ (S 7 = true → ud23 = .int .i64 (w64 (u2 + x10))) ∧ (S 8 = true → ud24 = .slice ao1 zao1.length cap2) ∧ (S 9 = true → ud25 = .int .i64 u2) ∧ (S 10 = true → ud26 = .int .i64 x10) ∧ (S 11 = true → ud27 = .int .i64 (w64 (u2 + x10))) ∧ (S 12 = true → ud28 = .pointer (some ⟨g59, (w64 (u2 + x10)).toNat * 3, none⟩)) ∧ (S 13 = true → ud29 = .agg #[.int .i64 qd13_0.task, .int .i64 qd13_0.from_, .int .i64 qd13_0.asked]) ∧ (S 14 = true → ud30 = .slice ao1 zao1.length cap2) ∧ (S 15 = true → ud31 = .int .i64 u1) ∧ (S 16 = true → ud32 = .int .i64 x10) ∧ (S 17 = true → ud33 = .int .i64 (w64 (u1 + x10))) ∧ (S 18 = true → ud34 = .pointer (some ⟨g76, (w64 (u1 + x10)).toNat * 3, none⟩)) ∧ (S 19 = true → ud35 = .agg #[.int .i64 qd19_0.task, .int .i64 qd19_0.from_, .int .i64 qd19_0.asked]) ∧ (S 20 = true → ud36 = .pointer (some ⟨g85, (w64 (u1 + x10)).toNat * 3, none⟩)) ∧ (S 22 = true → ud37 = .pointer (some ⟨g91, (w64 (u2 + x10)).toNat * 3, none⟩)) ∧ (S 21 = false → rh0 = .own tyJob 110 ao1 cap2 zao1) ∧ (S 21 = true → S 23 = false → rh0 = .own tyJob 110 ao1 cap2 (zao1.set (w64 (u1 + x10)).toNat qd13_0)) ∧ (S 23 = true → rh0 = .own tyJob 110 ao1 cap2 ((zao1.set (w64 (u1 + x10)).toNat qd13_0).set (w64 (u2 + x10)).toNat qd19_0)) ∧ (S 12 = true → ao1 = some ⟨g59, 0, none⟩) ∧ (S 18 = true → ao1 = some ⟨g76, 0, none⟩) ∧ (S 20 = true → ao1 = some ⟨g85, 0, none⟩) ∧ (S 22 = true → ao1 = some ⟨g91, 0, none⟩)) ?h0 ?hs ?hE
  case h0 =>
   have hF104 := hF34.any 16
   have hF105 := hF104.any 17
   have hF106 := hF105.any 18
   have hF107 := hF106.any 19
   have hF108 := hF107.any 20
   have hF109 := hF108.any 21
   have hF110 := hF109.any 22
   have hF111 := hF110.any 23
   have hF112 := hF111.any 24
   have hF113 := hF112.any 25
   have hF114 := hF113.any 26
   have hF115 := hF114.any 27
   have hF116 := hF115.any 28
   have hF117 := hF116.any 29
   have hF118 := hF117.any 30
   have hF119 := hF118.any 31
   have hF120 := hF119.any 32
   have hF121 := hF120.any 33
   have hF122 := hF121.any 34
   have hF123 := hF122.any 35
   have hF124 := hF123.any 36
   have hF125 := hF124.any 37
   have hM126 := (hM23.perm lpr).drew
   exact ⟨0, 0, 0, 0, a30.tmps.getD 16 undef, a30.tmps.getD 17 undef, a30.tmps.getD 18 undef, a30.tmps.getD 19 undef, a30.tmps.getD 20 undef, a30.tmps.getD 21 undef, a30.tmps.getD 22 undef, a30.tmps.getD 23 undef, a30.tmps.getD 24 undef, a30.tmps.getD 25 undef, a30.tmps.getD 26 undef, a30.tmps.getD 27 undef, a30.tmps.getD 28 undef, a30.tmps.getD 29 undef, a30.tmps.getD 30 undef, a30.tmps.getD 31 undef, a30.tmps.getD 32 undef, a30.tmps.getD 33 undef, a30.tmps.getD 34 undef, a30.tmps.getD 35 undef, a30.tmps.getD 36 undef, a30.tmps.getD 37 undef, .own tyJob 110 ao1 cap2 zao1, Fz.le.refl _, hF125.reg, hM126, ff, ff, ff, ff, ff, ff, ff, ff, ff, ff, ff, ff, ff, ff, ff, ff, ff, ff, ff, ff, ff, ff, kf, ff, ff, ff, ff, ff, ff⟩
  case hs =>
   intro S hcl i o hil hi hSi hpre a w1 hI; refine Go.Sy.hid ?_; intro G hG; obtain ⟨g59, g76, g85, g91, ud16, ud17, ud18, ud19, ud20, ud21, ud22, ud23, ud24, ud25, ud26, ud27, ud28, ud29, ud30, ud31, ud32, ud33, ud34, ud35, ud36, ud37, rh0, hle103, hFx, hMx, cu16, cu17, cu18, cu19, cu20, cu21, cu22, cu23, cu24, cu25, cu26, cu27, cu28, cu29, cu30, cu31, cu32, cu33, cu34, cu35, cu36, cu37, cr0_0, cr0_1, cr0_2, cf0, cf1, cf2, hI⟩ := hI; have cf3 := hI; clear hI
   have hcase : i = 0 ∨ i = 1 ∨ i = 2 ∨ i = 3 ∨ i = 4 ∨ i = 5 ∨ i = 6 ∨ i = 7 ∨ i = 8 ∨ i = 9 ∨ i = 10 ∨ i = 11 ∨ i = 12 ∨ i = 13 ∨ i = 14 ∨ i = 15 ∨ i = 16 ∨ i = 17 ∨ i = 18 ∨ i = 19 ∨ i = 20 ∨ i = 21 ∨ i = 22 ∨ i = 23 := by clear hi; omega
   rcases hcase with rfl | rfl | rfl | rfl | rfl | rfl | rfl | rfl | rfl | rfl | rfl | rfl | rfl | rfl | rfl | rfl | rfl | rfl | rfl | rfl | rfl | rfl | rfl | rfl
   ·
    obtain rfl := oj hi
    have hx0 := hSi
    have hx20 := ngF hcl 20 0 hx0
    have hx21 := ngF hcl 21 0 hx0
    have hx22 := ngF hcl 22 0 hx0
    have hx23 := ngF hcl 23 0 hx0
    obtain rfl := cr0_0 hx21
    refine hG (any_step ?_); clear hG G; intro A J hJ
    have hle0 := Fz.le.trans hle0 hle103
    refine s1 hFx 16 (.slice ao1 zao1.length cap2) ?_; intro a127 hF128; clear hFx
    refine nl (qnI (hJ _ _ ?_)); clear hJ J
    exact ⟨g59, g76, g85, g91, .slice ao1 zao1.length cap2, ud17, ud18, ud19, ud20, ud21, ud22, ud23, ud24, ud25, ud26, ud27, ud28, ud29, ud30, ud31, ud32, ud33, ud34, ud35, ud36, ud37, .own tyJob 110 ao1 cap2 zao1, hle103, hF128.reg, hMx.perm lpr, kf, cu17, cu18, cu19, cu20, cu21, cu22, cu23, cu24, cu25, cu26, cu27, cu28, cu29, cu30, cu31, cu32, cu33, cu34, cu35, (nt hx20), (nt hx22), kf, (fun h _ => nt hx21 h), (nt hx23), cf0, cf1, (nt hx20), (nt hx22)⟩
   ·
    obtain rfl := oj hi
    have hx1 := hSi
    have hx3 := ngF hcl 3 1 hx1
    have hx20 := ngF hcl 20 1 hx1
    have hx21 := ngF hcl 21 1 hx1
    have hx22 := ngF hcl 22 1 hx1
    have hx23 := ngF hcl 23 1 hx1
    obtain rfl := cr0_0 hx21
    refine hG (any_step ?_); clear hG G; intro A J hJ
    have hle0 := Fz.le.trans hle0 hle103
    refine s1 hFx 17 (.int .i64 u1) ?_; intro a130 hF131; clear hFx
    refine nl (qnI (hJ _ _ ?_)); clear hJ J
    exact ⟨g59, g76, g85, g91, ud16, .int .i64 u1, ud18, ud19, ud20, ud21, ud22, ud23, ud24, ud25, ud26, ud27, ud28, ud29, ud30, ud31, ud32, ud33, ud34, ud35, ud36, ud37, .own tyJob 110 ao1 cap2 zao1, hle103, hF131.reg, hMx.perm lpr, cu16, kf, cu18, (nt hx3), cu20, cu21, cu22, cu23, cu24, cu25, cu26, cu27, cu28, cu29, cu30, cu31, cu32, cu33, cu34, cu35, (nt hx20), (nt hx22), kf, (fun h _ => nt hx21 h), (nt hx23), cf0, cf1, (nt hx20), (nt hx22)⟩
   ·
    obtain rfl := oj hi
    have hx2 := hSi
    have hx3 := ngF hcl 3 2 hx2
    have hx20 := ngF hcl 20 2 hx2
    have hx21 := ngF hcl 21 2 hx2
    have hx22 := ngF hcl 22 2 hx2
    have hx23 := ngF hcl 23 2 hx2
    obtain rfl := cr0_0 hx21
    refine hG (any_step ?_); clear hG G; intro A J hJ
    have hle0 := Fz.le.trans hle0 hle103
    refine s1 hFx 18 (.int .i64 x10) ?_; intro a133 hF134; clear hFx
    refine nl (qnI (hJ _ _ ?_)); clear hJ J
    exact ⟨g59, g76, g85, g91, ud16, ud17, .int .i64 x10, ud19, ud20, ud21, ud22, ud23, ud24, ud25, ud26, ud27, ud28, ud29, ud30, ud31, ud32, ud33, ud34, ud35, ud36, ud37, .own tyJob 110 ao1 cap2 zao1, hle103, hF134.reg, hMx.perm lpr, cu16, cu17, kf, (nt hx3), cu20, cu21, cu22, cu23, cu24, cu25, cu26, cu27, cu28, cu29, cu30, cu31, cu32, cu33, cu34, cu35, (nt hx20), (nt hx22), kf, (fun h _ => nt hx21 h), (nt hx23), cf0, cf1, (nt hx20), (nt hx22)⟩
   ·
    obtain rfl := oj hi
    have hx2 := hpre 2 (by kernel_rfl)
    have hx1 := hpre 1 (by kernel_rfl)
    have hx3 := hSi
    have hx20 := ngF hcl 20 3 hx3
    have hx21 := ngF hcl 21 3 hx3
    have hx22 := ngF hcl 22 3 hx3
    have hx23 := ngF hcl 23 3 hx3
    obtain rfl := cu17 hx1
    obtain rfl := cu18 hx2
    obtain rfl := cr0_0 hx21
    refine hG (any_step ?_); clear hG G; intro A J hJ
    have hle0 := Fz.le.trans hle0 hle103
    refine s1 hFx 19 (.int .i64 (w64 (u1 + x10))) ?_; intro a136 hF137; clear hFx
    refine nl (qnI (hJ _ _ ?_)); clear hJ J
    exact ⟨g59, g76, g85, g91, ud16, .int .i64 u1, .int .i64 x10, .int .i64 (w64 (u1 + x10)), ud20, ud21, ud22, ud23, ud24, ud25, ud26, ud27, ud28, ud29, ud30, ud31, ud32, ud33, ud34, ud35, ud36, ud37, .own tyJob 110 ao1 cap2 zao1, hle103, hF137.reg, hMx.perm lpr, cu16, kf, kf, kf, cu20, cu21, cu22, cu23, cu24, cu25, cu26, cu27, cu28, cu29, cu30, cu31, cu32, cu33, cu34, cu35, (nt hx20), (nt hx22), kf, (fun h _ => nt hx21 h), (nt hx23), cf0, cf1, (nt hx20), (nt hx22)⟩
   ·
    obtain rfl := oj hi
    have hx4 := hSi
    have hx22 := ngF hcl 22 4 hx4
    have hx23 := ngF hcl 23 4 hx4
    refine hG (any_step ?_); clear hG G; intro A J hJ
    have hle0 := Fz.le.trans hle0 hle103
    refine s1 hFx 20 (.slice ao1 zao1.length cap2) ?_; intro a139 hF140; clear hFx
    refine nl (qnI (hJ _ _ ?_)); clear hJ J
    exact ⟨g59, g76, g85, g91, ud16, ud17, ud18, ud19, .slice ao1 zao1.length cap2, ud21, ud22, ud23, ud24, ud25, ud26, ud27, ud28, ud29, ud30, ud31, ud32, ud33, ud34, ud35, ud36, ud37, rh0, hle103, hF140.reg, hMx.perm lpr, cu16, cu17, cu18, cu19, kf, cu21, cu22, cu23, cu24, cu25, cu26, cu27, cu28, cu29, cu30, cu31, cu32, cu33, cu34, cu35, cu36, (nt hx22), cr0_0, cr0_1, (nt hx23), cf0, cf1, cf2, (nt hx22)⟩
   ·
    obtain rfl := oj hi
    have hx5 := hSi
    have hx7 := ngF hcl 7 5 hx5
    have hx22 := ngF hcl 22 5 hx5
    have hx23 := ngF hcl 23 5 hx5
    refine hG (any_step ?_); clear hG G; intro A J hJ
    have hle0 := Fz.le.trans hle0 hle103
    refine s1 hFx 21 (.int .i64 u2) ?_; intro a142 hF143; clear hFx
    refine nl (qnI (hJ _ _ ?_)); clear hJ J
    exact ⟨g59, g76, g85, g91, ud16, ud17, ud18, ud19, ud20, .int .i64 u2, ud22, ud23, ud24, ud25, ud26, ud27, ud28, ud29, ud30, ud31, ud32, ud33, ud34, ud35, ud36, ud37, rh0, hle103, hF143.reg, hMx.perm lpr, cu16, cu17, cu18, cu19, cu20, kf, cu22, (nt hx7), cu24, cu25, cu26, cu27, cu28, cu29, cu30, cu31, cu32, cu33, cu34, cu35, cu36, (nt hx22), cr0_0, cr0_1, (nt hx23), cf0, cf1, cf2, (nt hx22)⟩
   ·
    obtain rfl := oj hi
    have hx6 := hSi
    have hx7 := ngF hcl 7 6 hx6
    have hx22 := ngF hcl 22 6 hx6
    have hx23 := ngF hcl 23 6 hx6
    refine hG (any_step ?_); clear hG G; intro A J hJ
    have hle0 := Fz.le.trans hle0 hle103
    refine s1 hFx 22 (.int .i64 x10) ?_; intro a145 hF146; clear hFx
    refine nl (qnI (hJ _ _ ?_)); clear hJ J
    exact ⟨g59, g76, g85, g91, ud16, ud17, ud18, ud19, ud20, ud21, .int .i64 x10, ud23, ud24, ud25, ud26, ud27, ud28, ud29, ud30, ud31, ud32, ud33, ud34, ud35, ud36, ud37, rh0, hle103, hF146.reg, hMx.perm lpr, cu16, cu17, cu18, cu19, cu20, cu21, kf, (nt hx7), cu24, cu25, cu26, cu27, cu28, cu29, cu30, cu31, cu32, cu33, cu34, cu35, cu36, (nt hx22), cr0_0, cr0_1, (nt hx23), cf0, cf1, cf2, (nt hx22)⟩
   ·
    obtain rfl := oj hi
    have hx6 := hpre 6 (by kernel_rfl)
    have hx5 := hpre 5 (by kernel_rfl)
    have hx7 := hSi
    have hx22 := ngF hcl 22 7 hx7
    have hx23 := ngF hcl 23 7 hx7
    obtain rfl := cu21 hx5
    obtain rfl := cu22 hx6
    refine hG (any_step ?_); clear hG G; intro A J hJ
    have hle0 := Fz.le.trans hle0 hle103
    refine s1 hFx 23 (.int .i64 (w64 (u2 + x10))) ?_; intro a148 hF149; clear hFx
    refine nl (qnI (hJ _ _ ?_)); clear hJ J
    exact ⟨g59, g76, g85, g91, ud16, ud17, ud18, ud19, ud20, .int .i64 u2, .int .i64 x10, .int .i64 (w64 (u2 + x10)), ud24, ud25, ud26, ud27, ud28, ud29, ud30, ud31, ud32, ud33, ud34, ud35, ud36, ud37, rh0, hle103, hF149.reg, hMx.perm lpr, cu16, cu17, cu18, cu19, cu20, kf, kf, kf, cu24, cu25, cu26, cu27, cu28, cu29, cu30, cu31, cu32, cu33, cu34, cu35, cu36, (nt hx22), cr0_0, cr0_1, (nt hx23), cf0, cf1, cf2, (nt hx22)⟩
   ·
    obtain rfl := oj hi
    have hx8 := hSi
    have hx12 := ngF hcl 12 8 hx8
    have hx13 := ngF hcl 13 12 hx12
    have hx20 := ngF hcl 20 8 hx8
    have hx21 := ngF hcl 21 8 hx8
    have hx22 := ngF hcl 22 8 hx8
    have hx23 := ngF hcl 23 8 hx8
    obtain rfl := cr0_0 hx21
    refine hG (any_step ?_); clear hG G; intro A J hJ
    have hle0 := Fz.le.trans hle0 hle103
    refine s1 hFx 24 (.slice ao1 zao1.length cap2) ?_; intro a151 hF152; clear hFx
    refine nl (qnI (hJ _ _ ?_)); clear hJ J
    exact ⟨g59, g76, g85, g91, ud16, ud17, ud18, ud19, ud20, ud21, ud22, ud23, .slice ao1 zao1.length cap2, ud25, ud26, ud27, ud28, ud29, ud30, ud31, ud32, ud33, ud34, ud35, ud36, ud37, .own tyJob 110 ao1 cap2 zao1, hle103, hF152.reg, hMx.perm lpr, cu16, cu17, cu18, cu19, cu20, cu21, cu22, cu23, kf, cu25, cu26, cu27, (nt hx12), (nt hx13), cu30, cu31, cu32, cu33, cu34, cu35, (nt hx20), (nt hx22), kf, (fun h _ => nt hx21 h), (nt hx23), (nt hx12), cf1, (nt hx20), (nt hx22)⟩
   ·
    obtain rfl := oj hi
    have hx9 := hSi
    have hx11 := ngF hcl 11 9 hx9
    have hx12 := ngF hcl 12 11 hx11
    have hx13 := ngF hcl 13 12 hx12
    have hx20 := ngF hcl 20 9 hx9
    have hx21 := ngF hcl 21 9 hx9
    have hx22 := ngF hcl 22 9 hx9
    have hx23 := ngF hcl 23 9 hx9
    obtain rfl := cr0_0 hx21
    refine hG (any_step ?_); clear hG G; intro A J hJ
    have hle0 := Fz.le.trans hle0 hle103
    refine s1 hFx 25 (.int .i64 u2) ?_; intro a154 hF155; clear hFx
    refine nl (qnI (hJ _ _ ?_)); clear hJ J
    exact ⟨g59, g76, g85, g91, ud16, ud17, ud18, ud19, ud20, ud21, ud22, ud23, ud24, .int .i64 u2, ud26, ud27, ud28, ud29, ud30, ud31, ud32, ud33, ud34, ud35, ud36, ud37, .own tyJob 110 ao1 cap2 zao1, hle103, hF155.reg, hMx.perm lpr, cu16, cu17, cu18, cu19, cu20, cu21, cu22, cu23, cu24, kf, cu26, (nt hx11), (nt hx12), (nt hx13), cu30, cu31, cu32, cu33, cu34, cu35, (nt hx20), (nt hx22), kf, (fun h _ => nt hx21 h), (nt hx23), (nt hx12), cf1, (nt hx20), (nt hx22)⟩
   ·
    obtain rfl := oj hi
    have hx10 := hSi
    have hx11 := ngF hcl 11 10 hx10
    have hx12 := ngF hcl 12 11 hx11
    have hx13 := ngF hcl 13 12 hx12
    have hx20 := ngF hcl 20 10 hx10
    have hx21 := ngF hcl 21 10 hx10
    have hx22 := ngF hcl 22 10 hx10
    have hx23 := ngF hcl 23 10 hx10
    obtain rfl := cr0_0 hx21
    refine hG (any_step ?_); clear hG G; intro A J hJ
    have hle0 := Fz.le.trans hle0 hle103
    refine s1 hFx 26 (.int .i64 x10) ?_; intro a157 hF158; clear hFx
    refine nl (qnI (hJ _ _ ?_)); clear hJ J
    exact ⟨g59, g76, g85, g91, ud16, ud17, ud18, ud19, ud20, ud21, ud22, ud23, ud24, ud25, .int .i64 x10, ud27, ud28, ud29, ud30, ud31, ud32, ud33, ud34, ud35, ud36, ud37, .own tyJob 110 ao1 cap2 zao1, hle103, hF158.reg, hMx.perm lpr, cu16, cu17, cu18, cu19, cu20, cu21, cu22, cu23, cu24, cu25, kf, (nt hx11), (nt hx12), (nt hx13), cu30, cu31, cu32, cu33, cu34, cu35, (nt hx20), (nt hx22), kf, (fun h _ => nt hx21 h), (nt hx23), (nt hx12), cf1, (nt hx20), (nt hx22)⟩
   ·
    obtain rfl := oj hi
    have hx10 := hpre 10 (by kernel_rfl)
    have hx9 := hpre 9 (by kernel_rfl)
    have hx11 := hSi
    have hx12 := ngF hcl 12 11 hx11
    have hx13 := ngF hcl 13 12 hx12
    have hx20 := ngF hcl 20 11 hx11
    have hx21 := ngF hcl 21 11 hx11
    have hx22 := ngF hcl 22 11 hx11
    have hx23 := ngF hcl 23 11 hx11
    obtain rfl := cu25 hx9
    obtain rfl := cu26 hx10
    obtain rfl := cr0_0 hx21
    refine hG (any_step ?_); clear hG G; intro A J hJ
    have hle0 := Fz.le.trans hle0 hle103
    refine s1 hFx 27 (.int .i64 (w64 (u2 + x10))) ?_; intro a160 hF161; clear hFx
    refine nl (qnI (hJ _ _ ?_)); clear hJ J
    exact ⟨g59, g76, g85, g91, ud16, ud17, ud18, ud19, ud20, ud21, ud22, ud23, ud24, .int .i64 u2, .int .i64 x10, .int .i64 (w64 (u2 + x10)), ud28, ud29, ud30, ud31, ud32, ud33, ud34, ud35, ud36, ud37, .own tyJob 110 ao1 cap2 zao1, hle103, hF161.reg, hMx.perm lpr, cu16, cu17, cu18, cu19, cu20, cu21, cu22, cu23, cu24, kf, kf, kf, (nt hx12), (nt hx13), cu30, cu31, cu32, cu33, cu34, cu35, (nt hx20), (nt hx22), kf, (fun h _ => nt hx21 h), (nt hx23), (nt hx12), cf1, (nt hx20), (nt hx22)⟩
   ·
    obtain rfl := oj hi
    have hx11 := hpre 11 (by kernel_rfl)
    have hx8 := hpre 8 (by kernel_rfl)
    have hx10 := hcl 11 10 (by kernel_rfl) hx11
    have hx9 := hcl 11 9 (by kernel_rfl) hx11
    have hx12 := hSi
    have hx13 := ngF hcl 13 12 hx12
    have hx20 := ngF hcl 20 12 hx12
    have hx21 := ngF hcl 21 12 hx12
    have hx22 := ngF hcl 22 12 hx12
    have hx23 := ngF hcl 23 12 hx12
    obtain rfl := cu24 hx8
    obtain rfl := cu25 hx9
    obtain rfl := cu26 hx10
    obtain rfl := cu27 hx11
    obtain rfl := cr0_0 hx21
    refine hG (any_step ?_); clear hG G; intro A J hJ
    have hle0 := Fz.le.trans hle0 hle103
    refine ixo hFx hMx 0 (T := tyJob) (xs := zao1) (w64 (u2 + x10)) (by simpa only [List.length_set] using hcd12_0) (k := .i64) (e := 110) (bytes := 24) (nog rfl _) rfl (by kernel_rfl) rfl (by kernel_rfl) (by kernel_rfl) rfl (by kernel_rfl) ?_; intro g163 a165 hg164 hF166; clear hFx
    refine nl (qnI (hJ _ _ ?_)); clear hJ J
    exact ⟨g163, g76, g85, g91, ud16, ud17, ud18, ud19, ud20, ud21, ud22, ud23, .slice ao1 zao1.length cap2, .int .i64 u2, .int .i64 x10, .int .i64 (w64 (u2 + x10)), .pointer (some ⟨g163, (w64 (u2 + x10)).toNat * 3, none⟩), ud29, ud30, ud31, ud32, ud33, ud34, ud35, ud36, ud37, .own tyJob 110 ao1 cap2 zao1, hle103, hF166.reg, hMx.perm lpr, cu16, cu17, cu18, cu19, cu20, cu21, cu22, cu23, kf, kf, kf, kf, kf, (nt hx13), cu30, cu31, cu32, cu33, cu34, cu35, (nt hx20), (nt hx22), kf, (fun h _ => nt hx21 h), (nt hx23), (fun _ => hg164), cf1, (nt hx20), (nt hx22)⟩
   ·
    obtain rfl := oj hi
    have hx12 := hpre 12 (by kernel_rfl)
    have hx11 := hcl 12 11 (by kernel_rfl) hx12
    have hx8 := hcl 12 8 (by kernel_rfl) hx12
    have hx10 := hcl 11 10 (by kernel_rfl) hx11
    have hx9 := hcl 11 9 (by kernel_rfl) hx11
    have hx13 := hSi
    have hx20 := ngF hcl 20 13 hx13
    have hx21 := ngF hcl 21 13 hx13
    have hx22 := ngF hcl 22 13 hx13
    have hx23 := ngF hcl 23 13 hx13
    obtain rfl := cu24 hx8
    obtain rfl := cu25 hx9
    obtain rfl := cu26 hx10
    obtain rfl := cu27 hx11
    obtain rfl := cu28 hx12
    obtain rfl := cr0_0 hx21
    refine hG (any_step ?_); clear hG G; intro A J hJ
    have hle0 := Fz.le.trans hle0 hle103
    have hs168 := cf0 hx12
    obtain ⟨cs169, hT170, hcl171⟩ := own_elx hMx 0 (T := tyJob) (xs := zao1) rfl hs168 (w64 (u2 + x10)).toNat hqd13_0
    obtain rfl : cs169 = ([.int .i64 qd13_0.task, .int .i64 qd13_0.from_, .int .i64 qd13_0.asked] : List Value) := hT170
    refine lc2 hFx 29 3 [.int .i64 qd13_0.task, .int .i64 qd13_0.from_, .int .i64 qd13_0.asked] hcl171 rfl ?_; intro a172 hF173; clear hFx
    refine nl (qnI (hJ _ _ ?_)); clear hJ J
    exact ⟨g59, g76, g85, g91, ud16, ud17, ud18, ud19, ud20, ud21, ud22, ud23, .slice ao1 zao1.length cap2, .int .i64 u2, .int .i64 x10, .int .i64 (w64 (u2 + x10)), .pointer (some ⟨g59, (w64 (u2 + x10)).toNat * 3, none⟩), .agg #[.int .i64 qd13_0.task, .int .i64 qd13_0.from_, .int .i64 qd13_0.asked], ud30, ud31, ud32, ud33, ud34, ud35, ud36, ud37, .own tyJob 110 ao1 cap2 zao1, hle103, hF173.reg, hMx.perm lpr, cu16, cu17, cu18, cu19, cu20, cu21, cu22, cu23, kf, kf, kf, kf, kf, kf, cu30, cu31, cu32, cu33, cu34, cu35, (nt hx20), (nt hx22), kf, (fun h _ => nt hx21 h), (nt hx23), (fun _ => hs168), cf1, (nt hx20), (nt hx22)⟩
   ·
    obtain rfl := oj hi
    have hx14 := hSi
    have hx18 := ngF hcl 18 14 hx14
    have hx19 := ngF hcl 19 18 hx18
    have hx20 := ngF hcl 20 19 hx19
    have hx21 := ngF hcl 21 19 hx19
    have hx22 := ngF hcl 22 14 hx14
    have hx23 := ngF hcl 23 14 hx14
    obtain rfl := cr0_0 hx21
    refine hG (any_step ?_); clear hG G; intro A J hJ
    have hle0 := Fz.le.trans hle0 hle103
    refine s1 hFx 30 (.slice ao1 zao1.length cap2) ?_; intro a175 hF176; clear hFx
    refine nl (qnI (hJ _ _ ?_)); clear hJ J
    exact ⟨g59, g76, g85, g91, ud16, ud17, ud18, ud19, ud20, ud21, ud22, ud23, ud24, ud25, ud26, ud27, ud28, ud29, .slice ao1 zao1.length cap2, ud31, ud32, ud33, ud34, ud35, ud36, ud37, .own tyJob 110 ao1 cap2 zao1, hle103, hF176.reg, hMx.perm lpr, cu16, cu17, cu18, cu19, cu20, cu21, cu22, cu23, cu24, cu25, cu26, cu27, cu28, cu29, kf, cu31, cu32, cu33, (nt hx18), (nt hx19), (nt hx20), (nt hx22), kf, (fun h _ => nt hx21 h), (nt hx23), cf0, (nt hx18), (nt hx20), (nt hx22)⟩
   ·
    obtain rfl := oj hi
    have hx15 := hSi
    have hx17 := ngF hcl 17 15 hx15
    have hx18 := ngF hcl 18 17 hx17
    have hx19 := ngF hcl 19 18 hx18
    have hx20 := ngF hcl 20 19 hx19
    have hx21 := ngF hcl 21 19 hx19
    have hx22 := ngF hcl 22 15 hx15
    have hx23 := ngF hcl 23 15 hx15
    obtain rfl := cr0_0 hx21
    refine hG (any_step ?_); clear hG G; intro A J hJ
    have hle0 := Fz.le.trans hle0 hle103
    refine s1 hFx 31 (.int .i64 u1) ?_; intro a178 hF179; clear hFx
    refine nl (qnI (hJ _ _ ?_)); clear hJ J
    exact ⟨g59, g76, g85, g91, ud16, ud17, ud18, ud19, ud20, ud21, ud22, ud23, ud24, ud25, ud26, ud27, ud28, ud29, ud30, .int .i64 u1, ud32, ud33, ud34, ud35, ud36, ud37, .own tyJob 110 ao1 cap2 zao1, hle103, hF179.reg, hMx.perm lpr, cu16, cu17, cu18, cu19, cu20, cu21, cu22, cu23, cu24, cu25, cu26, cu27, cu28, cu29, cu30, kf, cu32, (nt hx17), (nt hx18), (nt hx19), (nt hx20), (nt hx22), kf, (fun h _ => nt hx21 h), (nt hx23), cf0, (nt hx18), (nt hx20), (nt hx22)⟩
   ·
    obtain rfl := oj hi
    have hx16 := hSi
    have hx17 := ngF hcl 17 16 hx16
    have hx18 := ngF hcl 18 17 hx17
    have hx19 := ngF hcl 19 18 hx18
    have hx20 := ngF hcl 20 19 hx19
    have hx21 := ngF hcl 21 19 hx19
    have hx22 := ngF hcl 22 16 hx16
    have hx23 := ngF hcl 23 16 hx16
    obtain rfl := cr0_0 hx21
    refine hG (any_step ?_); clear hG G; intro A J hJ
    have hle0 := Fz.le.trans hle0 hle103
    refine s1 hFx 32 (.int .i64 x10) ?_; intro a181 hF182; clear hFx
    refine nl (qnI (hJ _ _ ?_)); clear hJ J
    exact ⟨g59, g76, g85, g91, ud16, ud17, ud18, ud19, ud20, ud21, ud22, ud23, ud24, ud25, ud26, ud27, ud28, ud29, ud30, ud31, .int .i64 x10, ud33, ud34, ud35, ud36, ud37, .own tyJob 110 ao1 cap2 zao1, hle103, hF182.reg, hMx.perm lpr, cu16, cu17, cu18, cu19, cu20, cu21, cu22, cu23, cu24, cu25, cu26, cu27, cu28, cu29, cu30, cu31, kf, (nt hx17), (nt hx18), (nt hx19), (nt hx20), (nt hx22), kf, (fun h _ => nt hx21 h), (nt hx23), cf0, (nt hx18), (nt hx20), (nt hx22)⟩
   ·
    obtain rfl := oj hi
    have hx16 := hpre 16 (by kernel_rfl)
    have hx15 := hpre 15 (by kernel_rfl)
    have hx17 := hSi
    have hx18 := ngF hcl 18 17 hx17
    have hx19 := ngF hcl 19 18 hx18
    have hx20 := ngF hcl 20 19 hx19
    have hx21 := ngF hcl 21 19 hx19
    have hx22 := ngF hcl 22 17 hx17
    have hx23 := ngF hcl 23 17 hx17
    obtain rfl := cu31 hx15
    obtain rfl := cu32 hx16
    obtain rfl := cr0_0 hx21
    refine hG (any_step ?_); clear hG G; intro A J hJ
    have hle0 := Fz.le.trans hle0 hle103
    refine s1 hFx 33 (.int .i64 (w64 (u1 + x10))) ?_; intro a184 hF185; clear hFx
    refine nl (qnI (hJ _ _ ?_)); clear hJ J
    exact ⟨g59, g76, g85, g91, ud16, ud17, ud18, ud19, ud20, ud21, ud22, ud23, ud24, ud25, ud26, ud27, ud28, ud29, ud30, .int .i64 u1, .int .i64 x10, .int .i64 (w64 (u1 + x10)), ud34, ud35, ud36, ud37, .own tyJob 110 ao1 cap2 zao1, hle103, hF185.reg, hMx.perm lpr, cu16, cu17, cu18, cu19, cu20, cu21, cu22, cu23, cu24, cu25, cu26, cu27, cu28, cu29, cu30, kf, kf, kf, (nt hx18), (nt hx19), (nt hx20), (nt hx22), kf, (fun h _ => nt hx21 h), (nt hx23), cf0, (nt hx18), (nt hx20), (nt hx22)⟩
   ·
    obtain rfl := oj hi
    have hx17 := hpre 17 (by kernel_rfl)
    have hx14 := hpre 14 (by kernel_rfl)
    have hx16 := hcl 17 16 (by kernel_rfl) hx17
    have hx15 := hcl 17 15 (by kernel_rfl) hx17
    have hx18 := hSi
    have hx19 := ngF hcl 19 18 hx18
    have hx20 := ngF hcl 20 19 hx19
    have hx21 := ngF hcl 21 19 hx19
    have hx22 := ngF hcl 22 18 hx18
    have hx23 := ngF hcl 23 18 hx18
    obtain rfl := cu30 hx14
    obtain rfl := cu31 hx15
    obtain rfl := cu32 hx16
    obtain rfl := cu33 hx17
    obtain rfl := cr0_0 hx21
    refine hG (any_step ?_); clear hG G; intro A J hJ
    have hle0 := Fz.le.trans hle0 hle103
    refine ixo hFx hMx 0 (T := tyJob) (xs := zao1) (w64 (u1 + x10)) (by simpa only [List.length_set] using hcd18_0) (k := .i64) (e := 110) (bytes := 24) (nog rfl _) rfl (by kernel_rfl) rfl (by kernel_rfl) (by kernel_rfl) rfl (by kernel_rfl) ?_; intro g187 a189 hg188 hF190; clear hFx
    refine nl (qnI (hJ _ _ ?_)); clear hJ J
    exact ⟨g59, g187, g85, g91, ud16, ud17, ud18, ud19, ud20, ud21, ud22, ud23, ud24, ud25, ud26, ud27, ud28, ud29, .slice ao1 zao1.length cap2, .int .i64 u1, .int .i64 x10, .int .i64 (w64 (u1 + x10)), .pointer (some ⟨g187, (w64 (u1 + x10)).toNat * 3, none⟩), ud35, ud36, ud37, .own tyJob 110 ao1 cap2 zao1, hle103, hF190.reg, hMx.perm lpr, cu16, cu17, cu18, cu19, cu20, cu21, cu22, cu23, cu24, cu25, cu26, cu27, cu28, cu29, kf, kf, kf, kf, kf, (nt hx19), (nt hx20), (nt hx22), kf, (fun h _ => nt hx21 h), (nt hx23), cf0, (fun _ => hg188), (nt hx20), (nt hx22)⟩
   ·
    obtain rfl := oj hi
    have hx18 := hpre 18 (by kernel_rfl)
    have hx17 := hcl 18 17 (by kernel_rfl) hx18
    have hx14 := hcl 18 14 (by kernel_rfl) hx18
    have hx16 := hcl 17 16 (by kernel_rfl) hx17
    have hx15 := hcl 17 15 (by kernel_rfl) hx17
    have hx19 := hSi
    have hx20 := ngF hcl 20 19 hx19
    have hx21 := ngF hcl 21 19 hx19
    have hx22 := ngF hcl 22 19 hx19
    have hx23 := ngF hcl 23 19 hx19
    obtain rfl := cu30 hx14
    obtain rfl := cu31 hx15
    obtain rfl := cu32 hx16
    obtain rfl := cu33 hx17
    obtain rfl := cu34 hx18
    obtain rfl := cr0_0 hx21
    refine hG (any_step ?_); clear hG G; intro A J hJ
    have hle0 := Fz.le.trans hle0 hle103
    have hs192 := cf1 hx18
    obtain ⟨cs193, hT194, hcl195⟩ := own_elx hMx 0 (T := tyJob) (xs := zao1) rfl hs192 (w64 (u1 + x10)).toNat hqd19_0
    obtain rfl : cs193 = ([.int .i64 qd19_0.task, .int .i64 qd19_0.from_, .int .i64 qd19_0.asked] : List Value) := hT194
    refine lc2 hFx 35 3 [.int .i64 qd19_0.task, .int .i64 qd19_0.from_, .int .i64 qd19_0.asked] hcl195 rfl ?_; intro a196 hF197; clear hFx
    refine nl (qnI (hJ _ _ ?_)); clear hJ J
    exact ⟨g59, g76, g85, g91, ud16, ud17, ud18, ud19, ud20, ud21, ud22, ud23, ud24, ud25, ud26, ud27, ud28, ud29, .slice ao1 zao1.length cap2, .int .i64 u1, .int .i64 x10, .int .i64 (w64 (u1 + x10)), .pointer (some ⟨g76, (w64 (u1 + x10)).toNat * 3, none⟩), .agg #[.int .i64 qd19_0.task, .int .i64 qd19_0.from_, .int .i64 qd19_0.asked], ud36, ud37, .own tyJob 110 ao1 cap2 zao1, hle103, hF197.reg, hMx.perm lpr, cu16, cu17, cu18, cu19, cu20, cu21, cu22, cu23, cu24, cu25, cu26, cu27, cu28, cu29, kf, kf, kf, kf, kf, kf, (nt hx20), (nt hx22), kf, (fun h _ => nt hx21 h), (nt hx23), cf0, (fun _ => hs192), (nt hx20), (nt hx22)⟩
   ·
    obtain rfl := oj hi
    have hx19 := hpre 19 (by kernel_rfl)
    have hx13 := hpre 13 (by kernel_rfl)
    have hx12 := hpre 12 (by kernel_rfl)
    have hx11 := hpre 11 (by kernel_rfl)
    have hx10 := hpre 10 (by kernel_rfl)
    have hx9 := hpre 9 (by kernel_rfl)
    have hx8 := hpre 8 (by kernel_rfl)
    have hx3 := hpre 3 (by kernel_rfl)
    have hx2 := hpre 2 (by kernel_rfl)
    have hx1 := hpre 1 (by kernel_rfl)
    have hx0 := hpre 0 (by kernel_rfl)
    have hx18 := hcl 19 18 (by kernel_rfl) hx19
    have hx17 := hcl 18 17 (by kernel_rfl) hx18
    have hx14 := hcl 18 14 (by kernel_rfl) hx18
    have hx16 := hcl 17 16 (by kernel_rfl) hx17
    have hx15 := hcl 17 15 (by kernel_rfl) hx17
    have hx20 := hSi
    have hx21 := ngF hcl 21 20 hx20
    have hx22 := ngF hcl 22 20 hx20
    have hx23 := ngF hcl 23 20 hx20
    obtain rfl := cu16 hx0
    obtain rfl := cu17 hx1
    obtain rfl := cu18 hx2
    obtain rfl := cu19 hx3
    obtain rfl := cu24 hx8
    obtain rfl := cu25 hx9
    obtain rfl := cu26 hx10
    obtain rfl := cu27 hx11
    obtain rfl := cu28 hx12
    obtain rfl := cu29 hx13
    obtain rfl := cu30 hx14
    obtain rfl := cu31 hx15
    obtain rfl := cu32 hx16
    obtain rfl := cu33 hx17
    obtain rfl := cu34 hx18
    obtain rfl := cu35 hx19
    obtain rfl := cr0_0 hx21
    refine hG (any_step ?_); clear hG G; intro A J hJ
    have hle0 := Fz.le.trans hle0 hle103
    have hs199 := cf0 hx12
    have hs200 := cf1 hx18
    refine ixo hFx hMx 0 (T := tyJob) (xs := zao1) (w64 (u1 + x10)) (by simpa only [List.length_set] using hcd20_0) (k := .i64) (e := 110) (bytes := 24) (nog rfl _) rfl (by kernel_rfl) rfl (by kernel_rfl) (by kernel_rfl) rfl (by kernel_rfl) ?_; intro g201 a203 hg202 hF204; clear hFx
    refine nl (qnI (hJ _ _ ?_)); clear hJ J
    exact ⟨g59, g76, g201, g91, .slice ao1 zao1.length cap2, .int .i64 u1, .int .i64 x10, .int .i64 (w64 (u1 + x10)), ud20, ud21, ud22, ud23, .slice ao1 zao1.length cap2, .int .i64 u2, .int .i64 x10, .int .i64 (w64 (u2 + x10)), .pointer (some ⟨g59, (w64 (u2 + x10)).toNat * 3, none⟩), .agg #[.int .i64 qd13_0.task, .int .i64 qd13_0.from_, .int .i64 qd13_0.asked], .slice ao1 zao1.length cap2, .int .i64 u1, .int .i64 x10, .int .i64 (w64 (u1 + x10)), .pointer (some ⟨g76, (w64 (u1 + x10)).toNat * 3, none⟩), .agg #[.int .i64 qd19_0.task, .int .i64 qd19_0.from_, .int .i64 qd19_0.asked], .pointer (some ⟨g201, (w64 (u1 + x10)).toNat * 3, none⟩), ud37, .own tyJob 110 ao1 cap2 zao1, hle103, hF204.reg, hMx.perm lpr, kf, kf, kf, kf, cu20, cu21, cu22, cu23, kf, kf, kf, kf, kf, kf, kf, kf, kf, kf, kf, kf, kf, (nt hx22), kf, (fun h _ => nt hx21 h), (nt hx23), (fun _ => hs199), (fun _ => hs200), (fun _ => hg202), (nt hx22)⟩
   ·
    obtain rfl := oj hi
    have hx20 := hpre 20 (by kernel_rfl)
    have hx19 := hpre 19 (by kernel_rfl)
    have hx13 := hpre 13 (by kernel_rfl)
    have hx12 := hpre 12 (by kernel_rfl)
    have hx11 := hpre 11 (by kernel_rfl)
    have hx10 := hpre 10 (by kernel_rfl)
    have hx9 := hpre 9 (by kernel_rfl)
    have hx8 := hpre 8 (by kernel_rfl)
    have hx3 := hpre 3 (by kernel_rfl)
    have hx2 := hpre 2 (by kernel_rfl)
    have hx1 := hpre 1 (by kernel_rfl)
    have hx0 := hpre 0 (by kernel_rfl)
    have hx18 := hcl 19 18 (by kernel_rfl) hx19
    have hx17 := hcl 18 17 (by kernel_rfl) hx18
    have hx14 := hcl 18 14 (by kernel_rfl) hx18
    have hx16 := hcl 17 16 (by kernel_rfl) hx17
    have hx15 := hcl 17 15 (by kernel_rfl) hx17
    have hx21 := hSi
    have hx22 := ngF hcl 22 21 hx21
    have hx23 := ngF hcl 23 21 hx21
    obtain rfl := cu16 hx0
    obtain rfl := cu17 hx1
    obtain rfl := cu18 hx2
    obtain rfl := cu19 hx3
    obtain rfl := cu24 hx8
    obtain rfl := cu25 hx9
    obtain rfl := cu26 hx10
    obtain rfl := cu27 hx11
    obtain rfl := cu28 hx12
    obtain rfl := cu29 hx13
    obtain rfl := cu30 hx14
    obtain rfl := cu31 hx15
    obtain rfl := cu32 hx16
    obtain rfl := cu33 hx17
    obtain rfl := cu34 hx18
    obtain rfl := cu35 hx19
    obtain rfl := cu36 hx20
    obtain rfl := cr0_0 hx21
    refine hG (any_step ?_); clear hG G; intro A J hJ
    have hle0 := Fz.le.trans hle0 hle103
    have hs206 := cf0 hx12
    have hs207 := cf1 hx18
    have hs208 := cf2 hx20
    refine sox hFx hMx 0 hs208 (T := tyJob) (xs := zao1) (w64 (u1 + x10)).toNat qd13_0 (u := .agg #[.int .i64 qd13_0.task, .int .i64 qd13_0.from_, .int .i64 qd13_0.asked]) (nog rfl _) rfl rfl (by kernel_rfl) rfl (by kernel_rfl) rfl (by kernel_rfl) (by first | omega | (simp only [List.length_set] at *; omega)) rfl ?_; intro wd209 hM210; clear hMx
    refine nl (qnI (hJ _ _ ?_)); clear hJ J
    exact ⟨g59, g76, g85, g91, .slice ao1 zao1.length cap2, .int .i64 u1, .int .i64 x10, .int .i64 (w64 (u1 + x10)), ud20, ud21, ud22, ud23, .slice ao1 zao1.length cap2, .int .i64 u2, .int .i64 x10, .int .i64 (w64 (u2 + x10)), .pointer (some ⟨g59, (w64 (u2 + x10)).toNat * 3, none⟩), .agg #[.int .i64 qd13_0.task, .int .i64 qd13_0.from_, .int .i64 qd13_0.asked], .slice ao1 zao1.length cap2, .int .i64 u1, .int .i64 x10, .int .i64 (w64 (u1 + x10)), .pointer (some ⟨g76, (w64 (u1 + x10)).toNat * 3, none⟩), .agg #[.int .i64 qd19_0.task, .int .i64 qd19_0.from_, .int .i64 qd19_0.asked], .pointer (some ⟨g85, (w64 (u1 + x10)).toNat * 3, none⟩), ud37, .own tyJob 110 ao1 cap2 (zao1.set (w64 (u1 + x10)).toNat qd13_0), hle103, hFx.reg, hM210.perm lpr, kf, kf, kf, kf, cu20, cu21, cu22, cu23, kf, kf, kf, kf, kf, kf, kf, kf, kf, kf, kf, kf, kf, (nt hx22), nu, kf2, (nt hx23), (fun _ => hs206), (fun _ => hs207), (fun _ => hs208), (nt hx22)⟩
   ·
    obtain rfl := oj hi
    have hx21 := hpre 21 (by kernel_rfl)
    have hx20 := hpre 20 (by kernel_rfl)
    have hx19 := hpre 19 (by kernel_rfl)
    have hx18 := hpre 18 (by kernel_rfl)
    have hx17 := hpre 17 (by kernel_rfl)
    have hx16 := hpre 16 (by kernel_rfl)
    have hx15 := hpre 15 (by kernel_rfl)
    have hx14 := hpre 14 (by kernel_rfl)
    have hx13 := hpre 13 (by kernel_rfl)
    have hx12 := hpre 12 (by kernel_rfl)
    have hx11 := hpre 11 (by kernel_rfl)
    have hx10 := hpre 10 (by kernel_rfl)
    have hx9 := hpre 9 (by kernel_rfl)
    have hx8 := hpre 8 (by kernel_rfl)
    have hx7 := hpre 7 (by kernel_rfl)
    have hx6 := hpre 6 (by kernel_rfl)
    have hx5 := hpre 5 (by kernel_rfl)
    have hx4 := hpre 4 (by kernel_rfl)
    have hx3 := hpre 3 (by kernel_rfl)
    have hx2 := hpre 2 (by kernel_rfl)
    have hx1 := hpre 1 (by kernel_rfl)
    have hx0 := hpre 0 (by kernel_rfl)
    have hx22 := hSi
    have hx23 := ngF hcl 23 22 hx22
    obtain rfl := cu16 hx0
    obtain rfl := cu17 hx1
    obtain rfl := cu18 hx2
    obtain rfl := cu19 hx3
    obtain rfl := cu20 hx4
    obtain rfl := cu21 hx5
    obtain rfl := cu22 hx6
    obtain rfl := cu23 hx7
    obtain rfl := cu24 hx8
    obtain rfl := cu25 hx9
    obtain rfl := cu26 hx10
    obtain rfl := cu27 hx11
    obtain rfl := cu28 hx12
    obtain rfl := cu29 hx13
    obtain rfl := cu30 hx14
    obtain rfl := cu31 hx15
    obtain rfl := cu32 hx16
    obtain rfl := cu33 hx17
    obtain rfl := cu34 hx18
    obtain rfl := cu35 hx19
    obtain rfl := cu36 hx20
    obtain rfl := cr0_1 hx21 hx23
    refine hG (any_step ?_); clear hG G; intro A J hJ
    have hle0 := Fz.le.trans hle0 hle103
    have hs212 := cf0 hx12
    have hs213 := cf1 hx18
    have hs214 := cf2 hx20
    have hl215 : (zao1.set (w64 (u1 + x10)).toNat qd13_0).length = zao1.length := by simp; try omega
    have hF216 : Fr 38 [] [⟨0, [], .slice ao1 (zao1.set (w64 (u1 + x10)).toNat qd13_0).length cap2⟩, ⟨1, [], .int .i64 u1⟩, ⟨2, [], .int .i64 u2⟩, ⟨3, [], .int .i64 u3⟩, ⟨10, [], .int .i64 x10⟩, ⟨16, [], .slice ao1 (zao1.set (w64 (u1 + x10)).toNat qd13_0).length cap2⟩, ⟨17, [], .int .i64 u1⟩, ⟨18, [], .int .i64 x10⟩, ⟨19, [], .int .i64 (w64 (u1 + x10))⟩, ⟨20, [], .slice ao1 (zao1.set (w64 (u1 + x10)).toNat qd13_0).length cap2⟩, ⟨21, [], .int .i64 u2⟩, ⟨22, [], .int .i64 x10⟩, ⟨23, [], .int .i64 (w64 (u2 + x10))⟩, ⟨24, [], .slice ao1 (zao1.set (w64 (u1 + x10)).toNat qd13_0).length cap2⟩, ⟨25, [], .int .i64 u2⟩, ⟨26, [], .int .i64 x10⟩, ⟨27, [], .int .i64 (w64 (u2 + x10))⟩, ⟨28, [], .pointer (some ⟨g59, (w64 (u2 + x10)).toNat * 3, none⟩)⟩, ⟨29, [], .agg #[.int .i64 qd13_0.task, .int .i64 qd13_0.from_, .int .i64 qd13_0.asked]⟩, ⟨30, [], .slice ao1 (zao1.set (w64 (u1 + x10)).toNat qd13_0).length cap2⟩, ⟨31, [], .int .i64 u1⟩, ⟨32, [], .int .i64 x10⟩, ⟨33, [], .int .i64 (w64 (u1 + x10))⟩, ⟨34, [], .pointer (some ⟨g76, (w64 (u1 + x10)).toNat * 3, none⟩)⟩, ⟨35, [], .agg #[.int .i64 qd19_0.task, .int .i64 qd19_0.from_, .int .i64 qd19_0.asked]⟩, ⟨36, [], .pointer (some ⟨g85, (w64 (u1 + x10)).toNat * 3, none⟩)⟩, ⟨37, [], ud37⟩] a := by rw [hl215]; exact hFx.reg
    clear hFx
    refine ixo hF216 hMx 0 (T := tyJob) (xs := zao1.set (w64 (u1 + x10)).toNat qd13_0) (w64 (u2 + x10)) (by simpa only [List.length_set] using hcd22_0) (k := .i64) (e := 110) (bytes := 24) (nog rfl _) rfl (by kernel_rfl) rfl (by kernel_rfl) (by kernel_rfl) rfl (by kernel_rfl) ?_; intro g217 a219 hg218 hF220; clear hF216
    refine nl (qnI (hJ _ _ ?_)); clear hJ J
    rw [hl215] at hF220
    exact ⟨g59, g76, g85, g217, .slice ao1 zao1.length cap2, .int .i64 u1, .int .i64 x10, .int .i64 (w64 (u1 + x10)), .slice ao1 zao1.length cap2, .int .i64 u2, .int .i64 x10, .int .i64 (w64 (u2 + x10)), .slice ao1 zao1.length cap2, .int .i64 u2, .int .i64 x10, .int .i64 (w64 (u2 + x10)), .pointer (some ⟨g59, (w64 (u2 + x10)).toNat * 3, none⟩), .agg #[.int .i64 qd13_0.task, .int .i64 qd13_0.from_, .int .i64 qd13_0.asked], .slice ao1 zao1.length cap2, .int .i64 u1, .int .i64 x10, .int .i64 (w64 (u1 + x10)), .pointer (some ⟨g76, (w64 (u1 + x10)).toNat * 3, none⟩), .agg #[.int .i64 qd19_0.task, .int .i64 qd19_0.from_, .int .i64 qd19_0.asked], .pointer (some ⟨g85, (w64 (u1 + x10)).toNat * 3, none⟩), .pointer (some ⟨g217, (w64 (u2 + x10)).toNat * 3, none⟩), .own tyJob 110 ao1 cap2 (zao1.set (w64 (u1 + x10)).toNat qd13_0), hle103, hF220.reg, hMx.perm lpr, (fun _ => by first | rfl | rw [hl215]), (fun _ => by first | rfl | rw [hl215]), (fun _ => by first | rfl | rw [hl215]), (fun _ => by first | rfl | rw [hl215]), (fun _ => by first | rfl | rw [hl215]), (fun _ => by first | rfl | rw [hl215]), (fun _ => by first | rfl | rw [hl215]), (fun _ => by first | rfl | rw [hl215]), (fun _ => by first | rfl | rw [hl215]), (fun _ => by first | rfl | rw [hl215]), (fun _ => by first | rfl | rw [hl215]), (fun _ => by first | rfl | rw [hl215]), (fun _ => by first | rfl | rw [hl215]), (fun _ => by first | rfl | rw [hl215]), (fun _ => by first | rfl | rw [hl215]), (fun _ => by first | rfl | rw [hl215]), (fun _ => by first | rfl | rw [hl215]), (fun _ => by first | rfl | rw [hl215]), (fun _ => by first | rfl | rw [hl215]), (fun _ => by first | rfl | rw [hl215]), (fun _ => by first | rfl | rw [hl215]), (fun _ => by first | rfl | rw [hl215]), (tn hx21), kf2, (nt hx23), (fun _ => hs212), (fun _ => hs213), (fun _ => hs214), (fun _ => hg218)⟩
   ·
    obtain rfl := oj hi
    have hx22 := hpre 22 (by kernel_rfl)
    have hx21 := hpre 21 (by kernel_rfl)
    have hx20 := hpre 20 (by kernel_rfl)
    have hx19 := hpre 19 (by kernel_rfl)
    have hx18 := hpre 18 (by kernel_rfl)
    have hx17 := hpre 17 (by kernel_rfl)
    have hx16 := hpre 16 (by kernel_rfl)
    have hx15 := hpre 15 (by kernel_rfl)
    have hx14 := hpre 14 (by kernel_rfl)
    have hx13 := hpre 13 (by kernel_rfl)
    have hx12 := hpre 12 (by kernel_rfl)
    have hx11 := hpre 11 (by kernel_rfl)
    have hx10 := hpre 10 (by kernel_rfl)
    have hx9 := hpre 9 (by kernel_rfl)
    have hx8 := hpre 8 (by kernel_rfl)
    have hx7 := hpre 7 (by kernel_rfl)
    have hx6 := hpre 6 (by kernel_rfl)
    have hx5 := hpre 5 (by kernel_rfl)
    have hx4 := hpre 4 (by kernel_rfl)
    have hx3 := hpre 3 (by kernel_rfl)
    have hx2 := hpre 2 (by kernel_rfl)
    have hx1 := hpre 1 (by kernel_rfl)
    have hx0 := hpre 0 (by kernel_rfl)
    have hx23 := hSi
    obtain rfl := cu16 hx0
    obtain rfl := cu17 hx1
    obtain rfl := cu18 hx2
    obtain rfl := cu19 hx3
    obtain rfl := cu20 hx4
    obtain rfl := cu21 hx5
    obtain rfl := cu22 hx6
    obtain rfl := cu23 hx7
    obtain rfl := cu24 hx8
    obtain rfl := cu25 hx9
    obtain rfl := cu26 hx10
    obtain rfl := cu27 hx11
    obtain rfl := cu28 hx12
    obtain rfl := cu29 hx13
    obtain rfl := cu30 hx14
    obtain rfl := cu31 hx15
    obtain rfl := cu32 hx16
    obtain rfl := cu33 hx17
    obtain rfl := cu34 hx18
    obtain rfl := cu35 hx19
    obtain rfl := cu36 hx20
    obtain rfl := cu37 hx22
    obtain rfl := cr0_1 hx21 hx23
    refine hG (any_step ?_); clear hG G; intro A J hJ
    have hle0 := Fz.le.trans hle0 hle103
    have hs222 := cf0 hx12
    have hs223 := cf1 hx18
    have hs224 := cf2 hx20
    have hs225 := cf3 hx22
    have hl226 : (zao1.set (w64 (u1 + x10)).toNat qd13_0).length = zao1.length := by simp; try omega
    have hF227 : Fr 38 [] [⟨0, [], .slice ao1 (zao1.set (w64 (u1 + x10)).toNat qd13_0).length cap2⟩, ⟨1, [], .int .i64 u1⟩, ⟨2, [], .int .i64 u2⟩, ⟨3, [], .int .i64 u3⟩, ⟨10, [], .int .i64 x10⟩, ⟨16, [], .slice ao1 (zao1.set (w64 (u1 + x10)).toNat qd13_0).length cap2⟩, ⟨17, [], .int .i64 u1⟩, ⟨18, [], .int .i64 x10⟩, ⟨19, [], .int .i64 (w64 (u1 + x10))⟩, ⟨20, [], .slice ao1 (zao1.set (w64 (u1 + x10)).toNat qd13_0).length cap2⟩, ⟨21, [], .int .i64 u2⟩, ⟨22, [], .int .i64 x10⟩, ⟨23, [], .int .i64 (w64 (u2 + x10))⟩, ⟨24, [], .slice ao1 (zao1.set (w64 (u1 + x10)).toNat qd13_0).length cap2⟩, ⟨25, [], .int .i64 u2⟩, ⟨26, [], .int .i64 x10⟩, ⟨27, [], .int .i64 (w64 (u2 + x10))⟩, ⟨28, [], .pointer (some ⟨g59, (w64 (u2 + x10)).toNat * 3, none⟩)⟩, ⟨29, [], .agg #[.int .i64 qd13_0.task, .int .i64 qd13_0.from_, .int .i64 qd13_0.asked]⟩, ⟨30, [], .slice ao1 (zao1.set (w64 (u1 + x10)).toNat qd13_0).length cap2⟩, ⟨31, [], .int .i64 u1⟩, ⟨32, [], .int .i64 x10⟩, ⟨33, [], .int .i64 (w64 (u1 + x10))⟩, ⟨34, [], .pointer (some ⟨g76, (w64 (u1 + x10)).toNat * 3, none⟩)⟩, ⟨35, [], .agg #[.int .i64 qd19_0.task, .int .i64 qd19_0.from_, .int .i64 qd19_0.asked]⟩, ⟨36, [], .pointer (some ⟨g85, (w64 (u1 + x10)).toNat * 3, none⟩)⟩, ⟨37, [], .pointer (some ⟨g91, (w64 (u2 + x10)).toNat * 3, none⟩)⟩] a := by rw [hl226]; exact hFx.reg
    clear hFx
    refine sox hF227 hMx 0 hs225 (T := tyJob) (xs := zao1.set (w64 (u1 + x10)).toNat qd13_0) (w64 (u2 + x10)).toNat qd19_0 (u := .agg #[.int .i64 qd19_0.task, .int .i64 qd19_0.from_, .int .i64 qd19_0.asked]) (nog rfl _) rfl rfl (by kernel_rfl) rfl (by kernel_rfl) rfl (by kernel_rfl) (by first | omega | (simp only [List.length_set] at *; omega)) rfl ?_; intro wd228 hM229; clear hMx
    refine nl (qnI (hJ _ _ ?_)); clear hJ J
    rw [hl226] at hF227
    exact ⟨g59, g76, g85, g91, .slice ao1 zao1.length cap2, .int .i64 u1, .int .i64 x10, .int .i64 (w64 (u1 + x10)), .slice ao1 zao1.length cap2, .int .i64 u2, .int .i64 x10, .int .i64 (w64 (u2 + x10)), .slice ao1 zao1.length cap2, .int .i64 u2, .int .i64 x10, .int .i64 (w64 (u2 + x10)), .pointer (some ⟨g59, (w64 (u2 + x10)).toNat * 3, none⟩), .agg #[.int .i64 qd13_0.task, .int .i64 qd13_0.from_, .int .i64 qd13_0.asked], .slice ao1 zao1.length cap2, .int .i64 u1, .int .i64 x10, .int .i64 (w64 (u1 + x10)), .pointer (some ⟨g76, (w64 (u1 + x10)).toNat * 3, none⟩), .agg #[.int .i64 qd19_0.task, .int .i64 qd19_0.from_, .int .i64 qd19_0.asked], .pointer (some ⟨g85, (w64 (u1 + x10)).toNat * 3, none⟩), .pointer (some ⟨g91, (w64 (u2 + x10)).toNat * 3, none⟩), .own tyJob 110 ao1 cap2 ((zao1.set (w64 (u1 + x10)).toNat qd13_0).set (w64 (u2 + x10)).toNat qd19_0), hle103, hF227.reg, hM229.perm lpr, (fun _ => by first | rfl | rw [hl226]), (fun _ => by first | rfl | rw [hl226]), (fun _ => by first | rfl | rw [hl226]), (fun _ => by first | rfl | rw [hl226]), (fun _ => by first | rfl | rw [hl226]), (fun _ => by first | rfl | rw [hl226]), (fun _ => by first | rfl | rw [hl226]), (fun _ => by first | rfl | rw [hl226]), (fun _ => by first | rfl | rw [hl226]), (fun _ => by first | rfl | rw [hl226]), (fun _ => by first | rfl | rw [hl226]), (fun _ => by first | rfl | rw [hl226]), (fun _ => by first | rfl | rw [hl226]), (fun _ => by first | rfl | rw [hl226]), (fun _ => by first | rfl | rw [hl226]), (fun _ => by first | rfl | rw [hl226]), (fun _ => by first | rfl | rw [hl226]), (fun _ => by first | rfl | rw [hl226]), (fun _ => by first | rfl | rw [hl226]), (fun _ => by first | rfl | rw [hl226]), (fun _ => by first | rfl | rw [hl226]), (fun _ => by first | rfl | rw [hl226]), (tn hx21), (fun _ => nu), kf, (fun _ => hs222), (fun _ => hs223), (fun _ => hs224), (fun _ => hs225)⟩
  case hE =>
   intro S hS a231 wd232 hI; refine Go.Sy.hid ?_; intro G hG; obtain ⟨g59, g76, g85, g91, ud16, ud17, ud18, ud19, ud20, ud21, ud22, ud23, ud24, ud25, ud26, ud27, ud28, ud29, ud30, ud31, ud32, ud33, ud34, ud35, ud36, ud37, rh0, hle103, hFx, hMx, cu16, cu17, cu18, cu19, cu20, cu21, cu22, cu23, cu24, cu25, cu26, cu27, cu28, cu29, cu30, cu31, cu32, cu33, cu34, cu35, cu36, cu37, cr0_0, cr0_1, cr0_2, cf0, cf1, cf2, hI⟩ := hI; have cf3 := hI; clear hI; refine hG ?_; clear hG G
   obtain rfl := cu16 (hS 0 (by decide))
   obtain rfl := cu17 (hS 1 (by decide))
   obtain rfl := cu18 (hS 2 (by decide))
   obtain rfl := cu19 (hS 3 (by decide))
   obtain rfl := cu20 (hS 4 (by decide))
   obtain rfl := cu21 (hS 5 (by decide))
   obtain rfl := cu22 (hS 6 (by decide))
   obtain rfl := cu23 (hS 7 (by decide))
   obtain rfl := cu24 (hS 8 (by decide))
   obtain rfl := cu25 (hS 9 (by decide))
   obtain rfl := cu26 (hS 10 (by decide))
   obtain rfl := cu27 (hS 11 (by decide))
   obtain rfl := cu28 (hS 12 (by decide))
   obtain rfl := cu29 (hS 13 (by decide))
   obtain rfl := cu30 (hS 14 (by decide))
   obtain rfl := cu31 (hS 15 (by decide))
   obtain rfl := cu32 (hS 16 (by decide))
   obtain rfl := cu33 (hS 17 (by decide))
   obtain rfl := cu34 (hS 18 (by decide))
   obtain rfl := cu35 (hS 19 (by decide))
   obtain rfl := cu36 (hS 20 (by decide))
   obtain rfl := cu37 (hS 22 (by decide))
   obtain rfl := cr0_2 (hS 23 (by decide))
   have hle0 := Fz.le.trans hle0 hle103
   have hs233 := cf0 (hS 12 (by decide))
   have hs234 := cf1 (hS 18 (by decide))
   have hs235 := cf2 (hS 20 (by decide))
   have hs236 := cf3 (hS 22 (by decide))
   have hl237 : ((zao1.set (w64 (u1 + x10)).toNat qd13_0).set (w64 (u2 + x10)).toNat qd19_0).length = zao1.length := by simp; try omega
   have hF238 : Fr 38 [] [⟨0, [], .slice ao1 ((zao1.set (w64 (u1 + x10)).toNat qd13_0).set (w64 (u2 + x10)).toNat qd19_0).length cap2⟩, ⟨1, [], .int .i64 u1⟩, ⟨2, [], .int .i64 u2⟩, ⟨3, [], .int .i64 u3⟩, ⟨10, [], .int .i64 x10⟩, ⟨16, [], .slice ao1 ((zao1.set (w64 (u1 + x10)).toNat qd13_0).set (w64 (u2 + x10)).toNat qd19_0).length cap2⟩, ⟨17, [], .int .i64 u1⟩, ⟨18, [], .int .i64 x10⟩, ⟨19, [], .int .i64 (w64 (u1 + x10))⟩, ⟨20, [], .slice ao1 ((zao1.set (w64 (u1 + x10)).toNat qd13_0).set (w64 (u2 + x10)).toNat qd19_0).length cap2⟩, ⟨21, [], .int .i64 u2⟩, ⟨22, [], .int .i64 x10⟩, ⟨23, [], .int .i64 (w64 (u2 + x10))⟩, ⟨24, [], .slice ao1 ((zao1.set (w64 (u1 + x10)).toNat qd13_0).set (w64 (u2 + x10)).toNat qd19_0).length cap2⟩, ⟨25, [], .int .i64 u2⟩, ⟨26, [], .int .i64 x10⟩, ⟨27, [], .int .i64 (w64 (u2 + x10))⟩, ⟨28, [], .pointer (some ⟨g59, (w64 (u2 + x10)).toNat * 3, none⟩)⟩, ⟨29, [], .agg #[.int .i64 qd13_0.task, .int .i64 qd13_0.from_, .int .i64 qd13_0.asked]⟩, ⟨30, [], .slice ao1 ((zao1.set (w64 (u1 + x10)).toNat qd13_0).set (w64 (u2 + x10)).toNat qd19_0).length cap2⟩, ⟨31, [], .int .i64 u1⟩, ⟨32, [], .int .i64 x10⟩, ⟨33, [], .int .i64 (w64 (u1 + x10))⟩, ⟨34, [], .pointer (some ⟨g76, (w64 (u1 + x10)).toNat * 3, none⟩)⟩, ⟨35, [], .agg #[.int .i64 qd19_0.task, .int .i64 qd19_0.from_, .int .i64 qd19_0.asked]⟩, ⟨36, [], .pointer (some ⟨g85, (w64 (u1 + x10)).toNat * 3, none⟩)⟩, ⟨37, [], .pointer (some ⟨g91, (w64 (u2 + x10)).toNat * 3, none⟩)⟩] a231 := by rw [hl237]; exact hFx.reg
   clear hFx
   refine ibn ?_
   refine thn ?_
   have hF239 : Fr 38 [] [⟨0, [], .slice ao1 ((zao1.set (w64 (u1 + x10)).toNat qd13_0).set (w64 (u2 + x10)).toNat qd19_0).length cap2⟩, ⟨1, [], .int .i64 u1⟩, ⟨2, [], .int .i64 u2⟩, ⟨3, [], .int .i64 u3⟩, ⟨10, [], .int .i64 x10⟩] a231 := hF238.reg; clear hF238
   refine rgH ?_; intro hQ240Q hQ240
   refine s1 hF239 14 (.int .i64 x10) ?_; intro a241 hF242; clear hF239
   refine s1 hF242 15 (.int .i64 (w64 (x10 + 1))) ?_; intro a243 hF244; clear hF242
   refine s1 hF244 10 (.int .i64 (w64 (x10 + 1))) ?_; intro a245 hF246; clear hF244
   refine nlH (hQ240 _ _ ?_); clear hQ240 hQ240Q
   refine rd ?_
   exact ⟨⟨w64 (x10 + 1), (zao1.set (w64 (u1 + x10)).toNat qd13_0).set (w64 (u2 + x10)).toNat qd19_0⟩, hp102.1, hp102.2, (hF246.reg).anyβ _ (by kernel_rfl), hMx.keep (List.Sublist.cons_cons _ (List.Sublist.refl _))⟩
 ·
  have hp247 := hp24.2 hb32; clear hp24
  refine wp_exit ?_
  refine thx ?_
  refine thx ?_
  refine ibx ?_
  have hc248 := hp247.1; have hp249 := hp247.2; clear hp247
  refine rN (fn := Try.f134) (v := .tuple #[]) hF31 (re0 hF31 (fn := Try.f134) rfl) ?_
  exact ⟨zao1, Z, rfl, hp249, hle0, hc248, hM23.keep (List.Sublist.cons_cons _ (List.Sublist.refl _))⟩

set_option maxRecDepth 100000 in
set_option maxHeartbeats 0 in
theorem srot_walk (u0 : List Job) (u1 : Int) (u2 : Int) (u3 : Int) (u4 : Job → Job → Int) (ao1 : Option Addr) (cap2 : Nat) (fid3 : Nat) (caps4 : Array Value) (B : Nat) (w0 : World) (Z0 : Fz) (Rr : List Res) (Z : Fz) (w : World) (hf5 : ∀ (Z1 : Fz) (w1 : World), Z.le Z1 → Z1.on w1 → ∀ (x0 : Job) (x1 : Job), Calls Try.prog fid3 (#[.agg #[.int .i64 x0.task, .int .i64 x0.from_, .int .i64 x0.asked], .agg #[.int .i64 x1.task, .int .i64 x1.from_, .int .i64 x1.asked]] ++ caps4) w1 fun e w2 => e = .returned (.int .i64 (u4 x0 x1)) ∧ Below w1.heap.size w1 w2) (hg6 : ∀ x w, Sem.run Try.prog (callFunc fid3 x) w = .ok (.enter fid3 x) w) (hM0 : Mem B [] w0 Z0 ((.own tyJob 110 ao1 cap2 u0) :: Rr) Z w) (hZ : Z.on w) {K : (List Job) → Prop} (hp : srot_vc u0 u1 u2 u3 u4 K) : Calls Try.prog 126 #[.slice ao1 u0.length cap2, .int .i64 u1, .int .i64 u2, .int .i64 u3, .func (.func fid3) #[] caps4] w fun e w' => ∃ (r : (List Job)) (Z' : Fz), e = .returned (.tuple #[]) ∧ K r ∧ Fz.le Z Z' ∧ (r.length = u0.length) ∧ Mem B [] w0 Z0 ((.own tyJob 110 ao1 cap2 r) :: Rr) Z' w' := by
 refine enter0 Try.func126 rfl rfl (by kernel_rfl) ?_; intro a0 hF0; have hle0 := Fz.le.refl Z
 have hp7 := hp (hM0.ownSmall 0 rfl); clear hp
 refine sqH ?_; intro hQ8Q hQ8
 refine s1 hF0 12 (.int .i64 u2) ?_; intro a9 hF10; clear hF0
 refine s1 hF10 13 (.int .i64 u1) ?_; intro a11 hF12; clear hF10
 refine s1 hF12 14 (.int .i64 (w64 (u2 - u1))) ?_; intro a13 hF14; clear hF12
 refine s1 hF14 10 (.int .i64 (w64 (u2 - u1))) ?_; intro a15 hF16; clear hF14
 refine nlH (hQ8 _ _ ?_); clear hQ8 hQ8Q
 refine sqH ?_; intro hQ17Q hQ17
 refine s1 hF16 15 (.int .i64 u3) ?_; intro a18 hF19; clear hF16
 refine s1 hF19 16 (.int .i64 u2) ?_; intro a20 hF21; clear hF19
 refine s1 hF21 17 (.int .i64 (w64 (u3 - u2))) ?_; intro a22 hF23; clear hF21
 refine s1 hF23 11 (.int .i64 (w64 (u3 - u2))) ?_; intro a24 hF25; clear hF23
 refine nlH (hQ17 _ _ ?_); clear hQ17 hQ17Q
 refine wp_seq ?_
 refine wp_block ?_
 have hF26 : Fr 58 [] [⟨0, [], .slice ao1 u0.length cap2⟩, ⟨2, [], .int .i64 u2⟩, ⟨4, [], .func (.func fid3) #[] caps4⟩, ⟨10, [], .int .i64 (w64 (u2 - u1))⟩, ⟨11, [], .int .i64 (w64 (u3 - u2))⟩] a24 := hF25.reg; clear hF25
 have hF28 : Fr 58 [] [⟨0, [], .slice ao1 u0.length cap2⟩, ⟨2, [], .int .i64 u2⟩, ⟨4, [], .func (.func fid3) #[] caps4⟩, ⟨10, [], .int .i64 (w64 (u2 - u1))⟩, ⟨11, [], .int .i64 (w64 (u3 - u2))⟩] a24 := hF26.reg; clear hF26
 obtain ⟨inv27, mu27, hI31, hr30⟩ := hp7
 have hle32 := hle0
 refine lp (ι := Int × Int × (List Job) × Fz) (fun (s : Int × Int × (List Job) × Fz) => [⟨0, [], .slice ao1 s.2.2.1.length cap2⟩, ⟨2, [], .int .i64 u2⟩, ⟨4, [], .func (.func fid3) #[] caps4⟩, ⟨10, [], .int .i64 s.1⟩, ⟨11, [], .int .i64 s.2.1⟩]) (fun (s : Int × Int × (List Job) × Fz) => ((.own tyJob 110 ao1 cap2 s.2.2.1) :: Rr)) (fun (s : Int × Int × (List Job) × Fz) => s.2.2.2) (fun (s : Int × Int × (List Job) × Fz) => inv27 s.1 s.2.1 s.2.2.1 ∧ Fz.le Z s.2.2.2) (fun (s : Int × Int × (List Job) × Fz) => mu27 s.1 s.2.1 s.2.2.1) ⟨w64 (u2 - u1), w64 (u3 - u2), u0, Z⟩ ⟨hI31, Fz.le.refl _⟩ (by exact hF28.reg) (by exact hM0) ?_
 rintro ⟨x10, x11, zao1, ZL27⟩ ⟨hI29, hleL27⟩ a33 wd34 hF35 hM36
 have hF37 : Fr 58 [] [⟨0, [], .slice ao1 zao1.length cap2⟩, ⟨2, [], .int .i64 u2⟩, ⟨4, [], .func (.func fid3) #[] caps4⟩, ⟨10, [], .int .i64 x10⟩, ⟨11, [], .int .i64 x11⟩] a33 := hF35; clear hF35 hF28
 have hM38 : Mem B [] w0 Z0 ((.own tyJob 110 ao1 cap2 zao1) :: Rr) ZL27 wd34 := hM36; clear hM36 hM0
 have hp39 := hr30 x10 x11 zao1 hI29
 replace hle0 := Fz.le.trans hle0 hleL27
 refine wp_seq ?_
 refine sqH ?_; intro hQ40Q hQ40
 refine s1 hF37 18 (.int .i64 x10) ?_; intro a41 hF42; clear hF37
 refine s1 hF42 19 (.int .i64 x11) ?_; intro a43 hF44; clear hF42
 refine s1 hF44 20 (.bool (x10 != x11)) ?_; intro a45 hF46; clear hF44
 refine nlH (hQ40 _ _ ?_); clear hQ40 hQ40Q
 refine cd hF46 (t := x10 != x11) (by kernel_rfl) (fun hb47 => ?_) (fun hb47 => ?_)
 ·
  have hp48 := hp39.1 hb47; clear hp39
  refine wp_skip ?_
  refine thn ?_
  refine wp_block ?_
  refine sqH ?_; intro hQ49Q hQ49
  refine s1 hF46 21 (.int .i64 x10) ?_; intro a50 hF51; clear hF46
  refine s1 hF51 22 (.int .i64 x11) ?_; intro a52 hF53; clear hF51
  refine s1 hF53 23 (.bool (decide (x10 > x11))) ?_; intro a54 hF55; clear hF53
  refine nlH (hQ49 _ _ ?_); clear hQ49 hQ49Q
  refine cd hF55 (t := decide (x10 > x11)) (by kernel_rfl) (fun hb56 => ?_) (fun hb56 => ?_)
  ·
   have hp57 := hp48.1 hb56; clear hp48
   refine sqH ?_; intro hQ58Q hQ58
   refine s1 hF55 24 (.slice ao1 zao1.length cap2) ?_; intro a59 hF60; clear hF55
   refine s1 hF60 25 (.int .i64 u2) ?_; intro a61 hF62; clear hF60
   refine s1 hF62 26 (.int .i64 x10) ?_; intro a63 hF64; clear hF62
   refine s1 hF64 27 (.int .i64 (w64 (u2 - x10))) ?_; intro a65 hF66; clear hF64
   refine s1 hF66 28 (.int .i64 u2) ?_; intro a67 hF68; clear hF66
   refine s1 hF68 29 (.int .i64 x11) ?_; intro a69 hF70; clear hF68
   refine s1 hF70 30 (.func (.func fid3) #[] caps4) ?_; intro a71 hF72; clear hF70
   refine cl hF72 134 #[.slice ao1 zao1.length cap2, .int .i64 (w64 (u2 - x10)), .int .i64 u2, .int .i64 x11, .func (.func fid3) #[] caps4] (nog rfl _) rfl (by kernel_rfl) (by kernel_rfl) ?_
   refine (sswap_walk zao1 (w64 (u2 - x10)) u2 x11 u4 ao1 cap2 fid3 caps4 _ _ _ _ _ _ (fun Z1 w1 h1 h2 => hf5 Z1 w1 (hle0.trans h1) h2) hg6 hM38 hM38.fz hp57).mono ?_; rintro _ wd74 ⟨r73, Z80, rfl, hp78, hle81, hl79, hm⟩; refine ⟨_, rfl, ?_⟩; intro a75 hF76; have hM77 := hm; clear hm hM38 hF72
   replace hleL27 := hleL27.mono hle81
   replace hle0 := Fz.le.trans hle0 hle81
   have hF82 : Fr 58 [] [⟨0, [], .slice ao1 r73.length cap2⟩, ⟨2, [], .int .i64 u2⟩, ⟨4, [], .func (.func fid3) #[] caps4⟩, ⟨10, [], .int .i64 x10⟩, ⟨11, [], .int .i64 x11⟩, ⟨18, [], .int .i64 x10⟩, ⟨19, [], .int .i64 x11⟩, ⟨20, [], .bool (x10 != x11)⟩, ⟨21, [], .int .i64 x10⟩, ⟨22, [], .int .i64 x11⟩, ⟨23, [], .bool (decide (x10 > x11))⟩, ⟨24, [], .slice ao1 r73.length cap2⟩, ⟨25, [], .int .i64 u2⟩, ⟨26, [], .int .i64 x10⟩, ⟨27, [], .int .i64 (w64 (u2 - x10))⟩, ⟨28, [], .int .i64 u2⟩, ⟨29, [], .int .i64 x11⟩, ⟨30, [], .func (.func fid3) #[] caps4⟩, ⟨31, [], .tuple #[]⟩] a75 := by rw [hl79]; exact hF76.reg
   clear hF76
   have hM83 : Mem B [] w0 Z0 ((.own tyJob 110 ao1 cap2 r73) :: Rr) Z80 wd74 := hM77; clear hM77
   have hp84 := hp78 (hM83.ownSmall 0 rfl); clear hp78
   refine nlH (hQ58 _ _ ?_); clear hQ58 hQ58Q
   have hF85 : Fr 58 [] [⟨0, [], .slice ao1 r73.length cap2⟩, ⟨2, [], .int .i64 u2⟩, ⟨4, [], .func (.func fid3) #[] caps4⟩, ⟨10, [], .int .i64 x10⟩, ⟨11, [], .int .i64 x11⟩] a75 := hF82.reg; clear hF82
   refine rgH ?_; intro hQ86Q hQ86
   refine s1 hF85 32 (.int .i64 x10) ?_; intro a87 hF88; clear hF85
   refine s1 hF88 33 (.int .i64 x11) ?_; intro a89 hF90; clear hF88
   refine s1 hF90 34 (.int .i64 (w64 (x10 - x11))) ?_; intro a91 hF92; clear hF90
   refine s1 hF92 10 (.int .i64 (w64 (x10 - x11))) ?_; intro a93 hF94; clear hF92
   refine nlH (hQ86 _ _ ?_); clear hQ86 hQ86Q
   refine ibn ?_
   refine rd ?_
   exact ⟨⟨w64 (x10 - x11), x11, r73, Z80⟩, ⟨hp84.1, hleL27⟩, hp84.2, (hF94.reg).anyβ _ (by kernel_rfl), hM83.keep (List.Sublist.cons_cons _ (List.Sublist.refl _))⟩
  ·
   have hp95 := hp48.2 hb56; clear hp48
   refine sqH ?_; intro hQ96Q hQ96
   refine s1 hF55 35 (.slice ao1 zao1.length cap2) ?_; intro a97 hF98; clear hF55
   refine s1 hF98 36 (.int .i64 u2) ?_; intro a99 hF100; clear hF98
   refine s1 hF100 37 (.int .i64 x10) ?_; intro a101 hF102; clear hF100
   refine s1 hF102 38 (.int .i64 (w64 (u2 - x10))) ?_; intro a103 hF104; clear hF102
   refine s1 hF104 39 (.int .i64 u2) ?_; intro a105 hF106; clear hF104
   refine s1 hF106 40 (.int .i64 x11) ?_; intro a107 hF108; clear hF106
   refine s1 hF108 41 (.int .i64 (w64 (u2 + x11))) ?_; intro a109 hF110; clear hF108
   refine s1 hF110 42 (.int .i64 x10) ?_; intro a111 hF112; clear hF110
   refine s1 hF112 43 (.int .i64 (w64 ((w64 (u2 + x11)) - x10))) ?_; intro a113 hF114; clear hF112
   refine s1 hF114 44 (.int .i64 x10) ?_; intro a115 hF116; clear hF114
   refine s1 hF116 45 (.func (.func fid3) #[] caps4) ?_; intro a117 hF118; clear hF116
   refine cl hF118 134 #[.slice ao1 zao1.length cap2, .int .i64 (w64 (u2 - x10)), .int .i64 (w64 ((w64 (u2 + x11)) - x10)), .int .i64 x10, .func (.func fid3) #[] caps4] (nog rfl _) rfl (by kernel_rfl) (by kernel_rfl) ?_
   refine (sswap_walk zao1 (w64 (u2 - x10)) (w64 ((w64 (u2 + x11)) - x10)) x10 u4 ao1 cap2 fid3 caps4 _ _ _ _ _ _ (fun Z1 w1 h1 h2 => hf5 Z1 w1 (hle0.trans h1) h2) hg6 hM38 hM38.fz hp95).mono ?_; rintro _ wd120 ⟨r119, Z126, rfl, hp124, hle127, hl125, hm⟩; refine ⟨_, rfl, ?_⟩; intro a121 hF122; have hM123 := hm; clear hm hM38 hF118
   replace hleL27 := hleL27.mono hle127
   replace hle0 := Fz.le.trans hle0 hle127
   have hF128 : Fr 58 [] [⟨0, [], .slice ao1 r119.length cap2⟩, ⟨2, [], .int .i64 u2⟩, ⟨4, [], .func (.func fid3) #[] caps4⟩, ⟨10, [], .int .i64 x10⟩, ⟨11, [], .int .i64 x11⟩, ⟨18, [], .int .i64 x10⟩, ⟨19, [], .int .i64 x11⟩, ⟨20, [], .bool (x10 != x11)⟩, ⟨21, [], .int .i64 x10⟩, ⟨22, [], .int .i64 x11⟩, ⟨23, [], .bool (decide (x10 > x11))⟩, ⟨35, [], .slice ao1 r119.length cap2⟩, ⟨36, [], .int .i64 u2⟩, ⟨37, [], .int .i64 x10⟩, ⟨38, [], .int .i64 (w64 (u2 - x10))⟩, ⟨39, [], .int .i64 u2⟩, ⟨40, [], .int .i64 x11⟩, ⟨41, [], .int .i64 (w64 (u2 + x11))⟩, ⟨42, [], .int .i64 x10⟩, ⟨43, [], .int .i64 (w64 ((w64 (u2 + x11)) - x10))⟩, ⟨44, [], .int .i64 x10⟩, ⟨45, [], .func (.func fid3) #[] caps4⟩, ⟨46, [], .tuple #[]⟩] a121 := by rw [hl125]; exact hF122.reg
   clear hF122
   have hM129 : Mem B [] w0 Z0 ((.own tyJob 110 ao1 cap2 r119) :: Rr) Z126 wd120 := hM123; clear hM123
   have hp130 := hp124 (hM129.ownSmall 0 rfl); clear hp124
   refine nlH (hQ96 _ _ ?_); clear hQ96 hQ96Q
   have hF131 : Fr 58 [] [⟨0, [], .slice ao1 r119.length cap2⟩, ⟨2, [], .int .i64 u2⟩, ⟨4, [], .func (.func fid3) #[] caps4⟩, ⟨10, [], .int .i64 x10⟩, ⟨11, [], .int .i64 x11⟩] a121 := hF128.reg; clear hF128
   refine rgH ?_; intro hQ132Q hQ132
   refine s1 hF131 47 (.int .i64 x11) ?_; intro a133 hF134; clear hF131
   refine s1 hF134 48 (.int .i64 x10) ?_; intro a135 hF136; clear hF134
   refine s1 hF136 49 (.int .i64 (w64 (x11 - x10))) ?_; intro a137 hF138; clear hF136
   refine s1 hF138 11 (.int .i64 (w64 (x11 - x10))) ?_; intro a139 hF140; clear hF138
   refine nlH (hQ132 _ _ ?_); clear hQ132 hQ132Q
   refine ibn ?_
   refine rd ?_
   exact ⟨⟨x10, w64 (x11 - x10), r119, Z126⟩, ⟨hp130.1, hleL27⟩, hp130.2, (hF140.reg).anyβ _ (by kernel_rfl), hM129.keep (List.Sublist.cons_cons _ (List.Sublist.refl _))⟩
 ·
  have hp141 := hp39.2 hb47; clear hp39
  refine wp_exit ?_
  refine thx ?_
  refine thx ?_
  refine ibx ?_
  refine thn ?_
  refine rgH ?_; intro hQ142Q hQ142
  refine s1 hF46 50 (.slice ao1 zao1.length cap2) ?_; intro a143 hF144; clear hF46
  refine s1 hF144 51 (.int .i64 u2) ?_; intro a145 hF146; clear hF144
  refine s1 hF146 52 (.int .i64 x10) ?_; intro a147 hF148; clear hF146
  refine s1 hF148 53 (.int .i64 (w64 (u2 - x10))) ?_; intro a149 hF150; clear hF148
  refine s1 hF150 54 (.int .i64 u2) ?_; intro a151 hF152; clear hF150
  refine s1 hF152 55 (.int .i64 x10) ?_; intro a153 hF154; clear hF152
  refine s1 hF154 56 (.func (.func fid3) #[] caps4) ?_; intro a155 hF156; clear hF154
  refine cl hF156 134 #[.slice ao1 zao1.length cap2, .int .i64 (w64 (u2 - x10)), .int .i64 u2, .int .i64 x10, .func (.func fid3) #[] caps4] (nog rfl _) rfl (by kernel_rfl) (by kernel_rfl) ?_
  refine (sswap_walk zao1 (w64 (u2 - x10)) u2 x10 u4 ao1 cap2 fid3 caps4 _ _ _ _ _ _ (fun Z1 w1 h1 h2 => hf5 Z1 w1 (hle0.trans h1) h2) hg6 hM38 hM38.fz hp141).mono ?_; rintro _ wd158 ⟨r157, Z164, rfl, hp162, hle165, hl163, hm⟩; refine ⟨_, rfl, ?_⟩; intro a159 hF160; have hM161 := hm; clear hm hM38 hF156
  replace hleL27 := hleL27.mono hle165
  replace hle0 := Fz.le.trans hle0 hle165
  have hF166 : Fr 58 [] [⟨0, [], .slice ao1 r157.length cap2⟩, ⟨2, [], .int .i64 u2⟩, ⟨4, [], .func (.func fid3) #[] caps4⟩, ⟨10, [], .int .i64 x10⟩, ⟨11, [], .int .i64 x11⟩, ⟨18, [], .int .i64 x10⟩, ⟨19, [], .int .i64 x11⟩, ⟨20, [], .bool (x10 != x11)⟩, ⟨50, [], .slice ao1 r157.length cap2⟩, ⟨51, [], .int .i64 u2⟩, ⟨52, [], .int .i64 x10⟩, ⟨53, [], .int .i64 (w64 (u2 - x10))⟩, ⟨54, [], .int .i64 u2⟩, ⟨55, [], .int .i64 x10⟩, ⟨56, [], .func (.func fid3) #[] caps4⟩, ⟨57, [], .tuple #[]⟩] a159 := by rw [hl163]; exact hF160.reg
  clear hF160
  have hM167 : Mem B [] w0 Z0 ((.own tyJob 110 ao1 cap2 r157) :: Rr) Z164 wd158 := hM161; clear hM161
  have hp168 := hp162 (hM167.ownSmall 0 rfl); clear hp162
  refine nlH (hQ142 _ _ ?_); clear hQ142 hQ142Q
  have hc169 := hp168.1; have hp170 := hp168.2; clear hp168
  refine rN (fn := Try.f126) (v := .tuple #[]) hF166 (re0 hF166 (fn := Try.f126) rfl) ?_
  exact ⟨r157, Z164, rfl, hp170, hle0, hc169, hM167.keep (List.Sublist.cons_cons _ (List.Sublist.refl _))⟩

end Go.Proofs.Ytginlmgkimfjmaa
