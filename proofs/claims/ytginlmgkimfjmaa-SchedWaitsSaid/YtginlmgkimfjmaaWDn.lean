/- The walks, made by program: each call does what its pure predicate says. -/
import Derived.Test.YtginlmgkimfjmaaPDn
import Derived.Test.YtginlmgkimfjmaaWDm
set_option linter.unusedVariables false
set_option linter.unusedSimpArgs false
namespace Go.Proofs.Ytginlmgkimfjmaa
open Go.Sy Go.RowKit
set_option maxRecDepth 100000 in
set_option maxHeartbeats 0 in
theorem ssym_walk (u0 : List Job) (u1 : Int) (u2 : Int) (u3 : Int) (u4 : Job → Job → Int) (ao1 : Option Addr) (cap2 : Nat) (fid3 : Nat) (caps4 : Array Value) (B : Nat) (w0 : World) (Z0 : Fz) (Rr : List Res) (Z : Fz) (w : World) (hf5 : ∀ (Z1 : Fz) (w1 : World), Z.le Z1 → Z1.on w1 → ∀ (x0 : Job) (x1 : Job), Calls Try.prog fid3 (#[.agg #[.int .i64 x0.task, .int .i64 x0.from_, .int .i64 x0.asked], .agg #[.int .i64 x1.task, .int .i64 x1.from_, .int .i64 x1.asked]] ++ caps4) w1 fun e w2 => e = .returned (.int .i64 (u4 x0 x1)) ∧ Below w1.heap.size w1 w2) (hg6 : ∀ x w, Sem.run Try.prog (callFunc fid3 x) w = .ok (.enter fid3 x) w) (hM0 : Mem B [] w0 Z0 ((.own tyJob 110 ao1 cap2 u0) :: Rr) Z w) (hZ : Z.on w) (ih : ∀ (u0' : List Job) (u1' : Int) (u2' : Int) (u3' : Int) (u4' : Job → Job → Int), (symMu u0' u1' u2' u3' u4' < symMu u0 u1 u2 u3 u4 ∧ symPre u0' u1' u2' u3' u4') → ∀ (ao1 : Option Addr) (cap2 : Nat) (fid3 : Nat) (caps4 : Array Value) (B : Nat) (w0 : World) (Z0 : Fz) (Rr : List Res) (Z : Fz) (w : World) (hf5 : ∀ (Z1 : Fz) (w1 : World), Z.le Z1 → Z1.on w1 → ∀ (x0 : Job) (x1 : Job), Calls Try.prog fid3 (#[.agg #[.int .i64 x0.task, .int .i64 x0.from_, .int .i64 x0.asked], .agg #[.int .i64 x1.task, .int .i64 x1.from_, .int .i64 x1.asked]] ++ caps4) w1 fun e w2 => e = .returned (.int .i64 (u4' x0 x1)) ∧ Below w1.heap.size w1 w2) (hg6 : ∀ x w, Sem.run Try.prog (callFunc fid3 x) w = .ok (.enter fid3 x) w) (hM0 : Mem B [] w0 Z0 ((.own tyJob 110 ao1 cap2 u0') :: Rr) Z w) (hZ : Z.on w), Calls Try.prog 112 #[.slice ao1 u0'.length cap2, .int .i64 u1', .int .i64 u2', .int .i64 u3', .func (.func fid3) #[] caps4] w fun e w' => ∃ (Z' : Fz), e = .returned (.tuple #[]) ∧ Fz.le Z Z' ∧ ((segC2 u0' u1' u2' u3' u4').length = u0'.length) ∧ Mem B [] w0 Z0 ((.own tyJob 110 ao1 cap2 (segC2 u0' u1' u2' u3' u4')) :: Rr) Z' w') {K : (List Job) → Prop} (hp : ssym_vc u0 u1 u2 u3 u4 K) : Calls Try.prog 112 #[.slice ao1 u0.length cap2, .int .i64 u1, .int .i64 u2, .int .i64 u3, .func (.func fid3) #[] caps4] w fun e w' => ∃ (r : (List Job)) (Z' : Fz), e = .returned (.tuple #[]) ∧ K r ∧ Fz.le Z Z' ∧ (r.length = u0.length) ∧ Mem B [] w0 Z0 ((.own tyJob 110 ao1 cap2 r) :: Rr) Z' w' := by
 refine enter0 Try.func112 rfl rfl (by kernel_rfl) ?_; intro a0 hF0; have hle0 := Fz.le.refl Z
 have hp7 := hp (hM0.ownSmall 0 rfl); clear hp
 refine wp_seq ?_
 refine sqH ?_; intro hQ8Q hQ8
 refine s1 hF0 25 (.int .i64 u2) ?_; intro a9 hF10; clear hF0
 refine s1 hF10 26 (.int .i64 u1) ?_; intro a11 hF12; clear hF10
 refine s1 hF12 27 (.int .i64 (w64 (u2 - u1))) ?_; intro a13 hF14; clear hF12
 refine s1 hF14 28 (.bool ((w64 (u2 - u1)) == 1)) ?_; intro a15 hF16; clear hF14
 refine nlH (hQ8 _ _ ?_); clear hQ8 hQ8Q
 refine cd hF16 (t := (w64 (u2 - u1)) == 1) (by kernel_rfl) (fun hb17 => ?_) (fun hb17 => ?_)
 ·
  have hp18 := hp7.1 hb17; clear hp7
  refine sqH ?_; intro hQ19Q hQ19
  refine s1 hF16 29 (.int .i64 u2) ?_; intro a20 hF21; clear hF16
  refine s1 hF21 10 (.int .i64 u2) ?_; intro a22 hF23; clear hF21
  refine nlH (hQ19 _ _ ?_); clear hQ19 hQ19Q
  refine sqH ?_; intro hQ24Q hQ24
  refine s1 hF23 30 (.int .i64 u3) ?_; intro a25 hF26; clear hF23
  refine s1 hF26 11 (.int .i64 u3) ?_; intro a27 hF28; clear hF26
  refine nlH (hQ24 _ _ ?_); clear hQ24 hQ24Q
  have hF29 : Fr 220 [] [⟨0, [], .slice ao1 u0.length cap2⟩, ⟨1, [], .int .i64 u1⟩, ⟨4, [], .func (.func fid3) #[] caps4⟩, ⟨10, [], .int .i64 u2⟩, ⟨11, [], .int .i64 u3⟩] a27 := hF28.reg; clear hF28
  have hF31 : Fr 220 [] [⟨0, [], .slice ao1 u0.length cap2⟩, ⟨1, [], .int .i64 u1⟩, ⟨4, [], .func (.func fid3) #[] caps4⟩, ⟨10, [], .int .i64 u2⟩, ⟨11, [], .int .i64 u3⟩] a27 := hF29.reg; clear hF29
  obtain ⟨inv30, hp32, hp33⟩ := hp18
  refine wp_seq_k fun KJ34 hKJ35 => ?_
  have hJ36 : ∀ (x10 : Int), inv30 x10 → ∀ a1 w1, Fr 220 [] [⟨0, [], .slice ao1 u0.length cap2⟩, ⟨1, [], .int .i64 u1⟩, ⟨10, [], .int .i64 x10⟩] a1 → Mem B [] w0 Z0 ((.own tyJob 110 ao1 cap2 u0) :: Rr) Z w1 → KJ34 a1 w1 := by
   rintro x10 hI41 a37 wd38 hF39 hM40; clear hF31 hM0
   refine hKJ35 _ _ ?_; clear hKJ35
   have hp42 := hp33 x10 hI41
   refine wp_seq ?_
   refine sqH ?_; intro hQ43Q hQ43
   refine s1 hF39 54 (.int .i64 u1) ?_; intro a44 hF45; clear hF39
   refine s1 hF45 13 (.int .i64 u1) ?_; intro a46 hF47; clear hF45
   refine nlH (hQ43 _ _ ?_); clear hQ43 hQ43Q
   refine wp_block ?_
   have hF48 : Fr 220 [] [⟨0, [], .slice ao1 u0.length cap2⟩, ⟨10, [], .int .i64 x10⟩, ⟨13, [], .int .i64 u1⟩] a46 := hF47.reg; clear hF47
   have hF50 : Fr 220 [] [⟨0, [], .slice ao1 u0.length cap2⟩, ⟨10, [], .int .i64 x10⟩, ⟨13, [], .int .i64 u1⟩] a46 := hF48.reg; clear hF48
   obtain ⟨inv49, mu49, hI53, hr52⟩ := hp42
   refine lp (ι := Int × (List Job)) (fun (s : Int × (List Job)) => [⟨0, [], .slice ao1 s.2.length cap2⟩, ⟨10, [], .int .i64 x10⟩, ⟨13, [], .int .i64 s.1⟩]) (fun (s : Int × (List Job)) => ((.own tyJob 110 ao1 cap2 s.2) :: Rr)) (fun (s : Int × (List Job)) => Z) (fun (s : Int × (List Job)) => inv49 s.1 s.2) (fun (s : Int × (List Job)) => mu49 s.1 s.2) ⟨u1, u0⟩ hI53 (by exact hF50.reg) (by exact hM40) ?_
   rintro ⟨x13, zao1⟩ hI51 a55 wd56 hF57 hM58
   have hF59 : Fr 220 [] [⟨0, [], .slice ao1 zao1.length cap2⟩, ⟨10, [], .int .i64 x10⟩, ⟨13, [], .int .i64 x13⟩] a55 := hF57; clear hF57 hF50
   have hM60 : Mem B [] w0 Z0 ((.own tyJob 110 ao1 cap2 zao1) :: Rr) Z wd56 := hM58; clear hM58 hM40
   have hp61 := hr52 x13 zao1 hI51
   refine wp_seq ?_
   refine sqH ?_; intro hQ62Q hQ62
   refine s1 hF59 55 (.int .i64 x13) ?_; intro a63 hF64; clear hF59
   refine s1 hF64 56 (.int .i64 x10) ?_; intro a65 hF66; clear hF64
   refine s1 hF66 57 (.int .i64 (w64 (x10 - 1))) ?_; intro a67 hF68; clear hF66
   refine s1 hF68 58 (.bool (decide (x13 < (w64 (x10 - 1))))) ?_; intro a69 hF70; clear hF68
   refine nlH (hQ62 _ _ ?_); clear hQ62 hQ62Q
   refine cd hF70 (t := decide (x13 < (w64 (x10 - 1)))) (by kernel_rfl) (fun hb71 => ?_) (fun hb71 => ?_)
   ·
    have hp72 := hp61.1 hb71; clear hp61
    refine wp_skip ?_
    refine thn ?_
    refine wp_seq ?_
    refine wp_block ?_
    have hF73 : Fr 220 [] [⟨0, [], .slice ao1 zao1.length cap2⟩, ⟨10, [], .int .i64 x10⟩, ⟨13, [], .int .i64 x13⟩] a69 := hF70.reg; clear hF70
    have hcd8_0 := hp72.1; have hp124 := hp72.2; clear hp72
    obtain ⟨qd9_0, hqd9_0⟩ : ∃ q, zao1[(w64 (x13 + 1)).toNat]? = some q := ⟨_, List.getElem?_eq_getElem (by omega)⟩; have hp125 := hp124 qd9_0 hqd9_0; clear hp124
    have hcd12_0 := hp125.1; have hp126 := hp125.2; clear hp125
    obtain ⟨qd13_0, hqd13_0⟩ : ∃ q, zao1[x13.toNat]? = some q := ⟨_, List.getElem?_eq_getElem (by omega)⟩; have hp127 := hp126 qd13_0 hqd13_0; clear hp126
    have hcd14_0 := hp127.1; have hp128 := hp127.2; clear hp127
    have hcd16_0 := hp128.1; have hp129 := hp128.2; clear hp128
    refine any_invE mixed [[], [], [], [], [3], [], [], [6], [5, 7], [8], [], [], [10, 11], [12], [0, 1, 5, 6, 7, 8, 9, 13], [0, 1, 5, 6, 7, 8, 9, 13, 14], [0, 1, 2, 3, 4, 5, 6, 7, 8, 9, 10, 11, 12, 13, 14, 15], [0, 1, 2, 3, 4, 5, 6, 7, 8, 9, 10, 11, 12, 13, 14, 15, 16]] 18 (fun S a w1 => ∃ (g90 : Nat) (g103 : Nat) (g112 : Nat) (g118 : Nat) (ud61 : Value) (ud62 : Value) (ud63 : Value) (ud64 : Value) (ud65 : Value) (ud66 : Value) (ud67 : Value) (ud68 : Value) (ud69 : Value) (ud70 : Value) (ud71 : Value) (ud72 : Value) (ud73 : Value) (ud74 : Value) (ud75 : Value) (ud76 : Value) (rh0 : Res), Fz.le Z Z ∧ Fr 220 [] [⟨0, [], .slice ao1 zao1.length cap2⟩, ⟨10, [], .int .i64 x10⟩, ⟨13, [], .int .i64 x13⟩, ⟨61, [], ud61⟩, ⟨62, [], ud62⟩, ⟨63, [], ud63⟩, ⟨64, [], ud64⟩, ⟨65, [], ud65⟩, ⟨66, [], ud66⟩, ⟨67, [], ud67⟩, ⟨68, [], ud68⟩, ⟨69, [], ud69⟩, ⟨70, [], ud70⟩, ⟨71, [], ud71⟩, ⟨72, [], ud72⟩, ⟨73, [], ud73⟩, ⟨74, [], ud74⟩, ⟨75, [], ud75⟩, ⟨76, [], ud76⟩] a ∧ Mem B [] w0 Z0 (rh0 :: Rr) Z w1 ∧ (S 0 = true → ud61 = .slice ao1 zao1.length cap2) ∧ (S 1 = true → ud62 = .int .i64 x13) ∧ (S 2 = true → ud63 = .slice ao1 zao1.length cap2) ∧ (S 3 = true → ud64 = .int .i64 x13) ∧ (S 4 = true → ud65 = .int .i64 (w64 (x13 + 1))) ∧ (S 5 = true → ud66 = .slice ao1 zao1.length cap2) ∧ (S 6 = true → ud67 = .int .i64 x13) ∧ (S 7 = true → ud68 = .int .i64 (w64 (x13 + 1))) ∧ (S 8 = true → ud69 = .pointer (some ⟨g90, (w64 (x13 + 1)).toNat * 3, none⟩)) ∧ (S 9 = true → ud70 = .agg #[.int .i64 qd9_0.task, .int .i64 qd9_0.from_, .int .i64 qd9_0.asked]) ∧ (S 10 = true → ud71 = .slice ao1 zao1.length cap2) ∧ (S 11 = true → ud72 = .int .i64 x13) ∧ (S 12 = true → ud73 = .pointer (some ⟨g103, x13.toNat * 3, none⟩)) ∧ (S 13 = true → ud74 = .agg #[.int .i64 qd13_0.task, .int .i64 qd13_0.from_, .int .i64 qd13_0.asked]) ∧ (S 14 = true → ud75 = .pointer (some ⟨g112, x13.toNat * 3, none⟩)) ∧ (S 16 = true → ud76 = .pointer (some ⟨g118, (w64 (x13 + 1)).toNat * 3, none⟩)) ∧ (S 15 = false → rh0 = .own tyJob 110 ao1 cap2 zao1) ∧ (S 15 = true → S 17 = false → rh0 = .own tyJob 110 ao1 cap2 (zao1.set x13.toNat qd9_0)) ∧ (S 17 = true → rh0 = .own tyJob 110 ao1 cap2 ((zao1.set x13.toNat qd9_0).set (w64 (x13 + 1)).toNat qd13_0)) ∧ (S 8 = true → ao1 = some ⟨g90, 0, none⟩) ∧ (S 12 = true → ao1 = some ⟨g103, 0, none⟩) ∧ (S 14 = true → ao1 = some ⟨g112, 0, none⟩) ∧ (S 16 = true → ao1 = some ⟨g118, 0, none⟩)) ?h0 ?hs ?hE
    case h0 =>
     have hF131 := hF73.any 61
     have hF132 := hF131.any 62
     have hF133 := hF132.any 63
     have hF134 := hF133.any 64
     have hF135 := hF134.any 65
     have hF136 := hF135.any 66
     have hF137 := hF136.any 67
     have hF138 := hF137.any 68
     have hF139 := hF138.any 69
     have hF140 := hF139.any 70
     have hF141 := hF140.any 71
     have hF142 := hF141.any 72
     have hF143 := hF142.any 73
     have hF144 := hF143.any 74
     have hF145 := hF144.any 75
     have hF146 := hF145.any 76
     have hM147 := (hM60.perm lpr).drew
     exact ⟨0, 0, 0, 0, a69.tmps.getD 61 undef, a69.tmps.getD 62 undef, a69.tmps.getD 63 undef, a69.tmps.getD 64 undef, a69.tmps.getD 65 undef, a69.tmps.getD 66 undef, a69.tmps.getD 67 undef, a69.tmps.getD 68 undef, a69.tmps.getD 69 undef, a69.tmps.getD 70 undef, a69.tmps.getD 71 undef, a69.tmps.getD 72 undef, a69.tmps.getD 73 undef, a69.tmps.getD 74 undef, a69.tmps.getD 75 undef, a69.tmps.getD 76 undef, .own tyJob 110 ao1 cap2 zao1, Fz.le.refl _, hF146.reg, hM147, ff, ff, ff, ff, ff, ff, ff, ff, ff, ff, ff, ff, ff, ff, ff, ff, kf, ff, ff, ff, ff, ff, ff⟩
    case hs =>
     intro S hcl i o hil hi hSi hpre a w1 hI; refine Go.Sy.hid ?_; intro G hG; obtain ⟨g90, g103, g112, g118, ud61, ud62, ud63, ud64, ud65, ud66, ud67, ud68, ud69, ud70, ud71, ud72, ud73, ud74, ud75, ud76, rh0, hle130, hFx, hMx, cu61, cu62, cu63, cu64, cu65, cu66, cu67, cu68, cu69, cu70, cu71, cu72, cu73, cu74, cu75, cu76, cr0_0, cr0_1, cr0_2, cf0, cf1, cf2, hI⟩ := hI; have cf3 := hI; clear hI
     have hcase : i = 0 ∨ i = 1 ∨ i = 2 ∨ i = 3 ∨ i = 4 ∨ i = 5 ∨ i = 6 ∨ i = 7 ∨ i = 8 ∨ i = 9 ∨ i = 10 ∨ i = 11 ∨ i = 12 ∨ i = 13 ∨ i = 14 ∨ i = 15 ∨ i = 16 ∨ i = 17 := by clear hi; omega
     rcases hcase with rfl | rfl | rfl | rfl | rfl | rfl | rfl | rfl | rfl | rfl | rfl | rfl | rfl | rfl | rfl | rfl | rfl | rfl
     ·
      obtain rfl := oj hi
      have hx0 := hSi
      have hx14 := ngF hcl 14 0 hx0
      have hx15 := ngF hcl 15 0 hx0
      have hx16 := ngF hcl 16 0 hx0
      have hx17 := ngF hcl 17 0 hx0
      obtain rfl := cr0_0 hx15
      refine hG (any_step ?_); clear hG G; intro A J hJ
      have hle0 := Fz.le.trans hle0 hle130
      refine s1 hFx 61 (.slice ao1 zao1.length cap2) ?_; intro a148 hF149; clear hFx
      refine nl (qnI (hJ _ _ ?_)); clear hJ J
      exact ⟨g90, g103, g112, g118, .slice ao1 zao1.length cap2, ud62, ud63, ud64, ud65, ud66, ud67, ud68, ud69, ud70, ud71, ud72, ud73, ud74, ud75, ud76, .own tyJob 110 ao1 cap2 zao1, hle130, hF149.reg, hMx.perm lpr, kf, cu62, cu63, cu64, cu65, cu66, cu67, cu68, cu69, cu70, cu71, cu72, cu73, cu74, (nt hx14), (nt hx16), kf, (fun h _ => nt hx15 h), (nt hx17), cf0, cf1, (nt hx14), (nt hx16)⟩
     ·
      obtain rfl := oj hi
      have hx1 := hSi
      have hx14 := ngF hcl 14 1 hx1
      have hx15 := ngF hcl 15 1 hx1
      have hx16 := ngF hcl 16 1 hx1
      have hx17 := ngF hcl 17 1 hx1
      obtain rfl := cr0_0 hx15
      refine hG (any_step ?_); clear hG G; intro A J hJ
      have hle0 := Fz.le.trans hle0 hle130
      refine s1 hFx 62 (.int .i64 x13) ?_; intro a151 hF152; clear hFx
      refine nl (qnI (hJ _ _ ?_)); clear hJ J
      exact ⟨g90, g103, g112, g118, ud61, .int .i64 x13, ud63, ud64, ud65, ud66, ud67, ud68, ud69, ud70, ud71, ud72, ud73, ud74, ud75, ud76, .own tyJob 110 ao1 cap2 zao1, hle130, hF152.reg, hMx.perm lpr, cu61, kf, cu63, cu64, cu65, cu66, cu67, cu68, cu69, cu70, cu71, cu72, cu73, cu74, (nt hx14), (nt hx16), kf, (fun h _ => nt hx15 h), (nt hx17), cf0, cf1, (nt hx14), (nt hx16)⟩
     ·
      obtain rfl := oj hi
      have hx2 := hSi
      have hx16 := ngF hcl 16 2 hx2
      have hx17 := ngF hcl 17 2 hx2
      refine hG (any_step ?_); clear hG G; intro A J hJ
      have hle0 := Fz.le.trans hle0 hle130
      refine s1 hFx 63 (.slice ao1 zao1.length cap2) ?_; intro a154 hF155; clear hFx
      refine nl (qnI (hJ _ _ ?_)); clear hJ J
      exact ⟨g90, g103, g112, g118, ud61, ud62, .slice ao1 zao1.length cap2, ud64, ud65, ud66, ud67, ud68, ud69, ud70, ud71, ud72, ud73, ud74, ud75, ud76, rh0, hle130, hF155.reg, hMx.perm lpr, cu61, cu62, kf, cu64, cu65, cu66, cu67, cu68, cu69, cu70, cu71, cu72, cu73, cu74, cu75, (nt hx16), cr0_0, cr0_1, (nt hx17), cf0, cf1, cf2, (nt hx16)⟩
     ·
      obtain rfl := oj hi
      have hx3 := hSi
      have hx4 := ngF hcl 4 3 hx3
      have hx16 := ngF hcl 16 3 hx3
      have hx17 := ngF hcl 17 3 hx3
      refine hG (any_step ?_); clear hG G; intro A J hJ
      have hle0 := Fz.le.trans hle0 hle130
      refine s1 hFx 64 (.int .i64 x13) ?_; intro a157 hF158; clear hFx
      refine nl (qnI (hJ _ _ ?_)); clear hJ J
      exact ⟨g90, g103, g112, g118, ud61, ud62, ud63, .int .i64 x13, ud65, ud66, ud67, ud68, ud69, ud70, ud71, ud72, ud73, ud74, ud75, ud76, rh0, hle130, hF158.reg, hMx.perm lpr, cu61, cu62, cu63, kf, (nt hx4), cu66, cu67, cu68, cu69, cu70, cu71, cu72, cu73, cu74, cu75, (nt hx16), cr0_0, cr0_1, (nt hx17), cf0, cf1, cf2, (nt hx16)⟩
     ·
      obtain rfl := oj hi
      have hx3 := hpre 3 (by kernel_rfl)
      have hx4 := hSi
      have hx16 := ngF hcl 16 4 hx4
      have hx17 := ngF hcl 17 4 hx4
      obtain rfl := cu64 hx3
      refine hG (any_step ?_); clear hG G; intro A J hJ
      have hle0 := Fz.le.trans hle0 hle130
      refine s1 hFx 65 (.int .i64 (w64 (x13 + 1))) ?_; intro a160 hF161; clear hFx
      refine nl (qnI (hJ _ _ ?_)); clear hJ J
      exact ⟨g90, g103, g112, g118, ud61, ud62, ud63, .int .i64 x13, .int .i64 (w64 (x13 + 1)), ud66, ud67, ud68, ud69, ud70, ud71, ud72, ud73, ud74, ud75, ud76, rh0, hle130, hF161.reg, hMx.perm lpr, cu61, cu62, cu63, kf, kf, cu66, cu67, cu68, cu69, cu70, cu71, cu72, cu73, cu74, cu75, (nt hx16), cr0_0, cr0_1, (nt hx17), cf0, cf1, cf2, (nt hx16)⟩
     ·
      obtain rfl := oj hi
      have hx5 := hSi
      have hx8 := ngF hcl 8 5 hx5
      have hx9 := ngF hcl 9 8 hx8
      have hx14 := ngF hcl 14 5 hx5
      have hx15 := ngF hcl 15 5 hx5
      have hx16 := ngF hcl 16 5 hx5
      have hx17 := ngF hcl 17 5 hx5
      obtain rfl := cr0_0 hx15
      refine hG (any_step ?_); clear hG G; intro A J hJ
      have hle0 := Fz.le.trans hle0 hle130
      refine s1 hFx 66 (.slice ao1 zao1.length cap2) ?_; intro a163 hF164; clear hFx
      refine nl (qnI (hJ _ _ ?_)); clear hJ J
      exact ⟨g90, g103, g112, g118, ud61, ud62, ud63, ud64, ud65, .slice ao1 zao1.length cap2, ud67, ud68, ud69, ud70, ud71, ud72, ud73, ud74, ud75, ud76, .own tyJob 110 ao1 cap2 zao1, hle130, hF164.reg, hMx.perm lpr, cu61, cu62, cu63, cu64, cu65, kf, cu67, cu68, (nt hx8), (nt hx9), cu71, cu72, cu73, cu74, (nt hx14), (nt hx16), kf, (fun h _ => nt hx15 h), (nt hx17), (nt hx8), cf1, (nt hx14), (nt hx16)⟩
     ·
      obtain rfl := oj hi
      have hx6 := hSi
      have hx7 := ngF hcl 7 6 hx6
      have hx8 := ngF hcl 8 7 hx7
      have hx9 := ngF hcl 9 8 hx8
      have hx14 := ngF hcl 14 6 hx6
      have hx15 := ngF hcl 15 6 hx6
      have hx16 := ngF hcl 16 6 hx6
      have hx17 := ngF hcl 17 6 hx6
      obtain rfl := cr0_0 hx15
      refine hG (any_step ?_); clear hG G; intro A J hJ
      have hle0 := Fz.le.trans hle0 hle130
      refine s1 hFx 67 (.int .i64 x13) ?_; intro a166 hF167; clear hFx
      refine nl (qnI (hJ _ _ ?_)); clear hJ J
      exact ⟨g90, g103, g112, g118, ud61, ud62, ud63, ud64, ud65, ud66, .int .i64 x13, ud68, ud69, ud70, ud71, ud72, ud73, ud74, ud75, ud76, .own tyJob 110 ao1 cap2 zao1, hle130, hF167.reg, hMx.perm lpr, cu61, cu62, cu63, cu64, cu65, cu66, kf, (nt hx7), (nt hx8), (nt hx9), cu71, cu72, cu73, cu74, (nt hx14), (nt hx16), kf, (fun h _ => nt hx15 h), (nt hx17), (nt hx8), cf1, (nt hx14), (nt hx16)⟩
     ·
      obtain rfl := oj hi
      have hx6 := hpre 6 (by kernel_rfl)
      have hx7 := hSi
      have hx8 := ngF hcl 8 7 hx7
      have hx9 := ngF hcl 9 8 hx8
      have hx14 := ngF hcl 14 7 hx7
      have hx15 := ngF hcl 15 7 hx7
      have hx16 := ngF hcl 16 7 hx7
      have hx17 := ngF hcl 17 7 hx7
      obtain rfl := cu67 hx6
      obtain rfl := cr0_0 hx15
      refine hG (any_step ?_); clear hG G; intro A J hJ
      have hle0 := Fz.le.trans hle0 hle130
      refine s1 hFx 68 (.int .i64 (w64 (x13 + 1))) ?_; intro a169 hF170; clear hFx
      refine nl (qnI (hJ _ _ ?_)); clear hJ J
      exact ⟨g90, g103, g112, g118, ud61, ud62, ud63, ud64, ud65, ud66, .int .i64 x13, .int .i64 (w64 (x13 + 1)), ud69, ud70, ud71, ud72, ud73, ud74, ud75, ud76, .own tyJob 110 ao1 cap2 zao1, hle130, hF170.reg, hMx.perm lpr, cu61, cu62, cu63, cu64, cu65, cu66, kf, kf, (nt hx8), (nt hx9), cu71, cu72, cu73, cu74, (nt hx14), (nt hx16), kf, (fun h _ => nt hx15 h), (nt hx17), (nt hx8), cf1, (nt hx14), (nt hx16)⟩
     ·
      obtain rfl := oj hi
      have hx7 := hpre 7 (by kernel_rfl)
      have hx5 := hpre 5 (by kernel_rfl)
      have hx6 := hcl 7 6 (by kernel_rfl) hx7
      have hx8 := hSi
      have hx9 := ngF hcl 9 8 hx8
      have hx14 := ngF hcl 14 8 hx8
      have hx15 := ngF hcl 15 8 hx8
      have hx16 := ngF hcl 16 8 hx8
      have hx17 := ngF hcl 17 8 hx8
      obtain rfl := cu66 hx5
      obtain rfl := cu67 hx6
      obtain rfl := cu68 hx7
      obtain rfl := cr0_0 hx15
      refine hG (any_step ?_); clear hG G; intro A J hJ
      have hle0 := Fz.le.trans hle0 hle130
      refine ixo hFx hMx 0 (T := tyJob) (xs := zao1) (w64 (x13 + 1)) (by simpa only [List.length_set] using hcd8_0) (k := .i64) (e := 110) (bytes := 24) (nog rfl _) rfl (by kernel_rfl) rfl (by kernel_rfl) (by kernel_rfl) rfl (by kernel_rfl) ?_; intro g172 a174 hg173 hF175; clear hFx
      refine nl (qnI (hJ _ _ ?_)); clear hJ J
      exact ⟨g172, g103, g112, g118, ud61, ud62, ud63, ud64, ud65, .slice ao1 zao1.length cap2, .int .i64 x13, .int .i64 (w64 (x13 + 1)), .pointer (some ⟨g172, (w64 (x13 + 1)).toNat * 3, none⟩), ud70, ud71, ud72, ud73, ud74, ud75, ud76, .own tyJob 110 ao1 cap2 zao1, hle130, hF175.reg, hMx.perm lpr, cu61, cu62, cu63, cu64, cu65, kf, kf, kf, kf, (nt hx9), cu71, cu72, cu73, cu74, (nt hx14), (nt hx16), kf, (fun h _ => nt hx15 h), (nt hx17), (fun _ => hg173), cf1, (nt hx14), (nt hx16)⟩
     ·
      obtain rfl := oj hi
      have hx8 := hpre 8 (by kernel_rfl)
      have hx7 := hcl 8 7 (by kernel_rfl) hx8
      have hx5 := hcl 8 5 (by kernel_rfl) hx8
      have hx6 := hcl 7 6 (by kernel_rfl) hx7
      have hx9 := hSi
      have hx14 := ngF hcl 14 9 hx9
      have hx15 := ngF hcl 15 9 hx9
      have hx16 := ngF hcl 16 9 hx9
      have hx17 := ngF hcl 17 9 hx9
      obtain rfl := cu66 hx5
      obtain rfl := cu67 hx6
      obtain rfl := cu68 hx7
      obtain rfl := cu69 hx8
      obtain rfl := cr0_0 hx15
      refine hG (any_step ?_); clear hG G; intro A J hJ
      have hle0 := Fz.le.trans hle0 hle130
      have hs177 := cf0 hx8
      obtain ⟨cs178, hT179, hcl180⟩ := own_elx hMx 0 (T := tyJob) (xs := zao1) rfl hs177 (w64 (x13 + 1)).toNat hqd9_0
      obtain rfl : cs178 = ([.int .i64 qd9_0.task, .int .i64 qd9_0.from_, .int .i64 qd9_0.asked] : List Value) := hT179
      refine lc2 hFx 70 3 [.int .i64 qd9_0.task, .int .i64 qd9_0.from_, .int .i64 qd9_0.asked] hcl180 rfl ?_; intro a181 hF182; clear hFx
      refine nl (qnI (hJ _ _ ?_)); clear hJ J
      exact ⟨g90, g103, g112, g118, ud61, ud62, ud63, ud64, ud65, .slice ao1 zao1.length cap2, .int .i64 x13, .int .i64 (w64 (x13 + 1)), .pointer (some ⟨g90, (w64 (x13 + 1)).toNat * 3, none⟩), .agg #[.int .i64 qd9_0.task, .int .i64 qd9_0.from_, .int .i64 qd9_0.asked], ud71, ud72, ud73, ud74, ud75, ud76, .own tyJob 110 ao1 cap2 zao1, hle130, hF182.reg, hMx.perm lpr, cu61, cu62, cu63, cu64, cu65, kf, kf, kf, kf, kf, cu71, cu72, cu73, cu74, (nt hx14), (nt hx16), kf, (fun h _ => nt hx15 h), (nt hx17), (fun _ => hs177), cf1, (nt hx14), (nt hx16)⟩
     ·
      obtain rfl := oj hi
      have hx10 := hSi
      have hx12 := ngF hcl 12 10 hx10
      have hx13 := ngF hcl 13 12 hx12
      have hx14 := ngF hcl 14 13 hx13
      have hx15 := ngF hcl 15 13 hx13
      have hx16 := ngF hcl 16 10 hx10
      have hx17 := ngF hcl 17 10 hx10
      obtain rfl := cr0_0 hx15
      refine hG (any_step ?_); clear hG G; intro A J hJ
      have hle0 := Fz.le.trans hle0 hle130
      refine s1 hFx 71 (.slice ao1 zao1.length cap2) ?_; intro a184 hF185; clear hFx
      refine nl (qnI (hJ _ _ ?_)); clear hJ J
      exact ⟨g90, g103, g112, g118, ud61, ud62, ud63, ud64, ud65, ud66, ud67, ud68, ud69, ud70, .slice ao1 zao1.length cap2, ud72, ud73, ud74, ud75, ud76, .own tyJob 110 ao1 cap2 zao1, hle130, hF185.reg, hMx.perm lpr, cu61, cu62, cu63, cu64, cu65, cu66, cu67, cu68, cu69, cu70, kf, cu72, (nt hx12), (nt hx13), (nt hx14), (nt hx16), kf, (fun h _ => nt hx15 h), (nt hx17), cf0, (nt hx12), (nt hx14), (nt hx16)⟩
     ·
      obtain rfl := oj hi
      have hx11 := hSi
      have hx12 := ngF hcl 12 11 hx11
      have hx13 := ngF hcl 13 12 hx12
      have hx14 := ngF hcl 14 13 hx13
      have hx15 := ngF hcl 15 13 hx13
      have hx16 := ngF hcl 16 11 hx11
      have hx17 := ngF hcl 17 11 hx11
      obtain rfl := cr0_0 hx15
      refine hG (any_step ?_); clear hG G; intro A J hJ
      have hle0 := Fz.le.trans hle0 hle130
      refine s1 hFx 72 (.int .i64 x13) ?_; intro a187 hF188; clear hFx
      refine nl (qnI (hJ _ _ ?_)); clear hJ J
      exact ⟨g90, g103, g112, g118, ud61, ud62, ud63, ud64, ud65, ud66, ud67, ud68, ud69, ud70, ud71, .int .i64 x13, ud73, ud74, ud75, ud76, .own tyJob 110 ao1 cap2 zao1, hle130, hF188.reg, hMx.perm lpr, cu61, cu62, cu63, cu64, cu65, cu66, cu67, cu68, cu69, cu70, cu71, kf, (nt hx12), (nt hx13), (nt hx14), (nt hx16), kf, (fun h _ => nt hx15 h), (nt hx17), cf0, (nt hx12), (nt hx14), (nt hx16)⟩
     ·
      obtain rfl := oj hi
      have hx11 := hpre 11 (by kernel_rfl)
      have hx10 := hpre 10 (by kernel_rfl)
      have hx12 := hSi
      have hx13 := ngF hcl 13 12 hx12
      have hx14 := ngF hcl 14 13 hx13
      have hx15 := ngF hcl 15 13 hx13
      have hx16 := ngF hcl 16 12 hx12
      have hx17 := ngF hcl 17 12 hx12
      obtain rfl := cu71 hx10
      obtain rfl := cu72 hx11
      obtain rfl := cr0_0 hx15
      refine hG (any_step ?_); clear hG G; intro A J hJ
      have hle0 := Fz.le.trans hle0 hle130
      refine ixo hFx hMx 0 (T := tyJob) (xs := zao1) x13 (by simpa only [List.length_set] using hcd12_0) (k := .i64) (e := 110) (bytes := 24) (nog rfl _) rfl (by kernel_rfl) rfl (by kernel_rfl) (by kernel_rfl) rfl (by kernel_rfl) ?_; intro g190 a192 hg191 hF193; clear hFx
      refine nl (qnI (hJ _ _ ?_)); clear hJ J
      exact ⟨g90, g190, g112, g118, ud61, ud62, ud63, ud64, ud65, ud66, ud67, ud68, ud69, ud70, .slice ao1 zao1.length cap2, .int .i64 x13, .pointer (some ⟨g190, x13.toNat * 3, none⟩), ud74, ud75, ud76, .own tyJob 110 ao1 cap2 zao1, hle130, hF193.reg, hMx.perm lpr, cu61, cu62, cu63, cu64, cu65, cu66, cu67, cu68, cu69, cu70, kf, kf, kf, (nt hx13), (nt hx14), (nt hx16), kf, (fun h _ => nt hx15 h), (nt hx17), cf0, (fun _ => hg191), (nt hx14), (nt hx16)⟩
     ·
      obtain rfl := oj hi
      have hx12 := hpre 12 (by kernel_rfl)
      have hx11 := hcl 12 11 (by kernel_rfl) hx12
      have hx10 := hcl 12 10 (by kernel_rfl) hx12
      have hx13 := hSi
      have hx14 := ngF hcl 14 13 hx13
      have hx15 := ngF hcl 15 13 hx13
      have hx16 := ngF hcl 16 13 hx13
      have hx17 := ngF hcl 17 13 hx13
      obtain rfl := cu71 hx10
      obtain rfl := cu72 hx11
      obtain rfl := cu73 hx12
      obtain rfl := cr0_0 hx15
      refine hG (any_step ?_); clear hG G; intro A J hJ
      have hle0 := Fz.le.trans hle0 hle130
      have hs195 := cf1 hx12
      obtain ⟨cs196, hT197, hcl198⟩ := own_elx hMx 0 (T := tyJob) (xs := zao1) rfl hs195 x13.toNat hqd13_0
      obtain rfl : cs196 = ([.int .i64 qd13_0.task, .int .i64 qd13_0.from_, .int .i64 qd13_0.asked] : List Value) := hT197
      refine lc2 hFx 74 3 [.int .i64 qd13_0.task, .int .i64 qd13_0.from_, .int .i64 qd13_0.asked] hcl198 rfl ?_; intro a199 hF200; clear hFx
      refine nl (qnI (hJ _ _ ?_)); clear hJ J
      exact ⟨g90, g103, g112, g118, ud61, ud62, ud63, ud64, ud65, ud66, ud67, ud68, ud69, ud70, .slice ao1 zao1.length cap2, .int .i64 x13, .pointer (some ⟨g103, x13.toNat * 3, none⟩), .agg #[.int .i64 qd13_0.task, .int .i64 qd13_0.from_, .int .i64 qd13_0.asked], ud75, ud76, .own tyJob 110 ao1 cap2 zao1, hle130, hF200.reg, hMx.perm lpr, cu61, cu62, cu63, cu64, cu65, cu66, cu67, cu68, cu69, cu70, kf, kf, kf, kf, (nt hx14), (nt hx16), kf, (fun h _ => nt hx15 h), (nt hx17), cf0, (fun _ => hs195), (nt hx14), (nt hx16)⟩
     ·
      obtain rfl := oj hi
      have hx13 := hpre 13 (by kernel_rfl)
      have hx9 := hpre 9 (by kernel_rfl)
      have hx8 := hpre 8 (by kernel_rfl)
      have hx7 := hpre 7 (by kernel_rfl)
      have hx6 := hpre 6 (by kernel_rfl)
      have hx5 := hpre 5 (by kernel_rfl)
      have hx1 := hpre 1 (by kernel_rfl)
      have hx0 := hpre 0 (by kernel_rfl)
      have hx12 := hcl 13 12 (by kernel_rfl) hx13
      have hx11 := hcl 12 11 (by kernel_rfl) hx12
      have hx10 := hcl 12 10 (by kernel_rfl) hx12
      have hx14 := hSi
      have hx15 := ngF hcl 15 14 hx14
      have hx16 := ngF hcl 16 14 hx14
      have hx17 := ngF hcl 17 14 hx14
      obtain rfl := cu61 hx0
      obtain rfl := cu62 hx1
      obtain rfl := cu66 hx5
      obtain rfl := cu67 hx6
      obtain rfl := cu68 hx7
      obtain rfl := cu69 hx8
      obtain rfl := cu70 hx9
      obtain rfl := cu71 hx10
      obtain rfl := cu72 hx11
      obtain rfl := cu73 hx12
      obtain rfl := cu74 hx13
      obtain rfl := cr0_0 hx15
      refine hG (any_step ?_); clear hG G; intro A J hJ
      have hle0 := Fz.le.trans hle0 hle130
      have hs202 := cf0 hx8
      have hs203 := cf1 hx12
      refine ixo hFx hMx 0 (T := tyJob) (xs := zao1) x13 (by simpa only [List.length_set] using hcd14_0) (k := .i64) (e := 110) (bytes := 24) (nog rfl _) rfl (by kernel_rfl) rfl (by kernel_rfl) (by kernel_rfl) rfl (by kernel_rfl) ?_; intro g204 a206 hg205 hF207; clear hFx
      refine nl (qnI (hJ _ _ ?_)); clear hJ J
      exact ⟨g90, g103, g204, g118, .slice ao1 zao1.length cap2, .int .i64 x13, ud63, ud64, ud65, .slice ao1 zao1.length cap2, .int .i64 x13, .int .i64 (w64 (x13 + 1)), .pointer (some ⟨g90, (w64 (x13 + 1)).toNat * 3, none⟩), .agg #[.int .i64 qd9_0.task, .int .i64 qd9_0.from_, .int .i64 qd9_0.asked], .slice ao1 zao1.length cap2, .int .i64 x13, .pointer (some ⟨g103, x13.toNat * 3, none⟩), .agg #[.int .i64 qd13_0.task, .int .i64 qd13_0.from_, .int .i64 qd13_0.asked], .pointer (some ⟨g204, x13.toNat * 3, none⟩), ud76, .own tyJob 110 ao1 cap2 zao1, hle130, hF207.reg, hMx.perm lpr, kf, kf, cu63, cu64, cu65, kf, kf, kf, kf, kf, kf, kf, kf, kf, kf, (nt hx16), kf, (fun h _ => nt hx15 h), (nt hx17), (fun _ => hs202), (fun _ => hs203), (fun _ => hg205), (nt hx16)⟩
     ·
      obtain rfl := oj hi
      have hx14 := hpre 14 (by kernel_rfl)
      have hx13 := hpre 13 (by kernel_rfl)
      have hx9 := hpre 9 (by kernel_rfl)
      have hx8 := hpre 8 (by kernel_rfl)
      have hx7 := hpre 7 (by kernel_rfl)
      have hx6 := hpre 6 (by kernel_rfl)
      have hx5 := hpre 5 (by kernel_rfl)
      have hx1 := hpre 1 (by kernel_rfl)
      have hx0 := hpre 0 (by kernel_rfl)
      have hx12 := hcl 13 12 (by kernel_rfl) hx13
      have hx11 := hcl 12 11 (by kernel_rfl) hx12
      have hx10 := hcl 12 10 (by kernel_rfl) hx12
      have hx15 := hSi
      have hx16 := ngF hcl 16 15 hx15
      have hx17 := ngF hcl 17 15 hx15
      obtain rfl := cu61 hx0
      obtain rfl := cu62 hx1
      obtain rfl := cu66 hx5
      obtain rfl := cu67 hx6
      obtain rfl := cu68 hx7
      obtain rfl := cu69 hx8
      obtain rfl := cu70 hx9
      obtain rfl := cu71 hx10
      obtain rfl := cu72 hx11
      obtain rfl := cu73 hx12
      obtain rfl := cu74 hx13
      obtain rfl := cu75 hx14
      obtain rfl := cr0_0 hx15
      refine hG (any_step ?_); clear hG G; intro A J hJ
      have hle0 := Fz.le.trans hle0 hle130
      have hs209 := cf0 hx8
      have hs210 := cf1 hx12
      have hs211 := cf2 hx14
      refine sox hFx hMx 0 hs211 (T := tyJob) (xs := zao1) x13.toNat qd9_0 (u := .agg #[.int .i64 qd9_0.task, .int .i64 qd9_0.from_, .int .i64 qd9_0.asked]) (nog rfl _) rfl rfl (by kernel_rfl) rfl (by kernel_rfl) rfl (by kernel_rfl) (by first | omega | (simp only [List.length_set] at *; omega)) rfl ?_; intro wd212 hM213; clear hMx
      refine nl (qnI (hJ _ _ ?_)); clear hJ J
      exact ⟨g90, g103, g112, g118, .slice ao1 zao1.length cap2, .int .i64 x13, ud63, ud64, ud65, .slice ao1 zao1.length cap2, .int .i64 x13, .int .i64 (w64 (x13 + 1)), .pointer (some ⟨g90, (w64 (x13 + 1)).toNat * 3, none⟩), .agg #[.int .i64 qd9_0.task, .int .i64 qd9_0.from_, .int .i64 qd9_0.asked], .slice ao1 zao1.length cap2, .int .i64 x13, .pointer (some ⟨g103, x13.toNat * 3, none⟩), .agg #[.int .i64 qd13_0.task, .int .i64 qd13_0.from_, .int .i64 qd13_0.asked], .pointer (some ⟨g112, x13.toNat * 3, none⟩), ud76, .own tyJob 110 ao1 cap2 (zao1.set x13.toNat qd9_0), hle130, hFx.reg, hM213.perm lpr, kf, kf, cu63, cu64, cu65, kf, kf, kf, kf, kf, kf, kf, kf, kf, kf, (nt hx16), nu, kf2, (nt hx17), (fun _ => hs209), (fun _ => hs210), (fun _ => hs211), (nt hx16)⟩
     ·
      obtain rfl := oj hi
      have hx15 := hpre 15 (by kernel_rfl)
      have hx14 := hpre 14 (by kernel_rfl)
      have hx13 := hpre 13 (by kernel_rfl)
      have hx12 := hpre 12 (by kernel_rfl)
      have hx11 := hpre 11 (by kernel_rfl)
      have hx10 := hpre 10 (by kernel_rfl)
      have hx9 := hpre 9 (by kernel_rfl)
      have hx8 := hpre 8 (by kernel_rfl)
      have hx7 := hpre 7 (by kernel_rfl)
      have hx6 := hpre 6 (by kernel_rfl)
      have hx5 := hpre 5 (by kernel_rfl)
      have hx4 := hpre 4 (by kernel_rfl)
      have hx3 := hpre 3 (by kernel_rfl)
      have hx2 := hpre 2 (by kernel_rfl)
      have hx1 := hpre 1 (by kernel_rfl)
      have hx0 := hpre 0 (by kernel_rfl)
      have hx16 := hSi
      have hx17 := ngF hcl 17 16 hx16
      obtain rfl := cu61 hx0
      obtain rfl := cu62 hx1
      obtain rfl := cu63 hx2
      obtain rfl := cu64 hx3
      obtain rfl := cu65 hx4
      obtain rfl := cu66 hx5
      obtain rfl := cu67 hx6
      obtain rfl := cu68 hx7
      obtain rfl := cu69 hx8
      obtain rfl := cu70 hx9
      obtain rfl := cu71 hx10
      obtain rfl := cu72 hx11
      obtain rfl := cu73 hx12
      obtain rfl := cu74 hx13
      obtain rfl := cu75 hx14
      obtain rfl := cr0_1 hx15 hx17
      refine hG (any_step ?_); clear hG G; intro A J hJ
      have hle0 := Fz.le.trans hle0 hle130
      have hs215 := cf0 hx8
      have hs216 := cf1 hx12
      have hs217 := cf2 hx14
      have hl218 : (zao1.set x13.toNat qd9_0).length = zao1.length := by simp; try omega
      have hF219 : Fr 220 [] [⟨0, [], .slice ao1 (zao1.set x13.toNat qd9_0).length cap2⟩, ⟨10, [], .int .i64 x10⟩, ⟨13, [], .int .i64 x13⟩, ⟨61, [], .slice ao1 (zao1.set x13.toNat qd9_0).length cap2⟩, ⟨62, [], .int .i64 x13⟩, ⟨63, [], .slice ao1 (zao1.set x13.toNat qd9_0).length cap2⟩, ⟨64, [], .int .i64 x13⟩, ⟨65, [], .int .i64 (w64 (x13 + 1))⟩, ⟨66, [], .slice ao1 (zao1.set x13.toNat qd9_0).length cap2⟩, ⟨67, [], .int .i64 x13⟩, ⟨68, [], .int .i64 (w64 (x13 + 1))⟩, ⟨69, [], .pointer (some ⟨g90, (w64 (x13 + 1)).toNat * 3, none⟩)⟩, ⟨70, [], .agg #[.int .i64 qd9_0.task, .int .i64 qd9_0.from_, .int .i64 qd9_0.asked]⟩, ⟨71, [], .slice ao1 (zao1.set x13.toNat qd9_0).length cap2⟩, ⟨72, [], .int .i64 x13⟩, ⟨73, [], .pointer (some ⟨g103, x13.toNat * 3, none⟩)⟩, ⟨74, [], .agg #[.int .i64 qd13_0.task, .int .i64 qd13_0.from_, .int .i64 qd13_0.asked]⟩, ⟨75, [], .pointer (some ⟨g112, x13.toNat * 3, none⟩)⟩, ⟨76, [], ud76⟩] a := by rw [hl218]; exact hFx.reg
      clear hFx
      refine ixo hF219 hMx 0 (T := tyJob) (xs := zao1.set x13.toNat qd9_0) (w64 (x13 + 1)) (by simpa only [List.length_set] using hcd16_0) (k := .i64) (e := 110) (bytes := 24) (nog rfl _) rfl (by kernel_rfl) rfl (by kernel_rfl) (by kernel_rfl) rfl (by kernel_rfl) ?_; intro g220 a222 hg221 hF223; clear hF219
      refine nl (qnI (hJ _ _ ?_)); clear hJ J
      rw [hl218] at hF223
      exact ⟨g90, g103, g112, g220, .slice ao1 zao1.length cap2, .int .i64 x13, .slice ao1 zao1.length cap2, .int .i64 x13, .int .i64 (w64 (x13 + 1)), .slice ao1 zao1.length cap2, .int .i64 x13, .int .i64 (w64 (x13 + 1)), .pointer (some ⟨g90, (w64 (x13 + 1)).toNat * 3, none⟩), .agg #[.int .i64 qd9_0.task, .int .i64 qd9_0.from_, .int .i64 qd9_0.asked], .slice ao1 zao1.length cap2, .int .i64 x13, .pointer (some ⟨g103, x13.toNat * 3, none⟩), .agg #[.int .i64 qd13_0.task, .int .i64 qd13_0.from_, .int .i64 qd13_0.asked], .pointer (some ⟨g112, x13.toNat * 3, none⟩), .pointer (some ⟨g220, (w64 (x13 + 1)).toNat * 3, none⟩), .own tyJob 110 ao1 cap2 (zao1.set x13.toNat qd9_0), hle130, hF223.reg, hMx.perm lpr, (fun _ => by first | rfl | rw [hl218]), (fun _ => by first | rfl | rw [hl218]), (fun _ => by first | rfl | rw [hl218]), (fun _ => by first | rfl | rw [hl218]), (fun _ => by first | rfl | rw [hl218]), (fun _ => by first | rfl | rw [hl218]), (fun _ => by first | rfl | rw [hl218]), (fun _ => by first | rfl | rw [hl218]), (fun _ => by first | rfl | rw [hl218]), (fun _ => by first | rfl | rw [hl218]), (fun _ => by first | rfl | rw [hl218]), (fun _ => by first | rfl | rw [hl218]), (fun _ => by first | rfl | rw [hl218]), (fun _ => by first | rfl | rw [hl218]), (fun _ => by first | rfl | rw [hl218]), (fun _ => by first | rfl | rw [hl218]), (tn hx15), kf2, (nt hx17), (fun _ => hs215), (fun _ => hs216), (fun _ => hs217), (fun _ => hg221)⟩
     ·
      obtain rfl := oj hi
      have hx16 := hpre 16 (by kernel_rfl)
      have hx15 := hpre 15 (by kernel_rfl)
      have hx14 := hpre 14 (by kernel_rfl)
      have hx13 := hpre 13 (by kernel_rfl)
      have hx12 := hpre 12 (by kernel_rfl)
      have hx11 := hpre 11 (by kernel_rfl)
      have hx10 := hpre 10 (by kernel_rfl)
      have hx9 := hpre 9 (by kernel_rfl)
      have hx8 := hpre 8 (by kernel_rfl)
      have hx7 := hpre 7 (by kernel_rfl)
      have hx6 := hpre 6 (by kernel_rfl)
      have hx5 := hpre 5 (by kernel_rfl)
      have hx4 := hpre 4 (by kernel_rfl)
      have hx3 := hpre 3 (by kernel_rfl)
      have hx2 := hpre 2 (by kernel_rfl)
      have hx1 := hpre 1 (by kernel_rfl)
      have hx0 := hpre 0 (by kernel_rfl)
      have hx17 := hSi
      obtain rfl := cu61 hx0
      obtain rfl := cu62 hx1
      obtain rfl := cu63 hx2
      obtain rfl := cu64 hx3
      obtain rfl := cu65 hx4
      obtain rfl := cu66 hx5
      obtain rfl := cu67 hx6
      obtain rfl := cu68 hx7
      obtain rfl := cu69 hx8
      obtain rfl := cu70 hx9
      obtain rfl := cu71 hx10
      obtain rfl := cu72 hx11
      obtain rfl := cu73 hx12
      obtain rfl := cu74 hx13
      obtain rfl := cu75 hx14
      obtain rfl := cu76 hx16
      obtain rfl := cr0_1 hx15 hx17
      refine hG (any_step ?_); clear hG G; intro A J hJ
      have hle0 := Fz.le.trans hle0 hle130
      have hs225 := cf0 hx8
      have hs226 := cf1 hx12
      have hs227 := cf2 hx14
      have hs228 := cf3 hx16
      have hl229 : (zao1.set x13.toNat qd9_0).length = zao1.length := by simp; try omega
      have hF230 : Fr 220 [] [⟨0, [], .slice ao1 (zao1.set x13.toNat qd9_0).length cap2⟩, ⟨10, [], .int .i64 x10⟩, ⟨13, [], .int .i64 x13⟩, ⟨61, [], .slice ao1 (zao1.set x13.toNat qd9_0).length cap2⟩, ⟨62, [], .int .i64 x13⟩, ⟨63, [], .slice ao1 (zao1.set x13.toNat qd9_0).length cap2⟩, ⟨64, [], .int .i64 x13⟩, ⟨65, [], .int .i64 (w64 (x13 + 1))⟩, ⟨66, [], .slice ao1 (zao1.set x13.toNat qd9_0).length cap2⟩, ⟨67, [], .int .i64 x13⟩, ⟨68, [], .int .i64 (w64 (x13 + 1))⟩, ⟨69, [], .pointer (some ⟨g90, (w64 (x13 + 1)).toNat * 3, none⟩)⟩, ⟨70, [], .agg #[.int .i64 qd9_0.task, .int .i64 qd9_0.from_, .int .i64 qd9_0.asked]⟩, ⟨71, [], .slice ao1 (zao1.set x13.toNat qd9_0).length cap2⟩, ⟨72, [], .int .i64 x13⟩, ⟨73, [], .pointer (some ⟨g103, x13.toNat * 3, none⟩)⟩, ⟨74, [], .agg #[.int .i64 qd13_0.task, .int .i64 qd13_0.from_, .int .i64 qd13_0.asked]⟩, ⟨75, [], .pointer (some ⟨g112, x13.toNat * 3, none⟩)⟩, ⟨76, [], .pointer (some ⟨g118, (w64 (x13 + 1)).toNat * 3, none⟩)⟩] a := by rw [hl229]; exact hFx.reg
      clear hFx
      refine sox hF230 hMx 0 hs228 (T := tyJob) (xs := zao1.set x13.toNat qd9_0) (w64 (x13 + 1)).toNat qd13_0 (u := .agg #[.int .i64 qd13_0.task, .int .i64 qd13_0.from_, .int .i64 qd13_0.asked]) (nog rfl _) rfl rfl (by kernel_rfl) rfl (by kernel_rfl) rfl (by kernel_rfl) (by first | omega | (simp only [List.length_set] at *; omega)) rfl ?_; intro wd231 hM232; clear hMx
      refine nl (qnI (hJ _ _ ?_)); clear hJ J
      rw [hl229] at hF230
      exact ⟨g90, g103, g112, g118, .slice ao1 zao1.length cap2, .int .i64 x13, .slice ao1 zao1.length cap2, .int .i64 x13, .int .i64 (w64 (x13 + 1)), .slice ao1 zao1.length cap2, .int .i64 x13, .int .i64 (w64 (x13 + 1)), .pointer (some ⟨g90, (w64 (x13 + 1)).toNat * 3, none⟩), .agg #[.int .i64 qd9_0.task, .int .i64 qd9_0.from_, .int .i64 qd9_0.asked], .slice ao1 zao1.length cap2, .int .i64 x13, .pointer (some ⟨g103, x13.toNat * 3, none⟩), .agg #[.int .i64 qd13_0.task, .int .i64 qd13_0.from_, .int .i64 qd13_0.asked], .pointer (some ⟨g112, x13.toNat * 3, none⟩), .pointer (some ⟨g118, (w64 (x13 + 1)).toNat * 3, none⟩), .own tyJob 110 ao1 cap2 ((zao1.set x13.toNat qd9_0).set (w64 (x13 + 1)).toNat qd13_0), hle130, hF230.reg, hM232.perm lpr, (fun _ => by first | rfl | rw [hl229]), (fun _ => by first | rfl | rw [hl229]), (fun _ => by first | rfl | rw [hl229]), (fun _ => by first | rfl | rw [hl229]), (fun _ => by first | rfl | rw [hl229]), (fun _ => by first | rfl | rw [hl229]), (fun _ => by first | rfl | rw [hl229]), (fun _ => by first | rfl | rw [hl229]), (fun _ => by first | rfl | rw [hl229]), (fun _ => by first | rfl | rw [hl229]), (fun _ => by first | rfl | rw [hl229]), (fun _ => by first | rfl | rw [hl229]), (fun _ => by first | rfl | rw [hl229]), (fun _ => by first | rfl | rw [hl229]), (fun _ => by first | rfl | rw [hl229]), (fun _ => by first | rfl | rw [hl229]), (tn hx15), (fun _ => nu), kf, (fun _ => hs225), (fun _ => hs226), (fun _ => hs227), (fun _ => hs228)⟩
    case hE =>
     intro S hS a234 wd235 hI; refine Go.Sy.hid ?_; intro G hG; obtain ⟨g90, g103, g112, g118, ud61, ud62, ud63, ud64, ud65, ud66, ud67, ud68, ud69, ud70, ud71, ud72, ud73, ud74, ud75, ud76, rh0, hle130, hFx, hMx, cu61, cu62, cu63, cu64, cu65, cu66, cu67, cu68, cu69, cu70, cu71, cu72, cu73, cu74, cu75, cu76, cr0_0, cr0_1, cr0_2, cf0, cf1, cf2, hI⟩ := hI; have cf3 := hI; clear hI; refine hG ?_; clear hG G
     obtain rfl := cu61 (hS 0 (by decide))
     obtain rfl := cu62 (hS 1 (by decide))
     obtain rfl := cu63 (hS 2 (by decide))
     obtain rfl := cu64 (hS 3 (by decide))
     obtain rfl := cu65 (hS 4 (by decide))
     obtain rfl := cu66 (hS 5 (by decide))
     obtain rfl := cu67 (hS 6 (by decide))
     obtain rfl := cu68 (hS 7 (by decide))
     obtain rfl := cu69 (hS 8 (by decide))
     obtain rfl := cu70 (hS 9 (by decide))
     obtain rfl := cu71 (hS 10 (by decide))
     obtain rfl := cu72 (hS 11 (by decide))
     obtain rfl := cu73 (hS 12 (by decide))
     obtain rfl := cu74 (hS 13 (by decide))
     obtain rfl := cu75 (hS 14 (by decide))
     obtain rfl := cu76 (hS 16 (by decide))
     obtain rfl := cr0_2 (hS 17 (by decide))
     have hle0 := Fz.le.trans hle0 hle130
     have hs236 := cf0 (hS 8 (by decide))
     have hs237 := cf1 (hS 12 (by decide))
     have hs238 := cf2 (hS 14 (by decide))
     have hs239 := cf3 (hS 16 (by decide))
     have hl240 : ((zao1.set x13.toNat qd9_0).set (w64 (x13 + 1)).toNat qd13_0).length = zao1.length := by simp; try omega
     have hF241 : Fr 220 [] [⟨0, [], .slice ao1 ((zao1.set x13.toNat qd9_0).set (w64 (x13 + 1)).toNat qd13_0).length cap2⟩, ⟨10, [], .int .i64 x10⟩, ⟨13, [], .int .i64 x13⟩, ⟨61, [], .slice ao1 ((zao1.set x13.toNat qd9_0).set (w64 (x13 + 1)).toNat qd13_0).length cap2⟩, ⟨62, [], .int .i64 x13⟩, ⟨63, [], .slice ao1 ((zao1.set x13.toNat qd9_0).set (w64 (x13 + 1)).toNat qd13_0).length cap2⟩, ⟨64, [], .int .i64 x13⟩, ⟨65, [], .int .i64 (w64 (x13 + 1))⟩, ⟨66, [], .slice ao1 ((zao1.set x13.toNat qd9_0).set (w64 (x13 + 1)).toNat qd13_0).length cap2⟩, ⟨67, [], .int .i64 x13⟩, ⟨68, [], .int .i64 (w64 (x13 + 1))⟩, ⟨69, [], .pointer (some ⟨g90, (w64 (x13 + 1)).toNat * 3, none⟩)⟩, ⟨70, [], .agg #[.int .i64 qd9_0.task, .int .i64 qd9_0.from_, .int .i64 qd9_0.asked]⟩, ⟨71, [], .slice ao1 ((zao1.set x13.toNat qd9_0).set (w64 (x13 + 1)).toNat qd13_0).length cap2⟩, ⟨72, [], .int .i64 x13⟩, ⟨73, [], .pointer (some ⟨g103, x13.toNat * 3, none⟩)⟩, ⟨74, [], .agg #[.int .i64 qd13_0.task, .int .i64 qd13_0.from_, .int .i64 qd13_0.asked]⟩, ⟨75, [], .pointer (some ⟨g112, x13.toNat * 3, none⟩)⟩, ⟨76, [], .pointer (some ⟨g118, (w64 (x13 + 1)).toNat * 3, none⟩)⟩] a234 := by rw [hl240]; exact hFx.reg
     clear hFx
     refine ibn ?_
     refine thn ?_
     have hF242 : Fr 220 [] [⟨0, [], .slice ao1 ((zao1.set x13.toNat qd9_0).set (w64 (x13 + 1)).toNat qd13_0).length cap2⟩, ⟨10, [], .int .i64 x10⟩, ⟨13, [], .int .i64 x13⟩] a234 := hF241.reg; clear hF241
     refine rgH ?_; intro hQ243Q hQ243
     refine s1 hF242 59 (.int .i64 x13) ?_; intro a244 hF245; clear hF242
     refine s1 hF245 60 (.int .i64 (w64 (x13 + 1))) ?_; intro a246 hF247; clear hF245
     refine s1 hF247 13 (.int .i64 (w64 (x13 + 1))) ?_; intro a248 hF249; clear hF247
     refine nlH (hQ243 _ _ ?_); clear hQ243 hQ243Q
     refine rd ?_
     exact ⟨⟨w64 (x13 + 1), (zao1.set x13.toNat qd9_0).set (w64 (x13 + 1)).toNat qd13_0⟩, hp129.1, hp129.2, (hF249.reg).anyβ _ (by kernel_rfl), hMx.keep (List.Sublist.cons_cons _ (List.Sublist.refl _))⟩
   ·
    have hp250 := hp61.2 hb71; clear hp61
    refine wp_exit ?_
    refine thx ?_
    refine thx ?_
    refine ibx ?_
    refine thn ?_
    refine wp_ret ?_
    refine thr ?_
    have hc251 := hp250.1; have hp252 := hp250.2; clear hp250
    refine rt (fn := Try.f112) (v := .tuple #[]) hF70 (re0 hF70 (fn := Try.f112) rfl) ?_
    exact ⟨zao1, Z, rfl, hp252, hle0, hc251, hM60.keep (List.Sublist.cons_cons _ (List.Sublist.refl _))⟩
  refine wp_block ?_
  have hF253 : Fr 220 [] [⟨0, [], .slice ao1 u0.length cap2⟩, ⟨1, [], .int .i64 u1⟩, ⟨4, [], .func (.func fid3) #[] caps4⟩, ⟨10, [], .int .i64 u2⟩, ⟨11, [], .int .i64 u3⟩] a27 := hF31.reg; clear hF31
  have hF255 : Fr 220 [] [⟨0, [], .slice ao1 u0.length cap2⟩, ⟨1, [], .int .i64 u1⟩, ⟨4, [], .func (.func fid3) #[] caps4⟩, ⟨10, [], .int .i64 u2⟩, ⟨11, [], .int .i64 u3⟩] a27 := hF253.reg; clear hF253
  obtain ⟨inv254, mu254, hI258, hr257⟩ := hp32
  refine lp (ι := Int × Int) (fun (s : Int × Int) => [⟨0, [], .slice ao1 u0.length cap2⟩, ⟨1, [], .int .i64 u1⟩, ⟨4, [], .func (.func fid3) #[] caps4⟩, ⟨10, [], .int .i64 s.1⟩, ⟨11, [], .int .i64 s.2⟩]) (fun (s : Int × Int) => ((.own tyJob 110 ao1 cap2 u0) :: Rr)) (fun (s : Int × Int) => Z) (fun (s : Int × Int) => inv254 s.1 s.2) (fun (s : Int × Int) => mu254 s.1 s.2) ⟨u2, u3⟩ hI258 (by exact hF255.reg) (by exact hM0) ?_
  rintro ⟨x10v, x11⟩ hI256 a260 wd261 hF262 hM263
  have hF264 : Fr 220 [] [⟨0, [], .slice ao1 u0.length cap2⟩, ⟨1, [], .int .i64 u1⟩, ⟨4, [], .func (.func fid3) #[] caps4⟩, ⟨10, [], .int .i64 x10v⟩, ⟨11, [], .int .i64 x11⟩] a260 := hF262; clear hF262 hF255
  have hM265 : Mem B [] w0 Z0 ((.own tyJob 110 ao1 cap2 u0) :: Rr) Z wd261 := hM263; clear hM263 hM0
  have hp266 := hr257 x10v x11 hI256
  refine wp_seq ?_
  refine sqH ?_; intro hQ267Q hQ267
  refine s1 hF264 31 (.int .i64 x10v) ?_; intro a268 hF269; clear hF264
  refine s1 hF269 32 (.int .i64 x11) ?_; intro a270 hF271; clear hF269
  refine s1 hF271 33 (.bool (decide (x10v < x11))) ?_; intro a272 hF273; clear hF271
  refine nlH (hQ267 _ _ ?_); clear hQ267 hQ267Q
  refine cd hF273 (t := decide (x10v < x11)) (by kernel_rfl) (fun hb274 => ?_) (fun hb274 => ?_)
  ·
   have hp275 := hp266.1 hb274; clear hp266
   refine wp_skip ?_
   refine thn ?_
   refine wp_block ?_
   refine sqH ?_; intro hQ276Q hQ276
   refine s1 hF273 34 (.int .i64 x10v) ?_; intro a277 hF278; clear hF273
   refine s1 hF278 35 (.int .i64 x11) ?_; intro a279 hF280; clear hF278
   refine s1 hF280 36 (.int .i64 (w64 (x10v + x11))) ?_; intro a281 hF282; clear hF280
   refine s1 hF282 37 (.int .u64 (wu64 (w64 (x10v + x11)))) ?_; intro a283 hF284; clear hF282
   refine s1 hF284 38 (.int .u64 (bShr .u64 (wu64 (w64 (x10v + x11))) 1)) ?_; intro a285 hF286; clear hF284
   refine s1 hF286 39 (.int .i64 (w64 (bShr .u64 (wu64 (w64 (x10v + x11))) 1))) ?_; intro a287 hF288; clear hF286
   refine s1 hF288 12 (.int .i64 (w64 (bShr .u64 (wu64 (w64 (x10v + x11))) 1))) ?_; intro a289 hF290; clear hF288
   refine nlH (hQ276 _ _ ?_); clear hQ276 hQ276Q
   have hF291 : Fr 220 [] [⟨0, [], .slice ao1 u0.length cap2⟩, ⟨1, [], .int .i64 u1⟩, ⟨4, [], .func (.func fid3) #[] caps4⟩, ⟨10, [], .int .i64 x10v⟩, ⟨11, [], .int .i64 x11⟩, ⟨12, [], .int .i64 (w64 (bShr .u64 (wu64 (w64 (x10v + x11))) 1))⟩] a289 := hF290.reg; clear hF290
   have hcd3_0 := hp275.1; have hp327 := hp275.2; clear hp275
   obtain ⟨qd4_0, hqd4_0⟩ : ∃ q, u0[(w64 (bShr .u64 (wu64 (w64 (x10v + x11))) 1)).toNat]? = some q := ⟨_, List.getElem?_eq_getElem (by omega)⟩; have hp328 := hp327 qd4_0 hqd4_0; clear hp327
   have hcd7_0 := hp328.1; have hp329 := hp328.2; clear hp328
   obtain ⟨qd8_0, hqd8_0⟩ : ∃ q, u0[u1.toNat]? = some q := ⟨_, List.getElem?_eq_getElem (by omega)⟩; have hp330 := hp329 qd8_0 hqd8_0; clear hp329
   refine wp_seq (any_invE mixed [[], [], [], [1, 2], [3], [], [], [5, 6], [7], [0, 4, 8], [9]] 11 (fun S a w1 => ∃ (g298 : Nat) (g311 : Nat) (ud40 : Value) (ud41 : Value) (ud42 : Value) (ud43 : Value) (ud44 : Value) (ud45 : Value) (ud46 : Value) (ud47 : Value) (ud48 : Value) (ud49 : Value) (ud50 : Value) (rh0 : Res), Fz.le Z Z ∧ Fr 220 [] [⟨0, [], .slice ao1 u0.length cap2⟩, ⟨1, [], .int .i64 u1⟩, ⟨4, [], .func (.func fid3) #[] caps4⟩, ⟨10, [], .int .i64 x10v⟩, ⟨11, [], .int .i64 x11⟩, ⟨12, [], .int .i64 (w64 (bShr .u64 (wu64 (w64 (x10v + x11))) 1))⟩, ⟨40, [], ud40⟩, ⟨41, [], ud41⟩, ⟨42, [], ud42⟩, ⟨43, [], ud43⟩, ⟨44, [], ud44⟩, ⟨45, [], ud45⟩, ⟨46, [], ud46⟩, ⟨47, [], ud47⟩, ⟨48, [], ud48⟩, ⟨49, [], ud49⟩, ⟨50, [], ud50⟩] a ∧ Mem B [] w0 Z0 (rh0 :: Rr) Z w1 ∧ (S 0 = true → ud40 = .func (.func fid3) #[] caps4) ∧ (S 1 = true → ud41 = .slice ao1 u0.length cap2) ∧ (S 2 = true → ud42 = .int .i64 (w64 (bShr .u64 (wu64 (w64 (x10v + x11))) 1))) ∧ (S 3 = true → ud43 = .pointer (some ⟨g298, (w64 (bShr .u64 (wu64 (w64 (x10v + x11))) 1)).toNat * 3, none⟩)) ∧ (S 4 = true → ud44 = .agg #[.int .i64 qd4_0.task, .int .i64 qd4_0.from_, .int .i64 qd4_0.asked]) ∧ (S 5 = true → ud45 = .slice ao1 u0.length cap2) ∧ (S 6 = true → ud46 = .int .i64 u1) ∧ (S 7 = true → ud47 = .pointer (some ⟨g311, u1.toNat * 3, none⟩)) ∧ (S 8 = true → ud48 = .agg #[.int .i64 qd8_0.task, .int .i64 qd8_0.from_, .int .i64 qd8_0.asked]) ∧ (S 9 = true → ud49 = .int .i64 (u4 qd4_0 qd8_0)) ∧ (S 10 = true → ud50 = .bool (decide ((u4 qd4_0 qd8_0) < 0))) ∧ (rh0 = .own tyJob 110 ao1 cap2 u0) ∧ (S 3 = true → ao1 = some ⟨g298, 0, none⟩) ∧ (S 7 = true → ao1 = some ⟨g311, 0, none⟩)) ?h0 ?hs ?hE)
   case h0 =>
    have hF332 := hF291.any 40
    have hF333 := hF332.any 41
    have hF334 := hF333.any 42
    have hF335 := hF334.any 43
    have hF336 := hF335.any 44
    have hF337 := hF336.any 45
    have hF338 := hF337.any 46
    have hF339 := hF338.any 47
    have hF340 := hF339.any 48
    have hF341 := hF340.any 49
    have hF342 := hF341.any 50
    have hM343 := (hM265.perm lpr).drew
    exact ⟨0, 0, a289.tmps.getD 40 undef, a289.tmps.getD 41 undef, a289.tmps.getD 42 undef, a289.tmps.getD 43 undef, a289.tmps.getD 44 undef, a289.tmps.getD 45 undef, a289.tmps.getD 46 undef, a289.tmps.getD 47 undef, a289.tmps.getD 48 undef, a289.tmps.getD 49 undef, a289.tmps.getD 50 undef, .own tyJob 110 ao1 cap2 u0, Fz.le.refl _, hF342.reg, hM343, ff, ff, ff, ff, ff, ff, ff, ff, ff, ff, ff, rfl, ff, ff⟩
   case hs =>
    intro S hcl i o hil hi hSi hpre a w1 hI; refine Go.Sy.hid ?_; intro G hG; obtain ⟨g298, g311, ud40, ud41, ud42, ud43, ud44, ud45, ud46, ud47, ud48, ud49, ud50, rh0, hle331, hFx, hMx, cu40, cu41, cu42, cu43, cu44, cu45, cu46, cu47, cu48, cu49, cu50, cr0_0, cf0, hI⟩ := hI; have cf1 := hI; clear hI
    have hcase : i = 0 ∨ i = 1 ∨ i = 2 ∨ i = 3 ∨ i = 4 ∨ i = 5 ∨ i = 6 ∨ i = 7 ∨ i = 8 ∨ i = 9 ∨ i = 10 := by clear hi; omega
    rcases hcase with rfl | rfl | rfl | rfl | rfl | rfl | rfl | rfl | rfl | rfl | rfl
    ·
     obtain rfl := oj hi
     have hx0 := hSi
     have hx9 := ngF hcl 9 0 hx0
     have hx10 := ngF hcl 10 9 hx9
     obtain rfl := cr0_0
     refine hG (any_step ?_); clear hG G; intro A J hJ
     have hle0 := Fz.le.trans hle0 hle331
     refine s1 hFx 40 (.func (.func fid3) #[] caps4) ?_; intro a344 hF345; clear hFx
     refine nl (qnI (hJ _ _ ?_)); clear hJ J
     exact ⟨g298, g311, .func (.func fid3) #[] caps4, ud41, ud42, ud43, ud44, ud45, ud46, ud47, ud48, ud49, ud50, .own tyJob 110 ao1 cap2 u0, hle331, hF345.reg, hMx.perm lpr, kf, cu41, cu42, cu43, cu44, cu45, cu46, cu47, cu48, (nt hx9), (nt hx10), rfl, cf0, cf1⟩
    ·
     obtain rfl := oj hi
     have hx1 := hSi
     have hx3 := ngF hcl 3 1 hx1
     have hx4 := ngF hcl 4 3 hx3
     have hx9 := ngF hcl 9 4 hx4
     have hx10 := ngF hcl 10 9 hx9
     obtain rfl := cr0_0
     refine hG (any_step ?_); clear hG G; intro A J hJ
     have hle0 := Fz.le.trans hle0 hle331
     refine s1 hFx 41 (.slice ao1 u0.length cap2) ?_; intro a347 hF348; clear hFx
     refine nl (qnI (hJ _ _ ?_)); clear hJ J
     exact ⟨g298, g311, ud40, .slice ao1 u0.length cap2, ud42, ud43, ud44, ud45, ud46, ud47, ud48, ud49, ud50, .own tyJob 110 ao1 cap2 u0, hle331, hF348.reg, hMx.perm lpr, cu40, kf, cu42, (nt hx3), (nt hx4), cu45, cu46, cu47, cu48, (nt hx9), (nt hx10), rfl, (nt hx3), cf1⟩
    ·
     obtain rfl := oj hi
     have hx2 := hSi
     have hx3 := ngF hcl 3 2 hx2
     have hx4 := ngF hcl 4 3 hx3
     have hx9 := ngF hcl 9 4 hx4
     have hx10 := ngF hcl 10 9 hx9
     obtain rfl := cr0_0
     refine hG (any_step ?_); clear hG G; intro A J hJ
     have hle0 := Fz.le.trans hle0 hle331
     refine s1 hFx 42 (.int .i64 (w64 (bShr .u64 (wu64 (w64 (x10v + x11))) 1))) ?_; intro a350 hF351; clear hFx
     refine nl (qnI (hJ _ _ ?_)); clear hJ J
     exact ⟨g298, g311, ud40, ud41, .int .i64 (w64 (bShr .u64 (wu64 (w64 (x10v + x11))) 1)), ud43, ud44, ud45, ud46, ud47, ud48, ud49, ud50, .own tyJob 110 ao1 cap2 u0, hle331, hF351.reg, hMx.perm lpr, cu40, cu41, kf, (nt hx3), (nt hx4), cu45, cu46, cu47, cu48, (nt hx9), (nt hx10), rfl, (nt hx3), cf1⟩
    ·
     obtain rfl := oj hi
     have hx2 := hpre 2 (by kernel_rfl)
     have hx1 := hpre 1 (by kernel_rfl)
     have hx3 := hSi
     have hx4 := ngF hcl 4 3 hx3
     have hx9 := ngF hcl 9 4 hx4
     have hx10 := ngF hcl 10 9 hx9
     obtain rfl := cu41 hx1
     obtain rfl := cu42 hx2
     obtain rfl := cr0_0
     refine hG (any_step ?_); clear hG G; intro A J hJ
     have hle0 := Fz.le.trans hle0 hle331
     refine ixo hFx hMx 0 (T := tyJob) (xs := u0) (w64 (bShr .u64 (wu64 (w64 (x10v + x11))) 1)) (by simpa only [List.length_set] using hcd3_0) (k := .i64) (e := 110) (bytes := 24) (nog rfl _) rfl (by kernel_rfl) rfl (by kernel_rfl) (by kernel_rfl) rfl (by kernel_rfl) ?_; intro g353 a355 hg354 hF356; clear hFx
     refine nl (qnI (hJ _ _ ?_)); clear hJ J
     exact ⟨g353, g311, ud40, .slice ao1 u0.length cap2, .int .i64 (w64 (bShr .u64 (wu64 (w64 (x10v + x11))) 1)), .pointer (some ⟨g353, (w64 (bShr .u64 (wu64 (w64 (x10v + x11))) 1)).toNat * 3, none⟩), ud44, ud45, ud46, ud47, ud48, ud49, ud50, .own tyJob 110 ao1 cap2 u0, hle331, hF356.reg, hMx.perm lpr, cu40, kf, kf, kf, (nt hx4), cu45, cu46, cu47, cu48, (nt hx9), (nt hx10), rfl, (fun _ => hg354), cf1⟩
    ·
     obtain rfl := oj hi
     have hx3 := hpre 3 (by kernel_rfl)
     have hx2 := hcl 3 2 (by kernel_rfl) hx3
     have hx1 := hcl 3 1 (by kernel_rfl) hx3
     have hx4 := hSi
     have hx9 := ngF hcl 9 4 hx4
     have hx10 := ngF hcl 10 9 hx9
     obtain rfl := cu41 hx1
     obtain rfl := cu42 hx2
     obtain rfl := cu43 hx3
     obtain rfl := cr0_0
     refine hG (any_step ?_); clear hG G; intro A J hJ
     have hle0 := Fz.le.trans hle0 hle331
     have hs358 := cf0 hx3
     obtain ⟨cs359, hT360, hcl361⟩ := own_elx hMx 0 (T := tyJob) (xs := u0) rfl hs358 (w64 (bShr .u64 (wu64 (w64 (x10v + x11))) 1)).toNat hqd4_0
     obtain rfl : cs359 = ([.int .i64 qd4_0.task, .int .i64 qd4_0.from_, .int .i64 qd4_0.asked] : List Value) := hT360
     refine lc2 hFx 44 3 [.int .i64 qd4_0.task, .int .i64 qd4_0.from_, .int .i64 qd4_0.asked] hcl361 rfl ?_; intro a362 hF363; clear hFx
     refine nl (qnI (hJ _ _ ?_)); clear hJ J
     exact ⟨g298, g311, ud40, .slice ao1 u0.length cap2, .int .i64 (w64 (bShr .u64 (wu64 (w64 (x10v + x11))) 1)), .pointer (some ⟨g298, (w64 (bShr .u64 (wu64 (w64 (x10v + x11))) 1)).toNat * 3, none⟩), .agg #[.int .i64 qd4_0.task, .int .i64 qd4_0.from_, .int .i64 qd4_0.asked], ud45, ud46, ud47, ud48, ud49, ud50, .own tyJob 110 ao1 cap2 u0, hle331, hF363.reg, hMx.perm lpr, cu40, kf, kf, kf, kf, cu45, cu46, cu47, cu48, (nt hx9), (nt hx10), rfl, (fun _ => hs358), cf1⟩
    ·
     obtain rfl := oj hi
     have hx5 := hSi
     have hx7 := ngF hcl 7 5 hx5
     have hx8 := ngF hcl 8 7 hx7
     have hx9 := ngF hcl 9 8 hx8
     have hx10 := ngF hcl 10 9 hx9
     obtain rfl := cr0_0
     refine hG (any_step ?_); clear hG G; intro A J hJ
     have hle0 := Fz.le.trans hle0 hle331
     refine s1 hFx 45 (.slice ao1 u0.length cap2) ?_; intro a365 hF366; clear hFx
     refine nl (qnI (hJ _ _ ?_)); clear hJ J
     exact ⟨g298, g311, ud40, ud41, ud42, ud43, ud44, .slice ao1 u0.length cap2, ud46, ud47, ud48, ud49, ud50, .own tyJob 110 ao1 cap2 u0, hle331, hF366.reg, hMx.perm lpr, cu40, cu41, cu42, cu43, cu44, kf, cu46, (nt hx7), (nt hx8), (nt hx9), (nt hx10), rfl, cf0, (nt hx7)⟩
    ·
     obtain rfl := oj hi
     have hx6 := hSi
     have hx7 := ngF hcl 7 6 hx6
     have hx8 := ngF hcl 8 7 hx7
     have hx9 := ngF hcl 9 8 hx8
     have hx10 := ngF hcl 10 9 hx9
     obtain rfl := cr0_0
     refine hG (any_step ?_); clear hG G; intro A J hJ
     have hle0 := Fz.le.trans hle0 hle331
     refine s1 hFx 46 (.int .i64 u1) ?_; intro a368 hF369; clear hFx
     refine nl (qnI (hJ _ _ ?_)); clear hJ J
     exact ⟨g298, g311, ud40, ud41, ud42, ud43, ud44, ud45, .int .i64 u1, ud47, ud48, ud49, ud50, .own tyJob 110 ao1 cap2 u0, hle331, hF369.reg, hMx.perm lpr, cu40, cu41, cu42, cu43, cu44, cu45, kf, (nt hx7), (nt hx8), (nt hx9), (nt hx10), rfl, cf0, (nt hx7)⟩
    ·
     obtain rfl := oj hi
     have hx6 := hpre 6 (by kernel_rfl)
     have hx5 := hpre 5 (by kernel_rfl)
     have hx7 := hSi
     have hx8 := ngF hcl 8 7 hx7
     have hx9 := ngF hcl 9 8 hx8
     have hx10 := ngF hcl 10 9 hx9
     obtain rfl := cu45 hx5
     obtain rfl := cu46 hx6
     obtain rfl := cr0_0
     refine hG (any_step ?_); clear hG G; intro A J hJ
     have hle0 := Fz.le.trans hle0 hle331
     refine ixo hFx hMx 0 (T := tyJob) (xs := u0) u1 (by simpa only [List.length_set] using hcd7_0) (k := .i64) (e := 110) (bytes := 24) (nog rfl _) rfl (by kernel_rfl) rfl (by kernel_rfl) (by kernel_rfl) rfl (by kernel_rfl) ?_; intro g371 a373 hg372 hF374; clear hFx
     refine nl (qnI (hJ _ _ ?_)); clear hJ J
     exact ⟨g298, g371, ud40, ud41, ud42, ud43, ud44, .slice ao1 u0.length cap2, .int .i64 u1, .pointer (some ⟨g371, u1.toNat * 3, none⟩), ud48, ud49, ud50, .own tyJob 110 ao1 cap2 u0, hle331, hF374.reg, hMx.perm lpr, cu40, cu41, cu42, cu43, cu44, kf, kf, kf, (nt hx8), (nt hx9), (nt hx10), rfl, cf0, (fun _ => hg372)⟩
    ·
     obtain rfl := oj hi
     have hx7 := hpre 7 (by kernel_rfl)
     have hx6 := hcl 7 6 (by kernel_rfl) hx7
     have hx5 := hcl 7 5 (by kernel_rfl) hx7
     have hx8 := hSi
     have hx9 := ngF hcl 9 8 hx8
     have hx10 := ngF hcl 10 9 hx9
     obtain rfl := cu45 hx5
     obtain rfl := cu46 hx6
     obtain rfl := cu47 hx7
     obtain rfl := cr0_0
     refine hG (any_step ?_); clear hG G; intro A J hJ
     have hle0 := Fz.le.trans hle0 hle331
     have hs376 := cf1 hx7
     obtain ⟨cs377, hT378, hcl379⟩ := own_elx hMx 0 (T := tyJob) (xs := u0) rfl hs376 u1.toNat hqd8_0
     obtain rfl : cs377 = ([.int .i64 qd8_0.task, .int .i64 qd8_0.from_, .int .i64 qd8_0.asked] : List Value) := hT378
     refine lc2 hFx 48 3 [.int .i64 qd8_0.task, .int .i64 qd8_0.from_, .int .i64 qd8_0.asked] hcl379 rfl ?_; intro a380 hF381; clear hFx
     refine nl (qnI (hJ _ _ ?_)); clear hJ J
     exact ⟨g298, g311, ud40, ud41, ud42, ud43, ud44, .slice ao1 u0.length cap2, .int .i64 u1, .pointer (some ⟨g311, u1.toNat * 3, none⟩), .agg #[.int .i64 qd8_0.task, .int .i64 qd8_0.from_, .int .i64 qd8_0.asked], ud49, ud50, .own tyJob 110 ao1 cap2 u0, hle331, hF381.reg, hMx.perm lpr, cu40, cu41, cu42, cu43, cu44, kf, kf, kf, kf, (nt hx9), (nt hx10), rfl, cf0, (fun _ => hs376)⟩
    ·
     obtain rfl := oj hi
     have hx8 := hpre 8 (by kernel_rfl)
     have hx4 := hpre 4 (by kernel_rfl)
     have hx0 := hpre 0 (by kernel_rfl)
     have hx7 := hcl 8 7 (by kernel_rfl) hx8
     have hx3 := hcl 4 3 (by kernel_rfl) hx4
     have hx6 := hcl 7 6 (by kernel_rfl) hx7
     have hx5 := hcl 7 5 (by kernel_rfl) hx7
     have hx2 := hcl 3 2 (by kernel_rfl) hx3
     have hx1 := hcl 3 1 (by kernel_rfl) hx3
     have hx9 := hSi
     have hx10 := ngF hcl 10 9 hx9
     obtain rfl := cu40 hx0
     obtain rfl := cu41 hx1
     obtain rfl := cu42 hx2
     obtain rfl := cu43 hx3
     obtain rfl := cu44 hx4
     obtain rfl := cu45 hx5
     obtain rfl := cu46 hx6
     obtain rfl := cu47 hx7
     obtain rfl := cu48 hx8
     obtain rfl := cr0_0
     refine hG (any_step ?_); clear hG G; intro A J hJ
     have hle0 := Fz.le.trans hle0 hle331
     have hs383 := cf0 hx3
     have hs384 := cf1 hx7
     have hc389 := hf5 _ _ hle0 hMx.fz qd4_0 qd8_0
     refine fcl hFx hMx (.int .i64 (u4 qd4_0 qd8_0)) fid3 (#[.agg #[.int .i64 qd4_0.task, .int .i64 qd4_0.from_, .int .i64 qd4_0.asked], .agg #[.int .i64 qd8_0.task, .int .i64 qd8_0.from_, .int .i64 qd8_0.asked]] ++ caps4) (nog rfl _) rfl (by kernel_rfl) ?h1 ?h2 ?_
     case h1 => exact fv_run rfl (by kernel_rfl) (by kernel_rfl) hg6
     case h2 => exact hc389
     intro a385 wd387 hF386 hM388; clear hFx hMx
     refine nl (qnI (hJ _ _ ?_)); clear hJ J
     exact ⟨g298, g311, .func (.func fid3) #[] caps4, .slice ao1 u0.length cap2, .int .i64 (w64 (bShr .u64 (wu64 (w64 (x10v + x11))) 1)), .pointer (some ⟨g298, (w64 (bShr .u64 (wu64 (w64 (x10v + x11))) 1)).toNat * 3, none⟩), .agg #[.int .i64 qd4_0.task, .int .i64 qd4_0.from_, .int .i64 qd4_0.asked], .slice ao1 u0.length cap2, .int .i64 u1, .pointer (some ⟨g311, u1.toNat * 3, none⟩), .agg #[.int .i64 qd8_0.task, .int .i64 qd8_0.from_, .int .i64 qd8_0.asked], .int .i64 (u4 qd4_0 qd8_0), ud50, .own tyJob 110 ao1 cap2 u0, hle331, hF386.reg, hM388.perm lpr, kf, kf, kf, kf, kf, kf, kf, kf, kf, kf, (nt hx10), rfl, (fun _ => hs383), (fun _ => hs384)⟩
    ·
     obtain rfl := oj hi
     have hx9 := hpre 9 (by kernel_rfl)
     have hx8 := hcl 9 8 (by kernel_rfl) hx9
     have hx4 := hcl 9 4 (by kernel_rfl) hx9
     have hx0 := hcl 9 0 (by kernel_rfl) hx9
     have hx7 := hcl 8 7 (by kernel_rfl) hx8
     have hx3 := hcl 4 3 (by kernel_rfl) hx4
     have hx6 := hcl 7 6 (by kernel_rfl) hx7
     have hx5 := hcl 7 5 (by kernel_rfl) hx7
     have hx2 := hcl 3 2 (by kernel_rfl) hx3
     have hx1 := hcl 3 1 (by kernel_rfl) hx3
     have hx10 := hSi
     obtain rfl := cu40 hx0
     obtain rfl := cu41 hx1
     obtain rfl := cu42 hx2
     obtain rfl := cu43 hx3
     obtain rfl := cu44 hx4
     obtain rfl := cu45 hx5
     obtain rfl := cu46 hx6
     obtain rfl := cu47 hx7
     obtain rfl := cu48 hx8
     obtain rfl := cu49 hx9
     obtain rfl := cr0_0
     refine hG (any_step ?_); clear hG G; intro A J hJ
     have hle0 := Fz.le.trans hle0 hle331
     have hs391 := cf0 hx3
     have hs392 := cf1 hx7
     refine s1 hFx 50 (.bool (decide ((u4 qd4_0 qd8_0) < 0))) ?_; intro a393 hF394; clear hFx
     refine nl (qnI (hJ _ _ ?_)); clear hJ J
     exact ⟨g298, g311, .func (.func fid3) #[] caps4, .slice ao1 u0.length cap2, .int .i64 (w64 (bShr .u64 (wu64 (w64 (x10v + x11))) 1)), .pointer (some ⟨g298, (w64 (bShr .u64 (wu64 (w64 (x10v + x11))) 1)).toNat * 3, none⟩), .agg #[.int .i64 qd4_0.task, .int .i64 qd4_0.from_, .int .i64 qd4_0.asked], .slice ao1 u0.length cap2, .int .i64 u1, .pointer (some ⟨g311, u1.toNat * 3, none⟩), .agg #[.int .i64 qd8_0.task, .int .i64 qd8_0.from_, .int .i64 qd8_0.asked], .int .i64 (u4 qd4_0 qd8_0), .bool (decide ((u4 qd4_0 qd8_0) < 0)), .own tyJob 110 ao1 cap2 u0, hle331, hF394.reg, hMx.perm lpr, kf, kf, kf, kf, kf, kf, kf, kf, kf, kf, kf, rfl, (fun _ => hs391), (fun _ => hs392)⟩
   case hE =>
    intro S hS a396 wd397 hI; refine Go.Sy.hid ?_; intro G hG; obtain ⟨g298, g311, ud40, ud41, ud42, ud43, ud44, ud45, ud46, ud47, ud48, ud49, ud50, rh0, hle331, hFx, hMx, cu40, cu41, cu42, cu43, cu44, cu45, cu46, cu47, cu48, cu49, cu50, cr0_0, cf0, hI⟩ := hI; have cf1 := hI; clear hI; refine hG ?_; clear hG G
    obtain rfl := cu40 (hS 0 (by decide))
    obtain rfl := cu41 (hS 1 (by decide))
    obtain rfl := cu42 (hS 2 (by decide))
    obtain rfl := cu43 (hS 3 (by decide))
    obtain rfl := cu44 (hS 4 (by decide))
    obtain rfl := cu45 (hS 5 (by decide))
    obtain rfl := cu46 (hS 6 (by decide))
    obtain rfl := cu47 (hS 7 (by decide))
    obtain rfl := cu48 (hS 8 (by decide))
    obtain rfl := cu49 (hS 9 (by decide))
    obtain rfl := cu50 (hS 10 (by decide))
    obtain rfl := cr0_0
    have hle0 := Fz.le.trans hle0 hle331
    have hs398 := cf0 (hS 3 (by decide))
    have hs399 := cf1 (hS 7 (by decide))
    refine thn ?_
    refine cd hFx (t := decide ((u4 qd4_0 qd8_0) < 0)) (by kernel_rfl) (fun hb400 => ?_) (fun hb400 => ?_)
    ·
     have hp401 := hp330.1 hb400; clear hp330
     have hF402 : Fr 220 [] [⟨0, [], .slice ao1 u0.length cap2⟩, ⟨1, [], .int .i64 u1⟩, ⟨4, [], .func (.func fid3) #[] caps4⟩, ⟨11, [], .int .i64 x11⟩, ⟨12, [], .int .i64 (w64 (bShr .u64 (wu64 (w64 (x10v + x11))) 1))⟩] a396 := hFx.reg; clear hFx
     refine rgH ?_; intro hQ403Q hQ403
     refine s1 hF402 51 (.int .i64 (w64 (bShr .u64 (wu64 (w64 (x10v + x11))) 1))) ?_; intro a404 hF405; clear hF402
     refine s1 hF405 52 (.int .i64 (w64 ((w64 (bShr .u64 (wu64 (w64 (x10v + x11))) 1)) + 1))) ?_; intro a406 hF407; clear hF405
     refine s1 hF407 10 (.int .i64 (w64 ((w64 (bShr .u64 (wu64 (w64 (x10v + x11))) 1)) + 1))) ?_; intro a408 hF409; clear hF407
     refine nlH (hQ403 _ _ ?_); clear hQ403 hQ403Q
     refine ibn ?_
     refine rd ?_
     exact ⟨⟨w64 ((w64 (bShr .u64 (wu64 (w64 (x10v + x11))) 1)) + 1), x11⟩, hp401.1, hp401.2, (hF409.reg).anyβ _ (by kernel_rfl), hMx.keep (List.Sublist.cons_cons _ (List.Sublist.refl _))⟩
    ·
     have hp410 := hp330.2 hb400; clear hp330
     have hF411 : Fr 220 [] [⟨0, [], .slice ao1 u0.length cap2⟩, ⟨1, [], .int .i64 u1⟩, ⟨4, [], .func (.func fid3) #[] caps4⟩, ⟨10, [], .int .i64 x10v⟩, ⟨12, [], .int .i64 (w64 (bShr .u64 (wu64 (w64 (x10v + x11))) 1))⟩] a396 := hFx.reg; clear hFx
     refine rgH ?_; intro hQ412Q hQ412
     refine s1 hF411 53 (.int .i64 (w64 (bShr .u64 (wu64 (w64 (x10v + x11))) 1))) ?_; intro a413 hF414; clear hF411
     refine s1 hF414 11 (.int .i64 (w64 (bShr .u64 (wu64 (w64 (x10v + x11))) 1))) ?_; intro a415 hF416; clear hF414
     refine nlH (hQ412 _ _ ?_); clear hQ412 hQ412Q
     refine ibn ?_
     refine rd ?_
     exact ⟨⟨x10v, w64 (bShr .u64 (wu64 (w64 (x10v + x11))) 1)⟩, hp410.1, hp410.2, (hF416.reg).anyβ _ (by kernel_rfl), hMx.keep (List.Sublist.cons_cons _ (List.Sublist.refl _))⟩
  ·
   have hp417 := hp266.2 hb274; clear hp266
   refine wp_exit ?_
   refine thx ?_
   refine thx ?_
   refine ibx ?_
   refine rd ?_
   exact hJ36 x10v hp417 _ _ ((hF273.reg).anyβ _ (by kernel_rfl)) (hM265.keep (List.Sublist.cons_cons _ (List.Sublist.refl _)))
 ·
  have hp418 := hp7.2 hb17; clear hp7
  refine wp_skip ?_
  refine thn ?_
  refine wp_seq ?_
  refine sqH ?_; intro hQ419Q hQ419
  refine s1 hF16 77 (.int .i64 u3) ?_; intro a420 hF421; clear hF16
  refine s1 hF421 78 (.int .i64 u2) ?_; intro a422 hF423; clear hF421
  refine s1 hF423 79 (.int .i64 (w64 (u3 - u2))) ?_; intro a424 hF425; clear hF423
  refine s1 hF425 80 (.bool ((w64 (u3 - u2)) == 1)) ?_; intro a426 hF427; clear hF425
  refine nlH (hQ419 _ _ ?_); clear hQ419 hQ419Q
  refine cd hF427 (t := (w64 (u3 - u2)) == 1) (by kernel_rfl) (fun hb428 => ?_) (fun hb428 => ?_)
  ·
   have hp429 := hp418.1 hb428; clear hp418
   refine sqH ?_; intro hQ430Q hQ430
   refine s1 hF427 81 (.int .i64 u1) ?_; intro a431 hF432; clear hF427
   refine s1 hF432 14 (.int .i64 u1) ?_; intro a433 hF434; clear hF432
   refine nlH (hQ430 _ _ ?_); clear hQ430 hQ430Q
   refine sqH ?_; intro hQ435Q hQ435
   refine s1 hF434 82 (.int .i64 u2) ?_; intro a436 hF437; clear hF434
   refine s1 hF437 15 (.int .i64 u2) ?_; intro a438 hF439; clear hF437
   refine nlH (hQ435 _ _ ?_); clear hQ435 hQ435Q
   have hF440 : Fr 220 [] [⟨0, [], .slice ao1 u0.length cap2⟩, ⟨2, [], .int .i64 u2⟩, ⟨4, [], .func (.func fid3) #[] caps4⟩, ⟨14, [], .int .i64 u1⟩, ⟨15, [], .int .i64 u2⟩] a438 := hF439.reg; clear hF439
   have hF442 : Fr 220 [] [⟨0, [], .slice ao1 u0.length cap2⟩, ⟨2, [], .int .i64 u2⟩, ⟨4, [], .func (.func fid3) #[] caps4⟩, ⟨14, [], .int .i64 u1⟩, ⟨15, [], .int .i64 u2⟩] a438 := hF440.reg; clear hF440
   obtain ⟨inv441, hp443, hp444⟩ := hp429
   refine wp_seq_k fun KJ445 hKJ446 => ?_
   have hJ447 : ∀ (x14 : Int), inv441 x14 → ∀ a1 w1, Fr 220 [] [⟨0, [], .slice ao1 u0.length cap2⟩, ⟨2, [], .int .i64 u2⟩, ⟨14, [], .int .i64 x14⟩] a1 → Mem B [] w0 Z0 ((.own tyJob 110 ao1 cap2 u0) :: Rr) Z w1 → KJ445 a1 w1 := by
    rintro x14 hI452 a448 wd449 hF450 hM451; clear hF442 hM0
    refine hKJ446 _ _ ?_; clear hKJ446
    have hp453 := hp444 x14 hI452
    refine wp_seq ?_
    refine sqH ?_; intro hQ454Q hQ454
    refine s1 hF450 107 (.int .i64 u2) ?_; intro a455 hF456; clear hF450
    refine s1 hF456 17 (.int .i64 u2) ?_; intro a457 hF458; clear hF456
    refine nlH (hQ454 _ _ ?_); clear hQ454 hQ454Q
    refine wp_block ?_
    have hF459 : Fr 220 [] [⟨0, [], .slice ao1 u0.length cap2⟩, ⟨14, [], .int .i64 x14⟩, ⟨17, [], .int .i64 u2⟩] a457 := hF458.reg; clear hF458
    have hF461 : Fr 220 [] [⟨0, [], .slice ao1 u0.length cap2⟩, ⟨14, [], .int .i64 x14⟩, ⟨17, [], .int .i64 u2⟩] a457 := hF459.reg; clear hF459
    obtain ⟨inv460, mu460, hI464, hr463⟩ := hp453
    refine lp (ι := Int × (List Job)) (fun (s : Int × (List Job)) => [⟨0, [], .slice ao1 s.2.length cap2⟩, ⟨14, [], .int .i64 x14⟩, ⟨17, [], .int .i64 s.1⟩]) (fun (s : Int × (List Job)) => ((.own tyJob 110 ao1 cap2 s.2) :: Rr)) (fun (s : Int × (List Job)) => Z) (fun (s : Int × (List Job)) => inv460 s.1 s.2) (fun (s : Int × (List Job)) => mu460 s.1 s.2) ⟨u2, u0⟩ hI464 (by exact hF461.reg) (by exact hM451) ?_
    rintro ⟨x17, zao1⟩ hI462 a466 wd467 hF468 hM469
    have hF470 : Fr 220 [] [⟨0, [], .slice ao1 zao1.length cap2⟩, ⟨14, [], .int .i64 x14⟩, ⟨17, [], .int .i64 x17⟩] a466 := hF468; clear hF468 hF461
    have hM471 : Mem B [] w0 Z0 ((.own tyJob 110 ao1 cap2 zao1) :: Rr) Z wd467 := hM469; clear hM469 hM451
    have hp472 := hr463 x17 zao1 hI462
    refine wp_seq ?_
    refine sqH ?_; intro hQ473Q hQ473
    refine s1 hF470 108 (.int .i64 x17) ?_; intro a474 hF475; clear hF470
    refine s1 hF475 109 (.int .i64 x14) ?_; intro a476 hF477; clear hF475
    refine s1 hF477 110 (.bool (decide (x17 > x14))) ?_; intro a478 hF479; clear hF477
    refine nlH (hQ473 _ _ ?_); clear hQ473 hQ473Q
    refine cd hF479 (t := decide (x17 > x14)) (by kernel_rfl) (fun hb480 => ?_) (fun hb480 => ?_)
    ·
     have hp481 := hp472.1 hb480; clear hp472
     refine wp_skip ?_
     refine thn ?_
     refine wp_seq ?_
     refine wp_block ?_
     have hF482 : Fr 220 [] [⟨0, [], .slice ao1 zao1.length cap2⟩, ⟨14, [], .int .i64 x14⟩, ⟨17, [], .int .i64 x17⟩] a478 := hF479.reg; clear hF479
     have hcd8_0 := hp481.1; have hp533 := hp481.2; clear hp481
     obtain ⟨qd9_0, hqd9_0⟩ : ∃ q, zao1[(w64 (x17 - 1)).toNat]? = some q := ⟨_, List.getElem?_eq_getElem (by omega)⟩; have hp534 := hp533 qd9_0 hqd9_0; clear hp533
     have hcd12_0 := hp534.1; have hp535 := hp534.2; clear hp534
     obtain ⟨qd13_0, hqd13_0⟩ : ∃ q, zao1[x17.toNat]? = some q := ⟨_, List.getElem?_eq_getElem (by omega)⟩; have hp536 := hp535 qd13_0 hqd13_0; clear hp535
     have hcd14_0 := hp536.1; have hp537 := hp536.2; clear hp536
     have hcd16_0 := hp537.1; have hp538 := hp537.2; clear hp537
     refine any_invE mixed [[], [], [], [], [3], [], [], [6], [5, 7], [8], [], [], [10, 11], [12], [0, 1, 5, 6, 7, 8, 9, 13], [0, 1, 5, 6, 7, 8, 9, 13, 14], [0, 1, 2, 3, 4, 5, 6, 7, 8, 9, 10, 11, 12, 13, 14, 15], [0, 1, 2, 3, 4, 5, 6, 7, 8, 9, 10, 11, 12, 13, 14, 15, 16]] 18 (fun S a w1 => ∃ (g499 : Nat) (g512 : Nat) (g521 : Nat) (g527 : Nat) (ud113 : Value) (ud114 : Value) (ud115 : Value) (ud116 : Value) (ud117 : Value) (ud118 : Value) (ud119 : Value) (ud120 : Value) (ud121 : Value) (ud122 : Value) (ud123 : Value) (ud124 : Value) (ud125 : Value) (ud126 : Value) (ud127 : Value) (ud128 : Value) (rh0 : Res), Fz.le Z Z ∧ Fr 220 [] [⟨0, [], .slice ao1 zao1.length cap2⟩, ⟨14, [], .int .i64 x14⟩, ⟨17, [], .int .i64 x17⟩, ⟨113, [], ud113⟩, ⟨114, [], ud114⟩, ⟨115, [], ud115⟩, ⟨116, [], ud116⟩, ⟨117, [], ud117⟩, ⟨118, [], ud118⟩, ⟨119, [], ud119⟩, ⟨120, [], ud120⟩, ⟨121, [], ud121⟩, ⟨122, [], ud122⟩, ⟨123, [], ud123⟩, ⟨124, [], ud124⟩, ⟨125, [], ud125⟩, ⟨126, [], ud126⟩, ⟨127, [], ud127⟩, ⟨128, [], ud128⟩] a ∧ Mem B [] w0 Z0 (rh0 :: Rr) Z w1 ∧ (S 0 = true → ud113 = .slice ao1 zao1.length cap2) ∧ (S 1 = true → ud114 = .int .i64 x17) ∧ (S 2 = true → ud115 = .slice ao1 zao1.length cap2) ∧ (S 3 = true → ud116 = .int .i64 x17) ∧ (S 4 = true → ud117 = .int .i64 (w64 (x17 - 1))) ∧ (S 5 = true → ud118 = .slice ao1 zao1.length cap2) ∧ (S 6 = true → ud119 = .int .i64 x17) ∧ (S 7 = true → ud120 = .int .i64 (w64 (x17 - 1))) ∧ (S 8 = true → ud121 = .pointer (some ⟨g499, (w64 (x17 - 1)).toNat * 3, none⟩)) ∧ (S 9 = true → ud122 = .agg #[.int .i64 qd9_0.task, .int .i64 qd9_0.from_, .int .i64 qd9_0.asked]) ∧ (S 10 = true → ud123 = .slice ao1 zao1.length cap2) ∧ (S 11 = true → ud124 = .int .i64 x17) ∧ (S 12 = true → ud125 = .pointer (some ⟨g512, x17.toNat * 3, none⟩)) ∧ (S 13 = true → ud126 = .agg #[.int .i64 qd13_0.task, .int .i64 qd13_0.from_, .int .i64 qd13_0.asked]) ∧ (S 14 = true → ud127 = .pointer (some ⟨g521, x17.toNat * 3, none⟩)) ∧ (S 16 = true → ud128 = .pointer (some ⟨g527, (w64 (x17 - 1)).toNat * 3, none⟩)) ∧ (S 15 = false → rh0 = .own tyJob 110 ao1 cap2 zao1) ∧ (S 15 = true → S 17 = false → rh0 = .own tyJob 110 ao1 cap2 (zao1.set x17.toNat qd9_0)) ∧ (S 17 = true → rh0 = .own tyJob 110 ao1 cap2 ((zao1.set x17.toNat qd9_0).set (w64 (x17 - 1)).toNat qd13_0)) ∧ (S 8 = true → ao1 = some ⟨g499, 0, none⟩) ∧ (S 12 = true → ao1 = some ⟨g512, 0, none⟩) ∧ (S 14 = true → ao1 = some ⟨g521, 0, none⟩) ∧ (S 16 = true → ao1 = some ⟨g527, 0, none⟩)) ?h0 ?hs ?hE
     case h0 =>
      have hF540 := hF482.any 113
      have hF541 := hF540.any 114
      have hF542 := hF541.any 115
      have hF543 := hF542.any 116
      have hF544 := hF543.any 117
      have hF545 := hF544.any 118
      have hF546 := hF545.any 119
      have hF547 := hF546.any 120
      have hF548 := hF547.any 121
      have hF549 := hF548.any 122
      have hF550 := hF549.any 123
      have hF551 := hF550.any 124
      have hF552 := hF551.any 125
      have hF553 := hF552.any 126
      have hF554 := hF553.any 127
      have hF555 := hF554.any 128
      have hM556 := (hM471.perm lpr).drew
      exact ⟨0, 0, 0, 0, a478.tmps.getD 113 undef, a478.tmps.getD 114 undef, a478.tmps.getD 115 undef, a478.tmps.getD 116 undef, a478.tmps.getD 117 undef, a478.tmps.getD 118 undef, a478.tmps.getD 119 undef, a478.tmps.getD 120 undef, a478.tmps.getD 121 undef, a478.tmps.getD 122 undef, a478.tmps.getD 123 undef, a478.tmps.getD 124 undef, a478.tmps.getD 125 undef, a478.tmps.getD 126 undef, a478.tmps.getD 127 undef, a478.tmps.getD 128 undef, .own tyJob 110 ao1 cap2 zao1, Fz.le.refl _, hF555.reg, hM556, ff, ff, ff, ff, ff, ff, ff, ff, ff, ff, ff, ff, ff, ff, ff, ff, kf, ff, ff, ff, ff, ff, ff⟩
     case hs =>
      intro S hcl i o hil hi hSi hpre a w1 hI; refine Go.Sy.hid ?_; intro G hG; obtain ⟨g499, g512, g521, g527, ud113, ud114, ud115, ud116, ud117, ud118, ud119, ud120, ud121, ud122, ud123, ud124, ud125, ud126, ud127, ud128, rh0, hle539, hFx, hMx, cu113, cu114, cu115, cu116, cu117, cu118, cu119, cu120, cu121, cu122, cu123, cu124, cu125, cu126, cu127, cu128, cr0_0, cr0_1, cr0_2, cf0, cf1, cf2, hI⟩ := hI; have cf3 := hI; clear hI
      have hcase : i = 0 ∨ i = 1 ∨ i = 2 ∨ i = 3 ∨ i = 4 ∨ i = 5 ∨ i = 6 ∨ i = 7 ∨ i = 8 ∨ i = 9 ∨ i = 10 ∨ i = 11 ∨ i = 12 ∨ i = 13 ∨ i = 14 ∨ i = 15 ∨ i = 16 ∨ i = 17 := by clear hi; omega
      rcases hcase with rfl | rfl | rfl | rfl | rfl | rfl | rfl | rfl | rfl | rfl | rfl | rfl | rfl | rfl | rfl | rfl | rfl | rfl
      ·
       obtain rfl := oj hi
       have hx0 := hSi
       have hx14 := ngF hcl 14 0 hx0
       have hx15 := ngF hcl 15 0 hx0
       have hx16 := ngF hcl 16 0 hx0
       have hx17 := ngF hcl 17 0 hx0
       obtain rfl := cr0_0 hx15
       refine hG (any_step ?_); clear hG G; intro A J hJ
       have hle0 := Fz.le.trans hle0 hle539
       refine s1 hFx 113 (.slice ao1 zao1.length cap2) ?_; intro a557 hF558; clear hFx
       refine nl (qnI (hJ _ _ ?_)); clear hJ J
       exact ⟨g499, g512, g521, g527, .slice ao1 zao1.length cap2, ud114, ud115, ud116, ud117, ud118, ud119, ud120, ud121, ud122, ud123, ud124, ud125, ud126, ud127, ud128, .own tyJob 110 ao1 cap2 zao1, hle539, hF558.reg, hMx.perm lpr, kf, cu114, cu115, cu116, cu117, cu118, cu119, cu120, cu121, cu122, cu123, cu124, cu125, cu126, (nt hx14), (nt hx16), kf, (fun h _ => nt hx15 h), (nt hx17), cf0, cf1, (nt hx14), (nt hx16)⟩
      ·
       obtain rfl := oj hi
       have hx1 := hSi
       have hx14 := ngF hcl 14 1 hx1
       have hx15 := ngF hcl 15 1 hx1
       have hx16 := ngF hcl 16 1 hx1
       have hx17 := ngF hcl 17 1 hx1
       obtain rfl := cr0_0 hx15
       refine hG (any_step ?_); clear hG G; intro A J hJ
       have hle0 := Fz.le.trans hle0 hle539
       refine s1 hFx 114 (.int .i64 x17) ?_; intro a560 hF561; clear hFx
       refine nl (qnI (hJ _ _ ?_)); clear hJ J
       exact ⟨g499, g512, g521, g527, ud113, .int .i64 x17, ud115, ud116, ud117, ud118, ud119, ud120, ud121, ud122, ud123, ud124, ud125, ud126, ud127, ud128, .own tyJob 110 ao1 cap2 zao1, hle539, hF561.reg, hMx.perm lpr, cu113, kf, cu115, cu116, cu117, cu118, cu119, cu120, cu121, cu122, cu123, cu124, cu125, cu126, (nt hx14), (nt hx16), kf, (fun h _ => nt hx15 h), (nt hx17), cf0, cf1, (nt hx14), (nt hx16)⟩
      ·
       obtain rfl := oj hi
       have hx2 := hSi
       have hx16 := ngF hcl 16 2 hx2
       have hx17 := ngF hcl 17 2 hx2
       refine hG (any_step ?_); clear hG G; intro A J hJ
       have hle0 := Fz.le.trans hle0 hle539
       refine s1 hFx 115 (.slice ao1 zao1.length cap2) ?_; intro a563 hF564; clear hFx
       refine nl (qnI (hJ _ _ ?_)); clear hJ J
       exact ⟨g499, g512, g521, g527, ud113, ud114, .slice ao1 zao1.length cap2, ud116, ud117, ud118, ud119, ud120, ud121, ud122, ud123, ud124, ud125, ud126, ud127, ud128, rh0, hle539, hF564.reg, hMx.perm lpr, cu113, cu114, kf, cu116, cu117, cu118, cu119, cu120, cu121, cu122, cu123, cu124, cu125, cu126, cu127, (nt hx16), cr0_0, cr0_1, (nt hx17), cf0, cf1, cf2, (nt hx16)⟩
      ·
       obtain rfl := oj hi
       have hx3 := hSi
       have hx4 := ngF hcl 4 3 hx3
       have hx16 := ngF hcl 16 3 hx3
       have hx17 := ngF hcl 17 3 hx3
       refine hG (any_step ?_); clear hG G; intro A J hJ
       have hle0 := Fz.le.trans hle0 hle539
       refine s1 hFx 116 (.int .i64 x17) ?_; intro a566 hF567; clear hFx
       refine nl (qnI (hJ _ _ ?_)); clear hJ J
       exact ⟨g499, g512, g521, g527, ud113, ud114, ud115, .int .i64 x17, ud117, ud118, ud119, ud120, ud121, ud122, ud123, ud124, ud125, ud126, ud127, ud128, rh0, hle539, hF567.reg, hMx.perm lpr, cu113, cu114, cu115, kf, (nt hx4), cu118, cu119, cu120, cu121, cu122, cu123, cu124, cu125, cu126, cu127, (nt hx16), cr0_0, cr0_1, (nt hx17), cf0, cf1, cf2, (nt hx16)⟩
      ·
       obtain rfl := oj hi
       have hx3 := hpre 3 (by kernel_rfl)
       have hx4 := hSi
       have hx16 := ngF hcl 16 4 hx4
       have hx17 := ngF hcl 17 4 hx4
       obtain rfl := cu116 hx3
       refine hG (any_step ?_); clear hG G; intro A J hJ
       have hle0 := Fz.le.trans hle0 hle539
       refine s1 hFx 117 (.int .i64 (w64 (x17 - 1))) ?_; intro a569 hF570; clear hFx
       refine nl (qnI (hJ _ _ ?_)); clear hJ J
       exact ⟨g499, g512, g521, g527, ud113, ud114, ud115, .int .i64 x17, .int .i64 (w64 (x17 - 1)), ud118, ud119, ud120, ud121, ud122, ud123, ud124, ud125, ud126, ud127, ud128, rh0, hle539, hF570.reg, hMx.perm lpr, cu113, cu114, cu115, kf, kf, cu118, cu119, cu120, cu121, cu122, cu123, cu124, cu125, cu126, cu127, (nt hx16), cr0_0, cr0_1, (nt hx17), cf0, cf1, cf2, (nt hx16)⟩
      ·
       obtain rfl := oj hi
       have hx5 := hSi
       have hx8 := ngF hcl 8 5 hx5
       have hx9 := ngF hcl 9 8 hx8
       have hx14 := ngF hcl 14 5 hx5
       have hx15 := ngF hcl 15 5 hx5
       have hx16 := ngF hcl 16 5 hx5
       have hx17 := ngF hcl 17 5 hx5
       obtain rfl := cr0_0 hx15
       refine hG (any_step ?_); clear hG G; intro A J hJ
       have hle0 := Fz.le.trans hle0 hle539
       refine s1 hFx 118 (.slice ao1 zao1.length cap2) ?_; intro a572 hF573; clear hFx
       refine nl (qnI (hJ _ _ ?_)); clear hJ J
       exact ⟨g499, g512, g521, g527, ud113, ud114, ud115, ud116, ud117, .slice ao1 zao1.length cap2, ud119, ud120, ud121, ud122, ud123, ud124, ud125, ud126, ud127, ud128, .own tyJob 110 ao1 cap2 zao1, hle539, hF573.reg, hMx.perm lpr, cu113, cu114, cu115, cu116, cu117, kf, cu119, cu120, (nt hx8), (nt hx9), cu123, cu124, cu125, cu126, (nt hx14), (nt hx16), kf, (fun h _ => nt hx15 h), (nt hx17), (nt hx8), cf1, (nt hx14), (nt hx16)⟩
      ·
       obtain rfl := oj hi
       have hx6 := hSi
       have hx7 := ngF hcl 7 6 hx6
       have hx8 := ngF hcl 8 7 hx7
       have hx9 := ngF hcl 9 8 hx8
       have hx14 := ngF hcl 14 6 hx6
       have hx15 := ngF hcl 15 6 hx6
       have hx16 := ngF hcl 16 6 hx6
       have hx17 := ngF hcl 17 6 hx6
       obtain rfl := cr0_0 hx15
       refine hG (any_step ?_); clear hG G; intro A J hJ
       have hle0 := Fz.le.trans hle0 hle539
       refine s1 hFx 119 (.int .i64 x17) ?_; intro a575 hF576; clear hFx
       refine nl (qnI (hJ _ _ ?_)); clear hJ J
       exact ⟨g499, g512, g521, g527, ud113, ud114, ud115, ud116, ud117, ud118, .int .i64 x17, ud120, ud121, ud122, ud123, ud124, ud125, ud126, ud127, ud128, .own tyJob 110 ao1 cap2 zao1, hle539, hF576.reg, hMx.perm lpr, cu113, cu114, cu115, cu116, cu117, cu118, kf, (nt hx7), (nt hx8), (nt hx9), cu123, cu124, cu125, cu126, (nt hx14), (nt hx16), kf, (fun h _ => nt hx15 h), (nt hx17), (nt hx8), cf1, (nt hx14), (nt hx16)⟩
      ·
       obtain rfl := oj hi
       have hx6 := hpre 6 (by kernel_rfl)
       have hx7 := hSi
       have hx8 := ngF hcl 8 7 hx7
       have hx9 := ngF hcl 9 8 hx8
       have hx14 := ngF hcl 14 7 hx7
       have hx15 := ngF hcl 15 7 hx7
       have hx16 := ngF hcl 16 7 hx7
       have hx17 := ngF hcl 17 7 hx7
       obtain rfl := cu119 hx6
       obtain rfl := cr0_0 hx15
       refine hG (any_step ?_); clear hG G; intro A J hJ
       have hle0 := Fz.le.trans hle0 hle539
       refine s1 hFx 120 (.int .i64 (w64 (x17 - 1))) ?_; intro a578 hF579; clear hFx
       refine nl (qnI (hJ _ _ ?_)); clear hJ J
       exact ⟨g499, g512, g521, g527, ud113, ud114, ud115, ud116, ud117, ud118, .int .i64 x17, .int .i64 (w64 (x17 - 1)), ud121, ud122, ud123, ud124, ud125, ud126, ud127, ud128, .own tyJob 110 ao1 cap2 zao1, hle539, hF579.reg, hMx.perm lpr, cu113, cu114, cu115, cu116, cu117, cu118, kf, kf, (nt hx8), (nt hx9), cu123, cu124, cu125, cu126, (nt hx14), (nt hx16), kf, (fun h _ => nt hx15 h), (nt hx17), (nt hx8), cf1, (nt hx14), (nt hx16)⟩
      ·
       obtain rfl := oj hi
       have hx7 := hpre 7 (by kernel_rfl)
       have hx5 := hpre 5 (by kernel_rfl)
       have hx6 := hcl 7 6 (by kernel_rfl) hx7
       have hx8 := hSi
       have hx9 := ngF hcl 9 8 hx8
       have hx14 := ngF hcl 14 8 hx8
       have hx15 := ngF hcl 15 8 hx8
       have hx16 := ngF hcl 16 8 hx8
       have hx17 := ngF hcl 17 8 hx8
       obtain rfl := cu118 hx5
       obtain rfl := cu119 hx6
       obtain rfl := cu120 hx7
       obtain rfl := cr0_0 hx15
       refine hG (any_step ?_); clear hG G; intro A J hJ
       have hle0 := Fz.le.trans hle0 hle539
       refine ixo hFx hMx 0 (T := tyJob) (xs := zao1) (w64 (x17 - 1)) (by simpa only [List.length_set] using hcd8_0) (k := .i64) (e := 110) (bytes := 24) (nog rfl _) rfl (by kernel_rfl) rfl (by kernel_rfl) (by kernel_rfl) rfl (by kernel_rfl) ?_; intro g581 a583 hg582 hF584; clear hFx
       refine nl (qnI (hJ _ _ ?_)); clear hJ J
       exact ⟨g581, g512, g521, g527, ud113, ud114, ud115, ud116, ud117, .slice ao1 zao1.length cap2, .int .i64 x17, .int .i64 (w64 (x17 - 1)), .pointer (some ⟨g581, (w64 (x17 - 1)).toNat * 3, none⟩), ud122, ud123, ud124, ud125, ud126, ud127, ud128, .own tyJob 110 ao1 cap2 zao1, hle539, hF584.reg, hMx.perm lpr, cu113, cu114, cu115, cu116, cu117, kf, kf, kf, kf, (nt hx9), cu123, cu124, cu125, cu126, (nt hx14), (nt hx16), kf, (fun h _ => nt hx15 h), (nt hx17), (fun _ => hg582), cf1, (nt hx14), (nt hx16)⟩
      ·
       obtain rfl := oj hi
       have hx8 := hpre 8 (by kernel_rfl)
       have hx7 := hcl 8 7 (by kernel_rfl) hx8
       have hx5 := hcl 8 5 (by kernel_rfl) hx8
       have hx6 := hcl 7 6 (by kernel_rfl) hx7
       have hx9 := hSi
       have hx14 := ngF hcl 14 9 hx9
       have hx15 := ngF hcl 15 9 hx9
       have hx16 := ngF hcl 16 9 hx9
       have hx17 := ngF hcl 17 9 hx9
       obtain rfl := cu118 hx5
       obtain rfl := cu119 hx6
       obtain rfl := cu120 hx7
       obtain rfl := cu121 hx8
       obtain rfl := cr0_0 hx15
       refine hG (any_step ?_); clear hG G; intro A J hJ
       have hle0 := Fz.le.trans hle0 hle539
       have hs586 := cf0 hx8
       obtain ⟨cs587, hT588, hcl589⟩ := own_elx hMx 0 (T := tyJob) (xs := zao1) rfl hs586 (w64 (x17 - 1)).toNat hqd9_0
       obtain rfl : cs587 = ([.int .i64 qd9_0.task, .int .i64 qd9_0.from_, .int .i64 qd9_0.asked] : List Value) := hT588
       refine lc2 hFx 122 3 [.int .i64 qd9_0.task, .int .i64 qd9_0.from_, .int .i64 qd9_0.asked] hcl589 rfl ?_; intro a590 hF591; clear hFx
       refine nl (qnI (hJ _ _ ?_)); clear hJ J
       exact ⟨g499, g512, g521, g527, ud113, ud114, ud115, ud116, ud117, .slice ao1 zao1.length cap2, .int .i64 x17, .int .i64 (w64 (x17 - 1)), .pointer (some ⟨g499, (w64 (x17 - 1)).toNat * 3, none⟩), .agg #[.int .i64 qd9_0.task, .int .i64 qd9_0.from_, .int .i64 qd9_0.asked], ud123, ud124, ud125, ud126, ud127, ud128, .own tyJob 110 ao1 cap2 zao1, hle539, hF591.reg, hMx.perm lpr, cu113, cu114, cu115, cu116, cu117, kf, kf, kf, kf, kf, cu123, cu124, cu125, cu126, (nt hx14), (nt hx16), kf, (fun h _ => nt hx15 h), (nt hx17), (fun _ => hs586), cf1, (nt hx14), (nt hx16)⟩
      ·
       obtain rfl := oj hi
       have hx10 := hSi
       have hx12 := ngF hcl 12 10 hx10
       have hx13 := ngF hcl 13 12 hx12
       have hx14 := ngF hcl 14 13 hx13
       have hx15 := ngF hcl 15 13 hx13
       have hx16 := ngF hcl 16 10 hx10
       have hx17 := ngF hcl 17 10 hx10
       obtain rfl := cr0_0 hx15
       refine hG (any_step ?_); clear hG G; intro A J hJ
       have hle0 := Fz.le.trans hle0 hle539
       refine s1 hFx 123 (.slice ao1 zao1.length cap2) ?_; intro a593 hF594; clear hFx
       refine nl (qnI (hJ _ _ ?_)); clear hJ J
       exact ⟨g499, g512, g521, g527, ud113, ud114, ud115, ud116, ud117, ud118, ud119, ud120, ud121, ud122, .slice ao1 zao1.length cap2, ud124, ud125, ud126, ud127, ud128, .own tyJob 110 ao1 cap2 zao1, hle539, hF594.reg, hMx.perm lpr, cu113, cu114, cu115, cu116, cu117, cu118, cu119, cu120, cu121, cu122, kf, cu124, (nt hx12), (nt hx13), (nt hx14), (nt hx16), kf, (fun h _ => nt hx15 h), (nt hx17), cf0, (nt hx12), (nt hx14), (nt hx16)⟩
      ·
       obtain rfl := oj hi
       have hx11 := hSi
       have hx12 := ngF hcl 12 11 hx11
       have hx13 := ngF hcl 13 12 hx12
       have hx14 := ngF hcl 14 13 hx13
       have hx15 := ngF hcl 15 13 hx13
       have hx16 := ngF hcl 16 11 hx11
       have hx17 := ngF hcl 17 11 hx11
       obtain rfl := cr0_0 hx15
       refine hG (any_step ?_); clear hG G; intro A J hJ
       have hle0 := Fz.le.trans hle0 hle539
       refine s1 hFx 124 (.int .i64 x17) ?_; intro a596 hF597; clear hFx
       refine nl (qnI (hJ _ _ ?_)); clear hJ J
       exact ⟨g499, g512, g521, g527, ud113, ud114, ud115, ud116, ud117, ud118, ud119, ud120, ud121, ud122, ud123, .int .i64 x17, ud125, ud126, ud127, ud128, .own tyJob 110 ao1 cap2 zao1, hle539, hF597.reg, hMx.perm lpr, cu113, cu114, cu115, cu116, cu117, cu118, cu119, cu120, cu121, cu122, cu123, kf, (nt hx12), (nt hx13), (nt hx14), (nt hx16), kf, (fun h _ => nt hx15 h), (nt hx17), cf0, (nt hx12), (nt hx14), (nt hx16)⟩
      ·
       obtain rfl := oj hi
       have hx11 := hpre 11 (by kernel_rfl)
       have hx10 := hpre 10 (by kernel_rfl)
       have hx12 := hSi
       have hx13 := ngF hcl 13 12 hx12
       have hx14 := ngF hcl 14 13 hx13
       have hx15 := ngF hcl 15 13 hx13
       have hx16 := ngF hcl 16 12 hx12
       have hx17 := ngF hcl 17 12 hx12
       obtain rfl := cu123 hx10
       obtain rfl := cu124 hx11
       obtain rfl := cr0_0 hx15
       refine hG (any_step ?_); clear hG G; intro A J hJ
       have hle0 := Fz.le.trans hle0 hle539
       refine ixo hFx hMx 0 (T := tyJob) (xs := zao1) x17 (by simpa only [List.length_set] using hcd12_0) (k := .i64) (e := 110) (bytes := 24) (nog rfl _) rfl (by kernel_rfl) rfl (by kernel_rfl) (by kernel_rfl) rfl (by kernel_rfl) ?_; intro g599 a601 hg600 hF602; clear hFx
       refine nl (qnI (hJ _ _ ?_)); clear hJ J
       exact ⟨g499, g599, g521, g527, ud113, ud114, ud115, ud116, ud117, ud118, ud119, ud120, ud121, ud122, .slice ao1 zao1.length cap2, .int .i64 x17, .pointer (some ⟨g599, x17.toNat * 3, none⟩), ud126, ud127, ud128, .own tyJob 110 ao1 cap2 zao1, hle539, hF602.reg, hMx.perm lpr, cu113, cu114, cu115, cu116, cu117, cu118, cu119, cu120, cu121, cu122, kf, kf, kf, (nt hx13), (nt hx14), (nt hx16), kf, (fun h _ => nt hx15 h), (nt hx17), cf0, (fun _ => hg600), (nt hx14), (nt hx16)⟩
      ·
       obtain rfl := oj hi
       have hx12 := hpre 12 (by kernel_rfl)
       have hx11 := hcl 12 11 (by kernel_rfl) hx12
       have hx10 := hcl 12 10 (by kernel_rfl) hx12
       have hx13 := hSi
       have hx14 := ngF hcl 14 13 hx13
       have hx15 := ngF hcl 15 13 hx13
       have hx16 := ngF hcl 16 13 hx13
       have hx17 := ngF hcl 17 13 hx13
       obtain rfl := cu123 hx10
       obtain rfl := cu124 hx11
       obtain rfl := cu125 hx12
       obtain rfl := cr0_0 hx15
       refine hG (any_step ?_); clear hG G; intro A J hJ
       have hle0 := Fz.le.trans hle0 hle539
       have hs604 := cf1 hx12
       obtain ⟨cs605, hT606, hcl607⟩ := own_elx hMx 0 (T := tyJob) (xs := zao1) rfl hs604 x17.toNat hqd13_0
       obtain rfl : cs605 = ([.int .i64 qd13_0.task, .int .i64 qd13_0.from_, .int .i64 qd13_0.asked] : List Value) := hT606
       refine lc2 hFx 126 3 [.int .i64 qd13_0.task, .int .i64 qd13_0.from_, .int .i64 qd13_0.asked] hcl607 rfl ?_; intro a608 hF609; clear hFx
       refine nl (qnI (hJ _ _ ?_)); clear hJ J
       exact ⟨g499, g512, g521, g527, ud113, ud114, ud115, ud116, ud117, ud118, ud119, ud120, ud121, ud122, .slice ao1 zao1.length cap2, .int .i64 x17, .pointer (some ⟨g512, x17.toNat * 3, none⟩), .agg #[.int .i64 qd13_0.task, .int .i64 qd13_0.from_, .int .i64 qd13_0.asked], ud127, ud128, .own tyJob 110 ao1 cap2 zao1, hle539, hF609.reg, hMx.perm lpr, cu113, cu114, cu115, cu116, cu117, cu118, cu119, cu120, cu121, cu122, kf, kf, kf, kf, (nt hx14), (nt hx16), kf, (fun h _ => nt hx15 h), (nt hx17), cf0, (fun _ => hs604), (nt hx14), (nt hx16)⟩
      ·
       obtain rfl := oj hi
       have hx13 := hpre 13 (by kernel_rfl)
       have hx9 := hpre 9 (by kernel_rfl)
       have hx8 := hpre 8 (by kernel_rfl)
       have hx7 := hpre 7 (by kernel_rfl)
       have hx6 := hpre 6 (by kernel_rfl)
       have hx5 := hpre 5 (by kernel_rfl)
       have hx1 := hpre 1 (by kernel_rfl)
       have hx0 := hpre 0 (by kernel_rfl)
       have hx12 := hcl 13 12 (by kernel_rfl) hx13
       have hx11 := hcl 12 11 (by kernel_rfl) hx12
       have hx10 := hcl 12 10 (by kernel_rfl) hx12
       have hx14 := hSi
       have hx15 := ngF hcl 15 14 hx14
       have hx16 := ngF hcl 16 14 hx14
       have hx17 := ngF hcl 17 14 hx14
       obtain rfl := cu113 hx0
       obtain rfl := cu114 hx1
       obtain rfl := cu118 hx5
       obtain rfl := cu119 hx6
       obtain rfl := cu120 hx7
       obtain rfl := cu121 hx8
       obtain rfl := cu122 hx9
       obtain rfl := cu123 hx10
       obtain rfl := cu124 hx11
       obtain rfl := cu125 hx12
       obtain rfl := cu126 hx13
       obtain rfl := cr0_0 hx15
       refine hG (any_step ?_); clear hG G; intro A J hJ
       have hle0 := Fz.le.trans hle0 hle539
       have hs611 := cf0 hx8
       have hs612 := cf1 hx12
       refine ixo hFx hMx 0 (T := tyJob) (xs := zao1) x17 (by simpa only [List.length_set] using hcd14_0) (k := .i64) (e := 110) (bytes := 24) (nog rfl _) rfl (by kernel_rfl) rfl (by kernel_rfl) (by kernel_rfl) rfl (by kernel_rfl) ?_; intro g613 a615 hg614 hF616; clear hFx
       refine nl (qnI (hJ _ _ ?_)); clear hJ J
       exact ⟨g499, g512, g613, g527, .slice ao1 zao1.length cap2, .int .i64 x17, ud115, ud116, ud117, .slice ao1 zao1.length cap2, .int .i64 x17, .int .i64 (w64 (x17 - 1)), .pointer (some ⟨g499, (w64 (x17 - 1)).toNat * 3, none⟩), .agg #[.int .i64 qd9_0.task, .int .i64 qd9_0.from_, .int .i64 qd9_0.asked], .slice ao1 zao1.length cap2, .int .i64 x17, .pointer (some ⟨g512, x17.toNat * 3, none⟩), .agg #[.int .i64 qd13_0.task, .int .i64 qd13_0.from_, .int .i64 qd13_0.asked], .pointer (some ⟨g613, x17.toNat * 3, none⟩), ud128, .own tyJob 110 ao1 cap2 zao1, hle539, hF616.reg, hMx.perm lpr, kf, kf, cu115, cu116, cu117, kf, kf, kf, kf, kf, kf, kf, kf, kf, kf, (nt hx16), kf, (fun h _ => nt hx15 h), (nt hx17), (fun _ => hs611), (fun _ => hs612), (fun _ => hg614), (nt hx16)⟩
      ·
       obtain rfl := oj hi
       have hx14 := hpre 14 (by kernel_rfl)
       have hx13 := hpre 13 (by kernel_rfl)
       have hx9 := hpre 9 (by kernel_rfl)
       have hx8 := hpre 8 (by kernel_rfl)
       have hx7 := hpre 7 (by kernel_rfl)
       have hx6 := hpre 6 (by kernel_rfl)
       have hx5 := hpre 5 (by kernel_rfl)
       have hx1 := hpre 1 (by kernel_rfl)
       have hx0 := hpre 0 (by kernel_rfl)
       have hx12 := hcl 13 12 (by kernel_rfl) hx13
       have hx11 := hcl 12 11 (by kernel_rfl) hx12
       have hx10 := hcl 12 10 (by kernel_rfl) hx12
       have hx15 := hSi
       have hx16 := ngF hcl 16 15 hx15
       have hx17 := ngF hcl 17 15 hx15
       obtain rfl := cu113 hx0
       obtain rfl := cu114 hx1
       obtain rfl := cu118 hx5
       obtain rfl := cu119 hx6
       obtain rfl := cu120 hx7
       obtain rfl := cu121 hx8
       obtain rfl := cu122 hx9
       obtain rfl := cu123 hx10
       obtain rfl := cu124 hx11
       obtain rfl := cu125 hx12
       obtain rfl := cu126 hx13
       obtain rfl := cu127 hx14
       obtain rfl := cr0_0 hx15
       refine hG (any_step ?_); clear hG G; intro A J hJ
       have hle0 := Fz.le.trans hle0 hle539
       have hs618 := cf0 hx8
       have hs619 := cf1 hx12
       have hs620 := cf2 hx14
       refine sox hFx hMx 0 hs620 (T := tyJob) (xs := zao1) x17.toNat qd9_0 (u := .agg #[.int .i64 qd9_0.task, .int .i64 qd9_0.from_, .int .i64 qd9_0.asked]) (nog rfl _) rfl rfl (by kernel_rfl) rfl (by kernel_rfl) rfl (by kernel_rfl) (by first | omega | (simp only [List.length_set] at *; omega)) rfl ?_; intro wd621 hM622; clear hMx
       refine nl (qnI (hJ _ _ ?_)); clear hJ J
       exact ⟨g499, g512, g521, g527, .slice ao1 zao1.length cap2, .int .i64 x17, ud115, ud116, ud117, .slice ao1 zao1.length cap2, .int .i64 x17, .int .i64 (w64 (x17 - 1)), .pointer (some ⟨g499, (w64 (x17 - 1)).toNat * 3, none⟩), .agg #[.int .i64 qd9_0.task, .int .i64 qd9_0.from_, .int .i64 qd9_0.asked], .slice ao1 zao1.length cap2, .int .i64 x17, .pointer (some ⟨g512, x17.toNat * 3, none⟩), .agg #[.int .i64 qd13_0.task, .int .i64 qd13_0.from_, .int .i64 qd13_0.asked], .pointer (some ⟨g521, x17.toNat * 3, none⟩), ud128, .own tyJob 110 ao1 cap2 (zao1.set x17.toNat qd9_0), hle539, hFx.reg, hM622.perm lpr, kf, kf, cu115, cu116, cu117, kf, kf, kf, kf, kf, kf, kf, kf, kf, kf, (nt hx16), nu, kf2, (nt hx17), (fun _ => hs618), (fun _ => hs619), (fun _ => hs620), (nt hx16)⟩
      ·
       obtain rfl := oj hi
       have hx15 := hpre 15 (by kernel_rfl)
       have hx14 := hpre 14 (by kernel_rfl)
       have hx13 := hpre 13 (by kernel_rfl)
       have hx12 := hpre 12 (by kernel_rfl)
       have hx11 := hpre 11 (by kernel_rfl)
       have hx10 := hpre 10 (by kernel_rfl)
       have hx9 := hpre 9 (by kernel_rfl)
       have hx8 := hpre 8 (by kernel_rfl)
       have hx7 := hpre 7 (by kernel_rfl)
       have hx6 := hpre 6 (by kernel_rfl)
       have hx5 := hpre 5 (by kernel_rfl)
       have hx4 := hpre 4 (by kernel_rfl)
       have hx3 := hpre 3 (by kernel_rfl)
       have hx2 := hpre 2 (by kernel_rfl)
       have hx1 := hpre 1 (by kernel_rfl)
       have hx0 := hpre 0 (by kernel_rfl)
       have hx16 := hSi
       have hx17 := ngF hcl 17 16 hx16
       obtain rfl := cu113 hx0
       obtain rfl := cu114 hx1
       obtain rfl := cu115 hx2
       obtain rfl := cu116 hx3
       obtain rfl := cu117 hx4
       obtain rfl := cu118 hx5
       obtain rfl := cu119 hx6
       obtain rfl := cu120 hx7
       obtain rfl := cu121 hx8
       obtain rfl := cu122 hx9
       obtain rfl := cu123 hx10
       obtain rfl := cu124 hx11
       obtain rfl := cu125 hx12
       obtain rfl := cu126 hx13
       obtain rfl := cu127 hx14
       obtain rfl := cr0_1 hx15 hx17
       refine hG (any_step ?_); clear hG G; intro A J hJ
       have hle0 := Fz.le.trans hle0 hle539
       have hs624 := cf0 hx8
       have hs625 := cf1 hx12
       have hs626 := cf2 hx14
       have hl627 : (zao1.set x17.toNat qd9_0).length = zao1.length := by simp; try omega
       have hF628 : Fr 220 [] [⟨0, [], .slice ao1 (zao1.set x17.toNat qd9_0).length cap2⟩, ⟨14, [], .int .i64 x14⟩, ⟨17, [], .int .i64 x17⟩, ⟨113, [], .slice ao1 (zao1.set x17.toNat qd9_0).length cap2⟩, ⟨114, [], .int .i64 x17⟩, ⟨115, [], .slice ao1 (zao1.set x17.toNat qd9_0).length cap2⟩, ⟨116, [], .int .i64 x17⟩, ⟨117, [], .int .i64 (w64 (x17 - 1))⟩, ⟨118, [], .slice ao1 (zao1.set x17.toNat qd9_0).length cap2⟩, ⟨119, [], .int .i64 x17⟩, ⟨120, [], .int .i64 (w64 (x17 - 1))⟩, ⟨121, [], .pointer (some ⟨g499, (w64 (x17 - 1)).toNat * 3, none⟩)⟩, ⟨122, [], .agg #[.int .i64 qd9_0.task, .int .i64 qd9_0.from_, .int .i64 qd9_0.asked]⟩, ⟨123, [], .slice ao1 (zao1.set x17.toNat qd9_0).length cap2⟩, ⟨124, [], .int .i64 x17⟩, ⟨125, [], .pointer (some ⟨g512, x17.toNat * 3, none⟩)⟩, ⟨126, [], .agg #[.int .i64 qd13_0.task, .int .i64 qd13_0.from_, .int .i64 qd13_0.asked]⟩, ⟨127, [], .pointer (some ⟨g521, x17.toNat * 3, none⟩)⟩, ⟨128, [], ud128⟩] a := by rw [hl627]; exact hFx.reg
       clear hFx
       refine ixo hF628 hMx 0 (T := tyJob) (xs := zao1.set x17.toNat qd9_0) (w64 (x17 - 1)) (by simpa only [List.length_set] using hcd16_0) (k := .i64) (e := 110) (bytes := 24) (nog rfl _) rfl (by kernel_rfl) rfl (by kernel_rfl) (by kernel_rfl) rfl (by kernel_rfl) ?_; intro g629 a631 hg630 hF632; clear hF628
       refine nl (qnI (hJ _ _ ?_)); clear hJ J
       rw [hl627] at hF632
       exact ⟨g499, g512, g521, g629, .slice ao1 zao1.length cap2, .int .i64 x17, .slice ao1 zao1.length cap2, .int .i64 x17, .int .i64 (w64 (x17 - 1)), .slice ao1 zao1.length cap2, .int .i64 x17, .int .i64 (w64 (x17 - 1)), .pointer (some ⟨g499, (w64 (x17 - 1)).toNat * 3, none⟩), .agg #[.int .i64 qd9_0.task, .int .i64 qd9_0.from_, .int .i64 qd9_0.asked], .slice ao1 zao1.length cap2, .int .i64 x17, .pointer (some ⟨g512, x17.toNat * 3, none⟩), .agg #[.int .i64 qd13_0.task, .int .i64 qd13_0.from_, .int .i64 qd13_0.asked], .pointer (some ⟨g521, x17.toNat * 3, none⟩), .pointer (some ⟨g629, (w64 (x17 - 1)).toNat * 3, none⟩), .own tyJob 110 ao1 cap2 (zao1.set x17.toNat qd9_0), hle539, hF632.reg, hMx.perm lpr, (fun _ => by first | rfl | rw [hl627]), (fun _ => by first | rfl | rw [hl627]), (fun _ => by first | rfl | rw [hl627]), (fun _ => by first | rfl | rw [hl627]), (fun _ => by first | rfl | rw [hl627]), (fun _ => by first | rfl | rw [hl627]), (fun _ => by first | rfl | rw [hl627]), (fun _ => by first | rfl | rw [hl627]), (fun _ => by first | rfl | rw [hl627]), (fun _ => by first | rfl | rw [hl627]), (fun _ => by first | rfl | rw [hl627]), (fun _ => by first | rfl | rw [hl627]), (fun _ => by first | rfl | rw [hl627]), (fun _ => by first | rfl | rw [hl627]), (fun _ => by first | rfl | rw [hl627]), (fun _ => by first | rfl | rw [hl627]), (tn hx15), kf2, (nt hx17), (fun _ => hs624), (fun _ => hs625), (fun _ => hs626), (fun _ => hg630)⟩
      ·
       obtain rfl := oj hi
       have hx16 := hpre 16 (by kernel_rfl)
       have hx15 := hpre 15 (by kernel_rfl)
       have hx14 := hpre 14 (by kernel_rfl)
       have hx13 := hpre 13 (by kernel_rfl)
       have hx12 := hpre 12 (by kernel_rfl)
       have hx11 := hpre 11 (by kernel_rfl)
       have hx10 := hpre 10 (by kernel_rfl)
       have hx9 := hpre 9 (by kernel_rfl)
       have hx8 := hpre 8 (by kernel_rfl)
       have hx7 := hpre 7 (by kernel_rfl)
       have hx6 := hpre 6 (by kernel_rfl)
       have hx5 := hpre 5 (by kernel_rfl)
       have hx4 := hpre 4 (by kernel_rfl)
       have hx3 := hpre 3 (by kernel_rfl)
       have hx2 := hpre 2 (by kernel_rfl)
       have hx1 := hpre 1 (by kernel_rfl)
       have hx0 := hpre 0 (by kernel_rfl)
       have hx17 := hSi
       obtain rfl := cu113 hx0
       obtain rfl := cu114 hx1
       obtain rfl := cu115 hx2
       obtain rfl := cu116 hx3
       obtain rfl := cu117 hx4
       obtain rfl := cu118 hx5
       obtain rfl := cu119 hx6
       obtain rfl := cu120 hx7
       obtain rfl := cu121 hx8
       obtain rfl := cu122 hx9
       obtain rfl := cu123 hx10
       obtain rfl := cu124 hx11
       obtain rfl := cu125 hx12
       obtain rfl := cu126 hx13
       obtain rfl := cu127 hx14
       obtain rfl := cu128 hx16
       obtain rfl := cr0_1 hx15 hx17
       refine hG (any_step ?_); clear hG G; intro A J hJ
       have hle0 := Fz.le.trans hle0 hle539
       have hs634 := cf0 hx8
       have hs635 := cf1 hx12
       have hs636 := cf2 hx14
       have hs637 := cf3 hx16
       have hl638 : (zao1.set x17.toNat qd9_0).length = zao1.length := by simp; try omega
       have hF639 : Fr 220 [] [⟨0, [], .slice ao1 (zao1.set x17.toNat qd9_0).length cap2⟩, ⟨14, [], .int .i64 x14⟩, ⟨17, [], .int .i64 x17⟩, ⟨113, [], .slice ao1 (zao1.set x17.toNat qd9_0).length cap2⟩, ⟨114, [], .int .i64 x17⟩, ⟨115, [], .slice ao1 (zao1.set x17.toNat qd9_0).length cap2⟩, ⟨116, [], .int .i64 x17⟩, ⟨117, [], .int .i64 (w64 (x17 - 1))⟩, ⟨118, [], .slice ao1 (zao1.set x17.toNat qd9_0).length cap2⟩, ⟨119, [], .int .i64 x17⟩, ⟨120, [], .int .i64 (w64 (x17 - 1))⟩, ⟨121, [], .pointer (some ⟨g499, (w64 (x17 - 1)).toNat * 3, none⟩)⟩, ⟨122, [], .agg #[.int .i64 qd9_0.task, .int .i64 qd9_0.from_, .int .i64 qd9_0.asked]⟩, ⟨123, [], .slice ao1 (zao1.set x17.toNat qd9_0).length cap2⟩, ⟨124, [], .int .i64 x17⟩, ⟨125, [], .pointer (some ⟨g512, x17.toNat * 3, none⟩)⟩, ⟨126, [], .agg #[.int .i64 qd13_0.task, .int .i64 qd13_0.from_, .int .i64 qd13_0.asked]⟩, ⟨127, [], .pointer (some ⟨g521, x17.toNat * 3, none⟩)⟩, ⟨128, [], .pointer (some ⟨g527, (w64 (x17 - 1)).toNat * 3, none⟩)⟩] a := by rw [hl638]; exact hFx.reg
       clear hFx
       refine sox hF639 hMx 0 hs637 (T := tyJob) (xs := zao1.set x17.toNat qd9_0) (w64 (x17 - 1)).toNat qd13_0 (u := .agg #[.int .i64 qd13_0.task, .int .i64 qd13_0.from_, .int .i64 qd13_0.asked]) (nog rfl _) rfl rfl (by kernel_rfl) rfl (by kernel_rfl) rfl (by kernel_rfl) (by first | omega | (simp only [List.length_set] at *; omega)) rfl ?_; intro wd640 hM641; clear hMx
       refine nl (qnI (hJ _ _ ?_)); clear hJ J
       rw [hl638] at hF639
       exact ⟨g499, g512, g521, g527, .slice ao1 zao1.length cap2, .int .i64 x17, .slice ao1 zao1.length cap2, .int .i64 x17, .int .i64 (w64 (x17 - 1)), .slice ao1 zao1.length cap2, .int .i64 x17, .int .i64 (w64 (x17 - 1)), .pointer (some ⟨g499, (w64 (x17 - 1)).toNat * 3, none⟩), .agg #[.int .i64 qd9_0.task, .int .i64 qd9_0.from_, .int .i64 qd9_0.asked], .slice ao1 zao1.length cap2, .int .i64 x17, .pointer (some ⟨g512, x17.toNat * 3, none⟩), .agg #[.int .i64 qd13_0.task, .int .i64 qd13_0.from_, .int .i64 qd13_0.asked], .pointer (some ⟨g521, x17.toNat * 3, none⟩), .pointer (some ⟨g527, (w64 (x17 - 1)).toNat * 3, none⟩), .own tyJob 110 ao1 cap2 ((zao1.set x17.toNat qd9_0).set (w64 (x17 - 1)).toNat qd13_0), hle539, hF639.reg, hM641.perm lpr, (fun _ => by first | rfl | rw [hl638]), (fun _ => by first | rfl | rw [hl638]), (fun _ => by first | rfl | rw [hl638]), (fun _ => by first | rfl | rw [hl638]), (fun _ => by first | rfl | rw [hl638]), (fun _ => by first | rfl | rw [hl638]), (fun _ => by first | rfl | rw [hl638]), (fun _ => by first | rfl | rw [hl638]), (fun _ => by first | rfl | rw [hl638]), (fun _ => by first | rfl | rw [hl638]), (fun _ => by first | rfl | rw [hl638]), (fun _ => by first | rfl | rw [hl638]), (fun _ => by first | rfl | rw [hl638]), (fun _ => by first | rfl | rw [hl638]), (fun _ => by first | rfl | rw [hl638]), (fun _ => by first | rfl | rw [hl638]), (tn hx15), (fun _ => nu), kf, (fun _ => hs634), (fun _ => hs635), (fun _ => hs636), (fun _ => hs637)⟩
     case hE =>
      intro S hS a643 wd644 hI; refine Go.Sy.hid ?_; intro G hG; obtain ⟨g499, g512, g521, g527, ud113, ud114, ud115, ud116, ud117, ud118, ud119, ud120, ud121, ud122, ud123, ud124, ud125, ud126, ud127, ud128, rh0, hle539, hFx, hMx, cu113, cu114, cu115, cu116, cu117, cu118, cu119, cu120, cu121, cu122, cu123, cu124, cu125, cu126, cu127, cu128, cr0_0, cr0_1, cr0_2, cf0, cf1, cf2, hI⟩ := hI; have cf3 := hI; clear hI; refine hG ?_; clear hG G
      obtain rfl := cu113 (hS 0 (by decide))
      obtain rfl := cu114 (hS 1 (by decide))
      obtain rfl := cu115 (hS 2 (by decide))
      obtain rfl := cu116 (hS 3 (by decide))
      obtain rfl := cu117 (hS 4 (by decide))
      obtain rfl := cu118 (hS 5 (by decide))
      obtain rfl := cu119 (hS 6 (by decide))
      obtain rfl := cu120 (hS 7 (by decide))
      obtain rfl := cu121 (hS 8 (by decide))
      obtain rfl := cu122 (hS 9 (by decide))
      obtain rfl := cu123 (hS 10 (by decide))
      obtain rfl := cu124 (hS 11 (by decide))
      obtain rfl := cu125 (hS 12 (by decide))
      obtain rfl := cu126 (hS 13 (by decide))
      obtain rfl := cu127 (hS 14 (by decide))
      obtain rfl := cu128 (hS 16 (by decide))
      obtain rfl := cr0_2 (hS 17 (by decide))
      have hle0 := Fz.le.trans hle0 hle539
      have hs645 := cf0 (hS 8 (by decide))
      have hs646 := cf1 (hS 12 (by decide))
      have hs647 := cf2 (hS 14 (by decide))
      have hs648 := cf3 (hS 16 (by decide))
      have hl649 : ((zao1.set x17.toNat qd9_0).set (w64 (x17 - 1)).toNat qd13_0).length = zao1.length := by simp; try omega
      have hF650 : Fr 220 [] [⟨0, [], .slice ao1 ((zao1.set x17.toNat qd9_0).set (w64 (x17 - 1)).toNat qd13_0).length cap2⟩, ⟨14, [], .int .i64 x14⟩, ⟨17, [], .int .i64 x17⟩, ⟨113, [], .slice ao1 ((zao1.set x17.toNat qd9_0).set (w64 (x17 - 1)).toNat qd13_0).length cap2⟩, ⟨114, [], .int .i64 x17⟩, ⟨115, [], .slice ao1 ((zao1.set x17.toNat qd9_0).set (w64 (x17 - 1)).toNat qd13_0).length cap2⟩, ⟨116, [], .int .i64 x17⟩, ⟨117, [], .int .i64 (w64 (x17 - 1))⟩, ⟨118, [], .slice ao1 ((zao1.set x17.toNat qd9_0).set (w64 (x17 - 1)).toNat qd13_0).length cap2⟩, ⟨119, [], .int .i64 x17⟩, ⟨120, [], .int .i64 (w64 (x17 - 1))⟩, ⟨121, [], .pointer (some ⟨g499, (w64 (x17 - 1)).toNat * 3, none⟩)⟩, ⟨122, [], .agg #[.int .i64 qd9_0.task, .int .i64 qd9_0.from_, .int .i64 qd9_0.asked]⟩, ⟨123, [], .slice ao1 ((zao1.set x17.toNat qd9_0).set (w64 (x17 - 1)).toNat qd13_0).length cap2⟩, ⟨124, [], .int .i64 x17⟩, ⟨125, [], .pointer (some ⟨g512, x17.toNat * 3, none⟩)⟩, ⟨126, [], .agg #[.int .i64 qd13_0.task, .int .i64 qd13_0.from_, .int .i64 qd13_0.asked]⟩, ⟨127, [], .pointer (some ⟨g521, x17.toNat * 3, none⟩)⟩, ⟨128, [], .pointer (some ⟨g527, (w64 (x17 - 1)).toNat * 3, none⟩)⟩] a643 := by rw [hl649]; exact hFx.reg
      clear hFx
      refine ibn ?_
      refine thn ?_
      have hF651 : Fr 220 [] [⟨0, [], .slice ao1 ((zao1.set x17.toNat qd9_0).set (w64 (x17 - 1)).toNat qd13_0).length cap2⟩, ⟨14, [], .int .i64 x14⟩, ⟨17, [], .int .i64 x17⟩] a643 := hF650.reg; clear hF650
      refine rgH ?_; intro hQ652Q hQ652
      refine s1 hF651 111 (.int .i64 x17) ?_; intro a653 hF654; clear hF651
      refine s1 hF654 112 (.int .i64 (w64 (x17 - 1))) ?_; intro a655 hF656; clear hF654
      refine s1 hF656 17 (.int .i64 (w64 (x17 - 1))) ?_; intro a657 hF658; clear hF656
      refine nlH (hQ652 _ _ ?_); clear hQ652 hQ652Q
      refine rd ?_
      exact ⟨⟨w64 (x17 - 1), (zao1.set x17.toNat qd9_0).set (w64 (x17 - 1)).toNat qd13_0⟩, hp538.1, hp538.2, (hF658.reg).anyβ _ (by kernel_rfl), hMx.keep (List.Sublist.cons_cons _ (List.Sublist.refl _))⟩
    ·
     have hp659 := hp472.2 hb480; clear hp472
     refine wp_exit ?_
     refine thx ?_
     refine thx ?_
     refine ibx ?_
     refine thn ?_
     refine wp_ret ?_
     refine thr ?_
     have hc660 := hp659.1; have hp661 := hp659.2; clear hp659
     refine rt (fn := Try.f112) (v := .tuple #[]) hF479 (re0 hF479 (fn := Try.f112) rfl) ?_
     exact ⟨zao1, Z, rfl, hp661, hle0, hc660, hM471.keep (List.Sublist.cons_cons _ (List.Sublist.refl _))⟩
   refine wp_block ?_
   have hF662 : Fr 220 [] [⟨0, [], .slice ao1 u0.length cap2⟩, ⟨2, [], .int .i64 u2⟩, ⟨4, [], .func (.func fid3) #[] caps4⟩, ⟨14, [], .int .i64 u1⟩, ⟨15, [], .int .i64 u2⟩] a438 := hF442.reg; clear hF442
   have hF664 : Fr 220 [] [⟨0, [], .slice ao1 u0.length cap2⟩, ⟨2, [], .int .i64 u2⟩, ⟨4, [], .func (.func fid3) #[] caps4⟩, ⟨14, [], .int .i64 u1⟩, ⟨15, [], .int .i64 u2⟩] a438 := hF662.reg; clear hF662
   obtain ⟨inv663, mu663, hI667, hr666⟩ := hp443
   refine lp (ι := Int × Int) (fun (s : Int × Int) => [⟨0, [], .slice ao1 u0.length cap2⟩, ⟨2, [], .int .i64 u2⟩, ⟨4, [], .func (.func fid3) #[] caps4⟩, ⟨14, [], .int .i64 s.1⟩, ⟨15, [], .int .i64 s.2⟩]) (fun (s : Int × Int) => ((.own tyJob 110 ao1 cap2 u0) :: Rr)) (fun (s : Int × Int) => Z) (fun (s : Int × Int) => inv663 s.1 s.2) (fun (s : Int × Int) => mu663 s.1 s.2) ⟨u1, u2⟩ hI667 (by exact hF664.reg) (by exact hM0) ?_
   rintro ⟨x14v, x15⟩ hI665 a669 wd670 hF671 hM672
   have hF673 : Fr 220 [] [⟨0, [], .slice ao1 u0.length cap2⟩, ⟨2, [], .int .i64 u2⟩, ⟨4, [], .func (.func fid3) #[] caps4⟩, ⟨14, [], .int .i64 x14v⟩, ⟨15, [], .int .i64 x15⟩] a669 := hF671; clear hF671 hF664
   have hM674 : Mem B [] w0 Z0 ((.own tyJob 110 ao1 cap2 u0) :: Rr) Z wd670 := hM672; clear hM672 hM0
   have hp675 := hr666 x14v x15 hI665
   refine wp_seq ?_
   refine sqH ?_; intro hQ676Q hQ676
   refine s1 hF673 83 (.int .i64 x14v) ?_; intro a677 hF678; clear hF673
   refine s1 hF678 84 (.int .i64 x15) ?_; intro a679 hF680; clear hF678
   refine s1 hF680 85 (.bool (decide (x14v < x15))) ?_; intro a681 hF682; clear hF680
   refine nlH (hQ676 _ _ ?_); clear hQ676 hQ676Q
   refine cd hF682 (t := decide (x14v < x15)) (by kernel_rfl) (fun hb683 => ?_) (fun hb683 => ?_)
   ·
    have hp684 := hp675.1 hb683; clear hp675
    refine wp_skip ?_
    refine thn ?_
    refine wp_block ?_
    refine sqH ?_; intro hQ685Q hQ685
    refine s1 hF682 86 (.int .i64 x14v) ?_; intro a686 hF687; clear hF682
    refine s1 hF687 87 (.int .i64 x15) ?_; intro a688 hF689; clear hF687
    refine s1 hF689 88 (.int .i64 (w64 (x14v + x15))) ?_; intro a690 hF691; clear hF689
    refine s1 hF691 89 (.int .u64 (wu64 (w64 (x14v + x15)))) ?_; intro a692 hF693; clear hF691
    refine s1 hF693 90 (.int .u64 (bShr .u64 (wu64 (w64 (x14v + x15))) 1)) ?_; intro a694 hF695; clear hF693
    refine s1 hF695 91 (.int .i64 (w64 (bShr .u64 (wu64 (w64 (x14v + x15))) 1))) ?_; intro a696 hF697; clear hF695
    refine s1 hF697 16 (.int .i64 (w64 (bShr .u64 (wu64 (w64 (x14v + x15))) 1))) ?_; intro a698 hF699; clear hF697
    refine nlH (hQ685 _ _ ?_); clear hQ685 hQ685Q
    have hF700 : Fr 220 [] [⟨0, [], .slice ao1 u0.length cap2⟩, ⟨2, [], .int .i64 u2⟩, ⟨4, [], .func (.func fid3) #[] caps4⟩, ⟨14, [], .int .i64 x14v⟩, ⟨15, [], .int .i64 x15⟩, ⟨16, [], .int .i64 (w64 (bShr .u64 (wu64 (w64 (x14v + x15))) 1))⟩] a698 := hF699.reg; clear hF699
    have hcd3_0 := hp684.1; have hp738 := hp684.2; clear hp684
    obtain ⟨qd4_0, hqd4_0⟩ : ∃ q, u0[u2.toNat]? = some q := ⟨_, List.getElem?_eq_getElem (by omega)⟩; have hp739 := hp738 qd4_0 hqd4_0; clear hp738
    have hcd7_0 := hp739.1; have hp740 := hp739.2; clear hp739
    obtain ⟨qd8_0, hqd8_0⟩ : ∃ q, u0[(w64 (bShr .u64 (wu64 (w64 (x14v + x15))) 1)).toNat]? = some q := ⟨_, List.getElem?_eq_getElem (by omega)⟩; have hp741 := hp740 qd8_0 hqd8_0; clear hp740
    refine wp_seq (any_invE mixed [[], [], [], [1, 2], [3], [], [], [5, 6], [7], [0, 4, 8], [9], [10]] 12 (fun S a w1 => ∃ (g707 : Nat) (g720 : Nat) (ud92 : Value) (ud93 : Value) (ud94 : Value) (ud95 : Value) (ud96 : Value) (ud97 : Value) (ud98 : Value) (ud99 : Value) (ud100 : Value) (ud101 : Value) (ud102 : Value) (ud103 : Value) (rh0 : Res), Fz.le Z Z ∧ Fr 220 [] [⟨0, [], .slice ao1 u0.length cap2⟩, ⟨2, [], .int .i64 u2⟩, ⟨4, [], .func (.func fid3) #[] caps4⟩, ⟨14, [], .int .i64 x14v⟩, ⟨15, [], .int .i64 x15⟩, ⟨16, [], .int .i64 (w64 (bShr .u64 (wu64 (w64 (x14v + x15))) 1))⟩, ⟨92, [], ud92⟩, ⟨93, [], ud93⟩, ⟨94, [], ud94⟩, ⟨95, [], ud95⟩, ⟨96, [], ud96⟩, ⟨97, [], ud97⟩, ⟨98, [], ud98⟩, ⟨99, [], ud99⟩, ⟨100, [], ud100⟩, ⟨101, [], ud101⟩, ⟨102, [], ud102⟩, ⟨103, [], ud103⟩] a ∧ Mem B [] w0 Z0 (rh0 :: Rr) Z w1 ∧ (S 0 = true → ud92 = .func (.func fid3) #[] caps4) ∧ (S 1 = true → ud93 = .slice ao1 u0.length cap2) ∧ (S 2 = true → ud94 = .int .i64 u2) ∧ (S 3 = true → ud95 = .pointer (some ⟨g707, u2.toNat * 3, none⟩)) ∧ (S 4 = true → ud96 = .agg #[.int .i64 qd4_0.task, .int .i64 qd4_0.from_, .int .i64 qd4_0.asked]) ∧ (S 5 = true → ud97 = .slice ao1 u0.length cap2) ∧ (S 6 = true → ud98 = .int .i64 (w64 (bShr .u64 (wu64 (w64 (x14v + x15))) 1))) ∧ (S 7 = true → ud99 = .pointer (some ⟨g720, (w64 (bShr .u64 (wu64 (w64 (x14v + x15))) 1)).toNat * 3, none⟩)) ∧ (S 8 = true → ud100 = .agg #[.int .i64 qd8_0.task, .int .i64 qd8_0.from_, .int .i64 qd8_0.asked]) ∧ (S 9 = true → ud101 = .int .i64 (u4 qd4_0 qd8_0)) ∧ (S 10 = true → ud102 = .bool (decide ((u4 qd4_0 qd8_0) < 0))) ∧ (S 11 = true → ud103 = .bool (!(decide ((u4 qd4_0 qd8_0) < 0)))) ∧ (rh0 = .own tyJob 110 ao1 cap2 u0) ∧ (S 3 = true → ao1 = some ⟨g707, 0, none⟩) ∧ (S 7 = true → ao1 = some ⟨g720, 0, none⟩)) ?h0 ?hs ?hE)
    case h0 =>
     have hF743 := hF700.any 92
     have hF744 := hF743.any 93
     have hF745 := hF744.any 94
     have hF746 := hF745.any 95
     have hF747 := hF746.any 96
     have hF748 := hF747.any 97
     have hF749 := hF748.any 98
     have hF750 := hF749.any 99
     have hF751 := hF750.any 100
     have hF752 := hF751.any 101
     have hF753 := hF752.any 102
     have hF754 := hF753.any 103
     have hM755 := (hM674.perm lpr).drew
     exact ⟨0, 0, a698.tmps.getD 92 undef, a698.tmps.getD 93 undef, a698.tmps.getD 94 undef, a698.tmps.getD 95 undef, a698.tmps.getD 96 undef, a698.tmps.getD 97 undef, a698.tmps.getD 98 undef, a698.tmps.getD 99 undef, a698.tmps.getD 100 undef, a698.tmps.getD 101 undef, a698.tmps.getD 102 undef, a698.tmps.getD 103 undef, .own tyJob 110 ao1 cap2 u0, Fz.le.refl _, hF754.reg, hM755, ff, ff, ff, ff, ff, ff, ff, ff, ff, ff, ff, ff, rfl, ff, ff⟩
    case hs =>
     intro S hcl i o hil hi hSi hpre a w1 hI; refine Go.Sy.hid ?_; intro G hG; obtain ⟨g707, g720, ud92, ud93, ud94, ud95, ud96, ud97, ud98, ud99, ud100, ud101, ud102, ud103, rh0, hle742, hFx, hMx, cu92, cu93, cu94, cu95, cu96, cu97, cu98, cu99, cu100, cu101, cu102, cu103, cr0_0, cf0, hI⟩ := hI; have cf1 := hI; clear hI
     have hcase : i = 0 ∨ i = 1 ∨ i = 2 ∨ i = 3 ∨ i = 4 ∨ i = 5 ∨ i = 6 ∨ i = 7 ∨ i = 8 ∨ i = 9 ∨ i = 10 ∨ i = 11 := by clear hi; omega
     rcases hcase with rfl | rfl | rfl | rfl | rfl | rfl | rfl | rfl | rfl | rfl | rfl | rfl
     ·
      obtain rfl := oj hi
      have hx0 := hSi
      have hx9 := ngF hcl 9 0 hx0
      have hx10 := ngF hcl 10 9 hx9
      have hx11 := ngF hcl 11 10 hx10
      obtain rfl := cr0_0
      refine hG (any_step ?_); clear hG G; intro A J hJ
      have hle0 := Fz.le.trans hle0 hle742
      refine s1 hFx 92 (.func (.func fid3) #[] caps4) ?_; intro a756 hF757; clear hFx
      refine nl (qnI (hJ _ _ ?_)); clear hJ J
      exact ⟨g707, g720, .func (.func fid3) #[] caps4, ud93, ud94, ud95, ud96, ud97, ud98, ud99, ud100, ud101, ud102, ud103, .own tyJob 110 ao1 cap2 u0, hle742, hF757.reg, hMx.perm lpr, kf, cu93, cu94, cu95, cu96, cu97, cu98, cu99, cu100, (nt hx9), (nt hx10), (nt hx11), rfl, cf0, cf1⟩
     ·
      obtain rfl := oj hi
      have hx1 := hSi
      have hx3 := ngF hcl 3 1 hx1
      have hx4 := ngF hcl 4 3 hx3
      have hx9 := ngF hcl 9 4 hx4
      have hx10 := ngF hcl 10 9 hx9
      have hx11 := ngF hcl 11 10 hx10
      obtain rfl := cr0_0
      refine hG (any_step ?_); clear hG G; intro A J hJ
      have hle0 := Fz.le.trans hle0 hle742
      refine s1 hFx 93 (.slice ao1 u0.length cap2) ?_; intro a759 hF760; clear hFx
      refine nl (qnI (hJ _ _ ?_)); clear hJ J
      exact ⟨g707, g720, ud92, .slice ao1 u0.length cap2, ud94, ud95, ud96, ud97, ud98, ud99, ud100, ud101, ud102, ud103, .own tyJob 110 ao1 cap2 u0, hle742, hF760.reg, hMx.perm lpr, cu92, kf, cu94, (nt hx3), (nt hx4), cu97, cu98, cu99, cu100, (nt hx9), (nt hx10), (nt hx11), rfl, (nt hx3), cf1⟩
     ·
      obtain rfl := oj hi
      have hx2 := hSi
      have hx3 := ngF hcl 3 2 hx2
      have hx4 := ngF hcl 4 3 hx3
      have hx9 := ngF hcl 9 4 hx4
      have hx10 := ngF hcl 10 9 hx9
      have hx11 := ngF hcl 11 10 hx10
      obtain rfl := cr0_0
      refine hG (any_step ?_); clear hG G; intro A J hJ
      have hle0 := Fz.le.trans hle0 hle742
      refine s1 hFx 94 (.int .i64 u2) ?_; intro a762 hF763; clear hFx
      refine nl (qnI (hJ _ _ ?_)); clear hJ J
      exact ⟨g707, g720, ud92, ud93, .int .i64 u2, ud95, ud96, ud97, ud98, ud99, ud100, ud101, ud102, ud103, .own tyJob 110 ao1 cap2 u0, hle742, hF763.reg, hMx.perm lpr, cu92, cu93, kf, (nt hx3), (nt hx4), cu97, cu98, cu99, cu100, (nt hx9), (nt hx10), (nt hx11), rfl, (nt hx3), cf1⟩
     ·
      obtain rfl := oj hi
      have hx2 := hpre 2 (by kernel_rfl)
      have hx1 := hpre 1 (by kernel_rfl)
      have hx3 := hSi
      have hx4 := ngF hcl 4 3 hx3
      have hx9 := ngF hcl 9 4 hx4
      have hx10 := ngF hcl 10 9 hx9
      have hx11 := ngF hcl 11 10 hx10
      obtain rfl := cu93 hx1
      obtain rfl := cu94 hx2
      obtain rfl := cr0_0
      refine hG (any_step ?_); clear hG G; intro A J hJ
      have hle0 := Fz.le.trans hle0 hle742
      refine ixo hFx hMx 0 (T := tyJob) (xs := u0) u2 (by simpa only [List.length_set] using hcd3_0) (k := .i64) (e := 110) (bytes := 24) (nog rfl _) rfl (by kernel_rfl) rfl (by kernel_rfl) (by kernel_rfl) rfl (by kernel_rfl) ?_; intro g765 a767 hg766 hF768; clear hFx
      refine nl (qnI (hJ _ _ ?_)); clear hJ J
      exact ⟨g765, g720, ud92, .slice ao1 u0.length cap2, .int .i64 u2, .pointer (some ⟨g765, u2.toNat * 3, none⟩), ud96, ud97, ud98, ud99, ud100, ud101, ud102, ud103, .own tyJob 110 ao1 cap2 u0, hle742, hF768.reg, hMx.perm lpr, cu92, kf, kf, kf, (nt hx4), cu97, cu98, cu99, cu100, (nt hx9), (nt hx10), (nt hx11), rfl, (fun _ => hg766), cf1⟩
     ·
      obtain rfl := oj hi
      have hx3 := hpre 3 (by kernel_rfl)
      have hx2 := hcl 3 2 (by kernel_rfl) hx3
      have hx1 := hcl 3 1 (by kernel_rfl) hx3
      have hx4 := hSi
      have hx9 := ngF hcl 9 4 hx4
      have hx10 := ngF hcl 10 9 hx9
      have hx11 := ngF hcl 11 10 hx10
      obtain rfl := cu93 hx1
      obtain rfl := cu94 hx2
      obtain rfl := cu95 hx3
      obtain rfl := cr0_0
      refine hG (any_step ?_); clear hG G; intro A J hJ
      have hle0 := Fz.le.trans hle0 hle742
      have hs770 := cf0 hx3
      obtain ⟨cs771, hT772, hcl773⟩ := own_elx hMx 0 (T := tyJob) (xs := u0) rfl hs770 u2.toNat hqd4_0
      obtain rfl : cs771 = ([.int .i64 qd4_0.task, .int .i64 qd4_0.from_, .int .i64 qd4_0.asked] : List Value) := hT772
      refine lc2 hFx 96 3 [.int .i64 qd4_0.task, .int .i64 qd4_0.from_, .int .i64 qd4_0.asked] hcl773 rfl ?_; intro a774 hF775; clear hFx
      refine nl (qnI (hJ _ _ ?_)); clear hJ J
      exact ⟨g707, g720, ud92, .slice ao1 u0.length cap2, .int .i64 u2, .pointer (some ⟨g707, u2.toNat * 3, none⟩), .agg #[.int .i64 qd4_0.task, .int .i64 qd4_0.from_, .int .i64 qd4_0.asked], ud97, ud98, ud99, ud100, ud101, ud102, ud103, .own tyJob 110 ao1 cap2 u0, hle742, hF775.reg, hMx.perm lpr, cu92, kf, kf, kf, kf, cu97, cu98, cu99, cu100, (nt hx9), (nt hx10), (nt hx11), rfl, (fun _ => hs770), cf1⟩
     ·
      obtain rfl := oj hi
      have hx5 := hSi
      have hx7 := ngF hcl 7 5 hx5
      have hx8 := ngF hcl 8 7 hx7
      have hx9 := ngF hcl 9 8 hx8
      have hx10 := ngF hcl 10 9 hx9
      have hx11 := ngF hcl 11 10 hx10
      obtain rfl := cr0_0
      refine hG (any_step ?_); clear hG G; intro A J hJ
      have hle0 := Fz.le.trans hle0 hle742
      refine s1 hFx 97 (.slice ao1 u0.length cap2) ?_; intro a777 hF778; clear hFx
      refine nl (qnI (hJ _ _ ?_)); clear hJ J
      exact ⟨g707, g720, ud92, ud93, ud94, ud95, ud96, .slice ao1 u0.length cap2, ud98, ud99, ud100, ud101, ud102, ud103, .own tyJob 110 ao1 cap2 u0, hle742, hF778.reg, hMx.perm lpr, cu92, cu93, cu94, cu95, cu96, kf, cu98, (nt hx7), (nt hx8), (nt hx9), (nt hx10), (nt hx11), rfl, cf0, (nt hx7)⟩
     ·
      obtain rfl := oj hi
      have hx6 := hSi
      have hx7 := ngF hcl 7 6 hx6
      have hx8 := ngF hcl 8 7 hx7
      have hx9 := ngF hcl 9 8 hx8
      have hx10 := ngF hcl 10 9 hx9
      have hx11 := ngF hcl 11 10 hx10
      obtain rfl := cr0_0
      refine hG (any_step ?_); clear hG G; intro A J hJ
      have hle0 := Fz.le.trans hle0 hle742
      refine s1 hFx 98 (.int .i64 (w64 (bShr .u64 (wu64 (w64 (x14v + x15))) 1))) ?_; intro a780 hF781; clear hFx
      refine nl (qnI (hJ _ _ ?_)); clear hJ J
      exact ⟨g707, g720, ud92, ud93, ud94, ud95, ud96, ud97, .int .i64 (w64 (bShr .u64 (wu64 (w64 (x14v + x15))) 1)), ud99, ud100, ud101, ud102, ud103, .own tyJob 110 ao1 cap2 u0, hle742, hF781.reg, hMx.perm lpr, cu92, cu93, cu94, cu95, cu96, cu97, kf, (nt hx7), (nt hx8), (nt hx9), (nt hx10), (nt hx11), rfl, cf0, (nt hx7)⟩
     ·
      obtain rfl := oj hi
      have hx6 := hpre 6 (by kernel_rfl)
      have hx5 := hpre 5 (by kernel_rfl)
      have hx7 := hSi
      have hx8 := ngF hcl 8 7 hx7
      have hx9 := ngF hcl 9 8 hx8
      have hx10 := ngF hcl 10 9 hx9
      have hx11 := ngF hcl 11 10 hx10
      obtain rfl := cu97 hx5
      obtain rfl := cu98 hx6
      obtain rfl := cr0_0
      refine hG (any_step ?_); clear hG G; intro A J hJ
      have hle0 := Fz.le.trans hle0 hle742
      refine ixo hFx hMx 0 (T := tyJob) (xs := u0) (w64 (bShr .u64 (wu64 (w64 (x14v + x15))) 1)) (by simpa only [List.length_set] using hcd7_0) (k := .i64) (e := 110) (bytes := 24) (nog rfl _) rfl (by kernel_rfl) rfl (by kernel_rfl) (by kernel_rfl) rfl (by kernel_rfl) ?_; intro g783 a785 hg784 hF786; clear hFx
      refine nl (qnI (hJ _ _ ?_)); clear hJ J
      exact ⟨g707, g783, ud92, ud93, ud94, ud95, ud96, .slice ao1 u0.length cap2, .int .i64 (w64 (bShr .u64 (wu64 (w64 (x14v + x15))) 1)), .pointer (some ⟨g783, (w64 (bShr .u64 (wu64 (w64 (x14v + x15))) 1)).toNat * 3, none⟩), ud100, ud101, ud102, ud103, .own tyJob 110 ao1 cap2 u0, hle742, hF786.reg, hMx.perm lpr, cu92, cu93, cu94, cu95, cu96, kf, kf, kf, (nt hx8), (nt hx9), (nt hx10), (nt hx11), rfl, cf0, (fun _ => hg784)⟩
     ·
      obtain rfl := oj hi
      have hx7 := hpre 7 (by kernel_rfl)
      have hx6 := hcl 7 6 (by kernel_rfl) hx7
      have hx5 := hcl 7 5 (by kernel_rfl) hx7
      have hx8 := hSi
      have hx9 := ngF hcl 9 8 hx8
      have hx10 := ngF hcl 10 9 hx9
      have hx11 := ngF hcl 11 10 hx10
      obtain rfl := cu97 hx5
      obtain rfl := cu98 hx6
      obtain rfl := cu99 hx7
      obtain rfl := cr0_0
      refine hG (any_step ?_); clear hG G; intro A J hJ
      have hle0 := Fz.le.trans hle0 hle742
      have hs788 := cf1 hx7
      obtain ⟨cs789, hT790, hcl791⟩ := own_elx hMx 0 (T := tyJob) (xs := u0) rfl hs788 (w64 (bShr .u64 (wu64 (w64 (x14v + x15))) 1)).toNat hqd8_0
      obtain rfl : cs789 = ([.int .i64 qd8_0.task, .int .i64 qd8_0.from_, .int .i64 qd8_0.asked] : List Value) := hT790
      refine lc2 hFx 100 3 [.int .i64 qd8_0.task, .int .i64 qd8_0.from_, .int .i64 qd8_0.asked] hcl791 rfl ?_; intro a792 hF793; clear hFx
      refine nl (qnI (hJ _ _ ?_)); clear hJ J
      exact ⟨g707, g720, ud92, ud93, ud94, ud95, ud96, .slice ao1 u0.length cap2, .int .i64 (w64 (bShr .u64 (wu64 (w64 (x14v + x15))) 1)), .pointer (some ⟨g720, (w64 (bShr .u64 (wu64 (w64 (x14v + x15))) 1)).toNat * 3, none⟩), .agg #[.int .i64 qd8_0.task, .int .i64 qd8_0.from_, .int .i64 qd8_0.asked], ud101, ud102, ud103, .own tyJob 110 ao1 cap2 u0, hle742, hF793.reg, hMx.perm lpr, cu92, cu93, cu94, cu95, cu96, kf, kf, kf, kf, (nt hx9), (nt hx10), (nt hx11), rfl, cf0, (fun _ => hs788)⟩
     ·
      obtain rfl := oj hi
      have hx8 := hpre 8 (by kernel_rfl)
      have hx4 := hpre 4 (by kernel_rfl)
      have hx0 := hpre 0 (by kernel_rfl)
      have hx7 := hcl 8 7 (by kernel_rfl) hx8
      have hx3 := hcl 4 3 (by kernel_rfl) hx4
      have hx6 := hcl 7 6 (by kernel_rfl) hx7
      have hx5 := hcl 7 5 (by kernel_rfl) hx7
      have hx2 := hcl 3 2 (by kernel_rfl) hx3
      have hx1 := hcl 3 1 (by kernel_rfl) hx3
      have hx9 := hSi
      have hx10 := ngF hcl 10 9 hx9
      have hx11 := ngF hcl 11 10 hx10
      obtain rfl := cu92 hx0
      obtain rfl := cu93 hx1
      obtain rfl := cu94 hx2
      obtain rfl := cu95 hx3
      obtain rfl := cu96 hx4
      obtain rfl := cu97 hx5
      obtain rfl := cu98 hx6
      obtain rfl := cu99 hx7
      obtain rfl := cu100 hx8
      obtain rfl := cr0_0
      refine hG (any_step ?_); clear hG G; intro A J hJ
      have hle0 := Fz.le.trans hle0 hle742
      have hs795 := cf0 hx3
      have hs796 := cf1 hx7
      have hc801 := hf5 _ _ hle0 hMx.fz qd4_0 qd8_0
      refine fcl hFx hMx (.int .i64 (u4 qd4_0 qd8_0)) fid3 (#[.agg #[.int .i64 qd4_0.task, .int .i64 qd4_0.from_, .int .i64 qd4_0.asked], .agg #[.int .i64 qd8_0.task, .int .i64 qd8_0.from_, .int .i64 qd8_0.asked]] ++ caps4) (nog rfl _) rfl (by kernel_rfl) ?h1 ?h2 ?_
      case h1 => exact fv_run rfl (by kernel_rfl) (by kernel_rfl) hg6
      case h2 => exact hc801
      intro a797 wd799 hF798 hM800; clear hFx hMx
      refine nl (qnI (hJ _ _ ?_)); clear hJ J
      exact ⟨g707, g720, .func (.func fid3) #[] caps4, .slice ao1 u0.length cap2, .int .i64 u2, .pointer (some ⟨g707, u2.toNat * 3, none⟩), .agg #[.int .i64 qd4_0.task, .int .i64 qd4_0.from_, .int .i64 qd4_0.asked], .slice ao1 u0.length cap2, .int .i64 (w64 (bShr .u64 (wu64 (w64 (x14v + x15))) 1)), .pointer (some ⟨g720, (w64 (bShr .u64 (wu64 (w64 (x14v + x15))) 1)).toNat * 3, none⟩), .agg #[.int .i64 qd8_0.task, .int .i64 qd8_0.from_, .int .i64 qd8_0.asked], .int .i64 (u4 qd4_0 qd8_0), ud102, ud103, .own tyJob 110 ao1 cap2 u0, hle742, hF798.reg, hM800.perm lpr, kf, kf, kf, kf, kf, kf, kf, kf, kf, kf, (nt hx10), (nt hx11), rfl, (fun _ => hs795), (fun _ => hs796)⟩
     ·
      obtain rfl := oj hi
      have hx9 := hpre 9 (by kernel_rfl)
      have hx8 := hcl 9 8 (by kernel_rfl) hx9
      have hx4 := hcl 9 4 (by kernel_rfl) hx9
      have hx0 := hcl 9 0 (by kernel_rfl) hx9
      have hx7 := hcl 8 7 (by kernel_rfl) hx8
      have hx3 := hcl 4 3 (by kernel_rfl) hx4
      have hx6 := hcl 7 6 (by kernel_rfl) hx7
      have hx5 := hcl 7 5 (by kernel_rfl) hx7
      have hx2 := hcl 3 2 (by kernel_rfl) hx3
      have hx1 := hcl 3 1 (by kernel_rfl) hx3
      have hx10 := hSi
      have hx11 := ngF hcl 11 10 hx10
      obtain rfl := cu92 hx0
      obtain rfl := cu93 hx1
      obtain rfl := cu94 hx2
      obtain rfl := cu95 hx3
      obtain rfl := cu96 hx4
      obtain rfl := cu97 hx5
      obtain rfl := cu98 hx6
      obtain rfl := cu99 hx7
      obtain rfl := cu100 hx8
      obtain rfl := cu101 hx9
      obtain rfl := cr0_0
      refine hG (any_step ?_); clear hG G; intro A J hJ
      have hle0 := Fz.le.trans hle0 hle742
      have hs803 := cf0 hx3
      have hs804 := cf1 hx7
      refine s1 hFx 102 (.bool (decide ((u4 qd4_0 qd8_0) < 0))) ?_; intro a805 hF806; clear hFx
      refine nl (qnI (hJ _ _ ?_)); clear hJ J
      exact ⟨g707, g720, .func (.func fid3) #[] caps4, .slice ao1 u0.length cap2, .int .i64 u2, .pointer (some ⟨g707, u2.toNat * 3, none⟩), .agg #[.int .i64 qd4_0.task, .int .i64 qd4_0.from_, .int .i64 qd4_0.asked], .slice ao1 u0.length cap2, .int .i64 (w64 (bShr .u64 (wu64 (w64 (x14v + x15))) 1)), .pointer (some ⟨g720, (w64 (bShr .u64 (wu64 (w64 (x14v + x15))) 1)).toNat * 3, none⟩), .agg #[.int .i64 qd8_0.task, .int .i64 qd8_0.from_, .int .i64 qd8_0.asked], .int .i64 (u4 qd4_0 qd8_0), .bool (decide ((u4 qd4_0 qd8_0) < 0)), ud103, .own tyJob 110 ao1 cap2 u0, hle742, hF806.reg, hMx.perm lpr, kf, kf, kf, kf, kf, kf, kf, kf, kf, kf, kf, (nt hx11), rfl, (fun _ => hs803), (fun _ => hs804)⟩
     ·
      obtain rfl := oj hi
      have hx10 := hpre 10 (by kernel_rfl)
      have hx9 := hcl 10 9 (by kernel_rfl) hx10
      have hx8 := hcl 9 8 (by kernel_rfl) hx9
      have hx4 := hcl 9 4 (by kernel_rfl) hx9
      have hx0 := hcl 9 0 (by kernel_rfl) hx9
      have hx7 := hcl 8 7 (by kernel_rfl) hx8
      have hx3 := hcl 4 3 (by kernel_rfl) hx4
      have hx6 := hcl 7 6 (by kernel_rfl) hx7
      have hx5 := hcl 7 5 (by kernel_rfl) hx7
      have hx2 := hcl 3 2 (by kernel_rfl) hx3
      have hx1 := hcl 3 1 (by kernel_rfl) hx3
      have hx11 := hSi
      obtain rfl := cu92 hx0
      obtain rfl := cu93 hx1
      obtain rfl := cu94 hx2
      obtain rfl := cu95 hx3
      obtain rfl := cu96 hx4
      obtain rfl := cu97 hx5
      obtain rfl := cu98 hx6
      obtain rfl := cu99 hx7
      obtain rfl := cu100 hx8
      obtain rfl := cu101 hx9
      obtain rfl := cu102 hx10
      obtain rfl := cr0_0
      refine hG (any_step ?_); clear hG G; intro A J hJ
      have hle0 := Fz.le.trans hle0 hle742
      have hs808 := cf0 hx3
      have hs809 := cf1 hx7
      refine s1 hFx 103 (.bool (!(decide ((u4 qd4_0 qd8_0) < 0)))) ?_; intro a810 hF811; clear hFx
      refine nl (qnI (hJ _ _ ?_)); clear hJ J
      exact ⟨g707, g720, .func (.func fid3) #[] caps4, .slice ao1 u0.length cap2, .int .i64 u2, .pointer (some ⟨g707, u2.toNat * 3, none⟩), .agg #[.int .i64 qd4_0.task, .int .i64 qd4_0.from_, .int .i64 qd4_0.asked], .slice ao1 u0.length cap2, .int .i64 (w64 (bShr .u64 (wu64 (w64 (x14v + x15))) 1)), .pointer (some ⟨g720, (w64 (bShr .u64 (wu64 (w64 (x14v + x15))) 1)).toNat * 3, none⟩), .agg #[.int .i64 qd8_0.task, .int .i64 qd8_0.from_, .int .i64 qd8_0.asked], .int .i64 (u4 qd4_0 qd8_0), .bool (decide ((u4 qd4_0 qd8_0) < 0)), .bool (!(decide ((u4 qd4_0 qd8_0) < 0))), .own tyJob 110 ao1 cap2 u0, hle742, hF811.reg, hMx.perm lpr, kf, kf, kf, kf, kf, kf, kf, kf, kf, kf, kf, kf, rfl, (fun _ => hs808), (fun _ => hs809)⟩
    case hE =>
     intro S hS a813 wd814 hI; refine Go.Sy.hid ?_; intro G hG; obtain ⟨g707, g720, ud92, ud93, ud94, ud95, ud96, ud97, ud98, ud99, ud100, ud101, ud102, ud103, rh0, hle742, hFx, hMx, cu92, cu93, cu94, cu95, cu96, cu97, cu98, cu99, cu100, cu101, cu102, cu103, cr0_0, cf0, hI⟩ := hI; have cf1 := hI; clear hI; refine hG ?_; clear hG G
     obtain rfl := cu92 (hS 0 (by decide))
     obtain rfl := cu93 (hS 1 (by decide))
     obtain rfl := cu94 (hS 2 (by decide))
     obtain rfl := cu95 (hS 3 (by decide))
     obtain rfl := cu96 (hS 4 (by decide))
     obtain rfl := cu97 (hS 5 (by decide))
     obtain rfl := cu98 (hS 6 (by decide))
     obtain rfl := cu99 (hS 7 (by decide))
     obtain rfl := cu100 (hS 8 (by decide))
     obtain rfl := cu101 (hS 9 (by decide))
     obtain rfl := cu102 (hS 10 (by decide))
     obtain rfl := cu103 (hS 11 (by decide))
     obtain rfl := cr0_0
     have hle0 := Fz.le.trans hle0 hle742
     have hs815 := cf0 (hS 3 (by decide))
     have hs816 := cf1 (hS 7 (by decide))
     refine thn ?_
     refine cd hFx (t := !(decide ((u4 qd4_0 qd8_0) < 0))) (by kernel_rfl) (fun hb817 => ?_) (fun hb817 => ?_)
     ·
      have hp818 := hp741.1 hb817; clear hp741
      have hF819 : Fr 220 [] [⟨0, [], .slice ao1 u0.length cap2⟩, ⟨2, [], .int .i64 u2⟩, ⟨4, [], .func (.func fid3) #[] caps4⟩, ⟨15, [], .int .i64 x15⟩, ⟨16, [], .int .i64 (w64 (bShr .u64 (wu64 (w64 (x14v + x15))) 1))⟩] a813 := hFx.reg; clear hFx
      refine rgH ?_; intro hQ820Q hQ820
      refine s1 hF819 104 (.int .i64 (w64 (bShr .u64 (wu64 (w64 (x14v + x15))) 1))) ?_; intro a821 hF822; clear hF819
      refine s1 hF822 105 (.int .i64 (w64 ((w64 (bShr .u64 (wu64 (w64 (x14v + x15))) 1)) + 1))) ?_; intro a823 hF824; clear hF822
      refine s1 hF824 14 (.int .i64 (w64 ((w64 (bShr .u64 (wu64 (w64 (x14v + x15))) 1)) + 1))) ?_; intro a825 hF826; clear hF824
      refine nlH (hQ820 _ _ ?_); clear hQ820 hQ820Q
      refine ibn ?_
      refine rd ?_
      exact ⟨⟨w64 ((w64 (bShr .u64 (wu64 (w64 (x14v + x15))) 1)) + 1), x15⟩, hp818.1, hp818.2, (hF826.reg).anyβ _ (by kernel_rfl), hMx.keep (List.Sublist.cons_cons _ (List.Sublist.refl _))⟩
     ·
      have hp827 := hp741.2 hb817; clear hp741
      have hF828 : Fr 220 [] [⟨0, [], .slice ao1 u0.length cap2⟩, ⟨2, [], .int .i64 u2⟩, ⟨4, [], .func (.func fid3) #[] caps4⟩, ⟨14, [], .int .i64 x14v⟩, ⟨16, [], .int .i64 (w64 (bShr .u64 (wu64 (w64 (x14v + x15))) 1))⟩] a813 := hFx.reg; clear hFx
      refine rgH ?_; intro hQ829Q hQ829
      refine s1 hF828 106 (.int .i64 (w64 (bShr .u64 (wu64 (w64 (x14v + x15))) 1))) ?_; intro a830 hF831; clear hF828
      refine s1 hF831 15 (.int .i64 (w64 (bShr .u64 (wu64 (w64 (x14v + x15))) 1))) ?_; intro a832 hF833; clear hF831
      refine nlH (hQ829 _ _ ?_); clear hQ829 hQ829Q
      refine ibn ?_
      refine rd ?_
      exact ⟨⟨x14v, w64 (bShr .u64 (wu64 (w64 (x14v + x15))) 1)⟩, hp827.1, hp827.2, (hF833.reg).anyβ _ (by kernel_rfl), hMx.keep (List.Sublist.cons_cons _ (List.Sublist.refl _))⟩
   ·
    have hp834 := hp675.2 hb683; clear hp675
    refine wp_exit ?_
    refine thx ?_
    refine thx ?_
    refine ibx ?_
    refine rd ?_
    exact hJ447 x14v hp834 _ _ ((hF682.reg).anyβ _ (by kernel_rfl)) (hM674.keep (List.Sublist.cons_cons _ (List.Sublist.refl _)))
  ·
   have hp835 := hp418.2 hb428; clear hp418
   refine wp_skip ?_
   refine thn ?_
   refine sqH ?_; intro hQ836Q hQ836
   refine s1 hF427 129 (.int .i64 u1) ?_; intro a837 hF838; clear hF427
   refine s1 hF838 130 (.int .i64 u3) ?_; intro a839 hF840; clear hF838
   refine s1 hF840 131 (.int .i64 (w64 (u1 + u3))) ?_; intro a841 hF842; clear hF840
   refine s1 hF842 132 (.int .u64 (wu64 (w64 (u1 + u3)))) ?_; intro a843 hF844; clear hF842
   refine s1 hF844 133 (.int .u64 (bShr .u64 (wu64 (w64 (u1 + u3))) 1)) ?_; intro a845 hF846; clear hF844
   refine s1 hF846 134 (.int .i64 (w64 (bShr .u64 (wu64 (w64 (u1 + u3))) 1))) ?_; intro a847 hF848; clear hF846
   refine s1 hF848 18 (.int .i64 (w64 (bShr .u64 (wu64 (w64 (u1 + u3))) 1))) ?_; intro a849 hF850; clear hF848
   refine nlH (hQ836 _ _ ?_); clear hQ836 hQ836Q
   have hF851 : Fr 220 [] [⟨0, [], .slice ao1 u0.length cap2⟩, ⟨1, [], .int .i64 u1⟩, ⟨2, [], .int .i64 u2⟩, ⟨3, [], .int .i64 u3⟩, ⟨4, [], .func (.func fid3) #[] caps4⟩, ⟨18, [], .int .i64 (w64 (bShr .u64 (wu64 (w64 (u1 + u3))) 1))⟩] a849 := hF850.reg; clear hF850
   refine sqH ?_; intro hQ852Q hQ852
   refine s1 hF851 135 (.int .i64 (w64 (bShr .u64 (wu64 (w64 (u1 + u3))) 1))) ?_; intro a853 hF854; clear hF851
   refine s1 hF854 136 (.int .i64 u2) ?_; intro a855 hF856; clear hF854
   refine s1 hF856 137 (.int .i64 (w64 ((w64 (bShr .u64 (wu64 (w64 (u1 + u3))) 1)) + u2))) ?_; intro a857 hF858; clear hF856
   refine s1 hF858 19 (.int .i64 (w64 ((w64 (bShr .u64 (wu64 (w64 (u1 + u3))) 1)) + u2))) ?_; intro a859 hF860; clear hF858
   refine nlH (hQ852 _ _ ?_); clear hQ852 hQ852Q
   refine sqH ?_; intro hQ861Q hQ861
   refine s1 hF860 20 (.int .i64 0) ?_; intro a862 hF863; clear hF860
   refine s1 hF863 21 (.int .i64 0) ?_; intro a864 hF865; clear hF863
   refine nlH (hQ861 _ _ ?_); clear hQ861 hQ861Q
   refine wp_seq ?_
   refine sqH ?_; intro hQ866Q hQ866
   refine s1 hF865 138 (.int .i64 u2) ?_; intro a867 hF868; clear hF865
   refine s1 hF868 139 (.int .i64 (w64 (bShr .u64 (wu64 (w64 (u1 + u3))) 1))) ?_; intro a869 hF870; clear hF868
   refine s1 hF870 140 (.bool (decide (u2 > (w64 (bShr .u64 (wu64 (w64 (u1 + u3))) 1))))) ?_; intro a871 hF872; clear hF870
   refine nlH (hQ866 _ _ ?_); clear hQ866 hQ866Q
   refine cd hF872 (t := decide (u2 > (w64 (bShr .u64 (wu64 (w64 (u1 + u3))) 1)))) (by kernel_rfl) (fun hb873 => ?_) (fun hb873 => ?_)
   ·
    have hp874 := hp835.1 hb873; clear hp835
    refine sqH ?_; intro hQ875Q hQ875
    refine s1 hF872 141 (.int .i64 (w64 ((w64 (bShr .u64 (wu64 (w64 (u1 + u3))) 1)) + u2))) ?_; intro a876 hF877; clear hF872
    refine s1 hF877 142 (.int .i64 u3) ?_; intro a878 hF879; clear hF877
    refine s1 hF879 143 (.int .i64 (w64 ((w64 ((w64 (bShr .u64 (wu64 (w64 (u1 + u3))) 1)) + u2)) - u3))) ?_; intro a880 hF881; clear hF879
    refine s1 hF881 20 (.int .i64 (w64 ((w64 ((w64 (bShr .u64 (wu64 (w64 (u1 + u3))) 1)) + u2)) - u3))) ?_; intro a882 hF883; clear hF881
    refine nlH (hQ875 _ _ ?_); clear hQ875 hQ875Q
    refine rgH ?_; intro hQ884Q hQ884
    refine s1 hF883 144 (.int .i64 (w64 (bShr .u64 (wu64 (w64 (u1 + u3))) 1))) ?_; intro a885 hF886; clear hF883
    refine s1 hF886 21 (.int .i64 (w64 (bShr .u64 (wu64 (w64 (u1 + u3))) 1))) ?_; intro a887 hF888; clear hF886
    refine nlH (hQ884 _ _ ?_); clear hQ884 hQ884Q
    refine thn ?_
    have hF889 : Fr 220 [] [⟨0, [], .slice ao1 u0.length cap2⟩, ⟨1, [], .int .i64 u1⟩, ⟨2, [], .int .i64 u2⟩, ⟨3, [], .int .i64 u3⟩, ⟨4, [], .func (.func fid3) #[] caps4⟩, ⟨18, [], .int .i64 (w64 (bShr .u64 (wu64 (w64 (u1 + u3))) 1))⟩, ⟨19, [], .int .i64 (w64 ((w64 (bShr .u64 (wu64 (w64 (u1 + u3))) 1)) + u2))⟩, ⟨20, [], .int .i64 (w64 ((w64 ((w64 (bShr .u64 (wu64 (w64 (u1 + u3))) 1)) + u2)) - u3))⟩, ⟨21, [], .int .i64 (w64 (bShr .u64 (wu64 (w64 (u1 + u3))) 1))⟩] a887 := hF888.reg; clear hF888
    refine sqH ?_; intro hQ890Q hQ890
    refine s1 hF889 147 (.int .i64 (w64 ((w64 (bShr .u64 (wu64 (w64 (u1 + u3))) 1)) + u2))) ?_; intro a891 hF892; clear hF889
    refine s1 hF892 148 (.int .i64 (w64 ((w64 ((w64 (bShr .u64 (wu64 (w64 (u1 + u3))) 1)) + u2)) - 1))) ?_; intro a893 hF894; clear hF892
    refine s1 hF894 22 (.int .i64 (w64 ((w64 ((w64 (bShr .u64 (wu64 (w64 (u1 + u3))) 1)) + u2)) - 1))) ?_; intro a895 hF896; clear hF894
    refine nlH (hQ890 _ _ ?_); clear hQ890 hQ890Q
    have hF897 : Fr 220 [] [⟨0, [], .slice ao1 u0.length cap2⟩, ⟨1, [], .int .i64 u1⟩, ⟨2, [], .int .i64 u2⟩, ⟨3, [], .int .i64 u3⟩, ⟨4, [], .func (.func fid3) #[] caps4⟩, ⟨18, [], .int .i64 (w64 (bShr .u64 (wu64 (w64 (u1 + u3))) 1))⟩, ⟨19, [], .int .i64 (w64 ((w64 (bShr .u64 (wu64 (w64 (u1 + u3))) 1)) + u2))⟩, ⟨20, [], .int .i64 (w64 ((w64 ((w64 (bShr .u64 (wu64 (w64 (u1 + u3))) 1)) + u2)) - u3))⟩, ⟨21, [], .int .i64 (w64 (bShr .u64 (wu64 (w64 (u1 + u3))) 1))⟩, ⟨22, [], .int .i64 (w64 ((w64 ((w64 (bShr .u64 (wu64 (w64 (u1 + u3))) 1)) + u2)) - 1))⟩] a895 := hF896.reg; clear hF896
    have hF899 : Fr 220 [] [⟨0, [], .slice ao1 u0.length cap2⟩, ⟨1, [], .int .i64 u1⟩, ⟨2, [], .int .i64 u2⟩, ⟨3, [], .int .i64 u3⟩, ⟨4, [], .func (.func fid3) #[] caps4⟩, ⟨18, [], .int .i64 (w64 (bShr .u64 (wu64 (w64 (u1 + u3))) 1))⟩, ⟨19, [], .int .i64 (w64 ((w64 (bShr .u64 (wu64 (w64 (u1 + u3))) 1)) + u2))⟩, ⟨20, [], .int .i64 (w64 ((w64 ((w64 (bShr .u64 (wu64 (w64 (u1 + u3))) 1)) + u2)) - u3))⟩, ⟨21, [], .int .i64 (w64 (bShr .u64 (wu64 (w64 (u1 + u3))) 1))⟩, ⟨22, [], .int .i64 (w64 ((w64 ((w64 (bShr .u64 (wu64 (w64 (u1 + u3))) 1)) + u2)) - 1))⟩] a895 := hF897.reg; clear hF897
    obtain ⟨inv898, hp900, hp901⟩ := hp874
    refine wp_seq_k fun KJ902 hKJ903 => ?_
    have hJ904 : ∀ (x20 : Int), inv898 x20 → ∀ a1 w1, Fr 220 [] [⟨0, [], .slice ao1 u0.length cap2⟩, ⟨1, [], .int .i64 u1⟩, ⟨2, [], .int .i64 u2⟩, ⟨3, [], .int .i64 u3⟩, ⟨4, [], .func (.func fid3) #[] caps4⟩, ⟨18, [], .int .i64 (w64 (bShr .u64 (wu64 (w64 (u1 + u3))) 1))⟩, ⟨19, [], .int .i64 (w64 ((w64 (bShr .u64 (wu64 (w64 (u1 + u3))) 1)) + u2))⟩, ⟨20, [], .int .i64 x20⟩] a1 → Mem B [] w0 Z0 ((.own tyJob 110 ao1 cap2 u0) :: Rr) Z w1 → KJ902 a1 w1 := by
     rintro x20 hI909 a905 wd906 hF907 hM908; clear hF899 hM0
     refine hKJ903 _ _ ?_; clear hKJ903
     have hp910 := hp901 x20 hI909
     refine sqH ?_; intro hQ911Q hQ911
     refine s1 hF907 175 (.int .i64 (w64 ((w64 (bShr .u64 (wu64 (w64 (u1 + u3))) 1)) + u2))) ?_; intro a912 hF913; clear hF907
     refine s1 hF913 176 (.int .i64 x20) ?_; intro a914 hF915; clear hF913
     refine s1 hF915 177 (.int .i64 (w64 ((w64 ((w64 (bShr .u64 (wu64 (w64 (u1 + u3))) 1)) + u2)) - x20))) ?_; intro a916 hF917; clear hF915
     refine s1 hF917 24 (.int .i64 (w64 ((w64 ((w64 (bShr .u64 (wu64 (w64 (u1 + u3))) 1)) + u2)) - x20))) ?_; intro a918 hF919; clear hF917
     refine nlH (hQ911 _ _ ?_); clear hQ911 hQ911Q
     refine wp_seq ?_
     refine sqH ?_; intro hQ920Q hQ920
     refine s1 hF919 178 (.int .i64 x20) ?_; intro a921 hF922; clear hF919
     refine s1 hF922 179 (.int .i64 u2) ?_; intro a923 hF924; clear hF922
     refine s1 hF924 180 (.bool (decide (x20 < u2))) ?_; intro a925 hF926; clear hF924
     refine s1 hF926 181 (.bool (decide (x20 < u2))) ?_; intro a927 hF928; clear hF926
     have hF929 := hF928.atom ((decide (x20 < u2)) == true) (by kernel_rfl); clear hF928
     refine gp hF929 182 0 [] (decide (x20 < u2)) (.int .i64 u2) rfl rfl ?_; intro a930 hF931; clear hF929
     refine gp hF931 183 0 [] (decide (x20 < u2)) (.int .i64 (w64 ((w64 ((w64 (bShr .u64 (wu64 (w64 (u1 + u3))) 1)) + u2)) - x20))) rfl rfl ?_; intro a932 hF933; clear hF931
     refine gp hF933 184 0 [] (decide (x20 < u2)) (.bool (decide (u2 < (w64 ((w64 ((w64 (bShr .u64 (wu64 (w64 (u1 + u3))) 1)) + u2)) - x20))))) rfl rfl ?_; intro a934 hF935; clear hF933
     refine st hF935 (.bool ((decide (x20 < u2)) && (decide (u2 < (w64 ((w64 ((w64 (bShr .u64 (wu64 (w64 (u1 + u3))) 1)) + u2)) - x20)))))) (nog rfl _) rfl (by kernel_rfl) (pk_and hF935 (g := []) (m := 0) (b := decide (x20 < u2)) (v := decide (u2 < (w64 ((w64 ((w64 (bShr .u64 (wu64 (w64 (u1 + u3))) 1)) + u2)) - x20)))) rfl (by kernel_rfl) (by kernel_rfl) (by kernel_rfl) rfl) ?_; intro a936 hF937; clear hF935
     refine nlH (hQ920 _ _ ?_); clear hQ920 hQ920Q
     refine cd hF937 (t := (decide (x20 < u2)) && (decide (u2 < (w64 ((w64 ((w64 (bShr .u64 (wu64 (w64 (u1 + u3))) 1)) + u2)) - x20))))) (by kernel_rfl) (fun hb938 => ?_) (fun hb938 => ?_)
     ·
      have hp939 := hp910.1 hb938; clear hp910
      have hF940 : Fr 220 [] [⟨0, [], .slice ao1 u0.length cap2⟩, ⟨1, [], .int .i64 u1⟩, ⟨2, [], .int .i64 u2⟩, ⟨3, [], .int .i64 u3⟩, ⟨4, [], .func (.func fid3) #[] caps4⟩, ⟨18, [], .int .i64 (w64 (bShr .u64 (wu64 (w64 (u1 + u3))) 1))⟩, ⟨20, [], .int .i64 x20⟩, ⟨24, [], .int .i64 (w64 ((w64 ((w64 (bShr .u64 (wu64 (w64 (u1 + u3))) 1)) + u2)) - x20))⟩] a936 := hF937.reg; clear hF937
      refine rgH ?_; intro hQ941Q hQ941
      refine s1 hF940 186 (.slice ao1 u0.length cap2) ?_; intro a942 hF943; clear hF940
      refine s1 hF943 187 (.int .i64 x20) ?_; intro a944 hF945; clear hF943
      refine s1 hF945 188 (.int .i64 u2) ?_; intro a946 hF947; clear hF945
      refine s1 hF947 189 (.int .i64 (w64 ((w64 ((w64 (bShr .u64 (wu64 (w64 (u1 + u3))) 1)) + u2)) - x20))) ?_; intro a948 hF949; clear hF947
      refine s1 hF949 190 (.func (.func fid3) #[] caps4) ?_; intro a950 hF951; clear hF949
      refine cl hF951 126 #[.slice ao1 u0.length cap2, .int .i64 x20, .int .i64 u2, .int .i64 (w64 ((w64 ((w64 (bShr .u64 (wu64 (w64 (u1 + u3))) 1)) + u2)) - x20)), .func (.func fid3) #[] caps4] (nog rfl _) rfl (by kernel_rfl) (by kernel_rfl) ?_
      refine (srot_walk u0 x20 u2 (w64 ((w64 ((w64 (bShr .u64 (wu64 (w64 (u1 + u3))) 1)) + u2)) - x20)) u4 ao1 cap2 fid3 caps4 _ _ _ _ _ _ (fun Z1 w1 h1 h2 => hf5 Z1 w1 (hle0.trans h1) h2) hg6 hM908 hM908.fz hp939).mono ?_; rintro _ wd953 ⟨r952, Z959, rfl, hp957, hle960, hl958, hm⟩; refine ⟨_, rfl, ?_⟩; intro a954 hF955; have hM956 := hm; clear hm hM908 hF951
      replace hle0 := Fz.le.trans hle0 hle960
      have hF961 : Fr 220 [] [⟨0, [], .slice ao1 r952.length cap2⟩, ⟨1, [], .int .i64 u1⟩, ⟨2, [], .int .i64 u2⟩, ⟨3, [], .int .i64 u3⟩, ⟨4, [], .func (.func fid3) #[] caps4⟩, ⟨18, [], .int .i64 (w64 (bShr .u64 (wu64 (w64 (u1 + u3))) 1))⟩, ⟨20, [], .int .i64 x20⟩, ⟨24, [], .int .i64 (w64 ((w64 ((w64 (bShr .u64 (wu64 (w64 (u1 + u3))) 1)) + u2)) - x20))⟩, ⟨186, [], .slice ao1 r952.length cap2⟩, ⟨187, [], .int .i64 x20⟩, ⟨188, [], .int .i64 u2⟩, ⟨189, [], .int .i64 (w64 ((w64 ((w64 (bShr .u64 (wu64 (w64 (u1 + u3))) 1)) + u2)) - x20))⟩, ⟨190, [], .func (.func fid3) #[] caps4⟩, ⟨191, [], .tuple #[]⟩] a954 := by rw [hl958]; exact hF955.reg
      clear hF955
      have hM962 : Mem B [] w0 Z0 ((.own tyJob 110 ao1 cap2 r952) :: Rr) Z959 wd953 := hM956; clear hM956
      have hp963 := hp957 (hM962.ownSmall 0 rfl); clear hp957
      refine nlH (hQ941 _ _ ?_); clear hQ941 hQ941Q
      refine thn ?_
      refine wp_seq ?_
      refine sqH ?_; intro hQ964Q hQ964
      refine s1 hF961 192 (.int .i64 u1) ?_; intro a965 hF966; clear hF961
      refine s1 hF966 193 (.int .i64 x20) ?_; intro a967 hF968; clear hF966
      refine s1 hF968 194 (.bool (decide (u1 < x20))) ?_; intro a969 hF970; clear hF968
      refine s1 hF970 195 (.bool (decide (u1 < x20))) ?_; intro a971 hF972; clear hF970
      have hF973 := hF972.atom ((decide (u1 < x20)) == true) (by kernel_rfl); clear hF972
      refine gp hF973 196 0 [] (decide (u1 < x20)) (.int .i64 x20) rfl rfl ?_; intro a974 hF975; clear hF973
      refine gp hF975 197 0 [] (decide (u1 < x20)) (.int .i64 (w64 (bShr .u64 (wu64 (w64 (u1 + u3))) 1))) rfl rfl ?_; intro a976 hF977; clear hF975
      refine gp hF977 198 0 [] (decide (u1 < x20)) (.bool (decide (x20 < (w64 (bShr .u64 (wu64 (w64 (u1 + u3))) 1))))) rfl rfl ?_; intro a978 hF979; clear hF977
      refine st hF979 (.bool ((decide (u1 < x20)) && (decide (x20 < (w64 (bShr .u64 (wu64 (w64 (u1 + u3))) 1)))))) (nog rfl _) rfl (by kernel_rfl) (pk_and hF979 (g := []) (m := 0) (b := decide (u1 < x20)) (v := decide (x20 < (w64 (bShr .u64 (wu64 (w64 (u1 + u3))) 1)))) rfl (by kernel_rfl) (by kernel_rfl) (by kernel_rfl) rfl) ?_; intro a980 hF981; clear hF979
      refine nlH (hQ964 _ _ ?_); clear hQ964 hQ964Q
      refine cd hF981 (t := (decide (u1 < x20)) && (decide (x20 < (w64 (bShr .u64 (wu64 (w64 (u1 + u3))) 1))))) (by kernel_rfl) (fun hb982 => ?_) (fun hb982 => ?_)
      ·
       have hp983 := hp963.1 hb982; clear hp963
       have hF984 : Fr 220 [] [⟨0, [], .slice ao1 r952.length cap2⟩, ⟨1, [], .int .i64 u1⟩, ⟨3, [], .int .i64 u3⟩, ⟨4, [], .func (.func fid3) #[] caps4⟩, ⟨18, [], .int .i64 (w64 (bShr .u64 (wu64 (w64 (u1 + u3))) 1))⟩, ⟨20, [], .int .i64 x20⟩, ⟨24, [], .int .i64 (w64 ((w64 ((w64 (bShr .u64 (wu64 (w64 (u1 + u3))) 1)) + u2)) - x20))⟩] a980 := hF981.reg; clear hF981
       refine rgH ?_; intro hQ985Q hQ985
       refine s1 hF984 200 (.slice ao1 r952.length cap2) ?_; intro a986 hF987; clear hF984
       refine s1 hF987 201 (.int .i64 u1) ?_; intro a988 hF989; clear hF987
       refine s1 hF989 202 (.int .i64 x20) ?_; intro a990 hF991; clear hF989
       refine s1 hF991 203 (.int .i64 (w64 (bShr .u64 (wu64 (w64 (u1 + u3))) 1))) ?_; intro a992 hF993; clear hF991
       refine s1 hF993 204 (.func (.func fid3) #[] caps4) ?_; intro a994 hF995; clear hF993
       have hc996 := hp983.1; have hp997 := hp983.2; clear hp983
       refine cl hF995 112 #[.slice ao1 r952.length cap2, .int .i64 u1, .int .i64 x20, .int .i64 (w64 (bShr .u64 (wu64 (w64 (u1 + u3))) 1)), .func (.func fid3) #[] caps4] (nog rfl _) rfl (by kernel_rfl) (by kernel_rfl) ?_
       refine (ih r952 u1 x20 (w64 (bShr .u64 (wu64 (w64 (u1 + u3))) 1)) u4 hc996 ao1 cap2 fid3 caps4 _ _ _ _ _ _ (fun Z1 w1 h1 h2 => hf5 Z1 w1 (hle0.trans h1) h2) hg6 hM962 hM962.fz).mono ?_; rintro _ wd998 ⟨Z1003, rfl, hle1004, hl1002, hm⟩; refine ⟨_, rfl, ?_⟩; intro a999 hF1000; have hM1001 := hm; clear hm hM962 hF995
       replace hle0 := Fz.le.trans hle0 hle1004
       have hF1005 : Fr 220 [] [⟨0, [], .slice ao1 (segC2 r952 u1 x20 (w64 (bShr .u64 (wu64 (w64 (u1 + u3))) 1)) u4).length cap2⟩, ⟨1, [], .int .i64 u1⟩, ⟨3, [], .int .i64 u3⟩, ⟨4, [], .func (.func fid3) #[] caps4⟩, ⟨18, [], .int .i64 (w64 (bShr .u64 (wu64 (w64 (u1 + u3))) 1))⟩, ⟨20, [], .int .i64 x20⟩, ⟨24, [], .int .i64 (w64 ((w64 ((w64 (bShr .u64 (wu64 (w64 (u1 + u3))) 1)) + u2)) - x20))⟩, ⟨200, [], .slice ao1 (segC2 r952 u1 x20 (w64 (bShr .u64 (wu64 (w64 (u1 + u3))) 1)) u4).length cap2⟩, ⟨201, [], .int .i64 u1⟩, ⟨202, [], .int .i64 x20⟩, ⟨203, [], .int .i64 (w64 (bShr .u64 (wu64 (w64 (u1 + u3))) 1))⟩, ⟨204, [], .func (.func fid3) #[] caps4⟩, ⟨205, [], .tuple #[]⟩] a999 := by rw [hl1002]; exact hF1000.reg
       clear hF1000
       have hM1006 : Mem B [] w0 Z0 ((.own tyJob 110 ao1 cap2 (segC2 r952 u1 x20 (w64 (bShr .u64 (wu64 (w64 (u1 + u3))) 1)) u4)) :: Rr) Z1003 wd998 := hM1001; clear hM1001
       have hp1007 := hp997 (hM1006.ownSmall 0 rfl); clear hp997
       refine nlH (hQ985 _ _ ?_); clear hQ985 hQ985Q
       refine thn ?_
       refine sqH ?_; intro hQ1008Q hQ1008
       refine s1 hF1005 206 (.int .i64 (w64 (bShr .u64 (wu64 (w64 (u1 + u3))) 1))) ?_; intro a1009 hF1010; clear hF1005
       refine s1 hF1010 207 (.int .i64 (w64 ((w64 ((w64 (bShr .u64 (wu64 (w64 (u1 + u3))) 1)) + u2)) - x20))) ?_; intro a1011 hF1012; clear hF1010
       refine s1 hF1012 208 (.bool (decide ((w64 (bShr .u64 (wu64 (w64 (u1 + u3))) 1)) < (w64 ((w64 ((w64 (bShr .u64 (wu64 (w64 (u1 + u3))) 1)) + u2)) - x20))))) ?_; intro a1013 hF1014; clear hF1012
       refine s1 hF1014 209 (.bool (decide ((w64 (bShr .u64 (wu64 (w64 (u1 + u3))) 1)) < (w64 ((w64 ((w64 (bShr .u64 (wu64 (w64 (u1 + u3))) 1)) + u2)) - x20))))) ?_; intro a1015 hF1016; clear hF1014
       have hF1017 := hF1016.atom ((decide ((w64 (bShr .u64 (wu64 (w64 (u1 + u3))) 1)) < (w64 ((w64 ((w64 (bShr .u64 (wu64 (w64 (u1 + u3))) 1)) + u2)) - x20)))) == true) (by kernel_rfl); clear hF1016
       refine gp hF1017 210 0 [] (decide ((w64 (bShr .u64 (wu64 (w64 (u1 + u3))) 1)) < (w64 ((w64 ((w64 (bShr .u64 (wu64 (w64 (u1 + u3))) 1)) + u2)) - x20)))) (.int .i64 (w64 ((w64 ((w64 (bShr .u64 (wu64 (w64 (u1 + u3))) 1)) + u2)) - x20))) rfl rfl ?_; intro a1018 hF1019; clear hF1017
       refine gp hF1019 211 0 [] (decide ((w64 (bShr .u64 (wu64 (w64 (u1 + u3))) 1)) < (w64 ((w64 ((w64 (bShr .u64 (wu64 (w64 (u1 + u3))) 1)) + u2)) - x20)))) (.int .i64 u3) rfl rfl ?_; intro a1020 hF1021; clear hF1019
       refine gp hF1021 212 0 [] (decide ((w64 (bShr .u64 (wu64 (w64 (u1 + u3))) 1)) < (w64 ((w64 ((w64 (bShr .u64 (wu64 (w64 (u1 + u3))) 1)) + u2)) - x20)))) (.bool (decide ((w64 ((w64 ((w64 (bShr .u64 (wu64 (w64 (u1 + u3))) 1)) + u2)) - x20)) < u3))) rfl rfl ?_; intro a1022 hF1023; clear hF1021
       refine st hF1023 (.bool ((decide ((w64 (bShr .u64 (wu64 (w64 (u1 + u3))) 1)) < (w64 ((w64 ((w64 (bShr .u64 (wu64 (w64 (u1 + u3))) 1)) + u2)) - x20)))) && (decide ((w64 ((w64 ((w64 (bShr .u64 (wu64 (w64 (u1 + u3))) 1)) + u2)) - x20)) < u3)))) (nog rfl _) rfl (by kernel_rfl) (pk_and hF1023 (g := []) (m := 0) (b := decide ((w64 (bShr .u64 (wu64 (w64 (u1 + u3))) 1)) < (w64 ((w64 ((w64 (bShr .u64 (wu64 (w64 (u1 + u3))) 1)) + u2)) - x20)))) (v := decide ((w64 ((w64 ((w64 (bShr .u64 (wu64 (w64 (u1 + u3))) 1)) + u2)) - x20)) < u3)) rfl (by kernel_rfl) (by kernel_rfl) (by kernel_rfl) rfl) ?_; intro a1024 hF1025; clear hF1023
       refine nlH (hQ1008 _ _ ?_); clear hQ1008 hQ1008Q
       refine cd hF1025 (t := (decide ((w64 (bShr .u64 (wu64 (w64 (u1 + u3))) 1)) < (w64 ((w64 ((w64 (bShr .u64 (wu64 (w64 (u1 + u3))) 1)) + u2)) - x20)))) && (decide ((w64 ((w64 ((w64 (bShr .u64 (wu64 (w64 (u1 + u3))) 1)) + u2)) - x20)) < u3))) (by kernel_rfl) (fun hb1026 => ?_) (fun hb1026 => ?_)
       ·
        have hp1027 := hp1007.1 hb1026; clear hp1007
        have hF1028 : Fr 220 [] [⟨0, [], .slice ao1 (segC2 r952 u1 x20 (w64 (bShr .u64 (wu64 (w64 (u1 + u3))) 1)) u4).length cap2⟩, ⟨3, [], .int .i64 u3⟩, ⟨4, [], .func (.func fid3) #[] caps4⟩, ⟨18, [], .int .i64 (w64 (bShr .u64 (wu64 (w64 (u1 + u3))) 1))⟩, ⟨24, [], .int .i64 (w64 ((w64 ((w64 (bShr .u64 (wu64 (w64 (u1 + u3))) 1)) + u2)) - x20))⟩] a1024 := hF1025.reg; clear hF1025
        refine rgH ?_; intro hQ1029Q hQ1029
        refine s1 hF1028 214 (.slice ao1 (segC2 r952 u1 x20 (w64 (bShr .u64 (wu64 (w64 (u1 + u3))) 1)) u4).length cap2) ?_; intro a1030 hF1031; clear hF1028
        refine s1 hF1031 215 (.int .i64 (w64 (bShr .u64 (wu64 (w64 (u1 + u3))) 1))) ?_; intro a1032 hF1033; clear hF1031
        refine s1 hF1033 216 (.int .i64 (w64 ((w64 ((w64 (bShr .u64 (wu64 (w64 (u1 + u3))) 1)) + u2)) - x20))) ?_; intro a1034 hF1035; clear hF1033
        refine s1 hF1035 217 (.int .i64 u3) ?_; intro a1036 hF1037; clear hF1035
        refine s1 hF1037 218 (.func (.func fid3) #[] caps4) ?_; intro a1038 hF1039; clear hF1037
        have hc1040 := hp1027.1; have hp1041 := hp1027.2; clear hp1027
        refine cl hF1039 112 #[.slice ao1 (segC2 r952 u1 x20 (w64 (bShr .u64 (wu64 (w64 (u1 + u3))) 1)) u4).length cap2, .int .i64 (w64 (bShr .u64 (wu64 (w64 (u1 + u3))) 1)), .int .i64 (w64 ((w64 ((w64 (bShr .u64 (wu64 (w64 (u1 + u3))) 1)) + u2)) - x20)), .int .i64 u3, .func (.func fid3) #[] caps4] (nog rfl _) rfl (by kernel_rfl) (by kernel_rfl) ?_
        refine (ih (segC2 r952 u1 x20 (w64 (bShr .u64 (wu64 (w64 (u1 + u3))) 1)) u4) (w64 (bShr .u64 (wu64 (w64 (u1 + u3))) 1)) (w64 ((w64 ((w64 (bShr .u64 (wu64 (w64 (u1 + u3))) 1)) + u2)) - x20)) u3 u4 hc1040 ao1 cap2 fid3 caps4 _ _ _ _ _ _ (fun Z1 w1 h1 h2 => hf5 Z1 w1 (hle0.trans h1) h2) hg6 hM1006 hM1006.fz).mono ?_; rintro _ wd1042 ⟨Z1047, rfl, hle1048, hl1046, hm⟩; refine ⟨_, rfl, ?_⟩; intro a1043 hF1044; have hM1045 := hm; clear hm hM1006 hF1039
        replace hle0 := Fz.le.trans hle0 hle1048
        have hF1049 : Fr 220 [] [⟨0, [], .slice ao1 (segC2 (segC2 r952 u1 x20 (w64 (bShr .u64 (wu64 (w64 (u1 + u3))) 1)) u4) (w64 (bShr .u64 (wu64 (w64 (u1 + u3))) 1)) (w64 ((w64 ((w64 (bShr .u64 (wu64 (w64 (u1 + u3))) 1)) + u2)) - x20)) u3 u4).length cap2⟩, ⟨3, [], .int .i64 u3⟩, ⟨4, [], .func (.func fid3) #[] caps4⟩, ⟨18, [], .int .i64 (w64 (bShr .u64 (wu64 (w64 (u1 + u3))) 1))⟩, ⟨24, [], .int .i64 (w64 ((w64 ((w64 (bShr .u64 (wu64 (w64 (u1 + u3))) 1)) + u2)) - x20))⟩, ⟨214, [], .slice ao1 (segC2 (segC2 r952 u1 x20 (w64 (bShr .u64 (wu64 (w64 (u1 + u3))) 1)) u4) (w64 (bShr .u64 (wu64 (w64 (u1 + u3))) 1)) (w64 ((w64 ((w64 (bShr .u64 (wu64 (w64 (u1 + u3))) 1)) + u2)) - x20)) u3 u4).length cap2⟩, ⟨215, [], .int .i64 (w64 (bShr .u64 (wu64 (w64 (u1 + u3))) 1))⟩, ⟨216, [], .int .i64 (w64 ((w64 ((w64 (bShr .u64 (wu64 (w64 (u1 + u3))) 1)) + u2)) - x20))⟩, ⟨217, [], .int .i64 u3⟩, ⟨218, [], .func (.func fid3) #[] caps4⟩, ⟨219, [], .tuple #[]⟩] a1043 := by rw [hl1046]; exact hF1044.reg
        clear hF1044
        have hM1050 : Mem B [] w0 Z0 ((.own tyJob 110 ao1 cap2 (segC2 (segC2 r952 u1 x20 (w64 (bShr .u64 (wu64 (w64 (u1 + u3))) 1)) u4) (w64 (bShr .u64 (wu64 (w64 (u1 + u3))) 1)) (w64 ((w64 ((w64 (bShr .u64 (wu64 (w64 (u1 + u3))) 1)) + u2)) - x20)) u3 u4)) :: Rr) Z1047 wd1042 := hM1045; clear hM1045
        have hp1051 := hp1041 (hM1050.ownSmall 0 rfl); clear hp1041
        refine nlH (hQ1029 _ _ ?_); clear hQ1029 hQ1029Q
        have hc1052 := hp1051.1; have hp1053 := hp1051.2; clear hp1051
        refine rN (fn := Try.f112) (v := .tuple #[]) hF1049 (re0 hF1049 (fn := Try.f112) rfl) ?_
        exact ⟨(segC2 (segC2 r952 u1 x20 (w64 (bShr .u64 (wu64 (w64 (u1 + u3))) 1)) u4) (w64 (bShr .u64 (wu64 (w64 (u1 + u3))) 1)) (w64 ((w64 ((w64 (bShr .u64 (wu64 (w64 (u1 + u3))) 1)) + u2)) - x20)) u3 u4), Z1047, rfl, hp1053, hle0, hc1052, hM1050.keep (List.Sublist.cons_cons _ (List.Sublist.refl _))⟩
       ·
        have hp1054 := hp1007.2 hb1026; clear hp1007
        refine wp_skip ?_
        have hc1055 := hp1054.1; have hp1056 := hp1054.2; clear hp1054
        refine rN (fn := Try.f112) (v := .tuple #[]) hF1025 (re0 hF1025 (fn := Try.f112) rfl) ?_
        exact ⟨(segC2 r952 u1 x20 (w64 (bShr .u64 (wu64 (w64 (u1 + u3))) 1)) u4), Z1003, rfl, hp1056, hle0, hc1055, hM1006.keep (List.Sublist.cons_cons _ (List.Sublist.refl _))⟩
      ·
       have hp1057 := hp963.2 hb982; clear hp963
       refine wp_skip ?_
       refine thn ?_
       have hF1058 : Fr 220 [] [⟨0, [], .slice ao1 r952.length cap2⟩, ⟨3, [], .int .i64 u3⟩, ⟨4, [], .func (.func fid3) #[] caps4⟩, ⟨18, [], .int .i64 (w64 (bShr .u64 (wu64 (w64 (u1 + u3))) 1))⟩, ⟨24, [], .int .i64 (w64 ((w64 ((w64 (bShr .u64 (wu64 (w64 (u1 + u3))) 1)) + u2)) - x20))⟩] a980 := hF981.reg; clear hF981
       refine sqH ?_; intro hQ1059Q hQ1059
       refine s1 hF1058 206 (.int .i64 (w64 (bShr .u64 (wu64 (w64 (u1 + u3))) 1))) ?_; intro a1060 hF1061; clear hF1058
       refine s1 hF1061 207 (.int .i64 (w64 ((w64 ((w64 (bShr .u64 (wu64 (w64 (u1 + u3))) 1)) + u2)) - x20))) ?_; intro a1062 hF1063; clear hF1061
       refine s1 hF1063 208 (.bool (decide ((w64 (bShr .u64 (wu64 (w64 (u1 + u3))) 1)) < (w64 ((w64 ((w64 (bShr .u64 (wu64 (w64 (u1 + u3))) 1)) + u2)) - x20))))) ?_; intro a1064 hF1065; clear hF1063
       refine s1 hF1065 209 (.bool (decide ((w64 (bShr .u64 (wu64 (w64 (u1 + u3))) 1)) < (w64 ((w64 ((w64 (bShr .u64 (wu64 (w64 (u1 + u3))) 1)) + u2)) - x20))))) ?_; intro a1066 hF1067; clear hF1065
       have hF1068 := hF1067.atom ((decide ((w64 (bShr .u64 (wu64 (w64 (u1 + u3))) 1)) < (w64 ((w64 ((w64 (bShr .u64 (wu64 (w64 (u1 + u3))) 1)) + u2)) - x20)))) == true) (by kernel_rfl); clear hF1067
       refine gp hF1068 210 0 [] (decide ((w64 (bShr .u64 (wu64 (w64 (u1 + u3))) 1)) < (w64 ((w64 ((w64 (bShr .u64 (wu64 (w64 (u1 + u3))) 1)) + u2)) - x20)))) (.int .i64 (w64 ((w64 ((w64 (bShr .u64 (wu64 (w64 (u1 + u3))) 1)) + u2)) - x20))) rfl rfl ?_; intro a1069 hF1070; clear hF1068
       refine gp hF1070 211 0 [] (decide ((w64 (bShr .u64 (wu64 (w64 (u1 + u3))) 1)) < (w64 ((w64 ((w64 (bShr .u64 (wu64 (w64 (u1 + u3))) 1)) + u2)) - x20)))) (.int .i64 u3) rfl rfl ?_; intro a1071 hF1072; clear hF1070
       refine gp hF1072 212 0 [] (decide ((w64 (bShr .u64 (wu64 (w64 (u1 + u3))) 1)) < (w64 ((w64 ((w64 (bShr .u64 (wu64 (w64 (u1 + u3))) 1)) + u2)) - x20)))) (.bool (decide ((w64 ((w64 ((w64 (bShr .u64 (wu64 (w64 (u1 + u3))) 1)) + u2)) - x20)) < u3))) rfl rfl ?_; intro a1073 hF1074; clear hF1072
       refine st hF1074 (.bool ((decide ((w64 (bShr .u64 (wu64 (w64 (u1 + u3))) 1)) < (w64 ((w64 ((w64 (bShr .u64 (wu64 (w64 (u1 + u3))) 1)) + u2)) - x20)))) && (decide ((w64 ((w64 ((w64 (bShr .u64 (wu64 (w64 (u1 + u3))) 1)) + u2)) - x20)) < u3)))) (nog rfl _) rfl (by kernel_rfl) (pk_and hF1074 (g := []) (m := 0) (b := decide ((w64 (bShr .u64 (wu64 (w64 (u1 + u3))) 1)) < (w64 ((w64 ((w64 (bShr .u64 (wu64 (w64 (u1 + u3))) 1)) + u2)) - x20)))) (v := decide ((w64 ((w64 ((w64 (bShr .u64 (wu64 (w64 (u1 + u3))) 1)) + u2)) - x20)) < u3)) rfl (by kernel_rfl) (by kernel_rfl) (by kernel_rfl) rfl) ?_; intro a1075 hF1076; clear hF1074
       refine nlH (hQ1059 _ _ ?_); clear hQ1059 hQ1059Q
       refine cd hF1076 (t := (decide ((w64 (bShr .u64 (wu64 (w64 (u1 + u3))) 1)) < (w64 ((w64 ((w64 (bShr .u64 (wu64 (w64 (u1 + u3))) 1)) + u2)) - x20)))) && (decide ((w64 ((w64 ((w64 (bShr .u64 (wu64 (w64 (u1 + u3))) 1)) + u2)) - x20)) < u3))) (by kernel_rfl) (fun hb1077 => ?_) (fun hb1077 => ?_)
       ·
        have hp1078 := hp1057.1 hb1077; clear hp1057
        have hF1079 : Fr 220 [] [⟨0, [], .slice ao1 r952.length cap2⟩, ⟨3, [], .int .i64 u3⟩, ⟨4, [], .func (.func fid3) #[] caps4⟩, ⟨18, [], .int .i64 (w64 (bShr .u64 (wu64 (w64 (u1 + u3))) 1))⟩, ⟨24, [], .int .i64 (w64 ((w64 ((w64 (bShr .u64 (wu64 (w64 (u1 + u3))) 1)) + u2)) - x20))⟩] a1075 := hF1076.reg; clear hF1076
        refine rgH ?_; intro hQ1080Q hQ1080
        refine s1 hF1079 214 (.slice ao1 r952.length cap2) ?_; intro a1081 hF1082; clear hF1079
        refine s1 hF1082 215 (.int .i64 (w64 (bShr .u64 (wu64 (w64 (u1 + u3))) 1))) ?_; intro a1083 hF1084; clear hF1082
        refine s1 hF1084 216 (.int .i64 (w64 ((w64 ((w64 (bShr .u64 (wu64 (w64 (u1 + u3))) 1)) + u2)) - x20))) ?_; intro a1085 hF1086; clear hF1084
        refine s1 hF1086 217 (.int .i64 u3) ?_; intro a1087 hF1088; clear hF1086
        refine s1 hF1088 218 (.func (.func fid3) #[] caps4) ?_; intro a1089 hF1090; clear hF1088
        have hc1091 := hp1078.1; have hp1092 := hp1078.2; clear hp1078
        refine cl hF1090 112 #[.slice ao1 r952.length cap2, .int .i64 (w64 (bShr .u64 (wu64 (w64 (u1 + u3))) 1)), .int .i64 (w64 ((w64 ((w64 (bShr .u64 (wu64 (w64 (u1 + u3))) 1)) + u2)) - x20)), .int .i64 u3, .func (.func fid3) #[] caps4] (nog rfl _) rfl (by kernel_rfl) (by kernel_rfl) ?_
        refine (ih r952 (w64 (bShr .u64 (wu64 (w64 (u1 + u3))) 1)) (w64 ((w64 ((w64 (bShr .u64 (wu64 (w64 (u1 + u3))) 1)) + u2)) - x20)) u3 u4 hc1091 ao1 cap2 fid3 caps4 _ _ _ _ _ _ (fun Z1 w1 h1 h2 => hf5 Z1 w1 (hle0.trans h1) h2) hg6 hM962 hM962.fz).mono ?_; rintro _ wd1093 ⟨Z1098, rfl, hle1099, hl1097, hm⟩; refine ⟨_, rfl, ?_⟩; intro a1094 hF1095; have hM1096 := hm; clear hm hM962 hF1090
        replace hle0 := Fz.le.trans hle0 hle1099
        have hF1100 : Fr 220 [] [⟨0, [], .slice ao1 (segC2 r952 (w64 (bShr .u64 (wu64 (w64 (u1 + u3))) 1)) (w64 ((w64 ((w64 (bShr .u64 (wu64 (w64 (u1 + u3))) 1)) + u2)) - x20)) u3 u4).length cap2⟩, ⟨3, [], .int .i64 u3⟩, ⟨4, [], .func (.func fid3) #[] caps4⟩, ⟨18, [], .int .i64 (w64 (bShr .u64 (wu64 (w64 (u1 + u3))) 1))⟩, ⟨24, [], .int .i64 (w64 ((w64 ((w64 (bShr .u64 (wu64 (w64 (u1 + u3))) 1)) + u2)) - x20))⟩, ⟨214, [], .slice ao1 (segC2 r952 (w64 (bShr .u64 (wu64 (w64 (u1 + u3))) 1)) (w64 ((w64 ((w64 (bShr .u64 (wu64 (w64 (u1 + u3))) 1)) + u2)) - x20)) u3 u4).length cap2⟩, ⟨215, [], .int .i64 (w64 (bShr .u64 (wu64 (w64 (u1 + u3))) 1))⟩, ⟨216, [], .int .i64 (w64 ((w64 ((w64 (bShr .u64 (wu64 (w64 (u1 + u3))) 1)) + u2)) - x20))⟩, ⟨217, [], .int .i64 u3⟩, ⟨218, [], .func (.func fid3) #[] caps4⟩, ⟨219, [], .tuple #[]⟩] a1094 := by rw [hl1097]; exact hF1095.reg
        clear hF1095
        have hM1101 : Mem B [] w0 Z0 ((.own tyJob 110 ao1 cap2 (segC2 r952 (w64 (bShr .u64 (wu64 (w64 (u1 + u3))) 1)) (w64 ((w64 ((w64 (bShr .u64 (wu64 (w64 (u1 + u3))) 1)) + u2)) - x20)) u3 u4)) :: Rr) Z1098 wd1093 := hM1096; clear hM1096
        have hp1102 := hp1092 (hM1101.ownSmall 0 rfl); clear hp1092
        refine nlH (hQ1080 _ _ ?_); clear hQ1080 hQ1080Q
        have hc1103 := hp1102.1; have hp1104 := hp1102.2; clear hp1102
        refine rN (fn := Try.f112) (v := .tuple #[]) hF1100 (re0 hF1100 (fn := Try.f112) rfl) ?_
        exact ⟨(segC2 r952 (w64 (bShr .u64 (wu64 (w64 (u1 + u3))) 1)) (w64 ((w64 ((w64 (bShr .u64 (wu64 (w64 (u1 + u3))) 1)) + u2)) - x20)) u3 u4), Z1098, rfl, hp1104, hle0, hc1103, hM1101.keep (List.Sublist.cons_cons _ (List.Sublist.refl _))⟩
       ·
        have hp1105 := hp1057.2 hb1077; clear hp1057
        refine wp_skip ?_
        have hc1106 := hp1105.1; have hp1107 := hp1105.2; clear hp1105
        refine rN (fn := Try.f112) (v := .tuple #[]) hF1076 (re0 hF1076 (fn := Try.f112) rfl) ?_
        exact ⟨r952, Z959, rfl, hp1107, hle0, hc1106, hM962.keep (List.Sublist.cons_cons _ (List.Sublist.refl _))⟩
     ·
      have hp1108 := hp910.2 hb938; clear hp910
      refine wp_skip ?_
      refine thn ?_
      refine wp_seq ?_
      have hF1109 : Fr 220 [] [⟨0, [], .slice ao1 u0.length cap2⟩, ⟨1, [], .int .i64 u1⟩, ⟨3, [], .int .i64 u3⟩, ⟨4, [], .func (.func fid3) #[] caps4⟩, ⟨18, [], .int .i64 (w64 (bShr .u64 (wu64 (w64 (u1 + u3))) 1))⟩, ⟨20, [], .int .i64 x20⟩, ⟨24, [], .int .i64 (w64 ((w64 ((w64 (bShr .u64 (wu64 (w64 (u1 + u3))) 1)) + u2)) - x20))⟩] a936 := hF937.reg; clear hF937
      refine sqH ?_; intro hQ1110Q hQ1110
      refine s1 hF1109 192 (.int .i64 u1) ?_; intro a1111 hF1112; clear hF1109
      refine s1 hF1112 193 (.int .i64 x20) ?_; intro a1113 hF1114; clear hF1112
      refine s1 hF1114 194 (.bool (decide (u1 < x20))) ?_; intro a1115 hF1116; clear hF1114
      refine s1 hF1116 195 (.bool (decide (u1 < x20))) ?_; intro a1117 hF1118; clear hF1116
      have hF1119 := hF1118.atom ((decide (u1 < x20)) == true) (by kernel_rfl); clear hF1118
      refine gp hF1119 196 0 [] (decide (u1 < x20)) (.int .i64 x20) rfl rfl ?_; intro a1120 hF1121; clear hF1119
      refine gp hF1121 197 0 [] (decide (u1 < x20)) (.int .i64 (w64 (bShr .u64 (wu64 (w64 (u1 + u3))) 1))) rfl rfl ?_; intro a1122 hF1123; clear hF1121
      refine gp hF1123 198 0 [] (decide (u1 < x20)) (.bool (decide (x20 < (w64 (bShr .u64 (wu64 (w64 (u1 + u3))) 1))))) rfl rfl ?_; intro a1124 hF1125; clear hF1123
      refine st hF1125 (.bool ((decide (u1 < x20)) && (decide (x20 < (w64 (bShr .u64 (wu64 (w64 (u1 + u3))) 1)))))) (nog rfl _) rfl (by kernel_rfl) (pk_and hF1125 (g := []) (m := 0) (b := decide (u1 < x20)) (v := decide (x20 < (w64 (bShr .u64 (wu64 (w64 (u1 + u3))) 1)))) rfl (by kernel_rfl) (by kernel_rfl) (by kernel_rfl) rfl) ?_; intro a1126 hF1127; clear hF1125
      refine nlH (hQ1110 _ _ ?_); clear hQ1110 hQ1110Q
      refine cd hF1127 (t := (decide (u1 < x20)) && (decide (x20 < (w64 (bShr .u64 (wu64 (w64 (u1 + u3))) 1))))) (by kernel_rfl) (fun hb1128 => ?_) (fun hb1128 => ?_)
      ·
       have hp1129 := hp1108.1 hb1128; clear hp1108
       have hF1130 : Fr 220 [] [⟨0, [], .slice ao1 u0.length cap2⟩, ⟨1, [], .int .i64 u1⟩, ⟨3, [], .int .i64 u3⟩, ⟨4, [], .func (.func fid3) #[] caps4⟩, ⟨18, [], .int .i64 (w64 (bShr .u64 (wu64 (w64 (u1 + u3))) 1))⟩, ⟨20, [], .int .i64 x20⟩, ⟨24, [], .int .i64 (w64 ((w64 ((w64 (bShr .u64 (wu64 (w64 (u1 + u3))) 1)) + u2)) - x20))⟩] a1126 := hF1127.reg; clear hF1127
       refine rgH ?_; intro hQ1131Q hQ1131
       refine s1 hF1130 200 (.slice ao1 u0.length cap2) ?_; intro a1132 hF1133; clear hF1130
       refine s1 hF1133 201 (.int .i64 u1) ?_; intro a1134 hF1135; clear hF1133
       refine s1 hF1135 202 (.int .i64 x20) ?_; intro a1136 hF1137; clear hF1135
       refine s1 hF1137 203 (.int .i64 (w64 (bShr .u64 (wu64 (w64 (u1 + u3))) 1))) ?_; intro a1138 hF1139; clear hF1137
       refine s1 hF1139 204 (.func (.func fid3) #[] caps4) ?_; intro a1140 hF1141; clear hF1139
       have hc1142 := hp1129.1; have hp1143 := hp1129.2; clear hp1129
       refine cl hF1141 112 #[.slice ao1 u0.length cap2, .int .i64 u1, .int .i64 x20, .int .i64 (w64 (bShr .u64 (wu64 (w64 (u1 + u3))) 1)), .func (.func fid3) #[] caps4] (nog rfl _) rfl (by kernel_rfl) (by kernel_rfl) ?_
       refine (ih u0 u1 x20 (w64 (bShr .u64 (wu64 (w64 (u1 + u3))) 1)) u4 hc1142 ao1 cap2 fid3 caps4 _ _ _ _ _ _ (fun Z1 w1 h1 h2 => hf5 Z1 w1 (hle0.trans h1) h2) hg6 hM908 hM908.fz).mono ?_; rintro _ wd1144 ⟨Z1149, rfl, hle1150, hl1148, hm⟩; refine ⟨_, rfl, ?_⟩; intro a1145 hF1146; have hM1147 := hm; clear hm hM908 hF1141
       replace hle0 := Fz.le.trans hle0 hle1150
       have hF1151 : Fr 220 [] [⟨0, [], .slice ao1 (segC2 u0 u1 x20 (w64 (bShr .u64 (wu64 (w64 (u1 + u3))) 1)) u4).length cap2⟩, ⟨1, [], .int .i64 u1⟩, ⟨3, [], .int .i64 u3⟩, ⟨4, [], .func (.func fid3) #[] caps4⟩, ⟨18, [], .int .i64 (w64 (bShr .u64 (wu64 (w64 (u1 + u3))) 1))⟩, ⟨20, [], .int .i64 x20⟩, ⟨24, [], .int .i64 (w64 ((w64 ((w64 (bShr .u64 (wu64 (w64 (u1 + u3))) 1)) + u2)) - x20))⟩, ⟨200, [], .slice ao1 (segC2 u0 u1 x20 (w64 (bShr .u64 (wu64 (w64 (u1 + u3))) 1)) u4).length cap2⟩, ⟨201, [], .int .i64 u1⟩, ⟨202, [], .int .i64 x20⟩, ⟨203, [], .int .i64 (w64 (bShr .u64 (wu64 (w64 (u1 + u3))) 1))⟩, ⟨204, [], .func (.func fid3) #[] caps4⟩, ⟨205, [], .tuple #[]⟩] a1145 := by rw [hl1148]; exact hF1146.reg
       clear hF1146
       have hM1152 : Mem B [] w0 Z0 ((.own tyJob 110 ao1 cap2 (segC2 u0 u1 x20 (w64 (bShr .u64 (wu64 (w64 (u1 + u3))) 1)) u4)) :: Rr) Z1149 wd1144 := hM1147; clear hM1147
       have hp1153 := hp1143 (hM1152.ownSmall 0 rfl); clear hp1143
       refine nlH (hQ1131 _ _ ?_); clear hQ1131 hQ1131Q
       refine thn ?_
       refine sqH ?_; intro hQ1154Q hQ1154
       refine s1 hF1151 206 (.int .i64 (w64 (bShr .u64 (wu64 (w64 (u1 + u3))) 1))) ?_; intro a1155 hF1156; clear hF1151
       refine s1 hF1156 207 (.int .i64 (w64 ((w64 ((w64 (bShr .u64 (wu64 (w64 (u1 + u3))) 1)) + u2)) - x20))) ?_; intro a1157 hF1158; clear hF1156
       refine s1 hF1158 208 (.bool (decide ((w64 (bShr .u64 (wu64 (w64 (u1 + u3))) 1)) < (w64 ((w64 ((w64 (bShr .u64 (wu64 (w64 (u1 + u3))) 1)) + u2)) - x20))))) ?_; intro a1159 hF1160; clear hF1158
       refine s1 hF1160 209 (.bool (decide ((w64 (bShr .u64 (wu64 (w64 (u1 + u3))) 1)) < (w64 ((w64 ((w64 (bShr .u64 (wu64 (w64 (u1 + u3))) 1)) + u2)) - x20))))) ?_; intro a1161 hF1162; clear hF1160
       have hF1163 := hF1162.atom ((decide ((w64 (bShr .u64 (wu64 (w64 (u1 + u3))) 1)) < (w64 ((w64 ((w64 (bShr .u64 (wu64 (w64 (u1 + u3))) 1)) + u2)) - x20)))) == true) (by kernel_rfl); clear hF1162
       refine gp hF1163 210 0 [] (decide ((w64 (bShr .u64 (wu64 (w64 (u1 + u3))) 1)) < (w64 ((w64 ((w64 (bShr .u64 (wu64 (w64 (u1 + u3))) 1)) + u2)) - x20)))) (.int .i64 (w64 ((w64 ((w64 (bShr .u64 (wu64 (w64 (u1 + u3))) 1)) + u2)) - x20))) rfl rfl ?_; intro a1164 hF1165; clear hF1163
       refine gp hF1165 211 0 [] (decide ((w64 (bShr .u64 (wu64 (w64 (u1 + u3))) 1)) < (w64 ((w64 ((w64 (bShr .u64 (wu64 (w64 (u1 + u3))) 1)) + u2)) - x20)))) (.int .i64 u3) rfl rfl ?_; intro a1166 hF1167; clear hF1165
       refine gp hF1167 212 0 [] (decide ((w64 (bShr .u64 (wu64 (w64 (u1 + u3))) 1)) < (w64 ((w64 ((w64 (bShr .u64 (wu64 (w64 (u1 + u3))) 1)) + u2)) - x20)))) (.bool (decide ((w64 ((w64 ((w64 (bShr .u64 (wu64 (w64 (u1 + u3))) 1)) + u2)) - x20)) < u3))) rfl rfl ?_; intro a1168 hF1169; clear hF1167
       refine st hF1169 (.bool ((decide ((w64 (bShr .u64 (wu64 (w64 (u1 + u3))) 1)) < (w64 ((w64 ((w64 (bShr .u64 (wu64 (w64 (u1 + u3))) 1)) + u2)) - x20)))) && (decide ((w64 ((w64 ((w64 (bShr .u64 (wu64 (w64 (u1 + u3))) 1)) + u2)) - x20)) < u3)))) (nog rfl _) rfl (by kernel_rfl) (pk_and hF1169 (g := []) (m := 0) (b := decide ((w64 (bShr .u64 (wu64 (w64 (u1 + u3))) 1)) < (w64 ((w64 ((w64 (bShr .u64 (wu64 (w64 (u1 + u3))) 1)) + u2)) - x20)))) (v := decide ((w64 ((w64 ((w64 (bShr .u64 (wu64 (w64 (u1 + u3))) 1)) + u2)) - x20)) < u3)) rfl (by kernel_rfl) (by kernel_rfl) (by kernel_rfl) rfl) ?_; intro a1170 hF1171; clear hF1169
       refine nlH (hQ1154 _ _ ?_); clear hQ1154 hQ1154Q
       refine cd hF1171 (t := (decide ((w64 (bShr .u64 (wu64 (w64 (u1 + u3))) 1)) < (w64 ((w64 ((w64 (bShr .u64 (wu64 (w64 (u1 + u3))) 1)) + u2)) - x20)))) && (decide ((w64 ((w64 ((w64 (bShr .u64 (wu64 (w64 (u1 + u3))) 1)) + u2)) - x20)) < u3))) (by kernel_rfl) (fun hb1172 => ?_) (fun hb1172 => ?_)
       ·
        have hp1173 := hp1153.1 hb1172; clear hp1153
        have hF1174 : Fr 220 [] [⟨0, [], .slice ao1 (segC2 u0 u1 x20 (w64 (bShr .u64 (wu64 (w64 (u1 + u3))) 1)) u4).length cap2⟩, ⟨3, [], .int .i64 u3⟩, ⟨4, [], .func (.func fid3) #[] caps4⟩, ⟨18, [], .int .i64 (w64 (bShr .u64 (wu64 (w64 (u1 + u3))) 1))⟩, ⟨24, [], .int .i64 (w64 ((w64 ((w64 (bShr .u64 (wu64 (w64 (u1 + u3))) 1)) + u2)) - x20))⟩] a1170 := hF1171.reg; clear hF1171
        refine rgH ?_; intro hQ1175Q hQ1175
        refine s1 hF1174 214 (.slice ao1 (segC2 u0 u1 x20 (w64 (bShr .u64 (wu64 (w64 (u1 + u3))) 1)) u4).length cap2) ?_; intro a1176 hF1177; clear hF1174
        refine s1 hF1177 215 (.int .i64 (w64 (bShr .u64 (wu64 (w64 (u1 + u3))) 1))) ?_; intro a1178 hF1179; clear hF1177
        refine s1 hF1179 216 (.int .i64 (w64 ((w64 ((w64 (bShr .u64 (wu64 (w64 (u1 + u3))) 1)) + u2)) - x20))) ?_; intro a1180 hF1181; clear hF1179
        refine s1 hF1181 217 (.int .i64 u3) ?_; intro a1182 hF1183; clear hF1181
        refine s1 hF1183 218 (.func (.func fid3) #[] caps4) ?_; intro a1184 hF1185; clear hF1183
        have hc1186 := hp1173.1; have hp1187 := hp1173.2; clear hp1173
        refine cl hF1185 112 #[.slice ao1 (segC2 u0 u1 x20 (w64 (bShr .u64 (wu64 (w64 (u1 + u3))) 1)) u4).length cap2, .int .i64 (w64 (bShr .u64 (wu64 (w64 (u1 + u3))) 1)), .int .i64 (w64 ((w64 ((w64 (bShr .u64 (wu64 (w64 (u1 + u3))) 1)) + u2)) - x20)), .int .i64 u3, .func (.func fid3) #[] caps4] (nog rfl _) rfl (by kernel_rfl) (by kernel_rfl) ?_
        refine (ih (segC2 u0 u1 x20 (w64 (bShr .u64 (wu64 (w64 (u1 + u3))) 1)) u4) (w64 (bShr .u64 (wu64 (w64 (u1 + u3))) 1)) (w64 ((w64 ((w64 (bShr .u64 (wu64 (w64 (u1 + u3))) 1)) + u2)) - x20)) u3 u4 hc1186 ao1 cap2 fid3 caps4 _ _ _ _ _ _ (fun Z1 w1 h1 h2 => hf5 Z1 w1 (hle0.trans h1) h2) hg6 hM1152 hM1152.fz).mono ?_; rintro _ wd1188 ⟨Z1193, rfl, hle1194, hl1192, hm⟩; refine ⟨_, rfl, ?_⟩; intro a1189 hF1190; have hM1191 := hm; clear hm hM1152 hF1185
        replace hle0 := Fz.le.trans hle0 hle1194
        have hF1195 : Fr 220 [] [⟨0, [], .slice ao1 (segC2 (segC2 u0 u1 x20 (w64 (bShr .u64 (wu64 (w64 (u1 + u3))) 1)) u4) (w64 (bShr .u64 (wu64 (w64 (u1 + u3))) 1)) (w64 ((w64 ((w64 (bShr .u64 (wu64 (w64 (u1 + u3))) 1)) + u2)) - x20)) u3 u4).length cap2⟩, ⟨3, [], .int .i64 u3⟩, ⟨4, [], .func (.func fid3) #[] caps4⟩, ⟨18, [], .int .i64 (w64 (bShr .u64 (wu64 (w64 (u1 + u3))) 1))⟩, ⟨24, [], .int .i64 (w64 ((w64 ((w64 (bShr .u64 (wu64 (w64 (u1 + u3))) 1)) + u2)) - x20))⟩, ⟨214, [], .slice ao1 (segC2 (segC2 u0 u1 x20 (w64 (bShr .u64 (wu64 (w64 (u1 + u3))) 1)) u4) (w64 (bShr .u64 (wu64 (w64 (u1 + u3))) 1)) (w64 ((w64 ((w64 (bShr .u64 (wu64 (w64 (u1 + u3))) 1)) + u2)) - x20)) u3 u4).length cap2⟩, ⟨215, [], .int .i64 (w64 (bShr .u64 (wu64 (w64 (u1 + u3))) 1))⟩, ⟨216, [], .int .i64 (w64 ((w64 ((w64 (bShr .u64 (wu64 (w64 (u1 + u3))) 1)) + u2)) - x20))⟩, ⟨217, [], .int .i64 u3⟩, ⟨218, [], .func (.func fid3) #[] caps4⟩, ⟨219, [], .tuple #[]⟩] a1189 := by rw [hl1192]; exact hF1190.reg
        clear hF1190
        have hM1196 : Mem B [] w0 Z0 ((.own tyJob 110 ao1 cap2 (segC2 (segC2 u0 u1 x20 (w64 (bShr .u64 (wu64 (w64 (u1 + u3))) 1)) u4) (w64 (bShr .u64 (wu64 (w64 (u1 + u3))) 1)) (w64 ((w64 ((w64 (bShr .u64 (wu64 (w64 (u1 + u3))) 1)) + u2)) - x20)) u3 u4)) :: Rr) Z1193 wd1188 := hM1191; clear hM1191
        have hp1197 := hp1187 (hM1196.ownSmall 0 rfl); clear hp1187
        refine nlH (hQ1175 _ _ ?_); clear hQ1175 hQ1175Q
        have hc1198 := hp1197.1; have hp1199 := hp1197.2; clear hp1197
        refine rN (fn := Try.f112) (v := .tuple #[]) hF1195 (re0 hF1195 (fn := Try.f112) rfl) ?_
        exact ⟨(segC2 (segC2 u0 u1 x20 (w64 (bShr .u64 (wu64 (w64 (u1 + u3))) 1)) u4) (w64 (bShr .u64 (wu64 (w64 (u1 + u3))) 1)) (w64 ((w64 ((w64 (bShr .u64 (wu64 (w64 (u1 + u3))) 1)) + u2)) - x20)) u3 u4), Z1193, rfl, hp1199, hle0, hc1198, hM1196.keep (List.Sublist.cons_cons _ (List.Sublist.refl _))⟩
       ·
        have hp1200 := hp1153.2 hb1172; clear hp1153
        refine wp_skip ?_
        have hc1201 := hp1200.1; have hp1202 := hp1200.2; clear hp1200
        refine rN (fn := Try.f112) (v := .tuple #[]) hF1171 (re0 hF1171 (fn := Try.f112) rfl) ?_
        exact ⟨(segC2 u0 u1 x20 (w64 (bShr .u64 (wu64 (w64 (u1 + u3))) 1)) u4), Z1149, rfl, hp1202, hle0, hc1201, hM1152.keep (List.Sublist.cons_cons _ (List.Sublist.refl _))⟩
      ·
       have hp1203 := hp1108.2 hb1128; clear hp1108
       refine wp_skip ?_
       refine thn ?_
       have hF1204 : Fr 220 [] [⟨0, [], .slice ao1 u0.length cap2⟩, ⟨3, [], .int .i64 u3⟩, ⟨4, [], .func (.func fid3) #[] caps4⟩, ⟨18, [], .int .i64 (w64 (bShr .u64 (wu64 (w64 (u1 + u3))) 1))⟩, ⟨24, [], .int .i64 (w64 ((w64 ((w64 (bShr .u64 (wu64 (w64 (u1 + u3))) 1)) + u2)) - x20))⟩] a1126 := hF1127.reg; clear hF1127
       refine sqH ?_; intro hQ1205Q hQ1205
       refine s1 hF1204 206 (.int .i64 (w64 (bShr .u64 (wu64 (w64 (u1 + u3))) 1))) ?_; intro a1206 hF1207; clear hF1204
       refine s1 hF1207 207 (.int .i64 (w64 ((w64 ((w64 (bShr .u64 (wu64 (w64 (u1 + u3))) 1)) + u2)) - x20))) ?_; intro a1208 hF1209; clear hF1207
       refine s1 hF1209 208 (.bool (decide ((w64 (bShr .u64 (wu64 (w64 (u1 + u3))) 1)) < (w64 ((w64 ((w64 (bShr .u64 (wu64 (w64 (u1 + u3))) 1)) + u2)) - x20))))) ?_; intro a1210 hF1211; clear hF1209
       refine s1 hF1211 209 (.bool (decide ((w64 (bShr .u64 (wu64 (w64 (u1 + u3))) 1)) < (w64 ((w64 ((w64 (bShr .u64 (wu64 (w64 (u1 + u3))) 1)) + u2)) - x20))))) ?_; intro a1212 hF1213; clear hF1211
       have hF1214 := hF1213.atom ((decide ((w64 (bShr .u64 (wu64 (w64 (u1 + u3))) 1)) < (w64 ((w64 ((w64 (bShr .u64 (wu64 (w64 (u1 + u3))) 1)) + u2)) - x20)))) == true) (by kernel_rfl); clear hF1213
       refine gp hF1214 210 0 [] (decide ((w64 (bShr .u64 (wu64 (w64 (u1 + u3))) 1)) < (w64 ((w64 ((w64 (bShr .u64 (wu64 (w64 (u1 + u3))) 1)) + u2)) - x20)))) (.int .i64 (w64 ((w64 ((w64 (bShr .u64 (wu64 (w64 (u1 + u3))) 1)) + u2)) - x20))) rfl rfl ?_; intro a1215 hF1216; clear hF1214
       refine gp hF1216 211 0 [] (decide ((w64 (bShr .u64 (wu64 (w64 (u1 + u3))) 1)) < (w64 ((w64 ((w64 (bShr .u64 (wu64 (w64 (u1 + u3))) 1)) + u2)) - x20)))) (.int .i64 u3) rfl rfl ?_; intro a1217 hF1218; clear hF1216
       refine gp hF1218 212 0 [] (decide ((w64 (bShr .u64 (wu64 (w64 (u1 + u3))) 1)) < (w64 ((w64 ((w64 (bShr .u64 (wu64 (w64 (u1 + u3))) 1)) + u2)) - x20)))) (.bool (decide ((w64 ((w64 ((w64 (bShr .u64 (wu64 (w64 (u1 + u3))) 1)) + u2)) - x20)) < u3))) rfl rfl ?_; intro a1219 hF1220; clear hF1218
       refine st hF1220 (.bool ((decide ((w64 (bShr .u64 (wu64 (w64 (u1 + u3))) 1)) < (w64 ((w64 ((w64 (bShr .u64 (wu64 (w64 (u1 + u3))) 1)) + u2)) - x20)))) && (decide ((w64 ((w64 ((w64 (bShr .u64 (wu64 (w64 (u1 + u3))) 1)) + u2)) - x20)) < u3)))) (nog rfl _) rfl (by kernel_rfl) (pk_and hF1220 (g := []) (m := 0) (b := decide ((w64 (bShr .u64 (wu64 (w64 (u1 + u3))) 1)) < (w64 ((w64 ((w64 (bShr .u64 (wu64 (w64 (u1 + u3))) 1)) + u2)) - x20)))) (v := decide ((w64 ((w64 ((w64 (bShr .u64 (wu64 (w64 (u1 + u3))) 1)) + u2)) - x20)) < u3)) rfl (by kernel_rfl) (by kernel_rfl) (by kernel_rfl) rfl) ?_; intro a1221 hF1222; clear hF1220
       refine nlH (hQ1205 _ _ ?_); clear hQ1205 hQ1205Q
       refine cd hF1222 (t := (decide ((w64 (bShr .u64 (wu64 (w64 (u1 + u3))) 1)) < (w64 ((w64 ((w64 (bShr .u64 (wu64 (w64 (u1 + u3))) 1)) + u2)) - x20)))) && (decide ((w64 ((w64 ((w64 (bShr .u64 (wu64 (w64 (u1 + u3))) 1)) + u2)) - x20)) < u3))) (by kernel_rfl) (fun hb1223 => ?_) (fun hb1223 => ?_)
       ·
        have hp1224 := hp1203.1 hb1223; clear hp1203
        have hF1225 : Fr 220 [] [⟨0, [], .slice ao1 u0.length cap2⟩, ⟨3, [], .int .i64 u3⟩, ⟨4, [], .func (.func fid3) #[] caps4⟩, ⟨18, [], .int .i64 (w64 (bShr .u64 (wu64 (w64 (u1 + u3))) 1))⟩, ⟨24, [], .int .i64 (w64 ((w64 ((w64 (bShr .u64 (wu64 (w64 (u1 + u3))) 1)) + u2)) - x20))⟩] a1221 := hF1222.reg; clear hF1222
        refine rgH ?_; intro hQ1226Q hQ1226
        refine s1 hF1225 214 (.slice ao1 u0.length cap2) ?_; intro a1227 hF1228; clear hF1225
        refine s1 hF1228 215 (.int .i64 (w64 (bShr .u64 (wu64 (w64 (u1 + u3))) 1))) ?_; intro a1229 hF1230; clear hF1228
        refine s1 hF1230 216 (.int .i64 (w64 ((w64 ((w64 (bShr .u64 (wu64 (w64 (u1 + u3))) 1)) + u2)) - x20))) ?_; intro a1231 hF1232; clear hF1230
        refine s1 hF1232 217 (.int .i64 u3) ?_; intro a1233 hF1234; clear hF1232
        refine s1 hF1234 218 (.func (.func fid3) #[] caps4) ?_; intro a1235 hF1236; clear hF1234
        have hc1237 := hp1224.1; have hp1238 := hp1224.2; clear hp1224
        refine cl hF1236 112 #[.slice ao1 u0.length cap2, .int .i64 (w64 (bShr .u64 (wu64 (w64 (u1 + u3))) 1)), .int .i64 (w64 ((w64 ((w64 (bShr .u64 (wu64 (w64 (u1 + u3))) 1)) + u2)) - x20)), .int .i64 u3, .func (.func fid3) #[] caps4] (nog rfl _) rfl (by kernel_rfl) (by kernel_rfl) ?_
        refine (ih u0 (w64 (bShr .u64 (wu64 (w64 (u1 + u3))) 1)) (w64 ((w64 ((w64 (bShr .u64 (wu64 (w64 (u1 + u3))) 1)) + u2)) - x20)) u3 u4 hc1237 ao1 cap2 fid3 caps4 _ _ _ _ _ _ (fun Z1 w1 h1 h2 => hf5 Z1 w1 (hle0.trans h1) h2) hg6 hM908 hM908.fz).mono ?_; rintro _ wd1239 ⟨Z1244, rfl, hle1245, hl1243, hm⟩; refine ⟨_, rfl, ?_⟩; intro a1240 hF1241; have hM1242 := hm; clear hm hM908 hF1236
        replace hle0 := Fz.le.trans hle0 hle1245
        have hF1246 : Fr 220 [] [⟨0, [], .slice ao1 (segC2 u0 (w64 (bShr .u64 (wu64 (w64 (u1 + u3))) 1)) (w64 ((w64 ((w64 (bShr .u64 (wu64 (w64 (u1 + u3))) 1)) + u2)) - x20)) u3 u4).length cap2⟩, ⟨3, [], .int .i64 u3⟩, ⟨4, [], .func (.func fid3) #[] caps4⟩, ⟨18, [], .int .i64 (w64 (bShr .u64 (wu64 (w64 (u1 + u3))) 1))⟩, ⟨24, [], .int .i64 (w64 ((w64 ((w64 (bShr .u64 (wu64 (w64 (u1 + u3))) 1)) + u2)) - x20))⟩, ⟨214, [], .slice ao1 (segC2 u0 (w64 (bShr .u64 (wu64 (w64 (u1 + u3))) 1)) (w64 ((w64 ((w64 (bShr .u64 (wu64 (w64 (u1 + u3))) 1)) + u2)) - x20)) u3 u4).length cap2⟩, ⟨215, [], .int .i64 (w64 (bShr .u64 (wu64 (w64 (u1 + u3))) 1))⟩, ⟨216, [], .int .i64 (w64 ((w64 ((w64 (bShr .u64 (wu64 (w64 (u1 + u3))) 1)) + u2)) - x20))⟩, ⟨217, [], .int .i64 u3⟩, ⟨218, [], .func (.func fid3) #[] caps4⟩, ⟨219, [], .tuple #[]⟩] a1240 := by rw [hl1243]; exact hF1241.reg
        clear hF1241
        have hM1247 : Mem B [] w0 Z0 ((.own tyJob 110 ao1 cap2 (segC2 u0 (w64 (bShr .u64 (wu64 (w64 (u1 + u3))) 1)) (w64 ((w64 ((w64 (bShr .u64 (wu64 (w64 (u1 + u3))) 1)) + u2)) - x20)) u3 u4)) :: Rr) Z1244 wd1239 := hM1242; clear hM1242
        have hp1248 := hp1238 (hM1247.ownSmall 0 rfl); clear hp1238
        refine nlH (hQ1226 _ _ ?_); clear hQ1226 hQ1226Q
        have hc1249 := hp1248.1; have hp1250 := hp1248.2; clear hp1248
        refine rN (fn := Try.f112) (v := .tuple #[]) hF1246 (re0 hF1246 (fn := Try.f112) rfl) ?_
        exact ⟨(segC2 u0 (w64 (bShr .u64 (wu64 (w64 (u1 + u3))) 1)) (w64 ((w64 ((w64 (bShr .u64 (wu64 (w64 (u1 + u3))) 1)) + u2)) - x20)) u3 u4), Z1244, rfl, hp1250, hle0, hc1249, hM1247.keep (List.Sublist.cons_cons _ (List.Sublist.refl _))⟩
       ·
        have hp1251 := hp1203.2 hb1223; clear hp1203
        refine wp_skip ?_
        have hc1252 := hp1251.1; have hp1253 := hp1251.2; clear hp1251
        refine rN (fn := Try.f112) (v := .tuple #[]) hF1222 (re0 hF1222 (fn := Try.f112) rfl) ?_
        exact ⟨u0, Z, rfl, hp1253, hle0, hc1252, hM908.keep (List.Sublist.cons_cons _ (List.Sublist.refl _))⟩
    refine wp_block ?_
    have hF1254 : Fr 220 [] [⟨0, [], .slice ao1 u0.length cap2⟩, ⟨1, [], .int .i64 u1⟩, ⟨2, [], .int .i64 u2⟩, ⟨3, [], .int .i64 u3⟩, ⟨4, [], .func (.func fid3) #[] caps4⟩, ⟨18, [], .int .i64 (w64 (bShr .u64 (wu64 (w64 (u1 + u3))) 1))⟩, ⟨19, [], .int .i64 (w64 ((w64 (bShr .u64 (wu64 (w64 (u1 + u3))) 1)) + u2))⟩, ⟨20, [], .int .i64 (w64 ((w64 ((w64 (bShr .u64 (wu64 (w64 (u1 + u3))) 1)) + u2)) - u3))⟩, ⟨21, [], .int .i64 (w64 (bShr .u64 (wu64 (w64 (u1 + u3))) 1))⟩, ⟨22, [], .int .i64 (w64 ((w64 ((w64 (bShr .u64 (wu64 (w64 (u1 + u3))) 1)) + u2)) - 1))⟩] a895 := hF899.reg; clear hF899
    have hF1256 : Fr 220 [] [⟨0, [], .slice ao1 u0.length cap2⟩, ⟨1, [], .int .i64 u1⟩, ⟨2, [], .int .i64 u2⟩, ⟨3, [], .int .i64 u3⟩, ⟨4, [], .func (.func fid3) #[] caps4⟩, ⟨18, [], .int .i64 (w64 (bShr .u64 (wu64 (w64 (u1 + u3))) 1))⟩, ⟨19, [], .int .i64 (w64 ((w64 (bShr .u64 (wu64 (w64 (u1 + u3))) 1)) + u2))⟩, ⟨20, [], .int .i64 (w64 ((w64 ((w64 (bShr .u64 (wu64 (w64 (u1 + u3))) 1)) + u2)) - u3))⟩, ⟨21, [], .int .i64 (w64 (bShr .u64 (wu64 (w64 (u1 + u3))) 1))⟩, ⟨22, [], .int .i64 (w64 ((w64 ((w64 (bShr .u64 (wu64 (w64 (u1 + u3))) 1)) + u2)) - 1))⟩] a895 := hF1254.reg; clear hF1254
    obtain ⟨inv1255, mu1255, hI1259, hr1258⟩ := hp900
    refine lp (ι := Int × Int) (fun (s : Int × Int) => [⟨0, [], .slice ao1 u0.length cap2⟩, ⟨1, [], .int .i64 u1⟩, ⟨2, [], .int .i64 u2⟩, ⟨3, [], .int .i64 u3⟩, ⟨4, [], .func (.func fid3) #[] caps4⟩, ⟨18, [], .int .i64 (w64 (bShr .u64 (wu64 (w64 (u1 + u3))) 1))⟩, ⟨19, [], .int .i64 (w64 ((w64 (bShr .u64 (wu64 (w64 (u1 + u3))) 1)) + u2))⟩, ⟨20, [], .int .i64 s.1⟩, ⟨21, [], .int .i64 s.2⟩, ⟨22, [], .int .i64 (w64 ((w64 ((w64 (bShr .u64 (wu64 (w64 (u1 + u3))) 1)) + u2)) - 1))⟩]) (fun (s : Int × Int) => ((.own tyJob 110 ao1 cap2 u0) :: Rr)) (fun (s : Int × Int) => Z) (fun (s : Int × Int) => inv1255 s.1 s.2) (fun (s : Int × Int) => mu1255 s.1 s.2) ⟨w64 ((w64 ((w64 (bShr .u64 (wu64 (w64 (u1 + u3))) 1)) + u2)) - u3), w64 (bShr .u64 (wu64 (w64 (u1 + u3))) 1)⟩ hI1259 (by exact hF1256.reg) (by exact hM0) ?_
    rintro ⟨x20v, x21⟩ hI1257 a1261 wd1262 hF1263 hM1264
    have hF1265 : Fr 220 [] [⟨0, [], .slice ao1 u0.length cap2⟩, ⟨1, [], .int .i64 u1⟩, ⟨2, [], .int .i64 u2⟩, ⟨3, [], .int .i64 u3⟩, ⟨4, [], .func (.func fid3) #[] caps4⟩, ⟨18, [], .int .i64 (w64 (bShr .u64 (wu64 (w64 (u1 + u3))) 1))⟩, ⟨19, [], .int .i64 (w64 ((w64 (bShr .u64 (wu64 (w64 (u1 + u3))) 1)) + u2))⟩, ⟨20, [], .int .i64 x20v⟩, ⟨21, [], .int .i64 x21⟩, ⟨22, [], .int .i64 (w64 ((w64 ((w64 (bShr .u64 (wu64 (w64 (u1 + u3))) 1)) + u2)) - 1))⟩] a1261 := hF1263; clear hF1263 hF1256
    have hM1266 : Mem B [] w0 Z0 ((.own tyJob 110 ao1 cap2 u0) :: Rr) Z wd1262 := hM1264; clear hM1264 hM0
    have hp1267 := hr1258 x20v x21 hI1257
    refine wp_seq ?_
    refine sqH ?_; intro hQ1268Q hQ1268
    refine s1 hF1265 149 (.int .i64 x20v) ?_; intro a1269 hF1270; clear hF1265
    refine s1 hF1270 150 (.int .i64 x21) ?_; intro a1271 hF1272; clear hF1270
    refine s1 hF1272 151 (.bool (decide (x20v < x21))) ?_; intro a1273 hF1274; clear hF1272
    refine nlH (hQ1268 _ _ ?_); clear hQ1268 hQ1268Q
    refine cd hF1274 (t := decide (x20v < x21)) (by kernel_rfl) (fun hb1275 => ?_) (fun hb1275 => ?_)
    ·
     have hp1276 := hp1267.1 hb1275; clear hp1267
     refine wp_skip ?_
     refine thn ?_
     refine wp_block ?_
     refine sqH ?_; intro hQ1277Q hQ1277
     refine s1 hF1274 152 (.int .i64 x20v) ?_; intro a1278 hF1279; clear hF1274
     refine s1 hF1279 153 (.int .i64 x21) ?_; intro a1280 hF1281; clear hF1279
     refine s1 hF1281 154 (.int .i64 (w64 (x20v + x21))) ?_; intro a1282 hF1283; clear hF1281
     refine s1 hF1283 155 (.int .u64 (wu64 (w64 (x20v + x21)))) ?_; intro a1284 hF1285; clear hF1283
     refine s1 hF1285 156 (.int .u64 (bShr .u64 (wu64 (w64 (x20v + x21))) 1)) ?_; intro a1286 hF1287; clear hF1285
     refine s1 hF1287 157 (.int .i64 (w64 (bShr .u64 (wu64 (w64 (x20v + x21))) 1))) ?_; intro a1288 hF1289; clear hF1287
     refine s1 hF1289 23 (.int .i64 (w64 (bShr .u64 (wu64 (w64 (x20v + x21))) 1))) ?_; intro a1290 hF1291; clear hF1289
     refine nlH (hQ1277 _ _ ?_); clear hQ1277 hQ1277Q
     have hF1292 : Fr 220 [] [⟨0, [], .slice ao1 u0.length cap2⟩, ⟨1, [], .int .i64 u1⟩, ⟨2, [], .int .i64 u2⟩, ⟨3, [], .int .i64 u3⟩, ⟨4, [], .func (.func fid3) #[] caps4⟩, ⟨18, [], .int .i64 (w64 (bShr .u64 (wu64 (w64 (u1 + u3))) 1))⟩, ⟨19, [], .int .i64 (w64 ((w64 (bShr .u64 (wu64 (w64 (u1 + u3))) 1)) + u2))⟩, ⟨20, [], .int .i64 x20v⟩, ⟨21, [], .int .i64 x21⟩, ⟨22, [], .int .i64 (w64 ((w64 ((w64 (bShr .u64 (wu64 (w64 (u1 + u3))) 1)) + u2)) - 1))⟩, ⟨23, [], .int .i64 (w64 (bShr .u64 (wu64 (w64 (x20v + x21))) 1))⟩] a1290 := hF1291.reg; clear hF1291
     have hcd5_0 := hp1276.1; have hp1334 := hp1276.2; clear hp1276
     obtain ⟨qd6_0, hqd6_0⟩ : ∃ q, u0[(w64 ((w64 ((w64 ((w64 (bShr .u64 (wu64 (w64 (u1 + u3))) 1)) + u2)) - 1)) - (w64 (bShr .u64 (wu64 (w64 (x20v + x21))) 1)))).toNat]? = some q := ⟨_, List.getElem?_eq_getElem (by omega)⟩; have hp1335 := hp1334 qd6_0 hqd6_0; clear hp1334
     have hcd9_0 := hp1335.1; have hp1336 := hp1335.2; clear hp1335
     obtain ⟨qd10_0, hqd10_0⟩ : ∃ q, u0[(w64 (bShr .u64 (wu64 (w64 (x20v + x21))) 1)).toNat]? = some q := ⟨_, List.getElem?_eq_getElem (by omega)⟩; have hp1337 := hp1336 qd10_0 hqd10_0; clear hp1336
     refine wp_seq (any_invE mixed [[], [], [], [], [2, 3], [1, 4], [5], [], [], [7, 8], [9], [0, 6, 10], [11], [12]] 14 (fun S a w1 => ∃ (g1303 : Nat) (g1316 : Nat) (ud158 : Value) (ud159 : Value) (ud160 : Value) (ud161 : Value) (ud162 : Value) (ud163 : Value) (ud164 : Value) (ud165 : Value) (ud166 : Value) (ud167 : Value) (ud168 : Value) (ud169 : Value) (ud170 : Value) (ud171 : Value) (rh0 : Res), Fz.le Z Z ∧ Fr 220 [] [⟨0, [], .slice ao1 u0.length cap2⟩, ⟨1, [], .int .i64 u1⟩, ⟨2, [], .int .i64 u2⟩, ⟨3, [], .int .i64 u3⟩, ⟨4, [], .func (.func fid3) #[] caps4⟩, ⟨18, [], .int .i64 (w64 (bShr .u64 (wu64 (w64 (u1 + u3))) 1))⟩, ⟨19, [], .int .i64 (w64 ((w64 (bShr .u64 (wu64 (w64 (u1 + u3))) 1)) + u2))⟩, ⟨20, [], .int .i64 x20v⟩, ⟨21, [], .int .i64 x21⟩, ⟨22, [], .int .i64 (w64 ((w64 ((w64 (bShr .u64 (wu64 (w64 (u1 + u3))) 1)) + u2)) - 1))⟩, ⟨23, [], .int .i64 (w64 (bShr .u64 (wu64 (w64 (x20v + x21))) 1))⟩, ⟨158, [], ud158⟩, ⟨159, [], ud159⟩, ⟨160, [], ud160⟩, ⟨161, [], ud161⟩, ⟨162, [], ud162⟩, ⟨163, [], ud163⟩, ⟨164, [], ud164⟩, ⟨165, [], ud165⟩, ⟨166, [], ud166⟩, ⟨167, [], ud167⟩, ⟨168, [], ud168⟩, ⟨169, [], ud169⟩, ⟨170, [], ud170⟩, ⟨171, [], ud171⟩] a ∧ Mem B [] w0 Z0 (rh0 :: Rr) Z w1 ∧ (S 0 = true → ud158 = .func (.func fid3) #[] caps4) ∧ (S 1 = true → ud159 = .slice ao1 u0.length cap2) ∧ (S 2 = true → ud160 = .int .i64 (w64 ((w64 ((w64 (bShr .u64 (wu64 (w64 (u1 + u3))) 1)) + u2)) - 1))) ∧ (S 3 = true → ud161 = .int .i64 (w64 (bShr .u64 (wu64 (w64 (x20v + x21))) 1))) ∧ (S 4 = true → ud162 = .int .i64 (w64 ((w64 ((w64 ((w64 (bShr .u64 (wu64 (w64 (u1 + u3))) 1)) + u2)) - 1)) - (w64 (bShr .u64 (wu64 (w64 (x20v + x21))) 1))))) ∧ (S 5 = true → ud163 = .pointer (some ⟨g1303, (w64 ((w64 ((w64 ((w64 (bShr .u64 (wu64 (w64 (u1 + u3))) 1)) + u2)) - 1)) - (w64 (bShr .u64 (wu64 (w64 (x20v + x21))) 1)))).toNat * 3, none⟩)) ∧ (S 6 = true → ud164 = .agg #[.int .i64 qd6_0.task, .int .i64 qd6_0.from_, .int .i64 qd6_0.asked]) ∧ (S 7 = true → ud165 = .slice ao1 u0.length cap2) ∧ (S 8 = true → ud166 = .int .i64 (w64 (bShr .u64 (wu64 (w64 (x20v + x21))) 1))) ∧ (S 9 = true → ud167 = .pointer (some ⟨g1316, (w64 (bShr .u64 (wu64 (w64 (x20v + x21))) 1)).toNat * 3, none⟩)) ∧ (S 10 = true → ud168 = .agg #[.int .i64 qd10_0.task, .int .i64 qd10_0.from_, .int .i64 qd10_0.asked]) ∧ (S 11 = true → ud169 = .int .i64 (u4 qd6_0 qd10_0)) ∧ (S 12 = true → ud170 = .bool (decide ((u4 qd6_0 qd10_0) < 0))) ∧ (S 13 = true → ud171 = .bool (!(decide ((u4 qd6_0 qd10_0) < 0)))) ∧ (rh0 = .own tyJob 110 ao1 cap2 u0) ∧ (S 5 = true → ao1 = some ⟨g1303, 0, none⟩) ∧ (S 9 = true → ao1 = some ⟨g1316, 0, none⟩)) ?h0 ?hs ?hE)
     case h0 =>
      have hF1339 := hF1292.any 158
      have hF1340 := hF1339.any 159
      have hF1341 := hF1340.any 160
      have hF1342 := hF1341.any 161
      have hF1343 := hF1342.any 162
      have hF1344 := hF1343.any 163
      have hF1345 := hF1344.any 164
      have hF1346 := hF1345.any 165
      have hF1347 := hF1346.any 166
      have hF1348 := hF1347.any 167
      have hF1349 := hF1348.any 168
      have hF1350 := hF1349.any 169
      have hF1351 := hF1350.any 170
      have hF1352 := hF1351.any 171
      have hM1353 := (hM1266.perm lpr).drew
      exact ⟨0, 0, a1290.tmps.getD 158 undef, a1290.tmps.getD 159 undef, a1290.tmps.getD 160 undef, a1290.tmps.getD 161 undef, a1290.tmps.getD 162 undef, a1290.tmps.getD 163 undef, a1290.tmps.getD 164 undef, a1290.tmps.getD 165 undef, a1290.tmps.getD 166 undef, a1290.tmps.getD 167 undef, a1290.tmps.getD 168 undef, a1290.tmps.getD 169 undef, a1290.tmps.getD 170 undef, a1290.tmps.getD 171 undef, .own tyJob 110 ao1 cap2 u0, Fz.le.refl _, hF1352.reg, hM1353, ff, ff, ff, ff, ff, ff, ff, ff, ff, ff, ff, ff, ff, ff, rfl, ff, ff⟩
     case hs =>
      intro S hcl i o hil hi hSi hpre a w1 hI; refine Go.Sy.hid ?_; intro G hG; obtain ⟨g1303, g1316, ud158, ud159, ud160, ud161, ud162, ud163, ud164, ud165, ud166, ud167, ud168, ud169, ud170, ud171, rh0, hle1338, hFx, hMx, cu158, cu159, cu160, cu161, cu162, cu163, cu164, cu165, cu166, cu167, cu168, cu169, cu170, cu171, cr0_0, cf0, hI⟩ := hI; have cf1 := hI; clear hI
      have hcase : i = 0 ∨ i = 1 ∨ i = 2 ∨ i = 3 ∨ i = 4 ∨ i = 5 ∨ i = 6 ∨ i = 7 ∨ i = 8 ∨ i = 9 ∨ i = 10 ∨ i = 11 ∨ i = 12 ∨ i = 13 := by clear hi; omega
      rcases hcase with rfl | rfl | rfl | rfl | rfl | rfl | rfl | rfl | rfl | rfl | rfl | rfl | rfl | rfl
      ·
       obtain rfl := oj hi
       have hx0 := hSi
       have hx11 := ngF hcl 11 0 hx0
       have hx12 := ngF hcl 12 11 hx11
       have hx13 := ngF hcl 13 12 hx12
       obtain rfl := cr0_0
       refine hG (any_step ?_); clear hG G; intro A J hJ
       have hle0 := Fz.le.trans hle0 hle1338
       refine s1 hFx 158 (.func (.func fid3) #[] caps4) ?_; intro a1354 hF1355; clear hFx
       refine nl (qnI (hJ _ _ ?_)); clear hJ J
       exact ⟨g1303, g1316, .func (.func fid3) #[] caps4, ud159, ud160, ud161, ud162, ud163, ud164, ud165, ud166, ud167, ud168, ud169, ud170, ud171, .own tyJob 110 ao1 cap2 u0, hle1338, hF1355.reg, hMx.perm lpr, kf, cu159, cu160, cu161, cu162, cu163, cu164, cu165, cu166, cu167, cu168, (nt hx11), (nt hx12), (nt hx13), rfl, cf0, cf1⟩
      ·
       obtain rfl := oj hi
       have hx1 := hSi
       have hx5 := ngF hcl 5 1 hx1
       have hx6 := ngF hcl 6 5 hx5
       have hx11 := ngF hcl 11 6 hx6
       have hx12 := ngF hcl 12 11 hx11
       have hx13 := ngF hcl 13 12 hx12
       obtain rfl := cr0_0
       refine hG (any_step ?_); clear hG G; intro A J hJ
       have hle0 := Fz.le.trans hle0 hle1338
       refine s1 hFx 159 (.slice ao1 u0.length cap2) ?_; intro a1357 hF1358; clear hFx
       refine nl (qnI (hJ _ _ ?_)); clear hJ J
       exact ⟨g1303, g1316, ud158, .slice ao1 u0.length cap2, ud160, ud161, ud162, ud163, ud164, ud165, ud166, ud167, ud168, ud169, ud170, ud171, .own tyJob 110 ao1 cap2 u0, hle1338, hF1358.reg, hMx.perm lpr, cu158, kf, cu160, cu161, cu162, (nt hx5), (nt hx6), cu165, cu166, cu167, cu168, (nt hx11), (nt hx12), (nt hx13), rfl, (nt hx5), cf1⟩
      ·
       obtain rfl := oj hi
       have hx2 := hSi
       have hx4 := ngF hcl 4 2 hx2
       have hx5 := ngF hcl 5 4 hx4
       have hx6 := ngF hcl 6 5 hx5
       have hx11 := ngF hcl 11 6 hx6
       have hx12 := ngF hcl 12 11 hx11
       have hx13 := ngF hcl 13 12 hx12
       obtain rfl := cr0_0
       refine hG (any_step ?_); clear hG G; intro A J hJ
       have hle0 := Fz.le.trans hle0 hle1338
       refine s1 hFx 160 (.int .i64 (w64 ((w64 ((w64 (bShr .u64 (wu64 (w64 (u1 + u3))) 1)) + u2)) - 1))) ?_; intro a1360 hF1361; clear hFx
       refine nl (qnI (hJ _ _ ?_)); clear hJ J
       exact ⟨g1303, g1316, ud158, ud159, .int .i64 (w64 ((w64 ((w64 (bShr .u64 (wu64 (w64 (u1 + u3))) 1)) + u2)) - 1)), ud161, ud162, ud163, ud164, ud165, ud166, ud167, ud168, ud169, ud170, ud171, .own tyJob 110 ao1 cap2 u0, hle1338, hF1361.reg, hMx.perm lpr, cu158, cu159, kf, cu161, (nt hx4), (nt hx5), (nt hx6), cu165, cu166, cu167, cu168, (nt hx11), (nt hx12), (nt hx13), rfl, (nt hx5), cf1⟩
      ·
       obtain rfl := oj hi
       have hx3 := hSi
       have hx4 := ngF hcl 4 3 hx3
       have hx5 := ngF hcl 5 4 hx4
       have hx6 := ngF hcl 6 5 hx5
       have hx11 := ngF hcl 11 6 hx6
       have hx12 := ngF hcl 12 11 hx11
       have hx13 := ngF hcl 13 12 hx12
       obtain rfl := cr0_0
       refine hG (any_step ?_); clear hG G; intro A J hJ
       have hle0 := Fz.le.trans hle0 hle1338
       refine s1 hFx 161 (.int .i64 (w64 (bShr .u64 (wu64 (w64 (x20v + x21))) 1))) ?_; intro a1363 hF1364; clear hFx
       refine nl (qnI (hJ _ _ ?_)); clear hJ J
       exact ⟨g1303, g1316, ud158, ud159, ud160, .int .i64 (w64 (bShr .u64 (wu64 (w64 (x20v + x21))) 1)), ud162, ud163, ud164, ud165, ud166, ud167, ud168, ud169, ud170, ud171, .own tyJob 110 ao1 cap2 u0, hle1338, hF1364.reg, hMx.perm lpr, cu158, cu159, cu160, kf, (nt hx4), (nt hx5), (nt hx6), cu165, cu166, cu167, cu168, (nt hx11), (nt hx12), (nt hx13), rfl, (nt hx5), cf1⟩
      ·
       obtain rfl := oj hi
       have hx3 := hpre 3 (by kernel_rfl)
       have hx2 := hpre 2 (by kernel_rfl)
       have hx4 := hSi
       have hx5 := ngF hcl 5 4 hx4
       have hx6 := ngF hcl 6 5 hx5
       have hx11 := ngF hcl 11 6 hx6
       have hx12 := ngF hcl 12 11 hx11
       have hx13 := ngF hcl 13 12 hx12
       obtain rfl := cu160 hx2
       obtain rfl := cu161 hx3
       obtain rfl := cr0_0
       refine hG (any_step ?_); clear hG G; intro A J hJ
       have hle0 := Fz.le.trans hle0 hle1338
       refine s1 hFx 162 (.int .i64 (w64 ((w64 ((w64 ((w64 (bShr .u64 (wu64 (w64 (u1 + u3))) 1)) + u2)) - 1)) - (w64 (bShr .u64 (wu64 (w64 (x20v + x21))) 1))))) ?_; intro a1366 hF1367; clear hFx
       refine nl (qnI (hJ _ _ ?_)); clear hJ J
       exact ⟨g1303, g1316, ud158, ud159, .int .i64 (w64 ((w64 ((w64 (bShr .u64 (wu64 (w64 (u1 + u3))) 1)) + u2)) - 1)), .int .i64 (w64 (bShr .u64 (wu64 (w64 (x20v + x21))) 1)), .int .i64 (w64 ((w64 ((w64 ((w64 (bShr .u64 (wu64 (w64 (u1 + u3))) 1)) + u2)) - 1)) - (w64 (bShr .u64 (wu64 (w64 (x20v + x21))) 1)))), ud163, ud164, ud165, ud166, ud167, ud168, ud169, ud170, ud171, .own tyJob 110 ao1 cap2 u0, hle1338, hF1367.reg, hMx.perm lpr, cu158, cu159, kf, kf, kf, (nt hx5), (nt hx6), cu165, cu166, cu167, cu168, (nt hx11), (nt hx12), (nt hx13), rfl, (nt hx5), cf1⟩
      ·
       obtain rfl := oj hi
       have hx4 := hpre 4 (by kernel_rfl)
       have hx1 := hpre 1 (by kernel_rfl)
       have hx3 := hcl 4 3 (by kernel_rfl) hx4
       have hx2 := hcl 4 2 (by kernel_rfl) hx4
       have hx5 := hSi
       have hx6 := ngF hcl 6 5 hx5
       have hx11 := ngF hcl 11 6 hx6
       have hx12 := ngF hcl 12 11 hx11
       have hx13 := ngF hcl 13 12 hx12
       obtain rfl := cu159 hx1
       obtain rfl := cu160 hx2
       obtain rfl := cu161 hx3
       obtain rfl := cu162 hx4
       obtain rfl := cr0_0
       refine hG (any_step ?_); clear hG G; intro A J hJ
       have hle0 := Fz.le.trans hle0 hle1338
       refine ixo hFx hMx 0 (T := tyJob) (xs := u0) (w64 ((w64 ((w64 ((w64 (bShr .u64 (wu64 (w64 (u1 + u3))) 1)) + u2)) - 1)) - (w64 (bShr .u64 (wu64 (w64 (x20v + x21))) 1)))) (by simpa only [List.length_set] using hcd5_0) (k := .i64) (e := 110) (bytes := 24) (nog rfl _) rfl (by kernel_rfl) rfl (by kernel_rfl) (by kernel_rfl) rfl (by kernel_rfl) ?_; intro g1369 a1371 hg1370 hF1372; clear hFx
       refine nl (qnI (hJ _ _ ?_)); clear hJ J
       exact ⟨g1369, g1316, ud158, .slice ao1 u0.length cap2, .int .i64 (w64 ((w64 ((w64 (bShr .u64 (wu64 (w64 (u1 + u3))) 1)) + u2)) - 1)), .int .i64 (w64 (bShr .u64 (wu64 (w64 (x20v + x21))) 1)), .int .i64 (w64 ((w64 ((w64 ((w64 (bShr .u64 (wu64 (w64 (u1 + u3))) 1)) + u2)) - 1)) - (w64 (bShr .u64 (wu64 (w64 (x20v + x21))) 1)))), .pointer (some ⟨g1369, (w64 ((w64 ((w64 ((w64 (bShr .u64 (wu64 (w64 (u1 + u3))) 1)) + u2)) - 1)) - (w64 (bShr .u64 (wu64 (w64 (x20v + x21))) 1)))).toNat * 3, none⟩), ud164, ud165, ud166, ud167, ud168, ud169, ud170, ud171, .own tyJob 110 ao1 cap2 u0, hle1338, hF1372.reg, hMx.perm lpr, cu158, kf, kf, kf, kf, kf, (nt hx6), cu165, cu166, cu167, cu168, (nt hx11), (nt hx12), (nt hx13), rfl, (fun _ => hg1370), cf1⟩
      ·
       obtain rfl := oj hi
       have hx5 := hpre 5 (by kernel_rfl)
       have hx4 := hcl 5 4 (by kernel_rfl) hx5
       have hx1 := hcl 5 1 (by kernel_rfl) hx5
       have hx3 := hcl 4 3 (by kernel_rfl) hx4
       have hx2 := hcl 4 2 (by kernel_rfl) hx4
       have hx6 := hSi
       have hx11 := ngF hcl 11 6 hx6
       have hx12 := ngF hcl 12 11 hx11
       have hx13 := ngF hcl 13 12 hx12
       obtain rfl := cu159 hx1
       obtain rfl := cu160 hx2
       obtain rfl := cu161 hx3
       obtain rfl := cu162 hx4
       obtain rfl := cu163 hx5
       obtain rfl := cr0_0
       refine hG (any_step ?_); clear hG G; intro A J hJ
       have hle0 := Fz.le.trans hle0 hle1338
       have hs1374 := cf0 hx5
       obtain ⟨cs1375, hT1376, hcl1377⟩ := own_elx hMx 0 (T := tyJob) (xs := u0) rfl hs1374 (w64 ((w64 ((w64 ((w64 (bShr .u64 (wu64 (w64 (u1 + u3))) 1)) + u2)) - 1)) - (w64 (bShr .u64 (wu64 (w64 (x20v + x21))) 1)))).toNat hqd6_0
       obtain rfl : cs1375 = ([.int .i64 qd6_0.task, .int .i64 qd6_0.from_, .int .i64 qd6_0.asked] : List Value) := hT1376
       refine lc2 hFx 164 3 [.int .i64 qd6_0.task, .int .i64 qd6_0.from_, .int .i64 qd6_0.asked] hcl1377 rfl ?_; intro a1378 hF1379; clear hFx
       refine nl (qnI (hJ _ _ ?_)); clear hJ J
       exact ⟨g1303, g1316, ud158, .slice ao1 u0.length cap2, .int .i64 (w64 ((w64 ((w64 (bShr .u64 (wu64 (w64 (u1 + u3))) 1)) + u2)) - 1)), .int .i64 (w64 (bShr .u64 (wu64 (w64 (x20v + x21))) 1)), .int .i64 (w64 ((w64 ((w64 ((w64 (bShr .u64 (wu64 (w64 (u1 + u3))) 1)) + u2)) - 1)) - (w64 (bShr .u64 (wu64 (w64 (x20v + x21))) 1)))), .pointer (some ⟨g1303, (w64 ((w64 ((w64 ((w64 (bShr .u64 (wu64 (w64 (u1 + u3))) 1)) + u2)) - 1)) - (w64 (bShr .u64 (wu64 (w64 (x20v + x21))) 1)))).toNat * 3, none⟩), .agg #[.int .i64 qd6_0.task, .int .i64 qd6_0.from_, .int .i64 qd6_0.asked], ud165, ud166, ud167, ud168, ud169, ud170, ud171, .own tyJob 110 ao1 cap2 u0, hle1338, hF1379.reg, hMx.perm lpr, cu158, kf, kf, kf, kf, kf, kf, cu165, cu166, cu167, cu168, (nt hx11), (nt hx12), (nt hx13), rfl, (fun _ => hs1374), cf1⟩
      ·
       obtain rfl := oj hi
       have hx7 := hSi
       have hx9 := ngF hcl 9 7 hx7
       have hx10 := ngF hcl 10 9 hx9
       have hx11 := ngF hcl 11 10 hx10
       have hx12 := ngF hcl 12 11 hx11
       have hx13 := ngF hcl 13 12 hx12
       obtain rfl := cr0_0
       refine hG (any_step ?_); clear hG G; intro A J hJ
       have hle0 := Fz.le.trans hle0 hle1338
       refine s1 hFx 165 (.slice ao1 u0.length cap2) ?_; intro a1381 hF1382; clear hFx
       refine nl (qnI (hJ _ _ ?_)); clear hJ J
       exact ⟨g1303, g1316, ud158, ud159, ud160, ud161, ud162, ud163, ud164, .slice ao1 u0.length cap2, ud166, ud167, ud168, ud169, ud170, ud171, .own tyJob 110 ao1 cap2 u0, hle1338, hF1382.reg, hMx.perm lpr, cu158, cu159, cu160, cu161, cu162, cu163, cu164, kf, cu166, (nt hx9), (nt hx10), (nt hx11), (nt hx12), (nt hx13), rfl, cf0, (nt hx9)⟩
      ·
       obtain rfl := oj hi
       have hx8 := hSi
       have hx9 := ngF hcl 9 8 hx8
       have hx10 := ngF hcl 10 9 hx9
       have hx11 := ngF hcl 11 10 hx10
       have hx12 := ngF hcl 12 11 hx11
       have hx13 := ngF hcl 13 12 hx12
       obtain rfl := cr0_0
       refine hG (any_step ?_); clear hG G; intro A J hJ
       have hle0 := Fz.le.trans hle0 hle1338
       refine s1 hFx 166 (.int .i64 (w64 (bShr .u64 (wu64 (w64 (x20v + x21))) 1))) ?_; intro a1384 hF1385; clear hFx
       refine nl (qnI (hJ _ _ ?_)); clear hJ J
       exact ⟨g1303, g1316, ud158, ud159, ud160, ud161, ud162, ud163, ud164, ud165, .int .i64 (w64 (bShr .u64 (wu64 (w64 (x20v + x21))) 1)), ud167, ud168, ud169, ud170, ud171, .own tyJob 110 ao1 cap2 u0, hle1338, hF1385.reg, hMx.perm lpr, cu158, cu159, cu160, cu161, cu162, cu163, cu164, cu165, kf, (nt hx9), (nt hx10), (nt hx11), (nt hx12), (nt hx13), rfl, cf0, (nt hx9)⟩
      ·
       obtain rfl := oj hi
       have hx8 := hpre 8 (by kernel_rfl)
       have hx7 := hpre 7 (by kernel_rfl)
       have hx9 := hSi
       have hx10 := ngF hcl 10 9 hx9
       have hx11 := ngF hcl 11 10 hx10
       have hx12 := ngF hcl 12 11 hx11
       have hx13 := ngF hcl 13 12 hx12
       obtain rfl := cu165 hx7
       obtain rfl := cu166 hx8
       obtain rfl := cr0_0
       refine hG (any_step ?_); clear hG G; intro A J hJ
       have hle0 := Fz.le.trans hle0 hle1338
       refine ixo hFx hMx 0 (T := tyJob) (xs := u0) (w64 (bShr .u64 (wu64 (w64 (x20v + x21))) 1)) (by simpa only [List.length_set] using hcd9_0) (k := .i64) (e := 110) (bytes := 24) (nog rfl _) rfl (by kernel_rfl) rfl (by kernel_rfl) (by kernel_rfl) rfl (by kernel_rfl) ?_; intro g1387 a1389 hg1388 hF1390; clear hFx
       refine nl (qnI (hJ _ _ ?_)); clear hJ J
       exact ⟨g1303, g1387, ud158, ud159, ud160, ud161, ud162, ud163, ud164, .slice ao1 u0.length cap2, .int .i64 (w64 (bShr .u64 (wu64 (w64 (x20v + x21))) 1)), .pointer (some ⟨g1387, (w64 (bShr .u64 (wu64 (w64 (x20v + x21))) 1)).toNat * 3, none⟩), ud168, ud169, ud170, ud171, .own tyJob 110 ao1 cap2 u0, hle1338, hF1390.reg, hMx.perm lpr, cu158, cu159, cu160, cu161, cu162, cu163, cu164, kf, kf, kf, (nt hx10), (nt hx11), (nt hx12), (nt hx13), rfl, cf0, (fun _ => hg1388)⟩
      ·
       obtain rfl := oj hi
       have hx9 := hpre 9 (by kernel_rfl)
       have hx8 := hcl 9 8 (by kernel_rfl) hx9
       have hx7 := hcl 9 7 (by kernel_rfl) hx9
       have hx10 := hSi
       have hx11 := ngF hcl 11 10 hx10
       have hx12 := ngF hcl 12 11 hx11
       have hx13 := ngF hcl 13 12 hx12
       obtain rfl := cu165 hx7
       obtain rfl := cu166 hx8
       obtain rfl := cu167 hx9
       obtain rfl := cr0_0
       refine hG (any_step ?_); clear hG G; intro A J hJ
       have hle0 := Fz.le.trans hle0 hle1338
       have hs1392 := cf1 hx9
       obtain ⟨cs1393, hT1394, hcl1395⟩ := own_elx hMx 0 (T := tyJob) (xs := u0) rfl hs1392 (w64 (bShr .u64 (wu64 (w64 (x20v + x21))) 1)).toNat hqd10_0
       obtain rfl : cs1393 = ([.int .i64 qd10_0.task, .int .i64 qd10_0.from_, .int .i64 qd10_0.asked] : List Value) := hT1394
       refine lc2 hFx 168 3 [.int .i64 qd10_0.task, .int .i64 qd10_0.from_, .int .i64 qd10_0.asked] hcl1395 rfl ?_; intro a1396 hF1397; clear hFx
       refine nl (qnI (hJ _ _ ?_)); clear hJ J
       exact ⟨g1303, g1316, ud158, ud159, ud160, ud161, ud162, ud163, ud164, .slice ao1 u0.length cap2, .int .i64 (w64 (bShr .u64 (wu64 (w64 (x20v + x21))) 1)), .pointer (some ⟨g1316, (w64 (bShr .u64 (wu64 (w64 (x20v + x21))) 1)).toNat * 3, none⟩), .agg #[.int .i64 qd10_0.task, .int .i64 qd10_0.from_, .int .i64 qd10_0.asked], ud169, ud170, ud171, .own tyJob 110 ao1 cap2 u0, hle1338, hF1397.reg, hMx.perm lpr, cu158, cu159, cu160, cu161, cu162, cu163, cu164, kf, kf, kf, kf, (nt hx11), (nt hx12), (nt hx13), rfl, cf0, (fun _ => hs1392)⟩
      ·
       obtain rfl := oj hi
       have hx10 := hpre 10 (by kernel_rfl)
       have hx6 := hpre 6 (by kernel_rfl)
       have hx0 := hpre 0 (by kernel_rfl)
       have hx9 := hcl 10 9 (by kernel_rfl) hx10
       have hx5 := hcl 6 5 (by kernel_rfl) hx6
       have hx8 := hcl 9 8 (by kernel_rfl) hx9
       have hx7 := hcl 9 7 (by kernel_rfl) hx9
       have hx4 := hcl 5 4 (by kernel_rfl) hx5
       have hx1 := hcl 5 1 (by kernel_rfl) hx5
       have hx3 := hcl 4 3 (by kernel_rfl) hx4
       have hx2 := hcl 4 2 (by kernel_rfl) hx4
       have hx11 := hSi
       have hx12 := ngF hcl 12 11 hx11
       have hx13 := ngF hcl 13 12 hx12
       obtain rfl := cu158 hx0
       obtain rfl := cu159 hx1
       obtain rfl := cu160 hx2
       obtain rfl := cu161 hx3
       obtain rfl := cu162 hx4
       obtain rfl := cu163 hx5
       obtain rfl := cu164 hx6
       obtain rfl := cu165 hx7
       obtain rfl := cu166 hx8
       obtain rfl := cu167 hx9
       obtain rfl := cu168 hx10
       obtain rfl := cr0_0
       refine hG (any_step ?_); clear hG G; intro A J hJ
       have hle0 := Fz.le.trans hle0 hle1338
       have hs1399 := cf0 hx5
       have hs1400 := cf1 hx9
       have hc1405 := hf5 _ _ hle0 hMx.fz qd6_0 qd10_0
       refine fcl hFx hMx (.int .i64 (u4 qd6_0 qd10_0)) fid3 (#[.agg #[.int .i64 qd6_0.task, .int .i64 qd6_0.from_, .int .i64 qd6_0.asked], .agg #[.int .i64 qd10_0.task, .int .i64 qd10_0.from_, .int .i64 qd10_0.asked]] ++ caps4) (nog rfl _) rfl (by kernel_rfl) ?h1 ?h2 ?_
       case h1 => exact fv_run rfl (by kernel_rfl) (by kernel_rfl) hg6
       case h2 => exact hc1405
       intro a1401 wd1403 hF1402 hM1404; clear hFx hMx
       refine nl (qnI (hJ _ _ ?_)); clear hJ J
       exact ⟨g1303, g1316, .func (.func fid3) #[] caps4, .slice ao1 u0.length cap2, .int .i64 (w64 ((w64 ((w64 (bShr .u64 (wu64 (w64 (u1 + u3))) 1)) + u2)) - 1)), .int .i64 (w64 (bShr .u64 (wu64 (w64 (x20v + x21))) 1)), .int .i64 (w64 ((w64 ((w64 ((w64 (bShr .u64 (wu64 (w64 (u1 + u3))) 1)) + u2)) - 1)) - (w64 (bShr .u64 (wu64 (w64 (x20v + x21))) 1)))), .pointer (some ⟨g1303, (w64 ((w64 ((w64 ((w64 (bShr .u64 (wu64 (w64 (u1 + u3))) 1)) + u2)) - 1)) - (w64 (bShr .u64 (wu64 (w64 (x20v + x21))) 1)))).toNat * 3, none⟩), .agg #[.int .i64 qd6_0.task, .int .i64 qd6_0.from_, .int .i64 qd6_0.asked], .slice ao1 u0.length cap2, .int .i64 (w64 (bShr .u64 (wu64 (w64 (x20v + x21))) 1)), .pointer (some ⟨g1316, (w64 (bShr .u64 (wu64 (w64 (x20v + x21))) 1)).toNat * 3, none⟩), .agg #[.int .i64 qd10_0.task, .int .i64 qd10_0.from_, .int .i64 qd10_0.asked], .int .i64 (u4 qd6_0 qd10_0), ud170, ud171, .own tyJob 110 ao1 cap2 u0, hle1338, hF1402.reg, hM1404.perm lpr, kf, kf, kf, kf, kf, kf, kf, kf, kf, kf, kf, kf, (nt hx12), (nt hx13), rfl, (fun _ => hs1399), (fun _ => hs1400)⟩
      ·
       obtain rfl := oj hi
       have hx11 := hpre 11 (by kernel_rfl)
       have hx10 := hcl 11 10 (by kernel_rfl) hx11
       have hx6 := hcl 11 6 (by kernel_rfl) hx11
       have hx0 := hcl 11 0 (by kernel_rfl) hx11
       have hx9 := hcl 10 9 (by kernel_rfl) hx10
       have hx5 := hcl 6 5 (by kernel_rfl) hx6
       have hx8 := hcl 9 8 (by kernel_rfl) hx9
       have hx7 := hcl 9 7 (by kernel_rfl) hx9
       have hx4 := hcl 5 4 (by kernel_rfl) hx5
       have hx1 := hcl 5 1 (by kernel_rfl) hx5
       have hx3 := hcl 4 3 (by kernel_rfl) hx4
       have hx2 := hcl 4 2 (by kernel_rfl) hx4
       have hx12 := hSi
       have hx13 := ngF hcl 13 12 hx12
       obtain rfl := cu158 hx0
       obtain rfl := cu159 hx1
       obtain rfl := cu160 hx2
       obtain rfl := cu161 hx3
       obtain rfl := cu162 hx4
       obtain rfl := cu163 hx5
       obtain rfl := cu164 hx6
       obtain rfl := cu165 hx7
       obtain rfl := cu166 hx8
       obtain rfl := cu167 hx9
       obtain rfl := cu168 hx10
       obtain rfl := cu169 hx11
       obtain rfl := cr0_0
       refine hG (any_step ?_); clear hG G; intro A J hJ
       have hle0 := Fz.le.trans hle0 hle1338
       have hs1407 := cf0 hx5
       have hs1408 := cf1 hx9
       refine s1 hFx 170 (.bool (decide ((u4 qd6_0 qd10_0) < 0))) ?_; intro a1409 hF1410; clear hFx
       refine nl (qnI (hJ _ _ ?_)); clear hJ J
       exact ⟨g1303, g1316, .func (.func fid3) #[] caps4, .slice ao1 u0.length cap2, .int .i64 (w64 ((w64 ((w64 (bShr .u64 (wu64 (w64 (u1 + u3))) 1)) + u2)) - 1)), .int .i64 (w64 (bShr .u64 (wu64 (w64 (x20v + x21))) 1)), .int .i64 (w64 ((w64 ((w64 ((w64 (bShr .u64 (wu64 (w64 (u1 + u3))) 1)) + u2)) - 1)) - (w64 (bShr .u64 (wu64 (w64 (x20v + x21))) 1)))), .pointer (some ⟨g1303, (w64 ((w64 ((w64 ((w64 (bShr .u64 (wu64 (w64 (u1 + u3))) 1)) + u2)) - 1)) - (w64 (bShr .u64 (wu64 (w64 (x20v + x21))) 1)))).toNat * 3, none⟩), .agg #[.int .i64 qd6_0.task, .int .i64 qd6_0.from_, .int .i64 qd6_0.asked], .slice ao1 u0.length cap2, .int .i64 (w64 (bShr .u64 (wu64 (w64 (x20v + x21))) 1)), .pointer (some ⟨g1316, (w64 (bShr .u64 (wu64 (w64 (x20v + x21))) 1)).toNat * 3, none⟩), .agg #[.int .i64 qd10_0.task, .int .i64 qd10_0.from_, .int .i64 qd10_0.asked], .int .i64 (u4 qd6_0 qd10_0), .bool (decide ((u4 qd6_0 qd10_0) < 0)), ud171, .own tyJob 110 ao1 cap2 u0, hle1338, hF1410.reg, hMx.perm lpr, kf, kf, kf, kf, kf, kf, kf, kf, kf, kf, kf, kf, kf, (nt hx13), rfl, (fun _ => hs1407), (fun _ => hs1408)⟩
      ·
       obtain rfl := oj hi
       have hx12 := hpre 12 (by kernel_rfl)
       have hx11 := hcl 12 11 (by kernel_rfl) hx12
       have hx10 := hcl 11 10 (by kernel_rfl) hx11
       have hx6 := hcl 11 6 (by kernel_rfl) hx11
       have hx0 := hcl 11 0 (by kernel_rfl) hx11
       have hx9 := hcl 10 9 (by kernel_rfl) hx10
       have hx5 := hcl 6 5 (by kernel_rfl) hx6
       have hx8 := hcl 9 8 (by kernel_rfl) hx9
       have hx7 := hcl 9 7 (by kernel_rfl) hx9
       have hx4 := hcl 5 4 (by kernel_rfl) hx5
       have hx1 := hcl 5 1 (by kernel_rfl) hx5
       have hx3 := hcl 4 3 (by kernel_rfl) hx4
       have hx2 := hcl 4 2 (by kernel_rfl) hx4
       have hx13 := hSi
       obtain rfl := cu158 hx0
       obtain rfl := cu159 hx1
       obtain rfl := cu160 hx2
       obtain rfl := cu161 hx3
       obtain rfl := cu162 hx4
       obtain rfl := cu163 hx5
       obtain rfl := cu164 hx6
       obtain rfl := cu165 hx7
       obtain rfl := cu166 hx8
       obtain rfl := cu167 hx9
       obtain rfl := cu168 hx10
       obtain rfl := cu169 hx11
       obtain rfl := cu170 hx12
       obtain rfl := cr0_0
       refine hG (any_step ?_); clear hG G; intro A J hJ
       have hle0 := Fz.le.trans hle0 hle1338
       have hs1412 := cf0 hx5
       have hs1413 := cf1 hx9
       refine s1 hFx 171 (.bool (!(decide ((u4 qd6_0 qd10_0) < 0)))) ?_; intro a1414 hF1415; clear hFx
       refine nl (qnI (hJ _ _ ?_)); clear hJ J
       exact ⟨g1303, g1316, .func (.func fid3) #[] caps4, .slice ao1 u0.length cap2, .int .i64 (w64 ((w64 ((w64 (bShr .u64 (wu64 (w64 (u1 + u3))) 1)) + u2)) - 1)), .int .i64 (w64 (bShr .u64 (wu64 (w64 (x20v + x21))) 1)), .int .i64 (w64 ((w64 ((w64 ((w64 (bShr .u64 (wu64 (w64 (u1 + u3))) 1)) + u2)) - 1)) - (w64 (bShr .u64 (wu64 (w64 (x20v + x21))) 1)))), .pointer (some ⟨g1303, (w64 ((w64 ((w64 ((w64 (bShr .u64 (wu64 (w64 (u1 + u3))) 1)) + u2)) - 1)) - (w64 (bShr .u64 (wu64 (w64 (x20v + x21))) 1)))).toNat * 3, none⟩), .agg #[.int .i64 qd6_0.task, .int .i64 qd6_0.from_, .int .i64 qd6_0.asked], .slice ao1 u0.length cap2, .int .i64 (w64 (bShr .u64 (wu64 (w64 (x20v + x21))) 1)), .pointer (some ⟨g1316, (w64 (bShr .u64 (wu64 (w64 (x20v + x21))) 1)).toNat * 3, none⟩), .agg #[.int .i64 qd10_0.task, .int .i64 qd10_0.from_, .int .i64 qd10_0.asked], .int .i64 (u4 qd6_0 qd10_0), .bool (decide ((u4 qd6_0 qd10_0) < 0)), .bool (!(decide ((u4 qd6_0 qd10_0) < 0))), .own tyJob 110 ao1 cap2 u0, hle1338, hF1415.reg, hMx.perm lpr, kf, kf, kf, kf, kf, kf, kf, kf, kf, kf, kf, kf, kf, kf, rfl, (fun _ => hs1412), (fun _ => hs1413)⟩
     case hE =>
      intro S hS a1417 wd1418 hI; refine Go.Sy.hid ?_; intro G hG; obtain ⟨g1303, g1316, ud158, ud159, ud160, ud161, ud162, ud163, ud164, ud165, ud166, ud167, ud168, ud169, ud170, ud171, rh0, hle1338, hFx, hMx, cu158, cu159, cu160, cu161, cu162, cu163, cu164, cu165, cu166, cu167, cu168, cu169, cu170, cu171, cr0_0, cf0, hI⟩ := hI; have cf1 := hI; clear hI; refine hG ?_; clear hG G
      obtain rfl := cu158 (hS 0 (by decide))
      obtain rfl := cu159 (hS 1 (by decide))
      obtain rfl := cu160 (hS 2 (by decide))
      obtain rfl := cu161 (hS 3 (by decide))
      obtain rfl := cu162 (hS 4 (by decide))
      obtain rfl := cu163 (hS 5 (by decide))
      obtain rfl := cu164 (hS 6 (by decide))
      obtain rfl := cu165 (hS 7 (by decide))
      obtain rfl := cu166 (hS 8 (by decide))
      obtain rfl := cu167 (hS 9 (by decide))
      obtain rfl := cu168 (hS 10 (by decide))
      obtain rfl := cu169 (hS 11 (by decide))
      obtain rfl := cu170 (hS 12 (by decide))
      obtain rfl := cu171 (hS 13 (by decide))
      obtain rfl := cr0_0
      have hle0 := Fz.le.trans hle0 hle1338
      have hs1419 := cf0 (hS 5 (by decide))
      have hs1420 := cf1 (hS 9 (by decide))
      refine thn ?_
      refine cd hFx (t := !(decide ((u4 qd6_0 qd10_0) < 0))) (by kernel_rfl) (fun hb1421 => ?_) (fun hb1421 => ?_)
      ·
       have hp1422 := hp1337.1 hb1421; clear hp1337
       have hF1423 : Fr 220 [] [⟨0, [], .slice ao1 u0.length cap2⟩, ⟨1, [], .int .i64 u1⟩, ⟨2, [], .int .i64 u2⟩, ⟨3, [], .int .i64 u3⟩, ⟨4, [], .func (.func fid3) #[] caps4⟩, ⟨18, [], .int .i64 (w64 (bShr .u64 (wu64 (w64 (u1 + u3))) 1))⟩, ⟨19, [], .int .i64 (w64 ((w64 (bShr .u64 (wu64 (w64 (u1 + u3))) 1)) + u2))⟩, ⟨21, [], .int .i64 x21⟩, ⟨22, [], .int .i64 (w64 ((w64 ((w64 (bShr .u64 (wu64 (w64 (u1 + u3))) 1)) + u2)) - 1))⟩, ⟨23, [], .int .i64 (w64 (bShr .u64 (wu64 (w64 (x20v + x21))) 1))⟩] a1417 := hFx.reg; clear hFx
       refine rgH ?_; intro hQ1424Q hQ1424
       refine s1 hF1423 172 (.int .i64 (w64 (bShr .u64 (wu64 (w64 (x20v + x21))) 1))) ?_; intro a1425 hF1426; clear hF1423
       refine s1 hF1426 173 (.int .i64 (w64 ((w64 (bShr .u64 (wu64 (w64 (x20v + x21))) 1)) + 1))) ?_; intro a1427 hF1428; clear hF1426
       refine s1 hF1428 20 (.int .i64 (w64 ((w64 (bShr .u64 (wu64 (w64 (x20v + x21))) 1)) + 1))) ?_; intro a1429 hF1430; clear hF1428
       refine nlH (hQ1424 _ _ ?_); clear hQ1424 hQ1424Q
       refine ibn ?_
       refine rd ?_
       exact ⟨⟨w64 ((w64 (bShr .u64 (wu64 (w64 (x20v + x21))) 1)) + 1), x21⟩, hp1422.1, hp1422.2, (hF1430.reg).anyβ _ (by kernel_rfl), hMx.keep (List.Sublist.cons_cons _ (List.Sublist.refl _))⟩
      ·
       have hp1431 := hp1337.2 hb1421; clear hp1337
       have hF1432 : Fr 220 [] [⟨0, [], .slice ao1 u0.length cap2⟩, ⟨1, [], .int .i64 u1⟩, ⟨2, [], .int .i64 u2⟩, ⟨3, [], .int .i64 u3⟩, ⟨4, [], .func (.func fid3) #[] caps4⟩, ⟨18, [], .int .i64 (w64 (bShr .u64 (wu64 (w64 (u1 + u3))) 1))⟩, ⟨19, [], .int .i64 (w64 ((w64 (bShr .u64 (wu64 (w64 (u1 + u3))) 1)) + u2))⟩, ⟨20, [], .int .i64 x20v⟩, ⟨22, [], .int .i64 (w64 ((w64 ((w64 (bShr .u64 (wu64 (w64 (u1 + u3))) 1)) + u2)) - 1))⟩, ⟨23, [], .int .i64 (w64 (bShr .u64 (wu64 (w64 (x20v + x21))) 1))⟩] a1417 := hFx.reg; clear hFx
       refine rgH ?_; intro hQ1433Q hQ1433
       refine s1 hF1432 174 (.int .i64 (w64 (bShr .u64 (wu64 (w64 (x20v + x21))) 1))) ?_; intro a1434 hF1435; clear hF1432
       refine s1 hF1435 21 (.int .i64 (w64 (bShr .u64 (wu64 (w64 (x20v + x21))) 1))) ?_; intro a1436 hF1437; clear hF1435
       refine nlH (hQ1433 _ _ ?_); clear hQ1433 hQ1433Q
       refine ibn ?_
       refine rd ?_
       exact ⟨⟨x20v, w64 (bShr .u64 (wu64 (w64 (x20v + x21))) 1)⟩, hp1431.1, hp1431.2, (hF1437.reg).anyβ _ (by kernel_rfl), hMx.keep (List.Sublist.cons_cons _ (List.Sublist.refl _))⟩
    ·
     have hp1438 := hp1267.2 hb1275; clear hp1267
     refine wp_exit ?_
     refine thx ?_
     refine thx ?_
     refine ibx ?_
     refine rd ?_
     exact hJ904 x20v hp1438 _ _ ((hF1274.reg).anyβ _ (by kernel_rfl)) (hM1266.keep (List.Sublist.cons_cons _ (List.Sublist.refl _)))
   ·
    have hp1439 := hp835.2 hb873; clear hp835
    refine sqH ?_; intro hQ1440Q hQ1440
    refine s1 hF872 145 (.int .i64 u1) ?_; intro a1441 hF1442; clear hF872
    refine s1 hF1442 20 (.int .i64 u1) ?_; intro a1443 hF1444; clear hF1442
    refine nlH (hQ1440 _ _ ?_); clear hQ1440 hQ1440Q
    refine rgH ?_; intro hQ1445Q hQ1445
    refine s1 hF1444 146 (.int .i64 u2) ?_; intro a1446 hF1447; clear hF1444
    refine s1 hF1447 21 (.int .i64 u2) ?_; intro a1448 hF1449; clear hF1447
    refine nlH (hQ1445 _ _ ?_); clear hQ1445 hQ1445Q
    refine thn ?_
    refine sqH ?_; intro hQ1450Q hQ1450
    refine s1 hF1449 147 (.int .i64 (w64 ((w64 (bShr .u64 (wu64 (w64 (u1 + u3))) 1)) + u2))) ?_; intro a1451 hF1452; clear hF1449
    refine s1 hF1452 148 (.int .i64 (w64 ((w64 ((w64 (bShr .u64 (wu64 (w64 (u1 + u3))) 1)) + u2)) - 1))) ?_; intro a1453 hF1454; clear hF1452
    refine s1 hF1454 22 (.int .i64 (w64 ((w64 ((w64 (bShr .u64 (wu64 (w64 (u1 + u3))) 1)) + u2)) - 1))) ?_; intro a1455 hF1456; clear hF1454
    refine nlH (hQ1450 _ _ ?_); clear hQ1450 hQ1450Q
    have hF1457 : Fr 220 [] [⟨0, [], .slice ao1 u0.length cap2⟩, ⟨1, [], .int .i64 u1⟩, ⟨2, [], .int .i64 u2⟩, ⟨3, [], .int .i64 u3⟩, ⟨4, [], .func (.func fid3) #[] caps4⟩, ⟨18, [], .int .i64 (w64 (bShr .u64 (wu64 (w64 (u1 + u3))) 1))⟩, ⟨19, [], .int .i64 (w64 ((w64 (bShr .u64 (wu64 (w64 (u1 + u3))) 1)) + u2))⟩, ⟨20, [], .int .i64 u1⟩, ⟨21, [], .int .i64 u2⟩, ⟨22, [], .int .i64 (w64 ((w64 ((w64 (bShr .u64 (wu64 (w64 (u1 + u3))) 1)) + u2)) - 1))⟩] a1455 := hF1456.reg; clear hF1456
    have hF1459 : Fr 220 [] [⟨0, [], .slice ao1 u0.length cap2⟩, ⟨1, [], .int .i64 u1⟩, ⟨2, [], .int .i64 u2⟩, ⟨3, [], .int .i64 u3⟩, ⟨4, [], .func (.func fid3) #[] caps4⟩, ⟨18, [], .int .i64 (w64 (bShr .u64 (wu64 (w64 (u1 + u3))) 1))⟩, ⟨19, [], .int .i64 (w64 ((w64 (bShr .u64 (wu64 (w64 (u1 + u3))) 1)) + u2))⟩, ⟨20, [], .int .i64 u1⟩, ⟨21, [], .int .i64 u2⟩, ⟨22, [], .int .i64 (w64 ((w64 ((w64 (bShr .u64 (wu64 (w64 (u1 + u3))) 1)) + u2)) - 1))⟩] a1455 := hF1457.reg; clear hF1457
    obtain ⟨inv1458, hp1460, hp1461⟩ := hp1439
    refine wp_seq_k fun KJ1462 hKJ1463 => ?_
    have hJ1464 : ∀ (x20 : Int), inv1458 x20 → ∀ a1 w1, Fr 220 [] [⟨0, [], .slice ao1 u0.length cap2⟩, ⟨1, [], .int .i64 u1⟩, ⟨2, [], .int .i64 u2⟩, ⟨3, [], .int .i64 u3⟩, ⟨4, [], .func (.func fid3) #[] caps4⟩, ⟨18, [], .int .i64 (w64 (bShr .u64 (wu64 (w64 (u1 + u3))) 1))⟩, ⟨19, [], .int .i64 (w64 ((w64 (bShr .u64 (wu64 (w64 (u1 + u3))) 1)) + u2))⟩, ⟨20, [], .int .i64 x20⟩] a1 → Mem B [] w0 Z0 ((.own tyJob 110 ao1 cap2 u0) :: Rr) Z w1 → KJ1462 a1 w1 := by
     rintro x20 hI1469 a1465 wd1466 hF1467 hM1468; clear hF1459 hM0
     refine hKJ1463 _ _ ?_; clear hKJ1463
     have hp1470 := hp1461 x20 hI1469
     refine sqH ?_; intro hQ1471Q hQ1471
     refine s1 hF1467 175 (.int .i64 (w64 ((w64 (bShr .u64 (wu64 (w64 (u1 + u3))) 1)) + u2))) ?_; intro a1472 hF1473; clear hF1467
     refine s1 hF1473 176 (.int .i64 x20) ?_; intro a1474 hF1475; clear hF1473
     refine s1 hF1475 177 (.int .i64 (w64 ((w64 ((w64 (bShr .u64 (wu64 (w64 (u1 + u3))) 1)) + u2)) - x20))) ?_; intro a1476 hF1477; clear hF1475
     refine s1 hF1477 24 (.int .i64 (w64 ((w64 ((w64 (bShr .u64 (wu64 (w64 (u1 + u3))) 1)) + u2)) - x20))) ?_; intro a1478 hF1479; clear hF1477
     refine nlH (hQ1471 _ _ ?_); clear hQ1471 hQ1471Q
     refine wp_seq ?_
     refine sqH ?_; intro hQ1480Q hQ1480
     refine s1 hF1479 178 (.int .i64 x20) ?_; intro a1481 hF1482; clear hF1479
     refine s1 hF1482 179 (.int .i64 u2) ?_; intro a1483 hF1484; clear hF1482
     refine s1 hF1484 180 (.bool (decide (x20 < u2))) ?_; intro a1485 hF1486; clear hF1484
     refine s1 hF1486 181 (.bool (decide (x20 < u2))) ?_; intro a1487 hF1488; clear hF1486
     have hF1489 := hF1488.atom ((decide (x20 < u2)) == true) (by kernel_rfl); clear hF1488
     refine gp hF1489 182 0 [] (decide (x20 < u2)) (.int .i64 u2) rfl rfl ?_; intro a1490 hF1491; clear hF1489
     refine gp hF1491 183 0 [] (decide (x20 < u2)) (.int .i64 (w64 ((w64 ((w64 (bShr .u64 (wu64 (w64 (u1 + u3))) 1)) + u2)) - x20))) rfl rfl ?_; intro a1492 hF1493; clear hF1491
     refine gp hF1493 184 0 [] (decide (x20 < u2)) (.bool (decide (u2 < (w64 ((w64 ((w64 (bShr .u64 (wu64 (w64 (u1 + u3))) 1)) + u2)) - x20))))) rfl rfl ?_; intro a1494 hF1495; clear hF1493
     refine st hF1495 (.bool ((decide (x20 < u2)) && (decide (u2 < (w64 ((w64 ((w64 (bShr .u64 (wu64 (w64 (u1 + u3))) 1)) + u2)) - x20)))))) (nog rfl _) rfl (by kernel_rfl) (pk_and hF1495 (g := []) (m := 0) (b := decide (x20 < u2)) (v := decide (u2 < (w64 ((w64 ((w64 (bShr .u64 (wu64 (w64 (u1 + u3))) 1)) + u2)) - x20)))) rfl (by kernel_rfl) (by kernel_rfl) (by kernel_rfl) rfl) ?_; intro a1496 hF1497; clear hF1495
     refine nlH (hQ1480 _ _ ?_); clear hQ1480 hQ1480Q
     refine cd hF1497 (t := (decide (x20 < u2)) && (decide (u2 < (w64 ((w64 ((w64 (bShr .u64 (wu64 (w64 (u1 + u3))) 1)) + u2)) - x20))))) (by kernel_rfl) (fun hb1498 => ?_) (fun hb1498 => ?_)
     ·
      have hp1499 := hp1470.1 hb1498; clear hp1470
      have hF1500 : Fr 220 [] [⟨0, [], .slice ao1 u0.length cap2⟩, ⟨1, [], .int .i64 u1⟩, ⟨2, [], .int .i64 u2⟩, ⟨3, [], .int .i64 u3⟩, ⟨4, [], .func (.func fid3) #[] caps4⟩, ⟨18, [], .int .i64 (w64 (bShr .u64 (wu64 (w64 (u1 + u3))) 1))⟩, ⟨20, [], .int .i64 x20⟩, ⟨24, [], .int .i64 (w64 ((w64 ((w64 (bShr .u64 (wu64 (w64 (u1 + u3))) 1)) + u2)) - x20))⟩] a1496 := hF1497.reg; clear hF1497
      refine rgH ?_; intro hQ1501Q hQ1501
      refine s1 hF1500 186 (.slice ao1 u0.length cap2) ?_; intro a1502 hF1503; clear hF1500
      refine s1 hF1503 187 (.int .i64 x20) ?_; intro a1504 hF1505; clear hF1503
      refine s1 hF1505 188 (.int .i64 u2) ?_; intro a1506 hF1507; clear hF1505
      refine s1 hF1507 189 (.int .i64 (w64 ((w64 ((w64 (bShr .u64 (wu64 (w64 (u1 + u3))) 1)) + u2)) - x20))) ?_; intro a1508 hF1509; clear hF1507
      refine s1 hF1509 190 (.func (.func fid3) #[] caps4) ?_; intro a1510 hF1511; clear hF1509
      refine cl hF1511 126 #[.slice ao1 u0.length cap2, .int .i64 x20, .int .i64 u2, .int .i64 (w64 ((w64 ((w64 (bShr .u64 (wu64 (w64 (u1 + u3))) 1)) + u2)) - x20)), .func (.func fid3) #[] caps4] (nog rfl _) rfl (by kernel_rfl) (by kernel_rfl) ?_
      refine (srot_walk u0 x20 u2 (w64 ((w64 ((w64 (bShr .u64 (wu64 (w64 (u1 + u3))) 1)) + u2)) - x20)) u4 ao1 cap2 fid3 caps4 _ _ _ _ _ _ (fun Z1 w1 h1 h2 => hf5 Z1 w1 (hle0.trans h1) h2) hg6 hM1468 hM1468.fz hp1499).mono ?_; rintro _ wd1513 ⟨r1512, Z1519, rfl, hp1517, hle1520, hl1518, hm⟩; refine ⟨_, rfl, ?_⟩; intro a1514 hF1515; have hM1516 := hm; clear hm hM1468 hF1511
      replace hle0 := Fz.le.trans hle0 hle1520
      have hF1521 : Fr 220 [] [⟨0, [], .slice ao1 r1512.length cap2⟩, ⟨1, [], .int .i64 u1⟩, ⟨2, [], .int .i64 u2⟩, ⟨3, [], .int .i64 u3⟩, ⟨4, [], .func (.func fid3) #[] caps4⟩, ⟨18, [], .int .i64 (w64 (bShr .u64 (wu64 (w64 (u1 + u3))) 1))⟩, ⟨20, [], .int .i64 x20⟩, ⟨24, [], .int .i64 (w64 ((w64 ((w64 (bShr .u64 (wu64 (w64 (u1 + u3))) 1)) + u2)) - x20))⟩, ⟨186, [], .slice ao1 r1512.length cap2⟩, ⟨187, [], .int .i64 x20⟩, ⟨188, [], .int .i64 u2⟩, ⟨189, [], .int .i64 (w64 ((w64 ((w64 (bShr .u64 (wu64 (w64 (u1 + u3))) 1)) + u2)) - x20))⟩, ⟨190, [], .func (.func fid3) #[] caps4⟩, ⟨191, [], .tuple #[]⟩] a1514 := by rw [hl1518]; exact hF1515.reg
      clear hF1515
      have hM1522 : Mem B [] w0 Z0 ((.own tyJob 110 ao1 cap2 r1512) :: Rr) Z1519 wd1513 := hM1516; clear hM1516
      have hp1523 := hp1517 (hM1522.ownSmall 0 rfl); clear hp1517
      refine nlH (hQ1501 _ _ ?_); clear hQ1501 hQ1501Q
      refine thn ?_
      refine wp_seq ?_
      refine sqH ?_; intro hQ1524Q hQ1524
      refine s1 hF1521 192 (.int .i64 u1) ?_; intro a1525 hF1526; clear hF1521
      refine s1 hF1526 193 (.int .i64 x20) ?_; intro a1527 hF1528; clear hF1526
      refine s1 hF1528 194 (.bool (decide (u1 < x20))) ?_; intro a1529 hF1530; clear hF1528
      refine s1 hF1530 195 (.bool (decide (u1 < x20))) ?_; intro a1531 hF1532; clear hF1530
      have hF1533 := hF1532.atom ((decide (u1 < x20)) == true) (by kernel_rfl); clear hF1532
      refine gp hF1533 196 0 [] (decide (u1 < x20)) (.int .i64 x20) rfl rfl ?_; intro a1534 hF1535; clear hF1533
      refine gp hF1535 197 0 [] (decide (u1 < x20)) (.int .i64 (w64 (bShr .u64 (wu64 (w64 (u1 + u3))) 1))) rfl rfl ?_; intro a1536 hF1537; clear hF1535
      refine gp hF1537 198 0 [] (decide (u1 < x20)) (.bool (decide (x20 < (w64 (bShr .u64 (wu64 (w64 (u1 + u3))) 1))))) rfl rfl ?_; intro a1538 hF1539; clear hF1537
      refine st hF1539 (.bool ((decide (u1 < x20)) && (decide (x20 < (w64 (bShr .u64 (wu64 (w64 (u1 + u3))) 1)))))) (nog rfl _) rfl (by kernel_rfl) (pk_and hF1539 (g := []) (m := 0) (b := decide (u1 < x20)) (v := decide (x20 < (w64 (bShr .u64 (wu64 (w64 (u1 + u3))) 1)))) rfl (by kernel_rfl) (by kernel_rfl) (by kernel_rfl) rfl) ?_; intro a1540 hF1541; clear hF1539
      refine nlH (hQ1524 _ _ ?_); clear hQ1524 hQ1524Q
      refine cd hF1541 (t := (decide (u1 < x20)) && (decide (x20 < (w64 (bShr .u64 (wu64 (w64 (u1 + u3))) 1))))) (by kernel_rfl) (fun hb1542 => ?_) (fun hb1542 => ?_)
      ·
       have hp1543 := hp1523.1 hb1542; clear hp1523
       have hF1544 : Fr 220 [] [⟨0, [], .slice ao1 r1512.length cap2⟩, ⟨1, [], .int .i64 u1⟩, ⟨3, [], .int .i64 u3⟩, ⟨4, [], .func (.func fid3) #[] caps4⟩, ⟨18, [], .int .i64 (w64 (bShr .u64 (wu64 (w64 (u1 + u3))) 1))⟩, ⟨20, [], .int .i64 x20⟩, ⟨24, [], .int .i64 (w64 ((w64 ((w64 (bShr .u64 (wu64 (w64 (u1 + u3))) 1)) + u2)) - x20))⟩] a1540 := hF1541.reg; clear hF1541
       refine rgH ?_; intro hQ1545Q hQ1545
       refine s1 hF1544 200 (.slice ao1 r1512.length cap2) ?_; intro a1546 hF1547; clear hF1544
       refine s1 hF1547 201 (.int .i64 u1) ?_; intro a1548 hF1549; clear hF1547
       refine s1 hF1549 202 (.int .i64 x20) ?_; intro a1550 hF1551; clear hF1549
       refine s1 hF1551 203 (.int .i64 (w64 (bShr .u64 (wu64 (w64 (u1 + u3))) 1))) ?_; intro a1552 hF1553; clear hF1551
       refine s1 hF1553 204 (.func (.func fid3) #[] caps4) ?_; intro a1554 hF1555; clear hF1553
       have hc1556 := hp1543.1; have hp1557 := hp1543.2; clear hp1543
       refine cl hF1555 112 #[.slice ao1 r1512.length cap2, .int .i64 u1, .int .i64 x20, .int .i64 (w64 (bShr .u64 (wu64 (w64 (u1 + u3))) 1)), .func (.func fid3) #[] caps4] (nog rfl _) rfl (by kernel_rfl) (by kernel_rfl) ?_
       refine (ih r1512 u1 x20 (w64 (bShr .u64 (wu64 (w64 (u1 + u3))) 1)) u4 hc1556 ao1 cap2 fid3 caps4 _ _ _ _ _ _ (fun Z1 w1 h1 h2 => hf5 Z1 w1 (hle0.trans h1) h2) hg6 hM1522 hM1522.fz).mono ?_; rintro _ wd1558 ⟨Z1563, rfl, hle1564, hl1562, hm⟩; refine ⟨_, rfl, ?_⟩; intro a1559 hF1560; have hM1561 := hm; clear hm hM1522 hF1555
       replace hle0 := Fz.le.trans hle0 hle1564
       have hF1565 : Fr 220 [] [⟨0, [], .slice ao1 (segC2 r1512 u1 x20 (w64 (bShr .u64 (wu64 (w64 (u1 + u3))) 1)) u4).length cap2⟩, ⟨1, [], .int .i64 u1⟩, ⟨3, [], .int .i64 u3⟩, ⟨4, [], .func (.func fid3) #[] caps4⟩, ⟨18, [], .int .i64 (w64 (bShr .u64 (wu64 (w64 (u1 + u3))) 1))⟩, ⟨20, [], .int .i64 x20⟩, ⟨24, [], .int .i64 (w64 ((w64 ((w64 (bShr .u64 (wu64 (w64 (u1 + u3))) 1)) + u2)) - x20))⟩, ⟨200, [], .slice ao1 (segC2 r1512 u1 x20 (w64 (bShr .u64 (wu64 (w64 (u1 + u3))) 1)) u4).length cap2⟩, ⟨201, [], .int .i64 u1⟩, ⟨202, [], .int .i64 x20⟩, ⟨203, [], .int .i64 (w64 (bShr .u64 (wu64 (w64 (u1 + u3))) 1))⟩, ⟨204, [], .func (.func fid3) #[] caps4⟩, ⟨205, [], .tuple #[]⟩] a1559 := by rw [hl1562]; exact hF1560.reg
       clear hF1560
       have hM1566 : Mem B [] w0 Z0 ((.own tyJob 110 ao1 cap2 (segC2 r1512 u1 x20 (w64 (bShr .u64 (wu64 (w64 (u1 + u3))) 1)) u4)) :: Rr) Z1563 wd1558 := hM1561; clear hM1561
       have hp1567 := hp1557 (hM1566.ownSmall 0 rfl); clear hp1557
       refine nlH (hQ1545 _ _ ?_); clear hQ1545 hQ1545Q
       refine thn ?_
       refine sqH ?_; intro hQ1568Q hQ1568
       refine s1 hF1565 206 (.int .i64 (w64 (bShr .u64 (wu64 (w64 (u1 + u3))) 1))) ?_; intro a1569 hF1570; clear hF1565
       refine s1 hF1570 207 (.int .i64 (w64 ((w64 ((w64 (bShr .u64 (wu64 (w64 (u1 + u3))) 1)) + u2)) - x20))) ?_; intro a1571 hF1572; clear hF1570
       refine s1 hF1572 208 (.bool (decide ((w64 (bShr .u64 (wu64 (w64 (u1 + u3))) 1)) < (w64 ((w64 ((w64 (bShr .u64 (wu64 (w64 (u1 + u3))) 1)) + u2)) - x20))))) ?_; intro a1573 hF1574; clear hF1572
       refine s1 hF1574 209 (.bool (decide ((w64 (bShr .u64 (wu64 (w64 (u1 + u3))) 1)) < (w64 ((w64 ((w64 (bShr .u64 (wu64 (w64 (u1 + u3))) 1)) + u2)) - x20))))) ?_; intro a1575 hF1576; clear hF1574
       have hF1577 := hF1576.atom ((decide ((w64 (bShr .u64 (wu64 (w64 (u1 + u3))) 1)) < (w64 ((w64 ((w64 (bShr .u64 (wu64 (w64 (u1 + u3))) 1)) + u2)) - x20)))) == true) (by kernel_rfl); clear hF1576
       refine gp hF1577 210 0 [] (decide ((w64 (bShr .u64 (wu64 (w64 (u1 + u3))) 1)) < (w64 ((w64 ((w64 (bShr .u64 (wu64 (w64 (u1 + u3))) 1)) + u2)) - x20)))) (.int .i64 (w64 ((w64 ((w64 (bShr .u64 (wu64 (w64 (u1 + u3))) 1)) + u2)) - x20))) rfl rfl ?_; intro a1578 hF1579; clear hF1577
       refine gp hF1579 211 0 [] (decide ((w64 (bShr .u64 (wu64 (w64 (u1 + u3))) 1)) < (w64 ((w64 ((w64 (bShr .u64 (wu64 (w64 (u1 + u3))) 1)) + u2)) - x20)))) (.int .i64 u3) rfl rfl ?_; intro a1580 hF1581; clear hF1579
       refine gp hF1581 212 0 [] (decide ((w64 (bShr .u64 (wu64 (w64 (u1 + u3))) 1)) < (w64 ((w64 ((w64 (bShr .u64 (wu64 (w64 (u1 + u3))) 1)) + u2)) - x20)))) (.bool (decide ((w64 ((w64 ((w64 (bShr .u64 (wu64 (w64 (u1 + u3))) 1)) + u2)) - x20)) < u3))) rfl rfl ?_; intro a1582 hF1583; clear hF1581
       refine st hF1583 (.bool ((decide ((w64 (bShr .u64 (wu64 (w64 (u1 + u3))) 1)) < (w64 ((w64 ((w64 (bShr .u64 (wu64 (w64 (u1 + u3))) 1)) + u2)) - x20)))) && (decide ((w64 ((w64 ((w64 (bShr .u64 (wu64 (w64 (u1 + u3))) 1)) + u2)) - x20)) < u3)))) (nog rfl _) rfl (by kernel_rfl) (pk_and hF1583 (g := []) (m := 0) (b := decide ((w64 (bShr .u64 (wu64 (w64 (u1 + u3))) 1)) < (w64 ((w64 ((w64 (bShr .u64 (wu64 (w64 (u1 + u3))) 1)) + u2)) - x20)))) (v := decide ((w64 ((w64 ((w64 (bShr .u64 (wu64 (w64 (u1 + u3))) 1)) + u2)) - x20)) < u3)) rfl (by kernel_rfl) (by kernel_rfl) (by kernel_rfl) rfl) ?_; intro a1584 hF1585; clear hF1583
       refine nlH (hQ1568 _ _ ?_); clear hQ1568 hQ1568Q
       refine cd hF1585 (t := (decide ((w64 (bShr .u64 (wu64 (w64 (u1 + u3))) 1)) < (w64 ((w64 ((w64 (bShr .u64 (wu64 (w64 (u1 + u3))) 1)) + u2)) - x20)))) && (decide ((w64 ((w64 ((w64 (bShr .u64 (wu64 (w64 (u1 + u3))) 1)) + u2)) - x20)) < u3))) (by kernel_rfl) (fun hb1586 => ?_) (fun hb1586 => ?_)
       ·
        have hp1587 := hp1567.1 hb1586; clear hp1567
        have hF1588 : Fr 220 [] [⟨0, [], .slice ao1 (segC2 r1512 u1 x20 (w64 (bShr .u64 (wu64 (w64 (u1 + u3))) 1)) u4).length cap2⟩, ⟨3, [], .int .i64 u3⟩, ⟨4, [], .func (.func fid3) #[] caps4⟩, ⟨18, [], .int .i64 (w64 (bShr .u64 (wu64 (w64 (u1 + u3))) 1))⟩, ⟨24, [], .int .i64 (w64 ((w64 ((w64 (bShr .u64 (wu64 (w64 (u1 + u3))) 1)) + u2)) - x20))⟩] a1584 := hF1585.reg; clear hF1585
        refine rgH ?_; intro hQ1589Q hQ1589
        refine s1 hF1588 214 (.slice ao1 (segC2 r1512 u1 x20 (w64 (bShr .u64 (wu64 (w64 (u1 + u3))) 1)) u4).length cap2) ?_; intro a1590 hF1591; clear hF1588
        refine s1 hF1591 215 (.int .i64 (w64 (bShr .u64 (wu64 (w64 (u1 + u3))) 1))) ?_; intro a1592 hF1593; clear hF1591
        refine s1 hF1593 216 (.int .i64 (w64 ((w64 ((w64 (bShr .u64 (wu64 (w64 (u1 + u3))) 1)) + u2)) - x20))) ?_; intro a1594 hF1595; clear hF1593
        refine s1 hF1595 217 (.int .i64 u3) ?_; intro a1596 hF1597; clear hF1595
        refine s1 hF1597 218 (.func (.func fid3) #[] caps4) ?_; intro a1598 hF1599; clear hF1597
        have hc1600 := hp1587.1; have hp1601 := hp1587.2; clear hp1587
        refine cl hF1599 112 #[.slice ao1 (segC2 r1512 u1 x20 (w64 (bShr .u64 (wu64 (w64 (u1 + u3))) 1)) u4).length cap2, .int .i64 (w64 (bShr .u64 (wu64 (w64 (u1 + u3))) 1)), .int .i64 (w64 ((w64 ((w64 (bShr .u64 (wu64 (w64 (u1 + u3))) 1)) + u2)) - x20)), .int .i64 u3, .func (.func fid3) #[] caps4] (nog rfl _) rfl (by kernel_rfl) (by kernel_rfl) ?_
        refine (ih (segC2 r1512 u1 x20 (w64 (bShr .u64 (wu64 (w64 (u1 + u3))) 1)) u4) (w64 (bShr .u64 (wu64 (w64 (u1 + u3))) 1)) (w64 ((w64 ((w64 (bShr .u64 (wu64 (w64 (u1 + u3))) 1)) + u2)) - x20)) u3 u4 hc1600 ao1 cap2 fid3 caps4 _ _ _ _ _ _ (fun Z1 w1 h1 h2 => hf5 Z1 w1 (hle0.trans h1) h2) hg6 hM1566 hM1566.fz).mono ?_; rintro _ wd1602 ⟨Z1607, rfl, hle1608, hl1606, hm⟩; refine ⟨_, rfl, ?_⟩; intro a1603 hF1604; have hM1605 := hm; clear hm hM1566 hF1599
        replace hle0 := Fz.le.trans hle0 hle1608
        have hF1609 : Fr 220 [] [⟨0, [], .slice ao1 (segC2 (segC2 r1512 u1 x20 (w64 (bShr .u64 (wu64 (w64 (u1 + u3))) 1)) u4) (w64 (bShr .u64 (wu64 (w64 (u1 + u3))) 1)) (w64 ((w64 ((w64 (bShr .u64 (wu64 (w64 (u1 + u3))) 1)) + u2)) - x20)) u3 u4).length cap2⟩, ⟨3, [], .int .i64 u3⟩, ⟨4, [], .func (.func fid3) #[] caps4⟩, ⟨18, [], .int .i64 (w64 (bShr .u64 (wu64 (w64 (u1 + u3))) 1))⟩, ⟨24, [], .int .i64 (w64 ((w64 ((w64 (bShr .u64 (wu64 (w64 (u1 + u3))) 1)) + u2)) - x20))⟩, ⟨214, [], .slice ao1 (segC2 (segC2 r1512 u1 x20 (w64 (bShr .u64 (wu64 (w64 (u1 + u3))) 1)) u4) (w64 (bShr .u64 (wu64 (w64 (u1 + u3))) 1)) (w64 ((w64 ((w64 (bShr .u64 (wu64 (w64 (u1 + u3))) 1)) + u2)) - x20)) u3 u4).length cap2⟩, ⟨215, [], .int .i64 (w64 (bShr .u64 (wu64 (w64 (u1 + u3))) 1))⟩, ⟨216, [], .int .i64 (w64 ((w64 ((w64 (bShr .u64 (wu64 (w64 (u1 + u3))) 1)) + u2)) - x20))⟩, ⟨217, [], .int .i64 u3⟩, ⟨218, [], .func (.func fid3) #[] caps4⟩, ⟨219, [], .tuple #[]⟩] a1603 := by rw [hl1606]; exact hF1604.reg
        clear hF1604
        have hM1610 : Mem B [] w0 Z0 ((.own tyJob 110 ao1 cap2 (segC2 (segC2 r1512 u1 x20 (w64 (bShr .u64 (wu64 (w64 (u1 + u3))) 1)) u4) (w64 (bShr .u64 (wu64 (w64 (u1 + u3))) 1)) (w64 ((w64 ((w64 (bShr .u64 (wu64 (w64 (u1 + u3))) 1)) + u2)) - x20)) u3 u4)) :: Rr) Z1607 wd1602 := hM1605; clear hM1605
        have hp1611 := hp1601 (hM1610.ownSmall 0 rfl); clear hp1601
        refine nlH (hQ1589 _ _ ?_); clear hQ1589 hQ1589Q
        have hc1612 := hp1611.1; have hp1613 := hp1611.2; clear hp1611
        refine rN (fn := Try.f112) (v := .tuple #[]) hF1609 (re0 hF1609 (fn := Try.f112) rfl) ?_
        exact ⟨(segC2 (segC2 r1512 u1 x20 (w64 (bShr .u64 (wu64 (w64 (u1 + u3))) 1)) u4) (w64 (bShr .u64 (wu64 (w64 (u1 + u3))) 1)) (w64 ((w64 ((w64 (bShr .u64 (wu64 (w64 (u1 + u3))) 1)) + u2)) - x20)) u3 u4), Z1607, rfl, hp1613, hle0, hc1612, hM1610.keep (List.Sublist.cons_cons _ (List.Sublist.refl _))⟩
       ·
        have hp1614 := hp1567.2 hb1586; clear hp1567
        refine wp_skip ?_
        have hc1615 := hp1614.1; have hp1616 := hp1614.2; clear hp1614
        refine rN (fn := Try.f112) (v := .tuple #[]) hF1585 (re0 hF1585 (fn := Try.f112) rfl) ?_
        exact ⟨(segC2 r1512 u1 x20 (w64 (bShr .u64 (wu64 (w64 (u1 + u3))) 1)) u4), Z1563, rfl, hp1616, hle0, hc1615, hM1566.keep (List.Sublist.cons_cons _ (List.Sublist.refl _))⟩
      ·
       have hp1617 := hp1523.2 hb1542; clear hp1523
       refine wp_skip ?_
       refine thn ?_
       have hF1618 : Fr 220 [] [⟨0, [], .slice ao1 r1512.length cap2⟩, ⟨3, [], .int .i64 u3⟩, ⟨4, [], .func (.func fid3) #[] caps4⟩, ⟨18, [], .int .i64 (w64 (bShr .u64 (wu64 (w64 (u1 + u3))) 1))⟩, ⟨24, [], .int .i64 (w64 ((w64 ((w64 (bShr .u64 (wu64 (w64 (u1 + u3))) 1)) + u2)) - x20))⟩] a1540 := hF1541.reg; clear hF1541
       refine sqH ?_; intro hQ1619Q hQ1619
       refine s1 hF1618 206 (.int .i64 (w64 (bShr .u64 (wu64 (w64 (u1 + u3))) 1))) ?_; intro a1620 hF1621; clear hF1618
       refine s1 hF1621 207 (.int .i64 (w64 ((w64 ((w64 (bShr .u64 (wu64 (w64 (u1 + u3))) 1)) + u2)) - x20))) ?_; intro a1622 hF1623; clear hF1621
       refine s1 hF1623 208 (.bool (decide ((w64 (bShr .u64 (wu64 (w64 (u1 + u3))) 1)) < (w64 ((w64 ((w64 (bShr .u64 (wu64 (w64 (u1 + u3))) 1)) + u2)) - x20))))) ?_; intro a1624 hF1625; clear hF1623
       refine s1 hF1625 209 (.bool (decide ((w64 (bShr .u64 (wu64 (w64 (u1 + u3))) 1)) < (w64 ((w64 ((w64 (bShr .u64 (wu64 (w64 (u1 + u3))) 1)) + u2)) - x20))))) ?_; intro a1626 hF1627; clear hF1625
       have hF1628 := hF1627.atom ((decide ((w64 (bShr .u64 (wu64 (w64 (u1 + u3))) 1)) < (w64 ((w64 ((w64 (bShr .u64 (wu64 (w64 (u1 + u3))) 1)) + u2)) - x20)))) == true) (by kernel_rfl); clear hF1627
       refine gp hF1628 210 0 [] (decide ((w64 (bShr .u64 (wu64 (w64 (u1 + u3))) 1)) < (w64 ((w64 ((w64 (bShr .u64 (wu64 (w64 (u1 + u3))) 1)) + u2)) - x20)))) (.int .i64 (w64 ((w64 ((w64 (bShr .u64 (wu64 (w64 (u1 + u3))) 1)) + u2)) - x20))) rfl rfl ?_; intro a1629 hF1630; clear hF1628
       refine gp hF1630 211 0 [] (decide ((w64 (bShr .u64 (wu64 (w64 (u1 + u3))) 1)) < (w64 ((w64 ((w64 (bShr .u64 (wu64 (w64 (u1 + u3))) 1)) + u2)) - x20)))) (.int .i64 u3) rfl rfl ?_; intro a1631 hF1632; clear hF1630
       refine gp hF1632 212 0 [] (decide ((w64 (bShr .u64 (wu64 (w64 (u1 + u3))) 1)) < (w64 ((w64 ((w64 (bShr .u64 (wu64 (w64 (u1 + u3))) 1)) + u2)) - x20)))) (.bool (decide ((w64 ((w64 ((w64 (bShr .u64 (wu64 (w64 (u1 + u3))) 1)) + u2)) - x20)) < u3))) rfl rfl ?_; intro a1633 hF1634; clear hF1632
       refine st hF1634 (.bool ((decide ((w64 (bShr .u64 (wu64 (w64 (u1 + u3))) 1)) < (w64 ((w64 ((w64 (bShr .u64 (wu64 (w64 (u1 + u3))) 1)) + u2)) - x20)))) && (decide ((w64 ((w64 ((w64 (bShr .u64 (wu64 (w64 (u1 + u3))) 1)) + u2)) - x20)) < u3)))) (nog rfl _) rfl (by kernel_rfl) (pk_and hF1634 (g := []) (m := 0) (b := decide ((w64 (bShr .u64 (wu64 (w64 (u1 + u3))) 1)) < (w64 ((w64 ((w64 (bShr .u64 (wu64 (w64 (u1 + u3))) 1)) + u2)) - x20)))) (v := decide ((w64 ((w64 ((w64 (bShr .u64 (wu64 (w64 (u1 + u3))) 1)) + u2)) - x20)) < u3)) rfl (by kernel_rfl) (by kernel_rfl) (by kernel_rfl) rfl) ?_; intro a1635 hF1636; clear hF1634
       refine nlH (hQ1619 _ _ ?_); clear hQ1619 hQ1619Q
       refine cd hF1636 (t := (decide ((w64 (bShr .u64 (wu64 (w64 (u1 + u3))) 1)) < (w64 ((w64 ((w64 (bShr .u64 (wu64 (w64 (u1 + u3))) 1)) + u2)) - x20)))) && (decide ((w64 ((w64 ((w64 (bShr .u64 (wu64 (w64 (u1 + u3))) 1)) + u2)) - x20)) < u3))) (by kernel_rfl) (fun hb1637 => ?_) (fun hb1637 => ?_)
       ·
        have hp1638 := hp1617.1 hb1637; clear hp1617
        have hF1639 : Fr 220 [] [⟨0, [], .slice ao1 r1512.length cap2⟩, ⟨3, [], .int .i64 u3⟩, ⟨4, [], .func (.func fid3) #[] caps4⟩, ⟨18, [], .int .i64 (w64 (bShr .u64 (wu64 (w64 (u1 + u3))) 1))⟩, ⟨24, [], .int .i64 (w64 ((w64 ((w64 (bShr .u64 (wu64 (w64 (u1 + u3))) 1)) + u2)) - x20))⟩] a1635 := hF1636.reg; clear hF1636
        refine rgH ?_; intro hQ1640Q hQ1640
        refine s1 hF1639 214 (.slice ao1 r1512.length cap2) ?_; intro a1641 hF1642; clear hF1639
        refine s1 hF1642 215 (.int .i64 (w64 (bShr .u64 (wu64 (w64 (u1 + u3))) 1))) ?_; intro a1643 hF1644; clear hF1642
        refine s1 hF1644 216 (.int .i64 (w64 ((w64 ((w64 (bShr .u64 (wu64 (w64 (u1 + u3))) 1)) + u2)) - x20))) ?_; intro a1645 hF1646; clear hF1644
        refine s1 hF1646 217 (.int .i64 u3) ?_; intro a1647 hF1648; clear hF1646
        refine s1 hF1648 218 (.func (.func fid3) #[] caps4) ?_; intro a1649 hF1650; clear hF1648
        have hc1651 := hp1638.1; have hp1652 := hp1638.2; clear hp1638
        refine cl hF1650 112 #[.slice ao1 r1512.length cap2, .int .i64 (w64 (bShr .u64 (wu64 (w64 (u1 + u3))) 1)), .int .i64 (w64 ((w64 ((w64 (bShr .u64 (wu64 (w64 (u1 + u3))) 1)) + u2)) - x20)), .int .i64 u3, .func (.func fid3) #[] caps4] (nog rfl _) rfl (by kernel_rfl) (by kernel_rfl) ?_
        refine (ih r1512 (w64 (bShr .u64 (wu64 (w64 (u1 + u3))) 1)) (w64 ((w64 ((w64 (bShr .u64 (wu64 (w64 (u1 + u3))) 1)) + u2)) - x20)) u3 u4 hc1651 ao1 cap2 fid3 caps4 _ _ _ _ _ _ (fun Z1 w1 h1 h2 => hf5 Z1 w1 (hle0.trans h1) h2) hg6 hM1522 hM1522.fz).mono ?_; rintro _ wd1653 ⟨Z1658, rfl, hle1659, hl1657, hm⟩; refine ⟨_, rfl, ?_⟩; intro a1654 hF1655; have hM1656 := hm; clear hm hM1522 hF1650
        replace hle0 := Fz.le.trans hle0 hle1659
        have hF1660 : Fr 220 [] [⟨0, [], .slice ao1 (segC2 r1512 (w64 (bShr .u64 (wu64 (w64 (u1 + u3))) 1)) (w64 ((w64 ((w64 (bShr .u64 (wu64 (w64 (u1 + u3))) 1)) + u2)) - x20)) u3 u4).length cap2⟩, ⟨3, [], .int .i64 u3⟩, ⟨4, [], .func (.func fid3) #[] caps4⟩, ⟨18, [], .int .i64 (w64 (bShr .u64 (wu64 (w64 (u1 + u3))) 1))⟩, ⟨24, [], .int .i64 (w64 ((w64 ((w64 (bShr .u64 (wu64 (w64 (u1 + u3))) 1)) + u2)) - x20))⟩, ⟨214, [], .slice ao1 (segC2 r1512 (w64 (bShr .u64 (wu64 (w64 (u1 + u3))) 1)) (w64 ((w64 ((w64 (bShr .u64 (wu64 (w64 (u1 + u3))) 1)) + u2)) - x20)) u3 u4).length cap2⟩, ⟨215, [], .int .i64 (w64 (bShr .u64 (wu64 (w64 (u1 + u3))) 1))⟩, ⟨216, [], .int .i64 (w64 ((w64 ((w64 (bShr .u64 (wu64 (w64 (u1 + u3))) 1)) + u2)) - x20))⟩, ⟨217, [], .int .i64 u3⟩, ⟨218, [], .func (.func fid3) #[] caps4⟩, ⟨219, [], .tuple #[]⟩] a1654 := by rw [hl1657]; exact hF1655.reg
        clear hF1655
        have hM1661 : Mem B [] w0 Z0 ((.own tyJob 110 ao1 cap2 (segC2 r1512 (w64 (bShr .u64 (wu64 (w64 (u1 + u3))) 1)) (w64 ((w64 ((w64 (bShr .u64 (wu64 (w64 (u1 + u3))) 1)) + u2)) - x20)) u3 u4)) :: Rr) Z1658 wd1653 := hM1656; clear hM1656
        have hp1662 := hp1652 (hM1661.ownSmall 0 rfl); clear hp1652
        refine nlH (hQ1640 _ _ ?_); clear hQ1640 hQ1640Q
        have hc1663 := hp1662.1; have hp1664 := hp1662.2; clear hp1662
        refine rN (fn := Try.f112) (v := .tuple #[]) hF1660 (re0 hF1660 (fn := Try.f112) rfl) ?_
        exact ⟨(segC2 r1512 (w64 (bShr .u64 (wu64 (w64 (u1 + u3))) 1)) (w64 ((w64 ((w64 (bShr .u64 (wu64 (w64 (u1 + u3))) 1)) + u2)) - x20)) u3 u4), Z1658, rfl, hp1664, hle0, hc1663, hM1661.keep (List.Sublist.cons_cons _ (List.Sublist.refl _))⟩
       ·
        have hp1665 := hp1617.2 hb1637; clear hp1617
        refine wp_skip ?_
        have hc1666 := hp1665.1; have hp1667 := hp1665.2; clear hp1665
        refine rN (fn := Try.f112) (v := .tuple #[]) hF1636 (re0 hF1636 (fn := Try.f112) rfl) ?_
        exact ⟨r1512, Z1519, rfl, hp1667, hle0, hc1666, hM1522.keep (List.Sublist.cons_cons _ (List.Sublist.refl _))⟩
     ·
      have hp1668 := hp1470.2 hb1498; clear hp1470
      refine wp_skip ?_
      refine thn ?_
      refine wp_seq ?_
      have hF1669 : Fr 220 [] [⟨0, [], .slice ao1 u0.length cap2⟩, ⟨1, [], .int .i64 u1⟩, ⟨3, [], .int .i64 u3⟩, ⟨4, [], .func (.func fid3) #[] caps4⟩, ⟨18, [], .int .i64 (w64 (bShr .u64 (wu64 (w64 (u1 + u3))) 1))⟩, ⟨20, [], .int .i64 x20⟩, ⟨24, [], .int .i64 (w64 ((w64 ((w64 (bShr .u64 (wu64 (w64 (u1 + u3))) 1)) + u2)) - x20))⟩] a1496 := hF1497.reg; clear hF1497
      refine sqH ?_; intro hQ1670Q hQ1670
      refine s1 hF1669 192 (.int .i64 u1) ?_; intro a1671 hF1672; clear hF1669
      refine s1 hF1672 193 (.int .i64 x20) ?_; intro a1673 hF1674; clear hF1672
      refine s1 hF1674 194 (.bool (decide (u1 < x20))) ?_; intro a1675 hF1676; clear hF1674
      refine s1 hF1676 195 (.bool (decide (u1 < x20))) ?_; intro a1677 hF1678; clear hF1676
      have hF1679 := hF1678.atom ((decide (u1 < x20)) == true) (by kernel_rfl); clear hF1678
      refine gp hF1679 196 0 [] (decide (u1 < x20)) (.int .i64 x20) rfl rfl ?_; intro a1680 hF1681; clear hF1679
      refine gp hF1681 197 0 [] (decide (u1 < x20)) (.int .i64 (w64 (bShr .u64 (wu64 (w64 (u1 + u3))) 1))) rfl rfl ?_; intro a1682 hF1683; clear hF1681
      refine gp hF1683 198 0 [] (decide (u1 < x20)) (.bool (decide (x20 < (w64 (bShr .u64 (wu64 (w64 (u1 + u3))) 1))))) rfl rfl ?_; intro a1684 hF1685; clear hF1683
      refine st hF1685 (.bool ((decide (u1 < x20)) && (decide (x20 < (w64 (bShr .u64 (wu64 (w64 (u1 + u3))) 1)))))) (nog rfl _) rfl (by kernel_rfl) (pk_and hF1685 (g := []) (m := 0) (b := decide (u1 < x20)) (v := decide (x20 < (w64 (bShr .u64 (wu64 (w64 (u1 + u3))) 1)))) rfl (by kernel_rfl) (by kernel_rfl) (by kernel_rfl) rfl) ?_; intro a1686 hF1687; clear hF1685
      refine nlH (hQ1670 _ _ ?_); clear hQ1670 hQ1670Q
      refine cd hF1687 (t := (decide (u1 < x20)) && (decide (x20 < (w64 (bShr .u64 (wu64 (w64 (u1 + u3))) 1))))) (by kernel_rfl) (fun hb1688 => ?_) (fun hb1688 => ?_)
      ·
       have hp1689 := hp1668.1 hb1688; clear hp1668
       have hF1690 : Fr 220 [] [⟨0, [], .slice ao1 u0.length cap2⟩, ⟨1, [], .int .i64 u1⟩, ⟨3, [], .int .i64 u3⟩, ⟨4, [], .func (.func fid3) #[] caps4⟩, ⟨18, [], .int .i64 (w64 (bShr .u64 (wu64 (w64 (u1 + u3))) 1))⟩, ⟨20, [], .int .i64 x20⟩, ⟨24, [], .int .i64 (w64 ((w64 ((w64 (bShr .u64 (wu64 (w64 (u1 + u3))) 1)) + u2)) - x20))⟩] a1686 := hF1687.reg; clear hF1687
       refine rgH ?_; intro hQ1691Q hQ1691
       refine s1 hF1690 200 (.slice ao1 u0.length cap2) ?_; intro a1692 hF1693; clear hF1690
       refine s1 hF1693 201 (.int .i64 u1) ?_; intro a1694 hF1695; clear hF1693
       refine s1 hF1695 202 (.int .i64 x20) ?_; intro a1696 hF1697; clear hF1695
       refine s1 hF1697 203 (.int .i64 (w64 (bShr .u64 (wu64 (w64 (u1 + u3))) 1))) ?_; intro a1698 hF1699; clear hF1697
       refine s1 hF1699 204 (.func (.func fid3) #[] caps4) ?_; intro a1700 hF1701; clear hF1699
       have hc1702 := hp1689.1; have hp1703 := hp1689.2; clear hp1689
       refine cl hF1701 112 #[.slice ao1 u0.length cap2, .int .i64 u1, .int .i64 x20, .int .i64 (w64 (bShr .u64 (wu64 (w64 (u1 + u3))) 1)), .func (.func fid3) #[] caps4] (nog rfl _) rfl (by kernel_rfl) (by kernel_rfl) ?_
       refine (ih u0 u1 x20 (w64 (bShr .u64 (wu64 (w64 (u1 + u3))) 1)) u4 hc1702 ao1 cap2 fid3 caps4 _ _ _ _ _ _ (fun Z1 w1 h1 h2 => hf5 Z1 w1 (hle0.trans h1) h2) hg6 hM1468 hM1468.fz).mono ?_; rintro _ wd1704 ⟨Z1709, rfl, hle1710, hl1708, hm⟩; refine ⟨_, rfl, ?_⟩; intro a1705 hF1706; have hM1707 := hm; clear hm hM1468 hF1701
       replace hle0 := Fz.le.trans hle0 hle1710
       have hF1711 : Fr 220 [] [⟨0, [], .slice ao1 (segC2 u0 u1 x20 (w64 (bShr .u64 (wu64 (w64 (u1 + u3))) 1)) u4).length cap2⟩, ⟨1, [], .int .i64 u1⟩, ⟨3, [], .int .i64 u3⟩, ⟨4, [], .func (.func fid3) #[] caps4⟩, ⟨18, [], .int .i64 (w64 (bShr .u64 (wu64 (w64 (u1 + u3))) 1))⟩, ⟨20, [], .int .i64 x20⟩, ⟨24, [], .int .i64 (w64 ((w64 ((w64 (bShr .u64 (wu64 (w64 (u1 + u3))) 1)) + u2)) - x20))⟩, ⟨200, [], .slice ao1 (segC2 u0 u1 x20 (w64 (bShr .u64 (wu64 (w64 (u1 + u3))) 1)) u4).length cap2⟩, ⟨201, [], .int .i64 u1⟩, ⟨202, [], .int .i64 x20⟩, ⟨203, [], .int .i64 (w64 (bShr .u64 (wu64 (w64 (u1 + u3))) 1))⟩, ⟨204, [], .func (.func fid3) #[] caps4⟩, ⟨205, [], .tuple #[]⟩] a1705 := by rw [hl1708]; exact hF1706.reg
       clear hF1706
       have hM1712 : Mem B [] w0 Z0 ((.own tyJob 110 ao1 cap2 (segC2 u0 u1 x20 (w64 (bShr .u64 (wu64 (w64 (u1 + u3))) 1)) u4)) :: Rr) Z1709 wd1704 := hM1707; clear hM1707
       have hp1713 := hp1703 (hM1712.ownSmall 0 rfl); clear hp1703
       refine nlH (hQ1691 _ _ ?_); clear hQ1691 hQ1691Q
       refine thn ?_
       refine sqH ?_; intro hQ1714Q hQ1714
       refine s1 hF1711 206 (.int .i64 (w64 (bShr .u64 (wu64 (w64 (u1 + u3))) 1))) ?_; intro a1715 hF1716; clear hF1711
       refine s1 hF1716 207 (.int .i64 (w64 ((w64 ((w64 (bShr .u64 (wu64 (w64 (u1 + u3))) 1)) + u2)) - x20))) ?_; intro a1717 hF1718; clear hF1716
       refine s1 hF1718 208 (.bool (decide ((w64 (bShr .u64 (wu64 (w64 (u1 + u3))) 1)) < (w64 ((w64 ((w64 (bShr .u64 (wu64 (w64 (u1 + u3))) 1)) + u2)) - x20))))) ?_; intro a1719 hF1720; clear hF1718
       refine s1 hF1720 209 (.bool (decide ((w64 (bShr .u64 (wu64 (w64 (u1 + u3))) 1)) < (w64 ((w64 ((w64 (bShr .u64 (wu64 (w64 (u1 + u3))) 1)) + u2)) - x20))))) ?_; intro a1721 hF1722; clear hF1720
       have hF1723 := hF1722.atom ((decide ((w64 (bShr .u64 (wu64 (w64 (u1 + u3))) 1)) < (w64 ((w64 ((w64 (bShr .u64 (wu64 (w64 (u1 + u3))) 1)) + u2)) - x20)))) == true) (by kernel_rfl); clear hF1722
       refine gp hF1723 210 0 [] (decide ((w64 (bShr .u64 (wu64 (w64 (u1 + u3))) 1)) < (w64 ((w64 ((w64 (bShr .u64 (wu64 (w64 (u1 + u3))) 1)) + u2)) - x20)))) (.int .i64 (w64 ((w64 ((w64 (bShr .u64 (wu64 (w64 (u1 + u3))) 1)) + u2)) - x20))) rfl rfl ?_; intro a1724 hF1725; clear hF1723
       refine gp hF1725 211 0 [] (decide ((w64 (bShr .u64 (wu64 (w64 (u1 + u3))) 1)) < (w64 ((w64 ((w64 (bShr .u64 (wu64 (w64 (u1 + u3))) 1)) + u2)) - x20)))) (.int .i64 u3) rfl rfl ?_; intro a1726 hF1727; clear hF1725
       refine gp hF1727 212 0 [] (decide ((w64 (bShr .u64 (wu64 (w64 (u1 + u3))) 1)) < (w64 ((w64 ((w64 (bShr .u64 (wu64 (w64 (u1 + u3))) 1)) + u2)) - x20)))) (.bool (decide ((w64 ((w64 ((w64 (bShr .u64 (wu64 (w64 (u1 + u3))) 1)) + u2)) - x20)) < u3))) rfl rfl ?_; intro a1728 hF1729; clear hF1727
       refine st hF1729 (.bool ((decide ((w64 (bShr .u64 (wu64 (w64 (u1 + u3))) 1)) < (w64 ((w64 ((w64 (bShr .u64 (wu64 (w64 (u1 + u3))) 1)) + u2)) - x20)))) && (decide ((w64 ((w64 ((w64 (bShr .u64 (wu64 (w64 (u1 + u3))) 1)) + u2)) - x20)) < u3)))) (nog rfl _) rfl (by kernel_rfl) (pk_and hF1729 (g := []) (m := 0) (b := decide ((w64 (bShr .u64 (wu64 (w64 (u1 + u3))) 1)) < (w64 ((w64 ((w64 (bShr .u64 (wu64 (w64 (u1 + u3))) 1)) + u2)) - x20)))) (v := decide ((w64 ((w64 ((w64 (bShr .u64 (wu64 (w64 (u1 + u3))) 1)) + u2)) - x20)) < u3)) rfl (by kernel_rfl) (by kernel_rfl) (by kernel_rfl) rfl) ?_; intro a1730 hF1731; clear hF1729
       refine nlH (hQ1714 _ _ ?_); clear hQ1714 hQ1714Q
       refine cd hF1731 (t := (decide ((w64 (bShr .u64 (wu64 (w64 (u1 + u3))) 1)) < (w64 ((w64 ((w64 (bShr .u64 (wu64 (w64 (u1 + u3))) 1)) + u2)) - x20)))) && (decide ((w64 ((w64 ((w64 (bShr .u64 (wu64 (w64 (u1 + u3))) 1)) + u2)) - x20)) < u3))) (by kernel_rfl) (fun hb1732 => ?_) (fun hb1732 => ?_)
       ·
        have hp1733 := hp1713.1 hb1732; clear hp1713
        have hF1734 : Fr 220 [] [⟨0, [], .slice ao1 (segC2 u0 u1 x20 (w64 (bShr .u64 (wu64 (w64 (u1 + u3))) 1)) u4).length cap2⟩, ⟨3, [], .int .i64 u3⟩, ⟨4, [], .func (.func fid3) #[] caps4⟩, ⟨18, [], .int .i64 (w64 (bShr .u64 (wu64 (w64 (u1 + u3))) 1))⟩, ⟨24, [], .int .i64 (w64 ((w64 ((w64 (bShr .u64 (wu64 (w64 (u1 + u3))) 1)) + u2)) - x20))⟩] a1730 := hF1731.reg; clear hF1731
        refine rgH ?_; intro hQ1735Q hQ1735
        refine s1 hF1734 214 (.slice ao1 (segC2 u0 u1 x20 (w64 (bShr .u64 (wu64 (w64 (u1 + u3))) 1)) u4).length cap2) ?_; intro a1736 hF1737; clear hF1734
        refine s1 hF1737 215 (.int .i64 (w64 (bShr .u64 (wu64 (w64 (u1 + u3))) 1))) ?_; intro a1738 hF1739; clear hF1737
        refine s1 hF1739 216 (.int .i64 (w64 ((w64 ((w64 (bShr .u64 (wu64 (w64 (u1 + u3))) 1)) + u2)) - x20))) ?_; intro a1740 hF1741; clear hF1739
        refine s1 hF1741 217 (.int .i64 u3) ?_; intro a1742 hF1743; clear hF1741
        refine s1 hF1743 218 (.func (.func fid3) #[] caps4) ?_; intro a1744 hF1745; clear hF1743
        have hc1746 := hp1733.1; have hp1747 := hp1733.2; clear hp1733
        refine cl hF1745 112 #[.slice ao1 (segC2 u0 u1 x20 (w64 (bShr .u64 (wu64 (w64 (u1 + u3))) 1)) u4).length cap2, .int .i64 (w64 (bShr .u64 (wu64 (w64 (u1 + u3))) 1)), .int .i64 (w64 ((w64 ((w64 (bShr .u64 (wu64 (w64 (u1 + u3))) 1)) + u2)) - x20)), .int .i64 u3, .func (.func fid3) #[] caps4] (nog rfl _) rfl (by kernel_rfl) (by kernel_rfl) ?_
        refine (ih (segC2 u0 u1 x20 (w64 (bShr .u64 (wu64 (w64 (u1 + u3))) 1)) u4) (w64 (bShr .u64 (wu64 (w64 (u1 + u3))) 1)) (w64 ((w64 ((w64 (bShr .u64 (wu64 (w64 (u1 + u3))) 1)) + u2)) - x20)) u3 u4 hc1746 ao1 cap2 fid3 caps4 _ _ _ _ _ _ (fun Z1 w1 h1 h2 => hf5 Z1 w1 (hle0.trans h1) h2) hg6 hM1712 hM1712.fz).mono ?_; rintro _ wd1748 ⟨Z1753, rfl, hle1754, hl1752, hm⟩; refine ⟨_, rfl, ?_⟩; intro a1749 hF1750; have hM1751 := hm; clear hm hM1712 hF1745
        replace hle0 := Fz.le.trans hle0 hle1754
        have hF1755 : Fr 220 [] [⟨0, [], .slice ao1 (segC2 (segC2 u0 u1 x20 (w64 (bShr .u64 (wu64 (w64 (u1 + u3))) 1)) u4) (w64 (bShr .u64 (wu64 (w64 (u1 + u3))) 1)) (w64 ((w64 ((w64 (bShr .u64 (wu64 (w64 (u1 + u3))) 1)) + u2)) - x20)) u3 u4).length cap2⟩, ⟨3, [], .int .i64 u3⟩, ⟨4, [], .func (.func fid3) #[] caps4⟩, ⟨18, [], .int .i64 (w64 (bShr .u64 (wu64 (w64 (u1 + u3))) 1))⟩, ⟨24, [], .int .i64 (w64 ((w64 ((w64 (bShr .u64 (wu64 (w64 (u1 + u3))) 1)) + u2)) - x20))⟩, ⟨214, [], .slice ao1 (segC2 (segC2 u0 u1 x20 (w64 (bShr .u64 (wu64 (w64 (u1 + u3))) 1)) u4) (w64 (bShr .u64 (wu64 (w64 (u1 + u3))) 1)) (w64 ((w64 ((w64 (bShr .u64 (wu64 (w64 (u1 + u3))) 1)) + u2)) - x20)) u3 u4).length cap2⟩, ⟨215, [], .int .i64 (w64 (bShr .u64 (wu64 (w64 (u1 + u3))) 1))⟩, ⟨216, [], .int .i64 (w64 ((w64 ((w64 (bShr .u64 (wu64 (w64 (u1 + u3))) 1)) + u2)) - x20))⟩, ⟨217, [], .int .i64 u3⟩, ⟨218, [], .func (.func fid3) #[] caps4⟩, ⟨219, [], .tuple #[]⟩] a1749 := by rw [hl1752]; exact hF1750.reg
        clear hF1750
        have hM1756 : Mem B [] w0 Z0 ((.own tyJob 110 ao1 cap2 (segC2 (segC2 u0 u1 x20 (w64 (bShr .u64 (wu64 (w64 (u1 + u3))) 1)) u4) (w64 (bShr .u64 (wu64 (w64 (u1 + u3))) 1)) (w64 ((w64 ((w64 (bShr .u64 (wu64 (w64 (u1 + u3))) 1)) + u2)) - x20)) u3 u4)) :: Rr) Z1753 wd1748 := hM1751; clear hM1751
        have hp1757 := hp1747 (hM1756.ownSmall 0 rfl); clear hp1747
        refine nlH (hQ1735 _ _ ?_); clear hQ1735 hQ1735Q
        have hc1758 := hp1757.1; have hp1759 := hp1757.2; clear hp1757
        refine rN (fn := Try.f112) (v := .tuple #[]) hF1755 (re0 hF1755 (fn := Try.f112) rfl) ?_
        exact ⟨(segC2 (segC2 u0 u1 x20 (w64 (bShr .u64 (wu64 (w64 (u1 + u3))) 1)) u4) (w64 (bShr .u64 (wu64 (w64 (u1 + u3))) 1)) (w64 ((w64 ((w64 (bShr .u64 (wu64 (w64 (u1 + u3))) 1)) + u2)) - x20)) u3 u4), Z1753, rfl, hp1759, hle0, hc1758, hM1756.keep (List.Sublist.cons_cons _ (List.Sublist.refl _))⟩
       ·
        have hp1760 := hp1713.2 hb1732; clear hp1713
        refine wp_skip ?_
        have hc1761 := hp1760.1; have hp1762 := hp1760.2; clear hp1760
        refine rN (fn := Try.f112) (v := .tuple #[]) hF1731 (re0 hF1731 (fn := Try.f112) rfl) ?_
        exact ⟨(segC2 u0 u1 x20 (w64 (bShr .u64 (wu64 (w64 (u1 + u3))) 1)) u4), Z1709, rfl, hp1762, hle0, hc1761, hM1712.keep (List.Sublist.cons_cons _ (List.Sublist.refl _))⟩
      ·
       have hp1763 := hp1668.2 hb1688; clear hp1668
       refine wp_skip ?_
       refine thn ?_
       have hF1764 : Fr 220 [] [⟨0, [], .slice ao1 u0.length cap2⟩, ⟨3, [], .int .i64 u3⟩, ⟨4, [], .func (.func fid3) #[] caps4⟩, ⟨18, [], .int .i64 (w64 (bShr .u64 (wu64 (w64 (u1 + u3))) 1))⟩, ⟨24, [], .int .i64 (w64 ((w64 ((w64 (bShr .u64 (wu64 (w64 (u1 + u3))) 1)) + u2)) - x20))⟩] a1686 := hF1687.reg; clear hF1687
       refine sqH ?_; intro hQ1765Q hQ1765
       refine s1 hF1764 206 (.int .i64 (w64 (bShr .u64 (wu64 (w64 (u1 + u3))) 1))) ?_; intro a1766 hF1767; clear hF1764
       refine s1 hF1767 207 (.int .i64 (w64 ((w64 ((w64 (bShr .u64 (wu64 (w64 (u1 + u3))) 1)) + u2)) - x20))) ?_; intro a1768 hF1769; clear hF1767
       refine s1 hF1769 208 (.bool (decide ((w64 (bShr .u64 (wu64 (w64 (u1 + u3))) 1)) < (w64 ((w64 ((w64 (bShr .u64 (wu64 (w64 (u1 + u3))) 1)) + u2)) - x20))))) ?_; intro a1770 hF1771; clear hF1769
       refine s1 hF1771 209 (.bool (decide ((w64 (bShr .u64 (wu64 (w64 (u1 + u3))) 1)) < (w64 ((w64 ((w64 (bShr .u64 (wu64 (w64 (u1 + u3))) 1)) + u2)) - x20))))) ?_; intro a1772 hF1773; clear hF1771
       have hF1774 := hF1773.atom ((decide ((w64 (bShr .u64 (wu64 (w64 (u1 + u3))) 1)) < (w64 ((w64 ((w64 (bShr .u64 (wu64 (w64 (u1 + u3))) 1)) + u2)) - x20)))) == true) (by kernel_rfl); clear hF1773
       refine gp hF1774 210 0 [] (decide ((w64 (bShr .u64 (wu64 (w64 (u1 + u3))) 1)) < (w64 ((w64 ((w64 (bShr .u64 (wu64 (w64 (u1 + u3))) 1)) + u2)) - x20)))) (.int .i64 (w64 ((w64 ((w64 (bShr .u64 (wu64 (w64 (u1 + u3))) 1)) + u2)) - x20))) rfl rfl ?_; intro a1775 hF1776; clear hF1774
       refine gp hF1776 211 0 [] (decide ((w64 (bShr .u64 (wu64 (w64 (u1 + u3))) 1)) < (w64 ((w64 ((w64 (bShr .u64 (wu64 (w64 (u1 + u3))) 1)) + u2)) - x20)))) (.int .i64 u3) rfl rfl ?_; intro a1777 hF1778; clear hF1776
       refine gp hF1778 212 0 [] (decide ((w64 (bShr .u64 (wu64 (w64 (u1 + u3))) 1)) < (w64 ((w64 ((w64 (bShr .u64 (wu64 (w64 (u1 + u3))) 1)) + u2)) - x20)))) (.bool (decide ((w64 ((w64 ((w64 (bShr .u64 (wu64 (w64 (u1 + u3))) 1)) + u2)) - x20)) < u3))) rfl rfl ?_; intro a1779 hF1780; clear hF1778
       refine st hF1780 (.bool ((decide ((w64 (bShr .u64 (wu64 (w64 (u1 + u3))) 1)) < (w64 ((w64 ((w64 (bShr .u64 (wu64 (w64 (u1 + u3))) 1)) + u2)) - x20)))) && (decide ((w64 ((w64 ((w64 (bShr .u64 (wu64 (w64 (u1 + u3))) 1)) + u2)) - x20)) < u3)))) (nog rfl _) rfl (by kernel_rfl) (pk_and hF1780 (g := []) (m := 0) (b := decide ((w64 (bShr .u64 (wu64 (w64 (u1 + u3))) 1)) < (w64 ((w64 ((w64 (bShr .u64 (wu64 (w64 (u1 + u3))) 1)) + u2)) - x20)))) (v := decide ((w64 ((w64 ((w64 (bShr .u64 (wu64 (w64 (u1 + u3))) 1)) + u2)) - x20)) < u3)) rfl (by kernel_rfl) (by kernel_rfl) (by kernel_rfl) rfl) ?_; intro a1781 hF1782; clear hF1780
       refine nlH (hQ1765 _ _ ?_); clear hQ1765 hQ1765Q
       refine cd hF1782 (t := (decide ((w64 (bShr .u64 (wu64 (w64 (u1 + u3))) 1)) < (w64 ((w64 ((w64 (bShr .u64 (wu64 (w64 (u1 + u3))) 1)) + u2)) - x20)))) && (decide ((w64 ((w64 ((w64 (bShr .u64 (wu64 (w64 (u1 + u3))) 1)) + u2)) - x20)) < u3))) (by kernel_rfl) (fun hb1783 => ?_) (fun hb1783 => ?_)
       ·
        have hp1784 := hp1763.1 hb1783; clear hp1763
        have hF1785 : Fr 220 [] [⟨0, [], .slice ao1 u0.length cap2⟩, ⟨3, [], .int .i64 u3⟩, ⟨4, [], .func (.func fid3) #[] caps4⟩, ⟨18, [], .int .i64 (w64 (bShr .u64 (wu64 (w64 (u1 + u3))) 1))⟩, ⟨24, [], .int .i64 (w64 ((w64 ((w64 (bShr .u64 (wu64 (w64 (u1 + u3))) 1)) + u2)) - x20))⟩] a1781 := hF1782.reg; clear hF1782
        refine rgH ?_; intro hQ1786Q hQ1786
        refine s1 hF1785 214 (.slice ao1 u0.length cap2) ?_; intro a1787 hF1788; clear hF1785
        refine s1 hF1788 215 (.int .i64 (w64 (bShr .u64 (wu64 (w64 (u1 + u3))) 1))) ?_; intro a1789 hF1790; clear hF1788
        refine s1 hF1790 216 (.int .i64 (w64 ((w64 ((w64 (bShr .u64 (wu64 (w64 (u1 + u3))) 1)) + u2)) - x20))) ?_; intro a1791 hF1792; clear hF1790
        refine s1 hF1792 217 (.int .i64 u3) ?_; intro a1793 hF1794; clear hF1792
        refine s1 hF1794 218 (.func (.func fid3) #[] caps4) ?_; intro a1795 hF1796; clear hF1794
        have hc1797 := hp1784.1; have hp1798 := hp1784.2; clear hp1784
        refine cl hF1796 112 #[.slice ao1 u0.length cap2, .int .i64 (w64 (bShr .u64 (wu64 (w64 (u1 + u3))) 1)), .int .i64 (w64 ((w64 ((w64 (bShr .u64 (wu64 (w64 (u1 + u3))) 1)) + u2)) - x20)), .int .i64 u3, .func (.func fid3) #[] caps4] (nog rfl _) rfl (by kernel_rfl) (by kernel_rfl) ?_
        refine (ih u0 (w64 (bShr .u64 (wu64 (w64 (u1 + u3))) 1)) (w64 ((w64 ((w64 (bShr .u64 (wu64 (w64 (u1 + u3))) 1)) + u2)) - x20)) u3 u4 hc1797 ao1 cap2 fid3 caps4 _ _ _ _ _ _ (fun Z1 w1 h1 h2 => hf5 Z1 w1 (hle0.trans h1) h2) hg6 hM1468 hM1468.fz).mono ?_; rintro _ wd1799 ⟨Z1804, rfl, hle1805, hl1803, hm⟩; refine ⟨_, rfl, ?_⟩; intro a1800 hF1801; have hM1802 := hm; clear hm hM1468 hF1796
        replace hle0 := Fz.le.trans hle0 hle1805
        have hF1806 : Fr 220 [] [⟨0, [], .slice ao1 (segC2 u0 (w64 (bShr .u64 (wu64 (w64 (u1 + u3))) 1)) (w64 ((w64 ((w64 (bShr .u64 (wu64 (w64 (u1 + u3))) 1)) + u2)) - x20)) u3 u4).length cap2⟩, ⟨3, [], .int .i64 u3⟩, ⟨4, [], .func (.func fid3) #[] caps4⟩, ⟨18, [], .int .i64 (w64 (bShr .u64 (wu64 (w64 (u1 + u3))) 1))⟩, ⟨24, [], .int .i64 (w64 ((w64 ((w64 (bShr .u64 (wu64 (w64 (u1 + u3))) 1)) + u2)) - x20))⟩, ⟨214, [], .slice ao1 (segC2 u0 (w64 (bShr .u64 (wu64 (w64 (u1 + u3))) 1)) (w64 ((w64 ((w64 (bShr .u64 (wu64 (w64 (u1 + u3))) 1)) + u2)) - x20)) u3 u4).length cap2⟩, ⟨215, [], .int .i64 (w64 (bShr .u64 (wu64 (w64 (u1 + u3))) 1))⟩, ⟨216, [], .int .i64 (w64 ((w64 ((w64 (bShr .u64 (wu64 (w64 (u1 + u3))) 1)) + u2)) - x20))⟩, ⟨217, [], .int .i64 u3⟩, ⟨218, [], .func (.func fid3) #[] caps4⟩, ⟨219, [], .tuple #[]⟩] a1800 := by rw [hl1803]; exact hF1801.reg
        clear hF1801
        have hM1807 : Mem B [] w0 Z0 ((.own tyJob 110 ao1 cap2 (segC2 u0 (w64 (bShr .u64 (wu64 (w64 (u1 + u3))) 1)) (w64 ((w64 ((w64 (bShr .u64 (wu64 (w64 (u1 + u3))) 1)) + u2)) - x20)) u3 u4)) :: Rr) Z1804 wd1799 := hM1802; clear hM1802
        have hp1808 := hp1798 (hM1807.ownSmall 0 rfl); clear hp1798
        refine nlH (hQ1786 _ _ ?_); clear hQ1786 hQ1786Q
        have hc1809 := hp1808.1; have hp1810 := hp1808.2; clear hp1808
        refine rN (fn := Try.f112) (v := .tuple #[]) hF1806 (re0 hF1806 (fn := Try.f112) rfl) ?_
        exact ⟨(segC2 u0 (w64 (bShr .u64 (wu64 (w64 (u1 + u3))) 1)) (w64 ((w64 ((w64 (bShr .u64 (wu64 (w64 (u1 + u3))) 1)) + u2)) - x20)) u3 u4), Z1804, rfl, hp1810, hle0, hc1809, hM1807.keep (List.Sublist.cons_cons _ (List.Sublist.refl _))⟩
       ·
        have hp1811 := hp1763.2 hb1783; clear hp1763
        refine wp_skip ?_
        have hc1812 := hp1811.1; have hp1813 := hp1811.2; clear hp1811
        refine rN (fn := Try.f112) (v := .tuple #[]) hF1782 (re0 hF1782 (fn := Try.f112) rfl) ?_
        exact ⟨u0, Z, rfl, hp1813, hle0, hc1812, hM1468.keep (List.Sublist.cons_cons _ (List.Sublist.refl _))⟩
    refine wp_block ?_
    have hF1814 : Fr 220 [] [⟨0, [], .slice ao1 u0.length cap2⟩, ⟨1, [], .int .i64 u1⟩, ⟨2, [], .int .i64 u2⟩, ⟨3, [], .int .i64 u3⟩, ⟨4, [], .func (.func fid3) #[] caps4⟩, ⟨18, [], .int .i64 (w64 (bShr .u64 (wu64 (w64 (u1 + u3))) 1))⟩, ⟨19, [], .int .i64 (w64 ((w64 (bShr .u64 (wu64 (w64 (u1 + u3))) 1)) + u2))⟩, ⟨20, [], .int .i64 u1⟩, ⟨21, [], .int .i64 u2⟩, ⟨22, [], .int .i64 (w64 ((w64 ((w64 (bShr .u64 (wu64 (w64 (u1 + u3))) 1)) + u2)) - 1))⟩] a1455 := hF1459.reg; clear hF1459
    have hF1816 : Fr 220 [] [⟨0, [], .slice ao1 u0.length cap2⟩, ⟨1, [], .int .i64 u1⟩, ⟨2, [], .int .i64 u2⟩, ⟨3, [], .int .i64 u3⟩, ⟨4, [], .func (.func fid3) #[] caps4⟩, ⟨18, [], .int .i64 (w64 (bShr .u64 (wu64 (w64 (u1 + u3))) 1))⟩, ⟨19, [], .int .i64 (w64 ((w64 (bShr .u64 (wu64 (w64 (u1 + u3))) 1)) + u2))⟩, ⟨20, [], .int .i64 u1⟩, ⟨21, [], .int .i64 u2⟩, ⟨22, [], .int .i64 (w64 ((w64 ((w64 (bShr .u64 (wu64 (w64 (u1 + u3))) 1)) + u2)) - 1))⟩] a1455 := hF1814.reg; clear hF1814
    obtain ⟨inv1815, mu1815, hI1819, hr1818⟩ := hp1460
    refine lp (ι := Int × Int) (fun (s : Int × Int) => [⟨0, [], .slice ao1 u0.length cap2⟩, ⟨1, [], .int .i64 u1⟩, ⟨2, [], .int .i64 u2⟩, ⟨3, [], .int .i64 u3⟩, ⟨4, [], .func (.func fid3) #[] caps4⟩, ⟨18, [], .int .i64 (w64 (bShr .u64 (wu64 (w64 (u1 + u3))) 1))⟩, ⟨19, [], .int .i64 (w64 ((w64 (bShr .u64 (wu64 (w64 (u1 + u3))) 1)) + u2))⟩, ⟨20, [], .int .i64 s.1⟩, ⟨21, [], .int .i64 s.2⟩, ⟨22, [], .int .i64 (w64 ((w64 ((w64 (bShr .u64 (wu64 (w64 (u1 + u3))) 1)) + u2)) - 1))⟩]) (fun (s : Int × Int) => ((.own tyJob 110 ao1 cap2 u0) :: Rr)) (fun (s : Int × Int) => Z) (fun (s : Int × Int) => inv1815 s.1 s.2) (fun (s : Int × Int) => mu1815 s.1 s.2) ⟨u1, u2⟩ hI1819 (by exact hF1816.reg) (by exact hM0) ?_
    rintro ⟨x20v, x21⟩ hI1817 a1821 wd1822 hF1823 hM1824
    have hF1825 : Fr 220 [] [⟨0, [], .slice ao1 u0.length cap2⟩, ⟨1, [], .int .i64 u1⟩, ⟨2, [], .int .i64 u2⟩, ⟨3, [], .int .i64 u3⟩, ⟨4, [], .func (.func fid3) #[] caps4⟩, ⟨18, [], .int .i64 (w64 (bShr .u64 (wu64 (w64 (u1 + u3))) 1))⟩, ⟨19, [], .int .i64 (w64 ((w64 (bShr .u64 (wu64 (w64 (u1 + u3))) 1)) + u2))⟩, ⟨20, [], .int .i64 x20v⟩, ⟨21, [], .int .i64 x21⟩, ⟨22, [], .int .i64 (w64 ((w64 ((w64 (bShr .u64 (wu64 (w64 (u1 + u3))) 1)) + u2)) - 1))⟩] a1821 := hF1823; clear hF1823 hF1816
    have hM1826 : Mem B [] w0 Z0 ((.own tyJob 110 ao1 cap2 u0) :: Rr) Z wd1822 := hM1824; clear hM1824 hM0
    have hp1827 := hr1818 x20v x21 hI1817
    refine wp_seq ?_
    refine sqH ?_; intro hQ1828Q hQ1828
    refine s1 hF1825 149 (.int .i64 x20v) ?_; intro a1829 hF1830; clear hF1825
    refine s1 hF1830 150 (.int .i64 x21) ?_; intro a1831 hF1832; clear hF1830
    refine s1 hF1832 151 (.bool (decide (x20v < x21))) ?_; intro a1833 hF1834; clear hF1832
    refine nlH (hQ1828 _ _ ?_); clear hQ1828 hQ1828Q
    refine cd hF1834 (t := decide (x20v < x21)) (by kernel_rfl) (fun hb1835 => ?_) (fun hb1835 => ?_)
    ·
     have hp1836 := hp1827.1 hb1835; clear hp1827
     refine wp_skip ?_
     refine thn ?_
     refine wp_block ?_
     refine sqH ?_; intro hQ1837Q hQ1837
     refine s1 hF1834 152 (.int .i64 x20v) ?_; intro a1838 hF1839; clear hF1834
     refine s1 hF1839 153 (.int .i64 x21) ?_; intro a1840 hF1841; clear hF1839
     refine s1 hF1841 154 (.int .i64 (w64 (x20v + x21))) ?_; intro a1842 hF1843; clear hF1841
     refine s1 hF1843 155 (.int .u64 (wu64 (w64 (x20v + x21)))) ?_; intro a1844 hF1845; clear hF1843
     refine s1 hF1845 156 (.int .u64 (bShr .u64 (wu64 (w64 (x20v + x21))) 1)) ?_; intro a1846 hF1847; clear hF1845
     refine s1 hF1847 157 (.int .i64 (w64 (bShr .u64 (wu64 (w64 (x20v + x21))) 1))) ?_; intro a1848 hF1849; clear hF1847
     refine s1 hF1849 23 (.int .i64 (w64 (bShr .u64 (wu64 (w64 (x20v + x21))) 1))) ?_; intro a1850 hF1851; clear hF1849
     refine nlH (hQ1837 _ _ ?_); clear hQ1837 hQ1837Q
     have hF1852 : Fr 220 [] [⟨0, [], .slice ao1 u0.length cap2⟩, ⟨1, [], .int .i64 u1⟩, ⟨2, [], .int .i64 u2⟩, ⟨3, [], .int .i64 u3⟩, ⟨4, [], .func (.func fid3) #[] caps4⟩, ⟨18, [], .int .i64 (w64 (bShr .u64 (wu64 (w64 (u1 + u3))) 1))⟩, ⟨19, [], .int .i64 (w64 ((w64 (bShr .u64 (wu64 (w64 (u1 + u3))) 1)) + u2))⟩, ⟨20, [], .int .i64 x20v⟩, ⟨21, [], .int .i64 x21⟩, ⟨22, [], .int .i64 (w64 ((w64 ((w64 (bShr .u64 (wu64 (w64 (u1 + u3))) 1)) + u2)) - 1))⟩, ⟨23, [], .int .i64 (w64 (bShr .u64 (wu64 (w64 (x20v + x21))) 1))⟩] a1850 := hF1851.reg; clear hF1851
     have hcd5_0 := hp1836.1; have hp1894 := hp1836.2; clear hp1836
     obtain ⟨qd6_0, hqd6_0⟩ : ∃ q, u0[(w64 ((w64 ((w64 ((w64 (bShr .u64 (wu64 (w64 (u1 + u3))) 1)) + u2)) - 1)) - (w64 (bShr .u64 (wu64 (w64 (x20v + x21))) 1)))).toNat]? = some q := ⟨_, List.getElem?_eq_getElem (by omega)⟩; have hp1895 := hp1894 qd6_0 hqd6_0; clear hp1894
     have hcd9_0 := hp1895.1; have hp1896 := hp1895.2; clear hp1895
     obtain ⟨qd10_0, hqd10_0⟩ : ∃ q, u0[(w64 (bShr .u64 (wu64 (w64 (x20v + x21))) 1)).toNat]? = some q := ⟨_, List.getElem?_eq_getElem (by omega)⟩; have hp1897 := hp1896 qd10_0 hqd10_0; clear hp1896
     refine wp_seq (any_invE mixed [[], [], [], [], [2, 3], [1, 4], [5], [], [], [7, 8], [9], [0, 6, 10], [11], [12]] 14 (fun S a w1 => ∃ (g1863 : Nat) (g1876 : Nat) (ud158 : Value) (ud159 : Value) (ud160 : Value) (ud161 : Value) (ud162 : Value) (ud163 : Value) (ud164 : Value) (ud165 : Value) (ud166 : Value) (ud167 : Value) (ud168 : Value) (ud169 : Value) (ud170 : Value) (ud171 : Value) (rh0 : Res), Fz.le Z Z ∧ Fr 220 [] [⟨0, [], .slice ao1 u0.length cap2⟩, ⟨1, [], .int .i64 u1⟩, ⟨2, [], .int .i64 u2⟩, ⟨3, [], .int .i64 u3⟩, ⟨4, [], .func (.func fid3) #[] caps4⟩, ⟨18, [], .int .i64 (w64 (bShr .u64 (wu64 (w64 (u1 + u3))) 1))⟩, ⟨19, [], .int .i64 (w64 ((w64 (bShr .u64 (wu64 (w64 (u1 + u3))) 1)) + u2))⟩, ⟨20, [], .int .i64 x20v⟩, ⟨21, [], .int .i64 x21⟩, ⟨22, [], .int .i64 (w64 ((w64 ((w64 (bShr .u64 (wu64 (w64 (u1 + u3))) 1)) + u2)) - 1))⟩, ⟨23, [], .int .i64 (w64 (bShr .u64 (wu64 (w64 (x20v + x21))) 1))⟩, ⟨158, [], ud158⟩, ⟨159, [], ud159⟩, ⟨160, [], ud160⟩, ⟨161, [], ud161⟩, ⟨162, [], ud162⟩, ⟨163, [], ud163⟩, ⟨164, [], ud164⟩, ⟨165, [], ud165⟩, ⟨166, [], ud166⟩, ⟨167, [], ud167⟩, ⟨168, [], ud168⟩, ⟨169, [], ud169⟩, ⟨170, [], ud170⟩, ⟨171, [], ud171⟩] a ∧ Mem B [] w0 Z0 (rh0 :: Rr) Z w1 ∧ (S 0 = true → ud158 = .func (.func fid3) #[] caps4) ∧ (S 1 = true → ud159 = .slice ao1 u0.length cap2) ∧ (S 2 = true → ud160 = .int .i64 (w64 ((w64 ((w64 (bShr .u64 (wu64 (w64 (u1 + u3))) 1)) + u2)) - 1))) ∧ (S 3 = true → ud161 = .int .i64 (w64 (bShr .u64 (wu64 (w64 (x20v + x21))) 1))) ∧ (S 4 = true → ud162 = .int .i64 (w64 ((w64 ((w64 ((w64 (bShr .u64 (wu64 (w64 (u1 + u3))) 1)) + u2)) - 1)) - (w64 (bShr .u64 (wu64 (w64 (x20v + x21))) 1))))) ∧ (S 5 = true → ud163 = .pointer (some ⟨g1863, (w64 ((w64 ((w64 ((w64 (bShr .u64 (wu64 (w64 (u1 + u3))) 1)) + u2)) - 1)) - (w64 (bShr .u64 (wu64 (w64 (x20v + x21))) 1)))).toNat * 3, none⟩)) ∧ (S 6 = true → ud164 = .agg #[.int .i64 qd6_0.task, .int .i64 qd6_0.from_, .int .i64 qd6_0.asked]) ∧ (S 7 = true → ud165 = .slice ao1 u0.length cap2) ∧ (S 8 = true → ud166 = .int .i64 (w64 (bShr .u64 (wu64 (w64 (x20v + x21))) 1))) ∧ (S 9 = true → ud167 = .pointer (some ⟨g1876, (w64 (bShr .u64 (wu64 (w64 (x20v + x21))) 1)).toNat * 3, none⟩)) ∧ (S 10 = true → ud168 = .agg #[.int .i64 qd10_0.task, .int .i64 qd10_0.from_, .int .i64 qd10_0.asked]) ∧ (S 11 = true → ud169 = .int .i64 (u4 qd6_0 qd10_0)) ∧ (S 12 = true → ud170 = .bool (decide ((u4 qd6_0 qd10_0) < 0))) ∧ (S 13 = true → ud171 = .bool (!(decide ((u4 qd6_0 qd10_0) < 0)))) ∧ (rh0 = .own tyJob 110 ao1 cap2 u0) ∧ (S 5 = true → ao1 = some ⟨g1863, 0, none⟩) ∧ (S 9 = true → ao1 = some ⟨g1876, 0, none⟩)) ?h0 ?hs ?hE)
     case h0 =>
      have hF1899 := hF1852.any 158
      have hF1900 := hF1899.any 159
      have hF1901 := hF1900.any 160
      have hF1902 := hF1901.any 161
      have hF1903 := hF1902.any 162
      have hF1904 := hF1903.any 163
      have hF1905 := hF1904.any 164
      have hF1906 := hF1905.any 165
      have hF1907 := hF1906.any 166
      have hF1908 := hF1907.any 167
      have hF1909 := hF1908.any 168
      have hF1910 := hF1909.any 169
      have hF1911 := hF1910.any 170
      have hF1912 := hF1911.any 171
      have hM1913 := (hM1826.perm lpr).drew
      exact ⟨0, 0, a1850.tmps.getD 158 undef, a1850.tmps.getD 159 undef, a1850.tmps.getD 160 undef, a1850.tmps.getD 161 undef, a1850.tmps.getD 162 undef, a1850.tmps.getD 163 undef, a1850.tmps.getD 164 undef, a1850.tmps.getD 165 undef, a1850.tmps.getD 166 undef, a1850.tmps.getD 167 undef, a1850.tmps.getD 168 undef, a1850.tmps.getD 169 undef, a1850.tmps.getD 170 undef, a1850.tmps.getD 171 undef, .own tyJob 110 ao1 cap2 u0, Fz.le.refl _, hF1912.reg, hM1913, ff, ff, ff, ff, ff, ff, ff, ff, ff, ff, ff, ff, ff, ff, rfl, ff, ff⟩
     case hs =>
      intro S hcl i o hil hi hSi hpre a w1 hI; refine Go.Sy.hid ?_; intro G hG; obtain ⟨g1863, g1876, ud158, ud159, ud160, ud161, ud162, ud163, ud164, ud165, ud166, ud167, ud168, ud169, ud170, ud171, rh0, hle1898, hFx, hMx, cu158, cu159, cu160, cu161, cu162, cu163, cu164, cu165, cu166, cu167, cu168, cu169, cu170, cu171, cr0_0, cf0, hI⟩ := hI; have cf1 := hI; clear hI
      have hcase : i = 0 ∨ i = 1 ∨ i = 2 ∨ i = 3 ∨ i = 4 ∨ i = 5 ∨ i = 6 ∨ i = 7 ∨ i = 8 ∨ i = 9 ∨ i = 10 ∨ i = 11 ∨ i = 12 ∨ i = 13 := by clear hi; omega
      rcases hcase with rfl | rfl | rfl | rfl | rfl | rfl | rfl | rfl | rfl | rfl | rfl | rfl | rfl | rfl
      ·
       obtain rfl := oj hi
       have hx0 := hSi
       have hx11 := ngF hcl 11 0 hx0
       have hx12 := ngF hcl 12 11 hx11
       have hx13 := ngF hcl 13 12 hx12
       obtain rfl := cr0_0
       refine hG (any_step ?_); clear hG G; intro A J hJ
       have hle0 := Fz.le.trans hle0 hle1898
       refine s1 hFx 158 (.func (.func fid3) #[] caps4) ?_; intro a1914 hF1915; clear hFx
       refine nl (qnI (hJ _ _ ?_)); clear hJ J
       exact ⟨g1863, g1876, .func (.func fid3) #[] caps4, ud159, ud160, ud161, ud162, ud163, ud164, ud165, ud166, ud167, ud168, ud169, ud170, ud171, .own tyJob 110 ao1 cap2 u0, hle1898, hF1915.reg, hMx.perm lpr, kf, cu159, cu160, cu161, cu162, cu163, cu164, cu165, cu166, cu167, cu168, (nt hx11), (nt hx12), (nt hx13), rfl, cf0, cf1⟩
      ·
       obtain rfl := oj hi
       have hx1 := hSi
       have hx5 := ngF hcl 5 1 hx1
       have hx6 := ngF hcl 6 5 hx5
       have hx11 := ngF hcl 11 6 hx6
       have hx12 := ngF hcl 12 11 hx11
       have hx13 := ngF hcl 13 12 hx12
       obtain rfl := cr0_0
       refine hG (any_step ?_); clear hG G; intro A J hJ
       have hle0 := Fz.le.trans hle0 hle1898
       refine s1 hFx 159 (.slice ao1 u0.length cap2) ?_; intro a1917 hF1918; clear hFx
       refine nl (qnI (hJ _ _ ?_)); clear hJ J
       exact ⟨g1863, g1876, ud158, .slice ao1 u0.length cap2, ud160, ud161, ud162, ud163, ud164, ud165, ud166, ud167, ud168, ud169, ud170, ud171, .own tyJob 110 ao1 cap2 u0, hle1898, hF1918.reg, hMx.perm lpr, cu158, kf, cu160, cu161, cu162, (nt hx5), (nt hx6), cu165, cu166, cu167, cu168, (nt hx11), (nt hx12), (nt hx13), rfl, (nt hx5), cf1⟩
      ·
       obtain rfl := oj hi
       have hx2 := hSi
       have hx4 := ngF hcl 4 2 hx2
       have hx5 := ngF hcl 5 4 hx4
       have hx6 := ngF hcl 6 5 hx5
       have hx11 := ngF hcl 11 6 hx6
       have hx12 := ngF hcl 12 11 hx11
       have hx13 := ngF hcl 13 12 hx12
       obtain rfl := cr0_0
       refine hG (any_step ?_); clear hG G; intro A J hJ
       have hle0 := Fz.le.trans hle0 hle1898
       refine s1 hFx 160 (.int .i64 (w64 ((w64 ((w64 (bShr .u64 (wu64 (w64 (u1 + u3))) 1)) + u2)) - 1))) ?_; intro a1920 hF1921; clear hFx
       refine nl (qnI (hJ _ _ ?_)); clear hJ J
       exact ⟨g1863, g1876, ud158, ud159, .int .i64 (w64 ((w64 ((w64 (bShr .u64 (wu64 (w64 (u1 + u3))) 1)) + u2)) - 1)), ud161, ud162, ud163, ud164, ud165, ud166, ud167, ud168, ud169, ud170, ud171, .own tyJob 110 ao1 cap2 u0, hle1898, hF1921.reg, hMx.perm lpr, cu158, cu159, kf, cu161, (nt hx4), (nt hx5), (nt hx6), cu165, cu166, cu167, cu168, (nt hx11), (nt hx12), (nt hx13), rfl, (nt hx5), cf1⟩
      ·
       obtain rfl := oj hi
       have hx3 := hSi
       have hx4 := ngF hcl 4 3 hx3
       have hx5 := ngF hcl 5 4 hx4
       have hx6 := ngF hcl 6 5 hx5
       have hx11 := ngF hcl 11 6 hx6
       have hx12 := ngF hcl 12 11 hx11
       have hx13 := ngF hcl 13 12 hx12
       obtain rfl := cr0_0
       refine hG (any_step ?_); clear hG G; intro A J hJ
       have hle0 := Fz.le.trans hle0 hle1898
       refine s1 hFx 161 (.int .i64 (w64 (bShr .u64 (wu64 (w64 (x20v + x21))) 1))) ?_; intro a1923 hF1924; clear hFx
       refine nl (qnI (hJ _ _ ?_)); clear hJ J
       exact ⟨g1863, g1876, ud158, ud159, ud160, .int .i64 (w64 (bShr .u64 (wu64 (w64 (x20v + x21))) 1)), ud162, ud163, ud164, ud165, ud166, ud167, ud168, ud169, ud170, ud171, .own tyJob 110 ao1 cap2 u0, hle1898, hF1924.reg, hMx.perm lpr, cu158, cu159, cu160, kf, (nt hx4), (nt hx5), (nt hx6), cu165, cu166, cu167, cu168, (nt hx11), (nt hx12), (nt hx13), rfl, (nt hx5), cf1⟩
      ·
       obtain rfl := oj hi
       have hx3 := hpre 3 (by kernel_rfl)
       have hx2 := hpre 2 (by kernel_rfl)
       have hx4 := hSi
       have hx5 := ngF hcl 5 4 hx4
       have hx6 := ngF hcl 6 5 hx5
       have hx11 := ngF hcl 11 6 hx6
       have hx12 := ngF hcl 12 11 hx11
       have hx13 := ngF hcl 13 12 hx12
       obtain rfl := cu160 hx2
       obtain rfl := cu161 hx3
       obtain rfl := cr0_0
       refine hG (any_step ?_); clear hG G; intro A J hJ
       have hle0 := Fz.le.trans hle0 hle1898
       refine s1 hFx 162 (.int .i64 (w64 ((w64 ((w64 ((w64 (bShr .u64 (wu64 (w64 (u1 + u3))) 1)) + u2)) - 1)) - (w64 (bShr .u64 (wu64 (w64 (x20v + x21))) 1))))) ?_; intro a1926 hF1927; clear hFx
       refine nl (qnI (hJ _ _ ?_)); clear hJ J
       exact ⟨g1863, g1876, ud158, ud159, .int .i64 (w64 ((w64 ((w64 (bShr .u64 (wu64 (w64 (u1 + u3))) 1)) + u2)) - 1)), .int .i64 (w64 (bShr .u64 (wu64 (w64 (x20v + x21))) 1)), .int .i64 (w64 ((w64 ((w64 ((w64 (bShr .u64 (wu64 (w64 (u1 + u3))) 1)) + u2)) - 1)) - (w64 (bShr .u64 (wu64 (w64 (x20v + x21))) 1)))), ud163, ud164, ud165, ud166, ud167, ud168, ud169, ud170, ud171, .own tyJob 110 ao1 cap2 u0, hle1898, hF1927.reg, hMx.perm lpr, cu158, cu159, kf, kf, kf, (nt hx5), (nt hx6), cu165, cu166, cu167, cu168, (nt hx11), (nt hx12), (nt hx13), rfl, (nt hx5), cf1⟩
      ·
       obtain rfl := oj hi
       have hx4 := hpre 4 (by kernel_rfl)
       have hx1 := hpre 1 (by kernel_rfl)
       have hx3 := hcl 4 3 (by kernel_rfl) hx4
       have hx2 := hcl 4 2 (by kernel_rfl) hx4
       have hx5 := hSi
       have hx6 := ngF hcl 6 5 hx5
       have hx11 := ngF hcl 11 6 hx6
       have hx12 := ngF hcl 12 11 hx11
       have hx13 := ngF hcl 13 12 hx12
       obtain rfl := cu159 hx1
       obtain rfl := cu160 hx2
       obtain rfl := cu161 hx3
       obtain rfl := cu162 hx4
       obtain rfl := cr0_0
       refine hG (any_step ?_); clear hG G; intro A J hJ
       have hle0 := Fz.le.trans hle0 hle1898
       refine ixo hFx hMx 0 (T := tyJob) (xs := u0) (w64 ((w64 ((w64 ((w64 (bShr .u64 (wu64 (w64 (u1 + u3))) 1)) + u2)) - 1)) - (w64 (bShr .u64 (wu64 (w64 (x20v + x21))) 1)))) (by simpa only [List.length_set] using hcd5_0) (k := .i64) (e := 110) (bytes := 24) (nog rfl _) rfl (by kernel_rfl) rfl (by kernel_rfl) (by kernel_rfl) rfl (by kernel_rfl) ?_; intro g1929 a1931 hg1930 hF1932; clear hFx
       refine nl (qnI (hJ _ _ ?_)); clear hJ J
       exact ⟨g1929, g1876, ud158, .slice ao1 u0.length cap2, .int .i64 (w64 ((w64 ((w64 (bShr .u64 (wu64 (w64 (u1 + u3))) 1)) + u2)) - 1)), .int .i64 (w64 (bShr .u64 (wu64 (w64 (x20v + x21))) 1)), .int .i64 (w64 ((w64 ((w64 ((w64 (bShr .u64 (wu64 (w64 (u1 + u3))) 1)) + u2)) - 1)) - (w64 (bShr .u64 (wu64 (w64 (x20v + x21))) 1)))), .pointer (some ⟨g1929, (w64 ((w64 ((w64 ((w64 (bShr .u64 (wu64 (w64 (u1 + u3))) 1)) + u2)) - 1)) - (w64 (bShr .u64 (wu64 (w64 (x20v + x21))) 1)))).toNat * 3, none⟩), ud164, ud165, ud166, ud167, ud168, ud169, ud170, ud171, .own tyJob 110 ao1 cap2 u0, hle1898, hF1932.reg, hMx.perm lpr, cu158, kf, kf, kf, kf, kf, (nt hx6), cu165, cu166, cu167, cu168, (nt hx11), (nt hx12), (nt hx13), rfl, (fun _ => hg1930), cf1⟩
      ·
       obtain rfl := oj hi
       have hx5 := hpre 5 (by kernel_rfl)
       have hx4 := hcl 5 4 (by kernel_rfl) hx5
       have hx1 := hcl 5 1 (by kernel_rfl) hx5
       have hx3 := hcl 4 3 (by kernel_rfl) hx4
       have hx2 := hcl 4 2 (by kernel_rfl) hx4
       have hx6 := hSi
       have hx11 := ngF hcl 11 6 hx6
       have hx12 := ngF hcl 12 11 hx11
       have hx13 := ngF hcl 13 12 hx12
       obtain rfl := cu159 hx1
       obtain rfl := cu160 hx2
       obtain rfl := cu161 hx3
       obtain rfl := cu162 hx4
       obtain rfl := cu163 hx5
       obtain rfl := cr0_0
       refine hG (any_step ?_); clear hG G; intro A J hJ
       have hle0 := Fz.le.trans hle0 hle1898
       have hs1934 := cf0 hx5
       obtain ⟨cs1935, hT1936, hcl1937⟩ := own_elx hMx 0 (T := tyJob) (xs := u0) rfl hs1934 (w64 ((w64 ((w64 ((w64 (bShr .u64 (wu64 (w64 (u1 + u3))) 1)) + u2)) - 1)) - (w64 (bShr .u64 (wu64 (w64 (x20v + x21))) 1)))).toNat hqd6_0
       obtain rfl : cs1935 = ([.int .i64 qd6_0.task, .int .i64 qd6_0.from_, .int .i64 qd6_0.asked] : List Value) := hT1936
       refine lc2 hFx 164 3 [.int .i64 qd6_0.task, .int .i64 qd6_0.from_, .int .i64 qd6_0.asked] hcl1937 rfl ?_; intro a1938 hF1939; clear hFx
       refine nl (qnI (hJ _ _ ?_)); clear hJ J
       exact ⟨g1863, g1876, ud158, .slice ao1 u0.length cap2, .int .i64 (w64 ((w64 ((w64 (bShr .u64 (wu64 (w64 (u1 + u3))) 1)) + u2)) - 1)), .int .i64 (w64 (bShr .u64 (wu64 (w64 (x20v + x21))) 1)), .int .i64 (w64 ((w64 ((w64 ((w64 (bShr .u64 (wu64 (w64 (u1 + u3))) 1)) + u2)) - 1)) - (w64 (bShr .u64 (wu64 (w64 (x20v + x21))) 1)))), .pointer (some ⟨g1863, (w64 ((w64 ((w64 ((w64 (bShr .u64 (wu64 (w64 (u1 + u3))) 1)) + u2)) - 1)) - (w64 (bShr .u64 (wu64 (w64 (x20v + x21))) 1)))).toNat * 3, none⟩), .agg #[.int .i64 qd6_0.task, .int .i64 qd6_0.from_, .int .i64 qd6_0.asked], ud165, ud166, ud167, ud168, ud169, ud170, ud171, .own tyJob 110 ao1 cap2 u0, hle1898, hF1939.reg, hMx.perm lpr, cu158, kf, kf, kf, kf, kf, kf, cu165, cu166, cu167, cu168, (nt hx11), (nt hx12), (nt hx13), rfl, (fun _ => hs1934), cf1⟩
      ·
       obtain rfl := oj hi
       have hx7 := hSi
       have hx9 := ngF hcl 9 7 hx7
       have hx10 := ngF hcl 10 9 hx9
       have hx11 := ngF hcl 11 10 hx10
       have hx12 := ngF hcl 12 11 hx11
       have hx13 := ngF hcl 13 12 hx12
       obtain rfl := cr0_0
       refine hG (any_step ?_); clear hG G; intro A J hJ
       have hle0 := Fz.le.trans hle0 hle1898
       refine s1 hFx 165 (.slice ao1 u0.length cap2) ?_; intro a1941 hF1942; clear hFx
       refine nl (qnI (hJ _ _ ?_)); clear hJ J
       exact ⟨g1863, g1876, ud158, ud159, ud160, ud161, ud162, ud163, ud164, .slice ao1 u0.length cap2, ud166, ud167, ud168, ud169, ud170, ud171, .own tyJob 110 ao1 cap2 u0, hle1898, hF1942.reg, hMx.perm lpr, cu158, cu159, cu160, cu161, cu162, cu163, cu164, kf, cu166, (nt hx9), (nt hx10), (nt hx11), (nt hx12), (nt hx13), rfl, cf0, (nt hx9)⟩
      ·
       obtain rfl := oj hi
       have hx8 := hSi
       have hx9 := ngF hcl 9 8 hx8
       have hx10 := ngF hcl 10 9 hx9
       have hx11 := ngF hcl 11 10 hx10
       have hx12 := ngF hcl 12 11 hx11
       have hx13 := ngF hcl 13 12 hx12
       obtain rfl := cr0_0
       refine hG (any_step ?_); clear hG G; intro A J hJ
       have hle0 := Fz.le.trans hle0 hle1898
       refine s1 hFx 166 (.int .i64 (w64 (bShr .u64 (wu64 (w64 (x20v + x21))) 1))) ?_; intro a1944 hF1945; clear hFx
       refine nl (qnI (hJ _ _ ?_)); clear hJ J
       exact ⟨g1863, g1876, ud158, ud159, ud160, ud161, ud162, ud163, ud164, ud165, .int .i64 (w64 (bShr .u64 (wu64 (w64 (x20v + x21))) 1)), ud167, ud168, ud169, ud170, ud171, .own tyJob 110 ao1 cap2 u0, hle1898, hF1945.reg, hMx.perm lpr, cu158, cu159, cu160, cu161, cu162, cu163, cu164, cu165, kf, (nt hx9), (nt hx10), (nt hx11), (nt hx12), (nt hx13), rfl, cf0, (nt hx9)⟩
      ·
       obtain rfl := oj hi
       have hx8 := hpre 8 (by kernel_rfl)
       have hx7 := hpre 7 (by kernel_rfl)
       have hx9 := hSi
       have hx10 := ngF hcl 10 9 hx9
       have hx11 := ngF hcl 11 10 hx10
       have hx12 := ngF hcl 12 11 hx11
       have hx13 := ngF hcl 13 12 hx12
       obtain rfl := cu165 hx7
       obtain rfl := cu166 hx8
       obtain rfl := cr0_0
       refine hG (any_step ?_); clear hG G; intro A J hJ
       have hle0 := Fz.le.trans hle0 hle1898
       refine ixo hFx hMx 0 (T := tyJob) (xs := u0) (w64 (bShr .u64 (wu64 (w64 (x20v + x21))) 1)) (by simpa only [List.length_set] using hcd9_0) (k := .i64) (e := 110) (bytes := 24) (nog rfl _) rfl (by kernel_rfl) rfl (by kernel_rfl) (by kernel_rfl) rfl (by kernel_rfl) ?_; intro g1947 a1949 hg1948 hF1950; clear hFx
       refine nl (qnI (hJ _ _ ?_)); clear hJ J
       exact ⟨g1863, g1947, ud158, ud159, ud160, ud161, ud162, ud163, ud164, .slice ao1 u0.length cap2, .int .i64 (w64 (bShr .u64 (wu64 (w64 (x20v + x21))) 1)), .pointer (some ⟨g1947, (w64 (bShr .u64 (wu64 (w64 (x20v + x21))) 1)).toNat * 3, none⟩), ud168, ud169, ud170, ud171, .own tyJob 110 ao1 cap2 u0, hle1898, hF1950.reg, hMx.perm lpr, cu158, cu159, cu160, cu161, cu162, cu163, cu164, kf, kf, kf, (nt hx10), (nt hx11), (nt hx12), (nt hx13), rfl, cf0, (fun _ => hg1948)⟩
      ·
       obtain rfl := oj hi
       have hx9 := hpre 9 (by kernel_rfl)
       have hx8 := hcl 9 8 (by kernel_rfl) hx9
       have hx7 := hcl 9 7 (by kernel_rfl) hx9
       have hx10 := hSi
       have hx11 := ngF hcl 11 10 hx10
       have hx12 := ngF hcl 12 11 hx11
       have hx13 := ngF hcl 13 12 hx12
       obtain rfl := cu165 hx7
       obtain rfl := cu166 hx8
       obtain rfl := cu167 hx9
       obtain rfl := cr0_0
       refine hG (any_step ?_); clear hG G; intro A J hJ
       have hle0 := Fz.le.trans hle0 hle1898
       have hs1952 := cf1 hx9
       obtain ⟨cs1953, hT1954, hcl1955⟩ := own_elx hMx 0 (T := tyJob) (xs := u0) rfl hs1952 (w64 (bShr .u64 (wu64 (w64 (x20v + x21))) 1)).toNat hqd10_0
       obtain rfl : cs1953 = ([.int .i64 qd10_0.task, .int .i64 qd10_0.from_, .int .i64 qd10_0.asked] : List Value) := hT1954
       refine lc2 hFx 168 3 [.int .i64 qd10_0.task, .int .i64 qd10_0.from_, .int .i64 qd10_0.asked] hcl1955 rfl ?_; intro a1956 hF1957; clear hFx
       refine nl (qnI (hJ _ _ ?_)); clear hJ J
       exact ⟨g1863, g1876, ud158, ud159, ud160, ud161, ud162, ud163, ud164, .slice ao1 u0.length cap2, .int .i64 (w64 (bShr .u64 (wu64 (w64 (x20v + x21))) 1)), .pointer (some ⟨g1876, (w64 (bShr .u64 (wu64 (w64 (x20v + x21))) 1)).toNat * 3, none⟩), .agg #[.int .i64 qd10_0.task, .int .i64 qd10_0.from_, .int .i64 qd10_0.asked], ud169, ud170, ud171, .own tyJob 110 ao1 cap2 u0, hle1898, hF1957.reg, hMx.perm lpr, cu158, cu159, cu160, cu161, cu162, cu163, cu164, kf, kf, kf, kf, (nt hx11), (nt hx12), (nt hx13), rfl, cf0, (fun _ => hs1952)⟩
      ·
       obtain rfl := oj hi
       have hx10 := hpre 10 (by kernel_rfl)
       have hx6 := hpre 6 (by kernel_rfl)
       have hx0 := hpre 0 (by kernel_rfl)
       have hx9 := hcl 10 9 (by kernel_rfl) hx10
       have hx5 := hcl 6 5 (by kernel_rfl) hx6
       have hx8 := hcl 9 8 (by kernel_rfl) hx9
       have hx7 := hcl 9 7 (by kernel_rfl) hx9
       have hx4 := hcl 5 4 (by kernel_rfl) hx5
       have hx1 := hcl 5 1 (by kernel_rfl) hx5
       have hx3 := hcl 4 3 (by kernel_rfl) hx4
       have hx2 := hcl 4 2 (by kernel_rfl) hx4
       have hx11 := hSi
       have hx12 := ngF hcl 12 11 hx11
       have hx13 := ngF hcl 13 12 hx12
       obtain rfl := cu158 hx0
       obtain rfl := cu159 hx1
       obtain rfl := cu160 hx2
       obtain rfl := cu161 hx3
       obtain rfl := cu162 hx4
       obtain rfl := cu163 hx5
       obtain rfl := cu164 hx6
       obtain rfl := cu165 hx7
       obtain rfl := cu166 hx8
       obtain rfl := cu167 hx9
       obtain rfl := cu168 hx10
       obtain rfl := cr0_0
       refine hG (any_step ?_); clear hG G; intro A J hJ
       have hle0 := Fz.le.trans hle0 hle1898
       have hs1959 := cf0 hx5
       have hs1960 := cf1 hx9
       have hc1965 := hf5 _ _ hle0 hMx.fz qd6_0 qd10_0
       refine fcl hFx hMx (.int .i64 (u4 qd6_0 qd10_0)) fid3 (#[.agg #[.int .i64 qd6_0.task, .int .i64 qd6_0.from_, .int .i64 qd6_0.asked], .agg #[.int .i64 qd10_0.task, .int .i64 qd10_0.from_, .int .i64 qd10_0.asked]] ++ caps4) (nog rfl _) rfl (by kernel_rfl) ?h1 ?h2 ?_
       case h1 => exact fv_run rfl (by kernel_rfl) (by kernel_rfl) hg6
       case h2 => exact hc1965
       intro a1961 wd1963 hF1962 hM1964; clear hFx hMx
       refine nl (qnI (hJ _ _ ?_)); clear hJ J
       exact ⟨g1863, g1876, .func (.func fid3) #[] caps4, .slice ao1 u0.length cap2, .int .i64 (w64 ((w64 ((w64 (bShr .u64 (wu64 (w64 (u1 + u3))) 1)) + u2)) - 1)), .int .i64 (w64 (bShr .u64 (wu64 (w64 (x20v + x21))) 1)), .int .i64 (w64 ((w64 ((w64 ((w64 (bShr .u64 (wu64 (w64 (u1 + u3))) 1)) + u2)) - 1)) - (w64 (bShr .u64 (wu64 (w64 (x20v + x21))) 1)))), .pointer (some ⟨g1863, (w64 ((w64 ((w64 ((w64 (bShr .u64 (wu64 (w64 (u1 + u3))) 1)) + u2)) - 1)) - (w64 (bShr .u64 (wu64 (w64 (x20v + x21))) 1)))).toNat * 3, none⟩), .agg #[.int .i64 qd6_0.task, .int .i64 qd6_0.from_, .int .i64 qd6_0.asked], .slice ao1 u0.length cap2, .int .i64 (w64 (bShr .u64 (wu64 (w64 (x20v + x21))) 1)), .pointer (some ⟨g1876, (w64 (bShr .u64 (wu64 (w64 (x20v + x21))) 1)).toNat * 3, none⟩), .agg #[.int .i64 qd10_0.task, .int .i64 qd10_0.from_, .int .i64 qd10_0.asked], .int .i64 (u4 qd6_0 qd10_0), ud170, ud171, .own tyJob 110 ao1 cap2 u0, hle1898, hF1962.reg, hM1964.perm lpr, kf, kf, kf, kf, kf, kf, kf, kf, kf, kf, kf, kf, (nt hx12), (nt hx13), rfl, (fun _ => hs1959), (fun _ => hs1960)⟩
      ·
       obtain rfl := oj hi
       have hx11 := hpre 11 (by kernel_rfl)
       have hx10 := hcl 11 10 (by kernel_rfl) hx11
       have hx6 := hcl 11 6 (by kernel_rfl) hx11
       have hx0 := hcl 11 0 (by kernel_rfl) hx11
       have hx9 := hcl 10 9 (by kernel_rfl) hx10
       have hx5 := hcl 6 5 (by kernel_rfl) hx6
       have hx8 := hcl 9 8 (by kernel_rfl) hx9
       have hx7 := hcl 9 7 (by kernel_rfl) hx9
       have hx4 := hcl 5 4 (by kernel_rfl) hx5
       have hx1 := hcl 5 1 (by kernel_rfl) hx5
       have hx3 := hcl 4 3 (by kernel_rfl) hx4
       have hx2 := hcl 4 2 (by kernel_rfl) hx4
       have hx12 := hSi
       have hx13 := ngF hcl 13 12 hx12
       obtain rfl := cu158 hx0
       obtain rfl := cu159 hx1
       obtain rfl := cu160 hx2
       obtain rfl := cu161 hx3
       obtain rfl := cu162 hx4
       obtain rfl := cu163 hx5
       obtain rfl := cu164 hx6
       obtain rfl := cu165 hx7
       obtain rfl := cu166 hx8
       obtain rfl := cu167 hx9
       obtain rfl := cu168 hx10
       obtain rfl := cu169 hx11
       obtain rfl := cr0_0
       refine hG (any_step ?_); clear hG G; intro A J hJ
       have hle0 := Fz.le.trans hle0 hle1898
       have hs1967 := cf0 hx5
       have hs1968 := cf1 hx9
       refine s1 hFx 170 (.bool (decide ((u4 qd6_0 qd10_0) < 0))) ?_; intro a1969 hF1970; clear hFx
       refine nl (qnI (hJ _ _ ?_)); clear hJ J
       exact ⟨g1863, g1876, .func (.func fid3) #[] caps4, .slice ao1 u0.length cap2, .int .i64 (w64 ((w64 ((w64 (bShr .u64 (wu64 (w64 (u1 + u3))) 1)) + u2)) - 1)), .int .i64 (w64 (bShr .u64 (wu64 (w64 (x20v + x21))) 1)), .int .i64 (w64 ((w64 ((w64 ((w64 (bShr .u64 (wu64 (w64 (u1 + u3))) 1)) + u2)) - 1)) - (w64 (bShr .u64 (wu64 (w64 (x20v + x21))) 1)))), .pointer (some ⟨g1863, (w64 ((w64 ((w64 ((w64 (bShr .u64 (wu64 (w64 (u1 + u3))) 1)) + u2)) - 1)) - (w64 (bShr .u64 (wu64 (w64 (x20v + x21))) 1)))).toNat * 3, none⟩), .agg #[.int .i64 qd6_0.task, .int .i64 qd6_0.from_, .int .i64 qd6_0.asked], .slice ao1 u0.length cap2, .int .i64 (w64 (bShr .u64 (wu64 (w64 (x20v + x21))) 1)), .pointer (some ⟨g1876, (w64 (bShr .u64 (wu64 (w64 (x20v + x21))) 1)).toNat * 3, none⟩), .agg #[.int .i64 qd10_0.task, .int .i64 qd10_0.from_, .int .i64 qd10_0.asked], .int .i64 (u4 qd6_0 qd10_0), .bool (decide ((u4 qd6_0 qd10_0) < 0)), ud171, .own tyJob 110 ao1 cap2 u0, hle1898, hF1970.reg, hMx.perm lpr, kf, kf, kf, kf, kf, kf, kf, kf, kf, kf, kf, kf, kf, (nt hx13), rfl, (fun _ => hs1967), (fun _ => hs1968)⟩
      ·
       obtain rfl := oj hi
       have hx12 := hpre 12 (by kernel_rfl)
       have hx11 := hcl 12 11 (by kernel_rfl) hx12
       have hx10 := hcl 11 10 (by kernel_rfl) hx11
       have hx6 := hcl 11 6 (by kernel_rfl) hx11
       have hx0 := hcl 11 0 (by kernel_rfl) hx11
       have hx9 := hcl 10 9 (by kernel_rfl) hx10
       have hx5 := hcl 6 5 (by kernel_rfl) hx6
       have hx8 := hcl 9 8 (by kernel_rfl) hx9
       have hx7 := hcl 9 7 (by kernel_rfl) hx9
       have hx4 := hcl 5 4 (by kernel_rfl) hx5
       have hx1 := hcl 5 1 (by kernel_rfl) hx5
       have hx3 := hcl 4 3 (by kernel_rfl) hx4
       have hx2 := hcl 4 2 (by kernel_rfl) hx4
       have hx13 := hSi
       obtain rfl := cu158 hx0
       obtain rfl := cu159 hx1
       obtain rfl := cu160 hx2
       obtain rfl := cu161 hx3
       obtain rfl := cu162 hx4
       obtain rfl := cu163 hx5
       obtain rfl := cu164 hx6
       obtain rfl := cu165 hx7
       obtain rfl := cu166 hx8
       obtain rfl := cu167 hx9
       obtain rfl := cu168 hx10
       obtain rfl := cu169 hx11
       obtain rfl := cu170 hx12
       obtain rfl := cr0_0
       refine hG (any_step ?_); clear hG G; intro A J hJ
       have hle0 := Fz.le.trans hle0 hle1898
       have hs1972 := cf0 hx5
       have hs1973 := cf1 hx9
       refine s1 hFx 171 (.bool (!(decide ((u4 qd6_0 qd10_0) < 0)))) ?_; intro a1974 hF1975; clear hFx
       refine nl (qnI (hJ _ _ ?_)); clear hJ J
       exact ⟨g1863, g1876, .func (.func fid3) #[] caps4, .slice ao1 u0.length cap2, .int .i64 (w64 ((w64 ((w64 (bShr .u64 (wu64 (w64 (u1 + u3))) 1)) + u2)) - 1)), .int .i64 (w64 (bShr .u64 (wu64 (w64 (x20v + x21))) 1)), .int .i64 (w64 ((w64 ((w64 ((w64 (bShr .u64 (wu64 (w64 (u1 + u3))) 1)) + u2)) - 1)) - (w64 (bShr .u64 (wu64 (w64 (x20v + x21))) 1)))), .pointer (some ⟨g1863, (w64 ((w64 ((w64 ((w64 (bShr .u64 (wu64 (w64 (u1 + u3))) 1)) + u2)) - 1)) - (w64 (bShr .u64 (wu64 (w64 (x20v + x21))) 1)))).toNat * 3, none⟩), .agg #[.int .i64 qd6_0.task, .int .i64 qd6_0.from_, .int .i64 qd6_0.asked], .slice ao1 u0.length cap2, .int .i64 (w64 (bShr .u64 (wu64 (w64 (x20v + x21))) 1)), .pointer (some ⟨g1876, (w64 (bShr .u64 (wu64 (w64 (x20v + x21))) 1)).toNat * 3, none⟩), .agg #[.int .i64 qd10_0.task, .int .i64 qd10_0.from_, .int .i64 qd10_0.asked], .int .i64 (u4 qd6_0 qd10_0), .bool (decide ((u4 qd6_0 qd10_0) < 0)), .bool (!(decide ((u4 qd6_0 qd10_0) < 0))), .own tyJob 110 ao1 cap2 u0, hle1898, hF1975.reg, hMx.perm lpr, kf, kf, kf, kf, kf, kf, kf, kf, kf, kf, kf, kf, kf, kf, rfl, (fun _ => hs1972), (fun _ => hs1973)⟩
     case hE =>
      intro S hS a1977 wd1978 hI; refine Go.Sy.hid ?_; intro G hG; obtain ⟨g1863, g1876, ud158, ud159, ud160, ud161, ud162, ud163, ud164, ud165, ud166, ud167, ud168, ud169, ud170, ud171, rh0, hle1898, hFx, hMx, cu158, cu159, cu160, cu161, cu162, cu163, cu164, cu165, cu166, cu167, cu168, cu169, cu170, cu171, cr0_0, cf0, hI⟩ := hI; have cf1 := hI; clear hI; refine hG ?_; clear hG G
      obtain rfl := cu158 (hS 0 (by decide))
      obtain rfl := cu159 (hS 1 (by decide))
      obtain rfl := cu160 (hS 2 (by decide))
      obtain rfl := cu161 (hS 3 (by decide))
      obtain rfl := cu162 (hS 4 (by decide))
      obtain rfl := cu163 (hS 5 (by decide))
      obtain rfl := cu164 (hS 6 (by decide))
      obtain rfl := cu165 (hS 7 (by decide))
      obtain rfl := cu166 (hS 8 (by decide))
      obtain rfl := cu167 (hS 9 (by decide))
      obtain rfl := cu168 (hS 10 (by decide))
      obtain rfl := cu169 (hS 11 (by decide))
      obtain rfl := cu170 (hS 12 (by decide))
      obtain rfl := cu171 (hS 13 (by decide))
      obtain rfl := cr0_0
      have hle0 := Fz.le.trans hle0 hle1898
      have hs1979 := cf0 (hS 5 (by decide))
      have hs1980 := cf1 (hS 9 (by decide))
      refine thn ?_
      refine cd hFx (t := !(decide ((u4 qd6_0 qd10_0) < 0))) (by kernel_rfl) (fun hb1981 => ?_) (fun hb1981 => ?_)
      ·
       have hp1982 := hp1897.1 hb1981; clear hp1897
       have hF1983 : Fr 220 [] [⟨0, [], .slice ao1 u0.length cap2⟩, ⟨1, [], .int .i64 u1⟩, ⟨2, [], .int .i64 u2⟩, ⟨3, [], .int .i64 u3⟩, ⟨4, [], .func (.func fid3) #[] caps4⟩, ⟨18, [], .int .i64 (w64 (bShr .u64 (wu64 (w64 (u1 + u3))) 1))⟩, ⟨19, [], .int .i64 (w64 ((w64 (bShr .u64 (wu64 (w64 (u1 + u3))) 1)) + u2))⟩, ⟨21, [], .int .i64 x21⟩, ⟨22, [], .int .i64 (w64 ((w64 ((w64 (bShr .u64 (wu64 (w64 (u1 + u3))) 1)) + u2)) - 1))⟩, ⟨23, [], .int .i64 (w64 (bShr .u64 (wu64 (w64 (x20v + x21))) 1))⟩] a1977 := hFx.reg; clear hFx
       refine rgH ?_; intro hQ1984Q hQ1984
       refine s1 hF1983 172 (.int .i64 (w64 (bShr .u64 (wu64 (w64 (x20v + x21))) 1))) ?_; intro a1985 hF1986; clear hF1983
       refine s1 hF1986 173 (.int .i64 (w64 ((w64 (bShr .u64 (wu64 (w64 (x20v + x21))) 1)) + 1))) ?_; intro a1987 hF1988; clear hF1986
       refine s1 hF1988 20 (.int .i64 (w64 ((w64 (bShr .u64 (wu64 (w64 (x20v + x21))) 1)) + 1))) ?_; intro a1989 hF1990; clear hF1988
       refine nlH (hQ1984 _ _ ?_); clear hQ1984 hQ1984Q
       refine ibn ?_
       refine rd ?_
       exact ⟨⟨w64 ((w64 (bShr .u64 (wu64 (w64 (x20v + x21))) 1)) + 1), x21⟩, hp1982.1, hp1982.2, (hF1990.reg).anyβ _ (by kernel_rfl), hMx.keep (List.Sublist.cons_cons _ (List.Sublist.refl _))⟩
      ·
       have hp1991 := hp1897.2 hb1981; clear hp1897
       have hF1992 : Fr 220 [] [⟨0, [], .slice ao1 u0.length cap2⟩, ⟨1, [], .int .i64 u1⟩, ⟨2, [], .int .i64 u2⟩, ⟨3, [], .int .i64 u3⟩, ⟨4, [], .func (.func fid3) #[] caps4⟩, ⟨18, [], .int .i64 (w64 (bShr .u64 (wu64 (w64 (u1 + u3))) 1))⟩, ⟨19, [], .int .i64 (w64 ((w64 (bShr .u64 (wu64 (w64 (u1 + u3))) 1)) + u2))⟩, ⟨20, [], .int .i64 x20v⟩, ⟨22, [], .int .i64 (w64 ((w64 ((w64 (bShr .u64 (wu64 (w64 (u1 + u3))) 1)) + u2)) - 1))⟩, ⟨23, [], .int .i64 (w64 (bShr .u64 (wu64 (w64 (x20v + x21))) 1))⟩] a1977 := hFx.reg; clear hFx
       refine rgH ?_; intro hQ1993Q hQ1993
       refine s1 hF1992 174 (.int .i64 (w64 (bShr .u64 (wu64 (w64 (x20v + x21))) 1))) ?_; intro a1994 hF1995; clear hF1992
       refine s1 hF1995 21 (.int .i64 (w64 (bShr .u64 (wu64 (w64 (x20v + x21))) 1))) ?_; intro a1996 hF1997; clear hF1995
       refine nlH (hQ1993 _ _ ?_); clear hQ1993 hQ1993Q
       refine ibn ?_
       refine rd ?_
       exact ⟨⟨x20v, w64 (bShr .u64 (wu64 (w64 (x20v + x21))) 1)⟩, hp1991.1, hp1991.2, (hF1997.reg).anyβ _ (by kernel_rfl), hMx.keep (List.Sublist.cons_cons _ (List.Sublist.refl _))⟩
    ·
     have hp1998 := hp1827.2 hb1835; clear hp1827
     refine wp_exit ?_
     refine thx ?_
     refine thx ?_
     refine ibx ?_
     refine rd ?_
     exact hJ1464 x20v hp1998 _ _ ((hF1834.reg).anyβ _ (by kernel_rfl)) (hM1826.keep (List.Sublist.cons_cons _ (List.Sublist.refl _)))

end Go.Proofs.Ytginlmgkimfjmaa
