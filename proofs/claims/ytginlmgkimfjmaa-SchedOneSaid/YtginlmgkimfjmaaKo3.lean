/- Texts put together (pure ones, or walks made by program). -/
import Derived.Test.YtginlmgkimfjmaaKo0
import Derived.Test.YtginlmgkimfjmaaKo1
import Derived.Test.YtginlmgkimfjmaaKo2
set_option linter.unusedVariables false
set_option linter.unusedSimpArgs false
set_option maxRecDepth 100000
set_option maxHeartbeats 0
namespace Go.Proofs.Ytginlmgkimfjmaa
open Go.Sy Go.RowKit
abbrev e110Dn (X : Job) : List Value := [i6 X.task, i6 X.from_, i6 X.asked]
theorem ssym_walk (u0 : List Job) (u1 : Int) (u2 : Int) (u3 : Int) (u4 : Job → Job → Int) (ao1 : Option Addr) (cap2 : Nat) (fid3 : Nat) (caps4 : Array Value) (B : Nat) (w0 : World) (Z0 : Fz) (Rr : List Res) (Z : Fz) (w : World) (hf5 : ∀ (Z1 : Fz) (w1 : World), Z.le Z1 → Z1.on w1 → ∀ (x0 : Job) (x1 : Job), Calls Try.prog fid3 (#[.agg #[i6 x0.task, i6 x0.from_, i6 x0.asked], .agg #[i6 x1.task, i6 x1.from_, i6 x1.asked]] ++ caps4) w1 fun e w2 => e = .returned (i6 (u4 x0 x1)) ∧ Below w1.heap.size w1 w2) (hg6 : ∀ x w, Sem.run Try.prog (callFunc fid3 x) w = .ok (.enter fid3 x) w) (hM0 : Mem B [] w0 Z0 ((.own tyJob 110 ao1 cap2 u0) :: Rr) Z w) (hZ : Z.on w) (ih : ∀ (u0' : List Job) (u1' : Int) (u2' : Int) (u3' : Int) (u4' : Job → Job → Int), (symMu u0' u1' u2' u3' u4' < symMu u0 u1 u2 u3 u4 ∧ symPre u0' u1' u2' u3' u4') → ∀ (ao1 : Option Addr) (cap2 : Nat) (fid3 : Nat) (caps4 : Array Value) (B : Nat) (w0 : World) (Z0 : Fz) (Rr : List Res) (Z : Fz) (w : World) (hf5 : ∀ (Z1 : Fz) (w1 : World), Z.le Z1 → Z1.on w1 → ∀ (x0 : Job) (x1 : Job), Calls Try.prog fid3 (#[.agg #[i6 x0.task, i6 x0.from_, i6 x0.asked], .agg #[i6 x1.task, i6 x1.from_, i6 x1.asked]] ++ caps4) w1 fun e w2 => e = .returned (i6 (u4' x0 x1)) ∧ Below w1.heap.size w1 w2) (hg6 : ∀ x w, Sem.run Try.prog (callFunc fid3 x) w = .ok (.enter fid3 x) w) (hM0 : Mem B [] w0 Z0 ((.own tyJob 110 ao1 cap2 u0') :: Rr) Z w) (hZ : Z.on w), Calls Try.prog 112 #[.slice ao1 u0'.length cap2, i6 u1', i6 u2', i6 u3', .func (.func fid3) #[] caps4] w fun e w' => ∃ (Z' : Fz), e = .returned (.tuple #[]) ∧ Fz.le Z Z' ∧ ((segC2 u0' u1' u2' u3' u4').length = u0'.length) ∧ Mem B [] w0 Z0 ((.own tyJob 110 ao1 cap2 (segC2 u0' u1' u2' u3' u4')) :: Rr) Z' w') {K : (List Job) → Prop} (hp : ssym_vc u0 u1 u2 u3 u4 K) : Calls Try.prog 112 #[.slice ao1 u0.length cap2, i6 u1, i6 u2, i6 u3, .func (.func fid3) #[] caps4] w fun e w' => ∃ (r : (List Job)) (Z' : Fz), e = .returned (.tuple #[]) ∧ K r ∧ Fz.le Z Z' ∧ (r.length = u0.length) ∧ Mem B [] w0 Z0 ((.own tyJob 110 ao1 cap2 r) :: Rr) Z' w' := by
 refine enter0 Try.func112 rfl rfl (by kernel_rfl) ?_; intro a0 fa; have c := Fz.le.refl Z
 have dD := hp (hM0.ownSmall 0 rfl); clear hp
 refine wp_seq ?_
 refine sqB fa hM0 [] [] [(28, .bool ((w64 (u2 - u1)) == 1))] ?_; intro sh dh; clear fa
 refine cd dh (t := (w64 (u2 - u1)) == 1) (by kernel_rfl) (fun eh => ?_) (fun eh => ?_)
 ·
  have jt := dD.1 eh; clear dD
  refine sqB dh hM0 [] [] [(10, i6 u2)] ?_; intro si fb; clear dh
  refine sqB fb hM0 [] [] [(11, i6 u3)] ?_; intro dE fc; clear fb
  have fd : Fr 220 [] [⟨0, [], .slice ao1 u0.length cap2⟩, ⟨1, [], i6 u1⟩, ⟨4, [], .func (.func fid3) #[] caps4⟩, ⟨10, [], i6 u2⟩, ⟨11, [], i6 u3⟩] dE := fc.reg; clear fc
  have ei : Fr 220 [] [⟨0, [], .slice ao1 u0.length cap2⟩, ⟨1, [], i6 u1⟩, ⟨4, [], .func (.func fid3) #[] caps4⟩, ⟨10, [], i6 u2⟩, ⟨11, [], i6 u3⟩] dE := fd.reg; clear fd
  obtain ⟨ju, jv, jw⟩ := jt
  refine wp_seq_k fun KJ34 hKJ35 => ?_
  have jx : ∀ (bY : Int), ju bY → ∀ a1 w1, Fr 220 [] [⟨0, [], .slice ao1 u0.length cap2⟩, ⟨1, [], i6 u1⟩, ⟨10, [], i6 bY⟩] a1 → Mem B [] w0 Z0 ((.own tyJob 110 ao1 cap2 u0) :: Rr) Z w1 → KJ34 a1 w1 := by
   rintro bY jy sj sk fe ej; clear ei hM0
   refine hKJ35 _ _ ?_; clear hKJ35
   have jz := jw bY jy
   refine wp_seq ?_
   refine sqB fe ej [] [] [(13, i6 u1)] ?_; intro fg fh; clear fe
   refine wp_block ?_
   have fi : Fr 220 [] [⟨0, [], .slice ao1 u0.length cap2⟩, ⟨10, [], i6 bY⟩, ⟨13, [], i6 u1⟩] fg := fh.reg; clear fh
   have fj : Fr 220 [] [⟨0, [], .slice ao1 u0.length cap2⟩, ⟨10, [], i6 bY⟩, ⟨13, [], i6 u1⟩] fg := fi.reg; clear fi
   obtain ⟨jA, jB, jC, jD⟩ := jz
   refine lp (ι := Int × (List Job)) (fun s => [⟨0, [], .slice ao1 s.2.length cap2⟩, ⟨10, [], i6 bY⟩, ⟨13, [], i6 s.1⟩]) (fun s => ((.own tyJob 110 ao1 cap2 s.2) :: Rr)) (fun s => Z) (fun s => jA s.1 s.2) (fun s => jB s.1 s.2) ⟨u1, u0⟩ jC (by exact fj.reg) (by exact ej) ?_
   rintro ⟨g, f⟩ jE jF jG fk fl
   have fm : Fr 220 [] [⟨0, [], .slice ao1 f.length cap2⟩, ⟨10, [], i6 bY⟩, ⟨13, [], i6 g⟩] jF := fk; clear fk fj
   have ek : Mem B [] w0 Z0 ((.own tyJob 110 ao1 cap2 f) :: Rr) Z jG := fl; clear fl ej
   have dF := jD g f jE
   refine wp_seq ?_
   refine sqB fm ek [] [] [(58, .bool (decide (g < (w64 (bY - 1)))))] ?_; intro bH di; clear fm
   refine cd di (t := decide (g < (w64 (bY - 1)))) (by kernel_rfl) (fun el => ?_) (fun el => ?_)
   ·
    have jH := dF.1 el; clear dF
    refine wp_skip ?_
    refine thn ?_
    refine wp_seq ?_
    refine wp_block ?_
    have jI : Fr 220 [] [⟨0, [], .slice ao1 f.length cap2⟩, ⟨10, [], i6 bY⟩, ⟨13, [], i6 g⟩] bH := di.reg; clear di
    obtain ⟨em, fo⟩ := jH
    obtain ⟨q, en, jJ⟩ := gxq fo (by omega); clear fo
    obtain ⟨eo, fp⟩ := jJ
    obtain ⟨N, ep, jK⟩ := gxq fp (by omega); clear fp
    obtain ⟨eq, jL⟩ := jK
    obtain ⟨er, fq⟩ := jL
    refine any_invE mixed [[], [], [], [], [3], [], [], [6], [5, 7], [8], [], [], [10, 11], [12], [0, 1, 5, 6, 7, 8, 9, 13], [0, 1, 5, 6, 7, 8, 9, 13, 14], [0, 1, 2, 3, 4, 5, 6, 7, 8, 9, 10, 11, 12, 13, 14, 15], [0, 1, 2, 3, 4, 5, 6, 7, 8, 9, 10, 11, 12, 13, 14, 15, 16]] 18 (fun S a w1 => ∃ (ax : Nat) (ay : Nat) (aG : Nat) (aS : Nat) (bI : Value) (bJ : Value) (a7 : Value) (bu : Value) (a8 : Value) (b8 : Value) (cn : Value) (b9 : Value) (bZ : Value) (bK : Value) (ca : Value) (cb : Value) (b0 : Value) (bL : Value) (bv : Value) (aY : Value) (ad : Res), Fz.le Z Z ∧ Fr 220 [] [⟨0, [], .slice ao1 f.length cap2⟩, ⟨10, [], i6 bY⟩, ⟨13, [], i6 g⟩, ⟨61, [], bI⟩, ⟨62, [], bJ⟩, ⟨63, [], a7⟩, ⟨64, [], bu⟩, ⟨65, [], a8⟩, ⟨66, [], b8⟩, ⟨67, [], cn⟩, ⟨68, [], b9⟩, ⟨69, [], bZ⟩, ⟨70, [], bK⟩, ⟨71, [], ca⟩, ⟨72, [], cb⟩, ⟨73, [], b0⟩, ⟨74, [], bL⟩, ⟨75, [], bv⟩, ⟨76, [], aY⟩] a ∧ Mem B [] w0 Z0 (ad :: Rr) Z w1 ∧ (S 0 = true → bI = .slice ao1 f.length cap2) ∧ (S 1 = true → bJ = i6 g) ∧ (S 2 = true → a7 = .slice ao1 f.length cap2) ∧ (S 3 = true → bu = i6 g) ∧ (S 4 = true → a8 = i6 (w64 (g + 1))) ∧ (S 5 = true → b8 = .slice ao1 f.length cap2) ∧ (S 6 = true → cn = i6 g) ∧ (S 7 = true → b9 = i6 (w64 (g + 1))) ∧ (S 8 = true → bZ = .pointer (some ⟨ax, (w64 (g + 1)).toNat * 3, none⟩)) ∧ (S 9 = true → bK = .agg (e110Dn q).toArray) ∧ (S 10 = true → ca = .slice ao1 f.length cap2) ∧ (S 11 = true → cb = i6 g) ∧ (S 12 = true → b0 = .pointer (some ⟨ay, g.toNat * 3, none⟩)) ∧ (S 13 = true → bL = .agg (e110Dn N).toArray) ∧ (S 14 = true → bv = .pointer (some ⟨aG, g.toNat * 3, none⟩)) ∧ (S 16 = true → aY = .pointer (some ⟨aS, (w64 (g + 1)).toNat * 3, none⟩)) ∧ (S 15 = false → ad = .own tyJob 110 ao1 cap2 f) ∧ (S 15 = true → S 17 = false → ad = .own tyJob 110 ao1 cap2 (f.set g.toNat q)) ∧ (S 17 = true → ad = .own tyJob 110 ao1 cap2 ((f.set g.toNat q).set (w64 (g + 1)).toNat N)) ∧ (S 8 = true → ao1 = some ⟨ax, 0, none⟩) ∧ (S 12 = true → ao1 = some ⟨ay, 0, none⟩) ∧ (S 14 = true → ao1 = some ⟨aG, 0, none⟩) ∧ (S 16 = true → ao1 = some ⟨aS, 0, none⟩)) ?h0 ?hs ?hE
    case h0 =>
     have jM := jI.any 61
     have jN := jM.any 62
     have jO := jN.any 63
     have jP := jO.any 64
     have jQ := jP.any 65
     have jR := jQ.any 66
     have jS := jR.any 67
     have jT := jS.any 68
     have jU := jT.any 69
     have jV := jU.any 70
     have jW := jV.any 71
     have jX := jW.any 72
     have jY := jX.any 73
     have jZ := jY.any 74
     have j0 := jZ.any 75
     have j1 := j0.any 76
     have j2 := (ek.perm lpr).drew
     exact ⟨0, 0, 0, 0, bH.tmps.getD 61 undef, bH.tmps.getD 62 undef, bH.tmps.getD 63 undef, bH.tmps.getD 64 undef, bH.tmps.getD 65 undef, bH.tmps.getD 66 undef, bH.tmps.getD 67 undef, bH.tmps.getD 68 undef, bH.tmps.getD 69 undef, bH.tmps.getD 70 undef, bH.tmps.getD 71 undef, bH.tmps.getD 72 undef, bH.tmps.getD 73 undef, bH.tmps.getD 74 undef, bH.tmps.getD 75 undef, bH.tmps.getD 76 undef, .own tyJob 110 ao1 cap2 f, Fz.le.refl _, j1.reg, j2, ff, ff, ff, ff, ff, ff, ff, ff, ff, ff, ff, ff, ff, ff, ff, ff, kf, ff, ff, ff, ff, ff, ff⟩
    case hs =>
     intro S hcl i o hil hi hSi hpre a w1 hI; refine Go.Sy.hid ?_; intro G hG; obtain ⟨ax, ay, aG, aS, bI, bJ, a7, bu, a8, b8, cn, b9, bZ, bK, ca, cb, b0, bL, bv, aY, ad, ae, hFx, hMx, a9, ba, bb, bc, bw, bd, be, bx, b1, cc, bf, bg, bM, b2, c9, es, M, cr, dj, R, Q, bN, hI⟩ := hI; have db := hI; clear hI
     have hcase : i = 0 ∨ i = 1 ∨ i = 2 ∨ i = 3 ∨ i = 4 ∨ i = 5 ∨ i = 6 ∨ i = 7 ∨ i = 8 ∨ i = 9 ∨ i = 10 ∨ i = 11 ∨ i = 12 ∨ i = 13 ∨ i = 14 ∨ i = 15 ∨ i = 16 ∨ i = 17 := by clear hi; omega
     rcases hcase with rfl | rfl | rfl | rfl | rfl | rfl | rfl | rfl | rfl | rfl | rfl | rfl | rfl | rfl | rfl | rfl | rfl | rfl
     ·
      obtain rfl := oj hi
      have ac := hSi
      have O := ngF hcl 14 0 ac
      have P := ngF hcl 15 0 ac
      have I := ngF hcl 16 0 ac
      have W := ngF hcl 17 0 ac
      obtain rfl := M P
      refine hG (any_step ?_); clear hG G; intro A J hJ
      have c := Fz.le.trans c ae
      refine s1 hFx 61 (.slice ao1 f.length cap2) ?_; intro sl j3; clear hFx
      refine nl (qnI (hJ _ _ ?_)); clear hJ J
      exact ⟨ax, ay, aG, aS, .slice ao1 f.length cap2, bJ, a7, bu, a8, b8, cn, b9, bZ, bK, ca, cb, b0, bL, bv, aY, .own tyJob 110 ao1 cap2 f, ae, j3.reg, hMx.perm lpr, kf, ba, bb, bc, bw, bd, be, bx, b1, cc, bf, bg, bM, b2, (nt O), (nt I), kf, (fun h _ => nt P h), (nt W), R, Q, (nt O), (nt I)⟩
     ·
      obtain rfl := oj hi
      have X := hSi
      have O := ngF hcl 14 1 X
      have P := ngF hcl 15 1 X
      have I := ngF hcl 16 1 X
      have W := ngF hcl 17 1 X
      obtain rfl := M P
      refine hG (any_step ?_); clear hG G; intro A J hJ
      have c := Fz.le.trans c ae
      refine s1 hFx 62 (i6 g) ?_; intro sm j4; clear hFx
      refine nl (qnI (hJ _ _ ?_)); clear hJ J
      exact ⟨ax, ay, aG, aS, bI, i6 g, a7, bu, a8, b8, cn, b9, bZ, bK, ca, cb, b0, bL, bv, aY, .own tyJob 110 ao1 cap2 f, ae, j4.reg, hMx.perm lpr, a9, kf, bb, bc, bw, bd, be, bx, b1, cc, bf, bg, bM, b2, (nt O), (nt I), kf, (fun h _ => nt P h), (nt W), R, Q, (nt O), (nt I)⟩
     ·
      obtain rfl := oj hi
      have ab := hSi
      have I := ngF hcl 16 2 ab
      have W := ngF hcl 17 2 ab
      refine hG (any_step ?_); clear hG G; intro A J hJ
      have c := Fz.le.trans c ae
      refine s1 hFx 63 (.slice ao1 f.length cap2) ?_; intro sn j5; clear hFx
      refine nl (qnI (hJ _ _ ?_)); clear hJ J
      exact ⟨ax, ay, aG, aS, bI, bJ, .slice ao1 f.length cap2, bu, a8, b8, cn, b9, bZ, bK, ca, cb, b0, bL, bv, aY, ad, ae, j5.reg, hMx.perm lpr, a9, ba, kf, bc, bw, bd, be, bx, b1, cc, bf, bg, bM, b2, c9, (nt I), M, cr, (nt W), R, Q, bN, (nt I)⟩
     ·
      obtain rfl := oj hi
      have L := hSi
      have F := ngF hcl 4 3 L
      have I := ngF hcl 16 3 L
      have W := ngF hcl 17 3 L
      refine hG (any_step ?_); clear hG G; intro A J hJ
      have c := Fz.le.trans c ae
      refine s1 hFx 64 (i6 g) ?_; intro so j6; clear hFx
      refine nl (qnI (hJ _ _ ?_)); clear hJ J
      exact ⟨ax, ay, aG, aS, bI, bJ, a7, i6 g, a8, b8, cn, b9, bZ, bK, ca, cb, b0, bL, bv, aY, ad, ae, j6.reg, hMx.perm lpr, a9, ba, bb, kf, (nt F), bd, be, bx, b1, cc, bf, bg, bM, b2, c9, (nt I), M, cr, (nt W), R, Q, bN, (nt I)⟩
     ·
      obtain rfl := oj hi
      have L := hpre 3 (by kernel_rfl)
      have F := hSi
      have I := ngF hcl 16 4 F
      have W := ngF hcl 17 4 F
      obtain rfl := bc L
      refine hG (any_step ?_); clear hG G; intro A J hJ
      have c := Fz.le.trans c ae
      refine s1 hFx 65 (i6 (w64 (g + 1))) ?_; intro sp j7; clear hFx
      refine nl (qnI (hJ _ _ ?_)); clear hJ J
      exact ⟨ax, ay, aG, aS, bI, bJ, a7, i6 g, i6 (w64 (g + 1)), b8, cn, b9, bZ, bK, ca, cb, b0, bL, bv, aY, ad, ae, j7.reg, hMx.perm lpr, a9, ba, bb, kf, kf, bd, be, bx, b1, cc, bf, bg, bM, b2, c9, (nt I), M, cr, (nt W), R, Q, bN, (nt I)⟩
     ·
      obtain rfl := oj hi
      have n := hSi
      have p := ngF hcl 8 5 n
      have d := ngF hcl 9 8 p
      have O := ngF hcl 14 5 n
      have P := ngF hcl 15 5 n
      have I := ngF hcl 16 5 n
      have W := ngF hcl 17 5 n
      obtain rfl := M P
      refine hG (any_step ?_); clear hG G; intro A J hJ
      have c := Fz.le.trans c ae
      refine s1 hFx 66 (.slice ao1 f.length cap2) ?_; intro sq j8; clear hFx
      refine nl (qnI (hJ _ _ ?_)); clear hJ J
      exact ⟨ax, ay, aG, aS, bI, bJ, a7, bu, a8, .slice ao1 f.length cap2, cn, b9, bZ, bK, ca, cb, b0, bL, bv, aY, .own tyJob 110 ao1 cap2 f, ae, j8.reg, hMx.perm lpr, a9, ba, bb, bc, bw, kf, be, bx, (nt p), (nt d), bf, bg, bM, b2, (nt O), (nt I), kf, (fun h _ => nt P h), (nt W), (nt p), Q, (nt O), (nt I)⟩
     ·
      obtain rfl := oj hi
      have E := hSi
      have z := ngF hcl 7 6 E
      have p := ngF hcl 8 7 z
      have d := ngF hcl 9 8 p
      have O := ngF hcl 14 6 E
      have P := ngF hcl 15 6 E
      have I := ngF hcl 16 6 E
      have W := ngF hcl 17 6 E
      obtain rfl := M P
      refine hG (any_step ?_); clear hG G; intro A J hJ
      have c := Fz.le.trans c ae
      refine s1 hFx 67 (i6 g) ?_; intro sr j9; clear hFx
      refine nl (qnI (hJ _ _ ?_)); clear hJ J
      exact ⟨ax, ay, aG, aS, bI, bJ, a7, bu, a8, b8, i6 g, b9, bZ, bK, ca, cb, b0, bL, bv, aY, .own tyJob 110 ao1 cap2 f, ae, j9.reg, hMx.perm lpr, a9, ba, bb, bc, bw, bd, kf, (nt z), (nt p), (nt d), bf, bg, bM, b2, (nt O), (nt I), kf, (fun h _ => nt P h), (nt W), (nt p), Q, (nt O), (nt I)⟩
     ·
      obtain rfl := oj hi
      have E := hpre 6 (by kernel_rfl)
      have z := hSi
      have p := ngF hcl 8 7 z
      have d := ngF hcl 9 8 p
      have O := ngF hcl 14 7 z
      have P := ngF hcl 15 7 z
      have I := ngF hcl 16 7 z
      have W := ngF hcl 17 7 z
      obtain rfl := be E
      obtain rfl := M P
      refine hG (any_step ?_); clear hG G; intro A J hJ
      have c := Fz.le.trans c ae
      refine s1 hFx 68 (i6 (w64 (g + 1))) ?_; intro ss ka; clear hFx
      refine nl (qnI (hJ _ _ ?_)); clear hJ J
      exact ⟨ax, ay, aG, aS, bI, bJ, a7, bu, a8, b8, i6 g, i6 (w64 (g + 1)), bZ, bK, ca, cb, b0, bL, bv, aY, .own tyJob 110 ao1 cap2 f, ae, ka.reg, hMx.perm lpr, a9, ba, bb, bc, bw, bd, kf, kf, (nt p), (nt d), bf, bg, bM, b2, (nt O), (nt I), kf, (fun h _ => nt P h), (nt W), (nt p), Q, (nt O), (nt I)⟩
     ·
      obtain rfl := oj hi
      have z := hpre 7 (by kernel_rfl)
      have n := hpre 5 (by kernel_rfl)
      have E := hcl 7 6 (by kernel_rfl) z
      have p := hSi
      have d := ngF hcl 9 8 p
      have O := ngF hcl 14 8 p
      have P := ngF hcl 15 8 p
      have I := ngF hcl 16 8 p
      have W := ngF hcl 17 8 p
      obtain rfl := bd n
      obtain rfl := be E
      obtain rfl := bx z
      obtain rfl := M P
      refine hG (any_step ?_); clear hG G; intro A J hJ
      have c := Fz.le.trans c ae
      refine ixo hFx hMx 0 (T := tyJob) (xs := f) (w64 (g + 1)) (by simpa only [List.length_set] using em) (k := .i64) (e := 110) (bytes := 24) (nog rfl _) rfl (by kernel_rfl) rfl (by kernel_rfl) (by kernel_rfl) rfl (by kernel_rfl) ?_; intro fr st kb kc; clear hFx
      refine nl (qnI (hJ _ _ ?_)); clear hJ J
      exact ⟨fr, ay, aG, aS, bI, bJ, a7, bu, a8, .slice ao1 f.length cap2, i6 g, i6 (w64 (g + 1)), .pointer (some ⟨fr, (w64 (g + 1)).toNat * 3, none⟩), bK, ca, cb, b0, bL, bv, aY, .own tyJob 110 ao1 cap2 f, ae, kc.reg, hMx.perm lpr, a9, ba, bb, bc, bw, kf, kf, kf, kf, (nt d), bf, bg, bM, b2, (nt O), (nt I), kf, (fun h _ => nt P h), (nt W), (fun _ => kb), Q, (nt O), (nt I)⟩
     ·
      obtain rfl := oj hi
      have p := hpre 8 (by kernel_rfl)
      have z := hcl 8 7 (by kernel_rfl) p
      have n := hcl 8 5 (by kernel_rfl) p
      have E := hcl 7 6 (by kernel_rfl) z
      have d := hSi
      have O := ngF hcl 14 9 d
      have P := ngF hcl 15 9 d
      have I := ngF hcl 16 9 d
      have W := ngF hcl 17 9 d
      obtain rfl := bd n
      obtain rfl := be E
      obtain rfl := bx z
      obtain rfl := b1 p
      obtain rfl := M P
      refine hG (any_step ?_); clear hG G; intro A J hJ
      have c := Fz.le.trans c ae
      have fs := R p
      obtain ⟨kd, ke, kg⟩ := own_elx hMx 0 (T := tyJob) (xs := f) rfl fs (w64 (g + 1)).toNat en
      obtain rfl : kd = ((e110Dn q) : List Value) := ke
      refine lc2 hFx 70 3 (e110Dn q) kg rfl ?_; intro su kh; clear hFx
      refine nl (qnI (hJ _ _ ?_)); clear hJ J
      exact ⟨ax, ay, aG, aS, bI, bJ, a7, bu, a8, .slice ao1 f.length cap2, i6 g, i6 (w64 (g + 1)), .pointer (some ⟨ax, (w64 (g + 1)).toNat * 3, none⟩), .agg (e110Dn q).toArray, ca, cb, b0, bL, bv, aY, .own tyJob 110 ao1 cap2 f, ae, kh.reg, hMx.perm lpr, a9, ba, bb, bc, bw, kf, kf, kf, kf, kf, bf, bg, bM, b2, (nt O), (nt I), kf, (fun h _ => nt P h), (nt W), (fun _ => fs), Q, (nt O), (nt I)⟩
     ·
      obtain rfl := oj hi
      have y := hSi
      have l := ngF hcl 12 10 y
      have H := ngF hcl 13 12 l
      have O := ngF hcl 14 13 H
      have P := ngF hcl 15 13 H
      have I := ngF hcl 16 10 y
      have W := ngF hcl 17 10 y
      obtain rfl := M P
      refine hG (any_step ?_); clear hG G; intro A J hJ
      have c := Fz.le.trans c ae
      refine s1 hFx 71 (.slice ao1 f.length cap2) ?_; intro sv ki; clear hFx
      refine nl (qnI (hJ _ _ ?_)); clear hJ J
      exact ⟨ax, ay, aG, aS, bI, bJ, a7, bu, a8, b8, cn, b9, bZ, bK, .slice ao1 f.length cap2, cb, b0, bL, bv, aY, .own tyJob 110 ao1 cap2 f, ae, ki.reg, hMx.perm lpr, a9, ba, bb, bc, bw, bd, be, bx, b1, cc, kf, bg, (nt l), (nt H), (nt O), (nt I), kf, (fun h _ => nt P h), (nt W), R, (nt l), (nt O), (nt I)⟩
     ·
      obtain rfl := oj hi
      have m := hSi
      have l := ngF hcl 12 11 m
      have H := ngF hcl 13 12 l
      have O := ngF hcl 14 13 H
      have P := ngF hcl 15 13 H
      have I := ngF hcl 16 11 m
      have W := ngF hcl 17 11 m
      obtain rfl := M P
      refine hG (any_step ?_); clear hG G; intro A J hJ
      have c := Fz.le.trans c ae
      refine s1 hFx 72 (i6 g) ?_; intro sw kj; clear hFx
      refine nl (qnI (hJ _ _ ?_)); clear hJ J
      exact ⟨ax, ay, aG, aS, bI, bJ, a7, bu, a8, b8, cn, b9, bZ, bK, ca, i6 g, b0, bL, bv, aY, .own tyJob 110 ao1 cap2 f, ae, kj.reg, hMx.perm lpr, a9, ba, bb, bc, bw, bd, be, bx, b1, cc, bf, kf, (nt l), (nt H), (nt O), (nt I), kf, (fun h _ => nt P h), (nt W), R, (nt l), (nt O), (nt I)⟩
     ·
      obtain rfl := oj hi
      have m := hpre 11 (by kernel_rfl)
      have y := hpre 10 (by kernel_rfl)
      have l := hSi
      have H := ngF hcl 13 12 l
      have O := ngF hcl 14 13 H
      have P := ngF hcl 15 13 H
      have I := ngF hcl 16 12 l
      have W := ngF hcl 17 12 l
      obtain rfl := bf y
      obtain rfl := bg m
      obtain rfl := M P
      refine hG (any_step ?_); clear hG G; intro A J hJ
      have c := Fz.le.trans c ae
      refine ixo hFx hMx 0 (T := tyJob) (xs := f) g (by simpa only [List.length_set] using eo) (k := .i64) (e := 110) (bytes := 24) (nog rfl _) rfl (by kernel_rfl) rfl (by kernel_rfl) (by kernel_rfl) rfl (by kernel_rfl) ?_; intro ft sx kk kl; clear hFx
      refine nl (qnI (hJ _ _ ?_)); clear hJ J
      exact ⟨ax, ft, aG, aS, bI, bJ, a7, bu, a8, b8, cn, b9, bZ, bK, .slice ao1 f.length cap2, i6 g, .pointer (some ⟨ft, g.toNat * 3, none⟩), bL, bv, aY, .own tyJob 110 ao1 cap2 f, ae, kl.reg, hMx.perm lpr, a9, ba, bb, bc, bw, bd, be, bx, b1, cc, kf, kf, kf, (nt H), (nt O), (nt I), kf, (fun h _ => nt P h), (nt W), R, (fun _ => kk), (nt O), (nt I)⟩
     ·
      obtain rfl := oj hi
      have l := hpre 12 (by kernel_rfl)
      have m := hcl 12 11 (by kernel_rfl) l
      have y := hcl 12 10 (by kernel_rfl) l
      have H := hSi
      have O := ngF hcl 14 13 H
      have P := ngF hcl 15 13 H
      have I := ngF hcl 16 13 H
      have W := ngF hcl 17 13 H
      obtain rfl := bf y
      obtain rfl := bg m
      obtain rfl := bM l
      obtain rfl := M P
      refine hG (any_step ?_); clear hG G; intro A J hJ
      have c := Fz.le.trans c ae
      have fu := Q l
      obtain ⟨km, kn, ko⟩ := own_elx hMx 0 (T := tyJob) (xs := f) rfl fu g.toNat ep
      obtain rfl : km = ((e110Dn N) : List Value) := kn
      refine lc2 hFx 74 3 (e110Dn N) ko rfl ?_; intro sy kp; clear hFx
      refine nl (qnI (hJ _ _ ?_)); clear hJ J
      exact ⟨ax, ay, aG, aS, bI, bJ, a7, bu, a8, b8, cn, b9, bZ, bK, .slice ao1 f.length cap2, i6 g, .pointer (some ⟨ay, g.toNat * 3, none⟩), .agg (e110Dn N).toArray, bv, aY, .own tyJob 110 ao1 cap2 f, ae, kp.reg, hMx.perm lpr, a9, ba, bb, bc, bw, bd, be, bx, b1, cc, kf, kf, kf, kf, (nt O), (nt I), kf, (fun h _ => nt P h), (nt W), R, (fun _ => fu), (nt O), (nt I)⟩
     ·
      obtain rfl := oj hi
      have H := hpre 13 (by kernel_rfl)
      have d := hpre 9 (by kernel_rfl)
      have p := hpre 8 (by kernel_rfl)
      have z := hpre 7 (by kernel_rfl)
      have E := hpre 6 (by kernel_rfl)
      have n := hpre 5 (by kernel_rfl)
      have X := hpre 1 (by kernel_rfl)
      have ac := hpre 0 (by kernel_rfl)
      have l := hcl 13 12 (by kernel_rfl) H
      have m := hcl 12 11 (by kernel_rfl) l
      have y := hcl 12 10 (by kernel_rfl) l
      have O := hSi
      have P := ngF hcl 15 14 O
      have I := ngF hcl 16 14 O
      have W := ngF hcl 17 14 O
      obtain rfl := a9 ac
      obtain rfl := ba X
      obtain rfl := bd n
      obtain rfl := be E
      obtain rfl := bx z
      obtain rfl := b1 p
      obtain rfl := cc d
      obtain rfl := bf y
      obtain rfl := bg m
      obtain rfl := bM l
      obtain rfl := b2 H
      obtain rfl := M P
      refine hG (any_step ?_); clear hG G; intro A J hJ
      have c := Fz.le.trans c ae
      have kq := R p
      have kr := Q l
      refine ixo hFx hMx 0 (T := tyJob) (xs := f) g (by simpa only [List.length_set] using eq) (k := .i64) (e := 110) (bytes := 24) (nog rfl _) rfl (by kernel_rfl) rfl (by kernel_rfl) (by kernel_rfl) rfl (by kernel_rfl) ?_; intro fv sz ks kt; clear hFx
      refine nl (qnI (hJ _ _ ?_)); clear hJ J
      exact ⟨ax, ay, fv, aS, .slice ao1 f.length cap2, i6 g, a7, bu, a8, .slice ao1 f.length cap2, i6 g, i6 (w64 (g + 1)), .pointer (some ⟨ax, (w64 (g + 1)).toNat * 3, none⟩), .agg (e110Dn q).toArray, .slice ao1 f.length cap2, i6 g, .pointer (some ⟨ay, g.toNat * 3, none⟩), .agg (e110Dn N).toArray, .pointer (some ⟨fv, g.toNat * 3, none⟩), aY, .own tyJob 110 ao1 cap2 f, ae, kt.reg, hMx.perm lpr, kf, kf, bb, bc, bw, kf, kf, kf, kf, kf, kf, kf, kf, kf, kf, (nt I), kf, (fun h _ => nt P h), (nt W), (fun _ => kq), (fun _ => kr), (fun _ => ks), (nt I)⟩
     ·
      obtain rfl := oj hi
      have O := hpre 14 (by kernel_rfl)
      have H := hpre 13 (by kernel_rfl)
      have d := hpre 9 (by kernel_rfl)
      have p := hpre 8 (by kernel_rfl)
      have z := hpre 7 (by kernel_rfl)
      have E := hpre 6 (by kernel_rfl)
      have n := hpre 5 (by kernel_rfl)
      have X := hpre 1 (by kernel_rfl)
      have ac := hpre 0 (by kernel_rfl)
      have l := hcl 13 12 (by kernel_rfl) H
      have m := hcl 12 11 (by kernel_rfl) l
      have y := hcl 12 10 (by kernel_rfl) l
      have P := hSi
      have I := ngF hcl 16 15 P
      have W := ngF hcl 17 15 P
      obtain rfl := a9 ac
      obtain rfl := ba X
      obtain rfl := bd n
      obtain rfl := be E
      obtain rfl := bx z
      obtain rfl := b1 p
      obtain rfl := cc d
      obtain rfl := bf y
      obtain rfl := bg m
      obtain rfl := bM l
      obtain rfl := b2 H
      obtain rfl := c9 O
      obtain rfl := M P
      refine hG (any_step ?_); clear hG G; intro A J hJ
      have c := Fz.le.trans c ae
      have ku := R p
      have kv := Q l
      have fw := bN O
      refine sox hFx hMx 0 fw (T := tyJob) (xs := f) g.toNat q (u := .agg (e110Dn q).toArray) (nog rfl _) rfl rfl (by kernel_rfl) rfl (by kernel_rfl) rfl (by kernel_rfl) (by first | omega | (simp only [List.length_set] at *; omega)) rfl ?_; intro sA kw; clear hMx
      refine nl (qnI (hJ _ _ ?_)); clear hJ J
      exact ⟨ax, ay, aG, aS, .slice ao1 f.length cap2, i6 g, a7, bu, a8, .slice ao1 f.length cap2, i6 g, i6 (w64 (g + 1)), .pointer (some ⟨ax, (w64 (g + 1)).toNat * 3, none⟩), .agg (e110Dn q).toArray, .slice ao1 f.length cap2, i6 g, .pointer (some ⟨ay, g.toNat * 3, none⟩), .agg (e110Dn N).toArray, .pointer (some ⟨aG, g.toNat * 3, none⟩), aY, .own tyJob 110 ao1 cap2 (f.set g.toNat q), ae, hFx.reg, kw.perm lpr, kf, kf, bb, bc, bw, kf, kf, kf, kf, kf, kf, kf, kf, kf, kf, (nt I), nu, kf2, (nt W), (fun _ => ku), (fun _ => kv), (fun _ => fw), (nt I)⟩
     ·
      obtain rfl := oj hi
      have P := hpre 15 (by kernel_rfl)
      have O := hpre 14 (by kernel_rfl)
      have H := hpre 13 (by kernel_rfl)
      have l := hpre 12 (by kernel_rfl)
      have m := hpre 11 (by kernel_rfl)
      have y := hpre 10 (by kernel_rfl)
      have d := hpre 9 (by kernel_rfl)
      have p := hpre 8 (by kernel_rfl)
      have z := hpre 7 (by kernel_rfl)
      have E := hpre 6 (by kernel_rfl)
      have n := hpre 5 (by kernel_rfl)
      have F := hpre 4 (by kernel_rfl)
      have L := hpre 3 (by kernel_rfl)
      have ab := hpre 2 (by kernel_rfl)
      have X := hpre 1 (by kernel_rfl)
      have ac := hpre 0 (by kernel_rfl)
      have I := hSi
      have W := ngF hcl 17 16 I
      obtain rfl := a9 ac
      obtain rfl := ba X
      obtain rfl := bb ab
      obtain rfl := bc L
      obtain rfl := bw F
      obtain rfl := bd n
      obtain rfl := be E
      obtain rfl := bx z
      obtain rfl := b1 p
      obtain rfl := cc d
      obtain rfl := bf y
      obtain rfl := bg m
      obtain rfl := bM l
      obtain rfl := b2 H
      obtain rfl := c9 O
      obtain rfl := cr P W
      refine hG (any_step ?_); clear hG G; intro A J hJ
      have c := Fz.le.trans c ae
      have kx := R p
      have ky := Q l
      have kz := bN O
      have bz : (f.set g.toNat q).length = f.length := by simp; try omega
      have fx : Fr 220 [] [⟨0, [], .slice ao1 (f.set g.toNat q).length cap2⟩, ⟨10, [], i6 bY⟩, ⟨13, [], i6 g⟩, ⟨61, [], .slice ao1 (f.set g.toNat q).length cap2⟩, ⟨62, [], i6 g⟩, ⟨63, [], .slice ao1 (f.set g.toNat q).length cap2⟩, ⟨64, [], i6 g⟩, ⟨65, [], i6 (w64 (g + 1))⟩, ⟨66, [], .slice ao1 (f.set g.toNat q).length cap2⟩, ⟨67, [], i6 g⟩, ⟨68, [], i6 (w64 (g + 1))⟩, ⟨69, [], .pointer (some ⟨ax, (w64 (g + 1)).toNat * 3, none⟩)⟩, ⟨70, [], .agg (e110Dn q).toArray⟩, ⟨71, [], .slice ao1 (f.set g.toNat q).length cap2⟩, ⟨72, [], i6 g⟩, ⟨73, [], .pointer (some ⟨ay, g.toNat * 3, none⟩)⟩, ⟨74, [], .agg (e110Dn N).toArray⟩, ⟨75, [], .pointer (some ⟨aG, g.toNat * 3, none⟩)⟩, ⟨76, [], aY⟩] a := by rw [bz]; exact hFx.reg
      clear hFx
      refine ixo fx hMx 0 (T := tyJob) (xs := f.set g.toNat q) (w64 (g + 1)) (by simpa only [List.length_set] using er) (k := .i64) (e := 110) (bytes := 24) (nog rfl _) rfl (by kernel_rfl) rfl (by kernel_rfl) (by kernel_rfl) rfl (by kernel_rfl) ?_; intro fy sB kA fA; clear fx
      refine nl (qnI (hJ _ _ ?_)); clear hJ J
      rw [bz] at fA
      exact ⟨ax, ay, aG, fy, .slice ao1 f.length cap2, i6 g, .slice ao1 f.length cap2, i6 g, i6 (w64 (g + 1)), .slice ao1 f.length cap2, i6 g, i6 (w64 (g + 1)), .pointer (some ⟨ax, (w64 (g + 1)).toNat * 3, none⟩), .agg (e110Dn q).toArray, .slice ao1 f.length cap2, i6 g, .pointer (some ⟨ay, g.toNat * 3, none⟩), .agg (e110Dn N).toArray, .pointer (some ⟨aG, g.toNat * 3, none⟩), .pointer (some ⟨fy, (w64 (g + 1)).toNat * 3, none⟩), .own tyJob 110 ao1 cap2 (f.set g.toNat q), ae, fA.reg, hMx.perm lpr, (fun _ => by first | rfl | rw [bz]), (fun _ => by first | rfl | rw [bz]), (fun _ => by first | rfl | rw [bz]), (fun _ => by first | rfl | rw [bz]), (fun _ => by first | rfl | rw [bz]), (fun _ => by first | rfl | rw [bz]), (fun _ => by first | rfl | rw [bz]), (fun _ => by first | rfl | rw [bz]), (fun _ => by first | rfl | rw [bz]), (fun _ => by first | rfl | rw [bz]), (fun _ => by first | rfl | rw [bz]), (fun _ => by first | rfl | rw [bz]), (fun _ => by first | rfl | rw [bz]), (fun _ => by first | rfl | rw [bz]), (fun _ => by first | rfl | rw [bz]), (fun _ => by first | rfl | rw [bz]), (tn P), kf2, (nt W), (fun _ => kx), (fun _ => ky), (fun _ => kz), (fun _ => kA)⟩
     obtain rfl := oj hi
     have I := hpre 16 (by kernel_rfl)
     have P := hpre 15 (by kernel_rfl)
     have O := hpre 14 (by kernel_rfl)
     have H := hpre 13 (by kernel_rfl)
     have l := hpre 12 (by kernel_rfl)
     have m := hpre 11 (by kernel_rfl)
     have y := hpre 10 (by kernel_rfl)
     have d := hpre 9 (by kernel_rfl)
     have p := hpre 8 (by kernel_rfl)
     have z := hpre 7 (by kernel_rfl)
     have E := hpre 6 (by kernel_rfl)
     have n := hpre 5 (by kernel_rfl)
     have F := hpre 4 (by kernel_rfl)
     have L := hpre 3 (by kernel_rfl)
     have ab := hpre 2 (by kernel_rfl)
     have X := hpre 1 (by kernel_rfl)
     have ac := hpre 0 (by kernel_rfl)
     have W := hSi
     obtain rfl := a9 ac
     obtain rfl := ba X
     obtain rfl := bb ab
     obtain rfl := bc L
     obtain rfl := bw F
     obtain rfl := bd n
     obtain rfl := be E
     obtain rfl := bx z
     obtain rfl := b1 p
     obtain rfl := cc d
     obtain rfl := bf y
     obtain rfl := bg m
     obtain rfl := bM l
     obtain rfl := b2 H
     obtain rfl := c9 O
     obtain rfl := es I
     obtain rfl := cr P W
     refine hG (any_step ?_); clear hG G; intro A J hJ
     have c := Fz.le.trans c ae
     have kB := R p
     have kC := Q l
     have kD := bN O
     have fB := db I
     have bA : (f.set g.toNat q).length = f.length := by simp; try omega
     have et : Fr 220 [] [⟨0, [], .slice ao1 (f.set g.toNat q).length cap2⟩, ⟨10, [], i6 bY⟩, ⟨13, [], i6 g⟩, ⟨61, [], .slice ao1 (f.set g.toNat q).length cap2⟩, ⟨62, [], i6 g⟩, ⟨63, [], .slice ao1 (f.set g.toNat q).length cap2⟩, ⟨64, [], i6 g⟩, ⟨65, [], i6 (w64 (g + 1))⟩, ⟨66, [], .slice ao1 (f.set g.toNat q).length cap2⟩, ⟨67, [], i6 g⟩, ⟨68, [], i6 (w64 (g + 1))⟩, ⟨69, [], .pointer (some ⟨ax, (w64 (g + 1)).toNat * 3, none⟩)⟩, ⟨70, [], .agg (e110Dn q).toArray⟩, ⟨71, [], .slice ao1 (f.set g.toNat q).length cap2⟩, ⟨72, [], i6 g⟩, ⟨73, [], .pointer (some ⟨ay, g.toNat * 3, none⟩)⟩, ⟨74, [], .agg (e110Dn N).toArray⟩, ⟨75, [], .pointer (some ⟨aG, g.toNat * 3, none⟩)⟩, ⟨76, [], .pointer (some ⟨aS, (w64 (g + 1)).toNat * 3, none⟩)⟩] a := by rw [bA]; exact hFx.reg
     clear hFx
     refine sox et hMx 0 fB (T := tyJob) (xs := f.set g.toNat q) (w64 (g + 1)).toNat N (u := .agg (e110Dn N).toArray) (nog rfl _) rfl rfl (by kernel_rfl) rfl (by kernel_rfl) rfl (by kernel_rfl) (by first | omega | (simp only [List.length_set] at *; omega)) rfl ?_; intro sC kE; clear hMx
     refine nl (qnI (hJ _ _ ?_)); clear hJ J
     rw [bA] at et
     exact ⟨ax, ay, aG, aS, .slice ao1 f.length cap2, i6 g, .slice ao1 f.length cap2, i6 g, i6 (w64 (g + 1)), .slice ao1 f.length cap2, i6 g, i6 (w64 (g + 1)), .pointer (some ⟨ax, (w64 (g + 1)).toNat * 3, none⟩), .agg (e110Dn q).toArray, .slice ao1 f.length cap2, i6 g, .pointer (some ⟨ay, g.toNat * 3, none⟩), .agg (e110Dn N).toArray, .pointer (some ⟨aG, g.toNat * 3, none⟩), .pointer (some ⟨aS, (w64 (g + 1)).toNat * 3, none⟩), .own tyJob 110 ao1 cap2 ((f.set g.toNat q).set (w64 (g + 1)).toNat N), ae, et.reg, kE.perm lpr, (fun _ => by first | rfl | rw [bA]), (fun _ => by first | rfl | rw [bA]), (fun _ => by first | rfl | rw [bA]), (fun _ => by first | rfl | rw [bA]), (fun _ => by first | rfl | rw [bA]), (fun _ => by first | rfl | rw [bA]), (fun _ => by first | rfl | rw [bA]), (fun _ => by first | rfl | rw [bA]), (fun _ => by first | rfl | rw [bA]), (fun _ => by first | rfl | rw [bA]), (fun _ => by first | rfl | rw [bA]), (fun _ => by first | rfl | rw [bA]), (fun _ => by first | rfl | rw [bA]), (fun _ => by first | rfl | rw [bA]), (fun _ => by first | rfl | rw [bA]), (fun _ => by first | rfl | rw [bA]), (tn P), (fun _ => nu), kf, (fun _ => kB), (fun _ => kC), (fun _ => kD), (fun _ => fB)⟩
    case hE =>
     intro S hS fC sD hI; refine Go.Sy.hid ?_; intro G hG; obtain ⟨ax, ay, aG, aS, bI, bJ, a7, bu, a8, b8, cn, b9, bZ, bK, ca, cb, b0, bL, bv, aY, ad, ae, hFx, hMx, a9, ba, bb, bc, bw, bd, be, bx, b1, cc, bf, bg, bM, b2, c9, es, M, cr, dj, R, Q, bN, hI⟩ := hI; have db := hI; clear hI; refine hG ?_; clear hG G
     obtain rfl := a9 (hS 0 (by decide))
     obtain rfl := ba (hS 1 (by decide))
     obtain rfl := bb (hS 2 (by decide))
     obtain rfl := bc (hS 3 (by decide))
     obtain rfl := bw (hS 4 (by decide))
     obtain rfl := bd (hS 5 (by decide))
     obtain rfl := be (hS 6 (by decide))
     obtain rfl := bx (hS 7 (by decide))
     obtain rfl := b1 (hS 8 (by decide))
     obtain rfl := cc (hS 9 (by decide))
     obtain rfl := bf (hS 10 (by decide))
     obtain rfl := bg (hS 11 (by decide))
     obtain rfl := bM (hS 12 (by decide))
     obtain rfl := b2 (hS 13 (by decide))
     obtain rfl := c9 (hS 14 (by decide))
     obtain rfl := es (hS 16 (by decide))
     obtain rfl := dj (hS 17 (by decide))
     have c := Fz.le.trans c ae
     have sE := R (hS 8 (by decide))
     have sF := Q (hS 12 (by decide))
     have sG := bN (hS 14 (by decide))
     have sH := db (hS 16 (by decide))
     have kF : ((f.set g.toNat q).set (w64 (g + 1)).toNat N).length = f.length := by simp; try omega
     have fD : Fr 220 [] [⟨0, [], .slice ao1 ((f.set g.toNat q).set (w64 (g + 1)).toNat N).length cap2⟩, ⟨10, [], i6 bY⟩, ⟨13, [], i6 g⟩, ⟨61, [], .slice ao1 ((f.set g.toNat q).set (w64 (g + 1)).toNat N).length cap2⟩, ⟨62, [], i6 g⟩, ⟨63, [], .slice ao1 ((f.set g.toNat q).set (w64 (g + 1)).toNat N).length cap2⟩, ⟨64, [], i6 g⟩, ⟨65, [], i6 (w64 (g + 1))⟩, ⟨66, [], .slice ao1 ((f.set g.toNat q).set (w64 (g + 1)).toNat N).length cap2⟩, ⟨67, [], i6 g⟩, ⟨68, [], i6 (w64 (g + 1))⟩, ⟨69, [], .pointer (some ⟨ax, (w64 (g + 1)).toNat * 3, none⟩)⟩, ⟨70, [], .agg (e110Dn q).toArray⟩, ⟨71, [], .slice ao1 ((f.set g.toNat q).set (w64 (g + 1)).toNat N).length cap2⟩, ⟨72, [], i6 g⟩, ⟨73, [], .pointer (some ⟨ay, g.toNat * 3, none⟩)⟩, ⟨74, [], .agg (e110Dn N).toArray⟩, ⟨75, [], .pointer (some ⟨aG, g.toNat * 3, none⟩)⟩, ⟨76, [], .pointer (some ⟨aS, (w64 (g + 1)).toNat * 3, none⟩)⟩] fC := by rw [kF]; exact hFx.reg
     clear hFx
     refine ibn ?_
     refine thn ?_
     have fE : Fr 220 [] [⟨0, [], .slice ao1 ((f.set g.toNat q).set (w64 (g + 1)).toNat N).length cap2⟩, ⟨10, [], i6 bY⟩, ⟨13, [], i6 g⟩] fC := fD.reg; clear fD
     refine rgB fE hMx [] [] [(13, i6 (w64 (g + 1)))] ?_; intro sI kG; clear fE
     refine rd ?_
     exact ⟨⟨w64 (g + 1), (f.set g.toNat q).set (w64 (g + 1)).toNat N⟩, fq.1, fq.2, (kG.reg).anyβ _ (by kernel_rfl), hMx.keep (List.Sublist.cons_cons _ (List.Sublist.refl _))⟩
   have kH := dF.2 el; clear dF
   refine wp_exit ?_
   refine thx ?_
   refine thx ?_
   refine ibx ?_
   refine thn ?_
   refine wp_ret ?_
   refine thr ?_
   obtain ⟨kI, kJ⟩ := kH
   refine rt (fn := Try.f112) (v := .tuple #[]) di (re0 di (fn := Try.f112) rfl) ?_
   exact ⟨f, Z, rfl, kJ, c, kI, ek.keep (List.Sublist.cons_cons _ (List.Sublist.refl _))⟩
  refine wp_block ?_
  have fF : Fr 220 [] [⟨0, [], .slice ao1 u0.length cap2⟩, ⟨1, [], i6 u1⟩, ⟨4, [], .func (.func fid3) #[] caps4⟩, ⟨10, [], i6 u2⟩, ⟨11, [], i6 u3⟩] dE := ei.reg; clear ei
  have fG : Fr 220 [] [⟨0, [], .slice ao1 u0.length cap2⟩, ⟨1, [], i6 u1⟩, ⟨4, [], .func (.func fid3) #[] caps4⟩, ⟨10, [], i6 u2⟩, ⟨11, [], i6 u3⟩] dE := fF.reg; clear fF
  obtain ⟨kK, kL, kM, kN⟩ := jv
  refine lp (ι := Int × Int) (fun s => [⟨0, [], .slice ao1 u0.length cap2⟩, ⟨1, [], i6 u1⟩, ⟨4, [], .func (.func fid3) #[] caps4⟩, ⟨10, [], i6 s.1⟩, ⟨11, [], i6 s.2⟩]) (fun s => ((.own tyJob 110 ao1 cap2 u0) :: Rr)) (fun s => Z) (fun s => kK s.1 s.2) (fun s => kL s.1 s.2) ⟨u2, u3⟩ kM (by exact fG.reg) (by exact hM0) ?_
  rintro ⟨ak, al⟩ kO kP kQ fH fI
  have fJ : Fr 220 [] [⟨0, [], .slice ao1 u0.length cap2⟩, ⟨1, [], i6 u1⟩, ⟨4, [], .func (.func fid3) #[] caps4⟩, ⟨10, [], i6 ak⟩, ⟨11, [], i6 al⟩] kP := fH; clear fH fG
  have dG : Mem B [] w0 Z0 ((.own tyJob 110 ao1 cap2 u0) :: Rr) Z kQ := fI; clear fI hM0
  have dH := kN ak al kO
  refine wp_seq ?_
  refine sqB fJ dG [] [] [(33, .bool (decide (ak < al)))] ?_; intro sJ dI; clear fJ
  refine cd dI (t := decide (ak < al)) (by kernel_rfl) (fun eu => ?_) (fun eu => ?_)
  ·
   have kR := dH.1 eu; clear dH
   refine wp_skip ?_
   refine thn ?_
   refine wp_block ?_
   refine sqB dI dG [] [] [(12, i6 (w64 (bShr .u64 (wu64 (w64 (ak + al))) 1)))] ?_; intro cA fK; clear dI
   have kS : Fr 220 [] [⟨0, [], .slice ao1 u0.length cap2⟩, ⟨1, [], i6 u1⟩, ⟨4, [], .func (.func fid3) #[] caps4⟩, ⟨10, [], i6 ak⟩, ⟨11, [], i6 al⟩, ⟨12, [], i6 (w64 (bShr .u64 (wu64 (w64 (ak + al))) 1))⟩] cA := fK.reg; clear fK
   obtain ⟨ev, fL⟩ := kR
   obtain ⟨Y, ew, kT⟩ := gxq fL (by omega); clear fL
   obtain ⟨ex, fM⟩ := kT
   obtain ⟨aa, ey, dJ⟩ := gxq fM (by omega); clear fM
   refine wp_seq (any_invE mixed [[], [], [], [1, 2], [3], [], [], [5, 6], [7], [0, 4, 8], [9]] 11 (fun S a w1 => ∃ (bO : Nat) (bP : Nat) (cB : Value) (cU : Value) (cV : Value) (cO : Value) (cC : Value) (cW : Value) (cX : Value) (cP : Value) (cD : Value) (cs : Value) (co : Value) (ad : Res), Fz.le Z Z ∧ Fr 220 [] [⟨0, [], .slice ao1 u0.length cap2⟩, ⟨1, [], i6 u1⟩, ⟨4, [], .func (.func fid3) #[] caps4⟩, ⟨10, [], i6 ak⟩, ⟨11, [], i6 al⟩, ⟨12, [], i6 (w64 (bShr .u64 (wu64 (w64 (ak + al))) 1))⟩, ⟨40, [], cB⟩, ⟨41, [], cU⟩, ⟨42, [], cV⟩, ⟨43, [], cO⟩, ⟨44, [], cC⟩, ⟨45, [], cW⟩, ⟨46, [], cX⟩, ⟨47, [], cP⟩, ⟨48, [], cD⟩, ⟨49, [], cs⟩, ⟨50, [], co⟩] a ∧ Mem B [] w0 Z0 (ad :: Rr) Z w1 ∧ (S 0 = true → cB = .func (.func fid3) #[] caps4) ∧ (S 1 = true → cU = .slice ao1 u0.length cap2) ∧ (S 2 = true → cV = i6 (w64 (bShr .u64 (wu64 (w64 (ak + al))) 1))) ∧ (S 3 = true → cO = .pointer (some ⟨bO, (w64 (bShr .u64 (wu64 (w64 (ak + al))) 1)).toNat * 3, none⟩)) ∧ (S 4 = true → cC = .agg (e110Dn Y).toArray) ∧ (S 5 = true → cW = .slice ao1 u0.length cap2) ∧ (S 6 = true → cX = i6 u1) ∧ (S 7 = true → cP = .pointer (some ⟨bP, u1.toNat * 3, none⟩)) ∧ (S 8 = true → cD = .agg (e110Dn aa).toArray) ∧ (S 9 = true → cs = i6 (u4 Y aa)) ∧ (S 10 = true → co = .bool (decide ((u4 Y aa) < 0))) ∧ (ad = .own tyJob 110 ao1 cap2 u0) ∧ (S 3 = true → ao1 = some ⟨bO, 0, none⟩) ∧ (S 7 = true → ao1 = some ⟨bP, 0, none⟩)) ?h0 ?hs ?hE)
   case h0 =>
    have kU := kS.any 40
    have kV := kU.any 41
    have kW := kV.any 42
    have kX := kW.any 43
    have kY := kX.any 44
    have kZ := kY.any 45
    have k0 := kZ.any 46
    have k1 := k0.any 47
    have k2 := k1.any 48
    have k3 := k2.any 49
    have k4 := k3.any 50
    have k5 := (dG.perm lpr).drew
    exact ⟨0, 0, cA.tmps.getD 40 undef, cA.tmps.getD 41 undef, cA.tmps.getD 42 undef, cA.tmps.getD 43 undef, cA.tmps.getD 44 undef, cA.tmps.getD 45 undef, cA.tmps.getD 46 undef, cA.tmps.getD 47 undef, cA.tmps.getD 48 undef, cA.tmps.getD 49 undef, cA.tmps.getD 50 undef, .own tyJob 110 ao1 cap2 u0, Fz.le.refl _, k4.reg, k5, ff, ff, ff, ff, ff, ff, ff, ff, ff, ff, ff, rfl, ff, ff⟩
   case hs =>
    intro S hcl i o hil hi hSi hpre a w1 hI; refine Go.Sy.hid ?_; intro G hG; obtain ⟨bO, bP, cB, cU, cV, cO, cC, cW, cX, cP, cD, cs, co, ad, aT, hFx, hMx, cE, cF, cG, cY, c6, cH, cI, cZ, c7, ez, fN, M, R, hI⟩ := hI; have Q := hI; clear hI
    have hcase : i = 0 ∨ i = 1 ∨ i = 2 ∨ i = 3 ∨ i = 4 ∨ i = 5 ∨ i = 6 ∨ i = 7 ∨ i = 8 ∨ i = 9 ∨ i = 10 := by clear hi; omega
    rcases hcase with rfl | rfl | rfl | rfl | rfl | rfl | rfl | rfl | rfl | rfl | rfl
    ·
     obtain rfl := oj hi
     have ac := hSi
     have d := ngF hcl 9 0 ac
     have y := ngF hcl 10 9 d
     obtain rfl := M
     refine hG (any_step ?_); clear hG G; intro A J hJ
     have c := Fz.le.trans c aT
     refine s1 hFx 40 (.func (.func fid3) #[] caps4) ?_; intro sK k6; clear hFx
     refine nl (qnI (hJ _ _ ?_)); clear hJ J
     exact ⟨bO, bP, .func (.func fid3) #[] caps4, cU, cV, cO, cC, cW, cX, cP, cD, cs, co, .own tyJob 110 ao1 cap2 u0, aT, k6.reg, hMx.perm lpr, kf, cF, cG, cY, c6, cH, cI, cZ, c7, (nt d), (nt y), rfl, R, Q⟩
    ·
     obtain rfl := oj hi
     have X := hSi
     have L := ngF hcl 3 1 X
     have F := ngF hcl 4 3 L
     have d := ngF hcl 9 4 F
     have y := ngF hcl 10 9 d
     obtain rfl := M
     refine hG (any_step ?_); clear hG G; intro A J hJ
     have c := Fz.le.trans c aT
     refine s1 hFx 41 (.slice ao1 u0.length cap2) ?_; intro sL k7; clear hFx
     refine nl (qnI (hJ _ _ ?_)); clear hJ J
     exact ⟨bO, bP, cB, .slice ao1 u0.length cap2, cV, cO, cC, cW, cX, cP, cD, cs, co, .own tyJob 110 ao1 cap2 u0, aT, k7.reg, hMx.perm lpr, cE, kf, cG, (nt L), (nt F), cH, cI, cZ, c7, (nt d), (nt y), rfl, (nt L), Q⟩
    ·
     obtain rfl := oj hi
     have ab := hSi
     have L := ngF hcl 3 2 ab
     have F := ngF hcl 4 3 L
     have d := ngF hcl 9 4 F
     have y := ngF hcl 10 9 d
     obtain rfl := M
     refine hG (any_step ?_); clear hG G; intro A J hJ
     have c := Fz.le.trans c aT
     refine s1 hFx 42 (i6 (w64 (bShr .u64 (wu64 (w64 (ak + al))) 1))) ?_; intro sM k8; clear hFx
     refine nl (qnI (hJ _ _ ?_)); clear hJ J
     exact ⟨bO, bP, cB, cU, i6 (w64 (bShr .u64 (wu64 (w64 (ak + al))) 1)), cO, cC, cW, cX, cP, cD, cs, co, .own tyJob 110 ao1 cap2 u0, aT, k8.reg, hMx.perm lpr, cE, cF, kf, (nt L), (nt F), cH, cI, cZ, c7, (nt d), (nt y), rfl, (nt L), Q⟩
    ·
     obtain rfl := oj hi
     have ab := hpre 2 (by kernel_rfl)
     have X := hpre 1 (by kernel_rfl)
     have L := hSi
     have F := ngF hcl 4 3 L
     have d := ngF hcl 9 4 F
     have y := ngF hcl 10 9 d
     obtain rfl := cF X
     obtain rfl := cG ab
     obtain rfl := M
     refine hG (any_step ?_); clear hG G; intro A J hJ
     have c := Fz.le.trans c aT
     refine ixo hFx hMx 0 (T := tyJob) (xs := u0) (w64 (bShr .u64 (wu64 (w64 (ak + al))) 1)) (by simpa only [List.length_set] using ev) (k := .i64) (e := 110) (bytes := 24) (nog rfl _) rfl (by kernel_rfl) rfl (by kernel_rfl) (by kernel_rfl) rfl (by kernel_rfl) ?_; intro fO sN k9 la; clear hFx
     refine nl (qnI (hJ _ _ ?_)); clear hJ J
     exact ⟨fO, bP, cB, .slice ao1 u0.length cap2, i6 (w64 (bShr .u64 (wu64 (w64 (ak + al))) 1)), .pointer (some ⟨fO, (w64 (bShr .u64 (wu64 (w64 (ak + al))) 1)).toNat * 3, none⟩), cC, cW, cX, cP, cD, cs, co, .own tyJob 110 ao1 cap2 u0, aT, la.reg, hMx.perm lpr, cE, kf, kf, kf, (nt F), cH, cI, cZ, c7, (nt d), (nt y), rfl, (fun _ => k9), Q⟩
    ·
     obtain rfl := oj hi
     have L := hpre 3 (by kernel_rfl)
     have ab := hcl 3 2 (by kernel_rfl) L
     have X := hcl 3 1 (by kernel_rfl) L
     have F := hSi
     have d := ngF hcl 9 4 F
     have y := ngF hcl 10 9 d
     obtain rfl := cF X
     obtain rfl := cG ab
     obtain rfl := cY L
     obtain rfl := M
     refine hG (any_step ?_); clear hG G; intro A J hJ
     have c := Fz.le.trans c aT
     have fP := R L
     obtain ⟨lb, lc, ld⟩ := own_elx hMx 0 (T := tyJob) (xs := u0) rfl fP (w64 (bShr .u64 (wu64 (w64 (ak + al))) 1)).toNat ew
     obtain rfl : lb = ((e110Dn Y) : List Value) := lc
     refine lc2 hFx 44 3 (e110Dn Y) ld rfl ?_; intro sO lf; clear hFx
     refine nl (qnI (hJ _ _ ?_)); clear hJ J
     exact ⟨bO, bP, cB, .slice ao1 u0.length cap2, i6 (w64 (bShr .u64 (wu64 (w64 (ak + al))) 1)), .pointer (some ⟨bO, (w64 (bShr .u64 (wu64 (w64 (ak + al))) 1)).toNat * 3, none⟩), .agg (e110Dn Y).toArray, cW, cX, cP, cD, cs, co, .own tyJob 110 ao1 cap2 u0, aT, lf.reg, hMx.perm lpr, cE, kf, kf, kf, kf, cH, cI, cZ, c7, (nt d), (nt y), rfl, (fun _ => fP), Q⟩
    ·
     obtain rfl := oj hi
     have n := hSi
     have z := ngF hcl 7 5 n
     have p := ngF hcl 8 7 z
     have d := ngF hcl 9 8 p
     have y := ngF hcl 10 9 d
     obtain rfl := M
     refine hG (any_step ?_); clear hG G; intro A J hJ
     have c := Fz.le.trans c aT
     refine s1 hFx 45 (.slice ao1 u0.length cap2) ?_; intro sP lg; clear hFx
     refine nl (qnI (hJ _ _ ?_)); clear hJ J
     exact ⟨bO, bP, cB, cU, cV, cO, cC, .slice ao1 u0.length cap2, cX, cP, cD, cs, co, .own tyJob 110 ao1 cap2 u0, aT, lg.reg, hMx.perm lpr, cE, cF, cG, cY, c6, kf, cI, (nt z), (nt p), (nt d), (nt y), rfl, R, (nt z)⟩
    ·
     obtain rfl := oj hi
     have E := hSi
     have z := ngF hcl 7 6 E
     have p := ngF hcl 8 7 z
     have d := ngF hcl 9 8 p
     have y := ngF hcl 10 9 d
     obtain rfl := M
     refine hG (any_step ?_); clear hG G; intro A J hJ
     have c := Fz.le.trans c aT
     refine s1 hFx 46 (i6 u1) ?_; intro sQ lh; clear hFx
     refine nl (qnI (hJ _ _ ?_)); clear hJ J
     exact ⟨bO, bP, cB, cU, cV, cO, cC, cW, i6 u1, cP, cD, cs, co, .own tyJob 110 ao1 cap2 u0, aT, lh.reg, hMx.perm lpr, cE, cF, cG, cY, c6, cH, kf, (nt z), (nt p), (nt d), (nt y), rfl, R, (nt z)⟩
    ·
     obtain rfl := oj hi
     have E := hpre 6 (by kernel_rfl)
     have n := hpre 5 (by kernel_rfl)
     have z := hSi
     have p := ngF hcl 8 7 z
     have d := ngF hcl 9 8 p
     have y := ngF hcl 10 9 d
     obtain rfl := cH n
     obtain rfl := cI E
     obtain rfl := M
     refine hG (any_step ?_); clear hG G; intro A J hJ
     have c := Fz.le.trans c aT
     refine ixo hFx hMx 0 (T := tyJob) (xs := u0) u1 (by simpa only [List.length_set] using ex) (k := .i64) (e := 110) (bytes := 24) (nog rfl _) rfl (by kernel_rfl) rfl (by kernel_rfl) (by kernel_rfl) rfl (by kernel_rfl) ?_; intro fQ sR li lj; clear hFx
     refine nl (qnI (hJ _ _ ?_)); clear hJ J
     exact ⟨bO, fQ, cB, cU, cV, cO, cC, .slice ao1 u0.length cap2, i6 u1, .pointer (some ⟨fQ, u1.toNat * 3, none⟩), cD, cs, co, .own tyJob 110 ao1 cap2 u0, aT, lj.reg, hMx.perm lpr, cE, cF, cG, cY, c6, kf, kf, kf, (nt p), (nt d), (nt y), rfl, R, (fun _ => li)⟩
    ·
     obtain rfl := oj hi
     have z := hpre 7 (by kernel_rfl)
     have E := hcl 7 6 (by kernel_rfl) z
     have n := hcl 7 5 (by kernel_rfl) z
     have p := hSi
     have d := ngF hcl 9 8 p
     have y := ngF hcl 10 9 d
     obtain rfl := cH n
     obtain rfl := cI E
     obtain rfl := cZ z
     obtain rfl := M
     refine hG (any_step ?_); clear hG G; intro A J hJ
     have c := Fz.le.trans c aT
     have fR := Q z
     obtain ⟨lk, ll, lm⟩ := own_elx hMx 0 (T := tyJob) (xs := u0) rfl fR u1.toNat ey
     obtain rfl : lk = ((e110Dn aa) : List Value) := ll
     refine lc2 hFx 48 3 (e110Dn aa) lm rfl ?_; intro sS ln; clear hFx
     refine nl (qnI (hJ _ _ ?_)); clear hJ J
     exact ⟨bO, bP, cB, cU, cV, cO, cC, .slice ao1 u0.length cap2, i6 u1, .pointer (some ⟨bP, u1.toNat * 3, none⟩), .agg (e110Dn aa).toArray, cs, co, .own tyJob 110 ao1 cap2 u0, aT, ln.reg, hMx.perm lpr, cE, cF, cG, cY, c6, kf, kf, kf, kf, (nt d), (nt y), rfl, R, (fun _ => fR)⟩
    ·
     obtain rfl := oj hi
     have p := hpre 8 (by kernel_rfl)
     have F := hpre 4 (by kernel_rfl)
     have ac := hpre 0 (by kernel_rfl)
     have z := hcl 8 7 (by kernel_rfl) p
     have L := hcl 4 3 (by kernel_rfl) F
     have E := hcl 7 6 (by kernel_rfl) z
     have n := hcl 7 5 (by kernel_rfl) z
     have ab := hcl 3 2 (by kernel_rfl) L
     have X := hcl 3 1 (by kernel_rfl) L
     have d := hSi
     have y := ngF hcl 10 9 d
     obtain rfl := cE ac
     obtain rfl := cF X
     obtain rfl := cG ab
     obtain rfl := cY L
     obtain rfl := c6 F
     obtain rfl := cH n
     obtain rfl := cI E
     obtain rfl := cZ z
     obtain rfl := c7 p
     obtain rfl := M
     refine hG (any_step ?_); clear hG G; intro A J hJ
     have c := Fz.le.trans c aT
     have lo := R L
     have lq := Q z
     have lr := hf5 _ _ c hMx.fz Y aa
     refine fcl hFx hMx (i6 (u4 Y aa)) fid3 (#[.agg (e110Dn Y).toArray, .agg (e110Dn aa).toArray] ++ caps4) (nog rfl _) rfl (by kernel_rfl) ?h1 ?h2 ?_
     case h1 => exact fv_run rfl (by kernel_rfl) (by kernel_rfl) hg6
     case h2 => exact lr
     intro sT sU ls lt; clear hFx hMx
     refine nl (qnI (hJ _ _ ?_)); clear hJ J
     exact ⟨bO, bP, .func (.func fid3) #[] caps4, .slice ao1 u0.length cap2, i6 (w64 (bShr .u64 (wu64 (w64 (ak + al))) 1)), .pointer (some ⟨bO, (w64 (bShr .u64 (wu64 (w64 (ak + al))) 1)).toNat * 3, none⟩), .agg (e110Dn Y).toArray, .slice ao1 u0.length cap2, i6 u1, .pointer (some ⟨bP, u1.toNat * 3, none⟩), .agg (e110Dn aa).toArray, i6 (u4 Y aa), co, .own tyJob 110 ao1 cap2 u0, aT, ls.reg, lt.perm lpr, kf, kf, kf, kf, kf, kf, kf, kf, kf, kf, (nt y), rfl, (fun _ => lo), (fun _ => lq)⟩
    obtain rfl := oj hi
    have d := hpre 9 (by kernel_rfl)
    have p := hcl 9 8 (by kernel_rfl) d
    have F := hcl 9 4 (by kernel_rfl) d
    have ac := hcl 9 0 (by kernel_rfl) d
    have z := hcl 8 7 (by kernel_rfl) p
    have L := hcl 4 3 (by kernel_rfl) F
    have E := hcl 7 6 (by kernel_rfl) z
    have n := hcl 7 5 (by kernel_rfl) z
    have ab := hcl 3 2 (by kernel_rfl) L
    have X := hcl 3 1 (by kernel_rfl) L
    have y := hSi
    obtain rfl := cE ac
    obtain rfl := cF X
    obtain rfl := cG ab
    obtain rfl := cY L
    obtain rfl := c6 F
    obtain rfl := cH n
    obtain rfl := cI E
    obtain rfl := cZ z
    obtain rfl := c7 p
    obtain rfl := ez d
    obtain rfl := M
    refine hG (any_step ?_); clear hG G; intro A J hJ
    have c := Fz.le.trans c aT
    have lu := R L
    have lv := Q z
    refine s1 hFx 50 (.bool (decide ((u4 Y aa) < 0))) ?_; intro sV lw; clear hFx
    refine nl (qnI (hJ _ _ ?_)); clear hJ J
    exact ⟨bO, bP, .func (.func fid3) #[] caps4, .slice ao1 u0.length cap2, i6 (w64 (bShr .u64 (wu64 (w64 (ak + al))) 1)), .pointer (some ⟨bO, (w64 (bShr .u64 (wu64 (w64 (ak + al))) 1)).toNat * 3, none⟩), .agg (e110Dn Y).toArray, .slice ao1 u0.length cap2, i6 u1, .pointer (some ⟨bP, u1.toNat * 3, none⟩), .agg (e110Dn aa).toArray, i6 (u4 Y aa), .bool (decide ((u4 Y aa) < 0)), .own tyJob 110 ao1 cap2 u0, aT, lw.reg, hMx.perm lpr, kf, kf, kf, kf, kf, kf, kf, kf, kf, kf, kf, rfl, (fun _ => lu), (fun _ => lv)⟩
   case hE =>
    intro S hS fS sW hI; refine Go.Sy.hid ?_; intro G hG; obtain ⟨bO, bP, cB, cU, cV, cO, cC, cW, cX, cP, cD, cs, co, ad, aT, hFx, hMx, cE, cF, cG, cY, c6, cH, cI, cZ, c7, ez, fN, M, R, hI⟩ := hI; have Q := hI; clear hI; refine hG ?_; clear hG G
    obtain rfl := cE (hS 0 (by decide))
    obtain rfl := cF (hS 1 (by decide))
    obtain rfl := cG (hS 2 (by decide))
    obtain rfl := cY (hS 3 (by decide))
    obtain rfl := c6 (hS 4 (by decide))
    obtain rfl := cH (hS 5 (by decide))
    obtain rfl := cI (hS 6 (by decide))
    obtain rfl := cZ (hS 7 (by decide))
    obtain rfl := c7 (hS 8 (by decide))
    obtain rfl := ez (hS 9 (by decide))
    obtain rfl := fN (hS 10 (by decide))
    obtain rfl := M
    have c := Fz.le.trans c aT
    have sX := R (hS 3 (by decide))
    have sY := Q (hS 7 (by decide))
    refine thn ?_
    refine cd hFx (t := decide ((u4 Y aa) < 0)) (by kernel_rfl) (fun eA => ?_) (fun eA => ?_)
    ·
     have fT := dJ.1 eA; clear dJ
     have fU : Fr 220 [] [⟨0, [], .slice ao1 u0.length cap2⟩, ⟨1, [], i6 u1⟩, ⟨4, [], .func (.func fid3) #[] caps4⟩, ⟨11, [], i6 al⟩, ⟨12, [], i6 (w64 (bShr .u64 (wu64 (w64 (ak + al))) 1))⟩] fS := hFx.reg; clear hFx
     refine rgB fU hMx [] [] [(10, i6 (w64 ((w64 (bShr .u64 (wu64 (w64 (ak + al))) 1)) + 1)))] ?_; intro sZ lx; clear fU
     refine ibn ?_
     refine rd ?_
     exact ⟨⟨w64 ((w64 (bShr .u64 (wu64 (w64 (ak + al))) 1)) + 1), al⟩, fT.1, fT.2, (lx.reg).anyβ _ (by kernel_rfl), hMx.keep (List.Sublist.cons_cons _ (List.Sublist.refl _))⟩
    have fV := dJ.2 eA; clear dJ
    have fW : Fr 220 [] [⟨0, [], .slice ao1 u0.length cap2⟩, ⟨1, [], i6 u1⟩, ⟨4, [], .func (.func fid3) #[] caps4⟩, ⟨10, [], i6 ak⟩, ⟨12, [], i6 (w64 (bShr .u64 (wu64 (w64 (ak + al))) 1))⟩] fS := hFx.reg; clear hFx
    refine rgB fW hMx [] [] [(11, i6 (w64 (bShr .u64 (wu64 (w64 (ak + al))) 1)))] ?_; intro s0 ly; clear fW
    refine ibn ?_
    refine rd ?_
    exact ⟨⟨ak, w64 (bShr .u64 (wu64 (w64 (ak + al))) 1)⟩, fV.1, fV.2, (ly.reg).anyβ _ (by kernel_rfl), hMx.keep (List.Sublist.cons_cons _ (List.Sublist.refl _))⟩
  have lz := dH.2 eu; clear dH
  refine wp_exit ?_
  refine thx ?_
  refine thx ?_
  refine ibx ?_
  refine rd ?_
  exact jx ak lz _ _ ((dI.reg).anyβ _ (by kernel_rfl)) (dG.keep (List.Sublist.cons_cons _ (List.Sublist.refl _)))
 have dK := dD.2 eh; clear dD
 refine wp_skip ?_
 refine thn ?_
 refine wp_seq ?_
 refine sqB dh hM0 [] [] [(80, .bool ((w64 (u3 - u2)) == 1))] ?_; intro s2 dk; clear dh
 refine cd dk (t := (w64 (u3 - u2)) == 1) (by kernel_rfl) (fun eB => ?_) (fun eB => ?_)
 ·
  have lA := dK.1 eB; clear dK
  refine sqB dk hM0 [] [] [(14, i6 u1)] ?_; intro s3 fX; clear dk
  refine sqB fX hM0 [] [] [(15, i6 u2)] ?_; intro dL fY; clear fX
  have fZ : Fr 220 [] [⟨0, [], .slice ao1 u0.length cap2⟩, ⟨2, [], i6 u2⟩, ⟨4, [], .func (.func fid3) #[] caps4⟩, ⟨14, [], i6 u1⟩, ⟨15, [], i6 u2⟩] dL := fY.reg; clear fY
  have eC : Fr 220 [] [⟨0, [], .slice ao1 u0.length cap2⟩, ⟨2, [], i6 u2⟩, ⟨4, [], .func (.func fid3) #[] caps4⟩, ⟨14, [], i6 u1⟩, ⟨15, [], i6 u2⟩] dL := fZ.reg; clear fZ
  obtain ⟨lB, lC, lD⟩ := lA
  refine wp_seq_k fun KJ445 hKJ446 => ?_
  have lE : ∀ (b3 : Int), lB b3 → ∀ a1 w1, Fr 220 [] [⟨0, [], .slice ao1 u0.length cap2⟩, ⟨2, [], i6 u2⟩, ⟨14, [], i6 b3⟩] a1 → Mem B [] w0 Z0 ((.own tyJob 110 ao1 cap2 u0) :: Rr) Z w1 → KJ445 a1 w1 := by
   rintro b3 lF s4 s5 f0 eD; clear eC hM0
   refine hKJ446 _ _ ?_; clear hKJ446
   have lG := lD b3 lF
   refine wp_seq ?_
   refine sqB f0 eD [] [] [(17, i6 u2)] ?_; intro f1 f2; clear f0
   refine wp_block ?_
   have f3 : Fr 220 [] [⟨0, [], .slice ao1 u0.length cap2⟩, ⟨14, [], i6 b3⟩, ⟨17, [], i6 u2⟩] f1 := f2.reg; clear f2
   have f4 : Fr 220 [] [⟨0, [], .slice ao1 u0.length cap2⟩, ⟨14, [], i6 b3⟩, ⟨17, [], i6 u2⟩] f1 := f3.reg; clear f3
   obtain ⟨lH, lI, lJ, lK⟩ := lG
   refine lp (ι := Int × (List Job)) (fun s => [⟨0, [], .slice ao1 s.2.length cap2⟩, ⟨14, [], i6 b3⟩, ⟨17, [], i6 s.1⟩]) (fun s => ((.own tyJob 110 ao1 cap2 s.2) :: Rr)) (fun s => Z) (fun s => lH s.1 s.2) (fun s => lI s.1 s.2) ⟨u2, u0⟩ lJ (by exact f4.reg) (by exact eD) ?_
   rintro ⟨j, f⟩ lL lM lN f5 f6
   have f7 : Fr 220 [] [⟨0, [], .slice ao1 f.length cap2⟩, ⟨14, [], i6 b3⟩, ⟨17, [], i6 j⟩] lM := f5; clear f5 f4
   have eE : Mem B [] w0 Z0 ((.own tyJob 110 ao1 cap2 f) :: Rr) Z lN := f6; clear f6 eD
   have dM := lK j f lL
   refine wp_seq ?_
   refine sqB f7 eE [] [] [(110, .bool (decide (j > b3)))] ?_; intro bQ dl; clear f7
   refine cd dl (t := decide (j > b3)) (by kernel_rfl) (fun eF => ?_) (fun eF => ?_)
   ·
    have lO := dM.1 eF; clear dM
    refine wp_skip ?_
    refine thn ?_
    refine wp_seq ?_
    refine wp_block ?_
    have lP : Fr 220 [] [⟨0, [], .slice ao1 f.length cap2⟩, ⟨14, [], i6 b3⟩, ⟨17, [], i6 j⟩] bQ := dl.reg; clear dl
    obtain ⟨em, f8⟩ := lO
    obtain ⟨q, en, lQ⟩ := gxq f8 (by omega); clear f8
    obtain ⟨eo, f9⟩ := lQ
    obtain ⟨N, ep, lR⟩ := gxq f9 (by omega); clear f9
    obtain ⟨eq, lS⟩ := lR
    obtain ⟨er, ga⟩ := lS
    refine any_invE mixed [[], [], [], [], [3], [], [], [6], [5, 7], [8], [], [], [10, 11], [12], [0, 1, 5, 6, 7, 8, 9, 13], [0, 1, 5, 6, 7, 8, 9, 13, 14], [0, 1, 2, 3, 4, 5, 6, 7, 8, 9, 10, 11, 12, 13, 14, 15], [0, 1, 2, 3, 4, 5, 6, 7, 8, 9, 10, 11, 12, 13, 14, 15, 16]] 18 (fun S a w1 => ∃ (az : Nat) (aA : Nat) (aH : Nat) (aU : Nat) (bR : Value) (bS : Value) (bh : Value) (bB : Value) (bi : Value) (ce : Value) (cp : Value) (cf : Value) (b4 : Value) (bT : Value) (cg : Value) (ch : Value) (b5 : Value) (bU : Value) (bC : Value) (aZ : Value) (ad : Res), Fz.le Z Z ∧ Fr 220 [] [⟨0, [], .slice ao1 f.length cap2⟩, ⟨14, [], i6 b3⟩, ⟨17, [], i6 j⟩, ⟨113, [], bR⟩, ⟨114, [], bS⟩, ⟨115, [], bh⟩, ⟨116, [], bB⟩, ⟨117, [], bi⟩, ⟨118, [], ce⟩, ⟨119, [], cp⟩, ⟨120, [], cf⟩, ⟨121, [], b4⟩, ⟨122, [], bT⟩, ⟨123, [], cg⟩, ⟨124, [], ch⟩, ⟨125, [], b5⟩, ⟨126, [], bU⟩, ⟨127, [], bC⟩, ⟨128, [], aZ⟩] a ∧ Mem B [] w0 Z0 (ad :: Rr) Z w1 ∧ (S 0 = true → bR = .slice ao1 f.length cap2) ∧ (S 1 = true → bS = i6 j) ∧ (S 2 = true → bh = .slice ao1 f.length cap2) ∧ (S 3 = true → bB = i6 j) ∧ (S 4 = true → bi = i6 (w64 (j - 1))) ∧ (S 5 = true → ce = .slice ao1 f.length cap2) ∧ (S 6 = true → cp = i6 j) ∧ (S 7 = true → cf = i6 (w64 (j - 1))) ∧ (S 8 = true → b4 = .pointer (some ⟨az, (w64 (j - 1)).toNat * 3, none⟩)) ∧ (S 9 = true → bT = .agg (e110Dn q).toArray) ∧ (S 10 = true → cg = .slice ao1 f.length cap2) ∧ (S 11 = true → ch = i6 j) ∧ (S 12 = true → b5 = .pointer (some ⟨aA, j.toNat * 3, none⟩)) ∧ (S 13 = true → bU = .agg (e110Dn N).toArray) ∧ (S 14 = true → bC = .pointer (some ⟨aH, j.toNat * 3, none⟩)) ∧ (S 16 = true → aZ = .pointer (some ⟨aU, (w64 (j - 1)).toNat * 3, none⟩)) ∧ (S 15 = false → ad = .own tyJob 110 ao1 cap2 f) ∧ (S 15 = true → S 17 = false → ad = .own tyJob 110 ao1 cap2 (f.set j.toNat q)) ∧ (S 17 = true → ad = .own tyJob 110 ao1 cap2 ((f.set j.toNat q).set (w64 (j - 1)).toNat N)) ∧ (S 8 = true → ao1 = some ⟨az, 0, none⟩) ∧ (S 12 = true → ao1 = some ⟨aA, 0, none⟩) ∧ (S 14 = true → ao1 = some ⟨aH, 0, none⟩) ∧ (S 16 = true → ao1 = some ⟨aU, 0, none⟩)) ?h0 ?hs ?hE
    case h0 =>
     have lT := lP.any 113
     have lU := lT.any 114
     have lV := lU.any 115
     have lW := lV.any 116
     have lX := lW.any 117
     have lY := lX.any 118
     have lZ := lY.any 119
     have l0 := lZ.any 120
     have l1 := l0.any 121
     have l2 := l1.any 122
     have l3 := l2.any 123
     have l4 := l3.any 124
     have l5 := l4.any 125
     have l6 := l5.any 126
     have l7 := l6.any 127
     have l8 := l7.any 128
     have l9 := (eE.perm lpr).drew
     exact ⟨0, 0, 0, 0, bQ.tmps.getD 113 undef, bQ.tmps.getD 114 undef, bQ.tmps.getD 115 undef, bQ.tmps.getD 116 undef, bQ.tmps.getD 117 undef, bQ.tmps.getD 118 undef, bQ.tmps.getD 119 undef, bQ.tmps.getD 120 undef, bQ.tmps.getD 121 undef, bQ.tmps.getD 122 undef, bQ.tmps.getD 123 undef, bQ.tmps.getD 124 undef, bQ.tmps.getD 125 undef, bQ.tmps.getD 126 undef, bQ.tmps.getD 127 undef, bQ.tmps.getD 128 undef, .own tyJob 110 ao1 cap2 f, Fz.le.refl _, l8.reg, l9, ff, ff, ff, ff, ff, ff, ff, ff, ff, ff, ff, ff, ff, ff, ff, ff, kf, ff, ff, ff, ff, ff, ff⟩
    case hs =>
     intro S hcl i o hil hi hSi hpre a w1 hI; refine Go.Sy.hid ?_; intro G hG; obtain ⟨az, aA, aH, aU, bR, bS, bh, bB, bi, ce, cp, cf, b4, bT, cg, ch, b5, bU, bC, aZ, ad, af, hFx, hMx, bj, bk, bl, bm, bD, bn, bo, bE, b6, ci, bp, bq, bV, b7, da, eG, M, cr, dj, R, Q, bN, hI⟩ := hI; have db := hI; clear hI
     have hcase : i = 0 ∨ i = 1 ∨ i = 2 ∨ i = 3 ∨ i = 4 ∨ i = 5 ∨ i = 6 ∨ i = 7 ∨ i = 8 ∨ i = 9 ∨ i = 10 ∨ i = 11 ∨ i = 12 ∨ i = 13 ∨ i = 14 ∨ i = 15 ∨ i = 16 ∨ i = 17 := by clear hi; omega
     rcases hcase with rfl | rfl | rfl | rfl | rfl | rfl | rfl | rfl | rfl | rfl | rfl | rfl | rfl | rfl | rfl | rfl | rfl | rfl
     ·
      obtain rfl := oj hi
      have ac := hSi
      have O := ngF hcl 14 0 ac
      have P := ngF hcl 15 0 ac
      have I := ngF hcl 16 0 ac
      have W := ngF hcl 17 0 ac
      obtain rfl := M P
      refine hG (any_step ?_); clear hG G; intro A J hJ
      have c := Fz.le.trans c af
      refine s1 hFx 113 (.slice ao1 f.length cap2) ?_; intro s6 ma; clear hFx
      refine nl (qnI (hJ _ _ ?_)); clear hJ J
      exact ⟨az, aA, aH, aU, .slice ao1 f.length cap2, bS, bh, bB, bi, ce, cp, cf, b4, bT, cg, ch, b5, bU, bC, aZ, .own tyJob 110 ao1 cap2 f, af, ma.reg, hMx.perm lpr, kf, bk, bl, bm, bD, bn, bo, bE, b6, ci, bp, bq, bV, b7, (nt O), (nt I), kf, (fun h _ => nt P h), (nt W), R, Q, (nt O), (nt I)⟩
     ·
      obtain rfl := oj hi
      have X := hSi
      have O := ngF hcl 14 1 X
      have P := ngF hcl 15 1 X
      have I := ngF hcl 16 1 X
      have W := ngF hcl 17 1 X
      obtain rfl := M P
      refine hG (any_step ?_); clear hG G; intro A J hJ
      have c := Fz.le.trans c af
      refine s1 hFx 114 (i6 j) ?_; intro s7 mb; clear hFx
      refine nl (qnI (hJ _ _ ?_)); clear hJ J
      exact ⟨az, aA, aH, aU, bR, i6 j, bh, bB, bi, ce, cp, cf, b4, bT, cg, ch, b5, bU, bC, aZ, .own tyJob 110 ao1 cap2 f, af, mb.reg, hMx.perm lpr, bj, kf, bl, bm, bD, bn, bo, bE, b6, ci, bp, bq, bV, b7, (nt O), (nt I), kf, (fun h _ => nt P h), (nt W), R, Q, (nt O), (nt I)⟩
     ·
      obtain rfl := oj hi
      have ab := hSi
      have I := ngF hcl 16 2 ab
      have W := ngF hcl 17 2 ab
      refine hG (any_step ?_); clear hG G; intro A J hJ
      have c := Fz.le.trans c af
      refine s1 hFx 115 (.slice ao1 f.length cap2) ?_; intro s8 mc; clear hFx
      refine nl (qnI (hJ _ _ ?_)); clear hJ J
      exact ⟨az, aA, aH, aU, bR, bS, .slice ao1 f.length cap2, bB, bi, ce, cp, cf, b4, bT, cg, ch, b5, bU, bC, aZ, ad, af, mc.reg, hMx.perm lpr, bj, bk, kf, bm, bD, bn, bo, bE, b6, ci, bp, bq, bV, b7, da, (nt I), M, cr, (nt W), R, Q, bN, (nt I)⟩
     ·
      obtain rfl := oj hi
      have L := hSi
      have F := ngF hcl 4 3 L
      have I := ngF hcl 16 3 L
      have W := ngF hcl 17 3 L
      refine hG (any_step ?_); clear hG G; intro A J hJ
      have c := Fz.le.trans c af
      refine s1 hFx 116 (i6 j) ?_; intro s9 md; clear hFx
      refine nl (qnI (hJ _ _ ?_)); clear hJ J
      exact ⟨az, aA, aH, aU, bR, bS, bh, i6 j, bi, ce, cp, cf, b4, bT, cg, ch, b5, bU, bC, aZ, ad, af, md.reg, hMx.perm lpr, bj, bk, bl, kf, (nt F), bn, bo, bE, b6, ci, bp, bq, bV, b7, da, (nt I), M, cr, (nt W), R, Q, bN, (nt I)⟩
     ·
      obtain rfl := oj hi
      have L := hpre 3 (by kernel_rfl)
      have F := hSi
      have I := ngF hcl 16 4 F
      have W := ngF hcl 17 4 F
      obtain rfl := bm L
      refine hG (any_step ?_); clear hG G; intro A J hJ
      have c := Fz.le.trans c af
      refine s1 hFx 117 (i6 (w64 (j - 1))) ?_; intro ta me; clear hFx
      refine nl (qnI (hJ _ _ ?_)); clear hJ J
      exact ⟨az, aA, aH, aU, bR, bS, bh, i6 j, i6 (w64 (j - 1)), ce, cp, cf, b4, bT, cg, ch, b5, bU, bC, aZ, ad, af, me.reg, hMx.perm lpr, bj, bk, bl, kf, kf, bn, bo, bE, b6, ci, bp, bq, bV, b7, da, (nt I), M, cr, (nt W), R, Q, bN, (nt I)⟩
     ·
      obtain rfl := oj hi
      have n := hSi
      have p := ngF hcl 8 5 n
      have d := ngF hcl 9 8 p
      have O := ngF hcl 14 5 n
      have P := ngF hcl 15 5 n
      have I := ngF hcl 16 5 n
      have W := ngF hcl 17 5 n
      obtain rfl := M P
      refine hG (any_step ?_); clear hG G; intro A J hJ
      have c := Fz.le.trans c af
      refine s1 hFx 118 (.slice ao1 f.length cap2) ?_; intro tb mf; clear hFx
      refine nl (qnI (hJ _ _ ?_)); clear hJ J
      exact ⟨az, aA, aH, aU, bR, bS, bh, bB, bi, .slice ao1 f.length cap2, cp, cf, b4, bT, cg, ch, b5, bU, bC, aZ, .own tyJob 110 ao1 cap2 f, af, mf.reg, hMx.perm lpr, bj, bk, bl, bm, bD, kf, bo, bE, (nt p), (nt d), bp, bq, bV, b7, (nt O), (nt I), kf, (fun h _ => nt P h), (nt W), (nt p), Q, (nt O), (nt I)⟩
     ·
      obtain rfl := oj hi
      have E := hSi
      have z := ngF hcl 7 6 E
      have p := ngF hcl 8 7 z
      have d := ngF hcl 9 8 p
      have O := ngF hcl 14 6 E
      have P := ngF hcl 15 6 E
      have I := ngF hcl 16 6 E
      have W := ngF hcl 17 6 E
      obtain rfl := M P
      refine hG (any_step ?_); clear hG G; intro A J hJ
      have c := Fz.le.trans c af
      refine s1 hFx 119 (i6 j) ?_; intro tc mg; clear hFx
      refine nl (qnI (hJ _ _ ?_)); clear hJ J
      exact ⟨az, aA, aH, aU, bR, bS, bh, bB, bi, ce, i6 j, cf, b4, bT, cg, ch, b5, bU, bC, aZ, .own tyJob 110 ao1 cap2 f, af, mg.reg, hMx.perm lpr, bj, bk, bl, bm, bD, bn, kf, (nt z), (nt p), (nt d), bp, bq, bV, b7, (nt O), (nt I), kf, (fun h _ => nt P h), (nt W), (nt p), Q, (nt O), (nt I)⟩
     ·
      obtain rfl := oj hi
      have E := hpre 6 (by kernel_rfl)
      have z := hSi
      have p := ngF hcl 8 7 z
      have d := ngF hcl 9 8 p
      have O := ngF hcl 14 7 z
      have P := ngF hcl 15 7 z
      have I := ngF hcl 16 7 z
      have W := ngF hcl 17 7 z
      obtain rfl := bo E
      obtain rfl := M P
      refine hG (any_step ?_); clear hG G; intro A J hJ
      have c := Fz.le.trans c af
      refine s1 hFx 120 (i6 (w64 (j - 1))) ?_; intro td mh; clear hFx
      refine nl (qnI (hJ _ _ ?_)); clear hJ J
      exact ⟨az, aA, aH, aU, bR, bS, bh, bB, bi, ce, i6 j, i6 (w64 (j - 1)), b4, bT, cg, ch, b5, bU, bC, aZ, .own tyJob 110 ao1 cap2 f, af, mh.reg, hMx.perm lpr, bj, bk, bl, bm, bD, bn, kf, kf, (nt p), (nt d), bp, bq, bV, b7, (nt O), (nt I), kf, (fun h _ => nt P h), (nt W), (nt p), Q, (nt O), (nt I)⟩
     ·
      obtain rfl := oj hi
      have z := hpre 7 (by kernel_rfl)
      have n := hpre 5 (by kernel_rfl)
      have E := hcl 7 6 (by kernel_rfl) z
      have p := hSi
      have d := ngF hcl 9 8 p
      have O := ngF hcl 14 8 p
      have P := ngF hcl 15 8 p
      have I := ngF hcl 16 8 p
      have W := ngF hcl 17 8 p
      obtain rfl := bn n
      obtain rfl := bo E
      obtain rfl := bE z
      obtain rfl := M P
      refine hG (any_step ?_); clear hG G; intro A J hJ
      have c := Fz.le.trans c af
      refine ixo hFx hMx 0 (T := tyJob) (xs := f) (w64 (j - 1)) (by simpa only [List.length_set] using em) (k := .i64) (e := 110) (bytes := 24) (nog rfl _) rfl (by kernel_rfl) rfl (by kernel_rfl) (by kernel_rfl) rfl (by kernel_rfl) ?_; intro gb te mi mj; clear hFx
      refine nl (qnI (hJ _ _ ?_)); clear hJ J
      exact ⟨gb, aA, aH, aU, bR, bS, bh, bB, bi, .slice ao1 f.length cap2, i6 j, i6 (w64 (j - 1)), .pointer (some ⟨gb, (w64 (j - 1)).toNat * 3, none⟩), bT, cg, ch, b5, bU, bC, aZ, .own tyJob 110 ao1 cap2 f, af, mj.reg, hMx.perm lpr, bj, bk, bl, bm, bD, kf, kf, kf, kf, (nt d), bp, bq, bV, b7, (nt O), (nt I), kf, (fun h _ => nt P h), (nt W), (fun _ => mi), Q, (nt O), (nt I)⟩
     ·
      obtain rfl := oj hi
      have p := hpre 8 (by kernel_rfl)
      have z := hcl 8 7 (by kernel_rfl) p
      have n := hcl 8 5 (by kernel_rfl) p
      have E := hcl 7 6 (by kernel_rfl) z
      have d := hSi
      have O := ngF hcl 14 9 d
      have P := ngF hcl 15 9 d
      have I := ngF hcl 16 9 d
      have W := ngF hcl 17 9 d
      obtain rfl := bn n
      obtain rfl := bo E
      obtain rfl := bE z
      obtain rfl := b6 p
      obtain rfl := M P
      refine hG (any_step ?_); clear hG G; intro A J hJ
      have c := Fz.le.trans c af
      have gc := R p
      obtain ⟨mk, ml, mm⟩ := own_elx hMx 0 (T := tyJob) (xs := f) rfl gc (w64 (j - 1)).toNat en
      obtain rfl : mk = ((e110Dn q) : List Value) := ml
      refine lc2 hFx 122 3 (e110Dn q) mm rfl ?_; intro tf mn; clear hFx
      refine nl (qnI (hJ _ _ ?_)); clear hJ J
      exact ⟨az, aA, aH, aU, bR, bS, bh, bB, bi, .slice ao1 f.length cap2, i6 j, i6 (w64 (j - 1)), .pointer (some ⟨az, (w64 (j - 1)).toNat * 3, none⟩), .agg (e110Dn q).toArray, cg, ch, b5, bU, bC, aZ, .own tyJob 110 ao1 cap2 f, af, mn.reg, hMx.perm lpr, bj, bk, bl, bm, bD, kf, kf, kf, kf, kf, bp, bq, bV, b7, (nt O), (nt I), kf, (fun h _ => nt P h), (nt W), (fun _ => gc), Q, (nt O), (nt I)⟩
     ·
      obtain rfl := oj hi
      have y := hSi
      have l := ngF hcl 12 10 y
      have H := ngF hcl 13 12 l
      have O := ngF hcl 14 13 H
      have P := ngF hcl 15 13 H
      have I := ngF hcl 16 10 y
      have W := ngF hcl 17 10 y
      obtain rfl := M P
      refine hG (any_step ?_); clear hG G; intro A J hJ
      have c := Fz.le.trans c af
      refine s1 hFx 123 (.slice ao1 f.length cap2) ?_; intro tg mo; clear hFx
      refine nl (qnI (hJ _ _ ?_)); clear hJ J
      exact ⟨az, aA, aH, aU, bR, bS, bh, bB, bi, ce, cp, cf, b4, bT, .slice ao1 f.length cap2, ch, b5, bU, bC, aZ, .own tyJob 110 ao1 cap2 f, af, mo.reg, hMx.perm lpr, bj, bk, bl, bm, bD, bn, bo, bE, b6, ci, kf, bq, (nt l), (nt H), (nt O), (nt I), kf, (fun h _ => nt P h), (nt W), R, (nt l), (nt O), (nt I)⟩
     ·
      obtain rfl := oj hi
      have m := hSi
      have l := ngF hcl 12 11 m
      have H := ngF hcl 13 12 l
      have O := ngF hcl 14 13 H
      have P := ngF hcl 15 13 H
      have I := ngF hcl 16 11 m
      have W := ngF hcl 17 11 m
      obtain rfl := M P
      refine hG (any_step ?_); clear hG G; intro A J hJ
      have c := Fz.le.trans c af
      refine s1 hFx 124 (i6 j) ?_; intro th mp; clear hFx
      refine nl (qnI (hJ _ _ ?_)); clear hJ J
      exact ⟨az, aA, aH, aU, bR, bS, bh, bB, bi, ce, cp, cf, b4, bT, cg, i6 j, b5, bU, bC, aZ, .own tyJob 110 ao1 cap2 f, af, mp.reg, hMx.perm lpr, bj, bk, bl, bm, bD, bn, bo, bE, b6, ci, bp, kf, (nt l), (nt H), (nt O), (nt I), kf, (fun h _ => nt P h), (nt W), R, (nt l), (nt O), (nt I)⟩
     ·
      obtain rfl := oj hi
      have m := hpre 11 (by kernel_rfl)
      have y := hpre 10 (by kernel_rfl)
      have l := hSi
      have H := ngF hcl 13 12 l
      have O := ngF hcl 14 13 H
      have P := ngF hcl 15 13 H
      have I := ngF hcl 16 12 l
      have W := ngF hcl 17 12 l
      obtain rfl := bp y
      obtain rfl := bq m
      obtain rfl := M P
      refine hG (any_step ?_); clear hG G; intro A J hJ
      have c := Fz.le.trans c af
      refine ixo hFx hMx 0 (T := tyJob) (xs := f) j (by simpa only [List.length_set] using eo) (k := .i64) (e := 110) (bytes := 24) (nog rfl _) rfl (by kernel_rfl) rfl (by kernel_rfl) (by kernel_rfl) rfl (by kernel_rfl) ?_; intro gd ti mq mr; clear hFx
      refine nl (qnI (hJ _ _ ?_)); clear hJ J
      exact ⟨az, gd, aH, aU, bR, bS, bh, bB, bi, ce, cp, cf, b4, bT, .slice ao1 f.length cap2, i6 j, .pointer (some ⟨gd, j.toNat * 3, none⟩), bU, bC, aZ, .own tyJob 110 ao1 cap2 f, af, mr.reg, hMx.perm lpr, bj, bk, bl, bm, bD, bn, bo, bE, b6, ci, kf, kf, kf, (nt H), (nt O), (nt I), kf, (fun h _ => nt P h), (nt W), R, (fun _ => mq), (nt O), (nt I)⟩
     ·
      obtain rfl := oj hi
      have l := hpre 12 (by kernel_rfl)
      have m := hcl 12 11 (by kernel_rfl) l
      have y := hcl 12 10 (by kernel_rfl) l
      have H := hSi
      have O := ngF hcl 14 13 H
      have P := ngF hcl 15 13 H
      have I := ngF hcl 16 13 H
      have W := ngF hcl 17 13 H
      obtain rfl := bp y
      obtain rfl := bq m
      obtain rfl := bV l
      obtain rfl := M P
      refine hG (any_step ?_); clear hG G; intro A J hJ
      have c := Fz.le.trans c af
      have ge := Q l
      obtain ⟨ms, mt, mu⟩ := own_elx hMx 0 (T := tyJob) (xs := f) rfl ge j.toNat ep
      obtain rfl : ms = ((e110Dn N) : List Value) := mt
      refine lc2 hFx 126 3 (e110Dn N) mu rfl ?_; intro tj mv; clear hFx
      refine nl (qnI (hJ _ _ ?_)); clear hJ J
      exact ⟨az, aA, aH, aU, bR, bS, bh, bB, bi, ce, cp, cf, b4, bT, .slice ao1 f.length cap2, i6 j, .pointer (some ⟨aA, j.toNat * 3, none⟩), .agg (e110Dn N).toArray, bC, aZ, .own tyJob 110 ao1 cap2 f, af, mv.reg, hMx.perm lpr, bj, bk, bl, bm, bD, bn, bo, bE, b6, ci, kf, kf, kf, kf, (nt O), (nt I), kf, (fun h _ => nt P h), (nt W), R, (fun _ => ge), (nt O), (nt I)⟩
     ·
      obtain rfl := oj hi
      have H := hpre 13 (by kernel_rfl)
      have d := hpre 9 (by kernel_rfl)
      have p := hpre 8 (by kernel_rfl)
      have z := hpre 7 (by kernel_rfl)
      have E := hpre 6 (by kernel_rfl)
      have n := hpre 5 (by kernel_rfl)
      have X := hpre 1 (by kernel_rfl)
      have ac := hpre 0 (by kernel_rfl)
      have l := hcl 13 12 (by kernel_rfl) H
      have m := hcl 12 11 (by kernel_rfl) l
      have y := hcl 12 10 (by kernel_rfl) l
      have O := hSi
      have P := ngF hcl 15 14 O
      have I := ngF hcl 16 14 O
      have W := ngF hcl 17 14 O
      obtain rfl := bj ac
      obtain rfl := bk X
      obtain rfl := bn n
      obtain rfl := bo E
      obtain rfl := bE z
      obtain rfl := b6 p
      obtain rfl := ci d
      obtain rfl := bp y
      obtain rfl := bq m
      obtain rfl := bV l
      obtain rfl := b7 H
      obtain rfl := M P
      refine hG (any_step ?_); clear hG G; intro A J hJ
      have c := Fz.le.trans c af
      have mw := R p
      have mx := Q l
      refine ixo hFx hMx 0 (T := tyJob) (xs := f) j (by simpa only [List.length_set] using eq) (k := .i64) (e := 110) (bytes := 24) (nog rfl _) rfl (by kernel_rfl) rfl (by kernel_rfl) (by kernel_rfl) rfl (by kernel_rfl) ?_; intro gf tk my mz; clear hFx
      refine nl (qnI (hJ _ _ ?_)); clear hJ J
      exact ⟨az, aA, gf, aU, .slice ao1 f.length cap2, i6 j, bh, bB, bi, .slice ao1 f.length cap2, i6 j, i6 (w64 (j - 1)), .pointer (some ⟨az, (w64 (j - 1)).toNat * 3, none⟩), .agg (e110Dn q).toArray, .slice ao1 f.length cap2, i6 j, .pointer (some ⟨aA, j.toNat * 3, none⟩), .agg (e110Dn N).toArray, .pointer (some ⟨gf, j.toNat * 3, none⟩), aZ, .own tyJob 110 ao1 cap2 f, af, mz.reg, hMx.perm lpr, kf, kf, bl, bm, bD, kf, kf, kf, kf, kf, kf, kf, kf, kf, kf, (nt I), kf, (fun h _ => nt P h), (nt W), (fun _ => mw), (fun _ => mx), (fun _ => my), (nt I)⟩
     ·
      obtain rfl := oj hi
      have O := hpre 14 (by kernel_rfl)
      have H := hpre 13 (by kernel_rfl)
      have d := hpre 9 (by kernel_rfl)
      have p := hpre 8 (by kernel_rfl)
      have z := hpre 7 (by kernel_rfl)
      have E := hpre 6 (by kernel_rfl)
      have n := hpre 5 (by kernel_rfl)
      have X := hpre 1 (by kernel_rfl)
      have ac := hpre 0 (by kernel_rfl)
      have l := hcl 13 12 (by kernel_rfl) H
      have m := hcl 12 11 (by kernel_rfl) l
      have y := hcl 12 10 (by kernel_rfl) l
      have P := hSi
      have I := ngF hcl 16 15 P
      have W := ngF hcl 17 15 P
      obtain rfl := bj ac
      obtain rfl := bk X
      obtain rfl := bn n
      obtain rfl := bo E
      obtain rfl := bE z
      obtain rfl := b6 p
      obtain rfl := ci d
      obtain rfl := bp y
      obtain rfl := bq m
      obtain rfl := bV l
      obtain rfl := b7 H
      obtain rfl := da O
      obtain rfl := M P
      refine hG (any_step ?_); clear hG G; intro A J hJ
      have c := Fz.le.trans c af
      have mA := R p
      have mB := Q l
      have gg := bN O
      refine sox hFx hMx 0 gg (T := tyJob) (xs := f) j.toNat q (u := .agg (e110Dn q).toArray) (nog rfl _) rfl rfl (by kernel_rfl) rfl (by kernel_rfl) rfl (by kernel_rfl) (by first | omega | (simp only [List.length_set] at *; omega)) rfl ?_; intro tl mC; clear hMx
      refine nl (qnI (hJ _ _ ?_)); clear hJ J
      exact ⟨az, aA, aH, aU, .slice ao1 f.length cap2, i6 j, bh, bB, bi, .slice ao1 f.length cap2, i6 j, i6 (w64 (j - 1)), .pointer (some ⟨az, (w64 (j - 1)).toNat * 3, none⟩), .agg (e110Dn q).toArray, .slice ao1 f.length cap2, i6 j, .pointer (some ⟨aA, j.toNat * 3, none⟩), .agg (e110Dn N).toArray, .pointer (some ⟨aH, j.toNat * 3, none⟩), aZ, .own tyJob 110 ao1 cap2 (f.set j.toNat q), af, hFx.reg, mC.perm lpr, kf, kf, bl, bm, bD, kf, kf, kf, kf, kf, kf, kf, kf, kf, kf, (nt I), nu, kf2, (nt W), (fun _ => mA), (fun _ => mB), (fun _ => gg), (nt I)⟩
     ·
      obtain rfl := oj hi
      have P := hpre 15 (by kernel_rfl)
      have O := hpre 14 (by kernel_rfl)
      have H := hpre 13 (by kernel_rfl)
      have l := hpre 12 (by kernel_rfl)
      have m := hpre 11 (by kernel_rfl)
      have y := hpre 10 (by kernel_rfl)
      have d := hpre 9 (by kernel_rfl)
      have p := hpre 8 (by kernel_rfl)
      have z := hpre 7 (by kernel_rfl)
      have E := hpre 6 (by kernel_rfl)
      have n := hpre 5 (by kernel_rfl)
      have F := hpre 4 (by kernel_rfl)
      have L := hpre 3 (by kernel_rfl)
      have ab := hpre 2 (by kernel_rfl)
      have X := hpre 1 (by kernel_rfl)
      have ac := hpre 0 (by kernel_rfl)
      have I := hSi
      have W := ngF hcl 17 16 I
      obtain rfl := bj ac
      obtain rfl := bk X
      obtain rfl := bl ab
      obtain rfl := bm L
      obtain rfl := bD F
      obtain rfl := bn n
      obtain rfl := bo E
      obtain rfl := bE z
      obtain rfl := b6 p
      obtain rfl := ci d
      obtain rfl := bp y
      obtain rfl := bq m
      obtain rfl := bV l
      obtain rfl := b7 H
      obtain rfl := da O
      obtain rfl := cr P W
      refine hG (any_step ?_); clear hG G; intro A J hJ
      have c := Fz.le.trans c af
      have mD := R p
      have mE := Q l
      have mF := bN O
      have bF : (f.set j.toNat q).length = f.length := by simp; try omega
      have gh : Fr 220 [] [⟨0, [], .slice ao1 (f.set j.toNat q).length cap2⟩, ⟨14, [], i6 b3⟩, ⟨17, [], i6 j⟩, ⟨113, [], .slice ao1 (f.set j.toNat q).length cap2⟩, ⟨114, [], i6 j⟩, ⟨115, [], .slice ao1 (f.set j.toNat q).length cap2⟩, ⟨116, [], i6 j⟩, ⟨117, [], i6 (w64 (j - 1))⟩, ⟨118, [], .slice ao1 (f.set j.toNat q).length cap2⟩, ⟨119, [], i6 j⟩, ⟨120, [], i6 (w64 (j - 1))⟩, ⟨121, [], .pointer (some ⟨az, (w64 (j - 1)).toNat * 3, none⟩)⟩, ⟨122, [], .agg (e110Dn q).toArray⟩, ⟨123, [], .slice ao1 (f.set j.toNat q).length cap2⟩, ⟨124, [], i6 j⟩, ⟨125, [], .pointer (some ⟨aA, j.toNat * 3, none⟩)⟩, ⟨126, [], .agg (e110Dn N).toArray⟩, ⟨127, [], .pointer (some ⟨aH, j.toNat * 3, none⟩)⟩, ⟨128, [], aZ⟩] a := by rw [bF]; exact hFx.reg
      clear hFx
      refine ixo gh hMx 0 (T := tyJob) (xs := f.set j.toNat q) (w64 (j - 1)) (by simpa only [List.length_set] using er) (k := .i64) (e := 110) (bytes := 24) (nog rfl _) rfl (by kernel_rfl) rfl (by kernel_rfl) (by kernel_rfl) rfl (by kernel_rfl) ?_; intro gi tm mG gj; clear gh
      refine nl (qnI (hJ _ _ ?_)); clear hJ J
      rw [bF] at gj
      exact ⟨az, aA, aH, gi, .slice ao1 f.length cap2, i6 j, .slice ao1 f.length cap2, i6 j, i6 (w64 (j - 1)), .slice ao1 f.length cap2, i6 j, i6 (w64 (j - 1)), .pointer (some ⟨az, (w64 (j - 1)).toNat * 3, none⟩), .agg (e110Dn q).toArray, .slice ao1 f.length cap2, i6 j, .pointer (some ⟨aA, j.toNat * 3, none⟩), .agg (e110Dn N).toArray, .pointer (some ⟨aH, j.toNat * 3, none⟩), .pointer (some ⟨gi, (w64 (j - 1)).toNat * 3, none⟩), .own tyJob 110 ao1 cap2 (f.set j.toNat q), af, gj.reg, hMx.perm lpr, (fun _ => by first | rfl | rw [bF]), (fun _ => by first | rfl | rw [bF]), (fun _ => by first | rfl | rw [bF]), (fun _ => by first | rfl | rw [bF]), (fun _ => by first | rfl | rw [bF]), (fun _ => by first | rfl | rw [bF]), (fun _ => by first | rfl | rw [bF]), (fun _ => by first | rfl | rw [bF]), (fun _ => by first | rfl | rw [bF]), (fun _ => by first | rfl | rw [bF]), (fun _ => by first | rfl | rw [bF]), (fun _ => by first | rfl | rw [bF]), (fun _ => by first | rfl | rw [bF]), (fun _ => by first | rfl | rw [bF]), (fun _ => by first | rfl | rw [bF]), (fun _ => by first | rfl | rw [bF]), (tn P), kf2, (nt W), (fun _ => mD), (fun _ => mE), (fun _ => mF), (fun _ => mG)⟩
     obtain rfl := oj hi
     have I := hpre 16 (by kernel_rfl)
     have P := hpre 15 (by kernel_rfl)
     have O := hpre 14 (by kernel_rfl)
     have H := hpre 13 (by kernel_rfl)
     have l := hpre 12 (by kernel_rfl)
     have m := hpre 11 (by kernel_rfl)
     have y := hpre 10 (by kernel_rfl)
     have d := hpre 9 (by kernel_rfl)
     have p := hpre 8 (by kernel_rfl)
     have z := hpre 7 (by kernel_rfl)
     have E := hpre 6 (by kernel_rfl)
     have n := hpre 5 (by kernel_rfl)
     have F := hpre 4 (by kernel_rfl)
     have L := hpre 3 (by kernel_rfl)
     have ab := hpre 2 (by kernel_rfl)
     have X := hpre 1 (by kernel_rfl)
     have ac := hpre 0 (by kernel_rfl)
     have W := hSi
     obtain rfl := bj ac
     obtain rfl := bk X
     obtain rfl := bl ab
     obtain rfl := bm L
     obtain rfl := bD F
     obtain rfl := bn n
     obtain rfl := bo E
     obtain rfl := bE z
     obtain rfl := b6 p
     obtain rfl := ci d
     obtain rfl := bp y
     obtain rfl := bq m
     obtain rfl := bV l
     obtain rfl := b7 H
     obtain rfl := da O
     obtain rfl := eG I
     obtain rfl := cr P W
     refine hG (any_step ?_); clear hG G; intro A J hJ
     have c := Fz.le.trans c af
     have mH := R p
     have mI := Q l
     have mJ := bN O
     have gk := db I
     have bG : (f.set j.toNat q).length = f.length := by simp; try omega
     have eH : Fr 220 [] [⟨0, [], .slice ao1 (f.set j.toNat q).length cap2⟩, ⟨14, [], i6 b3⟩, ⟨17, [], i6 j⟩, ⟨113, [], .slice ao1 (f.set j.toNat q).length cap2⟩, ⟨114, [], i6 j⟩, ⟨115, [], .slice ao1 (f.set j.toNat q).length cap2⟩, ⟨116, [], i6 j⟩, ⟨117, [], i6 (w64 (j - 1))⟩, ⟨118, [], .slice ao1 (f.set j.toNat q).length cap2⟩, ⟨119, [], i6 j⟩, ⟨120, [], i6 (w64 (j - 1))⟩, ⟨121, [], .pointer (some ⟨az, (w64 (j - 1)).toNat * 3, none⟩)⟩, ⟨122, [], .agg (e110Dn q).toArray⟩, ⟨123, [], .slice ao1 (f.set j.toNat q).length cap2⟩, ⟨124, [], i6 j⟩, ⟨125, [], .pointer (some ⟨aA, j.toNat * 3, none⟩)⟩, ⟨126, [], .agg (e110Dn N).toArray⟩, ⟨127, [], .pointer (some ⟨aH, j.toNat * 3, none⟩)⟩, ⟨128, [], .pointer (some ⟨aU, (w64 (j - 1)).toNat * 3, none⟩)⟩] a := by rw [bG]; exact hFx.reg
     clear hFx
     refine sox eH hMx 0 gk (T := tyJob) (xs := f.set j.toNat q) (w64 (j - 1)).toNat N (u := .agg (e110Dn N).toArray) (nog rfl _) rfl rfl (by kernel_rfl) rfl (by kernel_rfl) rfl (by kernel_rfl) (by first | omega | (simp only [List.length_set] at *; omega)) rfl ?_; intro tp mK; clear hMx
     refine nl (qnI (hJ _ _ ?_)); clear hJ J
     rw [bG] at eH
     exact ⟨az, aA, aH, aU, .slice ao1 f.length cap2, i6 j, .slice ao1 f.length cap2, i6 j, i6 (w64 (j - 1)), .slice ao1 f.length cap2, i6 j, i6 (w64 (j - 1)), .pointer (some ⟨az, (w64 (j - 1)).toNat * 3, none⟩), .agg (e110Dn q).toArray, .slice ao1 f.length cap2, i6 j, .pointer (some ⟨aA, j.toNat * 3, none⟩), .agg (e110Dn N).toArray, .pointer (some ⟨aH, j.toNat * 3, none⟩), .pointer (some ⟨aU, (w64 (j - 1)).toNat * 3, none⟩), .own tyJob 110 ao1 cap2 ((f.set j.toNat q).set (w64 (j - 1)).toNat N), af, eH.reg, mK.perm lpr, (fun _ => by first | rfl | rw [bG]), (fun _ => by first | rfl | rw [bG]), (fun _ => by first | rfl | rw [bG]), (fun _ => by first | rfl | rw [bG]), (fun _ => by first | rfl | rw [bG]), (fun _ => by first | rfl | rw [bG]), (fun _ => by first | rfl | rw [bG]), (fun _ => by first | rfl | rw [bG]), (fun _ => by first | rfl | rw [bG]), (fun _ => by first | rfl | rw [bG]), (fun _ => by first | rfl | rw [bG]), (fun _ => by first | rfl | rw [bG]), (fun _ => by first | rfl | rw [bG]), (fun _ => by first | rfl | rw [bG]), (fun _ => by first | rfl | rw [bG]), (fun _ => by first | rfl | rw [bG]), (tn P), (fun _ => nu), kf, (fun _ => mH), (fun _ => mI), (fun _ => mJ), (fun _ => gk)⟩
    case hE =>
     intro S hS gl tq hI; refine Go.Sy.hid ?_; intro G hG; obtain ⟨az, aA, aH, aU, bR, bS, bh, bB, bi, ce, cp, cf, b4, bT, cg, ch, b5, bU, bC, aZ, ad, af, hFx, hMx, bj, bk, bl, bm, bD, bn, bo, bE, b6, ci, bp, bq, bV, b7, da, eG, M, cr, dj, R, Q, bN, hI⟩ := hI; have db := hI; clear hI; refine hG ?_; clear hG G
     obtain rfl := bj (hS 0 (by decide))
     obtain rfl := bk (hS 1 (by decide))
     obtain rfl := bl (hS 2 (by decide))
     obtain rfl := bm (hS 3 (by decide))
     obtain rfl := bD (hS 4 (by decide))
     obtain rfl := bn (hS 5 (by decide))
     obtain rfl := bo (hS 6 (by decide))
     obtain rfl := bE (hS 7 (by decide))
     obtain rfl := b6 (hS 8 (by decide))
     obtain rfl := ci (hS 9 (by decide))
     obtain rfl := bp (hS 10 (by decide))
     obtain rfl := bq (hS 11 (by decide))
     obtain rfl := bV (hS 12 (by decide))
     obtain rfl := b7 (hS 13 (by decide))
     obtain rfl := da (hS 14 (by decide))
     obtain rfl := eG (hS 16 (by decide))
     obtain rfl := dj (hS 17 (by decide))
     have c := Fz.le.trans c af
     have tr := R (hS 8 (by decide))
     have ts := Q (hS 12 (by decide))
     have tt := bN (hS 14 (by decide))
     have tu := db (hS 16 (by decide))
     have mL : ((f.set j.toNat q).set (w64 (j - 1)).toNat N).length = f.length := by simp; try omega
     have gm : Fr 220 [] [⟨0, [], .slice ao1 ((f.set j.toNat q).set (w64 (j - 1)).toNat N).length cap2⟩, ⟨14, [], i6 b3⟩, ⟨17, [], i6 j⟩, ⟨113, [], .slice ao1 ((f.set j.toNat q).set (w64 (j - 1)).toNat N).length cap2⟩, ⟨114, [], i6 j⟩, ⟨115, [], .slice ao1 ((f.set j.toNat q).set (w64 (j - 1)).toNat N).length cap2⟩, ⟨116, [], i6 j⟩, ⟨117, [], i6 (w64 (j - 1))⟩, ⟨118, [], .slice ao1 ((f.set j.toNat q).set (w64 (j - 1)).toNat N).length cap2⟩, ⟨119, [], i6 j⟩, ⟨120, [], i6 (w64 (j - 1))⟩, ⟨121, [], .pointer (some ⟨az, (w64 (j - 1)).toNat * 3, none⟩)⟩, ⟨122, [], .agg (e110Dn q).toArray⟩, ⟨123, [], .slice ao1 ((f.set j.toNat q).set (w64 (j - 1)).toNat N).length cap2⟩, ⟨124, [], i6 j⟩, ⟨125, [], .pointer (some ⟨aA, j.toNat * 3, none⟩)⟩, ⟨126, [], .agg (e110Dn N).toArray⟩, ⟨127, [], .pointer (some ⟨aH, j.toNat * 3, none⟩)⟩, ⟨128, [], .pointer (some ⟨aU, (w64 (j - 1)).toNat * 3, none⟩)⟩] gl := by rw [mL]; exact hFx.reg
     clear hFx
     refine ibn ?_
     refine thn ?_
     have gn : Fr 220 [] [⟨0, [], .slice ao1 ((f.set j.toNat q).set (w64 (j - 1)).toNat N).length cap2⟩, ⟨14, [], i6 b3⟩, ⟨17, [], i6 j⟩] gl := gm.reg; clear gm
     refine rgB gn hMx [] [] [(17, i6 (w64 (j - 1)))] ?_; intro tv mM; clear gn
     refine rd ?_
     exact ⟨⟨w64 (j - 1), (f.set j.toNat q).set (w64 (j - 1)).toNat N⟩, ga.1, ga.2, (mM.reg).anyβ _ (by kernel_rfl), hMx.keep (List.Sublist.cons_cons _ (List.Sublist.refl _))⟩
   have mN := dM.2 eF; clear dM
   refine wp_exit ?_
   refine thx ?_
   refine thx ?_
   refine ibx ?_
   refine thn ?_
   refine wp_ret ?_
   refine thr ?_
   obtain ⟨mO, mP⟩ := mN
   refine rt (fn := Try.f112) (v := .tuple #[]) dl (re0 dl (fn := Try.f112) rfl) ?_
   exact ⟨f, Z, rfl, mP, c, mO, eE.keep (List.Sublist.cons_cons _ (List.Sublist.refl _))⟩
  refine wp_block ?_
  have go : Fr 220 [] [⟨0, [], .slice ao1 u0.length cap2⟩, ⟨2, [], i6 u2⟩, ⟨4, [], .func (.func fid3) #[] caps4⟩, ⟨14, [], i6 u1⟩, ⟨15, [], i6 u2⟩] dL := eC.reg; clear eC
  have gp : Fr 220 [] [⟨0, [], .slice ao1 u0.length cap2⟩, ⟨2, [], i6 u2⟩, ⟨4, [], .func (.func fid3) #[] caps4⟩, ⟨14, [], i6 u1⟩, ⟨15, [], i6 u2⟩] dL := go.reg; clear go
  obtain ⟨mQ, mR, mS, mT⟩ := lC
  refine lp (ι := Int × Int) (fun s => [⟨0, [], .slice ao1 u0.length cap2⟩, ⟨2, [], i6 u2⟩, ⟨4, [], .func (.func fid3) #[] caps4⟩, ⟨14, [], i6 s.1⟩, ⟨15, [], i6 s.2⟩]) (fun s => ((.own tyJob 110 ao1 cap2 u0) :: Rr)) (fun s => Z) (fun s => mQ s.1 s.2) (fun s => mR s.1 s.2) ⟨u1, u2⟩ mS (by exact gp.reg) (by exact hM0) ?_
  rintro ⟨ah, ai⟩ mU mV mW gq gr
  have gs : Fr 220 [] [⟨0, [], .slice ao1 u0.length cap2⟩, ⟨2, [], i6 u2⟩, ⟨4, [], .func (.func fid3) #[] caps4⟩, ⟨14, [], i6 ah⟩, ⟨15, [], i6 ai⟩] mV := gq; clear gq gp
  have dN : Mem B [] w0 Z0 ((.own tyJob 110 ao1 cap2 u0) :: Rr) Z mW := gr; clear gr hM0
  have dO := mT ah ai mU
  refine wp_seq ?_
  refine sqB gs dN [] [] [(85, .bool (decide (ah < ai)))] ?_; intro tw dP; clear gs
  refine cd dP (t := decide (ah < ai)) (by kernel_rfl) (fun eI => ?_) (fun eI => ?_)
  ·
   have mX := dO.1 eI; clear dO
   refine wp_skip ?_
   refine thn ?_
   refine wp_block ?_
   refine sqB dP dN [] [] [(16, i6 (w64 (bShr .u64 (wu64 (w64 (ah + ai))) 1)))] ?_; intro ct gt; clear dP
   have mY : Fr 220 [] [⟨0, [], .slice ao1 u0.length cap2⟩, ⟨2, [], i6 u2⟩, ⟨4, [], .func (.func fid3) #[] caps4⟩, ⟨14, [], i6 ah⟩, ⟨15, [], i6 ai⟩, ⟨16, [], i6 (w64 (bShr .u64 (wu64 (w64 (ah + ai))) 1))⟩] ct := gt.reg; clear gt
   obtain ⟨ev, gu⟩ := mX
   obtain ⟨Y, ew, mZ⟩ := gxq gu (by omega); clear gu
   obtain ⟨ex, gv⟩ := mZ
   obtain ⟨aa, ey, dQ⟩ := gxq gv (by omega); clear gv
   refine wp_seq (any_invE mixed [[], [], [], [1, 2], [3], [], [], [5, 6], [7], [0, 4, 8], [9], [10]] 12 (fun S a w1 => ∃ (br : Nat) (bs : Nat) (cJ : Value) (c0 : Value) (c1 : Value) (cQ : Value) (cK : Value) (c2 : Value) (c3 : Value) (cR : Value) (cL : Value) (cu : Value) (cq : Value) (cj : Value) (ad : Res), Fz.le Z Z ∧ Fr 220 [] [⟨0, [], .slice ao1 u0.length cap2⟩, ⟨2, [], i6 u2⟩, ⟨4, [], .func (.func fid3) #[] caps4⟩, ⟨14, [], i6 ah⟩, ⟨15, [], i6 ai⟩, ⟨16, [], i6 (w64 (bShr .u64 (wu64 (w64 (ah + ai))) 1))⟩, ⟨92, [], cJ⟩, ⟨93, [], c0⟩, ⟨94, [], c1⟩, ⟨95, [], cQ⟩, ⟨96, [], cK⟩, ⟨97, [], c2⟩, ⟨98, [], c3⟩, ⟨99, [], cR⟩, ⟨100, [], cL⟩, ⟨101, [], cu⟩, ⟨102, [], cq⟩, ⟨103, [], cj⟩] a ∧ Mem B [] w0 Z0 (ad :: Rr) Z w1 ∧ (S 0 = true → cJ = .func (.func fid3) #[] caps4) ∧ (S 1 = true → c0 = .slice ao1 u0.length cap2) ∧ (S 2 = true → c1 = i6 u2) ∧ (S 3 = true → cQ = .pointer (some ⟨br, u2.toNat * 3, none⟩)) ∧ (S 4 = true → cK = .agg (e110Dn Y).toArray) ∧ (S 5 = true → c2 = .slice ao1 u0.length cap2) ∧ (S 6 = true → c3 = i6 (w64 (bShr .u64 (wu64 (w64 (ah + ai))) 1))) ∧ (S 7 = true → cR = .pointer (some ⟨bs, (w64 (bShr .u64 (wu64 (w64 (ah + ai))) 1)).toNat * 3, none⟩)) ∧ (S 8 = true → cL = .agg (e110Dn aa).toArray) ∧ (S 9 = true → cu = i6 (u4 Y aa)) ∧ (S 10 = true → cq = .bool (decide ((u4 Y aa) < 0))) ∧ (S 11 = true → cj = .bool (!(decide ((u4 Y aa) < 0)))) ∧ (ad = .own tyJob 110 ao1 cap2 u0) ∧ (S 3 = true → ao1 = some ⟨br, 0, none⟩) ∧ (S 7 = true → ao1 = some ⟨bs, 0, none⟩)) ?h0 ?hs ?hE)
   case h0 =>
    have m0 := mY.any 92
    have m1 := m0.any 93
    have m2 := m1.any 94
    have m3 := m2.any 95
    have m4 := m3.any 96
    have m5 := m4.any 97
    have m6 := m5.any 98
    have m7 := m6.any 99
    have m8 := m7.any 100
    have m9 := m8.any 101
    have na := m9.any 102
    have nb := na.any 103
    have nc := (dN.perm lpr).drew
    exact ⟨0, 0, ct.tmps.getD 92 undef, ct.tmps.getD 93 undef, ct.tmps.getD 94 undef, ct.tmps.getD 95 undef, ct.tmps.getD 96 undef, ct.tmps.getD 97 undef, ct.tmps.getD 98 undef, ct.tmps.getD 99 undef, ct.tmps.getD 100 undef, ct.tmps.getD 101 undef, ct.tmps.getD 102 undef, ct.tmps.getD 103 undef, .own tyJob 110 ao1 cap2 u0, Fz.le.refl _, nb.reg, nc, ff, ff, ff, ff, ff, ff, ff, ff, ff, ff, ff, ff, rfl, ff, ff⟩
   case hs =>
    intro S hcl i o hil hi hSi hpre a w1 hI; refine Go.Sy.hid ?_; intro G hG; obtain ⟨br, bs, cJ, c0, c1, cQ, cK, c2, c3, cR, cL, cu, cq, cj, ad, aM, hFx, hMx, cv, cw, cx, cS, c4, cy, cz, cT, c5, dR, eJ, gw, M, R, hI⟩ := hI; have Q := hI; clear hI
    have hcase : i = 0 ∨ i = 1 ∨ i = 2 ∨ i = 3 ∨ i = 4 ∨ i = 5 ∨ i = 6 ∨ i = 7 ∨ i = 8 ∨ i = 9 ∨ i = 10 ∨ i = 11 := by clear hi; omega
    rcases hcase with rfl | rfl | rfl | rfl | rfl | rfl | rfl | rfl | rfl | rfl | rfl | rfl
    ·
     obtain rfl := oj hi
     have ac := hSi
     have d := ngF hcl 9 0 ac
     have y := ngF hcl 10 9 d
     have m := ngF hcl 11 10 y
     obtain rfl := M
     refine hG (any_step ?_); clear hG G; intro A J hJ
     have c := Fz.le.trans c aM
     refine s1 hFx 92 (.func (.func fid3) #[] caps4) ?_; intro tx nd; clear hFx
     refine nl (qnI (hJ _ _ ?_)); clear hJ J
     exact ⟨br, bs, .func (.func fid3) #[] caps4, c0, c1, cQ, cK, c2, c3, cR, cL, cu, cq, cj, .own tyJob 110 ao1 cap2 u0, aM, nd.reg, hMx.perm lpr, kf, cw, cx, cS, c4, cy, cz, cT, c5, (nt d), (nt y), (nt m), rfl, R, Q⟩
    ·
     obtain rfl := oj hi
     have X := hSi
     have L := ngF hcl 3 1 X
     have F := ngF hcl 4 3 L
     have d := ngF hcl 9 4 F
     have y := ngF hcl 10 9 d
     have m := ngF hcl 11 10 y
     obtain rfl := M
     refine hG (any_step ?_); clear hG G; intro A J hJ
     have c := Fz.le.trans c aM
     refine s1 hFx 93 (.slice ao1 u0.length cap2) ?_; intro ty ne; clear hFx
     refine nl (qnI (hJ _ _ ?_)); clear hJ J
     exact ⟨br, bs, cJ, .slice ao1 u0.length cap2, c1, cQ, cK, c2, c3, cR, cL, cu, cq, cj, .own tyJob 110 ao1 cap2 u0, aM, ne.reg, hMx.perm lpr, cv, kf, cx, (nt L), (nt F), cy, cz, cT, c5, (nt d), (nt y), (nt m), rfl, (nt L), Q⟩
    ·
     obtain rfl := oj hi
     have ab := hSi
     have L := ngF hcl 3 2 ab
     have F := ngF hcl 4 3 L
     have d := ngF hcl 9 4 F
     have y := ngF hcl 10 9 d
     have m := ngF hcl 11 10 y
     obtain rfl := M
     refine hG (any_step ?_); clear hG G; intro A J hJ
     have c := Fz.le.trans c aM
     refine s1 hFx 94 (i6 u2) ?_; intro tz nf; clear hFx
     refine nl (qnI (hJ _ _ ?_)); clear hJ J
     exact ⟨br, bs, cJ, c0, i6 u2, cQ, cK, c2, c3, cR, cL, cu, cq, cj, .own tyJob 110 ao1 cap2 u0, aM, nf.reg, hMx.perm lpr, cv, cw, kf, (nt L), (nt F), cy, cz, cT, c5, (nt d), (nt y), (nt m), rfl, (nt L), Q⟩
    ·
     obtain rfl := oj hi
     have ab := hpre 2 (by kernel_rfl)
     have X := hpre 1 (by kernel_rfl)
     have L := hSi
     have F := ngF hcl 4 3 L
     have d := ngF hcl 9 4 F
     have y := ngF hcl 10 9 d
     have m := ngF hcl 11 10 y
     obtain rfl := cw X
     obtain rfl := cx ab
     obtain rfl := M
     refine hG (any_step ?_); clear hG G; intro A J hJ
     have c := Fz.le.trans c aM
     refine ixo hFx hMx 0 (T := tyJob) (xs := u0) u2 (by simpa only [List.length_set] using ev) (k := .i64) (e := 110) (bytes := 24) (nog rfl _) rfl (by kernel_rfl) rfl (by kernel_rfl) (by kernel_rfl) rfl (by kernel_rfl) ?_; intro gx tA ng nh; clear hFx
     refine nl (qnI (hJ _ _ ?_)); clear hJ J
     exact ⟨gx, bs, cJ, .slice ao1 u0.length cap2, i6 u2, .pointer (some ⟨gx, u2.toNat * 3, none⟩), cK, c2, c3, cR, cL, cu, cq, cj, .own tyJob 110 ao1 cap2 u0, aM, nh.reg, hMx.perm lpr, cv, kf, kf, kf, (nt F), cy, cz, cT, c5, (nt d), (nt y), (nt m), rfl, (fun _ => ng), Q⟩
    ·
     obtain rfl := oj hi
     have L := hpre 3 (by kernel_rfl)
     have ab := hcl 3 2 (by kernel_rfl) L
     have X := hcl 3 1 (by kernel_rfl) L
     have F := hSi
     have d := ngF hcl 9 4 F
     have y := ngF hcl 10 9 d
     have m := ngF hcl 11 10 y
     obtain rfl := cw X
     obtain rfl := cx ab
     obtain rfl := cS L
     obtain rfl := M
     refine hG (any_step ?_); clear hG G; intro A J hJ
     have c := Fz.le.trans c aM
     have gy := R L
     obtain ⟨ni, nj, nk⟩ := own_elx hMx 0 (T := tyJob) (xs := u0) rfl gy u2.toNat ew
     obtain rfl : ni = ((e110Dn Y) : List Value) := nj
     refine lc2 hFx 96 3 (e110Dn Y) nk rfl ?_; intro tB nm; clear hFx
     refine nl (qnI (hJ _ _ ?_)); clear hJ J
     exact ⟨br, bs, cJ, .slice ao1 u0.length cap2, i6 u2, .pointer (some ⟨br, u2.toNat * 3, none⟩), .agg (e110Dn Y).toArray, c2, c3, cR, cL, cu, cq, cj, .own tyJob 110 ao1 cap2 u0, aM, nm.reg, hMx.perm lpr, cv, kf, kf, kf, kf, cy, cz, cT, c5, (nt d), (nt y), (nt m), rfl, (fun _ => gy), Q⟩
    ·
     obtain rfl := oj hi
     have n := hSi
     have z := ngF hcl 7 5 n
     have p := ngF hcl 8 7 z
     have d := ngF hcl 9 8 p
     have y := ngF hcl 10 9 d
     have m := ngF hcl 11 10 y
     obtain rfl := M
     refine hG (any_step ?_); clear hG G; intro A J hJ
     have c := Fz.le.trans c aM
     refine s1 hFx 97 (.slice ao1 u0.length cap2) ?_; intro tC nn; clear hFx
     refine nl (qnI (hJ _ _ ?_)); clear hJ J
     exact ⟨br, bs, cJ, c0, c1, cQ, cK, .slice ao1 u0.length cap2, c3, cR, cL, cu, cq, cj, .own tyJob 110 ao1 cap2 u0, aM, nn.reg, hMx.perm lpr, cv, cw, cx, cS, c4, kf, cz, (nt z), (nt p), (nt d), (nt y), (nt m), rfl, R, (nt z)⟩
    ·
     obtain rfl := oj hi
     have E := hSi
     have z := ngF hcl 7 6 E
     have p := ngF hcl 8 7 z
     have d := ngF hcl 9 8 p
     have y := ngF hcl 10 9 d
     have m := ngF hcl 11 10 y
     obtain rfl := M
     refine hG (any_step ?_); clear hG G; intro A J hJ
     have c := Fz.le.trans c aM
     refine s1 hFx 98 (i6 (w64 (bShr .u64 (wu64 (w64 (ah + ai))) 1))) ?_; intro tD no; clear hFx
     refine nl (qnI (hJ _ _ ?_)); clear hJ J
     exact ⟨br, bs, cJ, c0, c1, cQ, cK, c2, i6 (w64 (bShr .u64 (wu64 (w64 (ah + ai))) 1)), cR, cL, cu, cq, cj, .own tyJob 110 ao1 cap2 u0, aM, no.reg, hMx.perm lpr, cv, cw, cx, cS, c4, cy, kf, (nt z), (nt p), (nt d), (nt y), (nt m), rfl, R, (nt z)⟩
    ·
     obtain rfl := oj hi
     have E := hpre 6 (by kernel_rfl)
     have n := hpre 5 (by kernel_rfl)
     have z := hSi
     have p := ngF hcl 8 7 z
     have d := ngF hcl 9 8 p
     have y := ngF hcl 10 9 d
     have m := ngF hcl 11 10 y
     obtain rfl := cy n
     obtain rfl := cz E
     obtain rfl := M
     refine hG (any_step ?_); clear hG G; intro A J hJ
     have c := Fz.le.trans c aM
     refine ixo hFx hMx 0 (T := tyJob) (xs := u0) (w64 (bShr .u64 (wu64 (w64 (ah + ai))) 1)) (by simpa only [List.length_set] using ex) (k := .i64) (e := 110) (bytes := 24) (nog rfl _) rfl (by kernel_rfl) rfl (by kernel_rfl) (by kernel_rfl) rfl (by kernel_rfl) ?_; intro gz tE np nq; clear hFx
     refine nl (qnI (hJ _ _ ?_)); clear hJ J
     exact ⟨br, gz, cJ, c0, c1, cQ, cK, .slice ao1 u0.length cap2, i6 (w64 (bShr .u64 (wu64 (w64 (ah + ai))) 1)), .pointer (some ⟨gz, (w64 (bShr .u64 (wu64 (w64 (ah + ai))) 1)).toNat * 3, none⟩), cL, cu, cq, cj, .own tyJob 110 ao1 cap2 u0, aM, nq.reg, hMx.perm lpr, cv, cw, cx, cS, c4, kf, kf, kf, (nt p), (nt d), (nt y), (nt m), rfl, R, (fun _ => np)⟩
    ·
     obtain rfl := oj hi
     have z := hpre 7 (by kernel_rfl)
     have E := hcl 7 6 (by kernel_rfl) z
     have n := hcl 7 5 (by kernel_rfl) z
     have p := hSi
     have d := ngF hcl 9 8 p
     have y := ngF hcl 10 9 d
     have m := ngF hcl 11 10 y
     obtain rfl := cy n
     obtain rfl := cz E
     obtain rfl := cT z
     obtain rfl := M
     refine hG (any_step ?_); clear hG G; intro A J hJ
     have c := Fz.le.trans c aM
     have gA := Q z
     obtain ⟨nr, ns, nv⟩ := own_elx hMx 0 (T := tyJob) (xs := u0) rfl gA (w64 (bShr .u64 (wu64 (w64 (ah + ai))) 1)).toNat ey
     obtain rfl : nr = ((e110Dn aa) : List Value) := ns
     refine lc2 hFx 100 3 (e110Dn aa) nv rfl ?_; intro tF nw; clear hFx
     refine nl (qnI (hJ _ _ ?_)); clear hJ J
     exact ⟨br, bs, cJ, c0, c1, cQ, cK, .slice ao1 u0.length cap2, i6 (w64 (bShr .u64 (wu64 (w64 (ah + ai))) 1)), .pointer (some ⟨bs, (w64 (bShr .u64 (wu64 (w64 (ah + ai))) 1)).toNat * 3, none⟩), .agg (e110Dn aa).toArray, cu, cq, cj, .own tyJob 110 ao1 cap2 u0, aM, nw.reg, hMx.perm lpr, cv, cw, cx, cS, c4, kf, kf, kf, kf, (nt d), (nt y), (nt m), rfl, R, (fun _ => gA)⟩
    ·
     obtain rfl := oj hi
     have p := hpre 8 (by kernel_rfl)
     have F := hpre 4 (by kernel_rfl)
     have ac := hpre 0 (by kernel_rfl)
     have z := hcl 8 7 (by kernel_rfl) p
     have L := hcl 4 3 (by kernel_rfl) F
     have E := hcl 7 6 (by kernel_rfl) z
     have n := hcl 7 5 (by kernel_rfl) z
     have ab := hcl 3 2 (by kernel_rfl) L
     have X := hcl 3 1 (by kernel_rfl) L
     have d := hSi
     have y := ngF hcl 10 9 d
     have m := ngF hcl 11 10 y
     obtain rfl := cv ac
     obtain rfl := cw X
     obtain rfl := cx ab
     obtain rfl := cS L
     obtain rfl := c4 F
     obtain rfl := cy n
     obtain rfl := cz E
     obtain rfl := cT z
     obtain rfl := c5 p
     obtain rfl := M
     refine hG (any_step ?_); clear hG G; intro A J hJ
     have c := Fz.le.trans c aM
     have nx := R L
     have ny := Q z
     have nz := hf5 _ _ c hMx.fz Y aa
     refine fcl hFx hMx (i6 (u4 Y aa)) fid3 (#[.agg (e110Dn Y).toArray, .agg (e110Dn aa).toArray] ++ caps4) (nog rfl _) rfl (by kernel_rfl) ?h1 ?h2 ?_
     case h1 => exact fv_run rfl (by kernel_rfl) (by kernel_rfl) hg6
     case h2 => exact nz
     intro tG tH nA nB; clear hFx hMx
     refine nl (qnI (hJ _ _ ?_)); clear hJ J
     exact ⟨br, bs, .func (.func fid3) #[] caps4, .slice ao1 u0.length cap2, i6 u2, .pointer (some ⟨br, u2.toNat * 3, none⟩), .agg (e110Dn Y).toArray, .slice ao1 u0.length cap2, i6 (w64 (bShr .u64 (wu64 (w64 (ah + ai))) 1)), .pointer (some ⟨bs, (w64 (bShr .u64 (wu64 (w64 (ah + ai))) 1)).toNat * 3, none⟩), .agg (e110Dn aa).toArray, i6 (u4 Y aa), cq, cj, .own tyJob 110 ao1 cap2 u0, aM, nA.reg, nB.perm lpr, kf, kf, kf, kf, kf, kf, kf, kf, kf, kf, (nt y), (nt m), rfl, (fun _ => nx), (fun _ => ny)⟩
    ·
     obtain rfl := oj hi
     have d := hpre 9 (by kernel_rfl)
     have p := hcl 9 8 (by kernel_rfl) d
     have F := hcl 9 4 (by kernel_rfl) d
     have ac := hcl 9 0 (by kernel_rfl) d
     have z := hcl 8 7 (by kernel_rfl) p
     have L := hcl 4 3 (by kernel_rfl) F
     have E := hcl 7 6 (by kernel_rfl) z
     have n := hcl 7 5 (by kernel_rfl) z
     have ab := hcl 3 2 (by kernel_rfl) L
     have X := hcl 3 1 (by kernel_rfl) L
     have y := hSi
     have m := ngF hcl 11 10 y
     obtain rfl := cv ac
     obtain rfl := cw X
     obtain rfl := cx ab
     obtain rfl := cS L
     obtain rfl := c4 F
     obtain rfl := cy n
     obtain rfl := cz E
     obtain rfl := cT z
     obtain rfl := c5 p
     obtain rfl := dR d
     obtain rfl := M
     refine hG (any_step ?_); clear hG G; intro A J hJ
     have c := Fz.le.trans c aM
     have nC := R L
     have nD := Q z
     refine s1 hFx 102 (.bool (decide ((u4 Y aa) < 0))) ?_; intro tI nE; clear hFx
     refine nl (qnI (hJ _ _ ?_)); clear hJ J
     exact ⟨br, bs, .func (.func fid3) #[] caps4, .slice ao1 u0.length cap2, i6 u2, .pointer (some ⟨br, u2.toNat * 3, none⟩), .agg (e110Dn Y).toArray, .slice ao1 u0.length cap2, i6 (w64 (bShr .u64 (wu64 (w64 (ah + ai))) 1)), .pointer (some ⟨bs, (w64 (bShr .u64 (wu64 (w64 (ah + ai))) 1)).toNat * 3, none⟩), .agg (e110Dn aa).toArray, i6 (u4 Y aa), .bool (decide ((u4 Y aa) < 0)), cj, .own tyJob 110 ao1 cap2 u0, aM, nE.reg, hMx.perm lpr, kf, kf, kf, kf, kf, kf, kf, kf, kf, kf, kf, (nt m), rfl, (fun _ => nC), (fun _ => nD)⟩
    obtain rfl := oj hi
    have y := hpre 10 (by kernel_rfl)
    have d := hcl 10 9 (by kernel_rfl) y
    have p := hcl 9 8 (by kernel_rfl) d
    have F := hcl 9 4 (by kernel_rfl) d
    have ac := hcl 9 0 (by kernel_rfl) d
    have z := hcl 8 7 (by kernel_rfl) p
    have L := hcl 4 3 (by kernel_rfl) F
    have E := hcl 7 6 (by kernel_rfl) z
    have n := hcl 7 5 (by kernel_rfl) z
    have ab := hcl 3 2 (by kernel_rfl) L
    have X := hcl 3 1 (by kernel_rfl) L
    have m := hSi
    obtain rfl := cv ac
    obtain rfl := cw X
    obtain rfl := cx ab
    obtain rfl := cS L
    obtain rfl := c4 F
    obtain rfl := cy n
    obtain rfl := cz E
    obtain rfl := cT z
    obtain rfl := c5 p
    obtain rfl := dR d
    obtain rfl := eJ y
    obtain rfl := M
    refine hG (any_step ?_); clear hG G; intro A J hJ
    have c := Fz.le.trans c aM
    have nF := R L
    have nG := Q z
    refine s1 hFx 103 (.bool (!(decide ((u4 Y aa) < 0)))) ?_; intro tJ nH; clear hFx
    refine nl (qnI (hJ _ _ ?_)); clear hJ J
    exact ⟨br, bs, .func (.func fid3) #[] caps4, .slice ao1 u0.length cap2, i6 u2, .pointer (some ⟨br, u2.toNat * 3, none⟩), .agg (e110Dn Y).toArray, .slice ao1 u0.length cap2, i6 (w64 (bShr .u64 (wu64 (w64 (ah + ai))) 1)), .pointer (some ⟨bs, (w64 (bShr .u64 (wu64 (w64 (ah + ai))) 1)).toNat * 3, none⟩), .agg (e110Dn aa).toArray, i6 (u4 Y aa), .bool (decide ((u4 Y aa) < 0)), .bool (!(decide ((u4 Y aa) < 0))), .own tyJob 110 ao1 cap2 u0, aM, nH.reg, hMx.perm lpr, kf, kf, kf, kf, kf, kf, kf, kf, kf, kf, kf, kf, rfl, (fun _ => nF), (fun _ => nG)⟩
   case hE =>
    intro S hS gB tK hI; refine Go.Sy.hid ?_; intro G hG; obtain ⟨br, bs, cJ, c0, c1, cQ, cK, c2, c3, cR, cL, cu, cq, cj, ad, aM, hFx, hMx, cv, cw, cx, cS, c4, cy, cz, cT, c5, dR, eJ, gw, M, R, hI⟩ := hI; have Q := hI; clear hI; refine hG ?_; clear hG G
    obtain rfl := cv (hS 0 (by decide))
    obtain rfl := cw (hS 1 (by decide))
    obtain rfl := cx (hS 2 (by decide))
    obtain rfl := cS (hS 3 (by decide))
    obtain rfl := c4 (hS 4 (by decide))
    obtain rfl := cy (hS 5 (by decide))
    obtain rfl := cz (hS 6 (by decide))
    obtain rfl := cT (hS 7 (by decide))
    obtain rfl := c5 (hS 8 (by decide))
    obtain rfl := dR (hS 9 (by decide))
    obtain rfl := eJ (hS 10 (by decide))
    obtain rfl := gw (hS 11 (by decide))
    obtain rfl := M
    have c := Fz.le.trans c aM
    have tL := R (hS 3 (by decide))
    have tM := Q (hS 7 (by decide))
    refine thn ?_
    refine cd hFx (t := !(decide ((u4 Y aa) < 0))) (by kernel_rfl) (fun eK => ?_) (fun eK => ?_)
    ·
     have gC := dQ.1 eK; clear dQ
     have gD : Fr 220 [] [⟨0, [], .slice ao1 u0.length cap2⟩, ⟨2, [], i6 u2⟩, ⟨4, [], .func (.func fid3) #[] caps4⟩, ⟨15, [], i6 ai⟩, ⟨16, [], i6 (w64 (bShr .u64 (wu64 (w64 (ah + ai))) 1))⟩] gB := hFx.reg; clear hFx
     refine rgB gD hMx [] [] [(14, i6 (w64 ((w64 (bShr .u64 (wu64 (w64 (ah + ai))) 1)) + 1)))] ?_; intro tN nI; clear gD
     refine ibn ?_
     refine rd ?_
     exact ⟨⟨w64 ((w64 (bShr .u64 (wu64 (w64 (ah + ai))) 1)) + 1), ai⟩, gC.1, gC.2, (nI.reg).anyβ _ (by kernel_rfl), hMx.keep (List.Sublist.cons_cons _ (List.Sublist.refl _))⟩
    have gE := dQ.2 eK; clear dQ
    have gF : Fr 220 [] [⟨0, [], .slice ao1 u0.length cap2⟩, ⟨2, [], i6 u2⟩, ⟨4, [], .func (.func fid3) #[] caps4⟩, ⟨14, [], i6 ah⟩, ⟨16, [], i6 (w64 (bShr .u64 (wu64 (w64 (ah + ai))) 1))⟩] gB := hFx.reg; clear hFx
    refine rgB gF hMx [] [] [(15, i6 (w64 (bShr .u64 (wu64 (w64 (ah + ai))) 1)))] ?_; intro tO nJ; clear gF
    refine ibn ?_
    refine rd ?_
    exact ⟨⟨ah, w64 (bShr .u64 (wu64 (w64 (ah + ai))) 1)⟩, gE.1, gE.2, (nJ.reg).anyβ _ (by kernel_rfl), hMx.keep (List.Sublist.cons_cons _ (List.Sublist.refl _))⟩
  have nK := dO.2 eI; clear dO
  refine wp_exit ?_
  refine thx ?_
  refine thx ?_
  refine ibx ?_
  refine rd ?_
  exact lE ah nK _ _ ((dP.reg).anyβ _ (by kernel_rfl)) (dN.keep (List.Sublist.cons_cons _ (List.Sublist.refl _)))
 have dS := dK.2 eB; clear dK
 refine wp_skip ?_
 refine thn ?_
 refine sqB dk hM0 [] [] [(18, i6 (w64 (bShr .u64 (wu64 (w64 (u1 + u3))) 1)))] ?_; intro tP gG; clear dk
 refine sqB gG hM0 [] [] [(19, i6 (w64 ((w64 (bShr .u64 (wu64 (w64 (u1 + u3))) 1)) + u2)))] ?_; intro tQ gH; clear gG
 refine sqB gH hM0 [] [] [] ?_; intro tR gI; clear gH
 refine wp_seq ?_
 refine sqB gI hM0 [] [] [(140, .bool (decide (u2 > (w64 (bShr .u64 (wu64 (w64 (u1 + u3))) 1)))))] ?_; intro tS dm; clear gI
 refine cd dm (t := decide (u2 > (w64 (bShr .u64 (wu64 (w64 (u1 + u3))) 1)))) (by kernel_rfl) (fun eL => ?_) (fun eL => ?_)
 ·
  have nL := dS.1 eL; clear dS
  refine sqB dm hM0 [] [] [(20, i6 (w64 ((w64 ((w64 (bShr .u64 (wu64 (w64 (u1 + u3))) 1)) + u2)) - u3)))] ?_; intro tT gJ; clear dm
  refine rgB gJ hM0 [] [] [(21, i6 (w64 (bShr .u64 (wu64 (w64 (u1 + u3))) 1)))] ?_; intro tU gK; clear gJ
  refine thn ?_
  refine sqB gK hM0 [] [] [(22, i6 (w64 ((w64 ((w64 (bShr .u64 (wu64 (w64 (u1 + u3))) 1)) + u2)) - 1)))] ?_; intro dT gL; clear gK
  have gM : Fr 220 [] [⟨0, [], .slice ao1 u0.length cap2⟩, ⟨1, [], i6 u1⟩, ⟨2, [], i6 u2⟩, ⟨3, [], i6 u3⟩, ⟨4, [], .func (.func fid3) #[] caps4⟩, ⟨18, [], i6 (w64 (bShr .u64 (wu64 (w64 (u1 + u3))) 1))⟩, ⟨19, [], i6 (w64 ((w64 (bShr .u64 (wu64 (w64 (u1 + u3))) 1)) + u2))⟩, ⟨20, [], i6 (w64 ((w64 ((w64 (bShr .u64 (wu64 (w64 (u1 + u3))) 1)) + u2)) - u3))⟩, ⟨21, [], i6 (w64 (bShr .u64 (wu64 (w64 (u1 + u3))) 1))⟩, ⟨22, [], i6 (w64 ((w64 ((w64 (bShr .u64 (wu64 (w64 (u1 + u3))) 1)) + u2)) - 1))⟩] dT := gL.reg; clear gL
  have eM : Fr 220 [] [⟨0, [], .slice ao1 u0.length cap2⟩, ⟨1, [], i6 u1⟩, ⟨2, [], i6 u2⟩, ⟨3, [], i6 u3⟩, ⟨4, [], .func (.func fid3) #[] caps4⟩, ⟨18, [], i6 (w64 (bShr .u64 (wu64 (w64 (u1 + u3))) 1))⟩, ⟨19, [], i6 (w64 ((w64 (bShr .u64 (wu64 (w64 (u1 + u3))) 1)) + u2))⟩, ⟨20, [], i6 (w64 ((w64 ((w64 (bShr .u64 (wu64 (w64 (u1 + u3))) 1)) + u2)) - u3))⟩, ⟨21, [], i6 (w64 (bShr .u64 (wu64 (w64 (u1 + u3))) 1))⟩, ⟨22, [], i6 (w64 ((w64 ((w64 (bShr .u64 (wu64 (w64 (u1 + u3))) 1)) + u2)) - 1))⟩] dT := gM.reg; clear gM
  obtain ⟨nM, nN, nO⟩ := nL
  refine wp_seq_k fun KJ900 hKJ901 => ?_
  have nP : ∀ (b : Int), nM b → ∀ a1 w1, Fr 220 [] [⟨0, [], .slice ao1 u0.length cap2⟩, ⟨1, [], i6 u1⟩, ⟨2, [], i6 u2⟩, ⟨3, [], i6 u3⟩, ⟨4, [], .func (.func fid3) #[] caps4⟩, ⟨18, [], i6 (w64 (bShr .u64 (wu64 (w64 (u1 + u3))) 1))⟩, ⟨19, [], i6 (w64 ((w64 (bShr .u64 (wu64 (w64 (u1 + u3))) 1)) + u2))⟩, ⟨20, [], i6 b⟩] a1 → Mem B [] w0 Z0 ((.own tyJob 110 ao1 cap2 u0) :: Rr) Z w1 → KJ900 a1 w1 := by
   rintro b nQ tV tW gN bW; clear eM hM0
   refine hKJ901 _ _ ?_; clear hKJ901
   have dU := nO b nQ
   refine sqB gN bW [] [] [(24, i6 (w64 ((w64 ((w64 (bShr .u64 (wu64 (w64 (u1 + u3))) 1)) + u2)) - b)))] ?_; intro tX gO; clear gN
   refine wp_seq ?_
   refine sqB gO bW [] [] [(185, .bool ((decide (b < u2)) && (decide (u2 < (w64 ((w64 ((w64 (bShr .u64 (wu64 (w64 (u1 + u3))) 1)) + u2)) - b))))))] ?_; intro tY dn; clear gO
   refine cd dn (t := (decide (b < u2)) && (decide (u2 < (w64 ((w64 ((w64 (bShr .u64 (wu64 (w64 (u1 + u3))) 1)) + u2)) - b))))) (by kernel_rfl) (fun eN => ?_) (fun eN => ?_)
   ·
    have nR := dU.1 eN; clear dU
    refine rgH ?_; intro nS gP
    refine bt dn bW 5 [] [] [(186, .slice ao1 u0.length cap2), (187, i6 b), (188, i6 u2), (189, i6 (w64 ((w64 ((w64 (bShr .u64 (wu64 (w64 (u1 + u3))) 1)) + u2)) - b))), (190, .func (.func fid3) #[] caps4)] ?_; intro tZ gQ; clear dn
    refine ck gQ 126 #[.slice ao1 u0.length cap2, i6 b, i6 u2, i6 (w64 ((w64 ((w64 (bShr .u64 (wu64 (w64 (u1 + u3))) 1)) + u2)) - b)), .func (.func fid3) #[] caps4] ?_
    refine (srot_walk u0 b u2 (w64 ((w64 ((w64 (bShr .u64 (wu64 (w64 (u1 + u3))) 1)) + u2)) - b)) u4 ao1 cap2 fid3 caps4 _ _ _ _ _ _ (fun Z1 w1 h1 h2 => hf5 Z1 w1 (c.trans h1) h2) hg6 bW bW.fz nR).mono ?_; rintro _ nT ⟨aB, gR, rfl, gS, nU, nV, hm⟩; refine ⟨_, rfl, ?_⟩; intro nW gT; have gU := hm; clear hm bW gQ
    replace c := Fz.le.trans c nU
    have gV : Fr 220 [] [⟨0, [], .slice ao1 aB.length cap2⟩, ⟨1, [], i6 u1⟩, ⟨2, [], i6 u2⟩, ⟨3, [], i6 u3⟩, ⟨4, [], .func (.func fid3) #[] caps4⟩, ⟨18, [], i6 (w64 (bShr .u64 (wu64 (w64 (u1 + u3))) 1))⟩, ⟨19, [], i6 (w64 ((w64 (bShr .u64 (wu64 (w64 (u1 + u3))) 1)) + u2))⟩, ⟨20, [], i6 b⟩, ⟨24, [], i6 (w64 ((w64 ((w64 (bShr .u64 (wu64 (w64 (u1 + u3))) 1)) + u2)) - b))⟩, ⟨185, [], .bool ((decide (b < u2)) && (decide (u2 < (w64 ((w64 ((w64 (bShr .u64 (wu64 (w64 (u1 + u3))) 1)) + u2)) - b)))))⟩, ⟨186, [], .slice ao1 aB.length cap2⟩, ⟨187, [], i6 b⟩, ⟨188, [], i6 u2⟩, ⟨189, [], i6 (w64 ((w64 ((w64 (bShr .u64 (wu64 (w64 (u1 + u3))) 1)) + u2)) - b))⟩, ⟨190, [], .func (.func fid3) #[] caps4⟩, ⟨191, [], .tuple #[]⟩] nW := by rw [nV]; exact gT.reg
    clear gT
    have cM : Mem B [] w0 Z0 ((.own tyJob 110 ao1 cap2 aB) :: Rr) gR nT := gU; clear gU
    have dV := gS (cM.ownSmall 0 rfl); clear gS
    refine nlH (gP _ _ ?_); clear gP nS
    refine thn ?_
    refine wp_seq ?_
    refine sqB gV cM [] [] [(199, .bool ((decide (u1 < b)) && (decide (b < (w64 (bShr .u64 (wu64 (w64 (u1 + u3))) 1))))))] ?_; intro t0 dp; clear gV
    refine cd dp (t := (decide (u1 < b)) && (decide (b < (w64 (bShr .u64 (wu64 (w64 (u1 + u3))) 1))))) (by kernel_rfl) (fun eO => ?_) (fun eO => ?_)
    ·
     have nX := dV.1 eO; clear dV
     refine rgH ?_; intro nY gW
     refine bt dp cM 5 [] [] [(200, .slice ao1 aB.length cap2), (201, i6 u1), (202, i6 b), (203, i6 (w64 (bShr .u64 (wu64 (w64 (u1 + u3))) 1))), (204, .func (.func fid3) #[] caps4)] ?_; intro t1 gX; clear dp
     obtain ⟨nZ, gY⟩ := nX
     refine ck gX 112 #[.slice ao1 aB.length cap2, i6 u1, i6 b, i6 (w64 (bShr .u64 (wu64 (w64 (u1 + u3))) 1)), .func (.func fid3) #[] caps4] ?_
     refine (ih aB u1 b (w64 (bShr .u64 (wu64 (w64 (u1 + u3))) 1)) u4 nZ ao1 cap2 fid3 caps4 _ _ _ _ _ _ (fun Z1 w1 h1 h2 => hf5 Z1 w1 (c.trans h1) h2) hg6 cM cM.fz).mono ?_; rintro _ n0 ⟨gZ, rfl, n1, n2, hm⟩; refine ⟨_, rfl, ?_⟩; intro n3 g0; have g1 := hm; clear hm cM gX
     replace c := Fz.le.trans c n1
     have g2 : Fr 220 [] [⟨0, [], .slice ao1 (segC2 aB u1 b (w64 (bShr .u64 (wu64 (w64 (u1 + u3))) 1)) u4).length cap2⟩, ⟨1, [], i6 u1⟩, ⟨2, [], i6 u2⟩, ⟨3, [], i6 u3⟩, ⟨4, [], .func (.func fid3) #[] caps4⟩, ⟨18, [], i6 (w64 (bShr .u64 (wu64 (w64 (u1 + u3))) 1))⟩, ⟨19, [], i6 (w64 ((w64 (bShr .u64 (wu64 (w64 (u1 + u3))) 1)) + u2))⟩, ⟨20, [], i6 b⟩, ⟨24, [], i6 (w64 ((w64 ((w64 (bShr .u64 (wu64 (w64 (u1 + u3))) 1)) + u2)) - b))⟩, ⟨185, [], .bool ((decide (b < u2)) && (decide (u2 < (w64 ((w64 ((w64 (bShr .u64 (wu64 (w64 (u1 + u3))) 1)) + u2)) - b)))))⟩, ⟨186, [], .slice ao1 (segC2 aB u1 b (w64 (bShr .u64 (wu64 (w64 (u1 + u3))) 1)) u4).length cap2⟩, ⟨187, [], i6 b⟩, ⟨188, [], i6 u2⟩, ⟨189, [], i6 (w64 ((w64 ((w64 (bShr .u64 (wu64 (w64 (u1 + u3))) 1)) + u2)) - b))⟩, ⟨190, [], .func (.func fid3) #[] caps4⟩, ⟨191, [], .tuple #[]⟩, ⟨199, [], .bool ((decide (u1 < b)) && (decide (b < (w64 (bShr .u64 (wu64 (w64 (u1 + u3))) 1)))))⟩, ⟨200, [], .slice ao1 (segC2 aB u1 b (w64 (bShr .u64 (wu64 (w64 (u1 + u3))) 1)) u4).length cap2⟩, ⟨201, [], i6 u1⟩, ⟨202, [], i6 b⟩, ⟨203, [], i6 (w64 (bShr .u64 (wu64 (w64 (u1 + u3))) 1))⟩, ⟨204, [], .func (.func fid3) #[] caps4⟩, ⟨205, [], .tuple #[]⟩] n3 := by rw [n2]; exact g0.reg
     clear g0
     have dc : Mem B [] w0 Z0 ((.own tyJob 110 ao1 cap2 (segC2 aB u1 b (w64 (bShr .u64 (wu64 (w64 (u1 + u3))) 1)) u4)) :: Rr) gZ n0 := g1; clear g1
     have dW := gY (dc.ownSmall 0 rfl); clear gY
     refine nlH (gW _ _ ?_); clear gW nY
     refine thn ?_
     refine sqB g2 dc [] [] [(213, .bool ((decide ((w64 (bShr .u64 (wu64 (w64 (u1 + u3))) 1)) < (w64 ((w64 ((w64 (bShr .u64 (wu64 (w64 (u1 + u3))) 1)) + u2)) - b)))) && (decide ((w64 ((w64 ((w64 (bShr .u64 (wu64 (w64 (u1 + u3))) 1)) + u2)) - b)) < u3))))] ?_; intro t2 dq; clear g2
     refine cd dq (t := (decide ((w64 (bShr .u64 (wu64 (w64 (u1 + u3))) 1)) < (w64 ((w64 ((w64 (bShr .u64 (wu64 (w64 (u1 + u3))) 1)) + u2)) - b)))) && (decide ((w64 ((w64 ((w64 (bShr .u64 (wu64 (w64 (u1 + u3))) 1)) + u2)) - b)) < u3))) (by kernel_rfl) (fun eP => ?_) (fun eP => ?_)
     ·
      have n4 := dW.1 eP; clear dW
      refine rgH ?_; intro n5 g3
      refine bt dq dc 5 [] [] [(214, .slice ao1 (segC2 aB u1 b (w64 (bShr .u64 (wu64 (w64 (u1 + u3))) 1)) u4).length cap2), (215, i6 (w64 (bShr .u64 (wu64 (w64 (u1 + u3))) 1))), (216, i6 (w64 ((w64 ((w64 (bShr .u64 (wu64 (w64 (u1 + u3))) 1)) + u2)) - b))), (217, i6 u3), (218, .func (.func fid3) #[] caps4)] ?_; intro t3 g4; clear dq
      obtain ⟨n6, g5⟩ := n4
      refine ck g4 112 #[.slice ao1 (segC2 aB u1 b (w64 (bShr .u64 (wu64 (w64 (u1 + u3))) 1)) u4).length cap2, i6 (w64 (bShr .u64 (wu64 (w64 (u1 + u3))) 1)), i6 (w64 ((w64 ((w64 (bShr .u64 (wu64 (w64 (u1 + u3))) 1)) + u2)) - b)), i6 u3, .func (.func fid3) #[] caps4] ?_
      refine (ih (segC2 aB u1 b (w64 (bShr .u64 (wu64 (w64 (u1 + u3))) 1)) u4) (w64 (bShr .u64 (wu64 (w64 (u1 + u3))) 1)) (w64 ((w64 ((w64 (bShr .u64 (wu64 (w64 (u1 + u3))) 1)) + u2)) - b)) u3 u4 n6 ao1 cap2 fid3 caps4 _ _ _ _ _ _ (fun Z1 w1 h1 h2 => hf5 Z1 w1 (c.trans h1) h2) hg6 dc dc.fz).mono ?_; rintro _ n7 ⟨g6, rfl, n8, n9, hm⟩; refine ⟨_, rfl, ?_⟩; intro oa g7; have g8 := hm; clear hm dc g4
      replace c := Fz.le.trans c n8
      have g9 : Fr 220 [] [⟨0, [], .slice ao1 (segC2 (segC2 aB u1 b (w64 (bShr .u64 (wu64 (w64 (u1 + u3))) 1)) u4) (w64 (bShr .u64 (wu64 (w64 (u1 + u3))) 1)) (w64 ((w64 ((w64 (bShr .u64 (wu64 (w64 (u1 + u3))) 1)) + u2)) - b)) u3 u4).length cap2⟩, ⟨1, [], i6 u1⟩, ⟨2, [], i6 u2⟩, ⟨3, [], i6 u3⟩, ⟨4, [], .func (.func fid3) #[] caps4⟩, ⟨18, [], i6 (w64 (bShr .u64 (wu64 (w64 (u1 + u3))) 1))⟩, ⟨19, [], i6 (w64 ((w64 (bShr .u64 (wu64 (w64 (u1 + u3))) 1)) + u2))⟩, ⟨20, [], i6 b⟩, ⟨24, [], i6 (w64 ((w64 ((w64 (bShr .u64 (wu64 (w64 (u1 + u3))) 1)) + u2)) - b))⟩, ⟨185, [], .bool ((decide (b < u2)) && (decide (u2 < (w64 ((w64 ((w64 (bShr .u64 (wu64 (w64 (u1 + u3))) 1)) + u2)) - b)))))⟩, ⟨186, [], .slice ao1 (segC2 (segC2 aB u1 b (w64 (bShr .u64 (wu64 (w64 (u1 + u3))) 1)) u4) (w64 (bShr .u64 (wu64 (w64 (u1 + u3))) 1)) (w64 ((w64 ((w64 (bShr .u64 (wu64 (w64 (u1 + u3))) 1)) + u2)) - b)) u3 u4).length cap2⟩, ⟨187, [], i6 b⟩, ⟨188, [], i6 u2⟩, ⟨189, [], i6 (w64 ((w64 ((w64 (bShr .u64 (wu64 (w64 (u1 + u3))) 1)) + u2)) - b))⟩, ⟨190, [], .func (.func fid3) #[] caps4⟩, ⟨191, [], .tuple #[]⟩, ⟨199, [], .bool ((decide (u1 < b)) && (decide (b < (w64 (bShr .u64 (wu64 (w64 (u1 + u3))) 1)))))⟩, ⟨200, [], .slice ao1 (segC2 (segC2 aB u1 b (w64 (bShr .u64 (wu64 (w64 (u1 + u3))) 1)) u4) (w64 (bShr .u64 (wu64 (w64 (u1 + u3))) 1)) (w64 ((w64 ((w64 (bShr .u64 (wu64 (w64 (u1 + u3))) 1)) + u2)) - b)) u3 u4).length cap2⟩, ⟨201, [], i6 u1⟩, ⟨202, [], i6 b⟩, ⟨203, [], i6 (w64 (bShr .u64 (wu64 (w64 (u1 + u3))) 1))⟩, ⟨204, [], .func (.func fid3) #[] caps4⟩, ⟨205, [], .tuple #[]⟩, ⟨213, [], .bool ((decide ((w64 (bShr .u64 (wu64 (w64 (u1 + u3))) 1)) < (w64 ((w64 ((w64 (bShr .u64 (wu64 (w64 (u1 + u3))) 1)) + u2)) - b)))) && (decide ((w64 ((w64 ((w64 (bShr .u64 (wu64 (w64 (u1 + u3))) 1)) + u2)) - b)) < u3)))⟩, ⟨214, [], .slice ao1 (segC2 (segC2 aB u1 b (w64 (bShr .u64 (wu64 (w64 (u1 + u3))) 1)) u4) (w64 (bShr .u64 (wu64 (w64 (u1 + u3))) 1)) (w64 ((w64 ((w64 (bShr .u64 (wu64 (w64 (u1 + u3))) 1)) + u2)) - b)) u3 u4).length cap2⟩, ⟨215, [], i6 (w64 (bShr .u64 (wu64 (w64 (u1 + u3))) 1))⟩, ⟨216, [], i6 (w64 ((w64 ((w64 (bShr .u64 (wu64 (w64 (u1 + u3))) 1)) + u2)) - b))⟩, ⟨217, [], i6 u3⟩, ⟨218, [], .func (.func fid3) #[] caps4⟩, ⟨219, [], .tuple #[]⟩] oa := by rw [n9]; exact g7.reg
      clear g7
      have ha : Mem B [] w0 Z0 ((.own tyJob 110 ao1 cap2 (segC2 (segC2 aB u1 b (w64 (bShr .u64 (wu64 (w64 (u1 + u3))) 1)) u4) (w64 (bShr .u64 (wu64 (w64 (u1 + u3))) 1)) (w64 ((w64 ((w64 (bShr .u64 (wu64 (w64 (u1 + u3))) 1)) + u2)) - b)) u3 u4)) :: Rr) g6 n7 := g8; clear g8
      have ob := g5 (ha.ownSmall 0 rfl); clear g5
      refine nlH (g3 _ _ ?_); clear g3 n5
      obtain ⟨oc, od⟩ := ob
      refine rN (fn := Try.f112) (v := .tuple #[]) g9 (re0 g9 (fn := Try.f112) rfl) ?_
      exact ⟨(segC2 (segC2 aB u1 b (w64 (bShr .u64 (wu64 (w64 (u1 + u3))) 1)) u4) (w64 (bShr .u64 (wu64 (w64 (u1 + u3))) 1)) (w64 ((w64 ((w64 (bShr .u64 (wu64 (w64 (u1 + u3))) 1)) + u2)) - b)) u3 u4), g6, rfl, od, c, oc, ha.keep (List.Sublist.cons_cons _ (List.Sublist.refl _))⟩
     have oe := dW.2 eP; clear dW
     refine wp_skip ?_
     obtain ⟨og, oh⟩ := oe
     refine rN (fn := Try.f112) (v := .tuple #[]) dq (re0 dq (fn := Try.f112) rfl) ?_
     exact ⟨(segC2 aB u1 b (w64 (bShr .u64 (wu64 (w64 (u1 + u3))) 1)) u4), gZ, rfl, oh, c, og, dc.keep (List.Sublist.cons_cons _ (List.Sublist.refl _))⟩
    have dX := dV.2 eO; clear dV
    refine wp_skip ?_
    refine thn ?_
    refine sqB dp cM [] [] [(213, .bool ((decide ((w64 (bShr .u64 (wu64 (w64 (u1 + u3))) 1)) < (w64 ((w64 ((w64 (bShr .u64 (wu64 (w64 (u1 + u3))) 1)) + u2)) - b)))) && (decide ((w64 ((w64 ((w64 (bShr .u64 (wu64 (w64 (u1 + u3))) 1)) + u2)) - b)) < u3))))] ?_; intro t4 dr; clear dp
    refine cd dr (t := (decide ((w64 (bShr .u64 (wu64 (w64 (u1 + u3))) 1)) < (w64 ((w64 ((w64 (bShr .u64 (wu64 (w64 (u1 + u3))) 1)) + u2)) - b)))) && (decide ((w64 ((w64 ((w64 (bShr .u64 (wu64 (w64 (u1 + u3))) 1)) + u2)) - b)) < u3))) (by kernel_rfl) (fun eQ => ?_) (fun eQ => ?_)
    ·
     have oi := dX.1 eQ; clear dX
     refine rgH ?_; intro ol hb
     refine bt dr cM 5 [] [] [(214, .slice ao1 aB.length cap2), (215, i6 (w64 (bShr .u64 (wu64 (w64 (u1 + u3))) 1))), (216, i6 (w64 ((w64 ((w64 (bShr .u64 (wu64 (w64 (u1 + u3))) 1)) + u2)) - b))), (217, i6 u3), (218, .func (.func fid3) #[] caps4)] ?_; intro t5 hc; clear dr
     obtain ⟨om, hd⟩ := oi
     refine ck hc 112 #[.slice ao1 aB.length cap2, i6 (w64 (bShr .u64 (wu64 (w64 (u1 + u3))) 1)), i6 (w64 ((w64 ((w64 (bShr .u64 (wu64 (w64 (u1 + u3))) 1)) + u2)) - b)), i6 u3, .func (.func fid3) #[] caps4] ?_
     refine (ih aB (w64 (bShr .u64 (wu64 (w64 (u1 + u3))) 1)) (w64 ((w64 ((w64 (bShr .u64 (wu64 (w64 (u1 + u3))) 1)) + u2)) - b)) u3 u4 om ao1 cap2 fid3 caps4 _ _ _ _ _ _ (fun Z1 w1 h1 h2 => hf5 Z1 w1 (c.trans h1) h2) hg6 cM cM.fz).mono ?_; rintro _ oo ⟨he, rfl, op, oq, hm⟩; refine ⟨_, rfl, ?_⟩; intro or hf; have hg := hm; clear hm cM hc
     replace c := Fz.le.trans c op
     have hh : Fr 220 [] [⟨0, [], .slice ao1 (segC2 aB (w64 (bShr .u64 (wu64 (w64 (u1 + u3))) 1)) (w64 ((w64 ((w64 (bShr .u64 (wu64 (w64 (u1 + u3))) 1)) + u2)) - b)) u3 u4).length cap2⟩, ⟨1, [], i6 u1⟩, ⟨2, [], i6 u2⟩, ⟨3, [], i6 u3⟩, ⟨4, [], .func (.func fid3) #[] caps4⟩, ⟨18, [], i6 (w64 (bShr .u64 (wu64 (w64 (u1 + u3))) 1))⟩, ⟨19, [], i6 (w64 ((w64 (bShr .u64 (wu64 (w64 (u1 + u3))) 1)) + u2))⟩, ⟨20, [], i6 b⟩, ⟨24, [], i6 (w64 ((w64 ((w64 (bShr .u64 (wu64 (w64 (u1 + u3))) 1)) + u2)) - b))⟩, ⟨185, [], .bool ((decide (b < u2)) && (decide (u2 < (w64 ((w64 ((w64 (bShr .u64 (wu64 (w64 (u1 + u3))) 1)) + u2)) - b)))))⟩, ⟨186, [], .slice ao1 (segC2 aB (w64 (bShr .u64 (wu64 (w64 (u1 + u3))) 1)) (w64 ((w64 ((w64 (bShr .u64 (wu64 (w64 (u1 + u3))) 1)) + u2)) - b)) u3 u4).length cap2⟩, ⟨187, [], i6 b⟩, ⟨188, [], i6 u2⟩, ⟨189, [], i6 (w64 ((w64 ((w64 (bShr .u64 (wu64 (w64 (u1 + u3))) 1)) + u2)) - b))⟩, ⟨190, [], .func (.func fid3) #[] caps4⟩, ⟨191, [], .tuple #[]⟩, ⟨199, [], .bool ((decide (u1 < b)) && (decide (b < (w64 (bShr .u64 (wu64 (w64 (u1 + u3))) 1)))))⟩, ⟨213, [], .bool ((decide ((w64 (bShr .u64 (wu64 (w64 (u1 + u3))) 1)) < (w64 ((w64 ((w64 (bShr .u64 (wu64 (w64 (u1 + u3))) 1)) + u2)) - b)))) && (decide ((w64 ((w64 ((w64 (bShr .u64 (wu64 (w64 (u1 + u3))) 1)) + u2)) - b)) < u3)))⟩, ⟨214, [], .slice ao1 (segC2 aB (w64 (bShr .u64 (wu64 (w64 (u1 + u3))) 1)) (w64 ((w64 ((w64 (bShr .u64 (wu64 (w64 (u1 + u3))) 1)) + u2)) - b)) u3 u4).length cap2⟩, ⟨215, [], i6 (w64 (bShr .u64 (wu64 (w64 (u1 + u3))) 1))⟩, ⟨216, [], i6 (w64 ((w64 ((w64 (bShr .u64 (wu64 (w64 (u1 + u3))) 1)) + u2)) - b))⟩, ⟨217, [], i6 u3⟩, ⟨218, [], .func (.func fid3) #[] caps4⟩, ⟨219, [], .tuple #[]⟩] or := by rw [oq]; exact hf.reg
     clear hf
     have hj : Mem B [] w0 Z0 ((.own tyJob 110 ao1 cap2 (segC2 aB (w64 (bShr .u64 (wu64 (w64 (u1 + u3))) 1)) (w64 ((w64 ((w64 (bShr .u64 (wu64 (w64 (u1 + u3))) 1)) + u2)) - b)) u3 u4)) :: Rr) he oo := hg; clear hg
     have os := hd (hj.ownSmall 0 rfl); clear hd
     refine nlH (hb _ _ ?_); clear hb ol
     obtain ⟨ot, ou⟩ := os
     refine rN (fn := Try.f112) (v := .tuple #[]) hh (re0 hh (fn := Try.f112) rfl) ?_
     exact ⟨(segC2 aB (w64 (bShr .u64 (wu64 (w64 (u1 + u3))) 1)) (w64 ((w64 ((w64 (bShr .u64 (wu64 (w64 (u1 + u3))) 1)) + u2)) - b)) u3 u4), he, rfl, ou, c, ot, hj.keep (List.Sublist.cons_cons _ (List.Sublist.refl _))⟩
    have ov := dX.2 eQ; clear dX
    refine wp_skip ?_
    obtain ⟨ow, ox⟩ := ov
    refine rN (fn := Try.f112) (v := .tuple #[]) dr (re0 dr (fn := Try.f112) rfl) ?_
    exact ⟨aB, gR, rfl, ox, c, ow, cM.keep (List.Sublist.cons_cons _ (List.Sublist.refl _))⟩
   have dY := dU.2 eN; clear dU
   refine wp_skip ?_
   refine thn ?_
   refine wp_seq ?_
   refine sqB dn bW [] [] [(199, .bool ((decide (u1 < b)) && (decide (b < (w64 (bShr .u64 (wu64 (w64 (u1 + u3))) 1))))))] ?_; intro t6 ds; clear dn
   refine cd ds (t := (decide (u1 < b)) && (decide (b < (w64 (bShr .u64 (wu64 (w64 (u1 + u3))) 1))))) (by kernel_rfl) (fun eR => ?_) (fun eR => ?_)
   ·
    have oy := dY.1 eR; clear dY
    refine rgH ?_; intro oz hk
    refine bt ds bW 5 [] [] [(200, .slice ao1 u0.length cap2), (201, i6 u1), (202, i6 b), (203, i6 (w64 (bShr .u64 (wu64 (w64 (u1 + u3))) 1))), (204, .func (.func fid3) #[] caps4)] ?_; intro t7 hl; clear ds
    obtain ⟨oA, hn⟩ := oy
    refine ck hl 112 #[.slice ao1 u0.length cap2, i6 u1, i6 b, i6 (w64 (bShr .u64 (wu64 (w64 (u1 + u3))) 1)), .func (.func fid3) #[] caps4] ?_
    refine (ih u0 u1 b (w64 (bShr .u64 (wu64 (w64 (u1 + u3))) 1)) u4 oA ao1 cap2 fid3 caps4 _ _ _ _ _ _ (fun Z1 w1 h1 h2 => hf5 Z1 w1 (c.trans h1) h2) hg6 bW bW.fz).mono ?_; rintro _ oB ⟨ho, rfl, oC, oD, hm⟩; refine ⟨_, rfl, ?_⟩; intro oE hq; have hr := hm; clear hm bW hl
    replace c := Fz.le.trans c oC
    have ht : Fr 220 [] [⟨0, [], .slice ao1 (segC2 u0 u1 b (w64 (bShr .u64 (wu64 (w64 (u1 + u3))) 1)) u4).length cap2⟩, ⟨1, [], i6 u1⟩, ⟨2, [], i6 u2⟩, ⟨3, [], i6 u3⟩, ⟨4, [], .func (.func fid3) #[] caps4⟩, ⟨18, [], i6 (w64 (bShr .u64 (wu64 (w64 (u1 + u3))) 1))⟩, ⟨19, [], i6 (w64 ((w64 (bShr .u64 (wu64 (w64 (u1 + u3))) 1)) + u2))⟩, ⟨20, [], i6 b⟩, ⟨24, [], i6 (w64 ((w64 ((w64 (bShr .u64 (wu64 (w64 (u1 + u3))) 1)) + u2)) - b))⟩, ⟨185, [], .bool ((decide (b < u2)) && (decide (u2 < (w64 ((w64 ((w64 (bShr .u64 (wu64 (w64 (u1 + u3))) 1)) + u2)) - b)))))⟩, ⟨199, [], .bool ((decide (u1 < b)) && (decide (b < (w64 (bShr .u64 (wu64 (w64 (u1 + u3))) 1)))))⟩, ⟨200, [], .slice ao1 (segC2 u0 u1 b (w64 (bShr .u64 (wu64 (w64 (u1 + u3))) 1)) u4).length cap2⟩, ⟨201, [], i6 u1⟩, ⟨202, [], i6 b⟩, ⟨203, [], i6 (w64 (bShr .u64 (wu64 (w64 (u1 + u3))) 1))⟩, ⟨204, [], .func (.func fid3) #[] caps4⟩, ⟨205, [], .tuple #[]⟩] oE := by rw [oD]; exact hq.reg
    clear hq
    have dd : Mem B [] w0 Z0 ((.own tyJob 110 ao1 cap2 (segC2 u0 u1 b (w64 (bShr .u64 (wu64 (w64 (u1 + u3))) 1)) u4)) :: Rr) ho oB := hr; clear hr
    have dZ := hn (dd.ownSmall 0 rfl); clear hn
    refine nlH (hk _ _ ?_); clear hk oz
    refine thn ?_
    refine sqB ht dd [] [] [(213, .bool ((decide ((w64 (bShr .u64 (wu64 (w64 (u1 + u3))) 1)) < (w64 ((w64 ((w64 (bShr .u64 (wu64 (w64 (u1 + u3))) 1)) + u2)) - b)))) && (decide ((w64 ((w64 ((w64 (bShr .u64 (wu64 (w64 (u1 + u3))) 1)) + u2)) - b)) < u3))))] ?_; intro t8 dt; clear ht
    refine cd dt (t := (decide ((w64 (bShr .u64 (wu64 (w64 (u1 + u3))) 1)) < (w64 ((w64 ((w64 (bShr .u64 (wu64 (w64 (u1 + u3))) 1)) + u2)) - b)))) && (decide ((w64 ((w64 ((w64 (bShr .u64 (wu64 (w64 (u1 + u3))) 1)) + u2)) - b)) < u3))) (by kernel_rfl) (fun eS => ?_) (fun eS => ?_)
    ·
     have oF := dZ.1 eS; clear dZ
     refine rgH ?_; intro oG hu
     refine bt dt dd 5 [] [] [(214, .slice ao1 (segC2 u0 u1 b (w64 (bShr .u64 (wu64 (w64 (u1 + u3))) 1)) u4).length cap2), (215, i6 (w64 (bShr .u64 (wu64 (w64 (u1 + u3))) 1))), (216, i6 (w64 ((w64 ((w64 (bShr .u64 (wu64 (w64 (u1 + u3))) 1)) + u2)) - b))), (217, i6 u3), (218, .func (.func fid3) #[] caps4)] ?_; intro t9 hv; clear dt
     obtain ⟨oH, hw⟩ := oF
     refine ck hv 112 #[.slice ao1 (segC2 u0 u1 b (w64 (bShr .u64 (wu64 (w64 (u1 + u3))) 1)) u4).length cap2, i6 (w64 (bShr .u64 (wu64 (w64 (u1 + u3))) 1)), i6 (w64 ((w64 ((w64 (bShr .u64 (wu64 (w64 (u1 + u3))) 1)) + u2)) - b)), i6 u3, .func (.func fid3) #[] caps4] ?_
     refine (ih (segC2 u0 u1 b (w64 (bShr .u64 (wu64 (w64 (u1 + u3))) 1)) u4) (w64 (bShr .u64 (wu64 (w64 (u1 + u3))) 1)) (w64 ((w64 ((w64 (bShr .u64 (wu64 (w64 (u1 + u3))) 1)) + u2)) - b)) u3 u4 oH ao1 cap2 fid3 caps4 _ _ _ _ _ _ (fun Z1 w1 h1 h2 => hf5 Z1 w1 (c.trans h1) h2) hg6 dd dd.fz).mono ?_; rintro _ oI ⟨hx, rfl, oJ, oK, hm⟩; refine ⟨_, rfl, ?_⟩; intro oL hy; have hz := hm; clear hm dd hv
     replace c := Fz.le.trans c oJ
     have hA : Fr 220 [] [⟨0, [], .slice ao1 (segC2 (segC2 u0 u1 b (w64 (bShr .u64 (wu64 (w64 (u1 + u3))) 1)) u4) (w64 (bShr .u64 (wu64 (w64 (u1 + u3))) 1)) (w64 ((w64 ((w64 (bShr .u64 (wu64 (w64 (u1 + u3))) 1)) + u2)) - b)) u3 u4).length cap2⟩, ⟨1, [], i6 u1⟩, ⟨2, [], i6 u2⟩, ⟨3, [], i6 u3⟩, ⟨4, [], .func (.func fid3) #[] caps4⟩, ⟨18, [], i6 (w64 (bShr .u64 (wu64 (w64 (u1 + u3))) 1))⟩, ⟨19, [], i6 (w64 ((w64 (bShr .u64 (wu64 (w64 (u1 + u3))) 1)) + u2))⟩, ⟨20, [], i6 b⟩, ⟨24, [], i6 (w64 ((w64 ((w64 (bShr .u64 (wu64 (w64 (u1 + u3))) 1)) + u2)) - b))⟩, ⟨185, [], .bool ((decide (b < u2)) && (decide (u2 < (w64 ((w64 ((w64 (bShr .u64 (wu64 (w64 (u1 + u3))) 1)) + u2)) - b)))))⟩, ⟨199, [], .bool ((decide (u1 < b)) && (decide (b < (w64 (bShr .u64 (wu64 (w64 (u1 + u3))) 1)))))⟩, ⟨200, [], .slice ao1 (segC2 (segC2 u0 u1 b (w64 (bShr .u64 (wu64 (w64 (u1 + u3))) 1)) u4) (w64 (bShr .u64 (wu64 (w64 (u1 + u3))) 1)) (w64 ((w64 ((w64 (bShr .u64 (wu64 (w64 (u1 + u3))) 1)) + u2)) - b)) u3 u4).length cap2⟩, ⟨201, [], i6 u1⟩, ⟨202, [], i6 b⟩, ⟨203, [], i6 (w64 (bShr .u64 (wu64 (w64 (u1 + u3))) 1))⟩, ⟨204, [], .func (.func fid3) #[] caps4⟩, ⟨205, [], .tuple #[]⟩, ⟨213, [], .bool ((decide ((w64 (bShr .u64 (wu64 (w64 (u1 + u3))) 1)) < (w64 ((w64 ((w64 (bShr .u64 (wu64 (w64 (u1 + u3))) 1)) + u2)) - b)))) && (decide ((w64 ((w64 ((w64 (bShr .u64 (wu64 (w64 (u1 + u3))) 1)) + u2)) - b)) < u3)))⟩, ⟨214, [], .slice ao1 (segC2 (segC2 u0 u1 b (w64 (bShr .u64 (wu64 (w64 (u1 + u3))) 1)) u4) (w64 (bShr .u64 (wu64 (w64 (u1 + u3))) 1)) (w64 ((w64 ((w64 (bShr .u64 (wu64 (w64 (u1 + u3))) 1)) + u2)) - b)) u3 u4).length cap2⟩, ⟨215, [], i6 (w64 (bShr .u64 (wu64 (w64 (u1 + u3))) 1))⟩, ⟨216, [], i6 (w64 ((w64 ((w64 (bShr .u64 (wu64 (w64 (u1 + u3))) 1)) + u2)) - b))⟩, ⟨217, [], i6 u3⟩, ⟨218, [], .func (.func fid3) #[] caps4⟩, ⟨219, [], .tuple #[]⟩] oL := by rw [oK]; exact hy.reg
     clear hy
     have hB : Mem B [] w0 Z0 ((.own tyJob 110 ao1 cap2 (segC2 (segC2 u0 u1 b (w64 (bShr .u64 (wu64 (w64 (u1 + u3))) 1)) u4) (w64 (bShr .u64 (wu64 (w64 (u1 + u3))) 1)) (w64 ((w64 ((w64 (bShr .u64 (wu64 (w64 (u1 + u3))) 1)) + u2)) - b)) u3 u4)) :: Rr) hx oI := hz; clear hz
     have oM := hw (hB.ownSmall 0 rfl); clear hw
     refine nlH (hu _ _ ?_); clear hu oG
     obtain ⟨oN, oO⟩ := oM
     refine rN (fn := Try.f112) (v := .tuple #[]) hA (re0 hA (fn := Try.f112) rfl) ?_
     exact ⟨(segC2 (segC2 u0 u1 b (w64 (bShr .u64 (wu64 (w64 (u1 + u3))) 1)) u4) (w64 (bShr .u64 (wu64 (w64 (u1 + u3))) 1)) (w64 ((w64 ((w64 (bShr .u64 (wu64 (w64 (u1 + u3))) 1)) + u2)) - b)) u3 u4), hx, rfl, oO, c, oN, hB.keep (List.Sublist.cons_cons _ (List.Sublist.refl _))⟩
    have oP := dZ.2 eS; clear dZ
    refine wp_skip ?_
    obtain ⟨oQ, oR⟩ := oP
    refine rN (fn := Try.f112) (v := .tuple #[]) dt (re0 dt (fn := Try.f112) rfl) ?_
    exact ⟨(segC2 u0 u1 b (w64 (bShr .u64 (wu64 (w64 (u1 + u3))) 1)) u4), ho, rfl, oR, c, oQ, dd.keep (List.Sublist.cons_cons _ (List.Sublist.refl _))⟩
   have d0 := dY.2 eR; clear dY
   refine wp_skip ?_
   refine thn ?_
   refine sqB ds bW [] [] [(213, .bool ((decide ((w64 (bShr .u64 (wu64 (w64 (u1 + u3))) 1)) < (w64 ((w64 ((w64 (bShr .u64 (wu64 (w64 (u1 + u3))) 1)) + u2)) - b)))) && (decide ((w64 ((w64 ((w64 (bShr .u64 (wu64 (w64 (u1 + u3))) 1)) + u2)) - b)) < u3))))] ?_; intro ua du; clear ds
   refine cd du (t := (decide ((w64 (bShr .u64 (wu64 (w64 (u1 + u3))) 1)) < (w64 ((w64 ((w64 (bShr .u64 (wu64 (w64 (u1 + u3))) 1)) + u2)) - b)))) && (decide ((w64 ((w64 ((w64 (bShr .u64 (wu64 (w64 (u1 + u3))) 1)) + u2)) - b)) < u3))) (by kernel_rfl) (fun eT => ?_) (fun eT => ?_)
   ·
    have oS := d0.1 eT; clear d0
    refine rgH ?_; intro oT hC
    refine bt du bW 5 [] [] [(214, .slice ao1 u0.length cap2), (215, i6 (w64 (bShr .u64 (wu64 (w64 (u1 + u3))) 1))), (216, i6 (w64 ((w64 ((w64 (bShr .u64 (wu64 (w64 (u1 + u3))) 1)) + u2)) - b))), (217, i6 u3), (218, .func (.func fid3) #[] caps4)] ?_; intro ub hD; clear du
    obtain ⟨oU, hF⟩ := oS
    refine ck hD 112 #[.slice ao1 u0.length cap2, i6 (w64 (bShr .u64 (wu64 (w64 (u1 + u3))) 1)), i6 (w64 ((w64 ((w64 (bShr .u64 (wu64 (w64 (u1 + u3))) 1)) + u2)) - b)), i6 u3, .func (.func fid3) #[] caps4] ?_
    refine (ih u0 (w64 (bShr .u64 (wu64 (w64 (u1 + u3))) 1)) (w64 ((w64 ((w64 (bShr .u64 (wu64 (w64 (u1 + u3))) 1)) + u2)) - b)) u3 u4 oU ao1 cap2 fid3 caps4 _ _ _ _ _ _ (fun Z1 w1 h1 h2 => hf5 Z1 w1 (c.trans h1) h2) hg6 bW bW.fz).mono ?_; rintro _ oV ⟨hH, rfl, oW, oX, hm⟩; refine ⟨_, rfl, ?_⟩; intro oY hK; have hL := hm; clear hm bW hD
    replace c := Fz.le.trans c oW
    have hM : Fr 220 [] [⟨0, [], .slice ao1 (segC2 u0 (w64 (bShr .u64 (wu64 (w64 (u1 + u3))) 1)) (w64 ((w64 ((w64 (bShr .u64 (wu64 (w64 (u1 + u3))) 1)) + u2)) - b)) u3 u4).length cap2⟩, ⟨1, [], i6 u1⟩, ⟨2, [], i6 u2⟩, ⟨3, [], i6 u3⟩, ⟨4, [], .func (.func fid3) #[] caps4⟩, ⟨18, [], i6 (w64 (bShr .u64 (wu64 (w64 (u1 + u3))) 1))⟩, ⟨19, [], i6 (w64 ((w64 (bShr .u64 (wu64 (w64 (u1 + u3))) 1)) + u2))⟩, ⟨20, [], i6 b⟩, ⟨24, [], i6 (w64 ((w64 ((w64 (bShr .u64 (wu64 (w64 (u1 + u3))) 1)) + u2)) - b))⟩, ⟨185, [], .bool ((decide (b < u2)) && (decide (u2 < (w64 ((w64 ((w64 (bShr .u64 (wu64 (w64 (u1 + u3))) 1)) + u2)) - b)))))⟩, ⟨199, [], .bool ((decide (u1 < b)) && (decide (b < (w64 (bShr .u64 (wu64 (w64 (u1 + u3))) 1)))))⟩, ⟨213, [], .bool ((decide ((w64 (bShr .u64 (wu64 (w64 (u1 + u3))) 1)) < (w64 ((w64 ((w64 (bShr .u64 (wu64 (w64 (u1 + u3))) 1)) + u2)) - b)))) && (decide ((w64 ((w64 ((w64 (bShr .u64 (wu64 (w64 (u1 + u3))) 1)) + u2)) - b)) < u3)))⟩, ⟨214, [], .slice ao1 (segC2 u0 (w64 (bShr .u64 (wu64 (w64 (u1 + u3))) 1)) (w64 ((w64 ((w64 (bShr .u64 (wu64 (w64 (u1 + u3))) 1)) + u2)) - b)) u3 u4).length cap2⟩, ⟨215, [], i6 (w64 (bShr .u64 (wu64 (w64 (u1 + u3))) 1))⟩, ⟨216, [], i6 (w64 ((w64 ((w64 (bShr .u64 (wu64 (w64 (u1 + u3))) 1)) + u2)) - b))⟩, ⟨217, [], i6 u3⟩, ⟨218, [], .func (.func fid3) #[] caps4⟩, ⟨219, [], .tuple #[]⟩] oY := by rw [oX]; exact hK.reg
    clear hK
    have hN : Mem B [] w0 Z0 ((.own tyJob 110 ao1 cap2 (segC2 u0 (w64 (bShr .u64 (wu64 (w64 (u1 + u3))) 1)) (w64 ((w64 ((w64 (bShr .u64 (wu64 (w64 (u1 + u3))) 1)) + u2)) - b)) u3 u4)) :: Rr) hH oV := hL; clear hL
    have oZ := hF (hN.ownSmall 0 rfl); clear hF
    refine nlH (hC _ _ ?_); clear hC oT
    obtain ⟨o0, o1⟩ := oZ
    refine rN (fn := Try.f112) (v := .tuple #[]) hM (re0 hM (fn := Try.f112) rfl) ?_
    exact ⟨(segC2 u0 (w64 (bShr .u64 (wu64 (w64 (u1 + u3))) 1)) (w64 ((w64 ((w64 (bShr .u64 (wu64 (w64 (u1 + u3))) 1)) + u2)) - b)) u3 u4), hH, rfl, o1, c, o0, hN.keep (List.Sublist.cons_cons _ (List.Sublist.refl _))⟩
   have o2 := d0.2 eT; clear d0
   refine wp_skip ?_
   obtain ⟨o3, o4⟩ := o2
   refine rN (fn := Try.f112) (v := .tuple #[]) du (re0 du (fn := Try.f112) rfl) ?_
   exact ⟨u0, Z, rfl, o4, c, o3, bW.keep (List.Sublist.cons_cons _ (List.Sublist.refl _))⟩
  refine wp_block ?_
  have hO : Fr 220 [] [⟨0, [], .slice ao1 u0.length cap2⟩, ⟨1, [], i6 u1⟩, ⟨2, [], i6 u2⟩, ⟨3, [], i6 u3⟩, ⟨4, [], .func (.func fid3) #[] caps4⟩, ⟨18, [], i6 (w64 (bShr .u64 (wu64 (w64 (u1 + u3))) 1))⟩, ⟨19, [], i6 (w64 ((w64 (bShr .u64 (wu64 (w64 (u1 + u3))) 1)) + u2))⟩, ⟨20, [], i6 (w64 ((w64 ((w64 (bShr .u64 (wu64 (w64 (u1 + u3))) 1)) + u2)) - u3))⟩, ⟨21, [], i6 (w64 (bShr .u64 (wu64 (w64 (u1 + u3))) 1))⟩, ⟨22, [], i6 (w64 ((w64 ((w64 (bShr .u64 (wu64 (w64 (u1 + u3))) 1)) + u2)) - 1))⟩] dT := eM.reg; clear eM
  have hP : Fr 220 [] [⟨0, [], .slice ao1 u0.length cap2⟩, ⟨1, [], i6 u1⟩, ⟨2, [], i6 u2⟩, ⟨3, [], i6 u3⟩, ⟨4, [], .func (.func fid3) #[] caps4⟩, ⟨18, [], i6 (w64 (bShr .u64 (wu64 (w64 (u1 + u3))) 1))⟩, ⟨19, [], i6 (w64 ((w64 (bShr .u64 (wu64 (w64 (u1 + u3))) 1)) + u2))⟩, ⟨20, [], i6 (w64 ((w64 ((w64 (bShr .u64 (wu64 (w64 (u1 + u3))) 1)) + u2)) - u3))⟩, ⟨21, [], i6 (w64 (bShr .u64 (wu64 (w64 (u1 + u3))) 1))⟩, ⟨22, [], i6 (w64 ((w64 ((w64 (bShr .u64 (wu64 (w64 (u1 + u3))) 1)) + u2)) - 1))⟩] dT := hO.reg; clear hO
  obtain ⟨o5, o6, o7, o8⟩ := nN
  refine lp (ι := Int × Int) (fun s => [⟨0, [], .slice ao1 u0.length cap2⟩, ⟨1, [], i6 u1⟩, ⟨2, [], i6 u2⟩, ⟨3, [], i6 u3⟩, ⟨4, [], .func (.func fid3) #[] caps4⟩, ⟨18, [], i6 (w64 (bShr .u64 (wu64 (w64 (u1 + u3))) 1))⟩, ⟨19, [], i6 (w64 ((w64 (bShr .u64 (wu64 (w64 (u1 + u3))) 1)) + u2))⟩, ⟨20, [], i6 s.1⟩, ⟨21, [], i6 s.2⟩, ⟨22, [], i6 (w64 ((w64 ((w64 (bShr .u64 (wu64 (w64 (u1 + u3))) 1)) + u2)) - 1))⟩]) (fun s => ((.own tyJob 110 ao1 cap2 u0) :: Rr)) (fun s => Z) (fun s => o5 s.1 s.2) (fun s => o6 s.1 s.2) ⟨w64 ((w64 ((w64 (bShr .u64 (wu64 (w64 (u1 + u3))) 1)) + u2)) - u3), w64 (bShr .u64 (wu64 (w64 (u1 + u3))) 1)⟩ o7 (by exact hP.reg) (by exact hM0) ?_
  rintro ⟨C, D⟩ o9 pa pb hQ hR
  have hT : Fr 220 [] [⟨0, [], .slice ao1 u0.length cap2⟩, ⟨1, [], i6 u1⟩, ⟨2, [], i6 u2⟩, ⟨3, [], i6 u3⟩, ⟨4, [], .func (.func fid3) #[] caps4⟩, ⟨18, [], i6 (w64 (bShr .u64 (wu64 (w64 (u1 + u3))) 1))⟩, ⟨19, [], i6 (w64 ((w64 (bShr .u64 (wu64 (w64 (u1 + u3))) 1)) + u2))⟩, ⟨20, [], i6 C⟩, ⟨21, [], i6 D⟩, ⟨22, [], i6 (w64 ((w64 ((w64 (bShr .u64 (wu64 (w64 (u1 + u3))) 1)) + u2)) - 1))⟩] pa := hQ; clear hQ hP
  have d1 : Mem B [] w0 Z0 ((.own tyJob 110 ao1 cap2 u0) :: Rr) Z pb := hR; clear hR hM0
  have d2 := o8 C D o9
  refine wp_seq ?_
  refine sqB hT d1 [] [] [(151, .bool (decide (C < D)))] ?_; intro uc d3; clear hT
  refine cd d3 (t := decide (C < D)) (by kernel_rfl) (fun eU => ?_) (fun eU => ?_)
  ·
   have pc := d2.1 eU; clear d2
   refine wp_skip ?_
   refine thn ?_
   refine wp_block ?_
   refine sqB d3 d1 [] [] [(23, i6 (w64 (bShr .u64 (wu64 (w64 (C + D))) 1)))] ?_; intro cl hU; clear d3
   have pd : Fr 220 [] [⟨0, [], .slice ao1 u0.length cap2⟩, ⟨1, [], i6 u1⟩, ⟨2, [], i6 u2⟩, ⟨3, [], i6 u3⟩, ⟨4, [], .func (.func fid3) #[] caps4⟩, ⟨18, [], i6 (w64 (bShr .u64 (wu64 (w64 (u1 + u3))) 1))⟩, ⟨19, [], i6 (w64 ((w64 (bShr .u64 (wu64 (w64 (u1 + u3))) 1)) + u2))⟩, ⟨20, [], i6 C⟩, ⟨21, [], i6 D⟩, ⟨22, [], i6 (w64 ((w64 ((w64 (bShr .u64 (wu64 (w64 (u1 + u3))) 1)) + u2)) - 1))⟩, ⟨23, [], i6 (w64 (bShr .u64 (wu64 (w64 (C + D))) 1))⟩] cl := hU.reg; clear hU
   obtain ⟨eV, hV⟩ := pc
   obtain ⟨U, eW, pe⟩ := gxq hV (by omega); clear hV
   obtain ⟨eX, hW⟩ := pe
   obtain ⟨V, eY, d4⟩ := gxq hW (by omega); clear hW
   refine wp_seq (any_invE mixed [[], [], [], [], [2, 3], [1, 4], [5], [], [], [7, 8], [9], [0, 6, 10], [11], [12]] 14 (fun S a w1 => ∃ (a2 : Nat) (a3 : Nat) (aC : Value) (aN : Value) (aV : Value) (aW : Value) (aO : Value) (aI : Value) (aD : Value) (aP : Value) (aQ : Value) (aJ : Value) (aE : Value) (am : Value) (aj : Value) (ag : Value) (ad : Res), Fz.le Z Z ∧ Fr 220 [] [⟨0, [], .slice ao1 u0.length cap2⟩, ⟨1, [], i6 u1⟩, ⟨2, [], i6 u2⟩, ⟨3, [], i6 u3⟩, ⟨4, [], .func (.func fid3) #[] caps4⟩, ⟨18, [], i6 (w64 (bShr .u64 (wu64 (w64 (u1 + u3))) 1))⟩, ⟨19, [], i6 (w64 ((w64 (bShr .u64 (wu64 (w64 (u1 + u3))) 1)) + u2))⟩, ⟨20, [], i6 C⟩, ⟨21, [], i6 D⟩, ⟨22, [], i6 (w64 ((w64 ((w64 (bShr .u64 (wu64 (w64 (u1 + u3))) 1)) + u2)) - 1))⟩, ⟨23, [], i6 (w64 (bShr .u64 (wu64 (w64 (C + D))) 1))⟩, ⟨158, [], aC⟩, ⟨159, [], aN⟩, ⟨160, [], aV⟩, ⟨161, [], aW⟩, ⟨162, [], aO⟩, ⟨163, [], aI⟩, ⟨164, [], aD⟩, ⟨165, [], aP⟩, ⟨166, [], aQ⟩, ⟨167, [], aJ⟩, ⟨168, [], aE⟩, ⟨169, [], am⟩, ⟨170, [], aj⟩, ⟨171, [], ag⟩] a ∧ Mem B [] w0 Z0 (ad :: Rr) Z w1 ∧ (S 0 = true → aC = .func (.func fid3) #[] caps4) ∧ (S 1 = true → aN = .slice ao1 u0.length cap2) ∧ (S 2 = true → aV = i6 (w64 ((w64 ((w64 (bShr .u64 (wu64 (w64 (u1 + u3))) 1)) + u2)) - 1))) ∧ (S 3 = true → aW = i6 (w64 (bShr .u64 (wu64 (w64 (C + D))) 1))) ∧ (S 4 = true → aO = i6 (w64 ((w64 ((w64 ((w64 (bShr .u64 (wu64 (w64 (u1 + u3))) 1)) + u2)) - 1)) - (w64 (bShr .u64 (wu64 (w64 (C + D))) 1))))) ∧ (S 5 = true → aI = .pointer (some ⟨a2, (w64 ((w64 ((w64 ((w64 (bShr .u64 (wu64 (w64 (u1 + u3))) 1)) + u2)) - 1)) - (w64 (bShr .u64 (wu64 (w64 (C + D))) 1)))).toNat * 3, none⟩)) ∧ (S 6 = true → aD = .agg (e110Dn U).toArray) ∧ (S 7 = true → aP = .slice ao1 u0.length cap2) ∧ (S 8 = true → aQ = i6 (w64 (bShr .u64 (wu64 (w64 (C + D))) 1))) ∧ (S 9 = true → aJ = .pointer (some ⟨a3, (w64 (bShr .u64 (wu64 (w64 (C + D))) 1)).toNat * 3, none⟩)) ∧ (S 10 = true → aE = .agg (e110Dn V).toArray) ∧ (S 11 = true → am = i6 (u4 U V)) ∧ (S 12 = true → aj = .bool (decide ((u4 U V) < 0))) ∧ (S 13 = true → ag = .bool (!(decide ((u4 U V) < 0)))) ∧ (ad = .own tyJob 110 ao1 cap2 u0) ∧ (S 5 = true → ao1 = some ⟨a2, 0, none⟩) ∧ (S 9 = true → ao1 = some ⟨a3, 0, none⟩)) ?h0 ?hs ?hE)
   case h0 =>
    have pf := pd.any 158
    have pg := pf.any 159
    have ph := pg.any 160
    have pi := ph.any 161
    have pj := pi.any 162
    have pk := pj.any 163
    have pl := pk.any 164
    have pm := pl.any 165
    have pn := pm.any 166
    have po := pn.any 167
    have pp := po.any 168
    have pq := pp.any 169
    have pr := pq.any 170
    have ps := pr.any 171
    have pt := (d1.perm lpr).drew
    exact ⟨0, 0, cl.tmps.getD 158 undef, cl.tmps.getD 159 undef, cl.tmps.getD 160 undef, cl.tmps.getD 161 undef, cl.tmps.getD 162 undef, cl.tmps.getD 163 undef, cl.tmps.getD 164 undef, cl.tmps.getD 165 undef, cl.tmps.getD 166 undef, cl.tmps.getD 167 undef, cl.tmps.getD 168 undef, cl.tmps.getD 169 undef, cl.tmps.getD 170 undef, cl.tmps.getD 171 undef, .own tyJob 110 ao1 cap2 u0, Fz.le.refl _, ps.reg, pt, ff, ff, ff, ff, ff, ff, ff, ff, ff, ff, ff, ff, ff, ff, rfl, ff, ff⟩
   case hs =>
    intro S hcl i o hil hi hSi hpre a w1 hI; refine Go.Sy.hid ?_; intro G hG; obtain ⟨a2, a3, aC, aN, aV, aW, aO, aI, aD, aP, aQ, aJ, aE, am, aj, ag, ad, av, hFx, hMx, an, ao, ap, aq, aK, aX, a4, ar, au, aL, aR, c8, de, dv, M, R, hI⟩ := hI; have Q := hI; clear hI
    have hcase : i = 0 ∨ i = 1 ∨ i = 2 ∨ i = 3 ∨ i = 4 ∨ i = 5 ∨ i = 6 ∨ i = 7 ∨ i = 8 ∨ i = 9 ∨ i = 10 ∨ i = 11 ∨ i = 12 ∨ i = 13 := by clear hi; omega
    rcases hcase with rfl | rfl | rfl | rfl | rfl | rfl | rfl | rfl | rfl | rfl | rfl | rfl | rfl | rfl
    ·
     obtain rfl := oj hi
     have ac := hSi
     have m := ngF hcl 11 0 ac
     have l := ngF hcl 12 11 m
     have H := ngF hcl 13 12 l
     obtain rfl := M
     refine hG (any_step ?_); clear hG G; intro A J hJ
     have c := Fz.le.trans c av
     refine s1 hFx 158 (.func (.func fid3) #[] caps4) ?_; intro ud pu; clear hFx
     refine nl (qnI (hJ _ _ ?_)); clear hJ J
     exact ⟨a2, a3, .func (.func fid3) #[] caps4, aN, aV, aW, aO, aI, aD, aP, aQ, aJ, aE, am, aj, ag, .own tyJob 110 ao1 cap2 u0, av, pu.reg, hMx.perm lpr, kf, ao, ap, aq, aK, aX, a4, ar, au, aL, aR, (nt m), (nt l), (nt H), rfl, R, Q⟩
    ·
     obtain rfl := oj hi
     have X := hSi
     have n := ngF hcl 5 1 X
     have E := ngF hcl 6 5 n
     have m := ngF hcl 11 6 E
     have l := ngF hcl 12 11 m
     have H := ngF hcl 13 12 l
     obtain rfl := M
     refine hG (any_step ?_); clear hG G; intro A J hJ
     have c := Fz.le.trans c av
     refine s1 hFx 159 (.slice ao1 u0.length cap2) ?_; intro ue pv; clear hFx
     refine nl (qnI (hJ _ _ ?_)); clear hJ J
     exact ⟨a2, a3, aC, .slice ao1 u0.length cap2, aV, aW, aO, aI, aD, aP, aQ, aJ, aE, am, aj, ag, .own tyJob 110 ao1 cap2 u0, av, pv.reg, hMx.perm lpr, an, kf, ap, aq, aK, (nt n), (nt E), ar, au, aL, aR, (nt m), (nt l), (nt H), rfl, (nt n), Q⟩
    ·
     obtain rfl := oj hi
     have ab := hSi
     have F := ngF hcl 4 2 ab
     have n := ngF hcl 5 4 F
     have E := ngF hcl 6 5 n
     have m := ngF hcl 11 6 E
     have l := ngF hcl 12 11 m
     have H := ngF hcl 13 12 l
     obtain rfl := M
     refine hG (any_step ?_); clear hG G; intro A J hJ
     have c := Fz.le.trans c av
     refine s1 hFx 160 (i6 (w64 ((w64 ((w64 (bShr .u64 (wu64 (w64 (u1 + u3))) 1)) + u2)) - 1))) ?_; intro uf pw; clear hFx
     refine nl (qnI (hJ _ _ ?_)); clear hJ J
     exact ⟨a2, a3, aC, aN, i6 (w64 ((w64 ((w64 (bShr .u64 (wu64 (w64 (u1 + u3))) 1)) + u2)) - 1)), aW, aO, aI, aD, aP, aQ, aJ, aE, am, aj, ag, .own tyJob 110 ao1 cap2 u0, av, pw.reg, hMx.perm lpr, an, ao, kf, aq, (nt F), (nt n), (nt E), ar, au, aL, aR, (nt m), (nt l), (nt H), rfl, (nt n), Q⟩
    ·
     obtain rfl := oj hi
     have L := hSi
     have F := ngF hcl 4 3 L
     have n := ngF hcl 5 4 F
     have E := ngF hcl 6 5 n
     have m := ngF hcl 11 6 E
     have l := ngF hcl 12 11 m
     have H := ngF hcl 13 12 l
     obtain rfl := M
     refine hG (any_step ?_); clear hG G; intro A J hJ
     have c := Fz.le.trans c av
     refine s1 hFx 161 (i6 (w64 (bShr .u64 (wu64 (w64 (C + D))) 1))) ?_; intro ug px; clear hFx
     refine nl (qnI (hJ _ _ ?_)); clear hJ J
     exact ⟨a2, a3, aC, aN, aV, i6 (w64 (bShr .u64 (wu64 (w64 (C + D))) 1)), aO, aI, aD, aP, aQ, aJ, aE, am, aj, ag, .own tyJob 110 ao1 cap2 u0, av, px.reg, hMx.perm lpr, an, ao, ap, kf, (nt F), (nt n), (nt E), ar, au, aL, aR, (nt m), (nt l), (nt H), rfl, (nt n), Q⟩
    ·
     obtain rfl := oj hi
     have L := hpre 3 (by kernel_rfl)
     have ab := hpre 2 (by kernel_rfl)
     have F := hSi
     have n := ngF hcl 5 4 F
     have E := ngF hcl 6 5 n
     have m := ngF hcl 11 6 E
     have l := ngF hcl 12 11 m
     have H := ngF hcl 13 12 l
     obtain rfl := ap ab
     obtain rfl := aq L
     obtain rfl := M
     refine hG (any_step ?_); clear hG G; intro A J hJ
     have c := Fz.le.trans c av
     refine s1 hFx 162 (i6 (w64 ((w64 ((w64 ((w64 (bShr .u64 (wu64 (w64 (u1 + u3))) 1)) + u2)) - 1)) - (w64 (bShr .u64 (wu64 (w64 (C + D))) 1))))) ?_; intro uh py; clear hFx
     refine nl (qnI (hJ _ _ ?_)); clear hJ J
     exact ⟨a2, a3, aC, aN, i6 (w64 ((w64 ((w64 (bShr .u64 (wu64 (w64 (u1 + u3))) 1)) + u2)) - 1)), i6 (w64 (bShr .u64 (wu64 (w64 (C + D))) 1)), i6 (w64 ((w64 ((w64 ((w64 (bShr .u64 (wu64 (w64 (u1 + u3))) 1)) + u2)) - 1)) - (w64 (bShr .u64 (wu64 (w64 (C + D))) 1)))), aI, aD, aP, aQ, aJ, aE, am, aj, ag, .own tyJob 110 ao1 cap2 u0, av, py.reg, hMx.perm lpr, an, ao, kf, kf, kf, (nt n), (nt E), ar, au, aL, aR, (nt m), (nt l), (nt H), rfl, (nt n), Q⟩
    ·
     obtain rfl := oj hi
     have F := hpre 4 (by kernel_rfl)
     have X := hpre 1 (by kernel_rfl)
     have L := hcl 4 3 (by kernel_rfl) F
     have ab := hcl 4 2 (by kernel_rfl) F
     have n := hSi
     have E := ngF hcl 6 5 n
     have m := ngF hcl 11 6 E
     have l := ngF hcl 12 11 m
     have H := ngF hcl 13 12 l
     obtain rfl := ao X
     obtain rfl := ap ab
     obtain rfl := aq L
     obtain rfl := aK F
     obtain rfl := M
     refine hG (any_step ?_); clear hG G; intro A J hJ
     have c := Fz.le.trans c av
     refine ixo hFx hMx 0 (T := tyJob) (xs := u0) (w64 ((w64 ((w64 ((w64 (bShr .u64 (wu64 (w64 (u1 + u3))) 1)) + u2)) - 1)) - (w64 (bShr .u64 (wu64 (w64 (C + D))) 1)))) (by simpa only [List.length_set] using eV) (k := .i64) (e := 110) (bytes := 24) (nog rfl _) rfl (by kernel_rfl) rfl (by kernel_rfl) (by kernel_rfl) rfl (by kernel_rfl) ?_; intro hX ui pz pA; clear hFx
     refine nl (qnI (hJ _ _ ?_)); clear hJ J
     exact ⟨hX, a3, aC, .slice ao1 u0.length cap2, i6 (w64 ((w64 ((w64 (bShr .u64 (wu64 (w64 (u1 + u3))) 1)) + u2)) - 1)), i6 (w64 (bShr .u64 (wu64 (w64 (C + D))) 1)), i6 (w64 ((w64 ((w64 ((w64 (bShr .u64 (wu64 (w64 (u1 + u3))) 1)) + u2)) - 1)) - (w64 (bShr .u64 (wu64 (w64 (C + D))) 1)))), .pointer (some ⟨hX, (w64 ((w64 ((w64 ((w64 (bShr .u64 (wu64 (w64 (u1 + u3))) 1)) + u2)) - 1)) - (w64 (bShr .u64 (wu64 (w64 (C + D))) 1)))).toNat * 3, none⟩), aD, aP, aQ, aJ, aE, am, aj, ag, .own tyJob 110 ao1 cap2 u0, av, pA.reg, hMx.perm lpr, an, kf, kf, kf, kf, kf, (nt E), ar, au, aL, aR, (nt m), (nt l), (nt H), rfl, (fun _ => pz), Q⟩
    ·
     obtain rfl := oj hi
     have n := hpre 5 (by kernel_rfl)
     have F := hcl 5 4 (by kernel_rfl) n
     have X := hcl 5 1 (by kernel_rfl) n
     have L := hcl 4 3 (by kernel_rfl) F
     have ab := hcl 4 2 (by kernel_rfl) F
     have E := hSi
     have m := ngF hcl 11 6 E
     have l := ngF hcl 12 11 m
     have H := ngF hcl 13 12 l
     obtain rfl := ao X
     obtain rfl := ap ab
     obtain rfl := aq L
     obtain rfl := aK F
     obtain rfl := aX n
     obtain rfl := M
     refine hG (any_step ?_); clear hG G; intro A J hJ
     have c := Fz.le.trans c av
     have hY := R n
     obtain ⟨pB, pC, pD⟩ := own_elx hMx 0 (T := tyJob) (xs := u0) rfl hY (w64 ((w64 ((w64 ((w64 (bShr .u64 (wu64 (w64 (u1 + u3))) 1)) + u2)) - 1)) - (w64 (bShr .u64 (wu64 (w64 (C + D))) 1)))).toNat eW
     obtain rfl : pB = ((e110Dn U) : List Value) := pC
     refine lc2 hFx 164 3 (e110Dn U) pD rfl ?_; intro uj pE; clear hFx
     refine nl (qnI (hJ _ _ ?_)); clear hJ J
     exact ⟨a2, a3, aC, .slice ao1 u0.length cap2, i6 (w64 ((w64 ((w64 (bShr .u64 (wu64 (w64 (u1 + u3))) 1)) + u2)) - 1)), i6 (w64 (bShr .u64 (wu64 (w64 (C + D))) 1)), i6 (w64 ((w64 ((w64 ((w64 (bShr .u64 (wu64 (w64 (u1 + u3))) 1)) + u2)) - 1)) - (w64 (bShr .u64 (wu64 (w64 (C + D))) 1)))), .pointer (some ⟨a2, (w64 ((w64 ((w64 ((w64 (bShr .u64 (wu64 (w64 (u1 + u3))) 1)) + u2)) - 1)) - (w64 (bShr .u64 (wu64 (w64 (C + D))) 1)))).toNat * 3, none⟩), .agg (e110Dn U).toArray, aP, aQ, aJ, aE, am, aj, ag, .own tyJob 110 ao1 cap2 u0, av, pE.reg, hMx.perm lpr, an, kf, kf, kf, kf, kf, kf, ar, au, aL, aR, (nt m), (nt l), (nt H), rfl, (fun _ => hY), Q⟩
    ·
     obtain rfl := oj hi
     have z := hSi
     have d := ngF hcl 9 7 z
     have y := ngF hcl 10 9 d
     have m := ngF hcl 11 10 y
     have l := ngF hcl 12 11 m
     have H := ngF hcl 13 12 l
     obtain rfl := M
     refine hG (any_step ?_); clear hG G; intro A J hJ
     have c := Fz.le.trans c av
     refine s1 hFx 165 (.slice ao1 u0.length cap2) ?_; intro uk pF; clear hFx
     refine nl (qnI (hJ _ _ ?_)); clear hJ J
     exact ⟨a2, a3, aC, aN, aV, aW, aO, aI, aD, .slice ao1 u0.length cap2, aQ, aJ, aE, am, aj, ag, .own tyJob 110 ao1 cap2 u0, av, pF.reg, hMx.perm lpr, an, ao, ap, aq, aK, aX, a4, kf, au, (nt d), (nt y), (nt m), (nt l), (nt H), rfl, R, (nt d)⟩
    ·
     obtain rfl := oj hi
     have p := hSi
     have d := ngF hcl 9 8 p
     have y := ngF hcl 10 9 d
     have m := ngF hcl 11 10 y
     have l := ngF hcl 12 11 m
     have H := ngF hcl 13 12 l
     obtain rfl := M
     refine hG (any_step ?_); clear hG G; intro A J hJ
     have c := Fz.le.trans c av
     refine s1 hFx 166 (i6 (w64 (bShr .u64 (wu64 (w64 (C + D))) 1))) ?_; intro ul pG; clear hFx
     refine nl (qnI (hJ _ _ ?_)); clear hJ J
     exact ⟨a2, a3, aC, aN, aV, aW, aO, aI, aD, aP, i6 (w64 (bShr .u64 (wu64 (w64 (C + D))) 1)), aJ, aE, am, aj, ag, .own tyJob 110 ao1 cap2 u0, av, pG.reg, hMx.perm lpr, an, ao, ap, aq, aK, aX, a4, ar, kf, (nt d), (nt y), (nt m), (nt l), (nt H), rfl, R, (nt d)⟩
    ·
     obtain rfl := oj hi
     have p := hpre 8 (by kernel_rfl)
     have z := hpre 7 (by kernel_rfl)
     have d := hSi
     have y := ngF hcl 10 9 d
     have m := ngF hcl 11 10 y
     have l := ngF hcl 12 11 m
     have H := ngF hcl 13 12 l
     obtain rfl := ar z
     obtain rfl := au p
     obtain rfl := M
     refine hG (any_step ?_); clear hG G; intro A J hJ
     have c := Fz.le.trans c av
     refine ixo hFx hMx 0 (T := tyJob) (xs := u0) (w64 (bShr .u64 (wu64 (w64 (C + D))) 1)) (by simpa only [List.length_set] using eX) (k := .i64) (e := 110) (bytes := 24) (nog rfl _) rfl (by kernel_rfl) rfl (by kernel_rfl) (by kernel_rfl) rfl (by kernel_rfl) ?_; intro h3 um pH pI; clear hFx
     refine nl (qnI (hJ _ _ ?_)); clear hJ J
     exact ⟨a2, h3, aC, aN, aV, aW, aO, aI, aD, .slice ao1 u0.length cap2, i6 (w64 (bShr .u64 (wu64 (w64 (C + D))) 1)), .pointer (some ⟨h3, (w64 (bShr .u64 (wu64 (w64 (C + D))) 1)).toNat * 3, none⟩), aE, am, aj, ag, .own tyJob 110 ao1 cap2 u0, av, pI.reg, hMx.perm lpr, an, ao, ap, aq, aK, aX, a4, kf, kf, kf, (nt y), (nt m), (nt l), (nt H), rfl, R, (fun _ => pH)⟩
    ·
     obtain rfl := oj hi
     have d := hpre 9 (by kernel_rfl)
     have p := hcl 9 8 (by kernel_rfl) d
     have z := hcl 9 7 (by kernel_rfl) d
     have y := hSi
     have m := ngF hcl 11 10 y
     have l := ngF hcl 12 11 m
     have H := ngF hcl 13 12 l
     obtain rfl := ar z
     obtain rfl := au p
     obtain rfl := aL d
     obtain rfl := M
     refine hG (any_step ?_); clear hG G; intro A J hJ
     have c := Fz.le.trans c av
     have h4 := Q d
     obtain ⟨pJ, pK, pL⟩ := own_elx hMx 0 (T := tyJob) (xs := u0) rfl h4 (w64 (bShr .u64 (wu64 (w64 (C + D))) 1)).toNat eY
     obtain rfl : pJ = ((e110Dn V) : List Value) := pK
     refine lc2 hFx 168 3 (e110Dn V) pL rfl ?_; intro un pM; clear hFx
     refine nl (qnI (hJ _ _ ?_)); clear hJ J
     exact ⟨a2, a3, aC, aN, aV, aW, aO, aI, aD, .slice ao1 u0.length cap2, i6 (w64 (bShr .u64 (wu64 (w64 (C + D))) 1)), .pointer (some ⟨a3, (w64 (bShr .u64 (wu64 (w64 (C + D))) 1)).toNat * 3, none⟩), .agg (e110Dn V).toArray, am, aj, ag, .own tyJob 110 ao1 cap2 u0, av, pM.reg, hMx.perm lpr, an, ao, ap, aq, aK, aX, a4, kf, kf, kf, kf, (nt m), (nt l), (nt H), rfl, R, (fun _ => h4)⟩
    ·
     obtain rfl := oj hi
     have y := hpre 10 (by kernel_rfl)
     have E := hpre 6 (by kernel_rfl)
     have ac := hpre 0 (by kernel_rfl)
     have d := hcl 10 9 (by kernel_rfl) y
     have n := hcl 6 5 (by kernel_rfl) E
     have p := hcl 9 8 (by kernel_rfl) d
     have z := hcl 9 7 (by kernel_rfl) d
     have F := hcl 5 4 (by kernel_rfl) n
     have X := hcl 5 1 (by kernel_rfl) n
     have L := hcl 4 3 (by kernel_rfl) F
     have ab := hcl 4 2 (by kernel_rfl) F
     have m := hSi
     have l := ngF hcl 12 11 m
     have H := ngF hcl 13 12 l
     obtain rfl := an ac
     obtain rfl := ao X
     obtain rfl := ap ab
     obtain rfl := aq L
     obtain rfl := aK F
     obtain rfl := aX n
     obtain rfl := a4 E
     obtain rfl := ar z
     obtain rfl := au p
     obtain rfl := aL d
     obtain rfl := aR y
     obtain rfl := M
     refine hG (any_step ?_); clear hG G; intro A J hJ
     have c := Fz.le.trans c av
     have pN := R n
     have pO := Q d
     have pP := hf5 _ _ c hMx.fz U V
     refine fcl hFx hMx (i6 (u4 U V)) fid3 (#[.agg (e110Dn U).toArray, .agg (e110Dn V).toArray] ++ caps4) (nog rfl _) rfl (by kernel_rfl) ?h1 ?h2 ?_
     case h1 => exact fv_run rfl (by kernel_rfl) (by kernel_rfl) hg6
     case h2 => exact pP
     intro uo up pQ pR; clear hFx hMx
     refine nl (qnI (hJ _ _ ?_)); clear hJ J
     exact ⟨a2, a3, .func (.func fid3) #[] caps4, .slice ao1 u0.length cap2, i6 (w64 ((w64 ((w64 (bShr .u64 (wu64 (w64 (u1 + u3))) 1)) + u2)) - 1)), i6 (w64 (bShr .u64 (wu64 (w64 (C + D))) 1)), i6 (w64 ((w64 ((w64 ((w64 (bShr .u64 (wu64 (w64 (u1 + u3))) 1)) + u2)) - 1)) - (w64 (bShr .u64 (wu64 (w64 (C + D))) 1)))), .pointer (some ⟨a2, (w64 ((w64 ((w64 ((w64 (bShr .u64 (wu64 (w64 (u1 + u3))) 1)) + u2)) - 1)) - (w64 (bShr .u64 (wu64 (w64 (C + D))) 1)))).toNat * 3, none⟩), .agg (e110Dn U).toArray, .slice ao1 u0.length cap2, i6 (w64 (bShr .u64 (wu64 (w64 (C + D))) 1)), .pointer (some ⟨a3, (w64 (bShr .u64 (wu64 (w64 (C + D))) 1)).toNat * 3, none⟩), .agg (e110Dn V).toArray, i6 (u4 U V), aj, ag, .own tyJob 110 ao1 cap2 u0, av, pQ.reg, pR.perm lpr, kf, kf, kf, kf, kf, kf, kf, kf, kf, kf, kf, kf, (nt l), (nt H), rfl, (fun _ => pN), (fun _ => pO)⟩
    ·
     obtain rfl := oj hi
     have m := hpre 11 (by kernel_rfl)
     have y := hcl 11 10 (by kernel_rfl) m
     have E := hcl 11 6 (by kernel_rfl) m
     have ac := hcl 11 0 (by kernel_rfl) m
     have d := hcl 10 9 (by kernel_rfl) y
     have n := hcl 6 5 (by kernel_rfl) E
     have p := hcl 9 8 (by kernel_rfl) d
     have z := hcl 9 7 (by kernel_rfl) d
     have F := hcl 5 4 (by kernel_rfl) n
     have X := hcl 5 1 (by kernel_rfl) n
     have L := hcl 4 3 (by kernel_rfl) F
     have ab := hcl 4 2 (by kernel_rfl) F
     have l := hSi
     have H := ngF hcl 13 12 l
     obtain rfl := an ac
     obtain rfl := ao X
     obtain rfl := ap ab
     obtain rfl := aq L
     obtain rfl := aK F
     obtain rfl := aX n
     obtain rfl := a4 E
     obtain rfl := ar z
     obtain rfl := au p
     obtain rfl := aL d
     obtain rfl := aR y
     obtain rfl := c8 m
     obtain rfl := M
     refine hG (any_step ?_); clear hG G; intro A J hJ
     have c := Fz.le.trans c av
     have pS := R n
     have pT := Q d
     refine s1 hFx 170 (.bool (decide ((u4 U V) < 0))) ?_; intro uq pU; clear hFx
     refine nl (qnI (hJ _ _ ?_)); clear hJ J
     exact ⟨a2, a3, .func (.func fid3) #[] caps4, .slice ao1 u0.length cap2, i6 (w64 ((w64 ((w64 (bShr .u64 (wu64 (w64 (u1 + u3))) 1)) + u2)) - 1)), i6 (w64 (bShr .u64 (wu64 (w64 (C + D))) 1)), i6 (w64 ((w64 ((w64 ((w64 (bShr .u64 (wu64 (w64 (u1 + u3))) 1)) + u2)) - 1)) - (w64 (bShr .u64 (wu64 (w64 (C + D))) 1)))), .pointer (some ⟨a2, (w64 ((w64 ((w64 ((w64 (bShr .u64 (wu64 (w64 (u1 + u3))) 1)) + u2)) - 1)) - (w64 (bShr .u64 (wu64 (w64 (C + D))) 1)))).toNat * 3, none⟩), .agg (e110Dn U).toArray, .slice ao1 u0.length cap2, i6 (w64 (bShr .u64 (wu64 (w64 (C + D))) 1)), .pointer (some ⟨a3, (w64 (bShr .u64 (wu64 (w64 (C + D))) 1)).toNat * 3, none⟩), .agg (e110Dn V).toArray, i6 (u4 U V), .bool (decide ((u4 U V) < 0)), ag, .own tyJob 110 ao1 cap2 u0, av, pU.reg, hMx.perm lpr, kf, kf, kf, kf, kf, kf, kf, kf, kf, kf, kf, kf, kf, (nt H), rfl, (fun _ => pS), (fun _ => pT)⟩
    obtain rfl := oj hi
    have l := hpre 12 (by kernel_rfl)
    have m := hcl 12 11 (by kernel_rfl) l
    have y := hcl 11 10 (by kernel_rfl) m
    have E := hcl 11 6 (by kernel_rfl) m
    have ac := hcl 11 0 (by kernel_rfl) m
    have d := hcl 10 9 (by kernel_rfl) y
    have n := hcl 6 5 (by kernel_rfl) E
    have p := hcl 9 8 (by kernel_rfl) d
    have z := hcl 9 7 (by kernel_rfl) d
    have F := hcl 5 4 (by kernel_rfl) n
    have X := hcl 5 1 (by kernel_rfl) n
    have L := hcl 4 3 (by kernel_rfl) F
    have ab := hcl 4 2 (by kernel_rfl) F
    have H := hSi
    obtain rfl := an ac
    obtain rfl := ao X
    obtain rfl := ap ab
    obtain rfl := aq L
    obtain rfl := aK F
    obtain rfl := aX n
    obtain rfl := a4 E
    obtain rfl := ar z
    obtain rfl := au p
    obtain rfl := aL d
    obtain rfl := aR y
    obtain rfl := c8 m
    obtain rfl := de l
    obtain rfl := M
    refine hG (any_step ?_); clear hG G; intro A J hJ
    have c := Fz.le.trans c av
    have pV := R n
    have pW := Q d
    refine s1 hFx 171 (.bool (!(decide ((u4 U V) < 0)))) ?_; intro ur pX; clear hFx
    refine nl (qnI (hJ _ _ ?_)); clear hJ J
    exact ⟨a2, a3, .func (.func fid3) #[] caps4, .slice ao1 u0.length cap2, i6 (w64 ((w64 ((w64 (bShr .u64 (wu64 (w64 (u1 + u3))) 1)) + u2)) - 1)), i6 (w64 (bShr .u64 (wu64 (w64 (C + D))) 1)), i6 (w64 ((w64 ((w64 ((w64 (bShr .u64 (wu64 (w64 (u1 + u3))) 1)) + u2)) - 1)) - (w64 (bShr .u64 (wu64 (w64 (C + D))) 1)))), .pointer (some ⟨a2, (w64 ((w64 ((w64 ((w64 (bShr .u64 (wu64 (w64 (u1 + u3))) 1)) + u2)) - 1)) - (w64 (bShr .u64 (wu64 (w64 (C + D))) 1)))).toNat * 3, none⟩), .agg (e110Dn U).toArray, .slice ao1 u0.length cap2, i6 (w64 (bShr .u64 (wu64 (w64 (C + D))) 1)), .pointer (some ⟨a3, (w64 (bShr .u64 (wu64 (w64 (C + D))) 1)).toNat * 3, none⟩), .agg (e110Dn V).toArray, i6 (u4 U V), .bool (decide ((u4 U V) < 0)), .bool (!(decide ((u4 U V) < 0))), .own tyJob 110 ao1 cap2 u0, av, pX.reg, hMx.perm lpr, kf, kf, kf, kf, kf, kf, kf, kf, kf, kf, kf, kf, kf, kf, rfl, (fun _ => pV), (fun _ => pW)⟩
   case hE =>
    intro S hS h5 us hI; refine Go.Sy.hid ?_; intro G hG; obtain ⟨a2, a3, aC, aN, aV, aW, aO, aI, aD, aP, aQ, aJ, aE, am, aj, ag, ad, av, hFx, hMx, an, ao, ap, aq, aK, aX, a4, ar, au, aL, aR, c8, de, dv, M, R, hI⟩ := hI; have Q := hI; clear hI; refine hG ?_; clear hG G
    obtain rfl := an (hS 0 (by decide))
    obtain rfl := ao (hS 1 (by decide))
    obtain rfl := ap (hS 2 (by decide))
    obtain rfl := aq (hS 3 (by decide))
    obtain rfl := aK (hS 4 (by decide))
    obtain rfl := aX (hS 5 (by decide))
    obtain rfl := a4 (hS 6 (by decide))
    obtain rfl := ar (hS 7 (by decide))
    obtain rfl := au (hS 8 (by decide))
    obtain rfl := aL (hS 9 (by decide))
    obtain rfl := aR (hS 10 (by decide))
    obtain rfl := c8 (hS 11 (by decide))
    obtain rfl := de (hS 12 (by decide))
    obtain rfl := dv (hS 13 (by decide))
    obtain rfl := M
    have c := Fz.le.trans c av
    have ut := R (hS 5 (by decide))
    have uu := Q (hS 9 (by decide))
    refine thn ?_
    refine cd hFx (t := !(decide ((u4 U V) < 0))) (by kernel_rfl) (fun eZ => ?_) (fun eZ => ?_)
    ·
     have h6 := d4.1 eZ; clear d4
     have h7 : Fr 220 [] [⟨0, [], .slice ao1 u0.length cap2⟩, ⟨1, [], i6 u1⟩, ⟨2, [], i6 u2⟩, ⟨3, [], i6 u3⟩, ⟨4, [], .func (.func fid3) #[] caps4⟩, ⟨18, [], i6 (w64 (bShr .u64 (wu64 (w64 (u1 + u3))) 1))⟩, ⟨19, [], i6 (w64 ((w64 (bShr .u64 (wu64 (w64 (u1 + u3))) 1)) + u2))⟩, ⟨21, [], i6 D⟩, ⟨22, [], i6 (w64 ((w64 ((w64 (bShr .u64 (wu64 (w64 (u1 + u3))) 1)) + u2)) - 1))⟩, ⟨23, [], i6 (w64 (bShr .u64 (wu64 (w64 (C + D))) 1))⟩] h5 := hFx.reg; clear hFx
     refine rgB h7 hMx [] [] [(20, i6 (w64 ((w64 (bShr .u64 (wu64 (w64 (C + D))) 1)) + 1)))] ?_; intro uv pY; clear h7
     refine ibn ?_
     refine rd ?_
     exact ⟨⟨w64 ((w64 (bShr .u64 (wu64 (w64 (C + D))) 1)) + 1), D⟩, h6.1, h6.2, (pY.reg).anyβ _ (by kernel_rfl), hMx.keep (List.Sublist.cons_cons _ (List.Sublist.refl _))⟩
    have h8 := d4.2 eZ; clear d4
    have h9 : Fr 220 [] [⟨0, [], .slice ao1 u0.length cap2⟩, ⟨1, [], i6 u1⟩, ⟨2, [], i6 u2⟩, ⟨3, [], i6 u3⟩, ⟨4, [], .func (.func fid3) #[] caps4⟩, ⟨18, [], i6 (w64 (bShr .u64 (wu64 (w64 (u1 + u3))) 1))⟩, ⟨19, [], i6 (w64 ((w64 (bShr .u64 (wu64 (w64 (u1 + u3))) 1)) + u2))⟩, ⟨20, [], i6 C⟩, ⟨22, [], i6 (w64 ((w64 ((w64 (bShr .u64 (wu64 (w64 (u1 + u3))) 1)) + u2)) - 1))⟩, ⟨23, [], i6 (w64 (bShr .u64 (wu64 (w64 (C + D))) 1))⟩] h5 := hFx.reg; clear hFx
    refine rgB h9 hMx [] [] [(21, i6 (w64 (bShr .u64 (wu64 (w64 (C + D))) 1)))] ?_; intro uw pZ; clear h9
    refine ibn ?_
    refine rd ?_
    exact ⟨⟨C, w64 (bShr .u64 (wu64 (w64 (C + D))) 1)⟩, h8.1, h8.2, (pZ.reg).anyβ _ (by kernel_rfl), hMx.keep (List.Sublist.cons_cons _ (List.Sublist.refl _))⟩
  have p0 := d2.2 eU; clear d2
  refine wp_exit ?_
  refine thx ?_
  refine thx ?_
  refine ibx ?_
  refine rd ?_
  exact nP C p0 _ _ ((d3.reg).anyβ _ (by kernel_rfl)) (d1.keep (List.Sublist.cons_cons _ (List.Sublist.refl _)))
 have p1 := dS.2 eL; clear dS
 refine sqB dm hM0 [] [] [(20, i6 u1)] ?_; intro ux ia; clear dm
 refine rgB ia hM0 [] [] [(21, i6 u2)] ?_; intro uy ib; clear ia
 refine thn ?_
 refine sqB ib hM0 [] [] [(22, i6 (w64 ((w64 ((w64 (bShr .u64 (wu64 (w64 (u1 + u3))) 1)) + u2)) - 1)))] ?_; intro d5 ic; clear ib
 have id : Fr 220 [] [⟨0, [], .slice ao1 u0.length cap2⟩, ⟨1, [], i6 u1⟩, ⟨2, [], i6 u2⟩, ⟨3, [], i6 u3⟩, ⟨4, [], .func (.func fid3) #[] caps4⟩, ⟨18, [], i6 (w64 (bShr .u64 (wu64 (w64 (u1 + u3))) 1))⟩, ⟨19, [], i6 (w64 ((w64 (bShr .u64 (wu64 (w64 (u1 + u3))) 1)) + u2))⟩, ⟨20, [], i6 u1⟩, ⟨21, [], i6 u2⟩, ⟨22, [], i6 (w64 ((w64 ((w64 (bShr .u64 (wu64 (w64 (u1 + u3))) 1)) + u2)) - 1))⟩] d5 := ic.reg; clear ic
 have e0 : Fr 220 [] [⟨0, [], .slice ao1 u0.length cap2⟩, ⟨1, [], i6 u1⟩, ⟨2, [], i6 u2⟩, ⟨3, [], i6 u3⟩, ⟨4, [], .func (.func fid3) #[] caps4⟩, ⟨18, [], i6 (w64 (bShr .u64 (wu64 (w64 (u1 + u3))) 1))⟩, ⟨19, [], i6 (w64 ((w64 (bShr .u64 (wu64 (w64 (u1 + u3))) 1)) + u2))⟩, ⟨20, [], i6 u1⟩, ⟨21, [], i6 u2⟩, ⟨22, [], i6 (w64 ((w64 ((w64 (bShr .u64 (wu64 (w64 (u1 + u3))) 1)) + u2)) - 1))⟩] d5 := id.reg; clear id
 obtain ⟨p2, p3, p4⟩ := p1
 refine wp_seq_k fun KJ1450 hKJ1451 => ?_
 have p5 : ∀ (b : Int), p2 b → ∀ a1 w1, Fr 220 [] [⟨0, [], .slice ao1 u0.length cap2⟩, ⟨1, [], i6 u1⟩, ⟨2, [], i6 u2⟩, ⟨3, [], i6 u3⟩, ⟨4, [], .func (.func fid3) #[] caps4⟩, ⟨18, [], i6 (w64 (bShr .u64 (wu64 (w64 (u1 + u3))) 1))⟩, ⟨19, [], i6 (w64 ((w64 (bShr .u64 (wu64 (w64 (u1 + u3))) 1)) + u2))⟩, ⟨20, [], i6 b⟩] a1 → Mem B [] w0 Z0 ((.own tyJob 110 ao1 cap2 u0) :: Rr) Z w1 → KJ1450 a1 w1 := by
  rintro b p6 uz uA ie bX; clear e0 hM0
  refine hKJ1451 _ _ ?_; clear hKJ1451
  have d6 := p4 b p6
  refine sqB ie bX [] [] [(24, i6 (w64 ((w64 ((w64 (bShr .u64 (wu64 (w64 (u1 + u3))) 1)) + u2)) - b)))] ?_; intro uB ig; clear ie
  refine wp_seq ?_
  refine sqB ig bX [] [] [(185, .bool ((decide (b < u2)) && (decide (u2 < (w64 ((w64 ((w64 (bShr .u64 (wu64 (w64 (u1 + u3))) 1)) + u2)) - b))))))] ?_; intro uC dw; clear ig
  refine cd dw (t := (decide (b < u2)) && (decide (u2 < (w64 ((w64 ((w64 (bShr .u64 (wu64 (w64 (u1 + u3))) 1)) + u2)) - b))))) (by kernel_rfl) (fun e1 => ?_) (fun e1 => ?_)
  ·
   have p7 := d6.1 e1; clear d6
   refine rgH ?_; intro p8 ii
   refine bt dw bX 5 [] [] [(186, .slice ao1 u0.length cap2), (187, i6 b), (188, i6 u2), (189, i6 (w64 ((w64 ((w64 (bShr .u64 (wu64 (w64 (u1 + u3))) 1)) + u2)) - b))), (190, .func (.func fid3) #[] caps4)] ?_; intro uD ij; clear dw
   refine ck ij 126 #[.slice ao1 u0.length cap2, i6 b, i6 u2, i6 (w64 ((w64 ((w64 (bShr .u64 (wu64 (w64 (u1 + u3))) 1)) + u2)) - b)), .func (.func fid3) #[] caps4] ?_
   refine (srot_walk u0 b u2 (w64 ((w64 ((w64 (bShr .u64 (wu64 (w64 (u1 + u3))) 1)) + u2)) - b)) u4 ao1 cap2 fid3 caps4 _ _ _ _ _ _ (fun Z1 w1 h1 h2 => hf5 Z1 w1 (c.trans h1) h2) hg6 bX bX.fz p7).mono ?_; rintro _ p9 ⟨aF, ik, rfl, il, qa, qb, hm⟩; refine ⟨_, rfl, ?_⟩; intro qc im; have io := hm; clear hm bX ij
   replace c := Fz.le.trans c qa
   have ip : Fr 220 [] [⟨0, [], .slice ao1 aF.length cap2⟩, ⟨1, [], i6 u1⟩, ⟨2, [], i6 u2⟩, ⟨3, [], i6 u3⟩, ⟨4, [], .func (.func fid3) #[] caps4⟩, ⟨18, [], i6 (w64 (bShr .u64 (wu64 (w64 (u1 + u3))) 1))⟩, ⟨19, [], i6 (w64 ((w64 (bShr .u64 (wu64 (w64 (u1 + u3))) 1)) + u2))⟩, ⟨20, [], i6 b⟩, ⟨24, [], i6 (w64 ((w64 ((w64 (bShr .u64 (wu64 (w64 (u1 + u3))) 1)) + u2)) - b))⟩, ⟨185, [], .bool ((decide (b < u2)) && (decide (u2 < (w64 ((w64 ((w64 (bShr .u64 (wu64 (w64 (u1 + u3))) 1)) + u2)) - b)))))⟩, ⟨186, [], .slice ao1 aF.length cap2⟩, ⟨187, [], i6 b⟩, ⟨188, [], i6 u2⟩, ⟨189, [], i6 (w64 ((w64 ((w64 (bShr .u64 (wu64 (w64 (u1 + u3))) 1)) + u2)) - b))⟩, ⟨190, [], .func (.func fid3) #[] caps4⟩, ⟨191, [], .tuple #[]⟩] qc := by rw [qb]; exact im.reg
   clear im
   have cN : Mem B [] w0 Z0 ((.own tyJob 110 ao1 cap2 aF) :: Rr) ik p9 := io; clear io
   have d7 := il (cN.ownSmall 0 rfl); clear il
   refine nlH (ii _ _ ?_); clear ii p8
   refine thn ?_
   refine wp_seq ?_
   refine sqB ip cN [] [] [(199, .bool ((decide (u1 < b)) && (decide (b < (w64 (bShr .u64 (wu64 (w64 (u1 + u3))) 1))))))] ?_; intro uE dx; clear ip
   refine cd dx (t := (decide (u1 < b)) && (decide (b < (w64 (bShr .u64 (wu64 (w64 (u1 + u3))) 1))))) (by kernel_rfl) (fun e2 => ?_) (fun e2 => ?_)
   ·
    have qd := d7.1 e2; clear d7
    refine rgH ?_; intro qe iq
    refine bt dx cN 5 [] [] [(200, .slice ao1 aF.length cap2), (201, i6 u1), (202, i6 b), (203, i6 (w64 (bShr .u64 (wu64 (w64 (u1 + u3))) 1))), (204, .func (.func fid3) #[] caps4)] ?_; intro uF ir; clear dx
    obtain ⟨qf, it⟩ := qd
    refine ck ir 112 #[.slice ao1 aF.length cap2, i6 u1, i6 b, i6 (w64 (bShr .u64 (wu64 (w64 (u1 + u3))) 1)), .func (.func fid3) #[] caps4] ?_
    refine (ih aF u1 b (w64 (bShr .u64 (wu64 (w64 (u1 + u3))) 1)) u4 qf ao1 cap2 fid3 caps4 _ _ _ _ _ _ (fun Z1 w1 h1 h2 => hf5 Z1 w1 (c.trans h1) h2) hg6 cN cN.fz).mono ?_; rintro _ qg ⟨iu, rfl, qh, qi, hm⟩; refine ⟨_, rfl, ?_⟩; intro qj iv; have iw := hm; clear hm cN ir
    replace c := Fz.le.trans c qh
    have ix : Fr 220 [] [⟨0, [], .slice ao1 (segC2 aF u1 b (w64 (bShr .u64 (wu64 (w64 (u1 + u3))) 1)) u4).length cap2⟩, ⟨1, [], i6 u1⟩, ⟨2, [], i6 u2⟩, ⟨3, [], i6 u3⟩, ⟨4, [], .func (.func fid3) #[] caps4⟩, ⟨18, [], i6 (w64 (bShr .u64 (wu64 (w64 (u1 + u3))) 1))⟩, ⟨19, [], i6 (w64 ((w64 (bShr .u64 (wu64 (w64 (u1 + u3))) 1)) + u2))⟩, ⟨20, [], i6 b⟩, ⟨24, [], i6 (w64 ((w64 ((w64 (bShr .u64 (wu64 (w64 (u1 + u3))) 1)) + u2)) - b))⟩, ⟨185, [], .bool ((decide (b < u2)) && (decide (u2 < (w64 ((w64 ((w64 (bShr .u64 (wu64 (w64 (u1 + u3))) 1)) + u2)) - b)))))⟩, ⟨186, [], .slice ao1 (segC2 aF u1 b (w64 (bShr .u64 (wu64 (w64 (u1 + u3))) 1)) u4).length cap2⟩, ⟨187, [], i6 b⟩, ⟨188, [], i6 u2⟩, ⟨189, [], i6 (w64 ((w64 ((w64 (bShr .u64 (wu64 (w64 (u1 + u3))) 1)) + u2)) - b))⟩, ⟨190, [], .func (.func fid3) #[] caps4⟩, ⟨191, [], .tuple #[]⟩, ⟨199, [], .bool ((decide (u1 < b)) && (decide (b < (w64 (bShr .u64 (wu64 (w64 (u1 + u3))) 1)))))⟩, ⟨200, [], .slice ao1 (segC2 aF u1 b (w64 (bShr .u64 (wu64 (w64 (u1 + u3))) 1)) u4).length cap2⟩, ⟨201, [], i6 u1⟩, ⟨202, [], i6 b⟩, ⟨203, [], i6 (w64 (bShr .u64 (wu64 (w64 (u1 + u3))) 1))⟩, ⟨204, [], .func (.func fid3) #[] caps4⟩, ⟨205, [], .tuple #[]⟩] qj := by rw [qi]; exact iv.reg
    clear iv
    have df : Mem B [] w0 Z0 ((.own tyJob 110 ao1 cap2 (segC2 aF u1 b (w64 (bShr .u64 (wu64 (w64 (u1 + u3))) 1)) u4)) :: Rr) iu qg := iw; clear iw
    have d8 := it (df.ownSmall 0 rfl); clear it
    refine nlH (iq _ _ ?_); clear iq qe
    refine thn ?_
    refine sqB ix df [] [] [(213, .bool ((decide ((w64 (bShr .u64 (wu64 (w64 (u1 + u3))) 1)) < (w64 ((w64 ((w64 (bShr .u64 (wu64 (w64 (u1 + u3))) 1)) + u2)) - b)))) && (decide ((w64 ((w64 ((w64 (bShr .u64 (wu64 (w64 (u1 + u3))) 1)) + u2)) - b)) < u3))))] ?_; intro uG dy; clear ix
    refine cd dy (t := (decide ((w64 (bShr .u64 (wu64 (w64 (u1 + u3))) 1)) < (w64 ((w64 ((w64 (bShr .u64 (wu64 (w64 (u1 + u3))) 1)) + u2)) - b)))) && (decide ((w64 ((w64 ((w64 (bShr .u64 (wu64 (w64 (u1 + u3))) 1)) + u2)) - b)) < u3))) (by kernel_rfl) (fun e3 => ?_) (fun e3 => ?_)
    ·
     have qk := d8.1 e3; clear d8
     refine rgH ?_; intro ql iy
     refine bt dy df 5 [] [] [(214, .slice ao1 (segC2 aF u1 b (w64 (bShr .u64 (wu64 (w64 (u1 + u3))) 1)) u4).length cap2), (215, i6 (w64 (bShr .u64 (wu64 (w64 (u1 + u3))) 1))), (216, i6 (w64 ((w64 ((w64 (bShr .u64 (wu64 (w64 (u1 + u3))) 1)) + u2)) - b))), (217, i6 u3), (218, .func (.func fid3) #[] caps4)] ?_; intro uH iz; clear dy
     obtain ⟨qm, iA⟩ := qk
     refine ck iz 112 #[.slice ao1 (segC2 aF u1 b (w64 (bShr .u64 (wu64 (w64 (u1 + u3))) 1)) u4).length cap2, i6 (w64 (bShr .u64 (wu64 (w64 (u1 + u3))) 1)), i6 (w64 ((w64 ((w64 (bShr .u64 (wu64 (w64 (u1 + u3))) 1)) + u2)) - b)), i6 u3, .func (.func fid3) #[] caps4] ?_
     refine (ih (segC2 aF u1 b (w64 (bShr .u64 (wu64 (w64 (u1 + u3))) 1)) u4) (w64 (bShr .u64 (wu64 (w64 (u1 + u3))) 1)) (w64 ((w64 ((w64 (bShr .u64 (wu64 (w64 (u1 + u3))) 1)) + u2)) - b)) u3 u4 qm ao1 cap2 fid3 caps4 _ _ _ _ _ _ (fun Z1 w1 h1 h2 => hf5 Z1 w1 (c.trans h1) h2) hg6 df df.fz).mono ?_; rintro _ qn ⟨iB, rfl, qo, qp, hm⟩; refine ⟨_, rfl, ?_⟩; intro qq iC; have iD := hm; clear hm df iz
     replace c := Fz.le.trans c qo
     have iE : Fr 220 [] [⟨0, [], .slice ao1 (segC2 (segC2 aF u1 b (w64 (bShr .u64 (wu64 (w64 (u1 + u3))) 1)) u4) (w64 (bShr .u64 (wu64 (w64 (u1 + u3))) 1)) (w64 ((w64 ((w64 (bShr .u64 (wu64 (w64 (u1 + u3))) 1)) + u2)) - b)) u3 u4).length cap2⟩, ⟨1, [], i6 u1⟩, ⟨2, [], i6 u2⟩, ⟨3, [], i6 u3⟩, ⟨4, [], .func (.func fid3) #[] caps4⟩, ⟨18, [], i6 (w64 (bShr .u64 (wu64 (w64 (u1 + u3))) 1))⟩, ⟨19, [], i6 (w64 ((w64 (bShr .u64 (wu64 (w64 (u1 + u3))) 1)) + u2))⟩, ⟨20, [], i6 b⟩, ⟨24, [], i6 (w64 ((w64 ((w64 (bShr .u64 (wu64 (w64 (u1 + u3))) 1)) + u2)) - b))⟩, ⟨185, [], .bool ((decide (b < u2)) && (decide (u2 < (w64 ((w64 ((w64 (bShr .u64 (wu64 (w64 (u1 + u3))) 1)) + u2)) - b)))))⟩, ⟨186, [], .slice ao1 (segC2 (segC2 aF u1 b (w64 (bShr .u64 (wu64 (w64 (u1 + u3))) 1)) u4) (w64 (bShr .u64 (wu64 (w64 (u1 + u3))) 1)) (w64 ((w64 ((w64 (bShr .u64 (wu64 (w64 (u1 + u3))) 1)) + u2)) - b)) u3 u4).length cap2⟩, ⟨187, [], i6 b⟩, ⟨188, [], i6 u2⟩, ⟨189, [], i6 (w64 ((w64 ((w64 (bShr .u64 (wu64 (w64 (u1 + u3))) 1)) + u2)) - b))⟩, ⟨190, [], .func (.func fid3) #[] caps4⟩, ⟨191, [], .tuple #[]⟩, ⟨199, [], .bool ((decide (u1 < b)) && (decide (b < (w64 (bShr .u64 (wu64 (w64 (u1 + u3))) 1)))))⟩, ⟨200, [], .slice ao1 (segC2 (segC2 aF u1 b (w64 (bShr .u64 (wu64 (w64 (u1 + u3))) 1)) u4) (w64 (bShr .u64 (wu64 (w64 (u1 + u3))) 1)) (w64 ((w64 ((w64 (bShr .u64 (wu64 (w64 (u1 + u3))) 1)) + u2)) - b)) u3 u4).length cap2⟩, ⟨201, [], i6 u1⟩, ⟨202, [], i6 b⟩, ⟨203, [], i6 (w64 (bShr .u64 (wu64 (w64 (u1 + u3))) 1))⟩, ⟨204, [], .func (.func fid3) #[] caps4⟩, ⟨205, [], .tuple #[]⟩, ⟨213, [], .bool ((decide ((w64 (bShr .u64 (wu64 (w64 (u1 + u3))) 1)) < (w64 ((w64 ((w64 (bShr .u64 (wu64 (w64 (u1 + u3))) 1)) + u2)) - b)))) && (decide ((w64 ((w64 ((w64 (bShr .u64 (wu64 (w64 (u1 + u3))) 1)) + u2)) - b)) < u3)))⟩, ⟨214, [], .slice ao1 (segC2 (segC2 aF u1 b (w64 (bShr .u64 (wu64 (w64 (u1 + u3))) 1)) u4) (w64 (bShr .u64 (wu64 (w64 (u1 + u3))) 1)) (w64 ((w64 ((w64 (bShr .u64 (wu64 (w64 (u1 + u3))) 1)) + u2)) - b)) u3 u4).length cap2⟩, ⟨215, [], i6 (w64 (bShr .u64 (wu64 (w64 (u1 + u3))) 1))⟩, ⟨216, [], i6 (w64 ((w64 ((w64 (bShr .u64 (wu64 (w64 (u1 + u3))) 1)) + u2)) - b))⟩, ⟨217, [], i6 u3⟩, ⟨218, [], .func (.func fid3) #[] caps4⟩, ⟨219, [], .tuple #[]⟩] qq := by rw [qp]; exact iC.reg
     clear iC
     have iF : Mem B [] w0 Z0 ((.own tyJob 110 ao1 cap2 (segC2 (segC2 aF u1 b (w64 (bShr .u64 (wu64 (w64 (u1 + u3))) 1)) u4) (w64 (bShr .u64 (wu64 (w64 (u1 + u3))) 1)) (w64 ((w64 ((w64 (bShr .u64 (wu64 (w64 (u1 + u3))) 1)) + u2)) - b)) u3 u4)) :: Rr) iB qn := iD; clear iD
     have qr := iA (iF.ownSmall 0 rfl); clear iA
     refine nlH (iy _ _ ?_); clear iy ql
     obtain ⟨qs, qt⟩ := qr
     refine rN (fn := Try.f112) (v := .tuple #[]) iE (re0 iE (fn := Try.f112) rfl) ?_
     exact ⟨(segC2 (segC2 aF u1 b (w64 (bShr .u64 (wu64 (w64 (u1 + u3))) 1)) u4) (w64 (bShr .u64 (wu64 (w64 (u1 + u3))) 1)) (w64 ((w64 ((w64 (bShr .u64 (wu64 (w64 (u1 + u3))) 1)) + u2)) - b)) u3 u4), iB, rfl, qt, c, qs, iF.keep (List.Sublist.cons_cons _ (List.Sublist.refl _))⟩
    have qu := d8.2 e3; clear d8
    refine wp_skip ?_
    obtain ⟨qv, qw⟩ := qu
    refine rN (fn := Try.f112) (v := .tuple #[]) dy (re0 dy (fn := Try.f112) rfl) ?_
    exact ⟨(segC2 aF u1 b (w64 (bShr .u64 (wu64 (w64 (u1 + u3))) 1)) u4), iu, rfl, qw, c, qv, df.keep (List.Sublist.cons_cons _ (List.Sublist.refl _))⟩
   have d9 := d7.2 e2; clear d7
   refine wp_skip ?_
   refine thn ?_
   refine sqB dx cN [] [] [(213, .bool ((decide ((w64 (bShr .u64 (wu64 (w64 (u1 + u3))) 1)) < (w64 ((w64 ((w64 (bShr .u64 (wu64 (w64 (u1 + u3))) 1)) + u2)) - b)))) && (decide ((w64 ((w64 ((w64 (bShr .u64 (wu64 (w64 (u1 + u3))) 1)) + u2)) - b)) < u3))))] ?_; intro uI dz; clear dx
   refine cd dz (t := (decide ((w64 (bShr .u64 (wu64 (w64 (u1 + u3))) 1)) < (w64 ((w64 ((w64 (bShr .u64 (wu64 (w64 (u1 + u3))) 1)) + u2)) - b)))) && (decide ((w64 ((w64 ((w64 (bShr .u64 (wu64 (w64 (u1 + u3))) 1)) + u2)) - b)) < u3))) (by kernel_rfl) (fun e4 => ?_) (fun e4 => ?_)
   ·
    have qx := d9.1 e4; clear d9
    refine rgH ?_; intro qy iG
    refine bt dz cN 5 [] [] [(214, .slice ao1 aF.length cap2), (215, i6 (w64 (bShr .u64 (wu64 (w64 (u1 + u3))) 1))), (216, i6 (w64 ((w64 ((w64 (bShr .u64 (wu64 (w64 (u1 + u3))) 1)) + u2)) - b))), (217, i6 u3), (218, .func (.func fid3) #[] caps4)] ?_; intro uJ iH; clear dz
    obtain ⟨qz, iI⟩ := qx
    refine ck iH 112 #[.slice ao1 aF.length cap2, i6 (w64 (bShr .u64 (wu64 (w64 (u1 + u3))) 1)), i6 (w64 ((w64 ((w64 (bShr .u64 (wu64 (w64 (u1 + u3))) 1)) + u2)) - b)), i6 u3, .func (.func fid3) #[] caps4] ?_
    refine (ih aF (w64 (bShr .u64 (wu64 (w64 (u1 + u3))) 1)) (w64 ((w64 ((w64 (bShr .u64 (wu64 (w64 (u1 + u3))) 1)) + u2)) - b)) u3 u4 qz ao1 cap2 fid3 caps4 _ _ _ _ _ _ (fun Z1 w1 h1 h2 => hf5 Z1 w1 (c.trans h1) h2) hg6 cN cN.fz).mono ?_; rintro _ qA ⟨iJ, rfl, qB, qC, hm⟩; refine ⟨_, rfl, ?_⟩; intro qD iK; have iL := hm; clear hm cN iH
    replace c := Fz.le.trans c qB
    have iM : Fr 220 [] [⟨0, [], .slice ao1 (segC2 aF (w64 (bShr .u64 (wu64 (w64 (u1 + u3))) 1)) (w64 ((w64 ((w64 (bShr .u64 (wu64 (w64 (u1 + u3))) 1)) + u2)) - b)) u3 u4).length cap2⟩, ⟨1, [], i6 u1⟩, ⟨2, [], i6 u2⟩, ⟨3, [], i6 u3⟩, ⟨4, [], .func (.func fid3) #[] caps4⟩, ⟨18, [], i6 (w64 (bShr .u64 (wu64 (w64 (u1 + u3))) 1))⟩, ⟨19, [], i6 (w64 ((w64 (bShr .u64 (wu64 (w64 (u1 + u3))) 1)) + u2))⟩, ⟨20, [], i6 b⟩, ⟨24, [], i6 (w64 ((w64 ((w64 (bShr .u64 (wu64 (w64 (u1 + u3))) 1)) + u2)) - b))⟩, ⟨185, [], .bool ((decide (b < u2)) && (decide (u2 < (w64 ((w64 ((w64 (bShr .u64 (wu64 (w64 (u1 + u3))) 1)) + u2)) - b)))))⟩, ⟨186, [], .slice ao1 (segC2 aF (w64 (bShr .u64 (wu64 (w64 (u1 + u3))) 1)) (w64 ((w64 ((w64 (bShr .u64 (wu64 (w64 (u1 + u3))) 1)) + u2)) - b)) u3 u4).length cap2⟩, ⟨187, [], i6 b⟩, ⟨188, [], i6 u2⟩, ⟨189, [], i6 (w64 ((w64 ((w64 (bShr .u64 (wu64 (w64 (u1 + u3))) 1)) + u2)) - b))⟩, ⟨190, [], .func (.func fid3) #[] caps4⟩, ⟨191, [], .tuple #[]⟩, ⟨199, [], .bool ((decide (u1 < b)) && (decide (b < (w64 (bShr .u64 (wu64 (w64 (u1 + u3))) 1)))))⟩, ⟨213, [], .bool ((decide ((w64 (bShr .u64 (wu64 (w64 (u1 + u3))) 1)) < (w64 ((w64 ((w64 (bShr .u64 (wu64 (w64 (u1 + u3))) 1)) + u2)) - b)))) && (decide ((w64 ((w64 ((w64 (bShr .u64 (wu64 (w64 (u1 + u3))) 1)) + u2)) - b)) < u3)))⟩, ⟨214, [], .slice ao1 (segC2 aF (w64 (bShr .u64 (wu64 (w64 (u1 + u3))) 1)) (w64 ((w64 ((w64 (bShr .u64 (wu64 (w64 (u1 + u3))) 1)) + u2)) - b)) u3 u4).length cap2⟩, ⟨215, [], i6 (w64 (bShr .u64 (wu64 (w64 (u1 + u3))) 1))⟩, ⟨216, [], i6 (w64 ((w64 ((w64 (bShr .u64 (wu64 (w64 (u1 + u3))) 1)) + u2)) - b))⟩, ⟨217, [], i6 u3⟩, ⟨218, [], .func (.func fid3) #[] caps4⟩, ⟨219, [], .tuple #[]⟩] qD := by rw [qC]; exact iK.reg
    clear iK
    have iN : Mem B [] w0 Z0 ((.own tyJob 110 ao1 cap2 (segC2 aF (w64 (bShr .u64 (wu64 (w64 (u1 + u3))) 1)) (w64 ((w64 ((w64 (bShr .u64 (wu64 (w64 (u1 + u3))) 1)) + u2)) - b)) u3 u4)) :: Rr) iJ qA := iL; clear iL
    have qE := iI (iN.ownSmall 0 rfl); clear iI
    refine nlH (iG _ _ ?_); clear iG qy
    obtain ⟨qF, qG⟩ := qE
    refine rN (fn := Try.f112) (v := .tuple #[]) iM (re0 iM (fn := Try.f112) rfl) ?_
    exact ⟨(segC2 aF (w64 (bShr .u64 (wu64 (w64 (u1 + u3))) 1)) (w64 ((w64 ((w64 (bShr .u64 (wu64 (w64 (u1 + u3))) 1)) + u2)) - b)) u3 u4), iJ, rfl, qG, c, qF, iN.keep (List.Sublist.cons_cons _ (List.Sublist.refl _))⟩
   have qH := d9.2 e4; clear d9
   refine wp_skip ?_
   obtain ⟨qI, qJ⟩ := qH
   refine rN (fn := Try.f112) (v := .tuple #[]) dz (re0 dz (fn := Try.f112) rfl) ?_
   exact ⟨aF, ik, rfl, qJ, c, qI, cN.keep (List.Sublist.cons_cons _ (List.Sublist.refl _))⟩
  have ea := d6.2 e1; clear d6
  refine wp_skip ?_
  refine thn ?_
  refine wp_seq ?_
  refine sqB dw bX [] [] [(199, .bool ((decide (u1 < b)) && (decide (b < (w64 (bShr .u64 (wu64 (w64 (u1 + u3))) 1))))))] ?_; intro uK dA; clear dw
  refine cd dA (t := (decide (u1 < b)) && (decide (b < (w64 (bShr .u64 (wu64 (w64 (u1 + u3))) 1))))) (by kernel_rfl) (fun e5 => ?_) (fun e5 => ?_)
  ·
   have qK := ea.1 e5; clear ea
   refine rgH ?_; intro qL iO
   refine bt dA bX 5 [] [] [(200, .slice ao1 u0.length cap2), (201, i6 u1), (202, i6 b), (203, i6 (w64 (bShr .u64 (wu64 (w64 (u1 + u3))) 1))), (204, .func (.func fid3) #[] caps4)] ?_; intro uL iP; clear dA
   obtain ⟨qM, iQ⟩ := qK
   refine ck iP 112 #[.slice ao1 u0.length cap2, i6 u1, i6 b, i6 (w64 (bShr .u64 (wu64 (w64 (u1 + u3))) 1)), .func (.func fid3) #[] caps4] ?_
   refine (ih u0 u1 b (w64 (bShr .u64 (wu64 (w64 (u1 + u3))) 1)) u4 qM ao1 cap2 fid3 caps4 _ _ _ _ _ _ (fun Z1 w1 h1 h2 => hf5 Z1 w1 (c.trans h1) h2) hg6 bX bX.fz).mono ?_; rintro _ qN ⟨iR, rfl, qO, qP, hm⟩; refine ⟨_, rfl, ?_⟩; intro qQ iS; have iT := hm; clear hm bX iP
   replace c := Fz.le.trans c qO
   have iU : Fr 220 [] [⟨0, [], .slice ao1 (segC2 u0 u1 b (w64 (bShr .u64 (wu64 (w64 (u1 + u3))) 1)) u4).length cap2⟩, ⟨1, [], i6 u1⟩, ⟨2, [], i6 u2⟩, ⟨3, [], i6 u3⟩, ⟨4, [], .func (.func fid3) #[] caps4⟩, ⟨18, [], i6 (w64 (bShr .u64 (wu64 (w64 (u1 + u3))) 1))⟩, ⟨19, [], i6 (w64 ((w64 (bShr .u64 (wu64 (w64 (u1 + u3))) 1)) + u2))⟩, ⟨20, [], i6 b⟩, ⟨24, [], i6 (w64 ((w64 ((w64 (bShr .u64 (wu64 (w64 (u1 + u3))) 1)) + u2)) - b))⟩, ⟨185, [], .bool ((decide (b < u2)) && (decide (u2 < (w64 ((w64 ((w64 (bShr .u64 (wu64 (w64 (u1 + u3))) 1)) + u2)) - b)))))⟩, ⟨199, [], .bool ((decide (u1 < b)) && (decide (b < (w64 (bShr .u64 (wu64 (w64 (u1 + u3))) 1)))))⟩, ⟨200, [], .slice ao1 (segC2 u0 u1 b (w64 (bShr .u64 (wu64 (w64 (u1 + u3))) 1)) u4).length cap2⟩, ⟨201, [], i6 u1⟩, ⟨202, [], i6 b⟩, ⟨203, [], i6 (w64 (bShr .u64 (wu64 (w64 (u1 + u3))) 1))⟩, ⟨204, [], .func (.func fid3) #[] caps4⟩, ⟨205, [], .tuple #[]⟩] qQ := by rw [qP]; exact iS.reg
   clear iS
   have dg : Mem B [] w0 Z0 ((.own tyJob 110 ao1 cap2 (segC2 u0 u1 b (w64 (bShr .u64 (wu64 (w64 (u1 + u3))) 1)) u4)) :: Rr) iR qN := iT; clear iT
   have eb := iQ (dg.ownSmall 0 rfl); clear iQ
   refine nlH (iO _ _ ?_); clear iO qL
   refine thn ?_
   refine sqB iU dg [] [] [(213, .bool ((decide ((w64 (bShr .u64 (wu64 (w64 (u1 + u3))) 1)) < (w64 ((w64 ((w64 (bShr .u64 (wu64 (w64 (u1 + u3))) 1)) + u2)) - b)))) && (decide ((w64 ((w64 ((w64 (bShr .u64 (wu64 (w64 (u1 + u3))) 1)) + u2)) - b)) < u3))))] ?_; intro uM dB; clear iU
   refine cd dB (t := (decide ((w64 (bShr .u64 (wu64 (w64 (u1 + u3))) 1)) < (w64 ((w64 ((w64 (bShr .u64 (wu64 (w64 (u1 + u3))) 1)) + u2)) - b)))) && (decide ((w64 ((w64 ((w64 (bShr .u64 (wu64 (w64 (u1 + u3))) 1)) + u2)) - b)) < u3))) (by kernel_rfl) (fun e6 => ?_) (fun e6 => ?_)
   ·
    have qR := eb.1 e6; clear eb
    refine rgH ?_; intro qS iV
    refine bt dB dg 5 [] [] [(214, .slice ao1 (segC2 u0 u1 b (w64 (bShr .u64 (wu64 (w64 (u1 + u3))) 1)) u4).length cap2), (215, i6 (w64 (bShr .u64 (wu64 (w64 (u1 + u3))) 1))), (216, i6 (w64 ((w64 ((w64 (bShr .u64 (wu64 (w64 (u1 + u3))) 1)) + u2)) - b))), (217, i6 u3), (218, .func (.func fid3) #[] caps4)] ?_; intro uN iW; clear dB
    obtain ⟨qT, iX⟩ := qR
    refine ck iW 112 #[.slice ao1 (segC2 u0 u1 b (w64 (bShr .u64 (wu64 (w64 (u1 + u3))) 1)) u4).length cap2, i6 (w64 (bShr .u64 (wu64 (w64 (u1 + u3))) 1)), i6 (w64 ((w64 ((w64 (bShr .u64 (wu64 (w64 (u1 + u3))) 1)) + u2)) - b)), i6 u3, .func (.func fid3) #[] caps4] ?_
    refine (ih (segC2 u0 u1 b (w64 (bShr .u64 (wu64 (w64 (u1 + u3))) 1)) u4) (w64 (bShr .u64 (wu64 (w64 (u1 + u3))) 1)) (w64 ((w64 ((w64 (bShr .u64 (wu64 (w64 (u1 + u3))) 1)) + u2)) - b)) u3 u4 qT ao1 cap2 fid3 caps4 _ _ _ _ _ _ (fun Z1 w1 h1 h2 => hf5 Z1 w1 (c.trans h1) h2) hg6 dg dg.fz).mono ?_; rintro _ qU ⟨iY, rfl, qV, qW, hm⟩; refine ⟨_, rfl, ?_⟩; intro qX iZ; have i0 := hm; clear hm dg iW
    replace c := Fz.le.trans c qV
    have i1 : Fr 220 [] [⟨0, [], .slice ao1 (segC2 (segC2 u0 u1 b (w64 (bShr .u64 (wu64 (w64 (u1 + u3))) 1)) u4) (w64 (bShr .u64 (wu64 (w64 (u1 + u3))) 1)) (w64 ((w64 ((w64 (bShr .u64 (wu64 (w64 (u1 + u3))) 1)) + u2)) - b)) u3 u4).length cap2⟩, ⟨1, [], i6 u1⟩, ⟨2, [], i6 u2⟩, ⟨3, [], i6 u3⟩, ⟨4, [], .func (.func fid3) #[] caps4⟩, ⟨18, [], i6 (w64 (bShr .u64 (wu64 (w64 (u1 + u3))) 1))⟩, ⟨19, [], i6 (w64 ((w64 (bShr .u64 (wu64 (w64 (u1 + u3))) 1)) + u2))⟩, ⟨20, [], i6 b⟩, ⟨24, [], i6 (w64 ((w64 ((w64 (bShr .u64 (wu64 (w64 (u1 + u3))) 1)) + u2)) - b))⟩, ⟨185, [], .bool ((decide (b < u2)) && (decide (u2 < (w64 ((w64 ((w64 (bShr .u64 (wu64 (w64 (u1 + u3))) 1)) + u2)) - b)))))⟩, ⟨199, [], .bool ((decide (u1 < b)) && (decide (b < (w64 (bShr .u64 (wu64 (w64 (u1 + u3))) 1)))))⟩, ⟨200, [], .slice ao1 (segC2 (segC2 u0 u1 b (w64 (bShr .u64 (wu64 (w64 (u1 + u3))) 1)) u4) (w64 (bShr .u64 (wu64 (w64 (u1 + u3))) 1)) (w64 ((w64 ((w64 (bShr .u64 (wu64 (w64 (u1 + u3))) 1)) + u2)) - b)) u3 u4).length cap2⟩, ⟨201, [], i6 u1⟩, ⟨202, [], i6 b⟩, ⟨203, [], i6 (w64 (bShr .u64 (wu64 (w64 (u1 + u3))) 1))⟩, ⟨204, [], .func (.func fid3) #[] caps4⟩, ⟨205, [], .tuple #[]⟩, ⟨213, [], .bool ((decide ((w64 (bShr .u64 (wu64 (w64 (u1 + u3))) 1)) < (w64 ((w64 ((w64 (bShr .u64 (wu64 (w64 (u1 + u3))) 1)) + u2)) - b)))) && (decide ((w64 ((w64 ((w64 (bShr .u64 (wu64 (w64 (u1 + u3))) 1)) + u2)) - b)) < u3)))⟩, ⟨214, [], .slice ao1 (segC2 (segC2 u0 u1 b (w64 (bShr .u64 (wu64 (w64 (u1 + u3))) 1)) u4) (w64 (bShr .u64 (wu64 (w64 (u1 + u3))) 1)) (w64 ((w64 ((w64 (bShr .u64 (wu64 (w64 (u1 + u3))) 1)) + u2)) - b)) u3 u4).length cap2⟩, ⟨215, [], i6 (w64 (bShr .u64 (wu64 (w64 (u1 + u3))) 1))⟩, ⟨216, [], i6 (w64 ((w64 ((w64 (bShr .u64 (wu64 (w64 (u1 + u3))) 1)) + u2)) - b))⟩, ⟨217, [], i6 u3⟩, ⟨218, [], .func (.func fid3) #[] caps4⟩, ⟨219, [], .tuple #[]⟩] qX := by rw [qW]; exact iZ.reg
    clear iZ
    have i2 : Mem B [] w0 Z0 ((.own tyJob 110 ao1 cap2 (segC2 (segC2 u0 u1 b (w64 (bShr .u64 (wu64 (w64 (u1 + u3))) 1)) u4) (w64 (bShr .u64 (wu64 (w64 (u1 + u3))) 1)) (w64 ((w64 ((w64 (bShr .u64 (wu64 (w64 (u1 + u3))) 1)) + u2)) - b)) u3 u4)) :: Rr) iY qU := i0; clear i0
    have qY := iX (i2.ownSmall 0 rfl); clear iX
    refine nlH (iV _ _ ?_); clear iV qS
    obtain ⟨qZ, q0⟩ := qY
    refine rN (fn := Try.f112) (v := .tuple #[]) i1 (re0 i1 (fn := Try.f112) rfl) ?_
    exact ⟨(segC2 (segC2 u0 u1 b (w64 (bShr .u64 (wu64 (w64 (u1 + u3))) 1)) u4) (w64 (bShr .u64 (wu64 (w64 (u1 + u3))) 1)) (w64 ((w64 ((w64 (bShr .u64 (wu64 (w64 (u1 + u3))) 1)) + u2)) - b)) u3 u4), iY, rfl, q0, c, qZ, i2.keep (List.Sublist.cons_cons _ (List.Sublist.refl _))⟩
   have q1 := eb.2 e6; clear eb
   refine wp_skip ?_
   obtain ⟨q2, q3⟩ := q1
   refine rN (fn := Try.f112) (v := .tuple #[]) dB (re0 dB (fn := Try.f112) rfl) ?_
   exact ⟨(segC2 u0 u1 b (w64 (bShr .u64 (wu64 (w64 (u1 + u3))) 1)) u4), iR, rfl, q3, c, q2, dg.keep (List.Sublist.cons_cons _ (List.Sublist.refl _))⟩
  have ec := ea.2 e5; clear ea
  refine wp_skip ?_
  refine thn ?_
  refine sqB dA bX [] [] [(213, .bool ((decide ((w64 (bShr .u64 (wu64 (w64 (u1 + u3))) 1)) < (w64 ((w64 ((w64 (bShr .u64 (wu64 (w64 (u1 + u3))) 1)) + u2)) - b)))) && (decide ((w64 ((w64 ((w64 (bShr .u64 (wu64 (w64 (u1 + u3))) 1)) + u2)) - b)) < u3))))] ?_; intro uO dC; clear dA
  refine cd dC (t := (decide ((w64 (bShr .u64 (wu64 (w64 (u1 + u3))) 1)) < (w64 ((w64 ((w64 (bShr .u64 (wu64 (w64 (u1 + u3))) 1)) + u2)) - b)))) && (decide ((w64 ((w64 ((w64 (bShr .u64 (wu64 (w64 (u1 + u3))) 1)) + u2)) - b)) < u3))) (by kernel_rfl) (fun e7 => ?_) (fun e7 => ?_)
  ·
   have q4 := ec.1 e7; clear ec
   refine rgH ?_; intro q5 i3
   refine bt dC bX 5 [] [] [(214, .slice ao1 u0.length cap2), (215, i6 (w64 (bShr .u64 (wu64 (w64 (u1 + u3))) 1))), (216, i6 (w64 ((w64 ((w64 (bShr .u64 (wu64 (w64 (u1 + u3))) 1)) + u2)) - b))), (217, i6 u3), (218, .func (.func fid3) #[] caps4)] ?_; intro uP i4; clear dC
   obtain ⟨q6, i5⟩ := q4
   refine ck i4 112 #[.slice ao1 u0.length cap2, i6 (w64 (bShr .u64 (wu64 (w64 (u1 + u3))) 1)), i6 (w64 ((w64 ((w64 (bShr .u64 (wu64 (w64 (u1 + u3))) 1)) + u2)) - b)), i6 u3, .func (.func fid3) #[] caps4] ?_
   refine (ih u0 (w64 (bShr .u64 (wu64 (w64 (u1 + u3))) 1)) (w64 ((w64 ((w64 (bShr .u64 (wu64 (w64 (u1 + u3))) 1)) + u2)) - b)) u3 u4 q6 ao1 cap2 fid3 caps4 _ _ _ _ _ _ (fun Z1 w1 h1 h2 => hf5 Z1 w1 (c.trans h1) h2) hg6 bX bX.fz).mono ?_; rintro _ q7 ⟨i7, rfl, q8, q9, hm⟩; refine ⟨_, rfl, ?_⟩; intro ra i8; have i9 := hm; clear hm bX i4
   replace c := Fz.le.trans c q8
   have ja : Fr 220 [] [⟨0, [], .slice ao1 (segC2 u0 (w64 (bShr .u64 (wu64 (w64 (u1 + u3))) 1)) (w64 ((w64 ((w64 (bShr .u64 (wu64 (w64 (u1 + u3))) 1)) + u2)) - b)) u3 u4).length cap2⟩, ⟨1, [], i6 u1⟩, ⟨2, [], i6 u2⟩, ⟨3, [], i6 u3⟩, ⟨4, [], .func (.func fid3) #[] caps4⟩, ⟨18, [], i6 (w64 (bShr .u64 (wu64 (w64 (u1 + u3))) 1))⟩, ⟨19, [], i6 (w64 ((w64 (bShr .u64 (wu64 (w64 (u1 + u3))) 1)) + u2))⟩, ⟨20, [], i6 b⟩, ⟨24, [], i6 (w64 ((w64 ((w64 (bShr .u64 (wu64 (w64 (u1 + u3))) 1)) + u2)) - b))⟩, ⟨185, [], .bool ((decide (b < u2)) && (decide (u2 < (w64 ((w64 ((w64 (bShr .u64 (wu64 (w64 (u1 + u3))) 1)) + u2)) - b)))))⟩, ⟨199, [], .bool ((decide (u1 < b)) && (decide (b < (w64 (bShr .u64 (wu64 (w64 (u1 + u3))) 1)))))⟩, ⟨213, [], .bool ((decide ((w64 (bShr .u64 (wu64 (w64 (u1 + u3))) 1)) < (w64 ((w64 ((w64 (bShr .u64 (wu64 (w64 (u1 + u3))) 1)) + u2)) - b)))) && (decide ((w64 ((w64 ((w64 (bShr .u64 (wu64 (w64 (u1 + u3))) 1)) + u2)) - b)) < u3)))⟩, ⟨214, [], .slice ao1 (segC2 u0 (w64 (bShr .u64 (wu64 (w64 (u1 + u3))) 1)) (w64 ((w64 ((w64 (bShr .u64 (wu64 (w64 (u1 + u3))) 1)) + u2)) - b)) u3 u4).length cap2⟩, ⟨215, [], i6 (w64 (bShr .u64 (wu64 (w64 (u1 + u3))) 1))⟩, ⟨216, [], i6 (w64 ((w64 ((w64 (bShr .u64 (wu64 (w64 (u1 + u3))) 1)) + u2)) - b))⟩, ⟨217, [], i6 u3⟩, ⟨218, [], .func (.func fid3) #[] caps4⟩, ⟨219, [], .tuple #[]⟩] ra := by rw [q9]; exact i8.reg
   clear i8
   have jb : Mem B [] w0 Z0 ((.own tyJob 110 ao1 cap2 (segC2 u0 (w64 (bShr .u64 (wu64 (w64 (u1 + u3))) 1)) (w64 ((w64 ((w64 (bShr .u64 (wu64 (w64 (u1 + u3))) 1)) + u2)) - b)) u3 u4)) :: Rr) i7 q7 := i9; clear i9
   have rb := i5 (jb.ownSmall 0 rfl); clear i5
   refine nlH (i3 _ _ ?_); clear i3 q5
   obtain ⟨rc, re⟩ := rb
   refine rN (fn := Try.f112) (v := .tuple #[]) ja (re0 ja (fn := Try.f112) rfl) ?_
   exact ⟨(segC2 u0 (w64 (bShr .u64 (wu64 (w64 (u1 + u3))) 1)) (w64 ((w64 ((w64 (bShr .u64 (wu64 (w64 (u1 + u3))) 1)) + u2)) - b)) u3 u4), i7, rfl, re, c, rc, jb.keep (List.Sublist.cons_cons _ (List.Sublist.refl _))⟩
  have rf := ec.2 e7; clear ec
  refine wp_skip ?_
  obtain ⟨rg, rh⟩ := rf
  refine rN (fn := Try.f112) (v := .tuple #[]) dC (re0 dC (fn := Try.f112) rfl) ?_
  exact ⟨u0, Z, rfl, rh, c, rg, bX.keep (List.Sublist.cons_cons _ (List.Sublist.refl _))⟩
 refine wp_block ?_
 have jc : Fr 220 [] [⟨0, [], .slice ao1 u0.length cap2⟩, ⟨1, [], i6 u1⟩, ⟨2, [], i6 u2⟩, ⟨3, [], i6 u3⟩, ⟨4, [], .func (.func fid3) #[] caps4⟩, ⟨18, [], i6 (w64 (bShr .u64 (wu64 (w64 (u1 + u3))) 1))⟩, ⟨19, [], i6 (w64 ((w64 (bShr .u64 (wu64 (w64 (u1 + u3))) 1)) + u2))⟩, ⟨20, [], i6 u1⟩, ⟨21, [], i6 u2⟩, ⟨22, [], i6 (w64 ((w64 ((w64 (bShr .u64 (wu64 (w64 (u1 + u3))) 1)) + u2)) - 1))⟩] d5 := e0.reg; clear e0
 have jd : Fr 220 [] [⟨0, [], .slice ao1 u0.length cap2⟩, ⟨1, [], i6 u1⟩, ⟨2, [], i6 u2⟩, ⟨3, [], i6 u3⟩, ⟨4, [], .func (.func fid3) #[] caps4⟩, ⟨18, [], i6 (w64 (bShr .u64 (wu64 (w64 (u1 + u3))) 1))⟩, ⟨19, [], i6 (w64 ((w64 (bShr .u64 (wu64 (w64 (u1 + u3))) 1)) + u2))⟩, ⟨20, [], i6 u1⟩, ⟨21, [], i6 u2⟩, ⟨22, [], i6 (w64 ((w64 ((w64 (bShr .u64 (wu64 (w64 (u1 + u3))) 1)) + u2)) - 1))⟩] d5 := jc.reg; clear jc
 obtain ⟨ri, rj, rk, rl⟩ := p3
 refine lp (ι := Int × Int) (fun s => [⟨0, [], .slice ao1 u0.length cap2⟩, ⟨1, [], i6 u1⟩, ⟨2, [], i6 u2⟩, ⟨3, [], i6 u3⟩, ⟨4, [], .func (.func fid3) #[] caps4⟩, ⟨18, [], i6 (w64 (bShr .u64 (wu64 (w64 (u1 + u3))) 1))⟩, ⟨19, [], i6 (w64 ((w64 (bShr .u64 (wu64 (w64 (u1 + u3))) 1)) + u2))⟩, ⟨20, [], i6 s.1⟩, ⟨21, [], i6 s.2⟩, ⟨22, [], i6 (w64 ((w64 ((w64 (bShr .u64 (wu64 (w64 (u1 + u3))) 1)) + u2)) - 1))⟩]) (fun s => ((.own tyJob 110 ao1 cap2 u0) :: Rr)) (fun s => Z) (fun s => ri s.1 s.2) (fun s => rj s.1 s.2) ⟨u1, u2⟩ rk (by exact jd.reg) (by exact hM0) ?_
 rintro ⟨C, D⟩ rm rn ro je jf
 have jg : Fr 220 [] [⟨0, [], .slice ao1 u0.length cap2⟩, ⟨1, [], i6 u1⟩, ⟨2, [], i6 u2⟩, ⟨3, [], i6 u3⟩, ⟨4, [], .func (.func fid3) #[] caps4⟩, ⟨18, [], i6 (w64 (bShr .u64 (wu64 (w64 (u1 + u3))) 1))⟩, ⟨19, [], i6 (w64 ((w64 (bShr .u64 (wu64 (w64 (u1 + u3))) 1)) + u2))⟩, ⟨20, [], i6 C⟩, ⟨21, [], i6 D⟩, ⟨22, [], i6 (w64 ((w64 ((w64 (bShr .u64 (wu64 (w64 (u1 + u3))) 1)) + u2)) - 1))⟩] rn := je; clear je jd
 have ed : Mem B [] w0 Z0 ((.own tyJob 110 ao1 cap2 u0) :: Rr) Z ro := jf; clear jf hM0
 have ee := rl C D rm
 refine wp_seq ?_
 refine sqB jg ed [] [] [(151, .bool (decide (C < D)))] ?_; intro uQ ef; clear jg
 refine cd ef (t := decide (C < D)) (by kernel_rfl) (fun e8 => ?_) (fun e8 => ?_)
 ·
  have rp := ee.1 e8; clear ee
  refine wp_skip ?_
  refine thn ?_
  refine wp_block ?_
  refine sqB ef ed [] [] [(23, i6 (w64 (bShr .u64 (wu64 (w64 (C + D))) 1)))] ?_; intro cm jh; clear ef
  have rq : Fr 220 [] [⟨0, [], .slice ao1 u0.length cap2⟩, ⟨1, [], i6 u1⟩, ⟨2, [], i6 u2⟩, ⟨3, [], i6 u3⟩, ⟨4, [], .func (.func fid3) #[] caps4⟩, ⟨18, [], i6 (w64 (bShr .u64 (wu64 (w64 (u1 + u3))) 1))⟩, ⟨19, [], i6 (w64 ((w64 (bShr .u64 (wu64 (w64 (u1 + u3))) 1)) + u2))⟩, ⟨20, [], i6 C⟩, ⟨21, [], i6 D⟩, ⟨22, [], i6 (w64 ((w64 ((w64 (bShr .u64 (wu64 (w64 (u1 + u3))) 1)) + u2)) - 1))⟩, ⟨23, [], i6 (w64 (bShr .u64 (wu64 (w64 (C + D))) 1))⟩] cm := jh.reg; clear jh
  obtain ⟨eV, ji⟩ := rp
  obtain ⟨U, eW, rr⟩ := gxq ji (by omega); clear ji
  obtain ⟨eX, jj⟩ := rr
  obtain ⟨V, eY, eg⟩ := gxq jj (by omega); clear jj
  refine wp_seq (any_invE mixed [[], [], [], [], [2, 3], [1, 4], [5], [], [], [7, 8], [9], [0, 6, 10], [11], [12]] 14 (fun S a w1 => ∃ (a5 : Nat) (a6 : Nat) (aC : Value) (aN : Value) (aV : Value) (aW : Value) (aO : Value) (aI : Value) (aD : Value) (aP : Value) (aQ : Value) (aJ : Value) (aE : Value) (am : Value) (aj : Value) (ag : Value) (ad : Res), Fz.le Z Z ∧ Fr 220 [] [⟨0, [], .slice ao1 u0.length cap2⟩, ⟨1, [], i6 u1⟩, ⟨2, [], i6 u2⟩, ⟨3, [], i6 u3⟩, ⟨4, [], .func (.func fid3) #[] caps4⟩, ⟨18, [], i6 (w64 (bShr .u64 (wu64 (w64 (u1 + u3))) 1))⟩, ⟨19, [], i6 (w64 ((w64 (bShr .u64 (wu64 (w64 (u1 + u3))) 1)) + u2))⟩, ⟨20, [], i6 C⟩, ⟨21, [], i6 D⟩, ⟨22, [], i6 (w64 ((w64 ((w64 (bShr .u64 (wu64 (w64 (u1 + u3))) 1)) + u2)) - 1))⟩, ⟨23, [], i6 (w64 (bShr .u64 (wu64 (w64 (C + D))) 1))⟩, ⟨158, [], aC⟩, ⟨159, [], aN⟩, ⟨160, [], aV⟩, ⟨161, [], aW⟩, ⟨162, [], aO⟩, ⟨163, [], aI⟩, ⟨164, [], aD⟩, ⟨165, [], aP⟩, ⟨166, [], aQ⟩, ⟨167, [], aJ⟩, ⟨168, [], aE⟩, ⟨169, [], am⟩, ⟨170, [], aj⟩, ⟨171, [], ag⟩] a ∧ Mem B [] w0 Z0 (ad :: Rr) Z w1 ∧ (S 0 = true → aC = .func (.func fid3) #[] caps4) ∧ (S 1 = true → aN = .slice ao1 u0.length cap2) ∧ (S 2 = true → aV = i6 (w64 ((w64 ((w64 (bShr .u64 (wu64 (w64 (u1 + u3))) 1)) + u2)) - 1))) ∧ (S 3 = true → aW = i6 (w64 (bShr .u64 (wu64 (w64 (C + D))) 1))) ∧ (S 4 = true → aO = i6 (w64 ((w64 ((w64 ((w64 (bShr .u64 (wu64 (w64 (u1 + u3))) 1)) + u2)) - 1)) - (w64 (bShr .u64 (wu64 (w64 (C + D))) 1))))) ∧ (S 5 = true → aI = .pointer (some ⟨a5, (w64 ((w64 ((w64 ((w64 (bShr .u64 (wu64 (w64 (u1 + u3))) 1)) + u2)) - 1)) - (w64 (bShr .u64 (wu64 (w64 (C + D))) 1)))).toNat * 3, none⟩)) ∧ (S 6 = true → aD = .agg (e110Dn U).toArray) ∧ (S 7 = true → aP = .slice ao1 u0.length cap2) ∧ (S 8 = true → aQ = i6 (w64 (bShr .u64 (wu64 (w64 (C + D))) 1))) ∧ (S 9 = true → aJ = .pointer (some ⟨a6, (w64 (bShr .u64 (wu64 (w64 (C + D))) 1)).toNat * 3, none⟩)) ∧ (S 10 = true → aE = .agg (e110Dn V).toArray) ∧ (S 11 = true → am = i6 (u4 U V)) ∧ (S 12 = true → aj = .bool (decide ((u4 U V) < 0))) ∧ (S 13 = true → ag = .bool (!(decide ((u4 U V) < 0)))) ∧ (ad = .own tyJob 110 ao1 cap2 u0) ∧ (S 5 = true → ao1 = some ⟨a5, 0, none⟩) ∧ (S 9 = true → ao1 = some ⟨a6, 0, none⟩)) ?h0 ?hs ?hE)
  case h0 =>
   have rs := rq.any 158
   have ru := rs.any 159
   have rv := ru.any 160
   have rx := rv.any 161
   have ry := rx.any 162
   have rz := ry.any 163
   have rA := rz.any 164
   have rB := rA.any 165
   have rC := rB.any 166
   have rD := rC.any 167
   have rE := rD.any 168
   have rF := rE.any 169
   have rG := rF.any 170
   have rH := rG.any 171
   have rI := (ed.perm lpr).drew
   exact ⟨0, 0, cm.tmps.getD 158 undef, cm.tmps.getD 159 undef, cm.tmps.getD 160 undef, cm.tmps.getD 161 undef, cm.tmps.getD 162 undef, cm.tmps.getD 163 undef, cm.tmps.getD 164 undef, cm.tmps.getD 165 undef, cm.tmps.getD 166 undef, cm.tmps.getD 167 undef, cm.tmps.getD 168 undef, cm.tmps.getD 169 undef, cm.tmps.getD 170 undef, cm.tmps.getD 171 undef, .own tyJob 110 ao1 cap2 u0, Fz.le.refl _, rH.reg, rI, ff, ff, ff, ff, ff, ff, ff, ff, ff, ff, ff, ff, ff, ff, rfl, ff, ff⟩
  case hs =>
   intro S hcl i o hil hi hSi hpre a w1 hI; refine Go.Sy.hid ?_; intro G hG; obtain ⟨a5, a6, aC, aN, aV, aW, aO, aI, aD, aP, aQ, aJ, aE, am, aj, ag, ad, aw, hFx, hMx, an, ao, ap, aq, aK, aX, a4, ar, au, aL, aR, c8, de, dv, M, R, hI⟩ := hI; have Q := hI; clear hI
   have hcase : i = 0 ∨ i = 1 ∨ i = 2 ∨ i = 3 ∨ i = 4 ∨ i = 5 ∨ i = 6 ∨ i = 7 ∨ i = 8 ∨ i = 9 ∨ i = 10 ∨ i = 11 ∨ i = 12 ∨ i = 13 := by clear hi; omega
   rcases hcase with rfl | rfl | rfl | rfl | rfl | rfl | rfl | rfl | rfl | rfl | rfl | rfl | rfl | rfl
   ·
    obtain rfl := oj hi
    have ac := hSi
    have m := ngF hcl 11 0 ac
    have l := ngF hcl 12 11 m
    have H := ngF hcl 13 12 l
    obtain rfl := M
    refine hG (any_step ?_); clear hG G; intro A J hJ
    have c := Fz.le.trans c aw
    refine s1 hFx 158 (.func (.func fid3) #[] caps4) ?_; intro uR rJ; clear hFx
    refine nl (qnI (hJ _ _ ?_)); clear hJ J
    exact ⟨a5, a6, .func (.func fid3) #[] caps4, aN, aV, aW, aO, aI, aD, aP, aQ, aJ, aE, am, aj, ag, .own tyJob 110 ao1 cap2 u0, aw, rJ.reg, hMx.perm lpr, kf, ao, ap, aq, aK, aX, a4, ar, au, aL, aR, (nt m), (nt l), (nt H), rfl, R, Q⟩
   ·
    obtain rfl := oj hi
    have X := hSi
    have n := ngF hcl 5 1 X
    have E := ngF hcl 6 5 n
    have m := ngF hcl 11 6 E
    have l := ngF hcl 12 11 m
    have H := ngF hcl 13 12 l
    obtain rfl := M
    refine hG (any_step ?_); clear hG G; intro A J hJ
    have c := Fz.le.trans c aw
    refine s1 hFx 159 (.slice ao1 u0.length cap2) ?_; intro uS rK; clear hFx
    refine nl (qnI (hJ _ _ ?_)); clear hJ J
    exact ⟨a5, a6, aC, .slice ao1 u0.length cap2, aV, aW, aO, aI, aD, aP, aQ, aJ, aE, am, aj, ag, .own tyJob 110 ao1 cap2 u0, aw, rK.reg, hMx.perm lpr, an, kf, ap, aq, aK, (nt n), (nt E), ar, au, aL, aR, (nt m), (nt l), (nt H), rfl, (nt n), Q⟩
   ·
    obtain rfl := oj hi
    have ab := hSi
    have F := ngF hcl 4 2 ab
    have n := ngF hcl 5 4 F
    have E := ngF hcl 6 5 n
    have m := ngF hcl 11 6 E
    have l := ngF hcl 12 11 m
    have H := ngF hcl 13 12 l
    obtain rfl := M
    refine hG (any_step ?_); clear hG G; intro A J hJ
    have c := Fz.le.trans c aw
    refine s1 hFx 160 (i6 (w64 ((w64 ((w64 (bShr .u64 (wu64 (w64 (u1 + u3))) 1)) + u2)) - 1))) ?_; intro uT rL; clear hFx
    refine nl (qnI (hJ _ _ ?_)); clear hJ J
    exact ⟨a5, a6, aC, aN, i6 (w64 ((w64 ((w64 (bShr .u64 (wu64 (w64 (u1 + u3))) 1)) + u2)) - 1)), aW, aO, aI, aD, aP, aQ, aJ, aE, am, aj, ag, .own tyJob 110 ao1 cap2 u0, aw, rL.reg, hMx.perm lpr, an, ao, kf, aq, (nt F), (nt n), (nt E), ar, au, aL, aR, (nt m), (nt l), (nt H), rfl, (nt n), Q⟩
   ·
    obtain rfl := oj hi
    have L := hSi
    have F := ngF hcl 4 3 L
    have n := ngF hcl 5 4 F
    have E := ngF hcl 6 5 n
    have m := ngF hcl 11 6 E
    have l := ngF hcl 12 11 m
    have H := ngF hcl 13 12 l
    obtain rfl := M
    refine hG (any_step ?_); clear hG G; intro A J hJ
    have c := Fz.le.trans c aw
    refine s1 hFx 161 (i6 (w64 (bShr .u64 (wu64 (w64 (C + D))) 1))) ?_; intro uU rM; clear hFx
    refine nl (qnI (hJ _ _ ?_)); clear hJ J
    exact ⟨a5, a6, aC, aN, aV, i6 (w64 (bShr .u64 (wu64 (w64 (C + D))) 1)), aO, aI, aD, aP, aQ, aJ, aE, am, aj, ag, .own tyJob 110 ao1 cap2 u0, aw, rM.reg, hMx.perm lpr, an, ao, ap, kf, (nt F), (nt n), (nt E), ar, au, aL, aR, (nt m), (nt l), (nt H), rfl, (nt n), Q⟩
   ·
    obtain rfl := oj hi
    have L := hpre 3 (by kernel_rfl)
    have ab := hpre 2 (by kernel_rfl)
    have F := hSi
    have n := ngF hcl 5 4 F
    have E := ngF hcl 6 5 n
    have m := ngF hcl 11 6 E
    have l := ngF hcl 12 11 m
    have H := ngF hcl 13 12 l
    obtain rfl := ap ab
    obtain rfl := aq L
    obtain rfl := M
    refine hG (any_step ?_); clear hG G; intro A J hJ
    have c := Fz.le.trans c aw
    refine s1 hFx 162 (i6 (w64 ((w64 ((w64 ((w64 (bShr .u64 (wu64 (w64 (u1 + u3))) 1)) + u2)) - 1)) - (w64 (bShr .u64 (wu64 (w64 (C + D))) 1))))) ?_; intro uV rO; clear hFx
    refine nl (qnI (hJ _ _ ?_)); clear hJ J
    exact ⟨a5, a6, aC, aN, i6 (w64 ((w64 ((w64 (bShr .u64 (wu64 (w64 (u1 + u3))) 1)) + u2)) - 1)), i6 (w64 (bShr .u64 (wu64 (w64 (C + D))) 1)), i6 (w64 ((w64 ((w64 ((w64 (bShr .u64 (wu64 (w64 (u1 + u3))) 1)) + u2)) - 1)) - (w64 (bShr .u64 (wu64 (w64 (C + D))) 1)))), aI, aD, aP, aQ, aJ, aE, am, aj, ag, .own tyJob 110 ao1 cap2 u0, aw, rO.reg, hMx.perm lpr, an, ao, kf, kf, kf, (nt n), (nt E), ar, au, aL, aR, (nt m), (nt l), (nt H), rfl, (nt n), Q⟩
   ·
    obtain rfl := oj hi
    have F := hpre 4 (by kernel_rfl)
    have X := hpre 1 (by kernel_rfl)
    have L := hcl 4 3 (by kernel_rfl) F
    have ab := hcl 4 2 (by kernel_rfl) F
    have n := hSi
    have E := ngF hcl 6 5 n
    have m := ngF hcl 11 6 E
    have l := ngF hcl 12 11 m
    have H := ngF hcl 13 12 l
    obtain rfl := ao X
    obtain rfl := ap ab
    obtain rfl := aq L
    obtain rfl := aK F
    obtain rfl := M
    refine hG (any_step ?_); clear hG G; intro A J hJ
    have c := Fz.le.trans c aw
    refine ixo hFx hMx 0 (T := tyJob) (xs := u0) (w64 ((w64 ((w64 ((w64 (bShr .u64 (wu64 (w64 (u1 + u3))) 1)) + u2)) - 1)) - (w64 (bShr .u64 (wu64 (w64 (C + D))) 1)))) (by simpa only [List.length_set] using eV) (k := .i64) (e := 110) (bytes := 24) (nog rfl _) rfl (by kernel_rfl) rfl (by kernel_rfl) (by kernel_rfl) rfl (by kernel_rfl) ?_; intro jk uW rP rQ; clear hFx
    refine nl (qnI (hJ _ _ ?_)); clear hJ J
    exact ⟨jk, a6, aC, .slice ao1 u0.length cap2, i6 (w64 ((w64 ((w64 (bShr .u64 (wu64 (w64 (u1 + u3))) 1)) + u2)) - 1)), i6 (w64 (bShr .u64 (wu64 (w64 (C + D))) 1)), i6 (w64 ((w64 ((w64 ((w64 (bShr .u64 (wu64 (w64 (u1 + u3))) 1)) + u2)) - 1)) - (w64 (bShr .u64 (wu64 (w64 (C + D))) 1)))), .pointer (some ⟨jk, (w64 ((w64 ((w64 ((w64 (bShr .u64 (wu64 (w64 (u1 + u3))) 1)) + u2)) - 1)) - (w64 (bShr .u64 (wu64 (w64 (C + D))) 1)))).toNat * 3, none⟩), aD, aP, aQ, aJ, aE, am, aj, ag, .own tyJob 110 ao1 cap2 u0, aw, rQ.reg, hMx.perm lpr, an, kf, kf, kf, kf, kf, (nt E), ar, au, aL, aR, (nt m), (nt l), (nt H), rfl, (fun _ => rP), Q⟩
   ·
    obtain rfl := oj hi
    have n := hpre 5 (by kernel_rfl)
    have F := hcl 5 4 (by kernel_rfl) n
    have X := hcl 5 1 (by kernel_rfl) n
    have L := hcl 4 3 (by kernel_rfl) F
    have ab := hcl 4 2 (by kernel_rfl) F
    have E := hSi
    have m := ngF hcl 11 6 E
    have l := ngF hcl 12 11 m
    have H := ngF hcl 13 12 l
    obtain rfl := ao X
    obtain rfl := ap ab
    obtain rfl := aq L
    obtain rfl := aK F
    obtain rfl := aX n
    obtain rfl := M
    refine hG (any_step ?_); clear hG G; intro A J hJ
    have c := Fz.le.trans c aw
    have jl := R n
    obtain ⟨rR, rS, rT⟩ := own_elx hMx 0 (T := tyJob) (xs := u0) rfl jl (w64 ((w64 ((w64 ((w64 (bShr .u64 (wu64 (w64 (u1 + u3))) 1)) + u2)) - 1)) - (w64 (bShr .u64 (wu64 (w64 (C + D))) 1)))).toNat eW
    obtain rfl : rR = ((e110Dn U) : List Value) := rS
    refine lc2 hFx 164 3 (e110Dn U) rT rfl ?_; intro uX rU; clear hFx
    refine nl (qnI (hJ _ _ ?_)); clear hJ J
    exact ⟨a5, a6, aC, .slice ao1 u0.length cap2, i6 (w64 ((w64 ((w64 (bShr .u64 (wu64 (w64 (u1 + u3))) 1)) + u2)) - 1)), i6 (w64 (bShr .u64 (wu64 (w64 (C + D))) 1)), i6 (w64 ((w64 ((w64 ((w64 (bShr .u64 (wu64 (w64 (u1 + u3))) 1)) + u2)) - 1)) - (w64 (bShr .u64 (wu64 (w64 (C + D))) 1)))), .pointer (some ⟨a5, (w64 ((w64 ((w64 ((w64 (bShr .u64 (wu64 (w64 (u1 + u3))) 1)) + u2)) - 1)) - (w64 (bShr .u64 (wu64 (w64 (C + D))) 1)))).toNat * 3, none⟩), .agg (e110Dn U).toArray, aP, aQ, aJ, aE, am, aj, ag, .own tyJob 110 ao1 cap2 u0, aw, rU.reg, hMx.perm lpr, an, kf, kf, kf, kf, kf, kf, ar, au, aL, aR, (nt m), (nt l), (nt H), rfl, (fun _ => jl), Q⟩
   ·
    obtain rfl := oj hi
    have z := hSi
    have d := ngF hcl 9 7 z
    have y := ngF hcl 10 9 d
    have m := ngF hcl 11 10 y
    have l := ngF hcl 12 11 m
    have H := ngF hcl 13 12 l
    obtain rfl := M
    refine hG (any_step ?_); clear hG G; intro A J hJ
    have c := Fz.le.trans c aw
    refine s1 hFx 165 (.slice ao1 u0.length cap2) ?_; intro uY rV; clear hFx
    refine nl (qnI (hJ _ _ ?_)); clear hJ J
    exact ⟨a5, a6, aC, aN, aV, aW, aO, aI, aD, .slice ao1 u0.length cap2, aQ, aJ, aE, am, aj, ag, .own tyJob 110 ao1 cap2 u0, aw, rV.reg, hMx.perm lpr, an, ao, ap, aq, aK, aX, a4, kf, au, (nt d), (nt y), (nt m), (nt l), (nt H), rfl, R, (nt d)⟩
   ·
    obtain rfl := oj hi
    have p := hSi
    have d := ngF hcl 9 8 p
    have y := ngF hcl 10 9 d
    have m := ngF hcl 11 10 y
    have l := ngF hcl 12 11 m
    have H := ngF hcl 13 12 l
    obtain rfl := M
    refine hG (any_step ?_); clear hG G; intro A J hJ
    have c := Fz.le.trans c aw
    refine s1 hFx 166 (i6 (w64 (bShr .u64 (wu64 (w64 (C + D))) 1))) ?_; intro uZ rW; clear hFx
    refine nl (qnI (hJ _ _ ?_)); clear hJ J
    exact ⟨a5, a6, aC, aN, aV, aW, aO, aI, aD, aP, i6 (w64 (bShr .u64 (wu64 (w64 (C + D))) 1)), aJ, aE, am, aj, ag, .own tyJob 110 ao1 cap2 u0, aw, rW.reg, hMx.perm lpr, an, ao, ap, aq, aK, aX, a4, ar, kf, (nt d), (nt y), (nt m), (nt l), (nt H), rfl, R, (nt d)⟩
   ·
    obtain rfl := oj hi
    have p := hpre 8 (by kernel_rfl)
    have z := hpre 7 (by kernel_rfl)
    have d := hSi
    have y := ngF hcl 10 9 d
    have m := ngF hcl 11 10 y
    have l := ngF hcl 12 11 m
    have H := ngF hcl 13 12 l
    obtain rfl := ar z
    obtain rfl := au p
    obtain rfl := M
    refine hG (any_step ?_); clear hG G; intro A J hJ
    have c := Fz.le.trans c aw
    refine ixo hFx hMx 0 (T := tyJob) (xs := u0) (w64 (bShr .u64 (wu64 (w64 (C + D))) 1)) (by simpa only [List.length_set] using eX) (k := .i64) (e := 110) (bytes := 24) (nog rfl _) rfl (by kernel_rfl) rfl (by kernel_rfl) (by kernel_rfl) rfl (by kernel_rfl) ?_; intro jm u5 rX rY; clear hFx
    refine nl (qnI (hJ _ _ ?_)); clear hJ J
    exact ⟨a5, jm, aC, aN, aV, aW, aO, aI, aD, .slice ao1 u0.length cap2, i6 (w64 (bShr .u64 (wu64 (w64 (C + D))) 1)), .pointer (some ⟨jm, (w64 (bShr .u64 (wu64 (w64 (C + D))) 1)).toNat * 3, none⟩), aE, am, aj, ag, .own tyJob 110 ao1 cap2 u0, aw, rY.reg, hMx.perm lpr, an, ao, ap, aq, aK, aX, a4, kf, kf, kf, (nt y), (nt m), (nt l), (nt H), rfl, R, (fun _ => rX)⟩
   ·
    obtain rfl := oj hi
    have d := hpre 9 (by kernel_rfl)
    have p := hcl 9 8 (by kernel_rfl) d
    have z := hcl 9 7 (by kernel_rfl) d
    have y := hSi
    have m := ngF hcl 11 10 y
    have l := ngF hcl 12 11 m
    have H := ngF hcl 13 12 l
    obtain rfl := ar z
    obtain rfl := au p
    obtain rfl := aL d
    obtain rfl := M
    refine hG (any_step ?_); clear hG G; intro A J hJ
    have c := Fz.le.trans c aw
    have jn := Q d
    obtain ⟨rZ, r0, r1⟩ := own_elx hMx 0 (T := tyJob) (xs := u0) rfl jn (w64 (bShr .u64 (wu64 (w64 (C + D))) 1)).toNat eY
    obtain rfl : rZ = ((e110Dn V) : List Value) := r0
    refine lc2 hFx 168 3 (e110Dn V) r1 rfl ?_; intro u6 r2; clear hFx
    refine nl (qnI (hJ _ _ ?_)); clear hJ J
    exact ⟨a5, a6, aC, aN, aV, aW, aO, aI, aD, .slice ao1 u0.length cap2, i6 (w64 (bShr .u64 (wu64 (w64 (C + D))) 1)), .pointer (some ⟨a6, (w64 (bShr .u64 (wu64 (w64 (C + D))) 1)).toNat * 3, none⟩), .agg (e110Dn V).toArray, am, aj, ag, .own tyJob 110 ao1 cap2 u0, aw, r2.reg, hMx.perm lpr, an, ao, ap, aq, aK, aX, a4, kf, kf, kf, kf, (nt m), (nt l), (nt H), rfl, R, (fun _ => jn)⟩
   ·
    obtain rfl := oj hi
    have y := hpre 10 (by kernel_rfl)
    have E := hpre 6 (by kernel_rfl)
    have ac := hpre 0 (by kernel_rfl)
    have d := hcl 10 9 (by kernel_rfl) y
    have n := hcl 6 5 (by kernel_rfl) E
    have p := hcl 9 8 (by kernel_rfl) d
    have z := hcl 9 7 (by kernel_rfl) d
    have F := hcl 5 4 (by kernel_rfl) n
    have X := hcl 5 1 (by kernel_rfl) n
    have L := hcl 4 3 (by kernel_rfl) F
    have ab := hcl 4 2 (by kernel_rfl) F
    have m := hSi
    have l := ngF hcl 12 11 m
    have H := ngF hcl 13 12 l
    obtain rfl := an ac
    obtain rfl := ao X
    obtain rfl := ap ab
    obtain rfl := aq L
    obtain rfl := aK F
    obtain rfl := aX n
    obtain rfl := a4 E
    obtain rfl := ar z
    obtain rfl := au p
    obtain rfl := aL d
    obtain rfl := aR y
    obtain rfl := M
    refine hG (any_step ?_); clear hG G; intro A J hJ
    have c := Fz.le.trans c aw
    have r3 := R n
    have r4 := Q d
    have r5 := hf5 _ _ c hMx.fz U V
    refine fcl hFx hMx (i6 (u4 U V)) fid3 (#[.agg (e110Dn U).toArray, .agg (e110Dn V).toArray] ++ caps4) (nog rfl _) rfl (by kernel_rfl) ?h1 ?h2 ?_
    case h1 => exact fv_run rfl (by kernel_rfl) (by kernel_rfl) hg6
    case h2 => exact r5
    intro u7 u8 r6 r7; clear hFx hMx
    refine nl (qnI (hJ _ _ ?_)); clear hJ J
    exact ⟨a5, a6, .func (.func fid3) #[] caps4, .slice ao1 u0.length cap2, i6 (w64 ((w64 ((w64 (bShr .u64 (wu64 (w64 (u1 + u3))) 1)) + u2)) - 1)), i6 (w64 (bShr .u64 (wu64 (w64 (C + D))) 1)), i6 (w64 ((w64 ((w64 ((w64 (bShr .u64 (wu64 (w64 (u1 + u3))) 1)) + u2)) - 1)) - (w64 (bShr .u64 (wu64 (w64 (C + D))) 1)))), .pointer (some ⟨a5, (w64 ((w64 ((w64 ((w64 (bShr .u64 (wu64 (w64 (u1 + u3))) 1)) + u2)) - 1)) - (w64 (bShr .u64 (wu64 (w64 (C + D))) 1)))).toNat * 3, none⟩), .agg (e110Dn U).toArray, .slice ao1 u0.length cap2, i6 (w64 (bShr .u64 (wu64 (w64 (C + D))) 1)), .pointer (some ⟨a6, (w64 (bShr .u64 (wu64 (w64 (C + D))) 1)).toNat * 3, none⟩), .agg (e110Dn V).toArray, i6 (u4 U V), aj, ag, .own tyJob 110 ao1 cap2 u0, aw, r6.reg, r7.perm lpr, kf, kf, kf, kf, kf, kf, kf, kf, kf, kf, kf, kf, (nt l), (nt H), rfl, (fun _ => r3), (fun _ => r4)⟩
   ·
    obtain rfl := oj hi
    have m := hpre 11 (by kernel_rfl)
    have y := hcl 11 10 (by kernel_rfl) m
    have E := hcl 11 6 (by kernel_rfl) m
    have ac := hcl 11 0 (by kernel_rfl) m
    have d := hcl 10 9 (by kernel_rfl) y
    have n := hcl 6 5 (by kernel_rfl) E
    have p := hcl 9 8 (by kernel_rfl) d
    have z := hcl 9 7 (by kernel_rfl) d
    have F := hcl 5 4 (by kernel_rfl) n
    have X := hcl 5 1 (by kernel_rfl) n
    have L := hcl 4 3 (by kernel_rfl) F
    have ab := hcl 4 2 (by kernel_rfl) F
    have l := hSi
    have H := ngF hcl 13 12 l
    obtain rfl := an ac
    obtain rfl := ao X
    obtain rfl := ap ab
    obtain rfl := aq L
    obtain rfl := aK F
    obtain rfl := aX n
    obtain rfl := a4 E
    obtain rfl := ar z
    obtain rfl := au p
    obtain rfl := aL d
    obtain rfl := aR y
    obtain rfl := c8 m
    obtain rfl := M
    refine hG (any_step ?_); clear hG G; intro A J hJ
    have c := Fz.le.trans c aw
    have r8 := R n
    have r9 := Q d
    refine s1 hFx 170 (.bool (decide ((u4 U V) < 0))) ?_; intro u9 sa; clear hFx
    refine nl (qnI (hJ _ _ ?_)); clear hJ J
    exact ⟨a5, a6, .func (.func fid3) #[] caps4, .slice ao1 u0.length cap2, i6 (w64 ((w64 ((w64 (bShr .u64 (wu64 (w64 (u1 + u3))) 1)) + u2)) - 1)), i6 (w64 (bShr .u64 (wu64 (w64 (C + D))) 1)), i6 (w64 ((w64 ((w64 ((w64 (bShr .u64 (wu64 (w64 (u1 + u3))) 1)) + u2)) - 1)) - (w64 (bShr .u64 (wu64 (w64 (C + D))) 1)))), .pointer (some ⟨a5, (w64 ((w64 ((w64 ((w64 (bShr .u64 (wu64 (w64 (u1 + u3))) 1)) + u2)) - 1)) - (w64 (bShr .u64 (wu64 (w64 (C + D))) 1)))).toNat * 3, none⟩), .agg (e110Dn U).toArray, .slice ao1 u0.length cap2, i6 (w64 (bShr .u64 (wu64 (w64 (C + D))) 1)), .pointer (some ⟨a6, (w64 (bShr .u64 (wu64 (w64 (C + D))) 1)).toNat * 3, none⟩), .agg (e110Dn V).toArray, i6 (u4 U V), .bool (decide ((u4 U V) < 0)), ag, .own tyJob 110 ao1 cap2 u0, aw, sa.reg, hMx.perm lpr, kf, kf, kf, kf, kf, kf, kf, kf, kf, kf, kf, kf, kf, (nt H), rfl, (fun _ => r8), (fun _ => r9)⟩
   obtain rfl := oj hi
   have l := hpre 12 (by kernel_rfl)
   have m := hcl 12 11 (by kernel_rfl) l
   have y := hcl 11 10 (by kernel_rfl) m
   have E := hcl 11 6 (by kernel_rfl) m
   have ac := hcl 11 0 (by kernel_rfl) m
   have d := hcl 10 9 (by kernel_rfl) y
   have n := hcl 6 5 (by kernel_rfl) E
   have p := hcl 9 8 (by kernel_rfl) d
   have z := hcl 9 7 (by kernel_rfl) d
   have F := hcl 5 4 (by kernel_rfl) n
   have X := hcl 5 1 (by kernel_rfl) n
   have L := hcl 4 3 (by kernel_rfl) F
   have ab := hcl 4 2 (by kernel_rfl) F
   have H := hSi
   obtain rfl := an ac
   obtain rfl := ao X
   obtain rfl := ap ab
   obtain rfl := aq L
   obtain rfl := aK F
   obtain rfl := aX n
   obtain rfl := a4 E
   obtain rfl := ar z
   obtain rfl := au p
   obtain rfl := aL d
   obtain rfl := aR y
   obtain rfl := c8 m
   obtain rfl := de l
   obtain rfl := M
   refine hG (any_step ?_); clear hG G; intro A J hJ
   have c := Fz.le.trans c aw
   have sb := R n
   have sc := Q d
   refine s1 hFx 171 (.bool (!(decide ((u4 U V) < 0)))) ?_; intro va sd; clear hFx
   refine nl (qnI (hJ _ _ ?_)); clear hJ J
   exact ⟨a5, a6, .func (.func fid3) #[] caps4, .slice ao1 u0.length cap2, i6 (w64 ((w64 ((w64 (bShr .u64 (wu64 (w64 (u1 + u3))) 1)) + u2)) - 1)), i6 (w64 (bShr .u64 (wu64 (w64 (C + D))) 1)), i6 (w64 ((w64 ((w64 ((w64 (bShr .u64 (wu64 (w64 (u1 + u3))) 1)) + u2)) - 1)) - (w64 (bShr .u64 (wu64 (w64 (C + D))) 1)))), .pointer (some ⟨a5, (w64 ((w64 ((w64 ((w64 (bShr .u64 (wu64 (w64 (u1 + u3))) 1)) + u2)) - 1)) - (w64 (bShr .u64 (wu64 (w64 (C + D))) 1)))).toNat * 3, none⟩), .agg (e110Dn U).toArray, .slice ao1 u0.length cap2, i6 (w64 (bShr .u64 (wu64 (w64 (C + D))) 1)), .pointer (some ⟨a6, (w64 (bShr .u64 (wu64 (w64 (C + D))) 1)).toNat * 3, none⟩), .agg (e110Dn V).toArray, i6 (u4 U V), .bool (decide ((u4 U V) < 0)), .bool (!(decide ((u4 U V) < 0))), .own tyJob 110 ao1 cap2 u0, aw, sd.reg, hMx.perm lpr, kf, kf, kf, kf, kf, kf, kf, kf, kf, kf, kf, kf, kf, kf, rfl, (fun _ => sb), (fun _ => sc)⟩
  case hE =>
   intro S hS jo vb hI; refine Go.Sy.hid ?_; intro G hG; obtain ⟨a5, a6, aC, aN, aV, aW, aO, aI, aD, aP, aQ, aJ, aE, am, aj, ag, ad, aw, hFx, hMx, an, ao, ap, aq, aK, aX, a4, ar, au, aL, aR, c8, de, dv, M, R, hI⟩ := hI; have Q := hI; clear hI; refine hG ?_; clear hG G
   obtain rfl := an (hS 0 (by decide))
   obtain rfl := ao (hS 1 (by decide))
   obtain rfl := ap (hS 2 (by decide))
   obtain rfl := aq (hS 3 (by decide))
   obtain rfl := aK (hS 4 (by decide))
   obtain rfl := aX (hS 5 (by decide))
   obtain rfl := a4 (hS 6 (by decide))
   obtain rfl := ar (hS 7 (by decide))
   obtain rfl := au (hS 8 (by decide))
   obtain rfl := aL (hS 9 (by decide))
   obtain rfl := aR (hS 10 (by decide))
   obtain rfl := c8 (hS 11 (by decide))
   obtain rfl := de (hS 12 (by decide))
   obtain rfl := dv (hS 13 (by decide))
   obtain rfl := M
   have c := Fz.le.trans c aw
   have vc := R (hS 5 (by decide))
   have vd := Q (hS 9 (by decide))
   refine thn ?_
   refine cd hFx (t := !(decide ((u4 U V) < 0))) (by kernel_rfl) (fun e9 => ?_) (fun e9 => ?_)
   ·
    have jp := eg.1 e9; clear eg
    have jq : Fr 220 [] [⟨0, [], .slice ao1 u0.length cap2⟩, ⟨1, [], i6 u1⟩, ⟨2, [], i6 u2⟩, ⟨3, [], i6 u3⟩, ⟨4, [], .func (.func fid3) #[] caps4⟩, ⟨18, [], i6 (w64 (bShr .u64 (wu64 (w64 (u1 + u3))) 1))⟩, ⟨19, [], i6 (w64 ((w64 (bShr .u64 (wu64 (w64 (u1 + u3))) 1)) + u2))⟩, ⟨21, [], i6 D⟩, ⟨22, [], i6 (w64 ((w64 ((w64 (bShr .u64 (wu64 (w64 (u1 + u3))) 1)) + u2)) - 1))⟩, ⟨23, [], i6 (w64 (bShr .u64 (wu64 (w64 (C + D))) 1))⟩] jo := hFx.reg; clear hFx
    refine rgB jq hMx [] [] [(20, i6 (w64 ((w64 (bShr .u64 (wu64 (w64 (C + D))) 1)) + 1)))] ?_; intro ve se; clear jq
    refine ibn ?_
    refine rd ?_
    exact ⟨⟨w64 ((w64 (bShr .u64 (wu64 (w64 (C + D))) 1)) + 1), D⟩, jp.1, jp.2, (se.reg).anyβ _ (by kernel_rfl), hMx.keep (List.Sublist.cons_cons _ (List.Sublist.refl _))⟩
   have jr := eg.2 e9; clear eg
   have js : Fr 220 [] [⟨0, [], .slice ao1 u0.length cap2⟩, ⟨1, [], i6 u1⟩, ⟨2, [], i6 u2⟩, ⟨3, [], i6 u3⟩, ⟨4, [], .func (.func fid3) #[] caps4⟩, ⟨18, [], i6 (w64 (bShr .u64 (wu64 (w64 (u1 + u3))) 1))⟩, ⟨19, [], i6 (w64 ((w64 (bShr .u64 (wu64 (w64 (u1 + u3))) 1)) + u2))⟩, ⟨20, [], i6 C⟩, ⟨22, [], i6 (w64 ((w64 ((w64 (bShr .u64 (wu64 (w64 (u1 + u3))) 1)) + u2)) - 1))⟩, ⟨23, [], i6 (w64 (bShr .u64 (wu64 (w64 (C + D))) 1))⟩] jo := hFx.reg; clear hFx
   refine rgB js hMx [] [] [(21, i6 (w64 (bShr .u64 (wu64 (w64 (C + D))) 1)))] ?_; intro vf sf; clear js
   refine ibn ?_
   refine rd ?_
   exact ⟨⟨C, w64 (bShr .u64 (wu64 (w64 (C + D))) 1)⟩, jr.1, jr.2, (sf.reg).anyβ _ (by kernel_rfl), hMx.keep (List.Sublist.cons_cons _ (List.Sublist.refl _))⟩
 have sg := ee.2 e8; clear ee
 refine wp_exit ?_
 refine thx ?_
 refine thx ?_
 refine ibx ?_
 refine rd ?_
 exact p5 C sg _ _ ((ef.reg).anyβ _ (by kernel_rfl)) (ed.keep (List.Sublist.cons_cons _ (List.Sublist.refl _)))

end Go.Proofs.Ytginlmgkimfjmaa
set_option linter.unusedVariables false
set_option linter.unusedSimpArgs false
set_option maxRecDepth 100000
set_option maxHeartbeats 0
namespace Go.Proofs.Ytginlmgkimfjmaa
open Go.Sy Go.RowKit
theorem sins_fun (u0 : List Job) (u1 : Int) (u2 : Int) (u3 : Job → Job → Int) (hpre : sinsPre u0 u1 u2 u3) (ao1 : Option Addr) (cap2 : Nat) (fid3 : Nat) (caps4 : Array Value) (B : Nat) (w0 : World) (Z0 : Fz) (Rr : List Res) (Z : Fz) (w : World) (hf5 : ∀ (Z1 : Fz) (w1 : World), Z.le Z1 → Z1.on w1 → ∀ (x0 : Job) (x1 : Job), Calls Try.prog fid3 (#[.agg #[i6 x0.task, i6 x0.from_, i6 x0.asked], .agg #[i6 x1.task, i6 x1.from_, i6 x1.asked]] ++ caps4) w1 fun e w2 => e = .returned (i6 (u3 x0 x1)) ∧ Below w1.heap.size w1 w2) (hg6 : ∀ x w, Sem.run Try.prog (callFunc fid3 x) w = .ok (.enter fid3 x) w) (hM0 : Mem B [] w0 Z0 ((.own tyJob 110 ao1 cap2 u0) :: Rr) Z w) (hZ : Z.on w) : Calls Try.prog 111 #[.slice ao1 u0.length cap2, i6 u1, i6 u2, .func (.func fid3) #[] caps4] w fun e w' => ∃ (Z' : Fz), e = .returned (.tuple #[]) ∧ Fz.le Z Z' ∧ ((sinsS u0 u1 u2 u3).length = u0.length) ∧ Mem B [] w0 Z0 ((.own tyJob 110 ao1 cap2 (sinsS u0 u1 u2 u3)) :: Rr) Z' w' :=
  (sins_walk u0 u1 u2 u3 ao1 cap2 fid3 caps4 B w0 Z0 Rr Z w hf5 hg6 hM0 hZ (sins_ok2 u0 u1 u2 u3 hpre)).mono fun _ _ ⟨r, h0, he, hk, f0, f1, hm⟩ => by subst hk; exact ⟨h0, he, f0, f1, hm⟩

theorem ssym_all : ∀ (n : Nat) (u0 : List Job) (u1 : Int) (u2 : Int) (u3 : Int) (u4 : Job → Job → Int), symMu u0 u1 u2 u3 u4 < n → symPre u0 u1 u2 u3 u4 → ∀ (ao1 : Option Addr) (cap2 : Nat) (fid3 : Nat) (caps4 : Array Value) (B : Nat) (w0 : World) (Z0 : Fz) (Rr : List Res) (Z : Fz) (w : World) (hf5 : ∀ (Z1 : Fz) (w1 : World), Z.le Z1 → Z1.on w1 → ∀ (x0 : Job) (x1 : Job), Calls Try.prog fid3 (#[.agg #[i6 x0.task, i6 x0.from_, i6 x0.asked], .agg #[i6 x1.task, i6 x1.from_, i6 x1.asked]] ++ caps4) w1 fun e w2 => e = .returned (i6 (u4 x0 x1)) ∧ Below w1.heap.size w1 w2) (hg6 : ∀ x w, Sem.run Try.prog (callFunc fid3 x) w = .ok (.enter fid3 x) w) (hM0 : Mem B [] w0 Z0 ((.own tyJob 110 ao1 cap2 u0) :: Rr) Z w) (hZ : Z.on w), Calls Try.prog 112 #[.slice ao1 u0.length cap2, i6 u1, i6 u2, i6 u3, .func (.func fid3) #[] caps4] w fun e w' => ∃ (Z' : Fz), e = .returned (.tuple #[]) ∧ Fz.le Z Z' ∧ ((segC2 u0 u1 u2 u3 u4).length = u0.length) ∧ Mem B [] w0 Z0 ((.own tyJob 110 ao1 cap2 (segC2 u0 u1 u2 u3 u4)) :: Rr) Z' w' := by
  intro n
  induction n with
  | zero => intro u0 u1 u2 u3 u4 h; exact absurd h (Nat.not_lt_zero _)
  | succ n ih =>
    intro u0 u1 u2 u3 u4 h hpre ao1 cap2 fid3 caps4 B w0 Z0 Rr Z w hf5 hg6 hM0 hZ
    exact (ssym_walk u0 u1 u2 u3 u4 ao1 cap2 fid3 caps4 B w0 Z0 Rr Z w hf5 hg6 hM0 hZ (fun u0' u1' u2' u3' u4' hc => ih u0' u1' u2' u3' u4' (by omega) hc.2) (ssym_ok u0 u1 u2 u3 u4 hpre)).mono fun _ _ ⟨r, h0, he, hk, f0, f1, hm⟩ => by subst hk; exact ⟨h0, he, f0, f1, hm⟩
theorem ssym_fun (u0 : List Job) (u1 : Int) (u2 : Int) (u3 : Int) (u4 : Job → Job → Int) (hpre : symPre u0 u1 u2 u3 u4) : ∀ (ao1 : Option Addr) (cap2 : Nat) (fid3 : Nat) (caps4 : Array Value) (B : Nat) (w0 : World) (Z0 : Fz) (Rr : List Res) (Z : Fz) (w : World) (hf5 : ∀ (Z1 : Fz) (w1 : World), Z.le Z1 → Z1.on w1 → ∀ (x0 : Job) (x1 : Job), Calls Try.prog fid3 (#[.agg #[i6 x0.task, i6 x0.from_, i6 x0.asked], .agg #[i6 x1.task, i6 x1.from_, i6 x1.asked]] ++ caps4) w1 fun e w2 => e = .returned (i6 (u4 x0 x1)) ∧ Below w1.heap.size w1 w2) (hg6 : ∀ x w, Sem.run Try.prog (callFunc fid3 x) w = .ok (.enter fid3 x) w) (hM0 : Mem B [] w0 Z0 ((.own tyJob 110 ao1 cap2 u0) :: Rr) Z w) (hZ : Z.on w), Calls Try.prog 112 #[.slice ao1 u0.length cap2, i6 u1, i6 u2, i6 u3, .func (.func fid3) #[] caps4] w fun e w' => ∃ (Z' : Fz), e = .returned (.tuple #[]) ∧ Fz.le Z Z' ∧ ((segC2 u0 u1 u2 u3 u4).length = u0.length) ∧ Mem B [] w0 Z0 ((.own tyJob 110 ao1 cap2 (segC2 u0 u1 u2 u3 u4)) :: Rr) Z' w' := ssym_all _ u0 u1 u2 u3 u4 (Nat.lt_succ_self _) hpre

theorem sstab_walk (u0 : List Job) (u1 : Int) (u2 : Job → Job → Int) (ao1 : Option Addr) (cap2 : Nat) (fid3 : Nat) (caps4 : Array Value) (B : Nat) (w0 : World) (Z0 : Fz) (Rr : List Res) (Z : Fz) (w : World) (hf5 : ∀ (Z1 : Fz) (w1 : World), Z.le Z1 → Z1.on w1 → ∀ (x0 : Job) (x1 : Job), Calls Try.prog fid3 (#[.agg #[i6 x0.task, i6 x0.from_, i6 x0.asked], .agg #[i6 x1.task, i6 x1.from_, i6 x1.asked]] ++ caps4) w1 fun e w2 => e = .returned (i6 (u2 x0 x1)) ∧ Below w1.heap.size w1 w2) (hg6 : ∀ x w, Sem.run Try.prog (callFunc fid3 x) w = .ok (.enter fid3 x) w) (hM0 : Mem B [] w0 Z0 ((.own tyJob 110 ao1 cap2 u0) :: Rr) Z w) (hZ : Z.on w) {K : (List Job) → Prop} (hp : sstab_vc u0 u1 u2 K) : Calls Try.prog 86 #[.slice ao1 u0.length cap2, i6 u1, .func (.func fid3) #[] caps4] w fun e w' => ∃ (r : (List Job)) (Z' : Fz), e = .returned (.tuple #[]) ∧ K r ∧ Fz.le Z Z' ∧ (r.length = u0.length) ∧ Mem B [] w0 Z0 ((.own tyJob 110 ao1 cap2 r) :: Rr) Z' w' := by
 refine enter0 Try.func86 rfl rfl (by kernel_rfl) ?_; intro a0 V; have c := Fz.le.refl Z
 have a5 := hp (hM0.ownSmall 0 rfl); clear hp
 refine sqB V hM0 [] [] [(6, i6 20)] ?_; intro a9 W; clear V
 refine sqB W hM0 [] [] [(7, i6 0), (8, i6 20)] ?_; intro X Y; clear W
 refine wp_seq ?_
 refine wp_block ?_
 have aa : Fr 63 [] [⟨0, [], .slice ao1 u0.length cap2⟩, ⟨1, [], i6 u1⟩, ⟨2, [], .func (.func fid3) #[] caps4⟩, ⟨6, [], i6 20⟩, ⟨7, [], i6 0⟩, ⟨8, [], i6 20⟩] X := Y.region (by kernel_rfl) (by kernel_rfl); clear Y
 have ab : Fr 63 [] [⟨0, [], .slice ao1 u0.length cap2⟩, ⟨1, [], i6 u1⟩, ⟨2, [], .func (.func fid3) #[] caps4⟩, ⟨6, [], i6 20⟩, ⟨7, [], i6 0⟩, ⟨8, [], i6 20⟩] X := aa.region (by kernel_rfl) (by kernel_rfl); clear aa
 obtain ⟨a6, a7, a8, ba⟩ := a5
 have b2 := c
 refine lp (ι := Int × Int × (List Job) × Fz) (fun s => [⟨0, [], .slice ao1 s.2.2.1.length cap2⟩, ⟨1, [], i6 u1⟩, ⟨2, [], .func (.func fid3) #[] caps4⟩, ⟨6, [], i6 20⟩, ⟨7, [], i6 s.1⟩, ⟨8, [], i6 s.2.1⟩]) (fun s => ((.own tyJob 110 ao1 cap2 s.2.2.1) :: Rr)) (fun s => s.2.2.2) (fun s => a6 s.1 s.2.1 s.2.2.1 ∧ Fz.le Z s.2.2.2) (fun s => a7 s.1 s.2.1 s.2.2.1) ⟨0, 20, u0, Z⟩ ⟨a8, Fz.le.refl _⟩ (by exact ab.region (by kernel_rfl) (by kernel_rfl)) (by exact hM0) ?_
 rintro ⟨d, f, h, bb⟩ ⟨bc, m⟩ bd be ac ad
 have ae : Fr 63 [] [⟨0, [], .slice ao1 h.length cap2⟩, ⟨1, [], i6 u1⟩, ⟨2, [], .func (.func fid3) #[] caps4⟩, ⟨6, [], i6 20⟩, ⟨7, [], i6 d⟩, ⟨8, [], i6 f⟩] bd := ac; clear ac ab
 have k : Mem B [] w0 Z0 ((.own tyJob 110 ao1 cap2 h) :: Rr) bb be := ad; clear ad hM0
 have A := ba d f h bc
 replace c := Fz.le.trans c m
 refine wp_seq ?_
 refine sqB ae k [] [] [(13, .bool (decide (f ≤ u1)))] ?_; intro b3 p; clear ae
 refine cd p (t := decide (f ≤ u1)) (by kernel_rfl) (fun M => ?_) (fun M => ?_)
 · -- yes
  have bf := A.1 M; clear A
  refine wp_skip ?_
  refine thn ?_
  refine wp_block ?_
  refine sqH ?_; intro bg af
  refine bt p k 4 [] [] [(14, .slice ao1 h.length cap2), (15, i6 d), (16, i6 f), (17, .func (.func fid3) #[] caps4)] ?_; intro b4 ag; clear p
  obtain ⟨bh, ah⟩ := bf
  refine ck ag 111 #[.slice ao1 h.length cap2, i6 d, i6 f, .func (.func fid3) #[] caps4] ?_
  refine (sins_fun h d f u2 bh ao1 cap2 fid3 caps4 _ _ _ _ _ _ (fun Z1 w1 h1 h2 => hf5 Z1 w1 (c.trans h1) h2) hg6 k k.fz).mono ?_; rintro _ bi ⟨ai, rfl, aj, bj, hm⟩; refine ⟨_, rfl, ?_⟩; intro bk ak; have al := hm; clear hm k ag
  replace m := m.mono aj
  replace c := Fz.le.trans c aj
  have am : Fr 63 [] [⟨0, [], .slice ao1 (sinsS h d f u2).length cap2⟩, ⟨1, [], i6 u1⟩, ⟨2, [], .func (.func fid3) #[] caps4⟩, ⟨6, [], i6 20⟩, ⟨7, [], i6 d⟩, ⟨8, [], i6 f⟩, ⟨13, [], .bool (decide (f ≤ u1))⟩, ⟨14, [], .slice ao1 (sinsS h d f u2).length cap2⟩, ⟨15, [], i6 d⟩, ⟨16, [], i6 f⟩, ⟨17, [], .func (.func fid3) #[] caps4⟩, ⟨18, [], .tuple #[]⟩] bk := by rw [bj]; exact ak.region (by kernel_rfl) (by kernel_rfl)
  clear ak
  have C : Mem B [] w0 Z0 ((.own tyJob 110 ao1 cap2 (sinsS h d f u2)) :: Rr) ai bi := al; clear al
  have an := ah (C.ownSmall 0 rfl); clear ah
  refine nlH (af _ _ ?_); clear af bg
  refine sqB am C [] [] [(7, i6 f)] ?_; intro b5 ao; clear am
  refine rgB ao C [] [] [(8, i6 (w64 (f + 20)))] ?_; intro b6 bl; clear ao
  refine ibn ?_
  refine rd ?_
  exact ⟨⟨f, w64 (f + 20), (sinsS h d f u2), ai⟩, ⟨an.1, m⟩, an.2, (bl.region (by kernel_rfl) (by kernel_rfl)).anyβ _ (by kernel_rfl), C.keep (List.Sublist.cons_cons _ (List.Sublist.refl _))⟩
 · -- no
  have bm := A.2 M; clear A
  refine wp_exit ?_
  refine thx ?_
  refine thx ?_
  refine ibx ?_
  refine thn ?_
  refine sqH ?_; intro bn ap
  refine bt p k 4 [] [] [(23, .slice ao1 h.length cap2), (24, i6 d), (25, i6 u1), (26, .func (.func fid3) #[] caps4)] ?_; intro b7 aq; clear p
  obtain ⟨bo, ar⟩ := bm
  refine ck aq 111 #[.slice ao1 h.length cap2, i6 d, i6 u1, .func (.func fid3) #[] caps4] ?_
  refine (sins_fun h d u1 u2 bo ao1 cap2 fid3 caps4 _ _ _ _ _ _ (fun Z1 w1 h1 h2 => hf5 Z1 w1 (c.trans h1) h2) hg6 k k.fz).mono ?_; rintro _ bp ⟨N, rfl, au, bq, hm⟩; refine ⟨_, rfl, ?_⟩; intro O av; have aw := hm; clear hm k aq
  replace m := m.mono au
  replace c := Fz.le.trans c au
  have ax : Fr 63 [] [⟨0, [], .slice ao1 (sinsS h d u1 u2).length cap2⟩, ⟨1, [], i6 u1⟩, ⟨2, [], .func (.func fid3) #[] caps4⟩, ⟨6, [], i6 20⟩, ⟨7, [], i6 d⟩, ⟨8, [], i6 f⟩, ⟨13, [], .bool (decide (f ≤ u1))⟩, ⟨23, [], .slice ao1 (sinsS h d u1 u2).length cap2⟩, ⟨24, [], i6 d⟩, ⟨25, [], i6 u1⟩, ⟨26, [], .func (.func fid3) #[] caps4⟩, ⟨27, [], .tuple #[]⟩] O := by rw [bq]; exact av.region (by kernel_rfl) (by kernel_rfl)
  clear av
  have P : Mem B [] w0 Z0 ((.own tyJob 110 ao1 cap2 (sinsS h d u1 u2)) :: Rr) N bp := aw; clear aw
  have br := ar (P.ownSmall 0 rfl); clear ar
  refine nlH (ap _ _ ?_); clear ap bn
  refine wp_block ?_
  have ay : Fr 63 [] [⟨0, [], .slice ao1 (sinsS h d u1 u2).length cap2⟩, ⟨1, [], i6 u1⟩, ⟨2, [], .func (.func fid3) #[] caps4⟩, ⟨6, [], i6 20⟩] O := ax.region (by kernel_rfl) (by kernel_rfl); clear ax
  have az : Fr 63 [] [⟨0, [], .slice ao1 (sinsS h d u1 u2).length cap2⟩, ⟨1, [], i6 u1⟩, ⟨2, [], .func (.func fid3) #[] caps4⟩, ⟨6, [], i6 20⟩] O := ay.region (by kernel_rfl) (by kernel_rfl); clear ay
  obtain ⟨bs, bu, bv, bw⟩ := br
  have b8 := c
  refine lp (ι := Int × (List Job) × Fz) (fun s => [⟨0, [], .slice ao1 s.2.1.length cap2⟩, ⟨1, [], i6 u1⟩, ⟨2, [], .func (.func fid3) #[] caps4⟩, ⟨6, [], i6 s.1⟩]) (fun s => ((.own tyJob 110 ao1 cap2 s.2.1) :: Rr)) (fun s => s.2.2) (fun s => bs s.1 s.2.1 ∧ Fz.le N s.2.2) (fun s => bu s.1 s.2.1) ⟨20, (sinsS h d u1 u2), N⟩ ⟨bv, Fz.le.refl _⟩ (by exact az.region (by kernel_rfl) (by kernel_rfl)) (by exact P) ?_
  rintro ⟨a, n, D⟩ ⟨bx, Q⟩ bz bA aA aB
  have aC : Fr 63 [] [⟨0, [], .slice ao1 n.length cap2⟩, ⟨1, [], i6 u1⟩, ⟨2, [], .func (.func fid3) #[] caps4⟩, ⟨6, [], i6 a⟩] bz := aA; clear aA az
  have q : Mem B [] w0 Z0 ((.own tyJob 110 ao1 cap2 n) :: Rr) D bA := aB; clear aB P
  have E := bw a n bx
  replace c := Fz.le.trans c Q
  have bB := m.mono Q
  refine wp_seq ?_
  refine sqB aC q [] [] [(30, .bool (decide (a < u1)))] ?_; intro b9 u; clear aC
  refine cd u (t := decide (a < u1)) (by kernel_rfl) (fun R => ?_) (fun R => ?_)
  · -- yes
   have bC := E.1 R; clear E
   refine wp_skip ?_
   refine thn ?_
   refine wp_block ?_
   refine sqB u q [] [] [(7, i6 0), (8, i6 (w64 (2 * a)))] ?_; intro aD aE; clear u
   refine wp_seq ?_
   refine wp_block ?_
   have aF : Fr 63 [] [⟨0, [], .slice ao1 n.length cap2⟩, ⟨1, [], i6 u1⟩, ⟨2, [], .func (.func fid3) #[] caps4⟩, ⟨6, [], i6 a⟩, ⟨7, [], i6 0⟩, ⟨8, [], i6 (w64 (2 * a))⟩] aD := aE.region (by kernel_rfl) (by kernel_rfl); clear aE
   have aG : Fr 63 [] [⟨0, [], .slice ao1 n.length cap2⟩, ⟨1, [], i6 u1⟩, ⟨2, [], .func (.func fid3) #[] caps4⟩, ⟨6, [], i6 a⟩, ⟨7, [], i6 0⟩, ⟨8, [], i6 (w64 (2 * a))⟩] aD := aF.region (by kernel_rfl) (by kernel_rfl); clear aF
   obtain ⟨bD, bE, bF, bG⟩ := bC
   have ca := c
   refine lp (ι := Int × Int × (List Job) × Fz) (fun s => [⟨0, [], .slice ao1 s.2.2.1.length cap2⟩, ⟨1, [], i6 u1⟩, ⟨2, [], .func (.func fid3) #[] caps4⟩, ⟨6, [], i6 a⟩, ⟨7, [], i6 s.1⟩, ⟨8, [], i6 s.2.1⟩]) (fun s => ((.own tyJob 110 ao1 cap2 s.2.2.1) :: Rr)) (fun s => s.2.2.2) (fun s => bD s.1 s.2.1 s.2.2.1 ∧ Fz.le D s.2.2.2) (fun s => bE s.1 s.2.1 s.2.2.1) ⟨0, w64 (2 * a), n, D⟩ ⟨bF, Fz.le.refl _⟩ (by exact aG.region (by kernel_rfl) (by kernel_rfl)) (by exact q) ?_
   rintro ⟨b, g, i, aH⟩ ⟨bH, l⟩ bI bJ aI aJ
   have aK : Fr 63 [] [⟨0, [], .slice ao1 i.length cap2⟩, ⟨1, [], i6 u1⟩, ⟨2, [], .func (.func fid3) #[] caps4⟩, ⟨6, [], i6 a⟩, ⟨7, [], i6 b⟩, ⟨8, [], i6 g⟩] bI := aI; clear aI aG
   have j : Mem B [] w0 Z0 ((.own tyJob 110 ao1 cap2 i) :: Rr) aH bJ := aJ; clear aJ q
   have F := bG b g i bH
   replace c := Fz.le.trans c l
   have G := bB.mono l
   have o := Q.mono l
   refine wp_seq ?_
   refine sqB aK j [] [] [(35, .bool (decide (g ≤ u1)))] ?_; intro cb y; clear aK
   refine cd y (t := decide (g ≤ u1)) (by kernel_rfl) (fun S => ?_) (fun S => ?_)
   · -- yes
    have bK := F.1 S; clear F
    refine wp_skip ?_
    refine thn ?_
    refine wp_block ?_
    refine sqH ?_; intro bL aL
    refine bt y j 7 [] [] [(36, .slice ao1 i.length cap2), (37, i6 b), (40, i6 (w64 (b + a))), (41, i6 g), (42, .func (.func fid3) #[] caps4)] ?_; intro cc aM; clear y
    obtain ⟨bM, aN⟩ := bK
    refine ck aM 112 #[.slice ao1 i.length cap2, i6 b, i6 (w64 (b + a)), i6 g, .func (.func fid3) #[] caps4] ?_
    refine (ssym_fun i b (w64 (b + a)) g u2 bM ao1 cap2 fid3 caps4 _ _ _ _ _ _ (fun Z1 w1 h1 h2 => hf5 Z1 w1 (c.trans h1) h2) hg6 j j.fz).mono ?_; rintro _ bN ⟨aO, rfl, H, bO, hm⟩; refine ⟨_, rfl, ?_⟩; intro bP aP; have aQ := hm; clear hm j aM
    replace G := G.mono H
    replace o := o.mono H
    replace l := l.mono H
    replace c := Fz.le.trans c H
    have aR : Fr 63 [] [⟨0, [], .slice ao1 (segC2 i b (w64 (b + a)) g u2).length cap2⟩, ⟨1, [], i6 u1⟩, ⟨2, [], .func (.func fid3) #[] caps4⟩, ⟨6, [], i6 a⟩, ⟨7, [], i6 b⟩, ⟨8, [], i6 g⟩, ⟨35, [], .bool (decide (g ≤ u1))⟩, ⟨36, [], .slice ao1 (segC2 i b (w64 (b + a)) g u2).length cap2⟩, ⟨37, [], i6 b⟩, ⟨40, [], i6 (w64 (b + a))⟩, ⟨41, [], i6 g⟩, ⟨42, [], .func (.func fid3) #[] caps4⟩, ⟨43, [], .tuple #[]⟩] bP := by rw [bO]; exact aP.region (by kernel_rfl) (by kernel_rfl)
    clear aP
    have I : Mem B [] w0 Z0 ((.own tyJob 110 ao1 cap2 (segC2 i b (w64 (b + a)) g u2)) :: Rr) aO bN := aQ; clear aQ
    have aS := aN (I.ownSmall 0 rfl); clear aN
    refine nlH (aL _ _ ?_); clear aL bL
    refine sqB aR I [] [] [(7, i6 g)] ?_; intro ce aT; clear aR
    refine rgB aT I [] [] [(8, i6 (w64 (g + (w64 (2 * a)))))] ?_; intro cf bQ; clear aT
    refine ibn ?_
    refine rd ?_
    exact ⟨⟨g, w64 (g + (w64 (2 * a))), (segC2 i b (w64 (b + a)) g u2), aO⟩, ⟨aS.1, l⟩, aS.2, (bQ.region (by kernel_rfl) (by kernel_rfl)).anyβ _ (by kernel_rfl), I.keep (List.Sublist.cons_cons _ (List.Sublist.refl _))⟩
   · -- no
    have J := F.2 S; clear F
    refine wp_exit ?_
    refine thx ?_
    refine thx ?_
    refine ibx ?_
    refine thn ?_
    refine wp_seq ?_
    refine sqB y j [] [] [(9, i6 (w64 (b + a)))] ?_; intro cg aU; clear y
    refine sqB aU j [] [] [(54, .bool (decide ((w64 (b + a)) < u1)))] ?_; intro ch z; clear aU
    refine cd z (t := decide ((w64 (b + a)) < u1)) (by kernel_rfl) (fun T => ?_) (fun T => ?_)
    · -- yes
     have bR := J.1 T; clear J
     refine rgH ?_; intro bS aV
     refine bt z j 5 [] [] [(55, .slice ao1 i.length cap2), (56, i6 b), (57, i6 (w64 (b + a))), (58, i6 u1), (59, .func (.func fid3) #[] caps4)] ?_; intro ci aW; clear z
     obtain ⟨bT, aX⟩ := bR
     refine ck aW 112 #[.slice ao1 i.length cap2, i6 b, i6 (w64 (b + a)), i6 u1, .func (.func fid3) #[] caps4] ?_
     refine (ssym_fun i b (w64 (b + a)) u1 u2 bT ao1 cap2 fid3 caps4 _ _ _ _ _ _ (fun Z1 w1 h1 h2 => hf5 Z1 w1 (c.trans h1) h2) hg6 j j.fz).mono ?_; rintro _ bU ⟨aY, rfl, L, bV, hm⟩; refine ⟨_, rfl, ?_⟩; intro bW aZ; have a1 := hm; clear hm j aW
     replace G := G.mono L
     replace o := o.mono L
     replace l := l.mono L
     replace c := Fz.le.trans c L
     have a2 : Fr 63 [] [⟨0, [], .slice ao1 (segC2 i b (w64 (b + a)) u1 u2).length cap2⟩, ⟨1, [], i6 u1⟩, ⟨2, [], .func (.func fid3) #[] caps4⟩, ⟨6, [], i6 a⟩, ⟨7, [], i6 b⟩, ⟨8, [], i6 g⟩, ⟨9, [], i6 (w64 (b + a))⟩, ⟨35, [], .bool (decide (g ≤ u1))⟩, ⟨54, [], .bool (decide ((w64 (b + a)) < u1))⟩, ⟨55, [], .slice ao1 (segC2 i b (w64 (b + a)) u1 u2).length cap2⟩, ⟨56, [], i6 b⟩, ⟨57, [], i6 (w64 (b + a))⟩, ⟨58, [], i6 u1⟩, ⟨59, [], .func (.func fid3) #[] caps4⟩, ⟨60, [], .tuple #[]⟩] bW := by rw [bV]; exact aZ.region (by kernel_rfl) (by kernel_rfl)
     clear aZ
     have U : Mem B [] w0 Z0 ((.own tyJob 110 ao1 cap2 (segC2 i b (w64 (b + a)) u1 u2)) :: Rr) aY bU := a1; clear a1
     have a3 := aX (U.ownSmall 0 rfl); clear aX
     refine nlH (aV _ _ ?_); clear aV bS
     refine thn ?_
     refine rgB a2 U [] [] [(6, i6 (w64 (a * 2)))] ?_; intro cj bX; clear a2
     refine ibn ?_
     refine rd ?_
     exact ⟨⟨w64 (a * 2), (segC2 i b (w64 (b + a)) u1 u2), aY⟩, ⟨a3.1, o⟩, a3.2, (bX.region (by kernel_rfl) (by kernel_rfl)).anyβ _ (by kernel_rfl), U.keep (List.Sublist.cons_cons _ (List.Sublist.refl _))⟩
    · -- no
     have a4 := J.2 T; clear J
     refine wp_skip ?_
     refine thn ?_
     refine rgB z j [] [] [(6, i6 (w64 (a * 2)))] ?_; intro cl bY; clear z
     refine ibn ?_
     refine rd ?_
     exact ⟨⟨w64 (a * 2), i, aH⟩, ⟨a4.1, o⟩, a4.2, (bY.region (by kernel_rfl) (by kernel_rfl)).anyβ _ (by kernel_rfl), j.keep (List.Sublist.cons_cons _ (List.Sublist.refl _))⟩
  · -- no
   have bZ := E.2 R; clear E
   refine wp_exit ?_
   refine thx ?_
   refine thx ?_
   refine ibx ?_
   obtain ⟨b0, b1⟩ := bZ
   refine rN (fn := Try.f86) (v := .tuple #[]) u (re0 u (fn := Try.f86) rfl) ?_
   exact ⟨n, D, rfl, b1, c, b0, q.keep (List.Sublist.cons_cons _ (List.Sublist.refl _))⟩

end Go.Proofs.Ytginlmgkimfjmaa
set_option linter.unusedVariables false
set_option linter.unusedSimpArgs false
set_option maxRecDepth 100000
set_option maxHeartbeats 0
namespace Go.Proofs.Ytginlmgkimfjmaa
open Go.Sy Go.RowKit
theorem sdel_walk (u0 : List Job) (u1 : Int) (u2 : Int) (ao1 : Option Addr) (cap2 : Nat) (B : Nat) (w0 : World) (Z0 : Fz) (Rr : List Res) (Z : Fz) (w : World) (hM0 : Mem B [] w0 Z0 ((.own tyJob 110 ao1 cap2 u0) :: Rr) Z w) (hZ : Z.on w) {K : (List Job) → Prop} (hp : sdel_vc u0 u1 u2 K) : Calls Try.prog 54 #[.slice ao1 u0.length cap2, i6 u1, i6 u2] w fun e w' => ∃ (r : (List Job)) (ao1001 : Option Addr) (cap1002 : Nat) (Z' : Fz), e = .returned (.slice ao1001 r.length cap1002) ∧ K r ∧ Fz.le Z Z' ∧ Mem B [] w0 Z0 ((.own tyJob 110 ao1001 cap1002 r) :: Rr) Z' w' := by
 refine enter0 Try.func54 rfl rfl (by kernel_rfl) ?_; intro a0 X; have d := Fz.le.refl Z
 have aR := hM0.ownLec 0 rfl
 have ak := hp (hM0.ownSmall 0 rfl); clear hp
 refine sqB X hM0 [] [] [] ?_; intro a5 Y; clear X
 refine sqH ?_; intro al aa
 refine bt Y hM0 5 [] [] [(8, .slice ao1 u0.length cap2), (9, i6 u1), (10, i6 u2), (12, i6 (u0.length : Int))] ?_; intro aS ab; clear Y
 obtain ⟨aT, Q⟩ := ak
 refine sl3 ab (ao := ao1) (n' := u0.length) (cap := cap2) u1 u2 (u0.length : Int) (by have := hM0.ownLec 0 rfl; omega) (sz := 3) (e := 110) (bytes := 24) (k1 := .i64) (k2 := .i64) (k3 := .i64) (nog rfl _) rfl (by kernel_rfl) rfl (by kernel_rfl) (by kernel_rfl) (by kernel_rfl) (by kernel_rfl) (by kernel_rfl) ?_; intro aU aV ac; clear ab
 refine nlH (aa _ _ ?_); clear aa al
 refine wp_seq ?_
 refine sqB ac hM0 [] [] [(16, .bool (u1 == u2))] ?_; intro aW N; clear ac
 refine cd N (t := u1 == u2) (by kernel_rfl) (fun R => ?_) (fun R => ?_)
 · -- yes
  have am := Q.1 R; clear Q
  refine sqB N hM0 [] [] [(6, .slice ao1 u0.length cap2)] ?_; intro aX an; clear N
  refine wp_ret ?_
  refine thr ?_
  refine ra1 an (.slice ao1 u0.length cap2) ?_
  exact ⟨u0, ao1, cap2, Z, rfl, am, d, hM0.keep (List.Sublist.cons_cons _ (List.Sublist.refl _))⟩
 · -- no
  have ap := Q.2 R; clear Q
  refine wp_skip ?_
  refine thn ?_
  refine sqB N hM0 [] [] [(7, i6 (u0.length : Int))] ?_; intro v ad; clear N
  have aq : Fr 33 [] [⟨0, [], .slice ao1 u0.length cap2⟩, ⟨1, [], i6 u1⟩, ⟨2, [], i6 u2⟩, ⟨7, [], i6 (u0.length : Int)⟩] v := ad.region (by kernel_rfl) (by kernel_rfl); clear ad
  obtain ⟨aY, ar⟩ := ap
  obtain ⟨aZ, au⟩ := ar
  obtain ⟨a1, av⟩ := au
  refine wp_seq (any_invE mixed [[], [], [0, 1], [], [], [3, 4], [2, 5], [0, 1, 2, 3, 4, 5, 6]] 8 (fun S a w1 => ∃ (O : Value) (x : Value) (y : Value) (l : Value) (z : Value) (C : Value) (m : Value) (j : Value) (P : Res), Fz.le Z Z ∧ Fr 33 [] [⟨0, [], O⟩, ⟨1, [], i6 u1⟩, ⟨2, [], i6 u2⟩, ⟨7, [], i6 (u0.length : Int)⟩, ⟨20, [], x⟩, ⟨21, [], y⟩, ⟨22, [], l⟩, ⟨23, [], z⟩, ⟨24, [], C⟩, ⟨25, [], m⟩, ⟨26, [], j⟩] a ∧ Mem B [] w0 Z0 (P :: Rr) Z w1 ∧ (S 7 = true → O = .slice ao1 (u0.take u1.toNat ++ u0.drop u2.toNat).length cap2) ∧ (S 7 = false → O = .slice ao1 u0.length cap2) ∧ (S 0 = true → x = .slice ao1 u0.length cap2) ∧ (S 1 = true → y = i6 u1) ∧ (S 2 = true → l = .slice ao1 u1.toNat cap2) ∧ (S 3 = true → z = .slice ao1 u0.length cap2) ∧ (S 4 = true → C = i6 u2) ∧ (S 5 = true → m = .slice (if cap2 = u2.toNat then ao1 else ao1.map (·.add (u2.toNat * 3))) (u0.length - u2.toNat) (cap2 - u2.toNat)) ∧ (S 6 = true → j = .slice ao1 (u0.take u1.toNat ++ u0.drop u2.toNat).length cap2) ∧ (S 6 = false → P = .own tyJob 110 ao1 cap2 u0) ∧ (S 6 = true → P = .own tyJob 110 ao1 cap2 (u0.take u1.toNat ++ u0.drop u2.toNat))) ?h0 ?hs ?hE)
  case h0 =>
   have aw := aq.any 20
   have ax := aw.any 21
   have ay := ax.any 22
   have az := ay.any 23
   have aA := az.any 24
   have aB := aA.any 25
   have aC := aB.any 26
   have aD := (hM0.perm (List.Perm.refl _)).drew
   exact ⟨.slice ao1 u0.length cap2, v.tmps.getD 20 undef, v.tmps.getD 21 undef, v.tmps.getD 22 undef, v.tmps.getD 23 undef, v.tmps.getD 24 undef, v.tmps.getD 25 undef, v.tmps.getD 26 undef, .own tyJob 110 ao1 cap2 u0, Fz.le.refl _, aC.region (by kernel_rfl) (by kernel_rfl), aD, ff, kf, ff, ff, ff, ff, ff, ff, ff, kf, ff⟩
  case hs =>
   intro S hcl i o hil hi hSi hpre a w1 hI; refine Go.Sy.hid ?_; intro G hG; obtain ⟨O, hI⟩ := hI; obtain ⟨x, hI⟩ := hI; obtain ⟨y, hI⟩ := hI; obtain ⟨l, hI⟩ := hI; obtain ⟨z, hI⟩ := hI; obtain ⟨C, hI⟩ := hI; obtain ⟨m, hI⟩ := hI; obtain ⟨j, hI⟩ := hI; obtain ⟨P, hI⟩ := hI; obtain ⟨f, hI⟩ := hI; obtain ⟨hFx, hI⟩ := hI; obtain ⟨hMx, hI⟩ := hI; obtain ⟨ae, hI⟩ := hI; obtain ⟨n, hI⟩ := hI; obtain ⟨p, hI⟩ := hI; obtain ⟨q, hI⟩ := hI; obtain ⟨L, hI⟩ := hI; obtain ⟨s, hI⟩ := hI; obtain ⟨u, hI⟩ := hI; obtain ⟨M, hI⟩ := hI; obtain ⟨U, hI⟩ := hI; obtain ⟨D, hI⟩ := hI; have V := hI; clear hI
   have hcase : i = 0 ∨ i = 1 ∨ i = 2 ∨ i = 3 ∨ i = 4 ∨ i = 5 ∨ i = 6 ∨ i = 7 := by clear hi; omega
   rcases hcase with rfl | rfl | rfl | rfl | rfl | rfl | rfl | rfl
   · -- 0: move
    obtain rfl := Option.some.inj hi
    have E := hSi
    have g := negF hcl 2 0 (by kernel_rfl) E
    have b := negF hcl 6 2 (by kernel_rfl) g
    have c := negF hcl 7 0 (by kernel_rfl) E
    obtain rfl := n c
    obtain rfl := D b
    refine hG (any_step ?_); clear hG G; intro A J hJ
    have d := Fz.le.trans d f
    refine s1 hFx 20 (.slice ao1 u0.length cap2) ?_; intro a2 aE; clear hFx
    refine nl (qnI (hJ _ _ ?_)); clear hJ J
    exact ⟨.slice ao1 u0.length cap2, .slice ao1 u0.length cap2, y, l, z, C, m, j, .own tyJob 110 ao1 cap2 u0, f, aE.region (by kernel_rfl) (by kernel_rfl), hMx.perm (List.Perm.refl _), (nt c), kf, kf, q, (nt g), s, u, M, (nt b), kf, (nt b)⟩
   · -- 1: move
    obtain rfl := Option.some.inj hi
    have F := hSi
    have g := negF hcl 2 1 (by kernel_rfl) F
    have b := negF hcl 6 2 (by kernel_rfl) g
    have c := negF hcl 7 1 (by kernel_rfl) F
    obtain rfl := n c
    obtain rfl := D b
    refine hG (any_step ?_); clear hG G; intro A J hJ
    have d := Fz.le.trans d f
    refine s1 hFx 21 (i6 u1) ?_; intro a3 aF; clear hFx
    refine nl (qnI (hJ _ _ ?_)); clear hJ J
    exact ⟨.slice ao1 u0.length cap2, x, i6 u1, l, z, C, m, j, .own tyJob 110 ao1 cap2 u0, f, aF.region (by kernel_rfl) (by kernel_rfl), hMx.perm (List.Perm.refl _), (nt c), kf, p, kf, (nt g), s, u, M, (nt b), kf, (nt b)⟩
   · -- 2: slice
    obtain rfl := Option.some.inj hi
    have F := hpre 1 (by kernel_rfl)
    have E := hpre 0 (by kernel_rfl)
    have g := hSi
    have b := negF hcl 6 2 (by kernel_rfl) g
    have c := negF hcl 7 2 (by kernel_rfl) g
    obtain rfl := n c
    obtain rfl := p E
    obtain rfl := q F
    obtain rfl := D b
    refine hG (any_step ?_); clear hG G; intro A J hJ
    have d := Fz.le.trans d f
    refine slP hFx hMx 0 (T := tyJob) (xs := u0) (ao := ao1) (cap := cap2) u1.toNat (by omega) (e := 110) (bytes := 24) (k := .i64) (nog rfl _) rfl (by kernel_rfl) rfl (by kernel_rfl) rfl (by kernel_rfl) (by rw [Int.toNat_of_nonneg (by omega)]; kernel_rfl) ?_; intro a4 aG; clear hFx
    refine nl (qnI (hJ _ _ ?_)); clear hJ J
    exact ⟨.slice ao1 u0.length cap2, .slice ao1 u0.length cap2, i6 u1, .slice ao1 u1.toNat cap2, z, C, m, j, .own tyJob 110 ao1 cap2 u0, f, aG.region (by kernel_rfl) (by kernel_rfl), hMx.perm (List.Perm.refl _), (nt c), kf, kf, kf, kf, s, u, M, (nt b), kf, (nt b)⟩
   · -- 3: move
    obtain rfl := Option.some.inj hi
    have H := hSi
    have h := negF hcl 5 3 (by kernel_rfl) H
    have b := negF hcl 6 5 (by kernel_rfl) h
    have c := negF hcl 7 3 (by kernel_rfl) H
    obtain rfl := n c
    obtain rfl := D b
    refine hG (any_step ?_); clear hG G; intro A J hJ
    have d := Fz.le.trans d f
    refine s1 hFx 23 (.slice ao1 u0.length cap2) ?_; intro a6 aH; clear hFx
    refine nl (qnI (hJ _ _ ?_)); clear hJ J
    exact ⟨.slice ao1 u0.length cap2, x, y, l, .slice ao1 u0.length cap2, C, m, j, .own tyJob 110 ao1 cap2 u0, f, aH.region (by kernel_rfl) (by kernel_rfl), hMx.perm (List.Perm.refl _), (nt c), kf, p, q, L, kf, u, (nt h), (nt b), kf, (nt b)⟩
   · -- 4: move
    obtain rfl := Option.some.inj hi
    have I := hSi
    have h := negF hcl 5 4 (by kernel_rfl) I
    have b := negF hcl 6 5 (by kernel_rfl) h
    have c := negF hcl 7 4 (by kernel_rfl) I
    obtain rfl := n c
    obtain rfl := D b
    refine hG (any_step ?_); clear hG G; intro A J hJ
    have d := Fz.le.trans d f
    refine s1 hFx 24 (i6 u2) ?_; intro a7 aI; clear hFx
    refine nl (qnI (hJ _ _ ?_)); clear hJ J
    exact ⟨.slice ao1 u0.length cap2, x, y, l, z, i6 u2, m, j, .own tyJob 110 ao1 cap2 u0, f, aI.region (by kernel_rfl) (by kernel_rfl), hMx.perm (List.Perm.refl _), (nt c), kf, p, q, L, s, kf, (nt h), (nt b), kf, (nt b)⟩
   · -- 5: slice
    obtain rfl := Option.some.inj hi
    have I := hpre 4 (by kernel_rfl)
    have H := hpre 3 (by kernel_rfl)
    have h := hSi
    have b := negF hcl 6 5 (by kernel_rfl) h
    have c := negF hcl 7 5 (by kernel_rfl) h
    obtain rfl := n c
    obtain rfl := s H
    obtain rfl := u I
    obtain rfl := D b
    refine hG (any_step ?_); clear hG G; intro A J hJ
    have d := Fz.le.trans d f
    refine slX hFx (ao := ao1) (n' := u0.length) (cap := cap2) u2.toNat u0.length 3 (by omega) (hMx.ownLec 0 rfl) (e := 110) (bytes := 24) (nog rfl _) rfl (by kernel_rfl) rfl (by kernel_rfl) (by kernel_rfl) (.inr ⟨.i64, _, rfl, by rw [Int.toNat_of_nonneg (by omega)]; kernel_rfl⟩) (.inl ⟨rfl, rfl⟩) ?_; intro a8 aJ; clear hFx
    refine nl (qnI (hJ _ _ ?_)); clear hJ J
    exact ⟨.slice ao1 u0.length cap2, x, y, l, .slice ao1 u0.length cap2, i6 u2, .slice (if cap2 = u2.toNat then ao1 else ao1.map (·.add (u2.toNat * 3))) (u0.length - u2.toNat) (cap2 - u2.toNat), j, .own tyJob 110 ao1 cap2 u0, f, aJ.region (by kernel_rfl) (by kernel_rfl), hMx.perm (List.Perm.refl _), (nt c), kf, p, q, L, kf, kf, kf, (nt b), kf, (nt b)⟩
   · -- 6: call
    obtain rfl := Option.some.inj hi
    have h := hpre 5 (by kernel_rfl)
    have g := hpre 2 (by kernel_rfl)
    have I := hcl 5 4 (by kernel_rfl) h
    have H := hcl 5 3 (by kernel_rfl) h
    have F := hcl 2 1 (by kernel_rfl) g
    have E := hcl 2 0 (by kernel_rfl) g
    have b := hSi
    have c := negF hcl 7 6 (by kernel_rfl) b
    obtain rfl := n c
    obtain rfl := p E
    obtain rfl := q F
    obtain rfl := L g
    obtain rfl := s H
    obtain rfl := u I
    obtain rfl := M h
    obtain rfl := D b
    refine hG (any_step ?_); clear hG G; intro A J hJ
    have d := Fz.le.trans d f
    refine apD hFx hMx 0 (T := tyJob) (xs := u0) (ao := ao1) (cap := cap2) u1.toNat u2.toNat (by omega) (t := 108) (e := 110) (bytes := 24) (nog rfl _) rfl (by kernel_rfl) rfl (by kernel_rfl) (by kernel_rfl) (by kernel_rfl) rfl ?_; intro a9 ba aK aL; clear hFx hMx
    refine nl (qnI (hJ _ _ ?_)); clear hJ J
    exact ⟨.slice ao1 u0.length cap2, .slice ao1 u0.length cap2, i6 u1, .slice ao1 u1.toNat cap2, .slice ao1 u0.length cap2, i6 u2, .slice (if cap2 = u2.toNat then ao1 else ao1.map (·.add (u2.toNat * 3))) (u0.length - u2.toNat) (cap2 - u2.toNat), .slice ao1 (u0.take u1.toNat ++ u0.drop u2.toNat).length cap2, .own tyJob 110 ao1 cap2 (u0.take u1.toNat ++ u0.drop u2.toNat), f, aK.region (by kernel_rfl) (by kernel_rfl), aL.perm (List.Perm.refl _), (nt c), kf, kf, kf, kf, kf, kf, kf, kf, nu, kf⟩
   · -- 7: assign
    obtain rfl := Option.some.inj hi
    have b := hpre 6 (by kernel_rfl)
    have h := hpre 5 (by kernel_rfl)
    have I := hpre 4 (by kernel_rfl)
    have H := hpre 3 (by kernel_rfl)
    have g := hpre 2 (by kernel_rfl)
    have F := hpre 1 (by kernel_rfl)
    have E := hpre 0 (by kernel_rfl)
    have c := hSi
    obtain rfl := n c
    obtain rfl := p E
    obtain rfl := q F
    obtain rfl := L g
    obtain rfl := s H
    obtain rfl := u I
    obtain rfl := M h
    obtain rfl := U b
    obtain rfl := V b
    refine hG (any_step ?_); clear hG G; intro A J hJ
    have d := Fz.le.trans d f
    refine s1 hFx 0 (.slice ao1 (u0.take u1.toNat ++ u0.drop u2.toNat).length cap2) ?_; intro bb aM; clear hFx
    refine nl (qnI (hJ _ _ ?_)); clear hJ J
    exact ⟨.slice ao1 (u0.take u1.toNat ++ u0.drop u2.toNat).length cap2, .slice ao1 u0.length cap2, i6 u1, .slice ao1 u1.toNat cap2, .slice ao1 u0.length cap2, i6 u2, .slice (if cap2 = u2.toNat then ao1 else ao1.map (·.add (u2.toNat * 3))) (u0.length - u2.toNat) (cap2 - u2.toNat), .slice ao1 (u0.take u1.toNat ++ u0.drop u2.toNat).length cap2, .own tyJob 110 ao1 cap2 (u0.take u1.toNat ++ u0.drop u2.toNat), f, aM.region (by kernel_rfl) (by kernel_rfl), hMx.perm (List.Perm.refl _), kf, nu, kf, kf, kf, kf, kf, kf, kf, (tn b), kf⟩
  case hE =>
   intro S hS aN bc hI; refine Go.Sy.hid ?_; intro G hG; obtain ⟨O, hI⟩ := hI; obtain ⟨x, hI⟩ := hI; obtain ⟨y, hI⟩ := hI; obtain ⟨l, hI⟩ := hI; obtain ⟨z, hI⟩ := hI; obtain ⟨C, hI⟩ := hI; obtain ⟨m, hI⟩ := hI; obtain ⟨j, hI⟩ := hI; obtain ⟨P, hI⟩ := hI; obtain ⟨f, hI⟩ := hI; obtain ⟨hFx, hI⟩ := hI; obtain ⟨hMx, hI⟩ := hI; obtain ⟨ae, hI⟩ := hI; obtain ⟨n, hI⟩ := hI; obtain ⟨p, hI⟩ := hI; obtain ⟨q, hI⟩ := hI; obtain ⟨L, hI⟩ := hI; obtain ⟨s, hI⟩ := hI; obtain ⟨u, hI⟩ := hI; obtain ⟨M, hI⟩ := hI; obtain ⟨U, hI⟩ := hI; obtain ⟨D, hI⟩ := hI; have V := hI; clear hI; refine hG ?_; clear hG G
   obtain rfl := ae (hS 7 (by decide))
   obtain rfl := p (hS 0 (by decide))
   obtain rfl := q (hS 1 (by decide))
   obtain rfl := L (hS 2 (by decide))
   obtain rfl := s (hS 3 (by decide))
   obtain rfl := u (hS 4 (by decide))
   obtain rfl := M (hS 5 (by decide))
   obtain rfl := U (hS 6 (by decide))
   obtain rfl := V (hS 6 (by decide))
   have d := Fz.le.trans d f
   refine thn ?_
   have af : Fr 33 [] [⟨0, [], .slice ao1 (u0.take u1.toNat ++ u0.drop u2.toNat).length cap2⟩, ⟨7, [], i6 (u0.length : Int)⟩] aN := hFx.region (by kernel_rfl) (by kernel_rfl); clear hFx
   refine sqH ?_; intro aO ag
   refine bt af hMx 4 [] [] [(27, .slice ao1 (u0.take u1.toNat ++ u0.drop u2.toNat).length cap2), (29, i6 ((u0.take u1.toNat ++ u0.drop u2.toNat).length : Int)), (30, i6 (u0.length : Int))] ?_; intro bd ah; clear af
   refine slX ah (ao := ao1) (n' := (u0.take u1.toNat ++ u0.drop u2.toNat).length) (cap := cap2) (u0.take u1.toNat ++ u0.drop u2.toNat).length u0.length 3 (by first | omega | (simp only [List.length_append, List.length_take, List.length_drop]; omega)) (by omega) (e := 110) (bytes := 24) (nog rfl _) rfl (by kernel_rfl) rfl (by kernel_rfl) (by kernel_rfl) (.inr ⟨.i64, _, rfl, by kernel_rfl⟩) (.inr ⟨.i64, _, rfl, by kernel_rfl⟩) ?_; intro be W; clear ah
   refine clrO W hMx 0 (T := tyJob) (xs := (u0.take u1.toNat ++ u0.drop u2.toNat)) (ao := ao1) (cap := cap2) u0.length (by refine ⟨?_, ?_⟩ <;> first | omega | (simp only [List.length_append, List.length_take, List.length_drop]; omega)) (e := 110) (bytes := 24) (zs := [i6 0, i6 0, i6 0]) (nog rfl _) rfl rfl (by kernel_rfl) (by kernel_rfl) rfl (by kernel_rfl) (by kernel_rfl) ?_; intro aP ai; clear hMx
   have aj : Mem B [] w0 Z0 ((.own tyJob 110 ao1 cap2 (u0.take u1.toNat ++ u0.drop u2.toNat)) :: Rr) Z aP := ai; clear ai
   refine nlH (ag _ _ ?_); clear ag aO
   refine sqB W aj [] [] [(6, .slice ao1 (u0.take u1.toNat ++ u0.drop u2.toNat).length cap2)] ?_; intro bf aQ; clear W
   refine wp_ret ?_
   refine ra1 aQ (.slice ao1 (u0.take u1.toNat ++ u0.drop u2.toNat).length cap2) ?_
   exact ⟨(u0.take u1.toNat ++ u0.drop u2.toNat), ao1, cap2, Z, rfl, av, d, aj.keep (List.Sublist.cons_cons _ (List.Sublist.refl _))⟩

end Go.Proofs.Ytginlmgkimfjmaa
set_option linter.unusedVariables false
set_option linter.unusedSimpArgs false
set_option maxRecDepth 100000
set_option maxHeartbeats 0
namespace Go.Proofs.Ytginlmgkimfjmaa
open Go.Sy Go.RowKit
theorem sstab_fun (u0 : List Job) (u1 : Int) (u2 : Job → Job → Int) (hpre : sstabPre u0 u1 u2) (ao1 : Option Addr) (cap2 : Nat) (fid3 : Nat) (caps4 : Array Value) (B : Nat) (w0 : World) (Z0 : Fz) (Rr : List Res) (Z : Fz) (w : World) (hf5 : ∀ (Z1 : Fz) (w1 : World), Z.le Z1 → Z1.on w1 → ∀ (x0 : Job) (x1 : Job), Calls Try.prog fid3 (#[.agg #[i6 x0.task, i6 x0.from_, i6 x0.asked], .agg #[i6 x1.task, i6 x1.from_, i6 x1.asked]] ++ caps4) w1 fun e w2 => e = .returned (i6 (u2 x0 x1)) ∧ Below w1.heap.size w1 w2) (hg6 : ∀ x w, Sem.run Try.prog (callFunc fid3 x) w = .ok (.enter fid3 x) w) (hM0 : Mem B [] w0 Z0 ((.own tyJob 110 ao1 cap2 u0) :: Rr) Z w) (hZ : Z.on w) : Calls Try.prog 86 #[.slice ao1 u0.length cap2, i6 u1, .func (.func fid3) #[] caps4] w fun e w' => ∃ (Z' : Fz), e = .returned (.tuple #[]) ∧ Fz.le Z Z' ∧ ((sstabS u0 u1 u2).length = u0.length) ∧ Mem B [] w0 Z0 ((.own tyJob 110 ao1 cap2 (sstabS u0 u1 u2)) :: Rr) Z' w' :=
  (sstab_walk u0 u1 u2 ao1 cap2 fid3 caps4 B w0 Z0 Rr Z w hf5 hg6 hM0 hZ (sstab_ok2 u0 u1 u2 hpre)).mono fun _ _ ⟨r, h0, he, hk, f0, f1, hm⟩ => by subst hk; exact ⟨h0, he, f0, f1, hm⟩

theorem ssort_walk (u0 : List Job) (u1 : Job → Job → Int) (ao1 : Option Addr) (cap2 : Nat) (fid3 : Nat) (caps4 : Array Value) (B : Nat) (w0 : World) (Z0 : Fz) (Rr : List Res) (Z : Fz) (w : World) (hf5 : ∀ (Z1 : Fz) (w1 : World), Z.le Z1 → Z1.on w1 → ∀ (x0 : Job) (x1 : Job), Calls Try.prog fid3 (#[.agg #[i6 x0.task, i6 x0.from_, i6 x0.asked], .agg #[i6 x1.task, i6 x1.from_, i6 x1.asked]] ++ caps4) w1 fun e w2 => e = .returned (i6 (u1 x0 x1)) ∧ Below w1.heap.size w1 w2) (hg6 : ∀ x w, Sem.run Try.prog (callFunc fid3 x) w = .ok (.enter fid3 x) w) (hM0 : Mem B [] w0 Z0 ((.own tyJob 110 ao1 cap2 u0) :: Rr) Z w) (hZ : Z.on w) {K : (List Job) → Prop} (hp : ssort_vc u0 u1 K) : Calls Try.prog 51 #[.slice ao1 u0.length cap2, .func (.func fid3) #[] caps4] w fun e w' => ∃ (r : (List Job)) (Z' : Fz), e = .returned (.tuple #[]) ∧ K r ∧ Fz.le Z Z' ∧ (r.length = u0.length) ∧ Mem B [] w0 Z0 ((.own tyJob 110 ao1 cap2 r) :: Rr) Z' w' := by
 refine enter0 Try.func51 rfl rfl (by kernel_rfl) ?_; intro z b; have a := Fz.le.refl Z
 have l := hp (hM0.ownSmall 0 rfl); clear hp
 refine rgH ?_; intro m c
 refine bt b hM0 4 [] [] [(4, .slice ao1 u0.length cap2), (6, i6 (u0.length : Int)), (7, .func (.func fid3) #[] caps4)] ?_; intro A d; clear b
 obtain ⟨n, f⟩ := l
 refine ck d 86 #[.slice ao1 u0.length cap2, i6 (u0.length : Int), .func (.func fid3) #[] caps4] ?_
 refine (sstab_fun u0 (u0.length : Int) u1 n ao1 cap2 fid3 caps4 _ _ _ _ _ _ (fun Z1 w1 h1 h2 => hf5 Z1 w1 (a.trans h1) h2) hg6 hM0 hM0.fz).mono ?_; rintro _ o ⟨g, rfl, p, q, hm⟩; refine ⟨_, rfl, ?_⟩; intro s h; have i := hm; clear hm hM0 d
 replace a := Fz.le.trans a p
 have j : Fr 9 [] [⟨0, [], .slice ao1 (sstabS u0 (u0.length : Int) u1).length cap2⟩, ⟨1, [], .func (.func fid3) #[] caps4⟩, ⟨4, [], .slice ao1 (sstabS u0 (u0.length : Int) u1).length cap2⟩, ⟨6, [], i6 (u0.length : Int)⟩, ⟨7, [], .func (.func fid3) #[] caps4⟩, ⟨8, [], .tuple #[]⟩] s := by rw [q]; exact h.region (by kernel_rfl) (by kernel_rfl)
 clear h
 have k : Mem B [] w0 Z0 ((.own tyJob 110 ao1 cap2 (sstabS u0 (u0.length : Int) u1)) :: Rr) g o := i; clear i
 have t := f (k.ownSmall 0 rfl); clear f
 refine nlH (c _ _ ?_); clear c m
 obtain ⟨u, y⟩ := t
 refine rN (fn := Try.f51) (v := .tuple #[]) j (re0 j (fn := Try.f51) rfl) ?_
 exact ⟨(sstabS u0 (u0.length : Int) u1), g, rfl, y, a, u, k.keep (List.Sublist.cons_cons _ (List.Sublist.refl _))⟩

theorem sdel_fun (u0 : List Job) (u1 : Int) (u2 : Int) (hpre : 0 ≤ u1 ∧ u1 ≤ u2 ∧ u2 ≤ (u0.length : Int)) (ao1 : Option Addr) (cap2 : Nat) (B : Nat) (w0 : World) (Z0 : Fz) (Rr : List Res) (Z : Fz) (w : World) (hM0 : Mem B [] w0 Z0 ((.own tyJob 110 ao1 cap2 u0) :: Rr) Z w) (hZ : Z.on w) : Calls Try.prog 54 #[.slice ao1 u0.length cap2, i6 u1, i6 u2] w fun e w' => ∃ (ao1001 : Option Addr) (cap1002 : Nat) (Z' : Fz), e = .returned (.slice ao1001 (sdelS u0 u1 u2).length cap1002) ∧ Fz.le Z Z' ∧ Mem B [] w0 Z0 ((.own tyJob 110 ao1001 cap1002 (sdelS u0 u1 u2)) :: Rr) Z' w' :=
  (sdel_walk u0 u1 u2 ao1 cap2 B w0 Z0 Rr Z w hM0 hZ (sdel_ok u0 u1 u2 hpre)).mono fun _ _ ⟨r, h0, h1, h2, he, hk, f0, hm⟩ => by subst hk; exact ⟨h0, h1, h2, he, f0, hm⟩

theorem cmpj_walk (u0 : Job) (u1 : Job)  (Z : Fz) (w : World)  (hZ : Z.on w) {K : Int → Prop} (hp : cmpj_vc u0 u1 K) : Calls Try.prog 52 #[.agg #[i6 u0.task, i6 u0.from_, i6 u0.asked], .agg #[i6 u1.task, i6 u1.from_, i6 u1.asked]] w fun e w' => ∃ r : Int, e = .returned (i6 r) ∧ K r ∧ Below w.heap.size w w' := by
 refine enter0 Try.func52 rfl rfl (by kernel_rfl) ?_; intro l a; have b := Mem.start w Z hZ; have m := Fz.le.refl Z
 refine sqH ?_; intro j c
 refine nw a b pb [i6 u0.task, i6 u0.from_, i6 u0.asked] 110 ?_; intro n o p d f; clear a b
 refine nw d f pb [i6 u1.task, i6 u1.from_, i6 u1.asked] 110 ?_; intro q s t g h; clear d f
 refine s1 g 4 (i6 0) ?_; intro u i; clear g
 refine nlH (c _ _ ?_); clear c j
 refine sqB i h [1, 0] [] [(4, i6 (w64 (u0.asked - u1.asked)))] ?_; intro v k; clear i
 refine wp_ret ?_
 refine ra1 k (i6 (w64 (u0.asked - u1.asked))) ?_
 exact ⟨w64 (u0.asked - u1.asked), rfl, hp, h.below⟩
theorem cmpj_fun (u0 : Job) (u1 : Job)  (Z : Fz) (w : World)  (hZ : Z.on w) : Calls Try.prog 52 #[.agg #[i6 u0.task, i6 u0.from_, i6 u0.asked], .agg #[i6 u1.task, i6 u1.from_, i6 u1.asked]] w fun e w' => e = .returned (i6 (cmpj u0 u1)) ∧ Below w.heap.size w w' :=
  (cmpj_walk u0 u1  Z w  hZ (cmpj_ok u0 u1)).mono fun _ _ ⟨r, he, hk, hb⟩ => ⟨by subst hk; exact he, hb⟩

theorem ahead_walk (u0 : Job) (u1 : Job) (u2 : Int) (cb1 co2 : Nat) (Z : Fz) (w : World) (hP3 : PtR Z cb1 co2 [i6 u2]) (hZ : Z.on w) {K : Bool → Prop} (hp : ahead_vc u0 u1 u2 K) : Calls Try.prog 53 #[.agg #[i6 u0.task, i6 u0.from_, i6 u0.asked], .agg #[i6 u1.task, i6 u1.from_, i6 u1.asked], pt cb1 co2] w fun e w' => ∃ r : Bool, e = .returned (.bool r) ∧ K r ∧ Below w.heap.size w w' := by
 refine enter0 Try.func53 rfl rfl (by kernel_rfl) ?_; intro p b; have c := Mem.start w Z hZ; have q := Fz.le.refl Z
 refine sqH ?_; intro m d
 refine nw b c pb [i6 u0.task, i6 u0.from_, i6 u0.asked] 110 ?_; intro s t u f g; clear b c
 refine nw f g pb [i6 u1.task, i6 u1.from_, i6 u1.asked] 110 ?_; intro v x y h a; clear f g
 refine s1 h 5 (.bool false) ?_; intro z i; clear h
 refine nlH (d _ _ ?_); clear d m
 refine sqH ?_; intro n j
 refine bt i a 2 [1] [] [(7, i6 u0.asked)] ?_; intro A k; clear i
 refine z1 k a 8 hP3 0 (i6 u2) rfl ?_; intro B l; clear k
 refine bt l a 23 [1, 0, 1, 0, 1, 0] [] [(5, .bool ((decide (u0.asked ≤ u2)) && ((decide (u0.task < u1.task)) || ((u0.task == u1.task) && (decide (u0.from_ < u1.from_))))))] ?_; intro C o; clear l
 refine nlH (j _ _ ?_); clear j n
 refine wp_ret ?_
 refine ra1 o (.bool ((decide (u0.asked ≤ u2)) && ((decide (u0.task < u1.task)) || ((u0.task == u1.task) && (decide (u0.from_ < u1.from_)))))) ?_
 exact ⟨(decide (u0.asked ≤ u2)) && ((decide (u0.task < u1.task)) || ((u0.task == u1.task) && (decide (u0.from_ < u1.from_)))), rfl, hp, a.below⟩
theorem ahead_fun (u0 : Job) (u1 : Job) (u2 : Int) (cb1 co2 : Nat) (Z : Fz) (w : World) (hP3 : PtR Z cb1 co2 [i6 u2]) (hZ : Z.on w) : Calls Try.prog 53 #[.agg #[i6 u0.task, i6 u0.from_, i6 u0.asked], .agg #[i6 u1.task, i6 u1.from_, i6 u1.asked], pt cb1 co2] w fun e w' => e = .returned (.bool (ahead u0 u1 u2)) ∧ Below w.heap.size w w' :=
  (ahead_walk u0 u1 u2 cb1 co2 Z w hP3 hZ (ahead_ok u0 u1 u2)).mono fun _ _ ⟨r, he, hk, hb⟩ => ⟨by subst hk; exact he, hb⟩

end Go.Proofs.Ytginlmgkimfjmaa
