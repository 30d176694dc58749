/- Texts put together (pure ones, or walks made by program). -/
import Derived.Test.YtmkdnaecmombnaaRG0
import Derived.Test.YtmkdnaecmombnaaRG1
import Derived.Test.YtmkdnaecmombnaaRG2
import Derived.Test.YtmkdnaecmombnaaRG3
set_option linter.unusedVariables false
set_option linter.unusedSimpArgs false
set_option maxRecDepth 100000
set_option maxHeartbeats 0
namespace Go.Proofs.Ytmkdnaecmombnaa
open Go.Sy Go.RowKit
abbrev e42F (X : Line) (A0 : Option Addr) (C0 : Nat) : List Value := [i6 X.Time, i6 X.Bus, i6 X.F.ID, .bool X.F.Long, .bool X.F.Fast, .bool X.F.Remote, i6 X.F.Size, .slice A0 X.F.Data.length C0]
theorem ssym_walk (u0 : List Line) (u1 : Int) (u2 : Int) (u3 : Int) (u4 : Line → Line → Int) (ao1 : Option Addr) (cap2 : Nat) (fid3 : Nat) (caps4 : Array Value) (B : Nat) (w0 : World) (Z0 : Fz) (Rr : List Res) (Z : Fz) (w : World) (hf5 : ∀ (Z1 : Fz) (w1 : World), Z.le Z1 → Z1.on w1 → ∀ (x0 : Line) (x1 : Line) (xao0 : Option Addr) (xcap0 : Nat) (xao1 : Option Addr) (xcap1 : Nat), SlR t8 Z1 xao0 xcap0 x0.F.Data → SlR t8 Z1 xao1 xcap1 x1.F.Data → Calls Try.prog fid3 (#[.agg #[i6 x0.Time, i6 x0.Bus, i6 x0.F.ID, .bool x0.F.Long, .bool x0.F.Fast, .bool x0.F.Remote, i6 x0.F.Size, .slice xao0 x0.F.Data.length xcap0], .agg #[i6 x1.Time, i6 x1.Bus, i6 x1.F.ID, .bool x1.F.Long, .bool x1.F.Fast, .bool x1.F.Remote, i6 x1.F.Size, .slice xao1 x1.F.Data.length xcap1]] ++ caps4) w1 fun e w2 => e = .returned (i6 (u4 x0 x1)) ∧ Below w1.heap.size w1 w2) (hg6 : ∀ x w, Sem.run Try.prog (callFunc fid3 x) w = .ok (.enter fid3 x) w) (hM0 : Mem B [] w0 Z0 ((.own tyLine 42 ao1 cap2 u0) :: Rr) Z w) (hZ : Z.on w) (ih : ∀ (u0' : List Line) (u1' : Int) (u2' : Int) (u3' : Int) (u4' : Line → Line → Int), (symMu u0' u1' u2' u3' u4' < symMu u0 u1 u2 u3 u4 ∧ symPre u0' u1' u2' u3' u4') → ∀ (ao1 : Option Addr) (cap2 : Nat) (fid3 : Nat) (caps4 : Array Value) (B : Nat) (w0 : World) (Z0 : Fz) (Rr : List Res) (Z : Fz) (w : World) (hf5 : ∀ (Z1 : Fz) (w1 : World), Z.le Z1 → Z1.on w1 → ∀ (x0 : Line) (x1 : Line) (xao0 : Option Addr) (xcap0 : Nat) (xao1 : Option Addr) (xcap1 : Nat), SlR t8 Z1 xao0 xcap0 x0.F.Data → SlR t8 Z1 xao1 xcap1 x1.F.Data → Calls Try.prog fid3 (#[.agg #[i6 x0.Time, i6 x0.Bus, i6 x0.F.ID, .bool x0.F.Long, .bool x0.F.Fast, .bool x0.F.Remote, i6 x0.F.Size, .slice xao0 x0.F.Data.length xcap0], .agg #[i6 x1.Time, i6 x1.Bus, i6 x1.F.ID, .bool x1.F.Long, .bool x1.F.Fast, .bool x1.F.Remote, i6 x1.F.Size, .slice xao1 x1.F.Data.length xcap1]] ++ caps4) w1 fun e w2 => e = .returned (i6 (u4' x0 x1)) ∧ Below w1.heap.size w1 w2) (hg6 : ∀ x w, Sem.run Try.prog (callFunc fid3 x) w = .ok (.enter fid3 x) w) (hM0 : Mem B [] w0 Z0 ((.own tyLine 42 ao1 cap2 u0') :: Rr) Z w) (hZ : Z.on w), Calls Try.prog 82 #[.slice ao1 u0'.length cap2, i6 u1', i6 u2', i6 u3', .func (.func fid3) #[] caps4] w fun e w' => ∃ (Z' : Fz), e = .returned (.tuple #[]) ∧ Fz.le Z Z' ∧ ((segC2 u0' u1' u2' u3' u4').length = u0'.length) ∧ Mem B [] w0 Z0 ((.own tyLine 42 ao1 cap2 (segC2 u0' u1' u2' u3' u4')) :: Rr) Z' w') {K : (List Line) → Prop} (hp : ssym_vc u0 u1 u2 u3 u4 K) : Calls Try.prog 82 #[.slice ao1 u0.length cap2, i6 u1, i6 u2, i6 u3, .func (.func fid3) #[] caps4] w fun e w' => ∃ (r : (List Line)) (Z' : Fz), e = .returned (.tuple #[]) ∧ K r ∧ Fz.le Z Z' ∧ (r.length = u0.length) ∧ Mem B [] w0 Z0 ((.own tyLine 42 ao1 cap2 r) :: Rr) Z' w' := by
 refine enter0 Try.func82 rfl rfl (by kernel_rfl) ?_; intro a0 f2; have c := Fz.le.refl Z
 have d4 := hp (hM0.ownSmall 0 rfl)
 refine s_ (sqB f2 hM0 [] [] [(28, .bool ((w64 (u2 - u1)) == 1))] ?_); intro tM dJ
 refine c_ dJ d4 (fun _ kv => ?_) fun _ eb => ?_
 ·
  refine sqB dJ hM0 [] [] [(10, i6 u2)] ?_; intro tN f3
  refine sqB f3 hM0 [] [] [(11, i6 u3)] ?_; intro d5 f4
  have f5 : Fr 220 [] [⟨0, [], .slice ao1 u0.length cap2⟩, ⟨1, [], i6 u1⟩, ⟨4, [], .func (.func fid3) #[] caps4⟩, ⟨10, [], i6 u2⟩, ⟨11, [], i6 u3⟩] d5 := f4.reg
  obtain ⟨kw, kx, ky⟩ := kv
  refine wp_seq_k fun KJ34 hKJ35 => ?_
  have kz : ∀ (cr : Int), kw cr → ∀ a1 w1, Fr 220 [] [⟨0, [], .slice ao1 u0.length cap2⟩, ⟨1, [], i6 u1⟩, ⟨10, [], i6 cr⟩] a1 → Mem B [] w0 Z0 ((.own tyLine 42 ao1 cap2 u0) :: Rr) Z w1 → KJ34 a1 w1 := by
   rintro cr kA tO tP f6 eK
   refine hKJ35 _ _ ?_
   have kB := ky cr kA
   refine s_ (sqB f6 eK [] [] [(13, i6 u1)] ?_); intro f7 f8
   apply b_
   have f9 : Fr 220 [] [⟨0, [], .slice ao1 u0.length cap2⟩, ⟨10, [], i6 cr⟩, ⟨13, [], i6 u1⟩] f7 := f8.reg
   obtain ⟨kC, kD, kE, kF⟩ := kB
   refine lp (ι := Int × (List Line)) (fun s => [⟨0, [], .slice ao1 s.2.length cap2⟩, ⟨10, [], i6 cr⟩, ⟨13, [], i6 s.1⟩]) (fun s => ((.own tyLine 42 ao1 cap2 s.2) :: Rr)) (fun s => Z) (fun s => kC s.1 s.2) (fun s => kD s.1 s.2) ⟨u1, u0⟩ kE (by exact f9.reg) (by exact eK) ?_
   rintro ⟨l, j⟩ kG kH kI gb gc
   have d6 := kF l j kG
   refine s_ (sqB gb gc [] [] [(58, .bool (decide (l < (w64 (cr - 1)))))] ?_); intro b8 dK
   refine c_ dK d6 (fun _ kJ => ?_) fun _ lQ => ?_
   ·
    refine k_ (s_ (b_ ?_))
    have kK : Fr 220 [] [⟨0, [], .slice ao1 j.length cap2⟩, ⟨10, [], i6 cr⟩, ⟨13, [], i6 l⟩] b8 := dK.reg
    obtain ⟨eN, ge⟩ := kJ
    obtain ⟨d, eO, kL⟩ := gxq ge (by omega)
    obtain ⟨eP, gf⟩ := kL
    obtain ⟨f, eQ, kM⟩ := gxq gf (by omega)
    obtain ⟨eR, kN⟩ := kM
    obtain ⟨eS, gg⟩ := kN
    refine any_invE mixed [[], [], [], [], [3], [], [], [6], [5, 7], [8], [], [], [10, 11], [12], [0, 1, 5, 6, 7, 8, 9, 13], [0, 1, 5, 6, 7, 8, 9, 13, 14], [0, 1, 2, 3, 4, 5, 6, 7, 8, 9, 10, 11, 12, 13, 14, 15], [0, 1, 2, 3, 4, 5, 6, 7, 8, 9, 10, 11, 12, 13, 14, 15, 16]] 18 (fun S a w1 => ∃ (aI : Nat) (ay : Option Addr) (az : Nat) (aJ : Nat) (aA : Option Addr) (aB : Nat) (aR : Nat) (a5 : Nat) (b9 : Value) (ca : Value) (bv : Value) (bS : Value) (bw : Value) (cB : Value) (cO : Value) (cC : Value) (cs : Value) (cb : Value) (cD : Value) (cE : Value) (ct : Value) (cc : Value) (bT : Value) (bj : Value) (ag : Res), Fz.le Z Z ∧ Fr 220 [] [⟨0, [], .slice ao1 j.length cap2⟩, ⟨10, [], i6 cr⟩, ⟨13, [], i6 l⟩, ⟨61, [], b9⟩, ⟨62, [], ca⟩, ⟨63, [], bv⟩, ⟨64, [], bS⟩, ⟨65, [], bw⟩, ⟨66, [], cB⟩, ⟨67, [], cO⟩, ⟨68, [], cC⟩, ⟨69, [], cs⟩, ⟨70, [], cb⟩, ⟨71, [], cD⟩, ⟨72, [], cE⟩, ⟨73, [], ct⟩, ⟨74, [], cc⟩, ⟨75, [], bT⟩, ⟨76, [], bj⟩] a ∧ Mem B [] w0 Z0 (ag :: Rr) Z w1 ∧ (S 0 = true → b9 = .slice ao1 j.length cap2) ∧ (S 1 = true → ca = i6 l) ∧ (S 2 = true → bv = .slice ao1 j.length cap2) ∧ (S 3 = true → bS = i6 l) ∧ (S 4 = true → bw = i6 (w64 (l + 1))) ∧ (S 5 = true → cB = .slice ao1 j.length cap2) ∧ (S 6 = true → cO = i6 l) ∧ (S 7 = true → cC = i6 (w64 (l + 1))) ∧ (S 8 = true → cs = .pointer (some ⟨aI, (w64 (l + 1)).toNat * 8, none⟩)) ∧ (S 9 = true → cb = .agg (e42F d ay az).toArray) ∧ (S 10 = true → cD = .slice ao1 j.length cap2) ∧ (S 11 = true → cE = i6 l) ∧ (S 12 = true → ct = .pointer (some ⟨aJ, l.toNat * 8, none⟩)) ∧ (S 13 = true → cc = .agg (e42F f aA aB).toArray) ∧ (S 14 = true → bT = .pointer (some ⟨aR, l.toNat * 8, none⟩)) ∧ (S 16 = true → bj = .pointer (some ⟨a5, (w64 (l + 1)).toNat * 8, none⟩)) ∧ (S 15 = false → ag = .own tyLine 42 ao1 cap2 j) ∧ (S 15 = true → S 17 = false → ag = .own tyLine 42 ao1 cap2 (j.set l.toNat d)) ∧ (S 17 = true → ag = .own tyLine 42 ao1 cap2 ((j.set l.toNat d).set (w64 (l + 1)).toNat f)) ∧ (S 8 = true → ao1 = some ⟨aI, 0, none⟩) ∧ (S 9 = true → SlR t8 Z ay az d.F.Data) ∧ (S 12 = true → ao1 = some ⟨aJ, 0, none⟩) ∧ (S 13 = true → SlR t8 Z aA aB f.F.Data) ∧ (S 14 = true → ao1 = some ⟨aR, 0, none⟩) ∧ (S 16 = true → ao1 = some ⟨a5, 0, none⟩)) ?h0 ?hs ?hE
    case h0 =>
     have kO := kK.any 61
     have kP := kO.any 62
     have kQ := kP.any 63
     have kR := kQ.any 64
     have kS := kR.any 65
     have kT := kS.any 66
     have kU := kT.any 67
     have kV := kU.any 68
     have kW := kV.any 69
     have kX := kW.any 70
     have kY := kX.any 71
     have kZ := kY.any 72
     have k0 := kZ.any 73
     have k1 := k0.any 74
     have k2 := k1.any 75
     have k3 := k2.any 76
     have k4 := (gc.perm lpr).drew
     exact ⟨0, none, 0, 0, none, 0, 0, 0, b8.tmps.getD 61 undef, b8.tmps.getD 62 undef, b8.tmps.getD 63 undef, b8.tmps.getD 64 undef, b8.tmps.getD 65 undef, b8.tmps.getD 66 undef, b8.tmps.getD 67 undef, b8.tmps.getD 68 undef, b8.tmps.getD 69 undef, b8.tmps.getD 70 undef, b8.tmps.getD 71 undef, b8.tmps.getD 72 undef, b8.tmps.getD 73 undef, b8.tmps.getD 74 undef, b8.tmps.getD 75 undef, b8.tmps.getD 76 undef, .own tyLine 42 ao1 cap2 j, Fz.le.refl _, k3.reg, k4, ff, ff, ff, ff, ff, ff, ff, ff, ff, ff, ff, ff, ff, ff, ff, ff, kf, ff, ff, ff, ff, ff, ff, ff, ff⟩
    case hs =>
     intro S hcl i o hil hi hSi hpre a w1 hI; refine Go.Sy.hid ?_; intro G hG; obtain ⟨aI, ay, az, aJ, aA, aB, aR, a5, b9, ca, bv, bS, bw, cB, cO, cC, cs, cb, cD, cE, ct, cc, bT, bj, ag, hI⟩ := hI; obtain ⟨ah, hFx, hMx, bx, bz, bA, bB, bU, bC, bD, bV, cu, cF, bE, bF, ce, cv, dB, eT, U, cS, dL, Y, ab, X, hI⟩ := hI; obtain ⟨aa, cf, hI⟩ := hI; have dD := hI
     have hcase : i = 0 ∨ i = 1 ∨ i = 2 ∨ i = 3 ∨ i = 4 ∨ i = 5 ∨ i = 6 ∨ i = 7 ∨ i = 8 ∨ i = 9 ∨ i = 10 ∨ i = 11 ∨ i = 12 ∨ i = 13 ∨ i = 14 ∨ i = 15 ∨ i = 16 ∨ i = 17 := by clear hi; omega
     rcases hcase with rfl | rfl | rfl | rfl | rfl | rfl | rfl | rfl | rfl | rfl | rfl | rfl | rfl | rfl | rfl | rfl | rfl | rfl
     ·
      obtain rfl := oj hi
      have af := hSi
      have V := ngF hcl 14 0 af
      have W := ngF hcl 15 0 af
      have Q := ngF hcl 16 0 af
      have ac := ngF hcl 17 0 af
      obtain rfl := U W
      refine hG (any_step ?_); intro A J hJ
      refine s1 hFx 61 (.slice ao1 j.length cap2) ?_; intro tQ k5
      refine nl (qnI (hJ _ _ ?_))
      exact ⟨aI, ay, az, aJ, aA, aB, aR, a5, .slice ao1 j.length cap2, ca, bv, bS, bw, cB, cO, cC, cs, cb, cD, cE, ct, cc, bT, bj, .own tyLine 42 ao1 cap2 j, ah, k5.reg, hMx.perm lpr, kf, bz, bA, bB, bU, bC, bD, bV, cu, cF, bE, bF, ce, cv, (nt V), (nt Q), kf, (fun h _ => nt W h), (nt ac), Y, ab, X, aa, (nt V), (nt Q)⟩
     ·
      obtain rfl := oj hi
      have ad := hSi
      have V := ngF hcl 14 1 ad
      have W := ngF hcl 15 1 ad
      have Q := ngF hcl 16 1 ad
      have ac := ngF hcl 17 1 ad
      obtain rfl := U W
      refine hG (any_step ?_); intro A J hJ
      refine s1 hFx 62 (i6 l) ?_; intro tR k6
      refine nl (qnI (hJ _ _ ?_))
      exact ⟨aI, ay, az, aJ, aA, aB, aR, a5, b9, i6 l, bv, bS, bw, cB, cO, cC, cs, cb, cD, cE, ct, cc, bT, bj, .own tyLine 42 ao1 cap2 j, ah, k6.reg, hMx.perm lpr, bx, kf, bA, bB, bU, bC, bD, bV, cu, cF, bE, bF, ce, cv, (nt V), (nt Q), kf, (fun h _ => nt W h), (nt ac), Y, ab, X, aa, (nt V), (nt Q)⟩
     ·
      obtain rfl := oj hi
      have ae := hSi
      have Q := ngF hcl 16 2 ae
      have ac := ngF hcl 17 2 ae
      refine hG (any_step ?_); intro A J hJ
      refine s1 hFx 63 (.slice ao1 j.length cap2) ?_; intro tS k7
      refine nl (qnI (hJ _ _ ?_))
      exact ⟨aI, ay, az, aJ, aA, aB, aR, a5, b9, ca, .slice ao1 j.length cap2, bS, bw, cB, cO, cC, cs, cb, cD, cE, ct, cc, bT, bj, ag, ah, k7.reg, hMx.perm lpr, bx, bz, kf, bB, bU, bC, bD, bV, cu, cF, bE, bF, ce, cv, dB, (nt Q), U, cS, (nt ac), Y, ab, X, aa, cf, (nt Q)⟩
     ·
      obtain rfl := oj hi
      have R := hSi
      have M := ngF hcl 4 3 R
      have Q := ngF hcl 16 3 R
      have ac := ngF hcl 17 3 R
      refine hG (any_step ?_); intro A J hJ
      refine s1 hFx 64 (i6 l) ?_; intro tT k8
      refine nl (qnI (hJ _ _ ?_))
      exact ⟨aI, ay, az, aJ, aA, aB, aR, a5, b9, ca, bv, i6 l, bw, cB, cO, cC, cs, cb, cD, cE, ct, cc, bT, bj, ag, ah, k8.reg, hMx.perm lpr, bx, bz, bA, kf, (nt M), bC, bD, bV, cu, cF, bE, bF, ce, cv, dB, (nt Q), U, cS, (nt ac), Y, ab, X, aa, cf, (nt Q)⟩
     ·
      obtain rfl := oj hi
      have R := hpre 3 (by kernel_rfl)
      have M := hSi
      have Q := ngF hcl 16 4 M
      have ac := ngF hcl 17 4 M
      obtain rfl := bB R
      refine hG (any_step ?_); intro A J hJ
      refine s1 hFx 65 (i6 (w64 (l + 1))) ?_; intro tU k9
      refine nl (qnI (hJ _ _ ?_))
      exact ⟨aI, ay, az, aJ, aA, aB, aR, a5, b9, ca, bv, i6 l, i6 (w64 (l + 1)), cB, cO, cC, cs, cb, cD, cE, ct, cc, bT, bj, ag, ah, k9.reg, hMx.perm lpr, bx, bz, bA, kf, kf, bC, bD, bV, cu, cF, bE, bF, ce, cv, dB, (nt Q), U, cS, (nt ac), Y, ab, X, aa, cf, (nt Q)⟩
     ·
      obtain rfl := oj hi
      have D := hSi
      have z := ngF hcl 8 5 D
      have g := ngF hcl 9 8 z
      have V := ngF hcl 14 5 D
      have W := ngF hcl 15 5 D
      have Q := ngF hcl 16 5 D
      have ac := ngF hcl 17 5 D
      obtain rfl := U W
      refine hG (any_step ?_); intro A J hJ
      refine s1 hFx 66 (.slice ao1 j.length cap2) ?_; intro tV la
      refine nl (qnI (hJ _ _ ?_))
      exact ⟨aI, ay, az, aJ, aA, aB, aR, a5, b9, ca, bv, bS, bw, .slice ao1 j.length cap2, cO, cC, cs, cb, cD, cE, ct, cc, bT, bj, .own tyLine 42 ao1 cap2 j, ah, la.reg, hMx.perm lpr, bx, bz, bA, bB, bU, kf, bD, bV, (nt z), (nt g), bE, bF, ce, cv, (nt V), (nt Q), kf, (fun h _ => nt W h), (nt ac), (nt z), (nt g), X, aa, (nt V), (nt Q)⟩
     ·
      obtain rfl := oj hi
      have I := hSi
      have L := ngF hcl 7 6 I
      have z := ngF hcl 8 7 L
      have g := ngF hcl 9 8 z
      have V := ngF hcl 14 6 I
      have W := ngF hcl 15 6 I
      have Q := ngF hcl 16 6 I
      have ac := ngF hcl 17 6 I
      obtain rfl := U W
      refine hG (any_step ?_); intro A J hJ
      refine s1 hFx 67 (i6 l) ?_; intro tW lb
      refine nl (qnI (hJ _ _ ?_))
      exact ⟨aI, ay, az, aJ, aA, aB, aR, a5, b9, ca, bv, bS, bw, cB, i6 l, cC, cs, cb, cD, cE, ct, cc, bT, bj, .own tyLine 42 ao1 cap2 j, ah, lb.reg, hMx.perm lpr, bx, bz, bA, bB, bU, bC, kf, (nt L), (nt z), (nt g), bE, bF, ce, cv, (nt V), (nt Q), kf, (fun h _ => nt W h), (nt ac), (nt z), (nt g), X, aa, (nt V), (nt Q)⟩
     ·
      obtain rfl := oj hi
      have I := hpre 6 (by kernel_rfl)
      have L := hSi
      have z := ngF hcl 8 7 L
      have g := ngF hcl 9 8 z
      have V := ngF hcl 14 7 L
      have W := ngF hcl 15 7 L
      have Q := ngF hcl 16 7 L
      have ac := ngF hcl 17 7 L
      obtain rfl := bD I
      obtain rfl := U W
      refine hG (any_step ?_); intro A J hJ
      refine s1 hFx 68 (i6 (w64 (l + 1))) ?_; intro tX lc
      refine nl (qnI (hJ _ _ ?_))
      exact ⟨aI, ay, az, aJ, aA, aB, aR, a5, b9, ca, bv, bS, bw, cB, i6 l, i6 (w64 (l + 1)), cs, cb, cD, cE, ct, cc, bT, bj, .own tyLine 42 ao1 cap2 j, ah, lc.reg, hMx.perm lpr, bx, bz, bA, bB, bU, bC, kf, kf, (nt z), (nt g), bE, bF, ce, cv, (nt V), (nt Q), kf, (fun h _ => nt W h), (nt ac), (nt z), (nt g), X, aa, (nt V), (nt Q)⟩
     ·
      obtain rfl := oj hi
      have L := hpre 7 (by kernel_rfl)
      have D := hpre 5 (by kernel_rfl)
      have I := hcl 7 6 (by kernel_rfl) L
      have z := hSi
      have g := ngF hcl 9 8 z
      have V := ngF hcl 14 8 z
      have W := ngF hcl 15 8 z
      have Q := ngF hcl 16 8 z
      have ac := ngF hcl 17 8 z
      obtain rfl := bC D
      obtain rfl := bD I
      obtain rfl := bV L
      obtain rfl := U W
      refine hG (any_step ?_); intro A J hJ
      refine ixo hFx hMx 0 (T := tyLine) (xs := j) (w64 (l + 1)) (by simpa only [List.length_set] using eN) (k := .i64) (e := 42) (bytes := 64) (nog rfl _) rfl (by kernel_rfl) rfl (by kernel_rfl) (by kernel_rfl) rfl (by kernel_rfl) ?_; intro gh tY ld lf
      refine nl (qnI (hJ _ _ ?_))
      exact ⟨gh, ay, az, aJ, aA, aB, aR, a5, b9, ca, bv, bS, bw, .slice ao1 j.length cap2, i6 l, i6 (w64 (l + 1)), .pointer (some ⟨gh, (w64 (l + 1)).toNat * 8, none⟩), cb, cD, cE, ct, cc, bT, bj, .own tyLine 42 ao1 cap2 j, ah, lf.reg, hMx.perm lpr, bx, bz, bA, bB, bU, kf, kf, kf, kf, (nt g), bE, bF, ce, cv, (nt V), (nt Q), kf, (fun h _ => nt W h), (nt ac), (fun _ => ld), (nt g), X, aa, (nt V), (nt Q)⟩
     ·
      obtain rfl := oj hi
      have z := hpre 8 (by kernel_rfl)
      have L := hcl 8 7 (by kernel_rfl) z
      have D := hcl 8 5 (by kernel_rfl) z
      have I := hcl 7 6 (by kernel_rfl) L
      have g := hSi
      have V := ngF hcl 14 9 g
      have W := ngF hcl 15 9 g
      have Q := ngF hcl 16 9 g
      have ac := ngF hcl 17 9 g
      obtain rfl := bC D
      obtain rfl := bD I
      obtain rfl := bV L
      obtain rfl := cu z
      obtain rfl := U W
      refine hG (any_step ?_); intro A J hJ
      have gi := Y z
      obtain ⟨tZ, lg, lh⟩ := own_elx hMx 0 (T := tyLine) (xs := j) rfl gi (w64 (l + 1)).toNat eO
      obtain ⟨eU, eV, rfl, li⟩ := lg
      refine lc2 hFx 70 8 (e42F d eU eV) lh rfl ?_; intro t0 lj
      refine nl (qnI (hJ _ _ ?_))
      exact ⟨aI, eU, eV, aJ, aA, aB, aR, a5, b9, ca, bv, bS, bw, .slice ao1 j.length cap2, i6 l, i6 (w64 (l + 1)), .pointer (some ⟨aI, (w64 (l + 1)).toNat * 8, none⟩), .agg (e42F d eU eV).toArray, cD, cE, ct, cc, bT, bj, .own tyLine 42 ao1 cap2 j, ah, lj.reg, hMx.perm lpr, bx, bz, bA, bB, bU, kf, kf, kf, kf, kf, bE, bF, ce, cv, (nt V), (nt Q), kf, (fun h _ => nt W h), (nt ac), (fun _ => gi), (fun _ => li), X, aa, (nt V), (nt Q)⟩
     ·
      obtain rfl := oj hi
      have C := hSi
      have n := ngF hcl 12 10 C
      have N := ngF hcl 13 12 n
      have V := ngF hcl 14 13 N
      have W := ngF hcl 15 13 N
      have Q := ngF hcl 16 10 C
      have ac := ngF hcl 17 10 C
      obtain rfl := U W
      refine hG (any_step ?_); intro A J hJ
      refine s1 hFx 71 (.slice ao1 j.length cap2) ?_; intro t1 lk
      refine nl (qnI (hJ _ _ ?_))
      exact ⟨aI, ay, az, aJ, aA, aB, aR, a5, b9, ca, bv, bS, bw, cB, cO, cC, cs, cb, .slice ao1 j.length cap2, cE, ct, cc, bT, bj, .own tyLine 42 ao1 cap2 j, ah, lk.reg, hMx.perm lpr, bx, bz, bA, bB, bU, bC, bD, bV, cu, cF, kf, bF, (nt n), (nt N), (nt V), (nt Q), kf, (fun h _ => nt W h), (nt ac), Y, ab, (nt n), (nt N), (nt V), (nt Q)⟩
     ·
      obtain rfl := oj hi
      have p := hSi
      have n := ngF hcl 12 11 p
      have N := ngF hcl 13 12 n
      have V := ngF hcl 14 13 N
      have W := ngF hcl 15 13 N
      have Q := ngF hcl 16 11 p
      have ac := ngF hcl 17 11 p
      obtain rfl := U W
      refine hG (any_step ?_); intro A J hJ
      refine s1 hFx 72 (i6 l) ?_; intro t2 ll
      refine nl (qnI (hJ _ _ ?_))
      exact ⟨aI, ay, az, aJ, aA, aB, aR, a5, b9, ca, bv, bS, bw, cB, cO, cC, cs, cb, cD, i6 l, ct, cc, bT, bj, .own tyLine 42 ao1 cap2 j, ah, ll.reg, hMx.perm lpr, bx, bz, bA, bB, bU, bC, bD, bV, cu, cF, bE, kf, (nt n), (nt N), (nt V), (nt Q), kf, (fun h _ => nt W h), (nt ac), Y, ab, (nt n), (nt N), (nt V), (nt Q)⟩
     ·
      obtain rfl := oj hi
      have p := hpre 11 (by kernel_rfl)
      have C := hpre 10 (by kernel_rfl)
      have n := hSi
      have N := ngF hcl 13 12 n
      have V := ngF hcl 14 13 N
      have W := ngF hcl 15 13 N
      have Q := ngF hcl 16 12 n
      have ac := ngF hcl 17 12 n
      obtain rfl := bE C
      obtain rfl := bF p
      obtain rfl := U W
      refine hG (any_step ?_); intro A J hJ
      refine ixo hFx hMx 0 (T := tyLine) (xs := j) l (by simpa only [List.length_set] using eP) (k := .i64) (e := 42) (bytes := 64) (nog rfl _) rfl (by kernel_rfl) rfl (by kernel_rfl) (by kernel_rfl) rfl (by kernel_rfl) ?_; intro gj t3 lm ln
      refine nl (qnI (hJ _ _ ?_))
      exact ⟨aI, ay, az, gj, aA, aB, aR, a5, b9, ca, bv, bS, bw, cB, cO, cC, cs, cb, .slice ao1 j.length cap2, i6 l, .pointer (some ⟨gj, l.toNat * 8, none⟩), cc, bT, bj, .own tyLine 42 ao1 cap2 j, ah, ln.reg, hMx.perm lpr, bx, bz, bA, bB, bU, bC, bD, bV, cu, cF, kf, kf, kf, (nt N), (nt V), (nt Q), kf, (fun h _ => nt W h), (nt ac), Y, ab, (fun _ => lm), (nt N), (nt V), (nt Q)⟩
     ·
      obtain rfl := oj hi
      have n := hpre 12 (by kernel_rfl)
      have p := hcl 12 11 (by kernel_rfl) n
      have C := hcl 12 10 (by kernel_rfl) n
      have N := hSi
      have V := ngF hcl 14 13 N
      have W := ngF hcl 15 13 N
      have Q := ngF hcl 16 13 N
      have ac := ngF hcl 17 13 N
      obtain rfl := bE C
      obtain rfl := bF p
      obtain rfl := ce n
      obtain rfl := U W
      refine hG (any_step ?_); intro A J hJ
      have gk := X n
      obtain ⟨t4, lo, lq⟩ := own_elx hMx 0 (T := tyLine) (xs := j) rfl gk l.toNat eQ
      obtain ⟨eW, eX, rfl, lr⟩ := lo
      refine lc2 hFx 74 8 (e42F f eW eX) lq rfl ?_; intro t5 ls
      refine nl (qnI (hJ _ _ ?_))
      exact ⟨aI, ay, az, aJ, eW, eX, aR, a5, b9, ca, bv, bS, bw, cB, cO, cC, cs, cb, .slice ao1 j.length cap2, i6 l, .pointer (some ⟨aJ, l.toNat * 8, none⟩), .agg (e42F f eW eX).toArray, bT, bj, .own tyLine 42 ao1 cap2 j, ah, ls.reg, hMx.perm lpr, bx, bz, bA, bB, bU, bC, bD, bV, cu, cF, kf, kf, kf, kf, (nt V), (nt Q), kf, (fun h _ => nt W h), (nt ac), Y, ab, (fun _ => gk), (fun _ => lr), (nt V), (nt Q)⟩
     ·
      obtain rfl := oj hi
      have N := hpre 13 (by kernel_rfl)
      have g := hpre 9 (by kernel_rfl)
      have z := hpre 8 (by kernel_rfl)
      have L := hpre 7 (by kernel_rfl)
      have I := hpre 6 (by kernel_rfl)
      have D := hpre 5 (by kernel_rfl)
      have ad := hpre 1 (by kernel_rfl)
      have af := hpre 0 (by kernel_rfl)
      have n := hcl 13 12 (by kernel_rfl) N
      have p := hcl 12 11 (by kernel_rfl) n
      have C := hcl 12 10 (by kernel_rfl) n
      have V := hSi
      have W := ngF hcl 15 14 V
      have Q := ngF hcl 16 14 V
      have ac := ngF hcl 17 14 V
      obtain rfl := bx af
      obtain rfl := bz ad
      obtain rfl := bC D
      obtain rfl := bD I
      obtain rfl := bV L
      obtain rfl := cu z
      obtain rfl := cF g
      obtain rfl := bE C
      obtain rfl := bF p
      obtain rfl := ce n
      obtain rfl := cv N
      obtain rfl := U W
      refine hG (any_step ?_); intro A J hJ
      have lt := Y z
      have lu := ab g
      have lv := X n
      have lw := aa N
      refine ixo hFx hMx 0 (T := tyLine) (xs := j) l (by simpa only [List.length_set] using eR) (k := .i64) (e := 42) (bytes := 64) (nog rfl _) rfl (by kernel_rfl) rfl (by kernel_rfl) (by kernel_rfl) rfl (by kernel_rfl) ?_; intro gl t6 lx ly
      refine nl (qnI (hJ _ _ ?_))
      exact ⟨aI, ay, az, aJ, aA, aB, gl, a5, .slice ao1 j.length cap2, i6 l, bv, bS, bw, .slice ao1 j.length cap2, i6 l, i6 (w64 (l + 1)), .pointer (some ⟨aI, (w64 (l + 1)).toNat * 8, none⟩), .agg (e42F d ay az).toArray, .slice ao1 j.length cap2, i6 l, .pointer (some ⟨aJ, l.toNat * 8, none⟩), .agg (e42F f aA aB).toArray, .pointer (some ⟨gl, l.toNat * 8, none⟩), bj, .own tyLine 42 ao1 cap2 j, ah, ly.reg, hMx.perm lpr, kf, kf, bA, bB, bU, kf, kf, kf, kf, kf, kf, kf, kf, kf, kf, (nt Q), kf, (fun h _ => nt W h), (nt ac), (fun _ => lt), (fun _ => lu), (fun _ => lv), (fun _ => lw), (fun _ => lx), (nt Q)⟩
     ·
      obtain rfl := oj hi
      have V := hpre 14 (by kernel_rfl)
      have N := hpre 13 (by kernel_rfl)
      have g := hpre 9 (by kernel_rfl)
      have z := hpre 8 (by kernel_rfl)
      have L := hpre 7 (by kernel_rfl)
      have I := hpre 6 (by kernel_rfl)
      have D := hpre 5 (by kernel_rfl)
      have ad := hpre 1 (by kernel_rfl)
      have af := hpre 0 (by kernel_rfl)
      have n := hcl 13 12 (by kernel_rfl) N
      have p := hcl 12 11 (by kernel_rfl) n
      have C := hcl 12 10 (by kernel_rfl) n
      have W := hSi
      have Q := ngF hcl 16 15 W
      have ac := ngF hcl 17 15 W
      obtain rfl := bx af
      obtain rfl := bz ad
      obtain rfl := bC D
      obtain rfl := bD I
      obtain rfl := bV L
      obtain rfl := cu z
      obtain rfl := cF g
      obtain rfl := bE C
      obtain rfl := bF p
      obtain rfl := ce n
      obtain rfl := cv N
      obtain rfl := dB V
      obtain rfl := U W
      refine hG (any_step ?_); intro A J hJ
      have lz := Y z
      have gm := ab g
      have lA := X n
      have lB := aa N
      have gn := cf V
      refine sox hFx hMx 0 gn (T := tyLine) (xs := j) l.toNat d (u := .agg (e42F d ay az).toArray) (nog rfl _) rfl rfl (by kernel_rfl) rfl (by kernel_rfl) rfl (by kernel_rfl) (by first | omega | (simp only [List.length_set] at *; omega)) ⟨ay, az, rfl, gm⟩ ?_; intro t7 lC
      refine nl (qnI (hJ _ _ ?_))
      exact ⟨aI, ay, az, aJ, aA, aB, aR, a5, .slice ao1 j.length cap2, i6 l, bv, bS, bw, .slice ao1 j.length cap2, i6 l, i6 (w64 (l + 1)), .pointer (some ⟨aI, (w64 (l + 1)).toNat * 8, none⟩), .agg (e42F d ay az).toArray, .slice ao1 j.length cap2, i6 l, .pointer (some ⟨aJ, l.toNat * 8, none⟩), .agg (e42F f aA aB).toArray, .pointer (some ⟨aR, l.toNat * 8, none⟩), bj, .own tyLine 42 ao1 cap2 (j.set l.toNat d), ah, hFx.reg, lC.perm lpr, kf, kf, bA, bB, bU, kf, kf, kf, kf, kf, kf, kf, kf, kf, kf, (nt Q), nu, kf2, (nt ac), (fun _ => lz), (fun _ => gm), (fun _ => lA), (fun _ => lB), (fun _ => gn), (nt Q)⟩
     ·
      obtain rfl := oj hi
      have W := hpre 15 (by kernel_rfl)
      have V := hpre 14 (by kernel_rfl)
      have N := hpre 13 (by kernel_rfl)
      have n := hpre 12 (by kernel_rfl)
      have p := hpre 11 (by kernel_rfl)
      have C := hpre 10 (by kernel_rfl)
      have g := hpre 9 (by kernel_rfl)
      have z := hpre 8 (by kernel_rfl)
      have L := hpre 7 (by kernel_rfl)
      have I := hpre 6 (by kernel_rfl)
      have D := hpre 5 (by kernel_rfl)
      have M := hpre 4 (by kernel_rfl)
      have R := hpre 3 (by kernel_rfl)
      have ae := hpre 2 (by kernel_rfl)
      have ad := hpre 1 (by kernel_rfl)
      have af := hpre 0 (by kernel_rfl)
      have Q := hSi
      have ac := ngF hcl 17 16 Q
      obtain rfl := bx af
      obtain rfl := bz ad
      obtain rfl := bA ae
      obtain rfl := bB R
      obtain rfl := bU M
      obtain rfl := bC D
      obtain rfl := bD I
      obtain rfl := bV L
      obtain rfl := cu z
      obtain rfl := cF g
      obtain rfl := bE C
      obtain rfl := bF p
      obtain rfl := ce n
      obtain rfl := cv N
      obtain rfl := dB V
      obtain rfl := cS W ac
      refine hG (any_step ?_); intro A J hJ
      have lD := Y z
      have lE := ab g
      have lF := X n
      have lG := aa N
      have lH := cf V
      have bW : (j.set l.toNat d).length = j.length := by first | assumption | omega | (dsimp only at *; omega) | (simp; try omega)
      have go : Fr 220 [] [⟨0, [], .slice ao1 (j.set l.toNat d).length cap2⟩, ⟨10, [], i6 cr⟩, ⟨13, [], i6 l⟩, ⟨61, [], .slice ao1 (j.set l.toNat d).length cap2⟩, ⟨62, [], i6 l⟩, ⟨63, [], .slice ao1 (j.set l.toNat d).length cap2⟩, ⟨64, [], i6 l⟩, ⟨65, [], i6 (w64 (l + 1))⟩, ⟨66, [], .slice ao1 (j.set l.toNat d).length cap2⟩, ⟨67, [], i6 l⟩, ⟨68, [], i6 (w64 (l + 1))⟩, ⟨69, [], .pointer (some ⟨aI, (w64 (l + 1)).toNat * 8, none⟩)⟩, ⟨70, [], .agg (e42F d ay az).toArray⟩, ⟨71, [], .slice ao1 (j.set l.toNat d).length cap2⟩, ⟨72, [], i6 l⟩, ⟨73, [], .pointer (some ⟨aJ, l.toNat * 8, none⟩)⟩, ⟨74, [], .agg (e42F f aA aB).toArray⟩, ⟨75, [], .pointer (some ⟨aR, l.toNat * 8, none⟩)⟩, ⟨76, [], bj⟩] a := by rw [bW]; exact hFx.reg
      refine ixo go hMx 0 (T := tyLine) (xs := j.set l.toNat d) (w64 (l + 1)) (by simpa only [List.length_set] using eS) (k := .i64) (e := 42) (bytes := 64) (nog rfl _) rfl (by kernel_rfl) rfl (by kernel_rfl) (by kernel_rfl) rfl (by kernel_rfl) ?_; intro gp t9 lI gq
      refine nl (qnI (hJ _ _ ?_))
      rw [bW] at gq
      exact ⟨aI, ay, az, aJ, aA, aB, aR, gp, .slice ao1 j.length cap2, i6 l, .slice ao1 j.length cap2, i6 l, i6 (w64 (l + 1)), .slice ao1 j.length cap2, i6 l, i6 (w64 (l + 1)), .pointer (some ⟨aI, (w64 (l + 1)).toNat * 8, none⟩), .agg (e42F d ay az).toArray, .slice ao1 j.length cap2, i6 l, .pointer (some ⟨aJ, l.toNat * 8, none⟩), .agg (e42F f aA aB).toArray, .pointer (some ⟨aR, l.toNat * 8, none⟩), .pointer (some ⟨gp, (w64 (l + 1)).toNat * 8, none⟩), .own tyLine 42 ao1 cap2 (j.set l.toNat d), ah, gq.reg, hMx.perm lpr, (fun _ => by first | rfl | rw [bW]), (fun _ => by first | rfl | rw [bW]), (fun _ => by first | rfl | rw [bW]), (fun _ => by first | rfl | rw [bW]), (fun _ => by first | rfl | rw [bW]), (fun _ => by first | rfl | rw [bW]), (fun _ => by first | rfl | rw [bW]), (fun _ => by first | rfl | rw [bW]), (fun _ => by first | rfl | rw [bW]), (fun _ => by first | rfl | rw [bW]), (fun _ => by first | rfl | rw [bW]), (fun _ => by first | rfl | rw [bW]), (fun _ => by first | rfl | rw [bW]), (fun _ => by first | rfl | rw [bW]), (fun _ => by first | rfl | rw [bW]), (fun _ => by first | rfl | rw [bW]), (tn W), kf2, (nt ac), (fun _ => lD), (fun _ => lE), (fun _ => lF), (fun _ => lG), (fun _ => lH), (fun _ => lI)⟩
     obtain rfl := oj hi
     have Q := hpre 16 (by kernel_rfl)
     have W := hpre 15 (by kernel_rfl)
     have V := hpre 14 (by kernel_rfl)
     have N := hpre 13 (by kernel_rfl)
     have n := hpre 12 (by kernel_rfl)
     have p := hpre 11 (by kernel_rfl)
     have C := hpre 10 (by kernel_rfl)
     have g := hpre 9 (by kernel_rfl)
     have z := hpre 8 (by kernel_rfl)
     have L := hpre 7 (by kernel_rfl)
     have I := hpre 6 (by kernel_rfl)
     have D := hpre 5 (by kernel_rfl)
     have M := hpre 4 (by kernel_rfl)
     have R := hpre 3 (by kernel_rfl)
     have ae := hpre 2 (by kernel_rfl)
     have ad := hpre 1 (by kernel_rfl)
     have af := hpre 0 (by kernel_rfl)
     have ac := hSi
     obtain rfl := bx af
     obtain rfl := bz ad
     obtain rfl := bA ae
     obtain rfl := bB R
     obtain rfl := bU M
     obtain rfl := bC D
     obtain rfl := bD I
     obtain rfl := bV L
     obtain rfl := cu z
     obtain rfl := cF g
     obtain rfl := bE C
     obtain rfl := bF p
     obtain rfl := ce n
     obtain rfl := cv N
     obtain rfl := dB V
     obtain rfl := eT Q
     obtain rfl := cS W ac
     refine hG (any_step ?_); intro A J hJ
     have lJ := Y z
     have lK := ab g
     have lL := X n
     have gr := aa N
     have lM := cf V
     have gs := dD Q
     have bX : (j.set l.toNat d).length = j.length := by first | assumption | omega | (dsimp only at *; omega) | (simp; try omega)
     have eY : Fr 220 [] [⟨0, [], .slice ao1 (j.set l.toNat d).length cap2⟩, ⟨10, [], i6 cr⟩, ⟨13, [], i6 l⟩, ⟨61, [], .slice ao1 (j.set l.toNat d).length cap2⟩, ⟨62, [], i6 l⟩, ⟨63, [], .slice ao1 (j.set l.toNat d).length cap2⟩, ⟨64, [], i6 l⟩, ⟨65, [], i6 (w64 (l + 1))⟩, ⟨66, [], .slice ao1 (j.set l.toNat d).length cap2⟩, ⟨67, [], i6 l⟩, ⟨68, [], i6 (w64 (l + 1))⟩, ⟨69, [], .pointer (some ⟨aI, (w64 (l + 1)).toNat * 8, none⟩)⟩, ⟨70, [], .agg (e42F d ay az).toArray⟩, ⟨71, [], .slice ao1 (j.set l.toNat d).length cap2⟩, ⟨72, [], i6 l⟩, ⟨73, [], .pointer (some ⟨aJ, l.toNat * 8, none⟩)⟩, ⟨74, [], .agg (e42F f aA aB).toArray⟩, ⟨75, [], .pointer (some ⟨aR, l.toNat * 8, none⟩)⟩, ⟨76, [], .pointer (some ⟨a5, (w64 (l + 1)).toNat * 8, none⟩)⟩] a := by rw [bX]; exact hFx.reg
     refine sox eY hMx 0 gs (T := tyLine) (xs := j.set l.toNat d) (w64 (l + 1)).toNat f (u := .agg (e42F f aA aB).toArray) (nog rfl _) rfl rfl (by kernel_rfl) rfl (by kernel_rfl) rfl (by kernel_rfl) (by first | omega | (simp only [List.length_set] at *; omega)) ⟨aA, aB, rfl, gr⟩ ?_; intro ua lN
     refine nl (qnI (hJ _ _ ?_))
     rw [bX] at eY
     exact ⟨aI, ay, az, aJ, aA, aB, aR, a5, .slice ao1 j.length cap2, i6 l, .slice ao1 j.length cap2, i6 l, i6 (w64 (l + 1)), .slice ao1 j.length cap2, i6 l, i6 (w64 (l + 1)), .pointer (some ⟨aI, (w64 (l + 1)).toNat * 8, none⟩), .agg (e42F d ay az).toArray, .slice ao1 j.length cap2, i6 l, .pointer (some ⟨aJ, l.toNat * 8, none⟩), .agg (e42F f aA aB).toArray, .pointer (some ⟨aR, l.toNat * 8, none⟩), .pointer (some ⟨a5, (w64 (l + 1)).toNat * 8, none⟩), .own tyLine 42 ao1 cap2 ((j.set l.toNat d).set (w64 (l + 1)).toNat f), ah, eY.reg, lN.perm lpr, (fun _ => by first | rfl | rw [bX]), (fun _ => by first | rfl | rw [bX]), (fun _ => by first | rfl | rw [bX]), (fun _ => by first | rfl | rw [bX]), (fun _ => by first | rfl | rw [bX]), (fun _ => by first | rfl | rw [bX]), (fun _ => by first | rfl | rw [bX]), (fun _ => by first | rfl | rw [bX]), (fun _ => by first | rfl | rw [bX]), (fun _ => by first | rfl | rw [bX]), (fun _ => by first | rfl | rw [bX]), (fun _ => by first | rfl | rw [bX]), (fun _ => by first | rfl | rw [bX]), (fun _ => by first | rfl | rw [bX]), (fun _ => by first | rfl | rw [bX]), (fun _ => by first | rfl | rw [bX]), (tn W), (fun _ => nu), kf, (fun _ => lJ), (fun _ => lK), (fun _ => lL), (fun _ => gr), (fun _ => lM), (fun _ => gs)⟩
    case hE =>
     intro S hS gt ub hI; refine Go.Sy.hid ?_; intro G hG; obtain ⟨aI, ay, az, aJ, aA, aB, aR, a5, b9, ca, bv, bS, bw, cB, cO, cC, cs, cb, cD, cE, ct, cc, bT, bj, ag, hI⟩ := hI; obtain ⟨ah, hFx, hMx, bx, bz, bA, bB, bU, bC, bD, bV, cu, cF, bE, bF, ce, cv, dB, eT, U, cS, dL, Y, ab, X, hI⟩ := hI; obtain ⟨aa, cf, hI⟩ := hI; refine hG ?_
     obtain rfl := bx (hS 0 (by decide))
     obtain rfl := bz (hS 1 (by decide))
     obtain rfl := bA (hS 2 (by decide))
     obtain rfl := bB (hS 3 (by decide))
     obtain rfl := bU (hS 4 (by decide))
     obtain rfl := bC (hS 5 (by decide))
     obtain rfl := bD (hS 6 (by decide))
     obtain rfl := bV (hS 7 (by decide))
     obtain rfl := cu (hS 8 (by decide))
     obtain rfl := cF (hS 9 (by decide))
     obtain rfl := bE (hS 10 (by decide))
     obtain rfl := bF (hS 11 (by decide))
     obtain rfl := ce (hS 12 (by decide))
     obtain rfl := cv (hS 13 (by decide))
     obtain rfl := dB (hS 14 (by decide))
     obtain rfl := eT (hS 16 (by decide))
     obtain rfl := dL (hS 17 (by decide))
     have lO : ((j.set l.toNat d).set (w64 (l + 1)).toNat f).length = j.length := by first | assumption | omega | (dsimp only at *; omega) | (simp; try omega)
     have gu : Fr 220 [] [⟨0, [], .slice ao1 ((j.set l.toNat d).set (w64 (l + 1)).toNat f).length cap2⟩, ⟨10, [], i6 cr⟩, ⟨13, [], i6 l⟩, ⟨61, [], .slice ao1 ((j.set l.toNat d).set (w64 (l + 1)).toNat f).length cap2⟩, ⟨62, [], i6 l⟩, ⟨63, [], .slice ao1 ((j.set l.toNat d).set (w64 (l + 1)).toNat f).length cap2⟩, ⟨64, [], i6 l⟩, ⟨65, [], i6 (w64 (l + 1))⟩, ⟨66, [], .slice ao1 ((j.set l.toNat d).set (w64 (l + 1)).toNat f).length cap2⟩, ⟨67, [], i6 l⟩, ⟨68, [], i6 (w64 (l + 1))⟩, ⟨69, [], .pointer (some ⟨aI, (w64 (l + 1)).toNat * 8, none⟩)⟩, ⟨70, [], .agg (e42F d ay az).toArray⟩, ⟨71, [], .slice ao1 ((j.set l.toNat d).set (w64 (l + 1)).toNat f).length cap2⟩, ⟨72, [], i6 l⟩, ⟨73, [], .pointer (some ⟨aJ, l.toNat * 8, none⟩)⟩, ⟨74, [], .agg (e42F f aA aB).toArray⟩, ⟨75, [], .pointer (some ⟨aR, l.toNat * 8, none⟩)⟩, ⟨76, [], .pointer (some ⟨a5, (w64 (l + 1)).toNat * 8, none⟩)⟩] gt := by rw [lO]; exact hFx.reg
     refine j_ (t_ ?_)
     have gv : Fr 220 [] [⟨0, [], .slice ao1 ((j.set l.toNat d).set (w64 (l + 1)).toNat f).length cap2⟩, ⟨10, [], i6 cr⟩, ⟨13, [], i6 l⟩] gt := gu.reg
     refine rgB gv hMx [] [] [(13, i6 (w64 (l + 1)))] ?_; intro ui lP
     exact d_ ⟨⟨w64 (l + 1), (j.set l.toNat d).set (w64 (l + 1)).toNat f⟩, gg.1, gg.2, (lP.reg).anyβ _ (by kernel_rfl), hMx.kp⟩
   refine x_ (y_ (y_ (z_ (t_ (r_ (h_ ?_))))))
   obtain ⟨lR, lS⟩ := lQ
   refine rt (fn := Try.f82) (v := .tuple #[]) dK (re0 dK (fn := Try.f82) rfl) ?_
   exact ⟨j, Z, rfl, lS, c, lR, gc.kp⟩
  apply b_
  have gw : Fr 220 [] [⟨0, [], .slice ao1 u0.length cap2⟩, ⟨1, [], i6 u1⟩, ⟨4, [], .func (.func fid3) #[] caps4⟩, ⟨10, [], i6 u2⟩, ⟨11, [], i6 u3⟩] d5 := f5.reg
  obtain ⟨lT, lU, lV, lW⟩ := kx
  refine lp (ι := Int × Int) (fun s => [⟨0, [], .slice ao1 u0.length cap2⟩, ⟨1, [], i6 u1⟩, ⟨4, [], .func (.func fid3) #[] caps4⟩, ⟨10, [], i6 s.1⟩, ⟨11, [], i6 s.2⟩]) (fun s => ((.own tyLine 42 ao1 cap2 u0) :: Rr)) (fun s => Z) (fun s => lT s.1 s.2) (fun s => lU s.1 s.2) ⟨u2, u3⟩ lV (by exact gw.reg) (by exact hM0) ?_
  rintro ⟨an, ao⟩ lX lY lZ gy gz
  have d8 := lW an ao lX
  refine s_ (sqB gy gz [] [] [(33, .bool (decide (an < ao)))] ?_); intro uj d9
  refine c_ d9 d8 (fun _ l0 => ?_) fun _ mI => ?_
  ·
   refine k_ (b_ (sqB d9 gz [] [] [(12, i6 (w64 (bShr .u64 (wu64 (w64 (an + ao))) 1)))] ?_)); intro c1 gB
   have l1 : Fr 220 [] [⟨0, [], .slice ao1 u0.length cap2⟩, ⟨1, [], i6 u1⟩, ⟨4, [], .func (.func fid3) #[] caps4⟩, ⟨10, [], i6 an⟩, ⟨11, [], i6 ao⟩, ⟨12, [], i6 (w64 (bShr .u64 (wu64 (w64 (an + ao))) 1))⟩] c1 := gB.reg
   obtain ⟨e0, gC⟩ := l0
   obtain ⟨E, e1, l2⟩ := gxq gC (by omega)
   obtain ⟨e2, gD⟩ := l2
   obtain ⟨H, e3, ea⟩ := gxq gD (by omega)
   refine wp_seq (any_invE mixed [[], [], [], [1, 2], [3], [], [], [5, 6], [7], [0, 4, 8], [9]] 11 (fun S a w1 => ∃ (cg : Nat) (bY : Option Addr) (bZ : Nat) (ch : Nat) (b0 : Option Addr) (b1 : Nat) (c2 : Value) (dl : Value) (dm : Value) (df : Value) (c3 : Value) (dn : Value) (dp : Value) (dg : Value) (c4 : Value) (cT : Value) (cP : Value) (ag : Res), Fz.le Z Z ∧ Fr 220 [] [⟨0, [], .slice ao1 u0.length cap2⟩, ⟨1, [], i6 u1⟩, ⟨4, [], .func (.func fid3) #[] caps4⟩, ⟨10, [], i6 an⟩, ⟨11, [], i6 ao⟩, ⟨12, [], i6 (w64 (bShr .u64 (wu64 (w64 (an + ao))) 1))⟩, ⟨40, [], c2⟩, ⟨41, [], dl⟩, ⟨42, [], dm⟩, ⟨43, [], df⟩, ⟨44, [], c3⟩, ⟨45, [], dn⟩, ⟨46, [], dp⟩, ⟨47, [], dg⟩, ⟨48, [], c4⟩, ⟨49, [], cT⟩, ⟨50, [], cP⟩] a ∧ Mem B [] w0 Z0 (ag :: Rr) Z w1 ∧ (S 0 = true → c2 = .func (.func fid3) #[] caps4) ∧ (S 1 = true → dl = .slice ao1 u0.length cap2) ∧ (S 2 = true → dm = i6 (w64 (bShr .u64 (wu64 (w64 (an + ao))) 1))) ∧ (S 3 = true → df = .pointer (some ⟨cg, (w64 (bShr .u64 (wu64 (w64 (an + ao))) 1)).toNat * 8, none⟩)) ∧ (S 4 = true → c3 = .agg (e42F E bY bZ).toArray) ∧ (S 5 = true → dn = .slice ao1 u0.length cap2) ∧ (S 6 = true → dp = i6 u1) ∧ (S 7 = true → dg = .pointer (some ⟨ch, u1.toNat * 8, none⟩)) ∧ (S 8 = true → c4 = .agg (e42F H b0 b1).toArray) ∧ (S 9 = true → cT = i6 (u4 E H)) ∧ (S 10 = true → cP = .bool (decide ((u4 E H) < 0))) ∧ (ag = .own tyLine 42 ao1 cap2 u0) ∧ (S 3 = true → ao1 = some ⟨cg, 0, none⟩) ∧ (S 4 = true → SlR t8 Z bY bZ E.F.Data) ∧ (S 7 = true → ao1 = some ⟨ch, 0, none⟩) ∧ (S 8 = true → SlR t8 Z b0 b1 H.F.Data)) ?h0 ?hs ?hE)
   case h0 =>
    have l3 := l1.any 40
    have l4 := l3.any 41
    have l5 := l4.any 42
    have l6 := l5.any 43
    have l7 := l6.any 44
    have l8 := l7.any 45
    have l9 := l8.any 46
    have ma := l9.any 47
    have mb := ma.any 48
    have mc := mb.any 49
    have md := mc.any 50
    have me := (gz.perm lpr).drew
    exact ⟨0, none, 0, 0, none, 0, c1.tmps.getD 40 undef, c1.tmps.getD 41 undef, c1.tmps.getD 42 undef, c1.tmps.getD 43 undef, c1.tmps.getD 44 undef, c1.tmps.getD 45 undef, c1.tmps.getD 46 undef, c1.tmps.getD 47 undef, c1.tmps.getD 48 undef, c1.tmps.getD 49 undef, c1.tmps.getD 50 undef, .own tyLine 42 ao1 cap2 u0, Fz.le.refl _, md.reg, me, ff, ff, ff, ff, ff, ff, ff, ff, ff, ff, ff, rfl, ff, ff, ff, ff⟩
   case hs =>
    intro S hcl i o hil hi hSi hpre a w1 hI; refine Go.Sy.hid ?_; intro G hG; obtain ⟨cg, bY, bZ, ch, b0, b1, c2, dl, dm, df, c3, dn, dp, dg, c4, cT, cP, ag, a6, hFx, hMx, c5, c6, c7, dq, hI⟩ := hI; obtain ⟨dy, c8, c9, dr, dz, e4, gE, U, Y, ab, X, hI⟩ := hI; have aa := hI
    have hcase : i = 0 ∨ i = 1 ∨ i = 2 ∨ i = 3 ∨ i = 4 ∨ i = 5 ∨ i = 6 ∨ i = 7 ∨ i = 8 ∨ i = 9 ∨ i = 10 := by clear hi; omega
    rcases hcase with rfl | rfl | rfl | rfl | rfl | rfl | rfl | rfl | rfl | rfl | rfl
    ·
     obtain rfl := oj hi
     have af := hSi
     have g := ngF hcl 9 0 af
     have C := ngF hcl 10 9 g
     obtain rfl := U
     refine hG (any_step ?_); intro A J hJ
     refine s1 hFx 40 (.func (.func fid3) #[] caps4) ?_; intro uk mf
     refine nl (qnI (hJ _ _ ?_))
     exact ⟨cg, bY, bZ, ch, b0, b1, .func (.func fid3) #[] caps4, dl, dm, df, c3, dn, dp, dg, c4, cT, cP, .own tyLine 42 ao1 cap2 u0, a6, mf.reg, hMx.perm lpr, kf, c6, c7, dq, dy, c8, c9, dr, dz, (nt g), (nt C), rfl, Y, ab, X, aa⟩
    ·
     obtain rfl := oj hi
     have ad := hSi
     have R := ngF hcl 3 1 ad
     have M := ngF hcl 4 3 R
     have g := ngF hcl 9 4 M
     have C := ngF hcl 10 9 g
     obtain rfl := U
     refine hG (any_step ?_); intro A J hJ
     refine s1 hFx 41 (.slice ao1 u0.length cap2) ?_; intro ul mg
     refine nl (qnI (hJ _ _ ?_))
     exact ⟨cg, bY, bZ, ch, b0, b1, c2, .slice ao1 u0.length cap2, dm, df, c3, dn, dp, dg, c4, cT, cP, .own tyLine 42 ao1 cap2 u0, a6, mg.reg, hMx.perm lpr, c5, kf, c7, (nt R), (nt M), c8, c9, dr, dz, (nt g), (nt C), rfl, (nt R), (nt M), X, aa⟩
    ·
     obtain rfl := oj hi
     have ae := hSi
     have R := ngF hcl 3 2 ae
     have M := ngF hcl 4 3 R
     have g := ngF hcl 9 4 M
     have C := ngF hcl 10 9 g
     obtain rfl := U
     refine hG (any_step ?_); intro A J hJ
     refine s1 hFx 42 (i6 (w64 (bShr .u64 (wu64 (w64 (an + ao))) 1))) ?_; intro um mh
     refine nl (qnI (hJ _ _ ?_))
     exact ⟨cg, bY, bZ, ch, b0, b1, c2, dl, i6 (w64 (bShr .u64 (wu64 (w64 (an + ao))) 1)), df, c3, dn, dp, dg, c4, cT, cP, .own tyLine 42 ao1 cap2 u0, a6, mh.reg, hMx.perm lpr, c5, c6, kf, (nt R), (nt M), c8, c9, dr, dz, (nt g), (nt C), rfl, (nt R), (nt M), X, aa⟩
    ·
     obtain rfl := oj hi
     have ae := hpre 2 (by kernel_rfl)
     have ad := hpre 1 (by kernel_rfl)
     have R := hSi
     have M := ngF hcl 4 3 R
     have g := ngF hcl 9 4 M
     have C := ngF hcl 10 9 g
     obtain rfl := c6 ad
     obtain rfl := c7 ae
     obtain rfl := U
     refine hG (any_step ?_); intro A J hJ
     refine ixo hFx hMx 0 (T := tyLine) (xs := u0) (w64 (bShr .u64 (wu64 (w64 (an + ao))) 1)) (by simpa only [List.length_set] using e0) (k := .i64) (e := 42) (bytes := 64) (nog rfl _) rfl (by kernel_rfl) rfl (by kernel_rfl) (by kernel_rfl) rfl (by kernel_rfl) ?_; intro gF un mi mj
     refine nl (qnI (hJ _ _ ?_))
     exact ⟨gF, bY, bZ, ch, b0, b1, c2, .slice ao1 u0.length cap2, i6 (w64 (bShr .u64 (wu64 (w64 (an + ao))) 1)), .pointer (some ⟨gF, (w64 (bShr .u64 (wu64 (w64 (an + ao))) 1)).toNat * 8, none⟩), c3, dn, dp, dg, c4, cT, cP, .own tyLine 42 ao1 cap2 u0, a6, mj.reg, hMx.perm lpr, c5, kf, kf, kf, (nt M), c8, c9, dr, dz, (nt g), (nt C), rfl, (fun _ => mi), (nt M), X, aa⟩
    ·
     obtain rfl := oj hi
     have R := hpre 3 (by kernel_rfl)
     have ae := hcl 3 2 (by kernel_rfl) R
     have ad := hcl 3 1 (by kernel_rfl) R
     have M := hSi
     have g := ngF hcl 9 4 M
     have C := ngF hcl 10 9 g
     obtain rfl := c6 ad
     obtain rfl := c7 ae
     obtain rfl := dq R
     obtain rfl := U
     refine hG (any_step ?_); intro A J hJ
     have gG := Y R
     obtain ⟨uo, mk, ml⟩ := own_elx hMx 0 (T := tyLine) (xs := u0) rfl gG (w64 (bShr .u64 (wu64 (w64 (an + ao))) 1)).toNat e1
     obtain ⟨e5, e6, rfl, mm⟩ := mk
     refine lc2 hFx 44 8 (e42F E e5 e6) ml rfl ?_; intro up mn
     refine nl (qnI (hJ _ _ ?_))
     exact ⟨cg, e5, e6, ch, b0, b1, c2, .slice ao1 u0.length cap2, i6 (w64 (bShr .u64 (wu64 (w64 (an + ao))) 1)), .pointer (some ⟨cg, (w64 (bShr .u64 (wu64 (w64 (an + ao))) 1)).toNat * 8, none⟩), .agg (e42F E e5 e6).toArray, dn, dp, dg, c4, cT, cP, .own tyLine 42 ao1 cap2 u0, a6, mn.reg, hMx.perm lpr, c5, kf, kf, kf, kf, c8, c9, dr, dz, (nt g), (nt C), rfl, (fun _ => gG), (fun _ => mm), X, aa⟩
    ·
     obtain rfl := oj hi
     have D := hSi
     have L := ngF hcl 7 5 D
     have z := ngF hcl 8 7 L
     have g := ngF hcl 9 8 z
     have C := ngF hcl 10 9 g
     obtain rfl := U
     refine hG (any_step ?_); intro A J hJ
     refine s1 hFx 45 (.slice ao1 u0.length cap2) ?_; intro uq mo
     refine nl (qnI (hJ _ _ ?_))
     exact ⟨cg, bY, bZ, ch, b0, b1, c2, dl, dm, df, c3, .slice ao1 u0.length cap2, dp, dg, c4, cT, cP, .own tyLine 42 ao1 cap2 u0, a6, mo.reg, hMx.perm lpr, c5, c6, c7, dq, dy, kf, c9, (nt L), (nt z), (nt g), (nt C), rfl, Y, ab, (nt L), (nt z)⟩
    ·
     obtain rfl := oj hi
     have I := hSi
     have L := ngF hcl 7 6 I
     have z := ngF hcl 8 7 L
     have g := ngF hcl 9 8 z
     have C := ngF hcl 10 9 g
     obtain rfl := U
     refine hG (any_step ?_); intro A J hJ
     refine s1 hFx 46 (i6 u1) ?_; intro ur mp
     refine nl (qnI (hJ _ _ ?_))
     exact ⟨cg, bY, bZ, ch, b0, b1, c2, dl, dm, df, c3, dn, i6 u1, dg, c4, cT, cP, .own tyLine 42 ao1 cap2 u0, a6, mp.reg, hMx.perm lpr, c5, c6, c7, dq, dy, c8, kf, (nt L), (nt z), (nt g), (nt C), rfl, Y, ab, (nt L), (nt z)⟩
    ·
     obtain rfl := oj hi
     have I := hpre 6 (by kernel_rfl)
     have D := hpre 5 (by kernel_rfl)
     have L := hSi
     have z := ngF hcl 8 7 L
     have g := ngF hcl 9 8 z
     have C := ngF hcl 10 9 g
     obtain rfl := c8 D
     obtain rfl := c9 I
     obtain rfl := U
     refine hG (any_step ?_); intro A J hJ
     refine ixo hFx hMx 0 (T := tyLine) (xs := u0) u1 (by simpa only [List.length_set] using e2) (k := .i64) (e := 42) (bytes := 64) (nog rfl _) rfl (by kernel_rfl) rfl (by kernel_rfl) (by kernel_rfl) rfl (by kernel_rfl) ?_; intro gH us mq mr
     refine nl (qnI (hJ _ _ ?_))
     exact ⟨cg, bY, bZ, gH, b0, b1, c2, dl, dm, df, c3, .slice ao1 u0.length cap2, i6 u1, .pointer (some ⟨gH, u1.toNat * 8, none⟩), c4, cT, cP, .own tyLine 42 ao1 cap2 u0, a6, mr.reg, hMx.perm lpr, c5, c6, c7, dq, dy, kf, kf, kf, (nt z), (nt g), (nt C), rfl, Y, ab, (fun _ => mq), (nt z)⟩
    ·
     obtain rfl := oj hi
     have L := hpre 7 (by kernel_rfl)
     have I := hcl 7 6 (by kernel_rfl) L
     have D := hcl 7 5 (by kernel_rfl) L
     have z := hSi
     have g := ngF hcl 9 8 z
     have C := ngF hcl 10 9 g
     obtain rfl := c8 D
     obtain rfl := c9 I
     obtain rfl := dr L
     obtain rfl := U
     refine hG (any_step ?_); intro A J hJ
     have gI := X L
     obtain ⟨ut, ms, mt⟩ := own_elx hMx 0 (T := tyLine) (xs := u0) rfl gI u1.toNat e3
     obtain ⟨e7, e8, rfl, mu⟩ := ms
     refine lc2 hFx 48 8 (e42F H e7 e8) mt rfl ?_; intro uu mv
     refine nl (qnI (hJ _ _ ?_))
     exact ⟨cg, bY, bZ, ch, e7, e8, c2, dl, dm, df, c3, .slice ao1 u0.length cap2, i6 u1, .pointer (some ⟨ch, u1.toNat * 8, none⟩), .agg (e42F H e7 e8).toArray, cT, cP, .own tyLine 42 ao1 cap2 u0, a6, mv.reg, hMx.perm lpr, c5, c6, c7, dq, dy, kf, kf, kf, kf, (nt g), (nt C), rfl, Y, ab, (fun _ => gI), (fun _ => mu)⟩
    ·
     obtain rfl := oj hi
     have z := hpre 8 (by kernel_rfl)
     have M := hpre 4 (by kernel_rfl)
     have af := hpre 0 (by kernel_rfl)
     have L := hcl 8 7 (by kernel_rfl) z
     have R := hcl 4 3 (by kernel_rfl) M
     have I := hcl 7 6 (by kernel_rfl) L
     have D := hcl 7 5 (by kernel_rfl) L
     have ae := hcl 3 2 (by kernel_rfl) R
     have ad := hcl 3 1 (by kernel_rfl) R
     have g := hSi
     have C := ngF hcl 10 9 g
     obtain rfl := c5 af
     obtain rfl := c6 ad
     obtain rfl := c7 ae
     obtain rfl := dq R
     obtain rfl := dy M
     obtain rfl := c8 D
     obtain rfl := c9 I
     obtain rfl := dr L
     obtain rfl := dz z
     obtain rfl := U
     refine hG (any_step ?_); intro A J hJ
     have c := Fz.le.trans c a6
     have mw := Y R
     have gJ := ab M
     have mx := X L
     have gK := aa z
     have my := hf5 _ _ c hMx.fz E H bY bZ b0 b1 gJ gK
     refine fcl hFx hMx (i6 (u4 E H)) fid3 (#[.agg (e42F E bY bZ).toArray, .agg (e42F H b0 b1).toArray] ++ caps4) (nog rfl _) rfl (by kernel_rfl) ?h1 ?h2 ?_
     case h1 => exact fv_run rfl (by kernel_rfl) (by kernel_rfl) hg6
     case h2 => exact my
     intro uv uw mz mA
     refine nl (qnI (hJ _ _ ?_))
     exact ⟨cg, bY, bZ, ch, b0, b1, .func (.func fid3) #[] caps4, .slice ao1 u0.length cap2, i6 (w64 (bShr .u64 (wu64 (w64 (an + ao))) 1)), .pointer (some ⟨cg, (w64 (bShr .u64 (wu64 (w64 (an + ao))) 1)).toNat * 8, none⟩), .agg (e42F E bY bZ).toArray, .slice ao1 u0.length cap2, i6 u1, .pointer (some ⟨ch, u1.toNat * 8, none⟩), .agg (e42F H b0 b1).toArray, i6 (u4 E H), cP, .own tyLine 42 ao1 cap2 u0, a6, mz.reg, mA.perm lpr, kf, kf, kf, kf, kf, kf, kf, kf, kf, kf, (nt C), rfl, (fun _ => mw), (fun _ => gJ), (fun _ => mx), (fun _ => gK)⟩
    obtain rfl := oj hi
    have g := hpre 9 (by kernel_rfl)
    have z := hcl 9 8 (by kernel_rfl) g
    have M := hcl 9 4 (by kernel_rfl) g
    have af := hcl 9 0 (by kernel_rfl) g
    have L := hcl 8 7 (by kernel_rfl) z
    have R := hcl 4 3 (by kernel_rfl) M
    have I := hcl 7 6 (by kernel_rfl) L
    have D := hcl 7 5 (by kernel_rfl) L
    have ae := hcl 3 2 (by kernel_rfl) R
    have ad := hcl 3 1 (by kernel_rfl) R
    obtain rfl := c5 af
    obtain rfl := c6 ad
    obtain rfl := c7 ae
    obtain rfl := dq R
    obtain rfl := dy M
    obtain rfl := c8 D
    obtain rfl := c9 I
    obtain rfl := dr L
    obtain rfl := dz z
    obtain rfl := e4 g
    obtain rfl := U
    refine hG (any_step ?_); intro A J hJ
    have mB := Y R
    have mC := ab M
    have mD := X L
    have mE := aa z
    refine s1 hFx 50 (.bool (decide ((u4 E H) < 0))) ?_; intro ux mF
    refine nl (qnI (hJ _ _ ?_))
    exact ⟨cg, bY, bZ, ch, b0, b1, .func (.func fid3) #[] caps4, .slice ao1 u0.length cap2, i6 (w64 (bShr .u64 (wu64 (w64 (an + ao))) 1)), .pointer (some ⟨cg, (w64 (bShr .u64 (wu64 (w64 (an + ao))) 1)).toNat * 8, none⟩), .agg (e42F E bY bZ).toArray, .slice ao1 u0.length cap2, i6 u1, .pointer (some ⟨ch, u1.toNat * 8, none⟩), .agg (e42F H b0 b1).toArray, i6 (u4 E H), .bool (decide ((u4 E H) < 0)), .own tyLine 42 ao1 cap2 u0, a6, mF.reg, hMx.perm lpr, kf, kf, kf, kf, kf, kf, kf, kf, kf, kf, kf, rfl, (fun _ => mB), (fun _ => mC), (fun _ => mD), (fun _ => mE)⟩
   case hE =>
    intro S hS gL uy hI; refine Go.Sy.hid ?_; intro G hG; obtain ⟨cg, bY, bZ, ch, b0, b1, c2, dl, dm, df, c3, dn, dp, dg, c4, cT, cP, ag, a6, hFx, hMx, c5, c6, c7, dq, hI⟩ := hI; obtain ⟨dy, c8, c9, dr, dz, e4, gE, U, Y, ab, X, hI⟩ := hI; refine hG ?_
    obtain rfl := c5 (hS 0 (by decide))
    obtain rfl := c6 (hS 1 (by decide))
    obtain rfl := c7 (hS 2 (by decide))
    obtain rfl := dq (hS 3 (by decide))
    obtain rfl := dy (hS 4 (by decide))
    obtain rfl := c8 (hS 5 (by decide))
    obtain rfl := c9 (hS 6 (by decide))
    obtain rfl := dr (hS 7 (by decide))
    obtain rfl := dz (hS 8 (by decide))
    obtain rfl := e4 (hS 9 (by decide))
    obtain rfl := gE (hS 10 (by decide))
    obtain rfl := U
    refine t_ (c_ hFx ea (fun _ gM => ?_) fun _ gO => ?_)
    ·
     have gN : Fr 220 [] [⟨0, [], .slice ao1 u0.length cap2⟩, ⟨1, [], i6 u1⟩, ⟨4, [], .func (.func fid3) #[] caps4⟩, ⟨11, [], i6 ao⟩, ⟨12, [], i6 (w64 (bShr .u64 (wu64 (w64 (an + ao))) 1))⟩] gL := hFx.reg
     refine rgB gN hMx [] [] [(10, i6 (w64 ((w64 (bShr .u64 (wu64 (w64 (an + ao))) 1)) + 1)))] ?_; intro uD mG
     exact j_ (d_ ⟨⟨w64 ((w64 (bShr .u64 (wu64 (w64 (an + ao))) 1)) + 1), ao⟩, gM.1, gM.2, (mG.reg).anyβ _ (by kernel_rfl), hMx.kp⟩)
    have gP : Fr 220 [] [⟨0, [], .slice ao1 u0.length cap2⟩, ⟨1, [], i6 u1⟩, ⟨4, [], .func (.func fid3) #[] caps4⟩, ⟨10, [], i6 an⟩, ⟨12, [], i6 (w64 (bShr .u64 (wu64 (w64 (an + ao))) 1))⟩] gL := hFx.reg
    refine rgB gP hMx [] [] [(11, i6 (w64 (bShr .u64 (wu64 (w64 (an + ao))) 1)))] ?_; intro uE mH
    exact j_ (d_ ⟨⟨an, w64 (bShr .u64 (wu64 (w64 (an + ao))) 1)⟩, gO.1, gO.2, (mH.reg).anyβ _ (by kernel_rfl), hMx.kp⟩)
  exact x_ (y_ (y_ (z_ (d_ (kz an mI _ _ ((d9.reg).anyβ _ (by kernel_rfl)) (gz.kp))))))
 refine k_ (s_ (sqB dJ hM0 [] [] [(80, .bool ((w64 (u3 - u2)) == 1))] ?_)); intro uF dM
 refine c_ dM eb (fun _ mJ => ?_) fun _ ej => ?_
 ·
  refine sqB dM hM0 [] [] [(14, i6 u1)] ?_; intro uG gQ
  refine sqB gQ hM0 [] [] [(15, i6 u2)] ?_; intro ec gR
  have gS : Fr 220 [] [⟨0, [], .slice ao1 u0.length cap2⟩, ⟨2, [], i6 u2⟩, ⟨4, [], .func (.func fid3) #[] caps4⟩, ⟨14, [], i6 u1⟩, ⟨15, [], i6 u2⟩] ec := gR.reg
  obtain ⟨mK, mL, mM⟩ := mJ
  refine wp_seq_k fun KJ485 hKJ486 => ?_
  have mN : ∀ (cw : Int), mK cw → ∀ a1 w1, Fr 220 [] [⟨0, [], .slice ao1 u0.length cap2⟩, ⟨2, [], i6 u2⟩, ⟨14, [], i6 cw⟩] a1 → Mem B [] w0 Z0 ((.own tyLine 42 ao1 cap2 u0) :: Rr) Z w1 → KJ485 a1 w1 := by
   rintro cw mO uH uI gT fc
   refine hKJ486 _ _ ?_
   have mP := mM cw mO
   refine s_ (sqB gT fc [] [] [(17, i6 u2)] ?_); intro gU gV
   apply b_
   have gW : Fr 220 [] [⟨0, [], .slice ao1 u0.length cap2⟩, ⟨14, [], i6 cw⟩, ⟨17, [], i6 u2⟩] gU := gV.reg
   obtain ⟨mQ, mR, mS, mT⟩ := mP
   refine lp (ι := Int × (List Line)) (fun s => [⟨0, [], .slice ao1 s.2.length cap2⟩, ⟨14, [], i6 cw⟩, ⟨17, [], i6 s.1⟩]) (fun s => ((.own tyLine 42 ao1 cap2 s.2) :: Rr)) (fun s => Z) (fun s => mQ s.1 s.2) (fun s => mR s.1 s.2) ⟨u2, u0⟩ mS (by exact gW.reg) (by exact fc) ?_
   rintro ⟨m, j⟩ mU mV mW gY gZ
   have ed := mT m j mU
   refine s_ (sqB gY gZ [] [] [(110, .bool (decide (m > cw)))] ?_); intro ci dN
   refine c_ dN ed (fun _ mX => ?_) fun _ n5 => ?_
   ·
    refine k_ (s_ (b_ ?_))
    have mY : Fr 220 [] [⟨0, [], .slice ao1 j.length cap2⟩, ⟨14, [], i6 cw⟩, ⟨17, [], i6 m⟩] ci := dN.reg
    obtain ⟨eN, g1⟩ := mX
    obtain ⟨d, eO, mZ⟩ := gxq g1 (by omega)
    obtain ⟨eP, g2⟩ := mZ
    obtain ⟨f, eQ, m0⟩ := gxq g2 (by omega)
    obtain ⟨eR, m1⟩ := m0
    obtain ⟨eS, g3⟩ := m1
    refine any_invE mixed [[], [], [], [], [3], [], [], [6], [5, 7], [8], [], [], [10, 11], [12], [0, 1, 5, 6, 7, 8, 9, 13], [0, 1, 5, 6, 7, 8, 9, 13, 14], [0, 1, 2, 3, 4, 5, 6, 7, 8, 9, 10, 11, 12, 13, 14, 15], [0, 1, 2, 3, 4, 5, 6, 7, 8, 9, 10, 11, 12, 13, 14, 15, 16]] 18 (fun S a w1 => ∃ (aK : Nat) (aC : Option Addr) (aD : Nat) (aL : Nat) (aE : Option Addr) (aF : Nat) (aS : Nat) (a7 : Nat) (cj : Value) (cl : Value) (bG : Value) (b2 : Value) (bH : Value) (cG : Value) (cQ : Value) (cH : Value) (cx : Value) (cm : Value) (cI : Value) (cJ : Value) (cy : Value) (cn : Value) (b3 : Value) (bk : Value) (ag : Res), Fz.le Z Z ∧ Fr 220 [] [⟨0, [], .slice ao1 j.length cap2⟩, ⟨14, [], i6 cw⟩, ⟨17, [], i6 m⟩, ⟨113, [], cj⟩, ⟨114, [], cl⟩, ⟨115, [], bG⟩, ⟨116, [], b2⟩, ⟨117, [], bH⟩, ⟨118, [], cG⟩, ⟨119, [], cQ⟩, ⟨120, [], cH⟩, ⟨121, [], cx⟩, ⟨122, [], cm⟩, ⟨123, [], cI⟩, ⟨124, [], cJ⟩, ⟨125, [], cy⟩, ⟨126, [], cn⟩, ⟨127, [], b3⟩, ⟨128, [], bk⟩] a ∧ Mem B [] w0 Z0 (ag :: Rr) Z w1 ∧ (S 0 = true → cj = .slice ao1 j.length cap2) ∧ (S 1 = true → cl = i6 m) ∧ (S 2 = true → bG = .slice ao1 j.length cap2) ∧ (S 3 = true → b2 = i6 m) ∧ (S 4 = true → bH = i6 (w64 (m - 1))) ∧ (S 5 = true → cG = .slice ao1 j.length cap2) ∧ (S 6 = true → cQ = i6 m) ∧ (S 7 = true → cH = i6 (w64 (m - 1))) ∧ (S 8 = true → cx = .pointer (some ⟨aK, (w64 (m - 1)).toNat * 8, none⟩)) ∧ (S 9 = true → cm = .agg (e42F d aC aD).toArray) ∧ (S 10 = true → cI = .slice ao1 j.length cap2) ∧ (S 11 = true → cJ = i6 m) ∧ (S 12 = true → cy = .pointer (some ⟨aL, m.toNat * 8, none⟩)) ∧ (S 13 = true → cn = .agg (e42F f aE aF).toArray) ∧ (S 14 = true → b3 = .pointer (some ⟨aS, m.toNat * 8, none⟩)) ∧ (S 16 = true → bk = .pointer (some ⟨a7, (w64 (m - 1)).toNat * 8, none⟩)) ∧ (S 15 = false → ag = .own tyLine 42 ao1 cap2 j) ∧ (S 15 = true → S 17 = false → ag = .own tyLine 42 ao1 cap2 (j.set m.toNat d)) ∧ (S 17 = true → ag = .own tyLine 42 ao1 cap2 ((j.set m.toNat d).set (w64 (m - 1)).toNat f)) ∧ (S 8 = true → ao1 = some ⟨aK, 0, none⟩) ∧ (S 9 = true → SlR t8 Z aC aD d.F.Data) ∧ (S 12 = true → ao1 = some ⟨aL, 0, none⟩) ∧ (S 13 = true → SlR t8 Z aE aF f.F.Data) ∧ (S 14 = true → ao1 = some ⟨aS, 0, none⟩) ∧ (S 16 = true → ao1 = some ⟨a7, 0, none⟩)) ?h0 ?hs ?hE
    case h0 =>
     have m2 := mY.any 113
     have m3 := m2.any 114
     have m4 := m3.any 115
     have m5 := m4.any 116
     have m6 := m5.any 117
     have m7 := m6.any 118
     have m8 := m7.any 119
     have m9 := m8.any 120
     have na := m9.any 121
     have nb := na.any 122
     have nc := nb.any 123
     have nd := nc.any 124
     have ne := nd.any 125
     have nf := ne.any 126
     have ng := nf.any 127
     have nh := ng.any 128
     have ni := (gZ.perm lpr).drew
     exact ⟨0, none, 0, 0, none, 0, 0, 0, ci.tmps.getD 113 undef, ci.tmps.getD 114 undef, ci.tmps.getD 115 undef, ci.tmps.getD 116 undef, ci.tmps.getD 117 undef, ci.tmps.getD 118 undef, ci.tmps.getD 119 undef, ci.tmps.getD 120 undef, ci.tmps.getD 121 undef, ci.tmps.getD 122 undef, ci.tmps.getD 123 undef, ci.tmps.getD 124 undef, ci.tmps.getD 125 undef, ci.tmps.getD 126 undef, ci.tmps.getD 127 undef, ci.tmps.getD 128 undef, .own tyLine 42 ao1 cap2 j, Fz.le.refl _, nh.reg, ni, ff, ff, ff, ff, ff, ff, ff, ff, ff, ff, ff, ff, ff, ff, ff, ff, kf, ff, ff, ff, ff, ff, ff, ff, ff⟩
    case hs =>
     intro S hcl i o hil hi hSi hpre a w1 hI; refine Go.Sy.hid ?_; intro G hG; obtain ⟨aK, aC, aD, aL, aE, aF, aS, a7, cj, cl, bG, b2, bH, cG, cQ, cH, cx, cm, cI, cJ, cy, cn, b3, bk, ag, hI⟩ := hI; obtain ⟨ai, hFx, hMx, bI, bJ, bK, bL, b4, bM, bN, b5, cz, cK, bO, bP, co, cA, dC, fg, U, cS, dL, Y, ab, X, hI⟩ := hI; obtain ⟨aa, cf, hI⟩ := hI; have dD := hI
     have hcase : i = 0 ∨ i = 1 ∨ i = 2 ∨ i = 3 ∨ i = 4 ∨ i = 5 ∨ i = 6 ∨ i = 7 ∨ i = 8 ∨ i = 9 ∨ i = 10 ∨ i = 11 ∨ i = 12 ∨ i = 13 ∨ i = 14 ∨ i = 15 ∨ i = 16 ∨ i = 17 := by clear hi; omega
     rcases hcase with rfl | rfl | rfl | rfl | rfl | rfl | rfl | rfl | rfl | rfl | rfl | rfl | rfl | rfl | rfl | rfl | rfl | rfl
     ·
      obtain rfl := oj hi
      have af := hSi
      have V := ngF hcl 14 0 af
      have W := ngF hcl 15 0 af
      have Q := ngF hcl 16 0 af
      have ac := ngF hcl 17 0 af
      obtain rfl := U W
      refine hG (any_step ?_); intro A J hJ
      refine s1 hFx 113 (.slice ao1 j.length cap2) ?_; intro uJ nj
      refine nl (qnI (hJ _ _ ?_))
      exact ⟨aK, aC, aD, aL, aE, aF, aS, a7, .slice ao1 j.length cap2, cl, bG, b2, bH, cG, cQ, cH, cx, cm, cI, cJ, cy, cn, b3, bk, .own tyLine 42 ao1 cap2 j, ai, nj.reg, hMx.perm lpr, kf, bJ, bK, bL, b4, bM, bN, b5, cz, cK, bO, bP, co, cA, (nt V), (nt Q), kf, (fun h _ => nt W h), (nt ac), Y, ab, X, aa, (nt V), (nt Q)⟩
     ·
      obtain rfl := oj hi
      have ad := hSi
      have V := ngF hcl 14 1 ad
      have W := ngF hcl 15 1 ad
      have Q := ngF hcl 16 1 ad
      have ac := ngF hcl 17 1 ad
      obtain rfl := U W
      refine hG (any_step ?_); intro A J hJ
      refine s1 hFx 114 (i6 m) ?_; intro uK nk
      refine nl (qnI (hJ _ _ ?_))
      exact ⟨aK, aC, aD, aL, aE, aF, aS, a7, cj, i6 m, bG, b2, bH, cG, cQ, cH, cx, cm, cI, cJ, cy, cn, b3, bk, .own tyLine 42 ao1 cap2 j, ai, nk.reg, hMx.perm lpr, bI, kf, bK, bL, b4, bM, bN, b5, cz, cK, bO, bP, co, cA, (nt V), (nt Q), kf, (fun h _ => nt W h), (nt ac), Y, ab, X, aa, (nt V), (nt Q)⟩
     ·
      obtain rfl := oj hi
      have ae := hSi
      have Q := ngF hcl 16 2 ae
      have ac := ngF hcl 17 2 ae
      refine hG (any_step ?_); intro A J hJ
      refine s1 hFx 115 (.slice ao1 j.length cap2) ?_; intro uL nm
      refine nl (qnI (hJ _ _ ?_))
      exact ⟨aK, aC, aD, aL, aE, aF, aS, a7, cj, cl, .slice ao1 j.length cap2, b2, bH, cG, cQ, cH, cx, cm, cI, cJ, cy, cn, b3, bk, ag, ai, nm.reg, hMx.perm lpr, bI, bJ, kf, bL, b4, bM, bN, b5, cz, cK, bO, bP, co, cA, dC, (nt Q), U, cS, (nt ac), Y, ab, X, aa, cf, (nt Q)⟩
     ·
      obtain rfl := oj hi
      have R := hSi
      have M := ngF hcl 4 3 R
      have Q := ngF hcl 16 3 R
      have ac := ngF hcl 17 3 R
      refine hG (any_step ?_); intro A J hJ
      refine s1 hFx 116 (i6 m) ?_; intro uM nn
      refine nl (qnI (hJ _ _ ?_))
      exact ⟨aK, aC, aD, aL, aE, aF, aS, a7, cj, cl, bG, i6 m, bH, cG, cQ, cH, cx, cm, cI, cJ, cy, cn, b3, bk, ag, ai, nn.reg, hMx.perm lpr, bI, bJ, bK, kf, (nt M), bM, bN, b5, cz, cK, bO, bP, co, cA, dC, (nt Q), U, cS, (nt ac), Y, ab, X, aa, cf, (nt Q)⟩
     ·
      obtain rfl := oj hi
      have R := hpre 3 (by kernel_rfl)
      have M := hSi
      have Q := ngF hcl 16 4 M
      have ac := ngF hcl 17 4 M
      obtain rfl := bL R
      refine hG (any_step ?_); intro A J hJ
      refine s1 hFx 117 (i6 (w64 (m - 1))) ?_; intro uN no
      refine nl (qnI (hJ _ _ ?_))
      exact ⟨aK, aC, aD, aL, aE, aF, aS, a7, cj, cl, bG, i6 m, i6 (w64 (m - 1)), cG, cQ, cH, cx, cm, cI, cJ, cy, cn, b3, bk, ag, ai, no.reg, hMx.perm lpr, bI, bJ, bK, kf, kf, bM, bN, b5, cz, cK, bO, bP, co, cA, dC, (nt Q), U, cS, (nt ac), Y, ab, X, aa, cf, (nt Q)⟩
     ·
      obtain rfl := oj hi
      have D := hSi
      have z := ngF hcl 8 5 D
      have g := ngF hcl 9 8 z
      have V := ngF hcl 14 5 D
      have W := ngF hcl 15 5 D
      have Q := ngF hcl 16 5 D
      have ac := ngF hcl 17 5 D
      obtain rfl := U W
      refine hG (any_step ?_); intro A J hJ
      refine s1 hFx 118 (.slice ao1 j.length cap2) ?_; intro uO np
      refine nl (qnI (hJ _ _ ?_))
      exact ⟨aK, aC, aD, aL, aE, aF, aS, a7, cj, cl, bG, b2, bH, .slice ao1 j.length cap2, cQ, cH, cx, cm, cI, cJ, cy, cn, b3, bk, .own tyLine 42 ao1 cap2 j, ai, np.reg, hMx.perm lpr, bI, bJ, bK, bL, b4, kf, bN, b5, (nt z), (nt g), bO, bP, co, cA, (nt V), (nt Q), kf, (fun h _ => nt W h), (nt ac), (nt z), (nt g), X, aa, (nt V), (nt Q)⟩
     ·
      obtain rfl := oj hi
      have I := hSi
      have L := ngF hcl 7 6 I
      have z := ngF hcl 8 7 L
      have g := ngF hcl 9 8 z
      have V := ngF hcl 14 6 I
      have W := ngF hcl 15 6 I
      have Q := ngF hcl 16 6 I
      have ac := ngF hcl 17 6 I
      obtain rfl := U W
      refine hG (any_step ?_); intro A J hJ
      refine s1 hFx 119 (i6 m) ?_; intro uP nq
      refine nl (qnI (hJ _ _ ?_))
      exact ⟨aK, aC, aD, aL, aE, aF, aS, a7, cj, cl, bG, b2, bH, cG, i6 m, cH, cx, cm, cI, cJ, cy, cn, b3, bk, .own tyLine 42 ao1 cap2 j, ai, nq.reg, hMx.perm lpr, bI, bJ, bK, bL, b4, bM, kf, (nt L), (nt z), (nt g), bO, bP, co, cA, (nt V), (nt Q), kf, (fun h _ => nt W h), (nt ac), (nt z), (nt g), X, aa, (nt V), (nt Q)⟩
     ·
      obtain rfl := oj hi
      have I := hpre 6 (by kernel_rfl)
      have L := hSi
      have z := ngF hcl 8 7 L
      have g := ngF hcl 9 8 z
      have V := ngF hcl 14 7 L
      have W := ngF hcl 15 7 L
      have Q := ngF hcl 16 7 L
      have ac := ngF hcl 17 7 L
      obtain rfl := bN I
      obtain rfl := U W
      refine hG (any_step ?_); intro A J hJ
      refine s1 hFx 120 (i6 (w64 (m - 1))) ?_; intro uQ nr
      refine nl (qnI (hJ _ _ ?_))
      exact ⟨aK, aC, aD, aL, aE, aF, aS, a7, cj, cl, bG, b2, bH, cG, i6 m, i6 (w64 (m - 1)), cx, cm, cI, cJ, cy, cn, b3, bk, .own tyLine 42 ao1 cap2 j, ai, nr.reg, hMx.perm lpr, bI, bJ, bK, bL, b4, bM, kf, kf, (nt z), (nt g), bO, bP, co, cA, (nt V), (nt Q), kf, (fun h _ => nt W h), (nt ac), (nt z), (nt g), X, aa, (nt V), (nt Q)⟩
     ·
      obtain rfl := oj hi
      have L := hpre 7 (by kernel_rfl)
      have D := hpre 5 (by kernel_rfl)
      have I := hcl 7 6 (by kernel_rfl) L
      have z := hSi
      have g := ngF hcl 9 8 z
      have V := ngF hcl 14 8 z
      have W := ngF hcl 15 8 z
      have Q := ngF hcl 16 8 z
      have ac := ngF hcl 17 8 z
      obtain rfl := bM D
      obtain rfl := bN I
      obtain rfl := b5 L
      obtain rfl := U W
      refine hG (any_step ?_); intro A J hJ
      refine ixo hFx hMx 0 (T := tyLine) (xs := j) (w64 (m - 1)) (by simpa only [List.length_set] using eN) (k := .i64) (e := 42) (bytes := 64) (nog rfl _) rfl (by kernel_rfl) rfl (by kernel_rfl) (by kernel_rfl) rfl (by kernel_rfl) ?_; intro g4 uR ns nv
      refine nl (qnI (hJ _ _ ?_))
      exact ⟨g4, aC, aD, aL, aE, aF, aS, a7, cj, cl, bG, b2, bH, .slice ao1 j.length cap2, i6 m, i6 (w64 (m - 1)), .pointer (some ⟨g4, (w64 (m - 1)).toNat * 8, none⟩), cm, cI, cJ, cy, cn, b3, bk, .own tyLine 42 ao1 cap2 j, ai, nv.reg, hMx.perm lpr, bI, bJ, bK, bL, b4, kf, kf, kf, kf, (nt g), bO, bP, co, cA, (nt V), (nt Q), kf, (fun h _ => nt W h), (nt ac), (fun _ => ns), (nt g), X, aa, (nt V), (nt Q)⟩
     ·
      obtain rfl := oj hi
      have z := hpre 8 (by kernel_rfl)
      have L := hcl 8 7 (by kernel_rfl) z
      have D := hcl 8 5 (by kernel_rfl) z
      have I := hcl 7 6 (by kernel_rfl) L
      have g := hSi
      have V := ngF hcl 14 9 g
      have W := ngF hcl 15 9 g
      have Q := ngF hcl 16 9 g
      have ac := ngF hcl 17 9 g
      obtain rfl := bM D
      obtain rfl := bN I
      obtain rfl := b5 L
      obtain rfl := cz z
      obtain rfl := U W
      refine hG (any_step ?_); intro A J hJ
      have g5 := Y z
      obtain ⟨uS, nw, nx⟩ := own_elx hMx 0 (T := tyLine) (xs := j) rfl g5 (w64 (m - 1)).toNat eO
      obtain ⟨fh, fi, rfl, ny⟩ := nw
      refine lc2 hFx 122 8 (e42F d fh fi) nx rfl ?_; intro uT nz
      refine nl (qnI (hJ _ _ ?_))
      exact ⟨aK, fh, fi, aL, aE, aF, aS, a7, cj, cl, bG, b2, bH, .slice ao1 j.length cap2, i6 m, i6 (w64 (m - 1)), .pointer (some ⟨aK, (w64 (m - 1)).toNat * 8, none⟩), .agg (e42F d fh fi).toArray, cI, cJ, cy, cn, b3, bk, .own tyLine 42 ao1 cap2 j, ai, nz.reg, hMx.perm lpr, bI, bJ, bK, bL, b4, kf, kf, kf, kf, kf, bO, bP, co, cA, (nt V), (nt Q), kf, (fun h _ => nt W h), (nt ac), (fun _ => g5), (fun _ => ny), X, aa, (nt V), (nt Q)⟩
     ·
      obtain rfl := oj hi
      have C := hSi
      have n := ngF hcl 12 10 C
      have N := ngF hcl 13 12 n
      have V := ngF hcl 14 13 N
      have W := ngF hcl 15 13 N
      have Q := ngF hcl 16 10 C
      have ac := ngF hcl 17 10 C
      obtain rfl := U W
      refine hG (any_step ?_); intro A J hJ
      refine s1 hFx 123 (.slice ao1 j.length cap2) ?_; intro uU nA
      refine nl (qnI (hJ _ _ ?_))
      exact ⟨aK, aC, aD, aL, aE, aF, aS, a7, cj, cl, bG, b2, bH, cG, cQ, cH, cx, cm, .slice ao1 j.length cap2, cJ, cy, cn, b3, bk, .own tyLine 42 ao1 cap2 j, ai, nA.reg, hMx.perm lpr, bI, bJ, bK, bL, b4, bM, bN, b5, cz, cK, kf, bP, (nt n), (nt N), (nt V), (nt Q), kf, (fun h _ => nt W h), (nt ac), Y, ab, (nt n), (nt N), (nt V), (nt Q)⟩
     ·
      obtain rfl := oj hi
      have p := hSi
      have n := ngF hcl 12 11 p
      have N := ngF hcl 13 12 n
      have V := ngF hcl 14 13 N
      have W := ngF hcl 15 13 N
      have Q := ngF hcl 16 11 p
      have ac := ngF hcl 17 11 p
      obtain rfl := U W
      refine hG (any_step ?_); intro A J hJ
      refine s1 hFx 124 (i6 m) ?_; intro uV nB
      refine nl (qnI (hJ _ _ ?_))
      exact ⟨aK, aC, aD, aL, aE, aF, aS, a7, cj, cl, bG, b2, bH, cG, cQ, cH, cx, cm, cI, i6 m, cy, cn, b3, bk, .own tyLine 42 ao1 cap2 j, ai, nB.reg, hMx.perm lpr, bI, bJ, bK, bL, b4, bM, bN, b5, cz, cK, bO, kf, (nt n), (nt N), (nt V), (nt Q), kf, (fun h _ => nt W h), (nt ac), Y, ab, (nt n), (nt N), (nt V), (nt Q)⟩
     ·
      obtain rfl := oj hi
      have p := hpre 11 (by kernel_rfl)
      have C := hpre 10 (by kernel_rfl)
      have n := hSi
      have N := ngF hcl 13 12 n
      have V := ngF hcl 14 13 N
      have W := ngF hcl 15 13 N
      have Q := ngF hcl 16 12 n
      have ac := ngF hcl 17 12 n
      obtain rfl := bO C
      obtain rfl := bP p
      obtain rfl := U W
      refine hG (any_step ?_); intro A J hJ
      refine ixo hFx hMx 0 (T := tyLine) (xs := j) m (by simpa only [List.length_set] using eP) (k := .i64) (e := 42) (bytes := 64) (nog rfl _) rfl (by kernel_rfl) rfl (by kernel_rfl) (by kernel_rfl) rfl (by kernel_rfl) ?_; intro g6 uW nC nD
      refine nl (qnI (hJ _ _ ?_))
      exact ⟨aK, aC, aD, g6, aE, aF, aS, a7, cj, cl, bG, b2, bH, cG, cQ, cH, cx, cm, .slice ao1 j.length cap2, i6 m, .pointer (some ⟨g6, m.toNat * 8, none⟩), cn, b3, bk, .own tyLine 42 ao1 cap2 j, ai, nD.reg, hMx.perm lpr, bI, bJ, bK, bL, b4, bM, bN, b5, cz, cK, kf, kf, kf, (nt N), (nt V), (nt Q), kf, (fun h _ => nt W h), (nt ac), Y, ab, (fun _ => nC), (nt N), (nt V), (nt Q)⟩
     ·
      obtain rfl := oj hi
      have n := hpre 12 (by kernel_rfl)
      have p := hcl 12 11 (by kernel_rfl) n
      have C := hcl 12 10 (by kernel_rfl) n
      have N := hSi
      have V := ngF hcl 14 13 N
      have W := ngF hcl 15 13 N
      have Q := ngF hcl 16 13 N
      have ac := ngF hcl 17 13 N
      obtain rfl := bO C
      obtain rfl := bP p
      obtain rfl := co n
      obtain rfl := U W
      refine hG (any_step ?_); intro A J hJ
      have g7 := X n
      obtain ⟨uX, nE, nF⟩ := own_elx hMx 0 (T := tyLine) (xs := j) rfl g7 m.toNat eQ
      obtain ⟨fj, fk, rfl, nG⟩ := nE
      refine lc2 hFx 126 8 (e42F f fj fk) nF rfl ?_; intro uY nH
      refine nl (qnI (hJ _ _ ?_))
      exact ⟨aK, aC, aD, aL, fj, fk, aS, a7, cj, cl, bG, b2, bH, cG, cQ, cH, cx, cm, .slice ao1 j.length cap2, i6 m, .pointer (some ⟨aL, m.toNat * 8, none⟩), .agg (e42F f fj fk).toArray, b3, bk, .own tyLine 42 ao1 cap2 j, ai, nH.reg, hMx.perm lpr, bI, bJ, bK, bL, b4, bM, bN, b5, cz, cK, kf, kf, kf, kf, (nt V), (nt Q), kf, (fun h _ => nt W h), (nt ac), Y, ab, (fun _ => g7), (fun _ => nG), (nt V), (nt Q)⟩
     ·
      obtain rfl := oj hi
      have N := hpre 13 (by kernel_rfl)
      have g := hpre 9 (by kernel_rfl)
      have z := hpre 8 (by kernel_rfl)
      have L := hpre 7 (by kernel_rfl)
      have I := hpre 6 (by kernel_rfl)
      have D := hpre 5 (by kernel_rfl)
      have ad := hpre 1 (by kernel_rfl)
      have af := hpre 0 (by kernel_rfl)
      have n := hcl 13 12 (by kernel_rfl) N
      have p := hcl 12 11 (by kernel_rfl) n
      have C := hcl 12 10 (by kernel_rfl) n
      have V := hSi
      have W := ngF hcl 15 14 V
      have Q := ngF hcl 16 14 V
      have ac := ngF hcl 17 14 V
      obtain rfl := bI af
      obtain rfl := bJ ad
      obtain rfl := bM D
      obtain rfl := bN I
      obtain rfl := b5 L
      obtain rfl := cz z
      obtain rfl := cK g
      obtain rfl := bO C
      obtain rfl := bP p
      obtain rfl := co n
      obtain rfl := cA N
      obtain rfl := U W
      refine hG (any_step ?_); intro A J hJ
      have nI := Y z
      have nJ := ab g
      have nK := X n
      have nL := aa N
      refine ixo hFx hMx 0 (T := tyLine) (xs := j) m (by simpa only [List.length_set] using eR) (k := .i64) (e := 42) (bytes := 64) (nog rfl _) rfl (by kernel_rfl) rfl (by kernel_rfl) (by kernel_rfl) rfl (by kernel_rfl) ?_; intro g8 uZ nM nN
      refine nl (qnI (hJ _ _ ?_))
      exact ⟨aK, aC, aD, aL, aE, aF, g8, a7, .slice ao1 j.length cap2, i6 m, bG, b2, bH, .slice ao1 j.length cap2, i6 m, i6 (w64 (m - 1)), .pointer (some ⟨aK, (w64 (m - 1)).toNat * 8, none⟩), .agg (e42F d aC aD).toArray, .slice ao1 j.length cap2, i6 m, .pointer (some ⟨aL, m.toNat * 8, none⟩), .agg (e42F f aE aF).toArray, .pointer (some ⟨g8, m.toNat * 8, none⟩), bk, .own tyLine 42 ao1 cap2 j, ai, nN.reg, hMx.perm lpr, kf, kf, bK, bL, b4, kf, kf, kf, kf, kf, kf, kf, kf, kf, kf, (nt Q), kf, (fun h _ => nt W h), (nt ac), (fun _ => nI), (fun _ => nJ), (fun _ => nK), (fun _ => nL), (fun _ => nM), (nt Q)⟩
     ·
      obtain rfl := oj hi
      have V := hpre 14 (by kernel_rfl)
      have N := hpre 13 (by kernel_rfl)
      have g := hpre 9 (by kernel_rfl)
      have z := hpre 8 (by kernel_rfl)
      have L := hpre 7 (by kernel_rfl)
      have I := hpre 6 (by kernel_rfl)
      have D := hpre 5 (by kernel_rfl)
      have ad := hpre 1 (by kernel_rfl)
      have af := hpre 0 (by kernel_rfl)
      have n := hcl 13 12 (by kernel_rfl) N
      have p := hcl 12 11 (by kernel_rfl) n
      have C := hcl 12 10 (by kernel_rfl) n
      have W := hSi
      have Q := ngF hcl 16 15 W
      have ac := ngF hcl 17 15 W
      obtain rfl := bI af
      obtain rfl := bJ ad
      obtain rfl := bM D
      obtain rfl := bN I
      obtain rfl := b5 L
      obtain rfl := cz z
      obtain rfl := cK g
      obtain rfl := bO C
      obtain rfl := bP p
      obtain rfl := co n
      obtain rfl := cA N
      obtain rfl := dC V
      obtain rfl := U W
      refine hG (any_step ?_); intro A J hJ
      have nO := Y z
      have g9 := ab g
      have nP := X n
      have nQ := aa N
      have ha := cf V
      refine sox hFx hMx 0 ha (T := tyLine) (xs := j) m.toNat d (u := .agg (e42F d aC aD).toArray) (nog rfl _) rfl rfl (by kernel_rfl) rfl (by kernel_rfl) rfl (by kernel_rfl) (by first | omega | (simp only [List.length_set] at *; omega)) ⟨aC, aD, rfl, g9⟩ ?_; intro u5 nR
      refine nl (qnI (hJ _ _ ?_))
      exact ⟨aK, aC, aD, aL, aE, aF, aS, a7, .slice ao1 j.length cap2, i6 m, bG, b2, bH, .slice ao1 j.length cap2, i6 m, i6 (w64 (m - 1)), .pointer (some ⟨aK, (w64 (m - 1)).toNat * 8, none⟩), .agg (e42F d aC aD).toArray, .slice ao1 j.length cap2, i6 m, .pointer (some ⟨aL, m.toNat * 8, none⟩), .agg (e42F f aE aF).toArray, .pointer (some ⟨aS, m.toNat * 8, none⟩), bk, .own tyLine 42 ao1 cap2 (j.set m.toNat d), ai, hFx.reg, nR.perm lpr, kf, kf, bK, bL, b4, kf, kf, kf, kf, kf, kf, kf, kf, kf, kf, (nt Q), nu, kf2, (nt ac), (fun _ => nO), (fun _ => g9), (fun _ => nP), (fun _ => nQ), (fun _ => ha), (nt Q)⟩
     ·
      obtain rfl := oj hi
      have W := hpre 15 (by kernel_rfl)
      have V := hpre 14 (by kernel_rfl)
      have N := hpre 13 (by kernel_rfl)
      have n := hpre 12 (by kernel_rfl)
      have p := hpre 11 (by kernel_rfl)
      have C := hpre 10 (by kernel_rfl)
      have g := hpre 9 (by kernel_rfl)
      have z := hpre 8 (by kernel_rfl)
      have L := hpre 7 (by kernel_rfl)
      have I := hpre 6 (by kernel_rfl)
      have D := hpre 5 (by kernel_rfl)
      have M := hpre 4 (by kernel_rfl)
      have R := hpre 3 (by kernel_rfl)
      have ae := hpre 2 (by kernel_rfl)
      have ad := hpre 1 (by kernel_rfl)
      have af := hpre 0 (by kernel_rfl)
      have Q := hSi
      have ac := ngF hcl 17 16 Q
      obtain rfl := bI af
      obtain rfl := bJ ad
      obtain rfl := bK ae
      obtain rfl := bL R
      obtain rfl := b4 M
      obtain rfl := bM D
      obtain rfl := bN I
      obtain rfl := b5 L
      obtain rfl := cz z
      obtain rfl := cK g
      obtain rfl := bO C
      obtain rfl := bP p
      obtain rfl := co n
      obtain rfl := cA N
      obtain rfl := dC V
      obtain rfl := cS W ac
      refine hG (any_step ?_); intro A J hJ
      have nS := Y z
      have nT := ab g
      have nU := X n
      have nV := aa N
      have nW := cf V
      have b6 : (j.set m.toNat d).length = j.length := by first | assumption | omega | (dsimp only at *; omega) | (simp; try omega)
      have hb : Fr 220 [] [⟨0, [], .slice ao1 (j.set m.toNat d).length cap2⟩, ⟨14, [], i6 cw⟩, ⟨17, [], i6 m⟩, ⟨113, [], .slice ao1 (j.set m.toNat d).length cap2⟩, ⟨114, [], i6 m⟩, ⟨115, [], .slice ao1 (j.set m.toNat d).length cap2⟩, ⟨116, [], i6 m⟩, ⟨117, [], i6 (w64 (m - 1))⟩, ⟨118, [], .slice ao1 (j.set m.toNat d).length cap2⟩, ⟨119, [], i6 m⟩, ⟨120, [], i6 (w64 (m - 1))⟩, ⟨121, [], .pointer (some ⟨aK, (w64 (m - 1)).toNat * 8, none⟩)⟩, ⟨122, [], .agg (e42F d aC aD).toArray⟩, ⟨123, [], .slice ao1 (j.set m.toNat d).length cap2⟩, ⟨124, [], i6 m⟩, ⟨125, [], .pointer (some ⟨aL, m.toNat * 8, none⟩)⟩, ⟨126, [], .agg (e42F f aE aF).toArray⟩, ⟨127, [], .pointer (some ⟨aS, m.toNat * 8, none⟩)⟩, ⟨128, [], bk⟩] a := by rw [b6]; exact hFx.reg
      refine ixo hb hMx 0 (T := tyLine) (xs := j.set m.toNat d) (w64 (m - 1)) (by simpa only [List.length_set] using eS) (k := .i64) (e := 42) (bytes := 64) (nog rfl _) rfl (by kernel_rfl) rfl (by kernel_rfl) (by kernel_rfl) rfl (by kernel_rfl) ?_; intro hc u6 nX hd
      refine nl (qnI (hJ _ _ ?_))
      rw [b6] at hd
      exact ⟨aK, aC, aD, aL, aE, aF, aS, hc, .slice ao1 j.length cap2, i6 m, .slice ao1 j.length cap2, i6 m, i6 (w64 (m - 1)), .slice ao1 j.length cap2, i6 m, i6 (w64 (m - 1)), .pointer (some ⟨aK, (w64 (m - 1)).toNat * 8, none⟩), .agg (e42F d aC aD).toArray, .slice ao1 j.length cap2, i6 m, .pointer (some ⟨aL, m.toNat * 8, none⟩), .agg (e42F f aE aF).toArray, .pointer (some ⟨aS, m.toNat * 8, none⟩), .pointer (some ⟨hc, (w64 (m - 1)).toNat * 8, none⟩), .own tyLine 42 ao1 cap2 (j.set m.toNat d), ai, hd.reg, hMx.perm lpr, (fun _ => by first | rfl | rw [b6]), (fun _ => by first | rfl | rw [b6]), (fun _ => by first | rfl | rw [b6]), (fun _ => by first | rfl | rw [b6]), (fun _ => by first | rfl | rw [b6]), (fun _ => by first | rfl | rw [b6]), (fun _ => by first | rfl | rw [b6]), (fun _ => by first | rfl | rw [b6]), (fun _ => by first | rfl | rw [b6]), (fun _ => by first | rfl | rw [b6]), (fun _ => by first | rfl | rw [b6]), (fun _ => by first | rfl | rw [b6]), (fun _ => by first | rfl | rw [b6]), (fun _ => by first | rfl | rw [b6]), (fun _ => by first | rfl | rw [b6]), (fun _ => by first | rfl | rw [b6]), (tn W), kf2, (nt ac), (fun _ => nS), (fun _ => nT), (fun _ => nU), (fun _ => nV), (fun _ => nW), (fun _ => nX)⟩
     obtain rfl := oj hi
     have Q := hpre 16 (by kernel_rfl)
     have W := hpre 15 (by kernel_rfl)
     have V := hpre 14 (by kernel_rfl)
     have N := hpre 13 (by kernel_rfl)
     have n := hpre 12 (by kernel_rfl)
     have p := hpre 11 (by kernel_rfl)
     have C := hpre 10 (by kernel_rfl)
     have g := hpre 9 (by kernel_rfl)
     have z := hpre 8 (by kernel_rfl)
     have L := hpre 7 (by kernel_rfl)
     have I := hpre 6 (by kernel_rfl)
     have D := hpre 5 (by kernel_rfl)
     have M := hpre 4 (by kernel_rfl)
     have R := hpre 3 (by kernel_rfl)
     have ae := hpre 2 (by kernel_rfl)
     have ad := hpre 1 (by kernel_rfl)
     have af := hpre 0 (by kernel_rfl)
     have ac := hSi
     obtain rfl := bI af
     obtain rfl := bJ ad
     obtain rfl := bK ae
     obtain rfl := bL R
     obtain rfl := b4 M
     obtain rfl := bM D
     obtain rfl := bN I
     obtain rfl := b5 L
     obtain rfl := cz z
     obtain rfl := cK g
     obtain rfl := bO C
     obtain rfl := bP p
     obtain rfl := co n
     obtain rfl := cA N
     obtain rfl := dC V
     obtain rfl := fg Q
     obtain rfl := cS W ac
     refine hG (any_step ?_); intro A J hJ
     have nY := Y z
     have nZ := ab g
     have n0 := X n
     have he := aa N
     have n1 := cf V
     have hf := dD Q
     have b7 : (j.set m.toNat d).length = j.length := by first | assumption | omega | (dsimp only at *; omega) | (simp; try omega)
     have fl : Fr 220 [] [⟨0, [], .slice ao1 (j.set m.toNat d).length cap2⟩, ⟨14, [], i6 cw⟩, ⟨17, [], i6 m⟩, ⟨113, [], .slice ao1 (j.set m.toNat d).length cap2⟩, ⟨114, [], i6 m⟩, ⟨115, [], .slice ao1 (j.set m.toNat d).length cap2⟩, ⟨116, [], i6 m⟩, ⟨117, [], i6 (w64 (m - 1))⟩, ⟨118, [], .slice ao1 (j.set m.toNat d).length cap2⟩, ⟨119, [], i6 m⟩, ⟨120, [], i6 (w64 (m - 1))⟩, ⟨121, [], .pointer (some ⟨aK, (w64 (m - 1)).toNat * 8, none⟩)⟩, ⟨122, [], .agg (e42F d aC aD).toArray⟩, ⟨123, [], .slice ao1 (j.set m.toNat d).length cap2⟩, ⟨124, [], i6 m⟩, ⟨125, [], .pointer (some ⟨aL, m.toNat * 8, none⟩)⟩, ⟨126, [], .agg (e42F f aE aF).toArray⟩, ⟨127, [], .pointer (some ⟨aS, m.toNat * 8, none⟩)⟩, ⟨128, [], .pointer (some ⟨a7, (w64 (m - 1)).toNat * 8, none⟩)⟩] a := by rw [b7]; exact hFx.reg
     refine sox fl hMx 0 hf (T := tyLine) (xs := j.set m.toNat d) (w64 (m - 1)).toNat f (u := .agg (e42F f aE aF).toArray) (nog rfl _) rfl rfl (by kernel_rfl) rfl (by kernel_rfl) rfl (by kernel_rfl) (by first | omega | (simp only [List.length_set] at *; omega)) ⟨aE, aF, rfl, he⟩ ?_; intro u7 n2
     refine nl (qnI (hJ _ _ ?_))
     rw [b7] at fl
     exact ⟨aK, aC, aD, aL, aE, aF, aS, a7, .slice ao1 j.length cap2, i6 m, .slice ao1 j.length cap2, i6 m, i6 (w64 (m - 1)), .slice ao1 j.length cap2, i6 m, i6 (w64 (m - 1)), .pointer (some ⟨aK, (w64 (m - 1)).toNat * 8, none⟩), .agg (e42F d aC aD).toArray, .slice ao1 j.length cap2, i6 m, .pointer (some ⟨aL, m.toNat * 8, none⟩), .agg (e42F f aE aF).toArray, .pointer (some ⟨aS, m.toNat * 8, none⟩), .pointer (some ⟨a7, (w64 (m - 1)).toNat * 8, none⟩), .own tyLine 42 ao1 cap2 ((j.set m.toNat d).set (w64 (m - 1)).toNat f), ai, fl.reg, n2.perm lpr, (fun _ => by first | rfl | rw [b7]), (fun _ => by first | rfl | rw [b7]), (fun _ => by first | rfl | rw [b7]), (fun _ => by first | rfl | rw [b7]), (fun _ => by first | rfl | rw [b7]), (fun _ => by first | rfl | rw [b7]), (fun _ => by first | rfl | rw [b7]), (fun _ => by first | rfl | rw [b7]), (fun _ => by first | rfl | rw [b7]), (fun _ => by first | rfl | rw [b7]), (fun _ => by first | rfl | rw [b7]), (fun _ => by first | rfl | rw [b7]), (fun _ => by first | rfl | rw [b7]), (fun _ => by first | rfl | rw [b7]), (fun _ => by first | rfl | rw [b7]), (fun _ => by first | rfl | rw [b7]), (tn W), (fun _ => nu), kf, (fun _ => nY), (fun _ => nZ), (fun _ => n0), (fun _ => he), (fun _ => n1), (fun _ => hf)⟩
    case hE =>
     intro S hS hg u8 hI; refine Go.Sy.hid ?_; intro G hG; obtain ⟨aK, aC, aD, aL, aE, aF, aS, a7, cj, cl, bG, b2, bH, cG, cQ, cH, cx, cm, cI, cJ, cy, cn, b3, bk, ag, hI⟩ := hI; obtain ⟨ai, hFx, hMx, bI, bJ, bK, bL, b4, bM, bN, b5, cz, cK, bO, bP, co, cA, dC, fg, U, cS, dL, Y, ab, X, hI⟩ := hI; obtain ⟨aa, cf, hI⟩ := hI; refine hG ?_
     obtain rfl := bI (hS 0 (by decide))
     obtain rfl := bJ (hS 1 (by decide))
     obtain rfl := bK (hS 2 (by decide))
     obtain rfl := bL (hS 3 (by decide))
     obtain rfl := b4 (hS 4 (by decide))
     obtain rfl := bM (hS 5 (by decide))
     obtain rfl := bN (hS 6 (by decide))
     obtain rfl := b5 (hS 7 (by decide))
     obtain rfl := cz (hS 8 (by decide))
     obtain rfl := cK (hS 9 (by decide))
     obtain rfl := bO (hS 10 (by decide))
     obtain rfl := bP (hS 11 (by decide))
     obtain rfl := co (hS 12 (by decide))
     obtain rfl := cA (hS 13 (by decide))
     obtain rfl := dC (hS 14 (by decide))
     obtain rfl := fg (hS 16 (by decide))
     obtain rfl := dL (hS 17 (by decide))
     have n3 : ((j.set m.toNat d).set (w64 (m - 1)).toNat f).length = j.length := by first | assumption | omega | (dsimp only at *; omega) | (simp; try omega)
     have hh : Fr 220 [] [⟨0, [], .slice ao1 ((j.set m.toNat d).set (w64 (m - 1)).toNat f).length cap2⟩, ⟨14, [], i6 cw⟩, ⟨17, [], i6 m⟩, ⟨113, [], .slice ao1 ((j.set m.toNat d).set (w64 (m - 1)).toNat f).length cap2⟩, ⟨114, [], i6 m⟩, ⟨115, [], .slice ao1 ((j.set m.toNat d).set (w64 (m - 1)).toNat f).length cap2⟩, ⟨116, [], i6 m⟩, ⟨117, [], i6 (w64 (m - 1))⟩, ⟨118, [], .slice ao1 ((j.set m.toNat d).set (w64 (m - 1)).toNat f).length cap2⟩, ⟨119, [], i6 m⟩, ⟨120, [], i6 (w64 (m - 1))⟩, ⟨121, [], .pointer (some ⟨aK, (w64 (m - 1)).toNat * 8, none⟩)⟩, ⟨122, [], .agg (e42F d aC aD).toArray⟩, ⟨123, [], .slice ao1 ((j.set m.toNat d).set (w64 (m - 1)).toNat f).length cap2⟩, ⟨124, [], i6 m⟩, ⟨125, [], .pointer (some ⟨aL, m.toNat * 8, none⟩)⟩, ⟨126, [], .agg (e42F f aE aF).toArray⟩, ⟨127, [], .pointer (some ⟨aS, m.toNat * 8, none⟩)⟩, ⟨128, [], .pointer (some ⟨a7, (w64 (m - 1)).toNat * 8, none⟩)⟩] hg := by rw [n3]; exact hFx.reg
     refine j_ (t_ ?_)
     have hj : Fr 220 [] [⟨0, [], .slice ao1 ((j.set m.toNat d).set (w64 (m - 1)).toNat f).length cap2⟩, ⟨14, [], i6 cw⟩, ⟨17, [], i6 m⟩] hg := hh.reg
     refine rgB hj hMx [] [] [(17, i6 (w64 (m - 1)))] ?_; intro vf n4
     exact d_ ⟨⟨w64 (m - 1), (j.set m.toNat d).set (w64 (m - 1)).toNat f⟩, g3.1, g3.2, (n4.reg).anyβ _ (by kernel_rfl), hMx.kp⟩
   refine x_ (y_ (y_ (z_ (t_ (r_ (h_ ?_))))))
   obtain ⟨n6, n7⟩ := n5
   refine rt (fn := Try.f82) (v := .tuple #[]) dN (re0 dN (fn := Try.f82) rfl) ?_
   exact ⟨j, Z, rfl, n7, c, n6, gZ.kp⟩
  apply b_
  have hk : Fr 220 [] [⟨0, [], .slice ao1 u0.length cap2⟩, ⟨2, [], i6 u2⟩, ⟨4, [], .func (.func fid3) #[] caps4⟩, ⟨14, [], i6 u1⟩, ⟨15, [], i6 u2⟩] ec := gS.reg
  obtain ⟨n8, n9, oa, ob⟩ := mL
  refine lp (ι := Int × Int) (fun s => [⟨0, [], .slice ao1 u0.length cap2⟩, ⟨2, [], i6 u2⟩, ⟨4, [], .func (.func fid3) #[] caps4⟩, ⟨14, [], i6 s.1⟩, ⟨15, [], i6 s.2⟩]) (fun s => ((.own tyLine 42 ao1 cap2 u0) :: Rr)) (fun s => Z) (fun s => n8 s.1 s.2) (fun s => n9 s.1 s.2) ⟨u1, u2⟩ oa (by exact hk.reg) (by exact hM0) ?_
  rintro ⟨ak, al⟩ oc od oe hn ho
  have ef := ob ak al oc
  refine s_ (sqB hn ho [] [] [(85, .bool (decide (ak < al)))] ?_); intro vg eg
  refine c_ eg ef (fun _ og => ?_) fun _ o7 => ?_
  ·
   refine k_ (b_ (sqB eg ho [] [] [(16, i6 (w64 (bShr .u64 (wu64 (w64 (ak + al))) 1)))] ?_)); intro cU hr
   have oh : Fr 220 [] [⟨0, [], .slice ao1 u0.length cap2⟩, ⟨2, [], i6 u2⟩, ⟨4, [], .func (.func fid3) #[] caps4⟩, ⟨14, [], i6 ak⟩, ⟨15, [], i6 al⟩, ⟨16, [], i6 (w64 (bShr .u64 (wu64 (w64 (ak + al))) 1))⟩] cU := hr.reg
   obtain ⟨e0, ht⟩ := og
   obtain ⟨E, e1, oi⟩ := gxq ht (by omega)
   obtain ⟨e2, hu⟩ := oi
   obtain ⟨H, e3, eh⟩ := gxq hu (by omega)
   refine wp_seq (any_invE mixed [[], [], [], [1, 2], [3], [], [], [5, 6], [7], [0, 4, 8], [9], [10]] 12 (fun S a w1 => ∃ (bQ : Nat) (bq : Option Addr) (br : Nat) (bR : Nat) (bs : Option Addr) (bu : Nat) (da : Value) (ds : Value) (dt : Value) (dh : Value) (db : Value) (du : Value) (dv : Value) (di : Value) (dc : Value) (cV : Value) (cR : Value) (cL : Value) (ag : Res), Fz.le Z Z ∧ Fr 220 [] [⟨0, [], .slice ao1 u0.length cap2⟩, ⟨2, [], i6 u2⟩, ⟨4, [], .func (.func fid3) #[] caps4⟩, ⟨14, [], i6 ak⟩, ⟨15, [], i6 al⟩, ⟨16, [], i6 (w64 (bShr .u64 (wu64 (w64 (ak + al))) 1))⟩, ⟨92, [], da⟩, ⟨93, [], ds⟩, ⟨94, [], dt⟩, ⟨95, [], dh⟩, ⟨96, [], db⟩, ⟨97, [], du⟩, ⟨98, [], dv⟩, ⟨99, [], di⟩, ⟨100, [], dc⟩, ⟨101, [], cV⟩, ⟨102, [], cR⟩, ⟨103, [], cL⟩] a ∧ Mem B [] w0 Z0 (ag :: Rr) Z w1 ∧ (S 0 = true → da = .func (.func fid3) #[] caps4) ∧ (S 1 = true → ds = .slice ao1 u0.length cap2) ∧ (S 2 = true → dt = i6 u2) ∧ (S 3 = true → dh = .pointer (some ⟨bQ, u2.toNat * 8, none⟩)) ∧ (S 4 = true → db = .agg (e42F E bq br).toArray) ∧ (S 5 = true → du = .slice ao1 u0.length cap2) ∧ (S 6 = true → dv = i6 (w64 (bShr .u64 (wu64 (w64 (ak + al))) 1))) ∧ (S 7 = true → di = .pointer (some ⟨bR, (w64 (bShr .u64 (wu64 (w64 (ak + al))) 1)).toNat * 8, none⟩)) ∧ (S 8 = true → dc = .agg (e42F H bs bu).toArray) ∧ (S 9 = true → cV = i6 (u4 E H)) ∧ (S 10 = true → cR = .bool (decide ((u4 E H) < 0))) ∧ (S 11 = true → cL = .bool (!(decide ((u4 E H) < 0)))) ∧ (ag = .own tyLine 42 ao1 cap2 u0) ∧ (S 3 = true → ao1 = some ⟨bQ, 0, none⟩) ∧ (S 4 = true → SlR t8 Z bq br E.F.Data) ∧ (S 7 = true → ao1 = some ⟨bR, 0, none⟩) ∧ (S 8 = true → SlR t8 Z bs bu H.F.Data)) ?h0 ?hs ?hE)
   case h0 =>
    have ol := oh.any 92
    have om := ol.any 93
    have oo := om.any 94
    have op := oo.any 95
    have oq := op.any 96
    have or := oq.any 97
    have os := or.any 98
    have ot := os.any 99
    have ou := ot.any 100
    have ov := ou.any 101
    have ow := ov.any 102
    have ox := ow.any 103
    have oy := (ho.perm lpr).drew
    exact ⟨0, none, 0, 0, none, 0, cU.tmps.getD 92 undef, cU.tmps.getD 93 undef, cU.tmps.getD 94 undef, cU.tmps.getD 95 undef, cU.tmps.getD 96 undef, cU.tmps.getD 97 undef, cU.tmps.getD 98 undef, cU.tmps.getD 99 undef, cU.tmps.getD 100 undef, cU.tmps.getD 101 undef, cU.tmps.getD 102 undef, cU.tmps.getD 103 undef, .own tyLine 42 ao1 cap2 u0, Fz.le.refl _, ox.reg, oy, ff, ff, ff, ff, ff, ff, ff, ff, ff, ff, ff, ff, rfl, ff, ff, ff, ff⟩
   case hs =>
    intro S hcl i o hil hi hSi hpre a w1 hI; refine Go.Sy.hid ?_; intro G hG; obtain ⟨bQ, bq, br, bR, bs, bu, da, ds, dt, dh, db, du, dv, di, dc, cV, cR, cL, ag, aX, hFx, hMx, cW, cX, cY, hI⟩ := hI; obtain ⟨dj, dw, cZ, c0, dk, dx, ei, fo, hv, U, Y, ab, X, hI⟩ := hI; have aa := hI
    have hcase : i = 0 ∨ i = 1 ∨ i = 2 ∨ i = 3 ∨ i = 4 ∨ i = 5 ∨ i = 6 ∨ i = 7 ∨ i = 8 ∨ i = 9 ∨ i = 10 ∨ i = 11 := by clear hi; omega
    rcases hcase with rfl | rfl | rfl | rfl | rfl | rfl | rfl | rfl | rfl | rfl | rfl | rfl
    ·
     obtain rfl := oj hi
     have af := hSi
     have g := ngF hcl 9 0 af
     have C := ngF hcl 10 9 g
     have p := ngF hcl 11 10 C
     obtain rfl := U
     refine hG (any_step ?_); intro A J hJ
     refine s1 hFx 92 (.func (.func fid3) #[] caps4) ?_; intro vh oz
     refine nl (qnI (hJ _ _ ?_))
     exact ⟨bQ, bq, br, bR, bs, bu, .func (.func fid3) #[] caps4, ds, dt, dh, db, du, dv, di, dc, cV, cR, cL, .own tyLine 42 ao1 cap2 u0, aX, oz.reg, hMx.perm lpr, kf, cX, cY, dj, dw, cZ, c0, dk, dx, (nt g), (nt C), (nt p), rfl, Y, ab, X, aa⟩
    ·
     obtain rfl := oj hi
     have ad := hSi
     have R := ngF hcl 3 1 ad
     have M := ngF hcl 4 3 R
     have g := ngF hcl 9 4 M
     have C := ngF hcl 10 9 g
     have p := ngF hcl 11 10 C
     obtain rfl := U
     refine hG (any_step ?_); intro A J hJ
     refine s1 hFx 93 (.slice ao1 u0.length cap2) ?_; intro vi oA
     refine nl (qnI (hJ _ _ ?_))
     exact ⟨bQ, bq, br, bR, bs, bu, da, .slice ao1 u0.length cap2, dt, dh, db, du, dv, di, dc, cV, cR, cL, .own tyLine 42 ao1 cap2 u0, aX, oA.reg, hMx.perm lpr, cW, kf, cY, (nt R), (nt M), cZ, c0, dk, dx, (nt g), (nt C), (nt p), rfl, (nt R), (nt M), X, aa⟩
    ·
     obtain rfl := oj hi
     have ae := hSi
     have R := ngF hcl 3 2 ae
     have M := ngF hcl 4 3 R
     have g := ngF hcl 9 4 M
     have C := ngF hcl 10 9 g
     have p := ngF hcl 11 10 C
     obtain rfl := U
     refine hG (any_step ?_); intro A J hJ
     refine s1 hFx 94 (i6 u2) ?_; intro vj oB
     refine nl (qnI (hJ _ _ ?_))
     exact ⟨bQ, bq, br, bR, bs, bu, da, ds, i6 u2, dh, db, du, dv, di, dc, cV, cR, cL, .own tyLine 42 ao1 cap2 u0, aX, oB.reg, hMx.perm lpr, cW, cX, kf, (nt R), (nt M), cZ, c0, dk, dx, (nt g), (nt C), (nt p), rfl, (nt R), (nt M), X, aa⟩
    ·
     obtain rfl := oj hi
     have ae := hpre 2 (by kernel_rfl)
     have ad := hpre 1 (by kernel_rfl)
     have R := hSi
     have M := ngF hcl 4 3 R
     have g := ngF hcl 9 4 M
     have C := ngF hcl 10 9 g
     have p := ngF hcl 11 10 C
     obtain rfl := cX ad
     obtain rfl := cY ae
     obtain rfl := U
     refine hG (any_step ?_); intro A J hJ
     refine ixo hFx hMx 0 (T := tyLine) (xs := u0) u2 (by simpa only [List.length_set] using e0) (k := .i64) (e := 42) (bytes := 64) (nog rfl _) rfl (by kernel_rfl) rfl (by kernel_rfl) (by kernel_rfl) rfl (by kernel_rfl) ?_; intro hw vk oC oD
     refine nl (qnI (hJ _ _ ?_))
     exact ⟨hw, bq, br, bR, bs, bu, da, .slice ao1 u0.length cap2, i6 u2, .pointer (some ⟨hw, u2.toNat * 8, none⟩), db, du, dv, di, dc, cV, cR, cL, .own tyLine 42 ao1 cap2 u0, aX, oD.reg, hMx.perm lpr, cW, kf, kf, kf, (nt M), cZ, c0, dk, dx, (nt g), (nt C), (nt p), rfl, (fun _ => oC), (nt M), X, aa⟩
    ·
     obtain rfl := oj hi
     have R := hpre 3 (by kernel_rfl)
     have ae := hcl 3 2 (by kernel_rfl) R
     have ad := hcl 3 1 (by kernel_rfl) R
     have M := hSi
     have g := ngF hcl 9 4 M
     have C := ngF hcl 10 9 g
     have p := ngF hcl 11 10 C
     obtain rfl := cX ad
     obtain rfl := cY ae
     obtain rfl := dj R
     obtain rfl := U
     refine hG (any_step ?_); intro A J hJ
     have hx := Y R
     obtain ⟨vl, oE, oF⟩ := own_elx hMx 0 (T := tyLine) (xs := u0) rfl hx u2.toNat e1
     obtain ⟨fp, fq, rfl, oG⟩ := oE
     refine lc2 hFx 96 8 (e42F E fp fq) oF rfl ?_; intro vm oH
     refine nl (qnI (hJ _ _ ?_))
     exact ⟨bQ, fp, fq, bR, bs, bu, da, .slice ao1 u0.length cap2, i6 u2, .pointer (some ⟨bQ, u2.toNat * 8, none⟩), .agg (e42F E fp fq).toArray, du, dv, di, dc, cV, cR, cL, .own tyLine 42 ao1 cap2 u0, aX, oH.reg, hMx.perm lpr, cW, kf, kf, kf, kf, cZ, c0, dk, dx, (nt g), (nt C), (nt p), rfl, (fun _ => hx), (fun _ => oG), X, aa⟩
    ·
     obtain rfl := oj hi
     have D := hSi
     have L := ngF hcl 7 5 D
     have z := ngF hcl 8 7 L
     have g := ngF hcl 9 8 z
     have C := ngF hcl 10 9 g
     have p := ngF hcl 11 10 C
     obtain rfl := U
     refine hG (any_step ?_); intro A J hJ
     refine s1 hFx 97 (.slice ao1 u0.length cap2) ?_; intro vn oI
     refine nl (qnI (hJ _ _ ?_))
     exact ⟨bQ, bq, br, bR, bs, bu, da, ds, dt, dh, db, .slice ao1 u0.length cap2, dv, di, dc, cV, cR, cL, .own tyLine 42 ao1 cap2 u0, aX, oI.reg, hMx.perm lpr, cW, cX, cY, dj, dw, kf, c0, (nt L), (nt z), (nt g), (nt C), (nt p), rfl, Y, ab, (nt L), (nt z)⟩
    ·
     obtain rfl := oj hi
     have I := hSi
     have L := ngF hcl 7 6 I
     have z := ngF hcl 8 7 L
     have g := ngF hcl 9 8 z
     have C := ngF hcl 10 9 g
     have p := ngF hcl 11 10 C
     obtain rfl := U
     refine hG (any_step ?_); intro A J hJ
     refine s1 hFx 98 (i6 (w64 (bShr .u64 (wu64 (w64 (ak + al))) 1))) ?_; intro vo oJ
     refine nl (qnI (hJ _ _ ?_))
     exact ⟨bQ, bq, br, bR, bs, bu, da, ds, dt, dh, db, du, i6 (w64 (bShr .u64 (wu64 (w64 (ak + al))) 1)), di, dc, cV, cR, cL, .own tyLine 42 ao1 cap2 u0, aX, oJ.reg, hMx.perm lpr, cW, cX, cY, dj, dw, cZ, kf, (nt L), (nt z), (nt g), (nt C), (nt p), rfl, Y, ab, (nt L), (nt z)⟩
    ·
     obtain rfl := oj hi
     have I := hpre 6 (by kernel_rfl)
     have D := hpre 5 (by kernel_rfl)
     have L := hSi
     have z := ngF hcl 8 7 L
     have g := ngF hcl 9 8 z
     have C := ngF hcl 10 9 g
     have p := ngF hcl 11 10 C
     obtain rfl := cZ D
     obtain rfl := c0 I
     obtain rfl := U
     refine hG (any_step ?_); intro A J hJ
     refine ixo hFx hMx 0 (T := tyLine) (xs := u0) (w64 (bShr .u64 (wu64 (w64 (ak + al))) 1)) (by simpa only [List.length_set] using e2) (k := .i64) (e := 42) (bytes := 64) (nog rfl _) rfl (by kernel_rfl) rfl (by kernel_rfl) (by kernel_rfl) rfl (by kernel_rfl) ?_; intro hy vp oK oL
     refine nl (qnI (hJ _ _ ?_))
     exact ⟨bQ, bq, br, hy, bs, bu, da, ds, dt, dh, db, .slice ao1 u0.length cap2, i6 (w64 (bShr .u64 (wu64 (w64 (ak + al))) 1)), .pointer (some ⟨hy, (w64 (bShr .u64 (wu64 (w64 (ak + al))) 1)).toNat * 8, none⟩), dc, cV, cR, cL, .own tyLine 42 ao1 cap2 u0, aX, oL.reg, hMx.perm lpr, cW, cX, cY, dj, dw, kf, kf, kf, (nt z), (nt g), (nt C), (nt p), rfl, Y, ab, (fun _ => oK), (nt z)⟩
    ·
     obtain rfl := oj hi
     have L := hpre 7 (by kernel_rfl)
     have I := hcl 7 6 (by kernel_rfl) L
     have D := hcl 7 5 (by kernel_rfl) L
     have z := hSi
     have g := ngF hcl 9 8 z
     have C := ngF hcl 10 9 g
     have p := ngF hcl 11 10 C
     obtain rfl := cZ D
     obtain rfl := c0 I
     obtain rfl := dk L
     obtain rfl := U
     refine hG (any_step ?_); intro A J hJ
     have hz := X L
     obtain ⟨vq, oM, oN⟩ := own_elx hMx 0 (T := tyLine) (xs := u0) rfl hz (w64 (bShr .u64 (wu64 (w64 (ak + al))) 1)).toNat e3
     obtain ⟨fr, fs, rfl, oO⟩ := oM
     refine lc2 hFx 100 8 (e42F H fr fs) oN rfl ?_; intro vr oP
     refine nl (qnI (hJ _ _ ?_))
     exact ⟨bQ, bq, br, bR, fr, fs, da, ds, dt, dh, db, .slice ao1 u0.length cap2, i6 (w64 (bShr .u64 (wu64 (w64 (ak + al))) 1)), .pointer (some ⟨bR, (w64 (bShr .u64 (wu64 (w64 (ak + al))) 1)).toNat * 8, none⟩), .agg (e42F H fr fs).toArray, cV, cR, cL, .own tyLine 42 ao1 cap2 u0, aX, oP.reg, hMx.perm lpr, cW, cX, cY, dj, dw, kf, kf, kf, kf, (nt g), (nt C), (nt p), rfl, Y, ab, (fun _ => hz), (fun _ => oO)⟩
    ·
     obtain rfl := oj hi
     have z := hpre 8 (by kernel_rfl)
     have M := hpre 4 (by kernel_rfl)
     have af := hpre 0 (by kernel_rfl)
     have L := hcl 8 7 (by kernel_rfl) z
     have R := hcl 4 3 (by kernel_rfl) M
     have I := hcl 7 6 (by kernel_rfl) L
     have D := hcl 7 5 (by kernel_rfl) L
     have ae := hcl 3 2 (by kernel_rfl) R
     have ad := hcl 3 1 (by kernel_rfl) R
     have g := hSi
     have C := ngF hcl 10 9 g
     have p := ngF hcl 11 10 C
     obtain rfl := cW af
     obtain rfl := cX ad
     obtain rfl := cY ae
     obtain rfl := dj R
     obtain rfl := dw M
     obtain rfl := cZ D
     obtain rfl := c0 I
     obtain rfl := dk L
     obtain rfl := dx z
     obtain rfl := U
     refine hG (any_step ?_); intro A J hJ
     have c := Fz.le.trans c aX
     have oQ := Y R
     have hA := ab M
     have oR := X L
     have hB := aa z
     have oS := hf5 _ _ c hMx.fz E H bq br bs bu hA hB
     refine fcl hFx hMx (i6 (u4 E H)) fid3 (#[.agg (e42F E bq br).toArray, .agg (e42F H bs bu).toArray] ++ caps4) (nog rfl _) rfl (by kernel_rfl) ?h1 ?h2 ?_
     case h1 => exact fv_run rfl (by kernel_rfl) (by kernel_rfl) hg6
     case h2 => exact oS
     intro vs vt oT oU
     refine nl (qnI (hJ _ _ ?_))
     exact ⟨bQ, bq, br, bR, bs, bu, .func (.func fid3) #[] caps4, .slice ao1 u0.length cap2, i6 u2, .pointer (some ⟨bQ, u2.toNat * 8, none⟩), .agg (e42F E bq br).toArray, .slice ao1 u0.length cap2, i6 (w64 (bShr .u64 (wu64 (w64 (ak + al))) 1)), .pointer (some ⟨bR, (w64 (bShr .u64 (wu64 (w64 (ak + al))) 1)).toNat * 8, none⟩), .agg (e42F H bs bu).toArray, i6 (u4 E H), cR, cL, .own tyLine 42 ao1 cap2 u0, aX, oT.reg, oU.perm lpr, kf, kf, kf, kf, kf, kf, kf, kf, kf, kf, (nt C), (nt p), rfl, (fun _ => oQ), (fun _ => hA), (fun _ => oR), (fun _ => hB)⟩
    ·
     obtain rfl := oj hi
     have g := hpre 9 (by kernel_rfl)
     have z := hcl 9 8 (by kernel_rfl) g
     have M := hcl 9 4 (by kernel_rfl) g
     have af := hcl 9 0 (by kernel_rfl) g
     have L := hcl 8 7 (by kernel_rfl) z
     have R := hcl 4 3 (by kernel_rfl) M
     have I := hcl 7 6 (by kernel_rfl) L
     have D := hcl 7 5 (by kernel_rfl) L
     have ae := hcl 3 2 (by kernel_rfl) R
     have ad := hcl 3 1 (by kernel_rfl) R
     have C := hSi
     have p := ngF hcl 11 10 C
     obtain rfl := cW af
     obtain rfl := cX ad
     obtain rfl := cY ae
     obtain rfl := dj R
     obtain rfl := dw M
     obtain rfl := cZ D
     obtain rfl := c0 I
     obtain rfl := dk L
     obtain rfl := dx z
     obtain rfl := ei g
     obtain rfl := U
     refine hG (any_step ?_); intro A J hJ
     have oV := Y R
     have oW := ab M
     have oX := X L
     have oY := aa z
     refine s1 hFx 102 (.bool (decide ((u4 E H) < 0))) ?_; intro vu oZ
     refine nl (qnI (hJ _ _ ?_))
     exact ⟨bQ, bq, br, bR, bs, bu, .func (.func fid3) #[] caps4, .slice ao1 u0.length cap2, i6 u2, .pointer (some ⟨bQ, u2.toNat * 8, none⟩), .agg (e42F E bq br).toArray, .slice ao1 u0.length cap2, i6 (w64 (bShr .u64 (wu64 (w64 (ak + al))) 1)), .pointer (some ⟨bR, (w64 (bShr .u64 (wu64 (w64 (ak + al))) 1)).toNat * 8, none⟩), .agg (e42F H bs bu).toArray, i6 (u4 E H), .bool (decide ((u4 E H) < 0)), cL, .own tyLine 42 ao1 cap2 u0, aX, oZ.reg, hMx.perm lpr, kf, kf, kf, kf, kf, kf, kf, kf, kf, kf, kf, (nt p), rfl, (fun _ => oV), (fun _ => oW), (fun _ => oX), (fun _ => oY)⟩
    obtain rfl := oj hi
    have C := hpre 10 (by kernel_rfl)
    have g := hcl 10 9 (by kernel_rfl) C
    have z := hcl 9 8 (by kernel_rfl) g
    have M := hcl 9 4 (by kernel_rfl) g
    have af := hcl 9 0 (by kernel_rfl) g
    have L := hcl 8 7 (by kernel_rfl) z
    have R := hcl 4 3 (by kernel_rfl) M
    have I := hcl 7 6 (by kernel_rfl) L
    have D := hcl 7 5 (by kernel_rfl) L
    have ae := hcl 3 2 (by kernel_rfl) R
    have ad := hcl 3 1 (by kernel_rfl) R
    obtain rfl := cW af
    obtain rfl := cX ad
    obtain rfl := cY ae
    obtain rfl := dj R
    obtain rfl := dw M
    obtain rfl := cZ D
    obtain rfl := c0 I
    obtain rfl := dk L
    obtain rfl := dx z
    obtain rfl := ei g
    obtain rfl := fo C
    obtain rfl := U
    refine hG (any_step ?_); intro A J hJ
    have o0 := Y R
    have o1 := ab M
    have o2 := X L
    have o3 := aa z
    refine s1 hFx 103 (.bool (!(decide ((u4 E H) < 0)))) ?_; intro vv o4
    refine nl (qnI (hJ _ _ ?_))
    exact ⟨bQ, bq, br, bR, bs, bu, .func (.func fid3) #[] caps4, .slice ao1 u0.length cap2, i6 u2, .pointer (some ⟨bQ, u2.toNat * 8, none⟩), .agg (e42F E bq br).toArray, .slice ao1 u0.length cap2, i6 (w64 (bShr .u64 (wu64 (w64 (ak + al))) 1)), .pointer (some ⟨bR, (w64 (bShr .u64 (wu64 (w64 (ak + al))) 1)).toNat * 8, none⟩), .agg (e42F H bs bu).toArray, i6 (u4 E H), .bool (decide ((u4 E H) < 0)), .bool (!(decide ((u4 E H) < 0))), .own tyLine 42 ao1 cap2 u0, aX, o4.reg, hMx.perm lpr, kf, kf, kf, kf, kf, kf, kf, kf, kf, kf, kf, kf, rfl, (fun _ => o0), (fun _ => o1), (fun _ => o2), (fun _ => o3)⟩
   case hE =>
    intro S hS hC vw hI; refine Go.Sy.hid ?_; intro G hG; obtain ⟨bQ, bq, br, bR, bs, bu, da, ds, dt, dh, db, du, dv, di, dc, cV, cR, cL, ag, aX, hFx, hMx, cW, cX, cY, hI⟩ := hI; obtain ⟨dj, dw, cZ, c0, dk, dx, ei, fo, hv, U, Y, ab, X, hI⟩ := hI; refine hG ?_
    obtain rfl := cW (hS 0 (by decide))
    obtain rfl := cX (hS 1 (by decide))
    obtain rfl := cY (hS 2 (by decide))
    obtain rfl := dj (hS 3 (by decide))
    obtain rfl := dw (hS 4 (by decide))
    obtain rfl := cZ (hS 5 (by decide))
    obtain rfl := c0 (hS 6 (by decide))
    obtain rfl := dk (hS 7 (by decide))
    obtain rfl := dx (hS 8 (by decide))
    obtain rfl := ei (hS 9 (by decide))
    obtain rfl := fo (hS 10 (by decide))
    obtain rfl := hv (hS 11 (by decide))
    obtain rfl := U
    refine t_ (c_ hFx eh (fun _ hD => ?_) fun _ hH => ?_)
    ·
     have hF : Fr 220 [] [⟨0, [], .slice ao1 u0.length cap2⟩, ⟨2, [], i6 u2⟩, ⟨4, [], .func (.func fid3) #[] caps4⟩, ⟨15, [], i6 al⟩, ⟨16, [], i6 (w64 (bShr .u64 (wu64 (w64 (ak + al))) 1))⟩] hC := hFx.reg
     refine rgB hF hMx [] [] [(14, i6 (w64 ((w64 (bShr .u64 (wu64 (w64 (ak + al))) 1)) + 1)))] ?_; intro vB o5
     exact j_ (d_ ⟨⟨w64 ((w64 (bShr .u64 (wu64 (w64 (ak + al))) 1)) + 1), al⟩, hD.1, hD.2, (o5.reg).anyβ _ (by kernel_rfl), hMx.kp⟩)
    have hK : Fr 220 [] [⟨0, [], .slice ao1 u0.length cap2⟩, ⟨2, [], i6 u2⟩, ⟨4, [], .func (.func fid3) #[] caps4⟩, ⟨14, [], i6 ak⟩, ⟨16, [], i6 (w64 (bShr .u64 (wu64 (w64 (ak + al))) 1))⟩] hC := hFx.reg
    refine rgB hK hMx [] [] [(15, i6 (w64 (bShr .u64 (wu64 (w64 (ak + al))) 1)))] ?_; intro vC o6
    exact j_ (d_ ⟨⟨ak, w64 (bShr .u64 (wu64 (w64 (ak + al))) 1)⟩, hH.1, hH.2, (o6.reg).anyβ _ (by kernel_rfl), hMx.kp⟩)
  exact x_ (y_ (y_ (z_ (d_ (mN ak o7 _ _ ((eg.reg).anyβ _ (by kernel_rfl)) (ho.kp))))))
 refine k_ (sqB dM hM0 [] [] [(18, i6 (w64 (bShr .u64 (wu64 (w64 (u1 + u3))) 1)))] ?_); intro vD hL
 refine sqB hL hM0 [] [] [(19, i6 (w64 ((w64 (bShr .u64 (wu64 (w64 (u1 + u3))) 1)) + u2)))] ?_; intro vE hM
 refine sqB hM hM0 [] [] [] ?_; intro vF hN
 refine s_ (sqB hN hM0 [] [] [(140, .bool (decide (u2 > (w64 (bShr .u64 (wu64 (w64 (u1 + u3))) 1)))))] ?_); intro vG dO
 refine c_ dO ej (fun _ o8 => ?_) fun _ rp => ?_
 ·
  refine sqB dO hM0 [] [] [(20, i6 (w64 ((w64 ((w64 (bShr .u64 (wu64 (w64 (u1 + u3))) 1)) + u2)) - u3)))] ?_; intro vH hO
  refine rgB hO hM0 [] [] [(21, i6 (w64 (bShr .u64 (wu64 (w64 (u1 + u3))) 1)))] ?_; intro vI hP
  refine t_ (sqB hP hM0 [] [] [(22, i6 (w64 ((w64 ((w64 (bShr .u64 (wu64 (w64 (u1 + u3))) 1)) + u2)) - 1)))] ?_); intro ek hQ
  have hR : Fr 220 [] [⟨0, [], .slice ao1 u0.length cap2⟩, ⟨1, [], i6 u1⟩, ⟨2, [], i6 u2⟩, ⟨3, [], i6 u3⟩, ⟨4, [], .func (.func fid3) #[] caps4⟩, ⟨18, [], i6 (w64 (bShr .u64 (wu64 (w64 (u1 + u3))) 1))⟩, ⟨19, [], i6 (w64 ((w64 (bShr .u64 (wu64 (w64 (u1 + u3))) 1)) + u2))⟩, ⟨20, [], i6 (w64 ((w64 ((w64 (bShr .u64 (wu64 (w64 (u1 + u3))) 1)) + u2)) - u3))⟩, ⟨21, [], i6 (w64 (bShr .u64 (wu64 (w64 (u1 + u3))) 1))⟩, ⟨22, [], i6 (w64 ((w64 ((w64 (bShr .u64 (wu64 (w64 (u1 + u3))) 1)) + u2)) - 1))⟩] ek := hQ.reg
  obtain ⟨o9, pa, pb⟩ := o8
  refine wp_seq_k fun KJ982 hKJ983 => ?_
  have pc : ∀ (b : Int), o9 b → ∀ a1 w1, Fr 220 [] [⟨0, [], .slice ao1 u0.length cap2⟩, ⟨1, [], i6 u1⟩, ⟨2, [], i6 u2⟩, ⟨3, [], i6 u3⟩, ⟨4, [], .func (.func fid3) #[] caps4⟩, ⟨18, [], i6 (w64 (bShr .u64 (wu64 (w64 (u1 + u3))) 1))⟩, ⟨19, [], i6 (w64 ((w64 (bShr .u64 (wu64 (w64 (u1 + u3))) 1)) + u2))⟩, ⟨20, [], i6 b⟩] a1 → Mem B [] w0 Z0 ((.own tyLine 42 ao1 cap2 u0) :: Rr) Z w1 → KJ982 a1 w1 := by
   rintro b pd vJ vK hT cp
   refine hKJ983 _ _ ?_
   have el := pb b pd
   refine sqB hT cp [] [] [(24, i6 (w64 ((w64 ((w64 (bShr .u64 (wu64 (w64 (u1 + u3))) 1)) + u2)) - b)))] ?_; intro vL hU
   refine s_ (sqB hU cp [] [] [(185, .bool ((decide (b < u2)) && (decide (u2 < (w64 ((w64 ((w64 (bShr .u64 (wu64 (w64 (u1 + u3))) 1)) + u2)) - b))))))] ?_); intro vM dP
   refine c_ dP el (fun _ pe => ?_) fun _ ep => ?_
   ·
    refine rgH ?_; intro pf hV
    refine bt dP cp 5 [] [] [(186, .slice ao1 u0.length cap2), (187, i6 b), (188, i6 u2), (189, i6 (w64 ((w64 ((w64 (bShr .u64 (wu64 (w64 (u1 + u3))) 1)) + u2)) - b))), (190, .func (.func fid3) #[] caps4)] ?_; intro vN hW
    refine ck hW 84 #[.slice ao1 u0.length cap2, i6 b, i6 u2, i6 (w64 ((w64 ((w64 (bShr .u64 (wu64 (w64 (u1 + u3))) 1)) + u2)) - b)), .func (.func fid3) #[] caps4] ?_
    refine (srot_walk u0 b u2 (w64 ((w64 ((w64 (bShr .u64 (wu64 (w64 (u1 + u3))) 1)) + u2)) - b)) u4 ao1 cap2 fid3 caps4 _ _ _ _ _ _ (fun Z1 w1 h1 h2 => hf5 Z1 w1 (c.trans h1) h2) hg6 cp cp.fz pe).mono ?_; rintro _ pg ⟨aM, hX, rfl, hY, ph, pi, hm⟩; refine ⟨_, rfl, ?_⟩; intro pj h3; have h4 := hm
    replace c := Fz.le.trans c ph
    have h5 : Fr 220 [] [⟨0, [], .slice ao1 aM.length cap2⟩, ⟨1, [], i6 u1⟩, ⟨2, [], i6 u2⟩, ⟨3, [], i6 u3⟩, ⟨4, [], .func (.func fid3) #[] caps4⟩, ⟨18, [], i6 (w64 (bShr .u64 (wu64 (w64 (u1 + u3))) 1))⟩, ⟨19, [], i6 (w64 ((w64 (bShr .u64 (wu64 (w64 (u1 + u3))) 1)) + u2))⟩, ⟨20, [], i6 b⟩, ⟨24, [], i6 (w64 ((w64 ((w64 (bShr .u64 (wu64 (w64 (u1 + u3))) 1)) + u2)) - b))⟩, ⟨185, [], .bool ((decide (b < u2)) && (decide (u2 < (w64 ((w64 ((w64 (bShr .u64 (wu64 (w64 (u1 + u3))) 1)) + u2)) - b)))))⟩, ⟨186, [], .slice ao1 aM.length cap2⟩, ⟨187, [], i6 b⟩, ⟨188, [], i6 u2⟩, ⟨189, [], i6 (w64 ((w64 ((w64 (bShr .u64 (wu64 (w64 (u1 + u3))) 1)) + u2)) - b))⟩, ⟨190, [], .func (.func fid3) #[] caps4⟩, ⟨191, [], .tuple #[]⟩] pj := by rw [pi]; exact h3.reg
    have dd : Mem B [] w0 Z0 ((.own tyLine 42 ao1 cap2 aM) :: Rr) hX pg := h4
    have em := hY (dd.ownSmall 0 rfl)
    apply hV
    refine t_ (s_ (sqB h5 dd [] [] [(199, .bool ((decide (u1 < b)) && (decide (b < (w64 (bShr .u64 (wu64 (w64 (u1 + u3))) 1))))))] ?_)); intro vO dQ
    refine c_ dQ em (fun _ pk => ?_) fun _ eo => ?_
    ·
     refine rgH ?_; intro pl h6
     refine bt dQ dd 5 [] [] [(200, .slice ao1 aM.length cap2), (201, i6 u1), (202, i6 b), (203, i6 (w64 (bShr .u64 (wu64 (w64 (u1 + u3))) 1))), (204, .func (.func fid3) #[] caps4)] ?_; intro vP h7
     obtain ⟨pm, h8⟩ := pk
     refine ck h7 82 #[.slice ao1 aM.length cap2, i6 u1, i6 b, i6 (w64 (bShr .u64 (wu64 (w64 (u1 + u3))) 1)), .func (.func fid3) #[] caps4] ?_
     refine (ih aM u1 b (w64 (bShr .u64 (wu64 (w64 (u1 + u3))) 1)) u4 pm ao1 cap2 fid3 caps4 _ _ _ _ _ _ (fun Z1 w1 h1 h2 => hf5 Z1 w1 (c.trans h1) h2) hg6 dd dd.fz).mono ?_; rintro _ pn ⟨h9, rfl, po, pp, hm⟩; refine ⟨_, rfl, ?_⟩; intro pq ia; have ib := hm
     replace c := Fz.le.trans c po
     have ic : Fr 220 [] [⟨0, [], .slice ao1 (segC2 aM u1 b (w64 (bShr .u64 (wu64 (w64 (u1 + u3))) 1)) u4).length cap2⟩, ⟨1, [], i6 u1⟩, ⟨2, [], i6 u2⟩, ⟨3, [], i6 u3⟩, ⟨4, [], .func (.func fid3) #[] caps4⟩, ⟨18, [], i6 (w64 (bShr .u64 (wu64 (w64 (u1 + u3))) 1))⟩, ⟨19, [], i6 (w64 ((w64 (bShr .u64 (wu64 (w64 (u1 + u3))) 1)) + u2))⟩, ⟨20, [], i6 b⟩, ⟨24, [], i6 (w64 ((w64 ((w64 (bShr .u64 (wu64 (w64 (u1 + u3))) 1)) + u2)) - b))⟩, ⟨185, [], .bool ((decide (b < u2)) && (decide (u2 < (w64 ((w64 ((w64 (bShr .u64 (wu64 (w64 (u1 + u3))) 1)) + u2)) - b)))))⟩, ⟨186, [], .slice ao1 (segC2 aM u1 b (w64 (bShr .u64 (wu64 (w64 (u1 + u3))) 1)) u4).length cap2⟩, ⟨187, [], i6 b⟩, ⟨188, [], i6 u2⟩, ⟨189, [], i6 (w64 ((w64 ((w64 (bShr .u64 (wu64 (w64 (u1 + u3))) 1)) + u2)) - b))⟩, ⟨190, [], .func (.func fid3) #[] caps4⟩, ⟨191, [], .tuple #[]⟩, ⟨199, [], .bool ((decide (u1 < b)) && (decide (b < (w64 (bShr .u64 (wu64 (w64 (u1 + u3))) 1)))))⟩, ⟨200, [], .slice ao1 (segC2 aM u1 b (w64 (bShr .u64 (wu64 (w64 (u1 + u3))) 1)) u4).length cap2⟩, ⟨201, [], i6 u1⟩, ⟨202, [], i6 b⟩, ⟨203, [], i6 (w64 (bShr .u64 (wu64 (w64 (u1 + u3))) 1))⟩, ⟨204, [], .func (.func fid3) #[] caps4⟩, ⟨205, [], .tuple #[]⟩] pq := by rw [pp]; exact ia.reg
     have dE : Mem B [] w0 Z0 ((.own tyLine 42 ao1 cap2 (segC2 aM u1 b (w64 (bShr .u64 (wu64 (w64 (u1 + u3))) 1)) u4)) :: Rr) h9 pn := ib
     have en := h8 (dE.ownSmall 0 rfl)
     apply h6
     refine t_ (sqB ic dE [] [] [(213, .bool ((decide ((w64 (bShr .u64 (wu64 (w64 (u1 + u3))) 1)) < (w64 ((w64 ((w64 (bShr .u64 (wu64 (w64 (u1 + u3))) 1)) + u2)) - b)))) && (decide ((w64 ((w64 ((w64 (bShr .u64 (wu64 (w64 (u1 + u3))) 1)) + u2)) - b)) < u3))))] ?_); intro vQ dR
     refine c_ dR en (fun _ pr => ?_) fun _ pB => ?_
     ·
      refine rgH ?_; intro ps id
      refine bt dR dE 5 [] [] [(214, .slice ao1 (segC2 aM u1 b (w64 (bShr .u64 (wu64 (w64 (u1 + u3))) 1)) u4).length cap2), (215, i6 (w64 (bShr .u64 (wu64 (w64 (u1 + u3))) 1))), (216, i6 (w64 ((w64 ((w64 (bShr .u64 (wu64 (w64 (u1 + u3))) 1)) + u2)) - b))), (217, i6 u3), (218, .func (.func fid3) #[] caps4)] ?_; intro vR ie
      obtain ⟨pt, ig⟩ := pr
      refine ck ie 82 #[.slice ao1 (segC2 aM u1 b (w64 (bShr .u64 (wu64 (w64 (u1 + u3))) 1)) u4).length cap2, i6 (w64 (bShr .u64 (wu64 (w64 (u1 + u3))) 1)), i6 (w64 ((w64 ((w64 (bShr .u64 (wu64 (w64 (u1 + u3))) 1)) + u2)) - b)), i6 u3, .func (.func fid3) #[] caps4] ?_
      refine (ih (segC2 aM u1 b (w64 (bShr .u64 (wu64 (w64 (u1 + u3))) 1)) u4) (w64 (bShr .u64 (wu64 (w64 (u1 + u3))) 1)) (w64 ((w64 ((w64 (bShr .u64 (wu64 (w64 (u1 + u3))) 1)) + u2)) - b)) u3 u4 pt ao1 cap2 fid3 caps4 _ _ _ _ _ _ (fun Z1 w1 h1 h2 => hf5 Z1 w1 (c.trans h1) h2) hg6 dE dE.fz).mono ?_; rintro _ pu ⟨ii, rfl, pv, pw, hm⟩; refine ⟨_, rfl, ?_⟩; intro px ij; have ik := hm
      replace c := Fz.le.trans c pv
      have il : Fr 220 [] [⟨0, [], .slice ao1 (segC2 (segC2 aM u1 b (w64 (bShr .u64 (wu64 (w64 (u1 + u3))) 1)) u4) (w64 (bShr .u64 (wu64 (w64 (u1 + u3))) 1)) (w64 ((w64 ((w64 (bShr .u64 (wu64 (w64 (u1 + u3))) 1)) + u2)) - b)) u3 u4).length cap2⟩, ⟨1, [], i6 u1⟩, ⟨2, [], i6 u2⟩, ⟨3, [], i6 u3⟩, ⟨4, [], .func (.func fid3) #[] caps4⟩, ⟨18, [], i6 (w64 (bShr .u64 (wu64 (w64 (u1 + u3))) 1))⟩, ⟨19, [], i6 (w64 ((w64 (bShr .u64 (wu64 (w64 (u1 + u3))) 1)) + u2))⟩, ⟨20, [], i6 b⟩, ⟨24, [], i6 (w64 ((w64 ((w64 (bShr .u64 (wu64 (w64 (u1 + u3))) 1)) + u2)) - b))⟩, ⟨185, [], .bool ((decide (b < u2)) && (decide (u2 < (w64 ((w64 ((w64 (bShr .u64 (wu64 (w64 (u1 + u3))) 1)) + u2)) - b)))))⟩, ⟨186, [], .slice ao1 (segC2 (segC2 aM u1 b (w64 (bShr .u64 (wu64 (w64 (u1 + u3))) 1)) u4) (w64 (bShr .u64 (wu64 (w64 (u1 + u3))) 1)) (w64 ((w64 ((w64 (bShr .u64 (wu64 (w64 (u1 + u3))) 1)) + u2)) - b)) u3 u4).length cap2⟩, ⟨187, [], i6 b⟩, ⟨188, [], i6 u2⟩, ⟨189, [], i6 (w64 ((w64 ((w64 (bShr .u64 (wu64 (w64 (u1 + u3))) 1)) + u2)) - b))⟩, ⟨190, [], .func (.func fid3) #[] caps4⟩, ⟨191, [], .tuple #[]⟩, ⟨199, [], .bool ((decide (u1 < b)) && (decide (b < (w64 (bShr .u64 (wu64 (w64 (u1 + u3))) 1)))))⟩, ⟨200, [], .slice ao1 (segC2 (segC2 aM u1 b (w64 (bShr .u64 (wu64 (w64 (u1 + u3))) 1)) u4) (w64 (bShr .u64 (wu64 (w64 (u1 + u3))) 1)) (w64 ((w64 ((w64 (bShr .u64 (wu64 (w64 (u1 + u3))) 1)) + u2)) - b)) u3 u4).length cap2⟩, ⟨201, [], i6 u1⟩, ⟨202, [], i6 b⟩, ⟨203, [], i6 (w64 (bShr .u64 (wu64 (w64 (u1 + u3))) 1))⟩, ⟨204, [], .func (.func fid3) #[] caps4⟩, ⟨205, [], .tuple #[]⟩, ⟨213, [], .bool ((decide ((w64 (bShr .u64 (wu64 (w64 (u1 + u3))) 1)) < (w64 ((w64 ((w64 (bShr .u64 (wu64 (w64 (u1 + u3))) 1)) + u2)) - b)))) && (decide ((w64 ((w64 ((w64 (bShr .u64 (wu64 (w64 (u1 + u3))) 1)) + u2)) - b)) < u3)))⟩, ⟨214, [], .slice ao1 (segC2 (segC2 aM u1 b (w64 (bShr .u64 (wu64 (w64 (u1 + u3))) 1)) u4) (w64 (bShr .u64 (wu64 (w64 (u1 + u3))) 1)) (w64 ((w64 ((w64 (bShr .u64 (wu64 (w64 (u1 + u3))) 1)) + u2)) - b)) u3 u4).length cap2⟩, ⟨215, [], i6 (w64 (bShr .u64 (wu64 (w64 (u1 + u3))) 1))⟩, ⟨216, [], i6 (w64 ((w64 ((w64 (bShr .u64 (wu64 (w64 (u1 + u3))) 1)) + u2)) - b))⟩, ⟨217, [], i6 u3⟩, ⟨218, [], .func (.func fid3) #[] caps4⟩, ⟨219, [], .tuple #[]⟩] px := by rw [pw]; exact ij.reg
      have im : Mem B [] w0 Z0 ((.own tyLine 42 ao1 cap2 (segC2 (segC2 aM u1 b (w64 (bShr .u64 (wu64 (w64 (u1 + u3))) 1)) u4) (w64 (bShr .u64 (wu64 (w64 (u1 + u3))) 1)) (w64 ((w64 ((w64 (bShr .u64 (wu64 (w64 (u1 + u3))) 1)) + u2)) - b)) u3 u4)) :: Rr) ii pu := ik
      have py := ig (im.ownSmall 0 rfl)
      apply id
      obtain ⟨pz, pA⟩ := py
      refine rN (fn := Try.f82) (v := .tuple #[]) il (re0 il (fn := Try.f82) rfl) ?_
      exact ⟨(segC2 (segC2 aM u1 b (w64 (bShr .u64 (wu64 (w64 (u1 + u3))) 1)) u4) (w64 (bShr .u64 (wu64 (w64 (u1 + u3))) 1)) (w64 ((w64 ((w64 (bShr .u64 (wu64 (w64 (u1 + u3))) 1)) + u2)) - b)) u3 u4), ii, rfl, pA, c, pz, im.kp⟩
     apply l_
     obtain ⟨pC, pD⟩ := pB
     refine rN (fn := Try.f82) (v := .tuple #[]) dR (re0 dR (fn := Try.f82) rfl) ?_
     exact ⟨(segC2 aM u1 b (w64 (bShr .u64 (wu64 (w64 (u1 + u3))) 1)) u4), h9, rfl, pD, c, pC, dE.kp⟩
    refine k_ (sqB dQ dd [] [] [(213, .bool ((decide ((w64 (bShr .u64 (wu64 (w64 (u1 + u3))) 1)) < (w64 ((w64 ((w64 (bShr .u64 (wu64 (w64 (u1 + u3))) 1)) + u2)) - b)))) && (decide ((w64 ((w64 ((w64 (bShr .u64 (wu64 (w64 (u1 + u3))) 1)) + u2)) - b)) < u3))))] ?_); intro vS dS
    refine c_ dS eo (fun _ pE => ?_) fun _ pO => ?_
    ·
     refine rgH ?_; intro pF io
     refine bt dS dd 5 [] [] [(214, .slice ao1 aM.length cap2), (215, i6 (w64 (bShr .u64 (wu64 (w64 (u1 + u3))) 1))), (216, i6 (w64 ((w64 ((w64 (bShr .u64 (wu64 (w64 (u1 + u3))) 1)) + u2)) - b))), (217, i6 u3), (218, .func (.func fid3) #[] caps4)] ?_; intro vT ip
     obtain ⟨pG, iq⟩ := pE
     refine ck ip 82 #[.slice ao1 aM.length cap2, i6 (w64 (bShr .u64 (wu64 (w64 (u1 + u3))) 1)), i6 (w64 ((w64 ((w64 (bShr .u64 (wu64 (w64 (u1 + u3))) 1)) + u2)) - b)), i6 u3, .func (.func fid3) #[] caps4] ?_
     refine (ih aM (w64 (bShr .u64 (wu64 (w64 (u1 + u3))) 1)) (w64 ((w64 ((w64 (bShr .u64 (wu64 (w64 (u1 + u3))) 1)) + u2)) - b)) u3 u4 pG ao1 cap2 fid3 caps4 _ _ _ _ _ _ (fun Z1 w1 h1 h2 => hf5 Z1 w1 (c.trans h1) h2) hg6 dd dd.fz).mono ?_; rintro _ pH ⟨ir, rfl, pI, pJ, hm⟩; refine ⟨_, rfl, ?_⟩; intro pK it; have iu := hm
     replace c := Fz.le.trans c pI
     have iv : Fr 220 [] [⟨0, [], .slice ao1 (segC2 aM (w64 (bShr .u64 (wu64 (w64 (u1 + u3))) 1)) (w64 ((w64 ((w64 (bShr .u64 (wu64 (w64 (u1 + u3))) 1)) + u2)) - b)) u3 u4).length cap2⟩, ⟨1, [], i6 u1⟩, ⟨2, [], i6 u2⟩, ⟨3, [], i6 u3⟩, ⟨4, [], .func (.func fid3) #[] caps4⟩, ⟨18, [], i6 (w64 (bShr .u64 (wu64 (w64 (u1 + u3))) 1))⟩, ⟨19, [], i6 (w64 ((w64 (bShr .u64 (wu64 (w64 (u1 + u3))) 1)) + u2))⟩, ⟨20, [], i6 b⟩, ⟨24, [], i6 (w64 ((w64 ((w64 (bShr .u64 (wu64 (w64 (u1 + u3))) 1)) + u2)) - b))⟩, ⟨185, [], .bool ((decide (b < u2)) && (decide (u2 < (w64 ((w64 ((w64 (bShr .u64 (wu64 (w64 (u1 + u3))) 1)) + u2)) - b)))))⟩, ⟨186, [], .slice ao1 (segC2 aM (w64 (bShr .u64 (wu64 (w64 (u1 + u3))) 1)) (w64 ((w64 ((w64 (bShr .u64 (wu64 (w64 (u1 + u3))) 1)) + u2)) - b)) u3 u4).length cap2⟩, ⟨187, [], i6 b⟩, ⟨188, [], i6 u2⟩, ⟨189, [], i6 (w64 ((w64 ((w64 (bShr .u64 (wu64 (w64 (u1 + u3))) 1)) + u2)) - b))⟩, ⟨190, [], .func (.func fid3) #[] caps4⟩, ⟨191, [], .tuple #[]⟩, ⟨199, [], .bool ((decide (u1 < b)) && (decide (b < (w64 (bShr .u64 (wu64 (w64 (u1 + u3))) 1)))))⟩, ⟨213, [], .bool ((decide ((w64 (bShr .u64 (wu64 (w64 (u1 + u3))) 1)) < (w64 ((w64 ((w64 (bShr .u64 (wu64 (w64 (u1 + u3))) 1)) + u2)) - b)))) && (decide ((w64 ((w64 ((w64 (bShr .u64 (wu64 (w64 (u1 + u3))) 1)) + u2)) - b)) < u3)))⟩, ⟨214, [], .slice ao1 (segC2 aM (w64 (bShr .u64 (wu64 (w64 (u1 + u3))) 1)) (w64 ((w64 ((w64 (bShr .u64 (wu64 (w64 (u1 + u3))) 1)) + u2)) - b)) u3 u4).length cap2⟩, ⟨215, [], i6 (w64 (bShr .u64 (wu64 (w64 (u1 + u3))) 1))⟩, ⟨216, [], i6 (w64 ((w64 ((w64 (bShr .u64 (wu64 (w64 (u1 + u3))) 1)) + u2)) - b))⟩, ⟨217, [], i6 u3⟩, ⟨218, [], .func (.func fid3) #[] caps4⟩, ⟨219, [], .tuple #[]⟩] pK := by rw [pJ]; exact it.reg
     have iw : Mem B [] w0 Z0 ((.own tyLine 42 ao1 cap2 (segC2 aM (w64 (bShr .u64 (wu64 (w64 (u1 + u3))) 1)) (w64 ((w64 ((w64 (bShr .u64 (wu64 (w64 (u1 + u3))) 1)) + u2)) - b)) u3 u4)) :: Rr) ir pH := iu
     have pL := iq (iw.ownSmall 0 rfl)
     apply io
     obtain ⟨pM, pN⟩ := pL
     refine rN (fn := Try.f82) (v := .tuple #[]) iv (re0 iv (fn := Try.f82) rfl) ?_
     exact ⟨(segC2 aM (w64 (bShr .u64 (wu64 (w64 (u1 + u3))) 1)) (w64 ((w64 ((w64 (bShr .u64 (wu64 (w64 (u1 + u3))) 1)) + u2)) - b)) u3 u4), ir, rfl, pN, c, pM, iw.kp⟩
    apply l_
    obtain ⟨pP, pQ⟩ := pO
    refine rN (fn := Try.f82) (v := .tuple #[]) dS (re0 dS (fn := Try.f82) rfl) ?_
    exact ⟨aM, hX, rfl, pQ, c, pP, dd.kp⟩
   refine k_ (s_ (sqB dP cp [] [] [(199, .bool ((decide (u1 < b)) && (decide (b < (w64 (bShr .u64 (wu64 (w64 (u1 + u3))) 1))))))] ?_)); intro vU dT
   refine c_ dT ep (fun _ pR => ?_) fun _ er => ?_
   ·
    refine rgH ?_; intro pS ix
    refine bt dT cp 5 [] [] [(200, .slice ao1 u0.length cap2), (201, i6 u1), (202, i6 b), (203, i6 (w64 (bShr .u64 (wu64 (w64 (u1 + u3))) 1))), (204, .func (.func fid3) #[] caps4)] ?_; intro vV iy
    obtain ⟨pT, iz⟩ := pR
    refine ck iy 82 #[.slice ao1 u0.length cap2, i6 u1, i6 b, i6 (w64 (bShr .u64 (wu64 (w64 (u1 + u3))) 1)), .func (.func fid3) #[] caps4] ?_
    refine (ih u0 u1 b (w64 (bShr .u64 (wu64 (w64 (u1 + u3))) 1)) u4 pT ao1 cap2 fid3 caps4 _ _ _ _ _ _ (fun Z1 w1 h1 h2 => hf5 Z1 w1 (c.trans h1) h2) hg6 cp cp.fz).mono ?_; rintro _ pU ⟨iA, rfl, pV, pW, hm⟩; refine ⟨_, rfl, ?_⟩; intro pX iB; have iC := hm
    replace c := Fz.le.trans c pV
    have iD : Fr 220 [] [⟨0, [], .slice ao1 (segC2 u0 u1 b (w64 (bShr .u64 (wu64 (w64 (u1 + u3))) 1)) u4).length cap2⟩, ⟨1, [], i6 u1⟩, ⟨2, [], i6 u2⟩, ⟨3, [], i6 u3⟩, ⟨4, [], .func (.func fid3) #[] caps4⟩, ⟨18, [], i6 (w64 (bShr .u64 (wu64 (w64 (u1 + u3))) 1))⟩, ⟨19, [], i6 (w64 ((w64 (bShr .u64 (wu64 (w64 (u1 + u3))) 1)) + u2))⟩, ⟨20, [], i6 b⟩, ⟨24, [], i6 (w64 ((w64 ((w64 (bShr .u64 (wu64 (w64 (u1 + u3))) 1)) + u2)) - b))⟩, ⟨185, [], .bool ((decide (b < u2)) && (decide (u2 < (w64 ((w64 ((w64 (bShr .u64 (wu64 (w64 (u1 + u3))) 1)) + u2)) - b)))))⟩, ⟨199, [], .bool ((decide (u1 < b)) && (decide (b < (w64 (bShr .u64 (wu64 (w64 (u1 + u3))) 1)))))⟩, ⟨200, [], .slice ao1 (segC2 u0 u1 b (w64 (bShr .u64 (wu64 (w64 (u1 + u3))) 1)) u4).length cap2⟩, ⟨201, [], i6 u1⟩, ⟨202, [], i6 b⟩, ⟨203, [], i6 (w64 (bShr .u64 (wu64 (w64 (u1 + u3))) 1))⟩, ⟨204, [], .func (.func fid3) #[] caps4⟩, ⟨205, [], .tuple #[]⟩] pX := by rw [pW]; exact iB.reg
    have dF : Mem B [] w0 Z0 ((.own tyLine 42 ao1 cap2 (segC2 u0 u1 b (w64 (bShr .u64 (wu64 (w64 (u1 + u3))) 1)) u4)) :: Rr) iA pU := iC
    have eq := iz (dF.ownSmall 0 rfl)
    apply ix
    refine t_ (sqB iD dF [] [] [(213, .bool ((decide ((w64 (bShr .u64 (wu64 (w64 (u1 + u3))) 1)) < (w64 ((w64 ((w64 (bShr .u64 (wu64 (w64 (u1 + u3))) 1)) + u2)) - b)))) && (decide ((w64 ((w64 ((w64 (bShr .u64 (wu64 (w64 (u1 + u3))) 1)) + u2)) - b)) < u3))))] ?_); intro vW dU
    refine c_ dU eq (fun _ pY => ?_) fun _ p8 => ?_
    ·
     refine rgH ?_; intro pZ iE
     refine bt dU dF 5 [] [] [(214, .slice ao1 (segC2 u0 u1 b (w64 (bShr .u64 (wu64 (w64 (u1 + u3))) 1)) u4).length cap2), (215, i6 (w64 (bShr .u64 (wu64 (w64 (u1 + u3))) 1))), (216, i6 (w64 ((w64 ((w64 (bShr .u64 (wu64 (w64 (u1 + u3))) 1)) + u2)) - b))), (217, i6 u3), (218, .func (.func fid3) #[] caps4)] ?_; intro vX iF
     obtain ⟨p0, iG⟩ := pY
     refine ck iF 82 #[.slice ao1 (segC2 u0 u1 b (w64 (bShr .u64 (wu64 (w64 (u1 + u3))) 1)) u4).length cap2, i6 (w64 (bShr .u64 (wu64 (w64 (u1 + u3))) 1)), i6 (w64 ((w64 ((w64 (bShr .u64 (wu64 (w64 (u1 + u3))) 1)) + u2)) - b)), i6 u3, .func (.func fid3) #[] caps4] ?_
     refine (ih (segC2 u0 u1 b (w64 (bShr .u64 (wu64 (w64 (u1 + u3))) 1)) u4) (w64 (bShr .u64 (wu64 (w64 (u1 + u3))) 1)) (w64 ((w64 ((w64 (bShr .u64 (wu64 (w64 (u1 + u3))) 1)) + u2)) - b)) u3 u4 p0 ao1 cap2 fid3 caps4 _ _ _ _ _ _ (fun Z1 w1 h1 h2 => hf5 Z1 w1 (c.trans h1) h2) hg6 dF dF.fz).mono ?_; rintro _ p1 ⟨iH, rfl, p2, p3, hm⟩; refine ⟨_, rfl, ?_⟩; intro p4 iI; have iJ := hm
     replace c := Fz.le.trans c p2
     have iK : Fr 220 [] [⟨0, [], .slice ao1 (segC2 (segC2 u0 u1 b (w64 (bShr .u64 (wu64 (w64 (u1 + u3))) 1)) u4) (w64 (bShr .u64 (wu64 (w64 (u1 + u3))) 1)) (w64 ((w64 ((w64 (bShr .u64 (wu64 (w64 (u1 + u3))) 1)) + u2)) - b)) u3 u4).length cap2⟩, ⟨1, [], i6 u1⟩, ⟨2, [], i6 u2⟩, ⟨3, [], i6 u3⟩, ⟨4, [], .func (.func fid3) #[] caps4⟩, ⟨18, [], i6 (w64 (bShr .u64 (wu64 (w64 (u1 + u3))) 1))⟩, ⟨19, [], i6 (w64 ((w64 (bShr .u64 (wu64 (w64 (u1 + u3))) 1)) + u2))⟩, ⟨20, [], i6 b⟩, ⟨24, [], i6 (w64 ((w64 ((w64 (bShr .u64 (wu64 (w64 (u1 + u3))) 1)) + u2)) - b))⟩, ⟨185, [], .bool ((decide (b < u2)) && (decide (u2 < (w64 ((w64 ((w64 (bShr .u64 (wu64 (w64 (u1 + u3))) 1)) + u2)) - b)))))⟩, ⟨199, [], .bool ((decide (u1 < b)) && (decide (b < (w64 (bShr .u64 (wu64 (w64 (u1 + u3))) 1)))))⟩, ⟨200, [], .slice ao1 (segC2 (segC2 u0 u1 b (w64 (bShr .u64 (wu64 (w64 (u1 + u3))) 1)) u4) (w64 (bShr .u64 (wu64 (w64 (u1 + u3))) 1)) (w64 ((w64 ((w64 (bShr .u64 (wu64 (w64 (u1 + u3))) 1)) + u2)) - b)) u3 u4).length cap2⟩, ⟨201, [], i6 u1⟩, ⟨202, [], i6 b⟩, ⟨203, [], i6 (w64 (bShr .u64 (wu64 (w64 (u1 + u3))) 1))⟩, ⟨204, [], .func (.func fid3) #[] caps4⟩, ⟨205, [], .tuple #[]⟩, ⟨213, [], .bool ((decide ((w64 (bShr .u64 (wu64 (w64 (u1 + u3))) 1)) < (w64 ((w64 ((w64 (bShr .u64 (wu64 (w64 (u1 + u3))) 1)) + u2)) - b)))) && (decide ((w64 ((w64 ((w64 (bShr .u64 (wu64 (w64 (u1 + u3))) 1)) + u2)) - b)) < u3)))⟩, ⟨214, [], .slice ao1 (segC2 (segC2 u0 u1 b (w64 (bShr .u64 (wu64 (w64 (u1 + u3))) 1)) u4) (w64 (bShr .u64 (wu64 (w64 (u1 + u3))) 1)) (w64 ((w64 ((w64 (bShr .u64 (wu64 (w64 (u1 + u3))) 1)) + u2)) - b)) u3 u4).length cap2⟩, ⟨215, [], i6 (w64 (bShr .u64 (wu64 (w64 (u1 + u3))) 1))⟩, ⟨216, [], i6 (w64 ((w64 ((w64 (bShr .u64 (wu64 (w64 (u1 + u3))) 1)) + u2)) - b))⟩, ⟨217, [], i6 u3⟩, ⟨218, [], .func (.func fid3) #[] caps4⟩, ⟨219, [], .tuple #[]⟩] p4 := by rw [p3]; exact iI.reg
     have iL : Mem B [] w0 Z0 ((.own tyLine 42 ao1 cap2 (segC2 (segC2 u0 u1 b (w64 (bShr .u64 (wu64 (w64 (u1 + u3))) 1)) u4) (w64 (bShr .u64 (wu64 (w64 (u1 + u3))) 1)) (w64 ((w64 ((w64 (bShr .u64 (wu64 (w64 (u1 + u3))) 1)) + u2)) - b)) u3 u4)) :: Rr) iH p1 := iJ
     have p5 := iG (iL.ownSmall 0 rfl)
     apply iE
     obtain ⟨p6, p7⟩ := p5
     refine rN (fn := Try.f82) (v := .tuple #[]) iK (re0 iK (fn := Try.f82) rfl) ?_
     exact ⟨(segC2 (segC2 u0 u1 b (w64 (bShr .u64 (wu64 (w64 (u1 + u3))) 1)) u4) (w64 (bShr .u64 (wu64 (w64 (u1 + u3))) 1)) (w64 ((w64 ((w64 (bShr .u64 (wu64 (w64 (u1 + u3))) 1)) + u2)) - b)) u3 u4), iH, rfl, p7, c, p6, iL.kp⟩
    apply l_
    obtain ⟨p9, qa⟩ := p8
    refine rN (fn := Try.f82) (v := .tuple #[]) dU (re0 dU (fn := Try.f82) rfl) ?_
    exact ⟨(segC2 u0 u1 b (w64 (bShr .u64 (wu64 (w64 (u1 + u3))) 1)) u4), iA, rfl, qa, c, p9, dF.kp⟩
   refine k_ (sqB dT cp [] [] [(213, .bool ((decide ((w64 (bShr .u64 (wu64 (w64 (u1 + u3))) 1)) < (w64 ((w64 ((w64 (bShr .u64 (wu64 (w64 (u1 + u3))) 1)) + u2)) - b)))) && (decide ((w64 ((w64 ((w64 (bShr .u64 (wu64 (w64 (u1 + u3))) 1)) + u2)) - b)) < u3))))] ?_); intro vY dV
   refine c_ dV er (fun _ qb => ?_) fun _ ql => ?_
   ·
    refine rgH ?_; intro qc iM
    refine bt dV cp 5 [] [] [(214, .slice ao1 u0.length cap2), (215, i6 (w64 (bShr .u64 (wu64 (w64 (u1 + u3))) 1))), (216, i6 (w64 ((w64 ((w64 (bShr .u64 (wu64 (w64 (u1 + u3))) 1)) + u2)) - b))), (217, i6 u3), (218, .func (.func fid3) #[] caps4)] ?_; intro vZ iN
    obtain ⟨qd, iO⟩ := qb
    refine ck iN 82 #[.slice ao1 u0.length cap2, i6 (w64 (bShr .u64 (wu64 (w64 (u1 + u3))) 1)), i6 (w64 ((w64 ((w64 (bShr .u64 (wu64 (w64 (u1 + u3))) 1)) + u2)) - b)), i6 u3, .func (.func fid3) #[] caps4] ?_
    refine (ih u0 (w64 (bShr .u64 (wu64 (w64 (u1 + u3))) 1)) (w64 ((w64 ((w64 (bShr .u64 (wu64 (w64 (u1 + u3))) 1)) + u2)) - b)) u3 u4 qd ao1 cap2 fid3 caps4 _ _ _ _ _ _ (fun Z1 w1 h1 h2 => hf5 Z1 w1 (c.trans h1) h2) hg6 cp cp.fz).mono ?_; rintro _ qe ⟨iP, rfl, qf, qg, hm⟩; refine ⟨_, rfl, ?_⟩; intro qh iQ; have iR := hm
    replace c := Fz.le.trans c qf
    have iS : Fr 220 [] [⟨0, [], .slice ao1 (segC2 u0 (w64 (bShr .u64 (wu64 (w64 (u1 + u3))) 1)) (w64 ((w64 ((w64 (bShr .u64 (wu64 (w64 (u1 + u3))) 1)) + u2)) - b)) u3 u4).length cap2⟩, ⟨1, [], i6 u1⟩, ⟨2, [], i6 u2⟩, ⟨3, [], i6 u3⟩, ⟨4, [], .func (.func fid3) #[] caps4⟩, ⟨18, [], i6 (w64 (bShr .u64 (wu64 (w64 (u1 + u3))) 1))⟩, ⟨19, [], i6 (w64 ((w64 (bShr .u64 (wu64 (w64 (u1 + u3))) 1)) + u2))⟩, ⟨20, [], i6 b⟩, ⟨24, [], i6 (w64 ((w64 ((w64 (bShr .u64 (wu64 (w64 (u1 + u3))) 1)) + u2)) - b))⟩, ⟨185, [], .bool ((decide (b < u2)) && (decide (u2 < (w64 ((w64 ((w64 (bShr .u64 (wu64 (w64 (u1 + u3))) 1)) + u2)) - b)))))⟩, ⟨199, [], .bool ((decide (u1 < b)) && (decide (b < (w64 (bShr .u64 (wu64 (w64 (u1 + u3))) 1)))))⟩, ⟨213, [], .bool ((decide ((w64 (bShr .u64 (wu64 (w64 (u1 + u3))) 1)) < (w64 ((w64 ((w64 (bShr .u64 (wu64 (w64 (u1 + u3))) 1)) + u2)) - b)))) && (decide ((w64 ((w64 ((w64 (bShr .u64 (wu64 (w64 (u1 + u3))) 1)) + u2)) - b)) < u3)))⟩, ⟨214, [], .slice ao1 (segC2 u0 (w64 (bShr .u64 (wu64 (w64 (u1 + u3))) 1)) (w64 ((w64 ((w64 (bShr .u64 (wu64 (w64 (u1 + u3))) 1)) + u2)) - b)) u3 u4).length cap2⟩, ⟨215, [], i6 (w64 (bShr .u64 (wu64 (w64 (u1 + u3))) 1))⟩, ⟨216, [], i6 (w64 ((w64 ((w64 (bShr .u64 (wu64 (w64 (u1 + u3))) 1)) + u2)) - b))⟩, ⟨217, [], i6 u3⟩, ⟨218, [], .func (.func fid3) #[] caps4⟩, ⟨219, [], .tuple #[]⟩] qh := by rw [qg]; exact iQ.reg
    have iT : Mem B [] w0 Z0 ((.own tyLine 42 ao1 cap2 (segC2 u0 (w64 (bShr .u64 (wu64 (w64 (u1 + u3))) 1)) (w64 ((w64 ((w64 (bShr .u64 (wu64 (w64 (u1 + u3))) 1)) + u2)) - b)) u3 u4)) :: Rr) iP qe := iR
    have qi := iO (iT.ownSmall 0 rfl)
    apply iM
    obtain ⟨qj, qk⟩ := qi
    refine rN (fn := Try.f82) (v := .tuple #[]) iS (re0 iS (fn := Try.f82) rfl) ?_
    exact ⟨(segC2 u0 (w64 (bShr .u64 (wu64 (w64 (u1 + u3))) 1)) (w64 ((w64 ((w64 (bShr .u64 (wu64 (w64 (u1 + u3))) 1)) + u2)) - b)) u3 u4), iP, rfl, qk, c, qj, iT.kp⟩
   apply l_
   obtain ⟨qm, qn⟩ := ql
   refine rN (fn := Try.f82) (v := .tuple #[]) dV (re0 dV (fn := Try.f82) rfl) ?_
   exact ⟨u0, Z, rfl, qn, c, qm, cp.kp⟩
  apply b_
  have iU : Fr 220 [] [⟨0, [], .slice ao1 u0.length cap2⟩, ⟨1, [], i6 u1⟩, ⟨2, [], i6 u2⟩, ⟨3, [], i6 u3⟩, ⟨4, [], .func (.func fid3) #[] caps4⟩, ⟨18, [], i6 (w64 (bShr .u64 (wu64 (w64 (u1 + u3))) 1))⟩, ⟨19, [], i6 (w64 ((w64 (bShr .u64 (wu64 (w64 (u1 + u3))) 1)) + u2))⟩, ⟨20, [], i6 (w64 ((w64 ((w64 (bShr .u64 (wu64 (w64 (u1 + u3))) 1)) + u2)) - u3))⟩, ⟨21, [], i6 (w64 (bShr .u64 (wu64 (w64 (u1 + u3))) 1))⟩, ⟨22, [], i6 (w64 ((w64 ((w64 (bShr .u64 (wu64 (w64 (u1 + u3))) 1)) + u2)) - 1))⟩] ek := hR.reg
  obtain ⟨qo, qp, qq, qr⟩ := pa
  refine lp (ι := Int × Int) (fun s => [⟨0, [], .slice ao1 u0.length cap2⟩, ⟨1, [], i6 u1⟩, ⟨2, [], i6 u2⟩, ⟨3, [], i6 u3⟩, ⟨4, [], .func (.func fid3) #[] caps4⟩, ⟨18, [], i6 (w64 (bShr .u64 (wu64 (w64 (u1 + u3))) 1))⟩, ⟨19, [], i6 (w64 ((w64 (bShr .u64 (wu64 (w64 (u1 + u3))) 1)) + u2))⟩, ⟨20, [], i6 s.1⟩, ⟨21, [], i6 s.2⟩, ⟨22, [], i6 (w64 ((w64 ((w64 (bShr .u64 (wu64 (w64 (u1 + u3))) 1)) + u2)) - 1))⟩]) (fun s => ((.own tyLine 42 ao1 cap2 u0) :: Rr)) (fun s => Z) (fun s => qo s.1 s.2) (fun s => qp s.1 s.2) ⟨w64 ((w64 ((w64 (bShr .u64 (wu64 (w64 (u1 + u3))) 1)) + u2)) - u3), w64 (bShr .u64 (wu64 (w64 (u1 + u3))) 1)⟩ qq (by exact iU.reg) (by exact hM0) ?_
  rintro ⟨O, P⟩ qs qt qu iW iX
  have et := qr O P qs
  refine s_ (sqB iW iX [] [] [(151, .bool (decide (O < P)))] ?_); intro v0 eu
  refine c_ eu et (fun _ qv => ?_) fun _ ro => ?_
  ·
   refine k_ (b_ (sqB eu iX [] [] [(23, i6 (w64 (bShr .u64 (wu64 (w64 (O + P))) 1)))] ?_)); intro cM iZ
   have qw : Fr 220 [] [⟨0, [], .slice ao1 u0.length cap2⟩, ⟨1, [], i6 u1⟩, ⟨2, [], i6 u2⟩, ⟨3, [], i6 u3⟩, ⟨4, [], .func (.func fid3) #[] caps4⟩, ⟨18, [], i6 (w64 (bShr .u64 (wu64 (w64 (u1 + u3))) 1))⟩, ⟨19, [], i6 (w64 ((w64 (bShr .u64 (wu64 (w64 (u1 + u3))) 1)) + u2))⟩, ⟨20, [], i6 O⟩, ⟨21, [], i6 P⟩, ⟨22, [], i6 (w64 ((w64 ((w64 (bShr .u64 (wu64 (w64 (u1 + u3))) 1)) + u2)) - 1))⟩, ⟨23, [], i6 (w64 (bShr .u64 (wu64 (w64 (O + P))) 1))⟩] cM := iZ.reg
   obtain ⟨fF, i0⟩ := qv
   obtain ⟨q, fG, qx⟩ := gxq i0 (by omega)
   obtain ⟨fH, i1⟩ := qx
   obtain ⟨y, fI, ev⟩ := gxq i1 (by omega)
   refine wp_seq (any_invE mixed [[], [], [], [], [2, 3], [1, 4], [5], [], [], [7, 8], [9], [0, 6, 10], [11], [12]] 14 (fun S a w1 => ∃ (bl : Nat) (bb : Option Addr) (bc : Nat) (bm : Nat) (bd : Option Addr) (be : Nat) (aN : Value) (aY : Value) (a8 : Value) (a9 : Value) (aZ : Value) (aT : Value) (aO : Value) (a2 : Value) (a3 : Value) (aU : Value) (aP : Value) (ap : Value) (am : Value) (aj : Value) (ag : Res), Fz.le Z Z ∧ Fr 220 [] [⟨0, [], .slice ao1 u0.length cap2⟩, ⟨1, [], i6 u1⟩, ⟨2, [], i6 u2⟩, ⟨3, [], i6 u3⟩, ⟨4, [], .func (.func fid3) #[] caps4⟩, ⟨18, [], i6 (w64 (bShr .u64 (wu64 (w64 (u1 + u3))) 1))⟩, ⟨19, [], i6 (w64 ((w64 (bShr .u64 (wu64 (w64 (u1 + u3))) 1)) + u2))⟩, ⟨20, [], i6 O⟩, ⟨21, [], i6 P⟩, ⟨22, [], i6 (w64 ((w64 ((w64 (bShr .u64 (wu64 (w64 (u1 + u3))) 1)) + u2)) - 1))⟩, ⟨23, [], i6 (w64 (bShr .u64 (wu64 (w64 (O + P))) 1))⟩, ⟨158, [], aN⟩, ⟨159, [], aY⟩, ⟨160, [], a8⟩, ⟨161, [], a9⟩, ⟨162, [], aZ⟩, ⟨163, [], aT⟩, ⟨164, [], aO⟩, ⟨165, [], a2⟩, ⟨166, [], a3⟩, ⟨167, [], aU⟩, ⟨168, [], aP⟩, ⟨169, [], ap⟩, ⟨170, [], am⟩, ⟨171, [], aj⟩] a ∧ Mem B [] w0 Z0 (ag :: Rr) Z w1 ∧ (S 0 = true → aN = .func (.func fid3) #[] caps4) ∧ (S 1 = true → aY = .slice ao1 u0.length cap2) ∧ (S 2 = true → a8 = i6 (w64 ((w64 ((w64 (bShr .u64 (wu64 (w64 (u1 + u3))) 1)) + u2)) - 1))) ∧ (S 3 = true → a9 = i6 (w64 (bShr .u64 (wu64 (w64 (O + P))) 1))) ∧ (S 4 = true → aZ = i6 (w64 ((w64 ((w64 ((w64 (bShr .u64 (wu64 (w64 (u1 + u3))) 1)) + u2)) - 1)) - (w64 (bShr .u64 (wu64 (w64 (O + P))) 1))))) ∧ (S 5 = true → aT = .pointer (some ⟨bl, (w64 ((w64 ((w64 ((w64 (bShr .u64 (wu64 (w64 (u1 + u3))) 1)) + u2)) - 1)) - (w64 (bShr .u64 (wu64 (w64 (O + P))) 1)))).toNat * 8, none⟩)) ∧ (S 6 = true → aO = .agg (e42F q bb bc).toArray) ∧ (S 7 = true → a2 = .slice ao1 u0.length cap2) ∧ (S 8 = true → a3 = i6 (w64 (bShr .u64 (wu64 (w64 (O + P))) 1))) ∧ (S 9 = true → aU = .pointer (some ⟨bm, (w64 (bShr .u64 (wu64 (w64 (O + P))) 1)).toNat * 8, none⟩)) ∧ (S 10 = true → aP = .agg (e42F y bd be).toArray) ∧ (S 11 = true → ap = i6 (u4 q y)) ∧ (S 12 = true → am = .bool (decide ((u4 q y) < 0))) ∧ (S 13 = true → aj = .bool (!(decide ((u4 q y) < 0)))) ∧ (ag = .own tyLine 42 ao1 cap2 u0) ∧ (S 5 = true → ao1 = some ⟨bl, 0, none⟩) ∧ (S 6 = true → SlR t8 Z bb bc q.F.Data) ∧ (S 9 = true → ao1 = some ⟨bm, 0, none⟩) ∧ (S 10 = true → SlR t8 Z bd be y.F.Data)) ?h0 ?hs ?hE)
   case h0 =>
    have qy := qw.any 158
    have qz := qy.any 159
    have qA := qz.any 160
    have qB := qA.any 161
    have qC := qB.any 162
    have qD := qC.any 163
    have qE := qD.any 164
    have qF := qE.any 165
    have qG := qF.any 166
    have qH := qG.any 167
    have qI := qH.any 168
    have qJ := qI.any 169
    have qK := qJ.any 170
    have qL := qK.any 171
    have qM := (iX.perm lpr).drew
    exact ⟨0, none, 0, 0, none, 0, cM.tmps.getD 158 undef, cM.tmps.getD 159 undef, cM.tmps.getD 160 undef, cM.tmps.getD 161 undef, cM.tmps.getD 162 undef, cM.tmps.getD 163 undef, cM.tmps.getD 164 undef, cM.tmps.getD 165 undef, cM.tmps.getD 166 undef, cM.tmps.getD 167 undef, cM.tmps.getD 168 undef, cM.tmps.getD 169 undef, cM.tmps.getD 170 undef, cM.tmps.getD 171 undef, .own tyLine 42 ao1 cap2 u0, Fz.le.refl _, qL.reg, qM, ff, ff, ff, ff, ff, ff, ff, ff, ff, ff, ff, ff, ff, ff, rfl, ff, ff, ff, ff⟩
   case hs =>
    intro S hcl i o hil hi hSi hpre a w1 hI; refine Go.Sy.hid ?_; intro G hG; obtain ⟨bl, bb, bc, bm, bd, be, aN, aY, a8, a9, aZ, aT, aO, a2, a3, aU, aP, ap, am, aj, ag, aG, hFx, hMx, aq, hI⟩ := hI; obtain ⟨ar, au, av, aV, ba, bn, aw, ax, aW, a4, dA, dG, dW, U, Y, ab, X, hI⟩ := hI; have aa := hI
    have hcase : i = 0 ∨ i = 1 ∨ i = 2 ∨ i = 3 ∨ i = 4 ∨ i = 5 ∨ i = 6 ∨ i = 7 ∨ i = 8 ∨ i = 9 ∨ i = 10 ∨ i = 11 ∨ i = 12 ∨ i = 13 := by clear hi; omega
    rcases hcase with rfl | rfl | rfl | rfl | rfl | rfl | rfl | rfl | rfl | rfl | rfl | rfl | rfl | rfl
    ·
     obtain rfl := oj hi
     have af := hSi
     have p := ngF hcl 11 0 af
     have n := ngF hcl 12 11 p
     have N := ngF hcl 13 12 n
     obtain rfl := U
     refine hG (any_step ?_); intro A J hJ
     refine s1 hFx 158 (.func (.func fid3) #[] caps4) ?_; intro v1 qN
     refine nl (qnI (hJ _ _ ?_))
     exact ⟨bl, bb, bc, bm, bd, be, .func (.func fid3) #[] caps4, aY, a8, a9, aZ, aT, aO, a2, a3, aU, aP, ap, am, aj, .own tyLine 42 ao1 cap2 u0, aG, qN.reg, hMx.perm lpr, kf, ar, au, av, aV, ba, bn, aw, ax, aW, a4, (nt p), (nt n), (nt N), rfl, Y, ab, X, aa⟩
    ·
     obtain rfl := oj hi
     have ad := hSi
     have D := ngF hcl 5 1 ad
     have I := ngF hcl 6 5 D
     have p := ngF hcl 11 6 I
     have n := ngF hcl 12 11 p
     have N := ngF hcl 13 12 n
     obtain rfl := U
     refine hG (any_step ?_); intro A J hJ
     refine s1 hFx 159 (.slice ao1 u0.length cap2) ?_; intro v2 qO
     refine nl (qnI (hJ _ _ ?_))
     exact ⟨bl, bb, bc, bm, bd, be, aN, .slice ao1 u0.length cap2, a8, a9, aZ, aT, aO, a2, a3, aU, aP, ap, am, aj, .own tyLine 42 ao1 cap2 u0, aG, qO.reg, hMx.perm lpr, aq, kf, au, av, aV, (nt D), (nt I), aw, ax, aW, a4, (nt p), (nt n), (nt N), rfl, (nt D), (nt I), X, aa⟩
    ·
     obtain rfl := oj hi
     have ae := hSi
     have M := ngF hcl 4 2 ae
     have D := ngF hcl 5 4 M
     have I := ngF hcl 6 5 D
     have p := ngF hcl 11 6 I
     have n := ngF hcl 12 11 p
     have N := ngF hcl 13 12 n
     obtain rfl := U
     refine hG (any_step ?_); intro A J hJ
     refine s1 hFx 160 (i6 (w64 ((w64 ((w64 (bShr .u64 (wu64 (w64 (u1 + u3))) 1)) + u2)) - 1))) ?_; intro v3 qP
     refine nl (qnI (hJ _ _ ?_))
     exact ⟨bl, bb, bc, bm, bd, be, aN, aY, i6 (w64 ((w64 ((w64 (bShr .u64 (wu64 (w64 (u1 + u3))) 1)) + u2)) - 1)), a9, aZ, aT, aO, a2, a3, aU, aP, ap, am, aj, .own tyLine 42 ao1 cap2 u0, aG, qP.reg, hMx.perm lpr, aq, ar, kf, av, (nt M), (nt D), (nt I), aw, ax, aW, a4, (nt p), (nt n), (nt N), rfl, (nt D), (nt I), X, aa⟩
    ·
     obtain rfl := oj hi
     have R := hSi
     have M := ngF hcl 4 3 R
     have D := ngF hcl 5 4 M
     have I := ngF hcl 6 5 D
     have p := ngF hcl 11 6 I
     have n := ngF hcl 12 11 p
     have N := ngF hcl 13 12 n
     obtain rfl := U
     refine hG (any_step ?_); intro A J hJ
     refine s1 hFx 161 (i6 (w64 (bShr .u64 (wu64 (w64 (O + P))) 1))) ?_; intro v4 qQ
     refine nl (qnI (hJ _ _ ?_))
     exact ⟨bl, bb, bc, bm, bd, be, aN, aY, a8, i6 (w64 (bShr .u64 (wu64 (w64 (O + P))) 1)), aZ, aT, aO, a2, a3, aU, aP, ap, am, aj, .own tyLine 42 ao1 cap2 u0, aG, qQ.reg, hMx.perm lpr, aq, ar, au, kf, (nt M), (nt D), (nt I), aw, ax, aW, a4, (nt p), (nt n), (nt N), rfl, (nt D), (nt I), X, aa⟩
    ·
     obtain rfl := oj hi
     have R := hpre 3 (by kernel_rfl)
     have ae := hpre 2 (by kernel_rfl)
     have M := hSi
     have D := ngF hcl 5 4 M
     have I := ngF hcl 6 5 D
     have p := ngF hcl 11 6 I
     have n := ngF hcl 12 11 p
     have N := ngF hcl 13 12 n
     obtain rfl := au ae
     obtain rfl := av R
     obtain rfl := U
     refine hG (any_step ?_); intro A J hJ
     refine s1 hFx 162 (i6 (w64 ((w64 ((w64 ((w64 (bShr .u64 (wu64 (w64 (u1 + u3))) 1)) + u2)) - 1)) - (w64 (bShr .u64 (wu64 (w64 (O + P))) 1))))) ?_; intro v5 qR
     refine nl (qnI (hJ _ _ ?_))
     exact ⟨bl, bb, bc, bm, bd, be, aN, aY, i6 (w64 ((w64 ((w64 (bShr .u64 (wu64 (w64 (u1 + u3))) 1)) + u2)) - 1)), i6 (w64 (bShr .u64 (wu64 (w64 (O + P))) 1)), i6 (w64 ((w64 ((w64 ((w64 (bShr .u64 (wu64 (w64 (u1 + u3))) 1)) + u2)) - 1)) - (w64 (bShr .u64 (wu64 (w64 (O + P))) 1)))), aT, aO, a2, a3, aU, aP, ap, am, aj, .own tyLine 42 ao1 cap2 u0, aG, qR.reg, hMx.perm lpr, aq, ar, kf, kf, kf, (nt D), (nt I), aw, ax, aW, a4, (nt p), (nt n), (nt N), rfl, (nt D), (nt I), X, aa⟩
    ·
     obtain rfl := oj hi
     have M := hpre 4 (by kernel_rfl)
     have ad := hpre 1 (by kernel_rfl)
     have R := hcl 4 3 (by kernel_rfl) M
     have ae := hcl 4 2 (by kernel_rfl) M
     have D := hSi
     have I := ngF hcl 6 5 D
     have p := ngF hcl 11 6 I
     have n := ngF hcl 12 11 p
     have N := ngF hcl 13 12 n
     obtain rfl := ar ad
     obtain rfl := au ae
     obtain rfl := av R
     obtain rfl := aV M
     obtain rfl := U
     refine hG (any_step ?_); intro A J hJ
     refine ixo hFx hMx 0 (T := tyLine) (xs := u0) (w64 ((w64 ((w64 ((w64 (bShr .u64 (wu64 (w64 (u1 + u3))) 1)) + u2)) - 1)) - (w64 (bShr .u64 (wu64 (w64 (O + P))) 1)))) (by simpa only [List.length_set] using fF) (k := .i64) (e := 42) (bytes := 64) (nog rfl _) rfl (by kernel_rfl) rfl (by kernel_rfl) (by kernel_rfl) rfl (by kernel_rfl) ?_; intro i2 v6 qS qT
     refine nl (qnI (hJ _ _ ?_))
     exact ⟨i2, bb, bc, bm, bd, be, aN, .slice ao1 u0.length cap2, i6 (w64 ((w64 ((w64 (bShr .u64 (wu64 (w64 (u1 + u3))) 1)) + u2)) - 1)), i6 (w64 (bShr .u64 (wu64 (w64 (O + P))) 1)), i6 (w64 ((w64 ((w64 ((w64 (bShr .u64 (wu64 (w64 (u1 + u3))) 1)) + u2)) - 1)) - (w64 (bShr .u64 (wu64 (w64 (O + P))) 1)))), .pointer (some ⟨i2, (w64 ((w64 ((w64 ((w64 (bShr .u64 (wu64 (w64 (u1 + u3))) 1)) + u2)) - 1)) - (w64 (bShr .u64 (wu64 (w64 (O + P))) 1)))).toNat * 8, none⟩), aO, a2, a3, aU, aP, ap, am, aj, .own tyLine 42 ao1 cap2 u0, aG, qT.reg, hMx.perm lpr, aq, kf, kf, kf, kf, kf, (nt I), aw, ax, aW, a4, (nt p), (nt n), (nt N), rfl, (fun _ => qS), (nt I), X, aa⟩
    ·
     obtain rfl := oj hi
     have D := hpre 5 (by kernel_rfl)
     have M := hcl 5 4 (by kernel_rfl) D
     have ad := hcl 5 1 (by kernel_rfl) D
     have R := hcl 4 3 (by kernel_rfl) M
     have ae := hcl 4 2 (by kernel_rfl) M
     have I := hSi
     have p := ngF hcl 11 6 I
     have n := ngF hcl 12 11 p
     have N := ngF hcl 13 12 n
     obtain rfl := ar ad
     obtain rfl := au ae
     obtain rfl := av R
     obtain rfl := aV M
     obtain rfl := ba D
     obtain rfl := U
     refine hG (any_step ?_); intro A J hJ
     have i3 := Y D
     obtain ⟨v7, qU, qV⟩ := own_elx hMx 0 (T := tyLine) (xs := u0) rfl i3 (w64 ((w64 ((w64 ((w64 (bShr .u64 (wu64 (w64 (u1 + u3))) 1)) + u2)) - 1)) - (w64 (bShr .u64 (wu64 (w64 (O + P))) 1)))).toNat fG
     obtain ⟨fJ, fK, rfl, qW⟩ := qU
     refine lc2 hFx 164 8 (e42F q fJ fK) qV rfl ?_; intro v8 qX
     refine nl (qnI (hJ _ _ ?_))
     exact ⟨bl, fJ, fK, bm, bd, be, aN, .slice ao1 u0.length cap2, i6 (w64 ((w64 ((w64 (bShr .u64 (wu64 (w64 (u1 + u3))) 1)) + u2)) - 1)), i6 (w64 (bShr .u64 (wu64 (w64 (O + P))) 1)), i6 (w64 ((w64 ((w64 ((w64 (bShr .u64 (wu64 (w64 (u1 + u3))) 1)) + u2)) - 1)) - (w64 (bShr .u64 (wu64 (w64 (O + P))) 1)))), .pointer (some ⟨bl, (w64 ((w64 ((w64 ((w64 (bShr .u64 (wu64 (w64 (u1 + u3))) 1)) + u2)) - 1)) - (w64 (bShr .u64 (wu64 (w64 (O + P))) 1)))).toNat * 8, none⟩), .agg (e42F q fJ fK).toArray, a2, a3, aU, aP, ap, am, aj, .own tyLine 42 ao1 cap2 u0, aG, qX.reg, hMx.perm lpr, aq, kf, kf, kf, kf, kf, kf, aw, ax, aW, a4, (nt p), (nt n), (nt N), rfl, (fun _ => i3), (fun _ => qW), X, aa⟩
    ·
     obtain rfl := oj hi
     have L := hSi
     have g := ngF hcl 9 7 L
     have C := ngF hcl 10 9 g
     have p := ngF hcl 11 10 C
     have n := ngF hcl 12 11 p
     have N := ngF hcl 13 12 n
     obtain rfl := U
     refine hG (any_step ?_); intro A J hJ
     refine s1 hFx 165 (.slice ao1 u0.length cap2) ?_; intro v9 qY
     refine nl (qnI (hJ _ _ ?_))
     exact ⟨bl, bb, bc, bm, bd, be, aN, aY, a8, a9, aZ, aT, aO, .slice ao1 u0.length cap2, a3, aU, aP, ap, am, aj, .own tyLine 42 ao1 cap2 u0, aG, qY.reg, hMx.perm lpr, aq, ar, au, av, aV, ba, bn, kf, ax, (nt g), (nt C), (nt p), (nt n), (nt N), rfl, Y, ab, (nt g), (nt C)⟩
    ·
     obtain rfl := oj hi
     have z := hSi
     have g := ngF hcl 9 8 z
     have C := ngF hcl 10 9 g
     have p := ngF hcl 11 10 C
     have n := ngF hcl 12 11 p
     have N := ngF hcl 13 12 n
     obtain rfl := U
     refine hG (any_step ?_); intro A J hJ
     refine s1 hFx 166 (i6 (w64 (bShr .u64 (wu64 (w64 (O + P))) 1))) ?_; intro wa qZ
     refine nl (qnI (hJ _ _ ?_))
     exact ⟨bl, bb, bc, bm, bd, be, aN, aY, a8, a9, aZ, aT, aO, a2, i6 (w64 (bShr .u64 (wu64 (w64 (O + P))) 1)), aU, aP, ap, am, aj, .own tyLine 42 ao1 cap2 u0, aG, qZ.reg, hMx.perm lpr, aq, ar, au, av, aV, ba, bn, aw, kf, (nt g), (nt C), (nt p), (nt n), (nt N), rfl, Y, ab, (nt g), (nt C)⟩
    ·
     obtain rfl := oj hi
     have z := hpre 8 (by kernel_rfl)
     have L := hpre 7 (by kernel_rfl)
     have g := hSi
     have C := ngF hcl 10 9 g
     have p := ngF hcl 11 10 C
     have n := ngF hcl 12 11 p
     have N := ngF hcl 13 12 n
     obtain rfl := aw L
     obtain rfl := ax z
     obtain rfl := U
     refine hG (any_step ?_); intro A J hJ
     refine ixo hFx hMx 0 (T := tyLine) (xs := u0) (w64 (bShr .u64 (wu64 (w64 (O + P))) 1)) (by simpa only [List.length_set] using fH) (k := .i64) (e := 42) (bytes := 64) (nog rfl _) rfl (by kernel_rfl) rfl (by kernel_rfl) (by kernel_rfl) rfl (by kernel_rfl) ?_; intro i4 wb q0 q1
     refine nl (qnI (hJ _ _ ?_))
     exact ⟨bl, bb, bc, i4, bd, be, aN, aY, a8, a9, aZ, aT, aO, .slice ao1 u0.length cap2, i6 (w64 (bShr .u64 (wu64 (w64 (O + P))) 1)), .pointer (some ⟨i4, (w64 (bShr .u64 (wu64 (w64 (O + P))) 1)).toNat * 8, none⟩), aP, ap, am, aj, .own tyLine 42 ao1 cap2 u0, aG, q1.reg, hMx.perm lpr, aq, ar, au, av, aV, ba, bn, kf, kf, kf, (nt C), (nt p), (nt n), (nt N), rfl, Y, ab, (fun _ => q0), (nt C)⟩
    ·
     obtain rfl := oj hi
     have g := hpre 9 (by kernel_rfl)
     have z := hcl 9 8 (by kernel_rfl) g
     have L := hcl 9 7 (by kernel_rfl) g
     have C := hSi
     have p := ngF hcl 11 10 C
     have n := ngF hcl 12 11 p
     have N := ngF hcl 13 12 n
     obtain rfl := aw L
     obtain rfl := ax z
     obtain rfl := aW g
     obtain rfl := U
     refine hG (any_step ?_); intro A J hJ
     have i5 := X g
     obtain ⟨wc, q2, q3⟩ := own_elx hMx 0 (T := tyLine) (xs := u0) rfl i5 (w64 (bShr .u64 (wu64 (w64 (O + P))) 1)).toNat fI
     obtain ⟨fL, fM, rfl, q4⟩ := q2
     refine lc2 hFx 168 8 (e42F y fL fM) q3 rfl ?_; intro wd q5
     refine nl (qnI (hJ _ _ ?_))
     exact ⟨bl, bb, bc, bm, fL, fM, aN, aY, a8, a9, aZ, aT, aO, .slice ao1 u0.length cap2, i6 (w64 (bShr .u64 (wu64 (w64 (O + P))) 1)), .pointer (some ⟨bm, (w64 (bShr .u64 (wu64 (w64 (O + P))) 1)).toNat * 8, none⟩), .agg (e42F y fL fM).toArray, ap, am, aj, .own tyLine 42 ao1 cap2 u0, aG, q5.reg, hMx.perm lpr, aq, ar, au, av, aV, ba, bn, kf, kf, kf, kf, (nt p), (nt n), (nt N), rfl, Y, ab, (fun _ => i5), (fun _ => q4)⟩
    ·
     obtain rfl := oj hi
     have C := hpre 10 (by kernel_rfl)
     have I := hpre 6 (by kernel_rfl)
     have af := hpre 0 (by kernel_rfl)
     have g := hcl 10 9 (by kernel_rfl) C
     have D := hcl 6 5 (by kernel_rfl) I
     have z := hcl 9 8 (by kernel_rfl) g
     have L := hcl 9 7 (by kernel_rfl) g
     have M := hcl 5 4 (by kernel_rfl) D
     have ad := hcl 5 1 (by kernel_rfl) D
     have R := hcl 4 3 (by kernel_rfl) M
     have ae := hcl 4 2 (by kernel_rfl) M
     have p := hSi
     have n := ngF hcl 12 11 p
     have N := ngF hcl 13 12 n
     obtain rfl := aq af
     obtain rfl := ar ad
     obtain rfl := au ae
     obtain rfl := av R
     obtain rfl := aV M
     obtain rfl := ba D
     obtain rfl := bn I
     obtain rfl := aw L
     obtain rfl := ax z
     obtain rfl := aW g
     obtain rfl := a4 C
     obtain rfl := U
     refine hG (any_step ?_); intro A J hJ
     have c := Fz.le.trans c aG
     have q6 := Y D
     have i7 := ab I
     have q7 := X g
     have i8 := aa C
     have q8 := hf5 _ _ c hMx.fz q y bb bc bd be i7 i8
     refine fcl hFx hMx (i6 (u4 q y)) fid3 (#[.agg (e42F q bb bc).toArray, .agg (e42F y bd be).toArray] ++ caps4) (nog rfl _) rfl (by kernel_rfl) ?h1 ?h2 ?_
     case h1 => exact fv_run rfl (by kernel_rfl) (by kernel_rfl) hg6
     case h2 => exact q8
     intro we wf q9 ra
     refine nl (qnI (hJ _ _ ?_))
     exact ⟨bl, bb, bc, bm, bd, be, .func (.func fid3) #[] caps4, .slice ao1 u0.length cap2, i6 (w64 ((w64 ((w64 (bShr .u64 (wu64 (w64 (u1 + u3))) 1)) + u2)) - 1)), i6 (w64 (bShr .u64 (wu64 (w64 (O + P))) 1)), i6 (w64 ((w64 ((w64 ((w64 (bShr .u64 (wu64 (w64 (u1 + u3))) 1)) + u2)) - 1)) - (w64 (bShr .u64 (wu64 (w64 (O + P))) 1)))), .pointer (some ⟨bl, (w64 ((w64 ((w64 ((w64 (bShr .u64 (wu64 (w64 (u1 + u3))) 1)) + u2)) - 1)) - (w64 (bShr .u64 (wu64 (w64 (O + P))) 1)))).toNat * 8, none⟩), .agg (e42F q bb bc).toArray, .slice ao1 u0.length cap2, i6 (w64 (bShr .u64 (wu64 (w64 (O + P))) 1)), .pointer (some ⟨bm, (w64 (bShr .u64 (wu64 (w64 (O + P))) 1)).toNat * 8, none⟩), .agg (e42F y bd be).toArray, i6 (u4 q y), am, aj, .own tyLine 42 ao1 cap2 u0, aG, q9.reg, ra.perm lpr, kf, kf, kf, kf, kf, kf, kf, kf, kf, kf, kf, kf, (nt n), (nt N), rfl, (fun _ => q6), (fun _ => i7), (fun _ => q7), (fun _ => i8)⟩
    ·
     obtain rfl := oj hi
     have p := hpre 11 (by kernel_rfl)
     have C := hcl 11 10 (by kernel_rfl) p
     have I := hcl 11 6 (by kernel_rfl) p
     have af := hcl 11 0 (by kernel_rfl) p
     have g := hcl 10 9 (by kernel_rfl) C
     have D := hcl 6 5 (by kernel_rfl) I
     have z := hcl 9 8 (by kernel_rfl) g
     have L := hcl 9 7 (by kernel_rfl) g
     have M := hcl 5 4 (by kernel_rfl) D
     have ad := hcl 5 1 (by kernel_rfl) D
     have R := hcl 4 3 (by kernel_rfl) M
     have ae := hcl 4 2 (by kernel_rfl) M
     have n := hSi
     have N := ngF hcl 13 12 n
     obtain rfl := aq af
     obtain rfl := ar ad
     obtain rfl := au ae
     obtain rfl := av R
     obtain rfl := aV M
     obtain rfl := ba D
     obtain rfl := bn I
     obtain rfl := aw L
     obtain rfl := ax z
     obtain rfl := aW g
     obtain rfl := a4 C
     obtain rfl := dA p
     obtain rfl := U
     refine hG (any_step ?_); intro A J hJ
     have rb := Y D
     have rc := ab I
     have re := X g
     have rf := aa C
     refine s1 hFx 170 (.bool (decide ((u4 q y) < 0))) ?_; intro wg rg
     refine nl (qnI (hJ _ _ ?_))
     exact ⟨bl, bb, bc, bm, bd, be, .func (.func fid3) #[] caps4, .slice ao1 u0.length cap2, i6 (w64 ((w64 ((w64 (bShr .u64 (wu64 (w64 (u1 + u3))) 1)) + u2)) - 1)), i6 (w64 (bShr .u64 (wu64 (w64 (O + P))) 1)), i6 (w64 ((w64 ((w64 ((w64 (bShr .u64 (wu64 (w64 (u1 + u3))) 1)) + u2)) - 1)) - (w64 (bShr .u64 (wu64 (w64 (O + P))) 1)))), .pointer (some ⟨bl, (w64 ((w64 ((w64 ((w64 (bShr .u64 (wu64 (w64 (u1 + u3))) 1)) + u2)) - 1)) - (w64 (bShr .u64 (wu64 (w64 (O + P))) 1)))).toNat * 8, none⟩), .agg (e42F q bb bc).toArray, .slice ao1 u0.length cap2, i6 (w64 (bShr .u64 (wu64 (w64 (O + P))) 1)), .pointer (some ⟨bm, (w64 (bShr .u64 (wu64 (w64 (O + P))) 1)).toNat * 8, none⟩), .agg (e42F y bd be).toArray, i6 (u4 q y), .bool (decide ((u4 q y) < 0)), aj, .own tyLine 42 ao1 cap2 u0, aG, rg.reg, hMx.perm lpr, kf, kf, kf, kf, kf, kf, kf, kf, kf, kf, kf, kf, kf, (nt N), rfl, (fun _ => rb), (fun _ => rc), (fun _ => re), (fun _ => rf)⟩
    obtain rfl := oj hi
    have n := hpre 12 (by kernel_rfl)
    have p := hcl 12 11 (by kernel_rfl) n
    have C := hcl 11 10 (by kernel_rfl) p
    have I := hcl 11 6 (by kernel_rfl) p
    have af := hcl 11 0 (by kernel_rfl) p
    have g := hcl 10 9 (by kernel_rfl) C
    have D := hcl 6 5 (by kernel_rfl) I
    have z := hcl 9 8 (by kernel_rfl) g
    have L := hcl 9 7 (by kernel_rfl) g
    have M := hcl 5 4 (by kernel_rfl) D
    have ad := hcl 5 1 (by kernel_rfl) D
    have R := hcl 4 3 (by kernel_rfl) M
    have ae := hcl 4 2 (by kernel_rfl) M
    obtain rfl := aq af
    obtain rfl := ar ad
    obtain rfl := au ae
    obtain rfl := av R
    obtain rfl := aV M
    obtain rfl := ba D
    obtain rfl := bn I
    obtain rfl := aw L
    obtain rfl := ax z
    obtain rfl := aW g
    obtain rfl := a4 C
    obtain rfl := dA p
    obtain rfl := dG n
    obtain rfl := U
    refine hG (any_step ?_); intro A J hJ
    have rh := Y D
    have ri := ab I
    have rj := X g
    have rk := aa C
    refine s1 hFx 171 (.bool (!(decide ((u4 q y) < 0)))) ?_; intro wh rl
    refine nl (qnI (hJ _ _ ?_))
    exact ⟨bl, bb, bc, bm, bd, be, .func (.func fid3) #[] caps4, .slice ao1 u0.length cap2, i6 (w64 ((w64 ((w64 (bShr .u64 (wu64 (w64 (u1 + u3))) 1)) + u2)) - 1)), i6 (w64 (bShr .u64 (wu64 (w64 (O + P))) 1)), i6 (w64 ((w64 ((w64 ((w64 (bShr .u64 (wu64 (w64 (u1 + u3))) 1)) + u2)) - 1)) - (w64 (bShr .u64 (wu64 (w64 (O + P))) 1)))), .pointer (some ⟨bl, (w64 ((w64 ((w64 ((w64 (bShr .u64 (wu64 (w64 (u1 + u3))) 1)) + u2)) - 1)) - (w64 (bShr .u64 (wu64 (w64 (O + P))) 1)))).toNat * 8, none⟩), .agg (e42F q bb bc).toArray, .slice ao1 u0.length cap2, i6 (w64 (bShr .u64 (wu64 (w64 (O + P))) 1)), .pointer (some ⟨bm, (w64 (bShr .u64 (wu64 (w64 (O + P))) 1)).toNat * 8, none⟩), .agg (e42F y bd be).toArray, i6 (u4 q y), .bool (decide ((u4 q y) < 0)), .bool (!(decide ((u4 q y) < 0))), .own tyLine 42 ao1 cap2 u0, aG, rl.reg, hMx.perm lpr, kf, kf, kf, kf, kf, kf, kf, kf, kf, kf, kf, kf, kf, kf, rfl, (fun _ => rh), (fun _ => ri), (fun _ => rj), (fun _ => rk)⟩
   case hE =>
    intro S hS i9 wi hI; refine Go.Sy.hid ?_; intro G hG; obtain ⟨bl, bb, bc, bm, bd, be, aN, aY, a8, a9, aZ, aT, aO, a2, a3, aU, aP, ap, am, aj, ag, aG, hFx, hMx, aq, hI⟩ := hI; obtain ⟨ar, au, av, aV, ba, bn, aw, ax, aW, a4, dA, dG, dW, U, Y, ab, X, hI⟩ := hI; refine hG ?_
    obtain rfl := aq (hS 0 (by decide))
    obtain rfl := ar (hS 1 (by decide))
    obtain rfl := au (hS 2 (by decide))
    obtain rfl := av (hS 3 (by decide))
    obtain rfl := aV (hS 4 (by decide))
    obtain rfl := ba (hS 5 (by decide))
    obtain rfl := bn (hS 6 (by decide))
    obtain rfl := aw (hS 7 (by decide))
    obtain rfl := ax (hS 8 (by decide))
    obtain rfl := aW (hS 9 (by decide))
    obtain rfl := a4 (hS 10 (by decide))
    obtain rfl := dA (hS 11 (by decide))
    obtain rfl := dG (hS 12 (by decide))
    obtain rfl := dW (hS 13 (by decide))
    obtain rfl := U
    refine t_ (c_ hFx ev (fun _ ja => ?_) fun _ jc => ?_)
    ·
     have jb : Fr 220 [] [⟨0, [], .slice ao1 u0.length cap2⟩, ⟨1, [], i6 u1⟩, ⟨2, [], i6 u2⟩, ⟨3, [], i6 u3⟩, ⟨4, [], .func (.func fid3) #[] caps4⟩, ⟨18, [], i6 (w64 (bShr .u64 (wu64 (w64 (u1 + u3))) 1))⟩, ⟨19, [], i6 (w64 ((w64 (bShr .u64 (wu64 (w64 (u1 + u3))) 1)) + u2))⟩, ⟨21, [], i6 P⟩, ⟨22, [], i6 (w64 ((w64 ((w64 (bShr .u64 (wu64 (w64 (u1 + u3))) 1)) + u2)) - 1))⟩, ⟨23, [], i6 (w64 (bShr .u64 (wu64 (w64 (O + P))) 1))⟩] i9 := hFx.reg
     refine rgB jb hMx [] [] [(20, i6 (w64 ((w64 (bShr .u64 (wu64 (w64 (O + P))) 1)) + 1)))] ?_; intro wn rm
     exact j_ (d_ ⟨⟨w64 ((w64 (bShr .u64 (wu64 (w64 (O + P))) 1)) + 1), P⟩, ja.1, ja.2, (rm.reg).anyβ _ (by kernel_rfl), hMx.kp⟩)
    have jd : Fr 220 [] [⟨0, [], .slice ao1 u0.length cap2⟩, ⟨1, [], i6 u1⟩, ⟨2, [], i6 u2⟩, ⟨3, [], i6 u3⟩, ⟨4, [], .func (.func fid3) #[] caps4⟩, ⟨18, [], i6 (w64 (bShr .u64 (wu64 (w64 (u1 + u3))) 1))⟩, ⟨19, [], i6 (w64 ((w64 (bShr .u64 (wu64 (w64 (u1 + u3))) 1)) + u2))⟩, ⟨20, [], i6 O⟩, ⟨22, [], i6 (w64 ((w64 ((w64 (bShr .u64 (wu64 (w64 (u1 + u3))) 1)) + u2)) - 1))⟩, ⟨23, [], i6 (w64 (bShr .u64 (wu64 (w64 (O + P))) 1))⟩] i9 := hFx.reg
    refine rgB jd hMx [] [] [(21, i6 (w64 (bShr .u64 (wu64 (w64 (O + P))) 1)))] ?_; intro wo rn
    exact j_ (d_ ⟨⟨O, w64 (bShr .u64 (wu64 (w64 (O + P))) 1)⟩, jc.1, jc.2, (rn.reg).anyβ _ (by kernel_rfl), hMx.kp⟩)
  exact x_ (y_ (y_ (z_ (d_ (pc O ro _ _ ((eu.reg).anyβ _ (by kernel_rfl)) (iX.kp))))))
 refine sqB dO hM0 [] [] [(20, i6 u1)] ?_; intro wp je
 refine rgB je hM0 [] [] [(21, i6 u2)] ?_; intro wq jf
 refine t_ (sqB jf hM0 [] [] [(22, i6 (w64 ((w64 ((w64 (bShr .u64 (wu64 (w64 (u1 + u3))) 1)) + u2)) - 1)))] ?_); intro ew jg
 have jh : Fr 220 [] [⟨0, [], .slice ao1 u0.length cap2⟩, ⟨1, [], i6 u1⟩, ⟨2, [], i6 u2⟩, ⟨3, [], i6 u3⟩, ⟨4, [], .func (.func fid3) #[] caps4⟩, ⟨18, [], i6 (w64 (bShr .u64 (wu64 (w64 (u1 + u3))) 1))⟩, ⟨19, [], i6 (w64 ((w64 (bShr .u64 (wu64 (w64 (u1 + u3))) 1)) + u2))⟩, ⟨20, [], i6 u1⟩, ⟨21, [], i6 u2⟩, ⟨22, [], i6 (w64 ((w64 ((w64 (bShr .u64 (wu64 (w64 (u1 + u3))) 1)) + u2)) - 1))⟩] ew := jg.reg
 obtain ⟨rq, rr, rs⟩ := rp
 refine wp_seq_k fun KJ1552 hKJ1553 => ?_
 have ru : ∀ (b : Int), rq b → ∀ a1 w1, Fr 220 [] [⟨0, [], .slice ao1 u0.length cap2⟩, ⟨1, [], i6 u1⟩, ⟨2, [], i6 u2⟩, ⟨3, [], i6 u3⟩, ⟨4, [], .func (.func fid3) #[] caps4⟩, ⟨18, [], i6 (w64 (bShr .u64 (wu64 (w64 (u1 + u3))) 1))⟩, ⟨19, [], i6 (w64 ((w64 (bShr .u64 (wu64 (w64 (u1 + u3))) 1)) + u2))⟩, ⟨20, [], i6 b⟩] a1 → Mem B [] w0 Z0 ((.own tyLine 42 ao1 cap2 u0) :: Rr) Z w1 → KJ1552 a1 w1 := by
  rintro b rv wr ws ji cq
  refine hKJ1553 _ _ ?_
  have ex := rs b rv
  refine sqB ji cq [] [] [(24, i6 (w64 ((w64 ((w64 (bShr .u64 (wu64 (w64 (u1 + u3))) 1)) + u2)) - b)))] ?_; intro wt jj
  refine s_ (sqB jj cq [] [] [(185, .bool ((decide (b < u2)) && (decide (u2 < (w64 ((w64 ((w64 (bShr .u64 (wu64 (w64 (u1 + u3))) 1)) + u2)) - b))))))] ?_); intro wu dX
  refine c_ dX ex (fun _ rx => ?_) fun _ eB => ?_
  ·
   refine rgH ?_; intro ry jk
   refine bt dX cq 5 [] [] [(186, .slice ao1 u0.length cap2), (187, i6 b), (188, i6 u2), (189, i6 (w64 ((w64 ((w64 (bShr .u64 (wu64 (w64 (u1 + u3))) 1)) + u2)) - b))), (190, .func (.func fid3) #[] caps4)] ?_; intro wv jl
   refine ck jl 84 #[.slice ao1 u0.length cap2, i6 b, i6 u2, i6 (w64 ((w64 ((w64 (bShr .u64 (wu64 (w64 (u1 + u3))) 1)) + u2)) - b)), .func (.func fid3) #[] caps4] ?_
   refine (srot_walk u0 b u2 (w64 ((w64 ((w64 (bShr .u64 (wu64 (w64 (u1 + u3))) 1)) + u2)) - b)) u4 ao1 cap2 fid3 caps4 _ _ _ _ _ _ (fun Z1 w1 h1 h2 => hf5 Z1 w1 (c.trans h1) h2) hg6 cq cq.fz rx).mono ?_; rintro _ rz ⟨aQ, jm, rfl, jn, rA, rB, hm⟩; refine ⟨_, rfl, ?_⟩; intro rC jo; have jp := hm
   replace c := Fz.le.trans c rA
   have jq : Fr 220 [] [⟨0, [], .slice ao1 aQ.length cap2⟩, ⟨1, [], i6 u1⟩, ⟨2, [], i6 u2⟩, ⟨3, [], i6 u3⟩, ⟨4, [], .func (.func fid3) #[] caps4⟩, ⟨18, [], i6 (w64 (bShr .u64 (wu64 (w64 (u1 + u3))) 1))⟩, ⟨19, [], i6 (w64 ((w64 (bShr .u64 (wu64 (w64 (u1 + u3))) 1)) + u2))⟩, ⟨20, [], i6 b⟩, ⟨24, [], i6 (w64 ((w64 ((w64 (bShr .u64 (wu64 (w64 (u1 + u3))) 1)) + u2)) - b))⟩, ⟨185, [], .bool ((decide (b < u2)) && (decide (u2 < (w64 ((w64 ((w64 (bShr .u64 (wu64 (w64 (u1 + u3))) 1)) + u2)) - b)))))⟩, ⟨186, [], .slice ao1 aQ.length cap2⟩, ⟨187, [], i6 b⟩, ⟨188, [], i6 u2⟩, ⟨189, [], i6 (w64 ((w64 ((w64 (bShr .u64 (wu64 (w64 (u1 + u3))) 1)) + u2)) - b))⟩, ⟨190, [], .func (.func fid3) #[] caps4⟩, ⟨191, [], .tuple #[]⟩] rC := by rw [rB]; exact jo.reg
   have de : Mem B [] w0 Z0 ((.own tyLine 42 ao1 cap2 aQ) :: Rr) jm rz := jp
   have ey := jn (de.ownSmall 0 rfl)
   apply jk
   refine t_ (s_ (sqB jq de [] [] [(199, .bool ((decide (u1 < b)) && (decide (b < (w64 (bShr .u64 (wu64 (w64 (u1 + u3))) 1))))))] ?_)); intro ww dY
   refine c_ dY ey (fun _ rD => ?_) fun _ eA => ?_
   ·
    refine rgH ?_; intro rE jr
    refine bt dY de 5 [] [] [(200, .slice ao1 aQ.length cap2), (201, i6 u1), (202, i6 b), (203, i6 (w64 (bShr .u64 (wu64 (w64 (u1 + u3))) 1))), (204, .func (.func fid3) #[] caps4)] ?_; intro wx js
    obtain ⟨rF, jt⟩ := rD
    refine ck js 82 #[.slice ao1 aQ.length cap2, i6 u1, i6 b, i6 (w64 (bShr .u64 (wu64 (w64 (u1 + u3))) 1)), .func (.func fid3) #[] caps4] ?_
    refine (ih aQ u1 b (w64 (bShr .u64 (wu64 (w64 (u1 + u3))) 1)) u4 rF ao1 cap2 fid3 caps4 _ _ _ _ _ _ (fun Z1 w1 h1 h2 => hf5 Z1 w1 (c.trans h1) h2) hg6 de de.fz).mono ?_; rintro _ rG ⟨ju, rfl, rH, rI, hm⟩; refine ⟨_, rfl, ?_⟩; intro rJ jv; have jw := hm
    replace c := Fz.le.trans c rH
    have jx : Fr 220 [] [⟨0, [], .slice ao1 (segC2 aQ u1 b (w64 (bShr .u64 (wu64 (w64 (u1 + u3))) 1)) u4).length cap2⟩, ⟨1, [], i6 u1⟩, ⟨2, [], i6 u2⟩, ⟨3, [], i6 u3⟩, ⟨4, [], .func (.func fid3) #[] caps4⟩, ⟨18, [], i6 (w64 (bShr .u64 (wu64 (w64 (u1 + u3))) 1))⟩, ⟨19, [], i6 (w64 ((w64 (bShr .u64 (wu64 (w64 (u1 + u3))) 1)) + u2))⟩, ⟨20, [], i6 b⟩, ⟨24, [], i6 (w64 ((w64 ((w64 (bShr .u64 (wu64 (w64 (u1 + u3))) 1)) + u2)) - b))⟩, ⟨185, [], .bool ((decide (b < u2)) && (decide (u2 < (w64 ((w64 ((w64 (bShr .u64 (wu64 (w64 (u1 + u3))) 1)) + u2)) - b)))))⟩, ⟨186, [], .slice ao1 (segC2 aQ u1 b (w64 (bShr .u64 (wu64 (w64 (u1 + u3))) 1)) u4).length cap2⟩, ⟨187, [], i6 b⟩, ⟨188, [], i6 u2⟩, ⟨189, [], i6 (w64 ((w64 ((w64 (bShr .u64 (wu64 (w64 (u1 + u3))) 1)) + u2)) - b))⟩, ⟨190, [], .func (.func fid3) #[] caps4⟩, ⟨191, [], .tuple #[]⟩, ⟨199, [], .bool ((decide (u1 < b)) && (decide (b < (w64 (bShr .u64 (wu64 (w64 (u1 + u3))) 1)))))⟩, ⟨200, [], .slice ao1 (segC2 aQ u1 b (w64 (bShr .u64 (wu64 (w64 (u1 + u3))) 1)) u4).length cap2⟩, ⟨201, [], i6 u1⟩, ⟨202, [], i6 b⟩, ⟨203, [], i6 (w64 (bShr .u64 (wu64 (w64 (u1 + u3))) 1))⟩, ⟨204, [], .func (.func fid3) #[] caps4⟩, ⟨205, [], .tuple #[]⟩] rJ := by rw [rI]; exact jv.reg
    have dH : Mem B [] w0 Z0 ((.own tyLine 42 ao1 cap2 (segC2 aQ u1 b (w64 (bShr .u64 (wu64 (w64 (u1 + u3))) 1)) u4)) :: Rr) ju rG := jw
    have ez := jt (dH.ownSmall 0 rfl)
    apply jr
    refine t_ (sqB jx dH [] [] [(213, .bool ((decide ((w64 (bShr .u64 (wu64 (w64 (u1 + u3))) 1)) < (w64 ((w64 ((w64 (bShr .u64 (wu64 (w64 (u1 + u3))) 1)) + u2)) - b)))) && (decide ((w64 ((w64 ((w64 (bShr .u64 (wu64 (w64 (u1 + u3))) 1)) + u2)) - b)) < u3))))] ?_); intro wy dZ
    refine c_ dZ ez (fun _ rK => ?_) fun _ rV => ?_
    ·
     refine rgH ?_; intro rL jy
     refine bt dZ dH 5 [] [] [(214, .slice ao1 (segC2 aQ u1 b (w64 (bShr .u64 (wu64 (w64 (u1 + u3))) 1)) u4).length cap2), (215, i6 (w64 (bShr .u64 (wu64 (w64 (u1 + u3))) 1))), (216, i6 (w64 ((w64 ((w64 (bShr .u64 (wu64 (w64 (u1 + u3))) 1)) + u2)) - b))), (217, i6 u3), (218, .func (.func fid3) #[] caps4)] ?_; intro wz jz
     obtain ⟨rM, jA⟩ := rK
     refine ck jz 82 #[.slice ao1 (segC2 aQ u1 b (w64 (bShr .u64 (wu64 (w64 (u1 + u3))) 1)) u4).length cap2, i6 (w64 (bShr .u64 (wu64 (w64 (u1 + u3))) 1)), i6 (w64 ((w64 ((w64 (bShr .u64 (wu64 (w64 (u1 + u3))) 1)) + u2)) - b)), i6 u3, .func (.func fid3) #[] caps4] ?_
     refine (ih (segC2 aQ u1 b (w64 (bShr .u64 (wu64 (w64 (u1 + u3))) 1)) u4) (w64 (bShr .u64 (wu64 (w64 (u1 + u3))) 1)) (w64 ((w64 ((w64 (bShr .u64 (wu64 (w64 (u1 + u3))) 1)) + u2)) - b)) u3 u4 rM ao1 cap2 fid3 caps4 _ _ _ _ _ _ (fun Z1 w1 h1 h2 => hf5 Z1 w1 (c.trans h1) h2) hg6 dH dH.fz).mono ?_; rintro _ rO ⟨jB, rfl, rP, rQ, hm⟩; refine ⟨_, rfl, ?_⟩; intro rR jC; have jD := hm
     replace c := Fz.le.trans c rP
     have jE : Fr 220 [] [⟨0, [], .slice ao1 (segC2 (segC2 aQ u1 b (w64 (bShr .u64 (wu64 (w64 (u1 + u3))) 1)) u4) (w64 (bShr .u64 (wu64 (w64 (u1 + u3))) 1)) (w64 ((w64 ((w64 (bShr .u64 (wu64 (w64 (u1 + u3))) 1)) + u2)) - b)) u3 u4).length cap2⟩, ⟨1, [], i6 u1⟩, ⟨2, [], i6 u2⟩, ⟨3, [], i6 u3⟩, ⟨4, [], .func (.func fid3) #[] caps4⟩, ⟨18, [], i6 (w64 (bShr .u64 (wu64 (w64 (u1 + u3))) 1))⟩, ⟨19, [], i6 (w64 ((w64 (bShr .u64 (wu64 (w64 (u1 + u3))) 1)) + u2))⟩, ⟨20, [], i6 b⟩, ⟨24, [], i6 (w64 ((w64 ((w64 (bShr .u64 (wu64 (w64 (u1 + u3))) 1)) + u2)) - b))⟩, ⟨185, [], .bool ((decide (b < u2)) && (decide (u2 < (w64 ((w64 ((w64 (bShr .u64 (wu64 (w64 (u1 + u3))) 1)) + u2)) - b)))))⟩, ⟨186, [], .slice ao1 (segC2 (segC2 aQ u1 b (w64 (bShr .u64 (wu64 (w64 (u1 + u3))) 1)) u4) (w64 (bShr .u64 (wu64 (w64 (u1 + u3))) 1)) (w64 ((w64 ((w64 (bShr .u64 (wu64 (w64 (u1 + u3))) 1)) + u2)) - b)) u3 u4).length cap2⟩, ⟨187, [], i6 b⟩, ⟨188, [], i6 u2⟩, ⟨189, [], i6 (w64 ((w64 ((w64 (bShr .u64 (wu64 (w64 (u1 + u3))) 1)) + u2)) - b))⟩, ⟨190, [], .func (.func fid3) #[] caps4⟩, ⟨191, [], .tuple #[]⟩, ⟨199, [], .bool ((decide (u1 < b)) && (decide (b < (w64 (bShr .u64 (wu64 (w64 (u1 + u3))) 1)))))⟩, ⟨200, [], .slice ao1 (segC2 (segC2 aQ u1 b (w64 (bShr .u64 (wu64 (w64 (u1 + u3))) 1)) u4) (w64 (bShr .u64 (wu64 (w64 (u1 + u3))) 1)) (w64 ((w64 ((w64 (bShr .u64 (wu64 (w64 (u1 + u3))) 1)) + u2)) - b)) u3 u4).length cap2⟩, ⟨201, [], i6 u1⟩, ⟨202, [], i6 b⟩, ⟨203, [], i6 (w64 (bShr .u64 (wu64 (w64 (u1 + u3))) 1))⟩, ⟨204, [], .func (.func fid3) #[] caps4⟩, ⟨205, [], .tuple #[]⟩, ⟨213, [], .bool ((decide ((w64 (bShr .u64 (wu64 (w64 (u1 + u3))) 1)) < (w64 ((w64 ((w64 (bShr .u64 (wu64 (w64 (u1 + u3))) 1)) + u2)) - b)))) && (decide ((w64 ((w64 ((w64 (bShr .u64 (wu64 (w64 (u1 + u3))) 1)) + u2)) - b)) < u3)))⟩, ⟨214, [], .slice ao1 (segC2 (segC2 aQ u1 b (w64 (bShr .u64 (wu64 (w64 (u1 + u3))) 1)) u4) (w64 (bShr .u64 (wu64 (w64 (u1 + u3))) 1)) (w64 ((w64 ((w64 (bShr .u64 (wu64 (w64 (u1 + u3))) 1)) + u2)) - b)) u3 u4).length cap2⟩, ⟨215, [], i6 (w64 (bShr .u64 (wu64 (w64 (u1 + u3))) 1))⟩, ⟨216, [], i6 (w64 ((w64 ((w64 (bShr .u64 (wu64 (w64 (u1 + u3))) 1)) + u2)) - b))⟩, ⟨217, [], i6 u3⟩, ⟨218, [], .func (.func fid3) #[] caps4⟩, ⟨219, [], .tuple #[]⟩] rR := by rw [rQ]; exact jC.reg
     have jF : Mem B [] w0 Z0 ((.own tyLine 42 ao1 cap2 (segC2 (segC2 aQ u1 b (w64 (bShr .u64 (wu64 (w64 (u1 + u3))) 1)) u4) (w64 (bShr .u64 (wu64 (w64 (u1 + u3))) 1)) (w64 ((w64 ((w64 (bShr .u64 (wu64 (w64 (u1 + u3))) 1)) + u2)) - b)) u3 u4)) :: Rr) jB rO := jD
     have rS := jA (jF.ownSmall 0 rfl)
     apply jy
     obtain ⟨rT, rU⟩ := rS
     refine rN (fn := Try.f82) (v := .tuple #[]) jE (re0 jE (fn := Try.f82) rfl) ?_
     exact ⟨(segC2 (segC2 aQ u1 b (w64 (bShr .u64 (wu64 (w64 (u1 + u3))) 1)) u4) (w64 (bShr .u64 (wu64 (w64 (u1 + u3))) 1)) (w64 ((w64 ((w64 (bShr .u64 (wu64 (w64 (u1 + u3))) 1)) + u2)) - b)) u3 u4), jB, rfl, rU, c, rT, jF.kp⟩
    apply l_
    obtain ⟨rW, rX⟩ := rV
    refine rN (fn := Try.f82) (v := .tuple #[]) dZ (re0 dZ (fn := Try.f82) rfl) ?_
    exact ⟨(segC2 aQ u1 b (w64 (bShr .u64 (wu64 (w64 (u1 + u3))) 1)) u4), ju, rfl, rX, c, rW, dH.kp⟩
   refine k_ (sqB dY de [] [] [(213, .bool ((decide ((w64 (bShr .u64 (wu64 (w64 (u1 + u3))) 1)) < (w64 ((w64 ((w64 (bShr .u64 (wu64 (w64 (u1 + u3))) 1)) + u2)) - b)))) && (decide ((w64 ((w64 ((w64 (bShr .u64 (wu64 (w64 (u1 + u3))) 1)) + u2)) - b)) < u3))))] ?_); intro wA d0
   refine c_ d0 eA (fun _ rY => ?_) fun _ r8 => ?_
   ·
    refine rgH ?_; intro rZ jG
    refine bt d0 de 5 [] [] [(214, .slice ao1 aQ.length cap2), (215, i6 (w64 (bShr .u64 (wu64 (w64 (u1 + u3))) 1))), (216, i6 (w64 ((w64 ((w64 (bShr .u64 (wu64 (w64 (u1 + u3))) 1)) + u2)) - b))), (217, i6 u3), (218, .func (.func fid3) #[] caps4)] ?_; intro wB jH
    obtain ⟨r0, jI⟩ := rY
    refine ck jH 82 #[.slice ao1 aQ.length cap2, i6 (w64 (bShr .u64 (wu64 (w64 (u1 + u3))) 1)), i6 (w64 ((w64 ((w64 (bShr .u64 (wu64 (w64 (u1 + u3))) 1)) + u2)) - b)), i6 u3, .func (.func fid3) #[] caps4] ?_
    refine (ih aQ (w64 (bShr .u64 (wu64 (w64 (u1 + u3))) 1)) (w64 ((w64 ((w64 (bShr .u64 (wu64 (w64 (u1 + u3))) 1)) + u2)) - b)) u3 u4 r0 ao1 cap2 fid3 caps4 _ _ _ _ _ _ (fun Z1 w1 h1 h2 => hf5 Z1 w1 (c.trans h1) h2) hg6 de de.fz).mono ?_; rintro _ r1 ⟨jJ, rfl, r2, r3, hm⟩; refine ⟨_, rfl, ?_⟩; intro r4 jK; have jL := hm
    replace c := Fz.le.trans c r2
    have jM : Fr 220 [] [⟨0, [], .slice ao1 (segC2 aQ (w64 (bShr .u64 (wu64 (w64 (u1 + u3))) 1)) (w64 ((w64 ((w64 (bShr .u64 (wu64 (w64 (u1 + u3))) 1)) + u2)) - b)) u3 u4).length cap2⟩, ⟨1, [], i6 u1⟩, ⟨2, [], i6 u2⟩, ⟨3, [], i6 u3⟩, ⟨4, [], .func (.func fid3) #[] caps4⟩, ⟨18, [], i6 (w64 (bShr .u64 (wu64 (w64 (u1 + u3))) 1))⟩, ⟨19, [], i6 (w64 ((w64 (bShr .u64 (wu64 (w64 (u1 + u3))) 1)) + u2))⟩, ⟨20, [], i6 b⟩, ⟨24, [], i6 (w64 ((w64 ((w64 (bShr .u64 (wu64 (w64 (u1 + u3))) 1)) + u2)) - b))⟩, ⟨185, [], .bool ((decide (b < u2)) && (decide (u2 < (w64 ((w64 ((w64 (bShr .u64 (wu64 (w64 (u1 + u3))) 1)) + u2)) - b)))))⟩, ⟨186, [], .slice ao1 (segC2 aQ (w64 (bShr .u64 (wu64 (w64 (u1 + u3))) 1)) (w64 ((w64 ((w64 (bShr .u64 (wu64 (w64 (u1 + u3))) 1)) + u2)) - b)) u3 u4).length cap2⟩, ⟨187, [], i6 b⟩, ⟨188, [], i6 u2⟩, ⟨189, [], i6 (w64 ((w64 ((w64 (bShr .u64 (wu64 (w64 (u1 + u3))) 1)) + u2)) - b))⟩, ⟨190, [], .func (.func fid3) #[] caps4⟩, ⟨191, [], .tuple #[]⟩, ⟨199, [], .bool ((decide (u1 < b)) && (decide (b < (w64 (bShr .u64 (wu64 (w64 (u1 + u3))) 1)))))⟩, ⟨213, [], .bool ((decide ((w64 (bShr .u64 (wu64 (w64 (u1 + u3))) 1)) < (w64 ((w64 ((w64 (bShr .u64 (wu64 (w64 (u1 + u3))) 1)) + u2)) - b)))) && (decide ((w64 ((w64 ((w64 (bShr .u64 (wu64 (w64 (u1 + u3))) 1)) + u2)) - b)) < u3)))⟩, ⟨214, [], .slice ao1 (segC2 aQ (w64 (bShr .u64 (wu64 (w64 (u1 + u3))) 1)) (w64 ((w64 ((w64 (bShr .u64 (wu64 (w64 (u1 + u3))) 1)) + u2)) - b)) u3 u4).length cap2⟩, ⟨215, [], i6 (w64 (bShr .u64 (wu64 (w64 (u1 + u3))) 1))⟩, ⟨216, [], i6 (w64 ((w64 ((w64 (bShr .u64 (wu64 (w64 (u1 + u3))) 1)) + u2)) - b))⟩, ⟨217, [], i6 u3⟩, ⟨218, [], .func (.func fid3) #[] caps4⟩, ⟨219, [], .tuple #[]⟩] r4 := by rw [r3]; exact jK.reg
    have jN : Mem B [] w0 Z0 ((.own tyLine 42 ao1 cap2 (segC2 aQ (w64 (bShr .u64 (wu64 (w64 (u1 + u3))) 1)) (w64 ((w64 ((w64 (bShr .u64 (wu64 (w64 (u1 + u3))) 1)) + u2)) - b)) u3 u4)) :: Rr) jJ r1 := jL
    have r5 := jI (jN.ownSmall 0 rfl)
    apply jG
    obtain ⟨r6, r7⟩ := r5
    refine rN (fn := Try.f82) (v := .tuple #[]) jM (re0 jM (fn := Try.f82) rfl) ?_
    exact ⟨(segC2 aQ (w64 (bShr .u64 (wu64 (w64 (u1 + u3))) 1)) (w64 ((w64 ((w64 (bShr .u64 (wu64 (w64 (u1 + u3))) 1)) + u2)) - b)) u3 u4), jJ, rfl, r7, c, r6, jN.kp⟩
   apply l_
   obtain ⟨r9, sa⟩ := r8
   refine rN (fn := Try.f82) (v := .tuple #[]) d0 (re0 d0 (fn := Try.f82) rfl) ?_
   exact ⟨aQ, jm, rfl, sa, c, r9, de.kp⟩
  refine k_ (s_ (sqB dX cq [] [] [(199, .bool ((decide (u1 < b)) && (decide (b < (w64 (bShr .u64 (wu64 (w64 (u1 + u3))) 1))))))] ?_)); intro wC d1
  refine c_ d1 eB (fun _ sb => ?_) fun _ eD => ?_
  ·
   refine rgH ?_; intro sc jO
   refine bt d1 cq 5 [] [] [(200, .slice ao1 u0.length cap2), (201, i6 u1), (202, i6 b), (203, i6 (w64 (bShr .u64 (wu64 (w64 (u1 + u3))) 1))), (204, .func (.func fid3) #[] caps4)] ?_; intro wD jP
   obtain ⟨sd, jQ⟩ := sb
   refine ck jP 82 #[.slice ao1 u0.length cap2, i6 u1, i6 b, i6 (w64 (bShr .u64 (wu64 (w64 (u1 + u3))) 1)), .func (.func fid3) #[] caps4] ?_
   refine (ih u0 u1 b (w64 (bShr .u64 (wu64 (w64 (u1 + u3))) 1)) u4 sd ao1 cap2 fid3 caps4 _ _ _ _ _ _ (fun Z1 w1 h1 h2 => hf5 Z1 w1 (c.trans h1) h2) hg6 cq cq.fz).mono ?_; rintro _ se ⟨jR, rfl, sf, sg, hm⟩; refine ⟨_, rfl, ?_⟩; intro sh jS; have jT := hm
   replace c := Fz.le.trans c sf
   have jU : Fr 220 [] [⟨0, [], .slice ao1 (segC2 u0 u1 b (w64 (bShr .u64 (wu64 (w64 (u1 + u3))) 1)) u4).length cap2⟩, ⟨1, [], i6 u1⟩, ⟨2, [], i6 u2⟩, ⟨3, [], i6 u3⟩, ⟨4, [], .func (.func fid3) #[] caps4⟩, ⟨18, [], i6 (w64 (bShr .u64 (wu64 (w64 (u1 + u3))) 1))⟩, ⟨19, [], i6 (w64 ((w64 (bShr .u64 (wu64 (w64 (u1 + u3))) 1)) + u2))⟩, ⟨20, [], i6 b⟩, ⟨24, [], i6 (w64 ((w64 ((w64 (bShr .u64 (wu64 (w64 (u1 + u3))) 1)) + u2)) - b))⟩, ⟨185, [], .bool ((decide (b < u2)) && (decide (u2 < (w64 ((w64 ((w64 (bShr .u64 (wu64 (w64 (u1 + u3))) 1)) + u2)) - b)))))⟩, ⟨199, [], .bool ((decide (u1 < b)) && (decide (b < (w64 (bShr .u64 (wu64 (w64 (u1 + u3))) 1)))))⟩, ⟨200, [], .slice ao1 (segC2 u0 u1 b (w64 (bShr .u64 (wu64 (w64 (u1 + u3))) 1)) u4).length cap2⟩, ⟨201, [], i6 u1⟩, ⟨202, [], i6 b⟩, ⟨203, [], i6 (w64 (bShr .u64 (wu64 (w64 (u1 + u3))) 1))⟩, ⟨204, [], .func (.func fid3) #[] caps4⟩, ⟨205, [], .tuple #[]⟩] sh := by rw [sg]; exact jS.reg
   have dI : Mem B [] w0 Z0 ((.own tyLine 42 ao1 cap2 (segC2 u0 u1 b (w64 (bShr .u64 (wu64 (w64 (u1 + u3))) 1)) u4)) :: Rr) jR se := jT
   have eC := jQ (dI.ownSmall 0 rfl)
   apply jO
   refine t_ (sqB jU dI [] [] [(213, .bool ((decide ((w64 (bShr .u64 (wu64 (w64 (u1 + u3))) 1)) < (w64 ((w64 ((w64 (bShr .u64 (wu64 (w64 (u1 + u3))) 1)) + u2)) - b)))) && (decide ((w64 ((w64 ((w64 (bShr .u64 (wu64 (w64 (u1 + u3))) 1)) + u2)) - b)) < u3))))] ?_); intro wE d2
   refine c_ d2 eC (fun _ si => ?_) fun _ ss => ?_
   ·
    refine rgH ?_; intro sj jV
    refine bt d2 dI 5 [] [] [(214, .slice ao1 (segC2 u0 u1 b (w64 (bShr .u64 (wu64 (w64 (u1 + u3))) 1)) u4).length cap2), (215, i6 (w64 (bShr .u64 (wu64 (w64 (u1 + u3))) 1))), (216, i6 (w64 ((w64 ((w64 (bShr .u64 (wu64 (w64 (u1 + u3))) 1)) + u2)) - b))), (217, i6 u3), (218, .func (.func fid3) #[] caps4)] ?_; intro wF jW
    obtain ⟨sk, jX⟩ := si
    refine ck jW 82 #[.slice ao1 (segC2 u0 u1 b (w64 (bShr .u64 (wu64 (w64 (u1 + u3))) 1)) u4).length cap2, i6 (w64 (bShr .u64 (wu64 (w64 (u1 + u3))) 1)), i6 (w64 ((w64 ((w64 (bShr .u64 (wu64 (w64 (u1 + u3))) 1)) + u2)) - b)), i6 u3, .func (.func fid3) #[] caps4] ?_
    refine (ih (segC2 u0 u1 b (w64 (bShr .u64 (wu64 (w64 (u1 + u3))) 1)) u4) (w64 (bShr .u64 (wu64 (w64 (u1 + u3))) 1)) (w64 ((w64 ((w64 (bShr .u64 (wu64 (w64 (u1 + u3))) 1)) + u2)) - b)) u3 u4 sk ao1 cap2 fid3 caps4 _ _ _ _ _ _ (fun Z1 w1 h1 h2 => hf5 Z1 w1 (c.trans h1) h2) hg6 dI dI.fz).mono ?_; rintro _ sl ⟨jY, rfl, sm, sn, hm⟩; refine ⟨_, rfl, ?_⟩; intro so jZ; have j0 := hm
    replace c := Fz.le.trans c sm
    have j1 : Fr 220 [] [⟨0, [], .slice ao1 (segC2 (segC2 u0 u1 b (w64 (bShr .u64 (wu64 (w64 (u1 + u3))) 1)) u4) (w64 (bShr .u64 (wu64 (w64 (u1 + u3))) 1)) (w64 ((w64 ((w64 (bShr .u64 (wu64 (w64 (u1 + u3))) 1)) + u2)) - b)) u3 u4).length cap2⟩, ⟨1, [], i6 u1⟩, ⟨2, [], i6 u2⟩, ⟨3, [], i6 u3⟩, ⟨4, [], .func (.func fid3) #[] caps4⟩, ⟨18, [], i6 (w64 (bShr .u64 (wu64 (w64 (u1 + u3))) 1))⟩, ⟨19, [], i6 (w64 ((w64 (bShr .u64 (wu64 (w64 (u1 + u3))) 1)) + u2))⟩, ⟨20, [], i6 b⟩, ⟨24, [], i6 (w64 ((w64 ((w64 (bShr .u64 (wu64 (w64 (u1 + u3))) 1)) + u2)) - b))⟩, ⟨185, [], .bool ((decide (b < u2)) && (decide (u2 < (w64 ((w64 ((w64 (bShr .u64 (wu64 (w64 (u1 + u3))) 1)) + u2)) - b)))))⟩, ⟨199, [], .bool ((decide (u1 < b)) && (decide (b < (w64 (bShr .u64 (wu64 (w64 (u1 + u3))) 1)))))⟩, ⟨200, [], .slice ao1 (segC2 (segC2 u0 u1 b (w64 (bShr .u64 (wu64 (w64 (u1 + u3))) 1)) u4) (w64 (bShr .u64 (wu64 (w64 (u1 + u3))) 1)) (w64 ((w64 ((w64 (bShr .u64 (wu64 (w64 (u1 + u3))) 1)) + u2)) - b)) u3 u4).length cap2⟩, ⟨201, [], i6 u1⟩, ⟨202, [], i6 b⟩, ⟨203, [], i6 (w64 (bShr .u64 (wu64 (w64 (u1 + u3))) 1))⟩, ⟨204, [], .func (.func fid3) #[] caps4⟩, ⟨205, [], .tuple #[]⟩, ⟨213, [], .bool ((decide ((w64 (bShr .u64 (wu64 (w64 (u1 + u3))) 1)) < (w64 ((w64 ((w64 (bShr .u64 (wu64 (w64 (u1 + u3))) 1)) + u2)) - b)))) && (decide ((w64 ((w64 ((w64 (bShr .u64 (wu64 (w64 (u1 + u3))) 1)) + u2)) - b)) < u3)))⟩, ⟨214, [], .slice ao1 (segC2 (segC2 u0 u1 b (w64 (bShr .u64 (wu64 (w64 (u1 + u3))) 1)) u4) (w64 (bShr .u64 (wu64 (w64 (u1 + u3))) 1)) (w64 ((w64 ((w64 (bShr .u64 (wu64 (w64 (u1 + u3))) 1)) + u2)) - b)) u3 u4).length cap2⟩, ⟨215, [], i6 (w64 (bShr .u64 (wu64 (w64 (u1 + u3))) 1))⟩, ⟨216, [], i6 (w64 ((w64 ((w64 (bShr .u64 (wu64 (w64 (u1 + u3))) 1)) + u2)) - b))⟩, ⟨217, [], i6 u3⟩, ⟨218, [], .func (.func fid3) #[] caps4⟩, ⟨219, [], .tuple #[]⟩] so := by rw [sn]; exact jZ.reg
    have j2 : Mem B [] w0 Z0 ((.own tyLine 42 ao1 cap2 (segC2 (segC2 u0 u1 b (w64 (bShr .u64 (wu64 (w64 (u1 + u3))) 1)) u4) (w64 (bShr .u64 (wu64 (w64 (u1 + u3))) 1)) (w64 ((w64 ((w64 (bShr .u64 (wu64 (w64 (u1 + u3))) 1)) + u2)) - b)) u3 u4)) :: Rr) jY sl := j0
    have sp := jX (j2.ownSmall 0 rfl)
    apply jV
    obtain ⟨sq, sr⟩ := sp
    refine rN (fn := Try.f82) (v := .tuple #[]) j1 (re0 j1 (fn := Try.f82) rfl) ?_
    exact ⟨(segC2 (segC2 u0 u1 b (w64 (bShr .u64 (wu64 (w64 (u1 + u3))) 1)) u4) (w64 (bShr .u64 (wu64 (w64 (u1 + u3))) 1)) (w64 ((w64 ((w64 (bShr .u64 (wu64 (w64 (u1 + u3))) 1)) + u2)) - b)) u3 u4), jY, rfl, sr, c, sq, j2.kp⟩
   apply l_
   obtain ⟨st, su⟩ := ss
   refine rN (fn := Try.f82) (v := .tuple #[]) d2 (re0 d2 (fn := Try.f82) rfl) ?_
   exact ⟨(segC2 u0 u1 b (w64 (bShr .u64 (wu64 (w64 (u1 + u3))) 1)) u4), jR, rfl, su, c, st, dI.kp⟩
  refine k_ (sqB d1 cq [] [] [(213, .bool ((decide ((w64 (bShr .u64 (wu64 (w64 (u1 + u3))) 1)) < (w64 ((w64 ((w64 (bShr .u64 (wu64 (w64 (u1 + u3))) 1)) + u2)) - b)))) && (decide ((w64 ((w64 ((w64 (bShr .u64 (wu64 (w64 (u1 + u3))) 1)) + u2)) - b)) < u3))))] ?_); intro wG d3
  refine c_ d3 eD (fun _ sv => ?_) fun _ sG => ?_
  ·
   refine rgH ?_; intro sw j3
   refine bt d3 cq 5 [] [] [(214, .slice ao1 u0.length cap2), (215, i6 (w64 (bShr .u64 (wu64 (w64 (u1 + u3))) 1))), (216, i6 (w64 ((w64 ((w64 (bShr .u64 (wu64 (w64 (u1 + u3))) 1)) + u2)) - b))), (217, i6 u3), (218, .func (.func fid3) #[] caps4)] ?_; intro wH j4
   obtain ⟨sx, j5⟩ := sv
   refine ck j4 82 #[.slice ao1 u0.length cap2, i6 (w64 (bShr .u64 (wu64 (w64 (u1 + u3))) 1)), i6 (w64 ((w64 ((w64 (bShr .u64 (wu64 (w64 (u1 + u3))) 1)) + u2)) - b)), i6 u3, .func (.func fid3) #[] caps4] ?_
   refine (ih u0 (w64 (bShr .u64 (wu64 (w64 (u1 + u3))) 1)) (w64 ((w64 ((w64 (bShr .u64 (wu64 (w64 (u1 + u3))) 1)) + u2)) - b)) u3 u4 sx ao1 cap2 fid3 caps4 _ _ _ _ _ _ (fun Z1 w1 h1 h2 => hf5 Z1 w1 (c.trans h1) h2) hg6 cq cq.fz).mono ?_; rintro _ sy ⟨j6, rfl, sz, sA, hm⟩; refine ⟨_, rfl, ?_⟩; intro sB j7; have j8 := hm
   replace c := Fz.le.trans c sz
   have j9 : Fr 220 [] [⟨0, [], .slice ao1 (segC2 u0 (w64 (bShr .u64 (wu64 (w64 (u1 + u3))) 1)) (w64 ((w64 ((w64 (bShr .u64 (wu64 (w64 (u1 + u3))) 1)) + u2)) - b)) u3 u4).length cap2⟩, ⟨1, [], i6 u1⟩, ⟨2, [], i6 u2⟩, ⟨3, [], i6 u3⟩, ⟨4, [], .func (.func fid3) #[] caps4⟩, ⟨18, [], i6 (w64 (bShr .u64 (wu64 (w64 (u1 + u3))) 1))⟩, ⟨19, [], i6 (w64 ((w64 (bShr .u64 (wu64 (w64 (u1 + u3))) 1)) + u2))⟩, ⟨20, [], i6 b⟩, ⟨24, [], i6 (w64 ((w64 ((w64 (bShr .u64 (wu64 (w64 (u1 + u3))) 1)) + u2)) - b))⟩, ⟨185, [], .bool ((decide (b < u2)) && (decide (u2 < (w64 ((w64 ((w64 (bShr .u64 (wu64 (w64 (u1 + u3))) 1)) + u2)) - b)))))⟩, ⟨199, [], .bool ((decide (u1 < b)) && (decide (b < (w64 (bShr .u64 (wu64 (w64 (u1 + u3))) 1)))))⟩, ⟨213, [], .bool ((decide ((w64 (bShr .u64 (wu64 (w64 (u1 + u3))) 1)) < (w64 ((w64 ((w64 (bShr .u64 (wu64 (w64 (u1 + u3))) 1)) + u2)) - b)))) && (decide ((w64 ((w64 ((w64 (bShr .u64 (wu64 (w64 (u1 + u3))) 1)) + u2)) - b)) < u3)))⟩, ⟨214, [], .slice ao1 (segC2 u0 (w64 (bShr .u64 (wu64 (w64 (u1 + u3))) 1)) (w64 ((w64 ((w64 (bShr .u64 (wu64 (w64 (u1 + u3))) 1)) + u2)) - b)) u3 u4).length cap2⟩, ⟨215, [], i6 (w64 (bShr .u64 (wu64 (w64 (u1 + u3))) 1))⟩, ⟨216, [], i6 (w64 ((w64 ((w64 (bShr .u64 (wu64 (w64 (u1 + u3))) 1)) + u2)) - b))⟩, ⟨217, [], i6 u3⟩, ⟨218, [], .func (.func fid3) #[] caps4⟩, ⟨219, [], .tuple #[]⟩] sB := by rw [sA]; exact j7.reg
   have ka : Mem B [] w0 Z0 ((.own tyLine 42 ao1 cap2 (segC2 u0 (w64 (bShr .u64 (wu64 (w64 (u1 + u3))) 1)) (w64 ((w64 ((w64 (bShr .u64 (wu64 (w64 (u1 + u3))) 1)) + u2)) - b)) u3 u4)) :: Rr) j6 sy := j8
   have sC := j5 (ka.ownSmall 0 rfl)
   apply j3
   obtain ⟨sE, sF⟩ := sC
   refine rN (fn := Try.f82) (v := .tuple #[]) j9 (re0 j9 (fn := Try.f82) rfl) ?_
   exact ⟨(segC2 u0 (w64 (bShr .u64 (wu64 (w64 (u1 + u3))) 1)) (w64 ((w64 ((w64 (bShr .u64 (wu64 (w64 (u1 + u3))) 1)) + u2)) - b)) u3 u4), j6, rfl, sF, c, sE, ka.kp⟩
  apply l_
  obtain ⟨sH, sI⟩ := sG
  refine rN (fn := Try.f82) (v := .tuple #[]) d3 (re0 d3 (fn := Try.f82) rfl) ?_
  exact ⟨u0, Z, rfl, sI, c, sH, cq.kp⟩
 apply b_
 have kb : Fr 220 [] [⟨0, [], .slice ao1 u0.length cap2⟩, ⟨1, [], i6 u1⟩, ⟨2, [], i6 u2⟩, ⟨3, [], i6 u3⟩, ⟨4, [], .func (.func fid3) #[] caps4⟩, ⟨18, [], i6 (w64 (bShr .u64 (wu64 (w64 (u1 + u3))) 1))⟩, ⟨19, [], i6 (w64 ((w64 (bShr .u64 (wu64 (w64 (u1 + u3))) 1)) + u2))⟩, ⟨20, [], i6 u1⟩, ⟨21, [], i6 u2⟩, ⟨22, [], i6 (w64 ((w64 ((w64 (bShr .u64 (wu64 (w64 (u1 + u3))) 1)) + u2)) - 1))⟩] ew := jh.reg
 obtain ⟨sJ, sK, sL, sM⟩ := rr
 refine lp (ι := Int × Int) (fun s => [⟨0, [], .slice ao1 u0.length cap2⟩, ⟨1, [], i6 u1⟩, ⟨2, [], i6 u2⟩, ⟨3, [], i6 u3⟩, ⟨4, [], .func (.func fid3) #[] caps4⟩, ⟨18, [], i6 (w64 (bShr .u64 (wu64 (w64 (u1 + u3))) 1))⟩, ⟨19, [], i6 (w64 ((w64 (bShr .u64 (wu64 (w64 (u1 + u3))) 1)) + u2))⟩, ⟨20, [], i6 s.1⟩, ⟨21, [], i6 s.2⟩, ⟨22, [], i6 (w64 ((w64 ((w64 (bShr .u64 (wu64 (w64 (u1 + u3))) 1)) + u2)) - 1))⟩]) (fun s => ((.own tyLine 42 ao1 cap2 u0) :: Rr)) (fun s => Z) (fun s => sJ s.1 s.2) (fun s => sK s.1 s.2) ⟨u1, u2⟩ sL (by exact kb.reg) (by exact hM0) ?_
 rintro ⟨O, P⟩ sN sO sP kd ke
 have eF := sM O P sN
 refine s_ (sqB kd ke [] [] [(151, .bool (decide (O < P)))] ?_); intro wI eG
 refine c_ eG eF (fun _ sQ => ?_) fun _ tL => ?_
 ·
  refine k_ (b_ (sqB eG ke [] [] [(23, i6 (w64 (bShr .u64 (wu64 (w64 (O + P))) 1)))] ?_)); intro cN kh
  have sR : Fr 220 [] [⟨0, [], .slice ao1 u0.length cap2⟩, ⟨1, [], i6 u1⟩, ⟨2, [], i6 u2⟩, ⟨3, [], i6 u3⟩, ⟨4, [], .func (.func fid3) #[] caps4⟩, ⟨18, [], i6 (w64 (bShr .u64 (wu64 (w64 (u1 + u3))) 1))⟩, ⟨19, [], i6 (w64 ((w64 (bShr .u64 (wu64 (w64 (u1 + u3))) 1)) + u2))⟩, ⟨20, [], i6 O⟩, ⟨21, [], i6 P⟩, ⟨22, [], i6 (w64 ((w64 ((w64 (bShr .u64 (wu64 (w64 (u1 + u3))) 1)) + u2)) - 1))⟩, ⟨23, [], i6 (w64 (bShr .u64 (wu64 (w64 (O + P))) 1))⟩] cN := kh.reg
  obtain ⟨fF, ki⟩ := sQ
  obtain ⟨q, fG, sS⟩ := gxq ki (by omega)
  obtain ⟨fH, kj⟩ := sS
  obtain ⟨y, fI, eH⟩ := gxq kj (by omega)
  refine wp_seq (any_invE mixed [[], [], [], [], [2, 3], [1, 4], [5], [], [], [7, 8], [9], [0, 6, 10], [11], [12]] 14 (fun S a w1 => ∃ (bo : Nat) (bf : Option Addr) (bg : Nat) (bp : Nat) (bh : Option Addr) (bi : Nat) (aN : Value) (aY : Value) (a8 : Value) (a9 : Value) (aZ : Value) (aT : Value) (aO : Value) (a2 : Value) (a3 : Value) (aU : Value) (aP : Value) (ap : Value) (am : Value) (aj : Value) (ag : Res), Fz.le Z Z ∧ Fr 220 [] [⟨0, [], .slice ao1 u0.length cap2⟩, ⟨1, [], i6 u1⟩, ⟨2, [], i6 u2⟩, ⟨3, [], i6 u3⟩, ⟨4, [], .func (.func fid3) #[] caps4⟩, ⟨18, [], i6 (w64 (bShr .u64 (wu64 (w64 (u1 + u3))) 1))⟩, ⟨19, [], i6 (w64 ((w64 (bShr .u64 (wu64 (w64 (u1 + u3))) 1)) + u2))⟩, ⟨20, [], i6 O⟩, ⟨21, [], i6 P⟩, ⟨22, [], i6 (w64 ((w64 ((w64 (bShr .u64 (wu64 (w64 (u1 + u3))) 1)) + u2)) - 1))⟩, ⟨23, [], i6 (w64 (bShr .u64 (wu64 (w64 (O + P))) 1))⟩, ⟨158, [], aN⟩, ⟨159, [], aY⟩, ⟨160, [], a8⟩, ⟨161, [], a9⟩, ⟨162, [], aZ⟩, ⟨163, [], aT⟩, ⟨164, [], aO⟩, ⟨165, [], a2⟩, ⟨166, [], a3⟩, ⟨167, [], aU⟩, ⟨168, [], aP⟩, ⟨169, [], ap⟩, ⟨170, [], am⟩, ⟨171, [], aj⟩] a ∧ Mem B [] w0 Z0 (ag :: Rr) Z w1 ∧ (S 0 = true → aN = .func (.func fid3) #[] caps4) ∧ (S 1 = true → aY = .slice ao1 u0.length cap2) ∧ (S 2 = true → a8 = i6 (w64 ((w64 ((w64 (bShr .u64 (wu64 (w64 (u1 + u3))) 1)) + u2)) - 1))) ∧ (S 3 = true → a9 = i6 (w64 (bShr .u64 (wu64 (w64 (O + P))) 1))) ∧ (S 4 = true → aZ = i6 (w64 ((w64 ((w64 ((w64 (bShr .u64 (wu64 (w64 (u1 + u3))) 1)) + u2)) - 1)) - (w64 (bShr .u64 (wu64 (w64 (O + P))) 1))))) ∧ (S 5 = true → aT = .pointer (some ⟨bo, (w64 ((w64 ((w64 ((w64 (bShr .u64 (wu64 (w64 (u1 + u3))) 1)) + u2)) - 1)) - (w64 (bShr .u64 (wu64 (w64 (O + P))) 1)))).toNat * 8, none⟩)) ∧ (S 6 = true → aO = .agg (e42F q bf bg).toArray) ∧ (S 7 = true → a2 = .slice ao1 u0.length cap2) ∧ (S 8 = true → a3 = i6 (w64 (bShr .u64 (wu64 (w64 (O + P))) 1))) ∧ (S 9 = true → aU = .pointer (some ⟨bp, (w64 (bShr .u64 (wu64 (w64 (O + P))) 1)).toNat * 8, none⟩)) ∧ (S 10 = true → aP = .agg (e42F y bh bi).toArray) ∧ (S 11 = true → ap = i6 (u4 q y)) ∧ (S 12 = true → am = .bool (decide ((u4 q y) < 0))) ∧ (S 13 = true → aj = .bool (!(decide ((u4 q y) < 0)))) ∧ (ag = .own tyLine 42 ao1 cap2 u0) ∧ (S 5 = true → ao1 = some ⟨bo, 0, none⟩) ∧ (S 6 = true → SlR t8 Z bf bg q.F.Data) ∧ (S 9 = true → ao1 = some ⟨bp, 0, none⟩) ∧ (S 10 = true → SlR t8 Z bh bi y.F.Data)) ?h0 ?hs ?hE)
  case h0 =>
   have sT := sR.any 158
   have sU := sT.any 159
   have sV := sU.any 160
   have sW := sV.any 161
   have sX := sW.any 162
   have sY := sX.any 163
   have sZ := sY.any 164
   have s0 := sZ.any 165
   have s2 := s0.any 166
   have s3 := s2.any 167
   have s4 := s3.any 168
   have s5 := s4.any 169
   have s6 := s5.any 170
   have s7 := s6.any 171
   have s8 := (ke.perm lpr).drew
   exact ⟨0, none, 0, 0, none, 0, cN.tmps.getD 158 undef, cN.tmps.getD 159 undef, cN.tmps.getD 160 undef, cN.tmps.getD 161 undef, cN.tmps.getD 162 undef, cN.tmps.getD 163 undef, cN.tmps.getD 164 undef, cN.tmps.getD 165 undef, cN.tmps.getD 166 undef, cN.tmps.getD 167 undef, cN.tmps.getD 168 undef, cN.tmps.getD 169 undef, cN.tmps.getD 170 undef, cN.tmps.getD 171 undef, .own tyLine 42 ao1 cap2 u0, Fz.le.refl _, s7.reg, s8, ff, ff, ff, ff, ff, ff, ff, ff, ff, ff, ff, ff, ff, ff, rfl, ff, ff, ff, ff⟩
  case hs =>
   intro S hcl i o hil hi hSi hpre a w1 hI; refine Go.Sy.hid ?_; intro G hG; obtain ⟨bo, bf, bg, bp, bh, bi, aN, aY, a8, a9, aZ, aT, aO, a2, a3, aU, aP, ap, am, aj, ag, aH, hFx, hMx, aq, hI⟩ := hI; obtain ⟨ar, au, av, aV, ba, bn, aw, ax, aW, a4, dA, dG, dW, U, Y, ab, X, hI⟩ := hI; have aa := hI
   have hcase : i = 0 ∨ i = 1 ∨ i = 2 ∨ i = 3 ∨ i = 4 ∨ i = 5 ∨ i = 6 ∨ i = 7 ∨ i = 8 ∨ i = 9 ∨ i = 10 ∨ i = 11 ∨ i = 12 ∨ i = 13 := by clear hi; omega
   rcases hcase with rfl | rfl | rfl | rfl | rfl | rfl | rfl | rfl | rfl | rfl | rfl | rfl | rfl | rfl
   ·
    obtain rfl := oj hi
    have af := hSi
    have p := ngF hcl 11 0 af
    have n := ngF hcl 12 11 p
    have N := ngF hcl 13 12 n
    obtain rfl := U
    refine hG (any_step ?_); intro A J hJ
    refine s1 hFx 158 (.func (.func fid3) #[] caps4) ?_; intro wJ s9
    refine nl (qnI (hJ _ _ ?_))
    exact ⟨bo, bf, bg, bp, bh, bi, .func (.func fid3) #[] caps4, aY, a8, a9, aZ, aT, aO, a2, a3, aU, aP, ap, am, aj, .own tyLine 42 ao1 cap2 u0, aH, s9.reg, hMx.perm lpr, kf, ar, au, av, aV, ba, bn, aw, ax, aW, a4, (nt p), (nt n), (nt N), rfl, Y, ab, X, aa⟩
   ·
    obtain rfl := oj hi
    have ad := hSi
    have D := ngF hcl 5 1 ad
    have I := ngF hcl 6 5 D
    have p := ngF hcl 11 6 I
    have n := ngF hcl 12 11 p
    have N := ngF hcl 13 12 n
    obtain rfl := U
    refine hG (any_step ?_); intro A J hJ
    refine s1 hFx 159 (.slice ao1 u0.length cap2) ?_; intro wK ta
    refine nl (qnI (hJ _ _ ?_))
    exact ⟨bo, bf, bg, bp, bh, bi, aN, .slice ao1 u0.length cap2, a8, a9, aZ, aT, aO, a2, a3, aU, aP, ap, am, aj, .own tyLine 42 ao1 cap2 u0, aH, ta.reg, hMx.perm lpr, aq, kf, au, av, aV, (nt D), (nt I), aw, ax, aW, a4, (nt p), (nt n), (nt N), rfl, (nt D), (nt I), X, aa⟩
   ·
    obtain rfl := oj hi
    have ae := hSi
    have M := ngF hcl 4 2 ae
    have D := ngF hcl 5 4 M
    have I := ngF hcl 6 5 D
    have p := ngF hcl 11 6 I
    have n := ngF hcl 12 11 p
    have N := ngF hcl 13 12 n
    obtain rfl := U
    refine hG (any_step ?_); intro A J hJ
    refine s1 hFx 160 (i6 (w64 ((w64 ((w64 (bShr .u64 (wu64 (w64 (u1 + u3))) 1)) + u2)) - 1))) ?_; intro wL tb
    refine nl (qnI (hJ _ _ ?_))
    exact ⟨bo, bf, bg, bp, bh, bi, aN, aY, i6 (w64 ((w64 ((w64 (bShr .u64 (wu64 (w64 (u1 + u3))) 1)) + u2)) - 1)), a9, aZ, aT, aO, a2, a3, aU, aP, ap, am, aj, .own tyLine 42 ao1 cap2 u0, aH, tb.reg, hMx.perm lpr, aq, ar, kf, av, (nt M), (nt D), (nt I), aw, ax, aW, a4, (nt p), (nt n), (nt N), rfl, (nt D), (nt I), X, aa⟩
   ·
    obtain rfl := oj hi
    have R := hSi
    have M := ngF hcl 4 3 R
    have D := ngF hcl 5 4 M
    have I := ngF hcl 6 5 D
    have p := ngF hcl 11 6 I
    have n := ngF hcl 12 11 p
    have N := ngF hcl 13 12 n
    obtain rfl := U
    refine hG (any_step ?_); intro A J hJ
    refine s1 hFx 161 (i6 (w64 (bShr .u64 (wu64 (w64 (O + P))) 1))) ?_; intro wM tc
    refine nl (qnI (hJ _ _ ?_))
    exact ⟨bo, bf, bg, bp, bh, bi, aN, aY, a8, i6 (w64 (bShr .u64 (wu64 (w64 (O + P))) 1)), aZ, aT, aO, a2, a3, aU, aP, ap, am, aj, .own tyLine 42 ao1 cap2 u0, aH, tc.reg, hMx.perm lpr, aq, ar, au, kf, (nt M), (nt D), (nt I), aw, ax, aW, a4, (nt p), (nt n), (nt N), rfl, (nt D), (nt I), X, aa⟩
   ·
    obtain rfl := oj hi
    have R := hpre 3 (by kernel_rfl)
    have ae := hpre 2 (by kernel_rfl)
    have M := hSi
    have D := ngF hcl 5 4 M
    have I := ngF hcl 6 5 D
    have p := ngF hcl 11 6 I
    have n := ngF hcl 12 11 p
    have N := ngF hcl 13 12 n
    obtain rfl := au ae
    obtain rfl := av R
    obtain rfl := U
    refine hG (any_step ?_); intro A J hJ
    refine s1 hFx 162 (i6 (w64 ((w64 ((w64 ((w64 (bShr .u64 (wu64 (w64 (u1 + u3))) 1)) + u2)) - 1)) - (w64 (bShr .u64 (wu64 (w64 (O + P))) 1))))) ?_; intro wN td
    refine nl (qnI (hJ _ _ ?_))
    exact ⟨bo, bf, bg, bp, bh, bi, aN, aY, i6 (w64 ((w64 ((w64 (bShr .u64 (wu64 (w64 (u1 + u3))) 1)) + u2)) - 1)), i6 (w64 (bShr .u64 (wu64 (w64 (O + P))) 1)), i6 (w64 ((w64 ((w64 ((w64 (bShr .u64 (wu64 (w64 (u1 + u3))) 1)) + u2)) - 1)) - (w64 (bShr .u64 (wu64 (w64 (O + P))) 1)))), aT, aO, a2, a3, aU, aP, ap, am, aj, .own tyLine 42 ao1 cap2 u0, aH, td.reg, hMx.perm lpr, aq, ar, kf, kf, kf, (nt D), (nt I), aw, ax, aW, a4, (nt p), (nt n), (nt N), rfl, (nt D), (nt I), X, aa⟩
   ·
    obtain rfl := oj hi
    have M := hpre 4 (by kernel_rfl)
    have ad := hpre 1 (by kernel_rfl)
    have R := hcl 4 3 (by kernel_rfl) M
    have ae := hcl 4 2 (by kernel_rfl) M
    have D := hSi
    have I := ngF hcl 6 5 D
    have p := ngF hcl 11 6 I
    have n := ngF hcl 12 11 p
    have N := ngF hcl 13 12 n
    obtain rfl := ar ad
    obtain rfl := au ae
    obtain rfl := av R
    obtain rfl := aV M
    obtain rfl := U
    refine hG (any_step ?_); intro A J hJ
    refine ixo hFx hMx 0 (T := tyLine) (xs := u0) (w64 ((w64 ((w64 ((w64 (bShr .u64 (wu64 (w64 (u1 + u3))) 1)) + u2)) - 1)) - (w64 (bShr .u64 (wu64 (w64 (O + P))) 1)))) (by simpa only [List.length_set] using fF) (k := .i64) (e := 42) (bytes := 64) (nog rfl _) rfl (by kernel_rfl) rfl (by kernel_rfl) (by kernel_rfl) rfl (by kernel_rfl) ?_; intro kk wO te tf
    refine nl (qnI (hJ _ _ ?_))
    exact ⟨kk, bf, bg, bp, bh, bi, aN, .slice ao1 u0.length cap2, i6 (w64 ((w64 ((w64 (bShr .u64 (wu64 (w64 (u1 + u3))) 1)) + u2)) - 1)), i6 (w64 (bShr .u64 (wu64 (w64 (O + P))) 1)), i6 (w64 ((w64 ((w64 ((w64 (bShr .u64 (wu64 (w64 (u1 + u3))) 1)) + u2)) - 1)) - (w64 (bShr .u64 (wu64 (w64 (O + P))) 1)))), .pointer (some ⟨kk, (w64 ((w64 ((w64 ((w64 (bShr .u64 (wu64 (w64 (u1 + u3))) 1)) + u2)) - 1)) - (w64 (bShr .u64 (wu64 (w64 (O + P))) 1)))).toNat * 8, none⟩), aO, a2, a3, aU, aP, ap, am, aj, .own tyLine 42 ao1 cap2 u0, aH, tf.reg, hMx.perm lpr, aq, kf, kf, kf, kf, kf, (nt I), aw, ax, aW, a4, (nt p), (nt n), (nt N), rfl, (fun _ => te), (nt I), X, aa⟩
   ·
    obtain rfl := oj hi
    have D := hpre 5 (by kernel_rfl)
    have M := hcl 5 4 (by kernel_rfl) D
    have ad := hcl 5 1 (by kernel_rfl) D
    have R := hcl 4 3 (by kernel_rfl) M
    have ae := hcl 4 2 (by kernel_rfl) M
    have I := hSi
    have p := ngF hcl 11 6 I
    have n := ngF hcl 12 11 p
    have N := ngF hcl 13 12 n
    obtain rfl := ar ad
    obtain rfl := au ae
    obtain rfl := av R
    obtain rfl := aV M
    obtain rfl := ba D
    obtain rfl := U
    refine hG (any_step ?_); intro A J hJ
    have kl := Y D
    obtain ⟨wP, tg, th⟩ := own_elx hMx 0 (T := tyLine) (xs := u0) rfl kl (w64 ((w64 ((w64 ((w64 (bShr .u64 (wu64 (w64 (u1 + u3))) 1)) + u2)) - 1)) - (w64 (bShr .u64 (wu64 (w64 (O + P))) 1)))).toNat fG
    obtain ⟨fX, fY, rfl, ti⟩ := tg
    refine lc2 hFx 164 8 (e42F q fX fY) th rfl ?_; intro wQ tj
    refine nl (qnI (hJ _ _ ?_))
    exact ⟨bo, fX, fY, bp, bh, bi, aN, .slice ao1 u0.length cap2, i6 (w64 ((w64 ((w64 (bShr .u64 (wu64 (w64 (u1 + u3))) 1)) + u2)) - 1)), i6 (w64 (bShr .u64 (wu64 (w64 (O + P))) 1)), i6 (w64 ((w64 ((w64 ((w64 (bShr .u64 (wu64 (w64 (u1 + u3))) 1)) + u2)) - 1)) - (w64 (bShr .u64 (wu64 (w64 (O + P))) 1)))), .pointer (some ⟨bo, (w64 ((w64 ((w64 ((w64 (bShr .u64 (wu64 (w64 (u1 + u3))) 1)) + u2)) - 1)) - (w64 (bShr .u64 (wu64 (w64 (O + P))) 1)))).toNat * 8, none⟩), .agg (e42F q fX fY).toArray, a2, a3, aU, aP, ap, am, aj, .own tyLine 42 ao1 cap2 u0, aH, tj.reg, hMx.perm lpr, aq, kf, kf, kf, kf, kf, kf, aw, ax, aW, a4, (nt p), (nt n), (nt N), rfl, (fun _ => kl), (fun _ => ti), X, aa⟩
   ·
    obtain rfl := oj hi
    have L := hSi
    have g := ngF hcl 9 7 L
    have C := ngF hcl 10 9 g
    have p := ngF hcl 11 10 C
    have n := ngF hcl 12 11 p
    have N := ngF hcl 13 12 n
    obtain rfl := U
    refine hG (any_step ?_); intro A J hJ
    refine s1 hFx 165 (.slice ao1 u0.length cap2) ?_; intro wR tk
    refine nl (qnI (hJ _ _ ?_))
    exact ⟨bo, bf, bg, bp, bh, bi, aN, aY, a8, a9, aZ, aT, aO, .slice ao1 u0.length cap2, a3, aU, aP, ap, am, aj, .own tyLine 42 ao1 cap2 u0, aH, tk.reg, hMx.perm lpr, aq, ar, au, av, aV, ba, bn, kf, ax, (nt g), (nt C), (nt p), (nt n), (nt N), rfl, Y, ab, (nt g), (nt C)⟩
   ·
    obtain rfl := oj hi
    have z := hSi
    have g := ngF hcl 9 8 z
    have C := ngF hcl 10 9 g
    have p := ngF hcl 11 10 C
    have n := ngF hcl 12 11 p
    have N := ngF hcl 13 12 n
    obtain rfl := U
    refine hG (any_step ?_); intro A J hJ
    refine s1 hFx 166 (i6 (w64 (bShr .u64 (wu64 (w64 (O + P))) 1))) ?_; intro wS tl
    refine nl (qnI (hJ _ _ ?_))
    exact ⟨bo, bf, bg, bp, bh, bi, aN, aY, a8, a9, aZ, aT, aO, a2, i6 (w64 (bShr .u64 (wu64 (w64 (O + P))) 1)), aU, aP, ap, am, aj, .own tyLine 42 ao1 cap2 u0, aH, tl.reg, hMx.perm lpr, aq, ar, au, av, aV, ba, bn, aw, kf, (nt g), (nt C), (nt p), (nt n), (nt N), rfl, Y, ab, (nt g), (nt C)⟩
   ·
    obtain rfl := oj hi
    have z := hpre 8 (by kernel_rfl)
    have L := hpre 7 (by kernel_rfl)
    have g := hSi
    have C := ngF hcl 10 9 g
    have p := ngF hcl 11 10 C
    have n := ngF hcl 12 11 p
    have N := ngF hcl 13 12 n
    obtain rfl := aw L
    obtain rfl := ax z
    obtain rfl := U
    refine hG (any_step ?_); intro A J hJ
    refine ixo hFx hMx 0 (T := tyLine) (xs := u0) (w64 (bShr .u64 (wu64 (w64 (O + P))) 1)) (by simpa only [List.length_set] using fH) (k := .i64) (e := 42) (bytes := 64) (nog rfl _) rfl (by kernel_rfl) rfl (by kernel_rfl) (by kernel_rfl) rfl (by kernel_rfl) ?_; intro km wT tm tp
    refine nl (qnI (hJ _ _ ?_))
    exact ⟨bo, bf, bg, km, bh, bi, aN, aY, a8, a9, aZ, aT, aO, .slice ao1 u0.length cap2, i6 (w64 (bShr .u64 (wu64 (w64 (O + P))) 1)), .pointer (some ⟨km, (w64 (bShr .u64 (wu64 (w64 (O + P))) 1)).toNat * 8, none⟩), aP, ap, am, aj, .own tyLine 42 ao1 cap2 u0, aH, tp.reg, hMx.perm lpr, aq, ar, au, av, aV, ba, bn, kf, kf, kf, (nt C), (nt p), (nt n), (nt N), rfl, Y, ab, (fun _ => tm), (nt C)⟩
   ·
    obtain rfl := oj hi
    have g := hpre 9 (by kernel_rfl)
    have z := hcl 9 8 (by kernel_rfl) g
    have L := hcl 9 7 (by kernel_rfl) g
    have C := hSi
    have p := ngF hcl 11 10 C
    have n := ngF hcl 12 11 p
    have N := ngF hcl 13 12 n
    obtain rfl := aw L
    obtain rfl := ax z
    obtain rfl := aW g
    obtain rfl := U
    refine hG (any_step ?_); intro A J hJ
    have kn := X g
    obtain ⟨wU, tq, tr⟩ := own_elx hMx 0 (T := tyLine) (xs := u0) rfl kn (w64 (bShr .u64 (wu64 (w64 (O + P))) 1)).toNat fI
    obtain ⟨fZ, f0, rfl, ts⟩ := tq
    refine lc2 hFx 168 8 (e42F y fZ f0) tr rfl ?_; intro wV tt
    refine nl (qnI (hJ _ _ ?_))
    exact ⟨bo, bf, bg, bp, fZ, f0, aN, aY, a8, a9, aZ, aT, aO, .slice ao1 u0.length cap2, i6 (w64 (bShr .u64 (wu64 (w64 (O + P))) 1)), .pointer (some ⟨bp, (w64 (bShr .u64 (wu64 (w64 (O + P))) 1)).toNat * 8, none⟩), .agg (e42F y fZ f0).toArray, ap, am, aj, .own tyLine 42 ao1 cap2 u0, aH, tt.reg, hMx.perm lpr, aq, ar, au, av, aV, ba, bn, kf, kf, kf, kf, (nt p), (nt n), (nt N), rfl, Y, ab, (fun _ => kn), (fun _ => ts)⟩
   ·
    obtain rfl := oj hi
    have C := hpre 10 (by kernel_rfl)
    have I := hpre 6 (by kernel_rfl)
    have af := hpre 0 (by kernel_rfl)
    have g := hcl 10 9 (by kernel_rfl) C
    have D := hcl 6 5 (by kernel_rfl) I
    have z := hcl 9 8 (by kernel_rfl) g
    have L := hcl 9 7 (by kernel_rfl) g
    have M := hcl 5 4 (by kernel_rfl) D
    have ad := hcl 5 1 (by kernel_rfl) D
    have R := hcl 4 3 (by kernel_rfl) M
    have ae := hcl 4 2 (by kernel_rfl) M
    have p := hSi
    have n := ngF hcl 12 11 p
    have N := ngF hcl 13 12 n
    obtain rfl := aq af
    obtain rfl := ar ad
    obtain rfl := au ae
    obtain rfl := av R
    obtain rfl := aV M
    obtain rfl := ba D
    obtain rfl := bn I
    obtain rfl := aw L
    obtain rfl := ax z
    obtain rfl := aW g
    obtain rfl := a4 C
    obtain rfl := U
    refine hG (any_step ?_); intro A J hJ
    have c := Fz.le.trans c aH
    have tu := Y D
    have ko := ab I
    have tv := X g
    have kp := aa C
    have tw := hf5 _ _ c hMx.fz q y bf bg bh bi ko kp
    refine fcl hFx hMx (i6 (u4 q y)) fid3 (#[.agg (e42F q bf bg).toArray, .agg (e42F y bh bi).toArray] ++ caps4) (nog rfl _) rfl (by kernel_rfl) ?h1 ?h2 ?_
    case h1 => exact fv_run rfl (by kernel_rfl) (by kernel_rfl) hg6
    case h2 => exact tw
    intro wW wX tx ty
    refine nl (qnI (hJ _ _ ?_))
    exact ⟨bo, bf, bg, bp, bh, bi, .func (.func fid3) #[] caps4, .slice ao1 u0.length cap2, i6 (w64 ((w64 ((w64 (bShr .u64 (wu64 (w64 (u1 + u3))) 1)) + u2)) - 1)), i6 (w64 (bShr .u64 (wu64 (w64 (O + P))) 1)), i6 (w64 ((w64 ((w64 ((w64 (bShr .u64 (wu64 (w64 (u1 + u3))) 1)) + u2)) - 1)) - (w64 (bShr .u64 (wu64 (w64 (O + P))) 1)))), .pointer (some ⟨bo, (w64 ((w64 ((w64 ((w64 (bShr .u64 (wu64 (w64 (u1 + u3))) 1)) + u2)) - 1)) - (w64 (bShr .u64 (wu64 (w64 (O + P))) 1)))).toNat * 8, none⟩), .agg (e42F q bf bg).toArray, .slice ao1 u0.length cap2, i6 (w64 (bShr .u64 (wu64 (w64 (O + P))) 1)), .pointer (some ⟨bp, (w64 (bShr .u64 (wu64 (w64 (O + P))) 1)).toNat * 8, none⟩), .agg (e42F y bh bi).toArray, i6 (u4 q y), am, aj, .own tyLine 42 ao1 cap2 u0, aH, tx.reg, ty.perm lpr, kf, kf, kf, kf, kf, kf, kf, kf, kf, kf, kf, kf, (nt n), (nt N), rfl, (fun _ => tu), (fun _ => ko), (fun _ => tv), (fun _ => kp)⟩
   ·
    obtain rfl := oj hi
    have p := hpre 11 (by kernel_rfl)
    have C := hcl 11 10 (by kernel_rfl) p
    have I := hcl 11 6 (by kernel_rfl) p
    have af := hcl 11 0 (by kernel_rfl) p
    have g := hcl 10 9 (by kernel_rfl) C
    have D := hcl 6 5 (by kernel_rfl) I
    have z := hcl 9 8 (by kernel_rfl) g
    have L := hcl 9 7 (by kernel_rfl) g
    have M := hcl 5 4 (by kernel_rfl) D
    have ad := hcl 5 1 (by kernel_rfl) D
    have R := hcl 4 3 (by kernel_rfl) M
    have ae := hcl 4 2 (by kernel_rfl) M
    have n := hSi
    have N := ngF hcl 13 12 n
    obtain rfl := aq af
    obtain rfl := ar ad
    obtain rfl := au ae
    obtain rfl := av R
    obtain rfl := aV M
    obtain rfl := ba D
    obtain rfl := bn I
    obtain rfl := aw L
    obtain rfl := ax z
    obtain rfl := aW g
    obtain rfl := a4 C
    obtain rfl := dA p
    obtain rfl := U
    refine hG (any_step ?_); intro A J hJ
    have tz := Y D
    have tA := ab I
    have tB := X g
    have tC := aa C
    refine s1 hFx 170 (.bool (decide ((u4 q y) < 0))) ?_; intro wY tD
    refine nl (qnI (hJ _ _ ?_))
    exact ⟨bo, bf, bg, bp, bh, bi, .func (.func fid3) #[] caps4, .slice ao1 u0.length cap2, i6 (w64 ((w64 ((w64 (bShr .u64 (wu64 (w64 (u1 + u3))) 1)) + u2)) - 1)), i6 (w64 (bShr .u64 (wu64 (w64 (O + P))) 1)), i6 (w64 ((w64 ((w64 ((w64 (bShr .u64 (wu64 (w64 (u1 + u3))) 1)) + u2)) - 1)) - (w64 (bShr .u64 (wu64 (w64 (O + P))) 1)))), .pointer (some ⟨bo, (w64 ((w64 ((w64 ((w64 (bShr .u64 (wu64 (w64 (u1 + u3))) 1)) + u2)) - 1)) - (w64 (bShr .u64 (wu64 (w64 (O + P))) 1)))).toNat * 8, none⟩), .agg (e42F q bf bg).toArray, .slice ao1 u0.length cap2, i6 (w64 (bShr .u64 (wu64 (w64 (O + P))) 1)), .pointer (some ⟨bp, (w64 (bShr .u64 (wu64 (w64 (O + P))) 1)).toNat * 8, none⟩), .agg (e42F y bh bi).toArray, i6 (u4 q y), .bool (decide ((u4 q y) < 0)), aj, .own tyLine 42 ao1 cap2 u0, aH, tD.reg, hMx.perm lpr, kf, kf, kf, kf, kf, kf, kf, kf, kf, kf, kf, kf, kf, (nt N), rfl, (fun _ => tz), (fun _ => tA), (fun _ => tB), (fun _ => tC)⟩
   obtain rfl := oj hi
   have n := hpre 12 (by kernel_rfl)
   have p := hcl 12 11 (by kernel_rfl) n
   have C := hcl 11 10 (by kernel_rfl) p
   have I := hcl 11 6 (by kernel_rfl) p
   have af := hcl 11 0 (by kernel_rfl) p
   have g := hcl 10 9 (by kernel_rfl) C
   have D := hcl 6 5 (by kernel_rfl) I
   have z := hcl 9 8 (by kernel_rfl) g
   have L := hcl 9 7 (by kernel_rfl) g
   have M := hcl 5 4 (by kernel_rfl) D
   have ad := hcl 5 1 (by kernel_rfl) D
   have R := hcl 4 3 (by kernel_rfl) M
   have ae := hcl 4 2 (by kernel_rfl) M
   obtain rfl := aq af
   obtain rfl := ar ad
   obtain rfl := au ae
   obtain rfl := av R
   obtain rfl := aV M
   obtain rfl := ba D
   obtain rfl := bn I
   obtain rfl := aw L
   obtain rfl := ax z
   obtain rfl := aW g
   obtain rfl := a4 C
   obtain rfl := dA p
   obtain rfl := dG n
   obtain rfl := U
   refine hG (any_step ?_); intro A J hJ
   have tE := Y D
   have tF := ab I
   have tG := X g
   have tH := aa C
   refine s1 hFx 171 (.bool (!(decide ((u4 q y) < 0)))) ?_; intro wZ tI
   refine nl (qnI (hJ _ _ ?_))
   exact ⟨bo, bf, bg, bp, bh, bi, .func (.func fid3) #[] caps4, .slice ao1 u0.length cap2, i6 (w64 ((w64 ((w64 (bShr .u64 (wu64 (w64 (u1 + u3))) 1)) + u2)) - 1)), i6 (w64 (bShr .u64 (wu64 (w64 (O + P))) 1)), i6 (w64 ((w64 ((w64 ((w64 (bShr .u64 (wu64 (w64 (u1 + u3))) 1)) + u2)) - 1)) - (w64 (bShr .u64 (wu64 (w64 (O + P))) 1)))), .pointer (some ⟨bo, (w64 ((w64 ((w64 ((w64 (bShr .u64 (wu64 (w64 (u1 + u3))) 1)) + u2)) - 1)) - (w64 (bShr .u64 (wu64 (w64 (O + P))) 1)))).toNat * 8, none⟩), .agg (e42F q bf bg).toArray, .slice ao1 u0.length cap2, i6 (w64 (bShr .u64 (wu64 (w64 (O + P))) 1)), .pointer (some ⟨bp, (w64 (bShr .u64 (wu64 (w64 (O + P))) 1)).toNat * 8, none⟩), .agg (e42F y bh bi).toArray, i6 (u4 q y), .bool (decide ((u4 q y) < 0)), .bool (!(decide ((u4 q y) < 0))), .own tyLine 42 ao1 cap2 u0, aH, tI.reg, hMx.perm lpr, kf, kf, kf, kf, kf, kf, kf, kf, kf, kf, kf, kf, kf, kf, rfl, (fun _ => tE), (fun _ => tF), (fun _ => tG), (fun _ => tH)⟩
  case hE =>
   intro S hS kq w3 hI; refine Go.Sy.hid ?_; intro G hG; obtain ⟨bo, bf, bg, bp, bh, bi, aN, aY, a8, a9, aZ, aT, aO, a2, a3, aU, aP, ap, am, aj, ag, aH, hFx, hMx, aq, hI⟩ := hI; obtain ⟨ar, au, av, aV, ba, bn, aw, ax, aW, a4, dA, dG, dW, U, Y, ab, X, hI⟩ := hI; refine hG ?_
   obtain rfl := aq (hS 0 (by decide))
   obtain rfl := ar (hS 1 (by decide))
   obtain rfl := au (hS 2 (by decide))
   obtain rfl := av (hS 3 (by decide))
   obtain rfl := aV (hS 4 (by decide))
   obtain rfl := ba (hS 5 (by decide))
   obtain rfl := bn (hS 6 (by decide))
   obtain rfl := aw (hS 7 (by decide))
   obtain rfl := ax (hS 8 (by decide))
   obtain rfl := aW (hS 9 (by decide))
   obtain rfl := a4 (hS 10 (by decide))
   obtain rfl := dA (hS 11 (by decide))
   obtain rfl := dG (hS 12 (by decide))
   obtain rfl := dW (hS 13 (by decide))
   obtain rfl := U
   refine t_ (c_ hFx eH (fun _ kr => ?_) fun _ kt => ?_)
   ·
    have ks : Fr 220 [] [⟨0, [], .slice ao1 u0.length cap2⟩, ⟨1, [], i6 u1⟩, ⟨2, [], i6 u2⟩, ⟨3, [], i6 u3⟩, ⟨4, [], .func (.func fid3) #[] caps4⟩, ⟨18, [], i6 (w64 (bShr .u64 (wu64 (w64 (u1 + u3))) 1))⟩, ⟨19, [], i6 (w64 ((w64 (bShr .u64 (wu64 (w64 (u1 + u3))) 1)) + u2))⟩, ⟨21, [], i6 P⟩, ⟨22, [], i6 (w64 ((w64 ((w64 (bShr .u64 (wu64 (w64 (u1 + u3))) 1)) + u2)) - 1))⟩, ⟨23, [], i6 (w64 (bShr .u64 (wu64 (w64 (O + P))) 1))⟩] kq := hFx.reg
    refine rgB ks hMx [] [] [(20, i6 (w64 ((w64 (bShr .u64 (wu64 (w64 (O + P))) 1)) + 1)))] ?_; intro w8 tJ
    exact j_ (d_ ⟨⟨w64 ((w64 (bShr .u64 (wu64 (w64 (O + P))) 1)) + 1), P⟩, kr.1, kr.2, (tJ.reg).anyβ _ (by kernel_rfl), hMx.kp⟩)
   have ku : Fr 220 [] [⟨0, [], .slice ao1 u0.length cap2⟩, ⟨1, [], i6 u1⟩, ⟨2, [], i6 u2⟩, ⟨3, [], i6 u3⟩, ⟨4, [], .func (.func fid3) #[] caps4⟩, ⟨18, [], i6 (w64 (bShr .u64 (wu64 (w64 (u1 + u3))) 1))⟩, ⟨19, [], i6 (w64 ((w64 (bShr .u64 (wu64 (w64 (u1 + u3))) 1)) + u2))⟩, ⟨20, [], i6 O⟩, ⟨22, [], i6 (w64 ((w64 ((w64 (bShr .u64 (wu64 (w64 (u1 + u3))) 1)) + u2)) - 1))⟩, ⟨23, [], i6 (w64 (bShr .u64 (wu64 (w64 (O + P))) 1))⟩] kq := hFx.reg
   refine rgB ku hMx [] [] [(21, i6 (w64 (bShr .u64 (wu64 (w64 (O + P))) 1)))] ?_; intro w9 tK
   exact j_ (d_ ⟨⟨O, w64 (bShr .u64 (wu64 (w64 (O + P))) 1)⟩, kt.1, kt.2, (tK.reg).anyβ _ (by kernel_rfl), hMx.kp⟩)
 exact x_ (y_ (y_ (z_ (d_ (ru O tL _ _ ((eG.reg).anyβ _ (by kernel_rfl)) (ke.kp))))))

end Go.Proofs.Ytmkdnaecmombnaa
set_option linter.unusedVariables false
set_option linter.unusedSimpArgs false
set_option maxRecDepth 100000
set_option maxHeartbeats 0
namespace Go.Proofs.Ytmkdnaecmombnaa
open Go.Sy Go.RowKit
theorem sins_fun (u0 : List Line) (u1 : Int) (u2 : Int) (u3 : Line → Line → Int) (hpre : sinsPre u0 u1 u2 u3) (ao1 : Option Addr) (cap2 : Nat) (fid3 : Nat) (caps4 : Array Value) (B : Nat) (w0 : World) (Z0 : Fz) (Rr : List Res) (Z : Fz) (w : World) (hf5 : ∀ (Z1 : Fz) (w1 : World), Z.le Z1 → Z1.on w1 → ∀ (x0 : Line) (x1 : Line) (xao0 : Option Addr) (xcap0 : Nat) (xao1 : Option Addr) (xcap1 : Nat), SlR t8 Z1 xao0 xcap0 x0.F.Data → SlR t8 Z1 xao1 xcap1 x1.F.Data → Calls Try.prog fid3 (#[.agg #[i6 x0.Time, i6 x0.Bus, i6 x0.F.ID, .bool x0.F.Long, .bool x0.F.Fast, .bool x0.F.Remote, i6 x0.F.Size, .slice xao0 x0.F.Data.length xcap0], .agg #[i6 x1.Time, i6 x1.Bus, i6 x1.F.ID, .bool x1.F.Long, .bool x1.F.Fast, .bool x1.F.Remote, i6 x1.F.Size, .slice xao1 x1.F.Data.length xcap1]] ++ caps4) w1 fun e w2 => e = .returned (i6 (u3 x0 x1)) ∧ Below w1.heap.size w1 w2) (hg6 : ∀ x w, Sem.run Try.prog (callFunc fid3 x) w = .ok (.enter fid3 x) w) (hM0 : Mem B [] w0 Z0 ((.own tyLine 42 ao1 cap2 u0) :: Rr) Z w) (hZ : Z.on w) : Calls Try.prog 81 #[.slice ao1 u0.length cap2, i6 u1, i6 u2, .func (.func fid3) #[] caps4] w fun e w' => ∃ (Z' : Fz), e = .returned (.tuple #[]) ∧ Fz.le Z Z' ∧ ((sinsS u0 u1 u2 u3).length = u0.length) ∧ Mem B [] w0 Z0 ((.own tyLine 42 ao1 cap2 (sinsS u0 u1 u2 u3)) :: Rr) Z' w' :=
  (sins_walk u0 u1 u2 u3 ao1 cap2 fid3 caps4 B w0 Z0 Rr Z w hf5 hg6 hM0 hZ (sins_ok2 u0 u1 u2 u3 hpre)).mono fun _ _ ⟨r, h0, he, hk, f0, f1, hm⟩ => by subst hk; exact ⟨h0, he, f0, f1, hm⟩

theorem ssym_all : ∀ (n : Nat) (u0 : List Line) (u1 : Int) (u2 : Int) (u3 : Int) (u4 : Line → Line → Int), symMu u0 u1 u2 u3 u4 < n → symPre u0 u1 u2 u3 u4 → ∀ (ao1 : Option Addr) (cap2 : Nat) (fid3 : Nat) (caps4 : Array Value) (B : Nat) (w0 : World) (Z0 : Fz) (Rr : List Res) (Z : Fz) (w : World) (hf5 : ∀ (Z1 : Fz) (w1 : World), Z.le Z1 → Z1.on w1 → ∀ (x0 : Line) (x1 : Line) (xao0 : Option Addr) (xcap0 : Nat) (xao1 : Option Addr) (xcap1 : Nat), SlR t8 Z1 xao0 xcap0 x0.F.Data → SlR t8 Z1 xao1 xcap1 x1.F.Data → Calls Try.prog fid3 (#[.agg #[i6 x0.Time, i6 x0.Bus, i6 x0.F.ID, .bool x0.F.Long, .bool x0.F.Fast, .bool x0.F.Remote, i6 x0.F.Size, .slice xao0 x0.F.Data.length xcap0], .agg #[i6 x1.Time, i6 x1.Bus, i6 x1.F.ID, .bool x1.F.Long, .bool x1.F.Fast, .bool x1.F.Remote, i6 x1.F.Size, .slice xao1 x1.F.Data.length xcap1]] ++ caps4) w1 fun e w2 => e = .returned (i6 (u4 x0 x1)) ∧ Below w1.heap.size w1 w2) (hg6 : ∀ x w, Sem.run Try.prog (callFunc fid3 x) w = .ok (.enter fid3 x) w) (hM0 : Mem B [] w0 Z0 ((.own tyLine 42 ao1 cap2 u0) :: Rr) Z w) (hZ : Z.on w), Calls Try.prog 82 #[.slice ao1 u0.length cap2, i6 u1, i6 u2, i6 u3, .func (.func fid3) #[] caps4] w fun e w' => ∃ (Z' : Fz), e = .returned (.tuple #[]) ∧ Fz.le Z Z' ∧ ((segC2 u0 u1 u2 u3 u4).length = u0.length) ∧ Mem B [] w0 Z0 ((.own tyLine 42 ao1 cap2 (segC2 u0 u1 u2 u3 u4)) :: Rr) Z' w' := by
  intro n
  induction n with
  | zero => intro u0 u1 u2 u3 u4 h; exact absurd h (Nat.not_lt_zero _)
  | succ n ih =>
    intro u0 u1 u2 u3 u4 h hpre ao1 cap2 fid3 caps4 B w0 Z0 Rr Z w hf5 hg6 hM0 hZ
    exact (ssym_walk u0 u1 u2 u3 u4 ao1 cap2 fid3 caps4 B w0 Z0 Rr Z w hf5 hg6 hM0 hZ (fun u0' u1' u2' u3' u4' hc => ih u0' u1' u2' u3' u4' (by omega) hc.2) (ssym_ok u0 u1 u2 u3 u4 hpre)).mono fun _ _ ⟨r, h0, he, hk, f0, f1, hm⟩ => by subst hk; exact ⟨h0, he, f0, f1, hm⟩
theorem ssym_fun (u0 : List Line) (u1 : Int) (u2 : Int) (u3 : Int) (u4 : Line → Line → Int) (hpre : symPre u0 u1 u2 u3 u4) : ∀ (ao1 : Option Addr) (cap2 : Nat) (fid3 : Nat) (caps4 : Array Value) (B : Nat) (w0 : World) (Z0 : Fz) (Rr : List Res) (Z : Fz) (w : World) (hf5 : ∀ (Z1 : Fz) (w1 : World), Z.le Z1 → Z1.on w1 → ∀ (x0 : Line) (x1 : Line) (xao0 : Option Addr) (xcap0 : Nat) (xao1 : Option Addr) (xcap1 : Nat), SlR t8 Z1 xao0 xcap0 x0.F.Data → SlR t8 Z1 xao1 xcap1 x1.F.Data → Calls Try.prog fid3 (#[.agg #[i6 x0.Time, i6 x0.Bus, i6 x0.F.ID, .bool x0.F.Long, .bool x0.F.Fast, .bool x0.F.Remote, i6 x0.F.Size, .slice xao0 x0.F.Data.length xcap0], .agg #[i6 x1.Time, i6 x1.Bus, i6 x1.F.ID, .bool x1.F.Long, .bool x1.F.Fast, .bool x1.F.Remote, i6 x1.F.Size, .slice xao1 x1.F.Data.length xcap1]] ++ caps4) w1 fun e w2 => e = .returned (i6 (u4 x0 x1)) ∧ Below w1.heap.size w1 w2) (hg6 : ∀ x w, Sem.run Try.prog (callFunc fid3 x) w = .ok (.enter fid3 x) w) (hM0 : Mem B [] w0 Z0 ((.own tyLine 42 ao1 cap2 u0) :: Rr) Z w) (hZ : Z.on w), Calls Try.prog 82 #[.slice ao1 u0.length cap2, i6 u1, i6 u2, i6 u3, .func (.func fid3) #[] caps4] w fun e w' => ∃ (Z' : Fz), e = .returned (.tuple #[]) ∧ Fz.le Z Z' ∧ ((segC2 u0 u1 u2 u3 u4).length = u0.length) ∧ Mem B [] w0 Z0 ((.own tyLine 42 ao1 cap2 (segC2 u0 u1 u2 u3 u4)) :: Rr) Z' w' := ssym_all _ u0 u1 u2 u3 u4 (Nat.lt_succ_self _) hpre

theorem sstab_walk (u0 : List Line) (u1 : Int) (u2 : Line → Line → Int) (ao1 : Option Addr) (cap2 : Nat) (fid3 : Nat) (caps4 : Array Value) (B : Nat) (w0 : World) (Z0 : Fz) (Rr : List Res) (Z : Fz) (w : World) (hf5 : ∀ (Z1 : Fz) (w1 : World), Z.le Z1 → Z1.on w1 → ∀ (x0 : Line) (x1 : Line) (xao0 : Option Addr) (xcap0 : Nat) (xao1 : Option Addr) (xcap1 : Nat), SlR t8 Z1 xao0 xcap0 x0.F.Data → SlR t8 Z1 xao1 xcap1 x1.F.Data → Calls Try.prog fid3 (#[.agg #[i6 x0.Time, i6 x0.Bus, i6 x0.F.ID, .bool x0.F.Long, .bool x0.F.Fast, .bool x0.F.Remote, i6 x0.F.Size, .slice xao0 x0.F.Data.length xcap0], .agg #[i6 x1.Time, i6 x1.Bus, i6 x1.F.ID, .bool x1.F.Long, .bool x1.F.Fast, .bool x1.F.Remote, i6 x1.F.Size, .slice xao1 x1.F.Data.length xcap1]] ++ caps4) w1 fun e w2 => e = .returned (i6 (u2 x0 x1)) ∧ Below w1.heap.size w1 w2) (hg6 : ∀ x w, Sem.run Try.prog (callFunc fid3 x) w = .ok (.enter fid3 x) w) (hM0 : Mem B [] w0 Z0 ((.own tyLine 42 ao1 cap2 u0) :: Rr) Z w) (hZ : Z.on w) {K : (List Line) → Prop} (hp : sstab_vc u0 u1 u2 K) : Calls Try.prog 73 #[.slice ao1 u0.length cap2, i6 u1, .func (.func fid3) #[] caps4] w fun e w' => ∃ (r : (List Line)) (Z' : Fz), e = .returned (.tuple #[]) ∧ K r ∧ Fz.le Z Z' ∧ (r.length = u0.length) ∧ Mem B [] w0 Z0 ((.own tyLine 42 ao1 cap2 r) :: Rr) Z' w' := by
 refine enter0 Try.func73 rfl rfl (by kernel_rfl) ?_; intro a0 W; have c := Fz.le.refl Z
 have a6 := hp (hM0.ownSmall 0 rfl)
 refine sqB W hM0 [] [] [(6, i6 20)] ?_; intro a9 X
 refine sqB X hM0 [] [] [(7, i6 0), (8, i6 20)] ?_; intro Y aa
 refine s_ (b_ ?_)
 have ab : Fr 63 [] [⟨0, [], .slice ao1 u0.length cap2⟩, ⟨1, [], i6 u1⟩, ⟨2, [], .func (.func fid3) #[] caps4⟩, ⟨6, [], i6 20⟩, ⟨7, [], i6 0⟩, ⟨8, [], i6 20⟩] Y := aa.reg
 obtain ⟨a7, a8, ba, bb⟩ := a6
 refine lp (ι := Int × Int × (List Line) × Fz) (fun s => [⟨0, [], .slice ao1 s.2.2.1.length cap2⟩, ⟨1, [], i6 u1⟩, ⟨2, [], .func (.func fid3) #[] caps4⟩, ⟨6, [], i6 20⟩, ⟨7, [], i6 s.1⟩, ⟨8, [], i6 s.2.1⟩]) (fun s => ((.own tyLine 42 ao1 cap2 s.2.2.1) :: Rr)) (fun s => s.2.2.2) (fun s => a7 s.1 s.2.1 s.2.2.1 ∧ Fz.le Z s.2.2.2) (fun s => a8 s.1 s.2.1 s.2.2.1) ⟨0, 20, u0, Z⟩ ⟨ba, Fz.le.refl _⟩ (by exact ab.region (by kernel_rfl) (by kernel_rfl)) (by exact hM0) ?_
 rintro ⟨d, f, h, bc⟩ ⟨bd, m⟩ be bf ad ae
 have A := bb d f h bd
 replace c := Fz.le.trans c m
 refine s_ (sqB ad ae [] [] [(13, .bool (decide (f ≤ u1)))] ?_); intro b4 p
 refine cd p (t := decide (f ≤ u1)) (by kernel_rfl) (fun N => ?_) (fun N => ?_)
 · -- yes
  have bg := A.1 N
  refine k_ (b_ (sqH ?_)); intro bh ag
  refine bt p ae 4 [] [] [(14, .slice ao1 h.length cap2), (15, i6 d), (16, i6 f), (17, .func (.func fid3) #[] caps4)] ?_; intro b5 ah
  obtain ⟨bi, ai⟩ := bg
  refine ck ah 81 #[.slice ao1 h.length cap2, i6 d, i6 f, .func (.func fid3) #[] caps4] ?_
  refine (sins_fun h d f u2 bi ao1 cap2 fid3 caps4 _ _ _ _ _ _ (fun Z1 w1 h1 h2 => hf5 Z1 w1 (c.trans h1) h2) hg6 ae ae.fz).mono ?_; rintro _ bj ⟨aj, rfl, ak, bk, hm⟩; refine ⟨_, rfl, ?_⟩; intro bl al; have am := hm
  replace m := m.mono ak
  have an : Fr 63 [] [⟨0, [], .slice ao1 (sinsS h d f u2).length cap2⟩, ⟨1, [], i6 u1⟩, ⟨2, [], .func (.func fid3) #[] caps4⟩, ⟨6, [], i6 20⟩, ⟨7, [], i6 d⟩, ⟨8, [], i6 f⟩, ⟨13, [], .bool (decide (f ≤ u1))⟩, ⟨14, [], .slice ao1 (sinsS h d f u2).length cap2⟩, ⟨15, [], i6 d⟩, ⟨16, [], i6 f⟩, ⟨17, [], .func (.func fid3) #[] caps4⟩, ⟨18, [], .tuple #[]⟩] bl := by rw [bk]; exact al.region (by kernel_rfl) (by kernel_rfl)
  have C : Mem B [] w0 Z0 ((.own tyLine 42 ao1 cap2 (sinsS h d f u2)) :: Rr) aj bj := am
  have ao := ai (C.ownSmall 0 rfl)
  apply ag
  refine sqB an C [] [] [(7, i6 f)] ?_; intro b6 ap
  refine rgB ap C [] [] [(8, i6 (w64 (f + 20)))] ?_; intro b7 bm
  exact j_ (d_ ⟨⟨f, w64 (f + 20), (sinsS h d f u2), aj⟩, ⟨ao.1, m⟩, ao.2, (bm.region (by kernel_rfl) (by kernel_rfl)).anyβ _ (by kernel_rfl), C.kp⟩)
 · -- no
  have bn := A.2 N
  refine x_ (y_ (y_ (z_ (t_ (sqH ?_))))); intro bo aq
  refine bt p ae 4 [] [] [(23, .slice ao1 h.length cap2), (24, i6 d), (25, i6 u1), (26, .func (.func fid3) #[] caps4)] ?_; intro b8 ar
  obtain ⟨bp, au⟩ := bn
  refine ck ar 81 #[.slice ao1 h.length cap2, i6 d, i6 u1, .func (.func fid3) #[] caps4] ?_
  refine (sins_fun h d u1 u2 bp ao1 cap2 fid3 caps4 _ _ _ _ _ _ (fun Z1 w1 h1 h2 => hf5 Z1 w1 (c.trans h1) h2) hg6 ae ae.fz).mono ?_; rintro _ bq ⟨O, rfl, av, br, hm⟩; refine ⟨_, rfl, ?_⟩; intro P aw; have ax := hm
  replace c := Fz.le.trans c av
  have ay : Fr 63 [] [⟨0, [], .slice ao1 (sinsS h d u1 u2).length cap2⟩, ⟨1, [], i6 u1⟩, ⟨2, [], .func (.func fid3) #[] caps4⟩, ⟨6, [], i6 20⟩, ⟨7, [], i6 d⟩, ⟨8, [], i6 f⟩, ⟨13, [], .bool (decide (f ≤ u1))⟩, ⟨23, [], .slice ao1 (sinsS h d u1 u2).length cap2⟩, ⟨24, [], i6 d⟩, ⟨25, [], i6 u1⟩, ⟨26, [], .func (.func fid3) #[] caps4⟩, ⟨27, [], .tuple #[]⟩] P := by rw [br]; exact aw.region (by kernel_rfl) (by kernel_rfl)
  have Q : Mem B [] w0 Z0 ((.own tyLine 42 ao1 cap2 (sinsS h d u1 u2)) :: Rr) O bq := ax
  have bs := au (Q.ownSmall 0 rfl)
  apply aq
  apply b_
  have az : Fr 63 [] [⟨0, [], .slice ao1 (sinsS h d u1 u2).length cap2⟩, ⟨1, [], i6 u1⟩, ⟨2, [], .func (.func fid3) #[] caps4⟩, ⟨6, [], i6 20⟩] P := ay.reg
  obtain ⟨bu, bv, bw, bx⟩ := bs
  refine lp (ι := Int × (List Line) × Fz) (fun s => [⟨0, [], .slice ao1 s.2.1.length cap2⟩, ⟨1, [], i6 u1⟩, ⟨2, [], .func (.func fid3) #[] caps4⟩, ⟨6, [], i6 s.1⟩]) (fun s => ((.own tyLine 42 ao1 cap2 s.2.1) :: Rr)) (fun s => s.2.2) (fun s => bu s.1 s.2.1 ∧ Fz.le O s.2.2) (fun s => bv s.1 s.2.1) ⟨20, (sinsS h d u1 u2), O⟩ ⟨bw, Fz.le.refl _⟩ (by exact az.region (by kernel_rfl) (by kernel_rfl)) (by exact Q) ?_
  rintro ⟨a, n, D⟩ ⟨bz, R⟩ bA bB aB aC
  have E := bx a n bz
  replace c := Fz.le.trans c R
  refine s_ (sqB aB aC [] [] [(30, .bool (decide (a < u1)))] ?_); intro ca u
  refine cd u (t := decide (a < u1)) (by kernel_rfl) (fun S => ?_) (fun S => ?_)
  · -- yes
   have bD := E.1 S
   refine k_ (b_ (sqB u aC [] [] [(7, i6 0), (8, i6 (w64 (2 * a)))] ?_)); intro aE aF
   refine s_ (b_ ?_)
   have aG : Fr 63 [] [⟨0, [], .slice ao1 n.length cap2⟩, ⟨1, [], i6 u1⟩, ⟨2, [], .func (.func fid3) #[] caps4⟩, ⟨6, [], i6 a⟩, ⟨7, [], i6 0⟩, ⟨8, [], i6 (w64 (2 * a))⟩] aE := aF.reg
   obtain ⟨bE, bF, bG, bH⟩ := bD
   refine lp (ι := Int × Int × (List Line) × Fz) (fun s => [⟨0, [], .slice ao1 s.2.2.1.length cap2⟩, ⟨1, [], i6 u1⟩, ⟨2, [], .func (.func fid3) #[] caps4⟩, ⟨6, [], i6 a⟩, ⟨7, [], i6 s.1⟩, ⟨8, [], i6 s.2.1⟩]) (fun s => ((.own tyLine 42 ao1 cap2 s.2.2.1) :: Rr)) (fun s => s.2.2.2) (fun s => bE s.1 s.2.1 s.2.2.1 ∧ Fz.le D s.2.2.2) (fun s => bF s.1 s.2.1 s.2.2.1) ⟨0, w64 (2 * a), n, D⟩ ⟨bG, Fz.le.refl _⟩ (by exact aG.region (by kernel_rfl) (by kernel_rfl)) (by exact aC) ?_
   rintro ⟨b, g, i, aI⟩ ⟨bI, l⟩ bJ bK aJ aK
   have G := bH b g i bI
   replace c := Fz.le.trans c l
   have o := R.mono l
   refine s_ (sqB aJ aK [] [] [(35, .bool (decide (g ≤ u1)))] ?_); intro cc y
   refine cd y (t := decide (g ≤ u1)) (by kernel_rfl) (fun T => ?_) (fun T => ?_)
   · -- yes
    have bL := G.1 T
    refine k_ (b_ (sqH ?_)); intro bM aM
    refine bt y aK 7 [] [] [(36, .slice ao1 i.length cap2), (37, i6 b), (40, i6 (w64 (b + a))), (41, i6 g), (42, .func (.func fid3) #[] caps4)] ?_; intro ce aN
    obtain ⟨bN, aO⟩ := bL
    refine ck aN 82 #[.slice ao1 i.length cap2, i6 b, i6 (w64 (b + a)), i6 g, .func (.func fid3) #[] caps4] ?_
    refine (ssym_fun i b (w64 (b + a)) g u2 bN ao1 cap2 fid3 caps4 _ _ _ _ _ _ (fun Z1 w1 h1 h2 => hf5 Z1 w1 (c.trans h1) h2) hg6 aK aK.fz).mono ?_; rintro _ bO ⟨aP, rfl, I, bP, hm⟩; refine ⟨_, rfl, ?_⟩; intro bQ aQ; have aR := hm
    replace l := l.mono I
    have aS : Fr 63 [] [⟨0, [], .slice ao1 (segC2 i b (w64 (b + a)) g u2).length cap2⟩, ⟨1, [], i6 u1⟩, ⟨2, [], .func (.func fid3) #[] caps4⟩, ⟨6, [], i6 a⟩, ⟨7, [], i6 b⟩, ⟨8, [], i6 g⟩, ⟨35, [], .bool (decide (g ≤ u1))⟩, ⟨36, [], .slice ao1 (segC2 i b (w64 (b + a)) g u2).length cap2⟩, ⟨37, [], i6 b⟩, ⟨40, [], i6 (w64 (b + a))⟩, ⟨41, [], i6 g⟩, ⟨42, [], .func (.func fid3) #[] caps4⟩, ⟨43, [], .tuple #[]⟩] bQ := by rw [bP]; exact aQ.region (by kernel_rfl) (by kernel_rfl)
    have J : Mem B [] w0 Z0 ((.own tyLine 42 ao1 cap2 (segC2 i b (w64 (b + a)) g u2)) :: Rr) aP bO := aR
    have aT := aO (J.ownSmall 0 rfl)
    apply aM
    refine sqB aS J [] [] [(7, i6 g)] ?_; intro cf aU
    refine rgB aU J [] [] [(8, i6 (w64 (g + (w64 (2 * a)))))] ?_; intro cg bR
    exact j_ (d_ ⟨⟨g, w64 (g + (w64 (2 * a))), (segC2 i b (w64 (b + a)) g u2), aP⟩, ⟨aT.1, l⟩, aT.2, (bR.region (by kernel_rfl) (by kernel_rfl)).anyβ _ (by kernel_rfl), J.kp⟩)
   · -- no
    have L := G.2 T
    refine x_ (y_ (y_ (z_ (t_ (s_ (sqB y aK [] [] [(9, i6 (w64 (b + a)))] ?_)))))); intro ch aV
    refine sqB aV aK [] [] [(54, .bool (decide ((w64 (b + a)) < u1)))] ?_; intro ci z
    refine cd z (t := decide ((w64 (b + a)) < u1)) (by kernel_rfl) (fun U => ?_) (fun U => ?_)
    · -- yes
     have bS := L.1 U
     refine rgH ?_; intro bT aW
     refine bt z aK 5 [] [] [(55, .slice ao1 i.length cap2), (56, i6 b), (57, i6 (w64 (b + a))), (58, i6 u1), (59, .func (.func fid3) #[] caps4)] ?_; intro cj aX
     obtain ⟨bU, aY⟩ := bS
     refine ck aX 82 #[.slice ao1 i.length cap2, i6 b, i6 (w64 (b + a)), i6 u1, .func (.func fid3) #[] caps4] ?_
     refine (ssym_fun i b (w64 (b + a)) u1 u2 bU ao1 cap2 fid3 caps4 _ _ _ _ _ _ (fun Z1 w1 h1 h2 => hf5 Z1 w1 (c.trans h1) h2) hg6 aK aK.fz).mono ?_; rintro _ bV ⟨aZ, rfl, M, bW, hm⟩; refine ⟨_, rfl, ?_⟩; intro bX a1; have a2 := hm
     replace o := o.mono M
     have a3 : Fr 63 [] [⟨0, [], .slice ao1 (segC2 i b (w64 (b + a)) u1 u2).length cap2⟩, ⟨1, [], i6 u1⟩, ⟨2, [], .func (.func fid3) #[] caps4⟩, ⟨6, [], i6 a⟩, ⟨7, [], i6 b⟩, ⟨8, [], i6 g⟩, ⟨9, [], i6 (w64 (b + a))⟩, ⟨35, [], .bool (decide (g ≤ u1))⟩, ⟨54, [], .bool (decide ((w64 (b + a)) < u1))⟩, ⟨55, [], .slice ao1 (segC2 i b (w64 (b + a)) u1 u2).length cap2⟩, ⟨56, [], i6 b⟩, ⟨57, [], i6 (w64 (b + a))⟩, ⟨58, [], i6 u1⟩, ⟨59, [], .func (.func fid3) #[] caps4⟩, ⟨60, [], .tuple #[]⟩] bX := by rw [bW]; exact a1.region (by kernel_rfl) (by kernel_rfl)
     have V : Mem B [] w0 Z0 ((.own tyLine 42 ao1 cap2 (segC2 i b (w64 (b + a)) u1 u2)) :: Rr) aZ bV := a2
     have a4 := aY (V.ownSmall 0 rfl)
     apply aW
     refine t_ (rgB a3 V [] [] [(6, i6 (w64 (a * 2)))] ?_); intro cl bY
     exact j_ (d_ ⟨⟨w64 (a * 2), (segC2 i b (w64 (b + a)) u1 u2), aZ⟩, ⟨a4.1, o⟩, a4.2, (bY.region (by kernel_rfl) (by kernel_rfl)).anyβ _ (by kernel_rfl), V.kp⟩)
    · -- no
     have a5 := L.2 U
     refine k_ (rgB z aK [] [] [(6, i6 (w64 (a * 2)))] ?_); intro cm bZ
     exact j_ (d_ ⟨⟨w64 (a * 2), i, aI⟩, ⟨a5.1, o⟩, a5.2, (bZ.region (by kernel_rfl) (by kernel_rfl)).anyβ _ (by kernel_rfl), aK.kp⟩)
  · -- no
   have b0 := E.2 S
   refine x_ (y_ (y_ (z_ ?_)))
   obtain ⟨b1, b2⟩ := b0
   refine rN (fn := Try.f73) (v := .tuple #[]) u (re0 u (fn := Try.f73) rfl) ?_
   exact ⟨n, D, rfl, b2, c, b1, aC.kp⟩

end Go.Proofs.Ytmkdnaecmombnaa
set_option linter.unusedVariables false
set_option linter.unusedSimpArgs false
set_option maxRecDepth 100000
set_option maxHeartbeats 0
namespace Go.Proofs.Ytmkdnaecmombnaa
open Go.Sy Go.RowKit
theorem sstab_fun (u0 : List Line) (u1 : Int) (u2 : Line → Line → Int) (hpre : sstabPre u0 u1 u2) (ao1 : Option Addr) (cap2 : Nat) (fid3 : Nat) (caps4 : Array Value) (B : Nat) (w0 : World) (Z0 : Fz) (Rr : List Res) (Z : Fz) (w : World) (hf5 : ∀ (Z1 : Fz) (w1 : World), Z.le Z1 → Z1.on w1 → ∀ (x0 : Line) (x1 : Line) (xao0 : Option Addr) (xcap0 : Nat) (xao1 : Option Addr) (xcap1 : Nat), SlR t8 Z1 xao0 xcap0 x0.F.Data → SlR t8 Z1 xao1 xcap1 x1.F.Data → Calls Try.prog fid3 (#[.agg #[i6 x0.Time, i6 x0.Bus, i6 x0.F.ID, .bool x0.F.Long, .bool x0.F.Fast, .bool x0.F.Remote, i6 x0.F.Size, .slice xao0 x0.F.Data.length xcap0], .agg #[i6 x1.Time, i6 x1.Bus, i6 x1.F.ID, .bool x1.F.Long, .bool x1.F.Fast, .bool x1.F.Remote, i6 x1.F.Size, .slice xao1 x1.F.Data.length xcap1]] ++ caps4) w1 fun e w2 => e = .returned (i6 (u2 x0 x1)) ∧ Below w1.heap.size w1 w2) (hg6 : ∀ x w, Sem.run Try.prog (callFunc fid3 x) w = .ok (.enter fid3 x) w) (hM0 : Mem B [] w0 Z0 ((.own tyLine 42 ao1 cap2 u0) :: Rr) Z w) (hZ : Z.on w) : Calls Try.prog 73 #[.slice ao1 u0.length cap2, i6 u1, .func (.func fid3) #[] caps4] w fun e w' => ∃ (Z' : Fz), e = .returned (.tuple #[]) ∧ Fz.le Z Z' ∧ ((sstabS u0 u1 u2).length = u0.length) ∧ Mem B [] w0 Z0 ((.own tyLine 42 ao1 cap2 (sstabS u0 u1 u2)) :: Rr) Z' w' :=
  (sstab_walk u0 u1 u2 ao1 cap2 fid3 caps4 B w0 Z0 Rr Z w hf5 hg6 hM0 hZ (sstab_ok2 u0 u1 u2 hpre)).mono fun _ _ ⟨r, h0, he, hk, f0, f1, hm⟩ => by subst hk; exact ⟨h0, he, f0, f1, hm⟩

theorem ssort_walk (u0 : List Line) (u1 : Line → Line → Int) (ao1 : Option Addr) (cap2 : Nat) (fid3 : Nat) (caps4 : Array Value) (B : Nat) (w0 : World) (Z0 : Fz) (Rr : List Res) (Z : Fz) (w : World) (hf5 : ∀ (Z1 : Fz) (w1 : World), Z.le Z1 → Z1.on w1 → ∀ (x0 : Line) (x1 : Line) (xao0 : Option Addr) (xcap0 : Nat) (xao1 : Option Addr) (xcap1 : Nat), SlR t8 Z1 xao0 xcap0 x0.F.Data → SlR t8 Z1 xao1 xcap1 x1.F.Data → Calls Try.prog fid3 (#[.agg #[i6 x0.Time, i6 x0.Bus, i6 x0.F.ID, .bool x0.F.Long, .bool x0.F.Fast, .bool x0.F.Remote, i6 x0.F.Size, .slice xao0 x0.F.Data.length xcap0], .agg #[i6 x1.Time, i6 x1.Bus, i6 x1.F.ID, .bool x1.F.Long, .bool x1.F.Fast, .bool x1.F.Remote, i6 x1.F.Size, .slice xao1 x1.F.Data.length xcap1]] ++ caps4) w1 fun e w2 => e = .returned (i6 (u1 x0 x1)) ∧ Below w1.heap.size w1 w2) (hg6 : ∀ x w, Sem.run Try.prog (callFunc fid3 x) w = .ok (.enter fid3 x) w) (hM0 : Mem B [] w0 Z0 ((.own tyLine 42 ao1 cap2 u0) :: Rr) Z w) (hZ : Z.on w) {K : (List Line) → Prop} (hp : ssort_vc u0 u1 K) : Calls Try.prog 55 #[.slice ao1 u0.length cap2, .func (.func fid3) #[] caps4] w fun e w' => ∃ (r : (List Line)) (Z' : Fz), e = .returned (.tuple #[]) ∧ K r ∧ Fz.le Z Z' ∧ (r.length = u0.length) ∧ Mem B [] w0 Z0 ((.own tyLine 42 ao1 cap2 r) :: Rr) Z' w' := by
 refine enter0 Try.func55 rfl rfl (by kernel_rfl) ?_; intro z b; have a := Fz.le.refl Z
 have l := hp (hM0.ownSmall 0 rfl)
 refine rgH ?_; intro m c
 refine bt b hM0 4 [] [] [(4, .slice ao1 u0.length cap2), (6, i6 (u0.length : Int)), (7, .func (.func fid3) #[] caps4)] ?_; intro A d
 obtain ⟨n, f⟩ := l
 refine ck d 73 #[.slice ao1 u0.length cap2, i6 (u0.length : Int), .func (.func fid3) #[] caps4] ?_
 refine (sstab_fun u0 (u0.length : Int) u1 n ao1 cap2 fid3 caps4 _ _ _ _ _ _ (fun Z1 w1 h1 h2 => hf5 Z1 w1 (a.trans h1) h2) hg6 hM0 hM0.fz).mono ?_; rintro _ o ⟨g, rfl, p, q, hm⟩; refine ⟨_, rfl, ?_⟩; intro s h; have i := hm
 replace a := Fz.le.trans a p
 have j : Fr 9 [] [⟨0, [], .slice ao1 (sstabS u0 (u0.length : Int) u1).length cap2⟩, ⟨1, [], .func (.func fid3) #[] caps4⟩, ⟨4, [], .slice ao1 (sstabS u0 (u0.length : Int) u1).length cap2⟩, ⟨6, [], i6 (u0.length : Int)⟩, ⟨7, [], .func (.func fid3) #[] caps4⟩, ⟨8, [], .tuple #[]⟩] s := by rw [q]; exact h.region (by kernel_rfl) (by kernel_rfl)
 have k : Mem B [] w0 Z0 ((.own tyLine 42 ao1 cap2 (sstabS u0 (u0.length : Int) u1)) :: Rr) g o := i
 have t := f (k.ownSmall 0 rfl)
 apply c
 obtain ⟨u, y⟩ := t
 refine rN (fn := Try.f55) (v := .tuple #[]) j (re0 j (fn := Try.f55) rfl) ?_
 exact ⟨(sstabS u0 (u0.length : Int) u1), g, rfl, y, a, u, k.kp⟩

end Go.Proofs.Ytmkdnaecmombnaa
set_option linter.unusedVariables false
set_option linter.unusedSimpArgs false
set_option linter.defProp false
set_option maxRecDepth 100000
set_option maxHeartbeats 0
namespace Go.Proofs.Ytmkdnaecmombnaa
open Go.Sy Go.RowKit
theorem ssort_fun (u0 : List Line) (u1 : Line → Line → Int) (hpre : ssortPre u0 u1) (ao1 : Option Addr) (cap2 : Nat) (fid3 : Nat) (caps4 : Array Value) (B : Nat) (w0 : World) (Z0 : Fz) (Rr : List Res) (Z : Fz) (w : World) (hf5 : ∀ (Z1 : Fz) (w1 : World), Z.le Z1 → Z1.on w1 → ∀ (x0 : Line) (x1 : Line) (xao0 : Option Addr) (xcap0 : Nat) (xao1 : Option Addr) (xcap1 : Nat), SlR t8 Z1 xao0 xcap0 x0.F.Data → SlR t8 Z1 xao1 xcap1 x1.F.Data → Calls Try.prog fid3 (#[.agg #[i6 x0.Time, i6 x0.Bus, i6 x0.F.ID, .bool x0.F.Long, .bool x0.F.Fast, .bool x0.F.Remote, i6 x0.F.Size, .slice xao0 x0.F.Data.length xcap0], .agg #[i6 x1.Time, i6 x1.Bus, i6 x1.F.ID, .bool x1.F.Long, .bool x1.F.Fast, .bool x1.F.Remote, i6 x1.F.Size, .slice xao1 x1.F.Data.length xcap1]] ++ caps4) w1 fun e w2 => e = .returned (i6 (u1 x0 x1)) ∧ Below w1.heap.size w1 w2) (hg6 : ∀ x w, Sem.run Try.prog (callFunc fid3 x) w = .ok (.enter fid3 x) w) (hM0 : Mem B [] w0 Z0 ((.own tyLine 42 ao1 cap2 u0) :: Rr) Z w) (hZ : Z.on w) : Calls Try.prog 55 #[.slice ao1 u0.length cap2, .func (.func fid3) #[] caps4] w fun e w' => ∃ (Z' : Fz), e = .returned (.tuple #[]) ∧ Fz.le Z Z' ∧ ((ssortS u0 u1).length = u0.length) ∧ Mem B [] w0 Z0 ((.own tyLine 42 ao1 cap2 (ssortS u0 u1)) :: Rr) Z' w' :=
  (ssort_walk u0 u1 ao1 cap2 fid3 caps4 B w0 Z0 Rr Z w hf5 hg6 hM0 hZ (ssort_ok u0 u1 hpre)).mono fun _ _ ⟨r, h0, he, hk, f0, f1, hm⟩ => by subst hk; exact ⟨h0, he, f0, f1, hm⟩

def lcomp_fun (u0 : List Line) (u1 : Line → Line → Bool) (ao1 : Option Addr) (cap2 : Nat) (fid3 : Nat) (caps4 : Array Value) (B : Nat) (w0 : World) (Z0 : Fz) (Rr : List Res) (Z : Fz) (w : World) (hf5 : ∀ (Z1 : Fz) (w1 : World), Z.le Z1 → Z1.on w1 → ∀ (x0 : Line) (x1 : Line) (xao0 : Option Addr) (xcap0 : Nat) (xao1 : Option Addr) (xcap1 : Nat), SlR t8 Z1 xao0 xcap0 x0.F.Data → SlR t8 Z1 xao1 xcap1 x1.F.Data → Calls Try.prog fid3 (#[.agg #[i6 x0.Time, i6 x0.Bus, i6 x0.F.ID, .bool x0.F.Long, .bool x0.F.Fast, .bool x0.F.Remote, i6 x0.F.Size, .slice xao0 x0.F.Data.length xcap0], .agg #[i6 x1.Time, i6 x1.Bus, i6 x1.F.ID, .bool x1.F.Long, .bool x1.F.Fast, .bool x1.F.Remote, i6 x1.F.Size, .slice xao1 x1.F.Data.length xcap1]] ++ caps4) w1 fun e w2 => e = .returned (.bool (u1 x0 x1)) ∧ Below w1.heap.size w1 w2) (hg6 : ∀ x w, Sem.run Try.prog (callFunc fid3 x) w = .ok (.enter fid3 x) w) (hM0 : Mem B [] w0 Z0 ((.own tyLine 42 ao1 cap2 u0) :: Rr) Z w) (hZ : Z.on w) := fc_ (lcomp_walk u0 u1 ao1 cap2 fid3 caps4 B w0 Z0 Rr Z w hf5 hg6 hM0 hZ (lcomp_ok u0 u1))
def gnew_fun (u0 : List Route) (hpre : u0.length * 56 ≤ 140737488355328) (ao1 : Option Addr) (cap2 : Nat) (Z : Fz) (w : World) (hs3 : SlR tyRoute Z ao1 cap2 u0) (hZ : Z.on w) := fe_ (gnew_walk u0 ao1 cap2 Z w hs3 hZ (gnew_ok u0 hpre))
def rsame_fun (u0 : Frame) (u1 : Frame) (ao1 : Option Addr) (cap2 : Nat) (ao4 : Option Addr) (cap5 : Nat) (Z : Fz) (w : World) (hs3 : SlR t8 Z ao1 cap2 u0.Data) (hs6 : SlR t8 Z ao4 cap5 u1.Data) (hZ : Z.on w) := f_ (rsame_walk u0 u1 ao1 cap2 ao4 cap5 Z w hs3 hs6 hZ (rsame_ok u0 u1))
def sameg_fun (u0 : Gate) (u1 : Gate) (ao1 : Option Addr) (cap2 : Nat) (ao4 : Option Addr) (cap5 : Nat) (ao7 : Option Addr) (cap8 : Nat) (ao10 : Option Addr) (cap11 : Nat) (Z : Fz) (w : World) (hs3 : SlR tyRoute Z ao1 cap2 u0.Routes) (hs6 : SlR t6 Z ao4 cap5 u0.Last) (hs9 : SlR tyRoute Z ao7 cap8 u1.Routes) (hs12 : SlR t6 Z ao10 cap11 u1.Last) (hZ : Z.on w) := f_ (sameg_walk u0 u1 ao1 cap2 ao4 cap5 ao7 cap8 ao10 cap11 Z w hs3 hs6 hs9 hs12 hZ (sameg_ok u0 u1))
def carried_fun (u0 : Route) (u1 : Int) (u2 : Frame) (hpre : fcheckfr u2 = 0 ∧ -536870911 ≤ u0.Add ∧ u0.Add ≤ 536870911) (ao1 : Option Addr) (cap2 : Nat) (Z : Fz) (w : World) (hs3 : SlR t8 Z ao1 cap2 u2.Data) (hZ : Z.on w) := fc_ (carried_walk u0 u1 u2 ao1 cap2 Z w hs3 hZ (carried_ok u0 u1 u2 hpre))
theorem sorted_walk (u0 : List Line) (ao1 : Option Addr) (cap2 : Nat) (B : Nat) (w0 : World) (Z0 : Fz) (Rr : List Res) (Z : Fz) (w : World) (hM0 : Mem B [] w0 Z0 ((.own tyLine 42 ao1 cap2 u0) :: Rr) Z w) (hZ : Z.on w) {K : (List Line) → Prop} (hp : sorted_vc u0 K) : Calls Try.prog 32 #[.slice ao1 u0.length cap2] w fun e w' => ∃ (r : (List Line)) (ao1001 : Option Addr) (cap1002 : Nat) (Z' : Fz), e = .returned (.slice ao1001 r.length cap1002) ∧ K r ∧ Fz.le Z Z' ∧ Mem B [] w0 Z0 ((.own tyLine 42 ao1001 cap1002 r) :: Rr) Z' w' := by
 refine enter0 Try.func32 rfl rfl (by kernel_rfl) ?_; intro Y k; have a := Fz.le.refl Z
 have I := hp (hM0.ownSmall 0 rfl)
 refine sqB k hM0 [] [] [] ?_; intro a5 l
 refine sqH ?_; intro J m
 refine nw l hM0 pb [.nilFunc] 98 ?_; intro b a9 aa g n
 refine sx g n 0 [.func (.func 54) #[] #[]] 0 ?_; intro L o
 have c : Mem B [] w0 Z0 ((.row b [.func (.func 54) #[] #[]] 98) :: (.own tyLine 42 ao1 cap2 u0) :: Rr) Z L := o
 apply m
 refine sqH ?_; intro M p
 refine bt g c 2 [0] [] [(4, .slice ao1 u0.length cap2), (5, .func (.func 54) #[] #[])] ?_; intro ab q
 obtain ⟨N, s⟩ := I
 refine ck q 55 #[.slice ao1 u0.length cap2, .func (.func 54) #[] #[]] ?_
 refine (ssort_fun u0 (fun x0 x1 => llessS x0 x1 ) N ao1 cap2 54 #[] _ _ _ _ _ _ (fun Z1 w1 h1 h2 x0 x1 m0 n0 m1 n1 s0 s1 => lless_fun x0 x1  m0 n0 m1 n1 Z1 w1 s0 s1 h2) (fun _ _ => by kernel_rfl) (c.perm (pk 1 rfl)) c.fz).mono ?_; rintro _ t ⟨O, rfl, P, Q, hm⟩; refine ⟨_, rfl, ?_⟩; intro R u; have v := hm
 replace a := Fz.le.trans a P
 have x : Fr 10 [] [⟨0, [], .slice ao1 (ssortS u0 (fun x0 x1 => llessS x0 x1 )).length cap2⟩, ⟨3, [], pt b 0⟩, ⟨4, [], .slice ao1 (ssortS u0 (fun x0 x1 => llessS x0 x1 )).length cap2⟩, ⟨5, [], .func (.func 54) #[] #[]⟩, ⟨6, [], .tuple #[]⟩] R := by rw [Q]; exact u.region (by kernel_rfl) (by kernel_rfl)
 have h : Mem B [] w0 Z0 ((.own tyLine 42 ao1 cap2 (ssortS u0 (fun x0 x1 => llessS x0 x1 ))) :: (.row b [.func (.func 54) #[] #[]] 98) :: Rr) O t := v
 have y := s (h.ownSmall 0 rfl)
 apply p
 refine sqH ?_; intro S z
 refine bt x h 2 [] [] [(7, .slice ao1 (ssortS u0 (fun x0 x1 => llessS x0 x1 )).length cap2), (8, .func (.func 57) #[] #[pt b 0])] ?_; intro ac A
 obtain ⟨T, U, C, i⟩ := h.freezeRow 1 rfl
 replace a := Fz.le.trans a U
 have j : Mem B [] w0 Z0 ((.own tyLine 42 ao1 cap2 (ssortS u0 (fun x0 x1 => llessS x0 x1 ))) :: Rr) T t := C
 refine ck A 56 #[.slice ao1 (ssortS u0 (fun x0 x1 => llessS x0 x1 )).length cap2, .func (.func 57) #[] #[pt b 0]] ?_
 refine (lcomp_fun (ssortS u0 (fun x0 x1 => llessS x0 x1 )) (fun x0 x1 => lsame x0 x1 ) ao1 cap2 57 #[pt b 0] _ _ _ _ _ _ (fun Z1 w1 h1 h2 x0 x1 m0 n0 m1 n1 s0 s1 => lsame_fun x0 x1  m0 n0 m1 n1 b 0 Z1 w1 s0 s1 (i.mono h1) h2) (fun _ _ => by kernel_rfl) j j.fz).mono ?_; rintro _ V ⟨d, f, D, rfl, E, hm⟩; refine ⟨_, rfl, ?_⟩; intro ad F; have G := hm
 replace a := Fz.le.trans a E
 have H : Mem B [] w0 Z0 ((.own tyLine 42 d f (lcompS (ssortS u0 (fun x0 x1 => llessS x0 x1 )) (fun x0 x1 => lsame x0 x1 ))) :: Rr) D V := G
 have W := y (H.ownSmall 0 rfl)
 refine s1 F 2 (.slice d (lcompS (ssortS u0 (fun x0 x1 => llessS x0 x1 )) (fun x0 x1 => lsame x0 x1 )).length f) ?_; intro ae X
 apply z
 exact r_ (ra1 X (.slice d (lcompS (ssortS u0 (fun x0 x1 => llessS x0 x1 )) (fun x0 x1 => lsame x0 x1 )).length f) ⟨(lcompS (ssortS u0 (fun x0 x1 => llessS x0 x1 )) (fun x0 x1 => lsame x0 x1 )), d, f, D, rfl, W, a, H.kp⟩)

theorem step1_walk (u0 : Int) (u1 : Int) (cb1 co2 : Nat) (Z : Fz) (w : World) (hP3 : PtR Z cb1 co2 [i6 u1]) (hZ : Z.on w) {K : Bool → Prop} (hp : step1_vc u0 u1 K) : Calls Try.prog 33 #[i6 u0, pt cb1 co2] w fun e w' => ∃ r : Bool, e = .returned (.bool r) ∧ K r ∧ Below w.heap.size w w' := by
 refine enter0 Try.func33 rfl rfl (by kernel_rfl) ?_; intro j b; have a := Mem.start w Z hZ
 refine sqB b a [] [] [] ?_; intro l c
 refine sqH ?_; intro h d
 refine s1 c 4 (i6 u0) ?_; intro m f
 refine z1 f a 5 hP3 0 (i6 u1) rfl ?_; intro n g
 refine bt g a 2 [] [] [(3, .bool (decide (u0 > u1)))] ?_; intro o i
 apply d
 exact r_ (ra1 i (.bool (decide (u0 > u1))) ⟨decide (u0 > u1), rfl, hp, a.below⟩)
def step1_fun (u0 : Int) (u1 : Int) (cb1 co2 : Nat) (Z : Fz) (w : World) (hP3 : PtR Z cb1 co2 [i6 u1]) (hZ : Z.on w) := f_ (step1_walk u0 u1 cb1 co2 Z w hP3 hZ (step1_ok u0 u1))
theorem iidxf_walk (u0 : List Int) (u1 : Int → Bool) (ao1 : Option Addr) (cap2 : Nat) (fid4 : Nat) (caps5 : Array Value) (Z : Fz) (w : World) (hs3 : SlR t6 Z ao1 cap2 u0) (hf6 : ∀ (Z1 : Fz) (w1 : World), Z.le Z1 → Z1.on w1 → ∀ (x0 : Int), Calls Try.prog fid4 (#[i6 x0] ++ caps5) w1 fun e w2 => e = .returned (.bool (u1 x0)) ∧ Below w1.heap.size w1 w2) (hg7 : ∀ x w, Sem.run Try.prog (callFunc fid4 x) w = .ok (.enter fid4 x) w) (hZ : Z.on w) {K : Int → Prop} (hp : iidxf_vc u0 u1 K) : Calls Try.prog 42 #[.slice ao1 u0.length cap2, .func (.func fid4) #[] caps5] w fun e w' => ∃ r : Int, e = .returned (i6 r) ∧ K r ∧ Below w.heap.size w w' := by
 refine enter0 Try.func42 rfl rfl (by kernel_rfl) ?_; intro a0 n; have g := Mem.start w Z hZ; have I := Fz.le.refl Z
 have J := hp (hs3.small)
 refine sqB n g [] [] [] ?_; intro ah o
 refine s_ (sqB o g [] [] [(7, i6 (u0.length : Int)), (8, i6 0)] ?_); intro p q
 apply b_
 have u : Fr 19 [] [⟨0, [], .slice ao1 u0.length cap2⟩, ⟨1, [], .func (.func fid4) #[] caps5⟩, ⟨7, [], i6 (u0.length : Int)⟩, ⟨8, [], i6 0⟩] p := q.reg
 obtain ⟨L, M, N, O⟩ := J
 refine lp (ι := Int) (fun s => [⟨0, [], .slice ao1 u0.length cap2⟩, ⟨1, [], .func (.func fid4) #[] caps5⟩, ⟨7, [], i6 (u0.length : Int)⟩, ⟨8, [], i6 s⟩]) (fun s => []) (fun s => Z) (fun s => L s) (fun s => M s) 0 N (by exact u.region (by kernel_rfl) (by kernel_rfl)) (by exact g) ?_
 rintro a P Q R y z
 have h := O a P
 refine sqB y z [] [] [(9, .bool (decide (a < (u0.length : Int))))] ?_; intro ai d
 apply s_
 refine cd d (t := decide (a < (u0.length : Int))) (by kernel_rfl) (fun l => ?_) (fun l => ?_)
 · -- yes
  have S := h.1 l
  refine k_ (s_ (b_ (sqB d z [] [] [(5, i6 a)] ?_))); intro aj B
  refine sqH ?_; intro U C
  refine bt B z 3 [] [] [(11, .func (.func fid4) #[] caps5), (12, .slice ao1 u0.length cap2), (13, i6 a)] ?_; intro ak D
  obtain ⟨V, E⟩ := S
  refine ix_ D hs3 a V .i64 3 8 ?_; intro al am W c an X Y aa F
  have i := E c X
  obtain rfl : W = ([i6 c] : List Value) := aa
  refine z1 F z 15 Y 0 (i6 c) rfl ?_; intro ao G
  have ab := hf6 _ _ I z.fz c
  refine fcl G z (.bool (u1 c)) fid4 (#[i6 c] ++ caps5) (nog rfl _) rfl (by kernel_rfl) ?h1 ?h2 ?_
  case h1 => exact fv_run rfl (by kernel_rfl) (by kernel_rfl) hg7
  case h2 => exact ab
  intro ap aq f j
  apply C
  refine cd f (t := (u1 c)) (by kernel_rfl) (fun m => ?_) (fun m => ?_)
  · -- yes
   have ac := i.1 m
   refine sqB f j [] [] [(4, i6 a)] ?_; intro ar ad
   exact r_ (i_ (h_ (h_ (i_ (h_ (ra1 ad (i6 a) ⟨a, rfl, ac, j.below⟩))))))
  · -- no
   have H := i.2 m
   refine l_ (j_ (t_ (rgB f j [] [] [(8, i6 (w64 (a + 1)))] ?_))); intro au ae
   exact d_ ⟨w64 (a + 1), H.1, H.2, (ae.region (by kernel_rfl) (by kernel_rfl)).anyβ _ (by kernel_rfl), j.kp⟩
 · -- no
  have af := h.2 l
  refine x_ (y_ (y_ (z_ (t_ (sqB d z [] [] [(4, i6 (-1))] ?_))))); intro av ag
  exact r_ (ra1 ag (i6 (-1)) ⟨-1, rfl, af, z.below⟩)

theorem icontf_walk (u0 : List Int) (u1 : Int → Bool) (ao1 : Option Addr) (cap2 : Nat) (fid4 : Nat) (caps5 : Array Value) (Z : Fz) (w : World) (hs3 : SlR t6 Z ao1 cap2 u0) (hf6 : ∀ (Z1 : Fz) (w1 : World), Z.le Z1 → Z1.on w1 → ∀ (x0 : Int), Calls Try.prog fid4 (#[i6 x0] ++ caps5) w1 fun e w2 => e = .returned (.bool (u1 x0)) ∧ Below w1.heap.size w1 w2) (hg7 : ∀ x w, Sem.run Try.prog (callFunc fid4 x) w = .ok (.enter fid4 x) w) (hZ : Z.on w) {K : Bool → Prop} (hp : icontf_vc u0 u1 K) : Calls Try.prog 19 #[.slice ao1 u0.length cap2, .func (.func fid4) #[] caps5] w fun e w' => ∃ r : Bool, e = .returned (.bool r) ∧ K r ∧ Below w.heap.size w w' := by
 refine enter0 Try.func19 rfl rfl (by kernel_rfl) ?_; intro o c; have a := Mem.start w Z hZ; have j := Fz.le.refl Z
 have k := hp (hs3.small)
 refine sqB c a [] [] [] ?_; intro p d
 refine sqH ?_; intro l f
 refine bt d a 2 [] [] [(5, .slice ao1 u0.length cap2), (6, .func (.func fid4) #[] caps5)] ?_; intro q g
 refine ck g 42 #[.slice ao1 u0.length cap2, .func (.func fid4) #[] caps5] ?_
 refine (iidxf_walk u0 u1 ao1 cap2 fid4 caps5 _ _ hs3 (fun Z1 w1 h1 h2 => hf6 Z1 w1 (j.trans h1) h2) hg7 a.fz k).mono ?_; rintro _ s ⟨b, rfl, m, hb⟩; refine ⟨_, rfl, ?_⟩; intro t h; have i := a.call hb
 refine bt h i 2 [] [] [(4, .bool (decide (b ≥ 0)))] ?_; intro u n
 apply f
 exact r_ (ra1 n (.bool (decide (b ≥ 0))) ⟨decide (b ≥ 0), rfl, m, i.below⟩)

end Go.Proofs.Ytmkdnaecmombnaa
