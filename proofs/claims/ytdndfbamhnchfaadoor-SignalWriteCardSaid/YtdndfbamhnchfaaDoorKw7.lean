/- Texts put together (pure ones, or walks made by program). -/
import Derived.Test.YtdndfbamhnchfaaDoorKw0
import Derived.Test.YtdndfbamhnchfaaDoorKw1
import Derived.Test.YtdndfbamhnchfaaDoorKw2
import Derived.Test.YtdndfbamhnchfaaDoorKw3
import Derived.Test.YtdndfbamhnchfaaDoorKw4
import Derived.Test.YtdndfbamhnchfaaDoorKw5
import Derived.Test.YtdndfbamhnchfaaDoorKw6
set_option linter.unusedVariables false
set_option linter.unusedSimpArgs false
set_option linter.defProp false
set_option maxRecDepth 100000
set_option maxHeartbeats 0
namespace Go.Proofs.YtdndfbamhnchfaaDoor
open Go.Sy Go.RowKit
abbrev e23Nj (X : Signal) : List Value := [str X.Name, i6 X.Start, i6 X.Size, .bool X.Back, .bool X.Signed, i6 X.Mul, i6 X.Div, i6 X.Add, i6 X.Key]
abbrev e71Nj (X : BRat) (A0 : Option Addr) (C0 : Nat) (A1 : Option Addr) (C1 : Nat) : List Value := [.bool X.a.neg, .slice A0 X.a.abs.length C0, .bool X.b.neg, .slice A1 X.b.abs.length C1]
def rcheck_fun (u0 : Signal) (u1 : Int)  (Z : Fz) (w : World)  (hZ : Z.on w) := f_ (rcheck_walk u0 u1  Z w  hZ (rcheck_ok u0 u1))
theorem runm_walk (u0 : Signal) (u1 : Int) (u2 : Int)  (Z : Fz) (w : World)  (hZ : Z.on w) {K : (Int × Int) → Prop} (hp : runm_vc u0 u1 u2 K) : Calls Tryd.prog 16 #[.agg #[str u0.Name, i6 u0.Start, i6 u0.Size, .bool u0.Back, .bool u0.Signed, i6 u0.Mul, i6 u0.Div, i6 u0.Add, i6 u0.Key], i6 u1, i6 u2] w fun e w' => ∃ r : Int × Int, e = .returned (.tuple #[i6 r.1, i6 r.2]) ∧ K r ∧ Below w.heap.size w w' := by
 refine enter0 Tryd.func16 rfl rfl (by kernel_rfl) ?_; intro a0 eM; have eN := Mem.start w Z hZ
 refine sqH ?_; intro jM eO
 refine nw eM eN pb (e23Nj u0) 23 ?_; intro x a3 mQ eP cE
 refine bt eP cE 2 [] [] [] ?_; intro a9 eQ
 apply eO
 refine s_ (sqB eQ cE [] [] [(24, .bool ((((decide (u2 < 1)) || (decide (u2 > 1000000))) || (decide (u1 > 1099511627776))) || (decide (u1 < (-1099511627776)))))] ?_); intro mR cN
 refine c_ cN hp (fun _ jN => ?_) fun _ jP => ?_
 ·
  refine sqB cN cE [] [] [(6, i6 0), (7, i6 3)] ?_; intro mS jO
  exact r_ (h_ (ra2 jO (.tuple #[i6 0, i6 3]) ⟨(0, 3), rfl, jN, cE.below⟩))
 refine k_ (sqH ?_); intro jQ eR
 refine nw cN cE pb [.bool false, .slice none 0 0, .bool false, .slice none 0 0] 71 ?_; intro l mT mU eS dc
 refine bt eS dc 2 [] [] [(26, i6 u1), (27, i6 u2)] ?_; intro mV eT
 obtain ⟨jR, eU⟩ := jP
 refine ck eT 39 #[pt l 0, i6 u1, i6 u2] ?_
 obtain ⟨cb, jS, eV⟩ := hxq eU
 have m := rsf64_fun (⟨(⟨false, []⟩ : BInt), (⟨false, []⟩ : BInt)⟩ : BRat) u1 u2 jR l none 0 none 0 _ _ _ _ _ _ (SlR.nil _ _) (SlR.nil _ _) dc dc.fz; rw [jS] at m; refine m.mono ?_; rintro _ jT ⟨dO, dP, dQ, dR, jU, rfl, jV, aM, aN, hm⟩; refine ⟨_, rfl, ?_⟩; intro mW eW; have eX := hm
 have dS : Mem w.heap.size [] w Z [.row l (e71Nj cb dO dP dQ dR) 71, .row x (e23Nj u0) 23] jU jT := eX
 have jW := eV (aM.small) (aN.small)
 refine s1 eW 8 (pt l 0) ?_; intro mX eZ
 apply eR
 refine sqH ?_; intro jX e0
 refine bt eZ dS 2 [] [] [(29, pt l 0), (30, pt l 0)] ?_; intro mY e1
 refine nw e1 dS pb [.bool false, .slice none 0 0, .bool false, .slice none 0 0] 71 ?_; intro B mZ m0 e2 dd
 refine bt e2 dd 2 [2] [] [(33, i6 u0.Add)] ?_; intro m1 e3
 obtain ⟨jY, e4⟩ := jW
 refine ck e3 41 #[pt B 0, i6 u0.Add] ?_
 obtain ⟨cO, jZ, e5⟩ := hxq e4
 have m := rsi_fun (⟨(⟨false, []⟩ : BInt), (⟨false, []⟩ : BInt)⟩ : BRat) u0.Add jY B none 0 none 0 _ _ _ _ _ _ (SlR.nil _ _) (SlR.nil _ _) dd dd.fz; rw [jZ] at m; refine m.mono ?_; rintro _ j0 ⟨e6, e7, e8, e9, j1, rfl, dT, aQ, aR, hm⟩; refine ⟨_, rfl, ?_⟩; intro m2 fa; have fb := hm
 replace aM := aM.mono dT
 replace aN := aN.mono dT
 have dU : Mem w.heap.size [] w Z [.row B (e71Nj cO e6 e7 e8 e9) 71, .row l (e71Nj cb dO dP dQ dR) 71, .row x (e23Nj u0) 23] j1 j0 := fb
 obtain ⟨j3, fd⟩ := e5 (aQ.small) (aR.small)
 refine ck fa 48 #[pt l 0, pt l 0, pt B 0] ?_
 obtain ⟨g, j4, fe⟩ := hxq fd
 have m := rsub_fun cb cO j3 l dO dP dQ dR B e6 e7 e8 e9 _ _ _ _ _ _ aM aN aQ aR (dU.perm ((pk 1 rfl).trans (lpr.cons _))) dU.fz; rw [j4] at m; refine m.mono ?_; rintro _ j5 ⟨dV, dW, dX, dY, M, N, O, P, j6, rfl, cP, aW, aX, a1, a2, hm⟩; refine ⟨_, rfl, ?_⟩; intro m3 fg; have fh := hm
 have dZ : Mem w.heap.size [] w Z [.row l (e71Nj g.1 dV dW dX dY) 71, .row B (e71Nj g.2 M N O P) 71, .row x (e23Nj u0) 23] j6 j5 := fh
 have j7 := fe (aW.small) (aX.small) (a1.small) (a2.small)
 apply e0
 refine sqH ?_; intro j8 fl
 refine bt fg dZ 2 [] [] [(36, pt l 0), (37, pt l 0)] ?_; intro m4 fm
 refine nw fm dZ pb [.bool false, .slice none 0 0, .bool false, .slice none 0 0] 71 ?_; intro D m5 m6 fn de
 refine bt fn de 2 [3] [] [(40, i6 u0.Div)] ?_; intro m7 fo
 obtain ⟨j9, fp⟩ := j7
 refine ck fo 41 #[pt D 0, i6 u0.Div] ?_
 obtain ⟨cQ, ka, fq⟩ := hxq fp
 have m := rsi_fun (⟨(⟨false, []⟩ : BInt), (⟨false, []⟩ : BInt)⟩ : BRat) u0.Div j9 D none 0 none 0 _ _ _ _ _ _ (SlR.nil _ _) (SlR.nil _ _) de de.fz; rw [ka] at m; refine m.mono ?_; rintro _ kb ⟨fr, fs, ft, fu, kc, rfl, cc, a5, a6, hm⟩; refine ⟨_, rfl, ?_⟩; intro m8 fv; have fw := hm
 replace aW := aW.mono cc
 replace aX := aX.mono cc
 have d0 : Mem w.heap.size [] w Z [.row D (e71Nj cQ fr fs ft fu) 71, .row l (e71Nj g.1 dV dW dX dY) 71, .row B (e71Nj g.2 M N O P) 71, .row x (e23Nj u0) 23] kc kb := fw
 obtain ⟨ke, fy⟩ := fq (a5.small) (a6.small)
 refine ck fv 49 #[pt l 0, pt l 0, pt D 0] ?_
 obtain ⟨j, kg, fA⟩ := hxq fy
 have m := rmul_fun g.1 cQ ke l dV dW dX dY D fr fs ft fu _ _ _ _ _ _ aW aX a5 a6 (d0.perm ((pk 1 rfl).trans (lpr.cons _))) d0.fz; rw [kg] at m; refine m.mono ?_; rintro _ kh ⟨d1, d2, d3, d4, R, T, U, V, ki, rfl, bP, bg, bh, bi, bj, hm⟩; refine ⟨_, rfl, ?_⟩; intro m9 fB; have fC := hm
 have d5 : Mem w.heap.size [] w Z [.row l (e71Nj j.1 d1 d2 d3 d4) 71, .row D (e71Nj j.2 R T U V) 71, .row B (e71Nj g.2 M N O P) 71, .row x (e23Nj u0) 23] ki kh := fC
 have kj := fA (bg.small) (bh.small) (bi.small) (bj.small)
 apply fl
 refine sqH ?_; intro kk fG
 refine bt fB d5 2 [] [] [(43, pt l 0), (44, pt l 0)] ?_; intro na fH
 refine nw fH d5 pb [.bool false, .slice none 0 0, .bool false, .slice none 0 0] 71 ?_; intro I nb nc fI df
 refine bt fI df 2 [4] [] [(47, i6 u0.Mul)] ?_; intro nd fJ
 obtain ⟨kl, fK⟩ := kj
 refine ck fJ 41 #[pt I 0, i6 u0.Mul] ?_
 obtain ⟨cR, km, fL⟩ := hxq fK
 have m := rsi_fun (⟨(⟨false, []⟩ : BInt), (⟨false, []⟩ : BInt)⟩ : BRat) u0.Mul kl I none 0 none 0 _ _ _ _ _ _ (SlR.nil _ _) (SlR.nil _ _) df df.fz; rw [km] at m; refine m.mono ?_; rintro _ kn ⟨fM, fN, fO, fP, ko, rfl, bs, bm, bn, hm⟩; refine ⟨_, rfl, ?_⟩; intro ne fQ; have fR := hm
 replace bg := bg.mono bs
 replace bh := bh.mono bs
 have d6 : Mem w.heap.size [] w Z [.row I (e71Nj cR fM fN fO fP) 71, .row l (e71Nj j.1 d1 d2 d3 d4) 71, .row D (e71Nj j.2 R T U V) 71, .row B (e71Nj g.2 M N O P) 71, .row x (e23Nj u0) 23] ko kn := fR
 obtain ⟨kq, fT⟩ := fL (bm.small) (bn.small)
 refine ck fQ 50 #[pt l 0, pt l 0, pt I 0] ?_
 obtain ⟨k, kr, fU⟩ := hxq fT
 have m := rquo_fun j.1 cR kq l d1 d2 d3 d4 I fM fN fO fP _ _ _ _ _ _ bg bh bm bn (d6.perm ((pk 1 rfl).trans (lpr.cons _))) d6.fz; rw [kr] at m; refine m.mono ?_; rintro _ ks ⟨fV, fW, fX, fY, Y, aa, ab, ac, kt, rfl, bk, bu, bv, bB, bC, hm⟩; refine ⟨_, rfl, ?_⟩; intro ku fZ; have f0 := hm
 have d7 : Mem w.heap.size [] w Z [.row l (e71Nj k.1 fV fW fX fY) 71, .row I (e71Nj k.2 Y aa ab ac) 71, .row D (e71Nj j.2 R T U V) 71, .row B (e71Nj g.2 M N O P) 71, .row x (e23Nj u0) 23] kt ks := f0
 have kv := fU (bu.small) (bv.small) (bB.small) (bC.small)
 apply fG
 apply s_
 have f4 : Fr 83 [] [⟨3, [], pt x 0⟩, ⟨8, [], pt l 0⟩] ku := fZ.reg
 refine sqH ?_; intro kw f5
 refine s1 f4 50 (pt l 0) ?_; intro nf f6
 obtain ⟨kx, f7⟩ := kv
 refine ck f6 51 #[pt l 0] ?_
 obtain ⟨n, ky, f8⟩ := hxq f7
 have m := risint_fun k.1 kx l fV fW fX fY _ _ _ _ _ _ bu bv d7 d7.fz; rw [ky] at m; refine m.mono ?_; rintro _ kz ⟨a7, a8, ba, bb, d8, rfl, a4, bQ, bR, hm⟩; refine ⟨_, rfl, ?_⟩; intro ng f9; have ga := hm
 have d9 : Mem w.heap.size [] w Z [.row l (e71Nj n.2 a7 a8 ba bb) 71, .row I (e71Nj k.2 Y aa ab ac) 71, .row D (e71Nj j.2 R T U V) 71, .row B (e71Nj g.2 M N O P) 71, .row x (e23Nj u0) 23] d8 kz := ga
 have dg := f8 (bQ.small) (bR.small)
 refine s1 f9 52 (.bool (!n.1)) ?_; intro bY cS
 apply f5
 refine c_ cS dg (fun _ kA => ?_) fun _ kC => ?_
 ·
  refine sqB cS d9 [] [] [(6, i6 0), (7, i6 4)] ?_; intro nh kB
  exact r_ (h_ (ra2 kB (.tuple #[i6 0, i6 4]) ⟨(0, 4), rfl, kA, d9.below⟩))
 apply k_
 have kD : Fr 83 [] [⟨3, [], pt x 0⟩, ⟨8, [], pt l 0⟩] bY := cS.reg
 obtain ⟨kE, kF⟩ := kC
 obtain ⟨kG, kH⟩ := kF
 obtain ⟨kI, dh⟩ := kH
 refine wp_seq (any_invE mixed [[], [], [0], [], [3], [4], [1, 2, 5], [0, 6], [0, 1, 2, 3, 4, 5, 6, 7]] 9 (fun S a w1 => ∃ (u : Nat) (aY : Option Addr) (aZ : Nat) (s : Nat) (H : Nat) (bD : Option Addr) (bE : Nat) (bc : Option Addr) (bd : Nat) (aj : Option Addr) (ak : Nat) (bS : Value) (bJ : Value) (cp : Value) (ce : Value) (cf : Value) (cw : Value) (cq : Value) (cg : Value) (bZ : Value) (di : Res) (dj : Res) (dk : Res) (dl : Res) (dm : Res) (ch : Res) (bF : Res) (b0 : Res) (aU : Fz), Fz.le d8 aU ∧ Fr 83 [] [⟨3, [], pt x 0⟩, ⟨8, [], pt l 0⟩, ⟨9, [], bS⟩, ⟨10, [], bJ⟩, ⟨53, [], cp⟩, ⟨54, [], ce⟩, ⟨55, [], cf⟩, ⟨56, [], cw⟩, ⟨57, [], cq⟩, ⟨58, [], cg⟩, ⟨59, [], bZ⟩] a ∧ Mem w.heap.size [] w Z [di, dj, dk, dl, dm, ch, bF, b0] aU w1 ∧ (S 7 = true → bS = pt u 0) ∧ (S 8 = true → bJ = pt s 0) ∧ (S 0 = true → cp = pt u 0) ∧ (S 1 = true → ce = pt s 0) ∧ (S 2 = true → cf = pt H 0) ∧ (S 3 = true → cw = pt x 2) ∧ (S 4 = true → cq = i6 u0.Size) ∧ (S 5 = true → cg = y6 (wu64 u0.Size)) ∧ (S 6 = true → bZ = pt s 0) ∧ (di = .row l (e71Nj n.2 a7 a8 ba bb) 71) ∧ (dj = .row I (e71Nj k.2 Y aa ab ac) 71) ∧ (dk = .row D (e71Nj j.2 R T U V) 71) ∧ (dl = .row B (e71Nj g.2 M N O P) 71) ∧ (dm = .row x (e23Nj u0) 23) ∧ (S 0 = false → ch = .nil) ∧ (S 0 = true → ch = .row u [.bool (bz 0).neg, .slice aY (bz 0).abs.length aZ] 69) ∧ (S 1 = false → bF = .nil) ∧ (S 1 = true → S 6 = false → bF = .row s [.bool false, .slice none 0 0] 69) ∧ (S 6 = true → bF = .row H [.bool (glshIS (⟨false, []⟩ : BInt) (bz 1) (wu64 u0.Size)).2.neg, .slice aj (glshIS (⟨false, []⟩ : BInt) (bz 1) (wu64 u0.Size)).2.abs.length ak] 69) ∧ (S 2 = false → b0 = .nil) ∧ (S 2 = true → S 6 = false → b0 = .row H [.bool (bz 1).neg, .slice bD (bz 1).abs.length bE] 69) ∧ (S 6 = true → b0 = .row s [.bool (glshIS (⟨false, []⟩ : BInt) (bz 1) (wu64 u0.Size)).1.neg, .slice bc (glshIS (⟨false, []⟩ : BInt) (bz 1) (wu64 u0.Size)).1.abs.length bd] 69) ∧ (S 0 = true → SlR (tyInt .u32) aU aY aZ (bz 0).abs) ∧ (S 2 = true → SlR (tyInt .u32) aU bD bE (bz 1).abs) ∧ (S 6 = true → SlR (tyInt .u32) aU bc bd (glshIS (⟨false, []⟩ : BInt) (bz 1) (wu64 u0.Size)).1.abs) ∧ (S 6 = true → SlR (tyInt .u32) aU aj ak (glshIS (⟨false, []⟩ : BInt) (bz 1) (wu64 u0.Size)).2.abs)) ?h0 ?hs ?hE)
 case h0 =>
  have kJ := kD.any 9
  have kK := kJ.any 10
  have kL := kK.any 53
  have kM := kL.any 54
  have kN := kM.any 55
  have kO := kN.any 56
  have kP := kO.any 57
  have kQ := kP.any 58
  have kR := kQ.any 59
  have kS := d9.nilRes
  have kT := kS.nilRes
  have kU := kT.nilRes
  have kV := (kU.perm ((pk 3 rfl).trans (((pk 3 rfl).trans (((pk 3 rfl).trans (((pk 3 rfl).trans (((pk 3 rfl).trans (((pk 2 rfl).trans (((pk 1 rfl).trans (lpr.cons _)).cons _)).cons _)).cons _)).cons _)).cons _)).cons _))).drew
  exact ⟨0, none, 0, 0, 0, none, 0, none, 0, none, 0, bY.tmps.getD 9 undef, bY.tmps.getD 10 undef, bY.tmps.getD 53 undef, bY.tmps.getD 54 undef, bY.tmps.getD 55 undef, bY.tmps.getD 56 undef, bY.tmps.getD 57 undef, bY.tmps.getD 58 undef, bY.tmps.getD 59 undef, .row l (e71Nj n.2 a7 a8 ba bb) 71, .row I (e71Nj k.2 Y aa ab ac) 71, .row D (e71Nj j.2 R T U V) 71, .row B (e71Nj g.2 M N O P) 71, .row x (e23Nj u0) 23, .nil, .nil, .nil, d8, Fz.le.refl _, kR.reg, kV, ff, ff, ff, ff, ff, ff, ff, ff, ff, rfl, rfl, rfl, rfl, rfl, kf, ff, kf, ff, ff, kf, ff, ff, ff, ff, ff, ff⟩
 case hs =>
  intro S hcl i o hil hi hSi hpre a w1 hI; refine Go.Sy.hid ?_; intro G hG; obtain ⟨u, aY, aZ, s, H, bD, bE, bc, bd, aj, ak, bS, bJ, cp, ce, cf, cw, cq, cg, bZ, di, dj, dk, dl, dm, hI⟩ := hI; obtain ⟨ch, bF, b0, aU, f, hFx, hMx, eb, gc, b1, b3, ci, b4, cj, cr, dn, bT, bU, bV, bW, bX, cF, b5, cx, cy, hI⟩ := hI; obtain ⟨dp, cz, cG, dq, b6, cm, dr, hI⟩ := hI; have ds := hI
  have hcase : i = 0 ∨ i = 1 ∨ i = 2 ∨ i = 3 ∨ i = 4 ∨ i = 5 ∨ i = 6 ∨ i = 7 ∨ i = 8 := by clear hi; omega
  rcases hcase with rfl | rfl | rfl | rfl | rfl | rfl | rfl | rfl | rfl
  ·
   obtain rfl := oj hi
   have aS := hSi
   have aV := ngF hcl 2 0 aS
   have q := ngF hcl 6 2 aV
   have bl := ngF hcl 7 0 aS
   have bo := ngF hcl 8 0 aS
   obtain rfl := bT
   obtain rfl := bU
   obtain rfl := bV
   obtain rfl := bW
   obtain rfl := bX
   obtain rfl := cF aS
   obtain rfl := cz aV
   refine hG (any_step ?_); intro A J hJ
   have hzst := Fz.le.refl aU
   have ec := hMx.keep (sD (List.Sublist.cons_cons _ (sD (List.Sublist.cons_cons _ (sD (sC (sD (sC (List.Sublist.slnil)))))))))
   refine ck hFx 52 #[i6 0] ?_
   refine (gnew_fun 0 kE _ _ ec.fz).mono ?_; rintro _ kW ⟨dt, ed, ee, gz, rfl, kX, hm⟩; refine ⟨_, rfl, ?_⟩; intro ni kY; have gA := ec.callZ hm; have aT := hm.ext.le
   replace hzst := hzst.mono aT
   have kZ : Mem w.heap.size [] w Z [.row dt [.bool (bz 0).neg, .slice ed (bz 0).abs.length ee] 69, .row l (e71Nj n.2 a7 a8 ba bb) 71, .row I (e71Nj k.2 Y aa ab ac) 71, .row D (e71Nj j.2 R T U V) 71, .row B (e71Nj g.2 M N O P) 71, .row x (e23Nj u0) 23, bF] gz kW := gA
   refine nl (qnI (hJ _ _ ?_))
   have k0 := kZ.nilRes
   exact ⟨dt, ed, ee, s, H, bD, bE, bc, bd, aj, ak, bS, bJ, pt dt 0, ce, cf, cw, cq, cg, bZ, .row l (e71Nj n.2 a7 a8 ba bb) 71, .row I (e71Nj k.2 Y aa ab ac) 71, .row D (e71Nj j.2 R T U V) 71, .row B (e71Nj g.2 M N O P) 71, .row x (e23Nj u0) 23, .row dt [.bool (bz 0).neg, .slice ed (bz 0).abs.length ee] 69, bF, .nil, gz, f.trans hzst, kY.reg, k0.perm ((pk 2 rfl).trans (((pk 2 rfl).trans (((pk 2 rfl).trans (((pk 2 rfl).trans (((pk 2 rfl).trans (((pk 1 rfl).trans (((pk 1 rfl).trans (lpr.cons _)).cons _)).cons _)).cons _)).cons _)).cons _)).cons _)), (nt bl), (nt bo), kf, b3, (nt aV), b4, cj, cr, (nt q), rfl, rfl, rfl, rfl, rfl, nu, kf, cx, cy, (nt q), kf, (fun h _ => nt aV h), (nt q), (fun _ => kX), (nt aV), (nt q), (nt q)⟩
  ·
   obtain rfl := oj hi
   have bG := hSi
   have q := ngF hcl 6 1 bG
   have bl := ngF hcl 7 6 q
   have bo := ngF hcl 8 1 bG
   obtain rfl := bT
   obtain rfl := bU
   obtain rfl := bV
   obtain rfl := bW
   obtain rfl := bX
   obtain rfl := cx bG
   refine hG (any_step ?_); intro A J hJ
   have gB := hMx.keep (sD (List.Sublist.cons_cons _ (sD (List.Sublist.cons_cons _ (sD (List.Sublist.cons_cons _ (sC (sD (List.Sublist.slnil)))))))))
   refine nw hFx gB pb [.bool false, .slice none 0 0] 69 ?_; intro ef nJ nK k1 k2
   refine nl (qnI (hJ _ _ ?_))
   exact ⟨u, aY, aZ, ef, H, bD, bE, bc, bd, aj, ak, bS, bJ, cp, pt ef 0, cf, cw, cq, cg, bZ, .row l (e71Nj n.2 a7 a8 ba bb) 71, .row I (e71Nj k.2 Y aa ab ac) 71, .row D (e71Nj j.2 R T U V) 71, .row B (e71Nj g.2 M N O P) 71, .row x (e23Nj u0) 23, ch, .row ef [.bool false, .slice none 0 0] 69, b0, aU, f, k1.reg, k2.perm ((pk 1 rfl).trans (((pk 1 rfl).trans (((pk 1 rfl).trans (((pk 1 rfl).trans (((pk 1 rfl).trans (((pk 1 rfl).trans (lpr.cons _)).cons _)).cons _)).cons _)).cons _)).cons _)), (nt bl), (nt bo), b1, kf, ci, b4, cj, cr, (nt q), rfl, rfl, rfl, rfl, rfl, cF, b5, nu, kf2, (nt q), cz, cG, (nt q), b6, cm, (nt q), (nt q)⟩
  ·
   obtain rfl := oj hi
   have aS := hpre 0 (by kernel_rfl)
   have aV := hSi
   have q := ngF hcl 6 2 aV
   have bl := ngF hcl 7 6 q
   have bo := ngF hcl 8 2 aV
   obtain rfl := b1 aS
   obtain rfl := bT
   obtain rfl := bU
   obtain rfl := bV
   obtain rfl := bW
   obtain rfl := bX
   obtain rfl := b5 aS
   obtain rfl := cz aV
   refine hG (any_step ?_); intro A J hJ
   have hzst := Fz.le.refl aU
   have eg := b6 aS
   have eh := hMx.keep (sD (List.Sublist.cons_cons _ (sD (List.Sublist.cons_cons _ (sD (List.Sublist.cons_cons _ (sD (sC (List.Sublist.slnil)))))))))
   refine ck hFx 52 #[i6 1] ?_
   refine (gnew_fun 1 kG _ _ eh.fz).mono ?_; rintro _ k3 ⟨du, ei, ej, gY, rfl, k4, hm⟩; refine ⟨_, rfl, ?_⟩; intro nL k5; have gZ := eh.callZ hm; have aP := hm.ext.le
   replace hzst := hzst.mono aP
   replace eg := eg.mono aP
   have k6 : Mem w.heap.size [] w Z [.row du [.bool (bz 1).neg, .slice ei (bz 1).abs.length ej] 69, .row l (e71Nj n.2 a7 a8 ba bb) 71, .row I (e71Nj k.2 Y aa ab ac) 71, .row D (e71Nj j.2 R T U V) 71, .row B (e71Nj g.2 M N O P) 71, .row x (e23Nj u0) 23, .row u [.bool (bz 0).neg, .slice aY (bz 0).abs.length aZ] 69, bF] gY k3 := gZ
   refine nl (qnI (hJ _ _ ?_))
   exact ⟨u, aY, aZ, s, du, ei, ej, bc, bd, aj, ak, bS, bJ, pt u 0, ce, pt du 0, cw, cq, cg, bZ, .row l (e71Nj n.2 a7 a8 ba bb) 71, .row I (e71Nj k.2 Y aa ab ac) 71, .row D (e71Nj j.2 R T U V) 71, .row B (e71Nj g.2 M N O P) 71, .row x (e23Nj u0) 23, .row u [.bool (bz 0).neg, .slice aY (bz 0).abs.length aZ] 69, bF, .row du [.bool (bz 1).neg, .slice ei (bz 1).abs.length ej] 69, gY, f.trans hzst, k5.reg, k6.perm ((pk 1 rfl).trans (((pk 1 rfl).trans (((pk 1 rfl).trans (((pk 1 rfl).trans (((pk 1 rfl).trans (((pk 1 rfl).trans (((pk 1 rfl).trans (lpr.cons _)).cons _)).cons _)).cons _)).cons _)).cons _)).cons _)), (nt bl), (nt bo), kf, b3, kf, b4, cj, cr, (nt q), rfl, rfl, rfl, rfl, rfl, (tn aS), kf, cx, cy, (nt q), nu, kf2, (nt q), (fun _ => eg), (fun _ => k4), (nt q), (nt q)⟩
  ·
   obtain rfl := oj hi
   have bK := hSi
   have bp := ngF hcl 4 3 bK
   have bq := ngF hcl 5 4 bp
   have q := ngF hcl 6 5 bq
   have bl := ngF hcl 7 6 q
   have bo := ngF hcl 8 3 bK
   obtain rfl := bT
   obtain rfl := bU
   obtain rfl := bV
   obtain rfl := bW
   obtain rfl := bX
   refine hG (any_step ?_); intro A J hJ
   refine s1 hFx 56 (pt x 2) ?_; intro n8 k7
   refine nl (qnI (hJ _ _ ?_))
   exact ⟨u, aY, aZ, s, H, bD, bE, bc, bd, aj, ak, bS, bJ, cp, ce, cf, pt x 2, cq, cg, bZ, .row l (e71Nj n.2 a7 a8 ba bb) 71, .row I (e71Nj k.2 Y aa ab ac) 71, .row D (e71Nj j.2 R T U V) 71, .row B (e71Nj g.2 M N O P) 71, .row x (e23Nj u0) 23, ch, bF, b0, aU, f, k7.reg, hMx.perm lpr, (nt bl), (nt bo), b1, b3, ci, kf, (nt bp), (nt bq), (nt q), rfl, rfl, rfl, rfl, rfl, cF, b5, cx, cy, (nt q), cz, cG, (nt q), b6, cm, (nt q), (nt q)⟩
  ·
   obtain rfl := oj hi
   have bK := hpre 3 (by kernel_rfl)
   have bp := hSi
   have bq := ngF hcl 5 4 bp
   have q := ngF hcl 6 5 bq
   have bl := ngF hcl 7 6 q
   have bo := ngF hcl 8 4 bp
   obtain rfl := b4 bK
   obtain rfl := bT
   obtain rfl := bU
   obtain rfl := bV
   obtain rfl := bW
   obtain rfl := bX
   refine hG (any_step ?_); intro A J hJ
   refine l1 hFx hMx 57 4 2 (i6 u0.Size) rfl rfl ?_; intro oy k8
   refine nl (qnI (hJ _ _ ?_))
   exact ⟨u, aY, aZ, s, H, bD, bE, bc, bd, aj, ak, bS, bJ, cp, ce, cf, pt x 2, i6 u0.Size, cg, bZ, .row l (e71Nj n.2 a7 a8 ba bb) 71, .row I (e71Nj k.2 Y aa ab ac) 71, .row D (e71Nj j.2 R T U V) 71, .row B (e71Nj g.2 M N O P) 71, .row x (e23Nj u0) 23, ch, bF, b0, aU, f, k8.reg, hMx.perm lpr, (nt bl), (nt bo), b1, b3, ci, kf, kf, (nt bq), (nt q), rfl, rfl, rfl, rfl, rfl, cF, b5, cx, cy, (nt q), cz, cG, (nt q), b6, cm, (nt q), (nt q)⟩
  ·
   obtain rfl := oj hi
   have bp := hpre 4 (by kernel_rfl)
   have bK := hcl 4 3 (by kernel_rfl) bp
   have bq := hSi
   have q := ngF hcl 6 5 bq
   have bl := ngF hcl 7 6 q
   have bo := ngF hcl 8 5 bq
   obtain rfl := b4 bK
   obtain rfl := cj bp
   obtain rfl := bT
   obtain rfl := bU
   obtain rfl := bV
   obtain rfl := bW
   obtain rfl := bX
   refine hG (any_step ?_); intro A J hJ
   refine s1 hFx 58 (y6 (wu64 u0.Size)) ?_; intro oV k9
   refine nl (qnI (hJ _ _ ?_))
   exact ⟨u, aY, aZ, s, H, bD, bE, bc, bd, aj, ak, bS, bJ, cp, ce, cf, pt x 2, i6 u0.Size, y6 (wu64 u0.Size), bZ, .row l (e71Nj n.2 a7 a8 ba bb) 71, .row I (e71Nj k.2 Y aa ab ac) 71, .row D (e71Nj j.2 R T U V) 71, .row B (e71Nj g.2 M N O P) 71, .row x (e23Nj u0) 23, ch, bF, b0, aU, f, k9.reg, hMx.perm lpr, (nt bl), (nt bo), b1, b3, ci, kf, kf, kf, (nt q), rfl, rfl, rfl, rfl, rfl, cF, b5, cx, cy, (nt q), cz, cG, (nt q), b6, cm, (nt q), (nt q)⟩
  ·
   obtain rfl := oj hi
   have bq := hpre 5 (by kernel_rfl)
   have aV := hpre 2 (by kernel_rfl)
   have bG := hpre 1 (by kernel_rfl)
   have bp := hcl 5 4 (by kernel_rfl) bq
   have aS := hcl 2 0 (by kernel_rfl) aV
   have bK := hcl 4 3 (by kernel_rfl) bp
   have q := hSi
   have bl := ngF hcl 7 6 q
   have bo := ngF hcl 8 6 q
   obtain rfl := b1 aS
   obtain rfl := b3 bG
   obtain rfl := ci aV
   obtain rfl := b4 bK
   obtain rfl := cj bp
   obtain rfl := cr bq
   obtain rfl := bT
   obtain rfl := bU
   obtain rfl := bV
   obtain rfl := bW
   obtain rfl := bX
   obtain rfl := b5 aS
   obtain rfl := cy bG q
   obtain rfl := cG aV q
   refine hG (any_step ?_); intro A J hJ
   have hzst := Fz.le.refl aU
   have ek := b6 aS
   have dv := cm aV
   refine ck hFx 53 #[pt s 0, pt H 0, y6 (wu64 u0.Size)] ?_
   refine (glshI_fun (⟨false, []⟩ : BInt) (bz 1) (wu64 u0.Size) kI s none 0 H bD bE _ _ _ _ _ _ (SlR.nil _ _) dv (hMx.perm ((pk 6 rfl).trans (((pk 6 rfl).trans (lpr.cons _)).cons _))) hMx.fz).mono ?_; rintro _ la ⟨el, em, en, eo, ho, rfl, aO, lb, lc, hm⟩; refine ⟨_, rfl, ?_⟩; intro oW ld; have hq := hm
   replace hzst := hzst.mono aO
   replace ek := ek.mono aO
   replace dv := dv.mono aO
   have lf : Mem w.heap.size [] w Z [.row s [.bool (glshIS (⟨false, []⟩ : BInt) (bz 1) (wu64 u0.Size)).1.neg, .slice el (glshIS (⟨false, []⟩ : BInt) (bz 1) (wu64 u0.Size)).1.abs.length em] 69, .row H [.bool (glshIS (⟨false, []⟩ : BInt) (bz 1) (wu64 u0.Size)).2.neg, .slice en (glshIS (⟨false, []⟩ : BInt) (bz 1) (wu64 u0.Size)).2.abs.length eo] 69, .row l (e71Nj n.2 a7 a8 ba bb) 71, .row I (e71Nj k.2 Y aa ab ac) 71, .row D (e71Nj j.2 R T U V) 71, .row B (e71Nj g.2 M N O P) 71, .row x (e23Nj u0) 23, .row u [.bool (bz 0).neg, .slice aY (bz 0).abs.length aZ] 69] ho la := hq
   refine nl (qnI (hJ _ _ ?_))
   exact ⟨u, aY, aZ, s, H, bD, bE, el, em, en, eo, bS, bJ, pt u 0, pt s 0, pt H 0, pt x 2, i6 u0.Size, y6 (wu64 u0.Size), pt s 0, .row l (e71Nj n.2 a7 a8 ba bb) 71, .row I (e71Nj k.2 Y aa ab ac) 71, .row D (e71Nj j.2 R T U V) 71, .row B (e71Nj g.2 M N O P) 71, .row x (e23Nj u0) 23, .row u [.bool (bz 0).neg, .slice aY (bz 0).abs.length aZ] 69, .row H [.bool (glshIS (⟨false, []⟩ : BInt) (bz 1) (wu64 u0.Size)).2.neg, .slice en (glshIS (⟨false, []⟩ : BInt) (bz 1) (wu64 u0.Size)).2.abs.length eo] 69, .row s [.bool (glshIS (⟨false, []⟩ : BInt) (bz 1) (wu64 u0.Size)).1.neg, .slice el (glshIS (⟨false, []⟩ : BInt) (bz 1) (wu64 u0.Size)).1.abs.length em] 69, ho, f.trans hzst, ld.reg, lf.perm ((pk 2 rfl).trans (((pk 2 rfl).trans (((pk 2 rfl).trans (((pk 2 rfl).trans (((pk 2 rfl).trans (((pk 2 rfl).trans (((pk 1 rfl).trans (lpr.cons _)).cons _)).cons _)).cons _)).cons _)).cons _)).cons _)), (nt bl), (nt bo), kf, kf, kf, kf, kf, kf, kf, rfl, rfl, rfl, rfl, rfl, (tn aS), kf, (tn bG), (fun _ => nu), kf, (tn aV), (fun _ => nu), kf, (fun _ => ek), (fun _ => dv), (fun _ => lb), (fun _ => lc)⟩
  ·
   obtain rfl := oj hi
   have q := hpre 6 (by kernel_rfl)
   have aS := hpre 0 (by kernel_rfl)
   have bq := hcl 6 5 (by kernel_rfl) q
   have aV := hcl 6 2 (by kernel_rfl) q
   have bG := hcl 6 1 (by kernel_rfl) q
   have bp := hcl 5 4 (by kernel_rfl) bq
   have bK := hcl 4 3 (by kernel_rfl) bp
   have bl := hSi
   have bo := ngF hcl 8 7 bl
   obtain rfl := b1 aS
   obtain rfl := b3 bG
   obtain rfl := ci aV
   obtain rfl := b4 bK
   obtain rfl := cj bp
   obtain rfl := cr bq
   obtain rfl := dn q
   obtain rfl := bT
   obtain rfl := bU
   obtain rfl := bV
   obtain rfl := bW
   obtain rfl := bX
   obtain rfl := b5 aS
   obtain rfl := dp q
   obtain rfl := dq q
   refine hG (any_step ?_); intro A J hJ
   have lg := b6 aS
   have lh := cm aV
   have li := dr q
   have lj := ds q
   refine s1 hFx 9 (pt u 0) ?_; intro pl lk
   refine nl (qnI (hJ _ _ ?_))
   exact ⟨u, aY, aZ, s, H, bD, bE, bc, bd, aj, ak, pt u 0, bJ, pt u 0, pt s 0, pt H 0, pt x 2, i6 u0.Size, y6 (wu64 u0.Size), pt s 0, .row l (e71Nj n.2 a7 a8 ba bb) 71, .row I (e71Nj k.2 Y aa ab ac) 71, .row D (e71Nj j.2 R T U V) 71, .row B (e71Nj g.2 M N O P) 71, .row x (e23Nj u0) 23, .row u [.bool (bz 0).neg, .slice aY (bz 0).abs.length aZ] 69, .row H [.bool (glshIS (⟨false, []⟩ : BInt) (bz 1) (wu64 u0.Size)).2.neg, .slice aj (glshIS (⟨false, []⟩ : BInt) (bz 1) (wu64 u0.Size)).2.abs.length ak] 69, .row s [.bool (glshIS (⟨false, []⟩ : BInt) (bz 1) (wu64 u0.Size)).1.neg, .slice bc (glshIS (⟨false, []⟩ : BInt) (bz 1) (wu64 u0.Size)).1.abs.length bd] 69, aU, f, lk.reg, hMx.perm lpr, kf, (nt bo), kf, kf, kf, kf, kf, kf, kf, rfl, rfl, rfl, rfl, rfl, (tn aS), kf, (tn bG), (fun _ => tn q), kf, (tn aV), (fun _ => tn q), kf, (fun _ => lg), (fun _ => lh), (fun _ => li), (fun _ => lj)⟩
  obtain rfl := oj hi
  have bl := hpre 7 (by kernel_rfl)
  have q := hpre 6 (by kernel_rfl)
  have bq := hpre 5 (by kernel_rfl)
  have bp := hpre 4 (by kernel_rfl)
  have bK := hpre 3 (by kernel_rfl)
  have aV := hpre 2 (by kernel_rfl)
  have bG := hpre 1 (by kernel_rfl)
  have aS := hpre 0 (by kernel_rfl)
  obtain rfl := eb bl
  obtain rfl := b1 aS
  obtain rfl := b3 bG
  obtain rfl := ci aV
  obtain rfl := b4 bK
  obtain rfl := cj bp
  obtain rfl := cr bq
  obtain rfl := dn q
  obtain rfl := bT
  obtain rfl := bU
  obtain rfl := bV
  obtain rfl := bW
  obtain rfl := bX
  obtain rfl := b5 aS
  obtain rfl := dp q
  obtain rfl := dq q
  refine hG (any_step ?_); intro A J hJ
  have ll := b6 aS
  have lm := cm aV
  have ln := dr q
  have lo := ds q
  refine s1 hFx 10 (pt s 0) ?_; intro pJ lp
  refine nl (qnI (hJ _ _ ?_))
  exact ⟨u, aY, aZ, s, H, bD, bE, bc, bd, aj, ak, pt u 0, pt s 0, pt u 0, pt s 0, pt H 0, pt x 2, i6 u0.Size, y6 (wu64 u0.Size), pt s 0, .row l (e71Nj n.2 a7 a8 ba bb) 71, .row I (e71Nj k.2 Y aa ab ac) 71, .row D (e71Nj j.2 R T U V) 71, .row B (e71Nj g.2 M N O P) 71, .row x (e23Nj u0) 23, .row u [.bool (bz 0).neg, .slice aY (bz 0).abs.length aZ] 69, .row H [.bool (glshIS (⟨false, []⟩ : BInt) (bz 1) (wu64 u0.Size)).2.neg, .slice aj (glshIS (⟨false, []⟩ : BInt) (bz 1) (wu64 u0.Size)).2.abs.length ak] 69, .row s [.bool (glshIS (⟨false, []⟩ : BInt) (bz 1) (wu64 u0.Size)).1.neg, .slice bc (glshIS (⟨false, []⟩ : BInt) (bz 1) (wu64 u0.Size)).1.abs.length bd] 69, aU, f, lp.reg, hMx.perm lpr, kf, kf, kf, kf, kf, kf, kf, kf, kf, rfl, rfl, rfl, rfl, rfl, (tn aS), kf, (tn bG), (fun _ => tn q), kf, (tn aV), (fun _ => tn q), kf, (fun _ => ll), (fun _ => lm), (fun _ => ln), (fun _ => lo)⟩
 case hE =>
  intro S hS lq pK hI; refine Go.Sy.hid ?_; intro G hG; obtain ⟨u, aY, aZ, s, H, bD, bE, bc, bd, aj, ak, bS, bJ, cp, ce, cf, cw, cq, cg, bZ, di, dj, dk, dl, dm, hI⟩ := hI; obtain ⟨ch, bF, b0, aU, f, hFx, hMx, eb, gc, b1, b3, ci, b4, cj, cr, dn, bT, bU, bV, bW, bX, cF, b5, cx, cy, hI⟩ := hI; obtain ⟨dp, cz, cG, dq, b6, cm, dr, hI⟩ := hI; refine hG ?_
  obtain rfl := eb (hS 7 (by decide))
  obtain rfl := gc (hS 8 (by decide))
  obtain rfl := b1 (hS 0 (by decide))
  obtain rfl := b3 (hS 1 (by decide))
  obtain rfl := ci (hS 2 (by decide))
  obtain rfl := b4 (hS 3 (by decide))
  obtain rfl := cj (hS 4 (by decide))
  obtain rfl := cr (hS 5 (by decide))
  obtain rfl := dn (hS 6 (by decide))
  obtain rfl := bT
  obtain rfl := bU
  obtain rfl := bV
  obtain rfl := bW
  obtain rfl := bX
  obtain rfl := b5 (hS 0 (by decide))
  obtain rfl := dp (hS 6 (by decide))
  obtain rfl := dq (hS 6 (by decide))
  have ad := bQ.mono f
  have ae := bR.mono f
  have af := b6 (hS 0 (by decide))
  have ag := dr (hS 6 (by decide))
  refine t_ (s_ ?_)
  have hr : Fr 83 [] [⟨3, [], pt x 0⟩, ⟨8, [], pt l 0⟩, ⟨9, [], pt u 0⟩, ⟨10, [], pt s 0⟩] lq := hFx.reg
  refine sqB hr hMx [4] [] [(61, .bool u0.Signed)] ?_; intro pL cT
  refine c_ cT dh (fun _ lr => ?_) fun _ iP => ?_
  ·
   refine sqH ?_; intro ls ht
   refine bt cT hMx 2 [] [] [(62, pt s 0), (63, pt s 0)] ?_; intro pM hu
   obtain ⟨lt, hv⟩ := lr
   refine ck hu 54 #[pt s 0, pt s 0, y6 1] ?_
   obtain ⟨eq, lu, hw⟩ := hxq hv
   have m := grshI_fun (glshIS (⟨false, []⟩ : BInt) (bz 1) (wu64 u0.Size)).1 1 lt s bc bd _ _ _ _ _ _ ag (hMx.perm (pk 7 rfl)) hMx.fz; rw [lu] at m; refine m.mono ?_; rintro _ lv ⟨hx, hy, lw, rfl, aK, br, hm⟩; refine ⟨_, rfl, ?_⟩; intro pN hz; have hA := hm
   replace ad := ad.mono aK
   replace ae := ae.mono aK
   replace af := af.mono aK
   have dw : Mem w.heap.size [] w Z [.row s [.bool eq.neg, .slice hx eq.abs.length hy] 69, .row l (e71Nj n.2 a7 a8 ba bb) 71, .row I (e71Nj k.2 Y aa ab ac) 71, .row D (e71Nj j.2 R T U V) 71, .row B (e71Nj g.2 M N O P) 71, .row x (e23Nj u0) 23, .row u [.bool (bz 0).neg, .slice aY (bz 0).abs.length aZ] 69, .row H [.bool (glshIS (⟨false, []⟩ : BInt) (bz 1) (wu64 u0.Size)).2.neg, .slice aj (glshIS (⟨false, []⟩ : BInt) (bz 1) (wu64 u0.Size)).2.abs.length ak] 69] lw lv := hA
   have lx := hw (br.small)
   apply ht
   refine rgH ?_; intro ly hB
   refine bt hz dw 2 [] [] [(65, pt u 0), (66, pt s 0)] ?_; intro pO hC
   obtain ⟨lz, hD⟩ := lx
   refine ck hC 55 #[pt u 0, pt s 0] ?_
   obtain ⟨bw, lA, hF⟩ := hxq hD
   have m := gnegI_fun (bz 0) eq lz u aY aZ s hx hy _ _ _ _ _ _ af br (dw.perm ((pk 6 rfl).trans (lpr.cons _))) dw.fz; rw [lA] at m; refine m.mono ?_; rintro _ lB ⟨er, es, cU, cV, lC, rfl, aJ, bx, bA, hm⟩; refine ⟨_, rfl, ?_⟩; intro pP hH; have hK := hm
   replace ad := ad.mono aJ
   replace ae := ae.mono aJ
   have et : Mem w.heap.size [] w Z [.row u [.bool bw.1.neg, .slice er bw.1.abs.length es] 69, .row s [.bool bw.2.neg, .slice cU bw.2.abs.length cV] 69, .row l (e71Nj n.2 a7 a8 ba bb) 71, .row I (e71Nj k.2 Y aa ab ac) 71, .row D (e71Nj j.2 R T U V) 71, .row B (e71Nj g.2 M N O P) 71, .row x (e23Nj u0) 23, .row H [.bool (glshIS (⟨false, []⟩ : BInt) (bz 1) (wu64 u0.Size)).2.neg, .slice aj (glshIS (⟨false, []⟩ : BInt) (bz 1) (wu64 u0.Size)).2.abs.length ak] 69] lC lB := hK
   have hM := hF (bx.small) (bA.small)
   apply hB
   refine t_ (s_ (sqH ?_)); intro hN dx
   refine s1 hH 68 (pt l 0) ?_; intro pQ hO
   refine ck hO 42 #[pt l 0] ?_
   obtain ⟨cW, lD, hP⟩ := hxq hM
   have m := rnum_fun n.2 l a7 a8 ba bb _ _ _ _ _ _ ad ae (et.perm (pk 2 rfl)) et.fz; rw [lD] at m; refine m.mono ?_; rintro _ lE ⟨hQ, hR, hT, hU, lF, rfl, ah, bL, bM, hm⟩; refine ⟨_, rfl, ?_⟩; intro pR hV; have hW := hm
   replace bx := bx.mono ah
   replace bA := bA.mono ah
   have eu : Mem w.heap.size [] w Z [.row l (e71Nj cW hQ hR hT hU) 71, .row u [.bool bw.1.neg, .slice er bw.1.abs.length es] 69, .row s [.bool bw.2.neg, .slice cU bw.2.abs.length cV] 69, .row I (e71Nj k.2 Y aa ab ac) 71, .row D (e71Nj j.2 R T U V) 71, .row B (e71Nj g.2 M N O P) 71, .row x (e23Nj u0) 23, .row H [.bool (glshIS (⟨false, []⟩ : BInt) (bz 1) (wu64 u0.Size)).2.neg, .slice aj (glshIS (⟨false, []⟩ : BInt) (bz 1) (wu64 u0.Size)).2.abs.length ak] 69] lF lE := hW
   have lG := hP (bL.small) (bM.small)
   refine s1 hV 70 (pt u 0) ?_; intro pS hY
   obtain ⟨lH, h1⟩ := lG
   refine ck hY 56 #[pt l 0, pt u 0] ?_
   obtain ⟨be, lI, h2⟩ := hxq h1
   have m := gcmpA_fun cW bw.1 lH l hQ hR hT hU u er es _ _ _ _ _ _ bL bM bx eu eu.fz; rw [lI] at m; refine m.mono ?_; rintro _ lJ ⟨h3, h4, h5, h6, cX, cY, lK, rfl, W, b7, b8, cn, hm⟩; refine ⟨_, rfl, ?_⟩; intro pT h7; have h8 := hm
   replace bA := bA.mono W
   have cA : Mem w.heap.size [] w Z [.row l (e71Nj be.2.1 h3 h4 h5 h6) 71, .row u [.bool be.2.2.neg, .slice cX be.2.2.abs.length cY] 69, .row s [.bool bw.2.neg, .slice cU bw.2.abs.length cV] 69, .row I (e71Nj k.2 Y aa ab ac) 71, .row D (e71Nj j.2 R T U V) 71, .row B (e71Nj g.2 M N O P) 71, .row x (e23Nj u0) 23, .row H [.bool (glshIS (⟨false, []⟩ : BInt) (bz 1) (wu64 u0.Size)).2.neg, .slice aj (glshIS (⟨false, []⟩ : BInt) (bz 1) (wu64 u0.Size)).2.abs.length ak] 69] lK lJ := h8
   have dy := h2 (b7.small) (b8.small) (cn.small)
   refine bt h7 cA 2 [] [] [(73, .bool (decide (be.1 < 0)))] ?_; intro pU dz
   refine e_ dy (fun cZ lL => ?_) fun cZ id => ?_
   ·
    have ic := dz.reval (d := 73) (c := []) (v := .bool (decide (be.1 < 0))) (by kernel_rfl) (.bool true) (by rw [cZ])
    refine bt ic cA 6 [] [74, 75, 76, 77, 78, 79] [(79, .bool true)] ?_; intro pV ev
    apply dx
    refine cdT ev (by kernel_rfl) ?_
    refine sqB ev cA [] [] [(6, i6 0), (7, i6 3)] ?_; intro pW lM
    exact r_ (h_ (ra2 lM (.tuple #[i6 0, i6 3]) ⟨(0, 3), rfl, lL, cA.below⟩))
   have dA := dz.reval (d := 73) (c := []) (v := .bool (decide (be.1 < 0))) (by kernel_rfl) (.bool false) (by rw [cZ])
   refine g_ dA false (pt l 0) ?_; intro pX ew
   refine cl ew 42 #[pt l 0] (wK ew false) rfl (by kernel_rfl) (by kernel_rfl) ?_
   obtain ⟨c0, lN, ie⟩ := hxq id
   have m := rnum_fun be.2.1 l h3 h4 h5 h6 _ _ _ _ _ _ b7 b8 cA cA.fz; rw [lN] at m; refine m.mono ?_; rintro _ lO ⟨ig, ih, ii, ij, lP, rfl, L, cs, ct, hm⟩; refine ⟨_, rfl, ?_⟩; intro pY dB; have ik := hm
   replace bA := bA.mono L
   have ex : Mem w.heap.size [] w Z [.row l (e71Nj c0 ig ih ii ij) 71, .row u [.bool be.2.2.neg, .slice cX be.2.2.abs.length cY] 69, .row s [.bool bw.2.neg, .slice cU bw.2.abs.length cV] 69, .row I (e71Nj k.2 Y aa ab ac) 71, .row D (e71Nj j.2 R T U V) 71, .row B (e71Nj g.2 M N O P) 71, .row x (e23Nj u0) 23, .row H [.bool (glshIS (⟨false, []⟩ : BInt) (bz 1) (wu64 u0.Size)).2.neg, .slice aj (glshIS (⟨false, []⟩ : BInt) (bz 1) (wu64 u0.Size)).2.abs.length ak] 69] lP lO := ik
   have lQ := ie (cs.small) (ct.small)
   refine g_ dB false (pt s 0) ?_; intro pZ ey
   obtain ⟨lR, im⟩ := lQ
   refine cl ey 56 #[pt l 0, pt s 0] (wK ey false) rfl (by kernel_rfl) (by kernel_rfl) ?_
   obtain ⟨bH, lS, io⟩ := hxq im
   have m := gcmpA_fun c0 bw.2 lR l ig ih ii ij s cU cV _ _ _ _ _ _ cs ct bA (ex.perm (((pk 1 rfl).trans (lpr.cons _)).cons _)) ex.fz; rw [lS] at m; refine m.mono ?_; rintro _ lT ⟨ip, iq, ir, it, ez, eA, lU, rfl, E, cH, cI, c1, hm⟩; refine ⟨_, rfl, ?_⟩; intro p1 iu; have iv := hm
   have cJ : Mem w.heap.size [] w Z [.row l (e71Nj bH.2.1 ip iq ir it) 71, .row s [.bool bH.2.2.neg, .slice ez bH.2.2.abs.length eA] 69, .row u [.bool be.2.2.neg, .slice cX be.2.2.abs.length cY] 69, .row I (e71Nj k.2 Y aa ab ac) 71, .row D (e71Nj j.2 R T U V) 71, .row B (e71Nj g.2 M N O P) 71, .row x (e23Nj u0) 23, .row H [.bool (glshIS (⟨false, []⟩ : BInt) (bz 1) (wu64 u0.Size)).2.neg, .slice aj (glshIS (⟨false, []⟩ : BInt) (bz 1) (wu64 u0.Size)).2.abs.length ak] 69] lU lT := iv
   have dC := io (cH.small) (cI.small) (c1.small)
   refine bt iu cJ 2 [] [78, 79] [(79, .bool (decide (bH.1 ≥ 0)))] ?_; intro p2 c2
   apply dx
   refine c_ c2 dC (fun _ lV => ?_) fun _ iy => ?_
   ·
    refine sqB c2 cJ [] [] [(6, i6 0), (7, i6 3)] ?_; intro p3 lW
    exact r_ (h_ (ra2 lW (.tuple #[i6 0, i6 3]) ⟨(0, 3), rfl, lV, cJ.below⟩))
   refine k_ (sqH ?_); intro lX iz
   refine s1 c2 80 (pt l 0) ?_; intro p4 iA
   refine ck iA 42 #[pt l 0] ?_
   obtain ⟨c3, lY, iB⟩ := hxq iy
   have m := rnum_fun bH.2.1 l ip iq ir it _ _ _ _ _ _ cH cI cJ cJ.fz; rw [lY] at m; refine m.mono ?_; rintro _ lZ ⟨iC, iD, iE, iF, l0, rfl, z, dD, dE, hm⟩; refine ⟨_, rfl, ?_⟩; intro p5 iG; have iH := hm
   have eC : Mem w.heap.size [] w Z [.row l (e71Nj c3 iC iD iE iF) 71, .row s [.bool bH.2.2.neg, .slice ez bH.2.2.abs.length eA] 69, .row u [.bool be.2.2.neg, .slice cX be.2.2.abs.length cY] 69, .row I (e71Nj k.2 Y aa ab ac) 71, .row D (e71Nj j.2 R T U V) 71, .row B (e71Nj g.2 M N O P) 71, .row x (e23Nj u0) 23, .row H [.bool (glshIS (⟨false, []⟩ : BInt) (bz 1) (wu64 u0.Size)).2.neg, .slice aj (glshIS (⟨false, []⟩ : BInt) (bz 1) (wu64 u0.Size)).2.abs.length ak] 69] l0 lZ := iH
   obtain ⟨l3, iJ⟩ := iB (dD.small) (dE.small)
   refine ck iG 43 #[pt l 0] ?_
   obtain ⟨cB, l4, iK⟩ := hxq iJ
   have m := gi64A_fun c3 l3 l iC iD iE iF _ _ _ _ _ _ dD dE eC eC.fz; rw [l4] at m; refine m.mono ?_; rintro _ l5 ⟨l6, l7, l8, l9, ma, rfl, y, mb, mc, hm⟩; refine ⟨_, rfl, ?_⟩; intro p6 iL; have iM := hm
   have iN : Mem w.heap.size [] w Z [.row l (e71Nj cB.2 l6 l7 l8 l9) 71, .row s [.bool bH.2.2.neg, .slice ez bH.2.2.abs.length eA] 69, .row u [.bool be.2.2.neg, .slice cX be.2.2.abs.length cY] 69, .row I (e71Nj k.2 Y aa ab ac) 71, .row D (e71Nj j.2 R T U V) 71, .row B (e71Nj g.2 M N O P) 71, .row x (e23Nj u0) 23, .row H [.bool (glshIS (⟨false, []⟩ : BInt) (bz 1) (wu64 u0.Size)).2.neg, .slice aj (glshIS (⟨false, []⟩ : BInt) (bz 1) (wu64 u0.Size)).2.abs.length ak] 69] ma l5 := iM
   have md := iK (mb.small) (mc.small)
   refine bt iL iN 2 [] [] [(6, i6 cB.1), (7, i6 0)] ?_; intro p7 me
   apply iz
   exact r_ (ra2 me (.tuple #[i6 cB.1, i6 0]) ⟨(cB.1, 0), rfl, md, iN.below⟩)
  refine k_ (s_ (sqH ?_)); intro iQ dF
  refine s1 cT 68 (pt l 0) ?_; intro p8 iR
  refine ck iR 42 #[pt l 0] ?_
  obtain ⟨c4, mf, iS⟩ := hxq iP
  have m := rnum_fun n.2 l a7 a8 ba bb _ _ _ _ _ _ ad ae hMx hMx.fz; rw [mf] at m; refine m.mono ?_; rintro _ mg ⟨iT, iU, iV, iW, mh, rfl, aL, bN, bO, hm⟩; refine ⟨_, rfl, ?_⟩; intro p9 iX; have iY := hm
  replace af := af.mono aL
  replace ag := ag.mono aL
  have eD : Mem w.heap.size [] w Z [.row l (e71Nj c4 iT iU iV iW) 71, .row I (e71Nj k.2 Y aa ab ac) 71, .row D (e71Nj j.2 R T U V) 71, .row B (e71Nj g.2 M N O P) 71, .row x (e23Nj u0) 23, .row u [.bool (bz 0).neg, .slice aY (bz 0).abs.length aZ] 69, .row H [.bool (glshIS (⟨false, []⟩ : BInt) (bz 1) (wu64 u0.Size)).2.neg, .slice aj (glshIS (⟨false, []⟩ : BInt) (bz 1) (wu64 u0.Size)).2.abs.length ak] 69, .row s [.bool (glshIS (⟨false, []⟩ : BInt) (bz 1) (wu64 u0.Size)).1.neg, .slice bc (glshIS (⟨false, []⟩ : BInt) (bz 1) (wu64 u0.Size)).1.abs.length bd] 69] mh mg := iY
  have mi := iS (bN.small) (bO.small)
  refine s1 iX 70 (pt u 0) ?_; intro qa i0
  obtain ⟨mj, i1⟩ := mi
  refine ck i0 56 #[pt l 0, pt u 0] ?_
  obtain ⟨bf, mk, i2⟩ := hxq i1
  have m := gcmpA_fun c4 (bz 0) mj l iT iU iV iW u aY aZ _ _ _ _ _ _ bN bO af (eD.perm (((pk 4 rfl).trans (lpr.cons _)).cons _)) eD.fz; rw [mk] at m; refine m.mono ?_; rintro _ ml ⟨i3, i4, i5, i7, c5, c6, mm, rfl, ai, b9, ca, co, hm⟩; refine ⟨_, rfl, ?_⟩; intro qb i8; have i9 := hm
  replace ag := ag.mono ai
  have cC : Mem w.heap.size [] w Z [.row l (e71Nj bf.2.1 i3 i4 i5 i7) 71, .row u [.bool bf.2.2.neg, .slice c5 bf.2.2.abs.length c6] 69, .row I (e71Nj k.2 Y aa ab ac) 71, .row D (e71Nj j.2 R T U V) 71, .row B (e71Nj g.2 M N O P) 71, .row x (e23Nj u0) 23, .row H [.bool (glshIS (⟨false, []⟩ : BInt) (bz 1) (wu64 u0.Size)).2.neg, .slice aj (glshIS (⟨false, []⟩ : BInt) (bz 1) (wu64 u0.Size)).2.abs.length ak] 69, .row s [.bool (glshIS (⟨false, []⟩ : BInt) (bz 1) (wu64 u0.Size)).1.neg, .slice bc (glshIS (⟨false, []⟩ : BInt) (bz 1) (wu64 u0.Size)).1.abs.length bd] 69] mm ml := i9
  have dG := i2 (b9.small) (ca.small) (co.small)
  refine bt i8 cC 2 [] [] [(73, .bool (decide (bf.1 < 0)))] ?_; intro qc dH
  refine e_ dG (fun c7 mn => ?_) fun c7 jd => ?_
  ·
   have jc := dH.reval (d := 73) (c := []) (v := .bool (decide (bf.1 < 0))) (by kernel_rfl) (.bool true) (by rw [c7])
   refine bt jc cC 6 [] [74, 75, 76, 77, 78, 79] [(79, .bool true)] ?_; intro qd eE
   apply dF
   refine cdT eE (by kernel_rfl) ?_
   refine sqB eE cC [] [] [(6, i6 0), (7, i6 3)] ?_; intro qe mo
   exact r_ (h_ (ra2 mo (.tuple #[i6 0, i6 3]) ⟨(0, 3), rfl, mn, cC.below⟩))
  have dI := dH.reval (d := 73) (c := []) (v := .bool (decide (bf.1 < 0))) (by kernel_rfl) (.bool false) (by rw [c7])
  refine g_ dI false (pt l 0) ?_; intro qf eF
  refine cl eF 42 #[pt l 0] (wK eF false) rfl (by kernel_rfl) (by kernel_rfl) ?_
  obtain ⟨c8, mp, je⟩ := hxq jd
  have m := rnum_fun bf.2.1 l i3 i4 i5 i7 _ _ _ _ _ _ b9 ca cC cC.fz; rw [mp] at m; refine m.mono ?_; rintro _ mq ⟨jf, jg, jh, ji, mr, rfl, X, cu, cv, hm⟩; refine ⟨_, rfl, ?_⟩; intro qg dJ; have jj := hm
  replace ag := ag.mono X
  have eG : Mem w.heap.size [] w Z [.row l (e71Nj c8 jf jg jh ji) 71, .row u [.bool bf.2.2.neg, .slice c5 bf.2.2.abs.length c6] 69, .row I (e71Nj k.2 Y aa ab ac) 71, .row D (e71Nj j.2 R T U V) 71, .row B (e71Nj g.2 M N O P) 71, .row x (e23Nj u0) 23, .row H [.bool (glshIS (⟨false, []⟩ : BInt) (bz 1) (wu64 u0.Size)).2.neg, .slice aj (glshIS (⟨false, []⟩ : BInt) (bz 1) (wu64 u0.Size)).2.abs.length ak] 69, .row s [.bool (glshIS (⟨false, []⟩ : BInt) (bz 1) (wu64 u0.Size)).1.neg, .slice bc (glshIS (⟨false, []⟩ : BInt) (bz 1) (wu64 u0.Size)).1.abs.length bd] 69] mr mq := jj
  have ms := je (cu.small) (cv.small)
  refine g_ dJ false (pt s 0) ?_; intro qh eH
  obtain ⟨mt, jl⟩ := ms
  refine cl eH 56 #[pt l 0, pt s 0] (wK eH false) rfl (by kernel_rfl) (by kernel_rfl) ?_
  obtain ⟨bI, mu, jm⟩ := hxq jl
  have m := gcmpA_fun c8 (glshIS (⟨false, []⟩ : BInt) (bz 1) (wu64 u0.Size)).1 mt l jf jg jh ji s bc bd _ _ _ _ _ _ cu cv ag (eG.perm (((pk 6 rfl).trans (lpr.cons _)).cons _)) eG.fz; rw [mu] at m; refine m.mono ?_; rintro _ mv ⟨jn, jo, jp, jq, eI, eJ, mw, rfl, Q, cK, cL, c9, hm⟩; refine ⟨_, rfl, ?_⟩; intro qi jr; have js := hm
  have cM : Mem w.heap.size [] w Z [.row l (e71Nj bI.2.1 jn jo jp jq) 71, .row s [.bool bI.2.2.neg, .slice eI bI.2.2.abs.length eJ] 69, .row u [.bool bf.2.2.neg, .slice c5 bf.2.2.abs.length c6] 69, .row I (e71Nj k.2 Y aa ab ac) 71, .row D (e71Nj j.2 R T U V) 71, .row B (e71Nj g.2 M N O P) 71, .row x (e23Nj u0) 23, .row H [.bool (glshIS (⟨false, []⟩ : BInt) (bz 1) (wu64 u0.Size)).2.neg, .slice aj (glshIS (⟨false, []⟩ : BInt) (bz 1) (wu64 u0.Size)).2.abs.length ak] 69] mw mv := js
  have dK := jm (cK.small) (cL.small) (c9.small)
  refine bt jr cM 2 [] [78, 79] [(79, .bool (decide (bI.1 ≥ 0)))] ?_; intro qj da
  apply dF
  refine c_ da dK (fun _ mx => ?_) fun _ jv => ?_
  ·
   refine sqB da cM [] [] [(6, i6 0), (7, i6 3)] ?_; intro qk my
   exact r_ (h_ (ra2 my (.tuple #[i6 0, i6 3]) ⟨(0, 3), rfl, mx, cM.below⟩))
  refine k_ (sqH ?_); intro mz jw
  refine s1 da 80 (pt l 0) ?_; intro ql jx
  refine ck jx 42 #[pt l 0] ?_
  obtain ⟨db, mA, jy⟩ := hxq jv
  have m := rnum_fun bI.2.1 l jn jo jp jq _ _ _ _ _ _ cK cL cM cM.fz; rw [mA] at m; refine m.mono ?_; rintro _ mB ⟨jz, jA, jB, jC, mC, rfl, F, dL, dM, hm⟩; refine ⟨_, rfl, ?_⟩; intro qm jD; have jE := hm
  have eL : Mem w.heap.size [] w Z [.row l (e71Nj db jz jA jB jC) 71, .row s [.bool bI.2.2.neg, .slice eI bI.2.2.abs.length eJ] 69, .row u [.bool bf.2.2.neg, .slice c5 bf.2.2.abs.length c6] 69, .row I (e71Nj k.2 Y aa ab ac) 71, .row D (e71Nj j.2 R T U V) 71, .row B (e71Nj g.2 M N O P) 71, .row x (e23Nj u0) 23, .row H [.bool (glshIS (⟨false, []⟩ : BInt) (bz 1) (wu64 u0.Size)).2.neg, .slice aj (glshIS (⟨false, []⟩ : BInt) (bz 1) (wu64 u0.Size)).2.abs.length ak] 69] mC mB := jE
  obtain ⟨mE, jG⟩ := jy (dL.small) (dM.small)
  refine ck jD 43 #[pt l 0] ?_
  obtain ⟨cD, mF, jH⟩ := hxq jG
  have m := gi64A_fun db mE l jz jA jB jC _ _ _ _ _ _ dL dM eL eL.fz; rw [mF] at m; refine m.mono ?_; rintro _ mG ⟨mH, mI, mJ, mK, mL, rfl, C, mM, mN, hm⟩; refine ⟨_, rfl, ?_⟩; intro qn jI; have jJ := hm
  have jK : Mem w.heap.size [] w Z [.row l (e71Nj cD.2 mH mI mJ mK) 71, .row s [.bool bI.2.2.neg, .slice eI bI.2.2.abs.length eJ] 69, .row u [.bool bf.2.2.neg, .slice c5 bf.2.2.abs.length c6] 69, .row I (e71Nj k.2 Y aa ab ac) 71, .row D (e71Nj j.2 R T U V) 71, .row B (e71Nj g.2 M N O P) 71, .row x (e23Nj u0) 23, .row H [.bool (glshIS (⟨false, []⟩ : BInt) (bz 1) (wu64 u0.Size)).2.neg, .slice aj (glshIS (⟨false, []⟩ : BInt) (bz 1) (wu64 u0.Size)).2.abs.length ak] 69] mL mG := jJ
  have mO := jH (mM.small) (mN.small)
  refine bt jI jK 2 [] [] [(6, i6 cD.1), (7, i6 0)] ?_; intro qo mP
  apply jw
  exact r_ (ra2 mP (.tuple #[i6 cD.1, i6 0]) ⟨(cD.1, 0), rfl, mO, jK.below⟩)

end Go.Proofs.YtdndfbamhnchfaaDoor
set_option linter.unusedVariables false
set_option linter.unusedSimpArgs false
set_option linter.defProp false
set_option maxRecDepth 100000
set_option maxHeartbeats 0
namespace Go.Proofs.YtdndfbamhnchfaaDoor
open Go.Sy Go.RowKit
abbrev e23Nk (X : Signal) : List Value := [str X.Name, i6 X.Start, i6 X.Size, .bool X.Back, .bool X.Signed, i6 X.Mul, i6 X.Div, i6 X.Add, i6 X.Key]
def runm_fun (u0 : Signal) (u1 : Int) (u2 : Int) (hpre : checkS u0 64 = 0)  (Z : Fz) (w : World)  (hZ : Z.on w) := f_ (runm_walk u0 u1 u2  Z w  hZ (runm_ok u0 u1 u2 hpre))
def signalled_fun   (Z : Fz) (w : World)  (hZ : Z.on w) := f_ (signalled_walk   Z w  hZ (signalled_ok ))
def rsetraw_fun (u0 : Signal) (u1 : List Int) (u2 : Int) (hpre : inD u0 u1) (ao1 : Option Addr) (cap2 : Nat) (Z : Fz) (w : World) (hs3 : SlR t8 Z ao1 cap2 u1) (hZ : Z.on w) := fc_ (rsetraw_walk u0 u1 u2 ao1 cap2 Z w hs3 hZ (rsetraw_ok u0 u1 u2 hpre))
theorem LWrite_walk (u0 : Signal) (u1 : List Int) (u2 : Int) (u3 : Int) (ao1 : Option Addr) (cap2 : Nat) (Z : Fz) (w : World) (hs3 : SlR t8 Z ao1 cap2 u1) (hZ : Z.on w) {K : Bool → Prop} (hp : LWrite_vc u0 u1 u2 u3 K) : Calls Tryd.prog 4 #[.agg #[str u0.Name, i6 u0.Start, i6 u0.Size, .bool u0.Back, .bool u0.Signed, i6 u0.Mul, i6 u0.Div, i6 u0.Add, i6 u0.Key], .slice ao1 u1.length cap2, i6 u2, i6 u3] w fun e w' => ∃ r : Bool, e = .returned (.bool r) ∧ K r ∧ Below w.heap.size w w' := by
 refine enter0 Tryd.func4 rfl rfl (by kernel_rfl) ?_; intro a0 aF; have aG := Mem.start w Z hZ
 have bM := hp (hs3.small)
 refine sqH ?_; intro bN aH
 refine nw aF aG pb (e23Nk u0) 23 ?_; intro k a7 cM aI ac
 refine s1 aI 8 (.bool false) ?_; intro cN aJ
 apply aH
 refine sqH ?_; intro bO aK
 refine s1 aJ 17 (.slice ao1 u1.length cap2) ?_; intro cO aL
 obtain ⟨bP, aM⟩ := bM
 refine ck aL 12 #[.slice ao1 u1.length cap2] ?_
 refine (bclone_fun u1 bP ao1 cap2 _ _ hs3 ac.fz).mono ?_; rintro _ bQ ⟨l, m, bR, rfl, hm⟩; refine ⟨_, rfl, ?_⟩; intro cP aN; have aO := ac.callZ hm; have aP := hm.ext.le
 replace hs3 := hs3.mono aP
 have p : Mem w.heap.size [] w Z [.own t8 5 l m (bcloneS u1), .row k (e23Nk u0) 23] bR bQ := aO
 have bS := aM (p.ownSmall 0 rfl)
 refine s1 aN 9 (.slice l (bcloneS u1).length m) ?_; intro cQ aQ
 apply aK
 refine sqH ?_; intro bT aR
 refine bt aQ p 3 [1] [] [(20, .agg (e23Nk u0).toArray), (21, i6 u2), (22, i6 u3)] ?_; intro cR aS
 refine fc aS p (sraw_fun u0 u2 u3 _ _ p.fz) ?_; intro cS bU aT ad
 refine bt aT ad 5 [] [] [(10, i6 (rawS u0 u2 u3).1), (11, i6 (rawS u0 u2 u3).2)] ?_; intro cT aU
 apply aR
 refine sqH ?_; intro bV aV
 refine bt aU ad 4 [1] [] [(27, .agg (e23Nk u0).toArray), (28, .slice l (bcloneS u1).length m), (29, i6 u2), (30, i6 u3)] ?_; intro cU aW
 obtain ⟨bW, aX, aY, b⟩ := ad.freeze 0 rfl
 replace hs3 := hs3.mono aX
 have ae : Mem w.heap.size [] w Z [.row k (e23Nk u0) 23] bW bU := aY
 obtain ⟨bX, aZ⟩ := bS
 refine ck aW 14 #[.agg (e23Nk u0).toArray, .slice l (bcloneS u1).length m, i6 u2, i6 u3] ?_
 refine (swrite_fun u0 (bcloneS u1) u2 u3 bX l m _ _ b ae.fz).mono ?_; rintro _ bY ⟨i, j, bZ, rfl, hm⟩; refine ⟨_, rfl, ?_⟩; intro cV a1; have a2 := ae.callZ hm; have af := hm.ext.le
 replace hs3 := hs3.mono af
 replace b := b.mono af
 have q : Mem w.heap.size [] w Z [.own t8 5 i j (swriteS u0 (bcloneS u1) u2 u3).1, .row k (e23Nk u0) 23] bZ bY := a2
 have F := aZ (q.ownSmall 0 rfl)
 refine bt a1 q 5 [] [] [(12, .slice i (swriteS u0 (bcloneS u1) u2 u3).1.length j), (13, i6 (swriteS u0 (bcloneS u1) u2 u3).2)] ?_; intro cW a3
 apply aV
 refine s_ (sqH ?_); intro b0 a4
 refine fc a3 q (signalled_fun  _ _ q.fz) ?_; intro cX cY a5 G
 refine bt a5 G 4 [] [37, 38] [(36, .bool false), (37, .slice l (bcloneS u1).length m), (38, .slice ao1 u1.length cap2)] ?_; intro cZ ag
 refine fcl ag G (.bool (beqS (bcloneS u1) u1)) 15 #[.slice l (bcloneS u1).length m, .slice ao1 u1.length cap2] (wK ag false) rfl (by kernel_rfl) (fun _ => by kernel_rfl) (beq_fun (bcloneS u1) u1 l m ao1 cap2 _ _ b hs3 G.fz) ?_; intro c0 c1 a6 o
 refine bt a6 o 2 [] [40, 41] [(41, .bool (!(beqS (bcloneS u1) u1)))] ?_; intro c2 s
 apply a4
 refine cd s (t := !(beqS (bcloneS u1) u1)) (by kernel_rfl) (fun ah => ?_) (fun ah => ?_)
 · -- yes
  have b1 := F.1 ah
  refine sqB s o [] [] [(8, .bool false)] ?_; intro c3 b2
  exact r_ (h_ (ra1 b2 (.bool false) ⟨false, rfl, b1, o.below⟩))
 · -- no
  have H := F.2 ah
  refine k_ (sqH ?_); intro b3 a8
  refine l2 s o 42 1 0 9 (e23Nk u0) rfl rfl ?_; intro c4 a9
  refine fc a9 o (rcheck_fun u0 64 _ _ o.fz) ?_; intro c5 c6 ba f
  refine s1 ba 14 (i6 (checkS u0 64)) ?_; intro c7 bb
  apply a8
  refine sqB bb f [] [] [(15, i6 0)] ?_; intro b4 bc
  apply s_
  have bd : Fr 95 [] [⟨1, [], .slice ao1 u1.length cap2⟩, ⟨2, [], i6 u2⟩, ⟨3, [], i6 u3⟩, ⟨4, [], pt k 0⟩, ⟨10, [], i6 (rawS u0 u2 u3).1⟩, ⟨11, [], i6 (rawS u0 u2 u3).2⟩, ⟨12, [], .slice i (swriteS u0 (bcloneS u1) u2 u3).1.length j⟩, ⟨13, [], i6 (swriteS u0 (bcloneS u1) u2 u3).2⟩, ⟨14, [], i6 (checkS u0 64)⟩, ⟨15, [], i6 0⟩] b4 := bc.reg
  refine sqB bd f [] [] [(45, .bool ((checkS u0 64) == 0))] ?_; intro c8 u
  refine cd u (t := (checkS u0 64) == 0) (by kernel_rfl) (fun ai => ?_) (fun ai => ?_)
  · -- yes
   have b5 := H.1 ai
   refine rgH ?_; intro b7 be
   refine bt u f 3 [1] [] [(47, .agg (e23Nk u0).toArray), (48, i6 u2), (49, i6 u3)] ?_; intro c9 bf
   obtain ⟨b8, I⟩ := b5
   refine fc bf f (runm_fun u0 u2 u3 b8 _ _ f.fz) ?_; intro da db bg n
   refine bt bg n 5 [] [] [(14, i6 (rawS u0 u2 u3).2), (15, i6 (rawS u0 u2 u3).1)] ?_; intro dc bh
   apply be
   refine t_ (s_ (sqB bh n [] [] [(60, .bool (((rawS u0 u2 u3).2 != (rawS u0 u2 u3).2) || ((rawS u0 u2 u3).1 != (rawS u0 u2 u3).1)))] ?_)); intro dd x
   refine cd x (t := ((rawS u0 u2 u3).2 != (rawS u0 u2 u3).2) || ((rawS u0 u2 u3).1 != (rawS u0 u2 u3).1)) (by kernel_rfl) (fun aj => ?_) (fun aj => ?_)
   · -- yes
    have b9 := I.1 aj
    refine sqB x n [] [] [(8, .bool false)] ?_; intro de ca
    exact r_ (h_ (ra1 ca (.bool false) ⟨false, rfl, b9, n.below⟩))
   · -- no
    have J := I.2 aj
    refine k_ (s_ (sqH ?_)); intro cb bi
    refine bt x n 3 [1] [] [(61, .agg (e23Nk u0).toArray), (63, i6 (u1.length : Int))] ?_; intro df bj
    refine fc bj n (rcheck_fun u0 (u1.length : Int) _ _ n.fz) ?_; intro dg dh bk g
    refine s1 bk 16 (i6 (checkS u0 (u1.length : Int))) ?_; intro di bl
    apply bi
    refine sqB bl g [] [] [(66, .bool ((checkS u0 (u1.length : Int)) != 0))] ?_; intro dj y
    refine cd y (t := (checkS u0 (u1.length : Int)) != 0) (by kernel_rfl) (fun ak => ?_) (fun ak => ?_)
    · -- yes
     have cc := J.1 ak
     refine sqB y g [] [] [(8, .bool (((swriteS u0 (bcloneS u1) u2 u3).2 == (checkS u0 (u1.length : Int))) && (((swriteS u0 (bcloneS u1) u2 u3).1.length : Int) == 0)))] ?_; intro dk ce
     exact r_ (h_ (ra1 ce (.bool (((swriteS u0 (bcloneS u1) u2 u3).2 == (checkS u0 (u1.length : Int))) && (((swriteS u0 (bcloneS u1) u2 u3).1.length : Int) == 0))) ⟨((swriteS u0 (bcloneS u1) u2 u3).2 == (checkS u0 (u1.length : Int))) && (((swriteS u0 (bcloneS u1) u2 u3).1.length : Int) == 0), rfl, cc, g.below⟩))
    · -- no
     have L := J.2 ak
     refine k_ (s_ (sqB y g [] [] [(76, .bool ((rawS u0 u2 u3).2 != 0))] ?_)); intro dl z
     refine cd z (t := (rawS u0 u2 u3).2 != 0) (by kernel_rfl) (fun al => ?_) (fun al => ?_)
     · -- yes
      have cf := L.1 al
      refine sqB z g [] [] [(8, .bool (((swriteS u0 (bcloneS u1) u2 u3).2 == (rawS u0 u2 u3).2) && (((swriteS u0 (bcloneS u1) u2 u3).1.length : Int) == 0)))] ?_; intro dm cg
      exact r_ (h_ (ra1 cg (.bool (((swriteS u0 (bcloneS u1) u2 u3).2 == (rawS u0 u2 u3).2) && (((swriteS u0 (bcloneS u1) u2 u3).1.length : Int) == 0))) ⟨((swriteS u0 (bcloneS u1) u2 u3).2 == (rawS u0 u2 u3).2) && (((swriteS u0 (bcloneS u1) u2 u3).1.length : Int) == 0), rfl, cf, g.below⟩))
     · -- no
      have M := L.2 al
      refine k_ (sqH ?_); intro bm N
      refine bt z g 3 [] [] [(87, .bool ((swriteS u0 (bcloneS u1) u2 u3).2 == 0))] ?_; intro dn O
      rcases Bool.eq_false_or_eq_true ((swriteS u0 (bcloneS u1) u2 u3).2 == 0) with A | A
      · -- true
       have ch := M.1 A
       have bn := O.reval (d := 87) (c := []) (v := .bool ((swriteS u0 (bcloneS u1) u2 u3).2 == 0)) (by kernel_rfl) (.bool true) (by rw [A])
       refine bt bn g 4 [1] [88, 89, 90, 91] [(88, .slice i (swriteS u0 (bcloneS u1) u2 u3).1.length j), (89, .agg (e23Nk u0).toArray), (90, .slice ao1 u1.length cap2), (91, i6 (rawS u0 u2 u3).1)] ?_; intro dp am
       obtain ⟨ci, bo⟩ := ch
       refine cl am 17 #[.agg (e23Nk u0).toArray, .slice ao1 u1.length cap2, i6 (rawS u0 u2 u3).1] (wK am true) rfl (by kernel_rfl) (by kernel_rfl) ?_
       refine (rsetraw_fun u0 u1 (rawS u0 u2 u3).1 ci ao1 cap2 _ _ hs3 g.fz).mono ?_; rintro _ an ⟨P, Q, cj, rfl, hm⟩; refine ⟨_, rfl, ?_⟩; intro dq ao; have bp := g.callZ hm
       have bq : Mem w.heap.size [] w Z [.own t8 5 P Q (putS u0 u1 (rawS u0 u2 u3).1), .own t8 5 i j (swriteS u0 (bcloneS u1) u2 u3).1, .row k (e23Nk u0) 23] cj an := bp
       have cm := bo (bq.ownSmall 0 rfl)
       obtain ⟨cn, aq, br, ar⟩ := bq.freeze 1 rfl
       have co : Mem w.heap.size [] w Z [.own t8 5 P Q (putS u0 u1 (rawS u0 u2 u3).1), .row k (e23Nk u0) 23] cn an := br
       obtain ⟨cp, R, bs, cq⟩ := co.freeze 0 rfl
       replace ar := ar.mono R
       have au : Mem w.heap.size [] w Z [.row k (e23Nk u0) 23] cp an := bs
       refine fcl ao au (.bool (beqS (swriteS u0 (bcloneS u1) u2 u3).1 (putS u0 u1 (rawS u0 u2 u3).1))) 15 #[.slice i (swriteS u0 (bcloneS u1) u2 u3).1.length j, .slice P (putS u0 u1 (rawS u0 u2 u3).1).length Q] (wK ao true) rfl (by kernel_rfl) (fun _ => by kernel_rfl) (beq_fun (swriteS u0 (bcloneS u1) u2 u3).1 (putS u0 u1 (rawS u0 u2 u3).1) i j P Q _ _ ar cq au.fz) ?_; intro dr ds bu bv
       refine bt bu bv 2 [] [94] [(8, .bool (beqS (swriteS u0 (bcloneS u1) u2 u3).1 (putS u0 u1 (rawS u0 u2 u3).1)))] ?_; intro dt cr
       apply N
       exact r_ (ra1 cr (.bool (beqS (swriteS u0 (bcloneS u1) u2 u3).1 (putS u0 u1 (rawS u0 u2 u3).1))) ⟨(beqS (swriteS u0 (bcloneS u1) u2 u3).1 (putS u0 u1 (rawS u0 u2 u3).1)), rfl, cm, bv.below⟩)
      · -- false
       have cs := M.2 A
       have bw := O.reval (d := 87) (c := []) (v := .bool ((swriteS u0 (bcloneS u1) u2 u3).2 == 0)) (by kernel_rfl) (.bool false) (by rw [A])
       refine bt bw g 8 [] [88, 89, 90, 91, 92, 93, 94] [(8, .bool false)] ?_; intro du ct
       apply N
       exact r_ (ra1 ct (.bool false) ⟨false, rfl, cs, g.below⟩)
  · -- no
   have S := H.2 ai
   refine k_ (s_ (sqB u f [] [] [(60, .bool (((rawS u0 u2 u3).2 != (checkS u0 64)) || ((rawS u0 u2 u3).1 != 0)))] ?_)); intro dv B
   refine cd B (t := ((rawS u0 u2 u3).2 != (checkS u0 64)) || ((rawS u0 u2 u3).1 != 0)) (by kernel_rfl) (fun av => ?_) (fun av => ?_)
   · -- yes
    have cu := S.1 av
    refine sqB B f [] [] [(8, .bool false)] ?_; intro dw cv
    exact r_ (h_ (ra1 cv (.bool false) ⟨false, rfl, cu, f.below⟩))
   · -- no
    have T := S.2 av
    refine k_ (s_ (sqH ?_)); intro cw bx
    refine bt B f 3 [1] [] [(61, .agg (e23Nk u0).toArray), (63, i6 (u1.length : Int))] ?_; intro dx bz
    refine fc bz f (rcheck_fun u0 (u1.length : Int) _ _ f.fz) ?_; intro dy dz bA h
    refine s1 bA 16 (i6 (checkS u0 (u1.length : Int))) ?_; intro dA bB
    apply bx
    refine sqB bB h [] [] [(66, .bool ((checkS u0 (u1.length : Int)) != 0))] ?_; intro dB C
    refine cd C (t := (checkS u0 (u1.length : Int)) != 0) (by kernel_rfl) (fun aw => ?_) (fun aw => ?_)
    · -- yes
     have cx := T.1 aw
     refine sqB C h [] [] [(8, .bool (((swriteS u0 (bcloneS u1) u2 u3).2 == (checkS u0 (u1.length : Int))) && (((swriteS u0 (bcloneS u1) u2 u3).1.length : Int) == 0)))] ?_; intro dC cy
     exact r_ (h_ (ra1 cy (.bool (((swriteS u0 (bcloneS u1) u2 u3).2 == (checkS u0 (u1.length : Int))) && (((swriteS u0 (bcloneS u1) u2 u3).1.length : Int) == 0))) ⟨((swriteS u0 (bcloneS u1) u2 u3).2 == (checkS u0 (u1.length : Int))) && (((swriteS u0 (bcloneS u1) u2 u3).1.length : Int) == 0), rfl, cx, h.below⟩))
    · -- no
     have U := T.2 aw
     refine k_ (s_ (sqB C h [] [] [(76, .bool ((checkS u0 64) != 0))] ?_)); intro dD D
     refine cd D (t := (checkS u0 64) != 0) (by kernel_rfl) (fun ax => ?_) (fun ax => ?_)
     · -- yes
      have cz := U.1 ax
      refine sqB D h [] [] [(8, .bool (((swriteS u0 (bcloneS u1) u2 u3).2 == (checkS u0 64)) && (((swriteS u0 (bcloneS u1) u2 u3).1.length : Int) == 0)))] ?_; intro dE cA
      exact r_ (h_ (ra1 cA (.bool (((swriteS u0 (bcloneS u1) u2 u3).2 == (checkS u0 64)) && (((swriteS u0 (bcloneS u1) u2 u3).1.length : Int) == 0))) ⟨((swriteS u0 (bcloneS u1) u2 u3).2 == (checkS u0 64)) && (((swriteS u0 (bcloneS u1) u2 u3).1.length : Int) == 0), rfl, cz, h.below⟩))
     · -- no
      have V := U.2 ax
      refine k_ (sqH ?_); intro bC W
      refine bt D h 3 [] [] [(87, .bool ((swriteS u0 (bcloneS u1) u2 u3).2 == 0))] ?_; intro dF X
      rcases Bool.eq_false_or_eq_true ((swriteS u0 (bcloneS u1) u2 u3).2 == 0) with E | E
      · -- true
       have cB := V.1 E
       have bD := X.reval (d := 87) (c := []) (v := .bool ((swriteS u0 (bcloneS u1) u2 u3).2 == 0)) (by kernel_rfl) (.bool true) (by rw [E])
       refine bt bD h 4 [1] [88, 89, 90, 91] [(88, .slice i (swriteS u0 (bcloneS u1) u2 u3).1.length j), (89, .agg (e23Nk u0).toArray), (90, .slice ao1 u1.length cap2), (91, i6 0)] ?_; intro dG ay
       obtain ⟨cC, bE⟩ := cB
       refine cl ay 17 #[.agg (e23Nk u0).toArray, .slice ao1 u1.length cap2, i6 0] (wK ay true) rfl (by kernel_rfl) (by kernel_rfl) ?_
       refine (rsetraw_fun u0 u1 0 cC ao1 cap2 _ _ hs3 h.fz).mono ?_; rintro _ az ⟨Y, aa, cD, rfl, hm⟩; refine ⟨_, rfl, ?_⟩; intro dH aA; have bF := h.callZ hm
       have bG : Mem w.heap.size [] w Z [.own t8 5 Y aa (putS u0 u1 0), .own t8 5 i j (swriteS u0 (bcloneS u1) u2 u3).1, .row k (e23Nk u0) 23] cD az := bF
       have cE := bE (bG.ownSmall 0 rfl)
       obtain ⟨cF, aC, bH, aD⟩ := bG.freeze 1 rfl
       have cG : Mem w.heap.size [] w Z [.own t8 5 Y aa (putS u0 u1 0), .row k (e23Nk u0) 23] cF az := bH
       obtain ⟨cH, ab, bI, cI⟩ := cG.freeze 0 rfl
       replace aD := aD.mono ab
       have aE : Mem w.heap.size [] w Z [.row k (e23Nk u0) 23] cH az := bI
       refine fcl aA aE (.bool (beqS (swriteS u0 (bcloneS u1) u2 u3).1 (putS u0 u1 0))) 15 #[.slice i (swriteS u0 (bcloneS u1) u2 u3).1.length j, .slice Y (putS u0 u1 0).length aa] (wK aA true) rfl (by kernel_rfl) (fun _ => by kernel_rfl) (beq_fun (swriteS u0 (bcloneS u1) u2 u3).1 (putS u0 u1 0) i j Y aa _ _ aD cI aE.fz) ?_; intro dI dJ bJ bK
       refine bt bJ bK 2 [] [94] [(8, .bool (beqS (swriteS u0 (bcloneS u1) u2 u3).1 (putS u0 u1 0)))] ?_; intro dK cJ
       apply W
       exact r_ (ra1 cJ (.bool (beqS (swriteS u0 (bcloneS u1) u2 u3).1 (putS u0 u1 0))) ⟨(beqS (swriteS u0 (bcloneS u1) u2 u3).1 (putS u0 u1 0)), rfl, cE, bK.below⟩)
      · -- false
       have cK := V.2 E
       have bL := X.reval (d := 87) (c := []) (v := .bool ((swriteS u0 (bcloneS u1) u2 u3).2 == 0)) (by kernel_rfl) (.bool false) (by rw [E])
       refine bt bL h 8 [] [88, 89, 90, 91, 92, 93, 94] [(8, .bool false)] ?_; intro dL cL
       apply W
       exact r_ (ra1 cL (.bool false) ⟨false, rfl, cK, h.below⟩)

end Go.Proofs.YtdndfbamhnchfaaDoor
