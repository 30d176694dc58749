/- Texts put together (pure ones, or walks made by program). -/
import Derived.Test.YtmnlahbngbigdaaGreatDoorK0
import Derived.Test.YtmnlahbngbigdaaGreatDoorK1
import Derived.Test.YtmnlahbngbigdaaGreatDoorK2
import Derived.Test.YtmnlahbngbigdaaGreatDoorK3
import Derived.Test.YtmnlahbngbigdaaGreatDoorK4
import Derived.Test.YtmnlahbngbigdaaGreatDoorK5
set_option linter.unusedVariables false
set_option linter.unusedSimpArgs false
set_option maxRecDepth 100000
set_option maxHeartbeats 0
namespace Go.Proofs.YtmnlahbngbigdaaGreatDoor
open Go.Sy Go.RowKit
abbrev e46Ernames (X : FReader) (A0 : Option Addr) (C0 : Nat) : List Value := [str X.Reader.Row, i6 X.Reader.At, i6 X.Reader.Code, y8 X.Reader.c.last, i6 X.Reader.c.n, i6 X.f.ID, .bool X.f.Long, .bool X.f.Fast, .bool X.f.Remote, i6 X.f.Size, .slice A0 X.f.Data.length C0]
theorem rnames_walk (u0 : FReader) (b1 : Nat) (ao2 : Option Addr) (cap3 : Nat) (B : Nat) (w0 : World) (Z0 : Fz) (Rr : List Res) (Z : Fz) (w : World) (hs4 : SlR t8 Z ao2 cap3 u0.f.Data) (hM0 : Mem B [] w0 Z0 ((.row b1 [str u0.Reader.Row, i6 u0.Reader.At, i6 u0.Reader.Code, y8 u0.Reader.c.last, i6 u0.Reader.c.n, i6 u0.f.ID, .bool u0.f.Long, .bool u0.f.Fast, .bool u0.f.Remote, i6 u0.f.Size, .slice ao2 u0.f.Data.length cap3] 46) :: Rr) Z w) (hZ : Z.on w) {K : FReader → Prop} (hp : rnames_vc u0 K) : Calls Tryz.prog 17 #[pt b1 0] w fun e w' => ∃ (r : FReader) (ao1001 : Option Addr) (cap1002 : Nat) (Z' : Fz), e = .returned (.tuple #[]) ∧ K r ∧ Fz.le Z Z' ∧ SlR t8 Z' ao1001 cap1002 r.f.Data ∧ Mem B [] w0 Z0 ((.row b1 [str r.Reader.Row, i6 r.Reader.At, i6 r.Reader.Code, y8 r.Reader.c.last, i6 r.Reader.c.n, i6 r.f.ID, .bool r.f.Long, .bool r.f.Fast, .bool r.f.Remote, i6 r.f.Size, .slice ao1001 r.f.Data.length cap1002] 46) :: Rr) Z' w' := by
 refine enter0 Tryz.func17 rfl rfl (by kernel_rfl) ?_; intro a0 cu; have k := Fz.le.refl Z
 have eK := hp (hs4.small)
 refine sqH ?_; intro eL cv
 refine s1 cu 3 (pt b1 0) ?_; intro a7 cw
 obtain ⟨eM, cx⟩ := eK
 refine ck cw 45 #[pt b1 0, str ([48] : List UInt8)] ?_
 obtain ⟨ay, eN, cy⟩ := hxq cx
 have m := rwant_fun u0 ([48] : List UInt8) eM b1 ao2 cap3 _ _ _ _ _ _ hs4 hM0 hM0.fz; rw [eN] at m; refine m.mono ?_; rintro _ eO ⟨cz, cA, eP, rfl, cB, az, hm⟩; refine ⟨_, rfl, ?_⟩; intro g0 cC; have cD := hm
 replace k := Fz.le.trans k cB
 have bG : Mem B [] w0 Z0 ((.row b1 (e46Ernames ay cz cA) 46) :: Rr) eP eO := cD
 have eQ := cy (az.small)
 apply cv
 refine sqH ?_; intro eR cE
 refine bt cC bG 2 [] [] [(5, pt b1 0), (6, pt b1 0)] ?_; intro g1 cF
 obtain ⟨eS, cG⟩ := eQ
 refine ck cF 18 #[pt b1 0, i6 11] ?_
 obtain ⟨q, eT, cH⟩ := hxq cG
 have m := rnumber_fun ay 11 eS b1 cz cA _ _ _ _ _ _ az bG bG.fz; rw [eT] at m; refine m.mono ?_; rintro _ eU ⟨bH, bI, cI, rfl, b3, aP, hm⟩; refine ⟨_, rfl, ?_⟩; intro g2 cJ; have cK := hm
 replace k := Fz.le.trans k b3
 have b4 : Mem B [] w0 Z0 ((.row b1 (e46Ernames q.2 bH bI) 46) :: Rr) cI eU := cK
 have eV := cH (aP.small)
 refine bt cJ b4 3 [] [] [(10, pt b1 5)] ?_; intro g3 b5
 refine sx b5 b4 0 [str q.2.Reader.Row, i6 q.2.Reader.At, i6 q.2.Reader.Code, y8 q.2.Reader.c.last, i6 q.2.Reader.c.n, i6 q.1, .bool q.2.f.Long, .bool q.2.f.Fast, .bool q.2.f.Remote, i6 q.2.f.Size, .slice bH q.2.f.Data.length bI] 5 ?_; intro eW cL
 have bJ : Mem B [] w0 Z0 ((.row b1 [str q.2.Reader.Row, i6 q.2.Reader.At, i6 q.2.Reader.Code, y8 q.2.Reader.c.last, i6 q.2.Reader.c.n, i6 q.1, .bool q.2.f.Long, .bool q.2.f.Fast, .bool q.2.f.Remote, i6 q.2.f.Size, .slice bH q.2.f.Data.length bI] 46) :: Rr) cI eW := cL
 apply cE
 refine sqH ?_; intro eX cM
 refine bt b5 bJ 3 [] [] [(13, pt b1 0)] ?_; intro g4 cN
 obtain ⟨eY, cO⟩ := eV
 refine ck cN 21 #[pt b1 0, i6 1] ?_
 obtain ⟨O, eZ, cP⟩ := hxq cO
 have m := rtakeF_fun (⟨q.2.Reader, (⟨q.1, q.2.f.Long, q.2.f.Fast, q.2.f.Remote, q.2.f.Size, q.2.f.Data⟩ : Frame)⟩ : FReader) 1 eY b1 bH bI _ _ _ _ _ _ aP bJ bJ.fz; rw [eZ] at m; refine m.mono ?_; rintro _ e0 ⟨cQ, cR, e1, rfl, bK, a3, hm⟩; refine ⟨_, rfl, ?_⟩; intro g5 cS; have cT := hm
 replace k := Fz.le.trans k bK
 have bx : Mem B [] w0 Z0 ((.row b1 (e46Ernames O.2 cQ cR) 46) :: Rr) e1 e0 := cT
 have e2 := cP (a3.small)
 refine bt cS bx 2 [] [112] [(2, .bool (O.1 == ([49] : List UInt8)))] ?_; intro g6 cU
 apply cM
 refine sqH ?_; intro e3 cV
 refine bt cU bx 4 [] [] [(16, pt b1 0), (19, pt b1 0)] ?_; intro g7 cW
 obtain ⟨e4, cX⟩ := e2
 refine ck cW 21 #[pt b1 0, i6 1] ?_
 obtain ⟨g, e5, cY⟩ := hxq cX
 have m := rtakeF_fun O.2 1 e4 b1 cQ cR _ _ _ _ _ _ a3 bx bx.fz; rw [e5] at m; refine m.mono ?_; rintro _ e6 ⟨a4, a5, aX, rfl, bz, a6, hm⟩; refine ⟨_, rfl, ?_⟩; intro g8 cZ; have c0 := hm
 replace k := Fz.le.trans k bz
 have b6 : Mem B [] w0 Z0 ((.row b1 (e46Ernames g.2 a4 a5) 46) :: Rr) aX e6 := c0
 have e7 := cY (a6.small)
 refine bt cZ b6 4 [] [118] [(21, .bool (g.1 == ([49] : List UInt8))), (24, pt b1 6)] ?_; intro g9 b7
 refine sx b7 b6 0 [str g.2.Reader.Row, i6 g.2.Reader.At, i6 g.2.Reader.Code, y8 g.2.Reader.c.last, i6 g.2.Reader.c.n, i6 g.2.f.ID, .bool (g.1 == ([49] : List UInt8)), .bool g.2.f.Fast, .bool g.2.f.Remote, i6 g.2.f.Size, .slice a4 g.2.f.Data.length a5] 6 ?_; intro e8 c1
 have b8 : Mem B [] w0 Z0 ((.row b1 [str g.2.Reader.Row, i6 g.2.Reader.At, i6 g.2.Reader.Code, y8 g.2.Reader.c.last, i6 g.2.Reader.c.n, i6 g.2.f.ID, .bool (g.1 == ([49] : List UInt8)), .bool g.2.f.Fast, .bool g.2.f.Remote, i6 g.2.f.Size, .slice a4 g.2.f.Data.length a5] 46) :: Rr) aX e8 := c1
 apply cV
 refine sqH ?_; intro e9 c2
 refine bt b7 b8 5 [] [] [(26, .bool (O.1 == ([49] : List UInt8))), (29, pt b1 8)] ?_; intro ha b9
 refine sx b9 b8 0 [str g.2.Reader.Row, i6 g.2.Reader.At, i6 g.2.Reader.Code, y8 g.2.Reader.c.last, i6 g.2.Reader.c.n, i6 g.2.f.ID, .bool (g.1 == ([49] : List UInt8)), .bool g.2.f.Fast, .bool (O.1 == ([49] : List UInt8)), i6 g.2.f.Size, .slice a4 g.2.f.Data.length a5] 8 ?_; intro fa c3
 have aY : Mem B [] w0 Z0 ((.row b1 [str g.2.Reader.Row, i6 g.2.Reader.At, i6 g.2.Reader.Code, y8 g.2.Reader.c.last, i6 g.2.Reader.c.n, i6 g.2.f.ID, .bool (g.1 == ([49] : List UInt8)), .bool g.2.f.Fast, .bool (O.1 == ([49] : List UInt8)), i6 g.2.f.Size, .slice a4 g.2.f.Data.length a5] 46) :: Rr) aX fa := c3
 apply c2
 refine s_ (sqB b9 aY [0] [] [(34, .bool (g.1 == ([49] : List UInt8)))] ?_); intro c4 c5
 have c6 : Fr 97 [] [⟨0, [], pt b1 0⟩, ⟨2, [], .bool (O.1 == ([49] : List UInt8))⟩, ⟨34, [], .bool (g.1 == ([49] : List UInt8))⟩] c4 := c5.reg
 obtain ⟨fb, bL, fc⟩ := e7
 refine wp_then_k fun KJ152 hKJ153 => ?_
 have c7 : ∀ (U : FReader) (bM : Option Addr) (bN : Nat) (bO : Fz), fb U ∧ SlR t8 bO bM bN U.f.Data ∧ Fz.le aX bO → ∀ a1 w1, Fr 97 [] [⟨0, [], pt b1 0⟩] a1 → Mem B [] w0 Z0 ((.row b1 (e46Ernames U bM bN) 46) :: Rr) bO w1 → KJ152 a1 w1 := by
  rintro U bM bN bO ⟨fd, a8, ap⟩ hb hc c8 bP
  refine hKJ153 _ _ ?_
  have fe := fc U fd
  replace k := Fz.le.trans k ap
  refine sqH ?_; intro fg c9
  refine bt c8 bP 4 [] [] [(61, pt b1 0), (64, pt b1 0)] ?_; intro hd da
  obtain ⟨fh, db⟩ := fe
  refine ck da 21 #[pt b1 0, i6 1] ?_
  obtain ⟨j, fi, dc⟩ := hxq db
  have m := rtakeF_fun U 1 fh b1 bM bN _ _ _ _ _ _ a8 bP bP.fz; rw [fi] at m; refine m.mono ?_; rintro _ fj ⟨bh, bi, bl, rfl, a9, aQ, hm⟩; refine ⟨_, rfl, ?_⟩; intro he dd; have de := hm
  replace k := Fz.le.trans k a9
  have ca : Mem B [] w0 Z0 ((.row b1 (e46Ernames j.2 bh bi) 46) :: Rr) bl fj := de
  have bQ := dc (aQ.small)
  refine bt dd ca 4 [] [163] [(66, .bool (j.1 == ([49] : List UInt8))), (69, pt b1 7)] ?_; intro hf cb
  refine sx cb ca 0 [str j.2.Reader.Row, i6 j.2.Reader.At, i6 j.2.Reader.Code, y8 j.2.Reader.c.last, i6 j.2.Reader.c.n, i6 j.2.f.ID, .bool j.2.f.Long, .bool (j.1 == ([49] : List UInt8)), .bool j.2.f.Remote, i6 j.2.f.Size, .slice bh j.2.f.Data.length bi] 7 ?_; intro fk df
  have aA : Mem B [] w0 Z0 ((.row b1 [str j.2.Reader.Row, i6 j.2.Reader.At, i6 j.2.Reader.Code, y8 j.2.Reader.c.last, i6 j.2.Reader.c.n, i6 j.2.f.ID, .bool j.2.f.Long, .bool (j.1 == ([49] : List UInt8)), .bool j.2.f.Remote, i6 j.2.f.Size, .slice bh j.2.f.Data.length bi] 46) :: Rr) bl fk := df
  apply c9
  refine b_ (sqB cb aA [0] [] [(70, .bool (j.1 == ([49] : List UInt8)))] ?_); intro hg bB
  refine c_ bB bQ (fun _ fl => ?_) fun _ bV => ?_
  ·
   refine s_ (sqB bB aA [0] [] [(80, .bool j.2.f.Remote)] ?_); intro dg dh
   have di : Fr 97 [] [⟨0, [], pt b1 0⟩, ⟨80, [], .bool j.2.f.Remote⟩] dg := dh.reg
   obtain ⟨fm, bR, fo⟩ := fl
   refine wp_then_k fun KJ234 hKJ235 => ?_
   have dj : ∀ (b : FReader) (aq : Option Addr) (ar : Nat) (bS : Fz), fm b ∧ SlR t8 bS aq ar b.f.Data ∧ Fz.le bl bS → ∀ a1 w1, Fr 97 [] [⟨0, [], pt b1 0⟩] a1 → Mem B [] w0 Z0 ((.row b1 (e46Ernames b aq ar) 46) :: Rr) bS w1 → KJ234 a1 w1 := by
    rintro b aq ar bS ⟨fp, P, ag⟩ hh hj dk ce
    refine hKJ235 _ _ ?_
    have fq := fo b fp
    replace k := Fz.le.trans k ag
    refine sqH ?_; intro fr dl
    refine s1 dk 83 (pt b1 0) ?_; intro hk dm
    obtain ⟨fs, dn⟩ := fq
    refine ck dm 45 #[pt b1 0, str ([48] : List UInt8)] ?_
    obtain ⟨aB, ft, dp⟩ := hxq dn
    have m := rwant_fun b ([48] : List UInt8) fs b1 aq ar _ _ _ _ _ _ P ce ce.fz; rw [ft] at m; refine m.mono ?_; rintro _ fu ⟨dq, dr, fv, rfl, aL, bv, hm⟩; refine ⟨_, rfl, ?_⟩; intro hl ds; have dt := hm
    replace k := Fz.le.trans k aL
    have cf : Mem B [] w0 Z0 ((.row b1 (e46Ernames aB dq dr) 46) :: Rr) fv fu := dt
    have fw := dp (bv.small)
    apply dl
    refine sqH ?_; intro fx du
    refine s1 ds 85 (pt b1 0) ?_; intro hn dv
    obtain ⟨fy, dw⟩ := fw
    refine ck dv 45 #[pt b1 0, str ([49] : List UInt8)] ?_
    obtain ⟨aC, fA, dx⟩ := hxq dw
    have m := rwant_fun aB ([49] : List UInt8) fy b1 dq dr _ _ _ _ _ _ bv cf cf.fz; rw [fA] at m; refine m.mono ?_; rintro _ fB ⟨dy, dz, fC, rfl, aD, bT, hm⟩; refine ⟨_, rfl, ?_⟩; intro ho dA; have dB := hm
    replace k := Fz.le.trans k aD
    have cg : Mem B [] w0 Z0 ((.row b1 (e46Ernames aC dy dz) 46) :: Rr) fC fB := dB
    have fD := dx (bT.small)
    apply du
    refine rgH ?_; intro fE dC
    refine s1 dA 87 (pt b1 0) ?_; intro hq dD
    obtain ⟨fF, dE⟩ := fD
    refine ck dD 45 #[pt b1 0, str ([48] : List UInt8)] ?_
    obtain ⟨aE, fG, dF⟩ := hxq dE
    have m := rwant_fun aC ([48] : List UInt8) fF b1 dy dz _ _ _ _ _ _ bT cg cg.fz; rw [fG] at m; refine m.mono ?_; rintro _ fH ⟨dG, dH, dI, rfl, au, dJ, hm⟩; refine ⟨_, rfl, ?_⟩; intro hr dK; have dL := hm
    replace k := Fz.le.trans k au
    have fI : Mem B [] w0 Z0 ((.row b1 (e46Ernames aE dG dH) 46) :: Rr) dI fH := dL
    have fJ := dF (dJ.small)
    apply dC
    refine j_ (rN (fn := Tryz.f17) (v := .tuple #[]) dK (re0 dK (fn := Tryz.f17) rfl) ?_)
    exact ⟨aE, dG, dH, dI, rfl, fJ, k, dJ, fI.kp⟩
   have bU := Fz.le.refl bl
   refine c_ di bR (fun _ dM => ?_) fun _ fQ => ?_
   ·
    refine rgH ?_; intro fK dN
    refine s1 di 81 (pt b1 0) ?_; intro ht dO
    refine ck dO 19 #[pt b1 0, i6 4] ?_
    obtain ⟨aF, fL, dP⟩ := hxq dM
    have m := rfail_fun (⟨j.2.Reader, (⟨j.2.f.ID, j.2.f.Long, j.1 == ([49] : List UInt8), j.2.f.Remote, j.2.f.Size, j.2.f.Data⟩ : Frame)⟩ : FReader) 4 b1 bh bi _ _ _ _ _ _ aQ aA aA.fz; rw [fL] at m; refine m.mono ?_; rintro _ fM ⟨dQ, dR, dS, rfl, aR, dT, hm⟩; refine ⟨_, rfl, ?_⟩; intro hu fN; have dU := hm
    replace bU := bU.mono aR
    have fO : Mem B [] w0 Z0 ((.row b1 (e46Ernames aF dQ dR) 46) :: Rr) dS fM := dU
    have fP := dP (dT.small)
    apply dN
    exact d_ (dj aF dQ dR dS ⟨fP, dT, bU⟩ _ _ ((fN.reg).anyβ _ (by kernel_rfl)) (fO.kp))
   exact l_ (d_ (dj (⟨j.2.Reader, (⟨j.2.f.ID, j.2.f.Long, j.1 == ([49] : List UInt8), j.2.f.Remote, j.2.f.Size, j.2.f.Data⟩ : Frame)⟩ : FReader) bh bi bl ⟨fQ, aQ, bU⟩ _ _ ((di.reg).anyβ _ (by kernel_rfl)) (aA.kp)))
  refine sqB bB aA [0] [] [(89, .bool j.2.f.Long)] ?_; intro hv bD
  refine c_ bD bV (fun _ fR => ?_) fun _ fY => ?_
  ·
   refine rgH ?_; intro fS dV
   refine s1 bD 95 (pt b1 0) ?_; intro hw dW
   obtain ⟨fT, dX⟩ := fR
   refine ck dW 45 #[pt b1 0, str ([48] : List UInt8)] ?_
   obtain ⟨aG, fU, dY⟩ := hxq dX
   have m := rwant_fun (⟨j.2.Reader, (⟨j.2.f.ID, j.2.f.Long, j.1 == ([49] : List UInt8), j.2.f.Remote, j.2.f.Size, j.2.f.Data⟩ : Frame)⟩ : FReader) ([48] : List UInt8) fT b1 bh bi _ _ _ _ _ _ aQ aA aA.fz; rw [fU] at m; refine m.mono ?_; rintro _ fV ⟨dZ, d0, d1, rfl, aZ, d2, hm⟩; refine ⟨_, rfl, ?_⟩; intro hx d3; have d4 := hm
   replace k := Fz.le.trans k aZ
   have fW : Mem B [] w0 Z0 ((.row b1 (e46Ernames aG dZ d0) 46) :: Rr) d1 fV := d4
   have fX := dY (d2.small)
   apply dV
   refine j_ (rN (fn := Tryz.f17) (v := .tuple #[]) d3 (re0 d3 (fn := Tryz.f17) rfl) ?_)
   exact ⟨aG, dZ, d0, d1, rfl, fX, k, d2, fW.kp⟩
  refine l_ (j_ (rN (fn := Tryz.f17) (v := .tuple #[]) bD (re0 bD (fn := Tryz.f17) rfl) ?_))
  exact ⟨(⟨j.2.Reader, (⟨j.2.f.ID, j.2.f.Long, j.1 == ([49] : List UInt8), j.2.f.Remote, j.2.f.Size, j.2.f.Data⟩ : Frame)⟩ : FReader), bh, bi, bl, rfl, fY, k, aQ, aA.kp⟩
 have bW := Fz.le.refl aX
 refine c_ c6 bL (fun _ fZ => ?_) fun _ gZ => ?_
 ·
  refine s_ (sqB c6 aY [] [] [(36, .bool (!(O.1 == ([49] : List UInt8))))] ?_); intro d5 d6
  have d7 : Fr 97 [] [⟨0, [], pt b1 0⟩, ⟨36, [], .bool (!(O.1 == ([49] : List UInt8)))⟩] d5 := d6.reg
  obtain ⟨f0, bX, f1⟩ := fZ
  refine wp_then_k fun KJ383 hKJ384 => ?_
  have d8 : ∀ (b : FReader) (aq : Option Addr) (ar : Nat) (bw : Fz), f0 b ∧ SlR t8 bw aq ar b.f.Data ∧ Fz.le aX bw → ∀ a1 w1, Fr 97 [] [⟨0, [], pt b1 0⟩] a1 → Mem B [] w0 Z0 ((.row b1 (e46Ernames b aq ar) 46) :: Rr) bw w1 → KJ383 a1 w1 := by
   rintro b aq ar bw ⟨f2, P, Q⟩ aj hy d9 f3
   refine hKJ384 _ _ ?_
   have f4 := f1 b f2
   have ab := bW.mono Q
   have f5 : Fr 97 [] [⟨0, [], pt b1 0⟩] aj := d9.reg
   obtain ⟨f6, f7⟩ := f4
   refine wp_seq (any_invE mixed [[], [], [1], [2], [3], [4], [5], [], [7], [6, 8], [0, 1, 2, 3, 4, 5, 6, 7, 8, 9], [0, 1, 2, 3, 4, 5, 6, 7, 8, 9, 10], [0, 1, 2, 3, 4, 5, 6, 7, 8, 9, 11], [0, 1, 2, 3, 4, 5, 6, 7, 8, 9, 12]] 14 (fun S a w1 => ∃ (L : Option Addr) (M : Nat) (ak : Value) (bj : Value) (ba : Value) (a2 : Value) (aS : Value) (aM : Value) (av : Value) (aN : Value) (aH : Value) (al : Value) (ah : Value) (ac : Value) (T : Value) (aI : Res) (s : Fz), Fz.le bw s ∧ Fr 97 [] [⟨0, [], pt b1 0⟩, ⟨39, [], ak⟩, ⟨40, [], bj⟩, ⟨41, [], ba⟩, ⟨42, [], a2⟩, ⟨43, [], aS⟩, ⟨44, [], aM⟩, ⟨45, [], av⟩, ⟨46, [], aN⟩, ⟨47, [], aH⟩, ⟨48, [], al⟩, ⟨49, [], ah⟩, ⟨50, [], ac⟩, ⟨51, [], T⟩] a ∧ Mem B [] w0 Z0 (aI :: Rr) s w1 ∧ (S 0 = true → ak = pt b1 0) ∧ (S 1 = true → bj = pt b1 0) ∧ (S 2 = true → ba = pt b1 0) ∧ (S 3 = true → a2 = pt b1 5) ∧ (S 4 = true → aS = pt b1 5) ∧ (S 5 = true → aM = i6 b.f.ID) ∧ (S 6 = true → av = i6 (bShl .i64 b.f.ID 18)) ∧ (S 7 = true → aN = pt b1 0) ∧ (S 8 = true → aH = i6 (rnumberS b 18).1) ∧ (S 9 = true → al = i6 (bOr .i64 (bShl .i64 b.f.ID 18) (rnumberS b 18).1)) ∧ (S 10 = true → ah = pt b1 0) ∧ (S 11 = true → ac = pt b1 5) ∧ (S 12 = true → T = pt b1 5) ∧ (S 8 = false → aI = .row b1 (e46Ernames b aq ar) 46) ∧ (S 8 = true → S 13 = false → aI = .row b1 [str (rnumberS b 18).2.Reader.Row, i6 (rnumberS b 18).2.Reader.At, i6 (rnumberS b 18).2.Reader.Code, y8 (rnumberS b 18).2.Reader.c.last, i6 (rnumberS b 18).2.Reader.c.n, i6 b.f.ID, .bool b.f.Long, .bool b.f.Fast, .bool b.f.Remote, i6 b.f.Size, .slice L b.f.Data.length M] 46) ∧ (S 13 = true → aI = .row b1 [str (rnumberS b 18).2.Reader.Row, i6 (rnumberS b 18).2.Reader.At, i6 (rnumberS b 18).2.Reader.Code, y8 (rnumberS b 18).2.Reader.c.last, i6 (rnumberS b 18).2.Reader.c.n, i6 (bOr .i64 (bShl .i64 b.f.ID 18) (rnumberS b 18).1), .bool b.f.Long, .bool b.f.Fast, .bool b.f.Remote, i6 b.f.Size, .slice L b.f.Data.length M] 46) ∧ (S 8 = true → SlR t8 s L M b.f.Data)) ?h0 ?hs ?hE)
   case h0 =>
    have f8 := f5.any 39
    have f9 := f8.any 40
    have ga := f9.any 41
    have gb := ga.any 42
    have gc := gb.any 43
    have gd := gc.any 44
    have ge := gd.any 45
    have gf := ge.any 46
    have gg := gf.any 47
    have gh := gg.any 48
    have gi := gh.any 49
    have gj := gi.any 50
    have gk := gj.any 51
    have gl := (f3.perm lpr).drew
    exact ⟨none, 0, aj.tmps.getD 39 undef, aj.tmps.getD 40 undef, aj.tmps.getD 41 undef, aj.tmps.getD 42 undef, aj.tmps.getD 43 undef, aj.tmps.getD 44 undef, aj.tmps.getD 45 undef, aj.tmps.getD 46 undef, aj.tmps.getD 47 undef, aj.tmps.getD 48 undef, aj.tmps.getD 49 undef, aj.tmps.getD 50 undef, aj.tmps.getD 51 undef, .row b1 (e46Ernames b aq ar) 46, bw, Fz.le.refl _, gk.reg, gl, ff, ff, ff, ff, ff, ff, ff, ff, ff, ff, ff, ff, ff, kf, ff, ff, ff⟩
   case hs =>
    intro S hcl i o hil hi hSi hpre a w1 hI; refine Go.Sy.hid ?_; intro G hG; obtain ⟨L, M, ak, bj, ba, a2, aS, aM, av, aN, aH, al, ah, ac, T, aI, s, d, hFx, hMx, ad, ae, ai, am, aw, hI⟩ := hI; obtain ⟨aO, aT, af, an, bk, bF, bY, cl, aU, ax, ea, hI⟩ := hI; have ao := hI
    have hcase : i = 0 ∨ i = 1 ∨ i = 2 ∨ i = 3 ∨ i = 4 ∨ i = 5 ∨ i = 6 ∨ i = 7 ∨ i = 8 ∨ i = 9 ∨ i = 10 ∨ i = 11 ∨ i = 12 ∨ i = 13 := by clear hi; omega
    rcases hcase with rfl | rfl | rfl | rfl | rfl | rfl | rfl | rfl | rfl | rfl | rfl | rfl | rfl | rfl
    ·
     obtain rfl := oj hi
     have aJ := hSi
     have I := ngF hcl 10 0 aJ
     have D := ngF hcl 11 0 aJ
     have E := ngF hcl 12 0 aJ
     have u := ngF hcl 13 0 aJ
     refine hG (any_step ?_); intro A J hJ
     refine s1 hFx 39 (pt b1 0) ?_; intro hL gm
     refine nl (qnI (hJ _ _ ?_))
     exact ⟨L, M, pt b1 0, bj, ba, a2, aS, aM, av, aN, aH, al, ah, ac, T, aI, s, d, gm.reg, hMx.perm lpr, kf, ae, ai, am, aw, aO, aT, af, an, bk, (nt I), (nt D), (nt E), aU, ax, (nt u), ao⟩
    ·
     obtain rfl := oj hi
     have N := hSi
     have x := ngF hcl 2 1 N
     have y := ngF hcl 3 2 x
     have z := ngF hcl 4 3 y
     have F := ngF hcl 5 4 z
     have C := ngF hcl 6 5 F
     have H := ngF hcl 9 6 C
     have I := ngF hcl 10 1 N
     have D := ngF hcl 11 1 N
     have E := ngF hcl 12 1 N
     have u := ngF hcl 13 1 N
     refine hG (any_step ?_); intro A J hJ
     refine s1 hFx 40 (pt b1 0) ?_; intro hV gn
     refine nl (qnI (hJ _ _ ?_))
     exact ⟨L, M, ak, pt b1 0, ba, a2, aS, aM, av, aN, aH, al, ah, ac, T, aI, s, d, gn.reg, hMx.perm lpr, ad, kf, (nt x), (nt y), (nt z), (nt F), (nt C), af, an, (nt H), (nt I), (nt D), (nt E), aU, ax, (nt u), ao⟩
    ·
     obtain rfl := oj hi
     have N := hpre 1 (by kernel_rfl)
     have x := hSi
     have y := ngF hcl 3 2 x
     have z := ngF hcl 4 3 y
     have F := ngF hcl 5 4 z
     have C := ngF hcl 6 5 F
     have H := ngF hcl 9 6 C
     have I := ngF hcl 10 2 x
     have D := ngF hcl 11 2 x
     have E := ngF hcl 12 2 x
     have u := ngF hcl 13 2 x
     obtain rfl := ae N
     refine hG (any_step ?_); intro A J hJ
     refine s1 hFx 41 (pt b1 0) ?_; intro h6 go
     refine nl (qnI (hJ _ _ ?_))
     exact ⟨L, M, ak, pt b1 0, pt b1 0, a2, aS, aM, av, aN, aH, al, ah, ac, T, aI, s, d, go.reg, hMx.perm lpr, ad, kf, kf, (nt y), (nt z), (nt F), (nt C), af, an, (nt H), (nt I), (nt D), (nt E), aU, ax, (nt u), ao⟩
    ·
     obtain rfl := oj hi
     have x := hpre 2 (by kernel_rfl)
     have N := hcl 2 1 (by kernel_rfl) x
     have y := hSi
     have z := ngF hcl 4 3 y
     have F := ngF hcl 5 4 z
     have C := ngF hcl 6 5 F
     have H := ngF hcl 9 6 C
     have I := ngF hcl 10 3 y
     have D := ngF hcl 11 3 y
     have E := ngF hcl 12 3 y
     have u := ngF hcl 13 3 y
     obtain rfl := ae N
     obtain rfl := ai x
     refine hG (any_step ?_); intro A J hJ
     refine s1 hFx 42 (pt b1 5) ?_; intro ih gp
     refine nl (qnI (hJ _ _ ?_))
     exact ⟨L, M, ak, pt b1 0, pt b1 0, pt b1 5, aS, aM, av, aN, aH, al, ah, ac, T, aI, s, d, gp.reg, hMx.perm lpr, ad, kf, kf, kf, (nt z), (nt F), (nt C), af, an, (nt H), (nt I), (nt D), (nt E), aU, ax, (nt u), ao⟩
    ·
     obtain rfl := oj hi
     have y := hpre 3 (by kernel_rfl)
     have x := hcl 3 2 (by kernel_rfl) y
     have N := hcl 2 1 (by kernel_rfl) x
     have z := hSi
     have F := ngF hcl 5 4 z
     have C := ngF hcl 6 5 F
     have H := ngF hcl 9 6 C
     have I := ngF hcl 10 4 z
     have D := ngF hcl 11 4 z
     have E := ngF hcl 12 4 z
     have u := ngF hcl 13 4 z
     obtain rfl := ae N
     obtain rfl := ai x
     obtain rfl := am y
     refine hG (any_step ?_); intro A J hJ
     refine s1 hFx 43 (pt b1 5) ?_; intro ir gq
     refine nl (qnI (hJ _ _ ?_))
     exact ⟨L, M, ak, pt b1 0, pt b1 0, pt b1 5, pt b1 5, aM, av, aN, aH, al, ah, ac, T, aI, s, d, gq.reg, hMx.perm lpr, ad, kf, kf, kf, kf, (nt F), (nt C), af, an, (nt H), (nt I), (nt D), (nt E), aU, ax, (nt u), ao⟩
    ·
     obtain rfl := oj hi
     have z := hpre 4 (by kernel_rfl)
     have y := hcl 4 3 (by kernel_rfl) z
     have x := hcl 3 2 (by kernel_rfl) y
     have N := hcl 2 1 (by kernel_rfl) x
     have F := hSi
     have C := ngF hcl 6 5 F
     have H := ngF hcl 9 6 C
     have I := ngF hcl 10 5 F
     have D := ngF hcl 11 5 F
     have E := ngF hcl 12 5 F
     have u := ngF hcl 13 5 F
     rcases Bool.eq_false_or_eq_true (S 8) with l | l
     ·
      have R := hcl 8 7 (by kernel_rfl) l
      obtain rfl := ae N
      obtain rfl := ai x
      obtain rfl := am y
      obtain rfl := aw z
      obtain rfl := af R
      obtain rfl := an l
      obtain rfl := ax l u
      refine hG (any_step ?_); intro A J hJ
      have gr := ao l
      refine l1 hFx hMx 44 0 5 (i6 b.f.ID) rfl rfl ?_; intro iB gs
      refine nl (qnI (hJ _ _ ?_))
      exact ⟨L, M, ak, pt b1 0, pt b1 0, pt b1 5, pt b1 5, i6 b.f.ID, av, pt b1 0, i6 (rnumberS b 18).1, al, ah, ac, T, .row b1 [str (rnumberS b 18).2.Reader.Row, i6 (rnumberS b 18).2.Reader.At, i6 (rnumberS b 18).2.Reader.Code, y8 (rnumberS b 18).2.Reader.c.last, i6 (rnumberS b 18).2.Reader.c.n, i6 b.f.ID, .bool b.f.Long, .bool b.f.Fast, .bool b.f.Remote, i6 b.f.Size, .slice L b.f.Data.length M] 46, s, d, gs.reg, hMx.perm lpr, ad, kf, kf, kf, kf, kf, (nt C), kf, kf, (nt H), (nt I), (nt D), (nt E), (tn l), kf2, (nt u), (fun _ => gr)⟩
     obtain rfl := ae N
     obtain rfl := ai x
     obtain rfl := am y
     obtain rfl := aw z
     obtain rfl := aU l
     refine hG (any_step ?_); intro A J hJ
     refine l1 hFx hMx 44 0 5 (i6 b.f.ID) rfl rfl ?_; intro iK gt
     refine nl (qnI (hJ _ _ ?_))
     exact ⟨L, M, ak, pt b1 0, pt b1 0, pt b1 5, pt b1 5, i6 b.f.ID, av, aN, aH, al, ah, ac, T, .row b1 (e46Ernames b aq ar) 46, s, d, gt.reg, hMx.perm lpr, ad, kf, kf, kf, kf, kf, (nt C), af, (nt l), (nt H), (nt I), (nt D), (nt E), kf, (fun h _ => nt l h), (nt u), (nt l)⟩
    ·
     obtain rfl := oj hi
     have F := hpre 5 (by kernel_rfl)
     have z := hcl 5 4 (by kernel_rfl) F
     have y := hcl 4 3 (by kernel_rfl) z
     have x := hcl 3 2 (by kernel_rfl) y
     have N := hcl 2 1 (by kernel_rfl) x
     have C := hSi
     have H := ngF hcl 9 6 C
     have I := ngF hcl 10 6 C
     have D := ngF hcl 11 6 C
     have E := ngF hcl 12 6 C
     have u := ngF hcl 13 6 C
     obtain rfl := ae N
     obtain rfl := ai x
     obtain rfl := am y
     obtain rfl := aw z
     obtain rfl := aO F
     refine hG (any_step ?_); intro A J hJ
     refine s1 hFx 45 (i6 (bShl .i64 b.f.ID 18)) ?_; intro iT gu
     refine nl (qnI (hJ _ _ ?_))
     exact ⟨L, M, ak, pt b1 0, pt b1 0, pt b1 5, pt b1 5, i6 b.f.ID, i6 (bShl .i64 b.f.ID 18), aN, aH, al, ah, ac, T, aI, s, d, gu.reg, hMx.perm lpr, ad, kf, kf, kf, kf, kf, kf, af, an, (nt H), (nt I), (nt D), (nt E), aU, ax, (nt u), ao⟩
    ·
     obtain rfl := oj hi
     have R := hSi
     have l := ngF hcl 8 7 R
     have H := ngF hcl 9 8 l
     have I := ngF hcl 10 7 R
     have D := ngF hcl 11 7 R
     have E := ngF hcl 12 7 R
     have u := ngF hcl 13 7 R
     obtain rfl := aU l
     refine hG (any_step ?_); intro A J hJ
     refine s1 hFx 46 (pt b1 0) ?_; intro i2 gv
     refine nl (qnI (hJ _ _ ?_))
     exact ⟨L, M, ak, bj, ba, a2, aS, aM, av, pt b1 0, aH, al, ah, ac, T, .row b1 (e46Ernames b aq ar) 46, s, d, gv.reg, hMx.perm lpr, ad, ae, ai, am, aw, aO, aT, kf, (nt l), (nt H), (nt I), (nt D), (nt E), kf, (fun h _ => nt l h), (nt u), (nt l)⟩
    ·
     obtain rfl := oj hi
     have R := hpre 7 (by kernel_rfl)
     have l := hSi
     have H := ngF hcl 9 8 l
     have I := ngF hcl 10 8 l
     have D := ngF hcl 11 8 l
     have E := ngF hcl 12 8 l
     have u := ngF hcl 13 8 l
     obtain rfl := af R
     obtain rfl := aU l
     refine hG (any_step ?_); intro A J hJ
     have hzst := Fz.le.refl s
     have cm := P.mono d
     refine ck hFx 18 #[pt b1 0, i6 18] ?_
     refine (rnumber_funK b 18 f6 b1 aq ar _ _ _ _ _ _ cm hMx hMx.fz).mono ?_; rintro _ gw ⟨cn, co, ei, rfl, aV, gx, hm⟩; refine ⟨_, rfl, ?_⟩; intro i3 gy; have ej := hm
     replace hzst := hzst.mono aV
     have gz : Mem B [] w0 Z0 ((.row b1 [str (rnumberS b 18).2.Reader.Row, i6 (rnumberS b 18).2.Reader.At, i6 (rnumberS b 18).2.Reader.Code, y8 (rnumberS b 18).2.Reader.c.last, i6 (rnumberS b 18).2.Reader.c.n, i6 b.f.ID, .bool b.f.Long, .bool b.f.Fast, .bool b.f.Remote, i6 b.f.Size, .slice cn b.f.Data.length co] 46) :: Rr) ei gw := ej
     refine nl (qnI (hJ _ _ ?_))
     exact ⟨cn, co, ak, bj, ba, a2, aS, aM, av, pt b1 0, i6 (rnumberS b 18).1, al, ah, ac, T, .row b1 [str (rnumberS b 18).2.Reader.Row, i6 (rnumberS b 18).2.Reader.At, i6 (rnumberS b 18).2.Reader.Code, y8 (rnumberS b 18).2.Reader.c.last, i6 (rnumberS b 18).2.Reader.c.n, i6 b.f.ID, .bool b.f.Long, .bool b.f.Fast, .bool b.f.Remote, i6 b.f.Size, .slice cn b.f.Data.length co] 46, ei, d.trans hzst, gy.reg, gz.perm lpr, ad, ae, ai, am, aw, aO, aT, kf, kf, (nt H), (nt I), (nt D), (nt E), nu, kf2, (nt u), (fun _ => gx)⟩
    ·
     obtain rfl := oj hi
     have l := hpre 8 (by kernel_rfl)
     have C := hpre 6 (by kernel_rfl)
     have R := hcl 8 7 (by kernel_rfl) l
     have F := hcl 6 5 (by kernel_rfl) C
     have z := hcl 5 4 (by kernel_rfl) F
     have y := hcl 4 3 (by kernel_rfl) z
     have x := hcl 3 2 (by kernel_rfl) y
     have N := hcl 2 1 (by kernel_rfl) x
     have H := hSi
     have I := ngF hcl 10 9 H
     have D := ngF hcl 11 9 H
     have E := ngF hcl 12 9 H
     have u := ngF hcl 13 9 H
     obtain rfl := ae N
     obtain rfl := ai x
     obtain rfl := am y
     obtain rfl := aw z
     obtain rfl := aO F
     obtain rfl := aT C
     obtain rfl := af R
     obtain rfl := an l
     obtain rfl := ax l u
     refine hG (any_step ?_); intro A J hJ
     have gA := ao l
     refine s1 hFx 48 (i6 (bOr .i64 (bShl .i64 b.f.ID 18) (rnumberS b 18).1)) ?_; intro jd gB
     refine nl (qnI (hJ _ _ ?_))
     exact ⟨L, M, ak, pt b1 0, pt b1 0, pt b1 5, pt b1 5, i6 b.f.ID, i6 (bShl .i64 b.f.ID 18), pt b1 0, i6 (rnumberS b 18).1, i6 (bOr .i64 (bShl .i64 b.f.ID 18) (rnumberS b 18).1), ah, ac, T, .row b1 [str (rnumberS b 18).2.Reader.Row, i6 (rnumberS b 18).2.Reader.At, i6 (rnumberS b 18).2.Reader.Code, y8 (rnumberS b 18).2.Reader.c.last, i6 (rnumberS b 18).2.Reader.c.n, i6 b.f.ID, .bool b.f.Long, .bool b.f.Fast, .bool b.f.Remote, i6 b.f.Size, .slice L b.f.Data.length M] 46, s, d, gB.reg, hMx.perm lpr, ad, kf, kf, kf, kf, kf, kf, kf, kf, kf, (nt I), (nt D), (nt E), (tn l), kf2, (nt u), (fun _ => gA)⟩
    ·
     obtain rfl := oj hi
     have H := hpre 9 (by kernel_rfl)
     have l := hpre 8 (by kernel_rfl)
     have R := hpre 7 (by kernel_rfl)
     have C := hpre 6 (by kernel_rfl)
     have F := hpre 5 (by kernel_rfl)
     have z := hpre 4 (by kernel_rfl)
     have y := hpre 3 (by kernel_rfl)
     have x := hpre 2 (by kernel_rfl)
     have N := hpre 1 (by kernel_rfl)
     have aJ := hpre 0 (by kernel_rfl)
     have I := hSi
     have D := ngF hcl 11 10 I
     have E := ngF hcl 12 11 D
     have u := ngF hcl 13 12 E
     obtain rfl := ad aJ
     obtain rfl := ae N
     obtain rfl := ai x
     obtain rfl := am y
     obtain rfl := aw z
     obtain rfl := aO F
     obtain rfl := aT C
     obtain rfl := af R
     obtain rfl := an l
     obtain rfl := bk H
     obtain rfl := ax l u
     refine hG (any_step ?_); intro A J hJ
     have gC := ao l
     refine s1 hFx 49 (pt b1 0) ?_; intro jm gD
     refine nl (qnI (hJ _ _ ?_))
     exact ⟨L, M, pt b1 0, pt b1 0, pt b1 0, pt b1 5, pt b1 5, i6 b.f.ID, i6 (bShl .i64 b.f.ID 18), pt b1 0, i6 (rnumberS b 18).1, i6 (bOr .i64 (bShl .i64 b.f.ID 18) (rnumberS b 18).1), pt b1 0, ac, T, .row b1 [str (rnumberS b 18).2.Reader.Row, i6 (rnumberS b 18).2.Reader.At, i6 (rnumberS b 18).2.Reader.Code, y8 (rnumberS b 18).2.Reader.c.last, i6 (rnumberS b 18).2.Reader.c.n, i6 b.f.ID, .bool b.f.Long, .bool b.f.Fast, .bool b.f.Remote, i6 b.f.Size, .slice L b.f.Data.length M] 46, s, d, gD.reg, hMx.perm lpr, kf, kf, kf, kf, kf, kf, kf, kf, kf, kf, kf, (nt D), (nt E), (tn l), kf2, (nt u), (fun _ => gC)⟩
    ·
     obtain rfl := oj hi
     have I := hpre 10 (by kernel_rfl)
     have H := hpre 9 (by kernel_rfl)
     have l := hpre 8 (by kernel_rfl)
     have R := hpre 7 (by kernel_rfl)
     have C := hpre 6 (by kernel_rfl)
     have F := hpre 5 (by kernel_rfl)
     have z := hpre 4 (by kernel_rfl)
     have y := hpre 3 (by kernel_rfl)
     have x := hpre 2 (by kernel_rfl)
     have N := hpre 1 (by kernel_rfl)
     have aJ := hpre 0 (by kernel_rfl)
     have D := hSi
     have E := ngF hcl 12 11 D
     have u := ngF hcl 13 12 E
     obtain rfl := ad aJ
     obtain rfl := ae N
     obtain rfl := ai x
     obtain rfl := am y
     obtain rfl := aw z
     obtain rfl := aO F
     obtain rfl := aT C
     obtain rfl := af R
     obtain rfl := an l
     obtain rfl := bk H
     obtain rfl := bF I
     obtain rfl := ax l u
     refine hG (any_step ?_); intro A J hJ
     have gE := ao l
     refine s1 hFx 50 (pt b1 5) ?_; intro jv gF
     refine nl (qnI (hJ _ _ ?_))
     exact ⟨L, M, pt b1 0, pt b1 0, pt b1 0, pt b1 5, pt b1 5, i6 b.f.ID, i6 (bShl .i64 b.f.ID 18), pt b1 0, i6 (rnumberS b 18).1, i6 (bOr .i64 (bShl .i64 b.f.ID 18) (rnumberS b 18).1), pt b1 0, pt b1 5, T, .row b1 [str (rnumberS b 18).2.Reader.Row, i6 (rnumberS b 18).2.Reader.At, i6 (rnumberS b 18).2.Reader.Code, y8 (rnumberS b 18).2.Reader.c.last, i6 (rnumberS b 18).2.Reader.c.n, i6 b.f.ID, .bool b.f.Long, .bool b.f.Fast, .bool b.f.Remote, i6 b.f.Size, .slice L b.f.Data.length M] 46, s, d, gF.reg, hMx.perm lpr, kf, kf, kf, kf, kf, kf, kf, kf, kf, kf, kf, kf, (nt E), (tn l), kf2, (nt u), (fun _ => gE)⟩
    ·
     obtain rfl := oj hi
     have D := hpre 11 (by kernel_rfl)
     have H := hpre 9 (by kernel_rfl)
     have l := hpre 8 (by kernel_rfl)
     have R := hpre 7 (by kernel_rfl)
     have C := hpre 6 (by kernel_rfl)
     have F := hpre 5 (by kernel_rfl)
     have z := hpre 4 (by kernel_rfl)
     have y := hpre 3 (by kernel_rfl)
     have x := hpre 2 (by kernel_rfl)
     have N := hpre 1 (by kernel_rfl)
     have aJ := hpre 0 (by kernel_rfl)
     have I := hcl 11 10 (by kernel_rfl) D
     have E := hSi
     have u := ngF hcl 13 12 E
     obtain rfl := ad aJ
     obtain rfl := ae N
     obtain rfl := ai x
     obtain rfl := am y
     obtain rfl := aw z
     obtain rfl := aO F
     obtain rfl := aT C
     obtain rfl := af R
     obtain rfl := an l
     obtain rfl := bk H
     obtain rfl := bF I
     obtain rfl := bY D
     obtain rfl := ax l u
     refine hG (any_step ?_); intro A J hJ
     have gG := ao l
     refine s1 hFx 51 (pt b1 5) ?_; intro jE gH
     refine nl (qnI (hJ _ _ ?_))
     exact ⟨L, M, pt b1 0, pt b1 0, pt b1 0, pt b1 5, pt b1 5, i6 b.f.ID, i6 (bShl .i64 b.f.ID 18), pt b1 0, i6 (rnumberS b 18).1, i6 (bOr .i64 (bShl .i64 b.f.ID 18) (rnumberS b 18).1), pt b1 0, pt b1 5, pt b1 5, .row b1 [str (rnumberS b 18).2.Reader.Row, i6 (rnumberS b 18).2.Reader.At, i6 (rnumberS b 18).2.Reader.Code, y8 (rnumberS b 18).2.Reader.c.last, i6 (rnumberS b 18).2.Reader.c.n, i6 b.f.ID, .bool b.f.Long, .bool b.f.Fast, .bool b.f.Remote, i6 b.f.Size, .slice L b.f.Data.length M] 46, s, d, gH.reg, hMx.perm lpr, kf, kf, kf, kf, kf, kf, kf, kf, kf, kf, kf, kf, kf, (tn l), kf2, (nt u), (fun _ => gG)⟩
    obtain rfl := oj hi
    have E := hpre 12 (by kernel_rfl)
    have H := hpre 9 (by kernel_rfl)
    have l := hpre 8 (by kernel_rfl)
    have R := hpre 7 (by kernel_rfl)
    have C := hpre 6 (by kernel_rfl)
    have F := hpre 5 (by kernel_rfl)
    have z := hpre 4 (by kernel_rfl)
    have y := hpre 3 (by kernel_rfl)
    have x := hpre 2 (by kernel_rfl)
    have N := hpre 1 (by kernel_rfl)
    have aJ := hpre 0 (by kernel_rfl)
    have D := hcl 12 11 (by kernel_rfl) E
    have I := hcl 11 10 (by kernel_rfl) D
    have u := hSi
    obtain rfl := ad aJ
    obtain rfl := ae N
    obtain rfl := ai x
    obtain rfl := am y
    obtain rfl := aw z
    obtain rfl := aO F
    obtain rfl := aT C
    obtain rfl := af R
    obtain rfl := an l
    obtain rfl := bk H
    obtain rfl := bF I
    obtain rfl := bY D
    obtain rfl := cl E
    obtain rfl := ax l u
    refine hG (any_step ?_); intro A J hJ
    have gI := ao l
    refine sx hFx hMx 0 [str (rnumberS b 18).2.Reader.Row, i6 (rnumberS b 18).2.Reader.At, i6 (rnumberS b 18).2.Reader.Code, y8 (rnumberS b 18).2.Reader.c.last, i6 (rnumberS b 18).2.Reader.c.n, i6 (bOr .i64 (bShl .i64 b.f.ID 18) (rnumberS b 18).1), .bool b.f.Long, .bool b.f.Fast, .bool b.f.Remote, i6 b.f.Size, .slice L b.f.Data.length M] 5 ?_; intro jN gJ
    refine nl (qnI (hJ _ _ ?_))
    exact ⟨L, M, pt b1 0, pt b1 0, pt b1 0, pt b1 5, pt b1 5, i6 b.f.ID, i6 (bShl .i64 b.f.ID 18), pt b1 0, i6 (rnumberS b 18).1, i6 (bOr .i64 (bShl .i64 b.f.ID 18) (rnumberS b 18).1), pt b1 0, pt b1 5, pt b1 5, .row b1 [str (rnumberS b 18).2.Reader.Row, i6 (rnumberS b 18).2.Reader.At, i6 (rnumberS b 18).2.Reader.Code, y8 (rnumberS b 18).2.Reader.c.last, i6 (rnumberS b 18).2.Reader.c.n, i6 (bOr .i64 (bShl .i64 b.f.ID 18) (rnumberS b 18).1), .bool b.f.Long, .bool b.f.Fast, .bool b.f.Remote, i6 b.f.Size, .slice L b.f.Data.length M] 46, s, d, hFx.reg, gJ.perm lpr, kf, kf, kf, kf, kf, kf, kf, kf, kf, kf, kf, kf, kf, (tn l), (fun _ => nu), kf, (fun _ => gI)⟩
   case hE =>
    intro S hS gK jO hI; refine Go.Sy.hid ?_; intro G hG; obtain ⟨L, M, ak, bj, ba, a2, aS, aM, av, aN, aH, al, ah, ac, T, aI, s, d, hFx, hMx, ad, ae, ai, am, aw, hI⟩ := hI; obtain ⟨aO, aT, af, an, bk, bF, bY, cl, aU, ax, ea, hI⟩ := hI; have ao := hI; refine hG ?_
    obtain rfl := ad (hS 0 (by decide))
    obtain rfl := ae (hS 1 (by decide))
    obtain rfl := ai (hS 2 (by decide))
    obtain rfl := am (hS 3 (by decide))
    obtain rfl := aw (hS 4 (by decide))
    obtain rfl := aO (hS 5 (by decide))
    obtain rfl := aT (hS 6 (by decide))
    obtain rfl := af (hS 7 (by decide))
    obtain rfl := an (hS 8 (by decide))
    obtain rfl := bk (hS 9 (by decide))
    obtain rfl := bF (hS 10 (by decide))
    obtain rfl := bY (hS 11 (by decide))
    obtain rfl := cl (hS 12 (by decide))
    obtain rfl := ea (hS 13 (by decide))
    have cp := ab.mono d
    have cq := ao (hS 8 (by decide))
    apply t_
    have er : Fr 97 [] [⟨0, [], pt b1 0⟩] gK := hFx.reg
    refine rgH ?_; intro gL es
    refine bt er hMx 4 [] [] [(52, pt b1 0), (55, pt b1 0)] ?_; intro jP et
    obtain ⟨gM, eu⟩ := f7
    refine ck et 21 #[pt b1 0, i6 1] ?_
    obtain ⟨p, gN, ev⟩ := hxq eu
    have m := rtakeF_fun (⟨(rnumberS b 18).2.Reader, (⟨bOr .i64 (bShl .i64 b.f.ID 18) (rnumberS b 18).1, b.f.Long, b.f.Fast, b.f.Remote, b.f.Size, b.f.Data⟩ : Frame)⟩ : FReader) 1 gM b1 L M _ _ _ _ _ _ cq hMx hMx.fz; rw [gN] at m; refine m.mono ?_; rintro _ gO ⟨bZ, b0, cr, rfl, aW, ew, hm⟩; refine ⟨_, rfl, ?_⟩; intro jQ ex; have ey := hm
    replace cp := cp.mono aW
    have cs : Mem B [] w0 Z0 ((.row b1 (e46Ernames p.2 bZ b0) 46) :: Rr) cr gO := ey
    have gP := ev (ew.small)
    refine bt ex cs 4 [] [154] [(57, .bool (p.1 == ([49] : List UInt8))), (60, pt b1 8)] ?_; intro jR ez
    refine sx ez cs 0 [str p.2.Reader.Row, i6 p.2.Reader.At, i6 p.2.Reader.Code, y8 p.2.Reader.c.last, i6 p.2.Reader.c.n, i6 p.2.f.ID, .bool p.2.f.Long, .bool p.2.f.Fast, .bool (p.1 == ([49] : List UInt8)), i6 p.2.f.Size, .slice bZ p.2.f.Data.length b0] 8 ?_; intro gQ eA
    have gR : Mem B [] w0 Z0 ((.row b1 [str p.2.Reader.Row, i6 p.2.Reader.At, i6 p.2.Reader.Code, y8 p.2.Reader.c.last, i6 p.2.Reader.c.n, i6 p.2.f.ID, .bool p.2.f.Long, .bool p.2.f.Fast, .bool (p.1 == ([49] : List UInt8)), i6 p.2.f.Size, .slice bZ p.2.f.Data.length b0] 46) :: Rr) cr gQ := eA
    apply es
    exact d_ (c7 (⟨p.2.Reader, (⟨p.2.f.ID, p.2.f.Long, p.2.f.Fast, p.1 == ([49] : List UInt8), p.2.f.Size, p.2.f.Data⟩ : Frame)⟩ : FReader) bZ b0 cr ⟨gP, ew, cp⟩ _ _ ((ez.reg).anyβ _ (by kernel_rfl)) (gR.kp))
  have b2 := Fz.le.refl aX
  refine c_ d7 bX (fun _ eB => ?_) fun _ gY => ?_
  ·
   refine rgH ?_; intro gS eC
   refine s1 d7 37 (pt b1 0) ?_; intro jS eD
   refine ck eD 19 #[pt b1 0, i6 4] ?_
   obtain ⟨aK, gT, eE⟩ := hxq eB
   have m := rfail_fun (⟨g.2.Reader, (⟨g.2.f.ID, g.1 == ([49] : List UInt8), g.2.f.Fast, O.1 == ([49] : List UInt8), g.2.f.Size, g.2.f.Data⟩ : Frame)⟩ : FReader) 4 b1 a4 a5 _ _ _ _ _ _ a6 aY aY.fz; rw [gT] at m; refine m.mono ?_; rintro _ gU ⟨eF, eG, eH, rfl, bb, eI, hm⟩; refine ⟨_, rfl, ?_⟩; intro jT gV; have eJ := hm
   replace b2 := b2.mono bb
   have gW : Mem B [] w0 Z0 ((.row b1 (e46Ernames aK eF eG) 46) :: Rr) eH gU := eJ
   have gX := eE (eI.small)
   apply eC
   exact d_ (d8 aK eF eG eH ⟨gX, eI, b2⟩ _ _ ((gV.reg).anyβ _ (by kernel_rfl)) (gW.kp))
  exact l_ (d_ (d8 (⟨g.2.Reader, (⟨g.2.f.ID, g.1 == ([49] : List UInt8), g.2.f.Fast, O.1 == ([49] : List UInt8), g.2.f.Size, g.2.f.Data⟩ : Frame)⟩ : FReader) a4 a5 aX ⟨gY, a6, b2⟩ _ _ ((d7.reg).anyβ _ (by kernel_rfl)) (aY.kp)))
 exact l_ (d_ (c7 (⟨g.2.Reader, (⟨g.2.f.ID, g.1 == ([49] : List UInt8), g.2.f.Fast, O.1 == ([49] : List UInt8), g.2.f.Size, g.2.f.Data⟩ : Frame)⟩ : FReader) a4 a5 aX ⟨gZ, a6, bW⟩ _ _ ((c6.reg).anyβ _ (by kernel_rfl)) (aY.kp)))
end Go.Proofs.YtmnlahbngbigdaaGreatDoor
set_option linter.unusedVariables false
set_option linter.unusedSimpArgs false
set_option maxRecDepth 100000
set_option maxHeartbeats 0
namespace Go.Proofs.YtmnlahbngbigdaaGreatDoor
open Go.Sy Go.RowKit
abbrev e46Erfast (X : FReader) (A0 : Option Addr) (C0 : Nat) : List Value := [str X.Reader.Row, i6 X.Reader.At, i6 X.Reader.Code, y8 X.Reader.c.last, i6 X.Reader.c.n, i6 X.f.ID, .bool X.f.Long, .bool X.f.Fast, .bool X.f.Remote, i6 X.f.Size, .slice A0 X.f.Data.length C0]
theorem rfast_walk (u0 : FReader) (b1 : Nat) (ao2 : Option Addr) (cap3 : Nat) (B : Nat) (w0 : World) (Z0 : Fz) (Rr : List Res) (Z : Fz) (w : World) (hs4 : SlR t8 Z ao2 cap3 u0.f.Data) (hM0 : Mem B [] w0 Z0 ((.row b1 [str u0.Reader.Row, i6 u0.Reader.At, i6 u0.Reader.Code, y8 u0.Reader.c.last, i6 u0.Reader.c.n, i6 u0.f.ID, .bool u0.f.Long, .bool u0.f.Fast, .bool u0.f.Remote, i6 u0.f.Size, .slice ao2 u0.f.Data.length cap3] 46) :: Rr) Z w) (hZ : Z.on w) {K : FReader → Prop} (hp : rfast_vc u0 K) : Calls Tryz.prog 23 #[pt b1 0] w fun e w' => ∃ (r : FReader) (ao1001 : Option Addr) (cap1002 : Nat) (Z' : Fz), e = .returned (.tuple #[]) ∧ K r ∧ Fz.le Z Z' ∧ SlR t8 Z' ao1001 cap1002 r.f.Data ∧ Mem B [] w0 Z0 ((.row b1 [str r.Reader.Row, i6 r.Reader.At, i6 r.Reader.Code, y8 r.Reader.c.last, i6 r.Reader.c.n, i6 r.f.ID, .bool r.f.Long, .bool r.f.Fast, .bool r.f.Remote, i6 r.f.Size, .slice ao1001 r.f.Data.length cap1002] 46) :: Rr) Z' w' := by
 refine enter0 Tryz.func23 rfl rfl (by kernel_rfl) ?_; intro a0 bD; have o := Fz.le.refl Z
 have ak := hp (hs4.small)
 refine s_ (sqB bD hM0 [0] [] [(15, .bool (u0.Reader.Code != 0))] ?_); intro eq ac
 refine c_ ac ak (fun _ er => ?_) fun _ es => ?_
 ·
  refine r_ (h_ (rt (fn := Tryz.f23) (v := .tuple #[]) ac (re0 ac (fn := Tryz.f23) rfl) ?_))
  exact ⟨u0, ao2, cap3, Z, rfl, er, o, hs4, hM0.kp⟩
 apply k_
 have bE : Fr 119 [] [⟨0, [], pt b1 0⟩] eq := ac.reg
 refine sqQH mixed (by kernel_rfl) hM0 ?_; intro et bF
 refine q1 bE 16 (pt b1 0) ?_; intro fX bG
 refine q1 bG 17 (pt b1 0) ?_; intro fY bH
 refine q1 bH 18 (pt b1 0) ?_; intro fZ bI
 refine q1 bI 19 (pt b1 0) ?_; intro f0 bd
 refine ql_ bd 0 0 (str u0.Reader.Row) rfl rfl ?_; intro f1 bJ
 refine q1 bJ 21 (pt b1 0) ?_; intro f2 bK
 refine q1 bK 22 (pt b1 0) ?_; intro f3 bL
 refine q1 bL 23 (pt b1 0) ?_; intro f4 bM
 refine q1 bM 24 (pt b1 1) ?_; intro f5 be
 refine ql_ be 0 1 (i6 u0.Reader.At) rfl rfl ?_; intro f6 bf
 obtain ⟨eu, ev⟩ := es
 refine qu_ bf (str (u0.Reader.Row.take u0.Reader.At.toNat)) (fun v54 hC => strslH_run bf (g := []) (k := .i64) rfl (by kernel_rfl) (by kernel_rfl) (by kernel_rfl) eu rfl) ?_; intro f7 bN
 refine q1 bN 2 (str (u0.Reader.Row.take u0.Reader.At.toNat)) ?_; intro f8 bO
 refine qnl (bF _ ?_); intro f9 al
 refine sqH ?_; intro ew bP
 refine bt bO al 6 [0] [] [(28, i6 ((u0.Reader.Row.take u0.Reader.At.toNat).length : Int)), (32, .agg #[i6 u0.f.ID, .bool u0.f.Long, .bool u0.f.Fast, .bool u0.f.Remote, i6 u0.f.Size, .slice ao2 u0.f.Data.length cap3])] ?_; intro ga bQ
 obtain ⟨ex, ey⟩ := ev
 refine fc bQ al (fhead_fun u0.f ex ao2 cap3 _ _ hs4 al.fz) ?_; intro gb gc bR am
 refine bt bR am 2 [] [] [(35, i6 (w64 (((u0.Reader.Row.take u0.Reader.At.toNat).length : Int) - ((fheadS u0.f).length : Int))))] ?_; intro gd bS
 obtain ⟨ez, eA⟩ := ey
 refine fc bS am (fcount_fun (w64 (((u0.Reader.Row.take u0.Reader.At.toNat).length : Int) - ((fheadS u0.f).length : Int))) ez _ _ am.fz) ?_; intro ge gf bT an
 refine s1 bT 3 (str (fcountS (w64 (((u0.Reader.Row.take u0.Reader.At.toNat).length : Int) - ((fheadS u0.f).length : Int))))) ?_; intro gg bU
 apply bP
 refine sqH ?_; intro eB bV
 refine bt bU an 4 [0] [] [(41, .agg #[i6 u0.f.ID, .bool u0.f.Long, .bool u0.f.Fast, .bool u0.f.Remote, i6 u0.f.Size, .slice ao2 u0.f.Data.length cap3])] ?_; intro gh bW
 refine fc bW an (fkind_fun u0.f ao2 cap3 _ _ hs4 an.fz) ?_; intro gi gj bX ao
 refine bt bX ao 2 [] [] [(43, str (u0.Reader.Row.take u0.Reader.At.toNat)), (44, str (fcountS (w64 (((u0.Reader.Row.take u0.Reader.At.toNat).length : Int) - ((fheadS u0.f).length : Int)))))] ?_; intro gk bY
 obtain ⟨eC, eD⟩ := eA
 refine sa bY eC ?_; intro gl bZ
 refine fc bZ ao (csum_fun (fkind u0.f) ((u0.Reader.Row.take u0.Reader.At.toNat) ++ (fcountS (w64 (((u0.Reader.Row.take u0.Reader.At.toNat).length : Int) - ((fheadS u0.f).length : Int))))) _ _ ao.fz) ?_; intro gm gn b0 T
 refine bt b0 T 5 [] [] [(4, str (csumS (fkind u0.f) ((u0.Reader.Row.take u0.Reader.At.toNat) ++ (fcountS (w64 (((u0.Reader.Row.take u0.Reader.At.toNat).length : Int) - ((fheadS u0.f).length : Int)))))).1)] ?_; intro go b2
 apply bV
 refine sqH ?_; intro eE b3
 refine bt b2 T 2 [] [] [(50, str (fcountS (w64 (((u0.Reader.Row.take u0.Reader.At.toNat).length : Int) - ((fheadS u0.f).length : Int))))), (51, str (csumS (fkind u0.f) ((u0.Reader.Row.take u0.Reader.At.toNat) ++ (fcountS (w64 (((u0.Reader.Row.take u0.Reader.At.toNat).length : Int) - ((fheadS u0.f).length : Int)))))).1)] ?_; intro gp b4
 obtain ⟨eF, eG⟩ := eD
 refine sa b4 eF ?_; intro gq b5
 refine bt b5 T 4 [] [] [(53, str (u0.Reader.Row.take u0.Reader.At.toNat)), (56, i6 (w64 (((u0.Reader.Row.take u0.Reader.At.toNat).length : Int) - 1)))] ?_; intro gr b6
 obtain ⟨eH, eI⟩ := eG
 obtain ⟨j, b7⟩ : ∃ q, (u0.Reader.Row.take u0.Reader.At.toNat)[(w64 (((u0.Reader.Row.take u0.Reader.At.toNat).length : Int) - 1)).toNat]? = some q := ⟨_, List.getElem?_eq_getElem (by omega)⟩; have eJ := eI j b7
 refine si b6 .i64 eH.1 b7 ?_; intro gs b8
 refine fc b8 T (sfixed_fun ((fcountS (w64 (((u0.Reader.Row.take u0.Reader.At.toNat).length : Int) - ((fheadS u0.f).length : Int)))) ++ (csumS (fkind u0.f) ((u0.Reader.Row.take u0.Reader.At.toNat) ++ (fcountS (w64 (((u0.Reader.Row.take u0.Reader.At.toNat).length : Int) - ((fheadS u0.f).length : Int)))))).1) (j.toNat : Int) _ _ T.fz) ?_; intro gt gu b9 ad
 refine bt b9 ad 5 [] [] [(6, str (sfixedS ((fcountS (w64 (((u0.Reader.Row.take u0.Reader.At.toNat).length : Int) - ((fheadS u0.f).length : Int)))) ++ (csumS (fkind u0.f) ((u0.Reader.Row.take u0.Reader.At.toNat) ++ (fcountS (w64 (((u0.Reader.Row.take u0.Reader.At.toNat).length : Int) - ((fheadS u0.f).length : Int)))))).1) (j.toNat : Int)).1)] ?_; intro eK ca
 apply b3
 have cb : Fr 119 [] [⟨0, [], pt b1 0⟩, ⟨2, [], str (u0.Reader.Row.take u0.Reader.At.toNat)⟩, ⟨6, [], str (sfixedS ((fcountS (w64 (((u0.Reader.Row.take u0.Reader.At.toNat).length : Int) - ((fheadS u0.f).length : Int)))) ++ (csumS (fkind u0.f) ((u0.Reader.Row.take u0.Reader.At.toNat) ++ (fcountS (w64 (((u0.Reader.Row.take u0.Reader.At.toNat).length : Int) - ((fheadS u0.f).length : Int)))))).1) (j.toNat : Int)).1⟩] eK := ca.reg
 refine sqH ?_; intro eL cc
 refine bt cb ad 5 [] [] [(63, pt b1 0), (65, i6 ((sfixedS ((fcountS (w64 (((u0.Reader.Row.take u0.Reader.At.toNat).length : Int) - ((fheadS u0.f).length : Int)))) ++ (csumS (fkind u0.f) ((u0.Reader.Row.take u0.Reader.At.toNat) ++ (fcountS (w64 (((u0.Reader.Row.take u0.Reader.At.toNat).length : Int) - ((fheadS u0.f).length : Int)))))).1) (j.toNat : Int)).1.length : Int))] ?_; intro gv ce
 obtain ⟨eM, cf⟩ := eJ
 refine ck ce 26 #[pt b1 0, i6 ((sfixedS ((fcountS (w64 (((u0.Reader.Row.take u0.Reader.At.toNat).length : Int) - ((fheadS u0.f).length : Int)))) ++ (csumS (fkind u0.f) ((u0.Reader.Row.take u0.Reader.At.toNat) ++ (fcountS (w64 (((u0.Reader.Row.take u0.Reader.At.toNat).length : Int) - ((fheadS u0.f).length : Int)))))).1) (j.toNat : Int)).1.length : Int)] ?_
 obtain ⟨h, eN, cg⟩ := hxq cf
 have l := rplainF_fun u0 ((sfixedS ((fcountS (w64 (((u0.Reader.Row.take u0.Reader.At.toNat).length : Int) - ((fheadS u0.f).length : Int)))) ++ (csumS (fkind u0.f) ((u0.Reader.Row.take u0.Reader.At.toNat) ++ (fcountS (w64 (((u0.Reader.Row.take u0.Reader.At.toNat).length : Int) - ((fheadS u0.f).length : Int)))))).1) (j.toNat : Int)).1.length : Int) eM b1 ao2 cap3 _ _ _ _ _ _ hs4 ad ad.fz; rw [eN] at l; refine l.mono ?_; rintro _ eO ⟨ch, ci, bg, rfl, cl, bh, hm⟩; refine ⟨_, rfl, ?_⟩; intro gw cm; have cn := hm
 replace o := Fz.le.trans o cl
 have bi : Mem B [] w0 Z0 ((.row b1 (e46Erfast h.2 ch ci) 46) :: Rr) bg eO := cn
 have eP := cg (bh.small)
 refine s1 cm 8 (str h.1) ?_; intro gx co
 apply cc
 refine s_ (sqB co bi [] [] [(68, i6 (h.1.length : Int)), (69, i6 0)] ?_); intro cp cq
 apply b_
 have cr : Fr 119 [] [⟨0, [], pt b1 0⟩, ⟨2, [], str (u0.Reader.Row.take u0.Reader.At.toNat)⟩, ⟨6, [], str (sfixedS ((fcountS (w64 (((u0.Reader.Row.take u0.Reader.At.toNat).length : Int) - ((fheadS u0.f).length : Int)))) ++ (csumS (fkind u0.f) ((u0.Reader.Row.take u0.Reader.At.toNat) ++ (fcountS (w64 (((u0.Reader.Row.take u0.Reader.At.toNat).length : Int) - ((fheadS u0.f).length : Int)))))).1) (j.toNat : Int)).1⟩, ⟨8, [], str h.1⟩, ⟨68, [], i6 (h.1.length : Int)⟩, ⟨69, [], i6 0⟩] cp := cq.reg
 obtain ⟨eQ, eR, eS, eT⟩ := eP
 refine lp (ι := Int × FReader × (Option Addr) × Nat × Fz) (fun s => [⟨0, [], pt b1 0⟩, ⟨2, [], str (u0.Reader.Row.take u0.Reader.At.toNat)⟩, ⟨6, [], str (sfixedS ((fcountS (w64 (((u0.Reader.Row.take u0.Reader.At.toNat).length : Int) - ((fheadS u0.f).length : Int)))) ++ (csumS (fkind u0.f) ((u0.Reader.Row.take u0.Reader.At.toNat) ++ (fcountS (w64 (((u0.Reader.Row.take u0.Reader.At.toNat).length : Int) - ((fheadS u0.f).length : Int)))))).1) (j.toNat : Int)).1⟩, ⟨8, [], str h.1⟩, ⟨68, [], i6 (h.1.length : Int)⟩, ⟨69, [], i6 s.1⟩]) (fun s => ((.row b1 [str s.2.1.Reader.Row, i6 s.2.1.Reader.At, i6 s.2.1.Reader.Code, y8 s.2.1.Reader.c.last, i6 s.2.1.Reader.c.n, i6 s.2.1.f.ID, .bool s.2.1.f.Long, .bool s.2.1.f.Fast, .bool s.2.1.f.Remote, i6 s.2.1.f.Size, .slice s.2.2.1 s.2.1.f.Data.length s.2.2.2.1] 46) :: Rr)) (fun s => s.2.2.2.2) (fun s => eQ s.1 s.2.1 ∧ SlR t8 s.2.2.2.2 s.2.2.1 s.2.2.2.1 s.2.1.f.Data ∧ Fz.le bg s.2.2.2.2) (fun s => eR s.1 s.2.1) ⟨0, h.2, ch, ci, bg⟩ ⟨eS, bh, Fz.le.refl _⟩ (by exact cr.reg) (by exact bi) ?_
 rintro ⟨a, i, I, J, P⟩ ⟨eU, p, A⟩ eV eW cu cv
 have ap := eT a i eU
 replace o := Fz.le.trans o A
 refine sqB cu cv [] [] [(70, .bool (decide (a < (h.1.length : Int))))] ?_; intro cx ae
 refine s_ (c_ ae ap (fun _ eX => ?_) fun _ bb => ?_)
 ·
  apply k_
  have cy : Fr 119 [] [⟨0, [], pt b1 0⟩, ⟨2, [], str (u0.Reader.Row.take u0.Reader.At.toNat)⟩, ⟨6, [], str (sfixedS ((fcountS (w64 (((u0.Reader.Row.take u0.Reader.At.toNat).length : Int) - ((fheadS u0.f).length : Int)))) ++ (csumS (fkind u0.f) ((u0.Reader.Row.take u0.Reader.At.toNat) ++ (fcountS (w64 (((u0.Reader.Row.take u0.Reader.At.toNat).length : Int) - ((fheadS u0.f).length : Int)))))).1) (j.toNat : Int)).1⟩, ⟨8, [], str h.1⟩, ⟨68, [], i6 (h.1.length : Int)⟩, ⟨69, [], i6 a⟩] cx := ae.reg
  obtain ⟨eY, aq, eZ⟩ := eX
  refine wp_seq_k fun KJ232 hKJ233 => ?_
  have Q : ∀ (u : FReader) (ar : Option Addr) (au : Nat) (af : Fz), eY u ∧ SlR t8 af ar au u.f.Data ∧ Fz.le P af → ∀ a1 w1, Fr 119 [] [⟨0, [], pt b1 0⟩, ⟨2, [], str (u0.Reader.Row.take u0.Reader.At.toNat)⟩, ⟨6, [], str (sfixedS ((fcountS (w64 (((u0.Reader.Row.take u0.Reader.At.toNat).length : Int) - ((fheadS u0.f).length : Int)))) ++ (csumS (fkind u0.f) ((u0.Reader.Row.take u0.Reader.At.toNat) ++ (fcountS (w64 (((u0.Reader.Row.take u0.Reader.At.toNat).length : Int) - ((fheadS u0.f).length : Int)))))).1) (j.toNat : Int)).1⟩, ⟨8, [], str h.1⟩, ⟨68, [], i6 (h.1.length : Int)⟩, ⟨69, [], i6 a⟩] a1 → Mem B [] w0 Z0 ((.row b1 (e46Erfast u ar au) 46) :: Rr) af w1 → KJ232 a1 w1 := by
   rintro u ar au af ⟨e0, e1, ag⟩ gz gA cz cA
   refine hKJ233 _ _ ?_
   have cB := eZ u e0
   have e2 := A.mono ag
   refine rgB cz cA [] [] [(69, i6 (w64 (a + 1)))] ?_; intro gE e3
   exact d_ ⟨⟨w64 (a + 1), u, ar, au, af⟩, ⟨cB.1, e1, e2⟩, cB.2, (e3.reg).anyβ _ (by kernel_rfl), cA.kp⟩
  have z := Fz.le.refl P
  refine b_ (sqB cy cv [] [] [(9, i6 a)] ?_); intro e4 cC
  have cD : Fr 119 [] [⟨0, [], pt b1 0⟩, ⟨2, [], str (u0.Reader.Row.take u0.Reader.At.toNat)⟩, ⟨6, [], str (sfixedS ((fcountS (w64 (((u0.Reader.Row.take u0.Reader.At.toNat).length : Int) - ((fheadS u0.f).length : Int)))) ++ (csumS (fkind u0.f) ((u0.Reader.Row.take u0.Reader.At.toNat) ++ (fcountS (w64 (((u0.Reader.Row.take u0.Reader.At.toNat).length : Int) - ((fheadS u0.f).length : Int)))))).1) (j.toNat : Int)).1⟩, ⟨8, [], str h.1⟩, ⟨9, [], i6 a⟩, ⟨68, [], i6 (h.1.length : Int)⟩, ⟨69, [], i6 a⟩] e4 := cC.reg
  refine sqQH mixed (by kernel_rfl) cv ?_; intro ah L
  refine q1 cD 72 (i6 a) ?_; intro gF cE
  refine q1 cE 73 (i6 (a.tmod 5)) ?_; intro gG cF
  refine q1 cF 74 (.bool ((a.tmod 5) == 0)) ?_; intro gH cG
  refine q1 cG 75 (.bool ((a.tmod 5) == 0)) ?_; intro gI cH
  have bm := cH.atom (((a.tmod 5) == 0) == true) (by kernel_rfl)
  refine qgd bm (i6 a) (m := 0) (cj := []) (bj := (a.tmod 5) == 0) rfl rfl (by kernel_rfl) rfl (by kernel_rfl) (by kernel_rfl) (by kernel_rfl) (fun hg => qat_ok (fun v271 hC => pu bm (g := [0]) (by kernel_rfl) hg)) ?_; intro gJ bn
  refine qgd bn (.bool (decide (a > 0))) (m := 0) (cj := []) (bj := (a.tmod 5) == 0) rfl rfl (by kernel_rfl) rfl (by kernel_rfl) (by kernel_rfl) (by kernel_rfl) (fun hg => qat_ok (fun v274 hC => pu bn (g := [0]) (by kernel_rfl) hg)) ?_; intro gK bo
  refine qu_ bo (.bool (((a.tmod 5) == 0) && (decide (a > 0)))) (fun v277 hC => pk_and bo (g := []) (m := 0) (b := (a.tmod 5) == 0) (v := decide (a > 0)) rfl (by kernel_rfl) (by kernel_rfl) (by kernel_rfl) rfl) ?_; intro gL cI
  refine q1 cI 79 (.bool (((a.tmod 5) == 0) && (decide (a > 0)))) ?_; intro gM cJ
  have bp := cJ.atom ((((a.tmod 5) == 0) && (decide (a > 0))) == true) (by kernel_rfl)
  refine qgd bp (str h.1) (m := 1) (cj := []) (bj := ((a.tmod 5) == 0) && (decide (a > 0))) rfl rfl (by kernel_rfl) rfl (by kernel_rfl) (by kernel_rfl) (by kernel_rfl) (fun hg => qat_ok (fun v284 hC => pu bp (g := [1]) (by kernel_rfl) hg)) ?_; intro gN bq
  refine qgd bq (i6 a) (m := 1) (cj := []) (bj := ((a.tmod 5) == 0) && (decide (a > 0))) rfl rfl (by kernel_rfl) rfl (by kernel_rfl) (by kernel_rfl) (by kernel_rfl) (fun hg => qat_ok (fun v287 hC => pu bq (g := [1]) (by kernel_rfl) hg)) ?_; intro gO av
  refine e_ aq (fun O e5 => ?_) fun O aS => ?_
  ·
   have cK := av.reval (d := 79) (c := []) (v := .bool (((a.tmod 5) == 0) && (decide (a > 0)))) (by kernel_rfl) (.bool true) (by rw [O])
   have cL := cK.setc (d := 80) (c := [1]) (v := str h.1) (by kernel_rfl) (v' := str h.1) (by rw [O]; kernel_rfl)
   have aw := cL.setc (d := 81) (c := [1]) (v := i6 a) (by kernel_rfl) (v' := i6 a) (by rw [O]; kernel_rfl)
   obtain ⟨e6, e7⟩ := e5
   obtain ⟨C, cM⟩ : ∃ q, h.1[a.toNat]? = some q := ⟨_, List.getElem?_eq_getElem (by omega)⟩; have e8 := e7 C cM
   refine qst aw (y8 (C.toNat : Int)) (wK aw true) rfl (by kernel_rfl) (fun v295 hC => stridx_run aw (k := .i64) rfl (by kernel_rfl) (by kernel_rfl) (by kernel_rfl) e6.1 cM) ?_; intro gP ax
   refine qg_ ax true (str h.1) ?_; intro gQ ay
   refine qg_ ay true (i6 a) ?_; intro gR az
   refine qg_ az true (i6 (w64 (a - 1))) ?_; intro gS aA
   obtain ⟨e9, fa⟩ := e8
   obtain ⟨D, cN⟩ : ∃ q, h.1[(w64 (a - 1)).toNat]? = some q := ⟨_, List.getElem?_eq_getElem (by omega)⟩; have aB := fa D cN
   refine qst aA (y8 (D.toNat : Int)) (wK aA true) rfl (by kernel_rfl) (fun v312 hC => stridx_run aA (k := .i64) rfl (by kernel_rfl) (by kernel_rfl) (by kernel_rfl) e9.1 cN) ?_; intro gT aC
   refine qg_ aC true (.bool ((C.toNat : Int) == (D.toNat : Int))) ?_; intro gU cO
   refine q1 cO 88 (.bool ((C.toNat : Int) == (D.toNat : Int))) ?_; intro gV cP
   refine q1 cP 89 (.bool ((C.toNat : Int) == (D.toNat : Int))) ?_; intro gW cQ
   have br := cQ.atom (((C.toNat : Int) == (D.toNat : Int)) == false) (by kernel_rfl)
   refine qgd br (i6 a) (m := 2) (cj := []) (bj := (C.toNat : Int) == (D.toNat : Int)) rfl rfl (by kernel_rfl) rfl (by kernel_rfl) (by kernel_rfl) (by kernel_rfl) (fun hg => qat_ok (fun v330 hC => pu br (g := [2]) (by kernel_rfl) hg)) ?_; intro gX bs
   refine qgd bs (.bool (a == 0)) (m := 2) (cj := []) (bj := (C.toNat : Int) == (D.toNat : Int)) rfl rfl (by kernel_rfl) rfl (by kernel_rfl) (by kernel_rfl) (by kernel_rfl) (fun hg => qat_ok (fun v333 hC => pu bs (g := [2]) (by kernel_rfl) hg)) ?_; intro gY bu
   refine qgd bu (.bool (a == 0)) (m := 2) (cj := []) (bj := (C.toNat : Int) == (D.toNat : Int)) rfl rfl (by kernel_rfl) rfl (by kernel_rfl) (by kernel_rfl) (by kernel_rfl) (fun hg => qat_ok (fun v336 hC => pu bu (g := [2]) (by kernel_rfl) hg)) ?_; intro gZ cR
   have bv := cR.atom ((a == 0) == true) (by kernel_rfl)
   refine qgd bv (str h.1) (m := 3) (cj := [2]) (bj := a == 0) rfl rfl (by kernel_rfl) rfl (by kernel_rfl) (by kernel_rfl) (by kernel_rfl) (fun hg => qat_ok (fun v340 hC => pu bv (g := [3, 2]) (by kernel_rfl) hg)) ?_; intro g0 aD
   refine e_ aB (fun y cS => ?_) fun y aE => ?_
   ·
    have cT := aD.reval (d := 89) (c := []) (v := .bool ((C.toNat : Int) == (D.toNat : Int))) (by kernel_rfl) (.bool true) (by rw [y])
    have cU := cT.setc (d := 90) (c := [2]) (v := i6 a) (by kernel_rfl) (v' := undef) (by rw [y]; kernel_rfl)
    have cV := cU.setc (d := 91) (c := [2]) (v := .bool (a == 0)) (by kernel_rfl) (v' := undef) (by rw [y]; kernel_rfl)
    have cW := cV.setc (d := 92) (c := [2]) (v := .bool (a == 0)) (by kernel_rfl) (v' := undef) (by rw [y]; kernel_rfl)
    have cX := cW.setu (d := 93) (c := [3, 2]) (v := str h.1) (by kernel_rfl) 2 (by kernel_rfl) (by rw [y]; kernel_rfl)
    refine qsku cX rfl rfl (by kernel_rfl) (by kernel_rfl) rfl (by kernel_rfl) ?_; intro g1 cY
    refine qsku cY rfl rfl (by kernel_rfl) (by kernel_rfl) rfl (by kernel_rfl) ?_; intro g2 cZ
    refine qsku cZ rfl rfl (by kernel_rfl) (by kernel_rfl) rfl (by kernel_rfl) ?_; intro g3 c0
    refine qsku c0 rfl rfl (by kernel_rfl) (by kernel_rfl) rfl (by kernel_rfl) ?_; intro g4 c1
    refine qsku c1 rfl rfl (by kernel_rfl) (by kernel_rfl) rfl (by kernel_rfl) ?_; intro g5 c2
    refine qsku c2 rfl rfl (by kernel_rfl) (by kernel_rfl) rfl (by kernel_rfl) ?_; intro g6 c3
    refine qsku c3 rfl rfl (by kernel_rfl) (by kernel_rfl) rfl (by kernel_rfl) ?_; intro g7 c4
    refine qk_ c4 true ?_; intro g8 c5
    refine q1 c5 102 (.bool true) ?_; intro fb bw
    refine qnl (L _ ?_); intro g9 bx
    refine cdT bw (by kernel_rfl) ?_
    have c6 : Fr 119 [] [⟨0, [], pt b1 0⟩, ⟨2, [], str (u0.Reader.Row.take u0.Reader.At.toNat)⟩, ⟨6, [], str (sfixedS ((fcountS (w64 (((u0.Reader.Row.take u0.Reader.At.toNat).length : Int) - ((fheadS u0.f).length : Int)))) ++ (csumS (fkind u0.f) ((u0.Reader.Row.take u0.Reader.At.toNat) ++ (fcountS (w64 (((u0.Reader.Row.take u0.Reader.At.toNat).length : Int) - ((fheadS u0.f).length : Int)))))).1) (j.toNat : Int)).1⟩, ⟨8, [], str h.1⟩, ⟨68, [], i6 (h.1.length : Int)⟩, ⟨69, [], i6 a⟩] fb := bw.reg
    refine rgH ?_; intro fd c7
    refine s1 c6 103 (pt b1 0) ?_; intro ha c8
    refine ck c8 19 #[pt b1 0, i6 5] ?_
    obtain ⟨E, fe, c9⟩ := hxq cS
    have l := rfail_fun i 5 b1 I J _ _ _ _ _ _ p bx bx.fz; rw [fe] at l; refine l.mono ?_; rintro _ ff ⟨da, db, dc, rfl, U, dd, hm⟩; refine ⟨_, rfl, ?_⟩; intro hb fg; have de := hm
    replace z := z.mono U
    have fh : Mem B [] w0 Z0 ((.row b1 (e46Erfast E da db) 46) :: Rr) dc ff := de
    have fi := c9 (dd.small)
    apply c7
    exact j_ (d_ (Q E da db dc ⟨fi, dd, z⟩ _ _ ((fg.reg).anyβ _ (by kernel_rfl)) (fh.kp)))
   have df := aD.reval (d := 89) (c := []) (v := .bool ((C.toNat : Int) == (D.toNat : Int))) (by kernel_rfl) (.bool false) (by rw [y])
   have dg := df.setc (d := 90) (c := [2]) (v := i6 a) (by kernel_rfl) (v' := i6 a) (by rw [y]; kernel_rfl)
   have dh := dg.setc (d := 91) (c := [2]) (v := .bool (a == 0)) (by kernel_rfl) (v' := .bool (a == 0)) (by rw [y]; kernel_rfl)
   have aF := dh.setc (d := 92) (c := [2]) (v := .bool (a == 0)) (by kernel_rfl) (v' := .bool (a == 0)) (by rw [y]; kernel_rfl)
   refine e_ aE (fun R fj => ?_) fun R fy => ?_
   ·
    have di := aF.reval (d := 92) (c := []) (v := .bool (a == 0)) (by kernel_rfl) (.bool true) (by rw [R])
    have aG := di.setc (d := 93) (c := [3, 2]) (v := str h.1) (by kernel_rfl) (v' := str h.1) (by rw [R, y]; kernel_rfl)
    obtain ⟨fk, fl⟩ := fj
    obtain ⟨V, dj⟩ : ∃ q, h.1[(0 : Int).toNat]? = some q := ⟨_, List.getElem?_eq_getElem (by omega)⟩; have fm := fl V dj
    refine qst aG (y8 (V.toNat : Int)) (wK aG true) rfl (by kernel_rfl) (fun v399 hC => stridx_run aG (k := .i64) rfl (by kernel_rfl) (by kernel_rfl) (by kernel_rfl) fk.1 dj) ?_; intro hc aH
    refine qg_ aH true (str (u0.Reader.Row.take u0.Reader.At.toNat)) ?_; intro hd aI
    refine qg_ aI true (str (u0.Reader.Row.take u0.Reader.At.toNat)) ?_; intro he aJ
    refine qg_ aJ true (i6 ((u0.Reader.Row.take u0.Reader.At.toNat).length : Int)) ?_; intro hf aK
    refine qg_ aK true (i6 (w64 (((u0.Reader.Row.take u0.Reader.At.toNat).length : Int) - 1))) ?_; intro hh aL
    obtain ⟨fo, fp⟩ := fm
    obtain ⟨W, dk⟩ : ∃ q, (u0.Reader.Row.take u0.Reader.At.toNat)[(w64 (((u0.Reader.Row.take u0.Reader.At.toNat).length : Int) - 1)).toNat]? = some q := ⟨_, List.getElem?_eq_getElem (by omega)⟩; have aM := fp W dk
    refine qst aL (y8 (W.toNat : Int)) (wK aL true) rfl (by kernel_rfl) (fun v419 hC => stridx_run aL (k := .i64) rfl (by kernel_rfl) (by kernel_rfl) (by kernel_rfl) fo.1 dk) ?_; intro hi aN
    refine qg_ aN true (.bool ((V.toNat : Int) == (W.toNat : Int))) ?_; intro hj aO
    refine qg_ aO false (.bool ((V.toNat : Int) == (W.toNat : Int))) ?_; intro hk dl
    refine q1 dl 102 (.bool ((V.toNat : Int) == (W.toNat : Int))) ?_; intro fq aP
    refine qnl (L _ ?_); intro hl aQ
    refine c_ aP aM (fun _ dm => ?_) fun _ fx => ?_
    ·
     have dn : Fr 119 [] [⟨0, [], pt b1 0⟩, ⟨2, [], str (u0.Reader.Row.take u0.Reader.At.toNat)⟩, ⟨6, [], str (sfixedS ((fcountS (w64 (((u0.Reader.Row.take u0.Reader.At.toNat).length : Int) - ((fheadS u0.f).length : Int)))) ++ (csumS (fkind u0.f) ((u0.Reader.Row.take u0.Reader.At.toNat) ++ (fcountS (w64 (((u0.Reader.Row.take u0.Reader.At.toNat).length : Int) - ((fheadS u0.f).length : Int)))))).1) (j.toNat : Int)).1⟩, ⟨8, [], str h.1⟩, ⟨68, [], i6 (h.1.length : Int)⟩, ⟨69, [], i6 a⟩] fq := aP.reg
     refine rgH ?_; intro fr dp
     refine s1 dn 103 (pt b1 0) ?_; intro hn dq
     refine ck dq 19 #[pt b1 0, i6 5] ?_
     obtain ⟨F, fs, dr⟩ := hxq dm
     have l := rfail_fun i 5 b1 I J _ _ _ _ _ _ p aQ aQ.fz; rw [fs] at l; refine l.mono ?_; rintro _ ft ⟨ds, dt, du, rfl, X, dv, hm⟩; refine ⟨_, rfl, ?_⟩; intro ho fu; have dw := hm
     replace z := z.mono X
     have fv : Mem B [] w0 Z0 ((.row b1 (e46Erfast F ds dt) 46) :: Rr) du ft := dw
     have fw := dr (dv.small)
     apply dp
     exact j_ (d_ (Q F ds dt du ⟨fw, dv, z⟩ _ _ ((fu.reg).anyβ _ (by kernel_rfl)) (fv.kp)))
    exact l_ (j_ (d_ (Q i I J P ⟨fx, p, z⟩ _ _ ((aP.reg).anyβ _ (by kernel_rfl)) (aQ.kp))))
   have dx := aF.reval (d := 92) (c := []) (v := .bool (a == 0)) (by kernel_rfl) (.bool false) (by rw [R])
   have dy := dx.setc (d := 93) (c := [3, 2]) (v := str h.1) (by kernel_rfl) (v' := undef) (by rw [R, y]; kernel_rfl)
   refine qk_ dy false ?_; intro hq dz
   refine qk_ dz false ?_; intro hr dA
   refine qk_ dA false ?_; intro hs dB
   refine qk_ dB false ?_; intro ht dC
   refine qk_ dC false ?_; intro hu dD
   refine qk_ dD false ?_; intro hv dE
   refine qk_ dE false ?_; intro hw aR
   refine qg_ aR false (.bool false) ?_; intro hx dF
   refine q1 dF 102 (.bool false) ?_; intro hy dG
   refine qnl (L _ ?_); intro hz fA
   refine cdF dG (by kernel_rfl) ?_
   exact l_ (j_ (d_ (Q i I J P ⟨fy, p, z⟩ _ _ ((dG.reg).anyβ _ (by kernel_rfl)) (fA.kp))))
  have dH := av.reval (d := 79) (c := []) (v := .bool (((a.tmod 5) == 0) && (decide (a > 0)))) (by kernel_rfl) (.bool false) (by rw [O])
  have dI := dH.setc (d := 80) (c := [1]) (v := str h.1) (by kernel_rfl) (v' := undef) (by rw [O]; kernel_rfl)
  have dJ := dI.setc (d := 81) (c := [1]) (v := i6 a) (by kernel_rfl) (v' := undef) (by rw [O]; kernel_rfl)
  refine qk_ dJ false ?_; intro hA dK
  refine qk_ dK false ?_; intro hB dL
  refine qk_ dL false ?_; intro hD dM
  refine qk_ dM false ?_; intro hE dN
  refine qk_ dN false ?_; intro hF dO
  refine qk_ dO false ?_; intro hG dP
  refine q1 dP 88 (.bool false) ?_; intro hH dQ
  refine q1 dQ 89 (.bool false) ?_; intro hI aT
  refine qg_ aT false (i6 a) ?_; intro hJ aU
  refine qg_ aU false (.bool (a == 0)) ?_; intro hK aV
  refine qg_ aV false (.bool (a == 0)) ?_; intro hL dR
  have bA := dR.atom ((a == 0) == true) (by kernel_rfl)
  refine qgd bA (str h.1) (m := 2) (cj := []) (bj := a == 0) rfl rfl (by kernel_rfl) rfl (by kernel_rfl) (by kernel_rfl) (by kernel_rfl) (fun hg => qat_ok (fun v517 hC => pu bA (g := [2]) (by kernel_rfl) hg)) ?_; intro hM aW
  refine e_ aS (fun S fB => ?_) fun S fP => ?_
  ·
   have dS := aW.reval (d := 92) (c := []) (v := .bool (a == 0)) (by kernel_rfl) (.bool true) (by rw [S])
   have aX := dS.setc (d := 93) (c := [2]) (v := str h.1) (by kernel_rfl) (v' := str h.1) (by rw [S]; kernel_rfl)
   obtain ⟨fC, fD⟩ := fB
   obtain ⟨Y, dT⟩ : ∃ q, h.1[(0 : Int).toNat]? = some q := ⟨_, List.getElem?_eq_getElem (by omega)⟩; have fE := fD Y dT
   refine qst aX (y8 (Y.toNat : Int)) (wK aX true) rfl (by kernel_rfl) (fun v524 hC => stridx_run aX (k := .i64) rfl (by kernel_rfl) (by kernel_rfl) (by kernel_rfl) fC.1 dT) ?_; intro hN aY
   refine qg_ aY true (str (u0.Reader.Row.take u0.Reader.At.toNat)) ?_; intro hO aZ
   refine qg_ aZ true (str (u0.Reader.Row.take u0.Reader.At.toNat)) ?_; intro hP a2
   refine qg_ a2 true (i6 ((u0.Reader.Row.take u0.Reader.At.toNat).length : Int)) ?_; intro hQ a3
   refine qg_ a3 true (i6 (w64 (((u0.Reader.Row.take u0.Reader.At.toNat).length : Int) - 1))) ?_; intro hR a4
   obtain ⟨fF, fG⟩ := fE
   obtain ⟨aa, dU⟩ : ∃ q, (u0.Reader.Row.take u0.Reader.At.toNat)[(w64 (((u0.Reader.Row.take u0.Reader.At.toNat).length : Int) - 1)).toNat]? = some q := ⟨_, List.getElem?_eq_getElem (by omega)⟩; have a5 := fG aa dU
   refine qst a4 (y8 (aa.toNat : Int)) (wK a4 true) rfl (by kernel_rfl) (fun v544 hC => stridx_run a4 (k := .i64) rfl (by kernel_rfl) (by kernel_rfl) (by kernel_rfl) fF.1 dU) ?_; intro hS a6
   refine qg_ a6 true (.bool ((Y.toNat : Int) == (aa.toNat : Int))) ?_; intro hT a7
   refine qg_ a7 false (.bool ((Y.toNat : Int) == (aa.toNat : Int))) ?_; intro hU dV
   refine q1 dV 102 (.bool ((Y.toNat : Int) == (aa.toNat : Int))) ?_; intro fH a8
   refine qnl (L _ ?_); intro hV a9
   refine c_ a8 a5 (fun _ dW => ?_) fun _ fO => ?_
   ·
    have dX : Fr 119 [] [⟨0, [], pt b1 0⟩, ⟨2, [], str (u0.Reader.Row.take u0.Reader.At.toNat)⟩, ⟨6, [], str (sfixedS ((fcountS (w64 (((u0.Reader.Row.take u0.Reader.At.toNat).length : Int) - ((fheadS u0.f).length : Int)))) ++ (csumS (fkind u0.f) ((u0.Reader.Row.take u0.Reader.At.toNat) ++ (fcountS (w64 (((u0.Reader.Row.take u0.Reader.At.toNat).length : Int) - ((fheadS u0.f).length : Int)))))).1) (j.toNat : Int)).1⟩, ⟨8, [], str h.1⟩, ⟨68, [], i6 (h.1.length : Int)⟩, ⟨69, [], i6 a⟩] fH := a8.reg
    refine rgH ?_; intro fI dY
    refine s1 dX 103 (pt b1 0) ?_; intro hW dZ
    refine ck dZ 19 #[pt b1 0, i6 5] ?_
    obtain ⟨G, fJ, d0⟩ := hxq dW
    have l := rfail_fun i 5 b1 I J _ _ _ _ _ _ p a9 a9.fz; rw [fJ] at l; refine l.mono ?_; rintro _ fK ⟨d1, d2, d3, rfl, ab, d4, hm⟩; refine ⟨_, rfl, ?_⟩; intro hX fL; have d5 := hm
    replace z := z.mono ab
    have fM : Mem B [] w0 Z0 ((.row b1 (e46Erfast G d1 d2) 46) :: Rr) d3 fK := d5
    have fN := d0 (d4.small)
    apply dY
    exact j_ (d_ (Q G d1 d2 d3 ⟨fN, d4, z⟩ _ _ ((fL.reg).anyβ _ (by kernel_rfl)) (fM.kp)))
   exact l_ (j_ (d_ (Q i I J P ⟨fO, p, z⟩ _ _ ((a8.reg).anyβ _ (by kernel_rfl)) (a9.kp))))
  have d6 := aW.reval (d := 92) (c := []) (v := .bool (a == 0)) (by kernel_rfl) (.bool false) (by rw [S])
  have d7 := d6.setc (d := 93) (c := [2]) (v := str h.1) (by kernel_rfl) (v' := undef) (by rw [S]; kernel_rfl)
  refine qk_ d7 false ?_; intro hY d8
  refine qk_ d8 false ?_; intro h0 d9
  refine qk_ d9 false ?_; intro h1 ea
  refine qk_ ea false ?_; intro h2 eb
  refine qk_ eb false ?_; intro h3 ec
  refine qk_ ec false ?_; intro h4 ed
  refine qk_ ed false ?_; intro h5 ba
  refine qg_ ba false (.bool false) ?_; intro h6 ee
  refine q1 ee 102 (.bool false) ?_; intro h7 ef
  refine qnl (L _ ?_); intro h8 fQ
  refine cdF ef (by kernel_rfl) ?_
  exact l_ (j_ (d_ (Q i I J P ⟨fP, p, z⟩ _ _ ((ef.reg).anyβ _ (by kernel_rfl)) (fQ.kp))))
 refine x_ (y_ (y_ (z_ (t_ (sqB ae cv [0] [234] [(116, .bool ((i.Reader.Code == 0) && (h.1 != (sfixedS ((fcountS (w64 (((u0.Reader.Row.take u0.Reader.At.toNat).length : Int) - ((fheadS u0.f).length : Int)))) ++ (csumS (fkind u0.f) ((u0.Reader.Row.take u0.Reader.At.toNat) ++ (fcountS (w64 (((u0.Reader.Row.take u0.Reader.At.toNat).length : Int) - ((fheadS u0.f).length : Int)))))).1) (j.toNat : Int)).1)))] ?_))))); intro ia ai
 refine c_ ai bb (fun _ eg => ?_) fun _ fW => ?_
 ·
  refine rgH ?_; intro fR eh
  refine s1 ai 117 (pt b1 0) ?_; intro ib ei
  refine ck ei 19 #[pt b1 0, i6 6] ?_
  obtain ⟨H, fS, ej⟩ := hxq eg
  have l := rfail_fun i 6 b1 I J _ _ _ _ _ _ p cv cv.fz; rw [fS] at l; refine l.mono ?_; rintro _ fT ⟨ek, el, em, rfl, aj, en, hm⟩; refine ⟨_, rfl, ?_⟩; intro ic eo; have ep := hm
  replace o := Fz.le.trans o aj
  have fU : Mem B [] w0 Z0 ((.row b1 (e46Erfast H ek el) 46) :: Rr) em fT := ep
  have fV := ej (en.small)
  apply eh
  refine rN (fn := Tryz.f23) (v := .tuple #[]) eo (re0 eo (fn := Tryz.f23) rfl) ?_
  exact ⟨H, ek, el, em, rfl, fV, o, en, fU.kp⟩
 refine l_ (rN (fn := Tryz.f23) (v := .tuple #[]) ai (re0 ai (fn := Tryz.f23) rfl) ?_)
 exact ⟨i, I, J, P, rfl, fW, o, p, cv.kp⟩
end Go.Proofs.YtmnlahbngbigdaaGreatDoor
set_option linter.unusedVariables false
set_option linter.unusedSimpArgs false
set_option linter.defProp false
namespace Go.Proofs.YtmnlahbngbigdaaGreatDoor
open Go.Sy Go.RowKit
def rnames_fun (u0 : FReader) (hpre : Rok u0.Reader) (b1 : Nat) (ao2 : Option Addr) (cap3 : Nat) (B : Nat) (w0 : World) (Z0 : Fz) (Rr : List Res) (Z : Fz) (w : World) (hs4 : SlR t8 Z ao2 cap3 u0.f.Data) (hM0 : Mem B [] w0 Z0 ((.row b1 [str u0.Reader.Row, i6 u0.Reader.At, i6 u0.Reader.Code, y8 u0.Reader.c.last, i6 u0.Reader.c.n, i6 u0.f.ID, .bool u0.f.Long, .bool u0.f.Fast, .bool u0.f.Remote, i6 u0.f.Size, .slice ao2 u0.f.Data.length cap3] 46) :: Rr) Z w) (hZ : Z.on w) := fc_ (rnames_walk u0 b1 ao2 cap3 B w0 Z0 Rr Z w hs4 hM0 hZ (rnames_ok u0 hpre))
def rfast_fun (u0 : FReader) (hpre : fastpre u0) (b1 : Nat) (ao2 : Option Addr) (cap3 : Nat) (B : Nat) (w0 : World) (Z0 : Fz) (Rr : List Res) (Z : Fz) (w : World) (hs4 : SlR t8 Z ao2 cap3 u0.f.Data) (hM0 : Mem B [] w0 Z0 ((.row b1 [str u0.Reader.Row, i6 u0.Reader.At, i6 u0.Reader.Code, y8 u0.Reader.c.last, i6 u0.Reader.c.n, i6 u0.f.ID, .bool u0.f.Long, .bool u0.f.Fast, .bool u0.f.Remote, i6 u0.f.Size, .slice ao2 u0.f.Data.length cap3] 46) :: Rr) Z w) (hZ : Z.on w) := fc_ (rfast_walk u0 b1 ao2 cap3 B w0 Z0 Rr Z w hs4 hM0 hZ (rfast_ok u0 hpre))
end Go.Proofs.YtmnlahbngbigdaaGreatDoor
set_option linter.unusedVariables false
set_option linter.unusedSimpArgs false
set_option maxRecDepth 100000
set_option maxHeartbeats 0
namespace Go.Proofs.YtmnlahbngbigdaaGreatDoor
open Go.Sy Go.RowKit
abbrev e46FfRead (X : FReader) (A0 : Option Addr) (C0 : Nat) : List Value := [str X.Reader.Row, i6 X.Reader.At, i6 X.Reader.Code, y8 X.Reader.c.last, i6 X.Reader.c.n, i6 X.f.ID, .bool X.f.Long, .bool X.f.Fast, .bool X.f.Remote, i6 X.f.Size, .slice A0 X.f.Data.length C0]
abbrev e24FfRead (X : Frame) (A0 : Option Addr) (C0 : Nat) : List Value := [i6 X.ID, .bool X.Long, .bool X.Fast, .bool X.Remote, i6 X.Size, .slice A0 X.Data.length C0]
theorem fRead_walk (u0 : List UInt8)  (Z : Fz) (w : World)  (hZ : Z.on w) {K : (Frame × Int × Int) → Prop} (hp : fRead_vc u0 K) : Calls Tryz.prog 5 #[str u0] w fun e w' => ∃ (r : Frame × Int × Int) (ao1001 : Option Addr) (cap1002 : Nat) (Z' : Fz), e = .returned (.tuple #[.agg #[i6 r.1.ID, .bool r.1.Long, .bool r.1.Fast, .bool r.1.Remote, i6 r.1.Size, .slice ao1001 r.1.Data.length cap1002], i6 r.2.1, i6 r.2.2]) ∧ K r ∧ SlR t8 Z' ao1001 cap1002 r.1.Data ∧ Mem w.heap.size [] w Z [] Z' w' := by
 refine enter0 Tryz.func5 rfl rfl (by kernel_rfl) ?_; intro a0 bY; have bZ := Mem.start w Z hZ
 refine sqH ?_; intro e2 b0
 refine nw bY bZ pb [i6 0, .bool false, .bool false, .bool false, i6 0, .slice none 0 0] 24 ?_; intro m a3 hd b1 aO
 refine bt b1 aO 2 [] [] [] ?_; intro a9 b3
 apply b0
 refine s_ (sqH ?_); intro e3 b4
 refine s1 b3 13 (str u0) ?_; intro he b5
 refine fc b5 aO (bcheck_fun u0 _ _ aO.fz) ?_; intro hf hg b6 aa
 refine s1 b6 5 (i6 (bcheckS u0)) ?_; intro hh b7
 apply b4
 refine sqB b7 aa [] [] [(16, .bool ((bcheckS u0) != 0))] ?_; intro hi ar
 refine c_ ar hp (fun _ e4 => ?_) fun _ e7 => ?_
 ·
  refine sqH ?_; intro e5 b8
  refine bt ar aa 2 [] [] [(17, .agg #[i6 0, .bool false, .bool false, .bool false, i6 0, .slice none 0 0]), (18, i6 (bcheckS u0))] ?_; intro hj bu
  refine sx bu aa 0 [i6 0, .bool false, .bool false, .bool false, i6 0, .slice none 0 0] 0 ?_; intro e6 bv
  refine bt bu bv 2 [] [] [(3, i6 0), (4, i6 (bcheckS u0))] ?_; intro hk b9
  have ca : Mem w.heap.size [] w Z [.row m [i6 0, .bool false, .bool false, .bool false, i6 0, .slice none 0 0] 24] Z e6 := bv
  apply b8
  refine r_ (h_ (rt (fn := Tryz.f5) (v := .tuple #[.agg #[i6 0, .bool false, .bool false, .bool false, i6 0, .slice none 0 0], i6 0, i6 (bcheckS u0)]) b9 (re3c b9 (fn := Tryz.f5) rfl (ad := ⟨m, 0, none⟩) (by kernel_rfl) (loadVar_run ca 0 (b := m) (k := 6) (vs := [i6 0, .bool false, .bool false, .bool false, i6 0, .slice none 0 0]) (ty := 24) rfl (by kernel_rfl) (by kernel_rfl)) (by kernel_rfl) (by kernel_rfl)) ?_))
  exact ⟨((⟨0, false, false, false, 0, []⟩ : Frame), 0, (bcheckS u0)), none, 0, Z, rfl, e4, (SlR.nil _ _), ca.kp⟩
 refine k_ (sqH ?_); intro e8 cb
 refine bt ar aa 3 [] [] [(21, .agg #[str u0, i6 0, i6 0, y8 0, i6 0, i6 0, .bool false, .bool false, .bool false, i6 0, .slice none 0 0])] ?_; intro hl cc
 refine nw cc aa pb [str u0, i6 0, i6 0, y8 0, i6 0, i6 0, .bool false, .bool false, .bool false, i6 0, .slice none 0 0] 46 ?_; intro i hn ho ce bw
 refine s1 ce 6 (pt i 0) ?_; intro hq cf
 apply cb
 refine sqH ?_; intro e9 cg
 refine s1 cf 23 (pt i 0) ?_; intro hr ch
 obtain ⟨fa, ci⟩ := e7
 refine ck ch 17 #[pt i 0] ?_
 obtain ⟨F, fb, cj⟩ := hxq ci
 have o := rnames_fun (⟨(⟨u0, 0, 0, (⟨0, 0⟩ : Counter)⟩ : Reader), (⟨0, false, false, false, 0, []⟩ : Frame)⟩ : FReader) fa i none 0 _ _ _ _ _ _ (SlR.nil _ _) bw bw.fz; rw [fb] at o; refine o.mono ?_; rintro _ fd ⟨cl, cm, fe, rfl, ff, y, hm⟩; refine ⟨_, rfl, ?_⟩; intro hs cn; have co := hm
 have bx : Mem w.heap.size [] w Z [.row i (e46FfRead F cl cm) 46, .row m [i6 0, .bool false, .bool false, .bool false, i6 0, .slice none 0 0] 24] fe fd := co
 have fg := cj (y.small)
 apply cg
 refine sqH ?_; intro fh cp
 refine s1 cn 25 (pt i 0) ?_; intro ht cq
 obtain ⟨fi, cr⟩ := fg
 refine ck cq 18 #[pt i 0, i6 4] ?_
 obtain ⟨j, fj, ct⟩ := hxq cr
 have o := rnumber_fun F 4 fi i cl cm _ _ _ _ _ _ y bx bx.fz; rw [fj] at o; refine o.mono ?_; rintro _ fk ⟨U, V, al, rfl, cu, u, hm⟩; refine ⟨_, rfl, ?_⟩; intro hu cv; have cw := hm
 have B : Mem w.heap.size [] w Z [.row i (e46FfRead j.2 U V) 46, .row m [i6 0, .bool false, .bool false, .bool false, i6 0, .slice none 0 0] 24] al fk := cw
 have fl := ct (u.small)
 refine s1 cv 7 (i6 j.1) ?_; intro cx cy
 apply cp
 have cz : Fr 158 [] [⟨2, [], pt m 0⟩, ⟨6, [], pt i 0⟩, ⟨7, [], i6 j.1⟩] cx := cy.reg
 obtain ⟨fm, aP, fo⟩ := fl
 refine wp_seq_k fun KJ101 hKJ102 => ?_
 have aQ : ∀ (p : FReader) (W : Option Addr) (X : Nat) (ab : Fz), fm p ∧ SlR t8 ab W X p.f.Data ∧ Fz.le al ab → ∀ a1 w1, Fr 158 [] [⟨2, [], pt m 0⟩, ⟨6, [], pt i 0⟩] a1 → Mem w.heap.size [] w Z [.row i (e46FfRead p W X) 46, .row m [i6 0, .bool false, .bool false, .bool false, i6 0, .slice none 0 0] 24] ab w1 → KJ101 a1 w1 := by
  rintro p W X ab ⟨fp, L, N⟩ hv hw cA M
  refine hKJ102 _ _ ?_
  have fq := fo p fp
  refine s_ (sqB cA M [0] [] [(81, .bool p.f.Fast)] ?_); intro cB cC
  have cD : Fr 158 [] [⟨2, [], pt m 0⟩, ⟨6, [], pt i 0⟩, ⟨81, [], .bool p.f.Fast⟩] cB := cC.reg
  obtain ⟨fr, aR, fs⟩ := fq
  refine wp_then_k fun KJ128 hKJ129 => ?_
  have aS : ∀ (x : FReader) (aT : Option Addr) (aU : Nat) (aV : Fz), fr x ∧ SlR t8 aV aT aU x.f.Data ∧ Fz.le ab aV → ∀ a1 w1, Fr 158 [] [⟨2, [], pt m 0⟩, ⟨6, [], pt i 0⟩] a1 → Mem w.heap.size [] w Z [.row i (e46FfRead x aT aU) 46, .row m [i6 0, .bool false, .bool false, .bool false, i6 0, .slice none 0 0] 24] aV w1 → KJ128 a1 w1 := by
   rintro x aT aU aV ⟨ft, an, O⟩ hx hy cE aW
   refine hKJ129 _ _ ?_
   have fu := fs x ft
   refine sqH ?_; intro fv cF
   refine bt cE aW 3 [] [] [(118, pt i 0)] ?_; intro hz cG
   obtain ⟨fw, cH⟩ := fu
   refine ck cG 26 #[pt i 0, i6 10] ?_
   obtain ⟨a, fx, cI⟩ := hxq cH
   have o := rplainF_fun x 10 fw i aT aU _ _ _ _ _ _ an aW aW.fz; rw [fx] at o; refine o.mono ?_; rintro _ fy ⟨z, A, P, rfl, af, ag, hm⟩; refine ⟨_, rfl, ?_⟩; intro hA cJ; have cK := hm
   have aX : Mem w.heap.size [] w Z [.row i (e46FfRead a.2 z A) 46, .row m [i6 0, .bool false, .bool false, .bool false, i6 0, .slice none 0 0] 24] P fy := cK
   have aY := cI (ag.small)
   refine s1 cJ 12 (str a.1) ?_; intro bA cL
   apply cF
   apply s_
   have aZ : Fr 158 [] [⟨2, [], pt m 0⟩, ⟨6, [], pt i 0⟩, ⟨12, [], str a.1⟩] bA := cL.reg
   refine e_ aY (fun ay fA => ?_) fun ay be => ?_
   ·
    have cM : Fr 158 [] [⟨2, [], pt m 0⟩, ⟨6, [], pt i 0⟩, ⟨12, [], str a.1⟩] bA := aZ.reg
    refine sqQH mixed (by kernel_rfl) aX ?_; intro fB cN
    refine q1 cM 120 (pt i 0) ?_; intro hB cO
    refine q1 cO 121 (pt i 0) ?_; intro hD cP
    refine q1 cP 122 (pt i 0) ?_; intro hE cQ
    refine q1 cQ 123 (pt i 2) ?_; intro hF bB
    refine ql_ bB 0 2 (i6 a.2.Reader.Code) rfl rfl ?_; intro hG cR
    refine q1 cR 125 (.bool (a.2.Reader.Code == 0)) ?_; intro hH cT
    have cU := cT.reval (d := 125) (c := []) (v := .bool (a.2.Reader.Code == 0)) (by kernel_rfl) (.bool true) (by rw [ay])
    refine q1 cU 126 (.bool true) ?_; intro hI a2
    refine qg_ a2 true (str a.1) ?_; intro hJ a4
    obtain ⟨fC, fD⟩ := fA
    refine qst a4 (str (a.1.take (1 : Int).toNat)) (wK a4 true) rfl (by kernel_rfl) (fun v197 hC => strslH_run a4 (g := []) (k := .i64) rfl (by kernel_rfl) (by kernel_rfl) (by kernel_rfl) fC rfl) ?_; intro hK a5
    obtain ⟨fE, fF⟩ := fD
    refine qst a5 (str ((a.1.take (1 : Int).toNat) ++ ([49] : List UInt8))) (wK a5 true) rfl (by kernel_rfl) (fun v202 hC => stradd_run a5 (g := []) rfl (by kernel_rfl) (by kernel_rfl) fE rfl) ?_; intro hL a6
    refine qg_ a6 true (str a.1) ?_; intro hM a7
    obtain ⟨fG, fH⟩ := fF
    refine qst a7 (str (a.1.drop (2 : Int).toNat)) (wK a7 true) rfl (by kernel_rfl) (fun v210 hC => strslL_run a7 (g := []) (k := .i64) rfl (by kernel_rfl) (by kernel_rfl) (by kernel_rfl) fG rfl) ?_; intro hN a8
    obtain ⟨fI, fJ⟩ := fH
    refine qst a8 (str (((a.1.take (1 : Int).toNat) ++ ([49] : List UInt8)) ++ (a.1.drop (2 : Int).toNat))) (wK a8 true) rfl (by kernel_rfl) (fun v215 hC => stradd_run a8 (g := []) rfl (by kernel_rfl) (by kernel_rfl) fI rfl) ?_; intro hO ba
    refine qst ba (.bool ((((a.1.take (1 : Int).toNat) ++ ([49] : List UInt8)) ++ (a.1.drop (2 : Int).toNat)) != ([49, 49, 49, 49, 49, 49, 49, 49, 49, 49] : List UInt8))) (wK ba true) rfl (by kernel_rfl) (fun v220 hC => strcmp_run ba (g := []) (op := .neq) rfl (by kernel_rfl) (by kernel_rfl) (by decide) rfl) ?_; intro hP cV
    refine q1 cV 134 (.bool ((((a.1.take (1 : Int).toNat) ++ ([49] : List UInt8)) ++ (a.1.drop (2 : Int).toNat)) != ([49, 49, 49, 49, 49, 49, 49, 49, 49, 49] : List UInt8))) ?_; intro cW cX
    refine qnl (cN _ ?_); intro hQ az
    have cY : Fr 158 [] [⟨2, [], pt m 0⟩, ⟨6, [], pt i 0⟩, ⟨134, [], .bool ((((a.1.take (1 : Int).toNat) ++ ([49] : List UInt8)) ++ (a.1.drop (2 : Int).toNat)) != ([49, 49, 49, 49, 49, 49, 49, 49, 49, 49] : List UInt8))⟩] cW := cX.reg
    obtain ⟨fK, bb, fL⟩ := fJ
    refine wp_then_k fun KJ233 hKJ234 => ?_
    have cZ : ∀ (h : FReader) (D : Option Addr) (E : Nat) (Q : Fz), fK h ∧ SlR t8 Q D E h.f.Data ∧ Fz.le P Q → ∀ a1 w1, Fr 158 [] [⟨2, [], pt m 0⟩, ⟨6, [], pt i 0⟩] a1 → Mem w.heap.size [] w Z [.row i (e46FfRead h D E) 46, .row m [i6 0, .bool false, .bool false, .bool false, i6 0, .slice none 0 0] 24] Q w1 → KJ233 a1 w1 := by
     rintro h D E Q ⟨fM, fN, Y⟩ hR hS c0 aB
     refine hKJ234 _ _ ?_
     have bc := fL h fM
     refine s_ (sqB c0 aB [0] [] [(142, .bool (h.Reader.Code != 0))] ?_); intro c1 aC
     refine c_ aC bc (fun _ fO => ?_) fun _ fT => ?_
     ·
      have c2 : Fr 158 [] [⟨2, [], pt m 0⟩, ⟨6, [], pt i 0⟩] c1 := aC.reg
      refine wp_seq (rgS mixed aB [(0, true), (1, true), (2, true), (3, true), (4, true), (5, true), (6, false), (7, true), (8, true)] [] [0] [.row i (e46FfRead h D E) 46] ?_)
      intro fP c3 h1 c4
      have fQ := Fz.le.refl Q
      refine cS c2 6 [0] [] [(143, .agg #[i6 0, .bool false, .bool false, .bool false, i6 0, .slice none 0 0]), (148, i6 h.Reader.Code)] ?_; intro h2 bD
      refine eS rfl ?_; intro fR c5
      refine sx bD c4 1 [i6 0, .bool false, .bool false, .bool false, i6 0, .slice none 0 0] 0 ?_; intro fS c6
      have bE : Mem w.heap.size [] w Z [.row i (e46FfRead h D E) 46, .row m [i6 0, .bool false, .bool false, .bool false, i6 0, .slice none 0 0] 24] Q fS := c6
      refine nl (qnI (c5 _ _ (bE.cst fQ [0]) ?_))
      refine cS bD 2 [] [] [(3, i6 0), (4, i6 h.Reader.Code)] ?_; intro h3 c7
      refine nS (c3 _ _ ?_)
      refine t_ (r_ (h_ (rt (fn := Tryz.f5) (v := .tuple #[.agg #[i6 0, .bool false, .bool false, .bool false, i6 0, .slice none 0 0], i6 0, i6 h.Reader.Code]) c7 (re3c c7 (fn := Tryz.f5) rfl (ad := ⟨m, 0, none⟩) (by kernel_rfl) (loadVar_run bE 1 (b := m) (k := 6) (vs := [i6 0, .bool false, .bool false, .bool false, i6 0, .slice none 0 0]) (ty := 24) rfl (by kernel_rfl) (by kernel_rfl)) (by kernel_rfl) (by kernel_rfl)) ?_)))
      exact ⟨((⟨0, false, false, false, 0, []⟩ : Frame), 0, h.Reader.Code), none, 0, Q, rfl, fO, (SlR.nil _ _), bE.kp⟩
     apply k_
     have c8 : Fr 158 [] [⟨2, [], pt m 0⟩, ⟨6, [], pt i 0⟩] c1 := aC.reg
     refine wp_seq (rgS mixed aB [(0, true), (1, true), (2, true), (3, true), (4, true), (5, true), (6, true), (7, true), (8, true), (9, false), (10, true), (11, true)] [] [0] [.row i (e46FfRead h D E) 46] ?_)
     intro fU c9 h4 da
     have fV := Fz.le.refl Q
     refine cS c8 9 [0, 0] [] [(152, .agg (e24FfRead h.f D E).toArray), (157, i6 h.Reader.At)] ?_; intro h5 bF
     refine eS rfl ?_; intro fW db
     refine sx bF da 1 (e24FfRead h.f D E) 0 ?_; intro fX dc
     have bG : Mem w.heap.size [] w Z [.row i (e46FfRead h D E) 46, .row m (e24FfRead h.f D E) 24] Q fX := dc
     refine nl (qnI (db _ _ (bG.cst fV [0]) ?_))
     refine cS bF 2 [] [] [(3, i6 h.Reader.At), (4, i6 0)] ?_; intro h6 dd
     refine nS (c9 _ _ ?_)
     refine t_ (r_ (rt (fn := Tryz.f5) (v := .tuple #[.agg (e24FfRead h.f D E).toArray, i6 h.Reader.At, i6 0]) dd (re3c dd (fn := Tryz.f5) rfl (ad := ⟨m, 0, none⟩) (by kernel_rfl) (loadVar_run bG 1 (b := m) (k := 6) (vs := (e24FfRead h.f D E)) (ty := 24) rfl (by kernel_rfl) (by kernel_rfl)) (by kernel_rfl) (by kernel_rfl)) ?_))
     exact ⟨(h.f, h.Reader.At, 0), D, E, Q, rfl, fT, fN, bG.kp⟩
    have bd := Fz.le.refl P
    refine c_ cY bb (fun _ de => ?_) fun _ f4 => ?_
    ·
     refine rgH ?_; intro fY df
     refine s1 cY 135 (pt i 0) ?_; intro h7 dg
     refine ck dg 19 #[pt i 0, i6 4] ?_
     obtain ⟨G, fZ, dh⟩ := hxq de
     have o := rfail_fun a.2 4 i z A _ _ _ _ _ _ ag az az.fz; rw [fZ] at o; refine o.mono ?_; rintro _ f0 ⟨di, dj, dk, rfl, S, dl, hm⟩; refine ⟨_, rfl, ?_⟩; intro h8 f1; have dm := hm
     replace bd := bd.mono S
     have f2 : Mem w.heap.size [] w Z [.row i (e46FfRead G di dj) 46, .row m [i6 0, .bool false, .bool false, .bool false, i6 0, .slice none 0 0] 24] dk f0 := dm
     have f3 := dh (dl.small)
     apply df
     exact d_ (cZ G di dj dk ⟨f3, dl, bd⟩ _ _ ((f1.reg).anyβ _ (by kernel_rfl)) (f2.kp))
    exact l_ (d_ (cZ a.2 z A P ⟨f4, ag, bd⟩ _ _ ((cY.reg).anyβ _ (by kernel_rfl)) (az.kp)))
   have dn : Fr 158 [] [⟨2, [], pt m 0⟩, ⟨6, [], pt i 0⟩, ⟨12, [], str a.1⟩] bA := aZ.reg
   refine sqQH mixed (by kernel_rfl) aX ?_; intro f6 dp
   refine q1 dn 120 (pt i 0) ?_; intro ia dq
   refine q1 dq 121 (pt i 0) ?_; intro ib dr
   refine q1 dr 122 (pt i 0) ?_; intro ic ds
   refine q1 ds 123 (pt i 2) ?_; intro id bI
   refine ql_ bI 0 2 (i6 a.2.Reader.Code) rfl rfl ?_; intro ie dt
   refine q1 dt 125 (.bool (a.2.Reader.Code == 0)) ?_; intro ig du
   have dv := du.reval (d := 125) (c := []) (v := .bool (a.2.Reader.Code == 0)) (by kernel_rfl) (.bool false) (by rw [ay])
   refine q1 dv 126 (.bool false) ?_; intro ih dw
   refine qk_ dw false ?_; intro ii dx
   refine qk_ dx false ?_; intro ij dy
   refine qk_ dy false ?_; intro ik dz
   refine qk_ dz false ?_; intro il dA
   refine qk_ dA false ?_; intro im dB
   refine qk_ dB false ?_; intro io dC
   refine qk_ dC false ?_; intro ip dD
   refine q1 dD 134 (.bool false) ?_; intro iq bJ
   refine qnl (dp _ ?_); intro ir aD
   refine cdF bJ (by kernel_rfl) ?_
   refine k_ (s_ (sqB bJ aD [0] [] [(142, .bool (a.2.Reader.Code != 0))] ?_)); intro dE aE
   refine c_ aE be (fun _ f7 => ?_) fun _ gc => ?_
   ·
    have dF : Fr 158 [] [⟨2, [], pt m 0⟩, ⟨6, [], pt i 0⟩] dE := aE.reg
    refine wp_seq (rgS mixed aD [(0, true), (1, true), (2, true), (3, true), (4, true), (5, true), (6, false), (7, true), (8, true)] [] [0] [.row i (e46FfRead a.2 z A) 46] ?_)
    intro f8 dG it dH
    have f9 := Fz.le.refl P
    refine cS dF 6 [0] [] [(143, .agg #[i6 0, .bool false, .bool false, .bool false, i6 0, .slice none 0 0]), (148, i6 a.2.Reader.Code)] ?_; intro iu bL
    refine eS rfl ?_; intro ga dI
    refine sx bL dH 1 [i6 0, .bool false, .bool false, .bool false, i6 0, .slice none 0 0] 0 ?_; intro gb dJ
    have bM : Mem w.heap.size [] w Z [.row i (e46FfRead a.2 z A) 46, .row m [i6 0, .bool false, .bool false, .bool false, i6 0, .slice none 0 0] 24] P gb := dJ
    refine nl (qnI (dI _ _ (bM.cst f9 [0]) ?_))
    refine cS bL 2 [] [] [(3, i6 0), (4, i6 a.2.Reader.Code)] ?_; intro iv dK
    refine nS (dG _ _ ?_)
    refine t_ (r_ (h_ (rt (fn := Tryz.f5) (v := .tuple #[.agg #[i6 0, .bool false, .bool false, .bool false, i6 0, .slice none 0 0], i6 0, i6 a.2.Reader.Code]) dK (re3c dK (fn := Tryz.f5) rfl (ad := ⟨m, 0, none⟩) (by kernel_rfl) (loadVar_run bM 1 (b := m) (k := 6) (vs := [i6 0, .bool false, .bool false, .bool false, i6 0, .slice none 0 0]) (ty := 24) rfl (by kernel_rfl) (by kernel_rfl)) (by kernel_rfl) (by kernel_rfl)) ?_)))
    exact ⟨((⟨0, false, false, false, 0, []⟩ : Frame), 0, a.2.Reader.Code), none, 0, P, rfl, f7, (SlR.nil _ _), bM.kp⟩
   apply k_
   have dL : Fr 158 [] [⟨2, [], pt m 0⟩, ⟨6, [], pt i 0⟩] dE := aE.reg
   refine wp_seq (rgS mixed aD [(0, true), (1, true), (2, true), (3, true), (4, true), (5, true), (6, true), (7, true), (8, true), (9, false), (10, true), (11, true)] [] [0] [.row i (e46FfRead a.2 z A) 46] ?_)
   intro gd dM iw dN
   have ge := Fz.le.refl P
   refine cS dL 9 [0, 0] [] [(152, .agg (e24FfRead a.2.f z A).toArray), (157, i6 a.2.Reader.At)] ?_; intro ix bN
   refine eS rfl ?_; intro gf dO
   refine sx bN dN 1 (e24FfRead a.2.f z A) 0 ?_; intro gg dP
   have bO : Mem w.heap.size [] w Z [.row i (e46FfRead a.2 z A) 46, .row m (e24FfRead a.2.f z A) 24] P gg := dP
   refine nl (qnI (dO _ _ (bO.cst ge [0]) ?_))
   refine cS bN 2 [] [] [(3, i6 a.2.Reader.At), (4, i6 0)] ?_; intro iy dQ
   refine nS (dM _ _ ?_)
   refine t_ (r_ (rt (fn := Tryz.f5) (v := .tuple #[.agg (e24FfRead a.2.f z A).toArray, i6 a.2.Reader.At, i6 0]) dQ (re3c dQ (fn := Tryz.f5) rfl (ad := ⟨m, 0, none⟩) (by kernel_rfl) (loadVar_run bO 1 (b := m) (k := 6) (vs := (e24FfRead a.2.f z A)) (ty := 24) rfl (by kernel_rfl) (by kernel_rfl)) (by kernel_rfl) (by kernel_rfl)) ?_))
   exact ⟨(a.2.f, a.2.Reader.At, 0), z, A, P, rfl, gc, ag, bO.kp⟩
  have R := Fz.le.refl ab
  refine c_ cD aR (fun _ gh => ?_) fun _ bf => ?_
  ·
   refine rgH ?_; intro gi dR
   refine s1 cD 82 (pt i 0) ?_; intro iz dS
   obtain ⟨gj, dT⟩ := gh
   refine ck dS 23 #[pt i 0] ?_
   obtain ⟨H, gk, dU⟩ := hxq dT
   have o := rfast_fun p gj i W X _ _ _ _ _ _ L M M.fz; rw [gk] at o; refine o.mono ?_; rintro _ gl ⟨dV, dW, dX, rfl, ao, dY, hm⟩; refine ⟨_, rfl, ?_⟩; intro iA gm; have dZ := hm
   replace R := R.mono ao
   have gn : Mem w.heap.size [] w Z [.row i (e46FfRead H dV dW) 46, .row m [i6 0, .bool false, .bool false, .bool false, i6 0, .slice none 0 0] 24] dX gl := dZ
   have go := dU (dY.small)
   apply dR
   exact d_ (aS H dV dW dX ⟨go, dY, R⟩ _ _ ((gm.reg).anyβ _ (by kernel_rfl)) (gn.kp))
  refine sqB cD M [0] [] [(89, .bool (p.Reader.Code == 0))] ?_; intro iB bg
  refine c_ bg bf (fun _ gp => ?_) fun _ gE => ?_
  ·
   refine sqH ?_; intro gq d0
   refine bt bg M 4 [0] [] [(94, .agg (e24FfRead p.f W X).toArray)] ?_; intro iC d1
   obtain ⟨gr, gs⟩ := gp
   refine fc d1 M (fhead_fun p.f gr W X _ _ L M.fz) ?_; intro iD iE d2 bR
   refine fc d2 bR (csum_fun 0 (fheadS p.f) _ _ bR.fz) ?_; intro iF iG d3 aF
   refine bt d3 aF 5 [] [] [(9, str (csumS 0 (fheadS p.f)).1)] ?_; intro iH d4
   apply d0
   refine sqH ?_; intro gt d5
   refine bt d4 aF 3 [] [] [(101, pt i 0)] ?_; intro iI d6
   obtain ⟨gu, d7⟩ := gs
   refine ck d6 21 #[pt i 0, i6 15] ?_
   obtain ⟨s, gv, d8⟩ := hxq d7
   have o := rtakeF_fun p 15 gu i W X _ _ _ _ _ _ L aF aF.fz; rw [gv] at o; refine o.mono ?_; rintro _ gw ⟨bS, bT, d9, rfl, ap, aG, hm⟩; refine ⟨_, rfl, ?_⟩; intro iJ ea; have eb := hm
   replace R := R.mono ap
   have aH : Mem w.heap.size [] w Z [.row i (e46FfRead s.2 bS bT) 46, .row m [i6 0, .bool false, .bool false, .bool false, i6 0, .slice none 0 0] 24] d9 gw := eb
   have bh := d8 (aG.small)
   refine s1 ea 11 (str s.1) ?_; intro iK ec
   apply d5
   refine sqB ec aH [0] [270] [(113, .bool ((s.2.Reader.Code == 0) && (s.1 != (csumS 0 (fheadS p.f)).1)))] ?_; intro iL bi
   refine c_ bi bh (fun _ ed => ?_) fun _ gD => ?_
   ·
    refine rgH ?_; intro gx ee
    refine s1 bi 114 (pt i 0) ?_; intro iM ef
    refine ck ef 19 #[pt i 0, i6 6] ?_
    obtain ⟨I, gy, eg⟩ := hxq ed
    have o := rfail_fun s.2 6 i bS bT _ _ _ _ _ _ aG aH aH.fz; rw [gy] at o; refine o.mono ?_; rintro _ gz ⟨eh, ei, ej, rfl, ah, ek, hm⟩; refine ⟨_, rfl, ?_⟩; intro iN gA; have el := hm
    replace R := R.mono ah
    have gB : Mem w.heap.size [] w Z [.row i (e46FfRead I eh ei) 46, .row m [i6 0, .bool false, .bool false, .bool false, i6 0, .slice none 0 0] 24] ej gz := el
    have gC := eg (ek.small)
    apply ee
    exact d_ (aS I eh ei ej ⟨gC, ek, R⟩ _ _ ((gA.reg).anyβ _ (by kernel_rfl)) (gB.kp))
   exact l_ (d_ (aS s.2 bS bT d9 ⟨gD, aG, R⟩ _ _ ((bi.reg).anyβ _ (by kernel_rfl)) (aH.kp)))
  exact l_ (d_ (aS p W X ab ⟨gE, L, R⟩ _ _ ((bg.reg).anyβ _ (by kernel_rfl)) (M.kp)))
 have C := Fz.le.refl al
 refine b_ (sqB cz B [0] [] [(46, .bool (j.2.Reader.Code != 0))] ?_); intro iO bj
 refine c_ bj aP (fun _ gF => ?_) fun _ bk => ?_
 ·
  exact l_ (j_ (d_ (aQ j.2 U V al ⟨gF, u, C⟩ _ _ ((bj.reg).anyβ _ (by kernel_rfl)) (B.kp))))
 refine sqB bj B [0] [] [(53, .bool ((!j.2.f.Fast) && (decide (j.1 > 8))))] ?_; intro iP aI
 refine c_ aI bk (fun _ em => ?_) fun _ bm => ?_
 ·
  refine rgH ?_; intro gG en
  refine s1 aI 64 (pt i 0) ?_; intro iQ eo
  refine ck eo 19 #[pt i 0, i6 4] ?_
  obtain ⟨J, gH, ep⟩ := hxq em
  have o := rfail_fun j.2 4 i U V _ _ _ _ _ _ u B B.fz; rw [gH] at o; refine o.mono ?_; rintro _ gI ⟨eq, er, es, rfl, bl, et, hm⟩; refine ⟨_, rfl, ?_⟩; intro iR gJ; have eu := hm
  replace C := C.mono bl
  have gK : Mem w.heap.size [] w Z [.row i (e46FfRead J eq er) 46, .row m [i6 0, .bool false, .bool false, .bool false, i6 0, .slice none 0 0] 24] es gI := eu
  have gL := ep (et.small)
  apply en
  exact j_ (d_ (aQ J eq er es ⟨gL, et, C⟩ _ _ ((gJ.reg).anyβ _ (by kernel_rfl)) (gK.kp)))
 refine sqB aI B [0] [] [(66, .bool j.2.f.Remote)] ?_; intro iS aJ
 refine c_ aJ bm (fun _ gM => ?_) fun _ ey => ?_
 ·
  refine rgH ?_; intro gN ev
  refine bt aJ B 5 [] [] [(73, i6 j.1), (76, pt i 9)] ?_; intro iT ew
  refine sx ew B 0 [str j.2.Reader.Row, i6 j.2.Reader.At, i6 j.2.Reader.Code, y8 j.2.Reader.c.last, i6 j.2.Reader.c.n, i6 j.2.f.ID, .bool j.2.f.Long, .bool j.2.f.Fast, .bool j.2.f.Remote, i6 j.1, .slice U j.2.f.Data.length V] 9 ?_; intro gO ex
  have gP : Mem w.heap.size [] w Z [.row i [str j.2.Reader.Row, i6 j.2.Reader.At, i6 j.2.Reader.Code, y8 j.2.Reader.c.last, i6 j.2.Reader.c.n, i6 j.2.f.ID, .bool j.2.f.Long, .bool j.2.f.Fast, .bool j.2.f.Remote, i6 j.1, .slice U j.2.f.Data.length V] 46, .row m [i6 0, .bool false, .bool false, .bool false, i6 0, .slice none 0 0] 24] al gO := ex
  apply ev
  exact j_ (d_ (aQ (⟨j.2.Reader, (⟨j.2.f.ID, j.2.f.Long, j.2.f.Fast, j.2.f.Remote, j.1, j.2.f.Data⟩ : Frame)⟩ : FReader) U V al ⟨gM, u, C⟩ _ _ ((ew.reg).anyβ _ (by kernel_rfl)) (gP.kp)))
 refine sqH ?_; intro gQ ez
 refine ck aJ 20 #[] ?_
 refine (fsizes_fun  _ _ B.fz).mono ?_; rintro _ gR ⟨gS, aK, gT, rfl, hm⟩; refine ⟨_, rfl, ?_⟩; intro iU eA; have eB := B.callZ hm; have bn := hm.ext.le
 replace u := u.mono bn
 replace C := C.mono bn
 have ai : Mem w.heap.size [] w Z [.own t6 3 gS aK fsizes, .row i (e46FfRead j.2 U V) 46, .row m [i6 0, .bool false, .bool false, .bool false, i6 0, .slice none 0 0] 24] gT gR := eB
 have gU := ey (ai.ownSmall 0 rfl)
 refine s1 eA 28 (i6 j.1) ?_; intro iV eC
 obtain ⟨gV, eD⟩ := gU
 refine ixo eC ai 0 (T := t6) (xs := fsizes) j.1 gV (k := .i64) (e := 3) (bytes := 8) (nog rfl _) rfl (by kernel_rfl) rfl (by kernel_rfl) (by kernel_rfl) rfl (by kernel_rfl) ?_; intro bo iW gW eE
 subst gW
 obtain ⟨aq, gX, gY⟩ := gxq eD (by first | omega | (simp only [List.length_set] at *; omega))
 obtain ⟨gZ, g0, g1⟩ := own_el ai 0 (T := t6) (xs := fsizes) rfl j.1.toNat gX
 obtain rfl : gZ = ([i6 aq] : List Value) := g0
 refine lc1 eE 30 (i6 aq) (g1 0 _ rfl) rfl ?_; intro iX eF
 refine s1 eF 7 (i6 aq) ?_; intro iY eG
 apply ez
 refine sqH ?_; intro g2 eH
 refine bt eG ai 5 [] [] [(33, pt i 0), (35, i6 (w64 (8 * aq)))] ?_; intro iZ eI
 obtain ⟨g3, eJ⟩ := gY
 refine ck eI 21 #[pt i 0, i6 (w64 (8 * aq))] ?_
 obtain ⟨l, g4, eK⟩ := hxq eJ
 have o := rtakeF_fun j.2 (w64 (8 * aq)) g3 i U V _ _ _ _ _ _ u (ai.perm (pk 1 rfl)) ai.fz; rw [g4] at o; refine o.mono ?_; rintro _ g5 ⟨eL, eM, g6, rfl, bp, aL, hm⟩; refine ⟨_, rfl, ?_⟩; intro i0 eN; have eO := hm
 replace C := C.mono bp
 have bq : Mem w.heap.size [] w Z [.row i (e46FfRead l.2 eL eM) 46, .own t6 3 (sm bo) aK fsizes, .row m [i6 0, .bool false, .bool false, .bool false, i6 0, .slice none 0 0] 24] g6 g5 := eO
 have eP := eK (aL.small)
 refine s1 eN 8 (str l.1) ?_; intro i1 eQ
 apply eH
 refine rgH ?_; intro g7 eR
 refine bt eQ bq 2 [] [] [(38, pt i 0), (39, str l.1)] ?_; intro i2 eT
 refine ck eT 22 #[str l.1] ?_
 refine (bbytes_fun l.1 _ _ bq.fz).mono ?_; rintro _ g8 ⟨aj, ak, eU, rfl, hm⟩; refine ⟨_, rfl, ?_⟩; intro i3 eV; have eW := bq.callZ hm; have aM := hm.ext.le
 replace C := C.mono aM
 have br : Mem w.heap.size [] w Z [.own t8 5 aj ak (bbytesS l.1).1, .row i (e46FfRead l.2 eL eM) 46, .own t6 3 (sm bo) aK fsizes, .row m [i6 0, .bool false, .bool false, .bool false, i6 0, .slice none 0 0] 24] eU g8 := eW
 have g9 := eP (br.ownSmall 0 rfl)
 refine bt eV br 6 [] [] [(41, .slice aj (bbytesS l.1).1.length ak), (45, pt i 10)] ?_; intro i4 eX
 refine sx eX br 1 [str l.2.Reader.Row, i6 l.2.Reader.At, i6 l.2.Reader.Code, y8 l.2.Reader.c.last, i6 l.2.Reader.c.n, i6 l.2.f.ID, .bool l.2.f.Long, .bool l.2.f.Fast, .bool l.2.f.Remote, i6 l.2.f.Size, .slice aj (bbytesS l.1).1.length ak] 10 ?_; intro eY eZ
 have ha : Mem w.heap.size [] w Z [.own t8 5 aj ak (bbytesS l.1).1, .row i [str l.2.Reader.Row, i6 l.2.Reader.At, i6 l.2.Reader.Code, y8 l.2.Reader.c.last, i6 l.2.Reader.c.n, i6 l.2.f.ID, .bool l.2.f.Long, .bool l.2.f.Fast, .bool l.2.f.Remote, i6 l.2.f.Size, .slice aj (bbytesS l.1).1.length ak] 46, .own t6 3 (sm bo) aK fsizes, .row m [i6 0, .bool false, .bool false, .bool false, i6 0, .slice none 0 0] 24] eU eY := eZ
 apply eR
 refine j_ (d_ ?_)
 obtain ⟨e0, aN, e1, hb⟩ := ha.freeze 0 rfl
 replace C := C.mono aN
 have hc : Mem w.heap.size [] w Z [.row i [str l.2.Reader.Row, i6 l.2.Reader.At, i6 l.2.Reader.Code, y8 l.2.Reader.c.last, i6 l.2.Reader.c.n, i6 l.2.f.ID, .bool l.2.f.Long, .bool l.2.f.Fast, .bool l.2.f.Remote, i6 l.2.f.Size, .slice aj (bbytesS l.1).1.length ak] 46, .own t6 3 (sm bo) aK fsizes, .row m [i6 0, .bool false, .bool false, .bool false, i6 0, .slice none 0 0] 24] e0 eY := e1
 exact aQ (⟨l.2.Reader, (⟨l.2.f.ID, l.2.f.Long, l.2.f.Fast, l.2.f.Remote, l.2.f.Size, (bbytesS l.1).1⟩ : Frame)⟩ : FReader) aj ak e0 ⟨g9, hb, C⟩ _ _ ((eX.reg).anyβ _ (by kernel_rfl)) (hc.kp)
end Go.Proofs.YtmnlahbngbigdaaGreatDoor
set_option linter.unusedVariables false
set_option linter.unusedSimpArgs false
set_option linter.defProp false
namespace Go.Proofs.YtmnlahbngbigdaaGreatDoor
open Go.Sy Go.RowKit
def fRead_fun (u0 : List UInt8)  (Z : Fz) (w : World)  (hZ : Z.on w) := fc_ (fRead_walk u0  Z w  hZ (fRead_ok u0))
def rSame_fun (u0 : Frame) (u1 : Frame) (ao1 : Option Addr) (cap2 : Nat) (ao4 : Option Addr) (cap5 : Nat) (Z : Fz) (w : World) (hs3 : SlR t8 Z ao1 cap2 u0.Data) (hs6 : SlR t8 Z ao4 cap5 u1.Data) (hZ : Z.on w) := f_ (rSame_walk u0 u1 ao1 cap2 ao4 cap5 Z w hs3 hs6 hZ (rSame_ok u0 u1))
end Go.Proofs.YtmnlahbngbigdaaGreatDoor
set_option linter.unusedVariables false
set_option linter.unusedSimpArgs false
set_option linter.defProp false
set_option maxRecDepth 100000
set_option maxHeartbeats 0
namespace Go.Proofs.YtmnlahbngbigdaaGreatDoor
open Go.Sy Go.RowKit
def rfastend_fun (u0 : List UInt8) (u1 : List UInt8) (u2 : Int) (hpre : rfpre u0 u1 u2)  (Z : Fz) (w : World) (hg5 : SlR t8 Z (sm 5) 64 deBruijn64) (hZ : Z.on w) := f_ (rfastend_walk u0 u1 u2  Z w hg5 hZ (rfastend_ok u0 u1 u2 hpre))
theorem rcheckrow_walk (u0 : List UInt8)  (Z : Fz) (w : World)  (hZ : Z.on w) {K : Int → Prop} (hp : rcheckrow_vc u0 K) : Calls Tryz.prog 6 #[str u0] w fun e w' => ∃ r : Int, e = .returned (i6 r) ∧ K r ∧ Below w.heap.size w w' := by
 refine enter0 Tryz.func6 rfl rfl (by kernel_rfl) ?_; intro E j; have a := Mem.start w Z hZ
 refine sqB j a [] [] [] ?_; intro G k
 refine s_ (sqB k a [] [] [(5, .bool (decide ((u0.length : Int) > 1000)))] ?_); intro H b
 refine cd b (t := decide ((u0.length : Int) > 1000)) (by kernel_rfl) (fun g => ?_) (fun g => ?_)
 · -- yes
  have q := hp.1 g
  refine sqB b a [] [] [(2, i6 2)] ?_; intro I s
  exact r_ (h_ (ra1 s (i6 2) ⟨2, rfl, q, a.below⟩))
 · -- no
  have u := hp.2 g
  refine k_ (s_ (sqH ?_)); intro v l
  refine s1 b 6 (str u0) ?_; intro J m
  obtain ⟨x, y⟩ := u
  refine fc m a (count1_fun u0 ([48] : List UInt8) x _ _ a.fz) ?_; intro L M n h
  refine s1 n 8 (str u0) ?_; intro N o
  obtain ⟨z, f⟩ := y
  refine fc o h (count1_fun u0 ([49] : List UInt8) z _ _ h.fz) ?_; intro O P p c
  refine bt p c 4 [] [] [(13, .bool ((w64 ((count1S u0 ([48] : List UInt8)) + (count1S u0 ([49] : List UInt8)))) != (u0.length : Int)))] ?_; intro Q d
  apply l
  refine cd d (t := (w64 ((count1S u0 ([48] : List UInt8)) + (count1S u0 ([49] : List UInt8)))) != (u0.length : Int)) (by kernel_rfl) (fun i => ?_) (fun i => ?_)
  · -- yes
   have A := f.1 i
   refine sqB d c [] [] [(2, i6 4)] ?_; intro R B
   exact r_ (h_ (ra1 B (i6 4) ⟨4, rfl, A, c.below⟩))
  · -- no
   have C := f.2 i
   refine k_ (sqB d c [] [] [(2, i6 0)] ?_); intro S D
   exact r_ (ra1 D (i6 0) ⟨0, rfl, C, c.below⟩)
theorem nofr_walk (u0 : Frame) (ao1 : Option Addr) (cap2 : Nat) (Z : Fz) (w : World) (hs3 : SlR t8 Z ao1 cap2 u0.Data) (hZ : Z.on w) {K : Bool → Prop} (hp : nofr_vc u0 K) : Calls Tryz.prog 8 #[.agg #[i6 u0.ID, .bool u0.Long, .bool u0.Fast, .bool u0.Remote, i6 u0.Size, .slice ao1 u0.Data.length cap2]] w fun e w' => ∃ r : Bool, e = .returned (.bool r) ∧ K r ∧ Below w.heap.size w w' := by
 refine enter0 Tryz.func8 rfl rfl (by kernel_rfl) ?_; intro p b; have c := Mem.start w Z hZ
 have k := hp (hs3.small)
 refine sqH ?_; intro l d
 refine nw b c pb [i6 u0.ID, .bool u0.Long, .bool u0.Fast, .bool u0.Remote, i6 u0.Size, .slice ao1 u0.Data.length cap2] 24 ?_; intro s t u f a
 refine s1 f 2 (.bool false) ?_; intro v g
 apply d
 refine sqH ?_; intro m h
 refine bt g a 2 [0] [] [(3, .agg #[i6 u0.ID, .bool u0.Long, .bool u0.Fast, .bool u0.Remote, i6 u0.Size, .slice ao1 u0.Data.length cap2]), (4, .agg #[i6 0, .bool false, .bool false, .bool false, i6 0, .slice none 0 0])] ?_; intro x i
 refine fc i a (rSame_fun u0 (⟨0, false, false, false, 0, []⟩ : Frame) ao1 cap2 none 0 _ _ hs3 (SlR.nil _ _) a.fz) ?_; intro y z j n
 refine s1 j 2 (.bool (sameS u0 (⟨0, false, false, false, 0, []⟩ : Frame))) ?_; intro A o
 apply h
 exact r_ (ra1 o (.bool (sameS u0 (⟨0, false, false, false, 0, []⟩ : Frame))) ⟨(sameS u0 (⟨0, false, false, false, 0, []⟩ : Frame)), rfl, k, n.below⟩)
theorem rbb_walk (u0 : List UInt8) (u1 : List UInt8) (u2 : Int) (u3 : Int) (cb1 co2 : Nat) (b4 : Nat) (b5 : Nat) (b6 : Nat) (B : Nat) (w0 : World) (Z0 : Fz) (Rr : List Res) (Z : Fz) (w : World) (hP3 : PtR Z cb1 co2 [str u0]) (hM0 : Mem B [] w0 Z0 ((.row b4 [str u1] 9) :: (.row b5 [i6 u2] 25) :: (.row b6 [i6 u3] 3) :: Rr) Z w) (hZ : Z.on w) {K : ((List UInt8) × (List UInt8) × Int × Int) → Prop} (hp : rbb_vc u0 u1 u2 u3 K) : Calls Tryz.prog 30 #[pt cb1 co2, pt b4 0, pt b5 0, pt b6 0] w fun e w' => ∃ (r : (List UInt8) × (List UInt8) × Int × Int) (Z' : Fz), e = .returned (str r.1) ∧ K r ∧ Fz.le Z Z' ∧ Mem B [] w0 Z0 ((.row b4 [str r.2.1] 9) :: (.row b5 [i6 r.2.2.1] 25) :: (.row b6 [i6 r.2.2.2] 3) :: Rr) Z' w' := by
 refine enter0 Tryz.func30 rfl rfl (by kernel_rfl) ?_; intro a0 x; have h := Fz.le.refl Z
 refine sqB x hM0 [] [] [] ?_; intro a8 y
 refine sqH ?_; intro U z
 refine z1 y hM0 9 hP3 0 (str u0) rfl ?_; intro ar A
 refine bt A hM0 3 [0] [] [(12, i6 (w64 ((u1.length : Int) + 1)))] ?_; intro au C
 obtain ⟨V, i⟩ := hp
 refine fc C hM0 (takebits_fun u0 (w64 ((u1.length : Int) + 1)) V _ _ hM0.fz) ?_; intro av aw D a
 refine bt D a 7 [] [] [(5, str (takebitsS u0 (w64 ((u1.length : Int) + 1))).1), (6, i6 (takebitsS u0 (w64 ((u1.length : Int) + 1))).2.1), (7, i6 (takebitsS u0 (w64 ((u1.length : Int) + 1))).2.2)] ?_; intro ax E
 apply z
 refine s_ (sqB E a [1] [] [(18, .bool (u2 == 0))] ?_); intro ay c
 refine cd c (t := u2 == 0) (by kernel_rfl) (fun o => ?_) (fun o => ?_)
 · -- yes
  have j := i.1 o
  refine rgH ?_; intro W F
  refine s1 c 19 (i6 (takebitsS u0 (w64 ((u1.length : Int) + 1))).2.2) ?_; intro az p
  refine sx p a 1 [i6 (takebitsS u0 (w64 ((u1.length : Int) + 1))).2.2] 0 ?_; intro X G
  have b : Mem B [] w0 Z0 ((.row b4 [str u1] 9) :: (.row b5 [i6 (takebitsS u0 (w64 ((u1.length : Int) + 1))).2.2] 25) :: (.row b6 [i6 u3] 3) :: Rr) Z X := G
  apply F
  refine t_ (s_ (sqB p b [1] [] [(21, .bool ((takebitsS u0 (w64 ((u1.length : Int) + 1))).2.2 != 0))] ?_)); intro aA d
  refine cd d (t := (takebitsS u0 (w64 ((u1.length : Int) + 1))).2.2 != 0) (by kernel_rfl) (fun q => ?_) (fun q => ?_)
  · -- yes
   have Y := j.1 q
   refine sqB d b [] [] [(4, str ([48] : List UInt8))] ?_; intro aB aa
   exact r_ (h_ (ra1 aa (str ([48] : List UInt8)) ⟨(([48] : List UInt8), u1, (takebitsS u0 (w64 ((u1.length : Int) + 1))).2.2, u3), Z, rfl, Y, h, b.kp⟩))
  · -- no
   have ab := j.2 q
   refine k_ (sqH ?_); intro ac H
   refine bt d b 2 [] [] [(22, str (takebitsS u0 (w64 ((u1.length : Int) + 1))).1), (23, i6 (takebitsS u0 (w64 ((u1.length : Int) + 1))).2.1)] ?_; intro aC l
   refine sx l b 0 [str (takebitsS u0 (w64 ((u1.length : Int) + 1))).1] 0 ?_; intro aD I
   refine sx l I 2 [i6 (takebitsS u0 (w64 ((u1.length : Int) + 1))).2.1] 0 ?_; intro ad J
   have L : Mem B [] w0 Z0 ((.row b4 [str (takebitsS u0 (w64 ((u1.length : Int) + 1))).1] 9) :: (.row b5 [i6 (takebitsS u0 (w64 ((u1.length : Int) + 1))).2.2] 25) :: (.row b6 [i6 (takebitsS u0 (w64 ((u1.length : Int) + 1))).2.1] 3) :: Rr) Z ad := J
   apply H
   refine sqH ?_; intro ae M
   refine bt l L 4 [] [] [(24, str (takebitsS u0 (w64 ((u1.length : Int) + 1))).1), (27, i6 (w64 (((takebitsS u0 (w64 ((u1.length : Int) + 1))).1.length : Int) - 1)))] ?_; intro aE s
   obtain ⟨af, ag⟩ := ab
   refine u_ s (str ((takebitsS u0 (w64 ((u1.length : Int) + 1))).1.drop (w64 (((takebitsS u0 (w64 ((u1.length : Int) + 1))).1.length : Int) - 1)).toNat)) (strslL_run s (g := []) (k := .i64) rfl (by kernel_rfl) (by kernel_rfl) (by kernel_rfl) af rfl) ?_; intro aF N
   refine s1 N 4 (str ((takebitsS u0 (w64 ((u1.length : Int) + 1))).1.drop (w64 (((takebitsS u0 (w64 ((u1.length : Int) + 1))).1.length : Int) - 1)).toNat)) ?_; intro aG ah
   apply M
   exact r_ (ra1 ah (str ((takebitsS u0 (w64 ((u1.length : Int) + 1))).1.drop (w64 (((takebitsS u0 (w64 ((u1.length : Int) + 1))).1.length : Int) - 1)).toNat)) ⟨((takebitsS u0 (w64 ((u1.length : Int) + 1))).1.drop (w64 (((takebitsS u0 (w64 ((u1.length : Int) + 1))).1.length : Int) - 1)).toNat, (takebitsS u0 (w64 ((u1.length : Int) + 1))).1, (takebitsS u0 (w64 ((u1.length : Int) + 1))).2.2, (takebitsS u0 (w64 ((u1.length : Int) + 1))).2.1), Z, rfl, ag, h, L.kp⟩)
 · -- no
  have m := i.2 o
  refine k_ (s_ (sqB c a [1] [] [(21, .bool (u2 != 0))] ?_)); intro aH f
  refine cd f (t := u2 != 0) (by kernel_rfl) (fun u => ?_) (fun u => ?_)
  · -- yes
   have ai := m.1 u
   refine sqB f a [] [] [(4, str ([48] : List UInt8))] ?_; intro aI aj
   exact r_ (h_ (ra1 aj (str ([48] : List UInt8)) ⟨(([48] : List UInt8), u1, u2, u3), Z, rfl, ai, h, a.kp⟩))
  · -- no
   have ak := m.2 u
   refine k_ (sqH ?_); intro al O
   refine bt f a 2 [] [] [(22, str (takebitsS u0 (w64 ((u1.length : Int) + 1))).1), (23, i6 (takebitsS u0 (w64 ((u1.length : Int) + 1))).2.1)] ?_; intro aJ n
   refine sx n a 0 [str (takebitsS u0 (w64 ((u1.length : Int) + 1))).1] 0 ?_; intro aK P
   refine sx n P 2 [i6 (takebitsS u0 (w64 ((u1.length : Int) + 1))).2.1] 0 ?_; intro am Q
   have R : Mem B [] w0 Z0 ((.row b4 [str (takebitsS u0 (w64 ((u1.length : Int) + 1))).1] 9) :: (.row b5 [i6 u2] 25) :: (.row b6 [i6 (takebitsS u0 (w64 ((u1.length : Int) + 1))).2.1] 3) :: Rr) Z am := Q
   apply O
   refine sqH ?_; intro an S
   refine bt n R 4 [] [] [(24, str (takebitsS u0 (w64 ((u1.length : Int) + 1))).1), (27, i6 (w64 (((takebitsS u0 (w64 ((u1.length : Int) + 1))).1.length : Int) - 1)))] ?_; intro aL v
   obtain ⟨ao, ap⟩ := ak
   refine u_ v (str ((takebitsS u0 (w64 ((u1.length : Int) + 1))).1.drop (w64 (((takebitsS u0 (w64 ((u1.length : Int) + 1))).1.length : Int) - 1)).toNat)) (strslL_run v (g := []) (k := .i64) rfl (by kernel_rfl) (by kernel_rfl) (by kernel_rfl) ao rfl) ?_; intro aM T
   refine s1 T 4 (str ((takebitsS u0 (w64 ((u1.length : Int) + 1))).1.drop (w64 (((takebitsS u0 (w64 ((u1.length : Int) + 1))).1.length : Int) - 1)).toNat)) ?_; intro aN aq
   apply S
   exact r_ (ra1 aq (str ((takebitsS u0 (w64 ((u1.length : Int) + 1))).1.drop (w64 (((takebitsS u0 (w64 ((u1.length : Int) + 1))).1.length : Int) - 1)).toNat)) ⟨((takebitsS u0 (w64 ((u1.length : Int) + 1))).1.drop (w64 (((takebitsS u0 (w64 ((u1.length : Int) + 1))).1.length : Int) - 1)).toNat, (takebitsS u0 (w64 ((u1.length : Int) + 1))).1, u2, (takebitsS u0 (w64 ((u1.length : Int) + 1))).2.1), Z, rfl, ap, h, R.kp⟩)
theorem rbm_walk (u0 : Bool) (u1 : Int) (u2 : Int) (b1 : Nat) (B : Nat) (w0 : World) (Z0 : Fz) (Rr : List Res) (Z : Fz) (w : World) (hM0 : Mem B [] w0 Z0 ((.row b1 [i6 u2] 25) :: Rr) Z w) (hZ : Z.on w) {K : Int → Prop} (hp : rbm_vc u0 u1 u2 K) : Calls Tryz.prog 33 #[.bool u0, i6 u1, pt b1 0] w fun e w' => ∃ (r : Int) (Z' : Fz), e = .returned (.tuple #[]) ∧ K r ∧ Fz.le Z Z' ∧ Mem B [] w0 Z0 ((.row b1 [i6 r] 25) :: Rr) Z' w' := by
 refine enter0 Tryz.func33 rfl rfl (by kernel_rfl) ?_; intro n d; have f := Fz.le.refl Z
 refine sqB d hM0 [0] [] [(10, .bool ((u2 == 0) && (!u0)))] ?_; intro o a
 refine cd a (t := (u2 == 0) && (!u0)) (by kernel_rfl) (fun b => ?_) (fun b => ?_)
 · -- yes
  have i := hp.1 b
  refine rgH ?_; intro j g
  refine s1 a 11 (i6 u1) ?_; intro p c
  refine sx c hM0 0 [i6 u1] 0 ?_; intro k h
  have l : Mem B [] w0 Z0 ((.row b1 [i6 u1] 25) :: Rr) Z k := h
  apply g
  refine rN (fn := Tryz.f33) (v := .tuple #[]) c (re0 c (fn := Tryz.f33) rfl) ?_
  exact ⟨u1, Z, rfl, i, f, l.kp⟩
 · -- no
  have m := hp.2 b
  refine l_ (rN (fn := Tryz.f33) (v := .tuple #[]) a (re0 a (fn := Tryz.f33) rfl) ?_)
  exact ⟨u2, Z, rfl, m, f, hM0.kp⟩
theorem rbp_walk (u0 : Int) (u1 : Int) (u2 : Int) (u3 : List UInt8) (b1 : Nat) (b2 : Nat) (cb3 co4 : Nat) (B : Nat) (w0 : World) (Z0 : Fz) (Rr : List Res) (Z : Fz) (w : World) (hP5 : PtR Z cb3 co4 [str u3]) (hM0 : Mem B [] w0 Z0 ((.row b1 [i6 u1] 25) :: (.row b2 [i6 u2] 3) :: Rr) Z w) (hZ : Z.on w) {K : ((List UInt8) × Int × Int) → Prop} (hp : rbp_vc u0 u1 u2 u3 K) : Calls Tryz.prog 36 #[i6 u0, pt b1 0, pt b2 0, pt cb3 co4] w fun e w' => ∃ (r : (List UInt8) × Int × Int) (Z' : Fz), e = .returned (str r.1) ∧ K r ∧ Fz.le Z Z' ∧ Mem B [] w0 Z0 ((.row b1 [i6 r.2.1] 25) :: (.row b2 [i6 r.2.2] 3) :: Rr) Z' w' := by
 refine enter0 Tryz.func36 rfl rfl (by kernel_rfl) ?_; intro a0 y; have f := Fz.le.refl Z
 refine sqB y hM0 [] [] [] ?_; intro a7 z
 refine s_ (sqH ?_); intro T A
 refine l1 z hM0 6 0 0 (i6 u1) rfl rfl ?_; intro ai C
 refine s1 C 7 (.bool (u1 == 0)) ?_; intro aj D
 refine s1 D 8 (.bool (u1 == 0)) ?_; intro ak E
 have h := E.atom ((u1 == 0) == true) (by kernel_rfl)
 refine gd h (i6 u2) (m := 0) (cj := []) (bj := u1 == 0) rfl rfl (by kernel_rfl) rfl (by kernel_rfl) (by kernel_rfl) (by kernel_rfl) (fun hg => ld h hM0 1 (g := [0]) (b := b2) (off := 0) (cs := [i6 u2]) (ty := 3) rfl (by kernel_rfl) (by kernel_rfl) (by kernel_rfl) (by kernel_rfl) hg) ?_; intro al F
 refine gp F 10 0 [] (u1 == 0) (i6 u0) rfl rfl ?_; intro am G
 refine gp G 11 0 [] (u1 == 0) (i6 (w64 (u2 + u0))) rfl rfl ?_; intro an i
 refine gd i (str u3) (m := 0) (cj := []) (bj := u1 == 0) rfl rfl (by kernel_rfl) rfl (by kernel_rfl) (by kernel_rfl) (by kernel_rfl) (fun hg => lz i hM0.fz hP5 0 (g := [0]) rfl (by kernel_rfl) (by kernel_rfl) (by kernel_rfl) hg) ?_; intro ao H
 refine gp H 13 0 [] (u1 == 0) (i6 (u3.length : Int)) rfl rfl ?_; intro ap I
 refine gp I 14 0 [] (u1 == 0) (.bool (decide ((w64 (u2 + u0)) > (u3.length : Int)))) rfl rfl ?_; intro aq j
 refine u_ j (.bool ((u1 == 0) && (decide ((w64 (u2 + u0)) > (u3.length : Int))))) (pk_and j (g := []) (m := 0) (b := u1 == 0) (v := decide ((w64 (u2 + u0)) > (u3.length : Int))) rfl (by kernel_rfl) (by kernel_rfl) (by kernel_rfl) rfl) ?_; intro J a
 apply A
 refine cd a (t := (u1 == 0) && (decide ((w64 (u2 + u0)) > (u3.length : Int)))) (by kernel_rfl) (fun l => ?_) (fun l => ?_)
 · -- yes
  have U := hp.1 l
  have n : Fr 27 [] [⟨0, [], i6 u0⟩, ⟨1, [], pt b1 0⟩, ⟨2, [], pt b2 0⟩, ⟨3, [], pt cb3 co4⟩] J := a.reg
  refine rgH ?_; intro V L
  refine sx n hM0 0 [i6 7] 0 ?_; intro W M
  have o : Mem B [] w0 Z0 ((.row b1 [i6 7] 25) :: (.row b2 [i6 u2] 3) :: Rr) Z W := M
  apply L
  refine t_ (s_ (sqB n o [0] [] [(17, .bool true)] ?_)); intro ar p
  refine cdT p (by kernel_rfl) ?_
  refine sqB p o [] [] [(5, str [])] ?_; intro au X
  exact r_ (h_ (ra1 X (str []) ⟨([], 7, u2), Z, rfl, U, f, o.kp⟩))
 · -- no
  have d := hp.2 l
  refine k_ (s_ ?_)
  have N : Fr 27 [] [⟨0, [], i6 u0⟩, ⟨1, [], pt b1 0⟩, ⟨2, [], pt b2 0⟩, ⟨3, [], pt cb3 co4⟩] J := a.reg
  refine sqB N hM0 [0] [] [(17, .bool (u1 != 0))] ?_; intro av c
  refine cd c (t := u1 != 0) (by kernel_rfl) (fun q => ?_) (fun q => ?_)
  · -- yes
   have Y := d.1 q
   refine sqB c hM0 [] [] [(5, str [])] ?_; intro aw aa
   exact r_ (h_ (ra1 aa (str []) ⟨([], u1, u2), Z, rfl, Y, f, hM0.kp⟩))
  · -- no
   have ab := d.2 q
   refine k_ (sqH ?_); intro ac O
   refine bt c hM0 3 [1] [] [(20, i6 (w64 (u2 + u0)))] ?_; intro ax s
   refine sx s hM0 1 [i6 (w64 (u2 + u0))] 0 ?_; intro ad P
   have u : Mem B [] w0 Z0 ((.row b1 [i6 u1] 25) :: (.row b2 [i6 (w64 (u2 + u0))] 3) :: Rr) Z ad := P
   apply O
   refine sqH ?_; intro ae Q
   refine z1 s u 21 hP5 0 (str u3) rfl ?_; intro ay R
   refine bt R u 4 [1, 1] [] [(24, i6 (w64 ((w64 (u2 + u0)) - u0))), (25, i6 (w64 (u2 + u0)))] ?_; intro az x
   obtain ⟨af, ag⟩ := ab
   refine u_ x (str ((u3.take (w64 (u2 + u0)).toNat).drop (w64 ((w64 (u2 + u0)) - u0)).toNat)) (strslI_run x (g := []) (k := .i64) (k' := .i64) rfl (by kernel_rfl) (by kernel_rfl) (by kernel_rfl) (by kernel_rfl) af rfl) ?_; intro aA S
   refine s1 S 5 (str ((u3.take (w64 (u2 + u0)).toNat).drop (w64 ((w64 (u2 + u0)) - u0)).toNat)) ?_; intro aB ah
   apply Q
   exact r_ (ra1 ah (str ((u3.take (w64 (u2 + u0)).toNat).drop (w64 ((w64 (u2 + u0)) - u0)).toNat)) ⟨((u3.take (w64 (u2 + u0)).toNat).drop (w64 ((w64 (u2 + u0)) - u0)).toNat, u1, w64 (u2 + u0)), Z, rfl, ag, f, u.kp⟩)
end Go.Proofs.YtmnlahbngbigdaaGreatDoor
set_option linter.unusedVariables false
set_option linter.unusedSimpArgs false
set_option linter.defProp false
set_option maxRecDepth 100000
set_option maxHeartbeats 0
namespace Go.Proofs.YtmnlahbngbigdaaGreatDoor
open Go.Sy Go.RowKit
def rcheckrow_fun (u0 : List UInt8)  (Z : Fz) (w : World)  (hZ : Z.on w) := f_ (rcheckrow_walk u0  Z w  hZ (rcheckrow_ok u0))
def nofr_fun (u0 : Frame) (ao1 : Option Addr) (cap2 : Nat) (Z : Fz) (w : World) (hs3 : SlR t8 Z ao1 cap2 u0.Data) (hZ : Z.on w) := f_ (nofr_walk u0 ao1 cap2 Z w hs3 hZ (nofr_ok u0))
theorem rbb_fun (u0 : List UInt8) (u1 : List UInt8) (u2 : Int) (u3 : Int) (hpre : rbpre u0 u1) (cb1 co2 : Nat) (b4 : Nat) (b5 : Nat) (b6 : Nat) (B : Nat) (w0 : World) (Z0 : Fz) (Rr : List Res) (Z : Fz) (w : World) (hP3 : PtR Z cb1 co2 [str u0]) (hM0 : Mem B [] w0 Z0 ((.row b4 [str u1] 9) :: (.row b5 [i6 u2] 25) :: (.row b6 [i6 u3] 3) :: Rr) Z w) (hZ : Z.on w) : Calls Tryz.prog 30 #[pt cb1 co2, pt b4 0, pt b5 0, pt b6 0] w fun e w' => ∃ (Z' : Fz), e = .returned (str (rbbS u0 u1 u2 u3).1) ∧ Fz.le Z Z' ∧ Mem B [] w0 Z0 ((.row b4 [str (rbbS u0 u1 u2 u3).2.1] 9) :: (.row b5 [i6 (rbbS u0 u1 u2 u3).2.2.1] 25) :: (.row b6 [i6 (rbbS u0 u1 u2 u3).2.2.2] 3) :: Rr) Z' w' :=
 (rbb_walk u0 u1 u2 u3 cb1 co2 b4 b5 b6 B w0 Z0 Rr Z w hP3 hM0 hZ (rbb_ok u0 u1 u2 u3 hpre)).mono fun _ _ ⟨r, h0, he, hk, f0, hm⟩ => by subst hk; exact ⟨h0, he, f0, hm⟩
theorem rbm_fun (u0 : Bool) (u1 : Int) (u2 : Int) (b1 : Nat) (B : Nat) (w0 : World) (Z0 : Fz) (Rr : List Res) (Z : Fz) (w : World) (hM0 : Mem B [] w0 Z0 ((.row b1 [i6 u2] 25) :: Rr) Z w) (hZ : Z.on w) : Calls Tryz.prog 33 #[.bool u0, i6 u1, pt b1 0] w fun e w' => ∃ (Z' : Fz), e = .returned (.tuple #[]) ∧ Fz.le Z Z' ∧ Mem B [] w0 Z0 ((.row b1 [i6 (rbmS u0 u1 u2)] 25) :: Rr) Z' w' :=
 (rbm_walk u0 u1 u2 b1 B w0 Z0 Rr Z w hM0 hZ (rbm_ok u0 u1 u2)).mono fun _ _ ⟨r, h0, he, hk, f0, hm⟩ => by subst hk; exact ⟨h0, he, f0, hm⟩
theorem rbp_fun (u0 : Int) (u1 : Int) (u2 : Int) (u3 : List UInt8) (hpre : rppre u0 u2 u3) (b1 : Nat) (b2 : Nat) (cb3 co4 : Nat) (B : Nat) (w0 : World) (Z0 : Fz) (Rr : List Res) (Z : Fz) (w : World) (hP5 : PtR Z cb3 co4 [str u3]) (hM0 : Mem B [] w0 Z0 ((.row b1 [i6 u1] 25) :: (.row b2 [i6 u2] 3) :: Rr) Z w) (hZ : Z.on w) : Calls Tryz.prog 36 #[i6 u0, pt b1 0, pt b2 0, pt cb3 co4] w fun e w' => ∃ (Z' : Fz), e = .returned (str (rbpS u0 u1 u2 u3).1) ∧ Fz.le Z Z' ∧ Mem B [] w0 Z0 ((.row b1 [i6 (rbpS u0 u1 u2 u3).2.1] 25) :: (.row b2 [i6 (rbpS u0 u1 u2 u3).2.2] 3) :: Rr) Z' w' :=
 (rbp_walk u0 u1 u2 u3 b1 b2 cb3 co4 B w0 Z0 Rr Z w hP5 hM0 hZ (rbp_ok u0 u1 u2 u3 hpre)).mono fun _ _ ⟨r, h0, he, hk, f0, hm⟩ => by subst hk; exact ⟨h0, he, f0, hm⟩
theorem rbn_walk (u0 : Int) (v0 : List UInt8) (v1 : List UInt8) (v2 : Int) (v3 : Int) (cb1 co2 : Nat) (cb4 co5 : Nat) (b6 : Nat) (b7 : Nat) (b8 : Nat) (B : Nat) (w0 : World) (Z0 : Fz) (Rr : List Res) (Z : Fz) (w : World) (hP3 : PtR Z cb1 co2 [.func (.func 30) #[] #[pt cb4 co5, pt b6 0, pt b7 0, pt b8 0]]) (hP9 : PtR Z cb4 co5 [str v0]) (hM0 : Mem B [] w0 Z0 ((.row b6 [str v1] 9) :: (.row b7 [i6 v2] 25) :: (.row b8 [i6 v3] 3) :: Rr) Z w) (hZ : Z.on w) {K : (Int × (List UInt8) × Int × Int) → Prop} (hp : rbn_vc u0 v0 v1 v2 v3 K) : Calls Tryz.prog 32 #[i6 u0, pt cb1 co2] w fun e w' => ∃ (r : Int × (List UInt8) × Int × Int) (Z' : Fz), e = .returned (i6 r.1) ∧ K r ∧ Fz.le Z Z' ∧ Mem B [] w0 Z0 ((.row b6 [str r.2.1] 9) :: (.row b7 [i6 r.2.2.1] 25) :: (.row b8 [i6 r.2.2.2] 3) :: Rr) Z' w' := by
 refine enter0 Tryz.func32 rfl rfl (by kernel_rfl) ?_; intro a0 y; have d := Fz.le.refl Z
 refine sqB y hM0 [] [] [] ?_; intro ap z
 refine sqB z hM0 [] [] [(4, i6 0)] ?_; intro aq A
 refine s_ (sqB A hM0 [] [] [(5, i6 u0), (6, i6 0)] ?_); intro C D
 apply b_
 have E : Fr 18 [] [⟨1, [], pt cb1 co2⟩, ⟨4, [], i6 0⟩, ⟨5, [], i6 u0⟩, ⟨6, [], i6 0⟩] C := D.reg
 obtain ⟨W, X, Y, aa⟩ := hp
 refine lp (ι := Int × Int × (List UInt8) × Int × Int × Fz) (fun s => [⟨1, [], pt cb1 co2⟩, ⟨4, [], i6 s.1⟩, ⟨5, [], i6 u0⟩, ⟨6, [], i6 s.2.1⟩]) (fun s => ((.row b6 [str s.2.2.1] 9) :: (.row b7 [i6 s.2.2.2.1] 25) :: (.row b8 [i6 s.2.2.2.2.1] 3) :: Rr)) (fun s => s.2.2.2.2.2) (fun s => W s.1 s.2.1 s.2.2.1 s.2.2.2.1 s.2.2.2.2.1 ∧ Fz.le Z s.2.2.2.2.2) (fun s => X s.1 s.2.1 s.2.2.1 s.2.2.2.1 s.2.2.2.2.1) ⟨0, 0, v1, v2, v3, Z⟩ ⟨Y, Fz.le.refl _⟩ (by exact E.region (by kernel_rfl) (by kernel_rfl)) (by exact hM0) ?_
 rintro ⟨a, f, i, j, k, G⟩ ⟨ab, g⟩ ac ad H I
 have l := aa a f i j k ab
 replace d := Fz.le.trans d g
 have n := hP3.mono g
 have o := hP9.mono g
 refine sqB H I [] [] [(7, .bool (decide (f < u0)))] ?_; intro au h
 apply s_
 refine cd h (t := decide (f < u0)) (by kernel_rfl) (fun p => ?_) (fun p => ?_)
 · -- yes
  have ae := l.1 p
  refine k_ (s_ (b_ (rgH ?_))); intro af L
  refine bt h I 2 [] [] [(9, i6 (w64 (2 * a)))] ?_; intro av M
  refine z1 M I 10 n 0 (.func (.func 30) #[] #[pt cb4 co5, pt b6 0, pt b7 0, pt b8 0]) rfl ?_; intro aw N
  obtain ⟨ag, O⟩ := ae
  refine ck N 30 #[pt cb4 co5, pt b6 0, pt b7 0, pt b8 0] ?_
  obtain ⟨c, ah, ai⟩ := hxq O
  have u := rbb_fun v0 i j k ag cb4 co5 b6 b7 b8 _ _ _ _ _ _ o I I.fz; rw [ah] at u; refine u.mono ?_; rintro _ aj ⟨P, rfl, m, hm⟩; refine ⟨_, rfl, ?_⟩; intro ax Q; have R := hm
  replace g := g.mono m
  have v : Mem B [] w0 Z0 ((.row b6 [str c.2.1] 9) :: (.row b7 [i6 c.2.2.1] 25) :: (.row b8 [i6 c.2.2.2] 3) :: Rr) P aj := R
  obtain ⟨ak, al⟩ := ai
  obtain ⟨x, S⟩ : ∃ q, c.1[(0 : Int).toNat]? = some q := ⟨_, List.getElem?_eq_getElem (by omega)⟩; have T := al x S
  refine si Q .i64 ak.1 S ?_; intro ay U
  refine bt U v 4 [] [] [(4, i6 (w64 ((w64 (2 * a)) + (w64 (w8 ((x.toNat : Int) - 48))))))] ?_; intro az V
  apply L
  refine j_ (t_ (rgB V v [] [] [(6, i6 (w64 (f + 1)))] ?_)); intro aA am
  exact d_ ⟨⟨w64 ((w64 (2 * a)) + (w64 (w8 ((x.toNat : Int) - 48)))), w64 (f + 1), c.2.1, c.2.2.1, c.2.2.2, P⟩, ⟨T.1, g⟩, T.2, (am.region (by kernel_rfl) (by kernel_rfl)).anyβ _ (by kernel_rfl), v.kp⟩
 · -- no
  have an := l.2 p
  refine x_ (y_ (y_ (z_ (t_ (sqB h I [] [] [(3, i6 a)] ?_))))); intro aB ao
  exact r_ (ra1 ao (i6 a) ⟨(a, i, j, k), G, rfl, an, d, I.kp⟩)
end Go.Proofs.YtmnlahbngbigdaaGreatDoor
set_option linter.unusedVariables false
set_option linter.unusedSimpArgs false
set_option maxRecDepth 100000
set_option maxHeartbeats 0
namespace Go.Proofs.YtmnlahbngbigdaaGreatDoor
open Go.Sy Go.RowKit
abbrev e24Sc (X : Frame) (A0 : Option Addr) (C0 : Nat) : List Value := [i6 X.ID, .bool X.Long, .bool X.Fast, .bool X.Remote, i6 X.Size, .slice A0 X.Data.length C0]
theorem rbn_fun (u0 : Int) (v0 : List UInt8) (v1 : List UInt8) (v2 : Int) (v3 : Int) (hpre : rnpre u0 v0 v1) (cb1 co2 : Nat) (cb4 co5 : Nat) (b6 : Nat) (b7 : Nat) (b8 : Nat) (B : Nat) (w0 : World) (Z0 : Fz) (Rr : List Res) (Z : Fz) (w : World) (hP3 : PtR Z cb1 co2 [.func (.func 30) #[] #[pt cb4 co5, pt b6 0, pt b7 0, pt b8 0]]) (hP9 : PtR Z cb4 co5 [str v0]) (hM0 : Mem B [] w0 Z0 ((.row b6 [str v1] 9) :: (.row b7 [i6 v2] 25) :: (.row b8 [i6 v3] 3) :: Rr) Z w) (hZ : Z.on w) : Calls Tryz.prog 32 #[i6 u0, pt cb1 co2] w fun e w' => ∃ (Z' : Fz), e = .returned (i6 (rbnS u0 v0 v1 v2 v3).1) ∧ Fz.le Z Z' ∧ Mem B [] w0 Z0 ((.row b6 [str (rbnS u0 v0 v1 v2 v3).2.1] 9) :: (.row b7 [i6 (rbnS u0 v0 v1 v2 v3).2.2.1] 25) :: (.row b8 [i6 (rbnS u0 v0 v1 v2 v3).2.2.2] 3) :: Rr) Z' w' :=
 (rbn_walk u0 v0 v1 v2 v3 cb1 co2 cb4 co5 b6 b7 b8 B w0 Z0 Rr Z w hP3 hP9 hM0 hZ (rbn_ok u0 v0 v1 v2 v3 hpre)).mono fun _ _ ⟨r, h0, he, hk, f0, hm⟩ => by subst hk; exact ⟨h0, he, f0, hm⟩
theorem rreadbits_walk (u0 : List UInt8)  (Z : Fz) (w : World) (hg5 : SlR t8 Z (sm 5) 64 deBruijn64) (hZ : Z.on w) {K : (Frame × Int × Int) → Prop} (hp : rreadbits_vc u0 K) : Calls Tryz.prog 9 #[str u0] w fun e w' => ∃ (r : Frame × Int × Int) (ao1001 : Option Addr) (cap1002 : Nat) (Z' : Fz), e = .returned (.tuple #[.agg #[i6 r.1.ID, .bool r.1.Long, .bool r.1.Fast, .bool r.1.Remote, i6 r.1.Size, .slice ao1001 r.1.Data.length cap1002], i6 r.2.1, i6 r.2.2]) ∧ K r ∧ SlR t8 Z' ao1001 cap1002 r.1.Data ∧ Mem w.heap.size [] w Z [] Z' w' := by
 refine enter0 Tryz.func9 rfl rfl (by kernel_rfl) ?_; intro a0 eg; have eh := Mem.start w Z hZ
 refine sqH ?_; intro jS ei
 refine nw eg eh pb [str u0] 9 ?_; intro p a3 or ej ek
 refine nw ej ek pb [i6 0, .bool false, .bool false, .bool false, i6 0, .slice none 0 0] 24 ?_; intro m a8 os el dd
 refine bt el dd 2 [] [] [] ?_; intro ot em
 apply ei
 refine sqH ?_; intro jT en
 refine nw em dd pb [i6 0, .bool false, .bool false, .bool false, i6 0, .slice none 0 0] 24 ?_; intro j ou ov eo ep
 apply en
 refine sqH ?_; intro jU eq
 refine nw eo ep pb [i6 0] 3 ?_; intro h ow ox de er
 refine sx de er 0 [i6 0] 0 ?_; intro jV es
 have et : Mem w.heap.size [] w Z [.row h [i6 0] 3, .row j [i6 0, .bool false, .bool false, .bool false, i6 0, .slice none 0 0] 24, .row m [i6 0, .bool false, .bool false, .bool false, i6 0, .slice none 0 0] 24, .row p [str u0] 9] Z jV := es
 apply eq
 refine sqH ?_; intro jW eu
 refine nw de et pb [i6 0] 25 ?_; intro a oy oz df ev
 refine sx df ev 0 [i6 0] 0 ?_; intro jX ew
 have ex : Mem w.heap.size [] w Z [.row a [i6 0] 25, .row h [i6 0] 3, .row j [i6 0, .bool false, .bool false, .bool false, i6 0, .slice none 0 0] 24, .row m [i6 0, .bool false, .bool false, .bool false, i6 0, .slice none 0 0] 24, .row p [str u0] 9] Z jX := ew
 apply eu
 refine sqH ?_; intro jY ey
 refine nw df ex pb [str []] 9 ?_; intro i oA oB dg ez
 refine sx dg ez 0 [str []] 0 ?_; intro jZ eA
 have eB : Mem w.heap.size [] w Z [.row i [str []] 9, .row a [i6 0] 25, .row h [i6 0] 3, .row j [i6 0, .bool false, .bool false, .bool false, i6 0, .slice none 0 0] 24, .row m [i6 0, .bool false, .bool false, .bool false, i6 0, .slice none 0 0] 24, .row p [str u0] 9] Z jZ := eA
 apply ey
 refine sqH ?_; intro j0 eC
 refine s1 dg 23 (.func (.func 30) #[] #[pt p 0, pt i 0, pt a 0, pt h 0]) ?_; intro oC eD
 refine nw eD eB pb [.nilFunc] 60 ?_; intro B oD oE dh eE
 refine sx dh eE 0 [.func (.func 30) #[] #[pt p 0, pt i 0, pt a 0, pt h 0]] 0 ?_; intro eF eG
 have b8 : Mem w.heap.size [] w Z [.row B [.func (.func 30) #[] #[pt p 0, pt i 0, pt a 0, pt h 0]] 60, .row i [str []] 9, .row a [i6 0] 25, .row h [i6 0] 3, .row j [i6 0, .bool false, .bool false, .bool false, i6 0, .slice none 0 0] 24, .row m [i6 0, .bool false, .bool false, .bool false, i6 0, .slice none 0 0] 24, .row p [str u0] 9] Z eF := eG
 apply eC
 refine sqB dh b8 [] [] [(10, .func (.func 32) #[] #[pt B 0])] ?_; intro oF eH
 refine sqB eH b8 [] [] [(11, .func (.func 33) #[] #[pt a 0])] ?_; intro oG eI
 refine sqH ?_; intro j1 eJ
 refine bt eI b8 2 [0] [] [(26, .func (.func 33) #[] #[pt a 0]), (27, .func (.func 30) #[] #[pt p 0, pt i 0, pt a 0, pt h 0])] ?_; intro oH eK
 obtain ⟨j2, eM, eN, M⟩ := b8.freezeRow 6 rfl
 replace hg5 := hg5.mono eM
 have di : Mem w.heap.size [] w Z [.row B [.func (.func 30) #[] #[pt p 0, pt i 0, pt a 0, pt h 0]] 60, .row i [str []] 9, .row a [i6 0] 25, .row h [i6 0] 3, .row j [i6 0, .bool false, .bool false, .bool false, i6 0, .slice none 0 0] 24, .row m [i6 0, .bool false, .bool false, .bool false, i6 0, .slice none 0 0] 24] j2 eF := eN
 obtain ⟨j3, eO⟩ := hp
 refine ck eK 30 #[pt p 0, pt i 0, pt a 0, pt h 0] ?_
 obtain ⟨ae, j4, eP⟩ := hxq eO
 have l := rbb_fun u0 [] 0 0 j3 p 0 i a h _ _ _ _ _ _ M (di.perm ((pk 1 rfl).trans (((pk 1 rfl).trans (((pk 1 rfl).trans (lpr.cons _)).cons _)).cons _))) di.fz; rw [j4] at l; refine l.mono ?_; rintro _ j5 ⟨j6, rfl, dj, hm⟩; refine ⟨_, rfl, ?_⟩; intro oI eQ; have eR := hm
 replace hg5 := hg5.mono dj
 replace M := M.mono dj
 have dk : Mem w.heap.size [] w Z [.row i [str ae.2.1] 9, .row a [i6 ae.2.2.1] 25, .row h [i6 ae.2.2.2] 3, .row B [.func (.func 30) #[] #[pt p 0, pt i 0, pt a 0, pt h 0]] 60, .row j [i6 0, .bool false, .bool false, .bool false, i6 0, .slice none 0 0] 24, .row m [i6 0, .bool false, .bool false, .bool false, i6 0, .slice none 0 0] 24] j6 j5 := eR
 refine sc eQ .eql (.bool (ae.1 == ([48] : List UInt8))) ?_; intro oJ eT
 refine ck eT 33 #[.bool (ae.1 == ([48] : List UInt8)), i6 4, pt a 0] ?_
 obtain ⟨dl, j7, j8⟩ := hxq eP
 have l := rbm_fun (ae.1 == ([48] : List UInt8)) 4 ae.2.2.1 a _ _ _ _ _ _ (dk.perm (pk 1 rfl)) dk.fz; rw [j7] at l; refine l.mono ?_; rintro _ eU ⟨j9, rfl, dm, hm⟩; refine ⟨_, rfl, ?_⟩; intro oK eV; have eW := hm
 replace hg5 := hg5.mono dm
 replace M := M.mono dm
 have ka : Mem w.heap.size [] w Z [.row a [i6 dl] 25, .row i [str ae.2.1] 9, .row h [i6 ae.2.2.2] 3, .row B [.func (.func 30) #[] #[pt p 0, pt i 0, pt a 0, pt h 0]] 60, .row j [i6 0, .bool false, .bool false, .bool false, i6 0, .slice none 0 0] 24, .row m [i6 0, .bool false, .bool false, .bool false, i6 0, .slice none 0 0] 24] j9 eU := eW
 apply eJ
 refine sqH ?_; intro kb eX
 refine s1 eV 31 (.func (.func 32) #[] #[pt B 0]) ?_; intro oL eY
 obtain ⟨kc, dn, eZ, R⟩ := ka.freezeRow 3 rfl
 replace hg5 := hg5.mono dn
 replace M := M.mono dn
 have dp : Mem w.heap.size [] w Z [.row a [i6 dl] 25, .row i [str ae.2.1] 9, .row h [i6 ae.2.2.2] 3, .row j [i6 0, .bool false, .bool false, .bool false, i6 0, .slice none 0 0] 24, .row m [i6 0, .bool false, .bool false, .bool false, i6 0, .slice none 0 0] 24] kc eU := eZ
 obtain ⟨kd, e0⟩ := j8
 refine ck eY 32 #[i6 11, pt B 0] ?_
 obtain ⟨F, ke, kf⟩ := hxq e0
 have l := rbn_fun 11 u0 ae.2.1 dl ae.2.2.2 kd B 0 p 0 i a h _ _ _ _ _ _ R M (dp.perm ((pk 1 rfl).trans (lpr.cons _))) dp.fz; rw [ke] at l; refine l.mono ?_; rintro _ kg ⟨e1, rfl, b9, hm⟩; refine ⟨_, rfl, ?_⟩; intro oM e2; have e3 := hm
 replace hg5 := hg5.mono b9
 replace M := M.mono b9
 replace R := R.mono b9
 have e4 : Mem w.heap.size [] w Z [.row i [str F.2.1] 9, .row a [i6 F.2.2.1] 25, .row h [i6 F.2.2.2] 3, .row j [i6 0, .bool false, .bool false, .bool false, i6 0, .slice none 0 0] 24, .row m [i6 0, .bool false, .bool false, .bool false, i6 0, .slice none 0 0] 24] e1 kg := e3
 refine s1 e2 33 (pt j 0) ?_; intro oN dq
 refine sx dq e4 3 [i6 F.1, .bool false, .bool false, .bool false, i6 0, .slice none 0 0] 0 ?_; intro kh e5
 have ca : Mem w.heap.size [] w Z [.row i [str F.2.1] 9, .row a [i6 F.2.2.1] 25, .row h [i6 F.2.2.2] 3, .row j [i6 F.1, .bool false, .bool false, .bool false, i6 0, .slice none 0 0] 24, .row m [i6 0, .bool false, .bool false, .bool false, i6 0, .slice none 0 0] 24] e1 kh := e5
 apply eX
 refine sqH ?_; intro ki e6
 refine z1 dq ca 34 R 0 (.func (.func 30) #[] #[pt p 0, pt i 0, pt a 0, pt h 0]) rfl ?_; intro oO e7
 obtain ⟨kj, e8⟩ := kf
 refine ck e7 30 #[pt p 0, pt i 0, pt a 0, pt h 0] ?_
 obtain ⟨N, kk, kl⟩ := hxq e8
 have l := rbb_fun u0 F.2.1 F.2.2.1 F.2.2.2 kj p 0 i a h _ _ _ _ _ _ M ca ca.fz; rw [kk] at l; refine l.mono ?_; rintro _ km ⟨e9, rfl, cb, hm⟩; refine ⟨_, rfl, ?_⟩; intro oP fa; have fb := hm
 replace hg5 := hg5.mono cb
 replace M := M.mono cb
 replace R := R.mono cb
 have dr : Mem w.heap.size [] w Z [.row i [str N.2.1] 9, .row a [i6 N.2.2.1] 25, .row h [i6 N.2.2.2] 3, .row j [i6 F.1, .bool false, .bool false, .bool false, i6 0, .slice none 0 0] 24, .row m [i6 0, .bool false, .bool false, .bool false, i6 0, .slice none 0 0] 24] e9 km := fb
 refine bt fa dr 2 [] [248] [(36, .bool (N.1 == ([49] : List UInt8))), (37, pt j 3)] ?_; intro oQ ds
 refine sx ds dr 3 [i6 F.1, .bool false, .bool false, .bool (N.1 == ([49] : List UInt8)), i6 0, .slice none 0 0] 3 ?_; intro kn fd
 have cc : Mem w.heap.size [] w Z [.row i [str N.2.1] 9, .row a [i6 N.2.2.1] 25, .row h [i6 N.2.2.2] 3, .row j [i6 F.1, .bool false, .bool false, .bool (N.1 == ([49] : List UInt8)), i6 0, .slice none 0 0] 24, .row m [i6 0, .bool false, .bool false, .bool false, i6 0, .slice none 0 0] 24] e9 kn := fd
 apply e6
 refine s_ (sqH ?_); intro ko fe
 refine z1 ds cc 38 R 0 (.func (.func 30) #[] #[pt p 0, pt i 0, pt a 0, pt h 0]) rfl ?_; intro oR ff
 obtain ⟨kp, fg⟩ := kl
 refine ck ff 30 #[pt p 0, pt i 0, pt a 0, pt h 0] ?_
 obtain ⟨z, kq, kr⟩ := hxq fg
 have l := rbb_fun u0 N.2.1 N.2.2.1 N.2.2.2 kp p 0 i a h _ _ _ _ _ _ M cc cc.fz; rw [kq] at l; refine l.mono ?_; rintro _ ks ⟨bv, rfl, ce, hm⟩; refine ⟨_, rfl, ?_⟩; intro oS fh; have fi := hm
 replace hg5 := hg5.mono ce
 replace M := M.mono ce
 replace R := R.mono ce
 have dt : Mem w.heap.size [] w Z [.row i [str z.2.1] 9, .row a [i6 z.2.2.1] 25, .row h [i6 z.2.2.2] 3, .row j [i6 F.1, .bool false, .bool false, .bool (N.1 == ([49] : List UInt8)), i6 0, .slice none 0 0] 24, .row m [i6 0, .bool false, .bool false, .bool false, i6 0, .slice none 0 0] 24] bv ks := fi
 refine bt fh dt 2 [] [252] [(40, .bool (z.1 == ([49] : List UInt8))), (41, pt j 1)] ?_; intro oT du
 refine sx du dt 3 [i6 F.1, .bool (z.1 == ([49] : List UInt8)), .bool false, .bool (N.1 == ([49] : List UInt8)), i6 0, .slice none 0 0] 1 ?_; intro kt fj
 have aY : Mem w.heap.size [] w Z [.row i [str z.2.1] 9, .row a [i6 z.2.2.1] 25, .row h [i6 z.2.2.2] 3, .row j [i6 F.1, .bool (z.1 == ([49] : List UInt8)), .bool false, .bool (N.1 == ([49] : List UInt8)), i6 0, .slice none 0 0] 24, .row m [i6 0, .bool false, .bool false, .bool false, i6 0, .slice none 0 0] 24] bv kt := fj
 apply fe
 refine sqB du aY [3] [] [(43, .bool (z.1 == ([49] : List UInt8)))] ?_; intro fk fl
 have fm : Fr 212 [] [⟨1, [], pt p 0⟩, ⟨2, [], pt m 0⟩, ⟨5, [], pt j 0⟩, ⟨6, [], pt h 0⟩, ⟨7, [], pt a 0⟩, ⟨8, [], pt i 0⟩, ⟨9, [], pt B 0⟩, ⟨10, [], .func (.func 32) #[] #[pt B 0]⟩, ⟨11, [], .func (.func 33) #[] #[pt a 0]⟩, ⟨43, [], .bool (z.1 == ([49] : List UInt8))⟩] fk := fl.reg
 obtain ⟨ku, cf, kv⟩ := kr
 refine wp_then_k fun KJ188 hKJ189 => ?_
 have fo : ∀ (bx : List UInt8) (bz : Int) (bA : Int) (n : Frame) (dv : Fz), ku bx bz bA n ∧ Fz.le bv dv → ∀ a1 w1, Fr 212 [] [⟨1, [], pt p 0⟩, ⟨2, [], pt m 0⟩, ⟨5, [], pt j 0⟩, ⟨6, [], pt h 0⟩, ⟨7, [], pt a 0⟩, ⟨8, [], pt i 0⟩, ⟨9, [], pt B 0⟩, ⟨10, [], .func (.func 32) #[] #[pt B 0]⟩, ⟨11, [], .func (.func 33) #[] #[pt a 0]⟩] a1 → Mem w.heap.size [] w Z [.row i [str bx] 9, .row a [i6 bz] 25, .row h [i6 bA] 3, .row j [i6 n.ID, .bool n.Long, .bool n.Fast, .bool n.Remote, i6 n.Size, .slice none 0 0] 24, .row m [i6 0, .bool false, .bool false, .bool false, i6 0, .slice none 0 0] 24] dv w1 → KJ188 a1 w1 := by
  rintro bx bz bA n dv ⟨kw, O⟩ oU oV fp cg
  refine hKJ189 _ _ ?_
  have kx := kv bx bz bA n kw
  have P := hg5.mono O
  have G := M.mono O
  have H := R.mono O
  refine s_ (sqH ?_); intro ky fq
  refine z1 fp cg 59 H 0 (.func (.func 30) #[] #[pt p 0, pt i 0, pt a 0, pt h 0]) rfl ?_; intro oW fr
  obtain ⟨kz, fs⟩ := kx
  refine ck fr 30 #[pt p 0, pt i 0, pt a 0, pt h 0] ?_
  obtain ⟨D, kA, kB⟩ := hxq fs
  have l := rbb_fun u0 bx bz bA kz p 0 i a h _ _ _ _ _ _ G cg cg.fz; rw [kA] at l; refine l.mono ?_; rintro _ kC ⟨bB, rfl, bC, hm⟩; refine ⟨_, rfl, ?_⟩; intro oX ft; have fu := hm
  replace P := P.mono bC
  replace G := G.mono bC
  replace H := H.mono bC
  have dw : Mem w.heap.size [] w Z [.row i [str D.2.1] 9, .row a [i6 D.2.2.1] 25, .row h [i6 D.2.2.2] 3, .row j [i6 n.ID, .bool n.Long, .bool n.Fast, .bool n.Remote, i6 n.Size, .slice none 0 0] 24, .row m [i6 0, .bool false, .bool false, .bool false, i6 0, .slice none 0 0] 24] bB kC := fu
  refine bt ft dw 2 [] [273] [(61, .bool (D.1 == ([49] : List UInt8))), (62, pt j 2)] ?_; intro oY dx
  refine sx dx dw 3 [i6 n.ID, .bool n.Long, .bool (D.1 == ([49] : List UInt8)), .bool n.Remote, i6 n.Size, .slice none 0 0] 2 ?_; intro kD fv
  have ah : Mem w.heap.size [] w Z [.row i [str D.2.1] 9, .row a [i6 D.2.2.1] 25, .row h [i6 D.2.2.2] 3, .row j [i6 n.ID, .bool n.Long, .bool (D.1 == ([49] : List UInt8)), .bool n.Remote, i6 n.Size, .slice none 0 0] 24, .row m [i6 0, .bool false, .bool false, .bool false, i6 0, .slice none 0 0] 24] bB kD := fv
  apply fq
  refine sqB dx ah [3] [] [(64, .bool (D.1 == ([49] : List UInt8)))] ?_; intro fw fx
  have fy : Fr 212 [] [⟨1, [], pt p 0⟩, ⟨2, [], pt m 0⟩, ⟨5, [], pt j 0⟩, ⟨6, [], pt h 0⟩, ⟨7, [], pt a 0⟩, ⟨8, [], pt i 0⟩, ⟨9, [], pt B 0⟩, ⟨10, [], .func (.func 32) #[] #[pt B 0]⟩, ⟨11, [], .func (.func 33) #[] #[pt a 0]⟩, ⟨64, [], .bool (D.1 == ([49] : List UInt8))⟩] fw := fx.reg
  obtain ⟨kE, ch, kF⟩ := kB
  refine wp_then_k fun KJ233 hKJ234 => ?_
  have dy : ∀ (bD : List UInt8) (bE : Int) (bF : Int) (dz : Fz), kE bD bE bF ∧ Fz.le bB dz → ∀ a1 w1, Fr 212 [] [⟨1, [], pt p 0⟩, ⟨2, [], pt m 0⟩, ⟨5, [], pt j 0⟩, ⟨6, [], pt h 0⟩, ⟨7, [], pt a 0⟩, ⟨8, [], pt i 0⟩, ⟨9, [], pt B 0⟩, ⟨10, [], .func (.func 32) #[] #[pt B 0]⟩, ⟨11, [], .func (.func 33) #[] #[pt a 0]⟩] a1 → Mem w.heap.size [] w Z [.row i [str bD] 9, .row a [i6 bE] 25, .row h [i6 bF] 3, .row j [i6 n.ID, .bool n.Long, .bool (D.1 == ([49] : List UInt8)), .bool n.Remote, i6 n.Size, .slice none 0 0] 24, .row m [i6 0, .bool false, .bool false, .bool false, i6 0, .slice none 0 0] 24] dz w1 → KJ233 a1 w1 := by
   rintro bD bE bF dz ⟨kG, aj⟩ oZ o0 fA dA
   refine hKJ234 _ _ ?_
   have kH := kF bD bE bF kG
   have ba := P.mono aj
   have aZ := G.mono aj
   have a2 := H.mono aj
   refine sqH ?_; intro kI fB
   refine s1 fA 92 (.func (.func 32) #[] #[pt B 0]) ?_; intro o1 fC
   obtain ⟨kJ, fD⟩ := kH
   refine ck fC 32 #[i6 4, pt B 0] ?_
   obtain ⟨E, kK, fE⟩ := hxq fD
   have l := rbn_fun 4 u0 bD bE bF kJ B 0 p 0 i a h _ _ _ _ _ _ a2 aZ dA dA.fz; rw [kK] at l; refine l.mono ?_; rintro _ kL ⟨kM, rfl, bc, hm⟩; refine ⟨_, rfl, ?_⟩; intro o2 fF; have fG := hm
   replace ba := ba.mono bc
   replace aZ := aZ.mono bc
   replace a2 := a2.mono bc
   have ci : Mem w.heap.size [] w Z [.row i [str E.2.1] 9, .row a [i6 E.2.2.1] 25, .row h [i6 E.2.2.2] 3, .row j [i6 n.ID, .bool n.Long, .bool (D.1 == ([49] : List UInt8)), .bool n.Remote, i6 n.Size, .slice none 0 0] 24, .row m [i6 0, .bool false, .bool false, .bool false, i6 0, .slice none 0 0] 24] kM kL := fG
   refine s1 fF 12 (i6 E.1) ?_; intro o3 fH
   apply fB
   refine sqH ?_; intro kN fI
   refine bt fH ci 7 [3] [] [(94, .func (.func 33) #[] #[pt a 0]), (100, .bool ((D.1 == ([49] : List UInt8)) || (decide (E.1 ≤ 8))))] ?_; intro o4 fJ
   refine ck fJ 33 #[.bool ((D.1 == ([49] : List UInt8)) || (decide (E.1 ≤ 8))), i6 4, pt a 0] ?_
   obtain ⟨bG, kO, kP⟩ := hxq fE
   have l := rbm_fun ((D.1 == ([49] : List UInt8)) || (decide (E.1 ≤ 8))) 4 E.2.2.1 a _ _ _ _ _ _ (ci.perm (pk 1 rfl)) ci.fz; rw [kO] at l; refine l.mono ?_; rintro _ fK ⟨aL, rfl, bd, hm⟩; refine ⟨_, rfl, ?_⟩; intro o5 fL; have fM := hm
   replace ba := ba.mono bd
   replace aZ := aZ.mono bd
   replace a2 := a2.mono bd
   have aM : Mem w.heap.size [] w Z [.row a [i6 bG] 25, .row i [str E.2.1] 9, .row h [i6 E.2.2.2] 3, .row j [i6 n.ID, .bool n.Long, .bool (D.1 == ([49] : List UInt8)), .bool n.Remote, i6 n.Size, .slice none 0 0] 24, .row m [i6 0, .bool false, .bool false, .bool false, i6 0, .slice none 0 0] 24] aL fK := fM
   apply fI
   refine s_ (sqB fL aM [3] [] [(103, .bool n.Remote)] ?_); intro fN fO
   have fP : Fr 212 [] [⟨1, [], pt p 0⟩, ⟨2, [], pt m 0⟩, ⟨5, [], pt j 0⟩, ⟨6, [], pt h 0⟩, ⟨7, [], pt a 0⟩, ⟨8, [], pt i 0⟩, ⟨9, [], pt B 0⟩, ⟨10, [], .func (.func 32) #[] #[pt B 0]⟩, ⟨11, [], .func (.func 33) #[] #[pt a 0]⟩, ⟨12, [], i6 E.1⟩, ⟨103, [], .bool n.Remote⟩] fN := fO.reg
   obtain ⟨kQ, cj, kR⟩ := kP
   refine wp_then_k fun KJ301 hKJ302 => ?_
   have dB : ∀ (aw : Int) (W : List UInt8) (bf : Int) (f : Frame) (I : Option Addr) (J : Nat) (aG : Fz), kQ aw W bf f ∧ SlR t8 aG I J f.Data ∧ Fz.le aL aG → ∀ a1 w1, Fr 212 [] [⟨1, [], pt p 0⟩, ⟨2, [], pt m 0⟩, ⟨5, [], pt j 0⟩, ⟨6, [], pt h 0⟩, ⟨7, [], pt a 0⟩, ⟨8, [], pt i 0⟩, ⟨9, [], pt B 0⟩, ⟨11, [], .func (.func 33) #[] #[pt a 0]⟩] a1 → Mem w.heap.size [] w Z [.row a [i6 aw] 25, .row i [str W] 9, .row h [i6 bf] 3, .row j (e24Sc f I J) 24, .row m [i6 0, .bool false, .bool false, .bool false, i6 0, .slice none 0 0] 24] aG w1 → KJ301 a1 w1 := by
    rintro aw W bf f I J aG ⟨kS, fQ, aN⟩ o6 o7 fR a4
    refine hKJ302 _ _ ?_
    have kT := kR aw W bf f kS
    have dC := ba.mono aN
    have fS := aZ.mono aN
    have fT := a2.mono aN
    refine s_ (sqB fR a4 [0, 3] [] [(132, .bool ((aw == 0) && (!f.Fast)))] ?_); intro fW fX
    have fY : Fr 212 [] [⟨1, [], pt p 0⟩, ⟨2, [], pt m 0⟩, ⟨5, [], pt j 0⟩, ⟨6, [], pt h 0⟩, ⟨7, [], pt a 0⟩, ⟨8, [], pt i 0⟩, ⟨9, [], pt B 0⟩, ⟨11, [], .func (.func 33) #[] #[pt a 0]⟩, ⟨132, [], .bool ((aw == 0) && (!f.Fast))⟩] fW := fX.reg
    obtain ⟨kU, cm, kV⟩ := kT
    refine wp_then_k fun KJ336 hKJ337 => ?_
    have fZ : ∀ (C : Int) (A : List UInt8) (y : Int) (bg : Fz), kU C A y ∧ Fz.le aG bg → ∀ a1 w1, Fr 212 [] [⟨1, [], pt p 0⟩, ⟨2, [], pt m 0⟩, ⟨5, [], pt j 0⟩, ⟨6, [], pt h 0⟩, ⟨7, [], pt a 0⟩, ⟨8, [], pt i 0⟩, ⟨11, [], .func (.func 33) #[] #[pt a 0]⟩] a1 → Mem w.heap.size [] w Z [.row a [i6 C] 25, .row i [str A] 9, .row h [i6 y] 3, .row j (e24Sc f I J) 24, .row m [i6 0, .bool false, .bool false, .bool false, i6 0, .slice none 0 0] 24] bg w1 → KJ336 a1 w1 := by
     rintro C A y bg ⟨kW, ai⟩ o8 o9 f0 ax
     refine hKJ337 _ _ ?_
     have kX := kV C A y kW
     have bI := dC.mono ai
     have bh := fS.mono ai
     have cq := fQ.mono ai
     refine sqB f0 ax [] [] [(16, .func (.func 36) #[] #[pt a 0, pt h 0, pt p 0])] ?_; intro pa f1
     refine s_ (sqB f1 ax [0, 3] [] [(153, .bool ((C == 0) && f.Fast))] ?_); intro f2 f3
     have f4 : Fr 212 [] [⟨1, [], pt p 0⟩, ⟨2, [], pt m 0⟩, ⟨5, [], pt j 0⟩, ⟨6, [], pt h 0⟩, ⟨7, [], pt a 0⟩, ⟨8, [], pt i 0⟩, ⟨11, [], .func (.func 33) #[] #[pt a 0]⟩, ⟨16, [], .func (.func 36) #[] #[pt a 0, pt h 0, pt p 0]⟩, ⟨153, [], .bool ((C == 0) && f.Fast)⟩] f2 := f3.reg
     obtain ⟨kY, cs, kZ⟩ := kX
     refine wp_then_k fun KJ376 hKJ377 => ?_
     have f5 : ∀ (ay : Int) (ak : Int) (dD : Fz), kY ay ak ∧ Fz.le bg dD → ∀ a1 w1, Fr 212 [] [⟨2, [], pt m 0⟩, ⟨5, [], pt j 0⟩, ⟨6, [], pt h 0⟩, ⟨7, [], pt a 0⟩, ⟨11, [], .func (.func 33) #[] #[pt a 0]⟩, ⟨16, [], .func (.func 36) #[] #[pt a 0, pt h 0, pt p 0]⟩] a1 → Mem w.heap.size [] w Z [.row a [i6 ay] 25, .row i [str A] 9, .row h [i6 ak] 3, .row j (e24Sc f I J) 24, .row m [i6 0, .bool false, .bool false, .bool false, i6 0, .slice none 0 0] 24] dD w1 → KJ376 a1 w1 := by
      rintro ay ak dD ⟨k0, af⟩ pc pd f6 dE
      refine hKJ377 _ _ ?_
      have k1 := kZ ay ak k0
      have bK := bh.mono af
      have bL := cq.mono af
      refine sqH ?_; intro k2 f7
      refine s1 f6 196 (.func (.func 36) #[] #[pt a 0, pt h 0, pt p 0]) ?_; intro pe f8
      obtain ⟨k3, ga⟩ := k1
      refine ck f8 36 #[i6 10, pt a 0, pt h 0, pt p 0] ?_
      obtain ⟨S, k4, gb⟩ := hxq ga
      have l := rbp_fun 10 ay ak u0 k3 a h p 0 _ _ _ _ _ _ bK (dE.perm (((pk 1 rfl).trans (lpr.cons _)).cons _)) dE.fz; rw [k4] at l; refine l.mono ?_; rintro _ k5 ⟨k6, rfl, az, hm⟩; refine ⟨_, rfl, ?_⟩; intro pf gc; have gd := hm
      replace bL := bL.mono az
      have cz : Mem w.heap.size [] w Z [.row a [i6 S.2.1] 25, .row h [i6 S.2.2] 3, .row i [str A] 9, .row j (e24Sc f I J) 24, .row m [i6 0, .bool false, .bool false, .bool false, i6 0, .slice none 0 0] 24] k6 k5 := gd
      refine s1 gc 22 (str S.1) ?_; intro pg ge
      apply f7
      refine sqH ?_; intro k7 gf
      refine bt ge cz 7 [] [412, 415] [(198, .func (.func 33) #[] #[pt a 0]), (204, .bool ((S.1 == ([49, 49, 49, 49, 49, 49, 49, 49, 49, 49] : List UInt8)) || (S.1 == ([49, 48, 49, 49, 49, 49, 49, 49, 49, 49] : List UInt8))))] ?_; intro ph gg
      refine ck gg 33 #[.bool ((S.1 == ([49, 49, 49, 49, 49, 49, 49, 49, 49, 49] : List UInt8)) || (S.1 == ([49, 48, 49, 49, 49, 49, 49, 49, 49, 49] : List UInt8))), i6 4, pt a 0] ?_
      obtain ⟨aA, k8, cA⟩ := hxq gb
      have l := rbm_fun ((S.1 == ([49, 49, 49, 49, 49, 49, 49, 49, 49, 49] : List UInt8)) || (S.1 == ([49, 48, 49, 49, 49, 49, 49, 49, 49, 49] : List UInt8))) 4 S.2.1 a _ _ _ _ _ _ cz cz.fz; rw [k8] at l; refine l.mono ?_; rintro _ k9 ⟨a5, rfl, aB, hm⟩; refine ⟨_, rfl, ?_⟩; intro pi gh; have gi := hm
      replace bL := bL.mono aB
      have bM : Mem w.heap.size [] w Z [.row a [i6 aA] 25, .row h [i6 S.2.2] 3, .row i [str A] 9, .row j (e24Sc f I J) 24, .row m [i6 0, .bool false, .bool false, .bool false, i6 0, .slice none 0 0] 24] a5 k9 := gi
      apply gf
      refine s_ (sqB gh bM [0] [] [(207, .bool (aA != 0))] ?_); intro gj bN
      refine c_ bN cA (fun _ la => ?_) fun _ lg => ?_
      ·
       have gk : Fr 212 [] [⟨2, [], pt m 0⟩, ⟨7, [], pt a 0⟩] gj := bN.reg
       refine wp_seq (rgS mixed bM [(0, true), (1, true), (2, false), (3, true), (4, true)] [] [0] [.row a [i6 aA] 25] ?_)
       intro lb gl pj gm
       have lc := Fz.le.refl a5
       refine cS gk 2 [0] [] [(208, .agg #[i6 0, .bool false, .bool false, .bool false, i6 0, .slice none 0 0]), (209, i6 aA)] ?_; intro pl dG
       refine eS rfl ?_; intro ld gn
       refine sx dG gm 4 [i6 0, .bool false, .bool false, .bool false, i6 0, .slice none 0 0] 0 ?_; intro lf go
       have dH : Mem w.heap.size [] w Z [.row a [i6 aA] 25, .row h [i6 S.2.2] 3, .row i [str A] 9, .row j (e24Sc f I J) 24, .row m [i6 0, .bool false, .bool false, .bool false, i6 0, .slice none 0 0] 24] a5 lf := go
       refine nl (qnI (gn _ _ (dH.cst lc [0]) ?_))
       refine cS dG 2 [] [] [(3, i6 0), (4, i6 aA)] ?_; intro pm gp
       refine nS (gl _ _ ?_)
       refine t_ (r_ (h_ (rt (fn := Tryz.f9) (v := .tuple #[.agg #[i6 0, .bool false, .bool false, .bool false, i6 0, .slice none 0 0], i6 0, i6 aA]) gp (re3c gp (fn := Tryz.f9) rfl (ad := ⟨m, 0, none⟩) (by kernel_rfl) (loadVar_run dH 4 (b := m) (k := 6) (vs := [i6 0, .bool false, .bool false, .bool false, i6 0, .slice none 0 0]) (ty := 24) rfl (by kernel_rfl) (by kernel_rfl)) (by kernel_rfl) (by kernel_rfl)) ?_)))
       exact ⟨((⟨0, false, false, false, 0, []⟩ : Frame), 0, aA), none, 0, a5, rfl, la, (SlR.nil _ _), dH.kp⟩
      apply k_
      have gq : Fr 212 [] [⟨2, [], pt m 0⟩, ⟨5, [], pt j 0⟩, ⟨6, [], pt h 0⟩] gj := bN.reg
      refine wp_seq (rgS mixed bM [(0, true), (1, true), (2, false), (3, true), (4, true)] [] [3, 1] [.row j (e24Sc f I J) 24, .row h [i6 S.2.2] 3] ?_)
      intro lh gr pn gs
      have li := Fz.le.refl a5
      refine cS gq 2 [0, 1] [] [(210, .agg (e24Sc f I J).toArray), (211, i6 S.2.2)] ?_; intro po dI
      refine eS rfl ?_; intro lj gt
      refine sx dI gs 4 (e24Sc f I J) 0 ?_; intro lk gu
      have dJ : Mem w.heap.size [] w Z [.row a [i6 aA] 25, .row h [i6 S.2.2] 3, .row i [str A] 9, .row j (e24Sc f I J) 24, .row m (e24Sc f I J) 24] a5 lk := gu
      refine nl (qnI (gt _ _ (dJ.cst li [3, 1]) ?_))
      refine cS dI 2 [] [] [(3, i6 S.2.2), (4, i6 0)] ?_; intro pp gv
      refine nS (gr _ _ ?_)
      refine t_ (r_ (rt (fn := Tryz.f9) (v := .tuple #[.agg (e24Sc f I J).toArray, i6 S.2.2, i6 0]) gv (re3c gv (fn := Tryz.f9) rfl (ad := ⟨m, 0, none⟩) (by kernel_rfl) (loadVar_run dJ 4 (b := m) (k := 6) (vs := (e24Sc f I J)) (ty := 24) rfl (by kernel_rfl) (by kernel_rfl)) (by kernel_rfl) (by kernel_rfl)) ?_))
      exact ⟨(f, S.2.2, 0), I, J, a5, rfl, lg, bL, dJ.kp⟩
     have cB := Fz.le.refl bg
     refine c_ f4 cs (fun _ ll => ?_) fun _ l9 => ?_
     ·
      refine sqH ?_; intro lm gw
      refine z1 f4 ax 154 bh 0 (str u0) rfl ?_; intro pq gx
      refine l1 gx ax 155 2 0 (i6 y) rfl rfl ?_; intro pr dL
      obtain ⟨ln, lo⟩ := ll
      refine u_ dL (str (u0.take y.toNat)) (strslH_run dL (g := []) (k := .i64) rfl (by kernel_rfl) (by kernel_rfl) (by kernel_rfl) ln rfl) ?_; intro ps gy
      refine s1 gy 17 (str (u0.take y.toNat)) ?_; intro pu gz
      apply gw
      refine sqH ?_; intro lq gA
      refine bt gz ax 5 [1, 3] [] [(157, str A), (158, str (u0.take y.toNat)), (161, i6 (f.Data.length : Int))] ?_; intro pv gB
      obtain ⟨lr, ls⟩ := lo
      refine fc gB ax (rfastend_fun A (u0.take y.toNat) (f.Data.length : Int) lr _ _ bI ax.fz) ?_; intro pw px gC cC
      refine s1 gC 18 (str (rfastendS A (u0.take y.toNat) (f.Data.length : Int))) ?_; intro py gD
      apply gA
      refine sqH ?_; intro lt gE
      refine bt gD cC 3 [] [] [(163, .func (.func 36) #[] #[pt a 0, pt h 0, pt p 0]), (165, i6 ((rfastendS A (u0.take y.toNat) (f.Data.length : Int)).length : Int))] ?_; intro pz gF
      obtain ⟨lu, gG⟩ := ls
      refine ck gF 36 #[i6 ((rfastendS A (u0.take y.toNat) (f.Data.length : Int)).length : Int), pt a 0, pt h 0, pt p 0] ?_
      obtain ⟨L, lv, lw⟩ := hxq gG
      have l := rbp_fun ((rfastendS A (u0.take y.toNat) (f.Data.length : Int)).length : Int) C y u0 lu a h p 0 _ _ _ _ _ _ bh (cC.perm (((pk 1 rfl).trans (lpr.cons _)).cons _)) cC.fz; rw [lv] at l; refine l.mono ?_; rintro _ lx ⟨dM, rfl, aC, hm⟩; refine ⟨_, rfl, ?_⟩; intro pA gH; have gI := hm
      replace cB := cB.mono aC
      have dN : Mem w.heap.size [] w Z [.row a [i6 L.2.1] 25, .row h [i6 L.2.2] 3, .row i [str A] 9, .row j (e24Sc f I J) 24, .row m [i6 0, .bool false, .bool false, .bool false, i6 0, .slice none 0 0] 24] dM lx := gI
      refine s1 gH 19 (str L.1) ?_; intro pB gJ
      apply gE
      refine s_ (sqB gJ dN [] [] [(20, i6 0)] ?_); intro gK gL
      apply b_
      have gM : Fr 212 [] [⟨2, [], pt m 0⟩, ⟨5, [], pt j 0⟩, ⟨6, [], pt h 0⟩, ⟨7, [], pt a 0⟩, ⟨11, [], .func (.func 33) #[] #[pt a 0]⟩, ⟨16, [], .func (.func 36) #[] #[pt a 0, pt h 0, pt p 0]⟩, ⟨17, [], str (u0.take y.toNat)⟩, ⟨18, [], str (rfastendS A (u0.take y.toNat) (f.Data.length : Int))⟩, ⟨19, [], str L.1⟩, ⟨20, [], i6 0⟩] gK := gL.reg
      obtain ⟨ly, lz, lA, lB⟩ := lw
      refine lp (ι := Int × Int × Fz) (fun s => [⟨2, [], pt m 0⟩, ⟨5, [], pt j 0⟩, ⟨6, [], pt h 0⟩, ⟨7, [], pt a 0⟩, ⟨11, [], .func (.func 33) #[] #[pt a 0]⟩, ⟨16, [], .func (.func 36) #[] #[pt a 0, pt h 0, pt p 0]⟩, ⟨17, [], str (u0.take y.toNat)⟩, ⟨18, [], str (rfastendS A (u0.take y.toNat) (f.Data.length : Int))⟩, ⟨19, [], str L.1⟩, ⟨20, [], i6 s.1⟩]) (fun s => [.row a [i6 s.2.1] 25, .row h [i6 L.2.2] 3, .row i [str A] 9, .row j (e24Sc f I J) 24, .row m [i6 0, .bool false, .bool false, .bool false, i6 0, .slice none 0 0] 24]) (fun s => s.2.2) (fun s => ly s.1 s.2.1 ∧ Fz.le dM s.2.2) (fun s => lz s.1 s.2.1) ⟨0, L.2.1, dM⟩ ⟨lA, Fz.le.refl _⟩ (by exact gM.reg) (by exact dN) ?_
      rintro ⟨V, bO, gO⟩ ⟨lC, Y⟩ lD lE gP gQ
      have cD := lB V bO lC
      have bP := cB.mono Y
      refine s_ (sqB gP gQ [] [] [(170, .bool (decide (V < (L.1.length : Int))))] ?_); intro pD bQ
      refine c_ bQ cD (fun _ lF => ?_) fun _ hi => ?_
      ·
       refine k_ (s_ (b_ (sqH ?_))); intro lG gS
       refine bt bQ gQ 4 [] [] [(173, str (u0.take y.toNat)), (176, i6 (w64 (((u0.take y.toNat).length : Int) - 1)))] ?_; intro pE gT
       obtain ⟨lH, lI⟩ := lF
       obtain ⟨bR, gU⟩ : ∃ q, (u0.take y.toNat)[(w64 (((u0.take y.toNat).length : Int) - 1)).toNat]? = some q := ⟨_, List.getElem?_eq_getElem (by omega)⟩; have lJ := lI bR gU
       refine si gT .i64 lH.1 gU ?_; intro pF gV
       refine s1 gV 21 (y8 (bR.toNat : Int)) ?_; intro pG gW
       apply gS
       refine s_ (sqB gW gQ [] [] [(179, .bool (decide (V > 0)))] ?_); intro gX gY
       have gZ : Fr 212 [] [⟨2, [], pt m 0⟩, ⟨5, [], pt j 0⟩, ⟨6, [], pt h 0⟩, ⟨7, [], pt a 0⟩, ⟨11, [], .func (.func 33) #[] #[pt a 0]⟩, ⟨16, [], .func (.func 36) #[] #[pt a 0, pt h 0, pt p 0]⟩, ⟨17, [], str (u0.take y.toNat)⟩, ⟨18, [], str (rfastendS A (u0.take y.toNat) (f.Data.length : Int))⟩, ⟨19, [], str L.1⟩, ⟨20, [], i6 V⟩, ⟨21, [], y8 (bR.toNat : Int)⟩, ⟨179, [], .bool (decide (V > 0))⟩] gX := gY.reg
       obtain ⟨lK, cM, lL⟩ := lJ
       refine wp_then_k fun KJ600 hKJ601 => ?_
       have g0 : ∀ (a6 : Int), lK a6 → ∀ a1 w1, Fr 212 [] [⟨2, [], pt m 0⟩, ⟨5, [], pt j 0⟩, ⟨6, [], pt h 0⟩, ⟨7, [], pt a 0⟩, ⟨11, [], .func (.func 33) #[] #[pt a 0]⟩, ⟨16, [], .func (.func 36) #[] #[pt a 0, pt h 0, pt p 0]⟩, ⟨17, [], str (u0.take y.toNat)⟩, ⟨18, [], str (rfastendS A (u0.take y.toNat) (f.Data.length : Int))⟩, ⟨19, [], str L.1⟩, ⟨20, [], i6 V⟩, ⟨21, [], y8 a6⟩] a1 → Mem w.heap.size [] w Z [.row a [i6 bO] 25, .row h [i6 L.2.2] 3, .row i [str A] 9, .row j (e24Sc f I J) 24, .row m [i6 0, .bool false, .bool false, .bool false, i6 0, .slice none 0 0] 24] gO w1 → KJ600 a1 w1 := by
        rintro a6 lM pH pI g1 bT
        refine hKJ601 _ _ ?_
        have lN := lL a6 lM
        refine rgH ?_; intro lO g2
        refine bt g1 bT 3 [] [] [(184, .func (.func 33) #[] #[pt a 0]), (185, str L.1), (186, i6 V)] ?_; intro pJ g3
        obtain ⟨lP, lQ⟩ := lN
        obtain ⟨cN, g4⟩ : ∃ q, L.1[V.toNat]? = some q := ⟨_, List.getElem?_eq_getElem (by omega)⟩; have g5 := lQ cN g4
        refine si g3 .i64 lP.1 g4 ?_; intro pK g6
        refine bt g6 bT 2 [] [] [(189, .bool ((cN.toNat : Int) != a6))] ?_; intro pL g7
        refine ck g7 33 #[.bool ((cN.toNat : Int) != a6), i6 5, pt a 0] ?_
        obtain ⟨g8, lR, g9⟩ := hxq g5
        have l := rbm_fun ((cN.toNat : Int) != a6) 5 bO a _ _ _ _ _ _ bT bT.fz; rw [lR] at l; refine l.mono ?_; rintro _ lS ⟨ha, rfl, am, hm⟩; refine ⟨_, rfl, ?_⟩; intro pM hb; have hc := hm
        replace Y := Y.mono am
        have hd : Mem w.heap.size [] w Z [.row a [i6 g8] 25, .row h [i6 L.2.2] 3, .row i [str A] 9, .row j (e24Sc f I J) 24, .row m [i6 0, .bool false, .bool false, .bool false, i6 0, .slice none 0 0] 24] ha lS := hc
        apply g2
        refine j_ (t_ (rgB hb hd [] [] [(20, i6 (w64 (V + 5)))] ?_)); intro pN lT
        exact d_ ⟨⟨w64 (V + 5), g8, ha⟩, ⟨g9.1, Y⟩, g9.2, (lT.reg).anyβ _ (by kernel_rfl), hd.kp⟩
       refine c_ gZ cM (fun _ lU => ?_) fun _ l0 => ?_
       ·
        refine rgH ?_; intro lV he
        refine bt gZ gQ 3 [] [] [(180, str L.1), (182, i6 (w64 (V - 1)))] ?_; intro pO hf
        obtain ⟨lW, lX⟩ := lU
        obtain ⟨dQ, hg⟩ : ∃ q, L.1[(w64 (V - 1)).toNat]? = some q := ⟨_, List.getElem?_eq_getElem (by omega)⟩; have lY := lX dQ hg
        refine si hf .i64 lW.1 hg ?_; intro pP hh
        refine s1 hh 21 (y8 (dQ.toNat : Int)) ?_; intro pQ lZ
        apply he
        exact d_ (g0 (dQ.toNat : Int) lY _ _ ((lZ.reg).anyβ _ (by kernel_rfl)) (gQ.kp))
       exact l_ (d_ (g0 (bR.toNat : Int) l0 _ _ ((gZ.reg).anyβ _ (by kernel_rfl)) (gQ.kp)))
      refine x_ (y_ (y_ (z_ (t_ (rgH ?_))))); intro l2 hj
      refine bt bQ gQ 4 [] [406] [(191, .func (.func 33) #[] #[pt a 0]), (194, .bool (L.1 == (rfastendS A (u0.take y.toNat) (f.Data.length : Int))))] ?_; intro pR hk
      refine ck hk 33 #[.bool (L.1 == (rfastendS A (u0.take y.toNat) (f.Data.length : Int))), i6 6, pt a 0] ?_
      obtain ⟨hl, l3, l4⟩ := hxq hi
      have l := rbm_fun (L.1 == (rfastendS A (u0.take y.toNat) (f.Data.length : Int))) 6 bO a _ _ _ _ _ _ gQ gQ.fz; rw [l3] at l; refine l.mono ?_; rintro _ l5 ⟨hn, rfl, an, hm⟩; refine ⟨_, rfl, ?_⟩; intro pS l6; have ho := hm
      replace bP := bP.mono an
      have l7 : Mem w.heap.size [] w Z [.row a [i6 hl] 25, .row h [i6 L.2.2] 3, .row i [str A] 9, .row j (e24Sc f I J) 24, .row m [i6 0, .bool false, .bool false, .bool false, i6 0, .slice none 0 0] 24] hn l5 := ho
      apply hj
      apply d_
      have l8 := l7.perm (((pk 1 rfl).trans (lpr.cons _)).cons _)
      exact f5 hl L.2.2 hn ⟨l4, bP⟩ _ _ ((l6.reg).anyβ _ (by kernel_rfl)) (l8.kp)
     exact l_ (d_ (f5 C y bg ⟨l9, cB⟩ _ _ ((f4.reg).anyβ _ (by kernel_rfl)) (ax.kp)))
    have hq := Fz.le.refl aG
    refine c_ fY cm (fun _ ma => ?_) fun _ mB => ?_
    ·
     refine sqH ?_; intro mb hr
     refine l1 fY a4 133 1 0 (str W) rfl rfl ?_; intro pT hs
     obtain ⟨mc, md⟩ := ma
     refine fc hs a4 (rsumof_fun 0 W mc _ _ dC a4.fz) ?_; intro pU pV ht cO
     refine s1 ht 14 (str (sumR 0 W)) ?_; intro pW hu
     apply hr
     refine sqB hu cO [] [] [(15, str [])] ?_; intro pX hv
     refine s_ (sqB hv cO [] [] [(135, i6 0)] ?_); intro hx hy
     apply b_
     have hz : Fr 212 [] [⟨1, [], pt p 0⟩, ⟨2, [], pt m 0⟩, ⟨5, [], pt j 0⟩, ⟨6, [], pt h 0⟩, ⟨7, [], pt a 0⟩, ⟨8, [], pt i 0⟩, ⟨9, [], pt B 0⟩, ⟨11, [], .func (.func 33) #[] #[pt a 0]⟩, ⟨14, [], str (sumR 0 W)⟩, ⟨15, [], str []⟩, ⟨135, [], i6 0⟩] hx := hy.reg
     obtain ⟨me, mf, mg, mh⟩ := md
     refine lp (ι := (List UInt8) × Int × Int × (List UInt8) × Int × Fz) (fun s => [⟨1, [], pt p 0⟩, ⟨2, [], pt m 0⟩, ⟨5, [], pt j 0⟩, ⟨6, [], pt h 0⟩, ⟨7, [], pt a 0⟩, ⟨8, [], pt i 0⟩, ⟨9, [], pt B 0⟩, ⟨11, [], .func (.func 33) #[] #[pt a 0]⟩, ⟨14, [], str (sumR 0 W)⟩, ⟨15, [], str s.1⟩, ⟨135, [], i6 s.2.1⟩]) (fun s => [.row a [i6 s.2.2.1] 25, .row i [str s.2.2.2.1] 9, .row h [i6 s.2.2.2.2.1] 3, .row j (e24Sc f I J) 24, .row m [i6 0, .bool false, .bool false, .bool false, i6 0, .slice none 0 0] 24]) (fun s => s.2.2.2.2.2) (fun s => me s.1 s.2.1 s.2.2.1 s.2.2.2.1 s.2.2.2.2.1 ∧ Fz.le aG s.2.2.2.2.2) (fun s => mf s.1 s.2.1 s.2.2.1 s.2.2.2.1 s.2.2.2.2.1) ⟨[], 0, aw, W, bf, aG⟩ ⟨mg, Fz.le.refl _⟩ (by exact hz.reg) (by exact cO) ?_
     rintro ⟨aO, bi, ay, bU, ak, mi⟩ ⟨mj, aa⟩ mk ml hB hC
     have cP := mh aO bi ay bU ak mj
     have bV := fS.mono aa
     have bW := fT.mono aa
     have bX := hq.mono aa
     refine sqB hB hC [] [] [(136, .bool (decide (bi < 15)))] ?_; intro pZ bY
     refine s_ (c_ bY cP (fun _ mm => ?_) fun _ hP => ?_)
     ·
      refine k_ (s_ (b_ (rgH ?_))); intro mn hE
      refine s1 bY 137 (str aO) ?_; intro p1 hF
      refine z1 hF hC 138 bW 0 (.func (.func 30) #[] #[pt p 0, pt i 0, pt a 0, pt h 0]) rfl ?_; intro p2 hG
      obtain ⟨mo, hH⟩ := mm
      refine ck hG 30 #[pt p 0, pt i 0, pt a 0, pt h 0] ?_
      obtain ⟨aP, mp, mq⟩ := hxq hH
      have l := rbb_fun u0 bU ay ak mo p 0 i a h _ _ _ _ _ _ bV (hC.perm ((pk 1 rfl).trans (lpr.cons _))) hC.fz; rw [mp] at l; refine l.mono ?_; rintro _ mr ⟨hI, rfl, aD, hm⟩; refine ⟨_, rfl, ?_⟩; intro p3 hJ; have hK := hm
      replace aa := aa.mono aD
      have hL : Mem w.heap.size [] w Z [.row i [str aP.2.1] 9, .row a [i6 aP.2.2.1] 25, .row h [i6 aP.2.2.2] 3, .row j (e24Sc f I J) 24, .row m [i6 0, .bool false, .bool false, .bool false, i6 0, .slice none 0 0] 24] hI mr := hK
      obtain ⟨ms, hM⟩ := mq
      refine sa hJ ms ?_; intro p4 hN
      refine s1 hN 15 (str (aO ++ aP.1)) ?_; intro p5 hO
      apply hE
      refine j_ (t_ (rgB hO hL [] [] [(135, i6 (w64 (bi + 1)))] ?_)); intro p6 mt
      apply d_
      have mu := hL.perm ((pk 1 rfl).trans (lpr.cons _))
      exact ⟨⟨aO ++ aP.1, w64 (bi + 1), aP.2.2.1, aP.2.1, aP.2.2.2, hI⟩, ⟨hM.1, aa⟩, hM.2, (mt.reg).anyβ _ (by kernel_rfl), mu.kp⟩
     refine x_ (y_ (y_ (z_ (t_ (rgH ?_))))); intro mv hQ
     refine bt bY hC 4 [] [357] [(142, .func (.func 33) #[] #[pt a 0]), (145, .bool (aO == (sumR 0 W)))] ?_; intro p7 hR
     refine ck hR 33 #[.bool (aO == (sumR 0 W)), i6 6, pt a 0] ?_
     obtain ⟨hS, mw, mx⟩ := hxq hP
     have l := rbm_fun (aO == (sumR 0 W)) 6 ay a _ _ _ _ _ _ hC hC.fz; rw [mw] at l; refine l.mono ?_; rintro _ my ⟨hT, rfl, aE, hm⟩; refine ⟨_, rfl, ?_⟩; intro p8 mz; have hU := hm
     replace bX := bX.mono aE
     have mA : Mem w.heap.size [] w Z [.row a [i6 hS] 25, .row i [str bU] 9, .row h [i6 ak] 3, .row j (e24Sc f I J) 24, .row m [i6 0, .bool false, .bool false, .bool false, i6 0, .slice none 0 0] 24] hT my := hU
     apply hQ
     exact d_ (fZ hS bU ak hT ⟨mx, bX⟩ _ _ ((mz.reg).anyβ _ (by kernel_rfl)) (mA.kp))
    exact l_ (d_ (fZ aw W bf aG ⟨mB, hq⟩ _ _ ((fY.reg).anyβ _ (by kernel_rfl)) (a4.kp)))
   have hV := Fz.le.refl aL
   refine c_ fP cj (fun _ mC => ?_) fun _ mG => ?_
   ·
    refine rgH ?_; intro mD hW
    refine bt fP aM 2 [] [] [(104, i6 E.1), (105, pt j 4)] ?_; intro p9 hX
    refine sx hX aM 3 [i6 n.ID, .bool n.Long, .bool (D.1 == ([49] : List UInt8)), .bool n.Remote, i6 E.1, .slice none 0 0] 4 ?_; intro mE hY
    have mF : Mem w.heap.size [] w Z [.row a [i6 bG] 25, .row i [str E.2.1] 9, .row h [i6 E.2.2.2] 3, .row j [i6 n.ID, .bool n.Long, .bool (D.1 == ([49] : List UInt8)), .bool n.Remote, i6 E.1, .slice none 0 0] 24, .row m [i6 0, .bool false, .bool false, .bool false, i6 0, .slice none 0 0] 24] aL mE := hY
    apply hW
    exact d_ (dB bG E.2.1 E.2.2.2 (⟨n.ID, n.Long, D.1 == ([49] : List UInt8), n.Remote, E.1, []⟩ : Frame) none 0 aL ⟨mC, (SlR.nil _ _), hV⟩ _ _ ((hX.reg).anyβ _ (by kernel_rfl)) (mF.kp))
   refine sqB fP aM [] [] [(13, i6 0)] ?_; intro h0 h1
   apply b_
   have h2 : Fr 212 [] [⟨1, [], pt p 0⟩, ⟨2, [], pt m 0⟩, ⟨5, [], pt j 0⟩, ⟨6, [], pt h 0⟩, ⟨7, [], pt a 0⟩, ⟨8, [], pt i 0⟩, ⟨9, [], pt B 0⟩, ⟨10, [], .func (.func 32) #[] #[pt B 0]⟩, ⟨11, [], .func (.func 33) #[] #[pt a 0]⟩, ⟨12, [], i6 E.1⟩, ⟨13, [], i6 0⟩] h0 := h1.reg
   have h3 : Mem w.heap.size [] w Z [.own t8 5 none 0 ([] : List Int), .row a [i6 bG] 25, .row i [str E.2.1] 9, .row h [i6 E.2.2.2] 3, .row j [i6 n.ID, .bool n.Long, .bool (D.1 == ([49] : List UInt8)), .bool n.Remote, i6 n.Size, .slice none 0 0] 24, .row m [i6 0, .bool false, .bool false, .bool false, i6 0, .slice none 0 0] 24] aL fK := aM.addNil t8 5 (by decide)
   have h4 : Fr 212 [] [⟨1, [], pt p 0⟩, ⟨2, [], pt m 0⟩, ⟨5, [], pt j 0⟩, ⟨6, [], pt h 0⟩, ⟨7, [], pt a 0⟩, ⟨8, [], pt i 0⟩, ⟨9, [], pt B 0⟩, ⟨10, [], .func (.func 32) #[] #[pt B 0]⟩, ⟨11, [], .func (.func 33) #[] #[pt a 0]⟩, ⟨12, [], i6 E.1⟩, ⟨13, [], i6 0⟩] h0 := h2.reg
   obtain ⟨mH, mI, mJ, mK⟩ := mG
   refine lp (ι := Int × Int × (List UInt8) × Int × Frame × (Option Addr) × Nat × Fz) (fun s => [⟨1, [], pt p 0⟩, ⟨2, [], pt m 0⟩, ⟨5, [], pt j 0⟩, ⟨6, [], pt h 0⟩, ⟨7, [], pt a 0⟩, ⟨8, [], pt i 0⟩, ⟨9, [], pt B 0⟩, ⟨10, [], .func (.func 32) #[] #[pt B 0]⟩, ⟨11, [], .func (.func 33) #[] #[pt a 0]⟩, ⟨12, [], i6 E.1⟩, ⟨13, [], i6 s.1⟩]) (fun s => [.own t8 5 s.2.2.2.2.2.1 s.2.2.2.2.2.2.1 s.2.2.2.2.1.Data, .row a [i6 s.2.1] 25, .row i [str s.2.2.1] 9, .row h [i6 s.2.2.2.1] 3, .row j [i6 s.2.2.2.2.1.ID, .bool s.2.2.2.2.1.Long, .bool s.2.2.2.2.1.Fast, .bool s.2.2.2.2.1.Remote, i6 s.2.2.2.2.1.Size, .slice s.2.2.2.2.2.1 s.2.2.2.2.1.Data.length s.2.2.2.2.2.2.1] 24, .row m [i6 0, .bool false, .bool false, .bool false, i6 0, .slice none 0 0] 24]) (fun s => s.2.2.2.2.2.2.2) (fun s => mH s.1 s.2.1 s.2.2.1 s.2.2.2.1 s.2.2.2.2.1 ∧ Fz.le aL s.2.2.2.2.2.2.2) (fun s => mI s.1 s.2.1 s.2.2.1 s.2.2.2.1 s.2.2.2.2.1) ⟨0, bG, E.2.1, E.2.2.2, (⟨n.ID, n.Long, D.1 == ([49] : List UInt8), n.Remote, n.Size, ([] : List Int)⟩ : Frame), none, 0, aL⟩ ⟨mJ, Fz.le.refl _⟩ (by exact h4.reg) (by exact h3) ?_
   rintro ⟨aQ, C, A, y, u, ab, ac, mL⟩ ⟨mM, X⟩ mN h5 h6 h7
   have cW := mK aQ C A y u mM
   have aI := aZ.mono X
   have aJ := a2.mono X
   have aF := hV.mono X
   refine s_ (sqH ?_); intro ia cX
   refine bt h6 h7 3 [1] [] [(108, .bool (C == 0))] ?_; intro qb cY
   refine e_ cW (fun bZ ib => ?_) fun bZ ne => ?_
   ·
    have cZ := cY.reval (d := 108) (c := []) (v := .bool (C == 0)) (by kernel_rfl) (.bool true) (by rw [bZ])
    refine g_ cZ true (i6 aQ) ?_; intro qc dU
    refine cl dU 34 #[] (wK dU true) rfl (by kernel_rfl) (by kernel_rfl) ?_
    refine (rsizes_fun  _ _ h7.fz).mono ?_; rintro _ ic ⟨mO, b0, id, rfl, hm⟩; refine ⟨_, rfl, ?_⟩; intro qd c0; have ie := h7.callZ hm; have aU := hm.ext.le
    replace aI := aI.mono aU
    replace aJ := aJ.mono aU
    replace aF := aF.mono aU
    replace X := X.mono aU
    have a7 : Mem w.heap.size [] w Z [.own t6 3 mO b0 rsizes, .own t8 5 ab ac u.Data, .row a [i6 C] 25, .row i [str A] 9, .row h [i6 y] 3, .row j (e24Sc u ab ac) 24, .row m [i6 0, .bool false, .bool false, .bool false, i6 0, .slice none 0 0] 24] id ic := ie
    have mP := ib (a7.ownSmall 0 rfl)
    refine g_ c0 true (i6 E.1) ?_; intro qe dV
    obtain ⟨mQ, ig⟩ := mP
    refine ixo dV a7 0 (T := t6) (xs := rsizes) E.1 mQ (k := .i64) (e := 3) (bytes := 8) (wK dV true) rfl (by kernel_rfl) rfl (by kernel_rfl) (by kernel_rfl) rfl (by kernel_rfl) ?_; intro c1 qf mR dW
    subst mR
    obtain ⟨c2, mS, c3⟩ := gxq ig (by first | omega | (simp only [List.length_set] at *; omega))
    obtain ⟨mT, mU, mV⟩ := own_el a7 0 (T := t6) (xs := rsizes) rfl E.1.toNat mS
    obtain rfl : mT = ([i6 c2] : List Value) := mU
    refine lc1 dW 113 (i6 c2) (mV 0 _ rfl) rfl ?_ (hw := (wK dW true)); intro qg ih
    refine bt ih a7 2 [] [114, 115] [(115, .bool (decide (aQ < c2)))] ?_; intro mW c4
    apply cX
    refine c_ c4 c3 (fun _ mX => ?_) fun _ nb => ?_
    ·
     refine k_ (s_ (b_ ?_))
     have ii : Fr 212 [] [⟨1, [], pt p 0⟩, ⟨2, [], pt m 0⟩, ⟨5, [], pt j 0⟩, ⟨6, [], pt h 0⟩, ⟨7, [], pt a 0⟩, ⟨8, [], pt i 0⟩, ⟨9, [], pt B 0⟩, ⟨10, [], .func (.func 32) #[] #[pt B 0]⟩, ⟨11, [], .func (.func 33) #[] #[pt a 0]⟩, ⟨12, [], i6 E.1⟩, ⟨13, [], i6 aQ⟩] mW := c4.reg
     refine rgS mixed a7 [(0, true), (1, true), (2, true), (3, false), (4, true), (5, false), (6, false), (7, true), (8, false)] [8] [5] [.row j (e24Sc u ab ac) 24] ?_
     intro mY ij qh dY
     have b1 := Fz.le.refl id
     refine cS ii 3 [0] [] [(119, .slice ab u.Data.length ac), (120, .func (.func 32) #[] #[pt B 0])] ?_; intro qi ik
     refine eS rfl ?_; intro mZ il
     obtain ⟨m0, m1⟩ := mX
     refine ck ik 32 #[i6 8, pt B 0] ?_
     refine (rbn_fun 8 u0 A C y m0 B 0 p 0 i a h _ _ _ _ _ _ aJ aI (dY.perm ((pk 3 rfl).trans (((pk 2 rfl).trans (((pk 2 rfl).trans (lpr.cons _)).cons _)).cons _))) dY.fz).mono ?_; rintro _ m2 ⟨c5, rfl, aK, hm⟩; refine ⟨_, rfl, ?_⟩; intro qj im; have io := hm
     replace X := X.mono aK
     replace b1 := b1.mono aK
     have dZ : Mem w.heap.size [] w Z [.row i [str (rbnS 8 u0 A C y).2.1] 9, .row a [i6 (rbnS 8 u0 A C y).2.2.1] 25, .row h [i6 (rbnS 8 u0 A C y).2.2.2] 3, .own t6 3 (sm c1) b0 rsizes, .own t8 5 ab ac u.Data, .row j (e24Sc u ab ac) 24, .row m [i6 0, .bool false, .bool false, .bool false, i6 0, .slice none 0 0] 24] c5 m2 := io
     refine nl (qnI (il _ _ (dZ.cst b1 [5]) ?_))
     refine cS im 1 [] [] [(122, y8 (w8 (rbnS 8 u0 A C y).1))] ?_; intro qk ip
     refine eS rfl ?_; intro m3 iq
     refine nw ip dZ (fun b => .slice (sm b) 1 1) [y8 (w8 (rbnS 8 u0 A C y).1)] 5 ?_; intro d0 ql qm ir c6
     refine nl (qnI (iq _ _ (c6.cst b1 [6]) ?_))
     refine eS rfl ?_; intro m4 it
     obtain ⟨m5, iu⟩ := m1
     refine ap ir c6 5 (T := t8) (xs := u.Data) (ys := [w8 (rbnS 8 u0 A C y).1]) (ao := ab) (cap := ac) (ao2 := (sm d0)) (cap2 := 1) (t := 22) (e := 5) (bytes := 1) (nog rfl _) rfl (by kernel_rfl) rfl (by kernel_rfl) (by kernel_rfl) (by kernel_rfl) rfl (Src.row c6 0 rfl (RepAll.one (T := t8) (x := (w8 (rbnS 8 u0 A C y).1)) rfl)) m5 ?_; intro b3 b4 qn m6 qo iv iw
     have d1 : Mem w.heap.size [] w Z [.row d0 [y8 (w8 (rbnS 8 u0 A C y).1)] 5, .row i [str (rbnS 8 u0 A C y).2.1] 9, .row a [i6 (rbnS 8 u0 A C y).2.2.1] 25, .row h [i6 (rbnS 8 u0 A C y).2.2.2] 3, .own t6 3 (sm c1) b0 rsizes, .own t8 5 b3 b4 (u.Data ++ [w8 (rbnS 8 u0 A C y).1]), .row j (e24Sc u ab ac) 24, .row m [i6 0, .bool false, .bool false, .bool false, i6 0, .slice none 0 0] 24] c5 m6 := iw
     refine nl (qnI (it _ _ (d1.cst b1 [6]) ?_))
     refine cS iv 1 [] [] [(125, pt j 5)] ?_; intro qp d2
     refine eL rfl ?_; intro m7 ix
     refine sx d2 d1 6 [i6 u.ID, .bool u.Long, .bool u.Fast, .bool u.Remote, i6 u.Size, .slice b3 (u.Data ++ [w8 (rbnS 8 u0 A C y).1]).length b4] 5 ?_; intro m8 iy
     have iz : Mem w.heap.size [] w Z [.row d0 [y8 (w8 (rbnS 8 u0 A C y).1)] 5, .row i [str (rbnS 8 u0 A C y).2.1] 9, .row a [i6 (rbnS 8 u0 A C y).2.2.1] 25, .row h [i6 (rbnS 8 u0 A C y).2.2.2] 3, .own t6 3 (sm c1) b0 rsizes, .own t8 5 b3 b4 (u.Data ++ [w8 (rbnS 8 u0 A C y).1]), .row j [i6 u.ID, .bool u.Long, .bool u.Fast, .bool u.Remote, i6 u.Size, .slice b3 (u.Data ++ [w8 (rbnS 8 u0 A C y).1]).length b4] 24, .row m [i6 0, .bool false, .bool false, .bool false, i6 0, .slice none 0 0] 24] c5 m8 := iy
     refine nl (qnI (ix _ _ ?_))
     refine nS (ij _ _ ?_)
     refine j_ (t_ (rgB d2 iz [] [] [(13, i6 (w64 (aQ + 1)))] ?_)); intro qq m9
     apply d_
     have na := iz.perm ((pk 5 rfl).trans (((pk 2 rfl).trans (((pk 1 rfl).trans (((pk 1 rfl).trans (((pk 2 rfl).trans (((pk 2 rfl).trans (lpr.cons _)).cons _)).cons _)).cons _)).cons _)).cons _))
     exact ⟨⟨w64 (aQ + 1), (rbnS 8 u0 A C y).2.2.1, (rbnS 8 u0 A C y).2.1, (rbnS 8 u0 A C y).2.2.2, (⟨u.ID, u.Long, u.Fast, u.Remote, u.Size, u.Data ++ [w8 (rbnS 8 u0 A C y).1]⟩ : Frame), b3, b4, c5⟩, ⟨iu.1, X⟩, iu.2, (m9.reg).anyβ _ (by kernel_rfl), na.kp⟩
    refine x_ (y_ (y_ (z_ (d_ ?_))))
    obtain ⟨iA, aV, iB, nc⟩ := a7.freeze 1 rfl
    replace aF := aF.mono aV
    have nd : Mem w.heap.size [] w Z [.own t6 3 (sm c1) b0 rsizes, .row a [i6 C] 25, .row i [str A] 9, .row h [i6 y] 3, .row j (e24Sc u ab ac) 24, .row m [i6 0, .bool false, .bool false, .bool false, i6 0, .slice none 0 0] 24] iA ic := iB
    exact dB C A y u ab ac iA ⟨nb, nc, aF⟩ _ _ ((c4.reg).anyβ _ (by kernel_rfl)) (nd.kp)
   have iC := cY.reval (d := 108) (c := []) (v := .bool (C == 0)) (by kernel_rfl) (.bool false) (by rw [bZ])
   refine bt iC h7 7 [] [109, 110, 111, 112, 113, 114, 115] [(115, .bool false)] ?_; intro qr iD
   apply cX
   refine cdF iD (by kernel_rfl) ?_
   refine x_ (y_ (y_ (z_ (d_ ?_))))
   obtain ⟨iE, aW, iF, nf⟩ := h7.freeze 0 rfl
   replace aF := aF.mono aW
   have ng : Mem w.heap.size [] w Z [.row a [i6 C] 25, .row i [str A] 9, .row h [i6 y] 3, .row j (e24Sc u ab ac) 24, .row m [i6 0, .bool false, .bool false, .bool false, i6 0, .slice none 0 0] 24] iE h5 := iF
   exact dB C A y u ab ac iE ⟨ne, nf, aF⟩ _ _ ((iD.reg).anyβ _ (by kernel_rfl)) (ng.kp)
  have Q := Fz.le.refl bB
  refine c_ fy ch (fun _ iG => ?_) fun _ da => ?_
  ·
   refine sqH ?_; intro nh iH
   refine bt fy ah 4 [3] [] [(65, .func (.func 33) #[] #[pt a 0]), (68, .bool (!n.Remote))] ?_; intro qs iI
   refine ck iI 33 #[.bool (!n.Remote), i6 4, pt a 0] ?_
   obtain ⟨iJ, ni, nj⟩ := hxq iG
   have l := rbm_fun (!n.Remote) 4 D.2.2.1 a _ _ _ _ _ _ (ah.perm (pk 1 rfl)) ah.fz; rw [ni] at l; refine l.mono ?_; rintro _ nk ⟨nm, rfl, bk, hm⟩; refine ⟨_, rfl, ?_⟩; intro qt iK; have iL := hm
   replace G := G.mono bk
   replace H := H.mono bk
   replace Q := Q.mono bk
   have c7 : Mem w.heap.size [] w Z [.row a [i6 iJ] 25, .row i [str D.2.1] 9, .row h [i6 D.2.2.2] 3, .row j [i6 n.ID, .bool n.Long, .bool (D.1 == ([49] : List UInt8)), .bool n.Remote, i6 n.Size, .slice none 0 0] 24, .row m [i6 0, .bool false, .bool false, .bool false, i6 0, .slice none 0 0] 24] nm nk := iL
   apply iH
   refine sqH ?_; intro nn iM
   refine s1 iK 70 (.func (.func 33) #[] #[pt a 0]) ?_; intro qu iN
   refine z1 iN c7 71 H 0 (.func (.func 30) #[] #[pt p 0, pt i 0, pt a 0, pt h 0]) rfl ?_; intro qv iO
   obtain ⟨no, iP⟩ := nj
   refine ck iO 30 #[pt p 0, pt i 0, pt a 0, pt h 0] ?_
   obtain ⟨aq, np, iQ⟩ := hxq iP
   have l := rbb_fun u0 D.2.1 iJ D.2.2.2 no p 0 i a h _ _ _ _ _ _ G (c7.perm ((pk 1 rfl).trans (lpr.cons _))) c7.fz; rw [np] at l; refine l.mono ?_; rintro _ nq ⟨nr, rfl, bl, hm⟩; refine ⟨_, rfl, ?_⟩; intro qw iR; have iS := hm
   replace G := G.mono bl
   replace H := H.mono bl
   replace Q := Q.mono bl
   have d4 : Mem w.heap.size [] w Z [.row i [str aq.2.1] 9, .row a [i6 aq.2.2.1] 25, .row h [i6 aq.2.2.2] 3, .row j [i6 n.ID, .bool n.Long, .bool (D.1 == ([49] : List UInt8)), .bool n.Remote, i6 n.Size, .slice none 0 0] 24, .row m [i6 0, .bool false, .bool false, .bool false, i6 0, .slice none 0 0] 24] nr nq := iS
   refine sc iR .eql (.bool (aq.1 == ([48] : List UInt8))) ?_; intro qx iT
   refine ck iT 33 #[.bool (aq.1 == ([48] : List UInt8)), i6 4, pt a 0] ?_
   obtain ⟨iU, ns, nt⟩ := hxq iQ
   have l := rbm_fun (aq.1 == ([48] : List UInt8)) 4 aq.2.2.1 a _ _ _ _ _ _ (d4.perm (pk 1 rfl)) d4.fz; rw [ns] at l; refine l.mono ?_; rintro _ nu ⟨nv, rfl, bm, hm⟩; refine ⟨_, rfl, ?_⟩; intro qy iV; have iW := hm
   replace G := G.mono bm
   replace H := H.mono bm
   replace Q := Q.mono bm
   have c8 : Mem w.heap.size [] w Z [.row a [i6 iU] 25, .row i [str aq.2.1] 9, .row h [i6 aq.2.2.2] 3, .row j [i6 n.ID, .bool n.Long, .bool (D.1 == ([49] : List UInt8)), .bool n.Remote, i6 n.Size, .slice none 0 0] 24, .row m [i6 0, .bool false, .bool false, .bool false, i6 0, .slice none 0 0] 24] nv nu := iW
   apply iM
   refine sqH ?_; intro nx iX
   refine s1 iV 75 (.func (.func 33) #[] #[pt a 0]) ?_; intro qz iY
   refine z1 iY c8 76 H 0 (.func (.func 30) #[] #[pt p 0, pt i 0, pt a 0, pt h 0]) rfl ?_; intro qA iZ
   obtain ⟨ny, i0⟩ := nt
   refine ck iZ 30 #[pt p 0, pt i 0, pt a 0, pt h 0] ?_
   obtain ⟨ar, nz, i1⟩ := hxq i0
   have l := rbb_fun u0 aq.2.1 iU aq.2.2.2 ny p 0 i a h _ _ _ _ _ _ G (c8.perm ((pk 1 rfl).trans (lpr.cons _))) c8.fz; rw [nz] at l; refine l.mono ?_; rintro _ nA ⟨nB, rfl, bn, hm⟩; refine ⟨_, rfl, ?_⟩; intro qB i2; have i3 := hm
   replace G := G.mono bn
   replace H := H.mono bn
   replace Q := Q.mono bn
   have d5 : Mem w.heap.size [] w Z [.row i [str ar.2.1] 9, .row a [i6 ar.2.2.1] 25, .row h [i6 ar.2.2.2] 3, .row j [i6 n.ID, .bool n.Long, .bool (D.1 == ([49] : List UInt8)), .bool n.Remote, i6 n.Size, .slice none 0 0] 24, .row m [i6 0, .bool false, .bool false, .bool false, i6 0, .slice none 0 0] 24] nB nA := i3
   refine sc i2 .eql (.bool (ar.1 == ([49] : List UInt8))) ?_; intro qC i4
   refine ck i4 33 #[.bool (ar.1 == ([49] : List UInt8)), i6 4, pt a 0] ?_
   obtain ⟨i5, nC, nD⟩ := hxq i1
   have l := rbm_fun (ar.1 == ([49] : List UInt8)) 4 ar.2.2.1 a _ _ _ _ _ _ (d5.perm (pk 1 rfl)) d5.fz; rw [nC] at l; refine l.mono ?_; rintro _ nE ⟨nF, rfl, bo, hm⟩; refine ⟨_, rfl, ?_⟩; intro qD i7; have i8 := hm
   replace G := G.mono bo
   replace H := H.mono bo
   replace Q := Q.mono bo
   have c9 : Mem w.heap.size [] w Z [.row a [i6 i5] 25, .row i [str ar.2.1] 9, .row h [i6 ar.2.2.2] 3, .row j [i6 n.ID, .bool n.Long, .bool (D.1 == ([49] : List UInt8)), .bool n.Remote, i6 n.Size, .slice none 0 0] 24, .row m [i6 0, .bool false, .bool false, .bool false, i6 0, .slice none 0 0] 24] nF nE := i8
   apply iX
   refine rgH ?_; intro nG i9
   refine s1 i7 80 (.func (.func 33) #[] #[pt a 0]) ?_; intro qE ja
   refine z1 ja c9 81 H 0 (.func (.func 30) #[] #[pt p 0, pt i 0, pt a 0, pt h 0]) rfl ?_; intro qF jb
   obtain ⟨nH, jc⟩ := nD
   refine ck jb 30 #[pt p 0, pt i 0, pt a 0, pt h 0] ?_
   obtain ⟨au, nI, jd⟩ := hxq jc
   have l := rbb_fun u0 ar.2.1 i5 ar.2.2.2 nH p 0 i a h _ _ _ _ _ _ G (c9.perm ((pk 1 rfl).trans (lpr.cons _))) c9.fz; rw [nI] at l; refine l.mono ?_; rintro _ nJ ⟨nK, rfl, bp, hm⟩; refine ⟨_, rfl, ?_⟩; intro qG je; have jf := hm
   replace Q := Q.mono bp
   have d6 : Mem w.heap.size [] w Z [.row i [str au.2.1] 9, .row a [i6 au.2.2.1] 25, .row h [i6 au.2.2.2] 3, .row j [i6 n.ID, .bool n.Long, .bool (D.1 == ([49] : List UInt8)), .bool n.Remote, i6 n.Size, .slice none 0 0] 24, .row m [i6 0, .bool false, .bool false, .bool false, i6 0, .slice none 0 0] 24] nK nJ := jf
   refine sc je .eql (.bool (au.1 == ([48] : List UInt8))) ?_; intro qH jg
   refine ck jg 33 #[.bool (au.1 == ([48] : List UInt8)), i6 4, pt a 0] ?_
   obtain ⟨jh, nL, nM⟩ := hxq jd
   have l := rbm_fun (au.1 == ([48] : List UInt8)) 4 au.2.2.1 a _ _ _ _ _ _ (d6.perm (pk 1 rfl)) d6.fz; rw [nL] at l; refine l.mono ?_; rintro _ nN ⟨ji, rfl, bq, hm⟩; refine ⟨_, rfl, ?_⟩; intro qI nO; have jj := hm
   replace Q := Q.mono bq
   have nP : Mem w.heap.size [] w Z [.row a [i6 jh] 25, .row i [str au.2.1] 9, .row h [i6 au.2.2.2] 3, .row j [i6 n.ID, .bool n.Long, .bool (D.1 == ([49] : List UInt8)), .bool n.Remote, i6 n.Size, .slice none 0 0] 24, .row m [i6 0, .bool false, .bool false, .bool false, i6 0, .slice none 0 0] 24] ji nN := jj
   apply i9
   apply d_
   have nQ := nP.perm ((pk 1 rfl).trans (lpr.cons _))
   exact dy au.2.1 jh au.2.2.2 ji ⟨nM, Q⟩ _ _ ((nO.reg).anyβ _ (by kernel_rfl)) (nQ.kp)
  refine sqB fy ah [3] [] [(86, .bool n.Long)] ?_; intro qJ db
  refine c_ db da (fun _ nR => ?_) fun _ n4 => ?_
  ·
   refine rgH ?_; intro nT jk
   refine s1 db 87 (.func (.func 33) #[] #[pt a 0]) ?_; intro qK jl
   refine z1 jl ah 88 H 0 (.func (.func 30) #[] #[pt p 0, pt i 0, pt a 0, pt h 0]) rfl ?_; intro qL jm
   obtain ⟨nU, jn⟩ := nR
   refine ck jm 30 #[pt p 0, pt i 0, pt a 0, pt h 0] ?_
   obtain ⟨av, nV, jo⟩ := hxq jn
   have l := rbb_fun u0 D.2.1 D.2.2.1 D.2.2.2 nU p 0 i a h _ _ _ _ _ _ G ah ah.fz; rw [nV] at l; refine l.mono ?_; rintro _ nW ⟨nX, rfl, br, hm⟩; refine ⟨_, rfl, ?_⟩; intro qM jp; have jq := hm
   replace Q := Q.mono br
   have d8 : Mem w.heap.size [] w Z [.row i [str av.2.1] 9, .row a [i6 av.2.2.1] 25, .row h [i6 av.2.2.2] 3, .row j [i6 n.ID, .bool n.Long, .bool (D.1 == ([49] : List UInt8)), .bool n.Remote, i6 n.Size, .slice none 0 0] 24, .row m [i6 0, .bool false, .bool false, .bool false, i6 0, .slice none 0 0] 24] nX nW := jq
   refine sc jp .eql (.bool (av.1 == ([48] : List UInt8))) ?_; intro qN jr
   refine ck jr 33 #[.bool (av.1 == ([48] : List UInt8)), i6 4, pt a 0] ?_
   obtain ⟨js, nY, nZ⟩ := hxq jo
   have l := rbm_fun (av.1 == ([48] : List UInt8)) 4 av.2.2.1 a _ _ _ _ _ _ (d8.perm (pk 1 rfl)) d8.fz; rw [nY] at l; refine l.mono ?_; rintro _ n0 ⟨jt, rfl, bs, hm⟩; refine ⟨_, rfl, ?_⟩; intro qO n1; have ju := hm
   replace Q := Q.mono bs
   have n2 : Mem w.heap.size [] w Z [.row a [i6 js] 25, .row i [str av.2.1] 9, .row h [i6 av.2.2.2] 3, .row j [i6 n.ID, .bool n.Long, .bool (D.1 == ([49] : List UInt8)), .bool n.Remote, i6 n.Size, .slice none 0 0] 24, .row m [i6 0, .bool false, .bool false, .bool false, i6 0, .slice none 0 0] 24] jt n0 := ju
   apply jk
   apply d_
   have n3 := n2.perm ((pk 1 rfl).trans (lpr.cons _))
   exact dy av.2.1 js av.2.2.2 jt ⟨nZ, Q⟩ _ _ ((n1.reg).anyβ _ (by kernel_rfl)) (n3.kp)
  exact l_ (d_ (dy D.2.1 D.2.2.1 D.2.2.2 bB ⟨n4, Q⟩ _ _ ((db.reg).anyβ _ (by kernel_rfl)) (ah.kp)))
 have aX := Fz.le.refl bv
 refine c_ fm cf (fun _ jv => ?_) fun _ oq => ?_
 ·
  refine sqH ?_; intro n5 jw
  refine bt fm aY 3 [3] [] [(44, .func (.func 33) #[] #[pt a 0]), (46, .bool (N.1 == ([49] : List UInt8)))] ?_; intro qP jx
  refine ck jx 33 #[.bool (N.1 == ([49] : List UInt8)), i6 4, pt a 0] ?_
  obtain ⟨U, n6, n7⟩ := hxq jv
  have l := rbm_fun (N.1 == ([49] : List UInt8)) 4 z.2.2.1 a _ _ _ _ _ _ (aY.perm (pk 1 rfl)) aY.fz; rw [n6] at l; refine l.mono ?_; rintro _ n8 ⟨jy, rfl, b5, hm⟩; refine ⟨_, rfl, ?_⟩; intro n9 jz; have jA := hm
  replace M := M.mono b5
  replace R := R.mono b5
  replace aX := aX.mono b5
  have jB : Mem w.heap.size [] w Z [.row a [i6 U] 25, .row i [str z.2.1] 9, .row h [i6 z.2.2.2] 3, .row j [i6 F.1, .bool (z.1 == ([49] : List UInt8)), .bool false, .bool (N.1 == ([49] : List UInt8)), i6 0, .slice none 0 0] 24, .row m [i6 0, .bool false, .bool false, .bool false, i6 0, .slice none 0 0] 24] jy n8 := jA
  apply jw
  have jC : Fr 212 [] [⟨1, [], pt p 0⟩, ⟨2, [], pt m 0⟩, ⟨5, [], pt j 0⟩, ⟨6, [], pt h 0⟩, ⟨7, [], pt a 0⟩, ⟨8, [], pt i 0⟩, ⟨9, [], pt B 0⟩, ⟨10, [], .func (.func 32) #[] #[pt B 0]⟩, ⟨11, [], .func (.func 33) #[] #[pt a 0]⟩] n9 := jz.reg
  refine wp_seq (rgS mixed jB [(0, true), (1, true), (2, true), (3, true), (4, false), (5, true), (6, true), (7, false)] [7] [3] [.row j [i6 F.1, .bool (z.1 == ([49] : List UInt8)), .bool false, .bool (N.1 == ([49] : List UInt8)), i6 0, .slice none 0 0] 24] ?_)
  intro oa jD qQ ea
  have eb := Fz.le.refl jy
  refine cS jC 4 [0] [] [(50, i6 (bShl .i64 F.1 18)), (51, .func (.func 32) #[] #[pt B 0])] ?_; intro qR jE
  refine eS rfl ?_; intro ob jF
  obtain ⟨oc, od⟩ := n7
  refine ck jE 32 #[i6 18, pt B 0] ?_
  refine (rbn_fun 18 u0 z.2.1 U z.2.2.2 oc B 0 p 0 i a h _ _ _ _ _ _ R M (ea.perm ((pk 1 rfl).trans (lpr.cons _))) ea.fz).mono ?_; rintro _ oe ⟨jG, rfl, bu, hm⟩; refine ⟨_, rfl, ?_⟩; intro qS jH; have jI := hm
  replace M := M.mono bu
  replace R := R.mono bu
  replace aX := aX.mono bu
  replace eb := eb.mono bu
  have ec : Mem w.heap.size [] w Z [.row i [str (rbnS 18 u0 z.2.1 U z.2.2.2).2.1] 9, .row a [i6 (rbnS 18 u0 z.2.1 U z.2.2.2).2.2.1] 25, .row h [i6 (rbnS 18 u0 z.2.1 U z.2.2.2).2.2.2] 3, .row j [i6 F.1, .bool (z.1 == ([49] : List UInt8)), .bool false, .bool (N.1 == ([49] : List UInt8)), i6 0, .slice none 0 0] 24, .row m [i6 0, .bool false, .bool false, .bool false, i6 0, .slice none 0 0] 24] jG oe := jI
  refine nl (qnI (jF _ _ (ec.cst eb [3]) ?_))
  refine cS jH 2 [] [] [(53, i6 (w64 ((bShl .i64 F.1 18) + (rbnS 18 u0 z.2.1 U z.2.2.2).1))), (54, pt j 0)] ?_; intro qT ed
  refine eL rfl ?_; intro og jJ
  refine sx ed ec 3 [i6 (w64 ((bShl .i64 F.1 18) + (rbnS 18 u0 z.2.1 U z.2.2.2).1)), .bool (z.1 == ([49] : List UInt8)), .bool false, .bool (N.1 == ([49] : List UInt8)), i6 0, .slice none 0 0] 0 ?_; intro oh jK
  have dc : Mem w.heap.size [] w Z [.row i [str (rbnS 18 u0 z.2.1 U z.2.2.2).2.1] 9, .row a [i6 (rbnS 18 u0 z.2.1 U z.2.2.2).2.2.1] 25, .row h [i6 (rbnS 18 u0 z.2.1 U z.2.2.2).2.2.2] 3, .row j [i6 (w64 ((bShl .i64 F.1 18) + (rbnS 18 u0 z.2.1 U z.2.2.2).1)), .bool (z.1 == ([49] : List UInt8)), .bool false, .bool (N.1 == ([49] : List UInt8)), i6 0, .slice none 0 0] 24, .row m [i6 0, .bool false, .bool false, .bool false, i6 0, .slice none 0 0] 24] jG oh := jK
  refine nl (qnI (jJ _ _ ?_))
  refine nS (jD _ _ ?_)
  refine t_ (rgH ?_); intro oi jL
  refine z1 ed dc 55 R 0 (.func (.func 30) #[] #[pt p 0, pt i 0, pt a 0, pt h 0]) rfl ?_; intro qU jM
  obtain ⟨oj, jN⟩ := od
  refine ck jM 30 #[pt p 0, pt i 0, pt a 0, pt h 0] ?_
  obtain ⟨ag, ok, ol⟩ := hxq jN
  have l := rbb_fun u0 (rbnS 18 u0 z.2.1 U z.2.2.2).2.1 (rbnS 18 u0 z.2.1 U z.2.2.2).2.2.1 (rbnS 18 u0 z.2.1 U z.2.2.2).2.2.2 oj p 0 i a h _ _ _ _ _ _ M dc dc.fz; rw [ok] at l; refine l.mono ?_; rintro _ om ⟨ee, rfl, b6, hm⟩; refine ⟨_, rfl, ?_⟩; intro qV jO; have jP := hm
  replace aX := aX.mono b6
  have ef : Mem w.heap.size [] w Z [.row i [str ag.2.1] 9, .row a [i6 ag.2.2.1] 25, .row h [i6 ag.2.2.2] 3, .row j [i6 (w64 ((bShl .i64 F.1 18) + (rbnS 18 u0 z.2.1 U z.2.2.2).1)), .bool (z.1 == ([49] : List UInt8)), .bool false, .bool (N.1 == ([49] : List UInt8)), i6 0, .slice none 0 0] 24, .row m [i6 0, .bool false, .bool false, .bool false, i6 0, .slice none 0 0] 24] ee om := jP
  refine bt jO ef 2 [] [269] [(57, .bool (ag.1 == ([49] : List UInt8))), (58, pt j 3)] ?_; intro qW jQ
  refine sx jQ ef 3 [i6 (w64 ((bShl .i64 F.1 18) + (rbnS 18 u0 z.2.1 U z.2.2.2).1)), .bool (z.1 == ([49] : List UInt8)), .bool false, .bool (ag.1 == ([49] : List UInt8)), i6 0, .slice none 0 0] 3 ?_; intro oo jR
  have op : Mem w.heap.size [] w Z [.row i [str ag.2.1] 9, .row a [i6 ag.2.2.1] 25, .row h [i6 ag.2.2.2] 3, .row j [i6 (w64 ((bShl .i64 F.1 18) + (rbnS 18 u0 z.2.1 U z.2.2.2).1)), .bool (z.1 == ([49] : List UInt8)), .bool false, .bool (ag.1 == ([49] : List UInt8)), i6 0, .slice none 0 0] 24, .row m [i6 0, .bool false, .bool false, .bool false, i6 0, .slice none 0 0] 24] ee oo := jR
  apply jL
  exact d_ (fo ag.2.1 ag.2.2.1 ag.2.2.2 (⟨w64 ((bShl .i64 F.1 18) + (rbnS 18 u0 z.2.1 U z.2.2.2).1), z.1 == ([49] : List UInt8), false, ag.1 == ([49] : List UInt8), 0, []⟩ : Frame) ee ⟨ol, aX⟩ _ _ ((jQ.reg).anyβ _ (by kernel_rfl)) (op.kp))
 exact l_ (d_ (fo z.2.1 z.2.2.1 z.2.2.2 (⟨F.1, z.1 == ([49] : List UInt8), false, N.1 == ([49] : List UInt8), 0, []⟩ : Frame) bv ⟨oq, aX⟩ _ _ ((fm.reg).anyβ _ (by kernel_rfl)) (aY.kp)))
end Go.Proofs.YtmnlahbngbigdaaGreatDoor
set_option linter.unusedVariables false
set_option linter.unusedSimpArgs false
set_option linter.defProp false
set_option maxRecDepth 100000
set_option maxHeartbeats 0
namespace Go.Proofs.YtmnlahbngbigdaaGreatDoor
open Go.Sy Go.RowKit
abbrev e24Sd (X : Frame) (A0 : Option Addr) (C0 : Nat) : List Value := [i6 X.ID, .bool X.Long, .bool X.Fast, .bool X.Remote, i6 X.Size, .slice A0 X.Data.length C0]
def rreadbits_fun (u0 : List UInt8) (hpre : bcheckS u0 = 0)  (Z : Fz) (w : World) (hg5 : SlR t8 Z (sm 5) 64 deBruijn64) (hZ : Z.on w) := fc_ (rreadbits_walk u0  Z w hg5 hZ (rreadbits_ok u0 hpre))
theorem rbitsof_walk (u0 : Frame) (ao1 : Option Addr) (cap2 : Nat) (Z : Fz) (w : World) (hs3 : SlR t8 Z ao1 cap2 u0.Data) (hg5 : SlR t8 Z (sm 5) 64 deBruijn64) (hZ : Z.on w) {K : (List UInt8) → Prop} (hp : rbitsof_vc u0 K) : Calls Tryz.prog 13 #[.agg #[i6 u0.ID, .bool u0.Long, .bool u0.Fast, .bool u0.Remote, i6 u0.Size, .slice ao1 u0.Data.length cap2]] w fun e w' => ∃ r : (List UInt8), e = .returned (str r) ∧ K r ∧ Below w.heap.size w w' := by
 refine enter0 Tryz.func13 rfl rfl (by kernel_rfl) ?_; intro a0 i; have j := Mem.start w Z hZ
 have J := hp (hs3.small)
 refine sqH ?_; intro L k
 refine nw i j pb (e24Sd u0 ao1 cap2) 24 ?_; intro b6 a7 ap l c
 refine s1 l 2 (str []) ?_; intro aq m
 apply k
 refine sqH ?_; intro M n
 refine l2 m c 5 0 0 6 (e24Sd u0 ao1 cap2) rfl rfl ?_; intro ar o
 obtain ⟨N, d⟩ := J
 refine fc o c (rhead_fun u0 N ao1 cap2 _ _ hs3 hg5 c.fz) ?_; intro au av p a
 refine s1 p 3 (str (fheadS u0)) ?_; intro aw q
 apply n
 refine s_ (sqB q a [0] [] [(9, .bool (!u0.Fast))] ?_); intro ax b
 refine cd b (t := !u0.Fast) (by kernel_rfl) (fun g => ?_) (fun g => ?_)
 · -- yes
  have O := d.1 g
  refine sqH ?_; intro P s
  refine bt b a 2 [] [] [(10, str (fheadS u0)), (11, str (fheadS u0))] ?_; intro ay u
  obtain ⟨Q, R⟩ := O
  refine fc u a (rsumof_fun 0 (fheadS u0) Q _ _ hg5 a.fz) ?_; intro az aA v h
  obtain ⟨S, T⟩ := R
  refine sa v S ?_; intro aB x
  obtain ⟨U, V⟩ := T
  refine fc x h (putbits_fun ((fheadS u0) ++ (sumR 0 (fheadS u0))) U _ _ h.fz) ?_; intro aC aD y W
  obtain ⟨X, Y⟩ := V
  refine sa y X ?_; intro aE z
  refine s1 z 2 (str ((putbitsS ((fheadS u0) ++ (sumR 0 (fheadS u0)))) ++ ([49, 49, 49, 49, 49, 49, 49, 49, 49, 49] : List UInt8))) ?_; intro aF aa
  apply s
  exact r_ (h_ (ra1 aa (str ((putbitsS ((fheadS u0) ++ (sumR 0 (fheadS u0)))) ++ ([49, 49, 49, 49, 49, 49, 49, 49, 49, 49] : List UInt8))) ⟨(putbitsS ((fheadS u0) ++ (sumR 0 (fheadS u0)))) ++ ([49, 49, 49, 49, 49, 49, 49, 49, 49, 49] : List UInt8), rfl, Y, W.below⟩))
 · -- no
  have ab := d.2 g
  refine k_ (sqH ?_); intro ac A
  refine s1 b 16 (str (fheadS u0)) ?_; intro aG B
  obtain ⟨ad, ae⟩ := ab
  refine fc B a (putbits_fun (fheadS u0) ad _ _ a.fz) ?_; intro aH aI C f
  refine s1 C 4 (str (putbitsS (fheadS u0))) ?_; intro aJ D
  apply A
  refine sqH ?_; intro af E
  refine bt D f 6 [0] [] [(18, str (putbitsS (fheadS u0))), (19, str (fheadS u0)), (20, str (putbitsS (fheadS u0))), (23, i6 (u0.Data.length : Int))] ?_; intro aK F
  obtain ⟨ag, ah⟩ := ae
  refine fc F f (rfastend_fun (fheadS u0) (putbitsS (fheadS u0)) (u0.Data.length : Int) ag _ _ hg5 f.fz) ?_; intro aL aM G ai
  obtain ⟨aj, ak⟩ := ah
  refine sa G aj ?_; intro aN H
  obtain ⟨al, am⟩ := ak
  refine sa H al ?_; intro aO I
  refine s1 I 2 (str (((putbitsS (fheadS u0)) ++ (rfastendS (fheadS u0) (putbitsS (fheadS u0)) (u0.Data.length : Int))) ++ ([49, 49, 49, 49, 49, 49, 49, 49, 49, 49] : List UInt8))) ?_; intro aP an
  apply E
  exact r_ (ra1 an (str (((putbitsS (fheadS u0)) ++ (rfastendS (fheadS u0) (putbitsS (fheadS u0)) (u0.Data.length : Int))) ++ ([49, 49, 49, 49, 49, 49, 49, 49, 49, 49] : List UInt8))) ⟨((putbitsS (fheadS u0)) ++ (rfastendS (fheadS u0) (putbitsS (fheadS u0)) (u0.Data.length : Int))) ++ ([49, 49, 49, 49, 49, 49, 49, 49, 49, 49] : List UInt8), rfl, am, ai.below⟩)
theorem wnoise_walk (u0 : Frame) (u1 : List Int) (ao1 : Option Addr) (cap2 : Nat) (ao4 : Option Addr) (cap5 : Nat) (Z : Fz) (w : World) (hs3 : SlR t8 Z ao1 cap2 u0.Data) (hs6 : SlR t6 Z ao4 cap5 u1) (hZ : Z.on w) {K : (Frame × Int) → Prop} (hp : wnoise_vc u0 u1 K) : Calls Tryz.prog 11 #[.agg #[i6 u0.ID, .bool u0.Long, .bool u0.Fast, .bool u0.Remote, i6 u0.Size, .slice ao1 u0.Data.length cap2], .slice ao4 u1.length cap5] w fun e w' => ∃ (r : Frame × Int) (ao1001 : Option Addr) (cap1002 : Nat) (Z' : Fz), e = .returned (.tuple #[.agg #[i6 r.1.ID, .bool r.1.Long, .bool r.1.Fast, .bool r.1.Remote, i6 r.1.Size, .slice ao1001 r.1.Data.length cap1002], i6 r.2]) ∧ K r ∧ SlR t8 Z' ao1001 cap1002 r.1.Data ∧ Mem w.heap.size [] w Z [] Z' w' := by
 refine enter0 Tryz.func11 rfl rfl (by kernel_rfl) ?_; intro a0 aa; have ab := Mem.start w Z hZ
 have bj := hp (hs3.small) (hs6.small)
 refine sqH ?_; intro bk af
 refine nw aa ab pb (e24Sd u0 ao1 cap2) 24 ?_; intro l ch ci ag ah
 refine nw ag ah pb [i6 0, .bool false, .bool false, .bool false, i6 0, .slice none 0 0] 24 ?_; intro d cj cl ai B
 refine s1 ai 5 (i6 0) ?_; intro cm aj
 apply af
 refine sqH ?_; intro bl ak
 refine l2 aj B 14 1 0 6 (e24Sd u0 ao1 cap2) rfl rfl ?_; intro cn al
 obtain ⟨bm, C⟩ := bj
 refine fc al B (fBits_fun u0 bm ao1 cap2 _ _ hs3 B.fz) ?_; intro co cp am m
 refine bt am m 5 [] [] [(6, str (BitsS u0).1), (7, i6 (BitsS u0).2)] ?_; intro cq an
 apply ak
 refine s_ (sqB an m [] [] [(19, .bool ((BitsS u0).2 != 0))] ?_); intro cr x
 refine cd x (t := (BitsS u0).2 != 0) (by kernel_rfl) (fun I => ?_) (fun I => ?_)
 · -- yes
  have bn := C.1 I
  refine sqH ?_; intro bo ap
  refine bt x m 2 [] [] [(20, .agg #[i6 0, .bool false, .bool false, .bool false, i6 0, .slice none 0 0]), (21, i6 (BitsS u0).2)] ?_; intro cs J
  refine sx J m 0 [i6 0, .bool false, .bool false, .bool false, i6 0, .slice none 0 0] 0 ?_; intro bp aq
  refine s1 J 5 (i6 (BitsS u0).2) ?_; intro ct ar
  have au : Mem w.heap.size [] w Z [.row d [i6 0, .bool false, .bool false, .bool false, i6 0, .slice none 0 0] 24, .row l (e24Sd u0 ao1 cap2) 24] Z bp := aq
  apply ap
  refine r_ (h_ (rt (fn := Tryz.f11) (v := .tuple #[.agg #[i6 0, .bool false, .bool false, .bool false, i6 0, .slice none 0 0], i6 (BitsS u0).2]) ar (re2c ar (fn := Tryz.f11) rfl (ad := ⟨d, 0, none⟩) (by kernel_rfl) (loadVar_run au 0 (b := d) (k := 6) (vs := [i6 0, .bool false, .bool false, .bool false, i6 0, .slice none 0 0]) (ty := 24) rfl (by kernel_rfl) (by kernel_rfl)) (by kernel_rfl)) ?_))
  exact ⟨((⟨0, false, false, false, 0, []⟩ : Frame), (BitsS u0).2), none, 0, Z, rfl, bn, (SlR.nil _ _), au.kp⟩
 · -- no
  have D := C.2 I
  refine k_ (s_ (sqB x m [] [] [(24, .bool (decide ((u1.length : Int) > 1000)))] ?_)); intro cu y
  refine cd y (t := decide ((u1.length : Int) > 1000)) (by kernel_rfl) (fun L => ?_) (fun L => ?_)
  · -- yes
   have bq := D.1 L
   refine sqH ?_; intro br av
   refine s1 y 25 (.agg #[i6 0, .bool false, .bool false, .bool false, i6 0, .slice none 0 0]) ?_; intro cv M
   refine sx M m 0 [i6 0, .bool false, .bool false, .bool false, i6 0, .slice none 0 0] 0 ?_; intro bs aw
   refine s1 M 5 (i6 2) ?_; intro cw ax
   have ay : Mem w.heap.size [] w Z [.row d [i6 0, .bool false, .bool false, .bool false, i6 0, .slice none 0 0] 24, .row l (e24Sd u0 ao1 cap2) 24] Z bs := aw
   apply av
   refine r_ (h_ (rt (fn := Tryz.f11) (v := .tuple #[.agg #[i6 0, .bool false, .bool false, .bool false, i6 0, .slice none 0 0], i6 2]) ax (re2c ax (fn := Tryz.f11) rfl (ad := ⟨d, 0, none⟩) (by kernel_rfl) (loadVar_run ay 0 (b := d) (k := 6) (vs := [i6 0, .bool false, .bool false, .bool false, i6 0, .slice none 0 0]) (ty := 24) rfl (by kernel_rfl) (by kernel_rfl)) (by kernel_rfl)) ?_))
   exact ⟨((⟨0, false, false, false, 0, []⟩ : Frame), 2), none, 0, Z, rfl, bq, (SlR.nil _ _), ay.kp⟩
  · -- no
   have bu := D.2 L
   refine k_ (sqH ?_); intro bv az
   refine s1 y 26 (str (BitsS u0).1) ?_; intro cx aA
   obtain ⟨bw, bx⟩ := bu
   refine s2b aA m bw (e := 5) (nog rfl _) rfl (by kernel_rfl) rfl (by kernel_rfl) (by kernel_rfl) (by kernel_rfl) (by kernel_rfl) ?_; intro h f cy bz aB aC
   have N : Mem w.heap.size [] w Z [.mrk t8 5 h f (istr (BitsS u0).1), .row d [i6 0, .bool false, .bool false, .bool false, i6 0, .slice none 0 0] 24, .row l (e24Sd u0 ao1 cap2) 24] Z bz := aC
   refine s1 aB 8 (.slice h (istr (BitsS u0).1).length f) ?_; intro cz aD
   apply az
   refine s_ (sqB aD N [] [] [(28, .slice ao4 u1.length cap5), (29, i6 (u1.length : Int)), (30, i6 0)] ?_); intro aE aF
   apply b_
   have aG : Fr 59 [] [⟨4, [], pt d 0⟩, ⟨8, [], .slice h (istr (BitsS u0).1).length f⟩, ⟨28, [], .slice ao4 u1.length cap5⟩, ⟨29, [], i6 (u1.length : Int)⟩, ⟨30, [], i6 0⟩] aE := aF.reg
   obtain ⟨bA, bB, bC, bD⟩ := bx
   refine lp (ι := Int × (List Int)) (fun s => [⟨4, [], pt d 0⟩, ⟨8, [], .slice h s.2.length f⟩, ⟨28, [], .slice ao4 u1.length cap5⟩, ⟨29, [], i6 (u1.length : Int)⟩, ⟨30, [], i6 s.1⟩]) (fun s => [.mrk t8 5 h f s.2, .row d [i6 0, .bool false, .bool false, .bool false, i6 0, .slice none 0 0] 24, .row l (e24Sd u0 ao1 cap2) 24]) (fun s => Z) (fun s => bA s.1 s.2) (fun s => bB s.1 s.2) ⟨0, istr (BitsS u0).1⟩ bC (by exact aG.region (by kernel_rfl) (by kernel_rfl)) (by exact N) ?_
   rintro ⟨p, a⟩ bE bF bG aI aJ
   have E := bD p a bE
   refine sqB aI aJ [] [] [(31, .bool (decide (p < (u1.length : Int))))] ?_; intro cA z
   apply s_
   refine cd z (t := decide (p < (u1.length : Int))) (by kernel_rfl) (fun O => ?_) (fun O => ?_)
   · -- yes
    have bH := E.1 O
    refine k_ (s_ (b_ (sqH ?_))); intro bI aL
    obtain ⟨bJ, aM⟩ := bH
    refine ix_ z hs6 p bJ .i64 3 8 ?_; intro bK bL bM c cB bN bO bP aN
    have F := aM c bN
    obtain rfl : bM = ([i6 c] : List Value) := bP
    refine z1 aN aJ 33 bO 0 (i6 c) rfl ?_; intro cC aO
    refine s1 aO 10 (i6 c) ?_; intro cD aP
    apply aL
    refine s_ (sqB aP aJ [] [] [(41, .bool ((decide (c < 0)) || (decide (c ≥ (a.length : Int)))))] ?_); intro cE A
    refine cd A (t := (decide (c < 0)) || (decide (c ≥ (a.length : Int)))) (by kernel_rfl) (fun P => ?_) (fun P => ?_)
    · -- yes
     have bQ := F.1 P
     refine sqH ?_; intro bR aQ
     refine s1 A 42 (.agg #[i6 0, .bool false, .bool false, .bool false, i6 0, .slice none 0 0]) ?_; intro cF Q
     refine sx Q aJ 1 [i6 0, .bool false, .bool false, .bool false, i6 0, .slice none 0 0] 0 ?_; intro bS aR
     refine s1 Q 5 (i6 3) ?_; intro cG aS
     have aT : Mem w.heap.size [] w Z [.mrk t8 5 h f a, .row d [i6 0, .bool false, .bool false, .bool false, i6 0, .slice none 0 0] 24, .row l (e24Sd u0 ao1 cap2) 24] Z bS := aR
     apply aQ
     refine r_ (h_ (i_ (h_ (h_ (i_ (h_ (rt (fn := Tryz.f11) (v := .tuple #[.agg #[i6 0, .bool false, .bool false, .bool false, i6 0, .slice none 0 0], i6 3]) aS (re2c aS (fn := Tryz.f11) rfl (ad := ⟨d, 0, none⟩) (by kernel_rfl) (loadVar_run aT 1 (b := d) (k := 6) (vs := [i6 0, .bool false, .bool false, .bool false, i6 0, .slice none 0 0]) (ty := 24) rfl (by kernel_rfl) (by kernel_rfl)) (by kernel_rfl)) ?_)))))))
     exact ⟨((⟨0, false, false, false, 0, []⟩ : Frame), 3), none, 0, Z, rfl, bQ, (SlR.nil _ _), aT.kp⟩
    · -- no
     have bT := F.2 P
     refine k_ (rgH ?_); intro bU aU
     refine bt A aJ 2 [] [] [(43, .slice h a.length f), (44, i6 c)] ?_; intro cH aV
     obtain ⟨bV, aW⟩ := bT
     refine ixoM aV aJ 0 (T := t8) (xs := a) c bV (k := .i64) (e := 5) (bytes := 1) (nog rfl _) rfl (by kernel_rfl) rfl (by kernel_rfl) (by kernel_rfl) rfl (by kernel_rfl) ?_; intro q cI bW aX
     subst bW
     obtain ⟨j, bX, bY⟩ := gxq aW (by first | omega | (simp only [List.length_set] at *; omega))
     obtain ⟨bZ, b0, b1⟩ := own_elM aJ 0 (T := t8) (xs := a) rfl c.toNat bX
     obtain rfl : bZ = ([y8 j] : List Value) := b0
     refine lc1 aX 46 (y8 j) (b1 0 _ rfl) rfl ?_; intro cJ aY
     refine s1 aY 47 (y8 (bXor .u8 j 1)) ?_; intro cK aZ
     obtain ⟨b2, a1⟩ := bY
     refine ixoM aZ aJ 0 (T := t8) (xs := a) c b2 (k := .i64) (e := 5) (bytes := 1) (nog rfl _) rfl (by kernel_rfl) rfl (by kernel_rfl) (by kernel_rfl) rfl (by kernel_rfl) ?_; intro b3 b4 b5 G
     obtain rfl : q = b3 := by simpa using b5
     refine soM G aJ 0 (T := t8) (xs := a) c.toNat (bXor .u8 j 1) (u := y8 (bXor .u8 j 1)) (nog rfl _) rfl rfl (by kernel_rfl) rfl (by kernel_rfl) rfl (by kernel_rfl) (by first | omega | (simp only [List.length_set] at *; omega)) rfl ?_; intro b6 a2
     have a3 : Fr 59 [] [⟨4, [], pt d 0⟩, ⟨8, [], .slice (sm q) (a.set c.toNat (bXor .u8 j 1)).length f⟩, ⟨10, [], i6 c⟩, ⟨28, [], .slice ao4 u1.length cap5⟩, ⟨29, [], i6 (u1.length : Int)⟩, ⟨30, [], i6 p⟩, ⟨31, [], .bool (decide (p < (u1.length : Int)))⟩, ⟨32, [], pt bK bL⟩, ⟨33, [], i6 c⟩, ⟨41, [], .bool ((decide (c < 0)) || (decide (c ≥ (a.length : Int))))⟩, ⟨43, [], .slice (sm q) (a.set c.toNat (bXor .u8 j 1)).length f⟩, ⟨44, [], i6 c⟩, ⟨45, [], .pointer (some ⟨q, c.toNat * 1, none⟩)⟩, ⟨46, [], y8 j⟩, ⟨47, [], y8 (bXor .u8 j 1)⟩, ⟨48, [], .pointer (some ⟨q, c.toNat * 1, none⟩)⟩] b4 := by (try simp only [List.length_set] at G); (try simp only [List.length_set]); exact G.region (by kernel_rfl) (by kernel_rfl)
     have a4 : Mem w.heap.size [] w Z [.mrk t8 5 (sm q) f (a.set c.toNat (bXor .u8 j 1)), .row d [i6 0, .bool false, .bool false, .bool false, i6 0, .slice none 0 0] 24, .row l (e24Sd u0 ao1 cap2) 24] Z b6 := a2
     apply aU
     refine j_ (t_ (rgB a3 a4 [] [] [(30, i6 (w64 (p + 1)))] ?_)); intro cL b7
     exact d_ ⟨⟨w64 (p + 1), a.set c.toNat (bXor .u8 j 1)⟩, a1.1, a1.2, (b7.region (by kernel_rfl) (by kernel_rfl)).anyβ _ (by kernel_rfl), a4.kp⟩
   · -- no
    have a5 := E.2 O
    refine x_ (y_ (y_ (z_ (t_ (sqH ?_))))); intro b8 a6
    refine s1 z 51 (.slice h a.length f) ?_; intro cM R
    refine u_ R (str (bstr a)) ((by obtain ⟨Z9, cN, b9, ca⟩ := aJ.lendM 0 rfl; exact bstr_op R (g := []) (e := 5) (ao := h) (cap := f) (xs := a) rfl (by kernel_rfl) (by kernel_rfl) (by kernel_rfl) (by kernel_rfl)  ca b9 rfl)) ?_; intro cO a7
    refine ck a7 5 #[str (bstr a)] ?_
    refine (fRead_fun (bstr a) _ _ aJ.fz).mono ?_; rintro _ cb ⟨n, o, H, rfl, a8, hm⟩; refine ⟨_, rfl, ?_⟩; intro cP a9; have ba := aJ.callZ hm
    have U : Mem w.heap.size [] w Z [.mrk t8 5 h f a, .row d [i6 0, .bool false, .bool false, .bool false, i6 0, .slice none 0 0] 24, .row l (e24Sd u0 ao1 cap2) 24] H cb := ba
    have cc := a5 (a8.small)
    refine bt a9 U 4 [] [] [(54, .agg (e24Sd ((readS (bstr a)).1) n o).toArray), (55, i6 (readS (bstr a)).2.1), (56, i6 (readS (bstr a)).2.2)] ?_; intro cQ bb
    refine nw bb U pb [i6 0, .bool false, .bool false, .bool false, i6 0, .slice none 0 0] 24 ?_; intro bc cR cS V bd
    refine sx V bd 0 (e24Sd ((readS (bstr a)).1) n o) 0 ?_; intro ce W
    refine bt V W 2 [] [] [(7, i6 (readS (bstr a)).2.2)] ?_; intro cT be
    have X : Mem w.heap.size [] w Z [.row bc (e24Sd ((readS (bstr a)).1) n o) 24, .mrk t8 5 h f a, .row d [i6 0, .bool false, .bool false, .bool false, i6 0, .slice none 0 0] 24, .row l (e24Sd u0 ao1 cap2) 24] H ce := W
    apply a6
    refine sqH ?_; intro cf bf
    refine bt be X 2 [0] [] [(57, .agg (e24Sd ((readS (bstr a)).1) n o).toArray), (58, i6 (readS (bstr a)).2.2)] ?_; intro cU Y
    refine sx Y X 2 (e24Sd ((readS (bstr a)).1) n o) 0 ?_; intro cg bg
    refine s1 Y 5 (i6 (readS (bstr a)).2.2) ?_; intro cV bh
    have bi : Mem w.heap.size [] w Z [.row bc (e24Sd ((readS (bstr a)).1) n o) 24, .mrk t8 5 h f a, .row d (e24Sd ((readS (bstr a)).1) n o) 24, .row l (e24Sd u0 ao1 cap2) 24] H cg := bg
    apply bf
    refine r_ (rt (fn := Tryz.f11) (v := .tuple #[.agg (e24Sd ((readS (bstr a)).1) n o).toArray, i6 (readS (bstr a)).2.2]) bh (re2c bh (fn := Tryz.f11) rfl (ad := ⟨d, 0, none⟩) (by kernel_rfl) (loadVar_run bi 2 (b := d) (k := 6) (vs := (e24Sd ((readS (bstr a)).1) n o)) (ty := 24) rfl (by kernel_rfl) (by kernel_rfl)) (by kernel_rfl)) ?_)
    exact ⟨((readS (bstr a)).1, (readS (bstr a)).2.2), n, o, H, rfl, cc, a8, bi.kp⟩
end Go.Proofs.YtmnlahbngbigdaaGreatDoor
set_option linter.unusedVariables false
set_option linter.unusedSimpArgs false
set_option linter.defProp false
set_option maxRecDepth 100000
set_option maxHeartbeats 0
namespace Go.Proofs.YtmnlahbngbigdaaGreatDoor
open Go.Sy Go.RowKit
abbrev e24Wc (X : Frame) (A0 : Option Addr) (C0 : Nat) : List Value := [i6 X.ID, .bool X.Long, .bool X.Fast, .bool X.Remote, i6 X.Size, .slice A0 X.Data.length C0]
def wired_fun   (Z : Fz) (w : World)  (hZ : Z.on w) := f_ (wired_walk   Z w  hZ (wired_ok ))
def rbitsof_fun (u0 : Frame) (hpre : fcheckfr u0 = 0 ∧ ∀ x ∈ u0.Data, 0 ≤ x ∧ x ≤ 255) (ao1 : Option Addr) (cap2 : Nat) (Z : Fz) (w : World) (hs3 : SlR t8 Z ao1 cap2 u0.Data) (hg5 : SlR t8 Z (sm 5) 64 deBruijn64) (hZ : Z.on w) := f_ (rbitsof_walk u0 ao1 cap2 Z w hs3 hg5 hZ (rbitsof_ok u0 hpre))
theorem LNoise_walk (u0 : Frame) (u1 : List Int) (ao1 : Option Addr) (cap2 : Nat) (ao4 : Option Addr) (cap5 : Nat) (Z : Fz) (w : World) (hs3 : SlR t8 Z ao1 cap2 u0.Data) (hs6 : SlR t6 Z ao4 cap5 u1) (hg5 : SlR t8 Z (sm 5) 64 deBruijn64) (hZ : Z.on w) {K : Bool → Prop} (hp : LNoise_vc u0 u1 K) : Calls Tryz.prog 4 #[.agg #[i6 u0.ID, .bool u0.Long, .bool u0.Fast, .bool u0.Remote, i6 u0.Size, .slice ao1 u0.Data.length cap2], .slice ao4 u1.length cap5] w fun e w' => ∃ r : Bool, e = .returned (.bool r) ∧ K r ∧ Below w.heap.size w w' := by
 refine enter0 Tryz.func4 rfl rfl (by kernel_rfl) ?_; intro a0 bo; have bp := Mem.start w Z hZ
 have dC := hp (hs3.small) (hs6.small)
 refine sqH ?_; intro dD br
 refine nw bo bp pb (e24Wc u0 ao1 cap2) 24 ?_; intro u eY eZ bs aa
 refine s1 bs 4 (.bool false) ?_; intro e0 bu
 apply br
 refine sqH ?_; intro dE bv
 refine bt bu aa 2 [0] [] [(15, .agg (e24Wc u0 ao1 cap2).toArray), (16, .slice ao4 u1.length cap5)] ?_; intro e1 bw
 refine ck bw 11 #[.agg (e24Wc u0 ao1 cap2).toArray, .slice ao4 u1.length cap5] ?_
 refine (wnoise_walk u0 u1 ao1 cap2 ao4 cap5 _ _ hs3 hs6 aa.fz dC).mono ?_; rintro _ dF ⟨a, d, f, ab, rfl, bx, F, hm⟩; refine ⟨_, rfl, ?_⟩; intro e2 bz; have bA := aa.callZ hm; have ac := hm.ext.le
 replace hs3 := hs3.mono ac
 replace hs6 := hs6.mono ac
 replace hg5 := hg5.mono ac
 have aG : Mem w.heap.size [] w Z [.row u (e24Wc u0 ao1 cap2) 24] ab dF := bA
 have ad := bx (F.small)
 refine bt bz aG 3 [] [] [(18, .agg (e24Wc a.1 d f).toArray), (19, i6 a.2)] ?_; intro e3 bB
 refine nw bB aG pb [i6 0, .bool false, .bool false, .bool false, i6 0, .slice none 0 0] 24 ?_; intro h e4 e5 aH bC
 refine sx aH bC 0 (e24Wc a.1 d f) 0 ?_; intro dG bD
 refine s1 aH 6 (i6 a.2) ?_; intro e6 bE
 have ae : Mem w.heap.size [] w Z [.row h (e24Wc a.1 d f) 24, .row u (e24Wc u0 ao1 cap2) 24] ab dG := bD
 apply bv
 refine sqH ?_; intro dH bF
 refine l2 bE ae 20 1 0 6 (e24Wc u0 ao1 cap2) rfl rfl ?_; intro e7 bG
 refine fc bG ae (rcheckfr_fun u0 ao1 cap2 _ _ hs3 ae.fz) ?_; intro e8 e9 bH l
 refine s1 bH 7 (i6 (fcheckfr u0)) ?_; intro fa bI
 apply bF
 refine s_ (sqB bI l [] [] [(28, .bool (((fcheckfr u0) == 0) && (decide ((u1.length : Int) > 1000))))] ?_); intro fb N
 refine cd N (t := ((fcheckfr u0) == 0) && (decide ((u1.length : Int) > 1000))) (by kernel_rfl) (fun aI => ?_) (fun aI => ?_)
 · -- yes
  have dI := ad.1 aI
  refine rgB N l [] [] [(7, i6 2)] ?_; intro fd bJ
  refine t_ (sqB bJ l [] [] [(8, str [])] ?_); intro fe bK
  refine s_ (sqB bK l [] [] [(30, .bool false)] ?_); intro ff aJ
  refine cdF aJ (by kernel_rfl) ?_
  refine k_ (s_ (sqH ?_)); intro dJ bL
  refine fc aJ l (wired_fun  _ _ l.fz) ?_; intro fg fh bM af
  refine bt bM af 5 [] [66, 67, 68] [(68, .bool true)] ?_; intro fi aK
  apply bL
  refine cdT aK (by kernel_rfl) ?_
  refine sqH ?_; intro dK bN
  refine fc aK af (wired_fun  _ _ af.fz) ?_; intro fj fk bO ag
  refine s1 bO 70 (.bool true) ?_; intro fl ah
  refine g_ ah true (i6 a.2) ?_; intro fm ai
  refine g_ ai true (i6 2) ?_; intro fn aj
  refine g_ aj true (.bool (a.2 == 2)) ?_; intro fo bP
  refine s1 bP 74 (.bool (a.2 == 2)) ?_; intro fp bQ
  refine s1 bQ 75 (.bool (a.2 == 2)) ?_; intro fq bR
  have aL := bR.atom ((a.2 == 2) == true) (by kernel_rfl)
  refine gd aL (.agg (e24Wc a.1 d f).toArray) (m := 0) (cj := []) (bj := a.2 == 2) rfl rfl (by kernel_rfl) rfl (by kernel_rfl) (by kernel_rfl) (by kernel_rfl) (fun hg => lda aL ag 0 (g := [0]) (b := h) (off := 0) (k := 6) (cs := (e24Wc a.1 d f)) (vs := (e24Wc a.1 d f)) (ty := 24) rfl (by kernel_rfl) (by kernel_rfl) (by kernel_rfl) (by kernel_rfl) (by kernel_rfl) hg) ?_; intro fr bS
  refine gcl bS ag (.bool (nofrS a.1)) 8 #[.agg (e24Wc a.1 d f).toArray] (m := 0) (cj := []) (bj := a.2 == 2) rfl rfl (by kernel_rfl) rfl (by kernel_rfl) (by kernel_rfl) (by kernel_rfl) (fun _ => by kernel_rfl) (fun hg => nofr_fun a.1 d f _ _ F ag.fz) ?_; intro fs ft aM dL
  refine u_ aM (.bool ((a.2 == 2) && (nofrS a.1))) (pk_and aM (g := []) (m := 0) (b := a.2 == 2) (v := (nofrS a.1)) rfl (by kernel_rfl) (by kernel_rfl) (by kernel_rfl) rfl) ?_; intro fu bT
  refine s1 bT 4 (.bool ((a.2 == 2) && (nofrS a.1))) ?_; intro fv dM
  apply bN
  exact r_ (h_ (ra1 dM (.bool ((a.2 == 2) && (nofrS a.1))) ⟨(a.2 == 2) && (nofrS a.1), rfl, dI, dL.below⟩))
 · -- no
  have ak := ad.2 aI
  refine k_ (sqB N l [] [] [(8, str [])] ?_); intro fw bU
  refine s_ (sqB bU l [] [] [(30, .bool ((fcheckfr u0) == 0))] ?_); intro fx O
  refine cd O (t := (fcheckfr u0) == 0) (by kernel_rfl) (fun aN => ?_) (fun aN => ?_)
  · -- yes
   have dN := ak.1 aN
   refine sqH ?_; intro dO bV
   refine l2 O l 31 1 0 6 (e24Wc u0 ao1 cap2) rfl rfl ?_; intro fy bW
   obtain ⟨dP, dQ⟩ := dN
   refine fc bW l (rbitsof_fun u0 dP ao1 cap2 _ _ hs3 hg5 l.fz) ?_; intro fA fB bX aO
   refine s1 bX 8 (str (rbitsofS u0)) ?_; intro fC bY
   apply bV
   refine sqB bY aO [] [] [(33, .slice ao4 u1.length cap5), (34, i6 (u1.length : Int)), (35, i6 0)] ?_; intro bZ b0
   apply b_
   have b1 : Fr 93 [] [⟨5, [], pt h 0⟩, ⟨6, [], i6 a.2⟩, ⟨7, [], i6 (fcheckfr u0)⟩, ⟨8, [], str (rbitsofS u0)⟩, ⟨33, [], .slice ao4 u1.length cap5⟩, ⟨34, [], i6 (u1.length : Int)⟩, ⟨35, [], i6 0⟩] bZ := b0.reg
   obtain ⟨dR, dS, dT, dU⟩ := dQ
   refine lp (ι := Int × (List UInt8) × Int × Fz) (fun s => [⟨5, [], pt h 0⟩, ⟨6, [], i6 a.2⟩, ⟨7, [], i6 s.1⟩, ⟨8, [], str s.2.1⟩, ⟨33, [], .slice ao4 u1.length cap5⟩, ⟨34, [], i6 (u1.length : Int)⟩, ⟨35, [], i6 s.2.2.1⟩]) (fun s => [.row h (e24Wc a.1 d f) 24, .row u (e24Wc u0 ao1 cap2) 24]) (fun s => s.2.2.2) (fun s => dR s.1 s.2.1 s.2.2.1 ∧ Fz.le ab s.2.2.2) (fun s => dS s.1 s.2.1 s.2.2.1) ⟨(fcheckfr u0), (rbitsofS u0), 0, ab⟩ ⟨dT, Fz.le.refl _⟩ (by exact b1.region (by kernel_rfl) (by kernel_rfl)) (by exact aO) ?_
   rintro ⟨j, c, z, aP⟩ ⟨dV, y⟩ dW dX b3 b4
   have al := dU j c z dV
   have P := hs6.mono y
   have Q := hg5.mono y
   have G := F.mono y
   refine sqB b3 b4 [] [] [(36, .bool (decide (z < (u1.length : Int))))] ?_; intro fE R
   apply s_
   refine cd R (t := decide (z < (u1.length : Int))) (by kernel_rfl) (fun aQ => ?_) (fun aQ => ?_)
   · -- yes
    have dY := al.1 aQ
    refine k_ (s_ (b_ (sqH ?_))); intro dZ b6
    obtain ⟨d0, b7⟩ := dY
    refine ix_ R P z d0 .i64 3 8 ?_; intro fF fG d1 i fH d2 aR d3 b8
    have an := b7 i d2
    obtain rfl : d1 = ([i6 i] : List Value) := d3
    refine z1 b8 b4 38 aR 0 (i6 i) rfl ?_; intro fI b9
    refine s1 b9 10 (i6 i) ?_; intro fJ ca
    apply b6
    refine s_ (sqB ca b4 [] [] [(46, .bool ((decide (i < 0)) || (decide (i ≥ (c.length : Int)))))] ?_); intro d4 S
    refine cd S (t := (decide (i < 0)) || (decide (i ≥ (c.length : Int)))) (by kernel_rfl) (fun aS => ?_) (fun aS => ?_)
    · -- yes
     have d5 := an.1 aS
     refine sqB S b4 [] [] [(7, i6 3)] ?_; intro fK cb
     refine x_ (y_ (ibo (by decide) ?_))
     refine y_ (y_ (z_ (t_ (s_ (sqH ?_))))); intro d6 cc
     refine fc cb b4 (wired_fun  _ _ b4.fz) ?_; intro fL fM ce ap
     refine bt ce ap 5 [] [66, 67, 68] [(68, .bool true)] ?_; intro fN aT
     apply cc
     refine cdT aT (by kernel_rfl) ?_
     refine sqH ?_; intro d7 cf
     refine fc aT ap (wired_fun  _ _ ap.fz) ?_; intro fO fP cg aq
     refine s1 cg 70 (.bool true) ?_; intro fQ ar
     refine g_ ar true (i6 a.2) ?_; intro fR au
     refine g_ au true (i6 3) ?_; intro fS av
     refine g_ av true (.bool (a.2 == 3)) ?_; intro fT ch
     refine s1 ch 74 (.bool (a.2 == 3)) ?_; intro fU ci
     refine s1 ci 75 (.bool (a.2 == 3)) ?_; intro fV cl
     have aU := cl.atom ((a.2 == 3) == true) (by kernel_rfl)
     refine gd aU (.agg (e24Wc a.1 d f).toArray) (m := 0) (cj := []) (bj := a.2 == 3) rfl rfl (by kernel_rfl) rfl (by kernel_rfl) (by kernel_rfl) (by kernel_rfl) (fun hg => lda aU aq 0 (g := [0]) (b := h) (off := 0) (k := 6) (cs := (e24Wc a.1 d f)) (vs := (e24Wc a.1 d f)) (ty := 24) rfl (by kernel_rfl) (by kernel_rfl) (by kernel_rfl) (by kernel_rfl) (by kernel_rfl) hg) ?_; intro fW cm
     refine gcl cm aq (.bool (nofrS a.1)) 8 #[.agg (e24Wc a.1 d f).toArray] (m := 0) (cj := []) (bj := a.2 == 3) rfl rfl (by kernel_rfl) rfl (by kernel_rfl) (by kernel_rfl) (by kernel_rfl) (fun _ => by kernel_rfl) (fun hg => nofr_fun a.1 d f _ _ G aq.fz) ?_; intro fX fY aV d8
     refine u_ aV (.bool ((a.2 == 3) && (nofrS a.1))) (pk_and aV (g := []) (m := 0) (b := a.2 == 3) (v := (nofrS a.1)) rfl (by kernel_rfl) (by kernel_rfl) (by kernel_rfl) rfl) ?_; intro fZ cn
     refine s1 cn 4 (.bool ((a.2 == 3) && (nofrS a.1))) ?_; intro f0 d9
     apply cf
     exact r_ (h_ (ra1 d9 (.bool ((a.2 == 3) && (nofrS a.1))) ⟨(a.2 == 3) && (nofrS a.1), rfl, d5, d8.below⟩))
    · -- no
     have ea := an.2 aS
     apply k_
     have co : Fr 93 [] [⟨5, [], pt h 0⟩, ⟨6, [], i6 a.2⟩, ⟨7, [], i6 j⟩, ⟨8, [], str c⟩, ⟨10, [], i6 i⟩, ⟨33, [], .slice ao4 u1.length cap5⟩, ⟨34, [], i6 (u1.length : Int)⟩, ⟨35, [], i6 z⟩] d4 := S.reg
     refine rgS mixed b4 [(0, true), (1, true), (3, true), (4, true), (10, true), (11, true), (12, true), (2, true), (5, true), (13, true), (6, false), (7, false), (8, false), (9, false), (14, false), (15, true)] [] [] [] ?_
     intro eb cp f1 aW
     have H := Fz.le.refl aP
     refine cS co 7 [] [] [(47, str c), (48, i6 i), (50, str c), (51, i6 i), (57, str c), (59, i6 (w64 (i + 1)))] ?_; intro f2 aX
     obtain ⟨ec, ed⟩ := ea
     refine cst rfl aX (str (c.take i.toNat)) (nog rfl _) rfl (by kernel_rfl) (fun v287 hC => strslH_run aX (g := []) (k := .i64) rfl (by kernel_rfl) (by kernel_rfl) (by kernel_rfl) ec rfl) ?_; intro f3 aY
     obtain ⟨ee, ef⟩ := ed
     obtain ⟨p, cq⟩ : ∃ q, c[i.toNat]? = some q := ⟨_, List.getElem?_eq_getElem (by omega)⟩; have eg := ef p cq
     refine cst rfl aY (y8 (p.toNat : Int)) (nog rfl _) rfl (by kernel_rfl) (fun v292 hC => stridx_run aY (k := .i64) rfl (by kernel_rfl) (by kernel_rfl) (by kernel_rfl) ee.1 cq) ?_; intro f4 aZ
     obtain ⟨eh, ei⟩ := eg
     refine cst rfl aZ (str (c.drop (w64 (i + 1)).toNat)) (nog rfl _) rfl (by kernel_rfl) (fun v300 hC => strslL_run aZ (g := []) (k := .i64) rfl (by kernel_rfl) (by kernel_rfl) (by kernel_rfl) eh rfl) ?_; intro f5 cr
     refine eS rfl ?_; intro ej ct
     refine fc cr aW (rother_fun (p.toNat : Int) _ _ aW.fz) ?_; intro f6 f7 cu a1
     refine nl (qnI (ct _ _ (a1.cst H []) ?_))
     refine eS rfl ?_; intro ek cv
     refine nw cu a1 (fun b => .slice (sm b) 1 1) [y8 (rother (p.toNat : Int))] 5 ?_; intro cw f8 cx a2 a3
     refine nl (qnI (cv _ _ (a3.cst H []) ?_))
     refine eS rfl ?_; intro el cy
     have em : Mem w.heap.size [] w Z [.own t8 5 (sm cw) 1 ([(rother (p.toNat : Int))] : List Int), .row h (e24Wc a.1 d f) 24, .row u (e24Wc u0 ao1 cap2) 24] aP cx := a3.rowOwn (T := t8) (xs := ([(rother (p.toNat : Int))] : List Int)) 0 rfl (by decide) (by show 1 ≤ lim; decide) (RepAll.one (T := t8) (x := (rother (p.toNat : Int))) rfl)
     obtain ⟨cz, A, cA, en⟩ := em.freeze 0 rfl
     replace y := y.mono A
     replace H := H.mono A
     have L : Mem w.heap.size [] w Z [.row h (e24Wc a.1 d f) 24, .row u (e24Wc u0 ao1 cap2) 24] cz cx := cA
     refine u_ a2 (str (bstr ([(rother (p.toNat : Int))] : List Int))) (bstr_op a2 (g := []) (e := 5) (ao := (sm cw)) (cap := 1) (xs := ([(rother (p.toNat : Int))] : List Int)) rfl (by kernel_rfl) (by kernel_rfl) (by kernel_rfl) (by kernel_rfl) en L.fz rfl) ?_; intro f9 cB
     refine nl (qnI (cy _ _ (L.cst H []) ?_))
     refine eS rfl ?_; intro eo cC
     obtain ⟨ep, eq⟩ := ei
     refine sa cB ep ?_; intro ga cD
     refine nl (qnI (cC _ _ (L.cst H []) ?_))
     refine eS rfl ?_; intro er cE
     obtain ⟨es, cF⟩ := eq
     refine sa cD es ?_; intro gb cG
     refine nl (qnI (cE _ _ (L.cst H []) ?_))
     refine cS cG 1 [] [] [(8, str (((c.take i.toNat) ++ (bstr ([(rother (p.toNat : Int))] : List Int))) ++ (c.drop (w64 (i + 1)).toNat)))] ?_; intro gc cH
     refine nS (cp _ _ ?_)
     refine j_ (t_ (rgB cH L [] [] [(35, i6 (w64 (z + 1)))] ?_)); intro ge et
     exact d_ ⟨⟨j, ((c.take i.toNat) ++ (bstr ([(rother (p.toNat : Int))] : List Int))) ++ (c.drop (w64 (i + 1)).toNat), w64 (z + 1), cz⟩, ⟨cF.1, y⟩, cF.2, (et.region (by kernel_rfl) (by kernel_rfl)).anyβ _ (by kernel_rfl), L.kp⟩
   · -- no
    have aw := al.2 aQ
    refine x_ (y_ (y_ (z_ (t_ (s_ (sqH ?_)))))); intro eu cI
    refine fc R b4 (wired_fun  _ _ b4.fz) ?_; intro gf gg cJ I
    refine bt cJ I 5 [] [66, 67, 68] [(68, .bool (j != 0))] ?_; intro gh U
    apply cI
    refine cd U (t := j != 0) (by kernel_rfl) (fun a4 => ?_) (fun a4 => ?_)
    · -- yes
     have ev := aw.1 a4
     refine sqH ?_; intro ew cK
     refine fc U I (wired_fun  _ _ I.fz) ?_; intro gi gj cL ax
     refine s1 cL 70 (.bool true) ?_; intro gk ay
     refine g_ ay true (i6 a.2) ?_; intro gl az
     refine g_ az true (i6 j) ?_; intro gm aA
     refine g_ aA true (.bool (a.2 == j)) ?_; intro gn cM
     refine s1 cM 74 (.bool (a.2 == j)) ?_; intro go cN
     refine s1 cN 75 (.bool (a.2 == j)) ?_; intro gp cO
     have a5 := cO.atom ((a.2 == j) == true) (by kernel_rfl)
     refine gd a5 (.agg (e24Wc a.1 d f).toArray) (m := 0) (cj := []) (bj := a.2 == j) rfl rfl (by kernel_rfl) rfl (by kernel_rfl) (by kernel_rfl) (by kernel_rfl) (fun hg => lda a5 ax 0 (g := [0]) (b := h) (off := 0) (k := 6) (cs := (e24Wc a.1 d f)) (vs := (e24Wc a.1 d f)) (ty := 24) rfl (by kernel_rfl) (by kernel_rfl) (by kernel_rfl) (by kernel_rfl) (by kernel_rfl) hg) ?_; intro gq cP
     refine gcl cP ax (.bool (nofrS a.1)) 8 #[.agg (e24Wc a.1 d f).toArray] (m := 0) (cj := []) (bj := a.2 == j) rfl rfl (by kernel_rfl) rfl (by kernel_rfl) (by kernel_rfl) (by kernel_rfl) (fun _ => by kernel_rfl) (fun hg => nofr_fun a.1 d f _ _ G ax.fz) ?_; intro gr gs a6 ex
     refine u_ a6 (.bool ((a.2 == j) && (nofrS a.1))) (pk_and a6 (g := []) (m := 0) (b := a.2 == j) (v := (nofrS a.1)) rfl (by kernel_rfl) (by kernel_rfl) (by kernel_rfl) rfl) ?_; intro gt cQ
     refine s1 cQ 4 (.bool ((a.2 == j) && (nofrS a.1))) ?_; intro gu ey
     apply cK
     exact r_ (h_ (ra1 ey (.bool ((a.2 == j) && (nofrS a.1))) ⟨(a.2 == j) && (nofrS a.1), rfl, ev, ex.below⟩))
    · -- no
     have ez := aw.2 a4
     refine k_ (sqH ?_); intro eA cR
     refine s1 U 80 (str c) ?_; intro gv cT
     obtain ⟨eB, cU⟩ := ez
     refine ck cT 9 #[str c] ?_
     refine (rreadbits_fun c eB _ _ Q I.fz).mono ?_; rintro _ eC ⟨B, C, cV, rfl, cW, hm⟩; refine ⟨_, rfl, ?_⟩; intro gw cX; have cY := I.callZ hm; have M := hm.ext.le
     replace G := G.mono M
     have a7 : Mem w.heap.size [] w Z [.row h (e24Wc a.1 d f) 24, .row u (e24Wc u0 ao1 cap2) 24] cV eC := cY
     have eD := cU (cW.small)
     refine bt cX a7 4 [] [] [(82, .agg (e24Wc ((rreadbitsS c).1) B C).toArray), (83, i6 (rreadbitsS c).2.1), (84, i6 (rreadbitsS c).2.2)] ?_; intro gx cZ
     refine nw cZ a7 pb [i6 0, .bool false, .bool false, .bool false, i6 0, .slice none 0 0] 24 ?_; intro c0 gy gz a8 c1
     refine sx a8 c1 0 (e24Wc ((rreadbitsS c).1) B C) 0 ?_; intro eE a9
     refine bt a8 a9 2 [] [] [(13, i6 (rreadbitsS c).2.2)] ?_; intro gA c2
     have V : Mem w.heap.size [] w Z [.row c0 (e24Wc ((rreadbitsS c).1) B C) 24, .row h (e24Wc a.1 d f) 24, .row u (e24Wc u0 ao1 cap2) 24] cV eE := a9
     apply cR
     refine sqH ?_; intro eF c3
     refine s1 c2 85 (i6 a.2) ?_; intro gB c4
     refine s1 c4 86 (i6 (rreadbitsS c).2.2) ?_; intro gC c5
     refine s1 c5 87 (.bool (a.2 == (rreadbitsS c).2.2)) ?_; intro gD c6
     refine s1 c6 88 (.bool (a.2 == (rreadbitsS c).2.2)) ?_; intro gE c7
     have ba := c7.atom ((a.2 == (rreadbitsS c).2.2) == true) (by kernel_rfl)
     refine gd ba (.agg (e24Wc a.1 d f).toArray) (m := 0) (cj := []) (bj := a.2 == (rreadbitsS c).2.2) rfl rfl (by kernel_rfl) rfl (by kernel_rfl) (by kernel_rfl) (by kernel_rfl) (fun hg => lda ba V 1 (g := [0]) (b := h) (off := 0) (k := 6) (cs := (e24Wc a.1 d f)) (vs := (e24Wc a.1 d f)) (ty := 24) rfl (by kernel_rfl) (by kernel_rfl) (by kernel_rfl) (by kernel_rfl) (by kernel_rfl) hg) ?_; intro gF bb
     refine gd bb (.agg (e24Wc ((rreadbitsS c).1) B C).toArray) (m := 0) (cj := []) (bj := a.2 == (rreadbitsS c).2.2) rfl rfl (by kernel_rfl) rfl (by kernel_rfl) (by kernel_rfl) (by kernel_rfl) (fun hg => lda bb V 0 (g := [0]) (b := c0) (off := 0) (k := 6) (cs := (e24Wc ((rreadbitsS c).1) B C)) (vs := (e24Wc ((rreadbitsS c).1) B C)) (ty := 24) rfl (by kernel_rfl) (by kernel_rfl) (by kernel_rfl) (by kernel_rfl) (by kernel_rfl) hg) ?_; intro gG c8
     refine gcl c8 V (.bool (sameS a.1 (rreadbitsS c).1)) 10 #[.agg (e24Wc a.1 d f).toArray, .agg (e24Wc ((rreadbitsS c).1) B C).toArray] (m := 0) (cj := []) (bj := a.2 == (rreadbitsS c).2.2) rfl rfl (by kernel_rfl) rfl (by kernel_rfl) (by kernel_rfl) (by kernel_rfl) (fun _ => by kernel_rfl) (fun hg => rSame_fun a.1 (rreadbitsS c).1 d f B C _ _ G cW V.fz) ?_; intro gH gI bc eG
     refine u_ bc (.bool ((a.2 == (rreadbitsS c).2.2) && (sameS a.1 (rreadbitsS c).1))) (pk_and bc (g := []) (m := 0) (b := a.2 == (rreadbitsS c).2.2) (v := (sameS a.1 (rreadbitsS c).1)) rfl (by kernel_rfl) (by kernel_rfl) (by kernel_rfl) rfl) ?_; intro gJ c9
     refine s1 c9 4 (.bool ((a.2 == (rreadbitsS c).2.2) && (sameS a.1 (rreadbitsS c).1))) ?_; intro gK eH
     apply c3
     exact r_ (ra1 eH (.bool ((a.2 == (rreadbitsS c).2.2) && (sameS a.1 (rreadbitsS c).1))) ⟨(a.2 == (rreadbitsS c).2.2) && (sameS a.1 (rreadbitsS c).1), rfl, eD, eG.below⟩)
  · -- no
   have aB := ak.2 aN
   refine k_ (s_ (sqH ?_)); intro eI da
   refine fc O l (wired_fun  _ _ l.fz) ?_; intro gL gM db J
   refine bt db J 5 [] [66, 67, 68] [(68, .bool ((fcheckfr u0) != 0))] ?_; intro gN W
   apply da
   refine cd W (t := (fcheckfr u0) != 0) (by kernel_rfl) (fun bd => ?_) (fun bd => ?_)
   · -- yes
    have eJ := aB.1 bd
    refine sqH ?_; intro eK dc
    refine fc W J (wired_fun  _ _ J.fz) ?_; intro gO gP dd aC
    refine s1 dd 70 (.bool true) ?_; intro gQ aD
    refine g_ aD true (i6 a.2) ?_; intro gR aE
    refine g_ aE true (i6 (fcheckfr u0)) ?_; intro gS aF
    refine g_ aF true (.bool (a.2 == (fcheckfr u0))) ?_; intro gT de
    refine s1 de 74 (.bool (a.2 == (fcheckfr u0))) ?_; intro gU df
    refine s1 df 75 (.bool (a.2 == (fcheckfr u0))) ?_; intro gV dg
    have be := dg.atom ((a.2 == (fcheckfr u0)) == true) (by kernel_rfl)
    refine gd be (.agg (e24Wc a.1 d f).toArray) (m := 0) (cj := []) (bj := a.2 == (fcheckfr u0)) rfl rfl (by kernel_rfl) rfl (by kernel_rfl) (by kernel_rfl) (by kernel_rfl) (fun hg => lda be aC 0 (g := [0]) (b := h) (off := 0) (k := 6) (cs := (e24Wc a.1 d f)) (vs := (e24Wc a.1 d f)) (ty := 24) rfl (by kernel_rfl) (by kernel_rfl) (by kernel_rfl) (by kernel_rfl) (by kernel_rfl) hg) ?_; intro gW dh
    refine gcl dh aC (.bool (nofrS a.1)) 8 #[.agg (e24Wc a.1 d f).toArray] (m := 0) (cj := []) (bj := a.2 == (fcheckfr u0)) rfl rfl (by kernel_rfl) rfl (by kernel_rfl) (by kernel_rfl) (by kernel_rfl) (fun _ => by kernel_rfl) (fun hg => nofr_fun a.1 d f _ _ F aC.fz) ?_; intro gX gY bf eL
    refine u_ bf (.bool ((a.2 == (fcheckfr u0)) && (nofrS a.1))) (pk_and bf (g := []) (m := 0) (b := a.2 == (fcheckfr u0)) (v := (nofrS a.1)) rfl (by kernel_rfl) (by kernel_rfl) (by kernel_rfl) rfl) ?_; intro gZ di
    refine s1 di 4 (.bool ((a.2 == (fcheckfr u0)) && (nofrS a.1))) ?_; intro g0 eM
    apply dc
    exact r_ (h_ (ra1 eM (.bool ((a.2 == (fcheckfr u0)) && (nofrS a.1))) ⟨(a.2 == (fcheckfr u0)) && (nofrS a.1), rfl, eJ, eL.below⟩))
   · -- no
    have eN := aB.2 bd
    refine k_ (sqH ?_); intro eO dj
    refine s1 W 80 (str []) ?_; intro g1 dk
    obtain ⟨eP, dl⟩ := eN
    refine ck dk 9 #[str []] ?_
    refine (rreadbits_fun [] eP _ _ hg5 J.fz).mono ?_; rintro _ eQ ⟨D, E, dm, rfl, dn, hm⟩; refine ⟨_, rfl, ?_⟩; intro g2 dp; have dq := J.callZ hm; have X := hm.ext.le
    replace F := F.mono X
    have bg : Mem w.heap.size [] w Z [.row h (e24Wc a.1 d f) 24, .row u (e24Wc u0 ao1 cap2) 24] dm eQ := dq
    have eR := dl (dn.small)
    refine bt dp bg 4 [] [] [(82, .agg (e24Wc ((rreadbitsS []).1) D E).toArray), (83, i6 (rreadbitsS []).2.1), (84, i6 (rreadbitsS []).2.2)] ?_; intro g3 dr
    refine nw dr bg pb [i6 0, .bool false, .bool false, .bool false, i6 0, .slice none 0 0] 24 ?_; intro bh g4 g5 bi ds
    refine sx bi ds 0 (e24Wc ((rreadbitsS []).1) D E) 0 ?_; intro eT bk
    refine bt bi bk 2 [] [] [(13, i6 (rreadbitsS []).2.2)] ?_; intro eU dt
    have Y : Mem w.heap.size [] w Z [.row bh (e24Wc ((rreadbitsS []).1) D E) 24, .row h (e24Wc a.1 d f) 24, .row u (e24Wc u0 ao1 cap2) 24] dm eT := bk
    apply dj
    have du : Fr 93 [] [⟨5, [], pt h 0⟩, ⟨6, [], i6 a.2⟩, ⟨11, [], pt bh 0⟩, ⟨13, [], i6 (rreadbitsS []).2.2⟩] eU := dt.reg
    refine sqH ?_; intro eV dv
    refine s1 du 85 (i6 a.2) ?_; intro g6 dw
    refine s1 dw 86 (i6 (rreadbitsS []).2.2) ?_; intro g7 dx
    refine s1 dx 87 (.bool (a.2 == (rreadbitsS []).2.2)) ?_; intro g8 dy
    refine s1 dy 88 (.bool (a.2 == (rreadbitsS []).2.2)) ?_; intro g9 dz
    have bl := dz.atom ((a.2 == (rreadbitsS []).2.2) == true) (by kernel_rfl)
    refine gd bl (.agg (e24Wc a.1 d f).toArray) (m := 0) (cj := []) (bj := a.2 == (rreadbitsS []).2.2) rfl rfl (by kernel_rfl) rfl (by kernel_rfl) (by kernel_rfl) (by kernel_rfl) (fun hg => lda bl Y 1 (g := [0]) (b := h) (off := 0) (k := 6) (cs := (e24Wc a.1 d f)) (vs := (e24Wc a.1 d f)) (ty := 24) rfl (by kernel_rfl) (by kernel_rfl) (by kernel_rfl) (by kernel_rfl) (by kernel_rfl) hg) ?_; intro ha bm
    refine gd bm (.agg (e24Wc ((rreadbitsS []).1) D E).toArray) (m := 0) (cj := []) (bj := a.2 == (rreadbitsS []).2.2) rfl rfl (by kernel_rfl) rfl (by kernel_rfl) (by kernel_rfl) (by kernel_rfl) (fun hg => lda bm Y 0 (g := [0]) (b := bh) (off := 0) (k := 6) (cs := (e24Wc ((rreadbitsS []).1) D E)) (vs := (e24Wc ((rreadbitsS []).1) D E)) (ty := 24) rfl (by kernel_rfl) (by kernel_rfl) (by kernel_rfl) (by kernel_rfl) (by kernel_rfl) hg) ?_; intro hb dA
    refine gcl dA Y (.bool (sameS a.1 (rreadbitsS []).1)) 10 #[.agg (e24Wc a.1 d f).toArray, .agg (e24Wc ((rreadbitsS []).1) D E).toArray] (m := 0) (cj := []) (bj := a.2 == (rreadbitsS []).2.2) rfl rfl (by kernel_rfl) rfl (by kernel_rfl) (by kernel_rfl) (by kernel_rfl) (fun _ => by kernel_rfl) (fun hg => rSame_fun a.1 (rreadbitsS []).1 d f D E _ _ F dn Y.fz) ?_; intro hc hd bn eW
    refine u_ bn (.bool ((a.2 == (rreadbitsS []).2.2) && (sameS a.1 (rreadbitsS []).1))) (pk_and bn (g := []) (m := 0) (b := a.2 == (rreadbitsS []).2.2) (v := (sameS a.1 (rreadbitsS []).1)) rfl (by kernel_rfl) (by kernel_rfl) (by kernel_rfl) rfl) ?_; intro he dB
    refine s1 dB 4 (.bool ((a.2 == (rreadbitsS []).2.2) && (sameS a.1 (rreadbitsS []).1))) ?_; intro hf eX
    apply dv
    exact r_ (ra1 eX (.bool ((a.2 == (rreadbitsS []).2.2) && (sameS a.1 (rreadbitsS []).1))) ⟨(a.2 == (rreadbitsS []).2.2) && (sameS a.1 (rreadbitsS []).1), rfl, eR, eW.below⟩)
end Go.Proofs.YtmnlahbngbigdaaGreatDoor
