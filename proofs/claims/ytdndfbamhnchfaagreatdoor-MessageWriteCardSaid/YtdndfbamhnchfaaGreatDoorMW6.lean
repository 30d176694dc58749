/- Texts put together (pure ones, or walks made by program). -/
import Derived.Test.YtdndfbamhnchfaaGreatDoorMW0
import Derived.Test.YtdndfbamhnchfaaGreatDoorMW1
import Derived.Test.YtdndfbamhnchfaaGreatDoorMW2
import Derived.Test.YtdndfbamhnchfaaGreatDoorMW3
import Derived.Test.YtdndfbamhnchfaaGreatDoorMW4
import Derived.Test.YtdndfbamhnchfaaGreatDoorMW5
set_option linter.unusedVariables false
set_option linter.unusedSimpArgs false
set_option maxRecDepth 100000
set_option maxHeartbeats 0
namespace Go.Proofs.YtdndfbamhnchfaaGreatDoor
open Go.Sy Go.RowKit
abbrev e75Nf (X : BRat) (A0 : Option Addr) (C0 : Nat) (A1 : Option Addr) (C1 : Nat) : List Value := [.bool X.a.neg, .slice A0 X.a.abs.length C0, .bool X.b.neg, .slice A1 X.b.abs.length C1]
theorem rsf_fun (u0 : BRat) (u1 : BInt) (u2 : BInt) (hpre : bk u1 ∧ bk u2 ∧ iv u2 ≠ 0) (b1 : Nat) (ao2 : Option Addr) (cap3 : Nat) (ao5 : Option Addr) (cap6 : Nat) (b8 : Nat) (ao9 : Option Addr) (cap10 : Nat) (b12 : Nat) (ao13 : Option Addr) (cap14 : Nat) (B : Nat) (w0 : World) (Z0 : Fz) (Rr : List Res) (Z : Fz) (w : World) (hs4 : SlR (tyInt .u32) Z ao2 cap3 u0.a.abs) (hs7 : SlR (tyInt .u32) Z ao5 cap6 u0.b.abs) (hs11 : SlR (tyInt .u32) Z ao9 cap10 u1.abs) (hs15 : SlR (tyInt .u32) Z ao13 cap14 u2.abs) (hM0 : Mem B [] w0 Z0 ((.row b1 [.bool u0.a.neg, .slice ao2 u0.a.abs.length cap3, .bool u0.b.neg, .slice ao5 u0.b.abs.length cap6] 75) :: (.row b8 [.bool u1.neg, .slice ao9 u1.abs.length cap10] 73) :: (.row b12 [.bool u2.neg, .slice ao13 u2.abs.length cap14] 73) :: Rr) Z w) (hZ : Z.on w) : Calls Tryz.prog 73 #[pt b1 0, pt b8 0, pt b12 0] w fun e w' => ∃ (ao1001 : Option Addr) (cap1002 : Nat) (ao1004 : Option Addr) (cap1005 : Nat) (ao1007 : Option Addr) (cap1008 : Nat) (ao1010 : Option Addr) (cap1011 : Nat) (Z' : Fz), e = .returned (pt b1 0) ∧ Fz.le Z Z' ∧ SlR (tyInt .u32) Z' ao1001 cap1002 (rsfS u0 u1 u2).1.a.abs ∧ SlR (tyInt .u32) Z' ao1004 cap1005 (rsfS u0 u1 u2).1.b.abs ∧ SlR (tyInt .u32) Z' ao1007 cap1008 (rsfS u0 u1 u2).2.1.abs ∧ SlR (tyInt .u32) Z' ao1010 cap1011 (rsfS u0 u1 u2).2.2.abs ∧ Mem B [] w0 Z0 ((.row b1 [.bool (rsfS u0 u1 u2).1.a.neg, .slice ao1001 (rsfS u0 u1 u2).1.a.abs.length cap1002, .bool (rsfS u0 u1 u2).1.b.neg, .slice ao1004 (rsfS u0 u1 u2).1.b.abs.length cap1005] 75) :: (.row b8 [.bool (rsfS u0 u1 u2).2.1.neg, .slice ao1007 (rsfS u0 u1 u2).2.1.abs.length cap1008] 73) :: (.row b12 [.bool (rsfS u0 u1 u2).2.2.neg, .slice ao1010 (rsfS u0 u1 u2).2.2.abs.length cap1011] 73) :: Rr) Z' w' :=
 (rsf_walk u0 u1 u2 b1 ao2 cap3 ao5 cap6 b8 ao9 cap10 b12 ao13 cap14 B w0 Z0 Rr Z w hs4 hs7 hs11 hs15 hM0 hZ (rsf_ok u0 u1 u2 hpre)).mono fun _ _ ⟨r, h0, h1, h2, h3, h4, h5, h6, h7, h8, he, hk, f0, f1, f2, f3, f4, hm⟩ => by subst hk; exact ⟨h0, h1, h2, h3, h4, h5, h6, h7, h8, he, f0, f1, f2, f3, f4, hm⟩
theorem rsf64_walk (u0 : BRat) (u1 : Int) (u2 : Int) (b1 : Nat) (ao2 : Option Addr) (cap3 : Nat) (ao5 : Option Addr) (cap6 : Nat) (B : Nat) (w0 : World) (Z0 : Fz) (Rr : List Res) (Z : Fz) (w : World) (hs4 : SlR (tyInt .u32) Z ao2 cap3 u0.a.abs) (hs7 : SlR (tyInt .u32) Z ao5 cap6 u0.b.abs) (hM0 : Mem B [] w0 Z0 ((.row b1 [.bool u0.a.neg, .slice ao2 u0.a.abs.length cap3, .bool u0.b.neg, .slice ao5 u0.b.abs.length cap6] 75) :: Rr) Z w) (hZ : Z.on w) {K : BRat → Prop} (hp : rsf64_vc u0 u1 u2 K) : Calls Tryz.prog 42 #[pt b1 0, i6 u1, i6 u2] w fun e w' => ∃ (r : BRat) (ao1001 : Option Addr) (cap1002 : Nat) (ao1004 : Option Addr) (cap1005 : Nat) (Z' : Fz), e = .returned (pt b1 0) ∧ K r ∧ Fz.le Z Z' ∧ SlR (tyInt .u32) Z' ao1001 cap1002 r.a.abs ∧ SlR (tyInt .u32) Z' ao1004 cap1005 r.b.abs ∧ Mem B [] w0 Z0 ((.row b1 [.bool r.a.neg, .slice ao1001 r.a.abs.length cap1002, .bool r.b.neg, .slice ao1004 r.b.abs.length cap1005] 75) :: Rr) Z' w' := by
 refine enter0 Tryz.func42 rfl rfl (by kernel_rfl) ?_; intro a0 s; have d := Fz.le.refl Z
 have V := hp (hs4.small) (hs7.small)
 refine sqB s hM0 [] [] [] ?_; intro au u
 refine sqH ?_; intro W v
 refine bt u hM0 2 [] [] [(7, pt b1 0), (8, i6 u1)] ?_; intro av x
 obtain ⟨X, Y⟩ := V
 refine ck x 48 #[i6 u1] ?_
 refine (gnew_fun u1 X _ _ hM0.fz).mono ?_; rintro _ aa ⟨f, k, l, ab, rfl, g, hm⟩; refine ⟨_, rfl, ?_⟩; intro aw y; have z := hM0.callZ hm; have m := hm.ext.le
 replace hs4 := hs4.mono m
 replace hs7 := hs7.mono m
 replace d := Fz.le.trans d m
 have n : Mem B [] w0 Z0 ((.row f [.bool (bz u1).neg, .slice k (bz u1).abs.length l] 73) :: (.row b1 (e75Nf u0 ao2 cap3 ao5 cap6) 75) :: Rr) ab aa := z
 refine s1 y 10 (i6 u2) ?_; intro ax A
 obtain ⟨ac, ad⟩ := Y
 refine ck A 48 #[i6 u2] ?_
 refine (gnew_fun u2 ac _ _ n.fz).mono ?_; rintro _ ae ⟨i, C, D, af, rfl, o, hm⟩; refine ⟨_, rfl, ?_⟩; intro ay E; have F := n.callZ hm; have j := hm.ext.le
 replace hs4 := hs4.mono j
 replace hs7 := hs7.mono j
 replace g := g.mono j
 replace d := Fz.le.trans d j
 have p : Mem B [] w0 Z0 ((.row i [.bool (bz u2).neg, .slice C (bz u2).abs.length D] 73) :: (.row f [.bool (bz u1).neg, .slice k (bz u1).abs.length l] 73) :: (.row b1 (e75Nf u0 ao2 cap3 ao5 cap6) 75) :: Rr) af ae := F
 obtain ⟨ag, G⟩ := ad
 refine ck E 73 #[pt b1 0, pt f 0, pt i 0] ?_
 obtain ⟨c, ah, H⟩ := hxq G
 have q := rsf_fun u0 (bz u1) (bz u2) ag b1 ao2 cap3 ao5 cap6 f k l i C D _ _ _ _ _ _ hs4 hs7 g o (p.perm ((pk 2 rfl).trans (((pk 1 rfl).trans (lpr.cons _)).cons _))) p.fz; rw [ah] at q; refine q.mono ?_; rintro _ ai ⟨I, J, L, M, aj, ak, al, am, N, rfl, h, O, P, an, ao, hm⟩; refine ⟨_, rfl, ?_⟩; intro az Q; have R := hm
 replace d := Fz.le.trans d h
 have ap : Mem B [] w0 Z0 ((.row b1 (e75Nf c.1 I J L M) 75) :: (.row f [.bool c.2.1.neg, .slice aj c.2.1.abs.length ak] 73) :: (.row i [.bool c.2.2.neg, .slice al c.2.2.abs.length am] 73) :: Rr) N ai := R
 have aq := H (O.small) (P.small) (an.small) (ao.small)
 refine s1 Q 6 (pt b1 0) ?_; intro aA ar
 apply v
 exact r_ (ra1 ar (pt b1 0) ⟨c.1, I, J, L, M, N, rfl, aq, d, O, P, ap.kp⟩)
theorem rsi_walk (u0 : BRat) (u1 : Int) (b1 : Nat) (ao2 : Option Addr) (cap3 : Nat) (ao5 : Option Addr) (cap6 : Nat) (B : Nat) (w0 : World) (Z0 : Fz) (Rr : List Res) (Z : Fz) (w : World) (hs4 : SlR (tyInt .u32) Z ao2 cap3 u0.a.abs) (hs7 : SlR (tyInt .u32) Z ao5 cap6 u0.b.abs) (hM0 : Mem B [] w0 Z0 ((.row b1 [.bool u0.a.neg, .slice ao2 u0.a.abs.length cap3, .bool u0.b.neg, .slice ao5 u0.b.abs.length cap6] 75) :: Rr) Z w) (hZ : Z.on w) {K : BRat → Prop} (hp : rsi_vc u0 u1 K) : Calls Tryz.prog 44 #[pt b1 0, i6 u1] w fun e w' => ∃ (r : BRat) (ao1001 : Option Addr) (cap1002 : Nat) (ao1004 : Option Addr) (cap1005 : Nat) (Z' : Fz), e = .returned (pt b1 0) ∧ K r ∧ Fz.le Z Z' ∧ SlR (tyInt .u32) Z' ao1001 cap1002 r.a.abs ∧ SlR (tyInt .u32) Z' ao1004 cap1005 r.b.abs ∧ Mem B [] w0 Z0 ((.row b1 [.bool r.a.neg, .slice ao1001 r.a.abs.length cap1002, .bool r.b.neg, .slice ao1004 r.b.abs.length cap1005] 75) :: Rr) Z' w' := by
 refine enter0 Tryz.func44 rfl rfl (by kernel_rfl) ?_; intro a0 s; have d := Fz.le.refl Z
 have U := hp (hs4.small) (hs7.small)
 refine sqB s hM0 [] [] [] ?_; intro ar u
 refine sqH ?_; intro V v
 refine bt u hM0 2 [] [] [(5, pt b1 0), (6, i6 u1)] ?_; intro au x
 obtain ⟨W, X⟩ := U
 refine ck x 48 #[i6 u1] ?_
 refine (gnew_fun u1 W _ _ hM0.fz).mono ?_; rintro _ Y ⟨f, k, l, aa, rfl, g, hm⟩; refine ⟨_, rfl, ?_⟩; intro av y; have z := hM0.callZ hm; have m := hm.ext.le
 replace hs4 := hs4.mono m
 replace hs7 := hs7.mono m
 replace d := Fz.le.trans d m
 have n : Mem B [] w0 Z0 ((.row f [.bool (bz u1).neg, .slice k (bz u1).abs.length l] 73) :: (.row b1 (e75Nf u0 ao2 cap3 ao5 cap6) 75) :: Rr) aa Y := z
 obtain ⟨ab, ac⟩ := X
 refine ck y 48 #[i6 1] ?_
 refine (gnew_fun 1 ab _ _ n.fz).mono ?_; rintro _ ad ⟨i, A, C, ae, rfl, o, hm⟩; refine ⟨_, rfl, ?_⟩; intro aw D; have E := n.callZ hm; have j := hm.ext.le
 replace hs4 := hs4.mono j
 replace hs7 := hs7.mono j
 replace g := g.mono j
 replace d := Fz.le.trans d j
 have p : Mem B [] w0 Z0 ((.row i [.bool (bz 1).neg, .slice A (bz 1).abs.length C] 73) :: (.row f [.bool (bz u1).neg, .slice k (bz u1).abs.length l] 73) :: (.row b1 (e75Nf u0 ao2 cap3 ao5 cap6) 75) :: Rr) ae ad := E
 obtain ⟨af, F⟩ := ac
 refine ck D 73 #[pt b1 0, pt f 0, pt i 0] ?_
 obtain ⟨c, ag, G⟩ := hxq F
 have q := rsf_fun u0 (bz u1) (bz 1) af b1 ao2 cap3 ao5 cap6 f k l i A C _ _ _ _ _ _ hs4 hs7 g o (p.perm ((pk 2 rfl).trans (((pk 1 rfl).trans (lpr.cons _)).cons _))) p.fz; rw [ag] at q; refine q.mono ?_; rintro _ ah ⟨H, I, J, L, ai, aj, ak, al, M, rfl, h, N, O, am, an, hm⟩; refine ⟨_, rfl, ?_⟩; intro ax P; have Q := hm
 replace d := Fz.le.trans d h
 have ao : Mem B [] w0 Z0 ((.row b1 (e75Nf c.1 H I J L) 75) :: (.row f [.bool c.2.1.neg, .slice ai c.2.1.abs.length aj] 73) :: (.row i [.bool c.2.2.neg, .slice ak c.2.2.abs.length al] 73) :: Rr) M ah := Q
 have ap := G (N.small) (O.small) (am.small) (an.small)
 refine s1 P 4 (pt b1 0) ?_; intro ay aq
 apply v
 exact r_ (ra1 aq (pt b1 0) ⟨c.1, H, I, J, L, M, rfl, ap, d, N, O, ao.kp⟩)
theorem rsub_walk (u0 : BRat) (u2 : BRat) (b1 : Nat) (ao2 : Option Addr) (cap3 : Nat) (ao5 : Option Addr) (cap6 : Nat) (b8 : Nat) (ao9 : Option Addr) (cap10 : Nat) (ao12 : Option Addr) (cap13 : Nat) (B : Nat) (w0 : World) (Z0 : Fz) (Rr : List Res) (Z : Fz) (w : World) (hs4 : SlR (tyInt .u32) Z ao2 cap3 u0.a.abs) (hs7 : SlR (tyInt .u32) Z ao5 cap6 u0.b.abs) (hs11 : SlR (tyInt .u32) Z ao9 cap10 u2.a.abs) (hs14 : SlR (tyInt .u32) Z ao12 cap13 u2.b.abs) (hM0 : Mem B [] w0 Z0 ((.row b1 [.bool u0.a.neg, .slice ao2 u0.a.abs.length cap3, .bool u0.b.neg, .slice ao5 u0.b.abs.length cap6] 75) :: (.row b8 [.bool u2.a.neg, .slice ao9 u2.a.abs.length cap10, .bool u2.b.neg, .slice ao12 u2.b.abs.length cap13] 75) :: Rr) Z w) (hZ : Z.on w) {K : (BRat × BRat) → Prop} (hp : rsub_vc u0 u2 K) : Calls Tryz.prog 43 #[pt b1 0, pt b1 0, pt b8 0] w fun e w' => ∃ (r : BRat × BRat) (ao1001 : Option Addr) (cap1002 : Nat) (ao1004 : Option Addr) (cap1005 : Nat) (ao1007 : Option Addr) (cap1008 : Nat) (ao1010 : Option Addr) (cap1011 : Nat) (Z' : Fz), e = .returned (pt b1 0) ∧ K r ∧ Fz.le Z Z' ∧ SlR (tyInt .u32) Z' ao1001 cap1002 r.1.a.abs ∧ SlR (tyInt .u32) Z' ao1004 cap1005 r.1.b.abs ∧ SlR (tyInt .u32) Z' ao1007 cap1008 r.2.a.abs ∧ SlR (tyInt .u32) Z' ao1010 cap1011 r.2.b.abs ∧ Mem B [] w0 Z0 ((.row b1 [.bool r.1.a.neg, .slice ao1001 r.1.a.abs.length cap1002, .bool r.1.b.neg, .slice ao1004 r.1.b.abs.length cap1005] 75) :: (.row b8 [.bool r.2.a.neg, .slice ao1007 r.2.a.abs.length cap1008, .bool r.2.b.neg, .slice ao1010 r.2.b.abs.length cap1011] 75) :: Rr) Z' w' := by
 refine enter0 Tryz.func43 rfl rfl (by kernel_rfl) ?_; intro a0 aW; have j := Fz.le.refl Z
 have cI := hp (hs4.small) (hs7.small) (hs11.small) (hs14.small)
 refine sqB aW hM0 [] [] [] ?_; intro cJ a1
 have a2 : Fr 33 [] [⟨0, [], pt b1 0⟩, ⟨1, [], pt b1 0⟩, ⟨2, [], pt b8 0⟩] cJ := a1.reg
 refine wp_seq (rgF mixed hM0 [2, 3, 4, 5, 9, 10, 11, 12] [6, 7, 13, 14, 15, 16] [0, 1, 8] [] [] ?_)
 intro cK a3 cL a4
 have f := Fz.le.refl Z
 refine cS a2 8 [] [] [(12, pt b1 0), (13, pt b8 0), (19, pt b8 0), (20, pt b1 0)] ?_; intro dT a5
 refine nS ⟨[⟨0, 8, fun b => pt b 0, [.bool false, .slice none 0 0], 73⟩, ⟨1, 9, fun b => pt b 0, [.bool false, .slice none 0 0], 73⟩, ⟨8, 16, fun b => pt b 0, [.bool false, .slice none 0 0], 73⟩], rfl, ?_⟩; intro cM cN cO
 have a6 : Mem B [] w0 Z0 ((.row b1 (e75Nf u0 ao2 cap3 ao5 cap6) 75) :: (.row b8 (e75Nf u2 ao9 cap10 ao12 cap13) 75) :: (rowsF cM ++ Rr)) Z cL := by rw [cO]; exact a4
 refine eF 2 [] Rr cN a5 a6 f (fO (fO (fO fN))) ?_; intro cP dU dV cQ a7 au cR a8
 obtain ⟨cT, cU⟩ := cI
 refine ck a7 76 #[pt b8 0] ?_
 refine (rden_fun u2 cT b8 ao9 cap10 ao12 cap13 _ _ _ _ _ _ hs11 hs14 (au.perm (pk 1 rfl)) au.fz).mono ?_; rintro _ cV ⟨a9, ba, bb, bc, cW, rfl, S, k, l, hm⟩; refine ⟨_, rfl, ?_⟩; intro dW bd; have be := hm
 replace hs4 := hs4.mono S
 replace hs7 := hs7.mono S
 replace f := f.mono S
 replace j := Fz.le.trans j S
 have av : Mem B [] w0 Z0 ((.row b8 (e75Nf (rdenS u2) a9 ba bb bc) 75) :: (.row b1 (e75Nf u0 ao2 cap3 ao5 cap6) 75) :: (rowsF cP ++ Rr)) cW cV := be
 refine nl (qnI (a8 _ _ (fun _ => av.cst f []) ?_))
 refine tkF 1 2 [] Rr cQ bd av f (fO (fO (fO fN))) ?_; intro v dX dY dZ cX bf bg
 refine eF 3 [] Rr cX bf bg f (fO (fO fN)) ?_; intro cY d0 d1 cZ bh aw c0 bi
 obtain ⟨c1, c2⟩ := cU
 refine ck bh 75 #[pt v 0, pt b1 0, pt b8 2] ?_
 refine (gmulAB_fun (⟨false, []⟩ : BInt) u0 (rdenS u2) c1 v none 0 b1 ao2 cap3 ao5 cap6 b8 a9 ba bb bc _ _ _ _ _ _ (SlR.nil _ _) hs4 hs7 k l (aw.perm (((pk 1 rfl).trans (lpr.cons _)).cons _)) aw.fz).mono ?_; rintro _ c3 ⟨ah, ai, bj, bk, bl, bm, ax, ay, az, aA, c4, rfl, M, n, o, p, q, s, hm⟩; refine ⟨_, rfl, ?_⟩; intro d2 bn; have bo := hm
 replace f := f.mono M
 replace j := Fz.le.trans j M
 have aB : Mem B [] w0 Z0 ((.row v [.bool (gmulABS (⟨false, []⟩ : BInt) u0 (rdenS u2)).1.neg, .slice ah (gmulABS (⟨false, []⟩ : BInt) u0 (rdenS u2)).1.abs.length ai] 73) :: (.row b1 (e75Nf ((gmulABS (⟨false, []⟩ : BInt) u0 (rdenS u2)).2.1) bj bk bl bm) 75) :: (.row b8 (e75Nf ((gmulABS (⟨false, []⟩ : BInt) u0 (rdenS u2)).2.2) ax ay az aA) 75) :: (rowsF cY ++ Rr)) c4 c3 := bo
 refine nl (qnI (bi _ _ (fun _ => aB.cst f []) ?_))
 refine eF 3 [] Rr cZ bn aB f (fO (fO fN)) ?_; intro c5 d3 d4 c6 bp aC c7 bq
 obtain ⟨c8, c9⟩ := c2
 refine ck bp 76 #[pt b1 0] ?_
 refine (rden_fun (gmulABS (⟨false, []⟩ : BInt) u0 (rdenS u2)).2.1 c8 b1 bj bk bl bm _ _ _ _ _ _ o p (aC.perm (pk 1 rfl)) aC.fz).mono ?_; rintro _ da ⟨br, bs, bu, bv, db, rfl, x, y, z, hm⟩; refine ⟨_, rfl, ?_⟩; intro d5 bw; have bx := hm
 replace f := f.mono x
 replace n := n.mono x
 replace q := q.mono x
 replace s := s.mono x
 replace j := Fz.le.trans j x
 have aD : Mem B [] w0 Z0 ((.row b1 (e75Nf (rdenS (gmulABS (⟨false, []⟩ : BInt) u0 (rdenS u2)).2.1) br bs bu bv) 75) :: (.row v [.bool (gmulABS (⟨false, []⟩ : BInt) u0 (rdenS u2)).1.neg, .slice ah (gmulABS (⟨false, []⟩ : BInt) u0 (rdenS u2)).1.abs.length ai] 73) :: (.row b8 (e75Nf ((gmulABS (⟨false, []⟩ : BInt) u0 (rdenS u2)).2.2) ax ay az aA) 75) :: (rowsF c5 ++ Rr)) db da := bx
 refine nl (qnI (bq _ _ (fun _ => aD.cst f []) ?_))
 refine tkF 1 3 [] Rr c6 bw aD f (fO (fO fN)) ?_; intro C d6 d7 d8 dc bz bA
 refine eF 4 [] Rr dc bz bA f (fO fN) ?_; intro dd d9 ea de bB aE df bC
 obtain ⟨dg, dh⟩ := c9
 refine ck bB 75 #[pt C 0, pt b8 0, pt b1 2] ?_
 refine (gmulAB_fun (⟨false, []⟩ : BInt) (gmulABS (⟨false, []⟩ : BInt) u0 (rdenS u2)).2.2 (rdenS (gmulABS (⟨false, []⟩ : BInt) u0 (rdenS u2)).2.1) dg C none 0 b8 ax ay az aA b1 br bs bu bv _ _ _ _ _ _ (SlR.nil _ _) q s y z (aE.perm (((pk 2 rfl).trans (lpr.cons _)).cons _)) aE.fz).mono ?_; rintro _ di ⟨bD, bE, ac, ad, ae, af, aj, ak, al, am, dj, rfl, t, D, E, F, G, H, hm⟩; refine ⟨_, rfl, ?_⟩; intro eb bF; have bG := hm
 replace f := f.mono t
 replace n := n.mono t
 replace j := Fz.le.trans j t
 have aF : Mem B [] w0 Z0 ((.row C [.bool (gmulABS (⟨false, []⟩ : BInt) (gmulABS (⟨false, []⟩ : BInt) u0 (rdenS u2)).2.2 (rdenS (gmulABS (⟨false, []⟩ : BInt) u0 (rdenS u2)).2.1)).1.neg, .slice bD (gmulABS (⟨false, []⟩ : BInt) (gmulABS (⟨false, []⟩ : BInt) u0 (rdenS u2)).2.2 (rdenS (gmulABS (⟨false, []⟩ : BInt) u0 (rdenS u2)).2.1)).1.abs.length bE] 73) :: (.row b8 (e75Nf ((gmulABS (⟨false, []⟩ : BInt) (gmulABS (⟨false, []⟩ : BInt) u0 (rdenS u2)).2.2 (rdenS (gmulABS (⟨false, []⟩ : BInt) u0 (rdenS u2)).2.1)).2.1) ac ad ae af) 75) :: (.row b1 (e75Nf ((gmulABS (⟨false, []⟩ : BInt) (gmulABS (⟨false, []⟩ : BInt) u0 (rdenS u2)).2.2 (rdenS (gmulABS (⟨false, []⟩ : BInt) u0 (rdenS u2)).2.1)).2.2) aj ak al am) 75) :: (.row v [.bool (gmulABS (⟨false, []⟩ : BInt) u0 (rdenS u2)).1.neg, .slice ah (gmulABS (⟨false, []⟩ : BInt) u0 (rdenS u2)).1.abs.length ai] 73) :: (rowsF dd ++ Rr)) dj di := bG
 refine nl (qnI (bC _ _ (fun _ => aF.cst f []) ?_))
 refine tkF 0 4 [] Rr de bF aF f (fO fN) ?_; intro A ec ed ee bH bI bJ
 obtain rfl := nilF bH
 refine eF 5 [] Rr bH bI bJ f fN ?_; intro ef eg eh bK bL aG dk bM
 obtain rfl := nilF bK
 obtain ⟨dl, dm⟩ := dh
 refine ck bL 74 #[pt A 0, pt v 0, pt C 0] ?_
 refine (gsubI_fun (⟨false, []⟩ : BInt) (gmulABS (⟨false, []⟩ : BInt) u0 (rdenS u2)).1 (gmulABS (⟨false, []⟩ : BInt) (gmulABS (⟨false, []⟩ : BInt) u0 (rdenS u2)).2.2 (rdenS (gmulABS (⟨false, []⟩ : BInt) u0 (rdenS u2)).2.1)).1 dl A none 0 v ah ai C bD bE _ _ _ _ _ _ (SlR.nil _ _) n D (aG.perm (((pk 3 rfl).trans (lpr.cons _)).cons _)) aG.fz).mono ?_; rintro _ dn ⟨T, U, V, W, X, Y, bN, rfl, i, I, N, O, hm⟩; refine ⟨_, rfl, ?_⟩; intro ei bO; have bP := hm
 replace f := f.mono i
 replace E := E.mono i
 replace F := F.mono i
 replace G := G.mono i
 replace H := H.mono i
 replace j := Fz.le.trans j i
 have aH : Mem B [] w0 Z0 ((.row A [.bool (gsubIS (⟨false, []⟩ : BInt) (gmulABS (⟨false, []⟩ : BInt) u0 (rdenS u2)).1 (gmulABS (⟨false, []⟩ : BInt) (gmulABS (⟨false, []⟩ : BInt) u0 (rdenS u2)).2.2 (rdenS (gmulABS (⟨false, []⟩ : BInt) u0 (rdenS u2)).2.1)).1).1.neg, .slice T (gsubIS (⟨false, []⟩ : BInt) (gmulABS (⟨false, []⟩ : BInt) u0 (rdenS u2)).1 (gmulABS (⟨false, []⟩ : BInt) (gmulABS (⟨false, []⟩ : BInt) u0 (rdenS u2)).2.2 (rdenS (gmulABS (⟨false, []⟩ : BInt) u0 (rdenS u2)).2.1)).1).1.abs.length U] 73) :: (.row v [.bool (gsubIS (⟨false, []⟩ : BInt) (gmulABS (⟨false, []⟩ : BInt) u0 (rdenS u2)).1 (gmulABS (⟨false, []⟩ : BInt) (gmulABS (⟨false, []⟩ : BInt) u0 (rdenS u2)).2.2 (rdenS (gmulABS (⟨false, []⟩ : BInt) u0 (rdenS u2)).2.1)).1).2.1.neg, .slice V (gsubIS (⟨false, []⟩ : BInt) (gmulABS (⟨false, []⟩ : BInt) u0 (rdenS u2)).1 (gmulABS (⟨false, []⟩ : BInt) (gmulABS (⟨false, []⟩ : BInt) u0 (rdenS u2)).2.2 (rdenS (gmulABS (⟨false, []⟩ : BInt) u0 (rdenS u2)).2.1)).1).2.1.abs.length W] 73) :: (.row C [.bool (gsubIS (⟨false, []⟩ : BInt) (gmulABS (⟨false, []⟩ : BInt) u0 (rdenS u2)).1 (gmulABS (⟨false, []⟩ : BInt) (gmulABS (⟨false, []⟩ : BInt) u0 (rdenS u2)).2.2 (rdenS (gmulABS (⟨false, []⟩ : BInt) u0 (rdenS u2)).2.1)).1).2.2.neg, .slice X (gsubIS (⟨false, []⟩ : BInt) (gmulABS (⟨false, []⟩ : BInt) u0 (rdenS u2)).1 (gmulABS (⟨false, []⟩ : BInt) (gmulABS (⟨false, []⟩ : BInt) u0 (rdenS u2)).2.2 (rdenS (gmulABS (⟨false, []⟩ : BInt) u0 (rdenS u2)).2.1)).1).2.2.abs.length Y] 73) :: (.row b8 (e75Nf ((gmulABS (⟨false, []⟩ : BInt) (gmulABS (⟨false, []⟩ : BInt) u0 (rdenS u2)).2.2 (rdenS (gmulABS (⟨false, []⟩ : BInt) u0 (rdenS u2)).2.1)).2.1) ac ad ae af) 75) :: (.row b1 (e75Nf ((gmulABS (⟨false, []⟩ : BInt) (gmulABS (⟨false, []⟩ : BInt) u0 (rdenS u2)).2.2 (rdenS (gmulABS (⟨false, []⟩ : BInt) u0 (rdenS u2)).2.1)).2.2) aj ak al am) 75) :: Rr) bN dn := bP
 refine nl (qnI (bM _ _ (fun _ => aH.cst f []) ?_))
 refine eF 5 [] Rr bK bO aH f fN ?_; intro ej ek dp bQ bR aI dq bS
 obtain rfl := nilF bQ
 refine s1 bR 7 (pt A 0) ?_; intro el bT
 refine nl (qnI (bS _ _ (fun _ => aI.cst f []) ?_))
 have aJ : Mem B [] w0 Z0 ((.row A [.bool (gsubIS (⟨false, []⟩ : BInt) (gmulABS (⟨false, []⟩ : BInt) u0 (rdenS u2)).1 (gmulABS (⟨false, []⟩ : BInt) (gmulABS (⟨false, []⟩ : BInt) u0 (rdenS u2)).2.2 (rdenS (gmulABS (⟨false, []⟩ : BInt) u0 (rdenS u2)).2.1)).1).1.neg, .slice T (gsubIS (⟨false, []⟩ : BInt) (gmulABS (⟨false, []⟩ : BInt) u0 (rdenS u2)).1 (gmulABS (⟨false, []⟩ : BInt) (gmulABS (⟨false, []⟩ : BInt) u0 (rdenS u2)).2.2 (rdenS (gmulABS (⟨false, []⟩ : BInt) u0 (rdenS u2)).2.1)).1).1.abs.length U] 73) :: (.row v [.bool (gsubIS (⟨false, []⟩ : BInt) (gmulABS (⟨false, []⟩ : BInt) u0 (rdenS u2)).1 (gmulABS (⟨false, []⟩ : BInt) (gmulABS (⟨false, []⟩ : BInt) u0 (rdenS u2)).2.2 (rdenS (gmulABS (⟨false, []⟩ : BInt) u0 (rdenS u2)).2.1)).1).2.1.neg, .slice V (gsubIS (⟨false, []⟩ : BInt) (gmulABS (⟨false, []⟩ : BInt) u0 (rdenS u2)).1 (gmulABS (⟨false, []⟩ : BInt) (gmulABS (⟨false, []⟩ : BInt) u0 (rdenS u2)).2.2 (rdenS (gmulABS (⟨false, []⟩ : BInt) u0 (rdenS u2)).2.1)).1).2.1.abs.length W] 73) :: (.row C [.bool (gsubIS (⟨false, []⟩ : BInt) (gmulABS (⟨false, []⟩ : BInt) u0 (rdenS u2)).1 (gmulABS (⟨false, []⟩ : BInt) (gmulABS (⟨false, []⟩ : BInt) u0 (rdenS u2)).2.2 (rdenS (gmulABS (⟨false, []⟩ : BInt) u0 (rdenS u2)).2.1)).1).2.2.neg, .slice X (gsubIS (⟨false, []⟩ : BInt) (gmulABS (⟨false, []⟩ : BInt) u0 (rdenS u2)).1 (gmulABS (⟨false, []⟩ : BInt) (gmulABS (⟨false, []⟩ : BInt) u0 (rdenS u2)).2.2 (rdenS (gmulABS (⟨false, []⟩ : BInt) u0 (rdenS u2)).2.1)).1).2.2.abs.length Y] 73) :: (.row b8 (e75Nf ((gmulABS (⟨false, []⟩ : BInt) (gmulABS (⟨false, []⟩ : BInt) u0 (rdenS u2)).2.2 (rdenS (gmulABS (⟨false, []⟩ : BInt) u0 (rdenS u2)).2.1)).2.1) ac ad ae af) 75) :: (.row b1 (e75Nf ((gmulABS (⟨false, []⟩ : BInt) (gmulABS (⟨false, []⟩ : BInt) u0 (rdenS u2)).2.2 (rdenS (gmulABS (⟨false, []⟩ : BInt) u0 (rdenS u2)).2.1)).2.2) aj ak al am) 75) :: Rr) bN dp := aI
 refine nF bQ (a3 _ _ ?_)
 refine t_ (sqH ?_); intro dr bU
 refine bt bT aJ 2 [] [] [(24, pt b1 0), (25, pt A 0)] ?_; intro em bV
 refine nw bV aJ pb [.bool false, .slice none 0 0] 73 ?_; intro P en eo bW aK
 refine s1 bW 27 (pt b1 0) ?_; intro ep bX
 obtain ⟨ds, bY⟩ := dm
 refine ck bX 76 #[pt b1 0] ?_
 obtain ⟨J, dt, bZ⟩ := hxq bY
 have u := rden_fun (gmulABS (⟨false, []⟩ : BInt) (gmulABS (⟨false, []⟩ : BInt) u0 (rdenS u2)).2.2 (rdenS (gmulABS (⟨false, []⟩ : BInt) u0 (rdenS u2)).2.1)).2.2 ds b1 aj ak al am _ _ _ _ _ _ G H (aK.perm (pk 5 rfl)) aK.fz; rw [dt] at u; refine u.mono ?_; rintro _ du ⟨aL, aM, aN, aO, dv, rfl, h, Q, R, hm⟩; refine ⟨_, rfl, ?_⟩; intro eq b0; have b2 := hm
 replace E := E.mono h
 replace F := F.mono h
 replace I := I.mono h
 replace j := Fz.le.trans j h
 have aP : Mem B [] w0 Z0 ((.row b1 (e75Nf J aL aM aN aO) 75) :: (.row P [.bool false, .slice none 0 0] 73) :: (.row A [.bool (gsubIS (⟨false, []⟩ : BInt) (gmulABS (⟨false, []⟩ : BInt) u0 (rdenS u2)).1 (gmulABS (⟨false, []⟩ : BInt) (gmulABS (⟨false, []⟩ : BInt) u0 (rdenS u2)).2.2 (rdenS (gmulABS (⟨false, []⟩ : BInt) u0 (rdenS u2)).2.1)).1).1.neg, .slice T (gsubIS (⟨false, []⟩ : BInt) (gmulABS (⟨false, []⟩ : BInt) u0 (rdenS u2)).1 (gmulABS (⟨false, []⟩ : BInt) (gmulABS (⟨false, []⟩ : BInt) u0 (rdenS u2)).2.2 (rdenS (gmulABS (⟨false, []⟩ : BInt) u0 (rdenS u2)).2.1)).1).1.abs.length U] 73) :: (.row v [.bool (gsubIS (⟨false, []⟩ : BInt) (gmulABS (⟨false, []⟩ : BInt) u0 (rdenS u2)).1 (gmulABS (⟨false, []⟩ : BInt) (gmulABS (⟨false, []⟩ : BInt) u0 (rdenS u2)).2.2 (rdenS (gmulABS (⟨false, []⟩ : BInt) u0 (rdenS u2)).2.1)).1).2.1.neg, .slice V (gsubIS (⟨false, []⟩ : BInt) (gmulABS (⟨false, []⟩ : BInt) u0 (rdenS u2)).1 (gmulABS (⟨false, []⟩ : BInt) (gmulABS (⟨false, []⟩ : BInt) u0 (rdenS u2)).2.2 (rdenS (gmulABS (⟨false, []⟩ : BInt) u0 (rdenS u2)).2.1)).1).2.1.abs.length W] 73) :: (.row C [.bool (gsubIS (⟨false, []⟩ : BInt) (gmulABS (⟨false, []⟩ : BInt) u0 (rdenS u2)).1 (gmulABS (⟨false, []⟩ : BInt) (gmulABS (⟨false, []⟩ : BInt) u0 (rdenS u2)).2.2 (rdenS (gmulABS (⟨false, []⟩ : BInt) u0 (rdenS u2)).2.1)).1).2.2.neg, .slice X (gsubIS (⟨false, []⟩ : BInt) (gmulABS (⟨false, []⟩ : BInt) u0 (rdenS u2)).1 (gmulABS (⟨false, []⟩ : BInt) (gmulABS (⟨false, []⟩ : BInt) u0 (rdenS u2)).2.2 (rdenS (gmulABS (⟨false, []⟩ : BInt) u0 (rdenS u2)).2.1)).1).2.2.abs.length Y] 73) :: (.row b8 (e75Nf ((gmulABS (⟨false, []⟩ : BInt) (gmulABS (⟨false, []⟩ : BInt) u0 (rdenS u2)).2.2 (rdenS (gmulABS (⟨false, []⟩ : BInt) u0 (rdenS u2)).2.1)).2.1) ac ad ae af) 75) :: Rr) dv du := b2
 have dw := bZ (Q.small) (R.small)
 refine s1 b0 29 (pt b8 0) ?_; intro er b4
 obtain ⟨dx, b5⟩ := dw
 refine ck b4 76 #[pt b8 0] ?_
 obtain ⟨ag, dy, b6⟩ := hxq b5
 have u := rden_fun (gmulABS (⟨false, []⟩ : BInt) (gmulABS (⟨false, []⟩ : BInt) u0 (rdenS u2)).2.2 (rdenS (gmulABS (⟨false, []⟩ : BInt) u0 (rdenS u2)).2.1)).2.1 dx b8 ac ad ae af _ _ _ _ _ _ E F (aP.perm (pk 5 rfl)) aP.fz; rw [dy] at u; refine u.mono ?_; rintro _ dz ⟨b7, b9, ca, cb, dA, rfl, g, aa, ab, hm⟩; refine ⟨_, rfl, ?_⟩; intro es cc; have cd := hm
 replace I := I.mono g
 replace Q := Q.mono g
 replace R := R.mono g
 replace j := Fz.le.trans j g
 have aQ : Mem B [] w0 Z0 ((.row b8 (e75Nf ag b7 b9 ca cb) 75) :: (.row b1 (e75Nf J aL aM aN aO) 75) :: (.row P [.bool false, .slice none 0 0] 73) :: (.row A [.bool (gsubIS (⟨false, []⟩ : BInt) (gmulABS (⟨false, []⟩ : BInt) u0 (rdenS u2)).1 (gmulABS (⟨false, []⟩ : BInt) (gmulABS (⟨false, []⟩ : BInt) u0 (rdenS u2)).2.2 (rdenS (gmulABS (⟨false, []⟩ : BInt) u0 (rdenS u2)).2.1)).1).1.neg, .slice T (gsubIS (⟨false, []⟩ : BInt) (gmulABS (⟨false, []⟩ : BInt) u0 (rdenS u2)).1 (gmulABS (⟨false, []⟩ : BInt) (gmulABS (⟨false, []⟩ : BInt) u0 (rdenS u2)).2.2 (rdenS (gmulABS (⟨false, []⟩ : BInt) u0 (rdenS u2)).2.1)).1).1.abs.length U] 73) :: (.row v [.bool (gsubIS (⟨false, []⟩ : BInt) (gmulABS (⟨false, []⟩ : BInt) u0 (rdenS u2)).1 (gmulABS (⟨false, []⟩ : BInt) (gmulABS (⟨false, []⟩ : BInt) u0 (rdenS u2)).2.2 (rdenS (gmulABS (⟨false, []⟩ : BInt) u0 (rdenS u2)).2.1)).1).2.1.neg, .slice V (gsubIS (⟨false, []⟩ : BInt) (gmulABS (⟨false, []⟩ : BInt) u0 (rdenS u2)).1 (gmulABS (⟨false, []⟩ : BInt) (gmulABS (⟨false, []⟩ : BInt) u0 (rdenS u2)).2.2 (rdenS (gmulABS (⟨false, []⟩ : BInt) u0 (rdenS u2)).2.1)).1).2.1.abs.length W] 73) :: (.row C [.bool (gsubIS (⟨false, []⟩ : BInt) (gmulABS (⟨false, []⟩ : BInt) u0 (rdenS u2)).1 (gmulABS (⟨false, []⟩ : BInt) (gmulABS (⟨false, []⟩ : BInt) u0 (rdenS u2)).2.2 (rdenS (gmulABS (⟨false, []⟩ : BInt) u0 (rdenS u2)).2.1)).1).2.2.neg, .slice X (gsubIS (⟨false, []⟩ : BInt) (gmulABS (⟨false, []⟩ : BInt) u0 (rdenS u2)).1 (gmulABS (⟨false, []⟩ : BInt) (gmulABS (⟨false, []⟩ : BInt) u0 (rdenS u2)).2.2 (rdenS (gmulABS (⟨false, []⟩ : BInt) u0 (rdenS u2)).2.1)).1).2.2.abs.length Y] 73) :: Rr) dA dz := cd
 obtain ⟨dC, cf⟩ := b6 (aa.small) (ab.small)
 refine ck cc 75 #[pt P 0, pt b1 2, pt b8 2] ?_
 obtain ⟨m, dD, cg⟩ := hxq cf
 have u := gmulBB_fun (⟨false, []⟩ : BInt) J ag dC P none 0 b1 aL aM aN aO b8 b7 b9 ca cb _ _ _ _ _ _ (SlR.nil _ _) Q R aa ab (aQ.perm ((pk 2 rfl).trans (((pk 1 rfl).trans (lpr.cons _)).cons _))) aQ.fz; rw [dD] at u; refine u.mono ?_; rintro _ dE ⟨ch, ci, cj, cl, cm, cn, aR, aS, aT, aU, dF, rfl, d, an, ao, ap, aq, ar, hm⟩; refine ⟨_, rfl, ?_⟩; intro et co; have cp := hm
 replace I := I.mono d
 replace j := Fz.le.trans j d
 have aV : Mem B [] w0 Z0 ((.row P [.bool m.1.neg, .slice ch m.1.abs.length ci] 73) :: (.row b1 (e75Nf m.2.1 cj cl cm cn) 75) :: (.row b8 (e75Nf m.2.2 aR aS aT aU) 75) :: (.row A [.bool (gsubIS (⟨false, []⟩ : BInt) (gmulABS (⟨false, []⟩ : BInt) u0 (rdenS u2)).1 (gmulABS (⟨false, []⟩ : BInt) (gmulABS (⟨false, []⟩ : BInt) u0 (rdenS u2)).2.2 (rdenS (gmulABS (⟨false, []⟩ : BInt) u0 (rdenS u2)).2.1)).1).1.neg, .slice T (gsubIS (⟨false, []⟩ : BInt) (gmulABS (⟨false, []⟩ : BInt) u0 (rdenS u2)).1 (gmulABS (⟨false, []⟩ : BInt) (gmulABS (⟨false, []⟩ : BInt) u0 (rdenS u2)).2.2 (rdenS (gmulABS (⟨false, []⟩ : BInt) u0 (rdenS u2)).2.1)).1).1.abs.length U] 73) :: (.row v [.bool (gsubIS (⟨false, []⟩ : BInt) (gmulABS (⟨false, []⟩ : BInt) u0 (rdenS u2)).1 (gmulABS (⟨false, []⟩ : BInt) (gmulABS (⟨false, []⟩ : BInt) u0 (rdenS u2)).2.2 (rdenS (gmulABS (⟨false, []⟩ : BInt) u0 (rdenS u2)).2.1)).1).2.1.neg, .slice V (gsubIS (⟨false, []⟩ : BInt) (gmulABS (⟨false, []⟩ : BInt) u0 (rdenS u2)).1 (gmulABS (⟨false, []⟩ : BInt) (gmulABS (⟨false, []⟩ : BInt) u0 (rdenS u2)).2.2 (rdenS (gmulABS (⟨false, []⟩ : BInt) u0 (rdenS u2)).2.1)).1).2.1.abs.length W] 73) :: (.row C [.bool (gsubIS (⟨false, []⟩ : BInt) (gmulABS (⟨false, []⟩ : BInt) u0 (rdenS u2)).1 (gmulABS (⟨false, []⟩ : BInt) (gmulABS (⟨false, []⟩ : BInt) u0 (rdenS u2)).2.2 (rdenS (gmulABS (⟨false, []⟩ : BInt) u0 (rdenS u2)).2.1)).1).2.2.neg, .slice X (gsubIS (⟨false, []⟩ : BInt) (gmulABS (⟨false, []⟩ : BInt) u0 (rdenS u2)).1 (gmulABS (⟨false, []⟩ : BInt) (gmulABS (⟨false, []⟩ : BInt) u0 (rdenS u2)).2.2 (rdenS (gmulABS (⟨false, []⟩ : BInt) u0 (rdenS u2)).2.1)).1).2.2.abs.length Y] 73) :: Rr) dF dE := cp
 obtain ⟨dH, cu⟩ := cg (an.small) (ao.small) (ap.small) (aq.small) (ar.small)
 refine ck co 73 #[pt b1 0, pt A 0, pt P 0] ?_
 obtain ⟨L, dI, cv⟩ := hxq cu
 have u := rsf_fun m.2.1 (gsubIS (⟨false, []⟩ : BInt) (gmulABS (⟨false, []⟩ : BInt) u0 (rdenS u2)).1 (gmulABS (⟨false, []⟩ : BInt) (gmulABS (⟨false, []⟩ : BInt) u0 (rdenS u2)).2.2 (rdenS (gmulABS (⟨false, []⟩ : BInt) u0 (rdenS u2)).2.1)).1).1 m.1 dH b1 cj cl cm cn A T U P ch ci _ _ _ _ _ _ ao ap I an (aV.perm ((pk 1 rfl).trans (((pk 2 rfl).trans (lpr.cons _)).cons _))) aV.fz; rw [dI] at u; refine u.mono ?_; rintro _ dJ ⟨cw, cx, cy, cz, dK, dL, dM, dN, cA, rfl, c, cB, cC, dO, dP, hm⟩; refine ⟨_, rfl, ?_⟩; intro eu cD; have cE := hm
 replace aq := aq.mono c
 replace ar := ar.mono c
 replace j := Fz.le.trans j c
 have dQ : Mem B [] w0 Z0 ((.row b1 (e75Nf L.1 cw cx cy cz) 75) :: (.row A [.bool L.2.1.neg, .slice dK L.2.1.abs.length dL] 73) :: (.row P [.bool L.2.2.neg, .slice dM L.2.2.abs.length dN] 73) :: (.row b8 (e75Nf m.2.2 aR aS aT aU) 75) :: (.row v [.bool (gsubIS (⟨false, []⟩ : BInt) (gmulABS (⟨false, []⟩ : BInt) u0 (rdenS u2)).1 (gmulABS (⟨false, []⟩ : BInt) (gmulABS (⟨false, []⟩ : BInt) u0 (rdenS u2)).2.2 (rdenS (gmulABS (⟨false, []⟩ : BInt) u0 (rdenS u2)).2.1)).1).2.1.neg, .slice V (gsubIS (⟨false, []⟩ : BInt) (gmulABS (⟨false, []⟩ : BInt) u0 (rdenS u2)).1 (gmulABS (⟨false, []⟩ : BInt) (gmulABS (⟨false, []⟩ : BInt) u0 (rdenS u2)).2.2 (rdenS (gmulABS (⟨false, []⟩ : BInt) u0 (rdenS u2)).2.1)).1).2.1.abs.length W] 73) :: (.row C [.bool (gsubIS (⟨false, []⟩ : BInt) (gmulABS (⟨false, []⟩ : BInt) u0 (rdenS u2)).1 (gmulABS (⟨false, []⟩ : BInt) (gmulABS (⟨false, []⟩ : BInt) u0 (rdenS u2)).2.2 (rdenS (gmulABS (⟨false, []⟩ : BInt) u0 (rdenS u2)).2.1)).1).2.2.neg, .slice X (gsubIS (⟨false, []⟩ : BInt) (gmulABS (⟨false, []⟩ : BInt) u0 (rdenS u2)).1 (gmulABS (⟨false, []⟩ : BInt) (gmulABS (⟨false, []⟩ : BInt) u0 (rdenS u2)).2.2 (rdenS (gmulABS (⟨false, []⟩ : BInt) u0 (rdenS u2)).2.1)).1).2.2.abs.length Y] 73) :: Rr) cA dJ := cE
 have dR := cv (cB.small) (cC.small) (dO.small) (dP.small)
 refine s1 cD 6 (pt b1 0) ?_; intro ev dS
 apply bU
 exact r_ (ra1 dS (pt b1 0) ⟨(L.1, m.2.2), cw, cx, cy, cz, aR, aS, aT, aU, cA, rfl, dR, j, cB, cC, aq, ar, dQ.kp⟩)
theorem rmul_walk (u0 : BRat) (u2 : BRat) (b1 : Nat) (ao2 : Option Addr) (cap3 : Nat) (ao5 : Option Addr) (cap6 : Nat) (b8 : Nat) (ao9 : Option Addr) (cap10 : Nat) (ao12 : Option Addr) (cap13 : Nat) (B : Nat) (w0 : World) (Z0 : Fz) (Rr : List Res) (Z : Fz) (w : World) (hs4 : SlR (tyInt .u32) Z ao2 cap3 u0.a.abs) (hs7 : SlR (tyInt .u32) Z ao5 cap6 u0.b.abs) (hs11 : SlR (tyInt .u32) Z ao9 cap10 u2.a.abs) (hs14 : SlR (tyInt .u32) Z ao12 cap13 u2.b.abs) (hM0 : Mem B [] w0 Z0 ((.row b1 [.bool u0.a.neg, .slice ao2 u0.a.abs.length cap3, .bool u0.b.neg, .slice ao5 u0.b.abs.length cap6] 75) :: (.row b8 [.bool u2.a.neg, .slice ao9 u2.a.abs.length cap10, .bool u2.b.neg, .slice ao12 u2.b.abs.length cap13] 75) :: Rr) Z w) (hZ : Z.on w) {K : (BRat × BRat) → Prop} (hp : rmul_vc u0 u2 K) : Calls Tryz.prog 45 #[pt b1 0, pt b1 0, pt b8 0] w fun e w' => ∃ (r : BRat × BRat) (ao1001 : Option Addr) (cap1002 : Nat) (ao1004 : Option Addr) (cap1005 : Nat) (ao1007 : Option Addr) (cap1008 : Nat) (ao1010 : Option Addr) (cap1011 : Nat) (Z' : Fz), e = .returned (pt b1 0) ∧ K r ∧ Fz.le Z Z' ∧ SlR (tyInt .u32) Z' ao1001 cap1002 r.1.a.abs ∧ SlR (tyInt .u32) Z' ao1004 cap1005 r.1.b.abs ∧ SlR (tyInt .u32) Z' ao1007 cap1008 r.2.a.abs ∧ SlR (tyInt .u32) Z' ao1010 cap1011 r.2.b.abs ∧ Mem B [] w0 Z0 ((.row b1 [.bool r.1.a.neg, .slice ao1001 r.1.a.abs.length cap1002, .bool r.1.b.neg, .slice ao1004 r.1.b.abs.length cap1005] 75) :: (.row b8 [.bool r.2.a.neg, .slice ao1007 r.2.a.abs.length cap1008, .bool r.2.b.neg, .slice ao1010 r.2.b.abs.length cap1011] 75) :: Rr) Z' w' := by
 refine enter0 Tryz.func45 rfl rfl (by kernel_rfl) ?_; intro a0 aj; have h := Fz.le.refl Z
 have bi := hp (hs4.small) (hs7.small) (hs11.small) (hs14.small)
 refine sqB aj hM0 [] [] [] ?_; intro bj an
 have ao : Fr 23 [] [⟨0, [], pt b1 0⟩, ⟨1, [], pt b1 0⟩, ⟨2, [], pt b8 0⟩] bj := an.reg
 refine wp_seq (rgF mixed hM0 [0, 2, 3, 4, 5, 6, 7, 10, 12] [8, 11, 13, 14, 15, 16] [1, 9] [] [] ?_)
 intro bk ap bl aq
 have c := Fz.le.refl Z
 refine cS ao 9 [] [] [(7, pt b1 0), (11, pt b1 0), (14, pt b8 0), (17, pt b1 0), (19, pt b8 0)] ?_; intro b2 ar
 refine nS ⟨[⟨1, 8, fun b => pt b 0, [.bool false, .slice none 0 0], 73⟩, ⟨9, 16, fun b => pt b 0, [.bool false, .slice none 0 0], 73⟩], rfl, ?_⟩; intro bm bn bo
 have au : Mem B [] w0 Z0 ((.row b1 (e75Nf u0 ao2 cap3 ao5 cap6) 75) :: (.row b8 (e75Nf u2 ao9 cap10 ao12 cap13) 75) :: (rowsF bm ++ Rr)) Z bl := by rw [bo]; exact aq
 refine tkF 0 2 [] Rr bn ar au c (fO (fO fN)) ?_; intro j b3 b4 b5 bp av aw
 refine eF 3 [] Rr bp av aw c (fO fN) ?_; intro bq b6 b7 br ax E bs ay
 obtain ⟨bt, bu⟩ := bi
 refine ck ax 75 #[pt j 0, pt b1 0, pt b8 0] ?_
 refine (gmulAA_fun (⟨false, []⟩ : BInt) u0 u2 bt j none 0 b1 ao2 cap3 ao5 cap6 b8 ao9 cap10 ao12 cap13 _ _ _ _ _ _ (SlR.nil _ _) hs4 hs7 hs11 hs14 E E.fz).mono ?_; rintro _ bv ⟨u, v, az, aA, aB, aC, F, G, H, I, bw, rfl, t, k, l, m, n, o, hm⟩; refine ⟨_, rfl, ?_⟩; intro b9 aD; have aE := hm
 replace c := c.mono t
 replace h := Fz.le.trans h t
 have J : Mem B [] w0 Z0 ((.row j [.bool (gmulAAS (⟨false, []⟩ : BInt) u0 u2).1.neg, .slice u (gmulAAS (⟨false, []⟩ : BInt) u0 u2).1.abs.length v] 73) :: (.row b1 (e75Nf ((gmulAAS (⟨false, []⟩ : BInt) u0 u2).2.1) az aA aB aC) 75) :: (.row b8 (e75Nf ((gmulAAS (⟨false, []⟩ : BInt) u0 u2).2.2) F G H I) 75) :: (rowsF bq ++ Rr)) bw bv := aE
 refine nl (qnI (ay _ _ (fun _ => J.cst c []) ?_))
 refine eF 3 [] Rr br aD J c (fO fN) ?_; intro bx ca cb bz aF L bA aG
 obtain ⟨bB, bC⟩ := bu
 refine ck aF 76 #[pt b1 0] ?_
 refine (rden_fun (gmulAAS (⟨false, []⟩ : BInt) u0 u2).2.1 bB b1 az aA aB aC _ _ _ _ _ _ l m (L.perm (pk 1 rfl)) L.fz).mono ?_; rintro _ bD ⟨M, N, O, P, bE, rfl, i, p, q, hm⟩; refine ⟨_, rfl, ?_⟩; intro cc aH; have aI := hm
 replace c := c.mono i
 replace k := k.mono i
 replace n := n.mono i
 replace o := o.mono i
 replace h := Fz.le.trans h i
 have Q : Mem B [] w0 Z0 ((.row b1 (e75Nf (rdenS (gmulAAS (⟨false, []⟩ : BInt) u0 u2).2.1) M N O P) 75) :: (.row j [.bool (gmulAAS (⟨false, []⟩ : BInt) u0 u2).1.neg, .slice u (gmulAAS (⟨false, []⟩ : BInt) u0 u2).1.abs.length v] 73) :: (.row b8 (e75Nf ((gmulAAS (⟨false, []⟩ : BInt) u0 u2).2.2) F G H I) 75) :: (rowsF bx ++ Rr)) bE bD := aI
 refine nl (qnI (aG _ _ (fun _ => Q.cst c []) ?_))
 refine eF 3 [] Rr bz aH Q c (fO fN) ?_; intro bF cd ce bG aJ R bH aK
 obtain ⟨bI, bJ⟩ := bC
 refine ck aJ 76 #[pt b8 0] ?_
 refine (rden_fun (gmulAAS (⟨false, []⟩ : BInt) u0 u2).2.2 bI b8 F G H I _ _ _ _ _ _ n o (R.perm (pk 2 rfl)) R.fz).mono ?_; rintro _ bK ⟨aL, aM, aN, aO, bL, rfl, g, x, y, hm⟩; refine ⟨_, rfl, ?_⟩; intro cf aP; have aQ := hm
 replace c := c.mono g
 replace k := k.mono g
 replace p := p.mono g
 replace q := q.mono g
 replace h := Fz.le.trans h g
 have S : Mem B [] w0 Z0 ((.row b8 (e75Nf (rdenS (gmulAAS (⟨false, []⟩ : BInt) u0 u2).2.2) aL aM aN aO) 75) :: (.row b1 (e75Nf (rdenS (gmulAAS (⟨false, []⟩ : BInt) u0 u2).2.1) M N O P) 75) :: (.row j [.bool (gmulAAS (⟨false, []⟩ : BInt) u0 u2).1.neg, .slice u (gmulAAS (⟨false, []⟩ : BInt) u0 u2).1.abs.length v] 73) :: (rowsF bF ++ Rr)) bL bK := aQ
 refine nl (qnI (aK _ _ (fun _ => S.cst c []) ?_))
 refine tkF 0 3 [] Rr bG aP S c (fO fN) ?_; intro s cg ch ci aR aS aT
 obtain rfl := nilF aR
 refine eF 4 [] Rr aR aS aT c fN ?_; intro cj cl cm aU aV T bM aW
 obtain rfl := nilF aU
 obtain ⟨bN, bO⟩ := bJ
 refine ck aV 75 #[pt s 0, pt b1 2, pt b8 2] ?_
 refine (gmulBB_fun (⟨false, []⟩ : BInt) (rdenS (gmulAAS (⟨false, []⟩ : BInt) u0 u2).2.1) (rdenS (gmulAAS (⟨false, []⟩ : BInt) u0 u2).2.2) bN s none 0 b1 M N O P b8 aL aM aN aO _ _ _ _ _ _ (SlR.nil _ _) p q x y (T.perm (((pk 1 rfl).trans (lpr.cons _)).cons _)) T.fz).mono ?_; rintro _ bP ⟨aX, aY, aZ, a1, a2, a3, z, A, C, D, bQ, rfl, f, U, V, W, X, Y, hm⟩; refine ⟨_, rfl, ?_⟩; intro cn a4; have a5 := hm
 replace c := c.mono f
 replace k := k.mono f
 replace h := Fz.le.trans h f
 have aa : Mem B [] w0 Z0 ((.row s [.bool (gmulBBS (⟨false, []⟩ : BInt) (rdenS (gmulAAS (⟨false, []⟩ : BInt) u0 u2).2.1) (rdenS (gmulAAS (⟨false, []⟩ : BInt) u0 u2).2.2)).1.neg, .slice aX (gmulBBS (⟨false, []⟩ : BInt) (rdenS (gmulAAS (⟨false, []⟩ : BInt) u0 u2).2.1) (rdenS (gmulAAS (⟨false, []⟩ : BInt) u0 u2).2.2)).1.abs.length aY] 73) :: (.row b1 (e75Nf ((gmulBBS (⟨false, []⟩ : BInt) (rdenS (gmulAAS (⟨false, []⟩ : BInt) u0 u2).2.1) (rdenS (gmulAAS (⟨false, []⟩ : BInt) u0 u2).2.2)).2.1) aZ a1 a2 a3) 75) :: (.row b8 (e75Nf ((gmulBBS (⟨false, []⟩ : BInt) (rdenS (gmulAAS (⟨false, []⟩ : BInt) u0 u2).2.1) (rdenS (gmulAAS (⟨false, []⟩ : BInt) u0 u2).2.2)).2.2) z A C D) 75) :: (.row j [.bool (gmulAAS (⟨false, []⟩ : BInt) u0 u2).1.neg, .slice u (gmulAAS (⟨false, []⟩ : BInt) u0 u2).1.abs.length v] 73) :: Rr) bQ bP := a5
 refine nl (qnI (aW _ _ (fun _ => aa.cst c []) ?_))
 refine eF 4 [] Rr aU a4 aa c fN ?_; intro co cp cq a6 a7 ab bR a8
 obtain rfl := nilF a6
 obtain ⟨bS, bT⟩ := bO
 refine ck a7 73 #[pt b1 0, pt j 0, pt s 0] ?_
 refine (rsf_fun (gmulBBS (⟨false, []⟩ : BInt) (rdenS (gmulAAS (⟨false, []⟩ : BInt) u0 u2).2.1) (rdenS (gmulAAS (⟨false, []⟩ : BInt) u0 u2).2.2)).2.1 (gmulAAS (⟨false, []⟩ : BInt) u0 u2).1 (gmulBBS (⟨false, []⟩ : BInt) (rdenS (gmulAAS (⟨false, []⟩ : BInt) u0 u2).2.1) (rdenS (gmulAAS (⟨false, []⟩ : BInt) u0 u2).2.2)).1 bS b1 aZ a1 a2 a3 j u v s aX aY _ _ _ _ _ _ V W k U (ab.perm ((pk 1 rfl).trans (((pk 2 rfl).trans (lpr.cons _)).cons _))) ab.fz).mono ?_; rintro _ bU ⟨ac, ad, ae, af, a9, ba, bb, bc, ag, rfl, d, bV, bW, cr, cs, hm⟩; refine ⟨_, rfl, ?_⟩; intro ct bd; have be := hm
 replace c := c.mono d
 replace X := X.mono d
 replace Y := Y.mono d
 replace h := Fz.le.trans h d
 have ah : Mem B [] w0 Z0 ((.row b1 (e75Nf ((rsfS (gmulBBS (⟨false, []⟩ : BInt) (rdenS (gmulAAS (⟨false, []⟩ : BInt) u0 u2).2.1) (rdenS (gmulAAS (⟨false, []⟩ : BInt) u0 u2).2.2)).2.1 (gmulAAS (⟨false, []⟩ : BInt) u0 u2).1 (gmulBBS (⟨false, []⟩ : BInt) (rdenS (gmulAAS (⟨false, []⟩ : BInt) u0 u2).2.1) (rdenS (gmulAAS (⟨false, []⟩ : BInt) u0 u2).2.2)).1).1) ac ad ae af) 75) :: (.row j [.bool (rsfS (gmulBBS (⟨false, []⟩ : BInt) (rdenS (gmulAAS (⟨false, []⟩ : BInt) u0 u2).2.1) (rdenS (gmulAAS (⟨false, []⟩ : BInt) u0 u2).2.2)).2.1 (gmulAAS (⟨false, []⟩ : BInt) u0 u2).1 (gmulBBS (⟨false, []⟩ : BInt) (rdenS (gmulAAS (⟨false, []⟩ : BInt) u0 u2).2.1) (rdenS (gmulAAS (⟨false, []⟩ : BInt) u0 u2).2.2)).1).2.1.neg, .slice a9 (rsfS (gmulBBS (⟨false, []⟩ : BInt) (rdenS (gmulAAS (⟨false, []⟩ : BInt) u0 u2).2.1) (rdenS (gmulAAS (⟨false, []⟩ : BInt) u0 u2).2.2)).2.1 (gmulAAS (⟨false, []⟩ : BInt) u0 u2).1 (gmulBBS (⟨false, []⟩ : BInt) (rdenS (gmulAAS (⟨false, []⟩ : BInt) u0 u2).2.1) (rdenS (gmulAAS (⟨false, []⟩ : BInt) u0 u2).2.2)).1).2.1.abs.length ba] 73) :: (.row s [.bool (rsfS (gmulBBS (⟨false, []⟩ : BInt) (rdenS (gmulAAS (⟨false, []⟩ : BInt) u0 u2).2.1) (rdenS (gmulAAS (⟨false, []⟩ : BInt) u0 u2).2.2)).2.1 (gmulAAS (⟨false, []⟩ : BInt) u0 u2).1 (gmulBBS (⟨false, []⟩ : BInt) (rdenS (gmulAAS (⟨false, []⟩ : BInt) u0 u2).2.1) (rdenS (gmulAAS (⟨false, []⟩ : BInt) u0 u2).2.2)).1).2.2.neg, .slice bb (rsfS (gmulBBS (⟨false, []⟩ : BInt) (rdenS (gmulAAS (⟨false, []⟩ : BInt) u0 u2).2.1) (rdenS (gmulAAS (⟨false, []⟩ : BInt) u0 u2).2.2)).2.1 (gmulAAS (⟨false, []⟩ : BInt) u0 u2).1 (gmulBBS (⟨false, []⟩ : BInt) (rdenS (gmulAAS (⟨false, []⟩ : BInt) u0 u2).2.1) (rdenS (gmulAAS (⟨false, []⟩ : BInt) u0 u2).2.2)).1).2.2.abs.length bc] 73) :: (.row b8 (e75Nf ((gmulBBS (⟨false, []⟩ : BInt) (rdenS (gmulAAS (⟨false, []⟩ : BInt) u0 u2).2.1) (rdenS (gmulAAS (⟨false, []⟩ : BInt) u0 u2).2.2)).2.2) z A C D) 75) :: Rr) ag bU := be
 refine nl (qnI (a8 _ _ (fun _ => ah.cst c []) ?_))
 refine eF 4 [] Rr a6 bd ah c fN ?_; intro cu cv bX bf bg ai bY bh
 obtain rfl := nilF bf
 refine s1 bg 6 (pt b1 0) ?_; intro cw bZ
 refine nl (qnI (bh _ _ (fun _ => ai.cst c []) ?_))
 have b0 : Mem B [] w0 Z0 ((.row b1 (e75Nf ((rsfS (gmulBBS (⟨false, []⟩ : BInt) (rdenS (gmulAAS (⟨false, []⟩ : BInt) u0 u2).2.1) (rdenS (gmulAAS (⟨false, []⟩ : BInt) u0 u2).2.2)).2.1 (gmulAAS (⟨false, []⟩ : BInt) u0 u2).1 (gmulBBS (⟨false, []⟩ : BInt) (rdenS (gmulAAS (⟨false, []⟩ : BInt) u0 u2).2.1) (rdenS (gmulAAS (⟨false, []⟩ : BInt) u0 u2).2.2)).1).1) ac ad ae af) 75) :: (.row j [.bool (rsfS (gmulBBS (⟨false, []⟩ : BInt) (rdenS (gmulAAS (⟨false, []⟩ : BInt) u0 u2).2.1) (rdenS (gmulAAS (⟨false, []⟩ : BInt) u0 u2).2.2)).2.1 (gmulAAS (⟨false, []⟩ : BInt) u0 u2).1 (gmulBBS (⟨false, []⟩ : BInt) (rdenS (gmulAAS (⟨false, []⟩ : BInt) u0 u2).2.1) (rdenS (gmulAAS (⟨false, []⟩ : BInt) u0 u2).2.2)).1).2.1.neg, .slice a9 (rsfS (gmulBBS (⟨false, []⟩ : BInt) (rdenS (gmulAAS (⟨false, []⟩ : BInt) u0 u2).2.1) (rdenS (gmulAAS (⟨false, []⟩ : BInt) u0 u2).2.2)).2.1 (gmulAAS (⟨false, []⟩ : BInt) u0 u2).1 (gmulBBS (⟨false, []⟩ : BInt) (rdenS (gmulAAS (⟨false, []⟩ : BInt) u0 u2).2.1) (rdenS (gmulAAS (⟨false, []⟩ : BInt) u0 u2).2.2)).1).2.1.abs.length ba] 73) :: (.row s [.bool (rsfS (gmulBBS (⟨false, []⟩ : BInt) (rdenS (gmulAAS (⟨false, []⟩ : BInt) u0 u2).2.1) (rdenS (gmulAAS (⟨false, []⟩ : BInt) u0 u2).2.2)).2.1 (gmulAAS (⟨false, []⟩ : BInt) u0 u2).1 (gmulBBS (⟨false, []⟩ : BInt) (rdenS (gmulAAS (⟨false, []⟩ : BInt) u0 u2).2.1) (rdenS (gmulAAS (⟨false, []⟩ : BInt) u0 u2).2.2)).1).2.2.neg, .slice bb (rsfS (gmulBBS (⟨false, []⟩ : BInt) (rdenS (gmulAAS (⟨false, []⟩ : BInt) u0 u2).2.1) (rdenS (gmulAAS (⟨false, []⟩ : BInt) u0 u2).2.2)).2.1 (gmulAAS (⟨false, []⟩ : BInt) u0 u2).1 (gmulBBS (⟨false, []⟩ : BInt) (rdenS (gmulAAS (⟨false, []⟩ : BInt) u0 u2).2.1) (rdenS (gmulAAS (⟨false, []⟩ : BInt) u0 u2).2.2)).1).2.2.abs.length bc] 73) :: (.row b8 (e75Nf ((gmulBBS (⟨false, []⟩ : BInt) (rdenS (gmulAAS (⟨false, []⟩ : BInt) u0 u2).2.1) (rdenS (gmulAAS (⟨false, []⟩ : BInt) u0 u2).2.2)).2.2) z A C D) 75) :: Rr) ag bX := ai
 refine nF bf (ap _ _ ?_)
 exact t_ (r_ (ra1 bZ (pt b1 0) ⟨((rsfS (gmulBBS (⟨false, []⟩ : BInt) (rdenS (gmulAAS (⟨false, []⟩ : BInt) u0 u2).2.1) (rdenS (gmulAAS (⟨false, []⟩ : BInt) u0 u2).2.2)).2.1 (gmulAAS (⟨false, []⟩ : BInt) u0 u2).1 (gmulBBS (⟨false, []⟩ : BInt) (rdenS (gmulAAS (⟨false, []⟩ : BInt) u0 u2).2.1) (rdenS (gmulAAS (⟨false, []⟩ : BInt) u0 u2).2.2)).1).1, (gmulBBS (⟨false, []⟩ : BInt) (rdenS (gmulAAS (⟨false, []⟩ : BInt) u0 u2).2.1) (rdenS (gmulAAS (⟨false, []⟩ : BInt) u0 u2).2.2)).2.2), ac, ad, ae, af, z, A, C, D, ag, rfl, bT, h, bV, bW, X, Y, b0.kp⟩))
theorem rquo_walk (u0 : BRat) (u2 : BRat) (b1 : Nat) (ao2 : Option Addr) (cap3 : Nat) (ao5 : Option Addr) (cap6 : Nat) (b8 : Nat) (ao9 : Option Addr) (cap10 : Nat) (ao12 : Option Addr) (cap13 : Nat) (B : Nat) (w0 : World) (Z0 : Fz) (Rr : List Res) (Z : Fz) (w : World) (hs4 : SlR (tyInt .u32) Z ao2 cap3 u0.a.abs) (hs7 : SlR (tyInt .u32) Z ao5 cap6 u0.b.abs) (hs11 : SlR (tyInt .u32) Z ao9 cap10 u2.a.abs) (hs14 : SlR (tyInt .u32) Z ao12 cap13 u2.b.abs) (hM0 : Mem B [] w0 Z0 ((.row b1 [.bool u0.a.neg, .slice ao2 u0.a.abs.length cap3, .bool u0.b.neg, .slice ao5 u0.b.abs.length cap6] 75) :: (.row b8 [.bool u2.a.neg, .slice ao9 u2.a.abs.length cap10, .bool u2.b.neg, .slice ao12 u2.b.abs.length cap13] 75) :: Rr) Z w) (hZ : Z.on w) {K : (BRat × BRat) → Prop} (hp : rquo_vc u0 u2 K) : Calls Tryz.prog 46 #[pt b1 0, pt b1 0, pt b8 0] w fun e w' => ∃ (r : BRat × BRat) (ao1001 : Option Addr) (cap1002 : Nat) (ao1004 : Option Addr) (cap1005 : Nat) (ao1007 : Option Addr) (cap1008 : Nat) (ao1010 : Option Addr) (cap1011 : Nat) (Z' : Fz), e = .returned (pt b1 0) ∧ K r ∧ Fz.le Z Z' ∧ SlR (tyInt .u32) Z' ao1001 cap1002 r.1.a.abs ∧ SlR (tyInt .u32) Z' ao1004 cap1005 r.1.b.abs ∧ SlR (tyInt .u32) Z' ao1007 cap1008 r.2.a.abs ∧ SlR (tyInt .u32) Z' ao1010 cap1011 r.2.b.abs ∧ Mem B [] w0 Z0 ((.row b1 [.bool r.1.a.neg, .slice ao1001 r.1.a.abs.length cap1002, .bool r.1.b.neg, .slice ao1004 r.1.b.abs.length cap1005] 75) :: (.row b8 [.bool r.2.a.neg, .slice ao1007 r.2.a.abs.length cap1008, .bool r.2.b.neg, .slice ao1010 r.2.b.abs.length cap1011] 75) :: Rr) Z' w' := by
 refine enter0 Tryz.func46 rfl rfl (by kernel_rfl) ?_; intro a0 af; have h := Fz.le.refl Z
 have bi := hp (hs4.small) (hs7.small) (hs11.small) (hs14.small)
 refine sqB af hM0 [] [] [] ?_; intro bj aj
 have ak : Fr 23 [] [⟨0, [], pt b1 0⟩, ⟨1, [], pt b1 0⟩, ⟨2, [], pt b8 0⟩] bj := aj.reg
 refine wp_seq (rgF mixed hM0 [0, 2, 3, 4, 5, 9, 11, 12, 13] [6, 7, 10, 14, 15, 16] [1, 8] [] [] ?_)
 intro bk al bl am
 have c := Fz.le.refl Z
 refine cS ak 9 [] [] [(7, pt b1 0), (11, pt b1 0), (12, pt b8 0), (16, pt b1 0), (20, pt b8 0)] ?_; intro b2 an
 refine nS ⟨[⟨1, 8, fun b => pt b 0, [.bool false, .slice none 0 0], 73⟩, ⟨8, 15, fun b => pt b 0, [.bool false, .slice none 0 0], 73⟩], rfl, ?_⟩; intro bm bn bo
 have ao : Mem B [] w0 Z0 ((.row b1 (e75Nf u0 ao2 cap3 ao5 cap6) 75) :: (.row b8 (e75Nf u2 ao9 cap10 ao12 cap13) 75) :: (rowsF bm ++ Rr)) Z bl := by rw [bo]; exact am
 refine eF 2 [] Rr bn an ao c (fO (fO fN)) ?_; intro bp b3 b4 bq ap E br aq
 obtain ⟨bs, bt⟩ := bi
 refine ck ap 76 #[pt b8 0] ?_
 refine (rden_fun u2 bs b8 ao9 cap10 ao12 cap13 _ _ _ _ _ _ hs11 hs14 (E.perm (pk 1 rfl)) E.fz).mono ?_; rintro _ bu ⟨ar, au, av, aw, bv, rfl, t, i, j, hm⟩; refine ⟨_, rfl, ?_⟩; intro b5 ax; have ay := hm
 replace hs4 := hs4.mono t
 replace hs7 := hs7.mono t
 replace c := c.mono t
 replace h := Fz.le.trans h t
 have F : Mem B [] w0 Z0 ((.row b8 (e75Nf (rdenS u2) ar au av aw) 75) :: (.row b1 (e75Nf u0 ao2 cap3 ao5 cap6) 75) :: (rowsF bp ++ Rr)) bv bu := ay
 refine nl (qnI (aq _ _ (fun _ => F.cst c []) ?_))
 refine tkF 0 2 [] Rr bq ax F c (fO (fO fN)) ?_; intro k b6 b7 b9 bw az aA
 refine eF 3 [] Rr bw az aA c (fO fN) ?_; intro bx ca cb bz aB G bA aC
 obtain ⟨bB, bC⟩ := bt
 refine ck aB 75 #[pt k 0, pt b1 0, pt b8 2] ?_
 refine (gmulAB_fun (⟨false, []⟩ : BInt) u0 (rdenS u2) bB k none 0 b1 ao2 cap3 ao5 cap6 b8 ar au av aw _ _ _ _ _ _ (SlR.nil _ _) hs4 hs7 i j (G.perm (((pk 1 rfl).trans (lpr.cons _)).cons _)) G.fz).mono ?_; rintro _ bD ⟨x, y, aD, aE, aF, aG, H, I, J, L, bE, rfl, l, m, n, o, p, q, hm⟩; refine ⟨_, rfl, ?_⟩; intro cc aH; have aI := hm
 replace c := c.mono l
 replace h := Fz.le.trans h l
 have M : Mem B [] w0 Z0 ((.row k [.bool (gmulABS (⟨false, []⟩ : BInt) u0 (rdenS u2)).1.neg, .slice x (gmulABS (⟨false, []⟩ : BInt) u0 (rdenS u2)).1.abs.length y] 73) :: (.row b1 (e75Nf ((gmulABS (⟨false, []⟩ : BInt) u0 (rdenS u2)).2.1) aD aE aF aG) 75) :: (.row b8 (e75Nf ((gmulABS (⟨false, []⟩ : BInt) u0 (rdenS u2)).2.2) H I J L) 75) :: (rowsF bx ++ Rr)) bE bD := aI
 refine nl (qnI (aC _ _ (fun _ => M.cst c []) ?_))
 refine eF 3 [] Rr bz aH M c (fO fN) ?_; intro bF cd ce bG aJ N bH aK
 obtain ⟨bI, bJ⟩ := bC
 refine ck aJ 76 #[pt b1 0] ?_
 refine (rden_fun (gmulABS (⟨false, []⟩ : BInt) u0 (rdenS u2)).2.1 bI b1 aD aE aF aG _ _ _ _ _ _ n o (N.perm (pk 1 rfl)) N.fz).mono ?_; rintro _ bK ⟨aL, aM, aN, aO, bL, rfl, g, u, v, hm⟩; refine ⟨_, rfl, ?_⟩; intro cf aP; have aQ := hm
 replace c := c.mono g
 replace m := m.mono g
 replace p := p.mono g
 replace q := q.mono g
 replace h := Fz.le.trans h g
 have O : Mem B [] w0 Z0 ((.row b1 (e75Nf (rdenS (gmulABS (⟨false, []⟩ : BInt) u0 (rdenS u2)).2.1) aL aM aN aO) 75) :: (.row k [.bool (gmulABS (⟨false, []⟩ : BInt) u0 (rdenS u2)).1.neg, .slice x (gmulABS (⟨false, []⟩ : BInt) u0 (rdenS u2)).1.abs.length y] 73) :: (.row b8 (e75Nf ((gmulABS (⟨false, []⟩ : BInt) u0 (rdenS u2)).2.2) H I J L) 75) :: (rowsF bF ++ Rr)) bL bK := aQ
 refine nl (qnI (aK _ _ (fun _ => O.cst c []) ?_))
 refine tkF 0 3 [] Rr bG aP O c (fO fN) ?_; intro s cg ch ci aR aS aT
 obtain rfl := nilF aR
 refine eF 4 [] Rr aR aS aT c fN ?_; intro cj cl cm aU aV P bM aW
 obtain rfl := nilF aU
 obtain ⟨bN, bO⟩ := bJ
 refine ck aV 75 #[pt s 0, pt b1 2, pt b8 0] ?_
 refine (gmulBA_fun (⟨false, []⟩ : BInt) (rdenS (gmulABS (⟨false, []⟩ : BInt) u0 (rdenS u2)).2.1) (gmulABS (⟨false, []⟩ : BInt) u0 (rdenS u2)).2.2 bN s none 0 b1 aL aM aN aO b8 H I J L _ _ _ _ _ _ (SlR.nil _ _) u v p q (P.perm ((((pk 1 rfl).trans (lpr.cons _)).cons _).cons _)) P.fz).mono ?_; rintro _ bP ⟨aX, aY, aZ, a1, a2, a3, z, A, C, D, bQ, rfl, f, Q, R, S, T, U, hm⟩; refine ⟨_, rfl, ?_⟩; intro cn a4; have a5 := hm
 replace c := c.mono f
 replace m := m.mono f
 replace h := Fz.le.trans h f
 have V : Mem B [] w0 Z0 ((.row s [.bool (gmulBAS (⟨false, []⟩ : BInt) (rdenS (gmulABS (⟨false, []⟩ : BInt) u0 (rdenS u2)).2.1) (gmulABS (⟨false, []⟩ : BInt) u0 (rdenS u2)).2.2).1.neg, .slice aX (gmulBAS (⟨false, []⟩ : BInt) (rdenS (gmulABS (⟨false, []⟩ : BInt) u0 (rdenS u2)).2.1) (gmulABS (⟨false, []⟩ : BInt) u0 (rdenS u2)).2.2).1.abs.length aY] 73) :: (.row b1 (e75Nf ((gmulBAS (⟨false, []⟩ : BInt) (rdenS (gmulABS (⟨false, []⟩ : BInt) u0 (rdenS u2)).2.1) (gmulABS (⟨false, []⟩ : BInt) u0 (rdenS u2)).2.2).2.1) aZ a1 a2 a3) 75) :: (.row b8 (e75Nf ((gmulBAS (⟨false, []⟩ : BInt) (rdenS (gmulABS (⟨false, []⟩ : BInt) u0 (rdenS u2)).2.1) (gmulABS (⟨false, []⟩ : BInt) u0 (rdenS u2)).2.2).2.2) z A C D) 75) :: (.row k [.bool (gmulABS (⟨false, []⟩ : BInt) u0 (rdenS u2)).1.neg, .slice x (gmulABS (⟨false, []⟩ : BInt) u0 (rdenS u2)).1.abs.length y] 73) :: Rr) bQ bP := a5
 refine nl (qnI (aW _ _ (fun _ => V.cst c []) ?_))
 refine eF 4 [] Rr aU a4 V c fN ?_; intro co cp cq a6 a7 W bR a8
 obtain rfl := nilF a6
 obtain ⟨bS, bT⟩ := bO
 refine ck a7 73 #[pt b1 0, pt k 0, pt s 0] ?_
 refine (rsf_fun (gmulBAS (⟨false, []⟩ : BInt) (rdenS (gmulABS (⟨false, []⟩ : BInt) u0 (rdenS u2)).2.1) (gmulABS (⟨false, []⟩ : BInt) u0 (rdenS u2)).2.2).2.1 (gmulABS (⟨false, []⟩ : BInt) u0 (rdenS u2)).1 (gmulBAS (⟨false, []⟩ : BInt) (rdenS (gmulABS (⟨false, []⟩ : BInt) u0 (rdenS u2)).2.1) (gmulABS (⟨false, []⟩ : BInt) u0 (rdenS u2)).2.2).1 bS b1 aZ a1 a2 a3 k x y s aX aY _ _ _ _ _ _ R S m Q (W.perm ((pk 1 rfl).trans (((pk 2 rfl).trans (lpr.cons _)).cons _))) W.fz).mono ?_; rintro _ bU ⟨X, Y, aa, ab, a9, ba, bb, bc, ac, rfl, d, bV, bW, cr, cs, hm⟩; refine ⟨_, rfl, ?_⟩; intro ct bd; have be := hm
 replace c := c.mono d
 replace T := T.mono d
 replace U := U.mono d
 replace h := Fz.le.trans h d
 have ad : Mem B [] w0 Z0 ((.row b1 (e75Nf ((rsfS (gmulBAS (⟨false, []⟩ : BInt) (rdenS (gmulABS (⟨false, []⟩ : BInt) u0 (rdenS u2)).2.1) (gmulABS (⟨false, []⟩ : BInt) u0 (rdenS u2)).2.2).2.1 (gmulABS (⟨false, []⟩ : BInt) u0 (rdenS u2)).1 (gmulBAS (⟨false, []⟩ : BInt) (rdenS (gmulABS (⟨false, []⟩ : BInt) u0 (rdenS u2)).2.1) (gmulABS (⟨false, []⟩ : BInt) u0 (rdenS u2)).2.2).1).1) X Y aa ab) 75) :: (.row k [.bool (rsfS (gmulBAS (⟨false, []⟩ : BInt) (rdenS (gmulABS (⟨false, []⟩ : BInt) u0 (rdenS u2)).2.1) (gmulABS (⟨false, []⟩ : BInt) u0 (rdenS u2)).2.2).2.1 (gmulABS (⟨false, []⟩ : BInt) u0 (rdenS u2)).1 (gmulBAS (⟨false, []⟩ : BInt) (rdenS (gmulABS (⟨false, []⟩ : BInt) u0 (rdenS u2)).2.1) (gmulABS (⟨false, []⟩ : BInt) u0 (rdenS u2)).2.2).1).2.1.neg, .slice a9 (rsfS (gmulBAS (⟨false, []⟩ : BInt) (rdenS (gmulABS (⟨false, []⟩ : BInt) u0 (rdenS u2)).2.1) (gmulABS (⟨false, []⟩ : BInt) u0 (rdenS u2)).2.2).2.1 (gmulABS (⟨false, []⟩ : BInt) u0 (rdenS u2)).1 (gmulBAS (⟨false, []⟩ : BInt) (rdenS (gmulABS (⟨false, []⟩ : BInt) u0 (rdenS u2)).2.1) (gmulABS (⟨false, []⟩ : BInt) u0 (rdenS u2)).2.2).1).2.1.abs.length ba] 73) :: (.row s [.bool (rsfS (gmulBAS (⟨false, []⟩ : BInt) (rdenS (gmulABS (⟨false, []⟩ : BInt) u0 (rdenS u2)).2.1) (gmulABS (⟨false, []⟩ : BInt) u0 (rdenS u2)).2.2).2.1 (gmulABS (⟨false, []⟩ : BInt) u0 (rdenS u2)).1 (gmulBAS (⟨false, []⟩ : BInt) (rdenS (gmulABS (⟨false, []⟩ : BInt) u0 (rdenS u2)).2.1) (gmulABS (⟨false, []⟩ : BInt) u0 (rdenS u2)).2.2).1).2.2.neg, .slice bb (rsfS (gmulBAS (⟨false, []⟩ : BInt) (rdenS (gmulABS (⟨false, []⟩ : BInt) u0 (rdenS u2)).2.1) (gmulABS (⟨false, []⟩ : BInt) u0 (rdenS u2)).2.2).2.1 (gmulABS (⟨false, []⟩ : BInt) u0 (rdenS u2)).1 (gmulBAS (⟨false, []⟩ : BInt) (rdenS (gmulABS (⟨false, []⟩ : BInt) u0 (rdenS u2)).2.1) (gmulABS (⟨false, []⟩ : BInt) u0 (rdenS u2)).2.2).1).2.2.abs.length bc] 73) :: (.row b8 (e75Nf ((gmulBAS (⟨false, []⟩ : BInt) (rdenS (gmulABS (⟨false, []⟩ : BInt) u0 (rdenS u2)).2.1) (gmulABS (⟨false, []⟩ : BInt) u0 (rdenS u2)).2.2).2.2) z A C D) 75) :: Rr) ac bU := be
 refine nl (qnI (a8 _ _ (fun _ => ad.cst c []) ?_))
 refine eF 4 [] Rr a6 bd ad c fN ?_; intro cu cv bX bf bg ae bY bh
 obtain rfl := nilF bf
 refine s1 bg 6 (pt b1 0) ?_; intro cw bZ
 refine nl (qnI (bh _ _ (fun _ => ae.cst c []) ?_))
 have b0 : Mem B [] w0 Z0 ((.row b1 (e75Nf ((rsfS (gmulBAS (⟨false, []⟩ : BInt) (rdenS (gmulABS (⟨false, []⟩ : BInt) u0 (rdenS u2)).2.1) (gmulABS (⟨false, []⟩ : BInt) u0 (rdenS u2)).2.2).2.1 (gmulABS (⟨false, []⟩ : BInt) u0 (rdenS u2)).1 (gmulBAS (⟨false, []⟩ : BInt) (rdenS (gmulABS (⟨false, []⟩ : BInt) u0 (rdenS u2)).2.1) (gmulABS (⟨false, []⟩ : BInt) u0 (rdenS u2)).2.2).1).1) X Y aa ab) 75) :: (.row k [.bool (rsfS (gmulBAS (⟨false, []⟩ : BInt) (rdenS (gmulABS (⟨false, []⟩ : BInt) u0 (rdenS u2)).2.1) (gmulABS (⟨false, []⟩ : BInt) u0 (rdenS u2)).2.2).2.1 (gmulABS (⟨false, []⟩ : BInt) u0 (rdenS u2)).1 (gmulBAS (⟨false, []⟩ : BInt) (rdenS (gmulABS (⟨false, []⟩ : BInt) u0 (rdenS u2)).2.1) (gmulABS (⟨false, []⟩ : BInt) u0 (rdenS u2)).2.2).1).2.1.neg, .slice a9 (rsfS (gmulBAS (⟨false, []⟩ : BInt) (rdenS (gmulABS (⟨false, []⟩ : BInt) u0 (rdenS u2)).2.1) (gmulABS (⟨false, []⟩ : BInt) u0 (rdenS u2)).2.2).2.1 (gmulABS (⟨false, []⟩ : BInt) u0 (rdenS u2)).1 (gmulBAS (⟨false, []⟩ : BInt) (rdenS (gmulABS (⟨false, []⟩ : BInt) u0 (rdenS u2)).2.1) (gmulABS (⟨false, []⟩ : BInt) u0 (rdenS u2)).2.2).1).2.1.abs.length ba] 73) :: (.row s [.bool (rsfS (gmulBAS (⟨false, []⟩ : BInt) (rdenS (gmulABS (⟨false, []⟩ : BInt) u0 (rdenS u2)).2.1) (gmulABS (⟨false, []⟩ : BInt) u0 (rdenS u2)).2.2).2.1 (gmulABS (⟨false, []⟩ : BInt) u0 (rdenS u2)).1 (gmulBAS (⟨false, []⟩ : BInt) (rdenS (gmulABS (⟨false, []⟩ : BInt) u0 (rdenS u2)).2.1) (gmulABS (⟨false, []⟩ : BInt) u0 (rdenS u2)).2.2).1).2.2.neg, .slice bb (rsfS (gmulBAS (⟨false, []⟩ : BInt) (rdenS (gmulABS (⟨false, []⟩ : BInt) u0 (rdenS u2)).2.1) (gmulABS (⟨false, []⟩ : BInt) u0 (rdenS u2)).2.2).2.1 (gmulABS (⟨false, []⟩ : BInt) u0 (rdenS u2)).1 (gmulBAS (⟨false, []⟩ : BInt) (rdenS (gmulABS (⟨false, []⟩ : BInt) u0 (rdenS u2)).2.1) (gmulABS (⟨false, []⟩ : BInt) u0 (rdenS u2)).2.2).1).2.2.abs.length bc] 73) :: (.row b8 (e75Nf ((gmulBAS (⟨false, []⟩ : BInt) (rdenS (gmulABS (⟨false, []⟩ : BInt) u0 (rdenS u2)).2.1) (gmulABS (⟨false, []⟩ : BInt) u0 (rdenS u2)).2.2).2.2) z A C D) 75) :: Rr) ac bX := ae
 refine nF bf (al _ _ ?_)
 exact t_ (r_ (ra1 bZ (pt b1 0) ⟨((rsfS (gmulBAS (⟨false, []⟩ : BInt) (rdenS (gmulABS (⟨false, []⟩ : BInt) u0 (rdenS u2)).2.1) (gmulABS (⟨false, []⟩ : BInt) u0 (rdenS u2)).2.2).2.1 (gmulABS (⟨false, []⟩ : BInt) u0 (rdenS u2)).1 (gmulBAS (⟨false, []⟩ : BInt) (rdenS (gmulABS (⟨false, []⟩ : BInt) u0 (rdenS u2)).2.1) (gmulABS (⟨false, []⟩ : BInt) u0 (rdenS u2)).2.2).1).1, (gmulBAS (⟨false, []⟩ : BInt) (rdenS (gmulABS (⟨false, []⟩ : BInt) u0 (rdenS u2)).2.1) (gmulABS (⟨false, []⟩ : BInt) u0 (rdenS u2)).2.2).2.2), X, Y, aa, ab, z, A, C, D, ac, rfl, bT, h, bV, bW, T, U, b0.kp⟩))
theorem risint_walk (u0 : BRat) (b1 : Nat) (ao2 : Option Addr) (cap3 : Nat) (ao5 : Option Addr) (cap6 : Nat) (B : Nat) (w0 : World) (Z0 : Fz) (Rr : List Res) (Z : Fz) (w : World) (hs4 : SlR (tyInt .u32) Z ao2 cap3 u0.a.abs) (hs7 : SlR (tyInt .u32) Z ao5 cap6 u0.b.abs) (hM0 : Mem B [] w0 Z0 ((.row b1 [.bool u0.a.neg, .slice ao2 u0.a.abs.length cap3, .bool u0.b.neg, .slice ao5 u0.b.abs.length cap6] 75) :: Rr) Z w) (hZ : Z.on w) {K : (Bool × BRat) → Prop} (hp : risint_vc u0 K) : Calls Tryz.prog 47 #[pt b1 0] w fun e w' => ∃ (r : Bool × BRat) (ao1001 : Option Addr) (cap1002 : Nat) (ao1004 : Option Addr) (cap1005 : Nat) (Z' : Fz), e = .returned (.bool r.1) ∧ K r ∧ Fz.le Z Z' ∧ SlR (tyInt .u32) Z' ao1001 cap1002 r.2.a.abs ∧ SlR (tyInt .u32) Z' ao1004 cap1005 r.2.b.abs ∧ Mem B [] w0 Z0 ((.row b1 [.bool r.2.a.neg, .slice ao1001 r.2.a.abs.length cap1002, .bool r.2.b.neg, .slice ao1004 r.2.b.abs.length cap1005] 75) :: Rr) Z' w' := by
 refine enter0 Tryz.func47 rfl rfl (by kernel_rfl) ?_; intro a0 v; have f := Fz.le.refl Z
 have ab := hp (hs4.small) (hs7.small)
 refine sqB v hM0 [] [] [] ?_; intro aw y
 refine sqH ?_; intro ac z
 refine s1 y 3 (pt b1 0) ?_; intro ax A
 obtain ⟨ad, C⟩ := ab
 refine ck A 76 #[pt b1 0] ?_
 obtain ⟨d, ae, D⟩ := hxq C
 have g := rden_fun u0 ad b1 ao2 cap3 ao5 cap6 _ _ _ _ _ _ hs4 hs7 hM0 hM0.fz; rw [ae] at g; refine g.mono ?_; rintro _ af ⟨m, n, o, p, ag, rfl, q, h, i, hm⟩; refine ⟨_, rfl, ?_⟩; intro ay E; have F := hm
 replace f := Fz.le.trans f q
 have s : Mem B [] w0 Z0 ((.row b1 (e75Nf d m n o p) 75) :: Rr) ag af := F
 obtain ⟨ai, aj⟩ := D (h.small) (i.small)
 refine ck E 48 #[i6 1] ?_
 refine (gnew_fun 1 ai _ _ s.fz).mono ?_; rintro _ ak ⟨l, H, I, al, rfl, t, hm⟩; refine ⟨_, rfl, ?_⟩; intro az J; have L := s.callZ hm; have k := hm.ext.le
 replace h := h.mono k
 replace i := i.mono k
 replace f := Fz.le.trans f k
 have u : Mem B [] w0 Z0 ((.row l [.bool (bz 1).neg, .slice H (bz 1).abs.length I] 73) :: (.row b1 (e75Nf d m n o p) 75) :: Rr) al ak := L
 obtain ⟨am, M⟩ := aj
 refine ck J 53 #[pt b1 2, pt l 0] ?_
 obtain ⟨c, an, N⟩ := hxq M
 have g := gcmpB_fun d (bz 1) am b1 m n o p l H I _ _ _ _ _ _ h i t (u.perm ((pk 1 rfl).trans (lpr.cons _))) u.fz; rw [an] at g; refine g.mono ?_; rintro _ ao ⟨O, P, Q, R, ap, aq, S, rfl, j, T, U, ar, hm⟩; refine ⟨_, rfl, ?_⟩; intro aA V; have W := hm
 replace f := Fz.le.trans f j
 have X : Mem B [] w0 Z0 ((.row b1 (e75Nf c.2.1 O P Q R) 75) :: (.row l [.bool c.2.2.neg, .slice ap c.2.2.abs.length aq] 73) :: Rr) S ao := W
 have au := N (T.small) (U.small) (ar.small)
 refine bt V X 2 [] [] [(2, .bool (c.1 == 0))] ?_; intro aB av
 apply z
 exact r_ (ra1 av (.bool (c.1 == 0)) ⟨(c.1 == 0, c.2.1), O, P, Q, R, S, rfl, au, f, T, U, X.kp⟩)
end Go.Proofs.YtdndfbamhnchfaaGreatDoor
set_option linter.unusedVariables false
set_option linter.unusedSimpArgs false
set_option linter.defProp false
namespace Go.Proofs.YtdndfbamhnchfaaGreatDoor
open Go.Sy Go.RowKit
def rsf64_fun (u0 : BRat) (u1 : Int) (u2 : Int) (hpre : u2 ≠ 0 ∧ (-9223372036854775808 ≤ u1 ∧ u1 ≤ 9223372036854775807) ∧ -9223372036854775808 ≤ u2 ∧ u2 ≤ 9223372036854775807) (b1 : Nat) (ao2 : Option Addr) (cap3 : Nat) (ao5 : Option Addr) (cap6 : Nat) (B : Nat) (w0 : World) (Z0 : Fz) (Rr : List Res) (Z : Fz) (w : World) (hs4 : SlR (tyInt .u32) Z ao2 cap3 u0.a.abs) (hs7 : SlR (tyInt .u32) Z ao5 cap6 u0.b.abs) (hM0 : Mem B [] w0 Z0 ((.row b1 [.bool u0.a.neg, .slice ao2 u0.a.abs.length cap3, .bool u0.b.neg, .slice ao5 u0.b.abs.length cap6] 75) :: Rr) Z w) (hZ : Z.on w) := fe_ (rsf64_walk u0 u1 u2 b1 ao2 cap3 ao5 cap6 B w0 Z0 Rr Z w hs4 hs7 hM0 hZ (rsf64_ok u0 u1 u2 hpre))
def rsi_fun (u0 : BRat) (u1 : Int) (hpre : -9223372036854775808 ≤ u1 ∧ u1 ≤ 9223372036854775807) (b1 : Nat) (ao2 : Option Addr) (cap3 : Nat) (ao5 : Option Addr) (cap6 : Nat) (B : Nat) (w0 : World) (Z0 : Fz) (Rr : List Res) (Z : Fz) (w : World) (hs4 : SlR (tyInt .u32) Z ao2 cap3 u0.a.abs) (hs7 : SlR (tyInt .u32) Z ao5 cap6 u0.b.abs) (hM0 : Mem B [] w0 Z0 ((.row b1 [.bool u0.a.neg, .slice ao2 u0.a.abs.length cap3, .bool u0.b.neg, .slice ao5 u0.b.abs.length cap6] 75) :: Rr) Z w) (hZ : Z.on w) := fe_ (rsi_walk u0 u1 b1 ao2 cap3 ao5 cap6 B w0 Z0 Rr Z w hs4 hs7 hM0 hZ (rsi_ok u0 u1 hpre))
theorem rsub_fun (u0 : BRat) (u2 : BRat) (hpre : rk u0 ∧ rk u2 ∧ rlows u0 u2) (b1 : Nat) (ao2 : Option Addr) (cap3 : Nat) (ao5 : Option Addr) (cap6 : Nat) (b8 : Nat) (ao9 : Option Addr) (cap10 : Nat) (ao12 : Option Addr) (cap13 : Nat) (B : Nat) (w0 : World) (Z0 : Fz) (Rr : List Res) (Z : Fz) (w : World) (hs4 : SlR (tyInt .u32) Z ao2 cap3 u0.a.abs) (hs7 : SlR (tyInt .u32) Z ao5 cap6 u0.b.abs) (hs11 : SlR (tyInt .u32) Z ao9 cap10 u2.a.abs) (hs14 : SlR (tyInt .u32) Z ao12 cap13 u2.b.abs) (hM0 : Mem B [] w0 Z0 ((.row b1 [.bool u0.a.neg, .slice ao2 u0.a.abs.length cap3, .bool u0.b.neg, .slice ao5 u0.b.abs.length cap6] 75) :: (.row b8 [.bool u2.a.neg, .slice ao9 u2.a.abs.length cap10, .bool u2.b.neg, .slice ao12 u2.b.abs.length cap13] 75) :: Rr) Z w) (hZ : Z.on w) : Calls Tryz.prog 43 #[pt b1 0, pt b1 0, pt b8 0] w fun e w' => ∃ (ao1001 : Option Addr) (cap1002 : Nat) (ao1004 : Option Addr) (cap1005 : Nat) (ao1007 : Option Addr) (cap1008 : Nat) (ao1010 : Option Addr) (cap1011 : Nat) (Z' : Fz), e = .returned (pt b1 0) ∧ Fz.le Z Z' ∧ SlR (tyInt .u32) Z' ao1001 cap1002 (rsubS u0 u2).1.a.abs ∧ SlR (tyInt .u32) Z' ao1004 cap1005 (rsubS u0 u2).1.b.abs ∧ SlR (tyInt .u32) Z' ao1007 cap1008 (rsubS u0 u2).2.a.abs ∧ SlR (tyInt .u32) Z' ao1010 cap1011 (rsubS u0 u2).2.b.abs ∧ Mem B [] w0 Z0 ((.row b1 [.bool (rsubS u0 u2).1.a.neg, .slice ao1001 (rsubS u0 u2).1.a.abs.length cap1002, .bool (rsubS u0 u2).1.b.neg, .slice ao1004 (rsubS u0 u2).1.b.abs.length cap1005] 75) :: (.row b8 [.bool (rsubS u0 u2).2.a.neg, .slice ao1007 (rsubS u0 u2).2.a.abs.length cap1008, .bool (rsubS u0 u2).2.b.neg, .slice ao1010 (rsubS u0 u2).2.b.abs.length cap1011] 75) :: Rr) Z' w' :=
 (rsub_walk u0 u2 b1 ao2 cap3 ao5 cap6 b8 ao9 cap10 ao12 cap13 B w0 Z0 Rr Z w hs4 hs7 hs11 hs14 hM0 hZ (rsub_ok u0 u2 hpre)).mono fun _ _ ⟨r, h0, h1, h2, h3, h4, h5, h6, h7, h8, he, hk, f0, f1, f2, f3, f4, hm⟩ => by subst hk; exact ⟨h0, h1, h2, h3, h4, h5, h6, h7, h8, he, f0, f1, f2, f3, f4, hm⟩
theorem rmul_fun (u0 : BRat) (u2 : BRat) (hpre : rk u0 ∧ rk u2 ∧ rlowm u0 u2) (b1 : Nat) (ao2 : Option Addr) (cap3 : Nat) (ao5 : Option Addr) (cap6 : Nat) (b8 : Nat) (ao9 : Option Addr) (cap10 : Nat) (ao12 : Option Addr) (cap13 : Nat) (B : Nat) (w0 : World) (Z0 : Fz) (Rr : List Res) (Z : Fz) (w : World) (hs4 : SlR (tyInt .u32) Z ao2 cap3 u0.a.abs) (hs7 : SlR (tyInt .u32) Z ao5 cap6 u0.b.abs) (hs11 : SlR (tyInt .u32) Z ao9 cap10 u2.a.abs) (hs14 : SlR (tyInt .u32) Z ao12 cap13 u2.b.abs) (hM0 : Mem B [] w0 Z0 ((.row b1 [.bool u0.a.neg, .slice ao2 u0.a.abs.length cap3, .bool u0.b.neg, .slice ao5 u0.b.abs.length cap6] 75) :: (.row b8 [.bool u2.a.neg, .slice ao9 u2.a.abs.length cap10, .bool u2.b.neg, .slice ao12 u2.b.abs.length cap13] 75) :: Rr) Z w) (hZ : Z.on w) : Calls Tryz.prog 45 #[pt b1 0, pt b1 0, pt b8 0] w fun e w' => ∃ (ao1001 : Option Addr) (cap1002 : Nat) (ao1004 : Option Addr) (cap1005 : Nat) (ao1007 : Option Addr) (cap1008 : Nat) (ao1010 : Option Addr) (cap1011 : Nat) (Z' : Fz), e = .returned (pt b1 0) ∧ Fz.le Z Z' ∧ SlR (tyInt .u32) Z' ao1001 cap1002 (rmulS u0 u2).1.a.abs ∧ SlR (tyInt .u32) Z' ao1004 cap1005 (rmulS u0 u2).1.b.abs ∧ SlR (tyInt .u32) Z' ao1007 cap1008 (rmulS u0 u2).2.a.abs ∧ SlR (tyInt .u32) Z' ao1010 cap1011 (rmulS u0 u2).2.b.abs ∧ Mem B [] w0 Z0 ((.row b1 [.bool (rmulS u0 u2).1.a.neg, .slice ao1001 (rmulS u0 u2).1.a.abs.length cap1002, .bool (rmulS u0 u2).1.b.neg, .slice ao1004 (rmulS u0 u2).1.b.abs.length cap1005] 75) :: (.row b8 [.bool (rmulS u0 u2).2.a.neg, .slice ao1007 (rmulS u0 u2).2.a.abs.length cap1008, .bool (rmulS u0 u2).2.b.neg, .slice ao1010 (rmulS u0 u2).2.b.abs.length cap1011] 75) :: Rr) Z' w' :=
 (rmul_walk u0 u2 b1 ao2 cap3 ao5 cap6 b8 ao9 cap10 ao12 cap13 B w0 Z0 Rr Z w hs4 hs7 hs11 hs14 hM0 hZ (rmul_ok u0 u2 hpre)).mono fun _ _ ⟨r, h0, h1, h2, h3, h4, h5, h6, h7, h8, he, hk, f0, f1, f2, f3, f4, hm⟩ => by subst hk; exact ⟨h0, h1, h2, h3, h4, h5, h6, h7, h8, he, f0, f1, f2, f3, f4, hm⟩
theorem rquo_fun (u0 : BRat) (u2 : BRat) (hpre : rk u0 ∧ rk u2 ∧ rlowq u0 u2) (b1 : Nat) (ao2 : Option Addr) (cap3 : Nat) (ao5 : Option Addr) (cap6 : Nat) (b8 : Nat) (ao9 : Option Addr) (cap10 : Nat) (ao12 : Option Addr) (cap13 : Nat) (B : Nat) (w0 : World) (Z0 : Fz) (Rr : List Res) (Z : Fz) (w : World) (hs4 : SlR (tyInt .u32) Z ao2 cap3 u0.a.abs) (hs7 : SlR (tyInt .u32) Z ao5 cap6 u0.b.abs) (hs11 : SlR (tyInt .u32) Z ao9 cap10 u2.a.abs) (hs14 : SlR (tyInt .u32) Z ao12 cap13 u2.b.abs) (hM0 : Mem B [] w0 Z0 ((.row b1 [.bool u0.a.neg, .slice ao2 u0.a.abs.length cap3, .bool u0.b.neg, .slice ao5 u0.b.abs.length cap6] 75) :: (.row b8 [.bool u2.a.neg, .slice ao9 u2.a.abs.length cap10, .bool u2.b.neg, .slice ao12 u2.b.abs.length cap13] 75) :: Rr) Z w) (hZ : Z.on w) : Calls Tryz.prog 46 #[pt b1 0, pt b1 0, pt b8 0] w fun e w' => ∃ (ao1001 : Option Addr) (cap1002 : Nat) (ao1004 : Option Addr) (cap1005 : Nat) (ao1007 : Option Addr) (cap1008 : Nat) (ao1010 : Option Addr) (cap1011 : Nat) (Z' : Fz), e = .returned (pt b1 0) ∧ Fz.le Z Z' ∧ SlR (tyInt .u32) Z' ao1001 cap1002 (rquoS u0 u2).1.a.abs ∧ SlR (tyInt .u32) Z' ao1004 cap1005 (rquoS u0 u2).1.b.abs ∧ SlR (tyInt .u32) Z' ao1007 cap1008 (rquoS u0 u2).2.a.abs ∧ SlR (tyInt .u32) Z' ao1010 cap1011 (rquoS u0 u2).2.b.abs ∧ Mem B [] w0 Z0 ((.row b1 [.bool (rquoS u0 u2).1.a.neg, .slice ao1001 (rquoS u0 u2).1.a.abs.length cap1002, .bool (rquoS u0 u2).1.b.neg, .slice ao1004 (rquoS u0 u2).1.b.abs.length cap1005] 75) :: (.row b8 [.bool (rquoS u0 u2).2.a.neg, .slice ao1007 (rquoS u0 u2).2.a.abs.length cap1008, .bool (rquoS u0 u2).2.b.neg, .slice ao1010 (rquoS u0 u2).2.b.abs.length cap1011] 75) :: Rr) Z' w' :=
 (rquo_walk u0 u2 b1 ao2 cap3 ao5 cap6 b8 ao9 cap10 ao12 cap13 B w0 Z0 Rr Z w hs4 hs7 hs11 hs14 hM0 hZ (rquo_ok u0 u2 hpre)).mono fun _ _ ⟨r, h0, h1, h2, h3, h4, h5, h6, h7, h8, he, hk, f0, f1, f2, f3, f4, hm⟩ => by subst hk; exact ⟨h0, h1, h2, h3, h4, h5, h6, h7, h8, he, f0, f1, f2, f3, f4, hm⟩
def risint_fun (u0 : BRat) (hpre : rk u0) (b1 : Nat) (ao2 : Option Addr) (cap3 : Nat) (ao5 : Option Addr) (cap6 : Nat) (B : Nat) (w0 : World) (Z0 : Fz) (Rr : List Res) (Z : Fz) (w : World) (hs4 : SlR (tyInt .u32) Z ao2 cap3 u0.a.abs) (hs7 : SlR (tyInt .u32) Z ao5 cap6 u0.b.abs) (hM0 : Mem B [] w0 Z0 ((.row b1 [.bool u0.a.neg, .slice ao2 u0.a.abs.length cap3, .bool u0.b.neg, .slice ao5 u0.b.abs.length cap6] 75) :: Rr) Z w) (hZ : Z.on w) := fe_ (risint_walk u0 b1 ao2 cap3 ao5 cap6 B w0 Z0 Rr Z w hs4 hs7 hM0 hZ (risint_ok u0 hpre))
end Go.Proofs.YtdndfbamhnchfaaGreatDoor
set_option linter.unusedVariables false
set_option linter.unusedSimpArgs false
set_option linter.defProp false
set_option maxRecDepth 100000
set_option maxHeartbeats 0
namespace Go.Proofs.YtdndfbamhnchfaaGreatDoor
open Go.Sy Go.RowKit
abbrev e46Nj (X : Signal) : List Value := [str X.Name, i6 X.Start, i6 X.Size, .bool X.Back, .bool X.Signed, i6 X.Mul, i6 X.Div, i6 X.Add, i6 X.Key]
abbrev e75Nj (X : BRat) (A0 : Option Addr) (C0 : Nat) (A1 : Option Addr) (C1 : Nat) : List Value := [.bool X.a.neg, .slice A0 X.a.abs.length C0, .bool X.b.neg, .slice A1 X.b.abs.length C1]
def rcheckm_fun (u0 : Message) (ao1 : Option Addr) (cap2 : Nat) (Z : Fz) (w : World) (hs3 : SlR tySignal Z ao1 cap2 u0.Signals) (hZ : Z.on w) := f_ (rcheckm_walk u0 ao1 cap2 Z w hs3 hZ (rcheckm_ok u0))
theorem runm_walk (u0 : Signal) (u1 : Int) (u2 : Int)  (Z : Fz) (w : World)  (hZ : Z.on w) {K : (Int × Int) → Prop} (hp : runm_vc u0 u1 u2 K) : Calls Tryz.prog 18 #[.agg #[str u0.Name, i6 u0.Start, i6 u0.Size, .bool u0.Back, .bool u0.Signed, i6 u0.Mul, i6 u0.Div, i6 u0.Add, i6 u0.Key], i6 u1, i6 u2] w fun e w' => ∃ r : Int × Int, e = .returned (.tuple #[i6 r.1, i6 r.2]) ∧ K r ∧ Below w.heap.size w w' := by
 refine enter0 Tryz.func18 rfl rfl (by kernel_rfl) ?_; intro a0 di; have dj := Mem.start w Z hZ
 refine sqH ?_; intro hq dk
 refine nw di dj pb (e46Nj u0) 46 ?_; intro b2 a3 ka dl bo
 refine bt dl bo 2 [] [] [] ?_; intro a9 dm
 apply dk
 refine s_ (sqB dm bo [] [] [(24, .bool ((((decide (u2 < 1)) || (decide (u2 > 1000000))) || (decide (u1 > 1099511627776))) || (decide (u1 < (-1099511627776)))))] ?_); intro kb bw
 refine c_ bw hp (fun _ hr => ?_) fun _ ht => ?_
 ·
  refine sqB bw bo [] [] [(6, i6 0), (7, i6 3)] ?_; intro kc hs
  exact r_ (h_ (ra2 hs (.tuple #[i6 0, i6 3]) ⟨(0, 3), rfl, hr, bo.below⟩))
 refine k_ (sqH ?_); intro hu dn
 refine nw bw bo pb [.bool false, .slice none 0 0, .bool false, .slice none 0 0] 75 ?_; intro j kd ke dp bX
 refine bt dp bX 2 [] [] [(26, i6 u1), (27, i6 u2)] ?_; intro kf dq
 obtain ⟨hv, dr⟩ := ht
 refine ck dq 42 #[pt j 0, i6 u1, i6 u2] ?_
 obtain ⟨a6, hw, ds⟩ := hxq dr
 have i := rsf64_fun (⟨(⟨false, []⟩ : BInt), (⟨false, []⟩ : BInt)⟩ : BRat) u1 u2 hv j none 0 none 0 _ _ _ _ _ _ (SlR.nil _ _) (SlR.nil _ _) bX bX.fz; rw [hw] at i; refine i.mono ?_; rintro _ hx ⟨cq, cr, cs, ct, hy, rfl, hz, l, m, hm⟩; refine ⟨_, rfl, ?_⟩; intro kg dt; have du := hm
 have cu : Mem w.heap.size [] w Z [.row j (e75Nj a6 cq cr cs ct) 75, .row b2 (e46Nj u0) 46] hy hx := du
 have hA := ds (l.small) (m.small)
 refine s1 dt 8 (pt j 0) ?_; intro kh dw
 apply dn
 refine sqH ?_; intro hB dx
 refine bt dw cu 2 [] [] [(29, pt j 0), (30, pt j 0)] ?_; intro ki dy
 refine nw dy cu pb [.bool false, .slice none 0 0, .bool false, .slice none 0 0] 75 ?_; intro aa kj kk dz bY
 refine bt dz bY 2 [2] [] [(33, i6 u0.Add)] ?_; intro kl dA
 obtain ⟨hC, dB⟩ := hA
 refine ck dA 44 #[pt aa 0, i6 u0.Add] ?_
 obtain ⟨bx, hD, dC⟩ := hxq dB
 have i := rsi_fun (⟨(⟨false, []⟩ : BInt), (⟨false, []⟩ : BInt)⟩ : BRat) u0.Add hC aa none 0 none 0 _ _ _ _ _ _ (SlR.nil _ _) (SlR.nil _ _) bY bY.fz; rw [hD] at i; refine i.mono ?_; rintro _ hE ⟨dD, dE, dF, dG, hF, rfl, cv, n, o, hm⟩; refine ⟨_, rfl, ?_⟩; intro km dH; have dI := hm
 replace l := l.mono cv
 replace m := m.mono cv
 have cw : Mem w.heap.size [] w Z [.row aa (e75Nj bx dD dE dF dG) 75, .row j (e75Nj a6 cq cr cs ct) 75, .row b2 (e46Nj u0) 46] hF hE := dI
 obtain ⟨hH, dK⟩ := dC (n.small) (o.small)
 refine ck dH 43 #[pt j 0, pt j 0, pt aa 0] ?_
 obtain ⟨f, hI, dL⟩ := hxq dK
 have i := rsub_fun a6 bx hH j cq cr cs ct aa dD dE dF dG _ _ _ _ _ _ l m n o (cw.perm ((pk 1 rfl).trans (lpr.cons _))) cw.fz; rw [hI] at i; refine i.mono ?_; rintro _ hJ ⟨cx, cy, cz, cA, am, an, ao, ap, hK, rfl, bA, p, q, s, u, hm⟩; refine ⟨_, rfl, ?_⟩; intro kn dM; have dN := hm
 have cB : Mem w.heap.size [] w Z [.row j (e75Nj f.1 cx cy cz cA) 75, .row aa (e75Nj f.2 am an ao ap) 75, .row b2 (e46Nj u0) 46] hK hJ := dN
 have hL := dL (p.small) (q.small) (s.small) (u.small)
 apply dx
 refine sqH ?_; intro hM dR
 refine bt dM cB 2 [] [] [(36, pt j 0), (37, pt j 0)] ?_; intro ko dS
 refine nw dS cB pb [.bool false, .slice none 0 0, .bool false, .slice none 0 0] 75 ?_; intro ae kp kq dT bZ
 refine bt dT bZ 2 [3] [] [(40, i6 u0.Div)] ?_; intro kr dU
 obtain ⟨hN, dV⟩ := hL
 refine ck dU 44 #[pt ae 0, i6 u0.Div] ?_
 obtain ⟨bB, hO, dW⟩ := hxq dV
 have i := rsi_fun (⟨(⟨false, []⟩ : BInt), (⟨false, []⟩ : BInt)⟩ : BRat) u0.Div hN ae none 0 none 0 _ _ _ _ _ _ (SlR.nil _ _) (SlR.nil _ _) bZ bZ.fz; rw [hO] at i; refine i.mono ?_; rintro _ hP ⟨dX, dY, dZ, d0, hQ, rfl, a7, x, y, hm⟩; refine ⟨_, rfl, ?_⟩; intro ks d1; have d2 := hm
 replace p := p.mono a7
 replace q := q.mono a7
 have cC : Mem w.heap.size [] w Z [.row ae (e75Nj bB dX dY dZ d0) 75, .row j (e75Nj f.1 cx cy cz cA) 75, .row aa (e75Nj f.2 am an ao ap) 75, .row b2 (e46Nj u0) 46] hQ hP := d2
 obtain ⟨hS, d4⟩ := dW (x.small) (y.small)
 refine ck d1 45 #[pt j 0, pt j 0, pt ae 0] ?_
 obtain ⟨g, hT, d5⟩ := hxq d4
 have i := rmul_fun f.1 bB hS j cx cy cz cA ae dX dY dZ d0 _ _ _ _ _ _ p q x y (cC.perm ((pk 1 rfl).trans (lpr.cons _))) cC.fz; rw [hT] at i; refine i.mono ?_; rintro _ hU ⟨cD, cE, cF, cG, au, av, aw, ax, hV, rfl, aV, z, A, C, D, hm⟩; refine ⟨_, rfl, ?_⟩; intro kt d6; have d7 := hm
 have cH : Mem w.heap.size [] w Z [.row j (e75Nj g.1 cD cE cF cG) 75, .row ae (e75Nj g.2 au av aw ax) 75, .row aa (e75Nj f.2 am an ao ap) 75, .row b2 (e46Nj u0) 46] hV hU := d7
 have hW := d5 (z.small) (A.small) (C.small) (D.small)
 apply dR
 refine sqH ?_; intro hX eb
 refine bt d6 cH 2 [] [] [(43, pt j 0), (44, pt j 0)] ?_; intro ku ec
 refine nw ec cH pb [.bool false, .slice none 0 0, .bool false, .slice none 0 0] 75 ?_; intro ak kv kw ed b0
 refine bt ed b0 2 [4] [] [(47, i6 u0.Mul)] ?_; intro kx ee
 obtain ⟨hY, ef⟩ := hW
 refine ck ee 44 #[pt ak 0, i6 u0.Mul] ?_
 obtain ⟨bC, h0, eg⟩ := hxq ef
 have i := rsi_fun (⟨(⟨false, []⟩ : BInt), (⟨false, []⟩ : BInt)⟩ : BRat) u0.Mul hY ak none 0 none 0 _ _ _ _ _ _ (SlR.nil _ _) (SlR.nil _ _) b0 b0.fz; rw [h0] at i; refine i.mono ?_; rintro _ h1 ⟨eh, ei, ej, ek, h2, rfl, aL, E, F, hm⟩; refine ⟨_, rfl, ?_⟩; intro ky el; have em := hm
 replace z := z.mono aL
 replace A := A.mono aL
 have cI : Mem w.heap.size [] w Z [.row ak (e75Nj bC eh ei ej ek) 75, .row j (e75Nj g.1 cD cE cF cG) 75, .row ae (e75Nj g.2 au av aw ax) 75, .row aa (e75Nj f.2 am an ao ap) 75, .row b2 (e46Nj u0) 46] h2 h1 := em
 obtain ⟨h4, eo⟩ := eg (E.small) (F.small)
 refine ck el 46 #[pt j 0, pt j 0, pt ak 0] ?_
 obtain ⟨h, h5, ep⟩ := hxq eo
 have i := rquo_fun g.1 bC h4 j cD cE cF cG ak eh ei ej ek _ _ _ _ _ _ z A E F (cI.perm ((pk 1 rfl).trans (lpr.cons _))) cI.fz; rw [h5] at i; refine i.mono ?_; rintro _ h6 ⟨eq, er, es, et, ay, az, aA, aB, h7, rfl, aG, I, J, L, M, hm⟩; refine ⟨_, rfl, ?_⟩; intro h8 eu; have ev := hm
 have cJ : Mem w.heap.size [] w Z [.row j (e75Nj h.1 eq er es et) 75, .row ak (e75Nj h.2 ay az aA aB) 75, .row ae (e75Nj g.2 au av aw ax) 75, .row aa (e75Nj f.2 am an ao ap) 75, .row b2 (e46Nj u0) 46] h7 h6 := ev
 have ia := ep (I.small) (J.small) (L.small) (M.small)
 apply eb
 apply s_
 have ez : Fr 83 [] [⟨3, [], pt b2 0⟩, ⟨8, [], pt j 0⟩] h8 := eu.reg
 refine sqH ?_; intro ib eA
 refine s1 ez 50 (pt j 0) ?_; intro kz eB
 obtain ⟨ic, eC⟩ := ia
 refine ck eB 47 #[pt j 0] ?_
 obtain ⟨R, id, eD⟩ := hxq eC
 have i := risint_fun h.1 ic j eq er es et _ _ _ _ _ _ I J cJ cJ.fz; rw [id] at i; refine i.mono ?_; rintro _ ie ⟨aW, aX, aY, aZ, cK, rfl, aC, N, O, hm⟩; refine ⟨_, rfl, ?_⟩; intro kA eE; have eG := hm
 have b1 : Mem w.heap.size [] w Z [.row j (e75Nj R.2 aW aX aY aZ) 75, .row ak (e75Nj h.2 ay az aA aB) 75, .row ae (e75Nj g.2 au av aw ax) 75, .row aa (e75Nj f.2 am an ao ap) 75, .row b2 (e46Nj u0) 46] cK ie := eG
 have b3 := eD (N.small) (O.small)
 refine s1 eE 52 (.bool (!R.1)) ?_; intro ig bD
 apply eA
 refine c_ bD b3 (fun _ ih => ?_) fun _ ij => ?_
 ·
  refine sqB bD b1 [] [] [(6, i6 0), (7, i6 4)] ?_; intro kB ii
  exact r_ (h_ (ra2 ii (.tuple #[i6 0, i6 4]) ⟨(0, 4), rfl, ih, b1.below⟩))
 apply k_
 have eI : Fr 83 [] [⟨3, [], pt b2 0⟩, ⟨8, [], pt j 0⟩] ig := bD.reg
 refine wp_seq (rgF mixed b1 [3, 4, 5] [0, 2, 6, 7, 8] [1] [4] [.row b2 (e46Nj u0) 46] ?_)
 intro ik eJ il eK
 have aH := Fz.le.refl cK
 refine cS eI 3 [0] [] [(58, y6 (wu64 u0.Size))] ?_; intro kC eL
 refine nS ⟨[⟨1, 54, fun b => pt b 0, [.bool false, .slice none 0 0], 73⟩], rfl, ?_⟩; intro im io ip
 have eM : Mem w.heap.size [] w Z ((.row j (e75Nj R.2 aW aX aY aZ) 75) :: (.row ak (e75Nj h.2 ay az aA aB) 75) :: (.row ae (e75Nj g.2 au av aw ax) 75) :: (.row aa (e75Nj f.2 am an ao ap) 75) :: (.row b2 (e46Nj u0) 46) :: (rowsF im ++ [])) cK il := by rw [ip]; exact eK
 refine eF 5 [4] [] io eL eM aH (fO fN) ?_; intro iq kD kE ir eN cM it eO
 obtain ⟨iu, iv⟩ := ij
 refine ck eN 48 #[i6 0] ?_
 refine (gnew_fun 0 iu _ _ cM.fz).mono ?_; rintro _ iw ⟨af, bb, bc, ix, rfl, T, hm⟩; refine ⟨_, rfl, ?_⟩; intro kF eP; have eQ := cM.callZ hm; have ar := hm.ext.le
 replace N := N.mono ar
 replace O := O.mono ar
 replace aH := aH.mono ar
 have cN : Mem w.heap.size [] w Z ((.row af [.bool (bz 0).neg, .slice bb (bz 0).abs.length bc] 73) :: (.row j (e75Nj R.2 aW aX aY aZ) 75) :: (.row ak (e75Nj h.2 ay az aA aB) 75) :: (.row ae (e75Nj g.2 au av aw ax) 75) :: (.row aa (e75Nj f.2 am an ao ap) 75) :: (.row b2 (e46Nj u0) 46) :: (rowsF iq ++ [])) ix iw := eQ
 refine nl (qnI (eO _ _ (fun _ => cN.cst aH [5]) ?_))
 refine eF 6 [5] [] ir eP cN aH (fO fN) ?_; intro iy kG kH iz eR cO iA eS
 obtain ⟨iB, iC⟩ := iv
 refine ck eR 48 #[i6 1] ?_
 refine (gnew_fun 1 iB _ _ cO.fz).mono ?_; rintro _ iD ⟨aD, eT, eU, iE, rfl, Y, hm⟩; refine ⟨_, rfl, ?_⟩; intro kI eV; have eW := cO.callZ hm; have aq := hm.ext.le
 replace N := N.mono aq
 replace O := O.mono aq
 replace aH := aH.mono aq
 replace T := T.mono aq
 have cP : Mem w.heap.size [] w Z ((.row aD [.bool (bz 1).neg, .slice eT (bz 1).abs.length eU] 73) :: (.row af [.bool (bz 0).neg, .slice bb (bz 0).abs.length bc] 73) :: (.row j (e75Nj R.2 aW aX aY aZ) 75) :: (.row ak (e75Nj h.2 ay az aA aB) 75) :: (.row ae (e75Nj g.2 au av aw ax) 75) :: (.row aa (e75Nj f.2 am an ao ap) 75) :: (.row b2 (e46Nj u0) 46) :: (rowsF iy ++ [])) iE iD := eW
 refine nl (qnI (eS _ _ (fun _ => cP.cst aH [6]) ?_))
 refine tkF 0 7 [6] [] iz eV cP aH (fO fN) ?_; intro V kJ kK kL eX eY eZ
 obtain rfl := nilF eX
 refine eF 8 [7] [] eX eY eZ aH fN ?_; intro kM kN kO e0 e1 cQ iF e2
 obtain rfl := nilF e0
 obtain ⟨iG, b4⟩ := iC
 refine ck e1 49 #[pt V 0, pt aD 0, y6 (wu64 u0.Size)] ?_
 refine (glshI_fun (⟨false, []⟩ : BInt) (bz 1) (wu64 u0.Size) iG V none 0 aD eT eU _ _ _ _ _ _ (SlR.nil _ _) Y cQ cQ.fz).mono ?_; rintro _ iH ⟨bi, bj, aI, aJ, e3, rfl, al, ab, ag, hm⟩; refine ⟨_, rfl, ?_⟩; intro kP e4; have e5 := hm
 replace N := N.mono al
 replace O := O.mono al
 replace aH := aH.mono al
 replace T := T.mono al
 have cR : Mem w.heap.size [] w Z [.row V [.bool (glshIS (⟨false, []⟩ : BInt) (bz 1) (wu64 u0.Size)).1.neg, .slice bi (glshIS (⟨false, []⟩ : BInt) (bz 1) (wu64 u0.Size)).1.abs.length bj] 73, .row aD [.bool (glshIS (⟨false, []⟩ : BInt) (bz 1) (wu64 u0.Size)).2.neg, .slice aI (glshIS (⟨false, []⟩ : BInt) (bz 1) (wu64 u0.Size)).2.abs.length aJ] 73, .row af [.bool (bz 0).neg, .slice bb (bz 0).abs.length bc] 73, .row j (e75Nj R.2 aW aX aY aZ) 75, .row ak (e75Nj h.2 ay az aA aB) 75, .row ae (e75Nj g.2 au av aw ax) 75, .row aa (e75Nj f.2 am an ao ap) 75, .row b2 (e46Nj u0) 46] e3 iH := e5
 refine nl (qnI (e2 _ _ (fun _ => cR.cst aH [7]) ?_))
 refine eF 8 [7] [] e0 e4 cR aH fN ?_; intro kQ kR kS e6 e7 cT iI e8
 obtain rfl := nilF e6
 refine s1 e7 9 (pt af 0) ?_; intro kT e9
 refine nl (qnI (e8 _ _ (fun _ => cT.cst aH [7]) ?_))
 refine eF 8 [7] [] e6 e9 cT aH fN ?_; intro kU kV iJ fa fb cU iK fc
 obtain rfl := nilF fa
 refine s1 fb 10 (pt V 0) ?_; intro kW fd
 refine nl (qnI (fc _ _ (fun _ => cU.cst aH [7]) ?_))
 have bd : Mem w.heap.size [] w Z [.row V [.bool (glshIS (⟨false, []⟩ : BInt) (bz 1) (wu64 u0.Size)).1.neg, .slice bi (glshIS (⟨false, []⟩ : BInt) (bz 1) (wu64 u0.Size)).1.abs.length bj] 73, .row aD [.bool (glshIS (⟨false, []⟩ : BInt) (bz 1) (wu64 u0.Size)).2.neg, .slice aI (glshIS (⟨false, []⟩ : BInt) (bz 1) (wu64 u0.Size)).2.abs.length aJ] 73, .row af [.bool (bz 0).neg, .slice bb (bz 0).abs.length bc] 73, .row j (e75Nj R.2 aW aX aY aZ) 75, .row ak (e75Nj h.2 ay az aA aB) 75, .row ae (e75Nj g.2 au av aw ax) 75, .row aa (e75Nj f.2 am an ao ap) 75, .row b2 (e46Nj u0) 46] e3 iJ := cU
 refine nF fa (eJ _ _ ?_)
 refine t_ (s_ (sqB fd bd [7] [] [(61, .bool u0.Signed)] ?_)); intro kX bE
 refine c_ bE b4 (fun _ iL => ?_) fun _ gs => ?_
 ·
  refine sqH ?_; intro iM fe
  refine bt bE bd 2 [] [] [(62, pt V 0), (63, pt V 0)] ?_; intro kY ff
  obtain ⟨iN, fg⟩ := iL
  refine ck ff 50 #[pt V 0, pt V 0, y6 1] ?_
  obtain ⟨cW, iO, fh⟩ := hxq fg
  have i := grshI_fun (glshIS (⟨false, []⟩ : BInt) (bz 1) (wu64 u0.Size)).1 1 iN V bi bj _ _ _ _ _ _ ab bd bd.fz; rw [iO] at i; refine i.mono ?_; rintro _ iP ⟨fi, fj, iQ, rfl, ai, aK, hm⟩; refine ⟨_, rfl, ?_⟩; intro kZ fk; have fl := hm
  replace N := N.mono ai
  replace O := O.mono ai
  replace T := T.mono ai
  have b5 : Mem w.heap.size [] w Z [.row V [.bool cW.neg, .slice fi cW.abs.length fj] 73, .row aD [.bool (glshIS (⟨false, []⟩ : BInt) (bz 1) (wu64 u0.Size)).2.neg, .slice aI (glshIS (⟨false, []⟩ : BInt) (bz 1) (wu64 u0.Size)).2.abs.length aJ] 73, .row af [.bool (bz 0).neg, .slice bb (bz 0).abs.length bc] 73, .row j (e75Nj R.2 aW aX aY aZ) 75, .row ak (e75Nj h.2 ay az aA aB) 75, .row ae (e75Nj g.2 au av aw ax) 75, .row aa (e75Nj f.2 am an ao ap) 75, .row b2 (e46Nj u0) 46] iQ iP := fl
  have iR := fh (aK.small)
  apply fe
  refine rgH ?_; intro iS fm
  refine bt fk b5 2 [] [] [(65, pt af 0), (66, pt V 0)] ?_; intro k0 fn
  obtain ⟨iT, fo⟩ := iR
  refine ck fn 51 #[pt af 0, pt V 0] ?_
  obtain ⟨aM, iU, fp⟩ := hxq fo
  have i := gnegI_fun (bz 0) cW iT af bb bc V fi fj _ _ _ _ _ _ T aK (b5.perm ((pk 2 rfl).trans (lpr.cons _))) b5.fz; rw [iU] at i; refine i.mono ?_; rintro _ iV ⟨cX, cY, bF, bG, iW, rfl, ah, aN, aO, hm⟩; refine ⟨_, rfl, ?_⟩; intro k1 fq; have fr := hm
  replace N := N.mono ah
  replace O := O.mono ah
  have cZ : Mem w.heap.size [] w Z [.row af [.bool aM.1.neg, .slice cX aM.1.abs.length cY] 73, .row V [.bool aM.2.neg, .slice bF aM.2.abs.length bG] 73, .row aD [.bool (glshIS (⟨false, []⟩ : BInt) (bz 1) (wu64 u0.Size)).2.neg, .slice aI (glshIS (⟨false, []⟩ : BInt) (bz 1) (wu64 u0.Size)).2.abs.length aJ] 73, .row j (e75Nj R.2 aW aX aY aZ) 75, .row ak (e75Nj h.2 ay az aA aB) 75, .row ae (e75Nj g.2 au av aw ax) 75, .row aa (e75Nj f.2 am an ao ap) 75, .row b2 (e46Nj u0) 46] iW iV := fr
  have ft := fp (aN.small) (aO.small)
  apply fm
  refine t_ (s_ (sqH ?_)); intro fu b6
  refine s1 fq 68 (pt j 0) ?_; intro k2 fv
  refine ck fv 52 #[pt j 0] ?_
  obtain ⟨bH, iX, fw⟩ := hxq ft
  have i := rnum_fun R.2 j aW aX aY aZ _ _ _ _ _ _ N O (cZ.perm (pk 3 rfl)) cZ.fz; rw [iX] at i; refine i.mono ?_; rintro _ iY ⟨fx, fy, fA, fB, iZ, rfl, ac, aR, aS, hm⟩; refine ⟨_, rfl, ?_⟩; intro k3 fC; have fD := hm
  replace aN := aN.mono ac
  replace aO := aO.mono ac
  have c0 : Mem w.heap.size [] w Z [.row j (e75Nj bH fx fy fA fB) 75, .row af [.bool aM.1.neg, .slice cX aM.1.abs.length cY] 73, .row V [.bool aM.2.neg, .slice bF aM.2.abs.length bG] 73, .row aD [.bool (glshIS (⟨false, []⟩ : BInt) (bz 1) (wu64 u0.Size)).2.neg, .slice aI (glshIS (⟨false, []⟩ : BInt) (bz 1) (wu64 u0.Size)).2.abs.length aJ] 73, .row ak (e75Nj h.2 ay az aA aB) 75, .row ae (e75Nj g.2 au av aw ax) 75, .row aa (e75Nj f.2 am an ao ap) 75, .row b2 (e46Nj u0) 46] iZ iY := fD
  have i0 := fw (aR.small) (aS.small)
  refine s1 fC 70 (pt af 0) ?_; intro k4 fF
  obtain ⟨i1, fG⟩ := i0
  refine ck fF 53 #[pt j 0, pt af 0] ?_
  obtain ⟨aE, i2, fH⟩ := hxq fG
  have i := gcmpA_fun bH aM.1 i1 j fx fy fA fB af cX cY _ _ _ _ _ _ aR aS aN c0 c0.fz; rw [i2] at i; refine i.mono ?_; rintro _ i3 ⟨fI, fJ, fK, fL, bI, bJ, i4, rfl, W, a1, a2, a8, hm⟩; refine ⟨_, rfl, ?_⟩; intro k5 fM; have fP := hm
  replace aO := aO.mono W
  have bk : Mem w.heap.size [] w Z [.row j (e75Nj aE.2.1 fI fJ fK fL) 75, .row af [.bool aE.2.2.neg, .slice bI aE.2.2.abs.length bJ] 73, .row V [.bool aM.2.neg, .slice bF aM.2.abs.length bG] 73, .row aD [.bool (glshIS (⟨false, []⟩ : BInt) (bz 1) (wu64 u0.Size)).2.neg, .slice aI (glshIS (⟨false, []⟩ : BInt) (bz 1) (wu64 u0.Size)).2.abs.length aJ] 73, .row ak (e75Nj h.2 ay az aA aB) 75, .row ae (e75Nj g.2 au av aw ax) 75, .row aa (e75Nj f.2 am an ao ap) 75, .row b2 (e46Nj u0) 46] i4 i3 := fP
  have b7 := fH (a1.small) (a2.small) (a8.small)
  refine bt fM bk 2 [] [] [(73, .bool (decide (aE.1 < 0)))] ?_; intro k6 b8
  refine e_ b7 (fun bK i5 => ?_) fun bK fT => ?_
  ·
   have fS := b8.reval (d := 73) (c := []) (v := .bool (decide (aE.1 < 0))) (by kernel_rfl) (.bool true) (by rw [bK])
   refine bt fS bk 6 [] [74, 75, 76, 77, 78, 79] [(79, .bool true)] ?_; intro k7 c1
   apply b6
   refine cdT c1 (by kernel_rfl) ?_
   refine sqB c1 bk [] [] [(6, i6 0), (7, i6 3)] ?_; intro k8 i7
   exact r_ (h_ (ra2 i7 (.tuple #[i6 0, i6 3]) ⟨(0, 3), rfl, i5, bk.below⟩))
  have b9 := b8.reval (d := 73) (c := []) (v := .bool (decide (aE.1 < 0))) (by kernel_rfl) (.bool false) (by rw [bK])
  refine g_ b9 false (pt j 0) ?_; intro k9 c2
  refine cl c2 52 #[pt j 0] (wK c2 false) rfl (by kernel_rfl) (by kernel_rfl) ?_
  obtain ⟨bL, i8, fU⟩ := hxq fT
  have i := rnum_fun aE.2.1 j fI fJ fK fL _ _ _ _ _ _ a1 a2 bk bk.fz; rw [i8] at i; refine i.mono ?_; rintro _ i9 ⟨fV, fW, fX, fY, ja, rfl, S, be, bf, hm⟩; refine ⟨_, rfl, ?_⟩; intro la ca; have fZ := hm
  replace aO := aO.mono S
  have c3 : Mem w.heap.size [] w Z [.row j (e75Nj bL fV fW fX fY) 75, .row af [.bool aE.2.2.neg, .slice bI aE.2.2.abs.length bJ] 73, .row V [.bool aM.2.neg, .slice bF aM.2.abs.length bG] 73, .row aD [.bool (glshIS (⟨false, []⟩ : BInt) (bz 1) (wu64 u0.Size)).2.neg, .slice aI (glshIS (⟨false, []⟩ : BInt) (bz 1) (wu64 u0.Size)).2.abs.length aJ] 73, .row ak (e75Nj h.2 ay az aA aB) 75, .row ae (e75Nj g.2 au av aw ax) 75, .row aa (e75Nj f.2 am an ao ap) 75, .row b2 (e46Nj u0) 46] ja i9 := fZ
  have jb := fU (be.small) (bf.small)
  refine g_ ca false (pt V 0) ?_; intro lb c4
  obtain ⟨jc, f1⟩ := jb
  refine cl c4 53 #[pt j 0, pt V 0] (wK c4 false) rfl (by kernel_rfl) (by kernel_rfl) ?_
  obtain ⟨aP, jd, f2⟩ := hxq f1
  have i := gcmpA_fun bL aM.2 jc j fV fW fX fY V bF bG _ _ _ _ _ _ be bf aO (c3.perm (((pk 1 rfl).trans (lpr.cons _)).cons _)) c3.fz; rw [jd] at i; refine i.mono ?_; rintro _ je ⟨f3, f4, f5, f6, c5, c6, jf, rfl, P, bp, bq, bM, hm⟩; refine ⟨_, rfl, ?_⟩; intro lc f7; have f8 := hm
  have br : Mem w.heap.size [] w Z [.row j (e75Nj aP.2.1 f3 f4 f5 f6) 75, .row V [.bool aP.2.2.neg, .slice c5 aP.2.2.abs.length c6] 73, .row af [.bool aE.2.2.neg, .slice bI aE.2.2.abs.length bJ] 73, .row aD [.bool (glshIS (⟨false, []⟩ : BInt) (bz 1) (wu64 u0.Size)).2.neg, .slice aI (glshIS (⟨false, []⟩ : BInt) (bz 1) (wu64 u0.Size)).2.abs.length aJ] 73, .row ak (e75Nj h.2 ay az aA aB) 75, .row ae (e75Nj g.2 au av aw ax) 75, .row aa (e75Nj f.2 am an ao ap) 75, .row b2 (e46Nj u0) 46] jf je := f8
  have cb := f2 (bp.small) (bq.small) (bM.small)
  refine bt f7 br 2 [] [78, 79] [(79, .bool (decide (aP.1 ≥ 0)))] ?_; intro ld bN
  apply b6
  refine c_ bN cb (fun _ jg => ?_) fun _ gb => ?_
  ·
   refine sqB bN br [] [] [(6, i6 0), (7, i6 3)] ?_; intro lf jh
   exact r_ (h_ (ra2 jh (.tuple #[i6 0, i6 3]) ⟨(0, 3), rfl, jg, br.below⟩))
  refine k_ (sqH ?_); intro ji gc
  refine s1 bN 80 (pt j 0) ?_; intro lg gd
  refine ck gd 52 #[pt j 0] ?_
  obtain ⟨bO, jj, ge⟩ := hxq gb
  have i := rnum_fun aP.2.1 j f3 f4 f5 f6 _ _ _ _ _ _ bp bq br br.fz; rw [jj] at i; refine i.mono ?_; rintro _ jk ⟨gf, gg, gh, gi, jl, rfl, G, cc, ce, hm⟩; refine ⟨_, rfl, ?_⟩; intro lh gj; have gk := hm
  have c8 : Mem w.heap.size [] w Z [.row j (e75Nj bO gf gg gh gi) 75, .row V [.bool aP.2.2.neg, .slice c5 aP.2.2.abs.length c6] 73, .row af [.bool aE.2.2.neg, .slice bI aE.2.2.abs.length bJ] 73, .row aD [.bool (glshIS (⟨false, []⟩ : BInt) (bz 1) (wu64 u0.Size)).2.neg, .slice aI (glshIS (⟨false, []⟩ : BInt) (bz 1) (wu64 u0.Size)).2.abs.length aJ] 73, .row ak (e75Nj h.2 ay az aA aB) 75, .row ae (e75Nj g.2 au av aw ax) 75, .row aa (e75Nj f.2 am an ao ap) 75, .row b2 (e46Nj u0) 46] jl jk := gk
  obtain ⟨jn, gm⟩ := ge (cc.small) (ce.small)
  refine ck gj 54 #[pt j 0] ?_
  obtain ⟨bl, jo, gn⟩ := hxq gm
  have i := gi64A_fun bO jn j gf gg gh gi _ _ _ _ _ _ cc ce c8 c8.fz; rw [jo] at i; refine i.mono ?_; rintro _ jp ⟨jq, jr, js, jt, ju, rfl, B, jv, jw, hm⟩; refine ⟨_, rfl, ?_⟩; intro li go; have gp := hm
  have gq : Mem w.heap.size [] w Z [.row j (e75Nj bl.2 jq jr js jt) 75, .row V [.bool aP.2.2.neg, .slice c5 aP.2.2.abs.length c6] 73, .row af [.bool aE.2.2.neg, .slice bI aE.2.2.abs.length bJ] 73, .row aD [.bool (glshIS (⟨false, []⟩ : BInt) (bz 1) (wu64 u0.Size)).2.neg, .slice aI (glshIS (⟨false, []⟩ : BInt) (bz 1) (wu64 u0.Size)).2.abs.length aJ] 73, .row ak (e75Nj h.2 ay az aA aB) 75, .row ae (e75Nj g.2 au av aw ax) 75, .row aa (e75Nj f.2 am an ao ap) 75, .row b2 (e46Nj u0) 46] ju jp := gp
  have jx := gn (jv.small) (jw.small)
  refine bt go gq 2 [] [] [(6, i6 bl.1), (7, i6 0)] ?_; intro lj jy
  apply gc
  exact r_ (ra2 jy (.tuple #[i6 bl.1, i6 0]) ⟨(bl.1, 0), rfl, jx, gq.below⟩)
 refine k_ (s_ (sqH ?_)); intro gt cf
 refine s1 bE 68 (pt j 0) ?_; intro lk gu
 refine ck gu 52 #[pt j 0] ?_
 obtain ⟨bP, jz, gv⟩ := hxq gs
 have i := rnum_fun R.2 j aW aX aY aZ _ _ _ _ _ _ N O (bd.perm (pk 3 rfl)) bd.fz; rw [jz] at i; refine i.mono ?_; rintro _ jA ⟨gw, gx, gy, gz, jB, rfl, aj, aT, aU, hm⟩; refine ⟨_, rfl, ?_⟩; intro ll gA; have gB := hm
 replace T := T.mono aj
 replace ab := ab.mono aj
 have c9 : Mem w.heap.size [] w Z [.row j (e75Nj bP gw gx gy gz) 75, .row V [.bool (glshIS (⟨false, []⟩ : BInt) (bz 1) (wu64 u0.Size)).1.neg, .slice bi (glshIS (⟨false, []⟩ : BInt) (bz 1) (wu64 u0.Size)).1.abs.length bj] 73, .row aD [.bool (glshIS (⟨false, []⟩ : BInt) (bz 1) (wu64 u0.Size)).2.neg, .slice aI (glshIS (⟨false, []⟩ : BInt) (bz 1) (wu64 u0.Size)).2.abs.length aJ] 73, .row af [.bool (bz 0).neg, .slice bb (bz 0).abs.length bc] 73, .row ak (e75Nj h.2 ay az aA aB) 75, .row ae (e75Nj g.2 au av aw ax) 75, .row aa (e75Nj f.2 am an ao ap) 75, .row b2 (e46Nj u0) 46] jB jA := gB
 have jC := gv (aT.small) (aU.small)
 refine s1 gA 70 (pt af 0) ?_; intro lm gD
 obtain ⟨jD, gE⟩ := jC
 refine ck gD 53 #[pt j 0, pt af 0] ?_
 obtain ⟨aF, jE, gF⟩ := hxq gE
 have i := gcmpA_fun bP (bz 0) jD j gw gx gy gz af bb bc _ _ _ _ _ _ aT aU T (c9.perm (((pk 2 rfl).trans (lpr.cons _)).cons _)) c9.fz; rw [jE] at i; refine i.mono ?_; rintro _ jF ⟨gG, gH, gI, gJ, bQ, bR, jG, rfl, ad, a4, a5, ba, hm⟩; refine ⟨_, rfl, ?_⟩; intro ln gK; have gL := hm
 replace ab := ab.mono ad
 have bm : Mem w.heap.size [] w Z [.row j (e75Nj aF.2.1 gG gH gI gJ) 75, .row af [.bool aF.2.2.neg, .slice bQ aF.2.2.abs.length bR] 73, .row V [.bool (glshIS (⟨false, []⟩ : BInt) (bz 1) (wu64 u0.Size)).1.neg, .slice bi (glshIS (⟨false, []⟩ : BInt) (bz 1) (wu64 u0.Size)).1.abs.length bj] 73, .row aD [.bool (glshIS (⟨false, []⟩ : BInt) (bz 1) (wu64 u0.Size)).2.neg, .slice aI (glshIS (⟨false, []⟩ : BInt) (bz 1) (wu64 u0.Size)).2.abs.length aJ] 73, .row ak (e75Nj h.2 ay az aA aB) 75, .row ae (e75Nj g.2 au av aw ax) 75, .row aa (e75Nj f.2 am an ao ap) 75, .row b2 (e46Nj u0) 46] jG jF := gL
 have cg := gF (a4.small) (a5.small) (ba.small)
 refine bt gK bm 2 [] [] [(73, .bool (decide (aF.1 < 0)))] ?_; intro lo ch
 refine e_ cg (fun bS jH => ?_) fun bS gP => ?_
 ·
  have gO := ch.reval (d := 73) (c := []) (v := .bool (decide (aF.1 < 0))) (by kernel_rfl) (.bool true) (by rw [bS])
  refine bt gO bm 6 [] [74, 75, 76, 77, 78, 79] [(79, .bool true)] ?_; intro lp da
  apply cf
  refine cdT da (by kernel_rfl) ?_
  refine sqB da bm [] [] [(6, i6 0), (7, i6 3)] ?_; intro lq jI
  exact r_ (h_ (ra2 jI (.tuple #[i6 0, i6 3]) ⟨(0, 3), rfl, jH, bm.below⟩))
 have ci := ch.reval (d := 73) (c := []) (v := .bool (decide (aF.1 < 0))) (by kernel_rfl) (.bool false) (by rw [bS])
 refine g_ ci false (pt j 0) ?_; intro lr db
 refine cl db 52 #[pt j 0] (wK db false) rfl (by kernel_rfl) (by kernel_rfl) ?_
 obtain ⟨bT, jJ, gQ⟩ := hxq gP
 have i := rnum_fun aF.2.1 j gG gH gI gJ _ _ _ _ _ _ a4 a5 bm bm.fz; rw [jJ] at i; refine i.mono ?_; rintro _ jK ⟨gR, gS, gT, gU, jL, rfl, X, bg, bh, hm⟩; refine ⟨_, rfl, ?_⟩; intro ls cj; have gV := hm
 replace ab := ab.mono X
 have dc : Mem w.heap.size [] w Z [.row j (e75Nj bT gR gS gT gU) 75, .row af [.bool aF.2.2.neg, .slice bQ aF.2.2.abs.length bR] 73, .row V [.bool (glshIS (⟨false, []⟩ : BInt) (bz 1) (wu64 u0.Size)).1.neg, .slice bi (glshIS (⟨false, []⟩ : BInt) (bz 1) (wu64 u0.Size)).1.abs.length bj] 73, .row aD [.bool (glshIS (⟨false, []⟩ : BInt) (bz 1) (wu64 u0.Size)).2.neg, .slice aI (glshIS (⟨false, []⟩ : BInt) (bz 1) (wu64 u0.Size)).2.abs.length aJ] 73, .row ak (e75Nj h.2 ay az aA aB) 75, .row ae (e75Nj g.2 au av aw ax) 75, .row aa (e75Nj f.2 am an ao ap) 75, .row b2 (e46Nj u0) 46] jL jK := gV
 have jM := gQ (bg.small) (bh.small)
 refine g_ cj false (pt V 0) ?_; intro lt dd
 obtain ⟨jN, gX⟩ := jM
 refine cl dd 53 #[pt j 0, pt V 0] (wK dd false) rfl (by kernel_rfl) (by kernel_rfl) ?_
 obtain ⟨aQ, jO, gY⟩ := hxq gX
 have i := gcmpA_fun bT (glshIS (⟨false, []⟩ : BInt) (bz 1) (wu64 u0.Size)).1 jN j gR gS gT gU V bi bj _ _ _ _ _ _ bg bh ab (dc.perm (((pk 1 rfl).trans (lpr.cons _)).cons _)) dc.fz; rw [jO] at i; refine i.mono ?_; rintro _ jP ⟨gZ, g0, g1, g2, de, df, jQ, rfl, U, bs, bu, bU, hm⟩; refine ⟨_, rfl, ?_⟩; intro lu g3; have g4 := hm
 have bv : Mem w.heap.size [] w Z [.row j (e75Nj aQ.2.1 gZ g0 g1 g2) 75, .row V [.bool aQ.2.2.neg, .slice de aQ.2.2.abs.length df] 73, .row af [.bool aF.2.2.neg, .slice bQ aF.2.2.abs.length bR] 73, .row aD [.bool (glshIS (⟨false, []⟩ : BInt) (bz 1) (wu64 u0.Size)).2.neg, .slice aI (glshIS (⟨false, []⟩ : BInt) (bz 1) (wu64 u0.Size)).2.abs.length aJ] 73, .row ak (e75Nj h.2 ay az aA aB) 75, .row ae (e75Nj g.2 au av aw ax) 75, .row aa (e75Nj f.2 am an ao ap) 75, .row b2 (e46Nj u0) 46] jQ jP := g4
 have cm := gY (bs.small) (bu.small) (bU.small)
 refine bt g3 bv 2 [] [78, 79] [(79, .bool (decide (aQ.1 ≥ 0)))] ?_; intro lv bV
 apply cf
 refine c_ bV cm (fun _ jR => ?_) fun _ g7 => ?_
 ·
  refine sqB bV bv [] [] [(6, i6 0), (7, i6 3)] ?_; intro lw jS
  exact r_ (h_ (ra2 jS (.tuple #[i6 0, i6 3]) ⟨(0, 3), rfl, jR, bv.below⟩))
 refine k_ (sqH ?_); intro jT g8
 refine s1 bV 80 (pt j 0) ?_; intro lx g9
 refine ck g9 52 #[pt j 0] ?_
 obtain ⟨bW, jU, ha⟩ := hxq g7
 have i := rnum_fun aQ.2.1 j gZ g0 g1 g2 _ _ _ _ _ _ bs bu bv bv.fz; rw [jU] at i; refine i.mono ?_; rintro _ jV ⟨hb, hc, hd, he, jW, rfl, Q, cn, co, hm⟩; refine ⟨_, rfl, ?_⟩; intro ly hf; have hg := hm
 have dh : Mem w.heap.size [] w Z [.row j (e75Nj bW hb hc hd he) 75, .row V [.bool aQ.2.2.neg, .slice de aQ.2.2.abs.length df] 73, .row af [.bool aF.2.2.neg, .slice bQ aF.2.2.abs.length bR] 73, .row aD [.bool (glshIS (⟨false, []⟩ : BInt) (bz 1) (wu64 u0.Size)).2.neg, .slice aI (glshIS (⟨false, []⟩ : BInt) (bz 1) (wu64 u0.Size)).2.abs.length aJ] 73, .row ak (e75Nj h.2 ay az aA aB) 75, .row ae (e75Nj g.2 au av aw ax) 75, .row aa (e75Nj f.2 am an ao ap) 75, .row b2 (e46Nj u0) 46] jW jV := hg
 obtain ⟨jY, hi⟩ := ha (cn.small) (co.small)
 refine ck hf 54 #[pt j 0] ?_
 obtain ⟨bn, jZ, hj⟩ := hxq hi
 have i := gi64A_fun bW jY j hb hc hd he _ _ _ _ _ _ cn co dh dh.fz; rw [jZ] at i; refine i.mono ?_; rintro _ j0 ⟨j1, j2, j3, j4, j5, rfl, H, j6, j7, hm⟩; refine ⟨_, rfl, ?_⟩; intro lz hk; have hl := hm
 have hn : Mem w.heap.size [] w Z [.row j (e75Nj bn.2 j1 j2 j3 j4) 75, .row V [.bool aQ.2.2.neg, .slice de aQ.2.2.abs.length df] 73, .row af [.bool aF.2.2.neg, .slice bQ aF.2.2.abs.length bR] 73, .row aD [.bool (glshIS (⟨false, []⟩ : BInt) (bz 1) (wu64 u0.Size)).2.neg, .slice aI (glshIS (⟨false, []⟩ : BInt) (bz 1) (wu64 u0.Size)).2.abs.length aJ] 73, .row ak (e75Nj h.2 ay az aA aB) 75, .row ae (e75Nj g.2 au av aw ax) 75, .row aa (e75Nj f.2 am an ao ap) 75, .row b2 (e46Nj u0) 46] j5 j0 := hl
 have j8 := hj (j6.small) (j7.small)
 refine bt hk hn 2 [] [] [(6, i6 bn.1), (7, i6 0)] ?_; intro lA j9
 apply g8
 exact r_ (ra2 j9 (.tuple #[i6 bn.1, i6 0]) ⟨(bn.1, 0), rfl, j8, hn.below⟩)
theorem sgrow_walk (u1 : Int)  (Z : Fz) (w : World)  (hZ : Z.on w) {K : (List Signal) → Prop} (hp : sgrow_vc u1 K) : Calls Tryz.prog 72 #[.slice none 0 0, i6 u1] w fun e w' => ∃ (r : (List Signal)) (ao1001 : Option Addr) (cap1002 : Nat) (Z' : Fz), e = .returned (.slice ao1001 r.length cap1002) ∧ K r ∧ Mem w.heap.size [] w Z [.own tySignal 46 ao1001 cap1002 r] Z' w' := by
 refine enter0 Tryz.func72 rfl rfl (by kernel_rfl) ?_; intro L l; have a := Mem.start w Z hZ
 refine sqB l a [] [] [] ?_; intro N m
 refine s_ (sqB m a [] [] [(6, .bool (decide (u1 < 0)))] ?_); intro O g
 refine c_ g hp (fun _ A => ?_) fun _ f => ?_
 ·
  exact False.elim A
 refine k_ (s_ (sqB g a [] [] [(1, i6 (w64 (u1 - 0)))] ?_)); intro P n
 refine sqB n a [] [] [(16, .bool (decide ((w64 (u1 - 0)) > 0)))] ?_; intro Q d
 refine c_ d f (fun _ B => ?_) fun _ H => ?_
 ·
  refine rgH ?_; intro C o
  refine bt d a 5 [] [] [(20, .slice none 0 0), (21, i6 (w64 (u1 - 0)))] ?_; intro R p
  obtain ⟨S, D⟩ := B
  refine apz p a (T := tySignal) (w64 (u1 - 0)) (kx := .i64) (kk := .i64) (e := 46) (bytes := 72) (zs := [str [], i6 0, i6 0, .bool false, .bool false, i6 0, i6 0, i6 0, i6 0]) (z := ((⟨[], 0, 0, false, false, 0, 0, 0, 0⟩ : Signal) : Signal)) (by simp only [lim]; omega) (nog rfl _) rfl (by kernel_rfl) rfl (by kernel_rfl) (by kernel_rfl) (by kernel_rfl) (by kernel_rfl) (by kernel_rfl) rfl ?_; intro b c U E q j
  refine bt q j 2 [] [] [(24, i6 0)] ?_; intro V s
  obtain ⟨W, F⟩ := D
  refine slt s j 0 (T := tySignal) (xs := (List.replicate (w64 (u1 - 0)).toNat ((⟨[], 0, 0, false, false, 0, 0, 0, 0⟩ : Signal) : Signal))) (ao := b) (cap := c) (0 : Int).toNat (by omega) (e := 46) (bytes := 72) (k := .i64) (nog rfl _) rfl (by kernel_rfl) rfl (by kernel_rfl) rfl (by kernel_rfl) (by rw [Int.toNat_of_nonneg (by omega)]; kernel_rfl) ?_; intro X u v
  have x : Mem w.heap.size [] w Z [.own tySignal 46 b c ((List.replicate (w64 (u1 - 0)).toNat ((⟨[], 0, 0, false, false, 0, 0, 0, 0⟩ : Signal) : Signal)).take (0 : Int).toNat)] Z E := v
  refine s1 u 0 (.slice b ((List.replicate (w64 (u1 - 0)).toNat ((⟨[], 0, 0, false, false, 0, 0, 0, 0⟩ : Signal) : Signal)).take (0 : Int).toNat).length c) ?_; intro Y y
  apply o
  refine t_ (sqB y x [] [] [(4, .slice b ((List.replicate (w64 (u1 - 0)).toNat ((⟨[], 0, 0, false, false, 0, 0, 0, 0⟩ : Signal) : Signal)).take (0 : Int).toNat).length c)] ?_); intro aa G
  exact r_ (ra1 G (.slice b ((List.replicate (w64 (u1 - 0)).toNat ((⟨[], 0, 0, false, false, 0, 0, 0, 0⟩ : Signal) : Signal)).take (0 : Int).toNat).length c) ⟨((List.replicate (w64 (u1 - 0)).toNat ((⟨[], 0, 0, false, false, 0, 0, 0, 0⟩ : Signal) : Signal)).take (0 : Int).toNat), b, c, Z, rfl, F, x.kp⟩)
 refine k_ (sqB d a [] [] [(4, .slice none 0 0)] ?_); intro ab I
 apply r_
 have J : Mem w.heap.size [] w Z [.own tySignal 46 none 0 ([] : List Signal)] Z w := a.addNil tySignal 46 (by decide)
 exact ra1 I (.slice none ([] : List Signal).length 0) ⟨([] : List Signal), none, 0, Z, rfl, H, J.kp⟩
end Go.Proofs.YtdndfbamhnchfaaGreatDoor
set_option linter.unusedVariables false
set_option linter.unusedSimpArgs false
set_option linter.defProp false
set_option maxRecDepth 100000
set_option maxHeartbeats 0
namespace Go.Proofs.YtdndfbamhnchfaaGreatDoor
open Go.Sy Go.RowKit
abbrev e27Mx (X : Frame) (A0 : Option Addr) (C0 : Nat) : List Value := [i6 X.ID, .bool X.Long, .bool X.Fast, .bool X.Remote, i6 X.Size, .slice A0 X.Data.length C0]
def runm_fun (u0 : Signal) (u1 : Int) (u2 : Int) (hpre : checkS u0 64 = 0)  (Z : Fz) (w : World)  (hZ : Z.on w) := f_ (runm_walk u0 u1 u2  Z w  hZ (runm_ok u0 u1 u2 hpre))
def rsetraw_fun (u0 : Signal) (u1 : List Int) (u2 : Int) (hpre : inD u0 u1) (ao1 : Option Addr) (cap2 : Nat) (Z : Fz) (w : World) (hs3 : SlR t8 Z ao1 cap2 u1) (hZ : Z.on w) := fc_ (rsetraw_walk u0 u1 u2 ao1 cap2 Z w hs3 hZ (rsetraw_ok u0 u1 u2 hpre))
def meant_fun   (Z : Fz) (w : World)  (hZ : Z.on w) := f_ (meant_walk   Z w  hZ (meant_ok ))
def sgrow_fun (u1 : Int) (hpre : 0 ≤ u1 ∧ u1 ≤ 4000000)  (Z : Fz) (w : World)  (hZ : Z.on w) := fc_ (sgrow_walk u1  Z w  hZ (sgrow_ok u1 hpre))
theorem sconcat_walk (u0 : List (List Signal)) (ao1 : Option Addr) (cap2 : Nat) (Z : Fz) (w : World) (hs3 : SlR (tySl tySignal) Z ao1 cap2 u0) (hZ : Z.on w) {K : (List Signal) → Prop} (hp : sconcat_vc u0 K) : Calls Tryz.prog 38 #[.slice ao1 u0.length cap2] w fun e w' => ∃ (r : (List Signal)) (ao1001 : Option Addr) (cap1002 : Nat) (Z' : Fz), e = .returned (.slice ao1001 r.length cap1002) ∧ K r ∧ Mem w.heap.size [] w Z [.own tySignal 46 ao1001 cap1002 r] Z' w' := by
 refine enter0 Tryz.func38 rfl rfl (by kernel_rfl) ?_; intro a0 I; have m := Mem.start w Z hZ
 have aM := hp (hs3.small)
 refine sqB I m [] [] [] ?_; intro a6 L
 refine sqB L m [] [] [(3, i6 0)] ?_; intro a9 M
 refine s_ (sqB M m [] [] [(9, .slice ao1 u0.length cap2), (10, i6 (u0.length : Int)), (11, i6 0)] ?_); intro N O
 apply b_
 have P : Fr 36 [] [⟨0, [], .slice ao1 u0.length cap2⟩, ⟨3, [], i6 0⟩, ⟨9, [], .slice ao1 u0.length cap2⟩, ⟨10, [], i6 (u0.length : Int)⟩, ⟨11, [], i6 0⟩] N := O.reg
 obtain ⟨aN, aO, aP, aQ⟩ := aM
 refine lp (ι := Int × Int) (fun s => [⟨0, [], .slice ao1 u0.length cap2⟩, ⟨3, [], i6 s.1⟩, ⟨9, [], .slice ao1 u0.length cap2⟩, ⟨10, [], i6 (u0.length : Int)⟩, ⟨11, [], i6 s.2⟩]) (fun s => []) (fun s => Z) (fun s => aN s.1 s.2) (fun s => aO s.1 s.2) ⟨0, 0⟩ aP (by exact P.region (by kernel_rfl) (by kernel_rfl)) (by exact m) ?_
 rintro ⟨a, g⟩ aR aS aT R S
 have v := aQ a g aR
 refine sqB R S [] [] [(12, .bool (decide (g < (u0.length : Int))))] ?_; intro bw n
 apply s_
 refine cd n (t := decide (g < (u0.length : Int))) (by kernel_rfl) (fun C => ?_) (fun C => ?_)
 · -- yes
  have aU := v.1 C
  refine k_ (s_ (b_ (sqH ?_))); intro aV V
  obtain ⟨aW, W⟩ := aU
  refine ix_ n hs3 g aW .i64 22 24 ?_; intro bx bz bA h bB aX aY aZ X
  have Y := W h aX
  obtain ⟨aa, ab, rfl, a1⟩ := aZ
  have x := Y (a1.small)
  refine z1 X S 14 aY 0 (.slice aa h.length ab) rfl ?_; intro bC ac
  refine s1 ac 5 (.slice aa h.length ab) ?_; intro bD ad
  apply V
  refine sqB ad S [] [] [(3, i6 (w64 (a + (h.length : Int))))] ?_; intro bE ae
  refine sqB ae S [] [] [(20, .bool (decide ((w64 (a + (h.length : Int))) < 0)))] ?_; intro bF D
  refine cd D (t := decide ((w64 (a + (h.length : Int))) < 0)) (by kernel_rfl) (fun E => ?_) (fun E => ?_)
  · -- yes
   have a2 := x.1 E
   exact False.elim a2
  · -- no
   have af := x.2 E
   refine l_ (j_ (t_ (rgB D S [] [] [(11, i6 (w64 (g + 1)))] ?_))); intro bG a3
   exact d_ ⟨⟨w64 (a + (h.length : Int)), w64 (g + 1)⟩, af.1, af.2, (a3.region (by kernel_rfl) (by kernel_rfl)).anyβ _ (by kernel_rfl), S.kp⟩
 · -- no
  have a4 := v.2 C
  refine x_ (y_ (y_ (z_ (t_ (sqH ?_))))); intro a5 ag
  refine s1 n 23 (i6 a) ?_; intro bH ah
  obtain ⟨a7, ai⟩ := a4
  refine ck ah 72 #[.slice none 0 0, i6 a] ?_
  refine (sgrow_fun a a7 _ _ S.fz).mono ?_; rintro _ a8 ⟨o, p, q, rfl, hm⟩; refine ⟨_, rfl, ?_⟩; intro bI aj; have ak := S.callZ hm; have al := hm.ext.le
  replace hs3 := hs3.mono al
  have y : Mem w.heap.size [] w Z [.own tySignal 46 o p (sgrowS a)] q a8 := ak
  have ba := ai (y.ownSmall 0 rfl)
  refine s1 aj 6 (.slice o (sgrowS a).length p) ?_; intro bJ am
  apply ag
  refine s_ (sqB am y [] [] [(25, .slice ao1 u0.length cap2), (26, i6 (u0.length : Int)), (27, i6 0)] ?_); intro an aq
  apply b_
  have ar : Fr 36 [] [⟨6, [], .slice o (sgrowS a).length p⟩, ⟨25, [], .slice ao1 u0.length cap2⟩, ⟨26, [], i6 (u0.length : Int)⟩, ⟨27, [], i6 0⟩] an := aq.reg
  obtain ⟨bb, bc, bd, be⟩ := ba
  refine lp (ι := (List Signal) × Int × (Option Addr) × Nat) (fun s => [⟨6, [], .slice s.2.2.1 s.1.length s.2.2.2⟩, ⟨25, [], .slice ao1 u0.length cap2⟩, ⟨26, [], i6 (u0.length : Int)⟩, ⟨27, [], i6 s.2.1⟩]) (fun s => [.own tySignal 46 s.2.2.1 s.2.2.2 s.1]) (fun s => q) (fun s => bb s.1 s.2.1) (fun s => bc s.1 s.2.1) ⟨(sgrowS a), 0, o, p⟩ bd (by exact ar.region (by kernel_rfl) (by kernel_rfl)) (by exact y) ?_
  rintro ⟨b, i, j, l⟩ bf bg bh av aw
  have z := be b i bf
  refine sqB av aw [] [] [(28, .bool (decide (i < (u0.length : Int))))] ?_; intro bK u
  apply s_
  refine cd u (t := decide (i < (u0.length : Int))) (by kernel_rfl) (fun F => ?_) (fun F => ?_)
  · -- yes
   have bi := z.1 F
   refine k_ (s_ (b_ (sqH ?_))); intro bj ay
   obtain ⟨bk, az⟩ := bi
   refine ix_ u hs3 i bk .i64 22 24 ?_; intro bL bM bN f bO bl bm bn aA
   have aB := az f bl
   obtain ⟨A, B, rfl, aC⟩ := bn
   have bo := aB (aC.small)
   refine z1 aA aw 30 bm 0 (.slice A f.length B) rfl ?_; intro bP aD
   refine s1 aD 8 (.slice A f.length B) ?_; intro bQ aE
   apply ay
   refine rgH ?_; intro bp aF
   refine bt aE aw 2 [] [] [(31, .slice j b.length l), (32, .slice A f.length B)] ?_; intro bR aG
   obtain ⟨bq, aH⟩ := bo
   refine ap aG aw 0 (T := tySignal) (xs := b) (ys := f) (ao := j) (cap := l) (ao2 := A) (cap2 := B) (t := 22) (e := 46) (bytes := 72) (nog rfl _) rfl (by kernel_rfl) rfl (by kernel_rfl) (by kernel_rfl) (by kernel_rfl) rfl (Src.fz (by decide) aw.fz aC) bq ?_; intro G H bS br bT aI aJ
   have aK : Mem w.heap.size [] w Z [.own tySignal 46 G H (b ++ f)] q br := aJ
   refine s1 aI 6 (.slice G (b ++ f).length H) ?_; intro bU aL
   apply aF
   refine j_ (t_ (rgB aL aK [] [] [(27, i6 (w64 (i + 1)))] ?_)); intro bV bs
   exact d_ ⟨⟨b ++ f, w64 (i + 1), G, H⟩, aH.1, aH.2, (bs.region (by kernel_rfl) (by kernel_rfl)).anyβ _ (by kernel_rfl), aK.kp⟩
  · -- no
   have bu := z.2 F
   refine x_ (y_ (y_ (z_ (t_ (sqB u aw [] [] [(2, .slice j b.length l)] ?_))))); intro bW bv
   exact r_ (ra1 bv (.slice j b.length l) ⟨b, j, l, q, rfl, bu, aw.kp⟩)
theorem wr1_walk (u0 : Reading) (u1 : Signal) (cb1 co2 : Nat) (Z : Fz) (w : World) (hP3 : PtR Z cb1 co2 [str u1.Name, i6 u1.Start, i6 u1.Size, .bool u1.Back, .bool u1.Signed, i6 u1.Mul, i6 u1.Div, i6 u1.Add, i6 u1.Key]) (hZ : Z.on w) {K : Bool → Prop} (hp : wr1_vc u0 u1 K) : Calls Tryz.prog 40 #[.agg #[str u0.Name, i6 u0.Num, i6 u0.Den], pt cb1 co2] w fun e w' => ∃ r : Bool, e = .returned (.bool r) ∧ K r ∧ Below w.heap.size w w' := by
 refine enter0 Tryz.func40 rfl rfl (by kernel_rfl) ?_; intro n b; have c := Mem.start w Z hZ
 refine sqH ?_; intro k d
 refine nw b c pb [str u0.Name, i6 u0.Num, i6 u0.Den] 37 ?_; intro p q s f a
 refine s1 f 3 (.bool false) ?_; intro t g
 apply d
 refine sqH ?_; intro l h
 refine bt g a 3 [0] [] [(5, str u0.Name), (6, pt cb1 co2)] ?_; intro u i
 refine z1 i a 7 hP3 0 (str u1.Name) rfl ?_; intro v j
 refine bt j a 2 [] [17] [(3, .bool (u0.Name == u1.Name))] ?_; intro x m
 apply h
 exact r_ (ra1 m (.bool (u0.Name == u1.Name)) ⟨u0.Name == u1.Name, rfl, hp, a.below⟩)
def wr1_fun (u0 : Reading) (u1 : Signal) (cb1 co2 : Nat) (Z : Fz) (w : World) (hP3 : PtR Z cb1 co2 [str u1.Name, i6 u1.Start, i6 u1.Size, .bool u1.Back, .bool u1.Signed, i6 u1.Mul, i6 u1.Div, i6 u1.Add, i6 u1.Key]) (hZ : Z.on w) := f_ (wr1_walk u0 u1 cb1 co2 Z w hP3 hZ (wr1_ok u0 u1))
theorem ridxf_walk (u0 : List Reading) (u1 : Reading → Bool) (ao1 : Option Addr) (cap2 : Nat) (fid4 : Nat) (caps5 : Array Value) (Z : Fz) (w : World) (hs3 : SlR tyReading Z ao1 cap2 u0) (hf6 : ∀ (Z1 : Fz) (w1 : World), Z.le Z1 → Z1.on w1 → ∀ (x0 : Reading), Calls Tryz.prog fid4 (#[.agg #[str x0.Name, i6 x0.Num, i6 x0.Den]] ++ caps5) w1 fun e w2 => e = .returned (.bool (u1 x0)) ∧ Below w1.heap.size w1 w2) (hg7 : ∀ x w, Sem.run Tryz.prog (callFunc fid4 x) w = .ok (.enter fid4 x) w) (hZ : Z.on w) {K : Int → Prop} (hp : ridxf_vc u0 u1 K) : Calls Tryz.prog 39 #[.slice ao1 u0.length cap2, .func (.func fid4) #[] caps5] w fun e w' => ∃ r : Int, e = .returned (i6 r) ∧ K r ∧ Below w.heap.size w w' := by
 refine enter0 Tryz.func39 rfl rfl (by kernel_rfl) ?_; intro a0 n; have g := Mem.start w Z hZ; have I := Fz.le.refl Z
 have J := hp (hs3.small)
 refine sqB n g [] [] [] ?_; intro ah o
 refine s_ (sqB o g [] [] [(7, i6 (u0.length : Int)), (8, i6 0)] ?_); intro p q
 apply b_
 have u : Fr 19 [] [⟨0, [], .slice ao1 u0.length cap2⟩, ⟨1, [], .func (.func fid4) #[] caps5⟩, ⟨7, [], i6 (u0.length : Int)⟩, ⟨8, [], i6 0⟩] p := q.reg
 obtain ⟨L, M, N, O⟩ := J
 refine lp (ι := Int) (fun s => [⟨0, [], .slice ao1 u0.length cap2⟩, ⟨1, [], .func (.func fid4) #[] caps5⟩, ⟨7, [], i6 (u0.length : Int)⟩, ⟨8, [], i6 s⟩]) (fun s => []) (fun s => Z) (fun s => L s) (fun s => M s) 0 N (by exact u.region (by kernel_rfl) (by kernel_rfl)) (by exact g) ?_
 rintro b P Q R y z
 have h := O b P
 refine sqB y z [] [] [(9, .bool (decide (b < (u0.length : Int))))] ?_; intro ai d
 apply s_
 refine cd d (t := decide (b < (u0.length : Int))) (by kernel_rfl) (fun l => ?_) (fun l => ?_)
 · -- yes
  have S := h.1 l
  refine k_ (s_ (b_ (sqB d z [] [] [(5, i6 b)] ?_))); intro aj B
  refine sqH ?_; intro U C
  refine bt B z 3 [] [] [(11, .func (.func fid4) #[] caps5), (12, .slice ao1 u0.length cap2), (13, i6 b)] ?_; intro ak D
  obtain ⟨V, E⟩ := S
  refine ix_ D hs3 b V .i64 37 32 ?_; intro al am W a an X Y aa F
  have i := E a X
  obtain rfl : W = ([str a.Name, i6 a.Num, i6 a.Den] : List Value) := aa
  refine z2 F z 15 Y 0 3 [str a.Name, i6 a.Num, i6 a.Den] rfl ?_; intro ao G
  have ab := hf6 _ _ I z.fz a
  refine fcl G z (.bool (u1 a)) fid4 (#[.agg #[str a.Name, i6 a.Num, i6 a.Den]] ++ caps5) (nog rfl _) rfl (by kernel_rfl) ?h1 ?h2 ?_
  case h1 => exact fv_run rfl (by kernel_rfl) (by kernel_rfl) hg7
  case h2 => exact ab
  intro ap aq f j
  apply C
  refine cd f (t := (u1 a)) (by kernel_rfl) (fun m => ?_) (fun m => ?_)
  · -- yes
   have ac := i.1 m
   refine sqB f j [] [] [(4, i6 b)] ?_; intro ar ad
   exact r_ (i_ (h_ (h_ (i_ (h_ (ra1 ad (i6 b) ⟨b, rfl, ac, j.below⟩))))))
  · -- no
   have H := i.2 m
   refine l_ (j_ (t_ (rgB f j [] [] [(8, i6 (w64 (b + 1)))] ?_))); intro au ae
   exact d_ ⟨w64 (b + 1), H.1, H.2, (ae.region (by kernel_rfl) (by kernel_rfl)).anyβ _ (by kernel_rfl), j.kp⟩
 · -- no
  have af := h.2 l
  refine x_ (y_ (y_ (z_ (t_ (sqB d z [] [] [(4, i6 (-1))] ?_))))); intro av ag
  exact r_ (ra1 ag (i6 (-1)) ⟨-1, rfl, af, z.below⟩)
theorem rsame_walk (u0 : Frame) (u1 : Frame) (ao1 : Option Addr) (cap2 : Nat) (ao4 : Option Addr) (cap5 : Nat) (Z : Fz) (w : World) (hs3 : SlR t8 Z ao1 cap2 u0.Data) (hs6 : SlR t8 Z ao4 cap5 u1.Data) (hZ : Z.on w) {K : Bool → Prop} (hp : rsame_vc u0 u1 K) : Calls Tryz.prog 15 #[.agg #[i6 u0.ID, .bool u0.Long, .bool u0.Fast, .bool u0.Remote, i6 u0.Size, .slice ao1 u0.Data.length cap2], .agg #[i6 u1.ID, .bool u1.Long, .bool u1.Fast, .bool u1.Remote, i6 u1.Size, .slice ao4 u1.Data.length cap5]] w fun e w' => ∃ r : Bool, e = .returned (.bool r) ∧ K r ∧ Below w.heap.size w w' := by
 refine enter0 Tryz.func15 rfl rfl (by kernel_rfl) ?_; intro a0 z; have A := Mem.start w Z hZ
 have ao := hp (hs3.small) (hs6.small)
 refine sqH ?_; intro ap C
 refine nw z A pb (e27Mx u0 ao1 cap2) 27 ?_; intro c aw ax D E
 refine nw D E pb (e27Mx u1 ao4 cap5) 27 ?_; intro d ay az F a
 refine s1 F 4 (.bool false) ?_; intro aA G
 apply C
 refine sqH ?_; intro aq H
 refine s1 G 5 (pt c 0) ?_; intro aB I
 refine l1 I a 6 1 0 (i6 u0.ID) rfl rfl ?_; intro aC J
 refine s1 J 7 (pt d 0) ?_; intro aD L
 refine l1 L a 8 0 0 (i6 u1.ID) rfl rfl ?_; intro aE M
 refine s1 M 9 (.bool (u0.ID == u1.ID)) ?_; intro aF N
 refine s1 N 10 (.bool (u0.ID == u1.ID)) ?_; intro aG O
 have P := O.atom ((u0.ID == u1.ID) == true) (by kernel_rfl)
 refine gp P 11 0 [] (u0.ID == u1.ID) (pt c 1) rfl rfl ?_; intro aH f
 refine gd f (.bool u0.Long) (m := 0) (cj := []) (bj := u0.ID == u1.ID) rfl rfl (by kernel_rfl) rfl (by kernel_rfl) (by kernel_rfl) (by kernel_rfl) (fun hg => ld f a 1 (g := [0]) (b := c) (off := 1) (cs := (e27Mx u0 ao1 cap2)) (ty := 27) rfl (by kernel_rfl) (by kernel_rfl) (by kernel_rfl) (by kernel_rfl) hg) ?_; intro aI Q
 refine gp Q 13 0 [] (u0.ID == u1.ID) (pt d 1) rfl rfl ?_; intro aJ h
 refine gd h (.bool u1.Long) (m := 0) (cj := []) (bj := u0.ID == u1.ID) rfl rfl (by kernel_rfl) rfl (by kernel_rfl) (by kernel_rfl) (by kernel_rfl) (fun hg => ld h a 0 (g := [0]) (b := d) (off := 1) (cs := (e27Mx u1 ao4 cap5)) (ty := 27) rfl (by kernel_rfl) (by kernel_rfl) (by kernel_rfl) (by kernel_rfl) hg) ?_; intro aK R
 refine gp R 15 0 [] (u0.ID == u1.ID) (.bool (u0.Long == u1.Long)) rfl rfl ?_; intro aL i
 refine u_ i (.bool ((u0.ID == u1.ID) && (u0.Long == u1.Long))) (pk_and i (g := []) (m := 0) (b := u0.ID == u1.ID) (v := u0.Long == u1.Long) rfl (by kernel_rfl) (by kernel_rfl) (by kernel_rfl) rfl) ?_; intro aM S
 refine s1 S 17 (.bool ((u0.ID == u1.ID) && (u0.Long == u1.Long))) ?_; intro aN T
 have U := T.atom (((u0.ID == u1.ID) && (u0.Long == u1.Long)) == true) (by kernel_rfl)
 refine gp U 18 1 [] ((u0.ID == u1.ID) && (u0.Long == u1.Long)) (pt c 2) rfl rfl ?_; intro aO j
 refine gd j (.bool u0.Fast) (m := 1) (cj := []) (bj := (u0.ID == u1.ID) && (u0.Long == u1.Long)) rfl rfl (by kernel_rfl) rfl (by kernel_rfl) (by kernel_rfl) (by kernel_rfl) (fun hg => ld j a 1 (g := [1]) (b := c) (off := 2) (cs := (e27Mx u0 ao1 cap2)) (ty := 27) rfl (by kernel_rfl) (by kernel_rfl) (by kernel_rfl) (by kernel_rfl) hg) ?_; intro aP V
 refine gp V 20 1 [] ((u0.ID == u1.ID) && (u0.Long == u1.Long)) (pt d 2) rfl rfl ?_; intro aQ k
 refine gd k (.bool u1.Fast) (m := 1) (cj := []) (bj := (u0.ID == u1.ID) && (u0.Long == u1.Long)) rfl rfl (by kernel_rfl) rfl (by kernel_rfl) (by kernel_rfl) (by kernel_rfl) (fun hg => ld k a 0 (g := [1]) (b := d) (off := 2) (cs := (e27Mx u1 ao4 cap5)) (ty := 27) rfl (by kernel_rfl) (by kernel_rfl) (by kernel_rfl) (by kernel_rfl) hg) ?_; intro aR W
 refine gp W 22 1 [] ((u0.ID == u1.ID) && (u0.Long == u1.Long)) (.bool (u0.Fast == u1.Fast)) rfl rfl ?_; intro aS l
 refine u_ l (.bool (((u0.ID == u1.ID) && (u0.Long == u1.Long)) && (u0.Fast == u1.Fast))) (pk_and l (g := []) (m := 1) (b := (u0.ID == u1.ID) && (u0.Long == u1.Long)) (v := u0.Fast == u1.Fast) rfl (by kernel_rfl) (by kernel_rfl) (by kernel_rfl) rfl) ?_; intro aT X
 refine s1 X 24 (.bool (((u0.ID == u1.ID) && (u0.Long == u1.Long)) && (u0.Fast == u1.Fast))) ?_; intro aU Y
 have aa := Y.atom ((((u0.ID == u1.ID) && (u0.Long == u1.Long)) && (u0.Fast == u1.Fast)) == true) (by kernel_rfl)
 refine gp aa 25 2 [] (((u0.ID == u1.ID) && (u0.Long == u1.Long)) && (u0.Fast == u1.Fast)) (pt c 3) rfl rfl ?_; intro aV n
 refine gd n (.bool u0.Remote) (m := 2) (cj := []) (bj := ((u0.ID == u1.ID) && (u0.Long == u1.Long)) && (u0.Fast == u1.Fast)) rfl rfl (by kernel_rfl) rfl (by kernel_rfl) (by kernel_rfl) (by kernel_rfl) (fun hg => ld n a 1 (g := [2]) (b := c) (off := 3) (cs := (e27Mx u0 ao1 cap2)) (ty := 27) rfl (by kernel_rfl) (by kernel_rfl) (by kernel_rfl) (by kernel_rfl) hg) ?_; intro aW ab
 refine gp ab 27 2 [] (((u0.ID == u1.ID) && (u0.Long == u1.Long)) && (u0.Fast == u1.Fast)) (pt d 3) rfl rfl ?_; intro aX o
 refine gd o (.bool u1.Remote) (m := 2) (cj := []) (bj := ((u0.ID == u1.ID) && (u0.Long == u1.Long)) && (u0.Fast == u1.Fast)) rfl rfl (by kernel_rfl) rfl (by kernel_rfl) (by kernel_rfl) (by kernel_rfl) (fun hg => ld o a 0 (g := [2]) (b := d) (off := 3) (cs := (e27Mx u1 ao4 cap5)) (ty := 27) rfl (by kernel_rfl) (by kernel_rfl) (by kernel_rfl) (by kernel_rfl) hg) ?_; intro aY ac
 refine gp ac 29 2 [] (((u0.ID == u1.ID) && (u0.Long == u1.Long)) && (u0.Fast == u1.Fast)) (.bool (u0.Remote == u1.Remote)) rfl rfl ?_; intro aZ p
 refine u_ p (.bool ((((u0.ID == u1.ID) && (u0.Long == u1.Long)) && (u0.Fast == u1.Fast)) && (u0.Remote == u1.Remote))) (pk_and p (g := []) (m := 2) (b := ((u0.ID == u1.ID) && (u0.Long == u1.Long)) && (u0.Fast == u1.Fast)) (v := u0.Remote == u1.Remote) rfl (by kernel_rfl) (by kernel_rfl) (by kernel_rfl) rfl) ?_; intro a1 ad
 refine s1 ad 31 (.bool ((((u0.ID == u1.ID) && (u0.Long == u1.Long)) && (u0.Fast == u1.Fast)) && (u0.Remote == u1.Remote))) ?_; intro a2 ae
 have af := ae.atom (((((u0.ID == u1.ID) && (u0.Long == u1.Long)) && (u0.Fast == u1.Fast)) && (u0.Remote == u1.Remote)) == true) (by kernel_rfl)
 refine gp af 32 3 [] ((((u0.ID == u1.ID) && (u0.Long == u1.Long)) && (u0.Fast == u1.Fast)) && (u0.Remote == u1.Remote)) (pt c 4) rfl rfl ?_; intro a3 q
 refine gd q (i6 u0.Size) (m := 3) (cj := []) (bj := (((u0.ID == u1.ID) && (u0.Long == u1.Long)) && (u0.Fast == u1.Fast)) && (u0.Remote == u1.Remote)) rfl rfl (by kernel_rfl) rfl (by kernel_rfl) (by kernel_rfl) (by kernel_rfl) (fun hg => ld q a 1 (g := [3]) (b := c) (off := 4) (cs := (e27Mx u0 ao1 cap2)) (ty := 27) rfl (by kernel_rfl) (by kernel_rfl) (by kernel_rfl) (by kernel_rfl) hg) ?_; intro a4 ag
 refine gp ag 34 3 [] ((((u0.ID == u1.ID) && (u0.Long == u1.Long)) && (u0.Fast == u1.Fast)) && (u0.Remote == u1.Remote)) (pt d 4) rfl rfl ?_; intro a5 s
 refine gd s (i6 u1.Size) (m := 3) (cj := []) (bj := (((u0.ID == u1.ID) && (u0.Long == u1.Long)) && (u0.Fast == u1.Fast)) && (u0.Remote == u1.Remote)) rfl rfl (by kernel_rfl) rfl (by kernel_rfl) (by kernel_rfl) (by kernel_rfl) (fun hg => ld s a 0 (g := [3]) (b := d) (off := 4) (cs := (e27Mx u1 ao4 cap5)) (ty := 27) rfl (by kernel_rfl) (by kernel_rfl) (by kernel_rfl) (by kernel_rfl) hg) ?_; intro a6 ah
 refine gp ah 36 3 [] ((((u0.ID == u1.ID) && (u0.Long == u1.Long)) && (u0.Fast == u1.Fast)) && (u0.Remote == u1.Remote)) (.bool (u0.Size == u1.Size)) rfl rfl ?_; intro a7 t
 refine u_ t (.bool (((((u0.ID == u1.ID) && (u0.Long == u1.Long)) && (u0.Fast == u1.Fast)) && (u0.Remote == u1.Remote)) && (u0.Size == u1.Size))) (pk_and t (g := []) (m := 3) (b := (((u0.ID == u1.ID) && (u0.Long == u1.Long)) && (u0.Fast == u1.Fast)) && (u0.Remote == u1.Remote)) (v := u0.Size == u1.Size) rfl (by kernel_rfl) (by kernel_rfl) (by kernel_rfl) rfl) ?_; intro a8 ai
 refine s1 ai 38 (.bool (((((u0.ID == u1.ID) && (u0.Long == u1.Long)) && (u0.Fast == u1.Fast)) && (u0.Remote == u1.Remote)) && (u0.Size == u1.Size))) ?_; intro a9 aj
 have ak := aj.atom ((((((u0.ID == u1.ID) && (u0.Long == u1.Long)) && (u0.Fast == u1.Fast)) && (u0.Remote == u1.Remote)) && (u0.Size == u1.Size)) == true) (by kernel_rfl)
 refine gp ak 39 4 [] (((((u0.ID == u1.ID) && (u0.Long == u1.Long)) && (u0.Fast == u1.Fast)) && (u0.Remote == u1.Remote)) && (u0.Size == u1.Size)) (pt c 5) rfl rfl ?_; intro ba u
 refine gd u (.slice ao1 u0.Data.length cap2) (m := 4) (cj := []) (bj := ((((u0.ID == u1.ID) && (u0.Long == u1.Long)) && (u0.Fast == u1.Fast)) && (u0.Remote == u1.Remote)) && (u0.Size == u1.Size)) rfl rfl (by kernel_rfl) rfl (by kernel_rfl) (by kernel_rfl) (by kernel_rfl) (fun hg => ld u a 1 (g := [4]) (b := c) (off := 5) (cs := (e27Mx u0 ao1 cap2)) (ty := 27) rfl (by kernel_rfl) (by kernel_rfl) (by kernel_rfl) (by kernel_rfl) hg) ?_; intro bb al
 refine gp al 41 4 [] (((((u0.ID == u1.ID) && (u0.Long == u1.Long)) && (u0.Fast == u1.Fast)) && (u0.Remote == u1.Remote)) && (u0.Size == u1.Size)) (pt d 5) rfl rfl ?_; intro bc x
 refine gd x (.slice ao4 u1.Data.length cap5) (m := 4) (cj := []) (bj := ((((u0.ID == u1.ID) && (u0.Long == u1.Long)) && (u0.Fast == u1.Fast)) && (u0.Remote == u1.Remote)) && (u0.Size == u1.Size)) rfl rfl (by kernel_rfl) rfl (by kernel_rfl) (by kernel_rfl) (by kernel_rfl) (fun hg => ld x a 0 (g := [4]) (b := d) (off := 5) (cs := (e27Mx u1 ao4 cap5)) (ty := 27) rfl (by kernel_rfl) (by kernel_rfl) (by kernel_rfl) (by kernel_rfl) hg) ?_; intro bd am
 refine gcl am a (.bool (beqS u0.Data u1.Data)) 32 #[.slice ao1 u0.Data.length cap2, .slice ao4 u1.Data.length cap5] (m := 4) (cj := []) (bj := ((((u0.ID == u1.ID) && (u0.Long == u1.Long)) && (u0.Fast == u1.Fast)) && (u0.Remote == u1.Remote)) && (u0.Size == u1.Size)) rfl rfl (by kernel_rfl) rfl (by kernel_rfl) (by kernel_rfl) (by kernel_rfl) (fun _ => by kernel_rfl) (fun hg => beq_fun u0.Data u1.Data ao1 cap2 ao4 cap5 _ _ hs3 hs6 a.fz) ?_; intro be bf y ar
 refine u_ y (.bool ((((((u0.ID == u1.ID) && (u0.Long == u1.Long)) && (u0.Fast == u1.Fast)) && (u0.Remote == u1.Remote)) && (u0.Size == u1.Size)) && (beqS u0.Data u1.Data))) (pk_and y (g := []) (m := 4) (b := ((((u0.ID == u1.ID) && (u0.Long == u1.Long)) && (u0.Fast == u1.Fast)) && (u0.Remote == u1.Remote)) && (u0.Size == u1.Size)) (v := (beqS u0.Data u1.Data)) rfl (by kernel_rfl) (by kernel_rfl) (by kernel_rfl) rfl) ?_; intro bg an
 refine s1 an 4 (.bool ((((((u0.ID == u1.ID) && (u0.Long == u1.Long)) && (u0.Fast == u1.Fast)) && (u0.Remote == u1.Remote)) && (u0.Size == u1.Size)) && (beqS u0.Data u1.Data))) ?_; intro bh au
 apply H
 exact r_ (ra1 au (.bool ((((((u0.ID == u1.ID) && (u0.Long == u1.Long)) && (u0.Fast == u1.Fast)) && (u0.Remote == u1.Remote)) && (u0.Size == u1.Size)) && (beqS u0.Data u1.Data))) ⟨(((((u0.ID == u1.ID) && (u0.Long == u1.Long)) && (u0.Fast == u1.Fast)) && (u0.Remote == u1.Remote)) && (u0.Size == u1.Size)) && (beqS u0.Data u1.Data), rfl, ao, ar.below⟩)
theorem nofr_walk (u0 : Frame) (ao1 : Option Addr) (cap2 : Nat) (Z : Fz) (w : World) (hs3 : SlR t8 Z ao1 cap2 u0.Data) (hZ : Z.on w) {K : Bool → Prop} (hp : nofr_vc u0 K) : Calls Tryz.prog 13 #[.agg #[i6 u0.ID, .bool u0.Long, .bool u0.Fast, .bool u0.Remote, i6 u0.Size, .slice ao1 u0.Data.length cap2]] w fun e w' => ∃ r : Bool, e = .returned (.bool r) ∧ K r ∧ Below w.heap.size w w' := by
 refine enter0 Tryz.func13 rfl rfl (by kernel_rfl) ?_; intro s c; have d := Mem.start w Z hZ
 have l := hp (hs3.small)
 refine sqH ?_; intro m f
 refine nw c d pb (e27Mx u0 ao1 cap2) 27 ?_; intro u v x g a
 refine s1 g 2 (.bool false) ?_; intro y h
 apply f
 refine sqH ?_; intro n i
 refine bt h a 2 [0] [] [(3, .agg (e27Mx u0 ao1 cap2).toArray), (4, .agg #[i6 0, .bool false, .bool false, .bool false, i6 0, .slice none 0 0])] ?_; intro z j
 refine ck j 15 #[.agg (e27Mx u0 ao1 cap2).toArray, .agg #[i6 0, .bool false, .bool false, .bool false, i6 0, .slice none 0 0]] ?_
 refine (rsame_walk u0 (⟨0, false, false, false, 0, []⟩ : Frame) ao1 cap2 none 0 _ _ hs3 (SlR.nil _ _) a.fz l).mono ?_; rintro _ A ⟨b, rfl, o, hb⟩; refine ⟨_, rfl, ?_⟩; intro B k; have p := a.call hb
 refine s1 k 2 (.bool b) ?_; intro C q
 apply i
 exact r_ (ra1 q (.bool b) ⟨b, rfl, o, p.below⟩)
end Go.Proofs.YtdndfbamhnchfaaGreatDoor
set_option linter.unusedVariables false
set_option linter.unusedSimpArgs false
set_option linter.defProp false
set_option maxRecDepth 100000
set_option maxHeartbeats 0
namespace Go.Proofs.YtdndfbamhnchfaaGreatDoor
open Go.Sy Go.RowKit
abbrev e46My (X : Signal) : List Value := [str X.Name, i6 X.Start, i6 X.Size, .bool X.Back, .bool X.Signed, i6 X.Mul, i6 X.Div, i6 X.Add, i6 X.Key]
abbrev e24My (X : Message) (A0 : Option Addr) (C0 : Nat) : List Value := [i6 X.ID, .bool X.Long, str X.Name, i6 X.Size, i6 X.Chooser, .slice A0 X.Signals.length C0]
abbrev e37My (X : Reading) : List Value := [str X.Name, i6 X.Num, i6 X.Den]
def sconcat_fun (u0 : List (List Signal)) (hpre : (∀ l ∈ u0, l.length ≤ 1048576) ∧ u0.length ≤ 2) (ao1 : Option Addr) (cap2 : Nat) (Z : Fz) (w : World) (hs3 : SlR (tySl tySignal) Z ao1 cap2 u0) (hZ : Z.on w) := fc_ (sconcat_walk u0 ao1 cap2 Z w hs3 hZ (sconcat_ok u0 hpre))
def ridxf_fun (u0 : List Reading) (u1 : Reading → Bool) (ao1 : Option Addr) (cap2 : Nat) (fid4 : Nat) (caps5 : Array Value) (Z : Fz) (w : World) (hs3 : SlR tyReading Z ao1 cap2 u0) (hf6 : ∀ (Z1 : Fz) (w1 : World), Z.le Z1 → Z1.on w1 → ∀ (x0 : Reading), Calls Tryz.prog fid4 (#[.agg #[str x0.Name, i6 x0.Num, i6 x0.Den]] ++ caps5) w1 fun e w2 => e = .returned (.bool (u1 x0)) ∧ Below w1.heap.size w1 w2) (hg7 : ∀ x w, Sem.run Tryz.prog (callFunc fid4 x) w = .ok (.enter fid4 x) w) (hZ : Z.on w) := f_ (ridxf_walk u0 u1 ao1 cap2 fid4 caps5 Z w hs3 hf6 hg7 hZ (ridxf_ok u0 u1))
def rsame_fun (u0 : Frame) (u1 : Frame) (ao1 : Option Addr) (cap2 : Nat) (ao4 : Option Addr) (cap5 : Nat) (Z : Fz) (w : World) (hs3 : SlR t8 Z ao1 cap2 u0.Data) (hs6 : SlR t8 Z ao4 cap5 u1.Data) (hZ : Z.on w) := f_ (rsame_walk u0 u1 ao1 cap2 ao4 cap5 Z w hs3 hs6 hZ (rsame_ok u0 u1))
def nofr_fun (u0 : Frame) (ao1 : Option Addr) (cap2 : Nat) (Z : Fz) (w : World) (hs3 : SlR t8 Z ao1 cap2 u0.Data) (hZ : Z.on w) := f_ (nofr_walk u0 ao1 cap2 Z w hs3 hZ (nofr_ok u0))
theorem lwritten_walk (u0 : Message) (u1 : List Reading) (ao1 : Option Addr) (cap2 : Nat) (ao4 : Option Addr) (cap5 : Nat) (Z : Fz) (w : World) (hs3 : SlR tySignal Z ao1 cap2 u0.Signals) (hs6 : SlR tyReading Z ao4 cap5 u1) (hZ : Z.on w) {K : (Frame × Int) → Prop} (hp : lwritten_vc u0 u1 K) : Calls Tryz.prog 14 #[.agg #[i6 u0.ID, .bool u0.Long, str u0.Name, i6 u0.Size, i6 u0.Chooser, .slice ao1 u0.Signals.length cap2], .slice ao4 u1.length cap5] w fun e w' => ∃ (r : Frame × Int) (ao1001 : Option Addr) (cap1002 : Nat) (Z' : Fz), e = .returned (.tuple #[.agg #[i6 r.1.ID, .bool r.1.Long, .bool r.1.Fast, .bool r.1.Remote, i6 r.1.Size, .slice ao1001 r.1.Data.length cap1002], i6 r.2]) ∧ K r ∧ SlR t8 Z' ao1001 cap1002 r.1.Data ∧ Mem w.heap.size [] w Z [] Z' w' := by
 refine enter0 Tryz.func14 rfl rfl (by kernel_rfl) ?_; intro a0 b5; have b6 := Mem.start w Z hZ
 have eY := hp (hs3.small) (hs6.small)
 refine sqH ?_; intro eZ b8
 refine nw b5 b6 pb (e24My u0 ao1 cap2) 24 ?_; intro d hQ hR b9 ca
 refine nw b9 ca pb [i6 0, .bool false, .bool false, .bool false, i6 0, .slice none 0 0] 27 ?_; intro c hS hT cb bo
 refine s1 cb 5 (i6 0) ?_; intro hU cc
 apply b8
 refine sqH ?_; intro e0 ce
 refine bt cc bo 2 [1] [] [(19, i6 u0.Size)] ?_; intro hV cf
 obtain ⟨hW, e1⟩ := eY
 refine mks cf bo (T := t8) u0.Size u0.Size (k := .i64) (k' := .i64) (e := 5) (bytes := 1) (zs := [y8 0]) (z := 0) (by simp only [lim]; omega) (nog rfl _) rfl (by kernel_rfl) rfl (by kernel_rfl) (by kernel_rfl) (by kernel_rfl) (by kernel_rfl) rfl ?_; intro h hX e2 cg ch
 have aT : Mem w.heap.size [] w Z [.own t8 5 (sm h) u0.Size.toNat (List.replicate u0.Size.toNat (0 : Int)), .row c [i6 0, .bool false, .bool false, .bool false, i6 0, .slice none 0 0] 27, .row d (e24My u0 ao1 cap2) 24] Z e2 := ch
 refine s1 cg 6 (.slice (sm h) (List.replicate u0.Size.toNat (0 : Int)).length u0.Size.toNat) ?_; intro hY ci
 apply ce
 refine s_ (sqB ci aT [] [] [(21, .slice ao4 u1.length cap5), (22, i6 (u1.length : Int)), (23, i6 0)] ?_); intro aU cj
 have cl : Fr 124 [] [⟨1, [], .slice ao4 u1.length cap5⟩, ⟨2, [], pt d 0⟩, ⟨4, [], pt c 0⟩, ⟨6, [], .slice (sm h) (List.replicate u0.Size.toNat (0 : Int)).length u0.Size.toNat⟩, ⟨21, [], .slice ao4 u1.length cap5⟩, ⟨22, [], i6 (u1.length : Int)⟩, ⟨23, [], i6 0⟩] aU := cj.reg
 obtain ⟨e3, e4, e5⟩ := e1
 refine wp_then_k fun KJ49 hKJ50 => ?_
 have e6 : ∀ (_u : Unit), e3 → ∀ a1 w1, Fr 124 [] [⟨1, [], .slice ao4 u1.length cap5⟩, ⟨2, [], pt d 0⟩, ⟨4, [], pt c 0⟩, ⟨6, [], .slice (sm h) (List.replicate u0.Size.toNat (0 : Int)).length u0.Size.toNat⟩] a1 → Mem w.heap.size [] w Z [.own t8 5 (sm h) u0.Size.toNat (List.replicate u0.Size.toNat (0 : Int)), .row c [i6 0, .bool false, .bool false, .bool false, i6 0, .slice none 0 0] 27, .row d (e24My u0 ao1 cap2) 24] Z w1 → KJ49 a1 w1 := by
  rintro _u e7 h0 h3 cm af
  refine hKJ50 _ _ ?_
  have e8 := e5  e7
  refine sqB cm af [] [] [(11, i6 0)] ?_; intro h4 cn
  refine sqB cn af [2] [] [(12, .slice ao1 u0.Signals.length cap2)] ?_; intro h5 co
  refine s_ (sqB co af [2] [] [(48, .bool (decide (u0.Chooser ≥ 0)))] ?_); intro bq cp
  have cq : Fr 124 [] [⟨1, [], .slice ao4 u1.length cap5⟩, ⟨2, [], pt d 0⟩, ⟨4, [], pt c 0⟩, ⟨6, [], .slice (sm h) (List.replicate u0.Size.toNat (0 : Int)).length u0.Size.toNat⟩, ⟨11, [], i6 0⟩, ⟨12, [], .slice ao1 u0.Signals.length cap2⟩, ⟨48, [], .bool (decide (u0.Chooser ≥ 0))⟩] bq := cp.reg
  obtain ⟨e9, aV, fa⟩ := e8
  refine wp_then_k fun KJ80 hKJ81 => ?_
  have cr : ∀ (i : List Signal) (y : Option Addr) (A : Nat) (aW : Fz), e9 i ∧ SlR tySignal aW y A i ∧ Fz.le Z aW → ∀ a1 w1, Fr 124 [] [⟨1, [], .slice ao4 u1.length cap5⟩, ⟨2, [], pt d 0⟩, ⟨4, [], pt c 0⟩, ⟨6, [], .slice (sm h) (List.replicate u0.Size.toNat (0 : Int)).length u0.Size.toNat⟩, ⟨11, [], i6 0⟩, ⟨12, [], .slice y i.length A⟩] a1 → Mem w.heap.size [] w Z [.own t8 5 (sm h) u0.Size.toNat (List.replicate u0.Size.toNat (0 : Int)), .row c [i6 0, .bool false, .bool false, .bool false, i6 0, .slice none 0 0] 27, .row d (e24My u0 ao1 cap2) 24] aW w1 → KJ80 a1 w1 := by
   rintro i y A aW ⟨fb, aX, ag⟩ h6 fd cs ct
   refine hKJ81 _ _ ?_
   have fe := fa i fb
   have aY := hs3.mono ag
   have aZ := hs6.mono ag
   refine s_ (sqB cs ct [] [] [(70, .slice y i.length A), (71, i6 (i.length : Int)), (72, i6 0)] ?_); intro a2 cu
   have cv : Fr 124 [] [⟨1, [], .slice ao4 u1.length cap5⟩, ⟨2, [], pt d 0⟩, ⟨4, [], pt c 0⟩, ⟨6, [], .slice (sm h) (List.replicate u0.Size.toNat (0 : Int)).length u0.Size.toNat⟩, ⟨11, [], i6 0⟩, ⟨70, [], .slice y i.length A⟩, ⟨71, [], i6 (i.length : Int)⟩, ⟨72, [], i6 0⟩] a2 := cu.reg
   obtain ⟨aD, aE, cw, br⟩ := ct.freeze 0 rfl
   replace aY := aY.mono aE
   replace aZ := aZ.mono aE
   replace aX := aX.mono aE
   have bs : Mem w.heap.size [] w Z [.row c [i6 0, .bool false, .bool false, .bool false, i6 0, .slice none 0 0] 27, .row d (e24My u0 ao1 cap2) 24] aD fd := cw
   have bu : Fr 124 [] [⟨1, [], .slice ao4 u1.length cap5⟩, ⟨2, [], pt d 0⟩, ⟨4, [], pt c 0⟩, ⟨6, [], .slice (sm h) (List.replicate u0.Size.toNat (0 : Int)).length u0.Size.toNat⟩, ⟨11, [], i6 0⟩, ⟨70, [], .slice y i.length A⟩, ⟨71, [], i6 (i.length : Int)⟩, ⟨72, [], i6 0⟩] a2 := cv.reg
   obtain ⟨ff, fg, fh⟩ := fe
   refine wp_then_k fun KJ108 hKJ109 => ?_
   have fi : ∀ (F : List Int) (ar : Int) (N : Option Addr) (O : Nat) (V : Fz), ff F ar ∧ SlR t8 V N O F ∧ Fz.le aD V → ∀ a1 w1, Fr 124 [] [⟨1, [], .slice ao4 u1.length cap5⟩, ⟨2, [], pt d 0⟩, ⟨4, [], pt c 0⟩, ⟨6, [], .slice N F.length O⟩, ⟨11, [], i6 ar⟩] a1 → Mem w.heap.size [] w Z [.row c [i6 0, .bool false, .bool false, .bool false, i6 0, .slice none 0 0] 27, .row d (e24My u0 ao1 cap2) 24] V w1 → KJ108 a1 w1 := by
    rintro F ar N O V ⟨fj, fk, au⟩ h7 h8 cx av
    refine hKJ109 _ _ ?_
    have a3 := fh F ar fj
    refine s_ (sqB cx av [] [] [(116, .bool (decide (ar < (u1.length : Int))))] ?_); intro ie aF
    refine c_ aF a3 (fun _ fl => ?_) fun _ fp => ?_
    ·
     refine sqH ?_; intro fm cy
     refine s1 aF 117 (.agg #[i6 0, .bool false, .bool false, .bool false, i6 0, .slice none 0 0]) ?_; intro ig bw
     refine sx bw av 0 [i6 0, .bool false, .bool false, .bool false, i6 0, .slice none 0 0] 0 ?_; intro fo cz
     refine s1 bw 5 (i6 8) ?_; intro ih cA
     have cB : Mem w.heap.size [] w Z [.row c [i6 0, .bool false, .bool false, .bool false, i6 0, .slice none 0 0] 27, .row d (e24My u0 ao1 cap2) 24] V fo := cz
     apply cy
     refine r_ (h_ (rt (fn := Tryz.f14) (v := .tuple #[.agg #[i6 0, .bool false, .bool false, .bool false, i6 0, .slice none 0 0], i6 8]) cA (re2c cA (fn := Tryz.f14) rfl (ad := ⟨c, 0, none⟩) (by kernel_rfl) (loadVar_run cB 0 (b := c) (k := 6) (vs := [i6 0, .bool false, .bool false, .bool false, i6 0, .slice none 0 0]) (ty := 27) rfl (by kernel_rfl) (by kernel_rfl)) (by kernel_rfl)) ?_))
     exact ⟨((⟨0, false, false, false, 0, []⟩ : Frame), 8), none, 0, V, rfl, fl, (SlR.nil _ _), cB.kp⟩
    refine k_ (sqH ?_); intro fq cC
    refine bt aF av 6 [1, 1] [] [(123, .agg #[i6 u0.ID, .bool u0.Long, .bool false, .bool false, i6 0, .slice N F.length O])] ?_; intro ii bx
    refine sx bx av 0 [i6 u0.ID, .bool u0.Long, .bool false, .bool false, i6 0, .slice N F.length O] 0 ?_; intro fr cD
    refine s1 bx 5 (i6 0) ?_; intro ij cE
    have cF : Mem w.heap.size [] w Z [.row c [i6 u0.ID, .bool u0.Long, .bool false, .bool false, i6 0, .slice N F.length O] 27, .row d (e24My u0 ao1 cap2) 24] V fr := cD
    apply cC
    refine r_ (rt (fn := Tryz.f14) (v := .tuple #[.agg #[i6 u0.ID, .bool u0.Long, .bool false, .bool false, i6 0, .slice N F.length O], i6 0]) cE (re2c cE (fn := Tryz.f14) rfl (ad := ⟨c, 0, none⟩) (by kernel_rfl) (loadVar_run cF 0 (b := c) (k := 6) (vs := [i6 u0.ID, .bool u0.Long, .bool false, .bool false, i6 0, .slice N F.length O]) (ty := 27) rfl (by kernel_rfl) (by kernel_rfl)) (by kernel_rfl)) ?_)
    exact ⟨((⟨u0.ID, u0.Long, false, false, 0, F⟩ : Frame), 0), N, O, V, rfl, fp, fk, cF.kp⟩
   have fs := Fz.le.refl aD
   apply b_
   have cG : Fr 124 [] [⟨1, [], .slice ao4 u1.length cap5⟩, ⟨2, [], pt d 0⟩, ⟨4, [], pt c 0⟩, ⟨6, [], .slice (sm h) (List.replicate u0.Size.toNat (0 : Int)).length u0.Size.toNat⟩, ⟨11, [], i6 0⟩, ⟨70, [], .slice y i.length A⟩, ⟨71, [], i6 (i.length : Int)⟩, ⟨72, [], i6 0⟩] a2 := bu.reg
   obtain ⟨ft, fu, fv, fw⟩ := fg
   refine lp (ι := (List Int) × Int × Int × (Option Addr) × Nat × Fz) (fun s => [⟨1, [], .slice ao4 u1.length cap5⟩, ⟨2, [], pt d 0⟩, ⟨4, [], pt c 0⟩, ⟨6, [], .slice s.2.2.2.1 s.1.length s.2.2.2.2.1⟩, ⟨11, [], i6 s.2.1⟩, ⟨70, [], .slice y i.length A⟩, ⟨71, [], i6 (i.length : Int)⟩, ⟨72, [], i6 s.2.2.1⟩]) (fun s => [.row c [i6 0, .bool false, .bool false, .bool false, i6 0, .slice none 0 0] 27, .row d (e24My u0 ao1 cap2) 24]) (fun s => s.2.2.2.2.2) (fun s => ft s.1 s.2.1 s.2.2.1 ∧ SlR t8 s.2.2.2.2.2 s.2.2.2.1 s.2.2.2.2.1 s.1 ∧ Fz.le aD s.2.2.2.2.2) (fun s => fu s.1 s.2.1 s.2.2.1) ⟨(List.replicate u0.Size.toNat (0 : Int)), 0, 0, (sm h), u0.Size.toNat, aD⟩ ⟨fv, br, Fz.le.refl _⟩ (by exact cG.reg) (by exact bs) ?_
   rintro ⟨u, P, G, H, I, aw⟩ ⟨fx, J, B⟩ fy fA cI cJ
   have a4 := fw u P G fx
   have W := aY.mono B
   have M := aZ.mono B
   have X := aX.mono B
   have Y := fs.mono B
   refine sqB cI cJ [] [] [(73, .bool (decide (G < (i.length : Int))))] ?_; intro cL a5
   refine s_ (c_ a5 a4 (fun _ fB => ?_) fun _ gt => ?_)
   ·
    apply k_
    have cM : Fr 124 [] [⟨1, [], .slice ao4 u1.length cap5⟩, ⟨2, [], pt d 0⟩, ⟨4, [], pt c 0⟩, ⟨6, [], .slice H u.length I⟩, ⟨11, [], i6 P⟩, ⟨70, [], .slice y i.length A⟩, ⟨71, [], i6 (i.length : Int)⟩, ⟨72, [], i6 G⟩] cL := a5.reg
    obtain ⟨fC, fD, fE⟩ := fB
    refine wp_seq_k fun KJ191 hKJ192 => ?_
    have cN : ∀ (ay : List Int) (aG : Int) (a6 : Option Addr) (a7 : Nat) (aH : Fz), fC ay aG ∧ SlR t8 aH a6 a7 ay ∧ Fz.le aw aH → ∀ a1 w1, Fr 124 [] [⟨1, [], .slice ao4 u1.length cap5⟩, ⟨2, [], pt d 0⟩, ⟨4, [], pt c 0⟩, ⟨6, [], .slice a6 ay.length a7⟩, ⟨11, [], i6 aG⟩, ⟨70, [], .slice y i.length A⟩, ⟨71, [], i6 (i.length : Int)⟩, ⟨72, [], i6 G⟩] a1 → Mem w.heap.size [] w Z [.row c [i6 0, .bool false, .bool false, .bool false, i6 0, .slice none 0 0] 27, .row d (e24My u0 ao1 cap2) 24] aH w1 → KJ191 a1 w1 := by
     rintro ay aG a6 a7 aH ⟨fF, fG, Q⟩ il im cO cP
     refine hKJ192 _ _ ?_
     have cQ := fE ay aG fF
     have fH := B.mono Q
     refine rgB cO cP [] [] [(72, i6 (w64 (G + 1)))] ?_; intro iw fI
     exact d_ ⟨⟨ay, aG, w64 (G + 1), a6, a7, aH⟩, ⟨cQ.1, fG, fH⟩, cQ.2, (fI.reg).anyβ _ (by kernel_rfl), cP.kp⟩
    have aa := Fz.le.refl aw
    refine b_ (sqH ?_); intro fJ cR
    obtain ⟨fK, cT⟩ := fD
    refine ix_ cM X G fK .i64 46 72 ?_; intro iy iz fL a iA fM aj fP cU
    have fQ := cT a fM
    obtain rfl : fL = ((e46My a) : List Value) := fP
    refine z2 cU cJ 75 aj 0 9 (e46My a) rfl ?_; intro iB cV
    refine nw cV cJ pb [str [], i6 0, i6 0, .bool false, .bool false, i6 0, i6 0, i6 0, i6 0] 46 ?_; intro aI iC iD bB cW
    refine sx bB cW 0 (e46My a) 0 ?_; intro fR cX
    have a8 : Mem w.heap.size [] w Z [.row aI (e46My a) 46, .row c [i6 0, .bool false, .bool false, .bool false, i6 0, .slice none 0 0] 27, .row d (e24My u0 ao1 cap2) 24] aw fR := cX
    apply cR
    refine s_ (sqH ?_); intro fS cY
    refine bt bB a8 3 [2, 0] [] [(76, .agg (e24My u0 ao1 cap2).toArray), (77, .agg (e46My a).toArray), (78, .slice H u.length I)] ?_; intro iE cZ
    obtain ⟨fT, a9⟩ := fQ
    refine fc cZ a8 (rthere_fun u0 a u fT ao1 cap2 H I _ _ W J a8.fz) ?_; intro iF fU c0 bC
    refine s1 c0 80 (.bool (!(mthereS u0 a u))) ?_; intro iG ba
    apply cY
    refine c_ ba a9 (fun _ fV => ?_) fun _ bb => ?_
    ·
     exact x_ (y_ (z_ (d_ (cN u P H I aw ⟨fV, J, aa⟩ _ _ ((ba.reg).anyβ _ (by kernel_rfl)) (bC.kp)))))
    refine k_ (sqH ?_); intro fW c1
    refine bt ba bC 2 [] [] [(81, .slice ao4 u1.length cap5), (82, .func (.func 40) #[] #[pt aI 0])] ?_; intro iH c2
    obtain ⟨aJ, L, c3, ak⟩ := bC.freezeRow 0 rfl
    replace M := M.mono L
    replace J := J.mono L
    replace aa := aa.mono L
    have bE : Mem w.heap.size [] w Z [.row c [i6 0, .bool false, .bool false, .bool false, i6 0, .slice none 0 0] 27, .row d (e24My u0 ao1 cap2) 24] aJ fU := c3
    refine fc c2 bE (ridxf_fun u1 (fun x0 => wr1 x0 a) ao4 cap5 40 #[pt aI 0] _ _ M (fun Z1 w1 h1 h2 x0 => wr1_fun x0 a aI 0 Z1 w1 (ak.mono h1) h2) (fun _ _ => by kernel_rfl) bE.fz) ?_; intro iI iJ c4 aK
    refine s1 c4 15 (i6 (ridxfS u1 (fun x0 => wr1 x0 a))) ?_; intro iK c5
    apply c1
    refine s_ (sqB c5 aK [] [] [(85, .bool (decide ((ridxfS u1 (fun x0 => wr1 x0 a)) < 0)))] ?_); intro fX aL
    refine c_ aL bb (fun _ fY => ?_) fun _ f1 => ?_
    ·
     refine sqH ?_; intro fZ c6
     refine s1 aL 86 (.agg #[i6 0, .bool false, .bool false, .bool false, i6 0, .slice none 0 0]) ?_; intro iL bG
     refine sx bG aK 0 [i6 0, .bool false, .bool false, .bool false, i6 0, .slice none 0 0] 0 ?_; intro f0 c7
     refine s1 bG 5 (i6 14) ?_; intro iM c8
     have c9 : Mem w.heap.size [] w Z [.row c [i6 0, .bool false, .bool false, .bool false, i6 0, .slice none 0 0] 27, .row d (e24My u0 ao1 cap2) 24] aJ f0 := c7
     apply c6
     refine r_ (h_ (i_ (h_ (h_ (i_ (h_ (rt (fn := Tryz.f14) (v := .tuple #[.agg #[i6 0, .bool false, .bool false, .bool false, i6 0, .slice none 0 0], i6 14]) c8 (re2c c8 (fn := Tryz.f14) rfl (ad := ⟨c, 0, none⟩) (by kernel_rfl) (loadVar_run c9 0 (b := c) (k := 6) (vs := [i6 0, .bool false, .bool false, .bool false, i6 0, .slice none 0 0]) (ty := 27) rfl (by kernel_rfl) (by kernel_rfl)) (by kernel_rfl)) ?_)))))))
     exact ⟨((⟨0, false, false, false, 0, []⟩ : Frame), 14), none, 0, aJ, rfl, fY, (SlR.nil _ _), c9.kp⟩
    apply k_
    have bH : Fr 124 [] [⟨1, [], .slice ao4 u1.length cap5⟩, ⟨2, [], pt d 0⟩, ⟨4, [], pt c 0⟩, ⟨6, [], .slice H u.length I⟩, ⟨11, [], i6 P⟩, ⟨14, [], pt aI 0⟩, ⟨15, [], i6 (ridxfS u1 (fun x0 => wr1 x0 a))⟩, ⟨70, [], .slice y i.length A⟩, ⟨71, [], i6 (i.length : Int)⟩, ⟨72, [], i6 G⟩] fX := aL.reg
    refine sqQH mixed (by kernel_rfl) aK ?_; intro f2 da
    refine qu_ bH (.agg (e46My a).toArray) (fun v289 hC => lza bH hC.fz ak 0 (g := []) (m := 9) (vs := (e46My a)) rfl (by kernel_rfl) (by kernel_rfl) (by kernel_rfl) (by kernel_rfl) rfl) ?_; intro iN db
    refine q1 db 89 (.slice ao4 u1.length cap5) ?_; intro iO dc
    refine q1 dc 90 (i6 (ridxfS u1 (fun x0 => wr1 x0 a))) ?_; intro iP dd
    obtain ⟨f3, de⟩ := f1
    refine qx_ dd M (ridxfS u1 (fun x0 => wr1 x0 a)) f3 .i64 37 32 ?_; intro f4 f5 f6 l iQ f7 aM f8 df
    have f9 := de l f7
    obtain rfl : f6 = ((e37My l) : List Value) := f8
    refine q1 df 92 (.pointer (some ⟨f4, f5 + 1, none⟩)) ?_; intro iR bI
    refine qz_ bI aM 1 (i6 l.Num) rfl ?_; intro iS dg
    refine q1 dg 94 (.slice ao4 u1.length cap5) ?_; intro iT dh
    refine q1 dh 95 (i6 (ridxfS u1 (fun x0 => wr1 x0 a))) ?_; intro iU di
    obtain ⟨ga, dj⟩ := f9
    refine qx_ di M (ridxfS u1 (fun x0 => wr1 x0 a)) ga .i64 37 32 ?_; intro gb gc gd n iV ge aN gf dk
    have gg := dj n ge
    obtain rfl : gd = ((e37My n) : List Value) := gf
    refine q1 dk 97 (.pointer (some ⟨gb, gc + 2, none⟩)) ?_; intro iW bJ
    refine qz_ bJ aN 2 (i6 n.Den) rfl ?_; intro iX dl
    obtain ⟨gh, bc⟩ := gg
    refine qcl dl (.tuple #[i6 (rawS a l.Num n.Den).1, i6 (rawS a l.Num n.Den).2]) 18 #[.agg (e46My a).toArray, i6 l.Num, i6 n.Den] (nog rfl _) rfl (by kernel_rfl) (fun _ => by kernel_rfl) (qfc fun w hC => runm_fun a l.Num n.Den gh _ _ hC.fz) ?_; intro iY dm
    refine q1 dm 87 (.tuple #[i6 (rawS a l.Num n.Den).1, i6 (rawS a l.Num n.Den).2]) ?_; intro iZ dn
    refine q1 dn 100 (i6 (rawS a l.Num n.Den).1) ?_; intro i0 dp
    refine q1 dp 101 (i6 (rawS a l.Num n.Den).2) ?_; intro i1 dq
    refine q1 dq 16 (i6 (rawS a l.Num n.Den).1) ?_; intro i2 dr
    refine q1 dr 17 (i6 (rawS a l.Num n.Den).2) ?_; intro i3 ds
    refine qnl (da _ ?_); intro i4 R
    refine s_ (sqB ds R [] [] [(103, .bool ((rawS a l.Num n.Den).2 != 0))] ?_); intro i5 aO
    refine c_ aO bc (fun _ gi => ?_) fun _ gl => ?_
    ·
     refine sqH ?_; intro gj dt
     refine bt aO R 2 [] [] [(104, .agg #[i6 0, .bool false, .bool false, .bool false, i6 0, .slice none 0 0]), (105, i6 (rawS a l.Num n.Den).2)] ?_; intro i7 bL
     refine sx bL R 0 [i6 0, .bool false, .bool false, .bool false, i6 0, .slice none 0 0] 0 ?_; intro gk du
     refine s1 bL 5 (i6 (rawS a l.Num n.Den).2) ?_; intro i8 dv
     have dw : Mem w.heap.size [] w Z [.row c [i6 0, .bool false, .bool false, .bool false, i6 0, .slice none 0 0] 27, .row d (e24My u0 ao1 cap2) 24] aJ gk := du
     apply dt
     refine r_ (h_ (i_ (h_ (h_ (i_ (h_ (rt (fn := Tryz.f14) (v := .tuple #[.agg #[i6 0, .bool false, .bool false, .bool false, i6 0, .slice none 0 0], i6 (rawS a l.Num n.Den).2]) dv (re2c dv (fn := Tryz.f14) rfl (ad := ⟨c, 0, none⟩) (by kernel_rfl) (loadVar_run dw 0 (b := c) (k := 6) (vs := [i6 0, .bool false, .bool false, .bool false, i6 0, .slice none 0 0]) (ty := 27) rfl (by kernel_rfl) (by kernel_rfl)) (by kernel_rfl)) ?_)))))))
     exact ⟨((⟨0, false, false, false, 0, []⟩ : Frame), (rawS a l.Num n.Den).2), none, 0, aJ, rfl, gi, (SlR.nil _ _), dw.kp⟩
    refine k_ (sqH ?_); intro gm dx
    refine z2 aO R 106 ak 0 9 (e46My a) rfl ?_; intro i9 dy
    refine bt dy R 2 [] [] [(107, .slice H u.length I), (108, i6 (rawS a l.Num n.Den).1)] ?_; intro ja dz
    obtain ⟨gn, dA⟩ := gl
    refine ck dz 19 #[.agg (e46My a).toArray, .slice H u.length I, i6 (rawS a l.Num n.Den).1] ?_
    refine (rsetraw_fun a u (rawS a l.Num n.Den).1 gn H I _ _ J R.fz).mono ?_; rintro _ dB ⟨bM, bN, go, rfl, hm⟩; refine ⟨_, rfl, ?_⟩; intro jb dC; have dD := R.callZ hm; have C := hm.ext.le
    replace aa := aa.mono C
    have bO : Mem w.heap.size [] w Z [.own t8 5 bM bN (putS a u (rawS a l.Num n.Den).1), .row c [i6 0, .bool false, .bool false, .bool false, i6 0, .slice none 0 0] 27, .row d (e24My u0 ao1 cap2) 24] go dB := dD
    have gp := dA (bO.ownSmall 0 rfl)
    refine s1 dC 6 (.slice bM (putS a u (rawS a l.Num n.Den).1).length bN) ?_; intro jc dE
    apply dx
    refine rgB dE bO [] [] [(11, i6 (w64 (P + 1)))] ?_; intro jd gq
    refine j_ (d_ ?_)
    obtain ⟨dF, D, dG, gr⟩ := bO.freeze 0 rfl
    replace aa := aa.mono D
    have gs : Mem w.heap.size [] w Z [.row c [i6 0, .bool false, .bool false, .bool false, i6 0, .slice none 0 0] 27, .row d (e24My u0 ao1 cap2) 24] dF dB := dG
    exact cN (putS a u (rawS a l.Num n.Den).1) (w64 (P + 1)) bM bN dF ⟨gp, gr, aa⟩ _ _ ((gq.reg).anyβ _ (by kernel_rfl)) (gs.kp)
   exact x_ (y_ (y_ (z_ (d_ (fi u P H I aw ⟨gt, J, Y⟩ _ _ ((a5.reg).anyβ _ (by kernel_rfl)) (cJ.kp))))))
  have ab := Fz.le.refl Z
  refine c_ cq aV (fun _ gu => ?_) fun _ g1 => ?_
  ·
   have dH : Fr 124 [] [⟨1, [], .slice ao4 u1.length cap5⟩, ⟨2, [], pt d 0⟩, ⟨4, [], pt c 0⟩, ⟨6, [], .slice (sm h) (List.replicate u0.Size.toNat (0 : Int)).length u0.Size.toNat⟩, ⟨11, [], i6 0⟩] bq := cq.reg
   refine rgF mixed af [0, 1, 2, 3, 7, 8, 9, 10, 12, 13, 14, 15, 16, 4, 5, 11, 17] [19, 20, 21] [6, 18] [2] [.row d (e24My u0 ao1 cap2) 24] ?_
   intro gv dI gw dJ
   have E := Fz.le.refl Z
   refine cS dH 13 [0, 0, 0, 0, 0, 0] [] [(50, .slice ao1 u0.Signals.length cap2), (52, i6 u0.Chooser), (57, .slice ao1 u0.Signals.length cap2), (59, i6 u0.Chooser), (62, .slice ao1 u0.Signals.length cap2), (65, i6 (w64 (u0.Chooser + 1)))] ?_; intro je dK
   obtain ⟨gx, dL⟩ := gu
   refine cix rfl dK (T := tySignal) (xs := u0.Signals) hs3 u0.Chooser gx (k := .i64) (e := 46) (bytes := 72) (nog rfl _) rfl (by kernel_rfl) rfl (by kernel_rfl) (by kernel_rfl) (by kernel_rfl) ?_; intro jf jg gy f jh gz al gA bQ
   have gB := dL f gz
   obtain rfl : gy = ((e46My f) : List Value) := gA
   refine cst rfl bQ (.agg (e46My f).toArray) (nog rfl _) rfl (by kernel_rfl) (fun v466 hC => lza bQ hC.fz al 0 (g := []) (m := 9) (vs := (e46My f)) rfl (by kernel_rfl) (by kernel_rfl) (by kernel_rfl) (by kernel_rfl) rfl) ?_; intro ji dM
   obtain ⟨gC, gD⟩ := gB
   refine cslH rfl dM (T := tySignal) (xs := u0.Signals) hs3 u0.Chooser gC (k' := .i64) (e := 46) (bytes := 72) (nog rfl _) rfl (by kernel_rfl) rfl (by kernel_rfl) (by kernel_rfl) (by kernel_rfl) ?_; intro dN dO jj jk am dP
   obtain ⟨gE, gF⟩ := gD
   refine cslL rfl dP (T := tySignal) (xs := u0.Signals) hs3 (w64 (u0.Chooser + 1)) gE (k := .i64) (e := 46) (bytes := 72) (nog rfl _) rfl (by kernel_rfl) rfl (by kernel_rfl) (by kernel_rfl) (by kernel_rfl) ?_; intro dQ dR jl jm an dS
   refine nS ⟨[⟨6, 55, fun b => .slice (sm b) 1 1, (e46My f), 46⟩, ⟨18, 67, fun b => .slice (sm b) 2 2, [.slice dN (u0.Signals.take u0.Chooser.toNat).length dO, .slice dQ (u0.Signals.drop (w64 (u0.Chooser + 1)).toNat).length dR], 22⟩], rfl, ?_⟩; intro gG gH gI
   have dT : Mem w.heap.size [] w Z ((.own t8 5 (sm h) u0.Size.toNat (List.replicate u0.Size.toNat (0 : Int))) :: (.row c [i6 0, .bool false, .bool false, .bool false, i6 0, .slice none 0 0] 27) :: (.row d (e24My u0 ao1 cap2) 24) :: (rowsF gG ++ [])) Z gw := by rw [gI]; exact dJ
   refine tkF 1 3 [2] [] gH dS dT E (fO (fO fN)) ?_; intro bR jn jo jp gJ dU dV
   refine eF 4 [3] [] gJ dU dV E (fO fN) ?_; intro bS jq dW gK dX dY gL dZ
   have gM : Mem w.heap.size [] w Z ((.own (tySl tySignal) 22 (sm bR) 2 ([u0.Signals.take u0.Chooser.toNat, u0.Signals.drop (w64 (u0.Chooser + 1)).toNat] : List (List Signal))) :: (.own t8 5 (sm h) u0.Size.toNat (List.replicate u0.Size.toNat (0 : Int))) :: (.row c [i6 0, .bool false, .bool false, .bool false, i6 0, .slice none 0 0] 27) :: (.row d (e24My u0 ao1 cap2) 24) :: (rowsF bS ++ [])) Z dW := dY.rowOwn (T := (tySl tySignal)) (xs := ([u0.Signals.take u0.Chooser.toNat, u0.Signals.drop (w64 (u0.Chooser + 1)).toNat] : List (List Signal))) 0 rfl (by decide) (by show 2 ≤ lim; decide) ((RepAll.one (T := (tySl tySignal)) (x := u0.Signals.take u0.Chooser.toNat) ⟨dN, dO, rfl, am⟩).append (RepAll.one (T := (tySl tySignal)) (x := u0.Signals.drop (w64 (u0.Chooser + 1)).toNat) ⟨dQ, dR, rfl, an⟩))
   obtain ⟨gN, ac, d0, aP⟩ := gM.freeze 0 rfl
   replace ab := ab.mono ac
   replace E := E.mono ac
   have bT : Mem w.heap.size [] w Z ((.own t8 5 (sm h) u0.Size.toNat (List.replicate u0.Size.toNat (0 : Int))) :: (.row c [i6 0, .bool false, .bool false, .bool false, i6 0, .slice none 0 0] 27) :: (.row d (e24My u0 ao1 cap2) 24) :: (rowsF bS ++ [])) gN dW := d0
   obtain ⟨gO, gP⟩ := gF
   refine ck dX 38 #[.slice (sm bR) ([u0.Signals.take u0.Chooser.toNat, u0.Signals.drop (w64 (u0.Chooser + 1)).toNat] : List (List Signal)).length 2] ?_
   refine (sconcat_fun ([u0.Signals.take u0.Chooser.toNat, u0.Signals.drop (w64 (u0.Chooser + 1)).toNat] : List (List Signal)) gO (sm bR) 2 _ _ aP bT.fz).mono ?_; rintro _ gQ ⟨az, aA, bd, rfl, hm⟩; refine ⟨_, rfl, ?_⟩; intro jr d1; have d2 := bT.callZ hm; have S := hm.ext.le
   replace ab := ab.mono S
   replace E := E.mono S
   have bU : Mem w.heap.size [] w Z ((.own tySignal 46 az aA (sconcatS ([u0.Signals.take u0.Chooser.toNat, u0.Signals.drop (w64 (u0.Chooser + 1)).toNat] : List (List Signal)))) :: (.own t8 5 (sm h) u0.Size.toNat (List.replicate u0.Size.toNat (0 : Int))) :: (.row c [i6 0, .bool false, .bool false, .bool false, i6 0, .slice none 0 0] 27) :: (.row d (e24My u0 ao1 cap2) 24) :: (rowsF bS ++ [])) bd gQ := d2
   refine nl (qnI (dZ _ _ (fun _ => bU.cst E [3]) ?_))
   refine tkF 0 4 [3] [] gK d1 bU E (fO fN) ?_; intro d3 js jt ju d4 d5 d6
   obtain rfl := nilF d4
   refine eF 5 [4] [] d4 d5 d6 E fN ?_; intro jv jw gR d7 d8 d9 gS ea
   obtain rfl := nilF d7
   have bV : Mem w.heap.size [] w Z [.own tySignal 46 (sm d3) 1 ([f] : List Signal), .own tySignal 46 az aA (sconcatS ([u0.Signals.take u0.Chooser.toNat, u0.Signals.drop (w64 (u0.Chooser + 1)).toNat] : List (List Signal))), .own t8 5 (sm h) u0.Size.toNat (List.replicate u0.Size.toNat (0 : Int)), .row c [i6 0, .bool false, .bool false, .bool false, i6 0, .slice none 0 0] 27, .row d (e24My u0 ao1 cap2) 24] bd gR := d9.rowOwn (T := tySignal) (xs := ([f] : List Signal)) 0 rfl (by decide) (by show 1 ≤ lim; decide) (RepAll.one (T := tySignal) (x := f) rfl)
   obtain ⟨gT, gU⟩ := gP
   refine ap d8 bV 0 (T := tySignal) (xs := ([f] : List Signal)) (ys := (sconcatS ([u0.Signals.take u0.Chooser.toNat, u0.Signals.drop (w64 (u0.Chooser + 1)).toNat] : List (List Signal)))) (ao := (sm d3)) (cap := 1) (ao2 := az) (cap2 := aA) (t := 22) (e := 46) (bytes := 72) (nog rfl _) rfl (by kernel_rfl) rfl (by kernel_rfl) (by kernel_rfl) (by kernel_rfl) rfl (Src.own bV 1 rfl) gT ?_; intro be bf jx gV jy eb ec
   have bW : Mem w.heap.size [] w Z [.own tySignal 46 be bf (([f] : List Signal) ++ (sconcatS ([u0.Signals.take u0.Chooser.toNat, u0.Signals.drop (w64 (u0.Chooser + 1)).toNat] : List (List Signal)))), .own tySignal 46 az aA (sconcatS ([u0.Signals.take u0.Chooser.toNat, u0.Signals.drop (w64 (u0.Chooser + 1)).toNat] : List (List Signal))), .own t8 5 (sm h) u0.Size.toNat (List.replicate u0.Size.toNat (0 : Int)), .row c [i6 0, .bool false, .bool false, .bool false, i6 0, .slice none 0 0] 27, .row d (e24My u0 ao1 cap2) 24] bd gV := ec
   refine nl (qnI (ea _ _ (fun _ => bW.cst E [4]) ?_))
   refine eF 5 [4] [] d7 eb bW E fN ?_; intro jz jA ed ee ef bX gW eg
   obtain rfl := nilF ee
   refine s1 ef 12 (.slice be (([f] : List Signal) ++ (sconcatS ([u0.Signals.take u0.Chooser.toNat, u0.Signals.drop (w64 (u0.Chooser + 1)).toNat] : List (List Signal)))).length bf) ?_; intro jB gX
   refine nl (qnI (eg _ _ (fun _ => bX.cst E [4]) ?_))
   have gY : Mem w.heap.size [] w Z [.own tySignal 46 be bf (([f] : List Signal) ++ (sconcatS ([u0.Signals.take u0.Chooser.toNat, u0.Signals.drop (w64 (u0.Chooser + 1)).toNat] : List (List Signal)))), .own tySignal 46 az aA (sconcatS ([u0.Signals.take u0.Chooser.toNat, u0.Signals.drop (w64 (u0.Chooser + 1)).toNat] : List (List Signal))), .own t8 5 (sm h) u0.Size.toNat (List.replicate u0.Size.toNat (0 : Int)), .row c [i6 0, .bool false, .bool false, .bool false, i6 0, .slice none 0 0] 27, .row d (e24My u0 ao1 cap2) 24] bd ed := bX
   refine nF ee (dI _ _ ?_)
   apply d_
   obtain ⟨eh, ae, ei, gZ⟩ := gY.freeze 0 rfl
   replace ab := ab.mono ae
   have g0 : Mem w.heap.size [] w Z [.own tySignal 46 az aA (sconcatS ([u0.Signals.take u0.Chooser.toNat, u0.Signals.drop (w64 (u0.Chooser + 1)).toNat] : List (List Signal))), .own t8 5 (sm h) u0.Size.toNat (List.replicate u0.Size.toNat (0 : Int)), .row c [i6 0, .bool false, .bool false, .bool false, i6 0, .slice none 0 0] 27, .row d (e24My u0 ao1 cap2) 24] eh ed := ei
   exact cr (([f] : List Signal) ++ (sconcatS ([u0.Signals.take u0.Chooser.toNat, u0.Signals.drop (w64 (u0.Chooser + 1)).toNat] : List (List Signal)))) be bf eh ⟨gU, gZ, ab⟩ _ _ ((gX.reg).anyβ _ (by kernel_rfl)) (g0.kp)
  exact l_ (d_ (cr u0.Signals ao1 cap2 Z ⟨g1, hs3, ab⟩ _ _ ((cq.reg).anyβ _ (by kernel_rfl)) (af.kp)))
 apply b_
 have ej : Fr 124 [] [⟨1, [], .slice ao4 u1.length cap5⟩, ⟨2, [], pt d 0⟩, ⟨4, [], pt c 0⟩, ⟨6, [], .slice (sm h) (List.replicate u0.Size.toNat (0 : Int)).length u0.Size.toNat⟩, ⟨21, [], .slice ao4 u1.length cap5⟩, ⟨22, [], i6 (u1.length : Int)⟩, ⟨23, [], i6 0⟩] aU := cl.reg
 obtain ⟨g2, g3, g4, g5⟩ := e4
 refine lp (ι := Int) (fun s => [⟨1, [], .slice ao4 u1.length cap5⟩, ⟨2, [], pt d 0⟩, ⟨4, [], pt c 0⟩, ⟨6, [], .slice (sm h) (List.replicate u0.Size.toNat (0 : Int)).length u0.Size.toNat⟩, ⟨21, [], .slice ao4 u1.length cap5⟩, ⟨22, [], i6 (u1.length : Int)⟩, ⟨23, [], i6 s⟩]) (fun s => [.own t8 5 (sm h) u0.Size.toNat (List.replicate u0.Size.toNat (0 : Int)), .row c [i6 0, .bool false, .bool false, .bool false, i6 0, .slice none 0 0] 27, .row d (e24My u0 ao1 cap2) 24]) (fun s => Z) (fun s => g2 s) (fun s => g3 s) 0 g4 (by exact ej.reg) (by exact aT) ?_
 rintro j g6 g7 g8 el em
 have bg := g5 j g6
 refine sqB el em [] [] [(24, .bool (decide (j < (u1.length : Int))))] ?_; intro eo bh
 refine s_ (c_ bh bg (fun _ g9 => ?_) fun _ hP => ?_)
 ·
  apply k_
  have ep : Fr 124 [] [⟨1, [], .slice ao4 u1.length cap5⟩, ⟨2, [], pt d 0⟩, ⟨4, [], pt c 0⟩, ⟨6, [], .slice (sm h) (List.replicate u0.Size.toNat (0 : Int)).length u0.Size.toNat⟩, ⟨21, [], .slice ao4 u1.length cap5⟩, ⟨22, [], i6 (u1.length : Int)⟩, ⟨23, [], i6 j⟩] eo := bh.reg
  obtain ⟨ha, hb, hc⟩ := g9
  refine wp_seq_k fun KJ584 hKJ585 => ?_
  have hd : ∀ (_u : Unit), ha → ∀ a1 w1, Fr 124 [] [⟨1, [], .slice ao4 u1.length cap5⟩, ⟨2, [], pt d 0⟩, ⟨4, [], pt c 0⟩, ⟨6, [], .slice (sm h) (List.replicate u0.Size.toNat (0 : Int)).length u0.Size.toNat⟩, ⟨21, [], .slice ao4 u1.length cap5⟩, ⟨22, [], i6 (u1.length : Int)⟩, ⟨23, [], i6 j⟩] a1 → Mem w.heap.size [] w Z [.own t8 5 (sm h) u0.Size.toNat (List.replicate u0.Size.toNat (0 : Int)), .row c [i6 0, .bool false, .bool false, .bool false, i6 0, .slice none 0 0] 27, .row d (e24My u0 ao1 cap2) 24] Z w1 → KJ584 a1 w1 := by
   rintro _u he jC jD eq er
   refine hKJ585 _ _ ?_
   have es := hc  he
   refine rgB eq er [] [] [(23, i6 (w64 (j + 1)))] ?_; intro jE hf
   exact d_ ⟨w64 (j + 1), es.1, es.2, (hf.reg).anyβ _ (by kernel_rfl), er.kp⟩
  refine b_ (sqH ?_); intro hg et
  refine s1 ep 25 (i6 j) ?_; intro jF eu
  obtain ⟨hh, ev⟩ := hb
  refine ix_ eu hs6 j hh .i64 37 32 ?_; intro jG jH hi o jI hj hk hl ew
  have hn := ev o hj
  obtain rfl : hi = ((e37My o) : List Value) := hl
  refine z2 ew em 27 hk 0 3 (e37My o) rfl ?_; intro jJ ex
  refine nw ex em pb [str [], i6 0, i6 0] 37 ?_; intro U jK jL ey ez
  refine s1 ey 7 (i6 j) ?_; intro jM b0
  refine sx b0 ez 0 (e37My o) 0 ?_; intro ho eA
  have bi : Mem w.heap.size [] w Z [.row U (e37My o) 37, .own t8 5 (sm h) u0.Size.toNat (List.replicate u0.Size.toNat (0 : Int)), .row c [i6 0, .bool false, .bool false, .bool false, i6 0, .slice none 0 0] 27, .row d (e24My u0 ao1 cap2) 24] Z ho := eA
  apply et
  refine sqH ?_; intro hq eB
  refine bt b0 bi 2 [] [] [(28, .slice ao4 u1.length cap5), (29, i6 j)] ?_; intro jN eC
  obtain ⟨hr, hs⟩ := hn
  refine slH eC (T := tyReading) (xs := u1) hs6 j hr (k' := .i64) (e := 37) (bytes := 32) (nog rfl _) rfl (by kernel_rfl) rfl (by kernel_rfl) (by kernel_rfl) (by kernel_rfl) ?_; intro bj bk jO jP ht eD
  refine bt eD bi 2 [] [] [(31, i6 ((u1.take j.toNat).length : Int)), (32, i6 0)] ?_; intro eE eG
  apply eB
  apply b_
  have eH : Fr 124 [] [⟨1, [], .slice ao4 u1.length cap5⟩, ⟨2, [], pt d 0⟩, ⟨4, [], pt c 0⟩, ⟨6, [], .slice (sm h) (List.replicate u0.Size.toNat (0 : Int)).length u0.Size.toNat⟩, ⟨8, [], pt U 0⟩, ⟨21, [], .slice ao4 u1.length cap5⟩, ⟨22, [], i6 (u1.length : Int)⟩, ⟨23, [], i6 j⟩, ⟨30, [], .slice bj (u1.take j.toNat).length bk⟩, ⟨31, [], i6 ((u1.take j.toNat).length : Int)⟩, ⟨32, [], i6 0⟩] eE := eG.reg
  obtain ⟨hu, hv, hw, hx⟩ := hs
  refine lp (ι := Int) (fun s => [⟨1, [], .slice ao4 u1.length cap5⟩, ⟨2, [], pt d 0⟩, ⟨4, [], pt c 0⟩, ⟨6, [], .slice (sm h) (List.replicate u0.Size.toNat (0 : Int)).length u0.Size.toNat⟩, ⟨8, [], pt U 0⟩, ⟨21, [], .slice ao4 u1.length cap5⟩, ⟨22, [], i6 (u1.length : Int)⟩, ⟨23, [], i6 j⟩, ⟨30, [], .slice bj (u1.take j.toNat).length bk⟩, ⟨31, [], i6 ((u1.take j.toNat).length : Int)⟩, ⟨32, [], i6 s⟩]) (fun s => [.row U (e37My o) 37, .own t8 5 (sm h) u0.Size.toNat (List.replicate u0.Size.toNat (0 : Int)), .row c [i6 0, .bool false, .bool false, .bool false, i6 0, .slice none 0 0] 27, .row d (e24My u0 ao1 cap2) 24]) (fun s => Z) (fun s => hu s) (fun s => hv s) 0 hw (by exact eH.reg) (by exact bi) ?_
  rintro aq hy hz hA eJ eK
  have bl := hx aq hy
  refine sqB eJ eK [] [] [(33, .bool (decide (aq < ((u1.take j.toNat).length : Int))))] ?_; intro jQ bm
  refine s_ (c_ bm bl (fun _ hB => ?_) fun _ hO => ?_)
  ·
   refine k_ (s_ (b_ (sqH ?_))); intro hD eM
   obtain ⟨hE, eN⟩ := hB
   refine ix_ bm ht aq hE .i64 37 32 ?_; intro jR jS hF q jT hG hH hI eO
   have bn := eN q hG
   obtain rfl : hF = ((e37My q) : List Value) := hI
   refine z2 eO eK 35 hH 0 3 (e37My q) rfl ?_; intro jU eP
   refine nw eP eK pb [str [], i6 0, i6 0] 37 ?_; intro eQ jV jW b2 eR
   refine sx b2 eR 0 (e37My q) 0 ?_; intro hJ eS
   have aR : Mem w.heap.size [] w Z [.row eQ (e37My q) 37, .row U (e37My o) 37, .own t8 5 (sm h) u0.Size.toNat (List.replicate u0.Size.toNat (0 : Int)), .row c [i6 0, .bool false, .bool false, .bool false, i6 0, .slice none 0 0] 27, .row d (e24My u0 ao1 cap2) 24] Z hJ := eS
   apply eM
   refine sqB b2 aR [0, 1] [164] [(40, .bool (q.Name == o.Name))] ?_; intro jX aS
   refine c_ aS bn (fun _ hK => ?_) fun _ eX => ?_
   ·
    refine sqH ?_; intro hL eT
    refine s1 aS 41 (.agg #[i6 0, .bool false, .bool false, .bool false, i6 0, .slice none 0 0]) ?_; intro jY b4
    refine sx b4 aR 3 [i6 0, .bool false, .bool false, .bool false, i6 0, .slice none 0 0] 0 ?_; intro hM eU
    refine s1 b4 5 (i6 9) ?_; intro jZ eV
    have eW : Mem w.heap.size [] w Z [.row eQ (e37My q) 37, .row U (e37My o) 37, .own t8 5 (sm h) u0.Size.toNat (List.replicate u0.Size.toNat (0 : Int)), .row c [i6 0, .bool false, .bool false, .bool false, i6 0, .slice none 0 0] 27, .row d (e24My u0 ao1 cap2) 24] Z hM := eU
    apply eT
    refine r_ (i_ (h_ (h_ (i_ (i_ (h_ (h_ (i_ (h_ (rt (fn := Tryz.f14) (v := .tuple #[.agg #[i6 0, .bool false, .bool false, .bool false, i6 0, .slice none 0 0], i6 9]) eV (re2c eV (fn := Tryz.f14) rfl (ad := ⟨c, 0, none⟩) (by kernel_rfl) (loadVar_run eW 3 (b := c) (k := 6) (vs := [i6 0, .bool false, .bool false, .bool false, i6 0, .slice none 0 0]) (ty := 27) rfl (by kernel_rfl) (by kernel_rfl)) (by kernel_rfl)) ?_))))))))))
    exact ⟨((⟨0, false, false, false, 0, []⟩ : Frame), 9), none, 0, Z, rfl, hK, (SlR.nil _ _), eW.kp⟩
   refine l_ (j_ (t_ (rgB aS aR [] [] [(32, i6 (w64 (aq + 1)))] ?_))); intro j0 hN
   exact d_ ⟨w64 (aq + 1), eX.1, eX.2, (hN.reg).anyβ _ (by kernel_rfl), aR.kp⟩
  exact x_ (y_ (y_ (z_ (j_ (d_ (hd () hO _ _ ((bm.reg).anyβ _ (by kernel_rfl)) (eK.kp)))))))
 exact x_ (y_ (y_ (z_ (d_ (e6 () hP _ _ ((bh.reg).anyβ _ (by kernel_rfl)) (em.kp))))))
end Go.Proofs.YtdndfbamhnchfaaGreatDoor
set_option linter.unusedVariables false
set_option linter.unusedSimpArgs false
set_option linter.defProp false
set_option maxRecDepth 100000
set_option maxHeartbeats 0
namespace Go.Proofs.YtdndfbamhnchfaaGreatDoor
open Go.Sy Go.RowKit
abbrev e27Mz (X : Frame) (A0 : Option Addr) (C0 : Nat) : List Value := [i6 X.ID, .bool X.Long, .bool X.Fast, .bool X.Remote, i6 X.Size, .slice A0 X.Data.length C0]
abbrev e24Mz (X : Message) (A0 : Option Addr) (C0 : Nat) : List Value := [i6 X.ID, .bool X.Long, str X.Name, i6 X.Size, i6 X.Chooser, .slice A0 X.Signals.length C0]
def lwritten_fun (u0 : Message) (u1 : List Reading) (hpre : mcheckS u0 = 0) (ao1 : Option Addr) (cap2 : Nat) (ao4 : Option Addr) (cap5 : Nat) (Z : Fz) (w : World) (hs3 : SlR tySignal Z ao1 cap2 u0.Signals) (hs6 : SlR tyReading Z ao4 cap5 u1) (hZ : Z.on w) := fc_ (lwritten_walk u0 u1 ao1 cap2 ao4 cap5 Z w hs3 hs6 hZ (lwritten_ok u0 u1 hpre))
theorem LMWrite_walk (u0 : Message) (u1 : List Reading) (ao1 : Option Addr) (cap2 : Nat) (ao4 : Option Addr) (cap5 : Nat) (Z : Fz) (w : World) (hs3 : SlR tySignal Z ao1 cap2 u0.Signals) (hs6 : SlR tyReading Z ao4 cap5 u1) (hZ : Z.on w) {K : Bool → Prop} (hp : LMWrite_vc u0 u1 K) : Calls Tryz.prog 4 #[.agg #[i6 u0.ID, .bool u0.Long, str u0.Name, i6 u0.Size, i6 u0.Chooser, .slice ao1 u0.Signals.length cap2], .slice ao4 u1.length cap5] w fun e w' => ∃ r : Bool, e = .returned (.bool r) ∧ K r ∧ Below w.heap.size w w' := by
 refine enter0 Tryz.func4 rfl rfl (by kernel_rfl) ?_; intro a0 P; have Q := Mem.start w Z hZ
 have S := hp (hs3.small) (hs6.small)
 refine sqH ?_; intro aO T
 refine nw P Q pb (e24Mz u0 ao1 cap2) 24 ?_; intro p a8 a9 U q
 refine s1 U 4 (.bool false) ?_; intro ba V
 apply T
 refine sqH ?_; intro aP W
 refine bt V q 2 [0] [] [(11, .agg (e24Mz u0 ao1 cap2).toArray), (12, .slice ao4 u1.length cap5)] ?_; intro bb X
 refine ck X 12 #[.agg (e24Mz u0 ao1 cap2).toArray, .slice ao4 u1.length cap5] ?_
 refine (mwrite_fun u0 u1 ao1 cap2 ao4 cap5 _ _ hs3 hs6 q.fz).mono ?_; rintro _ aQ ⟨a, c, Y, rfl, i, hm⟩; refine ⟨_, rfl, ?_⟩; intro bc aa; have ab := q.callZ hm; have C := hm.ext.le
 replace hs3 := hs3.mono C
 replace hs6 := hs6.mono C
 have D : Mem w.heap.size [] w Z [.row p (e24Mz u0 ao1 cap2) 24] Y aQ := ab
 have s := S (i.small)
 refine bt aa D 3 [] [] [(14, .agg (e27Mz ((writeS u0 u1).1) a c).toArray), (15, i6 (writeS u0 u1).2)] ?_; intro bd ac
 refine nw ac D pb [i6 0, .bool false, .bool false, .bool false, i6 0, .slice none 0 0] 27 ?_; intro j be bf E ad
 refine sx E ad 0 (e27Mz ((writeS u0 u1).1) a c) 0 ?_; intro aR ae
 refine s1 E 6 (i6 (writeS u0 u1).2) ?_; intro bg af
 have u : Mem w.heap.size [] w Z [.row j (e27Mz ((writeS u0 u1).1) a c) 27, .row p (e24Mz u0 ao1 cap2) 24] Y aR := ae
 apply W
 refine s_ (sqH ?_); intro aS ag
 refine l2 af u 16 1 0 6 (e24Mz u0 ao1 cap2) rfl rfl ?_; intro bh ah
 refine fc ah u (rcheckm_fun u0 ao1 cap2 _ _ hs3 u.fz) ?_; intro bi bk ai F
 refine s1 ai 7 (i6 (mcheckS u0)) ?_; intro bl aj
 apply ag
 refine sqH ?_; intro aT ak
 refine fc aj F (meant_fun  _ _ F.fz) ?_; intro bm bn al d
 refine bt al d 5 [] [21, 22, 23] [(23, .bool ((mcheckS u0) != 0))] ?_; intro bo l
 apply ak
 refine cd l (t := (mcheckS u0) != 0) (by kernel_rfl) (fun G => ?_) (fun G => ?_)
 · -- yes
  have aU := s.1 G
  refine sqH ?_; intro aV am
  refine fc l d (meant_fun  _ _ d.fz) ?_; intro bp bq an x
  refine s1 an 25 (.bool true) ?_; intro br y
  refine g_ y true (i6 (writeS u0 u1).2) ?_; intro bs z
  refine g_ z true (i6 (mcheckS u0)) ?_; intro bu A
  refine g_ A true (.bool ((writeS u0 u1).2 == (mcheckS u0))) ?_; intro bv ao
  refine s1 ao 29 (.bool ((writeS u0 u1).2 == (mcheckS u0))) ?_; intro bw ap
  refine s1 ap 30 (.bool ((writeS u0 u1).2 == (mcheckS u0))) ?_; intro bx aq
  have H := aq.atom (((writeS u0 u1).2 == (mcheckS u0)) == true) (by kernel_rfl)
  refine gd H (.agg (e27Mz ((writeS u0 u1).1) a c).toArray) (m := 0) (cj := []) (bj := (writeS u0 u1).2 == (mcheckS u0)) rfl rfl (by kernel_rfl) rfl (by kernel_rfl) (by kernel_rfl) (by kernel_rfl) (fun hg => lda H x 0 (g := [0]) (b := j) (off := 0) (k := 6) (cs := (e27Mz ((writeS u0 u1).1) a c)) (vs := (e27Mz ((writeS u0 u1).1) a c)) (ty := 27) rfl (by kernel_rfl) (by kernel_rfl) (by kernel_rfl) (by kernel_rfl) (by kernel_rfl) hg) ?_; intro bz ar
  refine gcl ar x (.bool (nofrS (writeS u0 u1).1)) 13 #[.agg (e27Mz ((writeS u0 u1).1) a c).toArray] (m := 0) (cj := []) (bj := (writeS u0 u1).2 == (mcheckS u0)) rfl rfl (by kernel_rfl) rfl (by kernel_rfl) (by kernel_rfl) (by kernel_rfl) (fun _ => by kernel_rfl) (fun hg => nofr_fun (writeS u0 u1).1 a c _ _ i x.fz) ?_; intro bA bB I aW
  refine u_ I (.bool (((writeS u0 u1).2 == (mcheckS u0)) && (nofrS (writeS u0 u1).1))) (pk_and I (g := []) (m := 0) (b := (writeS u0 u1).2 == (mcheckS u0)) (v := (nofrS (writeS u0 u1).1)) rfl (by kernel_rfl) (by kernel_rfl) (by kernel_rfl) rfl) ?_; intro bC au
  refine s1 au 4 (.bool (((writeS u0 u1).2 == (mcheckS u0)) && (nofrS (writeS u0 u1).1))) ?_; intro bD aX
  apply am
  exact r_ (h_ (ra1 aX (.bool (((writeS u0 u1).2 == (mcheckS u0)) && (nofrS (writeS u0 u1).1))) ⟨((writeS u0 u1).2 == (mcheckS u0)) && (nofrS (writeS u0 u1).1), rfl, aU, aW.below⟩))
 · -- no
  have aY := s.2 G
  refine k_ (sqH ?_); intro aZ av
  refine bt l d 2 [1] [] [(35, .agg (e24Mz u0 ao1 cap2).toArray), (36, .slice ao4 u1.length cap5)] ?_; intro bE aw
  obtain ⟨a1, ax⟩ := aY
  refine ck aw 14 #[.agg (e24Mz u0 ao1 cap2).toArray, .slice ao4 u1.length cap5] ?_
  refine (lwritten_fun u0 u1 a1 ao1 cap2 ao4 cap5 _ _ hs3 hs6 d.fz).mono ?_; rintro _ a2 ⟨f, h, ay, rfl, az, hm⟩; refine ⟨_, rfl, ?_⟩; intro bF aA; have aB := d.callZ hm; have B := hm.ext.le
  replace i := i.mono B
  have J : Mem w.heap.size [] w Z [.row j (e27Mz ((writeS u0 u1).1) a c) 27, .row p (e24Mz u0 ao1 cap2) 24] ay a2 := aB
  have a3 := ax (az.small)
  refine bt aA J 3 [] [] [(38, .agg (e27Mz ((writeS u0 u1).1) f h).toArray), (39, i6 (writeS u0 u1).2)] ?_; intro bG aC
  refine nw aC J pb [i6 0, .bool false, .bool false, .bool false, i6 0, .slice none 0 0] 27 ?_; intro aD bH bI L aE
  refine sx L aE 0 (e27Mz ((writeS u0 u1).1) f h) 0 ?_; intro a4 aF
  refine s1 L 9 (i6 (writeS u0 u1).2) ?_; intro bJ aG
  have n : Mem w.heap.size [] w Z [.row aD (e27Mz ((writeS u0 u1).1) f h) 27, .row j (e27Mz ((writeS u0 u1).1) a c) 27, .row p (e24Mz u0 ao1 cap2) 24] ay a4 := aF
  apply av
  refine sqH ?_; intro a5 aH
  refine s1 aG 40 (i6 (writeS u0 u1).2) ?_; intro bK aI
  refine s1 aI 41 (i6 (writeS u0 u1).2) ?_; intro bL aJ
  refine s1 aJ 42 (.bool ((writeS u0 u1).2 == (writeS u0 u1).2)) ?_; intro bM aK
  refine s1 aK 43 (.bool ((writeS u0 u1).2 == (writeS u0 u1).2)) ?_; intro bN aL
  have M := aL.atom (((writeS u0 u1).2 == (writeS u0 u1).2) == true) (by kernel_rfl)
  refine gd M (.agg (e27Mz ((writeS u0 u1).1) a c).toArray) (m := 0) (cj := []) (bj := (writeS u0 u1).2 == (writeS u0 u1).2) rfl rfl (by kernel_rfl) rfl (by kernel_rfl) (by kernel_rfl) (by kernel_rfl) (fun hg => lda M n 1 (g := [0]) (b := j) (off := 0) (k := 6) (cs := (e27Mz ((writeS u0 u1).1) a c)) (vs := (e27Mz ((writeS u0 u1).1) a c)) (ty := 27) rfl (by kernel_rfl) (by kernel_rfl) (by kernel_rfl) (by kernel_rfl) (by kernel_rfl) hg) ?_; intro bO N
  refine gd N (.agg (e27Mz ((writeS u0 u1).1) f h).toArray) (m := 0) (cj := []) (bj := (writeS u0 u1).2 == (writeS u0 u1).2) rfl rfl (by kernel_rfl) rfl (by kernel_rfl) (by kernel_rfl) (by kernel_rfl) (fun hg => lda N n 0 (g := [0]) (b := aD) (off := 0) (k := 6) (cs := (e27Mz ((writeS u0 u1).1) f h)) (vs := (e27Mz ((writeS u0 u1).1) f h)) (ty := 27) rfl (by kernel_rfl) (by kernel_rfl) (by kernel_rfl) (by kernel_rfl) (by kernel_rfl) hg) ?_; intro bP aM
  refine gcl aM n (.bool (rsameS (writeS u0 u1).1 (writeS u0 u1).1)) 15 #[.agg (e27Mz ((writeS u0 u1).1) a c).toArray, .agg (e27Mz ((writeS u0 u1).1) f h).toArray] (m := 0) (cj := []) (bj := (writeS u0 u1).2 == (writeS u0 u1).2) rfl rfl (by kernel_rfl) rfl (by kernel_rfl) (by kernel_rfl) (by kernel_rfl) (fun _ => by kernel_rfl) (fun hg => rsame_fun (writeS u0 u1).1 (writeS u0 u1).1 a c f h _ _ i az n.fz) ?_; intro bQ bR O a6
  refine u_ O (.bool (((writeS u0 u1).2 == (writeS u0 u1).2) && (rsameS (writeS u0 u1).1 (writeS u0 u1).1))) (pk_and O (g := []) (m := 0) (b := (writeS u0 u1).2 == (writeS u0 u1).2) (v := (rsameS (writeS u0 u1).1 (writeS u0 u1).1)) rfl (by kernel_rfl) (by kernel_rfl) (by kernel_rfl) rfl) ?_; intro bS aN
  refine s1 aN 4 (.bool (((writeS u0 u1).2 == (writeS u0 u1).2) && (rsameS (writeS u0 u1).1 (writeS u0 u1).1))) ?_; intro bT a7
  apply aH
  exact r_ (ra1 a7 (.bool (((writeS u0 u1).2 == (writeS u0 u1).2) && (rsameS (writeS u0 u1).1 (writeS u0 u1).1))) ⟨((writeS u0 u1).2 == (writeS u0 u1).2) && (rsameS (writeS u0 u1).1 (writeS u0 u1).1), rfl, a3, a6.below⟩)
end Go.Proofs.YtdndfbamhnchfaaGreatDoor
