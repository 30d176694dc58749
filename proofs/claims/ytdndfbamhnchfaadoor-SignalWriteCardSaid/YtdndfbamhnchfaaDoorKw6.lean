/- Texts put together (pure ones, or walks made by program). -/
import Derived.Test.YtdndfbamhnchfaaDoorKw0
import Derived.Test.YtdndfbamhnchfaaDoorKw1
import Derived.Test.YtdndfbamhnchfaaDoorKw2
import Derived.Test.YtdndfbamhnchfaaDoorKw3
import Derived.Test.YtdndfbamhnchfaaDoorKw4
import Derived.Test.YtdndfbamhnchfaaDoorKw5
set_option linter.unusedVariables false
set_option linter.unusedSimpArgs false
set_option maxRecDepth 100000
set_option maxHeartbeats 0
namespace Go.Proofs.YtdndfbamhnchfaaDoor
open Go.Sy Go.RowKit
abbrev e71Nf (X : BRat) (A0 : Option Addr) (C0 : Nat) (A1 : Option Addr) (C1 : Nat) : List Value := [.bool X.a.neg, .slice A0 X.a.abs.length C0, .bool X.b.neg, .slice A1 X.b.abs.length C1]
theorem rsf_fun (u0 : BRat) (u1 : BInt) (u2 : BInt) (hpre : bk u1 ∧ bk u2 ∧ iv u2 ≠ 0) (b1 : Nat) (ao2 : Option Addr) (cap3 : Nat) (ao5 : Option Addr) (cap6 : Nat) (b8 : Nat) (ao9 : Option Addr) (cap10 : Nat) (b12 : Nat) (ao13 : Option Addr) (cap14 : Nat) (B : Nat) (w0 : World) (Z0 : Fz) (Rr : List Res) (Z : Fz) (w : World) (hs4 : SlR (tyInt .u32) Z ao2 cap3 u0.a.abs) (hs7 : SlR (tyInt .u32) Z ao5 cap6 u0.b.abs) (hs11 : SlR (tyInt .u32) Z ao9 cap10 u1.abs) (hs15 : SlR (tyInt .u32) Z ao13 cap14 u2.abs) (hM0 : Mem B [] w0 Z0 ((.row b1 [.bool u0.a.neg, .slice ao2 u0.a.abs.length cap3, .bool u0.b.neg, .slice ao5 u0.b.abs.length cap6] 71) :: (.row b8 [.bool u1.neg, .slice ao9 u1.abs.length cap10] 69) :: (.row b12 [.bool u2.neg, .slice ao13 u2.abs.length cap14] 69) :: Rr) Z w) (hZ : Z.on w) : Calls Tryd.prog 75 #[pt b1 0, pt b8 0, pt b12 0] w fun e w' => ∃ (ao1001 : Option Addr) (cap1002 : Nat) (ao1004 : Option Addr) (cap1005 : Nat) (ao1007 : Option Addr) (cap1008 : Nat) (ao1010 : Option Addr) (cap1011 : Nat) (Z' : Fz), e = .returned (pt b1 0) ∧ Fz.le Z Z' ∧ SlR (tyInt .u32) Z' ao1001 cap1002 (rsfS u0 u1 u2).1.a.abs ∧ SlR (tyInt .u32) Z' ao1004 cap1005 (rsfS u0 u1 u2).1.b.abs ∧ SlR (tyInt .u32) Z' ao1007 cap1008 (rsfS u0 u1 u2).2.1.abs ∧ SlR (tyInt .u32) Z' ao1010 cap1011 (rsfS u0 u1 u2).2.2.abs ∧ Mem B [] w0 Z0 ((.row b1 [.bool (rsfS u0 u1 u2).1.a.neg, .slice ao1001 (rsfS u0 u1 u2).1.a.abs.length cap1002, .bool (rsfS u0 u1 u2).1.b.neg, .slice ao1004 (rsfS u0 u1 u2).1.b.abs.length cap1005] 71) :: (.row b8 [.bool (rsfS u0 u1 u2).2.1.neg, .slice ao1007 (rsfS u0 u1 u2).2.1.abs.length cap1008] 69) :: (.row b12 [.bool (rsfS u0 u1 u2).2.2.neg, .slice ao1010 (rsfS u0 u1 u2).2.2.abs.length cap1011] 69) :: Rr) Z' w' :=
  (rsf_walk u0 u1 u2 b1 ao2 cap3 ao5 cap6 b8 ao9 cap10 b12 ao13 cap14 B w0 Z0 Rr Z w hs4 hs7 hs11 hs15 hM0 hZ (rsf_ok u0 u1 u2 hpre)).mono fun _ _ ⟨r, h0, h1, h2, h3, h4, h5, h6, h7, h8, he, hk, f0, f1, f2, f3, f4, hm⟩ => by subst hk; exact ⟨h0, h1, h2, h3, h4, h5, h6, h7, h8, he, f0, f1, f2, f3, f4, hm⟩

theorem rsf64_walk (u0 : BRat) (u1 : Int) (u2 : Int) (b1 : Nat) (ao2 : Option Addr) (cap3 : Nat) (ao5 : Option Addr) (cap6 : Nat) (B : Nat) (w0 : World) (Z0 : Fz) (Rr : List Res) (Z : Fz) (w : World) (hs4 : SlR (tyInt .u32) Z ao2 cap3 u0.a.abs) (hs7 : SlR (tyInt .u32) Z ao5 cap6 u0.b.abs) (hM0 : Mem B [] w0 Z0 ((.row b1 [.bool u0.a.neg, .slice ao2 u0.a.abs.length cap3, .bool u0.b.neg, .slice ao5 u0.b.abs.length cap6] 71) :: Rr) Z w) (hZ : Z.on w) {K : BRat → Prop} (hp : rsf64_vc u0 u1 u2 K) : Calls Tryd.prog 39 #[pt b1 0, i6 u1, i6 u2] w fun e w' => ∃ (r : BRat) (ao1001 : Option Addr) (cap1002 : Nat) (ao1004 : Option Addr) (cap1005 : Nat) (Z' : Fz), e = .returned (pt b1 0) ∧ K r ∧ Fz.le Z Z' ∧ SlR (tyInt .u32) Z' ao1001 cap1002 r.a.abs ∧ SlR (tyInt .u32) Z' ao1004 cap1005 r.b.abs ∧ Mem B [] w0 Z0 ((.row b1 [.bool r.a.neg, .slice ao1001 r.a.abs.length cap1002, .bool r.b.neg, .slice ao1004 r.b.abs.length cap1005] 71) :: Rr) Z' w' := by
 refine enter0 Tryd.func39 rfl rfl (by kernel_rfl) ?_; intro a0 s; have d := Fz.le.refl Z
 have V := hp (hs4.small) (hs7.small)
 refine sqB s hM0 [] [] [] ?_; intro au u
 refine sqH ?_; intro W v
 refine bt u hM0 2 [] [] [(7, pt b1 0), (8, i6 u1)] ?_; intro av x
 obtain ⟨X, Y⟩ := V
 refine ck x 52 #[i6 u1] ?_
 refine (gnew_fun u1 X _ _ hM0.fz).mono ?_; rintro _ aa ⟨f, k, l, ab, rfl, g, hm⟩; refine ⟨_, rfl, ?_⟩; intro aw y; have z := hM0.callZ hm; have m := hm.ext.le
 replace hs4 := hs4.mono m
 replace hs7 := hs7.mono m
 replace d := Fz.le.trans d m
 have n : Mem B [] w0 Z0 ((.row f [.bool (bz u1).neg, .slice k (bz u1).abs.length l] 69) :: (.row b1 (e71Nf u0 ao2 cap3 ao5 cap6) 71) :: Rr) ab aa := z
 refine s1 y 10 (i6 u2) ?_; intro ax A
 obtain ⟨ac, ad⟩ := Y
 refine ck A 52 #[i6 u2] ?_
 refine (gnew_fun u2 ac _ _ n.fz).mono ?_; rintro _ ae ⟨i, C, D, af, rfl, o, hm⟩; refine ⟨_, rfl, ?_⟩; intro ay E; have F := n.callZ hm; have j := hm.ext.le
 replace hs4 := hs4.mono j
 replace hs7 := hs7.mono j
 replace g := g.mono j
 replace d := Fz.le.trans d j
 have p : Mem B [] w0 Z0 ((.row i [.bool (bz u2).neg, .slice C (bz u2).abs.length D] 69) :: (.row f [.bool (bz u1).neg, .slice k (bz u1).abs.length l] 69) :: (.row b1 (e71Nf u0 ao2 cap3 ao5 cap6) 71) :: Rr) af ae := F
 obtain ⟨ag, G⟩ := ad
 refine ck E 75 #[pt b1 0, pt f 0, pt i 0] ?_
 obtain ⟨c, ah, H⟩ := hxq G
 have q := rsf_fun u0 (bz u1) (bz u2) ag b1 ao2 cap3 ao5 cap6 f k l i C D _ _ _ _ _ _ hs4 hs7 g o (p.perm ((pk 2 rfl).trans (((pk 1 rfl).trans (lpr.cons _)).cons _))) p.fz; rw [ah] at q; refine q.mono ?_; rintro _ ai ⟨I, J, L, M, aj, ak, al, am, N, rfl, h, O, P, an, ao, hm⟩; refine ⟨_, rfl, ?_⟩; intro az Q; have R := hm
 replace d := Fz.le.trans d h
 have ap : Mem B [] w0 Z0 ((.row b1 (e71Nf c.1 I J L M) 71) :: (.row f [.bool c.2.1.neg, .slice aj c.2.1.abs.length ak] 69) :: (.row i [.bool c.2.2.neg, .slice al c.2.2.abs.length am] 69) :: Rr) N ai := R
 have aq := H (O.small) (P.small) (an.small) (ao.small)
 refine s1 Q 6 (pt b1 0) ?_; intro aA ar
 apply v
 exact r_ (ra1 ar (pt b1 0) ⟨c.1, I, J, L, M, N, rfl, aq, d, O, P, ap.kp⟩)

theorem rsi_walk (u0 : BRat) (u1 : Int) (b1 : Nat) (ao2 : Option Addr) (cap3 : Nat) (ao5 : Option Addr) (cap6 : Nat) (B : Nat) (w0 : World) (Z0 : Fz) (Rr : List Res) (Z : Fz) (w : World) (hs4 : SlR (tyInt .u32) Z ao2 cap3 u0.a.abs) (hs7 : SlR (tyInt .u32) Z ao5 cap6 u0.b.abs) (hM0 : Mem B [] w0 Z0 ((.row b1 [.bool u0.a.neg, .slice ao2 u0.a.abs.length cap3, .bool u0.b.neg, .slice ao5 u0.b.abs.length cap6] 71) :: Rr) Z w) (hZ : Z.on w) {K : BRat → Prop} (hp : rsi_vc u0 u1 K) : Calls Tryd.prog 41 #[pt b1 0, i6 u1] w fun e w' => ∃ (r : BRat) (ao1001 : Option Addr) (cap1002 : Nat) (ao1004 : Option Addr) (cap1005 : Nat) (Z' : Fz), e = .returned (pt b1 0) ∧ K r ∧ Fz.le Z Z' ∧ SlR (tyInt .u32) Z' ao1001 cap1002 r.a.abs ∧ SlR (tyInt .u32) Z' ao1004 cap1005 r.b.abs ∧ Mem B [] w0 Z0 ((.row b1 [.bool r.a.neg, .slice ao1001 r.a.abs.length cap1002, .bool r.b.neg, .slice ao1004 r.b.abs.length cap1005] 71) :: Rr) Z' w' := by
 refine enter0 Tryd.func41 rfl rfl (by kernel_rfl) ?_; intro a0 s; have d := Fz.le.refl Z
 have U := hp (hs4.small) (hs7.small)
 refine sqB s hM0 [] [] [] ?_; intro ar u
 refine sqH ?_; intro V v
 refine bt u hM0 2 [] [] [(5, pt b1 0), (6, i6 u1)] ?_; intro au x
 obtain ⟨W, X⟩ := U
 refine ck x 52 #[i6 u1] ?_
 refine (gnew_fun u1 W _ _ hM0.fz).mono ?_; rintro _ Y ⟨f, k, l, aa, rfl, g, hm⟩; refine ⟨_, rfl, ?_⟩; intro av y; have z := hM0.callZ hm; have m := hm.ext.le
 replace hs4 := hs4.mono m
 replace hs7 := hs7.mono m
 replace d := Fz.le.trans d m
 have n : Mem B [] w0 Z0 ((.row f [.bool (bz u1).neg, .slice k (bz u1).abs.length l] 69) :: (.row b1 (e71Nf u0 ao2 cap3 ao5 cap6) 71) :: Rr) aa Y := z
 obtain ⟨ab, ac⟩ := X
 refine ck y 52 #[i6 1] ?_
 refine (gnew_fun 1 ab _ _ n.fz).mono ?_; rintro _ ad ⟨i, A, C, ae, rfl, o, hm⟩; refine ⟨_, rfl, ?_⟩; intro aw D; have E := n.callZ hm; have j := hm.ext.le
 replace hs4 := hs4.mono j
 replace hs7 := hs7.mono j
 replace g := g.mono j
 replace d := Fz.le.trans d j
 have p : Mem B [] w0 Z0 ((.row i [.bool (bz 1).neg, .slice A (bz 1).abs.length C] 69) :: (.row f [.bool (bz u1).neg, .slice k (bz u1).abs.length l] 69) :: (.row b1 (e71Nf u0 ao2 cap3 ao5 cap6) 71) :: Rr) ae ad := E
 obtain ⟨af, F⟩ := ac
 refine ck D 75 #[pt b1 0, pt f 0, pt i 0] ?_
 obtain ⟨c, ag, G⟩ := hxq F
 have q := rsf_fun u0 (bz u1) (bz 1) af b1 ao2 cap3 ao5 cap6 f k l i A C _ _ _ _ _ _ hs4 hs7 g o (p.perm ((pk 2 rfl).trans (((pk 1 rfl).trans (lpr.cons _)).cons _))) p.fz; rw [ag] at q; refine q.mono ?_; rintro _ ah ⟨H, I, J, L, ai, aj, ak, al, M, rfl, h, N, O, am, an, hm⟩; refine ⟨_, rfl, ?_⟩; intro ax P; have Q := hm
 replace d := Fz.le.trans d h
 have ao : Mem B [] w0 Z0 ((.row b1 (e71Nf c.1 H I J L) 71) :: (.row f [.bool c.2.1.neg, .slice ai c.2.1.abs.length aj] 69) :: (.row i [.bool c.2.2.neg, .slice ak c.2.2.abs.length al] 69) :: Rr) M ah := Q
 have ap := G (N.small) (O.small) (am.small) (an.small)
 refine s1 P 4 (pt b1 0) ?_; intro ay aq
 apply v
 exact r_ (ra1 aq (pt b1 0) ⟨c.1, H, I, J, L, M, rfl, ap, d, N, O, ao.kp⟩)

theorem radd_walk (u0 : BRat) (u2 : BRat) (b1 : Nat) (ao2 : Option Addr) (cap3 : Nat) (ao5 : Option Addr) (cap6 : Nat) (b8 : Nat) (ao9 : Option Addr) (cap10 : Nat) (ao12 : Option Addr) (cap13 : Nat) (B : Nat) (w0 : World) (Z0 : Fz) (Rr : List Res) (Z : Fz) (w : World) (hs4 : SlR (tyInt .u32) Z ao2 cap3 u0.a.abs) (hs7 : SlR (tyInt .u32) Z ao5 cap6 u0.b.abs) (hs11 : SlR (tyInt .u32) Z ao9 cap10 u2.a.abs) (hs14 : SlR (tyInt .u32) Z ao12 cap13 u2.b.abs) (hM0 : Mem B [] w0 Z0 ((.row b1 [.bool u0.a.neg, .slice ao2 u0.a.abs.length cap3, .bool u0.b.neg, .slice ao5 u0.b.abs.length cap6] 71) :: (.row b8 [.bool u2.a.neg, .slice ao9 u2.a.abs.length cap10, .bool u2.b.neg, .slice ao12 u2.b.abs.length cap13] 71) :: Rr) Z w) (hZ : Z.on w) {K : (BRat × BRat) → Prop} (hp : radd_vc u0 u2 K) : Calls Tryd.prog 40 #[pt b1 0, pt b1 0, pt b8 0] w fun e w' => ∃ (r : BRat × BRat) (ao1001 : Option Addr) (cap1002 : Nat) (ao1004 : Option Addr) (cap1005 : Nat) (ao1007 : Option Addr) (cap1008 : Nat) (ao1010 : Option Addr) (cap1011 : Nat) (Z' : Fz), e = .returned (pt b1 0) ∧ K r ∧ Fz.le Z Z' ∧ SlR (tyInt .u32) Z' ao1001 cap1002 r.1.a.abs ∧ SlR (tyInt .u32) Z' ao1004 cap1005 r.1.b.abs ∧ SlR (tyInt .u32) Z' ao1007 cap1008 r.2.a.abs ∧ SlR (tyInt .u32) Z' ao1010 cap1011 r.2.b.abs ∧ Mem B [] w0 Z0 ((.row b1 [.bool r.1.a.neg, .slice ao1001 r.1.a.abs.length cap1002, .bool r.1.b.neg, .slice ao1004 r.1.b.abs.length cap1005] 71) :: (.row b8 [.bool r.2.a.neg, .slice ao1007 r.2.a.abs.length cap1008, .bool r.2.b.neg, .slice ao1010 r.2.b.abs.length cap1011] 71) :: Rr) Z' w' := by
 refine enter0 Tryd.func40 rfl rfl (by kernel_rfl) ?_; intro a0 dV; have k := Fz.le.refl Z
 have fh := hp (hs4.small) (hs7.small) (hs11.small) (hs14.small)
 refine sqB dV hM0 [] [] [] ?_; intro ay dZ
 have fi : Fr 33 [] [⟨0, [], pt b1 0⟩, ⟨1, [], pt b1 0⟩, ⟨2, [], pt b8 0⟩] ay := dZ.reg
 obtain ⟨fj, fk⟩ := fh
 obtain ⟨fl, fm⟩ := fk
 obtain ⟨fn, fo⟩ := fm
 obtain ⟨fp, fq⟩ := fo
 obtain ⟨fr, fs⟩ := fq
 refine wp_seq (any_invE mixed [[], [], [], [2], [3], [], [5], [1, 4, 6], [], [], [9], [10], [], [7, 12], [8, 11, 13], [0, 7, 14], [0, 1, 2, 3, 4, 5, 6, 7, 8, 9, 10, 11, 12, 13, 14, 15]] 17 (fun S a w1 => ∃ (n : Nat) (l : Nat) (ad : Option Addr) (ae : Nat) (af : Option Addr) (ag : Nat) (v : Option Addr) (x : Nat) (ah : Option Addr) (ai : Nat) (aj : Option Addr) (ak : Nat) (U : Option Addr) (V : Nat) (W : Option Addr) (X : Nat) (p : Nat) (al : Option Addr) (am : Nat) (an : Option Addr) (ao : Nat) (ap : Option Addr) (aq : Nat) (y : Option Addr) (z : Nat) (C : Option Addr) (D : Nat) (N : Option Addr) (O : Nat) (P : Option Addr) (Q : Nat) (E : Option Addr) (F : Nat) (H : Option Addr) (I : Nat) (L : Option Addr) (M : Nat) (au : Value) (az : Value) (a3 : Value) (be : Value) (ba : Value) (a4 : Value) (bb : Value) (a5 : Value) (aS : Value) (aI : Value) (a6 : Value) (aT : Value) (aJ : Value) (aU : Value) (aK : Value) (aA : Value) (aw : Value) (bk : Res) (aL : Res) (R : Res) (ar : Res) (Y : Res) (m : Fz), Fz.le Z m ∧ Fr 33 [] [⟨0, [], pt b1 0⟩, ⟨1, [], pt b1 0⟩, ⟨2, [], pt b8 0⟩, ⟨7, [], au⟩, ⟨8, [], az⟩, ⟨9, [], a3⟩, ⟨10, [], be⟩, ⟨11, [], ba⟩, ⟨12, [], a4⟩, ⟨13, [], bb⟩, ⟨14, [], a5⟩, ⟨15, [], aS⟩, ⟨16, [], aI⟩, ⟨17, [], a6⟩, ⟨18, [], aT⟩, ⟨19, [], aJ⟩, ⟨20, [], aU⟩, ⟨21, [], aK⟩, ⟨22, [], aA⟩, ⟨23, [], aw⟩] a ∧ Mem B [] w0 Z0 (bk :: aL :: R :: ar :: Y :: Rr) m w1 ∧ (S 16 = true → au = pt n 0) ∧ (S 0 = true → az = pt n 0) ∧ (S 1 = true → a3 = pt l 0) ∧ (S 2 = true → be = pt b1 0) ∧ (S 3 = true → ba = pt b1 0) ∧ (S 4 = true → a4 = pt b1 0) ∧ (S 5 = true → bb = pt b8 0) ∧ (S 6 = true → a5 = pt b8 2) ∧ (S 7 = true → aS = pt l 0) ∧ (S 8 = true → aI = pt p 0) ∧ (S 9 = true → a6 = pt b8 0) ∧ (S 10 = true → aT = pt b8 0) ∧ (S 11 = true → aJ = pt b8 0) ∧ (S 12 = true → aU = pt b1 0) ∧ (S 13 = true → aK = pt b1 2) ∧ (S 14 = true → aA = pt p 0) ∧ (S 15 = true → aw = pt n 0) ∧ (S 7 = false → bk = .row b1 (e71Nf u0 ao2 cap3 ao5 cap6) 71) ∧ (S 7 = true → S 14 = false → bk = .row b8 (e71Nf ((gmulABS (⟨false, []⟩ : BInt) u0 (rdenS u2)).2.2) U V W X) 71) ∧ (S 14 = true → bk = .row b1 (e71Nf ((gmulABS (⟨false, []⟩ : BInt) (gmulABS (⟨false, []⟩ : BInt) u0 (rdenS u2)).2.2 (rdenS (gmulABS (⟨false, []⟩ : BInt) u0 (rdenS u2)).2.1)).2.2) N O P Q) 71) ∧ (S 6 = false → aL = .row b8 (e71Nf u2 ao9 cap10 ao12 cap13) 71) ∧ (S 6 = true → S 7 = false → aL = .row b8 (e71Nf (rdenS u2) ad ae af ag) 71) ∧ (S 7 = true → S 15 = false → aL = .row l [.bool (gmulABS (⟨false, []⟩ : BInt) u0 (rdenS u2)).1.neg, .slice v (gmulABS (⟨false, []⟩ : BInt) u0 (rdenS u2)).1.abs.length x] 69) ∧ (S 15 = true → aL = .row l [.bool (gaddIS (⟨false, []⟩ : BInt) (gmulABS (⟨false, []⟩ : BInt) u0 (rdenS u2)).1 (gmulABS (⟨false, []⟩ : BInt) (gmulABS (⟨false, []⟩ : BInt) u0 (rdenS u2)).2.2 (rdenS (gmulABS (⟨false, []⟩ : BInt) u0 (rdenS u2)).2.1)).1).2.1.neg, .slice H (gaddIS (⟨false, []⟩ : BInt) (gmulABS (⟨false, []⟩ : BInt) u0 (rdenS u2)).1 (gmulABS (⟨false, []⟩ : BInt) (gmulABS (⟨false, []⟩ : BInt) u0 (rdenS u2)).2.2 (rdenS (gmulABS (⟨false, []⟩ : BInt) u0 (rdenS u2)).2.1)).1).2.1.abs.length I] 69) ∧ (S 0 = false → R = .nil) ∧ (S 0 = true → S 15 = false → R = .row n [.bool false, .slice none 0 0] 69) ∧ (S 15 = true → R = .row p [.bool (gaddIS (⟨false, []⟩ : BInt) (gmulABS (⟨false, []⟩ : BInt) u0 (rdenS u2)).1 (gmulABS (⟨false, []⟩ : BInt) (gmulABS (⟨false, []⟩ : BInt) u0 (rdenS u2)).2.2 (rdenS (gmulABS (⟨false, []⟩ : BInt) u0 (rdenS u2)).2.1)).1).2.2.neg, .slice L (gaddIS (⟨false, []⟩ : BInt) (gmulABS (⟨false, []⟩ : BInt) u0 (rdenS u2)).1 (gmulABS (⟨false, []⟩ : BInt) (gmulABS (⟨false, []⟩ : BInt) u0 (rdenS u2)).2.2 (rdenS (gmulABS (⟨false, []⟩ : BInt) u0 (rdenS u2)).2.1)).1).2.2.abs.length M] 69) ∧ (S 1 = false → ar = .nil) ∧ (S 1 = true → S 7 = false → ar = .row l [.bool false, .slice none 0 0] 69) ∧ (S 7 = true → S 13 = false → ar = .row b1 (e71Nf ((gmulABS (⟨false, []⟩ : BInt) u0 (rdenS u2)).2.1) ah ai aj ak) 71) ∧ (S 13 = true → S 14 = false → ar = .row b1 (e71Nf (rdenS (gmulABS (⟨false, []⟩ : BInt) u0 (rdenS u2)).2.1) al am an ao) 71) ∧ (S 14 = true → S 15 = false → ar = .row p [.bool (gmulABS (⟨false, []⟩ : BInt) (gmulABS (⟨false, []⟩ : BInt) u0 (rdenS u2)).2.2 (rdenS (gmulABS (⟨false, []⟩ : BInt) u0 (rdenS u2)).2.1)).1.neg, .slice ap (gmulABS (⟨false, []⟩ : BInt) (gmulABS (⟨false, []⟩ : BInt) u0 (rdenS u2)).2.2 (rdenS (gmulABS (⟨false, []⟩ : BInt) u0 (rdenS u2)).2.1)).1.abs.length aq] 69) ∧ (S 15 = true → ar = .row n [.bool (gaddIS (⟨false, []⟩ : BInt) (gmulABS (⟨false, []⟩ : BInt) u0 (rdenS u2)).1 (gmulABS (⟨false, []⟩ : BInt) (gmulABS (⟨false, []⟩ : BInt) u0 (rdenS u2)).2.2 (rdenS (gmulABS (⟨false, []⟩ : BInt) u0 (rdenS u2)).2.1)).1).1.neg, .slice E (gaddIS (⟨false, []⟩ : BInt) (gmulABS (⟨false, []⟩ : BInt) u0 (rdenS u2)).1 (gmulABS (⟨false, []⟩ : BInt) (gmulABS (⟨false, []⟩ : BInt) u0 (rdenS u2)).2.2 (rdenS (gmulABS (⟨false, []⟩ : BInt) u0 (rdenS u2)).2.1)).1).1.abs.length F] 69) ∧ (S 8 = false → Y = .nil) ∧ (S 8 = true → S 14 = false → Y = .row p [.bool false, .slice none 0 0] 69) ∧ (S 14 = true → Y = .row b8 (e71Nf ((gmulABS (⟨false, []⟩ : BInt) (gmulABS (⟨false, []⟩ : BInt) u0 (rdenS u2)).2.2 (rdenS (gmulABS (⟨false, []⟩ : BInt) u0 (rdenS u2)).2.1)).2.1) y z C D) 71) ∧ (S 6 = true → SlR (tyInt .u32) m ad ae (rdenS u2).a.abs) ∧ (S 6 = true → SlR (tyInt .u32) m af ag (rdenS u2).b.abs) ∧ (S 7 = true → SlR (tyInt .u32) m v x (gmulABS (⟨false, []⟩ : BInt) u0 (rdenS u2)).1.abs) ∧ (S 7 = true → SlR (tyInt .u32) m ah ai (gmulABS (⟨false, []⟩ : BInt) u0 (rdenS u2)).2.1.a.abs) ∧ (S 7 = true → SlR (tyInt .u32) m aj ak (gmulABS (⟨false, []⟩ : BInt) u0 (rdenS u2)).2.1.b.abs) ∧ (S 7 = true → SlR (tyInt .u32) m U V (gmulABS (⟨false, []⟩ : BInt) u0 (rdenS u2)).2.2.a.abs) ∧ (S 7 = true → SlR (tyInt .u32) m W X (gmulABS (⟨false, []⟩ : BInt) u0 (rdenS u2)).2.2.b.abs) ∧ (S 13 = true → SlR (tyInt .u32) m al am (rdenS (gmulABS (⟨false, []⟩ : BInt) u0 (rdenS u2)).2.1).a.abs) ∧ (S 13 = true → SlR (tyInt .u32) m an ao (rdenS (gmulABS (⟨false, []⟩ : BInt) u0 (rdenS u2)).2.1).b.abs) ∧ (S 14 = true → SlR (tyInt .u32) m ap aq (gmulABS (⟨false, []⟩ : BInt) (gmulABS (⟨false, []⟩ : BInt) u0 (rdenS u2)).2.2 (rdenS (gmulABS (⟨false, []⟩ : BInt) u0 (rdenS u2)).2.1)).1.abs) ∧ (S 14 = true → SlR (tyInt .u32) m y z (gmulABS (⟨false, []⟩ : BInt) (gmulABS (⟨false, []⟩ : BInt) u0 (rdenS u2)).2.2 (rdenS (gmulABS (⟨false, []⟩ : BInt) u0 (rdenS u2)).2.1)).2.1.a.abs) ∧ (S 14 = true → SlR (tyInt .u32) m C D (gmulABS (⟨false, []⟩ : BInt) (gmulABS (⟨false, []⟩ : BInt) u0 (rdenS u2)).2.2 (rdenS (gmulABS (⟨false, []⟩ : BInt) u0 (rdenS u2)).2.1)).2.1.b.abs) ∧ (S 14 = true → SlR (tyInt .u32) m N O (gmulABS (⟨false, []⟩ : BInt) (gmulABS (⟨false, []⟩ : BInt) u0 (rdenS u2)).2.2 (rdenS (gmulABS (⟨false, []⟩ : BInt) u0 (rdenS u2)).2.1)).2.2.a.abs) ∧ (S 14 = true → SlR (tyInt .u32) m P Q (gmulABS (⟨false, []⟩ : BInt) (gmulABS (⟨false, []⟩ : BInt) u0 (rdenS u2)).2.2 (rdenS (gmulABS (⟨false, []⟩ : BInt) u0 (rdenS u2)).2.1)).2.2.b.abs) ∧ (S 15 = true → SlR (tyInt .u32) m E F (gaddIS (⟨false, []⟩ : BInt) (gmulABS (⟨false, []⟩ : BInt) u0 (rdenS u2)).1 (gmulABS (⟨false, []⟩ : BInt) (gmulABS (⟨false, []⟩ : BInt) u0 (rdenS u2)).2.2 (rdenS (gmulABS (⟨false, []⟩ : BInt) u0 (rdenS u2)).2.1)).1).1.abs) ∧ (S 15 = true → SlR (tyInt .u32) m H I (gaddIS (⟨false, []⟩ : BInt) (gmulABS (⟨false, []⟩ : BInt) u0 (rdenS u2)).1 (gmulABS (⟨false, []⟩ : BInt) (gmulABS (⟨false, []⟩ : BInt) u0 (rdenS u2)).2.2 (rdenS (gmulABS (⟨false, []⟩ : BInt) u0 (rdenS u2)).2.1)).1).2.1.abs) ∧ (S 15 = true → SlR (tyInt .u32) m L M (gaddIS (⟨false, []⟩ : BInt) (gmulABS (⟨false, []⟩ : BInt) u0 (rdenS u2)).1 (gmulABS (⟨false, []⟩ : BInt) (gmulABS (⟨false, []⟩ : BInt) u0 (rdenS u2)).2.2 (rdenS (gmulABS (⟨false, []⟩ : BInt) u0 (rdenS u2)).2.1)).1).2.2.abs)) ?h0 ?hs ?hE)
 case h0 =>
  have ft := fi.any 7
  have fu := ft.any 8
  have fv := fu.any 9
  have fw := fv.any 10
  have fx := fw.any 11
  have fy := fx.any 12
  have fA := fy.any 13
  have fB := fA.any 14
  have fC := fB.any 15
  have fD := fC.any 16
  have fE := fD.any 17
  have fF := fE.any 18
  have fG := fF.any 19
  have fH := fG.any 20
  have fI := fH.any 21
  have fJ := fI.any 22
  have fK := fJ.any 23
  have fL := hM0.nilRes
  have fM := fL.nilRes
  have fN := fM.nilRes
  have fO := (fN.perm ((pk 3 rfl).trans (((pk 3 rfl).trans (((pk 2 rfl).trans (((pk 1 rfl).trans (lpr.cons _)).cons _)).cons _)).cons _))).drew
  exact ⟨0, 0, none, 0, none, 0, none, 0, none, 0, none, 0, none, 0, none, 0, 0, none, 0, none, 0, none, 0, none, 0, none, 0, none, 0, none, 0, none, 0, none, 0, none, 0, ay.tmps.getD 7 undef, ay.tmps.getD 8 undef, ay.tmps.getD 9 undef, ay.tmps.getD 10 undef, ay.tmps.getD 11 undef, ay.tmps.getD 12 undef, ay.tmps.getD 13 undef, ay.tmps.getD 14 undef, ay.tmps.getD 15 undef, ay.tmps.getD 16 undef, ay.tmps.getD 17 undef, ay.tmps.getD 18 undef, ay.tmps.getD 19 undef, ay.tmps.getD 20 undef, ay.tmps.getD 21 undef, ay.tmps.getD 22 undef, ay.tmps.getD 23 undef, .row b1 (e71Nf u0 ao2 cap3 ao5 cap6) 71, .row b8 (e71Nf u2 ao9 cap10 ao12 cap13) 71, .nil, .nil, .nil, Z, Fz.le.refl _, fK.reg, fO, ff, ff, ff, ff, ff, ff, ff, ff, ff, ff, ff, ff, ff, ff, ff, ff, ff, kf, ff, ff, kf, ff, ff, ff, kf, ff, ff, kf, ff, ff, ff, ff, ff, kf, ff, ff, ff, ff, ff, ff, ff, ff, ff, ff, ff, ff, ff, ff, ff, ff, ff, ff, ff⟩
 case hs =>
  intro S hcl i o hil hi hSi hpre a w1 hI; refine Go.Sy.hid ?_; intro G hG; obtain ⟨n, l, ad, ae, af, ag, v, x, ah, ai, aj, ak, U, V, W, X, p, al, am, an, ao, ap, aq, y, z, hI⟩ := hI; obtain ⟨C, D, N, O, P, Q, E, F, H, I, L, M, au, az, a3, be, ba, a4, bb, a5, aS, aI, a6, aT, aJ, hI⟩ := hI; obtain ⟨aU, aK, aA, aw, bk, aL, R, ar, Y, m, g, hFx, hMx, d0, aB, aC, aD, aM, aV, aE, aN, bl, aF, aG, aO, hI⟩ := hI; obtain ⟨aW, aH, bu, ca, cz, bc, bB, cb, bf, bm, bv, cA, aX, aY, cB, bg, bh, bJ, b5, cC, cD, a7, a8, cc, aP, hI⟩ := hI; obtain ⟨aQ, bn, bo, bp, bq, br, bw, bx, cd, ce, cf, cg, ch, cE, cF, hI⟩ := hI; have cG := hI
  have hcase : i = 0 ∨ i = 1 ∨ i = 2 ∨ i = 3 ∨ i = 4 ∨ i = 5 ∨ i = 6 ∨ i = 7 ∨ i = 8 ∨ i = 9 ∨ i = 10 ∨ i = 11 ∨ i = 12 ∨ i = 13 ∨ i = 14 ∨ i = 15 ∨ i = 16 := by clear hi; omega
  rcases hcase with rfl | rfl | rfl | rfl | rfl | rfl | rfl | rfl | rfl | rfl | rfl | rfl | rfl | rfl | rfl | rfl | rfl
  ·
   obtain rfl := oj hi
   have bz := hSi
   have f := ngF hcl 15 0 bz
   have s := ngF hcl 16 0 bz
   obtain rfl := aX bz
   refine hG (any_step ?_); intro A J hJ
   have d1 := hMx.keep (sD (List.Sublist.cons_cons _ (sC (sD (List.Sublist.cons_cons _ (List.Sublist.refl _))))))
   refine nw hFx d1 pb [.bool false, .slice none 0 0] 69 ?_; intro cH hr ht fP fQ
   refine nl (qnI (hJ _ _ ?_))
   exact ⟨cH, l, ad, ae, af, ag, v, x, ah, ai, aj, ak, U, V, W, X, p, al, am, an, ao, ap, aq, y, z, C, D, N, O, P, Q, E, F, H, I, L, M, au, pt cH 0, a3, be, ba, a4, bb, a5, aS, aI, a6, aT, aJ, aU, aK, aA, aw, bk, aL, .row cH [.bool false, .slice none 0 0] 69, ar, Y, m, g, fP.reg, fQ.perm ((pk 1 rfl).trans (((pk 1 rfl).trans (lpr.cons _)).cons _)), (nt s), kf, aC, aD, aM, aV, aE, aN, bl, aF, aG, aO, aW, aH, bu, ca, (nt f), bc, bB, cb, bf, bm, bv, (nt f), nu, kf2, (nt f), bg, bh, bJ, b5, cC, (nt f), a7, a8, cc, aP, aQ, bn, bo, bp, bq, br, bw, bx, cd, ce, cf, cg, ch, (nt f), (nt f), (nt f)⟩
  ·
   obtain rfl := oj hi
   have ax := hSi
   have d := ngF hcl 7 1 ax
   have j := ngF hcl 13 7 d
   have c := ngF hcl 14 13 j
   have f := ngF hcl 15 7 d
   have s := ngF hcl 16 1 ax
   obtain rfl := bc d
   obtain rfl := bg ax
   refine hG (any_step ?_); intro A J hJ
   have d2 := hMx.keep (sD (List.Sublist.cons_cons _ (sD (sC (sD (List.Sublist.refl _))))))
   refine nw hFx d2 pb [.bool false, .slice none 0 0] 69 ?_; intro cI hy hz fR fS
   refine nl (qnI (hJ _ _ ?_))
   exact ⟨n, cI, ad, ae, af, ag, v, x, ah, ai, aj, ak, U, V, W, X, p, al, am, an, ao, ap, aq, y, z, C, D, N, O, P, Q, E, F, H, I, L, M, au, az, pt cI 0, be, ba, a4, bb, a5, aS, aI, a6, aT, aJ, aU, aK, aA, aw, .row b1 (e71Nf u0 ao2 cap3 ao5 cap6) 71, aL, R, .row cI [.bool false, .slice none 0 0] 69, Y, m, g, fR.reg, fS.perm ((pk 1 rfl).trans (((pk 1 rfl).trans (((pk 1 rfl).trans (lpr.cons _)).cons _)).cons _)), (nt s), aB, kf, aD, aM, aV, aE, aN, (nt d), aF, aG, aO, aW, aH, (nt j), (nt c), (nt f), kf, (fun h _ => nt d h), (nt c), bf, bm, (fun h _ => nt d h), (nt f), aX, aY, (nt f), nu, kf2, (fun h _ => nt d h), (fun h _ => nt j h), (fun h _ => nt c h), (nt f), a7, a8, (nt c), aP, aQ, (nt d), (nt d), (nt d), (nt d), (nt d), (nt j), (nt j), (nt c), (nt c), (nt c), (nt c), (nt c), (nt f), (nt f), (nt f)⟩
  ·
   obtain rfl := oj hi
   have aZ := hSi
   have aa := ngF hcl 3 2 aZ
   have ab := ngF hcl 4 3 aa
   have d := ngF hcl 7 4 ab
   have j := ngF hcl 13 7 d
   have c := ngF hcl 14 13 j
   have f := ngF hcl 15 7 d
   have s := ngF hcl 16 2 aZ
   obtain rfl := bc d
   refine hG (any_step ?_); intro A J hJ
   refine s1 hFx 10 (pt b1 0) ?_; intro hF fT
   refine nl (qnI (hJ _ _ ?_))
   exact ⟨n, l, ad, ae, af, ag, v, x, ah, ai, aj, ak, U, V, W, X, p, al, am, an, ao, ap, aq, y, z, C, D, N, O, P, Q, E, F, H, I, L, M, au, az, a3, pt b1 0, ba, a4, bb, a5, aS, aI, a6, aT, aJ, aU, aK, aA, aw, .row b1 (e71Nf u0 ao2 cap3 ao5 cap6) 71, aL, R, ar, Y, m, g, fT.reg, hMx.perm lpr, (nt s), aB, aC, kf, (nt aa), (nt ab), aE, aN, (nt d), aF, aG, aO, aW, aH, (nt j), (nt c), (nt f), kf, (fun h _ => nt d h), (nt c), bf, bm, (fun h _ => nt d h), (nt f), aX, aY, (nt f), bg, bh, (fun h _ => nt d h), (fun h _ => nt j h), (fun h _ => nt c h), (nt f), a7, a8, (nt c), aP, aQ, (nt d), (nt d), (nt d), (nt d), (nt d), (nt j), (nt j), (nt c), (nt c), (nt c), (nt c), (nt c), (nt f), (nt f), (nt f)⟩
  ·
   obtain rfl := oj hi
   have aZ := hpre 2 (by kernel_rfl)
   have aa := hSi
   have ab := ngF hcl 4 3 aa
   have d := ngF hcl 7 4 ab
   have j := ngF hcl 13 7 d
   have c := ngF hcl 14 13 j
   have f := ngF hcl 15 7 d
   have s := ngF hcl 16 3 aa
   obtain rfl := aD aZ
   obtain rfl := bc d
   refine hG (any_step ?_); intro A J hJ
   refine s1 hFx 11 (pt b1 0) ?_; intro hN fU
   refine nl (qnI (hJ _ _ ?_))
   exact ⟨n, l, ad, ae, af, ag, v, x, ah, ai, aj, ak, U, V, W, X, p, al, am, an, ao, ap, aq, y, z, C, D, N, O, P, Q, E, F, H, I, L, M, au, az, a3, pt b1 0, pt b1 0, a4, bb, a5, aS, aI, a6, aT, aJ, aU, aK, aA, aw, .row b1 (e71Nf u0 ao2 cap3 ao5 cap6) 71, aL, R, ar, Y, m, g, fU.reg, hMx.perm lpr, (nt s), aB, aC, kf, kf, (nt ab), aE, aN, (nt d), aF, aG, aO, aW, aH, (nt j), (nt c), (nt f), kf, (fun h _ => nt d h), (nt c), bf, bm, (fun h _ => nt d h), (nt f), aX, aY, (nt f), bg, bh, (fun h _ => nt d h), (fun h _ => nt j h), (fun h _ => nt c h), (nt f), a7, a8, (nt c), aP, aQ, (nt d), (nt d), (nt d), (nt d), (nt d), (nt j), (nt j), (nt c), (nt c), (nt c), (nt c), (nt c), (nt f), (nt f), (nt f)⟩
  ·
   obtain rfl := oj hi
   have aa := hpre 3 (by kernel_rfl)
   have aZ := hcl 3 2 (by kernel_rfl) aa
   have ab := hSi
   have d := ngF hcl 7 4 ab
   have j := ngF hcl 13 7 d
   have c := ngF hcl 14 13 j
   have f := ngF hcl 15 7 d
   have s := ngF hcl 16 4 ab
   obtain rfl := aD aZ
   obtain rfl := aM aa
   obtain rfl := bc d
   refine hG (any_step ?_); intro A J hJ
   refine s1 hFx 12 (pt b1 0) ?_; intro hT fV
   refine nl (qnI (hJ _ _ ?_))
   exact ⟨n, l, ad, ae, af, ag, v, x, ah, ai, aj, ak, U, V, W, X, p, al, am, an, ao, ap, aq, y, z, C, D, N, O, P, Q, E, F, H, I, L, M, au, az, a3, pt b1 0, pt b1 0, pt b1 0, bb, a5, aS, aI, a6, aT, aJ, aU, aK, aA, aw, .row b1 (e71Nf u0 ao2 cap3 ao5 cap6) 71, aL, R, ar, Y, m, g, fV.reg, hMx.perm lpr, (nt s), aB, aC, kf, kf, kf, aE, aN, (nt d), aF, aG, aO, aW, aH, (nt j), (nt c), (nt f), kf, (fun h _ => nt d h), (nt c), bf, bm, (fun h _ => nt d h), (nt f), aX, aY, (nt f), bg, bh, (fun h _ => nt d h), (fun h _ => nt j h), (fun h _ => nt c h), (nt f), a7, a8, (nt c), aP, aQ, (nt d), (nt d), (nt d), (nt d), (nt d), (nt j), (nt j), (nt c), (nt c), (nt c), (nt c), (nt c), (nt f), (nt f), (nt f)⟩
  ·
   obtain rfl := oj hi
   have bd := hSi
   have q := ngF hcl 6 5 bd
   have d := ngF hcl 7 6 q
   have j := ngF hcl 13 7 d
   have c := ngF hcl 14 13 j
   have f := ngF hcl 15 7 d
   have s := ngF hcl 16 5 bd
   obtain rfl := bc d
   obtain rfl := bf q
   refine hG (any_step ?_); intro A J hJ
   refine s1 hFx 13 (pt b8 0) ?_; intro hY fW
   refine nl (qnI (hJ _ _ ?_))
   exact ⟨n, l, ad, ae, af, ag, v, x, ah, ai, aj, ak, U, V, W, X, p, al, am, an, ao, ap, aq, y, z, C, D, N, O, P, Q, E, F, H, I, L, M, au, az, a3, be, ba, a4, pt b8 0, a5, aS, aI, a6, aT, aJ, aU, aK, aA, aw, .row b1 (e71Nf u0 ao2 cap3 ao5 cap6) 71, .row b8 (e71Nf u2 ao9 cap10 ao12 cap13) 71, R, ar, Y, m, g, fW.reg, hMx.perm lpr, (nt s), aB, aC, aD, aM, aV, kf, (nt q), (nt d), aF, aG, aO, aW, aH, (nt j), (nt c), (nt f), kf, (fun h _ => nt d h), (nt c), kf, (fun h _ => nt q h), (fun h _ => nt d h), (nt f), aX, aY, (nt f), bg, bh, (fun h _ => nt d h), (fun h _ => nt j h), (fun h _ => nt c h), (nt f), a7, a8, (nt c), (nt q), (nt q), (nt d), (nt d), (nt d), (nt d), (nt d), (nt j), (nt j), (nt c), (nt c), (nt c), (nt c), (nt c), (nt f), (nt f), (nt f)⟩
  ·
   obtain rfl := oj hi
   have bd := hpre 5 (by kernel_rfl)
   have q := hSi
   have d := ngF hcl 7 6 q
   have j := ngF hcl 13 7 d
   have c := ngF hcl 14 13 j
   have f := ngF hcl 15 7 d
   have s := ngF hcl 16 6 q
   obtain rfl := aE bd
   obtain rfl := bc d
   obtain rfl := bf q
   refine hG (any_step ?_); intro A J hJ
   have hzst := Fz.le.refl m
   have cJ := hs11.mono g
   have cK := hs14.mono g
   refine ck hFx 78 #[pt b8 0] ?_
   refine (rden_fun u2 fj b8 ao9 cap10 ao12 cap13 _ _ _ _ _ _ cJ cK (hMx.perm (pk 1 rfl)) hMx.fz).mono ?_; rintro _ fX ⟨cL, cM, cN, cO, d5, rfl, b6, fY, fZ, hm⟩; refine ⟨_, rfl, ?_⟩; intro h1 f0; have d6 := hm
   replace hzst := hzst.mono b6
   have f1 : Mem B [] w0 Z0 ((.row b8 (e71Nf (rdenS u2) cL cM cN cO) 71) :: (.row b1 (e71Nf u0 ao2 cap3 ao5 cap6) 71) :: R :: ar :: Y :: Rr) d5 fX := d6
   refine nl (qnI (hJ _ _ ?_))
   exact ⟨n, l, cL, cM, cN, cO, v, x, ah, ai, aj, ak, U, V, W, X, p, al, am, an, ao, ap, aq, y, z, C, D, N, O, P, Q, E, F, H, I, L, M, au, az, a3, be, ba, a4, pt b8 0, pt b8 2, aS, aI, a6, aT, aJ, aU, aK, aA, aw, .row b1 (e71Nf u0 ao2 cap3 ao5 cap6) 71, .row b8 (e71Nf (rdenS u2) cL cM cN cO) 71, R, ar, Y, d5, g.trans hzst, f0.reg, f1.perm ((pk 1 rfl).trans (lpr.cons _)), (nt s), aB, aC, aD, aM, aV, kf, kf, (nt d), aF, aG, aO, aW, aH, (nt j), (nt c), (nt f), kf, (fun h _ => nt d h), (nt c), nu, kf2, (fun h _ => nt d h), (nt f), aX, aY, (nt f), bg, bh, (fun h _ => nt d h), (fun h _ => nt j h), (fun h _ => nt c h), (nt f), a7, a8, (nt c), (fun _ => fY), (fun _ => fZ), (nt d), (nt d), (nt d), (nt d), (nt d), (nt j), (nt j), (nt c), (nt c), (nt c), (nt c), (nt c), (nt f), (nt f), (nt f)⟩
  ·
   obtain rfl := oj hi
   have q := hpre 6 (by kernel_rfl)
   have ab := hpre 4 (by kernel_rfl)
   have ax := hpre 1 (by kernel_rfl)
   have bd := hcl 6 5 (by kernel_rfl) q
   have aa := hcl 4 3 (by kernel_rfl) ab
   have aZ := hcl 3 2 (by kernel_rfl) aa
   have d := hSi
   have j := ngF hcl 13 7 d
   have c := ngF hcl 14 13 j
   have f := ngF hcl 15 7 d
   have s := ngF hcl 16 7 d
   obtain rfl := aC ax
   obtain rfl := aD aZ
   obtain rfl := aM aa
   obtain rfl := aV ab
   obtain rfl := aE bd
   obtain rfl := aN q
   obtain rfl := bc d
   obtain rfl := bm q d
   obtain rfl := bh ax d
   refine hG (any_step ?_); intro A J hJ
   have hzst := Fz.le.refl m
   have cP := hs4.mono g
   have cQ := hs7.mono g
   have cj := aP q
   have cl := aQ q
   refine ck hFx 77 #[pt l 0, pt b1 0, pt b8 2] ?_
   refine (gmulAB_fun (⟨false, []⟩ : BInt) u0 (rdenS u2) fl l none 0 b1 ao2 cap3 ao5 cap6 b8 ad ae af ag _ _ _ _ _ _ (SlR.nil _ _) cP cQ cj cl (hMx.perm ((pk 3 rfl).trans (lpr.cons _))) hMx.fz).mono ?_; rintro _ f2 ⟨cR, cS, cT, cU, cV, cW, cX, cY, cZ, c0, d9, rfl, bK, f3, f4, f5, f6, f7, hm⟩; refine ⟨_, rfl, ?_⟩; intro h2 f8; have ea := hm
   replace hzst := hzst.mono bK
   replace cj := cj.mono bK
   replace cl := cl.mono bK
   have f9 : Mem B [] w0 Z0 ((.row l [.bool (gmulABS (⟨false, []⟩ : BInt) u0 (rdenS u2)).1.neg, .slice cR (gmulABS (⟨false, []⟩ : BInt) u0 (rdenS u2)).1.abs.length cS] 69) :: (.row b1 (e71Nf ((gmulABS (⟨false, []⟩ : BInt) u0 (rdenS u2)).2.1) cT cU cV cW) 71) :: (.row b8 (e71Nf ((gmulABS (⟨false, []⟩ : BInt) u0 (rdenS u2)).2.2) cX cY cZ c0) 71) :: R :: Y :: Rr) d9 f2 := ea
   refine nl (qnI (hJ _ _ ?_))
   exact ⟨n, l, ad, ae, af, ag, cR, cS, cT, cU, cV, cW, cX, cY, cZ, c0, p, al, am, an, ao, ap, aq, y, z, C, D, N, O, P, Q, E, F, H, I, L, M, au, az, pt l 0, pt b1 0, pt b1 0, pt b1 0, pt b8 0, pt b8 2, pt l 0, aI, a6, aT, aJ, aU, aK, aA, aw, .row b8 (e71Nf ((gmulABS (⟨false, []⟩ : BInt) u0 (rdenS u2)).2.2) cX cY cZ c0) 71, .row l [.bool (gmulABS (⟨false, []⟩ : BInt) u0 (rdenS u2)).1.neg, .slice cR (gmulABS (⟨false, []⟩ : BInt) u0 (rdenS u2)).1.abs.length cS] 69, R, .row b1 (e71Nf ((gmulABS (⟨false, []⟩ : BInt) u0 (rdenS u2)).2.1) cT cU cV cW) 71, Y, d9, g.trans hzst, f8.reg, f9.perm ((pk 2 rfl).trans ((((pk 1 rfl).trans (lpr.cons _)).cons _).cons _)), (nt s), aB, kf, kf, kf, kf, kf, kf, kf, aF, aG, aO, aW, aH, (nt j), (nt c), (nt f), nu, kf2, (nt c), (tn q), (fun _ => nu), kf2, (nt f), aX, aY, (nt f), (tn ax), (fun _ => nu), kf2, (fun h _ => nt j h), (fun h _ => nt c h), (nt f), a7, a8, (nt c), (fun _ => cj), (fun _ => cl), (fun _ => f3), (fun _ => f4), (fun _ => f5), (fun _ => f6), (fun _ => f7), (nt j), (nt j), (nt c), (nt c), (nt c), (nt c), (nt c), (nt f), (nt f), (nt f)⟩
  ·
   obtain rfl := oj hi
   have bi := hSi
   have c := ngF hcl 14 8 bi
   have f := ngF hcl 15 14 c
   have s := ngF hcl 16 8 bi
   obtain rfl := a7 bi
   refine hG (any_step ?_); intro A J hJ
   have eb := hMx.keep (sD (List.Sublist.cons_cons _ (sD (List.Sublist.cons_cons _ (sC (List.Sublist.refl _))))))
   refine nw hFx eb pb [.bool false, .slice none 0 0] 69 ?_; intro c1 h7 h8 ga gb
   refine nl (qnI (hJ _ _ ?_))
   exact ⟨n, l, ad, ae, af, ag, v, x, ah, ai, aj, ak, U, V, W, X, c1, al, am, an, ao, ap, aq, y, z, C, D, N, O, P, Q, E, F, H, I, L, M, au, az, a3, be, ba, a4, bb, a5, aS, pt c1 0, a6, aT, aJ, aU, aK, aA, aw, bk, aL, R, ar, .row c1 [.bool false, .slice none 0 0] 69, m, g, ga.reg, gb.perm ((pk 1 rfl).trans (((pk 1 rfl).trans (((pk 1 rfl).trans (((pk 1 rfl).trans (lpr.cons _)).cons _)).cons _)).cons _)), (nt s), aB, aC, aD, aM, aV, aE, aN, bl, kf, aG, aO, aW, aH, bu, (nt c), (nt f), bc, bB, (nt c), bf, bm, bv, (nt f), aX, aY, (nt f), bg, bh, bJ, b5, (fun h _ => nt c h), (nt f), nu, kf2, (nt c), aP, aQ, bn, bo, bp, bq, br, bw, bx, (nt c), (nt c), (nt c), (nt c), (nt c), (nt f), (nt f), (nt f)⟩
  ·
   obtain rfl := oj hi
   have bs := hSi
   have a1 := ngF hcl 10 9 bs
   have a2 := ngF hcl 11 10 a1
   have c := ngF hcl 14 11 a2
   have f := ngF hcl 15 14 c
   have s := ngF hcl 16 9 bs
   refine hG (any_step ?_); intro A J hJ
   refine s1 hFx 17 (pt b8 0) ?_; intro ie gc
   refine nl (qnI (hJ _ _ ?_))
   exact ⟨n, l, ad, ae, af, ag, v, x, ah, ai, aj, ak, U, V, W, X, p, al, am, an, ao, ap, aq, y, z, C, D, N, O, P, Q, E, F, H, I, L, M, au, az, a3, be, ba, a4, bb, a5, aS, aI, pt b8 0, aT, aJ, aU, aK, aA, aw, bk, aL, R, ar, Y, m, g, gc.reg, hMx.perm lpr, (nt s), aB, aC, aD, aM, aV, aE, aN, bl, aF, kf, (nt a1), (nt a2), aH, bu, (nt c), (nt f), bc, bB, (nt c), bf, bm, bv, (nt f), aX, aY, (nt f), bg, bh, bJ, b5, (fun h _ => nt c h), (nt f), a7, a8, (nt c), aP, aQ, bn, bo, bp, bq, br, bw, bx, (nt c), (nt c), (nt c), (nt c), (nt c), (nt f), (nt f), (nt f)⟩
  ·
   obtain rfl := oj hi
   have bs := hpre 9 (by kernel_rfl)
   have a1 := hSi
   have a2 := ngF hcl 11 10 a1
   have c := ngF hcl 14 11 a2
   have f := ngF hcl 15 14 c
   have s := ngF hcl 16 10 a1
   obtain rfl := aG bs
   refine hG (any_step ?_); intro A J hJ
   refine s1 hFx 18 (pt b8 0) ?_; intro ik gd
   refine nl (qnI (hJ _ _ ?_))
   exact ⟨n, l, ad, ae, af, ag, v, x, ah, ai, aj, ak, U, V, W, X, p, al, am, an, ao, ap, aq, y, z, C, D, N, O, P, Q, E, F, H, I, L, M, au, az, a3, be, ba, a4, bb, a5, aS, aI, pt b8 0, pt b8 0, aJ, aU, aK, aA, aw, bk, aL, R, ar, Y, m, g, gd.reg, hMx.perm lpr, (nt s), aB, aC, aD, aM, aV, aE, aN, bl, aF, kf, kf, (nt a2), aH, bu, (nt c), (nt f), bc, bB, (nt c), bf, bm, bv, (nt f), aX, aY, (nt f), bg, bh, bJ, b5, (fun h _ => nt c h), (nt f), a7, a8, (nt c), aP, aQ, bn, bo, bp, bq, br, bw, bx, (nt c), (nt c), (nt c), (nt c), (nt c), (nt f), (nt f), (nt f)⟩
  ·
   obtain rfl := oj hi
   have a1 := hpre 10 (by kernel_rfl)
   have bs := hcl 10 9 (by kernel_rfl) a1
   have a2 := hSi
   have c := ngF hcl 14 11 a2
   have f := ngF hcl 15 14 c
   have s := ngF hcl 16 11 a2
   obtain rfl := aG bs
   obtain rfl := aO a1
   refine hG (any_step ?_); intro A J hJ
   refine s1 hFx 19 (pt b8 0) ?_; intro iq ge
   refine nl (qnI (hJ _ _ ?_))
   exact ⟨n, l, ad, ae, af, ag, v, x, ah, ai, aj, ak, U, V, W, X, p, al, am, an, ao, ap, aq, y, z, C, D, N, O, P, Q, E, F, H, I, L, M, au, az, a3, be, ba, a4, bb, a5, aS, aI, pt b8 0, pt b8 0, pt b8 0, aU, aK, aA, aw, bk, aL, R, ar, Y, m, g, ge.reg, hMx.perm lpr, (nt s), aB, aC, aD, aM, aV, aE, aN, bl, aF, kf, kf, kf, aH, bu, (nt c), (nt f), bc, bB, (nt c), bf, bm, bv, (nt f), aX, aY, (nt f), bg, bh, bJ, b5, (fun h _ => nt c h), (nt f), a7, a8, (nt c), aP, aQ, bn, bo, bp, bq, br, bw, bx, (nt c), (nt c), (nt c), (nt c), (nt c), (nt f), (nt f), (nt f)⟩
  ·
   obtain rfl := oj hi
   have bA := hSi
   have j := ngF hcl 13 12 bA
   have c := ngF hcl 14 13 j
   have f := ngF hcl 15 14 c
   have s := ngF hcl 16 12 bA
   refine hG (any_step ?_); intro A J hJ
   refine s1 hFx 20 (pt b1 0) ?_; intro iw gf
   refine nl (qnI (hJ _ _ ?_))
   exact ⟨n, l, ad, ae, af, ag, v, x, ah, ai, aj, ak, U, V, W, X, p, al, am, an, ao, ap, aq, y, z, C, D, N, O, P, Q, E, F, H, I, L, M, au, az, a3, be, ba, a4, bb, a5, aS, aI, a6, aT, aJ, pt b1 0, aK, aA, aw, bk, aL, R, ar, Y, m, g, gf.reg, hMx.perm lpr, (nt s), aB, aC, aD, aM, aV, aE, aN, bl, aF, aG, aO, aW, kf, (nt j), (nt c), (nt f), bc, bB, (nt c), bf, bm, bv, (nt f), aX, aY, (nt f), bg, bh, bJ, (fun h _ => nt j h), (fun h _ => nt c h), (nt f), a7, a8, (nt c), aP, aQ, bn, bo, bp, bq, br, (nt j), (nt j), (nt c), (nt c), (nt c), (nt c), (nt c), (nt f), (nt f), (nt f)⟩
  ·
   obtain rfl := oj hi
   have bA := hpre 12 (by kernel_rfl)
   have d := hpre 7 (by kernel_rfl)
   have q := hcl 7 6 (by kernel_rfl) d
   have ab := hcl 7 4 (by kernel_rfl) d
   have ax := hcl 7 1 (by kernel_rfl) d
   have bd := hcl 6 5 (by kernel_rfl) q
   have aa := hcl 4 3 (by kernel_rfl) ab
   have aZ := hcl 3 2 (by kernel_rfl) aa
   have j := hSi
   have c := ngF hcl 14 13 j
   have f := ngF hcl 15 14 c
   have s := ngF hcl 16 13 j
   obtain rfl := aC ax
   obtain rfl := aD aZ
   obtain rfl := aM aa
   obtain rfl := aV ab
   obtain rfl := aE bd
   obtain rfl := aN q
   obtain rfl := bl d
   obtain rfl := aH bA
   obtain rfl := bB d c
   obtain rfl := bv d f
   obtain rfl := bJ d j
   refine hG (any_step ?_); intro A J hJ
   have hzst := Fz.le.refl m
   have c2 := aP q
   have c3 := aQ q
   have c4 := bn d
   have cm := bo d
   have cn := bp d
   have c5 := bq d
   have c6 := br d
   refine ck hFx 78 #[pt b1 0] ?_
   refine (rden_fun (gmulABS (⟨false, []⟩ : BInt) u0 (rdenS u2)).2.1 fn b1 ah ai aj ak _ _ _ _ _ _ cm cn (hMx.perm (pk 3 rfl)) hMx.fz).mono ?_; rintro _ gg ⟨c7, c8, c9, da, eg, rfl, bj, gh, gi, hm⟩; refine ⟨_, rfl, ?_⟩; intro ix gj; have eh := hm
   replace hzst := hzst.mono bj
   replace c2 := c2.mono bj
   replace c3 := c3.mono bj
   replace c4 := c4.mono bj
   replace cm := cm.mono bj
   replace cn := cn.mono bj
   replace c5 := c5.mono bj
   replace c6 := c6.mono bj
   have gk : Mem B [] w0 Z0 ((.row b1 (e71Nf (rdenS (gmulABS (⟨false, []⟩ : BInt) u0 (rdenS u2)).2.1) c7 c8 c9 da) 71) :: (.row b8 (e71Nf ((gmulABS (⟨false, []⟩ : BInt) u0 (rdenS u2)).2.2) U V W X) 71) :: (.row l [.bool (gmulABS (⟨false, []⟩ : BInt) u0 (rdenS u2)).1.neg, .slice v (gmulABS (⟨false, []⟩ : BInt) u0 (rdenS u2)).1.abs.length x] 69) :: R :: Y :: Rr) eg gg := eh
   refine nl (qnI (hJ _ _ ?_))
   exact ⟨n, l, ad, ae, af, ag, v, x, ah, ai, aj, ak, U, V, W, X, p, c7, c8, c9, da, ap, aq, y, z, C, D, N, O, P, Q, E, F, H, I, L, M, au, az, pt l 0, pt b1 0, pt b1 0, pt b1 0, pt b8 0, pt b8 2, pt l 0, aI, a6, aT, aJ, pt b1 0, pt b1 2, aA, aw, .row b8 (e71Nf ((gmulABS (⟨false, []⟩ : BInt) u0 (rdenS u2)).2.2) U V W X) 71, .row l [.bool (gmulABS (⟨false, []⟩ : BInt) u0 (rdenS u2)).1.neg, .slice v (gmulABS (⟨false, []⟩ : BInt) u0 (rdenS u2)).1.abs.length x] 69, R, .row b1 (e71Nf (rdenS (gmulABS (⟨false, []⟩ : BInt) u0 (rdenS u2)).2.1) c7 c8 c9 da) 71, Y, eg, g.trans hzst, gj.reg, gk.perm ((pk 1 rfl).trans (((pk 1 rfl).trans (((pk 1 rfl).trans (lpr.cons _)).cons _)).cons _)), (nt s), aB, kf, kf, kf, kf, kf, kf, kf, aF, aG, aO, aW, kf, kf, (nt c), (nt f), (tn d), kf2, (nt c), (tn q), (fun _ => tn d), kf2, (nt f), aX, aY, (nt f), (tn ax), (fun _ => tn d), (fun _ => nu), kf2, (fun h _ => nt c h), (nt f), a7, a8, (nt c), (fun _ => c2), (fun _ => c3), (fun _ => c4), (fun _ => cm), (fun _ => cn), (fun _ => c5), (fun _ => c6), (fun _ => gh), (fun _ => gi), (nt c), (nt c), (nt c), (nt c), (nt c), (nt f), (nt f), (nt f)⟩
  ·
   obtain rfl := oj hi
   have j := hpre 13 (by kernel_rfl)
   have a2 := hpre 11 (by kernel_rfl)
   have bi := hpre 8 (by kernel_rfl)
   have bA := hcl 13 12 (by kernel_rfl) j
   have d := hcl 13 7 (by kernel_rfl) j
   have a1 := hcl 11 10 (by kernel_rfl) a2
   have q := hcl 7 6 (by kernel_rfl) d
   have ab := hcl 7 4 (by kernel_rfl) d
   have ax := hcl 7 1 (by kernel_rfl) d
   have bs := hcl 10 9 (by kernel_rfl) a1
   have bd := hcl 6 5 (by kernel_rfl) q
   have aa := hcl 4 3 (by kernel_rfl) ab
   have aZ := hcl 3 2 (by kernel_rfl) aa
   have c := hSi
   have f := ngF hcl 15 14 c
   have s := ngF hcl 16 14 c
   obtain rfl := aC ax
   obtain rfl := aD aZ
   obtain rfl := aM aa
   obtain rfl := aV ab
   obtain rfl := aE bd
   obtain rfl := aN q
   obtain rfl := bl d
   obtain rfl := aF bi
   obtain rfl := aG bs
   obtain rfl := aO a1
   obtain rfl := aW a2
   obtain rfl := aH bA
   obtain rfl := bu j
   obtain rfl := bB d c
   obtain rfl := bv d f
   obtain rfl := b5 j c
   obtain rfl := a8 bi c
   refine hG (any_step ?_); intro A J hJ
   have hzst := Fz.le.refl m
   have db := aP q
   have dc := aQ q
   have dd := bn d
   have de := bo d
   have df := bp d
   have co := bq d
   have cp := br d
   have cq := bw j
   have cr := bx j
   refine ck hFx 77 #[pt p 0, pt b8 0, pt b1 2] ?_
   refine (gmulAB_fun (⟨false, []⟩ : BInt) (gmulABS (⟨false, []⟩ : BInt) u0 (rdenS u2)).2.2 (rdenS (gmulABS (⟨false, []⟩ : BInt) u0 (rdenS u2)).2.1) fp p none 0 b8 U V W X b1 al am an ao _ _ _ _ _ _ (SlR.nil _ _) co cp cq cr (hMx.perm ((pk 4 rfl).trans ((((pk 2 rfl).trans (lpr.cons _)).cons _).cons _))) hMx.fz).mono ?_; rintro _ gl ⟨dg, dh, di, dj, dk, dl, dm, dn, dp, dq, em, rfl, a9, gm, gn, go, gp, gq, hm⟩; refine ⟨_, rfl, ?_⟩; intro iy gr; have en := hm
   replace hzst := hzst.mono a9
   replace db := db.mono a9
   replace dc := dc.mono a9
   replace dd := dd.mono a9
   replace de := de.mono a9
   replace df := df.mono a9
   replace co := co.mono a9
   replace cp := cp.mono a9
   replace cq := cq.mono a9
   replace cr := cr.mono a9
   have gs : Mem B [] w0 Z0 ((.row p [.bool (gmulABS (⟨false, []⟩ : BInt) (gmulABS (⟨false, []⟩ : BInt) u0 (rdenS u2)).2.2 (rdenS (gmulABS (⟨false, []⟩ : BInt) u0 (rdenS u2)).2.1)).1.neg, .slice dg (gmulABS (⟨false, []⟩ : BInt) (gmulABS (⟨false, []⟩ : BInt) u0 (rdenS u2)).2.2 (rdenS (gmulABS (⟨false, []⟩ : BInt) u0 (rdenS u2)).2.1)).1.abs.length dh] 69) :: (.row b8 (e71Nf ((gmulABS (⟨false, []⟩ : BInt) (gmulABS (⟨false, []⟩ : BInt) u0 (rdenS u2)).2.2 (rdenS (gmulABS (⟨false, []⟩ : BInt) u0 (rdenS u2)).2.1)).2.1) di dj dk dl) 71) :: (.row b1 (e71Nf ((gmulABS (⟨false, []⟩ : BInt) (gmulABS (⟨false, []⟩ : BInt) u0 (rdenS u2)).2.2 (rdenS (gmulABS (⟨false, []⟩ : BInt) u0 (rdenS u2)).2.1)).2.2) dm dn dp dq) 71) :: (.row l [.bool (gmulABS (⟨false, []⟩ : BInt) u0 (rdenS u2)).1.neg, .slice v (gmulABS (⟨false, []⟩ : BInt) u0 (rdenS u2)).1.abs.length x] 69) :: R :: Rr) em gl := en
   refine nl (qnI (hJ _ _ ?_))
   exact ⟨n, l, ad, ae, af, ag, v, x, ah, ai, aj, ak, U, V, W, X, p, al, am, an, ao, dg, dh, di, dj, dk, dl, dm, dn, dp, dq, E, F, H, I, L, M, au, az, pt l 0, pt b1 0, pt b1 0, pt b1 0, pt b8 0, pt b8 2, pt l 0, pt p 0, pt b8 0, pt b8 0, pt b8 0, pt b1 0, pt b1 2, pt p 0, aw, .row b1 (e71Nf ((gmulABS (⟨false, []⟩ : BInt) (gmulABS (⟨false, []⟩ : BInt) u0 (rdenS u2)).2.2 (rdenS (gmulABS (⟨false, []⟩ : BInt) u0 (rdenS u2)).2.1)).2.2) dm dn dp dq) 71, .row l [.bool (gmulABS (⟨false, []⟩ : BInt) u0 (rdenS u2)).1.neg, .slice v (gmulABS (⟨false, []⟩ : BInt) u0 (rdenS u2)).1.abs.length x] 69, R, .row p [.bool (gmulABS (⟨false, []⟩ : BInt) (gmulABS (⟨false, []⟩ : BInt) u0 (rdenS u2)).2.2 (rdenS (gmulABS (⟨false, []⟩ : BInt) u0 (rdenS u2)).2.1)).1.neg, .slice dg (gmulABS (⟨false, []⟩ : BInt) (gmulABS (⟨false, []⟩ : BInt) u0 (rdenS u2)).2.2 (rdenS (gmulABS (⟨false, []⟩ : BInt) u0 (rdenS u2)).2.1)).1.abs.length dh] 69, .row b8 (e71Nf ((gmulABS (⟨false, []⟩ : BInt) (gmulABS (⟨false, []⟩ : BInt) u0 (rdenS u2)).2.2 (rdenS (gmulABS (⟨false, []⟩ : BInt) u0 (rdenS u2)).2.1)).2.1) di dj dk dl) 71, em, g.trans hzst, gr.reg, gs.perm ((pk 2 rfl).trans (((pk 2 rfl).trans (((pk 2 rfl).trans (lpr.cons _)).cons _)).cons _)), (nt s), aB, kf, kf, kf, kf, kf, kf, kf, kf, kf, kf, kf, kf, kf, kf, (nt f), (tn d), (fun _ => nu), kf, (tn q), (fun _ => tn d), kf2, (nt f), aX, aY, (nt f), (tn ax), (fun _ => tn d), (fun _ => tn j), (fun _ => nu), kf2, (nt f), (tn bi), (fun _ => nu), kf, (fun _ => db), (fun _ => dc), (fun _ => dd), (fun _ => de), (fun _ => df), (fun _ => co), (fun _ => cp), (fun _ => cq), (fun _ => cr), (fun _ => gm), (fun _ => gn), (fun _ => go), (fun _ => gp), (fun _ => gq), (nt f), (nt f), (nt f)⟩
  ·
   obtain rfl := oj hi
   have c := hpre 14 (by kernel_rfl)
   have d := hpre 7 (by kernel_rfl)
   have bz := hpre 0 (by kernel_rfl)
   have j := hcl 14 13 (by kernel_rfl) c
   have a2 := hcl 14 11 (by kernel_rfl) c
   have bi := hcl 14 8 (by kernel_rfl) c
   have q := hcl 7 6 (by kernel_rfl) d
   have ab := hcl 7 4 (by kernel_rfl) d
   have ax := hcl 7 1 (by kernel_rfl) d
   have bA := hcl 13 12 (by kernel_rfl) j
   have a1 := hcl 11 10 (by kernel_rfl) a2
   have bd := hcl 6 5 (by kernel_rfl) q
   have aa := hcl 4 3 (by kernel_rfl) ab
   have bs := hcl 10 9 (by kernel_rfl) a1
   have aZ := hcl 3 2 (by kernel_rfl) aa
   have f := hSi
   have s := ngF hcl 16 15 f
   obtain rfl := aB bz
   obtain rfl := aC ax
   obtain rfl := aD aZ
   obtain rfl := aM aa
   obtain rfl := aV ab
   obtain rfl := aE bd
   obtain rfl := aN q
   obtain rfl := bl d
   obtain rfl := aF bi
   obtain rfl := aG bs
   obtain rfl := aO a1
   obtain rfl := aW a2
   obtain rfl := aH bA
   obtain rfl := bu j
   obtain rfl := ca c
   obtain rfl := cb c
   obtain rfl := bv d f
   obtain rfl := aY bz f
   obtain rfl := cC c f
   obtain rfl := cc c
   refine hG (any_step ?_); intro A J hJ
   have hzst := Fz.le.refl m
   have dr := aP q
   have ds := aQ q
   have cs := bn d
   have dt := bo d
   have du := bp d
   have dv := bq d
   have dw := br d
   have dx := bw j
   have dy := bx j
   have ct := cd c
   have dz := ce c
   have dA := cf c
   have dB := cg c
   have dC := ch c
   refine ck hFx 76 #[pt n 0, pt l 0, pt p 0] ?_
   refine (gaddI_fun (⟨false, []⟩ : BInt) (gmulABS (⟨false, []⟩ : BInt) u0 (rdenS u2)).1 (gmulABS (⟨false, []⟩ : BInt) (gmulABS (⟨false, []⟩ : BInt) u0 (rdenS u2)).2.2 (rdenS (gmulABS (⟨false, []⟩ : BInt) u0 (rdenS u2)).2.1)).1 fr n none 0 l v x p ap aq _ _ _ _ _ _ (SlR.nil _ _) cs ct (hMx.perm ((pk 2 rfl).trans (((pk 1 rfl).trans (((pk 1 rfl).trans (lpr.cons _)).cons _)).cons _))) hMx.fz).mono ?_; rintro _ gt ⟨dD, dE, dF, dG, dH, dI, es, rfl, av, gu, gv, gw, hm⟩; refine ⟨_, rfl, ?_⟩; intro iz gx; have et := hm
   replace hzst := hzst.mono av
   replace dr := dr.mono av
   replace ds := ds.mono av
   replace cs := cs.mono av
   replace dt := dt.mono av
   replace du := du.mono av
   replace dv := dv.mono av
   replace dw := dw.mono av
   replace dx := dx.mono av
   replace dy := dy.mono av
   replace ct := ct.mono av
   replace dz := dz.mono av
   replace dA := dA.mono av
   replace dB := dB.mono av
   replace dC := dC.mono av
   have gy : Mem B [] w0 Z0 ((.row n [.bool (gaddIS (⟨false, []⟩ : BInt) (gmulABS (⟨false, []⟩ : BInt) u0 (rdenS u2)).1 (gmulABS (⟨false, []⟩ : BInt) (gmulABS (⟨false, []⟩ : BInt) u0 (rdenS u2)).2.2 (rdenS (gmulABS (⟨false, []⟩ : BInt) u0 (rdenS u2)).2.1)).1).1.neg, .slice dD (gaddIS (⟨false, []⟩ : BInt) (gmulABS (⟨false, []⟩ : BInt) u0 (rdenS u2)).1 (gmulABS (⟨false, []⟩ : BInt) (gmulABS (⟨false, []⟩ : BInt) u0 (rdenS u2)).2.2 (rdenS (gmulABS (⟨false, []⟩ : BInt) u0 (rdenS u2)).2.1)).1).1.abs.length dE] 69) :: (.row l [.bool (gaddIS (⟨false, []⟩ : BInt) (gmulABS (⟨false, []⟩ : BInt) u0 (rdenS u2)).1 (gmulABS (⟨false, []⟩ : BInt) (gmulABS (⟨false, []⟩ : BInt) u0 (rdenS u2)).2.2 (rdenS (gmulABS (⟨false, []⟩ : BInt) u0 (rdenS u2)).2.1)).1).2.1.neg, .slice dF (gaddIS (⟨false, []⟩ : BInt) (gmulABS (⟨false, []⟩ : BInt) u0 (rdenS u2)).1 (gmulABS (⟨false, []⟩ : BInt) (gmulABS (⟨false, []⟩ : BInt) u0 (rdenS u2)).2.2 (rdenS (gmulABS (⟨false, []⟩ : BInt) u0 (rdenS u2)).2.1)).1).2.1.abs.length dG] 69) :: (.row p [.bool (gaddIS (⟨false, []⟩ : BInt) (gmulABS (⟨false, []⟩ : BInt) u0 (rdenS u2)).1 (gmulABS (⟨false, []⟩ : BInt) (gmulABS (⟨false, []⟩ : BInt) u0 (rdenS u2)).2.2 (rdenS (gmulABS (⟨false, []⟩ : BInt) u0 (rdenS u2)).2.1)).1).2.2.neg, .slice dH (gaddIS (⟨false, []⟩ : BInt) (gmulABS (⟨false, []⟩ : BInt) u0 (rdenS u2)).1 (gmulABS (⟨false, []⟩ : BInt) (gmulABS (⟨false, []⟩ : BInt) u0 (rdenS u2)).2.2 (rdenS (gmulABS (⟨false, []⟩ : BInt) u0 (rdenS u2)).2.1)).1).2.2.abs.length dI] 69) :: (.row b1 (e71Nf ((gmulABS (⟨false, []⟩ : BInt) (gmulABS (⟨false, []⟩ : BInt) u0 (rdenS u2)).2.2 (rdenS (gmulABS (⟨false, []⟩ : BInt) u0 (rdenS u2)).2.1)).2.2) N O P Q) 71) :: (.row b8 (e71Nf ((gmulABS (⟨false, []⟩ : BInt) (gmulABS (⟨false, []⟩ : BInt) u0 (rdenS u2)).2.2 (rdenS (gmulABS (⟨false, []⟩ : BInt) u0 (rdenS u2)).2.1)).2.1) y z C D) 71) :: Rr) es gt := et
   refine nl (qnI (hJ _ _ ?_))
   exact ⟨n, l, ad, ae, af, ag, v, x, ah, ai, aj, ak, U, V, W, X, p, al, am, an, ao, ap, aq, y, z, C, D, N, O, P, Q, dD, dE, dF, dG, dH, dI, au, pt n 0, pt l 0, pt b1 0, pt b1 0, pt b1 0, pt b8 0, pt b8 2, pt l 0, pt p 0, pt b8 0, pt b8 0, pt b8 0, pt b1 0, pt b1 2, pt p 0, pt n 0, .row b1 (e71Nf ((gmulABS (⟨false, []⟩ : BInt) (gmulABS (⟨false, []⟩ : BInt) u0 (rdenS u2)).2.2 (rdenS (gmulABS (⟨false, []⟩ : BInt) u0 (rdenS u2)).2.1)).2.2) N O P Q) 71, .row l [.bool (gaddIS (⟨false, []⟩ : BInt) (gmulABS (⟨false, []⟩ : BInt) u0 (rdenS u2)).1 (gmulABS (⟨false, []⟩ : BInt) (gmulABS (⟨false, []⟩ : BInt) u0 (rdenS u2)).2.2 (rdenS (gmulABS (⟨false, []⟩ : BInt) u0 (rdenS u2)).2.1)).1).2.1.neg, .slice dF (gaddIS (⟨false, []⟩ : BInt) (gmulABS (⟨false, []⟩ : BInt) u0 (rdenS u2)).1 (gmulABS (⟨false, []⟩ : BInt) (gmulABS (⟨false, []⟩ : BInt) u0 (rdenS u2)).2.2 (rdenS (gmulABS (⟨false, []⟩ : BInt) u0 (rdenS u2)).2.1)).1).2.1.abs.length dG] 69, .row p [.bool (gaddIS (⟨false, []⟩ : BInt) (gmulABS (⟨false, []⟩ : BInt) u0 (rdenS u2)).1 (gmulABS (⟨false, []⟩ : BInt) (gmulABS (⟨false, []⟩ : BInt) u0 (rdenS u2)).2.2 (rdenS (gmulABS (⟨false, []⟩ : BInt) u0 (rdenS u2)).2.1)).1).2.2.neg, .slice dH (gaddIS (⟨false, []⟩ : BInt) (gmulABS (⟨false, []⟩ : BInt) u0 (rdenS u2)).1 (gmulABS (⟨false, []⟩ : BInt) (gmulABS (⟨false, []⟩ : BInt) u0 (rdenS u2)).2.2 (rdenS (gmulABS (⟨false, []⟩ : BInt) u0 (rdenS u2)).2.1)).1).2.2.abs.length dI] 69, .row n [.bool (gaddIS (⟨false, []⟩ : BInt) (gmulABS (⟨false, []⟩ : BInt) u0 (rdenS u2)).1 (gmulABS (⟨false, []⟩ : BInt) (gmulABS (⟨false, []⟩ : BInt) u0 (rdenS u2)).2.2 (rdenS (gmulABS (⟨false, []⟩ : BInt) u0 (rdenS u2)).2.1)).1).1.neg, .slice dD (gaddIS (⟨false, []⟩ : BInt) (gmulABS (⟨false, []⟩ : BInt) u0 (rdenS u2)).1 (gmulABS (⟨false, []⟩ : BInt) (gmulABS (⟨false, []⟩ : BInt) u0 (rdenS u2)).2.2 (rdenS (gmulABS (⟨false, []⟩ : BInt) u0 (rdenS u2)).2.1)).1).1.abs.length dE] 69, .row b8 (e71Nf ((gmulABS (⟨false, []⟩ : BInt) (gmulABS (⟨false, []⟩ : BInt) u0 (rdenS u2)).2.2 (rdenS (gmulABS (⟨false, []⟩ : BInt) u0 (rdenS u2)).2.1)).2.1) y z C D) 71, es, g.trans hzst, gx.reg, gy.perm ((pk 3 rfl).trans (((pk 1 rfl).trans (((pk 1 rfl).trans (lpr.cons _)).cons _)).cons _)), (nt s), kf, kf, kf, kf, kf, kf, kf, kf, kf, kf, kf, kf, kf, kf, kf, kf, (tn d), (fun _ => tn c), kf, (tn q), (fun _ => tn d), (fun _ => nu), kf, (tn bz), (fun _ => nu), kf, (tn ax), (fun _ => tn d), (fun _ => tn j), (fun _ => tn c), (fun _ => nu), kf, (tn bi), (fun _ => tn c), kf, (fun _ => dr), (fun _ => ds), (fun _ => cs), (fun _ => dt), (fun _ => du), (fun _ => dv), (fun _ => dw), (fun _ => dx), (fun _ => dy), (fun _ => ct), (fun _ => dz), (fun _ => dA), (fun _ => dB), (fun _ => dC), (fun _ => gu), (fun _ => gv), (fun _ => gw)⟩
  obtain rfl := oj hi
  have f := hpre 15 (by kernel_rfl)
  have c := hpre 14 (by kernel_rfl)
  have j := hpre 13 (by kernel_rfl)
  have bA := hpre 12 (by kernel_rfl)
  have a2 := hpre 11 (by kernel_rfl)
  have a1 := hpre 10 (by kernel_rfl)
  have bs := hpre 9 (by kernel_rfl)
  have bi := hpre 8 (by kernel_rfl)
  have d := hpre 7 (by kernel_rfl)
  have q := hpre 6 (by kernel_rfl)
  have bd := hpre 5 (by kernel_rfl)
  have ab := hpre 4 (by kernel_rfl)
  have aa := hpre 3 (by kernel_rfl)
  have aZ := hpre 2 (by kernel_rfl)
  have ax := hpre 1 (by kernel_rfl)
  have bz := hpre 0 (by kernel_rfl)
  obtain rfl := aB bz
  obtain rfl := aC ax
  obtain rfl := aD aZ
  obtain rfl := aM aa
  obtain rfl := aV ab
  obtain rfl := aE bd
  obtain rfl := aN q
  obtain rfl := bl d
  obtain rfl := aF bi
  obtain rfl := aG bs
  obtain rfl := aO a1
  obtain rfl := aW a2
  obtain rfl := aH bA
  obtain rfl := bu j
  obtain rfl := ca c
  obtain rfl := cz f
  obtain rfl := cb c
  obtain rfl := cA f
  obtain rfl := cB f
  obtain rfl := cD f
  obtain rfl := cc c
  refine hG (any_step ?_); intro A J hJ
  have gz := aP q
  have gA := aQ q
  have gB := bn d
  have gC := bo d
  have gD := bp d
  have gE := bq d
  have gF := br d
  have gG := bw j
  have gH := bx j
  have gI := cd c
  have gJ := ce c
  have gK := cf c
  have gL := cg c
  have gM := ch c
  have gN := cE f
  have gO := cF f
  have gP := cG f
  refine s1 hFx 7 (pt n 0) ?_; intro iE gQ
  refine nl (qnI (hJ _ _ ?_))
  exact ⟨n, l, ad, ae, af, ag, v, x, ah, ai, aj, ak, U, V, W, X, p, al, am, an, ao, ap, aq, y, z, C, D, N, O, P, Q, E, F, H, I, L, M, pt n 0, pt n 0, pt l 0, pt b1 0, pt b1 0, pt b1 0, pt b8 0, pt b8 2, pt l 0, pt p 0, pt b8 0, pt b8 0, pt b8 0, pt b1 0, pt b1 2, pt p 0, pt n 0, .row b1 (e71Nf ((gmulABS (⟨false, []⟩ : BInt) (gmulABS (⟨false, []⟩ : BInt) u0 (rdenS u2)).2.2 (rdenS (gmulABS (⟨false, []⟩ : BInt) u0 (rdenS u2)).2.1)).2.2) N O P Q) 71, .row l [.bool (gaddIS (⟨false, []⟩ : BInt) (gmulABS (⟨false, []⟩ : BInt) u0 (rdenS u2)).1 (gmulABS (⟨false, []⟩ : BInt) (gmulABS (⟨false, []⟩ : BInt) u0 (rdenS u2)).2.2 (rdenS (gmulABS (⟨false, []⟩ : BInt) u0 (rdenS u2)).2.1)).1).2.1.neg, .slice H (gaddIS (⟨false, []⟩ : BInt) (gmulABS (⟨false, []⟩ : BInt) u0 (rdenS u2)).1 (gmulABS (⟨false, []⟩ : BInt) (gmulABS (⟨false, []⟩ : BInt) u0 (rdenS u2)).2.2 (rdenS (gmulABS (⟨false, []⟩ : BInt) u0 (rdenS u2)).2.1)).1).2.1.abs.length I] 69, .row p [.bool (gaddIS (⟨false, []⟩ : BInt) (gmulABS (⟨false, []⟩ : BInt) u0 (rdenS u2)).1 (gmulABS (⟨false, []⟩ : BInt) (gmulABS (⟨false, []⟩ : BInt) u0 (rdenS u2)).2.2 (rdenS (gmulABS (⟨false, []⟩ : BInt) u0 (rdenS u2)).2.1)).1).2.2.neg, .slice L (gaddIS (⟨false, []⟩ : BInt) (gmulABS (⟨false, []⟩ : BInt) u0 (rdenS u2)).1 (gmulABS (⟨false, []⟩ : BInt) (gmulABS (⟨false, []⟩ : BInt) u0 (rdenS u2)).2.2 (rdenS (gmulABS (⟨false, []⟩ : BInt) u0 (rdenS u2)).2.1)).1).2.2.abs.length M] 69, .row n [.bool (gaddIS (⟨false, []⟩ : BInt) (gmulABS (⟨false, []⟩ : BInt) u0 (rdenS u2)).1 (gmulABS (⟨false, []⟩ : BInt) (gmulABS (⟨false, []⟩ : BInt) u0 (rdenS u2)).2.2 (rdenS (gmulABS (⟨false, []⟩ : BInt) u0 (rdenS u2)).2.1)).1).1.neg, .slice E (gaddIS (⟨false, []⟩ : BInt) (gmulABS (⟨false, []⟩ : BInt) u0 (rdenS u2)).1 (gmulABS (⟨false, []⟩ : BInt) (gmulABS (⟨false, []⟩ : BInt) u0 (rdenS u2)).2.2 (rdenS (gmulABS (⟨false, []⟩ : BInt) u0 (rdenS u2)).2.1)).1).1.abs.length F] 69, .row b8 (e71Nf ((gmulABS (⟨false, []⟩ : BInt) (gmulABS (⟨false, []⟩ : BInt) u0 (rdenS u2)).2.2 (rdenS (gmulABS (⟨false, []⟩ : BInt) u0 (rdenS u2)).2.1)).2.1) y z C D) 71, m, g, gQ.reg, hMx.perm lpr, kf, kf, kf, kf, kf, kf, kf, kf, kf, kf, kf, kf, kf, kf, kf, kf, kf, (tn d), (fun _ => tn c), kf, (tn q), (fun _ => tn d), (fun _ => tn f), kf, (tn bz), (fun _ => tn f), kf, (tn ax), (fun _ => tn d), (fun _ => tn j), (fun _ => tn c), (fun _ => tn f), kf, (tn bi), (fun _ => tn c), kf, (fun _ => gz), (fun _ => gA), (fun _ => gB), (fun _ => gC), (fun _ => gD), (fun _ => gE), (fun _ => gF), (fun _ => gG), (fun _ => gH), (fun _ => gI), (fun _ => gJ), (fun _ => gK), (fun _ => gL), (fun _ => gM), (fun _ => gN), (fun _ => gO), (fun _ => gP)⟩
 case hE =>
  intro S hS gR iF hI; refine Go.Sy.hid ?_; intro G hG; obtain ⟨n, l, ad, ae, af, ag, v, x, ah, ai, aj, ak, U, V, W, X, p, al, am, an, ao, ap, aq, y, z, hI⟩ := hI; obtain ⟨C, D, N, O, P, Q, E, F, H, I, L, M, au, az, a3, be, ba, a4, bb, a5, aS, aI, a6, aT, aJ, hI⟩ := hI; obtain ⟨aU, aK, aA, aw, bk, aL, R, ar, Y, m, g, hFx, hMx, d0, aB, aC, aD, aM, aV, aE, aN, bl, aF, aG, aO, hI⟩ := hI; obtain ⟨aW, aH, bu, ca, cz, bc, bB, cb, bf, bm, bv, cA, aX, aY, cB, bg, bh, bJ, b5, cC, cD, a7, a8, cc, aP, hI⟩ := hI; obtain ⟨aQ, bn, bo, bp, bq, br, bw, bx, cd, ce, cf, cg, ch, cE, cF, hI⟩ := hI; refine hG ?_
  obtain rfl := d0 (hS 16 (by decide))
  obtain rfl := aB (hS 0 (by decide))
  obtain rfl := aC (hS 1 (by decide))
  obtain rfl := aD (hS 2 (by decide))
  obtain rfl := aM (hS 3 (by decide))
  obtain rfl := aV (hS 4 (by decide))
  obtain rfl := aE (hS 5 (by decide))
  obtain rfl := aN (hS 6 (by decide))
  obtain rfl := bl (hS 7 (by decide))
  obtain rfl := aF (hS 8 (by decide))
  obtain rfl := aG (hS 9 (by decide))
  obtain rfl := aO (hS 10 (by decide))
  obtain rfl := aW (hS 11 (by decide))
  obtain rfl := aH (hS 12 (by decide))
  obtain rfl := bu (hS 13 (by decide))
  obtain rfl := ca (hS 14 (by decide))
  obtain rfl := cz (hS 15 (by decide))
  obtain rfl := cb (hS 14 (by decide))
  obtain rfl := cA (hS 15 (by decide))
  obtain rfl := cB (hS 15 (by decide))
  obtain rfl := cD (hS 15 (by decide))
  obtain rfl := cc (hS 14 (by decide))
  have k := Fz.le.trans k g
  have bC := ce (hS 14 (by decide))
  have bD := cf (hS 14 (by decide))
  have bE := cg (hS 14 (by decide))
  have bF := ch (hS 14 (by decide))
  have bG := cE (hS 15 (by decide))
  apply t_
  have eu : Fr 33 [] [⟨0, [], pt b1 0⟩, ⟨1, [], pt b1 0⟩, ⟨2, [], pt b8 0⟩, ⟨7, [], pt n 0⟩] gR := hFx.reg
  refine sqH ?_; intro gS ev
  refine bt eu hMx 2 [] [] [(24, pt b1 0), (25, pt n 0)] ?_; intro iG ew
  refine nw ew hMx pb [.bool false, .slice none 0 0] 69 ?_; intro b2 iH iI ex dJ
  refine s1 ex 27 (pt b1 0) ?_; intro iJ ey
  obtain ⟨gT, ez⟩ := fs
  refine ck ey 78 #[pt b1 0] ?_
  obtain ⟨bH, gU, eA⟩ := hxq ez
  have h9 := rden_fun (gmulABS (⟨false, []⟩ : BInt) (gmulABS (⟨false, []⟩ : BInt) u0 (rdenS u2)).2.2 (rdenS (gmulABS (⟨false, []⟩ : BInt) u0 (rdenS u2)).2.1)).2.2 gT b1 N O P Q _ _ _ _ _ _ bE bF (dJ.perm (pk 1 rfl)) dJ.fz; rw [gU] at h9; refine h9.mono ?_; rintro _ gV ⟨dK, dL, dM, dN, gW, rfl, ac, b3, b4, hm⟩; refine ⟨_, rfl, ?_⟩; intro iK eB; have eC := hm
  replace bC := bC.mono ac
  replace bD := bD.mono ac
  replace bG := bG.mono ac
  replace k := Fz.le.trans k ac
  have dO : Mem B [] w0 Z0 ((.row b1 (e71Nf bH dK dL dM dN) 71) :: (.row b2 [.bool false, .slice none 0 0] 69) :: (.row l [.bool (gaddIS (⟨false, []⟩ : BInt) (gmulABS (⟨false, []⟩ : BInt) u0 (rdenS u2)).1 (gmulABS (⟨false, []⟩ : BInt) (gmulABS (⟨false, []⟩ : BInt) u0 (rdenS u2)).2.2 (rdenS (gmulABS (⟨false, []⟩ : BInt) u0 (rdenS u2)).2.1)).1).2.1.neg, .slice H (gaddIS (⟨false, []⟩ : BInt) (gmulABS (⟨false, []⟩ : BInt) u0 (rdenS u2)).1 (gmulABS (⟨false, []⟩ : BInt) (gmulABS (⟨false, []⟩ : BInt) u0 (rdenS u2)).2.2 (rdenS (gmulABS (⟨false, []⟩ : BInt) u0 (rdenS u2)).2.1)).1).2.1.abs.length I] 69) :: (.row p [.bool (gaddIS (⟨false, []⟩ : BInt) (gmulABS (⟨false, []⟩ : BInt) u0 (rdenS u2)).1 (gmulABS (⟨false, []⟩ : BInt) (gmulABS (⟨false, []⟩ : BInt) u0 (rdenS u2)).2.2 (rdenS (gmulABS (⟨false, []⟩ : BInt) u0 (rdenS u2)).2.1)).1).2.2.neg, .slice L (gaddIS (⟨false, []⟩ : BInt) (gmulABS (⟨false, []⟩ : BInt) u0 (rdenS u2)).1 (gmulABS (⟨false, []⟩ : BInt) (gmulABS (⟨false, []⟩ : BInt) u0 (rdenS u2)).2.2 (rdenS (gmulABS (⟨false, []⟩ : BInt) u0 (rdenS u2)).2.1)).1).2.2.abs.length M] 69) :: (.row n [.bool (gaddIS (⟨false, []⟩ : BInt) (gmulABS (⟨false, []⟩ : BInt) u0 (rdenS u2)).1 (gmulABS (⟨false, []⟩ : BInt) (gmulABS (⟨false, []⟩ : BInt) u0 (rdenS u2)).2.2 (rdenS (gmulABS (⟨false, []⟩ : BInt) u0 (rdenS u2)).2.1)).1).1.neg, .slice E (gaddIS (⟨false, []⟩ : BInt) (gmulABS (⟨false, []⟩ : BInt) u0 (rdenS u2)).1 (gmulABS (⟨false, []⟩ : BInt) (gmulABS (⟨false, []⟩ : BInt) u0 (rdenS u2)).2.2 (rdenS (gmulABS (⟨false, []⟩ : BInt) u0 (rdenS u2)).2.1)).1).1.abs.length F] 69) :: (.row b8 (e71Nf ((gmulABS (⟨false, []⟩ : BInt) (gmulABS (⟨false, []⟩ : BInt) u0 (rdenS u2)).2.2 (rdenS (gmulABS (⟨false, []⟩ : BInt) u0 (rdenS u2)).2.1)).2.1) y z C D) 71) :: Rr) gW gV := eC
  have gX := eA (b3.small) (b4.small)
  refine s1 eB 29 (pt b8 0) ?_; intro iL eE
  obtain ⟨gY, eF⟩ := gX
  refine ck eE 78 #[pt b8 0] ?_
  obtain ⟨ci, gZ, eG⟩ := hxq eF
  have h9 := rden_fun (gmulABS (⟨false, []⟩ : BInt) (gmulABS (⟨false, []⟩ : BInt) u0 (rdenS u2)).2.2 (rdenS (gmulABS (⟨false, []⟩ : BInt) u0 (rdenS u2)).2.1)).2.1 gY b8 y z C D _ _ _ _ _ _ bC bD (dO.perm (pk 5 rfl)) dO.fz; rw [gZ] at h9; refine h9.mono ?_; rintro _ g0 ⟨eH, eI, eJ, eK, g1, rfl, T, b7, b9, hm⟩; refine ⟨_, rfl, ?_⟩; intro iM eL; have eM := hm
  replace bG := bG.mono T
  replace b3 := b3.mono T
  replace b4 := b4.mono T
  replace k := Fz.le.trans k T
  have dP : Mem B [] w0 Z0 ((.row b8 (e71Nf ci eH eI eJ eK) 71) :: (.row b1 (e71Nf bH dK dL dM dN) 71) :: (.row b2 [.bool false, .slice none 0 0] 69) :: (.row l [.bool (gaddIS (⟨false, []⟩ : BInt) (gmulABS (⟨false, []⟩ : BInt) u0 (rdenS u2)).1 (gmulABS (⟨false, []⟩ : BInt) (gmulABS (⟨false, []⟩ : BInt) u0 (rdenS u2)).2.2 (rdenS (gmulABS (⟨false, []⟩ : BInt) u0 (rdenS u2)).2.1)).1).2.1.neg, .slice H (gaddIS (⟨false, []⟩ : BInt) (gmulABS (⟨false, []⟩ : BInt) u0 (rdenS u2)).1 (gmulABS (⟨false, []⟩ : BInt) (gmulABS (⟨false, []⟩ : BInt) u0 (rdenS u2)).2.2 (rdenS (gmulABS (⟨false, []⟩ : BInt) u0 (rdenS u2)).2.1)).1).2.1.abs.length I] 69) :: (.row p [.bool (gaddIS (⟨false, []⟩ : BInt) (gmulABS (⟨false, []⟩ : BInt) u0 (rdenS u2)).1 (gmulABS (⟨false, []⟩ : BInt) (gmulABS (⟨false, []⟩ : BInt) u0 (rdenS u2)).2.2 (rdenS (gmulABS (⟨false, []⟩ : BInt) u0 (rdenS u2)).2.1)).1).2.2.neg, .slice L (gaddIS (⟨false, []⟩ : BInt) (gmulABS (⟨false, []⟩ : BInt) u0 (rdenS u2)).1 (gmulABS (⟨false, []⟩ : BInt) (gmulABS (⟨false, []⟩ : BInt) u0 (rdenS u2)).2.2 (rdenS (gmulABS (⟨false, []⟩ : BInt) u0 (rdenS u2)).2.1)).1).2.2.abs.length M] 69) :: (.row n [.bool (gaddIS (⟨false, []⟩ : BInt) (gmulABS (⟨false, []⟩ : BInt) u0 (rdenS u2)).1 (gmulABS (⟨false, []⟩ : BInt) (gmulABS (⟨false, []⟩ : BInt) u0 (rdenS u2)).2.2 (rdenS (gmulABS (⟨false, []⟩ : BInt) u0 (rdenS u2)).2.1)).1).1.neg, .slice E (gaddIS (⟨false, []⟩ : BInt) (gmulABS (⟨false, []⟩ : BInt) u0 (rdenS u2)).1 (gmulABS (⟨false, []⟩ : BInt) (gmulABS (⟨false, []⟩ : BInt) u0 (rdenS u2)).2.2 (rdenS (gmulABS (⟨false, []⟩ : BInt) u0 (rdenS u2)).2.1)).1).1.abs.length F] 69) :: Rr) g1 g0 := eM
  obtain ⟨g3, eO⟩ := eG (b7.small) (b9.small)
  refine ck eL 77 #[pt b2 0, pt b1 2, pt b8 2] ?_
  obtain ⟨aR, g4, eP⟩ := hxq eO
  have h9 := gmulBB_fun (⟨false, []⟩ : BInt) bH ci g3 b2 none 0 b1 dK dL dM dN b8 eH eI eJ eK _ _ _ _ _ _ (SlR.nil _ _) b3 b4 b7 b9 (dP.perm ((pk 2 rfl).trans (((pk 1 rfl).trans (lpr.cons _)).cons _))) dP.fz; rw [g4] at h9; refine h9.mono ?_; rintro _ g5 ⟨eQ, eR, eS, eT, eU, eV, dQ, dR, dS, dT, g6, rfl, u, cu, cv, cw, cx, cy, hm⟩; refine ⟨_, rfl, ?_⟩; intro iN eW; have eX := hm
  replace bG := bG.mono u
  replace k := Fz.le.trans k u
  have dU : Mem B [] w0 Z0 ((.row b2 [.bool aR.1.neg, .slice eQ aR.1.abs.length eR] 69) :: (.row b1 (e71Nf aR.2.1 eS eT eU eV) 71) :: (.row b8 (e71Nf aR.2.2 dQ dR dS dT) 71) :: (.row l [.bool (gaddIS (⟨false, []⟩ : BInt) (gmulABS (⟨false, []⟩ : BInt) u0 (rdenS u2)).1 (gmulABS (⟨false, []⟩ : BInt) (gmulABS (⟨false, []⟩ : BInt) u0 (rdenS u2)).2.2 (rdenS (gmulABS (⟨false, []⟩ : BInt) u0 (rdenS u2)).2.1)).1).2.1.neg, .slice H (gaddIS (⟨false, []⟩ : BInt) (gmulABS (⟨false, []⟩ : BInt) u0 (rdenS u2)).1 (gmulABS (⟨false, []⟩ : BInt) (gmulABS (⟨false, []⟩ : BInt) u0 (rdenS u2)).2.2 (rdenS (gmulABS (⟨false, []⟩ : BInt) u0 (rdenS u2)).2.1)).1).2.1.abs.length I] 69) :: (.row p [.bool (gaddIS (⟨false, []⟩ : BInt) (gmulABS (⟨false, []⟩ : BInt) u0 (rdenS u2)).1 (gmulABS (⟨false, []⟩ : BInt) (gmulABS (⟨false, []⟩ : BInt) u0 (rdenS u2)).2.2 (rdenS (gmulABS (⟨false, []⟩ : BInt) u0 (rdenS u2)).2.1)).1).2.2.neg, .slice L (gaddIS (⟨false, []⟩ : BInt) (gmulABS (⟨false, []⟩ : BInt) u0 (rdenS u2)).1 (gmulABS (⟨false, []⟩ : BInt) (gmulABS (⟨false, []⟩ : BInt) u0 (rdenS u2)).2.2 (rdenS (gmulABS (⟨false, []⟩ : BInt) u0 (rdenS u2)).2.1)).1).2.2.abs.length M] 69) :: (.row n [.bool (gaddIS (⟨false, []⟩ : BInt) (gmulABS (⟨false, []⟩ : BInt) u0 (rdenS u2)).1 (gmulABS (⟨false, []⟩ : BInt) (gmulABS (⟨false, []⟩ : BInt) u0 (rdenS u2)).2.2 (rdenS (gmulABS (⟨false, []⟩ : BInt) u0 (rdenS u2)).2.1)).1).1.neg, .slice E (gaddIS (⟨false, []⟩ : BInt) (gmulABS (⟨false, []⟩ : BInt) u0 (rdenS u2)).1 (gmulABS (⟨false, []⟩ : BInt) (gmulABS (⟨false, []⟩ : BInt) u0 (rdenS u2)).2.2 (rdenS (gmulABS (⟨false, []⟩ : BInt) u0 (rdenS u2)).2.1)).1).1.abs.length F] 69) :: Rr) g6 g5 := eX
  obtain ⟨g8, e2⟩ := eP (cu.small) (cv.small) (cw.small) (cx.small) (cy.small)
  refine ck eW 75 #[pt b1 0, pt n 0, pt b2 0] ?_
  obtain ⟨bI, g9, e3⟩ := hxq e2
  have h9 := rsf_fun aR.2.1 (gaddIS (⟨false, []⟩ : BInt) (gmulABS (⟨false, []⟩ : BInt) u0 (rdenS u2)).1 (gmulABS (⟨false, []⟩ : BInt) (gmulABS (⟨false, []⟩ : BInt) u0 (rdenS u2)).2.2 (rdenS (gmulABS (⟨false, []⟩ : BInt) u0 (rdenS u2)).2.1)).1).1 aR.1 g8 b1 eS eT eU eV n E F b2 eQ eR _ _ _ _ _ _ cv cw bG cu (dU.perm ((pk 1 rfl).trans (((pk 4 rfl).trans (lpr.cons _)).cons _))) dU.fz; rw [g9] at h9; refine h9.mono ?_; rintro _ ha ⟨e4, e5, e6, e7, hb, hc, hd, he, e8, rfl, t, e9, fa, hf, hg, hm⟩; refine ⟨_, rfl, ?_⟩; intro iO fb; have fc := hm
  replace cx := cx.mono t
  replace cy := cy.mono t
  replace k := Fz.le.trans k t
  have hh : Mem B [] w0 Z0 ((.row b1 (e71Nf bI.1 e4 e5 e6 e7) 71) :: (.row n [.bool bI.2.1.neg, .slice hb bI.2.1.abs.length hc] 69) :: (.row b2 [.bool bI.2.2.neg, .slice hd bI.2.2.abs.length he] 69) :: (.row b8 (e71Nf aR.2.2 dQ dR dS dT) 71) :: (.row l [.bool (gaddIS (⟨false, []⟩ : BInt) (gmulABS (⟨false, []⟩ : BInt) u0 (rdenS u2)).1 (gmulABS (⟨false, []⟩ : BInt) (gmulABS (⟨false, []⟩ : BInt) u0 (rdenS u2)).2.2 (rdenS (gmulABS (⟨false, []⟩ : BInt) u0 (rdenS u2)).2.1)).1).2.1.neg, .slice H (gaddIS (⟨false, []⟩ : BInt) (gmulABS (⟨false, []⟩ : BInt) u0 (rdenS u2)).1 (gmulABS (⟨false, []⟩ : BInt) (gmulABS (⟨false, []⟩ : BInt) u0 (rdenS u2)).2.2 (rdenS (gmulABS (⟨false, []⟩ : BInt) u0 (rdenS u2)).2.1)).1).2.1.abs.length I] 69) :: (.row p [.bool (gaddIS (⟨false, []⟩ : BInt) (gmulABS (⟨false, []⟩ : BInt) u0 (rdenS u2)).1 (gmulABS (⟨false, []⟩ : BInt) (gmulABS (⟨false, []⟩ : BInt) u0 (rdenS u2)).2.2 (rdenS (gmulABS (⟨false, []⟩ : BInt) u0 (rdenS u2)).2.1)).1).2.2.neg, .slice L (gaddIS (⟨false, []⟩ : BInt) (gmulABS (⟨false, []⟩ : BInt) u0 (rdenS u2)).1 (gmulABS (⟨false, []⟩ : BInt) (gmulABS (⟨false, []⟩ : BInt) u0 (rdenS u2)).2.2 (rdenS (gmulABS (⟨false, []⟩ : BInt) u0 (rdenS u2)).2.1)).1).2.2.abs.length M] 69) :: Rr) e8 ha := fc
  have hj := e3 (e9.small) (fa.small) (hf.small) (hg.small)
  refine s1 fb 6 (pt b1 0) ?_; intro iP hk
  apply ev
  exact r_ (ra1 hk (pt b1 0) ⟨(bI.1, aR.2.2), e4, e5, e6, e7, dQ, dR, dS, dT, e8, rfl, hj, k, e9, fa, cx, cy, hh.kp⟩)

theorem rdenom_walk (u0 : BRat) (b1 : Nat) (ao2 : Option Addr) (cap3 : Nat) (ao5 : Option Addr) (cap6 : Nat) (B : Nat) (w0 : World) (Z0 : Fz) (Rr : List Res) (Z : Fz) (w : World) (hs4 : SlR (tyInt .u32) Z ao2 cap3 u0.a.abs) (hs7 : SlR (tyInt .u32) Z ao5 cap6 u0.b.abs) (hM0 : Mem B [] w0 Z0 ((.row b1 [.bool u0.a.neg, .slice ao2 u0.a.abs.length cap3, .bool u0.b.neg, .slice ao5 u0.b.abs.length cap6] 71) :: Rr) Z w) (hZ : Z.on w) {K : (BRat × BInt) → Prop} (hp : rdenom_vc u0 K) : Calls Tryd.prog 44 #[pt b1 0] w fun e w' => ∃ (r : BRat × BInt) (ao1001 : Option Addr) (cap1002 : Nat) (ao1004 : Option Addr) (cap1005 : Nat) (b1007 : Nat) (ao1008 : Option Addr) (cap1009 : Nat) (Z' : Fz), e = .returned (pt b1007 0) ∧ K r ∧ Fz.le Z Z' ∧ SlR (tyInt .u32) Z' ao1001 cap1002 r.1.a.abs ∧ SlR (tyInt .u32) Z' ao1004 cap1005 r.1.b.abs ∧ SlR (tyInt .u32) Z' ao1008 cap1009 r.2.abs ∧ Mem B [] w0 Z0 ((.row b1007 [.bool r.2.neg, .slice ao1008 r.2.abs.length cap1009] 69) :: (.row b1 [.bool r.1.a.neg, .slice ao1001 r.1.a.abs.length cap1002, .bool r.1.b.neg, .slice ao1004 r.1.b.abs.length cap1005] 71) :: Rr) Z' w' := by
 refine enter0 Tryd.func44 rfl rfl (by kernel_rfl) ?_; intro a0 G; have h := Fz.le.refl Z
 have am := hp (hs4.small) (hs7.small)
 refine sqB G hM0 [] [] [] ?_; intro aG I
 refine sqH ?_; intro an J
 refine nw I hM0 pb [.bool false, .slice none 0 0] 69 ?_; intro d aH aI L q
 refine s1 L 4 (pt b1 0) ?_; intro aJ M
 obtain ⟨ao, N⟩ := am
 refine ck M 78 #[pt b1 0] ?_
 obtain ⟨c, ap, O⟩ := hxq N
 have s := rden_fun u0 ao b1 ao2 cap3 ao5 cap6 _ _ _ _ _ _ hs4 hs7 (q.perm (pk 1 rfl)) q.fz; rw [ap] at s; refine s.mono ?_; rintro _ aq ⟨l, m, f, g, P, rfl, t, j, i, hm⟩; refine ⟨_, rfl, ?_⟩; intro aK Q; have R := hm
 replace h := Fz.le.trans h t
 have u : Mem B [] w0 Z0 ((.row b1 (e71Nf c l m f g) 71) :: (.row d [.bool false, .slice none 0 0] 69) :: Rr) P aq := R
 have ar := O (j.small) (i.small)
 refine ck Q 80 #[pt d 0, pt b1 2] ?_
 refine enter0 Tryd.func80 rfl rfl (by kernel_rfl) ?_; intro au T
 have U : Fr 16 [] [⟨0, [], pt d 0⟩, ⟨1, [], pt b1 2⟩] au := T.reg
 refine sqB U u [] [] [] ?_; intro av V
 have W : Fr 16 [] [⟨0, [], pt d 0⟩, ⟨1, [], pt b1 2⟩] av := V.reg
 refine wp_seq (rgS mixed u [(0, true), (1, true), (2, true), (3, true), (4, true), (5, true), (6, true), (7, true), (8, true), (9, false), (10, false), (11, true)] [] [0] [.row b1 (e71Nf c l m f g) 71] ?_)
 intro aw X aL v
 have k := Fz.le.refl P
 refine cS W 9 [0, 0] [] [(5, pt d 0), (9, .bool c.b.neg), (13, .slice f c.b.abs.length g)] ?_; intro aM Y
 refine eS rfl ?_; intro ax aa
 obtain ⟨ay, az⟩ := ar
 refine ck Y 88 #[.slice f c.b.abs.length g] ?_
 refine (gtwin_fun c.b.abs ay f g _ _ i v.fz).mono ?_; rintro _ ab ⟨x, y, aA, rfl, hm⟩; refine ⟨_, rfl, ?_⟩; intro aN ac; have ad := v.callZ hm; have o := hm.ext.le
 replace j := j.mono o
 replace i := i.mono o
 replace k := k.mono o
 replace h := Fz.le.trans h o
 have ae : Mem B [] w0 Z0 ((.own (tyInt .u32) 109 x y (gtwinS c.b.abs)) :: (.row b1 (e71Nf c l m f g) 71) :: (.row d [.bool false, .slice none 0 0] 69) :: Rr) aA ab := ad
 refine nl (qnI (aa _ _ (ae.cst k [1]) ?_))
 refine eS rfl ?_; intro aB af
 obtain ⟨aC, p, ag, z⟩ := ae.freeze 0 rfl
 replace j := j.mono p
 replace i := i.mono p
 replace k := k.mono p
 replace h := Fz.le.trans h p
 have A : Mem B [] w0 Z0 ((.row b1 (e71Nf c l m f g) 71) :: (.row d [.bool false, .slice none 0 0] 69) :: Rr) aC ab := ag
 refine ck ac 83 #[pt d 0, .bool c.b.neg, .slice x (gtwinS c.b.abs).length y] ?_
 refine (ggive_fun (⟨false, []⟩ : BInt) c.b.neg (gtwinS c.b.abs) d none 0 x y _ _ _ _ _ _ (SlR.nil _ _) z (A.perm (pk 1 rfl)) A.fz).mono ?_; rintro _ ah ⟨C, D, E, rfl, n, aD, hm⟩; refine ⟨_, rfl, ?_⟩; intro aO ai; have aj := hm
 replace j := j.mono n
 replace i := i.mono n
 replace k := k.mono n
 replace h := Fz.le.trans h n
 have F : Mem B [] w0 Z0 ((.row d [.bool (ggive (⟨false, []⟩ : BInt) c.b.neg (gtwinS c.b.abs)).neg, .slice C (ggive (⟨false, []⟩ : BInt) c.b.neg (gtwinS c.b.abs)).abs.length D] 69) :: (.row b1 (e71Nf c l m f g) 71) :: Rr) E ah := aj
 refine nl (qnI (af _ _ (F.cst k [1]) ?_))
 refine cS ai 1 [] [] [(4, pt d 0)] ?_; intro aP ak
 refine nS (X _ _ ?_)
 refine t_ (r_ (ra1 ak (pt d 0) ?_))
 refine ⟨_, rfl, ?_⟩; intro aQ al
 refine s1 al 2 (pt d 0) ?_; intro aR aE
 have aF : Mem B [] w0 Z0 ((.row d [.bool (ggive (⟨false, []⟩ : BInt) c.b.neg (gtwinS c.b.abs)).neg, .slice C (ggive (⟨false, []⟩ : BInt) c.b.neg (gtwinS c.b.abs)).abs.length D] 69) :: (.row b1 (e71Nf c l m f g) 71) :: Rr) E ah := F
 apply J
 exact r_ (ra1 aE (pt d 0) ⟨(c, (ggive (⟨false, []⟩ : BInt) c.b.neg (gtwinS c.b.abs))), l, m, f, g, d, C, D, E, rfl, az, h, j, i, aD, aF.kp⟩)

theorem rsub_walk (u0 : BRat) (u2 : BRat) (b1 : Nat) (ao2 : Option Addr) (cap3 : Nat) (ao5 : Option Addr) (cap6 : Nat) (b8 : Nat) (ao9 : Option Addr) (cap10 : Nat) (ao12 : Option Addr) (cap13 : Nat) (B : Nat) (w0 : World) (Z0 : Fz) (Rr : List Res) (Z : Fz) (w : World) (hs4 : SlR (tyInt .u32) Z ao2 cap3 u0.a.abs) (hs7 : SlR (tyInt .u32) Z ao5 cap6 u0.b.abs) (hs11 : SlR (tyInt .u32) Z ao9 cap10 u2.a.abs) (hs14 : SlR (tyInt .u32) Z ao12 cap13 u2.b.abs) (hM0 : Mem B [] w0 Z0 ((.row b1 [.bool u0.a.neg, .slice ao2 u0.a.abs.length cap3, .bool u0.b.neg, .slice ao5 u0.b.abs.length cap6] 71) :: (.row b8 [.bool u2.a.neg, .slice ao9 u2.a.abs.length cap10, .bool u2.b.neg, .slice ao12 u2.b.abs.length cap13] 71) :: Rr) Z w) (hZ : Z.on w) {K : (BRat × BRat) → Prop} (hp : rsub_vc u0 u2 K) : Calls Tryd.prog 48 #[pt b1 0, pt b1 0, pt b8 0] w fun e w' => ∃ (r : BRat × BRat) (ao1001 : Option Addr) (cap1002 : Nat) (ao1004 : Option Addr) (cap1005 : Nat) (ao1007 : Option Addr) (cap1008 : Nat) (ao1010 : Option Addr) (cap1011 : Nat) (Z' : Fz), e = .returned (pt b1 0) ∧ K r ∧ Fz.le Z Z' ∧ SlR (tyInt .u32) Z' ao1001 cap1002 r.1.a.abs ∧ SlR (tyInt .u32) Z' ao1004 cap1005 r.1.b.abs ∧ SlR (tyInt .u32) Z' ao1007 cap1008 r.2.a.abs ∧ SlR (tyInt .u32) Z' ao1010 cap1011 r.2.b.abs ∧ Mem B [] w0 Z0 ((.row b1 [.bool r.1.a.neg, .slice ao1001 r.1.a.abs.length cap1002, .bool r.1.b.neg, .slice ao1004 r.1.b.abs.length cap1005] 71) :: (.row b8 [.bool r.2.a.neg, .slice ao1007 r.2.a.abs.length cap1008, .bool r.2.b.neg, .slice ao1010 r.2.b.abs.length cap1011] 71) :: Rr) Z' w' := by
 refine enter0 Tryd.func48 rfl rfl (by kernel_rfl) ?_; intro a0 dV; have k := Fz.le.refl Z
 have fh := hp (hs4.small) (hs7.small) (hs11.small) (hs14.small)
 refine sqB dV hM0 [] [] [] ?_; intro ay dZ
 have fi : Fr 33 [] [⟨0, [], pt b1 0⟩, ⟨1, [], pt b1 0⟩, ⟨2, [], pt b8 0⟩] ay := dZ.reg
 obtain ⟨fj, fk⟩ := fh
 obtain ⟨fl, fm⟩ := fk
 obtain ⟨fn, fo⟩ := fm
 obtain ⟨fp, fq⟩ := fo
 obtain ⟨fr, fs⟩ := fq
 refine wp_seq (any_invE mixed [[], [], [], [2], [3], [], [5], [1, 4, 6], [], [], [9], [10], [], [7, 12], [8, 11, 13], [0, 7, 14], [0, 1, 2, 3, 4, 5, 6, 7, 8, 9, 10, 11, 12, 13, 14, 15]] 17 (fun S a w1 => ∃ (n : Nat) (l : Nat) (ad : Option Addr) (ae : Nat) (af : Option Addr) (ag : Nat) (v : Option Addr) (x : Nat) (ah : Option Addr) (ai : Nat) (aj : Option Addr) (ak : Nat) (U : Option Addr) (V : Nat) (W : Option Addr) (X : Nat) (p : Nat) (al : Option Addr) (am : Nat) (an : Option Addr) (ao : Nat) (ap : Option Addr) (aq : Nat) (y : Option Addr) (z : Nat) (C : Option Addr) (D : Nat) (N : Option Addr) (O : Nat) (P : Option Addr) (Q : Nat) (E : Option Addr) (F : Nat) (H : Option Addr) (I : Nat) (L : Option Addr) (M : Nat) (au : Value) (az : Value) (a3 : Value) (be : Value) (ba : Value) (a4 : Value) (bb : Value) (a5 : Value) (aS : Value) (aI : Value) (a6 : Value) (aT : Value) (aJ : Value) (aU : Value) (aK : Value) (aA : Value) (aw : Value) (bk : Res) (aL : Res) (R : Res) (ar : Res) (Y : Res) (m : Fz), Fz.le Z m ∧ Fr 33 [] [⟨0, [], pt b1 0⟩, ⟨1, [], pt b1 0⟩, ⟨2, [], pt b8 0⟩, ⟨7, [], au⟩, ⟨8, [], az⟩, ⟨9, [], a3⟩, ⟨10, [], be⟩, ⟨11, [], ba⟩, ⟨12, [], a4⟩, ⟨13, [], bb⟩, ⟨14, [], a5⟩, ⟨15, [], aS⟩, ⟨16, [], aI⟩, ⟨17, [], a6⟩, ⟨18, [], aT⟩, ⟨19, [], aJ⟩, ⟨20, [], aU⟩, ⟨21, [], aK⟩, ⟨22, [], aA⟩, ⟨23, [], aw⟩] a ∧ Mem B [] w0 Z0 (bk :: aL :: R :: ar :: Y :: Rr) m w1 ∧ (S 16 = true → au = pt n 0) ∧ (S 0 = true → az = pt n 0) ∧ (S 1 = true → a3 = pt l 0) ∧ (S 2 = true → be = pt b1 0) ∧ (S 3 = true → ba = pt b1 0) ∧ (S 4 = true → a4 = pt b1 0) ∧ (S 5 = true → bb = pt b8 0) ∧ (S 6 = true → a5 = pt b8 2) ∧ (S 7 = true → aS = pt l 0) ∧ (S 8 = true → aI = pt p 0) ∧ (S 9 = true → a6 = pt b8 0) ∧ (S 10 = true → aT = pt b8 0) ∧ (S 11 = true → aJ = pt b8 0) ∧ (S 12 = true → aU = pt b1 0) ∧ (S 13 = true → aK = pt b1 2) ∧ (S 14 = true → aA = pt p 0) ∧ (S 15 = true → aw = pt n 0) ∧ (S 7 = false → bk = .row b1 (e71Nf u0 ao2 cap3 ao5 cap6) 71) ∧ (S 7 = true → S 14 = false → bk = .row b8 (e71Nf ((gmulABS (⟨false, []⟩ : BInt) u0 (rdenS u2)).2.2) U V W X) 71) ∧ (S 14 = true → bk = .row b1 (e71Nf ((gmulABS (⟨false, []⟩ : BInt) (gmulABS (⟨false, []⟩ : BInt) u0 (rdenS u2)).2.2 (rdenS (gmulABS (⟨false, []⟩ : BInt) u0 (rdenS u2)).2.1)).2.2) N O P Q) 71) ∧ (S 6 = false → aL = .row b8 (e71Nf u2 ao9 cap10 ao12 cap13) 71) ∧ (S 6 = true → S 7 = false → aL = .row b8 (e71Nf (rdenS u2) ad ae af ag) 71) ∧ (S 7 = true → S 15 = false → aL = .row l [.bool (gmulABS (⟨false, []⟩ : BInt) u0 (rdenS u2)).1.neg, .slice v (gmulABS (⟨false, []⟩ : BInt) u0 (rdenS u2)).1.abs.length x] 69) ∧ (S 15 = true → aL = .row l [.bool (gsubIS (⟨false, []⟩ : BInt) (gmulABS (⟨false, []⟩ : BInt) u0 (rdenS u2)).1 (gmulABS (⟨false, []⟩ : BInt) (gmulABS (⟨false, []⟩ : BInt) u0 (rdenS u2)).2.2 (rdenS (gmulABS (⟨false, []⟩ : BInt) u0 (rdenS u2)).2.1)).1).2.1.neg, .slice H (gsubIS (⟨false, []⟩ : BInt) (gmulABS (⟨false, []⟩ : BInt) u0 (rdenS u2)).1 (gmulABS (⟨false, []⟩ : BInt) (gmulABS (⟨false, []⟩ : BInt) u0 (rdenS u2)).2.2 (rdenS (gmulABS (⟨false, []⟩ : BInt) u0 (rdenS u2)).2.1)).1).2.1.abs.length I] 69) ∧ (S 0 = false → R = .nil) ∧ (S 0 = true → S 15 = false → R = .row n [.bool false, .slice none 0 0] 69) ∧ (S 15 = true → R = .row p [.bool (gsubIS (⟨false, []⟩ : BInt) (gmulABS (⟨false, []⟩ : BInt) u0 (rdenS u2)).1 (gmulABS (⟨false, []⟩ : BInt) (gmulABS (⟨false, []⟩ : BInt) u0 (rdenS u2)).2.2 (rdenS (gmulABS (⟨false, []⟩ : BInt) u0 (rdenS u2)).2.1)).1).2.2.neg, .slice L (gsubIS (⟨false, []⟩ : BInt) (gmulABS (⟨false, []⟩ : BInt) u0 (rdenS u2)).1 (gmulABS (⟨false, []⟩ : BInt) (gmulABS (⟨false, []⟩ : BInt) u0 (rdenS u2)).2.2 (rdenS (gmulABS (⟨false, []⟩ : BInt) u0 (rdenS u2)).2.1)).1).2.2.abs.length M] 69) ∧ (S 1 = false → ar = .nil) ∧ (S 1 = true → S 7 = false → ar = .row l [.bool false, .slice none 0 0] 69) ∧ (S 7 = true → S 13 = false → ar = .row b1 (e71Nf ((gmulABS (⟨false, []⟩ : BInt) u0 (rdenS u2)).2.1) ah ai aj ak) 71) ∧ (S 13 = true → S 14 = false → ar = .row b1 (e71Nf (rdenS (gmulABS (⟨false, []⟩ : BInt) u0 (rdenS u2)).2.1) al am an ao) 71) ∧ (S 14 = true → S 15 = false → ar = .row p [.bool (gmulABS (⟨false, []⟩ : BInt) (gmulABS (⟨false, []⟩ : BInt) u0 (rdenS u2)).2.2 (rdenS (gmulABS (⟨false, []⟩ : BInt) u0 (rdenS u2)).2.1)).1.neg, .slice ap (gmulABS (⟨false, []⟩ : BInt) (gmulABS (⟨false, []⟩ : BInt) u0 (rdenS u2)).2.2 (rdenS (gmulABS (⟨false, []⟩ : BInt) u0 (rdenS u2)).2.1)).1.abs.length aq] 69) ∧ (S 15 = true → ar = .row n [.bool (gsubIS (⟨false, []⟩ : BInt) (gmulABS (⟨false, []⟩ : BInt) u0 (rdenS u2)).1 (gmulABS (⟨false, []⟩ : BInt) (gmulABS (⟨false, []⟩ : BInt) u0 (rdenS u2)).2.2 (rdenS (gmulABS (⟨false, []⟩ : BInt) u0 (rdenS u2)).2.1)).1).1.neg, .slice E (gsubIS (⟨false, []⟩ : BInt) (gmulABS (⟨false, []⟩ : BInt) u0 (rdenS u2)).1 (gmulABS (⟨false, []⟩ : BInt) (gmulABS (⟨false, []⟩ : BInt) u0 (rdenS u2)).2.2 (rdenS (gmulABS (⟨false, []⟩ : BInt) u0 (rdenS u2)).2.1)).1).1.abs.length F] 69) ∧ (S 8 = false → Y = .nil) ∧ (S 8 = true → S 14 = false → Y = .row p [.bool false, .slice none 0 0] 69) ∧ (S 14 = true → Y = .row b8 (e71Nf ((gmulABS (⟨false, []⟩ : BInt) (gmulABS (⟨false, []⟩ : BInt) u0 (rdenS u2)).2.2 (rdenS (gmulABS (⟨false, []⟩ : BInt) u0 (rdenS u2)).2.1)).2.1) y z C D) 71) ∧ (S 6 = true → SlR (tyInt .u32) m ad ae (rdenS u2).a.abs) ∧ (S 6 = true → SlR (tyInt .u32) m af ag (rdenS u2).b.abs) ∧ (S 7 = true → SlR (tyInt .u32) m v x (gmulABS (⟨false, []⟩ : BInt) u0 (rdenS u2)).1.abs) ∧ (S 7 = true → SlR (tyInt .u32) m ah ai (gmulABS (⟨false, []⟩ : BInt) u0 (rdenS u2)).2.1.a.abs) ∧ (S 7 = true → SlR (tyInt .u32) m aj ak (gmulABS (⟨false, []⟩ : BInt) u0 (rdenS u2)).2.1.b.abs) ∧ (S 7 = true → SlR (tyInt .u32) m U V (gmulABS (⟨false, []⟩ : BInt) u0 (rdenS u2)).2.2.a.abs) ∧ (S 7 = true → SlR (tyInt .u32) m W X (gmulABS (⟨false, []⟩ : BInt) u0 (rdenS u2)).2.2.b.abs) ∧ (S 13 = true → SlR (tyInt .u32) m al am (rdenS (gmulABS (⟨false, []⟩ : BInt) u0 (rdenS u2)).2.1).a.abs) ∧ (S 13 = true → SlR (tyInt .u32) m an ao (rdenS (gmulABS (⟨false, []⟩ : BInt) u0 (rdenS u2)).2.1).b.abs) ∧ (S 14 = true → SlR (tyInt .u32) m ap aq (gmulABS (⟨false, []⟩ : BInt) (gmulABS (⟨false, []⟩ : BInt) u0 (rdenS u2)).2.2 (rdenS (gmulABS (⟨false, []⟩ : BInt) u0 (rdenS u2)).2.1)).1.abs) ∧ (S 14 = true → SlR (tyInt .u32) m y z (gmulABS (⟨false, []⟩ : BInt) (gmulABS (⟨false, []⟩ : BInt) u0 (rdenS u2)).2.2 (rdenS (gmulABS (⟨false, []⟩ : BInt) u0 (rdenS u2)).2.1)).2.1.a.abs) ∧ (S 14 = true → SlR (tyInt .u32) m C D (gmulABS (⟨false, []⟩ : BInt) (gmulABS (⟨false, []⟩ : BInt) u0 (rdenS u2)).2.2 (rdenS (gmulABS (⟨false, []⟩ : BInt) u0 (rdenS u2)).2.1)).2.1.b.abs) ∧ (S 14 = true → SlR (tyInt .u32) m N O (gmulABS (⟨false, []⟩ : BInt) (gmulABS (⟨false, []⟩ : BInt) u0 (rdenS u2)).2.2 (rdenS (gmulABS (⟨false, []⟩ : BInt) u0 (rdenS u2)).2.1)).2.2.a.abs) ∧ (S 14 = true → SlR (tyInt .u32) m P Q (gmulABS (⟨false, []⟩ : BInt) (gmulABS (⟨false, []⟩ : BInt) u0 (rdenS u2)).2.2 (rdenS (gmulABS (⟨false, []⟩ : BInt) u0 (rdenS u2)).2.1)).2.2.b.abs) ∧ (S 15 = true → SlR (tyInt .u32) m E F (gsubIS (⟨false, []⟩ : BInt) (gmulABS (⟨false, []⟩ : BInt) u0 (rdenS u2)).1 (gmulABS (⟨false, []⟩ : BInt) (gmulABS (⟨false, []⟩ : BInt) u0 (rdenS u2)).2.2 (rdenS (gmulABS (⟨false, []⟩ : BInt) u0 (rdenS u2)).2.1)).1).1.abs) ∧ (S 15 = true → SlR (tyInt .u32) m H I (gsubIS (⟨false, []⟩ : BInt) (gmulABS (⟨false, []⟩ : BInt) u0 (rdenS u2)).1 (gmulABS (⟨false, []⟩ : BInt) (gmulABS (⟨false, []⟩ : BInt) u0 (rdenS u2)).2.2 (rdenS (gmulABS (⟨false, []⟩ : BInt) u0 (rdenS u2)).2.1)).1).2.1.abs) ∧ (S 15 = true → SlR (tyInt .u32) m L M (gsubIS (⟨false, []⟩ : BInt) (gmulABS (⟨false, []⟩ : BInt) u0 (rdenS u2)).1 (gmulABS (⟨false, []⟩ : BInt) (gmulABS (⟨false, []⟩ : BInt) u0 (rdenS u2)).2.2 (rdenS (gmulABS (⟨false, []⟩ : BInt) u0 (rdenS u2)).2.1)).1).2.2.abs)) ?h0 ?hs ?hE)
 case h0 =>
  have ft := fi.any 7
  have fu := ft.any 8
  have fv := fu.any 9
  have fw := fv.any 10
  have fx := fw.any 11
  have fy := fx.any 12
  have fA := fy.any 13
  have fB := fA.any 14
  have fC := fB.any 15
  have fD := fC.any 16
  have fE := fD.any 17
  have fF := fE.any 18
  have fG := fF.any 19
  have fH := fG.any 20
  have fI := fH.any 21
  have fJ := fI.any 22
  have fK := fJ.any 23
  have fL := hM0.nilRes
  have fM := fL.nilRes
  have fN := fM.nilRes
  have fO := (fN.perm ((pk 3 rfl).trans (((pk 3 rfl).trans (((pk 2 rfl).trans (((pk 1 rfl).trans (lpr.cons _)).cons _)).cons _)).cons _))).drew
  exact ⟨0, 0, none, 0, none, 0, none, 0, none, 0, none, 0, none, 0, none, 0, 0, none, 0, none, 0, none, 0, none, 0, none, 0, none, 0, none, 0, none, 0, none, 0, none, 0, ay.tmps.getD 7 undef, ay.tmps.getD 8 undef, ay.tmps.getD 9 undef, ay.tmps.getD 10 undef, ay.tmps.getD 11 undef, ay.tmps.getD 12 undef, ay.tmps.getD 13 undef, ay.tmps.getD 14 undef, ay.tmps.getD 15 undef, ay.tmps.getD 16 undef, ay.tmps.getD 17 undef, ay.tmps.getD 18 undef, ay.tmps.getD 19 undef, ay.tmps.getD 20 undef, ay.tmps.getD 21 undef, ay.tmps.getD 22 undef, ay.tmps.getD 23 undef, .row b1 (e71Nf u0 ao2 cap3 ao5 cap6) 71, .row b8 (e71Nf u2 ao9 cap10 ao12 cap13) 71, .nil, .nil, .nil, Z, Fz.le.refl _, fK.reg, fO, ff, ff, ff, ff, ff, ff, ff, ff, ff, ff, ff, ff, ff, ff, ff, ff, ff, kf, ff, ff, kf, ff, ff, ff, kf, ff, ff, kf, ff, ff, ff, ff, ff, kf, ff, ff, ff, ff, ff, ff, ff, ff, ff, ff, ff, ff, ff, ff, ff, ff, ff, ff, ff⟩
 case hs =>
  intro S hcl i o hil hi hSi hpre a w1 hI; refine Go.Sy.hid ?_; intro G hG; obtain ⟨n, l, ad, ae, af, ag, v, x, ah, ai, aj, ak, U, V, W, X, p, al, am, an, ao, ap, aq, y, z, hI⟩ := hI; obtain ⟨C, D, N, O, P, Q, E, F, H, I, L, M, au, az, a3, be, ba, a4, bb, a5, aS, aI, a6, aT, aJ, hI⟩ := hI; obtain ⟨aU, aK, aA, aw, bk, aL, R, ar, Y, m, g, hFx, hMx, d0, aB, aC, aD, aM, aV, aE, aN, bl, aF, aG, aO, hI⟩ := hI; obtain ⟨aW, aH, bu, ca, cz, bc, bB, cb, bf, bm, bv, cA, aX, aY, cB, bg, bh, bJ, b5, cC, cD, a7, a8, cc, aP, hI⟩ := hI; obtain ⟨aQ, bn, bo, bp, bq, br, bw, bx, cd, ce, cf, cg, ch, cE, cF, hI⟩ := hI; have cG := hI
  have hcase : i = 0 ∨ i = 1 ∨ i = 2 ∨ i = 3 ∨ i = 4 ∨ i = 5 ∨ i = 6 ∨ i = 7 ∨ i = 8 ∨ i = 9 ∨ i = 10 ∨ i = 11 ∨ i = 12 ∨ i = 13 ∨ i = 14 ∨ i = 15 ∨ i = 16 := by clear hi; omega
  rcases hcase with rfl | rfl | rfl | rfl | rfl | rfl | rfl | rfl | rfl | rfl | rfl | rfl | rfl | rfl | rfl | rfl | rfl
  ·
   obtain rfl := oj hi
   have bz := hSi
   have f := ngF hcl 15 0 bz
   have s := ngF hcl 16 0 bz
   obtain rfl := aX bz
   refine hG (any_step ?_); intro A J hJ
   have d1 := hMx.keep (sD (List.Sublist.cons_cons _ (sC (sD (List.Sublist.cons_cons _ (List.Sublist.refl _))))))
   refine nw hFx d1 pb [.bool false, .slice none 0 0] 69 ?_; intro cH hr ht fP fQ
   refine nl (qnI (hJ _ _ ?_))
   exact ⟨cH, l, ad, ae, af, ag, v, x, ah, ai, aj, ak, U, V, W, X, p, al, am, an, ao, ap, aq, y, z, C, D, N, O, P, Q, E, F, H, I, L, M, au, pt cH 0, a3, be, ba, a4, bb, a5, aS, aI, a6, aT, aJ, aU, aK, aA, aw, bk, aL, .row cH [.bool false, .slice none 0 0] 69, ar, Y, m, g, fP.reg, fQ.perm ((pk 1 rfl).trans (((pk 1 rfl).trans (lpr.cons _)).cons _)), (nt s), kf, aC, aD, aM, aV, aE, aN, bl, aF, aG, aO, aW, aH, bu, ca, (nt f), bc, bB, cb, bf, bm, bv, (nt f), nu, kf2, (nt f), bg, bh, bJ, b5, cC, (nt f), a7, a8, cc, aP, aQ, bn, bo, bp, bq, br, bw, bx, cd, ce, cf, cg, ch, (nt f), (nt f), (nt f)⟩
  ·
   obtain rfl := oj hi
   have ax := hSi
   have d := ngF hcl 7 1 ax
   have j := ngF hcl 13 7 d
   have c := ngF hcl 14 13 j
   have f := ngF hcl 15 7 d
   have s := ngF hcl 16 1 ax
   obtain rfl := bc d
   obtain rfl := bg ax
   refine hG (any_step ?_); intro A J hJ
   have d2 := hMx.keep (sD (List.Sublist.cons_cons _ (sD (sC (sD (List.Sublist.refl _))))))
   refine nw hFx d2 pb [.bool false, .slice none 0 0] 69 ?_; intro cI hy hz fR fS
   refine nl (qnI (hJ _ _ ?_))
   exact ⟨n, cI, ad, ae, af, ag, v, x, ah, ai, aj, ak, U, V, W, X, p, al, am, an, ao, ap, aq, y, z, C, D, N, O, P, Q, E, F, H, I, L, M, au, az, pt cI 0, be, ba, a4, bb, a5, aS, aI, a6, aT, aJ, aU, aK, aA, aw, .row b1 (e71Nf u0 ao2 cap3 ao5 cap6) 71, aL, R, .row cI [.bool false, .slice none 0 0] 69, Y, m, g, fR.reg, fS.perm ((pk 1 rfl).trans (((pk 1 rfl).trans (((pk 1 rfl).trans (lpr.cons _)).cons _)).cons _)), (nt s), aB, kf, aD, aM, aV, aE, aN, (nt d), aF, aG, aO, aW, aH, (nt j), (nt c), (nt f), kf, (fun h _ => nt d h), (nt c), bf, bm, (fun h _ => nt d h), (nt f), aX, aY, (nt f), nu, kf2, (fun h _ => nt d h), (fun h _ => nt j h), (fun h _ => nt c h), (nt f), a7, a8, (nt c), aP, aQ, (nt d), (nt d), (nt d), (nt d), (nt d), (nt j), (nt j), (nt c), (nt c), (nt c), (nt c), (nt c), (nt f), (nt f), (nt f)⟩
  ·
   obtain rfl := oj hi
   have aZ := hSi
   have aa := ngF hcl 3 2 aZ
   have ab := ngF hcl 4 3 aa
   have d := ngF hcl 7 4 ab
   have j := ngF hcl 13 7 d
   have c := ngF hcl 14 13 j
   have f := ngF hcl 15 7 d
   have s := ngF hcl 16 2 aZ
   obtain rfl := bc d
   refine hG (any_step ?_); intro A J hJ
   refine s1 hFx 10 (pt b1 0) ?_; intro hF fT
   refine nl (qnI (hJ _ _ ?_))
   exact ⟨n, l, ad, ae, af, ag, v, x, ah, ai, aj, ak, U, V, W, X, p, al, am, an, ao, ap, aq, y, z, C, D, N, O, P, Q, E, F, H, I, L, M, au, az, a3, pt b1 0, ba, a4, bb, a5, aS, aI, a6, aT, aJ, aU, aK, aA, aw, .row b1 (e71Nf u0 ao2 cap3 ao5 cap6) 71, aL, R, ar, Y, m, g, fT.reg, hMx.perm lpr, (nt s), aB, aC, kf, (nt aa), (nt ab), aE, aN, (nt d), aF, aG, aO, aW, aH, (nt j), (nt c), (nt f), kf, (fun h _ => nt d h), (nt c), bf, bm, (fun h _ => nt d h), (nt f), aX, aY, (nt f), bg, bh, (fun h _ => nt d h), (fun h _ => nt j h), (fun h _ => nt c h), (nt f), a7, a8, (nt c), aP, aQ, (nt d), (nt d), (nt d), (nt d), (nt d), (nt j), (nt j), (nt c), (nt c), (nt c), (nt c), (nt c), (nt f), (nt f), (nt f)⟩
  ·
   obtain rfl := oj hi
   have aZ := hpre 2 (by kernel_rfl)
   have aa := hSi
   have ab := ngF hcl 4 3 aa
   have d := ngF hcl 7 4 ab
   have j := ngF hcl 13 7 d
   have c := ngF hcl 14 13 j
   have f := ngF hcl 15 7 d
   have s := ngF hcl 16 3 aa
   obtain rfl := aD aZ
   obtain rfl := bc d
   refine hG (any_step ?_); intro A J hJ
   refine s1 hFx 11 (pt b1 0) ?_; intro hN fU
   refine nl (qnI (hJ _ _ ?_))
   exact ⟨n, l, ad, ae, af, ag, v, x, ah, ai, aj, ak, U, V, W, X, p, al, am, an, ao, ap, aq, y, z, C, D, N, O, P, Q, E, F, H, I, L, M, au, az, a3, pt b1 0, pt b1 0, a4, bb, a5, aS, aI, a6, aT, aJ, aU, aK, aA, aw, .row b1 (e71Nf u0 ao2 cap3 ao5 cap6) 71, aL, R, ar, Y, m, g, fU.reg, hMx.perm lpr, (nt s), aB, aC, kf, kf, (nt ab), aE, aN, (nt d), aF, aG, aO, aW, aH, (nt j), (nt c), (nt f), kf, (fun h _ => nt d h), (nt c), bf, bm, (fun h _ => nt d h), (nt f), aX, aY, (nt f), bg, bh, (fun h _ => nt d h), (fun h _ => nt j h), (fun h _ => nt c h), (nt f), a7, a8, (nt c), aP, aQ, (nt d), (nt d), (nt d), (nt d), (nt d), (nt j), (nt j), (nt c), (nt c), (nt c), (nt c), (nt c), (nt f), (nt f), (nt f)⟩
  ·
   obtain rfl := oj hi
   have aa := hpre 3 (by kernel_rfl)
   have aZ := hcl 3 2 (by kernel_rfl) aa
   have ab := hSi
   have d := ngF hcl 7 4 ab
   have j := ngF hcl 13 7 d
   have c := ngF hcl 14 13 j
   have f := ngF hcl 15 7 d
   have s := ngF hcl 16 4 ab
   obtain rfl := aD aZ
   obtain rfl := aM aa
   obtain rfl := bc d
   refine hG (any_step ?_); intro A J hJ
   refine s1 hFx 12 (pt b1 0) ?_; intro hT fV
   refine nl (qnI (hJ _ _ ?_))
   exact ⟨n, l, ad, ae, af, ag, v, x, ah, ai, aj, ak, U, V, W, X, p, al, am, an, ao, ap, aq, y, z, C, D, N, O, P, Q, E, F, H, I, L, M, au, az, a3, pt b1 0, pt b1 0, pt b1 0, bb, a5, aS, aI, a6, aT, aJ, aU, aK, aA, aw, .row b1 (e71Nf u0 ao2 cap3 ao5 cap6) 71, aL, R, ar, Y, m, g, fV.reg, hMx.perm lpr, (nt s), aB, aC, kf, kf, kf, aE, aN, (nt d), aF, aG, aO, aW, aH, (nt j), (nt c), (nt f), kf, (fun h _ => nt d h), (nt c), bf, bm, (fun h _ => nt d h), (nt f), aX, aY, (nt f), bg, bh, (fun h _ => nt d h), (fun h _ => nt j h), (fun h _ => nt c h), (nt f), a7, a8, (nt c), aP, aQ, (nt d), (nt d), (nt d), (nt d), (nt d), (nt j), (nt j), (nt c), (nt c), (nt c), (nt c), (nt c), (nt f), (nt f), (nt f)⟩
  ·
   obtain rfl := oj hi
   have bd := hSi
   have q := ngF hcl 6 5 bd
   have d := ngF hcl 7 6 q
   have j := ngF hcl 13 7 d
   have c := ngF hcl 14 13 j
   have f := ngF hcl 15 7 d
   have s := ngF hcl 16 5 bd
   obtain rfl := bc d
   obtain rfl := bf q
   refine hG (any_step ?_); intro A J hJ
   refine s1 hFx 13 (pt b8 0) ?_; intro hY fW
   refine nl (qnI (hJ _ _ ?_))
   exact ⟨n, l, ad, ae, af, ag, v, x, ah, ai, aj, ak, U, V, W, X, p, al, am, an, ao, ap, aq, y, z, C, D, N, O, P, Q, E, F, H, I, L, M, au, az, a3, be, ba, a4, pt b8 0, a5, aS, aI, a6, aT, aJ, aU, aK, aA, aw, .row b1 (e71Nf u0 ao2 cap3 ao5 cap6) 71, .row b8 (e71Nf u2 ao9 cap10 ao12 cap13) 71, R, ar, Y, m, g, fW.reg, hMx.perm lpr, (nt s), aB, aC, aD, aM, aV, kf, (nt q), (nt d), aF, aG, aO, aW, aH, (nt j), (nt c), (nt f), kf, (fun h _ => nt d h), (nt c), kf, (fun h _ => nt q h), (fun h _ => nt d h), (nt f), aX, aY, (nt f), bg, bh, (fun h _ => nt d h), (fun h _ => nt j h), (fun h _ => nt c h), (nt f), a7, a8, (nt c), (nt q), (nt q), (nt d), (nt d), (nt d), (nt d), (nt d), (nt j), (nt j), (nt c), (nt c), (nt c), (nt c), (nt c), (nt f), (nt f), (nt f)⟩
  ·
   obtain rfl := oj hi
   have bd := hpre 5 (by kernel_rfl)
   have q := hSi
   have d := ngF hcl 7 6 q
   have j := ngF hcl 13 7 d
   have c := ngF hcl 14 13 j
   have f := ngF hcl 15 7 d
   have s := ngF hcl 16 6 q
   obtain rfl := aE bd
   obtain rfl := bc d
   obtain rfl := bf q
   refine hG (any_step ?_); intro A J hJ
   have hzst := Fz.le.refl m
   have cJ := hs11.mono g
   have cK := hs14.mono g
   refine ck hFx 78 #[pt b8 0] ?_
   refine (rden_fun u2 fj b8 ao9 cap10 ao12 cap13 _ _ _ _ _ _ cJ cK (hMx.perm (pk 1 rfl)) hMx.fz).mono ?_; rintro _ fX ⟨cL, cM, cN, cO, d5, rfl, b6, fY, fZ, hm⟩; refine ⟨_, rfl, ?_⟩; intro h1 f0; have d6 := hm
   replace hzst := hzst.mono b6
   have f1 : Mem B [] w0 Z0 ((.row b8 (e71Nf (rdenS u2) cL cM cN cO) 71) :: (.row b1 (e71Nf u0 ao2 cap3 ao5 cap6) 71) :: R :: ar :: Y :: Rr) d5 fX := d6
   refine nl (qnI (hJ _ _ ?_))
   exact ⟨n, l, cL, cM, cN, cO, v, x, ah, ai, aj, ak, U, V, W, X, p, al, am, an, ao, ap, aq, y, z, C, D, N, O, P, Q, E, F, H, I, L, M, au, az, a3, be, ba, a4, pt b8 0, pt b8 2, aS, aI, a6, aT, aJ, aU, aK, aA, aw, .row b1 (e71Nf u0 ao2 cap3 ao5 cap6) 71, .row b8 (e71Nf (rdenS u2) cL cM cN cO) 71, R, ar, Y, d5, g.trans hzst, f0.reg, f1.perm ((pk 1 rfl).trans (lpr.cons _)), (nt s), aB, aC, aD, aM, aV, kf, kf, (nt d), aF, aG, aO, aW, aH, (nt j), (nt c), (nt f), kf, (fun h _ => nt d h), (nt c), nu, kf2, (fun h _ => nt d h), (nt f), aX, aY, (nt f), bg, bh, (fun h _ => nt d h), (fun h _ => nt j h), (fun h _ => nt c h), (nt f), a7, a8, (nt c), (fun _ => fY), (fun _ => fZ), (nt d), (nt d), (nt d), (nt d), (nt d), (nt j), (nt j), (nt c), (nt c), (nt c), (nt c), (nt c), (nt f), (nt f), (nt f)⟩
  ·
   obtain rfl := oj hi
   have q := hpre 6 (by kernel_rfl)
   have ab := hpre 4 (by kernel_rfl)
   have ax := hpre 1 (by kernel_rfl)
   have bd := hcl 6 5 (by kernel_rfl) q
   have aa := hcl 4 3 (by kernel_rfl) ab
   have aZ := hcl 3 2 (by kernel_rfl) aa
   have d := hSi
   have j := ngF hcl 13 7 d
   have c := ngF hcl 14 13 j
   have f := ngF hcl 15 7 d
   have s := ngF hcl 16 7 d
   obtain rfl := aC ax
   obtain rfl := aD aZ
   obtain rfl := aM aa
   obtain rfl := aV ab
   obtain rfl := aE bd
   obtain rfl := aN q
   obtain rfl := bc d
   obtain rfl := bm q d
   obtain rfl := bh ax d
   refine hG (any_step ?_); intro A J hJ
   have hzst := Fz.le.refl m
   have cP := hs4.mono g
   have cQ := hs7.mono g
   have cj := aP q
   have cl := aQ q
   refine ck hFx 77 #[pt l 0, pt b1 0, pt b8 2] ?_
   refine (gmulAB_fun (⟨false, []⟩ : BInt) u0 (rdenS u2) fl l none 0 b1 ao2 cap3 ao5 cap6 b8 ad ae af ag _ _ _ _ _ _ (SlR.nil _ _) cP cQ cj cl (hMx.perm ((pk 3 rfl).trans (lpr.cons _))) hMx.fz).mono ?_; rintro _ f2 ⟨cR, cS, cT, cU, cV, cW, cX, cY, cZ, c0, d9, rfl, bK, f3, f4, f5, f6, f7, hm⟩; refine ⟨_, rfl, ?_⟩; intro h2 f8; have ea := hm
   replace hzst := hzst.mono bK
   replace cj := cj.mono bK
   replace cl := cl.mono bK
   have f9 : Mem B [] w0 Z0 ((.row l [.bool (gmulABS (⟨false, []⟩ : BInt) u0 (rdenS u2)).1.neg, .slice cR (gmulABS (⟨false, []⟩ : BInt) u0 (rdenS u2)).1.abs.length cS] 69) :: (.row b1 (e71Nf ((gmulABS (⟨false, []⟩ : BInt) u0 (rdenS u2)).2.1) cT cU cV cW) 71) :: (.row b8 (e71Nf ((gmulABS (⟨false, []⟩ : BInt) u0 (rdenS u2)).2.2) cX cY cZ c0) 71) :: R :: Y :: Rr) d9 f2 := ea
   refine nl (qnI (hJ _ _ ?_))
   exact ⟨n, l, ad, ae, af, ag, cR, cS, cT, cU, cV, cW, cX, cY, cZ, c0, p, al, am, an, ao, ap, aq, y, z, C, D, N, O, P, Q, E, F, H, I, L, M, au, az, pt l 0, pt b1 0, pt b1 0, pt b1 0, pt b8 0, pt b8 2, pt l 0, aI, a6, aT, aJ, aU, aK, aA, aw, .row b8 (e71Nf ((gmulABS (⟨false, []⟩ : BInt) u0 (rdenS u2)).2.2) cX cY cZ c0) 71, .row l [.bool (gmulABS (⟨false, []⟩ : BInt) u0 (rdenS u2)).1.neg, .slice cR (gmulABS (⟨false, []⟩ : BInt) u0 (rdenS u2)).1.abs.length cS] 69, R, .row b1 (e71Nf ((gmulABS (⟨false, []⟩ : BInt) u0 (rdenS u2)).2.1) cT cU cV cW) 71, Y, d9, g.trans hzst, f8.reg, f9.perm ((pk 2 rfl).trans ((((pk 1 rfl).trans (lpr.cons _)).cons _).cons _)), (nt s), aB, kf, kf, kf, kf, kf, kf, kf, aF, aG, aO, aW, aH, (nt j), (nt c), (nt f), nu, kf2, (nt c), (tn q), (fun _ => nu), kf2, (nt f), aX, aY, (nt f), (tn ax), (fun _ => nu), kf2, (fun h _ => nt j h), (fun h _ => nt c h), (nt f), a7, a8, (nt c), (fun _ => cj), (fun _ => cl), (fun _ => f3), (fun _ => f4), (fun _ => f5), (fun _ => f6), (fun _ => f7), (nt j), (nt j), (nt c), (nt c), (nt c), (nt c), (nt c), (nt f), (nt f), (nt f)⟩
  ·
   obtain rfl := oj hi
   have bi := hSi
   have c := ngF hcl 14 8 bi
   have f := ngF hcl 15 14 c
   have s := ngF hcl 16 8 bi
   obtain rfl := a7 bi
   refine hG (any_step ?_); intro A J hJ
   have eb := hMx.keep (sD (List.Sublist.cons_cons _ (sD (List.Sublist.cons_cons _ (sC (List.Sublist.refl _))))))
   refine nw hFx eb pb [.bool false, .slice none 0 0] 69 ?_; intro c1 h7 h8 ga gb
   refine nl (qnI (hJ _ _ ?_))
   exact ⟨n, l, ad, ae, af, ag, v, x, ah, ai, aj, ak, U, V, W, X, c1, al, am, an, ao, ap, aq, y, z, C, D, N, O, P, Q, E, F, H, I, L, M, au, az, a3, be, ba, a4, bb, a5, aS, pt c1 0, a6, aT, aJ, aU, aK, aA, aw, bk, aL, R, ar, .row c1 [.bool false, .slice none 0 0] 69, m, g, ga.reg, gb.perm ((pk 1 rfl).trans (((pk 1 rfl).trans (((pk 1 rfl).trans (((pk 1 rfl).trans (lpr.cons _)).cons _)).cons _)).cons _)), (nt s), aB, aC, aD, aM, aV, aE, aN, bl, kf, aG, aO, aW, aH, bu, (nt c), (nt f), bc, bB, (nt c), bf, bm, bv, (nt f), aX, aY, (nt f), bg, bh, bJ, b5, (fun h _ => nt c h), (nt f), nu, kf2, (nt c), aP, aQ, bn, bo, bp, bq, br, bw, bx, (nt c), (nt c), (nt c), (nt c), (nt c), (nt f), (nt f), (nt f)⟩
  ·
   obtain rfl := oj hi
   have bs := hSi
   have a1 := ngF hcl 10 9 bs
   have a2 := ngF hcl 11 10 a1
   have c := ngF hcl 14 11 a2
   have f := ngF hcl 15 14 c
   have s := ngF hcl 16 9 bs
   refine hG (any_step ?_); intro A J hJ
   refine s1 hFx 17 (pt b8 0) ?_; intro ie gc
   refine nl (qnI (hJ _ _ ?_))
   exact ⟨n, l, ad, ae, af, ag, v, x, ah, ai, aj, ak, U, V, W, X, p, al, am, an, ao, ap, aq, y, z, C, D, N, O, P, Q, E, F, H, I, L, M, au, az, a3, be, ba, a4, bb, a5, aS, aI, pt b8 0, aT, aJ, aU, aK, aA, aw, bk, aL, R, ar, Y, m, g, gc.reg, hMx.perm lpr, (nt s), aB, aC, aD, aM, aV, aE, aN, bl, aF, kf, (nt a1), (nt a2), aH, bu, (nt c), (nt f), bc, bB, (nt c), bf, bm, bv, (nt f), aX, aY, (nt f), bg, bh, bJ, b5, (fun h _ => nt c h), (nt f), a7, a8, (nt c), aP, aQ, bn, bo, bp, bq, br, bw, bx, (nt c), (nt c), (nt c), (nt c), (nt c), (nt f), (nt f), (nt f)⟩
  ·
   obtain rfl := oj hi
   have bs := hpre 9 (by kernel_rfl)
   have a1 := hSi
   have a2 := ngF hcl 11 10 a1
   have c := ngF hcl 14 11 a2
   have f := ngF hcl 15 14 c
   have s := ngF hcl 16 10 a1
   obtain rfl := aG bs
   refine hG (any_step ?_); intro A J hJ
   refine s1 hFx 18 (pt b8 0) ?_; intro ik gd
   refine nl (qnI (hJ _ _ ?_))
   exact ⟨n, l, ad, ae, af, ag, v, x, ah, ai, aj, ak, U, V, W, X, p, al, am, an, ao, ap, aq, y, z, C, D, N, O, P, Q, E, F, H, I, L, M, au, az, a3, be, ba, a4, bb, a5, aS, aI, pt b8 0, pt b8 0, aJ, aU, aK, aA, aw, bk, aL, R, ar, Y, m, g, gd.reg, hMx.perm lpr, (nt s), aB, aC, aD, aM, aV, aE, aN, bl, aF, kf, kf, (nt a2), aH, bu, (nt c), (nt f), bc, bB, (nt c), bf, bm, bv, (nt f), aX, aY, (nt f), bg, bh, bJ, b5, (fun h _ => nt c h), (nt f), a7, a8, (nt c), aP, aQ, bn, bo, bp, bq, br, bw, bx, (nt c), (nt c), (nt c), (nt c), (nt c), (nt f), (nt f), (nt f)⟩
  ·
   obtain rfl := oj hi
   have a1 := hpre 10 (by kernel_rfl)
   have bs := hcl 10 9 (by kernel_rfl) a1
   have a2 := hSi
   have c := ngF hcl 14 11 a2
   have f := ngF hcl 15 14 c
   have s := ngF hcl 16 11 a2
   obtain rfl := aG bs
   obtain rfl := aO a1
   refine hG (any_step ?_); intro A J hJ
   refine s1 hFx 19 (pt b8 0) ?_; intro iq ge
   refine nl (qnI (hJ _ _ ?_))
   exact ⟨n, l, ad, ae, af, ag, v, x, ah, ai, aj, ak, U, V, W, X, p, al, am, an, ao, ap, aq, y, z, C, D, N, O, P, Q, E, F, H, I, L, M, au, az, a3, be, ba, a4, bb, a5, aS, aI, pt b8 0, pt b8 0, pt b8 0, aU, aK, aA, aw, bk, aL, R, ar, Y, m, g, ge.reg, hMx.perm lpr, (nt s), aB, aC, aD, aM, aV, aE, aN, bl, aF, kf, kf, kf, aH, bu, (nt c), (nt f), bc, bB, (nt c), bf, bm, bv, (nt f), aX, aY, (nt f), bg, bh, bJ, b5, (fun h _ => nt c h), (nt f), a7, a8, (nt c), aP, aQ, bn, bo, bp, bq, br, bw, bx, (nt c), (nt c), (nt c), (nt c), (nt c), (nt f), (nt f), (nt f)⟩
  ·
   obtain rfl := oj hi
   have bA := hSi
   have j := ngF hcl 13 12 bA
   have c := ngF hcl 14 13 j
   have f := ngF hcl 15 14 c
   have s := ngF hcl 16 12 bA
   refine hG (any_step ?_); intro A J hJ
   refine s1 hFx 20 (pt b1 0) ?_; intro iw gf
   refine nl (qnI (hJ _ _ ?_))
   exact ⟨n, l, ad, ae, af, ag, v, x, ah, ai, aj, ak, U, V, W, X, p, al, am, an, ao, ap, aq, y, z, C, D, N, O, P, Q, E, F, H, I, L, M, au, az, a3, be, ba, a4, bb, a5, aS, aI, a6, aT, aJ, pt b1 0, aK, aA, aw, bk, aL, R, ar, Y, m, g, gf.reg, hMx.perm lpr, (nt s), aB, aC, aD, aM, aV, aE, aN, bl, aF, aG, aO, aW, kf, (nt j), (nt c), (nt f), bc, bB, (nt c), bf, bm, bv, (nt f), aX, aY, (nt f), bg, bh, bJ, (fun h _ => nt j h), (fun h _ => nt c h), (nt f), a7, a8, (nt c), aP, aQ, bn, bo, bp, bq, br, (nt j), (nt j), (nt c), (nt c), (nt c), (nt c), (nt c), (nt f), (nt f), (nt f)⟩
  ·
   obtain rfl := oj hi
   have bA := hpre 12 (by kernel_rfl)
   have d := hpre 7 (by kernel_rfl)
   have q := hcl 7 6 (by kernel_rfl) d
   have ab := hcl 7 4 (by kernel_rfl) d
   have ax := hcl 7 1 (by kernel_rfl) d
   have bd := hcl 6 5 (by kernel_rfl) q
   have aa := hcl 4 3 (by kernel_rfl) ab
   have aZ := hcl 3 2 (by kernel_rfl) aa
   have j := hSi
   have c := ngF hcl 14 13 j
   have f := ngF hcl 15 14 c
   have s := ngF hcl 16 13 j
   obtain rfl := aC ax
   obtain rfl := aD aZ
   obtain rfl := aM aa
   obtain rfl := aV ab
   obtain rfl := aE bd
   obtain rfl := aN q
   obtain rfl := bl d
   obtain rfl := aH bA
   obtain rfl := bB d c
   obtain rfl := bv d f
   obtain rfl := bJ d j
   refine hG (any_step ?_); intro A J hJ
   have hzst := Fz.le.refl m
   have c2 := aP q
   have c3 := aQ q
   have c4 := bn d
   have cm := bo d
   have cn := bp d
   have c5 := bq d
   have c6 := br d
   refine ck hFx 78 #[pt b1 0] ?_
   refine (rden_fun (gmulABS (⟨false, []⟩ : BInt) u0 (rdenS u2)).2.1 fn b1 ah ai aj ak _ _ _ _ _ _ cm cn (hMx.perm (pk 3 rfl)) hMx.fz).mono ?_; rintro _ gg ⟨c7, c8, c9, da, eg, rfl, bj, gh, gi, hm⟩; refine ⟨_, rfl, ?_⟩; intro ix gj; have eh := hm
   replace hzst := hzst.mono bj
   replace c2 := c2.mono bj
   replace c3 := c3.mono bj
   replace c4 := c4.mono bj
   replace cm := cm.mono bj
   replace cn := cn.mono bj
   replace c5 := c5.mono bj
   replace c6 := c6.mono bj
   have gk : Mem B [] w0 Z0 ((.row b1 (e71Nf (rdenS (gmulABS (⟨false, []⟩ : BInt) u0 (rdenS u2)).2.1) c7 c8 c9 da) 71) :: (.row b8 (e71Nf ((gmulABS (⟨false, []⟩ : BInt) u0 (rdenS u2)).2.2) U V W X) 71) :: (.row l [.bool (gmulABS (⟨false, []⟩ : BInt) u0 (rdenS u2)).1.neg, .slice v (gmulABS (⟨false, []⟩ : BInt) u0 (rdenS u2)).1.abs.length x] 69) :: R :: Y :: Rr) eg gg := eh
   refine nl (qnI (hJ _ _ ?_))
   exact ⟨n, l, ad, ae, af, ag, v, x, ah, ai, aj, ak, U, V, W, X, p, c7, c8, c9, da, ap, aq, y, z, C, D, N, O, P, Q, E, F, H, I, L, M, au, az, pt l 0, pt b1 0, pt b1 0, pt b1 0, pt b8 0, pt b8 2, pt l 0, aI, a6, aT, aJ, pt b1 0, pt b1 2, aA, aw, .row b8 (e71Nf ((gmulABS (⟨false, []⟩ : BInt) u0 (rdenS u2)).2.2) U V W X) 71, .row l [.bool (gmulABS (⟨false, []⟩ : BInt) u0 (rdenS u2)).1.neg, .slice v (gmulABS (⟨false, []⟩ : BInt) u0 (rdenS u2)).1.abs.length x] 69, R, .row b1 (e71Nf (rdenS (gmulABS (⟨false, []⟩ : BInt) u0 (rdenS u2)).2.1) c7 c8 c9 da) 71, Y, eg, g.trans hzst, gj.reg, gk.perm ((pk 1 rfl).trans (((pk 1 rfl).trans (((pk 1 rfl).trans (lpr.cons _)).cons _)).cons _)), (nt s), aB, kf, kf, kf, kf, kf, kf, kf, aF, aG, aO, aW, kf, kf, (nt c), (nt f), (tn d), kf2, (nt c), (tn q), (fun _ => tn d), kf2, (nt f), aX, aY, (nt f), (tn ax), (fun _ => tn d), (fun _ => nu), kf2, (fun h _ => nt c h), (nt f), a7, a8, (nt c), (fun _ => c2), (fun _ => c3), (fun _ => c4), (fun _ => cm), (fun _ => cn), (fun _ => c5), (fun _ => c6), (fun _ => gh), (fun _ => gi), (nt c), (nt c), (nt c), (nt c), (nt c), (nt f), (nt f), (nt f)⟩
  ·
   obtain rfl := oj hi
   have j := hpre 13 (by kernel_rfl)
   have a2 := hpre 11 (by kernel_rfl)
   have bi := hpre 8 (by kernel_rfl)
   have bA := hcl 13 12 (by kernel_rfl) j
   have d := hcl 13 7 (by kernel_rfl) j
   have a1 := hcl 11 10 (by kernel_rfl) a2
   have q := hcl 7 6 (by kernel_rfl) d
   have ab := hcl 7 4 (by kernel_rfl) d
   have ax := hcl 7 1 (by kernel_rfl) d
   have bs := hcl 10 9 (by kernel_rfl) a1
   have bd := hcl 6 5 (by kernel_rfl) q
   have aa := hcl 4 3 (by kernel_rfl) ab
   have aZ := hcl 3 2 (by kernel_rfl) aa
   have c := hSi
   have f := ngF hcl 15 14 c
   have s := ngF hcl 16 14 c
   obtain rfl := aC ax
   obtain rfl := aD aZ
   obtain rfl := aM aa
   obtain rfl := aV ab
   obtain rfl := aE bd
   obtain rfl := aN q
   obtain rfl := bl d
   obtain rfl := aF bi
   obtain rfl := aG bs
   obtain rfl := aO a1
   obtain rfl := aW a2
   obtain rfl := aH bA
   obtain rfl := bu j
   obtain rfl := bB d c
   obtain rfl := bv d f
   obtain rfl := b5 j c
   obtain rfl := a8 bi c
   refine hG (any_step ?_); intro A J hJ
   have hzst := Fz.le.refl m
   have db := aP q
   have dc := aQ q
   have dd := bn d
   have de := bo d
   have df := bp d
   have co := bq d
   have cp := br d
   have cq := bw j
   have cr := bx j
   refine ck hFx 77 #[pt p 0, pt b8 0, pt b1 2] ?_
   refine (gmulAB_fun (⟨false, []⟩ : BInt) (gmulABS (⟨false, []⟩ : BInt) u0 (rdenS u2)).2.2 (rdenS (gmulABS (⟨false, []⟩ : BInt) u0 (rdenS u2)).2.1) fp p none 0 b8 U V W X b1 al am an ao _ _ _ _ _ _ (SlR.nil _ _) co cp cq cr (hMx.perm ((pk 4 rfl).trans ((((pk 2 rfl).trans (lpr.cons _)).cons _).cons _))) hMx.fz).mono ?_; rintro _ gl ⟨dg, dh, di, dj, dk, dl, dm, dn, dp, dq, em, rfl, a9, gm, gn, go, gp, gq, hm⟩; refine ⟨_, rfl, ?_⟩; intro iy gr; have en := hm
   replace hzst := hzst.mono a9
   replace db := db.mono a9
   replace dc := dc.mono a9
   replace dd := dd.mono a9
   replace de := de.mono a9
   replace df := df.mono a9
   replace co := co.mono a9
   replace cp := cp.mono a9
   replace cq := cq.mono a9
   replace cr := cr.mono a9
   have gs : Mem B [] w0 Z0 ((.row p [.bool (gmulABS (⟨false, []⟩ : BInt) (gmulABS (⟨false, []⟩ : BInt) u0 (rdenS u2)).2.2 (rdenS (gmulABS (⟨false, []⟩ : BInt) u0 (rdenS u2)).2.1)).1.neg, .slice dg (gmulABS (⟨false, []⟩ : BInt) (gmulABS (⟨false, []⟩ : BInt) u0 (rdenS u2)).2.2 (rdenS (gmulABS (⟨false, []⟩ : BInt) u0 (rdenS u2)).2.1)).1.abs.length dh] 69) :: (.row b8 (e71Nf ((gmulABS (⟨false, []⟩ : BInt) (gmulABS (⟨false, []⟩ : BInt) u0 (rdenS u2)).2.2 (rdenS (gmulABS (⟨false, []⟩ : BInt) u0 (rdenS u2)).2.1)).2.1) di dj dk dl) 71) :: (.row b1 (e71Nf ((gmulABS (⟨false, []⟩ : BInt) (gmulABS (⟨false, []⟩ : BInt) u0 (rdenS u2)).2.2 (rdenS (gmulABS (⟨false, []⟩ : BInt) u0 (rdenS u2)).2.1)).2.2) dm dn dp dq) 71) :: (.row l [.bool (gmulABS (⟨false, []⟩ : BInt) u0 (rdenS u2)).1.neg, .slice v (gmulABS (⟨false, []⟩ : BInt) u0 (rdenS u2)).1.abs.length x] 69) :: R :: Rr) em gl := en
   refine nl (qnI (hJ _ _ ?_))
   exact ⟨n, l, ad, ae, af, ag, v, x, ah, ai, aj, ak, U, V, W, X, p, al, am, an, ao, dg, dh, di, dj, dk, dl, dm, dn, dp, dq, E, F, H, I, L, M, au, az, pt l 0, pt b1 0, pt b1 0, pt b1 0, pt b8 0, pt b8 2, pt l 0, pt p 0, pt b8 0, pt b8 0, pt b8 0, pt b1 0, pt b1 2, pt p 0, aw, .row b1 (e71Nf ((gmulABS (⟨false, []⟩ : BInt) (gmulABS (⟨false, []⟩ : BInt) u0 (rdenS u2)).2.2 (rdenS (gmulABS (⟨false, []⟩ : BInt) u0 (rdenS u2)).2.1)).2.2) dm dn dp dq) 71, .row l [.bool (gmulABS (⟨false, []⟩ : BInt) u0 (rdenS u2)).1.neg, .slice v (gmulABS (⟨false, []⟩ : BInt) u0 (rdenS u2)).1.abs.length x] 69, R, .row p [.bool (gmulABS (⟨false, []⟩ : BInt) (gmulABS (⟨false, []⟩ : BInt) u0 (rdenS u2)).2.2 (rdenS (gmulABS (⟨false, []⟩ : BInt) u0 (rdenS u2)).2.1)).1.neg, .slice dg (gmulABS (⟨false, []⟩ : BInt) (gmulABS (⟨false, []⟩ : BInt) u0 (rdenS u2)).2.2 (rdenS (gmulABS (⟨false, []⟩ : BInt) u0 (rdenS u2)).2.1)).1.abs.length dh] 69, .row b8 (e71Nf ((gmulABS (⟨false, []⟩ : BInt) (gmulABS (⟨false, []⟩ : BInt) u0 (rdenS u2)).2.2 (rdenS (gmulABS (⟨false, []⟩ : BInt) u0 (rdenS u2)).2.1)).2.1) di dj dk dl) 71, em, g.trans hzst, gr.reg, gs.perm ((pk 2 rfl).trans (((pk 2 rfl).trans (((pk 2 rfl).trans (lpr.cons _)).cons _)).cons _)), (nt s), aB, kf, kf, kf, kf, kf, kf, kf, kf, kf, kf, kf, kf, kf, kf, (nt f), (tn d), (fun _ => nu), kf, (tn q), (fun _ => tn d), kf2, (nt f), aX, aY, (nt f), (tn ax), (fun _ => tn d), (fun _ => tn j), (fun _ => nu), kf2, (nt f), (tn bi), (fun _ => nu), kf, (fun _ => db), (fun _ => dc), (fun _ => dd), (fun _ => de), (fun _ => df), (fun _ => co), (fun _ => cp), (fun _ => cq), (fun _ => cr), (fun _ => gm), (fun _ => gn), (fun _ => go), (fun _ => gp), (fun _ => gq), (nt f), (nt f), (nt f)⟩
  ·
   obtain rfl := oj hi
   have c := hpre 14 (by kernel_rfl)
   have d := hpre 7 (by kernel_rfl)
   have bz := hpre 0 (by kernel_rfl)
   have j := hcl 14 13 (by kernel_rfl) c
   have a2 := hcl 14 11 (by kernel_rfl) c
   have bi := hcl 14 8 (by kernel_rfl) c
   have q := hcl 7 6 (by kernel_rfl) d
   have ab := hcl 7 4 (by kernel_rfl) d
   have ax := hcl 7 1 (by kernel_rfl) d
   have bA := hcl 13 12 (by kernel_rfl) j
   have a1 := hcl 11 10 (by kernel_rfl) a2
   have bd := hcl 6 5 (by kernel_rfl) q
   have aa := hcl 4 3 (by kernel_rfl) ab
   have bs := hcl 10 9 (by kernel_rfl) a1
   have aZ := hcl 3 2 (by kernel_rfl) aa
   have f := hSi
   have s := ngF hcl 16 15 f
   obtain rfl := aB bz
   obtain rfl := aC ax
   obtain rfl := aD aZ
   obtain rfl := aM aa
   obtain rfl := aV ab
   obtain rfl := aE bd
   obtain rfl := aN q
   obtain rfl := bl d
   obtain rfl := aF bi
   obtain rfl := aG bs
   obtain rfl := aO a1
   obtain rfl := aW a2
   obtain rfl := aH bA
   obtain rfl := bu j
   obtain rfl := ca c
   obtain rfl := cb c
   obtain rfl := bv d f
   obtain rfl := aY bz f
   obtain rfl := cC c f
   obtain rfl := cc c
   refine hG (any_step ?_); intro A J hJ
   have hzst := Fz.le.refl m
   have dr := aP q
   have ds := aQ q
   have cs := bn d
   have dt := bo d
   have du := bp d
   have dv := bq d
   have dw := br d
   have dx := bw j
   have dy := bx j
   have ct := cd c
   have dz := ce c
   have dA := cf c
   have dB := cg c
   have dC := ch c
   refine ck hFx 81 #[pt n 0, pt l 0, pt p 0] ?_
   refine (gsubI_fun (⟨false, []⟩ : BInt) (gmulABS (⟨false, []⟩ : BInt) u0 (rdenS u2)).1 (gmulABS (⟨false, []⟩ : BInt) (gmulABS (⟨false, []⟩ : BInt) u0 (rdenS u2)).2.2 (rdenS (gmulABS (⟨false, []⟩ : BInt) u0 (rdenS u2)).2.1)).1 fr n none 0 l v x p ap aq _ _ _ _ _ _ (SlR.nil _ _) cs ct (hMx.perm ((pk 2 rfl).trans (((pk 1 rfl).trans (((pk 1 rfl).trans (lpr.cons _)).cons _)).cons _))) hMx.fz).mono ?_; rintro _ gt ⟨dD, dE, dF, dG, dH, dI, es, rfl, av, gu, gv, gw, hm⟩; refine ⟨_, rfl, ?_⟩; intro iz gx; have et := hm
   replace hzst := hzst.mono av
   replace dr := dr.mono av
   replace ds := ds.mono av
   replace cs := cs.mono av
   replace dt := dt.mono av
   replace du := du.mono av
   replace dv := dv.mono av
   replace dw := dw.mono av
   replace dx := dx.mono av
   replace dy := dy.mono av
   replace ct := ct.mono av
   replace dz := dz.mono av
   replace dA := dA.mono av
   replace dB := dB.mono av
   replace dC := dC.mono av
   have gy : Mem B [] w0 Z0 ((.row n [.bool (gsubIS (⟨false, []⟩ : BInt) (gmulABS (⟨false, []⟩ : BInt) u0 (rdenS u2)).1 (gmulABS (⟨false, []⟩ : BInt) (gmulABS (⟨false, []⟩ : BInt) u0 (rdenS u2)).2.2 (rdenS (gmulABS (⟨false, []⟩ : BInt) u0 (rdenS u2)).2.1)).1).1.neg, .slice dD (gsubIS (⟨false, []⟩ : BInt) (gmulABS (⟨false, []⟩ : BInt) u0 (rdenS u2)).1 (gmulABS (⟨false, []⟩ : BInt) (gmulABS (⟨false, []⟩ : BInt) u0 (rdenS u2)).2.2 (rdenS (gmulABS (⟨false, []⟩ : BInt) u0 (rdenS u2)).2.1)).1).1.abs.length dE] 69) :: (.row l [.bool (gsubIS (⟨false, []⟩ : BInt) (gmulABS (⟨false, []⟩ : BInt) u0 (rdenS u2)).1 (gmulABS (⟨false, []⟩ : BInt) (gmulABS (⟨false, []⟩ : BInt) u0 (rdenS u2)).2.2 (rdenS (gmulABS (⟨false, []⟩ : BInt) u0 (rdenS u2)).2.1)).1).2.1.neg, .slice dF (gsubIS (⟨false, []⟩ : BInt) (gmulABS (⟨false, []⟩ : BInt) u0 (rdenS u2)).1 (gmulABS (⟨false, []⟩ : BInt) (gmulABS (⟨false, []⟩ : BInt) u0 (rdenS u2)).2.2 (rdenS (gmulABS (⟨false, []⟩ : BInt) u0 (rdenS u2)).2.1)).1).2.1.abs.length dG] 69) :: (.row p [.bool (gsubIS (⟨false, []⟩ : BInt) (gmulABS (⟨false, []⟩ : BInt) u0 (rdenS u2)).1 (gmulABS (⟨false, []⟩ : BInt) (gmulABS (⟨false, []⟩ : BInt) u0 (rdenS u2)).2.2 (rdenS (gmulABS (⟨false, []⟩ : BInt) u0 (rdenS u2)).2.1)).1).2.2.neg, .slice dH (gsubIS (⟨false, []⟩ : BInt) (gmulABS (⟨false, []⟩ : BInt) u0 (rdenS u2)).1 (gmulABS (⟨false, []⟩ : BInt) (gmulABS (⟨false, []⟩ : BInt) u0 (rdenS u2)).2.2 (rdenS (gmulABS (⟨false, []⟩ : BInt) u0 (rdenS u2)).2.1)).1).2.2.abs.length dI] 69) :: (.row b1 (e71Nf ((gmulABS (⟨false, []⟩ : BInt) (gmulABS (⟨false, []⟩ : BInt) u0 (rdenS u2)).2.2 (rdenS (gmulABS (⟨false, []⟩ : BInt) u0 (rdenS u2)).2.1)).2.2) N O P Q) 71) :: (.row b8 (e71Nf ((gmulABS (⟨false, []⟩ : BInt) (gmulABS (⟨false, []⟩ : BInt) u0 (rdenS u2)).2.2 (rdenS (gmulABS (⟨false, []⟩ : BInt) u0 (rdenS u2)).2.1)).2.1) y z C D) 71) :: Rr) es gt := et
   refine nl (qnI (hJ _ _ ?_))
   exact ⟨n, l, ad, ae, af, ag, v, x, ah, ai, aj, ak, U, V, W, X, p, al, am, an, ao, ap, aq, y, z, C, D, N, O, P, Q, dD, dE, dF, dG, dH, dI, au, pt n 0, pt l 0, pt b1 0, pt b1 0, pt b1 0, pt b8 0, pt b8 2, pt l 0, pt p 0, pt b8 0, pt b8 0, pt b8 0, pt b1 0, pt b1 2, pt p 0, pt n 0, .row b1 (e71Nf ((gmulABS (⟨false, []⟩ : BInt) (gmulABS (⟨false, []⟩ : BInt) u0 (rdenS u2)).2.2 (rdenS (gmulABS (⟨false, []⟩ : BInt) u0 (rdenS u2)).2.1)).2.2) N O P Q) 71, .row l [.bool (gsubIS (⟨false, []⟩ : BInt) (gmulABS (⟨false, []⟩ : BInt) u0 (rdenS u2)).1 (gmulABS (⟨false, []⟩ : BInt) (gmulABS (⟨false, []⟩ : BInt) u0 (rdenS u2)).2.2 (rdenS (gmulABS (⟨false, []⟩ : BInt) u0 (rdenS u2)).2.1)).1).2.1.neg, .slice dF (gsubIS (⟨false, []⟩ : BInt) (gmulABS (⟨false, []⟩ : BInt) u0 (rdenS u2)).1 (gmulABS (⟨false, []⟩ : BInt) (gmulABS (⟨false, []⟩ : BInt) u0 (rdenS u2)).2.2 (rdenS (gmulABS (⟨false, []⟩ : BInt) u0 (rdenS u2)).2.1)).1).2.1.abs.length dG] 69, .row p [.bool (gsubIS (⟨false, []⟩ : BInt) (gmulABS (⟨false, []⟩ : BInt) u0 (rdenS u2)).1 (gmulABS (⟨false, []⟩ : BInt) (gmulABS (⟨false, []⟩ : BInt) u0 (rdenS u2)).2.2 (rdenS (gmulABS (⟨false, []⟩ : BInt) u0 (rdenS u2)).2.1)).1).2.2.neg, .slice dH (gsubIS (⟨false, []⟩ : BInt) (gmulABS (⟨false, []⟩ : BInt) u0 (rdenS u2)).1 (gmulABS (⟨false, []⟩ : BInt) (gmulABS (⟨false, []⟩ : BInt) u0 (rdenS u2)).2.2 (rdenS (gmulABS (⟨false, []⟩ : BInt) u0 (rdenS u2)).2.1)).1).2.2.abs.length dI] 69, .row n [.bool (gsubIS (⟨false, []⟩ : BInt) (gmulABS (⟨false, []⟩ : BInt) u0 (rdenS u2)).1 (gmulABS (⟨false, []⟩ : BInt) (gmulABS (⟨false, []⟩ : BInt) u0 (rdenS u2)).2.2 (rdenS (gmulABS (⟨false, []⟩ : BInt) u0 (rdenS u2)).2.1)).1).1.neg, .slice dD (gsubIS (⟨false, []⟩ : BInt) (gmulABS (⟨false, []⟩ : BInt) u0 (rdenS u2)).1 (gmulABS (⟨false, []⟩ : BInt) (gmulABS (⟨false, []⟩ : BInt) u0 (rdenS u2)).2.2 (rdenS (gmulABS (⟨false, []⟩ : BInt) u0 (rdenS u2)).2.1)).1).1.abs.length dE] 69, .row b8 (e71Nf ((gmulABS (⟨false, []⟩ : BInt) (gmulABS (⟨false, []⟩ : BInt) u0 (rdenS u2)).2.2 (rdenS (gmulABS (⟨false, []⟩ : BInt) u0 (rdenS u2)).2.1)).2.1) y z C D) 71, es, g.trans hzst, gx.reg, gy.perm ((pk 3 rfl).trans (((pk 1 rfl).trans (((pk 1 rfl).trans (lpr.cons _)).cons _)).cons _)), (nt s), kf, kf, kf, kf, kf, kf, kf, kf, kf, kf, kf, kf, kf, kf, kf, kf, (tn d), (fun _ => tn c), kf, (tn q), (fun _ => tn d), (fun _ => nu), kf, (tn bz), (fun _ => nu), kf, (tn ax), (fun _ => tn d), (fun _ => tn j), (fun _ => tn c), (fun _ => nu), kf, (tn bi), (fun _ => tn c), kf, (fun _ => dr), (fun _ => ds), (fun _ => cs), (fun _ => dt), (fun _ => du), (fun _ => dv), (fun _ => dw), (fun _ => dx), (fun _ => dy), (fun _ => ct), (fun _ => dz), (fun _ => dA), (fun _ => dB), (fun _ => dC), (fun _ => gu), (fun _ => gv), (fun _ => gw)⟩
  obtain rfl := oj hi
  have f := hpre 15 (by kernel_rfl)
  have c := hpre 14 (by kernel_rfl)
  have j := hpre 13 (by kernel_rfl)
  have bA := hpre 12 (by kernel_rfl)
  have a2 := hpre 11 (by kernel_rfl)
  have a1 := hpre 10 (by kernel_rfl)
  have bs := hpre 9 (by kernel_rfl)
  have bi := hpre 8 (by kernel_rfl)
  have d := hpre 7 (by kernel_rfl)
  have q := hpre 6 (by kernel_rfl)
  have bd := hpre 5 (by kernel_rfl)
  have ab := hpre 4 (by kernel_rfl)
  have aa := hpre 3 (by kernel_rfl)
  have aZ := hpre 2 (by kernel_rfl)
  have ax := hpre 1 (by kernel_rfl)
  have bz := hpre 0 (by kernel_rfl)
  obtain rfl := aB bz
  obtain rfl := aC ax
  obtain rfl := aD aZ
  obtain rfl := aM aa
  obtain rfl := aV ab
  obtain rfl := aE bd
  obtain rfl := aN q
  obtain rfl := bl d
  obtain rfl := aF bi
  obtain rfl := aG bs
  obtain rfl := aO a1
  obtain rfl := aW a2
  obtain rfl := aH bA
  obtain rfl := bu j
  obtain rfl := ca c
  obtain rfl := cz f
  obtain rfl := cb c
  obtain rfl := cA f
  obtain rfl := cB f
  obtain rfl := cD f
  obtain rfl := cc c
  refine hG (any_step ?_); intro A J hJ
  have gz := aP q
  have gA := aQ q
  have gB := bn d
  have gC := bo d
  have gD := bp d
  have gE := bq d
  have gF := br d
  have gG := bw j
  have gH := bx j
  have gI := cd c
  have gJ := ce c
  have gK := cf c
  have gL := cg c
  have gM := ch c
  have gN := cE f
  have gO := cF f
  have gP := cG f
  refine s1 hFx 7 (pt n 0) ?_; intro iE gQ
  refine nl (qnI (hJ _ _ ?_))
  exact ⟨n, l, ad, ae, af, ag, v, x, ah, ai, aj, ak, U, V, W, X, p, al, am, an, ao, ap, aq, y, z, C, D, N, O, P, Q, E, F, H, I, L, M, pt n 0, pt n 0, pt l 0, pt b1 0, pt b1 0, pt b1 0, pt b8 0, pt b8 2, pt l 0, pt p 0, pt b8 0, pt b8 0, pt b8 0, pt b1 0, pt b1 2, pt p 0, pt n 0, .row b1 (e71Nf ((gmulABS (⟨false, []⟩ : BInt) (gmulABS (⟨false, []⟩ : BInt) u0 (rdenS u2)).2.2 (rdenS (gmulABS (⟨false, []⟩ : BInt) u0 (rdenS u2)).2.1)).2.2) N O P Q) 71, .row l [.bool (gsubIS (⟨false, []⟩ : BInt) (gmulABS (⟨false, []⟩ : BInt) u0 (rdenS u2)).1 (gmulABS (⟨false, []⟩ : BInt) (gmulABS (⟨false, []⟩ : BInt) u0 (rdenS u2)).2.2 (rdenS (gmulABS (⟨false, []⟩ : BInt) u0 (rdenS u2)).2.1)).1).2.1.neg, .slice H (gsubIS (⟨false, []⟩ : BInt) (gmulABS (⟨false, []⟩ : BInt) u0 (rdenS u2)).1 (gmulABS (⟨false, []⟩ : BInt) (gmulABS (⟨false, []⟩ : BInt) u0 (rdenS u2)).2.2 (rdenS (gmulABS (⟨false, []⟩ : BInt) u0 (rdenS u2)).2.1)).1).2.1.abs.length I] 69, .row p [.bool (gsubIS (⟨false, []⟩ : BInt) (gmulABS (⟨false, []⟩ : BInt) u0 (rdenS u2)).1 (gmulABS (⟨false, []⟩ : BInt) (gmulABS (⟨false, []⟩ : BInt) u0 (rdenS u2)).2.2 (rdenS (gmulABS (⟨false, []⟩ : BInt) u0 (rdenS u2)).2.1)).1).2.2.neg, .slice L (gsubIS (⟨false, []⟩ : BInt) (gmulABS (⟨false, []⟩ : BInt) u0 (rdenS u2)).1 (gmulABS (⟨false, []⟩ : BInt) (gmulABS (⟨false, []⟩ : BInt) u0 (rdenS u2)).2.2 (rdenS (gmulABS (⟨false, []⟩ : BInt) u0 (rdenS u2)).2.1)).1).2.2.abs.length M] 69, .row n [.bool (gsubIS (⟨false, []⟩ : BInt) (gmulABS (⟨false, []⟩ : BInt) u0 (rdenS u2)).1 (gmulABS (⟨false, []⟩ : BInt) (gmulABS (⟨false, []⟩ : BInt) u0 (rdenS u2)).2.2 (rdenS (gmulABS (⟨false, []⟩ : BInt) u0 (rdenS u2)).2.1)).1).1.neg, .slice E (gsubIS (⟨false, []⟩ : BInt) (gmulABS (⟨false, []⟩ : BInt) u0 (rdenS u2)).1 (gmulABS (⟨false, []⟩ : BInt) (gmulABS (⟨false, []⟩ : BInt) u0 (rdenS u2)).2.2 (rdenS (gmulABS (⟨false, []⟩ : BInt) u0 (rdenS u2)).2.1)).1).1.abs.length F] 69, .row b8 (e71Nf ((gmulABS (⟨false, []⟩ : BInt) (gmulABS (⟨false, []⟩ : BInt) u0 (rdenS u2)).2.2 (rdenS (gmulABS (⟨false, []⟩ : BInt) u0 (rdenS u2)).2.1)).2.1) y z C D) 71, m, g, gQ.reg, hMx.perm lpr, kf, kf, kf, kf, kf, kf, kf, kf, kf, kf, kf, kf, kf, kf, kf, kf, kf, (tn d), (fun _ => tn c), kf, (tn q), (fun _ => tn d), (fun _ => tn f), kf, (tn bz), (fun _ => tn f), kf, (tn ax), (fun _ => tn d), (fun _ => tn j), (fun _ => tn c), (fun _ => tn f), kf, (tn bi), (fun _ => tn c), kf, (fun _ => gz), (fun _ => gA), (fun _ => gB), (fun _ => gC), (fun _ => gD), (fun _ => gE), (fun _ => gF), (fun _ => gG), (fun _ => gH), (fun _ => gI), (fun _ => gJ), (fun _ => gK), (fun _ => gL), (fun _ => gM), (fun _ => gN), (fun _ => gO), (fun _ => gP)⟩
 case hE =>
  intro S hS gR iF hI; refine Go.Sy.hid ?_; intro G hG; obtain ⟨n, l, ad, ae, af, ag, v, x, ah, ai, aj, ak, U, V, W, X, p, al, am, an, ao, ap, aq, y, z, hI⟩ := hI; obtain ⟨C, D, N, O, P, Q, E, F, H, I, L, M, au, az, a3, be, ba, a4, bb, a5, aS, aI, a6, aT, aJ, hI⟩ := hI; obtain ⟨aU, aK, aA, aw, bk, aL, R, ar, Y, m, g, hFx, hMx, d0, aB, aC, aD, aM, aV, aE, aN, bl, aF, aG, aO, hI⟩ := hI; obtain ⟨aW, aH, bu, ca, cz, bc, bB, cb, bf, bm, bv, cA, aX, aY, cB, bg, bh, bJ, b5, cC, cD, a7, a8, cc, aP, hI⟩ := hI; obtain ⟨aQ, bn, bo, bp, bq, br, bw, bx, cd, ce, cf, cg, ch, cE, cF, hI⟩ := hI; refine hG ?_
  obtain rfl := d0 (hS 16 (by decide))
  obtain rfl := aB (hS 0 (by decide))
  obtain rfl := aC (hS 1 (by decide))
  obtain rfl := aD (hS 2 (by decide))
  obtain rfl := aM (hS 3 (by decide))
  obtain rfl := aV (hS 4 (by decide))
  obtain rfl := aE (hS 5 (by decide))
  obtain rfl := aN (hS 6 (by decide))
  obtain rfl := bl (hS 7 (by decide))
  obtain rfl := aF (hS 8 (by decide))
  obtain rfl := aG (hS 9 (by decide))
  obtain rfl := aO (hS 10 (by decide))
  obtain rfl := aW (hS 11 (by decide))
  obtain rfl := aH (hS 12 (by decide))
  obtain rfl := bu (hS 13 (by decide))
  obtain rfl := ca (hS 14 (by decide))
  obtain rfl := cz (hS 15 (by decide))
  obtain rfl := cb (hS 14 (by decide))
  obtain rfl := cA (hS 15 (by decide))
  obtain rfl := cB (hS 15 (by decide))
  obtain rfl := cD (hS 15 (by decide))
  obtain rfl := cc (hS 14 (by decide))
  have k := Fz.le.trans k g
  have bC := ce (hS 14 (by decide))
  have bD := cf (hS 14 (by decide))
  have bE := cg (hS 14 (by decide))
  have bF := ch (hS 14 (by decide))
  have bG := cE (hS 15 (by decide))
  apply t_
  have eu : Fr 33 [] [⟨0, [], pt b1 0⟩, ⟨1, [], pt b1 0⟩, ⟨2, [], pt b8 0⟩, ⟨7, [], pt n 0⟩] gR := hFx.reg
  refine sqH ?_; intro gS ev
  refine bt eu hMx 2 [] [] [(24, pt b1 0), (25, pt n 0)] ?_; intro iG ew
  refine nw ew hMx pb [.bool false, .slice none 0 0] 69 ?_; intro b2 iH iI ex dJ
  refine s1 ex 27 (pt b1 0) ?_; intro iJ ey
  obtain ⟨gT, ez⟩ := fs
  refine ck ey 78 #[pt b1 0] ?_
  obtain ⟨bH, gU, eA⟩ := hxq ez
  have h9 := rden_fun (gmulABS (⟨false, []⟩ : BInt) (gmulABS (⟨false, []⟩ : BInt) u0 (rdenS u2)).2.2 (rdenS (gmulABS (⟨false, []⟩ : BInt) u0 (rdenS u2)).2.1)).2.2 gT b1 N O P Q _ _ _ _ _ _ bE bF (dJ.perm (pk 1 rfl)) dJ.fz; rw [gU] at h9; refine h9.mono ?_; rintro _ gV ⟨dK, dL, dM, dN, gW, rfl, ac, b3, b4, hm⟩; refine ⟨_, rfl, ?_⟩; intro iK eB; have eC := hm
  replace bC := bC.mono ac
  replace bD := bD.mono ac
  replace bG := bG.mono ac
  replace k := Fz.le.trans k ac
  have dO : Mem B [] w0 Z0 ((.row b1 (e71Nf bH dK dL dM dN) 71) :: (.row b2 [.bool false, .slice none 0 0] 69) :: (.row l [.bool (gsubIS (⟨false, []⟩ : BInt) (gmulABS (⟨false, []⟩ : BInt) u0 (rdenS u2)).1 (gmulABS (⟨false, []⟩ : BInt) (gmulABS (⟨false, []⟩ : BInt) u0 (rdenS u2)).2.2 (rdenS (gmulABS (⟨false, []⟩ : BInt) u0 (rdenS u2)).2.1)).1).2.1.neg, .slice H (gsubIS (⟨false, []⟩ : BInt) (gmulABS (⟨false, []⟩ : BInt) u0 (rdenS u2)).1 (gmulABS (⟨false, []⟩ : BInt) (gmulABS (⟨false, []⟩ : BInt) u0 (rdenS u2)).2.2 (rdenS (gmulABS (⟨false, []⟩ : BInt) u0 (rdenS u2)).2.1)).1).2.1.abs.length I] 69) :: (.row p [.bool (gsubIS (⟨false, []⟩ : BInt) (gmulABS (⟨false, []⟩ : BInt) u0 (rdenS u2)).1 (gmulABS (⟨false, []⟩ : BInt) (gmulABS (⟨false, []⟩ : BInt) u0 (rdenS u2)).2.2 (rdenS (gmulABS (⟨false, []⟩ : BInt) u0 (rdenS u2)).2.1)).1).2.2.neg, .slice L (gsubIS (⟨false, []⟩ : BInt) (gmulABS (⟨false, []⟩ : BInt) u0 (rdenS u2)).1 (gmulABS (⟨false, []⟩ : BInt) (gmulABS (⟨false, []⟩ : BInt) u0 (rdenS u2)).2.2 (rdenS (gmulABS (⟨false, []⟩ : BInt) u0 (rdenS u2)).2.1)).1).2.2.abs.length M] 69) :: (.row n [.bool (gsubIS (⟨false, []⟩ : BInt) (gmulABS (⟨false, []⟩ : BInt) u0 (rdenS u2)).1 (gmulABS (⟨false, []⟩ : BInt) (gmulABS (⟨false, []⟩ : BInt) u0 (rdenS u2)).2.2 (rdenS (gmulABS (⟨false, []⟩ : BInt) u0 (rdenS u2)).2.1)).1).1.neg, .slice E (gsubIS (⟨false, []⟩ : BInt) (gmulABS (⟨false, []⟩ : BInt) u0 (rdenS u2)).1 (gmulABS (⟨false, []⟩ : BInt) (gmulABS (⟨false, []⟩ : BInt) u0 (rdenS u2)).2.2 (rdenS (gmulABS (⟨false, []⟩ : BInt) u0 (rdenS u2)).2.1)).1).1.abs.length F] 69) :: (.row b8 (e71Nf ((gmulABS (⟨false, []⟩ : BInt) (gmulABS (⟨false, []⟩ : BInt) u0 (rdenS u2)).2.2 (rdenS (gmulABS (⟨false, []⟩ : BInt) u0 (rdenS u2)).2.1)).2.1) y z C D) 71) :: Rr) gW gV := eC
  have gX := eA (b3.small) (b4.small)
  refine s1 eB 29 (pt b8 0) ?_; intro iL eE
  obtain ⟨gY, eF⟩ := gX
  refine ck eE 78 #[pt b8 0] ?_
  obtain ⟨ci, gZ, eG⟩ := hxq eF
  have h9 := rden_fun (gmulABS (⟨false, []⟩ : BInt) (gmulABS (⟨false, []⟩ : BInt) u0 (rdenS u2)).2.2 (rdenS (gmulABS (⟨false, []⟩ : BInt) u0 (rdenS u2)).2.1)).2.1 gY b8 y z C D _ _ _ _ _ _ bC bD (dO.perm (pk 5 rfl)) dO.fz; rw [gZ] at h9; refine h9.mono ?_; rintro _ g0 ⟨eH, eI, eJ, eK, g1, rfl, T, b7, b9, hm⟩; refine ⟨_, rfl, ?_⟩; intro iM eL; have eM := hm
  replace bG := bG.mono T
  replace b3 := b3.mono T
  replace b4 := b4.mono T
  replace k := Fz.le.trans k T
  have dP : Mem B [] w0 Z0 ((.row b8 (e71Nf ci eH eI eJ eK) 71) :: (.row b1 (e71Nf bH dK dL dM dN) 71) :: (.row b2 [.bool false, .slice none 0 0] 69) :: (.row l [.bool (gsubIS (⟨false, []⟩ : BInt) (gmulABS (⟨false, []⟩ : BInt) u0 (rdenS u2)).1 (gmulABS (⟨false, []⟩ : BInt) (gmulABS (⟨false, []⟩ : BInt) u0 (rdenS u2)).2.2 (rdenS (gmulABS (⟨false, []⟩ : BInt) u0 (rdenS u2)).2.1)).1).2.1.neg, .slice H (gsubIS (⟨false, []⟩ : BInt) (gmulABS (⟨false, []⟩ : BInt) u0 (rdenS u2)).1 (gmulABS (⟨false, []⟩ : BInt) (gmulABS (⟨false, []⟩ : BInt) u0 (rdenS u2)).2.2 (rdenS (gmulABS (⟨false, []⟩ : BInt) u0 (rdenS u2)).2.1)).1).2.1.abs.length I] 69) :: (.row p [.bool (gsubIS (⟨false, []⟩ : BInt) (gmulABS (⟨false, []⟩ : BInt) u0 (rdenS u2)).1 (gmulABS (⟨false, []⟩ : BInt) (gmulABS (⟨false, []⟩ : BInt) u0 (rdenS u2)).2.2 (rdenS (gmulABS (⟨false, []⟩ : BInt) u0 (rdenS u2)).2.1)).1).2.2.neg, .slice L (gsubIS (⟨false, []⟩ : BInt) (gmulABS (⟨false, []⟩ : BInt) u0 (rdenS u2)).1 (gmulABS (⟨false, []⟩ : BInt) (gmulABS (⟨false, []⟩ : BInt) u0 (rdenS u2)).2.2 (rdenS (gmulABS (⟨false, []⟩ : BInt) u0 (rdenS u2)).2.1)).1).2.2.abs.length M] 69) :: (.row n [.bool (gsubIS (⟨false, []⟩ : BInt) (gmulABS (⟨false, []⟩ : BInt) u0 (rdenS u2)).1 (gmulABS (⟨false, []⟩ : BInt) (gmulABS (⟨false, []⟩ : BInt) u0 (rdenS u2)).2.2 (rdenS (gmulABS (⟨false, []⟩ : BInt) u0 (rdenS u2)).2.1)).1).1.neg, .slice E (gsubIS (⟨false, []⟩ : BInt) (gmulABS (⟨false, []⟩ : BInt) u0 (rdenS u2)).1 (gmulABS (⟨false, []⟩ : BInt) (gmulABS (⟨false, []⟩ : BInt) u0 (rdenS u2)).2.2 (rdenS (gmulABS (⟨false, []⟩ : BInt) u0 (rdenS u2)).2.1)).1).1.abs.length F] 69) :: Rr) g1 g0 := eM
  obtain ⟨g3, eO⟩ := eG (b7.small) (b9.small)
  refine ck eL 77 #[pt b2 0, pt b1 2, pt b8 2] ?_
  obtain ⟨aR, g4, eP⟩ := hxq eO
  have h9 := gmulBB_fun (⟨false, []⟩ : BInt) bH ci g3 b2 none 0 b1 dK dL dM dN b8 eH eI eJ eK _ _ _ _ _ _ (SlR.nil _ _) b3 b4 b7 b9 (dP.perm ((pk 2 rfl).trans (((pk 1 rfl).trans (lpr.cons _)).cons _))) dP.fz; rw [g4] at h9; refine h9.mono ?_; rintro _ g5 ⟨eQ, eR, eS, eT, eU, eV, dQ, dR, dS, dT, g6, rfl, u, cu, cv, cw, cx, cy, hm⟩; refine ⟨_, rfl, ?_⟩; intro iN eW; have eX := hm
  replace bG := bG.mono u
  replace k := Fz.le.trans k u
  have dU : Mem B [] w0 Z0 ((.row b2 [.bool aR.1.neg, .slice eQ aR.1.abs.length eR] 69) :: (.row b1 (e71Nf aR.2.1 eS eT eU eV) 71) :: (.row b8 (e71Nf aR.2.2 dQ dR dS dT) 71) :: (.row l [.bool (gsubIS (⟨false, []⟩ : BInt) (gmulABS (⟨false, []⟩ : BInt) u0 (rdenS u2)).1 (gmulABS (⟨false, []⟩ : BInt) (gmulABS (⟨false, []⟩ : BInt) u0 (rdenS u2)).2.2 (rdenS (gmulABS (⟨false, []⟩ : BInt) u0 (rdenS u2)).2.1)).1).2.1.neg, .slice H (gsubIS (⟨false, []⟩ : BInt) (gmulABS (⟨false, []⟩ : BInt) u0 (rdenS u2)).1 (gmulABS (⟨false, []⟩ : BInt) (gmulABS (⟨false, []⟩ : BInt) u0 (rdenS u2)).2.2 (rdenS (gmulABS (⟨false, []⟩ : BInt) u0 (rdenS u2)).2.1)).1).2.1.abs.length I] 69) :: (.row p [.bool (gsubIS (⟨false, []⟩ : BInt) (gmulABS (⟨false, []⟩ : BInt) u0 (rdenS u2)).1 (gmulABS (⟨false, []⟩ : BInt) (gmulABS (⟨false, []⟩ : BInt) u0 (rdenS u2)).2.2 (rdenS (gmulABS (⟨false, []⟩ : BInt) u0 (rdenS u2)).2.1)).1).2.2.neg, .slice L (gsubIS (⟨false, []⟩ : BInt) (gmulABS (⟨false, []⟩ : BInt) u0 (rdenS u2)).1 (gmulABS (⟨false, []⟩ : BInt) (gmulABS (⟨false, []⟩ : BInt) u0 (rdenS u2)).2.2 (rdenS (gmulABS (⟨false, []⟩ : BInt) u0 (rdenS u2)).2.1)).1).2.2.abs.length M] 69) :: (.row n [.bool (gsubIS (⟨false, []⟩ : BInt) (gmulABS (⟨false, []⟩ : BInt) u0 (rdenS u2)).1 (gmulABS (⟨false, []⟩ : BInt) (gmulABS (⟨false, []⟩ : BInt) u0 (rdenS u2)).2.2 (rdenS (gmulABS (⟨false, []⟩ : BInt) u0 (rdenS u2)).2.1)).1).1.neg, .slice E (gsubIS (⟨false, []⟩ : BInt) (gmulABS (⟨false, []⟩ : BInt) u0 (rdenS u2)).1 (gmulABS (⟨false, []⟩ : BInt) (gmulABS (⟨false, []⟩ : BInt) u0 (rdenS u2)).2.2 (rdenS (gmulABS (⟨false, []⟩ : BInt) u0 (rdenS u2)).2.1)).1).1.abs.length F] 69) :: Rr) g6 g5 := eX
  obtain ⟨g8, e2⟩ := eP (cu.small) (cv.small) (cw.small) (cx.small) (cy.small)
  refine ck eW 75 #[pt b1 0, pt n 0, pt b2 0] ?_
  obtain ⟨bI, g9, e3⟩ := hxq e2
  have h9 := rsf_fun aR.2.1 (gsubIS (⟨false, []⟩ : BInt) (gmulABS (⟨false, []⟩ : BInt) u0 (rdenS u2)).1 (gmulABS (⟨false, []⟩ : BInt) (gmulABS (⟨false, []⟩ : BInt) u0 (rdenS u2)).2.2 (rdenS (gmulABS (⟨false, []⟩ : BInt) u0 (rdenS u2)).2.1)).1).1 aR.1 g8 b1 eS eT eU eV n E F b2 eQ eR _ _ _ _ _ _ cv cw bG cu (dU.perm ((pk 1 rfl).trans (((pk 4 rfl).trans (lpr.cons _)).cons _))) dU.fz; rw [g9] at h9; refine h9.mono ?_; rintro _ ha ⟨e4, e5, e6, e7, hb, hc, hd, he, e8, rfl, t, e9, fa, hf, hg, hm⟩; refine ⟨_, rfl, ?_⟩; intro iO fb; have fc := hm
  replace cx := cx.mono t
  replace cy := cy.mono t
  replace k := Fz.le.trans k t
  have hh : Mem B [] w0 Z0 ((.row b1 (e71Nf bI.1 e4 e5 e6 e7) 71) :: (.row n [.bool bI.2.1.neg, .slice hb bI.2.1.abs.length hc] 69) :: (.row b2 [.bool bI.2.2.neg, .slice hd bI.2.2.abs.length he] 69) :: (.row b8 (e71Nf aR.2.2 dQ dR dS dT) 71) :: (.row l [.bool (gsubIS (⟨false, []⟩ : BInt) (gmulABS (⟨false, []⟩ : BInt) u0 (rdenS u2)).1 (gmulABS (⟨false, []⟩ : BInt) (gmulABS (⟨false, []⟩ : BInt) u0 (rdenS u2)).2.2 (rdenS (gmulABS (⟨false, []⟩ : BInt) u0 (rdenS u2)).2.1)).1).2.1.neg, .slice H (gsubIS (⟨false, []⟩ : BInt) (gmulABS (⟨false, []⟩ : BInt) u0 (rdenS u2)).1 (gmulABS (⟨false, []⟩ : BInt) (gmulABS (⟨false, []⟩ : BInt) u0 (rdenS u2)).2.2 (rdenS (gmulABS (⟨false, []⟩ : BInt) u0 (rdenS u2)).2.1)).1).2.1.abs.length I] 69) :: (.row p [.bool (gsubIS (⟨false, []⟩ : BInt) (gmulABS (⟨false, []⟩ : BInt) u0 (rdenS u2)).1 (gmulABS (⟨false, []⟩ : BInt) (gmulABS (⟨false, []⟩ : BInt) u0 (rdenS u2)).2.2 (rdenS (gmulABS (⟨false, []⟩ : BInt) u0 (rdenS u2)).2.1)).1).2.2.neg, .slice L (gsubIS (⟨false, []⟩ : BInt) (gmulABS (⟨false, []⟩ : BInt) u0 (rdenS u2)).1 (gmulABS (⟨false, []⟩ : BInt) (gmulABS (⟨false, []⟩ : BInt) u0 (rdenS u2)).2.2 (rdenS (gmulABS (⟨false, []⟩ : BInt) u0 (rdenS u2)).2.1)).1).2.2.abs.length M] 69) :: Rr) e8 ha := fc
  have hj := e3 (e9.small) (fa.small) (hf.small) (hg.small)
  refine s1 fb 6 (pt b1 0) ?_; intro iP hk
  apply ev
  exact r_ (ra1 hk (pt b1 0) ⟨(bI.1, aR.2.2), e4, e5, e6, e7, dQ, dR, dS, dT, e8, rfl, hj, k, e9, fa, cx, cy, hh.kp⟩)

theorem rmul_walk (u0 : BRat) (u2 : BRat) (b1 : Nat) (ao2 : Option Addr) (cap3 : Nat) (ao5 : Option Addr) (cap6 : Nat) (b8 : Nat) (ao9 : Option Addr) (cap10 : Nat) (ao12 : Option Addr) (cap13 : Nat) (B : Nat) (w0 : World) (Z0 : Fz) (Rr : List Res) (Z : Fz) (w : World) (hs4 : SlR (tyInt .u32) Z ao2 cap3 u0.a.abs) (hs7 : SlR (tyInt .u32) Z ao5 cap6 u0.b.abs) (hs11 : SlR (tyInt .u32) Z ao9 cap10 u2.a.abs) (hs14 : SlR (tyInt .u32) Z ao12 cap13 u2.b.abs) (hM0 : Mem B [] w0 Z0 ((.row b1 [.bool u0.a.neg, .slice ao2 u0.a.abs.length cap3, .bool u0.b.neg, .slice ao5 u0.b.abs.length cap6] 71) :: (.row b8 [.bool u2.a.neg, .slice ao9 u2.a.abs.length cap10, .bool u2.b.neg, .slice ao12 u2.b.abs.length cap13] 71) :: Rr) Z w) (hZ : Z.on w) {K : (BRat × BRat) → Prop} (hp : rmul_vc u0 u2 K) : Calls Tryd.prog 49 #[pt b1 0, pt b1 0, pt b8 0] w fun e w' => ∃ (r : BRat × BRat) (ao1001 : Option Addr) (cap1002 : Nat) (ao1004 : Option Addr) (cap1005 : Nat) (ao1007 : Option Addr) (cap1008 : Nat) (ao1010 : Option Addr) (cap1011 : Nat) (Z' : Fz), e = .returned (pt b1 0) ∧ K r ∧ Fz.le Z Z' ∧ SlR (tyInt .u32) Z' ao1001 cap1002 r.1.a.abs ∧ SlR (tyInt .u32) Z' ao1004 cap1005 r.1.b.abs ∧ SlR (tyInt .u32) Z' ao1007 cap1008 r.2.a.abs ∧ SlR (tyInt .u32) Z' ao1010 cap1011 r.2.b.abs ∧ Mem B [] w0 Z0 ((.row b1 [.bool r.1.a.neg, .slice ao1001 r.1.a.abs.length cap1002, .bool r.1.b.neg, .slice ao1004 r.1.b.abs.length cap1005] 71) :: (.row b8 [.bool r.2.a.neg, .slice ao1007 r.2.a.abs.length cap1008, .bool r.2.b.neg, .slice ao1010 r.2.b.abs.length cap1011] 71) :: Rr) Z' w' := by
 refine enter0 Tryd.func49 rfl rfl (by kernel_rfl) ?_; intro a0 c7; have n := Fz.le.refl Z
 have dG := hp (hs4.small) (hs7.small) (hs11.small) (hs14.small)
 refine sqB c7 hM0 [] [] [] ?_; intro av db
 have dH : Fr 23 [] [⟨0, [], pt b1 0⟩, ⟨1, [], pt b1 0⟩, ⟨2, [], pt b8 0⟩] av := db.reg
 obtain ⟨dI, dJ⟩ := dG
 obtain ⟨dK, dL⟩ := dJ
 obtain ⟨dM, dN⟩ := dL
 obtain ⟨dO, dP⟩ := dN
 obtain ⟨dQ, dR⟩ := dP
 refine wp_seq (any_invE mixed [[], [], [], [2], [3], [], [5], [6], [1, 4, 7], [], [], [8, 10], [], [11, 12], [9, 11, 13], [0, 8, 14], [0, 1, 2, 3, 4, 5, 6, 7, 8, 9, 10, 11, 12, 13, 14, 15]] 17 (fun S a w1 => ∃ (m : Nat) (s : Option Addr) (t : Nat) (X : Option Addr) (Y : Nat) (aa : Option Addr) (ab : Nat) (F : Option Addr) (H : Nat) (I : Option Addr) (L : Nat) (p : Nat) (M : Option Addr) (N : Nat) (O : Option Addr) (P : Nat) (ac : Option Addr) (ad : Nat) (ae : Option Addr) (af : Nat) (ag : Option Addr) (ah : Nat) (ai : Option Addr) (aj : Nat) (ak : Option Addr) (al : Nat) (z : Option Addr) (C : Nat) (D : Option Addr) (E : Nat) (Q : Option Addr) (R : Nat) (T : Option Addr) (U : Nat) (am : Option Addr) (an : Nat) (ao : Option Addr) (ap : Nat) (aq : Value) (aw : Value) (aV : Value) (a5 : Value) (aY : Value) (aW : Value) (a6 : Value) (aZ : Value) (aX : Value) (aQ : Value) (aH : Value) (aR : Value) (aM : Value) (aN : Value) (aI : Value) (ax : Value) (au : Value) (a7 : Res) (a8 : Res) (aJ : Res) (V : Res) (l : Fz), Fz.le Z l ∧ Fr 23 [] [⟨0, [], pt b1 0⟩, ⟨1, [], pt b1 0⟩, ⟨2, [], pt b8 0⟩, ⟨6, [], aq⟩, ⟨7, [], aw⟩, ⟨8, [], aV⟩, ⟨9, [], a5⟩, ⟨10, [], aY⟩, ⟨11, [], aW⟩, ⟨12, [], a6⟩, ⟨13, [], aZ⟩, ⟨14, [], aX⟩, ⟨15, [], aQ⟩, ⟨16, [], aH⟩, ⟨17, [], aR⟩, ⟨18, [], aM⟩, ⟨19, [], aN⟩, ⟨20, [], aI⟩, ⟨21, [], ax⟩, ⟨22, [], au⟩] a ∧ Mem B [] w0 Z0 (a7 :: a8 :: aJ :: V :: Rr) l w1 ∧ (S 16 = true → aq = pt b1 0) ∧ (S 0 = true → aw = pt b1 0) ∧ (S 1 = true → aV = pt m 0) ∧ (S 2 = true → a5 = pt b1 0) ∧ (S 3 = true → aY = pt b1 0) ∧ (S 4 = true → aW = pt b1 0) ∧ (S 5 = true → a6 = pt b8 0) ∧ (S 6 = true → aZ = pt b8 0) ∧ (S 7 = true → aX = pt b8 0) ∧ (S 8 = true → aQ = pt m 0) ∧ (S 9 = true → aH = pt p 0) ∧ (S 10 = true → aR = pt b1 0) ∧ (S 11 = true → aM = pt b1 2) ∧ (S 12 = true → aN = pt b8 0) ∧ (S 13 = true → aI = pt b8 2) ∧ (S 14 = true → ax = pt p 0) ∧ (S 15 = true → au = pt b1 0) ∧ (S 8 = false → a7 = .row b1 (e71Nf u0 ao2 cap3 ao5 cap6) 71) ∧ (S 8 = true → S 11 = false → a7 = .row b1 (e71Nf ((gmulAAS (⟨false, []⟩ : BInt) u0 u2).2.1) X Y aa ab) 71) ∧ (S 11 = true → S 14 = false → a7 = .row b1 (e71Nf (rdenS (gmulAAS (⟨false, []⟩ : BInt) u0 u2).2.1) M N O P) 71) ∧ (S 14 = true → S 15 = false → a7 = .row b1 (e71Nf ((gmulBBS (⟨false, []⟩ : BInt) (rdenS (gmulAAS (⟨false, []⟩ : BInt) u0 u2).2.1) (rdenS (gmulAAS (⟨false, []⟩ : BInt) u0 u2).2.2)).2.1) ai aj ak al) 71) ∧ (S 15 = true → a7 = .row m [.bool (rsfS (gmulBBS (⟨false, []⟩ : BInt) (rdenS (gmulAAS (⟨false, []⟩ : BInt) u0 u2).2.1) (rdenS (gmulAAS (⟨false, []⟩ : BInt) u0 u2).2.2)).2.1 (gmulAAS (⟨false, []⟩ : BInt) u0 u2).1 (gmulBBS (⟨false, []⟩ : BInt) (rdenS (gmulAAS (⟨false, []⟩ : BInt) u0 u2).2.1) (rdenS (gmulAAS (⟨false, []⟩ : BInt) u0 u2).2.2)).1).2.1.neg, .slice am (rsfS (gmulBBS (⟨false, []⟩ : BInt) (rdenS (gmulAAS (⟨false, []⟩ : BInt) u0 u2).2.1) (rdenS (gmulAAS (⟨false, []⟩ : BInt) u0 u2).2.2)).2.1 (gmulAAS (⟨false, []⟩ : BInt) u0 u2).1 (gmulBBS (⟨false, []⟩ : BInt) (rdenS (gmulAAS (⟨false, []⟩ : BInt) u0 u2).2.1) (rdenS (gmulAAS (⟨false, []⟩ : BInt) u0 u2).2.2)).1).2.1.abs.length an] 69) ∧ (S 8 = false → a8 = .row b8 (e71Nf u2 ao9 cap10 ao12 cap13) 71) ∧ (S 8 = true → S 13 = false → a8 = .row b8 (e71Nf ((gmulAAS (⟨false, []⟩ : BInt) u0 u2).2.2) F H I L) 71) ∧ (S 13 = true → S 14 = false → a8 = .row b8 (e71Nf (rdenS (gmulAAS (⟨false, []⟩ : BInt) u0 u2).2.2) ac ad ae af) 71) ∧ (S 14 = true → S 15 = false → a8 = .row p [.bool (gmulBBS (⟨false, []⟩ : BInt) (rdenS (gmulAAS (⟨false, []⟩ : BInt) u0 u2).2.1) (rdenS (gmulAAS (⟨false, []⟩ : BInt) u0 u2).2.2)).1.neg, .slice ag (gmulBBS (⟨false, []⟩ : BInt) (rdenS (gmulAAS (⟨false, []⟩ : BInt) u0 u2).2.1) (rdenS (gmulAAS (⟨false, []⟩ : BInt) u0 u2).2.2)).1.abs.length ah] 69) ∧ (S 15 = true → a8 = .row b1 (e71Nf ((rsfS (gmulBBS (⟨false, []⟩ : BInt) (rdenS (gmulAAS (⟨false, []⟩ : BInt) u0 u2).2.1) (rdenS (gmulAAS (⟨false, []⟩ : BInt) u0 u2).2.2)).2.1 (gmulAAS (⟨false, []⟩ : BInt) u0 u2).1 (gmulBBS (⟨false, []⟩ : BInt) (rdenS (gmulAAS (⟨false, []⟩ : BInt) u0 u2).2.1) (rdenS (gmulAAS (⟨false, []⟩ : BInt) u0 u2).2.2)).1).1) Q R T U) 71) ∧ (S 1 = false → aJ = .nil) ∧ (S 1 = true → S 8 = false → aJ = .row m [.bool false, .slice none 0 0] 69) ∧ (S 8 = true → S 15 = false → aJ = .row m [.bool (gmulAAS (⟨false, []⟩ : BInt) u0 u2).1.neg, .slice s (gmulAAS (⟨false, []⟩ : BInt) u0 u2).1.abs.length t] 69) ∧ (S 15 = true → aJ = .row p [.bool (rsfS (gmulBBS (⟨false, []⟩ : BInt) (rdenS (gmulAAS (⟨false, []⟩ : BInt) u0 u2).2.1) (rdenS (gmulAAS (⟨false, []⟩ : BInt) u0 u2).2.2)).2.1 (gmulAAS (⟨false, []⟩ : BInt) u0 u2).1 (gmulBBS (⟨false, []⟩ : BInt) (rdenS (gmulAAS (⟨false, []⟩ : BInt) u0 u2).2.1) (rdenS (gmulAAS (⟨false, []⟩ : BInt) u0 u2).2.2)).1).2.2.neg, .slice ao (rsfS (gmulBBS (⟨false, []⟩ : BInt) (rdenS (gmulAAS (⟨false, []⟩ : BInt) u0 u2).2.1) (rdenS (gmulAAS (⟨false, []⟩ : BInt) u0 u2).2.2)).2.1 (gmulAAS (⟨false, []⟩ : BInt) u0 u2).1 (gmulBBS (⟨false, []⟩ : BInt) (rdenS (gmulAAS (⟨false, []⟩ : BInt) u0 u2).2.1) (rdenS (gmulAAS (⟨false, []⟩ : BInt) u0 u2).2.2)).1).2.2.abs.length ap] 69) ∧ (S 9 = false → V = .nil) ∧ (S 9 = true → S 14 = false → V = .row p [.bool false, .slice none 0 0] 69) ∧ (S 14 = true → V = .row b8 (e71Nf ((gmulBBS (⟨false, []⟩ : BInt) (rdenS (gmulAAS (⟨false, []⟩ : BInt) u0 u2).2.1) (rdenS (gmulAAS (⟨false, []⟩ : BInt) u0 u2).2.2)).2.2) z C D E) 71) ∧ (S 8 = true → SlR (tyInt .u32) l s t (gmulAAS (⟨false, []⟩ : BInt) u0 u2).1.abs) ∧ (S 8 = true → SlR (tyInt .u32) l X Y (gmulAAS (⟨false, []⟩ : BInt) u0 u2).2.1.a.abs) ∧ (S 8 = true → SlR (tyInt .u32) l aa ab (gmulAAS (⟨false, []⟩ : BInt) u0 u2).2.1.b.abs) ∧ (S 8 = true → SlR (tyInt .u32) l F H (gmulAAS (⟨false, []⟩ : BInt) u0 u2).2.2.a.abs) ∧ (S 8 = true → SlR (tyInt .u32) l I L (gmulAAS (⟨false, []⟩ : BInt) u0 u2).2.2.b.abs) ∧ (S 11 = true → SlR (tyInt .u32) l M N (rdenS (gmulAAS (⟨false, []⟩ : BInt) u0 u2).2.1).a.abs) ∧ (S 11 = true → SlR (tyInt .u32) l O P (rdenS (gmulAAS (⟨false, []⟩ : BInt) u0 u2).2.1).b.abs) ∧ (S 13 = true → SlR (tyInt .u32) l ac ad (rdenS (gmulAAS (⟨false, []⟩ : BInt) u0 u2).2.2).a.abs) ∧ (S 13 = true → SlR (tyInt .u32) l ae af (rdenS (gmulAAS (⟨false, []⟩ : BInt) u0 u2).2.2).b.abs) ∧ (S 14 = true → SlR (tyInt .u32) l ag ah (gmulBBS (⟨false, []⟩ : BInt) (rdenS (gmulAAS (⟨false, []⟩ : BInt) u0 u2).2.1) (rdenS (gmulAAS (⟨false, []⟩ : BInt) u0 u2).2.2)).1.abs) ∧ (S 14 = true → SlR (tyInt .u32) l ai aj (gmulBBS (⟨false, []⟩ : BInt) (rdenS (gmulAAS (⟨false, []⟩ : BInt) u0 u2).2.1) (rdenS (gmulAAS (⟨false, []⟩ : BInt) u0 u2).2.2)).2.1.a.abs) ∧ (S 14 = true → SlR (tyInt .u32) l ak al (gmulBBS (⟨false, []⟩ : BInt) (rdenS (gmulAAS (⟨false, []⟩ : BInt) u0 u2).2.1) (rdenS (gmulAAS (⟨false, []⟩ : BInt) u0 u2).2.2)).2.1.b.abs) ∧ (S 14 = true → SlR (tyInt .u32) l z C (gmulBBS (⟨false, []⟩ : BInt) (rdenS (gmulAAS (⟨false, []⟩ : BInt) u0 u2).2.1) (rdenS (gmulAAS (⟨false, []⟩ : BInt) u0 u2).2.2)).2.2.a.abs) ∧ (S 14 = true → SlR (tyInt .u32) l D E (gmulBBS (⟨false, []⟩ : BInt) (rdenS (gmulAAS (⟨false, []⟩ : BInt) u0 u2).2.1) (rdenS (gmulAAS (⟨false, []⟩ : BInt) u0 u2).2.2)).2.2.b.abs) ∧ (S 15 = true → SlR (tyInt .u32) l Q R (rsfS (gmulBBS (⟨false, []⟩ : BInt) (rdenS (gmulAAS (⟨false, []⟩ : BInt) u0 u2).2.1) (rdenS (gmulAAS (⟨false, []⟩ : BInt) u0 u2).2.2)).2.1 (gmulAAS (⟨false, []⟩ : BInt) u0 u2).1 (gmulBBS (⟨false, []⟩ : BInt) (rdenS (gmulAAS (⟨false, []⟩ : BInt) u0 u2).2.1) (rdenS (gmulAAS (⟨false, []⟩ : BInt) u0 u2).2.2)).1).1.a.abs) ∧ (S 15 = true → SlR (tyInt .u32) l T U (rsfS (gmulBBS (⟨false, []⟩ : BInt) (rdenS (gmulAAS (⟨false, []⟩ : BInt) u0 u2).2.1) (rdenS (gmulAAS (⟨false, []⟩ : BInt) u0 u2).2.2)).2.1 (gmulAAS (⟨false, []⟩ : BInt) u0 u2).1 (gmulBBS (⟨false, []⟩ : BInt) (rdenS (gmulAAS (⟨false, []⟩ : BInt) u0 u2).2.1) (rdenS (gmulAAS (⟨false, []⟩ : BInt) u0 u2).2.2)).1).1.b.abs) ∧ (S 15 = true → SlR (tyInt .u32) l am an (rsfS (gmulBBS (⟨false, []⟩ : BInt) (rdenS (gmulAAS (⟨false, []⟩ : BInt) u0 u2).2.1) (rdenS (gmulAAS (⟨false, []⟩ : BInt) u0 u2).2.2)).2.1 (gmulAAS (⟨false, []⟩ : BInt) u0 u2).1 (gmulBBS (⟨false, []⟩ : BInt) (rdenS (gmulAAS (⟨false, []⟩ : BInt) u0 u2).2.1) (rdenS (gmulAAS (⟨false, []⟩ : BInt) u0 u2).2.2)).1).2.1.abs) ∧ (S 15 = true → SlR (tyInt .u32) l ao ap (rsfS (gmulBBS (⟨false, []⟩ : BInt) (rdenS (gmulAAS (⟨false, []⟩ : BInt) u0 u2).2.1) (rdenS (gmulAAS (⟨false, []⟩ : BInt) u0 u2).2.2)).2.1 (gmulAAS (⟨false, []⟩ : BInt) u0 u2).1 (gmulBBS (⟨false, []⟩ : BInt) (rdenS (gmulAAS (⟨false, []⟩ : BInt) u0 u2).2.1) (rdenS (gmulAAS (⟨false, []⟩ : BInt) u0 u2).2.2)).1).2.2.abs)) ?h0 ?hs ?hE)
 case h0 =>
  have dS := dH.any 6
  have dT := dS.any 7
  have dU := dT.any 8
  have dV := dU.any 9
  have dW := dV.any 10
  have dX := dW.any 11
  have dY := dX.any 12
  have dZ := dY.any 13
  have d0 := dZ.any 14
  have d1 := d0.any 15
  have d2 := d1.any 16
  have d3 := d2.any 17
  have d4 := d3.any 18
  have d5 := d4.any 19
  have d6 := d5.any 20
  have d7 := d6.any 21
  have d8 := d7.any 22
  have d9 := hM0.nilRes
  have ea := d9.nilRes
  have eb := (ea.perm ((pk 2 rfl).trans (((pk 2 rfl).trans (((pk 1 rfl).trans (lpr.cons _)).cons _)).cons _))).drew
  exact ⟨0, none, 0, none, 0, none, 0, none, 0, none, 0, 0, none, 0, none, 0, none, 0, none, 0, none, 0, none, 0, none, 0, none, 0, none, 0, none, 0, none, 0, none, 0, none, 0, av.tmps.getD 6 undef, av.tmps.getD 7 undef, av.tmps.getD 8 undef, av.tmps.getD 9 undef, av.tmps.getD 10 undef, av.tmps.getD 11 undef, av.tmps.getD 12 undef, av.tmps.getD 13 undef, av.tmps.getD 14 undef, av.tmps.getD 15 undef, av.tmps.getD 16 undef, av.tmps.getD 17 undef, av.tmps.getD 18 undef, av.tmps.getD 19 undef, av.tmps.getD 20 undef, av.tmps.getD 21 undef, av.tmps.getD 22 undef, .row b1 (e71Nf u0 ao2 cap3 ao5 cap6) 71, .row b8 (e71Nf u2 ao9 cap10 ao12 cap13) 71, .nil, .nil, Z, Fz.le.refl _, d8.reg, eb, ff, ff, ff, ff, ff, ff, ff, ff, ff, ff, ff, ff, ff, ff, ff, ff, ff, kf, ff, ff, ff, ff, kf, ff, ff, ff, ff, kf, ff, ff, ff, kf, ff, ff, ff, ff, ff, ff, ff, ff, ff, ff, ff, ff, ff, ff, ff, ff, ff, ff, ff, ff⟩
 case hs =>
  intro S hcl i o hil hi hSi hpre a w1 hI; refine Go.Sy.hid ?_; intro G hG; obtain ⟨m, s, t, X, Y, aa, ab, F, H, I, L, p, M, N, O, P, ac, ad, ae, af, ag, ah, ai, aj, ak, hI⟩ := hI; obtain ⟨al, z, C, D, E, Q, R, T, U, am, an, ao, ap, aq, aw, aV, a5, aY, aW, a6, aZ, aX, aQ, aH, aR, hI⟩ := hI; obtain ⟨aM, aN, aI, ax, au, a7, a8, aJ, V, l, g, hFx, hMx, dc, ay, az, aA, aK, aO, aB, aL, aP, bc, aC, aD, hI⟩ := hI; obtain ⟨bk, aE, bo, bw, bR, a1, bs, bt, bS, bT, a2, bp, bE, bU, bV, a9, ba, bl, bW, aS, aT, bx, bd, be, bf, hI⟩ := hI; obtain ⟨bg, bh, bm, bn, bq, br, bz, bA, bB, bC, bD, bX, bY, bZ, hI⟩ := hI; have b0 := hI
  have hcase : i = 0 ∨ i = 1 ∨ i = 2 ∨ i = 3 ∨ i = 4 ∨ i = 5 ∨ i = 6 ∨ i = 7 ∨ i = 8 ∨ i = 9 ∨ i = 10 ∨ i = 11 ∨ i = 12 ∨ i = 13 ∨ i = 14 ∨ i = 15 ∨ i = 16 := by clear hi; omega
  rcases hcase with rfl | rfl | rfl | rfl | rfl | rfl | rfl | rfl | rfl | rfl | rfl | rfl | rfl | rfl | rfl | rfl | rfl
  ·
   obtain rfl := oj hi
   have bu := hSi
   have f := ngF hcl 15 0 bu
   have q := ngF hcl 16 0 bu
   refine hG (any_step ?_); intro A J hJ
   refine s1 hFx 7 (pt b1 0) ?_; intro fo ec
   refine nl (qnI (hJ _ _ ?_))
   exact ⟨m, s, t, X, Y, aa, ab, F, H, I, L, p, M, N, O, P, ac, ad, ae, af, ag, ah, ai, aj, ak, al, z, C, D, E, Q, R, T, U, am, an, ao, ap, aq, pt b1 0, aV, a5, aY, aW, a6, aZ, aX, aQ, aH, aR, aM, aN, aI, ax, au, a7, a8, aJ, V, l, g, ec.reg, hMx.perm lpr, (nt q), kf, az, aA, aK, aO, aB, aL, aP, bc, aC, aD, bk, aE, bo, bw, (nt f), a1, bs, bt, bS, (nt f), a2, bp, bE, bU, (nt f), a9, ba, bl, (nt f), aS, aT, bx, bd, be, bf, bg, bh, bm, bn, bq, br, bz, bA, bB, bC, bD, (nt f), (nt f), (nt f), (nt f)⟩
  ·
   obtain rfl := oj hi
   have W := hSi
   have c := ngF hcl 8 1 W
   have j := ngF hcl 11 8 c
   have k := ngF hcl 13 11 j
   have d := ngF hcl 14 11 j
   have f := ngF hcl 15 8 c
   have q := ngF hcl 16 1 W
   obtain rfl := a1 c
   obtain rfl := a2 c
   obtain rfl := a9 W
   refine hG (any_step ?_); intro A J hJ
   have dd := hMx.keep (sD (List.Sublist.cons_cons _ (sC (sD (List.Sublist.refl _)))))
   refine nw hFx dd pb [.bool false, .slice none 0 0] 69 ?_; intro b2 ft fu ed ee
   refine nl (qnI (hJ _ _ ?_))
   exact ⟨b2, s, t, X, Y, aa, ab, F, H, I, L, p, M, N, O, P, ac, ad, ae, af, ag, ah, ai, aj, ak, al, z, C, D, E, Q, R, T, U, am, an, ao, ap, aq, aw, pt b2 0, a5, aY, aW, a6, aZ, aX, aQ, aH, aR, aM, aN, aI, ax, au, .row b1 (e71Nf u0 ao2 cap3 ao5 cap6) 71, .row b8 (e71Nf u2 ao9 cap10 ao12 cap13) 71, .row b2 [.bool false, .slice none 0 0] 69, V, l, g, ed.reg, ee.perm ((pk 1 rfl).trans (((pk 1 rfl).trans (lpr.cons _)).cons _)), (nt q), ay, kf, aA, aK, aO, aB, aL, aP, (nt c), aC, aD, (nt j), aE, (nt k), (nt d), (nt f), kf, (fun h _ => nt c h), (fun h _ => nt j h), (fun h _ => nt d h), (nt f), kf, (fun h _ => nt c h), (fun h _ => nt k h), (fun h _ => nt d h), (nt f), nu, kf2, (fun h _ => nt c h), (nt f), aS, aT, (nt d), (nt c), (nt c), (nt c), (nt c), (nt c), (nt j), (nt j), (nt k), (nt k), (nt d), (nt d), (nt d), (nt d), (nt d), (nt f), (nt f), (nt f), (nt f)⟩
  ·
   obtain rfl := oj hi
   have aF := hSi
   have u := ngF hcl 3 2 aF
   have v := ngF hcl 4 3 u
   have c := ngF hcl 8 4 v
   have j := ngF hcl 11 8 c
   have k := ngF hcl 13 11 j
   have d := ngF hcl 14 11 j
   have f := ngF hcl 15 8 c
   have q := ngF hcl 16 2 aF
   obtain rfl := a1 c
   obtain rfl := a2 c
   refine hG (any_step ?_); intro A J hJ
   refine s1 hFx 9 (pt b1 0) ?_; intro fA ef
   refine nl (qnI (hJ _ _ ?_))
   exact ⟨m, s, t, X, Y, aa, ab, F, H, I, L, p, M, N, O, P, ac, ad, ae, af, ag, ah, ai, aj, ak, al, z, C, D, E, Q, R, T, U, am, an, ao, ap, aq, aw, aV, pt b1 0, aY, aW, a6, aZ, aX, aQ, aH, aR, aM, aN, aI, ax, au, .row b1 (e71Nf u0 ao2 cap3 ao5 cap6) 71, .row b8 (e71Nf u2 ao9 cap10 ao12 cap13) 71, aJ, V, l, g, ef.reg, hMx.perm lpr, (nt q), ay, az, kf, (nt u), (nt v), aB, aL, aP, (nt c), aC, aD, (nt j), aE, (nt k), (nt d), (nt f), kf, (fun h _ => nt c h), (fun h _ => nt j h), (fun h _ => nt d h), (nt f), kf, (fun h _ => nt c h), (fun h _ => nt k h), (fun h _ => nt d h), (nt f), a9, ba, (fun h _ => nt c h), (nt f), aS, aT, (nt d), (nt c), (nt c), (nt c), (nt c), (nt c), (nt j), (nt j), (nt k), (nt k), (nt d), (nt d), (nt d), (nt d), (nt d), (nt f), (nt f), (nt f), (nt f)⟩
  ·
   obtain rfl := oj hi
   have aF := hpre 2 (by kernel_rfl)
   have u := hSi
   have v := ngF hcl 4 3 u
   have c := ngF hcl 8 4 v
   have j := ngF hcl 11 8 c
   have k := ngF hcl 13 11 j
   have d := ngF hcl 14 11 j
   have f := ngF hcl 15 8 c
   have q := ngF hcl 16 3 u
   obtain rfl := aA aF
   obtain rfl := a1 c
   obtain rfl := a2 c
   refine hG (any_step ?_); intro A J hJ
   refine s1 hFx 10 (pt b1 0) ?_; intro fF eg
   refine nl (qnI (hJ _ _ ?_))
   exact ⟨m, s, t, X, Y, aa, ab, F, H, I, L, p, M, N, O, P, ac, ad, ae, af, ag, ah, ai, aj, ak, al, z, C, D, E, Q, R, T, U, am, an, ao, ap, aq, aw, aV, pt b1 0, pt b1 0, aW, a6, aZ, aX, aQ, aH, aR, aM, aN, aI, ax, au, .row b1 (e71Nf u0 ao2 cap3 ao5 cap6) 71, .row b8 (e71Nf u2 ao9 cap10 ao12 cap13) 71, aJ, V, l, g, eg.reg, hMx.perm lpr, (nt q), ay, az, kf, kf, (nt v), aB, aL, aP, (nt c), aC, aD, (nt j), aE, (nt k), (nt d), (nt f), kf, (fun h _ => nt c h), (fun h _ => nt j h), (fun h _ => nt d h), (nt f), kf, (fun h _ => nt c h), (fun h _ => nt k h), (fun h _ => nt d h), (nt f), a9, ba, (fun h _ => nt c h), (nt f), aS, aT, (nt d), (nt c), (nt c), (nt c), (nt c), (nt c), (nt j), (nt j), (nt k), (nt k), (nt d), (nt d), (nt d), (nt d), (nt d), (nt f), (nt f), (nt f), (nt f)⟩
  ·
   obtain rfl := oj hi
   have u := hpre 3 (by kernel_rfl)
   have aF := hcl 3 2 (by kernel_rfl) u
   have v := hSi
   have c := ngF hcl 8 4 v
   have j := ngF hcl 11 8 c
   have k := ngF hcl 13 11 j
   have d := ngF hcl 14 11 j
   have f := ngF hcl 15 8 c
   have q := ngF hcl 16 4 v
   obtain rfl := aA aF
   obtain rfl := aK u
   obtain rfl := a1 c
   obtain rfl := a2 c
   refine hG (any_step ?_); intro A J hJ
   refine s1 hFx 11 (pt b1 0) ?_; intro fK eh
   refine nl (qnI (hJ _ _ ?_))
   exact ⟨m, s, t, X, Y, aa, ab, F, H, I, L, p, M, N, O, P, ac, ad, ae, af, ag, ah, ai, aj, ak, al, z, C, D, E, Q, R, T, U, am, an, ao, ap, aq, aw, aV, pt b1 0, pt b1 0, pt b1 0, a6, aZ, aX, aQ, aH, aR, aM, aN, aI, ax, au, .row b1 (e71Nf u0 ao2 cap3 ao5 cap6) 71, .row b8 (e71Nf u2 ao9 cap10 ao12 cap13) 71, aJ, V, l, g, eh.reg, hMx.perm lpr, (nt q), ay, az, kf, kf, kf, aB, aL, aP, (nt c), aC, aD, (nt j), aE, (nt k), (nt d), (nt f), kf, (fun h _ => nt c h), (fun h _ => nt j h), (fun h _ => nt d h), (nt f), kf, (fun h _ => nt c h), (fun h _ => nt k h), (fun h _ => nt d h), (nt f), a9, ba, (fun h _ => nt c h), (nt f), aS, aT, (nt d), (nt c), (nt c), (nt c), (nt c), (nt c), (nt j), (nt j), (nt k), (nt k), (nt d), (nt d), (nt d), (nt d), (nt d), (nt f), (nt f), (nt f), (nt f)⟩
  ·
   obtain rfl := oj hi
   have aG := hSi
   have x := ngF hcl 6 5 aG
   have y := ngF hcl 7 6 x
   have c := ngF hcl 8 7 y
   have j := ngF hcl 11 8 c
   have k := ngF hcl 13 11 j
   have d := ngF hcl 14 11 j
   have f := ngF hcl 15 8 c
   have q := ngF hcl 16 5 aG
   obtain rfl := a1 c
   obtain rfl := a2 c
   refine hG (any_step ?_); intro A J hJ
   refine s1 hFx 12 (pt b8 0) ?_; intro fP ei
   refine nl (qnI (hJ _ _ ?_))
   exact ⟨m, s, t, X, Y, aa, ab, F, H, I, L, p, M, N, O, P, ac, ad, ae, af, ag, ah, ai, aj, ak, al, z, C, D, E, Q, R, T, U, am, an, ao, ap, aq, aw, aV, a5, aY, aW, pt b8 0, aZ, aX, aQ, aH, aR, aM, aN, aI, ax, au, .row b1 (e71Nf u0 ao2 cap3 ao5 cap6) 71, .row b8 (e71Nf u2 ao9 cap10 ao12 cap13) 71, aJ, V, l, g, ei.reg, hMx.perm lpr, (nt q), ay, az, aA, aK, aO, kf, (nt x), (nt y), (nt c), aC, aD, (nt j), aE, (nt k), (nt d), (nt f), kf, (fun h _ => nt c h), (fun h _ => nt j h), (fun h _ => nt d h), (nt f), kf, (fun h _ => nt c h), (fun h _ => nt k h), (fun h _ => nt d h), (nt f), a9, ba, (fun h _ => nt c h), (nt f), aS, aT, (nt d), (nt c), (nt c), (nt c), (nt c), (nt c), (nt j), (nt j), (nt k), (nt k), (nt d), (nt d), (nt d), (nt d), (nt d), (nt f), (nt f), (nt f), (nt f)⟩
  ·
   obtain rfl := oj hi
   have aG := hpre 5 (by kernel_rfl)
   have x := hSi
   have y := ngF hcl 7 6 x
   have c := ngF hcl 8 7 y
   have j := ngF hcl 11 8 c
   have k := ngF hcl 13 11 j
   have d := ngF hcl 14 11 j
   have f := ngF hcl 15 8 c
   have q := ngF hcl 16 6 x
   obtain rfl := aB aG
   obtain rfl := a1 c
   obtain rfl := a2 c
   refine hG (any_step ?_); intro A J hJ
   refine s1 hFx 13 (pt b8 0) ?_; intro fU ej
   refine nl (qnI (hJ _ _ ?_))
   exact ⟨m, s, t, X, Y, aa, ab, F, H, I, L, p, M, N, O, P, ac, ad, ae, af, ag, ah, ai, aj, ak, al, z, C, D, E, Q, R, T, U, am, an, ao, ap, aq, aw, aV, a5, aY, aW, pt b8 0, pt b8 0, aX, aQ, aH, aR, aM, aN, aI, ax, au, .row b1 (e71Nf u0 ao2 cap3 ao5 cap6) 71, .row b8 (e71Nf u2 ao9 cap10 ao12 cap13) 71, aJ, V, l, g, ej.reg, hMx.perm lpr, (nt q), ay, az, aA, aK, aO, kf, kf, (nt y), (nt c), aC, aD, (nt j), aE, (nt k), (nt d), (nt f), kf, (fun h _ => nt c h), (fun h _ => nt j h), (fun h _ => nt d h), (nt f), kf, (fun h _ => nt c h), (fun h _ => nt k h), (fun h _ => nt d h), (nt f), a9, ba, (fun h _ => nt c h), (nt f), aS, aT, (nt d), (nt c), (nt c), (nt c), (nt c), (nt c), (nt j), (nt j), (nt k), (nt k), (nt d), (nt d), (nt d), (nt d), (nt d), (nt f), (nt f), (nt f), (nt f)⟩
  ·
   obtain rfl := oj hi
   have x := hpre 6 (by kernel_rfl)
   have aG := hcl 6 5 (by kernel_rfl) x
   have y := hSi
   have c := ngF hcl 8 7 y
   have j := ngF hcl 11 8 c
   have k := ngF hcl 13 11 j
   have d := ngF hcl 14 11 j
   have f := ngF hcl 15 8 c
   have q := ngF hcl 16 7 y
   obtain rfl := aB aG
   obtain rfl := aL x
   obtain rfl := a1 c
   obtain rfl := a2 c
   refine hG (any_step ?_); intro A J hJ
   refine s1 hFx 14 (pt b8 0) ?_; intro fZ ek
   refine nl (qnI (hJ _ _ ?_))
   exact ⟨m, s, t, X, Y, aa, ab, F, H, I, L, p, M, N, O, P, ac, ad, ae, af, ag, ah, ai, aj, ak, al, z, C, D, E, Q, R, T, U, am, an, ao, ap, aq, aw, aV, a5, aY, aW, pt b8 0, pt b8 0, pt b8 0, aQ, aH, aR, aM, aN, aI, ax, au, .row b1 (e71Nf u0 ao2 cap3 ao5 cap6) 71, .row b8 (e71Nf u2 ao9 cap10 ao12 cap13) 71, aJ, V, l, g, ek.reg, hMx.perm lpr, (nt q), ay, az, aA, aK, aO, kf, kf, kf, (nt c), aC, aD, (nt j), aE, (nt k), (nt d), (nt f), kf, (fun h _ => nt c h), (fun h _ => nt j h), (fun h _ => nt d h), (nt f), kf, (fun h _ => nt c h), (fun h _ => nt k h), (fun h _ => nt d h), (nt f), a9, ba, (fun h _ => nt c h), (nt f), aS, aT, (nt d), (nt c), (nt c), (nt c), (nt c), (nt c), (nt j), (nt j), (nt k), (nt k), (nt d), (nt d), (nt d), (nt d), (nt d), (nt f), (nt f), (nt f), (nt f)⟩
  ·
   obtain rfl := oj hi
   have y := hpre 7 (by kernel_rfl)
   have v := hpre 4 (by kernel_rfl)
   have W := hpre 1 (by kernel_rfl)
   have x := hcl 7 6 (by kernel_rfl) y
   have u := hcl 4 3 (by kernel_rfl) v
   have aG := hcl 6 5 (by kernel_rfl) x
   have aF := hcl 3 2 (by kernel_rfl) u
   have c := hSi
   have j := ngF hcl 11 8 c
   have k := ngF hcl 13 11 j
   have d := ngF hcl 14 11 j
   have f := ngF hcl 15 8 c
   have q := ngF hcl 16 8 c
   obtain rfl := az W
   obtain rfl := aA aF
   obtain rfl := aK u
   obtain rfl := aO v
   obtain rfl := aB aG
   obtain rfl := aL x
   obtain rfl := aP y
   obtain rfl := a1 c
   obtain rfl := a2 c
   obtain rfl := ba W c
   refine hG (any_step ?_); intro A J hJ
   have hzst := Fz.le.refl l
   have b3 := hs4.mono g
   have b4 := hs7.mono g
   have b5 := hs11.mono g
   have b6 := hs14.mono g
   refine ck hFx 77 #[pt m 0, pt b1 0, pt b8 0] ?_
   refine (gmulAA_fun (⟨false, []⟩ : BInt) u0 u2 dI m none 0 b1 ao2 cap3 ao5 cap6 b8 ao9 cap10 ao12 cap13 _ _ _ _ _ _ (SlR.nil _ _) b3 b4 b5 b6 (hMx.perm ((pk 2 rfl).trans (lpr.cons _))) hMx.fz).mono ?_; rintro _ el ⟨b7, b9, ca, cb, cc, cd, ce, cf, cg, ch, de, rfl, bv, em, en, eo, ep, eq, hm⟩; refine ⟨_, rfl, ?_⟩; intro f0 er; have df := hm
   replace hzst := hzst.mono bv
   have es : Mem B [] w0 Z0 ((.row m [.bool (gmulAAS (⟨false, []⟩ : BInt) u0 u2).1.neg, .slice b7 (gmulAAS (⟨false, []⟩ : BInt) u0 u2).1.abs.length b9] 69) :: (.row b1 (e71Nf ((gmulAAS (⟨false, []⟩ : BInt) u0 u2).2.1) ca cb cc cd) 71) :: (.row b8 (e71Nf ((gmulAAS (⟨false, []⟩ : BInt) u0 u2).2.2) ce cf cg ch) 71) :: V :: Rr) de el := df
   refine nl (qnI (hJ _ _ ?_))
   exact ⟨m, b7, b9, ca, cb, cc, cd, ce, cf, cg, ch, p, M, N, O, P, ac, ad, ae, af, ag, ah, ai, aj, ak, al, z, C, D, E, Q, R, T, U, am, an, ao, ap, aq, aw, pt m 0, pt b1 0, pt b1 0, pt b1 0, pt b8 0, pt b8 0, pt b8 0, pt m 0, aH, aR, aM, aN, aI, ax, au, .row b1 (e71Nf ((gmulAAS (⟨false, []⟩ : BInt) u0 u2).2.1) ca cb cc cd) 71, .row b8 (e71Nf ((gmulAAS (⟨false, []⟩ : BInt) u0 u2).2.2) ce cf cg ch) 71, .row m [.bool (gmulAAS (⟨false, []⟩ : BInt) u0 u2).1.neg, .slice b7 (gmulAAS (⟨false, []⟩ : BInt) u0 u2).1.abs.length b9] 69, V, de, g.trans hzst, er.reg, es.perm ((pk 1 rfl).trans (((pk 1 rfl).trans (lpr.cons _)).cons _)), (nt q), ay, kf, kf, kf, kf, kf, kf, kf, kf, aC, aD, (nt j), aE, (nt k), (nt d), (nt f), nu, kf2, (fun h _ => nt j h), (fun h _ => nt d h), (nt f), nu, kf2, (fun h _ => nt k h), (fun h _ => nt d h), (nt f), (tn W), (fun _ => nu), kf2, (nt f), aS, aT, (nt d), (fun _ => em), (fun _ => en), (fun _ => eo), (fun _ => ep), (fun _ => eq), (nt j), (nt j), (nt k), (nt k), (nt d), (nt d), (nt d), (nt d), (nt d), (nt f), (nt f), (nt f), (nt f)⟩
  ·
   obtain rfl := oj hi
   have a3 := hSi
   have d := ngF hcl 14 9 a3
   have f := ngF hcl 15 14 d
   have q := ngF hcl 16 9 a3
   obtain rfl := aS a3
   refine hG (any_step ?_); intro A J hJ
   have dg := hMx.keep (sD (List.Sublist.cons_cons _ (sD (sC (List.Sublist.refl _)))))
   refine nw hFx dg pb [.bool false, .slice none 0 0] 69 ?_; intro ci f5 f6 et eu
   refine nl (qnI (hJ _ _ ?_))
   exact ⟨m, s, t, X, Y, aa, ab, F, H, I, L, ci, M, N, O, P, ac, ad, ae, af, ag, ah, ai, aj, ak, al, z, C, D, E, Q, R, T, U, am, an, ao, ap, aq, aw, aV, a5, aY, aW, a6, aZ, aX, aQ, pt ci 0, aR, aM, aN, aI, ax, au, a7, a8, aJ, .row ci [.bool false, .slice none 0 0] 69, l, g, et.reg, eu.perm ((pk 1 rfl).trans (((pk 1 rfl).trans (((pk 1 rfl).trans (lpr.cons _)).cons _)).cons _)), (nt q), ay, az, aA, aK, aO, aB, aL, aP, bc, kf, aD, bk, aE, bo, (nt d), (nt f), a1, bs, bt, (fun h _ => nt d h), (nt f), a2, bp, bE, (fun h _ => nt d h), (nt f), a9, ba, bl, (nt f), nu, kf2, (nt d), bd, be, bf, bg, bh, bm, bn, bq, br, (nt d), (nt d), (nt d), (nt d), (nt d), (nt f), (nt f), (nt f), (nt f)⟩
  ·
   obtain rfl := oj hi
   have bb := hSi
   have j := ngF hcl 11 10 bb
   have k := ngF hcl 13 11 j
   have d := ngF hcl 14 11 j
   have f := ngF hcl 15 14 d
   have q := ngF hcl 16 10 bb
   refine hG (any_step ?_); intro A J hJ
   refine s1 hFx 17 (pt b1 0) ?_; intro gb ev
   refine nl (qnI (hJ _ _ ?_))
   exact ⟨m, s, t, X, Y, aa, ab, F, H, I, L, p, M, N, O, P, ac, ad, ae, af, ag, ah, ai, aj, ak, al, z, C, D, E, Q, R, T, U, am, an, ao, ap, aq, aw, aV, a5, aY, aW, a6, aZ, aX, aQ, aH, pt b1 0, aM, aN, aI, ax, au, a7, a8, aJ, V, l, g, ev.reg, hMx.perm lpr, (nt q), ay, az, aA, aK, aO, aB, aL, aP, bc, aC, kf, (nt j), aE, (nt k), (nt d), (nt f), a1, bs, (fun h _ => nt j h), (fun h _ => nt d h), (nt f), a2, bp, (fun h _ => nt k h), (fun h _ => nt d h), (nt f), a9, ba, bl, (nt f), aS, aT, (nt d), bd, be, bf, bg, bh, (nt j), (nt j), (nt k), (nt k), (nt d), (nt d), (nt d), (nt d), (nt d), (nt f), (nt f), (nt f), (nt f)⟩
  ·
   obtain rfl := oj hi
   have bb := hpre 10 (by kernel_rfl)
   have c := hpre 8 (by kernel_rfl)
   have y := hcl 8 7 (by kernel_rfl) c
   have v := hcl 8 4 (by kernel_rfl) c
   have W := hcl 8 1 (by kernel_rfl) c
   have x := hcl 7 6 (by kernel_rfl) y
   have u := hcl 4 3 (by kernel_rfl) v
   have aG := hcl 6 5 (by kernel_rfl) x
   have aF := hcl 3 2 (by kernel_rfl) u
   have j := hSi
   have k := ngF hcl 13 11 j
   have d := ngF hcl 14 11 j
   have f := ngF hcl 15 14 d
   have q := ngF hcl 16 11 j
   obtain rfl := az W
   obtain rfl := aA aF
   obtain rfl := aK u
   obtain rfl := aO v
   obtain rfl := aB aG
   obtain rfl := aL x
   obtain rfl := aP y
   obtain rfl := bc c
   obtain rfl := aD bb
   obtain rfl := bs c j
   obtain rfl := bp c k
   obtain rfl := bl c f
   refine hG (any_step ?_); intro A J hJ
   have hzst := Fz.le.refl l
   have cj := bd c
   have bF := be c
   have bG := bf c
   have cl := bg c
   have cm := bh c
   refine ck hFx 78 #[pt b1 0] ?_
   refine (rden_fun (gmulAAS (⟨false, []⟩ : BInt) u0 u2).2.1 dK b1 X Y aa ab _ _ _ _ _ _ bF bG hMx hMx.fz).mono ?_; rintro _ ew ⟨cn, co, cp, cq, dl, rfl, bi, ex, ey, hm⟩; refine ⟨_, rfl, ?_⟩; intro gc ez; have dm := hm
   replace hzst := hzst.mono bi
   replace cj := cj.mono bi
   replace bF := bF.mono bi
   replace bG := bG.mono bi
   replace cl := cl.mono bi
   replace cm := cm.mono bi
   have eA : Mem B [] w0 Z0 ((.row b1 (e71Nf (rdenS (gmulAAS (⟨false, []⟩ : BInt) u0 u2).2.1) cn co cp cq) 71) :: (.row b8 (e71Nf ((gmulAAS (⟨false, []⟩ : BInt) u0 u2).2.2) F H I L) 71) :: (.row m [.bool (gmulAAS (⟨false, []⟩ : BInt) u0 u2).1.neg, .slice s (gmulAAS (⟨false, []⟩ : BInt) u0 u2).1.abs.length t] 69) :: V :: Rr) dl ew := dm
   refine nl (qnI (hJ _ _ ?_))
   exact ⟨m, s, t, X, Y, aa, ab, F, H, I, L, p, cn, co, cp, cq, ac, ad, ae, af, ag, ah, ai, aj, ak, al, z, C, D, E, Q, R, T, U, am, an, ao, ap, aq, aw, pt m 0, pt b1 0, pt b1 0, pt b1 0, pt b8 0, pt b8 0, pt b8 0, pt m 0, aH, pt b1 0, pt b1 2, aN, aI, ax, au, .row b1 (e71Nf (rdenS (gmulAAS (⟨false, []⟩ : BInt) u0 u2).2.1) cn co cp cq) 71, .row b8 (e71Nf ((gmulAAS (⟨false, []⟩ : BInt) u0 u2).2.2) F H I L) 71, .row m [.bool (gmulAAS (⟨false, []⟩ : BInt) u0 u2).1.neg, .slice s (gmulAAS (⟨false, []⟩ : BInt) u0 u2).1.abs.length t] 69, V, dl, g.trans hzst, ez.reg, eA.perm lpr, (nt q), ay, kf, kf, kf, kf, kf, kf, kf, kf, aC, kf, kf, aE, (nt k), (nt d), (nt f), (tn c), (fun _ => nu), kf2, (fun h _ => nt d h), (nt f), (tn c), kf2, (fun h _ => nt k h), (fun h _ => nt d h), (nt f), (tn W), (fun _ => tn c), kf2, (nt f), aS, aT, (nt d), (fun _ => cj), (fun _ => bF), (fun _ => bG), (fun _ => cl), (fun _ => cm), (fun _ => ex), (fun _ => ey), (nt k), (nt k), (nt d), (nt d), (nt d), (nt d), (nt d), (nt f), (nt f), (nt f), (nt f)⟩
  ·
   obtain rfl := oj hi
   have bj := hSi
   have k := ngF hcl 13 12 bj
   have d := ngF hcl 14 13 k
   have f := ngF hcl 15 14 d
   have q := ngF hcl 16 12 bj
   refine hG (any_step ?_); intro A J hJ
   refine s1 hFx 19 (pt b8 0) ?_; intro gh eB
   refine nl (qnI (hJ _ _ ?_))
   exact ⟨m, s, t, X, Y, aa, ab, F, H, I, L, p, M, N, O, P, ac, ad, ae, af, ag, ah, ai, aj, ak, al, z, C, D, E, Q, R, T, U, am, an, ao, ap, aq, aw, aV, a5, aY, aW, a6, aZ, aX, aQ, aH, aR, aM, pt b8 0, aI, ax, au, a7, a8, aJ, V, l, g, eB.reg, hMx.perm lpr, (nt q), ay, az, aA, aK, aO, aB, aL, aP, bc, aC, aD, bk, kf, (nt k), (nt d), (nt f), a1, bs, bt, (fun h _ => nt d h), (nt f), a2, bp, (fun h _ => nt k h), (fun h _ => nt d h), (nt f), a9, ba, bl, (nt f), aS, aT, (nt d), bd, be, bf, bg, bh, bm, bn, (nt k), (nt k), (nt d), (nt d), (nt d), (nt d), (nt d), (nt f), (nt f), (nt f), (nt f)⟩
  ·
   obtain rfl := oj hi
   have bj := hpre 12 (by kernel_rfl)
   have j := hpre 11 (by kernel_rfl)
   have bb := hcl 11 10 (by kernel_rfl) j
   have c := hcl 11 8 (by kernel_rfl) j
   have y := hcl 8 7 (by kernel_rfl) c
   have v := hcl 8 4 (by kernel_rfl) c
   have W := hcl 8 1 (by kernel_rfl) c
   have x := hcl 7 6 (by kernel_rfl) y
   have u := hcl 4 3 (by kernel_rfl) v
   have aG := hcl 6 5 (by kernel_rfl) x
   have aF := hcl 3 2 (by kernel_rfl) u
   have k := hSi
   have d := ngF hcl 14 13 k
   have f := ngF hcl 15 14 d
   have q := ngF hcl 16 13 k
   obtain rfl := az W
   obtain rfl := aA aF
   obtain rfl := aK u
   obtain rfl := aO v
   obtain rfl := aB aG
   obtain rfl := aL x
   obtain rfl := aP y
   obtain rfl := bc c
   obtain rfl := aD bb
   obtain rfl := bk j
   obtain rfl := aE bj
   obtain rfl := bt j d
   obtain rfl := bp c k
   obtain rfl := bl c f
   refine hG (any_step ?_); intro A J hJ
   have hzst := Fz.le.refl l
   have cr := bd c
   have cs := be c
   have ct := bf c
   have bH := bg c
   have bI := bh c
   have cu := bm j
   have cv := bn j
   refine ck hFx 78 #[pt b8 0] ?_
   refine (rden_fun (gmulAAS (⟨false, []⟩ : BInt) u0 u2).2.2 dM b8 F H I L _ _ _ _ _ _ bH bI (hMx.perm (pk 1 rfl)) hMx.fz).mono ?_; rintro _ eC ⟨cw, cx, cy, cz, ds, rfl, a4, eD, eE, hm⟩; refine ⟨_, rfl, ?_⟩; intro gi eF; have dt := hm
   replace hzst := hzst.mono a4
   replace cr := cr.mono a4
   replace cs := cs.mono a4
   replace ct := ct.mono a4
   replace bH := bH.mono a4
   replace bI := bI.mono a4
   replace cu := cu.mono a4
   replace cv := cv.mono a4
   have eG : Mem B [] w0 Z0 ((.row b8 (e71Nf (rdenS (gmulAAS (⟨false, []⟩ : BInt) u0 u2).2.2) cw cx cy cz) 71) :: (.row b1 (e71Nf (rdenS (gmulAAS (⟨false, []⟩ : BInt) u0 u2).2.1) M N O P) 71) :: (.row m [.bool (gmulAAS (⟨false, []⟩ : BInt) u0 u2).1.neg, .slice s (gmulAAS (⟨false, []⟩ : BInt) u0 u2).1.abs.length t] 69) :: V :: Rr) ds eC := dt
   refine nl (qnI (hJ _ _ ?_))
   exact ⟨m, s, t, X, Y, aa, ab, F, H, I, L, p, M, N, O, P, cw, cx, cy, cz, ag, ah, ai, aj, ak, al, z, C, D, E, Q, R, T, U, am, an, ao, ap, aq, aw, pt m 0, pt b1 0, pt b1 0, pt b1 0, pt b8 0, pt b8 0, pt b8 0, pt m 0, aH, pt b1 0, pt b1 2, pt b8 0, pt b8 2, ax, au, .row b1 (e71Nf (rdenS (gmulAAS (⟨false, []⟩ : BInt) u0 u2).2.1) M N O P) 71, .row b8 (e71Nf (rdenS (gmulAAS (⟨false, []⟩ : BInt) u0 u2).2.2) cw cx cy cz) 71, .row m [.bool (gmulAAS (⟨false, []⟩ : BInt) u0 u2).1.neg, .slice s (gmulAAS (⟨false, []⟩ : BInt) u0 u2).1.abs.length t] 69, V, ds, g.trans hzst, eF.reg, eG.perm ((pk 1 rfl).trans (lpr.cons _)), (nt q), ay, kf, kf, kf, kf, kf, kf, kf, kf, aC, kf, kf, kf, kf, (nt d), (nt f), (tn c), (fun _ => tn j), kf2, (fun h _ => nt d h), (nt f), (tn c), (fun _ => nu), kf2, (fun h _ => nt d h), (nt f), (tn W), (fun _ => tn c), kf2, (nt f), aS, aT, (nt d), (fun _ => cr), (fun _ => cs), (fun _ => ct), (fun _ => bH), (fun _ => bI), (fun _ => cu), (fun _ => cv), (fun _ => eD), (fun _ => eE), (nt d), (nt d), (nt d), (nt d), (nt d), (nt f), (nt f), (nt f), (nt f)⟩
  ·
   obtain rfl := oj hi
   have k := hpre 13 (by kernel_rfl)
   have j := hpre 11 (by kernel_rfl)
   have a3 := hpre 9 (by kernel_rfl)
   have bj := hcl 13 12 (by kernel_rfl) k
   have bb := hcl 11 10 (by kernel_rfl) j
   have c := hcl 11 8 (by kernel_rfl) j
   have y := hcl 8 7 (by kernel_rfl) c
   have v := hcl 8 4 (by kernel_rfl) c
   have W := hcl 8 1 (by kernel_rfl) c
   have x := hcl 7 6 (by kernel_rfl) y
   have u := hcl 4 3 (by kernel_rfl) v
   have aG := hcl 6 5 (by kernel_rfl) x
   have aF := hcl 3 2 (by kernel_rfl) u
   have d := hSi
   have f := ngF hcl 15 14 d
   have q := ngF hcl 16 14 d
   obtain rfl := az W
   obtain rfl := aA aF
   obtain rfl := aK u
   obtain rfl := aO v
   obtain rfl := aB aG
   obtain rfl := aL x
   obtain rfl := aP y
   obtain rfl := bc c
   obtain rfl := aC a3
   obtain rfl := aD bb
   obtain rfl := bk j
   obtain rfl := aE bj
   obtain rfl := bo k
   obtain rfl := bt j d
   obtain rfl := bE k d
   obtain rfl := bl c f
   obtain rfl := aT a3 d
   refine hG (any_step ?_); intro A J hJ
   have hzst := Fz.le.refl l
   have cA := bd c
   have cB := be c
   have cC := bf c
   have cD := bg c
   have cE := bh c
   have bJ := bm j
   have bK := bn j
   have bL := bq k
   have bM := br k
   refine ck hFx 77 #[pt p 0, pt b1 2, pt b8 2] ?_
   refine (gmulBB_fun (⟨false, []⟩ : BInt) (rdenS (gmulAAS (⟨false, []⟩ : BInt) u0 u2).2.1) (rdenS (gmulAAS (⟨false, []⟩ : BInt) u0 u2).2.2) dO p none 0 b1 M N O P b8 ac ad ae af _ _ _ _ _ _ (SlR.nil _ _) bJ bK bL bM (hMx.perm ((pk 3 rfl).trans (lpr.cons _))) hMx.fz).mono ?_; rintro _ eH ⟨cF, cG, cH, cI, cJ, cK, cL, cM, cN, cO, dy, rfl, aU, eI, eJ, eK, eL, eM, hm⟩; refine ⟨_, rfl, ?_⟩; intro gj eN; have dz := hm
   replace hzst := hzst.mono aU
   replace cA := cA.mono aU
   replace cB := cB.mono aU
   replace cC := cC.mono aU
   replace cD := cD.mono aU
   replace cE := cE.mono aU
   replace bJ := bJ.mono aU
   replace bK := bK.mono aU
   replace bL := bL.mono aU
   replace bM := bM.mono aU
   have eO : Mem B [] w0 Z0 ((.row p [.bool (gmulBBS (⟨false, []⟩ : BInt) (rdenS (gmulAAS (⟨false, []⟩ : BInt) u0 u2).2.1) (rdenS (gmulAAS (⟨false, []⟩ : BInt) u0 u2).2.2)).1.neg, .slice cF (gmulBBS (⟨false, []⟩ : BInt) (rdenS (gmulAAS (⟨false, []⟩ : BInt) u0 u2).2.1) (rdenS (gmulAAS (⟨false, []⟩ : BInt) u0 u2).2.2)).1.abs.length cG] 69) :: (.row b1 (e71Nf ((gmulBBS (⟨false, []⟩ : BInt) (rdenS (gmulAAS (⟨false, []⟩ : BInt) u0 u2).2.1) (rdenS (gmulAAS (⟨false, []⟩ : BInt) u0 u2).2.2)).2.1) cH cI cJ cK) 71) :: (.row b8 (e71Nf ((gmulBBS (⟨false, []⟩ : BInt) (rdenS (gmulAAS (⟨false, []⟩ : BInt) u0 u2).2.1) (rdenS (gmulAAS (⟨false, []⟩ : BInt) u0 u2).2.2)).2.2) cL cM cN cO) 71) :: (.row m [.bool (gmulAAS (⟨false, []⟩ : BInt) u0 u2).1.neg, .slice s (gmulAAS (⟨false, []⟩ : BInt) u0 u2).1.abs.length t] 69) :: Rr) dy eH := dz
   refine nl (qnI (hJ _ _ ?_))
   exact ⟨m, s, t, X, Y, aa, ab, F, H, I, L, p, M, N, O, P, ac, ad, ae, af, cF, cG, cH, cI, cJ, cK, cL, cM, cN, cO, Q, R, T, U, am, an, ao, ap, aq, aw, pt m 0, pt b1 0, pt b1 0, pt b1 0, pt b8 0, pt b8 0, pt b8 0, pt m 0, pt p 0, pt b1 0, pt b1 2, pt b8 0, pt b8 2, pt p 0, au, .row b1 (e71Nf ((gmulBBS (⟨false, []⟩ : BInt) (rdenS (gmulAAS (⟨false, []⟩ : BInt) u0 u2).2.1) (rdenS (gmulAAS (⟨false, []⟩ : BInt) u0 u2).2.2)).2.1) cH cI cJ cK) 71, .row p [.bool (gmulBBS (⟨false, []⟩ : BInt) (rdenS (gmulAAS (⟨false, []⟩ : BInt) u0 u2).2.1) (rdenS (gmulAAS (⟨false, []⟩ : BInt) u0 u2).2.2)).1.neg, .slice cF (gmulBBS (⟨false, []⟩ : BInt) (rdenS (gmulAAS (⟨false, []⟩ : BInt) u0 u2).2.1) (rdenS (gmulAAS (⟨false, []⟩ : BInt) u0 u2).2.2)).1.abs.length cG] 69, .row m [.bool (gmulAAS (⟨false, []⟩ : BInt) u0 u2).1.neg, .slice s (gmulAAS (⟨false, []⟩ : BInt) u0 u2).1.abs.length t] 69, .row b8 (e71Nf ((gmulBBS (⟨false, []⟩ : BInt) (rdenS (gmulAAS (⟨false, []⟩ : BInt) u0 u2).2.1) (rdenS (gmulAAS (⟨false, []⟩ : BInt) u0 u2).2.2)).2.2) cL cM cN cO) 71, dy, g.trans hzst, eN.reg, eO.perm ((pk 1 rfl).trans ((((pk 1 rfl).trans (lpr.cons _)).cons _).cons _)), (nt q), ay, kf, kf, kf, kf, kf, kf, kf, kf, kf, kf, kf, kf, kf, kf, (nt f), (tn c), (fun _ => tn j), (fun _ => nu), kf2, (nt f), (tn c), (fun _ => tn k), (fun _ => nu), kf2, (nt f), (tn W), (fun _ => tn c), kf2, (nt f), (tn a3), (fun _ => nu), kf, (fun _ => cA), (fun _ => cB), (fun _ => cC), (fun _ => cD), (fun _ => cE), (fun _ => bJ), (fun _ => bK), (fun _ => bL), (fun _ => bM), (fun _ => eI), (fun _ => eJ), (fun _ => eK), (fun _ => eL), (fun _ => eM), (nt f), (nt f), (nt f), (nt f)⟩
  ·
   obtain rfl := oj hi
   have d := hpre 14 (by kernel_rfl)
   have c := hpre 8 (by kernel_rfl)
   have bu := hpre 0 (by kernel_rfl)
   have k := hcl 14 13 (by kernel_rfl) d
   have j := hcl 14 11 (by kernel_rfl) d
   have a3 := hcl 14 9 (by kernel_rfl) d
   have y := hcl 8 7 (by kernel_rfl) c
   have v := hcl 8 4 (by kernel_rfl) c
   have W := hcl 8 1 (by kernel_rfl) c
   have bj := hcl 13 12 (by kernel_rfl) k
   have bb := hcl 11 10 (by kernel_rfl) j
   have x := hcl 7 6 (by kernel_rfl) y
   have u := hcl 4 3 (by kernel_rfl) v
   have aG := hcl 6 5 (by kernel_rfl) x
   have aF := hcl 3 2 (by kernel_rfl) u
   have f := hSi
   have q := ngF hcl 16 15 f
   obtain rfl := ay bu
   obtain rfl := az W
   obtain rfl := aA aF
   obtain rfl := aK u
   obtain rfl := aO v
   obtain rfl := aB aG
   obtain rfl := aL x
   obtain rfl := aP y
   obtain rfl := bc c
   obtain rfl := aC a3
   obtain rfl := aD bb
   obtain rfl := bk j
   obtain rfl := aE bj
   obtain rfl := bo k
   obtain rfl := bw d
   obtain rfl := bS d f
   obtain rfl := bU d f
   obtain rfl := bl c f
   obtain rfl := bx d
   refine hG (any_step ?_); intro A J hJ
   have hzst := Fz.le.refl l
   have bN := bd c
   have cP := be c
   have cQ := bf c
   have cR := bg c
   have cS := bh c
   have cT := bm j
   have cU := bn j
   have cV := bq k
   have cW := br k
   have bO := bz d
   have bP := bA d
   have bQ := bB d
   have cX := bC d
   have cY := bD d
   refine ck hFx 75 #[pt b1 0, pt m 0, pt p 0] ?_
   refine (rsf_fun (gmulBBS (⟨false, []⟩ : BInt) (rdenS (gmulAAS (⟨false, []⟩ : BInt) u0 u2).2.1) (rdenS (gmulAAS (⟨false, []⟩ : BInt) u0 u2).2.2)).2.1 (gmulAAS (⟨false, []⟩ : BInt) u0 u2).1 (gmulBBS (⟨false, []⟩ : BInt) (rdenS (gmulAAS (⟨false, []⟩ : BInt) u0 u2).2.1) (rdenS (gmulAAS (⟨false, []⟩ : BInt) u0 u2).2.2)).1 dQ b1 ai aj ak al m s t p ag ah _ _ _ _ _ _ bP bQ bN bO (hMx.perm (((pk 1 rfl).trans (lpr.cons _)).cons _)) hMx.fz).mono ?_; rintro _ eP ⟨cZ, c0, c1, c2, c3, c4, c5, c6, dE, rfl, ar, eQ, eR, eS, eT, hm⟩; refine ⟨_, rfl, ?_⟩; intro gk eU; have dF := hm
   replace hzst := hzst.mono ar
   replace bN := bN.mono ar
   replace cP := cP.mono ar
   replace cQ := cQ.mono ar
   replace cR := cR.mono ar
   replace cS := cS.mono ar
   replace cT := cT.mono ar
   replace cU := cU.mono ar
   replace cV := cV.mono ar
   replace cW := cW.mono ar
   replace bO := bO.mono ar
   replace bP := bP.mono ar
   replace bQ := bQ.mono ar
   replace cX := cX.mono ar
   replace cY := cY.mono ar
   have eV : Mem B [] w0 Z0 ((.row b1 (e71Nf ((rsfS (gmulBBS (⟨false, []⟩ : BInt) (rdenS (gmulAAS (⟨false, []⟩ : BInt) u0 u2).2.1) (rdenS (gmulAAS (⟨false, []⟩ : BInt) u0 u2).2.2)).2.1 (gmulAAS (⟨false, []⟩ : BInt) u0 u2).1 (gmulBBS (⟨false, []⟩ : BInt) (rdenS (gmulAAS (⟨false, []⟩ : BInt) u0 u2).2.1) (rdenS (gmulAAS (⟨false, []⟩ : BInt) u0 u2).2.2)).1).1) cZ c0 c1 c2) 71) :: (.row m [.bool (rsfS (gmulBBS (⟨false, []⟩ : BInt) (rdenS (gmulAAS (⟨false, []⟩ : BInt) u0 u2).2.1) (rdenS (gmulAAS (⟨false, []⟩ : BInt) u0 u2).2.2)).2.1 (gmulAAS (⟨false, []⟩ : BInt) u0 u2).1 (gmulBBS (⟨false, []⟩ : BInt) (rdenS (gmulAAS (⟨false, []⟩ : BInt) u0 u2).2.1) (rdenS (gmulAAS (⟨false, []⟩ : BInt) u0 u2).2.2)).1).2.1.neg, .slice c3 (rsfS (gmulBBS (⟨false, []⟩ : BInt) (rdenS (gmulAAS (⟨false, []⟩ : BInt) u0 u2).2.1) (rdenS (gmulAAS (⟨false, []⟩ : BInt) u0 u2).2.2)).2.1 (gmulAAS (⟨false, []⟩ : BInt) u0 u2).1 (gmulBBS (⟨false, []⟩ : BInt) (rdenS (gmulAAS (⟨false, []⟩ : BInt) u0 u2).2.1) (rdenS (gmulAAS (⟨false, []⟩ : BInt) u0 u2).2.2)).1).2.1.abs.length c4] 69) :: (.row p [.bool (rsfS (gmulBBS (⟨false, []⟩ : BInt) (rdenS (gmulAAS (⟨false, []⟩ : BInt) u0 u2).2.1) (rdenS (gmulAAS (⟨false, []⟩ : BInt) u0 u2).2.2)).2.1 (gmulAAS (⟨false, []⟩ : BInt) u0 u2).1 (gmulBBS (⟨false, []⟩ : BInt) (rdenS (gmulAAS (⟨false, []⟩ : BInt) u0 u2).2.1) (rdenS (gmulAAS (⟨false, []⟩ : BInt) u0 u2).2.2)).1).2.2.neg, .slice c5 (rsfS (gmulBBS (⟨false, []⟩ : BInt) (rdenS (gmulAAS (⟨false, []⟩ : BInt) u0 u2).2.1) (rdenS (gmulAAS (⟨false, []⟩ : BInt) u0 u2).2.2)).2.1 (gmulAAS (⟨false, []⟩ : BInt) u0 u2).1 (gmulBBS (⟨false, []⟩ : BInt) (rdenS (gmulAAS (⟨false, []⟩ : BInt) u0 u2).2.1) (rdenS (gmulAAS (⟨false, []⟩ : BInt) u0 u2).2.2)).1).2.2.abs.length c6] 69) :: (.row b8 (e71Nf ((gmulBBS (⟨false, []⟩ : BInt) (rdenS (gmulAAS (⟨false, []⟩ : BInt) u0 u2).2.1) (rdenS (gmulAAS (⟨false, []⟩ : BInt) u0 u2).2.2)).2.2) z C D E) 71) :: Rr) dE eP := dF
   refine nl (qnI (hJ _ _ ?_))
   exact ⟨m, s, t, X, Y, aa, ab, F, H, I, L, p, M, N, O, P, ac, ad, ae, af, ag, ah, ai, aj, ak, al, z, C, D, E, cZ, c0, c1, c2, c3, c4, c5, c6, aq, pt b1 0, pt m 0, pt b1 0, pt b1 0, pt b1 0, pt b8 0, pt b8 0, pt b8 0, pt m 0, pt p 0, pt b1 0, pt b1 2, pt b8 0, pt b8 2, pt p 0, pt b1 0, .row m [.bool (rsfS (gmulBBS (⟨false, []⟩ : BInt) (rdenS (gmulAAS (⟨false, []⟩ : BInt) u0 u2).2.1) (rdenS (gmulAAS (⟨false, []⟩ : BInt) u0 u2).2.2)).2.1 (gmulAAS (⟨false, []⟩ : BInt) u0 u2).1 (gmulBBS (⟨false, []⟩ : BInt) (rdenS (gmulAAS (⟨false, []⟩ : BInt) u0 u2).2.1) (rdenS (gmulAAS (⟨false, []⟩ : BInt) u0 u2).2.2)).1).2.1.neg, .slice c3 (rsfS (gmulBBS (⟨false, []⟩ : BInt) (rdenS (gmulAAS (⟨false, []⟩ : BInt) u0 u2).2.1) (rdenS (gmulAAS (⟨false, []⟩ : BInt) u0 u2).2.2)).2.1 (gmulAAS (⟨false, []⟩ : BInt) u0 u2).1 (gmulBBS (⟨false, []⟩ : BInt) (rdenS (gmulAAS (⟨false, []⟩ : BInt) u0 u2).2.1) (rdenS (gmulAAS (⟨false, []⟩ : BInt) u0 u2).2.2)).1).2.1.abs.length c4] 69, .row b1 (e71Nf ((rsfS (gmulBBS (⟨false, []⟩ : BInt) (rdenS (gmulAAS (⟨false, []⟩ : BInt) u0 u2).2.1) (rdenS (gmulAAS (⟨false, []⟩ : BInt) u0 u2).2.2)).2.1 (gmulAAS (⟨false, []⟩ : BInt) u0 u2).1 (gmulBBS (⟨false, []⟩ : BInt) (rdenS (gmulAAS (⟨false, []⟩ : BInt) u0 u2).2.1) (rdenS (gmulAAS (⟨false, []⟩ : BInt) u0 u2).2.2)).1).1) cZ c0 c1 c2) 71, .row p [.bool (rsfS (gmulBBS (⟨false, []⟩ : BInt) (rdenS (gmulAAS (⟨false, []⟩ : BInt) u0 u2).2.1) (rdenS (gmulAAS (⟨false, []⟩ : BInt) u0 u2).2.2)).2.1 (gmulAAS (⟨false, []⟩ : BInt) u0 u2).1 (gmulBBS (⟨false, []⟩ : BInt) (rdenS (gmulAAS (⟨false, []⟩ : BInt) u0 u2).2.1) (rdenS (gmulAAS (⟨false, []⟩ : BInt) u0 u2).2.2)).1).2.2.neg, .slice c5 (rsfS (gmulBBS (⟨false, []⟩ : BInt) (rdenS (gmulAAS (⟨false, []⟩ : BInt) u0 u2).2.1) (rdenS (gmulAAS (⟨false, []⟩ : BInt) u0 u2).2.2)).2.1 (gmulAAS (⟨false, []⟩ : BInt) u0 u2).1 (gmulBBS (⟨false, []⟩ : BInt) (rdenS (gmulAAS (⟨false, []⟩ : BInt) u0 u2).2.1) (rdenS (gmulAAS (⟨false, []⟩ : BInt) u0 u2).2.2)).1).2.2.abs.length c6] 69, .row b8 (e71Nf ((gmulBBS (⟨false, []⟩ : BInt) (rdenS (gmulAAS (⟨false, []⟩ : BInt) u0 u2).2.1) (rdenS (gmulAAS (⟨false, []⟩ : BInt) u0 u2).2.2)).2.2) z C D E) 71, dE, g.trans hzst, eU.reg, eV.perm ((pk 1 rfl).trans (lpr.cons _)), (nt q), kf, kf, kf, kf, kf, kf, kf, kf, kf, kf, kf, kf, kf, kf, kf, kf, (tn c), (fun _ => tn j), (fun _ => tn d), (fun _ => nu), kf, (tn c), (fun _ => tn k), (fun _ => tn d), (fun _ => nu), kf, (tn W), (fun _ => tn c), (fun _ => nu), kf, (tn a3), (fun _ => tn d), kf, (fun _ => bN), (fun _ => cP), (fun _ => cQ), (fun _ => cR), (fun _ => cS), (fun _ => cT), (fun _ => cU), (fun _ => cV), (fun _ => cW), (fun _ => bO), (fun _ => bP), (fun _ => bQ), (fun _ => cX), (fun _ => cY), (fun _ => eQ), (fun _ => eR), (fun _ => eS), (fun _ => eT)⟩
  obtain rfl := oj hi
  have f := hpre 15 (by kernel_rfl)
  have d := hpre 14 (by kernel_rfl)
  have k := hpre 13 (by kernel_rfl)
  have bj := hpre 12 (by kernel_rfl)
  have j := hpre 11 (by kernel_rfl)
  have bb := hpre 10 (by kernel_rfl)
  have a3 := hpre 9 (by kernel_rfl)
  have c := hpre 8 (by kernel_rfl)
  have y := hpre 7 (by kernel_rfl)
  have x := hpre 6 (by kernel_rfl)
  have aG := hpre 5 (by kernel_rfl)
  have v := hpre 4 (by kernel_rfl)
  have u := hpre 3 (by kernel_rfl)
  have aF := hpre 2 (by kernel_rfl)
  have W := hpre 1 (by kernel_rfl)
  have bu := hpre 0 (by kernel_rfl)
  obtain rfl := ay bu
  obtain rfl := az W
  obtain rfl := aA aF
  obtain rfl := aK u
  obtain rfl := aO v
  obtain rfl := aB aG
  obtain rfl := aL x
  obtain rfl := aP y
  obtain rfl := bc c
  obtain rfl := aC a3
  obtain rfl := aD bb
  obtain rfl := bk j
  obtain rfl := aE bj
  obtain rfl := bo k
  obtain rfl := bw d
  obtain rfl := bR f
  obtain rfl := bT f
  obtain rfl := bV f
  obtain rfl := bW f
  obtain rfl := bx d
  refine hG (any_step ?_); intro A J hJ
  have eW := bd c
  have eX := be c
  have eY := bf c
  have eZ := bg c
  have e0 := bh c
  have e1 := bm j
  have e2 := bn j
  have e3 := bq k
  have e4 := br k
  have e5 := bz d
  have e6 := bA d
  have e7 := bB d
  have e8 := bC d
  have e9 := bD d
  have fa := bX f
  have fb := bY f
  have fc := bZ f
  have fd := b0 f
  refine s1 hFx 6 (pt b1 0) ?_; intro gp fe
  refine nl (qnI (hJ _ _ ?_))
  exact ⟨m, s, t, X, Y, aa, ab, F, H, I, L, p, M, N, O, P, ac, ad, ae, af, ag, ah, ai, aj, ak, al, z, C, D, E, Q, R, T, U, am, an, ao, ap, pt b1 0, pt b1 0, pt m 0, pt b1 0, pt b1 0, pt b1 0, pt b8 0, pt b8 0, pt b8 0, pt m 0, pt p 0, pt b1 0, pt b1 2, pt b8 0, pt b8 2, pt p 0, pt b1 0, .row m [.bool (rsfS (gmulBBS (⟨false, []⟩ : BInt) (rdenS (gmulAAS (⟨false, []⟩ : BInt) u0 u2).2.1) (rdenS (gmulAAS (⟨false, []⟩ : BInt) u0 u2).2.2)).2.1 (gmulAAS (⟨false, []⟩ : BInt) u0 u2).1 (gmulBBS (⟨false, []⟩ : BInt) (rdenS (gmulAAS (⟨false, []⟩ : BInt) u0 u2).2.1) (rdenS (gmulAAS (⟨false, []⟩ : BInt) u0 u2).2.2)).1).2.1.neg, .slice am (rsfS (gmulBBS (⟨false, []⟩ : BInt) (rdenS (gmulAAS (⟨false, []⟩ : BInt) u0 u2).2.1) (rdenS (gmulAAS (⟨false, []⟩ : BInt) u0 u2).2.2)).2.1 (gmulAAS (⟨false, []⟩ : BInt) u0 u2).1 (gmulBBS (⟨false, []⟩ : BInt) (rdenS (gmulAAS (⟨false, []⟩ : BInt) u0 u2).2.1) (rdenS (gmulAAS (⟨false, []⟩ : BInt) u0 u2).2.2)).1).2.1.abs.length an] 69, .row b1 (e71Nf ((rsfS (gmulBBS (⟨false, []⟩ : BInt) (rdenS (gmulAAS (⟨false, []⟩ : BInt) u0 u2).2.1) (rdenS (gmulAAS (⟨false, []⟩ : BInt) u0 u2).2.2)).2.1 (gmulAAS (⟨false, []⟩ : BInt) u0 u2).1 (gmulBBS (⟨false, []⟩ : BInt) (rdenS (gmulAAS (⟨false, []⟩ : BInt) u0 u2).2.1) (rdenS (gmulAAS (⟨false, []⟩ : BInt) u0 u2).2.2)).1).1) Q R T U) 71, .row p [.bool (rsfS (gmulBBS (⟨false, []⟩ : BInt) (rdenS (gmulAAS (⟨false, []⟩ : BInt) u0 u2).2.1) (rdenS (gmulAAS (⟨false, []⟩ : BInt) u0 u2).2.2)).2.1 (gmulAAS (⟨false, []⟩ : BInt) u0 u2).1 (gmulBBS (⟨false, []⟩ : BInt) (rdenS (gmulAAS (⟨false, []⟩ : BInt) u0 u2).2.1) (rdenS (gmulAAS (⟨false, []⟩ : BInt) u0 u2).2.2)).1).2.2.neg, .slice ao (rsfS (gmulBBS (⟨false, []⟩ : BInt) (rdenS (gmulAAS (⟨false, []⟩ : BInt) u0 u2).2.1) (rdenS (gmulAAS (⟨false, []⟩ : BInt) u0 u2).2.2)).2.1 (gmulAAS (⟨false, []⟩ : BInt) u0 u2).1 (gmulBBS (⟨false, []⟩ : BInt) (rdenS (gmulAAS (⟨false, []⟩ : BInt) u0 u2).2.1) (rdenS (gmulAAS (⟨false, []⟩ : BInt) u0 u2).2.2)).1).2.2.abs.length ap] 69, .row b8 (e71Nf ((gmulBBS (⟨false, []⟩ : BInt) (rdenS (gmulAAS (⟨false, []⟩ : BInt) u0 u2).2.1) (rdenS (gmulAAS (⟨false, []⟩ : BInt) u0 u2).2.2)).2.2) z C D E) 71, l, g, fe.reg, hMx.perm lpr, kf, kf, kf, kf, kf, kf, kf, kf, kf, kf, kf, kf, kf, kf, kf, kf, kf, (tn c), (fun _ => tn j), (fun _ => tn d), (fun _ => tn f), kf, (tn c), (fun _ => tn k), (fun _ => tn d), (fun _ => tn f), kf, (tn W), (fun _ => tn c), (fun _ => tn f), kf, (tn a3), (fun _ => tn d), kf, (fun _ => eW), (fun _ => eX), (fun _ => eY), (fun _ => eZ), (fun _ => e0), (fun _ => e1), (fun _ => e2), (fun _ => e3), (fun _ => e4), (fun _ => e5), (fun _ => e6), (fun _ => e7), (fun _ => e8), (fun _ => e9), (fun _ => fa), (fun _ => fb), (fun _ => fc), (fun _ => fd)⟩
 case hE =>
  intro S hS gq gr hI; refine Go.Sy.hid ?_; intro G hG; obtain ⟨m, s, t, X, Y, aa, ab, F, H, I, L, p, M, N, O, P, ac, ad, ae, af, ag, ah, ai, aj, ak, hI⟩ := hI; obtain ⟨al, z, C, D, E, Q, R, T, U, am, an, ao, ap, aq, aw, aV, a5, aY, aW, a6, aZ, aX, aQ, aH, aR, hI⟩ := hI; obtain ⟨aM, aN, aI, ax, au, a7, a8, aJ, V, l, g, hFx, hMx, dc, ay, az, aA, aK, aO, aB, aL, aP, bc, aC, aD, hI⟩ := hI; obtain ⟨bk, aE, bo, bw, bR, a1, bs, bt, bS, bT, a2, bp, bE, bU, bV, a9, ba, bl, bW, aS, aT, bx, bd, be, bf, hI⟩ := hI; obtain ⟨bg, bh, bm, bn, bq, br, bz, bA, bB, bC, bD, bX, bY, bZ, hI⟩ := hI; refine hG ?_
  obtain rfl := dc (hS 16 (by decide))
  obtain rfl := ay (hS 0 (by decide))
  obtain rfl := az (hS 1 (by decide))
  obtain rfl := aA (hS 2 (by decide))
  obtain rfl := aK (hS 3 (by decide))
  obtain rfl := aO (hS 4 (by decide))
  obtain rfl := aB (hS 5 (by decide))
  obtain rfl := aL (hS 6 (by decide))
  obtain rfl := aP (hS 7 (by decide))
  obtain rfl := bc (hS 8 (by decide))
  obtain rfl := aC (hS 9 (by decide))
  obtain rfl := aD (hS 10 (by decide))
  obtain rfl := bk (hS 11 (by decide))
  obtain rfl := aE (hS 12 (by decide))
  obtain rfl := bo (hS 13 (by decide))
  obtain rfl := bw (hS 14 (by decide))
  obtain rfl := bR (hS 15 (by decide))
  obtain rfl := bT (hS 15 (by decide))
  obtain rfl := bV (hS 15 (by decide))
  obtain rfl := bW (hS 15 (by decide))
  obtain rfl := bx (hS 14 (by decide))
  have n := Fz.le.trans n g
  have fg := bC (hS 14 (by decide))
  have fh := bD (hS 14 (by decide))
  have fi := bX (hS 15 (by decide))
  have fj := bY (hS 15 (by decide))
  exact t_ (r_ (ra1 hFx (pt b1 0) ⟨((rsfS (gmulBBS (⟨false, []⟩ : BInt) (rdenS (gmulAAS (⟨false, []⟩ : BInt) u0 u2).2.1) (rdenS (gmulAAS (⟨false, []⟩ : BInt) u0 u2).2.2)).2.1 (gmulAAS (⟨false, []⟩ : BInt) u0 u2).1 (gmulBBS (⟨false, []⟩ : BInt) (rdenS (gmulAAS (⟨false, []⟩ : BInt) u0 u2).2.1) (rdenS (gmulAAS (⟨false, []⟩ : BInt) u0 u2).2.2)).1).1, (gmulBBS (⟨false, []⟩ : BInt) (rdenS (gmulAAS (⟨false, []⟩ : BInt) u0 u2).2.1) (rdenS (gmulAAS (⟨false, []⟩ : BInt) u0 u2).2.2)).2.2), Q, R, T, U, z, C, D, E, l, rfl, dR, n, fi, fj, fg, fh, hMx.kp⟩))

theorem rquo_walk (u0 : BRat) (u2 : BRat) (b1 : Nat) (ao2 : Option Addr) (cap3 : Nat) (ao5 : Option Addr) (cap6 : Nat) (b8 : Nat) (ao9 : Option Addr) (cap10 : Nat) (ao12 : Option Addr) (cap13 : Nat) (B : Nat) (w0 : World) (Z0 : Fz) (Rr : List Res) (Z : Fz) (w : World) (hs4 : SlR (tyInt .u32) Z ao2 cap3 u0.a.abs) (hs7 : SlR (tyInt .u32) Z ao5 cap6 u0.b.abs) (hs11 : SlR (tyInt .u32) Z ao9 cap10 u2.a.abs) (hs14 : SlR (tyInt .u32) Z ao12 cap13 u2.b.abs) (hM0 : Mem B [] w0 Z0 ((.row b1 [.bool u0.a.neg, .slice ao2 u0.a.abs.length cap3, .bool u0.b.neg, .slice ao5 u0.b.abs.length cap6] 71) :: (.row b8 [.bool u2.a.neg, .slice ao9 u2.a.abs.length cap10, .bool u2.b.neg, .slice ao12 u2.b.abs.length cap13] 71) :: Rr) Z w) (hZ : Z.on w) {K : (BRat × BRat) → Prop} (hp : rquo_vc u0 u2 K) : Calls Tryd.prog 50 #[pt b1 0, pt b1 0, pt b8 0] w fun e w' => ∃ (r : BRat × BRat) (ao1001 : Option Addr) (cap1002 : Nat) (ao1004 : Option Addr) (cap1005 : Nat) (ao1007 : Option Addr) (cap1008 : Nat) (ao1010 : Option Addr) (cap1011 : Nat) (Z' : Fz), e = .returned (pt b1 0) ∧ K r ∧ Fz.le Z Z' ∧ SlR (tyInt .u32) Z' ao1001 cap1002 r.1.a.abs ∧ SlR (tyInt .u32) Z' ao1004 cap1005 r.1.b.abs ∧ SlR (tyInt .u32) Z' ao1007 cap1008 r.2.a.abs ∧ SlR (tyInt .u32) Z' ao1010 cap1011 r.2.b.abs ∧ Mem B [] w0 Z0 ((.row b1 [.bool r.1.a.neg, .slice ao1001 r.1.a.abs.length cap1002, .bool r.1.b.neg, .slice ao1004 r.1.b.abs.length cap1005] 71) :: (.row b8 [.bool r.2.a.neg, .slice ao1007 r.2.a.abs.length cap1008, .bool r.2.b.neg, .slice ao1010 r.2.b.abs.length cap1011] 71) :: Rr) Z' w' := by
 refine enter0 Tryd.func50 rfl rfl (by kernel_rfl) ?_; intro a0 c4; have l := Fz.le.refl Z
 have dD := hp (hs4.small) (hs7.small) (hs11.small) (hs14.small)
 refine sqB c4 hM0 [] [] [] ?_; intro au c8
 have dE : Fr 23 [] [⟨0, [], pt b1 0⟩, ⟨1, [], pt b1 0⟩, ⟨2, [], pt b8 0⟩] au := c8.reg
 obtain ⟨dF, dG⟩ := dD
 obtain ⟨dH, dI⟩ := dG
 obtain ⟨dJ, dK⟩ := dI
 obtain ⟨dL, dM⟩ := dK
 obtain ⟨dN, dO⟩ := dM
 refine wp_seq (any_invE mixed [[], [], [], [2], [3], [], [5], [1, 4, 6], [], [], [7, 9], [], [11], [12], [8, 10, 13], [0, 7, 14], [0, 1, 2, 3, 4, 5, 6, 7, 8, 9, 10, 11, 12, 13, 14, 15]] 17 (fun S a w1 => ∃ (m : Nat) (P : Option Addr) (Q : Nat) (R : Option Addr) (T : Nat) (s : Option Addr) (t : Nat) (U : Option Addr) (V : Nat) (W : Option Addr) (X : Nat) (z : Option Addr) (C : Nat) (D : Option Addr) (E : Nat) (p : Nat) (Y : Option Addr) (aa : Nat) (ab : Option Addr) (ac : Nat) (ad : Option Addr) (ae : Nat) (af : Option Addr) (ag : Nat) (ah : Option Addr) (ai : Nat) (u : Option Addr) (v : Nat) (x : Option Addr) (y : Nat) (H : Option Addr) (I : Nat) (L : Option Addr) (M : Nat) (aj : Option Addr) (ak : Nat) (al : Option Addr) (am : Nat) (ao : Value) (av : Value) (aV : Value) (a7 : Value) (a3 : Value) (aW : Value) (a4 : Value) (aX : Value) (aN : Value) (aE : Value) (aO : Value) (aF : Value) (aY : Value) (aP : Value) (aG : Value) (aw : Value) (aq : Value) (bd : Res) (aH : Res) (an : Res) (F : Res) (k : Fz), Fz.le Z k ∧ Fr 23 [] [⟨0, [], pt b1 0⟩, ⟨1, [], pt b1 0⟩, ⟨2, [], pt b8 0⟩, ⟨6, [], ao⟩, ⟨7, [], av⟩, ⟨8, [], aV⟩, ⟨9, [], a7⟩, ⟨10, [], a3⟩, ⟨11, [], aW⟩, ⟨12, [], a4⟩, ⟨13, [], aX⟩, ⟨14, [], aN⟩, ⟨15, [], aE⟩, ⟨16, [], aO⟩, ⟨17, [], aF⟩, ⟨18, [], aY⟩, ⟨19, [], aP⟩, ⟨20, [], aG⟩, ⟨21, [], aw⟩, ⟨22, [], aq⟩] a ∧ Mem B [] w0 Z0 (bd :: aH :: an :: F :: Rr) k w1 ∧ (S 16 = true → ao = pt b1 0) ∧ (S 0 = true → av = pt b1 0) ∧ (S 1 = true → aV = pt m 0) ∧ (S 2 = true → a7 = pt b1 0) ∧ (S 3 = true → a3 = pt b1 0) ∧ (S 4 = true → aW = pt b1 0) ∧ (S 5 = true → a4 = pt b8 0) ∧ (S 6 = true → aX = pt b8 2) ∧ (S 7 = true → aN = pt m 0) ∧ (S 8 = true → aE = pt p 0) ∧ (S 9 = true → aO = pt b1 0) ∧ (S 10 = true → aF = pt b1 2) ∧ (S 11 = true → aY = pt b8 0) ∧ (S 12 = true → aP = pt b8 0) ∧ (S 13 = true → aG = pt b8 0) ∧ (S 14 = true → aw = pt p 0) ∧ (S 15 = true → aq = pt b1 0) ∧ (S 7 = false → bd = .row b1 (e71Nf u0 ao2 cap3 ao5 cap6) 71) ∧ (S 7 = true → S 14 = false → bd = .row b8 (e71Nf ((gmulABS (⟨false, []⟩ : BInt) u0 (rdenS u2)).2.2) z C D E) 71) ∧ (S 14 = true → bd = .row b8 (e71Nf ((gmulBAS (⟨false, []⟩ : BInt) (rdenS (gmulABS (⟨false, []⟩ : BInt) u0 (rdenS u2)).2.1) (gmulABS (⟨false, []⟩ : BInt) u0 (rdenS u2)).2.2).2.2) u v x y) 71) ∧ (S 6 = false → aH = .row b8 (e71Nf u2 ao9 cap10 ao12 cap13) 71) ∧ (S 6 = true → S 7 = false → aH = .row b8 (e71Nf (rdenS u2) P Q R T) 71) ∧ (S 7 = true → S 15 = false → aH = .row m [.bool (gmulABS (⟨false, []⟩ : BInt) u0 (rdenS u2)).1.neg, .slice s (gmulABS (⟨false, []⟩ : BInt) u0 (rdenS u2)).1.abs.length t] 69) ∧ (S 15 = true → aH = .row p [.bool (rsfS (gmulBAS (⟨false, []⟩ : BInt) (rdenS (gmulABS (⟨false, []⟩ : BInt) u0 (rdenS u2)).2.1) (gmulABS (⟨false, []⟩ : BInt) u0 (rdenS u2)).2.2).2.1 (gmulABS (⟨false, []⟩ : BInt) u0 (rdenS u2)).1 (gmulBAS (⟨false, []⟩ : BInt) (rdenS (gmulABS (⟨false, []⟩ : BInt) u0 (rdenS u2)).2.1) (gmulABS (⟨false, []⟩ : BInt) u0 (rdenS u2)).2.2).1).2.2.neg, .slice al (rsfS (gmulBAS (⟨false, []⟩ : BInt) (rdenS (gmulABS (⟨false, []⟩ : BInt) u0 (rdenS u2)).2.1) (gmulABS (⟨false, []⟩ : BInt) u0 (rdenS u2)).2.2).2.1 (gmulABS (⟨false, []⟩ : BInt) u0 (rdenS u2)).1 (gmulBAS (⟨false, []⟩ : BInt) (rdenS (gmulABS (⟨false, []⟩ : BInt) u0 (rdenS u2)).2.1) (gmulABS (⟨false, []⟩ : BInt) u0 (rdenS u2)).2.2).1).2.2.abs.length am] 69) ∧ (S 1 = false → an = .nil) ∧ (S 1 = true → S 7 = false → an = .row m [.bool false, .slice none 0 0] 69) ∧ (S 7 = true → S 10 = false → an = .row b1 (e71Nf ((gmulABS (⟨false, []⟩ : BInt) u0 (rdenS u2)).2.1) U V W X) 71) ∧ (S 10 = true → S 14 = false → an = .row b1 (e71Nf (rdenS (gmulABS (⟨false, []⟩ : BInt) u0 (rdenS u2)).2.1) Y aa ab ac) 71) ∧ (S 14 = true → S 15 = false → an = .row p [.bool (gmulBAS (⟨false, []⟩ : BInt) (rdenS (gmulABS (⟨false, []⟩ : BInt) u0 (rdenS u2)).2.1) (gmulABS (⟨false, []⟩ : BInt) u0 (rdenS u2)).2.2).1.neg, .slice ad (gmulBAS (⟨false, []⟩ : BInt) (rdenS (gmulABS (⟨false, []⟩ : BInt) u0 (rdenS u2)).2.1) (gmulABS (⟨false, []⟩ : BInt) u0 (rdenS u2)).2.2).1.abs.length ae] 69) ∧ (S 15 = true → an = .row b1 (e71Nf ((rsfS (gmulBAS (⟨false, []⟩ : BInt) (rdenS (gmulABS (⟨false, []⟩ : BInt) u0 (rdenS u2)).2.1) (gmulABS (⟨false, []⟩ : BInt) u0 (rdenS u2)).2.2).2.1 (gmulABS (⟨false, []⟩ : BInt) u0 (rdenS u2)).1 (gmulBAS (⟨false, []⟩ : BInt) (rdenS (gmulABS (⟨false, []⟩ : BInt) u0 (rdenS u2)).2.1) (gmulABS (⟨false, []⟩ : BInt) u0 (rdenS u2)).2.2).1).1) H I L M) 71) ∧ (S 8 = false → F = .nil) ∧ (S 8 = true → S 14 = false → F = .row p [.bool false, .slice none 0 0] 69) ∧ (S 14 = true → S 15 = false → F = .row b1 (e71Nf ((gmulBAS (⟨false, []⟩ : BInt) (rdenS (gmulABS (⟨false, []⟩ : BInt) u0 (rdenS u2)).2.1) (gmulABS (⟨false, []⟩ : BInt) u0 (rdenS u2)).2.2).2.1) af ag ah ai) 71) ∧ (S 15 = true → F = .row m [.bool (rsfS (gmulBAS (⟨false, []⟩ : BInt) (rdenS (gmulABS (⟨false, []⟩ : BInt) u0 (rdenS u2)).2.1) (gmulABS (⟨false, []⟩ : BInt) u0 (rdenS u2)).2.2).2.1 (gmulABS (⟨false, []⟩ : BInt) u0 (rdenS u2)).1 (gmulBAS (⟨false, []⟩ : BInt) (rdenS (gmulABS (⟨false, []⟩ : BInt) u0 (rdenS u2)).2.1) (gmulABS (⟨false, []⟩ : BInt) u0 (rdenS u2)).2.2).1).2.1.neg, .slice aj (rsfS (gmulBAS (⟨false, []⟩ : BInt) (rdenS (gmulABS (⟨false, []⟩ : BInt) u0 (rdenS u2)).2.1) (gmulABS (⟨false, []⟩ : BInt) u0 (rdenS u2)).2.2).2.1 (gmulABS (⟨false, []⟩ : BInt) u0 (rdenS u2)).1 (gmulBAS (⟨false, []⟩ : BInt) (rdenS (gmulABS (⟨false, []⟩ : BInt) u0 (rdenS u2)).2.1) (gmulABS (⟨false, []⟩ : BInt) u0 (rdenS u2)).2.2).1).2.1.abs.length ak] 69) ∧ (S 6 = true → SlR (tyInt .u32) k P Q (rdenS u2).a.abs) ∧ (S 6 = true → SlR (tyInt .u32) k R T (rdenS u2).b.abs) ∧ (S 7 = true → SlR (tyInt .u32) k s t (gmulABS (⟨false, []⟩ : BInt) u0 (rdenS u2)).1.abs) ∧ (S 7 = true → SlR (tyInt .u32) k U V (gmulABS (⟨false, []⟩ : BInt) u0 (rdenS u2)).2.1.a.abs) ∧ (S 7 = true → SlR (tyInt .u32) k W X (gmulABS (⟨false, []⟩ : BInt) u0 (rdenS u2)).2.1.b.abs) ∧ (S 7 = true → SlR (tyInt .u32) k z C (gmulABS (⟨false, []⟩ : BInt) u0 (rdenS u2)).2.2.a.abs) ∧ (S 7 = true → SlR (tyInt .u32) k D E (gmulABS (⟨false, []⟩ : BInt) u0 (rdenS u2)).2.2.b.abs) ∧ (S 10 = true → SlR (tyInt .u32) k Y aa (rdenS (gmulABS (⟨false, []⟩ : BInt) u0 (rdenS u2)).2.1).a.abs) ∧ (S 10 = true → SlR (tyInt .u32) k ab ac (rdenS (gmulABS (⟨false, []⟩ : BInt) u0 (rdenS u2)).2.1).b.abs) ∧ (S 14 = true → SlR (tyInt .u32) k ad ae (gmulBAS (⟨false, []⟩ : BInt) (rdenS (gmulABS (⟨false, []⟩ : BInt) u0 (rdenS u2)).2.1) (gmulABS (⟨false, []⟩ : BInt) u0 (rdenS u2)).2.2).1.abs) ∧ (S 14 = true → SlR (tyInt .u32) k af ag (gmulBAS (⟨false, []⟩ : BInt) (rdenS (gmulABS (⟨false, []⟩ : BInt) u0 (rdenS u2)).2.1) (gmulABS (⟨false, []⟩ : BInt) u0 (rdenS u2)).2.2).2.1.a.abs) ∧ (S 14 = true → SlR (tyInt .u32) k ah ai (gmulBAS (⟨false, []⟩ : BInt) (rdenS (gmulABS (⟨false, []⟩ : BInt) u0 (rdenS u2)).2.1) (gmulABS (⟨false, []⟩ : BInt) u0 (rdenS u2)).2.2).2.1.b.abs) ∧ (S 14 = true → SlR (tyInt .u32) k u v (gmulBAS (⟨false, []⟩ : BInt) (rdenS (gmulABS (⟨false, []⟩ : BInt) u0 (rdenS u2)).2.1) (gmulABS (⟨false, []⟩ : BInt) u0 (rdenS u2)).2.2).2.2.a.abs) ∧ (S 14 = true → SlR (tyInt .u32) k x y (gmulBAS (⟨false, []⟩ : BInt) (rdenS (gmulABS (⟨false, []⟩ : BInt) u0 (rdenS u2)).2.1) (gmulABS (⟨false, []⟩ : BInt) u0 (rdenS u2)).2.2).2.2.b.abs) ∧ (S 15 = true → SlR (tyInt .u32) k H I (rsfS (gmulBAS (⟨false, []⟩ : BInt) (rdenS (gmulABS (⟨false, []⟩ : BInt) u0 (rdenS u2)).2.1) (gmulABS (⟨false, []⟩ : BInt) u0 (rdenS u2)).2.2).2.1 (gmulABS (⟨false, []⟩ : BInt) u0 (rdenS u2)).1 (gmulBAS (⟨false, []⟩ : BInt) (rdenS (gmulABS (⟨false, []⟩ : BInt) u0 (rdenS u2)).2.1) (gmulABS (⟨false, []⟩ : BInt) u0 (rdenS u2)).2.2).1).1.a.abs) ∧ (S 15 = true → SlR (tyInt .u32) k L M (rsfS (gmulBAS (⟨false, []⟩ : BInt) (rdenS (gmulABS (⟨false, []⟩ : BInt) u0 (rdenS u2)).2.1) (gmulABS (⟨false, []⟩ : BInt) u0 (rdenS u2)).2.2).2.1 (gmulABS (⟨false, []⟩ : BInt) u0 (rdenS u2)).1 (gmulBAS (⟨false, []⟩ : BInt) (rdenS (gmulABS (⟨false, []⟩ : BInt) u0 (rdenS u2)).2.1) (gmulABS (⟨false, []⟩ : BInt) u0 (rdenS u2)).2.2).1).1.b.abs) ∧ (S 15 = true → SlR (tyInt .u32) k aj ak (rsfS (gmulBAS (⟨false, []⟩ : BInt) (rdenS (gmulABS (⟨false, []⟩ : BInt) u0 (rdenS u2)).2.1) (gmulABS (⟨false, []⟩ : BInt) u0 (rdenS u2)).2.2).2.1 (gmulABS (⟨false, []⟩ : BInt) u0 (rdenS u2)).1 (gmulBAS (⟨false, []⟩ : BInt) (rdenS (gmulABS (⟨false, []⟩ : BInt) u0 (rdenS u2)).2.1) (gmulABS (⟨false, []⟩ : BInt) u0 (rdenS u2)).2.2).1).2.1.abs) ∧ (S 15 = true → SlR (tyInt .u32) k al am (rsfS (gmulBAS (⟨false, []⟩ : BInt) (rdenS (gmulABS (⟨false, []⟩ : BInt) u0 (rdenS u2)).2.1) (gmulABS (⟨false, []⟩ : BInt) u0 (rdenS u2)).2.2).2.1 (gmulABS (⟨false, []⟩ : BInt) u0 (rdenS u2)).1 (gmulBAS (⟨false, []⟩ : BInt) (rdenS (gmulABS (⟨false, []⟩ : BInt) u0 (rdenS u2)).2.1) (gmulABS (⟨false, []⟩ : BInt) u0 (rdenS u2)).2.2).1).2.2.abs)) ?h0 ?hs ?hE)
 case h0 =>
  have dP := dE.any 6
  have dQ := dP.any 7
  have dR := dQ.any 8
  have dS := dR.any 9
  have dT := dS.any 10
  have dU := dT.any 11
  have dV := dU.any 12
  have dW := dV.any 13
  have dX := dW.any 14
  have dY := dX.any 15
  have dZ := dY.any 16
  have d0 := dZ.any 17
  have d1 := d0.any 18
  have d2 := d1.any 19
  have d3 := d2.any 20
  have d4 := d3.any 21
  have d5 := d4.any 22
  have d6 := hM0.nilRes
  have d7 := d6.nilRes
  have d8 := (d7.perm ((pk 2 rfl).trans (((pk 2 rfl).trans (((pk 1 rfl).trans (lpr.cons _)).cons _)).cons _))).drew
  exact ⟨0, none, 0, none, 0, none, 0, none, 0, none, 0, none, 0, none, 0, 0, none, 0, none, 0, none, 0, none, 0, none, 0, none, 0, none, 0, none, 0, none, 0, none, 0, none, 0, au.tmps.getD 6 undef, au.tmps.getD 7 undef, au.tmps.getD 8 undef, au.tmps.getD 9 undef, au.tmps.getD 10 undef, au.tmps.getD 11 undef, au.tmps.getD 12 undef, au.tmps.getD 13 undef, au.tmps.getD 14 undef, au.tmps.getD 15 undef, au.tmps.getD 16 undef, au.tmps.getD 17 undef, au.tmps.getD 18 undef, au.tmps.getD 19 undef, au.tmps.getD 20 undef, au.tmps.getD 21 undef, au.tmps.getD 22 undef, .row b1 (e71Nf u0 ao2 cap3 ao5 cap6) 71, .row b8 (e71Nf u2 ao9 cap10 ao12 cap13) 71, .nil, .nil, Z, Fz.le.refl _, d5.reg, d8, ff, ff, ff, ff, ff, ff, ff, ff, ff, ff, ff, ff, ff, ff, ff, ff, ff, kf, ff, ff, kf, ff, ff, ff, kf, ff, ff, ff, ff, ff, kf, ff, ff, ff, ff, ff, ff, ff, ff, ff, ff, ff, ff, ff, ff, ff, ff, ff, ff, ff, ff, ff⟩
 case hs =>
  intro S hcl i o hil hi hSi hpre a w1 hI; refine Go.Sy.hid ?_; intro G hG; obtain ⟨m, P, Q, R, T, s, t, U, V, W, X, z, C, D, E, p, Y, aa, ab, ac, ad, ae, af, ag, ah, hI⟩ := hI; obtain ⟨ai, u, v, x, y, H, I, L, M, aj, ak, al, am, ao, av, aV, a7, a3, aW, a4, aX, aN, aE, aO, aF, hI⟩ := hI; obtain ⟨aY, aP, aG, aw, aq, bd, aH, an, F, k, g, hFx, hMx, c9, ax, ay, az, aI, aQ, aA, aJ, be, aB, aC, bm, hI⟩ := hI; obtain ⟨aD, aK, aR, bx, bR, a5, br, bz, a8, bf, bn, bS, a9, ba, bs, bu, bT, bU, aZ, a1, bV, bW, aL, aM, bg, hI⟩ := hI; obtain ⟨bh, bi, bj, bk, bo, bp, bA, bB, bC, bD, bE, bX, bY, bZ, hI⟩ := hI; have b0 := hI
  have hcase : i = 0 ∨ i = 1 ∨ i = 2 ∨ i = 3 ∨ i = 4 ∨ i = 5 ∨ i = 6 ∨ i = 7 ∨ i = 8 ∨ i = 9 ∨ i = 10 ∨ i = 11 ∨ i = 12 ∨ i = 13 ∨ i = 14 ∨ i = 15 ∨ i = 16 := by clear hi; omega
  rcases hcase with rfl | rfl | rfl | rfl | rfl | rfl | rfl | rfl | rfl | rfl | rfl | rfl | rfl | rfl | rfl | rfl | rfl
  ·
   obtain rfl := oj hi
   have bv := hSi
   have d := ngF hcl 15 0 bv
   have q := ngF hcl 16 0 bv
   refine hG (any_step ?_); intro A J hJ
   refine s1 hFx 7 (pt b1 0) ?_; intro fm d9
   refine nl (qnI (hJ _ _ ?_))
   exact ⟨m, P, Q, R, T, s, t, U, V, W, X, z, C, D, E, p, Y, aa, ab, ac, ad, ae, af, ag, ah, ai, u, v, x, y, H, I, L, M, aj, ak, al, am, ao, pt b1 0, aV, a7, a3, aW, a4, aX, aN, aE, aO, aF, aY, aP, aG, aw, aq, bd, aH, an, F, k, g, d9.reg, hMx.perm lpr, (nt q), kf, ay, az, aI, aQ, aA, aJ, be, aB, aC, bm, aD, aK, aR, bx, (nt d), a5, br, bz, a8, bf, bn, (nt d), a9, ba, bs, bu, bT, (nt d), aZ, a1, bV, (nt d), aL, aM, bg, bh, bi, bj, bk, bo, bp, bA, bB, bC, bD, bE, (nt d), (nt d), (nt d), (nt d)⟩
  ·
   obtain rfl := oj hi
   have ar := hSi
   have f := ngF hcl 7 1 ar
   have j := ngF hcl 10 7 f
   have c := ngF hcl 14 10 j
   have d := ngF hcl 15 7 f
   have q := ngF hcl 16 1 ar
   obtain rfl := a5 f
   obtain rfl := a9 ar
   refine hG (any_step ?_); intro A J hJ
   have da := hMx.keep (sD (List.Sublist.cons_cons _ (sC (sD (List.Sublist.refl _)))))
   refine nw hFx da pb [.bool false, .slice none 0 0] 69 ?_; intro b2 fr fs ea eb
   refine nl (qnI (hJ _ _ ?_))
   exact ⟨b2, P, Q, R, T, s, t, U, V, W, X, z, C, D, E, p, Y, aa, ab, ac, ad, ae, af, ag, ah, ai, u, v, x, y, H, I, L, M, aj, ak, al, am, ao, av, pt b2 0, a7, a3, aW, a4, aX, aN, aE, aO, aF, aY, aP, aG, aw, aq, .row b1 (e71Nf u0 ao2 cap3 ao5 cap6) 71, aH, .row b2 [.bool false, .slice none 0 0] 69, F, k, g, ea.reg, eb.perm ((pk 1 rfl).trans (((pk 1 rfl).trans (lpr.cons _)).cons _)), (nt q), ax, kf, az, aI, aQ, aA, aJ, (nt f), aB, aC, (nt j), aD, aK, aR, (nt c), (nt d), kf, (fun h _ => nt f h), (nt c), a8, bf, (fun h _ => nt f h), (nt d), nu, kf2, (fun h _ => nt f h), (fun h _ => nt j h), (fun h _ => nt c h), (nt d), aZ, a1, (fun h _ => nt c h), (nt d), aL, aM, (nt f), (nt f), (nt f), (nt f), (nt f), (nt j), (nt j), (nt c), (nt c), (nt c), (nt c), (nt c), (nt d), (nt d), (nt d), (nt d)⟩
  ·
   obtain rfl := oj hi
   have aS := hSi
   have N := ngF hcl 3 2 aS
   have O := ngF hcl 4 3 N
   have f := ngF hcl 7 4 O
   have j := ngF hcl 10 7 f
   have c := ngF hcl 14 10 j
   have d := ngF hcl 15 7 f
   have q := ngF hcl 16 2 aS
   obtain rfl := a5 f
   refine hG (any_step ?_); intro A J hJ
   refine s1 hFx 9 (pt b1 0) ?_; intro fx ec
   refine nl (qnI (hJ _ _ ?_))
   exact ⟨m, P, Q, R, T, s, t, U, V, W, X, z, C, D, E, p, Y, aa, ab, ac, ad, ae, af, ag, ah, ai, u, v, x, y, H, I, L, M, aj, ak, al, am, ao, av, aV, pt b1 0, a3, aW, a4, aX, aN, aE, aO, aF, aY, aP, aG, aw, aq, .row b1 (e71Nf u0 ao2 cap3 ao5 cap6) 71, aH, an, F, k, g, ec.reg, hMx.perm lpr, (nt q), ax, ay, kf, (nt N), (nt O), aA, aJ, (nt f), aB, aC, (nt j), aD, aK, aR, (nt c), (nt d), kf, (fun h _ => nt f h), (nt c), a8, bf, (fun h _ => nt f h), (nt d), a9, ba, (fun h _ => nt f h), (fun h _ => nt j h), (fun h _ => nt c h), (nt d), aZ, a1, (fun h _ => nt c h), (nt d), aL, aM, (nt f), (nt f), (nt f), (nt f), (nt f), (nt j), (nt j), (nt c), (nt c), (nt c), (nt c), (nt c), (nt d), (nt d), (nt d), (nt d)⟩
  ·
   obtain rfl := oj hi
   have aS := hpre 2 (by kernel_rfl)
   have N := hSi
   have O := ngF hcl 4 3 N
   have f := ngF hcl 7 4 O
   have j := ngF hcl 10 7 f
   have c := ngF hcl 14 10 j
   have d := ngF hcl 15 7 f
   have q := ngF hcl 16 3 N
   obtain rfl := az aS
   obtain rfl := a5 f
   refine hG (any_step ?_); intro A J hJ
   refine s1 hFx 10 (pt b1 0) ?_; intro fD ed
   refine nl (qnI (hJ _ _ ?_))
   exact ⟨m, P, Q, R, T, s, t, U, V, W, X, z, C, D, E, p, Y, aa, ab, ac, ad, ae, af, ag, ah, ai, u, v, x, y, H, I, L, M, aj, ak, al, am, ao, av, aV, pt b1 0, pt b1 0, aW, a4, aX, aN, aE, aO, aF, aY, aP, aG, aw, aq, .row b1 (e71Nf u0 ao2 cap3 ao5 cap6) 71, aH, an, F, k, g, ed.reg, hMx.perm lpr, (nt q), ax, ay, kf, kf, (nt O), aA, aJ, (nt f), aB, aC, (nt j), aD, aK, aR, (nt c), (nt d), kf, (fun h _ => nt f h), (nt c), a8, bf, (fun h _ => nt f h), (nt d), a9, ba, (fun h _ => nt f h), (fun h _ => nt j h), (fun h _ => nt c h), (nt d), aZ, a1, (fun h _ => nt c h), (nt d), aL, aM, (nt f), (nt f), (nt f), (nt f), (nt f), (nt j), (nt j), (nt c), (nt c), (nt c), (nt c), (nt c), (nt d), (nt d), (nt d), (nt d)⟩
  ·
   obtain rfl := oj hi
   have N := hpre 3 (by kernel_rfl)
   have aS := hcl 3 2 (by kernel_rfl) N
   have O := hSi
   have f := ngF hcl 7 4 O
   have j := ngF hcl 10 7 f
   have c := ngF hcl 14 10 j
   have d := ngF hcl 15 7 f
   have q := ngF hcl 16 4 O
   obtain rfl := az aS
   obtain rfl := aI N
   obtain rfl := a5 f
   refine hG (any_step ?_); intro A J hJ
   refine s1 hFx 11 (pt b1 0) ?_; intro fI ee
   refine nl (qnI (hJ _ _ ?_))
   exact ⟨m, P, Q, R, T, s, t, U, V, W, X, z, C, D, E, p, Y, aa, ab, ac, ad, ae, af, ag, ah, ai, u, v, x, y, H, I, L, M, aj, ak, al, am, ao, av, aV, pt b1 0, pt b1 0, pt b1 0, a4, aX, aN, aE, aO, aF, aY, aP, aG, aw, aq, .row b1 (e71Nf u0 ao2 cap3 ao5 cap6) 71, aH, an, F, k, g, ee.reg, hMx.perm lpr, (nt q), ax, ay, kf, kf, kf, aA, aJ, (nt f), aB, aC, (nt j), aD, aK, aR, (nt c), (nt d), kf, (fun h _ => nt f h), (nt c), a8, bf, (fun h _ => nt f h), (nt d), a9, ba, (fun h _ => nt f h), (fun h _ => nt j h), (fun h _ => nt c h), (nt d), aZ, a1, (fun h _ => nt c h), (nt d), aL, aM, (nt f), (nt f), (nt f), (nt f), (nt f), (nt j), (nt j), (nt c), (nt c), (nt c), (nt c), (nt c), (nt d), (nt d), (nt d), (nt d)⟩
  ·
   obtain rfl := oj hi
   have a6 := hSi
   have n := ngF hcl 6 5 a6
   have f := ngF hcl 7 6 n
   have j := ngF hcl 10 7 f
   have c := ngF hcl 14 10 j
   have d := ngF hcl 15 7 f
   have q := ngF hcl 16 5 a6
   obtain rfl := a5 f
   obtain rfl := a8 n
   refine hG (any_step ?_); intro A J hJ
   refine s1 hFx 12 (pt b8 0) ?_; intro fN ef
   refine nl (qnI (hJ _ _ ?_))
   exact ⟨m, P, Q, R, T, s, t, U, V, W, X, z, C, D, E, p, Y, aa, ab, ac, ad, ae, af, ag, ah, ai, u, v, x, y, H, I, L, M, aj, ak, al, am, ao, av, aV, a7, a3, aW, pt b8 0, aX, aN, aE, aO, aF, aY, aP, aG, aw, aq, .row b1 (e71Nf u0 ao2 cap3 ao5 cap6) 71, .row b8 (e71Nf u2 ao9 cap10 ao12 cap13) 71, an, F, k, g, ef.reg, hMx.perm lpr, (nt q), ax, ay, az, aI, aQ, kf, (nt n), (nt f), aB, aC, (nt j), aD, aK, aR, (nt c), (nt d), kf, (fun h _ => nt f h), (nt c), kf, (fun h _ => nt n h), (fun h _ => nt f h), (nt d), a9, ba, (fun h _ => nt f h), (fun h _ => nt j h), (fun h _ => nt c h), (nt d), aZ, a1, (fun h _ => nt c h), (nt d), (nt n), (nt n), (nt f), (nt f), (nt f), (nt f), (nt f), (nt j), (nt j), (nt c), (nt c), (nt c), (nt c), (nt c), (nt d), (nt d), (nt d), (nt d)⟩
  ·
   obtain rfl := oj hi
   have a6 := hpre 5 (by kernel_rfl)
   have n := hSi
   have f := ngF hcl 7 6 n
   have j := ngF hcl 10 7 f
   have c := ngF hcl 14 10 j
   have d := ngF hcl 15 7 f
   have q := ngF hcl 16 6 n
   obtain rfl := aA a6
   obtain rfl := a5 f
   obtain rfl := a8 n
   refine hG (any_step ?_); intro A J hJ
   have hzst := Fz.le.refl k
   have b3 := hs11.mono g
   have b4 := hs14.mono g
   refine ck hFx 78 #[pt b8 0] ?_
   refine (rden_fun u2 dF b8 ao9 cap10 ao12 cap13 _ _ _ _ _ _ b3 b4 (hMx.perm (pk 1 rfl)) hMx.fz).mono ?_; rintro _ eg ⟨b5, b6, b7, b9, dd, rfl, bw, eh, ei, hm⟩; refine ⟨_, rfl, ?_⟩; intro fO ej; have de := hm
   replace hzst := hzst.mono bw
   have ek : Mem B [] w0 Z0 ((.row b8 (e71Nf (rdenS u2) b5 b6 b7 b9) 71) :: (.row b1 (e71Nf u0 ao2 cap3 ao5 cap6) 71) :: an :: F :: Rr) dd eg := de
   refine nl (qnI (hJ _ _ ?_))
   exact ⟨m, b5, b6, b7, b9, s, t, U, V, W, X, z, C, D, E, p, Y, aa, ab, ac, ad, ae, af, ag, ah, ai, u, v, x, y, H, I, L, M, aj, ak, al, am, ao, av, aV, a7, a3, aW, pt b8 0, pt b8 2, aN, aE, aO, aF, aY, aP, aG, aw, aq, .row b1 (e71Nf u0 ao2 cap3 ao5 cap6) 71, .row b8 (e71Nf (rdenS u2) b5 b6 b7 b9) 71, an, F, dd, g.trans hzst, ej.reg, ek.perm ((pk 1 rfl).trans (lpr.cons _)), (nt q), ax, ay, az, aI, aQ, kf, kf, (nt f), aB, aC, (nt j), aD, aK, aR, (nt c), (nt d), kf, (fun h _ => nt f h), (nt c), nu, kf2, (fun h _ => nt f h), (nt d), a9, ba, (fun h _ => nt f h), (fun h _ => nt j h), (fun h _ => nt c h), (nt d), aZ, a1, (fun h _ => nt c h), (nt d), (fun _ => eh), (fun _ => ei), (nt f), (nt f), (nt f), (nt f), (nt f), (nt j), (nt j), (nt c), (nt c), (nt c), (nt c), (nt c), (nt d), (nt d), (nt d), (nt d)⟩
  ·
   obtain rfl := oj hi
   have n := hpre 6 (by kernel_rfl)
   have O := hpre 4 (by kernel_rfl)
   have ar := hpre 1 (by kernel_rfl)
   have a6 := hcl 6 5 (by kernel_rfl) n
   have N := hcl 4 3 (by kernel_rfl) O
   have aS := hcl 3 2 (by kernel_rfl) N
   have f := hSi
   have j := ngF hcl 10 7 f
   have c := ngF hcl 14 10 j
   have d := ngF hcl 15 7 f
   have q := ngF hcl 16 7 f
   obtain rfl := ay ar
   obtain rfl := az aS
   obtain rfl := aI N
   obtain rfl := aQ O
   obtain rfl := aA a6
   obtain rfl := aJ n
   obtain rfl := a5 f
   obtain rfl := bf n f
   obtain rfl := ba ar f
   refine hG (any_step ?_); intro A J hJ
   have hzst := Fz.le.refl k
   have ca := hs4.mono g
   have cb := hs7.mono g
   have bF := aL n
   have bG := aM n
   refine ck hFx 77 #[pt m 0, pt b1 0, pt b8 2] ?_
   refine (gmulAB_fun (⟨false, []⟩ : BInt) u0 (rdenS u2) dH m none 0 b1 ao2 cap3 ao5 cap6 b8 P Q R T _ _ _ _ _ _ (SlR.nil _ _) ca cb bF bG (hMx.perm ((pk 2 rfl).trans (lpr.cons _))) hMx.fz).mono ?_; rintro _ el ⟨cc, cd, ce, cf, cg, ch, ci, cj, cl, cm, dh, rfl, bt, em, en, eo, ep, eq, hm⟩; refine ⟨_, rfl, ?_⟩; intro fP er; have di := hm
   replace hzst := hzst.mono bt
   replace bF := bF.mono bt
   replace bG := bG.mono bt
   have es : Mem B [] w0 Z0 ((.row m [.bool (gmulABS (⟨false, []⟩ : BInt) u0 (rdenS u2)).1.neg, .slice cc (gmulABS (⟨false, []⟩ : BInt) u0 (rdenS u2)).1.abs.length cd] 69) :: (.row b1 (e71Nf ((gmulABS (⟨false, []⟩ : BInt) u0 (rdenS u2)).2.1) ce cf cg ch) 71) :: (.row b8 (e71Nf ((gmulABS (⟨false, []⟩ : BInt) u0 (rdenS u2)).2.2) ci cj cl cm) 71) :: F :: Rr) dh el := di
   refine nl (qnI (hJ _ _ ?_))
   exact ⟨m, P, Q, R, T, cc, cd, ce, cf, cg, ch, ci, cj, cl, cm, p, Y, aa, ab, ac, ad, ae, af, ag, ah, ai, u, v, x, y, H, I, L, M, aj, ak, al, am, ao, av, pt m 0, pt b1 0, pt b1 0, pt b1 0, pt b8 0, pt b8 2, pt m 0, aE, aO, aF, aY, aP, aG, aw, aq, .row b8 (e71Nf ((gmulABS (⟨false, []⟩ : BInt) u0 (rdenS u2)).2.2) ci cj cl cm) 71, .row m [.bool (gmulABS (⟨false, []⟩ : BInt) u0 (rdenS u2)).1.neg, .slice cc (gmulABS (⟨false, []⟩ : BInt) u0 (rdenS u2)).1.abs.length cd] 69, .row b1 (e71Nf ((gmulABS (⟨false, []⟩ : BInt) u0 (rdenS u2)).2.1) ce cf cg ch) 71, F, dh, g.trans hzst, er.reg, es.perm ((pk 2 rfl).trans (lpr.cons _)), (nt q), ax, kf, kf, kf, kf, kf, kf, kf, aB, aC, (nt j), aD, aK, aR, (nt c), (nt d), nu, kf2, (nt c), (tn n), (fun _ => nu), kf2, (nt d), (tn ar), (fun _ => nu), kf2, (fun h _ => nt j h), (fun h _ => nt c h), (nt d), aZ, a1, (fun h _ => nt c h), (nt d), (fun _ => bF), (fun _ => bG), (fun _ => em), (fun _ => en), (fun _ => eo), (fun _ => ep), (fun _ => eq), (nt j), (nt j), (nt c), (nt c), (nt c), (nt c), (nt c), (nt d), (nt d), (nt d), (nt d)⟩
  ·
   obtain rfl := oj hi
   have bb := hSi
   have c := ngF hcl 14 8 bb
   have d := ngF hcl 15 14 c
   have q := ngF hcl 16 8 bb
   obtain rfl := aZ bb
   refine hG (any_step ?_); intro A J hJ
   have dj := hMx.keep (sD (List.Sublist.cons_cons _ (sD (sC (List.Sublist.refl _)))))
   refine nw hFx dj pb [.bool false, .slice none 0 0] 69 ?_; intro cn fU fV et eu
   refine nl (qnI (hJ _ _ ?_))
   exact ⟨m, P, Q, R, T, s, t, U, V, W, X, z, C, D, E, cn, Y, aa, ab, ac, ad, ae, af, ag, ah, ai, u, v, x, y, H, I, L, M, aj, ak, al, am, ao, av, aV, a7, a3, aW, a4, aX, aN, pt cn 0, aO, aF, aY, aP, aG, aw, aq, bd, aH, an, .row cn [.bool false, .slice none 0 0] 69, k, g, et.reg, eu.perm ((pk 1 rfl).trans (((pk 1 rfl).trans (((pk 1 rfl).trans (lpr.cons _)).cons _)).cons _)), (nt q), ax, ay, az, aI, aQ, aA, aJ, be, kf, aC, bm, aD, aK, aR, (nt c), (nt d), a5, br, (nt c), a8, bf, bn, (nt d), a9, ba, bs, bu, (fun h _ => nt c h), (nt d), nu, kf2, (fun h _ => nt c h), (nt d), aL, aM, bg, bh, bi, bj, bk, bo, bp, (nt c), (nt c), (nt c), (nt c), (nt c), (nt d), (nt d), (nt d), (nt d)⟩
  ·
   obtain rfl := oj hi
   have bq := hSi
   have j := ngF hcl 10 9 bq
   have c := ngF hcl 14 10 j
   have d := ngF hcl 15 14 c
   have q := ngF hcl 16 9 bq
   refine hG (any_step ?_); intro A J hJ
   refine s1 hFx 16 (pt b1 0) ?_; intro f0 ev
   refine nl (qnI (hJ _ _ ?_))
   exact ⟨m, P, Q, R, T, s, t, U, V, W, X, z, C, D, E, p, Y, aa, ab, ac, ad, ae, af, ag, ah, ai, u, v, x, y, H, I, L, M, aj, ak, al, am, ao, av, aV, a7, a3, aW, a4, aX, aN, aE, pt b1 0, aF, aY, aP, aG, aw, aq, bd, aH, an, F, k, g, ev.reg, hMx.perm lpr, (nt q), ax, ay, az, aI, aQ, aA, aJ, be, aB, kf, (nt j), aD, aK, aR, (nt c), (nt d), a5, br, (nt c), a8, bf, bn, (nt d), a9, ba, bs, (fun h _ => nt j h), (fun h _ => nt c h), (nt d), aZ, a1, (fun h _ => nt c h), (nt d), aL, aM, bg, bh, bi, bj, bk, (nt j), (nt j), (nt c), (nt c), (nt c), (nt c), (nt c), (nt d), (nt d), (nt d), (nt d)⟩
  ·
   obtain rfl := oj hi
   have bq := hpre 9 (by kernel_rfl)
   have f := hpre 7 (by kernel_rfl)
   have n := hcl 7 6 (by kernel_rfl) f
   have O := hcl 7 4 (by kernel_rfl) f
   have ar := hcl 7 1 (by kernel_rfl) f
   have a6 := hcl 6 5 (by kernel_rfl) n
   have N := hcl 4 3 (by kernel_rfl) O
   have aS := hcl 3 2 (by kernel_rfl) N
   have j := hSi
   have c := ngF hcl 14 10 j
   have d := ngF hcl 15 14 c
   have q := ngF hcl 16 10 j
   obtain rfl := ay ar
   obtain rfl := az aS
   obtain rfl := aI N
   obtain rfl := aQ O
   obtain rfl := aA a6
   obtain rfl := aJ n
   obtain rfl := be f
   obtain rfl := aC bq
   obtain rfl := br f c
   obtain rfl := bn f d
   obtain rfl := bs f j
   refine hG (any_step ?_); intro A J hJ
   have hzst := Fz.le.refl k
   have co := aL n
   have cp := aM n
   have cq := bg f
   have bH := bh f
   have bI := bi f
   have cr := bj f
   have cs := bk f
   refine ck hFx 78 #[pt b1 0] ?_
   refine (rden_fun (gmulABS (⟨false, []⟩ : BInt) u0 (rdenS u2)).2.1 dJ b1 U V W X _ _ _ _ _ _ bH bI (hMx.perm (pk 2 rfl)) hMx.fz).mono ?_; rintro _ ew ⟨ct, cu, cv, cw, dp, rfl, bc, ex, ey, hm⟩; refine ⟨_, rfl, ?_⟩; intro f1 ez; have dq := hm
   replace hzst := hzst.mono bc
   replace co := co.mono bc
   replace cp := cp.mono bc
   replace cq := cq.mono bc
   replace bH := bH.mono bc
   replace bI := bI.mono bc
   replace cr := cr.mono bc
   replace cs := cs.mono bc
   have eA : Mem B [] w0 Z0 ((.row b1 (e71Nf (rdenS (gmulABS (⟨false, []⟩ : BInt) u0 (rdenS u2)).2.1) ct cu cv cw) 71) :: (.row b8 (e71Nf ((gmulABS (⟨false, []⟩ : BInt) u0 (rdenS u2)).2.2) z C D E) 71) :: (.row m [.bool (gmulABS (⟨false, []⟩ : BInt) u0 (rdenS u2)).1.neg, .slice s (gmulABS (⟨false, []⟩ : BInt) u0 (rdenS u2)).1.abs.length t] 69) :: F :: Rr) dp ew := dq
   refine nl (qnI (hJ _ _ ?_))
   exact ⟨m, P, Q, R, T, s, t, U, V, W, X, z, C, D, E, p, ct, cu, cv, cw, ad, ae, af, ag, ah, ai, u, v, x, y, H, I, L, M, aj, ak, al, am, ao, av, pt m 0, pt b1 0, pt b1 0, pt b1 0, pt b8 0, pt b8 2, pt m 0, aE, pt b1 0, pt b1 2, aY, aP, aG, aw, aq, .row b8 (e71Nf ((gmulABS (⟨false, []⟩ : BInt) u0 (rdenS u2)).2.2) z C D E) 71, .row m [.bool (gmulABS (⟨false, []⟩ : BInt) u0 (rdenS u2)).1.neg, .slice s (gmulABS (⟨false, []⟩ : BInt) u0 (rdenS u2)).1.abs.length t] 69, .row b1 (e71Nf (rdenS (gmulABS (⟨false, []⟩ : BInt) u0 (rdenS u2)).2.1) ct cu cv cw) 71, F, dp, g.trans hzst, ez.reg, eA.perm ((pk 1 rfl).trans (((pk 1 rfl).trans (lpr.cons _)).cons _)), (nt q), ax, kf, kf, kf, kf, kf, kf, kf, aB, kf, kf, aD, aK, aR, (nt c), (nt d), (tn f), kf2, (nt c), (tn n), (fun _ => tn f), kf2, (nt d), (tn ar), (fun _ => tn f), (fun _ => nu), kf2, (fun h _ => nt c h), (nt d), aZ, a1, (fun h _ => nt c h), (nt d), (fun _ => co), (fun _ => cp), (fun _ => cq), (fun _ => bH), (fun _ => bI), (fun _ => cr), (fun _ => cs), (fun _ => ex), (fun _ => ey), (nt c), (nt c), (nt c), (nt c), (nt c), (nt d), (nt d), (nt d), (nt d)⟩
  ·
   obtain rfl := oj hi
   have bl := hSi
   have aT := ngF hcl 12 11 bl
   have aU := ngF hcl 13 12 aT
   have c := ngF hcl 14 13 aU
   have d := ngF hcl 15 14 c
   have q := ngF hcl 16 11 bl
   refine hG (any_step ?_); intro A J hJ
   refine s1 hFx 18 (pt b8 0) ?_; intro f6 eB
   refine nl (qnI (hJ _ _ ?_))
   exact ⟨m, P, Q, R, T, s, t, U, V, W, X, z, C, D, E, p, Y, aa, ab, ac, ad, ae, af, ag, ah, ai, u, v, x, y, H, I, L, M, aj, ak, al, am, ao, av, aV, a7, a3, aW, a4, aX, aN, aE, aO, aF, pt b8 0, aP, aG, aw, aq, bd, aH, an, F, k, g, eB.reg, hMx.perm lpr, (nt q), ax, ay, az, aI, aQ, aA, aJ, be, aB, aC, bm, kf, (nt aT), (nt aU), (nt c), (nt d), a5, br, (nt c), a8, bf, bn, (nt d), a9, ba, bs, bu, (fun h _ => nt c h), (nt d), aZ, a1, (fun h _ => nt c h), (nt d), aL, aM, bg, bh, bi, bj, bk, bo, bp, (nt c), (nt c), (nt c), (nt c), (nt c), (nt d), (nt d), (nt d), (nt d)⟩
  ·
   obtain rfl := oj hi
   have bl := hpre 11 (by kernel_rfl)
   have aT := hSi
   have aU := ngF hcl 13 12 aT
   have c := ngF hcl 14 13 aU
   have d := ngF hcl 15 14 c
   have q := ngF hcl 16 12 aT
   obtain rfl := aD bl
   refine hG (any_step ?_); intro A J hJ
   refine s1 hFx 19 (pt b8 0) ?_; intro gb eC
   refine nl (qnI (hJ _ _ ?_))
   exact ⟨m, P, Q, R, T, s, t, U, V, W, X, z, C, D, E, p, Y, aa, ab, ac, ad, ae, af, ag, ah, ai, u, v, x, y, H, I, L, M, aj, ak, al, am, ao, av, aV, a7, a3, aW, a4, aX, aN, aE, aO, aF, pt b8 0, pt b8 0, aG, aw, aq, bd, aH, an, F, k, g, eC.reg, hMx.perm lpr, (nt q), ax, ay, az, aI, aQ, aA, aJ, be, aB, aC, bm, kf, kf, (nt aU), (nt c), (nt d), a5, br, (nt c), a8, bf, bn, (nt d), a9, ba, bs, bu, (fun h _ => nt c h), (nt d), aZ, a1, (fun h _ => nt c h), (nt d), aL, aM, bg, bh, bi, bj, bk, bo, bp, (nt c), (nt c), (nt c), (nt c), (nt c), (nt d), (nt d), (nt d), (nt d)⟩
  ·
   obtain rfl := oj hi
   have aT := hpre 12 (by kernel_rfl)
   have bl := hcl 12 11 (by kernel_rfl) aT
   have aU := hSi
   have c := ngF hcl 14 13 aU
   have d := ngF hcl 15 14 c
   have q := ngF hcl 16 13 aU
   obtain rfl := aD bl
   obtain rfl := aK aT
   refine hG (any_step ?_); intro A J hJ
   refine s1 hFx 20 (pt b8 0) ?_; intro gg eD
   refine nl (qnI (hJ _ _ ?_))
   exact ⟨m, P, Q, R, T, s, t, U, V, W, X, z, C, D, E, p, Y, aa, ab, ac, ad, ae, af, ag, ah, ai, u, v, x, y, H, I, L, M, aj, ak, al, am, ao, av, aV, a7, a3, aW, a4, aX, aN, aE, aO, aF, pt b8 0, pt b8 0, pt b8 0, aw, aq, bd, aH, an, F, k, g, eD.reg, hMx.perm lpr, (nt q), ax, ay, az, aI, aQ, aA, aJ, be, aB, aC, bm, kf, kf, kf, (nt c), (nt d), a5, br, (nt c), a8, bf, bn, (nt d), a9, ba, bs, bu, (fun h _ => nt c h), (nt d), aZ, a1, (fun h _ => nt c h), (nt d), aL, aM, bg, bh, bi, bj, bk, bo, bp, (nt c), (nt c), (nt c), (nt c), (nt c), (nt d), (nt d), (nt d), (nt d)⟩
  ·
   obtain rfl := oj hi
   have aU := hpre 13 (by kernel_rfl)
   have j := hpre 10 (by kernel_rfl)
   have bb := hpre 8 (by kernel_rfl)
   have aT := hcl 13 12 (by kernel_rfl) aU
   have bq := hcl 10 9 (by kernel_rfl) j
   have f := hcl 10 7 (by kernel_rfl) j
   have bl := hcl 12 11 (by kernel_rfl) aT
   have n := hcl 7 6 (by kernel_rfl) f
   have O := hcl 7 4 (by kernel_rfl) f
   have ar := hcl 7 1 (by kernel_rfl) f
   have a6 := hcl 6 5 (by kernel_rfl) n
   have N := hcl 4 3 (by kernel_rfl) O
   have aS := hcl 3 2 (by kernel_rfl) N
   have c := hSi
   have d := ngF hcl 15 14 c
   have q := ngF hcl 16 14 c
   obtain rfl := ay ar
   obtain rfl := az aS
   obtain rfl := aI N
   obtain rfl := aQ O
   obtain rfl := aA a6
   obtain rfl := aJ n
   obtain rfl := be f
   obtain rfl := aB bb
   obtain rfl := aC bq
   obtain rfl := bm j
   obtain rfl := aD bl
   obtain rfl := aK aT
   obtain rfl := aR aU
   obtain rfl := br f c
   obtain rfl := bn f d
   obtain rfl := bu j c
   obtain rfl := a1 bb c
   refine hG (any_step ?_); intro A J hJ
   have hzst := Fz.le.refl k
   have cx := aL n
   have cy := aM n
   have cz := bg f
   have cA := bh f
   have cB := bi f
   have bJ := bj f
   have bK := bk f
   have bL := bo j
   have bM := bp j
   refine ck hFx 77 #[pt p 0, pt b1 2, pt b8 0] ?_
   refine (gmulBA_fun (⟨false, []⟩ : BInt) (rdenS (gmulABS (⟨false, []⟩ : BInt) u0 (rdenS u2)).2.1) (gmulABS (⟨false, []⟩ : BInt) u0 (rdenS u2)).2.2 dL p none 0 b1 Y aa ab ac b8 z C D E _ _ _ _ _ _ (SlR.nil _ _) bL bM bJ bK (hMx.perm ((pk 3 rfl).trans (((pk 2 rfl).trans (lpr.cons _)).cons _))) hMx.fz).mono ?_; rintro _ eE ⟨cC, cD, cE, cF, cG, cH, cI, cJ, cK, cL, dv, rfl, a2, eF, eG, eH, eI, eJ, hm⟩; refine ⟨_, rfl, ?_⟩; intro gh eK; have dw := hm
   replace hzst := hzst.mono a2
   replace cx := cx.mono a2
   replace cy := cy.mono a2
   replace cz := cz.mono a2
   replace cA := cA.mono a2
   replace cB := cB.mono a2
   replace bJ := bJ.mono a2
   replace bK := bK.mono a2
   replace bL := bL.mono a2
   replace bM := bM.mono a2
   have eL : Mem B [] w0 Z0 ((.row p [.bool (gmulBAS (⟨false, []⟩ : BInt) (rdenS (gmulABS (⟨false, []⟩ : BInt) u0 (rdenS u2)).2.1) (gmulABS (⟨false, []⟩ : BInt) u0 (rdenS u2)).2.2).1.neg, .slice cC (gmulBAS (⟨false, []⟩ : BInt) (rdenS (gmulABS (⟨false, []⟩ : BInt) u0 (rdenS u2)).2.1) (gmulABS (⟨false, []⟩ : BInt) u0 (rdenS u2)).2.2).1.abs.length cD] 69) :: (.row b1 (e71Nf ((gmulBAS (⟨false, []⟩ : BInt) (rdenS (gmulABS (⟨false, []⟩ : BInt) u0 (rdenS u2)).2.1) (gmulABS (⟨false, []⟩ : BInt) u0 (rdenS u2)).2.2).2.1) cE cF cG cH) 71) :: (.row b8 (e71Nf ((gmulBAS (⟨false, []⟩ : BInt) (rdenS (gmulABS (⟨false, []⟩ : BInt) u0 (rdenS u2)).2.1) (gmulABS (⟨false, []⟩ : BInt) u0 (rdenS u2)).2.2).2.2) cI cJ cK cL) 71) :: (.row m [.bool (gmulABS (⟨false, []⟩ : BInt) u0 (rdenS u2)).1.neg, .slice s (gmulABS (⟨false, []⟩ : BInt) u0 (rdenS u2)).1.abs.length t] 69) :: Rr) dv eE := dw
   refine nl (qnI (hJ _ _ ?_))
   exact ⟨m, P, Q, R, T, s, t, U, V, W, X, z, C, D, E, p, Y, aa, ab, ac, cC, cD, cE, cF, cG, cH, cI, cJ, cK, cL, H, I, L, M, aj, ak, al, am, ao, av, pt m 0, pt b1 0, pt b1 0, pt b1 0, pt b8 0, pt b8 2, pt m 0, pt p 0, pt b1 0, pt b1 2, pt b8 0, pt b8 0, pt b8 0, pt p 0, aq, .row b8 (e71Nf ((gmulBAS (⟨false, []⟩ : BInt) (rdenS (gmulABS (⟨false, []⟩ : BInt) u0 (rdenS u2)).2.1) (gmulABS (⟨false, []⟩ : BInt) u0 (rdenS u2)).2.2).2.2) cI cJ cK cL) 71, .row m [.bool (gmulABS (⟨false, []⟩ : BInt) u0 (rdenS u2)).1.neg, .slice s (gmulABS (⟨false, []⟩ : BInt) u0 (rdenS u2)).1.abs.length t] 69, .row p [.bool (gmulBAS (⟨false, []⟩ : BInt) (rdenS (gmulABS (⟨false, []⟩ : BInt) u0 (rdenS u2)).2.1) (gmulABS (⟨false, []⟩ : BInt) u0 (rdenS u2)).2.2).1.neg, .slice cC (gmulBAS (⟨false, []⟩ : BInt) (rdenS (gmulABS (⟨false, []⟩ : BInt) u0 (rdenS u2)).2.1) (gmulABS (⟨false, []⟩ : BInt) u0 (rdenS u2)).2.2).1.abs.length cD] 69, .row b1 (e71Nf ((gmulBAS (⟨false, []⟩ : BInt) (rdenS (gmulABS (⟨false, []⟩ : BInt) u0 (rdenS u2)).2.1) (gmulABS (⟨false, []⟩ : BInt) u0 (rdenS u2)).2.2).2.1) cE cF cG cH) 71, dv, g.trans hzst, eK.reg, eL.perm ((pk 2 rfl).trans (((pk 2 rfl).trans (lpr.cons _)).cons _)), (nt q), ax, kf, kf, kf, kf, kf, kf, kf, kf, kf, kf, kf, kf, kf, kf, (nt d), (tn f), (fun _ => nu), kf, (tn n), (fun _ => tn f), kf2, (nt d), (tn ar), (fun _ => tn f), (fun _ => tn j), (fun _ => nu), kf2, (nt d), (tn bb), (fun _ => nu), kf2, (nt d), (fun _ => cx), (fun _ => cy), (fun _ => cz), (fun _ => cA), (fun _ => cB), (fun _ => bJ), (fun _ => bK), (fun _ => bL), (fun _ => bM), (fun _ => eF), (fun _ => eG), (fun _ => eH), (fun _ => eI), (fun _ => eJ), (nt d), (nt d), (nt d), (nt d)⟩
  ·
   obtain rfl := oj hi
   have c := hpre 14 (by kernel_rfl)
   have f := hpre 7 (by kernel_rfl)
   have bv := hpre 0 (by kernel_rfl)
   have aU := hcl 14 13 (by kernel_rfl) c
   have j := hcl 14 10 (by kernel_rfl) c
   have bb := hcl 14 8 (by kernel_rfl) c
   have n := hcl 7 6 (by kernel_rfl) f
   have O := hcl 7 4 (by kernel_rfl) f
   have ar := hcl 7 1 (by kernel_rfl) f
   have aT := hcl 13 12 (by kernel_rfl) aU
   have bq := hcl 10 9 (by kernel_rfl) j
   have a6 := hcl 6 5 (by kernel_rfl) n
   have N := hcl 4 3 (by kernel_rfl) O
   have bl := hcl 12 11 (by kernel_rfl) aT
   have aS := hcl 3 2 (by kernel_rfl) N
   have d := hSi
   have q := ngF hcl 16 15 d
   obtain rfl := ax bv
   obtain rfl := ay ar
   obtain rfl := az aS
   obtain rfl := aI N
   obtain rfl := aQ O
   obtain rfl := aA a6
   obtain rfl := aJ n
   obtain rfl := be f
   obtain rfl := aB bb
   obtain rfl := aC bq
   obtain rfl := bm j
   obtain rfl := aD bl
   obtain rfl := aK aT
   obtain rfl := aR aU
   obtain rfl := bx c
   obtain rfl := bz c
   obtain rfl := bn f d
   obtain rfl := bT c d
   obtain rfl := bV c d
   refine hG (any_step ?_); intro A J hJ
   have hzst := Fz.le.refl k
   have cM := aL n
   have cN := aM n
   have bN := bg f
   have cO := bh f
   have cP := bi f
   have cQ := bj f
   have cR := bk f
   have cS := bo j
   have cT := bp j
   have bO := bA c
   have bP := bB c
   have bQ := bC c
   have cU := bD c
   have cV := bE c
   refine ck hFx 75 #[pt b1 0, pt m 0, pt p 0] ?_
   refine (rsf_fun (gmulBAS (⟨false, []⟩ : BInt) (rdenS (gmulABS (⟨false, []⟩ : BInt) u0 (rdenS u2)).2.1) (gmulABS (⟨false, []⟩ : BInt) u0 (rdenS u2)).2.2).2.1 (gmulABS (⟨false, []⟩ : BInt) u0 (rdenS u2)).1 (gmulBAS (⟨false, []⟩ : BInt) (rdenS (gmulABS (⟨false, []⟩ : BInt) u0 (rdenS u2)).2.1) (gmulABS (⟨false, []⟩ : BInt) u0 (rdenS u2)).2.2).1 dN b1 af ag ah ai m s t p ad ae _ _ _ _ _ _ bP bQ bN bO (hMx.perm ((pk 3 rfl).trans (((pk 1 rfl).trans (((pk 1 rfl).trans (lpr.cons _)).cons _)).cons _))) hMx.fz).mono ?_; rintro _ eM ⟨cW, cX, cY, cZ, c0, c1, c2, c3, dB, rfl, ap, eN, eO, eP, eQ, hm⟩; refine ⟨_, rfl, ?_⟩; intro gi eR; have dC := hm
   replace hzst := hzst.mono ap
   replace cM := cM.mono ap
   replace cN := cN.mono ap
   replace bN := bN.mono ap
   replace cO := cO.mono ap
   replace cP := cP.mono ap
   replace cQ := cQ.mono ap
   replace cR := cR.mono ap
   replace cS := cS.mono ap
   replace cT := cT.mono ap
   replace bO := bO.mono ap
   replace bP := bP.mono ap
   replace bQ := bQ.mono ap
   replace cU := cU.mono ap
   replace cV := cV.mono ap
   have eS : Mem B [] w0 Z0 ((.row b1 (e71Nf ((rsfS (gmulBAS (⟨false, []⟩ : BInt) (rdenS (gmulABS (⟨false, []⟩ : BInt) u0 (rdenS u2)).2.1) (gmulABS (⟨false, []⟩ : BInt) u0 (rdenS u2)).2.2).2.1 (gmulABS (⟨false, []⟩ : BInt) u0 (rdenS u2)).1 (gmulBAS (⟨false, []⟩ : BInt) (rdenS (gmulABS (⟨false, []⟩ : BInt) u0 (rdenS u2)).2.1) (gmulABS (⟨false, []⟩ : BInt) u0 (rdenS u2)).2.2).1).1) cW cX cY cZ) 71) :: (.row m [.bool (rsfS (gmulBAS (⟨false, []⟩ : BInt) (rdenS (gmulABS (⟨false, []⟩ : BInt) u0 (rdenS u2)).2.1) (gmulABS (⟨false, []⟩ : BInt) u0 (rdenS u2)).2.2).2.1 (gmulABS (⟨false, []⟩ : BInt) u0 (rdenS u2)).1 (gmulBAS (⟨false, []⟩ : BInt) (rdenS (gmulABS (⟨false, []⟩ : BInt) u0 (rdenS u2)).2.1) (gmulABS (⟨false, []⟩ : BInt) u0 (rdenS u2)).2.2).1).2.1.neg, .slice c0 (rsfS (gmulBAS (⟨false, []⟩ : BInt) (rdenS (gmulABS (⟨false, []⟩ : BInt) u0 (rdenS u2)).2.1) (gmulABS (⟨false, []⟩ : BInt) u0 (rdenS u2)).2.2).2.1 (gmulABS (⟨false, []⟩ : BInt) u0 (rdenS u2)).1 (gmulBAS (⟨false, []⟩ : BInt) (rdenS (gmulABS (⟨false, []⟩ : BInt) u0 (rdenS u2)).2.1) (gmulABS (⟨false, []⟩ : BInt) u0 (rdenS u2)).2.2).1).2.1.abs.length c1] 69) :: (.row p [.bool (rsfS (gmulBAS (⟨false, []⟩ : BInt) (rdenS (gmulABS (⟨false, []⟩ : BInt) u0 (rdenS u2)).2.1) (gmulABS (⟨false, []⟩ : BInt) u0 (rdenS u2)).2.2).2.1 (gmulABS (⟨false, []⟩ : BInt) u0 (rdenS u2)).1 (gmulBAS (⟨false, []⟩ : BInt) (rdenS (gmulABS (⟨false, []⟩ : BInt) u0 (rdenS u2)).2.1) (gmulABS (⟨false, []⟩ : BInt) u0 (rdenS u2)).2.2).1).2.2.neg, .slice c2 (rsfS (gmulBAS (⟨false, []⟩ : BInt) (rdenS (gmulABS (⟨false, []⟩ : BInt) u0 (rdenS u2)).2.1) (gmulABS (⟨false, []⟩ : BInt) u0 (rdenS u2)).2.2).2.1 (gmulABS (⟨false, []⟩ : BInt) u0 (rdenS u2)).1 (gmulBAS (⟨false, []⟩ : BInt) (rdenS (gmulABS (⟨false, []⟩ : BInt) u0 (rdenS u2)).2.1) (gmulABS (⟨false, []⟩ : BInt) u0 (rdenS u2)).2.2).1).2.2.abs.length c3] 69) :: (.row b8 (e71Nf ((gmulBAS (⟨false, []⟩ : BInt) (rdenS (gmulABS (⟨false, []⟩ : BInt) u0 (rdenS u2)).2.1) (gmulABS (⟨false, []⟩ : BInt) u0 (rdenS u2)).2.2).2.2) u v x y) 71) :: Rr) dB eM := dC
   refine nl (qnI (hJ _ _ ?_))
   exact ⟨m, P, Q, R, T, s, t, U, V, W, X, z, C, D, E, p, Y, aa, ab, ac, ad, ae, af, ag, ah, ai, u, v, x, y, cW, cX, cY, cZ, c0, c1, c2, c3, ao, pt b1 0, pt m 0, pt b1 0, pt b1 0, pt b1 0, pt b8 0, pt b8 2, pt m 0, pt p 0, pt b1 0, pt b1 2, pt b8 0, pt b8 0, pt b8 0, pt p 0, pt b1 0, .row b8 (e71Nf ((gmulBAS (⟨false, []⟩ : BInt) (rdenS (gmulABS (⟨false, []⟩ : BInt) u0 (rdenS u2)).2.1) (gmulABS (⟨false, []⟩ : BInt) u0 (rdenS u2)).2.2).2.2) u v x y) 71, .row p [.bool (rsfS (gmulBAS (⟨false, []⟩ : BInt) (rdenS (gmulABS (⟨false, []⟩ : BInt) u0 (rdenS u2)).2.1) (gmulABS (⟨false, []⟩ : BInt) u0 (rdenS u2)).2.2).2.1 (gmulABS (⟨false, []⟩ : BInt) u0 (rdenS u2)).1 (gmulBAS (⟨false, []⟩ : BInt) (rdenS (gmulABS (⟨false, []⟩ : BInt) u0 (rdenS u2)).2.1) (gmulABS (⟨false, []⟩ : BInt) u0 (rdenS u2)).2.2).1).2.2.neg, .slice c2 (rsfS (gmulBAS (⟨false, []⟩ : BInt) (rdenS (gmulABS (⟨false, []⟩ : BInt) u0 (rdenS u2)).2.1) (gmulABS (⟨false, []⟩ : BInt) u0 (rdenS u2)).2.2).2.1 (gmulABS (⟨false, []⟩ : BInt) u0 (rdenS u2)).1 (gmulBAS (⟨false, []⟩ : BInt) (rdenS (gmulABS (⟨false, []⟩ : BInt) u0 (rdenS u2)).2.1) (gmulABS (⟨false, []⟩ : BInt) u0 (rdenS u2)).2.2).1).2.2.abs.length c3] 69, .row b1 (e71Nf ((rsfS (gmulBAS (⟨false, []⟩ : BInt) (rdenS (gmulABS (⟨false, []⟩ : BInt) u0 (rdenS u2)).2.1) (gmulABS (⟨false, []⟩ : BInt) u0 (rdenS u2)).2.2).2.1 (gmulABS (⟨false, []⟩ : BInt) u0 (rdenS u2)).1 (gmulBAS (⟨false, []⟩ : BInt) (rdenS (gmulABS (⟨false, []⟩ : BInt) u0 (rdenS u2)).2.1) (gmulABS (⟨false, []⟩ : BInt) u0 (rdenS u2)).2.2).1).1) cW cX cY cZ) 71, .row m [.bool (rsfS (gmulBAS (⟨false, []⟩ : BInt) (rdenS (gmulABS (⟨false, []⟩ : BInt) u0 (rdenS u2)).2.1) (gmulABS (⟨false, []⟩ : BInt) u0 (rdenS u2)).2.2).2.1 (gmulABS (⟨false, []⟩ : BInt) u0 (rdenS u2)).1 (gmulBAS (⟨false, []⟩ : BInt) (rdenS (gmulABS (⟨false, []⟩ : BInt) u0 (rdenS u2)).2.1) (gmulABS (⟨false, []⟩ : BInt) u0 (rdenS u2)).2.2).1).2.1.neg, .slice c0 (rsfS (gmulBAS (⟨false, []⟩ : BInt) (rdenS (gmulABS (⟨false, []⟩ : BInt) u0 (rdenS u2)).2.1) (gmulABS (⟨false, []⟩ : BInt) u0 (rdenS u2)).2.2).2.1 (gmulABS (⟨false, []⟩ : BInt) u0 (rdenS u2)).1 (gmulBAS (⟨false, []⟩ : BInt) (rdenS (gmulABS (⟨false, []⟩ : BInt) u0 (rdenS u2)).2.1) (gmulABS (⟨false, []⟩ : BInt) u0 (rdenS u2)).2.2).1).2.1.abs.length c1] 69, dB, g.trans hzst, eR.reg, eS.perm ((pk 3 rfl).trans (((pk 2 rfl).trans (lpr.cons _)).cons _)), (nt q), kf, kf, kf, kf, kf, kf, kf, kf, kf, kf, kf, kf, kf, kf, kf, kf, (tn f), (fun _ => tn c), kf, (tn n), (fun _ => tn f), (fun _ => nu), kf, (tn ar), (fun _ => tn f), (fun _ => tn j), (fun _ => tn c), (fun _ => nu), kf, (tn bb), (fun _ => tn c), (fun _ => nu), kf, (fun _ => cM), (fun _ => cN), (fun _ => bN), (fun _ => cO), (fun _ => cP), (fun _ => cQ), (fun _ => cR), (fun _ => cS), (fun _ => cT), (fun _ => bO), (fun _ => bP), (fun _ => bQ), (fun _ => cU), (fun _ => cV), (fun _ => eN), (fun _ => eO), (fun _ => eP), (fun _ => eQ)⟩
  obtain rfl := oj hi
  have d := hpre 15 (by kernel_rfl)
  have c := hpre 14 (by kernel_rfl)
  have aU := hpre 13 (by kernel_rfl)
  have aT := hpre 12 (by kernel_rfl)
  have bl := hpre 11 (by kernel_rfl)
  have j := hpre 10 (by kernel_rfl)
  have bq := hpre 9 (by kernel_rfl)
  have bb := hpre 8 (by kernel_rfl)
  have f := hpre 7 (by kernel_rfl)
  have n := hpre 6 (by kernel_rfl)
  have a6 := hpre 5 (by kernel_rfl)
  have O := hpre 4 (by kernel_rfl)
  have N := hpre 3 (by kernel_rfl)
  have aS := hpre 2 (by kernel_rfl)
  have ar := hpre 1 (by kernel_rfl)
  have bv := hpre 0 (by kernel_rfl)
  obtain rfl := ax bv
  obtain rfl := ay ar
  obtain rfl := az aS
  obtain rfl := aI N
  obtain rfl := aQ O
  obtain rfl := aA a6
  obtain rfl := aJ n
  obtain rfl := be f
  obtain rfl := aB bb
  obtain rfl := aC bq
  obtain rfl := bm j
  obtain rfl := aD bl
  obtain rfl := aK aT
  obtain rfl := aR aU
  obtain rfl := bx c
  obtain rfl := bR d
  obtain rfl := bz c
  obtain rfl := bS d
  obtain rfl := bU d
  obtain rfl := bW d
  refine hG (any_step ?_); intro A J hJ
  have eT := aL n
  have eU := aM n
  have eV := bg f
  have eW := bh f
  have eX := bi f
  have eY := bj f
  have eZ := bk f
  have e0 := bo j
  have e1 := bp j
  have e2 := bA c
  have e3 := bB c
  have e4 := bC c
  have e5 := bD c
  have e6 := bE c
  have e7 := bX d
  have e8 := bY d
  have e9 := bZ d
  have fa := b0 d
  refine s1 hFx 6 (pt b1 0) ?_; intro gn fb
  refine nl (qnI (hJ _ _ ?_))
  exact ⟨m, P, Q, R, T, s, t, U, V, W, X, z, C, D, E, p, Y, aa, ab, ac, ad, ae, af, ag, ah, ai, u, v, x, y, H, I, L, M, aj, ak, al, am, pt b1 0, pt b1 0, pt m 0, pt b1 0, pt b1 0, pt b1 0, pt b8 0, pt b8 2, pt m 0, pt p 0, pt b1 0, pt b1 2, pt b8 0, pt b8 0, pt b8 0, pt p 0, pt b1 0, .row b8 (e71Nf ((gmulBAS (⟨false, []⟩ : BInt) (rdenS (gmulABS (⟨false, []⟩ : BInt) u0 (rdenS u2)).2.1) (gmulABS (⟨false, []⟩ : BInt) u0 (rdenS u2)).2.2).2.2) u v x y) 71, .row p [.bool (rsfS (gmulBAS (⟨false, []⟩ : BInt) (rdenS (gmulABS (⟨false, []⟩ : BInt) u0 (rdenS u2)).2.1) (gmulABS (⟨false, []⟩ : BInt) u0 (rdenS u2)).2.2).2.1 (gmulABS (⟨false, []⟩ : BInt) u0 (rdenS u2)).1 (gmulBAS (⟨false, []⟩ : BInt) (rdenS (gmulABS (⟨false, []⟩ : BInt) u0 (rdenS u2)).2.1) (gmulABS (⟨false, []⟩ : BInt) u0 (rdenS u2)).2.2).1).2.2.neg, .slice al (rsfS (gmulBAS (⟨false, []⟩ : BInt) (rdenS (gmulABS (⟨false, []⟩ : BInt) u0 (rdenS u2)).2.1) (gmulABS (⟨false, []⟩ : BInt) u0 (rdenS u2)).2.2).2.1 (gmulABS (⟨false, []⟩ : BInt) u0 (rdenS u2)).1 (gmulBAS (⟨false, []⟩ : BInt) (rdenS (gmulABS (⟨false, []⟩ : BInt) u0 (rdenS u2)).2.1) (gmulABS (⟨false, []⟩ : BInt) u0 (rdenS u2)).2.2).1).2.2.abs.length am] 69, .row b1 (e71Nf ((rsfS (gmulBAS (⟨false, []⟩ : BInt) (rdenS (gmulABS (⟨false, []⟩ : BInt) u0 (rdenS u2)).2.1) (gmulABS (⟨false, []⟩ : BInt) u0 (rdenS u2)).2.2).2.1 (gmulABS (⟨false, []⟩ : BInt) u0 (rdenS u2)).1 (gmulBAS (⟨false, []⟩ : BInt) (rdenS (gmulABS (⟨false, []⟩ : BInt) u0 (rdenS u2)).2.1) (gmulABS (⟨false, []⟩ : BInt) u0 (rdenS u2)).2.2).1).1) H I L M) 71, .row m [.bool (rsfS (gmulBAS (⟨false, []⟩ : BInt) (rdenS (gmulABS (⟨false, []⟩ : BInt) u0 (rdenS u2)).2.1) (gmulABS (⟨false, []⟩ : BInt) u0 (rdenS u2)).2.2).2.1 (gmulABS (⟨false, []⟩ : BInt) u0 (rdenS u2)).1 (gmulBAS (⟨false, []⟩ : BInt) (rdenS (gmulABS (⟨false, []⟩ : BInt) u0 (rdenS u2)).2.1) (gmulABS (⟨false, []⟩ : BInt) u0 (rdenS u2)).2.2).1).2.1.neg, .slice aj (rsfS (gmulBAS (⟨false, []⟩ : BInt) (rdenS (gmulABS (⟨false, []⟩ : BInt) u0 (rdenS u2)).2.1) (gmulABS (⟨false, []⟩ : BInt) u0 (rdenS u2)).2.2).2.1 (gmulABS (⟨false, []⟩ : BInt) u0 (rdenS u2)).1 (gmulBAS (⟨false, []⟩ : BInt) (rdenS (gmulABS (⟨false, []⟩ : BInt) u0 (rdenS u2)).2.1) (gmulABS (⟨false, []⟩ : BInt) u0 (rdenS u2)).2.2).1).2.1.abs.length ak] 69, k, g, fb.reg, hMx.perm lpr, kf, kf, kf, kf, kf, kf, kf, kf, kf, kf, kf, kf, kf, kf, kf, kf, kf, (tn f), (fun _ => tn c), kf, (tn n), (fun _ => tn f), (fun _ => tn d), kf, (tn ar), (fun _ => tn f), (fun _ => tn j), (fun _ => tn c), (fun _ => tn d), kf, (tn bb), (fun _ => tn c), (fun _ => tn d), kf, (fun _ => eT), (fun _ => eU), (fun _ => eV), (fun _ => eW), (fun _ => eX), (fun _ => eY), (fun _ => eZ), (fun _ => e0), (fun _ => e1), (fun _ => e2), (fun _ => e3), (fun _ => e4), (fun _ => e5), (fun _ => e6), (fun _ => e7), (fun _ => e8), (fun _ => e9), (fun _ => fa)⟩
 case hE =>
  intro S hS go gp hI; refine Go.Sy.hid ?_; intro G hG; obtain ⟨m, P, Q, R, T, s, t, U, V, W, X, z, C, D, E, p, Y, aa, ab, ac, ad, ae, af, ag, ah, hI⟩ := hI; obtain ⟨ai, u, v, x, y, H, I, L, M, aj, ak, al, am, ao, av, aV, a7, a3, aW, a4, aX, aN, aE, aO, aF, hI⟩ := hI; obtain ⟨aY, aP, aG, aw, aq, bd, aH, an, F, k, g, hFx, hMx, c9, ax, ay, az, aI, aQ, aA, aJ, be, aB, aC, bm, hI⟩ := hI; obtain ⟨aD, aK, aR, bx, bR, a5, br, bz, a8, bf, bn, bS, a9, ba, bs, bu, bT, bU, aZ, a1, bV, bW, aL, aM, bg, hI⟩ := hI; obtain ⟨bh, bi, bj, bk, bo, bp, bA, bB, bC, bD, bE, bX, bY, bZ, hI⟩ := hI; refine hG ?_
  obtain rfl := c9 (hS 16 (by decide))
  obtain rfl := ax (hS 0 (by decide))
  obtain rfl := ay (hS 1 (by decide))
  obtain rfl := az (hS 2 (by decide))
  obtain rfl := aI (hS 3 (by decide))
  obtain rfl := aQ (hS 4 (by decide))
  obtain rfl := aA (hS 5 (by decide))
  obtain rfl := aJ (hS 6 (by decide))
  obtain rfl := be (hS 7 (by decide))
  obtain rfl := aB (hS 8 (by decide))
  obtain rfl := aC (hS 9 (by decide))
  obtain rfl := bm (hS 10 (by decide))
  obtain rfl := aD (hS 11 (by decide))
  obtain rfl := aK (hS 12 (by decide))
  obtain rfl := aR (hS 13 (by decide))
  obtain rfl := bx (hS 14 (by decide))
  obtain rfl := bR (hS 15 (by decide))
  obtain rfl := bz (hS 14 (by decide))
  obtain rfl := bS (hS 15 (by decide))
  obtain rfl := bU (hS 15 (by decide))
  obtain rfl := bW (hS 15 (by decide))
  have l := Fz.le.trans l g
  have fc := bD (hS 14 (by decide))
  have fd := bE (hS 14 (by decide))
  have fe := bX (hS 15 (by decide))
  have fg := bY (hS 15 (by decide))
  refine t_ (r_ (ra1 hFx (pt b1 0) ?_))
  have fh := hMx.perm ((pk 2 rfl).trans (lpr.cons _))
  exact ⟨((rsfS (gmulBAS (⟨false, []⟩ : BInt) (rdenS (gmulABS (⟨false, []⟩ : BInt) u0 (rdenS u2)).2.1) (gmulABS (⟨false, []⟩ : BInt) u0 (rdenS u2)).2.2).2.1 (gmulABS (⟨false, []⟩ : BInt) u0 (rdenS u2)).1 (gmulBAS (⟨false, []⟩ : BInt) (rdenS (gmulABS (⟨false, []⟩ : BInt) u0 (rdenS u2)).2.1) (gmulABS (⟨false, []⟩ : BInt) u0 (rdenS u2)).2.2).1).1, (gmulBAS (⟨false, []⟩ : BInt) (rdenS (gmulABS (⟨false, []⟩ : BInt) u0 (rdenS u2)).2.1) (gmulABS (⟨false, []⟩ : BInt) u0 (rdenS u2)).2.2).2.2), H, I, L, M, u, v, x, y, k, rfl, dO, l, fe, fg, fc, fd, fh.kp⟩

theorem risint_walk (u0 : BRat) (b1 : Nat) (ao2 : Option Addr) (cap3 : Nat) (ao5 : Option Addr) (cap6 : Nat) (B : Nat) (w0 : World) (Z0 : Fz) (Rr : List Res) (Z : Fz) (w : World) (hs4 : SlR (tyInt .u32) Z ao2 cap3 u0.a.abs) (hs7 : SlR (tyInt .u32) Z ao5 cap6 u0.b.abs) (hM0 : Mem B [] w0 Z0 ((.row b1 [.bool u0.a.neg, .slice ao2 u0.a.abs.length cap3, .bool u0.b.neg, .slice ao5 u0.b.abs.length cap6] 71) :: Rr) Z w) (hZ : Z.on w) {K : (Bool × BRat) → Prop} (hp : risint_vc u0 K) : Calls Tryd.prog 51 #[pt b1 0] w fun e w' => ∃ (r : Bool × BRat) (ao1001 : Option Addr) (cap1002 : Nat) (ao1004 : Option Addr) (cap1005 : Nat) (Z' : Fz), e = .returned (.bool r.1) ∧ K r ∧ Fz.le Z Z' ∧ SlR (tyInt .u32) Z' ao1001 cap1002 r.2.a.abs ∧ SlR (tyInt .u32) Z' ao1004 cap1005 r.2.b.abs ∧ Mem B [] w0 Z0 ((.row b1 [.bool r.2.a.neg, .slice ao1001 r.2.a.abs.length cap1002, .bool r.2.b.neg, .slice ao1004 r.2.b.abs.length cap1005] 71) :: Rr) Z' w' := by
 refine enter0 Tryd.func51 rfl rfl (by kernel_rfl) ?_; intro a0 v; have f := Fz.le.refl Z
 have ab := hp (hs4.small) (hs7.small)
 refine sqB v hM0 [] [] [] ?_; intro aw y
 refine sqH ?_; intro ac z
 refine s1 y 3 (pt b1 0) ?_; intro ax A
 obtain ⟨ad, C⟩ := ab
 refine ck A 78 #[pt b1 0] ?_
 obtain ⟨d, ae, D⟩ := hxq C
 have g := rden_fun u0 ad b1 ao2 cap3 ao5 cap6 _ _ _ _ _ _ hs4 hs7 hM0 hM0.fz; rw [ae] at g; refine g.mono ?_; rintro _ af ⟨m, n, o, p, ag, rfl, q, h, i, hm⟩; refine ⟨_, rfl, ?_⟩; intro ay E; have F := hm
 replace f := Fz.le.trans f q
 have s : Mem B [] w0 Z0 ((.row b1 (e71Nf d m n o p) 71) :: Rr) ag af := F
 obtain ⟨ai, aj⟩ := D (h.small) (i.small)
 refine ck E 52 #[i6 1] ?_
 refine (gnew_fun 1 ai _ _ s.fz).mono ?_; rintro _ ak ⟨l, H, I, al, rfl, t, hm⟩; refine ⟨_, rfl, ?_⟩; intro az J; have L := s.callZ hm; have k := hm.ext.le
 replace h := h.mono k
 replace i := i.mono k
 replace f := Fz.le.trans f k
 have u : Mem B [] w0 Z0 ((.row l [.bool (bz 1).neg, .slice H (bz 1).abs.length I] 69) :: (.row b1 (e71Nf d m n o p) 71) :: Rr) al ak := L
 obtain ⟨am, M⟩ := aj
 refine ck J 56 #[pt b1 2, pt l 0] ?_
 obtain ⟨c, an, N⟩ := hxq M
 have g := gcmpB_fun d (bz 1) am b1 m n o p l H I _ _ _ _ _ _ h i t (u.perm ((pk 1 rfl).trans (lpr.cons _))) u.fz; rw [an] at g; refine g.mono ?_; rintro _ ao ⟨O, P, Q, R, ap, aq, S, rfl, j, T, U, ar, hm⟩; refine ⟨_, rfl, ?_⟩; intro aA V; have W := hm
 replace f := Fz.le.trans f j
 have X : Mem B [] w0 Z0 ((.row b1 (e71Nf c.2.1 O P Q R) 71) :: (.row l [.bool c.2.2.neg, .slice ap c.2.2.abs.length aq] 69) :: Rr) S ao := W
 have au := N (T.small) (U.small) (ar.small)
 refine bt V X 2 [] [] [(2, .bool (c.1 == 0))] ?_; intro aB av
 apply z
 exact r_ (ra1 av (.bool (c.1 == 0)) ⟨(c.1 == 0, c.2.1), O, P, Q, R, S, rfl, au, f, T, U, X.kp⟩)

end Go.Proofs.YtdndfbamhnchfaaDoor
set_option linter.unusedVariables false
set_option linter.unusedSimpArgs false
set_option linter.defProp false
namespace Go.Proofs.YtdndfbamhnchfaaDoor
open Go.Sy Go.RowKit
def rsf64_fun (u0 : BRat) (u1 : Int) (u2 : Int) (hpre : u2 ≠ 0 ∧ (-9223372036854775808 ≤ u1 ∧ u1 ≤ 9223372036854775807) ∧ -9223372036854775808 ≤ u2 ∧ u2 ≤ 9223372036854775807) (b1 : Nat) (ao2 : Option Addr) (cap3 : Nat) (ao5 : Option Addr) (cap6 : Nat) (B : Nat) (w0 : World) (Z0 : Fz) (Rr : List Res) (Z : Fz) (w : World) (hs4 : SlR (tyInt .u32) Z ao2 cap3 u0.a.abs) (hs7 : SlR (tyInt .u32) Z ao5 cap6 u0.b.abs) (hM0 : Mem B [] w0 Z0 ((.row b1 [.bool u0.a.neg, .slice ao2 u0.a.abs.length cap3, .bool u0.b.neg, .slice ao5 u0.b.abs.length cap6] 71) :: Rr) Z w) (hZ : Z.on w) := fe_ (rsf64_walk u0 u1 u2 b1 ao2 cap3 ao5 cap6 B w0 Z0 Rr Z w hs4 hs7 hM0 hZ (rsf64_ok u0 u1 u2 hpre))
def rsi_fun (u0 : BRat) (u1 : Int) (hpre : -9223372036854775808 ≤ u1 ∧ u1 ≤ 9223372036854775807) (b1 : Nat) (ao2 : Option Addr) (cap3 : Nat) (ao5 : Option Addr) (cap6 : Nat) (B : Nat) (w0 : World) (Z0 : Fz) (Rr : List Res) (Z : Fz) (w : World) (hs4 : SlR (tyInt .u32) Z ao2 cap3 u0.a.abs) (hs7 : SlR (tyInt .u32) Z ao5 cap6 u0.b.abs) (hM0 : Mem B [] w0 Z0 ((.row b1 [.bool u0.a.neg, .slice ao2 u0.a.abs.length cap3, .bool u0.b.neg, .slice ao5 u0.b.abs.length cap6] 71) :: Rr) Z w) (hZ : Z.on w) := fe_ (rsi_walk u0 u1 b1 ao2 cap3 ao5 cap6 B w0 Z0 Rr Z w hs4 hs7 hM0 hZ (rsi_ok u0 u1 hpre))
theorem radd_fun (u0 : BRat) (u2 : BRat) (hpre : rk u0 ∧ rk u2 ∧ rlow u0 u2) (b1 : Nat) (ao2 : Option Addr) (cap3 : Nat) (ao5 : Option Addr) (cap6 : Nat) (b8 : Nat) (ao9 : Option Addr) (cap10 : Nat) (ao12 : Option Addr) (cap13 : Nat) (B : Nat) (w0 : World) (Z0 : Fz) (Rr : List Res) (Z : Fz) (w : World) (hs4 : SlR (tyInt .u32) Z ao2 cap3 u0.a.abs) (hs7 : SlR (tyInt .u32) Z ao5 cap6 u0.b.abs) (hs11 : SlR (tyInt .u32) Z ao9 cap10 u2.a.abs) (hs14 : SlR (tyInt .u32) Z ao12 cap13 u2.b.abs) (hM0 : Mem B [] w0 Z0 ((.row b1 [.bool u0.a.neg, .slice ao2 u0.a.abs.length cap3, .bool u0.b.neg, .slice ao5 u0.b.abs.length cap6] 71) :: (.row b8 [.bool u2.a.neg, .slice ao9 u2.a.abs.length cap10, .bool u2.b.neg, .slice ao12 u2.b.abs.length cap13] 71) :: Rr) Z w) (hZ : Z.on w) : Calls Tryd.prog 40 #[pt b1 0, pt b1 0, pt b8 0] w fun e w' => ∃ (ao1001 : Option Addr) (cap1002 : Nat) (ao1004 : Option Addr) (cap1005 : Nat) (ao1007 : Option Addr) (cap1008 : Nat) (ao1010 : Option Addr) (cap1011 : Nat) (Z' : Fz), e = .returned (pt b1 0) ∧ Fz.le Z Z' ∧ SlR (tyInt .u32) Z' ao1001 cap1002 (raddS u0 u2).1.a.abs ∧ SlR (tyInt .u32) Z' ao1004 cap1005 (raddS u0 u2).1.b.abs ∧ SlR (tyInt .u32) Z' ao1007 cap1008 (raddS u0 u2).2.a.abs ∧ SlR (tyInt .u32) Z' ao1010 cap1011 (raddS u0 u2).2.b.abs ∧ Mem B [] w0 Z0 ((.row b1 [.bool (raddS u0 u2).1.a.neg, .slice ao1001 (raddS u0 u2).1.a.abs.length cap1002, .bool (raddS u0 u2).1.b.neg, .slice ao1004 (raddS u0 u2).1.b.abs.length cap1005] 71) :: (.row b8 [.bool (raddS u0 u2).2.a.neg, .slice ao1007 (raddS u0 u2).2.a.abs.length cap1008, .bool (raddS u0 u2).2.b.neg, .slice ao1010 (raddS u0 u2).2.b.abs.length cap1011] 71) :: Rr) Z' w' :=
  (radd_walk u0 u2 b1 ao2 cap3 ao5 cap6 b8 ao9 cap10 ao12 cap13 B w0 Z0 Rr Z w hs4 hs7 hs11 hs14 hM0 hZ (radd_ok u0 u2 hpre)).mono fun _ _ ⟨r, h0, h1, h2, h3, h4, h5, h6, h7, h8, he, hk, f0, f1, f2, f3, f4, hm⟩ => by subst hk; exact ⟨h0, h1, h2, h3, h4, h5, h6, h7, h8, he, f0, f1, f2, f3, f4, hm⟩

theorem rdenom_fun (u0 : BRat) (hpre : bk u0.b ∧ u0.b.abs ≠ []) (b1 : Nat) (ao2 : Option Addr) (cap3 : Nat) (ao5 : Option Addr) (cap6 : Nat) (B : Nat) (w0 : World) (Z0 : Fz) (Rr : List Res) (Z : Fz) (w : World) (hs4 : SlR (tyInt .u32) Z ao2 cap3 u0.a.abs) (hs7 : SlR (tyInt .u32) Z ao5 cap6 u0.b.abs) (hM0 : Mem B [] w0 Z0 ((.row b1 [.bool u0.a.neg, .slice ao2 u0.a.abs.length cap3, .bool u0.b.neg, .slice ao5 u0.b.abs.length cap6] 71) :: Rr) Z w) (hZ : Z.on w) : Calls Tryd.prog 44 #[pt b1 0] w fun e w' => ∃ (ao1001 : Option Addr) (cap1002 : Nat) (ao1004 : Option Addr) (cap1005 : Nat) (b1007 : Nat) (ao1008 : Option Addr) (cap1009 : Nat) (Z' : Fz), e = .returned (pt b1007 0) ∧ Fz.le Z Z' ∧ SlR (tyInt .u32) Z' ao1001 cap1002 (rdenomS u0).1.a.abs ∧ SlR (tyInt .u32) Z' ao1004 cap1005 (rdenomS u0).1.b.abs ∧ SlR (tyInt .u32) Z' ao1008 cap1009 (rdenomS u0).2.abs ∧ Mem B [] w0 Z0 ((.row b1007 [.bool (rdenomS u0).2.neg, .slice ao1008 (rdenomS u0).2.abs.length cap1009] 69) :: (.row b1 [.bool (rdenomS u0).1.a.neg, .slice ao1001 (rdenomS u0).1.a.abs.length cap1002, .bool (rdenomS u0).1.b.neg, .slice ao1004 (rdenomS u0).1.b.abs.length cap1005] 71) :: Rr) Z' w' :=
  (rdenom_walk u0 b1 ao2 cap3 ao5 cap6 B w0 Z0 Rr Z w hs4 hs7 hM0 hZ (rdenom_ok u0 hpre)).mono fun _ _ ⟨r, h0, h1, h2, h3, h4, h5, h6, h7, he, hk, f0, f1, f2, f3, hm⟩ => by subst hk; exact ⟨h0, h1, h2, h3, h4, h5, h6, h7, he, f0, f1, f2, f3, hm⟩

theorem rsub_fun (u0 : BRat) (u2 : BRat) (hpre : rk u0 ∧ rk u2 ∧ rlows u0 u2) (b1 : Nat) (ao2 : Option Addr) (cap3 : Nat) (ao5 : Option Addr) (cap6 : Nat) (b8 : Nat) (ao9 : Option Addr) (cap10 : Nat) (ao12 : Option Addr) (cap13 : Nat) (B : Nat) (w0 : World) (Z0 : Fz) (Rr : List Res) (Z : Fz) (w : World) (hs4 : SlR (tyInt .u32) Z ao2 cap3 u0.a.abs) (hs7 : SlR (tyInt .u32) Z ao5 cap6 u0.b.abs) (hs11 : SlR (tyInt .u32) Z ao9 cap10 u2.a.abs) (hs14 : SlR (tyInt .u32) Z ao12 cap13 u2.b.abs) (hM0 : Mem B [] w0 Z0 ((.row b1 [.bool u0.a.neg, .slice ao2 u0.a.abs.length cap3, .bool u0.b.neg, .slice ao5 u0.b.abs.length cap6] 71) :: (.row b8 [.bool u2.a.neg, .slice ao9 u2.a.abs.length cap10, .bool u2.b.neg, .slice ao12 u2.b.abs.length cap13] 71) :: Rr) Z w) (hZ : Z.on w) : Calls Tryd.prog 48 #[pt b1 0, pt b1 0, pt b8 0] w fun e w' => ∃ (ao1001 : Option Addr) (cap1002 : Nat) (ao1004 : Option Addr) (cap1005 : Nat) (ao1007 : Option Addr) (cap1008 : Nat) (ao1010 : Option Addr) (cap1011 : Nat) (Z' : Fz), e = .returned (pt b1 0) ∧ Fz.le Z Z' ∧ SlR (tyInt .u32) Z' ao1001 cap1002 (rsubS u0 u2).1.a.abs ∧ SlR (tyInt .u32) Z' ao1004 cap1005 (rsubS u0 u2).1.b.abs ∧ SlR (tyInt .u32) Z' ao1007 cap1008 (rsubS u0 u2).2.a.abs ∧ SlR (tyInt .u32) Z' ao1010 cap1011 (rsubS u0 u2).2.b.abs ∧ Mem B [] w0 Z0 ((.row b1 [.bool (rsubS u0 u2).1.a.neg, .slice ao1001 (rsubS u0 u2).1.a.abs.length cap1002, .bool (rsubS u0 u2).1.b.neg, .slice ao1004 (rsubS u0 u2).1.b.abs.length cap1005] 71) :: (.row b8 [.bool (rsubS u0 u2).2.a.neg, .slice ao1007 (rsubS u0 u2).2.a.abs.length cap1008, .bool (rsubS u0 u2).2.b.neg, .slice ao1010 (rsubS u0 u2).2.b.abs.length cap1011] 71) :: Rr) Z' w' :=
  (rsub_walk u0 u2 b1 ao2 cap3 ao5 cap6 b8 ao9 cap10 ao12 cap13 B w0 Z0 Rr Z w hs4 hs7 hs11 hs14 hM0 hZ (rsub_ok u0 u2 hpre)).mono fun _ _ ⟨r, h0, h1, h2, h3, h4, h5, h6, h7, h8, he, hk, f0, f1, f2, f3, f4, hm⟩ => by subst hk; exact ⟨h0, h1, h2, h3, h4, h5, h6, h7, h8, he, f0, f1, f2, f3, f4, hm⟩

theorem rmul_fun (u0 : BRat) (u2 : BRat) (hpre : rk u0 ∧ rk u2 ∧ rlowm u0 u2) (b1 : Nat) (ao2 : Option Addr) (cap3 : Nat) (ao5 : Option Addr) (cap6 : Nat) (b8 : Nat) (ao9 : Option Addr) (cap10 : Nat) (ao12 : Option Addr) (cap13 : Nat) (B : Nat) (w0 : World) (Z0 : Fz) (Rr : List Res) (Z : Fz) (w : World) (hs4 : SlR (tyInt .u32) Z ao2 cap3 u0.a.abs) (hs7 : SlR (tyInt .u32) Z ao5 cap6 u0.b.abs) (hs11 : SlR (tyInt .u32) Z ao9 cap10 u2.a.abs) (hs14 : SlR (tyInt .u32) Z ao12 cap13 u2.b.abs) (hM0 : Mem B [] w0 Z0 ((.row b1 [.bool u0.a.neg, .slice ao2 u0.a.abs.length cap3, .bool u0.b.neg, .slice ao5 u0.b.abs.length cap6] 71) :: (.row b8 [.bool u2.a.neg, .slice ao9 u2.a.abs.length cap10, .bool u2.b.neg, .slice ao12 u2.b.abs.length cap13] 71) :: Rr) Z w) (hZ : Z.on w) : Calls Tryd.prog 49 #[pt b1 0, pt b1 0, pt b8 0] w fun e w' => ∃ (ao1001 : Option Addr) (cap1002 : Nat) (ao1004 : Option Addr) (cap1005 : Nat) (ao1007 : Option Addr) (cap1008 : Nat) (ao1010 : Option Addr) (cap1011 : Nat) (Z' : Fz), e = .returned (pt b1 0) ∧ Fz.le Z Z' ∧ SlR (tyInt .u32) Z' ao1001 cap1002 (rmulS u0 u2).1.a.abs ∧ SlR (tyInt .u32) Z' ao1004 cap1005 (rmulS u0 u2).1.b.abs ∧ SlR (tyInt .u32) Z' ao1007 cap1008 (rmulS u0 u2).2.a.abs ∧ SlR (tyInt .u32) Z' ao1010 cap1011 (rmulS u0 u2).2.b.abs ∧ Mem B [] w0 Z0 ((.row b1 [.bool (rmulS u0 u2).1.a.neg, .slice ao1001 (rmulS u0 u2).1.a.abs.length cap1002, .bool (rmulS u0 u2).1.b.neg, .slice ao1004 (rmulS u0 u2).1.b.abs.length cap1005] 71) :: (.row b8 [.bool (rmulS u0 u2).2.a.neg, .slice ao1007 (rmulS u0 u2).2.a.abs.length cap1008, .bool (rmulS u0 u2).2.b.neg, .slice ao1010 (rmulS u0 u2).2.b.abs.length cap1011] 71) :: Rr) Z' w' :=
  (rmul_walk u0 u2 b1 ao2 cap3 ao5 cap6 b8 ao9 cap10 ao12 cap13 B w0 Z0 Rr Z w hs4 hs7 hs11 hs14 hM0 hZ (rmul_ok u0 u2 hpre)).mono fun _ _ ⟨r, h0, h1, h2, h3, h4, h5, h6, h7, h8, he, hk, f0, f1, f2, f3, f4, hm⟩ => by subst hk; exact ⟨h0, h1, h2, h3, h4, h5, h6, h7, h8, he, f0, f1, f2, f3, f4, hm⟩

theorem rquo_fun (u0 : BRat) (u2 : BRat) (hpre : rk u0 ∧ rk u2 ∧ rlowq u0 u2) (b1 : Nat) (ao2 : Option Addr) (cap3 : Nat) (ao5 : Option Addr) (cap6 : Nat) (b8 : Nat) (ao9 : Option Addr) (cap10 : Nat) (ao12 : Option Addr) (cap13 : Nat) (B : Nat) (w0 : World) (Z0 : Fz) (Rr : List Res) (Z : Fz) (w : World) (hs4 : SlR (tyInt .u32) Z ao2 cap3 u0.a.abs) (hs7 : SlR (tyInt .u32) Z ao5 cap6 u0.b.abs) (hs11 : SlR (tyInt .u32) Z ao9 cap10 u2.a.abs) (hs14 : SlR (tyInt .u32) Z ao12 cap13 u2.b.abs) (hM0 : Mem B [] w0 Z0 ((.row b1 [.bool u0.a.neg, .slice ao2 u0.a.abs.length cap3, .bool u0.b.neg, .slice ao5 u0.b.abs.length cap6] 71) :: (.row b8 [.bool u2.a.neg, .slice ao9 u2.a.abs.length cap10, .bool u2.b.neg, .slice ao12 u2.b.abs.length cap13] 71) :: Rr) Z w) (hZ : Z.on w) : Calls Tryd.prog 50 #[pt b1 0, pt b1 0, pt b8 0] w fun e w' => ∃ (ao1001 : Option Addr) (cap1002 : Nat) (ao1004 : Option Addr) (cap1005 : Nat) (ao1007 : Option Addr) (cap1008 : Nat) (ao1010 : Option Addr) (cap1011 : Nat) (Z' : Fz), e = .returned (pt b1 0) ∧ Fz.le Z Z' ∧ SlR (tyInt .u32) Z' ao1001 cap1002 (rquoS u0 u2).1.a.abs ∧ SlR (tyInt .u32) Z' ao1004 cap1005 (rquoS u0 u2).1.b.abs ∧ SlR (tyInt .u32) Z' ao1007 cap1008 (rquoS u0 u2).2.a.abs ∧ SlR (tyInt .u32) Z' ao1010 cap1011 (rquoS u0 u2).2.b.abs ∧ Mem B [] w0 Z0 ((.row b1 [.bool (rquoS u0 u2).1.a.neg, .slice ao1001 (rquoS u0 u2).1.a.abs.length cap1002, .bool (rquoS u0 u2).1.b.neg, .slice ao1004 (rquoS u0 u2).1.b.abs.length cap1005] 71) :: (.row b8 [.bool (rquoS u0 u2).2.a.neg, .slice ao1007 (rquoS u0 u2).2.a.abs.length cap1008, .bool (rquoS u0 u2).2.b.neg, .slice ao1010 (rquoS u0 u2).2.b.abs.length cap1011] 71) :: Rr) Z' w' :=
  (rquo_walk u0 u2 b1 ao2 cap3 ao5 cap6 b8 ao9 cap10 ao12 cap13 B w0 Z0 Rr Z w hs4 hs7 hs11 hs14 hM0 hZ (rquo_ok u0 u2 hpre)).mono fun _ _ ⟨r, h0, h1, h2, h3, h4, h5, h6, h7, h8, he, hk, f0, f1, f2, f3, f4, hm⟩ => by subst hk; exact ⟨h0, h1, h2, h3, h4, h5, h6, h7, h8, he, f0, f1, f2, f3, f4, hm⟩

def risint_fun (u0 : BRat) (hpre : rk u0) (b1 : Nat) (ao2 : Option Addr) (cap3 : Nat) (ao5 : Option Addr) (cap6 : Nat) (B : Nat) (w0 : World) (Z0 : Fz) (Rr : List Res) (Z : Fz) (w : World) (hs4 : SlR (tyInt .u32) Z ao2 cap3 u0.a.abs) (hs7 : SlR (tyInt .u32) Z ao5 cap6 u0.b.abs) (hM0 : Mem B [] w0 Z0 ((.row b1 [.bool u0.a.neg, .slice ao2 u0.a.abs.length cap3, .bool u0.b.neg, .slice ao5 u0.b.abs.length cap6] 71) :: Rr) Z w) (hZ : Z.on w) := fe_ (risint_walk u0 b1 ao2 cap3 ao5 cap6 B w0 Z0 Rr Z w hs4 hs7 hM0 hZ (risint_ok u0 hpre))
end Go.Proofs.YtdndfbamhnchfaaDoor
