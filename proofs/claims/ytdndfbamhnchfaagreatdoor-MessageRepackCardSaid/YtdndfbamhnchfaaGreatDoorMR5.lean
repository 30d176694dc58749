/- Texts put together (pure ones, or walks made by program). -/
import Derived.Test.YtdndfbamhnchfaaGreatDoorMR0
import Derived.Test.YtdndfbamhnchfaaGreatDoorMR1
import Derived.Test.YtdndfbamhnchfaaGreatDoorMR2
import Derived.Test.YtdndfbamhnchfaaGreatDoorMR3
import Derived.Test.YtdndfbamhnchfaaGreatDoorMR4
set_option linter.unusedVariables false
set_option linter.unusedSimpArgs false
set_option linter.defProp false
set_option maxRecDepth 100000
set_option maxHeartbeats 0
namespace Go.Proofs.YtdndfbamhnchfaaGreatDoor
open Go.Sy Go.RowKit
abbrev e75Nd (X : BRat) (A0 : Option Addr) (C0 : Nat) (A1 : Option Addr) (C1 : Nat) : List Value := [.bool X.a.neg, .slice A0 X.a.abs.length C0, .bool X.b.neg, .slice A1 X.b.abs.length C1]
def gdiv_fun (u0 : List Int) (u1 : List Int) (hpre : u0 = ws (wv u0) ∧ u1 = ws (wv u1) ∧ wv u0 < 18446744073709551616 ∧ wv u1 < 18446744073709551616 ∧ 0 < wv u1) (ao1 : Option Addr) (cap2 : Nat) (ao4 : Option Addr) (cap5 : Nat) (Z : Fz) (w : World) (hs3 : SlR (tyInt .u32) Z ao1 cap2 u0) (hs6 : SlR (tyInt .u32) Z ao4 cap5 u1) (hZ : Z.on w) := fe_ (gdiv_walk u0 u1 ao1 cap2 ao4 cap5 Z w hs3 hs6 hZ (gdiv_ok u0 u1 hpre))
def gcom_fun (u0 : List Int) (u1 : List Int) (hpre : u0 = ws (wv u0) ∧ u1 = ws (wv u1) ∧ wv u0 < 18446744073709551616 ∧ wv u1 < 18446744073709551616) (ao1 : Option Addr) (cap2 : Nat) (ao4 : Option Addr) (cap5 : Nat) (Z : Fz) (w : World) (hs3 : SlR (tyInt .u32) Z ao1 cap2 u0) (hs6 : SlR (tyInt .u32) Z ao4 cap5 u1) (hZ : Z.on w) := fc_ (gcom_walk u0 u1 ao1 cap2 ao4 cap5 Z w hs3 hs6 hZ (gcom_ok u0 u1 hpre))
def gsum_fun (u0 : Bool) (u1 : List Int) (u2 : Bool) (u3 : List Int) (hpre : u1 = ws (wv u1) ∧ u3 = ws (wv u3) ∧ wv u1 < 18446744073709551616 ∧ wv u3 < 18446744073709551616) (ao1 : Option Addr) (cap2 : Nat) (ao4 : Option Addr) (cap5 : Nat) (Z : Fz) (w : World) (hs3 : SlR (tyInt .u32) Z ao1 cap2 u1) (hs6 : SlR (tyInt .u32) Z ao4 cap5 u3) (hZ : Z.on w) := fc_ (gsum_walk u0 u1 u2 u3 ao1 cap2 ao4 cap5 Z w hs3 hs6 hZ (gsum_ok u0 u1 u2 u3 hpre))
theorem gnew_fun (u0 : Int) (hpre : -9223372036854775808 ≤ u0 ∧ u0 ≤ 9223372036854775807)  (Z : Fz) (w : World)  (hZ : Z.on w) : Calls Tryz.prog 48 #[i6 u0] w fun e w' => ∃ (b1001 : Nat) (ao1002 : Option Addr) (cap1003 : Nat) (Z' : Fz), e = .returned (pt b1001 0) ∧ SlR (tyInt .u32) Z' ao1002 cap1003 (bz u0).abs ∧ Mem w.heap.size [] w Z [.row b1001 [.bool (bz u0).neg, .slice ao1002 (bz u0).abs.length cap1003] 73] Z' w' :=
 (gnew_walk u0  Z w  hZ (gnew_ok u0 hpre)).mono fun _ _ ⟨r, h0, h1, h2, h3, he, hk, f0, hm⟩ => by subst hk; exact ⟨h0, h1, h2, h3, he, f0, hm⟩
def rden_fun (u0 : BRat) (hpre : u0.b.abs ≠ []) (b1 : Nat) (ao2 : Option Addr) (cap3 : Nat) (ao5 : Option Addr) (cap6 : Nat) (B : Nat) (w0 : World) (Z0 : Fz) (Rr : List Res) (Z : Fz) (w : World) (hs4 : SlR (tyInt .u32) Z ao2 cap3 u0.a.abs) (hs7 : SlR (tyInt .u32) Z ao5 cap6 u0.b.abs) (hM0 : Mem B [] w0 Z0 ((.row b1 [.bool u0.a.neg, .slice ao2 u0.a.abs.length cap3, .bool u0.b.neg, .slice ao5 u0.b.abs.length cap6] 75) :: Rr) Z w) (hZ : Z.on w) := fe_ (rden_walk u0 b1 ao2 cap3 ao5 cap6 B w0 Z0 Rr Z w hs4 hs7 hM0 hZ (rden_ok u0 hpre))
def gnegA_fun (u0 : BRat) (hpre : u0.a.abs.length ≤ 1000000) (b1 : Nat) (ao2 : Option Addr) (cap3 : Nat) (ao5 : Option Addr) (cap6 : Nat) (B : Nat) (w0 : World) (Z0 : Fz) (Rr : List Res) (Z : Fz) (w : World) (hs4 : SlR (tyInt .u32) Z ao2 cap3 u0.a.abs) (hs7 : SlR (tyInt .u32) Z ao5 cap6 u0.b.abs) (hM0 : Mem B [] w0 Z0 ((.row b1 [.bool u0.a.neg, .slice ao2 u0.a.abs.length cap3, .bool u0.b.neg, .slice ao5 u0.b.abs.length cap6] 75) :: Rr) Z w) (hZ : Z.on w) := fe_ (gnegA_walk u0 b1 ao2 cap3 ao5 cap6 B w0 Z0 Rr Z w hs4 hs7 hM0 hZ (gnegA_ok u0 hpre))
def gnegB_fun (u0 : BRat) (hpre : u0.b.abs.length ≤ 1000000) (b1 : Nat) (ao2 : Option Addr) (cap3 : Nat) (ao5 : Option Addr) (cap6 : Nat) (B : Nat) (w0 : World) (Z0 : Fz) (Rr : List Res) (Z : Fz) (w : World) (hs4 : SlR (tyInt .u32) Z ao2 cap3 u0.a.abs) (hs7 : SlR (tyInt .u32) Z ao5 cap6 u0.b.abs) (hM0 : Mem B [] w0 Z0 ((.row b1 [.bool u0.a.neg, .slice ao2 u0.a.abs.length cap3, .bool u0.b.neg, .slice ao5 u0.b.abs.length cap6] 75) :: Rr) Z w) (hZ : Z.on w) := fe_ (gnegB_walk u0 b1 ao2 cap3 ao5 cap6 B w0 Z0 Rr Z w hs4 hs7 hM0 hZ (gnegB_ok u0 hpre))
theorem gmulAB_walk (u0 : BInt) (u1 : BRat) (u2 : BRat) (b1 : Nat) (ao2 : Option Addr) (cap3 : Nat) (b5 : Nat) (ao6 : Option Addr) (cap7 : Nat) (ao9 : Option Addr) (cap10 : Nat) (b12 : Nat) (ao13 : Option Addr) (cap14 : Nat) (ao16 : Option Addr) (cap17 : Nat) (B : Nat) (w0 : World) (Z0 : Fz) (Rr : List Res) (Z : Fz) (w : World) (hs4 : SlR (tyInt .u32) Z ao2 cap3 u0.abs) (hs8 : SlR (tyInt .u32) Z ao6 cap7 u1.a.abs) (hs11 : SlR (tyInt .u32) Z ao9 cap10 u1.b.abs) (hs15 : SlR (tyInt .u32) Z ao13 cap14 u2.a.abs) (hs18 : SlR (tyInt .u32) Z ao16 cap17 u2.b.abs) (hM0 : Mem B [] w0 Z0 ((.row b1 [.bool u0.neg, .slice ao2 u0.abs.length cap3] 73) :: (.row b5 [.bool u1.a.neg, .slice ao6 u1.a.abs.length cap7, .bool u1.b.neg, .slice ao9 u1.b.abs.length cap10] 75) :: (.row b12 [.bool u2.a.neg, .slice ao13 u2.a.abs.length cap14, .bool u2.b.neg, .slice ao16 u2.b.abs.length cap17] 75) :: Rr) Z w) (hZ : Z.on w) {K : (BInt × BRat × BRat) → Prop} (hp : gmulAB_vc u0 u1 u2 K) : Calls Tryz.prog 75 #[pt b1 0, pt b5 0, pt b12 2] w fun e w' => ∃ (r : BInt × BRat × BRat) (ao1001 : Option Addr) (cap1002 : Nat) (ao1004 : Option Addr) (cap1005 : Nat) (ao1007 : Option Addr) (cap1008 : Nat) (ao1010 : Option Addr) (cap1011 : Nat) (ao1013 : Option Addr) (cap1014 : Nat) (Z' : Fz), e = .returned (pt b1 0) ∧ K r ∧ Fz.le Z Z' ∧ SlR (tyInt .u32) Z' ao1001 cap1002 r.1.abs ∧ SlR (tyInt .u32) Z' ao1004 cap1005 r.2.1.a.abs ∧ SlR (tyInt .u32) Z' ao1007 cap1008 r.2.1.b.abs ∧ SlR (tyInt .u32) Z' ao1010 cap1011 r.2.2.a.abs ∧ SlR (tyInt .u32) Z' ao1013 cap1014 r.2.2.b.abs ∧ Mem B [] w0 Z0 ((.row b1 [.bool r.1.neg, .slice ao1001 r.1.abs.length cap1002] 73) :: (.row b5 [.bool r.2.1.a.neg, .slice ao1004 r.2.1.a.abs.length cap1005, .bool r.2.1.b.neg, .slice ao1007 r.2.1.b.abs.length cap1008] 75) :: (.row b12 [.bool r.2.2.a.neg, .slice ao1010 r.2.2.a.abs.length cap1011, .bool r.2.2.b.neg, .slice ao1013 r.2.2.b.abs.length cap1014] 75) :: Rr) Z' w' := by
 refine enter0 Tryz.func75 rfl rfl (by kernel_rfl) ?_; intro V k; have g := Fz.le.refl Z
 have I := hp (hs4.small) (hs8.small) (hs11.small) (hs15.small) (hs18.small)
 refine sqB k hM0 [] [] [] ?_; intro J p
 have q : Fr 27 [] [⟨0, [], pt b1 0⟩, ⟨1, [], pt b5 0⟩, ⟨2, [], pt b12 2⟩] J := p.reg
 refine wp_seq (rgS mixed hM0 [(0, true), (1, true), (2, true), (3, true), (4, true), (5, true), (6, true), (7, true), (8, true), (9, true), (10, true), (11, true), (12, true), (13, true), (14, true), (15, true), (16, true), (17, true), (18, false), (19, false), (20, true)] [] [1, 2] [.row b5 (e75Nd u1 ao6 cap7 ao9 cap10) 75, .row b12 (e75Nd u2 ao13 cap14 ao16 cap17) 75] ?_)
 intro L s W i
 have f := Fz.le.refl Z
 refine cS q 18 [0, 1, 0, 1] [] [(7, pt b1 0), (16, .bool (u1.a.neg != u2.b.neg)), (20, .slice ao6 u1.a.abs.length cap7), (24, .slice ao16 u2.b.abs.length cap17)] ?_; intro X t
 refine eS rfl ?_; intro M u
 obtain ⟨N, O⟩ := I
 refine ck t 103 #[.slice ao6 u1.a.abs.length cap7, .slice ao16 u2.b.abs.length cap17] ?_
 refine (gmul_fun u1.a.abs u2.b.abs N ao6 cap7 ao16 cap17 _ _ hs8 hs18 i.fz).mono ?_; rintro _ P ⟨v, x, Q, rfl, j, hm⟩; refine ⟨_, rfl, ?_⟩; intro Y y; have z := i.callZ hm; have d := hm.ext.le
 replace hs4 := hs4.mono d
 replace hs8 := hs8.mono d
 replace hs11 := hs11.mono d
 replace hs15 := hs15.mono d
 replace hs18 := hs18.mono d
 replace f := f.mono d
 replace g := Fz.le.trans g d
 have h : Mem B [] w0 Z0 ((.row b1 [.bool u0.neg, .slice ao2 u0.abs.length cap3] 73) :: (.row b5 (e75Nd u1 ao6 cap7 ao9 cap10) 75) :: (.row b12 (e75Nd u2 ao13 cap14 ao16 cap17) 75) :: Rr) Q P := z
 refine nl (qnI (u _ _ (h.cst f [1, 2]) ?_))
 refine eS rfl ?_; intro R A
 refine ck y 78 #[pt b1 0, .bool (u1.a.neg != u2.b.neg), .slice v (gmulS u1.a.abs u2.b.abs).length x] ?_
 refine (ggive_fun u0 (u1.a.neg != u2.b.neg) (gmulS u1.a.abs u2.b.abs) b1 ao2 cap3 v x _ _ _ _ _ _ hs4 j h h.fz).mono ?_; rintro _ S ⟨C, D, E, rfl, c, T, hm⟩; refine ⟨_, rfl, ?_⟩; intro aa F; have G := hm
 replace hs8 := hs8.mono c
 replace hs11 := hs11.mono c
 replace hs15 := hs15.mono c
 replace hs18 := hs18.mono c
 replace f := f.mono c
 replace g := Fz.le.trans g c
 have H : Mem B [] w0 Z0 ((.row b1 [.bool (ggive u0 (u1.a.neg != u2.b.neg) (gmulS u1.a.abs u2.b.abs)).neg, .slice C (ggive u0 (u1.a.neg != u2.b.neg) (gmulS u1.a.abs u2.b.abs)).abs.length D] 73) :: (.row b5 (e75Nd u1 ao6 cap7 ao9 cap10) 75) :: (.row b12 (e75Nd u2 ao13 cap14 ao16 cap17) 75) :: Rr) E S := G
 refine nl (qnI (A _ _ (H.cst f [1, 2]) ?_))
 refine cS F 1 [] [] [(6, pt b1 0)] ?_; intro ab U
 refine nS (s _ _ ?_)
 exact t_ (r_ (ra1 U (pt b1 0) ⟨((ggive u0 (u1.a.neg != u2.b.neg) (gmulS u1.a.abs u2.b.abs)), u1, u2), C, D, ao6, cap7, ao9, cap10, ao13, cap14, ao16, cap17, E, rfl, O, g, T, hs8, hs11, hs15, hs18, H.kp⟩))
theorem gmulBA_walk (u0 : BInt) (u1 : BRat) (u2 : BRat) (b1 : Nat) (ao2 : Option Addr) (cap3 : Nat) (b5 : Nat) (ao6 : Option Addr) (cap7 : Nat) (ao9 : Option Addr) (cap10 : Nat) (b12 : Nat) (ao13 : Option Addr) (cap14 : Nat) (ao16 : Option Addr) (cap17 : Nat) (B : Nat) (w0 : World) (Z0 : Fz) (Rr : List Res) (Z : Fz) (w : World) (hs4 : SlR (tyInt .u32) Z ao2 cap3 u0.abs) (hs8 : SlR (tyInt .u32) Z ao6 cap7 u1.a.abs) (hs11 : SlR (tyInt .u32) Z ao9 cap10 u1.b.abs) (hs15 : SlR (tyInt .u32) Z ao13 cap14 u2.a.abs) (hs18 : SlR (tyInt .u32) Z ao16 cap17 u2.b.abs) (hM0 : Mem B [] w0 Z0 ((.row b1 [.bool u0.neg, .slice ao2 u0.abs.length cap3] 73) :: (.row b5 [.bool u1.a.neg, .slice ao6 u1.a.abs.length cap7, .bool u1.b.neg, .slice ao9 u1.b.abs.length cap10] 75) :: (.row b12 [.bool u2.a.neg, .slice ao13 u2.a.abs.length cap14, .bool u2.b.neg, .slice ao16 u2.b.abs.length cap17] 75) :: Rr) Z w) (hZ : Z.on w) {K : (BInt × BRat × BRat) → Prop} (hp : gmulBA_vc u0 u1 u2 K) : Calls Tryz.prog 75 #[pt b1 0, pt b5 2, pt b12 0] w fun e w' => ∃ (r : BInt × BRat × BRat) (ao1001 : Option Addr) (cap1002 : Nat) (ao1004 : Option Addr) (cap1005 : Nat) (ao1007 : Option Addr) (cap1008 : Nat) (ao1010 : Option Addr) (cap1011 : Nat) (ao1013 : Option Addr) (cap1014 : Nat) (Z' : Fz), e = .returned (pt b1 0) ∧ K r ∧ Fz.le Z Z' ∧ SlR (tyInt .u32) Z' ao1001 cap1002 r.1.abs ∧ SlR (tyInt .u32) Z' ao1004 cap1005 r.2.1.a.abs ∧ SlR (tyInt .u32) Z' ao1007 cap1008 r.2.1.b.abs ∧ SlR (tyInt .u32) Z' ao1010 cap1011 r.2.2.a.abs ∧ SlR (tyInt .u32) Z' ao1013 cap1014 r.2.2.b.abs ∧ Mem B [] w0 Z0 ((.row b1 [.bool r.1.neg, .slice ao1001 r.1.abs.length cap1002] 73) :: (.row b5 [.bool r.2.1.a.neg, .slice ao1004 r.2.1.a.abs.length cap1005, .bool r.2.1.b.neg, .slice ao1007 r.2.1.b.abs.length cap1008] 75) :: (.row b12 [.bool r.2.2.a.neg, .slice ao1010 r.2.2.a.abs.length cap1011, .bool r.2.2.b.neg, .slice ao1013 r.2.2.b.abs.length cap1014] 75) :: Rr) Z' w' := by
 refine enter0 Tryz.func75 rfl rfl (by kernel_rfl) ?_; intro V k; have g := Fz.le.refl Z
 have I := hp (hs4.small) (hs8.small) (hs11.small) (hs15.small) (hs18.small)
 refine sqB k hM0 [] [] [] ?_; intro J p
 have q : Fr 27 [] [⟨0, [], pt b1 0⟩, ⟨1, [], pt b5 2⟩, ⟨2, [], pt b12 0⟩] J := p.reg
 refine wp_seq (rgS mixed hM0 [(0, true), (1, true), (2, true), (3, true), (4, true), (5, true), (6, true), (7, true), (8, true), (9, true), (10, true), (11, true), (12, true), (13, true), (14, true), (15, true), (16, true), (17, true), (18, false), (19, false), (20, true)] [] [1, 2] [.row b5 (e75Nd u1 ao6 cap7 ao9 cap10) 75, .row b12 (e75Nd u2 ao13 cap14 ao16 cap17) 75] ?_)
 intro L s W i
 have f := Fz.le.refl Z
 refine cS q 18 [0, 1, 0, 1] [] [(7, pt b1 0), (16, .bool (u1.b.neg != u2.a.neg)), (20, .slice ao9 u1.b.abs.length cap10), (24, .slice ao13 u2.a.abs.length cap14)] ?_; intro X t
 refine eS rfl ?_; intro M u
 obtain ⟨N, O⟩ := I
 refine ck t 103 #[.slice ao9 u1.b.abs.length cap10, .slice ao13 u2.a.abs.length cap14] ?_
 refine (gmul_fun u1.b.abs u2.a.abs N ao9 cap10 ao13 cap14 _ _ hs11 hs15 i.fz).mono ?_; rintro _ P ⟨v, x, Q, rfl, j, hm⟩; refine ⟨_, rfl, ?_⟩; intro Y y; have z := i.callZ hm; have d := hm.ext.le
 replace hs4 := hs4.mono d
 replace hs8 := hs8.mono d
 replace hs11 := hs11.mono d
 replace hs15 := hs15.mono d
 replace hs18 := hs18.mono d
 replace f := f.mono d
 replace g := Fz.le.trans g d
 have h : Mem B [] w0 Z0 ((.row b1 [.bool u0.neg, .slice ao2 u0.abs.length cap3] 73) :: (.row b5 (e75Nd u1 ao6 cap7 ao9 cap10) 75) :: (.row b12 (e75Nd u2 ao13 cap14 ao16 cap17) 75) :: Rr) Q P := z
 refine nl (qnI (u _ _ (h.cst f [1, 2]) ?_))
 refine eS rfl ?_; intro R A
 refine ck y 78 #[pt b1 0, .bool (u1.b.neg != u2.a.neg), .slice v (gmulS u1.b.abs u2.a.abs).length x] ?_
 refine (ggive_fun u0 (u1.b.neg != u2.a.neg) (gmulS u1.b.abs u2.a.abs) b1 ao2 cap3 v x _ _ _ _ _ _ hs4 j h h.fz).mono ?_; rintro _ S ⟨C, D, E, rfl, c, T, hm⟩; refine ⟨_, rfl, ?_⟩; intro aa F; have G := hm
 replace hs8 := hs8.mono c
 replace hs11 := hs11.mono c
 replace hs15 := hs15.mono c
 replace hs18 := hs18.mono c
 replace f := f.mono c
 replace g := Fz.le.trans g c
 have H : Mem B [] w0 Z0 ((.row b1 [.bool (ggive u0 (u1.b.neg != u2.a.neg) (gmulS u1.b.abs u2.a.abs)).neg, .slice C (ggive u0 (u1.b.neg != u2.a.neg) (gmulS u1.b.abs u2.a.abs)).abs.length D] 73) :: (.row b5 (e75Nd u1 ao6 cap7 ao9 cap10) 75) :: (.row b12 (e75Nd u2 ao13 cap14 ao16 cap17) 75) :: Rr) E S := G
 refine nl (qnI (A _ _ (H.cst f [1, 2]) ?_))
 refine cS F 1 [] [] [(6, pt b1 0)] ?_; intro ab U
 refine nS (s _ _ ?_)
 exact t_ (r_ (ra1 U (pt b1 0) ⟨((ggive u0 (u1.b.neg != u2.a.neg) (gmulS u1.b.abs u2.a.abs)), u1, u2), C, D, ao6, cap7, ao9, cap10, ao13, cap14, ao16, cap17, E, rfl, O, g, T, hs8, hs11, hs15, hs18, H.kp⟩))
theorem gmulAA_walk (u0 : BInt) (u1 : BRat) (u2 : BRat) (b1 : Nat) (ao2 : Option Addr) (cap3 : Nat) (b5 : Nat) (ao6 : Option Addr) (cap7 : Nat) (ao9 : Option Addr) (cap10 : Nat) (b12 : Nat) (ao13 : Option Addr) (cap14 : Nat) (ao16 : Option Addr) (cap17 : Nat) (B : Nat) (w0 : World) (Z0 : Fz) (Rr : List Res) (Z : Fz) (w : World) (hs4 : SlR (tyInt .u32) Z ao2 cap3 u0.abs) (hs8 : SlR (tyInt .u32) Z ao6 cap7 u1.a.abs) (hs11 : SlR (tyInt .u32) Z ao9 cap10 u1.b.abs) (hs15 : SlR (tyInt .u32) Z ao13 cap14 u2.a.abs) (hs18 : SlR (tyInt .u32) Z ao16 cap17 u2.b.abs) (hM0 : Mem B [] w0 Z0 ((.row b1 [.bool u0.neg, .slice ao2 u0.abs.length cap3] 73) :: (.row b5 [.bool u1.a.neg, .slice ao6 u1.a.abs.length cap7, .bool u1.b.neg, .slice ao9 u1.b.abs.length cap10] 75) :: (.row b12 [.bool u2.a.neg, .slice ao13 u2.a.abs.length cap14, .bool u2.b.neg, .slice ao16 u2.b.abs.length cap17] 75) :: Rr) Z w) (hZ : Z.on w) {K : (BInt × BRat × BRat) → Prop} (hp : gmulAA_vc u0 u1 u2 K) : Calls Tryz.prog 75 #[pt b1 0, pt b5 0, pt b12 0] w fun e w' => ∃ (r : BInt × BRat × BRat) (ao1001 : Option Addr) (cap1002 : Nat) (ao1004 : Option Addr) (cap1005 : Nat) (ao1007 : Option Addr) (cap1008 : Nat) (ao1010 : Option Addr) (cap1011 : Nat) (ao1013 : Option Addr) (cap1014 : Nat) (Z' : Fz), e = .returned (pt b1 0) ∧ K r ∧ Fz.le Z Z' ∧ SlR (tyInt .u32) Z' ao1001 cap1002 r.1.abs ∧ SlR (tyInt .u32) Z' ao1004 cap1005 r.2.1.a.abs ∧ SlR (tyInt .u32) Z' ao1007 cap1008 r.2.1.b.abs ∧ SlR (tyInt .u32) Z' ao1010 cap1011 r.2.2.a.abs ∧ SlR (tyInt .u32) Z' ao1013 cap1014 r.2.2.b.abs ∧ Mem B [] w0 Z0 ((.row b1 [.bool r.1.neg, .slice ao1001 r.1.abs.length cap1002] 73) :: (.row b5 [.bool r.2.1.a.neg, .slice ao1004 r.2.1.a.abs.length cap1005, .bool r.2.1.b.neg, .slice ao1007 r.2.1.b.abs.length cap1008] 75) :: (.row b12 [.bool r.2.2.a.neg, .slice ao1010 r.2.2.a.abs.length cap1011, .bool r.2.2.b.neg, .slice ao1013 r.2.2.b.abs.length cap1014] 75) :: Rr) Z' w' := by
 refine enter0 Tryz.func75 rfl rfl (by kernel_rfl) ?_; intro V k; have g := Fz.le.refl Z
 have I := hp (hs4.small) (hs8.small) (hs11.small) (hs15.small) (hs18.small)
 refine sqB k hM0 [] [] [] ?_; intro J p
 have q : Fr 27 [] [⟨0, [], pt b1 0⟩, ⟨1, [], pt b5 0⟩, ⟨2, [], pt b12 0⟩] J := p.reg
 refine wp_seq (rgS mixed hM0 [(0, true), (1, true), (2, true), (3, true), (4, true), (5, true), (6, true), (7, true), (8, true), (9, true), (10, true), (11, true), (12, true), (13, true), (14, true), (15, true), (16, true), (17, true), (18, false), (19, false), (20, true)] [] [1, 2] [.row b5 (e75Nd u1 ao6 cap7 ao9 cap10) 75, .row b12 (e75Nd u2 ao13 cap14 ao16 cap17) 75] ?_)
 intro L s W i
 have f := Fz.le.refl Z
 refine cS q 18 [0, 1, 0, 1] [] [(7, pt b1 0), (16, .bool (u1.a.neg != u2.a.neg)), (20, .slice ao6 u1.a.abs.length cap7), (24, .slice ao13 u2.a.abs.length cap14)] ?_; intro X t
 refine eS rfl ?_; intro M u
 obtain ⟨N, O⟩ := I
 refine ck t 103 #[.slice ao6 u1.a.abs.length cap7, .slice ao13 u2.a.abs.length cap14] ?_
 refine (gmul_fun u1.a.abs u2.a.abs N ao6 cap7 ao13 cap14 _ _ hs8 hs15 i.fz).mono ?_; rintro _ P ⟨v, x, Q, rfl, j, hm⟩; refine ⟨_, rfl, ?_⟩; intro Y y; have z := i.callZ hm; have d := hm.ext.le
 replace hs4 := hs4.mono d
 replace hs8 := hs8.mono d
 replace hs11 := hs11.mono d
 replace hs15 := hs15.mono d
 replace hs18 := hs18.mono d
 replace f := f.mono d
 replace g := Fz.le.trans g d
 have h : Mem B [] w0 Z0 ((.row b1 [.bool u0.neg, .slice ao2 u0.abs.length cap3] 73) :: (.row b5 (e75Nd u1 ao6 cap7 ao9 cap10) 75) :: (.row b12 (e75Nd u2 ao13 cap14 ao16 cap17) 75) :: Rr) Q P := z
 refine nl (qnI (u _ _ (h.cst f [1, 2]) ?_))
 refine eS rfl ?_; intro R A
 refine ck y 78 #[pt b1 0, .bool (u1.a.neg != u2.a.neg), .slice v (gmulS u1.a.abs u2.a.abs).length x] ?_
 refine (ggive_fun u0 (u1.a.neg != u2.a.neg) (gmulS u1.a.abs u2.a.abs) b1 ao2 cap3 v x _ _ _ _ _ _ hs4 j h h.fz).mono ?_; rintro _ S ⟨C, D, E, rfl, c, T, hm⟩; refine ⟨_, rfl, ?_⟩; intro aa F; have G := hm
 replace hs8 := hs8.mono c
 replace hs11 := hs11.mono c
 replace hs15 := hs15.mono c
 replace hs18 := hs18.mono c
 replace f := f.mono c
 replace g := Fz.le.trans g c
 have H : Mem B [] w0 Z0 ((.row b1 [.bool (ggive u0 (u1.a.neg != u2.a.neg) (gmulS u1.a.abs u2.a.abs)).neg, .slice C (ggive u0 (u1.a.neg != u2.a.neg) (gmulS u1.a.abs u2.a.abs)).abs.length D] 73) :: (.row b5 (e75Nd u1 ao6 cap7 ao9 cap10) 75) :: (.row b12 (e75Nd u2 ao13 cap14 ao16 cap17) 75) :: Rr) E S := G
 refine nl (qnI (A _ _ (H.cst f [1, 2]) ?_))
 refine cS F 1 [] [] [(6, pt b1 0)] ?_; intro ab U
 refine nS (s _ _ ?_)
 exact t_ (r_ (ra1 U (pt b1 0) ⟨((ggive u0 (u1.a.neg != u2.a.neg) (gmulS u1.a.abs u2.a.abs)), u1, u2), C, D, ao6, cap7, ao9, cap10, ao13, cap14, ao16, cap17, E, rfl, O, g, T, hs8, hs11, hs15, hs18, H.kp⟩))
theorem gmulBB_walk (u0 : BInt) (u1 : BRat) (u2 : BRat) (b1 : Nat) (ao2 : Option Addr) (cap3 : Nat) (b5 : Nat) (ao6 : Option Addr) (cap7 : Nat) (ao9 : Option Addr) (cap10 : Nat) (b12 : Nat) (ao13 : Option Addr) (cap14 : Nat) (ao16 : Option Addr) (cap17 : Nat) (B : Nat) (w0 : World) (Z0 : Fz) (Rr : List Res) (Z : Fz) (w : World) (hs4 : SlR (tyInt .u32) Z ao2 cap3 u0.abs) (hs8 : SlR (tyInt .u32) Z ao6 cap7 u1.a.abs) (hs11 : SlR (tyInt .u32) Z ao9 cap10 u1.b.abs) (hs15 : SlR (tyInt .u32) Z ao13 cap14 u2.a.abs) (hs18 : SlR (tyInt .u32) Z ao16 cap17 u2.b.abs) (hM0 : Mem B [] w0 Z0 ((.row b1 [.bool u0.neg, .slice ao2 u0.abs.length cap3] 73) :: (.row b5 [.bool u1.a.neg, .slice ao6 u1.a.abs.length cap7, .bool u1.b.neg, .slice ao9 u1.b.abs.length cap10] 75) :: (.row b12 [.bool u2.a.neg, .slice ao13 u2.a.abs.length cap14, .bool u2.b.neg, .slice ao16 u2.b.abs.length cap17] 75) :: Rr) Z w) (hZ : Z.on w) {K : (BInt × BRat × BRat) → Prop} (hp : gmulBB_vc u0 u1 u2 K) : Calls Tryz.prog 75 #[pt b1 0, pt b5 2, pt b12 2] w fun e w' => ∃ (r : BInt × BRat × BRat) (ao1001 : Option Addr) (cap1002 : Nat) (ao1004 : Option Addr) (cap1005 : Nat) (ao1007 : Option Addr) (cap1008 : Nat) (ao1010 : Option Addr) (cap1011 : Nat) (ao1013 : Option Addr) (cap1014 : Nat) (Z' : Fz), e = .returned (pt b1 0) ∧ K r ∧ Fz.le Z Z' ∧ SlR (tyInt .u32) Z' ao1001 cap1002 r.1.abs ∧ SlR (tyInt .u32) Z' ao1004 cap1005 r.2.1.a.abs ∧ SlR (tyInt .u32) Z' ao1007 cap1008 r.2.1.b.abs ∧ SlR (tyInt .u32) Z' ao1010 cap1011 r.2.2.a.abs ∧ SlR (tyInt .u32) Z' ao1013 cap1014 r.2.2.b.abs ∧ Mem B [] w0 Z0 ((.row b1 [.bool r.1.neg, .slice ao1001 r.1.abs.length cap1002] 73) :: (.row b5 [.bool r.2.1.a.neg, .slice ao1004 r.2.1.a.abs.length cap1005, .bool r.2.1.b.neg, .slice ao1007 r.2.1.b.abs.length cap1008] 75) :: (.row b12 [.bool r.2.2.a.neg, .slice ao1010 r.2.2.a.abs.length cap1011, .bool r.2.2.b.neg, .slice ao1013 r.2.2.b.abs.length cap1014] 75) :: Rr) Z' w' := by
 refine enter0 Tryz.func75 rfl rfl (by kernel_rfl) ?_; intro V k; have g := Fz.le.refl Z
 have I := hp (hs4.small) (hs8.small) (hs11.small) (hs15.small) (hs18.small)
 refine sqB k hM0 [] [] [] ?_; intro J p
 have q : Fr 27 [] [⟨0, [], pt b1 0⟩, ⟨1, [], pt b5 2⟩, ⟨2, [], pt b12 2⟩] J := p.reg
 refine wp_seq (rgS mixed hM0 [(0, true), (1, true), (2, true), (3, true), (4, true), (5, true), (6, true), (7, true), (8, true), (9, true), (10, true), (11, true), (12, true), (13, true), (14, true), (15, true), (16, true), (17, true), (18, false), (19, false), (20, true)] [] [1, 2] [.row b5 (e75Nd u1 ao6 cap7 ao9 cap10) 75, .row b12 (e75Nd u2 ao13 cap14 ao16 cap17) 75] ?_)
 intro L s W i
 have f := Fz.le.refl Z
 refine cS q 18 [0, 1, 0, 1] [] [(7, pt b1 0), (16, .bool (u1.b.neg != u2.b.neg)), (20, .slice ao9 u1.b.abs.length cap10), (24, .slice ao16 u2.b.abs.length cap17)] ?_; intro X t
 refine eS rfl ?_; intro M u
 obtain ⟨N, O⟩ := I
 refine ck t 103 #[.slice ao9 u1.b.abs.length cap10, .slice ao16 u2.b.abs.length cap17] ?_
 refine (gmul_fun u1.b.abs u2.b.abs N ao9 cap10 ao16 cap17 _ _ hs11 hs18 i.fz).mono ?_; rintro _ P ⟨v, x, Q, rfl, j, hm⟩; refine ⟨_, rfl, ?_⟩; intro Y y; have z := i.callZ hm; have d := hm.ext.le
 replace hs4 := hs4.mono d
 replace hs8 := hs8.mono d
 replace hs11 := hs11.mono d
 replace hs15 := hs15.mono d
 replace hs18 := hs18.mono d
 replace f := f.mono d
 replace g := Fz.le.trans g d
 have h : Mem B [] w0 Z0 ((.row b1 [.bool u0.neg, .slice ao2 u0.abs.length cap3] 73) :: (.row b5 (e75Nd u1 ao6 cap7 ao9 cap10) 75) :: (.row b12 (e75Nd u2 ao13 cap14 ao16 cap17) 75) :: Rr) Q P := z
 refine nl (qnI (u _ _ (h.cst f [1, 2]) ?_))
 refine eS rfl ?_; intro R A
 refine ck y 78 #[pt b1 0, .bool (u1.b.neg != u2.b.neg), .slice v (gmulS u1.b.abs u2.b.abs).length x] ?_
 refine (ggive_fun u0 (u1.b.neg != u2.b.neg) (gmulS u1.b.abs u2.b.abs) b1 ao2 cap3 v x _ _ _ _ _ _ hs4 j h h.fz).mono ?_; rintro _ S ⟨C, D, E, rfl, c, T, hm⟩; refine ⟨_, rfl, ?_⟩; intro aa F; have G := hm
 replace hs8 := hs8.mono c
 replace hs11 := hs11.mono c
 replace hs15 := hs15.mono c
 replace hs18 := hs18.mono c
 replace f := f.mono c
 replace g := Fz.le.trans g c
 have H : Mem B [] w0 Z0 ((.row b1 [.bool (ggive u0 (u1.b.neg != u2.b.neg) (gmulS u1.b.abs u2.b.abs)).neg, .slice C (ggive u0 (u1.b.neg != u2.b.neg) (gmulS u1.b.abs u2.b.abs)).abs.length D] 73) :: (.row b5 (e75Nd u1 ao6 cap7 ao9 cap10) 75) :: (.row b12 (e75Nd u2 ao13 cap14 ao16 cap17) 75) :: Rr) E S := G
 refine nl (qnI (A _ _ (H.cst f [1, 2]) ?_))
 refine cS F 1 [] [] [(6, pt b1 0)] ?_; intro ab U
 refine nS (s _ _ ?_)
 exact t_ (r_ (ra1 U (pt b1 0) ⟨((ggive u0 (u1.b.neg != u2.b.neg) (gmulS u1.b.abs u2.b.abs)), u1, u2), C, D, ao6, cap7, ao9, cap10, ao13, cap14, ao16, cap17, E, rfl, O, g, T, hs8, hs11, hs15, hs18, H.kp⟩))
theorem gaddI_walk (u0 : BInt) (u1 : BInt) (u2 : BInt) (b1 : Nat) (ao2 : Option Addr) (cap3 : Nat) (b5 : Nat) (ao6 : Option Addr) (cap7 : Nat) (b9 : Nat) (ao10 : Option Addr) (cap11 : Nat) (B : Nat) (w0 : World) (Z0 : Fz) (Rr : List Res) (Z : Fz) (w : World) (hs4 : SlR (tyInt .u32) Z ao2 cap3 u0.abs) (hs8 : SlR (tyInt .u32) Z ao6 cap7 u1.abs) (hs12 : SlR (tyInt .u32) Z ao10 cap11 u2.abs) (hM0 : Mem B [] w0 Z0 ((.row b1 [.bool u0.neg, .slice ao2 u0.abs.length cap3] 73) :: (.row b5 [.bool u1.neg, .slice ao6 u1.abs.length cap7] 73) :: (.row b9 [.bool u2.neg, .slice ao10 u2.abs.length cap11] 73) :: Rr) Z w) (hZ : Z.on w) {K : (BInt × BInt × BInt) → Prop} (hp : gaddI_vc u0 u1 u2 K) : Calls Tryz.prog 99 #[pt b1 0, pt b5 0, pt b9 0] w fun e w' => ∃ (r : BInt × BInt × BInt) (ao1001 : Option Addr) (cap1002 : Nat) (ao1004 : Option Addr) (cap1005 : Nat) (ao1007 : Option Addr) (cap1008 : Nat) (Z' : Fz), e = .returned (pt b1 0) ∧ K r ∧ Fz.le Z Z' ∧ SlR (tyInt .u32) Z' ao1001 cap1002 r.1.abs ∧ SlR (tyInt .u32) Z' ao1004 cap1005 r.2.1.abs ∧ SlR (tyInt .u32) Z' ao1007 cap1008 r.2.2.abs ∧ Mem B [] w0 Z0 ((.row b1 [.bool r.1.neg, .slice ao1001 r.1.abs.length cap1002] 73) :: (.row b5 [.bool r.2.1.neg, .slice ao1004 r.2.1.abs.length cap1005] 73) :: (.row b9 [.bool r.2.2.neg, .slice ao1007 r.2.2.abs.length cap1008] 73) :: Rr) Z' w' := by
 refine enter0 Tryz.func99 rfl rfl (by kernel_rfl) ?_; intro S k; have c := Fz.le.refl Z
 have F := hp (hs4.small) (hs8.small) (hs12.small)
 refine sqB k hM0 [] [] [] ?_; intro G n
 have o : Fr 28 [] [⟨0, [], pt b1 0⟩, ⟨1, [], pt b5 0⟩, ⟨2, [], pt b9 0⟩] G := n.reg
 refine wp_seq (rgS mixed hM0 [(0, true), (1, true), (2, true), (3, true), (4, true), (5, true), (6, true), (7, true), (8, true), (9, true), (10, true), (11, true), (12, true), (13, true), (14, true), (15, true), (16, true), (17, false), (18, true), (19, true), (20, false), (21, true)] [] [1, 2] [.row b5 [.bool u1.neg, .slice ao6 u1.abs.length cap7] 73, .row b9 [.bool u2.neg, .slice ao10 u2.abs.length cap11] 73] ?_)
 intro H p T g
 have a := Fz.le.refl Z
 refine cS o 17 [0, 0, 1, 1] [] [(7, pt b1 0), (11, .bool u1.neg), (15, .slice ao6 u1.abs.length cap7), (19, .bool u2.neg), (23, .slice ao10 u2.abs.length cap11)] ?_; intro U q
 refine eS rfl ?_; intro I s
 obtain ⟨J, L⟩ := F
 refine ck q 102 #[.bool u1.neg, .slice ao6 u1.abs.length cap7, .bool u2.neg, .slice ao10 u2.abs.length cap11] ?_
 refine (gsum_fun u1.neg u1.abs u2.neg u2.abs J ao6 cap7 ao10 cap11 _ _ hs8 hs12 g.fz).mono ?_; rintro _ M ⟨h, i, N, rfl, j, hm⟩; refine ⟨_, rfl, ?_⟩; intro V t; have u := g.callZ hm; have d := hm.ext.le
 replace hs4 := hs4.mono d
 replace hs8 := hs8.mono d
 replace hs12 := hs12.mono d
 replace a := a.mono d
 replace c := Fz.le.trans c d
 have f : Mem B [] w0 Z0 ((.row b1 [.bool u0.neg, .slice ao2 u0.abs.length cap3] 73) :: (.row b5 [.bool u1.neg, .slice ao6 u1.abs.length cap7] 73) :: (.row b9 [.bool u2.neg, .slice ao10 u2.abs.length cap11] 73) :: Rr) N M := u
 refine nl (qnI (s _ _ (f.cst a [1, 2]) ?_))
 refine cS t 2 [] [] [(25, .bool (gsumS u1.neg u1.abs u2.neg u2.abs).1), (26, .slice h (gsumS u1.neg u1.abs u2.neg u2.abs).2.length i)] ?_; intro W v
 refine eS rfl ?_; intro O x
 refine ck v 78 #[pt b1 0, .bool (gsumS u1.neg u1.abs u2.neg u2.abs).1, .slice h (gsumS u1.neg u1.abs u2.neg u2.abs).2.length i] ?_
 refine (ggive_fun u0 (gsumS u1.neg u1.abs u2.neg u2.abs).1 (gsumS u1.neg u1.abs u2.neg u2.abs).2 b1 ao2 cap3 h i _ _ _ _ _ _ hs4 j f f.fz).mono ?_; rintro _ P ⟨y, z, A, rfl, b, Q, hm⟩; refine ⟨_, rfl, ?_⟩; intro X C; have D := hm
 replace hs8 := hs8.mono b
 replace hs12 := hs12.mono b
 replace a := a.mono b
 replace c := Fz.le.trans c b
 have E : Mem B [] w0 Z0 ((.row b1 [.bool (ggive u0 (gsumS u1.neg u1.abs u2.neg u2.abs).1 (gsumS u1.neg u1.abs u2.neg u2.abs).2).neg, .slice y (ggive u0 (gsumS u1.neg u1.abs u2.neg u2.abs).1 (gsumS u1.neg u1.abs u2.neg u2.abs).2).abs.length z] 73) :: (.row b5 [.bool u1.neg, .slice ao6 u1.abs.length cap7] 73) :: (.row b9 [.bool u2.neg, .slice ao10 u2.abs.length cap11] 73) :: Rr) A P := D
 refine nl (qnI (x _ _ (E.cst a [1, 2]) ?_))
 refine cS C 1 [] [] [(6, pt b1 0)] ?_; intro Y R
 refine nS (p _ _ ?_)
 exact t_ (r_ (ra1 R (pt b1 0) ⟨((ggive u0 (gsumS u1.neg u1.abs u2.neg u2.abs).1 (gsumS u1.neg u1.abs u2.neg u2.abs).2), u1, u2), y, z, ao6, cap7, ao10, cap11, A, rfl, L, c, Q, hs8, hs12, E.kp⟩))
theorem rnorm_walk (u0 : BRat) (b1 : Nat) (ao2 : Option Addr) (cap3 : Nat) (ao5 : Option Addr) (cap6 : Nat) (B : Nat) (w0 : World) (Z0 : Fz) (Rr : List Res) (Z : Fz) (w : World) (hs4 : SlR (tyInt .u32) Z ao2 cap3 u0.a.abs) (hs7 : SlR (tyInt .u32) Z ao5 cap6 u0.b.abs) (hM0 : Mem B [] w0 Z0 ((.row b1 [.bool u0.a.neg, .slice ao2 u0.a.abs.length cap3, .bool u0.b.neg, .slice ao5 u0.b.abs.length cap6] 75) :: Rr) Z w) (hZ : Z.on w) {K : BRat → Prop} (hp : rnorm_vc u0 K) : Calls Tryz.prog 101 #[pt b1 0] w fun e w' => ∃ (r : BRat) (ao1001 : Option Addr) (cap1002 : Nat) (ao1004 : Option Addr) (cap1005 : Nat) (Z' : Fz), e = .returned (pt b1 0) ∧ K r ∧ Fz.le Z Z' ∧ SlR (tyInt .u32) Z' ao1001 cap1002 r.a.abs ∧ SlR (tyInt .u32) Z' ao1004 cap1005 r.b.abs ∧ Mem B [] w0 Z0 ((.row b1 [.bool r.a.neg, .slice ao1001 r.a.abs.length cap1002, .bool r.b.neg, .slice ao1004 r.b.abs.length cap1005] 75) :: Rr) Z' w' := by
 refine enter0 Tryz.func101 rfl rfl (by kernel_rfl) ?_; intro a0 b3; have j := Fz.le.refl Z
 have eO := hp (hs4.small) (hs7.small)
 refine sqB b3 hM0 [] [] [] ?_; intro gW b5
 refine s_ (sqB b5 hM0 [0] [] [(14, .bool ((u0.b.abs.length : Int) == 0))] ?_); intro gX bi
 obtain ⟨eP, eQ⟩ := eO
 refine cn bi eP ?_
 refine k_ (s_ (sqB bi hM0 [0] [] [(23, .bool u0.b.neg)] ?_)); intro bj b6
 have b7 : Fr 120 [] [⟨0, [], pt b1 0⟩, ⟨23, [], .bool u0.b.neg⟩] bj := b6.reg
 obtain ⟨eR, aK, eT⟩ := eQ
 refine wp_then_k fun KJ47 hKJ48 => ?_
 have b8 : ∀ (f : BRat) (l : Option Addr) (m : Nat) (h : Option Addr) (i : Nat) (O : Fz), eR f ∧ SlR (tyInt .u32) O l m f.a.abs ∧ SlR (tyInt .u32) O h i f.b.abs ∧ Fz.le Z O → ∀ a1 w1, Fr 120 [] [⟨0, [], pt b1 0⟩] a1 → Mem B [] w0 Z0 ((.row b1 (e75Nd f l m h i) 75) :: Rr) O w1 → KJ47 a1 w1 := by
  rintro f l m h i O ⟨eU, o, n, p⟩ gY gZ b9 u
  refine hKJ48 _ _ ?_
  have aL := eT f eU
  replace j := Fz.le.trans j p
  refine s_ (sqB b9 u [0] [] [(44, .bool ((f.a.abs.length : Int) == 0))] ?_); intro g0 aj
  refine c_ aj aL (fun _ eV => ?_) fun _ aN => ?_
  ·
   refine sqH ?_; intro eW ca
   refine bt aj u 3 [] [] [(47, pt b1 2)] ?_; intro g1 cb
   refine ck cb 77 #[pt b1 2, i6 1] ?_
   refine enter0 Tryz.func77 rfl rfl (by kernel_rfl) ?_; intro g2 cc
   refine sqB cc u [] [] [] ?_; intro eX ce
   have cf : Fr 18 [] [⟨0, [], pt b1 2⟩, ⟨1, [], i6 1⟩] eX := ce.reg
   refine sqB cf u [] [] [(5, y6 1)] ?_; intro g3 cg
   refine s_ (sqB cg u [] [] [(9, .bool false)] ?_); intro g4 bl
   refine cdF bl (by kernel_rfl) ?_
   refine k_ (sqH ?_); intro eY ch
   refine bt bl u 4 [] [] [(12, pt b1 2), (14, .bool false), (15, y6 1)] ?_; intro g5 ci
   obtain ⟨eZ, cj⟩ := eV
   refine ck ci 104 #[y6 1] ?_
   refine (gwords_fun 1 eZ _ _ u.fz).mono ?_; rintro _ e0 ⟨cl, cm, e1, rfl, aM, hm⟩; refine ⟨_, rfl, ?_⟩; intro g6 co; have cp := u.callZ hm; have ag := hm.ext.le
   replace o := o.mono ag
   replace n := n.mono ag
   replace j := Fz.le.trans j ag
   have bm : Mem B [] w0 Z0 ((.row b1 (e75Nd f l m h i) 75) :: Rr) e1 e0 := cp
   have cq := cj (aM.small)
   refine ck co 78 #[pt b1 2, .bool false, .slice cl (gwordsS 1).length cm] ?_
   obtain ⟨L, e2, cr⟩ := hxq cq
   have h9 := ggiveB_fun f false (gwordsS 1) b1 l m h i cl cm _ _ _ _ _ _ o n aM bm bm.fz; rw [e2] at h9; refine h9.mono ?_; rintro _ cs ⟨bn, bo, bp, bq, br, rfl, S, ct, cu, hm⟩; refine ⟨_, rfl, ?_⟩; intro g7 cv; have cw := hm
   replace j := Fz.le.trans j S
   have cx : Mem B [] w0 Z0 ((.row b1 (e75Nd L bn bo bp bq) 75) :: Rr) br cs := cw
   have e3 := cr (ct.small) (cu.small)
   refine s1 cv 4 (pt b1 2) ?_; intro g8 cz
   apply ch
   refine r_ (ra1 cz (pt b1 2) ?_)
   refine ⟨_, rfl, ?_⟩; intro g9 cA
   have cB : Mem B [] w0 Z0 ((.row b1 (e75Nd L bn bo bp bq) 75) :: Rr) br cs := cx
   apply ca
   refine sqB cA cB [] [] [(2, pt b1 0)] ?_; intro ha e4
   exact r_ (h_ (ra1 e4 (pt b1 0) ⟨L, bn, bo, bp, bq, br, rfl, e3, j, ct, cu, cB.kp⟩))
  refine k_ (s_ (sqH ?_)); intro cC aO
  refine bt aj u 8 [0] [] [(57, .bool ((f.b.abs.length : Int) == 1))] ?_; intro hb aP
  refine e_ aN (fun ak e5 => ?_) fun ak fW => ?_
  ·
   have cD := aP.reval (d := 57) (c := []) (v := .bool ((f.b.abs.length : Int) == 1)) (by kernel_rfl) (.bool true) (by rw [ak])
   refine bt cD u 5 [0] [58, 59, 60, 61, 62] [(62, .slice h f.b.abs.length i)] ?_; intro hc bs
   obtain ⟨e6, cE⟩ := e5
   refine ix bs (T := (tyInt .u32)) (xs := f.b.abs) n (0 : Int) e6 (k := .i64) (e := 105) (bytes := 4) (wK bs true) rfl (by kernel_rfl) rfl (by kernel_rfl) (by kernel_rfl) (by kernel_rfl) ?_; intro hd he e7 al hf e8 G e9 aQ
   have aR := cE al e8
   obtain rfl : e7 = ([.int .u32 al] : List Value) := e9
   refine v_ aQ (.int .u32 al) (wK aQ true) (lz aQ u.fz G 0 (g := []) rfl (by kernel_rfl) (by kernel_rfl) (by kernel_rfl) rfl) ?_; intro hg cF
   refine bt cF u 2 [] [65, 66] [(66, .bool (al == 1))] ?_; intro fa am
   apply aO
   refine c_ am aR (fun _ fb => ?_) fun _ fd => ?_
   ·
    refine sqB am u [] [] [(2, pt b1 0)] ?_; intro hh fc
    exact r_ (h_ (ra1 fc (pt b1 0) ⟨f, l, m, h, i, O, rfl, fb, j, o, n, u.kp⟩))
   apply k_
   have cG : Fr 120 [] [⟨0, [], pt b1 0⟩] fa := am.reg
   refine wp_seq (rgS mixed u [(0, true), (1, true), (2, true), (3, true), (4, true), (5, true), (6, true), (7, true), (8, true), (9, true), (10, false), (11, true)] [] [0] [.row b1 (e75Nd f l m h i) 75] ?_)
   intro fe cH hi bv
   have bw := Fz.le.refl O
   refine cS cG 10 [0, 0] [] [(72, .slice l f.a.abs.length m), (77, .slice h f.b.abs.length i)] ?_; intro hj cI
   refine eS rfl ?_; intro ff cJ
   obtain ⟨fg, aS⟩ := fd
   refine ck cI 113 #[.slice l f.a.abs.length m, .slice h f.b.abs.length i] ?_
   refine (gcom_fun f.a.abs f.b.abs fg l m h i _ _ o n bv.fz).mono ?_; rintro _ fh ⟨z, A, cK, rfl, E, hm⟩; refine ⟨_, rfl, ?_⟩; intro hk cL; have cM := bv.callZ hm; have P := hm.ext.le
   replace o := o.mono P
   replace n := n.mono P
   replace bw := bw.mono P
   replace j := Fz.le.trans j P
   have x : Mem B [] w0 Z0 ((.row b1 (e75Nd f l m h i) 75) :: Rr) cK fh := cM
   refine nl (qnI (cJ _ _ (x.cst bw [0]) ?_))
   refine cS cL 1 [] [] [(3, .slice z (gcomS f.a.abs f.b.abs).length A)] ?_; intro hl cN
   refine nS (cH _ _ ?_)
   refine t_ (s_ (sqH ?_)); intro cO aT
   refine bt cN x 4 [] [] [(82, .bool (((gcomS f.a.abs f.b.abs).length : Int) == 1))] ?_; intro hn aU
   refine e_ aS (fun an fi => ?_) fun an fG => ?_
   ·
    have aV := aU.reval (d := 82) (c := []) (v := .bool (((gcomS f.a.abs f.b.abs).length : Int) == 1)) (by kernel_rfl) (.bool true) (by rw [an])
    refine g_ aV true (.slice z (gcomS f.a.abs f.b.abs).length A) ?_; intro ho bx
    obtain ⟨fj, cP⟩ := fi
    refine ix bx (T := (tyInt .u32)) (xs := (gcomS f.a.abs f.b.abs)) E (0 : Int) fj (k := .i64) (e := 105) (bytes := 4) (wK bx true) rfl (by kernel_rfl) rfl (by kernel_rfl) (by kernel_rfl) (by kernel_rfl) ?_; intro hq hr fk ao hs fl ap fm aW
    have aX := cP ao fl
    obtain rfl : fk = ([.int .u32 ao] : List Value) := fm
    refine v_ aW (.int .u32 ao) (wK aW true) (lz aW x.fz ap 0 (g := []) rfl (by kernel_rfl) (by kernel_rfl) (by kernel_rfl) rfl) ?_; intro ht cQ
    refine bt cQ x 2 [] [86, 87] [(87, .bool (ao == 1))] ?_; intro hu aq
    apply aT
    refine c_ aq aX (fun _ fn => ?_) fun _ fp => ?_
    ·
     refine sqB aq x [] [] [(2, pt b1 0)] ?_; intro hv fo
     exact r_ (h_ (ra1 fo (pt b1 0) ⟨f, l, m, h, i, cK, rfl, fn, j, o, n, x.kp⟩))
    refine k_ (sqH ?_); intro fq cR
    refine bt aq x 6 [0] [] [(94, .slice l f.a.abs.length m), (95, .slice z (gcomS f.a.abs f.b.abs).length A)] ?_; intro hw cT
    obtain ⟨fr, cU⟩ := fp
    refine ck cT 114 #[.slice l f.a.abs.length m, .slice z (gcomS f.a.abs f.b.abs).length A] ?_
    refine (gdiv_fun f.a.abs (gcomS f.a.abs f.b.abs) fr l m z A _ _ o E x.fz).mono ?_; rintro _ fs ⟨U, V, hx, hy, ft, rfl, aY, bA, hm⟩; refine ⟨_, rfl, ?_⟩; intro hz cV; have cW := x.callZ hm; have M := hm.ext.le
    replace n := n.mono M
    replace E := E.mono M
    replace j := Fz.le.trans j M
    have ar : Mem B [] w0 Z0 ((.row b1 (e75Nd f l m h i) 75) :: Rr) ft fs := cW
    have fu := cU (aY.small) (bA.small)
    refine bt cV ar 5 [] [] [(4, .slice U (gdivS f.a.abs (gcomS f.a.abs f.b.abs)).1.length V)] ?_; intro hA cY
    apply cR
    refine sqH ?_; intro fv cZ
    refine bt cY ar 6 [0] [] [(104, .slice h f.b.abs.length i), (105, .slice z (gcomS f.a.abs f.b.abs).length A)] ?_; intro hB c0
    obtain ⟨fw, c1⟩ := fu
    refine ck c0 114 #[.slice h f.b.abs.length i, .slice z (gcomS f.a.abs f.b.abs).length A] ?_
    refine (gdiv_fun f.b.abs (gcomS f.a.abs f.b.abs) fw h i z A _ _ n E ar.fz).mono ?_; rintro _ fx ⟨au, av, hC, hD, aZ, rfl, c2, fy, hm⟩; refine ⟨_, rfl, ?_⟩; intro hE c3; have c4 := ar.callZ hm; have H := hm.ext.le
    replace aY := aY.mono H
    replace j := Fz.le.trans j H
    have a2 : Mem B [] w0 Z0 ((.row b1 (e75Nd f l m h i) 75) :: Rr) aZ fx := c4
    have fA := c1 (c2.small) (fy.small)
    refine bt c3 a2 5 [] [] [(6, .slice au (gdivS f.b.abs (gcomS f.a.abs f.b.abs)).1.length av)] ?_; intro hF c6
    apply cZ
    refine sqH ?_; intro fB c7
    refine bt c6 a2 5 [] [] [(110, .slice U (gdivS f.a.abs (gcomS f.a.abs f.b.abs)).1.length V), (113, pt b1 1)] ?_; intro hG bB
    refine sx bB a2 0 [.bool f.a.neg, .slice U (gdivS f.a.abs (gcomS f.a.abs f.b.abs)).1.length V, .bool f.b.neg, .slice h f.b.abs.length i] 1 ?_; intro fC c8
    have bC : Mem B [] w0 Z0 ((.row b1 [.bool f.a.neg, .slice U (gdivS f.a.abs (gcomS f.a.abs f.b.abs)).1.length V, .bool f.b.neg, .slice h f.b.abs.length i] 75) :: Rr) aZ fC := c8
    apply c7
    refine sqH ?_; intro fD c9
    refine bt bB bC 5 [] [] [(115, .slice au (gdivS f.b.abs (gcomS f.a.abs f.b.abs)).1.length av), (118, pt b1 3)] ?_; intro hH bD
    refine sx bD bC 0 [.bool f.a.neg, .slice U (gdivS f.a.abs (gcomS f.a.abs f.b.abs)).1.length V, .bool f.b.neg, .slice au (gdivS f.b.abs (gcomS f.a.abs f.b.abs)).1.length av] 3 ?_; intro fE da
    have db : Mem B [] w0 Z0 ((.row b1 [.bool f.a.neg, .slice U (gdivS f.a.abs (gcomS f.a.abs f.b.abs)).1.length V, .bool f.b.neg, .slice au (gdivS f.b.abs (gcomS f.a.abs f.b.abs)).1.length av] 75) :: Rr) aZ fE := da
    apply c9
    refine sqB bD db [] [] [(2, pt b1 0)] ?_; intro hI fF
    exact r_ (ra1 fF (pt b1 0) ⟨(⟨(⟨f.a.neg, (gdivS f.a.abs (gcomS f.a.abs f.b.abs)).1⟩ : BInt), (⟨f.b.neg, (gdivS f.b.abs (gcomS f.a.abs f.b.abs)).1⟩ : BInt)⟩ : BRat), U, V, au, av, aZ, rfl, fA, j, aY, c2, db.kp⟩)
   have dc := aU.reval (d := 82) (c := []) (v := .bool (((gcomS f.a.abs f.b.abs).length : Int) == 1)) (by kernel_rfl) (.bool false) (by rw [an])
   refine bt dc x 5 [] [83, 84, 85, 86, 87] [(87, .bool false)] ?_; intro hJ bE
   apply aT
   refine cdF bE (by kernel_rfl) ?_
   refine k_ (sqH ?_); intro fH dd
   refine bt bE x 6 [0] [] [(94, .slice l f.a.abs.length m), (95, .slice z (gcomS f.a.abs f.b.abs).length A)] ?_; intro hK de
   obtain ⟨fI, df⟩ := fG
   refine ck de 114 #[.slice l f.a.abs.length m, .slice z (gcomS f.a.abs f.b.abs).length A] ?_
   refine (gdiv_fun f.a.abs (gcomS f.a.abs f.b.abs) fI l m z A _ _ o E x.fz).mono ?_; rintro _ fJ ⟨W, X, hL, hM, fK, rfl, a3, bF, hm⟩; refine ⟨_, rfl, ?_⟩; intro hN dg; have dh := x.callZ hm; have Q := hm.ext.le
   replace n := n.mono Q
   replace E := E.mono Q
   replace j := Fz.le.trans j Q
   have aw : Mem B [] w0 Z0 ((.row b1 (e75Nd f l m h i) 75) :: Rr) fK fJ := dh
   have fL := df (a3.small) (bF.small)
   refine bt dg aw 5 [] [] [(4, .slice W (gdivS f.a.abs (gcomS f.a.abs f.b.abs)).1.length X)] ?_; intro hO dj
   apply dd
   refine sqH ?_; intro fM dk
   refine bt dj aw 6 [0] [] [(104, .slice h f.b.abs.length i), (105, .slice z (gcomS f.a.abs f.b.abs).length A)] ?_; intro hP dl
   obtain ⟨fN, dm⟩ := fL
   refine ck dl 114 #[.slice h f.b.abs.length i, .slice z (gcomS f.a.abs f.b.abs).length A] ?_
   refine (gdiv_fun f.b.abs (gcomS f.a.abs f.b.abs) fN h i z A _ _ n E aw.fz).mono ?_; rintro _ fO ⟨ax, ay, hQ, hR, a4, rfl, dn, fP, hm⟩; refine ⟨_, rfl, ?_⟩; intro hS dp; have dq := aw.callZ hm; have I := hm.ext.le
   replace a3 := a3.mono I
   replace j := Fz.le.trans j I
   have a5 : Mem B [] w0 Z0 ((.row b1 (e75Nd f l m h i) 75) :: Rr) a4 fO := dq
   have fQ := dm (dn.small) (fP.small)
   refine bt dp a5 5 [] [] [(6, .slice ax (gdivS f.b.abs (gcomS f.a.abs f.b.abs)).1.length ay)] ?_; intro hT ds
   apply dk
   refine sqH ?_; intro fR dt
   refine bt ds a5 5 [] [] [(110, .slice W (gdivS f.a.abs (gcomS f.a.abs f.b.abs)).1.length X), (113, pt b1 1)] ?_; intro hU bG
   refine sx bG a5 0 [.bool f.a.neg, .slice W (gdivS f.a.abs (gcomS f.a.abs f.b.abs)).1.length X, .bool f.b.neg, .slice h f.b.abs.length i] 1 ?_; intro fS du
   have bH : Mem B [] w0 Z0 ((.row b1 [.bool f.a.neg, .slice W (gdivS f.a.abs (gcomS f.a.abs f.b.abs)).1.length X, .bool f.b.neg, .slice h f.b.abs.length i] 75) :: Rr) a4 fS := du
   apply dt
   refine sqH ?_; intro fT dv
   refine bt bG bH 5 [] [] [(115, .slice ax (gdivS f.b.abs (gcomS f.a.abs f.b.abs)).1.length ay), (118, pt b1 3)] ?_; intro hV bI
   refine sx bI bH 0 [.bool f.a.neg, .slice W (gdivS f.a.abs (gcomS f.a.abs f.b.abs)).1.length X, .bool f.b.neg, .slice ax (gdivS f.b.abs (gcomS f.a.abs f.b.abs)).1.length ay] 3 ?_; intro fU dw
   have dx : Mem B [] w0 Z0 ((.row b1 [.bool f.a.neg, .slice W (gdivS f.a.abs (gcomS f.a.abs f.b.abs)).1.length X, .bool f.b.neg, .slice ax (gdivS f.b.abs (gcomS f.a.abs f.b.abs)).1.length ay] 75) :: Rr) a4 fU := dw
   apply dv
   refine sqB bI dx [] [] [(2, pt b1 0)] ?_; intro hW fV
   exact r_ (ra1 fV (pt b1 0) ⟨(⟨(⟨f.a.neg, (gdivS f.a.abs (gcomS f.a.abs f.b.abs)).1⟩ : BInt), (⟨f.b.neg, (gdivS f.b.abs (gcomS f.a.abs f.b.abs)).1⟩ : BInt)⟩ : BRat), W, X, ax, ay, a4, rfl, fQ, j, a3, dn, dx.kp⟩)
  have dy := aP.reval (d := 57) (c := []) (v := .bool ((f.b.abs.length : Int) == 1)) (by kernel_rfl) (.bool false) (by rw [ak])
  refine bt dy u 9 [] [58, 59, 60, 61, 62, 63, 64, 65, 66] [(66, .bool false)] ?_; intro fX bJ
  apply aO
  refine cdF bJ (by kernel_rfl) ?_
  apply k_
  have dz : Fr 120 [] [⟨0, [], pt b1 0⟩] fX := bJ.reg
  refine wp_seq (rgS mixed u [(0, true), (1, true), (2, true), (3, true), (4, true), (5, true), (6, true), (7, true), (8, true), (9, true), (10, false), (11, true)] [] [0] [.row b1 (e75Nd f l m h i) 75] ?_)
  intro fY dA hX bK
  have bL := Fz.le.refl O
  refine cS dz 10 [0, 0] [] [(72, .slice l f.a.abs.length m), (77, .slice h f.b.abs.length i)] ?_; intro hY dB
  refine eS rfl ?_; intro fZ dC
  obtain ⟨f0, a6⟩ := fW
  refine ck dB 113 #[.slice l f.a.abs.length m, .slice h f.b.abs.length i] ?_
  refine (gcom_fun f.a.abs f.b.abs f0 l m h i _ _ o n bK.fz).mono ?_; rintro _ f1 ⟨C, D, dD, rfl, F, hm⟩; refine ⟨_, rfl, ?_⟩; intro h0 dE; have dF := bK.callZ hm; have Y := hm.ext.le
  replace o := o.mono Y
  replace n := n.mono Y
  replace bL := bL.mono Y
  replace j := Fz.le.trans j Y
  have y : Mem B [] w0 Z0 ((.row b1 (e75Nd f l m h i) 75) :: Rr) dD f1 := dF
  refine nl (qnI (dC _ _ (y.cst bL [0]) ?_))
  refine cS dE 1 [] [] [(3, .slice C (gcomS f.a.abs f.b.abs).length D)] ?_; intro h1 dG
  refine nS (dA _ _ ?_)
  refine t_ (s_ (sqH ?_)); intro dH a7
  refine bt dG y 4 [] [] [(82, .bool (((gcomS f.a.abs f.b.abs).length : Int) == 1))] ?_; intro h2 a8
  refine e_ a6 (fun az f2 => ?_) fun az gp => ?_
  ·
   have a9 := a8.reval (d := 82) (c := []) (v := .bool (((gcomS f.a.abs f.b.abs).length : Int) == 1)) (by kernel_rfl) (.bool true) (by rw [az])
   refine g_ a9 true (.slice C (gcomS f.a.abs f.b.abs).length D) ?_; intro h3 bM
   obtain ⟨f3, dI⟩ := f2
   refine ix bM (T := (tyInt .u32)) (xs := (gcomS f.a.abs f.b.abs)) F (0 : Int) f3 (k := .i64) (e := 105) (bytes := 4) (wK bM true) rfl (by kernel_rfl) rfl (by kernel_rfl) (by kernel_rfl) (by kernel_rfl) ?_; intro h4 h5 f4 aA h6 f5 aB f6 ba
   have bb := dI aA f5
   obtain rfl : f4 = ([.int .u32 aA] : List Value) := f6
   refine v_ ba (.int .u32 aA) (wK ba true) (lz ba y.fz aB 0 (g := []) rfl (by kernel_rfl) (by kernel_rfl) (by kernel_rfl) rfl) ?_; intro h7 dJ
   refine bt dJ y 2 [] [86, 87] [(87, .bool (aA == 1))] ?_; intro h8 aC
   apply a7
   refine c_ aC bb (fun _ f7 => ?_) fun _ f9 => ?_
   ·
    refine sqB aC y [] [] [(2, pt b1 0)] ?_; intro ia f8
    exact r_ (h_ (ra1 f8 (pt b1 0) ⟨f, l, m, h, i, dD, rfl, f7, j, o, n, y.kp⟩))
   refine k_ (sqH ?_); intro ga dK
   refine bt aC y 6 [0] [] [(94, .slice l f.a.abs.length m), (95, .slice C (gcomS f.a.abs f.b.abs).length D)] ?_; intro ib dL
   obtain ⟨gb, dM⟩ := f9
   refine ck dL 114 #[.slice l f.a.abs.length m, .slice C (gcomS f.a.abs f.b.abs).length D] ?_
   refine (gdiv_fun f.a.abs (gcomS f.a.abs f.b.abs) gb l m C D _ _ o F y.fz).mono ?_; rintro _ gc ⟨aa, ab, ic, id, gd, rfl, bc, bO, hm⟩; refine ⟨_, rfl, ?_⟩; intro ie dN; have dO := y.callZ hm; have R := hm.ext.le
   replace n := n.mono R
   replace F := F.mono R
   replace j := Fz.le.trans j R
   have aD : Mem B [] w0 Z0 ((.row b1 (e75Nd f l m h i) 75) :: Rr) gd gc := dO
   have ge := dM (bc.small) (bO.small)
   refine bt dN aD 5 [] [] [(4, .slice aa (gdivS f.a.abs (gcomS f.a.abs f.b.abs)).1.length ab)] ?_; intro ig dQ
   apply dK
   refine sqH ?_; intro gf dR
   refine bt dQ aD 6 [0] [] [(104, .slice h f.b.abs.length i), (105, .slice C (gcomS f.a.abs f.b.abs).length D)] ?_; intro ih dS
   obtain ⟨gg, dT⟩ := ge
   refine ck dS 114 #[.slice h f.b.abs.length i, .slice C (gcomS f.a.abs f.b.abs).length D] ?_
   refine (gdiv_fun f.b.abs (gcomS f.a.abs f.b.abs) gg h i C D _ _ n F aD.fz).mono ?_; rintro _ gh ⟨aE, aF, ii, ij, bd, rfl, dU, gi, hm⟩; refine ⟨_, rfl, ?_⟩; intro ik dV; have dW := aD.callZ hm; have J := hm.ext.le
   replace bc := bc.mono J
   replace j := Fz.le.trans j J
   have be : Mem B [] w0 Z0 ((.row b1 (e75Nd f l m h i) 75) :: Rr) bd gh := dW
   have gj := dT (dU.small) (gi.small)
   refine bt dV be 5 [] [] [(6, .slice aE (gdivS f.b.abs (gcomS f.a.abs f.b.abs)).1.length aF)] ?_; intro il dY
   apply dR
   refine sqH ?_; intro gk dZ
   refine bt dY be 5 [] [] [(110, .slice aa (gdivS f.a.abs (gcomS f.a.abs f.b.abs)).1.length ab), (113, pt b1 1)] ?_; intro im bP
   refine sx bP be 0 [.bool f.a.neg, .slice aa (gdivS f.a.abs (gcomS f.a.abs f.b.abs)).1.length ab, .bool f.b.neg, .slice h f.b.abs.length i] 1 ?_; intro gl d0
   have bQ : Mem B [] w0 Z0 ((.row b1 [.bool f.a.neg, .slice aa (gdivS f.a.abs (gcomS f.a.abs f.b.abs)).1.length ab, .bool f.b.neg, .slice h f.b.abs.length i] 75) :: Rr) bd gl := d0
   apply dZ
   refine sqH ?_; intro gm d1
   refine bt bP bQ 5 [] [] [(115, .slice aE (gdivS f.b.abs (gcomS f.a.abs f.b.abs)).1.length aF), (118, pt b1 3)] ?_; intro io bR
   refine sx bR bQ 0 [.bool f.a.neg, .slice aa (gdivS f.a.abs (gcomS f.a.abs f.b.abs)).1.length ab, .bool f.b.neg, .slice aE (gdivS f.b.abs (gcomS f.a.abs f.b.abs)).1.length aF] 3 ?_; intro gn d2
   have d3 : Mem B [] w0 Z0 ((.row b1 [.bool f.a.neg, .slice aa (gdivS f.a.abs (gcomS f.a.abs f.b.abs)).1.length ab, .bool f.b.neg, .slice aE (gdivS f.b.abs (gcomS f.a.abs f.b.abs)).1.length aF] 75) :: Rr) bd gn := d2
   apply d1
   refine sqB bR d3 [] [] [(2, pt b1 0)] ?_; intro ip go
   exact r_ (ra1 go (pt b1 0) ⟨(⟨(⟨f.a.neg, (gdivS f.a.abs (gcomS f.a.abs f.b.abs)).1⟩ : BInt), (⟨f.b.neg, (gdivS f.b.abs (gcomS f.a.abs f.b.abs)).1⟩ : BInt)⟩ : BRat), aa, ab, aE, aF, bd, rfl, gj, j, bc, dU, d3.kp⟩)
  have d4 := a8.reval (d := 82) (c := []) (v := .bool (((gcomS f.a.abs f.b.abs).length : Int) == 1)) (by kernel_rfl) (.bool false) (by rw [az])
  refine bt d4 y 5 [] [83, 84, 85, 86, 87] [(87, .bool false)] ?_; intro iq bS
  apply a7
  refine cdF bS (by kernel_rfl) ?_
  refine k_ (sqH ?_); intro gq d5
  refine bt bS y 6 [0] [] [(94, .slice l f.a.abs.length m), (95, .slice C (gcomS f.a.abs f.b.abs).length D)] ?_; intro ir d6
  obtain ⟨gr, d7⟩ := gp
  refine ck d6 114 #[.slice l f.a.abs.length m, .slice C (gcomS f.a.abs f.b.abs).length D] ?_
  refine (gdiv_fun f.a.abs (gcomS f.a.abs f.b.abs) gr l m C D _ _ o F y.fz).mono ?_; rintro _ gs ⟨ac, ad, it, iu, gt, rfl, bf, bT, hm⟩; refine ⟨_, rfl, ?_⟩; intro iv d8; have d9 := y.callZ hm; have ae := hm.ext.le
  replace n := n.mono ae
  replace F := F.mono ae
  replace j := Fz.le.trans j ae
  have aG : Mem B [] w0 Z0 ((.row b1 (e75Nd f l m h i) 75) :: Rr) gt gs := d9
  have gu := d7 (bf.small) (bT.small)
  refine bt d8 aG 5 [] [] [(4, .slice ac (gdivS f.a.abs (gcomS f.a.abs f.b.abs)).1.length ad)] ?_; intro iw eb
  apply d5
  refine sqH ?_; intro gv ec
  refine bt eb aG 6 [0] [] [(104, .slice h f.b.abs.length i), (105, .slice C (gcomS f.a.abs f.b.abs).length D)] ?_; intro iy ed
  obtain ⟨gw, ee⟩ := gu
  refine ck ed 114 #[.slice h f.b.abs.length i, .slice C (gcomS f.a.abs f.b.abs).length D] ?_
  refine (gdiv_fun f.b.abs (gcomS f.a.abs f.b.abs) gw h i C D _ _ n F aG.fz).mono ?_; rintro _ gx ⟨aH, aI, iz, iA, bg, rfl, ef, gy, hm⟩; refine ⟨_, rfl, ?_⟩; intro iB eg; have eh := aG.callZ hm; have N := hm.ext.le
  replace bf := bf.mono N
  replace j := Fz.le.trans j N
  have bh : Mem B [] w0 Z0 ((.row b1 (e75Nd f l m h i) 75) :: Rr) bg gx := eh
  have gz := ee (ef.small) (gy.small)
  refine bt eg bh 5 [] [] [(6, .slice aH (gdivS f.b.abs (gcomS f.a.abs f.b.abs)).1.length aI)] ?_; intro iC ej
  apply ec
  refine sqH ?_; intro gA ek
  refine bt ej bh 5 [] [] [(110, .slice ac (gdivS f.a.abs (gcomS f.a.abs f.b.abs)).1.length ad), (113, pt b1 1)] ?_; intro iD bU
  refine sx bU bh 0 [.bool f.a.neg, .slice ac (gdivS f.a.abs (gcomS f.a.abs f.b.abs)).1.length ad, .bool f.b.neg, .slice h f.b.abs.length i] 1 ?_; intro gB el
  have bV : Mem B [] w0 Z0 ((.row b1 [.bool f.a.neg, .slice ac (gdivS f.a.abs (gcomS f.a.abs f.b.abs)).1.length ad, .bool f.b.neg, .slice h f.b.abs.length i] 75) :: Rr) bg gB := el
  apply ek
  refine sqH ?_; intro gC em
  refine bt bU bV 5 [] [] [(115, .slice aH (gdivS f.b.abs (gcomS f.a.abs f.b.abs)).1.length aI), (118, pt b1 3)] ?_; intro iE bW
  refine sx bW bV 0 [.bool f.a.neg, .slice ac (gdivS f.a.abs (gcomS f.a.abs f.b.abs)).1.length ad, .bool f.b.neg, .slice aH (gdivS f.b.abs (gcomS f.a.abs f.b.abs)).1.length aI] 3 ?_; intro gD en
  have eo : Mem B [] w0 Z0 ((.row b1 [.bool f.a.neg, .slice ac (gdivS f.a.abs (gcomS f.a.abs f.b.abs)).1.length ad, .bool f.b.neg, .slice aH (gdivS f.b.abs (gcomS f.a.abs f.b.abs)).1.length aI] 75) :: Rr) bg gD := en
  apply em
  refine sqB bW eo [] [] [(2, pt b1 0)] ?_; intro iF gE
  exact r_ (ra1 gE (pt b1 0) ⟨(⟨(⟨f.a.neg, (gdivS f.a.abs (gcomS f.a.abs f.b.abs)).1⟩ : BInt), (⟨f.b.neg, (gdivS f.b.abs (gcomS f.a.abs f.b.abs)).1⟩ : BInt)⟩ : BRat), ac, ad, aH, aI, bg, rfl, gz, j, bf, ef, eo.kp⟩)
 have ah := Fz.le.refl Z
 refine c_ b7 aK (fun _ gF => ?_) fun _ gV => ?_
 ·
  have ep : Fr 120 [] [⟨0, [], pt b1 0⟩] bj := b7.reg
  refine wp_seq (rgS mixed hM0 [(0, true), (1, true), (2, true), (3, true), (4, true), (5, true), (6, false)] [6] [] [] ?_)
  intro gG eq iG bY
  refine cS ep 6 [] [] [(26, pt b1 0), (29, pt b1 0)] ?_; intro iH es
  refine eL rfl ?_; intro gH et
  obtain ⟨gI, gJ⟩ := gF
  refine ck es 51 #[pt b1 0, pt b1 0] ?_
  refine (gnegA_fun u0 gI b1 ao2 cap3 ao5 cap6 _ _ _ _ _ _ hs4 hs7 bY bY.fz).mono ?_; rintro _ gK ⟨eu, ev, ew, ex, ey, rfl, aJ, bZ, b0, hm⟩; refine ⟨_, rfl, ?_⟩; intro gL ez; have eA := hm
  replace ah := ah.mono aJ
  have eB : Mem B [] w0 Z0 ((.row b1 (e75Nd (gnegAS u0) eu ev ew ex) 75) :: Rr) ey gK := eA
  refine nl (qnI (et _ _ ?_))
  refine nS (eq _ _ ?_)
  apply t_
  have eC : Fr 120 [] [⟨0, [], pt b1 0⟩] gL := ez.reg
  refine rgS mixed eB [(0, true), (1, true), (2, true), (3, true), (4, true), (5, true), (6, false)] [6] [] [] ?_
  intro gM eD iI b2
  refine cS eC 6 [] [] [(33, pt b1 2), (36, pt b1 2)] ?_; intro iJ eF
  refine eL rfl ?_; intro gN eG
  obtain ⟨gO, gP⟩ := gJ
  refine ck eF 51 #[pt b1 2, pt b1 2] ?_
  refine (gnegB_fun (gnegAS u0) gO b1 eu ev ew ex _ _ _ _ _ _ bZ b0 b2 b2.fz).mono ?_; rintro _ gQ ⟨eH, eI, eJ, eK, eM, rfl, af, gR, gS, hm⟩; refine ⟨_, rfl, ?_⟩; intro iK gT; have eN := hm
  replace ah := ah.mono af
  have gU : Mem B [] w0 Z0 ((.row b1 (e75Nd (gnegBS (gnegAS u0)) eH eI eJ eK) 75) :: Rr) eM gQ := eN
  refine nl (qnI (eG _ _ ?_))
  refine nS (eD _ _ ?_)
  exact d_ (b8 (gnegBS (gnegAS u0)) eH eI eJ eK eM ⟨gP, gR, gS, ah⟩ _ _ ((gT.reg).anyβ _ (by kernel_rfl)) (gU.kp))
 exact l_ (d_ (b8 u0 ao2 cap3 ao5 cap6 Z ⟨gV, hs4, hs7, ah⟩ _ _ ((b7.reg).anyβ _ (by kernel_rfl)) (hM0.kp)))
theorem rnum_walk (u0 : BRat) (b1 : Nat) (ao2 : Option Addr) (cap3 : Nat) (ao5 : Option Addr) (cap6 : Nat) (B : Nat) (w0 : World) (Z0 : Fz) (Rr : List Res) (Z : Fz) (w : World) (hs4 : SlR (tyInt .u32) Z ao2 cap3 u0.a.abs) (hs7 : SlR (tyInt .u32) Z ao5 cap6 u0.b.abs) (hM0 : Mem B [] w0 Z0 ((.row b1 [.bool u0.a.neg, .slice ao2 u0.a.abs.length cap3, .bool u0.b.neg, .slice ao5 u0.b.abs.length cap6] 75) :: Rr) Z w) (hZ : Z.on w) {K : BRat → Prop} (hp : rnum_vc u0 K) : Calls Tryz.prog 52 #[pt b1 0] w fun e w' => ∃ (r : BRat) (ao1001 : Option Addr) (cap1002 : Nat) (ao1004 : Option Addr) (cap1005 : Nat) (Z' : Fz), e = .returned (pt b1 0) ∧ K r ∧ Fz.le Z Z' ∧ SlR (tyInt .u32) Z' ao1001 cap1002 r.a.abs ∧ SlR (tyInt .u32) Z' ao1004 cap1005 r.b.abs ∧ Mem B [] w0 Z0 ((.row b1 [.bool r.a.neg, .slice ao1001 r.a.abs.length cap1002, .bool r.b.neg, .slice ao1004 r.b.abs.length cap1005] 75) :: Rr) Z' w' := by
 refine enter0 Tryz.func52 rfl rfl (by kernel_rfl) ?_; intro j c; have g := Fz.le.refl Z
 have h := hp (hs4.small) (hs7.small)
 refine sqB c hM0 [] [] [] ?_; intro k f
 refine sqB f hM0 [] [] [(2, pt b1 0)] ?_; intro l i
 exact r_ (ra1 i (pt b1 0) ⟨u0, ao2, cap3, ao5, cap6, Z, rfl, h, g, hs4, hs7, hM0.kp⟩)
theorem gi64_walk (u0 : BInt) (b1 : Nat) (ao2 : Option Addr) (cap3 : Nat) (B : Nat) (w0 : World) (Z0 : Fz) (Rr : List Res) (Z : Fz) (w : World) (hs4 : SlR (tyInt .u32) Z ao2 cap3 u0.abs) (hM0 : Mem B [] w0 Z0 ((.row b1 [.bool u0.neg, .slice ao2 u0.abs.length cap3] 73) :: Rr) Z w) (hZ : Z.on w) {K : (Int × BInt) → Prop} (hp : gi64_vc u0 K) : Calls Tryz.prog 54 #[pt b1 0] w fun e w' => ∃ (r : Int × BInt) (ao1001 : Option Addr) (cap1002 : Nat) (Z' : Fz), e = .returned (i6 r.1) ∧ K r ∧ Fz.le Z Z' ∧ SlR (tyInt .u32) Z' ao1001 cap1002 r.2.abs ∧ Mem B [] w0 Z0 ((.row b1 [.bool r.2.neg, .slice ao1001 r.2.abs.length cap1002] 73) :: Rr) Z' w' := by
 refine enter0 Tryz.func54 rfl rfl (by kernel_rfl) ?_; intro a0 N; have d := Fz.le.refl Z
 have v := hp (hs4.small)
 refine sqB N hM0 [] [] [] ?_; intro a7 O
 refine sqH ?_; intro x f
 refine s1 O 4 (pt b1 0) ?_; intro bj l
 refine ck l 85 #[pt b1 0] ?_
 refine enter0 Tryz.func85 rfl rfl (by kernel_rfl) ?_; intro bk P
 refine sqB P hM0 [] [] [] ?_; intro aF Q
 have R : Fr 34 [] [⟨0, [], pt b1 0⟩] aF := Q.reg
 refine sqB R hM0 [] [] [(3, y6 0)] ?_; intro bl S
 refine s_ (sqB S hM0 [0] [] [(9, .bool (decide ((u0.abs.length : Int) > 0)))] ?_); intro bm m
 refine c_ m v (fun _ aG => ?_) fun _ C => ?_
 ·
  refine rgH ?_; intro aH U
  refine bt m hM0 4 [0] [] [(13, .slice ao2 u0.abs.length cap3)] ?_; intro bn V
  obtain ⟨aI, W⟩ := aG
  refine ix_ V hs4 (0 : Int) aI .i64 105 4 ?_; intro bo bp aJ a bq aK aL aM X
  have y := W a aK
  obtain rfl : aJ = ([.int .u32 a] : List Value) := aM
  refine z1 X hM0 15 aL 0 (.int .u32 a) rfl ?_; intro br Y
  refine bt Y hM0 2 [] [] [(3, y6 (wu64 a))] ?_; intro bs aa
  apply U
  refine t_ (s_ (sqB aa hM0 [0] [] [(22, .bool (decide ((u0.abs.length : Int) > 1)))] ?_)); intro bu n
  refine c_ n y (fun _ aN => ?_) fun _ A => ?_
  ·
   refine rgH ?_; intro aO ab
   refine bt n hM0 5 [0] [] [(23, y6 (wu64 a)), (27, .slice ao2 u0.abs.length cap3)] ?_; intro bv ac
   obtain ⟨aP, ad⟩ := aN
   refine ix_ ac hs4 (1 : Int) aP .i64 105 4 ?_; intro bw bx aQ b bz aR aS aT ae
   have z := ad b aR
   obtain rfl : aQ = ([.int .u32 b] : List Value) := aT
   refine z1 ae hM0 29 aS 0 (.int .u32 b) rfl ?_; intro bA af
   refine bt af hM0 4 [] [] [(3, y6 (bOr .u64 (wu64 a) (bShl .u64 (wu64 b) 32)))] ?_; intro bB ag
   apply ab
   refine t_ (sqB ag hM0 [] [] [(2, y6 (bOr .u64 (wu64 a) (bShl .u64 (wu64 b) 32)))] ?_); intro bC ah
   refine r_ (ra1 ah (y6 (bOr .u64 (wu64 a) (bShl .u64 (wu64 b) 32))) ?_)
   refine ⟨_, rfl, ?_⟩; intro bD ai
   refine bt ai hM0 2 [] [] [(3, i6 (w64 (bOr .u64 (wu64 a) (bShl .u64 (wu64 b) 32))))] ?_; intro bE aj
   have g : Mem B [] w0 Z0 ((.row b1 [.bool u0.neg, .slice ao2 u0.abs.length cap3] 73) :: Rr) Z w := hM0
   apply f
   refine s_ (sqB aj g [0] [] [(10, .bool u0.neg)] ?_); intro bF o
   refine c_ o z (fun _ aU => ?_) fun _ aW => ?_
   ·
    refine rgB o g [] [] [(3, i6 (w64 (0 - (w64 (bOr .u64 (wu64 a) (bShl .u64 (wu64 b) 32))))))] ?_; intro bG ak
    refine t_ (sqB ak g [] [] [(2, i6 (w64 (0 - (w64 (bOr .u64 (wu64 a) (bShl .u64 (wu64 b) 32))))))] ?_); intro bH aV
    exact r_ (ra1 aV (i6 (w64 (0 - (w64 (bOr .u64 (wu64 a) (bShl .u64 (wu64 b) 32)))))) ⟨(w64 (0 - (w64 (bOr .u64 (wu64 a) (bShl .u64 (wu64 b) 32)))), u0), ao2, cap3, Z, rfl, aU, d, hs4, g.kp⟩)
   refine k_ (sqB o g [] [] [(2, i6 (w64 (bOr .u64 (wu64 a) (bShl .u64 (wu64 b) 32))))] ?_); intro bI aX
   exact r_ (ra1 aX (i6 (w64 (bOr .u64 (wu64 a) (bShl .u64 (wu64 b) 32)))) ⟨(w64 (bOr .u64 (wu64 a) (bShl .u64 (wu64 b) 32)), u0), ao2, cap3, Z, rfl, aW, d, hs4, g.kp⟩)
  refine k_ (sqB n hM0 [] [] [(2, y6 (wu64 a))] ?_); intro bJ al
  refine r_ (ra1 al (y6 (wu64 a)) ?_)
  refine ⟨_, rfl, ?_⟩; intro bK am
  refine bt am hM0 2 [] [] [(3, i6 (w64 (wu64 a)))] ?_; intro bL an
  have h : Mem B [] w0 Z0 ((.row b1 [.bool u0.neg, .slice ao2 u0.abs.length cap3] 73) :: Rr) Z w := hM0
  apply f
  refine s_ (sqB an h [0] [] [(10, .bool u0.neg)] ?_); intro bM p
  refine c_ p A (fun _ aY => ?_) fun _ a1 => ?_
  ·
   refine rgB p h [] [] [(3, i6 (w64 (0 - (w64 (wu64 a)))))] ?_; intro bN ao
   refine t_ (sqB ao h [] [] [(2, i6 (w64 (0 - (w64 (wu64 a)))))] ?_); intro bO aZ
   exact r_ (ra1 aZ (i6 (w64 (0 - (w64 (wu64 a))))) ⟨(w64 (0 - (w64 (wu64 a))), u0), ao2, cap3, Z, rfl, aY, d, hs4, h.kp⟩)
  refine k_ (sqB p h [] [] [(2, i6 (w64 (wu64 a)))] ?_); intro bP a2
  exact r_ (ra1 a2 (i6 (w64 (wu64 a))) ⟨(w64 (wu64 a), u0), ao2, cap3, Z, rfl, a1, d, hs4, h.kp⟩)
 refine k_ (s_ (sqB m hM0 [0] [] [(22, .bool (decide ((u0.abs.length : Int) > 1)))] ?_)); intro bQ q
 refine c_ q C (fun _ a3 => ?_) fun _ E => ?_
 ·
  refine rgH ?_; intro a4 ap
  refine bt q hM0 5 [0] [] [(23, y6 0), (27, .slice ao2 u0.abs.length cap3)] ?_; intro bR aq
  obtain ⟨a5, ar⟩ := a3
  refine ix_ aq hs4 (1 : Int) a5 .i64 105 4 ?_; intro bS bT a6 c bU a8 a9 ba au
  have D := ar c a8
  obtain rfl : a6 = ([.int .u32 c] : List Value) := ba
  refine z1 au hM0 29 a9 0 (.int .u32 c) rfl ?_; intro bV av
  refine bt av hM0 4 [] [] [(3, y6 (bOr .u64 0 (bShl .u64 (wu64 c) 32)))] ?_; intro bW aw
  apply ap
  refine t_ (sqB aw hM0 [] [] [(2, y6 (bOr .u64 0 (bShl .u64 (wu64 c) 32)))] ?_); intro bX ax
  refine r_ (ra1 ax (y6 (bOr .u64 0 (bShl .u64 (wu64 c) 32))) ?_)
  refine ⟨_, rfl, ?_⟩; intro bY ay
  refine bt ay hM0 2 [] [] [(3, i6 (w64 (bOr .u64 0 (bShl .u64 (wu64 c) 32))))] ?_; intro bZ az
  have i : Mem B [] w0 Z0 ((.row b1 [.bool u0.neg, .slice ao2 u0.abs.length cap3] 73) :: Rr) Z w := hM0
  apply f
  refine s_ (sqB az i [0] [] [(10, .bool u0.neg)] ?_); intro b0 s
  refine c_ s D (fun _ bb => ?_) fun _ bd => ?_
  ·
   refine rgB s i [] [] [(3, i6 (w64 (0 - (w64 (bOr .u64 0 (bShl .u64 (wu64 c) 32))))))] ?_; intro b2 aA
   refine t_ (sqB aA i [] [] [(2, i6 (w64 (0 - (w64 (bOr .u64 0 (bShl .u64 (wu64 c) 32))))))] ?_); intro b3 bc
   exact r_ (ra1 bc (i6 (w64 (0 - (w64 (bOr .u64 0 (bShl .u64 (wu64 c) 32)))))) ⟨(w64 (0 - (w64 (bOr .u64 0 (bShl .u64 (wu64 c) 32)))), u0), ao2, cap3, Z, rfl, bb, d, hs4, i.kp⟩)
  refine k_ (sqB s i [] [] [(2, i6 (w64 (bOr .u64 0 (bShl .u64 (wu64 c) 32))))] ?_); intro b4 be
  exact r_ (ra1 be (i6 (w64 (bOr .u64 0 (bShl .u64 (wu64 c) 32)))) ⟨(w64 (bOr .u64 0 (bShl .u64 (wu64 c) 32)), u0), ao2, cap3, Z, rfl, bd, d, hs4, i.kp⟩)
 refine k_ (sqB q hM0 [] [] [(2, y6 0)] ?_); intro b5 aB
 refine r_ (ra1 aB (y6 0) ?_)
 refine ⟨_, rfl, ?_⟩; intro b6 aC
 refine bt aC hM0 2 [] [] [(3, i6 0)] ?_; intro b7 aD
 have j : Mem B [] w0 Z0 ((.row b1 [.bool u0.neg, .slice ao2 u0.abs.length cap3] 73) :: Rr) Z w := hM0
 apply f
 refine s_ (sqB aD j [0] [] [(10, .bool u0.neg)] ?_); intro b8 u
 refine c_ u E (fun _ bf => ?_) fun _ bh => ?_
 ·
  refine rgB u j [] [] [(3, i6 0)] ?_; intro b9 aE
  refine t_ (sqB aE j [] [] [(2, i6 0)] ?_); intro ca bg
  exact r_ (ra1 bg (i6 0) ⟨(0, u0), ao2, cap3, Z, rfl, bf, d, hs4, j.kp⟩)
 refine k_ (sqB u j [] [] [(2, i6 0)] ?_); intro cb bi
 exact r_ (ra1 bi (i6 0) ⟨(0, u0), ao2, cap3, Z, rfl, bh, d, hs4, j.kp⟩)
theorem gi64A_walk (u0 : BRat) (b1 : Nat) (ao2 : Option Addr) (cap3 : Nat) (ao5 : Option Addr) (cap6 : Nat) (B : Nat) (w0 : World) (Z0 : Fz) (Rr : List Res) (Z : Fz) (w : World) (hs4 : SlR (tyInt .u32) Z ao2 cap3 u0.a.abs) (hs7 : SlR (tyInt .u32) Z ao5 cap6 u0.b.abs) (hM0 : Mem B [] w0 Z0 ((.row b1 [.bool u0.a.neg, .slice ao2 u0.a.abs.length cap3, .bool u0.b.neg, .slice ao5 u0.b.abs.length cap6] 75) :: Rr) Z w) (hZ : Z.on w) {K : (Int × BRat) → Prop} (hp : gi64A_vc u0 K) : Calls Tryz.prog 54 #[pt b1 0] w fun e w' => ∃ (r : Int × BRat) (ao1001 : Option Addr) (cap1002 : Nat) (ao1004 : Option Addr) (cap1005 : Nat) (Z' : Fz), e = .returned (i6 r.1) ∧ K r ∧ Fz.le Z Z' ∧ SlR (tyInt .u32) Z' ao1001 cap1002 r.2.a.abs ∧ SlR (tyInt .u32) Z' ao1004 cap1005 r.2.b.abs ∧ Mem B [] w0 Z0 ((.row b1 [.bool r.2.a.neg, .slice ao1001 r.2.a.abs.length cap1002, .bool r.2.b.neg, .slice ao1004 r.2.b.abs.length cap1005] 75) :: Rr) Z' w' := by
 refine enter0 Tryz.func54 rfl rfl (by kernel_rfl) ?_; intro a0 P; have g := Fz.le.refl Z
 have y := hp (hs4.small) (hs7.small)
 refine sqB P hM0 [] [] [] ?_; intro bl R
 refine sqH ?_; intro z h
 refine s1 R 4 (pt b1 0) ?_; intro bm n
 refine ck n 85 #[pt b1 0] ?_
 refine enter0 Tryz.func85 rfl rfl (by kernel_rfl) ?_; intro bn S
 refine sqB S hM0 [] [] [] ?_; intro aI U
 have V : Fr 34 [] [⟨0, [], pt b1 0⟩] aI := U.reg
 refine sqB V hM0 [] [] [(3, y6 0)] ?_; intro bo W
 refine s_ (sqB W hM0 [0] [] [(9, .bool (decide ((u0.a.abs.length : Int) > 0)))] ?_); intro bp o
 refine c_ o y (fun _ aJ => ?_) fun _ E => ?_
 ·
  refine rgH ?_; intro aK X
  refine bt o hM0 4 [0] [] [(13, .slice ao2 u0.a.abs.length cap3)] ?_; intro bq Y
  obtain ⟨aL, aa⟩ := aJ
  refine ix_ Y hs4 (0 : Int) aL .i64 105 4 ?_; intro br bs aM c bu aN aO aP ab
  have A := aa c aN
  obtain rfl : aM = ([.int .u32 c] : List Value) := aP
  refine z1 ab hM0 15 aO 0 (.int .u32 c) rfl ?_; intro bv ac
  refine bt ac hM0 2 [] [] [(3, y6 (wu64 c))] ?_; intro bw ad
  apply X
  refine t_ (s_ (sqB ad hM0 [0] [] [(22, .bool (decide ((u0.a.abs.length : Int) > 1)))] ?_)); intro bx p
  refine c_ p A (fun _ aQ => ?_) fun _ D => ?_
  ·
   refine rgH ?_; intro aR ae
   refine bt p hM0 5 [0] [] [(23, y6 (wu64 c)), (27, .slice ao2 u0.a.abs.length cap3)] ?_; intro bz af
   obtain ⟨aS, ag⟩ := aQ
   refine ix_ af hs4 (1 : Int) aS .i64 105 4 ?_; intro bA bB aT d bC aU aV aW ah
   have C := ag d aU
   obtain rfl : aT = ([.int .u32 d] : List Value) := aW
   refine z1 ah hM0 29 aV 0 (.int .u32 d) rfl ?_; intro bD ai
   refine bt ai hM0 4 [] [] [(3, y6 (bOr .u64 (wu64 c) (bShl .u64 (wu64 d) 32)))] ?_; intro bE aj
   apply ae
   refine t_ (sqB aj hM0 [] [] [(2, y6 (bOr .u64 (wu64 c) (bShl .u64 (wu64 d) 32)))] ?_); intro bF ak
   refine r_ (ra1 ak (y6 (bOr .u64 (wu64 c) (bShl .u64 (wu64 d) 32))) ?_)
   refine ⟨_, rfl, ?_⟩; intro bG al
   refine bt al hM0 2 [] [] [(3, i6 (w64 (bOr .u64 (wu64 c) (bShl .u64 (wu64 d) 32))))] ?_; intro bH am
   have i : Mem B [] w0 Z0 ((.row b1 (e75Nd u0 ao2 cap3 ao5 cap6) 75) :: Rr) Z w := hM0
   apply h
   refine s_ (sqB am i [0] [] [(10, .bool u0.a.neg)] ?_); intro bI q
   refine c_ q C (fun _ aX => ?_) fun _ aZ => ?_
   ·
    refine rgB q i [] [] [(3, i6 (w64 (0 - (w64 (bOr .u64 (wu64 c) (bShl .u64 (wu64 d) 32))))))] ?_; intro bJ an
    refine t_ (sqB an i [] [] [(2, i6 (w64 (0 - (w64 (bOr .u64 (wu64 c) (bShl .u64 (wu64 d) 32))))))] ?_); intro bK aY
    exact r_ (ra1 aY (i6 (w64 (0 - (w64 (bOr .u64 (wu64 c) (bShl .u64 (wu64 d) 32)))))) ⟨(w64 (0 - (w64 (bOr .u64 (wu64 c) (bShl .u64 (wu64 d) 32)))), u0), ao2, cap3, ao5, cap6, Z, rfl, aX, g, hs4, hs7, i.kp⟩)
   refine k_ (sqB q i [] [] [(2, i6 (w64 (bOr .u64 (wu64 c) (bShl .u64 (wu64 d) 32))))] ?_); intro bL a1
   exact r_ (ra1 a1 (i6 (w64 (bOr .u64 (wu64 c) (bShl .u64 (wu64 d) 32)))) ⟨(w64 (bOr .u64 (wu64 c) (bShl .u64 (wu64 d) 32)), u0), ao2, cap3, ao5, cap6, Z, rfl, aZ, g, hs4, hs7, i.kp⟩)
  refine k_ (sqB p hM0 [] [] [(2, y6 (wu64 c))] ?_); intro bM ao
  refine r_ (ra1 ao (y6 (wu64 c)) ?_)
  refine ⟨_, rfl, ?_⟩; intro bN ap
  refine bt ap hM0 2 [] [] [(3, i6 (w64 (wu64 c)))] ?_; intro bO aq
  have j : Mem B [] w0 Z0 ((.row b1 (e75Nd u0 ao2 cap3 ao5 cap6) 75) :: Rr) Z w := hM0
  apply h
  refine s_ (sqB aq j [0] [] [(10, .bool u0.a.neg)] ?_); intro bP s
  refine c_ s D (fun _ a2 => ?_) fun _ a4 => ?_
  ·
   refine rgB s j [] [] [(3, i6 (w64 (0 - (w64 (wu64 c)))))] ?_; intro bQ ar
   refine t_ (sqB ar j [] [] [(2, i6 (w64 (0 - (w64 (wu64 c)))))] ?_); intro bR a3
   exact r_ (ra1 a3 (i6 (w64 (0 - (w64 (wu64 c))))) ⟨(w64 (0 - (w64 (wu64 c))), u0), ao2, cap3, ao5, cap6, Z, rfl, a2, g, hs4, hs7, j.kp⟩)
  refine k_ (sqB s j [] [] [(2, i6 (w64 (wu64 c)))] ?_); intro bS a5
  exact r_ (ra1 a5 (i6 (w64 (wu64 c))) ⟨(w64 (wu64 c), u0), ao2, cap3, ao5, cap6, Z, rfl, a4, g, hs4, hs7, j.kp⟩)
 refine k_ (s_ (sqB o hM0 [0] [] [(22, .bool (decide ((u0.a.abs.length : Int) > 1)))] ?_)); intro bT u
 refine c_ u E (fun _ a6 => ?_) fun _ G => ?_
 ·
  refine rgH ?_; intro a7 au
  refine bt u hM0 5 [0] [] [(23, y6 0), (27, .slice ao2 u0.a.abs.length cap3)] ?_; intro bU av
  obtain ⟨a8, aw⟩ := a6
  refine ix_ av hs4 (1 : Int) a8 .i64 105 4 ?_; intro bV bW a9 f bX ba bb bc ax
  have F := aw f ba
  obtain rfl : a9 = ([.int .u32 f] : List Value) := bc
  refine z1 ax hM0 29 bb 0 (.int .u32 f) rfl ?_; intro bY ay
  refine bt ay hM0 4 [] [] [(3, y6 (bOr .u64 0 (bShl .u64 (wu64 f) 32)))] ?_; intro bZ az
  apply au
  refine t_ (sqB az hM0 [] [] [(2, y6 (bOr .u64 0 (bShl .u64 (wu64 f) 32)))] ?_); intro b0 aA
  refine r_ (ra1 aA (y6 (bOr .u64 0 (bShl .u64 (wu64 f) 32))) ?_)
  refine ⟨_, rfl, ?_⟩; intro b2 aB
  refine bt aB hM0 2 [] [] [(3, i6 (w64 (bOr .u64 0 (bShl .u64 (wu64 f) 32))))] ?_; intro b3 aC
  have l : Mem B [] w0 Z0 ((.row b1 (e75Nd u0 ao2 cap3 ao5 cap6) 75) :: Rr) Z w := hM0
  apply h
  refine s_ (sqB aC l [0] [] [(10, .bool u0.a.neg)] ?_); intro b4 v
  refine c_ v F (fun _ bd => ?_) fun _ bf => ?_
  ·
   refine rgB v l [] [] [(3, i6 (w64 (0 - (w64 (bOr .u64 0 (bShl .u64 (wu64 f) 32))))))] ?_; intro b5 aD
   refine t_ (sqB aD l [] [] [(2, i6 (w64 (0 - (w64 (bOr .u64 0 (bShl .u64 (wu64 f) 32))))))] ?_); intro b6 be
   exact r_ (ra1 be (i6 (w64 (0 - (w64 (bOr .u64 0 (bShl .u64 (wu64 f) 32)))))) ⟨(w64 (0 - (w64 (bOr .u64 0 (bShl .u64 (wu64 f) 32)))), u0), ao2, cap3, ao5, cap6, Z, rfl, bd, g, hs4, hs7, l.kp⟩)
  refine k_ (sqB v l [] [] [(2, i6 (w64 (bOr .u64 0 (bShl .u64 (wu64 f) 32))))] ?_); intro b7 bg
  exact r_ (ra1 bg (i6 (w64 (bOr .u64 0 (bShl .u64 (wu64 f) 32)))) ⟨(w64 (bOr .u64 0 (bShl .u64 (wu64 f) 32)), u0), ao2, cap3, ao5, cap6, Z, rfl, bf, g, hs4, hs7, l.kp⟩)
 refine k_ (sqB u hM0 [] [] [(2, y6 0)] ?_); intro b8 aE
 refine r_ (ra1 aE (y6 0) ?_)
 refine ⟨_, rfl, ?_⟩; intro b9 aF
 refine bt aF hM0 2 [] [] [(3, i6 0)] ?_; intro ca aG
 have m : Mem B [] w0 Z0 ((.row b1 (e75Nd u0 ao2 cap3 ao5 cap6) 75) :: Rr) Z w := hM0
 apply h
 refine s_ (sqB aG m [0] [] [(10, .bool u0.a.neg)] ?_); intro cb x
 refine c_ x G (fun _ bh => ?_) fun _ bj => ?_
 ·
  refine rgB x m [] [] [(3, i6 0)] ?_; intro cc aH
  refine t_ (sqB aH m [] [] [(2, i6 0)] ?_); intro ce bi
  exact r_ (ra1 bi (i6 0) ⟨(0, u0), ao2, cap3, ao5, cap6, Z, rfl, bh, g, hs4, hs7, m.kp⟩)
 refine k_ (sqB x m [] [] [(2, i6 0)] ?_); intro cf bk
 exact r_ (ra1 bk (i6 0) ⟨(0, u0), ao2, cap3, ao5, cap6, Z, rfl, bj, g, hs4, hs7, m.kp⟩)
theorem gsubI_walk (u0 : BInt) (u1 : BInt) (u2 : BInt) (b1 : Nat) (ao2 : Option Addr) (cap3 : Nat) (b5 : Nat) (ao6 : Option Addr) (cap7 : Nat) (b9 : Nat) (ao10 : Option Addr) (cap11 : Nat) (B : Nat) (w0 : World) (Z0 : Fz) (Rr : List Res) (Z : Fz) (w : World) (hs4 : SlR (tyInt .u32) Z ao2 cap3 u0.abs) (hs8 : SlR (tyInt .u32) Z ao6 cap7 u1.abs) (hs12 : SlR (tyInt .u32) Z ao10 cap11 u2.abs) (hM0 : Mem B [] w0 Z0 ((.row b1 [.bool u0.neg, .slice ao2 u0.abs.length cap3] 73) :: (.row b5 [.bool u1.neg, .slice ao6 u1.abs.length cap7] 73) :: (.row b9 [.bool u2.neg, .slice ao10 u2.abs.length cap11] 73) :: Rr) Z w) (hZ : Z.on w) {K : (BInt × BInt × BInt) → Prop} (hp : gsubI_vc u0 u1 u2 K) : Calls Tryz.prog 74 #[pt b1 0, pt b5 0, pt b9 0] w fun e w' => ∃ (r : BInt × BInt × BInt) (ao1001 : Option Addr) (cap1002 : Nat) (ao1004 : Option Addr) (cap1005 : Nat) (ao1007 : Option Addr) (cap1008 : Nat) (Z' : Fz), e = .returned (pt b1 0) ∧ K r ∧ Fz.le Z Z' ∧ SlR (tyInt .u32) Z' ao1001 cap1002 r.1.abs ∧ SlR (tyInt .u32) Z' ao1004 cap1005 r.2.1.abs ∧ SlR (tyInt .u32) Z' ao1007 cap1008 r.2.2.abs ∧ Mem B [] w0 Z0 ((.row b1 [.bool r.1.neg, .slice ao1001 r.1.abs.length cap1002] 73) :: (.row b5 [.bool r.2.1.neg, .slice ao1004 r.2.1.abs.length cap1005] 73) :: (.row b9 [.bool r.2.2.neg, .slice ao1007 r.2.2.abs.length cap1008] 73) :: Rr) Z' w' := by
 refine enter0 Tryz.func74 rfl rfl (by kernel_rfl) ?_; intro S k; have c := Fz.le.refl Z
 have F := hp (hs4.small) (hs8.small) (hs12.small)
 refine sqB k hM0 [] [] [] ?_; intro G n
 have o : Fr 29 [] [⟨0, [], pt b1 0⟩, ⟨1, [], pt b5 0⟩, ⟨2, [], pt b9 0⟩] G := n.reg
 refine wp_seq (rgS mixed hM0 [(0, true), (1, true), (2, true), (3, true), (4, true), (5, true), (6, true), (7, true), (8, true), (9, true), (10, true), (11, true), (12, true), (13, true), (14, true), (15, true), (16, true), (17, true), (18, false), (19, true), (20, true), (21, false), (22, true)] [] [1, 2] [.row b5 [.bool u1.neg, .slice ao6 u1.abs.length cap7] 73, .row b9 [.bool u2.neg, .slice ao10 u2.abs.length cap11] 73] ?_)
 intro H p T g
 have a := Fz.le.refl Z
 refine cS o 18 [0, 0, 1, 1] [] [(7, pt b1 0), (11, .bool u1.neg), (15, .slice ao6 u1.abs.length cap7), (20, .bool (!u2.neg)), (24, .slice ao10 u2.abs.length cap11)] ?_; intro U q
 refine eS rfl ?_; intro I s
 obtain ⟨J, L⟩ := F
 refine ck q 102 #[.bool u1.neg, .slice ao6 u1.abs.length cap7, .bool (!u2.neg), .slice ao10 u2.abs.length cap11] ?_
 refine (gsum_fun u1.neg u1.abs (!u2.neg) u2.abs J ao6 cap7 ao10 cap11 _ _ hs8 hs12 g.fz).mono ?_; rintro _ M ⟨h, i, N, rfl, j, hm⟩; refine ⟨_, rfl, ?_⟩; intro V t; have u := g.callZ hm; have d := hm.ext.le
 replace hs4 := hs4.mono d
 replace hs8 := hs8.mono d
 replace hs12 := hs12.mono d
 replace a := a.mono d
 replace c := Fz.le.trans c d
 have f : Mem B [] w0 Z0 ((.row b1 [.bool u0.neg, .slice ao2 u0.abs.length cap3] 73) :: (.row b5 [.bool u1.neg, .slice ao6 u1.abs.length cap7] 73) :: (.row b9 [.bool u2.neg, .slice ao10 u2.abs.length cap11] 73) :: Rr) N M := u
 refine nl (qnI (s _ _ (f.cst a [1, 2]) ?_))
 refine cS t 2 [] [] [(26, .bool (gsumS u1.neg u1.abs (!u2.neg) u2.abs).1), (27, .slice h (gsumS u1.neg u1.abs (!u2.neg) u2.abs).2.length i)] ?_; intro W v
 refine eS rfl ?_; intro O x
 refine ck v 78 #[pt b1 0, .bool (gsumS u1.neg u1.abs (!u2.neg) u2.abs).1, .slice h (gsumS u1.neg u1.abs (!u2.neg) u2.abs).2.length i] ?_
 refine (ggive_fun u0 (gsumS u1.neg u1.abs (!u2.neg) u2.abs).1 (gsumS u1.neg u1.abs (!u2.neg) u2.abs).2 b1 ao2 cap3 h i _ _ _ _ _ _ hs4 j f f.fz).mono ?_; rintro _ P ⟨y, z, A, rfl, b, Q, hm⟩; refine ⟨_, rfl, ?_⟩; intro X C; have D := hm
 replace hs8 := hs8.mono b
 replace hs12 := hs12.mono b
 replace a := a.mono b
 replace c := Fz.le.trans c b
 have E : Mem B [] w0 Z0 ((.row b1 [.bool (ggive u0 (gsumS u1.neg u1.abs (!u2.neg) u2.abs).1 (gsumS u1.neg u1.abs (!u2.neg) u2.abs).2).neg, .slice y (ggive u0 (gsumS u1.neg u1.abs (!u2.neg) u2.abs).1 (gsumS u1.neg u1.abs (!u2.neg) u2.abs).2).abs.length z] 73) :: (.row b5 [.bool u1.neg, .slice ao6 u1.abs.length cap7] 73) :: (.row b9 [.bool u2.neg, .slice ao10 u2.abs.length cap11] 73) :: Rr) A P := D
 refine nl (qnI (x _ _ (E.cst a [1, 2]) ?_))
 refine cS C 1 [] [] [(6, pt b1 0)] ?_; intro Y R
 refine nS (p _ _ ?_)
 exact t_ (r_ (ra1 R (pt b1 0) ⟨((ggive u0 (gsumS u1.neg u1.abs (!u2.neg) u2.abs).1 (gsumS u1.neg u1.abs (!u2.neg) u2.abs).2), u1, u2), y, z, ao6, cap7, ao10, cap11, A, rfl, L, c, Q, hs8, hs12, E.kp⟩))
theorem gcmpA_walk (u0 : BRat) (u1 : BInt) (b1 : Nat) (ao2 : Option Addr) (cap3 : Nat) (ao5 : Option Addr) (cap6 : Nat) (b8 : Nat) (ao9 : Option Addr) (cap10 : Nat) (B : Nat) (w0 : World) (Z0 : Fz) (Rr : List Res) (Z : Fz) (w : World) (hs4 : SlR (tyInt .u32) Z ao2 cap3 u0.a.abs) (hs7 : SlR (tyInt .u32) Z ao5 cap6 u0.b.abs) (hs11 : SlR (tyInt .u32) Z ao9 cap10 u1.abs) (hM0 : Mem B [] w0 Z0 ((.row b1 [.bool u0.a.neg, .slice ao2 u0.a.abs.length cap3, .bool u0.b.neg, .slice ao5 u0.b.abs.length cap6] 75) :: (.row b8 [.bool u1.neg, .slice ao9 u1.abs.length cap10] 73) :: Rr) Z w) (hZ : Z.on w) {K : (Int × BRat × BInt) → Prop} (hp : gcmpA_vc u0 u1 K) : Calls Tryz.prog 53 #[pt b1 0, pt b8 0] w fun e w' => ∃ (r : Int × BRat × BInt) (ao1001 : Option Addr) (cap1002 : Nat) (ao1004 : Option Addr) (cap1005 : Nat) (ao1007 : Option Addr) (cap1008 : Nat) (Z' : Fz), e = .returned (i6 r.1) ∧ K r ∧ Fz.le Z Z' ∧ SlR (tyInt .u32) Z' ao1001 cap1002 r.2.1.a.abs ∧ SlR (tyInt .u32) Z' ao1004 cap1005 r.2.1.b.abs ∧ SlR (tyInt .u32) Z' ao1007 cap1008 r.2.2.abs ∧ Mem B [] w0 Z0 ((.row b1 [.bool r.2.1.a.neg, .slice ao1001 r.2.1.a.abs.length cap1002, .bool r.2.1.b.neg, .slice ao1004 r.2.1.b.abs.length cap1005] 75) :: (.row b8 [.bool r.2.2.neg, .slice ao1007 r.2.2.abs.length cap1008] 73) :: Rr) Z' w' := by
 refine enter0 Tryz.func53 rfl rfl (by kernel_rfl) ?_; intro a0 x; have j := Fz.le.refl Z
 have k := hp (hs4.small) (hs7.small) (hs11.small)
 refine sqB x hM0 [] [] [] ?_; intro V A
 apply s_
 have C : Fr 35 [] [⟨0, [], pt b1 0⟩, ⟨1, [], pt b8 0⟩] V := A.reg
 refine sqQH mixed (by kernel_rfl) hM0 ?_; intro W D
 refine q1 C 6 (pt b1 0) ?_; intro ak E
 refine q1 E 7 (pt b1 0) ?_; intro al F
 refine q1 F 8 (pt b1 0) ?_; intro am n
 refine ql_ n 0 0 (.bool u0.a.neg) rfl rfl ?_; intro an G
 refine q1 G 10 (pt b8 0) ?_; intro ao H
 refine q1 H 11 (pt b8 0) ?_; intro ap I
 refine q1 I 12 (pt b8 0) ?_; intro aq o
 refine ql_ o 1 0 (.bool u1.neg) rfl rfl ?_; intro ar J
 refine q1 J 14 (.bool (u0.a.neg != u1.neg)) ?_; intro X d
 refine qnl (D _ ?_); intro au c
 refine c_ d k (fun _ l => ?_) fun _ ad => ?_
 ·
  refine s_ (sqB d c [0] [] [(18, .bool u0.a.neg)] ?_); intro av f
  refine c_ f l (fun _ Y => ?_) fun _ ab => ?_
  ·
   refine sqB f c [] [] [(4, i6 (-1))] ?_; intro aw aa
   exact r_ (h_ (h_ (ra1 aa (i6 (-1)) ⟨(-1, u0, u1), ao2, cap3, ao5, cap6, ao9, cap10, Z, rfl, Y, j, hs4, hs7, hs11, c.kp⟩)))
  refine k_ (sqB f c [] [] [(4, i6 1)] ?_); intro ax ac
  exact r_ (h_ (ra1 ac (i6 1) ⟨(1, u0, u1), ao2, cap3, ao5, cap6, ao9, cap10, Z, rfl, ab, j, hs4, hs7, hs11, c.kp⟩))
 apply k_
 have L : Fr 35 [] [⟨0, [], pt b1 0⟩, ⟨1, [], pt b8 0⟩] X := d.reg
 refine sqQH mixed (by kernel_rfl) c ?_; intro ae M
 refine q1 L 19 (pt b1 0) ?_; intro ay N
 refine q1 N 20 (pt b1 0) ?_; intro az O
 refine q1 O 21 (pt b1 1) ?_; intro aA s
 refine ql_ s 0 1 (.slice ao2 u0.a.abs.length cap3) rfl rfl ?_; intro aB P
 refine q1 P 23 (pt b8 0) ?_; intro aC Q
 refine q1 Q 24 (pt b8 0) ?_; intro aD R
 refine q1 R 25 (pt b8 1) ?_; intro aE u
 refine ql_ u 1 1 (.slice ao9 u1.abs.length cap10) rfl rfl ?_; intro aF S
 obtain ⟨af, m⟩ := ad
 refine qcl S (i6 (gcmpS u0.a.abs u1.abs)) 84 #[.slice ao2 u0.a.abs.length cap3, .slice ao9 u1.abs.length cap10] (nog rfl _) rfl (by kernel_rfl) (fun _ => by kernel_rfl) (qfc fun w hC => gcmp_fun u0.a.abs u1.abs af ao2 cap3 ao9 cap10 _ _ hs4 hs11 hC.fz) ?_; intro aG T
 refine q1 T 5 (i6 (gcmpS u0.a.abs u1.abs)) ?_; intro aH U
 refine qnl (M _ ?_); intro aI h
 refine s_ (sqB U h [0] [] [(31, .bool u0.a.neg)] ?_); intro aJ i
 refine c_ i m (fun _ ag => ?_) fun _ ai => ?_
 ·
  refine sqB i h [] [] [(4, i6 (w64 (0 - (gcmpS u0.a.abs u1.abs))))] ?_; intro aK ah
  exact r_ (h_ (ra1 ah (i6 (w64 (0 - (gcmpS u0.a.abs u1.abs)))) ⟨(w64 (0 - (gcmpS u0.a.abs u1.abs)), u0, u1), ao2, cap3, ao5, cap6, ao9, cap10, Z, rfl, ag, j, hs4, hs7, hs11, h.kp⟩))
 refine k_ (sqB i h [] [] [(4, i6 (gcmpS u0.a.abs u1.abs))] ?_); intro aL aj
 exact r_ (ra1 aj (i6 (gcmpS u0.a.abs u1.abs)) ⟨((gcmpS u0.a.abs u1.abs), u0, u1), ao2, cap3, ao5, cap6, ao9, cap10, Z, rfl, ai, j, hs4, hs7, hs11, h.kp⟩)
theorem gcmpB_walk (u0 : BRat) (u1 : BInt) (b1 : Nat) (ao2 : Option Addr) (cap3 : Nat) (ao5 : Option Addr) (cap6 : Nat) (b8 : Nat) (ao9 : Option Addr) (cap10 : Nat) (B : Nat) (w0 : World) (Z0 : Fz) (Rr : List Res) (Z : Fz) (w : World) (hs4 : SlR (tyInt .u32) Z ao2 cap3 u0.a.abs) (hs7 : SlR (tyInt .u32) Z ao5 cap6 u0.b.abs) (hs11 : SlR (tyInt .u32) Z ao9 cap10 u1.abs) (hM0 : Mem B [] w0 Z0 ((.row b1 [.bool u0.a.neg, .slice ao2 u0.a.abs.length cap3, .bool u0.b.neg, .slice ao5 u0.b.abs.length cap6] 75) :: (.row b8 [.bool u1.neg, .slice ao9 u1.abs.length cap10] 73) :: Rr) Z w) (hZ : Z.on w) {K : (Int × BRat × BInt) → Prop} (hp : gcmpB_vc u0 u1 K) : Calls Tryz.prog 53 #[pt b1 2, pt b8 0] w fun e w' => ∃ (r : Int × BRat × BInt) (ao1001 : Option Addr) (cap1002 : Nat) (ao1004 : Option Addr) (cap1005 : Nat) (ao1007 : Option Addr) (cap1008 : Nat) (Z' : Fz), e = .returned (i6 r.1) ∧ K r ∧ Fz.le Z Z' ∧ SlR (tyInt .u32) Z' ao1001 cap1002 r.2.1.a.abs ∧ SlR (tyInt .u32) Z' ao1004 cap1005 r.2.1.b.abs ∧ SlR (tyInt .u32) Z' ao1007 cap1008 r.2.2.abs ∧ Mem B [] w0 Z0 ((.row b1 [.bool r.2.1.a.neg, .slice ao1001 r.2.1.a.abs.length cap1002, .bool r.2.1.b.neg, .slice ao1004 r.2.1.b.abs.length cap1005] 75) :: (.row b8 [.bool r.2.2.neg, .slice ao1007 r.2.2.abs.length cap1008] 73) :: Rr) Z' w' := by
 refine enter0 Tryz.func53 rfl rfl (by kernel_rfl) ?_; intro a0 x; have j := Fz.le.refl Z
 have k := hp (hs4.small) (hs7.small) (hs11.small)
 refine sqB x hM0 [] [] [] ?_; intro V A
 apply s_
 have C : Fr 35 [] [⟨0, [], pt b1 2⟩, ⟨1, [], pt b8 0⟩] V := A.reg
 refine sqQH mixed (by kernel_rfl) hM0 ?_; intro W D
 refine q1 C 6 (pt b1 2) ?_; intro ak E
 refine q1 E 7 (pt b1 2) ?_; intro al F
 refine q1 F 8 (pt b1 2) ?_; intro am n
 refine ql_ n 0 2 (.bool u0.b.neg) rfl rfl ?_; intro an G
 refine q1 G 10 (pt b8 0) ?_; intro ao H
 refine q1 H 11 (pt b8 0) ?_; intro ap I
 refine q1 I 12 (pt b8 0) ?_; intro aq o
 refine ql_ o 1 0 (.bool u1.neg) rfl rfl ?_; intro ar J
 refine q1 J 14 (.bool (u0.b.neg != u1.neg)) ?_; intro X d
 refine qnl (D _ ?_); intro au c
 refine c_ d k (fun _ l => ?_) fun _ ad => ?_
 ·
  refine s_ (sqB d c [0] [] [(18, .bool u0.b.neg)] ?_); intro av f
  refine c_ f l (fun _ Y => ?_) fun _ ab => ?_
  ·
   refine sqB f c [] [] [(4, i6 (-1))] ?_; intro aw aa
   exact r_ (h_ (h_ (ra1 aa (i6 (-1)) ⟨(-1, u0, u1), ao2, cap3, ao5, cap6, ao9, cap10, Z, rfl, Y, j, hs4, hs7, hs11, c.kp⟩)))
  refine k_ (sqB f c [] [] [(4, i6 1)] ?_); intro ax ac
  exact r_ (h_ (ra1 ac (i6 1) ⟨(1, u0, u1), ao2, cap3, ao5, cap6, ao9, cap10, Z, rfl, ab, j, hs4, hs7, hs11, c.kp⟩))
 apply k_
 have L : Fr 35 [] [⟨0, [], pt b1 2⟩, ⟨1, [], pt b8 0⟩] X := d.reg
 refine sqQH mixed (by kernel_rfl) c ?_; intro ae M
 refine q1 L 19 (pt b1 2) ?_; intro ay N
 refine q1 N 20 (pt b1 2) ?_; intro az O
 refine q1 O 21 (pt b1 3) ?_; intro aA s
 refine ql_ s 0 3 (.slice ao5 u0.b.abs.length cap6) rfl rfl ?_; intro aB P
 refine q1 P 23 (pt b8 0) ?_; intro aC Q
 refine q1 Q 24 (pt b8 0) ?_; intro aD R
 refine q1 R 25 (pt b8 1) ?_; intro aE u
 refine ql_ u 1 1 (.slice ao9 u1.abs.length cap10) rfl rfl ?_; intro aF S
 obtain ⟨af, m⟩ := ad
 refine qcl S (i6 (gcmpS u0.b.abs u1.abs)) 84 #[.slice ao5 u0.b.abs.length cap6, .slice ao9 u1.abs.length cap10] (nog rfl _) rfl (by kernel_rfl) (fun _ => by kernel_rfl) (qfc fun w hC => gcmp_fun u0.b.abs u1.abs af ao5 cap6 ao9 cap10 _ _ hs7 hs11 hC.fz) ?_; intro aG T
 refine q1 T 5 (i6 (gcmpS u0.b.abs u1.abs)) ?_; intro aH U
 refine qnl (M _ ?_); intro aI h
 refine s_ (sqB U h [0] [] [(31, .bool u0.b.neg)] ?_); intro aJ i
 refine c_ i m (fun _ ag => ?_) fun _ ai => ?_
 ·
  refine sqB i h [] [] [(4, i6 (w64 (0 - (gcmpS u0.b.abs u1.abs))))] ?_; intro aK ah
  exact r_ (h_ (ra1 ah (i6 (w64 (0 - (gcmpS u0.b.abs u1.abs)))) ⟨(w64 (0 - (gcmpS u0.b.abs u1.abs)), u0, u1), ao2, cap3, ao5, cap6, ao9, cap10, Z, rfl, ag, j, hs4, hs7, hs11, h.kp⟩))
 refine k_ (sqB i h [] [] [(4, i6 (gcmpS u0.b.abs u1.abs))] ?_); intro aL aj
 exact r_ (ra1 aj (i6 (gcmpS u0.b.abs u1.abs)) ⟨((gcmpS u0.b.abs u1.abs), u0, u1), ao2, cap3, ao5, cap6, ao9, cap10, Z, rfl, ai, j, hs4, hs7, hs11, h.kp⟩)
theorem glshI_walk (u0 : BInt) (u1 : BInt) (u2 : Int) (b1 : Nat) (ao2 : Option Addr) (cap3 : Nat) (b5 : Nat) (ao6 : Option Addr) (cap7 : Nat) (B : Nat) (w0 : World) (Z0 : Fz) (Rr : List Res) (Z : Fz) (w : World) (hs4 : SlR (tyInt .u32) Z ao2 cap3 u0.abs) (hs8 : SlR (tyInt .u32) Z ao6 cap7 u1.abs) (hM0 : Mem B [] w0 Z0 ((.row b1 [.bool u0.neg, .slice ao2 u0.abs.length cap3] 73) :: (.row b5 [.bool u1.neg, .slice ao6 u1.abs.length cap7] 73) :: Rr) Z w) (hZ : Z.on w) {K : (BInt × BInt) → Prop} (hp : glshI_vc u0 u1 u2 K) : Calls Tryz.prog 49 #[pt b1 0, pt b5 0, y6 u2] w fun e w' => ∃ (r : BInt × BInt) (ao1001 : Option Addr) (cap1002 : Nat) (ao1004 : Option Addr) (cap1005 : Nat) (Z' : Fz), e = .returned (pt b1 0) ∧ K r ∧ Fz.le Z Z' ∧ SlR (tyInt .u32) Z' ao1001 cap1002 r.1.abs ∧ SlR (tyInt .u32) Z' ao1004 cap1005 r.2.abs ∧ Mem B [] w0 Z0 ((.row b1 [.bool r.1.neg, .slice ao1001 r.1.abs.length cap1002] 73) :: (.row b5 [.bool r.2.neg, .slice ao1004 r.2.abs.length cap1005] 73) :: Rr) Z' w' := by
 refine enter0 Tryz.func49 rfl rfl (by kernel_rfl) ?_; intro Q i; have b := Fz.le.refl Z
 have D := hp (hs4.small) (hs8.small)
 refine sqB i hM0 [] [] [] ?_; intro E k
 have l : Fr 19 [] [⟨0, [], pt b1 0⟩, ⟨1, [], pt b5 0⟩, ⟨2, [], y6 u2⟩] E := k.reg
 refine wp_seq (rgS mixed hM0 [(0, true), (1, true), (2, true), (3, true), (4, true), (5, true), (6, true), (7, true), (8, true), (9, true), (10, false), (11, false), (12, true)] [] [1] [.row b5 [.bool u1.neg, .slice ao6 u1.abs.length cap7] 73] ?_)
 intro F m R g
 have a := Fz.le.refl Z
 refine cS l 10 [0, 0] [] [(7, pt b1 0), (11, .bool u1.neg), (15, .slice ao6 u1.abs.length cap7), (16, y6 u2)] ?_; intro S n
 refine eS rfl ?_; intro G o
 obtain ⟨H, I⟩ := D
 refine ck n 79 #[.slice ao6 u1.abs.length cap7, y6 u2] ?_
 refine (gleft_fun u1.abs u2 H ao6 cap7 _ _ hs8 g.fz).mono ?_; rintro _ J ⟨p, q, L, rfl, h, hm⟩; refine ⟨_, rfl, ?_⟩; intro T s; have t := g.callZ hm; have d := hm.ext.le
 replace hs4 := hs4.mono d
 replace hs8 := hs8.mono d
 replace a := a.mono d
 replace b := Fz.le.trans b d
 have f : Mem B [] w0 Z0 ((.row b1 [.bool u0.neg, .slice ao2 u0.abs.length cap3] 73) :: (.row b5 [.bool u1.neg, .slice ao6 u1.abs.length cap7] 73) :: Rr) L J := t
 refine nl (qnI (o _ _ (f.cst a [1]) ?_))
 refine eS rfl ?_; intro M u
 refine ck s 78 #[pt b1 0, .bool u1.neg, .slice p (gleftS u1.abs u2).length q] ?_
 refine (ggive_fun u0 u1.neg (gleftS u1.abs u2) b1 ao2 cap3 p q _ _ _ _ _ _ hs4 h f f.fz).mono ?_; rintro _ N ⟨v, x, y, rfl, c, O, hm⟩; refine ⟨_, rfl, ?_⟩; intro U z; have A := hm
 replace hs8 := hs8.mono c
 replace a := a.mono c
 replace b := Fz.le.trans b c
 have C : Mem B [] w0 Z0 ((.row b1 [.bool (ggive u0 u1.neg (gleftS u1.abs u2)).neg, .slice v (ggive u0 u1.neg (gleftS u1.abs u2)).abs.length x] 73) :: (.row b5 [.bool u1.neg, .slice ao6 u1.abs.length cap7] 73) :: Rr) y N := A
 refine nl (qnI (u _ _ (C.cst a [1]) ?_))
 refine cS z 1 [] [] [(6, pt b1 0)] ?_; intro V P
 refine nS (m _ _ ?_)
 exact t_ (r_ (ra1 P (pt b1 0) ⟨((ggive u0 u1.neg (gleftS u1.abs u2)), u1), v, x, ao6, cap7, y, rfl, I, b, O, hs8, C.kp⟩))
theorem grshI_walk (u0 : BInt) (u2 : Int) (b1 : Nat) (ao2 : Option Addr) (cap3 : Nat) (B : Nat) (w0 : World) (Z0 : Fz) (Rr : List Res) (Z : Fz) (w : World) (hs4 : SlR (tyInt .u32) Z ao2 cap3 u0.abs) (hM0 : Mem B [] w0 Z0 ((.row b1 [.bool u0.neg, .slice ao2 u0.abs.length cap3] 73) :: Rr) Z w) (hZ : Z.on w) {K : BInt → Prop} (hp : grshI_vc u0 u2 K) : Calls Tryz.prog 50 #[pt b1 0, pt b1 0, y6 u2] w fun e w' => ∃ (r : BInt) (ao1001 : Option Addr) (cap1002 : Nat) (Z' : Fz), e = .returned (pt b1 0) ∧ K r ∧ Fz.le Z Z' ∧ SlR (tyInt .u32) Z' ao1001 cap1002 r.abs ∧ Mem B [] w0 Z0 ((.row b1 [.bool r.neg, .slice ao1001 r.abs.length cap1002] 73) :: Rr) Z' w' := by
 refine enter0 Tryz.func50 rfl rfl (by kernel_rfl) ?_; intro Q i; have a := Fz.le.refl Z
 have D := hp (hs4.small)
 refine sqB i hM0 [] [] [] ?_; intro R j
 refine s_ (sqB j hM0 [0] [] [(10, .bool u0.neg)] ?_); intro S c
 obtain ⟨E, F⟩ := D
 refine cn c E ?_
 refine k_ (sqH ?_); intro G k
 refine bt c hM0 6 [0] [] [(23, pt b1 0), (27, .slice ao2 u0.abs.length cap3), (28, y6 u2)] ?_; intro T l
 obtain ⟨H, m⟩ := F
 refine ck l 81 #[.slice ao2 u0.abs.length cap3, y6 u2] ?_
 refine (gright_fun u0.abs u2 H ao2 cap3 _ _ hs4 hM0.fz).mono ?_; rintro _ I ⟨n, o, J, rfl, b, hm⟩; refine ⟨_, rfl, ?_⟩; intro U p; have q := hM0.callZ hm; have s := hm.ext.le
 replace hs4 := hs4.mono s
 replace a := Fz.le.trans a s
 have d : Mem B [] w0 Z0 ((.row b1 [.bool u0.neg, .slice ao2 u0.abs.length cap3] 73) :: Rr) J I := q
 have t := m (b.small)
 refine ck p 78 #[pt b1 0, .bool false, .slice n (grightS u0.abs u2).length o] ?_
 obtain ⟨f, L, u⟩ := hxq t
 have g := ggive_fun u0 false (grightS u0.abs u2) b1 ao2 cap3 n o _ _ _ _ _ _ hs4 b d d.fz; rw [L] at g; refine g.mono ?_; rintro _ M ⟨v, x, y, rfl, h, z, hm⟩; refine ⟨_, rfl, ?_⟩; intro V A; have C := hm
 replace a := Fz.le.trans a h
 have N : Mem B [] w0 Z0 ((.row b1 [.bool f.neg, .slice v f.abs.length x] 73) :: Rr) y M := C
 have O := u (z.small)
 refine s1 A 6 (pt b1 0) ?_; intro W P
 apply k
 exact r_ (ra1 P (pt b1 0) ⟨f, v, x, y, rfl, O, a, z, N.kp⟩)
theorem gnegI_walk (u0 : BInt) (u1 : BInt) (b1 : Nat) (ao2 : Option Addr) (cap3 : Nat) (b5 : Nat) (ao6 : Option Addr) (cap7 : Nat) (B : Nat) (w0 : World) (Z0 : Fz) (Rr : List Res) (Z : Fz) (w : World) (hs4 : SlR (tyInt .u32) Z ao2 cap3 u0.abs) (hs8 : SlR (tyInt .u32) Z ao6 cap7 u1.abs) (hM0 : Mem B [] w0 Z0 ((.row b1 [.bool u0.neg, .slice ao2 u0.abs.length cap3] 73) :: (.row b5 [.bool u1.neg, .slice ao6 u1.abs.length cap7] 73) :: Rr) Z w) (hZ : Z.on w) {K : (BInt × BInt) → Prop} (hp : gnegI_vc u0 u1 K) : Calls Tryz.prog 51 #[pt b1 0, pt b5 0] w fun e w' => ∃ (r : BInt × BInt) (ao1001 : Option Addr) (cap1002 : Nat) (ao1004 : Option Addr) (cap1005 : Nat) (Z' : Fz), e = .returned (pt b1 0) ∧ K r ∧ Fz.le Z Z' ∧ SlR (tyInt .u32) Z' ao1001 cap1002 r.1.abs ∧ SlR (tyInt .u32) Z' ao1004 cap1005 r.2.abs ∧ Mem B [] w0 Z0 ((.row b1 [.bool r.1.neg, .slice ao1001 r.1.abs.length cap1002] 73) :: (.row b5 [.bool r.2.neg, .slice ao1004 r.2.abs.length cap1005] 73) :: Rr) Z' w' := by
 refine enter0 Tryz.func51 rfl rfl (by kernel_rfl) ?_; intro U l; have b := Fz.le.refl Z
 have H := hp (hs4.small) (hs8.small)
 refine sqB l hM0 [] [] [] ?_; intro I n
 have o : Fr 17 [] [⟨0, [], pt b1 0⟩, ⟨1, [], pt b5 0⟩] I := n.reg
 refine wp_seq (rgS mixed hM0 [(0, true), (1, true), (2, true), (3, true), (4, true), (5, true), (6, true), (7, true), (8, true), (9, true), (10, false), (11, false), (12, true)] [] [1] [.row b5 [.bool u1.neg, .slice ao6 u1.abs.length cap7] 73] ?_)
 intro J p V g
 have a := Fz.le.refl Z
 refine cS o 10 [0, 0] [] [(5, pt b1 0), (10, .bool (!u1.neg)), (14, .slice ao6 u1.abs.length cap7)] ?_; intro W q
 refine eS rfl ?_; intro L s
 obtain ⟨M, N⟩ := H
 refine ck q 83 #[.slice ao6 u1.abs.length cap7] ?_
 refine (gtwin_fun u1.abs M ao6 cap7 _ _ hs8 g.fz).mono ?_; rintro _ t ⟨h, i, O, rfl, hm⟩; refine ⟨_, rfl, ?_⟩; intro X u; have v := g.callZ hm; have d := hm.ext.le
 replace hs4 := hs4.mono d
 replace hs8 := hs8.mono d
 replace a := a.mono d
 replace b := Fz.le.trans b d
 have x : Mem B [] w0 Z0 ((.own (tyInt .u32) 105 h i (gtwinS u1.abs)) :: (.row b1 [.bool u0.neg, .slice ao2 u0.abs.length cap3] 73) :: (.row b5 [.bool u1.neg, .slice ao6 u1.abs.length cap7] 73) :: Rr) O t := v
 refine nl (qnI (s _ _ (x.cst a [2]) ?_))
 refine eS rfl ?_; intro P y
 obtain ⟨Q, f, z, j⟩ := x.freeze 0 rfl
 replace hs4 := hs4.mono f
 replace hs8 := hs8.mono f
 replace a := a.mono f
 replace b := Fz.le.trans b f
 have k : Mem B [] w0 Z0 ((.row b1 [.bool u0.neg, .slice ao2 u0.abs.length cap3] 73) :: (.row b5 [.bool u1.neg, .slice ao6 u1.abs.length cap7] 73) :: Rr) Q t := z
 refine ck u 78 #[pt b1 0, .bool (!u1.neg), .slice h (gtwinS u1.abs).length i] ?_
 refine (ggive_fun u0 (!u1.neg) (gtwinS u1.abs) b1 ao2 cap3 h i _ _ _ _ _ _ hs4 j k k.fz).mono ?_; rintro _ R ⟨A, C, D, rfl, c, S, hm⟩; refine ⟨_, rfl, ?_⟩; intro Y E; have F := hm
 replace hs8 := hs8.mono c
 replace a := a.mono c
 replace b := Fz.le.trans b c
 have G : Mem B [] w0 Z0 ((.row b1 [.bool (ggive u0 (!u1.neg) (gtwinS u1.abs)).neg, .slice A (ggive u0 (!u1.neg) (gtwinS u1.abs)).abs.length C] 73) :: (.row b5 [.bool u1.neg, .slice ao6 u1.abs.length cap7] 73) :: Rr) D R := F
 refine nl (qnI (y _ _ (G.cst a [1]) ?_))
 refine cS E 1 [] [] [(4, pt b1 0)] ?_; intro aa T
 refine nS (p _ _ ?_)
 exact t_ (r_ (ra1 T (pt b1 0) ⟨((ggive u0 (!u1.neg) (gtwinS u1.abs)), u1), A, C, ao6, cap7, D, rfl, N, b, S, hs8, G.kp⟩))
end Go.Proofs.YtdndfbamhnchfaaGreatDoor
set_option linter.unusedVariables false
set_option linter.unusedSimpArgs false
set_option linter.defProp false
set_option maxRecDepth 100000
set_option maxHeartbeats 0
namespace Go.Proofs.YtdndfbamhnchfaaGreatDoor
open Go.Sy Go.RowKit
abbrev e75Ne (X : BRat) (A0 : Option Addr) (C0 : Nat) (A1 : Option Addr) (C1 : Nat) : List Value := [.bool X.a.neg, .slice A0 X.a.abs.length C0, .bool X.b.neg, .slice A1 X.b.abs.length C1]
theorem gmulAB_fun (u0 : BInt) (u1 : BRat) (u2 : BRat) (hpre : bk u1.a ∧ bk u2.b) (b1 : Nat) (ao2 : Option Addr) (cap3 : Nat) (b5 : Nat) (ao6 : Option Addr) (cap7 : Nat) (ao9 : Option Addr) (cap10 : Nat) (b12 : Nat) (ao13 : Option Addr) (cap14 : Nat) (ao16 : Option Addr) (cap17 : Nat) (B : Nat) (w0 : World) (Z0 : Fz) (Rr : List Res) (Z : Fz) (w : World) (hs4 : SlR (tyInt .u32) Z ao2 cap3 u0.abs) (hs8 : SlR (tyInt .u32) Z ao6 cap7 u1.a.abs) (hs11 : SlR (tyInt .u32) Z ao9 cap10 u1.b.abs) (hs15 : SlR (tyInt .u32) Z ao13 cap14 u2.a.abs) (hs18 : SlR (tyInt .u32) Z ao16 cap17 u2.b.abs) (hM0 : Mem B [] w0 Z0 ((.row b1 [.bool u0.neg, .slice ao2 u0.abs.length cap3] 73) :: (.row b5 [.bool u1.a.neg, .slice ao6 u1.a.abs.length cap7, .bool u1.b.neg, .slice ao9 u1.b.abs.length cap10] 75) :: (.row b12 [.bool u2.a.neg, .slice ao13 u2.a.abs.length cap14, .bool u2.b.neg, .slice ao16 u2.b.abs.length cap17] 75) :: Rr) Z w) (hZ : Z.on w) : Calls Tryz.prog 75 #[pt b1 0, pt b5 0, pt b12 2] w fun e w' => ∃ (ao1001 : Option Addr) (cap1002 : Nat) (ao1004 : Option Addr) (cap1005 : Nat) (ao1007 : Option Addr) (cap1008 : Nat) (ao1010 : Option Addr) (cap1011 : Nat) (ao1013 : Option Addr) (cap1014 : Nat) (Z' : Fz), e = .returned (pt b1 0) ∧ Fz.le Z Z' ∧ SlR (tyInt .u32) Z' ao1001 cap1002 (gmulABS u0 u1 u2).1.abs ∧ SlR (tyInt .u32) Z' ao1004 cap1005 (gmulABS u0 u1 u2).2.1.a.abs ∧ SlR (tyInt .u32) Z' ao1007 cap1008 (gmulABS u0 u1 u2).2.1.b.abs ∧ SlR (tyInt .u32) Z' ao1010 cap1011 (gmulABS u0 u1 u2).2.2.a.abs ∧ SlR (tyInt .u32) Z' ao1013 cap1014 (gmulABS u0 u1 u2).2.2.b.abs ∧ Mem B [] w0 Z0 ((.row b1 [.bool (gmulABS u0 u1 u2).1.neg, .slice ao1001 (gmulABS u0 u1 u2).1.abs.length cap1002] 73) :: (.row b5 [.bool (gmulABS u0 u1 u2).2.1.a.neg, .slice ao1004 (gmulABS u0 u1 u2).2.1.a.abs.length cap1005, .bool (gmulABS u0 u1 u2).2.1.b.neg, .slice ao1007 (gmulABS u0 u1 u2).2.1.b.abs.length cap1008] 75) :: (.row b12 [.bool (gmulABS u0 u1 u2).2.2.a.neg, .slice ao1010 (gmulABS u0 u1 u2).2.2.a.abs.length cap1011, .bool (gmulABS u0 u1 u2).2.2.b.neg, .slice ao1013 (gmulABS u0 u1 u2).2.2.b.abs.length cap1014] 75) :: Rr) Z' w' :=
 (gmulAB_walk u0 u1 u2 b1 ao2 cap3 b5 ao6 cap7 ao9 cap10 b12 ao13 cap14 ao16 cap17 B w0 Z0 Rr Z w hs4 hs8 hs11 hs15 hs18 hM0 hZ (gmulAB_ok u0 u1 u2 hpre)).mono fun _ _ ⟨r, h0, h1, h2, h3, h4, h5, h6, h7, h8, h9, h10, he, hk, f0, f1, f2, f3, f4, f5, hm⟩ => by subst hk; exact ⟨h0, h1, h2, h3, h4, h5, h6, h7, h8, h9, h10, he, f0, f1, f2, f3, f4, f5, hm⟩
theorem gmulBA_fun (u0 : BInt) (u1 : BRat) (u2 : BRat) (hpre : bk u1.b ∧ bk u2.a) (b1 : Nat) (ao2 : Option Addr) (cap3 : Nat) (b5 : Nat) (ao6 : Option Addr) (cap7 : Nat) (ao9 : Option Addr) (cap10 : Nat) (b12 : Nat) (ao13 : Option Addr) (cap14 : Nat) (ao16 : Option Addr) (cap17 : Nat) (B : Nat) (w0 : World) (Z0 : Fz) (Rr : List Res) (Z : Fz) (w : World) (hs4 : SlR (tyInt .u32) Z ao2 cap3 u0.abs) (hs8 : SlR (tyInt .u32) Z ao6 cap7 u1.a.abs) (hs11 : SlR (tyInt .u32) Z ao9 cap10 u1.b.abs) (hs15 : SlR (tyInt .u32) Z ao13 cap14 u2.a.abs) (hs18 : SlR (tyInt .u32) Z ao16 cap17 u2.b.abs) (hM0 : Mem B [] w0 Z0 ((.row b1 [.bool u0.neg, .slice ao2 u0.abs.length cap3] 73) :: (.row b5 [.bool u1.a.neg, .slice ao6 u1.a.abs.length cap7, .bool u1.b.neg, .slice ao9 u1.b.abs.length cap10] 75) :: (.row b12 [.bool u2.a.neg, .slice ao13 u2.a.abs.length cap14, .bool u2.b.neg, .slice ao16 u2.b.abs.length cap17] 75) :: Rr) Z w) (hZ : Z.on w) : Calls Tryz.prog 75 #[pt b1 0, pt b5 2, pt b12 0] w fun e w' => ∃ (ao1001 : Option Addr) (cap1002 : Nat) (ao1004 : Option Addr) (cap1005 : Nat) (ao1007 : Option Addr) (cap1008 : Nat) (ao1010 : Option Addr) (cap1011 : Nat) (ao1013 : Option Addr) (cap1014 : Nat) (Z' : Fz), e = .returned (pt b1 0) ∧ Fz.le Z Z' ∧ SlR (tyInt .u32) Z' ao1001 cap1002 (gmulBAS u0 u1 u2).1.abs ∧ SlR (tyInt .u32) Z' ao1004 cap1005 (gmulBAS u0 u1 u2).2.1.a.abs ∧ SlR (tyInt .u32) Z' ao1007 cap1008 (gmulBAS u0 u1 u2).2.1.b.abs ∧ SlR (tyInt .u32) Z' ao1010 cap1011 (gmulBAS u0 u1 u2).2.2.a.abs ∧ SlR (tyInt .u32) Z' ao1013 cap1014 (gmulBAS u0 u1 u2).2.2.b.abs ∧ Mem B [] w0 Z0 ((.row b1 [.bool (gmulBAS u0 u1 u2).1.neg, .slice ao1001 (gmulBAS u0 u1 u2).1.abs.length cap1002] 73) :: (.row b5 [.bool (gmulBAS u0 u1 u2).2.1.a.neg, .slice ao1004 (gmulBAS u0 u1 u2).2.1.a.abs.length cap1005, .bool (gmulBAS u0 u1 u2).2.1.b.neg, .slice ao1007 (gmulBAS u0 u1 u2).2.1.b.abs.length cap1008] 75) :: (.row b12 [.bool (gmulBAS u0 u1 u2).2.2.a.neg, .slice ao1010 (gmulBAS u0 u1 u2).2.2.a.abs.length cap1011, .bool (gmulBAS u0 u1 u2).2.2.b.neg, .slice ao1013 (gmulBAS u0 u1 u2).2.2.b.abs.length cap1014] 75) :: Rr) Z' w' :=
 (gmulBA_walk u0 u1 u2 b1 ao2 cap3 b5 ao6 cap7 ao9 cap10 b12 ao13 cap14 ao16 cap17 B w0 Z0 Rr Z w hs4 hs8 hs11 hs15 hs18 hM0 hZ (gmulBA_ok u0 u1 u2 hpre)).mono fun _ _ ⟨r, h0, h1, h2, h3, h4, h5, h6, h7, h8, h9, h10, he, hk, f0, f1, f2, f3, f4, f5, hm⟩ => by subst hk; exact ⟨h0, h1, h2, h3, h4, h5, h6, h7, h8, h9, h10, he, f0, f1, f2, f3, f4, f5, hm⟩
theorem gmulAA_fun (u0 : BInt) (u1 : BRat) (u2 : BRat) (hpre : bk u1.a ∧ bk u2.a) (b1 : Nat) (ao2 : Option Addr) (cap3 : Nat) (b5 : Nat) (ao6 : Option Addr) (cap7 : Nat) (ao9 : Option Addr) (cap10 : Nat) (b12 : Nat) (ao13 : Option Addr) (cap14 : Nat) (ao16 : Option Addr) (cap17 : Nat) (B : Nat) (w0 : World) (Z0 : Fz) (Rr : List Res) (Z : Fz) (w : World) (hs4 : SlR (tyInt .u32) Z ao2 cap3 u0.abs) (hs8 : SlR (tyInt .u32) Z ao6 cap7 u1.a.abs) (hs11 : SlR (tyInt .u32) Z ao9 cap10 u1.b.abs) (hs15 : SlR (tyInt .u32) Z ao13 cap14 u2.a.abs) (hs18 : SlR (tyInt .u32) Z ao16 cap17 u2.b.abs) (hM0 : Mem B [] w0 Z0 ((.row b1 [.bool u0.neg, .slice ao2 u0.abs.length cap3] 73) :: (.row b5 [.bool u1.a.neg, .slice ao6 u1.a.abs.length cap7, .bool u1.b.neg, .slice ao9 u1.b.abs.length cap10] 75) :: (.row b12 [.bool u2.a.neg, .slice ao13 u2.a.abs.length cap14, .bool u2.b.neg, .slice ao16 u2.b.abs.length cap17] 75) :: Rr) Z w) (hZ : Z.on w) : Calls Tryz.prog 75 #[pt b1 0, pt b5 0, pt b12 0] w fun e w' => ∃ (ao1001 : Option Addr) (cap1002 : Nat) (ao1004 : Option Addr) (cap1005 : Nat) (ao1007 : Option Addr) (cap1008 : Nat) (ao1010 : Option Addr) (cap1011 : Nat) (ao1013 : Option Addr) (cap1014 : Nat) (Z' : Fz), e = .returned (pt b1 0) ∧ Fz.le Z Z' ∧ SlR (tyInt .u32) Z' ao1001 cap1002 (gmulAAS u0 u1 u2).1.abs ∧ SlR (tyInt .u32) Z' ao1004 cap1005 (gmulAAS u0 u1 u2).2.1.a.abs ∧ SlR (tyInt .u32) Z' ao1007 cap1008 (gmulAAS u0 u1 u2).2.1.b.abs ∧ SlR (tyInt .u32) Z' ao1010 cap1011 (gmulAAS u0 u1 u2).2.2.a.abs ∧ SlR (tyInt .u32) Z' ao1013 cap1014 (gmulAAS u0 u1 u2).2.2.b.abs ∧ Mem B [] w0 Z0 ((.row b1 [.bool (gmulAAS u0 u1 u2).1.neg, .slice ao1001 (gmulAAS u0 u1 u2).1.abs.length cap1002] 73) :: (.row b5 [.bool (gmulAAS u0 u1 u2).2.1.a.neg, .slice ao1004 (gmulAAS u0 u1 u2).2.1.a.abs.length cap1005, .bool (gmulAAS u0 u1 u2).2.1.b.neg, .slice ao1007 (gmulAAS u0 u1 u2).2.1.b.abs.length cap1008] 75) :: (.row b12 [.bool (gmulAAS u0 u1 u2).2.2.a.neg, .slice ao1010 (gmulAAS u0 u1 u2).2.2.a.abs.length cap1011, .bool (gmulAAS u0 u1 u2).2.2.b.neg, .slice ao1013 (gmulAAS u0 u1 u2).2.2.b.abs.length cap1014] 75) :: Rr) Z' w' :=
 (gmulAA_walk u0 u1 u2 b1 ao2 cap3 b5 ao6 cap7 ao9 cap10 b12 ao13 cap14 ao16 cap17 B w0 Z0 Rr Z w hs4 hs8 hs11 hs15 hs18 hM0 hZ (gmulAA_ok u0 u1 u2 hpre)).mono fun _ _ ⟨r, h0, h1, h2, h3, h4, h5, h6, h7, h8, h9, h10, he, hk, f0, f1, f2, f3, f4, f5, hm⟩ => by subst hk; exact ⟨h0, h1, h2, h3, h4, h5, h6, h7, h8, h9, h10, he, f0, f1, f2, f3, f4, f5, hm⟩
theorem gmulBB_fun (u0 : BInt) (u1 : BRat) (u2 : BRat) (hpre : bk u1.b ∧ bk u2.b) (b1 : Nat) (ao2 : Option Addr) (cap3 : Nat) (b5 : Nat) (ao6 : Option Addr) (cap7 : Nat) (ao9 : Option Addr) (cap10 : Nat) (b12 : Nat) (ao13 : Option Addr) (cap14 : Nat) (ao16 : Option Addr) (cap17 : Nat) (B : Nat) (w0 : World) (Z0 : Fz) (Rr : List Res) (Z : Fz) (w : World) (hs4 : SlR (tyInt .u32) Z ao2 cap3 u0.abs) (hs8 : SlR (tyInt .u32) Z ao6 cap7 u1.a.abs) (hs11 : SlR (tyInt .u32) Z ao9 cap10 u1.b.abs) (hs15 : SlR (tyInt .u32) Z ao13 cap14 u2.a.abs) (hs18 : SlR (tyInt .u32) Z ao16 cap17 u2.b.abs) (hM0 : Mem B [] w0 Z0 ((.row b1 [.bool u0.neg, .slice ao2 u0.abs.length cap3] 73) :: (.row b5 [.bool u1.a.neg, .slice ao6 u1.a.abs.length cap7, .bool u1.b.neg, .slice ao9 u1.b.abs.length cap10] 75) :: (.row b12 [.bool u2.a.neg, .slice ao13 u2.a.abs.length cap14, .bool u2.b.neg, .slice ao16 u2.b.abs.length cap17] 75) :: Rr) Z w) (hZ : Z.on w) : Calls Tryz.prog 75 #[pt b1 0, pt b5 2, pt b12 2] w fun e w' => ∃ (ao1001 : Option Addr) (cap1002 : Nat) (ao1004 : Option Addr) (cap1005 : Nat) (ao1007 : Option Addr) (cap1008 : Nat) (ao1010 : Option Addr) (cap1011 : Nat) (ao1013 : Option Addr) (cap1014 : Nat) (Z' : Fz), e = .returned (pt b1 0) ∧ Fz.le Z Z' ∧ SlR (tyInt .u32) Z' ao1001 cap1002 (gmulBBS u0 u1 u2).1.abs ∧ SlR (tyInt .u32) Z' ao1004 cap1005 (gmulBBS u0 u1 u2).2.1.a.abs ∧ SlR (tyInt .u32) Z' ao1007 cap1008 (gmulBBS u0 u1 u2).2.1.b.abs ∧ SlR (tyInt .u32) Z' ao1010 cap1011 (gmulBBS u0 u1 u2).2.2.a.abs ∧ SlR (tyInt .u32) Z' ao1013 cap1014 (gmulBBS u0 u1 u2).2.2.b.abs ∧ Mem B [] w0 Z0 ((.row b1 [.bool (gmulBBS u0 u1 u2).1.neg, .slice ao1001 (gmulBBS u0 u1 u2).1.abs.length cap1002] 73) :: (.row b5 [.bool (gmulBBS u0 u1 u2).2.1.a.neg, .slice ao1004 (gmulBBS u0 u1 u2).2.1.a.abs.length cap1005, .bool (gmulBBS u0 u1 u2).2.1.b.neg, .slice ao1007 (gmulBBS u0 u1 u2).2.1.b.abs.length cap1008] 75) :: (.row b12 [.bool (gmulBBS u0 u1 u2).2.2.a.neg, .slice ao1010 (gmulBBS u0 u1 u2).2.2.a.abs.length cap1011, .bool (gmulBBS u0 u1 u2).2.2.b.neg, .slice ao1013 (gmulBBS u0 u1 u2).2.2.b.abs.length cap1014] 75) :: Rr) Z' w' :=
 (gmulBB_walk u0 u1 u2 b1 ao2 cap3 b5 ao6 cap7 ao9 cap10 b12 ao13 cap14 ao16 cap17 B w0 Z0 Rr Z w hs4 hs8 hs11 hs15 hs18 hM0 hZ (gmulBB_ok u0 u1 u2 hpre)).mono fun _ _ ⟨r, h0, h1, h2, h3, h4, h5, h6, h7, h8, h9, h10, he, hk, f0, f1, f2, f3, f4, f5, hm⟩ => by subst hk; exact ⟨h0, h1, h2, h3, h4, h5, h6, h7, h8, h9, h10, he, f0, f1, f2, f3, f4, f5, hm⟩
theorem gaddI_fun (u0 : BInt) (u1 : BInt) (u2 : BInt) (hpre : bk u1 ∧ bk u2) (b1 : Nat) (ao2 : Option Addr) (cap3 : Nat) (b5 : Nat) (ao6 : Option Addr) (cap7 : Nat) (b9 : Nat) (ao10 : Option Addr) (cap11 : Nat) (B : Nat) (w0 : World) (Z0 : Fz) (Rr : List Res) (Z : Fz) (w : World) (hs4 : SlR (tyInt .u32) Z ao2 cap3 u0.abs) (hs8 : SlR (tyInt .u32) Z ao6 cap7 u1.abs) (hs12 : SlR (tyInt .u32) Z ao10 cap11 u2.abs) (hM0 : Mem B [] w0 Z0 ((.row b1 [.bool u0.neg, .slice ao2 u0.abs.length cap3] 73) :: (.row b5 [.bool u1.neg, .slice ao6 u1.abs.length cap7] 73) :: (.row b9 [.bool u2.neg, .slice ao10 u2.abs.length cap11] 73) :: Rr) Z w) (hZ : Z.on w) : Calls Tryz.prog 99 #[pt b1 0, pt b5 0, pt b9 0] w fun e w' => ∃ (ao1001 : Option Addr) (cap1002 : Nat) (ao1004 : Option Addr) (cap1005 : Nat) (ao1007 : Option Addr) (cap1008 : Nat) (Z' : Fz), e = .returned (pt b1 0) ∧ Fz.le Z Z' ∧ SlR (tyInt .u32) Z' ao1001 cap1002 (gaddIS u0 u1 u2).1.abs ∧ SlR (tyInt .u32) Z' ao1004 cap1005 (gaddIS u0 u1 u2).2.1.abs ∧ SlR (tyInt .u32) Z' ao1007 cap1008 (gaddIS u0 u1 u2).2.2.abs ∧ Mem B [] w0 Z0 ((.row b1 [.bool (gaddIS u0 u1 u2).1.neg, .slice ao1001 (gaddIS u0 u1 u2).1.abs.length cap1002] 73) :: (.row b5 [.bool (gaddIS u0 u1 u2).2.1.neg, .slice ao1004 (gaddIS u0 u1 u2).2.1.abs.length cap1005] 73) :: (.row b9 [.bool (gaddIS u0 u1 u2).2.2.neg, .slice ao1007 (gaddIS u0 u1 u2).2.2.abs.length cap1008] 73) :: Rr) Z' w' :=
 (gaddI_walk u0 u1 u2 b1 ao2 cap3 b5 ao6 cap7 b9 ao10 cap11 B w0 Z0 Rr Z w hs4 hs8 hs12 hM0 hZ (gaddI_ok u0 u1 u2 hpre)).mono fun _ _ ⟨r, h0, h1, h2, h3, h4, h5, h6, he, hk, f0, f1, f2, f3, hm⟩ => by subst hk; exact ⟨h0, h1, h2, h3, h4, h5, h6, he, f0, f1, f2, f3, hm⟩
def rnorm_fun (u0 : BRat) (hpre : bk u0.a ∧ bk u0.b ∧ iv u0.b ≠ 0) (b1 : Nat) (ao2 : Option Addr) (cap3 : Nat) (ao5 : Option Addr) (cap6 : Nat) (B : Nat) (w0 : World) (Z0 : Fz) (Rr : List Res) (Z : Fz) (w : World) (hs4 : SlR (tyInt .u32) Z ao2 cap3 u0.a.abs) (hs7 : SlR (tyInt .u32) Z ao5 cap6 u0.b.abs) (hM0 : Mem B [] w0 Z0 ((.row b1 [.bool u0.a.neg, .slice ao2 u0.a.abs.length cap3, .bool u0.b.neg, .slice ao5 u0.b.abs.length cap6] 75) :: Rr) Z w) (hZ : Z.on w) := fe_ (rnorm_walk u0 b1 ao2 cap3 ao5 cap6 B w0 Z0 Rr Z w hs4 hs7 hM0 hZ (rnorm_ok u0 hpre))
def rnum_fun (u0 : BRat) (b1 : Nat) (ao2 : Option Addr) (cap3 : Nat) (ao5 : Option Addr) (cap6 : Nat) (B : Nat) (w0 : World) (Z0 : Fz) (Rr : List Res) (Z : Fz) (w : World) (hs4 : SlR (tyInt .u32) Z ao2 cap3 u0.a.abs) (hs7 : SlR (tyInt .u32) Z ao5 cap6 u0.b.abs) (hM0 : Mem B [] w0 Z0 ((.row b1 [.bool u0.a.neg, .slice ao2 u0.a.abs.length cap3, .bool u0.b.neg, .slice ao5 u0.b.abs.length cap6] 75) :: Rr) Z w) (hZ : Z.on w) := fe_ (rnum_walk u0 b1 ao2 cap3 ao5 cap6 B w0 Z0 Rr Z w hs4 hs7 hM0 hZ (rnum_ok u0))
def gi64_fun (u0 : BInt) (hpre : bs u0) (b1 : Nat) (ao2 : Option Addr) (cap3 : Nat) (B : Nat) (w0 : World) (Z0 : Fz) (Rr : List Res) (Z : Fz) (w : World) (hs4 : SlR (tyInt .u32) Z ao2 cap3 u0.abs) (hM0 : Mem B [] w0 Z0 ((.row b1 [.bool u0.neg, .slice ao2 u0.abs.length cap3] 73) :: Rr) Z w) (hZ : Z.on w) := fc_ (gi64_walk u0 b1 ao2 cap3 B w0 Z0 Rr Z w hs4 hM0 hZ (gi64_ok u0 hpre))
def gi64A_fun (u0 : BRat) (hpre : bs u0.a) (b1 : Nat) (ao2 : Option Addr) (cap3 : Nat) (ao5 : Option Addr) (cap6 : Nat) (B : Nat) (w0 : World) (Z0 : Fz) (Rr : List Res) (Z : Fz) (w : World) (hs4 : SlR (tyInt .u32) Z ao2 cap3 u0.a.abs) (hs7 : SlR (tyInt .u32) Z ao5 cap6 u0.b.abs) (hM0 : Mem B [] w0 Z0 ((.row b1 [.bool u0.a.neg, .slice ao2 u0.a.abs.length cap3, .bool u0.b.neg, .slice ao5 u0.b.abs.length cap6] 75) :: Rr) Z w) (hZ : Z.on w) := fe_ (gi64A_walk u0 b1 ao2 cap3 ao5 cap6 B w0 Z0 Rr Z w hs4 hs7 hM0 hZ (gi64A_ok u0 hpre))
theorem gsubI_fun (u0 : BInt) (u1 : BInt) (u2 : BInt) (hpre : bk u1 ∧ bk u2) (b1 : Nat) (ao2 : Option Addr) (cap3 : Nat) (b5 : Nat) (ao6 : Option Addr) (cap7 : Nat) (b9 : Nat) (ao10 : Option Addr) (cap11 : Nat) (B : Nat) (w0 : World) (Z0 : Fz) (Rr : List Res) (Z : Fz) (w : World) (hs4 : SlR (tyInt .u32) Z ao2 cap3 u0.abs) (hs8 : SlR (tyInt .u32) Z ao6 cap7 u1.abs) (hs12 : SlR (tyInt .u32) Z ao10 cap11 u2.abs) (hM0 : Mem B [] w0 Z0 ((.row b1 [.bool u0.neg, .slice ao2 u0.abs.length cap3] 73) :: (.row b5 [.bool u1.neg, .slice ao6 u1.abs.length cap7] 73) :: (.row b9 [.bool u2.neg, .slice ao10 u2.abs.length cap11] 73) :: Rr) Z w) (hZ : Z.on w) : Calls Tryz.prog 74 #[pt b1 0, pt b5 0, pt b9 0] w fun e w' => ∃ (ao1001 : Option Addr) (cap1002 : Nat) (ao1004 : Option Addr) (cap1005 : Nat) (ao1007 : Option Addr) (cap1008 : Nat) (Z' : Fz), e = .returned (pt b1 0) ∧ Fz.le Z Z' ∧ SlR (tyInt .u32) Z' ao1001 cap1002 (gsubIS u0 u1 u2).1.abs ∧ SlR (tyInt .u32) Z' ao1004 cap1005 (gsubIS u0 u1 u2).2.1.abs ∧ SlR (tyInt .u32) Z' ao1007 cap1008 (gsubIS u0 u1 u2).2.2.abs ∧ Mem B [] w0 Z0 ((.row b1 [.bool (gsubIS u0 u1 u2).1.neg, .slice ao1001 (gsubIS u0 u1 u2).1.abs.length cap1002] 73) :: (.row b5 [.bool (gsubIS u0 u1 u2).2.1.neg, .slice ao1004 (gsubIS u0 u1 u2).2.1.abs.length cap1005] 73) :: (.row b9 [.bool (gsubIS u0 u1 u2).2.2.neg, .slice ao1007 (gsubIS u0 u1 u2).2.2.abs.length cap1008] 73) :: Rr) Z' w' :=
 (gsubI_walk u0 u1 u2 b1 ao2 cap3 b5 ao6 cap7 b9 ao10 cap11 B w0 Z0 Rr Z w hs4 hs8 hs12 hM0 hZ (gsubI_ok u0 u1 u2 hpre)).mono fun _ _ ⟨r, h0, h1, h2, h3, h4, h5, h6, he, hk, f0, f1, f2, f3, hm⟩ => by subst hk; exact ⟨h0, h1, h2, h3, h4, h5, h6, he, f0, f1, f2, f3, hm⟩
theorem gcmpA_fun (u0 : BRat) (u1 : BInt) (hpre : bk u0.a ∧ bk u1) (b1 : Nat) (ao2 : Option Addr) (cap3 : Nat) (ao5 : Option Addr) (cap6 : Nat) (b8 : Nat) (ao9 : Option Addr) (cap10 : Nat) (B : Nat) (w0 : World) (Z0 : Fz) (Rr : List Res) (Z : Fz) (w : World) (hs4 : SlR (tyInt .u32) Z ao2 cap3 u0.a.abs) (hs7 : SlR (tyInt .u32) Z ao5 cap6 u0.b.abs) (hs11 : SlR (tyInt .u32) Z ao9 cap10 u1.abs) (hM0 : Mem B [] w0 Z0 ((.row b1 [.bool u0.a.neg, .slice ao2 u0.a.abs.length cap3, .bool u0.b.neg, .slice ao5 u0.b.abs.length cap6] 75) :: (.row b8 [.bool u1.neg, .slice ao9 u1.abs.length cap10] 73) :: Rr) Z w) (hZ : Z.on w) : Calls Tryz.prog 53 #[pt b1 0, pt b8 0] w fun e w' => ∃ (ao1001 : Option Addr) (cap1002 : Nat) (ao1004 : Option Addr) (cap1005 : Nat) (ao1007 : Option Addr) (cap1008 : Nat) (Z' : Fz), e = .returned (i6 (gcmpAS u0 u1).1) ∧ Fz.le Z Z' ∧ SlR (tyInt .u32) Z' ao1001 cap1002 (gcmpAS u0 u1).2.1.a.abs ∧ SlR (tyInt .u32) Z' ao1004 cap1005 (gcmpAS u0 u1).2.1.b.abs ∧ SlR (tyInt .u32) Z' ao1007 cap1008 (gcmpAS u0 u1).2.2.abs ∧ Mem B [] w0 Z0 ((.row b1 [.bool (gcmpAS u0 u1).2.1.a.neg, .slice ao1001 (gcmpAS u0 u1).2.1.a.abs.length cap1002, .bool (gcmpAS u0 u1).2.1.b.neg, .slice ao1004 (gcmpAS u0 u1).2.1.b.abs.length cap1005] 75) :: (.row b8 [.bool (gcmpAS u0 u1).2.2.neg, .slice ao1007 (gcmpAS u0 u1).2.2.abs.length cap1008] 73) :: Rr) Z' w' :=
 (gcmpA_walk u0 u1 b1 ao2 cap3 ao5 cap6 b8 ao9 cap10 B w0 Z0 Rr Z w hs4 hs7 hs11 hM0 hZ (gcmpA_ok u0 u1 hpre)).mono fun _ _ ⟨r, h0, h1, h2, h3, h4, h5, h6, he, hk, f0, f1, f2, f3, hm⟩ => by subst hk; exact ⟨h0, h1, h2, h3, h4, h5, h6, he, f0, f1, f2, f3, hm⟩
theorem gcmpB_fun (u0 : BRat) (u1 : BInt) (hpre : bk u0.b ∧ bk u1) (b1 : Nat) (ao2 : Option Addr) (cap3 : Nat) (ao5 : Option Addr) (cap6 : Nat) (b8 : Nat) (ao9 : Option Addr) (cap10 : Nat) (B : Nat) (w0 : World) (Z0 : Fz) (Rr : List Res) (Z : Fz) (w : World) (hs4 : SlR (tyInt .u32) Z ao2 cap3 u0.a.abs) (hs7 : SlR (tyInt .u32) Z ao5 cap6 u0.b.abs) (hs11 : SlR (tyInt .u32) Z ao9 cap10 u1.abs) (hM0 : Mem B [] w0 Z0 ((.row b1 [.bool u0.a.neg, .slice ao2 u0.a.abs.length cap3, .bool u0.b.neg, .slice ao5 u0.b.abs.length cap6] 75) :: (.row b8 [.bool u1.neg, .slice ao9 u1.abs.length cap10] 73) :: Rr) Z w) (hZ : Z.on w) : Calls Tryz.prog 53 #[pt b1 2, pt b8 0] w fun e w' => ∃ (ao1001 : Option Addr) (cap1002 : Nat) (ao1004 : Option Addr) (cap1005 : Nat) (ao1007 : Option Addr) (cap1008 : Nat) (Z' : Fz), e = .returned (i6 (gcmpBS u0 u1).1) ∧ Fz.le Z Z' ∧ SlR (tyInt .u32) Z' ao1001 cap1002 (gcmpBS u0 u1).2.1.a.abs ∧ SlR (tyInt .u32) Z' ao1004 cap1005 (gcmpBS u0 u1).2.1.b.abs ∧ SlR (tyInt .u32) Z' ao1007 cap1008 (gcmpBS u0 u1).2.2.abs ∧ Mem B [] w0 Z0 ((.row b1 [.bool (gcmpBS u0 u1).2.1.a.neg, .slice ao1001 (gcmpBS u0 u1).2.1.a.abs.length cap1002, .bool (gcmpBS u0 u1).2.1.b.neg, .slice ao1004 (gcmpBS u0 u1).2.1.b.abs.length cap1005] 75) :: (.row b8 [.bool (gcmpBS u0 u1).2.2.neg, .slice ao1007 (gcmpBS u0 u1).2.2.abs.length cap1008] 73) :: Rr) Z' w' :=
 (gcmpB_walk u0 u1 b1 ao2 cap3 ao5 cap6 b8 ao9 cap10 B w0 Z0 Rr Z w hs4 hs7 hs11 hM0 hZ (gcmpB_ok u0 u1 hpre)).mono fun _ _ ⟨r, h0, h1, h2, h3, h4, h5, h6, he, hk, f0, f1, f2, f3, hm⟩ => by subst hk; exact ⟨h0, h1, h2, h3, h4, h5, h6, he, f0, f1, f2, f3, hm⟩
def glshI_fun (u0 : BInt) (u1 : BInt) (u2 : Int) (hpre : bk u1 ∧ 0 ≤ iv u1 ∧ 0 ≤ u2 ∧ u2 ≤ 100) (b1 : Nat) (ao2 : Option Addr) (cap3 : Nat) (b5 : Nat) (ao6 : Option Addr) (cap7 : Nat) (B : Nat) (w0 : World) (Z0 : Fz) (Rr : List Res) (Z : Fz) (w : World) (hs4 : SlR (tyInt .u32) Z ao2 cap3 u0.abs) (hs8 : SlR (tyInt .u32) Z ao6 cap7 u1.abs) (hM0 : Mem B [] w0 Z0 ((.row b1 [.bool u0.neg, .slice ao2 u0.abs.length cap3] 73) :: (.row b5 [.bool u1.neg, .slice ao6 u1.abs.length cap7] 73) :: Rr) Z w) (hZ : Z.on w) := fe_ (glshI_walk u0 u1 u2 b1 ao2 cap3 b5 ao6 cap7 B w0 Z0 Rr Z w hs4 hs8 hM0 hZ (glshI_ok u0 u1 u2 hpre))
def grshI_fun (u0 : BInt) (u2 : Int) (hpre : bk u0 ∧ 0 ≤ iv u0 ∧ u2 = 1) (b1 : Nat) (ao2 : Option Addr) (cap3 : Nat) (B : Nat) (w0 : World) (Z0 : Fz) (Rr : List Res) (Z : Fz) (w : World) (hs4 : SlR (tyInt .u32) Z ao2 cap3 u0.abs) (hM0 : Mem B [] w0 Z0 ((.row b1 [.bool u0.neg, .slice ao2 u0.abs.length cap3] 73) :: Rr) Z w) (hZ : Z.on w) := fc_ (grshI_walk u0 u2 b1 ao2 cap3 B w0 Z0 Rr Z w hs4 hM0 hZ (grshI_ok u0 u2 hpre))
def gnegI_fun (u0 : BInt) (u1 : BInt) (hpre : bk u1) (b1 : Nat) (ao2 : Option Addr) (cap3 : Nat) (b5 : Nat) (ao6 : Option Addr) (cap7 : Nat) (B : Nat) (w0 : World) (Z0 : Fz) (Rr : List Res) (Z : Fz) (w : World) (hs4 : SlR (tyInt .u32) Z ao2 cap3 u0.abs) (hs8 : SlR (tyInt .u32) Z ao6 cap7 u1.abs) (hM0 : Mem B [] w0 Z0 ((.row b1 [.bool u0.neg, .slice ao2 u0.abs.length cap3] 73) :: (.row b5 [.bool u1.neg, .slice ao6 u1.abs.length cap7] 73) :: Rr) Z w) (hZ : Z.on w) := fe_ (gnegI_walk u0 u1 b1 ao2 cap3 b5 ao6 cap7 B w0 Z0 Rr Z w hs4 hs8 hM0 hZ (gnegI_ok u0 u1 hpre))
theorem rsf_walk (u0 : BRat) (u1 : BInt) (u2 : BInt) (b1 : Nat) (ao2 : Option Addr) (cap3 : Nat) (ao5 : Option Addr) (cap6 : Nat) (b8 : Nat) (ao9 : Option Addr) (cap10 : Nat) (b12 : Nat) (ao13 : Option Addr) (cap14 : Nat) (B : Nat) (w0 : World) (Z0 : Fz) (Rr : List Res) (Z : Fz) (w : World) (hs4 : SlR (tyInt .u32) Z ao2 cap3 u0.a.abs) (hs7 : SlR (tyInt .u32) Z ao5 cap6 u0.b.abs) (hs11 : SlR (tyInt .u32) Z ao9 cap10 u1.abs) (hs15 : SlR (tyInt .u32) Z ao13 cap14 u2.abs) (hM0 : Mem B [] w0 Z0 ((.row b1 [.bool u0.a.neg, .slice ao2 u0.a.abs.length cap3, .bool u0.b.neg, .slice ao5 u0.b.abs.length cap6] 75) :: (.row b8 [.bool u1.neg, .slice ao9 u1.abs.length cap10] 73) :: (.row b12 [.bool u2.neg, .slice ao13 u2.abs.length cap14] 73) :: Rr) Z w) (hZ : Z.on w) {K : (BRat × BInt × BInt) → Prop} (hp : rsf_vc u0 u1 u2 K) : Calls Tryz.prog 73 #[pt b1 0, pt b8 0, pt b12 0] w fun e w' => ∃ (r : BRat × BInt × BInt) (ao1001 : Option Addr) (cap1002 : Nat) (ao1004 : Option Addr) (cap1005 : Nat) (ao1007 : Option Addr) (cap1008 : Nat) (ao1010 : Option Addr) (cap1011 : Nat) (Z' : Fz), e = .returned (pt b1 0) ∧ K r ∧ Fz.le Z Z' ∧ SlR (tyInt .u32) Z' ao1001 cap1002 r.1.a.abs ∧ SlR (tyInt .u32) Z' ao1004 cap1005 r.1.b.abs ∧ SlR (tyInt .u32) Z' ao1007 cap1008 r.2.1.abs ∧ SlR (tyInt .u32) Z' ao1010 cap1011 r.2.2.abs ∧ Mem B [] w0 Z0 ((.row b1 [.bool r.1.a.neg, .slice ao1001 r.1.a.abs.length cap1002, .bool r.1.b.neg, .slice ao1004 r.1.b.abs.length cap1005] 75) :: (.row b8 [.bool r.2.1.neg, .slice ao1007 r.2.1.abs.length cap1008] 73) :: (.row b12 [.bool r.2.2.neg, .slice ao1010 r.2.2.abs.length cap1011] 73) :: Rr) Z' w' := by
 refine enter0 Tryz.func73 rfl rfl (by kernel_rfl) ?_; intro a0 X; have f := Fz.le.refl Z
 have bc := hp (hs4.small) (hs7.small) (hs11.small) (hs15.small)
 refine sqB X hM0 [] [] [] ?_; intro bL ac
 refine s_ (sqB ac hM0 [2] [] [(14, .bool ((u2.abs.length : Int) == 0))] ?_); intro bM C
 obtain ⟨bd, be⟩ := bc
 refine cn C bd ?_
 refine k_ (sqH ?_); intro bf ad
 refine nw C hM0 pb [.bool false, .slice none 0 0] 73 ?_; intro c bN bO ae D
 refine s1 ae 20 (pt b8 0) ?_; intro bP af
 refine ck af 100 #[pt c 0, pt b8 0] ?_
 refine enter0 Tryz.func100 rfl rfl (by kernel_rfl) ?_; intro bQ ag
 refine sqB ag D [] [] [] ?_; intro bg ah
 have ai : Fr 16 [] [⟨0, [], pt c 0⟩, ⟨1, [], pt b8 0⟩] bg := ah.reg
 refine wp_seq (rgS mixed D [(0, true), (1, true), (2, true), (3, true), (4, true), (5, true), (6, true), (7, true), (8, true), (9, false), (10, false), (11, true)] [] [2] [.row b8 [.bool u1.neg, .slice ao9 u1.abs.length cap10] 73] ?_)
 intro bh aj bR E
 have o := Fz.le.refl Z
 refine cS ai 9 [0, 0] [] [(5, pt c 0), (9, .bool u1.neg), (13, .slice ao9 u1.abs.length cap10)] ?_; intro bS ak
 refine eS rfl ?_; intro bi al
 obtain ⟨bj, bk⟩ := be
 refine ck ak 83 #[.slice ao9 u1.abs.length cap10] ?_
 refine (gtwin_fun u1.abs bj ao9 cap10 _ _ hs11 E.fz).mono ?_; rintro _ am ⟨F, G, bl, rfl, hm⟩; refine ⟨_, rfl, ?_⟩; intro bT an; have ao := E.callZ hm; have u := hm.ext.le
 replace hs11 := hs11.mono u
 replace hs15 := hs15.mono u
 replace o := o.mono u
 replace f := Fz.le.trans f u
 have ap : Mem B [] w0 Z0 ((.own (tyInt .u32) 105 F G (gtwinS u1.abs)) :: (.row c [.bool false, .slice none 0 0] 73) :: (.row b1 (e75Ne u0 ao2 cap3 ao5 cap6) 75) :: (.row b8 [.bool u1.neg, .slice ao9 u1.abs.length cap10] 73) :: (.row b12 [.bool u2.neg, .slice ao13 u2.abs.length cap14] 73) :: Rr) bl am := ao
 refine nl (qnI (al _ _ (ap.cst o [3]) ?_))
 refine eS rfl ?_; intro bm aq
 obtain ⟨bn, v, ar, i⟩ := ap.freeze 0 rfl
 replace hs11 := hs11.mono v
 replace hs15 := hs15.mono v
 replace o := o.mono v
 replace f := Fz.le.trans f v
 have H : Mem B [] w0 Z0 ((.row c [.bool false, .slice none 0 0] 73) :: (.row b1 (e75Ne u0 ao2 cap3 ao5 cap6) 75) :: (.row b8 [.bool u1.neg, .slice ao9 u1.abs.length cap10] 73) :: (.row b12 [.bool u2.neg, .slice ao13 u2.abs.length cap14] 73) :: Rr) bn am := ar
 refine ck an 78 #[pt c 0, .bool u1.neg, .slice F (gtwinS u1.abs).length G] ?_
 refine (ggive_fun (⟨false, []⟩ : BInt) u1.neg (gtwinS u1.abs) c none 0 F G _ _ _ _ _ _ (SlR.nil _ _) i H H.fz).mono ?_; rintro _ bo ⟨g, h, I, rfl, t, j, hm⟩; refine ⟨_, rfl, ?_⟩; intro bU au; have av := hm
 replace hs11 := hs11.mono t
 replace hs15 := hs15.mono t
 replace o := o.mono t
 replace f := Fz.le.trans f t
 have J : Mem B [] w0 Z0 ((.row c [.bool (ggive (⟨false, []⟩ : BInt) u1.neg (gtwinS u1.abs)).neg, .slice g (ggive (⟨false, []⟩ : BInt) u1.neg (gtwinS u1.abs)).abs.length h] 73) :: (.row b1 (e75Ne u0 ao2 cap3 ao5 cap6) 75) :: (.row b8 [.bool u1.neg, .slice ao9 u1.abs.length cap10] 73) :: (.row b12 [.bool u2.neg, .slice ao13 u2.abs.length cap14] 73) :: Rr) I bo := av
 refine nl (qnI (aq _ _ (J.cst o [2]) ?_))
 refine cS au 1 [] [] [(4, pt c 0)] ?_; intro bV aw
 refine nS (aj _ _ ?_)
 refine t_ (r_ (ra1 aw (pt c 0) ?_))
 refine ⟨_, rfl, ?_⟩; intro bW ax
 refine nw ax J pb [.bool false, .slice none 0 0] 73 ?_; intro d bX bp ay az
 refine s1 ay 23 (pt b12 0) ?_; intro bY aA
 have L : Mem B [] w0 Z0 ((.row d [.bool false, .slice none 0 0] 73) :: (.row c [.bool (ggive (⟨false, []⟩ : BInt) u1.neg (gtwinS u1.abs)).neg, .slice g (ggive (⟨false, []⟩ : BInt) u1.neg (gtwinS u1.abs)).abs.length h] 73) :: (.row b1 (e75Ne u0 ao2 cap3 ao5 cap6) 75) :: (.row b8 [.bool u1.neg, .slice ao9 u1.abs.length cap10] 73) :: (.row b12 [.bool u2.neg, .slice ao13 u2.abs.length cap14] 73) :: Rr) I bp := az
 refine ck aA 100 #[pt d 0, pt b12 0] ?_
 refine enter0 Tryz.func100 rfl rfl (by kernel_rfl) ?_; intro bZ aB
 refine sqB aB L [] [] [] ?_; intro bq aC
 have aD : Fr 16 [] [⟨0, [], pt d 0⟩, ⟨1, [], pt b12 0⟩] bq := aC.reg
 refine wp_seq (rgS mixed L [(0, true), (1, true), (2, true), (3, true), (4, true), (5, true), (6, true), (7, true), (8, true), (9, false), (10, false), (11, true)] [] [4] [.row b12 [.bool u2.neg, .slice ao13 u2.abs.length cap14] 73] ?_)
 intro br aE b0 M
 have p := Fz.le.refl I
 refine cS aD 9 [0, 0] [] [(5, pt d 0), (9, .bool u2.neg), (13, .slice ao13 u2.abs.length cap14)] ?_; intro b2 aF
 refine eS rfl ?_; intro bs aG
 obtain ⟨bu, bv⟩ := bk
 refine ck aF 83 #[.slice ao13 u2.abs.length cap14] ?_
 refine (gtwin_fun u2.abs bu ao13 cap14 _ _ hs15 M.fz).mono ?_; rintro _ aH ⟨N, O, bw, rfl, hm⟩; refine ⟨_, rfl, ?_⟩; intro b3 aI; have aJ := M.callZ hm; have q := hm.ext.le
 replace hs11 := hs11.mono q
 replace hs15 := hs15.mono q
 replace j := j.mono q
 replace p := p.mono q
 replace f := Fz.le.trans f q
 have aK : Mem B [] w0 Z0 ((.own (tyInt .u32) 105 N O (gtwinS u2.abs)) :: (.row d [.bool false, .slice none 0 0] 73) :: (.row c [.bool (ggive (⟨false, []⟩ : BInt) u1.neg (gtwinS u1.abs)).neg, .slice g (ggive (⟨false, []⟩ : BInt) u1.neg (gtwinS u1.abs)).abs.length h] 73) :: (.row b1 (e75Ne u0 ao2 cap3 ao5 cap6) 75) :: (.row b8 [.bool u1.neg, .slice ao9 u1.abs.length cap10] 73) :: (.row b12 [.bool u2.neg, .slice ao13 u2.abs.length cap14] 73) :: Rr) bw aH := aJ
 refine nl (qnI (aG _ _ (aK.cst p [5]) ?_))
 refine eS rfl ?_; intro bx aL
 obtain ⟨bz, s, aM, x⟩ := aK.freeze 0 rfl
 replace hs11 := hs11.mono s
 replace hs15 := hs15.mono s
 replace j := j.mono s
 replace p := p.mono s
 replace f := Fz.le.trans f s
 have P : Mem B [] w0 Z0 ((.row d [.bool false, .slice none 0 0] 73) :: (.row c [.bool (ggive (⟨false, []⟩ : BInt) u1.neg (gtwinS u1.abs)).neg, .slice g (ggive (⟨false, []⟩ : BInt) u1.neg (gtwinS u1.abs)).abs.length h] 73) :: (.row b1 (e75Ne u0 ao2 cap3 ao5 cap6) 75) :: (.row b8 [.bool u1.neg, .slice ao9 u1.abs.length cap10] 73) :: (.row b12 [.bool u2.neg, .slice ao13 u2.abs.length cap14] 73) :: Rr) bz aH := aM
 refine ck aI 78 #[pt d 0, .bool u2.neg, .slice N (gtwinS u2.abs).length O] ?_
 refine (ggive_fun (⟨false, []⟩ : BInt) u2.neg (gtwinS u2.abs) d none 0 N O _ _ _ _ _ _ (SlR.nil _ _) x P P.fz).mono ?_; rintro _ aN ⟨k, l, z, rfl, m, Q, hm⟩; refine ⟨_, rfl, ?_⟩; intro b4 aO; have aP := hm
 replace hs11 := hs11.mono m
 replace hs15 := hs15.mono m
 replace j := j.mono m
 replace p := p.mono m
 replace f := Fz.le.trans f m
 have A : Mem B [] w0 Z0 ((.row d [.bool (ggive (⟨false, []⟩ : BInt) u2.neg (gtwinS u2.abs)).neg, .slice k (ggive (⟨false, []⟩ : BInt) u2.neg (gtwinS u2.abs)).abs.length l] 73) :: (.row c [.bool (ggive (⟨false, []⟩ : BInt) u1.neg (gtwinS u1.abs)).neg, .slice g (ggive (⟨false, []⟩ : BInt) u1.neg (gtwinS u1.abs)).abs.length h] 73) :: (.row b1 (e75Ne u0 ao2 cap3 ao5 cap6) 75) :: (.row b8 [.bool u1.neg, .slice ao9 u1.abs.length cap10] 73) :: (.row b12 [.bool u2.neg, .slice ao13 u2.abs.length cap14] 73) :: Rr) z aN := aP
 refine nl (qnI (aL _ _ (A.cst p [4]) ?_))
 refine cS aO 1 [] [] [(4, pt d 0)] ?_; intro b5 aQ
 refine nS (aE _ _ ?_)
 refine t_ (r_ (ra1 aQ (pt d 0) ?_))
 refine ⟨_, rfl, ?_⟩; intro b6 aR
 refine bt aR A 2 [] [] [(7, pt c 0), (8, pt d 0)] ?_; intro b7 aS
 have R : Mem B [] w0 Z0 ((.row d [.bool (ggive (⟨false, []⟩ : BInt) u2.neg (gtwinS u2.abs)).neg, .slice k (ggive (⟨false, []⟩ : BInt) u2.neg (gtwinS u2.abs)).abs.length l] 73) :: (.row c [.bool (ggive (⟨false, []⟩ : BInt) u1.neg (gtwinS u1.abs)).neg, .slice g (ggive (⟨false, []⟩ : BInt) u1.neg (gtwinS u1.abs)).abs.length h] 73) :: (.row b1 (e75Ne u0 ao2 cap3 ao5 cap6) 75) :: (.row b8 [.bool u1.neg, .slice ao9 u1.abs.length cap10] 73) :: (.row b12 [.bool u2.neg, .slice ao13 u2.abs.length cap14] 73) :: Rr) z aN := A
 apply ad
 refine sqH ?_; intro bA aT
 refine bt aS R 6 [1] [] [(28, .agg #[.bool (ggive (⟨false, []⟩ : BInt) u1.neg (gtwinS u1.abs)).neg, .slice g (ggive (⟨false, []⟩ : BInt) u1.neg (gtwinS u1.abs)).abs.length h]), (30, pt b1 0)] ?_; intro b9 S
 refine sx S R 2 [.bool (ggive (⟨false, []⟩ : BInt) u1.neg (gtwinS u1.abs)).neg, .slice g (ggive (⟨false, []⟩ : BInt) u1.neg (gtwinS u1.abs)).abs.length h, .bool u0.b.neg, .slice ao5 u0.b.abs.length cap6] 0 ?_; intro bB aU
 have T : Mem B [] w0 Z0 ((.row d [.bool (ggive (⟨false, []⟩ : BInt) u2.neg (gtwinS u2.abs)).neg, .slice k (ggive (⟨false, []⟩ : BInt) u2.neg (gtwinS u2.abs)).abs.length l] 73) :: (.row c [.bool (ggive (⟨false, []⟩ : BInt) u1.neg (gtwinS u1.abs)).neg, .slice g (ggive (⟨false, []⟩ : BInt) u1.neg (gtwinS u1.abs)).abs.length h] 73) :: (.row b1 [.bool (ggive (⟨false, []⟩ : BInt) u1.neg (gtwinS u1.abs)).neg, .slice g (ggive (⟨false, []⟩ : BInt) u1.neg (gtwinS u1.abs)).abs.length h, .bool u0.b.neg, .slice ao5 u0.b.abs.length cap6] 75) :: (.row b8 [.bool u1.neg, .slice ao9 u1.abs.length cap10] 73) :: (.row b12 [.bool u2.neg, .slice ao13 u2.abs.length cap14] 73) :: Rr) z bB := aU
 apply aT
 refine sqH ?_; intro bC aV
 refine bt S T 6 [0] [] [(34, .agg #[.bool (ggive (⟨false, []⟩ : BInt) u2.neg (gtwinS u2.abs)).neg, .slice k (ggive (⟨false, []⟩ : BInt) u2.neg (gtwinS u2.abs)).abs.length l]), (36, pt b1 2)] ?_; intro ca U
 refine sx U T 2 [.bool (ggive (⟨false, []⟩ : BInt) u1.neg (gtwinS u1.abs)).neg, .slice g (ggive (⟨false, []⟩ : BInt) u1.neg (gtwinS u1.abs)).abs.length h, .bool (ggive (⟨false, []⟩ : BInt) u2.neg (gtwinS u2.abs)).neg, .slice k (ggive (⟨false, []⟩ : BInt) u2.neg (gtwinS u2.abs)).abs.length l] 2 ?_; intro bD aW
 have V : Mem B [] w0 Z0 ((.row d [.bool (ggive (⟨false, []⟩ : BInt) u2.neg (gtwinS u2.abs)).neg, .slice k (ggive (⟨false, []⟩ : BInt) u2.neg (gtwinS u2.abs)).abs.length l] 73) :: (.row c [.bool (ggive (⟨false, []⟩ : BInt) u1.neg (gtwinS u1.abs)).neg, .slice g (ggive (⟨false, []⟩ : BInt) u1.neg (gtwinS u1.abs)).abs.length h] 73) :: (.row b1 [.bool (ggive (⟨false, []⟩ : BInt) u1.neg (gtwinS u1.abs)).neg, .slice g (ggive (⟨false, []⟩ : BInt) u1.neg (gtwinS u1.abs)).abs.length h, .bool (ggive (⟨false, []⟩ : BInt) u2.neg (gtwinS u2.abs)).neg, .slice k (ggive (⟨false, []⟩ : BInt) u2.neg (gtwinS u2.abs)).abs.length l] 75) :: (.row b8 [.bool u1.neg, .slice ao9 u1.abs.length cap10] 73) :: (.row b12 [.bool u2.neg, .slice ao13 u2.abs.length cap14] 73) :: Rr) z bD := aW
 apply aV
 refine sqH ?_; intro bE aX
 refine s1 U 37 (pt b1 0) ?_; intro cb aY
 obtain ⟨bF, aZ⟩ := bv
 refine ck aY 101 #[pt b1 0] ?_
 obtain ⟨y, bG, a1⟩ := hxq aZ
 have W := rnorm_fun (⟨(ggive (⟨false, []⟩ : BInt) u1.neg (gtwinS u1.abs)), (ggive (⟨false, []⟩ : BInt) u2.neg (gtwinS u2.abs))⟩ : BRat) bF b1 g h k l _ _ _ _ _ _ j Q (V.perm (pk 2 rfl)) V.fz; rw [bG] at W; refine W.mono ?_; rintro _ bH ⟨a2, a3, a4, a5, a6, rfl, n, a7, a8, hm⟩; refine ⟨_, rfl, ?_⟩; intro cc a9; have ba := hm
 replace hs11 := hs11.mono n
 replace hs15 := hs15.mono n
 replace f := Fz.le.trans f n
 have bI : Mem B [] w0 Z0 ((.row b1 (e75Ne y a2 a3 a4 a5) 75) :: (.row d [.bool (ggive (⟨false, []⟩ : BInt) u2.neg (gtwinS u2.abs)).neg, .slice k (ggive (⟨false, []⟩ : BInt) u2.neg (gtwinS u2.abs)).abs.length l] 73) :: (.row c [.bool (ggive (⟨false, []⟩ : BInt) u1.neg (gtwinS u1.abs)).neg, .slice g (ggive (⟨false, []⟩ : BInt) u1.neg (gtwinS u1.abs)).abs.length h] 73) :: (.row b8 [.bool u1.neg, .slice ao9 u1.abs.length cap10] 73) :: (.row b12 [.bool u2.neg, .slice ao13 u2.abs.length cap14] 73) :: Rr) a6 bH := ba
 have bJ := a1 (a7.small) (a8.small)
 refine s1 a9 6 (pt b1 0) ?_; intro cd bK
 apply aX
 exact r_ (ra1 bK (pt b1 0) ⟨(y, u1, u2), a2, a3, a4, a5, ao9, cap10, ao13, cap14, a6, rfl, bJ, f, a7, a8, hs11, hs15, bI.kp⟩)
end Go.Proofs.YtdndfbamhnchfaaGreatDoor
set_option linter.unusedVariables false
set_option linter.unusedSimpArgs false
set_option maxRecDepth 100000
set_option maxHeartbeats 0
namespace Go.Proofs.YtdndfbamhnchfaaGreatDoor
open Go.Sy Go.RowKit
abbrev e75Nf (X : BRat) (A0 : Option Addr) (C0 : Nat) (A1 : Option Addr) (C1 : Nat) : List Value := [.bool X.a.neg, .slice A0 X.a.abs.length C0, .bool X.b.neg, .slice A1 X.b.abs.length C1]
theorem rsf_fun (u0 : BRat) (u1 : BInt) (u2 : BInt) (hpre : bk u1 ∧ bk u2 ∧ iv u2 ≠ 0) (b1 : Nat) (ao2 : Option Addr) (cap3 : Nat) (ao5 : Option Addr) (cap6 : Nat) (b8 : Nat) (ao9 : Option Addr) (cap10 : Nat) (b12 : Nat) (ao13 : Option Addr) (cap14 : Nat) (B : Nat) (w0 : World) (Z0 : Fz) (Rr : List Res) (Z : Fz) (w : World) (hs4 : SlR (tyInt .u32) Z ao2 cap3 u0.a.abs) (hs7 : SlR (tyInt .u32) Z ao5 cap6 u0.b.abs) (hs11 : SlR (tyInt .u32) Z ao9 cap10 u1.abs) (hs15 : SlR (tyInt .u32) Z ao13 cap14 u2.abs) (hM0 : Mem B [] w0 Z0 ((.row b1 [.bool u0.a.neg, .slice ao2 u0.a.abs.length cap3, .bool u0.b.neg, .slice ao5 u0.b.abs.length cap6] 75) :: (.row b8 [.bool u1.neg, .slice ao9 u1.abs.length cap10] 73) :: (.row b12 [.bool u2.neg, .slice ao13 u2.abs.length cap14] 73) :: Rr) Z w) (hZ : Z.on w) : Calls Tryz.prog 73 #[pt b1 0, pt b8 0, pt b12 0] w fun e w' => ∃ (ao1001 : Option Addr) (cap1002 : Nat) (ao1004 : Option Addr) (cap1005 : Nat) (ao1007 : Option Addr) (cap1008 : Nat) (ao1010 : Option Addr) (cap1011 : Nat) (Z' : Fz), e = .returned (pt b1 0) ∧ Fz.le Z Z' ∧ SlR (tyInt .u32) Z' ao1001 cap1002 (rsfS u0 u1 u2).1.a.abs ∧ SlR (tyInt .u32) Z' ao1004 cap1005 (rsfS u0 u1 u2).1.b.abs ∧ SlR (tyInt .u32) Z' ao1007 cap1008 (rsfS u0 u1 u2).2.1.abs ∧ SlR (tyInt .u32) Z' ao1010 cap1011 (rsfS u0 u1 u2).2.2.abs ∧ Mem B [] w0 Z0 ((.row b1 [.bool (rsfS u0 u1 u2).1.a.neg, .slice ao1001 (rsfS u0 u1 u2).1.a.abs.length cap1002, .bool (rsfS u0 u1 u2).1.b.neg, .slice ao1004 (rsfS u0 u1 u2).1.b.abs.length cap1005] 75) :: (.row b8 [.bool (rsfS u0 u1 u2).2.1.neg, .slice ao1007 (rsfS u0 u1 u2).2.1.abs.length cap1008] 73) :: (.row b12 [.bool (rsfS u0 u1 u2).2.2.neg, .slice ao1010 (rsfS u0 u1 u2).2.2.abs.length cap1011] 73) :: Rr) Z' w' :=
 (rsf_walk u0 u1 u2 b1 ao2 cap3 ao5 cap6 b8 ao9 cap10 b12 ao13 cap14 B w0 Z0 Rr Z w hs4 hs7 hs11 hs15 hM0 hZ (rsf_ok u0 u1 u2 hpre)).mono fun _ _ ⟨r, h0, h1, h2, h3, h4, h5, h6, h7, h8, he, hk, f0, f1, f2, f3, f4, hm⟩ => by subst hk; exact ⟨h0, h1, h2, h3, h4, h5, h6, h7, h8, he, f0, f1, f2, f3, f4, hm⟩
theorem rsf64_walk (u0 : BRat) (u1 : Int) (u2 : Int) (b1 : Nat) (ao2 : Option Addr) (cap3 : Nat) (ao5 : Option Addr) (cap6 : Nat) (B : Nat) (w0 : World) (Z0 : Fz) (Rr : List Res) (Z : Fz) (w : World) (hs4 : SlR (tyInt .u32) Z ao2 cap3 u0.a.abs) (hs7 : SlR (tyInt .u32) Z ao5 cap6 u0.b.abs) (hM0 : Mem B [] w0 Z0 ((.row b1 [.bool u0.a.neg, .slice ao2 u0.a.abs.length cap3, .bool u0.b.neg, .slice ao5 u0.b.abs.length cap6] 75) :: Rr) Z w) (hZ : Z.on w) {K : BRat → Prop} (hp : rsf64_vc u0 u1 u2 K) : Calls Tryz.prog 42 #[pt b1 0, i6 u1, i6 u2] w fun e w' => ∃ (r : BRat) (ao1001 : Option Addr) (cap1002 : Nat) (ao1004 : Option Addr) (cap1005 : Nat) (Z' : Fz), e = .returned (pt b1 0) ∧ K r ∧ Fz.le Z Z' ∧ SlR (tyInt .u32) Z' ao1001 cap1002 r.a.abs ∧ SlR (tyInt .u32) Z' ao1004 cap1005 r.b.abs ∧ Mem B [] w0 Z0 ((.row b1 [.bool r.a.neg, .slice ao1001 r.a.abs.length cap1002, .bool r.b.neg, .slice ao1004 r.b.abs.length cap1005] 75) :: Rr) Z' w' := by
 refine enter0 Tryz.func42 rfl rfl (by kernel_rfl) ?_; intro a0 s; have d := Fz.le.refl Z
 have V := hp (hs4.small) (hs7.small)
 refine sqB s hM0 [] [] [] ?_; intro au u
 refine sqH ?_; intro W v
 refine bt u hM0 2 [] [] [(7, pt b1 0), (8, i6 u1)] ?_; intro av x
 obtain ⟨X, Y⟩ := V
 refine ck x 48 #[i6 u1] ?_
 refine (gnew_fun u1 X _ _ hM0.fz).mono ?_; rintro _ aa ⟨f, k, l, ab, rfl, g, hm⟩; refine ⟨_, rfl, ?_⟩; intro aw y; have z := hM0.callZ hm; have m := hm.ext.le
 replace hs4 := hs4.mono m
 replace hs7 := hs7.mono m
 replace d := Fz.le.trans d m
 have n : Mem B [] w0 Z0 ((.row f [.bool (bz u1).neg, .slice k (bz u1).abs.length l] 73) :: (.row b1 (e75Nf u0 ao2 cap3 ao5 cap6) 75) :: Rr) ab aa := z
 refine s1 y 10 (i6 u2) ?_; intro ax A
 obtain ⟨ac, ad⟩ := Y
 refine ck A 48 #[i6 u2] ?_
 refine (gnew_fun u2 ac _ _ n.fz).mono ?_; rintro _ ae ⟨i, C, D, af, rfl, o, hm⟩; refine ⟨_, rfl, ?_⟩; intro ay E; have F := n.callZ hm; have j := hm.ext.le
 replace hs4 := hs4.mono j
 replace hs7 := hs7.mono j
 replace g := g.mono j
 replace d := Fz.le.trans d j
 have p : Mem B [] w0 Z0 ((.row i [.bool (bz u2).neg, .slice C (bz u2).abs.length D] 73) :: (.row f [.bool (bz u1).neg, .slice k (bz u1).abs.length l] 73) :: (.row b1 (e75Nf u0 ao2 cap3 ao5 cap6) 75) :: Rr) af ae := F
 obtain ⟨ag, G⟩ := ad
 refine ck E 73 #[pt b1 0, pt f 0, pt i 0] ?_
 obtain ⟨c, ah, H⟩ := hxq G
 have q := rsf_fun u0 (bz u1) (bz u2) ag b1 ao2 cap3 ao5 cap6 f k l i C D _ _ _ _ _ _ hs4 hs7 g o (p.perm ((pk 2 rfl).trans (((pk 1 rfl).trans (lpr.cons _)).cons _))) p.fz; rw [ah] at q; refine q.mono ?_; rintro _ ai ⟨I, J, L, M, aj, ak, al, am, N, rfl, h, O, P, an, ao, hm⟩; refine ⟨_, rfl, ?_⟩; intro az Q; have R := hm
 replace d := Fz.le.trans d h
 have ap : Mem B [] w0 Z0 ((.row b1 (e75Nf c.1 I J L M) 75) :: (.row f [.bool c.2.1.neg, .slice aj c.2.1.abs.length ak] 73) :: (.row i [.bool c.2.2.neg, .slice al c.2.2.abs.length am] 73) :: Rr) N ai := R
 have aq := H (O.small) (P.small) (an.small) (ao.small)
 refine s1 Q 6 (pt b1 0) ?_; intro aA ar
 apply v
 exact r_ (ra1 ar (pt b1 0) ⟨c.1, I, J, L, M, N, rfl, aq, d, O, P, ap.kp⟩)
theorem rsi_walk (u0 : BRat) (u1 : Int) (b1 : Nat) (ao2 : Option Addr) (cap3 : Nat) (ao5 : Option Addr) (cap6 : Nat) (B : Nat) (w0 : World) (Z0 : Fz) (Rr : List Res) (Z : Fz) (w : World) (hs4 : SlR (tyInt .u32) Z ao2 cap3 u0.a.abs) (hs7 : SlR (tyInt .u32) Z ao5 cap6 u0.b.abs) (hM0 : Mem B [] w0 Z0 ((.row b1 [.bool u0.a.neg, .slice ao2 u0.a.abs.length cap3, .bool u0.b.neg, .slice ao5 u0.b.abs.length cap6] 75) :: Rr) Z w) (hZ : Z.on w) {K : BRat → Prop} (hp : rsi_vc u0 u1 K) : Calls Tryz.prog 44 #[pt b1 0, i6 u1] w fun e w' => ∃ (r : BRat) (ao1001 : Option Addr) (cap1002 : Nat) (ao1004 : Option Addr) (cap1005 : Nat) (Z' : Fz), e = .returned (pt b1 0) ∧ K r ∧ Fz.le Z Z' ∧ SlR (tyInt .u32) Z' ao1001 cap1002 r.a.abs ∧ SlR (tyInt .u32) Z' ao1004 cap1005 r.b.abs ∧ Mem B [] w0 Z0 ((.row b1 [.bool r.a.neg, .slice ao1001 r.a.abs.length cap1002, .bool r.b.neg, .slice ao1004 r.b.abs.length cap1005] 75) :: Rr) Z' w' := by
 refine enter0 Tryz.func44 rfl rfl (by kernel_rfl) ?_; intro a0 s; have d := Fz.le.refl Z
 have U := hp (hs4.small) (hs7.small)
 refine sqB s hM0 [] [] [] ?_; intro ar u
 refine sqH ?_; intro V v
 refine bt u hM0 2 [] [] [(5, pt b1 0), (6, i6 u1)] ?_; intro au x
 obtain ⟨W, X⟩ := U
 refine ck x 48 #[i6 u1] ?_
 refine (gnew_fun u1 W _ _ hM0.fz).mono ?_; rintro _ Y ⟨f, k, l, aa, rfl, g, hm⟩; refine ⟨_, rfl, ?_⟩; intro av y; have z := hM0.callZ hm; have m := hm.ext.le
 replace hs4 := hs4.mono m
 replace hs7 := hs7.mono m
 replace d := Fz.le.trans d m
 have n : Mem B [] w0 Z0 ((.row f [.bool (bz u1).neg, .slice k (bz u1).abs.length l] 73) :: (.row b1 (e75Nf u0 ao2 cap3 ao5 cap6) 75) :: Rr) aa Y := z
 obtain ⟨ab, ac⟩ := X
 refine ck y 48 #[i6 1] ?_
 refine (gnew_fun 1 ab _ _ n.fz).mono ?_; rintro _ ad ⟨i, A, C, ae, rfl, o, hm⟩; refine ⟨_, rfl, ?_⟩; intro aw D; have E := n.callZ hm; have j := hm.ext.le
 replace hs4 := hs4.mono j
 replace hs7 := hs7.mono j
 replace g := g.mono j
 replace d := Fz.le.trans d j
 have p : Mem B [] w0 Z0 ((.row i [.bool (bz 1).neg, .slice A (bz 1).abs.length C] 73) :: (.row f [.bool (bz u1).neg, .slice k (bz u1).abs.length l] 73) :: (.row b1 (e75Nf u0 ao2 cap3 ao5 cap6) 75) :: Rr) ae ad := E
 obtain ⟨af, F⟩ := ac
 refine ck D 73 #[pt b1 0, pt f 0, pt i 0] ?_
 obtain ⟨c, ag, G⟩ := hxq F
 have q := rsf_fun u0 (bz u1) (bz 1) af b1 ao2 cap3 ao5 cap6 f k l i A C _ _ _ _ _ _ hs4 hs7 g o (p.perm ((pk 2 rfl).trans (((pk 1 rfl).trans (lpr.cons _)).cons _))) p.fz; rw [ag] at q; refine q.mono ?_; rintro _ ah ⟨H, I, J, L, ai, aj, ak, al, M, rfl, h, N, O, am, an, hm⟩; refine ⟨_, rfl, ?_⟩; intro ax P; have Q := hm
 replace d := Fz.le.trans d h
 have ao : Mem B [] w0 Z0 ((.row b1 (e75Nf c.1 H I J L) 75) :: (.row f [.bool c.2.1.neg, .slice ai c.2.1.abs.length aj] 73) :: (.row i [.bool c.2.2.neg, .slice ak c.2.2.abs.length al] 73) :: Rr) M ah := Q
 have ap := G (N.small) (O.small) (am.small) (an.small)
 refine s1 P 4 (pt b1 0) ?_; intro ay aq
 apply v
 exact r_ (ra1 aq (pt b1 0) ⟨c.1, H, I, J, L, M, rfl, ap, d, N, O, ao.kp⟩)
theorem radd_walk (u0 : BRat) (u2 : BRat) (b1 : Nat) (ao2 : Option Addr) (cap3 : Nat) (ao5 : Option Addr) (cap6 : Nat) (b8 : Nat) (ao9 : Option Addr) (cap10 : Nat) (ao12 : Option Addr) (cap13 : Nat) (B : Nat) (w0 : World) (Z0 : Fz) (Rr : List Res) (Z : Fz) (w : World) (hs4 : SlR (tyInt .u32) Z ao2 cap3 u0.a.abs) (hs7 : SlR (tyInt .u32) Z ao5 cap6 u0.b.abs) (hs11 : SlR (tyInt .u32) Z ao9 cap10 u2.a.abs) (hs14 : SlR (tyInt .u32) Z ao12 cap13 u2.b.abs) (hM0 : Mem B [] w0 Z0 ((.row b1 [.bool u0.a.neg, .slice ao2 u0.a.abs.length cap3, .bool u0.b.neg, .slice ao5 u0.b.abs.length cap6] 75) :: (.row b8 [.bool u2.a.neg, .slice ao9 u2.a.abs.length cap10, .bool u2.b.neg, .slice ao12 u2.b.abs.length cap13] 75) :: Rr) Z w) (hZ : Z.on w) {K : (BRat × BRat) → Prop} (hp : radd_vc u0 u2 K) : Calls Tryz.prog 69 #[pt b1 0, pt b1 0, pt b8 0] w fun e w' => ∃ (r : BRat × BRat) (ao1001 : Option Addr) (cap1002 : Nat) (ao1004 : Option Addr) (cap1005 : Nat) (ao1007 : Option Addr) (cap1008 : Nat) (ao1010 : Option Addr) (cap1011 : Nat) (Z' : Fz), e = .returned (pt b1 0) ∧ K r ∧ Fz.le Z Z' ∧ SlR (tyInt .u32) Z' ao1001 cap1002 r.1.a.abs ∧ SlR (tyInt .u32) Z' ao1004 cap1005 r.1.b.abs ∧ SlR (tyInt .u32) Z' ao1007 cap1008 r.2.a.abs ∧ SlR (tyInt .u32) Z' ao1010 cap1011 r.2.b.abs ∧ Mem B [] w0 Z0 ((.row b1 [.bool r.1.a.neg, .slice ao1001 r.1.a.abs.length cap1002, .bool r.1.b.neg, .slice ao1004 r.1.b.abs.length cap1005] 75) :: (.row b8 [.bool r.2.a.neg, .slice ao1007 r.2.a.abs.length cap1008, .bool r.2.b.neg, .slice ao1010 r.2.b.abs.length cap1011] 75) :: Rr) Z' w' := by
 refine enter0 Tryz.func69 rfl rfl (by kernel_rfl) ?_; intro a0 a2; have n := Fz.le.refl Z
 have da := hp (hs4.small) (hs7.small) (hs11.small) (hs14.small)
 refine sqB a2 hM0 [] [] [] ?_; intro db a6
 have a7 : Fr 33 [] [⟨0, [], pt b1 0⟩, ⟨1, [], pt b1 0⟩, ⟨2, [], pt b8 0⟩] db := a6.reg
 refine wp_seq (rgF mixed hM0 [2, 3, 4, 5, 9, 10, 11, 12] [6, 7, 13, 14, 15, 16] [0, 1, 8] [] [] ?_)
 intro dc a8 dd a9
 have i := Fz.le.refl Z
 refine cS a7 8 [] [] [(12, pt b1 0), (13, pt b8 0), (19, pt b8 0), (20, pt b1 0)] ?_; intro ep ba
 refine nS ⟨[⟨0, 8, fun b => pt b 0, [.bool false, .slice none 0 0], 73⟩, ⟨1, 9, fun b => pt b 0, [.bool false, .slice none 0 0], 73⟩, ⟨8, 16, fun b => pt b 0, [.bool false, .slice none 0 0], 73⟩], rfl, ?_⟩; intro de df dg
 have bb : Mem B [] w0 Z0 ((.row b1 (e75Nf u0 ao2 cap3 ao5 cap6) 75) :: (.row b8 (e75Nf u2 ao9 cap10 ao12 cap13) 75) :: (rowsF de ++ Rr)) Z dd := by rw [dg]; exact a9
 refine eF 2 [] Rr df ba bb i (fO (fO (fO fN))) ?_; intro dh eq er di bc az dj bd
 obtain ⟨dk, be⟩ := da
 refine ck bc 76 #[pt b8 0] ?_
 obtain ⟨af, dl, bf⟩ := hxq be
 have c := rden_fun u2 dk b8 ao9 cap10 ao12 cap13 _ _ _ _ _ _ hs11 hs14 (az.perm (pk 1 rfl)) az.fz; rw [dl] at c; refine c.mono ?_; rintro _ dm ⟨bg, bh, bi, bj, dn, rfl, V, o, p, hm⟩; refine ⟨_, rfl, ?_⟩; intro es bk; have bl := hm
 replace hs4 := hs4.mono V
 replace hs7 := hs7.mono V
 replace i := i.mono V
 replace n := Fz.le.trans n V
 have aA : Mem B [] w0 Z0 ((.row b8 (e75Nf af bg bh bi bj) 75) :: (.row b1 (e75Nf u0 ao2 cap3 ao5 cap6) 75) :: (rowsF dh ++ Rr)) dn dm := bl
 have dp := bf (o.small) (p.small)
 refine nl (qnI (bd _ _ (fun _ => aA.cst i []) ?_))
 refine tkF 1 2 [] Rr di bk aA i (fO (fO (fO fN))) ?_; intro C et eu ev dq bn bo
 refine eF 3 [] Rr dq bn bo i (fO (fO fN)) ?_; intro dr ew ex ds bp aB dt bq
 obtain ⟨du, br⟩ := dp
 refine ck bp 75 #[pt C 0, pt b1 0, pt b8 2] ?_
 obtain ⟨l, dv, bs⟩ := hxq br
 have c := gmulAB_fun (⟨false, []⟩ : BInt) u0 af du C none 0 b1 ao2 cap3 ao5 cap6 b8 bg bh bi bj _ _ _ _ _ _ (SlR.nil _ _) hs4 hs7 o p (aB.perm (((pk 1 rfl).trans (lpr.cons _)).cons _)) aB.fz; rw [dv] at c; refine c.mono ?_; rintro _ dw ⟨am, an, bu, bv, bw, bx, aC, aD, aE, aF, dx, rfl, R, s, t, u, v, x, hm⟩; refine ⟨_, rfl, ?_⟩; intro ey bz; have bA := hm
 replace i := i.mono R
 replace n := Fz.le.trans n R
 have aG : Mem B [] w0 Z0 ((.row C [.bool l.1.neg, .slice am l.1.abs.length an] 73) :: (.row b1 (e75Nf l.2.1 bu bv bw bx) 75) :: (.row b8 (e75Nf l.2.2 aC aD aE aF) 75) :: (rowsF dr ++ Rr)) dx dw := bA
 have dy := bs (s.small) (t.small) (u.small) (v.small) (x.small)
 refine nl (qnI (bq _ _ (fun _ => aG.cst i []) ?_))
 refine eF 3 [] Rr ds bz aG i (fO (fO fN)) ?_; intro dz ez eA dA bF aH dB bG
 obtain ⟨dC, bH⟩ := dy
 refine ck bF 76 #[pt b1 0] ?_
 obtain ⟨ag, dD, bI⟩ := hxq bH
 have c := rden_fun l.2.1 dC b1 bu bv bw bx _ _ _ _ _ _ t u (aH.perm (pk 1 rfl)) aH.fz; rw [dD] at c; refine c.mono ?_; rintro _ dE ⟨bJ, bK, bL, bM, dF, rfl, D, z, A, hm⟩; refine ⟨_, rfl, ?_⟩; intro eB bN; have bO := hm
 replace i := i.mono D
 replace s := s.mono D
 replace v := v.mono D
 replace x := x.mono D
 replace n := Fz.le.trans n D
 have aI : Mem B [] w0 Z0 ((.row b1 (e75Nf ag bJ bK bL bM) 75) :: (.row C [.bool l.1.neg, .slice am l.1.abs.length an] 73) :: (.row b8 (e75Nf l.2.2 aC aD aE aF) 75) :: (rowsF dz ++ Rr)) dF dE := bO
 have dG := bI (z.small) (A.small)
 refine nl (qnI (bG _ _ (fun _ => aI.cst i []) ?_))
 refine tkF 1 3 [] Rr dA bN aI i (fO (fO fN)) ?_; intro L eC eD eE dH bQ bR
 refine eF 4 [] Rr dH bQ bR i (fO fN) ?_; intro dI eG eH dJ bS aJ dK bT
 obtain ⟨dL, bU⟩ := dG
 refine ck bS 75 #[pt L 0, pt b8 0, pt b1 2] ?_
 obtain ⟨f, dM, bV⟩ := hxq bU
 have c := gmulAB_fun (⟨false, []⟩ : BInt) l.2.2 ag dL L none 0 b8 aC aD aE aF b1 bJ bK bL bM _ _ _ _ _ _ (SlR.nil _ _) v x z A (aJ.perm (((pk 2 rfl).trans (lpr.cons _)).cons _)) aJ.fz; rw [dM] at c; refine c.mono ?_; rintro _ dN ⟨bW, bX, ah, ai, aj, ak, ao, ap, aq, ar, dO, rfl, y, E, F, G, H, I, hm⟩; refine ⟨_, rfl, ?_⟩; intro eI bY; have bZ := hm
 replace i := i.mono y
 replace s := s.mono y
 replace n := Fz.le.trans n y
 have aK : Mem B [] w0 Z0 ((.row L [.bool f.1.neg, .slice bW f.1.abs.length bX] 73) :: (.row b8 (e75Nf f.2.1 ah ai aj ak) 75) :: (.row b1 (e75Nf f.2.2 ao ap aq ar) 75) :: (.row C [.bool l.1.neg, .slice am l.1.abs.length an] 73) :: (rowsF dI ++ Rr)) dO dN := bZ
 have dP := bV (E.small) (F.small) (G.small) (H.small) (I.small)
 refine nl (qnI (bT _ _ (fun _ => aK.cst i []) ?_))
 refine tkF 0 4 [] Rr dJ bY aK i (fO fN) ?_; intro J eJ eK eL b5 b6 b7
 obtain rfl := nilF b5
 refine eF 5 [] Rr b5 b6 b7 i fN ?_; intro eM eN eO b9 ca aL dQ cb
 obtain rfl := nilF b9
 obtain ⟨dR, cc⟩ := dP
 refine ck ca 99 #[pt J 0, pt C 0, pt L 0] ?_
 obtain ⟨d, dS, cd⟩ := hxq cc
 have c := gaddI_fun (⟨false, []⟩ : BInt) l.1 f.1 dR J none 0 C am an L bW bX _ _ _ _ _ _ (SlR.nil _ _) s E (aL.perm (((pk 3 rfl).trans (lpr.cons _)).cons _)) aL.fz; rw [dS] at c; refine c.mono ?_; rintro _ dT ⟨W, X, Y, aa, ab, ac, ce, rfl, m, M, N, O, hm⟩; refine ⟨_, rfl, ?_⟩; intro eP cf; have cg := hm
 replace i := i.mono m
 replace F := F.mono m
 replace G := G.mono m
 replace H := H.mono m
 replace I := I.mono m
 replace n := Fz.le.trans n m
 have aM : Mem B [] w0 Z0 ((.row J [.bool d.1.neg, .slice W d.1.abs.length X] 73) :: (.row C [.bool d.2.1.neg, .slice Y d.2.1.abs.length aa] 73) :: (.row L [.bool d.2.2.neg, .slice ab d.2.2.abs.length ac] 73) :: (.row b8 (e75Nf f.2.1 ah ai aj ak) 75) :: (.row b1 (e75Nf f.2.2 ao ap aq ar) 75) :: Rr) ce dT := cg
 have dU := cd (M.small) (N.small) (O.small)
 refine nl (qnI (cb _ _ (fun _ => aM.cst i []) ?_))
 refine eF 5 [] Rr b9 cf aM i fN ?_; intro eQ eR dV cj cl aN dW cm
 obtain rfl := nilF cj
 refine s1 cl 7 (pt J 0) ?_; intro eS cn
 refine nl (qnI (cm _ _ (fun _ => aN.cst i []) ?_))
 have aO : Mem B [] w0 Z0 ((.row J [.bool d.1.neg, .slice W d.1.abs.length X] 73) :: (.row C [.bool d.2.1.neg, .slice Y d.2.1.abs.length aa] 73) :: (.row L [.bool d.2.2.neg, .slice ab d.2.2.abs.length ac] 73) :: (.row b8 (e75Nf f.2.1 ah ai aj ak) 75) :: (.row b1 (e75Nf f.2.2 ao ap aq ar) 75) :: Rr) ce dV := aN
 refine nF cj (a8 _ _ ?_)
 refine t_ (sqH ?_); intro dX co
 refine bt cn aO 2 [] [] [(24, pt b1 0), (25, pt J 0)] ?_; intro eT cp
 refine nw cp aO pb [.bool false, .slice none 0 0] 73 ?_; intro S eU eV cq aP
 refine s1 cq 27 (pt b1 0) ?_; intro eW cr
 obtain ⟨dY, cs⟩ := dU
 refine ck cr 76 #[pt b1 0] ?_
 obtain ⟨P, dZ, ct⟩ := hxq cs
 have c := rden_fun f.2.2 dY b1 ao ap aq ar _ _ _ _ _ _ H I (aP.perm (pk 5 rfl)) aP.fz; rw [dZ] at c; refine c.mono ?_; rintro _ d0 ⟨aQ, aR, aS, aT, d1, rfl, k, T, U, hm⟩; refine ⟨_, rfl, ?_⟩; intro eX cu; have cv := hm
 replace F := F.mono k
 replace G := G.mono k
 replace M := M.mono k
 replace n := Fz.le.trans n k
 have aU : Mem B [] w0 Z0 ((.row b1 (e75Nf P aQ aR aS aT) 75) :: (.row S [.bool false, .slice none 0 0] 73) :: (.row J [.bool d.1.neg, .slice W d.1.abs.length X] 73) :: (.row C [.bool d.2.1.neg, .slice Y d.2.1.abs.length aa] 73) :: (.row L [.bool d.2.2.neg, .slice ab d.2.2.abs.length ac] 73) :: (.row b8 (e75Nf f.2.1 ah ai aj ak) 75) :: Rr) d1 d0 := cv
 have d2 := ct (T.small) (U.small)
 refine s1 cu 29 (pt b8 0) ?_; intro eY cx
 obtain ⟨d3, cy⟩ := d2
 refine ck cx 76 #[pt b8 0] ?_
 obtain ⟨al, d4, cz⟩ := hxq cy
 have c := rden_fun f.2.1 d3 b8 ah ai aj ak _ _ _ _ _ _ F G (aU.perm (pk 5 rfl)) aU.fz; rw [d4] at c; refine c.mono ?_; rintro _ d5 ⟨cA, cB, cC, cD, d6, rfl, j, ad, ae, hm⟩; refine ⟨_, rfl, ?_⟩; intro eZ cE; have cF := hm
 replace M := M.mono j
 replace T := T.mono j
 replace U := U.mono j
 replace n := Fz.le.trans n j
 have aV : Mem B [] w0 Z0 ((.row b8 (e75Nf al cA cB cC cD) 75) :: (.row b1 (e75Nf P aQ aR aS aT) 75) :: (.row S [.bool false, .slice none 0 0] 73) :: (.row J [.bool d.1.neg, .slice W d.1.abs.length X] 73) :: (.row C [.bool d.2.1.neg, .slice Y d.2.1.abs.length aa] 73) :: (.row L [.bool d.2.2.neg, .slice ab d.2.2.abs.length ac] 73) :: Rr) d6 d5 := cF
 obtain ⟨d8, cH⟩ := cz (ad.small) (ae.small)
 refine ck cE 75 #[pt S 0, pt b1 2, pt b8 2] ?_
 obtain ⟨q, d9, cI⟩ := hxq cH
 have c := gmulBB_fun (⟨false, []⟩ : BInt) P al d8 S none 0 b1 aQ aR aS aT b8 cA cB cC cD _ _ _ _ _ _ (SlR.nil _ _) T U ad ae (aV.perm ((pk 2 rfl).trans (((pk 1 rfl).trans (lpr.cons _)).cons _))) aV.fz; rw [d9] at c; refine c.mono ?_; rintro _ ea ⟨cJ, cK, cL, cM, cN, cO, aW, aX, aY, aZ, eb, rfl, h, au, av, aw, ax, ay, hm⟩; refine ⟨_, rfl, ?_⟩; intro e0 cP; have cQ := hm
 replace M := M.mono h
 replace n := Fz.le.trans n h
 have a1 : Mem B [] w0 Z0 ((.row S [.bool q.1.neg, .slice cJ q.1.abs.length cK] 73) :: (.row b1 (e75Nf q.2.1 cL cM cN cO) 75) :: (.row b8 (e75Nf q.2.2 aW aX aY aZ) 75) :: (.row J [.bool d.1.neg, .slice W d.1.abs.length X] 73) :: (.row C [.bool d.2.1.neg, .slice Y d.2.1.abs.length aa] 73) :: (.row L [.bool d.2.2.neg, .slice ab d.2.2.abs.length ac] 73) :: Rr) eb ea := cQ
 obtain ⟨ed, cW⟩ := cI (au.small) (av.small) (aw.small) (ax.small) (ay.small)
 refine ck cP 73 #[pt b1 0, pt J 0, pt S 0] ?_
 obtain ⟨Q, ee, cX⟩ := hxq cW
 have c := rsf_fun q.2.1 d.1 q.1 ed b1 cL cM cN cO J W X S cJ cK _ _ _ _ _ _ av aw M au (a1.perm ((pk 1 rfl).trans (((pk 2 rfl).trans (lpr.cons _)).cons _))) a1.fz; rw [ee] at c; refine c.mono ?_; rintro _ ef ⟨cY, cZ, c0, c1, eg, eh, ei, ej, c2, rfl, g, c3, c4, ek, el, hm⟩; refine ⟨_, rfl, ?_⟩; intro e1 c5; have c6 := hm
 replace ax := ax.mono g
 replace ay := ay.mono g
 replace n := Fz.le.trans n g
 have em : Mem B [] w0 Z0 ((.row b1 (e75Nf Q.1 cY cZ c0 c1) 75) :: (.row J [.bool Q.2.1.neg, .slice eg Q.2.1.abs.length eh] 73) :: (.row S [.bool Q.2.2.neg, .slice ei Q.2.2.abs.length ej] 73) :: (.row b8 (e75Nf q.2.2 aW aX aY aZ) 75) :: (.row C [.bool d.2.1.neg, .slice Y d.2.1.abs.length aa] 73) :: (.row L [.bool d.2.2.neg, .slice ab d.2.2.abs.length ac] 73) :: Rr) c2 ef := c6
 have en := cX (c3.small) (c4.small) (ek.small) (el.small)
 refine s1 c5 6 (pt b1 0) ?_; intro e2 eo
 apply co
 exact r_ (ra1 eo (pt b1 0) ⟨(Q.1, q.2.2), cY, cZ, c0, c1, aW, aX, aY, aZ, c2, rfl, en, n, c3, c4, ax, ay, em.kp⟩)
theorem rdenom_walk (u0 : BRat) (b1 : Nat) (ao2 : Option Addr) (cap3 : Nat) (ao5 : Option Addr) (cap6 : Nat) (B : Nat) (w0 : World) (Z0 : Fz) (Rr : List Res) (Z : Fz) (w : World) (hs4 : SlR (tyInt .u32) Z ao2 cap3 u0.a.abs) (hs7 : SlR (tyInt .u32) Z ao5 cap6 u0.b.abs) (hM0 : Mem B [] w0 Z0 ((.row b1 [.bool u0.a.neg, .slice ao2 u0.a.abs.length cap3, .bool u0.b.neg, .slice ao5 u0.b.abs.length cap6] 75) :: Rr) Z w) (hZ : Z.on w) {K : (BRat × BInt) → Prop} (hp : rdenom_vc u0 K) : Calls Tryz.prog 70 #[pt b1 0] w fun e w' => ∃ (r : BRat × BInt) (ao1001 : Option Addr) (cap1002 : Nat) (ao1004 : Option Addr) (cap1005 : Nat) (b1007 : Nat) (ao1008 : Option Addr) (cap1009 : Nat) (Z' : Fz), e = .returned (pt b1007 0) ∧ K r ∧ Fz.le Z Z' ∧ SlR (tyInt .u32) Z' ao1001 cap1002 r.1.a.abs ∧ SlR (tyInt .u32) Z' ao1004 cap1005 r.1.b.abs ∧ SlR (tyInt .u32) Z' ao1008 cap1009 r.2.abs ∧ Mem B [] w0 Z0 ((.row b1007 [.bool r.2.neg, .slice ao1008 r.2.abs.length cap1009] 73) :: (.row b1 [.bool r.1.a.neg, .slice ao1001 r.1.a.abs.length cap1002, .bool r.1.b.neg, .slice ao1004 r.1.b.abs.length cap1005] 75) :: Rr) Z' w' := by
 refine enter0 Tryz.func70 rfl rfl (by kernel_rfl) ?_; intro a0 G; have h := Fz.le.refl Z
 have al := hp (hs4.small) (hs7.small)
 refine sqB G hM0 [] [] [] ?_; intro aE I
 refine sqH ?_; intro am J
 refine nw I hM0 pb [.bool false, .slice none 0 0] 73 ?_; intro d aF aG L q
 refine s1 L 4 (pt b1 0) ?_; intro aH M
 obtain ⟨an, N⟩ := al
 refine ck M 76 #[pt b1 0] ?_
 obtain ⟨c, ao, O⟩ := hxq N
 have s := rden_fun u0 an b1 ao2 cap3 ao5 cap6 _ _ _ _ _ _ hs4 hs7 (q.perm (pk 1 rfl)) q.fz; rw [ao] at s; refine s.mono ?_; rintro _ ap ⟨l, m, f, g, P, rfl, t, j, i, hm⟩; refine ⟨_, rfl, ?_⟩; intro aI Q; have R := hm
 replace h := Fz.le.trans h t
 have u : Mem B [] w0 Z0 ((.row b1 (e75Nf c l m f g) 75) :: (.row d [.bool false, .slice none 0 0] 73) :: Rr) P ap := R
 have aq := O (j.small) (i.small)
 refine ck Q 100 #[pt d 0, pt b1 2] ?_
 refine enter0 Tryz.func100 rfl rfl (by kernel_rfl) ?_; intro aJ T
 refine sqB T u [] [] [] ?_; intro ar U
 have V : Fr 16 [] [⟨0, [], pt d 0⟩, ⟨1, [], pt b1 2⟩] ar := U.reg
 refine wp_seq (rgS mixed u [(0, true), (1, true), (2, true), (3, true), (4, true), (5, true), (6, true), (7, true), (8, true), (9, false), (10, false), (11, true)] [] [0] [.row b1 (e75Nf c l m f g) 75] ?_)
 intro au W aK v
 have k := Fz.le.refl P
 refine cS V 9 [0, 0] [] [(5, pt d 0), (9, .bool c.b.neg), (13, .slice f c.b.abs.length g)] ?_; intro aL X
 refine eS rfl ?_; intro av Y
 obtain ⟨aw, ax⟩ := aq
 refine ck X 83 #[.slice f c.b.abs.length g] ?_
 refine (gtwin_fun c.b.abs aw f g _ _ i v.fz).mono ?_; rintro _ aa ⟨x, y, ay, rfl, hm⟩; refine ⟨_, rfl, ?_⟩; intro aM ab; have ac := v.callZ hm; have o := hm.ext.le
 replace j := j.mono o
 replace i := i.mono o
 replace k := k.mono o
 replace h := Fz.le.trans h o
 have ad : Mem B [] w0 Z0 ((.own (tyInt .u32) 105 x y (gtwinS c.b.abs)) :: (.row b1 (e75Nf c l m f g) 75) :: (.row d [.bool false, .slice none 0 0] 73) :: Rr) ay aa := ac
 refine nl (qnI (Y _ _ (ad.cst k [1]) ?_))
 refine eS rfl ?_; intro az ae
 obtain ⟨aA, p, af, z⟩ := ad.freeze 0 rfl
 replace j := j.mono p
 replace i := i.mono p
 replace k := k.mono p
 replace h := Fz.le.trans h p
 have A : Mem B [] w0 Z0 ((.row b1 (e75Nf c l m f g) 75) :: (.row d [.bool false, .slice none 0 0] 73) :: Rr) aA aa := af
 refine ck ab 78 #[pt d 0, .bool c.b.neg, .slice x (gtwinS c.b.abs).length y] ?_
 refine (ggive_fun (⟨false, []⟩ : BInt) c.b.neg (gtwinS c.b.abs) d none 0 x y _ _ _ _ _ _ (SlR.nil _ _) z (A.perm (pk 1 rfl)) A.fz).mono ?_; rintro _ ag ⟨C, D, E, rfl, n, aB, hm⟩; refine ⟨_, rfl, ?_⟩; intro aN ah; have ai := hm
 replace j := j.mono n
 replace i := i.mono n
 replace k := k.mono n
 replace h := Fz.le.trans h n
 have F : Mem B [] w0 Z0 ((.row d [.bool (ggive (⟨false, []⟩ : BInt) c.b.neg (gtwinS c.b.abs)).neg, .slice C (ggive (⟨false, []⟩ : BInt) c.b.neg (gtwinS c.b.abs)).abs.length D] 73) :: (.row b1 (e75Nf c l m f g) 75) :: Rr) E ag := ai
 refine nl (qnI (ae _ _ (F.cst k [1]) ?_))
 refine cS ah 1 [] [] [(4, pt d 0)] ?_; intro aO aj
 refine nS (W _ _ ?_)
 refine t_ (r_ (ra1 aj (pt d 0) ?_))
 refine ⟨_, rfl, ?_⟩; intro aP ak
 refine s1 ak 2 (pt d 0) ?_; intro aQ aC
 have aD : Mem B [] w0 Z0 ((.row d [.bool (ggive (⟨false, []⟩ : BInt) c.b.neg (gtwinS c.b.abs)).neg, .slice C (ggive (⟨false, []⟩ : BInt) c.b.neg (gtwinS c.b.abs)).abs.length D] 73) :: (.row b1 (e75Nf c l m f g) 75) :: Rr) E ag := F
 apply J
 exact r_ (ra1 aC (pt d 0) ⟨(c, (ggive (⟨false, []⟩ : BInt) c.b.neg (gtwinS c.b.abs))), l, m, f, g, d, C, D, E, rfl, ax, h, j, i, aB, aD.kp⟩)
theorem rsub_walk (u0 : BRat) (u2 : BRat) (b1 : Nat) (ao2 : Option Addr) (cap3 : Nat) (ao5 : Option Addr) (cap6 : Nat) (b8 : Nat) (ao9 : Option Addr) (cap10 : Nat) (ao12 : Option Addr) (cap13 : Nat) (B : Nat) (w0 : World) (Z0 : Fz) (Rr : List Res) (Z : Fz) (w : World) (hs4 : SlR (tyInt .u32) Z ao2 cap3 u0.a.abs) (hs7 : SlR (tyInt .u32) Z ao5 cap6 u0.b.abs) (hs11 : SlR (tyInt .u32) Z ao9 cap10 u2.a.abs) (hs14 : SlR (tyInt .u32) Z ao12 cap13 u2.b.abs) (hM0 : Mem B [] w0 Z0 ((.row b1 [.bool u0.a.neg, .slice ao2 u0.a.abs.length cap3, .bool u0.b.neg, .slice ao5 u0.b.abs.length cap6] 75) :: (.row b8 [.bool u2.a.neg, .slice ao9 u2.a.abs.length cap10, .bool u2.b.neg, .slice ao12 u2.b.abs.length cap13] 75) :: Rr) Z w) (hZ : Z.on w) {K : (BRat × BRat) → Prop} (hp : rsub_vc u0 u2 K) : Calls Tryz.prog 43 #[pt b1 0, pt b1 0, pt b8 0] w fun e w' => ∃ (r : BRat × BRat) (ao1001 : Option Addr) (cap1002 : Nat) (ao1004 : Option Addr) (cap1005 : Nat) (ao1007 : Option Addr) (cap1008 : Nat) (ao1010 : Option Addr) (cap1011 : Nat) (Z' : Fz), e = .returned (pt b1 0) ∧ K r ∧ Fz.le Z Z' ∧ SlR (tyInt .u32) Z' ao1001 cap1002 r.1.a.abs ∧ SlR (tyInt .u32) Z' ao1004 cap1005 r.1.b.abs ∧ SlR (tyInt .u32) Z' ao1007 cap1008 r.2.a.abs ∧ SlR (tyInt .u32) Z' ao1010 cap1011 r.2.b.abs ∧ Mem B [] w0 Z0 ((.row b1 [.bool r.1.a.neg, .slice ao1001 r.1.a.abs.length cap1002, .bool r.1.b.neg, .slice ao1004 r.1.b.abs.length cap1005] 75) :: (.row b8 [.bool r.2.a.neg, .slice ao1007 r.2.a.abs.length cap1008, .bool r.2.b.neg, .slice ao1010 r.2.b.abs.length cap1011] 75) :: Rr) Z' w' := by
 refine enter0 Tryz.func43 rfl rfl (by kernel_rfl) ?_; intro a0 a2; have n := Fz.le.refl Z
 have da := hp (hs4.small) (hs7.small) (hs11.small) (hs14.small)
 refine sqB a2 hM0 [] [] [] ?_; intro db a6
 have a7 : Fr 33 [] [⟨0, [], pt b1 0⟩, ⟨1, [], pt b1 0⟩, ⟨2, [], pt b8 0⟩] db := a6.reg
 refine wp_seq (rgF mixed hM0 [2, 3, 4, 5, 9, 10, 11, 12] [6, 7, 13, 14, 15, 16] [0, 1, 8] [] [] ?_)
 intro dc a8 dd a9
 have i := Fz.le.refl Z
 refine cS a7 8 [] [] [(12, pt b1 0), (13, pt b8 0), (19, pt b8 0), (20, pt b1 0)] ?_; intro ep ba
 refine nS ⟨[⟨0, 8, fun b => pt b 0, [.bool false, .slice none 0 0], 73⟩, ⟨1, 9, fun b => pt b 0, [.bool false, .slice none 0 0], 73⟩, ⟨8, 16, fun b => pt b 0, [.bool false, .slice none 0 0], 73⟩], rfl, ?_⟩; intro de df dg
 have bb : Mem B [] w0 Z0 ((.row b1 (e75Nf u0 ao2 cap3 ao5 cap6) 75) :: (.row b8 (e75Nf u2 ao9 cap10 ao12 cap13) 75) :: (rowsF de ++ Rr)) Z dd := by rw [dg]; exact a9
 refine eF 2 [] Rr df ba bb i (fO (fO (fO fN))) ?_; intro dh eq er di bc az dj bd
 obtain ⟨dk, be⟩ := da
 refine ck bc 76 #[pt b8 0] ?_
 obtain ⟨af, dl, bf⟩ := hxq be
 have c := rden_fun u2 dk b8 ao9 cap10 ao12 cap13 _ _ _ _ _ _ hs11 hs14 (az.perm (pk 1 rfl)) az.fz; rw [dl] at c; refine c.mono ?_; rintro _ dm ⟨bg, bh, bi, bj, dn, rfl, V, o, p, hm⟩; refine ⟨_, rfl, ?_⟩; intro es bk; have bl := hm
 replace hs4 := hs4.mono V
 replace hs7 := hs7.mono V
 replace i := i.mono V
 replace n := Fz.le.trans n V
 have aA : Mem B [] w0 Z0 ((.row b8 (e75Nf af bg bh bi bj) 75) :: (.row b1 (e75Nf u0 ao2 cap3 ao5 cap6) 75) :: (rowsF dh ++ Rr)) dn dm := bl
 have dp := bf (o.small) (p.small)
 refine nl (qnI (bd _ _ (fun _ => aA.cst i []) ?_))
 refine tkF 1 2 [] Rr di bk aA i (fO (fO (fO fN))) ?_; intro C et eu ev dq bn bo
 refine eF 3 [] Rr dq bn bo i (fO (fO fN)) ?_; intro dr ew ex ds bp aB dt bq
 obtain ⟨du, br⟩ := dp
 refine ck bp 75 #[pt C 0, pt b1 0, pt b8 2] ?_
 obtain ⟨l, dv, bs⟩ := hxq br
 have c := gmulAB_fun (⟨false, []⟩ : BInt) u0 af du C none 0 b1 ao2 cap3 ao5 cap6 b8 bg bh bi bj _ _ _ _ _ _ (SlR.nil _ _) hs4 hs7 o p (aB.perm (((pk 1 rfl).trans (lpr.cons _)).cons _)) aB.fz; rw [dv] at c; refine c.mono ?_; rintro _ dw ⟨am, an, bu, bv, bw, bx, aC, aD, aE, aF, dx, rfl, R, s, t, u, v, x, hm⟩; refine ⟨_, rfl, ?_⟩; intro ey bz; have bA := hm
 replace i := i.mono R
 replace n := Fz.le.trans n R
 have aG : Mem B [] w0 Z0 ((.row C [.bool l.1.neg, .slice am l.1.abs.length an] 73) :: (.row b1 (e75Nf l.2.1 bu bv bw bx) 75) :: (.row b8 (e75Nf l.2.2 aC aD aE aF) 75) :: (rowsF dr ++ Rr)) dx dw := bA
 have dy := bs (s.small) (t.small) (u.small) (v.small) (x.small)
 refine nl (qnI (bq _ _ (fun _ => aG.cst i []) ?_))
 refine eF 3 [] Rr ds bz aG i (fO (fO fN)) ?_; intro dz ez eA dA bF aH dB bG
 obtain ⟨dC, bH⟩ := dy
 refine ck bF 76 #[pt b1 0] ?_
 obtain ⟨ag, dD, bI⟩ := hxq bH
 have c := rden_fun l.2.1 dC b1 bu bv bw bx _ _ _ _ _ _ t u (aH.perm (pk 1 rfl)) aH.fz; rw [dD] at c; refine c.mono ?_; rintro _ dE ⟨bJ, bK, bL, bM, dF, rfl, D, z, A, hm⟩; refine ⟨_, rfl, ?_⟩; intro eB bN; have bO := hm
 replace i := i.mono D
 replace s := s.mono D
 replace v := v.mono D
 replace x := x.mono D
 replace n := Fz.le.trans n D
 have aI : Mem B [] w0 Z0 ((.row b1 (e75Nf ag bJ bK bL bM) 75) :: (.row C [.bool l.1.neg, .slice am l.1.abs.length an] 73) :: (.row b8 (e75Nf l.2.2 aC aD aE aF) 75) :: (rowsF dz ++ Rr)) dF dE := bO
 have dG := bI (z.small) (A.small)
 refine nl (qnI (bG _ _ (fun _ => aI.cst i []) ?_))
 refine tkF 1 3 [] Rr dA bN aI i (fO (fO fN)) ?_; intro L eC eD eE dH bQ bR
 refine eF 4 [] Rr dH bQ bR i (fO fN) ?_; intro dI eG eH dJ bS aJ dK bT
 obtain ⟨dL, bU⟩ := dG
 refine ck bS 75 #[pt L 0, pt b8 0, pt b1 2] ?_
 obtain ⟨f, dM, bV⟩ := hxq bU
 have c := gmulAB_fun (⟨false, []⟩ : BInt) l.2.2 ag dL L none 0 b8 aC aD aE aF b1 bJ bK bL bM _ _ _ _ _ _ (SlR.nil _ _) v x z A (aJ.perm (((pk 2 rfl).trans (lpr.cons _)).cons _)) aJ.fz; rw [dM] at c; refine c.mono ?_; rintro _ dN ⟨bW, bX, ah, ai, aj, ak, ao, ap, aq, ar, dO, rfl, y, E, F, G, H, I, hm⟩; refine ⟨_, rfl, ?_⟩; intro eI bY; have bZ := hm
 replace i := i.mono y
 replace s := s.mono y
 replace n := Fz.le.trans n y
 have aK : Mem B [] w0 Z0 ((.row L [.bool f.1.neg, .slice bW f.1.abs.length bX] 73) :: (.row b8 (e75Nf f.2.1 ah ai aj ak) 75) :: (.row b1 (e75Nf f.2.2 ao ap aq ar) 75) :: (.row C [.bool l.1.neg, .slice am l.1.abs.length an] 73) :: (rowsF dI ++ Rr)) dO dN := bZ
 have dP := bV (E.small) (F.small) (G.small) (H.small) (I.small)
 refine nl (qnI (bT _ _ (fun _ => aK.cst i []) ?_))
 refine tkF 0 4 [] Rr dJ bY aK i (fO fN) ?_; intro J eJ eK eL b5 b6 b7
 obtain rfl := nilF b5
 refine eF 5 [] Rr b5 b6 b7 i fN ?_; intro eM eN eO b9 ca aL dQ cb
 obtain rfl := nilF b9
 obtain ⟨dR, cc⟩ := dP
 refine ck ca 74 #[pt J 0, pt C 0, pt L 0] ?_
 obtain ⟨d, dS, cd⟩ := hxq cc
 have c := gsubI_fun (⟨false, []⟩ : BInt) l.1 f.1 dR J none 0 C am an L bW bX _ _ _ _ _ _ (SlR.nil _ _) s E (aL.perm (((pk 3 rfl).trans (lpr.cons _)).cons _)) aL.fz; rw [dS] at c; refine c.mono ?_; rintro _ dT ⟨W, X, Y, aa, ab, ac, ce, rfl, m, M, N, O, hm⟩; refine ⟨_, rfl, ?_⟩; intro eP cf; have cg := hm
 replace i := i.mono m
 replace F := F.mono m
 replace G := G.mono m
 replace H := H.mono m
 replace I := I.mono m
 replace n := Fz.le.trans n m
 have aM : Mem B [] w0 Z0 ((.row J [.bool d.1.neg, .slice W d.1.abs.length X] 73) :: (.row C [.bool d.2.1.neg, .slice Y d.2.1.abs.length aa] 73) :: (.row L [.bool d.2.2.neg, .slice ab d.2.2.abs.length ac] 73) :: (.row b8 (e75Nf f.2.1 ah ai aj ak) 75) :: (.row b1 (e75Nf f.2.2 ao ap aq ar) 75) :: Rr) ce dT := cg
 have dU := cd (M.small) (N.small) (O.small)
 refine nl (qnI (cb _ _ (fun _ => aM.cst i []) ?_))
 refine eF 5 [] Rr b9 cf aM i fN ?_; intro eQ eR dV cj cl aN dW cm
 obtain rfl := nilF cj
 refine s1 cl 7 (pt J 0) ?_; intro eS cn
 refine nl (qnI (cm _ _ (fun _ => aN.cst i []) ?_))
 have aO : Mem B [] w0 Z0 ((.row J [.bool d.1.neg, .slice W d.1.abs.length X] 73) :: (.row C [.bool d.2.1.neg, .slice Y d.2.1.abs.length aa] 73) :: (.row L [.bool d.2.2.neg, .slice ab d.2.2.abs.length ac] 73) :: (.row b8 (e75Nf f.2.1 ah ai aj ak) 75) :: (.row b1 (e75Nf f.2.2 ao ap aq ar) 75) :: Rr) ce dV := aN
 refine nF cj (a8 _ _ ?_)
 refine t_ (sqH ?_); intro dX co
 refine bt cn aO 2 [] [] [(24, pt b1 0), (25, pt J 0)] ?_; intro eT cp
 refine nw cp aO pb [.bool false, .slice none 0 0] 73 ?_; intro S eU eV cq aP
 refine s1 cq 27 (pt b1 0) ?_; intro eW cr
 obtain ⟨dY, cs⟩ := dU
 refine ck cr 76 #[pt b1 0] ?_
 obtain ⟨P, dZ, ct⟩ := hxq cs
 have c := rden_fun f.2.2 dY b1 ao ap aq ar _ _ _ _ _ _ H I (aP.perm (pk 5 rfl)) aP.fz; rw [dZ] at c; refine c.mono ?_; rintro _ d0 ⟨aQ, aR, aS, aT, d1, rfl, k, T, U, hm⟩; refine ⟨_, rfl, ?_⟩; intro eX cu; have cv := hm
 replace F := F.mono k
 replace G := G.mono k
 replace M := M.mono k
 replace n := Fz.le.trans n k
 have aU : Mem B [] w0 Z0 ((.row b1 (e75Nf P aQ aR aS aT) 75) :: (.row S [.bool false, .slice none 0 0] 73) :: (.row J [.bool d.1.neg, .slice W d.1.abs.length X] 73) :: (.row C [.bool d.2.1.neg, .slice Y d.2.1.abs.length aa] 73) :: (.row L [.bool d.2.2.neg, .slice ab d.2.2.abs.length ac] 73) :: (.row b8 (e75Nf f.2.1 ah ai aj ak) 75) :: Rr) d1 d0 := cv
 have d2 := ct (T.small) (U.small)
 refine s1 cu 29 (pt b8 0) ?_; intro eY cx
 obtain ⟨d3, cy⟩ := d2
 refine ck cx 76 #[pt b8 0] ?_
 obtain ⟨al, d4, cz⟩ := hxq cy
 have c := rden_fun f.2.1 d3 b8 ah ai aj ak _ _ _ _ _ _ F G (aU.perm (pk 5 rfl)) aU.fz; rw [d4] at c; refine c.mono ?_; rintro _ d5 ⟨cA, cB, cC, cD, d6, rfl, j, ad, ae, hm⟩; refine ⟨_, rfl, ?_⟩; intro eZ cE; have cF := hm
 replace M := M.mono j
 replace T := T.mono j
 replace U := U.mono j
 replace n := Fz.le.trans n j
 have aV : Mem B [] w0 Z0 ((.row b8 (e75Nf al cA cB cC cD) 75) :: (.row b1 (e75Nf P aQ aR aS aT) 75) :: (.row S [.bool false, .slice none 0 0] 73) :: (.row J [.bool d.1.neg, .slice W d.1.abs.length X] 73) :: (.row C [.bool d.2.1.neg, .slice Y d.2.1.abs.length aa] 73) :: (.row L [.bool d.2.2.neg, .slice ab d.2.2.abs.length ac] 73) :: Rr) d6 d5 := cF
 obtain ⟨d8, cH⟩ := cz (ad.small) (ae.small)
 refine ck cE 75 #[pt S 0, pt b1 2, pt b8 2] ?_
 obtain ⟨q, d9, cI⟩ := hxq cH
 have c := gmulBB_fun (⟨false, []⟩ : BInt) P al d8 S none 0 b1 aQ aR aS aT b8 cA cB cC cD _ _ _ _ _ _ (SlR.nil _ _) T U ad ae (aV.perm ((pk 2 rfl).trans (((pk 1 rfl).trans (lpr.cons _)).cons _))) aV.fz; rw [d9] at c; refine c.mono ?_; rintro _ ea ⟨cJ, cK, cL, cM, cN, cO, aW, aX, aY, aZ, eb, rfl, h, au, av, aw, ax, ay, hm⟩; refine ⟨_, rfl, ?_⟩; intro e0 cP; have cQ := hm
 replace M := M.mono h
 replace n := Fz.le.trans n h
 have a1 : Mem B [] w0 Z0 ((.row S [.bool q.1.neg, .slice cJ q.1.abs.length cK] 73) :: (.row b1 (e75Nf q.2.1 cL cM cN cO) 75) :: (.row b8 (e75Nf q.2.2 aW aX aY aZ) 75) :: (.row J [.bool d.1.neg, .slice W d.1.abs.length X] 73) :: (.row C [.bool d.2.1.neg, .slice Y d.2.1.abs.length aa] 73) :: (.row L [.bool d.2.2.neg, .slice ab d.2.2.abs.length ac] 73) :: Rr) eb ea := cQ
 obtain ⟨ed, cW⟩ := cI (au.small) (av.small) (aw.small) (ax.small) (ay.small)
 refine ck cP 73 #[pt b1 0, pt J 0, pt S 0] ?_
 obtain ⟨Q, ee, cX⟩ := hxq cW
 have c := rsf_fun q.2.1 d.1 q.1 ed b1 cL cM cN cO J W X S cJ cK _ _ _ _ _ _ av aw M au (a1.perm ((pk 1 rfl).trans (((pk 2 rfl).trans (lpr.cons _)).cons _))) a1.fz; rw [ee] at c; refine c.mono ?_; rintro _ ef ⟨cY, cZ, c0, c1, eg, eh, ei, ej, c2, rfl, g, c3, c4, ek, el, hm⟩; refine ⟨_, rfl, ?_⟩; intro e1 c5; have c6 := hm
 replace ax := ax.mono g
 replace ay := ay.mono g
 replace n := Fz.le.trans n g
 have em : Mem B [] w0 Z0 ((.row b1 (e75Nf Q.1 cY cZ c0 c1) 75) :: (.row J [.bool Q.2.1.neg, .slice eg Q.2.1.abs.length eh] 73) :: (.row S [.bool Q.2.2.neg, .slice ei Q.2.2.abs.length ej] 73) :: (.row b8 (e75Nf q.2.2 aW aX aY aZ) 75) :: (.row C [.bool d.2.1.neg, .slice Y d.2.1.abs.length aa] 73) :: (.row L [.bool d.2.2.neg, .slice ab d.2.2.abs.length ac] 73) :: Rr) c2 ef := c6
 have en := cX (c3.small) (c4.small) (ek.small) (el.small)
 refine s1 c5 6 (pt b1 0) ?_; intro e2 eo
 apply co
 exact r_ (ra1 eo (pt b1 0) ⟨(Q.1, q.2.2), cY, cZ, c0, c1, aW, aX, aY, aZ, c2, rfl, en, n, c3, c4, ax, ay, em.kp⟩)
theorem rmul_walk (u0 : BRat) (u2 : BRat) (b1 : Nat) (ao2 : Option Addr) (cap3 : Nat) (ao5 : Option Addr) (cap6 : Nat) (b8 : Nat) (ao9 : Option Addr) (cap10 : Nat) (ao12 : Option Addr) (cap13 : Nat) (B : Nat) (w0 : World) (Z0 : Fz) (Rr : List Res) (Z : Fz) (w : World) (hs4 : SlR (tyInt .u32) Z ao2 cap3 u0.a.abs) (hs7 : SlR (tyInt .u32) Z ao5 cap6 u0.b.abs) (hs11 : SlR (tyInt .u32) Z ao9 cap10 u2.a.abs) (hs14 : SlR (tyInt .u32) Z ao12 cap13 u2.b.abs) (hM0 : Mem B [] w0 Z0 ((.row b1 [.bool u0.a.neg, .slice ao2 u0.a.abs.length cap3, .bool u0.b.neg, .slice ao5 u0.b.abs.length cap6] 75) :: (.row b8 [.bool u2.a.neg, .slice ao9 u2.a.abs.length cap10, .bool u2.b.neg, .slice ao12 u2.b.abs.length cap13] 75) :: Rr) Z w) (hZ : Z.on w) {K : (BRat × BRat) → Prop} (hp : rmul_vc u0 u2 K) : Calls Tryz.prog 45 #[pt b1 0, pt b1 0, pt b8 0] w fun e w' => ∃ (r : BRat × BRat) (ao1001 : Option Addr) (cap1002 : Nat) (ao1004 : Option Addr) (cap1005 : Nat) (ao1007 : Option Addr) (cap1008 : Nat) (ao1010 : Option Addr) (cap1011 : Nat) (Z' : Fz), e = .returned (pt b1 0) ∧ K r ∧ Fz.le Z Z' ∧ SlR (tyInt .u32) Z' ao1001 cap1002 r.1.a.abs ∧ SlR (tyInt .u32) Z' ao1004 cap1005 r.1.b.abs ∧ SlR (tyInt .u32) Z' ao1007 cap1008 r.2.a.abs ∧ SlR (tyInt .u32) Z' ao1010 cap1011 r.2.b.abs ∧ Mem B [] w0 Z0 ((.row b1 [.bool r.1.a.neg, .slice ao1001 r.1.a.abs.length cap1002, .bool r.1.b.neg, .slice ao1004 r.1.b.abs.length cap1005] 75) :: (.row b8 [.bool r.2.a.neg, .slice ao1007 r.2.a.abs.length cap1008, .bool r.2.b.neg, .slice ao1010 r.2.b.abs.length cap1011] 75) :: Rr) Z' w' := by
 refine enter0 Tryz.func45 rfl rfl (by kernel_rfl) ?_; intro a0 ap; have l := Fz.le.refl Z
 have bO := hp (hs4.small) (hs7.small) (hs11.small) (hs14.small)
 refine sqB ap hM0 [] [] [] ?_; intro bP av
 have aw : Fr 23 [] [⟨0, [], pt b1 0⟩, ⟨1, [], pt b1 0⟩, ⟨2, [], pt b8 0⟩] bP := av.reg
 refine wp_seq (rgF mixed hM0 [0, 2, 3, 4, 5, 6, 7, 10, 12] [8, 11, 13, 14, 15, 16] [1, 9] [] [] ?_)
 intro bQ ax bR ay
 have c := Fz.le.refl Z
 refine cS aw 9 [] [] [(7, pt b1 0), (11, pt b1 0), (14, pt b8 0), (17, pt b1 0), (19, pt b8 0)] ?_; intro cE az
 refine nS ⟨[⟨1, 8, fun b => pt b 0, [.bool false, .slice none 0 0], 73⟩, ⟨9, 16, fun b => pt b 0, [.bool false, .slice none 0 0], 73⟩], rfl, ?_⟩; intro bS bT bU
 have aA : Mem B [] w0 Z0 ((.row b1 (e75Nf u0 ao2 cap3 ao5 cap6) 75) :: (.row b8 (e75Nf u2 ao9 cap10 ao12 cap13) 75) :: (rowsF bS ++ Rr)) Z bR := by rw [bU]; exact ay
 refine tkF 0 2 [] Rr bT az aA c (fO (fO fN)) ?_; intro n cF cG cH bV aB aC
 refine eF 3 [] Rr bV aB aC c (fO fN) ?_; intro bW cI cJ bX aD Q bY aE
 obtain ⟨bZ, aF⟩ := bO
 refine ck aD 75 #[pt n 0, pt b1 0, pt b8 0] ?_
 obtain ⟨d, b0, aG⟩ := hxq aF
 have h := gmulAA_fun (⟨false, []⟩ : BInt) u0 u2 bZ n none 0 b1 ao2 cap3 ao5 cap6 b8 ao9 cap10 ao12 cap13 _ _ _ _ _ _ (SlR.nil _ _) hs4 hs7 hs11 hs14 Q Q.fz; rw [b0] at h; refine h.mono ?_; rintro _ b2 ⟨D, E, aH, aI, aJ, aK, R, S, T, U, b3, rfl, z, o, p, q, s, t, hm⟩; refine ⟨_, rfl, ?_⟩; intro cK aL; have aM := hm
 replace c := c.mono z
 replace l := Fz.le.trans l z
 have V : Mem B [] w0 Z0 ((.row n [.bool d.1.neg, .slice D d.1.abs.length E] 73) :: (.row b1 (e75Nf d.2.1 aH aI aJ aK) 75) :: (.row b8 (e75Nf d.2.2 R S T U) 75) :: (rowsF bW ++ Rr)) b3 b2 := aM
 have b4 := aG (o.small) (p.small) (q.small) (s.small) (t.small)
 refine nl (qnI (aE _ _ (fun _ => V.cst c []) ?_))
 refine eF 3 [] Rr bX aL V c (fO fN) ?_; intro b5 cL cM b6 aR W b7 aS
 obtain ⟨b9, aT⟩ := b4
 refine ck aR 76 #[pt b1 0] ?_
 obtain ⟨u, ca, aU⟩ := hxq aT
 have h := rden_fun d.2.1 b9 b1 aH aI aJ aK _ _ _ _ _ _ p q (W.perm (pk 1 rfl)) W.fz; rw [ca] at h; refine h.mono ?_; rintro _ cb ⟨X, Y, aa, ab, cc, rfl, m, v, x, hm⟩; refine ⟨_, rfl, ?_⟩; intro cN aV; have aW := hm
 replace c := c.mono m
 replace o := o.mono m
 replace s := s.mono m
 replace t := t.mono m
 replace l := Fz.le.trans l m
 have ac : Mem B [] w0 Z0 ((.row b1 (e75Nf u X Y aa ab) 75) :: (.row n [.bool d.1.neg, .slice D d.1.abs.length E] 73) :: (.row b8 (e75Nf d.2.2 R S T U) 75) :: (rowsF b5 ++ Rr)) cc cb := aW
 have cd := aU (v.small) (x.small)
 refine nl (qnI (aS _ _ (fun _ => ac.cst c []) ?_))
 refine eF 3 [] Rr b6 aV ac c (fO fN) ?_; intro ce cO cP cf aY ad cg aZ
 obtain ⟨ch, a1⟩ := cd
 refine ck aY 76 #[pt b8 0] ?_
 obtain ⟨F, ci, a2⟩ := hxq a1
 have h := rden_fun d.2.2 ch b8 R S T U _ _ _ _ _ _ s t (ad.perm (pk 2 rfl)) ad.fz; rw [ci] at h; refine h.mono ?_; rintro _ cj ⟨a3, a4, a5, a6, cl, rfl, k, A, C, hm⟩; refine ⟨_, rfl, ?_⟩; intro cQ a7; have a8 := hm
 replace c := c.mono k
 replace o := o.mono k
 replace v := v.mono k
 replace x := x.mono k
 replace l := Fz.le.trans l k
 have ae : Mem B [] w0 Z0 ((.row b8 (e75Nf F a3 a4 a5 a6) 75) :: (.row b1 (e75Nf u X Y aa ab) 75) :: (.row n [.bool d.1.neg, .slice D d.1.abs.length E] 73) :: (rowsF ce ++ Rr)) cl cj := a8
 have cm := a2 (A.small) (C.small)
 refine nl (qnI (aZ _ _ (fun _ => ae.cst c []) ?_))
 refine tkF 0 3 [] Rr cf a7 ae c (fO fN) ?_; intro y cR cT cU ba bb bc
 obtain rfl := nilF ba
 refine eF 4 [] Rr ba bb bc c fN ?_; intro cV cW cX bd be af cn bf
 obtain rfl := nilF bd
 obtain ⟨co, bg⟩ := cm
 refine ck be 75 #[pt y 0, pt b1 2, pt b8 2] ?_
 obtain ⟨f, cp, bh⟩ := hxq bg
 have h := gmulBB_fun (⟨false, []⟩ : BInt) u F co y none 0 b1 X Y aa ab b8 a3 a4 a5 a6 _ _ _ _ _ _ (SlR.nil _ _) v x A C (af.perm (((pk 1 rfl).trans (lpr.cons _)).cons _)) af.fz; rw [cp] at h; refine h.mono ?_; rintro _ cq ⟨bi, bj, bk, bl, bm, bn, G, H, I, J, cr, rfl, j, L, M, N, O, P, hm⟩; refine ⟨_, rfl, ?_⟩; intro cY bo; have bp := hm
 replace c := c.mono j
 replace o := o.mono j
 replace l := Fz.le.trans l j
 have ag : Mem B [] w0 Z0 ((.row y [.bool f.1.neg, .slice bi f.1.abs.length bj] 73) :: (.row b1 (e75Nf f.2.1 bk bl bm bn) 75) :: (.row b8 (e75Nf f.2.2 G H I J) 75) :: (.row n [.bool d.1.neg, .slice D d.1.abs.length E] 73) :: Rr) cr cq := bp
 have cs := bh (L.small) (M.small) (N.small) (O.small) (P.small)
 refine nl (qnI (bf _ _ (fun _ => ag.cst c []) ?_))
 refine eF 4 [] Rr bd bo ag c fN ?_; intro cZ c0 c1 bu bv ah ct bw
 obtain rfl := nilF bu
 obtain ⟨cu, bx⟩ := cs
 refine ck bv 73 #[pt b1 0, pt n 0, pt y 0] ?_
 obtain ⟨i, cv, bz⟩ := hxq bx
 have h := rsf_fun f.2.1 d.1 f.1 cu b1 bk bl bm bn n D E y bi bj _ _ _ _ _ _ M N o L (ah.perm ((pk 1 rfl).trans (((pk 2 rfl).trans (lpr.cons _)).cons _))) ah.fz; rw [cv] at h; refine h.mono ?_; rintro _ cw ⟨ai, aj, ak, al, bA, bB, bC, bD, am, rfl, g, bE, bF, cx, cy, hm⟩; refine ⟨_, rfl, ?_⟩; intro c2 bG; have bH := hm
 replace c := c.mono g
 replace O := O.mono g
 replace P := P.mono g
 replace l := Fz.le.trans l g
 have an : Mem B [] w0 Z0 ((.row b1 (e75Nf i.1 ai aj ak al) 75) :: (.row n [.bool i.2.1.neg, .slice bA i.2.1.abs.length bB] 73) :: (.row y [.bool i.2.2.neg, .slice bC i.2.2.abs.length bD] 73) :: (.row b8 (e75Nf f.2.2 G H I J) 75) :: Rr) am cw := bH
 have cz := bz (bE.small) (bF.small) (cx.small) (cy.small)
 refine nl (qnI (bw _ _ (fun _ => an.cst c []) ?_))
 refine eF 4 [] Rr bu bG an c fN ?_; intro c3 c4 cA bL bM ao cB bN
 obtain rfl := nilF bL
 refine s1 bM 6 (pt b1 0) ?_; intro c5 cC
 refine nl (qnI (bN _ _ (fun _ => ao.cst c []) ?_))
 have cD : Mem B [] w0 Z0 ((.row b1 (e75Nf i.1 ai aj ak al) 75) :: (.row n [.bool i.2.1.neg, .slice bA i.2.1.abs.length bB] 73) :: (.row y [.bool i.2.2.neg, .slice bC i.2.2.abs.length bD] 73) :: (.row b8 (e75Nf f.2.2 G H I J) 75) :: Rr) am cA := ao
 refine nF bL (ax _ _ ?_)
 exact t_ (r_ (ra1 cC (pt b1 0) ⟨(i.1, f.2.2), ai, aj, ak, al, G, H, I, J, am, rfl, cz, l, bE, bF, O, P, cD.kp⟩))
theorem rquo_walk (u0 : BRat) (u2 : BRat) (b1 : Nat) (ao2 : Option Addr) (cap3 : Nat) (ao5 : Option Addr) (cap6 : Nat) (b8 : Nat) (ao9 : Option Addr) (cap10 : Nat) (ao12 : Option Addr) (cap13 : Nat) (B : Nat) (w0 : World) (Z0 : Fz) (Rr : List Res) (Z : Fz) (w : World) (hs4 : SlR (tyInt .u32) Z ao2 cap3 u0.a.abs) (hs7 : SlR (tyInt .u32) Z ao5 cap6 u0.b.abs) (hs11 : SlR (tyInt .u32) Z ao9 cap10 u2.a.abs) (hs14 : SlR (tyInt .u32) Z ao12 cap13 u2.b.abs) (hM0 : Mem B [] w0 Z0 ((.row b1 [.bool u0.a.neg, .slice ao2 u0.a.abs.length cap3, .bool u0.b.neg, .slice ao5 u0.b.abs.length cap6] 75) :: (.row b8 [.bool u2.a.neg, .slice ao9 u2.a.abs.length cap10, .bool u2.b.neg, .slice ao12 u2.b.abs.length cap13] 75) :: Rr) Z w) (hZ : Z.on w) {K : (BRat × BRat) → Prop} (hp : rquo_vc u0 u2 K) : Calls Tryz.prog 46 #[pt b1 0, pt b1 0, pt b8 0] w fun e w' => ∃ (r : BRat × BRat) (ao1001 : Option Addr) (cap1002 : Nat) (ao1004 : Option Addr) (cap1005 : Nat) (ao1007 : Option Addr) (cap1008 : Nat) (ao1010 : Option Addr) (cap1011 : Nat) (Z' : Fz), e = .returned (pt b1 0) ∧ K r ∧ Fz.le Z Z' ∧ SlR (tyInt .u32) Z' ao1001 cap1002 r.1.a.abs ∧ SlR (tyInt .u32) Z' ao1004 cap1005 r.1.b.abs ∧ SlR (tyInt .u32) Z' ao1007 cap1008 r.2.a.abs ∧ SlR (tyInt .u32) Z' ao1010 cap1011 r.2.b.abs ∧ Mem B [] w0 Z0 ((.row b1 [.bool r.1.a.neg, .slice ao1001 r.1.a.abs.length cap1002, .bool r.1.b.neg, .slice ao1004 r.1.b.abs.length cap1005] 75) :: (.row b8 [.bool r.2.a.neg, .slice ao1007 r.2.a.abs.length cap1008, .bool r.2.b.neg, .slice ao1010 r.2.b.abs.length cap1011] 75) :: Rr) Z' w' := by
 refine enter0 Tryz.func46 rfl rfl (by kernel_rfl) ?_; intro a0 al; have l := Fz.le.refl Z
 have bO := hp (hs4.small) (hs7.small) (hs11.small) (hs14.small)
 refine sqB al hM0 [] [] [] ?_; intro bP ap
 have aq : Fr 23 [] [⟨0, [], pt b1 0⟩, ⟨1, [], pt b1 0⟩, ⟨2, [], pt b8 0⟩] bP := ap.reg
 refine wp_seq (rgF mixed hM0 [0, 2, 3, 4, 5, 9, 11, 12, 13] [6, 7, 10, 14, 15, 16] [1, 8] [] [] ?_)
 intro bQ ar bR au
 have c := Fz.le.refl Z
 refine cS aq 9 [] [] [(7, pt b1 0), (11, pt b1 0), (12, pt b8 0), (16, pt b1 0), (20, pt b8 0)] ?_; intro cE av
 refine nS ⟨[⟨1, 8, fun b => pt b 0, [.bool false, .slice none 0 0], 73⟩, ⟨8, 15, fun b => pt b 0, [.bool false, .slice none 0 0], 73⟩], rfl, ?_⟩; intro bS bT bU
 have aw : Mem B [] w0 Z0 ((.row b1 (e75Nf u0 ao2 cap3 ao5 cap6) 75) :: (.row b8 (e75Nf u2 ao9 cap10 ao12 cap13) 75) :: (rowsF bS ++ Rr)) Z bR := by rw [bU]; exact au
 refine eF 2 [] Rr bT av aw c (fO (fO fN)) ?_; intro bV cF cG bW ax Q bX ay
 obtain ⟨bY, az⟩ := bO
 refine ck ax 76 #[pt b8 0] ?_
 obtain ⟨C, bZ, aA⟩ := hxq az
 have h := rden_fun u2 bY b8 ao9 cap10 ao12 cap13 _ _ _ _ _ _ hs11 hs14 (Q.perm (pk 1 rfl)) Q.fz; rw [bZ] at h; refine h.mono ?_; rintro _ b0 ⟨aB, aC, aD, aE, b2, rfl, y, m, n, hm⟩; refine ⟨_, rfl, ?_⟩; intro cH aF; have aG := hm
 replace hs4 := hs4.mono y
 replace hs7 := hs7.mono y
 replace c := c.mono y
 replace l := Fz.le.trans l y
 have R : Mem B [] w0 Z0 ((.row b8 (e75Nf C aB aC aD aE) 75) :: (.row b1 (e75Nf u0 ao2 cap3 ao5 cap6) 75) :: (rowsF bV ++ Rr)) b2 b0 := aG
 have b3 := aA (m.small) (n.small)
 refine nl (qnI (ay _ _ (fun _ => R.cst c []) ?_))
 refine tkF 0 2 [] Rr bW aF R c (fO (fO fN)) ?_; intro o cI cJ cK b4 aI aJ
 refine eF 3 [] Rr b4 aI aJ c (fO fN) ?_; intro b5 cL cM b6 aK S b7 aL
 obtain ⟨b9, aM⟩ := b3
 refine ck aK 75 #[pt o 0, pt b1 0, pt b8 2] ?_
 obtain ⟨d, ca, aN⟩ := hxq aM
 have h := gmulAB_fun (⟨false, []⟩ : BInt) u0 C b9 o none 0 b1 ao2 cap3 ao5 cap6 b8 aB aC aD aE _ _ _ _ _ _ (SlR.nil _ _) hs4 hs7 m n (S.perm (((pk 1 rfl).trans (lpr.cons _)).cons _)) S.fz; rw [ca] at h; refine h.mono ?_; rintro _ cb ⟨E, F, aO, aP, aQ, aR, T, U, V, W, cc, rfl, p, q, s, t, u, v, hm⟩; refine ⟨_, rfl, ?_⟩; intro cN aS; have aT := hm
 replace c := c.mono p
 replace l := Fz.le.trans l p
 have X : Mem B [] w0 Z0 ((.row o [.bool d.1.neg, .slice E d.1.abs.length F] 73) :: (.row b1 (e75Nf d.2.1 aO aP aQ aR) 75) :: (.row b8 (e75Nf d.2.2 T U V W) 75) :: (rowsF b5 ++ Rr)) cc cb := aT
 have cd := aN (q.small) (s.small) (t.small) (u.small) (v.small)
 refine nl (qnI (aL _ _ (fun _ => X.cst c []) ?_))
 refine eF 3 [] Rr b6 aS X c (fO fN) ?_; intro ce cO cP cf aY Y cg aZ
 obtain ⟨ch, a1⟩ := cd
 refine ck aY 76 #[pt b1 0] ?_
 obtain ⟨D, ci, a2⟩ := hxq a1
 have h := rden_fun d.2.1 ch b1 aO aP aQ aR _ _ _ _ _ _ s t (Y.perm (pk 1 rfl)) Y.fz; rw [ci] at h; refine h.mono ?_; rintro _ cj ⟨a3, a4, a5, a6, cl, rfl, k, z, A, hm⟩; refine ⟨_, rfl, ?_⟩; intro cQ a7; have a8 := hm
 replace c := c.mono k
 replace q := q.mono k
 replace u := u.mono k
 replace v := v.mono k
 replace l := Fz.le.trans l k
 have aa : Mem B [] w0 Z0 ((.row b1 (e75Nf D a3 a4 a5 a6) 75) :: (.row o [.bool d.1.neg, .slice E d.1.abs.length F] 73) :: (.row b8 (e75Nf d.2.2 T U V W) 75) :: (rowsF ce ++ Rr)) cl cj := a8
 have cm := a2 (z.small) (A.small)
 refine nl (qnI (aZ _ _ (fun _ => aa.cst c []) ?_))
 refine tkF 0 3 [] Rr cf a7 aa c (fO fN) ?_; intro x cR cT cU ba bb bc
 obtain rfl := nilF ba
 refine eF 4 [] Rr ba bb bc c fN ?_; intro cV cW cX bd be ab cn bf
 obtain rfl := nilF bd
 obtain ⟨co, bg⟩ := cm
 refine ck be 75 #[pt x 0, pt b1 2, pt b8 0] ?_
 obtain ⟨f, cp, bh⟩ := hxq bg
 have h := gmulBA_fun (⟨false, []⟩ : BInt) D d.2.2 co x none 0 b1 a3 a4 a5 a6 b8 T U V W _ _ _ _ _ _ (SlR.nil _ _) z A u v (ab.perm ((((pk 1 rfl).trans (lpr.cons _)).cons _).cons _)) ab.fz; rw [cp] at h; refine h.mono ?_; rintro _ cq ⟨bi, bj, bk, bl, bm, bn, G, H, I, J, cr, rfl, j, L, M, N, O, P, hm⟩; refine ⟨_, rfl, ?_⟩; intro cY bo; have bp := hm
 replace c := c.mono j
 replace q := q.mono j
 replace l := Fz.le.trans l j
 have ac : Mem B [] w0 Z0 ((.row x [.bool f.1.neg, .slice bi f.1.abs.length bj] 73) :: (.row b1 (e75Nf f.2.1 bk bl bm bn) 75) :: (.row b8 (e75Nf f.2.2 G H I J) 75) :: (.row o [.bool d.1.neg, .slice E d.1.abs.length F] 73) :: Rr) cr cq := bp
 have cs := bh (L.small) (M.small) (N.small) (O.small) (P.small)
 refine nl (qnI (bf _ _ (fun _ => ac.cst c []) ?_))
 refine eF 4 [] Rr bd bo ac c fN ?_; intro cZ c0 c1 bu bv ad ct bw
 obtain rfl := nilF bu
 obtain ⟨cu, bx⟩ := cs
 refine ck bv 73 #[pt b1 0, pt o 0, pt x 0] ?_
 obtain ⟨i, cv, bz⟩ := hxq bx
 have h := rsf_fun f.2.1 d.1 f.1 cu b1 bk bl bm bn o E F x bi bj _ _ _ _ _ _ M N q L (ad.perm ((pk 1 rfl).trans (((pk 2 rfl).trans (lpr.cons _)).cons _))) ad.fz; rw [cv] at h; refine h.mono ?_; rintro _ cw ⟨ae, af, ag, ah, bA, bB, bC, bD, ai, rfl, g, bE, bF, cx, cy, hm⟩; refine ⟨_, rfl, ?_⟩; intro c2 bG; have bH := hm
 replace c := c.mono g
 replace O := O.mono g
 replace P := P.mono g
 replace l := Fz.le.trans l g
 have aj : Mem B [] w0 Z0 ((.row b1 (e75Nf i.1 ae af ag ah) 75) :: (.row o [.bool i.2.1.neg, .slice bA i.2.1.abs.length bB] 73) :: (.row x [.bool i.2.2.neg, .slice bC i.2.2.abs.length bD] 73) :: (.row b8 (e75Nf f.2.2 G H I J) 75) :: Rr) ai cw := bH
 have cz := bz (bE.small) (bF.small) (cx.small) (cy.small)
 refine nl (qnI (bw _ _ (fun _ => aj.cst c []) ?_))
 refine eF 4 [] Rr bu bG aj c fN ?_; intro c3 c4 cA bL bM ak cB bN
 obtain rfl := nilF bL
 refine s1 bM 6 (pt b1 0) ?_; intro c5 cC
 refine nl (qnI (bN _ _ (fun _ => ak.cst c []) ?_))
 have cD : Mem B [] w0 Z0 ((.row b1 (e75Nf i.1 ae af ag ah) 75) :: (.row o [.bool i.2.1.neg, .slice bA i.2.1.abs.length bB] 73) :: (.row x [.bool i.2.2.neg, .slice bC i.2.2.abs.length bD] 73) :: (.row b8 (e75Nf f.2.2 G H I J) 75) :: Rr) ai cA := ak
 refine nF bL (ar _ _ ?_)
 exact t_ (r_ (ra1 cC (pt b1 0) ⟨(i.1, f.2.2), ae, af, ag, ah, G, H, I, J, ai, rfl, cz, l, bE, bF, O, P, cD.kp⟩))
theorem risint_walk (u0 : BRat) (b1 : Nat) (ao2 : Option Addr) (cap3 : Nat) (ao5 : Option Addr) (cap6 : Nat) (B : Nat) (w0 : World) (Z0 : Fz) (Rr : List Res) (Z : Fz) (w : World) (hs4 : SlR (tyInt .u32) Z ao2 cap3 u0.a.abs) (hs7 : SlR (tyInt .u32) Z ao5 cap6 u0.b.abs) (hM0 : Mem B [] w0 Z0 ((.row b1 [.bool u0.a.neg, .slice ao2 u0.a.abs.length cap3, .bool u0.b.neg, .slice ao5 u0.b.abs.length cap6] 75) :: Rr) Z w) (hZ : Z.on w) {K : (Bool × BRat) → Prop} (hp : risint_vc u0 K) : Calls Tryz.prog 47 #[pt b1 0] w fun e w' => ∃ (r : Bool × BRat) (ao1001 : Option Addr) (cap1002 : Nat) (ao1004 : Option Addr) (cap1005 : Nat) (Z' : Fz), e = .returned (.bool r.1) ∧ K r ∧ Fz.le Z Z' ∧ SlR (tyInt .u32) Z' ao1001 cap1002 r.2.a.abs ∧ SlR (tyInt .u32) Z' ao1004 cap1005 r.2.b.abs ∧ Mem B [] w0 Z0 ((.row b1 [.bool r.2.a.neg, .slice ao1001 r.2.a.abs.length cap1002, .bool r.2.b.neg, .slice ao1004 r.2.b.abs.length cap1005] 75) :: Rr) Z' w' := by
 refine enter0 Tryz.func47 rfl rfl (by kernel_rfl) ?_; intro a0 v; have f := Fz.le.refl Z
 have ab := hp (hs4.small) (hs7.small)
 refine sqB v hM0 [] [] [] ?_; intro aw y
 refine sqH ?_; intro ac z
 refine s1 y 3 (pt b1 0) ?_; intro ax A
 obtain ⟨ad, C⟩ := ab
 refine ck A 76 #[pt b1 0] ?_
 obtain ⟨d, ae, D⟩ := hxq C
 have g := rden_fun u0 ad b1 ao2 cap3 ao5 cap6 _ _ _ _ _ _ hs4 hs7 hM0 hM0.fz; rw [ae] at g; refine g.mono ?_; rintro _ af ⟨m, n, o, p, ag, rfl, q, h, i, hm⟩; refine ⟨_, rfl, ?_⟩; intro ay E; have F := hm
 replace f := Fz.le.trans f q
 have s : Mem B [] w0 Z0 ((.row b1 (e75Nf d m n o p) 75) :: Rr) ag af := F
 obtain ⟨ai, aj⟩ := D (h.small) (i.small)
 refine ck E 48 #[i6 1] ?_
 refine (gnew_fun 1 ai _ _ s.fz).mono ?_; rintro _ ak ⟨l, H, I, al, rfl, t, hm⟩; refine ⟨_, rfl, ?_⟩; intro az J; have L := s.callZ hm; have k := hm.ext.le
 replace h := h.mono k
 replace i := i.mono k
 replace f := Fz.le.trans f k
 have u : Mem B [] w0 Z0 ((.row l [.bool (bz 1).neg, .slice H (bz 1).abs.length I] 73) :: (.row b1 (e75Nf d m n o p) 75) :: Rr) al ak := L
 obtain ⟨am, M⟩ := aj
 refine ck J 53 #[pt b1 2, pt l 0] ?_
 obtain ⟨c, an, N⟩ := hxq M
 have g := gcmpB_fun d (bz 1) am b1 m n o p l H I _ _ _ _ _ _ h i t (u.perm ((pk 1 rfl).trans (lpr.cons _))) u.fz; rw [an] at g; refine g.mono ?_; rintro _ ao ⟨O, P, Q, R, ap, aq, S, rfl, j, T, U, ar, hm⟩; refine ⟨_, rfl, ?_⟩; intro aA V; have W := hm
 replace f := Fz.le.trans f j
 have X : Mem B [] w0 Z0 ((.row b1 (e75Nf c.2.1 O P Q R) 75) :: (.row l [.bool c.2.2.neg, .slice ap c.2.2.abs.length aq] 73) :: Rr) S ao := W
 have au := N (T.small) (U.small) (ar.small)
 refine bt V X 2 [] [] [(2, .bool (c.1 == 0))] ?_; intro aB av
 apply z
 exact r_ (ra1 av (.bool (c.1 == 0)) ⟨(c.1 == 0, c.2.1), O, P, Q, R, S, rfl, au, f, T, U, X.kp⟩)
end Go.Proofs.YtdndfbamhnchfaaGreatDoor
set_option linter.unusedVariables false
set_option linter.unusedSimpArgs false
set_option linter.defProp false
namespace Go.Proofs.YtdndfbamhnchfaaGreatDoor
open Go.Sy Go.RowKit
def rsf64_fun (u0 : BRat) (u1 : Int) (u2 : Int) (hpre : u2 ≠ 0 ∧ (-9223372036854775808 ≤ u1 ∧ u1 ≤ 9223372036854775807) ∧ -9223372036854775808 ≤ u2 ∧ u2 ≤ 9223372036854775807) (b1 : Nat) (ao2 : Option Addr) (cap3 : Nat) (ao5 : Option Addr) (cap6 : Nat) (B : Nat) (w0 : World) (Z0 : Fz) (Rr : List Res) (Z : Fz) (w : World) (hs4 : SlR (tyInt .u32) Z ao2 cap3 u0.a.abs) (hs7 : SlR (tyInt .u32) Z ao5 cap6 u0.b.abs) (hM0 : Mem B [] w0 Z0 ((.row b1 [.bool u0.a.neg, .slice ao2 u0.a.abs.length cap3, .bool u0.b.neg, .slice ao5 u0.b.abs.length cap6] 75) :: Rr) Z w) (hZ : Z.on w) := fe_ (rsf64_walk u0 u1 u2 b1 ao2 cap3 ao5 cap6 B w0 Z0 Rr Z w hs4 hs7 hM0 hZ (rsf64_ok u0 u1 u2 hpre))
def rsi_fun (u0 : BRat) (u1 : Int) (hpre : -9223372036854775808 ≤ u1 ∧ u1 ≤ 9223372036854775807) (b1 : Nat) (ao2 : Option Addr) (cap3 : Nat) (ao5 : Option Addr) (cap6 : Nat) (B : Nat) (w0 : World) (Z0 : Fz) (Rr : List Res) (Z : Fz) (w : World) (hs4 : SlR (tyInt .u32) Z ao2 cap3 u0.a.abs) (hs7 : SlR (tyInt .u32) Z ao5 cap6 u0.b.abs) (hM0 : Mem B [] w0 Z0 ((.row b1 [.bool u0.a.neg, .slice ao2 u0.a.abs.length cap3, .bool u0.b.neg, .slice ao5 u0.b.abs.length cap6] 75) :: Rr) Z w) (hZ : Z.on w) := fe_ (rsi_walk u0 u1 b1 ao2 cap3 ao5 cap6 B w0 Z0 Rr Z w hs4 hs7 hM0 hZ (rsi_ok u0 u1 hpre))
theorem radd_fun (u0 : BRat) (u2 : BRat) (hpre : rk u0 ∧ rk u2 ∧ rlow u0 u2) (b1 : Nat) (ao2 : Option Addr) (cap3 : Nat) (ao5 : Option Addr) (cap6 : Nat) (b8 : Nat) (ao9 : Option Addr) (cap10 : Nat) (ao12 : Option Addr) (cap13 : Nat) (B : Nat) (w0 : World) (Z0 : Fz) (Rr : List Res) (Z : Fz) (w : World) (hs4 : SlR (tyInt .u32) Z ao2 cap3 u0.a.abs) (hs7 : SlR (tyInt .u32) Z ao5 cap6 u0.b.abs) (hs11 : SlR (tyInt .u32) Z ao9 cap10 u2.a.abs) (hs14 : SlR (tyInt .u32) Z ao12 cap13 u2.b.abs) (hM0 : Mem B [] w0 Z0 ((.row b1 [.bool u0.a.neg, .slice ao2 u0.a.abs.length cap3, .bool u0.b.neg, .slice ao5 u0.b.abs.length cap6] 75) :: (.row b8 [.bool u2.a.neg, .slice ao9 u2.a.abs.length cap10, .bool u2.b.neg, .slice ao12 u2.b.abs.length cap13] 75) :: Rr) Z w) (hZ : Z.on w) : Calls Tryz.prog 69 #[pt b1 0, pt b1 0, pt b8 0] w fun e w' => ∃ (ao1001 : Option Addr) (cap1002 : Nat) (ao1004 : Option Addr) (cap1005 : Nat) (ao1007 : Option Addr) (cap1008 : Nat) (ao1010 : Option Addr) (cap1011 : Nat) (Z' : Fz), e = .returned (pt b1 0) ∧ Fz.le Z Z' ∧ SlR (tyInt .u32) Z' ao1001 cap1002 (raddS u0 u2).1.a.abs ∧ SlR (tyInt .u32) Z' ao1004 cap1005 (raddS u0 u2).1.b.abs ∧ SlR (tyInt .u32) Z' ao1007 cap1008 (raddS u0 u2).2.a.abs ∧ SlR (tyInt .u32) Z' ao1010 cap1011 (raddS u0 u2).2.b.abs ∧ Mem B [] w0 Z0 ((.row b1 [.bool (raddS u0 u2).1.a.neg, .slice ao1001 (raddS u0 u2).1.a.abs.length cap1002, .bool (raddS u0 u2).1.b.neg, .slice ao1004 (raddS u0 u2).1.b.abs.length cap1005] 75) :: (.row b8 [.bool (raddS u0 u2).2.a.neg, .slice ao1007 (raddS u0 u2).2.a.abs.length cap1008, .bool (raddS u0 u2).2.b.neg, .slice ao1010 (raddS u0 u2).2.b.abs.length cap1011] 75) :: Rr) Z' w' :=
 (radd_walk u0 u2 b1 ao2 cap3 ao5 cap6 b8 ao9 cap10 ao12 cap13 B w0 Z0 Rr Z w hs4 hs7 hs11 hs14 hM0 hZ (radd_ok u0 u2 hpre)).mono fun _ _ ⟨r, h0, h1, h2, h3, h4, h5, h6, h7, h8, he, hk, f0, f1, f2, f3, f4, hm⟩ => by subst hk; exact ⟨h0, h1, h2, h3, h4, h5, h6, h7, h8, he, f0, f1, f2, f3, f4, hm⟩
theorem rdenom_fun (u0 : BRat) (hpre : bk u0.b ∧ u0.b.abs ≠ []) (b1 : Nat) (ao2 : Option Addr) (cap3 : Nat) (ao5 : Option Addr) (cap6 : Nat) (B : Nat) (w0 : World) (Z0 : Fz) (Rr : List Res) (Z : Fz) (w : World) (hs4 : SlR (tyInt .u32) Z ao2 cap3 u0.a.abs) (hs7 : SlR (tyInt .u32) Z ao5 cap6 u0.b.abs) (hM0 : Mem B [] w0 Z0 ((.row b1 [.bool u0.a.neg, .slice ao2 u0.a.abs.length cap3, .bool u0.b.neg, .slice ao5 u0.b.abs.length cap6] 75) :: Rr) Z w) (hZ : Z.on w) : Calls Tryz.prog 70 #[pt b1 0] w fun e w' => ∃ (ao1001 : Option Addr) (cap1002 : Nat) (ao1004 : Option Addr) (cap1005 : Nat) (b1007 : Nat) (ao1008 : Option Addr) (cap1009 : Nat) (Z' : Fz), e = .returned (pt b1007 0) ∧ Fz.le Z Z' ∧ SlR (tyInt .u32) Z' ao1001 cap1002 (rdenomS u0).1.a.abs ∧ SlR (tyInt .u32) Z' ao1004 cap1005 (rdenomS u0).1.b.abs ∧ SlR (tyInt .u32) Z' ao1008 cap1009 (rdenomS u0).2.abs ∧ Mem B [] w0 Z0 ((.row b1007 [.bool (rdenomS u0).2.neg, .slice ao1008 (rdenomS u0).2.abs.length cap1009] 73) :: (.row b1 [.bool (rdenomS u0).1.a.neg, .slice ao1001 (rdenomS u0).1.a.abs.length cap1002, .bool (rdenomS u0).1.b.neg, .slice ao1004 (rdenomS u0).1.b.abs.length cap1005] 75) :: Rr) Z' w' :=
 (rdenom_walk u0 b1 ao2 cap3 ao5 cap6 B w0 Z0 Rr Z w hs4 hs7 hM0 hZ (rdenom_ok u0 hpre)).mono fun _ _ ⟨r, h0, h1, h2, h3, h4, h5, h6, h7, he, hk, f0, f1, f2, f3, hm⟩ => by subst hk; exact ⟨h0, h1, h2, h3, h4, h5, h6, h7, he, f0, f1, f2, f3, hm⟩
theorem rsub_fun (u0 : BRat) (u2 : BRat) (hpre : rk u0 ∧ rk u2 ∧ rlows u0 u2) (b1 : Nat) (ao2 : Option Addr) (cap3 : Nat) (ao5 : Option Addr) (cap6 : Nat) (b8 : Nat) (ao9 : Option Addr) (cap10 : Nat) (ao12 : Option Addr) (cap13 : Nat) (B : Nat) (w0 : World) (Z0 : Fz) (Rr : List Res) (Z : Fz) (w : World) (hs4 : SlR (tyInt .u32) Z ao2 cap3 u0.a.abs) (hs7 : SlR (tyInt .u32) Z ao5 cap6 u0.b.abs) (hs11 : SlR (tyInt .u32) Z ao9 cap10 u2.a.abs) (hs14 : SlR (tyInt .u32) Z ao12 cap13 u2.b.abs) (hM0 : Mem B [] w0 Z0 ((.row b1 [.bool u0.a.neg, .slice ao2 u0.a.abs.length cap3, .bool u0.b.neg, .slice ao5 u0.b.abs.length cap6] 75) :: (.row b8 [.bool u2.a.neg, .slice ao9 u2.a.abs.length cap10, .bool u2.b.neg, .slice ao12 u2.b.abs.length cap13] 75) :: Rr) Z w) (hZ : Z.on w) : Calls Tryz.prog 43 #[pt b1 0, pt b1 0, pt b8 0] w fun e w' => ∃ (ao1001 : Option Addr) (cap1002 : Nat) (ao1004 : Option Addr) (cap1005 : Nat) (ao1007 : Option Addr) (cap1008 : Nat) (ao1010 : Option Addr) (cap1011 : Nat) (Z' : Fz), e = .returned (pt b1 0) ∧ Fz.le Z Z' ∧ SlR (tyInt .u32) Z' ao1001 cap1002 (rsubS u0 u2).1.a.abs ∧ SlR (tyInt .u32) Z' ao1004 cap1005 (rsubS u0 u2).1.b.abs ∧ SlR (tyInt .u32) Z' ao1007 cap1008 (rsubS u0 u2).2.a.abs ∧ SlR (tyInt .u32) Z' ao1010 cap1011 (rsubS u0 u2).2.b.abs ∧ Mem B [] w0 Z0 ((.row b1 [.bool (rsubS u0 u2).1.a.neg, .slice ao1001 (rsubS u0 u2).1.a.abs.length cap1002, .bool (rsubS u0 u2).1.b.neg, .slice ao1004 (rsubS u0 u2).1.b.abs.length cap1005] 75) :: (.row b8 [.bool (rsubS u0 u2).2.a.neg, .slice ao1007 (rsubS u0 u2).2.a.abs.length cap1008, .bool (rsubS u0 u2).2.b.neg, .slice ao1010 (rsubS u0 u2).2.b.abs.length cap1011] 75) :: Rr) Z' w' :=
 (rsub_walk u0 u2 b1 ao2 cap3 ao5 cap6 b8 ao9 cap10 ao12 cap13 B w0 Z0 Rr Z w hs4 hs7 hs11 hs14 hM0 hZ (rsub_ok u0 u2 hpre)).mono fun _ _ ⟨r, h0, h1, h2, h3, h4, h5, h6, h7, h8, he, hk, f0, f1, f2, f3, f4, hm⟩ => by subst hk; exact ⟨h0, h1, h2, h3, h4, h5, h6, h7, h8, he, f0, f1, f2, f3, f4, hm⟩
theorem rmul_fun (u0 : BRat) (u2 : BRat) (hpre : rk u0 ∧ rk u2 ∧ rlowm u0 u2) (b1 : Nat) (ao2 : Option Addr) (cap3 : Nat) (ao5 : Option Addr) (cap6 : Nat) (b8 : Nat) (ao9 : Option Addr) (cap10 : Nat) (ao12 : Option Addr) (cap13 : Nat) (B : Nat) (w0 : World) (Z0 : Fz) (Rr : List Res) (Z : Fz) (w : World) (hs4 : SlR (tyInt .u32) Z ao2 cap3 u0.a.abs) (hs7 : SlR (tyInt .u32) Z ao5 cap6 u0.b.abs) (hs11 : SlR (tyInt .u32) Z ao9 cap10 u2.a.abs) (hs14 : SlR (tyInt .u32) Z ao12 cap13 u2.b.abs) (hM0 : Mem B [] w0 Z0 ((.row b1 [.bool u0.a.neg, .slice ao2 u0.a.abs.length cap3, .bool u0.b.neg, .slice ao5 u0.b.abs.length cap6] 75) :: (.row b8 [.bool u2.a.neg, .slice ao9 u2.a.abs.length cap10, .bool u2.b.neg, .slice ao12 u2.b.abs.length cap13] 75) :: Rr) Z w) (hZ : Z.on w) : Calls Tryz.prog 45 #[pt b1 0, pt b1 0, pt b8 0] w fun e w' => ∃ (ao1001 : Option Addr) (cap1002 : Nat) (ao1004 : Option Addr) (cap1005 : Nat) (ao1007 : Option Addr) (cap1008 : Nat) (ao1010 : Option Addr) (cap1011 : Nat) (Z' : Fz), e = .returned (pt b1 0) ∧ Fz.le Z Z' ∧ SlR (tyInt .u32) Z' ao1001 cap1002 (rmulS u0 u2).1.a.abs ∧ SlR (tyInt .u32) Z' ao1004 cap1005 (rmulS u0 u2).1.b.abs ∧ SlR (tyInt .u32) Z' ao1007 cap1008 (rmulS u0 u2).2.a.abs ∧ SlR (tyInt .u32) Z' ao1010 cap1011 (rmulS u0 u2).2.b.abs ∧ Mem B [] w0 Z0 ((.row b1 [.bool (rmulS u0 u2).1.a.neg, .slice ao1001 (rmulS u0 u2).1.a.abs.length cap1002, .bool (rmulS u0 u2).1.b.neg, .slice ao1004 (rmulS u0 u2).1.b.abs.length cap1005] 75) :: (.row b8 [.bool (rmulS u0 u2).2.a.neg, .slice ao1007 (rmulS u0 u2).2.a.abs.length cap1008, .bool (rmulS u0 u2).2.b.neg, .slice ao1010 (rmulS u0 u2).2.b.abs.length cap1011] 75) :: Rr) Z' w' :=
 (rmul_walk u0 u2 b1 ao2 cap3 ao5 cap6 b8 ao9 cap10 ao12 cap13 B w0 Z0 Rr Z w hs4 hs7 hs11 hs14 hM0 hZ (rmul_ok u0 u2 hpre)).mono fun _ _ ⟨r, h0, h1, h2, h3, h4, h5, h6, h7, h8, he, hk, f0, f1, f2, f3, f4, hm⟩ => by subst hk; exact ⟨h0, h1, h2, h3, h4, h5, h6, h7, h8, he, f0, f1, f2, f3, f4, hm⟩
theorem rquo_fun (u0 : BRat) (u2 : BRat) (hpre : rk u0 ∧ rk u2 ∧ rlowq u0 u2) (b1 : Nat) (ao2 : Option Addr) (cap3 : Nat) (ao5 : Option Addr) (cap6 : Nat) (b8 : Nat) (ao9 : Option Addr) (cap10 : Nat) (ao12 : Option Addr) (cap13 : Nat) (B : Nat) (w0 : World) (Z0 : Fz) (Rr : List Res) (Z : Fz) (w : World) (hs4 : SlR (tyInt .u32) Z ao2 cap3 u0.a.abs) (hs7 : SlR (tyInt .u32) Z ao5 cap6 u0.b.abs) (hs11 : SlR (tyInt .u32) Z ao9 cap10 u2.a.abs) (hs14 : SlR (tyInt .u32) Z ao12 cap13 u2.b.abs) (hM0 : Mem B [] w0 Z0 ((.row b1 [.bool u0.a.neg, .slice ao2 u0.a.abs.length cap3, .bool u0.b.neg, .slice ao5 u0.b.abs.length cap6] 75) :: (.row b8 [.bool u2.a.neg, .slice ao9 u2.a.abs.length cap10, .bool u2.b.neg, .slice ao12 u2.b.abs.length cap13] 75) :: Rr) Z w) (hZ : Z.on w) : Calls Tryz.prog 46 #[pt b1 0, pt b1 0, pt b8 0] w fun e w' => ∃ (ao1001 : Option Addr) (cap1002 : Nat) (ao1004 : Option Addr) (cap1005 : Nat) (ao1007 : Option Addr) (cap1008 : Nat) (ao1010 : Option Addr) (cap1011 : Nat) (Z' : Fz), e = .returned (pt b1 0) ∧ Fz.le Z Z' ∧ SlR (tyInt .u32) Z' ao1001 cap1002 (rquoS u0 u2).1.a.abs ∧ SlR (tyInt .u32) Z' ao1004 cap1005 (rquoS u0 u2).1.b.abs ∧ SlR (tyInt .u32) Z' ao1007 cap1008 (rquoS u0 u2).2.a.abs ∧ SlR (tyInt .u32) Z' ao1010 cap1011 (rquoS u0 u2).2.b.abs ∧ Mem B [] w0 Z0 ((.row b1 [.bool (rquoS u0 u2).1.a.neg, .slice ao1001 (rquoS u0 u2).1.a.abs.length cap1002, .bool (rquoS u0 u2).1.b.neg, .slice ao1004 (rquoS u0 u2).1.b.abs.length cap1005] 75) :: (.row b8 [.bool (rquoS u0 u2).2.a.neg, .slice ao1007 (rquoS u0 u2).2.a.abs.length cap1008, .bool (rquoS u0 u2).2.b.neg, .slice ao1010 (rquoS u0 u2).2.b.abs.length cap1011] 75) :: Rr) Z' w' :=
 (rquo_walk u0 u2 b1 ao2 cap3 ao5 cap6 b8 ao9 cap10 ao12 cap13 B w0 Z0 Rr Z w hs4 hs7 hs11 hs14 hM0 hZ (rquo_ok u0 u2 hpre)).mono fun _ _ ⟨r, h0, h1, h2, h3, h4, h5, h6, h7, h8, he, hk, f0, f1, f2, f3, f4, hm⟩ => by subst hk; exact ⟨h0, h1, h2, h3, h4, h5, h6, h7, h8, he, f0, f1, f2, f3, f4, hm⟩
def risint_fun (u0 : BRat) (hpre : rk u0) (b1 : Nat) (ao2 : Option Addr) (cap3 : Nat) (ao5 : Option Addr) (cap6 : Nat) (B : Nat) (w0 : World) (Z0 : Fz) (Rr : List Res) (Z : Fz) (w : World) (hs4 : SlR (tyInt .u32) Z ao2 cap3 u0.a.abs) (hs7 : SlR (tyInt .u32) Z ao5 cap6 u0.b.abs) (hM0 : Mem B [] w0 Z0 ((.row b1 [.bool u0.a.neg, .slice ao2 u0.a.abs.length cap3, .bool u0.b.neg, .slice ao5 u0.b.abs.length cap6] 75) :: Rr) Z w) (hZ : Z.on w) := fe_ (risint_walk u0 b1 ao2 cap3 ao5 cap6 B w0 Z0 Rr Z w hs4 hs7 hM0 hZ (risint_ok u0 hpre))
end Go.Proofs.YtdndfbamhnchfaaGreatDoor
set_option linter.unusedVariables false
set_option linter.unusedSimpArgs false
set_option linter.defProp false
set_option maxRecDepth 100000
set_option maxHeartbeats 0
namespace Go.Proofs.YtdndfbamhnchfaaGreatDoor
open Go.Sy Go.RowKit
abbrev e46Nh (X : Signal) : List Value := [str X.Name, i6 X.Start, i6 X.Size, .bool X.Back, .bool X.Signed, i6 X.Mul, i6 X.Div, i6 X.Add, i6 X.Key]
abbrev e75Nh (X : BRat) (A0 : Option Addr) (C0 : Nat) (A1 : Option Addr) (C1 : Nat) : List Value := [.bool X.a.neg, .slice A0 X.a.abs.length C0, .bool X.b.neg, .slice A1 X.b.abs.length C1]
def rcheckm_fun (u0 : Message) (ao1 : Option Addr) (cap2 : Nat) (Z : Fz) (w : World) (hs3 : SlR tySignal Z ao1 cap2 u0.Signals) (hZ : Z.on w) := f_ (rcheckm_walk u0 ao1 cap2 Z w hs3 hZ (rcheckm_ok u0))
theorem rmean_walk (u0 : Signal) (u1 : Int)  (Z : Fz) (w : World)  (hZ : Z.on w) {K : Reading → Prop} (hp : rmean_vc u0 u1 K) : Calls Tryz.prog 33 #[.agg #[str u0.Name, i6 u0.Start, i6 u0.Size, .bool u0.Back, .bool u0.Signed, i6 u0.Mul, i6 u0.Div, i6 u0.Add, i6 u0.Key], i6 u1] w fun e w' => ∃ r : Reading, e = .returned (.agg #[str r.Name, i6 r.Num, i6 r.Den]) ∧ K r ∧ Below w.heap.size w w' := by
 refine enter0 Tryz.func33 rfl rfl (by kernel_rfl) ?_; intro a0 ak; have al := Mem.start w Z hZ
 refine sqH ?_; intro bE am
 refine nw ak al pb (e46Nh u0) 46 ?_; intro t a3 cj an ao
 refine nw an ao pb [str [], i6 0, i6 0] 37 ?_; intro p a8 cl ap aq
 apply am
 refine sqH ?_; intro bF ar
 refine nw ap aq pb [.bool false, .slice none 0 0, .bool false, .slice none 0 0] 75 ?_; intro d cm cn au O
 refine bt au O 6 [2, 2] [] [(10, i6 (w64 (u1 * u0.Mul))), (12, i6 u0.Div)] ?_; intro co av
 obtain ⟨bG, aw⟩ := hp
 refine ck av 42 #[pt d 0, i6 (w64 (u1 * u0.Mul)), i6 u0.Div] ?_
 obtain ⟨z, bH, ax⟩ := hxq aw
 have q := rsf64_fun (⟨(⟨false, []⟩ : BInt), (⟨false, []⟩ : BInt)⟩ : BRat) (w64 (u1 * u0.Mul)) u0.Div bG d none 0 none 0 _ _ _ _ _ _ (SlR.nil _ _) (SlR.nil _ _) O O.fz; rw [bH] at q; refine q.mono ?_; rintro _ bI ⟨T, U, V, W, bJ, rfl, bK, h, i, hm⟩; refine ⟨_, rfl, ?_⟩; intro cp ay; have az := hm
 have X : Mem w.heap.size [] w Z [.row d (e75Nh z T U V W) 75, .row p [str [], i6 0, i6 0] 37, .row t (e46Nh u0) 46] bJ bI := az
 have bL := ax (h.small) (i.small)
 refine s1 ay 5 (pt d 0) ?_; intro cq aB
 apply ar
 refine sqH ?_; intro bM aC
 refine bt aB X 2 [] [] [(14, pt d 0), (15, pt d 0)] ?_; intro cr aD
 refine nw aD X pb [.bool false, .slice none 0 0, .bool false, .slice none 0 0] 75 ?_; intro s cs ct aE P
 refine bt aE P 2 [3] [] [(18, i6 u0.Add)] ?_; intro cu aF
 obtain ⟨bN, aG⟩ := bL
 refine ck aF 44 #[pt s 0, i6 u0.Add] ?_
 obtain ⟨I, bO, aH⟩ := hxq aG
 have q := rsi_fun (⟨(⟨false, []⟩ : BInt), (⟨false, []⟩ : BInt)⟩ : BRat) u0.Add bN s none 0 none 0 _ _ _ _ _ _ (SlR.nil _ _) (SlR.nil _ _) P P.fz; rw [bO] at q; refine q.mono ?_; rintro _ bP ⟨aI, aJ, aK, aL, bQ, rfl, Y, l, m, hm⟩; refine ⟨_, rfl, ?_⟩; intro cv aM; have aN := hm
 replace h := h.mono Y
 replace i := i.mono Y
 have aa : Mem w.heap.size [] w Z [.row s (e75Nh I aI aJ aK aL) 75, .row d (e75Nh z T U V W) 75, .row p [str [], i6 0, i6 0] 37, .row t (e46Nh u0) 46] bQ bP := aN
 obtain ⟨bS, aP⟩ := aH (l.small) (m.small)
 refine ck aM 69 #[pt d 0, pt d 0, pt s 0] ?_
 obtain ⟨c, bT, aQ⟩ := hxq aP
 have q := radd_fun z I bS d T U V W s aI aJ aK aL _ _ _ _ _ _ h i l m (aa.perm ((pk 1 rfl).trans ((List.Perm.refl _).cons _))) aa.fz; rw [bT] at q; refine q.mono ?_; rintro _ bU ⟨aR, aS, aT, aU, E, F, G, H, aV, rfl, J, u, x, A, B, hm⟩; refine ⟨_, rfl, ?_⟩; intro bV aW; have aX := hm
 have aY : Mem w.heap.size [] w Z [.row d (e75Nh c.1 aR aS aT aU) 75, .row s (e75Nh c.2 E F G H) 75, .row p [str [], i6 0, i6 0] 37, .row t (e46Nh u0) 46] aV bU := aX
 have bW := aQ (u.small) (x.small) (A.small) (B.small)
 apply aC
 have a4 : Fr 30 [] [⟨2, [], pt t 0⟩, ⟨4, [], pt p 0⟩, ⟨5, [], pt d 0⟩] bV := aW.reg
 refine wp_seq (rgS mixed aY [(0, true), (1, true), (2, true), (5, true), (3, false), (4, false), (6, false), (7, false), (8, true), (9, false)] [9] [3] [.row t (e46Nh u0) 46] ?_)
 intro bX a5 cw ab
 have n := Fz.le.refl aV
 refine cS a4 4 [0] [] [(22, str u0.Name), (23, pt d 0), (26, pt d 0)] ?_; intro cx a6
 refine eS rfl ?_; intro bY a7
 refine ck a6 52 #[pt d 0] ?_
 refine (rnum_fun c.1 d aR aS aT aU _ _ _ _ _ _ u x ab ab.fz).mono ?_; rintro _ bZ ⟨a9, ba, bb, bc, b0, rfl, y, C, D, hm⟩; refine ⟨_, rfl, ?_⟩; intro cy bd; have be := hm
 replace n := n.mono y
 have Q : Mem w.heap.size [] w Z [.row d (e75Nh (rnumS c.1) a9 ba bb bc) 75, .row s (e75Nh c.2 E F G H) 75, .row p [str [], i6 0, i6 0] 37, .row t (e46Nh u0) 46] b0 bZ := be
 refine nl (qnI (a7 _ _ (Q.cst n [3]) ?_))
 refine eS rfl ?_; intro b1 bf
 obtain ⟨b3, b4⟩ := bW
 refine ck bd 54 #[pt d 0] ?_
 refine (gi64A_fun (rnumS c.1) b3 d a9 ba bb bc _ _ _ _ _ _ C D Q Q.fz).mono ?_; rintro _ b5 ⟨bg, bh, bi, bj, b6, rfl, o, L, M, hm⟩; refine ⟨_, rfl, ?_⟩; intro cz bk; have bl := hm
 replace n := n.mono o
 have R : Mem w.heap.size [] w Z [.row d (e75Nh ((gi64AS (rnumS c.1)).2) bg bh bi bj) 75, .row s (e75Nh c.2 E F G H) 75, .row p [str [], i6 0, i6 0] 37, .row t (e46Nh u0) 46] b6 b5 := bl
 refine nl (qnI (bf _ _ (R.cst n [3]) ?_))
 refine eS rfl ?_; intro b8 bm
 obtain ⟨b9, ca⟩ := b4
 refine ck bk 70 #[pt d 0] ?_
 refine (rdenom_fun (gi64AS (rnumS c.1)).2 b9 d bg bh bi bj _ _ _ _ _ _ L M R R.fz).mono ?_; rintro _ cb ⟨ac, ae, af, ag, N, bn, bo, cc, rfl, j, bp, bq, ah, hm⟩; refine ⟨_, rfl, ?_⟩; intro cA br; have bs := hm
 replace n := n.mono j
 have S : Mem w.heap.size [] w Z [.row N [.bool (rdenomS (gi64AS (rnumS c.1)).2).2.neg, .slice bn (rdenomS (gi64AS (rnumS c.1)).2).2.abs.length bo] 73, .row d (e75Nh ((rdenomS (gi64AS (rnumS c.1)).2).1) ac ae af ag) 75, .row s (e75Nh c.2 E F G H) 75, .row p [str [], i6 0, i6 0] 37, .row t (e46Nh u0) 46] cc cb := bs
 refine nl (qnI (bm _ _ (S.cst n [4]) ?_))
 refine eS rfl ?_; intro cd bu
 obtain ⟨ce, cf⟩ := ca
 refine ck br 54 #[pt N 0] ?_
 refine (gi64_fun (rdenomS (gi64AS (rnumS c.1)).2).2 ce N bn bo _ _ _ _ _ _ ah S S.fz).mono ?_; rintro _ cg ⟨bv, bw, bx, rfl, f, cB, hm⟩; refine ⟨_, rfl, ?_⟩; intro cC bz; have bA := hm
 replace n := n.mono f
 have ai : Mem w.heap.size [] w Z [.row N [.bool (gi64S (rdenomS (gi64AS (rnumS c.1)).2).2).2.neg, .slice bv (gi64S (rdenomS (gi64AS (rnumS c.1)).2).2).2.abs.length bw] 73, .row d (e75Nh ((rdenomS (gi64AS (rnumS c.1)).2).1) ac ae af ag) 75, .row s (e75Nh c.2 E F G H) 75, .row p [str [], i6 0, i6 0] 37, .row t (e46Nh u0) 46] bx cg := bA
 refine nl (qnI (bu _ _ (ai.cst n [4]) ?_))
 refine cS bz 1 [] [] [(29, .agg #[str u0.Name, i6 (gi64AS (rnumS c.1)).1, i6 (gi64S (rdenomS (gi64AS (rnumS c.1)).2).2).1])] ?_; intro cD aj
 refine eL rfl ?_; intro ch bB
 refine sx aj ai 3 [str u0.Name, i6 (gi64AS (rnumS c.1)).1, i6 (gi64S (rdenomS (gi64AS (rnumS c.1)).2).2).1] 0 ?_; intro ci bC
 have bD : Mem w.heap.size [] w Z [.row N [.bool (gi64S (rdenomS (gi64AS (rnumS c.1)).2).2).2.neg, .slice bv (gi64S (rdenomS (gi64AS (rnumS c.1)).2).2).2.abs.length bw] 73, .row d (e75Nh ((rdenomS (gi64AS (rnumS c.1)).2).1) ac ae af ag) 75, .row s (e75Nh c.2 E F G H) 75, .row p [str u0.Name, i6 (gi64AS (rnumS c.1)).1, i6 (gi64S (rdenomS (gi64AS (rnumS c.1)).2).2).1] 37, .row t (e46Nh u0) 46] bx ci := bC
 refine nl (qnI (bB _ _ ?_))
 refine nS (a5 _ _ ?_)
 refine t_ (r_ (rt (fn := Tryz.f33) (v := .agg #[str u0.Name, i6 (gi64AS (rnumS c.1)).1, i6 (gi64S (rdenomS (gi64AS (rnumS c.1)).2).2).1]) aj (re1c aj (fn := Tryz.f33) rfl (ad := ⟨p, 0, none⟩) (by kernel_rfl) (loadVar_run bD 3 (b := p) (k := 3) (vs := [str u0.Name, i6 (gi64AS (rnumS c.1)).1, i6 (gi64S (rdenomS (gi64AS (rnumS c.1)).2).2).1]) (ty := 37) rfl (by kernel_rfl) (by kernel_rfl)) ) ?_))
 exact ⟨(⟨u0.Name, (gi64AS (rnumS c.1)).1, (gi64S (rdenomS (gi64AS (rnumS c.1)).2).2).1⟩ : Reading), rfl, cf, bD.below⟩
end Go.Proofs.YtdndfbamhnchfaaGreatDoor
set_option linter.unusedVariables false
set_option linter.unusedSimpArgs false
set_option maxRecDepth 100000
set_option maxHeartbeats 0
namespace Go.Proofs.YtdndfbamhnchfaaGreatDoor
open Go.Sy Go.RowKit
abbrev e46Nj (X : Signal) : List Value := [str X.Name, i6 X.Start, i6 X.Size, .bool X.Back, .bool X.Signed, i6 X.Mul, i6 X.Div, i6 X.Add, i6 X.Key]
abbrev e75Nj (X : BRat) (A0 : Option Addr) (C0 : Nat) (A1 : Option Addr) (C1 : Nat) : List Value := [.bool X.a.neg, .slice A0 X.a.abs.length C0, .bool X.b.neg, .slice A1 X.b.abs.length C1]
theorem runm_walk (u0 : Signal) (u1 : Int) (u2 : Int)  (Z : Fz) (w : World)  (hZ : Z.on w) {K : (Int × Int) → Prop} (hp : runm_vc u0 u1 u2 K) : Calls Tryz.prog 18 #[.agg #[str u0.Name, i6 u0.Start, i6 u0.Size, .bool u0.Back, .bool u0.Signed, i6 u0.Mul, i6 u0.Div, i6 u0.Add, i6 u0.Key], i6 u1, i6 u2] w fun e w' => ∃ r : Int × Int, e = .returned (.tuple #[i6 r.1, i6 r.2]) ∧ K r ∧ Below w.heap.size w w' := by
 refine enter0 Tryz.func18 rfl rfl (by kernel_rfl) ?_; intro a0 di; have dj := Mem.start w Z hZ
 refine sqH ?_; intro ho dk
 refine nw di dj pb (e46Nj u0) 46 ?_; intro b2 a3 j8 dl bo
 refine bt dl bo 2 [] [] [] ?_; intro a9 dm
 apply dk
 refine s_ (sqB dm bo [] [] [(24, .bool ((((decide (u2 < 1)) || (decide (u2 > 1000000))) || (decide (u1 > 1099511627776))) || (decide (u1 < (-1099511627776)))))] ?_); intro j9 bw
 refine c_ bw hp (fun _ hq => ?_) fun _ hs => ?_
 ·
  refine sqB bw bo [] [] [(6, i6 0), (7, i6 3)] ?_; intro ka hr
  exact r_ (h_ (ra2 hr (.tuple #[i6 0, i6 3]) ⟨(0, 3), rfl, hq, bo.below⟩))
 refine k_ (sqH ?_); intro ht dn
 refine nw bw bo pb [.bool false, .slice none 0 0, .bool false, .slice none 0 0] 75 ?_; intro j kb kc dp bX
 refine bt dp bX 2 [] [] [(26, i6 u1), (27, i6 u2)] ?_; intro kd dq
 obtain ⟨hu, dr⟩ := hs
 refine ck dq 42 #[pt j 0, i6 u1, i6 u2] ?_
 obtain ⟨a6, hv, ds⟩ := hxq dr
 have i := rsf64_fun (⟨(⟨false, []⟩ : BInt), (⟨false, []⟩ : BInt)⟩ : BRat) u1 u2 hu j none 0 none 0 _ _ _ _ _ _ (SlR.nil _ _) (SlR.nil _ _) bX bX.fz; rw [hv] at i; refine i.mono ?_; rintro _ hw ⟨cq, cr, cs, ct, hx, rfl, hy, l, m, hm⟩; refine ⟨_, rfl, ?_⟩; intro ke dt; have du := hm
 have cu : Mem w.heap.size [] w Z [.row j (e75Nj a6 cq cr cs ct) 75, .row b2 (e46Nj u0) 46] hx hw := du
 have hz := ds (l.small) (m.small)
 refine s1 dt 8 (pt j 0) ?_; intro kf dw
 apply dn
 refine sqH ?_; intro hA dx
 refine bt dw cu 2 [] [] [(29, pt j 0), (30, pt j 0)] ?_; intro kg dy
 refine nw dy cu pb [.bool false, .slice none 0 0, .bool false, .slice none 0 0] 75 ?_; intro aa kh ki dz bY
 refine bt dz bY 2 [2] [] [(33, i6 u0.Add)] ?_; intro kj dA
 obtain ⟨hB, dB⟩ := hz
 refine ck dA 44 #[pt aa 0, i6 u0.Add] ?_
 obtain ⟨bx, hC, dC⟩ := hxq dB
 have i := rsi_fun (⟨(⟨false, []⟩ : BInt), (⟨false, []⟩ : BInt)⟩ : BRat) u0.Add hB aa none 0 none 0 _ _ _ _ _ _ (SlR.nil _ _) (SlR.nil _ _) bY bY.fz; rw [hC] at i; refine i.mono ?_; rintro _ hD ⟨dD, dE, dF, dG, hE, rfl, cv, n, o, hm⟩; refine ⟨_, rfl, ?_⟩; intro kk dH; have dI := hm
 replace l := l.mono cv
 replace m := m.mono cv
 have cw : Mem w.heap.size [] w Z [.row aa (e75Nj bx dD dE dF dG) 75, .row j (e75Nj a6 cq cr cs ct) 75, .row b2 (e46Nj u0) 46] hE hD := dI
 obtain ⟨hG, dK⟩ := dC (n.small) (o.small)
 refine ck dH 43 #[pt j 0, pt j 0, pt aa 0] ?_
 obtain ⟨f, hH, dL⟩ := hxq dK
 have i := rsub_fun a6 bx hG j cq cr cs ct aa dD dE dF dG _ _ _ _ _ _ l m n o (cw.perm ((pk 1 rfl).trans (lpr.cons _))) cw.fz; rw [hH] at i; refine i.mono ?_; rintro _ hI ⟨cx, cy, cz, cA, am, an, ao, ap, hJ, rfl, bA, p, q, s, u, hm⟩; refine ⟨_, rfl, ?_⟩; intro kl dM; have dN := hm
 have cB : Mem w.heap.size [] w Z [.row j (e75Nj f.1 cx cy cz cA) 75, .row aa (e75Nj f.2 am an ao ap) 75, .row b2 (e46Nj u0) 46] hJ hI := dN
 have hK := dL (p.small) (q.small) (s.small) (u.small)
 apply dx
 refine sqH ?_; intro hL dR
 refine bt dM cB 2 [] [] [(36, pt j 0), (37, pt j 0)] ?_; intro km dS
 refine nw dS cB pb [.bool false, .slice none 0 0, .bool false, .slice none 0 0] 75 ?_; intro ae kn ko dT bZ
 refine bt dT bZ 2 [3] [] [(40, i6 u0.Div)] ?_; intro kp dU
 obtain ⟨hM, dV⟩ := hK
 refine ck dU 44 #[pt ae 0, i6 u0.Div] ?_
 obtain ⟨bB, hN, dW⟩ := hxq dV
 have i := rsi_fun (⟨(⟨false, []⟩ : BInt), (⟨false, []⟩ : BInt)⟩ : BRat) u0.Div hM ae none 0 none 0 _ _ _ _ _ _ (SlR.nil _ _) (SlR.nil _ _) bZ bZ.fz; rw [hN] at i; refine i.mono ?_; rintro _ hO ⟨dX, dY, dZ, d0, hP, rfl, a7, x, y, hm⟩; refine ⟨_, rfl, ?_⟩; intro kq d1; have d2 := hm
 replace p := p.mono a7
 replace q := q.mono a7
 have cC : Mem w.heap.size [] w Z [.row ae (e75Nj bB dX dY dZ d0) 75, .row j (e75Nj f.1 cx cy cz cA) 75, .row aa (e75Nj f.2 am an ao ap) 75, .row b2 (e46Nj u0) 46] hP hO := d2
 obtain ⟨hR, d4⟩ := dW (x.small) (y.small)
 refine ck d1 45 #[pt j 0, pt j 0, pt ae 0] ?_
 obtain ⟨g, hS, d5⟩ := hxq d4
 have i := rmul_fun f.1 bB hR j cx cy cz cA ae dX dY dZ d0 _ _ _ _ _ _ p q x y (cC.perm ((pk 1 rfl).trans (lpr.cons _))) cC.fz; rw [hS] at i; refine i.mono ?_; rintro _ hT ⟨cD, cE, cF, cG, au, av, aw, ax, hU, rfl, aV, z, A, C, D, hm⟩; refine ⟨_, rfl, ?_⟩; intro kr d6; have d7 := hm
 have cH : Mem w.heap.size [] w Z [.row j (e75Nj g.1 cD cE cF cG) 75, .row ae (e75Nj g.2 au av aw ax) 75, .row aa (e75Nj f.2 am an ao ap) 75, .row b2 (e46Nj u0) 46] hU hT := d7
 have hV := d5 (z.small) (A.small) (C.small) (D.small)
 apply dR
 refine sqH ?_; intro hW eb
 refine bt d6 cH 2 [] [] [(43, pt j 0), (44, pt j 0)] ?_; intro ks ec
 refine nw ec cH pb [.bool false, .slice none 0 0, .bool false, .slice none 0 0] 75 ?_; intro ak kt ku ed b0
 refine bt ed b0 2 [4] [] [(47, i6 u0.Mul)] ?_; intro kv ee
 obtain ⟨hX, ef⟩ := hV
 refine ck ee 44 #[pt ak 0, i6 u0.Mul] ?_
 obtain ⟨bC, hY, eg⟩ := hxq ef
 have i := rsi_fun (⟨(⟨false, []⟩ : BInt), (⟨false, []⟩ : BInt)⟩ : BRat) u0.Mul hX ak none 0 none 0 _ _ _ _ _ _ (SlR.nil _ _) (SlR.nil _ _) b0 b0.fz; rw [hY] at i; refine i.mono ?_; rintro _ h0 ⟨eh, ei, ej, ek, h1, rfl, aL, E, F, hm⟩; refine ⟨_, rfl, ?_⟩; intro kw el; have em := hm
 replace z := z.mono aL
 replace A := A.mono aL
 have cI : Mem w.heap.size [] w Z [.row ak (e75Nj bC eh ei ej ek) 75, .row j (e75Nj g.1 cD cE cF cG) 75, .row ae (e75Nj g.2 au av aw ax) 75, .row aa (e75Nj f.2 am an ao ap) 75, .row b2 (e46Nj u0) 46] h1 h0 := em
 obtain ⟨h3, eo⟩ := eg (E.small) (F.small)
 refine ck el 46 #[pt j 0, pt j 0, pt ak 0] ?_
 obtain ⟨h, h4, ep⟩ := hxq eo
 have i := rquo_fun g.1 bC h3 j cD cE cF cG ak eh ei ej ek _ _ _ _ _ _ z A E F (cI.perm ((pk 1 rfl).trans (lpr.cons _))) cI.fz; rw [h4] at i; refine i.mono ?_; rintro _ h5 ⟨eq, er, es, et, ay, az, aA, aB, h6, rfl, aG, I, J, L, M, hm⟩; refine ⟨_, rfl, ?_⟩; intro kx eu; have ev := hm
 have cJ : Mem w.heap.size [] w Z [.row j (e75Nj h.1 eq er es et) 75, .row ak (e75Nj h.2 ay az aA aB) 75, .row ae (e75Nj g.2 au av aw ax) 75, .row aa (e75Nj f.2 am an ao ap) 75, .row b2 (e46Nj u0) 46] h6 h5 := ev
 have h7 := ep (I.small) (J.small) (L.small) (M.small)
 apply eb
 refine s_ (sqH ?_); intro h8 ez
 refine s1 eu 50 (pt j 0) ?_; intro ky eA
 obtain ⟨ia, eB⟩ := h7
 refine ck eA 47 #[pt j 0] ?_
 obtain ⟨R, ib, eC⟩ := hxq eB
 have i := risint_fun h.1 ia j eq er es et _ _ _ _ _ _ I J cJ cJ.fz; rw [ib] at i; refine i.mono ?_; rintro _ ic ⟨aW, aX, aY, aZ, cK, rfl, aC, N, O, hm⟩; refine ⟨_, rfl, ?_⟩; intro kz eD; have eE := hm
 have b1 : Mem w.heap.size [] w Z [.row j (e75Nj R.2 aW aX aY aZ) 75, .row ak (e75Nj h.2 ay az aA aB) 75, .row ae (e75Nj g.2 au av aw ax) 75, .row aa (e75Nj f.2 am an ao ap) 75, .row b2 (e46Nj u0) 46] cK ic := eE
 have b3 := eC (N.small) (O.small)
 refine s1 eD 52 (.bool (!R.1)) ?_; intro id bD
 apply ez
 refine c_ bD b3 (fun _ ie => ?_) fun _ ih => ?_
 ·
  refine sqB bD b1 [] [] [(6, i6 0), (7, i6 4)] ?_; intro kA ig
  exact r_ (h_ (ra2 ig (.tuple #[i6 0, i6 4]) ⟨(0, 4), rfl, ie, b1.below⟩))
 apply k_
 have eH : Fr 83 [] [⟨3, [], pt b2 0⟩, ⟨8, [], pt j 0⟩] id := bD.reg
 refine wp_seq (rgF mixed b1 [3, 4, 5] [0, 2, 6, 7, 8] [1] [4] [.row b2 (e46Nj u0) 46] ?_)
 intro ii eI ij eJ
 have aH := Fz.le.refl cK
 refine cS eH 3 [0] [] [(58, y6 (wu64 u0.Size))] ?_; intro kB eK
 refine nS ⟨[⟨1, 54, fun b => pt b 0, [.bool false, .slice none 0 0], 73⟩], rfl, ?_⟩; intro ik il im
 have eL : Mem w.heap.size [] w Z ((.row j (e75Nj R.2 aW aX aY aZ) 75) :: (.row ak (e75Nj h.2 ay az aA aB) 75) :: (.row ae (e75Nj g.2 au av aw ax) 75) :: (.row aa (e75Nj f.2 am an ao ap) 75) :: (.row b2 (e46Nj u0) 46) :: (rowsF ik ++ [])) cK ij := by rw [im]; exact eJ
 refine eF 5 [4] [] il eK eL aH (fO fN) ?_; intro io kC kD ip eM cM iq eN
 obtain ⟨ir, it⟩ := ih
 refine ck eM 48 #[i6 0] ?_
 refine (gnew_fun 0 ir _ _ cM.fz).mono ?_; rintro _ iu ⟨af, bb, bc, iv, rfl, T, hm⟩; refine ⟨_, rfl, ?_⟩; intro kE eO; have eP := cM.callZ hm; have ar := hm.ext.le
 replace N := N.mono ar
 replace O := O.mono ar
 replace aH := aH.mono ar
 have cN : Mem w.heap.size [] w Z ((.row af [.bool (bz 0).neg, .slice bb (bz 0).abs.length bc] 73) :: (.row j (e75Nj R.2 aW aX aY aZ) 75) :: (.row ak (e75Nj h.2 ay az aA aB) 75) :: (.row ae (e75Nj g.2 au av aw ax) 75) :: (.row aa (e75Nj f.2 am an ao ap) 75) :: (.row b2 (e46Nj u0) 46) :: (rowsF io ++ [])) iv iu := eP
 refine nl (qnI (eN _ _ (fun _ => cN.cst aH [5]) ?_))
 refine eF 6 [5] [] ip eO cN aH (fO fN) ?_; intro iw kF kG ix eQ cO iy eR
 obtain ⟨iz, iA⟩ := it
 refine ck eQ 48 #[i6 1] ?_
 refine (gnew_fun 1 iz _ _ cO.fz).mono ?_; rintro _ iB ⟨aD, eS, eT, iC, rfl, Y, hm⟩; refine ⟨_, rfl, ?_⟩; intro kH eU; have eV := cO.callZ hm; have aq := hm.ext.le
 replace N := N.mono aq
 replace O := O.mono aq
 replace aH := aH.mono aq
 replace T := T.mono aq
 have cP : Mem w.heap.size [] w Z ((.row aD [.bool (bz 1).neg, .slice eS (bz 1).abs.length eT] 73) :: (.row af [.bool (bz 0).neg, .slice bb (bz 0).abs.length bc] 73) :: (.row j (e75Nj R.2 aW aX aY aZ) 75) :: (.row ak (e75Nj h.2 ay az aA aB) 75) :: (.row ae (e75Nj g.2 au av aw ax) 75) :: (.row aa (e75Nj f.2 am an ao ap) 75) :: (.row b2 (e46Nj u0) 46) :: (rowsF iw ++ [])) iC iB := eV
 refine nl (qnI (eR _ _ (fun _ => cP.cst aH [6]) ?_))
 refine tkF 0 7 [6] [] ix eU cP aH (fO fN) ?_; intro V kI kJ kK eW eX eY
 obtain rfl := nilF eW
 refine eF 8 [7] [] eW eX eY aH fN ?_; intro kL kM kN eZ e0 cQ iD e1
 obtain rfl := nilF eZ
 obtain ⟨iE, b4⟩ := iA
 refine ck e0 49 #[pt V 0, pt aD 0, y6 (wu64 u0.Size)] ?_
 refine (glshI_fun (⟨false, []⟩ : BInt) (bz 1) (wu64 u0.Size) iE V none 0 aD eS eT _ _ _ _ _ _ (SlR.nil _ _) Y cQ cQ.fz).mono ?_; rintro _ iF ⟨bi, bj, aI, aJ, e2, rfl, al, ab, ag, hm⟩; refine ⟨_, rfl, ?_⟩; intro kO e3; have e4 := hm
 replace N := N.mono al
 replace O := O.mono al
 replace aH := aH.mono al
 replace T := T.mono al
 have cR : Mem w.heap.size [] w Z [.row V [.bool (glshIS (⟨false, []⟩ : BInt) (bz 1) (wu64 u0.Size)).1.neg, .slice bi (glshIS (⟨false, []⟩ : BInt) (bz 1) (wu64 u0.Size)).1.abs.length bj] 73, .row aD [.bool (glshIS (⟨false, []⟩ : BInt) (bz 1) (wu64 u0.Size)).2.neg, .slice aI (glshIS (⟨false, []⟩ : BInt) (bz 1) (wu64 u0.Size)).2.abs.length aJ] 73, .row af [.bool (bz 0).neg, .slice bb (bz 0).abs.length bc] 73, .row j (e75Nj R.2 aW aX aY aZ) 75, .row ak (e75Nj h.2 ay az aA aB) 75, .row ae (e75Nj g.2 au av aw ax) 75, .row aa (e75Nj f.2 am an ao ap) 75, .row b2 (e46Nj u0) 46] e2 iF := e4
 refine nl (qnI (e1 _ _ (fun _ => cR.cst aH [7]) ?_))
 refine eF 8 [7] [] eZ e3 cR aH fN ?_; intro kP kQ kR e5 e6 cT iG e7
 obtain rfl := nilF e5
 refine s1 e6 9 (pt af 0) ?_; intro kS e8
 refine nl (qnI (e7 _ _ (fun _ => cT.cst aH [7]) ?_))
 refine eF 8 [7] [] e5 e8 cT aH fN ?_; intro kT kU iH e9 fa cU iI fb
 obtain rfl := nilF e9
 refine s1 fa 10 (pt V 0) ?_; intro kV fc
 refine nl (qnI (fb _ _ (fun _ => cU.cst aH [7]) ?_))
 have bd : Mem w.heap.size [] w Z [.row V [.bool (glshIS (⟨false, []⟩ : BInt) (bz 1) (wu64 u0.Size)).1.neg, .slice bi (glshIS (⟨false, []⟩ : BInt) (bz 1) (wu64 u0.Size)).1.abs.length bj] 73, .row aD [.bool (glshIS (⟨false, []⟩ : BInt) (bz 1) (wu64 u0.Size)).2.neg, .slice aI (glshIS (⟨false, []⟩ : BInt) (bz 1) (wu64 u0.Size)).2.abs.length aJ] 73, .row af [.bool (bz 0).neg, .slice bb (bz 0).abs.length bc] 73, .row j (e75Nj R.2 aW aX aY aZ) 75, .row ak (e75Nj h.2 ay az aA aB) 75, .row ae (e75Nj g.2 au av aw ax) 75, .row aa (e75Nj f.2 am an ao ap) 75, .row b2 (e46Nj u0) 46] e2 iH := cU
 refine nF e9 (eI _ _ ?_)
 refine t_ (s_ (sqB fc bd [7] [] [(61, .bool u0.Signed)] ?_)); intro kW bE
 refine c_ bE b4 (fun _ iJ => ?_) fun _ gr => ?_
 ·
  refine sqH ?_; intro iK fd
  refine bt bE bd 2 [] [] [(62, pt V 0), (63, pt V 0)] ?_; intro kX fe
  obtain ⟨iL, ff⟩ := iJ
  refine ck fe 50 #[pt V 0, pt V 0, y6 1] ?_
  obtain ⟨cW, iM, fg⟩ := hxq ff
  have i := grshI_fun (glshIS (⟨false, []⟩ : BInt) (bz 1) (wu64 u0.Size)).1 1 iL V bi bj _ _ _ _ _ _ ab bd bd.fz; rw [iM] at i; refine i.mono ?_; rintro _ iN ⟨fh, fi, iO, rfl, ai, aK, hm⟩; refine ⟨_, rfl, ?_⟩; intro kY fj; have fk := hm
  replace N := N.mono ai
  replace O := O.mono ai
  replace T := T.mono ai
  have b5 : Mem w.heap.size [] w Z [.row V [.bool cW.neg, .slice fh cW.abs.length fi] 73, .row aD [.bool (glshIS (⟨false, []⟩ : BInt) (bz 1) (wu64 u0.Size)).2.neg, .slice aI (glshIS (⟨false, []⟩ : BInt) (bz 1) (wu64 u0.Size)).2.abs.length aJ] 73, .row af [.bool (bz 0).neg, .slice bb (bz 0).abs.length bc] 73, .row j (e75Nj R.2 aW aX aY aZ) 75, .row ak (e75Nj h.2 ay az aA aB) 75, .row ae (e75Nj g.2 au av aw ax) 75, .row aa (e75Nj f.2 am an ao ap) 75, .row b2 (e46Nj u0) 46] iO iN := fk
  have iP := fg (aK.small)
  apply fd
  refine rgH ?_; intro iQ fl
  refine bt fj b5 2 [] [] [(65, pt af 0), (66, pt V 0)] ?_; intro kZ fm
  obtain ⟨iR, fn⟩ := iP
  refine ck fm 51 #[pt af 0, pt V 0] ?_
  obtain ⟨aM, iS, fo⟩ := hxq fn
  have i := gnegI_fun (bz 0) cW iR af bb bc V fh fi _ _ _ _ _ _ T aK (b5.perm ((pk 2 rfl).trans (lpr.cons _))) b5.fz; rw [iS] at i; refine i.mono ?_; rintro _ iT ⟨cX, cY, bF, bG, iU, rfl, ah, aN, aO, hm⟩; refine ⟨_, rfl, ?_⟩; intro k0 fp; have fq := hm
  replace N := N.mono ah
  replace O := O.mono ah
  have cZ : Mem w.heap.size [] w Z [.row af [.bool aM.1.neg, .slice cX aM.1.abs.length cY] 73, .row V [.bool aM.2.neg, .slice bF aM.2.abs.length bG] 73, .row aD [.bool (glshIS (⟨false, []⟩ : BInt) (bz 1) (wu64 u0.Size)).2.neg, .slice aI (glshIS (⟨false, []⟩ : BInt) (bz 1) (wu64 u0.Size)).2.abs.length aJ] 73, .row j (e75Nj R.2 aW aX aY aZ) 75, .row ak (e75Nj h.2 ay az aA aB) 75, .row ae (e75Nj g.2 au av aw ax) 75, .row aa (e75Nj f.2 am an ao ap) 75, .row b2 (e46Nj u0) 46] iU iT := fq
  have fs := fo (aN.small) (aO.small)
  apply fl
  refine t_ (s_ (sqH ?_)); intro ft b6
  refine s1 fp 68 (pt j 0) ?_; intro k1 fu
  refine ck fu 52 #[pt j 0] ?_
  obtain ⟨bH, iV, fv⟩ := hxq fs
  have i := rnum_fun R.2 j aW aX aY aZ _ _ _ _ _ _ N O (cZ.perm (pk 3 rfl)) cZ.fz; rw [iV] at i; refine i.mono ?_; rintro _ iW ⟨fw, fx, fy, fA, iX, rfl, ac, aR, aS, hm⟩; refine ⟨_, rfl, ?_⟩; intro k2 fB; have fC := hm
  replace aN := aN.mono ac
  replace aO := aO.mono ac
  have c0 : Mem w.heap.size [] w Z [.row j (e75Nj bH fw fx fy fA) 75, .row af [.bool aM.1.neg, .slice cX aM.1.abs.length cY] 73, .row V [.bool aM.2.neg, .slice bF aM.2.abs.length bG] 73, .row aD [.bool (glshIS (⟨false, []⟩ : BInt) (bz 1) (wu64 u0.Size)).2.neg, .slice aI (glshIS (⟨false, []⟩ : BInt) (bz 1) (wu64 u0.Size)).2.abs.length aJ] 73, .row ak (e75Nj h.2 ay az aA aB) 75, .row ae (e75Nj g.2 au av aw ax) 75, .row aa (e75Nj f.2 am an ao ap) 75, .row b2 (e46Nj u0) 46] iX iW := fC
  have iY := fv (aR.small) (aS.small)
  refine s1 fB 70 (pt af 0) ?_; intro k3 fE
  obtain ⟨iZ, fF⟩ := iY
  refine ck fE 53 #[pt j 0, pt af 0] ?_
  obtain ⟨aE, i0, fG⟩ := hxq fF
  have i := gcmpA_fun bH aM.1 iZ j fw fx fy fA af cX cY _ _ _ _ _ _ aR aS aN c0 c0.fz; rw [i0] at i; refine i.mono ?_; rintro _ i1 ⟨fH, fI, fJ, fK, bI, bJ, i2, rfl, W, a1, a2, a8, hm⟩; refine ⟨_, rfl, ?_⟩; intro k4 fL; have fM := hm
  replace aO := aO.mono W
  have bk : Mem w.heap.size [] w Z [.row j (e75Nj aE.2.1 fH fI fJ fK) 75, .row af [.bool aE.2.2.neg, .slice bI aE.2.2.abs.length bJ] 73, .row V [.bool aM.2.neg, .slice bF aM.2.abs.length bG] 73, .row aD [.bool (glshIS (⟨false, []⟩ : BInt) (bz 1) (wu64 u0.Size)).2.neg, .slice aI (glshIS (⟨false, []⟩ : BInt) (bz 1) (wu64 u0.Size)).2.abs.length aJ] 73, .row ak (e75Nj h.2 ay az aA aB) 75, .row ae (e75Nj g.2 au av aw ax) 75, .row aa (e75Nj f.2 am an ao ap) 75, .row b2 (e46Nj u0) 46] i2 i1 := fM
  have b7 := fG (a1.small) (a2.small) (a8.small)
  refine bt fL bk 2 [] [] [(73, .bool (decide (aE.1 < 0)))] ?_; intro k5 b8
  refine e_ b7 (fun bK i3 => ?_) fun bK fS => ?_
  ·
   have fR := b8.reval (d := 73) (c := []) (v := .bool (decide (aE.1 < 0))) (by kernel_rfl) (.bool true) (by rw [bK])
   refine bt fR bk 6 [] [74, 75, 76, 77, 78, 79] [(79, .bool true)] ?_; intro k6 c1
   apply b6
   refine cdT c1 (by kernel_rfl) ?_
   refine sqB c1 bk [] [] [(6, i6 0), (7, i6 3)] ?_; intro k7 i4
   exact r_ (h_ (ra2 i4 (.tuple #[i6 0, i6 3]) ⟨(0, 3), rfl, i3, bk.below⟩))
  have b9 := b8.reval (d := 73) (c := []) (v := .bool (decide (aE.1 < 0))) (by kernel_rfl) (.bool false) (by rw [bK])
  refine g_ b9 false (pt j 0) ?_; intro k8 c2
  refine cl c2 52 #[pt j 0] (wK c2 false) rfl (by kernel_rfl) (by kernel_rfl) ?_
  obtain ⟨bL, i5, fT⟩ := hxq fS
  have i := rnum_fun aE.2.1 j fH fI fJ fK _ _ _ _ _ _ a1 a2 bk bk.fz; rw [i5] at i; refine i.mono ?_; rintro _ i7 ⟨fU, fV, fW, fX, i8, rfl, S, be, bf, hm⟩; refine ⟨_, rfl, ?_⟩; intro k9 ca; have fY := hm
  replace aO := aO.mono S
  have c3 : Mem w.heap.size [] w Z [.row j (e75Nj bL fU fV fW fX) 75, .row af [.bool aE.2.2.neg, .slice bI aE.2.2.abs.length bJ] 73, .row V [.bool aM.2.neg, .slice bF aM.2.abs.length bG] 73, .row aD [.bool (glshIS (⟨false, []⟩ : BInt) (bz 1) (wu64 u0.Size)).2.neg, .slice aI (glshIS (⟨false, []⟩ : BInt) (bz 1) (wu64 u0.Size)).2.abs.length aJ] 73, .row ak (e75Nj h.2 ay az aA aB) 75, .row ae (e75Nj g.2 au av aw ax) 75, .row aa (e75Nj f.2 am an ao ap) 75, .row b2 (e46Nj u0) 46] i8 i7 := fY
  have i9 := fT (be.small) (bf.small)
  refine g_ ca false (pt V 0) ?_; intro la c4
  obtain ⟨ja, f0⟩ := i9
  refine cl c4 53 #[pt j 0, pt V 0] (wK c4 false) rfl (by kernel_rfl) (by kernel_rfl) ?_
  obtain ⟨aP, jb, f1⟩ := hxq f0
  have i := gcmpA_fun bL aM.2 ja j fU fV fW fX V bF bG _ _ _ _ _ _ be bf aO (c3.perm (((pk 1 rfl).trans (lpr.cons _)).cons _)) c3.fz; rw [jb] at i; refine i.mono ?_; rintro _ jc ⟨f2, f3, f4, f5, c5, c6, jd, rfl, P, bp, bq, bM, hm⟩; refine ⟨_, rfl, ?_⟩; intro lb f6; have f7 := hm
  have br : Mem w.heap.size [] w Z [.row j (e75Nj aP.2.1 f2 f3 f4 f5) 75, .row V [.bool aP.2.2.neg, .slice c5 aP.2.2.abs.length c6] 73, .row af [.bool aE.2.2.neg, .slice bI aE.2.2.abs.length bJ] 73, .row aD [.bool (glshIS (⟨false, []⟩ : BInt) (bz 1) (wu64 u0.Size)).2.neg, .slice aI (glshIS (⟨false, []⟩ : BInt) (bz 1) (wu64 u0.Size)).2.abs.length aJ] 73, .row ak (e75Nj h.2 ay az aA aB) 75, .row ae (e75Nj g.2 au av aw ax) 75, .row aa (e75Nj f.2 am an ao ap) 75, .row b2 (e46Nj u0) 46] jd jc := f7
  have cb := f1 (bp.small) (bq.small) (bM.small)
  refine bt f6 br 2 [] [78, 79] [(79, .bool (decide (aP.1 ≥ 0)))] ?_; intro lc bN
  apply b6
  refine c_ bN cb (fun _ je => ?_) fun _ ga => ?_
  ·
   refine sqB bN br [] [] [(6, i6 0), (7, i6 3)] ?_; intro ld jf
   exact r_ (h_ (ra2 jf (.tuple #[i6 0, i6 3]) ⟨(0, 3), rfl, je, br.below⟩))
  refine k_ (sqH ?_); intro jg gb
  refine s1 bN 80 (pt j 0) ?_; intro lf gc
  refine ck gc 52 #[pt j 0] ?_
  obtain ⟨bO, jh, gd⟩ := hxq ga
  have i := rnum_fun aP.2.1 j f2 f3 f4 f5 _ _ _ _ _ _ bp bq br br.fz; rw [jh] at i; refine i.mono ?_; rintro _ ji ⟨ge, gf, gg, gh, jj, rfl, G, cc, ce, hm⟩; refine ⟨_, rfl, ?_⟩; intro lg gi; have gj := hm
  have c8 : Mem w.heap.size [] w Z [.row j (e75Nj bO ge gf gg gh) 75, .row V [.bool aP.2.2.neg, .slice c5 aP.2.2.abs.length c6] 73, .row af [.bool aE.2.2.neg, .slice bI aE.2.2.abs.length bJ] 73, .row aD [.bool (glshIS (⟨false, []⟩ : BInt) (bz 1) (wu64 u0.Size)).2.neg, .slice aI (glshIS (⟨false, []⟩ : BInt) (bz 1) (wu64 u0.Size)).2.abs.length aJ] 73, .row ak (e75Nj h.2 ay az aA aB) 75, .row ae (e75Nj g.2 au av aw ax) 75, .row aa (e75Nj f.2 am an ao ap) 75, .row b2 (e46Nj u0) 46] jj ji := gj
  obtain ⟨jl, gl⟩ := gd (cc.small) (ce.small)
  refine ck gi 54 #[pt j 0] ?_
  obtain ⟨bl, jm, gm⟩ := hxq gl
  have i := gi64A_fun bO jl j ge gf gg gh _ _ _ _ _ _ cc ce c8 c8.fz; rw [jm] at i; refine i.mono ?_; rintro _ jn ⟨jo, jp, jq, jr, js, rfl, B, jt, ju, hm⟩; refine ⟨_, rfl, ?_⟩; intro lh gn; have go := hm
  have gp : Mem w.heap.size [] w Z [.row j (e75Nj bl.2 jo jp jq jr) 75, .row V [.bool aP.2.2.neg, .slice c5 aP.2.2.abs.length c6] 73, .row af [.bool aE.2.2.neg, .slice bI aE.2.2.abs.length bJ] 73, .row aD [.bool (glshIS (⟨false, []⟩ : BInt) (bz 1) (wu64 u0.Size)).2.neg, .slice aI (glshIS (⟨false, []⟩ : BInt) (bz 1) (wu64 u0.Size)).2.abs.length aJ] 73, .row ak (e75Nj h.2 ay az aA aB) 75, .row ae (e75Nj g.2 au av aw ax) 75, .row aa (e75Nj f.2 am an ao ap) 75, .row b2 (e46Nj u0) 46] js jn := go
  have jv := gm (jt.small) (ju.small)
  refine bt gn gp 2 [] [] [(6, i6 bl.1), (7, i6 0)] ?_; intro li jw
  apply gb
  exact r_ (ra2 jw (.tuple #[i6 bl.1, i6 0]) ⟨(bl.1, 0), rfl, jv, gp.below⟩)
 refine k_ (s_ (sqH ?_)); intro gs cf
 refine s1 bE 68 (pt j 0) ?_; intro lj gt
 refine ck gt 52 #[pt j 0] ?_
 obtain ⟨bP, jx, gu⟩ := hxq gr
 have i := rnum_fun R.2 j aW aX aY aZ _ _ _ _ _ _ N O (bd.perm (pk 3 rfl)) bd.fz; rw [jx] at i; refine i.mono ?_; rintro _ jy ⟨gv, gw, gx, gy, jz, rfl, aj, aT, aU, hm⟩; refine ⟨_, rfl, ?_⟩; intro lk gz; have gA := hm
 replace T := T.mono aj
 replace ab := ab.mono aj
 have c9 : Mem w.heap.size [] w Z [.row j (e75Nj bP gv gw gx gy) 75, .row V [.bool (glshIS (⟨false, []⟩ : BInt) (bz 1) (wu64 u0.Size)).1.neg, .slice bi (glshIS (⟨false, []⟩ : BInt) (bz 1) (wu64 u0.Size)).1.abs.length bj] 73, .row aD [.bool (glshIS (⟨false, []⟩ : BInt) (bz 1) (wu64 u0.Size)).2.neg, .slice aI (glshIS (⟨false, []⟩ : BInt) (bz 1) (wu64 u0.Size)).2.abs.length aJ] 73, .row af [.bool (bz 0).neg, .slice bb (bz 0).abs.length bc] 73, .row ak (e75Nj h.2 ay az aA aB) 75, .row ae (e75Nj g.2 au av aw ax) 75, .row aa (e75Nj f.2 am an ao ap) 75, .row b2 (e46Nj u0) 46] jz jy := gA
 have jA := gu (aT.small) (aU.small)
 refine s1 gz 70 (pt af 0) ?_; intro ll gC
 obtain ⟨jB, gD⟩ := jA
 refine ck gC 53 #[pt j 0, pt af 0] ?_
 obtain ⟨aF, jC, gE⟩ := hxq gD
 have i := gcmpA_fun bP (bz 0) jB j gv gw gx gy af bb bc _ _ _ _ _ _ aT aU T (c9.perm (((pk 2 rfl).trans (lpr.cons _)).cons _)) c9.fz; rw [jC] at i; refine i.mono ?_; rintro _ jD ⟨gF, gG, gH, gI, bQ, bR, jE, rfl, ad, a4, a5, ba, hm⟩; refine ⟨_, rfl, ?_⟩; intro lm gJ; have gK := hm
 replace ab := ab.mono ad
 have bm : Mem w.heap.size [] w Z [.row j (e75Nj aF.2.1 gF gG gH gI) 75, .row af [.bool aF.2.2.neg, .slice bQ aF.2.2.abs.length bR] 73, .row V [.bool (glshIS (⟨false, []⟩ : BInt) (bz 1) (wu64 u0.Size)).1.neg, .slice bi (glshIS (⟨false, []⟩ : BInt) (bz 1) (wu64 u0.Size)).1.abs.length bj] 73, .row aD [.bool (glshIS (⟨false, []⟩ : BInt) (bz 1) (wu64 u0.Size)).2.neg, .slice aI (glshIS (⟨false, []⟩ : BInt) (bz 1) (wu64 u0.Size)).2.abs.length aJ] 73, .row ak (e75Nj h.2 ay az aA aB) 75, .row ae (e75Nj g.2 au av aw ax) 75, .row aa (e75Nj f.2 am an ao ap) 75, .row b2 (e46Nj u0) 46] jE jD := gK
 have cg := gE (a4.small) (a5.small) (ba.small)
 refine bt gJ bm 2 [] [] [(73, .bool (decide (aF.1 < 0)))] ?_; intro ln ch
 refine e_ cg (fun bS jF => ?_) fun bS gO => ?_
 ·
  have gN := ch.reval (d := 73) (c := []) (v := .bool (decide (aF.1 < 0))) (by kernel_rfl) (.bool true) (by rw [bS])
  refine bt gN bm 6 [] [74, 75, 76, 77, 78, 79] [(79, .bool true)] ?_; intro lo da
  apply cf
  refine cdT da (by kernel_rfl) ?_
  refine sqB da bm [] [] [(6, i6 0), (7, i6 3)] ?_; intro lp jG
  exact r_ (h_ (ra2 jG (.tuple #[i6 0, i6 3]) ⟨(0, 3), rfl, jF, bm.below⟩))
 have ci := ch.reval (d := 73) (c := []) (v := .bool (decide (aF.1 < 0))) (by kernel_rfl) (.bool false) (by rw [bS])
 refine g_ ci false (pt j 0) ?_; intro lq db
 refine cl db 52 #[pt j 0] (wK db false) rfl (by kernel_rfl) (by kernel_rfl) ?_
 obtain ⟨bT, jH, gP⟩ := hxq gO
 have i := rnum_fun aF.2.1 j gF gG gH gI _ _ _ _ _ _ a4 a5 bm bm.fz; rw [jH] at i; refine i.mono ?_; rintro _ jI ⟨gQ, gR, gS, gT, jJ, rfl, X, bg, bh, hm⟩; refine ⟨_, rfl, ?_⟩; intro lr cj; have gU := hm
 replace ab := ab.mono X
 have dc : Mem w.heap.size [] w Z [.row j (e75Nj bT gQ gR gS gT) 75, .row af [.bool aF.2.2.neg, .slice bQ aF.2.2.abs.length bR] 73, .row V [.bool (glshIS (⟨false, []⟩ : BInt) (bz 1) (wu64 u0.Size)).1.neg, .slice bi (glshIS (⟨false, []⟩ : BInt) (bz 1) (wu64 u0.Size)).1.abs.length bj] 73, .row aD [.bool (glshIS (⟨false, []⟩ : BInt) (bz 1) (wu64 u0.Size)).2.neg, .slice aI (glshIS (⟨false, []⟩ : BInt) (bz 1) (wu64 u0.Size)).2.abs.length aJ] 73, .row ak (e75Nj h.2 ay az aA aB) 75, .row ae (e75Nj g.2 au av aw ax) 75, .row aa (e75Nj f.2 am an ao ap) 75, .row b2 (e46Nj u0) 46] jJ jI := gU
 have jK := gP (bg.small) (bh.small)
 refine g_ cj false (pt V 0) ?_; intro ls dd
 obtain ⟨jL, gW⟩ := jK
 refine cl dd 53 #[pt j 0, pt V 0] (wK dd false) rfl (by kernel_rfl) (by kernel_rfl) ?_
 obtain ⟨aQ, jM, gX⟩ := hxq gW
 have i := gcmpA_fun bT (glshIS (⟨false, []⟩ : BInt) (bz 1) (wu64 u0.Size)).1 jL j gQ gR gS gT V bi bj _ _ _ _ _ _ bg bh ab (dc.perm (((pk 1 rfl).trans (lpr.cons _)).cons _)) dc.fz; rw [jM] at i; refine i.mono ?_; rintro _ jN ⟨gY, gZ, g0, g1, de, df, jO, rfl, U, bs, bu, bU, hm⟩; refine ⟨_, rfl, ?_⟩; intro lt g2; have g3 := hm
 have bv : Mem w.heap.size [] w Z [.row j (e75Nj aQ.2.1 gY gZ g0 g1) 75, .row V [.bool aQ.2.2.neg, .slice de aQ.2.2.abs.length df] 73, .row af [.bool aF.2.2.neg, .slice bQ aF.2.2.abs.length bR] 73, .row aD [.bool (glshIS (⟨false, []⟩ : BInt) (bz 1) (wu64 u0.Size)).2.neg, .slice aI (glshIS (⟨false, []⟩ : BInt) (bz 1) (wu64 u0.Size)).2.abs.length aJ] 73, .row ak (e75Nj h.2 ay az aA aB) 75, .row ae (e75Nj g.2 au av aw ax) 75, .row aa (e75Nj f.2 am an ao ap) 75, .row b2 (e46Nj u0) 46] jO jN := g3
 have cm := gX (bs.small) (bu.small) (bU.small)
 refine bt g2 bv 2 [] [78, 79] [(79, .bool (decide (aQ.1 ≥ 0)))] ?_; intro lu bV
 apply cf
 refine c_ bV cm (fun _ jP => ?_) fun _ g6 => ?_
 ·
  refine sqB bV bv [] [] [(6, i6 0), (7, i6 3)] ?_; intro lv jQ
  exact r_ (h_ (ra2 jQ (.tuple #[i6 0, i6 3]) ⟨(0, 3), rfl, jP, bv.below⟩))
 refine k_ (sqH ?_); intro jR g7
 refine s1 bV 80 (pt j 0) ?_; intro lw g8
 refine ck g8 52 #[pt j 0] ?_
 obtain ⟨bW, jS, g9⟩ := hxq g6
 have i := rnum_fun aQ.2.1 j gY gZ g0 g1 _ _ _ _ _ _ bs bu bv bv.fz; rw [jS] at i; refine i.mono ?_; rintro _ jT ⟨ha, hb, hc, hd, jU, rfl, Q, cn, co, hm⟩; refine ⟨_, rfl, ?_⟩; intro lx he; have hf := hm
 have dh : Mem w.heap.size [] w Z [.row j (e75Nj bW ha hb hc hd) 75, .row V [.bool aQ.2.2.neg, .slice de aQ.2.2.abs.length df] 73, .row af [.bool aF.2.2.neg, .slice bQ aF.2.2.abs.length bR] 73, .row aD [.bool (glshIS (⟨false, []⟩ : BInt) (bz 1) (wu64 u0.Size)).2.neg, .slice aI (glshIS (⟨false, []⟩ : BInt) (bz 1) (wu64 u0.Size)).2.abs.length aJ] 73, .row ak (e75Nj h.2 ay az aA aB) 75, .row ae (e75Nj g.2 au av aw ax) 75, .row aa (e75Nj f.2 am an ao ap) 75, .row b2 (e46Nj u0) 46] jU jT := hf
 obtain ⟨jW, hh⟩ := g9 (cn.small) (co.small)
 refine ck he 54 #[pt j 0] ?_
 obtain ⟨bn, jX, hi⟩ := hxq hh
 have i := gi64A_fun bW jW j ha hb hc hd _ _ _ _ _ _ cn co dh dh.fz; rw [jX] at i; refine i.mono ?_; rintro _ jY ⟨jZ, j0, j1, j2, j3, rfl, H, j4, j5, hm⟩; refine ⟨_, rfl, ?_⟩; intro ly hj; have hk := hm
 have hl : Mem w.heap.size [] w Z [.row j (e75Nj bn.2 jZ j0 j1 j2) 75, .row V [.bool aQ.2.2.neg, .slice de aQ.2.2.abs.length df] 73, .row af [.bool aF.2.2.neg, .slice bQ aF.2.2.abs.length bR] 73, .row aD [.bool (glshIS (⟨false, []⟩ : BInt) (bz 1) (wu64 u0.Size)).2.neg, .slice aI (glshIS (⟨false, []⟩ : BInt) (bz 1) (wu64 u0.Size)).2.abs.length aJ] 73, .row ak (e75Nj h.2 ay az aA aB) 75, .row ae (e75Nj g.2 au av aw ax) 75, .row aa (e75Nj f.2 am an ao ap) 75, .row b2 (e46Nj u0) 46] j3 jY := hk
 have j6 := hi (j4.small) (j5.small)
 refine bt hj hl 2 [] [] [(6, i6 bn.1), (7, i6 0)] ?_; intro lz j7
 apply g7
 exact r_ (ra2 j7 (.tuple #[i6 bn.1, i6 0]) ⟨(bn.1, 0), rfl, j6, hl.below⟩)
end Go.Proofs.YtdndfbamhnchfaaGreatDoor
set_option linter.unusedVariables false
set_option linter.unusedSimpArgs false
set_option linter.defProp false
set_option maxRecDepth 100000
set_option maxHeartbeats 0
namespace Go.Proofs.YtdndfbamhnchfaaGreatDoor
open Go.Sy Go.RowKit
abbrev e46Mv (X : Signal) : List Value := [str X.Name, i6 X.Start, i6 X.Size, .bool X.Back, .bool X.Signed, i6 X.Mul, i6 X.Div, i6 X.Add, i6 X.Key]
abbrev e27Mv (X : Frame) (A0 : Option Addr) (C0 : Nat) : List Value := [i6 X.ID, .bool X.Long, .bool X.Fast, .bool X.Remote, i6 X.Size, .slice A0 X.Data.length C0]
abbrev e24Mv (X : Message) (A0 : Option Addr) (C0 : Nat) : List Value := [i6 X.ID, .bool X.Long, str X.Name, i6 X.Size, i6 X.Chooser, .slice A0 X.Signals.length C0]
abbrev e37Mv (X : Reading) : List Value := [str X.Name, i6 X.Num, i6 X.Den]
def rmean_fun (u0 : Signal) (u1 : Int) (hpre : factS u0 ∧ -1099511627776 ≤ u1 ∧ u1 ≤ 1099511627776)  (Z : Fz) (w : World)  (hZ : Z.on w) := f_ (rmean_walk u0 u1  Z w  hZ (rmean_ok u0 u1 hpre))
def runm_fun (u0 : Signal) (u1 : Int) (u2 : Int) (hpre : checkS u0 64 = 0)  (Z : Fz) (w : World)  (hZ : Z.on w) := f_ (runm_walk u0 u1 u2  Z w  hZ (runm_ok u0 u1 u2 hpre))
def rsetraw_fun (u0 : Signal) (u1 : List Int) (u2 : Int) (hpre : inD u0 u1) (ao1 : Option Addr) (cap2 : Nat) (Z : Fz) (w : World) (hs3 : SlR t8 Z ao1 cap2 u1) (hZ : Z.on w) := fc_ (rsetraw_walk u0 u1 u2 ao1 cap2 Z w hs3 hZ (rsetraw_ok u0 u1 u2 hpre))
theorem rreads_walk (u0 : Message) (u1 : Frame) (ao1 : Option Addr) (cap2 : Nat) (ao4 : Option Addr) (cap5 : Nat) (Z : Fz) (w : World) (hs3 : SlR tySignal Z ao1 cap2 u0.Signals) (hs6 : SlR t8 Z ao4 cap5 u1.Data) (hZ : Z.on w) {K : ((List Reading) × Int) → Prop} (hp : rreads_vc u0 u1 K) : Calls Tryz.prog 10 #[.agg #[i6 u0.ID, .bool u0.Long, str u0.Name, i6 u0.Size, i6 u0.Chooser, .slice ao1 u0.Signals.length cap2], .agg #[i6 u1.ID, .bool u1.Long, .bool u1.Fast, .bool u1.Remote, i6 u1.Size, .slice ao4 u1.Data.length cap5]] w fun e w' => ∃ (r : (List Reading) × Int) (ao1001 : Option Addr) (cap1002 : Nat) (Z' : Fz), e = .returned (.tuple #[.slice ao1001 r.1.length cap1002, i6 r.2]) ∧ K r ∧ Mem w.heap.size [] w Z [.own tyReading 37 ao1001 cap1002 r.1] Z' w' := by
 refine enter0 Tryz.func10 rfl rfl (by kernel_rfl) ?_; intro a0 R; have S := Mem.start w Z hZ
 have q := hp (hs3.small) (hs6.small)
 refine sqH ?_; intro aM V
 refine nw R S pb (e24Mv u0 ao1 cap2) 24 ?_; intro g bw bx W X
 refine nw W X pb (e27Mv u1 ao4 cap5) 27 ?_; intro d bz F Y f
 refine bt Y f 2 [] [] [] ?_; intro bA aa
 apply V
 refine s_ (sqB aa f [0, 1, 0, 1, 0] [] [(24, .bool (((u1.ID != u0.ID) || (u1.Long != u0.Long)) || u1.Remote))] ?_); intro bB m
 refine cd m (t := ((u1.ID != u0.ID) || (u1.Long != u0.Long)) || u1.Remote) (by kernel_rfl) (fun G => ?_) (fun G => ?_)
 · -- yes
  have aN := q.1 G
  refine sqB m f [] [] [(4, .slice none 0 0), (5, i6 8)] ?_; intro bC aO
  refine r_ (h_ ?_)
  have aP : Mem w.heap.size [] w Z [.own tyReading 37 none 0 ([] : List Reading), .row d (e27Mv u1 ao4 cap5) 27, .row g (e24Mv u0 ao1 cap2) 24] Z F := f.addNil tyReading 37 (by decide)
  exact ra2 aO (.tuple #[.slice none ([] : List Reading).length 0, i6 8]) ⟨(([] : List Reading), 8), none, 0, Z, rfl, aN, aP.kp⟩
 · -- no
  have u := q.2 G
  refine k_ (s_ (sqB m f [0, 1] [] [(30, .bool (decide ((u1.Data.length : Int) < u0.Size)))] ?_)); intro bD n
  refine cd n (t := decide ((u1.Data.length : Int) < u0.Size)) (by kernel_rfl) (fun H => ?_) (fun H => ?_)
  · -- yes
   have aQ := u.1 H
   refine sqB n f [] [] [(4, .slice none 0 0), (5, i6 7)] ?_; intro bE aR
   refine r_ (h_ ?_)
   have aS : Mem w.heap.size [] w Z [.own tyReading 37 none 0 ([] : List Reading), .row d (e27Mv u1 ao4 cap5) 27, .row g (e24Mv u0 ao1 cap2) 24] Z F := f.addNil tyReading 37 (by decide)
   exact ra2 aR (.tuple #[.slice none ([] : List Reading).length 0, i6 7]) ⟨(([] : List Reading), 7), none, 0, Z, rfl, aQ, aS.kp⟩
  · -- no
   have aT := u.2 H
   refine k_ (sqB n f [] [] [(6, .slice none 0 0)] ?_); intro bF ab
   refine s_ (sqB ab f [1] [] [(32, .slice ao1 u0.Signals.length cap2), (33, i6 (u0.Signals.length : Int)), (34, i6 0)] ?_); intro ac ad
   apply b_
   have ae : Fr 54 [] [⟨2, [], pt g 0⟩, ⟨3, [], pt d 0⟩, ⟨6, [], .slice none 0 0⟩, ⟨32, [], .slice ao1 u0.Signals.length cap2⟩, ⟨33, [], i6 (u0.Signals.length : Int)⟩, ⟨34, [], i6 0⟩] ac := ad.reg
   have af : Mem w.heap.size [] w Z [.own tyReading 37 none 0 ([] : List Reading), .row d (e27Mv u1 ao4 cap5) 27, .row g (e24Mv u0 ao1 cap2) 24] Z F := f.addNil tyReading 37 (by decide)
   have ag : Fr 54 [] [⟨2, [], pt g 0⟩, ⟨3, [], pt d 0⟩, ⟨6, [], .slice none ([] : List Reading).length 0⟩, ⟨32, [], .slice ao1 u0.Signals.length cap2⟩, ⟨33, [], i6 (u0.Signals.length : Int)⟩, ⟨34, [], i6 0⟩] ac := ae.reg
   obtain ⟨aU, aV, aW, aX⟩ := aT
   refine lp (ι := (List Reading) × Int × (Option Addr) × Nat) (fun s => [⟨2, [], pt g 0⟩, ⟨3, [], pt d 0⟩, ⟨6, [], .slice s.2.2.1 s.1.length s.2.2.2⟩, ⟨32, [], .slice ao1 u0.Signals.length cap2⟩, ⟨33, [], i6 (u0.Signals.length : Int)⟩, ⟨34, [], i6 s.2.1⟩]) (fun s => [.own tyReading 37 s.2.2.1 s.2.2.2 s.1, .row d (e27Mv u1 ao4 cap5) 27, .row g (e24Mv u0 ao1 cap2) 24]) (fun s => Z) (fun s => aU s.1 s.2.1) (fun s => aV s.1 s.2.1) ⟨([] : List Reading), 0, none, 0⟩ aW (by exact ag.region (by kernel_rfl) (by kernel_rfl)) (by exact af) ?_
   rintro ⟨c, h, i, j⟩ aY aZ a1 ah ai
   have v := aX c h aY
   refine sqB ah ai [] [] [(35, .bool (decide (h < (u0.Signals.length : Int))))] ?_; intro bG o
   apply s_
   refine cd o (t := decide (h < (u0.Signals.length : Int))) (by kernel_rfl) (fun I => ?_) (fun I => ?_)
   · -- yes
    have a2 := v.1 I
    refine k_ (s_ (b_ (sqH ?_))); intro a3 ak
    obtain ⟨a4, al⟩ := a2
    refine ix_ o hs3 h a4 .i64 46 72 ?_; intro bH bI a5 a bJ a6 a7 a8 am
    have a9 := al a a6
    obtain rfl : a5 = ((e46Mv a) : List Value) := a8
    refine z2 am ai 37 a7 0 9 (e46Mv a) rfl ?_; intro bK an
    refine nw an ai pb [str [], i6 0, i6 0, .bool false, .bool false, i6 0, i6 0, i6 0, i6 0] 46 ?_; intro y bL bM J aq
    refine sx J aq 0 (e46Mv a) 0 ?_; intro ba ar
    have z : Mem w.heap.size [] w Z [.row y (e46Mv a) 46, .own tyReading 37 i j c, .row d (e27Mv u1 ao4 cap5) 27, .row g (e24Mv u0 ao1 cap2) 24] Z ba := ar
    apply ak
    refine sqH ?_; intro bb au
    refine bt J z 4 [3, 0, 2] [] [(38, .agg (e24Mv u0 ao1 cap2).toArray), (39, .agg (e46Mv a).toArray), (41, .slice ao4 u1.Data.length cap5)] ?_; intro bN av
    obtain ⟨bc, A⟩ := a9
    refine fc av z (rthere_fun u0 a u1.Data bc ao1 cap2 ao4 cap5 _ _ hs3 hs6 z.fz) ?_; intro bd bO p B
    apply au
    refine cd p (t := (mthereS u0 a u1.Data)) (by kernel_rfl) (fun L => ?_) (fun L => ?_)
    · -- yes
     have be := A.1 L
     have aw : Fr 54 [] [⟨2, [], pt g 0⟩, ⟨3, [], pt d 0⟩, ⟨6, [], .slice i c.length j⟩, ⟨8, [], pt y 0⟩, ⟨32, [], .slice ao1 u0.Signals.length cap2⟩, ⟨33, [], i6 (u0.Signals.length : Int)⟩, ⟨34, [], i6 h⟩] bd := p.reg
     refine rgS mixed B [(0, true), (1, true), (2, true), (3, true), (4, true), (5, false), (6, false), (7, false), (8, false), (9, true)] [] [0, 2] [.row y (e46Mv a) 46, .row d (e27Mv u1 ao4 cap5) 27] ?_
     intro bf ax bP M
     have C := Fz.le.refl Z
     refine cS aw 5 [0, 0, 1] [] [(43, .slice i c.length j), (44, .agg (e46Mv a).toArray), (45, .agg (e46Mv a).toArray), (47, .slice ao4 u1.Data.length cap5)] ?_; intro bQ ay
     refine eS rfl ?_; intro bg az
     obtain ⟨bh, bi⟩ := be
     refine fc ay M (rrawof_fun a u1.Data bh ao4 cap5 _ _ hs6 M.fz) ?_; intro bR bS aA D
     refine nl (qnI (az _ _ (D.cst C [0, 2]) ?_))
     refine eS rfl ?_; intro bj aB
     obtain ⟨bk, bl⟩ := bi
     refine fc aA D (rmean_fun a (getS a u1.Data) bk _ _ D.fz) ?_; intro bT bU aC N
     refine nl (qnI (aB _ _ (N.cst C [0, 2]) ?_))
     refine eS rfl ?_; intro bm aD
     refine nw aC N (fun b => .slice (sm b) 1 1) (e37Mv (meanS a (getS a u1.Data))) 37 ?_; intro aE bV bW aF E
     refine nl (qnI (aD _ _ (E.cst C [1, 3]) ?_))
     refine eS rfl ?_; intro bn aG
     obtain ⟨bo, aH⟩ := bl
     refine ap aF E 2 (T := tyReading) (xs := c) (ys := [(meanS a (getS a u1.Data))]) (ao := i) (cap := j) (ao2 := (sm aE)) (cap2 := 1) (t := 28) (e := 37) (bytes := 32) (nog rfl _) rfl (by kernel_rfl) rfl (by kernel_rfl) (by kernel_rfl) (by kernel_rfl) rfl (Src.row E 0 rfl (RepAll.one (T := tyReading) (x := (meanS a (getS a u1.Data))) rfl)) bo ?_; intro O P bX bp bY aI aJ
     have Q : Mem w.heap.size [] w Z [.row aE (e37Mv (meanS a (getS a u1.Data))) 37, .row y (e46Mv a) 46, .own tyReading 37 O P (c ++ [(meanS a (getS a u1.Data))]), .row d (e27Mv u1 ao4 cap5) 27, .row g (e24Mv u0 ao1 cap2) 24] Z bp := aJ
     refine nl (qnI (aG _ _ (Q.cst C [1, 3]) ?_))
     refine cS aI 1 [] [] [(6, .slice O (c ++ [(meanS a (getS a u1.Data))]).length P)] ?_; intro bZ aK
     refine nS (ax _ _ ?_)
     refine j_ (t_ (rgB aK Q [] [] [(34, i6 (w64 (h + 1)))] ?_)); intro b0 bq
     exact d_ ⟨⟨c ++ [(meanS a (getS a u1.Data))], w64 (h + 1), O, P⟩, aH.1, aH.2, (bq.region (by kernel_rfl) (by kernel_rfl)).anyβ _ (by kernel_rfl), Q.kp⟩
    · -- no
     have aL := A.2 L
     refine l_ (j_ (t_ (rgB p B [] [] [(34, i6 (w64 (h + 1)))] ?_))); intro b1 br
     exact d_ ⟨⟨c, w64 (h + 1), i, j⟩, aL.1, aL.2, (br.region (by kernel_rfl) (by kernel_rfl)).anyβ _ (by kernel_rfl), B.kp⟩
   · -- no
    have bs := v.2 I
    refine x_ (y_ (y_ (z_ (t_ (sqB o ai [] [] [(4, .slice i c.length j), (5, i6 0)] ?_))))); intro b2 bu
    exact r_ (ra2 bu (.tuple #[.slice i c.length j, i6 0]) ⟨(c, 0), i, j, Z, rfl, bs, ai.kp⟩)
end Go.Proofs.YtdndfbamhnchfaaGreatDoor
