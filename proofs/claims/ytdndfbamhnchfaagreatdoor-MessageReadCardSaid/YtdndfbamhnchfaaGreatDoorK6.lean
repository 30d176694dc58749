/- Texts put together (pure ones, or walks made by program). -/
import Derived.Test.YtdndfbamhnchfaaGreatDoorK0
import Derived.Test.YtdndfbamhnchfaaGreatDoorK1
import Derived.Test.YtdndfbamhnchfaaGreatDoorK2
import Derived.Test.YtdndfbamhnchfaaGreatDoorK3
import Derived.Test.YtdndfbamhnchfaaGreatDoorK4
import Derived.Test.YtdndfbamhnchfaaGreatDoorK5
set_option linter.unusedVariables false
set_option linter.unusedSimpArgs false
set_option linter.defProp false
set_option maxRecDepth 100000
set_option maxHeartbeats 0
namespace Go.Proofs.YtdndfbamhnchfaaGreatDoor
open Go.Sy Go.RowKit
abbrev e75Nd (X : BRat) (A0 : Option Addr) (C0 : Nat) (A1 : Option Addr) (C1 : Nat) : List Value := [.bool X.a.neg, .slice A0 X.a.abs.length C0, .bool X.b.neg, .slice A1 X.b.abs.length C1]
def gdiv_fun (u0 : List Int) (u1 : List Int) (hpre : u0 = ws (wv u0) ∧ u1 = ws (wv u1) ∧ wv u0 < 18446744073709551616 ∧ wv u1 < 18446744073709551616 ∧ 0 < wv u1) (ao1 : Option Addr) (cap2 : Nat) (ao4 : Option Addr) (cap5 : Nat) (Z : Fz) (w : World) (hs3 : SlR (tyInt .u32) Z ao1 cap2 u0) (hs6 : SlR (tyInt .u32) Z ao4 cap5 u1) (hZ : Z.on w) := fe_ (gdiv_walk u0 u1 ao1 cap2 ao4 cap5 Z w hs3 hs6 hZ (gdiv_ok u0 u1 hpre))
def gcom_fun (u0 : List Int) (u1 : List Int) (hpre : u0 = ws (wv u0) ∧ u1 = ws (wv u1) ∧ wv u0 < 18446744073709551616 ∧ wv u1 < 18446744073709551616) (ao1 : Option Addr) (cap2 : Nat) (ao4 : Option Addr) (cap5 : Nat) (Z : Fz) (w : World) (hs3 : SlR (tyInt .u32) Z ao1 cap2 u0) (hs6 : SlR (tyInt .u32) Z ao4 cap5 u1) (hZ : Z.on w) := fc_ (gcom_walk u0 u1 ao1 cap2 ao4 cap5 Z w hs3 hs6 hZ (gcom_ok u0 u1 hpre))
def gsum_fun (u0 : Bool) (u1 : List Int) (u2 : Bool) (u3 : List Int) (hpre : u1 = ws (wv u1) ∧ u3 = ws (wv u3) ∧ wv u1 < 18446744073709551616 ∧ wv u3 < 18446744073709551616) (ao1 : Option Addr) (cap2 : Nat) (ao4 : Option Addr) (cap5 : Nat) (Z : Fz) (w : World) (hs3 : SlR (tyInt .u32) Z ao1 cap2 u1) (hs6 : SlR (tyInt .u32) Z ao4 cap5 u3) (hZ : Z.on w) := fc_ (gsum_walk u0 u1 u2 u3 ao1 cap2 ao4 cap5 Z w hs3 hs6 hZ (gsum_ok u0 u1 u2 u3 hpre))
theorem gnew_fun (u0 : Int) (hpre : -9223372036854775808 ≤ u0 ∧ u0 ≤ 9223372036854775807)  (Z : Fz) (w : World)  (hZ : Z.on w) : Calls Tryz.prog 48 #[i6 u0] w fun e w' => ∃ (b1001 : Nat) (ao1002 : Option Addr) (cap1003 : Nat) (Z' : Fz), e = .returned (pt b1001 0) ∧ SlR (tyInt .u32) Z' ao1002 cap1003 (bz u0).abs ∧ Mem w.heap.size [] w Z [.row b1001 [.bool (bz u0).neg, .slice ao1002 (bz u0).abs.length cap1003] 73] Z' w' :=
  (gnew_walk u0  Z w  hZ (gnew_ok u0 hpre)).mono fun _ _ ⟨r, h0, h1, h2, h3, he, hk, f0, hm⟩ => by subst hk; exact ⟨h0, h1, h2, h3, he, f0, hm⟩

def rden_fun (u0 : BRat) (hpre : u0.b.abs ≠ []) (b1 : Nat) (ao2 : Option Addr) (cap3 : Nat) (ao5 : Option Addr) (cap6 : Nat) (B : Nat) (w0 : World) (Z0 : Fz) (Rr : List Res) (Z : Fz) (w : World) (hs4 : SlR (tyInt .u32) Z ao2 cap3 u0.a.abs) (hs7 : SlR (tyInt .u32) Z ao5 cap6 u0.b.abs) (hM0 : Mem B [] w0 Z0 ((.row b1 [.bool u0.a.neg, .slice ao2 u0.a.abs.length cap3, .bool u0.b.neg, .slice ao5 u0.b.abs.length cap6] 75) :: Rr) Z w) (hZ : Z.on w) := fe_ (rden_walk u0 b1 ao2 cap3 ao5 cap6 B w0 Z0 Rr Z w hs4 hs7 hM0 hZ (rden_ok u0 hpre))
def gnegA_fun (u0 : BRat) (hpre : u0.a.abs.length ≤ 1000000) (b1 : Nat) (ao2 : Option Addr) (cap3 : Nat) (ao5 : Option Addr) (cap6 : Nat) (B : Nat) (w0 : World) (Z0 : Fz) (Rr : List Res) (Z : Fz) (w : World) (hs4 : SlR (tyInt .u32) Z ao2 cap3 u0.a.abs) (hs7 : SlR (tyInt .u32) Z ao5 cap6 u0.b.abs) (hM0 : Mem B [] w0 Z0 ((.row b1 [.bool u0.a.neg, .slice ao2 u0.a.abs.length cap3, .bool u0.b.neg, .slice ao5 u0.b.abs.length cap6] 75) :: Rr) Z w) (hZ : Z.on w) := fe_ (gnegA_walk u0 b1 ao2 cap3 ao5 cap6 B w0 Z0 Rr Z w hs4 hs7 hM0 hZ (gnegA_ok u0 hpre))
def gnegB_fun (u0 : BRat) (hpre : u0.b.abs.length ≤ 1000000) (b1 : Nat) (ao2 : Option Addr) (cap3 : Nat) (ao5 : Option Addr) (cap6 : Nat) (B : Nat) (w0 : World) (Z0 : Fz) (Rr : List Res) (Z : Fz) (w : World) (hs4 : SlR (tyInt .u32) Z ao2 cap3 u0.a.abs) (hs7 : SlR (tyInt .u32) Z ao5 cap6 u0.b.abs) (hM0 : Mem B [] w0 Z0 ((.row b1 [.bool u0.a.neg, .slice ao2 u0.a.abs.length cap3, .bool u0.b.neg, .slice ao5 u0.b.abs.length cap6] 75) :: Rr) Z w) (hZ : Z.on w) := fe_ (gnegB_walk u0 b1 ao2 cap3 ao5 cap6 B w0 Z0 Rr Z w hs4 hs7 hM0 hZ (gnegB_ok u0 hpre))
theorem gmulAB_walk (u0 : BInt) (u1 : BRat) (u2 : BRat) (b1 : Nat) (ao2 : Option Addr) (cap3 : Nat) (b5 : Nat) (ao6 : Option Addr) (cap7 : Nat) (ao9 : Option Addr) (cap10 : Nat) (b12 : Nat) (ao13 : Option Addr) (cap14 : Nat) (ao16 : Option Addr) (cap17 : Nat) (B : Nat) (w0 : World) (Z0 : Fz) (Rr : List Res) (Z : Fz) (w : World) (hs4 : SlR (tyInt .u32) Z ao2 cap3 u0.abs) (hs8 : SlR (tyInt .u32) Z ao6 cap7 u1.a.abs) (hs11 : SlR (tyInt .u32) Z ao9 cap10 u1.b.abs) (hs15 : SlR (tyInt .u32) Z ao13 cap14 u2.a.abs) (hs18 : SlR (tyInt .u32) Z ao16 cap17 u2.b.abs) (hM0 : Mem B [] w0 Z0 ((.row b1 [.bool u0.neg, .slice ao2 u0.abs.length cap3] 73) :: (.row b5 [.bool u1.a.neg, .slice ao6 u1.a.abs.length cap7, .bool u1.b.neg, .slice ao9 u1.b.abs.length cap10] 75) :: (.row b12 [.bool u2.a.neg, .slice ao13 u2.a.abs.length cap14, .bool u2.b.neg, .slice ao16 u2.b.abs.length cap17] 75) :: Rr) Z w) (hZ : Z.on w) {K : (BInt × BRat × BRat) → Prop} (hp : gmulAB_vc u0 u1 u2 K) : Calls Tryz.prog 75 #[pt b1 0, pt b5 0, pt b12 2] w fun e w' => ∃ (r : BInt × BRat × BRat) (ao1001 : Option Addr) (cap1002 : Nat) (ao1004 : Option Addr) (cap1005 : Nat) (ao1007 : Option Addr) (cap1008 : Nat) (ao1010 : Option Addr) (cap1011 : Nat) (ao1013 : Option Addr) (cap1014 : Nat) (Z' : Fz), e = .returned (pt b1 0) ∧ K r ∧ Fz.le Z Z' ∧ SlR (tyInt .u32) Z' ao1001 cap1002 r.1.abs ∧ SlR (tyInt .u32) Z' ao1004 cap1005 r.2.1.a.abs ∧ SlR (tyInt .u32) Z' ao1007 cap1008 r.2.1.b.abs ∧ SlR (tyInt .u32) Z' ao1010 cap1011 r.2.2.a.abs ∧ SlR (tyInt .u32) Z' ao1013 cap1014 r.2.2.b.abs ∧ Mem B [] w0 Z0 ((.row b1 [.bool r.1.neg, .slice ao1001 r.1.abs.length cap1002] 73) :: (.row b5 [.bool r.2.1.a.neg, .slice ao1004 r.2.1.a.abs.length cap1005, .bool r.2.1.b.neg, .slice ao1007 r.2.1.b.abs.length cap1008] 75) :: (.row b12 [.bool r.2.2.a.neg, .slice ao1010 r.2.2.a.abs.length cap1011, .bool r.2.2.b.neg, .slice ao1013 r.2.2.b.abs.length cap1014] 75) :: Rr) Z' w' := by
 refine enter0 Tryz.func75 rfl rfl (by kernel_rfl) ?_; intro V k; have g := Fz.le.refl Z
 have I := hp (hs4.small) (hs8.small) (hs11.small) (hs15.small) (hs18.small)
 refine sqB k hM0 [] [] [] ?_; intro J p
 have q : Fr 27 [] [⟨0, [], pt b1 0⟩, ⟨1, [], pt b5 0⟩, ⟨2, [], pt b12 2⟩] J := p.reg
 refine wp_seq (rgS mixed hM0 [(0, true), (1, true), (2, true), (3, true), (4, true), (5, true), (6, true), (7, true), (8, true), (9, true), (10, true), (11, true), (12, true), (13, true), (14, true), (15, true), (16, true), (17, true), (18, false), (19, false), (20, true)] [] [1, 2] [.row b5 (e75Nd u1 ao6 cap7 ao9 cap10) 75, .row b12 (e75Nd u2 ao13 cap14 ao16 cap17) 75] ?_)
 intro L s W i
 have f := Fz.le.refl Z
 refine cS q 18 [0, 1, 0, 1] [] [(7, pt b1 0), (16, .bool (u1.a.neg != u2.b.neg)), (20, .slice ao6 u1.a.abs.length cap7), (24, .slice ao16 u2.b.abs.length cap17)] ?_; intro X t
 refine eS rfl ?_; intro M u
 obtain ⟨N, O⟩ := I
 refine ck t 103 #[.slice ao6 u1.a.abs.length cap7, .slice ao16 u2.b.abs.length cap17] ?_
 refine (gmul_fun u1.a.abs u2.b.abs N ao6 cap7 ao16 cap17 _ _ hs8 hs18 i.fz).mono ?_; rintro _ P ⟨v, x, Q, rfl, j, hm⟩; refine ⟨_, rfl, ?_⟩; intro Y y; have z := i.callZ hm; have d := hm.ext.le
 replace hs4 := hs4.mono d
 replace hs8 := hs8.mono d
 replace hs11 := hs11.mono d
 replace hs15 := hs15.mono d
 replace hs18 := hs18.mono d
 replace f := f.mono d
 replace g := Fz.le.trans g d
 have h : Mem B [] w0 Z0 ((.row b1 [.bool u0.neg, .slice ao2 u0.abs.length cap3] 73) :: (.row b5 (e75Nd u1 ao6 cap7 ao9 cap10) 75) :: (.row b12 (e75Nd u2 ao13 cap14 ao16 cap17) 75) :: Rr) Q P := z
 refine nl (qnI (u _ _ (h.cst f [1, 2]) ?_))
 refine eS rfl ?_; intro R A
 refine ck y 78 #[pt b1 0, .bool (u1.a.neg != u2.b.neg), .slice v (gmulS u1.a.abs u2.b.abs).length x] ?_
 refine (ggive_fun u0 (u1.a.neg != u2.b.neg) (gmulS u1.a.abs u2.b.abs) b1 ao2 cap3 v x _ _ _ _ _ _ hs4 j h h.fz).mono ?_; rintro _ S ⟨C, D, E, rfl, c, T, hm⟩; refine ⟨_, rfl, ?_⟩; intro aa F; have G := hm
 replace hs8 := hs8.mono c
 replace hs11 := hs11.mono c
 replace hs15 := hs15.mono c
 replace hs18 := hs18.mono c
 replace f := f.mono c
 replace g := Fz.le.trans g c
 have H : Mem B [] w0 Z0 ((.row b1 [.bool (ggive u0 (u1.a.neg != u2.b.neg) (gmulS u1.a.abs u2.b.abs)).neg, .slice C (ggive u0 (u1.a.neg != u2.b.neg) (gmulS u1.a.abs u2.b.abs)).abs.length D] 73) :: (.row b5 (e75Nd u1 ao6 cap7 ao9 cap10) 75) :: (.row b12 (e75Nd u2 ao13 cap14 ao16 cap17) 75) :: Rr) E S := G
 refine nl (qnI (A _ _ (H.cst f [1, 2]) ?_))
 refine cS F 1 [] [] [(6, pt b1 0)] ?_; intro ab U
 refine nS (s _ _ ?_)
 exact t_ (r_ (ra1 U (pt b1 0) ⟨((ggive u0 (u1.a.neg != u2.b.neg) (gmulS u1.a.abs u2.b.abs)), u1, u2), C, D, ao6, cap7, ao9, cap10, ao13, cap14, ao16, cap17, E, rfl, O, g, T, hs8, hs11, hs15, hs18, H.kp⟩))

theorem gmulBB_walk (u0 : BInt) (u1 : BRat) (u2 : BRat) (b1 : Nat) (ao2 : Option Addr) (cap3 : Nat) (b5 : Nat) (ao6 : Option Addr) (cap7 : Nat) (ao9 : Option Addr) (cap10 : Nat) (b12 : Nat) (ao13 : Option Addr) (cap14 : Nat) (ao16 : Option Addr) (cap17 : Nat) (B : Nat) (w0 : World) (Z0 : Fz) (Rr : List Res) (Z : Fz) (w : World) (hs4 : SlR (tyInt .u32) Z ao2 cap3 u0.abs) (hs8 : SlR (tyInt .u32) Z ao6 cap7 u1.a.abs) (hs11 : SlR (tyInt .u32) Z ao9 cap10 u1.b.abs) (hs15 : SlR (tyInt .u32) Z ao13 cap14 u2.a.abs) (hs18 : SlR (tyInt .u32) Z ao16 cap17 u2.b.abs) (hM0 : Mem B [] w0 Z0 ((.row b1 [.bool u0.neg, .slice ao2 u0.abs.length cap3] 73) :: (.row b5 [.bool u1.a.neg, .slice ao6 u1.a.abs.length cap7, .bool u1.b.neg, .slice ao9 u1.b.abs.length cap10] 75) :: (.row b12 [.bool u2.a.neg, .slice ao13 u2.a.abs.length cap14, .bool u2.b.neg, .slice ao16 u2.b.abs.length cap17] 75) :: Rr) Z w) (hZ : Z.on w) {K : (BInt × BRat × BRat) → Prop} (hp : gmulBB_vc u0 u1 u2 K) : Calls Tryz.prog 75 #[pt b1 0, pt b5 2, pt b12 2] w fun e w' => ∃ (r : BInt × BRat × BRat) (ao1001 : Option Addr) (cap1002 : Nat) (ao1004 : Option Addr) (cap1005 : Nat) (ao1007 : Option Addr) (cap1008 : Nat) (ao1010 : Option Addr) (cap1011 : Nat) (ao1013 : Option Addr) (cap1014 : Nat) (Z' : Fz), e = .returned (pt b1 0) ∧ K r ∧ Fz.le Z Z' ∧ SlR (tyInt .u32) Z' ao1001 cap1002 r.1.abs ∧ SlR (tyInt .u32) Z' ao1004 cap1005 r.2.1.a.abs ∧ SlR (tyInt .u32) Z' ao1007 cap1008 r.2.1.b.abs ∧ SlR (tyInt .u32) Z' ao1010 cap1011 r.2.2.a.abs ∧ SlR (tyInt .u32) Z' ao1013 cap1014 r.2.2.b.abs ∧ Mem B [] w0 Z0 ((.row b1 [.bool r.1.neg, .slice ao1001 r.1.abs.length cap1002] 73) :: (.row b5 [.bool r.2.1.a.neg, .slice ao1004 r.2.1.a.abs.length cap1005, .bool r.2.1.b.neg, .slice ao1007 r.2.1.b.abs.length cap1008] 75) :: (.row b12 [.bool r.2.2.a.neg, .slice ao1010 r.2.2.a.abs.length cap1011, .bool r.2.2.b.neg, .slice ao1013 r.2.2.b.abs.length cap1014] 75) :: Rr) Z' w' := by
 refine enter0 Tryz.func75 rfl rfl (by kernel_rfl) ?_; intro V k; have g := Fz.le.refl Z
 have I := hp (hs4.small) (hs8.small) (hs11.small) (hs15.small) (hs18.small)
 refine sqB k hM0 [] [] [] ?_; intro J p
 have q : Fr 27 [] [⟨0, [], pt b1 0⟩, ⟨1, [], pt b5 2⟩, ⟨2, [], pt b12 2⟩] J := p.reg
 refine wp_seq (rgS mixed hM0 [(0, true), (1, true), (2, true), (3, true), (4, true), (5, true), (6, true), (7, true), (8, true), (9, true), (10, true), (11, true), (12, true), (13, true), (14, true), (15, true), (16, true), (17, true), (18, false), (19, false), (20, true)] [] [1, 2] [.row b5 (e75Nd u1 ao6 cap7 ao9 cap10) 75, .row b12 (e75Nd u2 ao13 cap14 ao16 cap17) 75] ?_)
 intro L s W i
 have f := Fz.le.refl Z
 refine cS q 18 [0, 1, 0, 1] [] [(7, pt b1 0), (16, .bool (u1.b.neg != u2.b.neg)), (20, .slice ao9 u1.b.abs.length cap10), (24, .slice ao16 u2.b.abs.length cap17)] ?_; intro X t
 refine eS rfl ?_; intro M u
 obtain ⟨N, O⟩ := I
 refine ck t 103 #[.slice ao9 u1.b.abs.length cap10, .slice ao16 u2.b.abs.length cap17] ?_
 refine (gmul_fun u1.b.abs u2.b.abs N ao9 cap10 ao16 cap17 _ _ hs11 hs18 i.fz).mono ?_; rintro _ P ⟨v, x, Q, rfl, j, hm⟩; refine ⟨_, rfl, ?_⟩; intro Y y; have z := i.callZ hm; have d := hm.ext.le
 replace hs4 := hs4.mono d
 replace hs8 := hs8.mono d
 replace hs11 := hs11.mono d
 replace hs15 := hs15.mono d
 replace hs18 := hs18.mono d
 replace f := f.mono d
 replace g := Fz.le.trans g d
 have h : Mem B [] w0 Z0 ((.row b1 [.bool u0.neg, .slice ao2 u0.abs.length cap3] 73) :: (.row b5 (e75Nd u1 ao6 cap7 ao9 cap10) 75) :: (.row b12 (e75Nd u2 ao13 cap14 ao16 cap17) 75) :: Rr) Q P := z
 refine nl (qnI (u _ _ (h.cst f [1, 2]) ?_))
 refine eS rfl ?_; intro R A
 refine ck y 78 #[pt b1 0, .bool (u1.b.neg != u2.b.neg), .slice v (gmulS u1.b.abs u2.b.abs).length x] ?_
 refine (ggive_fun u0 (u1.b.neg != u2.b.neg) (gmulS u1.b.abs u2.b.abs) b1 ao2 cap3 v x _ _ _ _ _ _ hs4 j h h.fz).mono ?_; rintro _ S ⟨C, D, E, rfl, c, T, hm⟩; refine ⟨_, rfl, ?_⟩; intro aa F; have G := hm
 replace hs8 := hs8.mono c
 replace hs11 := hs11.mono c
 replace hs15 := hs15.mono c
 replace hs18 := hs18.mono c
 replace f := f.mono c
 replace g := Fz.le.trans g c
 have H : Mem B [] w0 Z0 ((.row b1 [.bool (ggive u0 (u1.b.neg != u2.b.neg) (gmulS u1.b.abs u2.b.abs)).neg, .slice C (ggive u0 (u1.b.neg != u2.b.neg) (gmulS u1.b.abs u2.b.abs)).abs.length D] 73) :: (.row b5 (e75Nd u1 ao6 cap7 ao9 cap10) 75) :: (.row b12 (e75Nd u2 ao13 cap14 ao16 cap17) 75) :: Rr) E S := G
 refine nl (qnI (A _ _ (H.cst f [1, 2]) ?_))
 refine cS F 1 [] [] [(6, pt b1 0)] ?_; intro ab U
 refine nS (s _ _ ?_)
 exact t_ (r_ (ra1 U (pt b1 0) ⟨((ggive u0 (u1.b.neg != u2.b.neg) (gmulS u1.b.abs u2.b.abs)), u1, u2), C, D, ao6, cap7, ao9, cap10, ao13, cap14, ao16, cap17, E, rfl, O, g, T, hs8, hs11, hs15, hs18, H.kp⟩))

theorem gaddI_walk (u0 : BInt) (u1 : BInt) (u2 : BInt) (b1 : Nat) (ao2 : Option Addr) (cap3 : Nat) (b5 : Nat) (ao6 : Option Addr) (cap7 : Nat) (b9 : Nat) (ao10 : Option Addr) (cap11 : Nat) (B : Nat) (w0 : World) (Z0 : Fz) (Rr : List Res) (Z : Fz) (w : World) (hs4 : SlR (tyInt .u32) Z ao2 cap3 u0.abs) (hs8 : SlR (tyInt .u32) Z ao6 cap7 u1.abs) (hs12 : SlR (tyInt .u32) Z ao10 cap11 u2.abs) (hM0 : Mem B [] w0 Z0 ((.row b1 [.bool u0.neg, .slice ao2 u0.abs.length cap3] 73) :: (.row b5 [.bool u1.neg, .slice ao6 u1.abs.length cap7] 73) :: (.row b9 [.bool u2.neg, .slice ao10 u2.abs.length cap11] 73) :: Rr) Z w) (hZ : Z.on w) {K : (BInt × BInt × BInt) → Prop} (hp : gaddI_vc u0 u1 u2 K) : Calls Tryz.prog 99 #[pt b1 0, pt b5 0, pt b9 0] w fun e w' => ∃ (r : BInt × BInt × BInt) (ao1001 : Option Addr) (cap1002 : Nat) (ao1004 : Option Addr) (cap1005 : Nat) (ao1007 : Option Addr) (cap1008 : Nat) (Z' : Fz), e = .returned (pt b1 0) ∧ K r ∧ Fz.le Z Z' ∧ SlR (tyInt .u32) Z' ao1001 cap1002 r.1.abs ∧ SlR (tyInt .u32) Z' ao1004 cap1005 r.2.1.abs ∧ SlR (tyInt .u32) Z' ao1007 cap1008 r.2.2.abs ∧ Mem B [] w0 Z0 ((.row b1 [.bool r.1.neg, .slice ao1001 r.1.abs.length cap1002] 73) :: (.row b5 [.bool r.2.1.neg, .slice ao1004 r.2.1.abs.length cap1005] 73) :: (.row b9 [.bool r.2.2.neg, .slice ao1007 r.2.2.abs.length cap1008] 73) :: Rr) Z' w' := by
 refine enter0 Tryz.func99 rfl rfl (by kernel_rfl) ?_; intro S k; have c := Fz.le.refl Z
 have F := hp (hs4.small) (hs8.small) (hs12.small)
 refine sqB k hM0 [] [] [] ?_; intro G n
 have o : Fr 28 [] [⟨0, [], pt b1 0⟩, ⟨1, [], pt b5 0⟩, ⟨2, [], pt b9 0⟩] G := n.reg
 refine wp_seq (rgS mixed hM0 [(0, true), (1, true), (2, true), (3, true), (4, true), (5, true), (6, true), (7, true), (8, true), (9, true), (10, true), (11, true), (12, true), (13, true), (14, true), (15, true), (16, true), (17, false), (18, true), (19, true), (20, false), (21, true)] [] [1, 2] [.row b5 [.bool u1.neg, .slice ao6 u1.abs.length cap7] 73, .row b9 [.bool u2.neg, .slice ao10 u2.abs.length cap11] 73] ?_)
 intro H p T g
 have a := Fz.le.refl Z
 refine cS o 17 [0, 0, 1, 1] [] [(7, pt b1 0), (11, .bool u1.neg), (15, .slice ao6 u1.abs.length cap7), (19, .bool u2.neg), (23, .slice ao10 u2.abs.length cap11)] ?_; intro U q
 refine eS rfl ?_; intro I s
 obtain ⟨J, L⟩ := F
 refine ck q 102 #[.bool u1.neg, .slice ao6 u1.abs.length cap7, .bool u2.neg, .slice ao10 u2.abs.length cap11] ?_
 refine (gsum_fun u1.neg u1.abs u2.neg u2.abs J ao6 cap7 ao10 cap11 _ _ hs8 hs12 g.fz).mono ?_; rintro _ M ⟨h, i, N, rfl, j, hm⟩; refine ⟨_, rfl, ?_⟩; intro V t; have u := g.callZ hm; have d := hm.ext.le
 replace hs4 := hs4.mono d
 replace hs8 := hs8.mono d
 replace hs12 := hs12.mono d
 replace a := a.mono d
 replace c := Fz.le.trans c d
 have f : Mem B [] w0 Z0 ((.row b1 [.bool u0.neg, .slice ao2 u0.abs.length cap3] 73) :: (.row b5 [.bool u1.neg, .slice ao6 u1.abs.length cap7] 73) :: (.row b9 [.bool u2.neg, .slice ao10 u2.abs.length cap11] 73) :: Rr) N M := u
 refine nl (qnI (s _ _ (f.cst a [1, 2]) ?_))
 refine cS t 2 [] [] [(25, .bool (gsumS u1.neg u1.abs u2.neg u2.abs).1), (26, .slice h (gsumS u1.neg u1.abs u2.neg u2.abs).2.length i)] ?_; intro W v
 refine eS rfl ?_; intro O x
 refine ck v 78 #[pt b1 0, .bool (gsumS u1.neg u1.abs u2.neg u2.abs).1, .slice h (gsumS u1.neg u1.abs u2.neg u2.abs).2.length i] ?_
 refine (ggive_fun u0 (gsumS u1.neg u1.abs u2.neg u2.abs).1 (gsumS u1.neg u1.abs u2.neg u2.abs).2 b1 ao2 cap3 h i _ _ _ _ _ _ hs4 j f f.fz).mono ?_; rintro _ P ⟨y, z, A, rfl, b, Q, hm⟩; refine ⟨_, rfl, ?_⟩; intro X C; have D := hm
 replace hs8 := hs8.mono b
 replace hs12 := hs12.mono b
 replace a := a.mono b
 replace c := Fz.le.trans c b
 have E : Mem B [] w0 Z0 ((.row b1 [.bool (ggive u0 (gsumS u1.neg u1.abs u2.neg u2.abs).1 (gsumS u1.neg u1.abs u2.neg u2.abs).2).neg, .slice y (ggive u0 (gsumS u1.neg u1.abs u2.neg u2.abs).1 (gsumS u1.neg u1.abs u2.neg u2.abs).2).abs.length z] 73) :: (.row b5 [.bool u1.neg, .slice ao6 u1.abs.length cap7] 73) :: (.row b9 [.bool u2.neg, .slice ao10 u2.abs.length cap11] 73) :: Rr) A P := D
 refine nl (qnI (x _ _ (E.cst a [1, 2]) ?_))
 refine cS C 1 [] [] [(6, pt b1 0)] ?_; intro Y R
 refine nS (p _ _ ?_)
 exact t_ (r_ (ra1 R (pt b1 0) ⟨((ggive u0 (gsumS u1.neg u1.abs u2.neg u2.abs).1 (gsumS u1.neg u1.abs u2.neg u2.abs).2), u1, u2), y, z, ao6, cap7, ao10, cap11, A, rfl, L, c, Q, hs8, hs12, E.kp⟩))

theorem rnorm_walk (u0 : BRat) (b1 : Nat) (ao2 : Option Addr) (cap3 : Nat) (ao5 : Option Addr) (cap6 : Nat) (B : Nat) (w0 : World) (Z0 : Fz) (Rr : List Res) (Z : Fz) (w : World) (hs4 : SlR (tyInt .u32) Z ao2 cap3 u0.a.abs) (hs7 : SlR (tyInt .u32) Z ao5 cap6 u0.b.abs) (hM0 : Mem B [] w0 Z0 ((.row b1 [.bool u0.a.neg, .slice ao2 u0.a.abs.length cap3, .bool u0.b.neg, .slice ao5 u0.b.abs.length cap6] 75) :: Rr) Z w) (hZ : Z.on w) {K : BRat → Prop} (hp : rnorm_vc u0 K) : Calls Tryz.prog 101 #[pt b1 0] w fun e w' => ∃ (r : BRat) (ao1001 : Option Addr) (cap1002 : Nat) (ao1004 : Option Addr) (cap1005 : Nat) (Z' : Fz), e = .returned (pt b1 0) ∧ K r ∧ Fz.le Z Z' ∧ SlR (tyInt .u32) Z' ao1001 cap1002 r.a.abs ∧ SlR (tyInt .u32) Z' ao1004 cap1005 r.b.abs ∧ Mem B [] w0 Z0 ((.row b1 [.bool r.a.neg, .slice ao1001 r.a.abs.length cap1002, .bool r.b.neg, .slice ao1004 r.b.abs.length cap1005] 75) :: Rr) Z' w' := by
 refine enter0 Tryz.func101 rfl rfl (by kernel_rfl) ?_; intro a0 b3; have j := Fz.le.refl Z
 have eO := hp (hs4.small) (hs7.small)
 refine sqB b3 hM0 [] [] [] ?_; intro gW b5
 refine s_ (sqB b5 hM0 [0] [] [(14, .bool ((u0.b.abs.length : Int) == 0))] ?_); intro gX bi
 obtain ⟨eP, eQ⟩ := eO
 refine cn bi eP ?_
 refine k_ (s_ (sqB bi hM0 [0] [] [(23, .bool u0.b.neg)] ?_)); intro bj b6
 have b7 : Fr 120 [] [⟨0, [], pt b1 0⟩, ⟨23, [], .bool u0.b.neg⟩] bj := b6.reg
 obtain ⟨eR, aK, eT⟩ := eQ
 refine wp_then_k fun KJ47 hKJ48 => ?_
 have b8 : ∀ (f : BRat) (l : Option Addr) (m : Nat) (h : Option Addr) (i : Nat) (O : Fz), eR f ∧ SlR (tyInt .u32) O l m f.a.abs ∧ SlR (tyInt .u32) O h i f.b.abs ∧ Fz.le Z O → ∀ a1 w1, Fr 120 [] [⟨0, [], pt b1 0⟩] a1 → Mem B [] w0 Z0 ((.row b1 (e75Nd f l m h i) 75) :: Rr) O w1 → KJ47 a1 w1 := by
  rintro f l m h i O ⟨eU, o, n, p⟩ gY gZ b9 u
  refine hKJ48 _ _ ?_
  have aL := eT f eU
  replace j := Fz.le.trans j p
  refine s_ (sqB b9 u [0] [] [(44, .bool ((f.a.abs.length : Int) == 0))] ?_); intro g0 aj
  refine c_ aj aL (fun _ eV => ?_) fun _ aN => ?_
  ·
   refine sqH ?_; intro eW ca
   refine bt aj u 3 [] [] [(47, pt b1 2)] ?_; intro g1 cb
   refine ck cb 77 #[pt b1 2, i6 1] ?_
   refine enter0 Tryz.func77 rfl rfl (by kernel_rfl) ?_; intro eX cc
   have ce : Fr 18 [] [⟨0, [], pt b1 2⟩, ⟨1, [], i6 1⟩] eX := cc.reg
   refine sqB ce u [] [] [] ?_; intro g2 cf
   refine sqB cf u [] [] [(5, y6 1)] ?_; intro g3 cg
   refine s_ (sqB cg u [] [] [(9, .bool false)] ?_); intro g4 bl
   refine cdF bl (by kernel_rfl) ?_
   refine k_ (sqH ?_); intro eY ch
   refine bt bl u 4 [] [] [(12, pt b1 2), (14, .bool false), (15, y6 1)] ?_; intro g5 ci
   obtain ⟨eZ, cj⟩ := eV
   refine ck ci 104 #[y6 1] ?_
   refine (gwords_fun 1 eZ _ _ u.fz).mono ?_; rintro _ e0 ⟨cl, cm, e1, rfl, aM, hm⟩; refine ⟨_, rfl, ?_⟩; intro g6 co; have cp := u.callZ hm; have ag := hm.ext.le
   replace o := o.mono ag
   replace n := n.mono ag
   replace j := Fz.le.trans j ag
   have bm : Mem B [] w0 Z0 ((.row b1 (e75Nd f l m h i) 75) :: Rr) e1 e0 := cp
   have cq := cj (aM.small)
   refine ck co 78 #[pt b1 2, .bool false, .slice cl (gwordsS 1).length cm] ?_
   obtain ⟨L, e2, cr⟩ := hxq cq
   have h9 := ggiveB_fun f false (gwordsS 1) b1 l m h i cl cm _ _ _ _ _ _ o n aM bm bm.fz; rw [e2] at h9; refine h9.mono ?_; rintro _ cs ⟨bn, bo, bp, bq, br, rfl, S, ct, cu, hm⟩; refine ⟨_, rfl, ?_⟩; intro g7 cv; have cw := hm
   replace j := Fz.le.trans j S
   have cx : Mem B [] w0 Z0 ((.row b1 (e75Nd L bn bo bp bq) 75) :: Rr) br cs := cw
   have e3 := cr (ct.small) (cu.small)
   refine s1 cv 4 (pt b1 2) ?_; intro g8 cz
   apply ch
   refine r_ (ra1 cz (pt b1 2) ?_)
   refine ⟨_, rfl, ?_⟩; intro g9 cA
   have cB : Mem B [] w0 Z0 ((.row b1 (e75Nd L bn bo bp bq) 75) :: Rr) br cs := cx
   apply ca
   refine sqB cA cB [] [] [(2, pt b1 0)] ?_; intro ha e4
   exact r_ (h_ (ra1 e4 (pt b1 0) ⟨L, bn, bo, bp, bq, br, rfl, e3, j, ct, cu, cB.kp⟩))
  refine k_ (s_ (sqH ?_)); intro cC aO
  refine bt aj u 8 [0] [] [(57, .bool ((f.b.abs.length : Int) == 1))] ?_; intro hb aP
  refine e_ aN (fun ak e5 => ?_) fun ak fW => ?_
  ·
   have cD := aP.reval (d := 57) (c := []) (v := .bool ((f.b.abs.length : Int) == 1)) (by kernel_rfl) (.bool true) (by rw [ak])
   refine bt cD u 5 [0] [58, 59, 60, 61, 62] [(62, .slice h f.b.abs.length i)] ?_; intro hc bs
   obtain ⟨e6, cE⟩ := e5
   refine ix bs (T := (tyInt .u32)) (xs := f.b.abs) n (0 : Int) e6 (k := .i64) (e := 105) (bytes := 4) (wK bs true) rfl (by kernel_rfl) rfl (by kernel_rfl) (by kernel_rfl) (by kernel_rfl) ?_; intro hd he e7 al hf e8 G e9 aQ
   have aR := cE al e8
   obtain rfl : e7 = ([.int .u32 al] : List Value) := e9
   refine v_ aQ (.int .u32 al) (wK aQ true) (lz aQ u.fz G 0 (g := []) rfl (by kernel_rfl) (by kernel_rfl) (by kernel_rfl) rfl) ?_; intro hg cF
   refine bt cF u 2 [] [65, 66] [(66, .bool (al == 1))] ?_; intro fa am
   apply aO
   refine c_ am aR (fun _ fb => ?_) fun _ fd => ?_
   ·
    refine sqB am u [] [] [(2, pt b1 0)] ?_; intro hh fc
    exact r_ (h_ (ra1 fc (pt b1 0) ⟨f, l, m, h, i, O, rfl, fb, j, o, n, u.kp⟩))
   apply k_
   have cG : Fr 120 [] [⟨0, [], pt b1 0⟩] fa := am.reg
   refine wp_seq (rgS mixed u [(0, true), (1, true), (2, true), (3, true), (4, true), (5, true), (6, true), (7, true), (8, true), (9, true), (10, false), (11, true)] [] [0] [.row b1 (e75Nd f l m h i) 75] ?_)
   intro fe cH hi bv
   have bw := Fz.le.refl O
   refine cS cG 10 [0, 0] [] [(72, .slice l f.a.abs.length m), (77, .slice h f.b.abs.length i)] ?_; intro hj cI
   refine eS rfl ?_; intro ff cJ
   obtain ⟨fg, aS⟩ := fd
   refine ck cI 113 #[.slice l f.a.abs.length m, .slice h f.b.abs.length i] ?_
   refine (gcom_fun f.a.abs f.b.abs fg l m h i _ _ o n bv.fz).mono ?_; rintro _ fh ⟨z, A, cK, rfl, E, hm⟩; refine ⟨_, rfl, ?_⟩; intro hk cL; have cM := bv.callZ hm; have P := hm.ext.le
   replace o := o.mono P
   replace n := n.mono P
   replace bw := bw.mono P
   replace j := Fz.le.trans j P
   have x : Mem B [] w0 Z0 ((.row b1 (e75Nd f l m h i) 75) :: Rr) cK fh := cM
   refine nl (qnI (cJ _ _ (x.cst bw [0]) ?_))
   refine cS cL 1 [] [] [(3, .slice z (gcomS f.a.abs f.b.abs).length A)] ?_; intro hl cN
   refine nS (cH _ _ ?_)
   refine t_ (s_ (sqH ?_)); intro cO aT
   refine bt cN x 4 [] [] [(82, .bool (((gcomS f.a.abs f.b.abs).length : Int) == 1))] ?_; intro hn aU
   refine e_ aS (fun an fi => ?_) fun an fG => ?_
   ·
    have aV := aU.reval (d := 82) (c := []) (v := .bool (((gcomS f.a.abs f.b.abs).length : Int) == 1)) (by kernel_rfl) (.bool true) (by rw [an])
    refine g_ aV true (.slice z (gcomS f.a.abs f.b.abs).length A) ?_; intro ho bx
    obtain ⟨fj, cP⟩ := fi
    refine ix bx (T := (tyInt .u32)) (xs := (gcomS f.a.abs f.b.abs)) E (0 : Int) fj (k := .i64) (e := 105) (bytes := 4) (wK bx true) rfl (by kernel_rfl) rfl (by kernel_rfl) (by kernel_rfl) (by kernel_rfl) ?_; intro hq hr fk ao hs fl ap fm aW
    have aX := cP ao fl
    obtain rfl : fk = ([.int .u32 ao] : List Value) := fm
    refine v_ aW (.int .u32 ao) (wK aW true) (lz aW x.fz ap 0 (g := []) rfl (by kernel_rfl) (by kernel_rfl) (by kernel_rfl) rfl) ?_; intro ht cQ
    refine bt cQ x 2 [] [86, 87] [(87, .bool (ao == 1))] ?_; intro hu aq
    apply aT
    refine c_ aq aX (fun _ fn => ?_) fun _ fp => ?_
    ·
     refine sqB aq x [] [] [(2, pt b1 0)] ?_; intro hv fo
     exact r_ (h_ (ra1 fo (pt b1 0) ⟨f, l, m, h, i, cK, rfl, fn, j, o, n, x.kp⟩))
    refine k_ (sqH ?_); intro fq cR
    refine bt aq x 6 [0] [] [(94, .slice l f.a.abs.length m), (95, .slice z (gcomS f.a.abs f.b.abs).length A)] ?_; intro hw cT
    obtain ⟨fr, cU⟩ := fp
    refine ck cT 114 #[.slice l f.a.abs.length m, .slice z (gcomS f.a.abs f.b.abs).length A] ?_
    refine (gdiv_fun f.a.abs (gcomS f.a.abs f.b.abs) fr l m z A _ _ o E x.fz).mono ?_; rintro _ fs ⟨U, V, hx, hy, ft, rfl, aY, bA, hm⟩; refine ⟨_, rfl, ?_⟩; intro hz cV; have cW := x.callZ hm; have M := hm.ext.le
    replace n := n.mono M
    replace E := E.mono M
    replace j := Fz.le.trans j M
    have ar : Mem B [] w0 Z0 ((.row b1 (e75Nd f l m h i) 75) :: Rr) ft fs := cW
    have fu := cU (aY.small) (bA.small)
    refine bt cV ar 5 [] [] [(4, .slice U (gdivS f.a.abs (gcomS f.a.abs f.b.abs)).1.length V)] ?_; intro hA cY
    apply cR
    refine sqH ?_; intro fv cZ
    refine bt cY ar 6 [0] [] [(104, .slice h f.b.abs.length i), (105, .slice z (gcomS f.a.abs f.b.abs).length A)] ?_; intro hB c0
    obtain ⟨fw, c1⟩ := fu
    refine ck c0 114 #[.slice h f.b.abs.length i, .slice z (gcomS f.a.abs f.b.abs).length A] ?_
    refine (gdiv_fun f.b.abs (gcomS f.a.abs f.b.abs) fw h i z A _ _ n E ar.fz).mono ?_; rintro _ fx ⟨au, av, hC, hD, aZ, rfl, c2, fy, hm⟩; refine ⟨_, rfl, ?_⟩; intro hE c3; have c4 := ar.callZ hm; have H := hm.ext.le
    replace aY := aY.mono H
    replace j := Fz.le.trans j H
    have a2 : Mem B [] w0 Z0 ((.row b1 (e75Nd f l m h i) 75) :: Rr) aZ fx := c4
    have fA := c1 (c2.small) (fy.small)
    refine bt c3 a2 5 [] [] [(6, .slice au (gdivS f.b.abs (gcomS f.a.abs f.b.abs)).1.length av)] ?_; intro hF c6
    apply cZ
    refine sqH ?_; intro fB c7
    refine bt c6 a2 5 [] [] [(110, .slice U (gdivS f.a.abs (gcomS f.a.abs f.b.abs)).1.length V), (113, pt b1 1)] ?_; intro hG bB
    refine sx bB a2 0 [.bool f.a.neg, .slice U (gdivS f.a.abs (gcomS f.a.abs f.b.abs)).1.length V, .bool f.b.neg, .slice h f.b.abs.length i] 1 ?_; intro fC c8
    have bC : Mem B [] w0 Z0 ((.row b1 [.bool f.a.neg, .slice U (gdivS f.a.abs (gcomS f.a.abs f.b.abs)).1.length V, .bool f.b.neg, .slice h f.b.abs.length i] 75) :: Rr) aZ fC := c8
    apply c7
    refine sqH ?_; intro fD c9
    refine bt bB bC 5 [] [] [(115, .slice au (gdivS f.b.abs (gcomS f.a.abs f.b.abs)).1.length av), (118, pt b1 3)] ?_; intro hH bD
    refine sx bD bC 0 [.bool f.a.neg, .slice U (gdivS f.a.abs (gcomS f.a.abs f.b.abs)).1.length V, .bool f.b.neg, .slice au (gdivS f.b.abs (gcomS f.a.abs f.b.abs)).1.length av] 3 ?_; intro fE da
    have db : Mem B [] w0 Z0 ((.row b1 [.bool f.a.neg, .slice U (gdivS f.a.abs (gcomS f.a.abs f.b.abs)).1.length V, .bool f.b.neg, .slice au (gdivS f.b.abs (gcomS f.a.abs f.b.abs)).1.length av] 75) :: Rr) aZ fE := da
    apply c9
    refine sqB bD db [] [] [(2, pt b1 0)] ?_; intro hI fF
    exact r_ (ra1 fF (pt b1 0) ⟨(⟨(⟨f.a.neg, (gdivS f.a.abs (gcomS f.a.abs f.b.abs)).1⟩ : BInt), (⟨f.b.neg, (gdivS f.b.abs (gcomS f.a.abs f.b.abs)).1⟩ : BInt)⟩ : BRat), U, V, au, av, aZ, rfl, fA, j, aY, c2, db.kp⟩)
   have dc := aU.reval (d := 82) (c := []) (v := .bool (((gcomS f.a.abs f.b.abs).length : Int) == 1)) (by kernel_rfl) (.bool false) (by rw [an])
   refine bt dc x 5 [] [83, 84, 85, 86, 87] [(87, .bool false)] ?_; intro hJ bE
   apply aT
   refine cdF bE (by kernel_rfl) ?_
   refine k_ (sqH ?_); intro fH dd
   refine bt bE x 6 [0] [] [(94, .slice l f.a.abs.length m), (95, .slice z (gcomS f.a.abs f.b.abs).length A)] ?_; intro hK de
   obtain ⟨fI, df⟩ := fG
   refine ck de 114 #[.slice l f.a.abs.length m, .slice z (gcomS f.a.abs f.b.abs).length A] ?_
   refine (gdiv_fun f.a.abs (gcomS f.a.abs f.b.abs) fI l m z A _ _ o E x.fz).mono ?_; rintro _ fJ ⟨W, X, hL, hM, fK, rfl, a3, bF, hm⟩; refine ⟨_, rfl, ?_⟩; intro hN dg; have dh := x.callZ hm; have Q := hm.ext.le
   replace n := n.mono Q
   replace E := E.mono Q
   replace j := Fz.le.trans j Q
   have aw : Mem B [] w0 Z0 ((.row b1 (e75Nd f l m h i) 75) :: Rr) fK fJ := dh
   have fL := df (a3.small) (bF.small)
   refine bt dg aw 5 [] [] [(4, .slice W (gdivS f.a.abs (gcomS f.a.abs f.b.abs)).1.length X)] ?_; intro hO dj
   apply dd
   refine sqH ?_; intro fM dk
   refine bt dj aw 6 [0] [] [(104, .slice h f.b.abs.length i), (105, .slice z (gcomS f.a.abs f.b.abs).length A)] ?_; intro hP dl
   obtain ⟨fN, dm⟩ := fL
   refine ck dl 114 #[.slice h f.b.abs.length i, .slice z (gcomS f.a.abs f.b.abs).length A] ?_
   refine (gdiv_fun f.b.abs (gcomS f.a.abs f.b.abs) fN h i z A _ _ n E aw.fz).mono ?_; rintro _ fO ⟨ax, ay, hQ, hR, a4, rfl, dn, fP, hm⟩; refine ⟨_, rfl, ?_⟩; intro hS dp; have dq := aw.callZ hm; have I := hm.ext.le
   replace a3 := a3.mono I
   replace j := Fz.le.trans j I
   have a5 : Mem B [] w0 Z0 ((.row b1 (e75Nd f l m h i) 75) :: Rr) a4 fO := dq
   have fQ := dm (dn.small) (fP.small)
   refine bt dp a5 5 [] [] [(6, .slice ax (gdivS f.b.abs (gcomS f.a.abs f.b.abs)).1.length ay)] ?_; intro hT ds
   apply dk
   refine sqH ?_; intro fR dt
   refine bt ds a5 5 [] [] [(110, .slice W (gdivS f.a.abs (gcomS f.a.abs f.b.abs)).1.length X), (113, pt b1 1)] ?_; intro hU bG
   refine sx bG a5 0 [.bool f.a.neg, .slice W (gdivS f.a.abs (gcomS f.a.abs f.b.abs)).1.length X, .bool f.b.neg, .slice h f.b.abs.length i] 1 ?_; intro fS du
   have bH : Mem B [] w0 Z0 ((.row b1 [.bool f.a.neg, .slice W (gdivS f.a.abs (gcomS f.a.abs f.b.abs)).1.length X, .bool f.b.neg, .slice h f.b.abs.length i] 75) :: Rr) a4 fS := du
   apply dt
   refine sqH ?_; intro fT dv
   refine bt bG bH 5 [] [] [(115, .slice ax (gdivS f.b.abs (gcomS f.a.abs f.b.abs)).1.length ay), (118, pt b1 3)] ?_; intro hV bI
   refine sx bI bH 0 [.bool f.a.neg, .slice W (gdivS f.a.abs (gcomS f.a.abs f.b.abs)).1.length X, .bool f.b.neg, .slice ax (gdivS f.b.abs (gcomS f.a.abs f.b.abs)).1.length ay] 3 ?_; intro fU dw
   have dx : Mem B [] w0 Z0 ((.row b1 [.bool f.a.neg, .slice W (gdivS f.a.abs (gcomS f.a.abs f.b.abs)).1.length X, .bool f.b.neg, .slice ax (gdivS f.b.abs (gcomS f.a.abs f.b.abs)).1.length ay] 75) :: Rr) a4 fU := dw
   apply dv
   refine sqB bI dx [] [] [(2, pt b1 0)] ?_; intro hW fV
   exact r_ (ra1 fV (pt b1 0) ⟨(⟨(⟨f.a.neg, (gdivS f.a.abs (gcomS f.a.abs f.b.abs)).1⟩ : BInt), (⟨f.b.neg, (gdivS f.b.abs (gcomS f.a.abs f.b.abs)).1⟩ : BInt)⟩ : BRat), W, X, ax, ay, a4, rfl, fQ, j, a3, dn, dx.kp⟩)
  have dy := aP.reval (d := 57) (c := []) (v := .bool ((f.b.abs.length : Int) == 1)) (by kernel_rfl) (.bool false) (by rw [ak])
  refine bt dy u 9 [] [58, 59, 60, 61, 62, 63, 64, 65, 66] [(66, .bool false)] ?_; intro fX bJ
  apply aO
  refine cdF bJ (by kernel_rfl) ?_
  apply k_
  have dz : Fr 120 [] [⟨0, [], pt b1 0⟩] fX := bJ.reg
  refine wp_seq (rgS mixed u [(0, true), (1, true), (2, true), (3, true), (4, true), (5, true), (6, true), (7, true), (8, true), (9, true), (10, false), (11, true)] [] [0] [.row b1 (e75Nd f l m h i) 75] ?_)
  intro fY dA hX bK
  have bL := Fz.le.refl O
  refine cS dz 10 [0, 0] [] [(72, .slice l f.a.abs.length m), (77, .slice h f.b.abs.length i)] ?_; intro hY dB
  refine eS rfl ?_; intro fZ dC
  obtain ⟨f0, a6⟩ := fW
  refine ck dB 113 #[.slice l f.a.abs.length m, .slice h f.b.abs.length i] ?_
  refine (gcom_fun f.a.abs f.b.abs f0 l m h i _ _ o n bK.fz).mono ?_; rintro _ f1 ⟨C, D, dD, rfl, F, hm⟩; refine ⟨_, rfl, ?_⟩; intro h0 dE; have dF := bK.callZ hm; have Y := hm.ext.le
  replace o := o.mono Y
  replace n := n.mono Y
  replace bL := bL.mono Y
  replace j := Fz.le.trans j Y
  have y : Mem B [] w0 Z0 ((.row b1 (e75Nd f l m h i) 75) :: Rr) dD f1 := dF
  refine nl (qnI (dC _ _ (y.cst bL [0]) ?_))
  refine cS dE 1 [] [] [(3, .slice C (gcomS f.a.abs f.b.abs).length D)] ?_; intro h1 dG
  refine nS (dA _ _ ?_)
  refine t_ (s_ (sqH ?_)); intro dH a7
  refine bt dG y 4 [] [] [(82, .bool (((gcomS f.a.abs f.b.abs).length : Int) == 1))] ?_; intro h2 a8
  refine e_ a6 (fun az f2 => ?_) fun az gp => ?_
  ·
   have a9 := a8.reval (d := 82) (c := []) (v := .bool (((gcomS f.a.abs f.b.abs).length : Int) == 1)) (by kernel_rfl) (.bool true) (by rw [az])
   refine g_ a9 true (.slice C (gcomS f.a.abs f.b.abs).length D) ?_; intro h3 bM
   obtain ⟨f3, dI⟩ := f2
   refine ix bM (T := (tyInt .u32)) (xs := (gcomS f.a.abs f.b.abs)) F (0 : Int) f3 (k := .i64) (e := 105) (bytes := 4) (wK bM true) rfl (by kernel_rfl) rfl (by kernel_rfl) (by kernel_rfl) (by kernel_rfl) ?_; intro h4 h5 f4 aA h6 f5 aB f6 ba
   have bb := dI aA f5
   obtain rfl : f4 = ([.int .u32 aA] : List Value) := f6
   refine v_ ba (.int .u32 aA) (wK ba true) (lz ba y.fz aB 0 (g := []) rfl (by kernel_rfl) (by kernel_rfl) (by kernel_rfl) rfl) ?_; intro h7 dJ
   refine bt dJ y 2 [] [86, 87] [(87, .bool (aA == 1))] ?_; intro h8 aC
   apply a7
   refine c_ aC bb (fun _ f7 => ?_) fun _ f9 => ?_
   ·
    refine sqB aC y [] [] [(2, pt b1 0)] ?_; intro ia f8
    exact r_ (h_ (ra1 f8 (pt b1 0) ⟨f, l, m, h, i, dD, rfl, f7, j, o, n, y.kp⟩))
   refine k_ (sqH ?_); intro ga dK
   refine bt aC y 6 [0] [] [(94, .slice l f.a.abs.length m), (95, .slice C (gcomS f.a.abs f.b.abs).length D)] ?_; intro ib dL
   obtain ⟨gb, dM⟩ := f9
   refine ck dL 114 #[.slice l f.a.abs.length m, .slice C (gcomS f.a.abs f.b.abs).length D] ?_
   refine (gdiv_fun f.a.abs (gcomS f.a.abs f.b.abs) gb l m C D _ _ o F y.fz).mono ?_; rintro _ gc ⟨aa, ab, ic, id, gd, rfl, bc, bO, hm⟩; refine ⟨_, rfl, ?_⟩; intro ie dN; have dO := y.callZ hm; have R := hm.ext.le
   replace n := n.mono R
   replace F := F.mono R
   replace j := Fz.le.trans j R
   have aD : Mem B [] w0 Z0 ((.row b1 (e75Nd f l m h i) 75) :: Rr) gd gc := dO
   have ge := dM (bc.small) (bO.small)
   refine bt dN aD 5 [] [] [(4, .slice aa (gdivS f.a.abs (gcomS f.a.abs f.b.abs)).1.length ab)] ?_; intro ig dQ
   apply dK
   refine sqH ?_; intro gf dR
   refine bt dQ aD 6 [0] [] [(104, .slice h f.b.abs.length i), (105, .slice C (gcomS f.a.abs f.b.abs).length D)] ?_; intro ih dS
   obtain ⟨gg, dT⟩ := ge
   refine ck dS 114 #[.slice h f.b.abs.length i, .slice C (gcomS f.a.abs f.b.abs).length D] ?_
   refine (gdiv_fun f.b.abs (gcomS f.a.abs f.b.abs) gg h i C D _ _ n F aD.fz).mono ?_; rintro _ gh ⟨aE, aF, ii, ij, bd, rfl, dU, gi, hm⟩; refine ⟨_, rfl, ?_⟩; intro ik dV; have dW := aD.callZ hm; have J := hm.ext.le
   replace bc := bc.mono J
   replace j := Fz.le.trans j J
   have be : Mem B [] w0 Z0 ((.row b1 (e75Nd f l m h i) 75) :: Rr) bd gh := dW
   have gj := dT (dU.small) (gi.small)
   refine bt dV be 5 [] [] [(6, .slice aE (gdivS f.b.abs (gcomS f.a.abs f.b.abs)).1.length aF)] ?_; intro il dY
   apply dR
   refine sqH ?_; intro gk dZ
   refine bt dY be 5 [] [] [(110, .slice aa (gdivS f.a.abs (gcomS f.a.abs f.b.abs)).1.length ab), (113, pt b1 1)] ?_; intro im bP
   refine sx bP be 0 [.bool f.a.neg, .slice aa (gdivS f.a.abs (gcomS f.a.abs f.b.abs)).1.length ab, .bool f.b.neg, .slice h f.b.abs.length i] 1 ?_; intro gl d0
   have bQ : Mem B [] w0 Z0 ((.row b1 [.bool f.a.neg, .slice aa (gdivS f.a.abs (gcomS f.a.abs f.b.abs)).1.length ab, .bool f.b.neg, .slice h f.b.abs.length i] 75) :: Rr) bd gl := d0
   apply dZ
   refine sqH ?_; intro gm d1
   refine bt bP bQ 5 [] [] [(115, .slice aE (gdivS f.b.abs (gcomS f.a.abs f.b.abs)).1.length aF), (118, pt b1 3)] ?_; intro io bR
   refine sx bR bQ 0 [.bool f.a.neg, .slice aa (gdivS f.a.abs (gcomS f.a.abs f.b.abs)).1.length ab, .bool f.b.neg, .slice aE (gdivS f.b.abs (gcomS f.a.abs f.b.abs)).1.length aF] 3 ?_; intro gn d2
   have d3 : Mem B [] w0 Z0 ((.row b1 [.bool f.a.neg, .slice aa (gdivS f.a.abs (gcomS f.a.abs f.b.abs)).1.length ab, .bool f.b.neg, .slice aE (gdivS f.b.abs (gcomS f.a.abs f.b.abs)).1.length aF] 75) :: Rr) bd gn := d2
   apply d1
   refine sqB bR d3 [] [] [(2, pt b1 0)] ?_; intro ip go
   exact r_ (ra1 go (pt b1 0) ⟨(⟨(⟨f.a.neg, (gdivS f.a.abs (gcomS f.a.abs f.b.abs)).1⟩ : BInt), (⟨f.b.neg, (gdivS f.b.abs (gcomS f.a.abs f.b.abs)).1⟩ : BInt)⟩ : BRat), aa, ab, aE, aF, bd, rfl, gj, j, bc, dU, d3.kp⟩)
  have d4 := a8.reval (d := 82) (c := []) (v := .bool (((gcomS f.a.abs f.b.abs).length : Int) == 1)) (by kernel_rfl) (.bool false) (by rw [az])
  refine bt d4 y 5 [] [83, 84, 85, 86, 87] [(87, .bool false)] ?_; intro iq bS
  apply a7
  refine cdF bS (by kernel_rfl) ?_
  refine k_ (sqH ?_); intro gq d5
  refine bt bS y 6 [0] [] [(94, .slice l f.a.abs.length m), (95, .slice C (gcomS f.a.abs f.b.abs).length D)] ?_; intro ir d6
  obtain ⟨gr, d7⟩ := gp
  refine ck d6 114 #[.slice l f.a.abs.length m, .slice C (gcomS f.a.abs f.b.abs).length D] ?_
  refine (gdiv_fun f.a.abs (gcomS f.a.abs f.b.abs) gr l m C D _ _ o F y.fz).mono ?_; rintro _ gs ⟨ac, ad, it, iu, gt, rfl, bf, bT, hm⟩; refine ⟨_, rfl, ?_⟩; intro iv d8; have d9 := y.callZ hm; have ae := hm.ext.le
  replace n := n.mono ae
  replace F := F.mono ae
  replace j := Fz.le.trans j ae
  have aG : Mem B [] w0 Z0 ((.row b1 (e75Nd f l m h i) 75) :: Rr) gt gs := d9
  have gu := d7 (bf.small) (bT.small)
  refine bt d8 aG 5 [] [] [(4, .slice ac (gdivS f.a.abs (gcomS f.a.abs f.b.abs)).1.length ad)] ?_; intro iw eb
  apply d5
  refine sqH ?_; intro gv ec
  refine bt eb aG 6 [0] [] [(104, .slice h f.b.abs.length i), (105, .slice C (gcomS f.a.abs f.b.abs).length D)] ?_; intro iy ed
  obtain ⟨gw, ee⟩ := gu
  refine ck ed 114 #[.slice h f.b.abs.length i, .slice C (gcomS f.a.abs f.b.abs).length D] ?_
  refine (gdiv_fun f.b.abs (gcomS f.a.abs f.b.abs) gw h i C D _ _ n F aG.fz).mono ?_; rintro _ gx ⟨aH, aI, iz, iA, bg, rfl, ef, gy, hm⟩; refine ⟨_, rfl, ?_⟩; intro iB eg; have eh := aG.callZ hm; have N := hm.ext.le
  replace bf := bf.mono N
  replace j := Fz.le.trans j N
  have bh : Mem B [] w0 Z0 ((.row b1 (e75Nd f l m h i) 75) :: Rr) bg gx := eh
  have gz := ee (ef.small) (gy.small)
  refine bt eg bh 5 [] [] [(6, .slice aH (gdivS f.b.abs (gcomS f.a.abs f.b.abs)).1.length aI)] ?_; intro iC ej
  apply ec
  refine sqH ?_; intro gA ek
  refine bt ej bh 5 [] [] [(110, .slice ac (gdivS f.a.abs (gcomS f.a.abs f.b.abs)).1.length ad), (113, pt b1 1)] ?_; intro iD bU
  refine sx bU bh 0 [.bool f.a.neg, .slice ac (gdivS f.a.abs (gcomS f.a.abs f.b.abs)).1.length ad, .bool f.b.neg, .slice h f.b.abs.length i] 1 ?_; intro gB el
  have bV : Mem B [] w0 Z0 ((.row b1 [.bool f.a.neg, .slice ac (gdivS f.a.abs (gcomS f.a.abs f.b.abs)).1.length ad, .bool f.b.neg, .slice h f.b.abs.length i] 75) :: Rr) bg gB := el
  apply ek
  refine sqH ?_; intro gC em
  refine bt bU bV 5 [] [] [(115, .slice aH (gdivS f.b.abs (gcomS f.a.abs f.b.abs)).1.length aI), (118, pt b1 3)] ?_; intro iE bW
  refine sx bW bV 0 [.bool f.a.neg, .slice ac (gdivS f.a.abs (gcomS f.a.abs f.b.abs)).1.length ad, .bool f.b.neg, .slice aH (gdivS f.b.abs (gcomS f.a.abs f.b.abs)).1.length aI] 3 ?_; intro gD en
  have eo : Mem B [] w0 Z0 ((.row b1 [.bool f.a.neg, .slice ac (gdivS f.a.abs (gcomS f.a.abs f.b.abs)).1.length ad, .bool f.b.neg, .slice aH (gdivS f.b.abs (gcomS f.a.abs f.b.abs)).1.length aI] 75) :: Rr) bg gD := en
  apply em
  refine sqB bW eo [] [] [(2, pt b1 0)] ?_; intro iF gE
  exact r_ (ra1 gE (pt b1 0) ⟨(⟨(⟨f.a.neg, (gdivS f.a.abs (gcomS f.a.abs f.b.abs)).1⟩ : BInt), (⟨f.b.neg, (gdivS f.b.abs (gcomS f.a.abs f.b.abs)).1⟩ : BInt)⟩ : BRat), ac, ad, aH, aI, bg, rfl, gz, j, bf, ef, eo.kp⟩)
 have ah := Fz.le.refl Z
 refine c_ b7 aK (fun _ gF => ?_) fun _ gV => ?_
 ·
  have ep : Fr 120 [] [⟨0, [], pt b1 0⟩] bj := b7.reg
  refine wp_seq (rgS mixed hM0 [(0, true), (1, true), (2, true), (3, true), (4, true), (5, true), (6, false)] [6] [] [] ?_)
  intro gG eq iG bY
  refine cS ep 6 [] [] [(26, pt b1 0), (29, pt b1 0)] ?_; intro iH es
  refine eL rfl ?_; intro gH et
  obtain ⟨gI, gJ⟩ := gF
  refine ck es 51 #[pt b1 0, pt b1 0] ?_
  refine (gnegA_fun u0 gI b1 ao2 cap3 ao5 cap6 _ _ _ _ _ _ hs4 hs7 bY bY.fz).mono ?_; rintro _ gK ⟨eu, ev, ew, ex, ey, rfl, aJ, bZ, b0, hm⟩; refine ⟨_, rfl, ?_⟩; intro gL ez; have eA := hm
  replace ah := ah.mono aJ
  have eB : Mem B [] w0 Z0 ((.row b1 (e75Nd (gnegAS u0) eu ev ew ex) 75) :: Rr) ey gK := eA
  refine nl (qnI (et _ _ ?_))
  refine nS (eq _ _ ?_)
  apply t_
  have eC : Fr 120 [] [⟨0, [], pt b1 0⟩] gL := ez.reg
  refine rgS mixed eB [(0, true), (1, true), (2, true), (3, true), (4, true), (5, true), (6, false)] [6] [] [] ?_
  intro gM eD iI b2
  refine cS eC 6 [] [] [(33, pt b1 2), (36, pt b1 2)] ?_; intro iJ eF
  refine eL rfl ?_; intro gN eG
  obtain ⟨gO, gP⟩ := gJ
  refine ck eF 51 #[pt b1 2, pt b1 2] ?_
  refine (gnegB_fun (gnegAS u0) gO b1 eu ev ew ex _ _ _ _ _ _ bZ b0 b2 b2.fz).mono ?_; rintro _ gQ ⟨eH, eI, eJ, eK, eM, rfl, af, gR, gS, hm⟩; refine ⟨_, rfl, ?_⟩; intro iK gT; have eN := hm
  replace ah := ah.mono af
  have gU : Mem B [] w0 Z0 ((.row b1 (e75Nd (gnegBS (gnegAS u0)) eH eI eJ eK) 75) :: Rr) eM gQ := eN
  refine nl (qnI (eG _ _ ?_))
  refine nS (eD _ _ ?_)
  exact d_ (b8 (gnegBS (gnegAS u0)) eH eI eJ eK eM ⟨gP, gR, gS, ah⟩ _ _ ((gT.reg).anyβ _ (by kernel_rfl)) (gU.kp))
 exact l_ (d_ (b8 u0 ao2 cap3 ao5 cap6 Z ⟨gV, hs4, hs7, ah⟩ _ _ ((b7.reg).anyβ _ (by kernel_rfl)) (hM0.kp)))

theorem rnum_walk (u0 : BRat) (b1 : Nat) (ao2 : Option Addr) (cap3 : Nat) (ao5 : Option Addr) (cap6 : Nat) (B : Nat) (w0 : World) (Z0 : Fz) (Rr : List Res) (Z : Fz) (w : World) (hs4 : SlR (tyInt .u32) Z ao2 cap3 u0.a.abs) (hs7 : SlR (tyInt .u32) Z ao5 cap6 u0.b.abs) (hM0 : Mem B [] w0 Z0 ((.row b1 [.bool u0.a.neg, .slice ao2 u0.a.abs.length cap3, .bool u0.b.neg, .slice ao5 u0.b.abs.length cap6] 75) :: Rr) Z w) (hZ : Z.on w) {K : BRat → Prop} (hp : rnum_vc u0 K) : Calls Tryz.prog 52 #[pt b1 0] w fun e w' => ∃ (r : BRat) (ao1001 : Option Addr) (cap1002 : Nat) (ao1004 : Option Addr) (cap1005 : Nat) (Z' : Fz), e = .returned (pt b1 0) ∧ K r ∧ Fz.le Z Z' ∧ SlR (tyInt .u32) Z' ao1001 cap1002 r.a.abs ∧ SlR (tyInt .u32) Z' ao1004 cap1005 r.b.abs ∧ Mem B [] w0 Z0 ((.row b1 [.bool r.a.neg, .slice ao1001 r.a.abs.length cap1002, .bool r.b.neg, .slice ao1004 r.b.abs.length cap1005] 75) :: Rr) Z' w' := by
 refine enter0 Tryz.func52 rfl rfl (by kernel_rfl) ?_; intro j c; have g := Fz.le.refl Z
 have h := hp (hs4.small) (hs7.small)
 refine sqB c hM0 [] [] [] ?_; intro k f
 refine sqB f hM0 [] [] [(2, pt b1 0)] ?_; intro l i
 exact r_ (ra1 i (pt b1 0) ⟨u0, ao2, cap3, ao5, cap6, Z, rfl, h, g, hs4, hs7, hM0.kp⟩)

theorem gi64_walk (u0 : BInt) (b1 : Nat) (ao2 : Option Addr) (cap3 : Nat) (B : Nat) (w0 : World) (Z0 : Fz) (Rr : List Res) (Z : Fz) (w : World) (hs4 : SlR (tyInt .u32) Z ao2 cap3 u0.abs) (hM0 : Mem B [] w0 Z0 ((.row b1 [.bool u0.neg, .slice ao2 u0.abs.length cap3] 73) :: Rr) Z w) (hZ : Z.on w) {K : (Int × BInt) → Prop} (hp : gi64_vc u0 K) : Calls Tryz.prog 54 #[pt b1 0] w fun e w' => ∃ (r : Int × BInt) (ao1001 : Option Addr) (cap1002 : Nat) (Z' : Fz), e = .returned (i6 r.1) ∧ K r ∧ Fz.le Z Z' ∧ SlR (tyInt .u32) Z' ao1001 cap1002 r.2.abs ∧ Mem B [] w0 Z0 ((.row b1 [.bool r.2.neg, .slice ao1001 r.2.abs.length cap1002] 73) :: Rr) Z' w' := by
 refine enter0 Tryz.func54 rfl rfl (by kernel_rfl) ?_; intro a0 N; have d := Fz.le.refl Z
 have v := hp (hs4.small)
 refine sqB N hM0 [] [] [] ?_; intro a7 O
 refine sqH ?_; intro x f
 refine s1 O 4 (pt b1 0) ?_; intro bj l
 refine ck l 85 #[pt b1 0] ?_
 refine enter0 Tryz.func85 rfl rfl (by kernel_rfl) ?_; intro aF P
 have Q : Fr 34 [] [⟨0, [], pt b1 0⟩] aF := P.reg
 refine sqB Q hM0 [] [] [] ?_; intro bk R
 refine sqB R hM0 [] [] [(3, y6 0)] ?_; intro bl S
 refine s_ (sqB S hM0 [0] [] [(9, .bool (decide ((u0.abs.length : Int) > 0)))] ?_); intro bm m
 refine c_ m v (fun _ aG => ?_) fun _ C => ?_
 ·
  refine rgH ?_; intro aH U
  refine bt m hM0 4 [0] [] [(13, .slice ao2 u0.abs.length cap3)] ?_; intro bn V
  obtain ⟨aI, W⟩ := aG
  refine ix_ V hs4 (0 : Int) aI .i64 105 4 ?_; intro bo bp aJ a bq aK aL aM X
  have y := W a aK
  obtain rfl : aJ = ([.int .u32 a] : List Value) := aM
  refine z1 X hM0 15 aL 0 (.int .u32 a) rfl ?_; intro br Y
  refine bt Y hM0 2 [] [] [(3, y6 (wu64 a))] ?_; intro bs aa
  apply U
  refine t_ (s_ (sqB aa hM0 [0] [] [(22, .bool (decide ((u0.abs.length : Int) > 1)))] ?_)); intro bu n
  refine c_ n y (fun _ aN => ?_) fun _ A => ?_
  ·
   refine rgH ?_; intro aO ab
   refine bt n hM0 5 [0] [] [(23, y6 (wu64 a)), (27, .slice ao2 u0.abs.length cap3)] ?_; intro bv ac
   obtain ⟨aP, ad⟩ := aN
   refine ix_ ac hs4 (1 : Int) aP .i64 105 4 ?_; intro bw bx aQ b bz aR aS aT ae
   have z := ad b aR
   obtain rfl : aQ = ([.int .u32 b] : List Value) := aT
   refine z1 ae hM0 29 aS 0 (.int .u32 b) rfl ?_; intro bA af
   refine bt af hM0 4 [] [] [(3, y6 (bOr .u64 (wu64 a) (bShl .u64 (wu64 b) 32)))] ?_; intro bB ag
   apply ab
   refine t_ (sqB ag hM0 [] [] [(2, y6 (bOr .u64 (wu64 a) (bShl .u64 (wu64 b) 32)))] ?_); intro bC ah
   refine r_ (ra1 ah (y6 (bOr .u64 (wu64 a) (bShl .u64 (wu64 b) 32))) ?_)
   refine ⟨_, rfl, ?_⟩; intro bD ai
   refine bt ai hM0 2 [] [] [(3, i6 (w64 (bOr .u64 (wu64 a) (bShl .u64 (wu64 b) 32))))] ?_; intro bE aj
   have g : Mem B [] w0 Z0 ((.row b1 [.bool u0.neg, .slice ao2 u0.abs.length cap3] 73) :: Rr) Z w := hM0
   apply f
   refine s_ (sqB aj g [0] [] [(10, .bool u0.neg)] ?_); intro bF o
   refine c_ o z (fun _ aU => ?_) fun _ aW => ?_
   ·
    refine rgB o g [] [] [(3, i6 (w64 (0 - (w64 (bOr .u64 (wu64 a) (bShl .u64 (wu64 b) 32))))))] ?_; intro bG ak
    refine t_ (sqB ak g [] [] [(2, i6 (w64 (0 - (w64 (bOr .u64 (wu64 a) (bShl .u64 (wu64 b) 32))))))] ?_); intro bH aV
    exact r_ (ra1 aV (i6 (w64 (0 - (w64 (bOr .u64 (wu64 a) (bShl .u64 (wu64 b) 32)))))) ⟨(w64 (0 - (w64 (bOr .u64 (wu64 a) (bShl .u64 (wu64 b) 32)))), u0), ao2, cap3, Z, rfl, aU, d, hs4, g.kp⟩)
   refine k_ (sqB o g [] [] [(2, i6 (w64 (bOr .u64 (wu64 a) (bShl .u64 (wu64 b) 32))))] ?_); intro bI aX
   exact r_ (ra1 aX (i6 (w64 (bOr .u64 (wu64 a) (bShl .u64 (wu64 b) 32)))) ⟨(w64 (bOr .u64 (wu64 a) (bShl .u64 (wu64 b) 32)), u0), ao2, cap3, Z, rfl, aW, d, hs4, g.kp⟩)
  refine k_ (sqB n hM0 [] [] [(2, y6 (wu64 a))] ?_); intro bJ al
  refine r_ (ra1 al (y6 (wu64 a)) ?_)
  refine ⟨_, rfl, ?_⟩; intro bK am
  refine bt am hM0 2 [] [] [(3, i6 (w64 (wu64 a)))] ?_; intro bL an
  have h : Mem B [] w0 Z0 ((.row b1 [.bool u0.neg, .slice ao2 u0.abs.length cap3] 73) :: Rr) Z w := hM0
  apply f
  refine s_ (sqB an h [0] [] [(10, .bool u0.neg)] ?_); intro bM p
  refine c_ p A (fun _ aY => ?_) fun _ a1 => ?_
  ·
   refine rgB p h [] [] [(3, i6 (w64 (0 - (w64 (wu64 a)))))] ?_; intro bN ao
   refine t_ (sqB ao h [] [] [(2, i6 (w64 (0 - (w64 (wu64 a)))))] ?_); intro bO aZ
   exact r_ (ra1 aZ (i6 (w64 (0 - (w64 (wu64 a))))) ⟨(w64 (0 - (w64 (wu64 a))), u0), ao2, cap3, Z, rfl, aY, d, hs4, h.kp⟩)
  refine k_ (sqB p h [] [] [(2, i6 (w64 (wu64 a)))] ?_); intro bP a2
  exact r_ (ra1 a2 (i6 (w64 (wu64 a))) ⟨(w64 (wu64 a), u0), ao2, cap3, Z, rfl, a1, d, hs4, h.kp⟩)
 refine k_ (s_ (sqB m hM0 [0] [] [(22, .bool (decide ((u0.abs.length : Int) > 1)))] ?_)); intro bQ q
 refine c_ q C (fun _ a3 => ?_) fun _ E => ?_
 ·
  refine rgH ?_; intro a4 ap
  refine bt q hM0 5 [0] [] [(23, y6 0), (27, .slice ao2 u0.abs.length cap3)] ?_; intro bR aq
  obtain ⟨a5, ar⟩ := a3
  refine ix_ aq hs4 (1 : Int) a5 .i64 105 4 ?_; intro bS bT a6 c bU a8 a9 ba au
  have D := ar c a8
  obtain rfl : a6 = ([.int .u32 c] : List Value) := ba
  refine z1 au hM0 29 a9 0 (.int .u32 c) rfl ?_; intro bV av
  refine bt av hM0 4 [] [] [(3, y6 (bOr .u64 0 (bShl .u64 (wu64 c) 32)))] ?_; intro bW aw
  apply ap
  refine t_ (sqB aw hM0 [] [] [(2, y6 (bOr .u64 0 (bShl .u64 (wu64 c) 32)))] ?_); intro bX ax
  refine r_ (ra1 ax (y6 (bOr .u64 0 (bShl .u64 (wu64 c) 32))) ?_)
  refine ⟨_, rfl, ?_⟩; intro bY ay
  refine bt ay hM0 2 [] [] [(3, i6 (w64 (bOr .u64 0 (bShl .u64 (wu64 c) 32))))] ?_; intro bZ az
  have i : Mem B [] w0 Z0 ((.row b1 [.bool u0.neg, .slice ao2 u0.abs.length cap3] 73) :: Rr) Z w := hM0
  apply f
  refine s_ (sqB az i [0] [] [(10, .bool u0.neg)] ?_); intro b0 s
  refine c_ s D (fun _ bb => ?_) fun _ bd => ?_
  ·
   refine rgB s i [] [] [(3, i6 (w64 (0 - (w64 (bOr .u64 0 (bShl .u64 (wu64 c) 32))))))] ?_; intro b2 aA
   refine t_ (sqB aA i [] [] [(2, i6 (w64 (0 - (w64 (bOr .u64 0 (bShl .u64 (wu64 c) 32))))))] ?_); intro b3 bc
   exact r_ (ra1 bc (i6 (w64 (0 - (w64 (bOr .u64 0 (bShl .u64 (wu64 c) 32)))))) ⟨(w64 (0 - (w64 (bOr .u64 0 (bShl .u64 (wu64 c) 32)))), u0), ao2, cap3, Z, rfl, bb, d, hs4, i.kp⟩)
  refine k_ (sqB s i [] [] [(2, i6 (w64 (bOr .u64 0 (bShl .u64 (wu64 c) 32))))] ?_); intro b4 be
  exact r_ (ra1 be (i6 (w64 (bOr .u64 0 (bShl .u64 (wu64 c) 32)))) ⟨(w64 (bOr .u64 0 (bShl .u64 (wu64 c) 32)), u0), ao2, cap3, Z, rfl, bd, d, hs4, i.kp⟩)
 refine k_ (sqB q hM0 [] [] [(2, y6 0)] ?_); intro b5 aB
 refine r_ (ra1 aB (y6 0) ?_)
 refine ⟨_, rfl, ?_⟩; intro b6 aC
 refine bt aC hM0 2 [] [] [(3, i6 0)] ?_; intro b7 aD
 have j : Mem B [] w0 Z0 ((.row b1 [.bool u0.neg, .slice ao2 u0.abs.length cap3] 73) :: Rr) Z w := hM0
 apply f
 refine s_ (sqB aD j [0] [] [(10, .bool u0.neg)] ?_); intro b8 u
 refine c_ u E (fun _ bf => ?_) fun _ bh => ?_
 ·
  refine rgB u j [] [] [(3, i6 0)] ?_; intro b9 aE
  refine t_ (sqB aE j [] [] [(2, i6 0)] ?_); intro ca bg
  exact r_ (ra1 bg (i6 0) ⟨(0, u0), ao2, cap3, Z, rfl, bf, d, hs4, j.kp⟩)
 refine k_ (sqB u j [] [] [(2, i6 0)] ?_); intro cb bi
 exact r_ (ra1 bi (i6 0) ⟨(0, u0), ao2, cap3, Z, rfl, bh, d, hs4, j.kp⟩)

theorem gi64A_walk (u0 : BRat) (b1 : Nat) (ao2 : Option Addr) (cap3 : Nat) (ao5 : Option Addr) (cap6 : Nat) (B : Nat) (w0 : World) (Z0 : Fz) (Rr : List Res) (Z : Fz) (w : World) (hs4 : SlR (tyInt .u32) Z ao2 cap3 u0.a.abs) (hs7 : SlR (tyInt .u32) Z ao5 cap6 u0.b.abs) (hM0 : Mem B [] w0 Z0 ((.row b1 [.bool u0.a.neg, .slice ao2 u0.a.abs.length cap3, .bool u0.b.neg, .slice ao5 u0.b.abs.length cap6] 75) :: Rr) Z w) (hZ : Z.on w) {K : (Int × BRat) → Prop} (hp : gi64A_vc u0 K) : Calls Tryz.prog 54 #[pt b1 0] w fun e w' => ∃ (r : Int × BRat) (ao1001 : Option Addr) (cap1002 : Nat) (ao1004 : Option Addr) (cap1005 : Nat) (Z' : Fz), e = .returned (i6 r.1) ∧ K r ∧ Fz.le Z Z' ∧ SlR (tyInt .u32) Z' ao1001 cap1002 r.2.a.abs ∧ SlR (tyInt .u32) Z' ao1004 cap1005 r.2.b.abs ∧ Mem B [] w0 Z0 ((.row b1 [.bool r.2.a.neg, .slice ao1001 r.2.a.abs.length cap1002, .bool r.2.b.neg, .slice ao1004 r.2.b.abs.length cap1005] 75) :: Rr) Z' w' := by
 refine enter0 Tryz.func54 rfl rfl (by kernel_rfl) ?_; intro a0 P; have g := Fz.le.refl Z
 have y := hp (hs4.small) (hs7.small)
 refine sqB P hM0 [] [] [] ?_; intro bl R
 refine sqH ?_; intro z h
 refine s1 R 4 (pt b1 0) ?_; intro bm n
 refine ck n 85 #[pt b1 0] ?_
 refine enter0 Tryz.func85 rfl rfl (by kernel_rfl) ?_; intro aI S
 have U : Fr 34 [] [⟨0, [], pt b1 0⟩] aI := S.reg
 refine sqB U hM0 [] [] [] ?_; intro bn V
 refine sqB V hM0 [] [] [(3, y6 0)] ?_; intro bo W
 refine s_ (sqB W hM0 [0] [] [(9, .bool (decide ((u0.a.abs.length : Int) > 0)))] ?_); intro bp o
 refine c_ o y (fun _ aJ => ?_) fun _ E => ?_
 ·
  refine rgH ?_; intro aK X
  refine bt o hM0 4 [0] [] [(13, .slice ao2 u0.a.abs.length cap3)] ?_; intro bq Y
  obtain ⟨aL, aa⟩ := aJ
  refine ix_ Y hs4 (0 : Int) aL .i64 105 4 ?_; intro br bs aM c bu aN aO aP ab
  have A := aa c aN
  obtain rfl : aM = ([.int .u32 c] : List Value) := aP
  refine z1 ab hM0 15 aO 0 (.int .u32 c) rfl ?_; intro bv ac
  refine bt ac hM0 2 [] [] [(3, y6 (wu64 c))] ?_; intro bw ad
  apply X
  refine t_ (s_ (sqB ad hM0 [0] [] [(22, .bool (decide ((u0.a.abs.length : Int) > 1)))] ?_)); intro bx p
  refine c_ p A (fun _ aQ => ?_) fun _ D => ?_
  ·
   refine rgH ?_; intro aR ae
   refine bt p hM0 5 [0] [] [(23, y6 (wu64 c)), (27, .slice ao2 u0.a.abs.length cap3)] ?_; intro bz af
   obtain ⟨aS, ag⟩ := aQ
   refine ix_ af hs4 (1 : Int) aS .i64 105 4 ?_; intro bA bB aT d bC aU aV aW ah
   have C := ag d aU
   obtain rfl : aT = ([.int .u32 d] : List Value) := aW
   refine z1 ah hM0 29 aV 0 (.int .u32 d) rfl ?_; intro bD ai
   refine bt ai hM0 4 [] [] [(3, y6 (bOr .u64 (wu64 c) (bShl .u64 (wu64 d) 32)))] ?_; intro bE aj
   apply ae
   refine t_ (sqB aj hM0 [] [] [(2, y6 (bOr .u64 (wu64 c) (bShl .u64 (wu64 d) 32)))] ?_); intro bF ak
   refine r_ (ra1 ak (y6 (bOr .u64 (wu64 c) (bShl .u64 (wu64 d) 32))) ?_)
   refine ⟨_, rfl, ?_⟩; intro bG al
   refine bt al hM0 2 [] [] [(3, i6 (w64 (bOr .u64 (wu64 c) (bShl .u64 (wu64 d) 32))))] ?_; intro bH am
   have i : Mem B [] w0 Z0 ((.row b1 (e75Nd u0 ao2 cap3 ao5 cap6) 75) :: Rr) Z w := hM0
   apply h
   refine s_ (sqB am i [0] [] [(10, .bool u0.a.neg)] ?_); intro bI q
   refine c_ q C (fun _ aX => ?_) fun _ aZ => ?_
   ·
    refine rgB q i [] [] [(3, i6 (w64 (0 - (w64 (bOr .u64 (wu64 c) (bShl .u64 (wu64 d) 32))))))] ?_; intro bJ an
    refine t_ (sqB an i [] [] [(2, i6 (w64 (0 - (w64 (bOr .u64 (wu64 c) (bShl .u64 (wu64 d) 32))))))] ?_); intro bK aY
    exact r_ (ra1 aY (i6 (w64 (0 - (w64 (bOr .u64 (wu64 c) (bShl .u64 (wu64 d) 32)))))) ⟨(w64 (0 - (w64 (bOr .u64 (wu64 c) (bShl .u64 (wu64 d) 32)))), u0), ao2, cap3, ao5, cap6, Z, rfl, aX, g, hs4, hs7, i.kp⟩)
   refine k_ (sqB q i [] [] [(2, i6 (w64 (bOr .u64 (wu64 c) (bShl .u64 (wu64 d) 32))))] ?_); intro bL a1
   exact r_ (ra1 a1 (i6 (w64 (bOr .u64 (wu64 c) (bShl .u64 (wu64 d) 32)))) ⟨(w64 (bOr .u64 (wu64 c) (bShl .u64 (wu64 d) 32)), u0), ao2, cap3, ao5, cap6, Z, rfl, aZ, g, hs4, hs7, i.kp⟩)
  refine k_ (sqB p hM0 [] [] [(2, y6 (wu64 c))] ?_); intro bM ao
  refine r_ (ra1 ao (y6 (wu64 c)) ?_)
  refine ⟨_, rfl, ?_⟩; intro bN ap
  refine bt ap hM0 2 [] [] [(3, i6 (w64 (wu64 c)))] ?_; intro bO aq
  have j : Mem B [] w0 Z0 ((.row b1 (e75Nd u0 ao2 cap3 ao5 cap6) 75) :: Rr) Z w := hM0
  apply h
  refine s_ (sqB aq j [0] [] [(10, .bool u0.a.neg)] ?_); intro bP s
  refine c_ s D (fun _ a2 => ?_) fun _ a4 => ?_
  ·
   refine rgB s j [] [] [(3, i6 (w64 (0 - (w64 (wu64 c)))))] ?_; intro bQ ar
   refine t_ (sqB ar j [] [] [(2, i6 (w64 (0 - (w64 (wu64 c)))))] ?_); intro bR a3
   exact r_ (ra1 a3 (i6 (w64 (0 - (w64 (wu64 c))))) ⟨(w64 (0 - (w64 (wu64 c))), u0), ao2, cap3, ao5, cap6, Z, rfl, a2, g, hs4, hs7, j.kp⟩)
  refine k_ (sqB s j [] [] [(2, i6 (w64 (wu64 c)))] ?_); intro bS a5
  exact r_ (ra1 a5 (i6 (w64 (wu64 c))) ⟨(w64 (wu64 c), u0), ao2, cap3, ao5, cap6, Z, rfl, a4, g, hs4, hs7, j.kp⟩)
 refine k_ (s_ (sqB o hM0 [0] [] [(22, .bool (decide ((u0.a.abs.length : Int) > 1)))] ?_)); intro bT u
 refine c_ u E (fun _ a6 => ?_) fun _ G => ?_
 ·
  refine rgH ?_; intro a7 au
  refine bt u hM0 5 [0] [] [(23, y6 0), (27, .slice ao2 u0.a.abs.length cap3)] ?_; intro bU av
  obtain ⟨a8, aw⟩ := a6
  refine ix_ av hs4 (1 : Int) a8 .i64 105 4 ?_; intro bV bW a9 f bX ba bb bc ax
  have F := aw f ba
  obtain rfl : a9 = ([.int .u32 f] : List Value) := bc
  refine z1 ax hM0 29 bb 0 (.int .u32 f) rfl ?_; intro bY ay
  refine bt ay hM0 4 [] [] [(3, y6 (bOr .u64 0 (bShl .u64 (wu64 f) 32)))] ?_; intro bZ az
  apply au
  refine t_ (sqB az hM0 [] [] [(2, y6 (bOr .u64 0 (bShl .u64 (wu64 f) 32)))] ?_); intro b0 aA
  refine r_ (ra1 aA (y6 (bOr .u64 0 (bShl .u64 (wu64 f) 32))) ?_)
  refine ⟨_, rfl, ?_⟩; intro b2 aB
  refine bt aB hM0 2 [] [] [(3, i6 (w64 (bOr .u64 0 (bShl .u64 (wu64 f) 32))))] ?_; intro b3 aC
  have l : Mem B [] w0 Z0 ((.row b1 (e75Nd u0 ao2 cap3 ao5 cap6) 75) :: Rr) Z w := hM0
  apply h
  refine s_ (sqB aC l [0] [] [(10, .bool u0.a.neg)] ?_); intro b4 v
  refine c_ v F (fun _ bd => ?_) fun _ bf => ?_
  ·
   refine rgB v l [] [] [(3, i6 (w64 (0 - (w64 (bOr .u64 0 (bShl .u64 (wu64 f) 32))))))] ?_; intro b5 aD
   refine t_ (sqB aD l [] [] [(2, i6 (w64 (0 - (w64 (bOr .u64 0 (bShl .u64 (wu64 f) 32))))))] ?_); intro b6 be
   exact r_ (ra1 be (i6 (w64 (0 - (w64 (bOr .u64 0 (bShl .u64 (wu64 f) 32)))))) ⟨(w64 (0 - (w64 (bOr .u64 0 (bShl .u64 (wu64 f) 32)))), u0), ao2, cap3, ao5, cap6, Z, rfl, bd, g, hs4, hs7, l.kp⟩)
  refine k_ (sqB v l [] [] [(2, i6 (w64 (bOr .u64 0 (bShl .u64 (wu64 f) 32))))] ?_); intro b7 bg
  exact r_ (ra1 bg (i6 (w64 (bOr .u64 0 (bShl .u64 (wu64 f) 32)))) ⟨(w64 (bOr .u64 0 (bShl .u64 (wu64 f) 32)), u0), ao2, cap3, ao5, cap6, Z, rfl, bf, g, hs4, hs7, l.kp⟩)
 refine k_ (sqB u hM0 [] [] [(2, y6 0)] ?_); intro b8 aE
 refine r_ (ra1 aE (y6 0) ?_)
 refine ⟨_, rfl, ?_⟩; intro b9 aF
 refine bt aF hM0 2 [] [] [(3, i6 0)] ?_; intro ca aG
 have m : Mem B [] w0 Z0 ((.row b1 (e75Nd u0 ao2 cap3 ao5 cap6) 75) :: Rr) Z w := hM0
 apply h
 refine s_ (sqB aG m [0] [] [(10, .bool u0.a.neg)] ?_); intro cb x
 refine c_ x G (fun _ bh => ?_) fun _ bj => ?_
 ·
  refine rgB x m [] [] [(3, i6 0)] ?_; intro cc aH
  refine t_ (sqB aH m [] [] [(2, i6 0)] ?_); intro ce bi
  exact r_ (ra1 bi (i6 0) ⟨(0, u0), ao2, cap3, ao5, cap6, Z, rfl, bh, g, hs4, hs7, m.kp⟩)
 refine k_ (sqB x m [] [] [(2, i6 0)] ?_); intro cf bk
 exact r_ (ra1 bk (i6 0) ⟨(0, u0), ao2, cap3, ao5, cap6, Z, rfl, bj, g, hs4, hs7, m.kp⟩)

end Go.Proofs.YtdndfbamhnchfaaGreatDoor
set_option linter.unusedVariables false
set_option linter.unusedSimpArgs false
set_option maxRecDepth 100000
set_option maxHeartbeats 0
namespace Go.Proofs.YtdndfbamhnchfaaGreatDoor
open Go.Sy Go.RowKit
abbrev e75Ne (X : BRat) (A0 : Option Addr) (C0 : Nat) (A1 : Option Addr) (C1 : Nat) : List Value := [.bool X.a.neg, .slice A0 X.a.abs.length C0, .bool X.b.neg, .slice A1 X.b.abs.length C1]
theorem gmulAB_fun (u0 : BInt) (u1 : BRat) (u2 : BRat) (hpre : bk u1.a ∧ bk u2.b) (b1 : Nat) (ao2 : Option Addr) (cap3 : Nat) (b5 : Nat) (ao6 : Option Addr) (cap7 : Nat) (ao9 : Option Addr) (cap10 : Nat) (b12 : Nat) (ao13 : Option Addr) (cap14 : Nat) (ao16 : Option Addr) (cap17 : Nat) (B : Nat) (w0 : World) (Z0 : Fz) (Rr : List Res) (Z : Fz) (w : World) (hs4 : SlR (tyInt .u32) Z ao2 cap3 u0.abs) (hs8 : SlR (tyInt .u32) Z ao6 cap7 u1.a.abs) (hs11 : SlR (tyInt .u32) Z ao9 cap10 u1.b.abs) (hs15 : SlR (tyInt .u32) Z ao13 cap14 u2.a.abs) (hs18 : SlR (tyInt .u32) Z ao16 cap17 u2.b.abs) (hM0 : Mem B [] w0 Z0 ((.row b1 [.bool u0.neg, .slice ao2 u0.abs.length cap3] 73) :: (.row b5 [.bool u1.a.neg, .slice ao6 u1.a.abs.length cap7, .bool u1.b.neg, .slice ao9 u1.b.abs.length cap10] 75) :: (.row b12 [.bool u2.a.neg, .slice ao13 u2.a.abs.length cap14, .bool u2.b.neg, .slice ao16 u2.b.abs.length cap17] 75) :: Rr) Z w) (hZ : Z.on w) : Calls Tryz.prog 75 #[pt b1 0, pt b5 0, pt b12 2] w fun e w' => ∃ (ao1001 : Option Addr) (cap1002 : Nat) (ao1004 : Option Addr) (cap1005 : Nat) (ao1007 : Option Addr) (cap1008 : Nat) (ao1010 : Option Addr) (cap1011 : Nat) (ao1013 : Option Addr) (cap1014 : Nat) (Z' : Fz), e = .returned (pt b1 0) ∧ Fz.le Z Z' ∧ SlR (tyInt .u32) Z' ao1001 cap1002 (gmulABS u0 u1 u2).1.abs ∧ SlR (tyInt .u32) Z' ao1004 cap1005 (gmulABS u0 u1 u2).2.1.a.abs ∧ SlR (tyInt .u32) Z' ao1007 cap1008 (gmulABS u0 u1 u2).2.1.b.abs ∧ SlR (tyInt .u32) Z' ao1010 cap1011 (gmulABS u0 u1 u2).2.2.a.abs ∧ SlR (tyInt .u32) Z' ao1013 cap1014 (gmulABS u0 u1 u2).2.2.b.abs ∧ Mem B [] w0 Z0 ((.row b1 [.bool (gmulABS u0 u1 u2).1.neg, .slice ao1001 (gmulABS u0 u1 u2).1.abs.length cap1002] 73) :: (.row b5 [.bool (gmulABS u0 u1 u2).2.1.a.neg, .slice ao1004 (gmulABS u0 u1 u2).2.1.a.abs.length cap1005, .bool (gmulABS u0 u1 u2).2.1.b.neg, .slice ao1007 (gmulABS u0 u1 u2).2.1.b.abs.length cap1008] 75) :: (.row b12 [.bool (gmulABS u0 u1 u2).2.2.a.neg, .slice ao1010 (gmulABS u0 u1 u2).2.2.a.abs.length cap1011, .bool (gmulABS u0 u1 u2).2.2.b.neg, .slice ao1013 (gmulABS u0 u1 u2).2.2.b.abs.length cap1014] 75) :: Rr) Z' w' :=
  (gmulAB_walk u0 u1 u2 b1 ao2 cap3 b5 ao6 cap7 ao9 cap10 b12 ao13 cap14 ao16 cap17 B w0 Z0 Rr Z w hs4 hs8 hs11 hs15 hs18 hM0 hZ (gmulAB_ok u0 u1 u2 hpre)).mono fun _ _ ⟨r, h0, h1, h2, h3, h4, h5, h6, h7, h8, h9, h10, he, hk, f0, f1, f2, f3, f4, f5, hm⟩ => by subst hk; exact ⟨h0, h1, h2, h3, h4, h5, h6, h7, h8, h9, h10, he, f0, f1, f2, f3, f4, f5, hm⟩

theorem gmulBB_fun (u0 : BInt) (u1 : BRat) (u2 : BRat) (hpre : bk u1.b ∧ bk u2.b) (b1 : Nat) (ao2 : Option Addr) (cap3 : Nat) (b5 : Nat) (ao6 : Option Addr) (cap7 : Nat) (ao9 : Option Addr) (cap10 : Nat) (b12 : Nat) (ao13 : Option Addr) (cap14 : Nat) (ao16 : Option Addr) (cap17 : Nat) (B : Nat) (w0 : World) (Z0 : Fz) (Rr : List Res) (Z : Fz) (w : World) (hs4 : SlR (tyInt .u32) Z ao2 cap3 u0.abs) (hs8 : SlR (tyInt .u32) Z ao6 cap7 u1.a.abs) (hs11 : SlR (tyInt .u32) Z ao9 cap10 u1.b.abs) (hs15 : SlR (tyInt .u32) Z ao13 cap14 u2.a.abs) (hs18 : SlR (tyInt .u32) Z ao16 cap17 u2.b.abs) (hM0 : Mem B [] w0 Z0 ((.row b1 [.bool u0.neg, .slice ao2 u0.abs.length cap3] 73) :: (.row b5 [.bool u1.a.neg, .slice ao6 u1.a.abs.length cap7, .bool u1.b.neg, .slice ao9 u1.b.abs.length cap10] 75) :: (.row b12 [.bool u2.a.neg, .slice ao13 u2.a.abs.length cap14, .bool u2.b.neg, .slice ao16 u2.b.abs.length cap17] 75) :: Rr) Z w) (hZ : Z.on w) : Calls Tryz.prog 75 #[pt b1 0, pt b5 2, pt b12 2] w fun e w' => ∃ (ao1001 : Option Addr) (cap1002 : Nat) (ao1004 : Option Addr) (cap1005 : Nat) (ao1007 : Option Addr) (cap1008 : Nat) (ao1010 : Option Addr) (cap1011 : Nat) (ao1013 : Option Addr) (cap1014 : Nat) (Z' : Fz), e = .returned (pt b1 0) ∧ Fz.le Z Z' ∧ SlR (tyInt .u32) Z' ao1001 cap1002 (gmulBBS u0 u1 u2).1.abs ∧ SlR (tyInt .u32) Z' ao1004 cap1005 (gmulBBS u0 u1 u2).2.1.a.abs ∧ SlR (tyInt .u32) Z' ao1007 cap1008 (gmulBBS u0 u1 u2).2.1.b.abs ∧ SlR (tyInt .u32) Z' ao1010 cap1011 (gmulBBS u0 u1 u2).2.2.a.abs ∧ SlR (tyInt .u32) Z' ao1013 cap1014 (gmulBBS u0 u1 u2).2.2.b.abs ∧ Mem B [] w0 Z0 ((.row b1 [.bool (gmulBBS u0 u1 u2).1.neg, .slice ao1001 (gmulBBS u0 u1 u2).1.abs.length cap1002] 73) :: (.row b5 [.bool (gmulBBS u0 u1 u2).2.1.a.neg, .slice ao1004 (gmulBBS u0 u1 u2).2.1.a.abs.length cap1005, .bool (gmulBBS u0 u1 u2).2.1.b.neg, .slice ao1007 (gmulBBS u0 u1 u2).2.1.b.abs.length cap1008] 75) :: (.row b12 [.bool (gmulBBS u0 u1 u2).2.2.a.neg, .slice ao1010 (gmulBBS u0 u1 u2).2.2.a.abs.length cap1011, .bool (gmulBBS u0 u1 u2).2.2.b.neg, .slice ao1013 (gmulBBS u0 u1 u2).2.2.b.abs.length cap1014] 75) :: Rr) Z' w' :=
  (gmulBB_walk u0 u1 u2 b1 ao2 cap3 b5 ao6 cap7 ao9 cap10 b12 ao13 cap14 ao16 cap17 B w0 Z0 Rr Z w hs4 hs8 hs11 hs15 hs18 hM0 hZ (gmulBB_ok u0 u1 u2 hpre)).mono fun _ _ ⟨r, h0, h1, h2, h3, h4, h5, h6, h7, h8, h9, h10, he, hk, f0, f1, f2, f3, f4, f5, hm⟩ => by subst hk; exact ⟨h0, h1, h2, h3, h4, h5, h6, h7, h8, h9, h10, he, f0, f1, f2, f3, f4, f5, hm⟩

theorem gaddI_fun (u0 : BInt) (u1 : BInt) (u2 : BInt) (hpre : bk u1 ∧ bk u2) (b1 : Nat) (ao2 : Option Addr) (cap3 : Nat) (b5 : Nat) (ao6 : Option Addr) (cap7 : Nat) (b9 : Nat) (ao10 : Option Addr) (cap11 : Nat) (B : Nat) (w0 : World) (Z0 : Fz) (Rr : List Res) (Z : Fz) (w : World) (hs4 : SlR (tyInt .u32) Z ao2 cap3 u0.abs) (hs8 : SlR (tyInt .u32) Z ao6 cap7 u1.abs) (hs12 : SlR (tyInt .u32) Z ao10 cap11 u2.abs) (hM0 : Mem B [] w0 Z0 ((.row b1 [.bool u0.neg, .slice ao2 u0.abs.length cap3] 73) :: (.row b5 [.bool u1.neg, .slice ao6 u1.abs.length cap7] 73) :: (.row b9 [.bool u2.neg, .slice ao10 u2.abs.length cap11] 73) :: Rr) Z w) (hZ : Z.on w) : Calls Tryz.prog 99 #[pt b1 0, pt b5 0, pt b9 0] w fun e w' => ∃ (ao1001 : Option Addr) (cap1002 : Nat) (ao1004 : Option Addr) (cap1005 : Nat) (ao1007 : Option Addr) (cap1008 : Nat) (Z' : Fz), e = .returned (pt b1 0) ∧ Fz.le Z Z' ∧ SlR (tyInt .u32) Z' ao1001 cap1002 (gaddIS u0 u1 u2).1.abs ∧ SlR (tyInt .u32) Z' ao1004 cap1005 (gaddIS u0 u1 u2).2.1.abs ∧ SlR (tyInt .u32) Z' ao1007 cap1008 (gaddIS u0 u1 u2).2.2.abs ∧ Mem B [] w0 Z0 ((.row b1 [.bool (gaddIS u0 u1 u2).1.neg, .slice ao1001 (gaddIS u0 u1 u2).1.abs.length cap1002] 73) :: (.row b5 [.bool (gaddIS u0 u1 u2).2.1.neg, .slice ao1004 (gaddIS u0 u1 u2).2.1.abs.length cap1005] 73) :: (.row b9 [.bool (gaddIS u0 u1 u2).2.2.neg, .slice ao1007 (gaddIS u0 u1 u2).2.2.abs.length cap1008] 73) :: Rr) Z' w' :=
  (gaddI_walk u0 u1 u2 b1 ao2 cap3 b5 ao6 cap7 b9 ao10 cap11 B w0 Z0 Rr Z w hs4 hs8 hs12 hM0 hZ (gaddI_ok u0 u1 u2 hpre)).mono fun _ _ ⟨r, h0, h1, h2, h3, h4, h5, h6, he, hk, f0, f1, f2, f3, hm⟩ => by subst hk; exact ⟨h0, h1, h2, h3, h4, h5, h6, he, f0, f1, f2, f3, hm⟩

def rnorm_fun (u0 : BRat) (hpre : bk u0.a ∧ bk u0.b ∧ iv u0.b ≠ 0) (b1 : Nat) (ao2 : Option Addr) (cap3 : Nat) (ao5 : Option Addr) (cap6 : Nat) (B : Nat) (w0 : World) (Z0 : Fz) (Rr : List Res) (Z : Fz) (w : World) (hs4 : SlR (tyInt .u32) Z ao2 cap3 u0.a.abs) (hs7 : SlR (tyInt .u32) Z ao5 cap6 u0.b.abs) (hM0 : Mem B [] w0 Z0 ((.row b1 [.bool u0.a.neg, .slice ao2 u0.a.abs.length cap3, .bool u0.b.neg, .slice ao5 u0.b.abs.length cap6] 75) :: Rr) Z w) (hZ : Z.on w) := fe_ (rnorm_walk u0 b1 ao2 cap3 ao5 cap6 B w0 Z0 Rr Z w hs4 hs7 hM0 hZ (rnorm_ok u0 hpre))
def rnum_fun (u0 : BRat) (b1 : Nat) (ao2 : Option Addr) (cap3 : Nat) (ao5 : Option Addr) (cap6 : Nat) (B : Nat) (w0 : World) (Z0 : Fz) (Rr : List Res) (Z : Fz) (w : World) (hs4 : SlR (tyInt .u32) Z ao2 cap3 u0.a.abs) (hs7 : SlR (tyInt .u32) Z ao5 cap6 u0.b.abs) (hM0 : Mem B [] w0 Z0 ((.row b1 [.bool u0.a.neg, .slice ao2 u0.a.abs.length cap3, .bool u0.b.neg, .slice ao5 u0.b.abs.length cap6] 75) :: Rr) Z w) (hZ : Z.on w) := fe_ (rnum_walk u0 b1 ao2 cap3 ao5 cap6 B w0 Z0 Rr Z w hs4 hs7 hM0 hZ (rnum_ok u0))
def gi64_fun (u0 : BInt) (hpre : bs u0) (b1 : Nat) (ao2 : Option Addr) (cap3 : Nat) (B : Nat) (w0 : World) (Z0 : Fz) (Rr : List Res) (Z : Fz) (w : World) (hs4 : SlR (tyInt .u32) Z ao2 cap3 u0.abs) (hM0 : Mem B [] w0 Z0 ((.row b1 [.bool u0.neg, .slice ao2 u0.abs.length cap3] 73) :: Rr) Z w) (hZ : Z.on w) := fc_ (gi64_walk u0 b1 ao2 cap3 B w0 Z0 Rr Z w hs4 hM0 hZ (gi64_ok u0 hpre))
def gi64A_fun (u0 : BRat) (hpre : bs u0.a) (b1 : Nat) (ao2 : Option Addr) (cap3 : Nat) (ao5 : Option Addr) (cap6 : Nat) (B : Nat) (w0 : World) (Z0 : Fz) (Rr : List Res) (Z : Fz) (w : World) (hs4 : SlR (tyInt .u32) Z ao2 cap3 u0.a.abs) (hs7 : SlR (tyInt .u32) Z ao5 cap6 u0.b.abs) (hM0 : Mem B [] w0 Z0 ((.row b1 [.bool u0.a.neg, .slice ao2 u0.a.abs.length cap3, .bool u0.b.neg, .slice ao5 u0.b.abs.length cap6] 75) :: Rr) Z w) (hZ : Z.on w) := fe_ (gi64A_walk u0 b1 ao2 cap3 ao5 cap6 B w0 Z0 Rr Z w hs4 hs7 hM0 hZ (gi64A_ok u0 hpre))
theorem rsf_walk (u0 : BRat) (u1 : BInt) (u2 : BInt) (b1 : Nat) (ao2 : Option Addr) (cap3 : Nat) (ao5 : Option Addr) (cap6 : Nat) (b8 : Nat) (ao9 : Option Addr) (cap10 : Nat) (b12 : Nat) (ao13 : Option Addr) (cap14 : Nat) (B : Nat) (w0 : World) (Z0 : Fz) (Rr : List Res) (Z : Fz) (w : World) (hs4 : SlR (tyInt .u32) Z ao2 cap3 u0.a.abs) (hs7 : SlR (tyInt .u32) Z ao5 cap6 u0.b.abs) (hs11 : SlR (tyInt .u32) Z ao9 cap10 u1.abs) (hs15 : SlR (tyInt .u32) Z ao13 cap14 u2.abs) (hM0 : Mem B [] w0 Z0 ((.row b1 [.bool u0.a.neg, .slice ao2 u0.a.abs.length cap3, .bool u0.b.neg, .slice ao5 u0.b.abs.length cap6] 75) :: (.row b8 [.bool u1.neg, .slice ao9 u1.abs.length cap10] 73) :: (.row b12 [.bool u2.neg, .slice ao13 u2.abs.length cap14] 73) :: Rr) Z w) (hZ : Z.on w) {K : (BRat × BInt × BInt) → Prop} (hp : rsf_vc u0 u1 u2 K) : Calls Tryz.prog 73 #[pt b1 0, pt b8 0, pt b12 0] w fun e w' => ∃ (r : BRat × BInt × BInt) (ao1001 : Option Addr) (cap1002 : Nat) (ao1004 : Option Addr) (cap1005 : Nat) (ao1007 : Option Addr) (cap1008 : Nat) (ao1010 : Option Addr) (cap1011 : Nat) (Z' : Fz), e = .returned (pt b1 0) ∧ K r ∧ Fz.le Z Z' ∧ SlR (tyInt .u32) Z' ao1001 cap1002 r.1.a.abs ∧ SlR (tyInt .u32) Z' ao1004 cap1005 r.1.b.abs ∧ SlR (tyInt .u32) Z' ao1007 cap1008 r.2.1.abs ∧ SlR (tyInt .u32) Z' ao1010 cap1011 r.2.2.abs ∧ Mem B [] w0 Z0 ((.row b1 [.bool r.1.a.neg, .slice ao1001 r.1.a.abs.length cap1002, .bool r.1.b.neg, .slice ao1004 r.1.b.abs.length cap1005] 75) :: (.row b8 [.bool r.2.1.neg, .slice ao1007 r.2.1.abs.length cap1008] 73) :: (.row b12 [.bool r.2.2.neg, .slice ao1010 r.2.2.abs.length cap1011] 73) :: Rr) Z' w' := by
 refine enter0 Tryz.func73 rfl rfl (by kernel_rfl) ?_; intro a0 X; have f := Fz.le.refl Z
 have be := hp (hs4.small) (hs7.small) (hs11.small) (hs15.small)
 refine sqB X hM0 [] [] [] ?_; intro bP ac
 refine s_ (sqB ac hM0 [2] [] [(14, .bool ((u2.abs.length : Int) == 0))] ?_); intro bQ C
 obtain ⟨bf, bg⟩ := be
 refine cn C bf ?_
 refine k_ (sqH ?_); intro bh ad
 refine nw C hM0 pb [.bool false, .slice none 0 0] 73 ?_; intro c bR bS ae D
 refine s1 ae 20 (pt b8 0) ?_; intro bT af
 refine ck af 100 #[pt c 0, pt b8 0] ?_
 refine enter0 Tryz.func100 rfl rfl (by kernel_rfl) ?_; intro bi ag
 have ah : Fr 16 [] [⟨0, [], pt c 0⟩, ⟨1, [], pt b8 0⟩] bi := ag.reg
 refine sqB ah D [] [] [] ?_; intro bj ai
 have aj : Fr 16 [] [⟨0, [], pt c 0⟩, ⟨1, [], pt b8 0⟩] bj := ai.reg
 refine wp_seq (rgS mixed D [(0, true), (1, true), (2, true), (3, true), (4, true), (5, true), (6, true), (7, true), (8, true), (9, false), (10, false), (11, true)] [] [2] [.row b8 [.bool u1.neg, .slice ao9 u1.abs.length cap10] 73] ?_)
 intro bk ak bU E
 have o := Fz.le.refl Z
 refine cS aj 9 [0, 0] [] [(5, pt c 0), (9, .bool u1.neg), (13, .slice ao9 u1.abs.length cap10)] ?_; intro bV al
 refine eS rfl ?_; intro bl am
 obtain ⟨bm, bn⟩ := bg
 refine ck al 83 #[.slice ao9 u1.abs.length cap10] ?_
 refine (gtwin_fun u1.abs bm ao9 cap10 _ _ hs11 E.fz).mono ?_; rintro _ an ⟨F, G, bo, rfl, hm⟩; refine ⟨_, rfl, ?_⟩; intro bW ao; have ap := E.callZ hm; have u := hm.ext.le
 replace hs11 := hs11.mono u
 replace hs15 := hs15.mono u
 replace o := o.mono u
 replace f := Fz.le.trans f u
 have aq : Mem B [] w0 Z0 ((.own (tyInt .u32) 105 F G (gtwinS u1.abs)) :: (.row c [.bool false, .slice none 0 0] 73) :: (.row b1 (e75Ne u0 ao2 cap3 ao5 cap6) 75) :: (.row b8 [.bool u1.neg, .slice ao9 u1.abs.length cap10] 73) :: (.row b12 [.bool u2.neg, .slice ao13 u2.abs.length cap14] 73) :: Rr) bo an := ap
 refine nl (qnI (am _ _ (aq.cst o [3]) ?_))
 refine eS rfl ?_; intro bp ar
 obtain ⟨bq, v, au, i⟩ := aq.freeze 0 rfl
 replace hs11 := hs11.mono v
 replace hs15 := hs15.mono v
 replace o := o.mono v
 replace f := Fz.le.trans f v
 have H : Mem B [] w0 Z0 ((.row c [.bool false, .slice none 0 0] 73) :: (.row b1 (e75Ne u0 ao2 cap3 ao5 cap6) 75) :: (.row b8 [.bool u1.neg, .slice ao9 u1.abs.length cap10] 73) :: (.row b12 [.bool u2.neg, .slice ao13 u2.abs.length cap14] 73) :: Rr) bq an := au
 refine ck ao 78 #[pt c 0, .bool u1.neg, .slice F (gtwinS u1.abs).length G] ?_
 refine (ggive_fun (⟨false, []⟩ : BInt) u1.neg (gtwinS u1.abs) c none 0 F G _ _ _ _ _ _ (SlR.nil _ _) i H H.fz).mono ?_; rintro _ br ⟨g, h, I, rfl, t, j, hm⟩; refine ⟨_, rfl, ?_⟩; intro bX av; have aw := hm
 replace hs11 := hs11.mono t
 replace hs15 := hs15.mono t
 replace o := o.mono t
 replace f := Fz.le.trans f t
 have J : Mem B [] w0 Z0 ((.row c [.bool (ggive (⟨false, []⟩ : BInt) u1.neg (gtwinS u1.abs)).neg, .slice g (ggive (⟨false, []⟩ : BInt) u1.neg (gtwinS u1.abs)).abs.length h] 73) :: (.row b1 (e75Ne u0 ao2 cap3 ao5 cap6) 75) :: (.row b8 [.bool u1.neg, .slice ao9 u1.abs.length cap10] 73) :: (.row b12 [.bool u2.neg, .slice ao13 u2.abs.length cap14] 73) :: Rr) I br := aw
 refine nl (qnI (ar _ _ (J.cst o [2]) ?_))
 refine cS av 1 [] [] [(4, pt c 0)] ?_; intro bY ax
 refine nS (ak _ _ ?_)
 refine t_ (r_ (ra1 ax (pt c 0) ?_))
 refine ⟨_, rfl, ?_⟩; intro bZ ay
 refine nw ay J pb [.bool false, .slice none 0 0] 73 ?_; intro d b0 bs az aA
 refine s1 az 23 (pt b12 0) ?_; intro b2 aB
 have L : Mem B [] w0 Z0 ((.row d [.bool false, .slice none 0 0] 73) :: (.row c [.bool (ggive (⟨false, []⟩ : BInt) u1.neg (gtwinS u1.abs)).neg, .slice g (ggive (⟨false, []⟩ : BInt) u1.neg (gtwinS u1.abs)).abs.length h] 73) :: (.row b1 (e75Ne u0 ao2 cap3 ao5 cap6) 75) :: (.row b8 [.bool u1.neg, .slice ao9 u1.abs.length cap10] 73) :: (.row b12 [.bool u2.neg, .slice ao13 u2.abs.length cap14] 73) :: Rr) I bs := aA
 refine ck aB 100 #[pt d 0, pt b12 0] ?_
 refine enter0 Tryz.func100 rfl rfl (by kernel_rfl) ?_; intro bu aC
 have aD : Fr 16 [] [⟨0, [], pt d 0⟩, ⟨1, [], pt b12 0⟩] bu := aC.reg
 refine sqB aD L [] [] [] ?_; intro bv aE
 have aF : Fr 16 [] [⟨0, [], pt d 0⟩, ⟨1, [], pt b12 0⟩] bv := aE.reg
 refine wp_seq (rgS mixed L [(0, true), (1, true), (2, true), (3, true), (4, true), (5, true), (6, true), (7, true), (8, true), (9, false), (10, false), (11, true)] [] [4] [.row b12 [.bool u2.neg, .slice ao13 u2.abs.length cap14] 73] ?_)
 intro bw aG b3 M
 have p := Fz.le.refl I
 refine cS aF 9 [0, 0] [] [(5, pt d 0), (9, .bool u2.neg), (13, .slice ao13 u2.abs.length cap14)] ?_; intro b4 aH
 refine eS rfl ?_; intro bx aI
 obtain ⟨bz, bA⟩ := bn
 refine ck aH 83 #[.slice ao13 u2.abs.length cap14] ?_
 refine (gtwin_fun u2.abs bz ao13 cap14 _ _ hs15 M.fz).mono ?_; rintro _ aJ ⟨N, O, bB, rfl, hm⟩; refine ⟨_, rfl, ?_⟩; intro b5 aK; have aL := M.callZ hm; have q := hm.ext.le
 replace hs11 := hs11.mono q
 replace hs15 := hs15.mono q
 replace j := j.mono q
 replace p := p.mono q
 replace f := Fz.le.trans f q
 have aM : Mem B [] w0 Z0 ((.own (tyInt .u32) 105 N O (gtwinS u2.abs)) :: (.row d [.bool false, .slice none 0 0] 73) :: (.row c [.bool (ggive (⟨false, []⟩ : BInt) u1.neg (gtwinS u1.abs)).neg, .slice g (ggive (⟨false, []⟩ : BInt) u1.neg (gtwinS u1.abs)).abs.length h] 73) :: (.row b1 (e75Ne u0 ao2 cap3 ao5 cap6) 75) :: (.row b8 [.bool u1.neg, .slice ao9 u1.abs.length cap10] 73) :: (.row b12 [.bool u2.neg, .slice ao13 u2.abs.length cap14] 73) :: Rr) bB aJ := aL
 refine nl (qnI (aI _ _ (aM.cst p [5]) ?_))
 refine eS rfl ?_; intro bC aN
 obtain ⟨bD, s, aO, x⟩ := aM.freeze 0 rfl
 replace hs11 := hs11.mono s
 replace hs15 := hs15.mono s
 replace j := j.mono s
 replace p := p.mono s
 replace f := Fz.le.trans f s
 have P : Mem B [] w0 Z0 ((.row d [.bool false, .slice none 0 0] 73) :: (.row c [.bool (ggive (⟨false, []⟩ : BInt) u1.neg (gtwinS u1.abs)).neg, .slice g (ggive (⟨false, []⟩ : BInt) u1.neg (gtwinS u1.abs)).abs.length h] 73) :: (.row b1 (e75Ne u0 ao2 cap3 ao5 cap6) 75) :: (.row b8 [.bool u1.neg, .slice ao9 u1.abs.length cap10] 73) :: (.row b12 [.bool u2.neg, .slice ao13 u2.abs.length cap14] 73) :: Rr) bD aJ := aO
 refine ck aK 78 #[pt d 0, .bool u2.neg, .slice N (gtwinS u2.abs).length O] ?_
 refine (ggive_fun (⟨false, []⟩ : BInt) u2.neg (gtwinS u2.abs) d none 0 N O _ _ _ _ _ _ (SlR.nil _ _) x P P.fz).mono ?_; rintro _ aP ⟨k, l, z, rfl, m, Q, hm⟩; refine ⟨_, rfl, ?_⟩; intro b6 aQ; have aR := hm
 replace hs11 := hs11.mono m
 replace hs15 := hs15.mono m
 replace j := j.mono m
 replace p := p.mono m
 replace f := Fz.le.trans f m
 have A : Mem B [] w0 Z0 ((.row d [.bool (ggive (⟨false, []⟩ : BInt) u2.neg (gtwinS u2.abs)).neg, .slice k (ggive (⟨false, []⟩ : BInt) u2.neg (gtwinS u2.abs)).abs.length l] 73) :: (.row c [.bool (ggive (⟨false, []⟩ : BInt) u1.neg (gtwinS u1.abs)).neg, .slice g (ggive (⟨false, []⟩ : BInt) u1.neg (gtwinS u1.abs)).abs.length h] 73) :: (.row b1 (e75Ne u0 ao2 cap3 ao5 cap6) 75) :: (.row b8 [.bool u1.neg, .slice ao9 u1.abs.length cap10] 73) :: (.row b12 [.bool u2.neg, .slice ao13 u2.abs.length cap14] 73) :: Rr) z aP := aR
 refine nl (qnI (aN _ _ (A.cst p [4]) ?_))
 refine cS aQ 1 [] [] [(4, pt d 0)] ?_; intro b7 aS
 refine nS (aG _ _ ?_)
 refine t_ (r_ (ra1 aS (pt d 0) ?_))
 refine ⟨_, rfl, ?_⟩; intro b9 aT
 refine bt aT A 2 [] [] [(7, pt c 0), (8, pt d 0)] ?_; intro ca aU
 have R : Mem B [] w0 Z0 ((.row d [.bool (ggive (⟨false, []⟩ : BInt) u2.neg (gtwinS u2.abs)).neg, .slice k (ggive (⟨false, []⟩ : BInt) u2.neg (gtwinS u2.abs)).abs.length l] 73) :: (.row c [.bool (ggive (⟨false, []⟩ : BInt) u1.neg (gtwinS u1.abs)).neg, .slice g (ggive (⟨false, []⟩ : BInt) u1.neg (gtwinS u1.abs)).abs.length h] 73) :: (.row b1 (e75Ne u0 ao2 cap3 ao5 cap6) 75) :: (.row b8 [.bool u1.neg, .slice ao9 u1.abs.length cap10] 73) :: (.row b12 [.bool u2.neg, .slice ao13 u2.abs.length cap14] 73) :: Rr) z aP := A
 apply ad
 refine sqH ?_; intro bE aV
 refine bt aU R 6 [1] [] [(28, .agg #[.bool (ggive (⟨false, []⟩ : BInt) u1.neg (gtwinS u1.abs)).neg, .slice g (ggive (⟨false, []⟩ : BInt) u1.neg (gtwinS u1.abs)).abs.length h]), (30, pt b1 0)] ?_; intro cb S
 refine sx S R 2 [.bool (ggive (⟨false, []⟩ : BInt) u1.neg (gtwinS u1.abs)).neg, .slice g (ggive (⟨false, []⟩ : BInt) u1.neg (gtwinS u1.abs)).abs.length h, .bool u0.b.neg, .slice ao5 u0.b.abs.length cap6] 0 ?_; intro bF aW
 have T : Mem B [] w0 Z0 ((.row d [.bool (ggive (⟨false, []⟩ : BInt) u2.neg (gtwinS u2.abs)).neg, .slice k (ggive (⟨false, []⟩ : BInt) u2.neg (gtwinS u2.abs)).abs.length l] 73) :: (.row c [.bool (ggive (⟨false, []⟩ : BInt) u1.neg (gtwinS u1.abs)).neg, .slice g (ggive (⟨false, []⟩ : BInt) u1.neg (gtwinS u1.abs)).abs.length h] 73) :: (.row b1 [.bool (ggive (⟨false, []⟩ : BInt) u1.neg (gtwinS u1.abs)).neg, .slice g (ggive (⟨false, []⟩ : BInt) u1.neg (gtwinS u1.abs)).abs.length h, .bool u0.b.neg, .slice ao5 u0.b.abs.length cap6] 75) :: (.row b8 [.bool u1.neg, .slice ao9 u1.abs.length cap10] 73) :: (.row b12 [.bool u2.neg, .slice ao13 u2.abs.length cap14] 73) :: Rr) z bF := aW
 apply aV
 refine sqH ?_; intro bG aX
 refine bt S T 6 [0] [] [(34, .agg #[.bool (ggive (⟨false, []⟩ : BInt) u2.neg (gtwinS u2.abs)).neg, .slice k (ggive (⟨false, []⟩ : BInt) u2.neg (gtwinS u2.abs)).abs.length l]), (36, pt b1 2)] ?_; intro cc U
 refine sx U T 2 [.bool (ggive (⟨false, []⟩ : BInt) u1.neg (gtwinS u1.abs)).neg, .slice g (ggive (⟨false, []⟩ : BInt) u1.neg (gtwinS u1.abs)).abs.length h, .bool (ggive (⟨false, []⟩ : BInt) u2.neg (gtwinS u2.abs)).neg, .slice k (ggive (⟨false, []⟩ : BInt) u2.neg (gtwinS u2.abs)).abs.length l] 2 ?_; intro bH aY
 have V : Mem B [] w0 Z0 ((.row d [.bool (ggive (⟨false, []⟩ : BInt) u2.neg (gtwinS u2.abs)).neg, .slice k (ggive (⟨false, []⟩ : BInt) u2.neg (gtwinS u2.abs)).abs.length l] 73) :: (.row c [.bool (ggive (⟨false, []⟩ : BInt) u1.neg (gtwinS u1.abs)).neg, .slice g (ggive (⟨false, []⟩ : BInt) u1.neg (gtwinS u1.abs)).abs.length h] 73) :: (.row b1 [.bool (ggive (⟨false, []⟩ : BInt) u1.neg (gtwinS u1.abs)).neg, .slice g (ggive (⟨false, []⟩ : BInt) u1.neg (gtwinS u1.abs)).abs.length h, .bool (ggive (⟨false, []⟩ : BInt) u2.neg (gtwinS u2.abs)).neg, .slice k (ggive (⟨false, []⟩ : BInt) u2.neg (gtwinS u2.abs)).abs.length l] 75) :: (.row b8 [.bool u1.neg, .slice ao9 u1.abs.length cap10] 73) :: (.row b12 [.bool u2.neg, .slice ao13 u2.abs.length cap14] 73) :: Rr) z bH := aY
 apply aX
 refine sqH ?_; intro bI aZ
 refine s1 U 37 (pt b1 0) ?_; intro cd a1
 obtain ⟨bJ, a2⟩ := bA
 refine ck a1 101 #[pt b1 0] ?_
 obtain ⟨y, bK, a3⟩ := hxq a2
 have W := rnorm_fun (⟨(ggive (⟨false, []⟩ : BInt) u1.neg (gtwinS u1.abs)), (ggive (⟨false, []⟩ : BInt) u2.neg (gtwinS u2.abs))⟩ : BRat) bJ b1 g h k l _ _ _ _ _ _ j Q (V.perm (pk 2 rfl)) V.fz; rw [bK] at W; refine W.mono ?_; rintro _ bL ⟨a4, a5, a6, a7, a8, rfl, n, a9, ba, hm⟩; refine ⟨_, rfl, ?_⟩; intro ce bb; have bc := hm
 replace hs11 := hs11.mono n
 replace hs15 := hs15.mono n
 replace f := Fz.le.trans f n
 have bM : Mem B [] w0 Z0 ((.row b1 (e75Ne y a4 a5 a6 a7) 75) :: (.row d [.bool (ggive (⟨false, []⟩ : BInt) u2.neg (gtwinS u2.abs)).neg, .slice k (ggive (⟨false, []⟩ : BInt) u2.neg (gtwinS u2.abs)).abs.length l] 73) :: (.row c [.bool (ggive (⟨false, []⟩ : BInt) u1.neg (gtwinS u1.abs)).neg, .slice g (ggive (⟨false, []⟩ : BInt) u1.neg (gtwinS u1.abs)).abs.length h] 73) :: (.row b8 [.bool u1.neg, .slice ao9 u1.abs.length cap10] 73) :: (.row b12 [.bool u2.neg, .slice ao13 u2.abs.length cap14] 73) :: Rr) a8 bL := bc
 have bN := a3 (a9.small) (ba.small)
 refine s1 bb 6 (pt b1 0) ?_; intro cf bO
 apply aZ
 exact r_ (ra1 bO (pt b1 0) ⟨(y, u1, u2), a4, a5, a6, a7, ao9, cap10, ao13, cap14, a8, rfl, bN, f, a9, ba, hs11, hs15, bM.kp⟩)

end Go.Proofs.YtdndfbamhnchfaaGreatDoor
set_option linter.unusedVariables false
set_option linter.unusedSimpArgs false
set_option maxRecDepth 100000
set_option maxHeartbeats 0
namespace Go.Proofs.YtdndfbamhnchfaaGreatDoor
open Go.Sy Go.RowKit
abbrev e75Nf (X : BRat) (A0 : Option Addr) (C0 : Nat) (A1 : Option Addr) (C1 : Nat) : List Value := [.bool X.a.neg, .slice A0 X.a.abs.length C0, .bool X.b.neg, .slice A1 X.b.abs.length C1]
theorem rsf_fun (u0 : BRat) (u1 : BInt) (u2 : BInt) (hpre : bk u1 ∧ bk u2 ∧ iv u2 ≠ 0) (b1 : Nat) (ao2 : Option Addr) (cap3 : Nat) (ao5 : Option Addr) (cap6 : Nat) (b8 : Nat) (ao9 : Option Addr) (cap10 : Nat) (b12 : Nat) (ao13 : Option Addr) (cap14 : Nat) (B : Nat) (w0 : World) (Z0 : Fz) (Rr : List Res) (Z : Fz) (w : World) (hs4 : SlR (tyInt .u32) Z ao2 cap3 u0.a.abs) (hs7 : SlR (tyInt .u32) Z ao5 cap6 u0.b.abs) (hs11 : SlR (tyInt .u32) Z ao9 cap10 u1.abs) (hs15 : SlR (tyInt .u32) Z ao13 cap14 u2.abs) (hM0 : Mem B [] w0 Z0 ((.row b1 [.bool u0.a.neg, .slice ao2 u0.a.abs.length cap3, .bool u0.b.neg, .slice ao5 u0.b.abs.length cap6] 75) :: (.row b8 [.bool u1.neg, .slice ao9 u1.abs.length cap10] 73) :: (.row b12 [.bool u2.neg, .slice ao13 u2.abs.length cap14] 73) :: Rr) Z w) (hZ : Z.on w) : Calls Tryz.prog 73 #[pt b1 0, pt b8 0, pt b12 0] w fun e w' => ∃ (ao1001 : Option Addr) (cap1002 : Nat) (ao1004 : Option Addr) (cap1005 : Nat) (ao1007 : Option Addr) (cap1008 : Nat) (ao1010 : Option Addr) (cap1011 : Nat) (Z' : Fz), e = .returned (pt b1 0) ∧ Fz.le Z Z' ∧ SlR (tyInt .u32) Z' ao1001 cap1002 (rsfS u0 u1 u2).1.a.abs ∧ SlR (tyInt .u32) Z' ao1004 cap1005 (rsfS u0 u1 u2).1.b.abs ∧ SlR (tyInt .u32) Z' ao1007 cap1008 (rsfS u0 u1 u2).2.1.abs ∧ SlR (tyInt .u32) Z' ao1010 cap1011 (rsfS u0 u1 u2).2.2.abs ∧ Mem B [] w0 Z0 ((.row b1 [.bool (rsfS u0 u1 u2).1.a.neg, .slice ao1001 (rsfS u0 u1 u2).1.a.abs.length cap1002, .bool (rsfS u0 u1 u2).1.b.neg, .slice ao1004 (rsfS u0 u1 u2).1.b.abs.length cap1005] 75) :: (.row b8 [.bool (rsfS u0 u1 u2).2.1.neg, .slice ao1007 (rsfS u0 u1 u2).2.1.abs.length cap1008] 73) :: (.row b12 [.bool (rsfS u0 u1 u2).2.2.neg, .slice ao1010 (rsfS u0 u1 u2).2.2.abs.length cap1011] 73) :: Rr) Z' w' :=
  (rsf_walk u0 u1 u2 b1 ao2 cap3 ao5 cap6 b8 ao9 cap10 b12 ao13 cap14 B w0 Z0 Rr Z w hs4 hs7 hs11 hs15 hM0 hZ (rsf_ok u0 u1 u2 hpre)).mono fun _ _ ⟨r, h0, h1, h2, h3, h4, h5, h6, h7, h8, he, hk, f0, f1, f2, f3, f4, hm⟩ => by subst hk; exact ⟨h0, h1, h2, h3, h4, h5, h6, h7, h8, he, f0, f1, f2, f3, f4, hm⟩

theorem rsf64_walk (u0 : BRat) (u1 : Int) (u2 : Int) (b1 : Nat) (ao2 : Option Addr) (cap3 : Nat) (ao5 : Option Addr) (cap6 : Nat) (B : Nat) (w0 : World) (Z0 : Fz) (Rr : List Res) (Z : Fz) (w : World) (hs4 : SlR (tyInt .u32) Z ao2 cap3 u0.a.abs) (hs7 : SlR (tyInt .u32) Z ao5 cap6 u0.b.abs) (hM0 : Mem B [] w0 Z0 ((.row b1 [.bool u0.a.neg, .slice ao2 u0.a.abs.length cap3, .bool u0.b.neg, .slice ao5 u0.b.abs.length cap6] 75) :: Rr) Z w) (hZ : Z.on w) {K : BRat → Prop} (hp : rsf64_vc u0 u1 u2 K) : Calls Tryz.prog 42 #[pt b1 0, i6 u1, i6 u2] w fun e w' => ∃ (r : BRat) (ao1001 : Option Addr) (cap1002 : Nat) (ao1004 : Option Addr) (cap1005 : Nat) (Z' : Fz), e = .returned (pt b1 0) ∧ K r ∧ Fz.le Z Z' ∧ SlR (tyInt .u32) Z' ao1001 cap1002 r.a.abs ∧ SlR (tyInt .u32) Z' ao1004 cap1005 r.b.abs ∧ Mem B [] w0 Z0 ((.row b1 [.bool r.a.neg, .slice ao1001 r.a.abs.length cap1002, .bool r.b.neg, .slice ao1004 r.b.abs.length cap1005] 75) :: Rr) Z' w' := by
 refine enter0 Tryz.func42 rfl rfl (by kernel_rfl) ?_; intro a0 s; have d := Fz.le.refl Z
 have V := hp (hs4.small) (hs7.small)
 refine sqB s hM0 [] [] [] ?_; intro au u
 refine sqH ?_; intro W v
 refine bt u hM0 2 [] [] [(7, pt b1 0), (8, i6 u1)] ?_; intro av x
 obtain ⟨X, Y⟩ := V
 refine ck x 48 #[i6 u1] ?_
 refine (gnew_fun u1 X _ _ hM0.fz).mono ?_; rintro _ aa ⟨f, k, l, ab, rfl, g, hm⟩; refine ⟨_, rfl, ?_⟩; intro aw y; have z := hM0.callZ hm; have m := hm.ext.le
 replace hs4 := hs4.mono m
 replace hs7 := hs7.mono m
 replace d := Fz.le.trans d m
 have n : Mem B [] w0 Z0 ((.row f [.bool (bz u1).neg, .slice k (bz u1).abs.length l] 73) :: (.row b1 (e75Nf u0 ao2 cap3 ao5 cap6) 75) :: Rr) ab aa := z
 refine s1 y 10 (i6 u2) ?_; intro ax A
 obtain ⟨ac, ad⟩ := Y
 refine ck A 48 #[i6 u2] ?_
 refine (gnew_fun u2 ac _ _ n.fz).mono ?_; rintro _ ae ⟨i, C, D, af, rfl, o, hm⟩; refine ⟨_, rfl, ?_⟩; intro ay E; have F := n.callZ hm; have j := hm.ext.le
 replace hs4 := hs4.mono j
 replace hs7 := hs7.mono j
 replace g := g.mono j
 replace d := Fz.le.trans d j
 have p : Mem B [] w0 Z0 ((.row i [.bool (bz u2).neg, .slice C (bz u2).abs.length D] 73) :: (.row f [.bool (bz u1).neg, .slice k (bz u1).abs.length l] 73) :: (.row b1 (e75Nf u0 ao2 cap3 ao5 cap6) 75) :: Rr) af ae := F
 obtain ⟨ag, G⟩ := ad
 refine ck E 73 #[pt b1 0, pt f 0, pt i 0] ?_
 obtain ⟨c, ah, H⟩ := hxq G
 have q := rsf_fun u0 (bz u1) (bz u2) ag b1 ao2 cap3 ao5 cap6 f k l i C D _ _ _ _ _ _ hs4 hs7 g o (p.perm ((pk 2 rfl).trans (((pk 1 rfl).trans (lpr.cons _)).cons _))) p.fz; rw [ah] at q; refine q.mono ?_; rintro _ ai ⟨I, J, L, M, aj, ak, al, am, N, rfl, h, O, P, an, ao, hm⟩; refine ⟨_, rfl, ?_⟩; intro az Q; have R := hm
 replace d := Fz.le.trans d h
 have ap : Mem B [] w0 Z0 ((.row b1 (e75Nf c.1 I J L M) 75) :: (.row f [.bool c.2.1.neg, .slice aj c.2.1.abs.length ak] 73) :: (.row i [.bool c.2.2.neg, .slice al c.2.2.abs.length am] 73) :: Rr) N ai := R
 have aq := H (O.small) (P.small) (an.small) (ao.small)
 refine s1 Q 6 (pt b1 0) ?_; intro aA ar
 apply v
 exact r_ (ra1 ar (pt b1 0) ⟨c.1, I, J, L, M, N, rfl, aq, d, O, P, ap.kp⟩)

theorem rsi_walk (u0 : BRat) (u1 : Int) (b1 : Nat) (ao2 : Option Addr) (cap3 : Nat) (ao5 : Option Addr) (cap6 : Nat) (B : Nat) (w0 : World) (Z0 : Fz) (Rr : List Res) (Z : Fz) (w : World) (hs4 : SlR (tyInt .u32) Z ao2 cap3 u0.a.abs) (hs7 : SlR (tyInt .u32) Z ao5 cap6 u0.b.abs) (hM0 : Mem B [] w0 Z0 ((.row b1 [.bool u0.a.neg, .slice ao2 u0.a.abs.length cap3, .bool u0.b.neg, .slice ao5 u0.b.abs.length cap6] 75) :: Rr) Z w) (hZ : Z.on w) {K : BRat → Prop} (hp : rsi_vc u0 u1 K) : Calls Tryz.prog 44 #[pt b1 0, i6 u1] w fun e w' => ∃ (r : BRat) (ao1001 : Option Addr) (cap1002 : Nat) (ao1004 : Option Addr) (cap1005 : Nat) (Z' : Fz), e = .returned (pt b1 0) ∧ K r ∧ Fz.le Z Z' ∧ SlR (tyInt .u32) Z' ao1001 cap1002 r.a.abs ∧ SlR (tyInt .u32) Z' ao1004 cap1005 r.b.abs ∧ Mem B [] w0 Z0 ((.row b1 [.bool r.a.neg, .slice ao1001 r.a.abs.length cap1002, .bool r.b.neg, .slice ao1004 r.b.abs.length cap1005] 75) :: Rr) Z' w' := by
 refine enter0 Tryz.func44 rfl rfl (by kernel_rfl) ?_; intro a0 s; have d := Fz.le.refl Z
 have U := hp (hs4.small) (hs7.small)
 refine sqB s hM0 [] [] [] ?_; intro ar u
 refine sqH ?_; intro V v
 refine bt u hM0 2 [] [] [(5, pt b1 0), (6, i6 u1)] ?_; intro au x
 obtain ⟨W, X⟩ := U
 refine ck x 48 #[i6 u1] ?_
 refine (gnew_fun u1 W _ _ hM0.fz).mono ?_; rintro _ Y ⟨f, k, l, aa, rfl, g, hm⟩; refine ⟨_, rfl, ?_⟩; intro av y; have z := hM0.callZ hm; have m := hm.ext.le
 replace hs4 := hs4.mono m
 replace hs7 := hs7.mono m
 replace d := Fz.le.trans d m
 have n : Mem B [] w0 Z0 ((.row f [.bool (bz u1).neg, .slice k (bz u1).abs.length l] 73) :: (.row b1 (e75Nf u0 ao2 cap3 ao5 cap6) 75) :: Rr) aa Y := z
 obtain ⟨ab, ac⟩ := X
 refine ck y 48 #[i6 1] ?_
 refine (gnew_fun 1 ab _ _ n.fz).mono ?_; rintro _ ad ⟨i, A, C, ae, rfl, o, hm⟩; refine ⟨_, rfl, ?_⟩; intro aw D; have E := n.callZ hm; have j := hm.ext.le
 replace hs4 := hs4.mono j
 replace hs7 := hs7.mono j
 replace g := g.mono j
 replace d := Fz.le.trans d j
 have p : Mem B [] w0 Z0 ((.row i [.bool (bz 1).neg, .slice A (bz 1).abs.length C] 73) :: (.row f [.bool (bz u1).neg, .slice k (bz u1).abs.length l] 73) :: (.row b1 (e75Nf u0 ao2 cap3 ao5 cap6) 75) :: Rr) ae ad := E
 obtain ⟨af, F⟩ := ac
 refine ck D 73 #[pt b1 0, pt f 0, pt i 0] ?_
 obtain ⟨c, ag, G⟩ := hxq F
 have q := rsf_fun u0 (bz u1) (bz 1) af b1 ao2 cap3 ao5 cap6 f k l i A C _ _ _ _ _ _ hs4 hs7 g o (p.perm ((pk 2 rfl).trans (((pk 1 rfl).trans (lpr.cons _)).cons _))) p.fz; rw [ag] at q; refine q.mono ?_; rintro _ ah ⟨H, I, J, L, ai, aj, ak, al, M, rfl, h, N, O, am, an, hm⟩; refine ⟨_, rfl, ?_⟩; intro ax P; have Q := hm
 replace d := Fz.le.trans d h
 have ao : Mem B [] w0 Z0 ((.row b1 (e75Nf c.1 H I J L) 75) :: (.row f [.bool c.2.1.neg, .slice ai c.2.1.abs.length aj] 73) :: (.row i [.bool c.2.2.neg, .slice ak c.2.2.abs.length al] 73) :: Rr) M ah := Q
 have ap := G (N.small) (O.small) (am.small) (an.small)
 refine s1 P 4 (pt b1 0) ?_; intro ay aq
 apply v
 exact r_ (ra1 aq (pt b1 0) ⟨c.1, H, I, J, L, M, rfl, ap, d, N, O, ao.kp⟩)

theorem radd_walk (u0 : BRat) (u2 : BRat) (b1 : Nat) (ao2 : Option Addr) (cap3 : Nat) (ao5 : Option Addr) (cap6 : Nat) (b8 : Nat) (ao9 : Option Addr) (cap10 : Nat) (ao12 : Option Addr) (cap13 : Nat) (B : Nat) (w0 : World) (Z0 : Fz) (Rr : List Res) (Z : Fz) (w : World) (hs4 : SlR (tyInt .u32) Z ao2 cap3 u0.a.abs) (hs7 : SlR (tyInt .u32) Z ao5 cap6 u0.b.abs) (hs11 : SlR (tyInt .u32) Z ao9 cap10 u2.a.abs) (hs14 : SlR (tyInt .u32) Z ao12 cap13 u2.b.abs) (hM0 : Mem B [] w0 Z0 ((.row b1 [.bool u0.a.neg, .slice ao2 u0.a.abs.length cap3, .bool u0.b.neg, .slice ao5 u0.b.abs.length cap6] 75) :: (.row b8 [.bool u2.a.neg, .slice ao9 u2.a.abs.length cap10, .bool u2.b.neg, .slice ao12 u2.b.abs.length cap13] 75) :: Rr) Z w) (hZ : Z.on w) {K : (BRat × BRat) → Prop} (hp : radd_vc u0 u2 K) : Calls Tryz.prog 69 #[pt b1 0, pt b1 0, pt b8 0] w fun e w' => ∃ (r : BRat × BRat) (ao1001 : Option Addr) (cap1002 : Nat) (ao1004 : Option Addr) (cap1005 : Nat) (ao1007 : Option Addr) (cap1008 : Nat) (ao1010 : Option Addr) (cap1011 : Nat) (Z' : Fz), e = .returned (pt b1 0) ∧ K r ∧ Fz.le Z Z' ∧ SlR (tyInt .u32) Z' ao1001 cap1002 r.1.a.abs ∧ SlR (tyInt .u32) Z' ao1004 cap1005 r.1.b.abs ∧ SlR (tyInt .u32) Z' ao1007 cap1008 r.2.a.abs ∧ SlR (tyInt .u32) Z' ao1010 cap1011 r.2.b.abs ∧ Mem B [] w0 Z0 ((.row b1 [.bool r.1.a.neg, .slice ao1001 r.1.a.abs.length cap1002, .bool r.1.b.neg, .slice ao1004 r.1.b.abs.length cap1005] 75) :: (.row b8 [.bool r.2.a.neg, .slice ao1007 r.2.a.abs.length cap1008, .bool r.2.b.neg, .slice ao1010 r.2.b.abs.length cap1011] 75) :: Rr) Z' w' := by
 refine enter0 Tryz.func69 rfl rfl (by kernel_rfl) ?_; intro a0 dV; have k := Fz.le.refl Z
 have fh := hp (hs4.small) (hs7.small) (hs11.small) (hs14.small)
 refine sqB dV hM0 [] [] [] ?_; intro ay dZ
 have fi : Fr 33 [] [⟨0, [], pt b1 0⟩, ⟨1, [], pt b1 0⟩, ⟨2, [], pt b8 0⟩] ay := dZ.reg
 obtain ⟨fj, fk⟩ := fh
 obtain ⟨fl, fm⟩ := fk
 obtain ⟨fn, fo⟩ := fm
 obtain ⟨fp, fq⟩ := fo
 obtain ⟨fr, fs⟩ := fq
 refine wp_seq (any_invE mixed [[], [], [], [2], [3], [], [5], [1, 4, 6], [], [], [9], [10], [], [7, 12], [8, 11, 13], [0, 7, 14], [0, 1, 2, 3, 4, 5, 6, 7, 8, 9, 10, 11, 12, 13, 14, 15]] 17 (fun S a w1 => ∃ (n : Nat) (l : Nat) (ad : Option Addr) (ae : Nat) (af : Option Addr) (ag : Nat) (v : Option Addr) (x : Nat) (ah : Option Addr) (ai : Nat) (aj : Option Addr) (ak : Nat) (U : Option Addr) (V : Nat) (W : Option Addr) (X : Nat) (p : Nat) (al : Option Addr) (am : Nat) (an : Option Addr) (ao : Nat) (ap : Option Addr) (aq : Nat) (y : Option Addr) (z : Nat) (C : Option Addr) (D : Nat) (N : Option Addr) (O : Nat) (P : Option Addr) (Q : Nat) (E : Option Addr) (F : Nat) (H : Option Addr) (I : Nat) (L : Option Addr) (M : Nat) (au : Value) (az : Value) (a3 : Value) (be : Value) (ba : Value) (a4 : Value) (bb : Value) (a5 : Value) (aS : Value) (aI : Value) (a6 : Value) (aT : Value) (aJ : Value) (aU : Value) (aK : Value) (aA : Value) (aw : Value) (bk : Res) (aL : Res) (R : Res) (ar : Res) (Y : Res) (m : Fz), Fz.le Z m ∧ Fr 33 [] [⟨0, [], pt b1 0⟩, ⟨1, [], pt b1 0⟩, ⟨2, [], pt b8 0⟩, ⟨7, [], au⟩, ⟨8, [], az⟩, ⟨9, [], a3⟩, ⟨10, [], be⟩, ⟨11, [], ba⟩, ⟨12, [], a4⟩, ⟨13, [], bb⟩, ⟨14, [], a5⟩, ⟨15, [], aS⟩, ⟨16, [], aI⟩, ⟨17, [], a6⟩, ⟨18, [], aT⟩, ⟨19, [], aJ⟩, ⟨20, [], aU⟩, ⟨21, [], aK⟩, ⟨22, [], aA⟩, ⟨23, [], aw⟩] a ∧ Mem B [] w0 Z0 (bk :: aL :: R :: ar :: Y :: Rr) m w1 ∧ (S 16 = true → au = pt n 0) ∧ (S 0 = true → az = pt n 0) ∧ (S 1 = true → a3 = pt l 0) ∧ (S 2 = true → be = pt b1 0) ∧ (S 3 = true → ba = pt b1 0) ∧ (S 4 = true → a4 = pt b1 0) ∧ (S 5 = true → bb = pt b8 0) ∧ (S 6 = true → a5 = pt b8 2) ∧ (S 7 = true → aS = pt l 0) ∧ (S 8 = true → aI = pt p 0) ∧ (S 9 = true → a6 = pt b8 0) ∧ (S 10 = true → aT = pt b8 0) ∧ (S 11 = true → aJ = pt b8 0) ∧ (S 12 = true → aU = pt b1 0) ∧ (S 13 = true → aK = pt b1 2) ∧ (S 14 = true → aA = pt p 0) ∧ (S 15 = true → aw = pt n 0) ∧ (S 7 = false → bk = .row b1 (e75Nf u0 ao2 cap3 ao5 cap6) 75) ∧ (S 7 = true → S 14 = false → bk = .row b8 (e75Nf ((gmulABS (⟨false, []⟩ : BInt) u0 (rdenS u2)).2.2) U V W X) 75) ∧ (S 14 = true → bk = .row b1 (e75Nf ((gmulABS (⟨false, []⟩ : BInt) (gmulABS (⟨false, []⟩ : BInt) u0 (rdenS u2)).2.2 (rdenS (gmulABS (⟨false, []⟩ : BInt) u0 (rdenS u2)).2.1)).2.2) N O P Q) 75) ∧ (S 6 = false → aL = .row b8 (e75Nf u2 ao9 cap10 ao12 cap13) 75) ∧ (S 6 = true → S 7 = false → aL = .row b8 (e75Nf (rdenS u2) ad ae af ag) 75) ∧ (S 7 = true → S 15 = false → aL = .row l [.bool (gmulABS (⟨false, []⟩ : BInt) u0 (rdenS u2)).1.neg, .slice v (gmulABS (⟨false, []⟩ : BInt) u0 (rdenS u2)).1.abs.length x] 73) ∧ (S 15 = true → aL = .row l [.bool (gaddIS (⟨false, []⟩ : BInt) (gmulABS (⟨false, []⟩ : BInt) u0 (rdenS u2)).1 (gmulABS (⟨false, []⟩ : BInt) (gmulABS (⟨false, []⟩ : BInt) u0 (rdenS u2)).2.2 (rdenS (gmulABS (⟨false, []⟩ : BInt) u0 (rdenS u2)).2.1)).1).2.1.neg, .slice H (gaddIS (⟨false, []⟩ : BInt) (gmulABS (⟨false, []⟩ : BInt) u0 (rdenS u2)).1 (gmulABS (⟨false, []⟩ : BInt) (gmulABS (⟨false, []⟩ : BInt) u0 (rdenS u2)).2.2 (rdenS (gmulABS (⟨false, []⟩ : BInt) u0 (rdenS u2)).2.1)).1).2.1.abs.length I] 73) ∧ (S 0 = false → R = .nil) ∧ (S 0 = true → S 15 = false → R = .row n [.bool false, .slice none 0 0] 73) ∧ (S 15 = true → R = .row p [.bool (gaddIS (⟨false, []⟩ : BInt) (gmulABS (⟨false, []⟩ : BInt) u0 (rdenS u2)).1 (gmulABS (⟨false, []⟩ : BInt) (gmulABS (⟨false, []⟩ : BInt) u0 (rdenS u2)).2.2 (rdenS (gmulABS (⟨false, []⟩ : BInt) u0 (rdenS u2)).2.1)).1).2.2.neg, .slice L (gaddIS (⟨false, []⟩ : BInt) (gmulABS (⟨false, []⟩ : BInt) u0 (rdenS u2)).1 (gmulABS (⟨false, []⟩ : BInt) (gmulABS (⟨false, []⟩ : BInt) u0 (rdenS u2)).2.2 (rdenS (gmulABS (⟨false, []⟩ : BInt) u0 (rdenS u2)).2.1)).1).2.2.abs.length M] 73) ∧ (S 1 = false → ar = .nil) ∧ (S 1 = true → S 7 = false → ar = .row l [.bool false, .slice none 0 0] 73) ∧ (S 7 = true → S 13 = false → ar = .row b1 (e75Nf ((gmulABS (⟨false, []⟩ : BInt) u0 (rdenS u2)).2.1) ah ai aj ak) 75) ∧ (S 13 = true → S 14 = false → ar = .row b1 (e75Nf (rdenS (gmulABS (⟨false, []⟩ : BInt) u0 (rdenS u2)).2.1) al am an ao) 75) ∧ (S 14 = true → S 15 = false → ar = .row p [.bool (gmulABS (⟨false, []⟩ : BInt) (gmulABS (⟨false, []⟩ : BInt) u0 (rdenS u2)).2.2 (rdenS (gmulABS (⟨false, []⟩ : BInt) u0 (rdenS u2)).2.1)).1.neg, .slice ap (gmulABS (⟨false, []⟩ : BInt) (gmulABS (⟨false, []⟩ : BInt) u0 (rdenS u2)).2.2 (rdenS (gmulABS (⟨false, []⟩ : BInt) u0 (rdenS u2)).2.1)).1.abs.length aq] 73) ∧ (S 15 = true → ar = .row n [.bool (gaddIS (⟨false, []⟩ : BInt) (gmulABS (⟨false, []⟩ : BInt) u0 (rdenS u2)).1 (gmulABS (⟨false, []⟩ : BInt) (gmulABS (⟨false, []⟩ : BInt) u0 (rdenS u2)).2.2 (rdenS (gmulABS (⟨false, []⟩ : BInt) u0 (rdenS u2)).2.1)).1).1.neg, .slice E (gaddIS (⟨false, []⟩ : BInt) (gmulABS (⟨false, []⟩ : BInt) u0 (rdenS u2)).1 (gmulABS (⟨false, []⟩ : BInt) (gmulABS (⟨false, []⟩ : BInt) u0 (rdenS u2)).2.2 (rdenS (gmulABS (⟨false, []⟩ : BInt) u0 (rdenS u2)).2.1)).1).1.abs.length F] 73) ∧ (S 8 = false → Y = .nil) ∧ (S 8 = true → S 14 = false → Y = .row p [.bool false, .slice none 0 0] 73) ∧ (S 14 = true → Y = .row b8 (e75Nf ((gmulABS (⟨false, []⟩ : BInt) (gmulABS (⟨false, []⟩ : BInt) u0 (rdenS u2)).2.2 (rdenS (gmulABS (⟨false, []⟩ : BInt) u0 (rdenS u2)).2.1)).2.1) y z C D) 75) ∧ (S 6 = true → SlR (tyInt .u32) m ad ae (rdenS u2).a.abs) ∧ (S 6 = true → SlR (tyInt .u32) m af ag (rdenS u2).b.abs) ∧ (S 7 = true → SlR (tyInt .u32) m v x (gmulABS (⟨false, []⟩ : BInt) u0 (rdenS u2)).1.abs) ∧ (S 7 = true → SlR (tyInt .u32) m ah ai (gmulABS (⟨false, []⟩ : BInt) u0 (rdenS u2)).2.1.a.abs) ∧ (S 7 = true → SlR (tyInt .u32) m aj ak (gmulABS (⟨false, []⟩ : BInt) u0 (rdenS u2)).2.1.b.abs) ∧ (S 7 = true → SlR (tyInt .u32) m U V (gmulABS (⟨false, []⟩ : BInt) u0 (rdenS u2)).2.2.a.abs) ∧ (S 7 = true → SlR (tyInt .u32) m W X (gmulABS (⟨false, []⟩ : BInt) u0 (rdenS u2)).2.2.b.abs) ∧ (S 13 = true → SlR (tyInt .u32) m al am (rdenS (gmulABS (⟨false, []⟩ : BInt) u0 (rdenS u2)).2.1).a.abs) ∧ (S 13 = true → SlR (tyInt .u32) m an ao (rdenS (gmulABS (⟨false, []⟩ : BInt) u0 (rdenS u2)).2.1).b.abs) ∧ (S 14 = true → SlR (tyInt .u32) m ap aq (gmulABS (⟨false, []⟩ : BInt) (gmulABS (⟨false, []⟩ : BInt) u0 (rdenS u2)).2.2 (rdenS (gmulABS (⟨false, []⟩ : BInt) u0 (rdenS u2)).2.1)).1.abs) ∧ (S 14 = true → SlR (tyInt .u32) m y z (gmulABS (⟨false, []⟩ : BInt) (gmulABS (⟨false, []⟩ : BInt) u0 (rdenS u2)).2.2 (rdenS (gmulABS (⟨false, []⟩ : BInt) u0 (rdenS u2)).2.1)).2.1.a.abs) ∧ (S 14 = true → SlR (tyInt .u32) m C D (gmulABS (⟨false, []⟩ : BInt) (gmulABS (⟨false, []⟩ : BInt) u0 (rdenS u2)).2.2 (rdenS (gmulABS (⟨false, []⟩ : BInt) u0 (rdenS u2)).2.1)).2.1.b.abs) ∧ (S 14 = true → SlR (tyInt .u32) m N O (gmulABS (⟨false, []⟩ : BInt) (gmulABS (⟨false, []⟩ : BInt) u0 (rdenS u2)).2.2 (rdenS (gmulABS (⟨false, []⟩ : BInt) u0 (rdenS u2)).2.1)).2.2.a.abs) ∧ (S 14 = true → SlR (tyInt .u32) m P Q (gmulABS (⟨false, []⟩ : BInt) (gmulABS (⟨false, []⟩ : BInt) u0 (rdenS u2)).2.2 (rdenS (gmulABS (⟨false, []⟩ : BInt) u0 (rdenS u2)).2.1)).2.2.b.abs) ∧ (S 15 = true → SlR (tyInt .u32) m E F (gaddIS (⟨false, []⟩ : BInt) (gmulABS (⟨false, []⟩ : BInt) u0 (rdenS u2)).1 (gmulABS (⟨false, []⟩ : BInt) (gmulABS (⟨false, []⟩ : BInt) u0 (rdenS u2)).2.2 (rdenS (gmulABS (⟨false, []⟩ : BInt) u0 (rdenS u2)).2.1)).1).1.abs) ∧ (S 15 = true → SlR (tyInt .u32) m H I (gaddIS (⟨false, []⟩ : BInt) (gmulABS (⟨false, []⟩ : BInt) u0 (rdenS u2)).1 (gmulABS (⟨false, []⟩ : BInt) (gmulABS (⟨false, []⟩ : BInt) u0 (rdenS u2)).2.2 (rdenS (gmulABS (⟨false, []⟩ : BInt) u0 (rdenS u2)).2.1)).1).2.1.abs) ∧ (S 15 = true → SlR (tyInt .u32) m L M (gaddIS (⟨false, []⟩ : BInt) (gmulABS (⟨false, []⟩ : BInt) u0 (rdenS u2)).1 (gmulABS (⟨false, []⟩ : BInt) (gmulABS (⟨false, []⟩ : BInt) u0 (rdenS u2)).2.2 (rdenS (gmulABS (⟨false, []⟩ : BInt) u0 (rdenS u2)).2.1)).1).2.2.abs)) ?h0 ?hs ?hE)
 case h0 =>
  have ft := fi.any 7
  have fu := ft.any 8
  have fv := fu.any 9
  have fw := fv.any 10
  have fx := fw.any 11
  have fy := fx.any 12
  have fA := fy.any 13
  have fB := fA.any 14
  have fC := fB.any 15
  have fD := fC.any 16
  have fE := fD.any 17
  have fF := fE.any 18
  have fG := fF.any 19
  have fH := fG.any 20
  have fI := fH.any 21
  have fJ := fI.any 22
  have fK := fJ.any 23
  have fL := hM0.nilRes
  have fM := fL.nilRes
  have fN := fM.nilRes
  have fO := (fN.perm ((pk 3 rfl).trans (((pk 3 rfl).trans (((pk 2 rfl).trans (((pk 1 rfl).trans (lpr.cons _)).cons _)).cons _)).cons _))).drew
  exact ⟨0, 0, none, 0, none, 0, none, 0, none, 0, none, 0, none, 0, none, 0, 0, none, 0, none, 0, none, 0, none, 0, none, 0, none, 0, none, 0, none, 0, none, 0, none, 0, ay.tmps.getD 7 undef, ay.tmps.getD 8 undef, ay.tmps.getD 9 undef, ay.tmps.getD 10 undef, ay.tmps.getD 11 undef, ay.tmps.getD 12 undef, ay.tmps.getD 13 undef, ay.tmps.getD 14 undef, ay.tmps.getD 15 undef, ay.tmps.getD 16 undef, ay.tmps.getD 17 undef, ay.tmps.getD 18 undef, ay.tmps.getD 19 undef, ay.tmps.getD 20 undef, ay.tmps.getD 21 undef, ay.tmps.getD 22 undef, ay.tmps.getD 23 undef, .row b1 (e75Nf u0 ao2 cap3 ao5 cap6) 75, .row b8 (e75Nf u2 ao9 cap10 ao12 cap13) 75, .nil, .nil, .nil, Z, Fz.le.refl _, fK.reg, fO, ff, ff, ff, ff, ff, ff, ff, ff, ff, ff, ff, ff, ff, ff, ff, ff, ff, kf, ff, ff, kf, ff, ff, ff, kf, ff, ff, kf, ff, ff, ff, ff, ff, kf, ff, ff, ff, ff, ff, ff, ff, ff, ff, ff, ff, ff, ff, ff, ff, ff, ff, ff, ff⟩
 case hs =>
  intro S hcl i o hil hi hSi hpre a w1 hI; refine Go.Sy.hid ?_; intro G hG; obtain ⟨n, l, ad, ae, af, ag, v, x, ah, ai, aj, ak, U, V, W, X, p, al, am, an, ao, ap, aq, y, z, hI⟩ := hI; obtain ⟨C, D, N, O, P, Q, E, F, H, I, L, M, au, az, a3, be, ba, a4, bb, a5, aS, aI, a6, aT, aJ, hI⟩ := hI; obtain ⟨aU, aK, aA, aw, bk, aL, R, ar, Y, m, g, hFx, hMx, d0, aB, aC, aD, aM, aV, aE, aN, bl, aF, aG, aO, hI⟩ := hI; obtain ⟨aW, aH, bu, ca, cz, bc, bB, cb, bf, bm, bv, cA, aX, aY, cB, bg, bh, bJ, b5, cC, cD, a7, a8, cc, aP, hI⟩ := hI; obtain ⟨aQ, bn, bo, bp, bq, br, bw, bx, cd, ce, cf, cg, ch, cE, cF, hI⟩ := hI; have cG := hI
  have hcase : i = 0 ∨ i = 1 ∨ i = 2 ∨ i = 3 ∨ i = 4 ∨ i = 5 ∨ i = 6 ∨ i = 7 ∨ i = 8 ∨ i = 9 ∨ i = 10 ∨ i = 11 ∨ i = 12 ∨ i = 13 ∨ i = 14 ∨ i = 15 ∨ i = 16 := by clear hi; omega
  rcases hcase with rfl | rfl | rfl | rfl | rfl | rfl | rfl | rfl | rfl | rfl | rfl | rfl | rfl | rfl | rfl | rfl | rfl
  ·
   obtain rfl := oj hi
   have bz := hSi
   have f := ngF hcl 15 0 bz
   have s := ngF hcl 16 0 bz
   obtain rfl := aX bz
   refine hG (any_step ?_); intro A J hJ
   have d1 := hMx.keep (sD (List.Sublist.cons_cons _ (sC (sD (List.Sublist.cons_cons _ (List.Sublist.refl _))))))
   refine nw hFx d1 pb [.bool false, .slice none 0 0] 73 ?_; intro cH hr ht fP fQ
   refine nl (qnI (hJ _ _ ?_))
   exact ⟨cH, l, ad, ae, af, ag, v, x, ah, ai, aj, ak, U, V, W, X, p, al, am, an, ao, ap, aq, y, z, C, D, N, O, P, Q, E, F, H, I, L, M, au, pt cH 0, a3, be, ba, a4, bb, a5, aS, aI, a6, aT, aJ, aU, aK, aA, aw, bk, aL, .row cH [.bool false, .slice none 0 0] 73, ar, Y, m, g, fP.reg, fQ.perm ((pk 1 rfl).trans (((pk 1 rfl).trans (lpr.cons _)).cons _)), (nt s), kf, aC, aD, aM, aV, aE, aN, bl, aF, aG, aO, aW, aH, bu, ca, (nt f), bc, bB, cb, bf, bm, bv, (nt f), nu, kf2, (nt f), bg, bh, bJ, b5, cC, (nt f), a7, a8, cc, aP, aQ, bn, bo, bp, bq, br, bw, bx, cd, ce, cf, cg, ch, (nt f), (nt f), (nt f)⟩
  ·
   obtain rfl := oj hi
   have ax := hSi
   have d := ngF hcl 7 1 ax
   have j := ngF hcl 13 7 d
   have c := ngF hcl 14 13 j
   have f := ngF hcl 15 7 d
   have s := ngF hcl 16 1 ax
   obtain rfl := bc d
   obtain rfl := bg ax
   refine hG (any_step ?_); intro A J hJ
   have d2 := hMx.keep (sD (List.Sublist.cons_cons _ (sD (sC (sD (List.Sublist.refl _))))))
   refine nw hFx d2 pb [.bool false, .slice none 0 0] 73 ?_; intro cI hy hz fR fS
   refine nl (qnI (hJ _ _ ?_))
   exact ⟨n, cI, ad, ae, af, ag, v, x, ah, ai, aj, ak, U, V, W, X, p, al, am, an, ao, ap, aq, y, z, C, D, N, O, P, Q, E, F, H, I, L, M, au, az, pt cI 0, be, ba, a4, bb, a5, aS, aI, a6, aT, aJ, aU, aK, aA, aw, .row b1 (e75Nf u0 ao2 cap3 ao5 cap6) 75, aL, R, .row cI [.bool false, .slice none 0 0] 73, Y, m, g, fR.reg, fS.perm ((pk 1 rfl).trans (((pk 1 rfl).trans (((pk 1 rfl).trans (lpr.cons _)).cons _)).cons _)), (nt s), aB, kf, aD, aM, aV, aE, aN, (nt d), aF, aG, aO, aW, aH, (nt j), (nt c), (nt f), kf, (fun h _ => nt d h), (nt c), bf, bm, (fun h _ => nt d h), (nt f), aX, aY, (nt f), nu, kf2, (fun h _ => nt d h), (fun h _ => nt j h), (fun h _ => nt c h), (nt f), a7, a8, (nt c), aP, aQ, (nt d), (nt d), (nt d), (nt d), (nt d), (nt j), (nt j), (nt c), (nt c), (nt c), (nt c), (nt c), (nt f), (nt f), (nt f)⟩
  ·
   obtain rfl := oj hi
   have aZ := hSi
   have aa := ngF hcl 3 2 aZ
   have ab := ngF hcl 4 3 aa
   have d := ngF hcl 7 4 ab
   have j := ngF hcl 13 7 d
   have c := ngF hcl 14 13 j
   have f := ngF hcl 15 7 d
   have s := ngF hcl 16 2 aZ
   obtain rfl := bc d
   refine hG (any_step ?_); intro A J hJ
   refine s1 hFx 10 (pt b1 0) ?_; intro hF fT
   refine nl (qnI (hJ _ _ ?_))
   exact ⟨n, l, ad, ae, af, ag, v, x, ah, ai, aj, ak, U, V, W, X, p, al, am, an, ao, ap, aq, y, z, C, D, N, O, P, Q, E, F, H, I, L, M, au, az, a3, pt b1 0, ba, a4, bb, a5, aS, aI, a6, aT, aJ, aU, aK, aA, aw, .row b1 (e75Nf u0 ao2 cap3 ao5 cap6) 75, aL, R, ar, Y, m, g, fT.reg, hMx.perm lpr, (nt s), aB, aC, kf, (nt aa), (nt ab), aE, aN, (nt d), aF, aG, aO, aW, aH, (nt j), (nt c), (nt f), kf, (fun h _ => nt d h), (nt c), bf, bm, (fun h _ => nt d h), (nt f), aX, aY, (nt f), bg, bh, (fun h _ => nt d h), (fun h _ => nt j h), (fun h _ => nt c h), (nt f), a7, a8, (nt c), aP, aQ, (nt d), (nt d), (nt d), (nt d), (nt d), (nt j), (nt j), (nt c), (nt c), (nt c), (nt c), (nt c), (nt f), (nt f), (nt f)⟩
  ·
   obtain rfl := oj hi
   have aZ := hpre 2 (by kernel_rfl)
   have aa := hSi
   have ab := ngF hcl 4 3 aa
   have d := ngF hcl 7 4 ab
   have j := ngF hcl 13 7 d
   have c := ngF hcl 14 13 j
   have f := ngF hcl 15 7 d
   have s := ngF hcl 16 3 aa
   obtain rfl := aD aZ
   obtain rfl := bc d
   refine hG (any_step ?_); intro A J hJ
   refine s1 hFx 11 (pt b1 0) ?_; intro hN fU
   refine nl (qnI (hJ _ _ ?_))
   exact ⟨n, l, ad, ae, af, ag, v, x, ah, ai, aj, ak, U, V, W, X, p, al, am, an, ao, ap, aq, y, z, C, D, N, O, P, Q, E, F, H, I, L, M, au, az, a3, pt b1 0, pt b1 0, a4, bb, a5, aS, aI, a6, aT, aJ, aU, aK, aA, aw, .row b1 (e75Nf u0 ao2 cap3 ao5 cap6) 75, aL, R, ar, Y, m, g, fU.reg, hMx.perm lpr, (nt s), aB, aC, kf, kf, (nt ab), aE, aN, (nt d), aF, aG, aO, aW, aH, (nt j), (nt c), (nt f), kf, (fun h _ => nt d h), (nt c), bf, bm, (fun h _ => nt d h), (nt f), aX, aY, (nt f), bg, bh, (fun h _ => nt d h), (fun h _ => nt j h), (fun h _ => nt c h), (nt f), a7, a8, (nt c), aP, aQ, (nt d), (nt d), (nt d), (nt d), (nt d), (nt j), (nt j), (nt c), (nt c), (nt c), (nt c), (nt c), (nt f), (nt f), (nt f)⟩
  ·
   obtain rfl := oj hi
   have aa := hpre 3 (by kernel_rfl)
   have aZ := hcl 3 2 (by kernel_rfl) aa
   have ab := hSi
   have d := ngF hcl 7 4 ab
   have j := ngF hcl 13 7 d
   have c := ngF hcl 14 13 j
   have f := ngF hcl 15 7 d
   have s := ngF hcl 16 4 ab
   obtain rfl := aD aZ
   obtain rfl := aM aa
   obtain rfl := bc d
   refine hG (any_step ?_); intro A J hJ
   refine s1 hFx 12 (pt b1 0) ?_; intro hT fV
   refine nl (qnI (hJ _ _ ?_))
   exact ⟨n, l, ad, ae, af, ag, v, x, ah, ai, aj, ak, U, V, W, X, p, al, am, an, ao, ap, aq, y, z, C, D, N, O, P, Q, E, F, H, I, L, M, au, az, a3, pt b1 0, pt b1 0, pt b1 0, bb, a5, aS, aI, a6, aT, aJ, aU, aK, aA, aw, .row b1 (e75Nf u0 ao2 cap3 ao5 cap6) 75, aL, R, ar, Y, m, g, fV.reg, hMx.perm lpr, (nt s), aB, aC, kf, kf, kf, aE, aN, (nt d), aF, aG, aO, aW, aH, (nt j), (nt c), (nt f), kf, (fun h _ => nt d h), (nt c), bf, bm, (fun h _ => nt d h), (nt f), aX, aY, (nt f), bg, bh, (fun h _ => nt d h), (fun h _ => nt j h), (fun h _ => nt c h), (nt f), a7, a8, (nt c), aP, aQ, (nt d), (nt d), (nt d), (nt d), (nt d), (nt j), (nt j), (nt c), (nt c), (nt c), (nt c), (nt c), (nt f), (nt f), (nt f)⟩
  ·
   obtain rfl := oj hi
   have bd := hSi
   have q := ngF hcl 6 5 bd
   have d := ngF hcl 7 6 q
   have j := ngF hcl 13 7 d
   have c := ngF hcl 14 13 j
   have f := ngF hcl 15 7 d
   have s := ngF hcl 16 5 bd
   obtain rfl := bc d
   obtain rfl := bf q
   refine hG (any_step ?_); intro A J hJ
   refine s1 hFx 13 (pt b8 0) ?_; intro hY fW
   refine nl (qnI (hJ _ _ ?_))
   exact ⟨n, l, ad, ae, af, ag, v, x, ah, ai, aj, ak, U, V, W, X, p, al, am, an, ao, ap, aq, y, z, C, D, N, O, P, Q, E, F, H, I, L, M, au, az, a3, be, ba, a4, pt b8 0, a5, aS, aI, a6, aT, aJ, aU, aK, aA, aw, .row b1 (e75Nf u0 ao2 cap3 ao5 cap6) 75, .row b8 (e75Nf u2 ao9 cap10 ao12 cap13) 75, R, ar, Y, m, g, fW.reg, hMx.perm lpr, (nt s), aB, aC, aD, aM, aV, kf, (nt q), (nt d), aF, aG, aO, aW, aH, (nt j), (nt c), (nt f), kf, (fun h _ => nt d h), (nt c), kf, (fun h _ => nt q h), (fun h _ => nt d h), (nt f), aX, aY, (nt f), bg, bh, (fun h _ => nt d h), (fun h _ => nt j h), (fun h _ => nt c h), (nt f), a7, a8, (nt c), (nt q), (nt q), (nt d), (nt d), (nt d), (nt d), (nt d), (nt j), (nt j), (nt c), (nt c), (nt c), (nt c), (nt c), (nt f), (nt f), (nt f)⟩
  ·
   obtain rfl := oj hi
   have bd := hpre 5 (by kernel_rfl)
   have q := hSi
   have d := ngF hcl 7 6 q
   have j := ngF hcl 13 7 d
   have c := ngF hcl 14 13 j
   have f := ngF hcl 15 7 d
   have s := ngF hcl 16 6 q
   obtain rfl := aE bd
   obtain rfl := bc d
   obtain rfl := bf q
   refine hG (any_step ?_); intro A J hJ
   have hzst := Fz.le.refl m
   have cJ := hs11.mono g
   have cK := hs14.mono g
   refine ck hFx 76 #[pt b8 0] ?_
   refine (rden_fun u2 fj b8 ao9 cap10 ao12 cap13 _ _ _ _ _ _ cJ cK (hMx.perm (pk 1 rfl)) hMx.fz).mono ?_; rintro _ fX ⟨cL, cM, cN, cO, d5, rfl, b6, fY, fZ, hm⟩; refine ⟨_, rfl, ?_⟩; intro h1 f0; have d6 := hm
   replace hzst := hzst.mono b6
   have f1 : Mem B [] w0 Z0 ((.row b8 (e75Nf (rdenS u2) cL cM cN cO) 75) :: (.row b1 (e75Nf u0 ao2 cap3 ao5 cap6) 75) :: R :: ar :: Y :: Rr) d5 fX := d6
   refine nl (qnI (hJ _ _ ?_))
   exact ⟨n, l, cL, cM, cN, cO, v, x, ah, ai, aj, ak, U, V, W, X, p, al, am, an, ao, ap, aq, y, z, C, D, N, O, P, Q, E, F, H, I, L, M, au, az, a3, be, ba, a4, pt b8 0, pt b8 2, aS, aI, a6, aT, aJ, aU, aK, aA, aw, .row b1 (e75Nf u0 ao2 cap3 ao5 cap6) 75, .row b8 (e75Nf (rdenS u2) cL cM cN cO) 75, R, ar, Y, d5, g.trans hzst, f0.reg, f1.perm ((pk 1 rfl).trans (lpr.cons _)), (nt s), aB, aC, aD, aM, aV, kf, kf, (nt d), aF, aG, aO, aW, aH, (nt j), (nt c), (nt f), kf, (fun h _ => nt d h), (nt c), nu, kf2, (fun h _ => nt d h), (nt f), aX, aY, (nt f), bg, bh, (fun h _ => nt d h), (fun h _ => nt j h), (fun h _ => nt c h), (nt f), a7, a8, (nt c), (fun _ => fY), (fun _ => fZ), (nt d), (nt d), (nt d), (nt d), (nt d), (nt j), (nt j), (nt c), (nt c), (nt c), (nt c), (nt c), (nt f), (nt f), (nt f)⟩
  ·
   obtain rfl := oj hi
   have q := hpre 6 (by kernel_rfl)
   have ab := hpre 4 (by kernel_rfl)
   have ax := hpre 1 (by kernel_rfl)
   have bd := hcl 6 5 (by kernel_rfl) q
   have aa := hcl 4 3 (by kernel_rfl) ab
   have aZ := hcl 3 2 (by kernel_rfl) aa
   have d := hSi
   have j := ngF hcl 13 7 d
   have c := ngF hcl 14 13 j
   have f := ngF hcl 15 7 d
   have s := ngF hcl 16 7 d
   obtain rfl := aC ax
   obtain rfl := aD aZ
   obtain rfl := aM aa
   obtain rfl := aV ab
   obtain rfl := aE bd
   obtain rfl := aN q
   obtain rfl := bc d
   obtain rfl := bm q d
   obtain rfl := bh ax d
   refine hG (any_step ?_); intro A J hJ
   have hzst := Fz.le.refl m
   have cP := hs4.mono g
   have cQ := hs7.mono g
   have cj := aP q
   have cl := aQ q
   refine ck hFx 75 #[pt l 0, pt b1 0, pt b8 2] ?_
   refine (gmulAB_fun (⟨false, []⟩ : BInt) u0 (rdenS u2) fl l none 0 b1 ao2 cap3 ao5 cap6 b8 ad ae af ag _ _ _ _ _ _ (SlR.nil _ _) cP cQ cj cl (hMx.perm ((pk 3 rfl).trans (lpr.cons _))) hMx.fz).mono ?_; rintro _ f2 ⟨cR, cS, cT, cU, cV, cW, cX, cY, cZ, c0, d9, rfl, bK, f3, f4, f5, f6, f7, hm⟩; refine ⟨_, rfl, ?_⟩; intro h2 f8; have ea := hm
   replace hzst := hzst.mono bK
   replace cj := cj.mono bK
   replace cl := cl.mono bK
   have f9 : Mem B [] w0 Z0 ((.row l [.bool (gmulABS (⟨false, []⟩ : BInt) u0 (rdenS u2)).1.neg, .slice cR (gmulABS (⟨false, []⟩ : BInt) u0 (rdenS u2)).1.abs.length cS] 73) :: (.row b1 (e75Nf ((gmulABS (⟨false, []⟩ : BInt) u0 (rdenS u2)).2.1) cT cU cV cW) 75) :: (.row b8 (e75Nf ((gmulABS (⟨false, []⟩ : BInt) u0 (rdenS u2)).2.2) cX cY cZ c0) 75) :: R :: Y :: Rr) d9 f2 := ea
   refine nl (qnI (hJ _ _ ?_))
   exact ⟨n, l, ad, ae, af, ag, cR, cS, cT, cU, cV, cW, cX, cY, cZ, c0, p, al, am, an, ao, ap, aq, y, z, C, D, N, O, P, Q, E, F, H, I, L, M, au, az, pt l 0, pt b1 0, pt b1 0, pt b1 0, pt b8 0, pt b8 2, pt l 0, aI, a6, aT, aJ, aU, aK, aA, aw, .row b8 (e75Nf ((gmulABS (⟨false, []⟩ : BInt) u0 (rdenS u2)).2.2) cX cY cZ c0) 75, .row l [.bool (gmulABS (⟨false, []⟩ : BInt) u0 (rdenS u2)).1.neg, .slice cR (gmulABS (⟨false, []⟩ : BInt) u0 (rdenS u2)).1.abs.length cS] 73, R, .row b1 (e75Nf ((gmulABS (⟨false, []⟩ : BInt) u0 (rdenS u2)).2.1) cT cU cV cW) 75, Y, d9, g.trans hzst, f8.reg, f9.perm ((pk 2 rfl).trans ((((pk 1 rfl).trans (lpr.cons _)).cons _).cons _)), (nt s), aB, kf, kf, kf, kf, kf, kf, kf, aF, aG, aO, aW, aH, (nt j), (nt c), (nt f), nu, kf2, (nt c), (tn q), (fun _ => nu), kf2, (nt f), aX, aY, (nt f), (tn ax), (fun _ => nu), kf2, (fun h _ => nt j h), (fun h _ => nt c h), (nt f), a7, a8, (nt c), (fun _ => cj), (fun _ => cl), (fun _ => f3), (fun _ => f4), (fun _ => f5), (fun _ => f6), (fun _ => f7), (nt j), (nt j), (nt c), (nt c), (nt c), (nt c), (nt c), (nt f), (nt f), (nt f)⟩
  ·
   obtain rfl := oj hi
   have bi := hSi
   have c := ngF hcl 14 8 bi
   have f := ngF hcl 15 14 c
   have s := ngF hcl 16 8 bi
   obtain rfl := a7 bi
   refine hG (any_step ?_); intro A J hJ
   have eb := hMx.keep (sD (List.Sublist.cons_cons _ (sD (List.Sublist.cons_cons _ (sC (List.Sublist.refl _))))))
   refine nw hFx eb pb [.bool false, .slice none 0 0] 73 ?_; intro c1 h7 h8 ga gb
   refine nl (qnI (hJ _ _ ?_))
   exact ⟨n, l, ad, ae, af, ag, v, x, ah, ai, aj, ak, U, V, W, X, c1, al, am, an, ao, ap, aq, y, z, C, D, N, O, P, Q, E, F, H, I, L, M, au, az, a3, be, ba, a4, bb, a5, aS, pt c1 0, a6, aT, aJ, aU, aK, aA, aw, bk, aL, R, ar, .row c1 [.bool false, .slice none 0 0] 73, m, g, ga.reg, gb.perm ((pk 1 rfl).trans (((pk 1 rfl).trans (((pk 1 rfl).trans (((pk 1 rfl).trans (lpr.cons _)).cons _)).cons _)).cons _)), (nt s), aB, aC, aD, aM, aV, aE, aN, bl, kf, aG, aO, aW, aH, bu, (nt c), (nt f), bc, bB, (nt c), bf, bm, bv, (nt f), aX, aY, (nt f), bg, bh, bJ, b5, (fun h _ => nt c h), (nt f), nu, kf2, (nt c), aP, aQ, bn, bo, bp, bq, br, bw, bx, (nt c), (nt c), (nt c), (nt c), (nt c), (nt f), (nt f), (nt f)⟩
  ·
   obtain rfl := oj hi
   have bs := hSi
   have a1 := ngF hcl 10 9 bs
   have a2 := ngF hcl 11 10 a1
   have c := ngF hcl 14 11 a2
   have f := ngF hcl 15 14 c
   have s := ngF hcl 16 9 bs
   refine hG (any_step ?_); intro A J hJ
   refine s1 hFx 17 (pt b8 0) ?_; intro ie gc
   refine nl (qnI (hJ _ _ ?_))
   exact ⟨n, l, ad, ae, af, ag, v, x, ah, ai, aj, ak, U, V, W, X, p, al, am, an, ao, ap, aq, y, z, C, D, N, O, P, Q, E, F, H, I, L, M, au, az, a3, be, ba, a4, bb, a5, aS, aI, pt b8 0, aT, aJ, aU, aK, aA, aw, bk, aL, R, ar, Y, m, g, gc.reg, hMx.perm lpr, (nt s), aB, aC, aD, aM, aV, aE, aN, bl, aF, kf, (nt a1), (nt a2), aH, bu, (nt c), (nt f), bc, bB, (nt c), bf, bm, bv, (nt f), aX, aY, (nt f), bg, bh, bJ, b5, (fun h _ => nt c h), (nt f), a7, a8, (nt c), aP, aQ, bn, bo, bp, bq, br, bw, bx, (nt c), (nt c), (nt c), (nt c), (nt c), (nt f), (nt f), (nt f)⟩
  ·
   obtain rfl := oj hi
   have bs := hpre 9 (by kernel_rfl)
   have a1 := hSi
   have a2 := ngF hcl 11 10 a1
   have c := ngF hcl 14 11 a2
   have f := ngF hcl 15 14 c
   have s := ngF hcl 16 10 a1
   obtain rfl := aG bs
   refine hG (any_step ?_); intro A J hJ
   refine s1 hFx 18 (pt b8 0) ?_; intro ik gd
   refine nl (qnI (hJ _ _ ?_))
   exact ⟨n, l, ad, ae, af, ag, v, x, ah, ai, aj, ak, U, V, W, X, p, al, am, an, ao, ap, aq, y, z, C, D, N, O, P, Q, E, F, H, I, L, M, au, az, a3, be, ba, a4, bb, a5, aS, aI, pt b8 0, pt b8 0, aJ, aU, aK, aA, aw, bk, aL, R, ar, Y, m, g, gd.reg, hMx.perm lpr, (nt s), aB, aC, aD, aM, aV, aE, aN, bl, aF, kf, kf, (nt a2), aH, bu, (nt c), (nt f), bc, bB, (nt c), bf, bm, bv, (nt f), aX, aY, (nt f), bg, bh, bJ, b5, (fun h _ => nt c h), (nt f), a7, a8, (nt c), aP, aQ, bn, bo, bp, bq, br, bw, bx, (nt c), (nt c), (nt c), (nt c), (nt c), (nt f), (nt f), (nt f)⟩
  ·
   obtain rfl := oj hi
   have a1 := hpre 10 (by kernel_rfl)
   have bs := hcl 10 9 (by kernel_rfl) a1
   have a2 := hSi
   have c := ngF hcl 14 11 a2
   have f := ngF hcl 15 14 c
   have s := ngF hcl 16 11 a2
   obtain rfl := aG bs
   obtain rfl := aO a1
   refine hG (any_step ?_); intro A J hJ
   refine s1 hFx 19 (pt b8 0) ?_; intro iq ge
   refine nl (qnI (hJ _ _ ?_))
   exact ⟨n, l, ad, ae, af, ag, v, x, ah, ai, aj, ak, U, V, W, X, p, al, am, an, ao, ap, aq, y, z, C, D, N, O, P, Q, E, F, H, I, L, M, au, az, a3, be, ba, a4, bb, a5, aS, aI, pt b8 0, pt b8 0, pt b8 0, aU, aK, aA, aw, bk, aL, R, ar, Y, m, g, ge.reg, hMx.perm lpr, (nt s), aB, aC, aD, aM, aV, aE, aN, bl, aF, kf, kf, kf, aH, bu, (nt c), (nt f), bc, bB, (nt c), bf, bm, bv, (nt f), aX, aY, (nt f), bg, bh, bJ, b5, (fun h _ => nt c h), (nt f), a7, a8, (nt c), aP, aQ, bn, bo, bp, bq, br, bw, bx, (nt c), (nt c), (nt c), (nt c), (nt c), (nt f), (nt f), (nt f)⟩
  ·
   obtain rfl := oj hi
   have bA := hSi
   have j := ngF hcl 13 12 bA
   have c := ngF hcl 14 13 j
   have f := ngF hcl 15 14 c
   have s := ngF hcl 16 12 bA
   refine hG (any_step ?_); intro A J hJ
   refine s1 hFx 20 (pt b1 0) ?_; intro iw gf
   refine nl (qnI (hJ _ _ ?_))
   exact ⟨n, l, ad, ae, af, ag, v, x, ah, ai, aj, ak, U, V, W, X, p, al, am, an, ao, ap, aq, y, z, C, D, N, O, P, Q, E, F, H, I, L, M, au, az, a3, be, ba, a4, bb, a5, aS, aI, a6, aT, aJ, pt b1 0, aK, aA, aw, bk, aL, R, ar, Y, m, g, gf.reg, hMx.perm lpr, (nt s), aB, aC, aD, aM, aV, aE, aN, bl, aF, aG, aO, aW, kf, (nt j), (nt c), (nt f), bc, bB, (nt c), bf, bm, bv, (nt f), aX, aY, (nt f), bg, bh, bJ, (fun h _ => nt j h), (fun h _ => nt c h), (nt f), a7, a8, (nt c), aP, aQ, bn, bo, bp, bq, br, (nt j), (nt j), (nt c), (nt c), (nt c), (nt c), (nt c), (nt f), (nt f), (nt f)⟩
  ·
   obtain rfl := oj hi
   have bA := hpre 12 (by kernel_rfl)
   have d := hpre 7 (by kernel_rfl)
   have q := hcl 7 6 (by kernel_rfl) d
   have ab := hcl 7 4 (by kernel_rfl) d
   have ax := hcl 7 1 (by kernel_rfl) d
   have bd := hcl 6 5 (by kernel_rfl) q
   have aa := hcl 4 3 (by kernel_rfl) ab
   have aZ := hcl 3 2 (by kernel_rfl) aa
   have j := hSi
   have c := ngF hcl 14 13 j
   have f := ngF hcl 15 14 c
   have s := ngF hcl 16 13 j
   obtain rfl := aC ax
   obtain rfl := aD aZ
   obtain rfl := aM aa
   obtain rfl := aV ab
   obtain rfl := aE bd
   obtain rfl := aN q
   obtain rfl := bl d
   obtain rfl := aH bA
   obtain rfl := bB d c
   obtain rfl := bv d f
   obtain rfl := bJ d j
   refine hG (any_step ?_); intro A J hJ
   have hzst := Fz.le.refl m
   have c2 := aP q
   have c3 := aQ q
   have c4 := bn d
   have cm := bo d
   have cn := bp d
   have c5 := bq d
   have c6 := br d
   refine ck hFx 76 #[pt b1 0] ?_
   refine (rden_fun (gmulABS (⟨false, []⟩ : BInt) u0 (rdenS u2)).2.1 fn b1 ah ai aj ak _ _ _ _ _ _ cm cn (hMx.perm (pk 3 rfl)) hMx.fz).mono ?_; rintro _ gg ⟨c7, c8, c9, da, eg, rfl, bj, gh, gi, hm⟩; refine ⟨_, rfl, ?_⟩; intro ix gj; have eh := hm
   replace hzst := hzst.mono bj
   replace c2 := c2.mono bj
   replace c3 := c3.mono bj
   replace c4 := c4.mono bj
   replace cm := cm.mono bj
   replace cn := cn.mono bj
   replace c5 := c5.mono bj
   replace c6 := c6.mono bj
   have gk : Mem B [] w0 Z0 ((.row b1 (e75Nf (rdenS (gmulABS (⟨false, []⟩ : BInt) u0 (rdenS u2)).2.1) c7 c8 c9 da) 75) :: (.row b8 (e75Nf ((gmulABS (⟨false, []⟩ : BInt) u0 (rdenS u2)).2.2) U V W X) 75) :: (.row l [.bool (gmulABS (⟨false, []⟩ : BInt) u0 (rdenS u2)).1.neg, .slice v (gmulABS (⟨false, []⟩ : BInt) u0 (rdenS u2)).1.abs.length x] 73) :: R :: Y :: Rr) eg gg := eh
   refine nl (qnI (hJ _ _ ?_))
   exact ⟨n, l, ad, ae, af, ag, v, x, ah, ai, aj, ak, U, V, W, X, p, c7, c8, c9, da, ap, aq, y, z, C, D, N, O, P, Q, E, F, H, I, L, M, au, az, pt l 0, pt b1 0, pt b1 0, pt b1 0, pt b8 0, pt b8 2, pt l 0, aI, a6, aT, aJ, pt b1 0, pt b1 2, aA, aw, .row b8 (e75Nf ((gmulABS (⟨false, []⟩ : BInt) u0 (rdenS u2)).2.2) U V W X) 75, .row l [.bool (gmulABS (⟨false, []⟩ : BInt) u0 (rdenS u2)).1.neg, .slice v (gmulABS (⟨false, []⟩ : BInt) u0 (rdenS u2)).1.abs.length x] 73, R, .row b1 (e75Nf (rdenS (gmulABS (⟨false, []⟩ : BInt) u0 (rdenS u2)).2.1) c7 c8 c9 da) 75, Y, eg, g.trans hzst, gj.reg, gk.perm ((pk 1 rfl).trans (((pk 1 rfl).trans (((pk 1 rfl).trans (lpr.cons _)).cons _)).cons _)), (nt s), aB, kf, kf, kf, kf, kf, kf, kf, aF, aG, aO, aW, kf, kf, (nt c), (nt f), (tn d), kf2, (nt c), (tn q), (fun _ => tn d), kf2, (nt f), aX, aY, (nt f), (tn ax), (fun _ => tn d), (fun _ => nu), kf2, (fun h _ => nt c h), (nt f), a7, a8, (nt c), (fun _ => c2), (fun _ => c3), (fun _ => c4), (fun _ => cm), (fun _ => cn), (fun _ => c5), (fun _ => c6), (fun _ => gh), (fun _ => gi), (nt c), (nt c), (nt c), (nt c), (nt c), (nt f), (nt f), (nt f)⟩
  ·
   obtain rfl := oj hi
   have j := hpre 13 (by kernel_rfl)
   have a2 := hpre 11 (by kernel_rfl)
   have bi := hpre 8 (by kernel_rfl)
   have bA := hcl 13 12 (by kernel_rfl) j
   have d := hcl 13 7 (by kernel_rfl) j
   have a1 := hcl 11 10 (by kernel_rfl) a2
   have q := hcl 7 6 (by kernel_rfl) d
   have ab := hcl 7 4 (by kernel_rfl) d
   have ax := hcl 7 1 (by kernel_rfl) d
   have bs := hcl 10 9 (by kernel_rfl) a1
   have bd := hcl 6 5 (by kernel_rfl) q
   have aa := hcl 4 3 (by kernel_rfl) ab
   have aZ := hcl 3 2 (by kernel_rfl) aa
   have c := hSi
   have f := ngF hcl 15 14 c
   have s := ngF hcl 16 14 c
   obtain rfl := aC ax
   obtain rfl := aD aZ
   obtain rfl := aM aa
   obtain rfl := aV ab
   obtain rfl := aE bd
   obtain rfl := aN q
   obtain rfl := bl d
   obtain rfl := aF bi
   obtain rfl := aG bs
   obtain rfl := aO a1
   obtain rfl := aW a2
   obtain rfl := aH bA
   obtain rfl := bu j
   obtain rfl := bB d c
   obtain rfl := bv d f
   obtain rfl := b5 j c
   obtain rfl := a8 bi c
   refine hG (any_step ?_); intro A J hJ
   have hzst := Fz.le.refl m
   have db := aP q
   have dc := aQ q
   have dd := bn d
   have de := bo d
   have df := bp d
   have co := bq d
   have cp := br d
   have cq := bw j
   have cr := bx j
   refine ck hFx 75 #[pt p 0, pt b8 0, pt b1 2] ?_
   refine (gmulAB_fun (⟨false, []⟩ : BInt) (gmulABS (⟨false, []⟩ : BInt) u0 (rdenS u2)).2.2 (rdenS (gmulABS (⟨false, []⟩ : BInt) u0 (rdenS u2)).2.1) fp p none 0 b8 U V W X b1 al am an ao _ _ _ _ _ _ (SlR.nil _ _) co cp cq cr (hMx.perm ((pk 4 rfl).trans ((((pk 2 rfl).trans (lpr.cons _)).cons _).cons _))) hMx.fz).mono ?_; rintro _ gl ⟨dg, dh, di, dj, dk, dl, dm, dn, dp, dq, em, rfl, a9, gm, gn, go, gp, gq, hm⟩; refine ⟨_, rfl, ?_⟩; intro iy gr; have en := hm
   replace hzst := hzst.mono a9
   replace db := db.mono a9
   replace dc := dc.mono a9
   replace dd := dd.mono a9
   replace de := de.mono a9
   replace df := df.mono a9
   replace co := co.mono a9
   replace cp := cp.mono a9
   replace cq := cq.mono a9
   replace cr := cr.mono a9
   have gs : Mem B [] w0 Z0 ((.row p [.bool (gmulABS (⟨false, []⟩ : BInt) (gmulABS (⟨false, []⟩ : BInt) u0 (rdenS u2)).2.2 (rdenS (gmulABS (⟨false, []⟩ : BInt) u0 (rdenS u2)).2.1)).1.neg, .slice dg (gmulABS (⟨false, []⟩ : BInt) (gmulABS (⟨false, []⟩ : BInt) u0 (rdenS u2)).2.2 (rdenS (gmulABS (⟨false, []⟩ : BInt) u0 (rdenS u2)).2.1)).1.abs.length dh] 73) :: (.row b8 (e75Nf ((gmulABS (⟨false, []⟩ : BInt) (gmulABS (⟨false, []⟩ : BInt) u0 (rdenS u2)).2.2 (rdenS (gmulABS (⟨false, []⟩ : BInt) u0 (rdenS u2)).2.1)).2.1) di dj dk dl) 75) :: (.row b1 (e75Nf ((gmulABS (⟨false, []⟩ : BInt) (gmulABS (⟨false, []⟩ : BInt) u0 (rdenS u2)).2.2 (rdenS (gmulABS (⟨false, []⟩ : BInt) u0 (rdenS u2)).2.1)).2.2) dm dn dp dq) 75) :: (.row l [.bool (gmulABS (⟨false, []⟩ : BInt) u0 (rdenS u2)).1.neg, .slice v (gmulABS (⟨false, []⟩ : BInt) u0 (rdenS u2)).1.abs.length x] 73) :: R :: Rr) em gl := en
   refine nl (qnI (hJ _ _ ?_))
   exact ⟨n, l, ad, ae, af, ag, v, x, ah, ai, aj, ak, U, V, W, X, p, al, am, an, ao, dg, dh, di, dj, dk, dl, dm, dn, dp, dq, E, F, H, I, L, M, au, az, pt l 0, pt b1 0, pt b1 0, pt b1 0, pt b8 0, pt b8 2, pt l 0, pt p 0, pt b8 0, pt b8 0, pt b8 0, pt b1 0, pt b1 2, pt p 0, aw, .row b1 (e75Nf ((gmulABS (⟨false, []⟩ : BInt) (gmulABS (⟨false, []⟩ : BInt) u0 (rdenS u2)).2.2 (rdenS (gmulABS (⟨false, []⟩ : BInt) u0 (rdenS u2)).2.1)).2.2) dm dn dp dq) 75, .row l [.bool (gmulABS (⟨false, []⟩ : BInt) u0 (rdenS u2)).1.neg, .slice v (gmulABS (⟨false, []⟩ : BInt) u0 (rdenS u2)).1.abs.length x] 73, R, .row p [.bool (gmulABS (⟨false, []⟩ : BInt) (gmulABS (⟨false, []⟩ : BInt) u0 (rdenS u2)).2.2 (rdenS (gmulABS (⟨false, []⟩ : BInt) u0 (rdenS u2)).2.1)).1.neg, .slice dg (gmulABS (⟨false, []⟩ : BInt) (gmulABS (⟨false, []⟩ : BInt) u0 (rdenS u2)).2.2 (rdenS (gmulABS (⟨false, []⟩ : BInt) u0 (rdenS u2)).2.1)).1.abs.length dh] 73, .row b8 (e75Nf ((gmulABS (⟨false, []⟩ : BInt) (gmulABS (⟨false, []⟩ : BInt) u0 (rdenS u2)).2.2 (rdenS (gmulABS (⟨false, []⟩ : BInt) u0 (rdenS u2)).2.1)).2.1) di dj dk dl) 75, em, g.trans hzst, gr.reg, gs.perm ((pk 2 rfl).trans (((pk 2 rfl).trans (((pk 2 rfl).trans (lpr.cons _)).cons _)).cons _)), (nt s), aB, kf, kf, kf, kf, kf, kf, kf, kf, kf, kf, kf, kf, kf, kf, (nt f), (tn d), (fun _ => nu), kf, (tn q), (fun _ => tn d), kf2, (nt f), aX, aY, (nt f), (tn ax), (fun _ => tn d), (fun _ => tn j), (fun _ => nu), kf2, (nt f), (tn bi), (fun _ => nu), kf, (fun _ => db), (fun _ => dc), (fun _ => dd), (fun _ => de), (fun _ => df), (fun _ => co), (fun _ => cp), (fun _ => cq), (fun _ => cr), (fun _ => gm), (fun _ => gn), (fun _ => go), (fun _ => gp), (fun _ => gq), (nt f), (nt f), (nt f)⟩
  ·
   obtain rfl := oj hi
   have c := hpre 14 (by kernel_rfl)
   have d := hpre 7 (by kernel_rfl)
   have bz := hpre 0 (by kernel_rfl)
   have j := hcl 14 13 (by kernel_rfl) c
   have a2 := hcl 14 11 (by kernel_rfl) c
   have bi := hcl 14 8 (by kernel_rfl) c
   have q := hcl 7 6 (by kernel_rfl) d
   have ab := hcl 7 4 (by kernel_rfl) d
   have ax := hcl 7 1 (by kernel_rfl) d
   have bA := hcl 13 12 (by kernel_rfl) j
   have a1 := hcl 11 10 (by kernel_rfl) a2
   have bd := hcl 6 5 (by kernel_rfl) q
   have aa := hcl 4 3 (by kernel_rfl) ab
   have bs := hcl 10 9 (by kernel_rfl) a1
   have aZ := hcl 3 2 (by kernel_rfl) aa
   have f := hSi
   have s := ngF hcl 16 15 f
   obtain rfl := aB bz
   obtain rfl := aC ax
   obtain rfl := aD aZ
   obtain rfl := aM aa
   obtain rfl := aV ab
   obtain rfl := aE bd
   obtain rfl := aN q
   obtain rfl := bl d
   obtain rfl := aF bi
   obtain rfl := aG bs
   obtain rfl := aO a1
   obtain rfl := aW a2
   obtain rfl := aH bA
   obtain rfl := bu j
   obtain rfl := ca c
   obtain rfl := cb c
   obtain rfl := bv d f
   obtain rfl := aY bz f
   obtain rfl := cC c f
   obtain rfl := cc c
   refine hG (any_step ?_); intro A J hJ
   have hzst := Fz.le.refl m
   have dr := aP q
   have ds := aQ q
   have cs := bn d
   have dt := bo d
   have du := bp d
   have dv := bq d
   have dw := br d
   have dx := bw j
   have dy := bx j
   have ct := cd c
   have dz := ce c
   have dA := cf c
   have dB := cg c
   have dC := ch c
   refine ck hFx 99 #[pt n 0, pt l 0, pt p 0] ?_
   refine (gaddI_fun (⟨false, []⟩ : BInt) (gmulABS (⟨false, []⟩ : BInt) u0 (rdenS u2)).1 (gmulABS (⟨false, []⟩ : BInt) (gmulABS (⟨false, []⟩ : BInt) u0 (rdenS u2)).2.2 (rdenS (gmulABS (⟨false, []⟩ : BInt) u0 (rdenS u2)).2.1)).1 fr n none 0 l v x p ap aq _ _ _ _ _ _ (SlR.nil _ _) cs ct (hMx.perm ((pk 2 rfl).trans (((pk 1 rfl).trans (((pk 1 rfl).trans (lpr.cons _)).cons _)).cons _))) hMx.fz).mono ?_; rintro _ gt ⟨dD, dE, dF, dG, dH, dI, es, rfl, av, gu, gv, gw, hm⟩; refine ⟨_, rfl, ?_⟩; intro iz gx; have et := hm
   replace hzst := hzst.mono av
   replace dr := dr.mono av
   replace ds := ds.mono av
   replace cs := cs.mono av
   replace dt := dt.mono av
   replace du := du.mono av
   replace dv := dv.mono av
   replace dw := dw.mono av
   replace dx := dx.mono av
   replace dy := dy.mono av
   replace ct := ct.mono av
   replace dz := dz.mono av
   replace dA := dA.mono av
   replace dB := dB.mono av
   replace dC := dC.mono av
   have gy : Mem B [] w0 Z0 ((.row n [.bool (gaddIS (⟨false, []⟩ : BInt) (gmulABS (⟨false, []⟩ : BInt) u0 (rdenS u2)).1 (gmulABS (⟨false, []⟩ : BInt) (gmulABS (⟨false, []⟩ : BInt) u0 (rdenS u2)).2.2 (rdenS (gmulABS (⟨false, []⟩ : BInt) u0 (rdenS u2)).2.1)).1).1.neg, .slice dD (gaddIS (⟨false, []⟩ : BInt) (gmulABS (⟨false, []⟩ : BInt) u0 (rdenS u2)).1 (gmulABS (⟨false, []⟩ : BInt) (gmulABS (⟨false, []⟩ : BInt) u0 (rdenS u2)).2.2 (rdenS (gmulABS (⟨false, []⟩ : BInt) u0 (rdenS u2)).2.1)).1).1.abs.length dE] 73) :: (.row l [.bool (gaddIS (⟨false, []⟩ : BInt) (gmulABS (⟨false, []⟩ : BInt) u0 (rdenS u2)).1 (gmulABS (⟨false, []⟩ : BInt) (gmulABS (⟨false, []⟩ : BInt) u0 (rdenS u2)).2.2 (rdenS (gmulABS (⟨false, []⟩ : BInt) u0 (rdenS u2)).2.1)).1).2.1.neg, .slice dF (gaddIS (⟨false, []⟩ : BInt) (gmulABS (⟨false, []⟩ : BInt) u0 (rdenS u2)).1 (gmulABS (⟨false, []⟩ : BInt) (gmulABS (⟨false, []⟩ : BInt) u0 (rdenS u2)).2.2 (rdenS (gmulABS (⟨false, []⟩ : BInt) u0 (rdenS u2)).2.1)).1).2.1.abs.length dG] 73) :: (.row p [.bool (gaddIS (⟨false, []⟩ : BInt) (gmulABS (⟨false, []⟩ : BInt) u0 (rdenS u2)).1 (gmulABS (⟨false, []⟩ : BInt) (gmulABS (⟨false, []⟩ : BInt) u0 (rdenS u2)).2.2 (rdenS (gmulABS (⟨false, []⟩ : BInt) u0 (rdenS u2)).2.1)).1).2.2.neg, .slice dH (gaddIS (⟨false, []⟩ : BInt) (gmulABS (⟨false, []⟩ : BInt) u0 (rdenS u2)).1 (gmulABS (⟨false, []⟩ : BInt) (gmulABS (⟨false, []⟩ : BInt) u0 (rdenS u2)).2.2 (rdenS (gmulABS (⟨false, []⟩ : BInt) u0 (rdenS u2)).2.1)).1).2.2.abs.length dI] 73) :: (.row b1 (e75Nf ((gmulABS (⟨false, []⟩ : BInt) (gmulABS (⟨false, []⟩ : BInt) u0 (rdenS u2)).2.2 (rdenS (gmulABS (⟨false, []⟩ : BInt) u0 (rdenS u2)).2.1)).2.2) N O P Q) 75) :: (.row b8 (e75Nf ((gmulABS (⟨false, []⟩ : BInt) (gmulABS (⟨false, []⟩ : BInt) u0 (rdenS u2)).2.2 (rdenS (gmulABS (⟨false, []⟩ : BInt) u0 (rdenS u2)).2.1)).2.1) y z C D) 75) :: Rr) es gt := et
   refine nl (qnI (hJ _ _ ?_))
   exact ⟨n, l, ad, ae, af, ag, v, x, ah, ai, aj, ak, U, V, W, X, p, al, am, an, ao, ap, aq, y, z, C, D, N, O, P, Q, dD, dE, dF, dG, dH, dI, au, pt n 0, pt l 0, pt b1 0, pt b1 0, pt b1 0, pt b8 0, pt b8 2, pt l 0, pt p 0, pt b8 0, pt b8 0, pt b8 0, pt b1 0, pt b1 2, pt p 0, pt n 0, .row b1 (e75Nf ((gmulABS (⟨false, []⟩ : BInt) (gmulABS (⟨false, []⟩ : BInt) u0 (rdenS u2)).2.2 (rdenS (gmulABS (⟨false, []⟩ : BInt) u0 (rdenS u2)).2.1)).2.2) N O P Q) 75, .row l [.bool (gaddIS (⟨false, []⟩ : BInt) (gmulABS (⟨false, []⟩ : BInt) u0 (rdenS u2)).1 (gmulABS (⟨false, []⟩ : BInt) (gmulABS (⟨false, []⟩ : BInt) u0 (rdenS u2)).2.2 (rdenS (gmulABS (⟨false, []⟩ : BInt) u0 (rdenS u2)).2.1)).1).2.1.neg, .slice dF (gaddIS (⟨false, []⟩ : BInt) (gmulABS (⟨false, []⟩ : BInt) u0 (rdenS u2)).1 (gmulABS (⟨false, []⟩ : BInt) (gmulABS (⟨false, []⟩ : BInt) u0 (rdenS u2)).2.2 (rdenS (gmulABS (⟨false, []⟩ : BInt) u0 (rdenS u2)).2.1)).1).2.1.abs.length dG] 73, .row p [.bool (gaddIS (⟨false, []⟩ : BInt) (gmulABS (⟨false, []⟩ : BInt) u0 (rdenS u2)).1 (gmulABS (⟨false, []⟩ : BInt) (gmulABS (⟨false, []⟩ : BInt) u0 (rdenS u2)).2.2 (rdenS (gmulABS (⟨false, []⟩ : BInt) u0 (rdenS u2)).2.1)).1).2.2.neg, .slice dH (gaddIS (⟨false, []⟩ : BInt) (gmulABS (⟨false, []⟩ : BInt) u0 (rdenS u2)).1 (gmulABS (⟨false, []⟩ : BInt) (gmulABS (⟨false, []⟩ : BInt) u0 (rdenS u2)).2.2 (rdenS (gmulABS (⟨false, []⟩ : BInt) u0 (rdenS u2)).2.1)).1).2.2.abs.length dI] 73, .row n [.bool (gaddIS (⟨false, []⟩ : BInt) (gmulABS (⟨false, []⟩ : BInt) u0 (rdenS u2)).1 (gmulABS (⟨false, []⟩ : BInt) (gmulABS (⟨false, []⟩ : BInt) u0 (rdenS u2)).2.2 (rdenS (gmulABS (⟨false, []⟩ : BInt) u0 (rdenS u2)).2.1)).1).1.neg, .slice dD (gaddIS (⟨false, []⟩ : BInt) (gmulABS (⟨false, []⟩ : BInt) u0 (rdenS u2)).1 (gmulABS (⟨false, []⟩ : BInt) (gmulABS (⟨false, []⟩ : BInt) u0 (rdenS u2)).2.2 (rdenS (gmulABS (⟨false, []⟩ : BInt) u0 (rdenS u2)).2.1)).1).1.abs.length dE] 73, .row b8 (e75Nf ((gmulABS (⟨false, []⟩ : BInt) (gmulABS (⟨false, []⟩ : BInt) u0 (rdenS u2)).2.2 (rdenS (gmulABS (⟨false, []⟩ : BInt) u0 (rdenS u2)).2.1)).2.1) y z C D) 75, es, g.trans hzst, gx.reg, gy.perm ((pk 3 rfl).trans (((pk 1 rfl).trans (((pk 1 rfl).trans (lpr.cons _)).cons _)).cons _)), (nt s), kf, kf, kf, kf, kf, kf, kf, kf, kf, kf, kf, kf, kf, kf, kf, kf, (tn d), (fun _ => tn c), kf, (tn q), (fun _ => tn d), (fun _ => nu), kf, (tn bz), (fun _ => nu), kf, (tn ax), (fun _ => tn d), (fun _ => tn j), (fun _ => tn c), (fun _ => nu), kf, (tn bi), (fun _ => tn c), kf, (fun _ => dr), (fun _ => ds), (fun _ => cs), (fun _ => dt), (fun _ => du), (fun _ => dv), (fun _ => dw), (fun _ => dx), (fun _ => dy), (fun _ => ct), (fun _ => dz), (fun _ => dA), (fun _ => dB), (fun _ => dC), (fun _ => gu), (fun _ => gv), (fun _ => gw)⟩
  obtain rfl := oj hi
  have f := hpre 15 (by kernel_rfl)
  have c := hpre 14 (by kernel_rfl)
  have j := hpre 13 (by kernel_rfl)
  have bA := hpre 12 (by kernel_rfl)
  have a2 := hpre 11 (by kernel_rfl)
  have a1 := hpre 10 (by kernel_rfl)
  have bs := hpre 9 (by kernel_rfl)
  have bi := hpre 8 (by kernel_rfl)
  have d := hpre 7 (by kernel_rfl)
  have q := hpre 6 (by kernel_rfl)
  have bd := hpre 5 (by kernel_rfl)
  have ab := hpre 4 (by kernel_rfl)
  have aa := hpre 3 (by kernel_rfl)
  have aZ := hpre 2 (by kernel_rfl)
  have ax := hpre 1 (by kernel_rfl)
  have bz := hpre 0 (by kernel_rfl)
  obtain rfl := aB bz
  obtain rfl := aC ax
  obtain rfl := aD aZ
  obtain rfl := aM aa
  obtain rfl := aV ab
  obtain rfl := aE bd
  obtain rfl := aN q
  obtain rfl := bl d
  obtain rfl := aF bi
  obtain rfl := aG bs
  obtain rfl := aO a1
  obtain rfl := aW a2
  obtain rfl := aH bA
  obtain rfl := bu j
  obtain rfl := ca c
  obtain rfl := cz f
  obtain rfl := cb c
  obtain rfl := cA f
  obtain rfl := cB f
  obtain rfl := cD f
  obtain rfl := cc c
  refine hG (any_step ?_); intro A J hJ
  have gz := aP q
  have gA := aQ q
  have gB := bn d
  have gC := bo d
  have gD := bp d
  have gE := bq d
  have gF := br d
  have gG := bw j
  have gH := bx j
  have gI := cd c
  have gJ := ce c
  have gK := cf c
  have gL := cg c
  have gM := ch c
  have gN := cE f
  have gO := cF f
  have gP := cG f
  refine s1 hFx 7 (pt n 0) ?_; intro iE gQ
  refine nl (qnI (hJ _ _ ?_))
  exact ⟨n, l, ad, ae, af, ag, v, x, ah, ai, aj, ak, U, V, W, X, p, al, am, an, ao, ap, aq, y, z, C, D, N, O, P, Q, E, F, H, I, L, M, pt n 0, pt n 0, pt l 0, pt b1 0, pt b1 0, pt b1 0, pt b8 0, pt b8 2, pt l 0, pt p 0, pt b8 0, pt b8 0, pt b8 0, pt b1 0, pt b1 2, pt p 0, pt n 0, .row b1 (e75Nf ((gmulABS (⟨false, []⟩ : BInt) (gmulABS (⟨false, []⟩ : BInt) u0 (rdenS u2)).2.2 (rdenS (gmulABS (⟨false, []⟩ : BInt) u0 (rdenS u2)).2.1)).2.2) N O P Q) 75, .row l [.bool (gaddIS (⟨false, []⟩ : BInt) (gmulABS (⟨false, []⟩ : BInt) u0 (rdenS u2)).1 (gmulABS (⟨false, []⟩ : BInt) (gmulABS (⟨false, []⟩ : BInt) u0 (rdenS u2)).2.2 (rdenS (gmulABS (⟨false, []⟩ : BInt) u0 (rdenS u2)).2.1)).1).2.1.neg, .slice H (gaddIS (⟨false, []⟩ : BInt) (gmulABS (⟨false, []⟩ : BInt) u0 (rdenS u2)).1 (gmulABS (⟨false, []⟩ : BInt) (gmulABS (⟨false, []⟩ : BInt) u0 (rdenS u2)).2.2 (rdenS (gmulABS (⟨false, []⟩ : BInt) u0 (rdenS u2)).2.1)).1).2.1.abs.length I] 73, .row p [.bool (gaddIS (⟨false, []⟩ : BInt) (gmulABS (⟨false, []⟩ : BInt) u0 (rdenS u2)).1 (gmulABS (⟨false, []⟩ : BInt) (gmulABS (⟨false, []⟩ : BInt) u0 (rdenS u2)).2.2 (rdenS (gmulABS (⟨false, []⟩ : BInt) u0 (rdenS u2)).2.1)).1).2.2.neg, .slice L (gaddIS (⟨false, []⟩ : BInt) (gmulABS (⟨false, []⟩ : BInt) u0 (rdenS u2)).1 (gmulABS (⟨false, []⟩ : BInt) (gmulABS (⟨false, []⟩ : BInt) u0 (rdenS u2)).2.2 (rdenS (gmulABS (⟨false, []⟩ : BInt) u0 (rdenS u2)).2.1)).1).2.2.abs.length M] 73, .row n [.bool (gaddIS (⟨false, []⟩ : BInt) (gmulABS (⟨false, []⟩ : BInt) u0 (rdenS u2)).1 (gmulABS (⟨false, []⟩ : BInt) (gmulABS (⟨false, []⟩ : BInt) u0 (rdenS u2)).2.2 (rdenS (gmulABS (⟨false, []⟩ : BInt) u0 (rdenS u2)).2.1)).1).1.neg, .slice E (gaddIS (⟨false, []⟩ : BInt) (gmulABS (⟨false, []⟩ : BInt) u0 (rdenS u2)).1 (gmulABS (⟨false, []⟩ : BInt) (gmulABS (⟨false, []⟩ : BInt) u0 (rdenS u2)).2.2 (rdenS (gmulABS (⟨false, []⟩ : BInt) u0 (rdenS u2)).2.1)).1).1.abs.length F] 73, .row b8 (e75Nf ((gmulABS (⟨false, []⟩ : BInt) (gmulABS (⟨false, []⟩ : BInt) u0 (rdenS u2)).2.2 (rdenS (gmulABS (⟨false, []⟩ : BInt) u0 (rdenS u2)).2.1)).2.1) y z C D) 75, m, g, gQ.reg, hMx.perm lpr, kf, kf, kf, kf, kf, kf, kf, kf, kf, kf, kf, kf, kf, kf, kf, kf, kf, (tn d), (fun _ => tn c), kf, (tn q), (fun _ => tn d), (fun _ => tn f), kf, (tn bz), (fun _ => tn f), kf, (tn ax), (fun _ => tn d), (fun _ => tn j), (fun _ => tn c), (fun _ => tn f), kf, (tn bi), (fun _ => tn c), kf, (fun _ => gz), (fun _ => gA), (fun _ => gB), (fun _ => gC), (fun _ => gD), (fun _ => gE), (fun _ => gF), (fun _ => gG), (fun _ => gH), (fun _ => gI), (fun _ => gJ), (fun _ => gK), (fun _ => gL), (fun _ => gM), (fun _ => gN), (fun _ => gO), (fun _ => gP)⟩
 case hE =>
  intro S hS gR iF hI; refine Go.Sy.hid ?_; intro G hG; obtain ⟨n, l, ad, ae, af, ag, v, x, ah, ai, aj, ak, U, V, W, X, p, al, am, an, ao, ap, aq, y, z, hI⟩ := hI; obtain ⟨C, D, N, O, P, Q, E, F, H, I, L, M, au, az, a3, be, ba, a4, bb, a5, aS, aI, a6, aT, aJ, hI⟩ := hI; obtain ⟨aU, aK, aA, aw, bk, aL, R, ar, Y, m, g, hFx, hMx, d0, aB, aC, aD, aM, aV, aE, aN, bl, aF, aG, aO, hI⟩ := hI; obtain ⟨aW, aH, bu, ca, cz, bc, bB, cb, bf, bm, bv, cA, aX, aY, cB, bg, bh, bJ, b5, cC, cD, a7, a8, cc, aP, hI⟩ := hI; obtain ⟨aQ, bn, bo, bp, bq, br, bw, bx, cd, ce, cf, cg, ch, cE, cF, hI⟩ := hI; refine hG ?_
  obtain rfl := d0 (hS 16 (by decide))
  obtain rfl := aB (hS 0 (by decide))
  obtain rfl := aC (hS 1 (by decide))
  obtain rfl := aD (hS 2 (by decide))
  obtain rfl := aM (hS 3 (by decide))
  obtain rfl := aV (hS 4 (by decide))
  obtain rfl := aE (hS 5 (by decide))
  obtain rfl := aN (hS 6 (by decide))
  obtain rfl := bl (hS 7 (by decide))
  obtain rfl := aF (hS 8 (by decide))
  obtain rfl := aG (hS 9 (by decide))
  obtain rfl := aO (hS 10 (by decide))
  obtain rfl := aW (hS 11 (by decide))
  obtain rfl := aH (hS 12 (by decide))
  obtain rfl := bu (hS 13 (by decide))
  obtain rfl := ca (hS 14 (by decide))
  obtain rfl := cz (hS 15 (by decide))
  obtain rfl := cb (hS 14 (by decide))
  obtain rfl := cA (hS 15 (by decide))
  obtain rfl := cB (hS 15 (by decide))
  obtain rfl := cD (hS 15 (by decide))
  obtain rfl := cc (hS 14 (by decide))
  have k := Fz.le.trans k g
  have bC := ce (hS 14 (by decide))
  have bD := cf (hS 14 (by decide))
  have bE := cg (hS 14 (by decide))
  have bF := ch (hS 14 (by decide))
  have bG := cE (hS 15 (by decide))
  apply t_
  have eu : Fr 33 [] [⟨0, [], pt b1 0⟩, ⟨1, [], pt b1 0⟩, ⟨2, [], pt b8 0⟩, ⟨7, [], pt n 0⟩] gR := hFx.reg
  refine sqH ?_; intro gS ev
  refine bt eu hMx 2 [] [] [(24, pt b1 0), (25, pt n 0)] ?_; intro iG ew
  refine nw ew hMx pb [.bool false, .slice none 0 0] 73 ?_; intro b2 iH iI ex dJ
  refine s1 ex 27 (pt b1 0) ?_; intro iJ ey
  obtain ⟨gT, ez⟩ := fs
  refine ck ey 76 #[pt b1 0] ?_
  obtain ⟨bH, gU, eA⟩ := hxq ez
  have h9 := rden_fun (gmulABS (⟨false, []⟩ : BInt) (gmulABS (⟨false, []⟩ : BInt) u0 (rdenS u2)).2.2 (rdenS (gmulABS (⟨false, []⟩ : BInt) u0 (rdenS u2)).2.1)).2.2 gT b1 N O P Q _ _ _ _ _ _ bE bF (dJ.perm (pk 1 rfl)) dJ.fz; rw [gU] at h9; refine h9.mono ?_; rintro _ gV ⟨dK, dL, dM, dN, gW, rfl, ac, b3, b4, hm⟩; refine ⟨_, rfl, ?_⟩; intro iK eB; have eC := hm
  replace bC := bC.mono ac
  replace bD := bD.mono ac
  replace bG := bG.mono ac
  replace k := Fz.le.trans k ac
  have dO : Mem B [] w0 Z0 ((.row b1 (e75Nf bH dK dL dM dN) 75) :: (.row b2 [.bool false, .slice none 0 0] 73) :: (.row l [.bool (gaddIS (⟨false, []⟩ : BInt) (gmulABS (⟨false, []⟩ : BInt) u0 (rdenS u2)).1 (gmulABS (⟨false, []⟩ : BInt) (gmulABS (⟨false, []⟩ : BInt) u0 (rdenS u2)).2.2 (rdenS (gmulABS (⟨false, []⟩ : BInt) u0 (rdenS u2)).2.1)).1).2.1.neg, .slice H (gaddIS (⟨false, []⟩ : BInt) (gmulABS (⟨false, []⟩ : BInt) u0 (rdenS u2)).1 (gmulABS (⟨false, []⟩ : BInt) (gmulABS (⟨false, []⟩ : BInt) u0 (rdenS u2)).2.2 (rdenS (gmulABS (⟨false, []⟩ : BInt) u0 (rdenS u2)).2.1)).1).2.1.abs.length I] 73) :: (.row p [.bool (gaddIS (⟨false, []⟩ : BInt) (gmulABS (⟨false, []⟩ : BInt) u0 (rdenS u2)).1 (gmulABS (⟨false, []⟩ : BInt) (gmulABS (⟨false, []⟩ : BInt) u0 (rdenS u2)).2.2 (rdenS (gmulABS (⟨false, []⟩ : BInt) u0 (rdenS u2)).2.1)).1).2.2.neg, .slice L (gaddIS (⟨false, []⟩ : BInt) (gmulABS (⟨false, []⟩ : BInt) u0 (rdenS u2)).1 (gmulABS (⟨false, []⟩ : BInt) (gmulABS (⟨false, []⟩ : BInt) u0 (rdenS u2)).2.2 (rdenS (gmulABS (⟨false, []⟩ : BInt) u0 (rdenS u2)).2.1)).1).2.2.abs.length M] 73) :: (.row n [.bool (gaddIS (⟨false, []⟩ : BInt) (gmulABS (⟨false, []⟩ : BInt) u0 (rdenS u2)).1 (gmulABS (⟨false, []⟩ : BInt) (gmulABS (⟨false, []⟩ : BInt) u0 (rdenS u2)).2.2 (rdenS (gmulABS (⟨false, []⟩ : BInt) u0 (rdenS u2)).2.1)).1).1.neg, .slice E (gaddIS (⟨false, []⟩ : BInt) (gmulABS (⟨false, []⟩ : BInt) u0 (rdenS u2)).1 (gmulABS (⟨false, []⟩ : BInt) (gmulABS (⟨false, []⟩ : BInt) u0 (rdenS u2)).2.2 (rdenS (gmulABS (⟨false, []⟩ : BInt) u0 (rdenS u2)).2.1)).1).1.abs.length F] 73) :: (.row b8 (e75Nf ((gmulABS (⟨false, []⟩ : BInt) (gmulABS (⟨false, []⟩ : BInt) u0 (rdenS u2)).2.2 (rdenS (gmulABS (⟨false, []⟩ : BInt) u0 (rdenS u2)).2.1)).2.1) y z C D) 75) :: Rr) gW gV := eC
  have gX := eA (b3.small) (b4.small)
  refine s1 eB 29 (pt b8 0) ?_; intro iL eE
  obtain ⟨gY, eF⟩ := gX
  refine ck eE 76 #[pt b8 0] ?_
  obtain ⟨ci, gZ, eG⟩ := hxq eF
  have h9 := rden_fun (gmulABS (⟨false, []⟩ : BInt) (gmulABS (⟨false, []⟩ : BInt) u0 (rdenS u2)).2.2 (rdenS (gmulABS (⟨false, []⟩ : BInt) u0 (rdenS u2)).2.1)).2.1 gY b8 y z C D _ _ _ _ _ _ bC bD (dO.perm (pk 5 rfl)) dO.fz; rw [gZ] at h9; refine h9.mono ?_; rintro _ g0 ⟨eH, eI, eJ, eK, g1, rfl, T, b7, b9, hm⟩; refine ⟨_, rfl, ?_⟩; intro iM eL; have eM := hm
  replace bG := bG.mono T
  replace b3 := b3.mono T
  replace b4 := b4.mono T
  replace k := Fz.le.trans k T
  have dP : Mem B [] w0 Z0 ((.row b8 (e75Nf ci eH eI eJ eK) 75) :: (.row b1 (e75Nf bH dK dL dM dN) 75) :: (.row b2 [.bool false, .slice none 0 0] 73) :: (.row l [.bool (gaddIS (⟨false, []⟩ : BInt) (gmulABS (⟨false, []⟩ : BInt) u0 (rdenS u2)).1 (gmulABS (⟨false, []⟩ : BInt) (gmulABS (⟨false, []⟩ : BInt) u0 (rdenS u2)).2.2 (rdenS (gmulABS (⟨false, []⟩ : BInt) u0 (rdenS u2)).2.1)).1).2.1.neg, .slice H (gaddIS (⟨false, []⟩ : BInt) (gmulABS (⟨false, []⟩ : BInt) u0 (rdenS u2)).1 (gmulABS (⟨false, []⟩ : BInt) (gmulABS (⟨false, []⟩ : BInt) u0 (rdenS u2)).2.2 (rdenS (gmulABS (⟨false, []⟩ : BInt) u0 (rdenS u2)).2.1)).1).2.1.abs.length I] 73) :: (.row p [.bool (gaddIS (⟨false, []⟩ : BInt) (gmulABS (⟨false, []⟩ : BInt) u0 (rdenS u2)).1 (gmulABS (⟨false, []⟩ : BInt) (gmulABS (⟨false, []⟩ : BInt) u0 (rdenS u2)).2.2 (rdenS (gmulABS (⟨false, []⟩ : BInt) u0 (rdenS u2)).2.1)).1).2.2.neg, .slice L (gaddIS (⟨false, []⟩ : BInt) (gmulABS (⟨false, []⟩ : BInt) u0 (rdenS u2)).1 (gmulABS (⟨false, []⟩ : BInt) (gmulABS (⟨false, []⟩ : BInt) u0 (rdenS u2)).2.2 (rdenS (gmulABS (⟨false, []⟩ : BInt) u0 (rdenS u2)).2.1)).1).2.2.abs.length M] 73) :: (.row n [.bool (gaddIS (⟨false, []⟩ : BInt) (gmulABS (⟨false, []⟩ : BInt) u0 (rdenS u2)).1 (gmulABS (⟨false, []⟩ : BInt) (gmulABS (⟨false, []⟩ : BInt) u0 (rdenS u2)).2.2 (rdenS (gmulABS (⟨false, []⟩ : BInt) u0 (rdenS u2)).2.1)).1).1.neg, .slice E (gaddIS (⟨false, []⟩ : BInt) (gmulABS (⟨false, []⟩ : BInt) u0 (rdenS u2)).1 (gmulABS (⟨false, []⟩ : BInt) (gmulABS (⟨false, []⟩ : BInt) u0 (rdenS u2)).2.2 (rdenS (gmulABS (⟨false, []⟩ : BInt) u0 (rdenS u2)).2.1)).1).1.abs.length F] 73) :: Rr) g1 g0 := eM
  obtain ⟨g3, eO⟩ := eG (b7.small) (b9.small)
  refine ck eL 75 #[pt b2 0, pt b1 2, pt b8 2] ?_
  obtain ⟨aR, g4, eP⟩ := hxq eO
  have h9 := gmulBB_fun (⟨false, []⟩ : BInt) bH ci g3 b2 none 0 b1 dK dL dM dN b8 eH eI eJ eK _ _ _ _ _ _ (SlR.nil _ _) b3 b4 b7 b9 (dP.perm ((pk 2 rfl).trans (((pk 1 rfl).trans (lpr.cons _)).cons _))) dP.fz; rw [g4] at h9; refine h9.mono ?_; rintro _ g5 ⟨eQ, eR, eS, eT, eU, eV, dQ, dR, dS, dT, g6, rfl, u, cu, cv, cw, cx, cy, hm⟩; refine ⟨_, rfl, ?_⟩; intro iN eW; have eX := hm
  replace bG := bG.mono u
  replace k := Fz.le.trans k u
  have dU : Mem B [] w0 Z0 ((.row b2 [.bool aR.1.neg, .slice eQ aR.1.abs.length eR] 73) :: (.row b1 (e75Nf aR.2.1 eS eT eU eV) 75) :: (.row b8 (e75Nf aR.2.2 dQ dR dS dT) 75) :: (.row l [.bool (gaddIS (⟨false, []⟩ : BInt) (gmulABS (⟨false, []⟩ : BInt) u0 (rdenS u2)).1 (gmulABS (⟨false, []⟩ : BInt) (gmulABS (⟨false, []⟩ : BInt) u0 (rdenS u2)).2.2 (rdenS (gmulABS (⟨false, []⟩ : BInt) u0 (rdenS u2)).2.1)).1).2.1.neg, .slice H (gaddIS (⟨false, []⟩ : BInt) (gmulABS (⟨false, []⟩ : BInt) u0 (rdenS u2)).1 (gmulABS (⟨false, []⟩ : BInt) (gmulABS (⟨false, []⟩ : BInt) u0 (rdenS u2)).2.2 (rdenS (gmulABS (⟨false, []⟩ : BInt) u0 (rdenS u2)).2.1)).1).2.1.abs.length I] 73) :: (.row p [.bool (gaddIS (⟨false, []⟩ : BInt) (gmulABS (⟨false, []⟩ : BInt) u0 (rdenS u2)).1 (gmulABS (⟨false, []⟩ : BInt) (gmulABS (⟨false, []⟩ : BInt) u0 (rdenS u2)).2.2 (rdenS (gmulABS (⟨false, []⟩ : BInt) u0 (rdenS u2)).2.1)).1).2.2.neg, .slice L (gaddIS (⟨false, []⟩ : BInt) (gmulABS (⟨false, []⟩ : BInt) u0 (rdenS u2)).1 (gmulABS (⟨false, []⟩ : BInt) (gmulABS (⟨false, []⟩ : BInt) u0 (rdenS u2)).2.2 (rdenS (gmulABS (⟨false, []⟩ : BInt) u0 (rdenS u2)).2.1)).1).2.2.abs.length M] 73) :: (.row n [.bool (gaddIS (⟨false, []⟩ : BInt) (gmulABS (⟨false, []⟩ : BInt) u0 (rdenS u2)).1 (gmulABS (⟨false, []⟩ : BInt) (gmulABS (⟨false, []⟩ : BInt) u0 (rdenS u2)).2.2 (rdenS (gmulABS (⟨false, []⟩ : BInt) u0 (rdenS u2)).2.1)).1).1.neg, .slice E (gaddIS (⟨false, []⟩ : BInt) (gmulABS (⟨false, []⟩ : BInt) u0 (rdenS u2)).1 (gmulABS (⟨false, []⟩ : BInt) (gmulABS (⟨false, []⟩ : BInt) u0 (rdenS u2)).2.2 (rdenS (gmulABS (⟨false, []⟩ : BInt) u0 (rdenS u2)).2.1)).1).1.abs.length F] 73) :: Rr) g6 g5 := eX
  obtain ⟨g8, e2⟩ := eP (cu.small) (cv.small) (cw.small) (cx.small) (cy.small)
  refine ck eW 73 #[pt b1 0, pt n 0, pt b2 0] ?_
  obtain ⟨bI, g9, e3⟩ := hxq e2
  have h9 := rsf_fun aR.2.1 (gaddIS (⟨false, []⟩ : BInt) (gmulABS (⟨false, []⟩ : BInt) u0 (rdenS u2)).1 (gmulABS (⟨false, []⟩ : BInt) (gmulABS (⟨false, []⟩ : BInt) u0 (rdenS u2)).2.2 (rdenS (gmulABS (⟨false, []⟩ : BInt) u0 (rdenS u2)).2.1)).1).1 aR.1 g8 b1 eS eT eU eV n E F b2 eQ eR _ _ _ _ _ _ cv cw bG cu (dU.perm ((pk 1 rfl).trans (((pk 4 rfl).trans (lpr.cons _)).cons _))) dU.fz; rw [g9] at h9; refine h9.mono ?_; rintro _ ha ⟨e4, e5, e6, e7, hb, hc, hd, he, e8, rfl, t, e9, fa, hf, hg, hm⟩; refine ⟨_, rfl, ?_⟩; intro iO fb; have fc := hm
  replace cx := cx.mono t
  replace cy := cy.mono t
  replace k := Fz.le.trans k t
  have hh : Mem B [] w0 Z0 ((.row b1 (e75Nf bI.1 e4 e5 e6 e7) 75) :: (.row n [.bool bI.2.1.neg, .slice hb bI.2.1.abs.length hc] 73) :: (.row b2 [.bool bI.2.2.neg, .slice hd bI.2.2.abs.length he] 73) :: (.row b8 (e75Nf aR.2.2 dQ dR dS dT) 75) :: (.row l [.bool (gaddIS (⟨false, []⟩ : BInt) (gmulABS (⟨false, []⟩ : BInt) u0 (rdenS u2)).1 (gmulABS (⟨false, []⟩ : BInt) (gmulABS (⟨false, []⟩ : BInt) u0 (rdenS u2)).2.2 (rdenS (gmulABS (⟨false, []⟩ : BInt) u0 (rdenS u2)).2.1)).1).2.1.neg, .slice H (gaddIS (⟨false, []⟩ : BInt) (gmulABS (⟨false, []⟩ : BInt) u0 (rdenS u2)).1 (gmulABS (⟨false, []⟩ : BInt) (gmulABS (⟨false, []⟩ : BInt) u0 (rdenS u2)).2.2 (rdenS (gmulABS (⟨false, []⟩ : BInt) u0 (rdenS u2)).2.1)).1).2.1.abs.length I] 73) :: (.row p [.bool (gaddIS (⟨false, []⟩ : BInt) (gmulABS (⟨false, []⟩ : BInt) u0 (rdenS u2)).1 (gmulABS (⟨false, []⟩ : BInt) (gmulABS (⟨false, []⟩ : BInt) u0 (rdenS u2)).2.2 (rdenS (gmulABS (⟨false, []⟩ : BInt) u0 (rdenS u2)).2.1)).1).2.2.neg, .slice L (gaddIS (⟨false, []⟩ : BInt) (gmulABS (⟨false, []⟩ : BInt) u0 (rdenS u2)).1 (gmulABS (⟨false, []⟩ : BInt) (gmulABS (⟨false, []⟩ : BInt) u0 (rdenS u2)).2.2 (rdenS (gmulABS (⟨false, []⟩ : BInt) u0 (rdenS u2)).2.1)).1).2.2.abs.length M] 73) :: Rr) e8 ha := fc
  have hj := e3 (e9.small) (fa.small) (hf.small) (hg.small)
  refine s1 fb 6 (pt b1 0) ?_; intro iP hk
  apply ev
  exact r_ (ra1 hk (pt b1 0) ⟨(bI.1, aR.2.2), e4, e5, e6, e7, dQ, dR, dS, dT, e8, rfl, hj, k, e9, fa, cx, cy, hh.kp⟩)

theorem rdenom_walk (u0 : BRat) (b1 : Nat) (ao2 : Option Addr) (cap3 : Nat) (ao5 : Option Addr) (cap6 : Nat) (B : Nat) (w0 : World) (Z0 : Fz) (Rr : List Res) (Z : Fz) (w : World) (hs4 : SlR (tyInt .u32) Z ao2 cap3 u0.a.abs) (hs7 : SlR (tyInt .u32) Z ao5 cap6 u0.b.abs) (hM0 : Mem B [] w0 Z0 ((.row b1 [.bool u0.a.neg, .slice ao2 u0.a.abs.length cap3, .bool u0.b.neg, .slice ao5 u0.b.abs.length cap6] 75) :: Rr) Z w) (hZ : Z.on w) {K : (BRat × BInt) → Prop} (hp : rdenom_vc u0 K) : Calls Tryz.prog 70 #[pt b1 0] w fun e w' => ∃ (r : BRat × BInt) (ao1001 : Option Addr) (cap1002 : Nat) (ao1004 : Option Addr) (cap1005 : Nat) (b1007 : Nat) (ao1008 : Option Addr) (cap1009 : Nat) (Z' : Fz), e = .returned (pt b1007 0) ∧ K r ∧ Fz.le Z Z' ∧ SlR (tyInt .u32) Z' ao1001 cap1002 r.1.a.abs ∧ SlR (tyInt .u32) Z' ao1004 cap1005 r.1.b.abs ∧ SlR (tyInt .u32) Z' ao1008 cap1009 r.2.abs ∧ Mem B [] w0 Z0 ((.row b1007 [.bool r.2.neg, .slice ao1008 r.2.abs.length cap1009] 73) :: (.row b1 [.bool r.1.a.neg, .slice ao1001 r.1.a.abs.length cap1002, .bool r.1.b.neg, .slice ao1004 r.1.b.abs.length cap1005] 75) :: Rr) Z' w' := by
 refine enter0 Tryz.func70 rfl rfl (by kernel_rfl) ?_; intro a0 G; have h := Fz.le.refl Z
 have am := hp (hs4.small) (hs7.small)
 refine sqB G hM0 [] [] [] ?_; intro aG I
 refine sqH ?_; intro an J
 refine nw I hM0 pb [.bool false, .slice none 0 0] 73 ?_; intro d aH aI L q
 refine s1 L 4 (pt b1 0) ?_; intro aJ M
 obtain ⟨ao, N⟩ := am
 refine ck M 76 #[pt b1 0] ?_
 obtain ⟨c, ap, O⟩ := hxq N
 have s := rden_fun u0 ao b1 ao2 cap3 ao5 cap6 _ _ _ _ _ _ hs4 hs7 (q.perm (pk 1 rfl)) q.fz; rw [ap] at s; refine s.mono ?_; rintro _ aq ⟨l, m, f, g, P, rfl, t, j, i, hm⟩; refine ⟨_, rfl, ?_⟩; intro aK Q; have R := hm
 replace h := Fz.le.trans h t
 have u : Mem B [] w0 Z0 ((.row b1 (e75Nf c l m f g) 75) :: (.row d [.bool false, .slice none 0 0] 73) :: Rr) P aq := R
 have ar := O (j.small) (i.small)
 refine ck Q 100 #[pt d 0, pt b1 2] ?_
 refine enter0 Tryz.func100 rfl rfl (by kernel_rfl) ?_; intro au T
 have U : Fr 16 [] [⟨0, [], pt d 0⟩, ⟨1, [], pt b1 2⟩] au := T.reg
 refine sqB U u [] [] [] ?_; intro av V
 have W : Fr 16 [] [⟨0, [], pt d 0⟩, ⟨1, [], pt b1 2⟩] av := V.reg
 refine wp_seq (rgS mixed u [(0, true), (1, true), (2, true), (3, true), (4, true), (5, true), (6, true), (7, true), (8, true), (9, false), (10, false), (11, true)] [] [0] [.row b1 (e75Nf c l m f g) 75] ?_)
 intro aw X aL v
 have k := Fz.le.refl P
 refine cS W 9 [0, 0] [] [(5, pt d 0), (9, .bool c.b.neg), (13, .slice f c.b.abs.length g)] ?_; intro aM Y
 refine eS rfl ?_; intro ax aa
 obtain ⟨ay, az⟩ := ar
 refine ck Y 83 #[.slice f c.b.abs.length g] ?_
 refine (gtwin_fun c.b.abs ay f g _ _ i v.fz).mono ?_; rintro _ ab ⟨x, y, aA, rfl, hm⟩; refine ⟨_, rfl, ?_⟩; intro aN ac; have ad := v.callZ hm; have o := hm.ext.le
 replace j := j.mono o
 replace i := i.mono o
 replace k := k.mono o
 replace h := Fz.le.trans h o
 have ae : Mem B [] w0 Z0 ((.own (tyInt .u32) 105 x y (gtwinS c.b.abs)) :: (.row b1 (e75Nf c l m f g) 75) :: (.row d [.bool false, .slice none 0 0] 73) :: Rr) aA ab := ad
 refine nl (qnI (aa _ _ (ae.cst k [1]) ?_))
 refine eS rfl ?_; intro aB af
 obtain ⟨aC, p, ag, z⟩ := ae.freeze 0 rfl
 replace j := j.mono p
 replace i := i.mono p
 replace k := k.mono p
 replace h := Fz.le.trans h p
 have A : Mem B [] w0 Z0 ((.row b1 (e75Nf c l m f g) 75) :: (.row d [.bool false, .slice none 0 0] 73) :: Rr) aC ab := ag
 refine ck ac 78 #[pt d 0, .bool c.b.neg, .slice x (gtwinS c.b.abs).length y] ?_
 refine (ggive_fun (⟨false, []⟩ : BInt) c.b.neg (gtwinS c.b.abs) d none 0 x y _ _ _ _ _ _ (SlR.nil _ _) z (A.perm (pk 1 rfl)) A.fz).mono ?_; rintro _ ah ⟨C, D, E, rfl, n, aD, hm⟩; refine ⟨_, rfl, ?_⟩; intro aO ai; have aj := hm
 replace j := j.mono n
 replace i := i.mono n
 replace k := k.mono n
 replace h := Fz.le.trans h n
 have F : Mem B [] w0 Z0 ((.row d [.bool (ggive (⟨false, []⟩ : BInt) c.b.neg (gtwinS c.b.abs)).neg, .slice C (ggive (⟨false, []⟩ : BInt) c.b.neg (gtwinS c.b.abs)).abs.length D] 73) :: (.row b1 (e75Nf c l m f g) 75) :: Rr) E ah := aj
 refine nl (qnI (af _ _ (F.cst k [1]) ?_))
 refine cS ai 1 [] [] [(4, pt d 0)] ?_; intro aP ak
 refine nS (X _ _ ?_)
 refine t_ (r_ (ra1 ak (pt d 0) ?_))
 refine ⟨_, rfl, ?_⟩; intro aQ al
 refine s1 al 2 (pt d 0) ?_; intro aR aE
 have aF : Mem B [] w0 Z0 ((.row d [.bool (ggive (⟨false, []⟩ : BInt) c.b.neg (gtwinS c.b.abs)).neg, .slice C (ggive (⟨false, []⟩ : BInt) c.b.neg (gtwinS c.b.abs)).abs.length D] 73) :: (.row b1 (e75Nf c l m f g) 75) :: Rr) E ah := F
 apply J
 exact r_ (ra1 aE (pt d 0) ⟨(c, (ggive (⟨false, []⟩ : BInt) c.b.neg (gtwinS c.b.abs))), l, m, f, g, d, C, D, E, rfl, az, h, j, i, aD, aF.kp⟩)

end Go.Proofs.YtdndfbamhnchfaaGreatDoor
set_option linter.unusedVariables false
set_option linter.unusedSimpArgs false
namespace Go.Proofs.YtdndfbamhnchfaaGreatDoor
open Go.Sy Go.RowKit
def rsf64_fun (u0 : BRat) (u1 : Int) (u2 : Int) (hpre : u2 ≠ 0 ∧ (-9223372036854775808 ≤ u1 ∧ u1 ≤ 9223372036854775807) ∧ -9223372036854775808 ≤ u2 ∧ u2 ≤ 9223372036854775807) (b1 : Nat) (ao2 : Option Addr) (cap3 : Nat) (ao5 : Option Addr) (cap6 : Nat) (B : Nat) (w0 : World) (Z0 : Fz) (Rr : List Res) (Z : Fz) (w : World) (hs4 : SlR (tyInt .u32) Z ao2 cap3 u0.a.abs) (hs7 : SlR (tyInt .u32) Z ao5 cap6 u0.b.abs) (hM0 : Mem B [] w0 Z0 ((.row b1 [.bool u0.a.neg, .slice ao2 u0.a.abs.length cap3, .bool u0.b.neg, .slice ao5 u0.b.abs.length cap6] 75) :: Rr) Z w) (hZ : Z.on w) := fe_ (rsf64_walk u0 u1 u2 b1 ao2 cap3 ao5 cap6 B w0 Z0 Rr Z w hs4 hs7 hM0 hZ (rsf64_ok u0 u1 u2 hpre))
def rsi_fun (u0 : BRat) (u1 : Int) (hpre : -9223372036854775808 ≤ u1 ∧ u1 ≤ 9223372036854775807) (b1 : Nat) (ao2 : Option Addr) (cap3 : Nat) (ao5 : Option Addr) (cap6 : Nat) (B : Nat) (w0 : World) (Z0 : Fz) (Rr : List Res) (Z : Fz) (w : World) (hs4 : SlR (tyInt .u32) Z ao2 cap3 u0.a.abs) (hs7 : SlR (tyInt .u32) Z ao5 cap6 u0.b.abs) (hM0 : Mem B [] w0 Z0 ((.row b1 [.bool u0.a.neg, .slice ao2 u0.a.abs.length cap3, .bool u0.b.neg, .slice ao5 u0.b.abs.length cap6] 75) :: Rr) Z w) (hZ : Z.on w) := fe_ (rsi_walk u0 u1 b1 ao2 cap3 ao5 cap6 B w0 Z0 Rr Z w hs4 hs7 hM0 hZ (rsi_ok u0 u1 hpre))
theorem radd_fun (u0 : BRat) (u2 : BRat) (hpre : rk u0 ∧ rk u2 ∧ rlow u0 u2) (b1 : Nat) (ao2 : Option Addr) (cap3 : Nat) (ao5 : Option Addr) (cap6 : Nat) (b8 : Nat) (ao9 : Option Addr) (cap10 : Nat) (ao12 : Option Addr) (cap13 : Nat) (B : Nat) (w0 : World) (Z0 : Fz) (Rr : List Res) (Z : Fz) (w : World) (hs4 : SlR (tyInt .u32) Z ao2 cap3 u0.a.abs) (hs7 : SlR (tyInt .u32) Z ao5 cap6 u0.b.abs) (hs11 : SlR (tyInt .u32) Z ao9 cap10 u2.a.abs) (hs14 : SlR (tyInt .u32) Z ao12 cap13 u2.b.abs) (hM0 : Mem B [] w0 Z0 ((.row b1 [.bool u0.a.neg, .slice ao2 u0.a.abs.length cap3, .bool u0.b.neg, .slice ao5 u0.b.abs.length cap6] 75) :: (.row b8 [.bool u2.a.neg, .slice ao9 u2.a.abs.length cap10, .bool u2.b.neg, .slice ao12 u2.b.abs.length cap13] 75) :: Rr) Z w) (hZ : Z.on w) : Calls Tryz.prog 69 #[pt b1 0, pt b1 0, pt b8 0] w fun e w' => ∃ (ao1001 : Option Addr) (cap1002 : Nat) (ao1004 : Option Addr) (cap1005 : Nat) (ao1007 : Option Addr) (cap1008 : Nat) (ao1010 : Option Addr) (cap1011 : Nat) (Z' : Fz), e = .returned (pt b1 0) ∧ Fz.le Z Z' ∧ SlR (tyInt .u32) Z' ao1001 cap1002 (raddS u0 u2).1.a.abs ∧ SlR (tyInt .u32) Z' ao1004 cap1005 (raddS u0 u2).1.b.abs ∧ SlR (tyInt .u32) Z' ao1007 cap1008 (raddS u0 u2).2.a.abs ∧ SlR (tyInt .u32) Z' ao1010 cap1011 (raddS u0 u2).2.b.abs ∧ Mem B [] w0 Z0 ((.row b1 [.bool (raddS u0 u2).1.a.neg, .slice ao1001 (raddS u0 u2).1.a.abs.length cap1002, .bool (raddS u0 u2).1.b.neg, .slice ao1004 (raddS u0 u2).1.b.abs.length cap1005] 75) :: (.row b8 [.bool (raddS u0 u2).2.a.neg, .slice ao1007 (raddS u0 u2).2.a.abs.length cap1008, .bool (raddS u0 u2).2.b.neg, .slice ao1010 (raddS u0 u2).2.b.abs.length cap1011] 75) :: Rr) Z' w' :=
  (radd_walk u0 u2 b1 ao2 cap3 ao5 cap6 b8 ao9 cap10 ao12 cap13 B w0 Z0 Rr Z w hs4 hs7 hs11 hs14 hM0 hZ (radd_ok u0 u2 hpre)).mono fun _ _ ⟨r, h0, h1, h2, h3, h4, h5, h6, h7, h8, he, hk, f0, f1, f2, f3, f4, hm⟩ => by subst hk; exact ⟨h0, h1, h2, h3, h4, h5, h6, h7, h8, he, f0, f1, f2, f3, f4, hm⟩

theorem rdenom_fun (u0 : BRat) (hpre : bk u0.b ∧ u0.b.abs ≠ []) (b1 : Nat) (ao2 : Option Addr) (cap3 : Nat) (ao5 : Option Addr) (cap6 : Nat) (B : Nat) (w0 : World) (Z0 : Fz) (Rr : List Res) (Z : Fz) (w : World) (hs4 : SlR (tyInt .u32) Z ao2 cap3 u0.a.abs) (hs7 : SlR (tyInt .u32) Z ao5 cap6 u0.b.abs) (hM0 : Mem B [] w0 Z0 ((.row b1 [.bool u0.a.neg, .slice ao2 u0.a.abs.length cap3, .bool u0.b.neg, .slice ao5 u0.b.abs.length cap6] 75) :: Rr) Z w) (hZ : Z.on w) : Calls Tryz.prog 70 #[pt b1 0] w fun e w' => ∃ (ao1001 : Option Addr) (cap1002 : Nat) (ao1004 : Option Addr) (cap1005 : Nat) (b1007 : Nat) (ao1008 : Option Addr) (cap1009 : Nat) (Z' : Fz), e = .returned (pt b1007 0) ∧ Fz.le Z Z' ∧ SlR (tyInt .u32) Z' ao1001 cap1002 (rdenomS u0).1.a.abs ∧ SlR (tyInt .u32) Z' ao1004 cap1005 (rdenomS u0).1.b.abs ∧ SlR (tyInt .u32) Z' ao1008 cap1009 (rdenomS u0).2.abs ∧ Mem B [] w0 Z0 ((.row b1007 [.bool (rdenomS u0).2.neg, .slice ao1008 (rdenomS u0).2.abs.length cap1009] 73) :: (.row b1 [.bool (rdenomS u0).1.a.neg, .slice ao1001 (rdenomS u0).1.a.abs.length cap1002, .bool (rdenomS u0).1.b.neg, .slice ao1004 (rdenomS u0).1.b.abs.length cap1005] 75) :: Rr) Z' w' :=
  (rdenom_walk u0 b1 ao2 cap3 ao5 cap6 B w0 Z0 Rr Z w hs4 hs7 hM0 hZ (rdenom_ok u0 hpre)).mono fun _ _ ⟨r, h0, h1, h2, h3, h4, h5, h6, h7, he, hk, f0, f1, f2, f3, hm⟩ => by subst hk; exact ⟨h0, h1, h2, h3, h4, h5, h6, h7, he, f0, f1, f2, f3, hm⟩

end Go.Proofs.YtdndfbamhnchfaaGreatDoor
set_option linter.unusedVariables false
set_option linter.unusedSimpArgs false
set_option maxRecDepth 100000
set_option maxHeartbeats 0
namespace Go.Proofs.YtdndfbamhnchfaaGreatDoor
open Go.Sy Go.RowKit
abbrev e46Nh (X : Signal) : List Value := [str X.Name, i6 X.Start, i6 X.Size, .bool X.Back, .bool X.Signed, i6 X.Mul, i6 X.Div, i6 X.Add, i6 X.Key]
abbrev e75Nh (X : BRat) (A0 : Option Addr) (C0 : Nat) (A1 : Option Addr) (C1 : Nat) : List Value := [.bool X.a.neg, .slice A0 X.a.abs.length C0, .bool X.b.neg, .slice A1 X.b.abs.length C1]
def rcheckm_fun (u0 : Message) (ao1 : Option Addr) (cap2 : Nat) (Z : Fz) (w : World) (hs3 : SlR tySignal Z ao1 cap2 u0.Signals) (hZ : Z.on w) := f_ (rcheckm_walk u0 ao1 cap2 Z w hs3 hZ (rcheckm_ok u0))
theorem rmean_walk (u0 : Signal) (u1 : Int)  (Z : Fz) (w : World)  (hZ : Z.on w) {K : Reading → Prop} (hp : rmean_vc u0 u1 K) : Calls Tryz.prog 33 #[.agg #[str u0.Name, i6 u0.Start, i6 u0.Size, .bool u0.Back, .bool u0.Signed, i6 u0.Mul, i6 u0.Div, i6 u0.Add, i6 u0.Key], i6 u1] w fun e w' => ∃ r : Reading, e = .returned (.agg #[str r.Name, i6 r.Num, i6 r.Den]) ∧ K r ∧ Below w.heap.size w w' := by
 refine enter0 Tryz.func33 rfl rfl (by kernel_rfl) ?_; intro a0 ak; have al := Mem.start w Z hZ
 refine sqH ?_; intro bE am
 refine nw ak al pb (e46Nh u0) 46 ?_; intro t a3 cj an ao
 refine nw an ao pb [str [], i6 0, i6 0] 37 ?_; intro p a8 cl ap aq
 apply am
 refine sqH ?_; intro bF ar
 refine nw ap aq pb [.bool false, .slice none 0 0, .bool false, .slice none 0 0] 75 ?_; intro d cm cn au O
 refine bt au O 6 [2, 2] [] [(10, i6 (w64 (u1 * u0.Mul))), (12, i6 u0.Div)] ?_; intro co av
 obtain ⟨bG, aw⟩ := hp
 refine ck av 42 #[pt d 0, i6 (w64 (u1 * u0.Mul)), i6 u0.Div] ?_
 obtain ⟨z, bH, ax⟩ := hxq aw
 have q := rsf64_fun (⟨(⟨false, []⟩ : BInt), (⟨false, []⟩ : BInt)⟩ : BRat) (w64 (u1 * u0.Mul)) u0.Div bG d none 0 none 0 _ _ _ _ _ _ (SlR.nil _ _) (SlR.nil _ _) O O.fz; rw [bH] at q; refine q.mono ?_; rintro _ bI ⟨T, U, V, W, bJ, rfl, bK, h, i, hm⟩; refine ⟨_, rfl, ?_⟩; intro cp ay; have az := hm
 have X : Mem w.heap.size [] w Z [.row d (e75Nh z T U V W) 75, .row p [str [], i6 0, i6 0] 37, .row t (e46Nh u0) 46] bJ bI := az
 have bL := ax (h.small) (i.small)
 refine s1 ay 5 (pt d 0) ?_; intro cq aB
 apply ar
 refine sqH ?_; intro bM aC
 refine bt aB X 2 [] [] [(14, pt d 0), (15, pt d 0)] ?_; intro cr aD
 refine nw aD X pb [.bool false, .slice none 0 0, .bool false, .slice none 0 0] 75 ?_; intro s cs ct aE P
 refine bt aE P 2 [3] [] [(18, i6 u0.Add)] ?_; intro cu aF
 obtain ⟨bN, aG⟩ := bL
 refine ck aF 44 #[pt s 0, i6 u0.Add] ?_
 obtain ⟨I, bO, aH⟩ := hxq aG
 have q := rsi_fun (⟨(⟨false, []⟩ : BInt), (⟨false, []⟩ : BInt)⟩ : BRat) u0.Add bN s none 0 none 0 _ _ _ _ _ _ (SlR.nil _ _) (SlR.nil _ _) P P.fz; rw [bO] at q; refine q.mono ?_; rintro _ bP ⟨aI, aJ, aK, aL, bQ, rfl, Y, l, m, hm⟩; refine ⟨_, rfl, ?_⟩; intro cv aM; have aN := hm
 replace h := h.mono Y
 replace i := i.mono Y
 have aa : Mem w.heap.size [] w Z [.row s (e75Nh I aI aJ aK aL) 75, .row d (e75Nh z T U V W) 75, .row p [str [], i6 0, i6 0] 37, .row t (e46Nh u0) 46] bQ bP := aN
 obtain ⟨bS, aP⟩ := aH (l.small) (m.small)
 refine ck aM 69 #[pt d 0, pt d 0, pt s 0] ?_
 obtain ⟨c, bT, aQ⟩ := hxq aP
 have q := radd_fun z I bS d T U V W s aI aJ aK aL _ _ _ _ _ _ h i l m (aa.perm ((pk 1 rfl).trans ((List.Perm.refl _).cons _))) aa.fz; rw [bT] at q; refine q.mono ?_; rintro _ bU ⟨aR, aS, aT, aU, E, F, G, H, aV, rfl, J, u, x, A, B, hm⟩; refine ⟨_, rfl, ?_⟩; intro bV aW; have aX := hm
 have aY : Mem w.heap.size [] w Z [.row d (e75Nh c.1 aR aS aT aU) 75, .row s (e75Nh c.2 E F G H) 75, .row p [str [], i6 0, i6 0] 37, .row t (e46Nh u0) 46] aV bU := aX
 have bW := aQ (u.small) (x.small) (A.small) (B.small)
 apply aC
 have a4 : Fr 30 [] [⟨2, [], pt t 0⟩, ⟨4, [], pt p 0⟩, ⟨5, [], pt d 0⟩] bV := aW.reg
 refine wp_seq (rgS mixed aY [(0, true), (1, true), (2, true), (5, true), (3, false), (4, false), (6, false), (7, false), (8, true), (9, false)] [9] [3] [.row t (e46Nh u0) 46] ?_)
 intro bX a5 cw ab
 have n := Fz.le.refl aV
 refine cS a4 4 [0] [] [(22, str u0.Name), (23, pt d 0), (26, pt d 0)] ?_; intro cx a6
 refine eS rfl ?_; intro bY a7
 refine ck a6 52 #[pt d 0] ?_
 refine (rnum_fun c.1 d aR aS aT aU _ _ _ _ _ _ u x ab ab.fz).mono ?_; rintro _ bZ ⟨a9, ba, bb, bc, b0, rfl, y, C, D, hm⟩; refine ⟨_, rfl, ?_⟩; intro cy bd; have be := hm
 replace n := n.mono y
 have Q : Mem w.heap.size [] w Z [.row d (e75Nh (rnumS c.1) a9 ba bb bc) 75, .row s (e75Nh c.2 E F G H) 75, .row p [str [], i6 0, i6 0] 37, .row t (e46Nh u0) 46] b0 bZ := be
 refine nl (qnI (a7 _ _ (Q.cst n [3]) ?_))
 refine eS rfl ?_; intro b1 bf
 obtain ⟨b3, b4⟩ := bW
 refine ck bd 54 #[pt d 0] ?_
 refine (gi64A_fun (rnumS c.1) b3 d a9 ba bb bc _ _ _ _ _ _ C D Q Q.fz).mono ?_; rintro _ b5 ⟨bg, bh, bi, bj, b6, rfl, o, L, M, hm⟩; refine ⟨_, rfl, ?_⟩; intro cz bk; have bl := hm
 replace n := n.mono o
 have R : Mem w.heap.size [] w Z [.row d (e75Nh ((gi64AS (rnumS c.1)).2) bg bh bi bj) 75, .row s (e75Nh c.2 E F G H) 75, .row p [str [], i6 0, i6 0] 37, .row t (e46Nh u0) 46] b6 b5 := bl
 refine nl (qnI (bf _ _ (R.cst n [3]) ?_))
 refine eS rfl ?_; intro b8 bm
 obtain ⟨b9, ca⟩ := b4
 refine ck bk 70 #[pt d 0] ?_
 refine (rdenom_fun (gi64AS (rnumS c.1)).2 b9 d bg bh bi bj _ _ _ _ _ _ L M R R.fz).mono ?_; rintro _ cb ⟨ac, ae, af, ag, N, bn, bo, cc, rfl, j, bp, bq, ah, hm⟩; refine ⟨_, rfl, ?_⟩; intro cA br; have bs := hm
 replace n := n.mono j
 have S : Mem w.heap.size [] w Z [.row N [.bool (rdenomS (gi64AS (rnumS c.1)).2).2.neg, .slice bn (rdenomS (gi64AS (rnumS c.1)).2).2.abs.length bo] 73, .row d (e75Nh ((rdenomS (gi64AS (rnumS c.1)).2).1) ac ae af ag) 75, .row s (e75Nh c.2 E F G H) 75, .row p [str [], i6 0, i6 0] 37, .row t (e46Nh u0) 46] cc cb := bs
 refine nl (qnI (bm _ _ (S.cst n [4]) ?_))
 refine eS rfl ?_; intro cd bu
 obtain ⟨ce, cf⟩ := ca
 refine ck br 54 #[pt N 0] ?_
 refine (gi64_fun (rdenomS (gi64AS (rnumS c.1)).2).2 ce N bn bo _ _ _ _ _ _ ah S S.fz).mono ?_; rintro _ cg ⟨bv, bw, bx, rfl, f, cB, hm⟩; refine ⟨_, rfl, ?_⟩; intro cC bz; have bA := hm
 replace n := n.mono f
 have ai : Mem w.heap.size [] w Z [.row N [.bool (gi64S (rdenomS (gi64AS (rnumS c.1)).2).2).2.neg, .slice bv (gi64S (rdenomS (gi64AS (rnumS c.1)).2).2).2.abs.length bw] 73, .row d (e75Nh ((rdenomS (gi64AS (rnumS c.1)).2).1) ac ae af ag) 75, .row s (e75Nh c.2 E F G H) 75, .row p [str [], i6 0, i6 0] 37, .row t (e46Nh u0) 46] bx cg := bA
 refine nl (qnI (bu _ _ (ai.cst n [4]) ?_))
 refine cS bz 1 [] [] [(29, .agg #[str u0.Name, i6 (gi64AS (rnumS c.1)).1, i6 (gi64S (rdenomS (gi64AS (rnumS c.1)).2).2).1])] ?_; intro cD aj
 refine eL rfl ?_; intro ch bB
 refine sx aj ai 3 [str u0.Name, i6 (gi64AS (rnumS c.1)).1, i6 (gi64S (rdenomS (gi64AS (rnumS c.1)).2).2).1] 0 ?_; intro ci bC
 have bD : Mem w.heap.size [] w Z [.row N [.bool (gi64S (rdenomS (gi64AS (rnumS c.1)).2).2).2.neg, .slice bv (gi64S (rdenomS (gi64AS (rnumS c.1)).2).2).2.abs.length bw] 73, .row d (e75Nh ((rdenomS (gi64AS (rnumS c.1)).2).1) ac ae af ag) 75, .row s (e75Nh c.2 E F G H) 75, .row p [str u0.Name, i6 (gi64AS (rnumS c.1)).1, i6 (gi64S (rdenomS (gi64AS (rnumS c.1)).2).2).1] 37, .row t (e46Nh u0) 46] bx ci := bC
 refine nl (qnI (bB _ _ ?_))
 refine nS (a5 _ _ ?_)
 refine t_ (r_ (rt (fn := Tryz.f33) (v := .agg #[str u0.Name, i6 (gi64AS (rnumS c.1)).1, i6 (gi64S (rdenomS (gi64AS (rnumS c.1)).2).2).1]) aj (re1c aj (fn := Tryz.f33) rfl (ad := ⟨p, 0, none⟩) (by kernel_rfl) (loadVar_run bD 3 (b := p) (k := 3) (vs := [str u0.Name, i6 (gi64AS (rnumS c.1)).1, i6 (gi64S (rdenomS (gi64AS (rnumS c.1)).2).2).1]) (ty := 37) rfl (by kernel_rfl) (by kernel_rfl)) ) ?_))
 exact ⟨(⟨u0.Name, (gi64AS (rnumS c.1)).1, (gi64S (rdenomS (gi64AS (rnumS c.1)).2).2).1⟩ : Reading), rfl, cf, bD.below⟩

end Go.Proofs.YtdndfbamhnchfaaGreatDoor
set_option linter.unusedVariables false
set_option linter.unusedSimpArgs false
set_option maxRecDepth 100000
set_option maxHeartbeats 0
namespace Go.Proofs.YtdndfbamhnchfaaGreatDoor
open Go.Sy Go.RowKit
abbrev e46Mv (X : Signal) : List Value := [str X.Name, i6 X.Start, i6 X.Size, .bool X.Back, .bool X.Signed, i6 X.Mul, i6 X.Div, i6 X.Add, i6 X.Key]
abbrev e27Mv (X : Frame) (A0 : Option Addr) (C0 : Nat) : List Value := [i6 X.ID, .bool X.Long, .bool X.Fast, .bool X.Remote, i6 X.Size, .slice A0 X.Data.length C0]
abbrev e24Mv (X : Message) (A0 : Option Addr) (C0 : Nat) : List Value := [i6 X.ID, .bool X.Long, str X.Name, i6 X.Size, i6 X.Chooser, .slice A0 X.Signals.length C0]
abbrev e37Mv (X : Reading) : List Value := [str X.Name, i6 X.Num, i6 X.Den]
def rmean_fun (u0 : Signal) (u1 : Int) (hpre : factS u0 ∧ -1099511627776 ≤ u1 ∧ u1 ≤ 1099511627776)  (Z : Fz) (w : World)  (hZ : Z.on w) := f_ (rmean_walk u0 u1  Z w  hZ (rmean_ok u0 u1 hpre))
theorem rreads_walk (u0 : Message) (u1 : Frame) (ao1 : Option Addr) (cap2 : Nat) (ao4 : Option Addr) (cap5 : Nat) (Z : Fz) (w : World) (hs3 : SlR tySignal Z ao1 cap2 u0.Signals) (hs6 : SlR t8 Z ao4 cap5 u1.Data) (hZ : Z.on w) {K : ((List Reading) × Int) → Prop} (hp : rreads_vc u0 u1 K) : Calls Tryz.prog 10 #[.agg #[i6 u0.ID, .bool u0.Long, str u0.Name, i6 u0.Size, i6 u0.Chooser, .slice ao1 u0.Signals.length cap2], .agg #[i6 u1.ID, .bool u1.Long, .bool u1.Fast, .bool u1.Remote, i6 u1.Size, .slice ao4 u1.Data.length cap5]] w fun e w' => ∃ (r : (List Reading) × Int) (ao1001 : Option Addr) (cap1002 : Nat) (Z' : Fz), e = .returned (.tuple #[.slice ao1001 r.1.length cap1002, i6 r.2]) ∧ K r ∧ Mem w.heap.size [] w Z [.own tyReading 37 ao1001 cap1002 r.1] Z' w' := by
 refine enter0 Tryz.func10 rfl rfl (by kernel_rfl) ?_; intro a0 R; have S := Mem.start w Z hZ
 have q := hp (hs3.small) (hs6.small)
 refine sqH ?_; intro aM V
 refine nw R S pb (e24Mv u0 ao1 cap2) 24 ?_; intro g bw bx W X
 refine nw W X pb (e27Mv u1 ao4 cap5) 27 ?_; intro d bz F Y f
 refine bt Y f 2 [] [] [] ?_; intro bA aa
 apply V
 refine s_ (sqB aa f [0, 1, 0, 1, 0] [] [(24, .bool (((u1.ID != u0.ID) || (u1.Long != u0.Long)) || u1.Remote))] ?_); intro bB m
 refine cd m (t := ((u1.ID != u0.ID) || (u1.Long != u0.Long)) || u1.Remote) (by kernel_rfl) (fun G => ?_) (fun G => ?_)
 · -- yes
  have aN := q.1 G
  refine sqB m f [] [] [(4, .slice none 0 0), (5, i6 8)] ?_; intro bC aO
  refine r_ (h_ ?_)
  have aP : Mem w.heap.size [] w Z [.own tyReading 37 none 0 ([] : List Reading), .row d (e27Mv u1 ao4 cap5) 27, .row g (e24Mv u0 ao1 cap2) 24] Z F := f.addNil tyReading 37 (by decide)
  exact ra2 aO (.tuple #[.slice none ([] : List Reading).length 0, i6 8]) ⟨(([] : List Reading), 8), none, 0, Z, rfl, aN, aP.kp⟩
 · -- no
  have u := q.2 G
  refine k_ (s_ (sqB m f [0, 1] [] [(30, .bool (decide ((u1.Data.length : Int) < u0.Size)))] ?_)); intro bD n
  refine cd n (t := decide ((u1.Data.length : Int) < u0.Size)) (by kernel_rfl) (fun H => ?_) (fun H => ?_)
  · -- yes
   have aQ := u.1 H
   refine sqB n f [] [] [(4, .slice none 0 0), (5, i6 7)] ?_; intro bE aR
   refine r_ (h_ ?_)
   have aS : Mem w.heap.size [] w Z [.own tyReading 37 none 0 ([] : List Reading), .row d (e27Mv u1 ao4 cap5) 27, .row g (e24Mv u0 ao1 cap2) 24] Z F := f.addNil tyReading 37 (by decide)
   exact ra2 aR (.tuple #[.slice none ([] : List Reading).length 0, i6 7]) ⟨(([] : List Reading), 7), none, 0, Z, rfl, aQ, aS.kp⟩
  · -- no
   have aT := u.2 H
   refine k_ (sqB n f [] [] [(6, .slice none 0 0)] ?_); intro bF ab
   refine s_ (sqB ab f [1] [] [(32, .slice ao1 u0.Signals.length cap2), (33, i6 (u0.Signals.length : Int)), (34, i6 0)] ?_); intro ac ad
   apply b_
   have ae : Fr 54 [] [⟨2, [], pt g 0⟩, ⟨3, [], pt d 0⟩, ⟨6, [], .slice none 0 0⟩, ⟨32, [], .slice ao1 u0.Signals.length cap2⟩, ⟨33, [], i6 (u0.Signals.length : Int)⟩, ⟨34, [], i6 0⟩] ac := ad.reg
   have af : Mem w.heap.size [] w Z [.own tyReading 37 none 0 ([] : List Reading), .row d (e27Mv u1 ao4 cap5) 27, .row g (e24Mv u0 ao1 cap2) 24] Z F := f.addNil tyReading 37 (by decide)
   have ag : Fr 54 [] [⟨2, [], pt g 0⟩, ⟨3, [], pt d 0⟩, ⟨6, [], .slice none ([] : List Reading).length 0⟩, ⟨32, [], .slice ao1 u0.Signals.length cap2⟩, ⟨33, [], i6 (u0.Signals.length : Int)⟩, ⟨34, [], i6 0⟩] ac := ae.reg
   obtain ⟨aU, aV, aW, aX⟩ := aT
   refine lp (ι := (List Reading) × Int × (Option Addr) × Nat) (fun s => [⟨2, [], pt g 0⟩, ⟨3, [], pt d 0⟩, ⟨6, [], .slice s.2.2.1 s.1.length s.2.2.2⟩, ⟨32, [], .slice ao1 u0.Signals.length cap2⟩, ⟨33, [], i6 (u0.Signals.length : Int)⟩, ⟨34, [], i6 s.2.1⟩]) (fun s => [.own tyReading 37 s.2.2.1 s.2.2.2 s.1, .row d (e27Mv u1 ao4 cap5) 27, .row g (e24Mv u0 ao1 cap2) 24]) (fun s => Z) (fun s => aU s.1 s.2.1) (fun s => aV s.1 s.2.1) ⟨([] : List Reading), 0, none, 0⟩ aW (by exact ag.region (by kernel_rfl) (by kernel_rfl)) (by exact af) ?_
   rintro ⟨c, h, i, j⟩ aY aZ a1 ah ai
   have v := aX c h aY
   refine sqB ah ai [] [] [(35, .bool (decide (h < (u0.Signals.length : Int))))] ?_; intro bG o
   apply s_
   refine cd o (t := decide (h < (u0.Signals.length : Int))) (by kernel_rfl) (fun I => ?_) (fun I => ?_)
   · -- yes
    have a2 := v.1 I
    refine k_ (s_ (b_ (sqH ?_))); intro a3 ak
    obtain ⟨a4, al⟩ := a2
    refine ix_ o hs3 h a4 .i64 46 72 ?_; intro bH bI a5 a bJ a6 a7 a8 am
    have a9 := al a a6
    obtain rfl : a5 = ((e46Mv a) : List Value) := a8
    refine z2 am ai 37 a7 0 9 (e46Mv a) rfl ?_; intro bK an
    refine nw an ai pb [str [], i6 0, i6 0, .bool false, .bool false, i6 0, i6 0, i6 0, i6 0] 46 ?_; intro y bL bM J aq
    refine sx J aq 0 (e46Mv a) 0 ?_; intro ba ar
    have z : Mem w.heap.size [] w Z [.row y (e46Mv a) 46, .own tyReading 37 i j c, .row d (e27Mv u1 ao4 cap5) 27, .row g (e24Mv u0 ao1 cap2) 24] Z ba := ar
    apply ak
    refine sqH ?_; intro bb au
    refine bt J z 4 [3, 0, 2] [] [(38, .agg (e24Mv u0 ao1 cap2).toArray), (39, .agg (e46Mv a).toArray), (41, .slice ao4 u1.Data.length cap5)] ?_; intro bN av
    obtain ⟨bc, A⟩ := a9
    refine fc av z (rthere_fun u0 a u1.Data bc ao1 cap2 ao4 cap5 _ _ hs3 hs6 z.fz) ?_; intro bd bO p B
    apply au
    refine cd p (t := (mthereS u0 a u1.Data)) (by kernel_rfl) (fun L => ?_) (fun L => ?_)
    · -- yes
     have be := A.1 L
     have aw : Fr 54 [] [⟨2, [], pt g 0⟩, ⟨3, [], pt d 0⟩, ⟨6, [], .slice i c.length j⟩, ⟨8, [], pt y 0⟩, ⟨32, [], .slice ao1 u0.Signals.length cap2⟩, ⟨33, [], i6 (u0.Signals.length : Int)⟩, ⟨34, [], i6 h⟩] bd := p.reg
     refine rgS mixed B [(0, true), (1, true), (2, true), (3, true), (4, true), (5, false), (6, false), (7, false), (8, false), (9, true)] [] [0, 2] [.row y (e46Mv a) 46, .row d (e27Mv u1 ao4 cap5) 27] ?_
     intro bf ax bP M
     have C := Fz.le.refl Z
     refine cS aw 5 [0, 0, 1] [] [(43, .slice i c.length j), (44, .agg (e46Mv a).toArray), (45, .agg (e46Mv a).toArray), (47, .slice ao4 u1.Data.length cap5)] ?_; intro bQ ay
     refine eS rfl ?_; intro bg az
     obtain ⟨bh, bi⟩ := be
     refine fc ay M (rrawof_fun a u1.Data bh ao4 cap5 _ _ hs6 M.fz) ?_; intro bR bS aA D
     refine nl (qnI (az _ _ (D.cst C [0, 2]) ?_))
     refine eS rfl ?_; intro bj aB
     obtain ⟨bk, bl⟩ := bi
     refine fc aA D (rmean_fun a (getS a u1.Data) bk _ _ D.fz) ?_; intro bT bU aC N
     refine nl (qnI (aB _ _ (N.cst C [0, 2]) ?_))
     refine eS rfl ?_; intro bm aD
     refine nw aC N (fun b => .slice (sm b) 1 1) (e37Mv (meanS a (getS a u1.Data))) 37 ?_; intro aE bV bW aF E
     refine nl (qnI (aD _ _ (E.cst C [1, 3]) ?_))
     refine eS rfl ?_; intro bn aG
     obtain ⟨bo, aH⟩ := bl
     refine ap aF E 2 (T := tyReading) (xs := c) (ys := [(meanS a (getS a u1.Data))]) (ao := i) (cap := j) (ao2 := (sm aE)) (cap2 := 1) (t := 28) (e := 37) (bytes := 32) (nog rfl _) rfl (by kernel_rfl) rfl (by kernel_rfl) (by kernel_rfl) (by kernel_rfl) rfl (Src.row E 0 rfl (RepAll.one (T := tyReading) (x := (meanS a (getS a u1.Data))) rfl)) bo ?_; intro O P bX bp bY aI aJ
     have Q : Mem w.heap.size [] w Z [.row aE (e37Mv (meanS a (getS a u1.Data))) 37, .row y (e46Mv a) 46, .own tyReading 37 O P (c ++ [(meanS a (getS a u1.Data))]), .row d (e27Mv u1 ao4 cap5) 27, .row g (e24Mv u0 ao1 cap2) 24] Z bp := aJ
     refine nl (qnI (aG _ _ (Q.cst C [1, 3]) ?_))
     refine cS aI 1 [] [] [(6, .slice O (c ++ [(meanS a (getS a u1.Data))]).length P)] ?_; intro bZ aK
     refine nS (ax _ _ ?_)
     refine j_ (t_ (rgB aK Q [] [] [(34, i6 (w64 (h + 1)))] ?_)); intro b0 bq
     exact d_ ⟨⟨c ++ [(meanS a (getS a u1.Data))], w64 (h + 1), O, P⟩, aH.1, aH.2, (bq.region (by kernel_rfl) (by kernel_rfl)).anyβ _ (by kernel_rfl), Q.kp⟩
    · -- no
     have aL := A.2 L
     refine l_ (j_ (t_ (rgB p B [] [] [(34, i6 (w64 (h + 1)))] ?_))); intro b1 br
     exact d_ ⟨⟨c, w64 (h + 1), i, j⟩, aL.1, aL.2, (br.region (by kernel_rfl) (by kernel_rfl)).anyβ _ (by kernel_rfl), B.kp⟩
   · -- no
    have bs := v.2 I
    refine x_ (y_ (y_ (z_ (t_ (sqB o ai [] [] [(4, .slice i c.length j), (5, i6 0)] ?_))))); intro b2 bu
    exact r_ (ra2 bu (.tuple #[.slice i c.length j, i6 0]) ⟨(c, 0), i, j, Z, rfl, bs, ai.kp⟩)

end Go.Proofs.YtdndfbamhnchfaaGreatDoor
set_option linter.unusedVariables false
set_option linter.unusedSimpArgs false
set_option maxRecDepth 100000
set_option maxHeartbeats 0
namespace Go.Proofs.YtdndfbamhnchfaaGreatDoor
open Go.Sy Go.RowKit
abbrev e27Mw (X : Frame) (A0 : Option Addr) (C0 : Nat) : List Value := [i6 X.ID, .bool X.Long, .bool X.Fast, .bool X.Remote, i6 X.Size, .slice A0 X.Data.length C0]
abbrev e24Mw (X : Message) (A0 : Option Addr) (C0 : Nat) : List Value := [i6 X.ID, .bool X.Long, str X.Name, i6 X.Size, i6 X.Chooser, .slice A0 X.Signals.length C0]
def rreads_fun (u0 : Message) (u1 : Frame) (hpre : mcheckS u0 = 0 ∧ isBytes u1.Data) (ao1 : Option Addr) (cap2 : Nat) (ao4 : Option Addr) (cap5 : Nat) (Z : Fz) (w : World) (hs3 : SlR tySignal Z ao1 cap2 u0.Signals) (hs6 : SlR t8 Z ao4 cap5 u1.Data) (hZ : Z.on w) := fc_ (rreads_walk u0 u1 ao1 cap2 ao4 cap5 Z w hs3 hs6 hZ (rreads_ok u0 u1 hpre))
def meant_fun   (Z : Fz) (w : World)  (hZ : Z.on w) := f_ (meant_walk   Z w  hZ (meant_ok ))
theorem LMRead_walk (u0 : Message) (u1 : Frame) (ao1 : Option Addr) (cap2 : Nat) (ao4 : Option Addr) (cap5 : Nat) (Z : Fz) (w : World) (hs3 : SlR tySignal Z ao1 cap2 u0.Signals) (hs6 : SlR t8 Z ao4 cap5 u1.Data) (hZ : Z.on w) {K : Bool → Prop} (hp : LMRead_vc u0 u1 K) : Calls Tryz.prog 3 #[.agg #[i6 u0.ID, .bool u0.Long, str u0.Name, i6 u0.Size, i6 u0.Chooser, .slice ao1 u0.Signals.length cap2], .agg #[i6 u1.ID, .bool u1.Long, .bool u1.Fast, .bool u1.Remote, i6 u1.Size, .slice ao4 u1.Data.length cap5]] w fun e w' => ∃ r : Bool, e = .returned (.bool r) ∧ K r ∧ Below w.heap.size w w' := by
 refine enter0 Tryz.func3 rfl rfl (by kernel_rfl) ?_; intro a0 Y; have aa := Mem.start w Z hZ
 have bg := hp (hs3.small) (hs6.small)
 refine sqH ?_; intro bh ac
 refine nw Y aa pb (e24Mw u0 ao1 cap2) 24 ?_; intro j bX bY ad ae
 refine nw ad ae pb (e27Mw u1 ao4 cap5) 27 ?_; intro k bZ b0 af y
 refine s1 af 4 (.bool false) ?_; intro b1 ag
 apply ac
 refine sqH ?_; intro bi ah
 refine bt ag y 2 [1, 0] [] [(11, .agg (e24Mw u0 ao1 cap2).toArray), (12, .agg (e27Mw u1 ao4 cap5).toArray)] ?_; intro b2 ai
 obtain ⟨bk, aj⟩ := bg
 refine ck ai 6 #[.agg (e24Mw u0 ao1 cap2).toArray, .agg (e27Mw u1 ao4 cap5).toArray] ?_
 refine (mread_fun u0 u1 bk ao1 cap2 ao4 cap5 _ _ hs3 hs6 y.fz).mono ?_; rintro _ bl ⟨c, d, bm, rfl, hm⟩; refine ⟨_, rfl, ?_⟩; intro b3 ak; have al := y.callZ hm; have E := hm.ext.le
 replace hs3 := hs3.mono E
 replace hs6 := hs6.mono E
 have l : Mem w.heap.size [] w Z [.own tyReading 37 c d (readS u0 u1).1, .row k (e27Mw u1 ao4 cap5) 27, .row j (e24Mw u0 ao1 cap2) 24] bm bl := al
 have z := aj (l.ownSmall 0 rfl)
 refine bt ak l 5 [] [] [(5, .slice c (readS u0 u1).1.length d), (6, i6 (readS u0 u1).2)] ?_; intro b4 am
 apply ah
 refine sqH ?_; intro bn an
 refine l2 am l 16 2 0 6 (e24Mw u0 ao1 cap2) rfl rfl ?_; intro b5 ao
 refine fc ao l (rcheckm_fun u0 ao1 cap2 _ _ hs3 l.fz) ?_; intro b6 b7 ap f
 refine s1 ap 7 (i6 (mcheckS u0)) ?_; intro b8 aq
 apply an
 refine s_ (sqB aq f [] [] [(19, .bool ((mcheckS u0) == 0))] ?_); intro b9 s
 refine cd s (t := (mcheckS u0) == 0) (by kernel_rfl) (fun F => ?_) (fun F => ?_)
 · -- yes
  have A := z.1 F
  refine rgH ?_; intro bo ar
  refine l2 s f 20 1 0 6 (e27Mw u1 ao4 cap5) rfl rfl ?_; intro ca au
  refine fc au f (rcheckfr_fun u1 ao4 cap5 _ _ hs6 f.fz) ?_; intro cb cc av G
  refine s1 av 7 (i6 (fcheckfr u1)) ?_; intro ce aw
  apply ar
  refine t_ (s_ (sqH ?_)); intro bp ax
  refine fc aw G (meant_fun  _ _ G.fz) ?_; intro cf cg ay h
  refine bt ay h 5 [] [25, 26, 27] [(27, .bool ((fcheckfr u1) != 0))] ?_; intro ch u
  apply ax
  refine cd u (t := (fcheckfr u1) != 0) (by kernel_rfl) (fun H => ?_) (fun H => ?_)
  · -- yes
   have bq := A.1 H
   refine sqH ?_; intro br az
   refine fc u h (meant_fun  _ _ h.fz) ?_; intro ci cl aA aB
   refine bt aA aB 11 [] [30, 31, 32, 33] [(4, .bool (((readS u0 u1).2 == (fcheckfr u1)) && (((readS u0 u1).1.length : Int) == 0)))] ?_; intro cm bs
   apply az
   exact r_ (h_ (ra1 bs (.bool (((readS u0 u1).2 == (fcheckfr u1)) && (((readS u0 u1).1.length : Int) == 0))) ⟨((readS u0 u1).2 == (fcheckfr u1)) && (((readS u0 u1).1.length : Int) == 0), rfl, bq, aB.below⟩))
  · -- no
   have bu := A.2 H
   refine k_ (sqH ?_); intro bv aC
   refine bt u h 2 [2, 1] [] [(40, .agg (e24Mw u0 ao1 cap2).toArray), (41, .agg (e27Mw u1 ao4 cap5).toArray)] ?_; intro cn aD
   obtain ⟨bw, aE⟩ := bu
   refine ck aD 10 #[.agg (e24Mw u0 ao1 cap2).toArray, .agg (e27Mw u1 ao4 cap5).toArray] ?_
   refine (rreads_fun u0 u1 bw ao1 cap2 ao4 cap5 _ _ hs3 hs6 h.fz).mono ?_; rintro _ I ⟨n, o, bx, rfl, hm⟩; refine ⟨_, rfl, ?_⟩; intro co aF; have aG := h.callZ hm
   have L : Mem w.heap.size [] w Z [.own tyReading 37 n o (rreadsS u0 u1).1, .own tyReading 37 c d (readS u0 u1).1, .row k (e27Mw u1 ao4 cap5) 27, .row j (e24Mw u0 ao1 cap2) 24] bx I := aG
   have bz := aE (L.ownSmall 0 rfl)
   refine bt aF L 5 [] [] [(8, .slice n (rreadsS u0 u1).1.length o), (9, i6 (rreadsS u0 u1).2)] ?_; intro cp aH
   apply aC
   refine sqH ?_; intro bA aI
   refine s1 aH 45 (i6 (readS u0 u1).2) ?_; intro cq aJ
   refine s1 aJ 46 (i6 (rreadsS u0 u1).2) ?_; intro cr aK
   refine s1 aK 47 (.bool ((readS u0 u1).2 == (rreadsS u0 u1).2)) ?_; intro cs aL
   refine s1 aL 48 (.bool ((readS u0 u1).2 == (rreadsS u0 u1).2)) ?_; intro ct aM
   have aN := aM.atom (((readS u0 u1).2 == (rreadsS u0 u1).2) == true) (by kernel_rfl)
   refine gp aN 49 0 [] ((readS u0 u1).2 == (rreadsS u0 u1).2) (.slice c (readS u0 u1).1.length d) rfl rfl ?_; intro cu aO
   refine gp aO 50 0 [] ((readS u0 u1).2 == (rreadsS u0 u1).2) (.slice n (rreadsS u0 u1).1.length o) rfl rfl ?_; intro cv aP
   obtain ⟨bB, M, aQ, N⟩ := L.freeze 1 rfl
   have bC : Mem w.heap.size [] w Z [.own tyReading 37 n o (rreadsS u0 u1).1, .row k (e27Mw u1 ao4 cap5) 27, .row j (e24Mw u0 ao1 cap2) 24] bB I := aQ
   obtain ⟨bD, B, aR, bE⟩ := bC.freeze 0 rfl
   replace N := N.mono B
   have O : Mem w.heap.size [] w Z [.row k (e27Mw u1 ao4 cap5) 27, .row j (e24Mw u0 ao1 cap2) 24] bD I := aR
   refine gcl aP O (.bool (reqS (readS u0 u1).1 (rreadsS u0 u1).1)) 11 #[.slice c (readS u0 u1).1.length d, .slice n (rreadsS u0 u1).1.length o] (m := 0) (cj := []) (bj := (readS u0 u1).2 == (rreadsS u0 u1).2) rfl rfl (by kernel_rfl) rfl (by kernel_rfl) (by kernel_rfl) (by kernel_rfl) (fun _ => by kernel_rfl) (fun hg => req_fun (readS u0 u1).1 (rreadsS u0 u1).1 c d n o _ _ N bE O.fz) ?_; intro cw cx P bF
   refine u_ P (.bool (((readS u0 u1).2 == (rreadsS u0 u1).2) && (reqS (readS u0 u1).1 (rreadsS u0 u1).1))) (pk_and P (g := []) (m := 0) (b := (readS u0 u1).2 == (rreadsS u0 u1).2) (v := (reqS (readS u0 u1).1 (rreadsS u0 u1).1)) rfl (by kernel_rfl) (by kernel_rfl) (by kernel_rfl) rfl) ?_; intro cy aS
   refine s1 aS 4 (.bool (((readS u0 u1).2 == (rreadsS u0 u1).2) && (reqS (readS u0 u1).1 (rreadsS u0 u1).1))) ?_; intro cz bG
   apply aI
   exact r_ (ra1 bG (.bool (((readS u0 u1).2 == (rreadsS u0 u1).2) && (reqS (readS u0 u1).1 (rreadsS u0 u1).1))) ⟨((readS u0 u1).2 == (rreadsS u0 u1).2) && (reqS (readS u0 u1).1 (rreadsS u0 u1).1), rfl, bz, bF.below⟩)
 · -- no
  have C := z.2 F
  refine k_ (s_ (sqH ?_)); intro bH aT
  refine fc s f (meant_fun  _ _ f.fz) ?_; intro cA cB aU i
  refine bt aU i 5 [] [25, 26, 27] [(27, .bool ((mcheckS u0) != 0))] ?_; intro cC x
  apply aT
  refine cd x (t := (mcheckS u0) != 0) (by kernel_rfl) (fun Q => ?_) (fun Q => ?_)
  · -- yes
   have bI := C.1 Q
   refine sqH ?_; intro bJ aV
   refine fc x i (meant_fun  _ _ i.fz) ?_; intro cD cE aW aX
   refine bt aW aX 11 [] [30, 31, 32, 33] [(4, .bool (((readS u0 u1).2 == (mcheckS u0)) && (((readS u0 u1).1.length : Int) == 0)))] ?_; intro cF bK
   apply aV
   exact r_ (h_ (ra1 bK (.bool (((readS u0 u1).2 == (mcheckS u0)) && (((readS u0 u1).1.length : Int) == 0))) ⟨((readS u0 u1).2 == (mcheckS u0)) && (((readS u0 u1).1.length : Int) == 0), rfl, bI, aX.below⟩))
  · -- no
   have bL := C.2 Q
   refine k_ (sqH ?_); intro bM aY
   refine bt x i 2 [2, 1] [] [(40, .agg (e24Mw u0 ao1 cap2).toArray), (41, .agg (e27Mw u1 ao4 cap5).toArray)] ?_; intro cG aZ
   obtain ⟨bN, a1⟩ := bL
   refine ck aZ 10 #[.agg (e24Mw u0 ao1 cap2).toArray, .agg (e27Mw u1 ao4 cap5).toArray] ?_
   refine (rreads_fun u0 u1 bN ao1 cap2 ao4 cap5 _ _ hs3 hs6 i.fz).mono ?_; rintro _ R ⟨p, q, bO, rfl, hm⟩; refine ⟨_, rfl, ?_⟩; intro cH a2; have a3 := i.callZ hm
   have T : Mem w.heap.size [] w Z [.own tyReading 37 p q (rreadsS u0 u1).1, .own tyReading 37 c d (readS u0 u1).1, .row k (e27Mw u1 ao4 cap5) 27, .row j (e24Mw u0 ao1 cap2) 24] bO R := a3
   have bP := a1 (T.ownSmall 0 rfl)
   refine bt a2 T 5 [] [] [(8, .slice p (rreadsS u0 u1).1.length q), (9, i6 (rreadsS u0 u1).2)] ?_; intro cI a4
   apply aY
   refine sqH ?_; intro bQ a5
   refine s1 a4 45 (i6 (readS u0 u1).2) ?_; intro cJ a6
   refine s1 a6 46 (i6 (rreadsS u0 u1).2) ?_; intro cK a7
   refine s1 a7 47 (.bool ((readS u0 u1).2 == (rreadsS u0 u1).2)) ?_; intro cL a8
   refine s1 a8 48 (.bool ((readS u0 u1).2 == (rreadsS u0 u1).2)) ?_; intro cM a9
   have ba := a9.atom (((readS u0 u1).2 == (rreadsS u0 u1).2) == true) (by kernel_rfl)
   refine gp ba 49 0 [] ((readS u0 u1).2 == (rreadsS u0 u1).2) (.slice c (readS u0 u1).1.length d) rfl rfl ?_; intro cN bb
   refine gp bb 50 0 [] ((readS u0 u1).2 == (rreadsS u0 u1).2) (.slice p (rreadsS u0 u1).1.length q) rfl rfl ?_; intro cO bc
   obtain ⟨bR, U, bd, V⟩ := T.freeze 1 rfl
   have bS : Mem w.heap.size [] w Z [.own tyReading 37 p q (rreadsS u0 u1).1, .row k (e27Mw u1 ao4 cap5) 27, .row j (e24Mw u0 ao1 cap2) 24] bR R := bd
   obtain ⟨bT, D, be, bU⟩ := bS.freeze 0 rfl
   replace V := V.mono D
   have W : Mem w.heap.size [] w Z [.row k (e27Mw u1 ao4 cap5) 27, .row j (e24Mw u0 ao1 cap2) 24] bT R := be
   refine gcl bc W (.bool (reqS (readS u0 u1).1 (rreadsS u0 u1).1)) 11 #[.slice c (readS u0 u1).1.length d, .slice p (rreadsS u0 u1).1.length q] (m := 0) (cj := []) (bj := (readS u0 u1).2 == (rreadsS u0 u1).2) rfl rfl (by kernel_rfl) rfl (by kernel_rfl) (by kernel_rfl) (by kernel_rfl) (fun _ => by kernel_rfl) (fun hg => req_fun (readS u0 u1).1 (rreadsS u0 u1).1 c d p q _ _ V bU W.fz) ?_; intro cP cQ X bV
   refine u_ X (.bool (((readS u0 u1).2 == (rreadsS u0 u1).2) && (reqS (readS u0 u1).1 (rreadsS u0 u1).1))) (pk_and X (g := []) (m := 0) (b := (readS u0 u1).2 == (rreadsS u0 u1).2) (v := (reqS (readS u0 u1).1 (rreadsS u0 u1).1)) rfl (by kernel_rfl) (by kernel_rfl) (by kernel_rfl) rfl) ?_; intro cR bf
   refine s1 bf 4 (.bool (((readS u0 u1).2 == (rreadsS u0 u1).2) && (reqS (readS u0 u1).1 (rreadsS u0 u1).1))) ?_; intro cS bW
   apply a5
   exact r_ (ra1 bW (.bool (((readS u0 u1).2 == (rreadsS u0 u1).2) && (reqS (readS u0 u1).1 (rreadsS u0 u1).1))) ⟨((readS u0 u1).2 == (rreadsS u0 u1).2) && (reqS (readS u0 u1).1 (rreadsS u0 u1).1), rfl, bP, bV.below⟩)

end Go.Proofs.YtdndfbamhnchfaaGreatDoor
