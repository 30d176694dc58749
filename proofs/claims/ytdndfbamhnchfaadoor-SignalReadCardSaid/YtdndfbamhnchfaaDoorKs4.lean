/- Texts put together (pure ones, or walks made by program). -/
import Derived.Test.YtdndfbamhnchfaaDoorKs0
import Derived.Test.YtdndfbamhnchfaaDoorKs1
import Derived.Test.YtdndfbamhnchfaaDoorKs2
import Derived.Test.YtdndfbamhnchfaaDoorKs3
set_option linter.unusedVariables false
set_option linter.unusedSimpArgs false
set_option maxRecDepth 100000
set_option maxHeartbeats 0
namespace Go.Proofs.YtdndfbamhnchfaaDoor
open Go.Sy Go.RowKit
abbrev e71Nd (X : BRat) (A0 : Option Addr) (C0 : Nat) (A1 : Option Addr) (C1 : Nat) : List Value := [.bool X.a.neg, .slice A0 X.a.abs.length C0, .bool X.b.neg, .slice A1 X.b.abs.length C1]
theorem gdiv_fun (u0 : List Int) (u1 : List Int) (hpre : u0 = ws (wv u0) ∧ u1 = ws (wv u1) ∧ wv u0 < 18446744073709551616 ∧ wv u1 < 18446744073709551616 ∧ 0 < wv u1) (ao1 : Option Addr) (cap2 : Nat) (ao4 : Option Addr) (cap5 : Nat) (Z : Fz) (w : World) (hs3 : SlR (tyInt .u32) Z ao1 cap2 u0) (hs6 : SlR (tyInt .u32) Z ao4 cap5 u1) (hZ : Z.on w) : Calls Tryd.prog 128 #[.slice ao1 u0.length cap2, .slice ao4 u1.length cap5] w fun e w' => ∃ (ao1001 : Option Addr) (cap1002 : Nat) (ao1004 : Option Addr) (cap1005 : Nat) (Z' : Fz), e = .returned (.tuple #[.slice ao1001 (gdivS u0 u1).1.length cap1002, .slice ao1004 (gdivS u0 u1).2.length cap1005]) ∧ SlR (tyInt .u32) Z' ao1001 cap1002 (gdivS u0 u1).1 ∧ SlR (tyInt .u32) Z' ao1004 cap1005 (gdivS u0 u1).2 ∧ Mem w.heap.size [] w Z [] Z' w' :=
  (gdiv_walk u0 u1 ao1 cap2 ao4 cap5 Z w hs3 hs6 hZ (gdiv_ok u0 u1 hpre)).mono fun _ _ ⟨r, h0, h1, h2, h3, h4, he, hk, f0, f1, hm⟩ => by subst hk; exact ⟨h0, h1, h2, h3, h4, he, f0, f1, hm⟩

theorem gcom_fun (u0 : List Int) (u1 : List Int) (hpre : u0 = ws (wv u0) ∧ u1 = ws (wv u1) ∧ wv u0 < 18446744073709551616 ∧ wv u1 < 18446744073709551616) (ao1 : Option Addr) (cap2 : Nat) (ao4 : Option Addr) (cap5 : Nat) (Z : Fz) (w : World) (hs3 : SlR (tyInt .u32) Z ao1 cap2 u0) (hs6 : SlR (tyInt .u32) Z ao4 cap5 u1) (hZ : Z.on w) : Calls Tryd.prog 127 #[.slice ao1 u0.length cap2, .slice ao4 u1.length cap5] w fun e w' => ∃ (ao1001 : Option Addr) (cap1002 : Nat) (Z' : Fz), e = .returned (.slice ao1001 (gcomS u0 u1).length cap1002) ∧ SlR (tyInt .u32) Z' ao1001 cap1002 (gcomS u0 u1) ∧ Mem w.heap.size [] w Z [] Z' w' :=
  (gcom_walk u0 u1 ao1 cap2 ao4 cap5 Z w hs3 hs6 hZ (gcom_ok u0 u1 hpre)).mono fun _ _ ⟨r, h0, h1, h2, he, hk, f0, hm⟩ => by subst hk; exact ⟨h0, h1, h2, he, f0, hm⟩

theorem gsum_fun (u0 : Bool) (u1 : List Int) (u2 : Bool) (u3 : List Int) (hpre : u1 = ws (wv u1) ∧ u3 = ws (wv u3) ∧ wv u1 < 18446744073709551616 ∧ wv u3 < 18446744073709551616) (ao1 : Option Addr) (cap2 : Nat) (ao4 : Option Addr) (cap5 : Nat) (Z : Fz) (w : World) (hs3 : SlR (tyInt .u32) Z ao1 cap2 u1) (hs6 : SlR (tyInt .u32) Z ao4 cap5 u3) (hZ : Z.on w) : Calls Tryd.prog 108 #[.bool u0, .slice ao1 u1.length cap2, .bool u2, .slice ao4 u3.length cap5] w fun e w' => ∃ (ao1001 : Option Addr) (cap1002 : Nat) (Z' : Fz), e = .returned (.tuple #[.bool (gsumS u0 u1 u2 u3).1, .slice ao1001 (gsumS u0 u1 u2 u3).2.length cap1002]) ∧ SlR (tyInt .u32) Z' ao1001 cap1002 (gsumS u0 u1 u2 u3).2 ∧ Mem w.heap.size [] w Z [] Z' w' :=
  (gsum_walk u0 u1 u2 u3 ao1 cap2 ao4 cap5 Z w hs3 hs6 hZ (gsum_ok u0 u1 u2 u3 hpre)).mono fun _ _ ⟨r, h0, h1, h2, he, hk, f0, hm⟩ => by subst hk; exact ⟨h0, h1, h2, he, f0, hm⟩

theorem gnew_fun (u0 : Int) (hpre : -9223372036854775808 ≤ u0 ∧ u0 ≤ 9223372036854775807)  (Z : Fz) (w : World)  (hZ : Z.on w) : Calls Tryd.prog 52 #[i6 u0] w fun e w' => ∃ (b1001 : Nat) (ao1002 : Option Addr) (cap1003 : Nat) (Z' : Fz), e = .returned (pt b1001 0) ∧ SlR (tyInt .u32) Z' ao1002 cap1003 (bz u0).abs ∧ Mem w.heap.size [] w Z [.row b1001 [.bool (bz u0).neg, .slice ao1002 (bz u0).abs.length cap1003] 69] Z' w' :=
  (gnew_walk u0  Z w  hZ (gnew_ok u0 hpre)).mono fun _ _ ⟨r, h0, h1, h2, h3, he, hk, f0, hm⟩ => by subst hk; exact ⟨h0, h1, h2, h3, he, f0, hm⟩

theorem rden_fun (u0 : BRat) (hpre : u0.b.abs ≠ []) (b1 : Nat) (ao2 : Option Addr) (cap3 : Nat) (ao5 : Option Addr) (cap6 : Nat) (B : Nat) (w0 : World) (Z0 : Fz) (Rr : List Res) (Z : Fz) (w : World) (hs4 : SlR (tyInt .u32) Z ao2 cap3 u0.a.abs) (hs7 : SlR (tyInt .u32) Z ao5 cap6 u0.b.abs) (hM0 : Mem B [] w0 Z0 ((.row b1 [.bool u0.a.neg, .slice ao2 u0.a.abs.length cap3, .bool u0.b.neg, .slice ao5 u0.b.abs.length cap6] 71) :: Rr) Z w) (hZ : Z.on w) : Calls Tryd.prog 78 #[pt b1 0] w fun e w' => ∃ (ao1001 : Option Addr) (cap1002 : Nat) (ao1004 : Option Addr) (cap1005 : Nat) (Z' : Fz), e = .returned (pt b1 2) ∧ Fz.le Z Z' ∧ SlR (tyInt .u32) Z' ao1001 cap1002 (rdenS u0).a.abs ∧ SlR (tyInt .u32) Z' ao1004 cap1005 (rdenS u0).b.abs ∧ Mem B [] w0 Z0 ((.row b1 [.bool (rdenS u0).a.neg, .slice ao1001 (rdenS u0).a.abs.length cap1002, .bool (rdenS u0).b.neg, .slice ao1004 (rdenS u0).b.abs.length cap1005] 71) :: Rr) Z' w' :=
  (rden_walk u0 b1 ao2 cap3 ao5 cap6 B w0 Z0 Rr Z w hs4 hs7 hM0 hZ (rden_ok u0 hpre)).mono fun _ _ ⟨r, h0, h1, h2, h3, h4, he, hk, f0, f1, f2, hm⟩ => by subst hk; exact ⟨h0, h1, h2, h3, h4, he, f0, f1, f2, hm⟩

theorem gnegA_fun (u0 : BRat) (hpre : u0.a.abs.length ≤ 1000000) (b1 : Nat) (ao2 : Option Addr) (cap3 : Nat) (ao5 : Option Addr) (cap6 : Nat) (B : Nat) (w0 : World) (Z0 : Fz) (Rr : List Res) (Z : Fz) (w : World) (hs4 : SlR (tyInt .u32) Z ao2 cap3 u0.a.abs) (hs7 : SlR (tyInt .u32) Z ao5 cap6 u0.b.abs) (hM0 : Mem B [] w0 Z0 ((.row b1 [.bool u0.a.neg, .slice ao2 u0.a.abs.length cap3, .bool u0.b.neg, .slice ao5 u0.b.abs.length cap6] 71) :: Rr) Z w) (hZ : Z.on w) : Calls Tryd.prog 55 #[pt b1 0, pt b1 0] w fun e w' => ∃ (ao1001 : Option Addr) (cap1002 : Nat) (ao1004 : Option Addr) (cap1005 : Nat) (Z' : Fz), e = .returned (pt b1 0) ∧ Fz.le Z Z' ∧ SlR (tyInt .u32) Z' ao1001 cap1002 (gnegAS u0).a.abs ∧ SlR (tyInt .u32) Z' ao1004 cap1005 (gnegAS u0).b.abs ∧ Mem B [] w0 Z0 ((.row b1 [.bool (gnegAS u0).a.neg, .slice ao1001 (gnegAS u0).a.abs.length cap1002, .bool (gnegAS u0).b.neg, .slice ao1004 (gnegAS u0).b.abs.length cap1005] 71) :: Rr) Z' w' :=
  (gnegA_walk u0 b1 ao2 cap3 ao5 cap6 B w0 Z0 Rr Z w hs4 hs7 hM0 hZ (gnegA_ok u0 hpre)).mono fun _ _ ⟨r, h0, h1, h2, h3, h4, he, hk, f0, f1, f2, hm⟩ => by subst hk; exact ⟨h0, h1, h2, h3, h4, he, f0, f1, f2, hm⟩

theorem gnegB_fun (u0 : BRat) (hpre : u0.b.abs.length ≤ 1000000) (b1 : Nat) (ao2 : Option Addr) (cap3 : Nat) (ao5 : Option Addr) (cap6 : Nat) (B : Nat) (w0 : World) (Z0 : Fz) (Rr : List Res) (Z : Fz) (w : World) (hs4 : SlR (tyInt .u32) Z ao2 cap3 u0.a.abs) (hs7 : SlR (tyInt .u32) Z ao5 cap6 u0.b.abs) (hM0 : Mem B [] w0 Z0 ((.row b1 [.bool u0.a.neg, .slice ao2 u0.a.abs.length cap3, .bool u0.b.neg, .slice ao5 u0.b.abs.length cap6] 71) :: Rr) Z w) (hZ : Z.on w) : Calls Tryd.prog 55 #[pt b1 2, pt b1 2] w fun e w' => ∃ (ao1001 : Option Addr) (cap1002 : Nat) (ao1004 : Option Addr) (cap1005 : Nat) (Z' : Fz), e = .returned (pt b1 2) ∧ Fz.le Z Z' ∧ SlR (tyInt .u32) Z' ao1001 cap1002 (gnegBS u0).a.abs ∧ SlR (tyInt .u32) Z' ao1004 cap1005 (gnegBS u0).b.abs ∧ Mem B [] w0 Z0 ((.row b1 [.bool (gnegBS u0).a.neg, .slice ao1001 (gnegBS u0).a.abs.length cap1002, .bool (gnegBS u0).b.neg, .slice ao1004 (gnegBS u0).b.abs.length cap1005] 71) :: Rr) Z' w' :=
  (gnegB_walk u0 b1 ao2 cap3 ao5 cap6 B w0 Z0 Rr Z w hs4 hs7 hM0 hZ (gnegB_ok u0 hpre)).mono fun _ _ ⟨r, h0, h1, h2, h3, h4, he, hk, f0, f1, f2, hm⟩ => by subst hk; exact ⟨h0, h1, h2, h3, h4, he, f0, f1, f2, hm⟩

theorem gmulAB_walk (u0 : BInt) (u1 : BRat) (u2 : BRat) (b1 : Nat) (ao2 : Option Addr) (cap3 : Nat) (b5 : Nat) (ao6 : Option Addr) (cap7 : Nat) (ao9 : Option Addr) (cap10 : Nat) (b12 : Nat) (ao13 : Option Addr) (cap14 : Nat) (ao16 : Option Addr) (cap17 : Nat) (B : Nat) (w0 : World) (Z0 : Fz) (Rr : List Res) (Z : Fz) (w : World) (hs4 : SlR (tyInt .u32) Z ao2 cap3 u0.abs) (hs8 : SlR (tyInt .u32) Z ao6 cap7 u1.a.abs) (hs11 : SlR (tyInt .u32) Z ao9 cap10 u1.b.abs) (hs15 : SlR (tyInt .u32) Z ao13 cap14 u2.a.abs) (hs18 : SlR (tyInt .u32) Z ao16 cap17 u2.b.abs) (hM0 : Mem B [] w0 Z0 ((.row b1 [.bool u0.neg, .slice ao2 u0.abs.length cap3] 69) :: (.row b5 [.bool u1.a.neg, .slice ao6 u1.a.abs.length cap7, .bool u1.b.neg, .slice ao9 u1.b.abs.length cap10] 71) :: (.row b12 [.bool u2.a.neg, .slice ao13 u2.a.abs.length cap14, .bool u2.b.neg, .slice ao16 u2.b.abs.length cap17] 71) :: Rr) Z w) (hZ : Z.on w) {K : (BInt × BRat × BRat) → Prop} (hp : gmulAB_vc u0 u1 u2 K) : Calls Tryd.prog 77 #[pt b1 0, pt b5 0, pt b12 2] w fun e w' => ∃ (r : BInt × BRat × BRat) (ao1001 : Option Addr) (cap1002 : Nat) (ao1004 : Option Addr) (cap1005 : Nat) (ao1007 : Option Addr) (cap1008 : Nat) (ao1010 : Option Addr) (cap1011 : Nat) (ao1013 : Option Addr) (cap1014 : Nat) (Z' : Fz), e = .returned (pt b1 0) ∧ K r ∧ Fz.le Z Z' ∧ SlR (tyInt .u32) Z' ao1001 cap1002 r.1.abs ∧ SlR (tyInt .u32) Z' ao1004 cap1005 r.2.1.a.abs ∧ SlR (tyInt .u32) Z' ao1007 cap1008 r.2.1.b.abs ∧ SlR (tyInt .u32) Z' ao1010 cap1011 r.2.2.a.abs ∧ SlR (tyInt .u32) Z' ao1013 cap1014 r.2.2.b.abs ∧ Mem B [] w0 Z0 ((.row b1 [.bool r.1.neg, .slice ao1001 r.1.abs.length cap1002] 69) :: (.row b5 [.bool r.2.1.a.neg, .slice ao1004 r.2.1.a.abs.length cap1005, .bool r.2.1.b.neg, .slice ao1007 r.2.1.b.abs.length cap1008] 71) :: (.row b12 [.bool r.2.2.a.neg, .slice ao1010 r.2.2.a.abs.length cap1011, .bool r.2.2.b.neg, .slice ao1013 r.2.2.b.abs.length cap1014] 71) :: Rr) Z' w' := by
 refine enter0 Tryd.func77 rfl rfl (by kernel_rfl) ?_; intro V k; have g := Fz.le.refl Z
 have l := hp (hs4.small); clear hp
 have m := l (hs8.small); clear l
 have n := m (hs11.small); clear m
 have o := n (hs15.small); clear n
 have I := o (hs18.small); clear o
 refine sqB k hM0 [] [] [] ?_; intro J p; clear k
 have q : Fr 27 [] [⟨0, [], pt b1 0⟩, ⟨1, [], pt b5 0⟩, ⟨2, [], pt b12 2⟩] J := p.reg; clear p
 refine wp_seq (rgS mixed hM0 [(0, true), (1, true), (2, true), (3, true), (4, true), (5, true), (6, true), (7, true), (8, true), (9, true), (10, true), (11, true), (12, true), (13, true), (14, true), (15, true), (16, true), (17, true), (18, false), (19, false), (20, true)] [] [1, 2] [.row b5 (e71Nd u1 ao6 cap7 ao9 cap10) 71, .row b12 (e71Nd u2 ao13 cap14 ao16 cap17) 71] ?_)
 intro L s W i; clear hM0
 have f := Fz.le.refl Z
 refine cS q 18 [0, 1, 0, 1] [] [(7, pt b1 0), (16, .bool (u1.a.neg != u2.b.neg)), (20, .slice ao6 u1.a.abs.length cap7), (24, .slice ao16 u2.b.abs.length cap17)] ?_; intro X t; clear q
 refine eS rfl ?_; intro M u
 obtain ⟨N, O⟩ := I
 refine ck t 109 #[.slice ao6 u1.a.abs.length cap7, .slice ao16 u2.b.abs.length cap17] ?_
 refine (gmul_fun u1.a.abs u2.b.abs N ao6 cap7 ao16 cap17 _ _ hs8 hs18 i.fz).mono ?_; rintro _ P ⟨v, x, Q, rfl, j, hm⟩; refine ⟨_, rfl, ?_⟩; intro Y y; have z := i.callZ hm; have d := hm.ext.le; clear hm i t
 replace hs4 := hs4.mono d
 replace hs8 := hs8.mono d
 replace hs11 := hs11.mono d
 replace hs15 := hs15.mono d
 replace hs18 := hs18.mono d
 replace f := f.mono d
 replace g := Fz.le.trans g d
 have h : Mem B [] w0 Z0 ((.row b1 [.bool u0.neg, .slice ao2 u0.abs.length cap3] 69) :: (.row b5 (e71Nd u1 ao6 cap7 ao9 cap10) 71) :: (.row b12 (e71Nd u2 ao13 cap14 ao16 cap17) 71) :: Rr) Q P := z; clear z
 refine nl (qnI (u _ _ (h.cst f [1, 2]) ?_)); clear u M
 refine eS rfl ?_; intro R A
 refine ck y 83 #[pt b1 0, .bool (u1.a.neg != u2.b.neg), .slice v (gmulS u1.a.abs u2.b.abs).length x] ?_
 refine (ggive_fun u0 (u1.a.neg != u2.b.neg) (gmulS u1.a.abs u2.b.abs) b1 ao2 cap3 v x _ _ _ _ _ _ hs4 j h h.fz).mono ?_; rintro _ S ⟨C, D, E, rfl, c, T, hm⟩; refine ⟨_, rfl, ?_⟩; intro aa F; have G := hm; clear hm h y
 replace hs4 := hs4.mono c
 replace hs8 := hs8.mono c
 replace hs11 := hs11.mono c
 replace hs15 := hs15.mono c
 replace hs18 := hs18.mono c
 replace f := f.mono c
 replace j := j.mono c
 replace g := Fz.le.trans g c
 have H : Mem B [] w0 Z0 ((.row b1 [.bool (ggive u0 (u1.a.neg != u2.b.neg) (gmulS u1.a.abs u2.b.abs)).neg, .slice C (ggive u0 (u1.a.neg != u2.b.neg) (gmulS u1.a.abs u2.b.abs)).abs.length D] 69) :: (.row b5 (e71Nd u1 ao6 cap7 ao9 cap10) 71) :: (.row b12 (e71Nd u2 ao13 cap14 ao16 cap17) 71) :: Rr) E S := G; clear G
 refine nl (qnI (A _ _ (H.cst f [1, 2]) ?_)); clear A R
 refine cS F 1 [] [] [(6, pt b1 0)] ?_; intro ab U; clear F
 refine nS (s _ _ ?_); clear s L
 refine thn ?_
 refine wp_ret ?_
 refine ra1 U (pt b1 0) ?_
 exact ⟨((ggive u0 (u1.a.neg != u2.b.neg) (gmulS u1.a.abs u2.b.abs)), u1, u2), C, D, ao6, cap7, ao9, cap10, ao13, cap14, ao16, cap17, E, rfl, O, g, T, hs8, hs11, hs15, hs18, H.keep (List.Sublist.cons_cons _ (List.Sublist.cons_cons _ (List.Sublist.cons_cons _ (List.Sublist.refl _))))⟩

theorem gmulBA_walk (u0 : BInt) (u1 : BRat) (u2 : BRat) (b1 : Nat) (ao2 : Option Addr) (cap3 : Nat) (b5 : Nat) (ao6 : Option Addr) (cap7 : Nat) (ao9 : Option Addr) (cap10 : Nat) (b12 : Nat) (ao13 : Option Addr) (cap14 : Nat) (ao16 : Option Addr) (cap17 : Nat) (B : Nat) (w0 : World) (Z0 : Fz) (Rr : List Res) (Z : Fz) (w : World) (hs4 : SlR (tyInt .u32) Z ao2 cap3 u0.abs) (hs8 : SlR (tyInt .u32) Z ao6 cap7 u1.a.abs) (hs11 : SlR (tyInt .u32) Z ao9 cap10 u1.b.abs) (hs15 : SlR (tyInt .u32) Z ao13 cap14 u2.a.abs) (hs18 : SlR (tyInt .u32) Z ao16 cap17 u2.b.abs) (hM0 : Mem B [] w0 Z0 ((.row b1 [.bool u0.neg, .slice ao2 u0.abs.length cap3] 69) :: (.row b5 [.bool u1.a.neg, .slice ao6 u1.a.abs.length cap7, .bool u1.b.neg, .slice ao9 u1.b.abs.length cap10] 71) :: (.row b12 [.bool u2.a.neg, .slice ao13 u2.a.abs.length cap14, .bool u2.b.neg, .slice ao16 u2.b.abs.length cap17] 71) :: Rr) Z w) (hZ : Z.on w) {K : (BInt × BRat × BRat) → Prop} (hp : gmulBA_vc u0 u1 u2 K) : Calls Tryd.prog 77 #[pt b1 0, pt b5 2, pt b12 0] w fun e w' => ∃ (r : BInt × BRat × BRat) (ao1001 : Option Addr) (cap1002 : Nat) (ao1004 : Option Addr) (cap1005 : Nat) (ao1007 : Option Addr) (cap1008 : Nat) (ao1010 : Option Addr) (cap1011 : Nat) (ao1013 : Option Addr) (cap1014 : Nat) (Z' : Fz), e = .returned (pt b1 0) ∧ K r ∧ Fz.le Z Z' ∧ SlR (tyInt .u32) Z' ao1001 cap1002 r.1.abs ∧ SlR (tyInt .u32) Z' ao1004 cap1005 r.2.1.a.abs ∧ SlR (tyInt .u32) Z' ao1007 cap1008 r.2.1.b.abs ∧ SlR (tyInt .u32) Z' ao1010 cap1011 r.2.2.a.abs ∧ SlR (tyInt .u32) Z' ao1013 cap1014 r.2.2.b.abs ∧ Mem B [] w0 Z0 ((.row b1 [.bool r.1.neg, .slice ao1001 r.1.abs.length cap1002] 69) :: (.row b5 [.bool r.2.1.a.neg, .slice ao1004 r.2.1.a.abs.length cap1005, .bool r.2.1.b.neg, .slice ao1007 r.2.1.b.abs.length cap1008] 71) :: (.row b12 [.bool r.2.2.a.neg, .slice ao1010 r.2.2.a.abs.length cap1011, .bool r.2.2.b.neg, .slice ao1013 r.2.2.b.abs.length cap1014] 71) :: Rr) Z' w' := by
 refine enter0 Tryd.func77 rfl rfl (by kernel_rfl) ?_; intro V k; have g := Fz.le.refl Z
 have l := hp (hs4.small); clear hp
 have m := l (hs8.small); clear l
 have n := m (hs11.small); clear m
 have o := n (hs15.small); clear n
 have I := o (hs18.small); clear o
 refine sqB k hM0 [] [] [] ?_; intro J p; clear k
 have q : Fr 27 [] [⟨0, [], pt b1 0⟩, ⟨1, [], pt b5 2⟩, ⟨2, [], pt b12 0⟩] J := p.reg; clear p
 refine wp_seq (rgS mixed hM0 [(0, true), (1, true), (2, true), (3, true), (4, true), (5, true), (6, true), (7, true), (8, true), (9, true), (10, true), (11, true), (12, true), (13, true), (14, true), (15, true), (16, true), (17, true), (18, false), (19, false), (20, true)] [] [1, 2] [.row b5 (e71Nd u1 ao6 cap7 ao9 cap10) 71, .row b12 (e71Nd u2 ao13 cap14 ao16 cap17) 71] ?_)
 intro L s W i; clear hM0
 have f := Fz.le.refl Z
 refine cS q 18 [0, 1, 0, 1] [] [(7, pt b1 0), (16, .bool (u1.b.neg != u2.a.neg)), (20, .slice ao9 u1.b.abs.length cap10), (24, .slice ao13 u2.a.abs.length cap14)] ?_; intro X t; clear q
 refine eS rfl ?_; intro M u
 obtain ⟨N, O⟩ := I
 refine ck t 109 #[.slice ao9 u1.b.abs.length cap10, .slice ao13 u2.a.abs.length cap14] ?_
 refine (gmul_fun u1.b.abs u2.a.abs N ao9 cap10 ao13 cap14 _ _ hs11 hs15 i.fz).mono ?_; rintro _ P ⟨v, x, Q, rfl, j, hm⟩; refine ⟨_, rfl, ?_⟩; intro Y y; have z := i.callZ hm; have d := hm.ext.le; clear hm i t
 replace hs4 := hs4.mono d
 replace hs8 := hs8.mono d
 replace hs11 := hs11.mono d
 replace hs15 := hs15.mono d
 replace hs18 := hs18.mono d
 replace f := f.mono d
 replace g := Fz.le.trans g d
 have h : Mem B [] w0 Z0 ((.row b1 [.bool u0.neg, .slice ao2 u0.abs.length cap3] 69) :: (.row b5 (e71Nd u1 ao6 cap7 ao9 cap10) 71) :: (.row b12 (e71Nd u2 ao13 cap14 ao16 cap17) 71) :: Rr) Q P := z; clear z
 refine nl (qnI (u _ _ (h.cst f [1, 2]) ?_)); clear u M
 refine eS rfl ?_; intro R A
 refine ck y 83 #[pt b1 0, .bool (u1.b.neg != u2.a.neg), .slice v (gmulS u1.b.abs u2.a.abs).length x] ?_
 refine (ggive_fun u0 (u1.b.neg != u2.a.neg) (gmulS u1.b.abs u2.a.abs) b1 ao2 cap3 v x _ _ _ _ _ _ hs4 j h h.fz).mono ?_; rintro _ S ⟨C, D, E, rfl, c, T, hm⟩; refine ⟨_, rfl, ?_⟩; intro aa F; have G := hm; clear hm h y
 replace hs4 := hs4.mono c
 replace hs8 := hs8.mono c
 replace hs11 := hs11.mono c
 replace hs15 := hs15.mono c
 replace hs18 := hs18.mono c
 replace f := f.mono c
 replace j := j.mono c
 replace g := Fz.le.trans g c
 have H : Mem B [] w0 Z0 ((.row b1 [.bool (ggive u0 (u1.b.neg != u2.a.neg) (gmulS u1.b.abs u2.a.abs)).neg, .slice C (ggive u0 (u1.b.neg != u2.a.neg) (gmulS u1.b.abs u2.a.abs)).abs.length D] 69) :: (.row b5 (e71Nd u1 ao6 cap7 ao9 cap10) 71) :: (.row b12 (e71Nd u2 ao13 cap14 ao16 cap17) 71) :: Rr) E S := G; clear G
 refine nl (qnI (A _ _ (H.cst f [1, 2]) ?_)); clear A R
 refine cS F 1 [] [] [(6, pt b1 0)] ?_; intro ab U; clear F
 refine nS (s _ _ ?_); clear s L
 refine thn ?_
 refine wp_ret ?_
 refine ra1 U (pt b1 0) ?_
 exact ⟨((ggive u0 (u1.b.neg != u2.a.neg) (gmulS u1.b.abs u2.a.abs)), u1, u2), C, D, ao6, cap7, ao9, cap10, ao13, cap14, ao16, cap17, E, rfl, O, g, T, hs8, hs11, hs15, hs18, H.keep (List.Sublist.cons_cons _ (List.Sublist.cons_cons _ (List.Sublist.cons_cons _ (List.Sublist.refl _))))⟩

theorem gmulAA_walk (u0 : BInt) (u1 : BRat) (u2 : BRat) (b1 : Nat) (ao2 : Option Addr) (cap3 : Nat) (b5 : Nat) (ao6 : Option Addr) (cap7 : Nat) (ao9 : Option Addr) (cap10 : Nat) (b12 : Nat) (ao13 : Option Addr) (cap14 : Nat) (ao16 : Option Addr) (cap17 : Nat) (B : Nat) (w0 : World) (Z0 : Fz) (Rr : List Res) (Z : Fz) (w : World) (hs4 : SlR (tyInt .u32) Z ao2 cap3 u0.abs) (hs8 : SlR (tyInt .u32) Z ao6 cap7 u1.a.abs) (hs11 : SlR (tyInt .u32) Z ao9 cap10 u1.b.abs) (hs15 : SlR (tyInt .u32) Z ao13 cap14 u2.a.abs) (hs18 : SlR (tyInt .u32) Z ao16 cap17 u2.b.abs) (hM0 : Mem B [] w0 Z0 ((.row b1 [.bool u0.neg, .slice ao2 u0.abs.length cap3] 69) :: (.row b5 [.bool u1.a.neg, .slice ao6 u1.a.abs.length cap7, .bool u1.b.neg, .slice ao9 u1.b.abs.length cap10] 71) :: (.row b12 [.bool u2.a.neg, .slice ao13 u2.a.abs.length cap14, .bool u2.b.neg, .slice ao16 u2.b.abs.length cap17] 71) :: Rr) Z w) (hZ : Z.on w) {K : (BInt × BRat × BRat) → Prop} (hp : gmulAA_vc u0 u1 u2 K) : Calls Tryd.prog 77 #[pt b1 0, pt b5 0, pt b12 0] w fun e w' => ∃ (r : BInt × BRat × BRat) (ao1001 : Option Addr) (cap1002 : Nat) (ao1004 : Option Addr) (cap1005 : Nat) (ao1007 : Option Addr) (cap1008 : Nat) (ao1010 : Option Addr) (cap1011 : Nat) (ao1013 : Option Addr) (cap1014 : Nat) (Z' : Fz), e = .returned (pt b1 0) ∧ K r ∧ Fz.le Z Z' ∧ SlR (tyInt .u32) Z' ao1001 cap1002 r.1.abs ∧ SlR (tyInt .u32) Z' ao1004 cap1005 r.2.1.a.abs ∧ SlR (tyInt .u32) Z' ao1007 cap1008 r.2.1.b.abs ∧ SlR (tyInt .u32) Z' ao1010 cap1011 r.2.2.a.abs ∧ SlR (tyInt .u32) Z' ao1013 cap1014 r.2.2.b.abs ∧ Mem B [] w0 Z0 ((.row b1 [.bool r.1.neg, .slice ao1001 r.1.abs.length cap1002] 69) :: (.row b5 [.bool r.2.1.a.neg, .slice ao1004 r.2.1.a.abs.length cap1005, .bool r.2.1.b.neg, .slice ao1007 r.2.1.b.abs.length cap1008] 71) :: (.row b12 [.bool r.2.2.a.neg, .slice ao1010 r.2.2.a.abs.length cap1011, .bool r.2.2.b.neg, .slice ao1013 r.2.2.b.abs.length cap1014] 71) :: Rr) Z' w' := by
 refine enter0 Tryd.func77 rfl rfl (by kernel_rfl) ?_; intro V k; have g := Fz.le.refl Z
 have l := hp (hs4.small); clear hp
 have m := l (hs8.small); clear l
 have n := m (hs11.small); clear m
 have o := n (hs15.small); clear n
 have I := o (hs18.small); clear o
 refine sqB k hM0 [] [] [] ?_; intro J p; clear k
 have q : Fr 27 [] [⟨0, [], pt b1 0⟩, ⟨1, [], pt b5 0⟩, ⟨2, [], pt b12 0⟩] J := p.reg; clear p
 refine wp_seq (rgS mixed hM0 [(0, true), (1, true), (2, true), (3, true), (4, true), (5, true), (6, true), (7, true), (8, true), (9, true), (10, true), (11, true), (12, true), (13, true), (14, true), (15, true), (16, true), (17, true), (18, false), (19, false), (20, true)] [] [1, 2] [.row b5 (e71Nd u1 ao6 cap7 ao9 cap10) 71, .row b12 (e71Nd u2 ao13 cap14 ao16 cap17) 71] ?_)
 intro L s W i; clear hM0
 have f := Fz.le.refl Z
 refine cS q 18 [0, 1, 0, 1] [] [(7, pt b1 0), (16, .bool (u1.a.neg != u2.a.neg)), (20, .slice ao6 u1.a.abs.length cap7), (24, .slice ao13 u2.a.abs.length cap14)] ?_; intro X t; clear q
 refine eS rfl ?_; intro M u
 obtain ⟨N, O⟩ := I
 refine ck t 109 #[.slice ao6 u1.a.abs.length cap7, .slice ao13 u2.a.abs.length cap14] ?_
 refine (gmul_fun u1.a.abs u2.a.abs N ao6 cap7 ao13 cap14 _ _ hs8 hs15 i.fz).mono ?_; rintro _ P ⟨v, x, Q, rfl, j, hm⟩; refine ⟨_, rfl, ?_⟩; intro Y y; have z := i.callZ hm; have d := hm.ext.le; clear hm i t
 replace hs4 := hs4.mono d
 replace hs8 := hs8.mono d
 replace hs11 := hs11.mono d
 replace hs15 := hs15.mono d
 replace hs18 := hs18.mono d
 replace f := f.mono d
 replace g := Fz.le.trans g d
 have h : Mem B [] w0 Z0 ((.row b1 [.bool u0.neg, .slice ao2 u0.abs.length cap3] 69) :: (.row b5 (e71Nd u1 ao6 cap7 ao9 cap10) 71) :: (.row b12 (e71Nd u2 ao13 cap14 ao16 cap17) 71) :: Rr) Q P := z; clear z
 refine nl (qnI (u _ _ (h.cst f [1, 2]) ?_)); clear u M
 refine eS rfl ?_; intro R A
 refine ck y 83 #[pt b1 0, .bool (u1.a.neg != u2.a.neg), .slice v (gmulS u1.a.abs u2.a.abs).length x] ?_
 refine (ggive_fun u0 (u1.a.neg != u2.a.neg) (gmulS u1.a.abs u2.a.abs) b1 ao2 cap3 v x _ _ _ _ _ _ hs4 j h h.fz).mono ?_; rintro _ S ⟨C, D, E, rfl, c, T, hm⟩; refine ⟨_, rfl, ?_⟩; intro aa F; have G := hm; clear hm h y
 replace hs4 := hs4.mono c
 replace hs8 := hs8.mono c
 replace hs11 := hs11.mono c
 replace hs15 := hs15.mono c
 replace hs18 := hs18.mono c
 replace f := f.mono c
 replace j := j.mono c
 replace g := Fz.le.trans g c
 have H : Mem B [] w0 Z0 ((.row b1 [.bool (ggive u0 (u1.a.neg != u2.a.neg) (gmulS u1.a.abs u2.a.abs)).neg, .slice C (ggive u0 (u1.a.neg != u2.a.neg) (gmulS u1.a.abs u2.a.abs)).abs.length D] 69) :: (.row b5 (e71Nd u1 ao6 cap7 ao9 cap10) 71) :: (.row b12 (e71Nd u2 ao13 cap14 ao16 cap17) 71) :: Rr) E S := G; clear G
 refine nl (qnI (A _ _ (H.cst f [1, 2]) ?_)); clear A R
 refine cS F 1 [] [] [(6, pt b1 0)] ?_; intro ab U; clear F
 refine nS (s _ _ ?_); clear s L
 refine thn ?_
 refine wp_ret ?_
 refine ra1 U (pt b1 0) ?_
 exact ⟨((ggive u0 (u1.a.neg != u2.a.neg) (gmulS u1.a.abs u2.a.abs)), u1, u2), C, D, ao6, cap7, ao9, cap10, ao13, cap14, ao16, cap17, E, rfl, O, g, T, hs8, hs11, hs15, hs18, H.keep (List.Sublist.cons_cons _ (List.Sublist.cons_cons _ (List.Sublist.cons_cons _ (List.Sublist.refl _))))⟩

theorem gmulBB_walk (u0 : BInt) (u1 : BRat) (u2 : BRat) (b1 : Nat) (ao2 : Option Addr) (cap3 : Nat) (b5 : Nat) (ao6 : Option Addr) (cap7 : Nat) (ao9 : Option Addr) (cap10 : Nat) (b12 : Nat) (ao13 : Option Addr) (cap14 : Nat) (ao16 : Option Addr) (cap17 : Nat) (B : Nat) (w0 : World) (Z0 : Fz) (Rr : List Res) (Z : Fz) (w : World) (hs4 : SlR (tyInt .u32) Z ao2 cap3 u0.abs) (hs8 : SlR (tyInt .u32) Z ao6 cap7 u1.a.abs) (hs11 : SlR (tyInt .u32) Z ao9 cap10 u1.b.abs) (hs15 : SlR (tyInt .u32) Z ao13 cap14 u2.a.abs) (hs18 : SlR (tyInt .u32) Z ao16 cap17 u2.b.abs) (hM0 : Mem B [] w0 Z0 ((.row b1 [.bool u0.neg, .slice ao2 u0.abs.length cap3] 69) :: (.row b5 [.bool u1.a.neg, .slice ao6 u1.a.abs.length cap7, .bool u1.b.neg, .slice ao9 u1.b.abs.length cap10] 71) :: (.row b12 [.bool u2.a.neg, .slice ao13 u2.a.abs.length cap14, .bool u2.b.neg, .slice ao16 u2.b.abs.length cap17] 71) :: Rr) Z w) (hZ : Z.on w) {K : (BInt × BRat × BRat) → Prop} (hp : gmulBB_vc u0 u1 u2 K) : Calls Tryd.prog 77 #[pt b1 0, pt b5 2, pt b12 2] w fun e w' => ∃ (r : BInt × BRat × BRat) (ao1001 : Option Addr) (cap1002 : Nat) (ao1004 : Option Addr) (cap1005 : Nat) (ao1007 : Option Addr) (cap1008 : Nat) (ao1010 : Option Addr) (cap1011 : Nat) (ao1013 : Option Addr) (cap1014 : Nat) (Z' : Fz), e = .returned (pt b1 0) ∧ K r ∧ Fz.le Z Z' ∧ SlR (tyInt .u32) Z' ao1001 cap1002 r.1.abs ∧ SlR (tyInt .u32) Z' ao1004 cap1005 r.2.1.a.abs ∧ SlR (tyInt .u32) Z' ao1007 cap1008 r.2.1.b.abs ∧ SlR (tyInt .u32) Z' ao1010 cap1011 r.2.2.a.abs ∧ SlR (tyInt .u32) Z' ao1013 cap1014 r.2.2.b.abs ∧ Mem B [] w0 Z0 ((.row b1 [.bool r.1.neg, .slice ao1001 r.1.abs.length cap1002] 69) :: (.row b5 [.bool r.2.1.a.neg, .slice ao1004 r.2.1.a.abs.length cap1005, .bool r.2.1.b.neg, .slice ao1007 r.2.1.b.abs.length cap1008] 71) :: (.row b12 [.bool r.2.2.a.neg, .slice ao1010 r.2.2.a.abs.length cap1011, .bool r.2.2.b.neg, .slice ao1013 r.2.2.b.abs.length cap1014] 71) :: Rr) Z' w' := by
 refine enter0 Tryd.func77 rfl rfl (by kernel_rfl) ?_; intro V k; have g := Fz.le.refl Z
 have l := hp (hs4.small); clear hp
 have m := l (hs8.small); clear l
 have n := m (hs11.small); clear m
 have o := n (hs15.small); clear n
 have I := o (hs18.small); clear o
 refine sqB k hM0 [] [] [] ?_; intro J p; clear k
 have q : Fr 27 [] [⟨0, [], pt b1 0⟩, ⟨1, [], pt b5 2⟩, ⟨2, [], pt b12 2⟩] J := p.reg; clear p
 refine wp_seq (rgS mixed hM0 [(0, true), (1, true), (2, true), (3, true), (4, true), (5, true), (6, true), (7, true), (8, true), (9, true), (10, true), (11, true), (12, true), (13, true), (14, true), (15, true), (16, true), (17, true), (18, false), (19, false), (20, true)] [] [1, 2] [.row b5 (e71Nd u1 ao6 cap7 ao9 cap10) 71, .row b12 (e71Nd u2 ao13 cap14 ao16 cap17) 71] ?_)
 intro L s W i; clear hM0
 have f := Fz.le.refl Z
 refine cS q 18 [0, 1, 0, 1] [] [(7, pt b1 0), (16, .bool (u1.b.neg != u2.b.neg)), (20, .slice ao9 u1.b.abs.length cap10), (24, .slice ao16 u2.b.abs.length cap17)] ?_; intro X t; clear q
 refine eS rfl ?_; intro M u
 obtain ⟨N, O⟩ := I
 refine ck t 109 #[.slice ao9 u1.b.abs.length cap10, .slice ao16 u2.b.abs.length cap17] ?_
 refine (gmul_fun u1.b.abs u2.b.abs N ao9 cap10 ao16 cap17 _ _ hs11 hs18 i.fz).mono ?_; rintro _ P ⟨v, x, Q, rfl, j, hm⟩; refine ⟨_, rfl, ?_⟩; intro Y y; have z := i.callZ hm; have d := hm.ext.le; clear hm i t
 replace hs4 := hs4.mono d
 replace hs8 := hs8.mono d
 replace hs11 := hs11.mono d
 replace hs15 := hs15.mono d
 replace hs18 := hs18.mono d
 replace f := f.mono d
 replace g := Fz.le.trans g d
 have h : Mem B [] w0 Z0 ((.row b1 [.bool u0.neg, .slice ao2 u0.abs.length cap3] 69) :: (.row b5 (e71Nd u1 ao6 cap7 ao9 cap10) 71) :: (.row b12 (e71Nd u2 ao13 cap14 ao16 cap17) 71) :: Rr) Q P := z; clear z
 refine nl (qnI (u _ _ (h.cst f [1, 2]) ?_)); clear u M
 refine eS rfl ?_; intro R A
 refine ck y 83 #[pt b1 0, .bool (u1.b.neg != u2.b.neg), .slice v (gmulS u1.b.abs u2.b.abs).length x] ?_
 refine (ggive_fun u0 (u1.b.neg != u2.b.neg) (gmulS u1.b.abs u2.b.abs) b1 ao2 cap3 v x _ _ _ _ _ _ hs4 j h h.fz).mono ?_; rintro _ S ⟨C, D, E, rfl, c, T, hm⟩; refine ⟨_, rfl, ?_⟩; intro aa F; have G := hm; clear hm h y
 replace hs4 := hs4.mono c
 replace hs8 := hs8.mono c
 replace hs11 := hs11.mono c
 replace hs15 := hs15.mono c
 replace hs18 := hs18.mono c
 replace f := f.mono c
 replace j := j.mono c
 replace g := Fz.le.trans g c
 have H : Mem B [] w0 Z0 ((.row b1 [.bool (ggive u0 (u1.b.neg != u2.b.neg) (gmulS u1.b.abs u2.b.abs)).neg, .slice C (ggive u0 (u1.b.neg != u2.b.neg) (gmulS u1.b.abs u2.b.abs)).abs.length D] 69) :: (.row b5 (e71Nd u1 ao6 cap7 ao9 cap10) 71) :: (.row b12 (e71Nd u2 ao13 cap14 ao16 cap17) 71) :: Rr) E S := G; clear G
 refine nl (qnI (A _ _ (H.cst f [1, 2]) ?_)); clear A R
 refine cS F 1 [] [] [(6, pt b1 0)] ?_; intro ab U; clear F
 refine nS (s _ _ ?_); clear s L
 refine thn ?_
 refine wp_ret ?_
 refine ra1 U (pt b1 0) ?_
 exact ⟨((ggive u0 (u1.b.neg != u2.b.neg) (gmulS u1.b.abs u2.b.abs)), u1, u2), C, D, ao6, cap7, ao9, cap10, ao13, cap14, ao16, cap17, E, rfl, O, g, T, hs8, hs11, hs15, hs18, H.keep (List.Sublist.cons_cons _ (List.Sublist.cons_cons _ (List.Sublist.cons_cons _ (List.Sublist.refl _))))⟩

theorem gaddI_walk (u0 : BInt) (u1 : BInt) (u2 : BInt) (b1 : Nat) (ao2 : Option Addr) (cap3 : Nat) (b5 : Nat) (ao6 : Option Addr) (cap7 : Nat) (b9 : Nat) (ao10 : Option Addr) (cap11 : Nat) (B : Nat) (w0 : World) (Z0 : Fz) (Rr : List Res) (Z : Fz) (w : World) (hs4 : SlR (tyInt .u32) Z ao2 cap3 u0.abs) (hs8 : SlR (tyInt .u32) Z ao6 cap7 u1.abs) (hs12 : SlR (tyInt .u32) Z ao10 cap11 u2.abs) (hM0 : Mem B [] w0 Z0 ((.row b1 [.bool u0.neg, .slice ao2 u0.abs.length cap3] 69) :: (.row b5 [.bool u1.neg, .slice ao6 u1.abs.length cap7] 69) :: (.row b9 [.bool u2.neg, .slice ao10 u2.abs.length cap11] 69) :: Rr) Z w) (hZ : Z.on w) {K : (BInt × BInt × BInt) → Prop} (hp : gaddI_vc u0 u1 u2 K) : Calls Tryd.prog 76 #[pt b1 0, pt b5 0, pt b9 0] w fun e w' => ∃ (r : BInt × BInt × BInt) (ao1001 : Option Addr) (cap1002 : Nat) (ao1004 : Option Addr) (cap1005 : Nat) (ao1007 : Option Addr) (cap1008 : Nat) (Z' : Fz), e = .returned (pt b1 0) ∧ K r ∧ Fz.le Z Z' ∧ SlR (tyInt .u32) Z' ao1001 cap1002 r.1.abs ∧ SlR (tyInt .u32) Z' ao1004 cap1005 r.2.1.abs ∧ SlR (tyInt .u32) Z' ao1007 cap1008 r.2.2.abs ∧ Mem B [] w0 Z0 ((.row b1 [.bool r.1.neg, .slice ao1001 r.1.abs.length cap1002] 69) :: (.row b5 [.bool r.2.1.neg, .slice ao1004 r.2.1.abs.length cap1005] 69) :: (.row b9 [.bool r.2.2.neg, .slice ao1007 r.2.2.abs.length cap1008] 69) :: Rr) Z' w' := by
 refine enter0 Tryd.func76 rfl rfl (by kernel_rfl) ?_; intro S k; have c := Fz.le.refl Z
 have l := hp (hs4.small); clear hp
 have m := l (hs8.small); clear l
 have F := m (hs12.small); clear m
 refine sqB k hM0 [] [] [] ?_; intro G n; clear k
 have o : Fr 28 [] [⟨0, [], pt b1 0⟩, ⟨1, [], pt b5 0⟩, ⟨2, [], pt b9 0⟩] G := n.reg; clear n
 refine wp_seq (rgS mixed hM0 [(0, true), (1, true), (2, true), (3, true), (4, true), (5, true), (6, true), (7, true), (8, true), (9, true), (10, true), (11, true), (12, true), (13, true), (14, true), (15, true), (16, true), (17, false), (18, true), (19, true), (20, false), (21, true)] [] [1, 2] [.row b5 [.bool u1.neg, .slice ao6 u1.abs.length cap7] 69, .row b9 [.bool u2.neg, .slice ao10 u2.abs.length cap11] 69] ?_)
 intro H p T g; clear hM0
 have a := Fz.le.refl Z
 refine cS o 17 [0, 0, 1, 1] [] [(7, pt b1 0), (11, .bool u1.neg), (15, .slice ao6 u1.abs.length cap7), (19, .bool u2.neg), (23, .slice ao10 u2.abs.length cap11)] ?_; intro U q; clear o
 refine eS rfl ?_; intro I s
 obtain ⟨J, L⟩ := F
 refine ck q 108 #[.bool u1.neg, .slice ao6 u1.abs.length cap7, .bool u2.neg, .slice ao10 u2.abs.length cap11] ?_
 refine (gsum_fun u1.neg u1.abs u2.neg u2.abs J ao6 cap7 ao10 cap11 _ _ hs8 hs12 g.fz).mono ?_; rintro _ M ⟨h, i, N, rfl, j, hm⟩; refine ⟨_, rfl, ?_⟩; intro V t; have u := g.callZ hm; have d := hm.ext.le; clear hm g q
 replace hs4 := hs4.mono d
 replace hs8 := hs8.mono d
 replace hs12 := hs12.mono d
 replace a := a.mono d
 replace c := Fz.le.trans c d
 have f : Mem B [] w0 Z0 ((.row b1 [.bool u0.neg, .slice ao2 u0.abs.length cap3] 69) :: (.row b5 [.bool u1.neg, .slice ao6 u1.abs.length cap7] 69) :: (.row b9 [.bool u2.neg, .slice ao10 u2.abs.length cap11] 69) :: Rr) N M := u; clear u
 refine nl (qnI (s _ _ (f.cst a [1, 2]) ?_)); clear s I
 refine cS t 2 [] [] [(25, .bool (gsumS u1.neg u1.abs u2.neg u2.abs).1), (26, .slice h (gsumS u1.neg u1.abs u2.neg u2.abs).2.length i)] ?_; intro W v; clear t
 refine eS rfl ?_; intro O x
 refine ck v 83 #[pt b1 0, .bool (gsumS u1.neg u1.abs u2.neg u2.abs).1, .slice h (gsumS u1.neg u1.abs u2.neg u2.abs).2.length i] ?_
 refine (ggive_fun u0 (gsumS u1.neg u1.abs u2.neg u2.abs).1 (gsumS u1.neg u1.abs u2.neg u2.abs).2 b1 ao2 cap3 h i _ _ _ _ _ _ hs4 j f f.fz).mono ?_; rintro _ P ⟨y, z, A, rfl, b, Q, hm⟩; refine ⟨_, rfl, ?_⟩; intro X C; have D := hm; clear hm f v
 replace hs4 := hs4.mono b
 replace hs8 := hs8.mono b
 replace hs12 := hs12.mono b
 replace a := a.mono b
 replace j := j.mono b
 replace c := Fz.le.trans c b
 have E : Mem B [] w0 Z0 ((.row b1 [.bool (ggive u0 (gsumS u1.neg u1.abs u2.neg u2.abs).1 (gsumS u1.neg u1.abs u2.neg u2.abs).2).neg, .slice y (ggive u0 (gsumS u1.neg u1.abs u2.neg u2.abs).1 (gsumS u1.neg u1.abs u2.neg u2.abs).2).abs.length z] 69) :: (.row b5 [.bool u1.neg, .slice ao6 u1.abs.length cap7] 69) :: (.row b9 [.bool u2.neg, .slice ao10 u2.abs.length cap11] 69) :: Rr) A P := D; clear D
 refine nl (qnI (x _ _ (E.cst a [1, 2]) ?_)); clear x O
 refine cS C 1 [] [] [(6, pt b1 0)] ?_; intro Y R; clear C
 refine nS (p _ _ ?_); clear p H
 refine thn ?_
 refine wp_ret ?_
 refine ra1 R (pt b1 0) ?_
 exact ⟨((ggive u0 (gsumS u1.neg u1.abs u2.neg u2.abs).1 (gsumS u1.neg u1.abs u2.neg u2.abs).2), u1, u2), y, z, ao6, cap7, ao10, cap11, A, rfl, L, c, Q, hs8, hs12, E.keep (List.Sublist.cons_cons _ (List.Sublist.cons_cons _ (List.Sublist.cons_cons _ (List.Sublist.refl _))))⟩

theorem rnorm_walk (u0 : BRat) (b1 : Nat) (ao2 : Option Addr) (cap3 : Nat) (ao5 : Option Addr) (cap6 : Nat) (B : Nat) (w0 : World) (Z0 : Fz) (Rr : List Res) (Z : Fz) (w : World) (hs4 : SlR (tyInt .u32) Z ao2 cap3 u0.a.abs) (hs7 : SlR (tyInt .u32) Z ao5 cap6 u0.b.abs) (hM0 : Mem B [] w0 Z0 ((.row b1 [.bool u0.a.neg, .slice ao2 u0.a.abs.length cap3, .bool u0.b.neg, .slice ao5 u0.b.abs.length cap6] 71) :: Rr) Z w) (hZ : Z.on w) {K : BRat → Prop} (hp : rnorm_vc u0 K) : Calls Tryd.prog 107 #[pt b1 0] w fun e w' => ∃ (r : BRat) (ao1001 : Option Addr) (cap1002 : Nat) (ao1004 : Option Addr) (cap1005 : Nat) (Z' : Fz), e = .returned (pt b1 0) ∧ K r ∧ Fz.le Z Z' ∧ SlR (tyInt .u32) Z' ao1001 cap1002 r.a.abs ∧ SlR (tyInt .u32) Z' ao1004 cap1005 r.b.abs ∧ Mem B [] w0 Z0 ((.row b1 [.bool r.a.neg, .slice ao1001 r.a.abs.length cap1002, .bool r.b.neg, .slice ao1004 r.b.abs.length cap1005] 71) :: Rr) Z' w' := by
 refine enter0 Tryd.func107 rfl rfl (by kernel_rfl) ?_; intro a0 dZ; have f := Fz.le.refl Z
 have d0 := hp (hs4.small); clear hp
 have iR := d0 (hs7.small); clear d0
 refine sqB dZ hM0 [] [] [] ?_; intro mA d1; clear dZ
 refine wp_seq ?_
 refine sqB d1 hM0 [0] [] [(14, .bool ((u0.b.abs.length : Int) == 0))] ?_; intro mB cG; clear d1
 obtain ⟨iS, bv⟩ := iR
 refine cn cG iS ?_
 refine wp_skip ?_
 refine thn ?_
 refine wp_seq ?_
 refine sqB cG hM0 [0] [] [(23, .bool u0.b.neg)] ?_; intro iT aD; clear cG
 refine cd aD (t := u0.b.neg) (by kernel_rfl) (fun cH => ?_) (fun cH => ?_)
 ·
  have iU := bv.1 cH; clear bv
  have d2 : Fr 120 [] [⟨0, [], pt b1 0⟩] iT := aD.reg; clear aD
  refine wp_seq (rgS mixed hM0 [(0, true), (1, true), (2, true), (3, true), (4, true), (5, true), (6, false)] [6] [] [] ?_)
  intro iV d3 mC cI; clear hM0
  have d4 := Fz.le.refl Z
  refine cS d2 6 [] [] [(26, pt b1 0), (29, pt b1 0)] ?_; intro mD d5; clear d2
  refine eL rfl ?_; intro iW d6
  obtain ⟨iX, iY⟩ := iU
  refine ck d5 55 #[pt b1 0, pt b1 0] ?_
  refine (gnegA_fun u0 iX b1 ao2 cap3 ao5 cap6 _ _ _ _ _ _ hs4 hs7 cI cI.fz).mono ?_; rintro _ iZ ⟨d7, d8, d9, ea, eb, rfl, bw, o, p, hm⟩; refine ⟨_, rfl, ?_⟩; intro i0 ec; have ed := hm; clear hm cI d5
  replace hs4 := hs4.mono bw
  replace hs7 := hs7.mono bw
  replace d4 := d4.mono bw
  replace f := Fz.le.trans f bw
  have ee : Mem B [] w0 Z0 ((.row b1 (e71Nd (gnegAS u0) d7 d8 d9 ea) 71) :: Rr) eb iZ := ed; clear ed
  refine nl (qnI (d6 _ _ ?_)); clear d6 iW
  refine nS (d3 _ _ ?_); clear d3 iV
  refine thn ?_
  have ef : Fr 120 [] [⟨0, [], pt b1 0⟩] i0 := ec.reg; clear ec
  refine rgS mixed ee [(0, true), (1, true), (2, true), (3, true), (4, true), (5, true), (6, false)] [6] [] [] ?_
  intro i1 eg mE cJ; clear ee
  have eh := Fz.le.refl eb
  refine cS ef 6 [] [] [(33, pt b1 2), (36, pt b1 2)] ?_; intro mF ei; clear ef
  refine eL rfl ?_; intro i2 ej
  obtain ⟨i3, bx⟩ := iY
  refine ck ei 55 #[pt b1 2, pt b1 2] ?_
  refine (gnegB_fun (gnegAS u0) i3 b1 d7 d8 d9 ea _ _ _ _ _ _ o p cJ cJ.fz).mono ?_; rintro _ i4 ⟨j, l, h, i, bz, rfl, aA, n, m, hm⟩; refine ⟨_, rfl, ?_⟩; intro mG ek; have el := hm; clear hm cJ ei
  replace hs4 := hs4.mono aA
  replace hs7 := hs7.mono aA
  replace o := o.mono aA
  replace p := p.mono aA
  replace eh := eh.mono aA
  replace f := Fz.le.trans f aA
  have q : Mem B [] w0 Z0 ((.row b1 (e71Nd (gnegBS (gnegAS u0)) j l h i) 71) :: Rr) bz i4 := el; clear el
  refine nl (qnI (ej _ _ ?_)); clear ej i2
  refine nS (eg _ _ ?_); clear eg i1
  refine thn ?_
  refine wp_seq ?_
  refine sqB ek q [0] [] [(44, .bool (((gnegBS (gnegAS u0)).a.abs.length : Int) == 0))] ?_; intro mH aE; clear ek
  refine cd aE (t := ((gnegBS (gnegAS u0)).a.abs.length : Int) == 0) (by kernel_rfl) (fun cK => ?_) (fun cK => ?_)
  ·
   have i5 := bx.1 cK; clear bx
   refine sqH ?_; intro i7 em
   refine bt aE q 3 [] [] [(47, pt b1 2)] ?_; intro mI en; clear aE
   refine ck en 82 #[pt b1 2, i6 1] ?_
   refine enter0 Tryd.func82 rfl rfl (by kernel_rfl) ?_; intro i8 eo
   have ep : Fr 18 [] [⟨0, [], pt b1 2⟩, ⟨1, [], i6 1⟩] i8 := eo.reg; clear eo
   refine sqB ep q [] [] [] ?_; intro mJ eq; clear ep
   refine sqB eq q [] [] [(5, y6 1)] ?_; intro mK er; clear eq
   refine wp_seq ?_
   refine sqB er q [] [] [(9, .bool false)] ?_; intro mL cL; clear er
   refine cdF cL (by kernel_rfl) ?_
   refine wp_skip ?_
   refine thn ?_
   refine sqH ?_; intro i9 es
   refine bt cL q 4 [] [] [(12, pt b1 2), (14, .bool false), (15, y6 1)] ?_; intro mM et; clear cL
   obtain ⟨ja, eu⟩ := i5
   refine ck et 110 #[y6 1] ?_
   refine (gwords_fun 1 ja _ _ q.fz).mono ?_; rintro _ jb ⟨ev, ew, jc, rfl, bA, hm⟩; refine ⟨_, rfl, ?_⟩; intro mN ex; have ey := q.callZ hm; have af := hm.ext.le; clear hm q et
   replace hs4 := hs4.mono af
   replace hs7 := hs7.mono af
   replace o := o.mono af
   replace p := p.mono af
   replace n := n.mono af
   replace m := m.mono af
   replace f := Fz.le.trans f af
   have cM : Mem B [] w0 Z0 ((.row b1 (e71Nd (gnegBS (gnegAS u0)) j l h i) 71) :: Rr) jc jb := ey; clear ey
   have ez := eu (bA.small); clear eu
   refine ck ex 83 #[pt b1 2, .bool false, .slice ev (gwordsS 1).length ew] ?_
   obtain ⟨V, jd, eA⟩ := hxq ez; clear ez
   have h9 := ggiveB_fun (gnegBS (gnegAS u0)) false (gwordsS 1) b1 j l h i ev ew _ _ _ _ _ _ n m bA cM cM.fz; rw [jd] at h9; refine h9.mono ?_; clear h9; rintro _ eB ⟨cN, cO, cP, cQ, cR, rfl, ab, eC, eD, hm⟩; refine ⟨_, rfl, ?_⟩; intro mO eE; have eF := hm; clear hm cM ex
   replace hs4 := hs4.mono ab
   replace hs7 := hs7.mono ab
   replace o := o.mono ab
   replace p := p.mono ab
   replace n := n.mono ab
   replace m := m.mono ab
   replace bA := bA.mono ab
   replace f := Fz.le.trans f ab
   have eG : Mem B [] w0 Z0 ((.row b1 (e71Nd V cN cO cP cQ) 71) :: Rr) cR eB := eF; clear eF
   have eH := eA (eC.small); clear eA
   have je := eH (eD.small); clear eH
   refine s1 eE 4 (pt b1 2) ?_; intro mP eI; clear eE
   refine nlH (es _ _ ?_); clear es i9
   refine wp_ret ?_
   refine ra1 eI (pt b1 2) ?_
   refine ⟨_, rfl, ?_⟩; intro mQ eJ; clear en eI
   have eK : Mem B [] w0 Z0 ((.row b1 (e71Nd V cN cO cP cQ) 71) :: Rr) cR eB := eG; clear eG
   refine nlH (em _ _ ?_); clear em i7
   refine sqB eJ eK [] [] [(2, pt b1 0)] ?_; intro mR jf; clear eJ
   refine wp_ret ?_
   refine thr ?_
   refine ra1 jf (pt b1 0) ?_
   exact ⟨V, cN, cO, cP, cQ, cR, rfl, je, f, eC, eD, eK.keep (List.Sublist.cons_cons _ (List.Sublist.refl _))⟩
  have bB := bx.2 cK; clear bx
  refine wp_skip ?_
  refine thn ?_
  refine wp_seq ?_
  refine sqH ?_; intro eM bC
  refine bt aE q 8 [0] [] [(57, .bool (((gnegBS (gnegAS u0)).b.abs.length : Int) == 1))] ?_; intro mS bD; clear aE
  rcases Bool.eq_false_or_eq_true (((gnegBS (gnegAS u0)).b.abs.length : Int) == 1) with aF | aF
  ·
   have jg := bB.1 aF; clear bB
   have eN := bD.reval (d := 57) (c := []) (v := .bool (((gnegBS (gnegAS u0)).b.abs.length : Int) == 1)) (by kernel_rfl) (.bool true) (by rw [aF]); clear bD
   refine bt eN q 5 [0] [58, 59, 60, 61, 62] [(62, .slice h (gnegBS (gnegAS u0)).b.abs.length i)] ?_; intro mT cT; clear eN
   obtain ⟨jh, eO⟩ := jg
   refine ix cT (T := (tyInt .u32)) (xs := (gnegBS (gnegAS u0)).b.abs) m (0 : Int) jh (k := .i64) (e := 109) (bytes := 4) (by rw [wanted_of cT (b := true) rfl rfl (by kernel_rfl) (by kernel_rfl)]; rfl) rfl (by kernel_rfl) rfl (by kernel_rfl) (by kernel_rfl) (by kernel_rfl) ?_; intro mU mV ji aG mW jj O jk bE; clear cT
   have bF := eO aG jj; clear eO
   obtain rfl : ji = ([.int .u32 aG] : List Value) := jk
   refine st bE (.int .u32 aG) (by rw [wanted_of bE (b := true) rfl rfl (by kernel_rfl) (by kernel_rfl)]; rfl) rfl (by kernel_rfl) (lz bE q.fz O 0 (g := []) rfl (by kernel_rfl) (by kernel_rfl) (by kernel_rfl) rfl) ?_; intro mX eP; clear bE
   refine bt eP q 2 [] [65, 66] [(66, .bool (aG == 1))] ?_; intro jl aH; clear eP
   refine nlH (bC _ _ ?_); clear bC eM
   refine cd aH (t := aG == 1) (by kernel_rfl) (fun cU => ?_) (fun cU => ?_)
   ·
    have jm := bF.1 cU; clear bF
    refine sqB aH q [] [] [(2, pt b1 0)] ?_; intro mY jn; clear aH
    refine wp_ret ?_
    refine thr ?_
    refine ra1 jn (pt b1 0) ?_
    exact ⟨(gnegBS (gnegAS u0)), j, l, h, i, bz, rfl, jm, f, n, m, q.keep (List.Sublist.cons_cons _ (List.Sublist.refl _))⟩
   have jo := bF.2 cU; clear bF
   refine wp_skip ?_
   refine thn ?_
   have eQ : Fr 120 [] [⟨0, [], pt b1 0⟩] jl := aH.reg; clear aH
   refine wp_seq (rgS mixed q [(0, true), (1, true), (2, true), (3, true), (4, true), (5, true), (6, true), (7, true), (8, true), (9, true), (10, false), (11, true)] [] [0] [.row b1 (e71Nd (gnegBS (gnegAS u0)) j l h i) 71] ?_)
   intro jp eR mZ cV; clear q
   have cW := Fz.le.refl bz
   refine cS eQ 10 [0, 0] [] [(72, .slice j (gnegBS (gnegAS u0)).a.abs.length l), (77, .slice h (gnegBS (gnegAS u0)).b.abs.length i)] ?_; intro m0 eT; clear eQ
   refine eS rfl ?_; intro jq eU
   obtain ⟨jr, bG⟩ := jo
   refine ck eT 127 #[.slice j (gnegBS (gnegAS u0)).a.abs.length l, .slice h (gnegBS (gnegAS u0)).b.abs.length i] ?_
   refine (gcom_fun (gnegBS (gnegAS u0)).a.abs (gnegBS (gnegAS u0)).b.abs jr j l h i _ _ n m cV.fz).mono ?_; rintro _ js ⟨z, A, eV, rfl, I, hm⟩; refine ⟨_, rfl, ?_⟩; intro m1 eW; have eX := cV.callZ hm; have W := hm.ext.le; clear hm cV eT
   replace hs4 := hs4.mono W
   replace hs7 := hs7.mono W
   replace o := o.mono W
   replace p := p.mono W
   replace n := n.mono W
   replace m := m.mono W
   replace O := O.mono W
   replace cW := cW.mono W
   replace f := Fz.le.trans f W
   have s : Mem B [] w0 Z0 ((.row b1 (e71Nd (gnegBS (gnegAS u0)) j l h i) 71) :: Rr) eV js := eX; clear eX
   refine nl (qnI (eU _ _ (s.cst cW [0]) ?_)); clear eU jq
   refine cS eW 1 [] [] [(3, .slice z (gcomS (gnegBS (gnegAS u0)).a.abs (gnegBS (gnegAS u0)).b.abs).length A)] ?_; intro m2 eY; clear eW
   refine nS (eR _ _ ?_); clear eR jp
   refine thn ?_
   refine wp_seq ?_
   refine sqH ?_; intro eZ bH
   refine bt eY s 4 [] [] [(82, .bool (((gcomS (gnegBS (gnegAS u0)).a.abs (gnegBS (gnegAS u0)).b.abs).length : Int) == 1))] ?_; intro m3 bI; clear eY
   rcases Bool.eq_false_or_eq_true (((gcomS (gnegBS (gnegAS u0)).a.abs (gnegBS (gnegAS u0)).b.abs).length : Int) == 1) with aI | aI
   ·
    have jt := bG.1 aI; clear bG
    have bJ := bI.reval (d := 82) (c := []) (v := .bool (((gcomS (gnegBS (gnegAS u0)).a.abs (gnegBS (gnegAS u0)).b.abs).length : Int) == 1)) (by kernel_rfl) (.bool true) (by rw [aI]); clear bI
    refine st bJ (.slice z (gcomS (gnegBS (gnegAS u0)).a.abs (gnegBS (gnegAS u0)).b.abs).length A) (by rw [wanted_of bJ (b := true) rfl rfl (by kernel_rfl) (by kernel_rfl)]; rfl) rfl (by kernel_rfl) (p0 bJ (by kernel_rfl)) ?_; intro m4 cX; clear bJ
    obtain ⟨ju, e0⟩ := jt
    refine ix cX (T := (tyInt .u32)) (xs := (gcomS (gnegBS (gnegAS u0)).a.abs (gnegBS (gnegAS u0)).b.abs)) I (0 : Int) ju (k := .i64) (e := 109) (bytes := 4) (by rw [wanted_of cX (b := true) rfl rfl (by kernel_rfl) (by kernel_rfl)]; rfl) rfl (by kernel_rfl) rfl (by kernel_rfl) (by kernel_rfl) (by kernel_rfl) ?_; intro m5 m6 jv aJ m7 jw aK jx bK; clear cX
    have bL := e0 aJ jw; clear e0
    obtain rfl : jv = ([.int .u32 aJ] : List Value) := jx
    refine st bK (.int .u32 aJ) (by rw [wanted_of bK (b := true) rfl rfl (by kernel_rfl) (by kernel_rfl)]; rfl) rfl (by kernel_rfl) (lz bK s.fz aK 0 (g := []) rfl (by kernel_rfl) (by kernel_rfl) (by kernel_rfl) rfl) ?_; intro m8 e1; clear bK
    refine bt e1 s 2 [] [86, 87] [(87, .bool (aJ == 1))] ?_; intro m9 aL; clear e1
    refine nlH (bH _ _ ?_); clear bH eZ
    refine cd aL (t := aJ == 1) (by kernel_rfl) (fun cY => ?_) (fun cY => ?_)
    ·
     have jy := bL.1 cY; clear bL
     refine sqB aL s [] [] [(2, pt b1 0)] ?_; intro na jz; clear aL
     refine wp_ret ?_
     refine thr ?_
     refine ra1 jz (pt b1 0) ?_
     exact ⟨(gnegBS (gnegAS u0)), j, l, h, i, eV, rfl, jy, f, n, m, s.keep (List.Sublist.cons_cons _ (List.Sublist.refl _))⟩
    have jA := bL.2 cY; clear bL
    refine wp_skip ?_
    refine thn ?_
    refine sqH ?_; intro jB e2
    refine bt aL s 6 [0] [] [(94, .slice j (gnegBS (gnegAS u0)).a.abs.length l), (95, .slice z (gcomS (gnegBS (gnegAS u0)).a.abs (gnegBS (gnegAS u0)).b.abs).length A)] ?_; intro nb e3; clear aL
    obtain ⟨jC, e4⟩ := jA
    refine ck e3 128 #[.slice j (gnegBS (gnegAS u0)).a.abs.length l, .slice z (gcomS (gnegBS (gnegAS u0)).a.abs (gnegBS (gnegAS u0)).b.abs).length A] ?_
    refine (gdiv_fun (gnegBS (gnegAS u0)).a.abs (gcomS (gnegBS (gnegAS u0)).a.abs (gnegBS (gnegAS u0)).b.abs) jC j l z A _ _ n I s.fz).mono ?_; rintro _ jD ⟨ag, ah, nc, nd, jE, rfl, bM, cZ, hm⟩; refine ⟨_, rfl, ?_⟩; intro ne e5; have e6 := s.callZ hm; have S := hm.ext.le; clear hm s e3
    replace hs4 := hs4.mono S
    replace hs7 := hs7.mono S
    replace o := o.mono S
    replace p := p.mono S
    replace n := n.mono S
    replace m := m.mono S
    replace O := O.mono S
    replace I := I.mono S
    replace aK := aK.mono S
    replace f := Fz.le.trans f S
    have aM : Mem B [] w0 Z0 ((.row b1 (e71Nd (gnegBS (gnegAS u0)) j l h i) 71) :: Rr) jE jD := e6; clear e6
    have e7 := e4 (bM.small); clear e4
    have jF := e7 (cZ.small); clear e7
    refine bt e5 aM 5 [] [] [(4, .slice ag (gdivS (gnegBS (gnegAS u0)).a.abs (gcomS (gnegBS (gnegAS u0)).a.abs (gnegBS (gnegAS u0)).b.abs)).1.length ah)] ?_; intro nf e8; clear e5
    refine nlH (e2 _ _ ?_); clear e2 jB
    refine sqH ?_; intro jG e9
    refine bt e8 aM 6 [0] [] [(104, .slice h (gnegBS (gnegAS u0)).b.abs.length i), (105, .slice z (gcomS (gnegBS (gnegAS u0)).a.abs (gnegBS (gnegAS u0)).b.abs).length A)] ?_; intro ng fa; clear e8
    obtain ⟨jH, fb⟩ := jF
    refine ck fa 128 #[.slice h (gnegBS (gnegAS u0)).b.abs.length i, .slice z (gcomS (gnegBS (gnegAS u0)).a.abs (gnegBS (gnegAS u0)).b.abs).length A] ?_
    refine (gdiv_fun (gnegBS (gnegAS u0)).b.abs (gcomS (gnegBS (gnegAS u0)).a.abs (gnegBS (gnegAS u0)).b.abs) jH h i z A _ _ m I aM.fz).mono ?_; rintro _ jI ⟨aN, aO, nh, ni, bN, rfl, fc, jJ, hm⟩; refine ⟨_, rfl, ?_⟩; intro nj fd; have fe := aM.callZ hm; have N := hm.ext.le; clear hm aM fa
    replace hs4 := hs4.mono N
    replace hs7 := hs7.mono N
    replace o := o.mono N
    replace p := p.mono N
    replace n := n.mono N
    replace m := m.mono N
    replace O := O.mono N
    replace I := I.mono N
    replace aK := aK.mono N
    replace bM := bM.mono N
    replace cZ := cZ.mono N
    replace f := Fz.le.trans f N
    have bO : Mem B [] w0 Z0 ((.row b1 (e71Nd (gnegBS (gnegAS u0)) j l h i) 71) :: Rr) bN jI := fe; clear fe
    have ff := fb (fc.small); clear fb
    have jK := ff (jJ.small); clear ff
    refine bt fd bO 5 [] [] [(6, .slice aN (gdivS (gnegBS (gnegAS u0)).b.abs (gcomS (gnegBS (gnegAS u0)).a.abs (gnegBS (gnegAS u0)).b.abs)).1.length aO)] ?_; intro nk fg; clear fd
    refine nlH (e9 _ _ ?_); clear e9 jG
    refine sqH ?_; intro jL fh
    refine bt fg bO 5 [] [] [(110, .slice ag (gdivS (gnegBS (gnegAS u0)).a.abs (gcomS (gnegBS (gnegAS u0)).a.abs (gnegBS (gnegAS u0)).b.abs)).1.length ah), (113, pt b1 1)] ?_; intro nm c0; clear fg
    refine sx c0 bO 0 [.bool (gnegBS (gnegAS u0)).a.neg, .slice ag (gdivS (gnegBS (gnegAS u0)).a.abs (gcomS (gnegBS (gnegAS u0)).a.abs (gnegBS (gnegAS u0)).b.abs)).1.length ah, .bool (gnegBS (gnegAS u0)).b.neg, .slice h (gnegBS (gnegAS u0)).b.abs.length i] 1 ?_; intro jM fi; clear bO
    have c1 : Mem B [] w0 Z0 ((.row b1 [.bool (gnegBS (gnegAS u0)).a.neg, .slice ag (gdivS (gnegBS (gnegAS u0)).a.abs (gcomS (gnegBS (gnegAS u0)).a.abs (gnegBS (gnegAS u0)).b.abs)).1.length ah, .bool (gnegBS (gnegAS u0)).b.neg, .slice h (gnegBS (gnegAS u0)).b.abs.length i] 71) :: Rr) bN jM := fi; clear fi
    refine nlH (fh _ _ ?_); clear fh jL
    refine sqH ?_; intro jN fj
    refine bt c0 c1 5 [] [] [(115, .slice aN (gdivS (gnegBS (gnegAS u0)).b.abs (gcomS (gnegBS (gnegAS u0)).a.abs (gnegBS (gnegAS u0)).b.abs)).1.length aO), (118, pt b1 3)] ?_; intro nn c2; clear c0
    refine sx c2 c1 0 [.bool (gnegBS (gnegAS u0)).a.neg, .slice ag (gdivS (gnegBS (gnegAS u0)).a.abs (gcomS (gnegBS (gnegAS u0)).a.abs (gnegBS (gnegAS u0)).b.abs)).1.length ah, .bool (gnegBS (gnegAS u0)).b.neg, .slice aN (gdivS (gnegBS (gnegAS u0)).b.abs (gcomS (gnegBS (gnegAS u0)).a.abs (gnegBS (gnegAS u0)).b.abs)).1.length aO] 3 ?_; intro jO fk; clear c1
    have fl : Mem B [] w0 Z0 ((.row b1 [.bool (gnegBS (gnegAS u0)).a.neg, .slice ag (gdivS (gnegBS (gnegAS u0)).a.abs (gcomS (gnegBS (gnegAS u0)).a.abs (gnegBS (gnegAS u0)).b.abs)).1.length ah, .bool (gnegBS (gnegAS u0)).b.neg, .slice aN (gdivS (gnegBS (gnegAS u0)).b.abs (gcomS (gnegBS (gnegAS u0)).a.abs (gnegBS (gnegAS u0)).b.abs)).1.length aO] 71) :: Rr) bN jO := fk; clear fk
    refine nlH (fj _ _ ?_); clear fj jN
    refine sqB c2 fl [] [] [(2, pt b1 0)] ?_; intro no jP; clear c2
    refine wp_ret ?_
    refine ra1 jP (pt b1 0) ?_
    exact ⟨(⟨(⟨(gnegBS (gnegAS u0)).a.neg, (gdivS (gnegBS (gnegAS u0)).a.abs (gcomS (gnegBS (gnegAS u0)).a.abs (gnegBS (gnegAS u0)).b.abs)).1⟩ : BInt), (⟨(gnegBS (gnegAS u0)).b.neg, (gdivS (gnegBS (gnegAS u0)).b.abs (gcomS (gnegBS (gnegAS u0)).a.abs (gnegBS (gnegAS u0)).b.abs)).1⟩ : BInt)⟩ : BRat), ag, ah, aN, aO, bN, rfl, jK, f, bM, fc, fl.keep (List.Sublist.cons_cons _ (List.Sublist.refl _))⟩
   have jQ := bG.2 aI; clear bG
   have fm := bI.reval (d := 82) (c := []) (v := .bool (((gcomS (gnegBS (gnegAS u0)).a.abs (gnegBS (gnegAS u0)).b.abs).length : Int) == 1)) (by kernel_rfl) (.bool false) (by rw [aI]); clear bI
   refine bt fm s 5 [] [83, 84, 85, 86, 87] [(87, .bool false)] ?_; intro np c3; clear fm
   refine nlH (bH _ _ ?_); clear bH eZ
   refine cdF c3 (by kernel_rfl) ?_
   refine wp_skip ?_
   refine thn ?_
   refine sqH ?_; intro jR fn
   refine bt c3 s 6 [0] [] [(94, .slice j (gnegBS (gnegAS u0)).a.abs.length l), (95, .slice z (gcomS (gnegBS (gnegAS u0)).a.abs (gnegBS (gnegAS u0)).b.abs).length A)] ?_; intro nq fo; clear c3
   obtain ⟨jS, fp⟩ := jQ
   refine ck fo 128 #[.slice j (gnegBS (gnegAS u0)).a.abs.length l, .slice z (gcomS (gnegBS (gnegAS u0)).a.abs (gnegBS (gnegAS u0)).b.abs).length A] ?_
   refine (gdiv_fun (gnegBS (gnegAS u0)).a.abs (gcomS (gnegBS (gnegAS u0)).a.abs (gnegBS (gnegAS u0)).b.abs) jS j l z A _ _ n I s.fz).mono ?_; rintro _ jT ⟨ai, aj, nr, ns, jU, rfl, bP, c4, hm⟩; refine ⟨_, rfl, ?_⟩; intro nt fq; have fr := s.callZ hm; have X := hm.ext.le; clear hm s fo
   replace hs4 := hs4.mono X
   replace hs7 := hs7.mono X
   replace o := o.mono X
   replace p := p.mono X
   replace n := n.mono X
   replace m := m.mono X
   replace O := O.mono X
   replace I := I.mono X
   replace f := Fz.le.trans f X
   have aP : Mem B [] w0 Z0 ((.row b1 (e71Nd (gnegBS (gnegAS u0)) j l h i) 71) :: Rr) jU jT := fr; clear fr
   have fs := fp (bP.small); clear fp
   have jV := fs (c4.small); clear fs
   refine bt fq aP 5 [] [] [(4, .slice ai (gdivS (gnegBS (gnegAS u0)).a.abs (gcomS (gnegBS (gnegAS u0)).a.abs (gnegBS (gnegAS u0)).b.abs)).1.length aj)] ?_; intro nu ft; clear fq
   refine nlH (fn _ _ ?_); clear fn jR
   refine sqH ?_; intro jW fu
   refine bt ft aP 6 [0] [] [(104, .slice h (gnegBS (gnegAS u0)).b.abs.length i), (105, .slice z (gcomS (gnegBS (gnegAS u0)).a.abs (gnegBS (gnegAS u0)).b.abs).length A)] ?_; intro nv fv; clear ft
   obtain ⟨jX, fw⟩ := jV
   refine ck fv 128 #[.slice h (gnegBS (gnegAS u0)).b.abs.length i, .slice z (gcomS (gnegBS (gnegAS u0)).a.abs (gnegBS (gnegAS u0)).b.abs).length A] ?_
   refine (gdiv_fun (gnegBS (gnegAS u0)).b.abs (gcomS (gnegBS (gnegAS u0)).a.abs (gnegBS (gnegAS u0)).b.abs) jX h i z A _ _ m I aP.fz).mono ?_; rintro _ jY ⟨aQ, aR, nw, nx, bQ, rfl, fx, jZ, hm⟩; refine ⟨_, rfl, ?_⟩; intro ny fy; have fA := aP.callZ hm; have P := hm.ext.le; clear hm aP fv
   replace hs4 := hs4.mono P
   replace hs7 := hs7.mono P
   replace o := o.mono P
   replace p := p.mono P
   replace n := n.mono P
   replace m := m.mono P
   replace O := O.mono P
   replace I := I.mono P
   replace bP := bP.mono P
   replace c4 := c4.mono P
   replace f := Fz.le.trans f P
   have bR : Mem B [] w0 Z0 ((.row b1 (e71Nd (gnegBS (gnegAS u0)) j l h i) 71) :: Rr) bQ jY := fA; clear fA
   have fB := fw (fx.small); clear fw
   have j0 := fB (jZ.small); clear fB
   refine bt fy bR 5 [] [] [(6, .slice aQ (gdivS (gnegBS (gnegAS u0)).b.abs (gcomS (gnegBS (gnegAS u0)).a.abs (gnegBS (gnegAS u0)).b.abs)).1.length aR)] ?_; intro nz fC; clear fy
   refine nlH (fu _ _ ?_); clear fu jW
   refine sqH ?_; intro j1 fD
   refine bt fC bR 5 [] [] [(110, .slice ai (gdivS (gnegBS (gnegAS u0)).a.abs (gcomS (gnegBS (gnegAS u0)).a.abs (gnegBS (gnegAS u0)).b.abs)).1.length aj), (113, pt b1 1)] ?_; intro nA c5; clear fC
   refine sx c5 bR 0 [.bool (gnegBS (gnegAS u0)).a.neg, .slice ai (gdivS (gnegBS (gnegAS u0)).a.abs (gcomS (gnegBS (gnegAS u0)).a.abs (gnegBS (gnegAS u0)).b.abs)).1.length aj, .bool (gnegBS (gnegAS u0)).b.neg, .slice h (gnegBS (gnegAS u0)).b.abs.length i] 1 ?_; intro j2 fE; clear bR
   have c6 : Mem B [] w0 Z0 ((.row b1 [.bool (gnegBS (gnegAS u0)).a.neg, .slice ai (gdivS (gnegBS (gnegAS u0)).a.abs (gcomS (gnegBS (gnegAS u0)).a.abs (gnegBS (gnegAS u0)).b.abs)).1.length aj, .bool (gnegBS (gnegAS u0)).b.neg, .slice h (gnegBS (gnegAS u0)).b.abs.length i] 71) :: Rr) bQ j2 := fE; clear fE
   refine nlH (fD _ _ ?_); clear fD j1
   refine sqH ?_; intro j3 fF
   refine bt c5 c6 5 [] [] [(115, .slice aQ (gdivS (gnegBS (gnegAS u0)).b.abs (gcomS (gnegBS (gnegAS u0)).a.abs (gnegBS (gnegAS u0)).b.abs)).1.length aR), (118, pt b1 3)] ?_; intro nB c7; clear c5
   refine sx c7 c6 0 [.bool (gnegBS (gnegAS u0)).a.neg, .slice ai (gdivS (gnegBS (gnegAS u0)).a.abs (gcomS (gnegBS (gnegAS u0)).a.abs (gnegBS (gnegAS u0)).b.abs)).1.length aj, .bool (gnegBS (gnegAS u0)).b.neg, .slice aQ (gdivS (gnegBS (gnegAS u0)).b.abs (gcomS (gnegBS (gnegAS u0)).a.abs (gnegBS (gnegAS u0)).b.abs)).1.length aR] 3 ?_; intro j4 fG; clear c6
   have fH : Mem B [] w0 Z0 ((.row b1 [.bool (gnegBS (gnegAS u0)).a.neg, .slice ai (gdivS (gnegBS (gnegAS u0)).a.abs (gcomS (gnegBS (gnegAS u0)).a.abs (gnegBS (gnegAS u0)).b.abs)).1.length aj, .bool (gnegBS (gnegAS u0)).b.neg, .slice aQ (gdivS (gnegBS (gnegAS u0)).b.abs (gcomS (gnegBS (gnegAS u0)).a.abs (gnegBS (gnegAS u0)).b.abs)).1.length aR] 71) :: Rr) bQ j4 := fG; clear fG
   refine nlH (fF _ _ ?_); clear fF j3
   refine sqB c7 fH [] [] [(2, pt b1 0)] ?_; intro nC j5; clear c7
   refine wp_ret ?_
   refine ra1 j5 (pt b1 0) ?_
   exact ⟨(⟨(⟨(gnegBS (gnegAS u0)).a.neg, (gdivS (gnegBS (gnegAS u0)).a.abs (gcomS (gnegBS (gnegAS u0)).a.abs (gnegBS (gnegAS u0)).b.abs)).1⟩ : BInt), (⟨(gnegBS (gnegAS u0)).b.neg, (gdivS (gnegBS (gnegAS u0)).b.abs (gcomS (gnegBS (gnegAS u0)).a.abs (gnegBS (gnegAS u0)).b.abs)).1⟩ : BInt)⟩ : BRat), ai, aj, aQ, aR, bQ, rfl, j0, f, bP, fx, fH.keep (List.Sublist.cons_cons _ (List.Sublist.refl _))⟩
  have j6 := bB.2 aF; clear bB
  have fI := bD.reval (d := 57) (c := []) (v := .bool (((gnegBS (gnegAS u0)).b.abs.length : Int) == 1)) (by kernel_rfl) (.bool false) (by rw [aF]); clear bD
  refine bt fI q 9 [] [58, 59, 60, 61, 62, 63, 64, 65, 66] [(66, .bool false)] ?_; intro j7 c8; clear fI
  refine nlH (bC _ _ ?_); clear bC eM
  refine cdF c8 (by kernel_rfl) ?_
  refine wp_skip ?_
  refine thn ?_
  have fJ : Fr 120 [] [⟨0, [], pt b1 0⟩] j7 := c8.reg; clear c8
  refine wp_seq (rgS mixed q [(0, true), (1, true), (2, true), (3, true), (4, true), (5, true), (6, true), (7, true), (8, true), (9, true), (10, false), (11, true)] [] [0] [.row b1 (e71Nd (gnegBS (gnegAS u0)) j l h i) 71] ?_)
  intro j8 fK nD c9; clear q
  have da := Fz.le.refl bz
  refine cS fJ 10 [0, 0] [] [(72, .slice j (gnegBS (gnegAS u0)).a.abs.length l), (77, .slice h (gnegBS (gnegAS u0)).b.abs.length i)] ?_; intro nE fL; clear fJ
  refine eS rfl ?_; intro j9 fM
  obtain ⟨ka, bS⟩ := j6
  refine ck fL 127 #[.slice j (gnegBS (gnegAS u0)).a.abs.length l, .slice h (gnegBS (gnegAS u0)).b.abs.length i] ?_
  refine (gcom_fun (gnegBS (gnegAS u0)).a.abs (gnegBS (gnegAS u0)).b.abs ka j l h i _ _ n m c9.fz).mono ?_; rintro _ kb ⟨C, D, fN, rfl, J, hm⟩; refine ⟨_, rfl, ?_⟩; intro nF fO; have fP := c9.callZ hm; have ac := hm.ext.le; clear hm c9 fL
  replace hs4 := hs4.mono ac
  replace hs7 := hs7.mono ac
  replace o := o.mono ac
  replace p := p.mono ac
  replace n := n.mono ac
  replace m := m.mono ac
  replace da := da.mono ac
  replace f := Fz.le.trans f ac
  have u : Mem B [] w0 Z0 ((.row b1 (e71Nd (gnegBS (gnegAS u0)) j l h i) 71) :: Rr) fN kb := fP; clear fP
  refine nl (qnI (fM _ _ (u.cst da [0]) ?_)); clear fM j9
  refine cS fO 1 [] [] [(3, .slice C (gcomS (gnegBS (gnegAS u0)).a.abs (gnegBS (gnegAS u0)).b.abs).length D)] ?_; intro nG fQ; clear fO
  refine nS (fK _ _ ?_); clear fK j8
  refine thn ?_
  refine wp_seq ?_
  refine sqH ?_; intro fR bT
  refine bt fQ u 4 [] [] [(82, .bool (((gcomS (gnegBS (gnegAS u0)).a.abs (gnegBS (gnegAS u0)).b.abs).length : Int) == 1))] ?_; intro nH bU; clear fQ
  rcases Bool.eq_false_or_eq_true (((gcomS (gnegBS (gnegAS u0)).a.abs (gnegBS (gnegAS u0)).b.abs).length : Int) == 1) with aS | aS
  ·
   have kc := bS.1 aS; clear bS
   have bV := bU.reval (d := 82) (c := []) (v := .bool (((gcomS (gnegBS (gnegAS u0)).a.abs (gnegBS (gnegAS u0)).b.abs).length : Int) == 1)) (by kernel_rfl) (.bool true) (by rw [aS]); clear bU
   refine st bV (.slice C (gcomS (gnegBS (gnegAS u0)).a.abs (gnegBS (gnegAS u0)).b.abs).length D) (by rw [wanted_of bV (b := true) rfl rfl (by kernel_rfl) (by kernel_rfl)]; rfl) rfl (by kernel_rfl) (p0 bV (by kernel_rfl)) ?_; intro nI db; clear bV
   obtain ⟨kd, fS⟩ := kc
   refine ix db (T := (tyInt .u32)) (xs := (gcomS (gnegBS (gnegAS u0)).a.abs (gnegBS (gnegAS u0)).b.abs)) J (0 : Int) kd (k := .i64) (e := 109) (bytes := 4) (by rw [wanted_of db (b := true) rfl rfl (by kernel_rfl) (by kernel_rfl)]; rfl) rfl (by kernel_rfl) rfl (by kernel_rfl) (by kernel_rfl) (by kernel_rfl) ?_; intro nJ nK ke aT nL kf aU kg bW; clear db
   have bX := fS aT kf; clear fS
   obtain rfl : ke = ([.int .u32 aT] : List Value) := kg
   refine st bW (.int .u32 aT) (by rw [wanted_of bW (b := true) rfl rfl (by kernel_rfl) (by kernel_rfl)]; rfl) rfl (by kernel_rfl) (lz bW u.fz aU 0 (g := []) rfl (by kernel_rfl) (by kernel_rfl) (by kernel_rfl) rfl) ?_; intro nM fT; clear bW
   refine bt fT u 2 [] [86, 87] [(87, .bool (aT == 1))] ?_; intro nN aV; clear fT
   refine nlH (bT _ _ ?_); clear bT fR
   refine cd aV (t := aT == 1) (by kernel_rfl) (fun dc => ?_) (fun dc => ?_)
   ·
    have kh := bX.1 dc; clear bX
    refine sqB aV u [] [] [(2, pt b1 0)] ?_; intro nO ki; clear aV
    refine wp_ret ?_
    refine thr ?_
    refine ra1 ki (pt b1 0) ?_
    exact ⟨(gnegBS (gnegAS u0)), j, l, h, i, fN, rfl, kh, f, n, m, u.keep (List.Sublist.cons_cons _ (List.Sublist.refl _))⟩
   have kj := bX.2 dc; clear bX
   refine wp_skip ?_
   refine thn ?_
   refine sqH ?_; intro kk fU
   refine bt aV u 6 [0] [] [(94, .slice j (gnegBS (gnegAS u0)).a.abs.length l), (95, .slice C (gcomS (gnegBS (gnegAS u0)).a.abs (gnegBS (gnegAS u0)).b.abs).length D)] ?_; intro nP fV; clear aV
   obtain ⟨kl, fW⟩ := kj
   refine ck fV 128 #[.slice j (gnegBS (gnegAS u0)).a.abs.length l, .slice C (gcomS (gnegBS (gnegAS u0)).a.abs (gnegBS (gnegAS u0)).b.abs).length D] ?_
   refine (gdiv_fun (gnegBS (gnegAS u0)).a.abs (gcomS (gnegBS (gnegAS u0)).a.abs (gnegBS (gnegAS u0)).b.abs) kl j l C D _ _ n J u.fz).mono ?_; rintro _ km ⟨ak, al, nQ, nR, kn, rfl, bY, dd, hm⟩; refine ⟨_, rfl, ?_⟩; intro nT fX; have fY := u.callZ hm; have Y := hm.ext.le; clear hm u fV
   replace hs4 := hs4.mono Y
   replace hs7 := hs7.mono Y
   replace o := o.mono Y
   replace p := p.mono Y
   replace n := n.mono Y
   replace m := m.mono Y
   replace J := J.mono Y
   replace aU := aU.mono Y
   replace f := Fz.le.trans f Y
   have aW : Mem B [] w0 Z0 ((.row b1 (e71Nd (gnegBS (gnegAS u0)) j l h i) 71) :: Rr) kn km := fY; clear fY
   have fZ := fW (bY.small); clear fW
   have ko := fZ (dd.small); clear fZ
   refine bt fX aW 5 [] [] [(4, .slice ak (gdivS (gnegBS (gnegAS u0)).a.abs (gcomS (gnegBS (gnegAS u0)).a.abs (gnegBS (gnegAS u0)).b.abs)).1.length al)] ?_; intro nU f0; clear fX
   refine nlH (fU _ _ ?_); clear fU kk
   refine sqH ?_; intro kp f1
   refine bt f0 aW 6 [0] [] [(104, .slice h (gnegBS (gnegAS u0)).b.abs.length i), (105, .slice C (gcomS (gnegBS (gnegAS u0)).a.abs (gnegBS (gnegAS u0)).b.abs).length D)] ?_; intro nV f2; clear f0
   obtain ⟨kq, f3⟩ := ko
   refine ck f2 128 #[.slice h (gnegBS (gnegAS u0)).b.abs.length i, .slice C (gcomS (gnegBS (gnegAS u0)).a.abs (gnegBS (gnegAS u0)).b.abs).length D] ?_
   refine (gdiv_fun (gnegBS (gnegAS u0)).b.abs (gcomS (gnegBS (gnegAS u0)).a.abs (gnegBS (gnegAS u0)).b.abs) kq h i C D _ _ m J aW.fz).mono ?_; rintro _ kr ⟨aX, aY, nW, nX, bZ, rfl, f4, ks, hm⟩; refine ⟨_, rfl, ?_⟩; intro nY f5; have f6 := aW.callZ hm; have Q := hm.ext.le; clear hm aW f2
   replace hs4 := hs4.mono Q
   replace hs7 := hs7.mono Q
   replace o := o.mono Q
   replace p := p.mono Q
   replace n := n.mono Q
   replace m := m.mono Q
   replace J := J.mono Q
   replace aU := aU.mono Q
   replace bY := bY.mono Q
   replace dd := dd.mono Q
   replace f := Fz.le.trans f Q
   have b0 : Mem B [] w0 Z0 ((.row b1 (e71Nd (gnegBS (gnegAS u0)) j l h i) 71) :: Rr) bZ kr := f6; clear f6
   have f7 := f3 (f4.small); clear f3
   have kt := f7 (ks.small); clear f7
   refine bt f5 b0 5 [] [] [(6, .slice aX (gdivS (gnegBS (gnegAS u0)).b.abs (gcomS (gnegBS (gnegAS u0)).a.abs (gnegBS (gnegAS u0)).b.abs)).1.length aY)] ?_; intro nZ f8; clear f5
   refine nlH (f1 _ _ ?_); clear f1 kp
   refine sqH ?_; intro ku f9
   refine bt f8 b0 5 [] [] [(110, .slice ak (gdivS (gnegBS (gnegAS u0)).a.abs (gcomS (gnegBS (gnegAS u0)).a.abs (gnegBS (gnegAS u0)).b.abs)).1.length al), (113, pt b1 1)] ?_; intro n0 de; clear f8
   refine sx de b0 0 [.bool (gnegBS (gnegAS u0)).a.neg, .slice ak (gdivS (gnegBS (gnegAS u0)).a.abs (gcomS (gnegBS (gnegAS u0)).a.abs (gnegBS (gnegAS u0)).b.abs)).1.length al, .bool (gnegBS (gnegAS u0)).b.neg, .slice h (gnegBS (gnegAS u0)).b.abs.length i] 1 ?_; intro kv ga; clear b0
   have df : Mem B [] w0 Z0 ((.row b1 [.bool (gnegBS (gnegAS u0)).a.neg, .slice ak (gdivS (gnegBS (gnegAS u0)).a.abs (gcomS (gnegBS (gnegAS u0)).a.abs (gnegBS (gnegAS u0)).b.abs)).1.length al, .bool (gnegBS (gnegAS u0)).b.neg, .slice h (gnegBS (gnegAS u0)).b.abs.length i] 71) :: Rr) bZ kv := ga; clear ga
   refine nlH (f9 _ _ ?_); clear f9 ku
   refine sqH ?_; intro kw gb
   refine bt de df 5 [] [] [(115, .slice aX (gdivS (gnegBS (gnegAS u0)).b.abs (gcomS (gnegBS (gnegAS u0)).a.abs (gnegBS (gnegAS u0)).b.abs)).1.length aY), (118, pt b1 3)] ?_; intro n1 dg; clear de
   refine sx dg df 0 [.bool (gnegBS (gnegAS u0)).a.neg, .slice ak (gdivS (gnegBS (gnegAS u0)).a.abs (gcomS (gnegBS (gnegAS u0)).a.abs (gnegBS (gnegAS u0)).b.abs)).1.length al, .bool (gnegBS (gnegAS u0)).b.neg, .slice aX (gdivS (gnegBS (gnegAS u0)).b.abs (gcomS (gnegBS (gnegAS u0)).a.abs (gnegBS (gnegAS u0)).b.abs)).1.length aY] 3 ?_; intro kx gc; clear df
   have gd : Mem B [] w0 Z0 ((.row b1 [.bool (gnegBS (gnegAS u0)).a.neg, .slice ak (gdivS (gnegBS (gnegAS u0)).a.abs (gcomS (gnegBS (gnegAS u0)).a.abs (gnegBS (gnegAS u0)).b.abs)).1.length al, .bool (gnegBS (gnegAS u0)).b.neg, .slice aX (gdivS (gnegBS (gnegAS u0)).b.abs (gcomS (gnegBS (gnegAS u0)).a.abs (gnegBS (gnegAS u0)).b.abs)).1.length aY] 71) :: Rr) bZ kx := gc; clear gc
   refine nlH (gb _ _ ?_); clear gb kw
   refine sqB dg gd [] [] [(2, pt b1 0)] ?_; intro n2 ky; clear dg
   refine wp_ret ?_
   refine ra1 ky (pt b1 0) ?_
   exact ⟨(⟨(⟨(gnegBS (gnegAS u0)).a.neg, (gdivS (gnegBS (gnegAS u0)).a.abs (gcomS (gnegBS (gnegAS u0)).a.abs (gnegBS (gnegAS u0)).b.abs)).1⟩ : BInt), (⟨(gnegBS (gnegAS u0)).b.neg, (gdivS (gnegBS (gnegAS u0)).b.abs (gcomS (gnegBS (gnegAS u0)).a.abs (gnegBS (gnegAS u0)).b.abs)).1⟩ : BInt)⟩ : BRat), ak, al, aX, aY, bZ, rfl, kt, f, bY, f4, gd.keep (List.Sublist.cons_cons _ (List.Sublist.refl _))⟩
  have kz := bS.2 aS; clear bS
  have ge := bU.reval (d := 82) (c := []) (v := .bool (((gcomS (gnegBS (gnegAS u0)).a.abs (gnegBS (gnegAS u0)).b.abs).length : Int) == 1)) (by kernel_rfl) (.bool false) (by rw [aS]); clear bU
  refine bt ge u 5 [] [83, 84, 85, 86, 87] [(87, .bool false)] ?_; intro n3 dh; clear ge
  refine nlH (bT _ _ ?_); clear bT fR
  refine cdF dh (by kernel_rfl) ?_
  refine wp_skip ?_
  refine thn ?_
  refine sqH ?_; intro kA gf
  refine bt dh u 6 [0] [] [(94, .slice j (gnegBS (gnegAS u0)).a.abs.length l), (95, .slice C (gcomS (gnegBS (gnegAS u0)).a.abs (gnegBS (gnegAS u0)).b.abs).length D)] ?_; intro n4 gg; clear dh
  obtain ⟨kB, gh⟩ := kz
  refine ck gg 128 #[.slice j (gnegBS (gnegAS u0)).a.abs.length l, .slice C (gcomS (gnegBS (gnegAS u0)).a.abs (gnegBS (gnegAS u0)).b.abs).length D] ?_
  refine (gdiv_fun (gnegBS (gnegAS u0)).a.abs (gcomS (gnegBS (gnegAS u0)).a.abs (gnegBS (gnegAS u0)).b.abs) kB j l C D _ _ n J u.fz).mono ?_; rintro _ kC ⟨am, an, n5, n6, kD, rfl, b2, di, hm⟩; refine ⟨_, rfl, ?_⟩; intro n7 gi; have gj := u.callZ hm; have ad := hm.ext.le; clear hm u gg
  replace hs4 := hs4.mono ad
  replace hs7 := hs7.mono ad
  replace o := o.mono ad
  replace p := p.mono ad
  replace n := n.mono ad
  replace m := m.mono ad
  replace J := J.mono ad
  replace f := Fz.le.trans f ad
  have aZ : Mem B [] w0 Z0 ((.row b1 (e71Nd (gnegBS (gnegAS u0)) j l h i) 71) :: Rr) kD kC := gj; clear gj
  have gk := gh (b2.small); clear gh
  have kE := gk (di.small); clear gk
  refine bt gi aZ 5 [] [] [(4, .slice am (gdivS (gnegBS (gnegAS u0)).a.abs (gcomS (gnegBS (gnegAS u0)).a.abs (gnegBS (gnegAS u0)).b.abs)).1.length an)] ?_; intro n8 gl; clear gi
  refine nlH (gf _ _ ?_); clear gf kA
  refine sqH ?_; intro kF gm
  refine bt gl aZ 6 [0] [] [(104, .slice h (gnegBS (gnegAS u0)).b.abs.length i), (105, .slice C (gcomS (gnegBS (gnegAS u0)).a.abs (gnegBS (gnegAS u0)).b.abs).length D)] ?_; intro n9 gn; clear gl
  obtain ⟨kG, go⟩ := kE
  refine ck gn 128 #[.slice h (gnegBS (gnegAS u0)).b.abs.length i, .slice C (gcomS (gnegBS (gnegAS u0)).a.abs (gnegBS (gnegAS u0)).b.abs).length D] ?_
  refine (gdiv_fun (gnegBS (gnegAS u0)).b.abs (gcomS (gnegBS (gnegAS u0)).a.abs (gnegBS (gnegAS u0)).b.abs) kG h i C D _ _ m J aZ.fz).mono ?_; rintro _ kH ⟨a1, a2, oa, ob, b3, rfl, gp, kI, hm⟩; refine ⟨_, rfl, ?_⟩; intro oc gq; have gr := aZ.callZ hm; have U := hm.ext.le; clear hm aZ gn
  replace hs4 := hs4.mono U
  replace hs7 := hs7.mono U
  replace o := o.mono U
  replace p := p.mono U
  replace n := n.mono U
  replace m := m.mono U
  replace J := J.mono U
  replace b2 := b2.mono U
  replace di := di.mono U
  replace f := Fz.le.trans f U
  have b4 : Mem B [] w0 Z0 ((.row b1 (e71Nd (gnegBS (gnegAS u0)) j l h i) 71) :: Rr) b3 kH := gr; clear gr
  have gs := go (gp.small); clear go
  have kJ := gs (kI.small); clear gs
  refine bt gq b4 5 [] [] [(6, .slice a1 (gdivS (gnegBS (gnegAS u0)).b.abs (gcomS (gnegBS (gnegAS u0)).a.abs (gnegBS (gnegAS u0)).b.abs)).1.length a2)] ?_; intro od gt; clear gq
  refine nlH (gm _ _ ?_); clear gm kF
  refine sqH ?_; intro kK gu
  refine bt gt b4 5 [] [] [(110, .slice am (gdivS (gnegBS (gnegAS u0)).a.abs (gcomS (gnegBS (gnegAS u0)).a.abs (gnegBS (gnegAS u0)).b.abs)).1.length an), (113, pt b1 1)] ?_; intro oe dj; clear gt
  refine sx dj b4 0 [.bool (gnegBS (gnegAS u0)).a.neg, .slice am (gdivS (gnegBS (gnegAS u0)).a.abs (gcomS (gnegBS (gnegAS u0)).a.abs (gnegBS (gnegAS u0)).b.abs)).1.length an, .bool (gnegBS (gnegAS u0)).b.neg, .slice h (gnegBS (gnegAS u0)).b.abs.length i] 1 ?_; intro kL gv; clear b4
  have dk : Mem B [] w0 Z0 ((.row b1 [.bool (gnegBS (gnegAS u0)).a.neg, .slice am (gdivS (gnegBS (gnegAS u0)).a.abs (gcomS (gnegBS (gnegAS u0)).a.abs (gnegBS (gnegAS u0)).b.abs)).1.length an, .bool (gnegBS (gnegAS u0)).b.neg, .slice h (gnegBS (gnegAS u0)).b.abs.length i] 71) :: Rr) b3 kL := gv; clear gv
  refine nlH (gu _ _ ?_); clear gu kK
  refine sqH ?_; intro kM gw
  refine bt dj dk 5 [] [] [(115, .slice a1 (gdivS (gnegBS (gnegAS u0)).b.abs (gcomS (gnegBS (gnegAS u0)).a.abs (gnegBS (gnegAS u0)).b.abs)).1.length a2), (118, pt b1 3)] ?_; intro og dl; clear dj
  refine sx dl dk 0 [.bool (gnegBS (gnegAS u0)).a.neg, .slice am (gdivS (gnegBS (gnegAS u0)).a.abs (gcomS (gnegBS (gnegAS u0)).a.abs (gnegBS (gnegAS u0)).b.abs)).1.length an, .bool (gnegBS (gnegAS u0)).b.neg, .slice a1 (gdivS (gnegBS (gnegAS u0)).b.abs (gcomS (gnegBS (gnegAS u0)).a.abs (gnegBS (gnegAS u0)).b.abs)).1.length a2] 3 ?_; intro kN gx; clear dk
  have gy : Mem B [] w0 Z0 ((.row b1 [.bool (gnegBS (gnegAS u0)).a.neg, .slice am (gdivS (gnegBS (gnegAS u0)).a.abs (gcomS (gnegBS (gnegAS u0)).a.abs (gnegBS (gnegAS u0)).b.abs)).1.length an, .bool (gnegBS (gnegAS u0)).b.neg, .slice a1 (gdivS (gnegBS (gnegAS u0)).b.abs (gcomS (gnegBS (gnegAS u0)).a.abs (gnegBS (gnegAS u0)).b.abs)).1.length a2] 71) :: Rr) b3 kN := gx; clear gx
  refine nlH (gw _ _ ?_); clear gw kM
  refine sqB dl gy [] [] [(2, pt b1 0)] ?_; intro oh kO; clear dl
  refine wp_ret ?_
  refine ra1 kO (pt b1 0) ?_
  exact ⟨(⟨(⟨(gnegBS (gnegAS u0)).a.neg, (gdivS (gnegBS (gnegAS u0)).a.abs (gcomS (gnegBS (gnegAS u0)).a.abs (gnegBS (gnegAS u0)).b.abs)).1⟩ : BInt), (⟨(gnegBS (gnegAS u0)).b.neg, (gdivS (gnegBS (gnegAS u0)).b.abs (gcomS (gnegBS (gnegAS u0)).a.abs (gnegBS (gnegAS u0)).b.abs)).1⟩ : BInt)⟩ : BRat), am, an, a1, a2, b3, rfl, kJ, f, b2, gp, gy.keep (List.Sublist.cons_cons _ (List.Sublist.refl _))⟩
 have b5 := bv.2 cH; clear bv
 refine wp_skip ?_
 refine thn ?_
 refine wp_seq ?_
 refine sqB aD hM0 [0] [] [(44, .bool ((u0.a.abs.length : Int) == 0))] ?_; intro oi a3; clear aD
 refine cd a3 (t := (u0.a.abs.length : Int) == 0) (by kernel_rfl) (fun dm => ?_) (fun dm => ?_)
 ·
  have kP := b5.1 dm; clear b5
  refine sqH ?_; intro kQ gz
  refine bt a3 hM0 3 [] [] [(47, pt b1 2)] ?_; intro oj gA; clear a3
  refine ck gA 82 #[pt b1 2, i6 1] ?_
  refine enter0 Tryd.func82 rfl rfl (by kernel_rfl) ?_; intro kR gB
  have gC : Fr 18 [] [⟨0, [], pt b1 2⟩, ⟨1, [], i6 1⟩] kR := gB.reg; clear gB
  refine sqB gC hM0 [] [] [] ?_; intro ok gD; clear gC
  refine sqB gD hM0 [] [] [(5, y6 1)] ?_; intro ol gE; clear gD
  refine wp_seq ?_
  refine sqB gE hM0 [] [] [(9, .bool false)] ?_; intro om dn; clear gE
  refine cdF dn (by kernel_rfl) ?_
  refine wp_skip ?_
  refine thn ?_
  refine sqH ?_; intro kS gF
  refine bt dn hM0 4 [] [] [(12, pt b1 2), (14, .bool false), (15, y6 1)] ?_; intro oo gG; clear dn
  obtain ⟨kT, gH⟩ := kP
  refine ck gG 110 #[y6 1] ?_
  refine (gwords_fun 1 kT _ _ hM0.fz).mono ?_; rintro _ kU ⟨gI, gJ, kV, rfl, b6, hm⟩; refine ⟨_, rfl, ?_⟩; intro op gK; have gL := hM0.callZ hm; have dp := hm.ext.le; clear hm hM0 gG
  replace hs4 := hs4.mono dp
  replace hs7 := hs7.mono dp
  replace f := Fz.le.trans f dp
  have dq : Mem B [] w0 Z0 ((.row b1 (e71Nd u0 ao2 cap3 ao5 cap6) 71) :: Rr) kV kU := gL; clear gL
  have gM := gH (b6.small); clear gH
  refine ck gK 83 #[pt b1 2, .bool false, .slice gI (gwordsS 1).length gJ] ?_
  obtain ⟨aa, kW, gN⟩ := hxq gM; clear gM
  have h9 := ggiveB_fun u0 false (gwordsS 1) b1 ao2 cap3 ao5 cap6 gI gJ _ _ _ _ _ _ hs4 hs7 b6 dq dq.fz; rw [kW] at h9; refine h9.mono ?_; clear h9; rintro _ gO ⟨dr, ds, dt, du, dv, rfl, b7, gP, gQ, hm⟩; refine ⟨_, rfl, ?_⟩; intro oq gR; have gS := hm; clear hm dq gK
  replace hs4 := hs4.mono b7
  replace hs7 := hs7.mono b7
  replace b6 := b6.mono b7
  replace f := Fz.le.trans f b7
  have gT : Mem B [] w0 Z0 ((.row b1 (e71Nd aa dr ds dt du) 71) :: Rr) dv gO := gS; clear gS
  have gU := gN (gP.small); clear gN
  have kX := gU (gQ.small); clear gU
  refine s1 gR 4 (pt b1 2) ?_; intro or gV; clear gR
  refine nlH (gF _ _ ?_); clear gF kS
  refine wp_ret ?_
  refine ra1 gV (pt b1 2) ?_
  refine ⟨_, rfl, ?_⟩; intro os gW; clear gA gV
  have gX : Mem B [] w0 Z0 ((.row b1 (e71Nd aa dr ds dt du) 71) :: Rr) dv gO := gT; clear gT
  refine nlH (gz _ _ ?_); clear gz kQ
  refine sqB gW gX [] [] [(2, pt b1 0)] ?_; intro ot kY; clear gW
  refine wp_ret ?_
  refine thr ?_
  refine ra1 kY (pt b1 0) ?_
  exact ⟨aa, dr, ds, dt, du, dv, rfl, kX, f, gP, gQ, gX.keep (List.Sublist.cons_cons _ (List.Sublist.refl _))⟩
 have b8 := b5.2 dm; clear b5
 refine wp_skip ?_
 refine thn ?_
 refine wp_seq ?_
 refine sqH ?_; intro gY b9
 refine bt a3 hM0 8 [0] [] [(57, .bool ((u0.b.abs.length : Int) == 1))] ?_; intro ou ca; clear a3
 rcases Bool.eq_false_or_eq_true ((u0.b.abs.length : Int) == 1) with a4 | a4
 ·
  have kZ := b8.1 a4; clear b8
  have gZ := ca.reval (d := 57) (c := []) (v := .bool ((u0.b.abs.length : Int) == 1)) (by kernel_rfl) (.bool true) (by rw [a4]); clear ca
  refine bt gZ hM0 5 [0] [58, 59, 60, 61, 62] [(62, .slice ao5 u0.b.abs.length cap6)] ?_; intro ov dw; clear gZ
  obtain ⟨k0, g0⟩ := kZ
  refine ix dw (T := (tyInt .u32)) (xs := u0.b.abs) hs7 (0 : Int) k0 (k := .i64) (e := 109) (bytes := 4) (by rw [wanted_of dw (b := true) rfl rfl (by kernel_rfl) (by kernel_rfl)]; rfl) rfl (by kernel_rfl) rfl (by kernel_rfl) (by kernel_rfl) (by kernel_rfl) ?_; intro ow ox k1 a5 oy k2 R k3 cb; clear dw
  have cc := g0 a5 k2; clear g0
  obtain rfl : k1 = ([.int .u32 a5] : List Value) := k3
  refine st cb (.int .u32 a5) (by rw [wanted_of cb (b := true) rfl rfl (by kernel_rfl) (by kernel_rfl)]; rfl) rfl (by kernel_rfl) (lz cb hM0.fz R 0 (g := []) rfl (by kernel_rfl) (by kernel_rfl) (by kernel_rfl) rfl) ?_; intro oz g1; clear cb
  refine bt g1 hM0 2 [] [65, 66] [(66, .bool (a5 == 1))] ?_; intro k4 a6; clear g1
  refine nlH (b9 _ _ ?_); clear b9 gY
  refine cd a6 (t := a5 == 1) (by kernel_rfl) (fun dx => ?_) (fun dx => ?_)
  ·
   have k5 := cc.1 dx; clear cc
   refine sqB a6 hM0 [] [] [(2, pt b1 0)] ?_; intro oA k6; clear a6
   refine wp_ret ?_
   refine thr ?_
   refine ra1 k6 (pt b1 0) ?_
   exact ⟨u0, ao2, cap3, ao5, cap6, Z, rfl, k5, f, hs4, hs7, hM0.keep (List.Sublist.cons_cons _ (List.Sublist.refl _))⟩
  have k7 := cc.2 dx; clear cc
  refine wp_skip ?_
  refine thn ?_
  have g2 : Fr 120 [] [⟨0, [], pt b1 0⟩] k4 := a6.reg; clear a6
  refine wp_seq (rgS mixed hM0 [(0, true), (1, true), (2, true), (3, true), (4, true), (5, true), (6, true), (7, true), (8, true), (9, true), (10, false), (11, true)] [] [0] [.row b1 (e71Nd u0 ao2 cap3 ao5 cap6) 71] ?_)
  intro k8 g3 oB dy; clear hM0
  have dz := Fz.le.refl Z
  refine cS g2 10 [0, 0] [] [(72, .slice ao2 u0.a.abs.length cap3), (77, .slice ao5 u0.b.abs.length cap6)] ?_; intro oC g4; clear g2
  refine eS rfl ?_; intro k9 g5
  obtain ⟨la, ce⟩ := k7
  refine ck g4 127 #[.slice ao2 u0.a.abs.length cap3, .slice ao5 u0.b.abs.length cap6] ?_
  refine (gcom_fun u0.a.abs u0.b.abs la ao2 cap3 ao5 cap6 _ _ hs4 hs7 dy.fz).mono ?_; rintro _ lb ⟨E, F, g6, rfl, L, hm⟩; refine ⟨_, rfl, ?_⟩; intro oD g7; have g8 := dy.callZ hm; have a7 := hm.ext.le; clear hm dy g4
  replace hs4 := hs4.mono a7
  replace hs7 := hs7.mono a7
  replace R := R.mono a7
  replace dz := dz.mono a7
  replace f := Fz.le.trans f a7
  have x : Mem B [] w0 Z0 ((.row b1 (e71Nd u0 ao2 cap3 ao5 cap6) 71) :: Rr) g6 lb := g8; clear g8
  refine nl (qnI (g5 _ _ (x.cst dz [0]) ?_)); clear g5 k9
  refine cS g7 1 [] [] [(3, .slice E (gcomS u0.a.abs u0.b.abs).length F)] ?_; intro oE g9; clear g7
  refine nS (g3 _ _ ?_); clear g3 k8
  refine thn ?_
  refine wp_seq ?_
  refine sqH ?_; intro ha cf
  refine bt g9 x 4 [] [] [(82, .bool (((gcomS u0.a.abs u0.b.abs).length : Int) == 1))] ?_; intro oF cg; clear g9
  rcases Bool.eq_false_or_eq_true (((gcomS u0.a.abs u0.b.abs).length : Int) == 1) with a8 | a8
  ·
   have lc := ce.1 a8; clear ce
   have ch := cg.reval (d := 82) (c := []) (v := .bool (((gcomS u0.a.abs u0.b.abs).length : Int) == 1)) (by kernel_rfl) (.bool true) (by rw [a8]); clear cg
   refine st ch (.slice E (gcomS u0.a.abs u0.b.abs).length F) (by rw [wanted_of ch (b := true) rfl rfl (by kernel_rfl) (by kernel_rfl)]; rfl) rfl (by kernel_rfl) (p0 ch (by kernel_rfl)) ?_; intro oG dA; clear ch
   obtain ⟨ld, hb⟩ := lc
   refine ix dA (T := (tyInt .u32)) (xs := (gcomS u0.a.abs u0.b.abs)) L (0 : Int) ld (k := .i64) (e := 109) (bytes := 4) (by rw [wanted_of dA (b := true) rfl rfl (by kernel_rfl) (by kernel_rfl)]; rfl) rfl (by kernel_rfl) rfl (by kernel_rfl) (by kernel_rfl) (by kernel_rfl) ?_; intro oH oI lf a9 oJ lg ba lh ci; clear dA
   have cj := hb a9 lg; clear hb
   obtain rfl : lf = ([.int .u32 a9] : List Value) := lh
   refine st ci (.int .u32 a9) (by rw [wanted_of ci (b := true) rfl rfl (by kernel_rfl) (by kernel_rfl)]; rfl) rfl (by kernel_rfl) (lz ci x.fz ba 0 (g := []) rfl (by kernel_rfl) (by kernel_rfl) (by kernel_rfl) rfl) ?_; intro oK hc; clear ci
   refine bt hc x 2 [] [86, 87] [(87, .bool (a9 == 1))] ?_; intro oL bb; clear hc
   refine nlH (cf _ _ ?_); clear cf ha
   refine cd bb (t := a9 == 1) (by kernel_rfl) (fun dB => ?_) (fun dB => ?_)
   ·
    have li := cj.1 dB; clear cj
    refine sqB bb x [] [] [(2, pt b1 0)] ?_; intro oM lj; clear bb
    refine wp_ret ?_
    refine thr ?_
    refine ra1 lj (pt b1 0) ?_
    exact ⟨u0, ao2, cap3, ao5, cap6, g6, rfl, li, f, hs4, hs7, x.keep (List.Sublist.cons_cons _ (List.Sublist.refl _))⟩
   have lk := cj.2 dB; clear cj
   refine wp_skip ?_
   refine thn ?_
   refine sqH ?_; intro ll hd
   refine bt bb x 6 [0] [] [(94, .slice ao2 u0.a.abs.length cap3), (95, .slice E (gcomS u0.a.abs u0.b.abs).length F)] ?_; intro oN he; clear bb
   obtain ⟨lm, hf⟩ := lk
   refine ck he 128 #[.slice ao2 u0.a.abs.length cap3, .slice E (gcomS u0.a.abs u0.b.abs).length F] ?_
   refine (gdiv_fun u0.a.abs (gcomS u0.a.abs u0.b.abs) lm ao2 cap3 E F _ _ hs4 L x.fz).mono ?_; rintro _ ln ⟨ao, ap, oO, oP, lo, rfl, cl, dC, hm⟩; refine ⟨_, rfl, ?_⟩; intro oQ hg; have hh := x.callZ hm; have aB := hm.ext.le; clear hm x he
   replace hs4 := hs4.mono aB
   replace hs7 := hs7.mono aB
   replace R := R.mono aB
   replace L := L.mono aB
   replace ba := ba.mono aB
   replace f := Fz.le.trans f aB
   have bc : Mem B [] w0 Z0 ((.row b1 (e71Nd u0 ao2 cap3 ao5 cap6) 71) :: Rr) lo ln := hh; clear hh
   have hi := hf (cl.small); clear hf
   have lp := hi (dC.small); clear hi
   refine bt hg bc 5 [] [] [(4, .slice ao (gdivS u0.a.abs (gcomS u0.a.abs u0.b.abs)).1.length ap)] ?_; intro oR hj; clear hg
   refine nlH (hd _ _ ?_); clear hd ll
   refine sqH ?_; intro lq hk
   refine bt hj bc 6 [0] [] [(104, .slice ao5 u0.b.abs.length cap6), (105, .slice E (gcomS u0.a.abs u0.b.abs).length F)] ?_; intro oS hl; clear hj
   obtain ⟨lr, hn⟩ := lp
   refine ck hl 128 #[.slice ao5 u0.b.abs.length cap6, .slice E (gcomS u0.a.abs u0.b.abs).length F] ?_
   refine (gdiv_fun u0.b.abs (gcomS u0.a.abs u0.b.abs) lr ao5 cap6 E F _ _ hs7 L bc.fz).mono ?_; rintro _ ls ⟨bd, be, oT, oU, cm, rfl, ho, lt, hm⟩; refine ⟨_, rfl, ?_⟩; intro oV hq; have hr := bc.callZ hm; have ae := hm.ext.le; clear hm bc hl
   replace hs4 := hs4.mono ae
   replace hs7 := hs7.mono ae
   replace R := R.mono ae
   replace L := L.mono ae
   replace ba := ba.mono ae
   replace cl := cl.mono ae
   replace dC := dC.mono ae
   replace f := Fz.le.trans f ae
   have co : Mem B [] w0 Z0 ((.row b1 (e71Nd u0 ao2 cap3 ao5 cap6) 71) :: Rr) cm ls := hr; clear hr
   have hs := hn (ho.small); clear hn
   have lu := hs (lt.small); clear hs
   refine bt hq co 5 [] [] [(6, .slice bd (gdivS u0.b.abs (gcomS u0.a.abs u0.b.abs)).1.length be)] ?_; intro oW ht; clear hq
   refine nlH (hk _ _ ?_); clear hk lq
   refine sqH ?_; intro lv hu
   refine bt ht co 5 [] [] [(110, .slice ao (gdivS u0.a.abs (gcomS u0.a.abs u0.b.abs)).1.length ap), (113, pt b1 1)] ?_; intro oX dD; clear ht
   refine sx dD co 0 [.bool u0.a.neg, .slice ao (gdivS u0.a.abs (gcomS u0.a.abs u0.b.abs)).1.length ap, .bool u0.b.neg, .slice ao5 u0.b.abs.length cap6] 1 ?_; intro lw hv; clear co
   have dE : Mem B [] w0 Z0 ((.row b1 [.bool u0.a.neg, .slice ao (gdivS u0.a.abs (gcomS u0.a.abs u0.b.abs)).1.length ap, .bool u0.b.neg, .slice ao5 u0.b.abs.length cap6] 71) :: Rr) cm lw := hv; clear hv
   refine nlH (hu _ _ ?_); clear hu lv
   refine sqH ?_; intro lx hw
   refine bt dD dE 5 [] [] [(115, .slice bd (gdivS u0.b.abs (gcomS u0.a.abs u0.b.abs)).1.length be), (118, pt b1 3)] ?_; intro oY dF; clear dD
   refine sx dF dE 0 [.bool u0.a.neg, .slice ao (gdivS u0.a.abs (gcomS u0.a.abs u0.b.abs)).1.length ap, .bool u0.b.neg, .slice bd (gdivS u0.b.abs (gcomS u0.a.abs u0.b.abs)).1.length be] 3 ?_; intro ly hx; clear dE
   have hy : Mem B [] w0 Z0 ((.row b1 [.bool u0.a.neg, .slice ao (gdivS u0.a.abs (gcomS u0.a.abs u0.b.abs)).1.length ap, .bool u0.b.neg, .slice bd (gdivS u0.b.abs (gcomS u0.a.abs u0.b.abs)).1.length be] 71) :: Rr) cm ly := hx; clear hx
   refine nlH (hw _ _ ?_); clear hw lx
   refine sqB dF hy [] [] [(2, pt b1 0)] ?_; intro oZ lA; clear dF
   refine wp_ret ?_
   refine ra1 lA (pt b1 0) ?_
   exact ⟨(⟨(⟨u0.a.neg, (gdivS u0.a.abs (gcomS u0.a.abs u0.b.abs)).1⟩ : BInt), (⟨u0.b.neg, (gdivS u0.b.abs (gcomS u0.a.abs u0.b.abs)).1⟩ : BInt)⟩ : BRat), ao, ap, bd, be, cm, rfl, lu, f, cl, ho, hy.keep (List.Sublist.cons_cons _ (List.Sublist.refl _))⟩
  have lB := ce.2 a8; clear ce
  have hz := cg.reval (d := 82) (c := []) (v := .bool (((gcomS u0.a.abs u0.b.abs).length : Int) == 1)) (by kernel_rfl) (.bool false) (by rw [a8]); clear cg
  refine bt hz x 5 [] [83, 84, 85, 86, 87] [(87, .bool false)] ?_; intro o0 dG; clear hz
  refine nlH (cf _ _ ?_); clear cf ha
  refine cdF dG (by kernel_rfl) ?_
  refine wp_skip ?_
  refine thn ?_
  refine sqH ?_; intro lC hA
  refine bt dG x 6 [0] [] [(94, .slice ao2 u0.a.abs.length cap3), (95, .slice E (gcomS u0.a.abs u0.b.abs).length F)] ?_; intro o1 hB; clear dG
  obtain ⟨lD, hC⟩ := lB
  refine ck hB 128 #[.slice ao2 u0.a.abs.length cap3, .slice E (gcomS u0.a.abs u0.b.abs).length F] ?_
  refine (gdiv_fun u0.a.abs (gcomS u0.a.abs u0.b.abs) lD ao2 cap3 E F _ _ hs4 L x.fz).mono ?_; rintro _ lE ⟨aq, ar, o2, o3, lF, rfl, cp, dH, hm⟩; refine ⟨_, rfl, ?_⟩; intro o4 hD; have hE := x.callZ hm; have bf := hm.ext.le; clear hm x hB
  replace hs4 := hs4.mono bf
  replace hs7 := hs7.mono bf
  replace R := R.mono bf
  replace L := L.mono bf
  replace f := Fz.le.trans f bf
  have bg : Mem B [] w0 Z0 ((.row b1 (e71Nd u0 ao2 cap3 ao5 cap6) 71) :: Rr) lF lE := hE; clear hE
  have hF := hC (cp.small); clear hC
  have lG := hF (dH.small); clear hF
  refine bt hD bg 5 [] [] [(4, .slice aq (gdivS u0.a.abs (gcomS u0.a.abs u0.b.abs)).1.length ar)] ?_; intro o5 hG; clear hD
  refine nlH (hA _ _ ?_); clear hA lC
  refine sqH ?_; intro lH hH
  refine bt hG bg 6 [0] [] [(104, .slice ao5 u0.b.abs.length cap6), (105, .slice E (gcomS u0.a.abs u0.b.abs).length F)] ?_; intro o6 hI; clear hG
  obtain ⟨lI, hJ⟩ := lG
  refine ck hI 128 #[.slice ao5 u0.b.abs.length cap6, .slice E (gcomS u0.a.abs u0.b.abs).length F] ?_
  refine (gdiv_fun u0.b.abs (gcomS u0.a.abs u0.b.abs) lI ao5 cap6 E F _ _ hs7 L bg.fz).mono ?_; rintro _ lJ ⟨bh, bi, o7, o8, cq, rfl, hK, lK, hm⟩; refine ⟨_, rfl, ?_⟩; intro o9 hL; have hM := bg.callZ hm; have au := hm.ext.le; clear hm bg hI
  replace hs4 := hs4.mono au
  replace hs7 := hs7.mono au
  replace R := R.mono au
  replace L := L.mono au
  replace cp := cp.mono au
  replace dH := dH.mono au
  replace f := Fz.le.trans f au
  have cr : Mem B [] w0 Z0 ((.row b1 (e71Nd u0 ao2 cap3 ao5 cap6) 71) :: Rr) cq lJ := hM; clear hM
  have hN := hJ (hK.small); clear hJ
  have lL := hN (lK.small); clear hN
  refine bt hL cr 5 [] [] [(6, .slice bh (gdivS u0.b.abs (gcomS u0.a.abs u0.b.abs)).1.length bi)] ?_; intro pa hO; clear hL
  refine nlH (hH _ _ ?_); clear hH lH
  refine sqH ?_; intro lM hP
  refine bt hO cr 5 [] [] [(110, .slice aq (gdivS u0.a.abs (gcomS u0.a.abs u0.b.abs)).1.length ar), (113, pt b1 1)] ?_; intro pb dI; clear hO
  refine sx dI cr 0 [.bool u0.a.neg, .slice aq (gdivS u0.a.abs (gcomS u0.a.abs u0.b.abs)).1.length ar, .bool u0.b.neg, .slice ao5 u0.b.abs.length cap6] 1 ?_; intro lN hQ; clear cr
  have dJ : Mem B [] w0 Z0 ((.row b1 [.bool u0.a.neg, .slice aq (gdivS u0.a.abs (gcomS u0.a.abs u0.b.abs)).1.length ar, .bool u0.b.neg, .slice ao5 u0.b.abs.length cap6] 71) :: Rr) cq lN := hQ; clear hQ
  refine nlH (hP _ _ ?_); clear hP lM
  refine sqH ?_; intro lO hR
  refine bt dI dJ 5 [] [] [(115, .slice bh (gdivS u0.b.abs (gcomS u0.a.abs u0.b.abs)).1.length bi), (118, pt b1 3)] ?_; intro pc dK; clear dI
  refine sx dK dJ 0 [.bool u0.a.neg, .slice aq (gdivS u0.a.abs (gcomS u0.a.abs u0.b.abs)).1.length ar, .bool u0.b.neg, .slice bh (gdivS u0.b.abs (gcomS u0.a.abs u0.b.abs)).1.length bi] 3 ?_; intro lP hS; clear dJ
  have hT : Mem B [] w0 Z0 ((.row b1 [.bool u0.a.neg, .slice aq (gdivS u0.a.abs (gcomS u0.a.abs u0.b.abs)).1.length ar, .bool u0.b.neg, .slice bh (gdivS u0.b.abs (gcomS u0.a.abs u0.b.abs)).1.length bi] 71) :: Rr) cq lP := hS; clear hS
  refine nlH (hR _ _ ?_); clear hR lO
  refine sqB dK hT [] [] [(2, pt b1 0)] ?_; intro pd lQ; clear dK
  refine wp_ret ?_
  refine ra1 lQ (pt b1 0) ?_
  exact ⟨(⟨(⟨u0.a.neg, (gdivS u0.a.abs (gcomS u0.a.abs u0.b.abs)).1⟩ : BInt), (⟨u0.b.neg, (gdivS u0.b.abs (gcomS u0.a.abs u0.b.abs)).1⟩ : BInt)⟩ : BRat), aq, ar, bh, bi, cq, rfl, lL, f, cp, hK, hT.keep (List.Sublist.cons_cons _ (List.Sublist.refl _))⟩
 have lR := b8.2 a4; clear b8
 have hU := ca.reval (d := 57) (c := []) (v := .bool ((u0.b.abs.length : Int) == 1)) (by kernel_rfl) (.bool false) (by rw [a4]); clear ca
 refine bt hU hM0 9 [] [58, 59, 60, 61, 62, 63, 64, 65, 66] [(66, .bool false)] ?_; intro lS dL; clear hU
 refine nlH (b9 _ _ ?_); clear b9 gY
 refine cdF dL (by kernel_rfl) ?_
 refine wp_skip ?_
 refine thn ?_
 have hV : Fr 120 [] [⟨0, [], pt b1 0⟩] lS := dL.reg; clear dL
 refine wp_seq (rgS mixed hM0 [(0, true), (1, true), (2, true), (3, true), (4, true), (5, true), (6, true), (7, true), (8, true), (9, true), (10, false), (11, true)] [] [0] [.row b1 (e71Nd u0 ao2 cap3 ao5 cap6) 71] ?_)
 intro lT hW pe dM; clear hM0
 have dN := Fz.le.refl Z
 refine cS hV 10 [0, 0] [] [(72, .slice ao2 u0.a.abs.length cap3), (77, .slice ao5 u0.b.abs.length cap6)] ?_; intro pf hX; clear hV
 refine eS rfl ?_; intro lU hY
 obtain ⟨lV, cs⟩ := lR
 refine ck hX 127 #[.slice ao2 u0.a.abs.length cap3, .slice ao5 u0.b.abs.length cap6] ?_
 refine (gcom_fun u0.a.abs u0.b.abs lV ao2 cap3 ao5 cap6 _ _ hs4 hs7 dM.fz).mono ?_; rintro _ lW ⟨G, H, h0, rfl, M, hm⟩; refine ⟨_, rfl, ?_⟩; intro pg h1; have h2 := dM.callZ hm; have ct := hm.ext.le; clear hm dM hX
 replace hs4 := hs4.mono ct
 replace hs7 := hs7.mono ct
 replace dN := dN.mono ct
 replace f := Fz.le.trans f ct
 have y : Mem B [] w0 Z0 ((.row b1 (e71Nd u0 ao2 cap3 ao5 cap6) 71) :: Rr) h0 lW := h2; clear h2
 refine nl (qnI (hY _ _ (y.cst dN [0]) ?_)); clear hY lU
 refine cS h1 1 [] [] [(3, .slice G (gcomS u0.a.abs u0.b.abs).length H)] ?_; intro ph h3; clear h1
 refine nS (hW _ _ ?_); clear hW lT
 refine thn ?_
 refine wp_seq ?_
 refine sqH ?_; intro h4 cu
 refine bt h3 y 4 [] [] [(82, .bool (((gcomS u0.a.abs u0.b.abs).length : Int) == 1))] ?_; intro pi cv; clear h3
 rcases Bool.eq_false_or_eq_true (((gcomS u0.a.abs u0.b.abs).length : Int) == 1) with bj | bj
 ·
  have lX := cs.1 bj; clear cs
  have cw := cv.reval (d := 82) (c := []) (v := .bool (((gcomS u0.a.abs u0.b.abs).length : Int) == 1)) (by kernel_rfl) (.bool true) (by rw [bj]); clear cv
  refine st cw (.slice G (gcomS u0.a.abs u0.b.abs).length H) (by rw [wanted_of cw (b := true) rfl rfl (by kernel_rfl) (by kernel_rfl)]; rfl) rfl (by kernel_rfl) (p0 cw (by kernel_rfl)) ?_; intro pj dO; clear cw
  obtain ⟨lY, h5⟩ := lX
  refine ix dO (T := (tyInt .u32)) (xs := (gcomS u0.a.abs u0.b.abs)) M (0 : Int) lY (k := .i64) (e := 109) (bytes := 4) (by rw [wanted_of dO (b := true) rfl rfl (by kernel_rfl) (by kernel_rfl)]; rfl) rfl (by kernel_rfl) rfl (by kernel_rfl) (by kernel_rfl) (by kernel_rfl) ?_; intro pk pl lZ bk pm l0 bl l1 cx; clear dO
  have cy := h5 bk l0; clear h5
  obtain rfl : lZ = ([.int .u32 bk] : List Value) := l1
  refine st cx (.int .u32 bk) (by rw [wanted_of cx (b := true) rfl rfl (by kernel_rfl) (by kernel_rfl)]; rfl) rfl (by kernel_rfl) (lz cx y.fz bl 0 (g := []) rfl (by kernel_rfl) (by kernel_rfl) (by kernel_rfl) rfl) ?_; intro pn h6; clear cx
  refine bt h6 y 2 [] [86, 87] [(87, .bool (bk == 1))] ?_; intro po bm; clear h6
  refine nlH (cu _ _ ?_); clear cu h4
  refine cd bm (t := bk == 1) (by kernel_rfl) (fun dP => ?_) (fun dP => ?_)
  ·
   have l2 := cy.1 dP; clear cy
   refine sqB bm y [] [] [(2, pt b1 0)] ?_; intro pp l3; clear bm
   refine wp_ret ?_
   refine thr ?_
   refine ra1 l3 (pt b1 0) ?_
   exact ⟨u0, ao2, cap3, ao5, cap6, h0, rfl, l2, f, hs4, hs7, y.keep (List.Sublist.cons_cons _ (List.Sublist.refl _))⟩
  have l4 := cy.2 dP; clear cy
  refine wp_skip ?_
  refine thn ?_
  refine sqH ?_; intro l5 h7
  refine bt bm y 6 [0] [] [(94, .slice ao2 u0.a.abs.length cap3), (95, .slice G (gcomS u0.a.abs u0.b.abs).length H)] ?_; intro pq h8; clear bm
  obtain ⟨l6, ia⟩ := l4
  refine ck h8 128 #[.slice ao2 u0.a.abs.length cap3, .slice G (gcomS u0.a.abs u0.b.abs).length H] ?_
  refine (gdiv_fun u0.a.abs (gcomS u0.a.abs u0.b.abs) l6 ao2 cap3 G H _ _ hs4 M y.fz).mono ?_; rintro _ l7 ⟨av, aw, pr, ps, l8, rfl, cz, dQ, hm⟩; refine ⟨_, rfl, ?_⟩; intro pu ib; have ic := y.callZ hm; have bn := hm.ext.le; clear hm y h8
  replace hs4 := hs4.mono bn
  replace hs7 := hs7.mono bn
  replace M := M.mono bn
  replace bl := bl.mono bn
  replace f := Fz.le.trans f bn
  have bo : Mem B [] w0 Z0 ((.row b1 (e71Nd u0 ao2 cap3 ao5 cap6) 71) :: Rr) l8 l7 := ic; clear ic
  have id := ia (cz.small); clear ia
  have l9 := id (dQ.small); clear id
  refine bt ib bo 5 [] [] [(4, .slice av (gdivS u0.a.abs (gcomS u0.a.abs u0.b.abs)).1.length aw)] ?_; intro pv ie; clear ib
  refine nlH (h7 _ _ ?_); clear h7 l5
  refine sqH ?_; intro ma ig
  refine bt ie bo 6 [0] [] [(104, .slice ao5 u0.b.abs.length cap6), (105, .slice G (gcomS u0.a.abs u0.b.abs).length H)] ?_; intro pw ih; clear ie
  obtain ⟨mb, ii⟩ := l9
  refine ck ih 128 #[.slice ao5 u0.b.abs.length cap6, .slice G (gcomS u0.a.abs u0.b.abs).length H] ?_
  refine (gdiv_fun u0.b.abs (gcomS u0.a.abs u0.b.abs) mb ao5 cap6 G H _ _ hs7 M bo.fz).mono ?_; rintro _ mc ⟨bp, bq, px, py, cA, rfl, ij, md, hm⟩; refine ⟨_, rfl, ?_⟩; intro pz ik; have il := bo.callZ hm; have ax := hm.ext.le; clear hm bo ih
  replace hs4 := hs4.mono ax
  replace hs7 := hs7.mono ax
  replace M := M.mono ax
  replace bl := bl.mono ax
  replace cz := cz.mono ax
  replace dQ := dQ.mono ax
  replace f := Fz.le.trans f ax
  have cB : Mem B [] w0 Z0 ((.row b1 (e71Nd u0 ao2 cap3 ao5 cap6) 71) :: Rr) cA mc := il; clear il
  have im := ii (ij.small); clear ii
  have me := im (md.small); clear im
  refine bt ik cB 5 [] [] [(6, .slice bp (gdivS u0.b.abs (gcomS u0.a.abs u0.b.abs)).1.length bq)] ?_; intro pA io; clear ik
  refine nlH (ig _ _ ?_); clear ig ma
  refine sqH ?_; intro mf ip
  refine bt io cB 5 [] [] [(110, .slice av (gdivS u0.a.abs (gcomS u0.a.abs u0.b.abs)).1.length aw), (113, pt b1 1)] ?_; intro pB dR; clear io
  refine sx dR cB 0 [.bool u0.a.neg, .slice av (gdivS u0.a.abs (gcomS u0.a.abs u0.b.abs)).1.length aw, .bool u0.b.neg, .slice ao5 u0.b.abs.length cap6] 1 ?_; intro mg iq; clear cB
  have dS : Mem B [] w0 Z0 ((.row b1 [.bool u0.a.neg, .slice av (gdivS u0.a.abs (gcomS u0.a.abs u0.b.abs)).1.length aw, .bool u0.b.neg, .slice ao5 u0.b.abs.length cap6] 71) :: Rr) cA mg := iq; clear iq
  refine nlH (ip _ _ ?_); clear ip mf
  refine sqH ?_; intro mh ir
  refine bt dR dS 5 [] [] [(115, .slice bp (gdivS u0.b.abs (gcomS u0.a.abs u0.b.abs)).1.length bq), (118, pt b1 3)] ?_; intro pC dT; clear dR
  refine sx dT dS 0 [.bool u0.a.neg, .slice av (gdivS u0.a.abs (gcomS u0.a.abs u0.b.abs)).1.length aw, .bool u0.b.neg, .slice bp (gdivS u0.b.abs (gcomS u0.a.abs u0.b.abs)).1.length bq] 3 ?_; intro mi it; clear dS
  have iu : Mem B [] w0 Z0 ((.row b1 [.bool u0.a.neg, .slice av (gdivS u0.a.abs (gcomS u0.a.abs u0.b.abs)).1.length aw, .bool u0.b.neg, .slice bp (gdivS u0.b.abs (gcomS u0.a.abs u0.b.abs)).1.length bq] 71) :: Rr) cA mi := it; clear it
  refine nlH (ir _ _ ?_); clear ir mh
  refine sqB dT iu [] [] [(2, pt b1 0)] ?_; intro pD mj; clear dT
  refine wp_ret ?_
  refine ra1 mj (pt b1 0) ?_
  exact ⟨(⟨(⟨u0.a.neg, (gdivS u0.a.abs (gcomS u0.a.abs u0.b.abs)).1⟩ : BInt), (⟨u0.b.neg, (gdivS u0.b.abs (gcomS u0.a.abs u0.b.abs)).1⟩ : BInt)⟩ : BRat), av, aw, bp, bq, cA, rfl, me, f, cz, ij, iu.keep (List.Sublist.cons_cons _ (List.Sublist.refl _))⟩
 have mk := cs.2 bj; clear cs
 have iv := cv.reval (d := 82) (c := []) (v := .bool (((gcomS u0.a.abs u0.b.abs).length : Int) == 1)) (by kernel_rfl) (.bool false) (by rw [bj]); clear cv
 refine bt iv y 5 [] [83, 84, 85, 86, 87] [(87, .bool false)] ?_; intro pE dU; clear iv
 refine nlH (cu _ _ ?_); clear cu h4
 refine cdF dU (by kernel_rfl) ?_
 refine wp_skip ?_
 refine thn ?_
 refine sqH ?_; intro ml iw
 refine bt dU y 6 [0] [] [(94, .slice ao2 u0.a.abs.length cap3), (95, .slice G (gcomS u0.a.abs u0.b.abs).length H)] ?_; intro pF iy; clear dU
 obtain ⟨mm, iz⟩ := mk
 refine ck iy 128 #[.slice ao2 u0.a.abs.length cap3, .slice G (gcomS u0.a.abs u0.b.abs).length H] ?_
 refine (gdiv_fun u0.a.abs (gcomS u0.a.abs u0.b.abs) mm ao2 cap3 G H _ _ hs4 M y.fz).mono ?_; rintro _ mn ⟨ay, az, pG, pH, mo, rfl, cC, dV, hm⟩; refine ⟨_, rfl, ?_⟩; intro pI iA; have iB := y.callZ hm; have cD := hm.ext.le; clear hm y iy
 replace hs4 := hs4.mono cD
 replace hs7 := hs7.mono cD
 replace M := M.mono cD
 replace f := Fz.le.trans f cD
 have br : Mem B [] w0 Z0 ((.row b1 (e71Nd u0 ao2 cap3 ao5 cap6) 71) :: Rr) mo mn := iB; clear iB
 have iC := iz (cC.small); clear iz
 have mp := iC (dV.small); clear iC
 refine bt iA br 5 [] [] [(4, .slice ay (gdivS u0.a.abs (gcomS u0.a.abs u0.b.abs)).1.length az)] ?_; intro pJ iD; clear iA
 refine nlH (iw _ _ ?_); clear iw ml
 refine sqH ?_; intro mq iE
 refine bt iD br 6 [0] [] [(104, .slice ao5 u0.b.abs.length cap6), (105, .slice G (gcomS u0.a.abs u0.b.abs).length H)] ?_; intro pK iF; clear iD
 obtain ⟨mr, iG⟩ := mp
 refine ck iF 128 #[.slice ao5 u0.b.abs.length cap6, .slice G (gcomS u0.a.abs u0.b.abs).length H] ?_
 refine (gdiv_fun u0.b.abs (gcomS u0.a.abs u0.b.abs) mr ao5 cap6 G H _ _ hs7 M br.fz).mono ?_; rintro _ ms ⟨bs, bu, pL, pM, cE, rfl, iH, mt, hm⟩; refine ⟨_, rfl, ?_⟩; intro pN iI; have iJ := br.callZ hm; have aC := hm.ext.le; clear hm br iF
 replace hs4 := hs4.mono aC
 replace hs7 := hs7.mono aC
 replace M := M.mono aC
 replace cC := cC.mono aC
 replace dV := dV.mono aC
 replace f := Fz.le.trans f aC
 have cF : Mem B [] w0 Z0 ((.row b1 (e71Nd u0 ao2 cap3 ao5 cap6) 71) :: Rr) cE ms := iJ; clear iJ
 have iK := iG (iH.small); clear iG
 have mu := iK (mt.small); clear iK
 refine bt iI cF 5 [] [] [(6, .slice bs (gdivS u0.b.abs (gcomS u0.a.abs u0.b.abs)).1.length bu)] ?_; intro pO iL; clear iI
 refine nlH (iE _ _ ?_); clear iE mq
 refine sqH ?_; intro mv iM
 refine bt iL cF 5 [] [] [(110, .slice ay (gdivS u0.a.abs (gcomS u0.a.abs u0.b.abs)).1.length az), (113, pt b1 1)] ?_; intro pP dW; clear iL
 refine sx dW cF 0 [.bool u0.a.neg, .slice ay (gdivS u0.a.abs (gcomS u0.a.abs u0.b.abs)).1.length az, .bool u0.b.neg, .slice ao5 u0.b.abs.length cap6] 1 ?_; intro mw iN; clear cF
 have dX : Mem B [] w0 Z0 ((.row b1 [.bool u0.a.neg, .slice ay (gdivS u0.a.abs (gcomS u0.a.abs u0.b.abs)).1.length az, .bool u0.b.neg, .slice ao5 u0.b.abs.length cap6] 71) :: Rr) cE mw := iN; clear iN
 refine nlH (iM _ _ ?_); clear iM mv
 refine sqH ?_; intro mx iO
 refine bt dW dX 5 [] [] [(115, .slice bs (gdivS u0.b.abs (gcomS u0.a.abs u0.b.abs)).1.length bu), (118, pt b1 3)] ?_; intro pQ dY; clear dW
 refine sx dY dX 0 [.bool u0.a.neg, .slice ay (gdivS u0.a.abs (gcomS u0.a.abs u0.b.abs)).1.length az, .bool u0.b.neg, .slice bs (gdivS u0.b.abs (gcomS u0.a.abs u0.b.abs)).1.length bu] 3 ?_; intro my iP; clear dX
 have iQ : Mem B [] w0 Z0 ((.row b1 [.bool u0.a.neg, .slice ay (gdivS u0.a.abs (gcomS u0.a.abs u0.b.abs)).1.length az, .bool u0.b.neg, .slice bs (gdivS u0.b.abs (gcomS u0.a.abs u0.b.abs)).1.length bu] 71) :: Rr) cE my := iP; clear iP
 refine nlH (iO _ _ ?_); clear iO mx
 refine sqB dY iQ [] [] [(2, pt b1 0)] ?_; intro pR mz; clear dY
 refine wp_ret ?_
 refine ra1 mz (pt b1 0) ?_
 exact ⟨(⟨(⟨u0.a.neg, (gdivS u0.a.abs (gcomS u0.a.abs u0.b.abs)).1⟩ : BInt), (⟨u0.b.neg, (gdivS u0.b.abs (gcomS u0.a.abs u0.b.abs)).1⟩ : BInt)⟩ : BRat), ay, az, bs, bu, cE, rfl, mu, f, cC, iH, iQ.keep (List.Sublist.cons_cons _ (List.Sublist.refl _))⟩

theorem rnum_walk (u0 : BRat) (b1 : Nat) (ao2 : Option Addr) (cap3 : Nat) (ao5 : Option Addr) (cap6 : Nat) (B : Nat) (w0 : World) (Z0 : Fz) (Rr : List Res) (Z : Fz) (w : World) (hs4 : SlR (tyInt .u32) Z ao2 cap3 u0.a.abs) (hs7 : SlR (tyInt .u32) Z ao5 cap6 u0.b.abs) (hM0 : Mem B [] w0 Z0 ((.row b1 [.bool u0.a.neg, .slice ao2 u0.a.abs.length cap3, .bool u0.b.neg, .slice ao5 u0.b.abs.length cap6] 71) :: Rr) Z w) (hZ : Z.on w) {K : BRat → Prop} (hp : rnum_vc u0 K) : Calls Tryd.prog 42 #[pt b1 0] w fun e w' => ∃ (r : BRat) (ao1001 : Option Addr) (cap1002 : Nat) (ao1004 : Option Addr) (cap1005 : Nat) (Z' : Fz), e = .returned (pt b1 0) ∧ K r ∧ Fz.le Z Z' ∧ SlR (tyInt .u32) Z' ao1001 cap1002 r.a.abs ∧ SlR (tyInt .u32) Z' ao1004 cap1005 r.b.abs ∧ Mem B [] w0 Z0 ((.row b1 [.bool r.a.neg, .slice ao1001 r.a.abs.length cap1002, .bool r.b.neg, .slice ao1004 r.b.abs.length cap1005] 71) :: Rr) Z' w' := by
 refine enter0 Tryd.func42 rfl rfl (by kernel_rfl) ?_; intro j c; have g := Fz.le.refl Z
 have d := hp (hs4.small); clear hp
 have h := d (hs7.small); clear d
 refine sqB c hM0 [] [] [] ?_; intro k f; clear c
 refine sqB f hM0 [] [] [(2, pt b1 0)] ?_; intro l i; clear f
 refine wp_ret ?_
 refine ra1 i (pt b1 0) ?_
 exact ⟨u0, ao2, cap3, ao5, cap6, Z, rfl, h, g, hs4, hs7, hM0.keep (List.Sublist.cons_cons _ (List.Sublist.refl _))⟩

theorem gi64_walk (u0 : BInt) (b1 : Nat) (ao2 : Option Addr) (cap3 : Nat) (B : Nat) (w0 : World) (Z0 : Fz) (Rr : List Res) (Z : Fz) (w : World) (hs4 : SlR (tyInt .u32) Z ao2 cap3 u0.abs) (hM0 : Mem B [] w0 Z0 ((.row b1 [.bool u0.neg, .slice ao2 u0.abs.length cap3] 69) :: Rr) Z w) (hZ : Z.on w) {K : (Int × BInt) → Prop} (hp : gi64_vc u0 K) : Calls Tryd.prog 43 #[pt b1 0] w fun e w' => ∃ (r : Int × BInt) (ao1001 : Option Addr) (cap1002 : Nat) (Z' : Fz), e = .returned (i6 r.1) ∧ K r ∧ Fz.le Z Z' ∧ SlR (tyInt .u32) Z' ao1001 cap1002 r.2.abs ∧ Mem B [] w0 Z0 ((.row b1 [.bool r.2.neg, .slice ao1001 r.2.abs.length cap1002] 69) :: Rr) Z' w' := by
 refine enter0 Tryd.func43 rfl rfl (by kernel_rfl) ?_; intro a0 N; have d := Fz.le.refl Z
 have v := hp (hs4.small); clear hp
 refine sqB N hM0 [] [] [] ?_; intro a7 O; clear N
 refine sqH ?_; intro x f
 refine s1 O 4 (pt b1 0) ?_; intro bj l; clear O
 refine ck l 79 #[pt b1 0] ?_
 refine enter0 Tryd.func79 rfl rfl (by kernel_rfl) ?_; intro aF P
 have Q : Fr 34 [] [⟨0, [], pt b1 0⟩] aF := P.reg; clear P
 refine sqB Q hM0 [] [] [] ?_; intro bk R; clear Q
 refine sqB R hM0 [] [] [(3, y6 0)] ?_; intro bl S; clear R
 refine wp_seq ?_
 refine sqB S hM0 [0] [] [(9, .bool (decide ((u0.abs.length : Int) > 0)))] ?_; intro bm m; clear S
 refine cd m (t := decide ((u0.abs.length : Int) > 0)) (by kernel_rfl) (fun F => ?_) (fun F => ?_)
 ·
  have aG := v.1 F; clear v
  refine rgH ?_; intro aH U
  refine bt m hM0 4 [0] [] [(13, .slice ao2 u0.abs.length cap3)] ?_; intro bn V; clear m
  obtain ⟨aI, W⟩ := aG
  refine ix V (T := (tyInt .u32)) (xs := u0.abs) hs4 (0 : Int) aI (k := .i64) (e := 109) (bytes := 4) (nog rfl _) rfl (by kernel_rfl) rfl (by kernel_rfl) (by kernel_rfl) (by kernel_rfl) ?_; intro bo bp aJ a bq aK aL aM X; clear V
  have y := W a aK; clear W
  obtain rfl : aJ = ([.int .u32 a] : List Value) := aM
  refine z1 X hM0 15 aL 0 (.int .u32 a) rfl ?_; intro br Y; clear X
  refine bt Y hM0 2 [] [] [(3, y6 (wu64 a))] ?_; intro bs aa; clear Y
  refine nlH (U _ _ ?_); clear U aH
  refine thn ?_
  refine wp_seq ?_
  refine sqB aa hM0 [0] [] [(22, .bool (decide ((u0.abs.length : Int) > 1)))] ?_; intro bu n; clear aa
  refine cd n (t := decide ((u0.abs.length : Int) > 1)) (by kernel_rfl) (fun G => ?_) (fun G => ?_)
  ·
   have aN := y.1 G; clear y
   refine rgH ?_; intro aO ab
   refine bt n hM0 5 [0] [] [(23, y6 (wu64 a)), (27, .slice ao2 u0.abs.length cap3)] ?_; intro bv ac; clear n
   obtain ⟨aP, ad⟩ := aN
   refine ix ac (T := (tyInt .u32)) (xs := u0.abs) hs4 (1 : Int) aP (k := .i64) (e := 109) (bytes := 4) (nog rfl _) rfl (by kernel_rfl) rfl (by kernel_rfl) (by kernel_rfl) (by kernel_rfl) ?_; intro bw bx aQ b bz aR aS aT ae; clear ac
   have z := ad b aR; clear ad
   obtain rfl : aQ = ([.int .u32 b] : List Value) := aT
   refine z1 ae hM0 29 aS 0 (.int .u32 b) rfl ?_; intro bA af; clear ae
   refine bt af hM0 4 [] [] [(3, y6 (bOr .u64 (wu64 a) (bShl .u64 (wu64 b) 32)))] ?_; intro bB ag; clear af
   refine nlH (ab _ _ ?_); clear ab aO
   refine thn ?_
   refine sqB ag hM0 [] [] [(2, y6 (bOr .u64 (wu64 a) (bShl .u64 (wu64 b) 32)))] ?_; intro bC ah; clear ag
   refine wp_ret ?_
   refine ra1 ah (y6 (bOr .u64 (wu64 a) (bShl .u64 (wu64 b) 32))) ?_
   refine ⟨_, rfl, ?_⟩; intro bD ai; clear l ah
   refine bt ai hM0 2 [] [] [(3, i6 (w64 (bOr .u64 (wu64 a) (bShl .u64 (wu64 b) 32))))] ?_; intro bE aj; clear ai
   have g : Mem B [] w0 Z0 ((.row b1 [.bool u0.neg, .slice ao2 u0.abs.length cap3] 69) :: Rr) Z w := hM0; clear hM0
   refine nlH (f _ _ ?_); clear f x
   refine wp_seq ?_
   refine sqB aj g [0] [] [(10, .bool u0.neg)] ?_; intro bF o; clear aj
   refine cd o (t := u0.neg) (by kernel_rfl) (fun H => ?_) (fun H => ?_)
   ·
    have aU := z.1 H; clear z
    refine rgB o g [] [] [(3, i6 (w64 (0 - (w64 (bOr .u64 (wu64 a) (bShl .u64 (wu64 b) 32))))))] ?_; intro bG ak; clear o
    refine thn ?_
    refine sqB ak g [] [] [(2, i6 (w64 (0 - (w64 (bOr .u64 (wu64 a) (bShl .u64 (wu64 b) 32))))))] ?_; intro bH aV; clear ak
    refine wp_ret ?_
    refine ra1 aV (i6 (w64 (0 - (w64 (bOr .u64 (wu64 a) (bShl .u64 (wu64 b) 32)))))) ?_
    exact ⟨(w64 (0 - (w64 (bOr .u64 (wu64 a) (bShl .u64 (wu64 b) 32)))), u0), ao2, cap3, Z, rfl, aU, d, hs4, g.keep (List.Sublist.cons_cons _ (List.Sublist.refl _))⟩
   have aW := z.2 H; clear z
   refine wp_skip ?_
   refine thn ?_
   refine sqB o g [] [] [(2, i6 (w64 (bOr .u64 (wu64 a) (bShl .u64 (wu64 b) 32))))] ?_; intro bI aX; clear o
   refine wp_ret ?_
   refine ra1 aX (i6 (w64 (bOr .u64 (wu64 a) (bShl .u64 (wu64 b) 32)))) ?_
   exact ⟨(w64 (bOr .u64 (wu64 a) (bShl .u64 (wu64 b) 32)), u0), ao2, cap3, Z, rfl, aW, d, hs4, g.keep (List.Sublist.cons_cons _ (List.Sublist.refl _))⟩
  have A := y.2 G; clear y
  refine wp_skip ?_
  refine thn ?_
  refine sqB n hM0 [] [] [(2, y6 (wu64 a))] ?_; intro bJ al; clear n
  refine wp_ret ?_
  refine ra1 al (y6 (wu64 a)) ?_
  refine ⟨_, rfl, ?_⟩; intro bK am; clear l al
  refine bt am hM0 2 [] [] [(3, i6 (w64 (wu64 a)))] ?_; intro bL an; clear am
  have h : Mem B [] w0 Z0 ((.row b1 [.bool u0.neg, .slice ao2 u0.abs.length cap3] 69) :: Rr) Z w := hM0; clear hM0
  refine nlH (f _ _ ?_); clear f x
  refine wp_seq ?_
  refine sqB an h [0] [] [(10, .bool u0.neg)] ?_; intro bM p; clear an
  refine cd p (t := u0.neg) (by kernel_rfl) (fun I => ?_) (fun I => ?_)
  ·
   have aY := A.1 I; clear A
   refine rgB p h [] [] [(3, i6 (w64 (0 - (w64 (wu64 a)))))] ?_; intro bN ao; clear p
   refine thn ?_
   refine sqB ao h [] [] [(2, i6 (w64 (0 - (w64 (wu64 a)))))] ?_; intro bO aZ; clear ao
   refine wp_ret ?_
   refine ra1 aZ (i6 (w64 (0 - (w64 (wu64 a))))) ?_
   exact ⟨(w64 (0 - (w64 (wu64 a))), u0), ao2, cap3, Z, rfl, aY, d, hs4, h.keep (List.Sublist.cons_cons _ (List.Sublist.refl _))⟩
  have a1 := A.2 I; clear A
  refine wp_skip ?_
  refine thn ?_
  refine sqB p h [] [] [(2, i6 (w64 (wu64 a)))] ?_; intro bP a2; clear p
  refine wp_ret ?_
  refine ra1 a2 (i6 (w64 (wu64 a))) ?_
  exact ⟨(w64 (wu64 a), u0), ao2, cap3, Z, rfl, a1, d, hs4, h.keep (List.Sublist.cons_cons _ (List.Sublist.refl _))⟩
 have C := v.2 F; clear v
 refine wp_skip ?_
 refine thn ?_
 refine wp_seq ?_
 refine sqB m hM0 [0] [] [(22, .bool (decide ((u0.abs.length : Int) > 1)))] ?_; intro bQ q; clear m
 refine cd q (t := decide ((u0.abs.length : Int) > 1)) (by kernel_rfl) (fun J => ?_) (fun J => ?_)
 ·
  have a3 := C.1 J; clear C
  refine rgH ?_; intro a4 ap
  refine bt q hM0 5 [0] [] [(23, y6 0), (27, .slice ao2 u0.abs.length cap3)] ?_; intro bR aq; clear q
  obtain ⟨a5, ar⟩ := a3
  refine ix aq (T := (tyInt .u32)) (xs := u0.abs) hs4 (1 : Int) a5 (k := .i64) (e := 109) (bytes := 4) (nog rfl _) rfl (by kernel_rfl) rfl (by kernel_rfl) (by kernel_rfl) (by kernel_rfl) ?_; intro bS bT a6 c bU a8 a9 ba au; clear aq
  have D := ar c a8; clear ar
  obtain rfl : a6 = ([.int .u32 c] : List Value) := ba
  refine z1 au hM0 29 a9 0 (.int .u32 c) rfl ?_; intro bV av; clear au
  refine bt av hM0 4 [] [] [(3, y6 (bOr .u64 0 (bShl .u64 (wu64 c) 32)))] ?_; intro bW aw; clear av
  refine nlH (ap _ _ ?_); clear ap a4
  refine thn ?_
  refine sqB aw hM0 [] [] [(2, y6 (bOr .u64 0 (bShl .u64 (wu64 c) 32)))] ?_; intro bX ax; clear aw
  refine wp_ret ?_
  refine ra1 ax (y6 (bOr .u64 0 (bShl .u64 (wu64 c) 32))) ?_
  refine ⟨_, rfl, ?_⟩; intro bY ay; clear l ax
  refine bt ay hM0 2 [] [] [(3, i6 (w64 (bOr .u64 0 (bShl .u64 (wu64 c) 32))))] ?_; intro bZ az; clear ay
  have i : Mem B [] w0 Z0 ((.row b1 [.bool u0.neg, .slice ao2 u0.abs.length cap3] 69) :: Rr) Z w := hM0; clear hM0
  refine nlH (f _ _ ?_); clear f x
  refine wp_seq ?_
  refine sqB az i [0] [] [(10, .bool u0.neg)] ?_; intro b0 s; clear az
  refine cd s (t := u0.neg) (by kernel_rfl) (fun L => ?_) (fun L => ?_)
  ·
   have bb := D.1 L; clear D
   refine rgB s i [] [] [(3, i6 (w64 (0 - (w64 (bOr .u64 0 (bShl .u64 (wu64 c) 32))))))] ?_; intro b2 aA; clear s
   refine thn ?_
   refine sqB aA i [] [] [(2, i6 (w64 (0 - (w64 (bOr .u64 0 (bShl .u64 (wu64 c) 32))))))] ?_; intro b3 bc; clear aA
   refine wp_ret ?_
   refine ra1 bc (i6 (w64 (0 - (w64 (bOr .u64 0 (bShl .u64 (wu64 c) 32)))))) ?_
   exact ⟨(w64 (0 - (w64 (bOr .u64 0 (bShl .u64 (wu64 c) 32)))), u0), ao2, cap3, Z, rfl, bb, d, hs4, i.keep (List.Sublist.cons_cons _ (List.Sublist.refl _))⟩
  have bd := D.2 L; clear D
  refine wp_skip ?_
  refine thn ?_
  refine sqB s i [] [] [(2, i6 (w64 (bOr .u64 0 (bShl .u64 (wu64 c) 32))))] ?_; intro b4 be; clear s
  refine wp_ret ?_
  refine ra1 be (i6 (w64 (bOr .u64 0 (bShl .u64 (wu64 c) 32)))) ?_
  exact ⟨(w64 (bOr .u64 0 (bShl .u64 (wu64 c) 32)), u0), ao2, cap3, Z, rfl, bd, d, hs4, i.keep (List.Sublist.cons_cons _ (List.Sublist.refl _))⟩
 have E := C.2 J; clear C
 refine wp_skip ?_
 refine thn ?_
 refine sqB q hM0 [] [] [(2, y6 0)] ?_; intro b5 aB; clear q
 refine wp_ret ?_
 refine ra1 aB (y6 0) ?_
 refine ⟨_, rfl, ?_⟩; intro b6 aC; clear l aB
 refine bt aC hM0 2 [] [] [(3, i6 0)] ?_; intro b7 aD; clear aC
 have j : Mem B [] w0 Z0 ((.row b1 [.bool u0.neg, .slice ao2 u0.abs.length cap3] 69) :: Rr) Z w := hM0; clear hM0
 refine nlH (f _ _ ?_); clear f x
 refine wp_seq ?_
 refine sqB aD j [0] [] [(10, .bool u0.neg)] ?_; intro b8 u; clear aD
 refine cd u (t := u0.neg) (by kernel_rfl) (fun M => ?_) (fun M => ?_)
 ·
  have bf := E.1 M; clear E
  refine rgB u j [] [] [(3, i6 0)] ?_; intro b9 aE; clear u
  refine thn ?_
  refine sqB aE j [] [] [(2, i6 0)] ?_; intro ca bg; clear aE
  refine wp_ret ?_
  refine ra1 bg (i6 0) ?_
  exact ⟨(0, u0), ao2, cap3, Z, rfl, bf, d, hs4, j.keep (List.Sublist.cons_cons _ (List.Sublist.refl _))⟩
 have bh := E.2 M; clear E
 refine wp_skip ?_
 refine thn ?_
 refine sqB u j [] [] [(2, i6 0)] ?_; intro cb bi; clear u
 refine wp_ret ?_
 refine ra1 bi (i6 0) ?_
 exact ⟨(0, u0), ao2, cap3, Z, rfl, bh, d, hs4, j.keep (List.Sublist.cons_cons _ (List.Sublist.refl _))⟩

theorem gi64A_walk (u0 : BRat) (b1 : Nat) (ao2 : Option Addr) (cap3 : Nat) (ao5 : Option Addr) (cap6 : Nat) (B : Nat) (w0 : World) (Z0 : Fz) (Rr : List Res) (Z : Fz) (w : World) (hs4 : SlR (tyInt .u32) Z ao2 cap3 u0.a.abs) (hs7 : SlR (tyInt .u32) Z ao5 cap6 u0.b.abs) (hM0 : Mem B [] w0 Z0 ((.row b1 [.bool u0.a.neg, .slice ao2 u0.a.abs.length cap3, .bool u0.b.neg, .slice ao5 u0.b.abs.length cap6] 71) :: Rr) Z w) (hZ : Z.on w) {K : (Int × BRat) → Prop} (hp : gi64A_vc u0 K) : Calls Tryd.prog 43 #[pt b1 0] w fun e w' => ∃ (r : Int × BRat) (ao1001 : Option Addr) (cap1002 : Nat) (ao1004 : Option Addr) (cap1005 : Nat) (Z' : Fz), e = .returned (i6 r.1) ∧ K r ∧ Fz.le Z Z' ∧ SlR (tyInt .u32) Z' ao1001 cap1002 r.2.a.abs ∧ SlR (tyInt .u32) Z' ao1004 cap1005 r.2.b.abs ∧ Mem B [] w0 Z0 ((.row b1 [.bool r.2.a.neg, .slice ao1001 r.2.a.abs.length cap1002, .bool r.2.b.neg, .slice ao1004 r.2.b.abs.length cap1005] 71) :: Rr) Z' w' := by
 refine enter0 Tryd.func43 rfl rfl (by kernel_rfl) ?_; intro a0 P; have g := Fz.le.refl Z
 have Q := hp (hs4.small); clear hp
 have y := Q (hs7.small); clear Q
 refine sqB P hM0 [] [] [] ?_; intro bl R; clear P
 refine sqH ?_; intro z h
 refine s1 R 4 (pt b1 0) ?_; intro bm n; clear R
 refine ck n 79 #[pt b1 0] ?_
 refine enter0 Tryd.func79 rfl rfl (by kernel_rfl) ?_; intro aI S
 have U : Fr 34 [] [⟨0, [], pt b1 0⟩] aI := S.reg; clear S
 refine sqB U hM0 [] [] [] ?_; intro bn V; clear U
 refine sqB V hM0 [] [] [(3, y6 0)] ?_; intro bo W; clear V
 refine wp_seq ?_
 refine sqB W hM0 [0] [] [(9, .bool (decide ((u0.a.abs.length : Int) > 0)))] ?_; intro bp o; clear W
 refine cd o (t := decide ((u0.a.abs.length : Int) > 0)) (by kernel_rfl) (fun H => ?_) (fun H => ?_)
 ·
  have aJ := y.1 H; clear y
  refine rgH ?_; intro aK X
  refine bt o hM0 4 [0] [] [(13, .slice ao2 u0.a.abs.length cap3)] ?_; intro bq Y; clear o
  obtain ⟨aL, aa⟩ := aJ
  refine ix Y (T := (tyInt .u32)) (xs := u0.a.abs) hs4 (0 : Int) aL (k := .i64) (e := 109) (bytes := 4) (nog rfl _) rfl (by kernel_rfl) rfl (by kernel_rfl) (by kernel_rfl) (by kernel_rfl) ?_; intro br bs aM c bu aN aO aP ab; clear Y
  have A := aa c aN; clear aa
  obtain rfl : aM = ([.int .u32 c] : List Value) := aP
  refine z1 ab hM0 15 aO 0 (.int .u32 c) rfl ?_; intro bv ac; clear ab
  refine bt ac hM0 2 [] [] [(3, y6 (wu64 c))] ?_; intro bw ad; clear ac
  refine nlH (X _ _ ?_); clear X aK
  refine thn ?_
  refine wp_seq ?_
  refine sqB ad hM0 [0] [] [(22, .bool (decide ((u0.a.abs.length : Int) > 1)))] ?_; intro bx p; clear ad
  refine cd p (t := decide ((u0.a.abs.length : Int) > 1)) (by kernel_rfl) (fun I => ?_) (fun I => ?_)
  ·
   have aQ := A.1 I; clear A
   refine rgH ?_; intro aR ae
   refine bt p hM0 5 [0] [] [(23, y6 (wu64 c)), (27, .slice ao2 u0.a.abs.length cap3)] ?_; intro bz af; clear p
   obtain ⟨aS, ag⟩ := aQ
   refine ix af (T := (tyInt .u32)) (xs := u0.a.abs) hs4 (1 : Int) aS (k := .i64) (e := 109) (bytes := 4) (nog rfl _) rfl (by kernel_rfl) rfl (by kernel_rfl) (by kernel_rfl) (by kernel_rfl) ?_; intro bA bB aT d bC aU aV aW ah; clear af
   have C := ag d aU; clear ag
   obtain rfl : aT = ([.int .u32 d] : List Value) := aW
   refine z1 ah hM0 29 aV 0 (.int .u32 d) rfl ?_; intro bD ai; clear ah
   refine bt ai hM0 4 [] [] [(3, y6 (bOr .u64 (wu64 c) (bShl .u64 (wu64 d) 32)))] ?_; intro bE aj; clear ai
   refine nlH (ae _ _ ?_); clear ae aR
   refine thn ?_
   refine sqB aj hM0 [] [] [(2, y6 (bOr .u64 (wu64 c) (bShl .u64 (wu64 d) 32)))] ?_; intro bF ak; clear aj
   refine wp_ret ?_
   refine ra1 ak (y6 (bOr .u64 (wu64 c) (bShl .u64 (wu64 d) 32))) ?_
   refine ⟨_, rfl, ?_⟩; intro bG al; clear n ak
   refine bt al hM0 2 [] [] [(3, i6 (w64 (bOr .u64 (wu64 c) (bShl .u64 (wu64 d) 32))))] ?_; intro bH am; clear al
   have i : Mem B [] w0 Z0 ((.row b1 (e71Nd u0 ao2 cap3 ao5 cap6) 71) :: Rr) Z w := hM0; clear hM0
   refine nlH (h _ _ ?_); clear h z
   refine wp_seq ?_
   refine sqB am i [0] [] [(10, .bool u0.a.neg)] ?_; intro bI q; clear am
   refine cd q (t := u0.a.neg) (by kernel_rfl) (fun J => ?_) (fun J => ?_)
   ·
    have aX := C.1 J; clear C
    refine rgB q i [] [] [(3, i6 (w64 (0 - (w64 (bOr .u64 (wu64 c) (bShl .u64 (wu64 d) 32))))))] ?_; intro bJ an; clear q
    refine thn ?_
    refine sqB an i [] [] [(2, i6 (w64 (0 - (w64 (bOr .u64 (wu64 c) (bShl .u64 (wu64 d) 32))))))] ?_; intro bK aY; clear an
    refine wp_ret ?_
    refine ra1 aY (i6 (w64 (0 - (w64 (bOr .u64 (wu64 c) (bShl .u64 (wu64 d) 32)))))) ?_
    exact ⟨(w64 (0 - (w64 (bOr .u64 (wu64 c) (bShl .u64 (wu64 d) 32)))), u0), ao2, cap3, ao5, cap6, Z, rfl, aX, g, hs4, hs7, i.keep (List.Sublist.cons_cons _ (List.Sublist.refl _))⟩
   have aZ := C.2 J; clear C
   refine wp_skip ?_
   refine thn ?_
   refine sqB q i [] [] [(2, i6 (w64 (bOr .u64 (wu64 c) (bShl .u64 (wu64 d) 32))))] ?_; intro bL a1; clear q
   refine wp_ret ?_
   refine ra1 a1 (i6 (w64 (bOr .u64 (wu64 c) (bShl .u64 (wu64 d) 32)))) ?_
   exact ⟨(w64 (bOr .u64 (wu64 c) (bShl .u64 (wu64 d) 32)), u0), ao2, cap3, ao5, cap6, Z, rfl, aZ, g, hs4, hs7, i.keep (List.Sublist.cons_cons _ (List.Sublist.refl _))⟩
  have D := A.2 I; clear A
  refine wp_skip ?_
  refine thn ?_
  refine sqB p hM0 [] [] [(2, y6 (wu64 c))] ?_; intro bM ao; clear p
  refine wp_ret ?_
  refine ra1 ao (y6 (wu64 c)) ?_
  refine ⟨_, rfl, ?_⟩; intro bN ap; clear n ao
  refine bt ap hM0 2 [] [] [(3, i6 (w64 (wu64 c)))] ?_; intro bO aq; clear ap
  have j : Mem B [] w0 Z0 ((.row b1 (e71Nd u0 ao2 cap3 ao5 cap6) 71) :: Rr) Z w := hM0; clear hM0
  refine nlH (h _ _ ?_); clear h z
  refine wp_seq ?_
  refine sqB aq j [0] [] [(10, .bool u0.a.neg)] ?_; intro bP s; clear aq
  refine cd s (t := u0.a.neg) (by kernel_rfl) (fun L => ?_) (fun L => ?_)
  ·
   have a2 := D.1 L; clear D
   refine rgB s j [] [] [(3, i6 (w64 (0 - (w64 (wu64 c)))))] ?_; intro bQ ar; clear s
   refine thn ?_
   refine sqB ar j [] [] [(2, i6 (w64 (0 - (w64 (wu64 c)))))] ?_; intro bR a3; clear ar
   refine wp_ret ?_
   refine ra1 a3 (i6 (w64 (0 - (w64 (wu64 c))))) ?_
   exact ⟨(w64 (0 - (w64 (wu64 c))), u0), ao2, cap3, ao5, cap6, Z, rfl, a2, g, hs4, hs7, j.keep (List.Sublist.cons_cons _ (List.Sublist.refl _))⟩
  have a4 := D.2 L; clear D
  refine wp_skip ?_
  refine thn ?_
  refine sqB s j [] [] [(2, i6 (w64 (wu64 c)))] ?_; intro bS a5; clear s
  refine wp_ret ?_
  refine ra1 a5 (i6 (w64 (wu64 c))) ?_
  exact ⟨(w64 (wu64 c), u0), ao2, cap3, ao5, cap6, Z, rfl, a4, g, hs4, hs7, j.keep (List.Sublist.cons_cons _ (List.Sublist.refl _))⟩
 have E := y.2 H; clear y
 refine wp_skip ?_
 refine thn ?_
 refine wp_seq ?_
 refine sqB o hM0 [0] [] [(22, .bool (decide ((u0.a.abs.length : Int) > 1)))] ?_; intro bT u; clear o
 refine cd u (t := decide ((u0.a.abs.length : Int) > 1)) (by kernel_rfl) (fun M => ?_) (fun M => ?_)
 ·
  have a6 := E.1 M; clear E
  refine rgH ?_; intro a7 au
  refine bt u hM0 5 [0] [] [(23, y6 0), (27, .slice ao2 u0.a.abs.length cap3)] ?_; intro bU av; clear u
  obtain ⟨a8, aw⟩ := a6
  refine ix av (T := (tyInt .u32)) (xs := u0.a.abs) hs4 (1 : Int) a8 (k := .i64) (e := 109) (bytes := 4) (nog rfl _) rfl (by kernel_rfl) rfl (by kernel_rfl) (by kernel_rfl) (by kernel_rfl) ?_; intro bV bW a9 f bX ba bb bc ax; clear av
  have F := aw f ba; clear aw
  obtain rfl : a9 = ([.int .u32 f] : List Value) := bc
  refine z1 ax hM0 29 bb 0 (.int .u32 f) rfl ?_; intro bY ay; clear ax
  refine bt ay hM0 4 [] [] [(3, y6 (bOr .u64 0 (bShl .u64 (wu64 f) 32)))] ?_; intro bZ az; clear ay
  refine nlH (au _ _ ?_); clear au a7
  refine thn ?_
  refine sqB az hM0 [] [] [(2, y6 (bOr .u64 0 (bShl .u64 (wu64 f) 32)))] ?_; intro b0 aA; clear az
  refine wp_ret ?_
  refine ra1 aA (y6 (bOr .u64 0 (bShl .u64 (wu64 f) 32))) ?_
  refine ⟨_, rfl, ?_⟩; intro b2 aB; clear n aA
  refine bt aB hM0 2 [] [] [(3, i6 (w64 (bOr .u64 0 (bShl .u64 (wu64 f) 32))))] ?_; intro b3 aC; clear aB
  have l : Mem B [] w0 Z0 ((.row b1 (e71Nd u0 ao2 cap3 ao5 cap6) 71) :: Rr) Z w := hM0; clear hM0
  refine nlH (h _ _ ?_); clear h z
  refine wp_seq ?_
  refine sqB aC l [0] [] [(10, .bool u0.a.neg)] ?_; intro b4 v; clear aC
  refine cd v (t := u0.a.neg) (by kernel_rfl) (fun N => ?_) (fun N => ?_)
  ·
   have bd := F.1 N; clear F
   refine rgB v l [] [] [(3, i6 (w64 (0 - (w64 (bOr .u64 0 (bShl .u64 (wu64 f) 32))))))] ?_; intro b5 aD; clear v
   refine thn ?_
   refine sqB aD l [] [] [(2, i6 (w64 (0 - (w64 (bOr .u64 0 (bShl .u64 (wu64 f) 32))))))] ?_; intro b6 be; clear aD
   refine wp_ret ?_
   refine ra1 be (i6 (w64 (0 - (w64 (bOr .u64 0 (bShl .u64 (wu64 f) 32)))))) ?_
   exact ⟨(w64 (0 - (w64 (bOr .u64 0 (bShl .u64 (wu64 f) 32)))), u0), ao2, cap3, ao5, cap6, Z, rfl, bd, g, hs4, hs7, l.keep (List.Sublist.cons_cons _ (List.Sublist.refl _))⟩
  have bf := F.2 N; clear F
  refine wp_skip ?_
  refine thn ?_
  refine sqB v l [] [] [(2, i6 (w64 (bOr .u64 0 (bShl .u64 (wu64 f) 32))))] ?_; intro b7 bg; clear v
  refine wp_ret ?_
  refine ra1 bg (i6 (w64 (bOr .u64 0 (bShl .u64 (wu64 f) 32)))) ?_
  exact ⟨(w64 (bOr .u64 0 (bShl .u64 (wu64 f) 32)), u0), ao2, cap3, ao5, cap6, Z, rfl, bf, g, hs4, hs7, l.keep (List.Sublist.cons_cons _ (List.Sublist.refl _))⟩
 have G := E.2 M; clear E
 refine wp_skip ?_
 refine thn ?_
 refine sqB u hM0 [] [] [(2, y6 0)] ?_; intro b8 aE; clear u
 refine wp_ret ?_
 refine ra1 aE (y6 0) ?_
 refine ⟨_, rfl, ?_⟩; intro b9 aF; clear n aE
 refine bt aF hM0 2 [] [] [(3, i6 0)] ?_; intro ca aG; clear aF
 have m : Mem B [] w0 Z0 ((.row b1 (e71Nd u0 ao2 cap3 ao5 cap6) 71) :: Rr) Z w := hM0; clear hM0
 refine nlH (h _ _ ?_); clear h z
 refine wp_seq ?_
 refine sqB aG m [0] [] [(10, .bool u0.a.neg)] ?_; intro cb x; clear aG
 refine cd x (t := u0.a.neg) (by kernel_rfl) (fun O => ?_) (fun O => ?_)
 ·
  have bh := G.1 O; clear G
  refine rgB x m [] [] [(3, i6 0)] ?_; intro cc aH; clear x
  refine thn ?_
  refine sqB aH m [] [] [(2, i6 0)] ?_; intro ce bi; clear aH
  refine wp_ret ?_
  refine ra1 bi (i6 0) ?_
  exact ⟨(0, u0), ao2, cap3, ao5, cap6, Z, rfl, bh, g, hs4, hs7, m.keep (List.Sublist.cons_cons _ (List.Sublist.refl _))⟩
 have bj := G.2 O; clear G
 refine wp_skip ?_
 refine thn ?_
 refine sqB x m [] [] [(2, i6 0)] ?_; intro cf bk; clear x
 refine wp_ret ?_
 refine ra1 bk (i6 0) ?_
 exact ⟨(0, u0), ao2, cap3, ao5, cap6, Z, rfl, bj, g, hs4, hs7, m.keep (List.Sublist.cons_cons _ (List.Sublist.refl _))⟩

end Go.Proofs.YtdndfbamhnchfaaDoor
set_option linter.unusedVariables false
set_option linter.unusedSimpArgs false
set_option maxRecDepth 100000
set_option maxHeartbeats 0
namespace Go.Proofs.YtdndfbamhnchfaaDoor
open Go.Sy Go.RowKit
abbrev e71Ne (X : BRat) (A0 : Option Addr) (C0 : Nat) (A1 : Option Addr) (C1 : Nat) : List Value := [.bool X.a.neg, .slice A0 X.a.abs.length C0, .bool X.b.neg, .slice A1 X.b.abs.length C1]
theorem gmulAB_fun (u0 : BInt) (u1 : BRat) (u2 : BRat) (hpre : bk u1.a ∧ bk u2.b) (b1 : Nat) (ao2 : Option Addr) (cap3 : Nat) (b5 : Nat) (ao6 : Option Addr) (cap7 : Nat) (ao9 : Option Addr) (cap10 : Nat) (b12 : Nat) (ao13 : Option Addr) (cap14 : Nat) (ao16 : Option Addr) (cap17 : Nat) (B : Nat) (w0 : World) (Z0 : Fz) (Rr : List Res) (Z : Fz) (w : World) (hs4 : SlR (tyInt .u32) Z ao2 cap3 u0.abs) (hs8 : SlR (tyInt .u32) Z ao6 cap7 u1.a.abs) (hs11 : SlR (tyInt .u32) Z ao9 cap10 u1.b.abs) (hs15 : SlR (tyInt .u32) Z ao13 cap14 u2.a.abs) (hs18 : SlR (tyInt .u32) Z ao16 cap17 u2.b.abs) (hM0 : Mem B [] w0 Z0 ((.row b1 [.bool u0.neg, .slice ao2 u0.abs.length cap3] 69) :: (.row b5 [.bool u1.a.neg, .slice ao6 u1.a.abs.length cap7, .bool u1.b.neg, .slice ao9 u1.b.abs.length cap10] 71) :: (.row b12 [.bool u2.a.neg, .slice ao13 u2.a.abs.length cap14, .bool u2.b.neg, .slice ao16 u2.b.abs.length cap17] 71) :: Rr) Z w) (hZ : Z.on w) : Calls Tryd.prog 77 #[pt b1 0, pt b5 0, pt b12 2] w fun e w' => ∃ (ao1001 : Option Addr) (cap1002 : Nat) (ao1004 : Option Addr) (cap1005 : Nat) (ao1007 : Option Addr) (cap1008 : Nat) (ao1010 : Option Addr) (cap1011 : Nat) (ao1013 : Option Addr) (cap1014 : Nat) (Z' : Fz), e = .returned (pt b1 0) ∧ Fz.le Z Z' ∧ SlR (tyInt .u32) Z' ao1001 cap1002 (gmulABS u0 u1 u2).1.abs ∧ SlR (tyInt .u32) Z' ao1004 cap1005 (gmulABS u0 u1 u2).2.1.a.abs ∧ SlR (tyInt .u32) Z' ao1007 cap1008 (gmulABS u0 u1 u2).2.1.b.abs ∧ SlR (tyInt .u32) Z' ao1010 cap1011 (gmulABS u0 u1 u2).2.2.a.abs ∧ SlR (tyInt .u32) Z' ao1013 cap1014 (gmulABS u0 u1 u2).2.2.b.abs ∧ Mem B [] w0 Z0 ((.row b1 [.bool (gmulABS u0 u1 u2).1.neg, .slice ao1001 (gmulABS u0 u1 u2).1.abs.length cap1002] 69) :: (.row b5 [.bool (gmulABS u0 u1 u2).2.1.a.neg, .slice ao1004 (gmulABS u0 u1 u2).2.1.a.abs.length cap1005, .bool (gmulABS u0 u1 u2).2.1.b.neg, .slice ao1007 (gmulABS u0 u1 u2).2.1.b.abs.length cap1008] 71) :: (.row b12 [.bool (gmulABS u0 u1 u2).2.2.a.neg, .slice ao1010 (gmulABS u0 u1 u2).2.2.a.abs.length cap1011, .bool (gmulABS u0 u1 u2).2.2.b.neg, .slice ao1013 (gmulABS u0 u1 u2).2.2.b.abs.length cap1014] 71) :: Rr) Z' w' :=
  (gmulAB_walk u0 u1 u2 b1 ao2 cap3 b5 ao6 cap7 ao9 cap10 b12 ao13 cap14 ao16 cap17 B w0 Z0 Rr Z w hs4 hs8 hs11 hs15 hs18 hM0 hZ (gmulAB_ok u0 u1 u2 hpre)).mono fun _ _ ⟨r, h0, h1, h2, h3, h4, h5, h6, h7, h8, h9, h10, he, hk, f0, f1, f2, f3, f4, f5, hm⟩ => by subst hk; exact ⟨h0, h1, h2, h3, h4, h5, h6, h7, h8, h9, h10, he, f0, f1, f2, f3, f4, f5, hm⟩

theorem gmulBA_fun (u0 : BInt) (u1 : BRat) (u2 : BRat) (hpre : bk u1.b ∧ bk u2.a) (b1 : Nat) (ao2 : Option Addr) (cap3 : Nat) (b5 : Nat) (ao6 : Option Addr) (cap7 : Nat) (ao9 : Option Addr) (cap10 : Nat) (b12 : Nat) (ao13 : Option Addr) (cap14 : Nat) (ao16 : Option Addr) (cap17 : Nat) (B : Nat) (w0 : World) (Z0 : Fz) (Rr : List Res) (Z : Fz) (w : World) (hs4 : SlR (tyInt .u32) Z ao2 cap3 u0.abs) (hs8 : SlR (tyInt .u32) Z ao6 cap7 u1.a.abs) (hs11 : SlR (tyInt .u32) Z ao9 cap10 u1.b.abs) (hs15 : SlR (tyInt .u32) Z ao13 cap14 u2.a.abs) (hs18 : SlR (tyInt .u32) Z ao16 cap17 u2.b.abs) (hM0 : Mem B [] w0 Z0 ((.row b1 [.bool u0.neg, .slice ao2 u0.abs.length cap3] 69) :: (.row b5 [.bool u1.a.neg, .slice ao6 u1.a.abs.length cap7, .bool u1.b.neg, .slice ao9 u1.b.abs.length cap10] 71) :: (.row b12 [.bool u2.a.neg, .slice ao13 u2.a.abs.length cap14, .bool u2.b.neg, .slice ao16 u2.b.abs.length cap17] 71) :: Rr) Z w) (hZ : Z.on w) : Calls Tryd.prog 77 #[pt b1 0, pt b5 2, pt b12 0] w fun e w' => ∃ (ao1001 : Option Addr) (cap1002 : Nat) (ao1004 : Option Addr) (cap1005 : Nat) (ao1007 : Option Addr) (cap1008 : Nat) (ao1010 : Option Addr) (cap1011 : Nat) (ao1013 : Option Addr) (cap1014 : Nat) (Z' : Fz), e = .returned (pt b1 0) ∧ Fz.le Z Z' ∧ SlR (tyInt .u32) Z' ao1001 cap1002 (gmulBAS u0 u1 u2).1.abs ∧ SlR (tyInt .u32) Z' ao1004 cap1005 (gmulBAS u0 u1 u2).2.1.a.abs ∧ SlR (tyInt .u32) Z' ao1007 cap1008 (gmulBAS u0 u1 u2).2.1.b.abs ∧ SlR (tyInt .u32) Z' ao1010 cap1011 (gmulBAS u0 u1 u2).2.2.a.abs ∧ SlR (tyInt .u32) Z' ao1013 cap1014 (gmulBAS u0 u1 u2).2.2.b.abs ∧ Mem B [] w0 Z0 ((.row b1 [.bool (gmulBAS u0 u1 u2).1.neg, .slice ao1001 (gmulBAS u0 u1 u2).1.abs.length cap1002] 69) :: (.row b5 [.bool (gmulBAS u0 u1 u2).2.1.a.neg, .slice ao1004 (gmulBAS u0 u1 u2).2.1.a.abs.length cap1005, .bool (gmulBAS u0 u1 u2).2.1.b.neg, .slice ao1007 (gmulBAS u0 u1 u2).2.1.b.abs.length cap1008] 71) :: (.row b12 [.bool (gmulBAS u0 u1 u2).2.2.a.neg, .slice ao1010 (gmulBAS u0 u1 u2).2.2.a.abs.length cap1011, .bool (gmulBAS u0 u1 u2).2.2.b.neg, .slice ao1013 (gmulBAS u0 u1 u2).2.2.b.abs.length cap1014] 71) :: Rr) Z' w' :=
  (gmulBA_walk u0 u1 u2 b1 ao2 cap3 b5 ao6 cap7 ao9 cap10 b12 ao13 cap14 ao16 cap17 B w0 Z0 Rr Z w hs4 hs8 hs11 hs15 hs18 hM0 hZ (gmulBA_ok u0 u1 u2 hpre)).mono fun _ _ ⟨r, h0, h1, h2, h3, h4, h5, h6, h7, h8, h9, h10, he, hk, f0, f1, f2, f3, f4, f5, hm⟩ => by subst hk; exact ⟨h0, h1, h2, h3, h4, h5, h6, h7, h8, h9, h10, he, f0, f1, f2, f3, f4, f5, hm⟩

theorem gmulAA_fun (u0 : BInt) (u1 : BRat) (u2 : BRat) (hpre : bk u1.a ∧ bk u2.a) (b1 : Nat) (ao2 : Option Addr) (cap3 : Nat) (b5 : Nat) (ao6 : Option Addr) (cap7 : Nat) (ao9 : Option Addr) (cap10 : Nat) (b12 : Nat) (ao13 : Option Addr) (cap14 : Nat) (ao16 : Option Addr) (cap17 : Nat) (B : Nat) (w0 : World) (Z0 : Fz) (Rr : List Res) (Z : Fz) (w : World) (hs4 : SlR (tyInt .u32) Z ao2 cap3 u0.abs) (hs8 : SlR (tyInt .u32) Z ao6 cap7 u1.a.abs) (hs11 : SlR (tyInt .u32) Z ao9 cap10 u1.b.abs) (hs15 : SlR (tyInt .u32) Z ao13 cap14 u2.a.abs) (hs18 : SlR (tyInt .u32) Z ao16 cap17 u2.b.abs) (hM0 : Mem B [] w0 Z0 ((.row b1 [.bool u0.neg, .slice ao2 u0.abs.length cap3] 69) :: (.row b5 [.bool u1.a.neg, .slice ao6 u1.a.abs.length cap7, .bool u1.b.neg, .slice ao9 u1.b.abs.length cap10] 71) :: (.row b12 [.bool u2.a.neg, .slice ao13 u2.a.abs.length cap14, .bool u2.b.neg, .slice ao16 u2.b.abs.length cap17] 71) :: Rr) Z w) (hZ : Z.on w) : Calls Tryd.prog 77 #[pt b1 0, pt b5 0, pt b12 0] w fun e w' => ∃ (ao1001 : Option Addr) (cap1002 : Nat) (ao1004 : Option Addr) (cap1005 : Nat) (ao1007 : Option Addr) (cap1008 : Nat) (ao1010 : Option Addr) (cap1011 : Nat) (ao1013 : Option Addr) (cap1014 : Nat) (Z' : Fz), e = .returned (pt b1 0) ∧ Fz.le Z Z' ∧ SlR (tyInt .u32) Z' ao1001 cap1002 (gmulAAS u0 u1 u2).1.abs ∧ SlR (tyInt .u32) Z' ao1004 cap1005 (gmulAAS u0 u1 u2).2.1.a.abs ∧ SlR (tyInt .u32) Z' ao1007 cap1008 (gmulAAS u0 u1 u2).2.1.b.abs ∧ SlR (tyInt .u32) Z' ao1010 cap1011 (gmulAAS u0 u1 u2).2.2.a.abs ∧ SlR (tyInt .u32) Z' ao1013 cap1014 (gmulAAS u0 u1 u2).2.2.b.abs ∧ Mem B [] w0 Z0 ((.row b1 [.bool (gmulAAS u0 u1 u2).1.neg, .slice ao1001 (gmulAAS u0 u1 u2).1.abs.length cap1002] 69) :: (.row b5 [.bool (gmulAAS u0 u1 u2).2.1.a.neg, .slice ao1004 (gmulAAS u0 u1 u2).2.1.a.abs.length cap1005, .bool (gmulAAS u0 u1 u2).2.1.b.neg, .slice ao1007 (gmulAAS u0 u1 u2).2.1.b.abs.length cap1008] 71) :: (.row b12 [.bool (gmulAAS u0 u1 u2).2.2.a.neg, .slice ao1010 (gmulAAS u0 u1 u2).2.2.a.abs.length cap1011, .bool (gmulAAS u0 u1 u2).2.2.b.neg, .slice ao1013 (gmulAAS u0 u1 u2).2.2.b.abs.length cap1014] 71) :: Rr) Z' w' :=
  (gmulAA_walk u0 u1 u2 b1 ao2 cap3 b5 ao6 cap7 ao9 cap10 b12 ao13 cap14 ao16 cap17 B w0 Z0 Rr Z w hs4 hs8 hs11 hs15 hs18 hM0 hZ (gmulAA_ok u0 u1 u2 hpre)).mono fun _ _ ⟨r, h0, h1, h2, h3, h4, h5, h6, h7, h8, h9, h10, he, hk, f0, f1, f2, f3, f4, f5, hm⟩ => by subst hk; exact ⟨h0, h1, h2, h3, h4, h5, h6, h7, h8, h9, h10, he, f0, f1, f2, f3, f4, f5, hm⟩

theorem gmulBB_fun (u0 : BInt) (u1 : BRat) (u2 : BRat) (hpre : bk u1.b ∧ bk u2.b) (b1 : Nat) (ao2 : Option Addr) (cap3 : Nat) (b5 : Nat) (ao6 : Option Addr) (cap7 : Nat) (ao9 : Option Addr) (cap10 : Nat) (b12 : Nat) (ao13 : Option Addr) (cap14 : Nat) (ao16 : Option Addr) (cap17 : Nat) (B : Nat) (w0 : World) (Z0 : Fz) (Rr : List Res) (Z : Fz) (w : World) (hs4 : SlR (tyInt .u32) Z ao2 cap3 u0.abs) (hs8 : SlR (tyInt .u32) Z ao6 cap7 u1.a.abs) (hs11 : SlR (tyInt .u32) Z ao9 cap10 u1.b.abs) (hs15 : SlR (tyInt .u32) Z ao13 cap14 u2.a.abs) (hs18 : SlR (tyInt .u32) Z ao16 cap17 u2.b.abs) (hM0 : Mem B [] w0 Z0 ((.row b1 [.bool u0.neg, .slice ao2 u0.abs.length cap3] 69) :: (.row b5 [.bool u1.a.neg, .slice ao6 u1.a.abs.length cap7, .bool u1.b.neg, .slice ao9 u1.b.abs.length cap10] 71) :: (.row b12 [.bool u2.a.neg, .slice ao13 u2.a.abs.length cap14, .bool u2.b.neg, .slice ao16 u2.b.abs.length cap17] 71) :: Rr) Z w) (hZ : Z.on w) : Calls Tryd.prog 77 #[pt b1 0, pt b5 2, pt b12 2] w fun e w' => ∃ (ao1001 : Option Addr) (cap1002 : Nat) (ao1004 : Option Addr) (cap1005 : Nat) (ao1007 : Option Addr) (cap1008 : Nat) (ao1010 : Option Addr) (cap1011 : Nat) (ao1013 : Option Addr) (cap1014 : Nat) (Z' : Fz), e = .returned (pt b1 0) ∧ Fz.le Z Z' ∧ SlR (tyInt .u32) Z' ao1001 cap1002 (gmulBBS u0 u1 u2).1.abs ∧ SlR (tyInt .u32) Z' ao1004 cap1005 (gmulBBS u0 u1 u2).2.1.a.abs ∧ SlR (tyInt .u32) Z' ao1007 cap1008 (gmulBBS u0 u1 u2).2.1.b.abs ∧ SlR (tyInt .u32) Z' ao1010 cap1011 (gmulBBS u0 u1 u2).2.2.a.abs ∧ SlR (tyInt .u32) Z' ao1013 cap1014 (gmulBBS u0 u1 u2).2.2.b.abs ∧ Mem B [] w0 Z0 ((.row b1 [.bool (gmulBBS u0 u1 u2).1.neg, .slice ao1001 (gmulBBS u0 u1 u2).1.abs.length cap1002] 69) :: (.row b5 [.bool (gmulBBS u0 u1 u2).2.1.a.neg, .slice ao1004 (gmulBBS u0 u1 u2).2.1.a.abs.length cap1005, .bool (gmulBBS u0 u1 u2).2.1.b.neg, .slice ao1007 (gmulBBS u0 u1 u2).2.1.b.abs.length cap1008] 71) :: (.row b12 [.bool (gmulBBS u0 u1 u2).2.2.a.neg, .slice ao1010 (gmulBBS u0 u1 u2).2.2.a.abs.length cap1011, .bool (gmulBBS u0 u1 u2).2.2.b.neg, .slice ao1013 (gmulBBS u0 u1 u2).2.2.b.abs.length cap1014] 71) :: Rr) Z' w' :=
  (gmulBB_walk u0 u1 u2 b1 ao2 cap3 b5 ao6 cap7 ao9 cap10 b12 ao13 cap14 ao16 cap17 B w0 Z0 Rr Z w hs4 hs8 hs11 hs15 hs18 hM0 hZ (gmulBB_ok u0 u1 u2 hpre)).mono fun _ _ ⟨r, h0, h1, h2, h3, h4, h5, h6, h7, h8, h9, h10, he, hk, f0, f1, f2, f3, f4, f5, hm⟩ => by subst hk; exact ⟨h0, h1, h2, h3, h4, h5, h6, h7, h8, h9, h10, he, f0, f1, f2, f3, f4, f5, hm⟩

theorem gaddI_fun (u0 : BInt) (u1 : BInt) (u2 : BInt) (hpre : bk u1 ∧ bk u2) (b1 : Nat) (ao2 : Option Addr) (cap3 : Nat) (b5 : Nat) (ao6 : Option Addr) (cap7 : Nat) (b9 : Nat) (ao10 : Option Addr) (cap11 : Nat) (B : Nat) (w0 : World) (Z0 : Fz) (Rr : List Res) (Z : Fz) (w : World) (hs4 : SlR (tyInt .u32) Z ao2 cap3 u0.abs) (hs8 : SlR (tyInt .u32) Z ao6 cap7 u1.abs) (hs12 : SlR (tyInt .u32) Z ao10 cap11 u2.abs) (hM0 : Mem B [] w0 Z0 ((.row b1 [.bool u0.neg, .slice ao2 u0.abs.length cap3] 69) :: (.row b5 [.bool u1.neg, .slice ao6 u1.abs.length cap7] 69) :: (.row b9 [.bool u2.neg, .slice ao10 u2.abs.length cap11] 69) :: Rr) Z w) (hZ : Z.on w) : Calls Tryd.prog 76 #[pt b1 0, pt b5 0, pt b9 0] w fun e w' => ∃ (ao1001 : Option Addr) (cap1002 : Nat) (ao1004 : Option Addr) (cap1005 : Nat) (ao1007 : Option Addr) (cap1008 : Nat) (Z' : Fz), e = .returned (pt b1 0) ∧ Fz.le Z Z' ∧ SlR (tyInt .u32) Z' ao1001 cap1002 (gaddIS u0 u1 u2).1.abs ∧ SlR (tyInt .u32) Z' ao1004 cap1005 (gaddIS u0 u1 u2).2.1.abs ∧ SlR (tyInt .u32) Z' ao1007 cap1008 (gaddIS u0 u1 u2).2.2.abs ∧ Mem B [] w0 Z0 ((.row b1 [.bool (gaddIS u0 u1 u2).1.neg, .slice ao1001 (gaddIS u0 u1 u2).1.abs.length cap1002] 69) :: (.row b5 [.bool (gaddIS u0 u1 u2).2.1.neg, .slice ao1004 (gaddIS u0 u1 u2).2.1.abs.length cap1005] 69) :: (.row b9 [.bool (gaddIS u0 u1 u2).2.2.neg, .slice ao1007 (gaddIS u0 u1 u2).2.2.abs.length cap1008] 69) :: Rr) Z' w' :=
  (gaddI_walk u0 u1 u2 b1 ao2 cap3 b5 ao6 cap7 b9 ao10 cap11 B w0 Z0 Rr Z w hs4 hs8 hs12 hM0 hZ (gaddI_ok u0 u1 u2 hpre)).mono fun _ _ ⟨r, h0, h1, h2, h3, h4, h5, h6, he, hk, f0, f1, f2, f3, hm⟩ => by subst hk; exact ⟨h0, h1, h2, h3, h4, h5, h6, he, f0, f1, f2, f3, hm⟩

theorem rnorm_fun (u0 : BRat) (hpre : bk u0.a ∧ bk u0.b ∧ iv u0.b ≠ 0) (b1 : Nat) (ao2 : Option Addr) (cap3 : Nat) (ao5 : Option Addr) (cap6 : Nat) (B : Nat) (w0 : World) (Z0 : Fz) (Rr : List Res) (Z : Fz) (w : World) (hs4 : SlR (tyInt .u32) Z ao2 cap3 u0.a.abs) (hs7 : SlR (tyInt .u32) Z ao5 cap6 u0.b.abs) (hM0 : Mem B [] w0 Z0 ((.row b1 [.bool u0.a.neg, .slice ao2 u0.a.abs.length cap3, .bool u0.b.neg, .slice ao5 u0.b.abs.length cap6] 71) :: Rr) Z w) (hZ : Z.on w) : Calls Tryd.prog 107 #[pt b1 0] w fun e w' => ∃ (ao1001 : Option Addr) (cap1002 : Nat) (ao1004 : Option Addr) (cap1005 : Nat) (Z' : Fz), e = .returned (pt b1 0) ∧ Fz.le Z Z' ∧ SlR (tyInt .u32) Z' ao1001 cap1002 (rnormS u0).a.abs ∧ SlR (tyInt .u32) Z' ao1004 cap1005 (rnormS u0).b.abs ∧ Mem B [] w0 Z0 ((.row b1 [.bool (rnormS u0).a.neg, .slice ao1001 (rnormS u0).a.abs.length cap1002, .bool (rnormS u0).b.neg, .slice ao1004 (rnormS u0).b.abs.length cap1005] 71) :: Rr) Z' w' :=
  (rnorm_walk u0 b1 ao2 cap3 ao5 cap6 B w0 Z0 Rr Z w hs4 hs7 hM0 hZ (rnorm_ok u0 hpre)).mono fun _ _ ⟨r, h0, h1, h2, h3, h4, he, hk, f0, f1, f2, hm⟩ => by subst hk; exact ⟨h0, h1, h2, h3, h4, he, f0, f1, f2, hm⟩

theorem rnum_fun (u0 : BRat) (b1 : Nat) (ao2 : Option Addr) (cap3 : Nat) (ao5 : Option Addr) (cap6 : Nat) (B : Nat) (w0 : World) (Z0 : Fz) (Rr : List Res) (Z : Fz) (w : World) (hs4 : SlR (tyInt .u32) Z ao2 cap3 u0.a.abs) (hs7 : SlR (tyInt .u32) Z ao5 cap6 u0.b.abs) (hM0 : Mem B [] w0 Z0 ((.row b1 [.bool u0.a.neg, .slice ao2 u0.a.abs.length cap3, .bool u0.b.neg, .slice ao5 u0.b.abs.length cap6] 71) :: Rr) Z w) (hZ : Z.on w) : Calls Tryd.prog 42 #[pt b1 0] w fun e w' => ∃ (ao1001 : Option Addr) (cap1002 : Nat) (ao1004 : Option Addr) (cap1005 : Nat) (Z' : Fz), e = .returned (pt b1 0) ∧ Fz.le Z Z' ∧ SlR (tyInt .u32) Z' ao1001 cap1002 (rnumS u0).a.abs ∧ SlR (tyInt .u32) Z' ao1004 cap1005 (rnumS u0).b.abs ∧ Mem B [] w0 Z0 ((.row b1 [.bool (rnumS u0).a.neg, .slice ao1001 (rnumS u0).a.abs.length cap1002, .bool (rnumS u0).b.neg, .slice ao1004 (rnumS u0).b.abs.length cap1005] 71) :: Rr) Z' w' :=
  (rnum_walk u0 b1 ao2 cap3 ao5 cap6 B w0 Z0 Rr Z w hs4 hs7 hM0 hZ (rnum_ok u0)).mono fun _ _ ⟨r, h0, h1, h2, h3, h4, he, hk, f0, f1, f2, hm⟩ => by subst hk; exact ⟨h0, h1, h2, h3, h4, he, f0, f1, f2, hm⟩

theorem gi64_fun (u0 : BInt) (hpre : bs u0) (b1 : Nat) (ao2 : Option Addr) (cap3 : Nat) (B : Nat) (w0 : World) (Z0 : Fz) (Rr : List Res) (Z : Fz) (w : World) (hs4 : SlR (tyInt .u32) Z ao2 cap3 u0.abs) (hM0 : Mem B [] w0 Z0 ((.row b1 [.bool u0.neg, .slice ao2 u0.abs.length cap3] 69) :: Rr) Z w) (hZ : Z.on w) : Calls Tryd.prog 43 #[pt b1 0] w fun e w' => ∃ (ao1001 : Option Addr) (cap1002 : Nat) (Z' : Fz), e = .returned (i6 (gi64S u0).1) ∧ Fz.le Z Z' ∧ SlR (tyInt .u32) Z' ao1001 cap1002 (gi64S u0).2.abs ∧ Mem B [] w0 Z0 ((.row b1 [.bool (gi64S u0).2.neg, .slice ao1001 (gi64S u0).2.abs.length cap1002] 69) :: Rr) Z' w' :=
  (gi64_walk u0 b1 ao2 cap3 B w0 Z0 Rr Z w hs4 hM0 hZ (gi64_ok u0 hpre)).mono fun _ _ ⟨r, h0, h1, h2, he, hk, f0, f1, hm⟩ => by subst hk; exact ⟨h0, h1, h2, he, f0, f1, hm⟩

theorem gi64A_fun (u0 : BRat) (hpre : bs u0.a) (b1 : Nat) (ao2 : Option Addr) (cap3 : Nat) (ao5 : Option Addr) (cap6 : Nat) (B : Nat) (w0 : World) (Z0 : Fz) (Rr : List Res) (Z : Fz) (w : World) (hs4 : SlR (tyInt .u32) Z ao2 cap3 u0.a.abs) (hs7 : SlR (tyInt .u32) Z ao5 cap6 u0.b.abs) (hM0 : Mem B [] w0 Z0 ((.row b1 [.bool u0.a.neg, .slice ao2 u0.a.abs.length cap3, .bool u0.b.neg, .slice ao5 u0.b.abs.length cap6] 71) :: Rr) Z w) (hZ : Z.on w) : Calls Tryd.prog 43 #[pt b1 0] w fun e w' => ∃ (ao1001 : Option Addr) (cap1002 : Nat) (ao1004 : Option Addr) (cap1005 : Nat) (Z' : Fz), e = .returned (i6 (gi64AS u0).1) ∧ Fz.le Z Z' ∧ SlR (tyInt .u32) Z' ao1001 cap1002 (gi64AS u0).2.a.abs ∧ SlR (tyInt .u32) Z' ao1004 cap1005 (gi64AS u0).2.b.abs ∧ Mem B [] w0 Z0 ((.row b1 [.bool (gi64AS u0).2.a.neg, .slice ao1001 (gi64AS u0).2.a.abs.length cap1002, .bool (gi64AS u0).2.b.neg, .slice ao1004 (gi64AS u0).2.b.abs.length cap1005] 71) :: Rr) Z' w' :=
  (gi64A_walk u0 b1 ao2 cap3 ao5 cap6 B w0 Z0 Rr Z w hs4 hs7 hM0 hZ (gi64A_ok u0 hpre)).mono fun _ _ ⟨r, h0, h1, h2, h3, h4, he, hk, f0, f1, f2, hm⟩ => by subst hk; exact ⟨h0, h1, h2, h3, h4, he, f0, f1, f2, hm⟩

theorem rsf_walk (u0 : BRat) (u1 : BInt) (u2 : BInt) (b1 : Nat) (ao2 : Option Addr) (cap3 : Nat) (ao5 : Option Addr) (cap6 : Nat) (b8 : Nat) (ao9 : Option Addr) (cap10 : Nat) (b12 : Nat) (ao13 : Option Addr) (cap14 : Nat) (B : Nat) (w0 : World) (Z0 : Fz) (Rr : List Res) (Z : Fz) (w : World) (hs4 : SlR (tyInt .u32) Z ao2 cap3 u0.a.abs) (hs7 : SlR (tyInt .u32) Z ao5 cap6 u0.b.abs) (hs11 : SlR (tyInt .u32) Z ao9 cap10 u1.abs) (hs15 : SlR (tyInt .u32) Z ao13 cap14 u2.abs) (hM0 : Mem B [] w0 Z0 ((.row b1 [.bool u0.a.neg, .slice ao2 u0.a.abs.length cap3, .bool u0.b.neg, .slice ao5 u0.b.abs.length cap6] 71) :: (.row b8 [.bool u1.neg, .slice ao9 u1.abs.length cap10] 69) :: (.row b12 [.bool u2.neg, .slice ao13 u2.abs.length cap14] 69) :: Rr) Z w) (hZ : Z.on w) {K : (BRat × BInt × BInt) → Prop} (hp : rsf_vc u0 u1 u2 K) : Calls Tryd.prog 75 #[pt b1 0, pt b8 0, pt b12 0] w fun e w' => ∃ (r : BRat × BInt × BInt) (ao1001 : Option Addr) (cap1002 : Nat) (ao1004 : Option Addr) (cap1005 : Nat) (ao1007 : Option Addr) (cap1008 : Nat) (ao1010 : Option Addr) (cap1011 : Nat) (Z' : Fz), e = .returned (pt b1 0) ∧ K r ∧ Fz.le Z Z' ∧ SlR (tyInt .u32) Z' ao1001 cap1002 r.1.a.abs ∧ SlR (tyInt .u32) Z' ao1004 cap1005 r.1.b.abs ∧ SlR (tyInt .u32) Z' ao1007 cap1008 r.2.1.abs ∧ SlR (tyInt .u32) Z' ao1010 cap1011 r.2.2.abs ∧ Mem B [] w0 Z0 ((.row b1 [.bool r.1.a.neg, .slice ao1001 r.1.a.abs.length cap1002, .bool r.1.b.neg, .slice ao1004 r.1.b.abs.length cap1005] 71) :: (.row b8 [.bool r.2.1.neg, .slice ao1007 r.2.1.abs.length cap1008] 69) :: (.row b12 [.bool r.2.2.neg, .slice ao1010 r.2.2.abs.length cap1011] 69) :: Rr) Z' w' := by
 refine enter0 Tryd.func75 rfl rfl (by kernel_rfl) ?_; intro a0 X; have f := Fz.le.refl Z
 have Y := hp (hs4.small); clear hp
 have aa := Y (hs7.small); clear Y
 have ab := aa (hs11.small); clear aa
 have be := ab (hs15.small); clear ab
 refine sqB X hM0 [] [] [] ?_; intro bP ac; clear X
 refine wp_seq ?_
 refine sqB ac hM0 [2] [] [(14, .bool ((u2.abs.length : Int) == 0))] ?_; intro bQ C; clear ac
 obtain ⟨bf, bg⟩ := be
 refine cn C bf ?_
 refine wp_skip ?_
 refine thn ?_
 refine sqH ?_; intro bh ad
 refine nw C hM0 pb [.bool false, .slice none 0 0] 69 ?_; intro c bR bS ae D; clear C hM0
 refine s1 ae 20 (pt b8 0) ?_; intro bT af; clear ae
 refine ck af 80 #[pt c 0, pt b8 0] ?_
 refine enter0 Tryd.func80 rfl rfl (by kernel_rfl) ?_; intro bi ag
 have ah : Fr 16 [] [⟨0, [], pt c 0⟩, ⟨1, [], pt b8 0⟩] bi := ag.region (by kernel_rfl) (by kernel_rfl); clear ag
 refine sqB ah D [] [] [] ?_; intro bj ai; clear ah
 have aj : Fr 16 [] [⟨0, [], pt c 0⟩, ⟨1, [], pt b8 0⟩] bj := ai.region (by kernel_rfl) (by kernel_rfl); clear ai
 refine wp_seq (rgS mixed D [(0, true), (1, true), (2, true), (3, true), (4, true), (5, true), (6, true), (7, true), (8, true), (9, false), (10, false), (11, true)] [] [2] [.row b8 [.bool u1.neg, .slice ao9 u1.abs.length cap10] 69] ?_)
 intro bk ak bU E; clear D
 have o := Fz.le.refl Z
 refine cS aj 9 [0, 0] [] [(5, pt c 0), (9, .bool u1.neg), (13, .slice ao9 u1.abs.length cap10)] ?_; intro bV al; clear aj
 refine eS rfl ?_; intro bl am
 obtain ⟨bm, bn⟩ := bg
 refine ck al 88 #[.slice ao9 u1.abs.length cap10] ?_
 refine (gtwin_fun u1.abs bm ao9 cap10 _ _ hs11 E.fz).mono ?_; rintro _ an ⟨F, G, bo, rfl, hm⟩; refine ⟨_, rfl, ?_⟩; intro bW ao; have ap := E.callZ hm; have u := hm.ext.le; clear hm E al
 replace hs4 := hs4.mono u
 replace hs7 := hs7.mono u
 replace hs11 := hs11.mono u
 replace hs15 := hs15.mono u
 replace o := o.mono u
 replace f := Fz.le.trans f u
 have aq : Mem B [] w0 Z0 ((.own (tyInt .u32) 109 F G (gtwinS u1.abs)) :: (.row c [.bool false, .slice none 0 0] 69) :: (.row b1 (e71Ne u0 ao2 cap3 ao5 cap6) 71) :: (.row b8 [.bool u1.neg, .slice ao9 u1.abs.length cap10] 69) :: (.row b12 [.bool u2.neg, .slice ao13 u2.abs.length cap14] 69) :: Rr) bo an := ap; clear ap
 refine nl (qnI (am _ _ (aq.cst o [3]) ?_)); clear am bl
 refine eS rfl ?_; intro bp ar
 obtain ⟨bq, v, au, i⟩ := aq.freeze 0 rfl
 replace hs4 := hs4.mono v
 replace hs7 := hs7.mono v
 replace hs11 := hs11.mono v
 replace hs15 := hs15.mono v
 replace o := o.mono v
 replace f := Fz.le.trans f v
 have H : Mem B [] w0 Z0 ((.row c [.bool false, .slice none 0 0] 69) :: (.row b1 (e71Ne u0 ao2 cap3 ao5 cap6) 71) :: (.row b8 [.bool u1.neg, .slice ao9 u1.abs.length cap10] 69) :: (.row b12 [.bool u2.neg, .slice ao13 u2.abs.length cap14] 69) :: Rr) bq an := au; clear au
 refine ck ao 83 #[pt c 0, .bool u1.neg, .slice F (gtwinS u1.abs).length G] ?_
 refine (ggive_fun (⟨false, []⟩ : BInt) u1.neg (gtwinS u1.abs) c none 0 F G _ _ _ _ _ _ (SlR.nil _ _) i H H.fz).mono ?_; rintro _ br ⟨g, h, I, rfl, t, j, hm⟩; refine ⟨_, rfl, ?_⟩; intro bX av; have aw := hm; clear hm H ao
 replace hs4 := hs4.mono t
 replace hs7 := hs7.mono t
 replace hs11 := hs11.mono t
 replace hs15 := hs15.mono t
 replace o := o.mono t
 replace i := i.mono t
 replace f := Fz.le.trans f t
 have J : Mem B [] w0 Z0 ((.row c [.bool (ggive (⟨false, []⟩ : BInt) u1.neg (gtwinS u1.abs)).neg, .slice g (ggive (⟨false, []⟩ : BInt) u1.neg (gtwinS u1.abs)).abs.length h] 69) :: (.row b1 (e71Ne u0 ao2 cap3 ao5 cap6) 71) :: (.row b8 [.bool u1.neg, .slice ao9 u1.abs.length cap10] 69) :: (.row b12 [.bool u2.neg, .slice ao13 u2.abs.length cap14] 69) :: Rr) I br := aw; clear aw
 refine nl (qnI (ar _ _ (J.cst o [2]) ?_)); clear ar bp
 refine cS av 1 [] [] [(4, pt c 0)] ?_; intro bY ax; clear av
 refine nS (ak _ _ ?_); clear ak bk
 refine thn ?_
 refine wp_ret ?_
 refine ra1 ax (pt c 0) ?_
 refine ⟨_, rfl, ?_⟩; intro bZ ay; clear af ax
 refine nw ay J pb [.bool false, .slice none 0 0] 69 ?_; intro d b0 bs az aA; clear ay J
 refine s1 az 23 (pt b12 0) ?_; intro b2 aB; clear az
 have L : Mem B [] w0 Z0 ((.row d [.bool false, .slice none 0 0] 69) :: (.row c [.bool (ggive (⟨false, []⟩ : BInt) u1.neg (gtwinS u1.abs)).neg, .slice g (ggive (⟨false, []⟩ : BInt) u1.neg (gtwinS u1.abs)).abs.length h] 69) :: (.row b1 (e71Ne u0 ao2 cap3 ao5 cap6) 71) :: (.row b8 [.bool u1.neg, .slice ao9 u1.abs.length cap10] 69) :: (.row b12 [.bool u2.neg, .slice ao13 u2.abs.length cap14] 69) :: Rr) I bs := aA; clear aA
 refine ck aB 80 #[pt d 0, pt b12 0] ?_
 refine enter0 Tryd.func80 rfl rfl (by kernel_rfl) ?_; intro bu aC
 have aD : Fr 16 [] [⟨0, [], pt d 0⟩, ⟨1, [], pt b12 0⟩] bu := aC.region (by kernel_rfl) (by kernel_rfl); clear aC
 refine sqB aD L [] [] [] ?_; intro bv aE; clear aD
 have aF : Fr 16 [] [⟨0, [], pt d 0⟩, ⟨1, [], pt b12 0⟩] bv := aE.region (by kernel_rfl) (by kernel_rfl); clear aE
 refine wp_seq (rgS mixed L [(0, true), (1, true), (2, true), (3, true), (4, true), (5, true), (6, true), (7, true), (8, true), (9, false), (10, false), (11, true)] [] [4] [.row b12 [.bool u2.neg, .slice ao13 u2.abs.length cap14] 69] ?_)
 intro bw aG b3 M; clear L
 have p := Fz.le.refl I
 refine cS aF 9 [0, 0] [] [(5, pt d 0), (9, .bool u2.neg), (13, .slice ao13 u2.abs.length cap14)] ?_; intro b4 aH; clear aF
 refine eS rfl ?_; intro bx aI
 obtain ⟨bz, bA⟩ := bn
 refine ck aH 88 #[.slice ao13 u2.abs.length cap14] ?_
 refine (gtwin_fun u2.abs bz ao13 cap14 _ _ hs15 M.fz).mono ?_; rintro _ aJ ⟨N, O, bB, rfl, hm⟩; refine ⟨_, rfl, ?_⟩; intro b5 aK; have aL := M.callZ hm; have q := hm.ext.le; clear hm M aH
 replace hs4 := hs4.mono q
 replace hs7 := hs7.mono q
 replace hs11 := hs11.mono q
 replace hs15 := hs15.mono q
 replace i := i.mono q
 replace j := j.mono q
 replace p := p.mono q
 replace f := Fz.le.trans f q
 have aM : Mem B [] w0 Z0 ((.own (tyInt .u32) 109 N O (gtwinS u2.abs)) :: (.row d [.bool false, .slice none 0 0] 69) :: (.row c [.bool (ggive (⟨false, []⟩ : BInt) u1.neg (gtwinS u1.abs)).neg, .slice g (ggive (⟨false, []⟩ : BInt) u1.neg (gtwinS u1.abs)).abs.length h] 69) :: (.row b1 (e71Ne u0 ao2 cap3 ao5 cap6) 71) :: (.row b8 [.bool u1.neg, .slice ao9 u1.abs.length cap10] 69) :: (.row b12 [.bool u2.neg, .slice ao13 u2.abs.length cap14] 69) :: Rr) bB aJ := aL; clear aL
 refine nl (qnI (aI _ _ (aM.cst p [5]) ?_)); clear aI bx
 refine eS rfl ?_; intro bC aN
 obtain ⟨bD, s, aO, x⟩ := aM.freeze 0 rfl
 replace hs4 := hs4.mono s
 replace hs7 := hs7.mono s
 replace hs11 := hs11.mono s
 replace hs15 := hs15.mono s
 replace i := i.mono s
 replace j := j.mono s
 replace p := p.mono s
 replace f := Fz.le.trans f s
 have P : Mem B [] w0 Z0 ((.row d [.bool false, .slice none 0 0] 69) :: (.row c [.bool (ggive (⟨false, []⟩ : BInt) u1.neg (gtwinS u1.abs)).neg, .slice g (ggive (⟨false, []⟩ : BInt) u1.neg (gtwinS u1.abs)).abs.length h] 69) :: (.row b1 (e71Ne u0 ao2 cap3 ao5 cap6) 71) :: (.row b8 [.bool u1.neg, .slice ao9 u1.abs.length cap10] 69) :: (.row b12 [.bool u2.neg, .slice ao13 u2.abs.length cap14] 69) :: Rr) bD aJ := aO; clear aO
 refine ck aK 83 #[pt d 0, .bool u2.neg, .slice N (gtwinS u2.abs).length O] ?_
 refine (ggive_fun (⟨false, []⟩ : BInt) u2.neg (gtwinS u2.abs) d none 0 N O _ _ _ _ _ _ (SlR.nil _ _) x P P.fz).mono ?_; rintro _ aP ⟨k, l, z, rfl, m, Q, hm⟩; refine ⟨_, rfl, ?_⟩; intro b6 aQ; have aR := hm; clear hm P aK
 replace hs4 := hs4.mono m
 replace hs7 := hs7.mono m
 replace hs11 := hs11.mono m
 replace hs15 := hs15.mono m
 replace i := i.mono m
 replace j := j.mono m
 replace p := p.mono m
 replace x := x.mono m
 replace f := Fz.le.trans f m
 have A : Mem B [] w0 Z0 ((.row d [.bool (ggive (⟨false, []⟩ : BInt) u2.neg (gtwinS u2.abs)).neg, .slice k (ggive (⟨false, []⟩ : BInt) u2.neg (gtwinS u2.abs)).abs.length l] 69) :: (.row c [.bool (ggive (⟨false, []⟩ : BInt) u1.neg (gtwinS u1.abs)).neg, .slice g (ggive (⟨false, []⟩ : BInt) u1.neg (gtwinS u1.abs)).abs.length h] 69) :: (.row b1 (e71Ne u0 ao2 cap3 ao5 cap6) 71) :: (.row b8 [.bool u1.neg, .slice ao9 u1.abs.length cap10] 69) :: (.row b12 [.bool u2.neg, .slice ao13 u2.abs.length cap14] 69) :: Rr) z aP := aR; clear aR
 refine nl (qnI (aN _ _ (A.cst p [4]) ?_)); clear aN bC
 refine cS aQ 1 [] [] [(4, pt d 0)] ?_; intro b7 aS; clear aQ
 refine nS (aG _ _ ?_); clear aG bw
 refine thn ?_
 refine wp_ret ?_
 refine ra1 aS (pt d 0) ?_
 refine ⟨_, rfl, ?_⟩; intro b9 aT; clear aB aS
 refine bt aT A 2 [] [] [(7, pt c 0), (8, pt d 0)] ?_; intro ca aU; clear aT
 have R : Mem B [] w0 Z0 ((.row d [.bool (ggive (⟨false, []⟩ : BInt) u2.neg (gtwinS u2.abs)).neg, .slice k (ggive (⟨false, []⟩ : BInt) u2.neg (gtwinS u2.abs)).abs.length l] 69) :: (.row c [.bool (ggive (⟨false, []⟩ : BInt) u1.neg (gtwinS u1.abs)).neg, .slice g (ggive (⟨false, []⟩ : BInt) u1.neg (gtwinS u1.abs)).abs.length h] 69) :: (.row b1 (e71Ne u0 ao2 cap3 ao5 cap6) 71) :: (.row b8 [.bool u1.neg, .slice ao9 u1.abs.length cap10] 69) :: (.row b12 [.bool u2.neg, .slice ao13 u2.abs.length cap14] 69) :: Rr) z aP := A; clear A
 refine nlH (ad _ _ ?_); clear ad bh
 refine sqH ?_; intro bE aV
 refine bt aU R 6 [1] [] [(28, .agg #[.bool (ggive (⟨false, []⟩ : BInt) u1.neg (gtwinS u1.abs)).neg, .slice g (ggive (⟨false, []⟩ : BInt) u1.neg (gtwinS u1.abs)).abs.length h]), (30, pt b1 0)] ?_; intro cb S; clear aU
 refine sx S R 2 [.bool (ggive (⟨false, []⟩ : BInt) u1.neg (gtwinS u1.abs)).neg, .slice g (ggive (⟨false, []⟩ : BInt) u1.neg (gtwinS u1.abs)).abs.length h, .bool u0.b.neg, .slice ao5 u0.b.abs.length cap6] 0 ?_; intro bF aW; clear R
 have T : Mem B [] w0 Z0 ((.row d [.bool (ggive (⟨false, []⟩ : BInt) u2.neg (gtwinS u2.abs)).neg, .slice k (ggive (⟨false, []⟩ : BInt) u2.neg (gtwinS u2.abs)).abs.length l] 69) :: (.row c [.bool (ggive (⟨false, []⟩ : BInt) u1.neg (gtwinS u1.abs)).neg, .slice g (ggive (⟨false, []⟩ : BInt) u1.neg (gtwinS u1.abs)).abs.length h] 69) :: (.row b1 [.bool (ggive (⟨false, []⟩ : BInt) u1.neg (gtwinS u1.abs)).neg, .slice g (ggive (⟨false, []⟩ : BInt) u1.neg (gtwinS u1.abs)).abs.length h, .bool u0.b.neg, .slice ao5 u0.b.abs.length cap6] 71) :: (.row b8 [.bool u1.neg, .slice ao9 u1.abs.length cap10] 69) :: (.row b12 [.bool u2.neg, .slice ao13 u2.abs.length cap14] 69) :: Rr) z bF := aW; clear aW
 refine nlH (aV _ _ ?_); clear aV bE
 refine sqH ?_; intro bG aX
 refine bt S T 6 [0] [] [(34, .agg #[.bool (ggive (⟨false, []⟩ : BInt) u2.neg (gtwinS u2.abs)).neg, .slice k (ggive (⟨false, []⟩ : BInt) u2.neg (gtwinS u2.abs)).abs.length l]), (36, pt b1 2)] ?_; intro cc U; clear S
 refine sx U T 2 [.bool (ggive (⟨false, []⟩ : BInt) u1.neg (gtwinS u1.abs)).neg, .slice g (ggive (⟨false, []⟩ : BInt) u1.neg (gtwinS u1.abs)).abs.length h, .bool (ggive (⟨false, []⟩ : BInt) u2.neg (gtwinS u2.abs)).neg, .slice k (ggive (⟨false, []⟩ : BInt) u2.neg (gtwinS u2.abs)).abs.length l] 2 ?_; intro bH aY; clear T
 have V : Mem B [] w0 Z0 ((.row d [.bool (ggive (⟨false, []⟩ : BInt) u2.neg (gtwinS u2.abs)).neg, .slice k (ggive (⟨false, []⟩ : BInt) u2.neg (gtwinS u2.abs)).abs.length l] 69) :: (.row c [.bool (ggive (⟨false, []⟩ : BInt) u1.neg (gtwinS u1.abs)).neg, .slice g (ggive (⟨false, []⟩ : BInt) u1.neg (gtwinS u1.abs)).abs.length h] 69) :: (.row b1 [.bool (ggive (⟨false, []⟩ : BInt) u1.neg (gtwinS u1.abs)).neg, .slice g (ggive (⟨false, []⟩ : BInt) u1.neg (gtwinS u1.abs)).abs.length h, .bool (ggive (⟨false, []⟩ : BInt) u2.neg (gtwinS u2.abs)).neg, .slice k (ggive (⟨false, []⟩ : BInt) u2.neg (gtwinS u2.abs)).abs.length l] 71) :: (.row b8 [.bool u1.neg, .slice ao9 u1.abs.length cap10] 69) :: (.row b12 [.bool u2.neg, .slice ao13 u2.abs.length cap14] 69) :: Rr) z bH := aY; clear aY
 refine nlH (aX _ _ ?_); clear aX bG
 refine sqH ?_; intro bI aZ
 refine s1 U 37 (pt b1 0) ?_; intro cd a1; clear U
 obtain ⟨bJ, a2⟩ := bA
 refine ck a1 107 #[pt b1 0] ?_
 obtain ⟨y, bK, a3⟩ := hxq a2; clear a2
 have W := rnorm_fun (⟨(ggive (⟨false, []⟩ : BInt) u1.neg (gtwinS u1.abs)), (ggive (⟨false, []⟩ : BInt) u2.neg (gtwinS u2.abs))⟩ : BRat) bJ b1 g h k l _ _ _ _ _ _ j Q (V.perm (pk 2 rfl)) V.fz; rw [bK] at W; refine W.mono ?_; clear W; rintro _ bL ⟨a4, a5, a6, a7, a8, rfl, n, a9, ba, hm⟩; refine ⟨_, rfl, ?_⟩; intro ce bb; have bc := hm; clear hm V a1
 replace hs4 := hs4.mono n
 replace hs7 := hs7.mono n
 replace hs11 := hs11.mono n
 replace hs15 := hs15.mono n
 replace i := i.mono n
 replace j := j.mono n
 replace x := x.mono n
 replace Q := Q.mono n
 replace f := Fz.le.trans f n
 have bM : Mem B [] w0 Z0 ((.row b1 (e71Ne y a4 a5 a6 a7) 71) :: (.row d [.bool (ggive (⟨false, []⟩ : BInt) u2.neg (gtwinS u2.abs)).neg, .slice k (ggive (⟨false, []⟩ : BInt) u2.neg (gtwinS u2.abs)).abs.length l] 69) :: (.row c [.bool (ggive (⟨false, []⟩ : BInt) u1.neg (gtwinS u1.abs)).neg, .slice g (ggive (⟨false, []⟩ : BInt) u1.neg (gtwinS u1.abs)).abs.length h] 69) :: (.row b8 [.bool u1.neg, .slice ao9 u1.abs.length cap10] 69) :: (.row b12 [.bool u2.neg, .slice ao13 u2.abs.length cap14] 69) :: Rr) a8 bL := bc; clear bc
 have bd := a3 (a9.small); clear a3
 have bN := bd (ba.small); clear bd
 refine s1 bb 6 (pt b1 0) ?_; intro cf bO; clear bb
 refine nlH (aZ _ _ ?_); clear aZ bI
 refine wp_ret ?_
 refine ra1 bO (pt b1 0) ?_
 exact ⟨(y, u1, u2), a4, a5, a6, a7, ao9, cap10, ao13, cap14, a8, rfl, bN, f, a9, ba, hs11, hs15, bM.keep (List.Sublist.cons_cons _ (List.Sublist.cons _ (List.Sublist.cons _ (List.Sublist.cons_cons _ (List.Sublist.cons_cons _ (List.Sublist.refl _))))))⟩

end Go.Proofs.YtdndfbamhnchfaaDoor
set_option linter.unusedVariables false
set_option linter.unusedSimpArgs false
set_option maxRecDepth 100000
set_option maxHeartbeats 0
namespace Go.Proofs.YtdndfbamhnchfaaDoor
open Go.Sy Go.RowKit
abbrev e71Nf (X : BRat) (A0 : Option Addr) (C0 : Nat) (A1 : Option Addr) (C1 : Nat) : List Value := [.bool X.a.neg, .slice A0 X.a.abs.length C0, .bool X.b.neg, .slice A1 X.b.abs.length C1]
theorem rsf_fun (u0 : BRat) (u1 : BInt) (u2 : BInt) (hpre : bk u1 ∧ bk u2 ∧ iv u2 ≠ 0) (b1 : Nat) (ao2 : Option Addr) (cap3 : Nat) (ao5 : Option Addr) (cap6 : Nat) (b8 : Nat) (ao9 : Option Addr) (cap10 : Nat) (b12 : Nat) (ao13 : Option Addr) (cap14 : Nat) (B : Nat) (w0 : World) (Z0 : Fz) (Rr : List Res) (Z : Fz) (w : World) (hs4 : SlR (tyInt .u32) Z ao2 cap3 u0.a.abs) (hs7 : SlR (tyInt .u32) Z ao5 cap6 u0.b.abs) (hs11 : SlR (tyInt .u32) Z ao9 cap10 u1.abs) (hs15 : SlR (tyInt .u32) Z ao13 cap14 u2.abs) (hM0 : Mem B [] w0 Z0 ((.row b1 [.bool u0.a.neg, .slice ao2 u0.a.abs.length cap3, .bool u0.b.neg, .slice ao5 u0.b.abs.length cap6] 71) :: (.row b8 [.bool u1.neg, .slice ao9 u1.abs.length cap10] 69) :: (.row b12 [.bool u2.neg, .slice ao13 u2.abs.length cap14] 69) :: Rr) Z w) (hZ : Z.on w) : Calls Tryd.prog 75 #[pt b1 0, pt b8 0, pt b12 0] w fun e w' => ∃ (ao1001 : Option Addr) (cap1002 : Nat) (ao1004 : Option Addr) (cap1005 : Nat) (ao1007 : Option Addr) (cap1008 : Nat) (ao1010 : Option Addr) (cap1011 : Nat) (Z' : Fz), e = .returned (pt b1 0) ∧ Fz.le Z Z' ∧ SlR (tyInt .u32) Z' ao1001 cap1002 (rsfS u0 u1 u2).1.a.abs ∧ SlR (tyInt .u32) Z' ao1004 cap1005 (rsfS u0 u1 u2).1.b.abs ∧ SlR (tyInt .u32) Z' ao1007 cap1008 (rsfS u0 u1 u2).2.1.abs ∧ SlR (tyInt .u32) Z' ao1010 cap1011 (rsfS u0 u1 u2).2.2.abs ∧ Mem B [] w0 Z0 ((.row b1 [.bool (rsfS u0 u1 u2).1.a.neg, .slice ao1001 (rsfS u0 u1 u2).1.a.abs.length cap1002, .bool (rsfS u0 u1 u2).1.b.neg, .slice ao1004 (rsfS u0 u1 u2).1.b.abs.length cap1005] 71) :: (.row b8 [.bool (rsfS u0 u1 u2).2.1.neg, .slice ao1007 (rsfS u0 u1 u2).2.1.abs.length cap1008] 69) :: (.row b12 [.bool (rsfS u0 u1 u2).2.2.neg, .slice ao1010 (rsfS u0 u1 u2).2.2.abs.length cap1011] 69) :: Rr) Z' w' :=
  (rsf_walk u0 u1 u2 b1 ao2 cap3 ao5 cap6 b8 ao9 cap10 b12 ao13 cap14 B w0 Z0 Rr Z w hs4 hs7 hs11 hs15 hM0 hZ (rsf_ok u0 u1 u2 hpre)).mono fun _ _ ⟨r, h0, h1, h2, h3, h4, h5, h6, h7, h8, he, hk, f0, f1, f2, f3, f4, hm⟩ => by subst hk; exact ⟨h0, h1, h2, h3, h4, h5, h6, h7, h8, he, f0, f1, f2, f3, f4, hm⟩

theorem rsf64_walk (u0 : BRat) (u1 : Int) (u2 : Int) (b1 : Nat) (ao2 : Option Addr) (cap3 : Nat) (ao5 : Option Addr) (cap6 : Nat) (B : Nat) (w0 : World) (Z0 : Fz) (Rr : List Res) (Z : Fz) (w : World) (hs4 : SlR (tyInt .u32) Z ao2 cap3 u0.a.abs) (hs7 : SlR (tyInt .u32) Z ao5 cap6 u0.b.abs) (hM0 : Mem B [] w0 Z0 ((.row b1 [.bool u0.a.neg, .slice ao2 u0.a.abs.length cap3, .bool u0.b.neg, .slice ao5 u0.b.abs.length cap6] 71) :: Rr) Z w) (hZ : Z.on w) {K : BRat → Prop} (hp : rsf64_vc u0 u1 u2 K) : Calls Tryd.prog 39 #[pt b1 0, i6 u1, i6 u2] w fun e w' => ∃ (r : BRat) (ao1001 : Option Addr) (cap1002 : Nat) (ao1004 : Option Addr) (cap1005 : Nat) (Z' : Fz), e = .returned (pt b1 0) ∧ K r ∧ Fz.le Z Z' ∧ SlR (tyInt .u32) Z' ao1001 cap1002 r.a.abs ∧ SlR (tyInt .u32) Z' ao1004 cap1005 r.b.abs ∧ Mem B [] w0 Z0 ((.row b1 [.bool r.a.neg, .slice ao1001 r.a.abs.length cap1002, .bool r.b.neg, .slice ao1004 r.b.abs.length cap1005] 71) :: Rr) Z' w' := by
 refine enter0 Tryd.func39 rfl rfl (by kernel_rfl) ?_; intro a0 s; have d := Fz.le.refl Z
 have t := hp (hs4.small); clear hp
 have V := t (hs7.small); clear t
 refine sqB s hM0 [] [] [] ?_; intro au u; clear s
 refine sqH ?_; intro W v
 refine bt u hM0 2 [] [] [(7, pt b1 0), (8, i6 u1)] ?_; intro av x; clear u
 obtain ⟨X, Y⟩ := V
 refine ck x 52 #[i6 u1] ?_
 refine (gnew_fun u1 X _ _ hM0.fz).mono ?_; rintro _ aa ⟨f, k, l, ab, rfl, g, hm⟩; refine ⟨_, rfl, ?_⟩; intro aw y; have z := hM0.callZ hm; have m := hm.ext.le; clear hm hM0 x
 replace hs4 := hs4.mono m
 replace hs7 := hs7.mono m
 replace d := Fz.le.trans d m
 have n : Mem B [] w0 Z0 ((.row f [.bool (bz u1).neg, .slice k (bz u1).abs.length l] 69) :: (.row b1 (e71Nf u0 ao2 cap3 ao5 cap6) 71) :: Rr) ab aa := z; clear z
 refine s1 y 10 (i6 u2) ?_; intro ax A; clear y
 obtain ⟨ac, ad⟩ := Y
 refine ck A 52 #[i6 u2] ?_
 refine (gnew_fun u2 ac _ _ n.fz).mono ?_; rintro _ ae ⟨i, C, D, af, rfl, o, hm⟩; refine ⟨_, rfl, ?_⟩; intro ay E; have F := n.callZ hm; have j := hm.ext.le; clear hm n A
 replace hs4 := hs4.mono j
 replace hs7 := hs7.mono j
 replace g := g.mono j
 replace d := Fz.le.trans d j
 have p : Mem B [] w0 Z0 ((.row i [.bool (bz u2).neg, .slice C (bz u2).abs.length D] 69) :: (.row f [.bool (bz u1).neg, .slice k (bz u1).abs.length l] 69) :: (.row b1 (e71Nf u0 ao2 cap3 ao5 cap6) 71) :: Rr) af ae := F; clear F
 obtain ⟨ag, G⟩ := ad
 refine ck E 75 #[pt b1 0, pt f 0, pt i 0] ?_
 obtain ⟨c, ah, H⟩ := hxq G; clear G
 have q := rsf_fun u0 (bz u1) (bz u2) ag b1 ao2 cap3 ao5 cap6 f k l i C D _ _ _ _ _ _ hs4 hs7 g o (p.perm ((pk 2 rfl).trans (((pk 1 rfl).trans (lpr.cons _)).cons _))) p.fz; rw [ah] at q; refine q.mono ?_; clear q; rintro _ ai ⟨I, J, L, M, aj, ak, al, am, N, rfl, h, O, P, an, ao, hm⟩; refine ⟨_, rfl, ?_⟩; intro az Q; have R := hm; clear hm p E
 replace hs4 := hs4.mono h
 replace hs7 := hs7.mono h
 replace g := g.mono h
 replace o := o.mono h
 replace d := Fz.le.trans d h
 have ap : Mem B [] w0 Z0 ((.row b1 (e71Nf c.1 I J L M) 71) :: (.row f [.bool c.2.1.neg, .slice aj c.2.1.abs.length ak] 69) :: (.row i [.bool c.2.2.neg, .slice al c.2.2.abs.length am] 69) :: Rr) N ai := R; clear R
 have S := H (O.small); clear H
 have T := S (P.small); clear S
 have U := T (an.small); clear T
 have aq := U (ao.small); clear U
 refine s1 Q 6 (pt b1 0) ?_; intro aA ar; clear Q
 refine nlH (v _ _ ?_); clear v W
 refine wp_ret ?_
 refine ra1 ar (pt b1 0) ?_
 exact ⟨c.1, I, J, L, M, N, rfl, aq, d, O, P, ap.keep (List.Sublist.cons_cons _ (List.Sublist.cons _ (List.Sublist.cons _ (List.Sublist.refl _))))⟩

theorem rsi_walk (u0 : BRat) (u1 : Int) (b1 : Nat) (ao2 : Option Addr) (cap3 : Nat) (ao5 : Option Addr) (cap6 : Nat) (B : Nat) (w0 : World) (Z0 : Fz) (Rr : List Res) (Z : Fz) (w : World) (hs4 : SlR (tyInt .u32) Z ao2 cap3 u0.a.abs) (hs7 : SlR (tyInt .u32) Z ao5 cap6 u0.b.abs) (hM0 : Mem B [] w0 Z0 ((.row b1 [.bool u0.a.neg, .slice ao2 u0.a.abs.length cap3, .bool u0.b.neg, .slice ao5 u0.b.abs.length cap6] 71) :: Rr) Z w) (hZ : Z.on w) {K : BRat → Prop} (hp : rsi_vc u0 u1 K) : Calls Tryd.prog 41 #[pt b1 0, i6 u1] w fun e w' => ∃ (r : BRat) (ao1001 : Option Addr) (cap1002 : Nat) (ao1004 : Option Addr) (cap1005 : Nat) (Z' : Fz), e = .returned (pt b1 0) ∧ K r ∧ Fz.le Z Z' ∧ SlR (tyInt .u32) Z' ao1001 cap1002 r.a.abs ∧ SlR (tyInt .u32) Z' ao1004 cap1005 r.b.abs ∧ Mem B [] w0 Z0 ((.row b1 [.bool r.a.neg, .slice ao1001 r.a.abs.length cap1002, .bool r.b.neg, .slice ao1004 r.b.abs.length cap1005] 71) :: Rr) Z' w' := by
 refine enter0 Tryd.func41 rfl rfl (by kernel_rfl) ?_; intro a0 s; have d := Fz.le.refl Z
 have t := hp (hs4.small); clear hp
 have U := t (hs7.small); clear t
 refine sqB s hM0 [] [] [] ?_; intro ar u; clear s
 refine sqH ?_; intro V v
 refine bt u hM0 2 [] [] [(5, pt b1 0), (6, i6 u1)] ?_; intro au x; clear u
 obtain ⟨W, X⟩ := U
 refine ck x 52 #[i6 u1] ?_
 refine (gnew_fun u1 W _ _ hM0.fz).mono ?_; rintro _ Y ⟨f, k, l, aa, rfl, g, hm⟩; refine ⟨_, rfl, ?_⟩; intro av y; have z := hM0.callZ hm; have m := hm.ext.le; clear hm hM0 x
 replace hs4 := hs4.mono m
 replace hs7 := hs7.mono m
 replace d := Fz.le.trans d m
 have n : Mem B [] w0 Z0 ((.row f [.bool (bz u1).neg, .slice k (bz u1).abs.length l] 69) :: (.row b1 (e71Nf u0 ao2 cap3 ao5 cap6) 71) :: Rr) aa Y := z; clear z
 obtain ⟨ab, ac⟩ := X
 refine ck y 52 #[i6 1] ?_
 refine (gnew_fun 1 ab _ _ n.fz).mono ?_; rintro _ ad ⟨i, A, C, ae, rfl, o, hm⟩; refine ⟨_, rfl, ?_⟩; intro aw D; have E := n.callZ hm; have j := hm.ext.le; clear hm n y
 replace hs4 := hs4.mono j
 replace hs7 := hs7.mono j
 replace g := g.mono j
 replace d := Fz.le.trans d j
 have p : Mem B [] w0 Z0 ((.row i [.bool (bz 1).neg, .slice A (bz 1).abs.length C] 69) :: (.row f [.bool (bz u1).neg, .slice k (bz u1).abs.length l] 69) :: (.row b1 (e71Nf u0 ao2 cap3 ao5 cap6) 71) :: Rr) ae ad := E; clear E
 obtain ⟨af, F⟩ := ac
 refine ck D 75 #[pt b1 0, pt f 0, pt i 0] ?_
 obtain ⟨c, ag, G⟩ := hxq F; clear F
 have q := rsf_fun u0 (bz u1) (bz 1) af b1 ao2 cap3 ao5 cap6 f k l i A C _ _ _ _ _ _ hs4 hs7 g o (p.perm ((pk 2 rfl).trans (((pk 1 rfl).trans (lpr.cons _)).cons _))) p.fz; rw [ag] at q; refine q.mono ?_; clear q; rintro _ ah ⟨H, I, J, L, ai, aj, ak, al, M, rfl, h, N, O, am, an, hm⟩; refine ⟨_, rfl, ?_⟩; intro ax P; have Q := hm; clear hm p D
 replace hs4 := hs4.mono h
 replace hs7 := hs7.mono h
 replace g := g.mono h
 replace o := o.mono h
 replace d := Fz.le.trans d h
 have ao : Mem B [] w0 Z0 ((.row b1 (e71Nf c.1 H I J L) 71) :: (.row f [.bool c.2.1.neg, .slice ai c.2.1.abs.length aj] 69) :: (.row i [.bool c.2.2.neg, .slice ak c.2.2.abs.length al] 69) :: Rr) M ah := Q; clear Q
 have R := G (N.small); clear G
 have S := R (O.small); clear R
 have T := S (am.small); clear S
 have ap := T (an.small); clear T
 refine s1 P 4 (pt b1 0) ?_; intro ay aq; clear P
 refine nlH (v _ _ ?_); clear v V
 refine wp_ret ?_
 refine ra1 aq (pt b1 0) ?_
 exact ⟨c.1, H, I, J, L, M, rfl, ap, d, N, O, ao.keep (List.Sublist.cons_cons _ (List.Sublist.cons _ (List.Sublist.cons _ (List.Sublist.refl _))))⟩

theorem radd_walk (u0 : BRat) (u2 : BRat) (b1 : Nat) (ao2 : Option Addr) (cap3 : Nat) (ao5 : Option Addr) (cap6 : Nat) (b8 : Nat) (ao9 : Option Addr) (cap10 : Nat) (ao12 : Option Addr) (cap13 : Nat) (B : Nat) (w0 : World) (Z0 : Fz) (Rr : List Res) (Z : Fz) (w : World) (hs4 : SlR (tyInt .u32) Z ao2 cap3 u0.a.abs) (hs7 : SlR (tyInt .u32) Z ao5 cap6 u0.b.abs) (hs11 : SlR (tyInt .u32) Z ao9 cap10 u2.a.abs) (hs14 : SlR (tyInt .u32) Z ao12 cap13 u2.b.abs) (hM0 : Mem B [] w0 Z0 ((.row b1 [.bool u0.a.neg, .slice ao2 u0.a.abs.length cap3, .bool u0.b.neg, .slice ao5 u0.b.abs.length cap6] 71) :: (.row b8 [.bool u2.a.neg, .slice ao9 u2.a.abs.length cap10, .bool u2.b.neg, .slice ao12 u2.b.abs.length cap13] 71) :: Rr) Z w) (hZ : Z.on w) {K : (BRat × BRat) → Prop} (hp : radd_vc u0 u2 K) : Calls Tryd.prog 40 #[pt b1 0, pt b1 0, pt b8 0] w fun e w' => ∃ (r : BRat × BRat) (ao1001 : Option Addr) (cap1002 : Nat) (ao1004 : Option Addr) (cap1005 : Nat) (ao1007 : Option Addr) (cap1008 : Nat) (ao1010 : Option Addr) (cap1011 : Nat) (Z' : Fz), e = .returned (pt b1 0) ∧ K r ∧ Fz.le Z Z' ∧ SlR (tyInt .u32) Z' ao1001 cap1002 r.1.a.abs ∧ SlR (tyInt .u32) Z' ao1004 cap1005 r.1.b.abs ∧ SlR (tyInt .u32) Z' ao1007 cap1008 r.2.a.abs ∧ SlR (tyInt .u32) Z' ao1010 cap1011 r.2.b.abs ∧ Mem B [] w0 Z0 ((.row b1 [.bool r.1.a.neg, .slice ao1001 r.1.a.abs.length cap1002, .bool r.1.b.neg, .slice ao1004 r.1.b.abs.length cap1005] 71) :: (.row b8 [.bool r.2.a.neg, .slice ao1007 r.2.a.abs.length cap1008, .bool r.2.b.neg, .slice ao1010 r.2.b.abs.length cap1011] 71) :: Rr) Z' w' := by
 refine enter0 Tryd.func40 rfl rfl (by kernel_rfl) ?_; intro a0 dV; have k := Fz.le.refl Z
 have dW := hp (hs4.small); clear hp
 have dX := dW (hs7.small); clear dW
 have dY := dX (hs11.small); clear dX
 have fh := dY (hs14.small); clear dY
 refine sqB dV hM0 [] [] [] ?_; intro ay dZ; clear dV
 have fi : Fr 33 [] [⟨0, [], pt b1 0⟩, ⟨1, [], pt b1 0⟩, ⟨2, [], pt b8 0⟩] ay := dZ.reg; clear dZ
 obtain ⟨fj, fk⟩ := fh
 obtain ⟨fl, fm⟩ := fk
 obtain ⟨fn, fo⟩ := fm
 obtain ⟨fp, fq⟩ := fo
 obtain ⟨fr, fs⟩ := fq
 refine wp_seq (any_invE mixed [[], [], [], [2], [3], [], [5], [1, 4, 6], [], [], [9], [10], [], [7, 12], [8, 11, 13], [0, 7, 14], [0, 1, 2, 3, 4, 5, 6, 7, 8, 9, 10, 11, 12, 13, 14, 15]] 17 (fun S a w1 => ∃ (n : Nat) (l : Nat) (ad : Option Addr) (ae : Nat) (af : Option Addr) (ag : Nat) (v : Option Addr) (x : Nat) (ah : Option Addr) (ai : Nat) (aj : Option Addr) (ak : Nat) (U : Option Addr) (V : Nat) (W : Option Addr) (X : Nat) (p : Nat) (al : Option Addr) (am : Nat) (an : Option Addr) (ao : Nat) (ap : Option Addr) (aq : Nat) (y : Option Addr) (z : Nat) (C : Option Addr) (D : Nat) (N : Option Addr) (O : Nat) (P : Option Addr) (Q : Nat) (E : Option Addr) (F : Nat) (H : Option Addr) (I : Nat) (L : Option Addr) (M : Nat) (au : Value) (az : Value) (a3 : Value) (be : Value) (ba : Value) (a4 : Value) (bb : Value) (a5 : Value) (aS : Value) (aI : Value) (a6 : Value) (aT : Value) (aJ : Value) (aU : Value) (aK : Value) (aA : Value) (aw : Value) (bk : Res) (aL : Res) (R : Res) (ar : Res) (Y : Res) (m : Fz), Fz.le Z m ∧ Fr 33 [] [⟨0, [], pt b1 0⟩, ⟨1, [], pt b1 0⟩, ⟨2, [], pt b8 0⟩, ⟨7, [], au⟩, ⟨8, [], az⟩, ⟨9, [], a3⟩, ⟨10, [], be⟩, ⟨11, [], ba⟩, ⟨12, [], a4⟩, ⟨13, [], bb⟩, ⟨14, [], a5⟩, ⟨15, [], aS⟩, ⟨16, [], aI⟩, ⟨17, [], a6⟩, ⟨18, [], aT⟩, ⟨19, [], aJ⟩, ⟨20, [], aU⟩, ⟨21, [], aK⟩, ⟨22, [], aA⟩, ⟨23, [], aw⟩] a ∧ Mem B [] w0 Z0 (bk :: aL :: R :: ar :: Y :: Rr) m w1 ∧ (S 16 = true → au = pt n 0) ∧ (S 0 = true → az = pt n 0) ∧ (S 1 = true → a3 = pt l 0) ∧ (S 2 = true → be = pt b1 0) ∧ (S 3 = true → ba = pt b1 0) ∧ (S 4 = true → a4 = pt b1 0) ∧ (S 5 = true → bb = pt b8 0) ∧ (S 6 = true → a5 = pt b8 2) ∧ (S 7 = true → aS = pt l 0) ∧ (S 8 = true → aI = pt p 0) ∧ (S 9 = true → a6 = pt b8 0) ∧ (S 10 = true → aT = pt b8 0) ∧ (S 11 = true → aJ = pt b8 0) ∧ (S 12 = true → aU = pt b1 0) ∧ (S 13 = true → aK = pt b1 2) ∧ (S 14 = true → aA = pt p 0) ∧ (S 15 = true → aw = pt n 0) ∧ (S 7 = false → bk = .row b1 (e71Nf u0 ao2 cap3 ao5 cap6) 71) ∧ (S 7 = true → S 14 = false → bk = .row b8 (e71Nf ((gmulABS (⟨false, []⟩ : BInt) u0 (rdenS u2)).2.2) U V W X) 71) ∧ (S 14 = true → bk = .row b1 (e71Nf ((gmulABS (⟨false, []⟩ : BInt) (gmulABS (⟨false, []⟩ : BInt) u0 (rdenS u2)).2.2 (rdenS (gmulABS (⟨false, []⟩ : BInt) u0 (rdenS u2)).2.1)).2.2) N O P Q) 71) ∧ (S 6 = false → aL = .row b8 (e71Nf u2 ao9 cap10 ao12 cap13) 71) ∧ (S 6 = true → S 7 = false → aL = .row b8 (e71Nf (rdenS u2) ad ae af ag) 71) ∧ (S 7 = true → S 15 = false → aL = .row l [.bool (gmulABS (⟨false, []⟩ : BInt) u0 (rdenS u2)).1.neg, .slice v (gmulABS (⟨false, []⟩ : BInt) u0 (rdenS u2)).1.abs.length x] 69) ∧ (S 15 = true → aL = .row l [.bool (gaddIS (⟨false, []⟩ : BInt) (gmulABS (⟨false, []⟩ : BInt) u0 (rdenS u2)).1 (gmulABS (⟨false, []⟩ : BInt) (gmulABS (⟨false, []⟩ : BInt) u0 (rdenS u2)).2.2 (rdenS (gmulABS (⟨false, []⟩ : BInt) u0 (rdenS u2)).2.1)).1).2.1.neg, .slice H (gaddIS (⟨false, []⟩ : BInt) (gmulABS (⟨false, []⟩ : BInt) u0 (rdenS u2)).1 (gmulABS (⟨false, []⟩ : BInt) (gmulABS (⟨false, []⟩ : BInt) u0 (rdenS u2)).2.2 (rdenS (gmulABS (⟨false, []⟩ : BInt) u0 (rdenS u2)).2.1)).1).2.1.abs.length I] 69) ∧ (S 0 = false → R = .nil) ∧ (S 0 = true → S 15 = false → R = .row n [.bool false, .slice none 0 0] 69) ∧ (S 15 = true → R = .row p [.bool (gaddIS (⟨false, []⟩ : BInt) (gmulABS (⟨false, []⟩ : BInt) u0 (rdenS u2)).1 (gmulABS (⟨false, []⟩ : BInt) (gmulABS (⟨false, []⟩ : BInt) u0 (rdenS u2)).2.2 (rdenS (gmulABS (⟨false, []⟩ : BInt) u0 (rdenS u2)).2.1)).1).2.2.neg, .slice L (gaddIS (⟨false, []⟩ : BInt) (gmulABS (⟨false, []⟩ : BInt) u0 (rdenS u2)).1 (gmulABS (⟨false, []⟩ : BInt) (gmulABS (⟨false, []⟩ : BInt) u0 (rdenS u2)).2.2 (rdenS (gmulABS (⟨false, []⟩ : BInt) u0 (rdenS u2)).2.1)).1).2.2.abs.length M] 69) ∧ (S 1 = false → ar = .nil) ∧ (S 1 = true → S 7 = false → ar = .row l [.bool false, .slice none 0 0] 69) ∧ (S 7 = true → S 13 = false → ar = .row b1 (e71Nf ((gmulABS (⟨false, []⟩ : BInt) u0 (rdenS u2)).2.1) ah ai aj ak) 71) ∧ (S 13 = true → S 14 = false → ar = .row b1 (e71Nf (rdenS (gmulABS (⟨false, []⟩ : BInt) u0 (rdenS u2)).2.1) al am an ao) 71) ∧ (S 14 = true → S 15 = false → ar = .row p [.bool (gmulABS (⟨false, []⟩ : BInt) (gmulABS (⟨false, []⟩ : BInt) u0 (rdenS u2)).2.2 (rdenS (gmulABS (⟨false, []⟩ : BInt) u0 (rdenS u2)).2.1)).1.neg, .slice ap (gmulABS (⟨false, []⟩ : BInt) (gmulABS (⟨false, []⟩ : BInt) u0 (rdenS u2)).2.2 (rdenS (gmulABS (⟨false, []⟩ : BInt) u0 (rdenS u2)).2.1)).1.abs.length aq] 69) ∧ (S 15 = true → ar = .row n [.bool (gaddIS (⟨false, []⟩ : BInt) (gmulABS (⟨false, []⟩ : BInt) u0 (rdenS u2)).1 (gmulABS (⟨false, []⟩ : BInt) (gmulABS (⟨false, []⟩ : BInt) u0 (rdenS u2)).2.2 (rdenS (gmulABS (⟨false, []⟩ : BInt) u0 (rdenS u2)).2.1)).1).1.neg, .slice E (gaddIS (⟨false, []⟩ : BInt) (gmulABS (⟨false, []⟩ : BInt) u0 (rdenS u2)).1 (gmulABS (⟨false, []⟩ : BInt) (gmulABS (⟨false, []⟩ : BInt) u0 (rdenS u2)).2.2 (rdenS (gmulABS (⟨false, []⟩ : BInt) u0 (rdenS u2)).2.1)).1).1.abs.length F] 69) ∧ (S 8 = false → Y = .nil) ∧ (S 8 = true → S 14 = false → Y = .row p [.bool false, .slice none 0 0] 69) ∧ (S 14 = true → Y = .row b8 (e71Nf ((gmulABS (⟨false, []⟩ : BInt) (gmulABS (⟨false, []⟩ : BInt) u0 (rdenS u2)).2.2 (rdenS (gmulABS (⟨false, []⟩ : BInt) u0 (rdenS u2)).2.1)).2.1) y z C D) 71) ∧ (S 6 = true → SlR (tyInt .u32) m ad ae (rdenS u2).a.abs) ∧ (S 6 = true → SlR (tyInt .u32) m af ag (rdenS u2).b.abs) ∧ (S 7 = true → SlR (tyInt .u32) m v x (gmulABS (⟨false, []⟩ : BInt) u0 (rdenS u2)).1.abs) ∧ (S 7 = true → SlR (tyInt .u32) m ah ai (gmulABS (⟨false, []⟩ : BInt) u0 (rdenS u2)).2.1.a.abs) ∧ (S 7 = true → SlR (tyInt .u32) m aj ak (gmulABS (⟨false, []⟩ : BInt) u0 (rdenS u2)).2.1.b.abs) ∧ (S 7 = true → SlR (tyInt .u32) m U V (gmulABS (⟨false, []⟩ : BInt) u0 (rdenS u2)).2.2.a.abs) ∧ (S 7 = true → SlR (tyInt .u32) m W X (gmulABS (⟨false, []⟩ : BInt) u0 (rdenS u2)).2.2.b.abs) ∧ (S 13 = true → SlR (tyInt .u32) m al am (rdenS (gmulABS (⟨false, []⟩ : BInt) u0 (rdenS u2)).2.1).a.abs) ∧ (S 13 = true → SlR (tyInt .u32) m an ao (rdenS (gmulABS (⟨false, []⟩ : BInt) u0 (rdenS u2)).2.1).b.abs) ∧ (S 14 = true → SlR (tyInt .u32) m ap aq (gmulABS (⟨false, []⟩ : BInt) (gmulABS (⟨false, []⟩ : BInt) u0 (rdenS u2)).2.2 (rdenS (gmulABS (⟨false, []⟩ : BInt) u0 (rdenS u2)).2.1)).1.abs) ∧ (S 14 = true → SlR (tyInt .u32) m y z (gmulABS (⟨false, []⟩ : BInt) (gmulABS (⟨false, []⟩ : BInt) u0 (rdenS u2)).2.2 (rdenS (gmulABS (⟨false, []⟩ : BInt) u0 (rdenS u2)).2.1)).2.1.a.abs) ∧ (S 14 = true → SlR (tyInt .u32) m C D (gmulABS (⟨false, []⟩ : BInt) (gmulABS (⟨false, []⟩ : BInt) u0 (rdenS u2)).2.2 (rdenS (gmulABS (⟨false, []⟩ : BInt) u0 (rdenS u2)).2.1)).2.1.b.abs) ∧ (S 14 = true → SlR (tyInt .u32) m N O (gmulABS (⟨false, []⟩ : BInt) (gmulABS (⟨false, []⟩ : BInt) u0 (rdenS u2)).2.2 (rdenS (gmulABS (⟨false, []⟩ : BInt) u0 (rdenS u2)).2.1)).2.2.a.abs) ∧ (S 14 = true → SlR (tyInt .u32) m P Q (gmulABS (⟨false, []⟩ : BInt) (gmulABS (⟨false, []⟩ : BInt) u0 (rdenS u2)).2.2 (rdenS (gmulABS (⟨false, []⟩ : BInt) u0 (rdenS u2)).2.1)).2.2.b.abs) ∧ (S 15 = true → SlR (tyInt .u32) m E F (gaddIS (⟨false, []⟩ : BInt) (gmulABS (⟨false, []⟩ : BInt) u0 (rdenS u2)).1 (gmulABS (⟨false, []⟩ : BInt) (gmulABS (⟨false, []⟩ : BInt) u0 (rdenS u2)).2.2 (rdenS (gmulABS (⟨false, []⟩ : BInt) u0 (rdenS u2)).2.1)).1).1.abs) ∧ (S 15 = true → SlR (tyInt .u32) m H I (gaddIS (⟨false, []⟩ : BInt) (gmulABS (⟨false, []⟩ : BInt) u0 (rdenS u2)).1 (gmulABS (⟨false, []⟩ : BInt) (gmulABS (⟨false, []⟩ : BInt) u0 (rdenS u2)).2.2 (rdenS (gmulABS (⟨false, []⟩ : BInt) u0 (rdenS u2)).2.1)).1).2.1.abs) ∧ (S 15 = true → SlR (tyInt .u32) m L M (gaddIS (⟨false, []⟩ : BInt) (gmulABS (⟨false, []⟩ : BInt) u0 (rdenS u2)).1 (gmulABS (⟨false, []⟩ : BInt) (gmulABS (⟨false, []⟩ : BInt) u0 (rdenS u2)).2.2 (rdenS (gmulABS (⟨false, []⟩ : BInt) u0 (rdenS u2)).2.1)).1).2.2.abs)) ?h0 ?hs ?hE)
 case h0 =>
  have ft := fi.any 7
  have fu := ft.any 8
  have fv := fu.any 9
  have fw := fv.any 10
  have fx := fw.any 11
  have fy := fx.any 12
  have fA := fy.any 13
  have fB := fA.any 14
  have fC := fB.any 15
  have fD := fC.any 16
  have fE := fD.any 17
  have fF := fE.any 18
  have fG := fF.any 19
  have fH := fG.any 20
  have fI := fH.any 21
  have fJ := fI.any 22
  have fK := fJ.any 23
  have fL := hM0.nilRes
  have fM := fL.nilRes
  have fN := fM.nilRes
  have fO := (fN.perm ((pk 3 rfl).trans (((pk 3 rfl).trans (((pk 2 rfl).trans (((pk 1 rfl).trans (lpr.cons _)).cons _)).cons _)).cons _))).drew
  exact ⟨0, 0, none, 0, none, 0, none, 0, none, 0, none, 0, none, 0, none, 0, 0, none, 0, none, 0, none, 0, none, 0, none, 0, none, 0, none, 0, none, 0, none, 0, none, 0, ay.tmps.getD 7 undef, ay.tmps.getD 8 undef, ay.tmps.getD 9 undef, ay.tmps.getD 10 undef, ay.tmps.getD 11 undef, ay.tmps.getD 12 undef, ay.tmps.getD 13 undef, ay.tmps.getD 14 undef, ay.tmps.getD 15 undef, ay.tmps.getD 16 undef, ay.tmps.getD 17 undef, ay.tmps.getD 18 undef, ay.tmps.getD 19 undef, ay.tmps.getD 20 undef, ay.tmps.getD 21 undef, ay.tmps.getD 22 undef, ay.tmps.getD 23 undef, .row b1 (e71Nf u0 ao2 cap3 ao5 cap6) 71, .row b8 (e71Nf u2 ao9 cap10 ao12 cap13) 71, .nil, .nil, .nil, Z, Fz.le.refl _, fK.reg, fO, ff, ff, ff, ff, ff, ff, ff, ff, ff, ff, ff, ff, ff, ff, ff, ff, ff, kf, ff, ff, kf, ff, ff, ff, kf, ff, ff, kf, ff, ff, ff, ff, ff, kf, ff, ff, ff, ff, ff, ff, ff, ff, ff, ff, ff, ff, ff, ff, ff, ff, ff, ff, ff⟩
 case hs =>
  intro S hcl i o hil hi hSi hpre a w1 hI; refine Go.Sy.hid ?_; intro G hG; obtain ⟨n, l, ad, ae, af, ag, v, x, ah, ai, aj, ak, U, V, W, X, p, al, am, an, ao, ap, aq, y, z, hI⟩ := hI; obtain ⟨C, D, N, O, P, Q, E, F, H, I, L, M, au, az, a3, be, ba, a4, bb, a5, aS, aI, a6, aT, aJ, hI⟩ := hI; obtain ⟨aU, aK, aA, aw, bk, aL, R, ar, Y, m, g, hFx, hMx, d0, aB, aC, aD, aM, aV, aE, aN, bl, aF, aG, aO, hI⟩ := hI; obtain ⟨aW, aH, bu, ca, cz, bc, bB, cb, bf, bm, bv, cA, aX, aY, cB, bg, bh, bJ, b5, cC, cD, a7, a8, cc, aP, hI⟩ := hI; obtain ⟨aQ, bn, bo, bp, bq, br, bw, bx, cd, ce, cf, cg, ch, cE, cF, hI⟩ := hI; have cG := hI; clear hI
  have hcase : i = 0 ∨ i = 1 ∨ i = 2 ∨ i = 3 ∨ i = 4 ∨ i = 5 ∨ i = 6 ∨ i = 7 ∨ i = 8 ∨ i = 9 ∨ i = 10 ∨ i = 11 ∨ i = 12 ∨ i = 13 ∨ i = 14 ∨ i = 15 ∨ i = 16 := by clear hi; omega
  rcases hcase with rfl | rfl | rfl | rfl | rfl | rfl | rfl | rfl | rfl | rfl | rfl | rfl | rfl | rfl | rfl | rfl | rfl
  ·
   obtain rfl := oj hi
   have bz := hSi
   have f := ngF hcl 15 0 bz
   have s := ngF hcl 16 0 bz
   obtain rfl := aX bz
   refine hG (any_step ?_); clear hG G; intro A J hJ
   have k := Fz.le.trans k g
   have hzst := Fz.le.refl m
   have hl := hs4.mono g
   have hn := hs7.mono g
   have ho := hs11.mono g
   have hq := hs14.mono g
   have d1 := hMx.keep (List.Sublist.cons_cons _ (List.Sublist.cons_cons _ (List.Sublist.cons _ (List.Sublist.cons_cons _ (List.Sublist.cons_cons _ (List.Sublist.refl _)))))); clear hMx
   refine nw hFx d1 pb [.bool false, .slice none 0 0] 69 ?_; intro cH hr ht fP fQ; clear hFx d1
   refine nl (qnI (hJ _ _ ?_)); clear hJ J
   exact ⟨cH, l, ad, ae, af, ag, v, x, ah, ai, aj, ak, U, V, W, X, p, al, am, an, ao, ap, aq, y, z, C, D, N, O, P, Q, E, F, H, I, L, M, au, pt cH 0, a3, be, ba, a4, bb, a5, aS, aI, a6, aT, aJ, aU, aK, aA, aw, bk, aL, .row cH [.bool false, .slice none 0 0] 69, ar, Y, m, g, fP.reg, fQ.perm ((pk 1 rfl).trans (((pk 1 rfl).trans (lpr.cons _)).cons _)), (nt s), kf, aC, aD, aM, aV, aE, aN, bl, aF, aG, aO, aW, aH, bu, ca, (nt f), bc, bB, cb, bf, bm, bv, (nt f), nu, kf2, (nt f), bg, bh, bJ, b5, cC, (nt f), a7, a8, cc, aP, aQ, bn, bo, bp, bq, br, bw, bx, cd, ce, cf, cg, ch, (nt f), (nt f), (nt f)⟩
  ·
   obtain rfl := oj hi
   have ax := hSi
   have d := ngF hcl 7 1 ax
   have j := ngF hcl 13 7 d
   have c := ngF hcl 14 13 j
   have f := ngF hcl 15 7 d
   have s := ngF hcl 16 1 ax
   obtain rfl := bc d
   obtain rfl := bg ax
   refine hG (any_step ?_); clear hG G; intro A J hJ
   have k := Fz.le.trans k g
   have hzst := Fz.le.refl m
   have hu := hs4.mono g
   have hv := hs7.mono g
   have hw := hs11.mono g
   have hx := hs14.mono g
   have d2 := hMx.keep (List.Sublist.cons_cons _ (List.Sublist.cons_cons _ (List.Sublist.cons_cons _ (List.Sublist.cons _ (List.Sublist.cons_cons _ (List.Sublist.refl _)))))); clear hMx
   refine nw hFx d2 pb [.bool false, .slice none 0 0] 69 ?_; intro cI hy hz fR fS; clear hFx d2
   refine nl (qnI (hJ _ _ ?_)); clear hJ J
   exact ⟨n, cI, ad, ae, af, ag, v, x, ah, ai, aj, ak, U, V, W, X, p, al, am, an, ao, ap, aq, y, z, C, D, N, O, P, Q, E, F, H, I, L, M, au, az, pt cI 0, be, ba, a4, bb, a5, aS, aI, a6, aT, aJ, aU, aK, aA, aw, .row b1 (e71Nf u0 ao2 cap3 ao5 cap6) 71, aL, R, .row cI [.bool false, .slice none 0 0] 69, Y, m, g, fR.reg, fS.perm ((pk 1 rfl).trans (((pk 1 rfl).trans (((pk 1 rfl).trans (lpr.cons _)).cons _)).cons _)), (nt s), aB, kf, aD, aM, aV, aE, aN, (nt d), aF, aG, aO, aW, aH, (nt j), (nt c), (nt f), kf, (fun h _ => nt d h), (nt c), bf, bm, (fun h _ => nt d h), (nt f), aX, aY, (nt f), nu, kf2, (fun h _ => nt d h), (fun h _ => nt j h), (fun h _ => nt c h), (nt f), a7, a8, (nt c), aP, aQ, (nt d), (nt d), (nt d), (nt d), (nt d), (nt j), (nt j), (nt c), (nt c), (nt c), (nt c), (nt c), (nt f), (nt f), (nt f)⟩
  ·
   obtain rfl := oj hi
   have aZ := hSi
   have aa := ngF hcl 3 2 aZ
   have ab := ngF hcl 4 3 aa
   have d := ngF hcl 7 4 ab
   have j := ngF hcl 13 7 d
   have c := ngF hcl 14 13 j
   have f := ngF hcl 15 7 d
   have s := ngF hcl 16 2 aZ
   obtain rfl := bc d
   refine hG (any_step ?_); clear hG G; intro A J hJ
   have k := Fz.le.trans k g
   have hzst := Fz.le.refl m
   have hA := hs4.mono g
   have hB := hs7.mono g
   have hC := hs11.mono g
   have hD := hs14.mono g
   refine s1 hFx 10 (pt b1 0) ?_; intro hF fT; clear hFx
   refine nl (qnI (hJ _ _ ?_)); clear hJ J
   exact ⟨n, l, ad, ae, af, ag, v, x, ah, ai, aj, ak, U, V, W, X, p, al, am, an, ao, ap, aq, y, z, C, D, N, O, P, Q, E, F, H, I, L, M, au, az, a3, pt b1 0, ba, a4, bb, a5, aS, aI, a6, aT, aJ, aU, aK, aA, aw, .row b1 (e71Nf u0 ao2 cap3 ao5 cap6) 71, aL, R, ar, Y, m, g, fT.reg, hMx.perm lpr, (nt s), aB, aC, kf, (nt aa), (nt ab), aE, aN, (nt d), aF, aG, aO, aW, aH, (nt j), (nt c), (nt f), kf, (fun h _ => nt d h), (nt c), bf, bm, (fun h _ => nt d h), (nt f), aX, aY, (nt f), bg, bh, (fun h _ => nt d h), (fun h _ => nt j h), (fun h _ => nt c h), (nt f), a7, a8, (nt c), aP, aQ, (nt d), (nt d), (nt d), (nt d), (nt d), (nt j), (nt j), (nt c), (nt c), (nt c), (nt c), (nt c), (nt f), (nt f), (nt f)⟩
  ·
   obtain rfl := oj hi
   have aZ := hpre 2 (by kernel_rfl)
   have aa := hSi
   have ab := ngF hcl 4 3 aa
   have d := ngF hcl 7 4 ab
   have j := ngF hcl 13 7 d
   have c := ngF hcl 14 13 j
   have f := ngF hcl 15 7 d
   have s := ngF hcl 16 3 aa
   obtain rfl := aD aZ
   obtain rfl := bc d
   refine hG (any_step ?_); clear hG G; intro A J hJ
   have k := Fz.le.trans k g
   have hzst := Fz.le.refl m
   have hH := hs4.mono g
   have hK := hs7.mono g
   have hL := hs11.mono g
   have hM := hs14.mono g
   refine s1 hFx 11 (pt b1 0) ?_; intro hN fU; clear hFx
   refine nl (qnI (hJ _ _ ?_)); clear hJ J
   exact ⟨n, l, ad, ae, af, ag, v, x, ah, ai, aj, ak, U, V, W, X, p, al, am, an, ao, ap, aq, y, z, C, D, N, O, P, Q, E, F, H, I, L, M, au, az, a3, pt b1 0, pt b1 0, a4, bb, a5, aS, aI, a6, aT, aJ, aU, aK, aA, aw, .row b1 (e71Nf u0 ao2 cap3 ao5 cap6) 71, aL, R, ar, Y, m, g, fU.reg, hMx.perm lpr, (nt s), aB, aC, kf, kf, (nt ab), aE, aN, (nt d), aF, aG, aO, aW, aH, (nt j), (nt c), (nt f), kf, (fun h _ => nt d h), (nt c), bf, bm, (fun h _ => nt d h), (nt f), aX, aY, (nt f), bg, bh, (fun h _ => nt d h), (fun h _ => nt j h), (fun h _ => nt c h), (nt f), a7, a8, (nt c), aP, aQ, (nt d), (nt d), (nt d), (nt d), (nt d), (nt j), (nt j), (nt c), (nt c), (nt c), (nt c), (nt c), (nt f), (nt f), (nt f)⟩
  ·
   obtain rfl := oj hi
   have aa := hpre 3 (by kernel_rfl)
   have aZ := hcl 3 2 (by kernel_rfl) aa
   have ab := hSi
   have d := ngF hcl 7 4 ab
   have j := ngF hcl 13 7 d
   have c := ngF hcl 14 13 j
   have f := ngF hcl 15 7 d
   have s := ngF hcl 16 4 ab
   obtain rfl := aD aZ
   obtain rfl := aM aa
   obtain rfl := bc d
   refine hG (any_step ?_); clear hG G; intro A J hJ
   have k := Fz.le.trans k g
   have hzst := Fz.le.refl m
   have hO := hs4.mono g
   have hP := hs7.mono g
   have hQ := hs11.mono g
   have hR := hs14.mono g
   refine s1 hFx 12 (pt b1 0) ?_; intro hT fV; clear hFx
   refine nl (qnI (hJ _ _ ?_)); clear hJ J
   exact ⟨n, l, ad, ae, af, ag, v, x, ah, ai, aj, ak, U, V, W, X, p, al, am, an, ao, ap, aq, y, z, C, D, N, O, P, Q, E, F, H, I, L, M, au, az, a3, pt b1 0, pt b1 0, pt b1 0, bb, a5, aS, aI, a6, aT, aJ, aU, aK, aA, aw, .row b1 (e71Nf u0 ao2 cap3 ao5 cap6) 71, aL, R, ar, Y, m, g, fV.reg, hMx.perm lpr, (nt s), aB, aC, kf, kf, kf, aE, aN, (nt d), aF, aG, aO, aW, aH, (nt j), (nt c), (nt f), kf, (fun h _ => nt d h), (nt c), bf, bm, (fun h _ => nt d h), (nt f), aX, aY, (nt f), bg, bh, (fun h _ => nt d h), (fun h _ => nt j h), (fun h _ => nt c h), (nt f), a7, a8, (nt c), aP, aQ, (nt d), (nt d), (nt d), (nt d), (nt d), (nt j), (nt j), (nt c), (nt c), (nt c), (nt c), (nt c), (nt f), (nt f), (nt f)⟩
  ·
   obtain rfl := oj hi
   have bd := hSi
   have q := ngF hcl 6 5 bd
   have d := ngF hcl 7 6 q
   have j := ngF hcl 13 7 d
   have c := ngF hcl 14 13 j
   have f := ngF hcl 15 7 d
   have s := ngF hcl 16 5 bd
   obtain rfl := bc d
   obtain rfl := bf q
   refine hG (any_step ?_); clear hG G; intro A J hJ
   have k := Fz.le.trans k g
   have hzst := Fz.le.refl m
   have hU := hs4.mono g
   have hV := hs7.mono g
   have hW := hs11.mono g
   have hX := hs14.mono g
   refine s1 hFx 13 (pt b8 0) ?_; intro hY fW; clear hFx
   refine nl (qnI (hJ _ _ ?_)); clear hJ J
   exact ⟨n, l, ad, ae, af, ag, v, x, ah, ai, aj, ak, U, V, W, X, p, al, am, an, ao, ap, aq, y, z, C, D, N, O, P, Q, E, F, H, I, L, M, au, az, a3, be, ba, a4, pt b8 0, a5, aS, aI, a6, aT, aJ, aU, aK, aA, aw, .row b1 (e71Nf u0 ao2 cap3 ao5 cap6) 71, .row b8 (e71Nf u2 ao9 cap10 ao12 cap13) 71, R, ar, Y, m, g, fW.reg, hMx.perm lpr, (nt s), aB, aC, aD, aM, aV, kf, (nt q), (nt d), aF, aG, aO, aW, aH, (nt j), (nt c), (nt f), kf, (fun h _ => nt d h), (nt c), kf, (fun h _ => nt q h), (fun h _ => nt d h), (nt f), aX, aY, (nt f), bg, bh, (fun h _ => nt d h), (fun h _ => nt j h), (fun h _ => nt c h), (nt f), a7, a8, (nt c), (nt q), (nt q), (nt d), (nt d), (nt d), (nt d), (nt d), (nt j), (nt j), (nt c), (nt c), (nt c), (nt c), (nt c), (nt f), (nt f), (nt f)⟩
  ·
   obtain rfl := oj hi
   have bd := hpre 5 (by kernel_rfl)
   have q := hSi
   have d := ngF hcl 7 6 q
   have j := ngF hcl 13 7 d
   have c := ngF hcl 14 13 j
   have f := ngF hcl 15 7 d
   have s := ngF hcl 16 6 q
   obtain rfl := aE bd
   obtain rfl := bc d
   obtain rfl := bf q
   refine hG (any_step ?_); clear hG G; intro A J hJ
   have k := Fz.le.trans k g
   have hzst := Fz.le.refl m
   have d3 := hs4.mono g
   have d4 := hs7.mono g
   have cJ := hs11.mono g
   have cK := hs14.mono g
   refine ck hFx 78 #[pt b8 0] ?_
   refine (rden_fun u2 fj b8 ao9 cap10 ao12 cap13 _ _ _ _ _ _ cJ cK (hMx.perm (pk 1 rfl)) hMx.fz).mono ?_; rintro _ fX ⟨cL, cM, cN, cO, d5, rfl, b6, fY, fZ, hm⟩; refine ⟨_, rfl, ?_⟩; intro h1 f0; have d6 := hm; clear hm hMx hFx
   replace hzst := hzst.mono b6
   replace d3 := d3.mono b6
   replace d4 := d4.mono b6
   replace cJ := cJ.mono b6
   replace cK := cK.mono b6
   replace k := Fz.le.trans k b6
   have f1 : Mem B [] w0 Z0 ((.row b8 (e71Nf (rdenS u2) cL cM cN cO) 71) :: (.row b1 (e71Nf u0 ao2 cap3 ao5 cap6) 71) :: R :: ar :: Y :: Rr) d5 fX := d6; clear d6
   refine nl (qnI (hJ _ _ ?_)); clear hJ J
   exact ⟨n, l, cL, cM, cN, cO, v, x, ah, ai, aj, ak, U, V, W, X, p, al, am, an, ao, ap, aq, y, z, C, D, N, O, P, Q, E, F, H, I, L, M, au, az, a3, be, ba, a4, pt b8 0, pt b8 2, aS, aI, a6, aT, aJ, aU, aK, aA, aw, .row b1 (e71Nf u0 ao2 cap3 ao5 cap6) 71, .row b8 (e71Nf (rdenS u2) cL cM cN cO) 71, R, ar, Y, d5, g.trans hzst, f0.reg, f1.perm ((pk 1 rfl).trans (lpr.cons _)), (nt s), aB, aC, aD, aM, aV, kf, kf, (nt d), aF, aG, aO, aW, aH, (nt j), (nt c), (nt f), kf, (fun h _ => nt d h), (nt c), nu, kf2, (fun h _ => nt d h), (nt f), aX, aY, (nt f), bg, bh, (fun h _ => nt d h), (fun h _ => nt j h), (fun h _ => nt c h), (nt f), a7, a8, (nt c), (fun _ => fY), (fun _ => fZ), (nt d), (nt d), (nt d), (nt d), (nt d), (nt j), (nt j), (nt c), (nt c), (nt c), (nt c), (nt c), (nt f), (nt f), (nt f)⟩
  ·
   obtain rfl := oj hi
   have q := hpre 6 (by kernel_rfl)
   have ab := hpre 4 (by kernel_rfl)
   have ax := hpre 1 (by kernel_rfl)
   have bd := hcl 6 5 (by kernel_rfl) q
   have aa := hcl 4 3 (by kernel_rfl) ab
   have aZ := hcl 3 2 (by kernel_rfl) aa
   have d := hSi
   have j := ngF hcl 13 7 d
   have c := ngF hcl 14 13 j
   have f := ngF hcl 15 7 d
   have s := ngF hcl 16 7 d
   obtain rfl := aC ax
   obtain rfl := aD aZ
   obtain rfl := aM aa
   obtain rfl := aV ab
   obtain rfl := aE bd
   obtain rfl := aN q
   obtain rfl := bc d
   obtain rfl := bm q d
   obtain rfl := bh ax d
   refine hG (any_step ?_); clear hG G; intro A J hJ
   have k := Fz.le.trans k g
   have hzst := Fz.le.refl m
   have cP := hs4.mono g
   have cQ := hs7.mono g
   have d7 := hs11.mono g
   have d8 := hs14.mono g
   have cj := aP q
   have cl := aQ q
   refine ck hFx 77 #[pt l 0, pt b1 0, pt b8 2] ?_
   refine (gmulAB_fun (⟨false, []⟩ : BInt) u0 (rdenS u2) fl l none 0 b1 ao2 cap3 ao5 cap6 b8 ad ae af ag _ _ _ _ _ _ (SlR.nil _ _) cP cQ cj cl (hMx.perm ((pk 3 rfl).trans (lpr.cons _))) hMx.fz).mono ?_; rintro _ f2 ⟨cR, cS, cT, cU, cV, cW, cX, cY, cZ, c0, d9, rfl, bK, f3, f4, f5, f6, f7, hm⟩; refine ⟨_, rfl, ?_⟩; intro h2 f8; have ea := hm; clear hm hMx hFx
   replace hzst := hzst.mono bK
   replace cP := cP.mono bK
   replace cQ := cQ.mono bK
   replace d7 := d7.mono bK
   replace d8 := d8.mono bK
   replace cj := cj.mono bK
   replace cl := cl.mono bK
   replace k := Fz.le.trans k bK
   have f9 : Mem B [] w0 Z0 ((.row l [.bool (gmulABS (⟨false, []⟩ : BInt) u0 (rdenS u2)).1.neg, .slice cR (gmulABS (⟨false, []⟩ : BInt) u0 (rdenS u2)).1.abs.length cS] 69) :: (.row b1 (e71Nf ((gmulABS (⟨false, []⟩ : BInt) u0 (rdenS u2)).2.1) cT cU cV cW) 71) :: (.row b8 (e71Nf ((gmulABS (⟨false, []⟩ : BInt) u0 (rdenS u2)).2.2) cX cY cZ c0) 71) :: R :: Y :: Rr) d9 f2 := ea; clear ea
   refine nl (qnI (hJ _ _ ?_)); clear hJ J
   exact ⟨n, l, ad, ae, af, ag, cR, cS, cT, cU, cV, cW, cX, cY, cZ, c0, p, al, am, an, ao, ap, aq, y, z, C, D, N, O, P, Q, E, F, H, I, L, M, au, az, pt l 0, pt b1 0, pt b1 0, pt b1 0, pt b8 0, pt b8 2, pt l 0, aI, a6, aT, aJ, aU, aK, aA, aw, .row b8 (e71Nf ((gmulABS (⟨false, []⟩ : BInt) u0 (rdenS u2)).2.2) cX cY cZ c0) 71, .row l [.bool (gmulABS (⟨false, []⟩ : BInt) u0 (rdenS u2)).1.neg, .slice cR (gmulABS (⟨false, []⟩ : BInt) u0 (rdenS u2)).1.abs.length cS] 69, R, .row b1 (e71Nf ((gmulABS (⟨false, []⟩ : BInt) u0 (rdenS u2)).2.1) cT cU cV cW) 71, Y, d9, g.trans hzst, f8.reg, f9.perm ((pk 2 rfl).trans ((((pk 1 rfl).trans (lpr.cons _)).cons _).cons _)), (nt s), aB, kf, kf, kf, kf, kf, kf, kf, aF, aG, aO, aW, aH, (nt j), (nt c), (nt f), nu, kf2, (nt c), (tn q), (fun _ => nu), kf2, (nt f), aX, aY, (nt f), (tn ax), (fun _ => nu), kf2, (fun h _ => nt j h), (fun h _ => nt c h), (nt f), a7, a8, (nt c), (fun _ => cj), (fun _ => cl), (fun _ => f3), (fun _ => f4), (fun _ => f5), (fun _ => f6), (fun _ => f7), (nt j), (nt j), (nt c), (nt c), (nt c), (nt c), (nt c), (nt f), (nt f), (nt f)⟩
  ·
   obtain rfl := oj hi
   have bi := hSi
   have c := ngF hcl 14 8 bi
   have f := ngF hcl 15 14 c
   have s := ngF hcl 16 8 bi
   obtain rfl := a7 bi
   refine hG (any_step ?_); clear hG G; intro A J hJ
   have k := Fz.le.trans k g
   have hzst := Fz.le.refl m
   have h3 := hs4.mono g
   have h4 := hs7.mono g
   have h5 := hs11.mono g
   have h6 := hs14.mono g
   have eb := hMx.keep (List.Sublist.cons_cons _ (List.Sublist.cons_cons _ (List.Sublist.cons_cons _ (List.Sublist.cons_cons _ (List.Sublist.cons _ (List.Sublist.refl _)))))); clear hMx
   refine nw hFx eb pb [.bool false, .slice none 0 0] 69 ?_; intro c1 h7 h8 ga gb; clear hFx eb
   refine nl (qnI (hJ _ _ ?_)); clear hJ J
   exact ⟨n, l, ad, ae, af, ag, v, x, ah, ai, aj, ak, U, V, W, X, c1, al, am, an, ao, ap, aq, y, z, C, D, N, O, P, Q, E, F, H, I, L, M, au, az, a3, be, ba, a4, bb, a5, aS, pt c1 0, a6, aT, aJ, aU, aK, aA, aw, bk, aL, R, ar, .row c1 [.bool false, .slice none 0 0] 69, m, g, ga.reg, gb.perm ((pk 1 rfl).trans (((pk 1 rfl).trans (((pk 1 rfl).trans (((pk 1 rfl).trans (lpr.cons _)).cons _)).cons _)).cons _)), (nt s), aB, aC, aD, aM, aV, aE, aN, bl, kf, aG, aO, aW, aH, bu, (nt c), (nt f), bc, bB, (nt c), bf, bm, bv, (nt f), aX, aY, (nt f), bg, bh, bJ, b5, (fun h _ => nt c h), (nt f), nu, kf2, (nt c), aP, aQ, bn, bo, bp, bq, br, bw, bx, (nt c), (nt c), (nt c), (nt c), (nt c), (nt f), (nt f), (nt f)⟩
  ·
   obtain rfl := oj hi
   have bs := hSi
   have a1 := ngF hcl 10 9 bs
   have a2 := ngF hcl 11 10 a1
   have c := ngF hcl 14 11 a2
   have f := ngF hcl 15 14 c
   have s := ngF hcl 16 9 bs
   refine hG (any_step ?_); clear hG G; intro A J hJ
   have k := Fz.le.trans k g
   have hzst := Fz.le.refl m
   have ia := hs4.mono g
   have ib := hs7.mono g
   have ic := hs11.mono g
   have id := hs14.mono g
   refine s1 hFx 17 (pt b8 0) ?_; intro ie gc; clear hFx
   refine nl (qnI (hJ _ _ ?_)); clear hJ J
   exact ⟨n, l, ad, ae, af, ag, v, x, ah, ai, aj, ak, U, V, W, X, p, al, am, an, ao, ap, aq, y, z, C, D, N, O, P, Q, E, F, H, I, L, M, au, az, a3, be, ba, a4, bb, a5, aS, aI, pt b8 0, aT, aJ, aU, aK, aA, aw, bk, aL, R, ar, Y, m, g, gc.reg, hMx.perm lpr, (nt s), aB, aC, aD, aM, aV, aE, aN, bl, aF, kf, (nt a1), (nt a2), aH, bu, (nt c), (nt f), bc, bB, (nt c), bf, bm, bv, (nt f), aX, aY, (nt f), bg, bh, bJ, b5, (fun h _ => nt c h), (nt f), a7, a8, (nt c), aP, aQ, bn, bo, bp, bq, br, bw, bx, (nt c), (nt c), (nt c), (nt c), (nt c), (nt f), (nt f), (nt f)⟩
  ·
   obtain rfl := oj hi
   have bs := hpre 9 (by kernel_rfl)
   have a1 := hSi
   have a2 := ngF hcl 11 10 a1
   have c := ngF hcl 14 11 a2
   have f := ngF hcl 15 14 c
   have s := ngF hcl 16 10 a1
   obtain rfl := aG bs
   refine hG (any_step ?_); clear hG G; intro A J hJ
   have k := Fz.le.trans k g
   have hzst := Fz.le.refl m
   have ig := hs4.mono g
   have ih := hs7.mono g
   have ii := hs11.mono g
   have ij := hs14.mono g
   refine s1 hFx 18 (pt b8 0) ?_; intro ik gd; clear hFx
   refine nl (qnI (hJ _ _ ?_)); clear hJ J
   exact ⟨n, l, ad, ae, af, ag, v, x, ah, ai, aj, ak, U, V, W, X, p, al, am, an, ao, ap, aq, y, z, C, D, N, O, P, Q, E, F, H, I, L, M, au, az, a3, be, ba, a4, bb, a5, aS, aI, pt b8 0, pt b8 0, aJ, aU, aK, aA, aw, bk, aL, R, ar, Y, m, g, gd.reg, hMx.perm lpr, (nt s), aB, aC, aD, aM, aV, aE, aN, bl, aF, kf, kf, (nt a2), aH, bu, (nt c), (nt f), bc, bB, (nt c), bf, bm, bv, (nt f), aX, aY, (nt f), bg, bh, bJ, b5, (fun h _ => nt c h), (nt f), a7, a8, (nt c), aP, aQ, bn, bo, bp, bq, br, bw, bx, (nt c), (nt c), (nt c), (nt c), (nt c), (nt f), (nt f), (nt f)⟩
  ·
   obtain rfl := oj hi
   have a1 := hpre 10 (by kernel_rfl)
   have bs := hcl 10 9 (by kernel_rfl) a1
   have a2 := hSi
   have c := ngF hcl 14 11 a2
   have f := ngF hcl 15 14 c
   have s := ngF hcl 16 11 a2
   obtain rfl := aG bs
   obtain rfl := aO a1
   refine hG (any_step ?_); clear hG G; intro A J hJ
   have k := Fz.le.trans k g
   have hzst := Fz.le.refl m
   have il := hs4.mono g
   have im := hs7.mono g
   have io := hs11.mono g
   have ip := hs14.mono g
   refine s1 hFx 19 (pt b8 0) ?_; intro iq ge; clear hFx
   refine nl (qnI (hJ _ _ ?_)); clear hJ J
   exact ⟨n, l, ad, ae, af, ag, v, x, ah, ai, aj, ak, U, V, W, X, p, al, am, an, ao, ap, aq, y, z, C, D, N, O, P, Q, E, F, H, I, L, M, au, az, a3, be, ba, a4, bb, a5, aS, aI, pt b8 0, pt b8 0, pt b8 0, aU, aK, aA, aw, bk, aL, R, ar, Y, m, g, ge.reg, hMx.perm lpr, (nt s), aB, aC, aD, aM, aV, aE, aN, bl, aF, kf, kf, kf, aH, bu, (nt c), (nt f), bc, bB, (nt c), bf, bm, bv, (nt f), aX, aY, (nt f), bg, bh, bJ, b5, (fun h _ => nt c h), (nt f), a7, a8, (nt c), aP, aQ, bn, bo, bp, bq, br, bw, bx, (nt c), (nt c), (nt c), (nt c), (nt c), (nt f), (nt f), (nt f)⟩
  ·
   obtain rfl := oj hi
   have bA := hSi
   have j := ngF hcl 13 12 bA
   have c := ngF hcl 14 13 j
   have f := ngF hcl 15 14 c
   have s := ngF hcl 16 12 bA
   refine hG (any_step ?_); clear hG G; intro A J hJ
   have k := Fz.le.trans k g
   have hzst := Fz.le.refl m
   have ir := hs4.mono g
   have it := hs7.mono g
   have iu := hs11.mono g
   have iv := hs14.mono g
   refine s1 hFx 20 (pt b1 0) ?_; intro iw gf; clear hFx
   refine nl (qnI (hJ _ _ ?_)); clear hJ J
   exact ⟨n, l, ad, ae, af, ag, v, x, ah, ai, aj, ak, U, V, W, X, p, al, am, an, ao, ap, aq, y, z, C, D, N, O, P, Q, E, F, H, I, L, M, au, az, a3, be, ba, a4, bb, a5, aS, aI, a6, aT, aJ, pt b1 0, aK, aA, aw, bk, aL, R, ar, Y, m, g, gf.reg, hMx.perm lpr, (nt s), aB, aC, aD, aM, aV, aE, aN, bl, aF, aG, aO, aW, kf, (nt j), (nt c), (nt f), bc, bB, (nt c), bf, bm, bv, (nt f), aX, aY, (nt f), bg, bh, bJ, (fun h _ => nt j h), (fun h _ => nt c h), (nt f), a7, a8, (nt c), aP, aQ, bn, bo, bp, bq, br, (nt j), (nt j), (nt c), (nt c), (nt c), (nt c), (nt c), (nt f), (nt f), (nt f)⟩
  ·
   obtain rfl := oj hi
   have bA := hpre 12 (by kernel_rfl)
   have d := hpre 7 (by kernel_rfl)
   have q := hcl 7 6 (by kernel_rfl) d
   have ab := hcl 7 4 (by kernel_rfl) d
   have ax := hcl 7 1 (by kernel_rfl) d
   have bd := hcl 6 5 (by kernel_rfl) q
   have aa := hcl 4 3 (by kernel_rfl) ab
   have aZ := hcl 3 2 (by kernel_rfl) aa
   have j := hSi
   have c := ngF hcl 14 13 j
   have f := ngF hcl 15 14 c
   have s := ngF hcl 16 13 j
   obtain rfl := aC ax
   obtain rfl := aD aZ
   obtain rfl := aM aa
   obtain rfl := aV ab
   obtain rfl := aE bd
   obtain rfl := aN q
   obtain rfl := bl d
   obtain rfl := aH bA
   obtain rfl := bB d c
   obtain rfl := bv d f
   obtain rfl := bJ d j
   refine hG (any_step ?_); clear hG G; intro A J hJ
   have k := Fz.le.trans k g
   have hzst := Fz.le.refl m
   have ec := hs4.mono g
   have ed := hs7.mono g
   have ee := hs11.mono g
   have ef := hs14.mono g
   have c2 := aP q
   have c3 := aQ q
   have c4 := bn d
   have cm := bo d
   have cn := bp d
   have c5 := bq d
   have c6 := br d
   refine ck hFx 78 #[pt b1 0] ?_
   refine (rden_fun (gmulABS (⟨false, []⟩ : BInt) u0 (rdenS u2)).2.1 fn b1 ah ai aj ak _ _ _ _ _ _ cm cn (hMx.perm (pk 3 rfl)) hMx.fz).mono ?_; rintro _ gg ⟨c7, c8, c9, da, eg, rfl, bj, gh, gi, hm⟩; refine ⟨_, rfl, ?_⟩; intro ix gj; have eh := hm; clear hm hMx hFx
   replace hzst := hzst.mono bj
   replace ec := ec.mono bj
   replace ed := ed.mono bj
   replace ee := ee.mono bj
   replace ef := ef.mono bj
   replace c2 := c2.mono bj
   replace c3 := c3.mono bj
   replace c4 := c4.mono bj
   replace cm := cm.mono bj
   replace cn := cn.mono bj
   replace c5 := c5.mono bj
   replace c6 := c6.mono bj
   replace k := Fz.le.trans k bj
   have gk : Mem B [] w0 Z0 ((.row b1 (e71Nf (rdenS (gmulABS (⟨false, []⟩ : BInt) u0 (rdenS u2)).2.1) c7 c8 c9 da) 71) :: (.row b8 (e71Nf ((gmulABS (⟨false, []⟩ : BInt) u0 (rdenS u2)).2.2) U V W X) 71) :: (.row l [.bool (gmulABS (⟨false, []⟩ : BInt) u0 (rdenS u2)).1.neg, .slice v (gmulABS (⟨false, []⟩ : BInt) u0 (rdenS u2)).1.abs.length x] 69) :: R :: Y :: Rr) eg gg := eh; clear eh
   refine nl (qnI (hJ _ _ ?_)); clear hJ J
   exact ⟨n, l, ad, ae, af, ag, v, x, ah, ai, aj, ak, U, V, W, X, p, c7, c8, c9, da, ap, aq, y, z, C, D, N, O, P, Q, E, F, H, I, L, M, au, az, pt l 0, pt b1 0, pt b1 0, pt b1 0, pt b8 0, pt b8 2, pt l 0, aI, a6, aT, aJ, pt b1 0, pt b1 2, aA, aw, .row b8 (e71Nf ((gmulABS (⟨false, []⟩ : BInt) u0 (rdenS u2)).2.2) U V W X) 71, .row l [.bool (gmulABS (⟨false, []⟩ : BInt) u0 (rdenS u2)).1.neg, .slice v (gmulABS (⟨false, []⟩ : BInt) u0 (rdenS u2)).1.abs.length x] 69, R, .row b1 (e71Nf (rdenS (gmulABS (⟨false, []⟩ : BInt) u0 (rdenS u2)).2.1) c7 c8 c9 da) 71, Y, eg, g.trans hzst, gj.reg, gk.perm ((pk 1 rfl).trans (((pk 1 rfl).trans (((pk 1 rfl).trans (lpr.cons _)).cons _)).cons _)), (nt s), aB, kf, kf, kf, kf, kf, kf, kf, aF, aG, aO, aW, kf, kf, (nt c), (nt f), (tn d), kf2, (nt c), (tn q), (fun _ => tn d), kf2, (nt f), aX, aY, (nt f), (tn ax), (fun _ => tn d), (fun _ => nu), kf2, (fun h _ => nt c h), (nt f), a7, a8, (nt c), (fun _ => c2), (fun _ => c3), (fun _ => c4), (fun _ => cm), (fun _ => cn), (fun _ => c5), (fun _ => c6), (fun _ => gh), (fun _ => gi), (nt c), (nt c), (nt c), (nt c), (nt c), (nt f), (nt f), (nt f)⟩
  ·
   obtain rfl := oj hi
   have j := hpre 13 (by kernel_rfl)
   have a2 := hpre 11 (by kernel_rfl)
   have bi := hpre 8 (by kernel_rfl)
   have bA := hcl 13 12 (by kernel_rfl) j
   have d := hcl 13 7 (by kernel_rfl) j
   have a1 := hcl 11 10 (by kernel_rfl) a2
   have q := hcl 7 6 (by kernel_rfl) d
   have ab := hcl 7 4 (by kernel_rfl) d
   have ax := hcl 7 1 (by kernel_rfl) d
   have bs := hcl 10 9 (by kernel_rfl) a1
   have bd := hcl 6 5 (by kernel_rfl) q
   have aa := hcl 4 3 (by kernel_rfl) ab
   have aZ := hcl 3 2 (by kernel_rfl) aa
   have c := hSi
   have f := ngF hcl 15 14 c
   have s := ngF hcl 16 14 c
   obtain rfl := aC ax
   obtain rfl := aD aZ
   obtain rfl := aM aa
   obtain rfl := aV ab
   obtain rfl := aE bd
   obtain rfl := aN q
   obtain rfl := bl d
   obtain rfl := aF bi
   obtain rfl := aG bs
   obtain rfl := aO a1
   obtain rfl := aW a2
   obtain rfl := aH bA
   obtain rfl := bu j
   obtain rfl := bB d c
   obtain rfl := bv d f
   obtain rfl := b5 j c
   obtain rfl := a8 bi c
   refine hG (any_step ?_); clear hG G; intro A J hJ
   have k := Fz.le.trans k g
   have hzst := Fz.le.refl m
   have ei := hs4.mono g
   have ej := hs7.mono g
   have ek := hs11.mono g
   have el := hs14.mono g
   have db := aP q
   have dc := aQ q
   have dd := bn d
   have de := bo d
   have df := bp d
   have co := bq d
   have cp := br d
   have cq := bw j
   have cr := bx j
   refine ck hFx 77 #[pt p 0, pt b8 0, pt b1 2] ?_
   refine (gmulAB_fun (⟨false, []⟩ : BInt) (gmulABS (⟨false, []⟩ : BInt) u0 (rdenS u2)).2.2 (rdenS (gmulABS (⟨false, []⟩ : BInt) u0 (rdenS u2)).2.1) fp p none 0 b8 U V W X b1 al am an ao _ _ _ _ _ _ (SlR.nil _ _) co cp cq cr (hMx.perm ((pk 4 rfl).trans ((((pk 2 rfl).trans (lpr.cons _)).cons _).cons _))) hMx.fz).mono ?_; rintro _ gl ⟨dg, dh, di, dj, dk, dl, dm, dn, dp, dq, em, rfl, a9, gm, gn, go, gp, gq, hm⟩; refine ⟨_, rfl, ?_⟩; intro iy gr; have en := hm; clear hm hMx hFx
   replace hzst := hzst.mono a9
   replace ei := ei.mono a9
   replace ej := ej.mono a9
   replace ek := ek.mono a9
   replace el := el.mono a9
   replace db := db.mono a9
   replace dc := dc.mono a9
   replace dd := dd.mono a9
   replace de := de.mono a9
   replace df := df.mono a9
   replace co := co.mono a9
   replace cp := cp.mono a9
   replace cq := cq.mono a9
   replace cr := cr.mono a9
   replace k := Fz.le.trans k a9
   have gs : Mem B [] w0 Z0 ((.row p [.bool (gmulABS (⟨false, []⟩ : BInt) (gmulABS (⟨false, []⟩ : BInt) u0 (rdenS u2)).2.2 (rdenS (gmulABS (⟨false, []⟩ : BInt) u0 (rdenS u2)).2.1)).1.neg, .slice dg (gmulABS (⟨false, []⟩ : BInt) (gmulABS (⟨false, []⟩ : BInt) u0 (rdenS u2)).2.2 (rdenS (gmulABS (⟨false, []⟩ : BInt) u0 (rdenS u2)).2.1)).1.abs.length dh] 69) :: (.row b8 (e71Nf ((gmulABS (⟨false, []⟩ : BInt) (gmulABS (⟨false, []⟩ : BInt) u0 (rdenS u2)).2.2 (rdenS (gmulABS (⟨false, []⟩ : BInt) u0 (rdenS u2)).2.1)).2.1) di dj dk dl) 71) :: (.row b1 (e71Nf ((gmulABS (⟨false, []⟩ : BInt) (gmulABS (⟨false, []⟩ : BInt) u0 (rdenS u2)).2.2 (rdenS (gmulABS (⟨false, []⟩ : BInt) u0 (rdenS u2)).2.1)).2.2) dm dn dp dq) 71) :: (.row l [.bool (gmulABS (⟨false, []⟩ : BInt) u0 (rdenS u2)).1.neg, .slice v (gmulABS (⟨false, []⟩ : BInt) u0 (rdenS u2)).1.abs.length x] 69) :: R :: Rr) em gl := en; clear en
   refine nl (qnI (hJ _ _ ?_)); clear hJ J
   exact ⟨n, l, ad, ae, af, ag, v, x, ah, ai, aj, ak, U, V, W, X, p, al, am, an, ao, dg, dh, di, dj, dk, dl, dm, dn, dp, dq, E, F, H, I, L, M, au, az, pt l 0, pt b1 0, pt b1 0, pt b1 0, pt b8 0, pt b8 2, pt l 0, pt p 0, pt b8 0, pt b8 0, pt b8 0, pt b1 0, pt b1 2, pt p 0, aw, .row b1 (e71Nf ((gmulABS (⟨false, []⟩ : BInt) (gmulABS (⟨false, []⟩ : BInt) u0 (rdenS u2)).2.2 (rdenS (gmulABS (⟨false, []⟩ : BInt) u0 (rdenS u2)).2.1)).2.2) dm dn dp dq) 71, .row l [.bool (gmulABS (⟨false, []⟩ : BInt) u0 (rdenS u2)).1.neg, .slice v (gmulABS (⟨false, []⟩ : BInt) u0 (rdenS u2)).1.abs.length x] 69, R, .row p [.bool (gmulABS (⟨false, []⟩ : BInt) (gmulABS (⟨false, []⟩ : BInt) u0 (rdenS u2)).2.2 (rdenS (gmulABS (⟨false, []⟩ : BInt) u0 (rdenS u2)).2.1)).1.neg, .slice dg (gmulABS (⟨false, []⟩ : BInt) (gmulABS (⟨false, []⟩ : BInt) u0 (rdenS u2)).2.2 (rdenS (gmulABS (⟨false, []⟩ : BInt) u0 (rdenS u2)).2.1)).1.abs.length dh] 69, .row b8 (e71Nf ((gmulABS (⟨false, []⟩ : BInt) (gmulABS (⟨false, []⟩ : BInt) u0 (rdenS u2)).2.2 (rdenS (gmulABS (⟨false, []⟩ : BInt) u0 (rdenS u2)).2.1)).2.1) di dj dk dl) 71, em, g.trans hzst, gr.reg, gs.perm ((pk 2 rfl).trans (((pk 2 rfl).trans (((pk 2 rfl).trans (lpr.cons _)).cons _)).cons _)), (nt s), aB, kf, kf, kf, kf, kf, kf, kf, kf, kf, kf, kf, kf, kf, kf, (nt f), (tn d), (fun _ => nu), kf, (tn q), (fun _ => tn d), kf2, (nt f), aX, aY, (nt f), (tn ax), (fun _ => tn d), (fun _ => tn j), (fun _ => nu), kf2, (nt f), (tn bi), (fun _ => nu), kf, (fun _ => db), (fun _ => dc), (fun _ => dd), (fun _ => de), (fun _ => df), (fun _ => co), (fun _ => cp), (fun _ => cq), (fun _ => cr), (fun _ => gm), (fun _ => gn), (fun _ => go), (fun _ => gp), (fun _ => gq), (nt f), (nt f), (nt f)⟩
  ·
   obtain rfl := oj hi
   have c := hpre 14 (by kernel_rfl)
   have d := hpre 7 (by kernel_rfl)
   have bz := hpre 0 (by kernel_rfl)
   have j := hcl 14 13 (by kernel_rfl) c
   have a2 := hcl 14 11 (by kernel_rfl) c
   have bi := hcl 14 8 (by kernel_rfl) c
   have q := hcl 7 6 (by kernel_rfl) d
   have ab := hcl 7 4 (by kernel_rfl) d
   have ax := hcl 7 1 (by kernel_rfl) d
   have bA := hcl 13 12 (by kernel_rfl) j
   have a1 := hcl 11 10 (by kernel_rfl) a2
   have bd := hcl 6 5 (by kernel_rfl) q
   have aa := hcl 4 3 (by kernel_rfl) ab
   have bs := hcl 10 9 (by kernel_rfl) a1
   have aZ := hcl 3 2 (by kernel_rfl) aa
   have f := hSi
   have s := ngF hcl 16 15 f
   obtain rfl := aB bz
   obtain rfl := aC ax
   obtain rfl := aD aZ
   obtain rfl := aM aa
   obtain rfl := aV ab
   obtain rfl := aE bd
   obtain rfl := aN q
   obtain rfl := bl d
   obtain rfl := aF bi
   obtain rfl := aG bs
   obtain rfl := aO a1
   obtain rfl := aW a2
   obtain rfl := aH bA
   obtain rfl := bu j
   obtain rfl := ca c
   obtain rfl := cb c
   obtain rfl := bv d f
   obtain rfl := aY bz f
   obtain rfl := cC c f
   obtain rfl := cc c
   refine hG (any_step ?_); clear hG G; intro A J hJ
   have k := Fz.le.trans k g
   have hzst := Fz.le.refl m
   have eo := hs4.mono g
   have ep := hs7.mono g
   have eq := hs11.mono g
   have er := hs14.mono g
   have dr := aP q
   have ds := aQ q
   have cs := bn d
   have dt := bo d
   have du := bp d
   have dv := bq d
   have dw := br d
   have dx := bw j
   have dy := bx j
   have ct := cd c
   have dz := ce c
   have dA := cf c
   have dB := cg c
   have dC := ch c
   refine ck hFx 76 #[pt n 0, pt l 0, pt p 0] ?_
   refine (gaddI_fun (⟨false, []⟩ : BInt) (gmulABS (⟨false, []⟩ : BInt) u0 (rdenS u2)).1 (gmulABS (⟨false, []⟩ : BInt) (gmulABS (⟨false, []⟩ : BInt) u0 (rdenS u2)).2.2 (rdenS (gmulABS (⟨false, []⟩ : BInt) u0 (rdenS u2)).2.1)).1 fr n none 0 l v x p ap aq _ _ _ _ _ _ (SlR.nil _ _) cs ct (hMx.perm ((pk 2 rfl).trans (((pk 1 rfl).trans (((pk 1 rfl).trans (lpr.cons _)).cons _)).cons _))) hMx.fz).mono ?_; rintro _ gt ⟨dD, dE, dF, dG, dH, dI, es, rfl, av, gu, gv, gw, hm⟩; refine ⟨_, rfl, ?_⟩; intro iz gx; have et := hm; clear hm hMx hFx
   replace hzst := hzst.mono av
   replace eo := eo.mono av
   replace ep := ep.mono av
   replace eq := eq.mono av
   replace er := er.mono av
   replace dr := dr.mono av
   replace ds := ds.mono av
   replace cs := cs.mono av
   replace dt := dt.mono av
   replace du := du.mono av
   replace dv := dv.mono av
   replace dw := dw.mono av
   replace dx := dx.mono av
   replace dy := dy.mono av
   replace ct := ct.mono av
   replace dz := dz.mono av
   replace dA := dA.mono av
   replace dB := dB.mono av
   replace dC := dC.mono av
   replace k := Fz.le.trans k av
   have gy : Mem B [] w0 Z0 ((.row n [.bool (gaddIS (⟨false, []⟩ : BInt) (gmulABS (⟨false, []⟩ : BInt) u0 (rdenS u2)).1 (gmulABS (⟨false, []⟩ : BInt) (gmulABS (⟨false, []⟩ : BInt) u0 (rdenS u2)).2.2 (rdenS (gmulABS (⟨false, []⟩ : BInt) u0 (rdenS u2)).2.1)).1).1.neg, .slice dD (gaddIS (⟨false, []⟩ : BInt) (gmulABS (⟨false, []⟩ : BInt) u0 (rdenS u2)).1 (gmulABS (⟨false, []⟩ : BInt) (gmulABS (⟨false, []⟩ : BInt) u0 (rdenS u2)).2.2 (rdenS (gmulABS (⟨false, []⟩ : BInt) u0 (rdenS u2)).2.1)).1).1.abs.length dE] 69) :: (.row l [.bool (gaddIS (⟨false, []⟩ : BInt) (gmulABS (⟨false, []⟩ : BInt) u0 (rdenS u2)).1 (gmulABS (⟨false, []⟩ : BInt) (gmulABS (⟨false, []⟩ : BInt) u0 (rdenS u2)).2.2 (rdenS (gmulABS (⟨false, []⟩ : BInt) u0 (rdenS u2)).2.1)).1).2.1.neg, .slice dF (gaddIS (⟨false, []⟩ : BInt) (gmulABS (⟨false, []⟩ : BInt) u0 (rdenS u2)).1 (gmulABS (⟨false, []⟩ : BInt) (gmulABS (⟨false, []⟩ : BInt) u0 (rdenS u2)).2.2 (rdenS (gmulABS (⟨false, []⟩ : BInt) u0 (rdenS u2)).2.1)).1).2.1.abs.length dG] 69) :: (.row p [.bool (gaddIS (⟨false, []⟩ : BInt) (gmulABS (⟨false, []⟩ : BInt) u0 (rdenS u2)).1 (gmulABS (⟨false, []⟩ : BInt) (gmulABS (⟨false, []⟩ : BInt) u0 (rdenS u2)).2.2 (rdenS (gmulABS (⟨false, []⟩ : BInt) u0 (rdenS u2)).2.1)).1).2.2.neg, .slice dH (gaddIS (⟨false, []⟩ : BInt) (gmulABS (⟨false, []⟩ : BInt) u0 (rdenS u2)).1 (gmulABS (⟨false, []⟩ : BInt) (gmulABS (⟨false, []⟩ : BInt) u0 (rdenS u2)).2.2 (rdenS (gmulABS (⟨false, []⟩ : BInt) u0 (rdenS u2)).2.1)).1).2.2.abs.length dI] 69) :: (.row b1 (e71Nf ((gmulABS (⟨false, []⟩ : BInt) (gmulABS (⟨false, []⟩ : BInt) u0 (rdenS u2)).2.2 (rdenS (gmulABS (⟨false, []⟩ : BInt) u0 (rdenS u2)).2.1)).2.2) N O P Q) 71) :: (.row b8 (e71Nf ((gmulABS (⟨false, []⟩ : BInt) (gmulABS (⟨false, []⟩ : BInt) u0 (rdenS u2)).2.2 (rdenS (gmulABS (⟨false, []⟩ : BInt) u0 (rdenS u2)).2.1)).2.1) y z C D) 71) :: Rr) es gt := et; clear et
   refine nl (qnI (hJ _ _ ?_)); clear hJ J
   exact ⟨n, l, ad, ae, af, ag, v, x, ah, ai, aj, ak, U, V, W, X, p, al, am, an, ao, ap, aq, y, z, C, D, N, O, P, Q, dD, dE, dF, dG, dH, dI, au, pt n 0, pt l 0, pt b1 0, pt b1 0, pt b1 0, pt b8 0, pt b8 2, pt l 0, pt p 0, pt b8 0, pt b8 0, pt b8 0, pt b1 0, pt b1 2, pt p 0, pt n 0, .row b1 (e71Nf ((gmulABS (⟨false, []⟩ : BInt) (gmulABS (⟨false, []⟩ : BInt) u0 (rdenS u2)).2.2 (rdenS (gmulABS (⟨false, []⟩ : BInt) u0 (rdenS u2)).2.1)).2.2) N O P Q) 71, .row l [.bool (gaddIS (⟨false, []⟩ : BInt) (gmulABS (⟨false, []⟩ : BInt) u0 (rdenS u2)).1 (gmulABS (⟨false, []⟩ : BInt) (gmulABS (⟨false, []⟩ : BInt) u0 (rdenS u2)).2.2 (rdenS (gmulABS (⟨false, []⟩ : BInt) u0 (rdenS u2)).2.1)).1).2.1.neg, .slice dF (gaddIS (⟨false, []⟩ : BInt) (gmulABS (⟨false, []⟩ : BInt) u0 (rdenS u2)).1 (gmulABS (⟨false, []⟩ : BInt) (gmulABS (⟨false, []⟩ : BInt) u0 (rdenS u2)).2.2 (rdenS (gmulABS (⟨false, []⟩ : BInt) u0 (rdenS u2)).2.1)).1).2.1.abs.length dG] 69, .row p [.bool (gaddIS (⟨false, []⟩ : BInt) (gmulABS (⟨false, []⟩ : BInt) u0 (rdenS u2)).1 (gmulABS (⟨false, []⟩ : BInt) (gmulABS (⟨false, []⟩ : BInt) u0 (rdenS u2)).2.2 (rdenS (gmulABS (⟨false, []⟩ : BInt) u0 (rdenS u2)).2.1)).1).2.2.neg, .slice dH (gaddIS (⟨false, []⟩ : BInt) (gmulABS (⟨false, []⟩ : BInt) u0 (rdenS u2)).1 (gmulABS (⟨false, []⟩ : BInt) (gmulABS (⟨false, []⟩ : BInt) u0 (rdenS u2)).2.2 (rdenS (gmulABS (⟨false, []⟩ : BInt) u0 (rdenS u2)).2.1)).1).2.2.abs.length dI] 69, .row n [.bool (gaddIS (⟨false, []⟩ : BInt) (gmulABS (⟨false, []⟩ : BInt) u0 (rdenS u2)).1 (gmulABS (⟨false, []⟩ : BInt) (gmulABS (⟨false, []⟩ : BInt) u0 (rdenS u2)).2.2 (rdenS (gmulABS (⟨false, []⟩ : BInt) u0 (rdenS u2)).2.1)).1).1.neg, .slice dD (gaddIS (⟨false, []⟩ : BInt) (gmulABS (⟨false, []⟩ : BInt) u0 (rdenS u2)).1 (gmulABS (⟨false, []⟩ : BInt) (gmulABS (⟨false, []⟩ : BInt) u0 (rdenS u2)).2.2 (rdenS (gmulABS (⟨false, []⟩ : BInt) u0 (rdenS u2)).2.1)).1).1.abs.length dE] 69, .row b8 (e71Nf ((gmulABS (⟨false, []⟩ : BInt) (gmulABS (⟨false, []⟩ : BInt) u0 (rdenS u2)).2.2 (rdenS (gmulABS (⟨false, []⟩ : BInt) u0 (rdenS u2)).2.1)).2.1) y z C D) 71, es, g.trans hzst, gx.reg, gy.perm ((pk 3 rfl).trans (((pk 1 rfl).trans (((pk 1 rfl).trans (lpr.cons _)).cons _)).cons _)), (nt s), kf, kf, kf, kf, kf, kf, kf, kf, kf, kf, kf, kf, kf, kf, kf, kf, (tn d), (fun _ => tn c), kf, (tn q), (fun _ => tn d), (fun _ => nu), kf, (tn bz), (fun _ => nu), kf, (tn ax), (fun _ => tn d), (fun _ => tn j), (fun _ => tn c), (fun _ => nu), kf, (tn bi), (fun _ => tn c), kf, (fun _ => dr), (fun _ => ds), (fun _ => cs), (fun _ => dt), (fun _ => du), (fun _ => dv), (fun _ => dw), (fun _ => dx), (fun _ => dy), (fun _ => ct), (fun _ => dz), (fun _ => dA), (fun _ => dB), (fun _ => dC), (fun _ => gu), (fun _ => gv), (fun _ => gw)⟩
  obtain rfl := oj hi
  have f := hpre 15 (by kernel_rfl)
  have c := hpre 14 (by kernel_rfl)
  have j := hpre 13 (by kernel_rfl)
  have bA := hpre 12 (by kernel_rfl)
  have a2 := hpre 11 (by kernel_rfl)
  have a1 := hpre 10 (by kernel_rfl)
  have bs := hpre 9 (by kernel_rfl)
  have bi := hpre 8 (by kernel_rfl)
  have d := hpre 7 (by kernel_rfl)
  have q := hpre 6 (by kernel_rfl)
  have bd := hpre 5 (by kernel_rfl)
  have ab := hpre 4 (by kernel_rfl)
  have aa := hpre 3 (by kernel_rfl)
  have aZ := hpre 2 (by kernel_rfl)
  have ax := hpre 1 (by kernel_rfl)
  have bz := hpre 0 (by kernel_rfl)
  have s := hSi
  obtain rfl := aB bz
  obtain rfl := aC ax
  obtain rfl := aD aZ
  obtain rfl := aM aa
  obtain rfl := aV ab
  obtain rfl := aE bd
  obtain rfl := aN q
  obtain rfl := bl d
  obtain rfl := aF bi
  obtain rfl := aG bs
  obtain rfl := aO a1
  obtain rfl := aW a2
  obtain rfl := aH bA
  obtain rfl := bu j
  obtain rfl := ca c
  obtain rfl := cz f
  obtain rfl := cb c
  obtain rfl := cA f
  obtain rfl := cB f
  obtain rfl := cD f
  obtain rfl := cc c
  refine hG (any_step ?_); clear hG G; intro A J hJ
  have k := Fz.le.trans k g
  have hzst := Fz.le.refl m
  have iA := hs4.mono g
  have iB := hs7.mono g
  have iC := hs11.mono g
  have iD := hs14.mono g
  have gz := aP q
  have gA := aQ q
  have gB := bn d
  have gC := bo d
  have gD := bp d
  have gE := bq d
  have gF := br d
  have gG := bw j
  have gH := bx j
  have gI := cd c
  have gJ := ce c
  have gK := cf c
  have gL := cg c
  have gM := ch c
  have gN := cE f
  have gO := cF f
  have gP := cG f
  refine s1 hFx 7 (pt n 0) ?_; intro iE gQ; clear hFx
  refine nl (qnI (hJ _ _ ?_)); clear hJ J
  exact ⟨n, l, ad, ae, af, ag, v, x, ah, ai, aj, ak, U, V, W, X, p, al, am, an, ao, ap, aq, y, z, C, D, N, O, P, Q, E, F, H, I, L, M, pt n 0, pt n 0, pt l 0, pt b1 0, pt b1 0, pt b1 0, pt b8 0, pt b8 2, pt l 0, pt p 0, pt b8 0, pt b8 0, pt b8 0, pt b1 0, pt b1 2, pt p 0, pt n 0, .row b1 (e71Nf ((gmulABS (⟨false, []⟩ : BInt) (gmulABS (⟨false, []⟩ : BInt) u0 (rdenS u2)).2.2 (rdenS (gmulABS (⟨false, []⟩ : BInt) u0 (rdenS u2)).2.1)).2.2) N O P Q) 71, .row l [.bool (gaddIS (⟨false, []⟩ : BInt) (gmulABS (⟨false, []⟩ : BInt) u0 (rdenS u2)).1 (gmulABS (⟨false, []⟩ : BInt) (gmulABS (⟨false, []⟩ : BInt) u0 (rdenS u2)).2.2 (rdenS (gmulABS (⟨false, []⟩ : BInt) u0 (rdenS u2)).2.1)).1).2.1.neg, .slice H (gaddIS (⟨false, []⟩ : BInt) (gmulABS (⟨false, []⟩ : BInt) u0 (rdenS u2)).1 (gmulABS (⟨false, []⟩ : BInt) (gmulABS (⟨false, []⟩ : BInt) u0 (rdenS u2)).2.2 (rdenS (gmulABS (⟨false, []⟩ : BInt) u0 (rdenS u2)).2.1)).1).2.1.abs.length I] 69, .row p [.bool (gaddIS (⟨false, []⟩ : BInt) (gmulABS (⟨false, []⟩ : BInt) u0 (rdenS u2)).1 (gmulABS (⟨false, []⟩ : BInt) (gmulABS (⟨false, []⟩ : BInt) u0 (rdenS u2)).2.2 (rdenS (gmulABS (⟨false, []⟩ : BInt) u0 (rdenS u2)).2.1)).1).2.2.neg, .slice L (gaddIS (⟨false, []⟩ : BInt) (gmulABS (⟨false, []⟩ : BInt) u0 (rdenS u2)).1 (gmulABS (⟨false, []⟩ : BInt) (gmulABS (⟨false, []⟩ : BInt) u0 (rdenS u2)).2.2 (rdenS (gmulABS (⟨false, []⟩ : BInt) u0 (rdenS u2)).2.1)).1).2.2.abs.length M] 69, .row n [.bool (gaddIS (⟨false, []⟩ : BInt) (gmulABS (⟨false, []⟩ : BInt) u0 (rdenS u2)).1 (gmulABS (⟨false, []⟩ : BInt) (gmulABS (⟨false, []⟩ : BInt) u0 (rdenS u2)).2.2 (rdenS (gmulABS (⟨false, []⟩ : BInt) u0 (rdenS u2)).2.1)).1).1.neg, .slice E (gaddIS (⟨false, []⟩ : BInt) (gmulABS (⟨false, []⟩ : BInt) u0 (rdenS u2)).1 (gmulABS (⟨false, []⟩ : BInt) (gmulABS (⟨false, []⟩ : BInt) u0 (rdenS u2)).2.2 (rdenS (gmulABS (⟨false, []⟩ : BInt) u0 (rdenS u2)).2.1)).1).1.abs.length F] 69, .row b8 (e71Nf ((gmulABS (⟨false, []⟩ : BInt) (gmulABS (⟨false, []⟩ : BInt) u0 (rdenS u2)).2.2 (rdenS (gmulABS (⟨false, []⟩ : BInt) u0 (rdenS u2)).2.1)).2.1) y z C D) 71, m, g, gQ.reg, hMx.perm lpr, kf, kf, kf, kf, kf, kf, kf, kf, kf, kf, kf, kf, kf, kf, kf, kf, kf, (tn d), (fun _ => tn c), kf, (tn q), (fun _ => tn d), (fun _ => tn f), kf, (tn bz), (fun _ => tn f), kf, (tn ax), (fun _ => tn d), (fun _ => tn j), (fun _ => tn c), (fun _ => tn f), kf, (tn bi), (fun _ => tn c), kf, (fun _ => gz), (fun _ => gA), (fun _ => gB), (fun _ => gC), (fun _ => gD), (fun _ => gE), (fun _ => gF), (fun _ => gG), (fun _ => gH), (fun _ => gI), (fun _ => gJ), (fun _ => gK), (fun _ => gL), (fun _ => gM), (fun _ => gN), (fun _ => gO), (fun _ => gP)⟩
 case hE =>
  intro S hS gR iF hI; refine Go.Sy.hid ?_; intro G hG; obtain ⟨n, l, ad, ae, af, ag, v, x, ah, ai, aj, ak, U, V, W, X, p, al, am, an, ao, ap, aq, y, z, hI⟩ := hI; obtain ⟨C, D, N, O, P, Q, E, F, H, I, L, M, au, az, a3, be, ba, a4, bb, a5, aS, aI, a6, aT, aJ, hI⟩ := hI; obtain ⟨aU, aK, aA, aw, bk, aL, R, ar, Y, m, g, hFx, hMx, d0, aB, aC, aD, aM, aV, aE, aN, bl, aF, aG, aO, hI⟩ := hI; obtain ⟨aW, aH, bu, ca, cz, bc, bB, cb, bf, bm, bv, cA, aX, aY, cB, bg, bh, bJ, b5, cC, cD, a7, a8, cc, aP, hI⟩ := hI; obtain ⟨aQ, bn, bo, bp, bq, br, bw, bx, cd, ce, cf, cg, ch, cE, cF, hI⟩ := hI; have cG := hI; clear hI; refine hG ?_; clear hG G
  obtain rfl := d0 (hS 16 (by decide))
  obtain rfl := aB (hS 0 (by decide))
  obtain rfl := aC (hS 1 (by decide))
  obtain rfl := aD (hS 2 (by decide))
  obtain rfl := aM (hS 3 (by decide))
  obtain rfl := aV (hS 4 (by decide))
  obtain rfl := aE (hS 5 (by decide))
  obtain rfl := aN (hS 6 (by decide))
  obtain rfl := bl (hS 7 (by decide))
  obtain rfl := aF (hS 8 (by decide))
  obtain rfl := aG (hS 9 (by decide))
  obtain rfl := aO (hS 10 (by decide))
  obtain rfl := aW (hS 11 (by decide))
  obtain rfl := aH (hS 12 (by decide))
  obtain rfl := bu (hS 13 (by decide))
  obtain rfl := ca (hS 14 (by decide))
  obtain rfl := cz (hS 15 (by decide))
  obtain rfl := cb (hS 14 (by decide))
  obtain rfl := cA (hS 15 (by decide))
  obtain rfl := cB (hS 15 (by decide))
  obtain rfl := cD (hS 15 (by decide))
  obtain rfl := cc (hS 14 (by decide))
  have k := Fz.le.trans k g
  have bL := hs4.mono g
  have bM := hs7.mono g
  have bN := hs11.mono g
  have bO := hs14.mono g
  have bP := aP (hS 6 (by decide))
  have bQ := aQ (hS 6 (by decide))
  have bR := bn (hS 7 (by decide))
  have bS := bo (hS 7 (by decide))
  have bT := bp (hS 7 (by decide))
  have bU := bq (hS 7 (by decide))
  have bV := br (hS 7 (by decide))
  have bW := bw (hS 13 (by decide))
  have bX := bx (hS 13 (by decide))
  have bY := cd (hS 14 (by decide))
  have bC := ce (hS 14 (by decide))
  have bD := cf (hS 14 (by decide))
  have bE := cg (hS 14 (by decide))
  have bF := ch (hS 14 (by decide))
  have bG := cE (hS 15 (by decide))
  have bZ := cF (hS 15 (by decide))
  have b0 := cG (hS 15 (by decide))
  refine thn ?_
  have eu : Fr 33 [] [⟨0, [], pt b1 0⟩, ⟨1, [], pt b1 0⟩, ⟨2, [], pt b8 0⟩, ⟨7, [], pt n 0⟩] gR := hFx.reg; clear hFx
  refine sqH ?_; intro gS ev
  refine bt eu hMx 2 [] [] [(24, pt b1 0), (25, pt n 0)] ?_; intro iG ew; clear eu
  refine nw ew hMx pb [.bool false, .slice none 0 0] 69 ?_; intro b2 iH iI ex dJ; clear ew hMx
  refine s1 ex 27 (pt b1 0) ?_; intro iJ ey; clear ex
  obtain ⟨gT, ez⟩ := fs
  refine ck ey 78 #[pt b1 0] ?_
  obtain ⟨bH, gU, eA⟩ := hxq ez; clear ez
  have h9 := rden_fun (gmulABS (⟨false, []⟩ : BInt) (gmulABS (⟨false, []⟩ : BInt) u0 (rdenS u2)).2.2 (rdenS (gmulABS (⟨false, []⟩ : BInt) u0 (rdenS u2)).2.1)).2.2 gT b1 N O P Q _ _ _ _ _ _ bE bF (dJ.perm (pk 1 rfl)) dJ.fz; rw [gU] at h9; refine h9.mono ?_; clear h9; rintro _ gV ⟨dK, dL, dM, dN, gW, rfl, ac, b3, b4, hm⟩; refine ⟨_, rfl, ?_⟩; intro iK eB; have eC := hm; clear hm dJ ey
  replace bL := bL.mono ac
  replace bM := bM.mono ac
  replace bN := bN.mono ac
  replace bO := bO.mono ac
  replace bP := bP.mono ac
  replace bQ := bQ.mono ac
  replace bR := bR.mono ac
  replace bS := bS.mono ac
  replace bT := bT.mono ac
  replace bU := bU.mono ac
  replace bV := bV.mono ac
  replace bW := bW.mono ac
  replace bX := bX.mono ac
  replace bY := bY.mono ac
  replace bC := bC.mono ac
  replace bD := bD.mono ac
  replace bE := bE.mono ac
  replace bF := bF.mono ac
  replace bG := bG.mono ac
  replace bZ := bZ.mono ac
  replace b0 := b0.mono ac
  replace k := Fz.le.trans k ac
  have dO : Mem B [] w0 Z0 ((.row b1 (e71Nf bH dK dL dM dN) 71) :: (.row b2 [.bool false, .slice none 0 0] 69) :: (.row l [.bool (gaddIS (⟨false, []⟩ : BInt) (gmulABS (⟨false, []⟩ : BInt) u0 (rdenS u2)).1 (gmulABS (⟨false, []⟩ : BInt) (gmulABS (⟨false, []⟩ : BInt) u0 (rdenS u2)).2.2 (rdenS (gmulABS (⟨false, []⟩ : BInt) u0 (rdenS u2)).2.1)).1).2.1.neg, .slice H (gaddIS (⟨false, []⟩ : BInt) (gmulABS (⟨false, []⟩ : BInt) u0 (rdenS u2)).1 (gmulABS (⟨false, []⟩ : BInt) (gmulABS (⟨false, []⟩ : BInt) u0 (rdenS u2)).2.2 (rdenS (gmulABS (⟨false, []⟩ : BInt) u0 (rdenS u2)).2.1)).1).2.1.abs.length I] 69) :: (.row p [.bool (gaddIS (⟨false, []⟩ : BInt) (gmulABS (⟨false, []⟩ : BInt) u0 (rdenS u2)).1 (gmulABS (⟨false, []⟩ : BInt) (gmulABS (⟨false, []⟩ : BInt) u0 (rdenS u2)).2.2 (rdenS (gmulABS (⟨false, []⟩ : BInt) u0 (rdenS u2)).2.1)).1).2.2.neg, .slice L (gaddIS (⟨false, []⟩ : BInt) (gmulABS (⟨false, []⟩ : BInt) u0 (rdenS u2)).1 (gmulABS (⟨false, []⟩ : BInt) (gmulABS (⟨false, []⟩ : BInt) u0 (rdenS u2)).2.2 (rdenS (gmulABS (⟨false, []⟩ : BInt) u0 (rdenS u2)).2.1)).1).2.2.abs.length M] 69) :: (.row n [.bool (gaddIS (⟨false, []⟩ : BInt) (gmulABS (⟨false, []⟩ : BInt) u0 (rdenS u2)).1 (gmulABS (⟨false, []⟩ : BInt) (gmulABS (⟨false, []⟩ : BInt) u0 (rdenS u2)).2.2 (rdenS (gmulABS (⟨false, []⟩ : BInt) u0 (rdenS u2)).2.1)).1).1.neg, .slice E (gaddIS (⟨false, []⟩ : BInt) (gmulABS (⟨false, []⟩ : BInt) u0 (rdenS u2)).1 (gmulABS (⟨false, []⟩ : BInt) (gmulABS (⟨false, []⟩ : BInt) u0 (rdenS u2)).2.2 (rdenS (gmulABS (⟨false, []⟩ : BInt) u0 (rdenS u2)).2.1)).1).1.abs.length F] 69) :: (.row b8 (e71Nf ((gmulABS (⟨false, []⟩ : BInt) (gmulABS (⟨false, []⟩ : BInt) u0 (rdenS u2)).2.2 (rdenS (gmulABS (⟨false, []⟩ : BInt) u0 (rdenS u2)).2.1)).2.1) y z C D) 71) :: Rr) gW gV := eC; clear eC
  have eD := eA (b3.small); clear eA
  have gX := eD (b4.small); clear eD
  refine s1 eB 29 (pt b8 0) ?_; intro iL eE; clear eB
  obtain ⟨gY, eF⟩ := gX
  refine ck eE 78 #[pt b8 0] ?_
  obtain ⟨ci, gZ, eG⟩ := hxq eF; clear eF
  have h9 := rden_fun (gmulABS (⟨false, []⟩ : BInt) (gmulABS (⟨false, []⟩ : BInt) u0 (rdenS u2)).2.2 (rdenS (gmulABS (⟨false, []⟩ : BInt) u0 (rdenS u2)).2.1)).2.1 gY b8 y z C D _ _ _ _ _ _ bC bD (dO.perm (pk 5 rfl)) dO.fz; rw [gZ] at h9; refine h9.mono ?_; clear h9; rintro _ g0 ⟨eH, eI, eJ, eK, g1, rfl, T, b7, b9, hm⟩; refine ⟨_, rfl, ?_⟩; intro iM eL; have eM := hm; clear hm dO eE
  replace bL := bL.mono T
  replace bM := bM.mono T
  replace bN := bN.mono T
  replace bO := bO.mono T
  replace bP := bP.mono T
  replace bQ := bQ.mono T
  replace bR := bR.mono T
  replace bS := bS.mono T
  replace bT := bT.mono T
  replace bU := bU.mono T
  replace bV := bV.mono T
  replace bW := bW.mono T
  replace bX := bX.mono T
  replace bY := bY.mono T
  replace bC := bC.mono T
  replace bD := bD.mono T
  replace bE := bE.mono T
  replace bF := bF.mono T
  replace bG := bG.mono T
  replace bZ := bZ.mono T
  replace b0 := b0.mono T
  replace b3 := b3.mono T
  replace b4 := b4.mono T
  replace k := Fz.le.trans k T
  have dP : Mem B [] w0 Z0 ((.row b8 (e71Nf ci eH eI eJ eK) 71) :: (.row b1 (e71Nf bH dK dL dM dN) 71) :: (.row b2 [.bool false, .slice none 0 0] 69) :: (.row l [.bool (gaddIS (⟨false, []⟩ : BInt) (gmulABS (⟨false, []⟩ : BInt) u0 (rdenS u2)).1 (gmulABS (⟨false, []⟩ : BInt) (gmulABS (⟨false, []⟩ : BInt) u0 (rdenS u2)).2.2 (rdenS (gmulABS (⟨false, []⟩ : BInt) u0 (rdenS u2)).2.1)).1).2.1.neg, .slice H (gaddIS (⟨false, []⟩ : BInt) (gmulABS (⟨false, []⟩ : BInt) u0 (rdenS u2)).1 (gmulABS (⟨false, []⟩ : BInt) (gmulABS (⟨false, []⟩ : BInt) u0 (rdenS u2)).2.2 (rdenS (gmulABS (⟨false, []⟩ : BInt) u0 (rdenS u2)).2.1)).1).2.1.abs.length I] 69) :: (.row p [.bool (gaddIS (⟨false, []⟩ : BInt) (gmulABS (⟨false, []⟩ : BInt) u0 (rdenS u2)).1 (gmulABS (⟨false, []⟩ : BInt) (gmulABS (⟨false, []⟩ : BInt) u0 (rdenS u2)).2.2 (rdenS (gmulABS (⟨false, []⟩ : BInt) u0 (rdenS u2)).2.1)).1).2.2.neg, .slice L (gaddIS (⟨false, []⟩ : BInt) (gmulABS (⟨false, []⟩ : BInt) u0 (rdenS u2)).1 (gmulABS (⟨false, []⟩ : BInt) (gmulABS (⟨false, []⟩ : BInt) u0 (rdenS u2)).2.2 (rdenS (gmulABS (⟨false, []⟩ : BInt) u0 (rdenS u2)).2.1)).1).2.2.abs.length M] 69) :: (.row n [.bool (gaddIS (⟨false, []⟩ : BInt) (gmulABS (⟨false, []⟩ : BInt) u0 (rdenS u2)).1 (gmulABS (⟨false, []⟩ : BInt) (gmulABS (⟨false, []⟩ : BInt) u0 (rdenS u2)).2.2 (rdenS (gmulABS (⟨false, []⟩ : BInt) u0 (rdenS u2)).2.1)).1).1.neg, .slice E (gaddIS (⟨false, []⟩ : BInt) (gmulABS (⟨false, []⟩ : BInt) u0 (rdenS u2)).1 (gmulABS (⟨false, []⟩ : BInt) (gmulABS (⟨false, []⟩ : BInt) u0 (rdenS u2)).2.2 (rdenS (gmulABS (⟨false, []⟩ : BInt) u0 (rdenS u2)).2.1)).1).1.abs.length F] 69) :: Rr) g1 g0 := eM; clear eM
  have eN := eG (b7.small); clear eG
  have g2 := eN (b9.small); clear eN
  obtain ⟨g3, eO⟩ := g2
  refine ck eL 77 #[pt b2 0, pt b1 2, pt b8 2] ?_
  obtain ⟨aR, g4, eP⟩ := hxq eO; clear eO
  have h9 := gmulBB_fun (⟨false, []⟩ : BInt) bH ci g3 b2 none 0 b1 dK dL dM dN b8 eH eI eJ eK _ _ _ _ _ _ (SlR.nil _ _) b3 b4 b7 b9 (dP.perm ((pk 2 rfl).trans (((pk 1 rfl).trans (lpr.cons _)).cons _))) dP.fz; rw [g4] at h9; refine h9.mono ?_; clear h9; rintro _ g5 ⟨eQ, eR, eS, eT, eU, eV, dQ, dR, dS, dT, g6, rfl, u, cu, cv, cw, cx, cy, hm⟩; refine ⟨_, rfl, ?_⟩; intro iN eW; have eX := hm; clear hm dP eL
  replace bL := bL.mono u
  replace bM := bM.mono u
  replace bN := bN.mono u
  replace bO := bO.mono u
  replace bP := bP.mono u
  replace bQ := bQ.mono u
  replace bR := bR.mono u
  replace bS := bS.mono u
  replace bT := bT.mono u
  replace bU := bU.mono u
  replace bV := bV.mono u
  replace bW := bW.mono u
  replace bX := bX.mono u
  replace bY := bY.mono u
  replace bC := bC.mono u
  replace bD := bD.mono u
  replace bE := bE.mono u
  replace bF := bF.mono u
  replace bG := bG.mono u
  replace bZ := bZ.mono u
  replace b0 := b0.mono u
  replace b3 := b3.mono u
  replace b4 := b4.mono u
  replace b7 := b7.mono u
  replace b9 := b9.mono u
  replace k := Fz.le.trans k u
  have dU : Mem B [] w0 Z0 ((.row b2 [.bool aR.1.neg, .slice eQ aR.1.abs.length eR] 69) :: (.row b1 (e71Nf aR.2.1 eS eT eU eV) 71) :: (.row b8 (e71Nf aR.2.2 dQ dR dS dT) 71) :: (.row l [.bool (gaddIS (⟨false, []⟩ : BInt) (gmulABS (⟨false, []⟩ : BInt) u0 (rdenS u2)).1 (gmulABS (⟨false, []⟩ : BInt) (gmulABS (⟨false, []⟩ : BInt) u0 (rdenS u2)).2.2 (rdenS (gmulABS (⟨false, []⟩ : BInt) u0 (rdenS u2)).2.1)).1).2.1.neg, .slice H (gaddIS (⟨false, []⟩ : BInt) (gmulABS (⟨false, []⟩ : BInt) u0 (rdenS u2)).1 (gmulABS (⟨false, []⟩ : BInt) (gmulABS (⟨false, []⟩ : BInt) u0 (rdenS u2)).2.2 (rdenS (gmulABS (⟨false, []⟩ : BInt) u0 (rdenS u2)).2.1)).1).2.1.abs.length I] 69) :: (.row p [.bool (gaddIS (⟨false, []⟩ : BInt) (gmulABS (⟨false, []⟩ : BInt) u0 (rdenS u2)).1 (gmulABS (⟨false, []⟩ : BInt) (gmulABS (⟨false, []⟩ : BInt) u0 (rdenS u2)).2.2 (rdenS (gmulABS (⟨false, []⟩ : BInt) u0 (rdenS u2)).2.1)).1).2.2.neg, .slice L (gaddIS (⟨false, []⟩ : BInt) (gmulABS (⟨false, []⟩ : BInt) u0 (rdenS u2)).1 (gmulABS (⟨false, []⟩ : BInt) (gmulABS (⟨false, []⟩ : BInt) u0 (rdenS u2)).2.2 (rdenS (gmulABS (⟨false, []⟩ : BInt) u0 (rdenS u2)).2.1)).1).2.2.abs.length M] 69) :: (.row n [.bool (gaddIS (⟨false, []⟩ : BInt) (gmulABS (⟨false, []⟩ : BInt) u0 (rdenS u2)).1 (gmulABS (⟨false, []⟩ : BInt) (gmulABS (⟨false, []⟩ : BInt) u0 (rdenS u2)).2.2 (rdenS (gmulABS (⟨false, []⟩ : BInt) u0 (rdenS u2)).2.1)).1).1.neg, .slice E (gaddIS (⟨false, []⟩ : BInt) (gmulABS (⟨false, []⟩ : BInt) u0 (rdenS u2)).1 (gmulABS (⟨false, []⟩ : BInt) (gmulABS (⟨false, []⟩ : BInt) u0 (rdenS u2)).2.2 (rdenS (gmulABS (⟨false, []⟩ : BInt) u0 (rdenS u2)).2.1)).1).1.abs.length F] 69) :: Rr) g6 g5 := eX; clear eX
  have eY := eP (cu.small); clear eP
  have eZ := eY (cv.small); clear eY
  have e0 := eZ (cw.small); clear eZ
  have e1 := e0 (cx.small); clear e0
  have g7 := e1 (cy.small); clear e1
  obtain ⟨g8, e2⟩ := g7
  refine ck eW 75 #[pt b1 0, pt n 0, pt b2 0] ?_
  obtain ⟨bI, g9, e3⟩ := hxq e2; clear e2
  have h9 := rsf_fun aR.2.1 (gaddIS (⟨false, []⟩ : BInt) (gmulABS (⟨false, []⟩ : BInt) u0 (rdenS u2)).1 (gmulABS (⟨false, []⟩ : BInt) (gmulABS (⟨false, []⟩ : BInt) u0 (rdenS u2)).2.2 (rdenS (gmulABS (⟨false, []⟩ : BInt) u0 (rdenS u2)).2.1)).1).1 aR.1 g8 b1 eS eT eU eV n E F b2 eQ eR _ _ _ _ _ _ cv cw bG cu (dU.perm ((pk 1 rfl).trans (((pk 4 rfl).trans (lpr.cons _)).cons _))) dU.fz; rw [g9] at h9; refine h9.mono ?_; clear h9; rintro _ ha ⟨e4, e5, e6, e7, hb, hc, hd, he, e8, rfl, t, e9, fa, hf, hg, hm⟩; refine ⟨_, rfl, ?_⟩; intro iO fb; have fc := hm; clear hm dU eW
  replace bL := bL.mono t
  replace bM := bM.mono t
  replace bN := bN.mono t
  replace bO := bO.mono t
  replace bP := bP.mono t
  replace bQ := bQ.mono t
  replace bR := bR.mono t
  replace bS := bS.mono t
  replace bT := bT.mono t
  replace bU := bU.mono t
  replace bV := bV.mono t
  replace bW := bW.mono t
  replace bX := bX.mono t
  replace bY := bY.mono t
  replace bC := bC.mono t
  replace bD := bD.mono t
  replace bE := bE.mono t
  replace bF := bF.mono t
  replace bG := bG.mono t
  replace bZ := bZ.mono t
  replace b0 := b0.mono t
  replace b3 := b3.mono t
  replace b4 := b4.mono t
  replace b7 := b7.mono t
  replace b9 := b9.mono t
  replace cu := cu.mono t
  replace cv := cv.mono t
  replace cw := cw.mono t
  replace cx := cx.mono t
  replace cy := cy.mono t
  replace k := Fz.le.trans k t
  have hh : Mem B [] w0 Z0 ((.row b1 (e71Nf bI.1 e4 e5 e6 e7) 71) :: (.row n [.bool bI.2.1.neg, .slice hb bI.2.1.abs.length hc] 69) :: (.row b2 [.bool bI.2.2.neg, .slice hd bI.2.2.abs.length he] 69) :: (.row b8 (e71Nf aR.2.2 dQ dR dS dT) 71) :: (.row l [.bool (gaddIS (⟨false, []⟩ : BInt) (gmulABS (⟨false, []⟩ : BInt) u0 (rdenS u2)).1 (gmulABS (⟨false, []⟩ : BInt) (gmulABS (⟨false, []⟩ : BInt) u0 (rdenS u2)).2.2 (rdenS (gmulABS (⟨false, []⟩ : BInt) u0 (rdenS u2)).2.1)).1).2.1.neg, .slice H (gaddIS (⟨false, []⟩ : BInt) (gmulABS (⟨false, []⟩ : BInt) u0 (rdenS u2)).1 (gmulABS (⟨false, []⟩ : BInt) (gmulABS (⟨false, []⟩ : BInt) u0 (rdenS u2)).2.2 (rdenS (gmulABS (⟨false, []⟩ : BInt) u0 (rdenS u2)).2.1)).1).2.1.abs.length I] 69) :: (.row p [.bool (gaddIS (⟨false, []⟩ : BInt) (gmulABS (⟨false, []⟩ : BInt) u0 (rdenS u2)).1 (gmulABS (⟨false, []⟩ : BInt) (gmulABS (⟨false, []⟩ : BInt) u0 (rdenS u2)).2.2 (rdenS (gmulABS (⟨false, []⟩ : BInt) u0 (rdenS u2)).2.1)).1).2.2.neg, .slice L (gaddIS (⟨false, []⟩ : BInt) (gmulABS (⟨false, []⟩ : BInt) u0 (rdenS u2)).1 (gmulABS (⟨false, []⟩ : BInt) (gmulABS (⟨false, []⟩ : BInt) u0 (rdenS u2)).2.2 (rdenS (gmulABS (⟨false, []⟩ : BInt) u0 (rdenS u2)).2.1)).1).2.2.abs.length M] 69) :: Rr) e8 ha := fc; clear fc
  have fd := e3 (e9.small); clear e3
  have fe := fd (fa.small); clear fd
  have fg := fe (hf.small); clear fe
  have hj := fg (hg.small); clear fg
  refine s1 fb 6 (pt b1 0) ?_; intro iP hk; clear fb
  refine nlH (ev _ _ ?_); clear ev gS
  refine wp_ret ?_
  refine ra1 hk (pt b1 0) ?_
  exact ⟨(bI.1, aR.2.2), e4, e5, e6, e7, dQ, dR, dS, dT, e8, rfl, hj, k, e9, fa, cx, cy, hh.keep (List.Sublist.cons_cons _ (List.Sublist.cons _ (List.Sublist.cons _ (List.Sublist.cons_cons _ (List.Sublist.cons _ (List.Sublist.cons _ (List.Sublist.refl _)))))))⟩

theorem rdenom_walk (u0 : BRat) (b1 : Nat) (ao2 : Option Addr) (cap3 : Nat) (ao5 : Option Addr) (cap6 : Nat) (B : Nat) (w0 : World) (Z0 : Fz) (Rr : List Res) (Z : Fz) (w : World) (hs4 : SlR (tyInt .u32) Z ao2 cap3 u0.a.abs) (hs7 : SlR (tyInt .u32) Z ao5 cap6 u0.b.abs) (hM0 : Mem B [] w0 Z0 ((.row b1 [.bool u0.a.neg, .slice ao2 u0.a.abs.length cap3, .bool u0.b.neg, .slice ao5 u0.b.abs.length cap6] 71) :: Rr) Z w) (hZ : Z.on w) {K : (BRat × BInt) → Prop} (hp : rdenom_vc u0 K) : Calls Tryd.prog 44 #[pt b1 0] w fun e w' => ∃ (r : BRat × BInt) (ao1001 : Option Addr) (cap1002 : Nat) (ao1004 : Option Addr) (cap1005 : Nat) (b1007 : Nat) (ao1008 : Option Addr) (cap1009 : Nat) (Z' : Fz), e = .returned (pt b1007 0) ∧ K r ∧ Fz.le Z Z' ∧ SlR (tyInt .u32) Z' ao1001 cap1002 r.1.a.abs ∧ SlR (tyInt .u32) Z' ao1004 cap1005 r.1.b.abs ∧ SlR (tyInt .u32) Z' ao1008 cap1009 r.2.abs ∧ Mem B [] w0 Z0 ((.row b1007 [.bool r.2.neg, .slice ao1008 r.2.abs.length cap1009] 69) :: (.row b1 [.bool r.1.a.neg, .slice ao1001 r.1.a.abs.length cap1002, .bool r.1.b.neg, .slice ao1004 r.1.b.abs.length cap1005] 71) :: Rr) Z' w' := by
 refine enter0 Tryd.func44 rfl rfl (by kernel_rfl) ?_; intro a0 G; have h := Fz.le.refl Z
 have H := hp (hs4.small); clear hp
 have am := H (hs7.small); clear H
 refine sqB G hM0 [] [] [] ?_; intro aG I; clear G
 refine sqH ?_; intro an J
 refine nw I hM0 pb [.bool false, .slice none 0 0] 69 ?_; intro d aH aI L q; clear I hM0
 refine s1 L 4 (pt b1 0) ?_; intro aJ M; clear L
 obtain ⟨ao, N⟩ := am
 refine ck M 78 #[pt b1 0] ?_
 obtain ⟨c, ap, O⟩ := hxq N; clear N
 have s := rden_fun u0 ao b1 ao2 cap3 ao5 cap6 _ _ _ _ _ _ hs4 hs7 (q.perm (pk 1 rfl)) q.fz; rw [ap] at s; refine s.mono ?_; clear s; rintro _ aq ⟨l, m, f, g, P, rfl, t, j, i, hm⟩; refine ⟨_, rfl, ?_⟩; intro aK Q; have R := hm; clear hm q M
 replace hs4 := hs4.mono t
 replace hs7 := hs7.mono t
 replace h := Fz.le.trans h t
 have u : Mem B [] w0 Z0 ((.row b1 (e71Nf c l m f g) 71) :: (.row d [.bool false, .slice none 0 0] 69) :: Rr) P aq := R; clear R
 have S := O (j.small); clear O
 have ar := S (i.small); clear S
 refine ck Q 80 #[pt d 0, pt b1 2] ?_
 refine enter0 Tryd.func80 rfl rfl (by kernel_rfl) ?_; intro au T
 have U : Fr 16 [] [⟨0, [], pt d 0⟩, ⟨1, [], pt b1 2⟩] au := T.reg; clear T
 refine sqB U u [] [] [] ?_; intro av V; clear U
 have W : Fr 16 [] [⟨0, [], pt d 0⟩, ⟨1, [], pt b1 2⟩] av := V.reg; clear V
 refine wp_seq (rgS mixed u [(0, true), (1, true), (2, true), (3, true), (4, true), (5, true), (6, true), (7, true), (8, true), (9, false), (10, false), (11, true)] [] [0] [.row b1 (e71Nf c l m f g) 71] ?_)
 intro aw X aL v; clear u
 have k := Fz.le.refl P
 refine cS W 9 [0, 0] [] [(5, pt d 0), (9, .bool c.b.neg), (13, .slice f c.b.abs.length g)] ?_; intro aM Y; clear W
 refine eS rfl ?_; intro ax aa
 obtain ⟨ay, az⟩ := ar
 refine ck Y 88 #[.slice f c.b.abs.length g] ?_
 refine (gtwin_fun c.b.abs ay f g _ _ i v.fz).mono ?_; rintro _ ab ⟨x, y, aA, rfl, hm⟩; refine ⟨_, rfl, ?_⟩; intro aN ac; have ad := v.callZ hm; have o := hm.ext.le; clear hm v Y
 replace hs4 := hs4.mono o
 replace hs7 := hs7.mono o
 replace j := j.mono o
 replace i := i.mono o
 replace k := k.mono o
 replace h := Fz.le.trans h o
 have ae : Mem B [] w0 Z0 ((.own (tyInt .u32) 109 x y (gtwinS c.b.abs)) :: (.row b1 (e71Nf c l m f g) 71) :: (.row d [.bool false, .slice none 0 0] 69) :: Rr) aA ab := ad; clear ad
 refine nl (qnI (aa _ _ (ae.cst k [1]) ?_)); clear aa ax
 refine eS rfl ?_; intro aB af
 obtain ⟨aC, p, ag, z⟩ := ae.freeze 0 rfl
 replace hs4 := hs4.mono p
 replace hs7 := hs7.mono p
 replace j := j.mono p
 replace i := i.mono p
 replace k := k.mono p
 replace h := Fz.le.trans h p
 have A : Mem B [] w0 Z0 ((.row b1 (e71Nf c l m f g) 71) :: (.row d [.bool false, .slice none 0 0] 69) :: Rr) aC ab := ag; clear ag
 refine ck ac 83 #[pt d 0, .bool c.b.neg, .slice x (gtwinS c.b.abs).length y] ?_
 refine (ggive_fun (⟨false, []⟩ : BInt) c.b.neg (gtwinS c.b.abs) d none 0 x y _ _ _ _ _ _ (SlR.nil _ _) z (A.perm (pk 1 rfl)) A.fz).mono ?_; rintro _ ah ⟨C, D, E, rfl, n, aD, hm⟩; refine ⟨_, rfl, ?_⟩; intro aO ai; have aj := hm; clear hm A ac
 replace hs4 := hs4.mono n
 replace hs7 := hs7.mono n
 replace j := j.mono n
 replace i := i.mono n
 replace k := k.mono n
 replace z := z.mono n
 replace h := Fz.le.trans h n
 have F : Mem B [] w0 Z0 ((.row d [.bool (ggive (⟨false, []⟩ : BInt) c.b.neg (gtwinS c.b.abs)).neg, .slice C (ggive (⟨false, []⟩ : BInt) c.b.neg (gtwinS c.b.abs)).abs.length D] 69) :: (.row b1 (e71Nf c l m f g) 71) :: Rr) E ah := aj; clear aj
 refine nl (qnI (af _ _ (F.cst k [1]) ?_)); clear af aB
 refine cS ai 1 [] [] [(4, pt d 0)] ?_; intro aP ak; clear ai
 refine nS (X _ _ ?_); clear X aw
 refine thn ?_
 refine wp_ret ?_
 refine ra1 ak (pt d 0) ?_
 refine ⟨_, rfl, ?_⟩; intro aQ al; clear Q ak
 refine s1 al 2 (pt d 0) ?_; intro aR aE; clear al
 have aF : Mem B [] w0 Z0 ((.row d [.bool (ggive (⟨false, []⟩ : BInt) c.b.neg (gtwinS c.b.abs)).neg, .slice C (ggive (⟨false, []⟩ : BInt) c.b.neg (gtwinS c.b.abs)).abs.length D] 69) :: (.row b1 (e71Nf c l m f g) 71) :: Rr) E ah := F; clear F
 refine nlH (J _ _ ?_); clear J an
 refine wp_ret ?_
 refine ra1 aE (pt d 0) ?_
 exact ⟨(c, (ggive (⟨false, []⟩ : BInt) c.b.neg (gtwinS c.b.abs))), l, m, f, g, d, C, D, E, rfl, az, h, j, i, aD, aF.keep (List.Sublist.cons_cons _ (List.Sublist.cons_cons _ (List.Sublist.refl _)))⟩

end Go.Proofs.YtdndfbamhnchfaaDoor
set_option linter.unusedVariables false
set_option linter.unusedSimpArgs false
namespace Go.Proofs.YtdndfbamhnchfaaDoor
open Go.Sy Go.RowKit
theorem rsf64_fun (u0 : BRat) (u1 : Int) (u2 : Int) (hpre : u2 ≠ 0 ∧ (-9223372036854775808 ≤ u1 ∧ u1 ≤ 9223372036854775807) ∧ -9223372036854775808 ≤ u2 ∧ u2 ≤ 9223372036854775807) (b1 : Nat) (ao2 : Option Addr) (cap3 : Nat) (ao5 : Option Addr) (cap6 : Nat) (B : Nat) (w0 : World) (Z0 : Fz) (Rr : List Res) (Z : Fz) (w : World) (hs4 : SlR (tyInt .u32) Z ao2 cap3 u0.a.abs) (hs7 : SlR (tyInt .u32) Z ao5 cap6 u0.b.abs) (hM0 : Mem B [] w0 Z0 ((.row b1 [.bool u0.a.neg, .slice ao2 u0.a.abs.length cap3, .bool u0.b.neg, .slice ao5 u0.b.abs.length cap6] 71) :: Rr) Z w) (hZ : Z.on w) : Calls Tryd.prog 39 #[pt b1 0, i6 u1, i6 u2] w fun e w' => ∃ (ao1001 : Option Addr) (cap1002 : Nat) (ao1004 : Option Addr) (cap1005 : Nat) (Z' : Fz), e = .returned (pt b1 0) ∧ Fz.le Z Z' ∧ SlR (tyInt .u32) Z' ao1001 cap1002 (rsf64S u0 u1 u2).a.abs ∧ SlR (tyInt .u32) Z' ao1004 cap1005 (rsf64S u0 u1 u2).b.abs ∧ Mem B [] w0 Z0 ((.row b1 [.bool (rsf64S u0 u1 u2).a.neg, .slice ao1001 (rsf64S u0 u1 u2).a.abs.length cap1002, .bool (rsf64S u0 u1 u2).b.neg, .slice ao1004 (rsf64S u0 u1 u2).b.abs.length cap1005] 71) :: Rr) Z' w' :=
  (rsf64_walk u0 u1 u2 b1 ao2 cap3 ao5 cap6 B w0 Z0 Rr Z w hs4 hs7 hM0 hZ (rsf64_ok u0 u1 u2 hpre)).mono fun _ _ ⟨r, h0, h1, h2, h3, h4, he, hk, f0, f1, f2, hm⟩ => by subst hk; exact ⟨h0, h1, h2, h3, h4, he, f0, f1, f2, hm⟩

theorem rsi_fun (u0 : BRat) (u1 : Int) (hpre : -9223372036854775808 ≤ u1 ∧ u1 ≤ 9223372036854775807) (b1 : Nat) (ao2 : Option Addr) (cap3 : Nat) (ao5 : Option Addr) (cap6 : Nat) (B : Nat) (w0 : World) (Z0 : Fz) (Rr : List Res) (Z : Fz) (w : World) (hs4 : SlR (tyInt .u32) Z ao2 cap3 u0.a.abs) (hs7 : SlR (tyInt .u32) Z ao5 cap6 u0.b.abs) (hM0 : Mem B [] w0 Z0 ((.row b1 [.bool u0.a.neg, .slice ao2 u0.a.abs.length cap3, .bool u0.b.neg, .slice ao5 u0.b.abs.length cap6] 71) :: Rr) Z w) (hZ : Z.on w) : Calls Tryd.prog 41 #[pt b1 0, i6 u1] w fun e w' => ∃ (ao1001 : Option Addr) (cap1002 : Nat) (ao1004 : Option Addr) (cap1005 : Nat) (Z' : Fz), e = .returned (pt b1 0) ∧ Fz.le Z Z' ∧ SlR (tyInt .u32) Z' ao1001 cap1002 (rsiS u0 u1).a.abs ∧ SlR (tyInt .u32) Z' ao1004 cap1005 (rsiS u0 u1).b.abs ∧ Mem B [] w0 Z0 ((.row b1 [.bool (rsiS u0 u1).a.neg, .slice ao1001 (rsiS u0 u1).a.abs.length cap1002, .bool (rsiS u0 u1).b.neg, .slice ao1004 (rsiS u0 u1).b.abs.length cap1005] 71) :: Rr) Z' w' :=
  (rsi_walk u0 u1 b1 ao2 cap3 ao5 cap6 B w0 Z0 Rr Z w hs4 hs7 hM0 hZ (rsi_ok u0 u1 hpre)).mono fun _ _ ⟨r, h0, h1, h2, h3, h4, he, hk, f0, f1, f2, hm⟩ => by subst hk; exact ⟨h0, h1, h2, h3, h4, he, f0, f1, f2, hm⟩

theorem radd_fun (u0 : BRat) (u2 : BRat) (hpre : rk u0 ∧ rk u2 ∧ rlow u0 u2) (b1 : Nat) (ao2 : Option Addr) (cap3 : Nat) (ao5 : Option Addr) (cap6 : Nat) (b8 : Nat) (ao9 : Option Addr) (cap10 : Nat) (ao12 : Option Addr) (cap13 : Nat) (B : Nat) (w0 : World) (Z0 : Fz) (Rr : List Res) (Z : Fz) (w : World) (hs4 : SlR (tyInt .u32) Z ao2 cap3 u0.a.abs) (hs7 : SlR (tyInt .u32) Z ao5 cap6 u0.b.abs) (hs11 : SlR (tyInt .u32) Z ao9 cap10 u2.a.abs) (hs14 : SlR (tyInt .u32) Z ao12 cap13 u2.b.abs) (hM0 : Mem B [] w0 Z0 ((.row b1 [.bool u0.a.neg, .slice ao2 u0.a.abs.length cap3, .bool u0.b.neg, .slice ao5 u0.b.abs.length cap6] 71) :: (.row b8 [.bool u2.a.neg, .slice ao9 u2.a.abs.length cap10, .bool u2.b.neg, .slice ao12 u2.b.abs.length cap13] 71) :: Rr) Z w) (hZ : Z.on w) : Calls Tryd.prog 40 #[pt b1 0, pt b1 0, pt b8 0] w fun e w' => ∃ (ao1001 : Option Addr) (cap1002 : Nat) (ao1004 : Option Addr) (cap1005 : Nat) (ao1007 : Option Addr) (cap1008 : Nat) (ao1010 : Option Addr) (cap1011 : Nat) (Z' : Fz), e = .returned (pt b1 0) ∧ Fz.le Z Z' ∧ SlR (tyInt .u32) Z' ao1001 cap1002 (raddS u0 u2).1.a.abs ∧ SlR (tyInt .u32) Z' ao1004 cap1005 (raddS u0 u2).1.b.abs ∧ SlR (tyInt .u32) Z' ao1007 cap1008 (raddS u0 u2).2.a.abs ∧ SlR (tyInt .u32) Z' ao1010 cap1011 (raddS u0 u2).2.b.abs ∧ Mem B [] w0 Z0 ((.row b1 [.bool (raddS u0 u2).1.a.neg, .slice ao1001 (raddS u0 u2).1.a.abs.length cap1002, .bool (raddS u0 u2).1.b.neg, .slice ao1004 (raddS u0 u2).1.b.abs.length cap1005] 71) :: (.row b8 [.bool (raddS u0 u2).2.a.neg, .slice ao1007 (raddS u0 u2).2.a.abs.length cap1008, .bool (raddS u0 u2).2.b.neg, .slice ao1010 (raddS u0 u2).2.b.abs.length cap1011] 71) :: Rr) Z' w' :=
  (radd_walk u0 u2 b1 ao2 cap3 ao5 cap6 b8 ao9 cap10 ao12 cap13 B w0 Z0 Rr Z w hs4 hs7 hs11 hs14 hM0 hZ (radd_ok u0 u2 hpre)).mono fun _ _ ⟨r, h0, h1, h2, h3, h4, h5, h6, h7, h8, he, hk, f0, f1, f2, f3, f4, hm⟩ => by subst hk; exact ⟨h0, h1, h2, h3, h4, h5, h6, h7, h8, he, f0, f1, f2, f3, f4, hm⟩

theorem rdenom_fun (u0 : BRat) (hpre : bk u0.b ∧ u0.b.abs ≠ []) (b1 : Nat) (ao2 : Option Addr) (cap3 : Nat) (ao5 : Option Addr) (cap6 : Nat) (B : Nat) (w0 : World) (Z0 : Fz) (Rr : List Res) (Z : Fz) (w : World) (hs4 : SlR (tyInt .u32) Z ao2 cap3 u0.a.abs) (hs7 : SlR (tyInt .u32) Z ao5 cap6 u0.b.abs) (hM0 : Mem B [] w0 Z0 ((.row b1 [.bool u0.a.neg, .slice ao2 u0.a.abs.length cap3, .bool u0.b.neg, .slice ao5 u0.b.abs.length cap6] 71) :: Rr) Z w) (hZ : Z.on w) : Calls Tryd.prog 44 #[pt b1 0] w fun e w' => ∃ (ao1001 : Option Addr) (cap1002 : Nat) (ao1004 : Option Addr) (cap1005 : Nat) (b1007 : Nat) (ao1008 : Option Addr) (cap1009 : Nat) (Z' : Fz), e = .returned (pt b1007 0) ∧ Fz.le Z Z' ∧ SlR (tyInt .u32) Z' ao1001 cap1002 (rdenomS u0).1.a.abs ∧ SlR (tyInt .u32) Z' ao1004 cap1005 (rdenomS u0).1.b.abs ∧ SlR (tyInt .u32) Z' ao1008 cap1009 (rdenomS u0).2.abs ∧ Mem B [] w0 Z0 ((.row b1007 [.bool (rdenomS u0).2.neg, .slice ao1008 (rdenomS u0).2.abs.length cap1009] 69) :: (.row b1 [.bool (rdenomS u0).1.a.neg, .slice ao1001 (rdenomS u0).1.a.abs.length cap1002, .bool (rdenomS u0).1.b.neg, .slice ao1004 (rdenomS u0).1.b.abs.length cap1005] 71) :: Rr) Z' w' :=
  (rdenom_walk u0 b1 ao2 cap3 ao5 cap6 B w0 Z0 Rr Z w hs4 hs7 hM0 hZ (rdenom_ok u0 hpre)).mono fun _ _ ⟨r, h0, h1, h2, h3, h4, h5, h6, h7, he, hk, f0, f1, f2, f3, hm⟩ => by subst hk; exact ⟨h0, h1, h2, h3, h4, h5, h6, h7, he, f0, f1, f2, f3, hm⟩

end Go.Proofs.YtdndfbamhnchfaaDoor
set_option linter.unusedVariables false
set_option linter.unusedSimpArgs false
set_option maxRecDepth 100000
set_option maxHeartbeats 0
namespace Go.Proofs.YtdndfbamhnchfaaDoor
open Go.Sy Go.RowKit
abbrev e23Nh (X : Signal) : List Value := [str X.Name, i6 X.Start, i6 X.Size, .bool X.Back, .bool X.Signed, i6 X.Mul, i6 X.Div, i6 X.Add, i6 X.Key]
abbrev e71Nh (X : BRat) (A0 : Option Addr) (C0 : Nat) (A1 : Option Addr) (C1 : Nat) : List Value := [.bool X.a.neg, .slice A0 X.a.abs.length C0, .bool X.b.neg, .slice A1 X.b.abs.length C1]
theorem rcheck_fun (u0 : Signal) (u1 : Int)  (Z : Fz) (w : World)  (hZ : Z.on w) : Calls Tryd.prog 8 #[.agg #[str u0.Name, i6 u0.Start, i6 u0.Size, .bool u0.Back, .bool u0.Signed, i6 u0.Mul, i6 u0.Div, i6 u0.Add, i6 u0.Key], i6 u1] w fun e w' => e = .returned (i6 (checkS u0 u1)) ∧ Below w.heap.size w w' :=
  (rcheck_walk u0 u1  Z w  hZ (rcheck_ok u0 u1)).mono fun _ _ ⟨r, he, hk, hb⟩ => ⟨by subst hk; exact he, hb⟩

theorem rmean_walk (u0 : Signal) (u1 : Int)  (Z : Fz) (w : World)  (hZ : Z.on w) {K : Reading → Prop} (hp : rmean_vc u0 u1 K) : Calls Tryd.prog 11 #[.agg #[str u0.Name, i6 u0.Start, i6 u0.Size, .bool u0.Back, .bool u0.Signed, i6 u0.Mul, i6 u0.Div, i6 u0.Add, i6 u0.Key], i6 u1] w fun e w' => ∃ r : Reading, e = .returned (.agg #[str r.Name, i6 r.Num, i6 r.Den]) ∧ K r ∧ Below w.heap.size w w' := by
 refine enter0 Tryd.func11 rfl rfl (by kernel_rfl) ?_; intro a0 ak; have al := Mem.start w Z hZ; have g := Fz.le.refl Z
 refine sqH ?_; intro bE am
 refine nw ak al pb (e23Nh u0) 23 ?_; intro t a3 cj an ao; clear ak al
 refine nw an ao pb [str [], i6 0, i6 0] 26 ?_; intro p a8 cl ap aq; clear an ao
 refine nlH (am _ _ ?_); clear am bE
 refine sqH ?_; intro bF ar
 refine nw ap aq pb [.bool false, .slice none 0 0, .bool false, .slice none 0 0] 71 ?_; intro d cm cn au O; clear ap aq
 refine bt au O 6 [2, 2] [] [(10, i6 (w64 (u1 * u0.Mul))), (12, i6 u0.Div)] ?_; intro co av; clear au
 obtain ⟨bG, aw⟩ := hp
 refine ck av 39 #[pt d 0, i6 (w64 (u1 * u0.Mul)), i6 u0.Div] ?_
 obtain ⟨z, bH, ax⟩ := hxq aw; clear aw
 have q := rsf64_fun (⟨(⟨false, []⟩ : BInt), (⟨false, []⟩ : BInt)⟩ : BRat) (w64 (u1 * u0.Mul)) u0.Div bG d none 0 none 0 _ _ _ _ _ _ (SlR.nil _ _) (SlR.nil _ _) O O.fz; rw [bH] at q; refine q.mono ?_; clear q; rintro _ bI ⟨T, U, V, W, bJ, rfl, bK, h, i, hm⟩; refine ⟨_, rfl, ?_⟩; intro cp ay; have az := hm; clear hm O av
 replace g := Fz.le.trans g bK
 have X : Mem w.heap.size [] w Z [.row d (e71Nh z T U V W) 71, .row p [str [], i6 0, i6 0] 26, .row t (e23Nh u0) 23] bJ bI := az; clear az
 have aA := ax (h.small); clear ax
 have bL := aA (i.small); clear aA
 refine s1 ay 5 (pt d 0) ?_; intro cq aB; clear ay
 refine nlH (ar _ _ ?_); clear ar bF
 refine sqH ?_; intro bM aC
 refine bt aB X 2 [] [] [(14, pt d 0), (15, pt d 0)] ?_; intro cr aD; clear aB
 refine nw aD X pb [.bool false, .slice none 0 0, .bool false, .slice none 0 0] 71 ?_; intro s cs ct aE P; clear aD X
 refine bt aE P 2 [3] [] [(18, i6 u0.Add)] ?_; intro cu aF; clear aE
 obtain ⟨bN, aG⟩ := bL
 refine ck aF 41 #[pt s 0, i6 u0.Add] ?_
 obtain ⟨I, bO, aH⟩ := hxq aG; clear aG
 have q := rsi_fun (⟨(⟨false, []⟩ : BInt), (⟨false, []⟩ : BInt)⟩ : BRat) u0.Add bN s none 0 none 0 _ _ _ _ _ _ (SlR.nil _ _) (SlR.nil _ _) P P.fz; rw [bO] at q; refine q.mono ?_; clear q; rintro _ bP ⟨aI, aJ, aK, aL, bQ, rfl, Y, l, m, hm⟩; refine ⟨_, rfl, ?_⟩; intro cv aM; have aN := hm; clear hm P aF
 replace h := h.mono Y
 replace i := i.mono Y
 replace g := Fz.le.trans g Y
 have aa : Mem w.heap.size [] w Z [.row s (e71Nh I aI aJ aK aL) 71, .row d (e71Nh z T U V W) 71, .row p [str [], i6 0, i6 0] 26, .row t (e23Nh u0) 23] bQ bP := aN; clear aN
 have aO := aH (l.small); clear aH
 have bR := aO (m.small); clear aO
 obtain ⟨bS, aP⟩ := bR
 refine ck aM 40 #[pt d 0, pt d 0, pt s 0] ?_
 obtain ⟨c, bT, aQ⟩ := hxq aP; clear aP
 have q := radd_fun z I bS d T U V W s aI aJ aK aL _ _ _ _ _ _ h i l m (aa.perm ((pk 1 rfl).trans ((List.Perm.refl _).cons _))) aa.fz; rw [bT] at q; refine q.mono ?_; clear q; rintro _ bU ⟨aR, aS, aT, aU, E, F, G, H, aV, rfl, J, u, x, A, B, hm⟩; refine ⟨_, rfl, ?_⟩; intro bV aW; have aX := hm; clear hm aa aM
 replace h := h.mono J
 replace i := i.mono J
 replace l := l.mono J
 replace m := m.mono J
 replace g := Fz.le.trans g J
 have aY : Mem w.heap.size [] w Z [.row d (e71Nh c.1 aR aS aT aU) 71, .row s (e71Nh c.2 E F G H) 71, .row p [str [], i6 0, i6 0] 26, .row t (e23Nh u0) 23] aV bU := aX; clear aX
 have aZ := aQ (u.small); clear aQ
 have a1 := aZ (x.small); clear aZ
 have a2 := a1 (A.small); clear a1
 have bW := a2 (B.small); clear a2
 refine nlH (aC _ _ ?_); clear aC bM
 have a4 : Fr 30 [] [⟨2, [], pt t 0⟩, ⟨4, [], pt p 0⟩, ⟨5, [], pt d 0⟩] bV := aW.region (by kernel_rfl) (by kernel_rfl); clear aW
 refine wp_seq (rgS mixed aY [(0, true), (1, true), (2, true), (5, true), (3, false), (4, false), (6, false), (7, false), (8, true), (9, false)] [9] [3] [.row t (e23Nh u0) 23] ?_)
 intro bX a5 cw ab; clear aY
 have n := Fz.le.refl aV
 refine cS a4 4 [0] [] [(22, str u0.Name), (23, pt d 0), (26, pt d 0)] ?_; intro cx a6; clear a4
 refine eS rfl ?_; intro bY a7
 refine ck a6 42 #[pt d 0] ?_
 refine (rnum_fun c.1 d aR aS aT aU _ _ _ _ _ _ u x ab ab.fz).mono ?_; rintro _ bZ ⟨a9, ba, bb, bc, b0, rfl, y, C, D, hm⟩; refine ⟨_, rfl, ?_⟩; intro cy bd; have be := hm; clear hm ab a6
 replace h := h.mono y
 replace i := i.mono y
 replace l := l.mono y
 replace m := m.mono y
 replace u := u.mono y
 replace x := x.mono y
 replace A := A.mono y
 replace B := B.mono y
 replace n := n.mono y
 replace g := Fz.le.trans g y
 have Q : Mem w.heap.size [] w Z [.row d (e71Nh (rnumS c.1) a9 ba bb bc) 71, .row s (e71Nh c.2 E F G H) 71, .row p [str [], i6 0, i6 0] 26, .row t (e23Nh u0) 23] b0 bZ := be; clear be
 refine nl (qnI (a7 _ _ (Q.cst n [3]) ?_)); clear a7 bY
 refine eS rfl ?_; intro b1 bf
 obtain ⟨b3, b4⟩ := bW
 refine ck bd 43 #[pt d 0] ?_
 refine (gi64A_fun (rnumS c.1) b3 d a9 ba bb bc _ _ _ _ _ _ C D Q Q.fz).mono ?_; rintro _ b5 ⟨bg, bh, bi, bj, b6, rfl, o, L, M, hm⟩; refine ⟨_, rfl, ?_⟩; intro cz bk; have bl := hm; clear hm Q bd
 replace h := h.mono o
 replace i := i.mono o
 replace l := l.mono o
 replace m := m.mono o
 replace u := u.mono o
 replace x := x.mono o
 replace A := A.mono o
 replace B := B.mono o
 replace n := n.mono o
 replace C := C.mono o
 replace D := D.mono o
 replace g := Fz.le.trans g o
 have R : Mem w.heap.size [] w Z [.row d (e71Nh ((gi64AS (rnumS c.1)).2) bg bh bi bj) 71, .row s (e71Nh c.2 E F G H) 71, .row p [str [], i6 0, i6 0] 26, .row t (e23Nh u0) 23] b6 b5 := bl; clear bl
 refine nl (qnI (bf _ _ (R.cst n [3]) ?_)); clear bf b1
 refine eS rfl ?_; intro b8 bm
 obtain ⟨b9, ca⟩ := b4
 refine ck bk 44 #[pt d 0] ?_
 refine (rdenom_fun (gi64AS (rnumS c.1)).2 b9 d bg bh bi bj _ _ _ _ _ _ L M R R.fz).mono ?_; rintro _ cb ⟨ac, ae, af, ag, N, bn, bo, cc, rfl, j, bp, bq, ah, hm⟩; refine ⟨_, rfl, ?_⟩; intro cA br; have bs := hm; clear hm R bk
 replace h := h.mono j
 replace i := i.mono j
 replace l := l.mono j
 replace m := m.mono j
 replace u := u.mono j
 replace x := x.mono j
 replace A := A.mono j
 replace B := B.mono j
 replace n := n.mono j
 replace C := C.mono j
 replace D := D.mono j
 replace L := L.mono j
 replace M := M.mono j
 replace g := Fz.le.trans g j
 have S : Mem w.heap.size [] w Z [.row N [.bool (rdenomS (gi64AS (rnumS c.1)).2).2.neg, .slice bn (rdenomS (gi64AS (rnumS c.1)).2).2.abs.length bo] 69, .row d (e71Nh ((rdenomS (gi64AS (rnumS c.1)).2).1) ac ae af ag) 71, .row s (e71Nh c.2 E F G H) 71, .row p [str [], i6 0, i6 0] 26, .row t (e23Nh u0) 23] cc cb := bs; clear bs
 refine nl (qnI (bm _ _ (S.cst n [4]) ?_)); clear bm b8
 refine eS rfl ?_; intro cd bu
 obtain ⟨ce, cf⟩ := ca
 refine ck br 43 #[pt N 0] ?_
 refine (gi64_fun (rdenomS (gi64AS (rnumS c.1)).2).2 ce N bn bo _ _ _ _ _ _ ah S S.fz).mono ?_; rintro _ cg ⟨bv, bw, bx, rfl, f, cB, hm⟩; refine ⟨_, rfl, ?_⟩; intro cC bz; have bA := hm; clear hm S br
 replace h := h.mono f
 replace i := i.mono f
 replace l := l.mono f
 replace m := m.mono f
 replace u := u.mono f
 replace x := x.mono f
 replace A := A.mono f
 replace B := B.mono f
 replace n := n.mono f
 replace C := C.mono f
 replace D := D.mono f
 replace L := L.mono f
 replace M := M.mono f
 replace bp := bp.mono f
 replace bq := bq.mono f
 replace ah := ah.mono f
 replace g := Fz.le.trans g f
 have ai : Mem w.heap.size [] w Z [.row N [.bool (gi64S (rdenomS (gi64AS (rnumS c.1)).2).2).2.neg, .slice bv (gi64S (rdenomS (gi64AS (rnumS c.1)).2).2).2.abs.length bw] 69, .row d (e71Nh ((rdenomS (gi64AS (rnumS c.1)).2).1) ac ae af ag) 71, .row s (e71Nh c.2 E F G H) 71, .row p [str [], i6 0, i6 0] 26, .row t (e23Nh u0) 23] bx cg := bA; clear bA
 refine nl (qnI (bu _ _ (ai.cst n [4]) ?_)); clear bu cd
 refine cS bz 1 [] [] [(29, .agg #[str u0.Name, i6 (gi64AS (rnumS c.1)).1, i6 (gi64S (rdenomS (gi64AS (rnumS c.1)).2).2).1])] ?_; intro cD aj; clear bz
 refine eL rfl ?_; intro ch bB
 refine sx aj ai 3 [str u0.Name, i6 (gi64AS (rnumS c.1)).1, i6 (gi64S (rdenomS (gi64AS (rnumS c.1)).2).2).1] 0 ?_; intro ci bC; clear ai
 have bD : Mem w.heap.size [] w Z [.row N [.bool (gi64S (rdenomS (gi64AS (rnumS c.1)).2).2).2.neg, .slice bv (gi64S (rdenomS (gi64AS (rnumS c.1)).2).2).2.abs.length bw] 69, .row d (e71Nh ((rdenomS (gi64AS (rnumS c.1)).2).1) ac ae af ag) 71, .row s (e71Nh c.2 E F G H) 71, .row p [str u0.Name, i6 (gi64AS (rnumS c.1)).1, i6 (gi64S (rdenomS (gi64AS (rnumS c.1)).2).2).1] 26, .row t (e23Nh u0) 23] bx ci := bC; clear bC
 refine nl (qnI (bB _ _ ?_)); clear bB ch
 refine nS (a5 _ _ ?_); clear a5 bX
 refine thn ?_
 refine wp_ret ?_
 refine rt (fn := Tryd.f11) (v := .agg #[str u0.Name, i6 (gi64AS (rnumS c.1)).1, i6 (gi64S (rdenomS (gi64AS (rnumS c.1)).2).2).1]) aj (re1c aj (fn := Tryd.f11) rfl (ad := ⟨p, 0, none⟩) (by kernel_rfl) (loadVar_run bD 3 (b := p) (k := 3) (vs := [str u0.Name, i6 (gi64AS (rnumS c.1)).1, i6 (gi64S (rdenomS (gi64AS (rnumS c.1)).2).2).1]) (ty := 26) rfl (by kernel_rfl) (by kernel_rfl)) ) ?_
 exact ⟨(⟨u0.Name, (gi64AS (rnumS c.1)).1, (gi64S (rdenomS (gi64AS (rnumS c.1)).2).2).1⟩ : Reading), rfl, cf, bD.below⟩

end Go.Proofs.YtdndfbamhnchfaaDoor
set_option linter.unusedVariables false
set_option linter.unusedSimpArgs false
set_option maxRecDepth 100000
set_option maxHeartbeats 0
namespace Go.Proofs.YtdndfbamhnchfaaDoor
open Go.Sy Go.RowKit
abbrev e23Ni (X : Signal) : List Value := [str X.Name, i6 X.Start, i6 X.Size, .bool X.Back, .bool X.Signed, i6 X.Mul, i6 X.Div, i6 X.Add, i6 X.Key]
abbrev e26Ni (X : Reading) : List Value := [str X.Name, i6 X.Num, i6 X.Den]
theorem rmean_fun (u0 : Signal) (u1 : Int) (hpre : factS u0 ∧ -1099511627776 ≤ u1 ∧ u1 ≤ 1099511627776)  (Z : Fz) (w : World)  (hZ : Z.on w) : Calls Tryd.prog 11 #[.agg #[str u0.Name, i6 u0.Start, i6 u0.Size, .bool u0.Back, .bool u0.Signed, i6 u0.Mul, i6 u0.Div, i6 u0.Add, i6 u0.Key], i6 u1] w fun e w' => e = .returned (.agg #[str (meanS u0 u1).Name, i6 (meanS u0 u1).Num, i6 (meanS u0 u1).Den]) ∧ Below w.heap.size w w' :=
  (rmean_walk u0 u1  Z w  hZ (rmean_ok u0 u1 hpre)).mono fun _ _ ⟨r, he, hk, hb⟩ => ⟨by subst hk; exact he, hb⟩

theorem signalled_fun   (Z : Fz) (w : World)  (hZ : Z.on w) : Calls Tryd.prog 9 #[] w fun e w' => e = .returned (.bool true) ∧ Below w.heap.size w w' :=
  (signalled_walk   Z w  hZ (signalled_ok )).mono fun _ _ ⟨r, he, hk, hb⟩ => ⟨by subst hk; exact he, hb⟩

theorem LRead_walk (u0 : Signal) (u1 : List Int) (ao1 : Option Addr) (cap2 : Nat) (Z : Fz) (w : World) (hs3 : SlR t8 Z ao1 cap2 u1) (hZ : Z.on w) {K : Bool → Prop} (hp : LRead_vc u0 u1 K) : Calls Tryd.prog 3 #[.agg #[str u0.Name, i6 u0.Start, i6 u0.Size, .bool u0.Back, .bool u0.Signed, i6 u0.Mul, i6 u0.Div, i6 u0.Add, i6 u0.Key], .slice ao1 u1.length cap2] w fun e w' => ∃ r : Bool, e = .returned (.bool r) ∧ K r ∧ Below w.heap.size w w' := by
 refine enter0 Tryd.func3 rfl rfl (by kernel_rfl) ?_; intro a0 W; have X := Mem.start w Z hZ; have bw := Fz.le.refl Z
 have a6 := hp (hs3.small); clear hp
 refine sqH ?_; intro a8 Y
 refine nw W X pb (e23Ni u0) 23 ?_; intro h a7 bx aa l; clear W X
 refine s1 aa 4 (.bool false) ?_; intro bz ab; clear aa
 refine nlH (Y _ _ ?_); clear Y a8
 refine sqH ?_; intro a9 ac
 refine bt ab l 2 [0] [] [(11, .agg (e23Ni u0).toArray), (12, .slice ao1 u1.length cap2)] ?_; intro bA ad; clear ab
 obtain ⟨ba, n⟩ := a6
 refine fc ad l (sread_fun u0 u1 ba ao1 cap2 _ _ hs3 l.fz) ?_; intro bB bC ae D; clear ad l
 refine bt ae D 4 [] [] [(14, i6 (sreadS u0 u1).1), (15, .agg (e26Ni ((sreadS u0 u1).2.1)).toArray), (16, i6 (sreadS u0 u1).2.2)] ?_; intro bD af; clear ae
 refine nw af D pb [str [], i6 0, i6 0] 26 ?_; intro f bE bF ag ah; clear af D
 refine s1 ag 5 (i6 (sreadS u0 u1).1) ?_; intro bG E; clear ag
 refine sx E ah 0 (e26Ni ((sreadS u0 u1).2.1)) 0 ?_; intro bb ai; clear ah
 refine s1 E 7 (i6 (sreadS u0 u1).2.2) ?_; intro bH aj; clear E
 have o : Mem w.heap.size [] w Z [.row f (e26Ni ((sreadS u0 u1).2.1)) 26, .row h (e23Ni u0) 23] Z bb := ai; clear ai
 refine nlH (ac _ _ ?_); clear ac a9
 refine wp_seq ?_
 refine sqH ?_; intro bc ak
 refine bt aj o 3 [1] [] [(17, .agg (e23Ni u0).toArray), (19, i6 (u1.length : Int))] ?_; intro bI al; clear aj
 refine fc al o (rcheck_fun u0 (u1.length : Int) _ _ o.fz) ?_; intro bJ bK am F; clear al o
 refine s1 am 8 (i6 (checkS u0 (u1.length : Int))) ?_; intro bL an; clear am
 refine nlH (ak _ _ ?_); clear ak bc
 refine sqH ?_; intro bd ao
 refine fc an F (signalled_fun  _ _ F.fz) ?_; intro bM bN ap a; clear an F
 refine bt ap a 5 [] [24, 25, 26] [(26, .bool ((checkS u0 (u1.length : Int)) != 0))] ?_; intro bO i; clear ap
 refine nlH (ao _ _ ?_); clear ao bd
 refine cd i (t := (checkS u0 (u1.length : Int)) != 0) (by kernel_rfl) (fun G => ?_) (fun G => ?_)
 · -- yes
  have be := n.1 G; clear n
  refine sqH ?_; intro bf aq
  refine fc i a (signalled_fun  _ _ a.fz) ?_; intro bP bQ ar au; clear i a
  refine s1 ar 28 (.bool true) ?_; intro bR p; clear ar
  refine st p (i6 (sreadS u0 u1).2.2) (by rw [wanted_of p (b := true) rfl rfl (by kernel_rfl) (by kernel_rfl)]; rfl) rfl (by kernel_rfl) (p0 p (by kernel_rfl)) ?_; intro bS q; clear p
  refine st q (i6 (checkS u0 (u1.length : Int))) (by rw [wanted_of q (b := true) rfl rfl (by kernel_rfl) (by kernel_rfl)]; rfl) rfl (by kernel_rfl) (p0 q (by kernel_rfl)) ?_; intro bT s; clear q
  refine st s (.bool ((sreadS u0 u1).2.2 == (checkS u0 (u1.length : Int)))) (by rw [wanted_of s (b := true) rfl rfl (by kernel_rfl) (by kernel_rfl)]; rfl) rfl (by kernel_rfl) (p0 s (by kernel_rfl)) ?_; intro bU av; clear s
  refine s1 av 32 (.bool ((sreadS u0 u1).2.2 == (checkS u0 (u1.length : Int)))) ?_; intro bV aw; clear av
  refine s1 aw 33 (.bool ((sreadS u0 u1).2.2 == (checkS u0 (u1.length : Int)))) ?_; intro bW ax; clear aw
  have ay := ax.atom (((sreadS u0 u1).2.2 == (checkS u0 (u1.length : Int))) == true) (by kernel_rfl); clear ax
  refine gp ay 34 0 [] ((sreadS u0 u1).2.2 == (checkS u0 (u1.length : Int))) (i6 (sreadS u0 u1).1) rfl rfl ?_; intro bX az; clear ay
  refine gp az 35 0 [] ((sreadS u0 u1).2.2 == (checkS u0 (u1.length : Int))) (.bool ((sreadS u0 u1).1 == 0)) rfl rfl ?_; intro bY H; clear az
  refine st H (.bool (((sreadS u0 u1).2.2 == (checkS u0 (u1.length : Int))) && ((sreadS u0 u1).1 == 0))) (nog rfl _) rfl (by kernel_rfl) (pk_and H (g := []) (m := 0) (b := (sreadS u0 u1).2.2 == (checkS u0 (u1.length : Int))) (v := (sreadS u0 u1).1 == 0) rfl (by kernel_rfl) (by kernel_rfl) (by kernel_rfl) rfl) ?_; intro bZ aA; clear H
  refine s1 aA 37 (.bool (((sreadS u0 u1).2.2 == (checkS u0 (u1.length : Int))) && ((sreadS u0 u1).1 == 0))) ?_; intro b0 aB; clear aA
  have I := aB.atom ((((sreadS u0 u1).2.2 == (checkS u0 (u1.length : Int))) && ((sreadS u0 u1).1 == 0)) == true) (by kernel_rfl); clear aB
  refine gd I (.agg (e26Ni ((sreadS u0 u1).2.1)).toArray) (m := 1) (cj := []) (bj := ((sreadS u0 u1).2.2 == (checkS u0 (u1.length : Int))) && ((sreadS u0 u1).1 == 0)) rfl rfl (by kernel_rfl) rfl (by kernel_rfl) (by kernel_rfl) (by kernel_rfl) (fun hg => lda I au 0 (g := [1]) (b := f) (off := 0) (k := 3) (cs := (e26Ni ((sreadS u0 u1).2.1))) (vs := (e26Ni ((sreadS u0 u1).2.1))) (ty := 26) rfl (by kernel_rfl) (by kernel_rfl) (by kernel_rfl) (by kernel_rfl) (by kernel_rfl) hg) ?_; intro b1 aC; clear I
  refine gp aC 39 1 [] (((sreadS u0 u1).2.2 == (checkS u0 (u1.length : Int))) && ((sreadS u0 u1).1 == 0)) (.agg #[str [], i6 0, i6 0]) rfl rfl ?_; intro b2 J; clear aC
  refine gd J (.bool (((sreadS u0 u1).2.1.Name == []) && (((sreadS u0 u1).2.1.Num == 0) && (((sreadS u0 u1).2.1.Den == 0) && true)))) (m := 1) (cj := []) (bj := ((sreadS u0 u1).2.2 == (checkS u0 (u1.length : Int))) && ((sreadS u0 u1).1 == 0)) rfl rfl (by kernel_rfl) rfl (by kernel_rfl) (by kernel_rfl) (by kernel_rfl) (fun hg => eqs_run J (g := [1]) (xs := (e26Ni ((sreadS u0 u1).2.1)).toArray) (ys := #[str [], i6 0, i6 0]) (b := ((sreadS u0 u1).2.1.Name == []) && (((sreadS u0 u1).2.1.Num == 0) && (((sreadS u0 u1).2.1.Den == 0) && true))) rfl (by kernel_rfl) (by kernel_rfl) (by kernel_rfl) (by kernel_rfl) hg) ?_; intro b3 L; clear J
  refine st L (.bool ((((sreadS u0 u1).2.2 == (checkS u0 (u1.length : Int))) && ((sreadS u0 u1).1 == 0)) && (((sreadS u0 u1).2.1.Name == []) && (((sreadS u0 u1).2.1.Num == 0) && (((sreadS u0 u1).2.1.Den == 0) && true))))) (nog rfl _) rfl (by kernel_rfl) (pk_and L (g := []) (m := 1) (b := ((sreadS u0 u1).2.2 == (checkS u0 (u1.length : Int))) && ((sreadS u0 u1).1 == 0)) (v := ((sreadS u0 u1).2.1.Name == []) && (((sreadS u0 u1).2.1.Num == 0) && (((sreadS u0 u1).2.1.Den == 0) && true))) rfl (by kernel_rfl) (by kernel_rfl) (by kernel_rfl) rfl) ?_; intro b4 aD; clear L
  refine s1 aD 4 (.bool ((((sreadS u0 u1).2.2 == (checkS u0 (u1.length : Int))) && ((sreadS u0 u1).1 == 0)) && (((sreadS u0 u1).2.1.Name == []) && (((sreadS u0 u1).2.1.Num == 0) && (((sreadS u0 u1).2.1.Den == 0) && true))))) ?_; intro b5 bg; clear aD
  refine nlH (aq _ _ ?_); clear aq bf
  refine wp_ret ?_
  refine thr ?_
  refine ra1 bg (.bool ((((sreadS u0 u1).2.2 == (checkS u0 (u1.length : Int))) && ((sreadS u0 u1).1 == 0)) && (((sreadS u0 u1).2.1.Name == []) && (((sreadS u0 u1).2.1.Num == 0) && (((sreadS u0 u1).2.1.Den == 0) && true))))) ?_
  exact ⟨(((sreadS u0 u1).2.2 == (checkS u0 (u1.length : Int))) && ((sreadS u0 u1).1 == 0)) && (((sreadS u0 u1).2.1.Name == []) && (((sreadS u0 u1).2.1.Num == 0) && (((sreadS u0 u1).2.1.Den == 0) && true))), rfl, be, au.below⟩
 · -- no
  have bh := n.2 G; clear n
  refine wp_skip ?_
  refine thn ?_
  refine sqH ?_; intro bi aE
  refine bt i a 2 [1] [] [(42, .agg (e23Ni u0).toArray), (43, .slice ao1 u1.length cap2)] ?_; intro b7 aF; clear i
  obtain ⟨bk, u⟩ := bh
  refine fc aF a (rrawof_fun u0 u1 bk ao1 cap2 _ _ hs3 a.fz) ?_; intro b8 b9 aG x; clear aF a
  refine s1 aG 9 (i6 (getS u0 u1)) ?_; intro M aH; clear aG
  refine nlH (aE _ _ ?_); clear aE bi
  have y : Fr 59 [] [⟨2, [], pt h 0⟩, ⟨5, [], i6 (sreadS u0 u1).1⟩, ⟨6, [], pt f 0⟩, ⟨7, [], i6 (sreadS u0 u1).2.2⟩, ⟨9, [], i6 (getS u0 u1)⟩] M := aH.region (by kernel_rfl) (by kernel_rfl); clear aH
  rcases Bool.eq_false_or_eq_true (((sreadS u0 u1).2.2 == 0) && ((sreadS u0 u1).1 == (getS u0 u1))) with j | j
  · -- true
   have bl := u.1 j; clear u
   have aI : Fr 59 [] [⟨2, [], pt h 0⟩, ⟨5, [], i6 (sreadS u0 u1).1⟩, ⟨6, [], pt f 0⟩, ⟨7, [], i6 (sreadS u0 u1).2.2⟩, ⟨9, [], i6 (getS u0 u1)⟩] M := y.region (by kernel_rfl) (by kernel_rfl); clear y
   refine sqQH mixed (by kernel_rfl) x ?_; intro bm aJ
   refine q1 aI 45 (i6 (sreadS u0 u1).2.2) ?_; intro ca aK; clear aI
   refine q1 aK 46 (.bool ((sreadS u0 u1).2.2 == 0)) ?_; intro cb aL; clear aK
   refine q1 aL 47 (.bool ((sreadS u0 u1).2.2 == 0)) ?_; intro cc aM; clear aL
   have N := aM.atom (((sreadS u0 u1).2.2 == 0) == true) (by kernel_rfl); clear aM
   refine qgd N (i6 (sreadS u0 u1).1) (m := 0) (cj := []) (bj := (sreadS u0 u1).2.2 == 0) rfl rfl (by kernel_rfl) rfl (by kernel_rfl) (by kernel_rfl) (by kernel_rfl) (fun hg => qat_ok (fun v140 hC => pu N (g := [0]) (by kernel_rfl) hg)) ?_; intro ce O; clear N
   refine qgd O (i6 (getS u0 u1)) (m := 0) (cj := []) (bj := (sreadS u0 u1).2.2 == 0) rfl rfl (by kernel_rfl) rfl (by kernel_rfl) (by kernel_rfl) (by kernel_rfl) (fun hg => qat_ok (fun v143 hC => pu O (g := [0]) (by kernel_rfl) hg)) ?_; intro cf P; clear O
   refine qgd P (.bool ((sreadS u0 u1).1 == (getS u0 u1))) (m := 0) (cj := []) (bj := (sreadS u0 u1).2.2 == 0) rfl rfl (by kernel_rfl) rfl (by kernel_rfl) (by kernel_rfl) (by kernel_rfl) (fun hg => qat_ok (fun v146 hC => pu P (g := [0]) (by kernel_rfl) hg)) ?_; intro cg Q; clear P
   refine qst Q (.bool (((sreadS u0 u1).2.2 == 0) && ((sreadS u0 u1).1 == (getS u0 u1)))) (nog rfl _) rfl (by kernel_rfl) (fun v149 hC => pk_and Q (g := []) (m := 0) (b := (sreadS u0 u1).2.2 == 0) (v := (sreadS u0 u1).1 == (getS u0 u1)) rfl (by kernel_rfl) (by kernel_rfl) (by kernel_rfl) rfl) ?_; intro ch aN; clear Q
   have aO := aN.reval (d := 51) (c := []) (v := .bool (((sreadS u0 u1).2.2 == 0) && ((sreadS u0 u1).1 == (getS u0 u1)))) (by kernel_rfl) (.bool true) (by rw [j]); clear aN
   refine q1 aO 52 (.bool true) ?_; intro ci z; clear aO
   refine qst z (.agg (e26Ni ((sreadS u0 u1).2.1)).toArray) (by rw [wanted_of z (b := true) rfl rfl (by kernel_rfl) (by kernel_rfl)]; rfl) rfl (by kernel_rfl) (fun v156 hC => lda z hC 0 (g := []) (b := f) (off := 0) (k := 3) (cs := (e26Ni ((sreadS u0 u1).2.1))) (vs := (e26Ni ((sreadS u0 u1).2.1))) (ty := 26) rfl (by kernel_rfl) (by kernel_rfl) (by kernel_rfl) (by kernel_rfl) (by kernel_rfl) rfl) ?_; intro ck A; clear z
   refine qst A (.agg (e23Ni u0).toArray) (by rw [wanted_of A (b := true) rfl rfl (by kernel_rfl) (by kernel_rfl)]; rfl) rfl (by kernel_rfl) (fun v159 hC => lda A hC 1 (g := []) (b := h) (off := 0) (k := 9) (cs := (e23Ni u0)) (vs := (e23Ni u0)) (ty := 23) rfl (by kernel_rfl) (by kernel_rfl) (by kernel_rfl) (by kernel_rfl) (by kernel_rfl) rfl) ?_; intro cl B; clear A
   refine qst B (i6 (getS u0 u1)) (by rw [wanted_of B (b := true) rfl rfl (by kernel_rfl) (by kernel_rfl)]; rfl) rfl (by kernel_rfl) (fun v162 hC => p0 B (by kernel_rfl)) ?_; intro cm R; clear B
   obtain ⟨bn, bo⟩ := bl
   refine qcl R (.agg (e26Ni (meanS u0 (getS u0 u1))).toArray) 11 #[.agg (e23Ni u0).toArray, i6 (getS u0 u1)] (by rw [wanted_of R (b := true) rfl rfl (by kernel_rfl) (by kernel_rfl)]; rfl) rfl (by kernel_rfl) (fun _ => by kernel_rfl) (qfc fun w hC => rmean_fun u0 (getS u0 u1) bn _ _ hC.fz) ?_; intro cn C; clear R
   refine qst C (.bool (((sreadS u0 u1).2.1.Name == (meanS u0 (getS u0 u1)).Name) && (((sreadS u0 u1).2.1.Num == (meanS u0 (getS u0 u1)).Num) && (((sreadS u0 u1).2.1.Den == (meanS u0 (getS u0 u1)).Den) && true)))) (by rw [wanted_of C (b := true) rfl rfl (by kernel_rfl) (by kernel_rfl)]; rfl) rfl (by kernel_rfl) (fun v170 hC => eqs_run C (g := []) (xs := (e26Ni ((sreadS u0 u1).2.1)).toArray) (ys := (e26Ni (meanS u0 (getS u0 u1))).toArray) (b := ((sreadS u0 u1).2.1.Name == (meanS u0 (getS u0 u1)).Name) && (((sreadS u0 u1).2.1.Num == (meanS u0 (getS u0 u1)).Num) && (((sreadS u0 u1).2.1.Den == (meanS u0 (getS u0 u1)).Den) && true))) rfl (by kernel_rfl) (by kernel_rfl) (by kernel_rfl) (by kernel_rfl) rfl) ?_; intro co aP; clear C
   refine q1 aP 58 (.bool (((sreadS u0 u1).2.1.Name == (meanS u0 (getS u0 u1)).Name) && (((sreadS u0 u1).2.1.Num == (meanS u0 (getS u0 u1)).Num) && (((sreadS u0 u1).2.1.Den == (meanS u0 (getS u0 u1)).Den) && true)))) ?_; intro cp aQ; clear aP
   refine q1 aQ 4 (.bool (((sreadS u0 u1).2.1.Name == (meanS u0 (getS u0 u1)).Name) && (((sreadS u0 u1).2.1.Num == (meanS u0 (getS u0 u1)).Num) && (((sreadS u0 u1).2.1.Den == (meanS u0 (getS u0 u1)).Den) && true)))) ?_; intro cq bp; clear aQ
   refine qnl (aJ _ ?_); clear aJ bm; intro cr bq; clear x
   refine wp_ret ?_
   refine ra1 bp (.bool (((sreadS u0 u1).2.1.Name == (meanS u0 (getS u0 u1)).Name) && (((sreadS u0 u1).2.1.Num == (meanS u0 (getS u0 u1)).Num) && (((sreadS u0 u1).2.1.Den == (meanS u0 (getS u0 u1)).Den) && true)))) ?_
   exact ⟨((sreadS u0 u1).2.1.Name == (meanS u0 (getS u0 u1)).Name) && (((sreadS u0 u1).2.1.Num == (meanS u0 (getS u0 u1)).Num) && (((sreadS u0 u1).2.1.Den == (meanS u0 (getS u0 u1)).Den) && true)), rfl, bo, bq.below⟩
  · -- false
   have br := u.2 j; clear u
   have aR : Fr 59 [] [⟨2, [], pt h 0⟩, ⟨5, [], i6 (sreadS u0 u1).1⟩, ⟨6, [], pt f 0⟩, ⟨7, [], i6 (sreadS u0 u1).2.2⟩, ⟨9, [], i6 (getS u0 u1)⟩] M := y.region (by kernel_rfl) (by kernel_rfl); clear y
   refine sqQH mixed (by kernel_rfl) x ?_; intro bs aS
   refine q1 aR 45 (i6 (sreadS u0 u1).2.2) ?_; intro ct aT; clear aR
   refine q1 aT 46 (.bool ((sreadS u0 u1).2.2 == 0)) ?_; intro cu aU; clear aT
   refine q1 aU 47 (.bool ((sreadS u0 u1).2.2 == 0)) ?_; intro cv aV; clear aU
   have S := aV.atom (((sreadS u0 u1).2.2 == 0) == true) (by kernel_rfl); clear aV
   refine qgd S (i6 (sreadS u0 u1).1) (m := 0) (cj := []) (bj := (sreadS u0 u1).2.2 == 0) rfl rfl (by kernel_rfl) rfl (by kernel_rfl) (by kernel_rfl) (by kernel_rfl) (fun hg => qat_ok (fun v194 hC => pu S (g := [0]) (by kernel_rfl) hg)) ?_; intro cw T; clear S
   refine qgd T (i6 (getS u0 u1)) (m := 0) (cj := []) (bj := (sreadS u0 u1).2.2 == 0) rfl rfl (by kernel_rfl) rfl (by kernel_rfl) (by kernel_rfl) (by kernel_rfl) (fun hg => qat_ok (fun v197 hC => pu T (g := [0]) (by kernel_rfl) hg)) ?_; intro cx U; clear T
   refine qgd U (.bool ((sreadS u0 u1).1 == (getS u0 u1))) (m := 0) (cj := []) (bj := (sreadS u0 u1).2.2 == 0) rfl rfl (by kernel_rfl) rfl (by kernel_rfl) (by kernel_rfl) (by kernel_rfl) (fun hg => qat_ok (fun v200 hC => pu U (g := [0]) (by kernel_rfl) hg)) ?_; intro cy V; clear U
   refine qst V (.bool (((sreadS u0 u1).2.2 == 0) && ((sreadS u0 u1).1 == (getS u0 u1)))) (nog rfl _) rfl (by kernel_rfl) (fun v203 hC => pk_and V (g := []) (m := 0) (b := (sreadS u0 u1).2.2 == 0) (v := (sreadS u0 u1).1 == (getS u0 u1)) rfl (by kernel_rfl) (by kernel_rfl) (by kernel_rfl) rfl) ?_; intro cz aW; clear V
   have aX := aW.reval (d := 51) (c := []) (v := .bool (((sreadS u0 u1).2.2 == 0) && ((sreadS u0 u1).1 == (getS u0 u1)))) (by kernel_rfl) (.bool false) (by rw [j]); clear aW
   refine q1 aX 52 (.bool false) ?_; intro cA aY; clear aX
   refine qsk aY (b := false) rfl rfl (by kernel_rfl) (by kernel_rfl) rfl rfl (by kernel_rfl) ?_; intro cB aZ; clear aY
   refine qsk aZ (b := false) rfl rfl (by kernel_rfl) (by kernel_rfl) rfl rfl (by kernel_rfl) ?_; intro cC a1; clear aZ
   refine qsk a1 (b := false) rfl rfl (by kernel_rfl) (by kernel_rfl) rfl rfl (by kernel_rfl) ?_; intro cD a2; clear a1
   refine qsk a2 (b := false) rfl rfl (by kernel_rfl) (by kernel_rfl) rfl rfl (by kernel_rfl) ?_; intro cE a3; clear a2
   refine qsk a3 (b := false) rfl rfl (by kernel_rfl) (by kernel_rfl) rfl rfl (by kernel_rfl) ?_; intro cF a4; clear a3
   refine q1 a4 58 (.bool false) ?_; intro cG a5; clear a4
   refine q1 a5 4 (.bool false) ?_; intro cH bu; clear a5
   refine qnl (aS _ ?_); clear aS bs; intro cI bv; clear x
   refine wp_ret ?_
   refine ra1 bu (.bool false) ?_
   exact ⟨false, rfl, br, bv.below⟩

end Go.Proofs.YtdndfbamhnchfaaDoor
