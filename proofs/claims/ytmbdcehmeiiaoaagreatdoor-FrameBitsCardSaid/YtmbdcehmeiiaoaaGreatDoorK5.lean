/- Texts put together (pure ones, or walks made by program). -/
import Derived.Test.YtmbdcehmeiiaoaaGreatDoorCore
import Derived.Test.YtmbdcehmeiiaoaaGreatDoorK1
import Derived.Test.YtmbdcehmeiiaoaaGreatDoorK2
import Derived.Test.YtmbdcehmeiiaoaaGreatDoorK3
import Derived.Test.YtmbdcehmeiiaoaaGreatDoorK4
set_option linter.unusedVariables false
set_option linter.unusedSimpArgs false
set_option maxRecDepth 100000
set_option maxHeartbeats 0
namespace Go.Proofs.YtmbdcehmeiiaoaaGreatDoor
open Go.Sy Go.RowKit
theorem csum_fun (u0 : Int) (u1 : List UInt8)  (Z : Fz) (w : World)  (hZ : Z.on w) : Calls Tryz.prog 39 #[i6 u0, str u1] w fun e w' => e = .returned (.tuple #[str ((csumS u0 u1).1), i6 ((csumS u0 u1).2)]) ∧ Below w.heap.size w w' :=
  (csum_walk u0 u1  Z w  hZ (csum_ok u0 u1)).mono fun _ _ ⟨r, he, hk, hb⟩ => ⟨by subst hk; exact he, hb⟩

theorem bof_fun (u0 : List Int) (hpre : ∀ x ∈ u0, 0 ≤ x ∧ x ≤ 255) (ao1 : Option Addr) (cap2 : Nat) (Z : Fz) (w : World) (hs3 : SlR t8 Z ao1 cap2 u0) (hZ : Z.on w) : Calls Tryz.prog 73 #[.slice ao1 u0.length cap2] w fun e w' => e = .returned (.tuple #[str ((bofS u0).1), i6 ((bofS u0).2)]) ∧ Below w.heap.size w w' :=
  (bof_walk u0 ao1 cap2 Z w hs3 hZ (bof_ok u0 hpre)).mono fun _ _ ⟨r, he, hk, hb⟩ => ⟨by subst hk; exact he, hb⟩


theorem rtakeF_fun (u0 : FReader) (u1 : Int) (hpre : Rok u0.Reader ∧ u1 ≤ 9223372036854775807) (b1 : Nat) (ao2 : Option Addr) (cap3 : Nat) (B : Nat) (w0 : World) (Z0 : Fz) (Rr : List Res) (Z : Fz) (w : World) (hs4 : SlR t8 Z ao2 cap3 u0.f.Data) (hM0 : Mem B [] w0 Z0 ((.row b1 [str u0.Reader.Row, i6 u0.Reader.At, i6 u0.Reader.Code, y8 u0.Reader.c.last, i6 u0.Reader.c.n, i6 u0.f.ID, .bool u0.f.Long, .bool u0.f.Fast, .bool u0.f.Remote, i6 u0.f.Size, .slice ao2 u0.f.Data.length cap3] 61) :: Rr) Z w) (hZ : Z.on w) : Calls Tryz.prog 36 #[pt b1 0, i6 u1] w fun e w' => ∃ (ao1001 : Option Addr) (cap1002 : Nat) (Z' : Fz), e = .returned (str (rtakeFS u0 u1).1) ∧ Fz.le Z Z' ∧ SlR t8 Z' ao1001 cap1002 (rtakeFS u0 u1).2.f.Data ∧ Mem B [] w0 Z0 ((.row b1 [str (rtakeFS u0 u1).2.Reader.Row, i6 (rtakeFS u0 u1).2.Reader.At, i6 (rtakeFS u0 u1).2.Reader.Code, y8 (rtakeFS u0 u1).2.Reader.c.last, i6 (rtakeFS u0 u1).2.Reader.c.n, i6 (rtakeFS u0 u1).2.f.ID, .bool (rtakeFS u0 u1).2.f.Long, .bool (rtakeFS u0 u1).2.f.Fast, .bool (rtakeFS u0 u1).2.f.Remote, i6 (rtakeFS u0 u1).2.f.Size, .slice ao1001 (rtakeFS u0 u1).2.f.Data.length cap1002] 61) :: Rr) Z' w' :=
  (rtakeF_walk u0 u1 b1 ao2 cap3 B w0 Z0 Rr Z w hs4 hM0 hZ (rtakeF_ok u0 u1 hpre)).mono fun _ _ ⟨r, h0, h1, h2, he, hk, f0, f1, hm⟩ => by subst hk; exact ⟨h0, h1, h2, he, f0, f1, hm⟩
theorem rtakeF_funK (u0 : FReader) (u1 : Int) (hpre : Rok u0.Reader ∧ u1 ≤ 9223372036854775807) (b1 : Nat) (ao2 : Option Addr) (cap3 : Nat) (B : Nat) (w0 : World) (Z0 : Fz) (Rr : List Res) (Z : Fz) (w : World) (hs4 : SlR t8 Z ao2 cap3 u0.f.Data) (hM0 : Mem B [] w0 Z0 ((.row b1 [str u0.Reader.Row, i6 u0.Reader.At, i6 u0.Reader.Code, y8 u0.Reader.c.last, i6 u0.Reader.c.n, i6 u0.f.ID, .bool u0.f.Long, .bool u0.f.Fast, .bool u0.f.Remote, i6 u0.f.Size, .slice ao2 u0.f.Data.length cap3] 61) :: Rr) Z w) (hZ : Z.on w) : Calls Tryz.prog 36 #[pt b1 0, i6 u1] w fun e w' => ∃ (ao1001 : Option Addr) (cap1002 : Nat) (Z' : Fz), e = .returned (str (rtakeFS u0 u1).1) ∧ Fz.le Z Z' ∧ SlR t8 Z' ao1001 cap1002 u0.f.Data ∧ Mem B [] w0 Z0 ((.row b1 [str (rtakeFS u0 u1).2.Reader.Row, i6 (rtakeFS u0 u1).2.Reader.At, i6 (rtakeFS u0 u1).2.Reader.Code, y8 (rtakeFS u0 u1).2.Reader.c.last, i6 (rtakeFS u0 u1).2.Reader.c.n, i6 u0.f.ID, .bool u0.f.Long, .bool u0.f.Fast, .bool u0.f.Remote, i6 u0.f.Size, .slice ao1001 u0.f.Data.length cap1002] 61) :: Rr) Z' w' :=
  (rtakeF_walk u0 u1 b1 ao2 cap3 B w0 Z0 Rr Z w hs4 hM0 hZ (rtakeF_ok u0 u1 hpre)).mono fun _ _ ⟨r, h0, h1, h2, he, hk, f0, f1, hm⟩ => by subst hk; have hkp : (rtakeFS u0 u1).2.f = u0.f := rtakeFS_f u0 u1; (try simp only [hkp] at *); exact ⟨h0, h1, h2, he, f0, f1, hm⟩


theorem rplainF_fun (u0 : FReader) (u1 : Int) (hpre : (0 ≤ u0.Reader.At ∧ u0.Reader.At ≤ (u0.Reader.Row.length : Int) ∧ u0.Reader.Row.length ≤ 1000000) ∧ u1 ≤ 1000000) (b1 : Nat) (ao2 : Option Addr) (cap3 : Nat) (B : Nat) (w0 : World) (Z0 : Fz) (Rr : List Res) (Z : Fz) (w : World) (hs4 : SlR t8 Z ao2 cap3 u0.f.Data) (hM0 : Mem B [] w0 Z0 ((.row b1 [str u0.Reader.Row, i6 u0.Reader.At, i6 u0.Reader.Code, y8 u0.Reader.c.last, i6 u0.Reader.c.n, i6 u0.f.ID, .bool u0.f.Long, .bool u0.f.Fast, .bool u0.f.Remote, i6 u0.f.Size, .slice ao2 u0.f.Data.length cap3] 61) :: Rr) Z w) (hZ : Z.on w) : Calls Tryz.prog 41 #[pt b1 0, i6 u1] w fun e w' => ∃ (ao1001 : Option Addr) (cap1002 : Nat) (Z' : Fz), e = .returned (str (rplainFS u0 u1).1) ∧ Fz.le Z Z' ∧ SlR t8 Z' ao1001 cap1002 (rplainFS u0 u1).2.f.Data ∧ Mem B [] w0 Z0 ((.row b1 [str (rplainFS u0 u1).2.Reader.Row, i6 (rplainFS u0 u1).2.Reader.At, i6 (rplainFS u0 u1).2.Reader.Code, y8 (rplainFS u0 u1).2.Reader.c.last, i6 (rplainFS u0 u1).2.Reader.c.n, i6 (rplainFS u0 u1).2.f.ID, .bool (rplainFS u0 u1).2.f.Long, .bool (rplainFS u0 u1).2.f.Fast, .bool (rplainFS u0 u1).2.f.Remote, i6 (rplainFS u0 u1).2.f.Size, .slice ao1001 (rplainFS u0 u1).2.f.Data.length cap1002] 61) :: Rr) Z' w' :=
  (rplainF_walk u0 u1 b1 ao2 cap3 B w0 Z0 Rr Z w hs4 hM0 hZ (rplainF_ok u0 u1 hpre)).mono fun _ _ ⟨r, h0, h1, h2, he, hk, f0, f1, hm⟩ => by subst hk; exact ⟨h0, h1, h2, he, f0, f1, hm⟩
theorem rplainF_funK (u0 : FReader) (u1 : Int) (hpre : (0 ≤ u0.Reader.At ∧ u0.Reader.At ≤ (u0.Reader.Row.length : Int) ∧ u0.Reader.Row.length ≤ 1000000) ∧ u1 ≤ 1000000) (b1 : Nat) (ao2 : Option Addr) (cap3 : Nat) (B : Nat) (w0 : World) (Z0 : Fz) (Rr : List Res) (Z : Fz) (w : World) (hs4 : SlR t8 Z ao2 cap3 u0.f.Data) (hM0 : Mem B [] w0 Z0 ((.row b1 [str u0.Reader.Row, i6 u0.Reader.At, i6 u0.Reader.Code, y8 u0.Reader.c.last, i6 u0.Reader.c.n, i6 u0.f.ID, .bool u0.f.Long, .bool u0.f.Fast, .bool u0.f.Remote, i6 u0.f.Size, .slice ao2 u0.f.Data.length cap3] 61) :: Rr) Z w) (hZ : Z.on w) : Calls Tryz.prog 41 #[pt b1 0, i6 u1] w fun e w' => ∃ (ao1001 : Option Addr) (cap1002 : Nat) (Z' : Fz), e = .returned (str (rplainFS u0 u1).1) ∧ Fz.le Z Z' ∧ SlR t8 Z' ao1001 cap1002 u0.f.Data ∧ Mem B [] w0 Z0 ((.row b1 [str (rplainFS u0 u1).2.Reader.Row, i6 (rplainFS u0 u1).2.Reader.At, i6 (rplainFS u0 u1).2.Reader.Code, y8 (rplainFS u0 u1).2.Reader.c.last, i6 (rplainFS u0 u1).2.Reader.c.n, i6 u0.f.ID, .bool u0.f.Long, .bool u0.f.Fast, .bool u0.f.Remote, i6 u0.f.Size, .slice ao1001 u0.f.Data.length cap1002] 61) :: Rr) Z' w' :=
  (rplainF_walk u0 u1 b1 ao2 cap3 B w0 Z0 Rr Z w hs4 hM0 hZ (rplainF_ok u0 u1 hpre)).mono fun _ _ ⟨r, h0, h1, h2, he, hk, f0, f1, hm⟩ => by subst hk; have hkp : (rplainFS u0 u1).2.f = u0.f := rplainFS_f u0 u1; (try simp only [hkp] at *); exact ⟨h0, h1, h2, he, f0, f1, hm⟩

theorem sput_fun (u0 : List UInt8)  (Z : Fz) (w : World)  (hZ : Z.on w) : Calls Tryz.prog 54 #[str u0] w fun e w' => e = .returned (.tuple #[str ((sputS u0).1), i6 ((sputS u0).2)]) ∧ Below w.heap.size w w' :=
  (sput_walk u0  Z w  hZ (sput_ok u0)).mono fun _ _ ⟨r, he, hk, hb⟩ => ⟨by subst hk; exact he, hb⟩

theorem sfixed_fun (u0 : List UInt8) (u1 : Int)  (Z : Fz) (w : World)  (hZ : Z.on w) : Calls Tryz.prog 57 #[str u0, y8 u1] w fun e w' => e = .returned (.tuple #[str ((sfixedS u0 u1).1), i6 ((sfixedS u0 u1).2)]) ∧ Below w.heap.size w w' :=
  (sfixed_walk u0 u1  Z w  hZ (sfixed_ok u0 u1)).mono fun _ _ ⟨r, he, hk, hb⟩ => ⟨by subst hk; exact he, hb⟩

theorem bbytes_fun (u0 : List UInt8)  (Z : Fz) (w : World)  (hZ : Z.on w) : Calls Tryz.prog 37 #[str u0] w fun e w' => ∃ (ao1001 : Option Addr) (cap1002 : Nat) (Z' : Fz), e = .returned (.tuple #[.slice ao1001 (bbytesS u0).1.length cap1002, i6 (bbytesS u0).2]) ∧ Mem w.heap.size [] w Z [.own t8 5 ao1001 cap1002 (bbytesS u0).1] Z' w' :=
  (bbytes_walk u0  Z w  hZ (bbytes_ok u0)).mono fun _ _ ⟨r, h0, h1, h2, he, hk, hm⟩ => by subst hk; exact ⟨h0, h1, h2, he, hm⟩

theorem beq_fun (u0 : List Int) (u1 : List Int) (ao1 : Option Addr) (cap2 : Nat) (ao4 : Option Addr) (cap5 : Nat) (Z : Fz) (w : World) (hs3 : SlR t8 Z ao1 cap2 u0) (hs6 : SlR t8 Z ao4 cap5 u1) (hZ : Z.on w) : Calls Tryz.prog 52 #[.slice ao1 u0.length cap2, .slice ao4 u1.length cap5] w fun e w' => e = .returned (.bool (beqS u0 u1)) ∧ Below w.heap.size w w' :=
  (beq_walk u0 u1 ao1 cap2 ao4 cap5 Z w hs3 hs6 hZ (beq_ok u0 u1)).mono fun _ _ ⟨r, he, hk, hb⟩ => ⟨by subst hk; exact he, hb⟩

theorem fname_fun (u0 : Frame) (hpre : 0 ≤ u0.ID ∧ u0.ID ≤ 536870911) (ao1 : Option Addr) (cap2 : Nat) (Z : Fz) (w : World) (hs3 : SlR t8 Z ao1 cap2 u0.Data) (hZ : Z.on w) : Calls Tryz.prog 53 #[.agg #[i6 u0.ID, .bool u0.Long, .bool u0.Fast, .bool u0.Remote, i6 u0.Size, .slice ao1 u0.Data.length cap2]] w fun e w' => e = .returned (str (fnameS u0)) ∧ Below w.heap.size w w' :=
  (fname_walk u0 ao1 cap2 Z w hs3 hZ (fname_ok u0 hpre)).mono fun _ _ ⟨r, he, hk, hb⟩ => ⟨by subst hk; exact he, hb⟩

theorem fcount_fun (u0 : Int) (hpre : 0 ≤ u0)  (Z : Fz) (w : World)  (hZ : Z.on w) : Calls Tryz.prog 55 #[i6 u0] w fun e w' => e = .returned (str (fcountS u0)) ∧ Below w.heap.size w w' :=
  (fcount_walk u0  Z w  hZ (fcount_ok u0 hpre)).mono fun _ _ ⟨r, he, hk, hb⟩ => ⟨by subst hk; exact he, hb⟩

theorem fhead_walk (u0 : Frame) (ao1 : Option Addr) (cap2 : Nat) (Z : Fz) (w : World) (hs3 : SlR t8 Z ao1 cap2 u0.Data) (hZ : Z.on w) {K : (List UInt8) → Prop} (hp : fhead_vc u0 K) : Calls Tryz.prog 40 #[.agg #[i6 u0.ID, .bool u0.Long, .bool u0.Fast, .bool u0.Remote, i6 u0.Size, .slice ao1 u0.Data.length cap2]] w fun e w' => ∃ r : (List UInt8), e = .returned (str r) ∧ K r ∧ Below w.heap.size w w' := by
 refine enter0 Tryz.func40 rfl rfl (by kernel_rfl) ?_; intro a0 L; have M := Mem.start w Z hZ; have s := Fz.le.refl Z
 have u := hp (hs3.small); clear hp
 refine sqH ?_; intro bS N
 refine nw L M pb [i6 u0.ID, .bool u0.Long, .bool u0.Fast, .bool u0.Remote, i6 u0.Size, .slice ao1 u0.Data.length cap2] 24 ?_; intro v a7 dN O c; clear L M
 refine s1 O 2 (str []) ?_; intro dO P; clear O
 refine nlH (N _ _ ?_); clear N bS
 refine sqB P c [0] [] [(3, i6 u0.Size)] ?_; intro dP Q; clear P
 refine wp_seq ?_
 refine sqB Q c [0] [] [(11, .bool (!u0.Remote))] ?_; intro bT f; clear Q
 refine cd f (t := !u0.Remote) (by kernel_rfl) (fun B => ?_) (fun B => ?_)
 ·
  have bU := u.1 B; clear u
  have R : Fr 45 [] [⟨1, [], pt v 0⟩] bT := f.reg; clear f
  refine rgS mixed c [(1, true), (2, true), (3, true), (0, false), (4, false), (5, true)] [0] [.row v [i6 u0.ID, .bool u0.Long, .bool u0.Fast, .bool u0.Remote, i6 u0.Size, .slice ao1 u0.Data.length cap2] 24] ?_
  intro bV S dQ C; clear c
  have d := Fz.le.refl Z
  refine cS R 3 [0] [] [(15, i6 (u0.Data.length : Int))] ?_; intro dR T; clear R
  refine eS rfl ?_; intro bW U
  refine ck T 35 #[] ?_
  refine (fsizes_fun  _ _ C.fz).mono ?_; rintro _ V ⟨W, X, bX, rfl, hm⟩; refine ⟨_, rfl, ?_⟩; intro dS Y; have aa := C.callZ hm; have D := hm.ext.le; clear hm C T
  replace hs3 := hs3.mono D
  replace d := d.mono D
  replace s := Fz.le.trans s D
  have ab : Mem w.heap.size [] w Z [.own t6 3 W X fsizes, .row v [i6 u0.ID, .bool u0.Long, .bool u0.Fast, .bool u0.Remote, i6 u0.Size, .slice ao1 u0.Data.length cap2] 24] bX V := aa; clear aa
  refine nl (qnI (U _ _ (ab.cst d [1]) ?_)); clear U bW
  refine eS rfl ?_; intro bY ac
  obtain ⟨bZ, E, ad, b0⟩ := ab.freeze 0 rfl
  replace hs3 := hs3.mono E
  replace d := d.mono E
  replace s := Fz.le.trans s E
  have F : Mem w.heap.size [] w Z [.row v [i6 u0.ID, .bool u0.Long, .bool u0.Fast, .bool u0.Remote, i6 u0.Size, .slice ao1 u0.Data.length cap2] 24] bZ V := ad; clear ad
  refine fc Y F (sindex_fun fsizes (u0.Data.length : Int) W X _ _ b0 F.fz) ?_; intro dT dU ae g; clear Y F
  refine nl (qnI (ac _ _ (g.cst d [0]) ?_)); clear ac bY
  refine cS ae 1 [] [] [(3, i6 (sindexS fsizes (u0.Data.length : Int)))] ?_; intro dV af; clear ae
  refine nS (S _ _ ?_); clear S bV
  refine thn ?_
  refine sqH ?_; intro b1 ag
  refine l2 af g 17 0 0 6 [i6 u0.ID, .bool u0.Long, .bool u0.Fast, .bool u0.Remote, i6 u0.Size, .slice ao1 u0.Data.length cap2] rfl rfl ?_; intro dW ah; clear af
  obtain ⟨b2, b3⟩ := bU
  refine fc ah g (fname_fun u0 b2 ao1 cap2 _ _ hs3 g.fz) ?_; intro dX dY ai a; clear ah g
  obtain ⟨b4, x⟩ := b3
  refine sa ai b4 ?_; intro dZ aj; clear ai
  refine s1 aj 4 (str (([48] : List UInt8) ++ (fnameS u0))) ?_; intro d0 ak; clear aj
  refine nlH (ag _ _ ?_); clear ag b1
  refine wp_seq ?_
  refine wp_block ?_
  refine sqB ak a [0] [] [(22, .bool u0.Fast)] ?_; intro d1 h; clear ak
  refine cd h (t := u0.Fast) (by kernel_rfl) (fun G => ?_) (fun G => ?_)
  ·
   have b5 := x.1 G; clear x
   refine rgH ?_; intro b7 al
   refine s1 h 25 (str (([48] : List UInt8) ++ (fnameS u0))) ?_; intro d2 am; clear h
   obtain ⟨b8, b9⟩ := b5
   refine sa am b8 ?_; intro d3 an; clear am
   refine s1 an 4 (str ((([48] : List UInt8) ++ (fnameS u0)) ++ ([49, 48, 49, 48] : List UInt8))) ?_; intro d4 ao; clear an
   refine nlH (al _ _ ?_); clear al b7
   refine ibn ?_
   refine thn ?_
   refine sqH ?_; intro ca ap
   refine bt ao a 2 [0] [] [(34, .slice ao1 u0.Data.length cap2)] ?_; intro d5 aq; clear ao
   obtain ⟨cb, cc⟩ := b9
   refine fc aq a (bof_fun u0.Data cb ao1 cap2 _ _ hs3 a.fz) ?_; intro d6 d7 ar i; clear aq a
   refine bt ar i 5 [] [] [(5, str ((bofS u0.Data).1))] ?_; intro d8 au; clear ar
   refine nlH (ap _ _ ?_); clear ap ca
   refine sqH ?_; intro ce av
   refine bt au i 3 [] [] [(38, str ((([48] : List UInt8) ++ (fnameS u0)) ++ ([49, 48, 49, 48] : List UInt8))), (40, y6 (wu64 (sindexS fsizes (u0.Data.length : Int))))] ?_; intro d9 aw; clear au
   obtain ⟨cf, cg⟩ := cc
   refine fc aw i (bwrite_fun (wu64 (sindexS fsizes (u0.Data.length : Int))) 4 cf _ _ i.fz) ?_; intro ea eb ax ch; clear aw i
   obtain ⟨ci, cj⟩ := cg
   refine sa ax ci ?_; intro ec ay; clear ax
   refine s1 ay 43 (str ((bofS u0.Data).1)) ?_; intro ed az; clear ay
   obtain ⟨cl, cm⟩ := cj
   refine sa az cl ?_; intro ee aA; clear az
   refine s1 aA 2 (str ((((([48] : List UInt8) ++ (fnameS u0)) ++ ([49, 48, 49, 48] : List UInt8)) ++ (bwriteS (wu64 (sindexS fsizes (u0.Data.length : Int))) 4)) ++ ((bofS u0.Data).1))) ?_; intro ef cn; clear aA
   refine nlH (av _ _ ?_); clear av ce
   refine wp_ret ?_
   refine ra1 cn (str ((((([48] : List UInt8) ++ (fnameS u0)) ++ ([49, 48, 49, 48] : List UInt8)) ++ (bwriteS (wu64 (sindexS fsizes (u0.Data.length : Int))) 4)) ++ ((bofS u0.Data).1))) ?_
   exact ⟨(((([48] : List UInt8) ++ (fnameS u0)) ++ ([49, 48, 49, 48] : List UInt8)) ++ (bwriteS (wu64 (sindexS fsizes (u0.Data.length : Int))) 4)) ++ ((bofS u0.Data).1), rfl, cm, ch.below⟩
  have y := x.2 G; clear x
  refine sqB h a [0] [] [(27, .bool u0.Long)] ?_; intro eg j; clear h
  refine cd j (t := u0.Long) (by kernel_rfl) (fun H => ?_) (fun H => ?_)
  ·
   have co := y.1 H; clear y
   refine rgH ?_; intro cp aB
   refine s1 j 30 (str (([48] : List UInt8) ++ (fnameS u0))) ?_; intro eh aC; clear j
   obtain ⟨cq, cr⟩ := co
   refine sa aC cq ?_; intro ei aD; clear aC
   refine s1 aD 4 (str ((([48] : List UInt8) ++ (fnameS u0)) ++ ([48, 48] : List UInt8))) ?_; intro ej aE; clear aD
   refine nlH (aB _ _ ?_); clear aB cp
   refine ibn ?_
   refine thn ?_
   refine sqH ?_; intro cs aF
   refine bt aE a 2 [0] [] [(34, .slice ao1 u0.Data.length cap2)] ?_; intro ek aG; clear aE
   obtain ⟨ct, cu⟩ := cr
   refine fc aG a (bof_fun u0.Data ct ao1 cap2 _ _ hs3 a.fz) ?_; intro el em aH k; clear aG a
   refine bt aH k 5 [] [] [(5, str ((bofS u0.Data).1))] ?_; intro en aI; clear aH
   refine nlH (aF _ _ ?_); clear aF cs
   refine sqH ?_; intro cv aJ
   refine bt aI k 3 [] [] [(38, str ((([48] : List UInt8) ++ (fnameS u0)) ++ ([48, 48] : List UInt8))), (40, y6 (wu64 (sindexS fsizes (u0.Data.length : Int))))] ?_; intro eo aK; clear aI
   obtain ⟨cw, cx⟩ := cu
   refine fc aK k (bwrite_fun (wu64 (sindexS fsizes (u0.Data.length : Int))) 4 cw _ _ k.fz) ?_; intro ep eq aL cy; clear aK k
   obtain ⟨cz, cA⟩ := cx
   refine sa aL cz ?_; intro er aM; clear aL
   refine s1 aM 43 (str ((bofS u0.Data).1)) ?_; intro es aN; clear aM
   obtain ⟨cB, cC⟩ := cA
   refine sa aN cB ?_; intro et aO; clear aN
   refine s1 aO 2 (str ((((([48] : List UInt8) ++ (fnameS u0)) ++ ([48, 48] : List UInt8)) ++ (bwriteS (wu64 (sindexS fsizes (u0.Data.length : Int))) 4)) ++ ((bofS u0.Data).1))) ?_; intro eu cD; clear aO
   refine nlH (aJ _ _ ?_); clear aJ cv
   refine wp_ret ?_
   refine ra1 cD (str ((((([48] : List UInt8) ++ (fnameS u0)) ++ ([48, 48] : List UInt8)) ++ (bwriteS (wu64 (sindexS fsizes (u0.Data.length : Int))) 4)) ++ ((bofS u0.Data).1))) ?_
   exact ⟨(((([48] : List UInt8) ++ (fnameS u0)) ++ ([48, 48] : List UInt8)) ++ (bwriteS (wu64 (sindexS fsizes (u0.Data.length : Int))) 4)) ++ ((bofS u0.Data).1), rfl, cC, cy.below⟩
  have cE := y.2 H; clear y
  refine rgH ?_; intro cF aP
  refine s1 j 20 (str (([48] : List UInt8) ++ (fnameS u0))) ?_; intro ev aQ; clear j
  obtain ⟨cG, cH⟩ := cE
  refine sa aQ cG ?_; intro ew aR; clear aQ
  refine s1 aR 4 (str ((([48] : List UInt8) ++ (fnameS u0)) ++ ([48] : List UInt8))) ?_; intro ex aS; clear aR
  refine nlH (aP _ _ ?_); clear aP cF
  refine ibn ?_
  refine thn ?_
  refine sqH ?_; intro cI aT
  refine bt aS a 2 [0] [] [(34, .slice ao1 u0.Data.length cap2)] ?_; intro ey aU; clear aS
  obtain ⟨cJ, cK⟩ := cH
  refine fc aU a (bof_fun u0.Data cJ ao1 cap2 _ _ hs3 a.fz) ?_; intro ez eA aV l; clear aU a
  refine bt aV l 5 [] [] [(5, str ((bofS u0.Data).1))] ?_; intro eB aW; clear aV
  refine nlH (aT _ _ ?_); clear aT cI
  refine sqH ?_; intro cL aX
  refine bt aW l 3 [] [] [(38, str ((([48] : List UInt8) ++ (fnameS u0)) ++ ([48] : List UInt8))), (40, y6 (wu64 (sindexS fsizes (u0.Data.length : Int))))] ?_; intro eC aY; clear aW
  obtain ⟨cM, cN⟩ := cK
  refine fc aY l (bwrite_fun (wu64 (sindexS fsizes (u0.Data.length : Int))) 4 cM _ _ l.fz) ?_; intro eD eE aZ cO; clear aY l
  obtain ⟨cP, cQ⟩ := cN
  refine sa aZ cP ?_; intro eF a1; clear aZ
  refine s1 a1 43 (str ((bofS u0.Data).1)) ?_; intro eG a2; clear a1
  obtain ⟨cR, cT⟩ := cQ
  refine sa a2 cR ?_; intro eH a3; clear a2
  refine s1 a3 2 (str ((((([48] : List UInt8) ++ (fnameS u0)) ++ ([48] : List UInt8)) ++ (bwriteS (wu64 (sindexS fsizes (u0.Data.length : Int))) 4)) ++ ((bofS u0.Data).1))) ?_; intro eI cU; clear a3
  refine nlH (aX _ _ ?_); clear aX cL
  refine wp_ret ?_
  refine ra1 cU (str ((((([48] : List UInt8) ++ (fnameS u0)) ++ ([48] : List UInt8)) ++ (bwriteS (wu64 (sindexS fsizes (u0.Data.length : Int))) 4)) ++ ((bofS u0.Data).1))) ?_
  exact ⟨(((([48] : List UInt8) ++ (fnameS u0)) ++ ([48] : List UInt8)) ++ (bwriteS (wu64 (sindexS fsizes (u0.Data.length : Int))) 4)) ++ ((bofS u0.Data).1), rfl, cT, cO.below⟩
 have cV := u.2 B; clear u
 refine wp_skip ?_
 refine thn ?_
 refine sqH ?_; intro cW a4
 refine l2 f c 17 0 0 6 [i6 u0.ID, .bool u0.Long, .bool u0.Fast, .bool u0.Remote, i6 u0.Size, .slice ao1 u0.Data.length cap2] rfl rfl ?_; intro eJ a5; clear f
 obtain ⟨cX, cY⟩ := cV
 refine fc a5 c (fname_fun u0 cX ao1 cap2 _ _ hs3 c.fz) ?_; intro eK eL a6 b; clear a5 c
 obtain ⟨cZ, z⟩ := cY
 refine sa a6 cZ ?_; intro eM a8; clear a6
 refine s1 a8 4 (str (([48] : List UInt8) ++ (fnameS u0))) ?_; intro eN a9; clear a8
 refine nlH (a4 _ _ ?_); clear a4 cW
 refine wp_seq ?_
 refine wp_block ?_
 refine sqB a9 b [0] [] [(22, .bool u0.Fast)] ?_; intro eO m; clear a9
 refine cd m (t := u0.Fast) (by kernel_rfl) (fun I => ?_) (fun I => ?_)
 ·
  have c0 := z.1 I; clear z
  refine rgH ?_; intro c1 ba
  refine s1 m 25 (str (([48] : List UInt8) ++ (fnameS u0))) ?_; intro eP bb; clear m
  obtain ⟨c2, c3⟩ := c0
  refine sa bb c2 ?_; intro eQ bc; clear bb
  refine s1 bc 4 (str ((([48] : List UInt8) ++ (fnameS u0)) ++ ([49, 48, 49, 48] : List UInt8))) ?_; intro eR bd; clear bc
  refine nlH (ba _ _ ?_); clear ba c1
  refine ibn ?_
  refine thn ?_
  refine sqH ?_; intro c4 be
  refine bt bd b 2 [0] [] [(34, .slice ao1 u0.Data.length cap2)] ?_; intro eT bf; clear bd
  obtain ⟨c5, c6⟩ := c3
  refine fc bf b (bof_fun u0.Data c5 ao1 cap2 _ _ hs3 b.fz) ?_; intro eU eV bg n; clear bf b
  refine bt bg n 5 [] [] [(5, str ((bofS u0.Data).1))] ?_; intro eW bh; clear bg
  refine nlH (be _ _ ?_); clear be c4
  refine sqH ?_; intro c7 bi
  refine bt bh n 3 [] [] [(38, str ((([48] : List UInt8) ++ (fnameS u0)) ++ ([49, 48, 49, 48] : List UInt8))), (40, y6 (wu64 u0.Size))] ?_; intro eX bj; clear bh
  obtain ⟨c8, c9⟩ := c6
  refine fc bj n (bwrite_fun (wu64 u0.Size) 4 c8 _ _ n.fz) ?_; intro eY eZ bk da; clear bj n
  obtain ⟨db, dc⟩ := c9
  refine sa bk db ?_; intro e0 bl; clear bk
  refine s1 bl 43 (str ((bofS u0.Data).1)) ?_; intro e1 bm; clear bl
  obtain ⟨dd, de⟩ := dc
  refine sa bm dd ?_; intro e2 bn; clear bm
  refine s1 bn 2 (str ((((([48] : List UInt8) ++ (fnameS u0)) ++ ([49, 48, 49, 48] : List UInt8)) ++ (bwriteS (wu64 u0.Size) 4)) ++ ((bofS u0.Data).1))) ?_; intro e3 df; clear bn
  refine nlH (bi _ _ ?_); clear bi c7
  refine wp_ret ?_
  refine ra1 df (str ((((([48] : List UInt8) ++ (fnameS u0)) ++ ([49, 48, 49, 48] : List UInt8)) ++ (bwriteS (wu64 u0.Size) 4)) ++ ((bofS u0.Data).1))) ?_
  exact ⟨(((([48] : List UInt8) ++ (fnameS u0)) ++ ([49, 48, 49, 48] : List UInt8)) ++ (bwriteS (wu64 u0.Size) 4)) ++ ((bofS u0.Data).1), rfl, de, da.below⟩
 have A := z.2 I; clear z
 refine sqB m b [0] [] [(27, .bool u0.Long)] ?_; intro e4 o; clear m
 refine cd o (t := u0.Long) (by kernel_rfl) (fun J => ?_) (fun J => ?_)
 ·
  have dg := A.1 J; clear A
  refine rgH ?_; intro dh bo
  refine s1 o 30 (str (([48] : List UInt8) ++ (fnameS u0))) ?_; intro e5 bp; clear o
  obtain ⟨di, dj⟩ := dg
  refine sa bp di ?_; intro e6 bq; clear bp
  refine s1 bq 4 (str ((([48] : List UInt8) ++ (fnameS u0)) ++ ([48, 48] : List UInt8))) ?_; intro e7 br; clear bq
  refine nlH (bo _ _ ?_); clear bo dh
  refine ibn ?_
  refine thn ?_
  refine sqH ?_; intro dk bs
  refine bt br b 2 [0] [] [(34, .slice ao1 u0.Data.length cap2)] ?_; intro e8 bu; clear br
  obtain ⟨dl, dm⟩ := dj
  refine fc bu b (bof_fun u0.Data dl ao1 cap2 _ _ hs3 b.fz) ?_; intro e9 fa bv p; clear bu b
  refine bt bv p 5 [] [] [(5, str ((bofS u0.Data).1))] ?_; intro fb bw; clear bv
  refine nlH (bs _ _ ?_); clear bs dk
  refine sqH ?_; intro dn bx
  refine bt bw p 3 [] [] [(38, str ((([48] : List UInt8) ++ (fnameS u0)) ++ ([48, 48] : List UInt8))), (40, y6 (wu64 u0.Size))] ?_; intro fd bz; clear bw
  obtain ⟨dp, dq⟩ := dm
  refine fc bz p (bwrite_fun (wu64 u0.Size) 4 dp _ _ p.fz) ?_; intro fe ff bA dr; clear bz p
  obtain ⟨ds, dt⟩ := dq
  refine sa bA ds ?_; intro fg bB; clear bA
  refine s1 bB 43 (str ((bofS u0.Data).1)) ?_; intro fh bC; clear bB
  obtain ⟨du, dv⟩ := dt
  refine sa bC du ?_; intro fi bD; clear bC
  refine s1 bD 2 (str ((((([48] : List UInt8) ++ (fnameS u0)) ++ ([48, 48] : List UInt8)) ++ (bwriteS (wu64 u0.Size) 4)) ++ ((bofS u0.Data).1))) ?_; intro fj dw; clear bD
  refine nlH (bx _ _ ?_); clear bx dn
  refine wp_ret ?_
  refine ra1 dw (str ((((([48] : List UInt8) ++ (fnameS u0)) ++ ([48, 48] : List UInt8)) ++ (bwriteS (wu64 u0.Size) 4)) ++ ((bofS u0.Data).1))) ?_
  exact ⟨(((([48] : List UInt8) ++ (fnameS u0)) ++ ([48, 48] : List UInt8)) ++ (bwriteS (wu64 u0.Size) 4)) ++ ((bofS u0.Data).1), rfl, dv, dr.below⟩
 have dx := A.2 J; clear A
 refine rgH ?_; intro dy bE
 refine s1 o 20 (str (([48] : List UInt8) ++ (fnameS u0))) ?_; intro fk bF; clear o
 obtain ⟨dz, dA⟩ := dx
 refine sa bF dz ?_; intro fl bG; clear bF
 refine s1 bG 4 (str ((([48] : List UInt8) ++ (fnameS u0)) ++ ([48] : List UInt8))) ?_; intro fm bH; clear bG
 refine nlH (bE _ _ ?_); clear bE dy
 refine ibn ?_
 refine thn ?_
 refine sqH ?_; intro dB bI
 refine bt bH b 2 [0] [] [(34, .slice ao1 u0.Data.length cap2)] ?_; intro fn bJ; clear bH
 obtain ⟨dC, dD⟩ := dA
 refine fc bJ b (bof_fun u0.Data dC ao1 cap2 _ _ hs3 b.fz) ?_; intro fo fp bK q; clear bJ b
 refine bt bK q 5 [] [] [(5, str ((bofS u0.Data).1))] ?_; intro fq bL; clear bK
 refine nlH (bI _ _ ?_); clear bI dB
 refine sqH ?_; intro dE bM
 refine bt bL q 3 [] [] [(38, str ((([48] : List UInt8) ++ (fnameS u0)) ++ ([48] : List UInt8))), (40, y6 (wu64 u0.Size))] ?_; intro fr bN; clear bL
 obtain ⟨dF, dG⟩ := dD
 refine fc bN q (bwrite_fun (wu64 u0.Size) 4 dF _ _ q.fz) ?_; intro fs ft bO dH; clear bN q
 obtain ⟨dI, dJ⟩ := dG
 refine sa bO dI ?_; intro fu bP; clear bO
 refine s1 bP 43 (str ((bofS u0.Data).1)) ?_; intro fv bQ; clear bP
 obtain ⟨dK, dL⟩ := dJ
 refine sa bQ dK ?_; intro fw bR; clear bQ
 refine s1 bR 2 (str ((((([48] : List UInt8) ++ (fnameS u0)) ++ ([48] : List UInt8)) ++ (bwriteS (wu64 u0.Size) 4)) ++ ((bofS u0.Data).1))) ?_; intro fx dM; clear bR
 refine nlH (bM _ _ ?_); clear bM dE
 refine wp_ret ?_
 refine ra1 dM (str ((((([48] : List UInt8) ++ (fnameS u0)) ++ ([48] : List UInt8)) ++ (bwriteS (wu64 u0.Size) 4)) ++ ((bofS u0.Data).1))) ?_
 exact ⟨(((([48] : List UInt8) ++ (fnameS u0)) ++ ([48] : List UInt8)) ++ (bwriteS (wu64 u0.Size) 4)) ++ ((bofS u0.Data).1), rfl, dL, dH.below⟩

theorem fName_walk (u0 : Frame) (ao1 : Option Addr) (cap2 : Nat) (Z : Fz) (w : World) (hs3 : SlR t8 Z ao1 cap2 u0.Data) (hZ : Z.on w) {K : ((List UInt8) × Int) → Prop} (hp : fName_vc u0 K) : Calls Tryz.prog 15 #[.agg #[i6 u0.ID, .bool u0.Long, .bool u0.Fast, .bool u0.Remote, i6 u0.Size, .slice ao1 u0.Data.length cap2]] w fun e w' => ∃ r : (List UInt8) × Int, e = .returned (.tuple #[str r.1, i6 r.2]) ∧ K r ∧ Below w.heap.size w w' := by
 refine enter0 Tryz.func15 rfl rfl (by kernel_rfl) ?_; intro F g; have h := Mem.start w Z hZ; have G := Fz.le.refl Z
 have d := hp (hs3.small); clear hp
 refine sqH ?_; intro v i
 refine nw g h pb [i6 u0.ID, .bool u0.Long, .bool u0.Fast, .bool u0.Remote, i6 u0.Size, .slice ao1 u0.Data.length cap2] 24 ?_; intro H I J j b; clear g h
 refine bt j b 2 [] [] [] ?_; intro L k; clear j
 refine nlH (i _ _ ?_); clear i v
 refine wp_seq ?_
 refine sqH ?_; intro x l
 refine l2 k b 5 0 0 6 [i6 u0.ID, .bool u0.Long, .bool u0.Fast, .bool u0.Remote, i6 u0.Size, .slice ao1 u0.Data.length cap2] rfl rfl ?_; intro M m; clear k
 refine fc m b (fcheckfr_fun u0 ao1 cap2 _ _ hs3 b.fz) ?_; intro N O n a; clear m b
 refine s1 n 4 (i6 (fcheckfr u0)) ?_; intro P o; clear n
 refine nlH (l _ _ ?_); clear l x
 refine sqB o a [] [] [(8, .bool ((fcheckfr u0) != 0))] ?_; intro Q c; clear o
 refine cd c (t := (fcheckfr u0) != 0) (by kernel_rfl) (fun f => ?_) (fun f => ?_)
 ·
  have y := d.1 f; clear d
  refine sqB c a [] [] [(2, str []), (3, i6 (fcheckfr u0))] ?_; intro R z; clear c
  refine wp_ret ?_
  refine thr ?_
  refine ra2 z (.tuple #[str [], i6 (fcheckfr u0)]) ?_
  exact ⟨([], (fcheckfr u0)), rfl, y, a.below⟩
 have A := d.2 f; clear d
 refine wp_skip ?_
 refine thn ?_
 refine sqH ?_; intro B p
 refine l2 c a 10 0 0 6 [i6 u0.ID, .bool u0.Long, .bool u0.Fast, .bool u0.Remote, i6 u0.Size, .slice ao1 u0.Data.length cap2] rfl rfl ?_; intro S q; clear c
 obtain ⟨C, D⟩ := A
 refine fc q a (fname_fun u0 C ao1 cap2 _ _ hs3 a.fz) ?_; intro T U s u; clear q a
 refine bt s u 2 [] [] [(2, str (fnameS u0)), (3, i6 0)] ?_; intro V E; clear s
 refine nlH (p _ _ ?_); clear p B
 refine wp_ret ?_
 refine ra2 E (.tuple #[str (fnameS u0), i6 0]) ?_
 exact ⟨((fnameS u0), 0), rfl, D, u.below⟩

theorem fSame_walk (u0 : Frame) (u1 : Frame) (ao1 : Option Addr) (cap2 : Nat) (ao4 : Option Addr) (cap5 : Nat) (Z : Fz) (w : World) (hs3 : SlR t8 Z ao1 cap2 u0.Data) (hs6 : SlR t8 Z ao4 cap5 u1.Data) (hZ : Z.on w) {K : Bool → Prop} (hp : fSame_vc u0 u1 K) : Calls Tryz.prog 19 #[.agg #[i6 u0.ID, .bool u0.Long, .bool u0.Fast, .bool u0.Remote, i6 u0.Size, .slice ao1 u0.Data.length cap2], .agg #[i6 u1.ID, .bool u1.Long, .bool u1.Fast, .bool u1.Remote, i6 u1.Size, .slice ao4 u1.Data.length cap5]] w fun e w' => ∃ r : Bool, e = .returned (.bool r) ∧ K r ∧ Below w.heap.size w w' := by
 refine enter0 Tryz.func19 rfl rfl (by kernel_rfl) ?_; intro a0 z; have A := Mem.start w Z hZ; have av := Fz.le.refl Z
 have B := hp (hs3.small); clear hp
 have ao := B (hs6.small); clear B
 refine sqH ?_; intro ap C
 refine nw z A pb [i6 u0.ID, .bool u0.Long, .bool u0.Fast, .bool u0.Remote, i6 u0.Size, .slice ao1 u0.Data.length cap2] 24 ?_; intro c aw ax D E; clear z A
 refine nw D E pb [i6 u1.ID, .bool u1.Long, .bool u1.Fast, .bool u1.Remote, i6 u1.Size, .slice ao4 u1.Data.length cap5] 24 ?_; intro d ay az F a; clear D E
 refine s1 F 4 (.bool false) ?_; intro aA G; clear F
 refine nlH (C _ _ ?_); clear C ap
 refine sqH ?_; intro aq H
 refine s1 G 5 (pt c 0) ?_; intro aB I; clear G
 refine l1 I a 6 1 0 (i6 u0.ID) rfl rfl ?_; intro aC J; clear I
 refine s1 J 7 (pt d 0) ?_; intro aD L; clear J
 refine l1 L a 8 0 0 (i6 u1.ID) rfl rfl ?_; intro aE M; clear L
 refine s1 M 9 (.bool (u0.ID == u1.ID)) ?_; intro aF N; clear M
 refine s1 N 10 (.bool (u0.ID == u1.ID)) ?_; intro aG O; clear N
 have P := O.atom ((u0.ID == u1.ID) == true) (by kernel_rfl); clear O
 refine gp P 11 0 [] (u0.ID == u1.ID) (pt c 1) rfl rfl ?_; intro aH f; clear P
 refine gd f (.bool u0.Long) (m := 0) (cj := []) (bj := u0.ID == u1.ID) rfl rfl (by kernel_rfl) rfl (by kernel_rfl) (by kernel_rfl) (by kernel_rfl) (fun hg => ld f a 1 (g := [0]) (b := c) (off := 1) (cs := [i6 u0.ID, .bool u0.Long, .bool u0.Fast, .bool u0.Remote, i6 u0.Size, .slice ao1 u0.Data.length cap2]) (ty := 24) rfl (by kernel_rfl) (by kernel_rfl) (by kernel_rfl) (by kernel_rfl) hg) ?_; intro aI Q; clear f
 refine gp Q 13 0 [] (u0.ID == u1.ID) (pt d 1) rfl rfl ?_; intro aJ h; clear Q
 refine gd h (.bool u1.Long) (m := 0) (cj := []) (bj := u0.ID == u1.ID) rfl rfl (by kernel_rfl) rfl (by kernel_rfl) (by kernel_rfl) (by kernel_rfl) (fun hg => ld h a 0 (g := [0]) (b := d) (off := 1) (cs := [i6 u1.ID, .bool u1.Long, .bool u1.Fast, .bool u1.Remote, i6 u1.Size, .slice ao4 u1.Data.length cap5]) (ty := 24) rfl (by kernel_rfl) (by kernel_rfl) (by kernel_rfl) (by kernel_rfl) hg) ?_; intro aK R; clear h
 refine gp R 15 0 [] (u0.ID == u1.ID) (.bool (u0.Long == u1.Long)) rfl rfl ?_; intro aL i; clear R
 refine st i (.bool ((u0.ID == u1.ID) && (u0.Long == u1.Long))) (nog rfl _) rfl (by kernel_rfl) (pk_and i (g := []) (m := 0) (b := u0.ID == u1.ID) (v := u0.Long == u1.Long) rfl (by kernel_rfl) (by kernel_rfl) (by kernel_rfl) rfl) ?_; intro aM S; clear i
 refine s1 S 17 (.bool ((u0.ID == u1.ID) && (u0.Long == u1.Long))) ?_; intro aN T; clear S
 have U := T.atom (((u0.ID == u1.ID) && (u0.Long == u1.Long)) == true) (by kernel_rfl); clear T
 refine gp U 18 1 [] ((u0.ID == u1.ID) && (u0.Long == u1.Long)) (pt c 2) rfl rfl ?_; intro aO j; clear U
 refine gd j (.bool u0.Fast) (m := 1) (cj := []) (bj := (u0.ID == u1.ID) && (u0.Long == u1.Long)) rfl rfl (by kernel_rfl) rfl (by kernel_rfl) (by kernel_rfl) (by kernel_rfl) (fun hg => ld j a 1 (g := [1]) (b := c) (off := 2) (cs := [i6 u0.ID, .bool u0.Long, .bool u0.Fast, .bool u0.Remote, i6 u0.Size, .slice ao1 u0.Data.length cap2]) (ty := 24) rfl (by kernel_rfl) (by kernel_rfl) (by kernel_rfl) (by kernel_rfl) hg) ?_; intro aP V; clear j
 refine gp V 20 1 [] ((u0.ID == u1.ID) && (u0.Long == u1.Long)) (pt d 2) rfl rfl ?_; intro aQ k; clear V
 refine gd k (.bool u1.Fast) (m := 1) (cj := []) (bj := (u0.ID == u1.ID) && (u0.Long == u1.Long)) rfl rfl (by kernel_rfl) rfl (by kernel_rfl) (by kernel_rfl) (by kernel_rfl) (fun hg => ld k a 0 (g := [1]) (b := d) (off := 2) (cs := [i6 u1.ID, .bool u1.Long, .bool u1.Fast, .bool u1.Remote, i6 u1.Size, .slice ao4 u1.Data.length cap5]) (ty := 24) rfl (by kernel_rfl) (by kernel_rfl) (by kernel_rfl) (by kernel_rfl) hg) ?_; intro aR W; clear k
 refine gp W 22 1 [] ((u0.ID == u1.ID) && (u0.Long == u1.Long)) (.bool (u0.Fast == u1.Fast)) rfl rfl ?_; intro aS l; clear W
 refine st l (.bool (((u0.ID == u1.ID) && (u0.Long == u1.Long)) && (u0.Fast == u1.Fast))) (nog rfl _) rfl (by kernel_rfl) (pk_and l (g := []) (m := 1) (b := (u0.ID == u1.ID) && (u0.Long == u1.Long)) (v := u0.Fast == u1.Fast) rfl (by kernel_rfl) (by kernel_rfl) (by kernel_rfl) rfl) ?_; intro aT X; clear l
 refine s1 X 24 (.bool (((u0.ID == u1.ID) && (u0.Long == u1.Long)) && (u0.Fast == u1.Fast))) ?_; intro aU Y; clear X
 have aa := Y.atom ((((u0.ID == u1.ID) && (u0.Long == u1.Long)) && (u0.Fast == u1.Fast)) == true) (by kernel_rfl); clear Y
 refine gp aa 25 2 [] (((u0.ID == u1.ID) && (u0.Long == u1.Long)) && (u0.Fast == u1.Fast)) (pt c 3) rfl rfl ?_; intro aV n; clear aa
 refine gd n (.bool u0.Remote) (m := 2) (cj := []) (bj := ((u0.ID == u1.ID) && (u0.Long == u1.Long)) && (u0.Fast == u1.Fast)) rfl rfl (by kernel_rfl) rfl (by kernel_rfl) (by kernel_rfl) (by kernel_rfl) (fun hg => ld n a 1 (g := [2]) (b := c) (off := 3) (cs := [i6 u0.ID, .bool u0.Long, .bool u0.Fast, .bool u0.Remote, i6 u0.Size, .slice ao1 u0.Data.length cap2]) (ty := 24) rfl (by kernel_rfl) (by kernel_rfl) (by kernel_rfl) (by kernel_rfl) hg) ?_; intro aW ab; clear n
 refine gp ab 27 2 [] (((u0.ID == u1.ID) && (u0.Long == u1.Long)) && (u0.Fast == u1.Fast)) (pt d 3) rfl rfl ?_; intro aX o; clear ab
 refine gd o (.bool u1.Remote) (m := 2) (cj := []) (bj := ((u0.ID == u1.ID) && (u0.Long == u1.Long)) && (u0.Fast == u1.Fast)) rfl rfl (by kernel_rfl) rfl (by kernel_rfl) (by kernel_rfl) (by kernel_rfl) (fun hg => ld o a 0 (g := [2]) (b := d) (off := 3) (cs := [i6 u1.ID, .bool u1.Long, .bool u1.Fast, .bool u1.Remote, i6 u1.Size, .slice ao4 u1.Data.length cap5]) (ty := 24) rfl (by kernel_rfl) (by kernel_rfl) (by kernel_rfl) (by kernel_rfl) hg) ?_; intro aY ac; clear o
 refine gp ac 29 2 [] (((u0.ID == u1.ID) && (u0.Long == u1.Long)) && (u0.Fast == u1.Fast)) (.bool (u0.Remote == u1.Remote)) rfl rfl ?_; intro aZ p; clear ac
 refine st p (.bool ((((u0.ID == u1.ID) && (u0.Long == u1.Long)) && (u0.Fast == u1.Fast)) && (u0.Remote == u1.Remote))) (nog rfl _) rfl (by kernel_rfl) (pk_and p (g := []) (m := 2) (b := ((u0.ID == u1.ID) && (u0.Long == u1.Long)) && (u0.Fast == u1.Fast)) (v := u0.Remote == u1.Remote) rfl (by kernel_rfl) (by kernel_rfl) (by kernel_rfl) rfl) ?_; intro a1 ad; clear p
 refine s1 ad 31 (.bool ((((u0.ID == u1.ID) && (u0.Long == u1.Long)) && (u0.Fast == u1.Fast)) && (u0.Remote == u1.Remote))) ?_; intro a2 ae; clear ad
 have af := ae.atom (((((u0.ID == u1.ID) && (u0.Long == u1.Long)) && (u0.Fast == u1.Fast)) && (u0.Remote == u1.Remote)) == true) (by kernel_rfl); clear ae
 refine gp af 32 3 [] ((((u0.ID == u1.ID) && (u0.Long == u1.Long)) && (u0.Fast == u1.Fast)) && (u0.Remote == u1.Remote)) (pt c 4) rfl rfl ?_; intro a3 q; clear af
 refine gd q (i6 u0.Size) (m := 3) (cj := []) (bj := (((u0.ID == u1.ID) && (u0.Long == u1.Long)) && (u0.Fast == u1.Fast)) && (u0.Remote == u1.Remote)) rfl rfl (by kernel_rfl) rfl (by kernel_rfl) (by kernel_rfl) (by kernel_rfl) (fun hg => ld q a 1 (g := [3]) (b := c) (off := 4) (cs := [i6 u0.ID, .bool u0.Long, .bool u0.Fast, .bool u0.Remote, i6 u0.Size, .slice ao1 u0.Data.length cap2]) (ty := 24) rfl (by kernel_rfl) (by kernel_rfl) (by kernel_rfl) (by kernel_rfl) hg) ?_; intro a4 ag; clear q
 refine gp ag 34 3 [] ((((u0.ID == u1.ID) && (u0.Long == u1.Long)) && (u0.Fast == u1.Fast)) && (u0.Remote == u1.Remote)) (pt d 4) rfl rfl ?_; intro a5 s; clear ag
 refine gd s (i6 u1.Size) (m := 3) (cj := []) (bj := (((u0.ID == u1.ID) && (u0.Long == u1.Long)) && (u0.Fast == u1.Fast)) && (u0.Remote == u1.Remote)) rfl rfl (by kernel_rfl) rfl (by kernel_rfl) (by kernel_rfl) (by kernel_rfl) (fun hg => ld s a 0 (g := [3]) (b := d) (off := 4) (cs := [i6 u1.ID, .bool u1.Long, .bool u1.Fast, .bool u1.Remote, i6 u1.Size, .slice ao4 u1.Data.length cap5]) (ty := 24) rfl (by kernel_rfl) (by kernel_rfl) (by kernel_rfl) (by kernel_rfl) hg) ?_; intro a6 ah; clear s
 refine gp ah 36 3 [] ((((u0.ID == u1.ID) && (u0.Long == u1.Long)) && (u0.Fast == u1.Fast)) && (u0.Remote == u1.Remote)) (.bool (u0.Size == u1.Size)) rfl rfl ?_; intro a7 t; clear ah
 refine st t (.bool (((((u0.ID == u1.ID) && (u0.Long == u1.Long)) && (u0.Fast == u1.Fast)) && (u0.Remote == u1.Remote)) && (u0.Size == u1.Size))) (nog rfl _) rfl (by kernel_rfl) (pk_and t (g := []) (m := 3) (b := (((u0.ID == u1.ID) && (u0.Long == u1.Long)) && (u0.Fast == u1.Fast)) && (u0.Remote == u1.Remote)) (v := u0.Size == u1.Size) rfl (by kernel_rfl) (by kernel_rfl) (by kernel_rfl) rfl) ?_; intro a8 ai; clear t
 refine s1 ai 38 (.bool (((((u0.ID == u1.ID) && (u0.Long == u1.Long)) && (u0.Fast == u1.Fast)) && (u0.Remote == u1.Remote)) && (u0.Size == u1.Size))) ?_; intro a9 aj; clear ai
 have ak := aj.atom ((((((u0.ID == u1.ID) && (u0.Long == u1.Long)) && (u0.Fast == u1.Fast)) && (u0.Remote == u1.Remote)) && (u0.Size == u1.Size)) == true) (by kernel_rfl); clear aj
 refine gp ak 39 4 [] (((((u0.ID == u1.ID) && (u0.Long == u1.Long)) && (u0.Fast == u1.Fast)) && (u0.Remote == u1.Remote)) && (u0.Size == u1.Size)) (pt c 5) rfl rfl ?_; intro ba u; clear ak
 refine gd u (.slice ao1 u0.Data.length cap2) (m := 4) (cj := []) (bj := ((((u0.ID == u1.ID) && (u0.Long == u1.Long)) && (u0.Fast == u1.Fast)) && (u0.Remote == u1.Remote)) && (u0.Size == u1.Size)) rfl rfl (by kernel_rfl) rfl (by kernel_rfl) (by kernel_rfl) (by kernel_rfl) (fun hg => ld u a 1 (g := [4]) (b := c) (off := 5) (cs := [i6 u0.ID, .bool u0.Long, .bool u0.Fast, .bool u0.Remote, i6 u0.Size, .slice ao1 u0.Data.length cap2]) (ty := 24) rfl (by kernel_rfl) (by kernel_rfl) (by kernel_rfl) (by kernel_rfl) hg) ?_; intro bb al; clear u
 refine gp al 41 4 [] (((((u0.ID == u1.ID) && (u0.Long == u1.Long)) && (u0.Fast == u1.Fast)) && (u0.Remote == u1.Remote)) && (u0.Size == u1.Size)) (pt d 5) rfl rfl ?_; intro bc x; clear al
 refine gd x (.slice ao4 u1.Data.length cap5) (m := 4) (cj := []) (bj := ((((u0.ID == u1.ID) && (u0.Long == u1.Long)) && (u0.Fast == u1.Fast)) && (u0.Remote == u1.Remote)) && (u0.Size == u1.Size)) rfl rfl (by kernel_rfl) rfl (by kernel_rfl) (by kernel_rfl) (by kernel_rfl) (fun hg => ld x a 0 (g := [4]) (b := d) (off := 5) (cs := [i6 u1.ID, .bool u1.Long, .bool u1.Fast, .bool u1.Remote, i6 u1.Size, .slice ao4 u1.Data.length cap5]) (ty := 24) rfl (by kernel_rfl) (by kernel_rfl) (by kernel_rfl) (by kernel_rfl) hg) ?_; intro bd am; clear x
 refine gcl am a (.bool (beqS u0.Data u1.Data)) 52 #[.slice ao1 u0.Data.length cap2, .slice ao4 u1.Data.length cap5] (m := 4) (cj := []) (bj := ((((u0.ID == u1.ID) && (u0.Long == u1.Long)) && (u0.Fast == u1.Fast)) && (u0.Remote == u1.Remote)) && (u0.Size == u1.Size)) rfl rfl (by kernel_rfl) rfl (by kernel_rfl) (by kernel_rfl) (by kernel_rfl) (fun _ => by kernel_rfl) (fun hg => beq_fun u0.Data u1.Data ao1 cap2 ao4 cap5 _ _ hs3 hs6 a.fz) ?_; intro be bf y ar; clear am a
 refine st y (.bool ((((((u0.ID == u1.ID) && (u0.Long == u1.Long)) && (u0.Fast == u1.Fast)) && (u0.Remote == u1.Remote)) && (u0.Size == u1.Size)) && (beqS u0.Data u1.Data))) (nog rfl _) rfl (by kernel_rfl) (pk_and y (g := []) (m := 4) (b := ((((u0.ID == u1.ID) && (u0.Long == u1.Long)) && (u0.Fast == u1.Fast)) && (u0.Remote == u1.Remote)) && (u0.Size == u1.Size)) (v := (beqS u0.Data u1.Data)) rfl (by kernel_rfl) (by kernel_rfl) (by kernel_rfl) rfl) ?_; intro bg an; clear y
 refine s1 an 4 (.bool ((((((u0.ID == u1.ID) && (u0.Long == u1.Long)) && (u0.Fast == u1.Fast)) && (u0.Remote == u1.Remote)) && (u0.Size == u1.Size)) && (beqS u0.Data u1.Data))) ?_; intro bh au; clear an
 refine nlH (H _ _ ?_); clear H aq
 refine wp_ret ?_
 refine ra1 au (.bool ((((((u0.ID == u1.ID) && (u0.Long == u1.Long)) && (u0.Fast == u1.Fast)) && (u0.Remote == u1.Remote)) && (u0.Size == u1.Size)) && (beqS u0.Data u1.Data))) ?_
 exact ⟨(((((u0.ID == u1.ID) && (u0.Long == u1.Long)) && (u0.Fast == u1.Fast)) && (u0.Remote == u1.Remote)) && (u0.Size == u1.Size)) && (beqS u0.Data u1.Data), rfl, ao, ar.below⟩

theorem rSame_walk (u0 : Frame) (u1 : Frame) (ao1 : Option Addr) (cap2 : Nat) (ao4 : Option Addr) (cap5 : Nat) (Z : Fz) (w : World) (hs3 : SlR t8 Z ao1 cap2 u0.Data) (hs6 : SlR t8 Z ao4 cap5 u1.Data) (hZ : Z.on w) {K : Bool → Prop} (hp : rSame_vc u0 u1 K) : Calls Tryz.prog 13 #[.agg #[i6 u0.ID, .bool u0.Long, .bool u0.Fast, .bool u0.Remote, i6 u0.Size, .slice ao1 u0.Data.length cap2], .agg #[i6 u1.ID, .bool u1.Long, .bool u1.Fast, .bool u1.Remote, i6 u1.Size, .slice ao4 u1.Data.length cap5]] w fun e w' => ∃ r : Bool, e = .returned (.bool r) ∧ K r ∧ Below w.heap.size w w' := by
 refine enter0 Tryz.func13 rfl rfl (by kernel_rfl) ?_; intro a0 z; have A := Mem.start w Z hZ; have av := Fz.le.refl Z
 have B := hp (hs3.small); clear hp
 have ao := B (hs6.small); clear B
 refine sqH ?_; intro ap C
 refine nw z A pb [i6 u0.ID, .bool u0.Long, .bool u0.Fast, .bool u0.Remote, i6 u0.Size, .slice ao1 u0.Data.length cap2] 24 ?_; intro c aw ax D E; clear z A
 refine nw D E pb [i6 u1.ID, .bool u1.Long, .bool u1.Fast, .bool u1.Remote, i6 u1.Size, .slice ao4 u1.Data.length cap5] 24 ?_; intro d ay az F a; clear D E
 refine s1 F 4 (.bool false) ?_; intro aA G; clear F
 refine nlH (C _ _ ?_); clear C ap
 refine sqH ?_; intro aq H
 refine s1 G 5 (pt c 0) ?_; intro aB I; clear G
 refine l1 I a 6 1 0 (i6 u0.ID) rfl rfl ?_; intro aC J; clear I
 refine s1 J 7 (pt d 0) ?_; intro aD L; clear J
 refine l1 L a 8 0 0 (i6 u1.ID) rfl rfl ?_; intro aE M; clear L
 refine s1 M 9 (.bool (u0.ID == u1.ID)) ?_; intro aF N; clear M
 refine s1 N 10 (.bool (u0.ID == u1.ID)) ?_; intro aG O; clear N
 have P := O.atom ((u0.ID == u1.ID) == true) (by kernel_rfl); clear O
 refine gp P 11 0 [] (u0.ID == u1.ID) (pt c 1) rfl rfl ?_; intro aH f; clear P
 refine gd f (.bool u0.Long) (m := 0) (cj := []) (bj := u0.ID == u1.ID) rfl rfl (by kernel_rfl) rfl (by kernel_rfl) (by kernel_rfl) (by kernel_rfl) (fun hg => ld f a 1 (g := [0]) (b := c) (off := 1) (cs := [i6 u0.ID, .bool u0.Long, .bool u0.Fast, .bool u0.Remote, i6 u0.Size, .slice ao1 u0.Data.length cap2]) (ty := 24) rfl (by kernel_rfl) (by kernel_rfl) (by kernel_rfl) (by kernel_rfl) hg) ?_; intro aI Q; clear f
 refine gp Q 13 0 [] (u0.ID == u1.ID) (pt d 1) rfl rfl ?_; intro aJ h; clear Q
 refine gd h (.bool u1.Long) (m := 0) (cj := []) (bj := u0.ID == u1.ID) rfl rfl (by kernel_rfl) rfl (by kernel_rfl) (by kernel_rfl) (by kernel_rfl) (fun hg => ld h a 0 (g := [0]) (b := d) (off := 1) (cs := [i6 u1.ID, .bool u1.Long, .bool u1.Fast, .bool u1.Remote, i6 u1.Size, .slice ao4 u1.Data.length cap5]) (ty := 24) rfl (by kernel_rfl) (by kernel_rfl) (by kernel_rfl) (by kernel_rfl) hg) ?_; intro aK R; clear h
 refine gp R 15 0 [] (u0.ID == u1.ID) (.bool (u0.Long == u1.Long)) rfl rfl ?_; intro aL i; clear R
 refine st i (.bool ((u0.ID == u1.ID) && (u0.Long == u1.Long))) (nog rfl _) rfl (by kernel_rfl) (pk_and i (g := []) (m := 0) (b := u0.ID == u1.ID) (v := u0.Long == u1.Long) rfl (by kernel_rfl) (by kernel_rfl) (by kernel_rfl) rfl) ?_; intro aM S; clear i
 refine s1 S 17 (.bool ((u0.ID == u1.ID) && (u0.Long == u1.Long))) ?_; intro aN T; clear S
 have U := T.atom (((u0.ID == u1.ID) && (u0.Long == u1.Long)) == true) (by kernel_rfl); clear T
 refine gp U 18 1 [] ((u0.ID == u1.ID) && (u0.Long == u1.Long)) (pt c 2) rfl rfl ?_; intro aO j; clear U
 refine gd j (.bool u0.Fast) (m := 1) (cj := []) (bj := (u0.ID == u1.ID) && (u0.Long == u1.Long)) rfl rfl (by kernel_rfl) rfl (by kernel_rfl) (by kernel_rfl) (by kernel_rfl) (fun hg => ld j a 1 (g := [1]) (b := c) (off := 2) (cs := [i6 u0.ID, .bool u0.Long, .bool u0.Fast, .bool u0.Remote, i6 u0.Size, .slice ao1 u0.Data.length cap2]) (ty := 24) rfl (by kernel_rfl) (by kernel_rfl) (by kernel_rfl) (by kernel_rfl) hg) ?_; intro aP V; clear j
 refine gp V 20 1 [] ((u0.ID == u1.ID) && (u0.Long == u1.Long)) (pt d 2) rfl rfl ?_; intro aQ k; clear V
 refine gd k (.bool u1.Fast) (m := 1) (cj := []) (bj := (u0.ID == u1.ID) && (u0.Long == u1.Long)) rfl rfl (by kernel_rfl) rfl (by kernel_rfl) (by kernel_rfl) (by kernel_rfl) (fun hg => ld k a 0 (g := [1]) (b := d) (off := 2) (cs := [i6 u1.ID, .bool u1.Long, .bool u1.Fast, .bool u1.Remote, i6 u1.Size, .slice ao4 u1.Data.length cap5]) (ty := 24) rfl (by kernel_rfl) (by kernel_rfl) (by kernel_rfl) (by kernel_rfl) hg) ?_; intro aR W; clear k
 refine gp W 22 1 [] ((u0.ID == u1.ID) && (u0.Long == u1.Long)) (.bool (u0.Fast == u1.Fast)) rfl rfl ?_; intro aS l; clear W
 refine st l (.bool (((u0.ID == u1.ID) && (u0.Long == u1.Long)) && (u0.Fast == u1.Fast))) (nog rfl _) rfl (by kernel_rfl) (pk_and l (g := []) (m := 1) (b := (u0.ID == u1.ID) && (u0.Long == u1.Long)) (v := u0.Fast == u1.Fast) rfl (by kernel_rfl) (by kernel_rfl) (by kernel_rfl) rfl) ?_; intro aT X; clear l
 refine s1 X 24 (.bool (((u0.ID == u1.ID) && (u0.Long == u1.Long)) && (u0.Fast == u1.Fast))) ?_; intro aU Y; clear X
 have aa := Y.atom ((((u0.ID == u1.ID) && (u0.Long == u1.Long)) && (u0.Fast == u1.Fast)) == true) (by kernel_rfl); clear Y
 refine gp aa 25 2 [] (((u0.ID == u1.ID) && (u0.Long == u1.Long)) && (u0.Fast == u1.Fast)) (pt c 3) rfl rfl ?_; intro aV n; clear aa
 refine gd n (.bool u0.Remote) (m := 2) (cj := []) (bj := ((u0.ID == u1.ID) && (u0.Long == u1.Long)) && (u0.Fast == u1.Fast)) rfl rfl (by kernel_rfl) rfl (by kernel_rfl) (by kernel_rfl) (by kernel_rfl) (fun hg => ld n a 1 (g := [2]) (b := c) (off := 3) (cs := [i6 u0.ID, .bool u0.Long, .bool u0.Fast, .bool u0.Remote, i6 u0.Size, .slice ao1 u0.Data.length cap2]) (ty := 24) rfl (by kernel_rfl) (by kernel_rfl) (by kernel_rfl) (by kernel_rfl) hg) ?_; intro aW ab; clear n
 refine gp ab 27 2 [] (((u0.ID == u1.ID) && (u0.Long == u1.Long)) && (u0.Fast == u1.Fast)) (pt d 3) rfl rfl ?_; intro aX o; clear ab
 refine gd o (.bool u1.Remote) (m := 2) (cj := []) (bj := ((u0.ID == u1.ID) && (u0.Long == u1.Long)) && (u0.Fast == u1.Fast)) rfl rfl (by kernel_rfl) rfl (by kernel_rfl) (by kernel_rfl) (by kernel_rfl) (fun hg => ld o a 0 (g := [2]) (b := d) (off := 3) (cs := [i6 u1.ID, .bool u1.Long, .bool u1.Fast, .bool u1.Remote, i6 u1.Size, .slice ao4 u1.Data.length cap5]) (ty := 24) rfl (by kernel_rfl) (by kernel_rfl) (by kernel_rfl) (by kernel_rfl) hg) ?_; intro aY ac; clear o
 refine gp ac 29 2 [] (((u0.ID == u1.ID) && (u0.Long == u1.Long)) && (u0.Fast == u1.Fast)) (.bool (u0.Remote == u1.Remote)) rfl rfl ?_; intro aZ p; clear ac
 refine st p (.bool ((((u0.ID == u1.ID) && (u0.Long == u1.Long)) && (u0.Fast == u1.Fast)) && (u0.Remote == u1.Remote))) (nog rfl _) rfl (by kernel_rfl) (pk_and p (g := []) (m := 2) (b := ((u0.ID == u1.ID) && (u0.Long == u1.Long)) && (u0.Fast == u1.Fast)) (v := u0.Remote == u1.Remote) rfl (by kernel_rfl) (by kernel_rfl) (by kernel_rfl) rfl) ?_; intro a1 ad; clear p
 refine s1 ad 31 (.bool ((((u0.ID == u1.ID) && (u0.Long == u1.Long)) && (u0.Fast == u1.Fast)) && (u0.Remote == u1.Remote))) ?_; intro a2 ae; clear ad
 have af := ae.atom (((((u0.ID == u1.ID) && (u0.Long == u1.Long)) && (u0.Fast == u1.Fast)) && (u0.Remote == u1.Remote)) == true) (by kernel_rfl); clear ae
 refine gp af 32 3 [] ((((u0.ID == u1.ID) && (u0.Long == u1.Long)) && (u0.Fast == u1.Fast)) && (u0.Remote == u1.Remote)) (pt c 4) rfl rfl ?_; intro a3 q; clear af
 refine gd q (i6 u0.Size) (m := 3) (cj := []) (bj := (((u0.ID == u1.ID) && (u0.Long == u1.Long)) && (u0.Fast == u1.Fast)) && (u0.Remote == u1.Remote)) rfl rfl (by kernel_rfl) rfl (by kernel_rfl) (by kernel_rfl) (by kernel_rfl) (fun hg => ld q a 1 (g := [3]) (b := c) (off := 4) (cs := [i6 u0.ID, .bool u0.Long, .bool u0.Fast, .bool u0.Remote, i6 u0.Size, .slice ao1 u0.Data.length cap2]) (ty := 24) rfl (by kernel_rfl) (by kernel_rfl) (by kernel_rfl) (by kernel_rfl) hg) ?_; intro a4 ag; clear q
 refine gp ag 34 3 [] ((((u0.ID == u1.ID) && (u0.Long == u1.Long)) && (u0.Fast == u1.Fast)) && (u0.Remote == u1.Remote)) (pt d 4) rfl rfl ?_; intro a5 s; clear ag
 refine gd s (i6 u1.Size) (m := 3) (cj := []) (bj := (((u0.ID == u1.ID) && (u0.Long == u1.Long)) && (u0.Fast == u1.Fast)) && (u0.Remote == u1.Remote)) rfl rfl (by kernel_rfl) rfl (by kernel_rfl) (by kernel_rfl) (by kernel_rfl) (fun hg => ld s a 0 (g := [3]) (b := d) (off := 4) (cs := [i6 u1.ID, .bool u1.Long, .bool u1.Fast, .bool u1.Remote, i6 u1.Size, .slice ao4 u1.Data.length cap5]) (ty := 24) rfl (by kernel_rfl) (by kernel_rfl) (by kernel_rfl) (by kernel_rfl) hg) ?_; intro a6 ah; clear s
 refine gp ah 36 3 [] ((((u0.ID == u1.ID) && (u0.Long == u1.Long)) && (u0.Fast == u1.Fast)) && (u0.Remote == u1.Remote)) (.bool (u0.Size == u1.Size)) rfl rfl ?_; intro a7 t; clear ah
 refine st t (.bool (((((u0.ID == u1.ID) && (u0.Long == u1.Long)) && (u0.Fast == u1.Fast)) && (u0.Remote == u1.Remote)) && (u0.Size == u1.Size))) (nog rfl _) rfl (by kernel_rfl) (pk_and t (g := []) (m := 3) (b := (((u0.ID == u1.ID) && (u0.Long == u1.Long)) && (u0.Fast == u1.Fast)) && (u0.Remote == u1.Remote)) (v := u0.Size == u1.Size) rfl (by kernel_rfl) (by kernel_rfl) (by kernel_rfl) rfl) ?_; intro a8 ai; clear t
 refine s1 ai 38 (.bool (((((u0.ID == u1.ID) && (u0.Long == u1.Long)) && (u0.Fast == u1.Fast)) && (u0.Remote == u1.Remote)) && (u0.Size == u1.Size))) ?_; intro a9 aj; clear ai
 have ak := aj.atom ((((((u0.ID == u1.ID) && (u0.Long == u1.Long)) && (u0.Fast == u1.Fast)) && (u0.Remote == u1.Remote)) && (u0.Size == u1.Size)) == true) (by kernel_rfl); clear aj
 refine gp ak 39 4 [] (((((u0.ID == u1.ID) && (u0.Long == u1.Long)) && (u0.Fast == u1.Fast)) && (u0.Remote == u1.Remote)) && (u0.Size == u1.Size)) (pt c 5) rfl rfl ?_; intro ba u; clear ak
 refine gd u (.slice ao1 u0.Data.length cap2) (m := 4) (cj := []) (bj := ((((u0.ID == u1.ID) && (u0.Long == u1.Long)) && (u0.Fast == u1.Fast)) && (u0.Remote == u1.Remote)) && (u0.Size == u1.Size)) rfl rfl (by kernel_rfl) rfl (by kernel_rfl) (by kernel_rfl) (by kernel_rfl) (fun hg => ld u a 1 (g := [4]) (b := c) (off := 5) (cs := [i6 u0.ID, .bool u0.Long, .bool u0.Fast, .bool u0.Remote, i6 u0.Size, .slice ao1 u0.Data.length cap2]) (ty := 24) rfl (by kernel_rfl) (by kernel_rfl) (by kernel_rfl) (by kernel_rfl) hg) ?_; intro bb al; clear u
 refine gp al 41 4 [] (((((u0.ID == u1.ID) && (u0.Long == u1.Long)) && (u0.Fast == u1.Fast)) && (u0.Remote == u1.Remote)) && (u0.Size == u1.Size)) (pt d 5) rfl rfl ?_; intro bc x; clear al
 refine gd x (.slice ao4 u1.Data.length cap5) (m := 4) (cj := []) (bj := ((((u0.ID == u1.ID) && (u0.Long == u1.Long)) && (u0.Fast == u1.Fast)) && (u0.Remote == u1.Remote)) && (u0.Size == u1.Size)) rfl rfl (by kernel_rfl) rfl (by kernel_rfl) (by kernel_rfl) (by kernel_rfl) (fun hg => ld x a 0 (g := [4]) (b := d) (off := 5) (cs := [i6 u1.ID, .bool u1.Long, .bool u1.Fast, .bool u1.Remote, i6 u1.Size, .slice ao4 u1.Data.length cap5]) (ty := 24) rfl (by kernel_rfl) (by kernel_rfl) (by kernel_rfl) (by kernel_rfl) hg) ?_; intro bd am; clear x
 refine gcl am a (.bool (beqS u0.Data u1.Data)) 52 #[.slice ao1 u0.Data.length cap2, .slice ao4 u1.Data.length cap5] (m := 4) (cj := []) (bj := ((((u0.ID == u1.ID) && (u0.Long == u1.Long)) && (u0.Fast == u1.Fast)) && (u0.Remote == u1.Remote)) && (u0.Size == u1.Size)) rfl rfl (by kernel_rfl) rfl (by kernel_rfl) (by kernel_rfl) (by kernel_rfl) (fun _ => by kernel_rfl) (fun hg => beq_fun u0.Data u1.Data ao1 cap2 ao4 cap5 _ _ hs3 hs6 a.fz) ?_; intro be bf y ar; clear am a
 refine st y (.bool ((((((u0.ID == u1.ID) && (u0.Long == u1.Long)) && (u0.Fast == u1.Fast)) && (u0.Remote == u1.Remote)) && (u0.Size == u1.Size)) && (beqS u0.Data u1.Data))) (nog rfl _) rfl (by kernel_rfl) (pk_and y (g := []) (m := 4) (b := ((((u0.ID == u1.ID) && (u0.Long == u1.Long)) && (u0.Fast == u1.Fast)) && (u0.Remote == u1.Remote)) && (u0.Size == u1.Size)) (v := (beqS u0.Data u1.Data)) rfl (by kernel_rfl) (by kernel_rfl) (by kernel_rfl) rfl) ?_; intro bg an; clear y
 refine s1 an 4 (.bool ((((((u0.ID == u1.ID) && (u0.Long == u1.Long)) && (u0.Fast == u1.Fast)) && (u0.Remote == u1.Remote)) && (u0.Size == u1.Size)) && (beqS u0.Data u1.Data))) ?_; intro bh au; clear an
 refine nlH (H _ _ ?_); clear H aq
 refine wp_ret ?_
 refine ra1 au (.bool ((((((u0.ID == u1.ID) && (u0.Long == u1.Long)) && (u0.Fast == u1.Fast)) && (u0.Remote == u1.Remote)) && (u0.Size == u1.Size)) && (beqS u0.Data u1.Data))) ?_
 exact ⟨(((((u0.ID == u1.ID) && (u0.Long == u1.Long)) && (u0.Fast == u1.Fast)) && (u0.Remote == u1.Remote)) && (u0.Size == u1.Size)) && (beqS u0.Data u1.Data), rfl, ao, ar.below⟩

theorem rfail_walk (u0 : FReader) (u1 : Int) (b1 : Nat) (ao2 : Option Addr) (cap3 : Nat) (B : Nat) (w0 : World) (Z0 : Fz) (Rr : List Res) (Z : Fz) (w : World) (hs4 : SlR t8 Z ao2 cap3 u0.f.Data) (hM0 : Mem B [] w0 Z0 ((.row b1 [str u0.Reader.Row, i6 u0.Reader.At, i6 u0.Reader.Code, y8 u0.Reader.c.last, i6 u0.Reader.c.n, i6 u0.f.ID, .bool u0.f.Long, .bool u0.f.Fast, .bool u0.f.Remote, i6 u0.f.Size, .slice ao2 u0.f.Data.length cap3] 61) :: Rr) Z w) (hZ : Z.on w) {K : FReader → Prop} (hp : rfail_vc u0 u1 K) : Calls Tryz.prog 34 #[pt b1 0, i6 u1] w fun e w' => ∃ (r : FReader) (ao1001 : Option Addr) (cap1002 : Nat) (Z' : Fz), e = .returned (.tuple #[]) ∧ K r ∧ Fz.le Z Z' ∧ SlR t8 Z' ao1001 cap1002 r.f.Data ∧ Mem B [] w0 Z0 ((.row b1 [str r.Reader.Row, i6 r.Reader.At, i6 r.Reader.Code, y8 r.Reader.c.last, i6 r.Reader.c.n, i6 r.f.ID, .bool r.f.Long, .bool r.f.Fast, .bool r.f.Remote, i6 r.f.Size, .slice ao1001 r.f.Data.length cap1002] 61) :: Rr) Z' w' := by
 refine enter0 Tryz.func34 rfl rfl (by kernel_rfl) ?_; intro s h; have i := Fz.le.refl Z
 have b := hp (hs4.small); clear hp
 refine sqB h hM0 [0] [] [(9, .bool (u0.Reader.Code == 0))] ?_; intro u a; clear h
 refine cd a (t := u0.Reader.Code == 0) (by kernel_rfl) (fun d => ?_) (fun d => ?_)
 ·
  have l := b.1 d; clear b
  refine rgH ?_; intro m j
  refine bt a hM0 5 [] [] [(11, i6 u1), (14, pt b1 2)] ?_; intro x g; clear a
  refine sx g hM0 0 [str u0.Reader.Row, i6 u0.Reader.At, i6 u1, y8 u0.Reader.c.last, i6 u0.Reader.c.n, i6 u0.f.ID, .bool u0.f.Long, .bool u0.f.Fast, .bool u0.f.Remote, i6 u0.f.Size, .slice ao2 u0.f.Data.length cap3] 2 ?_; intro o k; clear hM0
  have p : Mem B [] w0 Z0 ((.row b1 [str u0.Reader.Row, i6 u0.Reader.At, i6 u1, y8 u0.Reader.c.last, i6 u0.Reader.c.n, i6 u0.f.ID, .bool u0.f.Long, .bool u0.f.Fast, .bool u0.f.Remote, i6 u0.f.Size, .slice ao2 u0.f.Data.length cap3] 61) :: Rr) Z o := k; clear k
  refine nlH (j _ _ ?_); clear j m
  refine rN (fn := Tryz.f34) (v := .tuple #[]) g (re0 g (fn := Tryz.f34) rfl) ?_
  exact ⟨(⟨(⟨u0.Reader.Row, u0.Reader.At, u1, u0.Reader.c⟩ : Reader), u0.f⟩ : FReader), ao2, cap3, Z, rfl, l, i, hs4, p.keep (List.Sublist.cons_cons _ (List.Sublist.refl _))⟩
 have q := b.2 d; clear b
 refine wp_skip ?_
 refine rN (fn := Tryz.f34) (v := .tuple #[]) a (re0 a (fn := Tryz.f34) rfl) ?_
 exact ⟨u0, ao2, cap3, Z, rfl, q, i, hs4, hM0.keep (List.Sublist.cons_cons _ (List.Sublist.refl _))⟩

end Go.Proofs.YtmbdcehmeiiaoaaGreatDoor
set_option linter.unusedVariables false
set_option linter.unusedSimpArgs false
set_option maxRecDepth 100000
set_option maxHeartbeats 0
namespace Go.Proofs.YtmbdcehmeiiaoaaGreatDoor
open Go.Sy Go.RowKit
theorem rofb_walk (u0 : List Int) (ao1 : Option Addr) (cap2 : Nat) (Z : Fz) (w : World) (hs3 : SlR t8 Z ao1 cap2 u0) (hg5 : SlR t8 Z (sm 5) 64 deBruijn64) (hZ : Z.on w) {K : (List UInt8) → Prop} (hp : rofb_vc u0 K) : Calls Tryz.prog 90 #[.slice ao1 u0.length cap2] w fun e w' => ∃ r : (List UInt8), e = .returned (str r) ∧ K r ∧ Below w.heap.size w w' := by
 refine enter0 Tryz.func90 rfl rfl (by kernel_rfl) ?_; intro a0 m; have g := Mem.start w Z hZ; have ay := Fz.le.refl Z
 have U := hp (hs3.small); clear hp
 refine sqB m g [] [] [] ?_; intro a6 n; clear m
 refine sqB n g [] [] [(3, str [])] ?_; intro a9 o; clear n
 refine wp_seq ?_
 refine sqB o g [] [] [(7, .slice ao1 u0.length cap2), (8, i6 (u0.length : Int)), (9, i6 0)] ?_; intro p q; clear o
 refine wp_block ?_
 have u : Fr 26 [] [⟨3, [], str []⟩, ⟨7, [], .slice ao1 u0.length cap2⟩, ⟨8, [], i6 (u0.length : Int)⟩, ⟨9, [], i6 0⟩] p := q.region (by kernel_rfl) (by kernel_rfl); clear q
 have v : Fr 26 [] [⟨3, [], str []⟩, ⟨7, [], .slice ao1 u0.length cap2⟩, ⟨8, [], i6 (u0.length : Int)⟩, ⟨9, [], i6 0⟩] p := u.region (by kernel_rfl) (by kernel_rfl); clear u
 obtain ⟨V, W, X, Y⟩ := U
 refine lp (ι := (List UInt8) × Int) (fun (s : (List UInt8) × Int) => [⟨3, [], str s.1⟩, ⟨7, [], .slice ao1 u0.length cap2⟩, ⟨8, [], i6 (u0.length : Int)⟩, ⟨9, [], i6 s.2⟩]) (fun (s : (List UInt8) × Int) => []) (fun (s : (List UInt8) × Int) => Z) (fun (s : (List UInt8) × Int) => V s.1 s.2) (fun (s : (List UInt8) × Int) => W s.1 s.2) ⟨[], 0⟩ X (by exact v.region (by kernel_rfl) (by kernel_rfl)) (by exact g) ?_
 rintro ⟨a, d⟩ aa ab ac x y
 have z : Fr 26 [] [⟨3, [], str a⟩, ⟨7, [], .slice ao1 u0.length cap2⟩, ⟨8, [], i6 (u0.length : Int)⟩, ⟨9, [], i6 d⟩] ab := x; clear x v
 have b : Mem w.heap.size [] w Z [] Z ac := y; clear y g
 have i := Y a d aa
 refine sqB z b [] [] [(10, .bool (decide (d < (u0.length : Int))))] ?_; intro az h; clear z
 refine wp_seq ?_
 refine cd h (t := decide (d < (u0.length : Int))) (by kernel_rfl) (fun l => ?_) (fun l => ?_)
 · -- yes
  have ad := i.1 l; clear i
  refine wp_skip ?_
  refine thn ?_
  refine wp_seq ?_
  refine wp_block ?_
  refine sqH ?_; intro ae A
  obtain ⟨af, B⟩ := ad
  refine ix h (T := t8) (xs := u0) hs3 d af (k := .i64) (e := 5) (bytes := 1) (nog rfl _) rfl (by kernel_rfl) rfl (by kernel_rfl) (by kernel_rfl) (by kernel_rfl) ?_; intro aA aB ag f aC ah ai aj C; clear h
  have ak := B f ah; clear B
  obtain rfl : ag = ([y8 f] : List Value) := aj
  refine z1 C b 12 ai 0 (y8 f) rfl ?_; intro aD D; clear C
  refine s1 D 5 (y8 f) ?_; intro aE E; clear D
  refine nlH (A _ _ ?_); clear A ae
  refine sqH ?_; intro al F
  refine bt E b 2 [] [] [(14, i6 (w64 f))] ?_; intro aF G; clear E
  refine ck G 88 #[i6 (w64 f), i6 2] ?_
  refine (fint1_walk (w64 f) _ _ hg5 b.fz ak).mono ?_; rintro _ aG ⟨c, rfl, am, hb⟩; refine ⟨_, rfl, ?_⟩; intro aH H; have j := b.call hb; clear hb b G
  refine s1 H 6 (str c) ?_; intro aI I; clear H
  refine nlH (F _ _ ?_); clear F al
  refine rgH ?_; intro an J
  refine bt I j 4 [] [] [(16, str a), (19, i6 (w64 (8 - (c.length : Int))))] ?_; intro aJ L; clear I
  obtain ⟨ao, ap⟩ := am
  refine fc L j (srep_fun ([48] : List UInt8) (w64 (8 - (c.length : Int))) ao _ _ j.fz) ?_; intro aK aL M N; clear L j
  refine s1 M 21 (str c) ?_; intro aM O; clear M
  obtain ⟨aq, ar⟩ := ap
  refine sa O aq ?_; intro aN P; clear O
  obtain ⟨au, Q⟩ := ar
  refine sa P au ?_; intro aO R; clear P
  refine s1 R 3 (str (a ++ ((srepS ([48] : List UInt8) (w64 (8 - (c.length : Int)))) ++ c))) ?_; intro aP S; clear R
  refine nlH (J _ _ ?_); clear J an
  refine ibn ?_
  refine thn ?_
  refine rgB S N [] [] [(9, i6 (w64 (d + 1)))] ?_; intro aQ av; clear S
  refine rd ?_
  exact ⟨⟨a ++ ((srepS ([48] : List UInt8) (w64 (8 - (c.length : Int)))) ++ c), w64 (d + 1)⟩, Q.1, Q.2, (av.region (by kernel_rfl) (by kernel_rfl)).anyβ _ (by kernel_rfl), N.keep (List.Sublist.slnil)⟩
 · -- no
  have aw := i.2 l; clear i
  refine wp_exit ?_
  refine thx ?_
  refine thx ?_
  refine ibx ?_
  refine thn ?_
  refine sqB h b [] [] [(2, str a)] ?_; intro aR ax; clear h
  refine wp_ret ?_
  refine ra1 ax (str a) ?_
  exact ⟨a, rfl, aw, b.below⟩

theorem rname_walk (u0 : Frame) (ao1 : Option Addr) (cap2 : Nat) (Z : Fz) (w : World) (hs3 : SlR t8 Z ao1 cap2 u0.Data) (hg5 : SlR t8 Z (sm 5) 64 deBruijn64) (hZ : Z.on w) {K : (List UInt8) → Prop} (hp : rname_vc u0 K) : Calls Tryz.prog 20 #[.agg #[i6 u0.ID, .bool u0.Long, .bool u0.Fast, .bool u0.Remote, i6 u0.Size, .slice ao1 u0.Data.length cap2]] w fun e w' => ∃ r : (List UInt8), e = .returned (str r) ∧ K r ∧ Below w.heap.size w w' := by
 refine enter0 Tryz.func20 rfl rfl (by kernel_rfl) ?_; intro a0 E; have F := Mem.start w Z hZ; have bv := Fz.le.refl Z
 have f := hp (hs3.small); clear hp
 refine sqH ?_; intro ax G
 refine nw E F pb [i6 u0.ID, .bool u0.Long, .bool u0.Fast, .bool u0.Remote, i6 u0.Size, .slice ao1 u0.Data.length cap2] 24 ?_; intro b6 a7 bw H a; clear E F
 refine s1 H 2 (str []) ?_; intro bx I; clear H
 refine nlH (G _ _ ?_); clear G ax
 refine sqB I a [] [] [(3, str ([48] : List UInt8))] ?_; intro bz J; clear I
 refine wp_seq ?_
 refine sqB J a [0] [] [(9, .bool u0.Remote)] ?_; intro bA b; clear J
 refine cd b (t := u0.Remote) (by kernel_rfl) (fun j => ?_) (fun j => ?_)
 · -- yes
  have h := f.1 j; clear f
  refine rgB b a [] [] [(3, str ([49] : List UInt8))] ?_; intro bB L; clear b
  refine thn ?_
  refine wp_seq ?_
  refine sqB L a [0] [] [(11, .bool u0.Long)] ?_; intro bC c; clear L
  refine cd c (t := u0.Long) (by kernel_rfl) (fun l => ?_) (fun l => ?_)
  · -- yes
   have ay := h.1 l; clear h
   refine sqH ?_; intro az M
   refine bt c a 2 [0] [] [(14, i6 u0.ID)] ?_; intro bD N; clear c
   obtain ⟨aA, aB⟩ := ay
   refine fc N a (rrow_fun u0.ID 29 aA _ _ hg5 a.fz) ?_; intro bE bF O m; clear N a
   refine bt O m 5 [] [] [(4, str ((rrowS u0.ID 29).1))] ?_; intro aC P; clear O
   refine nlH (M _ _ ?_); clear M az
   have Q : Fr 36 [] [⟨3, [], str ([49] : List UInt8)⟩, ⟨4, [], str ((rrowS u0.ID 29).1)⟩] aC := P.region (by kernel_rfl) (by kernel_rfl); clear P
   refine sqQH mixed (by kernel_rfl) m ?_; intro aD R
   refine q1 Q 18 (str ((rrowS u0.ID 29).1)) ?_; intro bG n; clear Q
   obtain ⟨aE, aF⟩ := aB
   refine qst n (str (((rrowS u0.ID 29).1).take (11 : Int).toNat)) (nog rfl _) rfl (by kernel_rfl) (fun v59 hC => strslH_run n (g := []) (k := .i64) rfl (by kernel_rfl) (by kernel_rfl) (by kernel_rfl) aE rfl) ?_; intro bH o; clear n
   obtain ⟨aG, aH⟩ := aF
   refine qst o (str ((((rrowS u0.ID 29).1).take (11 : Int).toNat) ++ ([49, 49] : List UInt8))) (nog rfl _) rfl (by kernel_rfl) (fun v64 hC => stradd_run o (g := []) rfl (by kernel_rfl) (by kernel_rfl) aG rfl) ?_; intro bI S; clear o
   refine q1 S 21 (str ((rrowS u0.ID 29).1)) ?_; intro bJ p; clear S
   obtain ⟨aI, aJ⟩ := aH
   refine qst p (str (((rrowS u0.ID 29).1).drop (11 : Int).toNat)) (nog rfl _) rfl (by kernel_rfl) (fun v72 hC => strslL_run p (g := []) (k := .i64) rfl (by kernel_rfl) (by kernel_rfl) (by kernel_rfl) aI rfl) ?_; intro bK q; clear p
   obtain ⟨aK, aL⟩ := aJ
   refine qst q (str (((((rrowS u0.ID 29).1).take (11 : Int).toNat) ++ ([49, 49] : List UInt8)) ++ (((rrowS u0.ID 29).1).drop (11 : Int).toNat))) (nog rfl _) rfl (by kernel_rfl) (fun v77 hC => stradd_run q (g := []) rfl (by kernel_rfl) (by kernel_rfl) aK rfl) ?_; intro bL T; clear q
   refine q1 T 24 (str ([49] : List UInt8)) ?_; intro bM s; clear T
   obtain ⟨aM, aN⟩ := aL
   refine qst s (str ((((((rrowS u0.ID 29).1).take (11 : Int).toNat) ++ ([49, 49] : List UInt8)) ++ (((rrowS u0.ID 29).1).drop (11 : Int).toNat)) ++ ([49] : List UInt8))) (nog rfl _) rfl (by kernel_rfl) (fun v85 hC => stradd_run s (g := []) rfl (by kernel_rfl) (by kernel_rfl) aM rfl) ?_; intro bN U; clear s
   refine q1 U 2 (str ((((((rrowS u0.ID 29).1).take (11 : Int).toNat) ++ ([49, 49] : List UInt8)) ++ (((rrowS u0.ID 29).1).drop (11 : Int).toNat)) ++ ([49] : List UInt8))) ?_; intro bO aO; clear U
   refine qnl (R _ ?_); clear R aD; intro bP aP; clear m
   refine wp_ret ?_
   refine thr ?_
   refine ra1 aO (str ((((((rrowS u0.ID 29).1).take (11 : Int).toNat) ++ ([49, 49] : List UInt8)) ++ (((rrowS u0.ID 29).1).drop (11 : Int).toNat)) ++ ([49] : List UInt8))) ?_
   exact ⟨(((((rrowS u0.ID 29).1).take (11 : Int).toNat) ++ ([49, 49] : List UInt8)) ++ (((rrowS u0.ID 29).1).drop (11 : Int).toNat)) ++ ([49] : List UInt8), rfl, aN, aP.below⟩
  · -- no
   have aQ := h.2 l; clear h
   refine wp_skip ?_
   refine thn ?_
   refine sqH ?_; intro aR V
   refine bt c a 2 [0] [] [(28, i6 u0.ID)] ?_; intro bQ W; clear c
   obtain ⟨aS, aT⟩ := aQ
   refine fc W a (rrow_fun u0.ID 11 aS _ _ hg5 a.fz) ?_; intro bR bS X u; clear W a
   refine bt X u 5 [] [] [(6, str ((rrowS u0.ID 11).1))] ?_; intro bT Y; clear X
   refine nlH (V _ _ ?_); clear V aR
   refine sqH ?_; intro aU aa
   refine bt Y u 2 [] [] [(32, str ((rrowS u0.ID 11).1)), (33, str ([49] : List UInt8))] ?_; intro bU ab; clear Y
   obtain ⟨aV, aW⟩ := aT
   refine sa ab aV ?_; intro bV ac; clear ab
   obtain ⟨aX, aY⟩ := aW
   refine sa ac aX ?_; intro bW ad; clear ac
   refine s1 ad 2 (str ((((rrowS u0.ID 11).1) ++ ([49] : List UInt8)) ++ ([48] : List UInt8))) ?_; intro bX aZ; clear ad
   refine nlH (aa _ _ ?_); clear aa aU
   refine wp_ret ?_
   refine ra1 aZ (str ((((rrowS u0.ID 11).1) ++ ([49] : List UInt8)) ++ ([48] : List UInt8))) ?_
   exact ⟨(((rrowS u0.ID 11).1) ++ ([49] : List UInt8)) ++ ([48] : List UInt8), rfl, aY, u.below⟩
 · -- no
  have i := f.2 j; clear f
  refine wp_skip ?_
  refine thn ?_
  refine wp_seq ?_
  refine sqB b a [0] [] [(11, .bool u0.Long)] ?_; intro bY d; clear b
  refine cd d (t := u0.Long) (by kernel_rfl) (fun v => ?_) (fun v => ?_)
  · -- yes
   have a1 := i.1 v; clear i
   refine sqH ?_; intro a2 ae
   refine bt d a 2 [0] [] [(14, i6 u0.ID)] ?_; intro bZ af; clear d
   obtain ⟨a3, a4⟩ := a1
   refine fc af a (rrow_fun u0.ID 29 a3 _ _ hg5 a.fz) ?_; intro b0 b1 ag x; clear af a
   refine bt ag x 5 [] [] [(4, str ((rrowS u0.ID 29).1))] ?_; intro a5 ah; clear ag
   refine nlH (ae _ _ ?_); clear ae a2
   have ai : Fr 36 [] [⟨3, [], str ([48] : List UInt8)⟩, ⟨4, [], str ((rrowS u0.ID 29).1)⟩] a5 := ah.region (by kernel_rfl) (by kernel_rfl); clear ah
   refine sqQH mixed (by kernel_rfl) x ?_; intro a6 aj
   refine q1 ai 18 (str ((rrowS u0.ID 29).1)) ?_; intro b2 y; clear ai
   obtain ⟨a8, a9⟩ := a4
   refine qst y (str (((rrowS u0.ID 29).1).take (11 : Int).toNat)) (nog rfl _) rfl (by kernel_rfl) (fun v166 hC => strslH_run y (g := []) (k := .i64) rfl (by kernel_rfl) (by kernel_rfl) (by kernel_rfl) a8 rfl) ?_; intro b3 z; clear y
   obtain ⟨ba, bb⟩ := a9
   refine qst z (str ((((rrowS u0.ID 29).1).take (11 : Int).toNat) ++ ([49, 49] : List UInt8))) (nog rfl _) rfl (by kernel_rfl) (fun v171 hC => stradd_run z (g := []) rfl (by kernel_rfl) (by kernel_rfl) ba rfl) ?_; intro b4 ak; clear z
   refine q1 ak 21 (str ((rrowS u0.ID 29).1)) ?_; intro b5 A; clear ak
   obtain ⟨bc, bd⟩ := bb
   refine qst A (str (((rrowS u0.ID 29).1).drop (11 : Int).toNat)) (nog rfl _) rfl (by kernel_rfl) (fun v179 hC => strslL_run A (g := []) (k := .i64) rfl (by kernel_rfl) (by kernel_rfl) (by kernel_rfl) bc rfl) ?_; intro b7 B; clear A
   obtain ⟨be, bf⟩ := bd
   refine qst B (str (((((rrowS u0.ID 29).1).take (11 : Int).toNat) ++ ([49, 49] : List UInt8)) ++ (((rrowS u0.ID 29).1).drop (11 : Int).toNat))) (nog rfl _) rfl (by kernel_rfl) (fun v184 hC => stradd_run B (g := []) rfl (by kernel_rfl) (by kernel_rfl) be rfl) ?_; intro b8 al; clear B
   refine q1 al 24 (str ([48] : List UInt8)) ?_; intro b9 C; clear al
   obtain ⟨bg, bh⟩ := bf
   refine qst C (str ((((((rrowS u0.ID 29).1).take (11 : Int).toNat) ++ ([49, 49] : List UInt8)) ++ (((rrowS u0.ID 29).1).drop (11 : Int).toNat)) ++ ([48] : List UInt8))) (nog rfl _) rfl (by kernel_rfl) (fun v192 hC => stradd_run C (g := []) rfl (by kernel_rfl) (by kernel_rfl) bg rfl) ?_; intro ca am; clear C
   refine q1 am 2 (str ((((((rrowS u0.ID 29).1).take (11 : Int).toNat) ++ ([49, 49] : List UInt8)) ++ (((rrowS u0.ID 29).1).drop (11 : Int).toNat)) ++ ([48] : List UInt8))) ?_; intro cb bi; clear am
   refine qnl (aj _ ?_); clear aj a6; intro cc bj; clear x
   refine wp_ret ?_
   refine thr ?_
   refine ra1 bi (str ((((((rrowS u0.ID 29).1).take (11 : Int).toNat) ++ ([49, 49] : List UInt8)) ++ (((rrowS u0.ID 29).1).drop (11 : Int).toNat)) ++ ([48] : List UInt8))) ?_
   exact ⟨(((((rrowS u0.ID 29).1).take (11 : Int).toNat) ++ ([49, 49] : List UInt8)) ++ (((rrowS u0.ID 29).1).drop (11 : Int).toNat)) ++ ([48] : List UInt8), rfl, bh, bj.below⟩
  · -- no
   have bk := i.2 v; clear i
   refine wp_skip ?_
   refine thn ?_
   refine sqH ?_; intro bl an
   refine bt d a 2 [0] [] [(28, i6 u0.ID)] ?_; intro ce ao; clear d
   obtain ⟨bm, bn⟩ := bk
   refine fc ao a (rrow_fun u0.ID 11 bm _ _ hg5 a.fz) ?_; intro cf cg ap D; clear ao a
   refine bt ap D 5 [] [] [(6, str ((rrowS u0.ID 11).1))] ?_; intro ch aq; clear ap
   refine nlH (an _ _ ?_); clear an bl
   refine sqH ?_; intro bo ar
   refine bt aq D 2 [] [] [(32, str ((rrowS u0.ID 11).1)), (33, str ([48] : List UInt8))] ?_; intro ci au; clear aq
   obtain ⟨bp, bq⟩ := bn
   refine sa au bp ?_; intro cj av; clear au
   obtain ⟨br, bs⟩ := bq
   refine sa av br ?_; intro ck aw; clear av
   refine s1 aw 2 (str ((((rrowS u0.ID 11).1) ++ ([48] : List UInt8)) ++ ([48] : List UInt8))) ?_; intro cl bu; clear aw
   refine nlH (ar _ _ ?_); clear ar bo
   refine wp_ret ?_
   refine ra1 bu (str ((((rrowS u0.ID 11).1) ++ ([48] : List UInt8)) ++ ([48] : List UInt8))) ?_
   exact ⟨(((rrowS u0.ID 11).1) ++ ([48] : List UInt8)) ++ ([48] : List UInt8), rfl, bs, D.below⟩

theorem rsizes_walk   (Z : Fz) (w : World)  (hZ : Z.on w) {K : (List Int) → Prop} (hp : rsizes_vc  K) : Calls Tryz.prog 48 #[] w fun e w' => ∃ (r : (List Int)) (ao1001 : Option Addr) (cap1002 : Nat) (Z' : Fz), e = .returned (.slice ao1001 r.length cap1002) ∧ K r ∧ Mem w.heap.size [] w Z [.own t6 3 ao1001 cap1002 r] Z' w' := by
 refine enter0 Tryz.func48 rfl rfl (by kernel_rfl) ?_; intro n d; have c := Mem.start w Z hZ; have o := Fz.le.refl Z
 refine sqB d c [] [] [] ?_; intro p f; clear d
 refine sqH ?_; intro j g
 refine nw f c (fun b => .slice (sm b) 16 16) [i6 0, i6 1, i6 2, i6 3, i6 4, i6 5, i6 6, i6 7, i6 8, i6 12, i6 16, i6 20, i6 24, i6 32, i6 48, i6 64] 3 ?_; intro a q k h i; clear f c
 refine s1 h 0 (.slice (sm a) 16 16) ?_; intro s l; clear h
 refine nlH (g _ _ ?_); clear g j
 refine wp_ret ?_
 have m : Mem w.heap.size [] w Z [.own t6 3 (sm a) 16 ([0, 1, 2, 3, 4, 5, 6, 7, 8, 12, 16, 20, 24, 32, 48, 64] : List Int)] Z k := i.rowOwn (T := t6) (xs := ([0, 1, 2, 3, 4, 5, 6, 7, 8, 12, 16, 20, 24, 32, 48, 64] : List Int)) 0 rfl (by decide) (by show 16 ≤ lim; decide) ((RepAll.one (T := t6) (x := 0) rfl).append ((RepAll.one (T := t6) (x := 1) rfl).append ((RepAll.one (T := t6) (x := 2) rfl).append ((RepAll.one (T := t6) (x := 3) rfl).append ((RepAll.one (T := t6) (x := 4) rfl).append ((RepAll.one (T := t6) (x := 5) rfl).append ((RepAll.one (T := t6) (x := 6) rfl).append ((RepAll.one (T := t6) (x := 7) rfl).append ((RepAll.one (T := t6) (x := 8) rfl).append ((RepAll.one (T := t6) (x := 12) rfl).append ((RepAll.one (T := t6) (x := 16) rfl).append ((RepAll.one (T := t6) (x := 20) rfl).append ((RepAll.one (T := t6) (x := 24) rfl).append ((RepAll.one (T := t6) (x := 32) rfl).append ((RepAll.one (T := t6) (x := 48) rfl).append (RepAll.one (T := t6) (x := 64) rfl)))))))))))))))); clear i
 refine ra1 l (.slice (sm a) ([0, 1, 2, 3, 4, 5, 6, 7, 8, 12, 16, 20, 24, 32, 48, 64] : List Int).length 16) ?_
 exact ⟨([0, 1, 2, 3, 4, 5, 6, 7, 8, 12, 16, 20, 24, 32, 48, 64] : List Int), (sm a), 16, Z, rfl, hp, m.keep (List.Sublist.cons_cons _ (List.Sublist.slnil))⟩
theorem rsizes_fun   (Z : Fz) (w : World)  (hZ : Z.on w) : Calls Tryz.prog 48 #[] w fun e w' => ∃ (ao1001 : Option Addr) (cap1002 : Nat) (Z' : Fz), e = .returned (.slice ao1001 rsizes.length cap1002) ∧ Mem w.heap.size [] w Z [.own t6 3 ao1001 cap1002 rsizes] Z' w' :=
  (rsizes_walk   Z w  hZ (rsizes_ok )).mono fun _ _ ⟨r, h0, h1, h2, he, hk, hm⟩ => by subst hk; exact ⟨h0, h1, h2, he, hm⟩

theorem rcheckfr_walk (u0 : Frame) (ao1 : Option Addr) (cap2 : Nat) (Z : Fz) (w : World) (hs3 : SlR t8 Z ao1 cap2 u0.Data) (hZ : Z.on w) {K : Int → Prop} (hp : rcheckfr_vc u0 K) : Calls Tryz.prog 17 #[.agg #[i6 u0.ID, .bool u0.Long, .bool u0.Fast, .bool u0.Remote, i6 u0.Size, .slice ao1 u0.Data.length cap2]] w fun e w' => ∃ r : Int, e = .returned (i6 r) ∧ K r ∧ Below w.heap.size w w' := by
 refine enter0 Tryz.func17 rfl rfl (by kernel_rfl) ?_; intro a0 ac; have ad := Mem.start w Z hZ; have b := Fz.le.refl Z
 have v := hp (hs3.small); clear hp
 refine sqH ?_; intro aL ae
 refine nw ac ad pb [i6 u0.ID, .bool u0.Long, .bool u0.Fast, .bool u0.Remote, i6 u0.Size, .slice ao1 u0.Data.length cap2] 24 ?_; intro c a7 bq af a; clear ac ad
 refine s1 af 2 (i6 0) ?_; intro br ag; clear af
 refine nlH (ae _ _ ?_); clear ae aL
 refine sqB ag a [] [] [(3, i6 2047)] ?_; intro bs ah; clear ag
 refine wp_seq ?_
 refine sqB ah a [0] [] [(5, .bool u0.Long)] ?_; intro bt g; clear ah
 refine cd g (t := u0.Long) (by kernel_rfl) (fun H => ?_) (fun H => ?_)
 · -- yes
  have x := v.1 H; clear v
  refine rgB g a [] [] [(3, i6 536870911)] ?_; intro bu ai; clear g
  refine thn ?_
  refine wp_seq ?_
  refine sqB ai a [0, 0] [] [(14, .bool ((decide (u0.ID < 0)) || (decide (u0.ID > 536870911))))] ?_; intro bv h; clear ai
  refine cd h (t := (decide (u0.ID < 0)) || (decide (u0.ID > 536870911))) (by kernel_rfl) (fun I => ?_) (fun I => ?_)
  · -- yes
   have aM := x.1 I; clear x
   refine sqB h a [] [] [(2, i6 3)] ?_; intro bw aN; clear h
   refine wp_ret ?_
   refine thr ?_
   refine ra1 aN (i6 3) ?_
   exact ⟨3, rfl, aM, a.below⟩
  · -- no
   have y := x.2 I; clear x
   refine wp_skip ?_
   refine thn ?_
   refine wp_seq ?_
   refine sqB h a [0, 0, 0] [] [(26, .bool (u0.Remote && (u0.Fast || ((u0.Data.length : Int) != 0))))] ?_; intro bx i; clear h
   refine cd i (t := u0.Remote && (u0.Fast || ((u0.Data.length : Int) != 0))) (by kernel_rfl) (fun J => ?_) (fun J => ?_)
   · -- yes
    have aO := y.1 J; clear y
    refine sqB i a [] [] [(2, i6 4)] ?_; intro bz aP; clear i
    refine wp_ret ?_
    refine thr ?_
    refine ra1 aP (i6 4) ?_
    exact ⟨4, rfl, aO, a.below⟩
   · -- no
    have z := y.2 J; clear y
    refine wp_skip ?_
    refine thn ?_
    refine wp_seq ?_
    refine sqB i a [0, 0, 0, 0] [] [(44, .bool (((decide (u0.Size < 0)) || (decide (u0.Size > 8))) || ((decide (u0.Size > 0)) && (!u0.Remote))))] ?_; intro bA j; clear i
    refine cd j (t := ((decide (u0.Size < 0)) || (decide (u0.Size > 8))) || ((decide (u0.Size > 0)) && (!u0.Remote))) (by kernel_rfl) (fun L => ?_) (fun L => ?_)
    · -- yes
     have aQ := z.1 L; clear z
     refine sqB j a [] [] [(2, i6 3)] ?_; intro bB aR; clear j
     refine wp_ret ?_
     refine thr ?_
     refine ra1 aR (i6 3) ?_
     exact ⟨3, rfl, aQ, a.below⟩
    · -- no
     have A := z.2 L; clear z
     refine wp_skip ?_
     refine thn ?_
     refine wp_seq ?_
     refine sqB j a [0, 0, 0] [] [(59, .bool ((decide ((u0.Data.length : Int) > 64)) || ((decide ((u0.Data.length : Int) > 8)) && (!u0.Fast))))] ?_; intro aS k; clear j
     refine cd k (t := (decide ((u0.Data.length : Int) > 64)) || ((decide ((u0.Data.length : Int) > 8)) && (!u0.Fast))) (by kernel_rfl) (fun M => ?_) (fun M => ?_)
     · -- yes
      have aT := A.1 M; clear A
      refine sqB k a [] [] [(2, i6 2)] ?_; intro bC aU; clear k
      refine wp_ret ?_
      refine thr ?_
      refine ra1 aU (i6 2) ?_
      exact ⟨2, rfl, aT, a.below⟩
     · -- no
      have B := A.2 M; clear A
      refine wp_skip ?_
      refine thn ?_
      refine wp_seq ?_
      have aj : Fr 66 [] [⟨1, [], pt c 0⟩] aS := k.region (by kernel_rfl) (by kernel_rfl); clear k
      refine wp_seq (rgS mixed a [(1, true), (2, true), (3, true), (0, false), (4, false), (5, true)] [0] [.row c [i6 u0.ID, .bool u0.Long, .bool u0.Fast, .bool u0.Remote, i6 u0.Size, .slice ao1 u0.Data.length cap2] 24] ?_)
      intro aV ak bD N; clear a
      have d := Fz.le.refl Z
      refine cS aj 3 [0] [] [(63, i6 (u0.Data.length : Int))] ?_; intro bE al; clear aj
      refine eS rfl ?_; intro aW am
      refine ck al 48 #[] ?_
      refine (rsizes_fun  _ _ N.fz).mono ?_; rintro _ an ⟨ao, ap, aX, rfl, hm⟩; refine ⟨_, rfl, ?_⟩; intro bF aq; have ar := N.callZ hm; have O := hm.ext.le; clear hm N al
      replace hs3 := hs3.mono O
      replace d := d.mono O
      replace b := Fz.le.trans b O
      have au : Mem w.heap.size [] w Z [.own t6 3 ao ap rsizes, .row c [i6 u0.ID, .bool u0.Long, .bool u0.Fast, .bool u0.Remote, i6 u0.Size, .slice ao1 u0.Data.length cap2] 24] aX an := ar; clear ar
      refine nl (qnI (am _ _ (au.cst d [1]) ?_)); clear am aW
      refine eS rfl ?_; intro aY av
      obtain ⟨aZ, P, aw, a1⟩ := au.freeze 0 rfl
      replace hs3 := hs3.mono P
      replace d := d.mono P
      replace b := Fz.le.trans b P
      have Q : Mem w.heap.size [] w Z [.row c [i6 u0.ID, .bool u0.Long, .bool u0.Fast, .bool u0.Remote, i6 u0.Size, .slice ao1 u0.Data.length cap2] 24] aZ an := aw; clear aw
      refine fc aq Q (scontains_fun rsizes (u0.Data.length : Int) ao ap _ _ a1 Q.fz) ?_; intro bG bH ax l; clear aq Q
      refine nl (qnI (av _ _ (l.cst d [0]) ?_)); clear av aY
      refine cS ax 1 [] [] [(65, .bool (!(scontainsS rsizes (u0.Data.length : Int))))] ?_; intro bI m; clear ax
      refine nS (ak _ _ ?_); clear ak aV
      refine thn ?_
      refine cd m (t := !(scontainsS rsizes (u0.Data.length : Int))) (by kernel_rfl) (fun R => ?_) (fun R => ?_)
      · -- yes
       have a2 := B.1 R; clear B
       refine sqB m l [] [] [(2, i6 4)] ?_; intro bJ a3; clear m
       refine wp_ret ?_
       refine thr ?_
       refine ra1 a3 (i6 4) ?_
       exact ⟨4, rfl, a2, l.below⟩
      · -- no
       have a4 := B.2 R; clear B
       refine wp_skip ?_
       refine thn ?_
       refine sqB m l [] [] [(2, i6 0)] ?_; intro bK a5; clear m
       refine wp_ret ?_
       refine ra1 a5 (i6 0) ?_
       exact ⟨0, rfl, a4, l.below⟩
 · -- no
  have C := v.2 H; clear v
  refine wp_skip ?_
  refine thn ?_
  refine wp_seq ?_
  refine sqB g a [0, 0] [] [(14, .bool ((decide (u0.ID < 0)) || (decide (u0.ID > 2047))))] ?_; intro bL n; clear g
  refine cd n (t := (decide (u0.ID < 0)) || (decide (u0.ID > 2047))) (by kernel_rfl) (fun S => ?_) (fun S => ?_)
  · -- yes
   have a6 := C.1 S; clear C
   refine sqB n a [] [] [(2, i6 3)] ?_; intro bM a8; clear n
   refine wp_ret ?_
   refine thr ?_
   refine ra1 a8 (i6 3) ?_
   exact ⟨3, rfl, a6, a.below⟩
  · -- no
   have D := C.2 S; clear C
   refine wp_skip ?_
   refine thn ?_
   refine wp_seq ?_
   refine sqB n a [0, 0, 0] [] [(26, .bool (u0.Remote && (u0.Fast || ((u0.Data.length : Int) != 0))))] ?_; intro bN o; clear n
   refine cd o (t := u0.Remote && (u0.Fast || ((u0.Data.length : Int) != 0))) (by kernel_rfl) (fun T => ?_) (fun T => ?_)
   · -- yes
    have a9 := D.1 T; clear D
    refine sqB o a [] [] [(2, i6 4)] ?_; intro bO ba; clear o
    refine wp_ret ?_
    refine thr ?_
    refine ra1 ba (i6 4) ?_
    exact ⟨4, rfl, a9, a.below⟩
   · -- no
    have E := D.2 T; clear D
    refine wp_skip ?_
    refine thn ?_
    refine wp_seq ?_
    refine sqB o a [0, 0, 0, 0] [] [(44, .bool (((decide (u0.Size < 0)) || (decide (u0.Size > 8))) || ((decide (u0.Size > 0)) && (!u0.Remote))))] ?_; intro bP p; clear o
    refine cd p (t := ((decide (u0.Size < 0)) || (decide (u0.Size > 8))) || ((decide (u0.Size > 0)) && (!u0.Remote))) (by kernel_rfl) (fun U => ?_) (fun U => ?_)
    · -- yes
     have bb := E.1 U; clear E
     refine sqB p a [] [] [(2, i6 3)] ?_; intro bQ bc; clear p
     refine wp_ret ?_
     refine thr ?_
     refine ra1 bc (i6 3) ?_
     exact ⟨3, rfl, bb, a.below⟩
    · -- no
     have F := E.2 U; clear E
     refine wp_skip ?_
     refine thn ?_
     refine wp_seq ?_
     refine sqB p a [0, 0, 0] [] [(59, .bool ((decide ((u0.Data.length : Int) > 64)) || ((decide ((u0.Data.length : Int) > 8)) && (!u0.Fast))))] ?_; intro bd q; clear p
     refine cd q (t := (decide ((u0.Data.length : Int) > 64)) || ((decide ((u0.Data.length : Int) > 8)) && (!u0.Fast))) (by kernel_rfl) (fun V => ?_) (fun V => ?_)
     · -- yes
      have be := F.1 V; clear F
      refine sqB q a [] [] [(2, i6 2)] ?_; intro bR bf; clear q
      refine wp_ret ?_
      refine thr ?_
      refine ra1 bf (i6 2) ?_
      exact ⟨2, rfl, be, a.below⟩
     · -- no
      have G := F.2 V; clear F
      refine wp_skip ?_
      refine thn ?_
      refine wp_seq ?_
      have ay : Fr 66 [] [⟨1, [], pt c 0⟩] bd := q.region (by kernel_rfl) (by kernel_rfl); clear q
      refine wp_seq (rgS mixed a [(1, true), (2, true), (3, true), (0, false), (4, false), (5, true)] [0] [.row c [i6 u0.ID, .bool u0.Long, .bool u0.Fast, .bool u0.Remote, i6 u0.Size, .slice ao1 u0.Data.length cap2] 24] ?_)
      intro bg az bS W; clear a
      have f := Fz.le.refl Z
      refine cS ay 3 [0] [] [(63, i6 (u0.Data.length : Int))] ?_; intro bT aA; clear ay
      refine eS rfl ?_; intro bh aB
      refine ck aA 48 #[] ?_
      refine (rsizes_fun  _ _ W.fz).mono ?_; rintro _ aC ⟨aD, aE, bi, rfl, hm⟩; refine ⟨_, rfl, ?_⟩; intro bU aF; have aG := W.callZ hm; have X := hm.ext.le; clear hm W aA
      replace hs3 := hs3.mono X
      replace f := f.mono X
      replace b := Fz.le.trans b X
      have aH : Mem w.heap.size [] w Z [.own t6 3 aD aE rsizes, .row c [i6 u0.ID, .bool u0.Long, .bool u0.Fast, .bool u0.Remote, i6 u0.Size, .slice ao1 u0.Data.length cap2] 24] bi aC := aG; clear aG
      refine nl (qnI (aB _ _ (aH.cst f [1]) ?_)); clear aB bh
      refine eS rfl ?_; intro bj aI
      obtain ⟨bk, Y, aJ, bl⟩ := aH.freeze 0 rfl
      replace hs3 := hs3.mono Y
      replace f := f.mono Y
      replace b := Fz.le.trans b Y
      have aa : Mem w.heap.size [] w Z [.row c [i6 u0.ID, .bool u0.Long, .bool u0.Fast, .bool u0.Remote, i6 u0.Size, .slice ao1 u0.Data.length cap2] 24] bk aC := aJ; clear aJ
      refine fc aF aa (scontains_fun rsizes (u0.Data.length : Int) aD aE _ _ bl aa.fz) ?_; intro bV bW aK s; clear aF aa
      refine nl (qnI (aI _ _ (s.cst f [0]) ?_)); clear aI bj
      refine cS aK 1 [] [] [(65, .bool (!(scontainsS rsizes (u0.Data.length : Int))))] ?_; intro bX u; clear aK
      refine nS (az _ _ ?_); clear az bg
      refine thn ?_
      refine cd u (t := !(scontainsS rsizes (u0.Data.length : Int))) (by kernel_rfl) (fun ab => ?_) (fun ab => ?_)
      · -- yes
       have bm := G.1 ab; clear G
       refine sqB u s [] [] [(2, i6 4)] ?_; intro bY bn; clear u
       refine wp_ret ?_
       refine thr ?_
       refine ra1 bn (i6 4) ?_
       exact ⟨4, rfl, bm, s.below⟩
      · -- no
       have bo := G.2 ab; clear G
       refine wp_skip ?_
       refine thn ?_
       refine sqB u s [] [] [(2, i6 0)] ?_; intro bZ bp; clear u
       refine wp_ret ?_
       refine ra1 bp (i6 0) ?_
       exact ⟨0, rfl, bo, s.below⟩

end Go.Proofs.YtmbdcehmeiiaoaaGreatDoor
set_option linter.unusedVariables false
set_option linter.unusedSimpArgs false
set_option maxRecDepth 100000
set_option maxHeartbeats 0
namespace Go.Proofs.YtmbdcehmeiiaoaaGreatDoor
open Go.Sy Go.RowKit
theorem rofb_fun (u0 : List Int) (hpre : (∀ x ∈ u0, 0 ≤ x ∧ x ≤ 255) ∧ u0.length ≤ 1000) (ao1 : Option Addr) (cap2 : Nat) (Z : Fz) (w : World) (hs3 : SlR t8 Z ao1 cap2 u0) (hg5 : SlR t8 Z (sm 5) 64 deBruijn64) (hZ : Z.on w) : Calls Tryz.prog 90 #[.slice ao1 u0.length cap2] w fun e w' => e = .returned (str (ofb u0)) ∧ Below w.heap.size w w' :=
  (rofb_walk u0 ao1 cap2 Z w hs3 hg5 hZ (rofb_ok u0 hpre)).mono fun _ _ ⟨r, he, hk, hb⟩ => ⟨by subst hk; exact he, hb⟩

theorem rname_fun (u0 : Frame) (hpre : fcheckfr u0 = 0) (ao1 : Option Addr) (cap2 : Nat) (Z : Fz) (w : World) (hs3 : SlR t8 Z ao1 cap2 u0.Data) (hg5 : SlR t8 Z (sm 5) 64 deBruijn64) (hZ : Z.on w) : Calls Tryz.prog 20 #[.agg #[i6 u0.ID, .bool u0.Long, .bool u0.Fast, .bool u0.Remote, i6 u0.Size, .slice ao1 u0.Data.length cap2]] w fun e w' => e = .returned (str (fnameS u0)) ∧ Below w.heap.size w w' :=
  (rname_walk u0 ao1 cap2 Z w hs3 hg5 hZ (rname_ok u0 hpre)).mono fun _ _ ⟨r, he, hk, hb⟩ => ⟨by subst hk; exact he, hb⟩

theorem rcheckfr_fun (u0 : Frame) (ao1 : Option Addr) (cap2 : Nat) (Z : Fz) (w : World) (hs3 : SlR t8 Z ao1 cap2 u0.Data) (hZ : Z.on w) : Calls Tryz.prog 17 #[.agg #[i6 u0.ID, .bool u0.Long, .bool u0.Fast, .bool u0.Remote, i6 u0.Size, .slice ao1 u0.Data.length cap2]] w fun e w' => e = .returned (i6 (fcheckfr u0)) ∧ Below w.heap.size w w' :=
  (rcheckfr_walk u0 ao1 cap2 Z w hs3 hZ (rcheckfr_ok u0)).mono fun _ _ ⟨r, he, hk, hb⟩ => ⟨by subst hk; exact he, hb⟩

theorem rhead_walk (u0 : Frame) (ao1 : Option Addr) (cap2 : Nat) (Z : Fz) (w : World) (hs3 : SlR t8 Z ao1 cap2 u0.Data) (hg5 : SlR t8 Z (sm 5) 64 deBruijn64) (hZ : Z.on w) {K : (List UInt8) → Prop} (hp : rhead_vc u0 K) : Calls Tryz.prog 60 #[.agg #[i6 u0.ID, .bool u0.Long, .bool u0.Fast, .bool u0.Remote, i6 u0.Size, .slice ao1 u0.Data.length cap2]] w fun e w' => ∃ r : (List UInt8), e = .returned (str r) ∧ K r ∧ Below w.heap.size w w' := by
 refine enter0 Tryz.func60 rfl rfl (by kernel_rfl) ?_; intro a0 W; have X := Mem.start w Z hZ; have b := Fz.le.refl Z
 have ci := hp (hs3.small); clear hp
 refine sqH ?_; intro cj Y
 refine nw W X pb [i6 u0.ID, .bool u0.Long, .bool u0.Fast, .bool u0.Remote, i6 u0.Size, .slice ao1 u0.Data.length cap2] 24 ?_; intro c a7 eb aa u; clear W X
 refine s1 aa 2 (str []) ?_; intro ec ab; clear aa
 refine nlH (Y _ _ ?_); clear Y cj
 refine sqH ?_; intro cl ac
 refine l2 ab u 7 0 0 6 [i6 u0.ID, .bool u0.Long, .bool u0.Fast, .bool u0.Remote, i6 u0.Size, .slice ao1 u0.Data.length cap2] rfl rfl ?_; intro ed ad; clear ab
 obtain ⟨cm, cn⟩ := ci
 refine fc ad u (rname_fun u0 cm ao1 cap2 _ _ hs3 hg5 u.fz) ?_; intro ee ef ae a; clear ad u
 obtain ⟨co, v⟩ := cn
 refine sa ae co ?_; intro eg af; clear ae
 refine s1 af 3 (str (([48] : List UInt8) ++ (fnameS u0))) ?_; intro eh ag; clear af
 refine nlH (ac _ _ ?_); clear ac cl
 refine wp_seq ?_
 refine sqB ag a [0] [] [(11, .bool u0.Fast)] ?_; intro ei n; clear ag
 refine cd n (t := u0.Fast) (by kernel_rfl) (fun L => ?_) (fun L => ?_)
 · -- yes
  have cp := v.1 L; clear v
  refine rgH ?_; intro cq ah
  refine s1 n 12 (str (([48] : List UInt8) ++ (fnameS u0))) ?_; intro ej ai; clear n
  obtain ⟨cr, x⟩ := cp
  refine sa ai cr ?_; intro ek aj; clear ai
  refine s1 aj 3 (str ((([48] : List UInt8) ++ (fnameS u0)) ++ ([49, 48, 49, 48] : List UInt8))) ?_; intro el ak; clear aj
  refine nlH (ah _ _ ?_); clear ah cq
  refine thn ?_
  refine sqB ak a [0] [] [(4, i6 u0.Size)] ?_; intro em al; clear ak
  refine wp_seq ?_
  refine sqB al a [0] [] [(24, .bool (!u0.Remote))] ?_; intro cs o; clear al
  refine cd o (t := !u0.Remote) (by kernel_rfl) (fun M => ?_) (fun M => ?_)
  · -- yes
   have ct := x.1 M; clear x
   have am : Fr 42 [] [⟨1, [], pt c 0⟩, ⟨3, [], str ((([48] : List UInt8) ++ (fnameS u0)) ++ ([49, 48, 49, 48] : List UInt8))⟩] cs := o.region (by kernel_rfl) (by kernel_rfl); clear o
   refine rgS mixed a [(1, true), (2, true), (3, true), (0, false), (4, false), (5, true)] [0] [.row c [i6 u0.ID, .bool u0.Long, .bool u0.Fast, .bool u0.Remote, i6 u0.Size, .slice ao1 u0.Data.length cap2] 24] ?_
   intro cu an en N; clear a
   have d := Fz.le.refl Z
   refine cS am 3 [0] [] [(28, i6 (u0.Data.length : Int))] ?_; intro eo ao; clear am
   refine eS rfl ?_; intro cv ap
   refine ck ao 48 #[] ?_
   refine (rsizes_fun  _ _ N.fz).mono ?_; rintro _ aq ⟨ar, au, cw, rfl, hm⟩; refine ⟨_, rfl, ?_⟩; intro ep av; have aw := N.callZ hm; have y := hm.ext.le; clear hm N ao
   replace hs3 := hs3.mono y
   replace hg5 := hg5.mono y
   replace d := d.mono y
   replace b := Fz.le.trans b y
   have ax : Mem w.heap.size [] w Z [.own t6 3 ar au rsizes, .row c [i6 u0.ID, .bool u0.Long, .bool u0.Fast, .bool u0.Remote, i6 u0.Size, .slice ao1 u0.Data.length cap2] 24] cw aq := aw; clear aw
   refine nl (qnI (ap _ _ (ax.cst d [1]) ?_)); clear ap cv
   refine eS rfl ?_; intro cx ay
   obtain ⟨cy, z, az, cz⟩ := ax.freeze 0 rfl
   replace hs3 := hs3.mono z
   replace hg5 := hg5.mono z
   replace d := d.mono z
   replace b := Fz.le.trans b z
   have O : Mem w.heap.size [] w Z [.row c [i6 u0.ID, .bool u0.Long, .bool u0.Fast, .bool u0.Remote, i6 u0.Size, .slice ao1 u0.Data.length cap2] 24] cy aq := az; clear az
   refine fc av O (sindex_fun rsizes (u0.Data.length : Int) ar au _ _ cz O.fz) ?_; intro eq er aA A; clear av O
   refine nl (qnI (ay _ _ (A.cst d [0]) ?_)); clear ay cx
   refine cS aA 1 [] [] [(4, i6 (sindexS rsizes (u0.Data.length : Int)))] ?_; intro es aB; clear aA
   refine nS (an _ _ ?_); clear an cu
   refine thn ?_
   refine sqH ?_; intro cA aC
   refine s1 aB 31 (i6 (sindexS rsizes (u0.Data.length : Int))) ?_; intro et aD; clear aB
   obtain ⟨cB, cC⟩ := ct
   refine fc aD A (rrow_fun (sindexS rsizes (u0.Data.length : Int)) 4 cB _ _ hg5 A.fz) ?_; intro eu ev aE f; clear aD A
   refine bt aE f 5 [] [] [(5, str ((rrowS (sindexS rsizes (u0.Data.length : Int)) 4).1))] ?_; intro ew aF; clear aE
   refine nlH (aC _ _ ?_); clear aC cA
   refine sqH ?_; intro cD aG
   refine bt aF f 2 [] [] [(35, str ((([48] : List UInt8) ++ (fnameS u0)) ++ ([49, 48, 49, 48] : List UInt8))), (36, str ((rrowS (sindexS rsizes (u0.Data.length : Int)) 4).1))] ?_; intro ex aH; clear aF
   obtain ⟨cE, cF⟩ := cC
   refine sa aH cE ?_; intro ey aI; clear aH
   refine bt aI f 2 [0] [] [(39, .slice ao1 u0.Data.length cap2)] ?_; intro ez aJ; clear aI
   obtain ⟨cG, cH⟩ := cF
   refine fc aJ f (rofb_fun u0.Data cG ao1 cap2 _ _ hs3 hg5 f.fz) ?_; intro eA eB aK cI; clear aJ f
   obtain ⟨cJ, cK⟩ := cH
   refine sa aK cJ ?_; intro eC aL; clear aK
   refine s1 aL 2 (str ((((([48] : List UInt8) ++ (fnameS u0)) ++ ([49, 48, 49, 48] : List UInt8)) ++ ((rrowS (sindexS rsizes (u0.Data.length : Int)) 4).1)) ++ (ofb u0.Data))) ?_; intro eD cL; clear aL
   refine nlH (aG _ _ ?_); clear aG cD
   refine wp_ret ?_
   refine ra1 cL (str ((((([48] : List UInt8) ++ (fnameS u0)) ++ ([49, 48, 49, 48] : List UInt8)) ++ ((rrowS (sindexS rsizes (u0.Data.length : Int)) 4).1)) ++ (ofb u0.Data))) ?_
   exact ⟨(((([48] : List UInt8) ++ (fnameS u0)) ++ ([49, 48, 49, 48] : List UInt8)) ++ ((rrowS (sindexS rsizes (u0.Data.length : Int)) 4).1)) ++ (ofb u0.Data), rfl, cK, cI.below⟩
  · -- no
   have cM := x.2 M; clear x
   refine wp_skip ?_
   refine thn ?_
   refine sqH ?_; intro cN aM
   refine s1 o 31 (i6 u0.Size) ?_; intro eE aN; clear o
   obtain ⟨cO, cP⟩ := cM
   refine fc aN a (rrow_fun u0.Size 4 cO _ _ hg5 a.fz) ?_; intro eF eG aO g; clear aN a
   refine bt aO g 5 [] [] [(5, str ((rrowS u0.Size 4).1))] ?_; intro eH aP; clear aO
   refine nlH (aM _ _ ?_); clear aM cN
   refine sqH ?_; intro cQ aQ
   refine bt aP g 2 [] [] [(35, str ((([48] : List UInt8) ++ (fnameS u0)) ++ ([49, 48, 49, 48] : List UInt8))), (36, str ((rrowS u0.Size 4).1))] ?_; intro eI aR; clear aP
   obtain ⟨cR, cT⟩ := cP
   refine sa aR cR ?_; intro eJ aS; clear aR
   refine bt aS g 2 [0] [] [(39, .slice ao1 u0.Data.length cap2)] ?_; intro eK aT; clear aS
   obtain ⟨cU, cV⟩ := cT
   refine fc aT g (rofb_fun u0.Data cU ao1 cap2 _ _ hs3 hg5 g.fz) ?_; intro eL eM aU cW; clear aT g
   obtain ⟨cX, cY⟩ := cV
   refine sa aU cX ?_; intro eN aV; clear aU
   refine s1 aV 2 (str ((((([48] : List UInt8) ++ (fnameS u0)) ++ ([49, 48, 49, 48] : List UInt8)) ++ ((rrowS u0.Size 4).1)) ++ (ofb u0.Data))) ?_; intro eO cZ; clear aV
   refine nlH (aQ _ _ ?_); clear aQ cQ
   refine wp_ret ?_
   refine ra1 cZ (str ((((([48] : List UInt8) ++ (fnameS u0)) ++ ([49, 48, 49, 48] : List UInt8)) ++ ((rrowS u0.Size 4).1)) ++ (ofb u0.Data))) ?_
   exact ⟨(((([48] : List UInt8) ++ (fnameS u0)) ++ ([49, 48, 49, 48] : List UInt8)) ++ ((rrowS u0.Size 4).1)) ++ (ofb u0.Data), rfl, cY, cW.below⟩
 · -- no
  have B := v.2 L; clear v
  refine sqB n a [0] [] [(15, .bool u0.Long)] ?_; intro eP p; clear n
  refine cd p (t := u0.Long) (by kernel_rfl) (fun P => ?_) (fun P => ?_)
  · -- yes
   have c0 := B.1 P; clear B
   refine rgH ?_; intro c1 aW
   refine s1 p 16 (str (([48] : List UInt8) ++ (fnameS u0))) ?_; intro eQ aX; clear p
   obtain ⟨c2, C⟩ := c0
   refine sa aX c2 ?_; intro eR aY; clear aX
   refine s1 aY 3 (str ((([48] : List UInt8) ++ (fnameS u0)) ++ ([48, 48] : List UInt8))) ?_; intro eT aZ; clear aY
   refine nlH (aW _ _ ?_); clear aW c1
   refine thn ?_
   refine sqB aZ a [0] [] [(4, i6 u0.Size)] ?_; intro eU a1; clear aZ
   refine wp_seq ?_
   refine sqB a1 a [0] [] [(24, .bool (!u0.Remote))] ?_; intro c3 q; clear a1
   refine cd q (t := !u0.Remote) (by kernel_rfl) (fun Q => ?_) (fun Q => ?_)
   · -- yes
    have c4 := C.1 Q; clear C
    have a2 : Fr 42 [] [⟨1, [], pt c 0⟩, ⟨3, [], str ((([48] : List UInt8) ++ (fnameS u0)) ++ ([48, 48] : List UInt8))⟩] c3 := q.region (by kernel_rfl) (by kernel_rfl); clear q
    refine rgS mixed a [(1, true), (2, true), (3, true), (0, false), (4, false), (5, true)] [0] [.row c [i6 u0.ID, .bool u0.Long, .bool u0.Fast, .bool u0.Remote, i6 u0.Size, .slice ao1 u0.Data.length cap2] 24] ?_
    intro c5 a3 eV R; clear a
    have h := Fz.le.refl Z
    refine cS a2 3 [0] [] [(28, i6 (u0.Data.length : Int))] ?_; intro eW a4; clear a2
    refine eS rfl ?_; intro c6 a5
    refine ck a4 48 #[] ?_
    refine (rsizes_fun  _ _ R.fz).mono ?_; rintro _ a6 ⟨a8, a9, c7, rfl, hm⟩; refine ⟨_, rfl, ?_⟩; intro eX ba; have bb := R.callZ hm; have D := hm.ext.le; clear hm R a4
    replace hs3 := hs3.mono D
    replace hg5 := hg5.mono D
    replace h := h.mono D
    replace b := Fz.le.trans b D
    have bc : Mem w.heap.size [] w Z [.own t6 3 a8 a9 rsizes, .row c [i6 u0.ID, .bool u0.Long, .bool u0.Fast, .bool u0.Remote, i6 u0.Size, .slice ao1 u0.Data.length cap2] 24] c7 a6 := bb; clear bb
    refine nl (qnI (a5 _ _ (bc.cst h [1]) ?_)); clear a5 c6
    refine eS rfl ?_; intro c8 bd
    obtain ⟨c9, E, be, da⟩ := bc.freeze 0 rfl
    replace hs3 := hs3.mono E
    replace hg5 := hg5.mono E
    replace h := h.mono E
    replace b := Fz.le.trans b E
    have S : Mem w.heap.size [] w Z [.row c [i6 u0.ID, .bool u0.Long, .bool u0.Fast, .bool u0.Remote, i6 u0.Size, .slice ao1 u0.Data.length cap2] 24] c9 a6 := be; clear be
    refine fc ba S (sindex_fun rsizes (u0.Data.length : Int) a8 a9 _ _ da S.fz) ?_; intro eY eZ bf F; clear ba S
    refine nl (qnI (bd _ _ (F.cst h [0]) ?_)); clear bd c8
    refine cS bf 1 [] [] [(4, i6 (sindexS rsizes (u0.Data.length : Int)))] ?_; intro e0 bg; clear bf
    refine nS (a3 _ _ ?_); clear a3 c5
    refine thn ?_
    refine sqH ?_; intro db bh
    refine s1 bg 31 (i6 (sindexS rsizes (u0.Data.length : Int))) ?_; intro e1 bi; clear bg
    obtain ⟨dc, dd⟩ := c4
    refine fc bi F (rrow_fun (sindexS rsizes (u0.Data.length : Int)) 4 dc _ _ hg5 F.fz) ?_; intro e2 e3 bj i; clear bi F
    refine bt bj i 5 [] [] [(5, str ((rrowS (sindexS rsizes (u0.Data.length : Int)) 4).1))] ?_; intro e4 bk; clear bj
    refine nlH (bh _ _ ?_); clear bh db
    refine sqH ?_; intro de bl
    refine bt bk i 2 [] [] [(35, str ((([48] : List UInt8) ++ (fnameS u0)) ++ ([48, 48] : List UInt8))), (36, str ((rrowS (sindexS rsizes (u0.Data.length : Int)) 4).1))] ?_; intro e5 bm; clear bk
    obtain ⟨df, dg⟩ := dd
    refine sa bm df ?_; intro e6 bn; clear bm
    refine bt bn i 2 [0] [] [(39, .slice ao1 u0.Data.length cap2)] ?_; intro e7 bo; clear bn
    obtain ⟨dh, di⟩ := dg
    refine fc bo i (rofb_fun u0.Data dh ao1 cap2 _ _ hs3 hg5 i.fz) ?_; intro e8 e9 bp dj; clear bo i
    obtain ⟨dk, dl⟩ := di
    refine sa bp dk ?_; intro fa bq; clear bp
    refine s1 bq 2 (str ((((([48] : List UInt8) ++ (fnameS u0)) ++ ([48, 48] : List UInt8)) ++ ((rrowS (sindexS rsizes (u0.Data.length : Int)) 4).1)) ++ (ofb u0.Data))) ?_; intro fb dm; clear bq
    refine nlH (bl _ _ ?_); clear bl de
    refine wp_ret ?_
    refine ra1 dm (str ((((([48] : List UInt8) ++ (fnameS u0)) ++ ([48, 48] : List UInt8)) ++ ((rrowS (sindexS rsizes (u0.Data.length : Int)) 4).1)) ++ (ofb u0.Data))) ?_
    exact ⟨(((([48] : List UInt8) ++ (fnameS u0)) ++ ([48, 48] : List UInt8)) ++ ((rrowS (sindexS rsizes (u0.Data.length : Int)) 4).1)) ++ (ofb u0.Data), rfl, dl, dj.below⟩
   · -- no
    have dn := C.2 Q; clear C
    refine wp_skip ?_
    refine thn ?_
    refine sqH ?_; intro dp br
    refine s1 q 31 (i6 u0.Size) ?_; intro fd bs; clear q
    obtain ⟨dq, dr⟩ := dn
    refine fc bs a (rrow_fun u0.Size 4 dq _ _ hg5 a.fz) ?_; intro fe ff bu j; clear bs a
    refine bt bu j 5 [] [] [(5, str ((rrowS u0.Size 4).1))] ?_; intro fg bv; clear bu
    refine nlH (br _ _ ?_); clear br dp
    refine sqH ?_; intro ds bw
    refine bt bv j 2 [] [] [(35, str ((([48] : List UInt8) ++ (fnameS u0)) ++ ([48, 48] : List UInt8))), (36, str ((rrowS u0.Size 4).1))] ?_; intro fh bx; clear bv
    obtain ⟨dt, du⟩ := dr
    refine sa bx dt ?_; intro fi bz; clear bx
    refine bt bz j 2 [0] [] [(39, .slice ao1 u0.Data.length cap2)] ?_; intro fj bA; clear bz
    obtain ⟨dv, dw⟩ := du
    refine fc bA j (rofb_fun u0.Data dv ao1 cap2 _ _ hs3 hg5 j.fz) ?_; intro fk fl bB dx; clear bA j
    obtain ⟨dy, dz⟩ := dw
    refine sa bB dy ?_; intro fm bC; clear bB
    refine s1 bC 2 (str ((((([48] : List UInt8) ++ (fnameS u0)) ++ ([48, 48] : List UInt8)) ++ ((rrowS u0.Size 4).1)) ++ (ofb u0.Data))) ?_; intro fn dA; clear bC
    refine nlH (bw _ _ ?_); clear bw ds
    refine wp_ret ?_
    refine ra1 dA (str ((((([48] : List UInt8) ++ (fnameS u0)) ++ ([48, 48] : List UInt8)) ++ ((rrowS u0.Size 4).1)) ++ (ofb u0.Data))) ?_
    exact ⟨(((([48] : List UInt8) ++ (fnameS u0)) ++ ([48, 48] : List UInt8)) ++ ((rrowS u0.Size 4).1)) ++ (ofb u0.Data), rfl, dz, dx.below⟩
  · -- no
   have dB := B.2 P; clear B
   refine rgH ?_; intro dC bD
   refine s1 p 18 (str (([48] : List UInt8) ++ (fnameS u0))) ?_; intro fo bE; clear p
   obtain ⟨dD, G⟩ := dB
   refine sa bE dD ?_; intro fp bF; clear bE
   refine s1 bF 3 (str ((([48] : List UInt8) ++ (fnameS u0)) ++ ([48] : List UInt8))) ?_; intro fq bG; clear bF
   refine nlH (bD _ _ ?_); clear bD dC
   refine thn ?_
   refine sqB bG a [0] [] [(4, i6 u0.Size)] ?_; intro fr bH; clear bG
   refine wp_seq ?_
   refine sqB bH a [0] [] [(24, .bool (!u0.Remote))] ?_; intro dE s; clear bH
   refine cd s (t := !u0.Remote) (by kernel_rfl) (fun T => ?_) (fun T => ?_)
   · -- yes
    have dF := G.1 T; clear G
    have bI : Fr 42 [] [⟨1, [], pt c 0⟩, ⟨3, [], str ((([48] : List UInt8) ++ (fnameS u0)) ++ ([48] : List UInt8))⟩] dE := s.region (by kernel_rfl) (by kernel_rfl); clear s
    refine rgS mixed a [(1, true), (2, true), (3, true), (0, false), (4, false), (5, true)] [0] [.row c [i6 u0.ID, .bool u0.Long, .bool u0.Fast, .bool u0.Remote, i6 u0.Size, .slice ao1 u0.Data.length cap2] 24] ?_
    intro dG bJ fs U; clear a
    have k := Fz.le.refl Z
    refine cS bI 3 [0] [] [(28, i6 (u0.Data.length : Int))] ?_; intro ft bK; clear bI
    refine eS rfl ?_; intro dH bL
    refine ck bK 48 #[] ?_
    refine (rsizes_fun  _ _ U.fz).mono ?_; rintro _ bM ⟨bN, bO, dI, rfl, hm⟩; refine ⟨_, rfl, ?_⟩; intro fu bP; have bQ := U.callZ hm; have H := hm.ext.le; clear hm U bK
    replace hs3 := hs3.mono H
    replace hg5 := hg5.mono H
    replace k := k.mono H
    replace b := Fz.le.trans b H
    have bR : Mem w.heap.size [] w Z [.own t6 3 bN bO rsizes, .row c [i6 u0.ID, .bool u0.Long, .bool u0.Fast, .bool u0.Remote, i6 u0.Size, .slice ao1 u0.Data.length cap2] 24] dI bM := bQ; clear bQ
    refine nl (qnI (bL _ _ (bR.cst k [1]) ?_)); clear bL dH
    refine eS rfl ?_; intro dJ bS
    obtain ⟨dK, I, bT, dL⟩ := bR.freeze 0 rfl
    replace hs3 := hs3.mono I
    replace hg5 := hg5.mono I
    replace k := k.mono I
    replace b := Fz.le.trans b I
    have V : Mem w.heap.size [] w Z [.row c [i6 u0.ID, .bool u0.Long, .bool u0.Fast, .bool u0.Remote, i6 u0.Size, .slice ao1 u0.Data.length cap2] 24] dK bM := bT; clear bT
    refine fc bP V (sindex_fun rsizes (u0.Data.length : Int) bN bO _ _ dL V.fz) ?_; intro fv fw bU J; clear bP V
    refine nl (qnI (bS _ _ (J.cst k [0]) ?_)); clear bS dJ
    refine cS bU 1 [] [] [(4, i6 (sindexS rsizes (u0.Data.length : Int)))] ?_; intro fx bV; clear bU
    refine nS (bJ _ _ ?_); clear bJ dG
    refine thn ?_
    refine sqH ?_; intro dM bW
    refine s1 bV 31 (i6 (sindexS rsizes (u0.Data.length : Int))) ?_; intro fy bX; clear bV
    obtain ⟨dN, dO⟩ := dF
    refine fc bX J (rrow_fun (sindexS rsizes (u0.Data.length : Int)) 4 dN _ _ hg5 J.fz) ?_; intro fA fB bY l; clear bX J
    refine bt bY l 5 [] [] [(5, str ((rrowS (sindexS rsizes (u0.Data.length : Int)) 4).1))] ?_; intro fC bZ; clear bY
    refine nlH (bW _ _ ?_); clear bW dM
    refine sqH ?_; intro dP b0
    refine bt bZ l 2 [] [] [(35, str ((([48] : List UInt8) ++ (fnameS u0)) ++ ([48] : List UInt8))), (36, str ((rrowS (sindexS rsizes (u0.Data.length : Int)) 4).1))] ?_; intro fD b1; clear bZ
    obtain ⟨dQ, dR⟩ := dO
    refine sa b1 dQ ?_; intro fE b2; clear b1
    refine bt b2 l 2 [0] [] [(39, .slice ao1 u0.Data.length cap2)] ?_; intro fF b3; clear b2
    obtain ⟨dS, dT⟩ := dR
    refine fc b3 l (rofb_fun u0.Data dS ao1 cap2 _ _ hs3 hg5 l.fz) ?_; intro fG fH b4 dU; clear b3 l
    obtain ⟨dV, dW⟩ := dT
    refine sa b4 dV ?_; intro fI b5; clear b4
    refine s1 b5 2 (str ((((([48] : List UInt8) ++ (fnameS u0)) ++ ([48] : List UInt8)) ++ ((rrowS (sindexS rsizes (u0.Data.length : Int)) 4).1)) ++ (ofb u0.Data))) ?_; intro fJ dX; clear b5
    refine nlH (b0 _ _ ?_); clear b0 dP
    refine wp_ret ?_
    refine ra1 dX (str ((((([48] : List UInt8) ++ (fnameS u0)) ++ ([48] : List UInt8)) ++ ((rrowS (sindexS rsizes (u0.Data.length : Int)) 4).1)) ++ (ofb u0.Data))) ?_
    exact ⟨(((([48] : List UInt8) ++ (fnameS u0)) ++ ([48] : List UInt8)) ++ ((rrowS (sindexS rsizes (u0.Data.length : Int)) 4).1)) ++ (ofb u0.Data), rfl, dW, dU.below⟩
   · -- no
    have dY := G.2 T; clear G
    refine wp_skip ?_
    refine thn ?_
    refine sqH ?_; intro dZ b7
    refine s1 s 31 (i6 u0.Size) ?_; intro fK b8; clear s
    obtain ⟨d0, d1⟩ := dY
    refine fc b8 a (rrow_fun u0.Size 4 d0 _ _ hg5 a.fz) ?_; intro fL fM b9 m; clear b8 a
    refine bt b9 m 5 [] [] [(5, str ((rrowS u0.Size 4).1))] ?_; intro fN ca; clear b9
    refine nlH (b7 _ _ ?_); clear b7 dZ
    refine sqH ?_; intro d2 cb
    refine bt ca m 2 [] [] [(35, str ((([48] : List UInt8) ++ (fnameS u0)) ++ ([48] : List UInt8))), (36, str ((rrowS u0.Size 4).1))] ?_; intro fO cc; clear ca
    obtain ⟨d3, d4⟩ := d1
    refine sa cc d3 ?_; intro fP ce; clear cc
    refine bt ce m 2 [0] [] [(39, .slice ao1 u0.Data.length cap2)] ?_; intro fQ cf; clear ce
    obtain ⟨d5, d6⟩ := d4
    refine fc cf m (rofb_fun u0.Data d5 ao1 cap2 _ _ hs3 hg5 m.fz) ?_; intro fR fS cg d7; clear cf m
    obtain ⟨d8, d9⟩ := d6
    refine sa cg d8 ?_; intro fT ch; clear cg
    refine s1 ch 2 (str ((((([48] : List UInt8) ++ (fnameS u0)) ++ ([48] : List UInt8)) ++ ((rrowS u0.Size 4).1)) ++ (ofb u0.Data))) ?_; intro fU ea; clear ch
    refine nlH (cb _ _ ?_); clear cb d2
    refine wp_ret ?_
    refine ra1 ea (str ((((([48] : List UInt8) ++ (fnameS u0)) ++ ([48] : List UInt8)) ++ ((rrowS u0.Size 4).1)) ++ (ofb u0.Data))) ?_
    exact ⟨(((([48] : List UInt8) ++ (fnameS u0)) ++ ([48] : List UInt8)) ++ ((rrowS u0.Size 4).1)) ++ (ofb u0.Data), rfl, d9, d7.below⟩

theorem rlmost_walk (u0 : Int)  (Z : Fz) (w : World)  (hZ : Z.on w) {K : Int → Prop} (hp : rlmost_vc u0 K) : Calls Tryz.prog 64 #[i6 u0] w fun e w' => ∃ r : Int, e = .returned (i6 r) ∧ K r ∧ Below w.heap.size w w' := by
 refine enter0 Tryz.func64 rfl rfl (by kernel_rfl) ?_; intro f b; have a := Mem.start w Z hZ; have g := Fz.le.refl Z
 refine sqB b a [] [] [] ?_; intro h c; clear b
 refine sqB c a [] [] [(2, i6 (w64 (u0 + (w64 ((w64 (u0 - 1)).tdiv 4)))))] ?_; intro i d; clear c
 refine wp_ret ?_
 refine ra1 d (i6 (w64 (u0 + (w64 ((w64 (u0 - 1)).tdiv 4))))) ?_
 exact ⟨w64 (u0 + (w64 ((w64 (u0 - 1)).tdiv 4))), rfl, hp, a.below⟩
theorem rlmost_fun (u0 : Int)  (Z : Fz) (w : World)  (hZ : Z.on w) : Calls Tryz.prog 64 #[i6 u0] w fun e w' => e = .returned (i6 (rlmost u0)) ∧ Below w.heap.size w w' :=
  (rlmost_walk u0  Z w  hZ (rlmost_ok u0)).mono fun _ _ ⟨r, he, hk, hb⟩ => ⟨by subst hk; exact he, hb⟩

end Go.Proofs.YtmbdcehmeiiaoaaGreatDoor
set_option linter.unusedVariables false
set_option linter.unusedSimpArgs false
set_option maxRecDepth 100000
set_option maxHeartbeats 0
namespace Go.Proofs.YtmbdcehmeiiaoaaGreatDoor
open Go.Sy Go.RowKit
theorem rhead_fun (u0 : Frame) (hpre : fcheckfr u0 = 0 ∧ ∀ x ∈ u0.Data, 0 ≤ x ∧ x ≤ 255) (ao1 : Option Addr) (cap2 : Nat) (Z : Fz) (w : World) (hs3 : SlR t8 Z ao1 cap2 u0.Data) (hg5 : SlR t8 Z (sm 5) 64 deBruijn64) (hZ : Z.on w) : Calls Tryz.prog 60 #[.agg #[i6 u0.ID, .bool u0.Long, .bool u0.Fast, .bool u0.Remote, i6 u0.Size, .slice ao1 u0.Data.length cap2]] w fun e w' => e = .returned (str (fheadS u0)) ∧ Below w.heap.size w w' :=
  (rhead_walk u0 ao1 cap2 Z w hs3 hg5 hZ (rhead_ok u0 hpre)).mono fun _ _ ⟨r, he, hk, hb⟩ => ⟨by subst hk; exact he, hb⟩

theorem rlong_walk (u0 : Bool) (u1 : Bool) (u2 : Int)  (Z : Fz) (w : World) (hg5 : SlR t8 Z (sm 5) 64 deBruijn64) (hZ : Z.on w) {K : Int → Prop} (hp : rlong_vc u0 u1 u2 K) : Calls Tryz.prog 23 #[.bool u0, .bool u1, i6 u2] w fun e w' => ∃ r : Int, e = .returned (i6 r) ∧ K r ∧ Below w.heap.size w w' := by
 refine enter0 Tryz.func23 rfl rfl (by kernel_rfl) ?_; intro a0 m; have d := Mem.start w Z hZ; have n := Fz.le.refl Z
 refine sqB m d [] [] [] ?_; intro a2 o; clear m
 refine sqH ?_; intro U p
 refine bt o d 3 [] [] [(10, .bool u0), (11, .bool u1), (12, i6 u2)] ?_; intro a9 q; clear o
 obtain ⟨ak, V⟩ := hp
 refine mks q d (T := t8) u2 u2 (k := .i64) (k' := .i64) (e := 5) (bytes := 1) (zs := [y8 0]) (z := 0) (by simp only [lim]; omega) (nog rfl _) rfl (by kernel_rfl) rfl (by kernel_rfl) (by kernel_rfl) (by kernel_rfl) (by kernel_rfl) rfl ?_; intro h al s u v; clear q d
 have W : Mem w.heap.size [] w Z [.own t8 5 (sm h) u2.toNat (List.replicate u2.toNat (0 : Int))] Z s := v; clear v
 refine s1 u 14 (.agg #[i6 0, .bool u0, .bool u1, .bool false, i6 0, .slice (sm h) (List.replicate u2.toNat (0 : Int)).length u2.toNat]) ?_; intro am x; clear u
 obtain ⟨X, y, A, Y⟩ := W.freeze 0 rfl
 replace hg5 := hg5.mono y
 replace n := Fz.le.trans n y
 have i : Mem w.heap.size [] w Z [] X s := A; clear A
 obtain ⟨aa, f⟩ := V
 refine fc x i (rhead_fun (⟨0, u0, u1, false, 0, (List.replicate u2.toNat (0 : Int))⟩ : Frame) aa (sm h) u2.toNat _ _ Y hg5 i.fz) ?_; intro an ao B a; clear x i
 refine bt B a 2 [] [] [(7, i6 ((fheadS (⟨0, u0, u1, false, 0, (List.replicate u2.toNat (0 : Int))⟩ : Frame)).length : Int))] ?_; intro ap C; clear B
 refine nlH (p _ _ ?_); clear p U
 refine sqB C a [] [] [(8, .func (.func 64) #[] #[])] ?_; intro aq D; clear C
 refine wp_seq ?_
 refine sqB D a [] [] [(18, .bool (!u1))] ?_; intro ar b; clear D
 refine cd b (t := !u1) (by kernel_rfl) (fun j => ?_) (fun j => ?_)
 · -- yes
  have ab := f.1 j; clear f
  refine sqH ?_; intro ac E
  refine bt b a 3 [] [] [(19, .func (.func 64) #[] #[]), (21, i6 (w64 (((fheadS (⟨0, u0, u1, false, 0, (List.replicate u2.toNat (0 : Int))⟩ : Frame)).length : Int) + 15)))] ?_; intro au F; clear b
  refine fc F a (rlmost_fun (w64 (((fheadS (⟨0, u0, u1, false, 0, (List.replicate u2.toNat (0 : Int))⟩ : Frame)).length : Int) + 15)) _ _ a.fz) ?_; intro av aw G H; clear F a
  refine bt G H 2 [] [] [(6, i6 (w64 ((rlmost (w64 (((fheadS (⟨0, u0, u1, false, 0, (List.replicate u2.toNat (0 : Int))⟩ : Frame)).length : Int) + 15))) + 10)))] ?_; intro ax ad; clear G
  refine nlH (E _ _ ?_); clear E ac
  refine wp_ret ?_
  refine thr ?_
  refine ra1 ad (i6 (w64 ((rlmost (w64 (((fheadS (⟨0, u0, u1, false, 0, (List.replicate u2.toNat (0 : Int))⟩ : Frame)).length : Int) + 15))) + 10))) ?_
  exact ⟨w64 ((rlmost (w64 (((fheadS (⟨0, u0, u1, false, 0, (List.replicate u2.toNat (0 : Int))⟩ : Frame)).length : Int) + 15))) + 10), rfl, ab, H.below⟩
 · -- no
  have g := f.2 j; clear f
  refine wp_skip ?_
  refine thn ?_
  refine sqB b a [] [] [(9, i6 21)] ?_; intro ay I; clear b
  refine wp_seq ?_
  refine sqB I a [] [] [(25, .bool (decide (u2 > 16)))] ?_; intro az c; clear I
  refine cd c (t := decide (u2 > 16)) (by kernel_rfl) (fun l => ?_) (fun l => ?_)
  · -- yes
   have ae := g.1 l; clear g
   refine rgB c a [] [] [(9, i6 25)] ?_; intro aA J; clear c
   refine thn ?_
   refine sqH ?_; intro af L
   refine bt J a 2 [] [] [(26, .func (.func 64) #[] #[]), (27, i6 ((fheadS (⟨0, u0, u1, false, 0, (List.replicate u2.toNat (0 : Int))⟩ : Frame)).length : Int))] ?_; intro aB M; clear J
   refine fc M a (rlmost_fun ((fheadS (⟨0, u0, u1, false, 0, (List.replicate u2.toNat (0 : Int))⟩ : Frame)).length : Int) _ _ a.fz) ?_; intro aC aD N O; clear M a
   refine bt N O 8 [] [] [(6, i6 (w64 ((w64 ((w64 ((rlmost ((fheadS (⟨0, u0, u1, false, 0, (List.replicate u2.toNat (0 : Int))⟩ : Frame)).length : Int)) + 25)) + 7)) + 10)))] ?_; intro aE ag; clear N
   refine nlH (L _ _ ?_); clear L af
   refine wp_ret ?_
   refine ra1 ag (i6 (w64 ((w64 ((w64 ((rlmost ((fheadS (⟨0, u0, u1, false, 0, (List.replicate u2.toNat (0 : Int))⟩ : Frame)).length : Int)) + 25)) + 7)) + 10))) ?_
   exact ⟨w64 ((w64 ((w64 ((rlmost ((fheadS (⟨0, u0, u1, false, 0, (List.replicate u2.toNat (0 : Int))⟩ : Frame)).length : Int)) + 25)) + 7)) + 10), rfl, ae, O.below⟩
  · -- no
   have ah := g.2 l; clear g
   refine wp_skip ?_
   refine thn ?_
   refine sqH ?_; intro ai P
   refine bt c a 2 [] [] [(26, .func (.func 64) #[] #[]), (27, i6 ((fheadS (⟨0, u0, u1, false, 0, (List.replicate u2.toNat (0 : Int))⟩ : Frame)).length : Int))] ?_; intro aF Q; clear c
   refine fc Q a (rlmost_fun ((fheadS (⟨0, u0, u1, false, 0, (List.replicate u2.toNat (0 : Int))⟩ : Frame)).length : Int) _ _ a.fz) ?_; intro aG aH R S; clear Q a
   refine bt R S 8 [] [] [(6, i6 (w64 ((w64 ((w64 ((rlmost ((fheadS (⟨0, u0, u1, false, 0, (List.replicate u2.toNat (0 : Int))⟩ : Frame)).length : Int)) + 21)) + 6)) + 10)))] ?_; intro aI aj; clear R
   refine nlH (P _ _ ?_); clear P ai
   refine wp_ret ?_
   refine ra1 aj (i6 (w64 ((w64 ((w64 ((rlmost ((fheadS (⟨0, u0, u1, false, 0, (List.replicate u2.toNat (0 : Int))⟩ : Frame)).length : Int)) + 21)) + 6)) + 10))) ?_
   exact ⟨w64 ((w64 ((w64 ((rlmost ((fheadS (⟨0, u0, u1, false, 0, (List.replicate u2.toNat (0 : Int))⟩ : Frame)).length : Int)) + 21)) + 6)) + 10), rfl, ah, S.below⟩

end Go.Proofs.YtmbdcehmeiiaoaaGreatDoor
set_option linter.unusedVariables false
set_option linter.unusedSimpArgs false
set_option maxRecDepth 100000
set_option maxHeartbeats 0
namespace Go.Proofs.YtmbdcehmeiiaoaaGreatDoor
open Go.Sy Go.RowKit
theorem rother_walk (u0 : Int)  (Z : Fz) (w : World)  (hZ : Z.on w) {K : Int → Prop} (hp : rother_vc u0 K) : Calls Tryz.prog 30 #[y8 u0] w fun e w' => ∃ r : Int, e = .returned (y8 r) ∧ K r ∧ Below w.heap.size w w' := by
 refine enter0 Tryz.func30 rfl rfl (by kernel_rfl) ?_; intro k d; have a := Mem.start w Z hZ; have l := Fz.le.refl Z
 refine sqB d a [] [] [] ?_; intro m f; clear d
 refine wp_seq ?_
 refine sqB f a [] [] [(4, .bool (u0 == 48))] ?_; intro n b; clear f
 refine cd b (t := u0 == 48) (by kernel_rfl) (fun c => ?_) (fun c => ?_)
 · -- yes
  have g := hp.1 c; clear hp
  refine sqB b a [] [] [(2, y8 49)] ?_; intro o h; clear b
  refine wp_ret ?_
  refine thr ?_
  refine ra1 h (y8 49) ?_
  exact ⟨49, rfl, g, a.below⟩
 · -- no
  have i := hp.2 c; clear hp
  refine wp_skip ?_
  refine thn ?_
  refine sqB b a [] [] [(2, y8 48)] ?_; intro p j; clear b
  refine wp_ret ?_
  refine ra1 j (y8 48) ?_
  exact ⟨48, rfl, i, a.below⟩
theorem rother_fun (u0 : Int)  (Z : Fz) (w : World)  (hZ : Z.on w) : Calls Tryz.prog 30 #[y8 u0] w fun e w' => e = .returned (y8 (rother u0)) ∧ Below w.heap.size w w' :=
  (rother_walk u0  Z w  hZ (rother_ok u0)).mono fun _ _ ⟨r, he, hk, hb⟩ => ⟨by subst hk; exact he, hb⟩

theorem rsame_walk (u0 : List UInt8)  (Z : Fz) (w : World)  (hZ : Z.on w) {K : Bool → Prop} (hp : rsame_vc u0 K) : Calls Tryz.prog 78 #[str u0] w fun e w' => ∃ r : Bool, e = .returned (.bool r) ∧ K r ∧ Below w.heap.size w w' := by
 refine enter0 Tryz.func78 rfl rfl (by kernel_rfl) ?_; intro s c; have a := Mem.start w Z hZ; have t := Fz.le.refl Z
 refine sqB c a [] [] [] ?_; intro u d; clear c
 refine sqH ?_; intro l f
 refine bt d a 2 [] [] [(3, str u0), (4, str u0)] ?_; intro v b; clear d
 obtain ⟨m, n⟩ := hp
 refine st b (str (u0.take (1 : Int).toNat)) (nog rfl _) rfl (by kernel_rfl) (strslH_run b (g := []) (k := .i64) rfl (by kernel_rfl) (by kernel_rfl) (by kernel_rfl) m rfl) ?_; intro x h; clear b
 obtain ⟨o, p⟩ := n
 refine fc h a (count1_fun u0 (u0.take (1 : Int).toNat) o _ _ a.fz) ?_; intro y z i j; clear h a
 refine bt i j 4 [] [] [(2, .bool ((count1S u0 (u0.take (1 : Int).toNat)) == (u0.length : Int)))] ?_; intro A q; clear i
 refine nlH (f _ _ ?_); clear f l
 refine wp_ret ?_
 refine ra1 q (.bool ((count1S u0 (u0.take (1 : Int).toNat)) == (u0.length : Int))) ?_
 exact ⟨(count1S u0 (u0.take (1 : Int).toNat)) == (u0.length : Int), rfl, p, j.below⟩

theorem fixbits_walk (u0 : List UInt8) (u1 : Int)  (Z : Fz) (w : World)  (hZ : Z.on w) {K : (List UInt8) → Prop} (hp : fixbits_vc u0 u1 K) : Calls Tryz.prog 86 #[str u0, y8 u1] w fun e w' => ∃ r : (List UInt8), e = .returned (str r) ∧ K r ∧ Below w.heap.size w w' := by
 refine enter0 Tryz.func86 rfl rfl (by kernel_rfl) ?_; intro a0 E; have i := Mem.start w Z hZ; have j := Fz.le.refl Z
 refine sqB E i [] [] [] ?_; intro a2 F; clear E
 refine sqB F i [] [] [(5, str [])] ?_; intro a5 G; clear F
 refine wp_seq ?_
 refine sqB G i [] [] [(6, i6 0)] ?_; intro H I; clear G
 refine wp_block ?_
 have J : Fr 34 [] [⟨0, [], str u0⟩, ⟨1, [], y8 u1⟩, ⟨5, [], str []⟩, ⟨6, [], i6 0⟩] H := I.region (by kernel_rfl) (by kernel_rfl); clear I
 have L : Fr 34 [] [⟨0, [], str u0⟩, ⟨1, [], y8 u1⟩, ⟨5, [], str []⟩, ⟨6, [], i6 0⟩] H := J.region (by kernel_rfl) (by kernel_rfl); clear J
 obtain ⟨ap, aq, ar, au⟩ := hp
 have aU := j
 refine lp (ι := Int × (List UInt8) × Int × Fz) (fun (s : Int × (List UInt8) × Int × Fz) => [⟨0, [], str u0⟩, ⟨1, [], y8 s.1⟩, ⟨5, [], str s.2.1⟩, ⟨6, [], i6 s.2.2.1⟩]) (fun (s : Int × (List UInt8) × Int × Fz) => []) (fun (s : Int × (List UInt8) × Int × Fz) => s.2.2.2) (fun (s : Int × (List UInt8) × Int × Fz) => ap s.1 s.2.1 s.2.2.1 ∧ Fz.le Z s.2.2.2) (fun (s : Int × (List UInt8) × Int × Fz) => aq s.1 s.2.1 s.2.2.1) ⟨u1, [], 0, Z⟩ ⟨ar, Fz.le.refl _⟩ (by exact L.region (by kernel_rfl) (by kernel_rfl)) (by exact i) ?_
 rintro ⟨c, d, a, p⟩ ⟨av, n⟩ aw ax M N
 have O : Fr 34 [] [⟨0, [], str u0⟩, ⟨1, [], y8 c⟩, ⟨5, [], str d⟩, ⟨6, [], i6 a⟩] aw := M; clear M L
 have l : Mem w.heap.size [] w Z [] p ax := N; clear N i
 have o := au c d a av
 replace j := Fz.le.trans j n
 refine wp_seq ?_
 refine sqB O l [] [] [(10, .bool (decide (a < (u0.length : Int))))] ?_; intro ay m; clear O
 refine cd m (t := decide (a < (u0.length : Int))) (by kernel_rfl) (fun u => ?_) (fun u => ?_)
 · -- yes
  have az := o.1 u; clear o
  refine wp_skip ?_
  refine thn ?_
  refine wp_seq ?_
  refine wp_block ?_
  have P : Fr 34 [] [⟨0, [], str u0⟩, ⟨1, [], y8 c⟩, ⟨5, [], str d⟩, ⟨6, [], i6 a⟩] ay := m.region (by kernel_rfl) (by kernel_rfl); clear m
  refine wp_seq (rgS mixed l [(0, true), (1, true), (5, true), (6, true), (7, true), (8, true), (9, true), (10, true), (11, true), (12, true), (2, false), (3, false), (4, false), (13, false), (14, false), (15, true)] [] [] ?_)
  intro aA Q aV v; clear l
  have f := Fz.le.refl p
  refine cS P 9 [] [] [(13, str d), (14, y8 c), (18, str u0), (19, i6 a), (24, i6 (min (w64 (a + 4)) (u0.length : Int)))] ?_; intro aW y; clear P
  obtain ⟨aB, aC⟩ := az
  refine cst rfl y (str ((u0.take (min (w64 (a + 4)) (u0.length : Int)).toNat).drop a.toNat)) (nog rfl _) rfl (by kernel_rfl) (fun v58 hC => strslI_run y (g := []) (k := .i64) (k' := .i64) rfl (by kernel_rfl) (by kernel_rfl) (by kernel_rfl) (by kernel_rfl) aB rfl) ?_; intro aX R; clear y
  refine eS rfl ?_; intro aD S
  refine fc R v (rother_fun c _ _ v.fz) ?_; intro aY aZ U z; clear R v
  refine nl (qnI (S _ _ (z.cst f []) ?_)); clear S aD
  refine eS rfl ?_; intro aE V
  refine nw U z (fun b => .slice (sm b) 1 1) [y8 (rother c)] 5 ?_; intro W a1 X A B; clear U z
  refine nl (qnI (V _ _ (B.cst f []) ?_)); clear V aE
  refine eS rfl ?_; intro aF Y
  have aG : Mem w.heap.size [] w Z [.own t8 5 (sm W) 1 ([(rother c)] : List Int)] p X := B.rowOwn (T := t8) (xs := ([(rother c)] : List Int)) 0 rfl (by decide) (by show 1 ≤ lim; decide) (RepAll.one (T := t8) (x := (rother c)) rfl); clear B
  obtain ⟨aa, C, ab, aH⟩ := aG.freeze 0 rfl
  replace n := n.mono C
  replace f := f.mono C
  replace j := Fz.le.trans j C
  have h : Mem w.heap.size [] w Z [] aa X := ab; clear ab
  refine st A (str (bstr ([(rother c)] : List Int))) (nog rfl _) rfl (by kernel_rfl) (bstr_op A (g := []) (e := 5) (ao := (sm W)) (cap := 1) (xs := ([(rother c)] : List Int)) rfl (by kernel_rfl) (by kernel_rfl) (by kernel_rfl) (by kernel_rfl) aH h.fz rfl) ?_; intro a3 ac; clear A
  refine nl (qnI (Y _ _ (h.cst f []) ?_)); clear Y aF
  refine eS rfl ?_; intro aI ad
  obtain ⟨aJ, aK⟩ := aC
  refine sa ac aJ ?_; intro a4 ae; clear ac
  refine nl (qnI (ad _ _ (h.cst f []) ?_)); clear ad aI
  refine eS rfl ?_; intro aL af
  obtain ⟨aM, aN⟩ := aK
  refine sa ae aM ?_; intro a6 ag; clear ae
  refine nl (qnI (af _ _ (h.cst f []) ?_)); clear af aL
  refine cS ag 1 [] [] [(5, str (d ++ ((bstr ([(rother c)] : List Int)) ++ ((u0.take (min (w64 (a + 4)) (u0.length : Int)).toNat).drop a.toNat))))] ?_; intro a7 ah; clear ag
  refine nS (Q _ _ ?_); clear Q aA
  refine thn ?_
  refine rgH ?_; intro aO ai
  refine bt ah h 4 [] [] [(28, str (d ++ ((bstr ([(rother c)] : List Int)) ++ ((u0.take (min (w64 (a + 4)) (u0.length : Int)).toNat).drop a.toNat)))), (31, i6 (w64 (((d ++ ((bstr ([(rother c)] : List Int)) ++ ((u0.take (min (w64 (a + 4)) (u0.length : Int)).toNat).drop a.toNat))).length : Int) - 1)))] ?_; intro a9 aj; clear ah
  obtain ⟨aP, aQ⟩ := aN
  obtain ⟨D, ak⟩ : ∃ q, (d ++ ((bstr ([(rother c)] : List Int)) ++ ((u0.take (min (w64 (a + 4)) (u0.length : Int)).toNat).drop a.toNat)))[(w64 (((d ++ ((bstr ([(rother c)] : List Int)) ++ ((u0.take (min (w64 (a + 4)) (u0.length : Int)).toNat).drop a.toNat))).length : Int) - 1)).toNat]? = some q := ⟨_, List.getElem?_eq_getElem (by omega)⟩; have al := aQ D ak
  refine si aj .i64 aP.1 ak ?_; intro ba am; clear aj
  refine s1 am 1 (y8 (D.toNat : Int)) ?_; intro bb an; clear am
  refine nlH (ai _ _ ?_); clear ai aO
  refine ibn ?_
  refine thn ?_
  refine rgB an h [] [] [(6, i6 (w64 (a + 4)))] ?_; intro bc aR; clear an
  refine rd ?_
  exact ⟨⟨(D.toNat : Int), d ++ ((bstr ([(rother c)] : List Int)) ++ ((u0.take (min (w64 (a + 4)) (u0.length : Int)).toNat).drop a.toNat)), w64 (a + 4), aa⟩, ⟨al.1, n⟩, al.2, (aR.region (by kernel_rfl) (by kernel_rfl)).anyβ _ (by kernel_rfl), h.keep (List.Sublist.slnil)⟩
 · -- no
  have aS := o.2 u; clear o
  refine wp_exit ?_
  refine thx ?_
  refine thx ?_
  refine ibx ?_
  refine thn ?_
  refine sqB m l [] [] [(4, str d)] ?_; intro bd aT; clear m
  refine wp_ret ?_
  refine ra1 aT (str d) ?_
  exact ⟨d, rfl, aS, l.below⟩

end Go.Proofs.YtmbdcehmeiiaoaaGreatDoor
set_option linter.unusedVariables false
set_option linter.unusedSimpArgs false
set_option maxRecDepth 100000
set_option maxHeartbeats 0
namespace Go.Proofs.YtmbdcehmeiiaoaaGreatDoor
open Go.Sy Go.RowKit
theorem rsame_fun (u0 : List UInt8) (hpre : 0 < u0.length ∧ u0.length ≤ 1000)  (Z : Fz) (w : World)  (hZ : Z.on w) : Calls Tryz.prog 78 #[str u0] w fun e w' => e = .returned (.bool (rsameS u0)) ∧ Below w.heap.size w w' :=
  (rsame_walk u0  Z w  hZ (rsame_ok u0 hpre)).mono fun _ _ ⟨r, he, hk, hb⟩ => ⟨by subst hk; exact he, hb⟩

theorem fixbits_fun (u0 : List UInt8) (u1 : Int) (hpre : isRow u0 = true ∧ u0.length ≤ 1000 ∧ (u1 = 48 ∨ u1 = 49))  (Z : Fz) (w : World)  (hZ : Z.on w) : Calls Tryz.prog 86 #[str u0, y8 u1] w fun e w' => e = .returned (str (fixbitsS u0 u1)) ∧ Below w.heap.size w w' :=
  (fixbits_walk u0 u1  Z w  hZ (fixbits_ok u0 u1 hpre)).mono fun _ _ ⟨r, he, hk, hb⟩ => ⟨by subst hk; exact he, hb⟩

theorem putbits_walk (u0 : List UInt8)  (Z : Fz) (w : World)  (hZ : Z.on w) {K : (List UInt8) → Prop} (hp : putbits_vc u0 K) : Calls Tryz.prog 61 #[str u0] w fun e w' => ∃ r : (List UInt8), e = .returned (str r) ∧ K r ∧ Below w.heap.size w w' := by
 refine enter0 Tryz.func61 rfl rfl (by kernel_rfl) ?_; intro a0 W; have m := Mem.start w Z hZ; have n := Fz.le.refl Z
 refine sqB W m [] [] [] ?_; intro a2 X; clear W
 refine sqB X m [] [] [(3, str [])] ?_; intro a5 Y; clear X
 refine wp_seq ?_
 refine sqB Y m [] [] [(7, i6 (u0.length : Int)), (8, i6 0)] ?_; intro aa ab; clear Y
 refine wp_block ?_
 have ac : Fr 45 [] [⟨0, [], str u0⟩, ⟨3, [], str []⟩, ⟨7, [], i6 (u0.length : Int)⟩, ⟨8, [], i6 0⟩] aa := ab.region (by kernel_rfl) (by kernel_rfl); clear ab
 have ad : Fr 45 [] [⟨0, [], str u0⟩, ⟨3, [], str []⟩, ⟨7, [], i6 (u0.length : Int)⟩, ⟨8, [], i6 0⟩] aa := ac.region (by kernel_rfl) (by kernel_rfl); clear ac
 obtain ⟨a8, a9, ba, bb⟩ := hp
 have bH := n
 refine lp (ι := (List UInt8) × Int × Fz) (fun (s : (List UInt8) × Int × Fz) => [⟨0, [], str u0⟩, ⟨3, [], str s.1⟩, ⟨7, [], i6 (u0.length : Int)⟩, ⟨8, [], i6 s.2.1⟩]) (fun (s : (List UInt8) × Int × Fz) => []) (fun (s : (List UInt8) × Int × Fz) => s.2.2) (fun (s : (List UInt8) × Int × Fz) => a8 s.1 s.2.1 ∧ Fz.le Z s.2.2) (fun (s : (List UInt8) × Int × Fz) => a9 s.1 s.2.1) ⟨[], 0, Z⟩ ⟨ba, Fz.le.refl _⟩ (by exact ad.region (by kernel_rfl) (by kernel_rfl)) (by exact m) ?_
 rintro ⟨f, a, y⟩ ⟨bc, j⟩ bd be ae af
 have ag : Fr 45 [] [⟨0, [], str u0⟩, ⟨3, [], str f⟩, ⟨7, [], i6 (u0.length : Int)⟩, ⟨8, [], i6 a⟩] bd := ae; clear ae ad
 have h : Mem w.heap.size [] w Z [] y be := af; clear af m
 have z := bb f a bc
 replace n := Fz.le.trans n j
 refine sqB ag h [] [] [(9, .bool (decide (a < (u0.length : Int))))] ?_; intro bI o; clear ag
 refine wp_seq ?_
 refine cd o (t := decide (a < (u0.length : Int))) (by kernel_rfl) (fun N => ?_) (fun N => ?_)
 · -- yes
  have bf := z.1 N; clear z
  refine wp_skip ?_
  refine thn ?_
  refine wp_seq ?_
  refine wp_block ?_
  refine sqB o h [] [] [(4, i6 a)] ?_; intro bJ ah; clear o
  refine sqH ?_; intro bg ai
  refine bt ah h 5 [] [] [(11, str f), (12, str u0), (13, i6 a), (15, i6 (w64 (a + 1)))] ?_; intro bK O; clear ah
  obtain ⟨bh, bi⟩ := bf
  refine st O (str ((u0.take (w64 (a + 1)).toNat).drop a.toNat)) (nog rfl _) rfl (by kernel_rfl) (strslI_run O (g := []) (k := .i64) (k' := .i64) rfl (by kernel_rfl) (by kernel_rfl) (by kernel_rfl) (by kernel_rfl) bh rfl) ?_; intro bL aj; clear O
  obtain ⟨bj, A⟩ := bi
  refine sa aj bj ?_; intro bM ak; clear aj
  refine s1 ak 3 (str (f ++ ((u0.take (w64 (a + 1)).toNat).drop a.toNat))) ?_; intro bN al; clear ak
  refine nlH (ai _ _ ?_); clear ai bg
  refine sqB al h [] [] [(5, i6 ((f ++ ((u0.take (w64 (a + 1)).toNat).drop a.toNat)).length : Int))] ?_; intro P am; clear al
  have B : Fr 45 [] [⟨0, [], str u0⟩, ⟨3, [], str (f ++ ((u0.take (w64 (a + 1)).toNat).drop a.toNat))⟩, ⟨5, [], i6 ((f ++ ((u0.take (w64 (a + 1)).toNat).drop a.toNat)).length : Int)⟩, ⟨7, [], i6 (u0.length : Int)⟩, ⟨8, [], i6 a⟩] P := am.region (by kernel_rfl) (by kernel_rfl); clear am
  rcases Bool.eq_false_or_eq_true (decide (((f ++ ((u0.take (w64 (a + 1)).toNat).drop a.toNat)).length : Int) ≥ 5)) with p | p
  · -- true
   have bk := A.1 p; clear A
   have an : Fr 45 [] [⟨0, [], str u0⟩, ⟨3, [], str (f ++ ((u0.take (w64 (a + 1)).toNat).drop a.toNat))⟩, ⟨5, [], i6 ((f ++ ((u0.take (w64 (a + 1)).toNat).drop a.toNat)).length : Int)⟩, ⟨7, [], i6 (u0.length : Int)⟩, ⟨8, [], i6 a⟩] P := B.region (by kernel_rfl) (by kernel_rfl); clear B
   refine sqQH mixed (by kernel_rfl) h ?_; intro bl ap
   refine q1 an 20 (i6 ((f ++ ((u0.take (w64 (a + 1)).toNat).drop a.toNat)).length : Int)) ?_; intro bO aq; clear an
   refine q1 aq 21 (.bool (decide (((f ++ ((u0.take (w64 (a + 1)).toNat).drop a.toNat)).length : Int) ≥ 5))) ?_; intro bP ar; clear aq
   have au := ar.reval (d := 21) (c := []) (v := .bool (decide (((f ++ ((u0.take (w64 (a + 1)).toNat).drop a.toNat)).length : Int) ≥ 5))) (by kernel_rfl) (.bool true) (by rw [p]); clear ar
   refine q1 au 22 (.bool true) ?_; intro bQ C; clear au
   refine qst C (str (f ++ ((u0.take (w64 (a + 1)).toNat).drop a.toNat))) (by rw [wanted_of C (b := true) rfl rfl (by kernel_rfl) (by kernel_rfl)]; rfl) rfl (by kernel_rfl) (fun v81 hC => p0 C (by kernel_rfl)) ?_; intro bR D; clear C
   refine qst D (i6 ((f ++ ((u0.take (w64 (a + 1)).toNat).drop a.toNat)).length : Int)) (by rw [wanted_of D (b := true) rfl rfl (by kernel_rfl) (by kernel_rfl)]; rfl) rfl (by kernel_rfl) (fun v84 hC => p0 D (by kernel_rfl)) ?_; intro bS E; clear D
   refine qst E (i6 (w64 (((f ++ ((u0.take (w64 (a + 1)).toNat).drop a.toNat)).length : Int) - 5))) (by rw [wanted_of E (b := true) rfl rfl (by kernel_rfl) (by kernel_rfl)]; rfl) rfl (by kernel_rfl) (fun v87 hC => p0 E (by kernel_rfl)) ?_; intro bT F; clear E
   obtain ⟨bm, bn⟩ := bk
   refine qst F (str ((f ++ ((u0.take (w64 (a + 1)).toNat).drop a.toNat)).drop (w64 (((f ++ ((u0.take (w64 (a + 1)).toNat).drop a.toNat)).length : Int) - 5)).toNat)) (by rw [wanted_of F (b := true) rfl rfl (by kernel_rfl) (by kernel_rfl)]; rfl) rfl (by kernel_rfl) (fun v90 hC => strslL_run F (g := []) (k := .i64) rfl (by kernel_rfl) (by kernel_rfl) (by kernel_rfl) bm rfl) ?_; intro bU G; clear F
   refine qst G (str (f ++ ((u0.take (w64 (a + 1)).toNat).drop a.toNat))) (by rw [wanted_of G (b := true) rfl rfl (by kernel_rfl) (by kernel_rfl)]; rfl) rfl (by kernel_rfl) (fun v95 hC => p0 G (by kernel_rfl)) ?_; intro bV H; clear G
   refine qst H (i6 ((f ++ ((u0.take (w64 (a + 1)).toNat).drop a.toNat)).length : Int)) (by rw [wanted_of H (b := true) rfl rfl (by kernel_rfl) (by kernel_rfl)]; rfl) rfl (by kernel_rfl) (fun v98 hC => p0 H (by kernel_rfl)) ?_; intro bW I; clear H
   refine qst I (i6 (w64 (((f ++ ((u0.take (w64 (a + 1)).toNat).drop a.toNat)).length : Int) - 1))) (by rw [wanted_of I (b := true) rfl rfl (by kernel_rfl) (by kernel_rfl)]; rfl) rfl (by kernel_rfl) (fun v101 hC => p0 I (by kernel_rfl)) ?_; intro bX J; clear I
   obtain ⟨bo, bp⟩ := bn
   refine qst J (str ((f ++ ((u0.take (w64 (a + 1)).toNat).drop a.toNat)).drop (w64 (((f ++ ((u0.take (w64 (a + 1)).toNat).drop a.toNat)).length : Int) - 1)).toNat)) (by rw [wanted_of J (b := true) rfl rfl (by kernel_rfl) (by kernel_rfl)]; rfl) rfl (by kernel_rfl) (fun v104 hC => strslL_run J (g := []) (k := .i64) rfl (by kernel_rfl) (by kernel_rfl) (by kernel_rfl) bo rfl) ?_; intro bY Q; clear J
   obtain ⟨bq, L⟩ := bp
   refine qcl Q (i6 (count1S ((f ++ ((u0.take (w64 (a + 1)).toNat).drop a.toNat)).drop (w64 (((f ++ ((u0.take (w64 (a + 1)).toNat).drop a.toNat)).length : Int) - 5)).toNat) ((f ++ ((u0.take (w64 (a + 1)).toNat).drop a.toNat)).drop (w64 (((f ++ ((u0.take (w64 (a + 1)).toNat).drop a.toNat)).length : Int) - 1)).toNat))) 42 #[str ((f ++ ((u0.take (w64 (a + 1)).toNat).drop a.toNat)).drop (w64 (((f ++ ((u0.take (w64 (a + 1)).toNat).drop a.toNat)).length : Int) - 5)).toNat), str ((f ++ ((u0.take (w64 (a + 1)).toNat).drop a.toNat)).drop (w64 (((f ++ ((u0.take (w64 (a + 1)).toNat).drop a.toNat)).length : Int) - 1)).toNat)] (by rw [wanted_of Q (b := true) rfl rfl (by kernel_rfl) (by kernel_rfl)]; rfl) rfl (by kernel_rfl) (fun _ => by kernel_rfl) (qfc fun w hC => count1_fun ((f ++ ((u0.take (w64 (a + 1)).toNat).drop a.toNat)).drop (w64 (((f ++ ((u0.take (w64 (a + 1)).toNat).drop a.toNat)).length : Int) - 5)).toNat) ((f ++ ((u0.take (w64 (a + 1)).toNat).drop a.toNat)).drop (w64 (((f ++ ((u0.take (w64 (a + 1)).toNat).drop a.toNat)).length : Int) - 1)).toNat) bq _ _ hC.fz) ?_; intro bZ M; clear Q
   refine qst M (.bool ((count1S ((f ++ ((u0.take (w64 (a + 1)).toNat).drop a.toNat)).drop (w64 (((f ++ ((u0.take (w64 (a + 1)).toNat).drop a.toNat)).length : Int) - 5)).toNat) ((f ++ ((u0.take (w64 (a + 1)).toNat).drop a.toNat)).drop (w64 (((f ++ ((u0.take (w64 (a + 1)).toNat).drop a.toNat)).length : Int) - 1)).toNat)) == 5)) (by rw [wanted_of M (b := true) rfl rfl (by kernel_rfl) (by kernel_rfl)]; rfl) rfl (by kernel_rfl) (fun v114 hC => p0 M (by kernel_rfl)) ?_; intro b0 av; clear M
   refine q1 av 33 (.bool ((count1S ((f ++ ((u0.take (w64 (a + 1)).toNat).drop a.toNat)).drop (w64 (((f ++ ((u0.take (w64 (a + 1)).toNat).drop a.toNat)).length : Int) - 5)).toNat) ((f ++ ((u0.take (w64 (a + 1)).toNat).drop a.toNat)).drop (w64 (((f ++ ((u0.take (w64 (a + 1)).toNat).drop a.toNat)).length : Int) - 1)).toNat)) == 5)) ?_; intro b1 u; clear av
   refine qnl (ap _ ?_); clear ap bl; intro b2 l; clear h
   refine cd u (t := (count1S ((f ++ ((u0.take (w64 (a + 1)).toNat).drop a.toNat)).drop (w64 (((f ++ ((u0.take (w64 (a + 1)).toNat).drop a.toNat)).length : Int) - 5)).toNat) ((f ++ ((u0.take (w64 (a + 1)).toNat).drop a.toNat)).drop (w64 (((f ++ ((u0.take (w64 (a + 1)).toNat).drop a.toNat)).length : Int) - 1)).toNat)) == 5) (by kernel_rfl) (fun R => ?_) (fun R => ?_)
   · -- yes
    have br := L.1 R; clear L
    refine rgH ?_; intro bs aw
    refine bt u l 4 [] [] [(34, str (f ++ ((u0.take (w64 (a + 1)).toNat).drop a.toNat))), (35, str (f ++ ((u0.take (w64 (a + 1)).toNat).drop a.toNat))), (37, i6 (w64 (((f ++ ((u0.take (w64 (a + 1)).toNat).drop a.toNat)).length : Int) - 1)))] ?_; intro b3 ax; clear u
    obtain ⟨bu, bv⟩ := br
    obtain ⟨i, ay⟩ : ∃ q, (f ++ ((u0.take (w64 (a + 1)).toNat).drop a.toNat))[(w64 (((f ++ ((u0.take (w64 (a + 1)).toNat).drop a.toNat)).length : Int) - 1)).toNat]? = some q := ⟨_, List.getElem?_eq_getElem (by omega)⟩; have bw := bv i ay
    refine si ax .i64 bu.1 ay ?_; intro b4 az; clear ax
    refine fc az l (rother_fun (i.toNat : Int) _ _ l.fz) ?_; intro b5 b6 aA aB; clear az l
    refine nw aA aB (fun b => .slice (sm b) 1 1) [y8 (rother (i.toNat : Int))] 5 ?_; intro aC b7 aD S aE; clear aA aB
    have bx : Mem w.heap.size [] w Z [.own t8 5 (sm aC) 1 ([(rother (i.toNat : Int))] : List Int)] y aD := aE.rowOwn (T := t8) (xs := ([(rother (i.toNat : Int))] : List Int)) 0 rfl (by decide) (by show 1 ≤ lim; decide) (RepAll.one (T := t8) (x := (rother (i.toNat : Int))) rfl); clear aE
    obtain ⟨aF, aG, aH, bz⟩ := bx.freeze 0 rfl
    replace j := j.mono aG
    replace n := Fz.le.trans n aG
    have U : Mem w.heap.size [] w Z [] aF aD := aH; clear aH
    refine st S (str (bstr ([(rother (i.toNat : Int))] : List Int))) (nog rfl _) rfl (by kernel_rfl) (bstr_op S (g := []) (e := 5) (ao := (sm aC)) (cap := 1) (xs := ([(rother (i.toNat : Int))] : List Int)) rfl (by kernel_rfl) (by kernel_rfl) (by kernel_rfl) (by kernel_rfl) bz U.fz rfl) ?_; intro b8 aI; clear S
    obtain ⟨bA, aJ⟩ := bw
    refine sa aI bA ?_; intro b9 aK; clear aI
    refine s1 aK 3 (str ((f ++ ((u0.take (w64 (a + 1)).toNat).drop a.toNat)) ++ (bstr ([(rother (i.toNat : Int))] : List Int)))) ?_; intro ca aL; clear aK
    refine nlH (aw _ _ ?_); clear aw bs
    refine ibn ?_
    refine thn ?_
    refine rgB aL U [] [] [(8, i6 (w64 (a + 1)))] ?_; intro cb bB; clear aL
    refine rd ?_
    exact ⟨⟨(f ++ ((u0.take (w64 (a + 1)).toNat).drop a.toNat)) ++ (bstr ([(rother (i.toNat : Int))] : List Int)), w64 (a + 1), aF⟩, ⟨aJ.1, j⟩, aJ.2, (bB.region (by kernel_rfl) (by kernel_rfl)).anyβ _ (by kernel_rfl), U.keep (List.Sublist.slnil)⟩
   · -- no
    have aM := L.2 R; clear L
    refine wp_skip ?_
    refine ibn ?_
    refine thn ?_
    refine rgB u l [] [] [(8, i6 (w64 (a + 1)))] ?_; intro cc bC; clear u
    refine rd ?_
    exact ⟨⟨f ++ ((u0.take (w64 (a + 1)).toNat).drop a.toNat), w64 (a + 1), y⟩, ⟨aM.1, j⟩, aM.2, (bC.region (by kernel_rfl) (by kernel_rfl)).anyβ _ (by kernel_rfl), l.keep (List.Sublist.slnil)⟩
  · -- false
   have aN := A.2 p; clear A
   have aO : Fr 45 [] [⟨0, [], str u0⟩, ⟨3, [], str (f ++ ((u0.take (w64 (a + 1)).toNat).drop a.toNat))⟩, ⟨5, [], i6 ((f ++ ((u0.take (w64 (a + 1)).toNat).drop a.toNat)).length : Int)⟩, ⟨7, [], i6 (u0.length : Int)⟩, ⟨8, [], i6 a⟩] P := B.region (by kernel_rfl) (by kernel_rfl); clear B
   refine sqQH mixed (by kernel_rfl) h ?_; intro bD aP
   refine q1 aO 20 (i6 ((f ++ ((u0.take (w64 (a + 1)).toNat).drop a.toNat)).length : Int)) ?_; intro ce aQ; clear aO
   refine q1 aQ 21 (.bool (decide (((f ++ ((u0.take (w64 (a + 1)).toNat).drop a.toNat)).length : Int) ≥ 5))) ?_; intro cf aR; clear aQ
   have aS := aR.reval (d := 21) (c := []) (v := .bool (decide (((f ++ ((u0.take (w64 (a + 1)).toNat).drop a.toNat)).length : Int) ≥ 5))) (by kernel_rfl) (.bool false) (by rw [p]); clear aR
   refine q1 aS 22 (.bool false) ?_; intro cg aT; clear aS
   refine qsk aT (b := false) rfl rfl (by kernel_rfl) (by kernel_rfl) rfl rfl (by kernel_rfl) ?_; intro ch aU; clear aT
   refine qsk aU (b := false) rfl rfl (by kernel_rfl) (by kernel_rfl) rfl rfl (by kernel_rfl) ?_; intro ci aV; clear aU
   refine qsk aV (b := false) rfl rfl (by kernel_rfl) (by kernel_rfl) rfl rfl (by kernel_rfl) ?_; intro cj aW; clear aV
   refine qsk aW (b := false) rfl rfl (by kernel_rfl) (by kernel_rfl) rfl rfl (by kernel_rfl) ?_; intro ck aX; clear aW
   refine qsk aX (b := false) rfl rfl (by kernel_rfl) (by kernel_rfl) rfl rfl (by kernel_rfl) ?_; intro cl aY; clear aX
   refine qsk aY (b := false) rfl rfl (by kernel_rfl) (by kernel_rfl) rfl rfl (by kernel_rfl) ?_; intro cm aZ; clear aY
   refine qsk aZ (b := false) rfl rfl (by kernel_rfl) (by kernel_rfl) rfl rfl (by kernel_rfl) ?_; intro cn a1; clear aZ
   refine qsk a1 (b := false) rfl rfl (by kernel_rfl) (by kernel_rfl) rfl rfl (by kernel_rfl) ?_; intro co a3; clear a1
   refine qsk a3 (b := false) rfl rfl (by kernel_rfl) (by kernel_rfl) rfl rfl (by kernel_rfl) ?_; intro cp a4; clear a3
   refine qsk a4 (b := false) rfl rfl (by kernel_rfl) (by kernel_rfl) rfl rfl (by kernel_rfl) ?_; intro cq a6; clear a4
   refine q1 a6 33 (.bool false) ?_; intro cr V; clear a6
   refine qnl (aP _ ?_); clear aP bD; intro cs a7; clear h
   refine cdF V (by kernel_rfl) ?_
   refine wp_skip ?_
   refine ibn ?_
   refine thn ?_
   refine rgB V a7 [] [] [(8, i6 (w64 (a + 1)))] ?_; intro ct bE; clear V
   refine rd ?_
   exact ⟨⟨f ++ ((u0.take (w64 (a + 1)).toNat).drop a.toNat), w64 (a + 1), y⟩, ⟨aN.1, j⟩, aN.2, (bE.region (by kernel_rfl) (by kernel_rfl)).anyβ _ (by kernel_rfl), a7.keep (List.Sublist.slnil)⟩
 · -- no
  have bF := z.2 N; clear z
  refine wp_exit ?_
  refine thx ?_
  refine thx ?_
  refine ibx ?_
  refine thn ?_
  refine sqB o h [] [] [(2, str f)] ?_; intro cu bG; clear o
  refine wp_ret ?_
  refine ra1 bG (str f) ?_
  exact ⟨f, rfl, bF, h.below⟩

theorem takebits_walk (u0 : List UInt8) (u1 : Int)  (Z : Fz) (w : World)  (hZ : Z.on w) {K : ((List UInt8) × Int × Int) → Prop} (hp : takebits_vc u0 u1 K) : Calls Tryz.prog 45 #[str u0, i6 u1] w fun e w' => ∃ r : (List UInt8) × Int × Int, e = .returned (.tuple #[str r.1, i6 r.2.1, i6 r.2.2]) ∧ K r ∧ Below w.heap.size w w' := by
 refine enter0 Tryz.func45 rfl rfl (by kernel_rfl) ?_; intro a0 T; have j := Mem.start w Z hZ; have bc := Fz.le.refl Z
 refine sqB T j [] [] [] ?_; intro a6 U; clear T
 refine sqB U j [] [] [(7, str [])] ?_; intro a9 V; clear U
 refine sqB V j [] [] [(8, i6 0)] ?_; intro W X; clear V
 refine wp_seq ?_
 refine wp_block ?_
 have Y : Fr 52 [] [⟨0, [], str u0⟩, ⟨1, [], i6 u1⟩, ⟨7, [], str []⟩, ⟨8, [], i6 0⟩] W := X.region (by kernel_rfl) (by kernel_rfl); clear X
 have aa : Fr 52 [] [⟨0, [], str u0⟩, ⟨1, [], i6 u1⟩, ⟨7, [], str []⟩, ⟨8, [], i6 0⟩] W := Y.region (by kernel_rfl) (by kernel_rfl); clear Y
 obtain ⟨aC, aD, aE, aF⟩ := hp
 refine lp (ι := (List UInt8) × Int) (fun (s : (List UInt8) × Int) => [⟨0, [], str u0⟩, ⟨1, [], i6 u1⟩, ⟨7, [], str s.1⟩, ⟨8, [], i6 s.2⟩]) (fun (s : (List UInt8) × Int) => []) (fun (s : (List UInt8) × Int) => Z) (fun (s : (List UInt8) × Int) => aC s.1 s.2) (fun (s : (List UInt8) × Int) => aD s.1 s.2) ⟨[], 0⟩ aE (by exact aa.region (by kernel_rfl) (by kernel_rfl)) (by exact j) ?_
 rintro ⟨h, a⟩ aG aH aI ab ac
 have ad : Fr 52 [] [⟨0, [], str u0⟩, ⟨1, [], i6 u1⟩, ⟨7, [], str h⟩, ⟨8, [], i6 a⟩] aH := ab; clear ab aa
 have f : Mem w.heap.size [] w Z [] Z aI := ac; clear ac j
 have u := aF h a aG
 refine wp_seq ?_
 refine sqB ad f [] [] [(12, .bool (decide ((h.length : Int) < u1)))] ?_; intro bd l; clear ad
 refine cd l (t := decide ((h.length : Int) < u1)) (by kernel_rfl) (fun J => ?_) (fun J => ?_)
 · -- yes
  have x := u.1 J; clear u
  refine wp_skip ?_
  refine thn ?_
  refine wp_block ?_
  refine wp_seq ?_
  refine sqB l f [] [] [(16, .bool (a == (u0.length : Int)))] ?_; intro be m; clear l
  refine cd m (t := a == (u0.length : Int)) (by kernel_rfl) (fun L => ?_) (fun L => ?_)
  · -- yes
   have aJ := x.1 L; clear x
   refine sqB m f [] [] [(4, str []), (5, i6 0), (6, i6 7)] ?_; intro bf aK; clear m
   refine wp_ret ?_
   refine thr ?_
   refine ibr ?_
   refine thr ?_
   refine ibr ?_
   refine thr ?_
   refine ra3 aK (.tuple #[str [], i6 0, i6 7]) ?_
   exact ⟨([], 0, 7), rfl, aJ, f.below⟩
  · -- no
   have aL := x.2 L; clear x
   refine wp_skip ?_
   refine thn ?_
   refine sqH ?_; intro aM ae
   refine bt m f 5 [] [] [(17, str h), (18, str u0), (19, i6 a), (21, i6 (w64 (a + 1)))] ?_; intro bg M; clear m
   obtain ⟨aN, aO⟩ := aL
   refine st M (str ((u0.take (w64 (a + 1)).toNat).drop a.toNat)) (nog rfl _) rfl (by kernel_rfl) (strslI_run M (g := []) (k := .i64) (k' := .i64) rfl (by kernel_rfl) (by kernel_rfl) (by kernel_rfl) (by kernel_rfl) aN rfl) ?_; intro bh af; clear M
   obtain ⟨aP, y⟩ := aO
   refine sa af aP ?_; intro bi ag; clear af
   refine s1 ag 7 (str (h ++ ((u0.take (w64 (a + 1)).toNat).drop a.toNat))) ?_; intro bj ah; clear ag
   refine nlH (ae _ _ ?_); clear ae aM
   refine sqB ah f [] [] [(8, i6 (w64 (a + 1)))] ?_; intro bk ai; clear ah
   refine sqH ?_; intro aj z
   refine bt ai f 3 [] [] [(28, .bool (decide ((w64 (a + 1)) ≥ 5)))] ?_; intro bl A; clear ai
   rcases Bool.eq_false_or_eq_true (decide ((w64 (a + 1)) ≥ 5)) with n | n
   · -- true
    have aQ := y.1 n; clear y
    have ak := A.reval (d := 28) (c := []) (v := .bool (decide ((w64 (a + 1)) ≥ 5))) (by kernel_rfl) (.bool true) (by rw [n]); clear A
    refine bt ak f 4 [] [29, 30, 31, 32] [(29, str u0), (31, i6 (w64 ((w64 (a + 1)) - 5))), (32, i6 (w64 (a + 1)))] ?_; intro bm B; clear ak
    obtain ⟨aR, aS⟩ := aQ
    refine st B (str ((u0.take (w64 (a + 1)).toNat).drop (w64 ((w64 (a + 1)) - 5)).toNat)) (by rw [wanted_of B (b := true) rfl rfl (by kernel_rfl) (by kernel_rfl)]; rfl) rfl (by kernel_rfl) (strslI_run B (g := []) (k := .i64) (k' := .i64) rfl (by kernel_rfl) (by kernel_rfl) (by kernel_rfl) (by kernel_rfl) aR rfl) ?_; intro bn N; clear B
    obtain ⟨aT, C⟩ := aS
    refine fcl N f (.bool (rsameS ((u0.take (w64 (a + 1)).toNat).drop (w64 ((w64 (a + 1)) - 5)).toNat))) 78 #[str ((u0.take (w64 (a + 1)).toNat).drop (w64 ((w64 (a + 1)) - 5)).toNat)] (by rw [wanted_of N (b := true) rfl rfl (by kernel_rfl) (by kernel_rfl)]; rfl) rfl (by kernel_rfl) (fun _ => by kernel_rfl) (rsame_fun ((u0.take (w64 (a + 1)).toNat).drop (w64 ((w64 (a + 1)) - 5)).toNat) aT _ _ f.fz) ?_; intro bo bp al i; clear N f
    refine s1 al 35 (.bool (rsameS ((u0.take (w64 (a + 1)).toNat).drop (w64 ((w64 (a + 1)) - 5)).toNat))) ?_; intro bq D; clear al
    refine nlH (z _ _ ?_); clear z aj
    refine cd D (t := (rsameS ((u0.take (w64 (a + 1)).toNat).drop (w64 ((w64 (a + 1)) - 5)).toNat))) (by kernel_rfl) (fun O => ?_) (fun O => ?_)
    · -- yes
     have E := C.1 O; clear C
     refine wp_seq ?_
     refine sqB D i [] [] [(39, .bool ((w64 (a + 1)) == (u0.length : Int)))] ?_; intro aU o; clear D
     refine cd o (t := (w64 (a + 1)) == (u0.length : Int)) (by kernel_rfl) (fun P => ?_) (fun P => ?_)
     · -- yes
      have aV := E.1 P; clear E
      refine sqB o i [] [] [(4, str []), (5, i6 0), (6, i6 7)] ?_; intro br aW; clear o
      refine wp_ret ?_
      refine thr ?_
      refine ibr ?_
      refine thr ?_
      refine ibr ?_
      refine thr ?_
      refine ra3 aW (.tuple #[str [], i6 0, i6 7]) ?_
      exact ⟨([], 0, 7), rfl, aV, i.below⟩
     · -- no
      have aX := E.2 P; clear E
      refine wp_skip ?_
      refine thn ?_
      refine wp_seq ?_
      have am : Fr 52 [] [⟨0, [], str u0⟩, ⟨1, [], i6 u1⟩, ⟨7, [], str (h ++ ((u0.take (w64 (a + 1)).toNat).drop a.toNat))⟩, ⟨8, [], i6 (w64 (a + 1))⟩] aU := o.region (by kernel_rfl) (by kernel_rfl); clear o
      refine sqQH mixed (by kernel_rfl) i ?_; intro aY an
      refine q1 am 40 (str u0) ?_; intro bs ao; clear am
      refine q1 ao 41 (i6 (w64 (a + 1))) ?_; intro bu Q; clear ao
      obtain ⟨aZ, a1⟩ := aX
      obtain ⟨F, ap⟩ : ∃ q, u0[(w64 (a + 1)).toNat]? = some q := ⟨_, List.getElem?_eq_getElem (by omega)⟩; have a2 := a1 F ap
      refine qst Q (y8 (F.toNat : Int)) (nog rfl _) rfl (by kernel_rfl) (fun v145 hC => stridx_run Q (k := .i64) rfl (by kernel_rfl) (by kernel_rfl) (by kernel_rfl) aZ.1 ap) ?_; intro bv aq; clear Q
      refine q1 aq 43 (str u0) ?_; intro bw ar; clear aq
      refine q1 ar 44 (i6 (w64 (a + 1))) ?_; intro bx au; clear ar
      refine q1 au 45 (i6 (w64 ((w64 (a + 1)) - 1))) ?_; intro bz R; clear au
      obtain ⟨a3, a4⟩ := a2
      obtain ⟨G, av⟩ : ∃ q, u0[(w64 ((w64 (a + 1)) - 1)).toNat]? = some q := ⟨_, List.getElem?_eq_getElem (by omega)⟩; have H := a4 G av
      refine qst R (y8 (G.toNat : Int)) (nog rfl _) rfl (by kernel_rfl) (fun v162 hC => stridx_run R (k := .i64) rfl (by kernel_rfl) (by kernel_rfl) (by kernel_rfl) a3.1 av) ?_; intro bA aw; clear R
      refine q1 aw 47 (.bool ((F.toNat : Int) == (G.toNat : Int))) ?_; intro bB p; clear aw
      refine qnl (an _ ?_); clear an aY; intro bC I; clear i
      refine cd p (t := (F.toNat : Int) == (G.toNat : Int)) (by kernel_rfl) (fun S => ?_) (fun S => ?_)
      · -- yes
       have a5 := H.1 S; clear H
       refine sqB p I [] [] [(4, str []), (5, i6 0), (6, i6 5)] ?_; intro bD a7; clear p
       refine wp_ret ?_
       refine thr ?_
       refine ibr ?_
       refine thr ?_
       refine ibr ?_
       refine thr ?_
       refine ra3 a7 (.tuple #[str [], i6 0, i6 5]) ?_
       exact ⟨([], 0, 5), rfl, a5, I.below⟩
      · -- no
       have ax := H.2 S; clear H
       refine wp_skip ?_
       refine thn ?_
       refine rgB p I [] [] [(8, i6 (w64 ((w64 (a + 1)) + 1)))] ?_; intro bE a8; clear p
       refine ibn ?_
       refine rd ?_
       exact ⟨⟨h ++ ((u0.take (w64 (a + 1)).toNat).drop a.toNat), w64 ((w64 (a + 1)) + 1)⟩, ax.1, ax.2, (a8.region (by kernel_rfl) (by kernel_rfl)).anyβ _ (by kernel_rfl), I.keep (List.Sublist.slnil)⟩
    · -- no
     have ay := C.2 O; clear C
     refine wp_skip ?_
     refine ibn ?_
     refine rd ?_
     exact ⟨⟨h ++ ((u0.take (w64 (a + 1)).toNat).drop a.toNat), w64 (a + 1)⟩, ay.1, ay.2, (D.region (by kernel_rfl) (by kernel_rfl)).anyβ _ (by kernel_rfl), i.keep (List.Sublist.slnil)⟩
   · -- false
    have az := y.2 n; clear y
    have aA := A.reval (d := 28) (c := []) (v := .bool (decide ((w64 (a + 1)) ≥ 5))) (by kernel_rfl) (.bool false) (by rw [n]); clear A
    refine bt aA f 7 [] [29, 30, 31, 32, 33, 34, 35] [(35, .bool false)] ?_; intro bF aB; clear aA
    refine nlH (z _ _ ?_); clear z aj
    refine cdF aB (by kernel_rfl) ?_
    refine wp_skip ?_
    refine ibn ?_
    refine rd ?_
    exact ⟨⟨h ++ ((u0.take (w64 (a + 1)).toNat).drop a.toNat), w64 (a + 1)⟩, az.1, az.2, (aB.region (by kernel_rfl) (by kernel_rfl)).anyβ _ (by kernel_rfl), f.keep (List.Sublist.slnil)⟩
 · -- no
  have ba := u.2 J; clear u
  refine wp_exit ?_
  refine thx ?_
  refine thx ?_
  refine ibx ?_
  refine thn ?_
  refine sqB l f [] [] [(4, str h), (5, i6 a), (6, i6 0)] ?_; intro bG bb; clear l
  refine wp_ret ?_
  refine ra3 bb (.tuple #[str h, i6 a, i6 0]) ?_
  exact ⟨(h, a, 0), rfl, ba, f.below⟩

end Go.Proofs.YtmbdcehmeiiaoaaGreatDoor
set_option linter.unusedVariables false
set_option linter.unusedSimpArgs false
set_option maxRecDepth 100000
set_option maxHeartbeats 0
namespace Go.Proofs.YtmbdcehmeiiaoaaGreatDoor
open Go.Sy Go.RowKit
theorem putbits_fun (u0 : List UInt8) (hpre : isRow u0 = true ∧ u0.length ≤ 1000)  (Z : Fz) (w : World)  (hZ : Z.on w) : Calls Tryz.prog 61 #[str u0] w fun e w' => e = .returned (str (putbitsS u0)) ∧ Below w.heap.size w w' :=
  (putbits_walk u0  Z w  hZ (putbits_ok u0 hpre)).mono fun _ _ ⟨r, he, hk, hb⟩ => ⟨by subst hk; exact he, hb⟩

theorem takebits_fun (u0 : List UInt8) (u1 : Int) (hpre : isRow u0 = true ∧ u0.length ≤ 1000 ∧ 0 ≤ u1 ∧ u1 ≤ 1000)  (Z : Fz) (w : World)  (hZ : Z.on w) : Calls Tryz.prog 45 #[str u0, i6 u1] w fun e w' => e = .returned (.tuple #[str ((takebitsS u0 u1).1), i6 ((takebitsS u0 u1).2.1), i6 ((takebitsS u0 u1).2.2)]) ∧ Below w.heap.size w w' :=
  (takebits_walk u0 u1  Z w  hZ (takebits_ok u0 u1 hpre)).mono fun _ _ ⟨r, he, hk, hb⟩ => ⟨by subst hk; exact he, hb⟩

theorem rfastend_walk (u0 : List UInt8) (u1 : List UInt8) (u2 : Int)  (Z : Fz) (w : World) (hg5 : SlR t8 Z (sm 5) 64 deBruijn64) (hZ : Z.on w) {K : (List UInt8) → Prop} (hp : rfastend_vc u0 u1 u2 K) : Calls Tryz.prog 51 #[str u0, str u1, i6 u2] w fun e w' => ∃ r : (List UInt8), e = .returned (str r) ∧ K r ∧ Below w.heap.size w w' := by
 refine enter0 Tryz.func51 rfl rfl (by kernel_rfl) ?_; intro a0 z; have j := Mem.start w Z hZ; have A := Fz.le.refl Z
 refine sqB z j [] [] [] ?_; intro a2 B; clear z
 refine sqH ?_; intro av C
 refine nw B j (fun b => .slice (sm b) 8 8) [str ([48, 48, 48, 48] : List UInt8), str ([48, 48, 49, 49] : List UInt8), str ([48, 49, 49, 48] : List UInt8), str ([48, 49, 48, 49] : List UInt8), str ([49, 49, 48, 48] : List UInt8), str ([49, 49, 49, 49] : List UInt8), str ([49, 48, 49, 48] : List UInt8), str ([49, 48, 48, 49] : List UInt8)] 9 ?_; intro l a6 D E m; clear B j
 refine s1 E 7 (.slice (sm l) 8 8) ?_; intro be F; clear E
 refine nlH (C _ _ ?_); clear C av
 refine sqH ?_; intro aw G
 refine bt F m 7 [] [] [(11, .slice (sm l) 8 8), (17, i6 ((w64 ((u1.length : Int) - (u0.length : Int))).tmod 8))] ?_; intro bf H; clear F
 have ax : Mem w.heap.size [] w Z [.own tyStr 9 (sm l) 8 ([([48, 48, 48, 48] : List UInt8), ([48, 48, 49, 49] : List UInt8), ([48, 49, 49, 48] : List UInt8), ([48, 49, 48, 49] : List UInt8), ([49, 49, 48, 48] : List UInt8), ([49, 49, 49, 49] : List UInt8), ([49, 48, 49, 48] : List UInt8), ([49, 48, 48, 49] : List UInt8)] : List (List UInt8))] Z D := m.rowOwn (T := tyStr) (xs := ([([48, 48, 48, 48] : List UInt8), ([48, 48, 49, 49] : List UInt8), ([48, 49, 49, 48] : List UInt8), ([48, 49, 48, 49] : List UInt8), ([49, 49, 48, 48] : List UInt8), ([49, 49, 49, 49] : List UInt8), ([49, 48, 49, 48] : List UInt8), ([49, 48, 48, 49] : List UInt8)] : List (List UInt8))) 0 rfl (by decide) (by show 8 ≤ lim; decide) ((RepAll.one (T := tyStr) (x := ([48, 48, 48, 48] : List UInt8)) rfl).append ((RepAll.one (T := tyStr) (x := ([48, 48, 49, 49] : List UInt8)) rfl).append ((RepAll.one (T := tyStr) (x := ([48, 49, 49, 48] : List UInt8)) rfl).append ((RepAll.one (T := tyStr) (x := ([48, 49, 48, 49] : List UInt8)) rfl).append ((RepAll.one (T := tyStr) (x := ([49, 49, 48, 48] : List UInt8)) rfl).append ((RepAll.one (T := tyStr) (x := ([49, 49, 49, 49] : List UInt8)) rfl).append ((RepAll.one (T := tyStr) (x := ([49, 48, 49, 48] : List UInt8)) rfl).append (RepAll.one (T := tyStr) (x := ([49, 48, 48, 49] : List UInt8)) rfl)))))))); clear m
 obtain ⟨ay, I, J, az⟩ := ax.freeze 0 rfl
 replace hg5 := hg5.mono I
 replace A := Fz.le.trans A I
 have c : Mem w.heap.size [] w Z [] ay D := J; clear J
 obtain ⟨aA, L⟩ := hp
 refine ix H (T := tyStr) (xs := ([([48, 48, 48, 48] : List UInt8), ([48, 48, 49, 49] : List UInt8), ([48, 49, 49, 48] : List UInt8), ([48, 49, 48, 49] : List UInt8), ([49, 49, 48, 48] : List UInt8), ([49, 49, 49, 49] : List UInt8), ([49, 48, 49, 48] : List UInt8), ([49, 48, 48, 49] : List UInt8)] : List (List UInt8))) az ((w64 ((u1.length : Int) - (u0.length : Int))).tmod 8) aA (k := .i64) (e := 9) (bytes := 16) (nog rfl _) rfl (by kernel_rfl) rfl (by kernel_rfl) (by kernel_rfl) (by kernel_rfl) ?_; intro bg bh aB a bi aC aD aE M; clear H
 have i := L a aC; clear L
 obtain rfl : aB = ([str a] : List Value) := aE
 refine z1 M c 19 aD 0 (str a) rfl ?_; intro bj N; clear M
 refine s1 N 8 (str a) ?_; intro bk O; clear N
 refine nlH (G _ _ ?_); clear G aw
 refine sqB O c [] [] [(9, i6 1)] ?_; intro bl P; clear O
 refine wp_seq ?_
 refine sqB P c [] [] [(21, .bool (decide (u2 > 16)))] ?_; intro aF h; clear P
 refine cd h (t := decide (u2 > 16)) (by kernel_rfl) (fun n => ?_) (fun n => ?_)
 · -- yes
  have aG := i.1 n; clear i
  refine rgB h c [] [] [(9, i6 2)] ?_; intro aH Q; clear h
  refine thn ?_
  have R : Fr 35 [] [⟨1, [], str u1⟩, ⟨8, [], str a⟩, ⟨9, [], i6 2⟩] aH := Q.region (by kernel_rfl) (by kernel_rfl); clear Q
  refine sqQH mixed (by kernel_rfl) c ?_; intro aI S
  refine q1 R 22 (str a) ?_; intro bm U; clear R
  refine q1 U 23 (i6 2) ?_; intro bn V; clear U
  refine q1 V 24 (str u1) ?_; intro bo W; clear V
  refine q1 W 25 (str a) ?_; intro bp o; clear W
  obtain ⟨aJ, aK⟩ := aG
  refine qst o (str (u1 ++ a)) (nog rfl _) rfl (by kernel_rfl) (fun v76 hC => stradd_run o (g := []) rfl (by kernel_rfl) (by kernel_rfl) aJ rfl) ?_; intro bq X; clear o
  obtain ⟨aL, aM⟩ := aK
  refine qcl X (str (sumR 2 (u1 ++ a))) 49 #[i6 2, str (u1 ++ a)] (nog rfl _) rfl (by kernel_rfl) (fun _ => by kernel_rfl) (qfc fun w hC => rsumof_fun 2 (u1 ++ a) aL _ _ hg5 hC.fz) ?_; intro br p; clear X
  obtain ⟨aN, aO⟩ := aM
  refine qst p (str (a ++ (sumR 2 (u1 ++ a)))) (nog rfl _) rfl (by kernel_rfl) (fun v86 hC => stradd_run p (g := []) rfl (by kernel_rfl) (by kernel_rfl) aN rfl) ?_; intro bs Y; clear p
  refine q1 Y 29 (str u1) ?_; intro bu aa; clear Y
  refine q1 aa 30 (str u1) ?_; intro bv ab; clear aa
  refine q1 ab 31 (i6 (u1.length : Int)) ?_; intro bw ac; clear ab
  refine q1 ac 32 (i6 (w64 ((u1.length : Int) - 1))) ?_; intro bx s; clear ac
  obtain ⟨aP, aQ⟩ := aO
  obtain ⟨d, ad⟩ : ∃ q, u1[(w64 ((u1.length : Int) - 1)).toNat]? = some q := ⟨_, List.getElem?_eq_getElem (by omega)⟩; have aR := aQ d ad
  refine qst s (y8 (d.toNat : Int)) (nog rfl _) rfl (by kernel_rfl) (fun v103 hC => stridx_run s (k := .i64) rfl (by kernel_rfl) (by kernel_rfl) (by kernel_rfl) aP.1 ad) ?_; intro bz ae; clear s
  obtain ⟨aS, aT⟩ := aR
  refine qcl ae (str (fixbitsS (a ++ (sumR 2 (u1 ++ a))) (d.toNat : Int))) 86 #[str (a ++ (sumR 2 (u1 ++ a))), y8 (d.toNat : Int)] (nog rfl _) rfl (by kernel_rfl) (fun _ => by kernel_rfl) (qfc fun w hC => fixbits_fun (a ++ (sumR 2 (u1 ++ a))) (d.toNat : Int) aS _ _ hC.fz) ?_; intro bA af; clear ae
  refine q1 af 6 (str (fixbitsS (a ++ (sumR 2 (u1 ++ a))) (d.toNat : Int))) ?_; intro bB aU; clear af
  refine qnl (S _ ?_); clear S aI; intro bC aV; clear c
  refine wp_ret ?_
  refine ra1 aU (str (fixbitsS (a ++ (sumR 2 (u1 ++ a))) (d.toNat : Int))) ?_
  exact ⟨(fixbitsS (a ++ (sumR 2 (u1 ++ a))) (d.toNat : Int)), rfl, aT, aV.below⟩
 · -- no
  have aW := i.2 n; clear i
  refine wp_skip ?_
  refine thn ?_
  have ag : Fr 35 [] [⟨1, [], str u1⟩, ⟨8, [], str a⟩, ⟨9, [], i6 1⟩] aF := h.region (by kernel_rfl) (by kernel_rfl); clear h
  refine sqQH mixed (by kernel_rfl) c ?_; intro aX ah
  refine q1 ag 22 (str a) ?_; intro bD ai; clear ag
  refine q1 ai 23 (i6 1) ?_; intro bE aj; clear ai
  refine q1 aj 24 (str u1) ?_; intro bF ak; clear aj
  refine q1 ak 25 (str a) ?_; intro bG u; clear ak
  obtain ⟨aY, aZ⟩ := aW
  refine qst u (str (u1 ++ a)) (nog rfl _) rfl (by kernel_rfl) (fun v136 hC => stradd_run u (g := []) rfl (by kernel_rfl) (by kernel_rfl) aY rfl) ?_; intro bH al; clear u
  obtain ⟨a1, a3⟩ := aZ
  refine qcl al (str (sumR 1 (u1 ++ a))) 49 #[i6 1, str (u1 ++ a)] (nog rfl _) rfl (by kernel_rfl) (fun _ => by kernel_rfl) (qfc fun w hC => rsumof_fun 1 (u1 ++ a) a1 _ _ hg5 hC.fz) ?_; intro bI v; clear al
  obtain ⟨a4, a5⟩ := a3
  refine qst v (str (a ++ (sumR 1 (u1 ++ a)))) (nog rfl _) rfl (by kernel_rfl) (fun v146 hC => stradd_run v (g := []) rfl (by kernel_rfl) (by kernel_rfl) a4 rfl) ?_; intro bJ am; clear v
  refine q1 am 29 (str u1) ?_; intro bK an; clear am
  refine q1 an 30 (str u1) ?_; intro bL ao; clear an
  refine q1 ao 31 (i6 (u1.length : Int)) ?_; intro bM ap; clear ao
  refine q1 ap 32 (i6 (w64 ((u1.length : Int) - 1))) ?_; intro bN y; clear ap
  obtain ⟨a7, a8⟩ := a5
  obtain ⟨f, aq⟩ : ∃ q, u1[(w64 ((u1.length : Int) - 1)).toNat]? = some q := ⟨_, List.getElem?_eq_getElem (by omega)⟩; have a9 := a8 f aq
  refine qst y (y8 (f.toNat : Int)) (nog rfl _) rfl (by kernel_rfl) (fun v163 hC => stridx_run y (k := .i64) rfl (by kernel_rfl) (by kernel_rfl) (by kernel_rfl) a7.1 aq) ?_; intro bO ar; clear y
  obtain ⟨ba, bb⟩ := a9
  refine qcl ar (str (fixbitsS (a ++ (sumR 1 (u1 ++ a))) (f.toNat : Int))) 86 #[str (a ++ (sumR 1 (u1 ++ a))), y8 (f.toNat : Int)] (nog rfl _) rfl (by kernel_rfl) (fun _ => by kernel_rfl) (qfc fun w hC => fixbits_fun (a ++ (sumR 1 (u1 ++ a))) (f.toNat : Int) ba _ _ hC.fz) ?_; intro bP au; clear ar
  refine q1 au 6 (str (fixbitsS (a ++ (sumR 1 (u1 ++ a))) (f.toNat : Int))) ?_; intro bQ bc; clear au
  refine qnl (ah _ ?_); clear ah aX; intro bR bd; clear c
  refine wp_ret ?_
  refine ra1 bc (str (fixbitsS (a ++ (sumR 1 (u1 ++ a))) (f.toNat : Int))) ?_
  exact ⟨(fixbitsS (a ++ (sumR 1 (u1 ++ a))) (f.toNat : Int)), rfl, bb, bd.below⟩

end Go.Proofs.YtmbdcehmeiiaoaaGreatDoor
set_option linter.unusedVariables false
set_option linter.unusedSimpArgs false
set_option maxRecDepth 100000
set_option maxHeartbeats 0
namespace Go.Proofs.YtmbdcehmeiiaoaaGreatDoor
open Go.Sy Go.RowKit
theorem rfail_fun (u0 : FReader) (u1 : Int) (b1 : Nat) (ao2 : Option Addr) (cap3 : Nat) (B : Nat) (w0 : World) (Z0 : Fz) (Rr : List Res) (Z : Fz) (w : World) (hs4 : SlR t8 Z ao2 cap3 u0.f.Data) (hM0 : Mem B [] w0 Z0 ((.row b1 [str u0.Reader.Row, i6 u0.Reader.At, i6 u0.Reader.Code, y8 u0.Reader.c.last, i6 u0.Reader.c.n, i6 u0.f.ID, .bool u0.f.Long, .bool u0.f.Fast, .bool u0.f.Remote, i6 u0.f.Size, .slice ao2 u0.f.Data.length cap3] 61) :: Rr) Z w) (hZ : Z.on w) : Calls Tryz.prog 34 #[pt b1 0, i6 u1] w fun e w' => ∃ (ao1001 : Option Addr) (cap1002 : Nat) (Z' : Fz), e = .returned (.tuple #[]) ∧ Fz.le Z Z' ∧ SlR t8 Z' ao1001 cap1002 (rfailS u0 u1).f.Data ∧ Mem B [] w0 Z0 ((.row b1 [str (rfailS u0 u1).Reader.Row, i6 (rfailS u0 u1).Reader.At, i6 (rfailS u0 u1).Reader.Code, y8 (rfailS u0 u1).Reader.c.last, i6 (rfailS u0 u1).Reader.c.n, i6 (rfailS u0 u1).f.ID, .bool (rfailS u0 u1).f.Long, .bool (rfailS u0 u1).f.Fast, .bool (rfailS u0 u1).f.Remote, i6 (rfailS u0 u1).f.Size, .slice ao1001 (rfailS u0 u1).f.Data.length cap1002] 61) :: Rr) Z' w' :=
  (rfail_walk u0 u1 b1 ao2 cap3 B w0 Z0 Rr Z w hs4 hM0 hZ (rfail_ok u0 u1)).mono fun _ _ ⟨r, h0, h1, h2, he, hk, f0, f1, hm⟩ => by subst hk; exact ⟨h0, h1, h2, he, f0, f1, hm⟩
theorem rfail_funK (u0 : FReader) (u1 : Int) (b1 : Nat) (ao2 : Option Addr) (cap3 : Nat) (B : Nat) (w0 : World) (Z0 : Fz) (Rr : List Res) (Z : Fz) (w : World) (hs4 : SlR t8 Z ao2 cap3 u0.f.Data) (hM0 : Mem B [] w0 Z0 ((.row b1 [str u0.Reader.Row, i6 u0.Reader.At, i6 u0.Reader.Code, y8 u0.Reader.c.last, i6 u0.Reader.c.n, i6 u0.f.ID, .bool u0.f.Long, .bool u0.f.Fast, .bool u0.f.Remote, i6 u0.f.Size, .slice ao2 u0.f.Data.length cap3] 61) :: Rr) Z w) (hZ : Z.on w) : Calls Tryz.prog 34 #[pt b1 0, i6 u1] w fun e w' => ∃ (ao1001 : Option Addr) (cap1002 : Nat) (Z' : Fz), e = .returned (.tuple #[]) ∧ Fz.le Z Z' ∧ SlR t8 Z' ao1001 cap1002 u0.f.Data ∧ Mem B [] w0 Z0 ((.row b1 [str (rfailS u0 u1).Reader.Row, i6 (rfailS u0 u1).Reader.At, i6 (rfailS u0 u1).Reader.Code, y8 (rfailS u0 u1).Reader.c.last, i6 (rfailS u0 u1).Reader.c.n, i6 u0.f.ID, .bool u0.f.Long, .bool u0.f.Fast, .bool u0.f.Remote, i6 u0.f.Size, .slice ao1001 u0.f.Data.length cap1002] 61) :: Rr) Z' w' :=
  (rfail_walk u0 u1 b1 ao2 cap3 B w0 Z0 Rr Z w hs4 hM0 hZ (rfail_ok u0 u1)).mono fun _ _ ⟨r, h0, h1, h2, he, hk, f0, f1, hm⟩ => by subst hk; have hkp : (rfailS u0 u1).f = u0.f := rfailS_f u0 u1; (try simp only [hkp] at *); exact ⟨h0, h1, h2, he, f0, f1, hm⟩

theorem rwant_walk (u0 : FReader) (u1 : List UInt8) (b1 : Nat) (ao2 : Option Addr) (cap3 : Nat) (B : Nat) (w0 : World) (Z0 : Fz) (Rr : List Res) (Z : Fz) (w : World) (hs4 : SlR t8 Z ao2 cap3 u0.f.Data) (hM0 : Mem B [] w0 Z0 ((.row b1 [str u0.Reader.Row, i6 u0.Reader.At, i6 u0.Reader.Code, y8 u0.Reader.c.last, i6 u0.Reader.c.n, i6 u0.f.ID, .bool u0.f.Long, .bool u0.f.Fast, .bool u0.f.Remote, i6 u0.f.Size, .slice ao2 u0.f.Data.length cap3] 61) :: Rr) Z w) (hZ : Z.on w) {K : FReader → Prop} (hp : rwant_vc u0 u1 K) : Calls Tryz.prog 66 #[pt b1 0, str u1] w fun e w' => ∃ (r : FReader) (ao1001 : Option Addr) (cap1002 : Nat) (Z' : Fz), e = .returned (.tuple #[]) ∧ K r ∧ Fz.le Z Z' ∧ SlR t8 Z' ao1001 cap1002 r.f.Data ∧ Mem B [] w0 Z0 ((.row b1 [str r.Reader.Row, i6 r.Reader.At, i6 r.Reader.Code, y8 r.Reader.c.last, i6 r.Reader.c.n, i6 r.f.ID, .bool r.f.Long, .bool r.f.Fast, .bool r.f.Remote, i6 r.f.Size, .slice ao1001 r.f.Data.length cap1002] 61) :: Rr) Z' w' := by
 refine enter0 Tryz.func66 rfl rfl (by kernel_rfl) ?_; intro a0 q; have g := Fz.le.refl Z
 have Q := hp (hs4.small); clear hp
 refine sqH ?_; intro R s
 refine bt q hM0 3 [] [] [(7, pt b1 0)] ?_; intro ac u; clear q
 obtain ⟨S, x⟩ := Q
 refine ck u 36 #[pt b1 0, i6 1] ?_
 obtain ⟨a, T, y⟩ := hxq x; clear x
 have d := rtakeF_fun u0 1 S b1 ao2 cap3 _ _ _ _ _ _ hs4 hM0 hM0.fz; rw [T] at d; refine d.mono ?_; clear d; rintro _ U ⟨l, m, z, rfl, A, h, hm⟩; refine ⟨_, rfl, ?_⟩; intro ad C; have D := hm; clear hm hM0 u
 replace hs4 := hs4.mono A
 replace g := Fz.le.trans g A
 have i : Mem B [] w0 Z0 ((.row b1 [str a.2.Reader.Row, i6 a.2.Reader.At, i6 a.2.Reader.Code, y8 a.2.Reader.c.last, i6 a.2.Reader.c.n, i6 a.2.f.ID, .bool a.2.f.Long, .bool a.2.f.Fast, .bool a.2.f.Remote, i6 a.2.f.Size, .slice l a.2.f.Data.length m] 61) :: Rr) z U := D; clear D
 have k := y (h.small); clear y
 refine s1 C 4 (str a.1) ?_; intro ae E; clear C
 refine nlH (s _ _ ?_); clear s R
 refine sqB E i [0] [40] [(19, .bool ((a.2.Reader.Code == 0) && (a.1 != u1)))] ?_; intro af j; clear E
 refine cd j (t := (a.2.Reader.Code == 0) && (a.1 != u1)) (by kernel_rfl) (fun o => ?_) (fun o => ?_)
 · -- yes
  have F := k.1 o; clear k
  refine rgH ?_; intro V G
  refine s1 j 20 (pt b1 0) ?_; intro ag H; clear j
  refine ck H 34 #[pt b1 0, i6 4] ?_
  obtain ⟨b, W, I⟩ := hxq F; clear F
  have d := rfail_fun a.2 4 b1 l m _ _ _ _ _ _ h i i.fz; rw [W] at d; refine d.mono ?_; clear d; rintro _ X ⟨J, L, M, rfl, p, N, hm⟩; refine ⟨_, rfl, ?_⟩; intro ah O; have P := hm; clear hm i H
  replace hs4 := hs4.mono p
  replace h := h.mono p
  replace g := Fz.le.trans g p
  have Y : Mem B [] w0 Z0 ((.row b1 [str b.Reader.Row, i6 b.Reader.At, i6 b.Reader.Code, y8 b.Reader.c.last, i6 b.Reader.c.n, i6 b.f.ID, .bool b.f.Long, .bool b.f.Fast, .bool b.f.Remote, i6 b.f.Size, .slice J b.f.Data.length L] 61) :: Rr) M X := P; clear P
  have aa := I (N.small); clear I
  refine nlH (G _ _ ?_); clear G V
  refine rN (fn := Tryz.f66) (v := .tuple #[]) O (re0 O (fn := Tryz.f66) rfl) ?_
  exact ⟨b, J, L, M, rfl, aa, g, N, Y.keep (List.Sublist.cons_cons _ (List.Sublist.refl _))⟩
 · -- no
  have ab := k.2 o; clear k
  refine wp_skip ?_
  refine rN (fn := Tryz.f66) (v := .tuple #[]) j (re0 j (fn := Tryz.f66) rfl) ?_
  exact ⟨a.2, l, m, z, rfl, ab, g, h, i.keep (List.Sublist.cons_cons _ (List.Sublist.refl _))⟩

theorem rnumber_walk (u0 : FReader) (u1 : Int) (b1 : Nat) (ao2 : Option Addr) (cap3 : Nat) (B : Nat) (w0 : World) (Z0 : Fz) (Rr : List Res) (Z : Fz) (w : World) (hs4 : SlR t8 Z ao2 cap3 u0.f.Data) (hM0 : Mem B [] w0 Z0 ((.row b1 [str u0.Reader.Row, i6 u0.Reader.At, i6 u0.Reader.Code, y8 u0.Reader.c.last, i6 u0.Reader.c.n, i6 u0.f.ID, .bool u0.f.Long, .bool u0.f.Fast, .bool u0.f.Remote, i6 u0.f.Size, .slice ao2 u0.f.Data.length cap3] 61) :: Rr) Z w) (hZ : Z.on w) {K : (Int × FReader) → Prop} (hp : rnumber_vc u0 u1 K) : Calls Tryz.prog 33 #[pt b1 0, i6 u1] w fun e w' => ∃ (r : Int × FReader) (ao1001 : Option Addr) (cap1002 : Nat) (Z' : Fz), e = .returned (i6 r.1) ∧ K r ∧ Fz.le Z Z' ∧ SlR t8 Z' ao1001 cap1002 r.2.f.Data ∧ Mem B [] w0 Z0 ((.row b1 [str r.2.Reader.Row, i6 r.2.Reader.At, i6 r.2.Reader.Code, y8 r.2.Reader.c.last, i6 r.2.Reader.c.n, i6 r.2.f.ID, .bool r.2.f.Long, .bool r.2.f.Fast, .bool r.2.f.Remote, i6 r.2.f.Size, .slice ao1001 r.2.f.Data.length cap1002] 61) :: Rr) Z' w' := by
 refine enter0 Tryz.func33 rfl rfl (by kernel_rfl) ?_; intro U p; have g := Fz.le.refl Z
 have H := hp (hs4.small); clear hp
 refine sqB p hM0 [] [] [] ?_; intro V q; clear p
 refine sqH ?_; intro I s
 refine bt q hM0 4 [] [] [(8, pt b1 0), (9, i6 u1)] ?_; intro W u; clear q
 obtain ⟨J, v⟩ := H
 refine ck u 36 #[pt b1 0, i6 u1] ?_
 obtain ⟨a, L, x⟩ := hxq v; clear v
 have i := rtakeF_fun u0 u1 J b1 ao2 cap3 _ _ _ _ _ _ hs4 hM0 hM0.fz; rw [L] at i; refine i.mono ?_; clear i; rintro _ M ⟨j, k, l, rfl, y, m, hm⟩; refine ⟨_, rfl, ?_⟩; intro X z; have A := hm; clear hm hM0 u
 replace hs4 := hs4.mono y
 replace g := Fz.le.trans g y
 have b : Mem B [] w0 Z0 ((.row b1 [str a.2.Reader.Row, i6 a.2.Reader.At, i6 a.2.Reader.Code, y8 a.2.Reader.c.last, i6 a.2.Reader.c.n, i6 a.2.f.ID, .bool a.2.f.Long, .bool a.2.f.Fast, .bool a.2.f.Remote, i6 a.2.f.Size, .slice j a.2.f.Data.length k] 61) :: Rr) l M := A; clear A
 have h := x (m.small); clear x
 refine s1 z 5 (str a.1) ?_; intro Y C; clear z
 refine nlH (s _ _ ?_); clear s I
 refine wp_seq ?_
 refine sqB C b [0] [] [(16, .bool (a.2.Reader.Code != 0))] ?_; intro aa d; clear C
 refine cd d (t := a.2.Reader.Code != 0) (by kernel_rfl) (fun o => ?_) (fun o => ?_)
 · -- yes
  have N := h.1 o; clear h
  refine sqB d b [] [] [(4, i6 0)] ?_; intro ab O; clear d
  refine wp_ret ?_
  refine thr ?_
  refine ra1 O (i6 0) ?_
  exact ⟨(0, a.2), j, k, l, rfl, N, g, m, b.keep (List.Sublist.cons_cons _ (List.Sublist.refl _))⟩
 · -- no
  have P := h.2 o; clear h
  refine wp_skip ?_
  refine thn ?_
  refine sqH ?_; intro Q D
  refine s1 d 17 (str a.1) ?_; intro ac E; clear d
  obtain ⟨R, S⟩ := P
  refine fc E b (bread_fun a.1 R _ _ b.fz) ?_; intro ad ae F G; clear E b
  refine bt F G 2 [] [] [(4, i6 (w64 (breadS a.1)))] ?_; intro af T; clear F
  refine nlH (D _ _ ?_); clear D Q
  refine wp_ret ?_
  refine ra1 T (i6 (w64 (breadS a.1))) ?_
  exact ⟨(w64 (breadS a.1), a.2), j, k, l, rfl, S, g, m, G.keep (List.Sublist.cons_cons _ (List.Sublist.refl _))⟩

end Go.Proofs.YtmbdcehmeiiaoaaGreatDoor
set_option linter.unusedVariables false
set_option linter.unusedSimpArgs false
namespace Go.Proofs.YtmbdcehmeiiaoaaGreatDoor
open Go.Sy Go.RowKit
theorem rwant_fun (u0 : FReader) (u1 : List UInt8) (hpre : Rok u0.Reader) (b1 : Nat) (ao2 : Option Addr) (cap3 : Nat) (B : Nat) (w0 : World) (Z0 : Fz) (Rr : List Res) (Z : Fz) (w : World) (hs4 : SlR t8 Z ao2 cap3 u0.f.Data) (hM0 : Mem B [] w0 Z0 ((.row b1 [str u0.Reader.Row, i6 u0.Reader.At, i6 u0.Reader.Code, y8 u0.Reader.c.last, i6 u0.Reader.c.n, i6 u0.f.ID, .bool u0.f.Long, .bool u0.f.Fast, .bool u0.f.Remote, i6 u0.f.Size, .slice ao2 u0.f.Data.length cap3] 61) :: Rr) Z w) (hZ : Z.on w) : Calls Tryz.prog 66 #[pt b1 0, str u1] w fun e w' => ∃ (ao1001 : Option Addr) (cap1002 : Nat) (Z' : Fz), e = .returned (.tuple #[]) ∧ Fz.le Z Z' ∧ SlR t8 Z' ao1001 cap1002 (rwantS u0 u1).f.Data ∧ Mem B [] w0 Z0 ((.row b1 [str (rwantS u0 u1).Reader.Row, i6 (rwantS u0 u1).Reader.At, i6 (rwantS u0 u1).Reader.Code, y8 (rwantS u0 u1).Reader.c.last, i6 (rwantS u0 u1).Reader.c.n, i6 (rwantS u0 u1).f.ID, .bool (rwantS u0 u1).f.Long, .bool (rwantS u0 u1).f.Fast, .bool (rwantS u0 u1).f.Remote, i6 (rwantS u0 u1).f.Size, .slice ao1001 (rwantS u0 u1).f.Data.length cap1002] 61) :: Rr) Z' w' :=
  (rwant_walk u0 u1 b1 ao2 cap3 B w0 Z0 Rr Z w hs4 hM0 hZ (rwant_ok u0 u1 hpre)).mono fun _ _ ⟨r, h0, h1, h2, he, hk, f0, f1, hm⟩ => by subst hk; exact ⟨h0, h1, h2, he, f0, f1, hm⟩
theorem rwant_funK (u0 : FReader) (u1 : List UInt8) (hpre : Rok u0.Reader) (b1 : Nat) (ao2 : Option Addr) (cap3 : Nat) (B : Nat) (w0 : World) (Z0 : Fz) (Rr : List Res) (Z : Fz) (w : World) (hs4 : SlR t8 Z ao2 cap3 u0.f.Data) (hM0 : Mem B [] w0 Z0 ((.row b1 [str u0.Reader.Row, i6 u0.Reader.At, i6 u0.Reader.Code, y8 u0.Reader.c.last, i6 u0.Reader.c.n, i6 u0.f.ID, .bool u0.f.Long, .bool u0.f.Fast, .bool u0.f.Remote, i6 u0.f.Size, .slice ao2 u0.f.Data.length cap3] 61) :: Rr) Z w) (hZ : Z.on w) : Calls Tryz.prog 66 #[pt b1 0, str u1] w fun e w' => ∃ (ao1001 : Option Addr) (cap1002 : Nat) (Z' : Fz), e = .returned (.tuple #[]) ∧ Fz.le Z Z' ∧ SlR t8 Z' ao1001 cap1002 u0.f.Data ∧ Mem B [] w0 Z0 ((.row b1 [str (rwantS u0 u1).Reader.Row, i6 (rwantS u0 u1).Reader.At, i6 (rwantS u0 u1).Reader.Code, y8 (rwantS u0 u1).Reader.c.last, i6 (rwantS u0 u1).Reader.c.n, i6 u0.f.ID, .bool u0.f.Long, .bool u0.f.Fast, .bool u0.f.Remote, i6 u0.f.Size, .slice ao1001 u0.f.Data.length cap1002] 61) :: Rr) Z' w' :=
  (rwant_walk u0 u1 b1 ao2 cap3 B w0 Z0 Rr Z w hs4 hM0 hZ (rwant_ok u0 u1 hpre)).mono fun _ _ ⟨r, h0, h1, h2, he, hk, f0, f1, hm⟩ => by subst hk; have hkp : (rwantS u0 u1).f = u0.f := rwantS_f u0 u1; (try simp only [hkp] at *); exact ⟨h0, h1, h2, he, f0, f1, hm⟩

theorem rnumber_fun (u0 : FReader) (u1 : Int) (hpre : Rok u0.Reader ∧ 0 ≤ u1 ∧ u1 ≤ 62) (b1 : Nat) (ao2 : Option Addr) (cap3 : Nat) (B : Nat) (w0 : World) (Z0 : Fz) (Rr : List Res) (Z : Fz) (w : World) (hs4 : SlR t8 Z ao2 cap3 u0.f.Data) (hM0 : Mem B [] w0 Z0 ((.row b1 [str u0.Reader.Row, i6 u0.Reader.At, i6 u0.Reader.Code, y8 u0.Reader.c.last, i6 u0.Reader.c.n, i6 u0.f.ID, .bool u0.f.Long, .bool u0.f.Fast, .bool u0.f.Remote, i6 u0.f.Size, .slice ao2 u0.f.Data.length cap3] 61) :: Rr) Z w) (hZ : Z.on w) : Calls Tryz.prog 33 #[pt b1 0, i6 u1] w fun e w' => ∃ (ao1001 : Option Addr) (cap1002 : Nat) (Z' : Fz), e = .returned (i6 (rnumberS u0 u1).1) ∧ Fz.le Z Z' ∧ SlR t8 Z' ao1001 cap1002 (rnumberS u0 u1).2.f.Data ∧ Mem B [] w0 Z0 ((.row b1 [str (rnumberS u0 u1).2.Reader.Row, i6 (rnumberS u0 u1).2.Reader.At, i6 (rnumberS u0 u1).2.Reader.Code, y8 (rnumberS u0 u1).2.Reader.c.last, i6 (rnumberS u0 u1).2.Reader.c.n, i6 (rnumberS u0 u1).2.f.ID, .bool (rnumberS u0 u1).2.f.Long, .bool (rnumberS u0 u1).2.f.Fast, .bool (rnumberS u0 u1).2.f.Remote, i6 (rnumberS u0 u1).2.f.Size, .slice ao1001 (rnumberS u0 u1).2.f.Data.length cap1002] 61) :: Rr) Z' w' :=
  (rnumber_walk u0 u1 b1 ao2 cap3 B w0 Z0 Rr Z w hs4 hM0 hZ (rnumber_ok u0 u1 hpre)).mono fun _ _ ⟨r, h0, h1, h2, he, hk, f0, f1, hm⟩ => by subst hk; exact ⟨h0, h1, h2, he, f0, f1, hm⟩
theorem rnumber_funK (u0 : FReader) (u1 : Int) (hpre : Rok u0.Reader ∧ 0 ≤ u1 ∧ u1 ≤ 62) (b1 : Nat) (ao2 : Option Addr) (cap3 : Nat) (B : Nat) (w0 : World) (Z0 : Fz) (Rr : List Res) (Z : Fz) (w : World) (hs4 : SlR t8 Z ao2 cap3 u0.f.Data) (hM0 : Mem B [] w0 Z0 ((.row b1 [str u0.Reader.Row, i6 u0.Reader.At, i6 u0.Reader.Code, y8 u0.Reader.c.last, i6 u0.Reader.c.n, i6 u0.f.ID, .bool u0.f.Long, .bool u0.f.Fast, .bool u0.f.Remote, i6 u0.f.Size, .slice ao2 u0.f.Data.length cap3] 61) :: Rr) Z w) (hZ : Z.on w) : Calls Tryz.prog 33 #[pt b1 0, i6 u1] w fun e w' => ∃ (ao1001 : Option Addr) (cap1002 : Nat) (Z' : Fz), e = .returned (i6 (rnumberS u0 u1).1) ∧ Fz.le Z Z' ∧ SlR t8 Z' ao1001 cap1002 u0.f.Data ∧ Mem B [] w0 Z0 ((.row b1 [str (rnumberS u0 u1).2.Reader.Row, i6 (rnumberS u0 u1).2.Reader.At, i6 (rnumberS u0 u1).2.Reader.Code, y8 (rnumberS u0 u1).2.Reader.c.last, i6 (rnumberS u0 u1).2.Reader.c.n, i6 u0.f.ID, .bool u0.f.Long, .bool u0.f.Fast, .bool u0.f.Remote, i6 u0.f.Size, .slice ao1001 u0.f.Data.length cap1002] 61) :: Rr) Z' w' :=
  (rnumber_walk u0 u1 b1 ao2 cap3 B w0 Z0 Rr Z w hs4 hM0 hZ (rnumber_ok u0 u1 hpre)).mono fun _ _ ⟨r, h0, h1, h2, he, hk, f0, f1, hm⟩ => by subst hk; have hkp : (rnumberS u0 u1).2.f = u0.f := rnumberS_f u0 u1; (try simp only [hkp] at *); exact ⟨h0, h1, h2, he, f0, f1, hm⟩

theorem fhead_fun (u0 : Frame) (hpre : fheadpre u0) (ao1 : Option Addr) (cap2 : Nat) (Z : Fz) (w : World) (hs3 : SlR t8 Z ao1 cap2 u0.Data) (hZ : Z.on w) : Calls Tryz.prog 40 #[.agg #[i6 u0.ID, .bool u0.Long, .bool u0.Fast, .bool u0.Remote, i6 u0.Size, .slice ao1 u0.Data.length cap2]] w fun e w' => e = .returned (str (fheadS u0)) ∧ Below w.heap.size w w' :=
  (fhead_walk u0 ao1 cap2 Z w hs3 hZ (fhead_ok u0 hpre)).mono fun _ _ ⟨r, he, hk, hb⟩ => ⟨by subst hk; exact he, hb⟩

theorem fName_fun (u0 : Frame) (ao1 : Option Addr) (cap2 : Nat) (Z : Fz) (w : World) (hs3 : SlR t8 Z ao1 cap2 u0.Data) (hZ : Z.on w) : Calls Tryz.prog 15 #[.agg #[i6 u0.ID, .bool u0.Long, .bool u0.Fast, .bool u0.Remote, i6 u0.Size, .slice ao1 u0.Data.length cap2]] w fun e w' => e = .returned (.tuple #[str ((fNameS u0).1), i6 ((fNameS u0).2)]) ∧ Below w.heap.size w w' :=
  (fName_walk u0 ao1 cap2 Z w hs3 hZ (fName_ok u0)).mono fun _ _ ⟨r, he, hk, hb⟩ => ⟨by subst hk; exact he, hb⟩

end Go.Proofs.YtmbdcehmeiiaoaaGreatDoor
set_option linter.unusedVariables false
set_option linter.unusedSimpArgs false
set_option maxRecDepth 100000
set_option maxHeartbeats 0
namespace Go.Proofs.YtmbdcehmeiiaoaaGreatDoor
open Go.Sy Go.RowKit
theorem fBits_walk (u0 : Frame) (ao1 : Option Addr) (cap2 : Nat) (Z : Fz) (w : World) (hs3 : SlR t8 Z ao1 cap2 u0.Data) (hZ : Z.on w) {K : ((List UInt8) × Int) → Prop} (hp : fBits_vc u0 K) : Calls Tryz.prog 16 #[.agg #[i6 u0.ID, .bool u0.Long, .bool u0.Fast, .bool u0.Remote, i6 u0.Size, .slice ao1 u0.Data.length cap2]] w fun e w' => ∃ r : (List UInt8) × Int, e = .returned (.tuple #[str r.1, i6 r.2]) ∧ K r ∧ Below w.heap.size w w' := by
 refine enter0 Tryz.func16 rfl rfl (by kernel_rfl) ?_; intro a0 v; have x := Mem.start w Z hZ; have be := Fz.le.refl Z
 have k := hp (hs3.small); clear hp
 refine sqH ?_; intro aB y
 refine nw v x pb [i6 u0.ID, .bool u0.Long, .bool u0.Fast, .bool u0.Remote, i6 u0.Size, .slice ao1 u0.Data.length cap2] 24 ?_; intro b6 a7 bf z f; clear v x
 refine bt z f 2 [] [] [] ?_; intro bg A; clear z
 refine nlH (y _ _ ?_); clear y aB
 refine wp_seq ?_
 refine sqH ?_; intro aC B
 refine l2 A f 17 0 0 6 [i6 u0.ID, .bool u0.Long, .bool u0.Fast, .bool u0.Remote, i6 u0.Size, .slice ao1 u0.Data.length cap2] rfl rfl ?_; intro bh C; clear A
 refine fc C f (fcheckfr_fun u0 ao1 cap2 _ _ hs3 f.fz) ?_; intro bi bj D b; clear C f
 refine s1 D 4 (i6 (fcheckfr u0)) ?_; intro bk E; clear D
 refine nlH (B _ _ ?_); clear B aC
 refine sqB E b [] [] [(20, .bool ((fcheckfr u0) != 0))] ?_; intro bl g; clear E
 refine cd g (t := (fcheckfr u0) != 0) (by kernel_rfl) (fun p => ?_) (fun p => ?_)
 · -- yes
  have aD := k.1 p; clear k
  refine sqB g b [] [] [(2, str []), (3, i6 (fcheckfr u0))] ?_; intro bm aE; clear g
  refine wp_ret ?_
  refine thr ?_
  refine ra2 aE (.tuple #[str [], i6 (fcheckfr u0)]) ?_
  exact ⟨([], (fcheckfr u0)), rfl, aD, b.below⟩
 · -- no
  have aF := k.2 p; clear k
  refine wp_skip ?_
  refine thn ?_
  refine sqH ?_; intro aG F
  refine l2 g b 22 0 0 6 [i6 u0.ID, .bool u0.Long, .bool u0.Fast, .bool u0.Remote, i6 u0.Size, .slice ao1 u0.Data.length cap2] rfl rfl ?_; intro bn G; clear g
  obtain ⟨aH, l⟩ := aF
  refine fc G b (fhead_fun u0 aH ao1 cap2 _ _ hs3 b.fz) ?_; intro bo bp H c; clear G b
  refine s1 H 5 (str (fheadS u0)) ?_; intro bq I; clear H
  refine nlH (F _ _ ?_); clear F aG
  refine wp_seq ?_
  refine sqB I c [0] [] [(26, .bool (!u0.Fast))] ?_; intro br h; clear I
  refine cd h (t := !u0.Fast) (by kernel_rfl) (fun s => ?_) (fun s => ?_)
  · -- yes
   have aI := l.1 s; clear l
   refine sqH ?_; intro aJ J
   refine s1 h 28 (str (fheadS u0)) ?_; intro bs L; clear h
   refine fc L c (csum_fun 0 (fheadS u0) _ _ c.fz) ?_; intro bu bv M i; clear L c
   refine bt M i 5 [] [] [(6, str ((csumS 0 (fheadS u0)).1))] ?_; intro bw N; clear M
   refine nlH (J _ _ ?_); clear J aJ
   refine sqH ?_; intro aK O
   refine bt N i 2 [] [] [(33, str (fheadS u0)), (34, str ((csumS 0 (fheadS u0)).1))] ?_; intro bx P; clear N
   obtain ⟨aL, aM⟩ := aI
   refine sa P aL ?_; intro bz Q; clear P
   refine fc Q i (sput_fun ((fheadS u0) ++ ((csumS 0 (fheadS u0)).1)) _ _ i.fz) ?_; intro bA bB R u; clear Q i
   refine bt R u 5 [] [] [(8, str ((sputS ((fheadS u0) ++ ((csumS 0 (fheadS u0)).1))).1))] ?_; intro bC S; clear R
   refine nlH (O _ _ ?_); clear O aK
   refine sqH ?_; intro aN T
   refine s1 S 39 (str ((sputS ((fheadS u0) ++ ((csumS 0 (fheadS u0)).1))).1)) ?_; intro bD U; clear S
   obtain ⟨aO, aP⟩ := aM
   refine sa U aO ?_; intro bE V; clear U
   refine bt V u 2 [] [] [(2, str (((sputS ((fheadS u0) ++ ((csumS 0 (fheadS u0)).1))).1) ++ ([49, 49, 49, 49, 49, 49, 49, 49, 49, 49] : List UInt8))), (3, i6 0)] ?_; intro bF aQ; clear V
   refine nlH (T _ _ ?_); clear T aN
   refine wp_ret ?_
   refine thr ?_
   refine ra2 aQ (.tuple #[str (((sputS ((fheadS u0) ++ ((csumS 0 (fheadS u0)).1))).1) ++ ([49, 49, 49, 49, 49, 49, 49, 49, 49, 49] : List UInt8)), i6 0]) ?_
   exact ⟨(((sputS ((fheadS u0) ++ ((csumS 0 (fheadS u0)).1))).1) ++ ([49, 49, 49, 49, 49, 49, 49, 49, 49, 49] : List UInt8), 0), rfl, aP, u.below⟩
  · -- no
   have aR := l.2 s; clear l
   refine wp_skip ?_
   refine thn ?_
   refine sqH ?_; intro aS W
   refine s1 h 42 (str (fheadS u0)) ?_; intro bG X; clear h
   refine fc X c (sput_fun (fheadS u0) _ _ c.fz) ?_; intro bH bI Y j; clear X c
   refine bt Y j 5 [] [] [(10, str ((sputS (fheadS u0)).1))] ?_; intro bJ aa; clear Y
   refine nlH (W _ _ ?_); clear W aS
   refine sqH ?_; intro aT ab
   refine bt aa j 5 [] [] [(50, i6 (w64 ((((sputS (fheadS u0)).1).length : Int) - ((fheadS u0).length : Int))))] ?_; intro bK ac; clear aa
   obtain ⟨aU, aV⟩ := aR
   refine fc ac j (fcount_fun (w64 ((((sputS (fheadS u0)).1).length : Int) - ((fheadS u0).length : Int))) aU _ _ j.fz) ?_; intro bL bM ad m; clear ac j
   refine s1 ad 12 (str (fcountS (w64 ((((sputS (fheadS u0)).1).length : Int) - ((fheadS u0).length : Int))))) ?_; intro bN ae; clear ad
   refine nlH (ab _ _ ?_); clear ab aT
   refine sqH ?_; intro aW af
   refine l2 ae m 53 0 0 6 [i6 u0.ID, .bool u0.Long, .bool u0.Fast, .bool u0.Remote, i6 u0.Size, .slice ao1 u0.Data.length cap2] rfl rfl ?_; intro bO ag; clear ae
   refine fc ag m (fkind_fun u0 ao1 cap2 _ _ hs3 m.fz) ?_; intro bP bQ ah n; clear ag m
   refine bt ah n 2 [] [] [(55, str ((sputS (fheadS u0)).1)), (56, str (fcountS (w64 ((((sputS (fheadS u0)).1).length : Int) - ((fheadS u0).length : Int)))))] ?_; intro bR ai; clear ah
   obtain ⟨aX, aY⟩ := aV
   refine sa ai aX ?_; intro bS aj; clear ai
   refine fc aj n (csum_fun (fkind u0) (((sputS (fheadS u0)).1) ++ (fcountS (w64 ((((sputS (fheadS u0)).1).length : Int) - ((fheadS u0).length : Int))))) _ _ n.fz) ?_; intro bT bU ak d; clear aj n
   refine bt ak d 5 [] [] [(13, str ((csumS (fkind u0) (((sputS (fheadS u0)).1) ++ (fcountS (w64 ((((sputS (fheadS u0)).1).length : Int) - ((fheadS u0).length : Int)))))).1))] ?_; intro bV al; clear ak
   refine nlH (af _ _ ?_); clear af aW
   refine sqH ?_; intro aZ am
   refine bt al d 2 [] [] [(62, str (fcountS (w64 ((((sputS (fheadS u0)).1).length : Int) - ((fheadS u0).length : Int))))), (63, str ((csumS (fkind u0) (((sputS (fheadS u0)).1) ++ (fcountS (w64 ((((sputS (fheadS u0)).1).length : Int) - ((fheadS u0).length : Int)))))).1))] ?_; intro bW an; clear al
   obtain ⟨a1, a2⟩ := aY
   refine sa an a1 ?_; intro bX ao; clear an
   refine bt ao d 4 [] [] [(65, str ((sputS (fheadS u0)).1)), (68, i6 (w64 ((((sputS (fheadS u0)).1).length : Int) - 1)))] ?_; intro bY ap; clear ao
   obtain ⟨a3, a4⟩ := a2
   obtain ⟨a, aq⟩ : ∃ q, ((sputS (fheadS u0)).1)[(w64 ((((sputS (fheadS u0)).1).length : Int) - 1)).toNat]? = some q := ⟨_, List.getElem?_eq_getElem (by omega)⟩; have a5 := a4 a aq
   refine si ap .i64 a3.1 aq ?_; intro bZ ar; clear ap
   refine fc ar d (sfixed_fun ((fcountS (w64 ((((sputS (fheadS u0)).1).length : Int) - ((fheadS u0).length : Int)))) ++ ((csumS (fkind u0) (((sputS (fheadS u0)).1) ++ (fcountS (w64 ((((sputS (fheadS u0)).1).length : Int) - ((fheadS u0).length : Int)))))).1)) (a.toNat : Int) _ _ d.fz) ?_; intro b0 b1 au o; clear ar d
   refine bt au o 5 [] [] [(15, str ((sfixedS ((fcountS (w64 ((((sputS (fheadS u0)).1).length : Int) - ((fheadS u0).length : Int)))) ++ ((csumS (fkind u0) (((sputS (fheadS u0)).1) ++ (fcountS (w64 ((((sputS (fheadS u0)).1).length : Int) - ((fheadS u0).length : Int)))))).1)) (a.toNat : Int)).1))] ?_; intro a6 av; clear au
   refine nlH (am _ _ ?_); clear am aZ
   have aw : Fr 77 [] [⟨10, [], str ((sputS (fheadS u0)).1)⟩, ⟨15, [], str ((sfixedS ((fcountS (w64 ((((sputS (fheadS u0)).1).length : Int) - ((fheadS u0).length : Int)))) ++ ((csumS (fkind u0) (((sputS (fheadS u0)).1) ++ (fcountS (w64 ((((sputS (fheadS u0)).1).length : Int) - ((fheadS u0).length : Int)))))).1)) (a.toNat : Int)).1)⟩] a6 := av.region (by kernel_rfl) (by kernel_rfl); clear av
   refine sqH ?_; intro a8 ax
   refine bt aw o 2 [] [] [(73, str ((sputS (fheadS u0)).1)), (74, str ((sfixedS ((fcountS (w64 ((((sputS (fheadS u0)).1).length : Int) - ((fheadS u0).length : Int)))) ++ ((csumS (fkind u0) (((sputS (fheadS u0)).1) ++ (fcountS (w64 ((((sputS (fheadS u0)).1).length : Int) - ((fheadS u0).length : Int)))))).1)) (a.toNat : Int)).1))] ?_; intro b2 ay; clear aw
   obtain ⟨a9, ba⟩ := a5
   refine sa ay a9 ?_; intro b3 az; clear ay
   obtain ⟨bb, bc⟩ := ba
   refine sa az bb ?_; intro b4 aA; clear az
   refine bt aA o 2 [] [] [(2, str ((((sputS (fheadS u0)).1) ++ ((sfixedS ((fcountS (w64 ((((sputS (fheadS u0)).1).length : Int) - ((fheadS u0).length : Int)))) ++ ((csumS (fkind u0) (((sputS (fheadS u0)).1) ++ (fcountS (w64 ((((sputS (fheadS u0)).1).length : Int) - ((fheadS u0).length : Int)))))).1)) (a.toNat : Int)).1)) ++ ([49, 49, 49, 49, 49, 49, 49, 49, 49, 49] : List UInt8))), (3, i6 0)] ?_; intro b5 bd; clear aA
   refine nlH (ax _ _ ?_); clear ax a8
   refine wp_ret ?_
   refine ra2 bd (.tuple #[str ((((sputS (fheadS u0)).1) ++ ((sfixedS ((fcountS (w64 ((((sputS (fheadS u0)).1).length : Int) - ((fheadS u0).length : Int)))) ++ ((csumS (fkind u0) (((sputS (fheadS u0)).1) ++ (fcountS (w64 ((((sputS (fheadS u0)).1).length : Int) - ((fheadS u0).length : Int)))))).1)) (a.toNat : Int)).1)) ++ ([49, 49, 49, 49, 49, 49, 49, 49, 49, 49] : List UInt8)), i6 0]) ?_
   exact ⟨((((sputS (fheadS u0)).1) ++ ((sfixedS ((fcountS (w64 ((((sputS (fheadS u0)).1).length : Int) - ((fheadS u0).length : Int)))) ++ ((csumS (fkind u0) (((sputS (fheadS u0)).1) ++ (fcountS (w64 ((((sputS (fheadS u0)).1).length : Int) - ((fheadS u0).length : Int)))))).1)) (a.toNat : Int)).1)) ++ ([49, 49, 49, 49, 49, 49, 49, 49, 49, 49] : List UInt8), 0), rfl, bc, o.below⟩

end Go.Proofs.YtmbdcehmeiiaoaaGreatDoor
set_option linter.unusedVariables false
set_option linter.unusedSimpArgs false
namespace Go.Proofs.YtmbdcehmeiiaoaaGreatDoor
open Go.Sy Go.RowKit
theorem fBits_fun (u0 : Frame) (hpre : ∀ x ∈ u0.Data, 0 ≤ x ∧ x ≤ 255) (ao1 : Option Addr) (cap2 : Nat) (Z : Fz) (w : World) (hs3 : SlR t8 Z ao1 cap2 u0.Data) (hZ : Z.on w) : Calls Tryz.prog 16 #[.agg #[i6 u0.ID, .bool u0.Long, .bool u0.Fast, .bool u0.Remote, i6 u0.Size, .slice ao1 u0.Data.length cap2]] w fun e w' => e = .returned (.tuple #[str ((BitsS u0).1), i6 ((BitsS u0).2)]) ∧ Below w.heap.size w w' :=
  (fBits_walk u0 ao1 cap2 Z w hs3 hZ (fBits_ok u0 hpre)).mono fun _ _ ⟨r, he, hk, hb⟩ => ⟨by subst hk; exact he, hb⟩

end Go.Proofs.YtmbdcehmeiiaoaaGreatDoor
set_option linter.unusedVariables false
set_option linter.unusedSimpArgs false
set_option maxRecDepth 100000
set_option maxHeartbeats 0
namespace Go.Proofs.YtmbdcehmeiiaoaaGreatDoor
open Go.Sy Go.RowKit
theorem rnames_walk (u0 : FReader) (b1 : Nat) (ao2 : Option Addr) (cap3 : Nat) (B : Nat) (w0 : World) (Z0 : Fz) (Rr : List Res) (Z : Fz) (w : World) (hs4 : SlR t8 Z ao2 cap3 u0.f.Data) (hM0 : Mem B [] w0 Z0 ((.row b1 [str u0.Reader.Row, i6 u0.Reader.At, i6 u0.Reader.Code, y8 u0.Reader.c.last, i6 u0.Reader.c.n, i6 u0.f.ID, .bool u0.f.Long, .bool u0.f.Fast, .bool u0.f.Remote, i6 u0.f.Size, .slice ao2 u0.f.Data.length cap3] 61) :: Rr) Z w) (hZ : Z.on w) {K : FReader → Prop} (hp : rnames_vc u0 K) : Calls Tryz.prog 32 #[pt b1 0] w fun e w' => ∃ (r : FReader) (ao1001 : Option Addr) (cap1002 : Nat) (Z' : Fz), e = .returned (.tuple #[]) ∧ K r ∧ Fz.le Z Z' ∧ SlR t8 Z' ao1001 cap1002 r.f.Data ∧ Mem B [] w0 Z0 ((.row b1 [str r.Reader.Row, i6 r.Reader.At, i6 r.Reader.Code, y8 r.Reader.c.last, i6 r.Reader.c.n, i6 r.f.ID, .bool r.f.Long, .bool r.f.Fast, .bool r.f.Remote, i6 r.f.Size, .slice ao1001 r.f.Data.length cap1002] 61) :: Rr) Z' w' := by
 refine enter0 Tryz.func32 rfl rfl (by kernel_rfl) ?_; intro a0 cu; have k := Fz.le.refl Z
 have eK := hp (hs4.small); clear hp
 refine sqH ?_; intro eL cv
 refine s1 cu 3 (pt b1 0) ?_; intro a7 cw; clear cu
 obtain ⟨eM, cx⟩ := eK
 refine ck cw 66 #[pt b1 0, str ([48] : List UInt8)] ?_
 obtain ⟨ay, eN, cy⟩ := hxq cx; clear cx
 have m := rwant_fun u0 ([48] : List UInt8) eM b1 ao2 cap3 _ _ _ _ _ _ hs4 hM0 hM0.fz; rw [eN] at m; refine m.mono ?_; clear m; rintro _ eO ⟨cz, cA, eP, rfl, cB, az, hm⟩; refine ⟨_, rfl, ?_⟩; intro g0 cC; have cD := hm; clear hm hM0 cw
 replace hs4 := hs4.mono cB
 replace k := Fz.le.trans k cB
 have bG : Mem B [] w0 Z0 ((.row b1 [str ay.Reader.Row, i6 ay.Reader.At, i6 ay.Reader.Code, y8 ay.Reader.c.last, i6 ay.Reader.c.n, i6 ay.f.ID, .bool ay.f.Long, .bool ay.f.Fast, .bool ay.f.Remote, i6 ay.f.Size, .slice cz ay.f.Data.length cA] 61) :: Rr) eP eO := cD; clear cD
 have eQ := cy (az.small); clear cy
 refine nlH (cv _ _ ?_); clear cv eL
 refine sqH ?_; intro eR cE
 refine bt cC bG 2 [] [] [(5, pt b1 0), (6, pt b1 0)] ?_; intro g1 cF; clear cC
 obtain ⟨eS, cG⟩ := eQ
 refine ck cF 33 #[pt b1 0, i6 11] ?_
 obtain ⟨q, eT, cH⟩ := hxq cG; clear cG
 have m := rnumber_fun ay 11 eS b1 cz cA _ _ _ _ _ _ az bG bG.fz; rw [eT] at m; refine m.mono ?_; clear m; rintro _ eU ⟨bH, bI, cI, rfl, b3, aP, hm⟩; refine ⟨_, rfl, ?_⟩; intro g2 cJ; have cK := hm; clear hm bG cF
 replace hs4 := hs4.mono b3
 replace az := az.mono b3
 replace k := Fz.le.trans k b3
 have b4 : Mem B [] w0 Z0 ((.row b1 [str q.2.Reader.Row, i6 q.2.Reader.At, i6 q.2.Reader.Code, y8 q.2.Reader.c.last, i6 q.2.Reader.c.n, i6 q.2.f.ID, .bool q.2.f.Long, .bool q.2.f.Fast, .bool q.2.f.Remote, i6 q.2.f.Size, .slice bH q.2.f.Data.length bI] 61) :: Rr) cI eU := cK; clear cK
 have eV := cH (aP.small); clear cH
 refine bt cJ b4 3 [] [] [(10, pt b1 5)] ?_; intro g3 b5; clear cJ
 refine sx b5 b4 0 [str q.2.Reader.Row, i6 q.2.Reader.At, i6 q.2.Reader.Code, y8 q.2.Reader.c.last, i6 q.2.Reader.c.n, i6 q.1, .bool q.2.f.Long, .bool q.2.f.Fast, .bool q.2.f.Remote, i6 q.2.f.Size, .slice bH q.2.f.Data.length bI] 5 ?_; intro eW cL; clear b4
 have bJ : Mem B [] w0 Z0 ((.row b1 [str q.2.Reader.Row, i6 q.2.Reader.At, i6 q.2.Reader.Code, y8 q.2.Reader.c.last, i6 q.2.Reader.c.n, i6 q.1, .bool q.2.f.Long, .bool q.2.f.Fast, .bool q.2.f.Remote, i6 q.2.f.Size, .slice bH q.2.f.Data.length bI] 61) :: Rr) cI eW := cL; clear cL
 refine nlH (cE _ _ ?_); clear cE eR
 refine sqH ?_; intro eX cM
 refine bt b5 bJ 3 [] [] [(13, pt b1 0)] ?_; intro g4 cN; clear b5
 obtain ⟨eY, cO⟩ := eV
 refine ck cN 36 #[pt b1 0, i6 1] ?_
 obtain ⟨O, eZ, cP⟩ := hxq cO; clear cO
 have m := rtakeF_fun (⟨q.2.Reader, (⟨q.1, q.2.f.Long, q.2.f.Fast, q.2.f.Remote, q.2.f.Size, q.2.f.Data⟩ : Frame)⟩ : FReader) 1 eY b1 bH bI _ _ _ _ _ _ aP bJ bJ.fz; rw [eZ] at m; refine m.mono ?_; clear m; rintro _ e0 ⟨cQ, cR, e1, rfl, bK, a3, hm⟩; refine ⟨_, rfl, ?_⟩; intro g5 cS; have cT := hm; clear hm bJ cN
 replace hs4 := hs4.mono bK
 replace az := az.mono bK
 replace aP := aP.mono bK
 replace k := Fz.le.trans k bK
 have bx : Mem B [] w0 Z0 ((.row b1 [str O.2.Reader.Row, i6 O.2.Reader.At, i6 O.2.Reader.Code, y8 O.2.Reader.c.last, i6 O.2.Reader.c.n, i6 O.2.f.ID, .bool O.2.f.Long, .bool O.2.f.Fast, .bool O.2.f.Remote, i6 O.2.f.Size, .slice cQ O.2.f.Data.length cR] 61) :: Rr) e1 e0 := cT; clear cT
 have e2 := cP (a3.small); clear cP
 refine bt cS bx 2 [] [112] [(2, .bool (O.1 == ([49] : List UInt8)))] ?_; intro g6 cU; clear cS
 refine nlH (cM _ _ ?_); clear cM eX
 refine sqH ?_; intro e3 cV
 refine bt cU bx 4 [] [] [(16, pt b1 0), (19, pt b1 0)] ?_; intro g7 cW; clear cU
 obtain ⟨e4, cX⟩ := e2
 refine ck cW 36 #[pt b1 0, i6 1] ?_
 obtain ⟨g, e5, cY⟩ := hxq cX; clear cX
 have m := rtakeF_fun O.2 1 e4 b1 cQ cR _ _ _ _ _ _ a3 bx bx.fz; rw [e5] at m; refine m.mono ?_; clear m; rintro _ e6 ⟨a4, a5, aX, rfl, bz, a6, hm⟩; refine ⟨_, rfl, ?_⟩; intro g8 cZ; have c0 := hm; clear hm bx cW
 replace hs4 := hs4.mono bz
 replace az := az.mono bz
 replace aP := aP.mono bz
 replace a3 := a3.mono bz
 replace k := Fz.le.trans k bz
 have b6 : Mem B [] w0 Z0 ((.row b1 [str g.2.Reader.Row, i6 g.2.Reader.At, i6 g.2.Reader.Code, y8 g.2.Reader.c.last, i6 g.2.Reader.c.n, i6 g.2.f.ID, .bool g.2.f.Long, .bool g.2.f.Fast, .bool g.2.f.Remote, i6 g.2.f.Size, .slice a4 g.2.f.Data.length a5] 61) :: Rr) aX e6 := c0; clear c0
 have e7 := cY (a6.small); clear cY
 refine bt cZ b6 4 [] [118] [(21, .bool (g.1 == ([49] : List UInt8))), (24, pt b1 6)] ?_; intro g9 b7; clear cZ
 refine sx b7 b6 0 [str g.2.Reader.Row, i6 g.2.Reader.At, i6 g.2.Reader.Code, y8 g.2.Reader.c.last, i6 g.2.Reader.c.n, i6 g.2.f.ID, .bool (g.1 == ([49] : List UInt8)), .bool g.2.f.Fast, .bool g.2.f.Remote, i6 g.2.f.Size, .slice a4 g.2.f.Data.length a5] 6 ?_; intro e8 c1; clear b6
 have b8 : Mem B [] w0 Z0 ((.row b1 [str g.2.Reader.Row, i6 g.2.Reader.At, i6 g.2.Reader.Code, y8 g.2.Reader.c.last, i6 g.2.Reader.c.n, i6 g.2.f.ID, .bool (g.1 == ([49] : List UInt8)), .bool g.2.f.Fast, .bool g.2.f.Remote, i6 g.2.f.Size, .slice a4 g.2.f.Data.length a5] 61) :: Rr) aX e8 := c1; clear c1
 refine nlH (cV _ _ ?_); clear cV e3
 refine sqH ?_; intro e9 c2
 refine bt b7 b8 5 [] [] [(26, .bool (O.1 == ([49] : List UInt8))), (29, pt b1 8)] ?_; intro ha b9; clear b7
 refine sx b9 b8 0 [str g.2.Reader.Row, i6 g.2.Reader.At, i6 g.2.Reader.Code, y8 g.2.Reader.c.last, i6 g.2.Reader.c.n, i6 g.2.f.ID, .bool (g.1 == ([49] : List UInt8)), .bool g.2.f.Fast, .bool (O.1 == ([49] : List UInt8)), i6 g.2.f.Size, .slice a4 g.2.f.Data.length a5] 8 ?_; intro fa c3; clear b8
 have aY : Mem B [] w0 Z0 ((.row b1 [str g.2.Reader.Row, i6 g.2.Reader.At, i6 g.2.Reader.Code, y8 g.2.Reader.c.last, i6 g.2.Reader.c.n, i6 g.2.f.ID, .bool (g.1 == ([49] : List UInt8)), .bool g.2.f.Fast, .bool (O.1 == ([49] : List UInt8)), i6 g.2.f.Size, .slice a4 g.2.f.Data.length a5] 61) :: Rr) aX fa := c3; clear c3
 refine nlH (c2 _ _ ?_); clear c2 e9
 refine wp_seq ?_
 refine sqB b9 aY [0] [] [(34, .bool (g.1 == ([49] : List UInt8)))] ?_; intro c4 c5; clear b9
 have c6 : Fr 97 [] [⟨0, [], pt b1 0⟩, ⟨2, [], .bool (O.1 == ([49] : List UInt8))⟩, ⟨34, [], .bool (g.1 == ([49] : List UInt8))⟩] c4 := c5.reg; clear c5
 have bA : Fr 97 [] [⟨0, [], pt b1 0⟩, ⟨2, [], .bool (O.1 == ([49] : List UInt8))⟩, ⟨34, [], .bool (g.1 == ([49] : List UInt8))⟩] c4 := c6.reg; clear c6
 obtain ⟨fb, bL, fc⟩ := e7
 refine wp_then_k fun KJ152 hKJ153 => ?_
 have c7 : ∀ (U : FReader) (bM : Option Addr) (bN : Nat) (bO : Fz), fb U ∧ SlR t8 bO bM bN U.f.Data ∧ Fz.le aX bO → ∀ a1 w1, Fr 97 [] [⟨0, [], pt b1 0⟩] a1 → Mem B [] w0 Z0 ((.row b1 [str U.Reader.Row, i6 U.Reader.At, i6 U.Reader.Code, y8 U.Reader.c.last, i6 U.Reader.c.n, i6 U.f.ID, .bool U.f.Long, .bool U.f.Fast, .bool U.f.Remote, i6 U.f.Size, .slice bM U.f.Data.length bN] 61) :: Rr) bO w1 → KJ152 a1 w1 := by
  rintro U bM bN bO ⟨fd, a8, ap⟩ hb hc c8 bP; clear bA aY
  refine hKJ153 _ _ ?_; clear hKJ153
  have fe := fc U fd
  replace k := Fz.le.trans k ap
  have bc := hs4.mono ap
  have bd := az.mono ap
  have be := aP.mono ap
  have bf := a3.mono ap
  have bg := a6.mono ap
  refine sqH ?_; intro fg c9
  refine bt c8 bP 4 [] [] [(61, pt b1 0), (64, pt b1 0)] ?_; intro hd da; clear c8
  obtain ⟨fh, db⟩ := fe
  refine ck da 36 #[pt b1 0, i6 1] ?_
  obtain ⟨j, fi, dc⟩ := hxq db; clear db
  have m := rtakeF_fun U 1 fh b1 bM bN _ _ _ _ _ _ a8 bP bP.fz; rw [fi] at m; refine m.mono ?_; clear m; rintro _ fj ⟨bh, bi, bl, rfl, a9, aQ, hm⟩; refine ⟨_, rfl, ?_⟩; intro he dd; have de := hm; clear hm bP da
  replace bc := bc.mono a9
  replace bd := bd.mono a9
  replace be := be.mono a9
  replace bf := bf.mono a9
  replace bg := bg.mono a9
  replace a8 := a8.mono a9
  replace ap := ap.mono a9
  replace k := Fz.le.trans k a9
  have ca : Mem B [] w0 Z0 ((.row b1 [str j.2.Reader.Row, i6 j.2.Reader.At, i6 j.2.Reader.Code, y8 j.2.Reader.c.last, i6 j.2.Reader.c.n, i6 j.2.f.ID, .bool j.2.f.Long, .bool j.2.f.Fast, .bool j.2.f.Remote, i6 j.2.f.Size, .slice bh j.2.f.Data.length bi] 61) :: Rr) bl fj := de; clear de
  have bQ := dc (aQ.small); clear dc
  refine bt dd ca 4 [] [163] [(66, .bool (j.1 == ([49] : List UInt8))), (69, pt b1 7)] ?_; intro hf cb; clear dd
  refine sx cb ca 0 [str j.2.Reader.Row, i6 j.2.Reader.At, i6 j.2.Reader.Code, y8 j.2.Reader.c.last, i6 j.2.Reader.c.n, i6 j.2.f.ID, .bool j.2.f.Long, .bool (j.1 == ([49] : List UInt8)), .bool j.2.f.Remote, i6 j.2.f.Size, .slice bh j.2.f.Data.length bi] 7 ?_; intro fk df; clear ca
  have aA : Mem B [] w0 Z0 ((.row b1 [str j.2.Reader.Row, i6 j.2.Reader.At, i6 j.2.Reader.Code, y8 j.2.Reader.c.last, i6 j.2.Reader.c.n, i6 j.2.f.ID, .bool j.2.f.Long, .bool (j.1 == ([49] : List UInt8)), .bool j.2.f.Remote, i6 j.2.f.Size, .slice bh j.2.f.Data.length bi] 61) :: Rr) bl fk := df; clear df
  refine nlH (c9 _ _ ?_); clear c9 fg
  refine wp_block ?_
  refine sqB cb aA [0] [] [(70, .bool (j.1 == ([49] : List UInt8)))] ?_; intro hg bB; clear cb
  refine cd bB (t := j.1 == ([49] : List UInt8)) (by kernel_rfl) (fun cc => ?_) (fun cc => ?_)
  ·
   have fl := bQ.1 cc; clear bQ
   refine wp_seq ?_
   refine sqB bB aA [0] [] [(80, .bool j.2.f.Remote)] ?_; intro dg dh; clear bB
   have di : Fr 97 [] [⟨0, [], pt b1 0⟩, ⟨80, [], .bool j.2.f.Remote⟩] dg := dh.reg; clear dh
   have bC : Fr 97 [] [⟨0, [], pt b1 0⟩, ⟨80, [], .bool j.2.f.Remote⟩] dg := di.reg; clear di
   obtain ⟨fm, bR, fo⟩ := fl
   refine wp_then_k fun KJ234 hKJ235 => ?_
   have dj : ∀ (b : FReader) (aq : Option Addr) (ar : Nat) (bS : Fz), fm b ∧ SlR t8 bS aq ar b.f.Data ∧ Fz.le bl bS → ∀ a1 w1, Fr 97 [] [⟨0, [], pt b1 0⟩] a1 → Mem B [] w0 Z0 ((.row b1 [str b.Reader.Row, i6 b.Reader.At, i6 b.Reader.Code, y8 b.Reader.c.last, i6 b.Reader.c.n, i6 b.f.ID, .bool b.f.Long, .bool b.f.Fast, .bool b.f.Remote, i6 b.f.Size, .slice aq b.f.Data.length ar] 61) :: Rr) bS w1 → KJ234 a1 w1 := by
    rintro b aq ar bS ⟨fp, P, ag⟩ hh hj dk ce; clear bC aA
    refine hKJ235 _ _ ?_; clear hKJ235
    have fq := fo b fp
    replace k := Fz.le.trans k ag
    have bm := bc.mono ag
    have bn := bd.mono ag
    have bo := be.mono ag
    have bp := bf.mono ag
    have bq := bg.mono ag
    have br := a8.mono ag
    have bs := ap.mono ag
    have bu := aQ.mono ag
    refine sqH ?_; intro fr dl
    refine s1 dk 83 (pt b1 0) ?_; intro hk dm; clear dk
    obtain ⟨fs, dn⟩ := fq
    refine ck dm 66 #[pt b1 0, str ([48] : List UInt8)] ?_
    obtain ⟨aB, ft, dp⟩ := hxq dn; clear dn
    have m := rwant_fun b ([48] : List UInt8) fs b1 aq ar _ _ _ _ _ _ P ce ce.fz; rw [ft] at m; refine m.mono ?_; clear m; rintro _ fu ⟨dq, dr, fv, rfl, aL, bv, hm⟩; refine ⟨_, rfl, ?_⟩; intro hl ds; have dt := hm; clear hm ce dm
    replace bm := bm.mono aL
    replace bn := bn.mono aL
    replace bo := bo.mono aL
    replace bp := bp.mono aL
    replace bq := bq.mono aL
    replace br := br.mono aL
    replace bs := bs.mono aL
    replace bu := bu.mono aL
    replace P := P.mono aL
    replace ag := ag.mono aL
    replace k := Fz.le.trans k aL
    have cf : Mem B [] w0 Z0 ((.row b1 [str aB.Reader.Row, i6 aB.Reader.At, i6 aB.Reader.Code, y8 aB.Reader.c.last, i6 aB.Reader.c.n, i6 aB.f.ID, .bool aB.f.Long, .bool aB.f.Fast, .bool aB.f.Remote, i6 aB.f.Size, .slice dq aB.f.Data.length dr] 61) :: Rr) fv fu := dt; clear dt
    have fw := dp (bv.small); clear dp
    refine nlH (dl _ _ ?_); clear dl fr
    refine sqH ?_; intro fx du
    refine s1 ds 85 (pt b1 0) ?_; intro hn dv; clear ds
    obtain ⟨fy, dw⟩ := fw
    refine ck dv 66 #[pt b1 0, str ([49] : List UInt8)] ?_
    obtain ⟨aC, fA, dx⟩ := hxq dw; clear dw
    have m := rwant_fun aB ([49] : List UInt8) fy b1 dq dr _ _ _ _ _ _ bv cf cf.fz; rw [fA] at m; refine m.mono ?_; clear m; rintro _ fB ⟨dy, dz, fC, rfl, aD, bT, hm⟩; refine ⟨_, rfl, ?_⟩; intro ho dA; have dB := hm; clear hm cf dv
    replace bm := bm.mono aD
    replace bn := bn.mono aD
    replace bo := bo.mono aD
    replace bp := bp.mono aD
    replace bq := bq.mono aD
    replace br := br.mono aD
    replace bs := bs.mono aD
    replace bu := bu.mono aD
    replace P := P.mono aD
    replace ag := ag.mono aD
    replace bv := bv.mono aD
    replace k := Fz.le.trans k aD
    have cg : Mem B [] w0 Z0 ((.row b1 [str aC.Reader.Row, i6 aC.Reader.At, i6 aC.Reader.Code, y8 aC.Reader.c.last, i6 aC.Reader.c.n, i6 aC.f.ID, .bool aC.f.Long, .bool aC.f.Fast, .bool aC.f.Remote, i6 aC.f.Size, .slice dy aC.f.Data.length dz] 61) :: Rr) fC fB := dB; clear dB
    have fD := dx (bT.small); clear dx
    refine nlH (du _ _ ?_); clear du fx
    refine rgH ?_; intro fE dC
    refine s1 dA 87 (pt b1 0) ?_; intro hq dD; clear dA
    obtain ⟨fF, dE⟩ := fD
    refine ck dD 66 #[pt b1 0, str ([48] : List UInt8)] ?_
    obtain ⟨aE, fG, dF⟩ := hxq dE; clear dE
    have m := rwant_fun aC ([48] : List UInt8) fF b1 dy dz _ _ _ _ _ _ bT cg cg.fz; rw [fG] at m; refine m.mono ?_; clear m; rintro _ fH ⟨dG, dH, dI, rfl, au, dJ, hm⟩; refine ⟨_, rfl, ?_⟩; intro hr dK; have dL := hm; clear hm cg dD
    replace bm := bm.mono au
    replace bn := bn.mono au
    replace bo := bo.mono au
    replace bp := bp.mono au
    replace bq := bq.mono au
    replace br := br.mono au
    replace bs := bs.mono au
    replace bu := bu.mono au
    replace P := P.mono au
    replace ag := ag.mono au
    replace bv := bv.mono au
    replace bT := bT.mono au
    replace k := Fz.le.trans k au
    have fI : Mem B [] w0 Z0 ((.row b1 [str aE.Reader.Row, i6 aE.Reader.At, i6 aE.Reader.Code, y8 aE.Reader.c.last, i6 aE.Reader.c.n, i6 aE.f.ID, .bool aE.f.Long, .bool aE.f.Fast, .bool aE.f.Remote, i6 aE.f.Size, .slice dG aE.f.Data.length dH] 61) :: Rr) dI fH := dL; clear dL
    have fJ := dF (dJ.small); clear dF
    refine nlH (dC _ _ ?_); clear dC fE
    refine ibn ?_
    refine rN (fn := Tryz.f32) (v := .tuple #[]) dK (re0 dK (fn := Tryz.f32) rfl) ?_
    exact ⟨aE, dG, dH, dI, rfl, fJ, k, dJ, fI.keep (List.Sublist.cons_cons _ (List.Sublist.refl _))⟩
   have bU := Fz.le.refl bl
   refine cd bC (t := j.2.f.Remote) (by kernel_rfl) (fun ch => ?_) (fun ch => ?_)
   ·
    have dM := bR.1 ch; clear bR
    refine rgH ?_; intro fK dN
    refine s1 bC 81 (pt b1 0) ?_; intro ht dO; clear bC
    refine ck dO 34 #[pt b1 0, i6 4] ?_
    obtain ⟨aF, fL, dP⟩ := hxq dM; clear dM
    have m := rfail_fun (⟨j.2.Reader, (⟨j.2.f.ID, j.2.f.Long, j.1 == ([49] : List UInt8), j.2.f.Remote, j.2.f.Size, j.2.f.Data⟩ : Frame)⟩ : FReader) 4 b1 bh bi _ _ _ _ _ _ aQ aA aA.fz; rw [fL] at m; refine m.mono ?_; clear m; rintro _ fM ⟨dQ, dR, dS, rfl, aR, dT, hm⟩; refine ⟨_, rfl, ?_⟩; intro hu fN; have dU := hm; clear hm aA dO
    replace bc := bc.mono aR
    replace bd := bd.mono aR
    replace be := be.mono aR
    replace bf := bf.mono aR
    replace bg := bg.mono aR
    replace a8 := a8.mono aR
    replace ap := ap.mono aR
    replace aQ := aQ.mono aR
    replace bU := bU.mono aR
    replace k := Fz.le.trans k aR
    have fO : Mem B [] w0 Z0 ((.row b1 [str aF.Reader.Row, i6 aF.Reader.At, i6 aF.Reader.Code, y8 aF.Reader.c.last, i6 aF.Reader.c.n, i6 aF.f.ID, .bool aF.f.Long, .bool aF.f.Fast, .bool aF.f.Remote, i6 aF.f.Size, .slice dQ aF.f.Data.length dR] 61) :: Rr) dS fM := dU; clear dU
    have fP := dP (dT.small); clear dP
    refine nlH (dN _ _ ?_); clear dN fK
    refine rd ?_
    exact dj aF dQ dR dS ⟨fP, dT, bU⟩ _ _ ((fN.reg).anyβ _ (by kernel_rfl)) (fO.keep (List.Sublist.cons_cons _ (List.Sublist.refl _)))
   have fQ := bR.2 ch; clear bR
   refine wp_skip ?_
   refine rd ?_
   exact dj (⟨j.2.Reader, (⟨j.2.f.ID, j.2.f.Long, j.1 == ([49] : List UInt8), j.2.f.Remote, j.2.f.Size, j.2.f.Data⟩ : Frame)⟩ : FReader) bh bi bl ⟨fQ, aQ, bU⟩ _ _ ((bC.reg).anyβ _ (by kernel_rfl)) (aA.keep (List.Sublist.cons_cons _ (List.Sublist.refl _)))
  have bV := bQ.2 cc; clear bQ
  refine sqB bB aA [0] [] [(89, .bool j.2.f.Long)] ?_; intro hv bD; clear bB
  refine cd bD (t := j.2.f.Long) (by kernel_rfl) (fun ci => ?_) (fun ci => ?_)
  ·
   have fR := bV.1 ci; clear bV
   refine rgH ?_; intro fS dV
   refine s1 bD 95 (pt b1 0) ?_; intro hw dW; clear bD
   obtain ⟨fT, dX⟩ := fR
   refine ck dW 66 #[pt b1 0, str ([48] : List UInt8)] ?_
   obtain ⟨aG, fU, dY⟩ := hxq dX; clear dX
   have m := rwant_fun (⟨j.2.Reader, (⟨j.2.f.ID, j.2.f.Long, j.1 == ([49] : List UInt8), j.2.f.Remote, j.2.f.Size, j.2.f.Data⟩ : Frame)⟩ : FReader) ([48] : List UInt8) fT b1 bh bi _ _ _ _ _ _ aQ aA aA.fz; rw [fU] at m; refine m.mono ?_; clear m; rintro _ fV ⟨dZ, d0, d1, rfl, aZ, d2, hm⟩; refine ⟨_, rfl, ?_⟩; intro hx d3; have d4 := hm; clear hm aA dW
   replace bc := bc.mono aZ
   replace bd := bd.mono aZ
   replace be := be.mono aZ
   replace bf := bf.mono aZ
   replace bg := bg.mono aZ
   replace a8 := a8.mono aZ
   replace ap := ap.mono aZ
   replace aQ := aQ.mono aZ
   replace k := Fz.le.trans k aZ
   have fW : Mem B [] w0 Z0 ((.row b1 [str aG.Reader.Row, i6 aG.Reader.At, i6 aG.Reader.Code, y8 aG.Reader.c.last, i6 aG.Reader.c.n, i6 aG.f.ID, .bool aG.f.Long, .bool aG.f.Fast, .bool aG.f.Remote, i6 aG.f.Size, .slice dZ aG.f.Data.length d0] 61) :: Rr) d1 fV := d4; clear d4
   have fX := dY (d2.small); clear dY
   refine nlH (dV _ _ ?_); clear dV fS
   refine ibn ?_
   refine rN (fn := Tryz.f32) (v := .tuple #[]) d3 (re0 d3 (fn := Tryz.f32) rfl) ?_
   exact ⟨aG, dZ, d0, d1, rfl, fX, k, d2, fW.keep (List.Sublist.cons_cons _ (List.Sublist.refl _))⟩
  have fY := bV.2 ci; clear bV
  refine wp_skip ?_
  refine ibn ?_
  refine rN (fn := Tryz.f32) (v := .tuple #[]) bD (re0 bD (fn := Tryz.f32) rfl) ?_
  exact ⟨(⟨j.2.Reader, (⟨j.2.f.ID, j.2.f.Long, j.1 == ([49] : List UInt8), j.2.f.Remote, j.2.f.Size, j.2.f.Data⟩ : Frame)⟩ : FReader), bh, bi, bl, rfl, fY, k, aQ, aA.keep (List.Sublist.cons_cons _ (List.Sublist.refl _))⟩
 have bW := Fz.le.refl aX
 refine cd bA (t := g.1 == ([49] : List UInt8)) (by kernel_rfl) (fun cj => ?_) (fun cj => ?_)
 ·
  have fZ := bL.1 cj; clear bL
  refine wp_seq ?_
  refine sqB bA aY [] [] [(36, .bool (!(O.1 == ([49] : List UInt8))))] ?_; intro d5 d6; clear bA
  have d7 : Fr 97 [] [⟨0, [], pt b1 0⟩, ⟨36, [], .bool (!(O.1 == ([49] : List UInt8)))⟩] d5 := d6.reg; clear d6
  have bE : Fr 97 [] [⟨0, [], pt b1 0⟩, ⟨36, [], .bool (!(O.1 == ([49] : List UInt8)))⟩] d5 := d7.reg; clear d7
  obtain ⟨f0, bX, f1⟩ := fZ
  refine wp_then_k fun KJ383 hKJ384 => ?_
  have d8 : ∀ (b : FReader) (aq : Option Addr) (ar : Nat) (bw : Fz), f0 b ∧ SlR t8 bw aq ar b.f.Data ∧ Fz.le aX bw → ∀ a1 w1, Fr 97 [] [⟨0, [], pt b1 0⟩] a1 → Mem B [] w0 Z0 ((.row b1 [str b.Reader.Row, i6 b.Reader.At, i6 b.Reader.Code, y8 b.Reader.c.last, i6 b.Reader.c.n, i6 b.f.ID, .bool b.f.Long, .bool b.f.Fast, .bool b.f.Remote, i6 b.f.Size, .slice aq b.f.Data.length ar] 61) :: Rr) bw w1 → KJ383 a1 w1 := by
   rintro b aq ar bw ⟨f2, P, Q⟩ aj hy d9 f3; clear bE aY
   refine hKJ384 _ _ ?_; clear hKJ384
   have f4 := f1 b f2
   replace k := Fz.le.trans k Q
   have V := hs4.mono Q
   have W := az.mono Q
   have X := aP.mono Q
   have Y := a3.mono Q
   have aa := a6.mono Q
   have ab := bW.mono Q
   have f5 : Fr 97 [] [⟨0, [], pt b1 0⟩] aj := d9.reg; clear d9
   obtain ⟨f6, f7⟩ := f4
   refine wp_seq (any_invE mixed [[], [], [1], [2], [3], [4], [5], [], [7], [6, 8], [0, 1, 2, 3, 4, 5, 6, 7, 8, 9], [0, 1, 2, 3, 4, 5, 6, 7, 8, 9, 10], [0, 1, 2, 3, 4, 5, 6, 7, 8, 9, 11], [0, 1, 2, 3, 4, 5, 6, 7, 8, 9, 12]] 14 (fun S a w1 => ∃ (L : Option Addr) (M : Nat) (ak : Value) (bj : Value) (ba : Value) (a2 : Value) (aS : Value) (aM : Value) (av : Value) (aN : Value) (aH : Value) (al : Value) (ah : Value) (ac : Value) (T : Value) (aI : Res) (s : Fz), Fz.le bw s ∧ Fr 97 [] [⟨0, [], pt b1 0⟩, ⟨39, [], ak⟩, ⟨40, [], bj⟩, ⟨41, [], ba⟩, ⟨42, [], a2⟩, ⟨43, [], aS⟩, ⟨44, [], aM⟩, ⟨45, [], av⟩, ⟨46, [], aN⟩, ⟨47, [], aH⟩, ⟨48, [], al⟩, ⟨49, [], ah⟩, ⟨50, [], ac⟩, ⟨51, [], T⟩] a ∧ Mem B [] w0 Z0 (aI :: Rr) s w1 ∧ (S 0 = true → ak = pt b1 0) ∧ (S 1 = true → bj = pt b1 0) ∧ (S 2 = true → ba = pt b1 0) ∧ (S 3 = true → a2 = pt b1 5) ∧ (S 4 = true → aS = pt b1 5) ∧ (S 5 = true → aM = i6 b.f.ID) ∧ (S 6 = true → av = i6 (bShl .i64 b.f.ID 18)) ∧ (S 7 = true → aN = pt b1 0) ∧ (S 8 = true → aH = i6 ((rnumberS b 18).1)) ∧ (S 9 = true → al = i6 (bOr .i64 (bShl .i64 b.f.ID 18) ((rnumberS b 18).1))) ∧ (S 10 = true → ah = pt b1 0) ∧ (S 11 = true → ac = pt b1 5) ∧ (S 12 = true → T = pt b1 5) ∧ (S 8 = false → aI = .row b1 [str b.Reader.Row, i6 b.Reader.At, i6 b.Reader.Code, y8 b.Reader.c.last, i6 b.Reader.c.n, i6 b.f.ID, .bool b.f.Long, .bool b.f.Fast, .bool b.f.Remote, i6 b.f.Size, .slice aq b.f.Data.length ar] 61) ∧ (S 8 = true → S 13 = false → aI = .row b1 [str ((((rnumberS b 18).2).Reader).Row), i6 ((((rnumberS b 18).2).Reader).At), i6 ((((rnumberS b 18).2).Reader).Code), y8 (((((rnumberS b 18).2).Reader).c).last), i6 (((((rnumberS b 18).2).Reader).c).n), i6 b.f.ID, .bool b.f.Long, .bool b.f.Fast, .bool b.f.Remote, i6 b.f.Size, .slice L b.f.Data.length M] 61) ∧ (S 13 = true → aI = .row b1 [str ((((rnumberS b 18).2).Reader).Row), i6 ((((rnumberS b 18).2).Reader).At), i6 ((((rnumberS b 18).2).Reader).Code), y8 (((((rnumberS b 18).2).Reader).c).last), i6 (((((rnumberS b 18).2).Reader).c).n), i6 (bOr .i64 (bShl .i64 b.f.ID 18) ((rnumberS b 18).1)), .bool b.f.Long, .bool b.f.Fast, .bool b.f.Remote, i6 b.f.Size, .slice L b.f.Data.length M] 61) ∧ (S 8 = true → SlR t8 s L M b.f.Data)) ?h0 ?hs ?hE)
   case h0 =>
    have f8 := f5.any 39
    have f9 := f8.any 40
    have ga := f9.any 41
    have gb := ga.any 42
    have gc := gb.any 43
    have gd := gc.any 44
    have ge := gd.any 45
    have gf := ge.any 46
    have gg := gf.any 47
    have gh := gg.any 48
    have gi := gh.any 49
    have gj := gi.any 50
    have gk := gj.any 51
    have gl := (f3.perm lpr).drew
    exact ⟨none, 0, aj.tmps.getD 39 undef, aj.tmps.getD 40 undef, aj.tmps.getD 41 undef, aj.tmps.getD 42 undef, aj.tmps.getD 43 undef, aj.tmps.getD 44 undef, aj.tmps.getD 45 undef, aj.tmps.getD 46 undef, aj.tmps.getD 47 undef, aj.tmps.getD 48 undef, aj.tmps.getD 49 undef, aj.tmps.getD 50 undef, aj.tmps.getD 51 undef, .row b1 [str b.Reader.Row, i6 b.Reader.At, i6 b.Reader.Code, y8 b.Reader.c.last, i6 b.Reader.c.n, i6 b.f.ID, .bool b.f.Long, .bool b.f.Fast, .bool b.f.Remote, i6 b.f.Size, .slice aq b.f.Data.length ar] 61, bw, Fz.le.refl _, gk.reg, gl, ff, ff, ff, ff, ff, ff, ff, ff, ff, ff, ff, ff, ff, kf, ff, ff, ff⟩
   case hs =>
    intro S hcl i o hil hi hSi hpre a w1 hI; refine Go.Sy.hid ?_; intro G hG; obtain ⟨L, M, ak, bj, ba, a2, aS, aM, av, aN, aH, al, ah, ac, T, aI, s, d, hFx, hMx, ad, ae, ai, am, aw, aO, aT, af, an, bk, bF, bY, cl, aU, ax, ea, hI⟩ := hI; have ao := hI; clear hI
    have hcase : i = 0 ∨ i = 1 ∨ i = 2 ∨ i = 3 ∨ i = 4 ∨ i = 5 ∨ i = 6 ∨ i = 7 ∨ i = 8 ∨ i = 9 ∨ i = 10 ∨ i = 11 ∨ i = 12 ∨ i = 13 := by clear hi; omega
    rcases hcase with rfl | rfl | rfl | rfl | rfl | rfl | rfl | rfl | rfl | rfl | rfl | rfl | rfl | rfl
    ·
     obtain rfl := oj hi
     have aJ := hSi
     have I := ngF hcl 10 0 aJ
     have D := ngF hcl 11 0 aJ
     have E := ngF hcl 12 0 aJ
     have u := ngF hcl 13 0 aJ
     refine hG (any_step ?_); clear hG G; intro A J hJ
     have k := Fz.le.trans k d
     have hzst := Fz.le.refl s
     have hz := V.mono d
     have hA := W.mono d
     have hB := X.mono d
     have hC := Y.mono d
     have hD := aa.mono d
     have hF := ab.mono d
     have hH := P.mono d
     have hK := Q.mono d
     refine s1 hFx 39 (pt b1 0) ?_; intro hL gm; clear hFx
     refine nl (qnI (hJ _ _ ?_)); clear hJ J
     exact ⟨L, M, pt b1 0, bj, ba, a2, aS, aM, av, aN, aH, al, ah, ac, T, aI, s, d, gm.reg, hMx.perm lpr, kf, ae, ai, am, aw, aO, aT, af, an, bk, (nt I), (nt D), (nt E), aU, ax, (nt u), ao⟩
    ·
     obtain rfl := oj hi
     have N := hSi
     have x := ngF hcl 2 1 N
     have y := ngF hcl 3 2 x
     have z := ngF hcl 4 3 y
     have F := ngF hcl 5 4 z
     have C := ngF hcl 6 5 F
     have H := ngF hcl 9 6 C
     have I := ngF hcl 10 1 N
     have D := ngF hcl 11 1 N
     have E := ngF hcl 12 1 N
     have u := ngF hcl 13 1 N
     refine hG (any_step ?_); clear hG G; intro A J hJ
     have k := Fz.le.trans k d
     have hzst := Fz.le.refl s
     have hM := V.mono d
     have hN := W.mono d
     have hO := X.mono d
     have hP := Y.mono d
     have hQ := aa.mono d
     have hR := ab.mono d
     have hT := P.mono d
     have hU := Q.mono d
     refine s1 hFx 40 (pt b1 0) ?_; intro hV gn; clear hFx
     refine nl (qnI (hJ _ _ ?_)); clear hJ J
     exact ⟨L, M, ak, pt b1 0, ba, a2, aS, aM, av, aN, aH, al, ah, ac, T, aI, s, d, gn.reg, hMx.perm lpr, ad, kf, (nt x), (nt y), (nt z), (nt F), (nt C), af, an, (nt H), (nt I), (nt D), (nt E), aU, ax, (nt u), ao⟩
    ·
     obtain rfl := oj hi
     have N := hpre 1 (by kernel_rfl)
     have x := hSi
     have y := ngF hcl 3 2 x
     have z := ngF hcl 4 3 y
     have F := ngF hcl 5 4 z
     have C := ngF hcl 6 5 F
     have H := ngF hcl 9 6 C
     have I := ngF hcl 10 2 x
     have D := ngF hcl 11 2 x
     have E := ngF hcl 12 2 x
     have u := ngF hcl 13 2 x
     obtain rfl := ae N
     refine hG (any_step ?_); clear hG G; intro A J hJ
     have k := Fz.le.trans k d
     have hzst := Fz.le.refl s
     have hW := V.mono d
     have hX := W.mono d
     have hY := X.mono d
     have h1 := Y.mono d
     have h2 := aa.mono d
     have h3 := ab.mono d
     have h4 := P.mono d
     have h5 := Q.mono d
     refine s1 hFx 41 (pt b1 0) ?_; intro h6 go; clear hFx
     refine nl (qnI (hJ _ _ ?_)); clear hJ J
     exact ⟨L, M, ak, pt b1 0, pt b1 0, a2, aS, aM, av, aN, aH, al, ah, ac, T, aI, s, d, go.reg, hMx.perm lpr, ad, kf, kf, (nt y), (nt z), (nt F), (nt C), af, an, (nt H), (nt I), (nt D), (nt E), aU, ax, (nt u), ao⟩
    ·
     obtain rfl := oj hi
     have x := hpre 2 (by kernel_rfl)
     have N := hcl 2 1 (by kernel_rfl) x
     have y := hSi
     have z := ngF hcl 4 3 y
     have F := ngF hcl 5 4 z
     have C := ngF hcl 6 5 F
     have H := ngF hcl 9 6 C
     have I := ngF hcl 10 3 y
     have D := ngF hcl 11 3 y
     have E := ngF hcl 12 3 y
     have u := ngF hcl 13 3 y
     obtain rfl := ae N
     obtain rfl := ai x
     refine hG (any_step ?_); clear hG G; intro A J hJ
     have k := Fz.le.trans k d
     have hzst := Fz.le.refl s
     have h7 := V.mono d
     have h8 := W.mono d
     have ia := X.mono d
     have ib := Y.mono d
     have ic := aa.mono d
     have id := ab.mono d
     have ie := P.mono d
     have ig := Q.mono d
     refine s1 hFx 42 (pt b1 5) ?_; intro ih gp; clear hFx
     refine nl (qnI (hJ _ _ ?_)); clear hJ J
     exact ⟨L, M, ak, pt b1 0, pt b1 0, pt b1 5, aS, aM, av, aN, aH, al, ah, ac, T, aI, s, d, gp.reg, hMx.perm lpr, ad, kf, kf, kf, (nt z), (nt F), (nt C), af, an, (nt H), (nt I), (nt D), (nt E), aU, ax, (nt u), ao⟩
    ·
     obtain rfl := oj hi
     have y := hpre 3 (by kernel_rfl)
     have x := hcl 3 2 (by kernel_rfl) y
     have N := hcl 2 1 (by kernel_rfl) x
     have z := hSi
     have F := ngF hcl 5 4 z
     have C := ngF hcl 6 5 F
     have H := ngF hcl 9 6 C
     have I := ngF hcl 10 4 z
     have D := ngF hcl 11 4 z
     have E := ngF hcl 12 4 z
     have u := ngF hcl 13 4 z
     obtain rfl := ae N
     obtain rfl := ai x
     obtain rfl := am y
     refine hG (any_step ?_); clear hG G; intro A J hJ
     have k := Fz.le.trans k d
     have hzst := Fz.le.refl s
     have ii := V.mono d
     have ij := W.mono d
     have ik := X.mono d
     have il := Y.mono d
     have im := aa.mono d
     have io := ab.mono d
     have ip := P.mono d
     have iq := Q.mono d
     refine s1 hFx 43 (pt b1 5) ?_; intro ir gq; clear hFx
     refine nl (qnI (hJ _ _ ?_)); clear hJ J
     exact ⟨L, M, ak, pt b1 0, pt b1 0, pt b1 5, pt b1 5, aM, av, aN, aH, al, ah, ac, T, aI, s, d, gq.reg, hMx.perm lpr, ad, kf, kf, kf, kf, (nt F), (nt C), af, an, (nt H), (nt I), (nt D), (nt E), aU, ax, (nt u), ao⟩
    ·
     obtain rfl := oj hi
     have z := hpre 4 (by kernel_rfl)
     have y := hcl 4 3 (by kernel_rfl) z
     have x := hcl 3 2 (by kernel_rfl) y
     have N := hcl 2 1 (by kernel_rfl) x
     have F := hSi
     have C := ngF hcl 6 5 F
     have H := ngF hcl 9 6 C
     have I := ngF hcl 10 5 F
     have D := ngF hcl 11 5 F
     have E := ngF hcl 12 5 F
     have u := ngF hcl 13 5 F
     rcases Bool.eq_false_or_eq_true (S 8) with l | l
     ·
      have R := hcl 8 7 (by kernel_rfl) l
      obtain rfl := ae N
      obtain rfl := ai x
      obtain rfl := am y
      obtain rfl := aw z
      obtain rfl := af R
      obtain rfl := an l
      obtain rfl := ax l u
      refine hG (any_step ?_); clear hG G; intro A J hJ
      have k := Fz.le.trans k d
      have hzst := Fz.le.refl s
      have it := V.mono d
      have iu := W.mono d
      have iv := X.mono d
      have iw := Y.mono d
      have ix := aa.mono d
      have iy := ab.mono d
      have iz := P.mono d
      have iA := Q.mono d
      have gr := ao l
      refine l1 hFx hMx 44 0 5 (i6 b.f.ID) rfl rfl ?_; intro iB gs; clear hFx
      refine nl (qnI (hJ _ _ ?_)); clear hJ J
      exact ⟨L, M, ak, pt b1 0, pt b1 0, pt b1 5, pt b1 5, i6 b.f.ID, av, pt b1 0, i6 ((rnumberS b 18).1), al, ah, ac, T, .row b1 [str ((((rnumberS b 18).2).Reader).Row), i6 ((((rnumberS b 18).2).Reader).At), i6 ((((rnumberS b 18).2).Reader).Code), y8 (((((rnumberS b 18).2).Reader).c).last), i6 (((((rnumberS b 18).2).Reader).c).n), i6 b.f.ID, .bool b.f.Long, .bool b.f.Fast, .bool b.f.Remote, i6 b.f.Size, .slice L b.f.Data.length M] 61, s, d, gs.reg, hMx.perm lpr, ad, kf, kf, kf, kf, kf, (nt C), kf, kf, (nt H), (nt I), (nt D), (nt E), (tn l), kf2, (nt u), (fun _ => gr)⟩
     obtain rfl := ae N
     obtain rfl := ai x
     obtain rfl := am y
     obtain rfl := aw z
     obtain rfl := aU l
     refine hG (any_step ?_); clear hG G; intro A J hJ
     have k := Fz.le.trans k d
     have hzst := Fz.le.refl s
     have iC := V.mono d
     have iD := W.mono d
     have iE := X.mono d
     have iF := Y.mono d
     have iG := aa.mono d
     have iH := ab.mono d
     have iI := P.mono d
     have iJ := Q.mono d
     refine l1 hFx hMx 44 0 5 (i6 b.f.ID) rfl rfl ?_; intro iK gt; clear hFx
     refine nl (qnI (hJ _ _ ?_)); clear hJ J
     exact ⟨L, M, ak, pt b1 0, pt b1 0, pt b1 5, pt b1 5, i6 b.f.ID, av, aN, aH, al, ah, ac, T, .row b1 [str b.Reader.Row, i6 b.Reader.At, i6 b.Reader.Code, y8 b.Reader.c.last, i6 b.Reader.c.n, i6 b.f.ID, .bool b.f.Long, .bool b.f.Fast, .bool b.f.Remote, i6 b.f.Size, .slice aq b.f.Data.length ar] 61, s, d, gt.reg, hMx.perm lpr, ad, kf, kf, kf, kf, kf, (nt C), af, (nt l), (nt H), (nt I), (nt D), (nt E), kf, (fun h _ => nt l h), (nt u), (nt l)⟩
    ·
     obtain rfl := oj hi
     have F := hpre 5 (by kernel_rfl)
     have z := hcl 5 4 (by kernel_rfl) F
     have y := hcl 4 3 (by kernel_rfl) z
     have x := hcl 3 2 (by kernel_rfl) y
     have N := hcl 2 1 (by kernel_rfl) x
     have C := hSi
     have H := ngF hcl 9 6 C
     have I := ngF hcl 10 6 C
     have D := ngF hcl 11 6 C
     have E := ngF hcl 12 6 C
     have u := ngF hcl 13 6 C
     obtain rfl := ae N
     obtain rfl := ai x
     obtain rfl := am y
     obtain rfl := aw z
     obtain rfl := aO F
     refine hG (any_step ?_); clear hG G; intro A J hJ
     have k := Fz.le.trans k d
     have hzst := Fz.le.refl s
     have iL := V.mono d
     have iM := W.mono d
     have iN := X.mono d
     have iO := Y.mono d
     have iP := aa.mono d
     have iQ := ab.mono d
     have iR := P.mono d
     have iS := Q.mono d
     refine s1 hFx 45 (i6 (bShl .i64 b.f.ID 18)) ?_; intro iT gu; clear hFx
     refine nl (qnI (hJ _ _ ?_)); clear hJ J
     exact ⟨L, M, ak, pt b1 0, pt b1 0, pt b1 5, pt b1 5, i6 b.f.ID, i6 (bShl .i64 b.f.ID 18), aN, aH, al, ah, ac, T, aI, s, d, gu.reg, hMx.perm lpr, ad, kf, kf, kf, kf, kf, kf, af, an, (nt H), (nt I), (nt D), (nt E), aU, ax, (nt u), ao⟩
    ·
     obtain rfl := oj hi
     have R := hSi
     have l := ngF hcl 8 7 R
     have H := ngF hcl 9 8 l
     have I := ngF hcl 10 7 R
     have D := ngF hcl 11 7 R
     have E := ngF hcl 12 7 R
     have u := ngF hcl 13 7 R
     obtain rfl := aU l
     refine hG (any_step ?_); clear hG G; intro A J hJ
     have k := Fz.le.trans k d
     have hzst := Fz.le.refl s
     have iU := V.mono d
     have iV := W.mono d
     have iW := X.mono d
     have iX := Y.mono d
     have iY := aa.mono d
     have iZ := ab.mono d
     have i0 := P.mono d
     have i1 := Q.mono d
     refine s1 hFx 46 (pt b1 0) ?_; intro i2 gv; clear hFx
     refine nl (qnI (hJ _ _ ?_)); clear hJ J
     exact ⟨L, M, ak, bj, ba, a2, aS, aM, av, pt b1 0, aH, al, ah, ac, T, .row b1 [str b.Reader.Row, i6 b.Reader.At, i6 b.Reader.Code, y8 b.Reader.c.last, i6 b.Reader.c.n, i6 b.f.ID, .bool b.f.Long, .bool b.f.Fast, .bool b.f.Remote, i6 b.f.Size, .slice aq b.f.Data.length ar] 61, s, d, gv.reg, hMx.perm lpr, ad, ae, ai, am, aw, aO, aT, kf, (nt l), (nt H), (nt I), (nt D), (nt E), kf, (fun h _ => nt l h), (nt u), (nt l)⟩
    ·
     obtain rfl := oj hi
     have R := hpre 7 (by kernel_rfl)
     have l := hSi
     have H := ngF hcl 9 8 l
     have I := ngF hcl 10 8 l
     have D := ngF hcl 11 8 l
     have E := ngF hcl 12 8 l
     have u := ngF hcl 13 8 l
     obtain rfl := af R
     obtain rfl := aU l
     refine hG (any_step ?_); clear hG G; intro A J hJ
     have k := Fz.le.trans k d
     have hzst := Fz.le.refl s
     have eb := V.mono d
     have ec := W.mono d
     have ed := X.mono d
     have ee := Y.mono d
     have ef := aa.mono d
     have eg := ab.mono d
     have cm := P.mono d
     have eh := Q.mono d
     refine ck hFx 33 #[pt b1 0, i6 18] ?_
     refine (rnumber_funK b 18 f6 b1 aq ar _ _ _ _ _ _ cm hMx hMx.fz).mono ?_; rintro _ gw ⟨cn, co, ei, rfl, aV, gx, hm⟩; refine ⟨_, rfl, ?_⟩; intro i3 gy; have ej := hm; clear hm hMx hFx
     replace hzst := hzst.mono aV
     replace eb := eb.mono aV
     replace ec := ec.mono aV
     replace ed := ed.mono aV
     replace ee := ee.mono aV
     replace ef := ef.mono aV
     replace eg := eg.mono aV
     replace cm := cm.mono aV
     replace eh := eh.mono aV
     replace k := Fz.le.trans k aV
     have gz : Mem B [] w0 Z0 ((.row b1 [str ((((rnumberS b 18).2).Reader).Row), i6 ((((rnumberS b 18).2).Reader).At), i6 ((((rnumberS b 18).2).Reader).Code), y8 (((((rnumberS b 18).2).Reader).c).last), i6 (((((rnumberS b 18).2).Reader).c).n), i6 b.f.ID, .bool b.f.Long, .bool b.f.Fast, .bool b.f.Remote, i6 b.f.Size, .slice cn b.f.Data.length co] 61) :: Rr) ei gw := ej; clear ej
     refine nl (qnI (hJ _ _ ?_)); clear hJ J
     exact ⟨cn, co, ak, bj, ba, a2, aS, aM, av, pt b1 0, i6 ((rnumberS b 18).1), al, ah, ac, T, .row b1 [str ((((rnumberS b 18).2).Reader).Row), i6 ((((rnumberS b 18).2).Reader).At), i6 ((((rnumberS b 18).2).Reader).Code), y8 (((((rnumberS b 18).2).Reader).c).last), i6 (((((rnumberS b 18).2).Reader).c).n), i6 b.f.ID, .bool b.f.Long, .bool b.f.Fast, .bool b.f.Remote, i6 b.f.Size, .slice cn b.f.Data.length co] 61, ei, d.trans hzst, gy.reg, gz.perm lpr, ad, ae, ai, am, aw, aO, aT, kf, kf, (nt H), (nt I), (nt D), (nt E), nu, kf2, (nt u), (fun _ => gx)⟩
    ·
     obtain rfl := oj hi
     have l := hpre 8 (by kernel_rfl)
     have C := hpre 6 (by kernel_rfl)
     have R := hcl 8 7 (by kernel_rfl) l
     have F := hcl 6 5 (by kernel_rfl) C
     have z := hcl 5 4 (by kernel_rfl) F
     have y := hcl 4 3 (by kernel_rfl) z
     have x := hcl 3 2 (by kernel_rfl) y
     have N := hcl 2 1 (by kernel_rfl) x
     have H := hSi
     have I := ngF hcl 10 9 H
     have D := ngF hcl 11 9 H
     have E := ngF hcl 12 9 H
     have u := ngF hcl 13 9 H
     obtain rfl := ae N
     obtain rfl := ai x
     obtain rfl := am y
     obtain rfl := aw z
     obtain rfl := aO F
     obtain rfl := aT C
     obtain rfl := af R
     obtain rfl := an l
     obtain rfl := ax l u
     refine hG (any_step ?_); clear hG G; intro A J hJ
     have k := Fz.le.trans k d
     have hzst := Fz.le.refl s
     have i4 := V.mono d
     have i5 := W.mono d
     have i7 := X.mono d
     have i8 := Y.mono d
     have i9 := aa.mono d
     have ja := ab.mono d
     have jb := P.mono d
     have jc := Q.mono d
     have gA := ao l
     refine s1 hFx 48 (i6 (bOr .i64 (bShl .i64 b.f.ID 18) ((rnumberS b 18).1))) ?_; intro jd gB; clear hFx
     refine nl (qnI (hJ _ _ ?_)); clear hJ J
     exact ⟨L, M, ak, pt b1 0, pt b1 0, pt b1 5, pt b1 5, i6 b.f.ID, i6 (bShl .i64 b.f.ID 18), pt b1 0, i6 ((rnumberS b 18).1), i6 (bOr .i64 (bShl .i64 b.f.ID 18) ((rnumberS b 18).1)), ah, ac, T, .row b1 [str ((((rnumberS b 18).2).Reader).Row), i6 ((((rnumberS b 18).2).Reader).At), i6 ((((rnumberS b 18).2).Reader).Code), y8 (((((rnumberS b 18).2).Reader).c).last), i6 (((((rnumberS b 18).2).Reader).c).n), i6 b.f.ID, .bool b.f.Long, .bool b.f.Fast, .bool b.f.Remote, i6 b.f.Size, .slice L b.f.Data.length M] 61, s, d, gB.reg, hMx.perm lpr, ad, kf, kf, kf, kf, kf, kf, kf, kf, kf, (nt I), (nt D), (nt E), (tn l), kf2, (nt u), (fun _ => gA)⟩
    ·
     obtain rfl := oj hi
     have H := hpre 9 (by kernel_rfl)
     have l := hpre 8 (by kernel_rfl)
     have R := hpre 7 (by kernel_rfl)
     have C := hpre 6 (by kernel_rfl)
     have F := hpre 5 (by kernel_rfl)
     have z := hpre 4 (by kernel_rfl)
     have y := hpre 3 (by kernel_rfl)
     have x := hpre 2 (by kernel_rfl)
     have N := hpre 1 (by kernel_rfl)
     have aJ := hpre 0 (by kernel_rfl)
     have I := hSi
     have D := ngF hcl 11 10 I
     have E := ngF hcl 12 11 D
     have u := ngF hcl 13 12 E
     obtain rfl := ad aJ
     obtain rfl := ae N
     obtain rfl := ai x
     obtain rfl := am y
     obtain rfl := aw z
     obtain rfl := aO F
     obtain rfl := aT C
     obtain rfl := af R
     obtain rfl := an l
     obtain rfl := bk H
     obtain rfl := ax l u
     refine hG (any_step ?_); clear hG G; intro A J hJ
     have k := Fz.le.trans k d
     have hzst := Fz.le.refl s
     have je := V.mono d
     have jf := W.mono d
     have jg := X.mono d
     have jh := Y.mono d
     have ji := aa.mono d
     have jj := ab.mono d
     have jk := P.mono d
     have jl := Q.mono d
     have gC := ao l
     refine s1 hFx 49 (pt b1 0) ?_; intro jm gD; clear hFx
     refine nl (qnI (hJ _ _ ?_)); clear hJ J
     exact ⟨L, M, pt b1 0, pt b1 0, pt b1 0, pt b1 5, pt b1 5, i6 b.f.ID, i6 (bShl .i64 b.f.ID 18), pt b1 0, i6 ((rnumberS b 18).1), i6 (bOr .i64 (bShl .i64 b.f.ID 18) ((rnumberS b 18).1)), pt b1 0, ac, T, .row b1 [str ((((rnumberS b 18).2).Reader).Row), i6 ((((rnumberS b 18).2).Reader).At), i6 ((((rnumberS b 18).2).Reader).Code), y8 (((((rnumberS b 18).2).Reader).c).last), i6 (((((rnumberS b 18).2).Reader).c).n), i6 b.f.ID, .bool b.f.Long, .bool b.f.Fast, .bool b.f.Remote, i6 b.f.Size, .slice L b.f.Data.length M] 61, s, d, gD.reg, hMx.perm lpr, kf, kf, kf, kf, kf, kf, kf, kf, kf, kf, kf, (nt D), (nt E), (tn l), kf2, (nt u), (fun _ => gC)⟩
    ·
     obtain rfl := oj hi
     have I := hpre 10 (by kernel_rfl)
     have H := hpre 9 (by kernel_rfl)
     have l := hpre 8 (by kernel_rfl)
     have R := hpre 7 (by kernel_rfl)
     have C := hpre 6 (by kernel_rfl)
     have F := hpre 5 (by kernel_rfl)
     have z := hpre 4 (by kernel_rfl)
     have y := hpre 3 (by kernel_rfl)
     have x := hpre 2 (by kernel_rfl)
     have N := hpre 1 (by kernel_rfl)
     have aJ := hpre 0 (by kernel_rfl)
     have D := hSi
     have E := ngF hcl 12 11 D
     have u := ngF hcl 13 12 E
     obtain rfl := ad aJ
     obtain rfl := ae N
     obtain rfl := ai x
     obtain rfl := am y
     obtain rfl := aw z
     obtain rfl := aO F
     obtain rfl := aT C
     obtain rfl := af R
     obtain rfl := an l
     obtain rfl := bk H
     obtain rfl := bF I
     obtain rfl := ax l u
     refine hG (any_step ?_); clear hG G; intro A J hJ
     have k := Fz.le.trans k d
     have hzst := Fz.le.refl s
     have jn := V.mono d
     have jo := W.mono d
     have jp := X.mono d
     have jq := Y.mono d
     have jr := aa.mono d
     have js := ab.mono d
     have jt := P.mono d
     have ju := Q.mono d
     have gE := ao l
     refine s1 hFx 50 (pt b1 5) ?_; intro jv gF; clear hFx
     refine nl (qnI (hJ _ _ ?_)); clear hJ J
     exact ⟨L, M, pt b1 0, pt b1 0, pt b1 0, pt b1 5, pt b1 5, i6 b.f.ID, i6 (bShl .i64 b.f.ID 18), pt b1 0, i6 ((rnumberS b 18).1), i6 (bOr .i64 (bShl .i64 b.f.ID 18) ((rnumberS b 18).1)), pt b1 0, pt b1 5, T, .row b1 [str ((((rnumberS b 18).2).Reader).Row), i6 ((((rnumberS b 18).2).Reader).At), i6 ((((rnumberS b 18).2).Reader).Code), y8 (((((rnumberS b 18).2).Reader).c).last), i6 (((((rnumberS b 18).2).Reader).c).n), i6 b.f.ID, .bool b.f.Long, .bool b.f.Fast, .bool b.f.Remote, i6 b.f.Size, .slice L b.f.Data.length M] 61, s, d, gF.reg, hMx.perm lpr, kf, kf, kf, kf, kf, kf, kf, kf, kf, kf, kf, kf, (nt E), (tn l), kf2, (nt u), (fun _ => gE)⟩
    ·
     obtain rfl := oj hi
     have D := hpre 11 (by kernel_rfl)
     have H := hpre 9 (by kernel_rfl)
     have l := hpre 8 (by kernel_rfl)
     have R := hpre 7 (by kernel_rfl)
     have C := hpre 6 (by kernel_rfl)
     have F := hpre 5 (by kernel_rfl)
     have z := hpre 4 (by kernel_rfl)
     have y := hpre 3 (by kernel_rfl)
     have x := hpre 2 (by kernel_rfl)
     have N := hpre 1 (by kernel_rfl)
     have aJ := hpre 0 (by kernel_rfl)
     have I := hcl 11 10 (by kernel_rfl) D
     have E := hSi
     have u := ngF hcl 13 12 E
     obtain rfl := ad aJ
     obtain rfl := ae N
     obtain rfl := ai x
     obtain rfl := am y
     obtain rfl := aw z
     obtain rfl := aO F
     obtain rfl := aT C
     obtain rfl := af R
     obtain rfl := an l
     obtain rfl := bk H
     obtain rfl := bF I
     obtain rfl := bY D
     obtain rfl := ax l u
     refine hG (any_step ?_); clear hG G; intro A J hJ
     have k := Fz.le.trans k d
     have hzst := Fz.le.refl s
     have jw := V.mono d
     have jx := W.mono d
     have jy := X.mono d
     have jz := Y.mono d
     have jA := aa.mono d
     have jB := ab.mono d
     have jC := P.mono d
     have jD := Q.mono d
     have gG := ao l
     refine s1 hFx 51 (pt b1 5) ?_; intro jE gH; clear hFx
     refine nl (qnI (hJ _ _ ?_)); clear hJ J
     exact ⟨L, M, pt b1 0, pt b1 0, pt b1 0, pt b1 5, pt b1 5, i6 b.f.ID, i6 (bShl .i64 b.f.ID 18), pt b1 0, i6 ((rnumberS b 18).1), i6 (bOr .i64 (bShl .i64 b.f.ID 18) ((rnumberS b 18).1)), pt b1 0, pt b1 5, pt b1 5, .row b1 [str ((((rnumberS b 18).2).Reader).Row), i6 ((((rnumberS b 18).2).Reader).At), i6 ((((rnumberS b 18).2).Reader).Code), y8 (((((rnumberS b 18).2).Reader).c).last), i6 (((((rnumberS b 18).2).Reader).c).n), i6 b.f.ID, .bool b.f.Long, .bool b.f.Fast, .bool b.f.Remote, i6 b.f.Size, .slice L b.f.Data.length M] 61, s, d, gH.reg, hMx.perm lpr, kf, kf, kf, kf, kf, kf, kf, kf, kf, kf, kf, kf, kf, (tn l), kf2, (nt u), (fun _ => gG)⟩
    obtain rfl := oj hi
    have E := hpre 12 (by kernel_rfl)
    have H := hpre 9 (by kernel_rfl)
    have l := hpre 8 (by kernel_rfl)
    have R := hpre 7 (by kernel_rfl)
    have C := hpre 6 (by kernel_rfl)
    have F := hpre 5 (by kernel_rfl)
    have z := hpre 4 (by kernel_rfl)
    have y := hpre 3 (by kernel_rfl)
    have x := hpre 2 (by kernel_rfl)
    have N := hpre 1 (by kernel_rfl)
    have aJ := hpre 0 (by kernel_rfl)
    have D := hcl 12 11 (by kernel_rfl) E
    have I := hcl 11 10 (by kernel_rfl) D
    have u := hSi
    obtain rfl := ad aJ
    obtain rfl := ae N
    obtain rfl := ai x
    obtain rfl := am y
    obtain rfl := aw z
    obtain rfl := aO F
    obtain rfl := aT C
    obtain rfl := af R
    obtain rfl := an l
    obtain rfl := bk H
    obtain rfl := bF I
    obtain rfl := bY D
    obtain rfl := cl E
    obtain rfl := ax l u
    refine hG (any_step ?_); clear hG G; intro A J hJ
    have k := Fz.le.trans k d
    have hzst := Fz.le.refl s
    have jF := V.mono d
    have jG := W.mono d
    have jH := X.mono d
    have jI := Y.mono d
    have jJ := aa.mono d
    have jK := ab.mono d
    have jL := P.mono d
    have jM := Q.mono d
    have gI := ao l
    refine sx hFx hMx 0 [str ((((rnumberS b 18).2).Reader).Row), i6 ((((rnumberS b 18).2).Reader).At), i6 ((((rnumberS b 18).2).Reader).Code), y8 (((((rnumberS b 18).2).Reader).c).last), i6 (((((rnumberS b 18).2).Reader).c).n), i6 (bOr .i64 (bShl .i64 b.f.ID 18) ((rnumberS b 18).1)), .bool b.f.Long, .bool b.f.Fast, .bool b.f.Remote, i6 b.f.Size, .slice L b.f.Data.length M] 5 ?_; intro jN gJ; clear hMx
    refine nl (qnI (hJ _ _ ?_)); clear hJ J
    exact ⟨L, M, pt b1 0, pt b1 0, pt b1 0, pt b1 5, pt b1 5, i6 b.f.ID, i6 (bShl .i64 b.f.ID 18), pt b1 0, i6 ((rnumberS b 18).1), i6 (bOr .i64 (bShl .i64 b.f.ID 18) ((rnumberS b 18).1)), pt b1 0, pt b1 5, pt b1 5, .row b1 [str ((((rnumberS b 18).2).Reader).Row), i6 ((((rnumberS b 18).2).Reader).At), i6 ((((rnumberS b 18).2).Reader).Code), y8 (((((rnumberS b 18).2).Reader).c).last), i6 (((((rnumberS b 18).2).Reader).c).n), i6 (bOr .i64 (bShl .i64 b.f.ID 18) ((rnumberS b 18).1)), .bool b.f.Long, .bool b.f.Fast, .bool b.f.Remote, i6 b.f.Size, .slice L b.f.Data.length M] 61, s, d, hFx.reg, gJ.perm lpr, kf, kf, kf, kf, kf, kf, kf, kf, kf, kf, kf, kf, kf, (tn l), (fun _ => nu), kf, (fun _ => gI)⟩
   case hE =>
    intro S hS gK jO hI; refine Go.Sy.hid ?_; intro G hG; obtain ⟨L, M, ak, bj, ba, a2, aS, aM, av, aN, aH, al, ah, ac, T, aI, s, d, hFx, hMx, ad, ae, ai, am, aw, aO, aT, af, an, bk, bF, bY, cl, aU, ax, ea, hI⟩ := hI; have ao := hI; clear hI; refine hG ?_; clear hG G
    obtain rfl := ad (hS 0 (by decide))
    obtain rfl := ae (hS 1 (by decide))
    obtain rfl := ai (hS 2 (by decide))
    obtain rfl := am (hS 3 (by decide))
    obtain rfl := aw (hS 4 (by decide))
    obtain rfl := aO (hS 5 (by decide))
    obtain rfl := aT (hS 6 (by decide))
    obtain rfl := af (hS 7 (by decide))
    obtain rfl := an (hS 8 (by decide))
    obtain rfl := bk (hS 9 (by decide))
    obtain rfl := bF (hS 10 (by decide))
    obtain rfl := bY (hS 11 (by decide))
    obtain rfl := cl (hS 12 (by decide))
    obtain rfl := ea (hS 13 (by decide))
    have k := Fz.le.trans k d
    have ek := V.mono d
    have el := W.mono d
    have em := X.mono d
    have en := Y.mono d
    have eo := aa.mono d
    have cp := ab.mono d
    have ep := P.mono d
    have eq := Q.mono d
    have cq := ao (hS 8 (by decide))
    refine thn ?_
    have er : Fr 97 [] [⟨0, [], pt b1 0⟩] gK := hFx.reg; clear hFx
    refine rgH ?_; intro gL es
    refine bt er hMx 4 [] [] [(52, pt b1 0), (55, pt b1 0)] ?_; intro jP et; clear er
    obtain ⟨gM, eu⟩ := f7
    refine ck et 36 #[pt b1 0, i6 1] ?_
    obtain ⟨p, gN, ev⟩ := hxq eu; clear eu
    have m := rtakeF_fun (⟨(((rnumberS b 18).2).Reader), (⟨bOr .i64 (bShl .i64 b.f.ID 18) ((rnumberS b 18).1), b.f.Long, b.f.Fast, b.f.Remote, b.f.Size, b.f.Data⟩ : Frame)⟩ : FReader) 1 gM b1 L M _ _ _ _ _ _ cq hMx hMx.fz; rw [gN] at m; refine m.mono ?_; clear m; rintro _ gO ⟨bZ, b0, cr, rfl, aW, ew, hm⟩; refine ⟨_, rfl, ?_⟩; intro jQ ex; have ey := hm; clear hm hMx et
    replace ek := ek.mono aW
    replace el := el.mono aW
    replace em := em.mono aW
    replace en := en.mono aW
    replace eo := eo.mono aW
    replace cp := cp.mono aW
    replace ep := ep.mono aW
    replace eq := eq.mono aW
    replace cq := cq.mono aW
    replace k := Fz.le.trans k aW
    have cs : Mem B [] w0 Z0 ((.row b1 [str p.2.Reader.Row, i6 p.2.Reader.At, i6 p.2.Reader.Code, y8 p.2.Reader.c.last, i6 p.2.Reader.c.n, i6 p.2.f.ID, .bool p.2.f.Long, .bool p.2.f.Fast, .bool p.2.f.Remote, i6 p.2.f.Size, .slice bZ p.2.f.Data.length b0] 61) :: Rr) cr gO := ey; clear ey
    have gP := ev (ew.small); clear ev
    refine bt ex cs 4 [] [154] [(57, .bool (p.1 == ([49] : List UInt8))), (60, pt b1 8)] ?_; intro jR ez; clear ex
    refine sx ez cs 0 [str p.2.Reader.Row, i6 p.2.Reader.At, i6 p.2.Reader.Code, y8 p.2.Reader.c.last, i6 p.2.Reader.c.n, i6 p.2.f.ID, .bool p.2.f.Long, .bool p.2.f.Fast, .bool (p.1 == ([49] : List UInt8)), i6 p.2.f.Size, .slice bZ p.2.f.Data.length b0] 8 ?_; intro gQ eA; clear cs
    have gR : Mem B [] w0 Z0 ((.row b1 [str p.2.Reader.Row, i6 p.2.Reader.At, i6 p.2.Reader.Code, y8 p.2.Reader.c.last, i6 p.2.Reader.c.n, i6 p.2.f.ID, .bool p.2.f.Long, .bool p.2.f.Fast, .bool (p.1 == ([49] : List UInt8)), i6 p.2.f.Size, .slice bZ p.2.f.Data.length b0] 61) :: Rr) cr gQ := eA; clear eA
    refine nlH (es _ _ ?_); clear es gL
    refine rd ?_
    exact c7 (⟨p.2.Reader, (⟨p.2.f.ID, p.2.f.Long, p.2.f.Fast, p.1 == ([49] : List UInt8), p.2.f.Size, p.2.f.Data⟩ : Frame)⟩ : FReader) bZ b0 cr ⟨gP, ew, cp⟩ _ _ ((ez.reg).anyβ _ (by kernel_rfl)) (gR.keep (List.Sublist.cons_cons _ (List.Sublist.refl _)))
  have b2 := Fz.le.refl aX
  refine cd bE (t := !(O.1 == ([49] : List UInt8))) (by kernel_rfl) (fun ct => ?_) (fun ct => ?_)
  ·
   have eB := bX.1 ct; clear bX
   refine rgH ?_; intro gS eC
   refine s1 bE 37 (pt b1 0) ?_; intro jS eD; clear bE
   refine ck eD 34 #[pt b1 0, i6 4] ?_
   obtain ⟨aK, gT, eE⟩ := hxq eB; clear eB
   have m := rfail_fun (⟨g.2.Reader, (⟨g.2.f.ID, g.1 == ([49] : List UInt8), g.2.f.Fast, O.1 == ([49] : List UInt8), g.2.f.Size, g.2.f.Data⟩ : Frame)⟩ : FReader) 4 b1 a4 a5 _ _ _ _ _ _ a6 aY aY.fz; rw [gT] at m; refine m.mono ?_; clear m; rintro _ gU ⟨eF, eG, eH, rfl, bb, eI, hm⟩; refine ⟨_, rfl, ?_⟩; intro jT gV; have eJ := hm; clear hm aY eD
   replace hs4 := hs4.mono bb
   replace az := az.mono bb
   replace aP := aP.mono bb
   replace a3 := a3.mono bb
   replace a6 := a6.mono bb
   replace bW := bW.mono bb
   replace b2 := b2.mono bb
   replace k := Fz.le.trans k bb
   have gW : Mem B [] w0 Z0 ((.row b1 [str aK.Reader.Row, i6 aK.Reader.At, i6 aK.Reader.Code, y8 aK.Reader.c.last, i6 aK.Reader.c.n, i6 aK.f.ID, .bool aK.f.Long, .bool aK.f.Fast, .bool aK.f.Remote, i6 aK.f.Size, .slice eF aK.f.Data.length eG] 61) :: Rr) eH gU := eJ; clear eJ
   have gX := eE (eI.small); clear eE
   refine nlH (eC _ _ ?_); clear eC gS
   refine rd ?_
   exact d8 aK eF eG eH ⟨gX, eI, b2⟩ _ _ ((gV.reg).anyβ _ (by kernel_rfl)) (gW.keep (List.Sublist.cons_cons _ (List.Sublist.refl _)))
  have gY := bX.2 ct; clear bX
  refine wp_skip ?_
  refine rd ?_
  exact d8 (⟨g.2.Reader, (⟨g.2.f.ID, g.1 == ([49] : List UInt8), g.2.f.Fast, O.1 == ([49] : List UInt8), g.2.f.Size, g.2.f.Data⟩ : Frame)⟩ : FReader) a4 a5 aX ⟨gY, a6, b2⟩ _ _ ((bE.reg).anyβ _ (by kernel_rfl)) (aY.keep (List.Sublist.cons_cons _ (List.Sublist.refl _)))
 have gZ := bL.2 cj; clear bL
 refine wp_skip ?_
 refine rd ?_
 exact c7 (⟨g.2.Reader, (⟨g.2.f.ID, g.1 == ([49] : List UInt8), g.2.f.Fast, O.1 == ([49] : List UInt8), g.2.f.Size, g.2.f.Data⟩ : Frame)⟩ : FReader) a4 a5 aX ⟨gZ, a6, bW⟩ _ _ ((bA.reg).anyβ _ (by kernel_rfl)) (aY.keep (List.Sublist.cons_cons _ (List.Sublist.refl _)))

end Go.Proofs.YtmbdcehmeiiaoaaGreatDoor
set_option linter.unusedVariables false
set_option linter.unusedSimpArgs false
namespace Go.Proofs.YtmbdcehmeiiaoaaGreatDoor
open Go.Sy Go.RowKit
theorem rnames_fun (u0 : FReader) (hpre : Rok u0.Reader) (b1 : Nat) (ao2 : Option Addr) (cap3 : Nat) (B : Nat) (w0 : World) (Z0 : Fz) (Rr : List Res) (Z : Fz) (w : World) (hs4 : SlR t8 Z ao2 cap3 u0.f.Data) (hM0 : Mem B [] w0 Z0 ((.row b1 [str u0.Reader.Row, i6 u0.Reader.At, i6 u0.Reader.Code, y8 u0.Reader.c.last, i6 u0.Reader.c.n, i6 u0.f.ID, .bool u0.f.Long, .bool u0.f.Fast, .bool u0.f.Remote, i6 u0.f.Size, .slice ao2 u0.f.Data.length cap3] 61) :: Rr) Z w) (hZ : Z.on w) : Calls Tryz.prog 32 #[pt b1 0] w fun e w' => ∃ (ao1001 : Option Addr) (cap1002 : Nat) (Z' : Fz), e = .returned (.tuple #[]) ∧ Fz.le Z Z' ∧ SlR t8 Z' ao1001 cap1002 (rnamesS u0).f.Data ∧ Mem B [] w0 Z0 ((.row b1 [str (rnamesS u0).Reader.Row, i6 (rnamesS u0).Reader.At, i6 (rnamesS u0).Reader.Code, y8 (rnamesS u0).Reader.c.last, i6 (rnamesS u0).Reader.c.n, i6 (rnamesS u0).f.ID, .bool (rnamesS u0).f.Long, .bool (rnamesS u0).f.Fast, .bool (rnamesS u0).f.Remote, i6 (rnamesS u0).f.Size, .slice ao1001 (rnamesS u0).f.Data.length cap1002] 61) :: Rr) Z' w' :=
  (rnames_walk u0 b1 ao2 cap3 B w0 Z0 Rr Z w hs4 hM0 hZ (rnames_ok u0 hpre)).mono fun _ _ ⟨r, h0, h1, h2, he, hk, f0, f1, hm⟩ => by subst hk; exact ⟨h0, h1, h2, he, f0, f1, hm⟩

end Go.Proofs.YtmbdcehmeiiaoaaGreatDoor
set_option linter.unusedVariables false
set_option linter.unusedSimpArgs false
set_option maxRecDepth 100000
set_option maxHeartbeats 0
namespace Go.Proofs.YtmbdcehmeiiaoaaGreatDoor
open Go.Sy Go.RowKit
theorem fRead_walk (u0 : List UInt8)  (Z : Fz) (w : World)  (hZ : Z.on w) {K : (Frame × Int × Int) → Prop} (hp : fRead_vc u0 K) : Calls Tryz.prog 8 #[str u0] w fun e w' => ∃ (r : Frame × Int × Int) (ao1001 : Option Addr) (cap1002 : Nat) (Z' : Fz), e = .returned (.tuple #[.agg #[i6 r.1.ID, .bool r.1.Long, .bool r.1.Fast, .bool r.1.Remote, i6 r.1.Size, .slice ao1001 r.1.Data.length cap1002], i6 r.2.1, i6 r.2.2]) ∧ K r ∧ SlR t8 Z' ao1001 cap1002 r.1.Data ∧ Mem w.heap.size [] w Z [] Z' w' := by
 refine enter0 Tryz.func8 rfl rfl (by kernel_rfl) ?_; intro a0 aQ; have aR := Mem.start w Z hZ; have q := Fz.le.refl Z
 refine sqH ?_; intro cV aS
 refine nw aQ aR pb [i6 0, .bool false, .bool false, .bool false, i6 0, .slice none 0 0] 24 ?_; intro l a3 ep aT O; clear aQ aR
 refine bt aT O 2 [] [] [] ?_; intro a9 aU; clear aT
 refine nlH (aS _ _ ?_); clear aS cV
 refine wp_seq ?_
 refine sqH ?_; intro cW aV
 refine s1 aU 13 (str u0) ?_; intro eq aW; clear aU
 refine fc aW O (bcheck_fun u0 _ _ O.fz) ?_; intro er es aX P; clear aW O
 refine s1 aX 5 (i6 (bcheckS u0)) ?_; intro et aY; clear aX
 refine nlH (aV _ _ ?_); clear aV cW
 refine sqB aY P [] [] [(16, .bool ((bcheckS u0) != 0))] ?_; intro eu am; clear aY
 obtain ⟨cX, cY⟩ := hp
 refine cn am cX ?_
 refine wp_skip ?_
 refine thn ?_
 refine sqH ?_; intro cZ aZ
 refine bt am P 3 [] [] [(21, .agg #[str u0, i6 0, i6 0, y8 0, i6 0, i6 0, .bool false, .bool false, .bool false, i6 0, .slice none 0 0])] ?_; intro ev a1; clear am
 refine nw a1 P pb [str u0, i6 0, i6 0, y8 0, i6 0, i6 0, .bool false, .bool false, .bool false, i6 0, .slice none 0 0] 61 ?_; intro i ew ex a2 an; clear a1 P
 refine s1 a2 6 (pt i 0) ?_; intro ey a4; clear a2
 refine nlH (aZ _ _ ?_); clear aZ cZ
 refine sqH ?_; intro c0 a5
 refine s1 a4 23 (pt i 0) ?_; intro ez a6; clear a4
 obtain ⟨c1, a7⟩ := cY
 refine ck a6 32 #[pt i 0] ?_
 obtain ⟨x, c2, a8⟩ := hxq a7; clear a7
 have m := rnames_fun (⟨(⟨u0, 0, 0, (⟨0, 0⟩ : Counter)⟩ : Reader), (⟨0, false, false, false, 0, []⟩ : Frame)⟩ : FReader) c1 i none 0 _ _ _ _ _ _ (SlR.nil _ _) an an.fz; rw [c2] at m; refine m.mono ?_; clear m; rintro _ c3 ⟨ba, bb, c4, rfl, c5, s, hm⟩; refine ⟨_, rfl, ?_⟩; intro eA bc; have bd := hm; clear hm an a6
 replace q := Fz.le.trans q c5
 have ao : Mem w.heap.size [] w Z [.row i [str x.Reader.Row, i6 x.Reader.At, i6 x.Reader.Code, y8 x.Reader.c.last, i6 x.Reader.c.n, i6 x.f.ID, .bool x.f.Long, .bool x.f.Fast, .bool x.f.Remote, i6 x.f.Size, .slice ba x.f.Data.length bb] 61, .row l [i6 0, .bool false, .bool false, .bool false, i6 0, .slice none 0 0] 24] c4 c3 := bd; clear bd
 have c6 := a8 (s.small); clear a8
 refine nlH (a5 _ _ ?_); clear a5 c0
 refine sqH ?_; intro c7 be
 refine s1 bc 25 (pt i 0) ?_; intro eB bf; clear bc
 obtain ⟨c8, bg⟩ := c6
 refine ck bf 33 #[pt i 0, i6 4] ?_
 obtain ⟨j, c9, bh⟩ := hxq bg; clear bg
 have m := rnumber_fun x 4 c8 i ba bb _ _ _ _ _ _ s ao ao.fz; rw [c9] at m; refine m.mono ?_; clear m; rintro _ da ⟨Q, R, db, rfl, bi, u, hm⟩; refine ⟨_, rfl, ?_⟩; intro eC bj; have bk := hm; clear hm ao bf
 replace s := s.mono bi
 replace q := Fz.le.trans q bi
 have E : Mem w.heap.size [] w Z [.row i [str j.2.Reader.Row, i6 j.2.Reader.At, i6 j.2.Reader.Code, y8 j.2.Reader.c.last, i6 j.2.Reader.c.n, i6 j.2.f.ID, .bool j.2.f.Long, .bool j.2.f.Fast, .bool j.2.f.Remote, i6 j.2.f.Size, .slice Q j.2.f.Data.length R] 61, .row l [i6 0, .bool false, .bool false, .bool false, i6 0, .slice none 0 0] 24] db da := bk; clear bk
 have dc := bh (u.small); clear bh
 refine s1 bj 7 (i6 j.1) ?_; intro eD bl; clear bj
 refine nlH (be _ _ ?_); clear be c7
 refine wp_seq ?_
 refine wp_block ?_
 refine sqB bl E [0] [] [(46, .bool (j.2.Reader.Code != 0))] ?_; intro eE ap; clear bl
 obtain ⟨dd, de⟩ := dc
 refine cn ap dd ?_
 refine sqB ap E [0] [] [(53, .bool ((!j.2.f.Fast) && (decide (j.1 > 8))))] ?_; intro eF aq; clear ap
 obtain ⟨df, dg⟩ := de
 refine cn aq df ?_
 refine sqB aq E [0] [] [(66, .bool j.2.f.Remote)] ?_; intro eG ar; clear aq
 obtain ⟨dh, bm⟩ := dg
 refine cn ar dh ?_
 refine sqH ?_; intro di bn
 refine ck ar 35 #[] ?_
 refine (fsizes_fun  _ _ E.fz).mono ?_; rintro _ bo ⟨dj, y, bp, rfl, hm⟩; refine ⟨_, rfl, ?_⟩; intro eH bq; have br := E.callZ hm; have au := hm.ext.le; clear hm E ar
 replace s := s.mono au
 replace u := u.mono au
 replace q := Fz.le.trans q au
 have S : Mem w.heap.size [] w Z [.own t6 3 dj y fsizes, .row i [str j.2.Reader.Row, i6 j.2.Reader.At, i6 j.2.Reader.Code, y8 j.2.Reader.c.last, i6 j.2.Reader.c.n, i6 j.2.f.ID, .bool j.2.f.Long, .bool j.2.f.Fast, .bool j.2.f.Remote, i6 j.2.f.Size, .slice Q j.2.f.Data.length R] 61, .row l [i6 0, .bool false, .bool false, .bool false, i6 0, .slice none 0 0] 24] bp bo := br; clear br
 have dk := bm (S.ownSmall 0 rfl); clear bm
 refine s1 bq 28 (i6 j.1) ?_; intro eI bs; clear bq
 obtain ⟨dl, bu⟩ := dk
 refine ixo bs S 0 (T := t6) (xs := fsizes) j.1 dl (k := .i64) (e := 3) (bytes := 8) (nog rfl _) rfl (by kernel_rfl) rfl (by kernel_rfl) (by kernel_rfl) rfl (by kernel_rfl) ?_; intro z dm dn bv; clear bs
 subst dn
 have bw : Fr 158 [] [⟨0, [], str u0⟩, ⟨2, [], pt l 0⟩, ⟨5, [], i6 (bcheckS u0)⟩, ⟨6, [], pt i 0⟩, ⟨7, [], i6 j.1⟩, ⟨13, [], str u0⟩, ⟨14, [], i6 (bcheckS u0)⟩, ⟨16, [], .bool ((bcheckS u0) != 0)⟩, ⟨21, [], .agg #[str u0, i6 0, i6 0, y8 0, i6 0, i6 0, .bool false, .bool false, .bool false, i6 0, .slice none 0 0]⟩, ⟨22, [], pt i 0⟩, ⟨23, [], pt i 0⟩, ⟨24, [], .tuple #[]⟩, ⟨25, [], pt i 0⟩, ⟨26, [], i6 j.1⟩, ⟨27, [], .slice (sm z) fsizes.length y⟩, ⟨28, [], i6 j.1⟩, ⟨29, [], .pointer (some ⟨z, j.1.toNat * 1, none⟩)⟩, ⟨46, [], .bool (j.2.Reader.Code != 0)⟩, ⟨53, [], .bool ((!j.2.f.Fast) && (decide (j.1 > 8)))⟩, ⟨66, [], .bool j.2.f.Remote⟩] dm := bv.region (by kernel_rfl) (by kernel_rfl); clear bv
 have I : Mem w.heap.size [] w Z [.own t6 3 (sm z) y fsizes, .row i [str j.2.Reader.Row, i6 j.2.Reader.At, i6 j.2.Reader.Code, y8 j.2.Reader.c.last, i6 j.2.Reader.c.n, i6 j.2.f.ID, .bool j.2.f.Long, .bool j.2.f.Fast, .bool j.2.f.Remote, i6 j.2.f.Size, .slice Q j.2.f.Data.length R] 61, .row l [i6 0, .bool false, .bool false, .bool false, i6 0, .slice none 0 0] 24] bp bo := S; clear S
 obtain ⟨F, dp, dq⟩ := gxq bu (by first | omega | (simp only [List.length_set] at *; omega)); clear bu
 obtain ⟨dr, ds, dt⟩ := own_el I 0 (T := t6) (xs := fsizes) rfl j.1.toNat dp
 obtain rfl : dr = ([i6 F] : List Value) := ds
 refine lc1 bw 30 (i6 F) (dt 0 _ rfl) rfl ?_; intro eJ bx; clear bw
 refine s1 bx 7 (i6 F) ?_; intro eK bz; clear bx
 refine nlH (bn _ _ ?_); clear bn di
 refine sqH ?_; intro du bA
 refine bt bz I 5 [] [] [(33, pt i 0), (35, i6 (w64 (8 * F)))] ?_; intro eL bB; clear bz
 obtain ⟨dv, bC⟩ := dq
 refine ck bB 36 #[pt i 0, i6 (w64 (8 * F))] ?_
 obtain ⟨h, dw, bD⟩ := hxq bC; clear bC
 have m := rtakeF_fun j.2 (w64 (8 * F)) dv i Q R _ _ _ _ _ _ u (I.perm (pk 1 rfl)) I.fz; rw [dw] at m; refine m.mono ?_; clear m; rintro _ dx ⟨bE, bF, dy, rfl, av, A, hm⟩; refine ⟨_, rfl, ?_⟩; intro eM bG; have bH := hm; clear hm I bB
 replace s := s.mono av
 replace u := u.mono av
 replace q := Fz.le.trans q av
 have U : Mem w.heap.size [] w Z [.row i [str h.2.Reader.Row, i6 h.2.Reader.At, i6 h.2.Reader.Code, y8 h.2.Reader.c.last, i6 h.2.Reader.c.n, i6 h.2.f.ID, .bool h.2.f.Long, .bool h.2.f.Fast, .bool h.2.f.Remote, i6 h.2.f.Size, .slice bE h.2.f.Data.length bF] 61, .own t6 3 (sm z) y fsizes, .row l [i6 0, .bool false, .bool false, .bool false, i6 0, .slice none 0 0] 24] dy dx := bH; clear bH
 have bI := bD (A.small); clear bD
 refine s1 bG 8 (str h.1) ?_; intro eN bJ; clear bG
 refine nlH (bA _ _ ?_); clear bA du
 refine rgH ?_; intro dz bK
 refine bt bJ U 2 [] [] [(38, pt i 0), (39, str h.1)] ?_; intro eO bL; clear bJ
 refine ck bL 37 #[str h.1] ?_
 refine (bbytes_fun h.1 _ _ U.fz).mono ?_; rintro _ dA ⟨B, C, bM, rfl, hm⟩; refine ⟨_, rfl, ?_⟩; intro eP bN; have bO := U.callZ hm; have V := hm.ext.le; clear hm U bL
 replace s := s.mono V
 replace u := u.mono V
 replace A := A.mono V
 replace q := Fz.le.trans q V
 have W : Mem w.heap.size [] w Z [.own t8 5 B C ((bbytesS h.1).1), .row i [str h.2.Reader.Row, i6 h.2.Reader.At, i6 h.2.Reader.Code, y8 h.2.Reader.c.last, i6 h.2.Reader.c.n, i6 h.2.f.ID, .bool h.2.f.Long, .bool h.2.f.Fast, .bool h.2.f.Remote, i6 h.2.f.Size, .slice bE h.2.f.Data.length bF] 61, .own t6 3 (sm z) y fsizes, .row l [i6 0, .bool false, .bool false, .bool false, i6 0, .slice none 0 0] 24] bM dA := bO; clear bO
 have dB := bI (W.ownSmall 0 rfl); clear bI
 refine bt bN W 6 [] [] [(41, .slice B ((bbytesS h.1).1).length C), (45, pt i 10)] ?_; intro dC aw; clear bN
 refine sx aw W 1 [str h.2.Reader.Row, i6 h.2.Reader.At, i6 h.2.Reader.Code, y8 h.2.Reader.c.last, i6 h.2.Reader.c.n, i6 h.2.f.ID, .bool h.2.f.Long, .bool h.2.f.Fast, .bool h.2.f.Remote, i6 h.2.f.Size, .slice B ((bbytesS h.1).1).length C] 10 ?_; intro bP bQ; clear W
 have X : Mem w.heap.size [] w Z [.own t8 5 B C ((bbytesS h.1).1), .row i [str h.2.Reader.Row, i6 h.2.Reader.At, i6 h.2.Reader.Code, y8 h.2.Reader.c.last, i6 h.2.Reader.c.n, i6 h.2.f.ID, .bool h.2.f.Long, .bool h.2.f.Fast, .bool h.2.f.Remote, i6 h.2.f.Size, .slice B ((bbytesS h.1).1).length C] 61, .own t6 3 (sm z) y fsizes, .row l [i6 0, .bool false, .bool false, .bool false, i6 0, .slice none 0 0] 24] bM bP := bQ; clear bQ
 refine nlH (bK _ _ ?_); clear bK dz
 refine ibn ?_
 refine thn ?_
 refine wp_seq ?_
 have bR : Fr 158 [] [⟨2, [], pt l 0⟩, ⟨6, [], pt i 0⟩] dC := aw.region (by kernel_rfl) (by kernel_rfl); clear aw
 refine sqB bR X [1] [] [(81, .bool h.2.f.Fast)] ?_; intro eQ ax; clear bR
 obtain ⟨dD, dE⟩ := dB
 refine cn ax dD ?_
 refine sqB ax X [1] [] [(89, .bool (h.2.Reader.Code == 0))] ?_; intro eR ay; clear ax
 obtain ⟨dF, dG⟩ := dE
 refine cy ay dF ?_
 refine sqH ?_; intro dH bS
 refine bt ay X 4 [1] [] [(94, .agg #[i6 h.2.f.ID, .bool h.2.f.Long, .bool h.2.f.Fast, .bool h.2.f.Remote, i6 h.2.f.Size, .slice B ((bbytesS h.1).1).length C])] ?_; intro eT bT; clear ay
 obtain ⟨dI, Y, bU, G⟩ := X.freeze 0 rfl
 replace s := s.mono Y
 replace u := u.mono Y
 replace A := A.mono Y
 replace q := Fz.le.trans q Y
 have az : Mem w.heap.size [] w Z [.row i [str h.2.Reader.Row, i6 h.2.Reader.At, i6 h.2.Reader.Code, y8 h.2.Reader.c.last, i6 h.2.Reader.c.n, i6 h.2.f.ID, .bool h.2.f.Long, .bool h.2.f.Fast, .bool h.2.f.Remote, i6 h.2.f.Size, .slice B ((bbytesS h.1).1).length C] 61, .own t6 3 (sm z) y fsizes, .row l [i6 0, .bool false, .bool false, .bool false, i6 0, .slice none 0 0] 24] dI bP := bU; clear bU
 obtain ⟨dJ, dK⟩ := dG
 refine fc bT az (fhead_fun (⟨h.2.f.ID, h.2.f.Long, h.2.f.Fast, h.2.f.Remote, h.2.f.Size, (bbytesS h.1).1⟩ : Frame) dJ B C _ _ G az.fz) ?_; intro eU eV bV aA; clear bT az
 refine fc bV aA (csum_fun 0 (fheadS (⟨h.2.f.ID, h.2.f.Long, h.2.f.Fast, h.2.f.Remote, h.2.f.Size, (bbytesS h.1).1⟩ : Frame)) _ _ aA.fz) ?_; intro eW eX bW J; clear bV aA
 refine bt bW J 5 [] [] [(9, str ((csumS 0 (fheadS (⟨h.2.f.ID, h.2.f.Long, h.2.f.Fast, h.2.f.Remote, h.2.f.Size, (bbytesS h.1).1⟩ : Frame))).1))] ?_; intro eY bX; clear bW
 refine nlH (bS _ _ ?_); clear bS dH
 refine sqH ?_; intro dL bY
 refine bt bX J 3 [] [] [(101, pt i 0)] ?_; intro eZ bZ; clear bX
 obtain ⟨dM, b0⟩ := dK
 refine ck bZ 36 #[pt i 0, i6 15] ?_
 obtain ⟨t, dN, b1⟩ := hxq b0; clear b0
 have m := rtakeF_fun (⟨h.2.Reader, (⟨h.2.f.ID, h.2.f.Long, h.2.f.Fast, h.2.f.Remote, h.2.f.Size, (bbytesS h.1).1⟩ : Frame)⟩ : FReader) 15 dM i B C _ _ _ _ _ _ G J J.fz; rw [dN] at m; refine m.mono ?_; clear m; rintro _ dO ⟨b3, b4, dP, rfl, L, aa, hm⟩; refine ⟨_, rfl, ?_⟩; intro e0 b5; have b6 := hm; clear hm J bZ
 replace s := s.mono L
 replace u := u.mono L
 replace A := A.mono L
 replace G := G.mono L
 replace q := Fz.le.trans q L
 have M : Mem w.heap.size [] w Z [.row i [str t.2.Reader.Row, i6 t.2.Reader.At, i6 t.2.Reader.Code, y8 t.2.Reader.c.last, i6 t.2.Reader.c.n, i6 t.2.f.ID, .bool t.2.f.Long, .bool t.2.f.Fast, .bool t.2.f.Remote, i6 t.2.f.Size, .slice b3 t.2.f.Data.length b4] 61, .own t6 3 (sm z) y fsizes, .row l [i6 0, .bool false, .bool false, .bool false, i6 0, .slice none 0 0] 24] dP dO := b6; clear b6
 have dQ := b1 (aa.small); clear b1
 refine s1 b5 11 (str t.1) ?_; intro e1 b7; clear b5
 refine nlH (bY _ _ ?_); clear bY dL
 refine sqB b7 M [0] [270] [(113, .bool ((t.2.Reader.Code == 0) && (t.1 != ((csumS 0 (fheadS (⟨h.2.f.ID, h.2.f.Long, h.2.f.Fast, h.2.f.Remote, h.2.f.Size, (bbytesS h.1).1⟩ : Frame))).1))))] ?_; intro e2 aB; clear b7
 obtain ⟨dR, dS⟩ := dQ
 refine cn aB dR ?_
 refine wp_skip ?_
 refine thn ?_
 refine sqH ?_; intro dT b8
 refine bt aB M 3 [] [] [(118, pt i 0)] ?_; intro e3 b9; clear aB
 obtain ⟨dU, ca⟩ := dS
 refine ck b9 41 #[pt i 0, i6 10] ?_
 obtain ⟨a, dV, cb⟩ := hxq ca; clear ca
 have m := rplainF_fun t.2 10 dU i b3 b4 _ _ _ _ _ _ aa M M.fz; rw [dV] at m; refine m.mono ?_; clear m; rintro _ dW ⟨o, p, D, rfl, H, aC, hm⟩; refine ⟨_, rfl, ?_⟩; intro e4 cc; have cd := hm; clear hm M b9
 replace s := s.mono H
 replace u := u.mono H
 replace A := A.mono H
 replace G := G.mono H
 replace aa := aa.mono H
 replace q := Fz.le.trans q H
 have ab : Mem w.heap.size [] w Z [.row i [str a.2.Reader.Row, i6 a.2.Reader.At, i6 a.2.Reader.Code, y8 a.2.Reader.c.last, i6 a.2.Reader.c.n, i6 a.2.f.ID, .bool a.2.f.Long, .bool a.2.f.Fast, .bool a.2.f.Remote, i6 a.2.f.Size, .slice o a.2.f.Data.length p] 61, .own t6 3 (sm z) y fsizes, .row l [i6 0, .bool false, .bool false, .bool false, i6 0, .slice none 0 0] 24] D dW := cd; clear cd
 have ac := cb (aC.small); clear cb
 refine s1 cc 12 (str a.1) ?_; intro aD ce; clear cc
 refine nlH (b8 _ _ ?_); clear b8 dT
 refine wp_seq ?_
 have ae : Fr 158 [] [⟨2, [], pt l 0⟩, ⟨6, [], pt i 0⟩, ⟨12, [], str a.1⟩] aD := ce.region (by kernel_rfl) (by kernel_rfl); clear ce
 rcases Bool.eq_false_or_eq_true (a.2.Reader.Code == 0) with N | N
 · -- true
  have dX := ac.1 N; clear ac
  have cf : Fr 158 [] [⟨2, [], pt l 0⟩, ⟨6, [], pt i 0⟩, ⟨12, [], str a.1⟩] aD := ae.region (by kernel_rfl) (by kernel_rfl); clear ae
  refine sqQH mixed (by kernel_rfl) ab ?_; intro dY cg
  refine q1 cf 120 (pt i 0) ?_; intro e5 ch; clear cf
  refine q1 ch 121 (pt i 0) ?_; intro e6 ci; clear ch
  refine q1 ci 122 (pt i 0) ?_; intro e7 cj; clear ci
  refine q1 cj 123 (pt i 2) ?_; intro e8 aE; clear cj
  refine qst aE (i6 a.2.Reader.Code) (nog rfl _) rfl (by kernel_rfl) (fun v397 hC => ld aE hC 0 (g := []) (b := i) (off := 2) (cs := [str a.2.Reader.Row, i6 a.2.Reader.At, i6 a.2.Reader.Code, y8 a.2.Reader.c.last, i6 a.2.Reader.c.n, i6 a.2.f.ID, .bool a.2.f.Long, .bool a.2.f.Fast, .bool a.2.f.Remote, i6 a.2.f.Size, .slice o a.2.f.Data.length p]) (ty := 61) rfl (by kernel_rfl) (by kernel_rfl) (by kernel_rfl) (by kernel_rfl) rfl) ?_; intro e9 cl; clear aE
  refine q1 cl 125 (.bool (a.2.Reader.Code == 0)) ?_; intro fa cm; clear cl
  have co := cm.reval (d := 125) (c := []) (v := .bool (a.2.Reader.Code == 0)) (by kernel_rfl) (.bool true) (by rw [N]); clear cm
  refine q1 co 126 (.bool true) ?_; intro fb af; clear co
  refine qst af (str a.1) (by rw [wanted_of af (b := true) rfl rfl (by kernel_rfl) (by kernel_rfl)]; rfl) rfl (by kernel_rfl) (fun v407 hC => p0 af (by kernel_rfl)) ?_; intro fd ag; clear af
  obtain ⟨dZ, d0⟩ := dX
  refine qst ag (str (a.1.take (1 : Int).toNat)) (by rw [wanted_of ag (b := true) rfl rfl (by kernel_rfl) (by kernel_rfl)]; rfl) rfl (by kernel_rfl) (fun v410 hC => strslH_run ag (g := []) (k := .i64) rfl (by kernel_rfl) (by kernel_rfl) (by kernel_rfl) dZ rfl) ?_; intro fe ah; clear ag
  obtain ⟨d1, d2⟩ := d0
  refine qst ah (str ((a.1.take (1 : Int).toNat) ++ ([49] : List UInt8))) (by rw [wanted_of ah (b := true) rfl rfl (by kernel_rfl) (by kernel_rfl)]; rfl) rfl (by kernel_rfl) (fun v415 hC => stradd_run ah (g := []) rfl (by kernel_rfl) (by kernel_rfl) d1 rfl) ?_; intro ff ai; clear ah
  refine qst ai (str a.1) (by rw [wanted_of ai (b := true) rfl rfl (by kernel_rfl) (by kernel_rfl)]; rfl) rfl (by kernel_rfl) (fun v420 hC => p0 ai (by kernel_rfl)) ?_; intro fg aj; clear ai
  obtain ⟨d3, d4⟩ := d2
  refine qst aj (str (a.1.drop (2 : Int).toNat)) (by rw [wanted_of aj (b := true) rfl rfl (by kernel_rfl) (by kernel_rfl)]; rfl) rfl (by kernel_rfl) (fun v423 hC => strslL_run aj (g := []) (k := .i64) rfl (by kernel_rfl) (by kernel_rfl) (by kernel_rfl) d3 rfl) ?_; intro fh ak; clear aj
  obtain ⟨d5, d6⟩ := d4
  refine qst ak (str (((a.1.take (1 : Int).toNat) ++ ([49] : List UInt8)) ++ (a.1.drop (2 : Int).toNat))) (by rw [wanted_of ak (b := true) rfl rfl (by kernel_rfl) (by kernel_rfl)]; rfl) rfl (by kernel_rfl) (fun v428 hC => stradd_run ak (g := []) rfl (by kernel_rfl) (by kernel_rfl) d5 rfl) ?_; intro fi al; clear ak
  refine qst al (.bool ((((a.1.take (1 : Int).toNat) ++ ([49] : List UInt8)) ++ (a.1.drop (2 : Int).toNat)) != ([49, 49, 49, 49, 49, 49, 49, 49, 49, 49] : List UInt8))) (by rw [wanted_of al (b := true) rfl rfl (by kernel_rfl) (by kernel_rfl)]; rfl) rfl (by kernel_rfl) (fun v433 hC => strcmp_run al (g := []) (op := .neq) rfl (by kernel_rfl) (by kernel_rfl) (by decide) rfl) ?_; intro fj cp; clear al
  refine q1 cp 134 (.bool ((((a.1.take (1 : Int).toNat) ++ ([49] : List UInt8)) ++ (a.1.drop (2 : Int).toNat)) != ([49, 49, 49, 49, 49, 49, 49, 49, 49, 49] : List UInt8))) ?_; intro fk aF; clear cp
  refine qnl (cg _ ?_); clear cg dY; intro fl aG; clear ab
  obtain ⟨d7, d8⟩ := d6
  refine cn aF d7 ?_
  refine wp_skip ?_
  refine thn ?_
  refine wp_seq ?_
  refine sqB aF aG [0] [] [(142, .bool (a.2.Reader.Code != 0))] ?_; intro d9 aH; clear aF
  obtain ⟨ea, eb⟩ := d8
  refine cn aH ea ?_
  refine wp_skip ?_
  refine thn ?_
  have cq : Fr 158 [] [⟨2, [], pt l 0⟩, ⟨6, [], pt i 0⟩] d9 := aH.region (by kernel_rfl) (by kernel_rfl); clear aH
  refine wp_seq (rgS mixed aG [(0, true), (1, true), (2, true), (3, true), (4, true), (5, true), (6, true), (7, true), (8, true), (9, false), (10, true), (11, true)] [0] [.row i [str a.2.Reader.Row, i6 a.2.Reader.At, i6 a.2.Reader.Code, y8 a.2.Reader.c.last, i6 a.2.Reader.c.n, i6 a.2.f.ID, .bool a.2.f.Long, .bool a.2.f.Fast, .bool a.2.f.Remote, i6 a.2.f.Size, .slice o a.2.f.Data.length p] 61] ?_)
  intro ec cr fm ct; clear aG
  have ed := Fz.le.refl D
  refine cS cq 9 [0, 0] [] [(152, .agg #[i6 a.2.f.ID, .bool a.2.f.Long, .bool a.2.f.Fast, .bool a.2.f.Remote, i6 a.2.f.Size, .slice o a.2.f.Data.length p]), (157, i6 a.2.Reader.At)] ?_; intro fo aI; clear cq
  refine eS rfl ?_; intro ee cu
  refine sx aI ct 2 [i6 a.2.f.ID, .bool a.2.f.Long, .bool a.2.f.Fast, .bool a.2.f.Remote, i6 a.2.f.Size, .slice o a.2.f.Data.length p] 0 ?_; intro ef cv; clear ct
  have aJ : Mem w.heap.size [] w Z [.row i [str a.2.Reader.Row, i6 a.2.Reader.At, i6 a.2.Reader.Code, y8 a.2.Reader.c.last, i6 a.2.Reader.c.n, i6 a.2.f.ID, .bool a.2.f.Long, .bool a.2.f.Fast, .bool a.2.f.Remote, i6 a.2.f.Size, .slice o a.2.f.Data.length p] 61, .own t6 3 (sm z) y fsizes, .row l [i6 a.2.f.ID, .bool a.2.f.Long, .bool a.2.f.Fast, .bool a.2.f.Remote, i6 a.2.f.Size, .slice o a.2.f.Data.length p] 24] D ef := cv; clear cv
  refine nl (qnI (cu _ _ (aJ.cst ed [0]) ?_)); clear cu ee
  refine cS aI 2 [] [] [(3, i6 a.2.Reader.At), (4, i6 0)] ?_; intro fp cw; clear aI
  refine nS (cr _ _ ?_); clear cr ec
  refine thn ?_
  refine wp_ret ?_
  refine rt (fn := Tryz.f8) (v := .tuple #[.agg #[i6 a.2.f.ID, .bool a.2.f.Long, .bool a.2.f.Fast, .bool a.2.f.Remote, i6 a.2.f.Size, .slice o a.2.f.Data.length p], i6 a.2.Reader.At, i6 0]) cw (re3c cw (fn := Tryz.f8) rfl (ad := ⟨l, 0, none⟩) (by kernel_rfl) (loadVar_run aJ 2 (b := l) (k := 6) (vs := [i6 a.2.f.ID, .bool a.2.f.Long, .bool a.2.f.Fast, .bool a.2.f.Remote, i6 a.2.f.Size, .slice o a.2.f.Data.length p]) (ty := 24) rfl (by kernel_rfl) (by kernel_rfl)) (by kernel_rfl) (by kernel_rfl)) ?_
  exact ⟨(a.2.f, a.2.Reader.At, 0), o, p, D, rfl, eb, aC, aJ.keep (List.Sublist.cons _ (List.Sublist.cons _ (List.Sublist.cons _ (List.Sublist.slnil))))⟩
 · -- false
  have eg := ac.2 N; clear ac
  have cx : Fr 158 [] [⟨2, [], pt l 0⟩, ⟨6, [], pt i 0⟩, ⟨12, [], str a.1⟩] aD := ae.region (by kernel_rfl) (by kernel_rfl); clear ae
  refine sqQH mixed (by kernel_rfl) ab ?_; intro eh cz
  refine q1 cx 120 (pt i 0) ?_; intro fq cA; clear cx
  refine q1 cA 121 (pt i 0) ?_; intro fr cB; clear cA
  refine q1 cB 122 (pt i 0) ?_; intro fs cC; clear cB
  refine q1 cC 123 (pt i 2) ?_; intro ft aK; clear cC
  refine qst aK (i6 a.2.Reader.Code) (nog rfl _) rfl (by kernel_rfl) (fun v506 hC => ld aK hC 0 (g := []) (b := i) (off := 2) (cs := [str a.2.Reader.Row, i6 a.2.Reader.At, i6 a.2.Reader.Code, y8 a.2.Reader.c.last, i6 a.2.Reader.c.n, i6 a.2.f.ID, .bool a.2.f.Long, .bool a.2.f.Fast, .bool a.2.f.Remote, i6 a.2.f.Size, .slice o a.2.f.Data.length p]) (ty := 61) rfl (by kernel_rfl) (by kernel_rfl) (by kernel_rfl) (by kernel_rfl) rfl) ?_; intro fu cD; clear aK
  refine q1 cD 125 (.bool (a.2.Reader.Code == 0)) ?_; intro fv cE; clear cD
  have cF := cE.reval (d := 125) (c := []) (v := .bool (a.2.Reader.Code == 0)) (by kernel_rfl) (.bool false) (by rw [N]); clear cE
  refine q1 cF 126 (.bool false) ?_; intro fw cG; clear cF
  refine qsk cG (b := false) rfl rfl (by kernel_rfl) (by kernel_rfl) rfl rfl (by kernel_rfl) ?_; intro fx cH; clear cG
  refine qsk cH (b := false) rfl rfl (by kernel_rfl) (by kernel_rfl) rfl rfl (by kernel_rfl) ?_; intro fy cI; clear cH
  refine qsk cI (b := false) rfl rfl (by kernel_rfl) (by kernel_rfl) rfl rfl (by kernel_rfl) ?_; intro fA cJ; clear cI
  refine qsk cJ (b := false) rfl rfl (by kernel_rfl) (by kernel_rfl) rfl rfl (by kernel_rfl) ?_; intro fB cK; clear cJ
  refine qsk cK (b := false) rfl rfl (by kernel_rfl) (by kernel_rfl) rfl rfl (by kernel_rfl) ?_; intro fC cL; clear cK
  refine qsk cL (b := false) rfl rfl (by kernel_rfl) (by kernel_rfl) rfl rfl (by kernel_rfl) ?_; intro fD cM; clear cL
  refine qsk cM (b := false) rfl rfl (by kernel_rfl) (by kernel_rfl) rfl rfl (by kernel_rfl) ?_; intro fE cN; clear cM
  refine q1 cN 134 (.bool false) ?_; intro fF aL; clear cN
  refine qnl (cz _ ?_); clear cz eh; intro fG aM; clear ab
  refine cdF aL (by kernel_rfl) ?_
  refine wp_skip ?_
  refine thn ?_
  refine wp_seq ?_
  refine sqB aL aM [0] [] [(142, .bool (a.2.Reader.Code != 0))] ?_; intro ei aN; clear aL
  obtain ⟨ej, ek⟩ := eg
  refine cn aN ej ?_
  refine wp_skip ?_
  refine thn ?_
  have cO : Fr 158 [] [⟨2, [], pt l 0⟩, ⟨6, [], pt i 0⟩] ei := aN.region (by kernel_rfl) (by kernel_rfl); clear aN
  refine wp_seq (rgS mixed aM [(0, true), (1, true), (2, true), (3, true), (4, true), (5, true), (6, true), (7, true), (8, true), (9, false), (10, true), (11, true)] [0] [.row i [str a.2.Reader.Row, i6 a.2.Reader.At, i6 a.2.Reader.Code, y8 a.2.Reader.c.last, i6 a.2.Reader.c.n, i6 a.2.f.ID, .bool a.2.f.Long, .bool a.2.f.Fast, .bool a.2.f.Remote, i6 a.2.f.Size, .slice o a.2.f.Data.length p] 61] ?_)
  intro el cP fH cQ; clear aM
  have em := Fz.le.refl D
  refine cS cO 9 [0, 0] [] [(152, .agg #[i6 a.2.f.ID, .bool a.2.f.Long, .bool a.2.f.Fast, .bool a.2.f.Remote, i6 a.2.f.Size, .slice o a.2.f.Data.length p]), (157, i6 a.2.Reader.At)] ?_; intro fI aO; clear cO
  refine eS rfl ?_; intro en cR
  refine sx aO cQ 2 [i6 a.2.f.ID, .bool a.2.f.Long, .bool a.2.f.Fast, .bool a.2.f.Remote, i6 a.2.f.Size, .slice o a.2.f.Data.length p] 0 ?_; intro eo cT; clear cQ
  have aP : Mem w.heap.size [] w Z [.row i [str a.2.Reader.Row, i6 a.2.Reader.At, i6 a.2.Reader.Code, y8 a.2.Reader.c.last, i6 a.2.Reader.c.n, i6 a.2.f.ID, .bool a.2.f.Long, .bool a.2.f.Fast, .bool a.2.f.Remote, i6 a.2.f.Size, .slice o a.2.f.Data.length p] 61, .own t6 3 (sm z) y fsizes, .row l [i6 a.2.f.ID, .bool a.2.f.Long, .bool a.2.f.Fast, .bool a.2.f.Remote, i6 a.2.f.Size, .slice o a.2.f.Data.length p] 24] D eo := cT; clear cT
  refine nl (qnI (cR _ _ (aP.cst em [0]) ?_)); clear cR en
  refine cS aO 2 [] [] [(3, i6 a.2.Reader.At), (4, i6 0)] ?_; intro fJ cU; clear aO
  refine nS (cP _ _ ?_); clear cP el
  refine thn ?_
  refine wp_ret ?_
  refine rt (fn := Tryz.f8) (v := .tuple #[.agg #[i6 a.2.f.ID, .bool a.2.f.Long, .bool a.2.f.Fast, .bool a.2.f.Remote, i6 a.2.f.Size, .slice o a.2.f.Data.length p], i6 a.2.Reader.At, i6 0]) cU (re3c cU (fn := Tryz.f8) rfl (ad := ⟨l, 0, none⟩) (by kernel_rfl) (loadVar_run aP 2 (b := l) (k := 6) (vs := [i6 a.2.f.ID, .bool a.2.f.Long, .bool a.2.f.Fast, .bool a.2.f.Remote, i6 a.2.f.Size, .slice o a.2.f.Data.length p]) (ty := 24) rfl (by kernel_rfl) (by kernel_rfl)) (by kernel_rfl) (by kernel_rfl)) ?_
  exact ⟨(a.2.f, a.2.Reader.At, 0), o, p, D, rfl, ek, aC, aP.keep (List.Sublist.cons _ (List.Sublist.cons _ (List.Sublist.cons _ (List.Sublist.slnil))))⟩

end Go.Proofs.YtmbdcehmeiiaoaaGreatDoor
set_option linter.unusedVariables false
set_option linter.unusedSimpArgs false
namespace Go.Proofs.YtmbdcehmeiiaoaaGreatDoor
open Go.Sy Go.RowKit
theorem fRead_fun (u0 : List UInt8) (hpre : u0 = litB)  (Z : Fz) (w : World)  (hZ : Z.on w) : Calls Tryz.prog 8 #[str u0] w fun e w' => ∃ (ao1001 : Option Addr) (cap1002 : Nat) (Z' : Fz), e = .returned (.tuple #[.agg #[i6 (readS u0).1.ID, .bool (readS u0).1.Long, .bool (readS u0).1.Fast, .bool (readS u0).1.Remote, i6 (readS u0).1.Size, .slice ao1001 (readS u0).1.Data.length cap1002], i6 (readS u0).2.1, i6 (readS u0).2.2]) ∧ SlR t8 Z' ao1001 cap1002 (readS u0).1.Data ∧ Mem w.heap.size [] w Z [] Z' w' :=
  (fRead_walk u0  Z w  hZ (fRead_ok u0 hpre)).mono fun _ _ ⟨r, h0, h1, h2, he, hk, f0, hm⟩ => by subst hk; exact ⟨h0, h1, h2, he, f0, hm⟩

theorem fSame_fun (u0 : Frame) (u1 : Frame) (ao1 : Option Addr) (cap2 : Nat) (ao4 : Option Addr) (cap5 : Nat) (Z : Fz) (w : World) (hs3 : SlR t8 Z ao1 cap2 u0.Data) (hs6 : SlR t8 Z ao4 cap5 u1.Data) (hZ : Z.on w) : Calls Tryz.prog 19 #[.agg #[i6 u0.ID, .bool u0.Long, .bool u0.Fast, .bool u0.Remote, i6 u0.Size, .slice ao1 u0.Data.length cap2], .agg #[i6 u1.ID, .bool u1.Long, .bool u1.Fast, .bool u1.Remote, i6 u1.Size, .slice ao4 u1.Data.length cap5]] w fun e w' => e = .returned (.bool (sameS u0 u1)) ∧ Below w.heap.size w w' :=
  (fSame_walk u0 u1 ao1 cap2 ao4 cap5 Z w hs3 hs6 hZ (fSame_ok u0 u1)).mono fun _ _ ⟨r, he, hk, hb⟩ => ⟨by subst hk; exact he, hb⟩

theorem rSame_fun (u0 : Frame) (u1 : Frame) (ao1 : Option Addr) (cap2 : Nat) (ao4 : Option Addr) (cap5 : Nat) (Z : Fz) (w : World) (hs3 : SlR t8 Z ao1 cap2 u0.Data) (hs6 : SlR t8 Z ao4 cap5 u1.Data) (hZ : Z.on w) : Calls Tryz.prog 13 #[.agg #[i6 u0.ID, .bool u0.Long, .bool u0.Fast, .bool u0.Remote, i6 u0.Size, .slice ao1 u0.Data.length cap2], .agg #[i6 u1.ID, .bool u1.Long, .bool u1.Fast, .bool u1.Remote, i6 u1.Size, .slice ao4 u1.Data.length cap5]] w fun e w' => e = .returned (.bool (sameS u0 u1)) ∧ Below w.heap.size w w' :=
  (rSame_walk u0 u1 ao1 cap2 ao4 cap5 Z w hs3 hs6 hZ (rSame_ok u0 u1)).mono fun _ _ ⟨r, he, hk, hb⟩ => ⟨by subst hk; exact he, hb⟩

end Go.Proofs.YtmbdcehmeiiaoaaGreatDoor
