/- Texts put together (pure ones, or walks made by program). -/
import Derived.Test.YtdndfbamhnchfaaKz0
import Derived.Test.YtdndfbamhnchfaaKz1
import Derived.Test.YtdndfbamhnchfaaKz2
import Derived.Test.YtdndfbamhnchfaaKz3
set_option linter.unusedVariables false
set_option linter.unusedSimpArgs false
set_option maxRecDepth 100000
set_option maxHeartbeats 0
namespace Go.Proofs.Ytdndfbamhnchfaa
open Go.Sy Go.RowKit
abbrev e23Nm (X : Signal) : List Value := [str X.Name, i6 X.Start, i6 X.Size, .bool X.Back, .bool X.Signed, i6 X.Mul, i6 X.Div, i6 X.Add, i6 X.Key]
abbrev e41Nm (X : BRat) (A0 : Option Addr) (C0 : Nat) (A1 : Option Addr) (C1 : Nat) : List Value := [.bool X.a.neg, .slice A0 X.a.abs.length C0, .bool X.b.neg, .slice A1 X.b.abs.length C1]
abbrev e30Nm (X : Reading) : List Value := [str X.Name, i6 X.Num, i6 X.Den]
theorem splc_fun (u0 : Signal) (u1 : Int)  (Z : Fz) (w : World)  (hZ : Z.on w) : Calls Try.prog 10 #[.agg #[str u0.Name, i6 u0.Start, i6 u0.Size, .bool u0.Back, .bool u0.Signed, i6 u0.Mul, i6 u0.Div, i6 u0.Add, i6 u0.Key], i6 u1] w fun e w' => ∃ (ao1001 : Option Addr) (cap1002 : Nat) (Z' : Fz), e = .returned (.tuple #[.slice ao1001 (splcS u0 u1).1.length cap1002, i6 (splcS u0 u1).2]) ∧ Mem w.heap.size [] w Z [.own t6 3 ao1001 cap1002 (splcS u0 u1).1] Z' w' :=
  (splc_walk u0 u1  Z w  hZ (splc_ok u0 u1)).mono fun _ _ ⟨r, h0, h1, h2, he, hk, hm⟩ => by subst hk; exact ⟨h0, h1, h2, he, hm⟩

theorem scontains_fun (u0 : List Int) (u1 : Int) (ao1 : Option Addr) (cap2 : Nat) (Z : Fz) (w : World) (hs3 : SlR t6 Z ao1 cap2 u0) (hZ : Z.on w) : Calls Try.prog 13 #[.slice ao1 u0.length cap2, i6 u1] w fun e w' => e = .returned (.bool (scontainsS u0 u1)) ∧ Below w.heap.size w w' :=
  (scontains_walk u0 u1 ao1 cap2 Z w hs3 hZ (scontains_ok u0 u1)).mono fun _ _ ⟨r, he, hk, hb⟩ => ⟨by subst hk; exact he, hb⟩

theorem signalled_fun   (Z : Fz) (w : World)  (hZ : Z.on w) : Calls Try.prog 8 #[] w fun e w' => e = .returned (.bool true) ∧ Below w.heap.size w w' :=
  (signalled_walk   Z w  hZ (signalled_ok )).mono fun _ _ ⟨r, he, hk, hb⟩ => ⟨by subst hk; exact he, hb⟩

theorem LSBack_walk (u0 : Signal) (u1 : List Int) (u2 : Int) (u3 : Int) (ao1 : Option Addr) (cap2 : Nat) (Z : Fz) (w : World) (hs3 : SlR t8 Z ao1 cap2 u1) (hZ : Z.on w) {K : Bool → Prop} (hp : LSBack_vc u0 u1 u2 u3 K) : Calls Try.prog 3 #[.agg #[str u0.Name, i6 u0.Start, i6 u0.Size, .bool u0.Back, .bool u0.Signed, i6 u0.Mul, i6 u0.Div, i6 u0.Add, i6 u0.Key], .slice ao1 u1.length cap2, i6 u2, i6 u3] w fun e w' => ∃ r : Bool, e = .returned (.bool r) ∧ K r ∧ Below w.heap.size w w' := by
 refine enter0 Try.func3 rfl rfl (by kernel_rfl) ?_; intro a0 cm; have cn := Mem.start w Z hZ; have p := Fz.le.refl Z
 have fv := hp (hs3.small); clear hp
 refine sqH ?_; intro fw co
 refine nw cm cn pb (e23Nm u0) 23 ?_; intro i a7 hF cp aT; clear cm cn
 refine s1 cp 8 (.bool false) ?_; intro hG cq; clear cp
 refine nlH (co _ _ ?_); clear co fw
 refine sqH ?_; intro fx cr
 refine bt cq aT 4 [0] [] [(26, .agg (e23Nm u0).toArray), (27, .slice ao1 u1.length cap2), (28, i6 u2), (29, i6 u3)] ?_; intro hH ct; clear cq
 obtain ⟨fy, cu⟩ := fv
 refine ck ct 7 #[.agg (e23Nm u0).toArray, .slice ao1 u1.length cap2, i6 u2, i6 u3] ?_
 refine (swrite_fun u0 u1 u2 u3 fy ao1 cap2 _ _ hs3 aT.fz).mono ?_; rintro _ fA ⟨n, o, aB, rfl, hm⟩; refine ⟨_, rfl, ?_⟩; intro hI cv; have cw := aT.callZ hm; have cx := hm.ext.le; clear hm aT ct
 replace hs3 := hs3.mono cx
 replace p := Fz.le.trans p cx
 have aC : Mem w.heap.size [] w Z [.own t8 5 n o (swriteS u0 u1 u2 u3).1, .row i (e23Nm u0) 23] aB fA := cw; clear cw
 have aU := cu (aC.ownSmall 0 rfl); clear cu
 refine bt cv aC 5 [] [] [(9, .slice n (swriteS u0 u1 u2 u3).1.length o), (10, i6 (swriteS u0 u1 u2 u3).2)] ?_; intro hJ cy; clear cv
 refine nlH (cr _ _ ?_); clear cr fx
 refine wp_seq ?_
 refine sqH ?_; intro fB cz
 refine fc cy aC (signalled_fun  _ _ aC.fz) ?_; intro hK hL cA W; clear cy aC
 refine s1 cA 34 (.bool false) ?_; intro hM bn; clear cA
 refine nlH (cz _ _ ?_); clear cz fB
 refine cdF bn (by kernel_rfl) ?_
 refine wp_skip ?_
 refine thn ?_
 refine wp_seq ?_
 refine sqB bn W [] [] [(36, .bool ((swriteS u0 u1 u2 u3).2 == 0))] ?_; intro hN aD; clear bn
 refine cd aD (t := (swriteS u0 u1 u2 u3).2 == 0) (by kernel_rfl) (fun bo => ?_) (fun bo => ?_)
 ·
  have fC := aU.1 bo; clear aU
  refine sqH ?_; intro fD cB
  refine bt aD W 2 [1] [] [(38, .agg (e23Nm u0).toArray), (39, .slice n (swriteS u0 u1 u2 u3).1.length o)] ?_; intro hO cC; clear aD
  obtain ⟨fE, cD⟩ := fC
  refine fc cC W ((by obtain ⟨Z9, ah, I, fF⟩ := W.lend 0 rfl; exact sread_fun u0 (swriteS u0 u1 u2 u3).1 fE n o _ _ fF I)) ?_; intro hP hQ cE bp; clear cC W
  refine bt cE bp 4 [] [] [(41, i6 (sreadS u0 (swriteS u0 u1 u2 u3).1).1), (42, .agg (e30Nm ((sreadS u0 (swriteS u0 u1 u2 u3).1).2.1)).toArray), (43, i6 (sreadS u0 (swriteS u0 u1 u2 u3).1).2.2)] ?_; intro hR cF; clear cE
  refine nw cF bp pb [str [], i6 0, i6 0] 30 ?_; intro u hS hT cG cH; clear cF bp
  refine s1 cG 11 (i6 (sreadS u0 (swriteS u0 u1 u2 u3).1).1) ?_; intro hU bq; clear cG
  refine sx bq cH 0 (e30Nm ((sreadS u0 (swriteS u0 u1 u2 u3).1).2.1)) 0 ?_; intro fG cI; clear cH
  refine s1 bq 13 (i6 (sreadS u0 (swriteS u0 u1 u2 u3).1).2.2) ?_; intro hV cJ; clear bq
  have aV : Mem w.heap.size [] w Z [.row u (e30Nm ((sreadS u0 (swriteS u0 u1 u2 u3).1).2.1)) 30, .own t8 5 n o (swriteS u0 u1 u2 u3).1, .row i (e23Nm u0) 23] aB fG := cI; clear cI
  refine nlH (cB _ _ ?_); clear cB fD
  refine sqH ?_; intro fH cK
  refine bt cJ aV 3 [2] [] [(45, .agg (e23Nm u0).toArray), (47, i6 (u1.length : Int))] ?_; intro hW cL; clear cJ
  refine ck cL 10 #[.agg (e23Nm u0).toArray, i6 (u1.length : Int)] ?_
  refine (splc_fun u0 (u1.length : Int) _ _ aV.fz).mono ?_; rintro _ fI ⟨j, l, fJ, rfl, hm⟩; refine ⟨_, rfl, ?_⟩; intro hX cM; have cN := aV.callZ hm; have cO := hm.ext.le; clear hm aV cL
  replace hs3 := hs3.mono cO
  replace p := Fz.le.trans p cO
  have ag : Mem w.heap.size [] w Z [.own t6 3 j l (splcS u0 (u1.length : Int)).1, .row u (e30Nm ((sreadS u0 (swriteS u0 u1 u2 u3).1).2.1)) 30, .own t8 5 n o (swriteS u0 u1 u2 u3).1, .row i (e23Nm u0) 23] fJ fI := cN; clear cN
  have aW := cD (ag.ownSmall 0 rfl); clear cD
  refine bt cM ag 5 [] [] [(14, .slice j (splcS u0 (u1.length : Int)).1.length l), (15, i6 (splcS u0 (u1.length : Int)).2)] ?_; intro fK cP; clear cM
  refine nlH (cK _ _ ?_); clear cK fH
  refine wp_seq ?_
  have cQ : Fr 168 [] [⟨1, [], .slice ao1 u1.length cap2⟩, ⟨2, [], i6 u2⟩, ⟨3, [], i6 u3⟩, ⟨4, [], pt i 0⟩, ⟨9, [], .slice n (swriteS u0 u1 u2 u3).1.length o⟩, ⟨12, [], pt u 0⟩, ⟨13, [], i6 (sreadS u0 (swriteS u0 u1 u2 u3).1).2.2⟩, ⟨14, [], .slice j (splcS u0 (u1.length : Int)).1.length l⟩, ⟨15, [], i6 (splcS u0 (u1.length : Int)).2⟩] fK := cP.reg; clear cP
  refine sqH ?_; intro cR aX
  refine bt cQ ag 7 [] [] [(57, .bool (((sreadS u0 (swriteS u0 u1 u2 u3).1).2.2 != 0) || ((splcS u0 (u1.length : Int)).2 != 0)))] ?_; intro hY aY; clear cQ
  rcases Bool.eq_false_or_eq_true (((sreadS u0 (swriteS u0 u1 u2 u3).1).2.2 != 0) || ((splcS u0 (u1.length : Int)).2 != 0)) with aE | aE
  ·
   have fL := aW.1 aE; clear aW
   have cT := aY.reval (d := 57) (c := []) (v := .bool (((sreadS u0 (swriteS u0 u1 u2 u3).1).2.2 != 0) || ((splcS u0 (u1.length : Int)).2 != 0))) (by kernel_rfl) (.bool true) (by rw [aE]); clear aY
   refine bt cT ag 13 [] [58, 59, 60, 61, 62, 63, 64, 65, 66, 67, 68, 69, 70] [(70, .bool true)] ?_; intro h0 br; clear cT
   refine nlH (aX _ _ ?_); clear aX cR
   refine cdT br (by kernel_rfl) ?_
   refine sqB br ag [] [] [(8, .bool false)] ?_; intro h1 fM; clear br
   refine wp_ret ?_
   refine thr ?_
   refine thr ?_
   refine ra1 fM (.bool false) ?_
   exact ⟨false, rfl, fL, ag.below⟩
  have fN := aW.2 aE; clear aW
  have bs := aY.reval (d := 57) (c := []) (v := .bool (((sreadS u0 (swriteS u0 u1 u2 u3).1).2.2 != 0) || ((splcS u0 (u1.length : Int)).2 != 0))) (by kernel_rfl) (.bool false) (by rw [aE]); clear aY
  refine sn bs ag (fun b => pt b 0) [.bool false, .slice none 0 0, .bool false, .slice none 0 0] 41 (by rw [wanted_of bs (b := false) rfl rfl (by kernel_rfl) (by kernel_rfl)]; rfl) rfl (by kernel_rfl) (by kernel_rfl) ?_; intro q h2 h3 cU aZ; clear bs ag
  refine bt cU aZ 4 [2, 2] [59, 60, 61, 62] [(60, i6 (sreadS u0 (swriteS u0 u1 u2 u3).1).2.1.Num), (62, i6 (sreadS u0 (swriteS u0 u1 u2 u3).1).2.1.Den)] ?_; intro h4 bu; clear cU
  obtain ⟨fO, cV⟩ := fN
  refine cl bu 11 #[pt q 0, i6 (sreadS u0 (swriteS u0 u1 u2 u3).1).2.1.Num, i6 (sreadS u0 (swriteS u0 u1 u2 u3).1).2.1.Den] (by rw [wanted_of bu (b := false) rfl rfl (by kernel_rfl) (by kernel_rfl)]; rfl) rfl (by kernel_rfl) (by kernel_rfl) ?_
  obtain ⟨X, fP, cW⟩ := hxq cV; clear cV
  have J := rsf64_fun (⟨(⟨false, []⟩ : BInt), (⟨false, []⟩ : BInt)⟩ : BRat) (sreadS u0 (swriteS u0 u1 u2 u3).1).2.1.Num (sreadS u0 (swriteS u0 u1 u2 u3).1).2.1.Den fO q none 0 none 0 _ _ _ _ _ _ (SlR.nil _ _) (SlR.nil _ _) aZ aZ.fz; rw [fP] at J; refine J.mono ?_; clear J; rintro _ fQ ⟨bv, bw, bx, bz, fR, rfl, cX, y, A, hm⟩; refine ⟨_, rfl, ?_⟩; intro h5 bA; have cY := hm; clear hm aZ bu
  replace hs3 := hs3.mono cX
  replace p := Fz.le.trans p cX
  have cZ : Mem w.heap.size [] w Z [.row q (e41Nm X bv bw bx bz) 41, .own t6 3 j l (splcS u0 (u1.length : Int)).1, .row u (e30Nm ((sreadS u0 (swriteS u0 u1 u2 u3).1).2.1)) 30, .own t8 5 n o (swriteS u0 u1 u2 u3).1, .row i (e23Nm u0) 23] fR fQ := cY; clear cY
  have c0 := cW (y.small); clear cW
  have fS := c0 (A.small); clear c0
  refine sn bA cZ (fun b => pt b 0) [.bool false, .slice none 0 0, .bool false, .slice none 0 0] 41 (by rw [wanted_of bA (b := false) rfl rfl (by kernel_rfl) (by kernel_rfl)]; rfl) rfl (by kernel_rfl) (by kernel_rfl) ?_; intro x h6 h7 c1 a2; clear bA cZ
  refine bt c1 a2 2 [] [65, 66] [(65, i6 u2), (66, i6 u3)] ?_; intro h8 bB; clear c1
  obtain ⟨fT, c2⟩ := fS
  refine cl bB 11 #[pt x 0, i6 u2, i6 u3] (by rw [wanted_of bB (b := false) rfl rfl (by kernel_rfl) (by kernel_rfl)]; rfl) rfl (by kernel_rfl) (by kernel_rfl) ?_
  obtain ⟨aF, fU, c3⟩ := hxq c2; clear c2
  have J := rsf64_fun (⟨(⟨false, []⟩ : BInt), (⟨false, []⟩ : BInt)⟩ : BRat) u2 u3 fT x none 0 none 0 _ _ _ _ _ _ (SlR.nil _ _) (SlR.nil _ _) a2 a2.fz; rw [fU] at J; refine J.mono ?_; clear J; rintro _ fV ⟨c4, c5, c6, c7, fW, rfl, a3, E, F, hm⟩; refine ⟨_, rfl, ?_⟩; intro ia bC; have c8 := hm; clear hm a2 bB
  replace hs3 := hs3.mono a3
  replace y := y.mono a3
  replace A := A.mono a3
  replace p := Fz.le.trans p a3
  have bD : Mem w.heap.size [] w Z [.row x (e41Nm aF c4 c5 c6 c7) 41, .row q (e41Nm X bv bw bx bz) 41, .own t6 3 j l (splcS u0 (u1.length : Int)).1, .row u (e30Nm ((sreadS u0 (swriteS u0 u1 u2 u3).1).2.1)) 30, .own t8 5 n o (swriteS u0 u1 u2 u3).1, .row i (e23Nm u0) 23] fW fV := c8; clear c8
  have c9 := c3 (E.small); clear c3
  have fX := c9 (F.small); clear c9
  obtain ⟨fY, da⟩ := fX
  refine cl bC 12 #[pt q 0, pt x 0] (by rw [wanted_of bC (b := false) rfl rfl (by kernel_rfl) (by kernel_rfl)]; rfl) rfl (by kernel_rfl) (by kernel_rfl) ?_
  obtain ⟨f, fZ, db⟩ := hxq da; clear da
  have J := rcmp_fun X aF fY q bv bw bx bz x c4 c5 c6 c7 _ _ _ _ _ _ y A E F (bD.perm ((pk 1 rfl).trans (lpr.cons _))) bD.fz; rw [fZ] at J; refine J.mono ?_; clear J; rintro _ dc ⟨L, M, N, O, P, Q, R, S, f0, rfl, am, Y, aa, ab, ac, hm⟩; refine ⟨_, rfl, ?_⟩; intro ib dd; have de := hm; clear hm bD bC
  replace hs3 := hs3.mono am
  replace y := y.mono am
  replace A := A.mono am
  replace E := E.mono am
  replace F := F.mono am
  replace p := Fz.le.trans p am
  have aG : Mem w.heap.size [] w Z [.row q (e41Nm f.2.1 L M N O) 41, .row x (e41Nm f.2.2 P Q R S) 41, .own t6 3 j l (splcS u0 (u1.length : Int)).1, .row u (e30Nm ((sreadS u0 (swriteS u0 u1 u2 u3).1).2.1)) 30, .own t8 5 n o (swriteS u0 u1 u2 u3).1, .row i (e23Nm u0) 23] f0 dc := de; clear de
  have df := db (Y.small); clear db
  have dg := df (aa.small); clear df
  have dh := dg (ab.small); clear dg
  have a4 := dh (ac.small); clear dh
  refine bt dd aG 2 [] [69, 70] [(70, .bool (f.1 != 0))] ?_; intro ic aH; clear dd
  refine nlH (aX _ _ ?_); clear aX cR
  refine cd aH (t := f.1 != 0) (by kernel_rfl) (fun bE => ?_) (fun bE => ?_)
  ·
   have f1 := a4.1 bE; clear a4
   refine sqB aH aG [] [] [(8, .bool false)] ?_; intro id f2; clear aH
   refine wp_ret ?_
   refine thr ?_
   refine thr ?_
   refine ra1 f2 (.bool false) ?_
   exact ⟨false, rfl, f1, aG.below⟩
  have f3 := a4.2 bE; clear a4
  refine wp_skip ?_
  refine thn ?_
  refine sqB aH aG [] [] [(73, i6 (w64 (8 * (u1.length : Int)))), (74, i6 0)] ?_; intro di dj; clear aH
  refine wp_block ?_
  have dk : Fr 168 [] [⟨1, [], .slice ao1 u1.length cap2⟩, ⟨4, [], pt i 0⟩, ⟨9, [], .slice n (swriteS u0 u1 u2 u3).1.length o⟩, ⟨14, [], .slice j (splcS u0 (u1.length : Int)).1.length l⟩, ⟨73, [], i6 (w64 (8 * (u1.length : Int)))⟩, ⟨74, [], i6 0⟩] di := dj.reg; clear dj
  obtain ⟨ai, U, dl, aj⟩ := aG.freeze 4 rfl
  replace hs3 := hs3.mono U
  replace y := y.mono U
  replace A := A.mono U
  replace E := E.mono U
  replace F := F.mono U
  replace Y := Y.mono U
  replace aa := aa.mono U
  replace ab := ab.mono U
  replace ac := ac.mono U
  replace p := Fz.le.trans p U
  have dm : Mem w.heap.size [] w Z [.row q (e41Nm f.2.1 L M N O) 41, .row x (e41Nm f.2.2 P Q R S) 41, .own t6 3 j l (splcS u0 (u1.length : Int)).1, .row u (e30Nm ((sreadS u0 (swriteS u0 u1 u2 u3).1).2.1)) 30, .row i (e23Nm u0) 23] ai dc := dl; clear dl
  have dn : Fr 168 [] [⟨1, [], .slice ao1 u1.length cap2⟩, ⟨4, [], pt i 0⟩, ⟨9, [], .slice n (swriteS u0 u1 u2 u3).1.length o⟩, ⟨14, [], .slice j (splcS u0 (u1.length : Int)).1.length l⟩, ⟨73, [], i6 (w64 (8 * (u1.length : Int)))⟩, ⟨74, [], i6 0⟩] di := dk.reg; clear dk
  obtain ⟨f4, f5, f6, f7⟩ := f3
  refine lp (ι := Int) (fun s => [⟨1, [], .slice ao1 u1.length cap2⟩, ⟨4, [], pt i 0⟩, ⟨9, [], .slice n (swriteS u0 u1 u2 u3).1.length o⟩, ⟨14, [], .slice j (splcS u0 (u1.length : Int)).1.length l⟩, ⟨73, [], i6 (w64 (8 * (u1.length : Int)))⟩, ⟨74, [], i6 s⟩]) (fun s => [.row q (e41Nm f.2.1 L M N O) 41, .row x (e41Nm f.2.2 P Q R S) 41, .own t6 3 j l (splcS u0 (u1.length : Int)).1, .row u (e30Nm ((sreadS u0 (swriteS u0 u1 u2 u3).1).2.1)) 30, .row i (e23Nm u0) 23]) (fun s => ai) (fun s => f4 s) (fun s => f5 s) 0 f6 (by exact dn.reg) (by exact dm) ?_
  rintro h f8 f9 ga dp dq
  have dr : Fr 168 [] [⟨1, [], .slice ao1 u1.length cap2⟩, ⟨4, [], pt i 0⟩, ⟨9, [], .slice n (swriteS u0 u1 u2 u3).1.length o⟩, ⟨14, [], .slice j (splcS u0 (u1.length : Int)).1.length l⟩, ⟨73, [], i6 (w64 (8 * (u1.length : Int)))⟩, ⟨74, [], i6 h⟩] f9 := dp; clear dp dn
  have V : Mem w.heap.size [] w Z [.row q (e41Nm f.2.1 L M N O) 41, .row x (e41Nm f.2.2 P Q R S) 41, .own t6 3 j l (splcS u0 (u1.length : Int)).1, .row u (e30Nm ((sreadS u0 (swriteS u0 u1 u2 u3).1).2.1)) 30, .row i (e23Nm u0) 23] ai ga := dq; clear dq dm
  have a5 := f7 h f8
  refine sqB dr V [] [] [(75, .bool (decide (h < (w64 (8 * (u1.length : Int))))))] ?_; intro ds aI; clear dr
  refine wp_seq ?_
  refine cd aI (t := decide (h < (w64 (8 * (u1.length : Int))))) (by kernel_rfl) (fun bF => ?_) (fun bF => ?_)
  ·
   have gb := a5.1 bF; clear a5
   refine wp_skip ?_
   refine thn ?_
   have dt : Fr 168 [] [⟨1, [], .slice ao1 u1.length cap2⟩, ⟨4, [], pt i 0⟩, ⟨9, [], .slice n (swriteS u0 u1 u2 u3).1.length o⟩, ⟨14, [], .slice j (splcS u0 (u1.length : Int)).1.length l⟩, ⟨73, [], i6 (w64 (8 * (u1.length : Int)))⟩, ⟨74, [], i6 h⟩] ds := aI.reg; clear aI
   have bG : Fr 168 [] [⟨1, [], .slice ao1 u1.length cap2⟩, ⟨4, [], pt i 0⟩, ⟨9, [], .slice n (swriteS u0 u1 u2 u3).1.length o⟩, ⟨14, [], .slice j (splcS u0 (u1.length : Int)).1.length l⟩, ⟨73, [], i6 (w64 (8 * (u1.length : Int)))⟩, ⟨74, [], i6 h⟩] ds := dt.reg; clear dt
   obtain ⟨gc, ge, gf⟩ := gb
   refine wp_seq_k fun KJ309 hKJ310 => ?_
   have du : ∀ (_u : Unit), gc → ∀ a1 w1, Fr 168 [] [⟨1, [], .slice ao1 u1.length cap2⟩, ⟨4, [], pt i 0⟩, ⟨9, [], .slice n (swriteS u0 u1 u2 u3).1.length o⟩, ⟨14, [], .slice j (splcS u0 (u1.length : Int)).1.length l⟩, ⟨73, [], i6 (w64 (8 * (u1.length : Int)))⟩, ⟨74, [], i6 h⟩] a1 → Mem w.heap.size [] w Z [.row q (e41Nm f.2.1 L M N O) 41, .row x (e41Nm f.2.2 P Q R S) 41, .own t6 3 j l (splcS u0 (u1.length : Int)).1, .row u (e30Nm ((sreadS u0 (swriteS u0 u1 u2 u3).1).2.1)) 30, .row i (e23Nm u0) 23] ai w1 → KJ309 a1 w1 := by
    rintro _u gg ie ig dv dw; clear bG V
    refine hKJ310 _ _ ?_; clear hKJ310
    have dx := gf  gg
    refine rgB dv dw [] [] [(74, i6 (w64 (h + 1)))] ?_; intro ih gh; clear dv
    refine rd ?_
    exact ⟨w64 (h + 1), dx.1, dx.2, (gh.reg).anyβ _ (by kernel_rfl), dw.keep (List.Sublist.cons_cons _ (List.Sublist.cons_cons _ (List.Sublist.cons_cons _ (List.Sublist.cons_cons _ (List.Sublist.cons_cons _ (List.Sublist.slnil))))))⟩
   refine wp_block ?_
   refine sqB bG V [] [] [(16, i6 h)] ?_; intro gi dy; clear bG
   have dz : Fr 168 [] [⟨1, [], .slice ao1 u1.length cap2⟩, ⟨4, [], pt i 0⟩, ⟨9, [], .slice n (swriteS u0 u1 u2 u3).1.length o⟩, ⟨14, [], .slice j (splcS u0 (u1.length : Int)).1.length l⟩, ⟨16, [], i6 h⟩, ⟨73, [], i6 (w64 (8 * (u1.length : Int)))⟩, ⟨74, [], i6 h⟩] gi := dy.reg; clear dy
   refine sqQH mixed (by kernel_rfl) V ?_; intro dA a6
   refine q1 dz 77 (.slice n (swriteS u0 u1 u2 u3).1.length o) ?_; intro ii dB; clear dz
   refine q1 dB 78 (i6 h) ?_; intro ij dC; clear dB
   refine q1 dC 79 (i6 (w64 (h.tdiv 8))) ?_; intro ik dD; clear dC
   obtain ⟨gj, dE⟩ := ge
   refine qix dD (T := t8) (xs := (swriteS u0 u1 u2 u3).1) aj (w64 (h.tdiv 8)) gj (k := .i64) (e := 5) (bytes := 1) (nog rfl _) rfl (by kernel_rfl) rfl (by kernel_rfl) (by kernel_rfl) (by kernel_rfl) ?_; intro il im gk B io gl gm gn bH; clear dD
   have go := dE B gl; clear dE
   obtain rfl : gk = ([y8 B] : List Value) := gn
   refine qst bH (y8 B) (nog rfl _) rfl (by kernel_rfl) (fun v352 hC => lz bH hC.fz gm 0 (g := []) rfl (by kernel_rfl) (by kernel_rfl) (by kernel_rfl) rfl) ?_; intro ip dF; clear bH
   refine q1 dF 82 (.slice ao1 u1.length cap2) ?_; intro iq dG; clear dF
   refine q1 dG 83 (i6 h) ?_; intro ir dH; clear dG
   refine q1 dH 84 (i6 (w64 (h.tdiv 8))) ?_; intro it dI; clear dH
   obtain ⟨gp, dJ⟩ := go
   refine qix dI (T := t8) (xs := u1) hs3 (w64 (h.tdiv 8)) gp (k := .i64) (e := 5) (bytes := 1) (nog rfl _) rfl (by kernel_rfl) rfl (by kernel_rfl) (by kernel_rfl) (by kernel_rfl) ?_; intro iu iv gq C iw gr gs gt bI; clear dI
   have gu := dJ C gr; clear dJ
   obtain rfl : gq = ([y8 C] : List Value) := gt
   refine qst bI (y8 C) (nog rfl _) rfl (by kernel_rfl) (fun v377 hC => lz bI hC.fz gs 0 (g := []) rfl (by kernel_rfl) (by kernel_rfl) (by kernel_rfl) rfl) ?_; intro ix dK; clear bI
   refine q1 dK 87 (y8 (bXor .u8 B C)) ?_; intro iy dL; clear dK
   refine q1 dL 88 (i6 h) ?_; intro iz dM; clear dL
   refine q1 dM 89 (i6 (h.tmod 8)) ?_; intro iA bJ; clear dM
   obtain ⟨gv, a8⟩ := gu
   refine qst bJ (y8 (bShr .u8 (bXor .u8 B C) (h.tmod 8))) (nog rfl _) rfl (by kernel_rfl) (fun v389 hC => shr_run bJ (g := []) (k' := .i64) rfl (by kernel_rfl) (by kernel_rfl) gv rfl) ?_; intro iB dN; clear bJ
   refine q1 dN 91 (y8 (bAnd .u8 (bShr .u8 (bXor .u8 B C) (h.tmod 8)) 1)) ?_; intro iC dO; clear dN
   refine q1 dO 92 (.bool ((bAnd .u8 (bShr .u8 (bXor .u8 B C) (h.tmod 8)) 1) == 1)) ?_; intro iD dP; clear dO
   refine q1 dP 93 (.bool ((bAnd .u8 (bShr .u8 (bXor .u8 B C) (h.tmod 8)) 1) == 1)) ?_; intro iE dQ; clear dP
   have bK := dQ.atom (((bAnd .u8 (bShr .u8 (bXor .u8 B C) (h.tmod 8)) 1) == 1) == true) (by kernel_rfl); clear dQ
   refine qgd bK (.slice j (splcS u0 (u1.length : Int)).1.length l) (m := 0) (cj := []) (bj := (bAnd .u8 (bShr .u8 (bXor .u8 B C) (h.tmod 8)) 1) == 1) rfl rfl (by kernel_rfl) rfl (by kernel_rfl) (by kernel_rfl) (by kernel_rfl) (fun hg => qat_ok (fun v404 hC => pu bK (g := [0]) (by kernel_rfl) hg)) ?_; intro iF bL; clear bK
   refine qgd bL (i6 h) (m := 0) (cj := []) (bj := (bAnd .u8 (bShr .u8 (bXor .u8 B C) (h.tmod 8)) 1) == 1) rfl rfl (by kernel_rfl) rfl (by kernel_rfl) (by kernel_rfl) (by kernel_rfl) (fun hg => qat_ok (fun v407 hC => pu bL (g := [0]) (by kernel_rfl) hg)) ?_; intro iG a9; clear bL
   rcases Bool.eq_false_or_eq_true ((bAnd .u8 (bShr .u8 (bXor .u8 B C) (h.tmod 8)) 1) == 1) with ad | ad
   ·
    have ba := a8.1 ad; clear a8
    have dR := a9.reval (d := 93) (c := []) (v := .bool ((bAnd .u8 (bShr .u8 (bXor .u8 B C) (h.tmod 8)) 1) == 1)) (by kernel_rfl) (.bool true) (by rw [ad]); clear a9
    have dS := dR.setc (d := 94) (c := [0]) (v := .slice j (splcS u0 (u1.length : Int)).1.length l) (by kernel_rfl) (v' := .slice j (splcS u0 (u1.length : Int)).1.length l) (by rw [ad]; kernel_rfl); clear dR
    have bM := dS.setc (d := 95) (c := [0]) (v := i6 h) (by kernel_rfl) (v' := i6 h) (by rw [ad]; kernel_rfl); clear dS
    refine qcl bM (.bool (scontainsS (splcS u0 (u1.length : Int)).1 h)) 13 #[.slice j (splcS u0 (u1.length : Int)).1.length l, i6 h] (by rw [wanted_of bM (b := true) rfl rfl (by kernel_rfl) (by kernel_rfl)]; rfl) rfl (by kernel_rfl) (fun _ => by kernel_rfl) (qfc fun w hC => (by obtain ⟨Z9, ah, I, gw⟩ := hC.lend 2 rfl; exact scontains_fun (splcS u0 (u1.length : Int)).1 h j l _ _ gw I)) ?_; intro iH bb; clear bM
    refine qst bb (.bool (!(scontainsS (splcS u0 (u1.length : Int)).1 h))) (by rw [wanted_of bb (b := true) rfl rfl (by kernel_rfl) (by kernel_rfl)]; rfl) rfl (by kernel_rfl) (fun v419 hC => p0 bb (by kernel_rfl)) ?_; intro iI dT; clear bb
    refine q1 dT 98 (.bool (!(scontainsS (splcS u0 (u1.length : Int)).1 h))) ?_; intro gx bc; clear dT
    refine qnl (a6 _ ?_); clear a6 dA; intro iJ bN; clear V
    refine cd bc (t := !(scontainsS (splcS u0 (u1.length : Int)).1 h)) (by kernel_rfl) (fun bO => ?_) (fun bO => ?_)
    ·
     have gy := ba.1 bO; clear ba
     have dU : Fr 168 [] [] gx := bc.reg; clear bc
     refine sqB dU bN [] [] [(8, .bool false)] ?_; intro iK gz; clear dU
     refine wp_ret ?_
     refine ibr ?_
     refine thr ?_
     refine thr ?_
     refine ibr ?_
     refine thr ?_
     refine ra1 gz (.bool false) ?_
     exact ⟨false, rfl, gy, bN.below⟩
    have gA := ba.2 bO; clear ba
    refine wp_skip ?_
    refine ibn ?_
    refine rd ?_
    exact du () gA _ _ ((bc.reg).anyβ _ (by kernel_rfl)) (bN.keep (List.Sublist.cons_cons _ (List.Sublist.cons_cons _ (List.Sublist.cons_cons _ (List.Sublist.cons_cons _ (List.Sublist.cons_cons _ (List.Sublist.slnil)))))))
   have gB := a8.2 ad; clear a8
   have dV := a9.reval (d := 93) (c := []) (v := .bool ((bAnd .u8 (bShr .u8 (bXor .u8 B C) (h.tmod 8)) 1) == 1)) (by kernel_rfl) (.bool false) (by rw [ad]); clear a9
   have dW := dV.setc (d := 94) (c := [0]) (v := .slice j (splcS u0 (u1.length : Int)).1.length l) (by kernel_rfl) (v' := undef) (by rw [ad]; kernel_rfl); clear dV
   have dX := dW.setc (d := 95) (c := [0]) (v := i6 h) (by kernel_rfl) (v' := undef) (by rw [ad]; kernel_rfl); clear dW
   refine qsk dX (b := false) rfl rfl (by kernel_rfl) (by kernel_rfl) rfl rfl (by kernel_rfl) ?_; intro iL dY; clear dX
   refine qsk dY (b := false) rfl rfl (by kernel_rfl) (by kernel_rfl) rfl rfl (by kernel_rfl) ?_; intro iM dZ; clear dY
   refine q1 dZ 98 (.bool false) ?_; intro iN d0; clear dZ
   refine qnl (a6 _ ?_); clear a6 dA; intro iO gC; clear V
   refine cdF d0 (by kernel_rfl) ?_
   refine wp_skip ?_
   refine ibn ?_
   refine rd ?_
   exact du () gB _ _ ((d0.reg).anyβ _ (by kernel_rfl)) (gC.keep (List.Sublist.cons_cons _ (List.Sublist.cons_cons _ (List.Sublist.cons_cons _ (List.Sublist.cons_cons _ (List.Sublist.cons_cons _ (List.Sublist.slnil)))))))
  have gD := a5.2 bF; clear a5
  refine wp_exit ?_
  refine thx ?_
  refine thx ?_
  refine ibx ?_
  refine thn ?_
  refine sqH ?_; intro gE d1
  refine bt aI V 2 [4] [] [(101, .agg (e23Nm u0).toArray), (102, .slice ao1 u1.length cap2)] ?_; intro iP d2; clear aI
  obtain ⟨gF, bd⟩ := gD
  refine fc d2 V (sread_fun u0 u1 gF ao1 cap2 _ _ hs3 V.fz) ?_; intro iQ iR d3 bP; clear d2 V
  refine bt d3 bP 4 [] [] [(104, i6 (sreadS u0 u1).1), (105, .agg (e30Nm ((sreadS u0 u1).2.1)).toArray), (106, i6 (sreadS u0 u1).2.2)] ?_; intro iS d4; clear d3
  refine nw d4 bP pb [str [], i6 0, i6 0] 30 ?_; intro ae iT iU d5 d6; clear d4 bP
  refine s1 d5 17 (i6 (sreadS u0 u1).1) ?_; intro iV bQ; clear d5
  refine sx bQ d6 0 (e30Nm ((sreadS u0 u1).2.1)) 0 ?_; intro gG d7; clear d6
  refine s1 bQ 10 (i6 (sreadS u0 u1).2.2) ?_; intro iW d8; clear bQ
  have aJ : Mem w.heap.size [] w Z [.row ae (e30Nm ((sreadS u0 u1).2.1)) 30, .row q (e41Nm f.2.1 L M N O) 41, .row x (e41Nm f.2.2 P Q R S) 41, .own t6 3 j l (splcS u0 (u1.length : Int)).1, .row u (e30Nm ((sreadS u0 (swriteS u0 u1 u2 u3).1).2.1)) 30, .row i (e23Nm u0) 23] ai gG := d7; clear d7
  refine nlH (d1 _ _ ?_); clear d1 gE
  refine wp_seq ?_
  refine sqB d8 aJ [0, 0] [] [(118, .bool ((((sreadS u0 u1).2.2 != 0) || (decide ((sreadS u0 u1).2.1.Num > 1099511627776))) || (decide ((sreadS u0 u1).2.1.Num < (-1099511627776)))))] ?_; intro gH aK; clear d8
  refine cd aK (t := (((sreadS u0 u1).2.2 != 0) || (decide ((sreadS u0 u1).2.1.Num > 1099511627776))) || (decide ((sreadS u0 u1).2.1.Num < (-1099511627776)))) (by kernel_rfl) (fun bR => ?_) (fun bR => ?_)
  ·
   have gI := bd.1 bR; clear bd
   refine sqB aK aJ [] [] [(8, .bool true)] ?_; intro iX gJ; clear aK
   refine wp_ret ?_
   refine thr ?_
   refine ra1 gJ (.bool true) ?_
   exact ⟨true, rfl, gI, aJ.below⟩
  have gK := bd.2 bR; clear bd
  refine wp_skip ?_
  refine thn ?_
  have d9 : Fr 168 [] [⟨1, [], .slice ao1 u1.length cap2⟩, ⟨4, [], pt i 0⟩, ⟨18, [], pt ae 0⟩] gH := aK.reg; clear aK
  refine wp_seq (rgS mixed aJ [(0, true), (1, true), (2, true), (4, true), (5, true), (6, true), (7, true), (3, false), (8, false), (9, true), (10, true), (11, true), (12, true), (13, true)] [] [5, 0] [.row i (e23Nm u0) 23, .row ae (e30Nm ((sreadS u0 u1).2.1)) 30] ?_)
  intro gL ea iY eb; clear aJ
  have an := Fz.le.refl ai
  refine cS d9 7 [0, 1, 1] [] [(120, .agg (e23Nm u0).toArray), (122, i6 (u1.length : Int)), (125, i6 (sreadS u0 u1).2.1.Num), (127, i6 (sreadS u0 u1).2.1.Den)] ?_; intro iZ ec; clear d9
  refine eS rfl ?_; intro gM ed
  obtain ⟨i0, gN⟩ := gK
  refine mks ec eb (T := t8) (u1.length : Int) (u1.length : Int) (k := .i64) (k' := .i64) (e := 5) (bytes := 1) (zs := [y8 0]) (z := 0) (by simp only [lim]; omega) (nog rfl _) rfl (by kernel_rfl) rfl (by kernel_rfl) (by kernel_rfl) (by kernel_rfl) (by kernel_rfl) rfl ?_; intro bS i1 ee ef eg; clear ec eb
  have eh : Mem w.heap.size [] w Z [.own t8 5 (sm bS) (u1.length : Int).toNat (List.replicate (u1.length : Int).toNat (0 : Int)), .row ae (e30Nm ((sreadS u0 u1).2.1)) 30, .row q (e41Nm f.2.1 L M N O) 41, .row x (e41Nm f.2.2 P Q R S) 41, .own t6 3 j l (splcS u0 (u1.length : Int)).1, .row u (e30Nm ((sreadS u0 (swriteS u0 u1 u2 u3).1).2.1)) 30, .row i (e23Nm u0) 23] ai ee := eg; clear eg
  refine nl (qnI (ed _ _ (eh.cst an [6, 1]) ?_)); clear ed gM
  refine eS rfl ?_; intro gO ei
  obtain ⟨gP, G, ej, aL⟩ := eh.freeze 0 rfl
  replace hs3 := hs3.mono G
  replace y := y.mono G
  replace A := A.mono G
  replace E := E.mono G
  replace F := F.mono G
  replace Y := Y.mono G
  replace aa := aa.mono G
  replace ab := ab.mono G
  replace ac := ac.mono G
  replace aj := aj.mono G
  replace an := an.mono G
  replace p := Fz.le.trans p G
  have bT : Mem w.heap.size [] w Z [.row ae (e30Nm ((sreadS u0 u1).2.1)) 30, .row q (e41Nm f.2.1 L M N O) 41, .row x (e41Nm f.2.2 P Q R S) 41, .own t6 3 j l (splcS u0 (u1.length : Int)).1, .row u (e30Nm ((sreadS u0 (swriteS u0 u1 u2 u3).1).2.1)) 30, .row i (e23Nm u0) 23] gP ee := ej; clear ej
  obtain ⟨gQ, gR⟩ := gN
  refine ck ef 7 #[.agg (e23Nm u0).toArray, .slice (sm bS) (List.replicate (u1.length : Int).toNat (0 : Int)).length (u1.length : Int).toNat, i6 (sreadS u0 u1).2.1.Num, i6 (sreadS u0 u1).2.1.Den] ?_
  refine (swrite_fun u0 (List.replicate (u1.length : Int).toNat (0 : Int)) (sreadS u0 u1).2.1.Num (sreadS u0 u1).2.1.Den gQ (sm bS) (u1.length : Int).toNat _ _ aL bT.fz).mono ?_; rintro _ gS ⟨ao, ap, gT, rfl, hm⟩; refine ⟨_, rfl, ?_⟩; intro i2 ek; have el := bT.callZ hm; have D := hm.ext.le; clear hm bT ef
  replace hs3 := hs3.mono D
  replace y := y.mono D
  replace A := A.mono D
  replace E := E.mono D
  replace F := F.mono D
  replace Y := Y.mono D
  replace aa := aa.mono D
  replace ab := ab.mono D
  replace ac := ac.mono D
  replace aj := aj.mono D
  replace an := an.mono D
  replace aL := aL.mono D
  replace p := Fz.le.trans p D
  have aM : Mem w.heap.size [] w Z [.own t8 5 ao ap (swriteS u0 (List.replicate (u1.length : Int).toNat (0 : Int)) (sreadS u0 u1).2.1.Num (sreadS u0 u1).2.1.Den).1, .row ae (e30Nm ((sreadS u0 u1).2.1)) 30, .row q (e41Nm f.2.1 L M N O) 41, .row x (e41Nm f.2.2 P Q R S) 41, .own t6 3 j l (splcS u0 (u1.length : Int)).1, .row u (e30Nm ((sreadS u0 (swriteS u0 u1 u2 u3).1).2.1)) 30, .row i (e23Nm u0) 23] gT gS := el; clear el
  refine nl (qnI (ei _ _ (aM.cst an [6, 1]) ?_)); clear ei gO
  refine cS ek 5 [] [] [(10, i6 (swriteS u0 (List.replicate (u1.length : Int).toNat (0 : Int)) (sreadS u0 u1).2.1.Num (sreadS u0 u1).2.1.Den).2), (19, .slice ao (swriteS u0 (List.replicate (u1.length : Int).toNat (0 : Int)) (sreadS u0 u1).2.1.Num (sreadS u0 u1).2.1.Den).1.length ap)] ?_; intro i3 em; clear ek
  refine nS (ea _ _ ?_); clear ea gL
  refine thn ?_
  refine sqH ?_; intro gU en
  refine bt em aM 6 [6, 1, 1] [] [(132, .agg (e23Nm u0).toArray), (133, .slice ao1 u1.length cap2), (135, i6 (sreadS u0 u1).2.1.Num), (137, i6 (sreadS u0 u1).2.1.Den)] ?_; intro i4 eo; clear em
  obtain ⟨gV, ep⟩ := gR
  refine ck eo 7 #[.agg (e23Nm u0).toArray, .slice ao1 u1.length cap2, i6 (sreadS u0 u1).2.1.Num, i6 (sreadS u0 u1).2.1.Den] ?_
  refine (swrite_fun u0 u1 (sreadS u0 u1).2.1.Num (sreadS u0 u1).2.1.Den gV ao1 cap2 _ _ hs3 aM.fz).mono ?_; rintro _ gW ⟨aq, ar, eq, rfl, hm⟩; refine ⟨_, rfl, ?_⟩; intro i5 er; have es := aM.callZ hm; have H := hm.ext.le; clear hm aM eo
  replace hs3 := hs3.mono H
  replace y := y.mono H
  replace A := A.mono H
  replace E := E.mono H
  replace F := F.mono H
  replace Y := Y.mono H
  replace aa := aa.mono H
  replace ab := ab.mono H
  replace ac := ac.mono H
  replace aj := aj.mono H
  replace aL := aL.mono H
  replace p := Fz.le.trans p H
  have au : Mem w.heap.size [] w Z [.own t8 5 aq ar (swriteS u0 u1 (sreadS u0 u1).2.1.Num (sreadS u0 u1).2.1.Den).1, .own t8 5 ao ap (swriteS u0 (List.replicate (u1.length : Int).toNat (0 : Int)) (sreadS u0 u1).2.1.Num (sreadS u0 u1).2.1.Den).1, .row ae (e30Nm ((sreadS u0 u1).2.1)) 30, .row q (e41Nm f.2.1 L M N O) 41, .row x (e41Nm f.2.2 P Q R S) 41, .own t6 3 j l (splcS u0 (u1.length : Int)).1, .row u (e30Nm ((sreadS u0 (swriteS u0 u1 u2 u3).1).2.1)) 30, .row i (e23Nm u0) 23] eq gW := es; clear es
  have gX := ep (au.ownSmall 0 rfl); clear ep
  refine bt er au 5 [] [] [(20, .slice aq (swriteS u0 u1 (sreadS u0 u1).2.1.Num (sreadS u0 u1).2.1.Den).1.length ar), (21, i6 (swriteS u0 u1 (sreadS u0 u1).2.1.Num (sreadS u0 u1).2.1.Den).2)] ?_; intro i7 et; clear er
  refine nlH (en _ _ ?_); clear en gU
  refine sqH ?_; intro gY eu
  refine bt et au 2 [7] [] [(142, .agg (e23Nm u0).toArray), (143, .slice ao (swriteS u0 (List.replicate (u1.length : Int).toNat (0 : Int)) (sreadS u0 u1).2.1.Num (sreadS u0 u1).2.1.Den).1.length ap)] ?_; intro i8 ev; clear et
  obtain ⟨gZ, be⟩ := gX
  refine fc ev au ((by obtain ⟨Z9, ah, I, g0⟩ := au.lend 1 rfl; exact sread_fun u0 (swriteS u0 (List.replicate (u1.length : Int).toNat (0 : Int)) (sreadS u0 u1).2.1.Num (sreadS u0 u1).2.1.Den).1 gZ ao ap _ _ g0 I)) ?_; intro i9 ja ew bU; clear ev au
  refine bt ew bU 4 [] [] [(145, i6 (sreadS u0 (swriteS u0 (List.replicate (u1.length : Int).toNat (0 : Int)) (sreadS u0 u1).2.1.Num (sreadS u0 u1).2.1.Den).1).1), (146, .agg (e30Nm ((sreadS u0 (swriteS u0 (List.replicate (u1.length : Int).toNat (0 : Int)) (sreadS u0 u1).2.1.Num (sreadS u0 u1).2.1.Den).1).2.1)).toArray), (147, i6 (sreadS u0 (swriteS u0 (List.replicate (u1.length : Int).toNat (0 : Int)) (sreadS u0 u1).2.1.Num (sreadS u0 u1).2.1.Den).1).2.2)] ?_; intro jb ex; clear ew
  refine nw ex bU pb [str [], i6 0, i6 0] 30 ?_; intro ey jc jd ez eA; clear ex bU
  refine s1 ez 22 (i6 (sreadS u0 (swriteS u0 (List.replicate (u1.length : Int).toNat (0 : Int)) (sreadS u0 u1).2.1.Num (sreadS u0 u1).2.1.Den).1).1) ?_; intro je bV; clear ez
  refine sx bV eA 0 (e30Nm ((sreadS u0 (swriteS u0 (List.replicate (u1.length : Int).toNat (0 : Int)) (sreadS u0 u1).2.1.Num (sreadS u0 u1).2.1.Den).1).2.1)) 0 ?_; intro g1 eB; clear eA
  refine s1 bV 24 (i6 (sreadS u0 (swriteS u0 (List.replicate (u1.length : Int).toNat (0 : Int)) (sreadS u0 u1).2.1.Num (sreadS u0 u1).2.1.Den).1).2.2) ?_; intro jf eC; clear bV
  have ak : Mem w.heap.size [] w Z [.row ey (e30Nm ((sreadS u0 (swriteS u0 (List.replicate (u1.length : Int).toNat (0 : Int)) (sreadS u0 u1).2.1.Num (sreadS u0 u1).2.1.Den).1).2.1)) 30, .own t8 5 aq ar (swriteS u0 u1 (sreadS u0 u1).2.1.Num (sreadS u0 u1).2.1.Den).1, .own t8 5 ao ap (swriteS u0 (List.replicate (u1.length : Int).toNat (0 : Int)) (sreadS u0 u1).2.1.Num (sreadS u0 u1).2.1.Den).1, .row ae (e30Nm ((sreadS u0 u1).2.1)) 30, .row q (e41Nm f.2.1 L M N O) 41, .row x (e41Nm f.2.2 P Q R S) 41, .own t6 3 j l (splcS u0 (u1.length : Int)).1, .row u (e30Nm ((sreadS u0 (swriteS u0 u1 u2 u3).1).2.1)) 30, .row i (e23Nm u0) 23] eq g1 := eB; clear eB
  refine nlH (eu _ _ ?_); clear eu gY
  refine sqH ?_; intro eD bf
  refine bt eC ak 11 [] [] [(158, .bool ((((swriteS u0 (List.replicate (u1.length : Int).toNat (0 : Int)) (sreadS u0 u1).2.1.Num (sreadS u0 u1).2.1.Den).2 == 0) && ((swriteS u0 u1 (sreadS u0 u1).2.1.Num (sreadS u0 u1).2.1.Den).2 == 0)) && ((sreadS u0 (swriteS u0 (List.replicate (u1.length : Int).toNat (0 : Int)) (sreadS u0 u1).2.1.Num (sreadS u0 u1).2.1.Den).1).2.2 == 0)))] ?_; intro jg bg; clear eC
  rcases Bool.eq_false_or_eq_true ((((swriteS u0 (List.replicate (u1.length : Int).toNat (0 : Int)) (sreadS u0 u1).2.1.Num (sreadS u0 u1).2.1.Den).2 == 0) && ((swriteS u0 u1 (sreadS u0 u1).2.1.Num (sreadS u0 u1).2.1.Den).2 == 0)) && ((sreadS u0 (swriteS u0 (List.replicate (u1.length : Int).toNat (0 : Int)) (sreadS u0 u1).2.1.Num (sreadS u0 u1).2.1.Den).1).2.2 == 0)) with aN | aN
  ·
   have g2 := be.1 aN; clear be
   have eE := bg.reval (d := 158) (c := []) (v := .bool ((((swriteS u0 (List.replicate (u1.length : Int).toNat (0 : Int)) (sreadS u0 u1).2.1.Num (sreadS u0 u1).2.1.Den).2 == 0) && ((swriteS u0 u1 (sreadS u0 u1).2.1.Num (sreadS u0 u1).2.1.Den).2 == 0)) && ((sreadS u0 (swriteS u0 (List.replicate (u1.length : Int).toNat (0 : Int)) (sreadS u0 u1).2.1.Num (sreadS u0 u1).2.1.Den).1).2.2 == 0))) (by kernel_rfl) (.bool true) (by rw [aN]); clear bg
   refine bt eE ak 2 [] [159, 160] [(159, .slice aq (swriteS u0 u1 (sreadS u0 u1).2.1.Num (sreadS u0 u1).2.1.Den).1.length ar), (160, .slice ao1 u1.length cap2)] ?_; intro jh bW; clear eE
   refine fcl bW ak (.bool (beqS (swriteS u0 u1 (sreadS u0 u1).2.1.Num (sreadS u0 u1).2.1.Den).1 u1)) 14 #[.slice aq (swriteS u0 u1 (sreadS u0 u1).2.1.Num (sreadS u0 u1).2.1.Den).1.length ar, .slice ao1 u1.length cap2] (by rw [wanted_of bW (b := true) rfl rfl (by kernel_rfl) (by kernel_rfl)]; rfl) rfl (by kernel_rfl) (fun _ => by kernel_rfl) ((by obtain ⟨Z9, ah, I, g3⟩ := ak.lend 1 rfl; exact beq_fun (swriteS u0 u1 (sreadS u0 u1).2.1.Num (sreadS u0 u1).2.1.Den).1 u1 aq ar ao1 cap2 _ _ g3 (SlR.mono hs3 ah) I)) ?_; intro ji jj eF bX; clear bW ak
   refine s1 eF 162 (.bool (beqS (swriteS u0 u1 (sreadS u0 u1).2.1.Num (sreadS u0 u1).2.1.Den).1 u1)) ?_; intro jk eG; clear eF
   refine s1 eG 163 (.bool (beqS (swriteS u0 u1 (sreadS u0 u1).2.1.Num (sreadS u0 u1).2.1.Den).1 u1)) ?_; intro jl eH; clear eG
   have bY := eH.atom ((beqS (swriteS u0 u1 (sreadS u0 u1).2.1.Num (sreadS u0 u1).2.1.Den).1 u1) == true) (by kernel_rfl); clear eH
   refine gd bY (.agg (e30Nm ((sreadS u0 (swriteS u0 (List.replicate (u1.length : Int).toNat (0 : Int)) (sreadS u0 u1).2.1.Num (sreadS u0 u1).2.1.Den).1).2.1)).toArray) (m := 0) (cj := []) (bj := (beqS (swriteS u0 u1 (sreadS u0 u1).2.1.Num (sreadS u0 u1).2.1.Den).1 u1)) rfl rfl (by kernel_rfl) rfl (by kernel_rfl) (by kernel_rfl) (by kernel_rfl) (fun hg => lda bY bX 0 (g := [0]) (b := ey) (off := 0) (k := 3) (cs := (e30Nm ((sreadS u0 (swriteS u0 (List.replicate (u1.length : Int).toNat (0 : Int)) (sreadS u0 u1).2.1.Num (sreadS u0 u1).2.1.Den).1).2.1))) (vs := (e30Nm ((sreadS u0 (swriteS u0 (List.replicate (u1.length : Int).toNat (0 : Int)) (sreadS u0 u1).2.1.Num (sreadS u0 u1).2.1.Den).1).2.1))) (ty := 30) rfl (by kernel_rfl) (by kernel_rfl) (by kernel_rfl) (by kernel_rfl) (by kernel_rfl) hg) ?_; intro jm bZ; clear bY
   refine gd bZ (.agg (e30Nm ((sreadS u0 u1).2.1)).toArray) (m := 0) (cj := []) (bj := (beqS (swriteS u0 u1 (sreadS u0 u1).2.1.Num (sreadS u0 u1).2.1.Den).1 u1)) rfl rfl (by kernel_rfl) rfl (by kernel_rfl) (by kernel_rfl) (by kernel_rfl) (fun hg => lda bZ bX 3 (g := [0]) (b := ae) (off := 0) (k := 3) (cs := (e30Nm ((sreadS u0 u1).2.1))) (vs := (e30Nm ((sreadS u0 u1).2.1))) (ty := 30) rfl (by kernel_rfl) (by kernel_rfl) (by kernel_rfl) (by kernel_rfl) (by kernel_rfl) hg) ?_; intro jn b0; clear bZ
   refine gd b0 (.bool (((sreadS u0 (swriteS u0 (List.replicate (u1.length : Int).toNat (0 : Int)) (sreadS u0 u1).2.1.Num (sreadS u0 u1).2.1.Den).1).2.1.Name == (sreadS u0 u1).2.1.Name) && (((sreadS u0 (swriteS u0 (List.replicate (u1.length : Int).toNat (0 : Int)) (sreadS u0 u1).2.1.Num (sreadS u0 u1).2.1.Den).1).2.1.Num == (sreadS u0 u1).2.1.Num) && (((sreadS u0 (swriteS u0 (List.replicate (u1.length : Int).toNat (0 : Int)) (sreadS u0 u1).2.1.Num (sreadS u0 u1).2.1.Den).1).2.1.Den == (sreadS u0 u1).2.1.Den) && true)))) (m := 0) (cj := []) (bj := (beqS (swriteS u0 u1 (sreadS u0 u1).2.1.Num (sreadS u0 u1).2.1.Den).1 u1)) rfl rfl (by kernel_rfl) rfl (by kernel_rfl) (by kernel_rfl) (by kernel_rfl) (fun hg => eqs_run b0 (g := [0]) (xs := (e30Nm ((sreadS u0 (swriteS u0 (List.replicate (u1.length : Int).toNat (0 : Int)) (sreadS u0 u1).2.1.Num (sreadS u0 u1).2.1.Den).1).2.1)).toArray) (ys := (e30Nm ((sreadS u0 u1).2.1)).toArray) (b := ((sreadS u0 (swriteS u0 (List.replicate (u1.length : Int).toNat (0 : Int)) (sreadS u0 u1).2.1.Num (sreadS u0 u1).2.1.Den).1).2.1.Name == (sreadS u0 u1).2.1.Name) && (((sreadS u0 (swriteS u0 (List.replicate (u1.length : Int).toNat (0 : Int)) (sreadS u0 u1).2.1.Num (sreadS u0 u1).2.1.Den).1).2.1.Num == (sreadS u0 u1).2.1.Num) && (((sreadS u0 (swriteS u0 (List.replicate (u1.length : Int).toNat (0 : Int)) (sreadS u0 u1).2.1.Num (sreadS u0 u1).2.1.Den).1).2.1.Den == (sreadS u0 u1).2.1.Den) && true))) rfl (by kernel_rfl) (by kernel_rfl) (by kernel_rfl) (by kernel_rfl) hg) ?_; intro jo b1; clear b0
   refine st b1 (.bool ((beqS (swriteS u0 u1 (sreadS u0 u1).2.1.Num (sreadS u0 u1).2.1.Den).1 u1) && (((sreadS u0 (swriteS u0 (List.replicate (u1.length : Int).toNat (0 : Int)) (sreadS u0 u1).2.1.Num (sreadS u0 u1).2.1.Den).1).2.1.Name == (sreadS u0 u1).2.1.Name) && (((sreadS u0 (swriteS u0 (List.replicate (u1.length : Int).toNat (0 : Int)) (sreadS u0 u1).2.1.Num (sreadS u0 u1).2.1.Den).1).2.1.Num == (sreadS u0 u1).2.1.Num) && (((sreadS u0 (swriteS u0 (List.replicate (u1.length : Int).toNat (0 : Int)) (sreadS u0 u1).2.1.Num (sreadS u0 u1).2.1.Den).1).2.1.Den == (sreadS u0 u1).2.1.Den) && true))))) (nog rfl _) rfl (by kernel_rfl) (pk_and b1 (g := []) (m := 0) (b := (beqS (swriteS u0 u1 (sreadS u0 u1).2.1.Num (sreadS u0 u1).2.1.Den).1 u1)) (v := ((sreadS u0 (swriteS u0 (List.replicate (u1.length : Int).toNat (0 : Int)) (sreadS u0 u1).2.1.Num (sreadS u0 u1).2.1.Den).1).2.1.Name == (sreadS u0 u1).2.1.Name) && (((sreadS u0 (swriteS u0 (List.replicate (u1.length : Int).toNat (0 : Int)) (sreadS u0 u1).2.1.Num (sreadS u0 u1).2.1.Den).1).2.1.Num == (sreadS u0 u1).2.1.Num) && (((sreadS u0 (swriteS u0 (List.replicate (u1.length : Int).toNat (0 : Int)) (sreadS u0 u1).2.1.Num (sreadS u0 u1).2.1.Den).1).2.1.Den == (sreadS u0 u1).2.1.Den) && true))) rfl (by kernel_rfl) (by kernel_rfl) (by kernel_rfl) rfl) ?_; intro jp eI; clear b1
   refine s1 eI 8 (.bool ((beqS (swriteS u0 u1 (sreadS u0 u1).2.1.Num (sreadS u0 u1).2.1.Den).1 u1) && (((sreadS u0 (swriteS u0 (List.replicate (u1.length : Int).toNat (0 : Int)) (sreadS u0 u1).2.1.Num (sreadS u0 u1).2.1.Den).1).2.1.Name == (sreadS u0 u1).2.1.Name) && (((sreadS u0 (swriteS u0 (List.replicate (u1.length : Int).toNat (0 : Int)) (sreadS u0 u1).2.1.Num (sreadS u0 u1).2.1.Den).1).2.1.Num == (sreadS u0 u1).2.1.Num) && (((sreadS u0 (swriteS u0 (List.replicate (u1.length : Int).toNat (0 : Int)) (sreadS u0 u1).2.1.Num (sreadS u0 u1).2.1.Den).1).2.1.Den == (sreadS u0 u1).2.1.Den) && true))))) ?_; intro jq g4; clear eI
   refine nlH (bf _ _ ?_); clear bf eD
   refine wp_ret ?_
   refine ra1 g4 (.bool ((beqS (swriteS u0 u1 (sreadS u0 u1).2.1.Num (sreadS u0 u1).2.1.Den).1 u1) && (((sreadS u0 (swriteS u0 (List.replicate (u1.length : Int).toNat (0 : Int)) (sreadS u0 u1).2.1.Num (sreadS u0 u1).2.1.Den).1).2.1.Name == (sreadS u0 u1).2.1.Name) && (((sreadS u0 (swriteS u0 (List.replicate (u1.length : Int).toNat (0 : Int)) (sreadS u0 u1).2.1.Num (sreadS u0 u1).2.1.Den).1).2.1.Num == (sreadS u0 u1).2.1.Num) && (((sreadS u0 (swriteS u0 (List.replicate (u1.length : Int).toNat (0 : Int)) (sreadS u0 u1).2.1.Num (sreadS u0 u1).2.1.Den).1).2.1.Den == (sreadS u0 u1).2.1.Den) && true))))) ?_
   exact ⟨(beqS (swriteS u0 u1 (sreadS u0 u1).2.1.Num (sreadS u0 u1).2.1.Den).1 u1) && (((sreadS u0 (swriteS u0 (List.replicate (u1.length : Int).toNat (0 : Int)) (sreadS u0 u1).2.1.Num (sreadS u0 u1).2.1.Den).1).2.1.Name == (sreadS u0 u1).2.1.Name) && (((sreadS u0 (swriteS u0 (List.replicate (u1.length : Int).toNat (0 : Int)) (sreadS u0 u1).2.1.Num (sreadS u0 u1).2.1.Den).1).2.1.Num == (sreadS u0 u1).2.1.Num) && (((sreadS u0 (swriteS u0 (List.replicate (u1.length : Int).toNat (0 : Int)) (sreadS u0 u1).2.1.Num (sreadS u0 u1).2.1.Den).1).2.1.Den == (sreadS u0 u1).2.1.Den) && true))), rfl, g2, bX.below⟩
  have g5 := be.2 aN; clear be
  have eJ := bg.reval (d := 158) (c := []) (v := .bool ((((swriteS u0 (List.replicate (u1.length : Int).toNat (0 : Int)) (sreadS u0 u1).2.1.Num (sreadS u0 u1).2.1.Den).2 == 0) && ((swriteS u0 u1 (sreadS u0 u1).2.1.Num (sreadS u0 u1).2.1.Den).2 == 0)) && ((sreadS u0 (swriteS u0 (List.replicate (u1.length : Int).toNat (0 : Int)) (sreadS u0 u1).2.1.Num (sreadS u0 u1).2.1.Den).1).2.2 == 0))) (by kernel_rfl) (.bool false) (by rw [aN]); clear bg
  refine bt eJ ak 10 [] [159, 160, 161, 162, 164, 165, 166, 167] [(8, .bool false)] ?_; intro jr g6; clear eJ
  refine nlH (bf _ _ ?_); clear bf eD
  refine wp_ret ?_
  refine ra1 g6 (.bool false) ?_
  exact ⟨false, rfl, g5, ak.below⟩
 have g7 := aU.2 bo; clear aU
 refine wp_skip ?_
 refine thn ?_
 refine sqH ?_; intro g8 eK
 refine bt aD W 2 [1] [] [(101, .agg (e23Nm u0).toArray), (102, .slice ao1 u1.length cap2)] ?_; intro js eL; clear aD
 obtain ⟨g9, bh⟩ := g7
 refine fc eL W (sread_fun u0 u1 g9 ao1 cap2 _ _ hs3 W.fz) ?_; intro jt ju eM b2; clear eL W
 refine bt eM b2 4 [] [] [(104, i6 (sreadS u0 u1).1), (105, .agg (e30Nm ((sreadS u0 u1).2.1)).toArray), (106, i6 (sreadS u0 u1).2.2)] ?_; intro jv eN; clear eM
 refine nw eN b2 pb [str [], i6 0, i6 0] 30 ?_; intro af jw jx eO eP; clear eN b2
 refine s1 eO 17 (i6 (sreadS u0 u1).1) ?_; intro jy b3; clear eO
 refine sx b3 eP 0 (e30Nm ((sreadS u0 u1).2.1)) 0 ?_; intro ha eQ; clear eP
 refine s1 b3 10 (i6 (sreadS u0 u1).2.2) ?_; intro jz eR; clear b3
 have aO : Mem w.heap.size [] w Z [.row af (e30Nm ((sreadS u0 u1).2.1)) 30, .own t8 5 n o (swriteS u0 u1 u2 u3).1, .row i (e23Nm u0) 23] aB ha := eQ; clear eQ
 refine nlH (eK _ _ ?_); clear eK g8
 refine wp_seq ?_
 refine sqB eR aO [0, 0] [] [(118, .bool ((((sreadS u0 u1).2.2 != 0) || (decide ((sreadS u0 u1).2.1.Num > 1099511627776))) || (decide ((sreadS u0 u1).2.1.Num < (-1099511627776)))))] ?_; intro hb aP; clear eR
 refine cd aP (t := (((sreadS u0 u1).2.2 != 0) || (decide ((sreadS u0 u1).2.1.Num > 1099511627776))) || (decide ((sreadS u0 u1).2.1.Num < (-1099511627776)))) (by kernel_rfl) (fun b4 => ?_) (fun b4 => ?_)
 ·
  have hc := bh.1 b4; clear bh
  refine sqB aP aO [] [] [(8, .bool true)] ?_; intro jA hd; clear aP
  refine wp_ret ?_
  refine thr ?_
  refine ra1 hd (.bool true) ?_
  exact ⟨true, rfl, hc, aO.below⟩
 have he := bh.2 b4; clear bh
 refine wp_skip ?_
 refine thn ?_
 have eT : Fr 168 [] [⟨1, [], .slice ao1 u1.length cap2⟩, ⟨4, [], pt i 0⟩, ⟨18, [], pt af 0⟩] hb := aP.reg; clear aP
 refine wp_seq (rgS mixed aO [(0, true), (1, true), (2, true), (4, true), (5, true), (6, true), (7, true), (3, false), (8, false), (9, true), (10, true), (11, true), (12, true), (13, true)] [] [2, 0] [.row i (e23Nm u0) 23, .row af (e30Nm ((sreadS u0 u1).2.1)) 30] ?_)
 intro hf eU jB eV; clear aO
 have av := Fz.le.refl aB
 refine cS eT 7 [0, 1, 1] [] [(120, .agg (e23Nm u0).toArray), (122, i6 (u1.length : Int)), (125, i6 (sreadS u0 u1).2.1.Num), (127, i6 (sreadS u0 u1).2.1.Den)] ?_; intro jC eW; clear eT
 refine eS rfl ?_; intro hh eX
 obtain ⟨jD, hi⟩ := he
 refine mks eW eV (T := t8) (u1.length : Int) (u1.length : Int) (k := .i64) (k' := .i64) (e := 5) (bytes := 1) (zs := [y8 0]) (z := 0) (by simp only [lim]; omega) (nog rfl _) rfl (by kernel_rfl) rfl (by kernel_rfl) (by kernel_rfl) (by kernel_rfl) (by kernel_rfl) rfl ?_; intro b5 jE eY eZ e0; clear eW eV
 have e1 : Mem w.heap.size [] w Z [.own t8 5 (sm b5) (u1.length : Int).toNat (List.replicate (u1.length : Int).toNat (0 : Int)), .row af (e30Nm ((sreadS u0 u1).2.1)) 30, .own t8 5 n o (swriteS u0 u1 u2 u3).1, .row i (e23Nm u0) 23] aB eY := e0; clear e0
 refine nl (qnI (eX _ _ (e1.cst av [3, 1]) ?_)); clear eX hh
 refine eS rfl ?_; intro hj e2
 obtain ⟨hk, b7, e3, aQ⟩ := e1.freeze 0 rfl
 replace hs3 := hs3.mono b7
 replace av := av.mono b7
 replace p := Fz.le.trans p b7
 have b8 : Mem w.heap.size [] w Z [.row af (e30Nm ((sreadS u0 u1).2.1)) 30, .own t8 5 n o (swriteS u0 u1 u2 u3).1, .row i (e23Nm u0) 23] hk eY := e3; clear e3
 obtain ⟨hl, hn⟩ := hi
 refine ck eZ 7 #[.agg (e23Nm u0).toArray, .slice (sm b5) (List.replicate (u1.length : Int).toNat (0 : Int)).length (u1.length : Int).toNat, i6 (sreadS u0 u1).2.1.Num, i6 (sreadS u0 u1).2.1.Den] ?_
 refine (swrite_fun u0 (List.replicate (u1.length : Int).toNat (0 : Int)) (sreadS u0 u1).2.1.Num (sreadS u0 u1).2.1.Den hl (sm b5) (u1.length : Int).toNat _ _ aQ b8.fz).mono ?_; rintro _ ho ⟨aw, ax, hq, rfl, hm⟩; refine ⟨_, rfl, ?_⟩; intro jF e4; have e5 := b8.callZ hm; have bi := hm.ext.le; clear hm b8 eZ
 replace hs3 := hs3.mono bi
 replace av := av.mono bi
 replace aQ := aQ.mono bi
 replace p := Fz.le.trans p bi
 have aR : Mem w.heap.size [] w Z [.own t8 5 aw ax (swriteS u0 (List.replicate (u1.length : Int).toNat (0 : Int)) (sreadS u0 u1).2.1.Num (sreadS u0 u1).2.1.Den).1, .row af (e30Nm ((sreadS u0 u1).2.1)) 30, .own t8 5 n o (swriteS u0 u1 u2 u3).1, .row i (e23Nm u0) 23] hq ho := e5; clear e5
 refine nl (qnI (e2 _ _ (aR.cst av [3, 1]) ?_)); clear e2 hj
 refine cS e4 5 [] [] [(10, i6 (swriteS u0 (List.replicate (u1.length : Int).toNat (0 : Int)) (sreadS u0 u1).2.1.Num (sreadS u0 u1).2.1.Den).2), (19, .slice aw (swriteS u0 (List.replicate (u1.length : Int).toNat (0 : Int)) (sreadS u0 u1).2.1.Num (sreadS u0 u1).2.1.Den).1.length ax)] ?_; intro jG e6; clear e4
 refine nS (eU _ _ ?_); clear eU hf
 refine thn ?_
 refine sqH ?_; intro hr e7
 refine bt e6 aR 6 [3, 1, 1] [] [(132, .agg (e23Nm u0).toArray), (133, .slice ao1 u1.length cap2), (135, i6 (sreadS u0 u1).2.1.Num), (137, i6 (sreadS u0 u1).2.1.Den)] ?_; intro jH e8; clear e6
 obtain ⟨hs, e9⟩ := hn
 refine ck e8 7 #[.agg (e23Nm u0).toArray, .slice ao1 u1.length cap2, i6 (sreadS u0 u1).2.1.Num, i6 (sreadS u0 u1).2.1.Den] ?_
 refine (swrite_fun u0 u1 (sreadS u0 u1).2.1.Num (sreadS u0 u1).2.1.Den hs ao1 cap2 _ _ hs3 aR.fz).mono ?_; rintro _ ht ⟨ay, az, fa, rfl, hm⟩; refine ⟨_, rfl, ?_⟩; intro jI fb; have fd := aR.callZ hm; have b9 := hm.ext.le; clear hm aR e8
 replace hs3 := hs3.mono b9
 replace aQ := aQ.mono b9
 replace p := Fz.le.trans p b9
 have aA : Mem w.heap.size [] w Z [.own t8 5 ay az (swriteS u0 u1 (sreadS u0 u1).2.1.Num (sreadS u0 u1).2.1.Den).1, .own t8 5 aw ax (swriteS u0 (List.replicate (u1.length : Int).toNat (0 : Int)) (sreadS u0 u1).2.1.Num (sreadS u0 u1).2.1.Den).1, .row af (e30Nm ((sreadS u0 u1).2.1)) 30, .own t8 5 n o (swriteS u0 u1 u2 u3).1, .row i (e23Nm u0) 23] fa ht := fd; clear fd
 have hu := e9 (aA.ownSmall 0 rfl); clear e9
 refine bt fb aA 5 [] [] [(20, .slice ay (swriteS u0 u1 (sreadS u0 u1).2.1.Num (sreadS u0 u1).2.1.Den).1.length az), (21, i6 (swriteS u0 u1 (sreadS u0 u1).2.1.Num (sreadS u0 u1).2.1.Den).2)] ?_; intro jJ fe; clear fb
 refine nlH (e7 _ _ ?_); clear e7 hr
 refine sqH ?_; intro hv ff
 refine bt fe aA 2 [4] [] [(142, .agg (e23Nm u0).toArray), (143, .slice aw (swriteS u0 (List.replicate (u1.length : Int).toNat (0 : Int)) (sreadS u0 u1).2.1.Num (sreadS u0 u1).2.1.Den).1.length ax)] ?_; intro jK fg; clear fe
 obtain ⟨hw, bk⟩ := hu
 refine fc fg aA ((by obtain ⟨Z9, ah, I, hx⟩ := aA.lend 1 rfl; exact sread_fun u0 (swriteS u0 (List.replicate (u1.length : Int).toNat (0 : Int)) (sreadS u0 u1).2.1.Num (sreadS u0 u1).2.1.Den).1 hw aw ax _ _ hx I)) ?_; intro jL jM fh ca; clear fg aA
 refine bt fh ca 4 [] [] [(145, i6 (sreadS u0 (swriteS u0 (List.replicate (u1.length : Int).toNat (0 : Int)) (sreadS u0 u1).2.1.Num (sreadS u0 u1).2.1.Den).1).1), (146, .agg (e30Nm ((sreadS u0 (swriteS u0 (List.replicate (u1.length : Int).toNat (0 : Int)) (sreadS u0 u1).2.1.Num (sreadS u0 u1).2.1.Den).1).2.1)).toArray), (147, i6 (sreadS u0 (swriteS u0 (List.replicate (u1.length : Int).toNat (0 : Int)) (sreadS u0 u1).2.1.Num (sreadS u0 u1).2.1.Den).1).2.2)] ?_; intro jN fi; clear fh
 refine nw fi ca pb [str [], i6 0, i6 0] 30 ?_; intro fj jO jP fk fl; clear fi ca
 refine s1 fk 22 (i6 (sreadS u0 (swriteS u0 (List.replicate (u1.length : Int).toNat (0 : Int)) (sreadS u0 u1).2.1.Num (sreadS u0 u1).2.1.Den).1).1) ?_; intro jQ cb; clear fk
 refine sx cb fl 0 (e30Nm ((sreadS u0 (swriteS u0 (List.replicate (u1.length : Int).toNat (0 : Int)) (sreadS u0 u1).2.1.Num (sreadS u0 u1).2.1.Den).1).2.1)) 0 ?_; intro hy fm; clear fl
 refine s1 cb 24 (i6 (sreadS u0 (swriteS u0 (List.replicate (u1.length : Int).toNat (0 : Int)) (sreadS u0 u1).2.1.Num (sreadS u0 u1).2.1.Den).1).2.2) ?_; intro jR fn; clear cb
 have al : Mem w.heap.size [] w Z [.row fj (e30Nm ((sreadS u0 (swriteS u0 (List.replicate (u1.length : Int).toNat (0 : Int)) (sreadS u0 u1).2.1.Num (sreadS u0 u1).2.1.Den).1).2.1)) 30, .own t8 5 ay az (swriteS u0 u1 (sreadS u0 u1).2.1.Num (sreadS u0 u1).2.1.Den).1, .own t8 5 aw ax (swriteS u0 (List.replicate (u1.length : Int).toNat (0 : Int)) (sreadS u0 u1).2.1.Num (sreadS u0 u1).2.1.Den).1, .row af (e30Nm ((sreadS u0 u1).2.1)) 30, .own t8 5 n o (swriteS u0 u1 u2 u3).1, .row i (e23Nm u0) 23] fa hy := fm; clear fm
 refine nlH (ff _ _ ?_); clear ff hv
 refine sqH ?_; intro fo bl
 refine bt fn al 11 [] [] [(158, .bool ((((swriteS u0 (List.replicate (u1.length : Int).toNat (0 : Int)) (sreadS u0 u1).2.1.Num (sreadS u0 u1).2.1.Den).2 == 0) && ((swriteS u0 u1 (sreadS u0 u1).2.1.Num (sreadS u0 u1).2.1.Den).2 == 0)) && ((sreadS u0 (swriteS u0 (List.replicate (u1.length : Int).toNat (0 : Int)) (sreadS u0 u1).2.1.Num (sreadS u0 u1).2.1.Den).1).2.2 == 0)))] ?_; intro jS bm; clear fn
 rcases Bool.eq_false_or_eq_true ((((swriteS u0 (List.replicate (u1.length : Int).toNat (0 : Int)) (sreadS u0 u1).2.1.Num (sreadS u0 u1).2.1.Den).2 == 0) && ((swriteS u0 u1 (sreadS u0 u1).2.1.Num (sreadS u0 u1).2.1.Den).2 == 0)) && ((sreadS u0 (swriteS u0 (List.replicate (u1.length : Int).toNat (0 : Int)) (sreadS u0 u1).2.1.Num (sreadS u0 u1).2.1.Den).1).2.2 == 0)) with aS | aS
 ·
  have hz := bk.1 aS; clear bk
  have fp := bm.reval (d := 158) (c := []) (v := .bool ((((swriteS u0 (List.replicate (u1.length : Int).toNat (0 : Int)) (sreadS u0 u1).2.1.Num (sreadS u0 u1).2.1.Den).2 == 0) && ((swriteS u0 u1 (sreadS u0 u1).2.1.Num (sreadS u0 u1).2.1.Den).2 == 0)) && ((sreadS u0 (swriteS u0 (List.replicate (u1.length : Int).toNat (0 : Int)) (sreadS u0 u1).2.1.Num (sreadS u0 u1).2.1.Den).1).2.2 == 0))) (by kernel_rfl) (.bool true) (by rw [aS]); clear bm
  refine bt fp al 2 [] [159, 160] [(159, .slice ay (swriteS u0 u1 (sreadS u0 u1).2.1.Num (sreadS u0 u1).2.1.Den).1.length az), (160, .slice ao1 u1.length cap2)] ?_; intro jT cc; clear fp
  refine fcl cc al (.bool (beqS (swriteS u0 u1 (sreadS u0 u1).2.1.Num (sreadS u0 u1).2.1.Den).1 u1)) 14 #[.slice ay (swriteS u0 u1 (sreadS u0 u1).2.1.Num (sreadS u0 u1).2.1.Den).1.length az, .slice ao1 u1.length cap2] (by rw [wanted_of cc (b := true) rfl rfl (by kernel_rfl) (by kernel_rfl)]; rfl) rfl (by kernel_rfl) (fun _ => by kernel_rfl) ((by obtain ⟨Z9, ah, I, hA⟩ := al.lend 1 rfl; exact beq_fun (swriteS u0 u1 (sreadS u0 u1).2.1.Num (sreadS u0 u1).2.1.Den).1 u1 ay az ao1 cap2 _ _ hA (SlR.mono hs3 ah) I)) ?_; intro jU jV fq ce; clear cc al
  refine s1 fq 162 (.bool (beqS (swriteS u0 u1 (sreadS u0 u1).2.1.Num (sreadS u0 u1).2.1.Den).1 u1)) ?_; intro jW fr; clear fq
  refine s1 fr 163 (.bool (beqS (swriteS u0 u1 (sreadS u0 u1).2.1.Num (sreadS u0 u1).2.1.Den).1 u1)) ?_; intro jX fs; clear fr
  have cf := fs.atom ((beqS (swriteS u0 u1 (sreadS u0 u1).2.1.Num (sreadS u0 u1).2.1.Den).1 u1) == true) (by kernel_rfl); clear fs
  refine gd cf (.agg (e30Nm ((sreadS u0 (swriteS u0 (List.replicate (u1.length : Int).toNat (0 : Int)) (sreadS u0 u1).2.1.Num (sreadS u0 u1).2.1.Den).1).2.1)).toArray) (m := 0) (cj := []) (bj := (beqS (swriteS u0 u1 (sreadS u0 u1).2.1.Num (sreadS u0 u1).2.1.Den).1 u1)) rfl rfl (by kernel_rfl) rfl (by kernel_rfl) (by kernel_rfl) (by kernel_rfl) (fun hg => lda cf ce 0 (g := [0]) (b := fj) (off := 0) (k := 3) (cs := (e30Nm ((sreadS u0 (swriteS u0 (List.replicate (u1.length : Int).toNat (0 : Int)) (sreadS u0 u1).2.1.Num (sreadS u0 u1).2.1.Den).1).2.1))) (vs := (e30Nm ((sreadS u0 (swriteS u0 (List.replicate (u1.length : Int).toNat (0 : Int)) (sreadS u0 u1).2.1.Num (sreadS u0 u1).2.1.Den).1).2.1))) (ty := 30) rfl (by kernel_rfl) (by kernel_rfl) (by kernel_rfl) (by kernel_rfl) (by kernel_rfl) hg) ?_; intro jY cg; clear cf
  refine gd cg (.agg (e30Nm ((sreadS u0 u1).2.1)).toArray) (m := 0) (cj := []) (bj := (beqS (swriteS u0 u1 (sreadS u0 u1).2.1.Num (sreadS u0 u1).2.1.Den).1 u1)) rfl rfl (by kernel_rfl) rfl (by kernel_rfl) (by kernel_rfl) (by kernel_rfl) (fun hg => lda cg ce 3 (g := [0]) (b := af) (off := 0) (k := 3) (cs := (e30Nm ((sreadS u0 u1).2.1))) (vs := (e30Nm ((sreadS u0 u1).2.1))) (ty := 30) rfl (by kernel_rfl) (by kernel_rfl) (by kernel_rfl) (by kernel_rfl) (by kernel_rfl) hg) ?_; intro jZ ch; clear cg
  refine gd ch (.bool (((sreadS u0 (swriteS u0 (List.replicate (u1.length : Int).toNat (0 : Int)) (sreadS u0 u1).2.1.Num (sreadS u0 u1).2.1.Den).1).2.1.Name == (sreadS u0 u1).2.1.Name) && (((sreadS u0 (swriteS u0 (List.replicate (u1.length : Int).toNat (0 : Int)) (sreadS u0 u1).2.1.Num (sreadS u0 u1).2.1.Den).1).2.1.Num == (sreadS u0 u1).2.1.Num) && (((sreadS u0 (swriteS u0 (List.replicate (u1.length : Int).toNat (0 : Int)) (sreadS u0 u1).2.1.Num (sreadS u0 u1).2.1.Den).1).2.1.Den == (sreadS u0 u1).2.1.Den) && true)))) (m := 0) (cj := []) (bj := (beqS (swriteS u0 u1 (sreadS u0 u1).2.1.Num (sreadS u0 u1).2.1.Den).1 u1)) rfl rfl (by kernel_rfl) rfl (by kernel_rfl) (by kernel_rfl) (by kernel_rfl) (fun hg => eqs_run ch (g := [0]) (xs := (e30Nm ((sreadS u0 (swriteS u0 (List.replicate (u1.length : Int).toNat (0 : Int)) (sreadS u0 u1).2.1.Num (sreadS u0 u1).2.1.Den).1).2.1)).toArray) (ys := (e30Nm ((sreadS u0 u1).2.1)).toArray) (b := ((sreadS u0 (swriteS u0 (List.replicate (u1.length : Int).toNat (0 : Int)) (sreadS u0 u1).2.1.Num (sreadS u0 u1).2.1.Den).1).2.1.Name == (sreadS u0 u1).2.1.Name) && (((sreadS u0 (swriteS u0 (List.replicate (u1.length : Int).toNat (0 : Int)) (sreadS u0 u1).2.1.Num (sreadS u0 u1).2.1.Den).1).2.1.Num == (sreadS u0 u1).2.1.Num) && (((sreadS u0 (swriteS u0 (List.replicate (u1.length : Int).toNat (0 : Int)) (sreadS u0 u1).2.1.Num (sreadS u0 u1).2.1.Den).1).2.1.Den == (sreadS u0 u1).2.1.Den) && true))) rfl (by kernel_rfl) (by kernel_rfl) (by kernel_rfl) (by kernel_rfl) hg) ?_; intro j0 ci; clear ch
  refine st ci (.bool ((beqS (swriteS u0 u1 (sreadS u0 u1).2.1.Num (sreadS u0 u1).2.1.Den).1 u1) && (((sreadS u0 (swriteS u0 (List.replicate (u1.length : Int).toNat (0 : Int)) (sreadS u0 u1).2.1.Num (sreadS u0 u1).2.1.Den).1).2.1.Name == (sreadS u0 u1).2.1.Name) && (((sreadS u0 (swriteS u0 (List.replicate (u1.length : Int).toNat (0 : Int)) (sreadS u0 u1).2.1.Num (sreadS u0 u1).2.1.Den).1).2.1.Num == (sreadS u0 u1).2.1.Num) && (((sreadS u0 (swriteS u0 (List.replicate (u1.length : Int).toNat (0 : Int)) (sreadS u0 u1).2.1.Num (sreadS u0 u1).2.1.Den).1).2.1.Den == (sreadS u0 u1).2.1.Den) && true))))) (nog rfl _) rfl (by kernel_rfl) (pk_and ci (g := []) (m := 0) (b := (beqS (swriteS u0 u1 (sreadS u0 u1).2.1.Num (sreadS u0 u1).2.1.Den).1 u1)) (v := ((sreadS u0 (swriteS u0 (List.replicate (u1.length : Int).toNat (0 : Int)) (sreadS u0 u1).2.1.Num (sreadS u0 u1).2.1.Den).1).2.1.Name == (sreadS u0 u1).2.1.Name) && (((sreadS u0 (swriteS u0 (List.replicate (u1.length : Int).toNat (0 : Int)) (sreadS u0 u1).2.1.Num (sreadS u0 u1).2.1.Den).1).2.1.Num == (sreadS u0 u1).2.1.Num) && (((sreadS u0 (swriteS u0 (List.replicate (u1.length : Int).toNat (0 : Int)) (sreadS u0 u1).2.1.Num (sreadS u0 u1).2.1.Den).1).2.1.Den == (sreadS u0 u1).2.1.Den) && true))) rfl (by kernel_rfl) (by kernel_rfl) (by kernel_rfl) rfl) ?_; intro j1 ft; clear ci
  refine s1 ft 8 (.bool ((beqS (swriteS u0 u1 (sreadS u0 u1).2.1.Num (sreadS u0 u1).2.1.Den).1 u1) && (((sreadS u0 (swriteS u0 (List.replicate (u1.length : Int).toNat (0 : Int)) (sreadS u0 u1).2.1.Num (sreadS u0 u1).2.1.Den).1).2.1.Name == (sreadS u0 u1).2.1.Name) && (((sreadS u0 (swriteS u0 (List.replicate (u1.length : Int).toNat (0 : Int)) (sreadS u0 u1).2.1.Num (sreadS u0 u1).2.1.Den).1).2.1.Num == (sreadS u0 u1).2.1.Num) && (((sreadS u0 (swriteS u0 (List.replicate (u1.length : Int).toNat (0 : Int)) (sreadS u0 u1).2.1.Num (sreadS u0 u1).2.1.Den).1).2.1.Den == (sreadS u0 u1).2.1.Den) && true))))) ?_; intro j2 hB; clear ft
  refine nlH (bl _ _ ?_); clear bl fo
  refine wp_ret ?_
  refine ra1 hB (.bool ((beqS (swriteS u0 u1 (sreadS u0 u1).2.1.Num (sreadS u0 u1).2.1.Den).1 u1) && (((sreadS u0 (swriteS u0 (List.replicate (u1.length : Int).toNat (0 : Int)) (sreadS u0 u1).2.1.Num (sreadS u0 u1).2.1.Den).1).2.1.Name == (sreadS u0 u1).2.1.Name) && (((sreadS u0 (swriteS u0 (List.replicate (u1.length : Int).toNat (0 : Int)) (sreadS u0 u1).2.1.Num (sreadS u0 u1).2.1.Den).1).2.1.Num == (sreadS u0 u1).2.1.Num) && (((sreadS u0 (swriteS u0 (List.replicate (u1.length : Int).toNat (0 : Int)) (sreadS u0 u1).2.1.Num (sreadS u0 u1).2.1.Den).1).2.1.Den == (sreadS u0 u1).2.1.Den) && true))))) ?_
  exact ⟨(beqS (swriteS u0 u1 (sreadS u0 u1).2.1.Num (sreadS u0 u1).2.1.Den).1 u1) && (((sreadS u0 (swriteS u0 (List.replicate (u1.length : Int).toNat (0 : Int)) (sreadS u0 u1).2.1.Num (sreadS u0 u1).2.1.Den).1).2.1.Name == (sreadS u0 u1).2.1.Name) && (((sreadS u0 (swriteS u0 (List.replicate (u1.length : Int).toNat (0 : Int)) (sreadS u0 u1).2.1.Num (sreadS u0 u1).2.1.Den).1).2.1.Num == (sreadS u0 u1).2.1.Num) && (((sreadS u0 (swriteS u0 (List.replicate (u1.length : Int).toNat (0 : Int)) (sreadS u0 u1).2.1.Num (sreadS u0 u1).2.1.Den).1).2.1.Den == (sreadS u0 u1).2.1.Den) && true))), rfl, hz, ce.below⟩
 have hD := bk.2 aS; clear bk
 have fu := bm.reval (d := 158) (c := []) (v := .bool ((((swriteS u0 (List.replicate (u1.length : Int).toNat (0 : Int)) (sreadS u0 u1).2.1.Num (sreadS u0 u1).2.1.Den).2 == 0) && ((swriteS u0 u1 (sreadS u0 u1).2.1.Num (sreadS u0 u1).2.1.Den).2 == 0)) && ((sreadS u0 (swriteS u0 (List.replicate (u1.length : Int).toNat (0 : Int)) (sreadS u0 u1).2.1.Num (sreadS u0 u1).2.1.Den).1).2.2 == 0))) (by kernel_rfl) (.bool false) (by rw [aS]); clear bm
 refine bt fu al 10 [] [159, 160, 161, 162, 164, 165, 166, 167] [(8, .bool false)] ?_; intro j3 hE; clear fu
 refine nlH (bl _ _ ?_); clear bl fo
 refine wp_ret ?_
 refine ra1 hE (.bool false) ?_
 exact ⟨false, rfl, hD, al.below⟩

end Go.Proofs.Ytdndfbamhnchfaa
