/- Texts put together (pure ones, or walks made by program). -/
import Derived.Test.YtocpdhcjkfmmnaaDoorKp0
import Derived.Test.YtocpdhcjkfmmnaaDoorKp1
import Derived.Test.YtocpdhcjkfmmnaaDoorKp2
set_option linter.unusedVariables false
set_option linter.unusedSimpArgs false
set_option linter.defProp false
set_option maxRecDepth 100000
set_option maxHeartbeats 0
namespace Go.Proofs.YtocpdhcjkfmmnaaDoor
open Go.Sy Go.RowKit
abbrev e30N (X : Frame) (A0 : Option Addr) (C0 : Nat) : List Value := [i6 X.ID, .bool X.Long, .bool X.Fast, .bool X.Remote, i6 X.Size, .slice A0 X.Data.length C0]
def ownfs_fun (u0 : List Frame) (hpre : u0.length * 48 ≤ 140737488355328) (ao1 : Option Addr) (cap2 : Nat) (Z : Fz) (w : World) (hs3 : SlR tyFrame Z ao1 cap2 u0) (hZ : Z.on w) := fc_ (ownfs_walk u0 ao1 cap2 Z w hs3 hZ (ownfs_ok u0 hpre))
theorem LPut_walk (u0 : List Frame) (u1 : Frame) (ao1 : Option Addr) (cap2 : Nat) (ao4 : Option Addr) (cap5 : Nat) (Z : Fz) (w : World) (hs3 : SlR tyFrame Z ao1 cap2 u0) (hs6 : SlR t8 Z ao4 cap5 u1.Data) (hg3 : SlR t8 Z (sm 3) 64 deBruijn64) (hZ : Z.on w) {K : Bool → Prop} (hp : LPut_vc u0 u1 K) : Calls Tryd.prog 4 #[.slice ao1 u0.length cap2, .agg #[i6 u1.ID, .bool u1.Long, .bool u1.Fast, .bool u1.Remote, i6 u1.Size, .slice ao4 u1.Data.length cap5]] w fun e w' => ∃ r : Bool, e = .returned (.bool r) ∧ K r ∧ Below w.heap.size w w' := by
 refine enter0 Tryd.func4 rfl rfl (by kernel_rfl) ?_; intro a0 ew; have ex := Mem.start w Z hZ
 have kS := hp (hs3.small) (hs6.small)
 refine sqH ?_; intro kT ez
 refine nw ew ex pb (e30N u1 ao4 cap5) 30 ?_; intro o o0 o1 eA cI
 refine s1 eA 4 (.bool false) ?_; intro o2 eB
 apply ez
 refine sqH ?_; intro kU eC
 refine s1 eB 19 (.slice ao1 u0.length cap2) ?_; intro o3 eD
 obtain ⟨kV, eE⟩ := kS
 refine ck eD 11 #[.slice ao1 u0.length cap2] ?_
 refine (ownfs_fun u0 kV ao1 cap2 _ _ hs3 cI.fz).mono ?_; rintro _ eF ⟨N, O, kW, rfl, hm⟩; refine ⟨_, rfl, ?_⟩; intro o4 eG; have eH := cI.callZ hm; have bO := hm.ext.le
 replace hs3 := hs3.mono bO
 replace hs6 := hs6.mono bO
 replace hg3 := hg3.mono bO
 have cJ : Mem w.heap.size [] w Z [.own tyFrame 30 N O (ownS u0), .row o (e30N u1 ao4 cap5) 30] kW eF := eH
 have eI := eE (cJ.ownSmall 0 rfl)
 refine s1 eG 5 (.slice N (ownS u0).length O) ?_; intro o5 eJ
 apply eC
 refine sqH ?_; intro kX eK
 refine bt eJ cJ 2 [1] [] [(22, .slice N (ownS u0).length O), (23, .agg (e30N u1 ao4 cap5).toArray)] ?_; intro o6 eL
 obtain ⟨kY, bP, eM, A⟩ := cJ.freeze 0 rfl
 replace hs3 := hs3.mono bP
 replace hs6 := hs6.mono bP
 replace hg3 := hg3.mono bP
 have cK : Mem w.heap.size [] w Z [.row o (e30N u1 ao4 cap5) 30] kY eF := eM
 refine ck eL 12 #[.slice N (ownS u0).length O, .agg (e30N u1 ao4 cap5).toArray] ?_
 refine (qput_fun (ownS u0) u1 N O ao4 cap5 _ _ A hs6 cK.fz).mono ?_; rintro _ kZ ⟨p, q, k0, rfl, hm⟩; refine ⟨_, rfl, ?_⟩; intro o7 eN; have eO := cK.callZ hm; have a8 := hm.ext.le
 replace hs3 := hs3.mono a8
 replace hs6 := hs6.mono a8
 replace hg3 := hg3.mono a8
 replace A := A.mono a8
 have a2 : Mem w.heap.size [] w Z [.own tyFrame 30 p q (putS (ownS u0) u1).1, .row o (e30N u1 ao4 cap5) 30] k0 kZ := eO
 have eP := eI (a2.ownSmall 0 rfl)
 refine bt eN a2 5 [] [] [(6, .slice p (putS (ownS u0) u1).1.length q), (7, i6 (putS (ownS u0) u1).2)] ?_; intro o8 eQ
 apply eK
 refine sqH ?_; intro k1 eR
 refine bt eQ a2 2 [1] [] [(28, .slice N (ownS u0).length O), (29, .agg (e30N u1 ao4 cap5).toArray)] ?_; intro o9 eS
 refine ck eS 13 #[.slice N (ownS u0).length O, .agg (e30N u1 ao4 cap5).toArray] ?_
 refine (qrenew_fun (ownS u0) u1 N O ao4 cap5 _ _ A hs6 a2.fz).mono ?_; rintro _ k2 ⟨f, h, k3, rfl, hm⟩; refine ⟨_, rfl, ?_⟩; intro pa eT; have eU := a2.callZ hm; have a9 := hm.ext.le
 replace hs3 := hs3.mono a9
 replace hs6 := hs6.mono a9
 replace hg3 := hg3.mono a9
 replace A := A.mono a9
 have ba : Mem w.heap.size [] w Z [.own tyFrame 30 f h (renewS (ownS u0) u1).1, .own tyFrame 30 p q (putS (ownS u0) u1).1, .row o (e30N u1 ao4 cap5) 30] k3 k2 := eU
 have eV := eP (ba.ownSmall 0 rfl)
 refine bt eT ba 5 [] [] [(8, .slice f (renewS (ownS u0) u1).1.length h), (9, i6 (renewS (ownS u0) u1).2)] ?_; intro pc eW
 apply eR
 refine sqH ?_; intro k4 eX
 refine s1 eW 34 (.slice N (ownS u0).length O) ?_; intro pd eY
 refine ck eY 14 #[.slice N (ownS u0).length O] ?_
 refine (qtake_fun (ownS u0) N O _ _ A ba.fz).mono ?_; rintro _ k5 ⟨x, y, ac, ad, aJ, rfl, B, C, hm⟩; refine ⟨_, rfl, ?_⟩; intro pe eZ; have e0 := ba.callZ hm; have bb := hm.ext.le
 replace hs3 := hs3.mono bb
 replace hs6 := hs6.mono bb
 replace hg3 := hg3.mono bb
 replace A := A.mono bb
 have cL : Mem w.heap.size [] w Z [.own tyFrame 30 f h (renewS (ownS u0) u1).1, .own tyFrame 30 p q (putS (ownS u0) u1).1, .row o (e30N u1 ao4 cap5) 30] aJ k5 := e0
 have bQ := eV (B.small) (C.small)
 refine bt eZ cL 4 [] [] [(36, .agg (e30N ((takeS (ownS u0)).1) x y).toArray), (37, .slice ac (takeS (ownS u0)).2.1.length ad), (38, i6 (takeS (ownS u0)).2.2)] ?_; intro pf e2
 refine nw e2 cL pb [i6 0, .bool false, .bool false, .bool false, i6 0, .slice none 0 0] 30 ?_; intro D pg ph cM e3
 refine sx cM e3 0 (e30N ((takeS (ownS u0)).1) x y) 0 ?_; intro k6 cN
 refine bt cM cN 2 [] [] [(11, .slice ac (takeS (ownS u0)).2.1.length ad), (12, i6 (takeS (ownS u0)).2.2)] ?_; intro pi e4
 have cO : Mem w.heap.size [] w Z [.row D (e30N ((takeS (ownS u0)).1) x y) 30, .own tyFrame 30 f h (renewS (ownS u0) u1).1, .own tyFrame 30 p q (putS (ownS u0) u1).1, .row o (e30N u1 ao4 cap5) 30] aJ k6 := cN
 apply eX
 refine sqH ?_; intro k7 e5
 refine s1 e4 39 (.slice ao1 u0.length cap2) ?_; intro pj e6
 refine fc e6 cO (rcheckq_fun u0 ao1 cap2 _ _ hs3 hg3 cO.fz) ?_; intro pk pl e7 cP
 refine s1 e7 13 (i6 (qcheckS u0)) ?_; intro pm e8
 apply e5
 refine s_ (sqH ?_); intro k8 e9
 refine fc e8 cP (queued_fun  _ _ cP.fz) ?_; intro pn po fa bR
 refine bt fa bR 3 [] [44] [(43, .bool false), (44, .slice ao1 u0.length cap2)] ?_; intro pp cQ
 refine fcl cQ bR (i6 (qcheckS u0)) 15 #[.slice ao1 u0.length cap2] (wK cQ false) rfl (by kernel_rfl) (fun _ => by kernel_rfl) (qcheck_fun u0 ao1 cap2 _ _ hs3 bR.fz) ?_; intro pq pr bS cR
 refine g_ bS false (i6 (qcheckS u0)) ?_; intro ps bT
 refine g_ bT false (.bool ((qcheckS u0) != (qcheckS u0))) ?_; intro pv fb
 refine s1 fb 48 (.bool ((qcheckS u0) != (qcheckS u0))) ?_; intro pw fd
 refine s1 fd 49 (.bool ((qcheckS u0) != (qcheckS u0))) ?_; intro px fe
 have ff := fe.atom (((qcheckS u0) != (qcheckS u0)) == false) (by kernel_rfl)
 refine gp ff 50 0 [] ((qcheckS u0) != (qcheckS u0)) (.slice N (ownS u0).length O) rfl rfl ?_; intro py fg
 refine gp fg 51 0 [] ((qcheckS u0) != (qcheckS u0)) (.slice ao1 u0.length cap2) rfl rfl ?_; intro pz fh
 refine gcl fh cR (.bool (samesS (ownS u0) u0)) 10 #[.slice N (ownS u0).length O, .slice ao1 u0.length cap2] (m := 0) (cj := []) (bj := (qcheckS u0) != (qcheckS u0)) rfl rfl (by kernel_rfl) rfl (by kernel_rfl) (by kernel_rfl) (by kernel_rfl) (fun _ => by kernel_rfl) (fun hg => rSames_fun (ownS u0) u0 N O ao1 cap2 _ _ A hs3 cR.fz) ?_; intro pA pB fi L
 refine gp fi 53 0 [] ((qcheckS u0) != (qcheckS u0)) (.bool (!(samesS (ownS u0) u0))) rfl rfl ?_; intro pC cS
 refine u_ cS (.bool (((qcheckS u0) != (qcheckS u0)) || (!(samesS (ownS u0) u0)))) (pk_or cS (g := []) (m := 0) (b := (qcheckS u0) != (qcheckS u0)) (v := !(samesS (ownS u0) u0)) rfl (by kernel_rfl) (by kernel_rfl) (by kernel_rfl) rfl) ?_; intro fj bc
 apply e9
 refine c_ bc bQ (fun _ k9 => ?_) fun _ bU => ?_
 ·
  have fk : Fr 198 [] [] fj := bc.reg
  refine sqB fk L [] [] [(4, .bool false)] ?_; intro pD la
  exact r_ (h_ (ra1 la (.bool false) ⟨false, rfl, k9, L.below⟩))
 refine k_ (s_ ?_)
 have fl : Fr 198 [] [⟨0, [], .slice ao1 u0.length cap2⟩, ⟨3, [], pt o 0⟩, ⟨6, [], .slice p (putS (ownS u0) u1).1.length q⟩, ⟨7, [], i6 (putS (ownS u0) u1).2⟩, ⟨8, [], .slice f (renewS (ownS u0) u1).1.length h⟩, ⟨9, [], i6 (renewS (ownS u0) u1).2⟩, ⟨10, [], pt D 0⟩, ⟨11, [], .slice ac (takeS (ownS u0)).2.1.length ad⟩, ⟨12, [], i6 (takeS (ownS u0)).2.2⟩, ⟨13, [], i6 (qcheckS u0)⟩] fj := bc.reg
 refine sqB fl L [] [] [(56, .bool ((qcheckS u0) != 0))] ?_; intro pE bd
 refine c_ bd bU (fun _ lb => ?_) fun _ bV => ?_
 ·
  refine sqH ?_; intro lc fm
  refine s1 bd 57 (i6 (putS (ownS u0) u1).2) ?_; intro pF fn
  refine s1 fn 58 (i6 (qcheckS u0)) ?_; intro pG fo
  refine s1 fo 59 (.bool ((putS (ownS u0) u1).2 == (qcheckS u0))) ?_; intro pH fp
  refine s1 fp 60 (.bool ((putS (ownS u0) u1).2 == (qcheckS u0))) ?_; intro pI fq
  have fr := fq.atom (((putS (ownS u0) u1).2 == (qcheckS u0)) == true) (by kernel_rfl)
  refine gp fr 61 0 [] ((putS (ownS u0) u1).2 == (qcheckS u0)) (i6 (renewS (ownS u0) u1).2) rfl rfl ?_; intro pJ fs
  refine gp fs 62 0 [] ((putS (ownS u0) u1).2 == (qcheckS u0)) (i6 (qcheckS u0)) rfl rfl ?_; intro pK ft
  refine gp ft 63 0 [] ((putS (ownS u0) u1).2 == (qcheckS u0)) (.bool ((renewS (ownS u0) u1).2 == (qcheckS u0))) rfl rfl ?_; intro pL cV
  refine u_ cV (.bool (((putS (ownS u0) u1).2 == (qcheckS u0)) && ((renewS (ownS u0) u1).2 == (qcheckS u0)))) (pk_and cV (g := []) (m := 0) (b := (putS (ownS u0) u1).2 == (qcheckS u0)) (v := (renewS (ownS u0) u1).2 == (qcheckS u0)) rfl (by kernel_rfl) (by kernel_rfl) (by kernel_rfl) rfl) ?_; intro pM fu
  refine s1 fu 65 (.bool (((putS (ownS u0) u1).2 == (qcheckS u0)) && ((renewS (ownS u0) u1).2 == (qcheckS u0)))) ?_; intro pN fv
  have fw := fv.atom ((((putS (ownS u0) u1).2 == (qcheckS u0)) && ((renewS (ownS u0) u1).2 == (qcheckS u0))) == true) (by kernel_rfl)
  refine gp fw 66 1 [] (((putS (ownS u0) u1).2 == (qcheckS u0)) && ((renewS (ownS u0) u1).2 == (qcheckS u0))) (i6 (takeS (ownS u0)).2.2) rfl rfl ?_; intro pO fx
  refine gp fx 67 1 [] (((putS (ownS u0) u1).2 == (qcheckS u0)) && ((renewS (ownS u0) u1).2 == (qcheckS u0))) (i6 (qcheckS u0)) rfl rfl ?_; intro pP fy
  refine gp fy 68 1 [] (((putS (ownS u0) u1).2 == (qcheckS u0)) && ((renewS (ownS u0) u1).2 == (qcheckS u0))) (.bool ((takeS (ownS u0)).2.2 == (qcheckS u0))) rfl rfl ?_; intro pQ cW
  refine u_ cW (.bool ((((putS (ownS u0) u1).2 == (qcheckS u0)) && ((renewS (ownS u0) u1).2 == (qcheckS u0))) && ((takeS (ownS u0)).2.2 == (qcheckS u0)))) (pk_and cW (g := []) (m := 1) (b := ((putS (ownS u0) u1).2 == (qcheckS u0)) && ((renewS (ownS u0) u1).2 == (qcheckS u0))) (v := (takeS (ownS u0)).2.2 == (qcheckS u0)) rfl (by kernel_rfl) (by kernel_rfl) (by kernel_rfl) rfl) ?_; intro pR fA
  refine s1 fA 70 (.bool ((((putS (ownS u0) u1).2 == (qcheckS u0)) && ((renewS (ownS u0) u1).2 == (qcheckS u0))) && ((takeS (ownS u0)).2.2 == (qcheckS u0)))) ?_; intro pS fB
  have fC := fB.atom (((((putS (ownS u0) u1).2 == (qcheckS u0)) && ((renewS (ownS u0) u1).2 == (qcheckS u0))) && ((takeS (ownS u0)).2.2 == (qcheckS u0))) == true) (by kernel_rfl)
  refine gp fC 71 2 [] ((((putS (ownS u0) u1).2 == (qcheckS u0)) && ((renewS (ownS u0) u1).2 == (qcheckS u0))) && ((takeS (ownS u0)).2.2 == (qcheckS u0))) (.slice p (putS (ownS u0) u1).1.length q) rfl rfl ?_; intro pT fD
  refine gp fD 72 2 [] ((((putS (ownS u0) u1).2 == (qcheckS u0)) && ((renewS (ownS u0) u1).2 == (qcheckS u0))) && ((takeS (ownS u0)).2.2 == (qcheckS u0))) (i6 ((putS (ownS u0) u1).1.length : Int)) rfl rfl ?_; intro pU fE
  refine gp fE 73 2 [] ((((putS (ownS u0) u1).2 == (qcheckS u0)) && ((renewS (ownS u0) u1).2 == (qcheckS u0))) && ((takeS (ownS u0)).2.2 == (qcheckS u0))) (.bool (((putS (ownS u0) u1).1.length : Int) == 0)) rfl rfl ?_; intro pV cX
  refine u_ cX (.bool (((((putS (ownS u0) u1).2 == (qcheckS u0)) && ((renewS (ownS u0) u1).2 == (qcheckS u0))) && ((takeS (ownS u0)).2.2 == (qcheckS u0))) && (((putS (ownS u0) u1).1.length : Int) == 0))) (pk_and cX (g := []) (m := 2) (b := (((putS (ownS u0) u1).2 == (qcheckS u0)) && ((renewS (ownS u0) u1).2 == (qcheckS u0))) && ((takeS (ownS u0)).2.2 == (qcheckS u0))) (v := ((putS (ownS u0) u1).1.length : Int) == 0) rfl (by kernel_rfl) (by kernel_rfl) (by kernel_rfl) rfl) ?_; intro pW fF
  refine s1 fF 75 (.bool (((((putS (ownS u0) u1).2 == (qcheckS u0)) && ((renewS (ownS u0) u1).2 == (qcheckS u0))) && ((takeS (ownS u0)).2.2 == (qcheckS u0))) && (((putS (ownS u0) u1).1.length : Int) == 0))) ?_; intro pX fG
  have fH := fG.atom ((((((putS (ownS u0) u1).2 == (qcheckS u0)) && ((renewS (ownS u0) u1).2 == (qcheckS u0))) && ((takeS (ownS u0)).2.2 == (qcheckS u0))) && (((putS (ownS u0) u1).1.length : Int) == 0)) == true) (by kernel_rfl)
  refine gp fH 76 3 [] (((((putS (ownS u0) u1).2 == (qcheckS u0)) && ((renewS (ownS u0) u1).2 == (qcheckS u0))) && ((takeS (ownS u0)).2.2 == (qcheckS u0))) && (((putS (ownS u0) u1).1.length : Int) == 0)) (.slice f (renewS (ownS u0) u1).1.length h) rfl rfl ?_; intro pY fI
  refine gp fI 77 3 [] (((((putS (ownS u0) u1).2 == (qcheckS u0)) && ((renewS (ownS u0) u1).2 == (qcheckS u0))) && ((takeS (ownS u0)).2.2 == (qcheckS u0))) && (((putS (ownS u0) u1).1.length : Int) == 0)) (i6 ((renewS (ownS u0) u1).1.length : Int)) rfl rfl ?_; intro pZ fJ
  refine gp fJ 78 3 [] (((((putS (ownS u0) u1).2 == (qcheckS u0)) && ((renewS (ownS u0) u1).2 == (qcheckS u0))) && ((takeS (ownS u0)).2.2 == (qcheckS u0))) && (((putS (ownS u0) u1).1.length : Int) == 0)) (.bool (((renewS (ownS u0) u1).1.length : Int) == 0)) rfl rfl ?_; intro p1 cY
  refine u_ cY (.bool ((((((putS (ownS u0) u1).2 == (qcheckS u0)) && ((renewS (ownS u0) u1).2 == (qcheckS u0))) && ((takeS (ownS u0)).2.2 == (qcheckS u0))) && (((putS (ownS u0) u1).1.length : Int) == 0)) && (((renewS (ownS u0) u1).1.length : Int) == 0))) (pk_and cY (g := []) (m := 3) (b := ((((putS (ownS u0) u1).2 == (qcheckS u0)) && ((renewS (ownS u0) u1).2 == (qcheckS u0))) && ((takeS (ownS u0)).2.2 == (qcheckS u0))) && (((putS (ownS u0) u1).1.length : Int) == 0)) (v := ((renewS (ownS u0) u1).1.length : Int) == 0) rfl (by kernel_rfl) (by kernel_rfl) (by kernel_rfl) rfl) ?_; intro p2 fK
  refine s1 fK 80 (.bool ((((((putS (ownS u0) u1).2 == (qcheckS u0)) && ((renewS (ownS u0) u1).2 == (qcheckS u0))) && ((takeS (ownS u0)).2.2 == (qcheckS u0))) && (((putS (ownS u0) u1).1.length : Int) == 0)) && (((renewS (ownS u0) u1).1.length : Int) == 0))) ?_; intro p3 fL
  have cZ := fL.atom (((((((putS (ownS u0) u1).2 == (qcheckS u0)) && ((renewS (ownS u0) u1).2 == (qcheckS u0))) && ((takeS (ownS u0)).2.2 == (qcheckS u0))) && (((putS (ownS u0) u1).1.length : Int) == 0)) && (((renewS (ownS u0) u1).1.length : Int) == 0)) == true) (by kernel_rfl)
  refine gd cZ (.agg (e30N ((takeS (ownS u0)).1) x y).toArray) (m := 4) (cj := []) (bj := (((((putS (ownS u0) u1).2 == (qcheckS u0)) && ((renewS (ownS u0) u1).2 == (qcheckS u0))) && ((takeS (ownS u0)).2.2 == (qcheckS u0))) && (((putS (ownS u0) u1).1.length : Int) == 0)) && (((renewS (ownS u0) u1).1.length : Int) == 0)) rfl rfl (by kernel_rfl) rfl (by kernel_rfl) (by kernel_rfl) (by kernel_rfl) (fun hg => lda cZ L 0 (g := [4]) (b := D) (off := 0) (k := 6) (cs := (e30N ((takeS (ownS u0)).1) x y)) (vs := (e30N ((takeS (ownS u0)).1) x y)) (ty := 30) rfl (by kernel_rfl) (by kernel_rfl) (by kernel_rfl) (by kernel_rfl) (by kernel_rfl) hg) ?_; intro p4 fM
  refine gcl fM L (.bool (nofrS (takeS (ownS u0)).1)) 16 #[.agg (e30N ((takeS (ownS u0)).1) x y).toArray] (m := 4) (cj := []) (bj := (((((putS (ownS u0) u1).2 == (qcheckS u0)) && ((renewS (ownS u0) u1).2 == (qcheckS u0))) && ((takeS (ownS u0)).2.2 == (qcheckS u0))) && (((putS (ownS u0) u1).1.length : Int) == 0)) && (((renewS (ownS u0) u1).1.length : Int) == 0)) rfl rfl (by kernel_rfl) rfl (by kernel_rfl) (by kernel_rfl) (by kernel_rfl) (fun _ => by kernel_rfl) (fun hg => nofr_fun (takeS (ownS u0)).1 x y _ _ B L.fz) ?_; intro p5 p6 c0 ld
  refine u_ c0 (.bool (((((((putS (ownS u0) u1).2 == (qcheckS u0)) && ((renewS (ownS u0) u1).2 == (qcheckS u0))) && ((takeS (ownS u0)).2.2 == (qcheckS u0))) && (((putS (ownS u0) u1).1.length : Int) == 0)) && (((renewS (ownS u0) u1).1.length : Int) == 0)) && (nofrS (takeS (ownS u0)).1))) (pk_and c0 (g := []) (m := 4) (b := (((((putS (ownS u0) u1).2 == (qcheckS u0)) && ((renewS (ownS u0) u1).2 == (qcheckS u0))) && ((takeS (ownS u0)).2.2 == (qcheckS u0))) && (((putS (ownS u0) u1).1.length : Int) == 0)) && (((renewS (ownS u0) u1).1.length : Int) == 0)) (v := (nofrS (takeS (ownS u0)).1)) rfl (by kernel_rfl) (by kernel_rfl) (by kernel_rfl) rfl) ?_; intro p7 fN
  refine s1 fN 84 (.bool (((((((putS (ownS u0) u1).2 == (qcheckS u0)) && ((renewS (ownS u0) u1).2 == (qcheckS u0))) && ((takeS (ownS u0)).2.2 == (qcheckS u0))) && (((putS (ownS u0) u1).1.length : Int) == 0)) && (((renewS (ownS u0) u1).1.length : Int) == 0)) && (nofrS (takeS (ownS u0)).1))) ?_; intro p8 fO
  have fP := fO.atom ((((((((putS (ownS u0) u1).2 == (qcheckS u0)) && ((renewS (ownS u0) u1).2 == (qcheckS u0))) && ((takeS (ownS u0)).2.2 == (qcheckS u0))) && (((putS (ownS u0) u1).1.length : Int) == 0)) && (((renewS (ownS u0) u1).1.length : Int) == 0)) && (nofrS (takeS (ownS u0)).1)) == true) (by kernel_rfl)
  refine gp fP 85 5 [] (((((((putS (ownS u0) u1).2 == (qcheckS u0)) && ((renewS (ownS u0) u1).2 == (qcheckS u0))) && ((takeS (ownS u0)).2.2 == (qcheckS u0))) && (((putS (ownS u0) u1).1.length : Int) == 0)) && (((renewS (ownS u0) u1).1.length : Int) == 0)) && (nofrS (takeS (ownS u0)).1)) (.slice ac (takeS (ownS u0)).2.1.length ad) rfl rfl ?_; intro p9 fQ
  refine gp fQ 86 5 [] (((((((putS (ownS u0) u1).2 == (qcheckS u0)) && ((renewS (ownS u0) u1).2 == (qcheckS u0))) && ((takeS (ownS u0)).2.2 == (qcheckS u0))) && (((putS (ownS u0) u1).1.length : Int) == 0)) && (((renewS (ownS u0) u1).1.length : Int) == 0)) && (nofrS (takeS (ownS u0)).1)) (i6 ((takeS (ownS u0)).2.1.length : Int)) rfl rfl ?_; intro qa fR
  refine gp fR 87 5 [] (((((((putS (ownS u0) u1).2 == (qcheckS u0)) && ((renewS (ownS u0) u1).2 == (qcheckS u0))) && ((takeS (ownS u0)).2.2 == (qcheckS u0))) && (((putS (ownS u0) u1).1.length : Int) == 0)) && (((renewS (ownS u0) u1).1.length : Int) == 0)) && (nofrS (takeS (ownS u0)).1)) (.bool (((takeS (ownS u0)).2.1.length : Int) == 0)) rfl rfl ?_; intro qb c1
  refine u_ c1 (.bool ((((((((putS (ownS u0) u1).2 == (qcheckS u0)) && ((renewS (ownS u0) u1).2 == (qcheckS u0))) && ((takeS (ownS u0)).2.2 == (qcheckS u0))) && (((putS (ownS u0) u1).1.length : Int) == 0)) && (((renewS (ownS u0) u1).1.length : Int) == 0)) && (nofrS (takeS (ownS u0)).1)) && (((takeS (ownS u0)).2.1.length : Int) == 0))) (pk_and c1 (g := []) (m := 5) (b := ((((((putS (ownS u0) u1).2 == (qcheckS u0)) && ((renewS (ownS u0) u1).2 == (qcheckS u0))) && ((takeS (ownS u0)).2.2 == (qcheckS u0))) && (((putS (ownS u0) u1).1.length : Int) == 0)) && (((renewS (ownS u0) u1).1.length : Int) == 0)) && (nofrS (takeS (ownS u0)).1)) (v := ((takeS (ownS u0)).2.1.length : Int) == 0) rfl (by kernel_rfl) (by kernel_rfl) (by kernel_rfl) rfl) ?_; intro qc fS
  refine s1 fS 4 (.bool ((((((((putS (ownS u0) u1).2 == (qcheckS u0)) && ((renewS (ownS u0) u1).2 == (qcheckS u0))) && ((takeS (ownS u0)).2.2 == (qcheckS u0))) && (((putS (ownS u0) u1).1.length : Int) == 0)) && (((renewS (ownS u0) u1).1.length : Int) == 0)) && (nofrS (takeS (ownS u0)).1)) && (((takeS (ownS u0)).2.1.length : Int) == 0))) ?_; intro qd lf
  apply fm
  exact r_ (h_ (ra1 lf (.bool ((((((((putS (ownS u0) u1).2 == (qcheckS u0)) && ((renewS (ownS u0) u1).2 == (qcheckS u0))) && ((takeS (ownS u0)).2.2 == (qcheckS u0))) && (((putS (ownS u0) u1).1.length : Int) == 0)) && (((renewS (ownS u0) u1).1.length : Int) == 0)) && (nofrS (takeS (ownS u0)).1)) && (((takeS (ownS u0)).2.1.length : Int) == 0))) ⟨(((((((putS (ownS u0) u1).2 == (qcheckS u0)) && ((renewS (ownS u0) u1).2 == (qcheckS u0))) && ((takeS (ownS u0)).2.2 == (qcheckS u0))) && (((putS (ownS u0) u1).1.length : Int) == 0)) && (((renewS (ownS u0) u1).1.length : Int) == 0)) && (nofrS (takeS (ownS u0)).1)) && (((takeS (ownS u0)).2.1.length : Int) == 0), rfl, lb, ld.below⟩))
 refine k_ (s_ (sqB bd L [] [] [(91, .bool ((u0.length : Int) == 0))] ?_)); intro lg be
 refine c_ be bV (fun _ bW => ?_) fun _ ce => ?_
 ·
  refine sqH ?_; intro lh fT
  refine s1 be 92 (i6 (takeS (ownS u0)).2.2) ?_; intro qe fU
  refine s1 fU 93 (.bool ((takeS (ownS u0)).2.2 != 8)) ?_; intro qf fV
  refine s1 fV 94 (.bool ((takeS (ownS u0)).2.2 != 8)) ?_; intro qg fW
  have c3 := fW.atom (((takeS (ownS u0)).2.2 != 8) == false) (by kernel_rfl)
  refine gd c3 (.agg (e30N ((takeS (ownS u0)).1) x y).toArray) (m := 0) (cj := []) (bj := (takeS (ownS u0)).2.2 != 8) rfl rfl (by kernel_rfl) rfl (by kernel_rfl) (by kernel_rfl) (by kernel_rfl) (fun hg => lda c3 L 0 (g := [0]) (b := D) (off := 0) (k := 6) (cs := (e30N ((takeS (ownS u0)).1) x y)) (vs := (e30N ((takeS (ownS u0)).1) x y)) (ty := 30) rfl (by kernel_rfl) (by kernel_rfl) (by kernel_rfl) (by kernel_rfl) (by kernel_rfl) hg) ?_; intro qh fX
  refine gcl fX L (.bool (nofrS (takeS (ownS u0)).1)) 16 #[.agg (e30N ((takeS (ownS u0)).1) x y).toArray] (m := 0) (cj := []) (bj := (takeS (ownS u0)).2.2 != 8) rfl rfl (by kernel_rfl) rfl (by kernel_rfl) (by kernel_rfl) (by kernel_rfl) (fun _ => by kernel_rfl) (fun hg => nofr_fun (takeS (ownS u0)).1 x y _ _ B L.fz) ?_; intro qi qj fY a3
  refine gp fY 97 0 [] ((takeS (ownS u0)).2.2 != 8) (.bool (!(nofrS (takeS (ownS u0)).1))) rfl rfl ?_; intro qk c4
  refine u_ c4 (.bool (((takeS (ownS u0)).2.2 != 8) || (!(nofrS (takeS (ownS u0)).1)))) (pk_or c4 (g := []) (m := 0) (b := (takeS (ownS u0)).2.2 != 8) (v := !(nofrS (takeS (ownS u0)).1)) rfl (by kernel_rfl) (by kernel_rfl) (by kernel_rfl) rfl) ?_; intro ql fZ
  refine s1 fZ 99 (.bool (((takeS (ownS u0)).2.2 != 8) || (!(nofrS (takeS (ownS u0)).1)))) ?_; intro qm f0
  have f1 := f0.atom ((((takeS (ownS u0)).2.2 != 8) || (!(nofrS (takeS (ownS u0)).1))) == false) (by kernel_rfl)
  refine gp f1 100 1 [] (((takeS (ownS u0)).2.2 != 8) || (!(nofrS (takeS (ownS u0)).1))) (.slice ac (takeS (ownS u0)).2.1.length ad) rfl rfl ?_; intro qn f2
  refine gp f2 101 1 [] (((takeS (ownS u0)).2.2 != 8) || (!(nofrS (takeS (ownS u0)).1))) (i6 ((takeS (ownS u0)).2.1.length : Int)) rfl rfl ?_; intro qo f3
  refine gp f3 102 1 [] (((takeS (ownS u0)).2.2 != 8) || (!(nofrS (takeS (ownS u0)).1))) (.bool (((takeS (ownS u0)).2.1.length : Int) != 0)) rfl rfl ?_; intro qp c5
  refine u_ c5 (.bool ((((takeS (ownS u0)).2.2 != 8) || (!(nofrS (takeS (ownS u0)).1))) || (((takeS (ownS u0)).2.1.length : Int) != 0))) (pk_or c5 (g := []) (m := 1) (b := ((takeS (ownS u0)).2.2 != 8) || (!(nofrS (takeS (ownS u0)).1))) (v := ((takeS (ownS u0)).2.1.length : Int) != 0) rfl (by kernel_rfl) (by kernel_rfl) (by kernel_rfl) rfl) ?_; intro f4 bf
  apply fT
  refine c_ bf bW (fun _ li => ?_) fun _ bX => ?_
  ·
   have f5 : Fr 198 [] [] f4 := bf.reg
   refine sqB f5 a3 [] [] [(4, .bool false)] ?_; intro qq lj
   exact r_ (h_ (ra1 lj (.bool false) ⟨false, rfl, li, a3.below⟩))
  refine k_ (s_ ?_)
  have f6 : Fr 198 [] [⟨0, [], .slice ao1 u0.length cap2⟩, ⟨3, [], pt o 0⟩, ⟨6, [], .slice p (putS (ownS u0) u1).1.length q⟩, ⟨7, [], i6 (putS (ownS u0) u1).2⟩, ⟨8, [], .slice f (renewS (ownS u0) u1).1.length h⟩, ⟨9, [], i6 (renewS (ownS u0) u1).2⟩] f4 := bf.reg
  refine sqH ?_; intro lk f7
  refine l2 f6 a3 121 3 0 6 (e30N u1 ao4 cap5) rfl rfl ?_; intro qr f8
  refine fc f8 a3 (rcheckfr_fun u1 ao4 cap5 _ _ hs6 a3.fz) ?_; intro qs qt f9 I
  refine s1 f9 14 (i6 (fcheckfr u1)) ?_; intro qu ga
  apply f7
  refine sqB ga I [] [] [(124, .bool ((fcheckfr u1) != 0))] ?_; intro qv bg
  refine c_ bg bX (fun _ ll => ?_) fun _ bY => ?_
  ·
   refine sqB bg I [] [] [(4, .bool (((((putS (ownS u0) u1).2 == (fcheckfr u1)) && ((renewS (ownS u0) u1).2 == (fcheckfr u1))) && (((putS (ownS u0) u1).1.length : Int) == 0)) && (((renewS (ownS u0) u1).1.length : Int) == 0)))] ?_; intro qw lm
   exact r_ (h_ (ra1 lm (.bool (((((putS (ownS u0) u1).2 == (fcheckfr u1)) && ((renewS (ownS u0) u1).2 == (fcheckfr u1))) && (((putS (ownS u0) u1).1.length : Int) == 0)) && (((renewS (ownS u0) u1).1.length : Int) == 0))) ⟨((((putS (ownS u0) u1).2 == (fcheckfr u1)) && ((renewS (ownS u0) u1).2 == (fcheckfr u1))) && (((putS (ownS u0) u1).1.length : Int) == 0)) && (((renewS (ownS u0) u1).1.length : Int) == 0), rfl, ll, I.below⟩))
  refine k_ (sqB bg I [] [] [(15, .bool ((u0.length : Int) == 16))] ?_); intro qx gb
  refine s_ (sqB gb I [] [] [(146, .bool ((u0.length : Int) == 16))] ?_); intro qy bh
  refine c_ bh bY (fun _ bZ => ?_) fun _ b3 => ?_
  ·
   refine sqB bh I [] [] [(153, .bool (((putS (ownS u0) u1).2 != 11) || (((putS (ownS u0) u1).1.length : Int) != 0)))] ?_; intro qz bi
   refine c_ bi bZ (fun _ ln => ?_) fun _ lq => ?_
   ·
    refine sqB bi I [] [] [(4, .bool false)] ?_; intro qA lo
    exact r_ (h_ (ra1 lo (.bool false) ⟨false, rfl, ln, I.below⟩))
   refine k_ (s_ (sqB bi I [] [] [(164, .slice ao1 u0.length cap2), (165, i6 (u0.length : Int)), (166, i6 0)] ?_)); intro gc ge
   apply b_
   have gf : Fr 198 [] [⟨0, [], .slice ao1 u0.length cap2⟩, ⟨3, [], pt o 0⟩, ⟨6, [], .slice p (putS (ownS u0) u1).1.length q⟩, ⟨7, [], i6 (putS (ownS u0) u1).2⟩, ⟨8, [], .slice f (renewS (ownS u0) u1).1.length h⟩, ⟨9, [], i6 (renewS (ownS u0) u1).2⟩, ⟨164, [], .slice ao1 u0.length cap2⟩, ⟨165, [], i6 (u0.length : Int)⟩, ⟨166, [], i6 0⟩] gc := ge.reg
   obtain ⟨lr, ls, lt, lu⟩ := lq
   refine lp (ι := Int) (fun s => [⟨0, [], .slice ao1 u0.length cap2⟩, ⟨3, [], pt o 0⟩, ⟨6, [], .slice p (putS (ownS u0) u1).1.length q⟩, ⟨7, [], i6 (putS (ownS u0) u1).2⟩, ⟨8, [], .slice f (renewS (ownS u0) u1).1.length h⟩, ⟨9, [], i6 (renewS (ownS u0) u1).2⟩, ⟨164, [], .slice ao1 u0.length cap2⟩, ⟨165, [], i6 (u0.length : Int)⟩, ⟨166, [], i6 s⟩]) (fun s => [.row D (e30N ((takeS (ownS u0)).1) x y) 30, .own tyFrame 30 f h (renewS (ownS u0) u1).1, .own tyFrame 30 p q (putS (ownS u0) u1).1, .row o (e30N u1 ao4 cap5) 30]) (fun s => aJ) (fun s => lr s) (fun s => ls s) 0 lt (by exact gf.reg) (by exact I) ?_
   rintro a lv lw da gh gi
   have b0 := lu a lv
   refine sqB gh gi [] [] [(167, .bool (decide (a < (u0.length : Int))))] ?_; intro qB bl
   refine s_ (c_ bl b0 (fun _ lx => ?_) fun _ l3 => ?_)
   ·
    refine k_ (s_ (b_ (sqH ?_))); intro ly gk
    refine s1 bl 168 (i6 a) ?_; intro qC gl
    obtain ⟨lz, gm⟩ := lx
    refine ix_ gl hs3 a lz .i64 30 48 ?_; intro qD qE qF i qG lA aU lB gn
    have go := gm i lA
    obtain ⟨R, S, rfl, aK⟩ := lB
    have lC := go (aK.small)
    refine z2 gn gi 170 aU 0 6 (e30N i R S) rfl ?_; intro qH gq
    refine nw gq gi pb [i6 0, .bool false, .bool false, .bool false, i6 0, .slice none 0 0] 30 ?_; intro aL qI qJ gr gs
    refine s1 gr 16 (i6 a) ?_; intro lD dc
    refine sx dc gs 0 (e30N i R S) 0 ?_; intro lE gt
    have gu : Mem w.heap.size [] w Z [.row aL (e30N i R S) 30, .row D (e30N ((takeS (ownS u0)).1) x y) 30, .own tyFrame 30 f h (renewS (ownS u0) u1).1, .own tyFrame 30 p q (putS (ownS u0) u1).1, .row o (e30N u1 ao4 cap5) 30] aJ lE := gt
    apply gk
    have dd : Fr 198 [] [⟨0, [], .slice ao1 u0.length cap2⟩, ⟨3, [], pt o 0⟩, ⟨6, [], .slice p (putS (ownS u0) u1).1.length q⟩, ⟨7, [], i6 (putS (ownS u0) u1).2⟩, ⟨8, [], .slice f (renewS (ownS u0) u1).1.length h⟩, ⟨9, [], i6 (renewS (ownS u0) u1).2⟩, ⟨16, [], i6 a⟩, ⟨17, [], pt aL 0⟩, ⟨164, [], .slice ao1 u0.length cap2⟩, ⟨165, [], i6 (u0.length : Int)⟩, ⟨166, [], i6 a⟩] lD := dc.reg
    refine sqQH mixed (by kernel_rfl) gu ?_; intro lF gv
    refine qu_ dd (.agg (e30N i R S).toArray) (fun v463 hC => lda dd hC 0 (g := []) (b := aL) (off := 0) (k := 6) (cs := (e30N i R S)) (vs := (e30N i R S)) (ty := 30) rfl (by kernel_rfl) (by kernel_rfl) (by kernel_rfl) (by kernel_rfl) (by kernel_rfl) rfl) ?_; intro qK gw
    obtain ⟨lG, lH⟩ := lC
    refine qcl gw (str (fnameS i)) 19 #[.agg (e30N i R S).toArray] (nog rfl _) rfl (by kernel_rfl) (fun _ => by kernel_rfl) (qfc fun w hC => rname_fun i lG R S _ _ aK hg3 hC.fz) ?_; intro qL de
    refine qu_ de (.agg (e30N u1 ao4 cap5).toArray) (fun v471 hC => lda de hC 4 (g := []) (b := o) (off := 0) (k := 6) (cs := (e30N u1 ao4 cap5)) (vs := (e30N u1 ao4 cap5)) (ty := 30) rfl (by kernel_rfl) (by kernel_rfl) (by kernel_rfl) (by kernel_rfl) (by kernel_rfl) rfl) ?_; intro qM gx
    obtain ⟨lI, b1⟩ := lH
    refine qcl gx (str (fnameS u1)) 19 #[.agg (e30N u1 ao4 cap5).toArray] (nog rfl _) rfl (by kernel_rfl) (fun _ => by kernel_rfl) (qfc fun w hC => rname_fun u1 lI ao4 cap5 _ _ hs6 hg3 hC.fz) ?_; intro qN df
    refine qu_ df (.bool ((fnameS i) == (fnameS u1))) (fun v479 hC => strcmp_run df (g := []) (op := .eql) rfl (by kernel_rfl) (by kernel_rfl) (by decide) rfl) ?_; intro qO bm
    refine qnl (gv _ ?_); intro qP bn
    refine c_ bm b1 (fun _ lJ => ?_) fun _ gT => ?_
    ·
     refine sqH ?_; intro lK gy
     refine s1 bm 176 (.slice ao1 u0.length cap2) ?_; intro qQ gz
     obtain ⟨lL, gA⟩ := lJ
     refine ck gz 20 #[.slice ao1 u0.length cap2] ?_
     refine (fclone_fun u0 lL ao1 cap2 _ _ hs3 bn.fz).mono ?_; rintro _ lM ⟨dh, ak, gB, rfl, hm⟩; refine ⟨_, rfl, ?_⟩; intro qR gC; have gD := bn.callZ hm; have ay := hm.ext.le
     replace hs6 := hs6.mono ay
     have bo : Mem w.heap.size [] w Z [.own tyFrame 30 dh ak (fcloneS u0), .row aL (e30N i R S) 30, .row D (e30N ((takeS (ownS u0)).1) x y) 30, .own tyFrame 30 f h (renewS (ownS u0) u1).1, .own tyFrame 30 p q (putS (ownS u0) u1).1, .row o (e30N u1 ao4 cap5) 30] gB lM := gD
     have lN := gA (bo.ownSmall 0 rfl)
     refine s1 gC 18 (.slice dh (fcloneS u0).length ak) ?_; intro qS gE
     apply gy
     refine sqH ?_; intro lO gF
     refine bt gE bo 3 [5] [] [(178, .slice dh (fcloneS u0).length ak), (179, i6 a), (180, .agg (e30N u1 ao4 cap5).toArray)] ?_; intro qT gG
     obtain ⟨lP, lQ⟩ := lN
     refine ixo gG bo 0 (T := tyFrame) (xs := (fcloneS u0)) a lP (k := .i64) (e := 30) (bytes := 48) (nog rfl _) rfl (by kernel_rfl) rfl (by kernel_rfl) (by kernel_rfl) rfl (by kernel_rfl) ?_; intro az lR lS b2
     subst lS
     refine so b2 bo 0 (T := tyFrame) (xs := (fcloneS u0)) a.toNat u1 (u := .agg (e30N u1 ao4 cap5).toArray) (nog rfl _) rfl rfl (by kernel_rfl) rfl (by kernel_rfl) rfl (by kernel_rfl) (by first | omega | (simp only [List.length_set] at *; omega)) ⟨ao4, cap5, rfl, hs6⟩ ?_; intro di gH
     have gI : Fr 198 [] [⟨0, [], .slice ao1 u0.length cap2⟩, ⟨3, [], pt o 0⟩, ⟨6, [], .slice p (putS (ownS u0) u1).1.length q⟩, ⟨7, [], i6 (putS (ownS u0) u1).2⟩, ⟨8, [], .slice f (renewS (ownS u0) u1).1.length h⟩, ⟨9, [], i6 (renewS (ownS u0) u1).2⟩, ⟨16, [], i6 a⟩, ⟨17, [], pt aL 0⟩, ⟨18, [], .slice (sm az) ((fcloneS u0).set a.toNat u1).length ak⟩, ⟨164, [], .slice ao1 u0.length cap2⟩, ⟨165, [], i6 (u0.length : Int)⟩, ⟨166, [], i6 a⟩, ⟨171, [], .agg (e30N i R S).toArray⟩, ⟨172, [], str (fnameS i)⟩, ⟨173, [], .agg (e30N u1 ao4 cap5).toArray⟩, ⟨174, [], str (fnameS u1)⟩, ⟨175, [], .bool ((fnameS i) == (fnameS u1))⟩, ⟨176, [], .slice ao1 u0.length cap2⟩, ⟨177, [], .slice (sm az) ((fcloneS u0).set a.toNat u1).length ak⟩, ⟨178, [], .slice (sm az) ((fcloneS u0).set a.toNat u1).length ak⟩, ⟨179, [], i6 a⟩, ⟨180, [], .agg (e30N u1 ao4 cap5).toArray⟩, ⟨181, [], .pointer (some ⟨az, a.toNat * 6, none⟩)⟩] lR := by (try simp only [List.length_set] at b2); (try simp only [List.length_set]); exact b2.reg
     have lT : Mem w.heap.size [] w Z [.own tyFrame 30 (sm az) ak ((fcloneS u0).set a.toNat u1), .row aL (e30N i R S) 30, .row D (e30N ((takeS (ownS u0)).1) x y) 30, .own tyFrame 30 f h (renewS (ownS u0) u1).1, .own tyFrame 30 p q (putS (ownS u0) u1).1, .row o (e30N u1 ao4 cap5) 30] gB di := gH
     apply gF
     refine sqH ?_; intro lU gJ
     refine s1 gI 182 (i6 (renewS (ownS u0) u1).2) ?_; intro qU gK
     refine s1 gK 183 (.bool ((renewS (ownS u0) u1).2 == 0)) ?_; intro qV gL
     refine s1 gL 184 (.bool ((renewS (ownS u0) u1).2 == 0)) ?_; intro qW gM
     have gN := gM.atom (((renewS (ownS u0) u1).2 == 0) == true) (by kernel_rfl)
     refine gp gN 185 0 [] ((renewS (ownS u0) u1).2 == 0) (.slice f (renewS (ownS u0) u1).1.length h) rfl rfl ?_; intro qX gO
     refine gp gO 186 0 [] ((renewS (ownS u0) u1).2 == 0) (.slice (sm az) ((fcloneS u0).set a.toNat u1).length ak) rfl rfl ?_; intro qY gP
     obtain ⟨lV, aA, gQ, dj⟩ := lT.freeze 3 rfl
     have lW : Mem w.heap.size [] w Z [.own tyFrame 30 (sm az) ak ((fcloneS u0).set a.toNat u1), .row aL (e30N i R S) 30, .row D (e30N ((takeS (ownS u0)).1) x y) 30, .own tyFrame 30 p q (putS (ownS u0) u1).1, .row o (e30N u1 ao4 cap5) 30] lV di := gQ
     obtain ⟨lX, au, gR, lY⟩ := lW.freeze 0 rfl
     replace dj := dj.mono au
     have dk : Mem w.heap.size [] w Z [.row aL (e30N i R S) 30, .row D (e30N ((takeS (ownS u0)).1) x y) 30, .own tyFrame 30 p q (putS (ownS u0) u1).1, .row o (e30N u1 ao4 cap5) 30] lX di := gR
     refine gcl gP dk (.bool (samesS (renewS (ownS u0) u1).1 ((fcloneS u0).set a.toNat u1))) 10 #[.slice f (renewS (ownS u0) u1).1.length h, .slice (sm az) ((fcloneS u0).set a.toNat u1).length ak] (m := 0) (cj := []) (bj := (renewS (ownS u0) u1).2 == 0) rfl rfl (by kernel_rfl) rfl (by kernel_rfl) (by kernel_rfl) (by kernel_rfl) (fun _ => by kernel_rfl) (fun hg => rSames_fun (renewS (ownS u0) u1).1 ((fcloneS u0).set a.toNat u1) f h (sm az) ak _ _ dj lY dk.fz) ?_; intro qZ q0 dl lZ
     refine u_ dl (.bool (((renewS (ownS u0) u1).2 == 0) && (samesS (renewS (ownS u0) u1).1 ((fcloneS u0).set a.toNat u1)))) (pk_and dl (g := []) (m := 0) (b := (renewS (ownS u0) u1).2 == 0) (v := (samesS (renewS (ownS u0) u1).1 ((fcloneS u0).set a.toNat u1))) rfl (by kernel_rfl) (by kernel_rfl) (by kernel_rfl) rfl) ?_; intro q2 gS
     refine s1 gS 4 (.bool (((renewS (ownS u0) u1).2 == 0) && (samesS (renewS (ownS u0) u1).1 ((fcloneS u0).set a.toNat u1)))) ?_; intro q3 l0
     apply gJ
     exact r_ (i_ (h_ (h_ (i_ (h_ (ra1 l0 (.bool (((renewS (ownS u0) u1).2 == 0) && (samesS (renewS (ownS u0) u1).1 ((fcloneS u0).set a.toNat u1)))) ⟨((renewS (ownS u0) u1).2 == 0) && (samesS (renewS (ownS u0) u1).1 ((fcloneS u0).set a.toNat u1)), rfl, lQ, lZ.below⟩))))))
    refine l_ (j_ (t_ (rgB bm bn [] [] [(166, i6 (w64 (a + 1)))] ?_))); intro q4 l1
    exact d_ ⟨w64 (a + 1), gT.1, gT.2, (l1.reg).anyβ _ (by kernel_rfl), bn.kp⟩
   refine x_ (y_ (y_ (z_ (t_ (sqH ?_))))); intro l4 gU
   refine s1 bl 190 (i6 (renewS (ownS u0) u1).2) ?_; intro q5 gV
   refine s1 gV 191 (i6 (putS (ownS u0) u1).2) ?_; intro q6 gW
   refine s1 gW 192 (.bool ((renewS (ownS u0) u1).2 == (putS (ownS u0) u1).2)) ?_; intro q7 gX
   refine s1 gX 193 (.bool ((renewS (ownS u0) u1).2 == (putS (ownS u0) u1).2)) ?_; intro q8 gY
   have gZ := gY.atom (((renewS (ownS u0) u1).2 == (putS (ownS u0) u1).2) == true) (by kernel_rfl)
   refine gp gZ 194 0 [] ((renewS (ownS u0) u1).2 == (putS (ownS u0) u1).2) (.slice f (renewS (ownS u0) u1).1.length h) rfl rfl ?_; intro q9 g0
   refine gp g0 195 0 [] ((renewS (ownS u0) u1).2 == (putS (ownS u0) u1).2) (.slice p (putS (ownS u0) u1).1.length q) rfl rfl ?_; intro ra g1
   obtain ⟨l5, aV, g2, dm⟩ := gi.freeze 1 rfl
   have l6 : Mem w.heap.size [] w Z [.row D (e30N ((takeS (ownS u0)).1) x y) 30, .own tyFrame 30 p q (putS (ownS u0) u1).1, .row o (e30N u1 ao4 cap5) 30] l5 da := g2
   obtain ⟨l7, aM, g3, l8⟩ := l6.freeze 1 rfl
   replace dm := dm.mono aM
   have dn : Mem w.heap.size [] w Z [.row D (e30N ((takeS (ownS u0)).1) x y) 30, .row o (e30N u1 ao4 cap5) 30] l7 da := g3
   refine gcl g1 dn (.bool (samesS (renewS (ownS u0) u1).1 (putS (ownS u0) u1).1)) 10 #[.slice f (renewS (ownS u0) u1).1.length h, .slice p (putS (ownS u0) u1).1.length q] (m := 0) (cj := []) (bj := (renewS (ownS u0) u1).2 == (putS (ownS u0) u1).2) rfl rfl (by kernel_rfl) rfl (by kernel_rfl) (by kernel_rfl) (by kernel_rfl) (fun _ => by kernel_rfl) (fun hg => rSames_fun (renewS (ownS u0) u1).1 (putS (ownS u0) u1).1 f h p q _ _ dm l8 dn.fz) ?_; intro rb rc dp l9
   refine u_ dp (.bool (((renewS (ownS u0) u1).2 == (putS (ownS u0) u1).2) && (samesS (renewS (ownS u0) u1).1 (putS (ownS u0) u1).1))) (pk_and dp (g := []) (m := 0) (b := (renewS (ownS u0) u1).2 == (putS (ownS u0) u1).2) (v := (samesS (renewS (ownS u0) u1).1 (putS (ownS u0) u1).1)) rfl (by kernel_rfl) (by kernel_rfl) (by kernel_rfl) rfl) ?_; intro re g4
   refine s1 g4 4 (.bool (((renewS (ownS u0) u1).2 == (putS (ownS u0) u1).2) && (samesS (renewS (ownS u0) u1).1 (putS (ownS u0) u1).1))) ?_; intro rf ma
   apply gU
   exact r_ (ra1 ma (.bool (((renewS (ownS u0) u1).2 == (putS (ownS u0) u1).2) && (samesS (renewS (ownS u0) u1).1 (putS (ownS u0) u1).1))) ⟨((renewS (ownS u0) u1).2 == (putS (ownS u0) u1).2) && (samesS (renewS (ownS u0) u1).1 (putS (ownS u0) u1).1), rfl, l3, l9.below⟩)
  refine sqH ?_; intro g5 b4
  refine bt bh I 3 [] [] [(156, .bool ((putS (ownS u0) u1).2 != 0))] ?_; intro rg b5
  refine e_ b3 (fun bp mb => ?_) fun bp md => ?_
  ·
   have g6 := b5.reval (d := 156) (c := []) (v := .bool ((putS (ownS u0) u1).2 != 0)) (by kernel_rfl) (.bool true) (by rw [bp])
   refine bt g6 I 7 [] [157, 158, 159, 160, 161, 162, 163] [(163, .bool true)] ?_; intro rh dq
   apply b4
   refine cdT dq (by kernel_rfl) ?_
   refine sqB dq I [] [] [(4, .bool false)] ?_; intro ri mc
   exact r_ (h_ (ra1 mc (.bool false) ⟨false, rfl, mb, I.below⟩))
  have g7 := b5.reval (d := 156) (c := []) (v := .bool ((putS (ownS u0) u1).2 != 0)) (by kernel_rfl) (.bool false) (by rw [bp])
  refine bt g7 I 3 [3] [157, 158, 159] [(157, .slice p (putS (ownS u0) u1).1.length q), (158, .slice ao1 u0.length cap2), (159, .agg (e30N u1 ao4 cap5).toArray)] ?_; intro rj dr
  obtain ⟨me, g8⟩ := md
  refine cl dr 9 #[.slice ao1 u0.length cap2, .agg (e30N u1 ao4 cap5).toArray] (wK dr false) rfl (by kernel_rfl) (by kernel_rfl) ?_
  refine (rputf_fun u0 u1 me ao1 cap2 ao4 cap5 _ _ hs3 hs6 hg3 I.fz).mono ?_; rintro _ ds ⟨b6, b7, mf, rfl, hm⟩; refine ⟨_, rfl, ?_⟩; intro rk dt; have g9 := I.callZ hm; have aW := hm.ext.le
  replace hs3 := hs3.mono aW
  replace hs6 := hs6.mono aW
  replace hg3 := hg3.mono aW
  have ha : Mem w.heap.size [] w Z [.own tyFrame 30 b6 b7 (rputS u0 u1), .row D (e30N ((takeS (ownS u0)).1) x y) 30, .own tyFrame 30 f h (renewS (ownS u0) u1).1, .own tyFrame 30 p q (putS (ownS u0) u1).1, .row o (e30N u1 ao4 cap5) 30] mf ds := g9
  have b8 := g8 (ha.ownSmall 0 rfl)
  obtain ⟨mg, aX, hb, ae⟩ := ha.freeze 3 rfl
  replace hs3 := hs3.mono aX
  replace hs6 := hs6.mono aX
  replace hg3 := hg3.mono aX
  have mh : Mem w.heap.size [] w Z [.own tyFrame 30 b6 b7 (rputS u0 u1), .row D (e30N ((takeS (ownS u0)).1) x y) 30, .own tyFrame 30 f h (renewS (ownS u0) u1).1, .row o (e30N u1 ao4 cap5) 30] mg ds := hb
  obtain ⟨b9, aN, hc, aB⟩ := mh.freeze 0 rfl
  replace hs3 := hs3.mono aN
  replace hs6 := hs6.mono aN
  replace hg3 := hg3.mono aN
  replace ae := ae.mono aN
  have du : Mem w.heap.size [] w Z [.row D (e30N ((takeS (ownS u0)).1) x y) 30, .own tyFrame 30 f h (renewS (ownS u0) u1).1, .row o (e30N u1 ao4 cap5) 30] b9 ds := hc
  refine fcl dt du (.bool (samesS (putS (ownS u0) u1).1 (rputS u0 u1))) 10 #[.slice p (putS (ownS u0) u1).1.length q, .slice b6 (rputS u0 u1).length b7] (wK dt false) rfl (by kernel_rfl) (fun _ => by kernel_rfl) (rSames_fun (putS (ownS u0) u1).1 (rputS u0 u1) p q b6 b7 _ _ ae aB du.fz) ?_; intro rl rm hd a4
  refine bt hd a4 2 [] [162, 163] [(163, .bool (!(samesS (putS (ownS u0) u1).1 (rputS u0 u1))))] ?_; intro rn bq
  apply b4
  refine c_ bq b8 (fun _ mi => ?_) fun _ mk => ?_
  ·
   refine sqB bq a4 [] [] [(4, .bool false)] ?_; intro ro mj
   exact r_ (h_ (ra1 mj (.bool false) ⟨false, rfl, mi, a4.below⟩))
  refine k_ (s_ (sqB bq a4 [] [] [(164, .slice ao1 u0.length cap2), (165, i6 (u0.length : Int)), (166, i6 0)] ?_)); intro he hf
  apply b_
  have hh : Fr 198 [] [⟨0, [], .slice ao1 u0.length cap2⟩, ⟨3, [], pt o 0⟩, ⟨6, [], .slice p (putS (ownS u0) u1).1.length q⟩, ⟨7, [], i6 (putS (ownS u0) u1).2⟩, ⟨8, [], .slice f (renewS (ownS u0) u1).1.length h⟩, ⟨9, [], i6 (renewS (ownS u0) u1).2⟩, ⟨164, [], .slice ao1 u0.length cap2⟩, ⟨165, [], i6 (u0.length : Int)⟩, ⟨166, [], i6 0⟩] he := hf.reg
  obtain ⟨ml, mm, mn, mo⟩ := mk
  refine lp (ι := Int) (fun s => [⟨0, [], .slice ao1 u0.length cap2⟩, ⟨3, [], pt o 0⟩, ⟨6, [], .slice p (putS (ownS u0) u1).1.length q⟩, ⟨7, [], i6 (putS (ownS u0) u1).2⟩, ⟨8, [], .slice f (renewS (ownS u0) u1).1.length h⟩, ⟨9, [], i6 (renewS (ownS u0) u1).2⟩, ⟨164, [], .slice ao1 u0.length cap2⟩, ⟨165, [], i6 (u0.length : Int)⟩, ⟨166, [], i6 s⟩]) (fun s => [.row D (e30N ((takeS (ownS u0)).1) x y) 30, .own tyFrame 30 f h (renewS (ownS u0) u1).1, .row o (e30N u1 ao4 cap5) 30]) (fun s => b9) (fun s => ml s) (fun s => mm s) 0 mn (by exact hh.reg) (by exact a4) ?_
  rintro a mp mq hj hk hl
  have ca := mo a mp
  refine sqB hk hl [] [] [(167, .bool (decide (a < (u0.length : Int))))] ?_; intro rp bs
  refine s_ (c_ bs ca (fun _ mr => ?_) fun _ mW => ?_)
  ·
   refine k_ (s_ (b_ (sqH ?_))); intro ms ho
   refine s1 bs 168 (i6 a) ?_; intro rq hq
   obtain ⟨mt, hr⟩ := mr
   refine ix_ hq hs3 a mt .i64 30 48 ?_; intro rr rs rt j ru mu aY mv hs
   have ht := hr j mu
   obtain ⟨U, V, rfl, aO⟩ := mv
   have mw := ht (aO.small)
   refine z2 hs hl 170 aY 0 6 (e30N j U V) rfl ?_; intro rv hu
   refine nw hu hl pb [i6 0, .bool false, .bool false, .bool false, i6 0, .slice none 0 0] 30 ?_; intro aP rx ry hv hw
   refine s1 hv 16 (i6 a) ?_; intro mx dx
   refine sx dx hw 0 (e30N j U V) 0 ?_; intro my hx
   have hy : Mem w.heap.size [] w Z [.row aP (e30N j U V) 30, .row D (e30N ((takeS (ownS u0)).1) x y) 30, .own tyFrame 30 f h (renewS (ownS u0) u1).1, .row o (e30N u1 ao4 cap5) 30] b9 my := hx
   apply ho
   have dy : Fr 198 [] [⟨0, [], .slice ao1 u0.length cap2⟩, ⟨3, [], pt o 0⟩, ⟨6, [], .slice p (putS (ownS u0) u1).1.length q⟩, ⟨7, [], i6 (putS (ownS u0) u1).2⟩, ⟨8, [], .slice f (renewS (ownS u0) u1).1.length h⟩, ⟨9, [], i6 (renewS (ownS u0) u1).2⟩, ⟨16, [], i6 a⟩, ⟨17, [], pt aP 0⟩, ⟨164, [], .slice ao1 u0.length cap2⟩, ⟨165, [], i6 (u0.length : Int)⟩, ⟨166, [], i6 a⟩] mx := dx.reg
   refine sqQH mixed (by kernel_rfl) hy ?_; intro mz hz
   refine qu_ dy (.agg (e30N j U V).toArray) (fun v720 hC => lda dy hC 0 (g := []) (b := aP) (off := 0) (k := 6) (cs := (e30N j U V)) (vs := (e30N j U V)) (ty := 30) rfl (by kernel_rfl) (by kernel_rfl) (by kernel_rfl) (by kernel_rfl) (by kernel_rfl) rfl) ?_; intro rz hA
   obtain ⟨mA, mB⟩ := mw
   refine qcl hA (str (fnameS j)) 19 #[.agg (e30N j U V).toArray] (nog rfl _) rfl (by kernel_rfl) (fun _ => by kernel_rfl) (qfc fun w hC => rname_fun j mA U V _ _ aO hg3 hC.fz) ?_; intro rA dz
   refine qu_ dz (.agg (e30N u1 ao4 cap5).toArray) (fun v728 hC => lda dz hC 3 (g := []) (b := o) (off := 0) (k := 6) (cs := (e30N u1 ao4 cap5)) (vs := (e30N u1 ao4 cap5)) (ty := 30) rfl (by kernel_rfl) (by kernel_rfl) (by kernel_rfl) (by kernel_rfl) (by kernel_rfl) rfl) ?_; intro rB hB
   obtain ⟨mC, cb⟩ := mB
   refine qcl hB (str (fnameS u1)) 19 #[.agg (e30N u1 ao4 cap5).toArray] (nog rfl _) rfl (by kernel_rfl) (fun _ => by kernel_rfl) (qfc fun w hC => rname_fun u1 mC ao4 cap5 _ _ hs6 hg3 hC.fz) ?_; intro rC dA
   refine qu_ dA (.bool ((fnameS j) == (fnameS u1))) (fun v736 hC => strcmp_run dA (g := []) (op := .eql) rfl (by kernel_rfl) (by kernel_rfl) (by decide) rfl) ?_; intro rD bu
   refine qnl (hz _ ?_); intro rE bv
   refine c_ bu cb (fun _ mD => ?_) fun _ hY => ?_
   ·
    refine sqH ?_; intro mE hD
    refine s1 bu 176 (.slice ao1 u0.length cap2) ?_; intro rF hE
    obtain ⟨mF, hF⟩ := mD
    refine ck hE 20 #[.slice ao1 u0.length cap2] ?_
    refine (fclone_fun u0 mF ao1 cap2 _ _ hs3 bv.fz).mono ?_; rintro _ mG ⟨dC, al, hG, rfl, hm⟩; refine ⟨_, rfl, ?_⟩; intro rG hH; have hI := bv.callZ hm; have am := hm.ext.le
    replace hs6 := hs6.mono am
    have bw : Mem w.heap.size [] w Z [.own tyFrame 30 dC al (fcloneS u0), .row aP (e30N j U V) 30, .row D (e30N ((takeS (ownS u0)).1) x y) 30, .own tyFrame 30 f h (renewS (ownS u0) u1).1, .row o (e30N u1 ao4 cap5) 30] hG mG := hI
    have mH := hF (bw.ownSmall 0 rfl)
    refine s1 hH 18 (.slice dC (fcloneS u0).length al) ?_; intro rH hJ
    apply hD
    refine sqH ?_; intro mI hK
    refine bt hJ bw 3 [4] [] [(178, .slice dC (fcloneS u0).length al), (179, i6 a), (180, .agg (e30N u1 ao4 cap5).toArray)] ?_; intro rI hL
    obtain ⟨mJ, mK⟩ := mH
    refine ixo hL bw 0 (T := tyFrame) (xs := (fcloneS u0)) a mJ (k := .i64) (e := 30) (bytes := 48) (nog rfl _) rfl (by kernel_rfl) rfl (by kernel_rfl) (by kernel_rfl) rfl (by kernel_rfl) ?_; intro aC mL mM cc
    subst mM
    refine so cc bw 0 (T := tyFrame) (xs := (fcloneS u0)) a.toNat u1 (u := .agg (e30N u1 ao4 cap5).toArray) (nog rfl _) rfl rfl (by kernel_rfl) rfl (by kernel_rfl) rfl (by kernel_rfl) (by first | omega | (simp only [List.length_set] at *; omega)) ⟨ao4, cap5, rfl, hs6⟩ ?_; intro dD hM
    have hN : Fr 198 [] [⟨0, [], .slice ao1 u0.length cap2⟩, ⟨3, [], pt o 0⟩, ⟨6, [], .slice p (putS (ownS u0) u1).1.length q⟩, ⟨7, [], i6 (putS (ownS u0) u1).2⟩, ⟨8, [], .slice f (renewS (ownS u0) u1).1.length h⟩, ⟨9, [], i6 (renewS (ownS u0) u1).2⟩, ⟨16, [], i6 a⟩, ⟨17, [], pt aP 0⟩, ⟨18, [], .slice (sm aC) ((fcloneS u0).set a.toNat u1).length al⟩, ⟨164, [], .slice ao1 u0.length cap2⟩, ⟨165, [], i6 (u0.length : Int)⟩, ⟨166, [], i6 a⟩, ⟨171, [], .agg (e30N j U V).toArray⟩, ⟨172, [], str (fnameS j)⟩, ⟨173, [], .agg (e30N u1 ao4 cap5).toArray⟩, ⟨174, [], str (fnameS u1)⟩, ⟨175, [], .bool ((fnameS j) == (fnameS u1))⟩, ⟨176, [], .slice ao1 u0.length cap2⟩, ⟨177, [], .slice (sm aC) ((fcloneS u0).set a.toNat u1).length al⟩, ⟨178, [], .slice (sm aC) ((fcloneS u0).set a.toNat u1).length al⟩, ⟨179, [], i6 a⟩, ⟨180, [], .agg (e30N u1 ao4 cap5).toArray⟩, ⟨181, [], .pointer (some ⟨aC, a.toNat * 6, none⟩)⟩] mL := by (try simp only [List.length_set] at cc); (try simp only [List.length_set]); exact cc.reg
    have mN : Mem w.heap.size [] w Z [.own tyFrame 30 (sm aC) al ((fcloneS u0).set a.toNat u1), .row aP (e30N j U V) 30, .row D (e30N ((takeS (ownS u0)).1) x y) 30, .own tyFrame 30 f h (renewS (ownS u0) u1).1, .row o (e30N u1 ao4 cap5) 30] hG dD := hM
    apply hK
    refine sqH ?_; intro mO hO
    refine s1 hN 182 (i6 (renewS (ownS u0) u1).2) ?_; intro rJ hP
    refine s1 hP 183 (.bool ((renewS (ownS u0) u1).2 == 0)) ?_; intro rK hQ
    refine s1 hQ 184 (.bool ((renewS (ownS u0) u1).2 == 0)) ?_; intro rL hR
    have hS := hR.atom (((renewS (ownS u0) u1).2 == 0) == true) (by kernel_rfl)
    refine gp hS 185 0 [] ((renewS (ownS u0) u1).2 == 0) (.slice f (renewS (ownS u0) u1).1.length h) rfl rfl ?_; intro rM hT
    refine gp hT 186 0 [] ((renewS (ownS u0) u1).2 == 0) (.slice (sm aC) ((fcloneS u0).set a.toNat u1).length al) rfl rfl ?_; intro rN hU
    obtain ⟨mP, an, hV, dE⟩ := mN.freeze 3 rfl
    have mQ : Mem w.heap.size [] w Z [.own tyFrame 30 (sm aC) al ((fcloneS u0).set a.toNat u1), .row aP (e30N j U V) 30, .row D (e30N ((takeS (ownS u0)).1) x y) 30, .row o (e30N u1 ao4 cap5) 30] mP dD := hV
    obtain ⟨mR, af, hW, mS⟩ := mQ.freeze 0 rfl
    replace dE := dE.mono af
    have dF : Mem w.heap.size [] w Z [.row aP (e30N j U V) 30, .row D (e30N ((takeS (ownS u0)).1) x y) 30, .row o (e30N u1 ao4 cap5) 30] mR dD := hW
    refine gcl hU dF (.bool (samesS (renewS (ownS u0) u1).1 ((fcloneS u0).set a.toNat u1))) 10 #[.slice f (renewS (ownS u0) u1).1.length h, .slice (sm aC) ((fcloneS u0).set a.toNat u1).length al] (m := 0) (cj := []) (bj := (renewS (ownS u0) u1).2 == 0) rfl rfl (by kernel_rfl) rfl (by kernel_rfl) (by kernel_rfl) (by kernel_rfl) (fun _ => by kernel_rfl) (fun hg => rSames_fun (renewS (ownS u0) u1).1 ((fcloneS u0).set a.toNat u1) f h (sm aC) al _ _ dE mS dF.fz) ?_; intro rO rP dG mT
    refine u_ dG (.bool (((renewS (ownS u0) u1).2 == 0) && (samesS (renewS (ownS u0) u1).1 ((fcloneS u0).set a.toNat u1)))) (pk_and dG (g := []) (m := 0) (b := (renewS (ownS u0) u1).2 == 0) (v := (samesS (renewS (ownS u0) u1).1 ((fcloneS u0).set a.toNat u1))) rfl (by kernel_rfl) (by kernel_rfl) (by kernel_rfl) rfl) ?_; intro rQ hX
    refine s1 hX 4 (.bool (((renewS (ownS u0) u1).2 == 0) && (samesS (renewS (ownS u0) u1).1 ((fcloneS u0).set a.toNat u1)))) ?_; intro rR mU
    apply hO
    exact r_ (i_ (h_ (h_ (i_ (h_ (ra1 mU (.bool (((renewS (ownS u0) u1).2 == 0) && (samesS (renewS (ownS u0) u1).1 ((fcloneS u0).set a.toNat u1)))) ⟨((renewS (ownS u0) u1).2 == 0) && (samesS (renewS (ownS u0) u1).1 ((fcloneS u0).set a.toNat u1)), rfl, mK, mT.below⟩))))))
   refine l_ (j_ (t_ (rgB bu bv [] [] [(166, i6 (w64 (a + 1)))] ?_))); intro rS mV
   exact d_ ⟨w64 (a + 1), hY.1, hY.2, (mV.reg).anyβ _ (by kernel_rfl), bv.kp⟩
  refine x_ (y_ (y_ (z_ (t_ (sqH ?_))))); intro mX h0
  refine s1 bs 190 (i6 (renewS (ownS u0) u1).2) ?_; intro rT h1
  refine s1 h1 191 (i6 (putS (ownS u0) u1).2) ?_; intro rU h2
  refine s1 h2 192 (.bool ((renewS (ownS u0) u1).2 == (putS (ownS u0) u1).2)) ?_; intro rV h3
  refine s1 h3 193 (.bool ((renewS (ownS u0) u1).2 == (putS (ownS u0) u1).2)) ?_; intro rW h4
  have h5 := h4.atom (((renewS (ownS u0) u1).2 == (putS (ownS u0) u1).2) == true) (by kernel_rfl)
  refine gp h5 194 0 [] ((renewS (ownS u0) u1).2 == (putS (ownS u0) u1).2) (.slice f (renewS (ownS u0) u1).1.length h) rfl rfl ?_; intro rX h6
  refine gp h6 195 0 [] ((renewS (ownS u0) u1).2 == (putS (ownS u0) u1).2) (.slice p (putS (ownS u0) u1).1.length q) rfl rfl ?_; intro rY h7
  obtain ⟨mY, aD, h8, mZ⟩ := hl.freeze 1 rfl
  replace ae := ae.mono aD
  have dH : Mem w.heap.size [] w Z [.row D (e30N ((takeS (ownS u0)).1) x y) 30, .row o (e30N u1 ao4 cap5) 30] mY hj := h8
  refine gcl h7 dH (.bool (samesS (renewS (ownS u0) u1).1 (putS (ownS u0) u1).1)) 10 #[.slice f (renewS (ownS u0) u1).1.length h, .slice p (putS (ownS u0) u1).1.length q] (m := 0) (cj := []) (bj := (renewS (ownS u0) u1).2 == (putS (ownS u0) u1).2) rfl rfl (by kernel_rfl) rfl (by kernel_rfl) (by kernel_rfl) (by kernel_rfl) (fun _ => by kernel_rfl) (fun hg => rSames_fun (renewS (ownS u0) u1).1 (putS (ownS u0) u1).1 f h p q _ _ mZ ae dH.fz) ?_; intro rZ r0 dI m0
  refine u_ dI (.bool (((renewS (ownS u0) u1).2 == (putS (ownS u0) u1).2) && (samesS (renewS (ownS u0) u1).1 (putS (ownS u0) u1).1))) (pk_and dI (g := []) (m := 0) (b := (renewS (ownS u0) u1).2 == (putS (ownS u0) u1).2) (v := (samesS (renewS (ownS u0) u1).1 (putS (ownS u0) u1).1)) rfl (by kernel_rfl) (by kernel_rfl) (by kernel_rfl) rfl) ?_; intro r1 h9
  refine s1 h9 4 (.bool (((renewS (ownS u0) u1).2 == (putS (ownS u0) u1).2) && (samesS (renewS (ownS u0) u1).1 (putS (ownS u0) u1).1))) ?_; intro r2 m1
  apply h0
  exact r_ (ra1 m1 (.bool (((renewS (ownS u0) u1).2 == (putS (ownS u0) u1).2) && (samesS (renewS (ownS u0) u1).1 (putS (ownS u0) u1).1))) ⟨((renewS (ownS u0) u1).2 == (putS (ownS u0) u1).2) && (samesS (renewS (ownS u0) u1).1 (putS (ownS u0) u1).1), rfl, mW, m0.below⟩)
 have ia : Fr 198 [] [⟨0, [], .slice ao1 u0.length cap2⟩, ⟨3, [], pt o 0⟩, ⟨6, [], .slice p (putS (ownS u0) u1).1.length q⟩, ⟨7, [], i6 (putS (ownS u0) u1).2⟩, ⟨8, [], .slice f (renewS (ownS u0) u1).1.length h⟩, ⟨9, [], i6 (renewS (ownS u0) u1).2⟩, ⟨10, [], pt D 0⟩, ⟨11, [], .slice ac (takeS (ownS u0)).2.1.length ad⟩, ⟨12, [], i6 (takeS (ownS u0)).2.2⟩] lg := be.reg
 refine sqQH mixed (by kernel_rfl) L ?_; intro dJ a5
 refine q1 ia 104 (i6 (takeS (ownS u0)).2.2) ?_; intro r3 ib
 refine q1 ib 105 (.bool ((takeS (ownS u0)).2.2 != 0)) ?_; intro r4 ic
 refine q1 ic 106 (.bool ((takeS (ownS u0)).2.2 != 0)) ?_; intro r5 id
 have dK := id.atom (((takeS (ownS u0)).2.2 != 0) == false) (by kernel_rfl)
 refine qgd dK (.agg (e30N ((takeS (ownS u0)).1) x y).toArray) (m := 0) (cj := []) (bj := (takeS (ownS u0)).2.2 != 0) rfl rfl (by kernel_rfl) rfl (by kernel_rfl) (by kernel_rfl) (by kernel_rfl) (fun hg => qat_ok (fun v854 hC => lda dK hC 0 (g := [0]) (b := D) (off := 0) (k := 6) (cs := (e30N ((takeS (ownS u0)).1) x y)) (vs := (e30N ((takeS (ownS u0)).1) x y)) (ty := 30) rfl (by kernel_rfl) (by kernel_rfl) (by kernel_rfl) (by kernel_rfl) (by kernel_rfl) hg)) ?_; intro r6 dL
 refine qgd dL (.slice ao1 u0.length cap2) (m := 0) (cj := []) (bj := (takeS (ownS u0)).2.2 != 0) rfl rfl (by kernel_rfl) rfl (by kernel_rfl) (by kernel_rfl) (by kernel_rfl) (fun hg => qat_ok (fun v857 hC => pu dL (g := [0]) (by kernel_rfl) hg)) ?_; intro r7 cf
 refine e_ ce (fun aE m2 => ?_) fun aE m5 => ?_
 ·
  have ie := cf.reval (d := 106) (c := []) (v := .bool ((takeS (ownS u0)).2.2 != 0)) (by kernel_rfl) (.bool true) (by rw [aE])
  have ig := ie.setc (d := 107) (c := [0]) (v := .agg (e30N ((takeS (ownS u0)).1) x y).toArray) (by kernel_rfl) (v' := undef) (by rw [aE]; kernel_rfl)
  have ih := ig.setc (d := 108) (c := [0]) (v := .slice ao1 u0.length cap2) (by kernel_rfl) (v' := undef) (by rw [aE]; kernel_rfl)
  refine qk_ ih true ?_; intro r8 ii
  refine qk_ ii true ?_; intro r9 ij
  refine qk_ ij true ?_; intro sa ik
  refine qk_ ik true ?_; intro sb il
  refine q1 il 113 (.bool true) ?_; intro sc im
  refine q1 im 114 (.bool true) ?_; intro sd io
  refine qk_ io true ?_; intro se ip
  refine qk_ ip true ?_; intro sf iq
  refine qk_ iq true ?_; intro sg ir
  refine qk_ ir true ?_; intro sh it
  refine qk_ it true ?_; intro si iu
  refine q1 iu 120 (.bool true) ?_; intro m3 dM
  refine qnl (a5 _ ?_); intro sj iv
  refine cdT dM (by kernel_rfl) ?_
  have iw : Fr 198 [] [] m3 := dM.reg
  refine sqB iw iv [] [] [(4, .bool false)] ?_; intro sk m4
  exact r_ (h_ (ra1 m4 (.bool false) ⟨false, rfl, m2, iv.below⟩))
 have iy := cf.reval (d := 106) (c := []) (v := .bool ((takeS (ownS u0)).2.2 != 0)) (by kernel_rfl) (.bool false) (by rw [aE])
 have iz := iy.setc (d := 107) (c := [0]) (v := .agg (e30N ((takeS (ownS u0)).1) x y).toArray) (by kernel_rfl) (v' := .agg (e30N ((takeS (ownS u0)).1) x y).toArray) (by rw [aE]; kernel_rfl)
 have dN := iz.setc (d := 108) (c := [0]) (v := .slice ao1 u0.length cap2) (by kernel_rfl) (v' := .slice ao1 u0.length cap2) (by rw [aE]; kernel_rfl)
 obtain ⟨m6, iA⟩ := m5
 refine qix dN (T := tyFrame) (xs := u0) hs3 (0 : Int) m6 (k := .i64) (e := 30) (bytes := 48) (wK dN false) rfl (by kernel_rfl) rfl (by kernel_rfl) (by kernel_rfl) (by kernel_rfl) ?_; intro sl sn sp E sq m7 G m8 cg
 have iB := iA E m7
 obtain ⟨ch, ci, rfl, F⟩ := m8
 have cm := iB (F.small)
 refine qst cg (.agg (e30N E ch ci).toArray) (wK cg false) rfl (by kernel_rfl) (fun v919 hC => lza cg hC.fz G 0 (g := []) (m := 6) (vs := (e30N E ch ci)) rfl (by kernel_rfl) (by kernel_rfl) (by kernel_rfl) (by kernel_rfl) rfl) ?_; intro sr dO
 refine qcl dO (.bool (sameS (takeS (ownS u0)).1 E)) 17 #[.agg (e30N ((takeS (ownS u0)).1) x y).toArray, .agg (e30N E ch ci).toArray] (wK dO false) rfl (by kernel_rfl) (fun _ => by kernel_rfl) (qfc fun w hC => rSame_fun (takeS (ownS u0)).1 E x y ch ci _ _ B F hC.fz) ?_; intro ss cn
 refine qg_ cn false (.bool (!(sameS (takeS (ownS u0)).1 E))) ?_; intro su iC
 refine q1 iC 113 (.bool (!(sameS (takeS (ownS u0)).1 E))) ?_; intro sv iD
 refine q1 iD 114 (.bool (!(sameS (takeS (ownS u0)).1 E))) ?_; intro sw iE
 have dP := iE.atom ((!(sameS (takeS (ownS u0)).1 E)) == false) (by kernel_rfl)
 refine qgd dP (.slice ac (takeS (ownS u0)).2.1.length ad) (m := 1) (cj := []) (bj := !(sameS (takeS (ownS u0)).1 E)) rfl rfl (by kernel_rfl) rfl (by kernel_rfl) (by kernel_rfl) (by kernel_rfl) (fun hg => qat_ok (fun v935 hC => pu dP (g := [1]) (by kernel_rfl) hg)) ?_; intro sy dQ
 refine qgd dQ (.slice ao1 u0.length cap2) (m := 1) (cj := []) (bj := !(sameS (takeS (ownS u0)).1 E)) rfl rfl (by kernel_rfl) rfl (by kernel_rfl) (by kernel_rfl) (by kernel_rfl) (fun hg => qat_ok (fun v938 hC => pu dQ (g := [1]) (by kernel_rfl) hg)) ?_; intro sz co
 refine e_ cm (fun aF m9 => ?_) fun aF nc => ?_
 ·
  have iF := co.reval (d := 114) (c := []) (v := .bool (!(sameS (takeS (ownS u0)).1 E))) (by kernel_rfl) (.bool true) (by rw [aF])
  have iG := iF.setc (d := 115) (c := [1]) (v := .slice ac (takeS (ownS u0)).2.1.length ad) (by kernel_rfl) (v' := undef) (by rw [aF]; kernel_rfl)
  have iH := iG.setc (d := 116) (c := [1]) (v := .slice ao1 u0.length cap2) (by kernel_rfl) (v' := undef) (by rw [aF]; kernel_rfl)
  refine qk_ iH true ?_; intro sA iI
  refine qk_ iI true ?_; intro sB iJ
  refine qk_ iJ true ?_; intro sE iK
  refine q1 iK 120 (.bool true) ?_; intro na dR
  refine qnl (a5 _ ?_); intro sF iL
  refine cdT dR (by kernel_rfl) ?_
  have iM : Fr 198 [] [] na := dR.reg
  refine sqB iM iL [] [] [(4, .bool false)] ?_; intro sG nb
  exact r_ (h_ (ra1 nb (.bool false) ⟨false, rfl, m9, iL.below⟩))
 have iN := co.reval (d := 114) (c := []) (v := .bool (!(sameS (takeS (ownS u0)).1 E))) (by kernel_rfl) (.bool false) (by rw [aF])
 have iO := iN.setc (d := 115) (c := [1]) (v := .slice ac (takeS (ownS u0)).2.1.length ad) (by kernel_rfl) (v' := .slice ac (takeS (ownS u0)).2.1.length ad) (by rw [aF]; kernel_rfl)
 have dS := iO.setc (d := 116) (c := [1]) (v := .slice ao1 u0.length cap2) (by kernel_rfl) (v' := .slice ao1 u0.length cap2) (by rw [aF]; kernel_rfl)
 obtain ⟨nd, cp⟩ := nc
 refine qslL dS (T := tyFrame) (xs := u0) hs3 (1 : Int) nd (k := .i64) (e := 30) (bytes := 48) (wK dS false) rfl (by kernel_rfl) rfl (by kernel_rfl) (by kernel_rfl) (by kernel_rfl) ?_; intro iP iQ sH sI H dT
 refine qcl dT (.bool (samesS (takeS (ownS u0)).2.1 (u0.drop (1 : Int).toNat))) 10 #[.slice ac (takeS (ownS u0)).2.1.length ad, .slice iP (u0.drop (1 : Int).toNat).length iQ] (wK dT false) rfl (by kernel_rfl) (fun _ => by kernel_rfl) (qfc fun w hC => rSames_fun (takeS (ownS u0)).2.1 (u0.drop (1 : Int).toNat) ac ad iP iQ _ _ C H hC.fz) ?_; intro sJ cq
 refine qg_ cq false (.bool (!(samesS (takeS (ownS u0)).2.1 (u0.drop (1 : Int).toNat)))) ?_; intro sK iR
 refine q1 iR 120 (.bool (!(samesS (takeS (ownS u0)).2.1 (u0.drop (1 : Int).toNat)))) ?_; intro iS bx
 refine qnl (a5 _ ?_); intro sL a6
 refine c_ bx cp (fun _ ne => ?_) fun _ cr => ?_
 ·
  have iT : Fr 198 [] [] iS := bx.reg
  refine sqB iT a6 [] [] [(4, .bool false)] ?_; intro sM nf
  exact r_ (h_ (ra1 nf (.bool false) ⟨false, rfl, ne, a6.below⟩))
 refine k_ (s_ ?_)
 have iU : Fr 198 [] [⟨0, [], .slice ao1 u0.length cap2⟩, ⟨3, [], pt o 0⟩, ⟨6, [], .slice p (putS (ownS u0) u1).1.length q⟩, ⟨7, [], i6 (putS (ownS u0) u1).2⟩, ⟨8, [], .slice f (renewS (ownS u0) u1).1.length h⟩, ⟨9, [], i6 (renewS (ownS u0) u1).2⟩] iS := bx.reg
 refine sqH ?_; intro ng iV
 refine l2 iU a6 121 3 0 6 (e30N u1 ao4 cap5) rfl rfl ?_; intro sN iW
 refine fc iW a6 (rcheckfr_fun u1 ao4 cap5 _ _ hs6 a6.fz) ?_; intro sO sP iX J
 refine s1 iX 14 (i6 (fcheckfr u1)) ?_; intro sQ iY
 apply iV
 refine sqB iY J [] [] [(124, .bool ((fcheckfr u1) != 0))] ?_; intro sR bz
 refine c_ bz cr (fun _ nh => ?_) fun _ ct => ?_
 ·
  refine sqB bz J [] [] [(4, .bool (((((putS (ownS u0) u1).2 == (fcheckfr u1)) && ((renewS (ownS u0) u1).2 == (fcheckfr u1))) && (((putS (ownS u0) u1).1.length : Int) == 0)) && (((renewS (ownS u0) u1).1.length : Int) == 0)))] ?_; intro sS ni
  exact r_ (h_ (ra1 ni (.bool (((((putS (ownS u0) u1).2 == (fcheckfr u1)) && ((renewS (ownS u0) u1).2 == (fcheckfr u1))) && (((putS (ownS u0) u1).1.length : Int) == 0)) && (((renewS (ownS u0) u1).1.length : Int) == 0))) ⟨((((putS (ownS u0) u1).2 == (fcheckfr u1)) && ((renewS (ownS u0) u1).2 == (fcheckfr u1))) && (((putS (ownS u0) u1).1.length : Int) == 0)) && (((renewS (ownS u0) u1).1.length : Int) == 0), rfl, nh, J.below⟩))
 refine k_ (sqB bz J [] [] [(15, .bool ((u0.length : Int) == 16))] ?_); intro sT iZ
 refine s_ (sqB iZ J [] [] [(146, .bool ((u0.length : Int) == 16))] ?_); intro sU bA
 refine c_ bA ct (fun _ cu => ?_) fun _ cy => ?_
 ·
  refine sqB bA J [] [] [(153, .bool (((putS (ownS u0) u1).2 != 11) || (((putS (ownS u0) u1).1.length : Int) != 0)))] ?_; intro sV bB
  refine c_ bB cu (fun _ nj => ?_) fun _ nl => ?_
  ·
   refine sqB bB J [] [] [(4, .bool false)] ?_; intro sW nk
   exact r_ (h_ (ra1 nk (.bool false) ⟨false, rfl, nj, J.below⟩))
  refine k_ (s_ (sqB bB J [] [] [(164, .slice ao1 u0.length cap2), (165, i6 (u0.length : Int)), (166, i6 0)] ?_)); intro i0 i1
  apply b_
  have i2 : Fr 198 [] [⟨0, [], .slice ao1 u0.length cap2⟩, ⟨3, [], pt o 0⟩, ⟨6, [], .slice p (putS (ownS u0) u1).1.length q⟩, ⟨7, [], i6 (putS (ownS u0) u1).2⟩, ⟨8, [], .slice f (renewS (ownS u0) u1).1.length h⟩, ⟨9, [], i6 (renewS (ownS u0) u1).2⟩, ⟨164, [], .slice ao1 u0.length cap2⟩, ⟨165, [], i6 (u0.length : Int)⟩, ⟨166, [], i6 0⟩] i0 := i1.reg
  obtain ⟨nm, nn, no, np⟩ := nl
  refine lp (ι := Int) (fun s => [⟨0, [], .slice ao1 u0.length cap2⟩, ⟨3, [], pt o 0⟩, ⟨6, [], .slice p (putS (ownS u0) u1).1.length q⟩, ⟨7, [], i6 (putS (ownS u0) u1).2⟩, ⟨8, [], .slice f (renewS (ownS u0) u1).1.length h⟩, ⟨9, [], i6 (renewS (ownS u0) u1).2⟩, ⟨164, [], .slice ao1 u0.length cap2⟩, ⟨165, [], i6 (u0.length : Int)⟩, ⟨166, [], i6 s⟩]) (fun s => [.row D (e30N ((takeS (ownS u0)).1) x y) 30, .own tyFrame 30 f h (renewS (ownS u0) u1).1, .own tyFrame 30 p q (putS (ownS u0) u1).1, .row o (e30N u1 ao4 cap5) 30]) (fun s => aJ) (fun s => nm s) (fun s => nn s) 0 no (by exact i2.reg) (by exact J) ?_
  rintro a nq nr dY i4 i5
  have cv := np a nq
  refine sqB i4 i5 [] [] [(167, .bool (decide (a < (u0.length : Int))))] ?_; intro sX bD
  refine s_ (c_ bD cv (fun _ ns => ?_) fun _ nY => ?_)
  ·
   refine k_ (s_ (b_ (sqH ?_))); intro nt i8
   refine s1 bD 168 (i6 a) ?_; intro sY i9
   obtain ⟨nu, ja⟩ := ns
   refine ix_ i9 hs3 a nu .i64 30 48 ?_; intro sZ s0 s2 l s3 nv aZ nx jb
   have jc := ja l nv
   obtain ⟨W, X, rfl, aQ⟩ := nx
   have ny := jc (aQ.small)
   refine z2 jb i5 170 aZ 0 6 (e30N l W X) rfl ?_; intro s4 jd
   refine nw jd i5 pb [i6 0, .bool false, .bool false, .bool false, i6 0, .slice none 0 0] 30 ?_; intro aR s5 s6 je jf
   refine s1 je 16 (i6 a) ?_; intro nz d0
   refine sx d0 jf 0 (e30N l W X) 0 ?_; intro nA jg
   have jh : Mem w.heap.size [] w Z [.row aR (e30N l W X) 30, .row D (e30N ((takeS (ownS u0)).1) x y) 30, .own tyFrame 30 f h (renewS (ownS u0) u1).1, .own tyFrame 30 p q (putS (ownS u0) u1).1, .row o (e30N u1 ao4 cap5) 30] aJ nA := jg
   apply i8
   have d1 : Fr 198 [] [⟨0, [], .slice ao1 u0.length cap2⟩, ⟨3, [], pt o 0⟩, ⟨6, [], .slice p (putS (ownS u0) u1).1.length q⟩, ⟨7, [], i6 (putS (ownS u0) u1).2⟩, ⟨8, [], .slice f (renewS (ownS u0) u1).1.length h⟩, ⟨9, [], i6 (renewS (ownS u0) u1).2⟩, ⟨16, [], i6 a⟩, ⟨17, [], pt aR 0⟩, ⟨164, [], .slice ao1 u0.length cap2⟩, ⟨165, [], i6 (u0.length : Int)⟩, ⟨166, [], i6 a⟩] nz := d0.reg
   refine sqQH mixed (by kernel_rfl) jh ?_; intro nB ji
   refine qu_ d1 (.agg (e30N l W X).toArray) (fun v1147 hC => lda d1 hC 0 (g := []) (b := aR) (off := 0) (k := 6) (cs := (e30N l W X)) (vs := (e30N l W X)) (ty := 30) rfl (by kernel_rfl) (by kernel_rfl) (by kernel_rfl) (by kernel_rfl) (by kernel_rfl) rfl) ?_; intro s7 jj
   obtain ⟨nC, nD⟩ := ny
   refine qcl jj (str (fnameS l)) 19 #[.agg (e30N l W X).toArray] (nog rfl _) rfl (by kernel_rfl) (fun _ => by kernel_rfl) (qfc fun w hC => rname_fun l nC W X _ _ aQ hg3 hC.fz) ?_; intro s8 d2
   refine qu_ d2 (.agg (e30N u1 ao4 cap5).toArray) (fun v1155 hC => lda d2 hC 4 (g := []) (b := o) (off := 0) (k := 6) (cs := (e30N u1 ao4 cap5)) (vs := (e30N u1 ao4 cap5)) (ty := 30) rfl (by kernel_rfl) (by kernel_rfl) (by kernel_rfl) (by kernel_rfl) (by kernel_rfl) rfl) ?_; intro s9 jk
   obtain ⟨nE, cw⟩ := nD
   refine qcl jk (str (fnameS u1)) 19 #[.agg (e30N u1 ao4 cap5).toArray] (nog rfl _) rfl (by kernel_rfl) (fun _ => by kernel_rfl) (qfc fun w hC => rname_fun u1 nE ao4 cap5 _ _ hs6 hg3 hC.fz) ?_; intro ta d3
   refine qu_ d3 (.bool ((fnameS l) == (fnameS u1))) (fun v1163 hC => strcmp_run d3 (g := []) (op := .eql) rfl (by kernel_rfl) (by kernel_rfl) (by decide) rfl) ?_; intro tb bE
   refine qnl (ji _ ?_); intro tc bF
   refine c_ bE cw (fun _ nF => ?_) fun _ jG => ?_
   ·
    refine sqH ?_; intro nG jl
    refine s1 bE 176 (.slice ao1 u0.length cap2) ?_; intro td jm
    obtain ⟨nH, jn⟩ := nF
    refine ck jm 20 #[.slice ao1 u0.length cap2] ?_
    refine (fclone_fun u0 nH ao1 cap2 _ _ hs3 bF.fz).mono ?_; rintro _ nI ⟨d5, ao, jo, rfl, hm⟩; refine ⟨_, rfl, ?_⟩; intro te jp; have jq := bF.callZ hm; have ag := hm.ext.le
    replace hs6 := hs6.mono ag
    have bG : Mem w.heap.size [] w Z [.own tyFrame 30 d5 ao (fcloneS u0), .row aR (e30N l W X) 30, .row D (e30N ((takeS (ownS u0)).1) x y) 30, .own tyFrame 30 f h (renewS (ownS u0) u1).1, .own tyFrame 30 p q (putS (ownS u0) u1).1, .row o (e30N u1 ao4 cap5) 30] jo nI := jq
    have nJ := jn (bG.ownSmall 0 rfl)
    refine s1 jp 18 (.slice d5 (fcloneS u0).length ao) ?_; intro tf jr
    apply jl
    refine sqH ?_; intro nK js
    refine bt jr bG 3 [5] [] [(178, .slice d5 (fcloneS u0).length ao), (179, i6 a), (180, .agg (e30N u1 ao4 cap5).toArray)] ?_; intro tg jt
    obtain ⟨nL, nM⟩ := nJ
    refine ixo jt bG 0 (T := tyFrame) (xs := (fcloneS u0)) a nL (k := .i64) (e := 30) (bytes := 48) (nog rfl _) rfl (by kernel_rfl) rfl (by kernel_rfl) (by kernel_rfl) rfl (by kernel_rfl) ?_; intro aG nN nO cx
    subst nO
    refine so cx bG 0 (T := tyFrame) (xs := (fcloneS u0)) a.toNat u1 (u := .agg (e30N u1 ao4 cap5).toArray) (nog rfl _) rfl rfl (by kernel_rfl) rfl (by kernel_rfl) rfl (by kernel_rfl) (by first | omega | (simp only [List.length_set] at *; omega)) ⟨ao4, cap5, rfl, hs6⟩ ?_; intro d6 ju
    have jv : Fr 198 [] [⟨0, [], .slice ao1 u0.length cap2⟩, ⟨3, [], pt o 0⟩, ⟨6, [], .slice p (putS (ownS u0) u1).1.length q⟩, ⟨7, [], i6 (putS (ownS u0) u1).2⟩, ⟨8, [], .slice f (renewS (ownS u0) u1).1.length h⟩, ⟨9, [], i6 (renewS (ownS u0) u1).2⟩, ⟨16, [], i6 a⟩, ⟨17, [], pt aR 0⟩, ⟨18, [], .slice (sm aG) ((fcloneS u0).set a.toNat u1).length ao⟩, ⟨164, [], .slice ao1 u0.length cap2⟩, ⟨165, [], i6 (u0.length : Int)⟩, ⟨166, [], i6 a⟩, ⟨171, [], .agg (e30N l W X).toArray⟩, ⟨172, [], str (fnameS l)⟩, ⟨173, [], .agg (e30N u1 ao4 cap5).toArray⟩, ⟨174, [], str (fnameS u1)⟩, ⟨175, [], .bool ((fnameS l) == (fnameS u1))⟩, ⟨176, [], .slice ao1 u0.length cap2⟩, ⟨177, [], .slice (sm aG) ((fcloneS u0).set a.toNat u1).length ao⟩, ⟨178, [], .slice (sm aG) ((fcloneS u0).set a.toNat u1).length ao⟩, ⟨179, [], i6 a⟩, ⟨180, [], .agg (e30N u1 ao4 cap5).toArray⟩, ⟨181, [], .pointer (some ⟨aG, a.toNat * 6, none⟩)⟩] nN := by (try simp only [List.length_set] at cx); (try simp only [List.length_set]); exact cx.reg
    have nP : Mem w.heap.size [] w Z [.own tyFrame 30 (sm aG) ao ((fcloneS u0).set a.toNat u1), .row aR (e30N l W X) 30, .row D (e30N ((takeS (ownS u0)).1) x y) 30, .own tyFrame 30 f h (renewS (ownS u0) u1).1, .own tyFrame 30 p q (putS (ownS u0) u1).1, .row o (e30N u1 ao4 cap5) 30] jo d6 := ju
    apply js
    refine sqH ?_; intro nQ jw
    refine s1 jv 182 (i6 (renewS (ownS u0) u1).2) ?_; intro th jx
    refine s1 jx 183 (.bool ((renewS (ownS u0) u1).2 == 0)) ?_; intro ti jy
    refine s1 jy 184 (.bool ((renewS (ownS u0) u1).2 == 0)) ?_; intro tj jz
    have jA := jz.atom (((renewS (ownS u0) u1).2 == 0) == true) (by kernel_rfl)
    refine gp jA 185 0 [] ((renewS (ownS u0) u1).2 == 0) (.slice f (renewS (ownS u0) u1).1.length h) rfl rfl ?_; intro tk jB
    refine gp jB 186 0 [] ((renewS (ownS u0) u1).2 == 0) (.slice (sm aG) ((fcloneS u0).set a.toNat u1).length ao) rfl rfl ?_; intro tl jC
    obtain ⟨nR, ah, jD, d7⟩ := nP.freeze 3 rfl
    have nS : Mem w.heap.size [] w Z [.own tyFrame 30 (sm aG) ao ((fcloneS u0).set a.toNat u1), .row aR (e30N l W X) 30, .row D (e30N ((takeS (ownS u0)).1) x y) 30, .own tyFrame 30 p q (putS (ownS u0) u1).1, .row o (e30N u1 ao4 cap5) 30] nR d6 := jD
    obtain ⟨nT, Y, jE, nU⟩ := nS.freeze 0 rfl
    replace d7 := d7.mono Y
    have d8 : Mem w.heap.size [] w Z [.row aR (e30N l W X) 30, .row D (e30N ((takeS (ownS u0)).1) x y) 30, .own tyFrame 30 p q (putS (ownS u0) u1).1, .row o (e30N u1 ao4 cap5) 30] nT d6 := jE
    refine gcl jC d8 (.bool (samesS (renewS (ownS u0) u1).1 ((fcloneS u0).set a.toNat u1))) 10 #[.slice f (renewS (ownS u0) u1).1.length h, .slice (sm aG) ((fcloneS u0).set a.toNat u1).length ao] (m := 0) (cj := []) (bj := (renewS (ownS u0) u1).2 == 0) rfl rfl (by kernel_rfl) rfl (by kernel_rfl) (by kernel_rfl) (by kernel_rfl) (fun _ => by kernel_rfl) (fun hg => rSames_fun (renewS (ownS u0) u1).1 ((fcloneS u0).set a.toNat u1) f h (sm aG) ao _ _ d7 nU d8.fz) ?_; intro tm tn d9 nV
    refine u_ d9 (.bool (((renewS (ownS u0) u1).2 == 0) && (samesS (renewS (ownS u0) u1).1 ((fcloneS u0).set a.toNat u1)))) (pk_and d9 (g := []) (m := 0) (b := (renewS (ownS u0) u1).2 == 0) (v := (samesS (renewS (ownS u0) u1).1 ((fcloneS u0).set a.toNat u1))) rfl (by kernel_rfl) (by kernel_rfl) (by kernel_rfl) rfl) ?_; intro tp jF
    refine s1 jF 4 (.bool (((renewS (ownS u0) u1).2 == 0) && (samesS (renewS (ownS u0) u1).1 ((fcloneS u0).set a.toNat u1)))) ?_; intro tq nW
    apply jw
    exact r_ (i_ (h_ (h_ (i_ (h_ (ra1 nW (.bool (((renewS (ownS u0) u1).2 == 0) && (samesS (renewS (ownS u0) u1).1 ((fcloneS u0).set a.toNat u1)))) ⟨((renewS (ownS u0) u1).2 == 0) && (samesS (renewS (ownS u0) u1).1 ((fcloneS u0).set a.toNat u1)), rfl, nM, nV.below⟩))))))
   refine l_ (j_ (t_ (rgB bE bF [] [] [(166, i6 (w64 (a + 1)))] ?_))); intro tr nX
   exact d_ ⟨w64 (a + 1), jG.1, jG.2, (nX.reg).anyβ _ (by kernel_rfl), bF.kp⟩
  refine x_ (y_ (y_ (z_ (t_ (sqH ?_))))); intro nZ jH
  refine s1 bD 190 (i6 (renewS (ownS u0) u1).2) ?_; intro ts jI
  refine s1 jI 191 (i6 (putS (ownS u0) u1).2) ?_; intro tt jJ
  refine s1 jJ 192 (.bool ((renewS (ownS u0) u1).2 == (putS (ownS u0) u1).2)) ?_; intro tu jK
  refine s1 jK 193 (.bool ((renewS (ownS u0) u1).2 == (putS (ownS u0) u1).2)) ?_; intro tv jL
  have jM := jL.atom (((renewS (ownS u0) u1).2 == (putS (ownS u0) u1).2) == true) (by kernel_rfl)
  refine gp jM 194 0 [] ((renewS (ownS u0) u1).2 == (putS (ownS u0) u1).2) (.slice f (renewS (ownS u0) u1).1.length h) rfl rfl ?_; intro tw jN
  refine gp jN 195 0 [] ((renewS (ownS u0) u1).2 == (putS (ownS u0) u1).2) (.slice p (putS (ownS u0) u1).1.length q) rfl rfl ?_; intro tx jO
  obtain ⟨n0, av, jP, ea⟩ := i5.freeze 1 rfl
  have n1 : Mem w.heap.size [] w Z [.row D (e30N ((takeS (ownS u0)).1) x y) 30, .own tyFrame 30 p q (putS (ownS u0) u1).1, .row o (e30N u1 ao4 cap5) 30] n0 dY := jP
  obtain ⟨n2, ap, jQ, n3⟩ := n1.freeze 1 rfl
  replace ea := ea.mono ap
  have eb : Mem w.heap.size [] w Z [.row D (e30N ((takeS (ownS u0)).1) x y) 30, .row o (e30N u1 ao4 cap5) 30] n2 dY := jQ
  refine gcl jO eb (.bool (samesS (renewS (ownS u0) u1).1 (putS (ownS u0) u1).1)) 10 #[.slice f (renewS (ownS u0) u1).1.length h, .slice p (putS (ownS u0) u1).1.length q] (m := 0) (cj := []) (bj := (renewS (ownS u0) u1).2 == (putS (ownS u0) u1).2) rfl rfl (by kernel_rfl) rfl (by kernel_rfl) (by kernel_rfl) (by kernel_rfl) (fun _ => by kernel_rfl) (fun hg => rSames_fun (renewS (ownS u0) u1).1 (putS (ownS u0) u1).1 f h p q _ _ ea n3 eb.fz) ?_; intro tz tA ec n4
  refine u_ ec (.bool (((renewS (ownS u0) u1).2 == (putS (ownS u0) u1).2) && (samesS (renewS (ownS u0) u1).1 (putS (ownS u0) u1).1))) (pk_and ec (g := []) (m := 0) (b := (renewS (ownS u0) u1).2 == (putS (ownS u0) u1).2) (v := (samesS (renewS (ownS u0) u1).1 (putS (ownS u0) u1).1)) rfl (by kernel_rfl) (by kernel_rfl) (by kernel_rfl) rfl) ?_; intro tB jR
  refine s1 jR 4 (.bool (((renewS (ownS u0) u1).2 == (putS (ownS u0) u1).2) && (samesS (renewS (ownS u0) u1).1 (putS (ownS u0) u1).1))) ?_; intro tC n5
  apply jH
  exact r_ (ra1 n5 (.bool (((renewS (ownS u0) u1).2 == (putS (ownS u0) u1).2) && (samesS (renewS (ownS u0) u1).1 (putS (ownS u0) u1).1))) ⟨((renewS (ownS u0) u1).2 == (putS (ownS u0) u1).2) && (samesS (renewS (ownS u0) u1).1 (putS (ownS u0) u1).1), rfl, nY, n4.below⟩)
 refine sqH ?_; intro jS cz
 refine bt bA J 3 [] [] [(156, .bool ((putS (ownS u0) u1).2 != 0))] ?_; intro tD cA
 refine e_ cy (fun bH n6 => ?_) fun bH n8 => ?_
 ·
  have jT := cA.reval (d := 156) (c := []) (v := .bool ((putS (ownS u0) u1).2 != 0)) (by kernel_rfl) (.bool true) (by rw [bH])
  refine bt jT J 7 [] [157, 158, 159, 160, 161, 162, 163] [(163, .bool true)] ?_; intro tE ed
  apply cz
  refine cdT ed (by kernel_rfl) ?_
  refine sqB ed J [] [] [(4, .bool false)] ?_; intro tF n7
  exact r_ (h_ (ra1 n7 (.bool false) ⟨false, rfl, n6, J.below⟩))
 have jU := cA.reval (d := 156) (c := []) (v := .bool ((putS (ownS u0) u1).2 != 0)) (by kernel_rfl) (.bool false) (by rw [bH])
 refine bt jU J 3 [3] [157, 158, 159] [(157, .slice p (putS (ownS u0) u1).1.length q), (158, .slice ao1 u0.length cap2), (159, .agg (e30N u1 ao4 cap5).toArray)] ?_; intro tG ee
 obtain ⟨n9, jV⟩ := n8
 refine cl ee 9 #[.slice ao1 u0.length cap2, .agg (e30N u1 ao4 cap5).toArray] (wK ee false) rfl (by kernel_rfl) (by kernel_rfl) ?_
 refine (rputf_fun u0 u1 n9 ao1 cap2 ao4 cap5 _ _ hs3 hs6 hg3 J.fz).mono ?_; rintro _ ef ⟨cB, cC, oa, rfl, hm⟩; refine ⟨_, rfl, ?_⟩; intro tH eg; have jW := J.callZ hm; have aw := hm.ext.le
 replace hs3 := hs3.mono aw
 replace hs6 := hs6.mono aw
 replace hg3 := hg3.mono aw
 have jX : Mem w.heap.size [] w Z [.own tyFrame 30 cB cC (rputS u0 u1), .row D (e30N ((takeS (ownS u0)).1) x y) 30, .own tyFrame 30 f h (renewS (ownS u0) u1).1, .own tyFrame 30 p q (putS (ownS u0) u1).1, .row o (e30N u1 ao4 cap5) 30] oa ef := jW
 have cD := jV (jX.ownSmall 0 rfl)
 obtain ⟨ob, ax, jY, ai⟩ := jX.freeze 3 rfl
 replace hs3 := hs3.mono ax
 replace hs6 := hs6.mono ax
 replace hg3 := hg3.mono ax
 have oc : Mem w.heap.size [] w Z [.own tyFrame 30 cB cC (rputS u0 u1), .row D (e30N ((takeS (ownS u0)).1) x y) 30, .own tyFrame 30 f h (renewS (ownS u0) u1).1, .row o (e30N u1 ao4 cap5) 30] ob ef := jY
 obtain ⟨cE, aq, jZ, aH⟩ := oc.freeze 0 rfl
 replace hs3 := hs3.mono aq
 replace hs6 := hs6.mono aq
 replace hg3 := hg3.mono aq
 replace ai := ai.mono aq
 have eh : Mem w.heap.size [] w Z [.row D (e30N ((takeS (ownS u0)).1) x y) 30, .own tyFrame 30 f h (renewS (ownS u0) u1).1, .row o (e30N u1 ao4 cap5) 30] cE ef := jZ
 refine fcl eg eh (.bool (samesS (putS (ownS u0) u1).1 (rputS u0 u1))) 10 #[.slice p (putS (ownS u0) u1).1.length q, .slice cB (rputS u0 u1).length cC] (wK eg false) rfl (by kernel_rfl) (fun _ => by kernel_rfl) (rSames_fun (putS (ownS u0) u1).1 (rputS u0 u1) p q cB cC _ _ ai aH eh.fz) ?_; intro tI tJ j0 a7
 refine bt j0 a7 2 [] [162, 163] [(163, .bool (!(samesS (putS (ownS u0) u1).1 (rputS u0 u1))))] ?_; intro tK bI
 apply cz
 refine c_ bI cD (fun _ od => ?_) fun _ og => ?_
 ·
  refine sqB bI a7 [] [] [(4, .bool false)] ?_; intro tL oe
  exact r_ (h_ (ra1 oe (.bool false) ⟨false, rfl, od, a7.below⟩))
 refine k_ (s_ (sqB bI a7 [] [] [(164, .slice ao1 u0.length cap2), (165, i6 (u0.length : Int)), (166, i6 0)] ?_)); intro j1 j2
 apply b_
 have j3 : Fr 198 [] [⟨0, [], .slice ao1 u0.length cap2⟩, ⟨3, [], pt o 0⟩, ⟨6, [], .slice p (putS (ownS u0) u1).1.length q⟩, ⟨7, [], i6 (putS (ownS u0) u1).2⟩, ⟨8, [], .slice f (renewS (ownS u0) u1).1.length h⟩, ⟨9, [], i6 (renewS (ownS u0) u1).2⟩, ⟨164, [], .slice ao1 u0.length cap2⟩, ⟨165, [], i6 (u0.length : Int)⟩, ⟨166, [], i6 0⟩] j1 := j2.reg
 obtain ⟨oh, oi, oj, ok⟩ := og
 refine lp (ι := Int) (fun s => [⟨0, [], .slice ao1 u0.length cap2⟩, ⟨3, [], pt o 0⟩, ⟨6, [], .slice p (putS (ownS u0) u1).1.length q⟩, ⟨7, [], i6 (putS (ownS u0) u1).2⟩, ⟨8, [], .slice f (renewS (ownS u0) u1).1.length h⟩, ⟨9, [], i6 (renewS (ownS u0) u1).2⟩, ⟨164, [], .slice ao1 u0.length cap2⟩, ⟨165, [], i6 (u0.length : Int)⟩, ⟨166, [], i6 s⟩]) (fun s => [.row D (e30N ((takeS (ownS u0)).1) x y) 30, .own tyFrame 30 f h (renewS (ownS u0) u1).1, .row o (e30N u1 ao4 cap5) 30]) (fun s => cE) (fun s => oh s) (fun s => oi s) 0 oj (by exact j3.reg) (by exact a7) ?_
 rintro a ol om j5 j6 j7
 have cF := ok a ol
 refine sqB j6 j7 [] [] [(167, .bool (decide (a < (u0.length : Int))))] ?_; intro tM bK
 refine s_ (c_ bK cF (fun _ oo => ?_) fun _ oU => ?_)
 ·
  refine k_ (s_ (b_ (sqH ?_))); intro oq j9
  refine s1 bK 168 (i6 a) ?_; intro tN ka
  obtain ⟨or, kb⟩ := oo
  refine ix_ ka hs3 a or .i64 30 48 ?_; intro tO tP tQ n tR os a1 ot kc
  have kd := kb n os
  obtain ⟨aa, ab, rfl, aS⟩ := ot
  have ou := kd (aS.small)
  refine z2 kc j7 170 a1 0 6 (e30N n aa ab) rfl ?_; intro tS ke
  refine nw ke j7 pb [i6 0, .bool false, .bool false, .bool false, i6 0, .slice none 0 0] 30 ?_; intro aT tT tU kf kg
  refine s1 kf 16 (i6 a) ?_; intro ov ek
  refine sx ek kg 0 (e30N n aa ab) 0 ?_; intro ow kh
  have ki : Mem w.heap.size [] w Z [.row aT (e30N n aa ab) 30, .row D (e30N ((takeS (ownS u0)).1) x y) 30, .own tyFrame 30 f h (renewS (ownS u0) u1).1, .row o (e30N u1 ao4 cap5) 30] cE ow := kh
  apply j9
  have el : Fr 198 [] [⟨0, [], .slice ao1 u0.length cap2⟩, ⟨3, [], pt o 0⟩, ⟨6, [], .slice p (putS (ownS u0) u1).1.length q⟩, ⟨7, [], i6 (putS (ownS u0) u1).2⟩, ⟨8, [], .slice f (renewS (ownS u0) u1).1.length h⟩, ⟨9, [], i6 (renewS (ownS u0) u1).2⟩, ⟨16, [], i6 a⟩, ⟨17, [], pt aT 0⟩, ⟨164, [], .slice ao1 u0.length cap2⟩, ⟨165, [], i6 (u0.length : Int)⟩, ⟨166, [], i6 a⟩] ov := ek.reg
  refine sqQH mixed (by kernel_rfl) ki ?_; intro ox kj
  refine qu_ el (.agg (e30N n aa ab).toArray) (fun v1404 hC => lda el hC 0 (g := []) (b := aT) (off := 0) (k := 6) (cs := (e30N n aa ab)) (vs := (e30N n aa ab)) (ty := 30) rfl (by kernel_rfl) (by kernel_rfl) (by kernel_rfl) (by kernel_rfl) (by kernel_rfl) rfl) ?_; intro tV kk
  obtain ⟨oy, oz⟩ := ou
  refine qcl kk (str (fnameS n)) 19 #[.agg (e30N n aa ab).toArray] (nog rfl _) rfl (by kernel_rfl) (fun _ => by kernel_rfl) (qfc fun w hC => rname_fun n oy aa ab _ _ aS hg3 hC.fz) ?_; intro tW em
  refine qu_ em (.agg (e30N u1 ao4 cap5).toArray) (fun v1412 hC => lda em hC 3 (g := []) (b := o) (off := 0) (k := 6) (cs := (e30N u1 ao4 cap5)) (vs := (e30N u1 ao4 cap5)) (ty := 30) rfl (by kernel_rfl) (by kernel_rfl) (by kernel_rfl) (by kernel_rfl) (by kernel_rfl) rfl) ?_; intro tX kl
  obtain ⟨oA, cG⟩ := oz
  refine qcl kl (str (fnameS u1)) 19 #[.agg (e30N u1 ao4 cap5).toArray] (nog rfl _) rfl (by kernel_rfl) (fun _ => by kernel_rfl) (qfc fun w hC => rname_fun u1 oA ao4 cap5 _ _ hs6 hg3 hC.fz) ?_; intro tY en
  refine qu_ en (.bool ((fnameS n) == (fnameS u1))) (fun v1420 hC => strcmp_run en (g := []) (op := .eql) rfl (by kernel_rfl) (by kernel_rfl) (by decide) rfl) ?_; intro tZ bL
  refine qnl (kj _ ?_); intro t0 bM
  refine c_ bL cG (fun _ oB => ?_) fun _ kH => ?_
  ·
   refine sqH ?_; intro oC km
   refine s1 bL 176 (.slice ao1 u0.length cap2) ?_; intro t1 kn
   obtain ⟨oD, ko⟩ := oB
   refine ck kn 20 #[.slice ao1 u0.length cap2] ?_
   refine (fclone_fun u0 oD ao1 cap2 _ _ hs3 bM.fz).mono ?_; rintro _ oE ⟨ep, ar, kp, rfl, hm⟩; refine ⟨_, rfl, ?_⟩; intro t2 kq; have kr := bM.callZ hm; have P := hm.ext.le
   replace hs6 := hs6.mono P
   have bN : Mem w.heap.size [] w Z [.own tyFrame 30 ep ar (fcloneS u0), .row aT (e30N n aa ab) 30, .row D (e30N ((takeS (ownS u0)).1) x y) 30, .own tyFrame 30 f h (renewS (ownS u0) u1).1, .row o (e30N u1 ao4 cap5) 30] kp oE := kr
   have oF := ko (bN.ownSmall 0 rfl)
   refine s1 kq 18 (.slice ep (fcloneS u0).length ar) ?_; intro t3 ks
   apply km
   refine sqH ?_; intro oG kt
   refine bt ks bN 3 [4] [] [(178, .slice ep (fcloneS u0).length ar), (179, i6 a), (180, .agg (e30N u1 ao4 cap5).toArray)] ?_; intro t4 ku
   obtain ⟨oH, oI⟩ := oF
   refine ixo ku bN 0 (T := tyFrame) (xs := (fcloneS u0)) a oH (k := .i64) (e := 30) (bytes := 48) (nog rfl _) rfl (by kernel_rfl) rfl (by kernel_rfl) (by kernel_rfl) rfl (by kernel_rfl) ?_; intro aI oJ oK cH
   subst oK
   refine so cH bN 0 (T := tyFrame) (xs := (fcloneS u0)) a.toNat u1 (u := .agg (e30N u1 ao4 cap5).toArray) (nog rfl _) rfl rfl (by kernel_rfl) rfl (by kernel_rfl) rfl (by kernel_rfl) (by first | omega | (simp only [List.length_set] at *; omega)) ⟨ao4, cap5, rfl, hs6⟩ ?_; intro eq kv
   have kw : Fr 198 [] [⟨0, [], .slice ao1 u0.length cap2⟩, ⟨3, [], pt o 0⟩, ⟨6, [], .slice p (putS (ownS u0) u1).1.length q⟩, ⟨7, [], i6 (putS (ownS u0) u1).2⟩, ⟨8, [], .slice f (renewS (ownS u0) u1).1.length h⟩, ⟨9, [], i6 (renewS (ownS u0) u1).2⟩, ⟨16, [], i6 a⟩, ⟨17, [], pt aT 0⟩, ⟨18, [], .slice (sm aI) ((fcloneS u0).set a.toNat u1).length ar⟩, ⟨164, [], .slice ao1 u0.length cap2⟩, ⟨165, [], i6 (u0.length : Int)⟩, ⟨166, [], i6 a⟩, ⟨171, [], .agg (e30N n aa ab).toArray⟩, ⟨172, [], str (fnameS n)⟩, ⟨173, [], .agg (e30N u1 ao4 cap5).toArray⟩, ⟨174, [], str (fnameS u1)⟩, ⟨175, [], .bool ((fnameS n) == (fnameS u1))⟩, ⟨176, [], .slice ao1 u0.length cap2⟩, ⟨177, [], .slice (sm aI) ((fcloneS u0).set a.toNat u1).length ar⟩, ⟨178, [], .slice (sm aI) ((fcloneS u0).set a.toNat u1).length ar⟩, ⟨179, [], i6 a⟩, ⟨180, [], .agg (e30N u1 ao4 cap5).toArray⟩, ⟨181, [], .pointer (some ⟨aI, a.toNat * 6, none⟩)⟩] oJ := by (try simp only [List.length_set] at cH); (try simp only [List.length_set]); exact cH.reg
   have oL : Mem w.heap.size [] w Z [.own tyFrame 30 (sm aI) ar ((fcloneS u0).set a.toNat u1), .row aT (e30N n aa ab) 30, .row D (e30N ((takeS (ownS u0)).1) x y) 30, .own tyFrame 30 f h (renewS (ownS u0) u1).1, .row o (e30N u1 ao4 cap5) 30] kp eq := kv
   apply kt
   refine sqH ?_; intro oM kx
   refine s1 kw 182 (i6 (renewS (ownS u0) u1).2) ?_; intro t5 ky
   refine s1 ky 183 (.bool ((renewS (ownS u0) u1).2 == 0)) ?_; intro t6 kz
   refine s1 kz 184 (.bool ((renewS (ownS u0) u1).2 == 0)) ?_; intro t7 kA
   have kB := kA.atom (((renewS (ownS u0) u1).2 == 0) == true) (by kernel_rfl)
   refine gp kB 185 0 [] ((renewS (ownS u0) u1).2 == 0) (.slice f (renewS (ownS u0) u1).1.length h) rfl rfl ?_; intro t9 kC
   refine gp kC 186 0 [] ((renewS (ownS u0) u1).2 == 0) (.slice (sm aI) ((fcloneS u0).set a.toNat u1).length ar) rfl rfl ?_; intro ua kD
   obtain ⟨oN, Q, kE, er⟩ := oL.freeze 3 rfl
   have oO : Mem w.heap.size [] w Z [.own tyFrame 30 (sm aI) ar ((fcloneS u0).set a.toNat u1), .row aT (e30N n aa ab) 30, .row D (e30N ((takeS (ownS u0)).1) x y) 30, .row o (e30N u1 ao4 cap5) 30] oN eq := kE
   obtain ⟨oP, M, kF, oQ⟩ := oO.freeze 0 rfl
   replace er := er.mono M
   have es : Mem w.heap.size [] w Z [.row aT (e30N n aa ab) 30, .row D (e30N ((takeS (ownS u0)).1) x y) 30, .row o (e30N u1 ao4 cap5) 30] oP eq := kF
   refine gcl kD es (.bool (samesS (renewS (ownS u0) u1).1 ((fcloneS u0).set a.toNat u1))) 10 #[.slice f (renewS (ownS u0) u1).1.length h, .slice (sm aI) ((fcloneS u0).set a.toNat u1).length ar] (m := 0) (cj := []) (bj := (renewS (ownS u0) u1).2 == 0) rfl rfl (by kernel_rfl) rfl (by kernel_rfl) (by kernel_rfl) (by kernel_rfl) (fun _ => by kernel_rfl) (fun hg => rSames_fun (renewS (ownS u0) u1).1 ((fcloneS u0).set a.toNat u1) f h (sm aI) ar _ _ er oQ es.fz) ?_; intro ub uc et oR
   refine u_ et (.bool (((renewS (ownS u0) u1).2 == 0) && (samesS (renewS (ownS u0) u1).1 ((fcloneS u0).set a.toNat u1)))) (pk_and et (g := []) (m := 0) (b := (renewS (ownS u0) u1).2 == 0) (v := (samesS (renewS (ownS u0) u1).1 ((fcloneS u0).set a.toNat u1))) rfl (by kernel_rfl) (by kernel_rfl) (by kernel_rfl) rfl) ?_; intro ud kG
   refine s1 kG 4 (.bool (((renewS (ownS u0) u1).2 == 0) && (samesS (renewS (ownS u0) u1).1 ((fcloneS u0).set a.toNat u1)))) ?_; intro ue oS
   apply kx
   exact r_ (i_ (h_ (h_ (i_ (h_ (ra1 oS (.bool (((renewS (ownS u0) u1).2 == 0) && (samesS (renewS (ownS u0) u1).1 ((fcloneS u0).set a.toNat u1)))) ⟨((renewS (ownS u0) u1).2 == 0) && (samesS (renewS (ownS u0) u1).1 ((fcloneS u0).set a.toNat u1)), rfl, oI, oR.below⟩))))))
  refine l_ (j_ (t_ (rgB bL bM [] [] [(166, i6 (w64 (a + 1)))] ?_))); intro uf oT
  exact d_ ⟨w64 (a + 1), kH.1, kH.2, (oT.reg).anyβ _ (by kernel_rfl), bM.kp⟩
 refine x_ (y_ (y_ (z_ (t_ (sqH ?_))))); intro oV kI
 refine s1 bK 190 (i6 (renewS (ownS u0) u1).2) ?_; intro ug kJ
 refine s1 kJ 191 (i6 (putS (ownS u0) u1).2) ?_; intro uh kK
 refine s1 kK 192 (.bool ((renewS (ownS u0) u1).2 == (putS (ownS u0) u1).2)) ?_; intro ui kL
 refine s1 kL 193 (.bool ((renewS (ownS u0) u1).2 == (putS (ownS u0) u1).2)) ?_; intro uj kM
 have kN := kM.atom (((renewS (ownS u0) u1).2 == (putS (ownS u0) u1).2) == true) (by kernel_rfl)
 refine gp kN 194 0 [] ((renewS (ownS u0) u1).2 == (putS (ownS u0) u1).2) (.slice f (renewS (ownS u0) u1).1.length h) rfl rfl ?_; intro uk kO
 refine gp kO 195 0 [] ((renewS (ownS u0) u1).2 == (putS (ownS u0) u1).2) (.slice p (putS (ownS u0) u1).1.length q) rfl rfl ?_; intro ul kP
 obtain ⟨oW, aj, kQ, oX⟩ := j7.freeze 1 rfl
 replace ai := ai.mono aj
 have eu : Mem w.heap.size [] w Z [.row D (e30N ((takeS (ownS u0)).1) x y) 30, .row o (e30N u1 ao4 cap5) 30] oW j5 := kQ
 refine gcl kP eu (.bool (samesS (renewS (ownS u0) u1).1 (putS (ownS u0) u1).1)) 10 #[.slice f (renewS (ownS u0) u1).1.length h, .slice p (putS (ownS u0) u1).1.length q] (m := 0) (cj := []) (bj := (renewS (ownS u0) u1).2 == (putS (ownS u0) u1).2) rfl rfl (by kernel_rfl) rfl (by kernel_rfl) (by kernel_rfl) (by kernel_rfl) (fun _ => by kernel_rfl) (fun hg => rSames_fun (renewS (ownS u0) u1).1 (putS (ownS u0) u1).1 f h p q _ _ oX ai eu.fz) ?_; intro um un ev oY
 refine u_ ev (.bool (((renewS (ownS u0) u1).2 == (putS (ownS u0) u1).2) && (samesS (renewS (ownS u0) u1).1 (putS (ownS u0) u1).1))) (pk_and ev (g := []) (m := 0) (b := (renewS (ownS u0) u1).2 == (putS (ownS u0) u1).2) (v := (samesS (renewS (ownS u0) u1).1 (putS (ownS u0) u1).1)) rfl (by kernel_rfl) (by kernel_rfl) (by kernel_rfl) rfl) ?_; intro uo kR
 refine s1 kR 4 (.bool (((renewS (ownS u0) u1).2 == (putS (ownS u0) u1).2) && (samesS (renewS (ownS u0) u1).1 (putS (ownS u0) u1).1))) ?_; intro up oZ
 apply kI
 exact r_ (ra1 oZ (.bool (((renewS (ownS u0) u1).2 == (putS (ownS u0) u1).2) && (samesS (renewS (ownS u0) u1).1 (putS (ownS u0) u1).1))) ⟨((renewS (ownS u0) u1).2 == (putS (ownS u0) u1).2) && (samesS (renewS (ownS u0) u1).1 (putS (ownS u0) u1).1), rfl, oU, oY.below⟩)

end Go.Proofs.YtocpdhcjkfmmnaaDoor
