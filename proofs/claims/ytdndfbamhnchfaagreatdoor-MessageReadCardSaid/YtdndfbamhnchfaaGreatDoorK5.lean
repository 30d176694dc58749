/- Texts put together (pure ones, or walks made by program). -/
import Derived.Test.YtdndfbamhnchfaaGreatDoorK0
import Derived.Test.YtdndfbamhnchfaaGreatDoorK1
import Derived.Test.YtdndfbamhnchfaaGreatDoorK2
import Derived.Test.YtdndfbamhnchfaaGreatDoorK3
import Derived.Test.YtdndfbamhnchfaaGreatDoorK4
set_option linter.unusedVariables false
set_option linter.unusedSimpArgs false
set_option linter.defProp false
set_option maxRecDepth 100000
set_option maxHeartbeats 0
namespace Go.Proofs.YtdndfbamhnchfaaGreatDoor
open Go.Sy Go.RowKit
abbrev e46Mr (X : Signal) : List Value := [str X.Name, i6 X.Start, i6 X.Size, .bool X.Back, .bool X.Signed, i6 X.Mul, i6 X.Div, i6 X.Add, i6 X.Key]
abbrev e27Mr (X : Frame) (A0 : Option Addr) (C0 : Nat) : List Value := [i6 X.ID, .bool X.Long, .bool X.Fast, .bool X.Remote, i6 X.Size, .slice A0 X.Data.length C0]
abbrev e24Mr (X : Message) (A0 : Option Addr) (C0 : Nat) : List Value := [i6 X.ID, .bool X.Long, str X.Name, i6 X.Size, i6 X.Chooser, .slice A0 X.Signals.length C0]
def risname_fun (u0 : List UInt8)  (Z : Fz) (w : World)  (hZ : Z.on w) := f_ (risname_walk u0  Z w  hZ (risname_ok u0))
def rrawof_fun (u0 : Signal) (u1 : List Int) (hpre : inD u0 u1) (ao1 : Option Addr) (cap2 : Nat) (Z : Fz) (w : World) (hs3 : SlR t8 Z ao1 cap2 u1) (hZ : Z.on w) := f_ (rrawof_walk u0 u1 ao1 cap2 Z w hs3 hZ (rrawof_ok u0 u1 hpre))
theorem rcheck_walk (u0 : Signal) (u1 : Int)  (Z : Fz) (w : World)  (hZ : Z.on w) {K : Int → Prop} (hp : rcheck_vc u0 u1 K) : Calls Tryz.prog 27 #[.agg #[str u0.Name, i6 u0.Start, i6 u0.Size, .bool u0.Back, .bool u0.Signed, i6 u0.Mul, i6 u0.Div, i6 u0.Add, i6 u0.Key], i6 u1] w fun e w' => ∃ r : Int, e = .returned (i6 r) ∧ K r ∧ Below w.heap.size w w' := by
 refine enter0 Tryz.func27 rfl rfl (by kernel_rfl) ?_; intro a0 af; have ag := Mem.start w Z hZ
 refine sqH ?_; intro bx ah
 refine nw af ag pb (e46Mr u0) 46 ?_; intro a a3 ca ai A
 refine s1 ai 4 (i6 0) ?_; intro a7 aj
 apply ah
 refine s_ (sqH ?_); intro bz ak
 refine bt aj A 2 [0] [] [(9, str u0.Name)] ?_; intro cb al
 refine fc al A (risname_fun u0.Name _ _ A.fz) ?_; intro cc ce am d
 refine s1 am 11 (.bool (!(nameS u0.Name))) ?_; intro cf l
 apply ak
 refine c_ l hp (fun _ bA => ?_) fun _ B => ?_
 ·
  refine sqB l d [] [] [(4, i6 1)] ?_; intro cg bB
  exact r_ (h_ (ra1 bB (i6 1) ⟨1, rfl, bA, d.below⟩))
 refine k_ (sqB l d [] [] [(5, .func (.func 64) #[] #[])] ?_); intro ch an
 refine s_ (sqH ?_); intro bC ao
 refine bt an d 2 [] [] [(12, .func (.func 64) #[] #[]), (13, i6 u1)] ?_; intro ci ap
 refine fc ap d (rin_fun u1 0 64 _ _ d.fz) ?_; intro cl cm aq C
 refine s1 aq 15 (.bool (!(rin u1 0 64))) ?_; intro cn ar
 refine s1 ar 16 (.bool (!(rin u1 0 64))) ?_; intro co au
 have av := au.atom ((!(rin u1 0 64)) == false) (by kernel_rfl)
 refine gp av 17 0 [] (!(rin u1 0 64)) (.func (.func 64) #[] #[]) rfl rfl ?_; intro cp aw
 refine gp aw 18 0 [] (!(rin u1 0 64)) (pt a 2) rfl rfl ?_; intro cq L
 refine gd L (i6 u0.Size) (m := 0) (cj := []) (bj := !(rin u1 0 64)) rfl rfl (by kernel_rfl) rfl (by kernel_rfl) (by kernel_rfl) (by kernel_rfl) (fun hg => ld L C 0 (g := [0]) (b := a) (off := 2) (cs := (e46Mr u0)) (ty := 46) rfl (by kernel_rfl) (by kernel_rfl) (by kernel_rfl) (by kernel_rfl) hg) ?_; intro cr ax
 refine gcl ax C (.bool (rin u0.Size 1 40)) 64 #[i6 u0.Size, i6 1, i6 40] (m := 0) (cj := []) (bj := !(rin u1 0 64)) rfl rfl (by kernel_rfl) rfl (by kernel_rfl) (by kernel_rfl) (by kernel_rfl) (fun _ => by kernel_rfl) (fun hg => rin_fun u0.Size 1 40 _ _ C.fz) ?_; intro ct cu ay n
 refine gp ay 21 0 [] (!(rin u1 0 64)) (.bool (!(rin u0.Size 1 40))) rfl rfl ?_; intro cv M
 refine u_ M (.bool ((!(rin u1 0 64)) || (!(rin u0.Size 1 40)))) (pk_or M (g := []) (m := 0) (b := !(rin u1 0 64)) (v := !(rin u0.Size 1 40)) rfl (by kernel_rfl) (by kernel_rfl) (by kernel_rfl) rfl) ?_; intro cw az
 refine s1 az 23 (.bool ((!(rin u1 0 64)) || (!(rin u0.Size 1 40)))) ?_; intro cx aA
 have aB := aA.atom (((!(rin u1 0 64)) || (!(rin u0.Size 1 40))) == false) (by kernel_rfl)
 refine gp aB 24 1 [] ((!(rin u1 0 64)) || (!(rin u0.Size 1 40))) (pt a 5) rfl rfl ?_; intro cy N
 refine gd N (i6 u0.Mul) (m := 1) (cj := []) (bj := (!(rin u1 0 64)) || (!(rin u0.Size 1 40))) rfl rfl (by kernel_rfl) rfl (by kernel_rfl) (by kernel_rfl) (by kernel_rfl) (fun hg => ld N n 0 (g := [1]) (b := a) (off := 5) (cs := (e46Mr u0)) (ty := 46) rfl (by kernel_rfl) (by kernel_rfl) (by kernel_rfl) (by kernel_rfl) hg) ?_; intro cz aC
 refine gp aC 26 1 [] ((!(rin u1 0 64)) || (!(rin u0.Size 1 40))) (.bool (u0.Mul == 0)) rfl rfl ?_; intro cA O
 refine u_ O (.bool (((!(rin u1 0 64)) || (!(rin u0.Size 1 40))) || (u0.Mul == 0))) (pk_or O (g := []) (m := 1) (b := (!(rin u1 0 64)) || (!(rin u0.Size 1 40))) (v := u0.Mul == 0) rfl (by kernel_rfl) (by kernel_rfl) (by kernel_rfl) rfl) ?_; intro cB aD
 refine s1 aD 28 (.bool (((!(rin u1 0 64)) || (!(rin u0.Size 1 40))) || (u0.Mul == 0))) ?_; intro cC aE
 have aF := aE.atom ((((!(rin u1 0 64)) || (!(rin u0.Size 1 40))) || (u0.Mul == 0)) == false) (by kernel_rfl)
 refine gp aF 29 2 [] (((!(rin u1 0 64)) || (!(rin u0.Size 1 40))) || (u0.Mul == 0)) (.func (.func 64) #[] #[]) rfl rfl ?_; intro cD aG
 refine gp aG 30 2 [] (((!(rin u1 0 64)) || (!(rin u0.Size 1 40))) || (u0.Mul == 0)) (pt a 5) rfl rfl ?_; intro cE P
 refine gd P (i6 u0.Mul) (m := 2) (cj := []) (bj := ((!(rin u1 0 64)) || (!(rin u0.Size 1 40))) || (u0.Mul == 0)) rfl rfl (by kernel_rfl) rfl (by kernel_rfl) (by kernel_rfl) (by kernel_rfl) (fun hg => ld P n 0 (g := [2]) (b := a) (off := 5) (cs := (e46Mr u0)) (ty := 46) rfl (by kernel_rfl) (by kernel_rfl) (by kernel_rfl) (by kernel_rfl) hg) ?_; intro cF aH
 refine gcl aH n (.bool (rin u0.Mul (-1000000) 1000000)) 64 #[i6 u0.Mul, i6 (-1000000), i6 1000000] (m := 2) (cj := []) (bj := ((!(rin u1 0 64)) || (!(rin u0.Size 1 40))) || (u0.Mul == 0)) rfl rfl (by kernel_rfl) rfl (by kernel_rfl) (by kernel_rfl) (by kernel_rfl) (fun _ => by kernel_rfl) (fun hg => rin_fun u0.Mul (-1000000) 1000000 _ _ n.fz) ?_; intro cG cH aI D
 refine gp aI 33 2 [] (((!(rin u1 0 64)) || (!(rin u0.Size 1 40))) || (u0.Mul == 0)) (.bool (!(rin u0.Mul (-1000000) 1000000))) rfl rfl ?_; intro cI Q
 refine u_ Q (.bool ((((!(rin u1 0 64)) || (!(rin u0.Size 1 40))) || (u0.Mul == 0)) || (!(rin u0.Mul (-1000000) 1000000)))) (pk_or Q (g := []) (m := 2) (b := ((!(rin u1 0 64)) || (!(rin u0.Size 1 40))) || (u0.Mul == 0)) (v := !(rin u0.Mul (-1000000) 1000000)) rfl (by kernel_rfl) (by kernel_rfl) (by kernel_rfl) rfl) ?_; intro cJ aJ
 refine s1 aJ 35 (.bool ((((!(rin u1 0 64)) || (!(rin u0.Size 1 40))) || (u0.Mul == 0)) || (!(rin u0.Mul (-1000000) 1000000)))) ?_; intro cK aK
 have aL := aK.atom (((((!(rin u1 0 64)) || (!(rin u0.Size 1 40))) || (u0.Mul == 0)) || (!(rin u0.Mul (-1000000) 1000000))) == false) (by kernel_rfl)
 refine gp aL 36 3 [] ((((!(rin u1 0 64)) || (!(rin u0.Size 1 40))) || (u0.Mul == 0)) || (!(rin u0.Mul (-1000000) 1000000))) (.func (.func 64) #[] #[]) rfl rfl ?_; intro cL aM
 refine gp aM 37 3 [] ((((!(rin u1 0 64)) || (!(rin u0.Size 1 40))) || (u0.Mul == 0)) || (!(rin u0.Mul (-1000000) 1000000))) (pt a 6) rfl rfl ?_; intro cM R
 refine gd R (i6 u0.Div) (m := 3) (cj := []) (bj := (((!(rin u1 0 64)) || (!(rin u0.Size 1 40))) || (u0.Mul == 0)) || (!(rin u0.Mul (-1000000) 1000000))) rfl rfl (by kernel_rfl) rfl (by kernel_rfl) (by kernel_rfl) (by kernel_rfl) (fun hg => ld R D 0 (g := [3]) (b := a) (off := 6) (cs := (e46Mr u0)) (ty := 46) rfl (by kernel_rfl) (by kernel_rfl) (by kernel_rfl) (by kernel_rfl) hg) ?_; intro cN aN
 refine gcl aN D (.bool (rin u0.Div 1 1000000)) 64 #[i6 u0.Div, i6 1, i6 1000000] (m := 3) (cj := []) (bj := (((!(rin u1 0 64)) || (!(rin u0.Size 1 40))) || (u0.Mul == 0)) || (!(rin u0.Mul (-1000000) 1000000))) rfl rfl (by kernel_rfl) rfl (by kernel_rfl) (by kernel_rfl) (by kernel_rfl) (fun _ => by kernel_rfl) (fun hg => rin_fun u0.Div 1 1000000 _ _ D.fz) ?_; intro cO cP aO E
 refine gp aO 40 3 [] ((((!(rin u1 0 64)) || (!(rin u0.Size 1 40))) || (u0.Mul == 0)) || (!(rin u0.Mul (-1000000) 1000000))) (.bool (!(rin u0.Div 1 1000000))) rfl rfl ?_; intro cQ S
 refine u_ S (.bool (((((!(rin u1 0 64)) || (!(rin u0.Size 1 40))) || (u0.Mul == 0)) || (!(rin u0.Mul (-1000000) 1000000))) || (!(rin u0.Div 1 1000000)))) (pk_or S (g := []) (m := 3) (b := (((!(rin u1 0 64)) || (!(rin u0.Size 1 40))) || (u0.Mul == 0)) || (!(rin u0.Mul (-1000000) 1000000))) (v := !(rin u0.Div 1 1000000)) rfl (by kernel_rfl) (by kernel_rfl) (by kernel_rfl) rfl) ?_; intro cR aP
 refine s1 aP 42 (.bool (((((!(rin u1 0 64)) || (!(rin u0.Size 1 40))) || (u0.Mul == 0)) || (!(rin u0.Mul (-1000000) 1000000))) || (!(rin u0.Div 1 1000000)))) ?_; intro cS aQ
 have aR := aQ.atom ((((((!(rin u1 0 64)) || (!(rin u0.Size 1 40))) || (u0.Mul == 0)) || (!(rin u0.Mul (-1000000) 1000000))) || (!(rin u0.Div 1 1000000))) == false) (by kernel_rfl)
 refine gp aR 43 4 [] (((((!(rin u1 0 64)) || (!(rin u0.Size 1 40))) || (u0.Mul == 0)) || (!(rin u0.Mul (-1000000) 1000000))) || (!(rin u0.Div 1 1000000))) (.func (.func 64) #[] #[]) rfl rfl ?_; intro cT aS
 refine gp aS 44 4 [] (((((!(rin u1 0 64)) || (!(rin u0.Size 1 40))) || (u0.Mul == 0)) || (!(rin u0.Mul (-1000000) 1000000))) || (!(rin u0.Div 1 1000000))) (pt a 7) rfl rfl ?_; intro cU U
 refine gd U (i6 u0.Add) (m := 4) (cj := []) (bj := ((((!(rin u1 0 64)) || (!(rin u0.Size 1 40))) || (u0.Mul == 0)) || (!(rin u0.Mul (-1000000) 1000000))) || (!(rin u0.Div 1 1000000))) rfl rfl (by kernel_rfl) rfl (by kernel_rfl) (by kernel_rfl) (by kernel_rfl) (fun hg => ld U E 0 (g := [4]) (b := a) (off := 7) (cs := (e46Mr u0)) (ty := 46) rfl (by kernel_rfl) (by kernel_rfl) (by kernel_rfl) (by kernel_rfl) hg) ?_; intro cV aT
 refine gcl aT E (.bool (rin u0.Add (-1000000) 1000000)) 64 #[i6 u0.Add, i6 (-1000000), i6 1000000] (m := 4) (cj := []) (bj := ((((!(rin u1 0 64)) || (!(rin u0.Size 1 40))) || (u0.Mul == 0)) || (!(rin u0.Mul (-1000000) 1000000))) || (!(rin u0.Div 1 1000000))) rfl rfl (by kernel_rfl) rfl (by kernel_rfl) (by kernel_rfl) (by kernel_rfl) (fun _ => by kernel_rfl) (fun hg => rin_fun u0.Add (-1000000) 1000000 _ _ E.fz) ?_; intro cW cX aU F
 refine gp aU 47 4 [] (((((!(rin u1 0 64)) || (!(rin u0.Size 1 40))) || (u0.Mul == 0)) || (!(rin u0.Mul (-1000000) 1000000))) || (!(rin u0.Div 1 1000000))) (.bool (!(rin u0.Add (-1000000) 1000000))) rfl rfl ?_; intro cY V
 refine u_ V (.bool ((((((!(rin u1 0 64)) || (!(rin u0.Size 1 40))) || (u0.Mul == 0)) || (!(rin u0.Mul (-1000000) 1000000))) || (!(rin u0.Div 1 1000000))) || (!(rin u0.Add (-1000000) 1000000)))) (pk_or V (g := []) (m := 4) (b := ((((!(rin u1 0 64)) || (!(rin u0.Size 1 40))) || (u0.Mul == 0)) || (!(rin u0.Mul (-1000000) 1000000))) || (!(rin u0.Div 1 1000000))) (v := !(rin u0.Add (-1000000) 1000000)) rfl (by kernel_rfl) (by kernel_rfl) (by kernel_rfl) rfl) ?_; intro cZ aV
 refine s1 aV 49 (.bool ((((((!(rin u1 0 64)) || (!(rin u0.Size 1 40))) || (u0.Mul == 0)) || (!(rin u0.Mul (-1000000) 1000000))) || (!(rin u0.Div 1 1000000))) || (!(rin u0.Add (-1000000) 1000000)))) ?_; intro c0 aW
 have aX := aW.atom (((((((!(rin u1 0 64)) || (!(rin u0.Size 1 40))) || (u0.Mul == 0)) || (!(rin u0.Mul (-1000000) 1000000))) || (!(rin u0.Div 1 1000000))) || (!(rin u0.Add (-1000000) 1000000))) == false) (by kernel_rfl)
 refine gp aX 50 5 [] ((((((!(rin u1 0 64)) || (!(rin u0.Size 1 40))) || (u0.Mul == 0)) || (!(rin u0.Mul (-1000000) 1000000))) || (!(rin u0.Div 1 1000000))) || (!(rin u0.Add (-1000000) 1000000))) (.func (.func 64) #[] #[]) rfl rfl ?_; intro c1 aY
 refine gp aY 51 5 [] ((((((!(rin u1 0 64)) || (!(rin u0.Size 1 40))) || (u0.Mul == 0)) || (!(rin u0.Mul (-1000000) 1000000))) || (!(rin u0.Div 1 1000000))) || (!(rin u0.Add (-1000000) 1000000))) (pt a 8) rfl rfl ?_; intro c2 W
 refine gd W (i6 u0.Key) (m := 5) (cj := []) (bj := (((((!(rin u1 0 64)) || (!(rin u0.Size 1 40))) || (u0.Mul == 0)) || (!(rin u0.Mul (-1000000) 1000000))) || (!(rin u0.Div 1 1000000))) || (!(rin u0.Add (-1000000) 1000000))) rfl rfl (by kernel_rfl) rfl (by kernel_rfl) (by kernel_rfl) (by kernel_rfl) (fun hg => ld W F 0 (g := [5]) (b := a) (off := 8) (cs := (e46Mr u0)) (ty := 46) rfl (by kernel_rfl) (by kernel_rfl) (by kernel_rfl) (by kernel_rfl) hg) ?_; intro c3 aZ
 refine gcl aZ F (.bool (rin u0.Key (-1) 255)) 64 #[i6 u0.Key, i6 (-1), i6 255] (m := 5) (cj := []) (bj := (((((!(rin u1 0 64)) || (!(rin u0.Size 1 40))) || (u0.Mul == 0)) || (!(rin u0.Mul (-1000000) 1000000))) || (!(rin u0.Div 1 1000000))) || (!(rin u0.Add (-1000000) 1000000))) rfl rfl (by kernel_rfl) rfl (by kernel_rfl) (by kernel_rfl) (by kernel_rfl) (fun _ => by kernel_rfl) (fun hg => rin_fun u0.Key (-1) 255 _ _ F.fz) ?_; intro c4 c5 a1 h
 refine gp a1 54 5 [] ((((((!(rin u1 0 64)) || (!(rin u0.Size 1 40))) || (u0.Mul == 0)) || (!(rin u0.Mul (-1000000) 1000000))) || (!(rin u0.Div 1 1000000))) || (!(rin u0.Add (-1000000) 1000000))) (.bool (!(rin u0.Key (-1) 255))) rfl rfl ?_; intro c6 X
 refine u_ X (.bool (((((((!(rin u1 0 64)) || (!(rin u0.Size 1 40))) || (u0.Mul == 0)) || (!(rin u0.Mul (-1000000) 1000000))) || (!(rin u0.Div 1 1000000))) || (!(rin u0.Add (-1000000) 1000000))) || (!(rin u0.Key (-1) 255)))) (pk_or X (g := []) (m := 5) (b := (((((!(rin u1 0 64)) || (!(rin u0.Size 1 40))) || (u0.Mul == 0)) || (!(rin u0.Mul (-1000000) 1000000))) || (!(rin u0.Div 1 1000000))) || (!(rin u0.Add (-1000000) 1000000))) (v := !(rin u0.Key (-1) 255)) rfl (by kernel_rfl) (by kernel_rfl) (by kernel_rfl) rfl) ?_; intro a2 o
 apply ao
 refine c_ o B (fun _ bD => ?_) fun _ G => ?_
 ·
  have a4 : Fr 76 [] [] a2 := o.reg
  refine sqB a4 h [] [] [(4, i6 3)] ?_; intro c7 bE
  exact r_ (h_ (ra1 bE (i6 3) ⟨3, rfl, bD, h.below⟩))
 refine k_ (s_ ?_)
 have a5 : Fr 76 [] [⟨1, [], i6 u1⟩, ⟨2, [], pt a 0⟩, ⟨5, [], .func (.func 64) #[] #[]⟩] a2 := o.reg
 refine sqH ?_; intro bF a6
 refine bt a5 h 6 [0] [] [(56, .func (.func 64) #[] #[]), (58, i6 u0.Start), (61, i6 (w64 ((w64 (8 * u1)) - 1)))] ?_; intro c8 a8
 refine fc a8 h (rin_fun u0.Start 0 (w64 ((w64 (8 * u1)) - 1)) _ _ h.fz) ?_; intro c9 da a9 i
 refine s1 a9 63 (.bool (!(rin u0.Start 0 (w64 ((w64 (8 * u1)) - 1))))) ?_; intro db p
 apply a6
 refine c_ p G (fun _ bG => ?_) fun _ bI => ?_
 ·
  refine sqB p i [] [] [(4, i6 7)] ?_; intro dc bH
  exact r_ (h_ (ra1 bH (i6 7) ⟨7, rfl, bG, i.below⟩))
 refine k_ (s_ (sqH ?_)); intro bJ ba
 refine l2 p i 64 0 0 9 (e46Mr u0) rfl rfl ?_; intro dd bb
 obtain ⟨bK, bc⟩ := bI
 refine ck bb 56 #[.agg (e46Mr u0).toArray] ?_
 refine (rplaces_fun u0 bK _ _ i.fz).mono ?_; rintro _ bd ⟨q, u, bL, rfl, hm⟩; refine ⟨_, rfl, ?_⟩; intro de be; have bf := i.callZ hm
 have ab : Mem w.heap.size [] w Z [.own t6 3 q u (placesS u0), .row a (e46Mr u0) 46] bL bd := bf
 have bN := bc (ab.ownSmall 0 rfl)
 refine bt be ab 2 [] [] [(66, i6 ((placesS u0).length : Int)), (67, i6 0)] ?_; intro bg bh
 apply ba
 apply b_
 have bi : Fr 76 [] [⟨1, [], i6 u1⟩, ⟨65, [], .slice q (placesS u0).length u⟩, ⟨66, [], i6 ((placesS u0).length : Int)⟩, ⟨67, [], i6 0⟩] bg := bh.reg
 obtain ⟨ac, bO, bk, bP⟩ := ab.freeze 0 rfl
 have bl : Mem w.heap.size [] w Z [.row a (e46Mr u0) 46] ac bd := bk
 have bm : Fr 76 [] [⟨1, [], i6 u1⟩, ⟨65, [], .slice q (placesS u0).length u⟩, ⟨66, [], i6 ((placesS u0).length : Int)⟩, ⟨67, [], i6 0⟩] bg := bi.reg
 obtain ⟨bQ, bR, bS, bT⟩ := bN
 refine lp (ι := Int) (fun s => [⟨1, [], i6 u1⟩, ⟨65, [], .slice q (placesS u0).length u⟩, ⟨66, [], i6 ((placesS u0).length : Int)⟩, ⟨67, [], i6 s⟩]) (fun s => [.row a (e46Mr u0) 46]) (fun s => ac) (fun s => bQ s) (fun s => bR s) 0 bS (by exact bm.reg) (by exact bl) ?_
 rintro f bU bV bW bn bo
 have H := bT f bU
 refine sqB bn bo [] [] [(68, .bool (decide (f < ((placesS u0).length : Int))))] ?_; intro df x
 refine s_ (c_ x H (fun _ bX => ?_) fun _ b8 => ?_)
 ·
  refine k_ (s_ (b_ (sqH ?_))); intro bY bq
  obtain ⟨bZ, br⟩ := bX
  refine ix_ x bP f bZ .i64 3 8 ?_; intro dg dh b0 j di b1 b3 b4 bs
  have I := br j b1
  obtain rfl : b0 = ([i6 j] : List Value) := b4
  refine z1 bs bo 70 b3 0 (i6 j) rfl ?_; intro dj bu
  refine s1 bu 7 (i6 j) ?_; intro dk bv
  apply bq
  refine sqB bv bo [] [] [(74, .bool (decide (j ≥ (w64 (8 * u1)))))] ?_; intro dl y
  refine c_ y I (fun _ b5 => ?_) fun _ bw => ?_
  ·
   refine sqB y bo [] [] [(4, i6 7)] ?_; intro dm b6
   exact r_ (i_ (h_ (h_ (i_ (h_ (ra1 b6 (i6 7) ⟨7, rfl, b5, bo.below⟩))))))
  refine l_ (j_ (t_ (rgB y bo [] [] [(67, i6 (w64 (f + 1)))] ?_))); intro dn b7
  exact d_ ⟨w64 (f + 1), bw.1, bw.2, (b7.reg).anyβ _ (by kernel_rfl), bo.kp⟩
 refine x_ (y_ (y_ (z_ (t_ (sqB x bo [] [] [(4, i6 0)] ?_))))); intro dp b9
 exact r_ (ra1 b9 (i6 0) ⟨0, rfl, b8, bo.below⟩)

theorem rover_walk (u0 : Signal) (u1 : Signal)  (Z : Fz) (w : World)  (hZ : Z.on w) {K : Bool → Prop} (hp : rover_vc u0 u1 K) : Calls Tryz.prog 28 #[.agg #[str u0.Name, i6 u0.Start, i6 u0.Size, .bool u0.Back, .bool u0.Signed, i6 u0.Mul, i6 u0.Div, i6 u0.Add, i6 u0.Key], .agg #[str u1.Name, i6 u1.Start, i6 u1.Size, .bool u1.Back, .bool u1.Signed, i6 u1.Mul, i6 u1.Div, i6 u1.Add, i6 u1.Key]] w fun e w' => ∃ r : Bool, e = .returned (.bool r) ∧ K r ∧ Below w.heap.size w w' := by
 refine enter0 Tryz.func28 rfl rfl (by kernel_rfl) ?_; intro a0 q; have s := Mem.start w Z hZ
 refine sqH ?_; intro W t
 refine nw q s pb (e46Mr u0) 46 ?_; intro f a3 au u v
 refine nw u v pb (e46Mr u1) 46 ?_; intro g a8 av x i
 refine s1 x 4 (.bool false) ?_; intro aw y
 apply t
 refine sqH ?_; intro X z
 refine l2 y i 6 0 0 9 (e46Mr u1) rfl rfl ?_; intro ax A
 obtain ⟨Y, B⟩ := hp
 refine ck A 56 #[.agg (e46Mr u1).toArray] ?_
 refine (rplaces_fun u1 Y _ _ i.fz).mono ?_; rintro _ aa ⟨b, c, C, rfl, hm⟩; refine ⟨_, rfl, ?_⟩; intro ay D; have E := i.callZ hm
 have l : Mem w.heap.size [] w Z [.own t6 3 b c (placesS u1), .row g (e46Mr u1) 46, .row f (e46Mr u0) 46] C aa := E
 have ac := B (l.ownSmall 0 rfl)
 refine nw D l pb [.slice none 0 0] 59 ?_; intro d az aA m F
 refine sx m F 0 [.slice b (placesS u1).length c] 0 ?_; intro ad G
 have j : Mem w.heap.size [] w Z [.row d [.slice b (placesS u1).length c] 59, .own t6 3 b c (placesS u1), .row g (e46Mr u1) 46, .row f (e46Mr u0) 46] C ad := G
 apply z
 refine sqH ?_; intro ae H
 refine l2 m j 8 3 0 9 (e46Mr u0) rfl rfl ?_; intro aB I
 obtain ⟨af, J⟩ := ac
 refine ck I 56 #[.agg (e46Mr u0).toArray] ?_
 refine (rplaces_fun u0 af _ _ j.fz).mono ?_; rintro _ k ⟨L, M, ag, rfl, hm⟩; refine ⟨_, rfl, ?_⟩; intro aC N; have O := j.callZ hm
 have P : Mem w.heap.size [] w Z [.own t6 3 L M (placesS u0), .row d [.slice b (placesS u1).length c] 59, .own t6 3 b c (placesS u1), .row g (e46Mr u1) 46, .row f (e46Mr u0) 46] ag k := O
 have ai := J (P.ownSmall 0 rfl)
 refine s1 N 10 (.func (.func 66) #[] #[pt d 0]) ?_; intro aD Q
 obtain ⟨aj, ak, R, h⟩ := P.freeze 0 rfl
 have al : Mem w.heap.size [] w Z [.row d [.slice b (placesS u1).length c] 59, .own t6 3 b c (placesS u1), .row g (e46Mr u1) 46, .row f (e46Mr u0) 46] aj k := R
 obtain ⟨am, S, T, n⟩ := al.freeze 1 rfl
 replace h := h.mono S
 have an : Mem w.heap.size [] w Z [.row d [.slice b (placesS u1).length c] 59, .row g (e46Mr u1) 46, .row f (e46Mr u0) 46] am k := T
 obtain ⟨ao, o, U, ap⟩ := an.freezeRow 0 rfl
 replace h := h.mono o
 replace n := n.mono o
 have p : Mem w.heap.size [] w Z [.row g (e46Mr u1) 46, .row f (e46Mr u0) 46] ao k := U
 refine fc Q p (icontf_fun (placesS u0) (fun x0 => rov1 x0 (placesS u1)) L M 66 #[pt d 0] _ _ h (fun Z1 w1 h1 h2 x0 => rov1_fun x0 (placesS u1) d 0 b c Z1 w1 (ap.mono h1) (SlR.mono n h1) h2) (fun _ _ => by kernel_rfl) p.fz) ?_; intro aE aF V aq
 refine s1 V 4 (.bool (icontfS (placesS u0) (fun x0 => rov1 x0 (placesS u1)))) ?_; intro aG ar
 apply H
 exact r_ (ra1 ar (.bool (icontfS (placesS u0) (fun x0 => rov1 x0 (placesS u1)))) ⟨(icontfS (placesS u0) (fun x0 => rov1 x0 (placesS u1))), rfl, ai, aq.below⟩)

theorem rsizes_walk   (Z : Fz) (w : World)  (hZ : Z.on w) {K : (List Int) → Prop} (hp : rsizes_vc  K) : Calls Tryz.prog 30 #[] w fun e w' => ∃ (r : (List Int)) (ao1001 : Option Addr) (cap1002 : Nat) (Z' : Fz), e = .returned (.slice ao1001 r.length cap1002) ∧ K r ∧ Mem w.heap.size [] w Z [.own t6 3 ao1001 cap1002 r] Z' w' := by
 refine enter0 Tryz.func30 rfl rfl (by kernel_rfl) ?_; intro n d; have c := Mem.start w Z hZ
 refine sqB d c [] [] [] ?_; intro p f
 refine sqH ?_; intro j g
 refine nw f c (fun b => .slice (sm b) 16 16) [i6 0, i6 1, i6 2, i6 3, i6 4, i6 5, i6 6, i6 7, i6 8, i6 12, i6 16, i6 20, i6 24, i6 32, i6 48, i6 64] 3 ?_; intro a q k h i
 refine s1 h 0 (.slice (sm a) 16 16) ?_; intro s l
 apply g
 apply r_
 have m : Mem w.heap.size [] w Z [.own t6 3 (sm a) 16 ([0, 1, 2, 3, 4, 5, 6, 7, 8, 12, 16, 20, 24, 32, 48, 64] : List Int)] Z k := i.rowOwn (T := t6) (xs := ([0, 1, 2, 3, 4, 5, 6, 7, 8, 12, 16, 20, 24, 32, 48, 64] : List Int)) 0 rfl (by decide) (by show 16 ≤ lim; decide) ((RepAll.one (T := t6) (x := 0) rfl).append ((RepAll.one (T := t6) (x := 1) rfl).append ((RepAll.one (T := t6) (x := 2) rfl).append ((RepAll.one (T := t6) (x := 3) rfl).append ((RepAll.one (T := t6) (x := 4) rfl).append ((RepAll.one (T := t6) (x := 5) rfl).append ((RepAll.one (T := t6) (x := 6) rfl).append ((RepAll.one (T := t6) (x := 7) rfl).append ((RepAll.one (T := t6) (x := 8) rfl).append ((RepAll.one (T := t6) (x := 12) rfl).append ((RepAll.one (T := t6) (x := 16) rfl).append ((RepAll.one (T := t6) (x := 20) rfl).append ((RepAll.one (T := t6) (x := 24) rfl).append ((RepAll.one (T := t6) (x := 32) rfl).append ((RepAll.one (T := t6) (x := 48) rfl).append (RepAll.one (T := t6) (x := 64) rfl))))))))))))))))
 exact ra1 l (.slice (sm a) ([0, 1, 2, 3, 4, 5, 6, 7, 8, 12, 16, 20, 24, 32, 48, 64] : List Int).length 16) ⟨([0, 1, 2, 3, 4, 5, 6, 7, 8, 12, 16, 20, 24, 32, 48, 64] : List Int), (sm a), 16, Z, rfl, hp, m.kp⟩
def rsizes_fun   (Z : Fz) (w : World)  (hZ : Z.on w) := fc_ (rsizes_walk   Z w  hZ (rsizes_ok ))
theorem rcheckfr_walk (u0 : Frame) (ao1 : Option Addr) (cap2 : Nat) (Z : Fz) (w : World) (hs3 : SlR t8 Z ao1 cap2 u0.Data) (hZ : Z.on w) {K : Int → Prop} (hp : rcheckfr_vc u0 K) : Calls Tryz.prog 8 #[.agg #[i6 u0.ID, .bool u0.Long, .bool u0.Fast, .bool u0.Remote, i6 u0.Size, .slice ao1 u0.Data.length cap2]] w fun e w' => ∃ r : Int, e = .returned (i6 r) ∧ K r ∧ Below w.heap.size w w' := by
 refine enter0 Tryz.func8 rfl rfl (by kernel_rfl) ?_; intro a0 ac; have ad := Mem.start w Z hZ
 have v := hp (hs3.small)
 refine sqH ?_; intro aL ae
 refine nw ac ad pb (e27Mr u0 ao1 cap2) 27 ?_; intro c a7 bq af a
 refine s1 af 2 (i6 0) ?_; intro br ag
 apply ae
 refine sqB ag a [] [] [(3, i6 2047)] ?_; intro bs ah
 refine s_ (sqB ah a [0] [] [(5, .bool u0.Long)] ?_); intro bt g
 refine c_ g v (fun _ x => ?_) fun _ C => ?_
 ·
  refine rgB g a [] [] [(3, i6 536870911)] ?_; intro bu ai
  refine t_ (s_ (sqB ai a [0, 0] [] [(14, .bool ((decide (u0.ID < 0)) || (decide (u0.ID > 536870911))))] ?_)); intro bv h
  refine c_ h x (fun _ aM => ?_) fun _ y => ?_
  ·
   refine sqB h a [] [] [(2, i6 3)] ?_; intro bw aN
   exact r_ (h_ (ra1 aN (i6 3) ⟨3, rfl, aM, a.below⟩))
  refine k_ (s_ (sqB h a [0, 0, 0] [] [(26, .bool (u0.Remote && (u0.Fast || ((u0.Data.length : Int) != 0))))] ?_)); intro bx i
  refine c_ i y (fun _ aO => ?_) fun _ z => ?_
  ·
   refine sqB i a [] [] [(2, i6 4)] ?_; intro bz aP
   exact r_ (h_ (ra1 aP (i6 4) ⟨4, rfl, aO, a.below⟩))
  refine k_ (s_ (sqB i a [0, 0, 0, 0] [] [(44, .bool (((decide (u0.Size < 0)) || (decide (u0.Size > 8))) || ((decide (u0.Size > 0)) && (!u0.Remote))))] ?_)); intro bA j
  refine c_ j z (fun _ aQ => ?_) fun _ A => ?_
  ·
   refine sqB j a [] [] [(2, i6 3)] ?_; intro bB aR
   exact r_ (h_ (ra1 aR (i6 3) ⟨3, rfl, aQ, a.below⟩))
  refine k_ (s_ (sqB j a [0, 0, 0] [] [(59, .bool ((decide ((u0.Data.length : Int) > 64)) || ((decide ((u0.Data.length : Int) > 8)) && (!u0.Fast))))] ?_)); intro aS k
  refine c_ k A (fun _ aT => ?_) fun _ B => ?_
  ·
   refine sqB k a [] [] [(2, i6 2)] ?_; intro bC aU
   exact r_ (h_ (ra1 aU (i6 2) ⟨2, rfl, aT, a.below⟩))
  refine k_ (s_ ?_)
  have aj : Fr 66 [] [⟨1, [], pt c 0⟩] aS := k.reg
  refine wp_seq (rgS mixed a [(1, true), (2, true), (3, true), (0, false), (4, false), (5, true)] [] [0] [.row c (e27Mr u0 ao1 cap2) 27] ?_)
  intro aV ak bD N
  have d := Fz.le.refl Z
  refine cS aj 3 [0] [] [(63, i6 (u0.Data.length : Int))] ?_; intro bE al
  refine eS rfl ?_; intro aW am
  refine ck al 30 #[] ?_
  refine (rsizes_fun  _ _ N.fz).mono ?_; rintro _ an ⟨ao, ap, aX, rfl, hm⟩; refine ⟨_, rfl, ?_⟩; intro bF aq; have ar := N.callZ hm; have O := hm.ext.le
  replace d := d.mono O
  have au : Mem w.heap.size [] w Z [.own t6 3 ao ap rsizes, .row c (e27Mr u0 ao1 cap2) 27] aX an := ar
  refine nl (qnI (am _ _ (au.cst d [1]) ?_))
  refine eS rfl ?_; intro aY av
  obtain ⟨aZ, P, aw, a1⟩ := au.freeze 0 rfl
  replace d := d.mono P
  have Q : Mem w.heap.size [] w Z [.row c (e27Mr u0 ao1 cap2) 27] aZ an := aw
  refine fc aq Q (scontains_fun rsizes (u0.Data.length : Int) ao ap _ _ a1 Q.fz) ?_; intro bG bH ax l
  refine nl (qnI (av _ _ (l.cst d [0]) ?_))
  refine cS ax 1 [] [] [(65, .bool (!(scontainsS rsizes (u0.Data.length : Int))))] ?_; intro bI m
  refine nS (ak _ _ ?_)
  refine t_ (c_ m B (fun _ a2 => ?_) fun _ a4 => ?_)
  ·
   refine sqB m l [] [] [(2, i6 4)] ?_; intro bJ a3
   exact r_ (h_ (ra1 a3 (i6 4) ⟨4, rfl, a2, l.below⟩))
  refine k_ (sqB m l [] [] [(2, i6 0)] ?_); intro bK a5
  exact r_ (ra1 a5 (i6 0) ⟨0, rfl, a4, l.below⟩)
 refine k_ (s_ (sqB g a [0, 0] [] [(14, .bool ((decide (u0.ID < 0)) || (decide (u0.ID > 2047))))] ?_)); intro bL n
 refine c_ n C (fun _ a6 => ?_) fun _ D => ?_
 ·
  refine sqB n a [] [] [(2, i6 3)] ?_; intro bM a8
  exact r_ (h_ (ra1 a8 (i6 3) ⟨3, rfl, a6, a.below⟩))
 refine k_ (s_ (sqB n a [0, 0, 0] [] [(26, .bool (u0.Remote && (u0.Fast || ((u0.Data.length : Int) != 0))))] ?_)); intro bN o
 refine c_ o D (fun _ a9 => ?_) fun _ E => ?_
 ·
  refine sqB o a [] [] [(2, i6 4)] ?_; intro bO ba
  exact r_ (h_ (ra1 ba (i6 4) ⟨4, rfl, a9, a.below⟩))
 refine k_ (s_ (sqB o a [0, 0, 0, 0] [] [(44, .bool (((decide (u0.Size < 0)) || (decide (u0.Size > 8))) || ((decide (u0.Size > 0)) && (!u0.Remote))))] ?_)); intro bP p
 refine c_ p E (fun _ bb => ?_) fun _ F => ?_
 ·
  refine sqB p a [] [] [(2, i6 3)] ?_; intro bQ bc
  exact r_ (h_ (ra1 bc (i6 3) ⟨3, rfl, bb, a.below⟩))
 refine k_ (s_ (sqB p a [0, 0, 0] [] [(59, .bool ((decide ((u0.Data.length : Int) > 64)) || ((decide ((u0.Data.length : Int) > 8)) && (!u0.Fast))))] ?_)); intro bd q
 refine c_ q F (fun _ be => ?_) fun _ G => ?_
 ·
  refine sqB q a [] [] [(2, i6 2)] ?_; intro bR bf
  exact r_ (h_ (ra1 bf (i6 2) ⟨2, rfl, be, a.below⟩))
 refine k_ (s_ ?_)
 have ay : Fr 66 [] [⟨1, [], pt c 0⟩] bd := q.reg
 refine wp_seq (rgS mixed a [(1, true), (2, true), (3, true), (0, false), (4, false), (5, true)] [] [0] [.row c (e27Mr u0 ao1 cap2) 27] ?_)
 intro bg az bS W
 have f := Fz.le.refl Z
 refine cS ay 3 [0] [] [(63, i6 (u0.Data.length : Int))] ?_; intro bT aA
 refine eS rfl ?_; intro bh aB
 refine ck aA 30 #[] ?_
 refine (rsizes_fun  _ _ W.fz).mono ?_; rintro _ aC ⟨aD, aE, bi, rfl, hm⟩; refine ⟨_, rfl, ?_⟩; intro bU aF; have aG := W.callZ hm; have X := hm.ext.le
 replace f := f.mono X
 have aH : Mem w.heap.size [] w Z [.own t6 3 aD aE rsizes, .row c (e27Mr u0 ao1 cap2) 27] bi aC := aG
 refine nl (qnI (aB _ _ (aH.cst f [1]) ?_))
 refine eS rfl ?_; intro bj aI
 obtain ⟨bk, Y, aJ, bl⟩ := aH.freeze 0 rfl
 replace f := f.mono Y
 have aa : Mem w.heap.size [] w Z [.row c (e27Mr u0 ao1 cap2) 27] bk aC := aJ
 refine fc aF aa (scontains_fun rsizes (u0.Data.length : Int) aD aE _ _ bl aa.fz) ?_; intro bV bW aK s
 refine nl (qnI (aI _ _ (s.cst f [0]) ?_))
 refine cS aK 1 [] [] [(65, .bool (!(scontainsS rsizes (u0.Data.length : Int))))] ?_; intro bX u
 refine nS (az _ _ ?_)
 refine t_ (c_ u G (fun _ bm => ?_) fun _ bo => ?_)
 ·
  refine sqB u s [] [] [(2, i6 4)] ?_; intro bY bn
  exact r_ (h_ (ra1 bn (i6 4) ⟨4, rfl, bm, s.below⟩))
 refine k_ (sqB u s [] [] [(2, i6 0)] ?_); intro bZ bp
 exact r_ (ra1 bp (i6 0) ⟨0, rfl, bo, s.below⟩)

theorem rthere_walk (u0 : Message) (u1 : Signal) (u2 : List Int) (ao1 : Option Addr) (cap2 : Nat) (ao4 : Option Addr) (cap5 : Nat) (Z : Fz) (w : World) (hs3 : SlR tySignal Z ao1 cap2 u0.Signals) (hs6 : SlR t8 Z ao4 cap5 u2) (hZ : Z.on w) {K : Bool → Prop} (hp : rthere_vc u0 u1 u2 K) : Calls Tryz.prog 20 #[.agg #[i6 u0.ID, .bool u0.Long, str u0.Name, i6 u0.Size, i6 u0.Chooser, .slice ao1 u0.Signals.length cap2], .agg #[str u1.Name, i6 u1.Start, i6 u1.Size, .bool u1.Back, .bool u1.Signed, i6 u1.Mul, i6 u1.Div, i6 u1.Add, i6 u1.Key], .slice ao4 u2.length cap5] w fun e w' => ∃ r : Bool, e = .returned (.bool r) ∧ K r ∧ Below w.heap.size w w' := by
 refine enter0 Tryz.func20 rfl rfl (by kernel_rfl) ?_; intro a0 F; have G := Mem.start w Z hZ
 have j := hp (hs3.small) (hs6.small)
 refine sqH ?_; intro aq I
 refine nw F G pb (e24Mr u0 ao1 cap2) 24 ?_; intro h aK aL J L
 refine nw J L pb (e46Mr u1) 46 ?_; intro f aM aN M l
 refine s1 M 6 (.bool false) ?_; intro A N
 apply I
 have n : Fr 23 [] [⟨2, [], .slice ao4 u2.length cap5⟩, ⟨3, [], pt h 0⟩, ⟨4, [], pt f 0⟩] A := N.reg
 refine e_ j (fun i ar => ?_) fun i ax => ?_
 ·
  have O : Fr 23 [] [⟨2, [], .slice ao4 u2.length cap5⟩, ⟨3, [], pt h 0⟩, ⟨4, [], pt f 0⟩] A := n.reg
  refine sqQH mixed (by kernel_rfl) l ?_; intro au P
  refine q1 O 7 (pt f 8) ?_; intro aO B
  refine ql_ B 0 8 (i6 u1.Key) rfl rfl ?_; intro aP Q
  refine q1 Q 9 (.bool (u1.Key == (-1))) ?_; intro aQ R
  have S := R.reval (d := 9) (c := []) (v := .bool (u1.Key == (-1))) (by kernel_rfl) (.bool true) (by rw [i])
  refine q1 S 10 (.bool true) ?_; intro aR U
  refine qk_ U true ?_; intro aS V
  refine qk_ V true ?_; intro aT W
  refine qk_ W true ?_; intro aU X
  refine qk_ X true ?_; intro aV Y
  refine qk_ Y true ?_; intro aW aa
  refine qk_ aa true ?_; intro aX ab
  refine qk_ ab true ?_; intro aY ac
  refine qk_ ac true ?_; intro aZ ad
  refine qk_ ad true ?_; intro a1 ae
  refine qk_ ae true ?_; intro a2 af
  refine qk_ af true ?_; intro a3 ag
  refine q1 ag 22 (.bool true) ?_; intro a4 ah
  refine q1 ah 6 (.bool true) ?_; intro a5 av
  refine qnl (P _ ?_); intro a6 aw
  exact r_ (ra1 av (.bool true) ⟨true, rfl, ar, aw.below⟩)
 have ai : Fr 23 [] [⟨2, [], .slice ao4 u2.length cap5⟩, ⟨3, [], pt h 0⟩, ⟨4, [], pt f 0⟩] A := n.reg
 refine sqQH mixed (by kernel_rfl) l ?_; intro ay aj
 refine q1 ai 7 (pt f 8) ?_; intro a7 C
 refine ql_ C 0 8 (i6 u1.Key) rfl rfl ?_; intro a8 ak
 refine q1 ak 9 (.bool (u1.Key == (-1))) ?_; intro a9 al
 have am := al.reval (d := 9) (c := []) (v := .bool (u1.Key == (-1))) (by kernel_rfl) (.bool false) (by rw [i])
 refine q1 am 10 (.bool false) ?_; intro ba o
 refine qg_ o false (pt h 5) ?_; intro bb p
 refine qst p (.slice ao1 u0.Signals.length cap2) (wK p false) rfl (by kernel_rfl) (fun v89 hC => ld p hC 1 (g := []) (b := h) (off := 5) (cs := (e24Mr u0 ao1 cap2)) (ty := 24) rfl (by kernel_rfl) (by kernel_rfl) (by kernel_rfl) (by kernel_rfl) rfl) ?_; intro bc q
 refine qg_ q false (pt h 4) ?_; intro bd s
 refine qst s (i6 u0.Chooser) (wK s false) rfl (by kernel_rfl) (fun v95 hC => ld s hC 1 (g := []) (b := h) (off := 4) (cs := (e24Mr u0 ao1 cap2)) (ty := 24) rfl (by kernel_rfl) (by kernel_rfl) (by kernel_rfl) (by kernel_rfl) rfl) ?_; intro be D
 obtain ⟨az, an⟩ := ax
 refine qix D (T := tySignal) (xs := u0.Signals) hs3 u0.Chooser az (k := .i64) (e := 46) (bytes := 72) (wK D false) rfl (by kernel_rfl) rfl (by kernel_rfl) (by kernel_rfl) (by kernel_rfl) ?_; intro bf bg aA a bh aB aC aD t
 have aE := an a aB
 obtain rfl : aA = ((e46Mr a) : List Value) := aD
 refine qst t (.agg (e46Mr a).toArray) (wK t false) rfl (by kernel_rfl) (fun v111 hC => lza t hC.fz aC 0 (g := []) (m := 9) (vs := (e46Mr a)) rfl (by kernel_rfl) (by kernel_rfl) (by kernel_rfl) (by kernel_rfl) rfl) ?_; intro bi u
 refine qg_ u false (.slice ao4 u2.length cap5) ?_; intro bj E
 obtain ⟨aF, aG⟩ := aE
 refine qcl E (i6 (getS a u2)) 34 #[.agg (e46Mr a).toArray, .slice ao4 u2.length cap5] (wK E false) rfl (by kernel_rfl) (fun _ => by kernel_rfl) (qfc fun w hC => rrawof_fun a u2 aF ao4 cap5 _ _ hs6 hC.fz) ?_; intro bk x
 refine qg_ x false (pt f 8) ?_; intro bl y
 refine qst y (i6 u1.Key) (wK y false) rfl (by kernel_rfl) (fun v125 hC => ld y hC 0 (g := []) (b := f) (off := 8) (cs := (e46Mr u1)) (ty := 46) rfl (by kernel_rfl) (by kernel_rfl) (by kernel_rfl) (by kernel_rfl) rfl) ?_; intro bm z
 refine qg_ z false (.bool ((getS a u2) == u1.Key)) ?_; intro bn ao
 refine q1 ao 22 (.bool ((getS a u2) == u1.Key)) ?_; intro bo ap
 refine q1 ap 6 (.bool ((getS a u2) == u1.Key)) ?_; intro bp aH
 refine qnl (aj _ ?_); intro bq aI
 exact r_ (ra1 aH (.bool ((getS a u2) == u1.Key)) ⟨(getS a u2) == u1.Key, rfl, aG, aI.below⟩)

end Go.Proofs.YtdndfbamhnchfaaGreatDoor
set_option linter.unusedVariables false
set_option linter.unusedSimpArgs false
set_option maxRecDepth 100000
set_option maxHeartbeats 0
namespace Go.Proofs.YtdndfbamhnchfaaGreatDoor
open Go.Sy Go.RowKit
abbrev e46Ms (X : Signal) : List Value := [str X.Name, i6 X.Start, i6 X.Size, .bool X.Back, .bool X.Signed, i6 X.Mul, i6 X.Div, i6 X.Add, i6 X.Key]
abbrev e24Ms (X : Message) (A0 : Option Addr) (C0 : Nat) : List Value := [i6 X.ID, .bool X.Long, str X.Name, i6 X.Size, i6 X.Chooser, .slice A0 X.Signals.length C0]
def rcheck_fun (u0 : Signal) (u1 : Int)  (Z : Fz) (w : World)  (hZ : Z.on w) := f_ (rcheck_walk u0 u1  Z w  hZ (rcheck_ok u0 u1))
def rover_fun (u0 : Signal) (u1 : Signal) (hpre : ((0 ≤ u0.Start ∧ u0.Start ≤ 512) ∧ 1 ≤ u0.Size ∧ u0.Size ≤ 40) ∧ (0 ≤ u1.Start ∧ u1.Start ≤ 512) ∧ 1 ≤ u1.Size ∧ u1.Size ≤ 40)  (Z : Fz) (w : World)  (hZ : Z.on w) := f_ (rover_walk u0 u1  Z w  hZ (rover_ok u0 u1 hpre))
def rcheckfr_fun (u0 : Frame) (ao1 : Option Addr) (cap2 : Nat) (Z : Fz) (w : World) (hs3 : SlR t8 Z ao1 cap2 u0.Data) (hZ : Z.on w) := f_ (rcheckfr_walk u0 ao1 cap2 Z w hs3 hZ (rcheckfr_ok u0))
def rthere_fun (u0 : Message) (u1 : Signal) (u2 : List Int) (hpre : -1 ≤ u1.Key ∧ therepre u0 u1 u2) (ao1 : Option Addr) (cap2 : Nat) (ao4 : Option Addr) (cap5 : Nat) (Z : Fz) (w : World) (hs3 : SlR tySignal Z ao1 cap2 u0.Signals) (hs6 : SlR t8 Z ao4 cap5 u2) (hZ : Z.on w) := f_ (rthere_walk u0 u1 u2 ao1 cap2 ao4 cap5 Z w hs3 hs6 hZ (rthere_ok u0 u1 u2 hpre))
theorem rcheckm_walk (u0 : Message) (ao1 : Option Addr) (cap2 : Nat) (Z : Fz) (w : World) (hs3 : SlR tySignal Z ao1 cap2 u0.Signals) (hZ : Z.on w) {K : Int → Prop} (hp : rcheckm_vc u0 K) : Calls Tryz.prog 7 #[.agg #[i6 u0.ID, .bool u0.Long, str u0.Name, i6 u0.Size, i6 u0.Chooser, .slice ao1 u0.Signals.length cap2]] w fun e w' => ∃ r : Int, e = .returned (i6 r) ∧ K r ∧ Below w.heap.size w w' := by
 refine enter0 Tryz.func7 rfl rfl (by kernel_rfl) ?_; intro a0 aZ; have a2 := Mem.start w Z hZ
 have Y := hp (hs3.small)
 refine sqH ?_; intro cK a3
 refine nw aZ a2 pb (e24Ms u0 ao1 cap2) 24 ?_; intro l a7 eS a4 aa
 refine s1 a4 2 (i6 0) ?_; intro eT a5
 apply a3
 refine s_ (sqH ?_); intro cL a6
 refine bt a5 aa 2 [0] [] [(14, str u0.Name)] ?_; intro eU a8
 refine fc a8 aa (risname_fun u0.Name _ _ aa.fz) ?_; intro eV eW a9 B
 refine s1 a9 16 (.bool (!(nameS u0.Name))) ?_; intro eX F
 apply a6
 refine cd F (t := !(nameS u0.Name)) (by kernel_rfl) (fun az => ?_) (fun az => ?_)
 · -- yes
  have cM := Y.1 az
  refine sqB F B [] [] [(2, i6 1)] ?_; intro eY cN
  exact r_ (h_ (ra1 cN (i6 1) ⟨1, rfl, cM, B.below⟩))
 · -- no
  have ab := Y.2 az
  refine k_ (s_ (sqH ?_)); intro cO ba
  refine bt F B 5 [0, 0] [] [(21, .agg #[i6 u0.ID, .bool u0.Long, .bool false, .bool false, i6 0, .slice none 0 0])] ?_; intro eZ bb
  refine fc bb B (rcheckfr_fun (⟨u0.ID, u0.Long, false, false, 0, []⟩ : Frame) none 0 _ _ (SlR.nil _ _) B.fz) ?_; intro e0 e1 bc o
  refine s1 bc 3 (i6 (fcheckfr (⟨u0.ID, u0.Long, false, false, 0, []⟩ : Frame))) ?_; intro e2 bd
  apply ba
  refine sqB bd o [] [] [(24, .bool ((fcheckfr (⟨u0.ID, u0.Long, false, false, 0, []⟩ : Frame)) != 0))] ?_; intro e3 G
  refine cd G (t := (fcheckfr (⟨u0.ID, u0.Long, false, false, 0, []⟩ : Frame)) != 0) (by kernel_rfl) (fun aA => ?_) (fun aA => ?_)
  · -- yes
   have cP := ab.1 aA
   refine sqB G o [] [] [(2, i6 (fcheckfr (⟨u0.ID, u0.Long, false, false, 0, []⟩ : Frame)))] ?_; intro e4 cQ
   exact r_ (h_ (ra1 cQ (i6 (fcheckfr (⟨u0.ID, u0.Long, false, false, 0, []⟩ : Frame))) ⟨(fcheckfr (⟨u0.ID, u0.Long, false, false, 0, []⟩ : Frame)), rfl, cP, o.below⟩))
  · -- no
   have ac := ab.2 aA
   refine k_ (s_ (sqB G o [0, 0] [] [(33, .bool ((decide (u0.Size < 0)) || (decide (u0.Size > 8))))] ?_)); intro e5 H
   refine cd H (t := (decide (u0.Size < 0)) || (decide (u0.Size > 8))) (by kernel_rfl) (fun aB => ?_) (fun aB => ?_)
   · -- yes
    have cR := ac.1 aB
    refine sqB H o [] [] [(2, i6 3)] ?_; intro e6 cS
    exact r_ (h_ (ra1 cS (i6 3) ⟨3, rfl, cR, o.below⟩))
   · -- no
    have ad := ac.2 aB
    refine k_ (s_ (sqB H o [0] [] [(37, .bool (decide ((u0.Signals.length : Int) > 16)))] ?_)); intro e7 I
    refine cd I (t := decide ((u0.Signals.length : Int) > 16)) (by kernel_rfl) (fun aC => ?_) (fun aC => ?_)
    · -- yes
     have cT := ad.1 aC
     refine sqB I o [] [] [(2, i6 2)] ?_; intro e8 cU
     exact r_ (h_ (ra1 cU (i6 2) ⟨2, rfl, cT, o.below⟩))
    · -- no
     have cV := ad.2 aC
     refine k_ (s_ (sqB I o [0] [] [(39, .slice ao1 u0.Signals.length cap2), (40, i6 (u0.Signals.length : Int)), (41, i6 0)] ?_)); intro be bf
     apply b_
     have bg : Fr 138 [] [⟨1, [], pt l 0⟩, ⟨39, [], .slice ao1 u0.Signals.length cap2⟩, ⟨40, [], i6 (u0.Signals.length : Int)⟩, ⟨41, [], i6 0⟩] be := bf.reg
     obtain ⟨cW, cX, cY, cZ⟩ := cV
     refine lp (ι := Int) (fun s => [⟨1, [], pt l 0⟩, ⟨39, [], .slice ao1 u0.Signals.length cap2⟩, ⟨40, [], i6 (u0.Signals.length : Int)⟩, ⟨41, [], i6 s⟩]) (fun s => [.row l (e24Ms u0 ao1 cap2) 24]) (fun s => Z) (fun s => cW s) (fun s => cX s) 0 cY (by exact bg.region (by kernel_rfl) (by kernel_rfl)) (by exact o) ?_
     rintro h c0 c1 c2 bi bj
     have ae := cZ h c0
     refine sqB bi bj [] [] [(42, .bool (decide (h < (u0.Signals.length : Int))))] ?_; intro bl J
     apply s_
     refine cd J (t := decide (h < (u0.Signals.length : Int))) (by kernel_rfl) (fun aD => ?_) (fun aD => ?_)
     · -- yes
      have c3 := ae.1 aD
      apply k_
      have bm : Fr 138 [] [⟨1, [], pt l 0⟩, ⟨39, [], .slice ao1 u0.Signals.length cap2⟩, ⟨40, [], i6 (u0.Signals.length : Int)⟩, ⟨41, [], i6 h⟩] bl := J.reg
      obtain ⟨c4, c5, c6⟩ := c3
      refine wp_seq_k fun KJ132 hKJ133 => ?_
      have c7 : ∀ (_u : Unit), c4 → ∀ a1 w1, Fr 138 [] [⟨1, [], pt l 0⟩, ⟨39, [], .slice ao1 u0.Signals.length cap2⟩, ⟨40, [], i6 (u0.Signals.length : Int)⟩, ⟨41, [], i6 h⟩] a1 → Mem w.heap.size [] w Z [.row l (e24Ms u0 ao1 cap2) 24] Z w1 → KJ132 a1 w1 := by
       rintro _u c8 e9 fa bn bo
       refine hKJ133 _ _ ?_
       have bp := c6  c8
       refine rgB bn bo [] [] [(41, i6 (w64 (h + 1)))] ?_; intro fb c9
       exact d_ ⟨w64 (h + 1), bp.1, bp.2, (c9.region (by kernel_rfl) (by kernel_rfl)).anyβ _ (by kernel_rfl), bo.kp⟩
      refine b_ (sqH ?_); intro da bq
      refine s1 bm 43 (i6 h) ?_; intro fd br
      obtain ⟨db, bs⟩ := c5
      refine ix_ br hs3 h db .i64 46 72 ?_; intro fe ff dc a fg dd de df bu
      have af := bs a dd
      obtain rfl : dc = ((e46Ms a) : List Value) := df
      refine z2 bu bj 45 de 0 9 (e46Ms a) rfl ?_; intro fh bv
      refine nw bv bj pb [str [], i6 0, i6 0, .bool false, .bool false, i6 0, i6 0, i6 0, i6 0] 46 ?_; intro p fi fj bw bx
      refine s1 bw 4 (i6 h) ?_; intro fk aF
      refine sx aF bx 0 (e46Ms a) 0 ?_; intro dg bz
      have ag : Mem w.heap.size [] w Z [.row p (e46Ms a) 46, .row l (e24Ms u0 ao1 cap2) 24] Z dg := bz
      apply bq
      refine s_ (sqH ?_); intro dh bA
      refine bt aF ag 3 [0, 1] [] [(46, .agg (e46Ms a).toArray), (48, i6 u0.Size)] ?_; intro fl bB
      refine fc bB ag (rcheck_fun a u0.Size _ _ ag.fz) ?_; intro fm fn bC y
      refine s1 bC 6 (i6 (checkS a u0.Size)) ?_; intro fo bD
      apply bA
      refine sqB bD y [] [] [(51, .bool ((checkS a u0.Size) != 0))] ?_; intro fp L
      refine cd L (t := (checkS a u0.Size) != 0) (by kernel_rfl) (fun aG => ?_) (fun aG => ?_)
      · -- yes
       have di := af.1 aG
       refine sqB L y [] [] [(2, i6 (checkS a u0.Size))] ?_; intro fq dj
       exact r_ (h_ (i_ (h_ (h_ (i_ (h_ (ra1 dj (i6 (checkS a u0.Size)) ⟨(checkS a u0.Size), rfl, di, y.below⟩)))))))
      · -- no
       have dk := af.2 aG
       refine k_ (sqH ?_); intro dl bE
       refine bt L y 3 [1] [] [(54, .slice ao1 u0.Signals.length cap2), (55, i6 h)] ?_; intro fr bF
       obtain ⟨dm, dn⟩ := dk
       refine slH bF (T := tySignal) (xs := u0.Signals) hs3 h dm (k' := .i64) (e := 46) (bytes := 72) (nog rfl _) rfl (by kernel_rfl) rfl (by kernel_rfl) (by kernel_rfl) (by kernel_rfl) ?_; intro z A fs ft dp bG
       refine bt bG y 2 [] [] [(57, i6 ((u0.Signals.take h.toNat).length : Int)), (58, i6 0)] ?_; intro bH bI
       apply bE
       apply b_
       have bJ : Fr 138 [] [⟨1, [], pt l 0⟩, ⟨5, [], pt p 0⟩, ⟨39, [], .slice ao1 u0.Signals.length cap2⟩, ⟨40, [], i6 (u0.Signals.length : Int)⟩, ⟨41, [], i6 h⟩, ⟨56, [], .slice z (u0.Signals.take h.toNat).length A⟩, ⟨57, [], i6 ((u0.Signals.take h.toNat).length : Int)⟩, ⟨58, [], i6 0⟩] bH := bI.reg
       obtain ⟨dq, dr, ds, dt⟩ := dn
       refine lp (ι := Int) (fun s => [⟨1, [], pt l 0⟩, ⟨5, [], pt p 0⟩, ⟨39, [], .slice ao1 u0.Signals.length cap2⟩, ⟨40, [], i6 (u0.Signals.length : Int)⟩, ⟨41, [], i6 h⟩, ⟨56, [], .slice z (u0.Signals.take h.toNat).length A⟩, ⟨57, [], i6 ((u0.Signals.take h.toNat).length : Int)⟩, ⟨58, [], i6 s⟩]) (fun s => [.row p (e46Ms a) 46, .row l (e24Ms u0 ao1 cap2) 24]) (fun s => Z) (fun s => dq s) (fun s => dr s) 0 ds (by exact bJ.region (by kernel_rfl) (by kernel_rfl)) (by exact y) ?_
       rintro q du dv dw bL bM
       have ah := dt q du
       refine sqB bL bM [] [] [(59, .bool (decide (q < ((u0.Signals.take h.toNat).length : Int))))] ?_; intro bO ai
       apply s_
       refine cd ai (t := decide (q < ((u0.Signals.take h.toNat).length : Int))) (by kernel_rfl) (fun aH => ?_) (fun aH => ?_)
       · -- yes
        have dx := ah.1 aH
        apply k_
        have bP : Fr 138 [] [⟨1, [], pt l 0⟩, ⟨5, [], pt p 0⟩, ⟨39, [], .slice ao1 u0.Signals.length cap2⟩, ⟨40, [], i6 (u0.Signals.length : Int)⟩, ⟨41, [], i6 h⟩, ⟨56, [], .slice z (u0.Signals.take h.toNat).length A⟩, ⟨57, [], i6 ((u0.Signals.take h.toNat).length : Int)⟩, ⟨58, [], i6 q⟩] bO := ai.reg
        obtain ⟨dy, dz, dA⟩ := dx
        refine wp_seq_k fun KJ242 hKJ243 => ?_
        have bQ : ∀ (_u : Unit), dy → ∀ a1 w1, Fr 138 [] [⟨1, [], pt l 0⟩, ⟨5, [], pt p 0⟩, ⟨39, [], .slice ao1 u0.Signals.length cap2⟩, ⟨40, [], i6 (u0.Signals.length : Int)⟩, ⟨41, [], i6 h⟩, ⟨56, [], .slice z (u0.Signals.take h.toNat).length A⟩, ⟨57, [], i6 ((u0.Signals.take h.toNat).length : Int)⟩, ⟨58, [], i6 q⟩] a1 → Mem w.heap.size [] w Z [.row p (e46Ms a) 46, .row l (e24Ms u0 ao1 cap2) 24] Z w1 → KJ242 a1 w1 := by
         rintro _u dB fu fv bR bS
         refine hKJ243 _ _ ?_
         have bT := dA  dB
         refine rgB bR bS [] [] [(58, i6 (w64 (q + 1)))] ?_; intro fw dC
         exact d_ ⟨w64 (q + 1), bT.1, bT.2, (dC.region (by kernel_rfl) (by kernel_rfl)).anyβ _ (by kernel_rfl), bS.kp⟩
        refine b_ (sqH ?_); intro dD bU
        obtain ⟨dE, bV⟩ := dz
        refine ix_ bP dp q dE .i64 46 72 ?_; intro fx fy dF f fA dG dH dI bW
        have aj := bV f dG
        obtain rfl : dF = ((e46Ms f) : List Value) := dI
        refine z2 bW bM 61 dH 0 9 (e46Ms f) rfl ?_; intro fB bX
        refine nw bX bM pb [str [], i6 0, i6 0, .bool false, .bool false, i6 0, i6 0, i6 0, i6 0] 46 ?_; intro dJ fC fD aJ bY
        refine sx aJ bY 0 (e46Ms f) 0 ?_; intro dK bZ
        have u : Mem w.heap.size [] w Z [.row dJ (e46Ms f) 46, .row p (e46Ms a) 46, .row l (e24Ms u0 ao1 cap2) 24] Z dK := bZ
        apply bU
        refine s_ (sqB aJ u [1, 0] [204] [(66, .bool (a.Name == f.Name))] ?_); intro fE M
        refine cd M (t := a.Name == f.Name) (by kernel_rfl) (fun aK => ?_) (fun aK => ?_)
        · -- yes
         have dL := aj.1 aK
         refine sqB M u [] [] [(2, i6 9)] ?_; intro fF dM
         exact r_ (h_ (i_ (h_ (h_ (i_ (i_ (h_ (h_ (i_ (h_ (ra1 dM (i6 9) ⟨9, rfl, dL, u.below⟩)))))))))))
        · -- no
         have ak := aj.2 aK
         refine k_ (sqH ?_); intro b0 al
         refine bt M u 17 [1, 0, 1, 0] [] [(83, .bool (!(((decide (a.Key ≥ 0)) && (decide (f.Key ≥ 0))) && (a.Key != f.Key))))] ?_; intro fG am
         rcases Bool.eq_false_or_eq_true (!(((decide (a.Key ≥ 0)) && (decide (f.Key ≥ 0))) && (a.Key != f.Key))) with N | N
         · -- true
          have dN := ak.1 N
          have b1 := am.reval (d := 83) (c := []) (v := .bool (!(((decide (a.Key ≥ 0)) && (decide (f.Key ≥ 0))) && (a.Key != f.Key)))) (by kernel_rfl) (.bool true) (by rw [N])
          refine bt b1 u 2 [1, 0] [84, 85] [(84, .agg (e46Ms a).toArray), (85, .agg (e46Ms f).toArray)] ?_; intro fH aL
          obtain ⟨dO, an⟩ := dN
          refine fcl aL u (.bool (roverS a f)) 28 #[.agg (e46Ms a).toArray, .agg (e46Ms f).toArray] (wK aL true) rfl (by kernel_rfl) (fun _ => by kernel_rfl) (rover_fun a f dO _ _ u.fz) ?_; intro fI fJ b2 aM
          refine s1 b2 87 (.bool (roverS a f)) ?_; intro fK ao
          apply al
          refine cd ao (t := (roverS a f)) (by kernel_rfl) (fun aN => ?_) (fun aN => ?_)
          · -- yes
           have dP := an.1 aN
           refine sqB ao aM [] [] [(2, i6 10)] ?_; intro fL dQ
           exact r_ (i_ (h_ (h_ (i_ (i_ (h_ (h_ (i_ (h_ (ra1 dQ (i6 10) ⟨10, rfl, dP, aM.below⟩))))))))))
          · -- no
           have dR := an.2 aN
           exact l_ (j_ (d_ (bQ () dR _ _ ((ao.region (by kernel_rfl) (by kernel_rfl)).anyβ _ (by kernel_rfl)) (aM.kp))))
         · -- false
          have dS := ak.2 N
          have b3 := am.reval (d := 83) (c := []) (v := .bool (!(((decide (a.Key ≥ 0)) && (decide (f.Key ≥ 0))) && (a.Key != f.Key)))) (by kernel_rfl) (.bool false) (by rw [N])
          refine bt b3 u 4 [] [84, 85, 86, 87] [(87, .bool false)] ?_; intro fM b4
          apply al
          refine cdF b4 (by kernel_rfl) ?_
          exact l_ (j_ (d_ (bQ () dS _ _ ((b4.region (by kernel_rfl) (by kernel_rfl)).anyβ _ (by kernel_rfl)) (u.kp))))
       · -- no
        have dT := ah.2 aH
        exact x_ (y_ (y_ (z_ (j_ (d_ (c7 () dT _ _ ((ai.region (by kernel_rfl) (by kernel_rfl)).anyβ _ (by kernel_rfl)) (bM.kp)))))))
     · -- no
      have ap := ae.2 aD
      refine x_ (y_ (y_ (z_ (t_ (s_ (sqB J bj [0, 0, 0] [] [(100, .bool ((decide (u0.Chooser < (-1))) || (decide (u0.Chooser ≥ (u0.Signals.length : Int)))))] ?_)))))); intro fN O
      refine cd O (t := (decide (u0.Chooser < (-1))) || (decide (u0.Chooser ≥ (u0.Signals.length : Int)))) (by kernel_rfl) (fun aO => ?_) (fun aO => ?_)
      · -- yes
       have dU := ap.1 aO
       refine sqB O bj [] [] [(2, i6 8)] ?_; intro fO dV
       exact r_ (h_ (ra1 dV (i6 8) ⟨8, rfl, dU, bj.below⟩))
      · -- no
       have aq := ap.2 aO
       refine k_ (sqB O bj [] [] [(9, i6 (-1))] ?_); intro fP b5
       refine s_ (sqB b5 bj [0] [] [(103, .bool (decide (u0.Chooser ≥ 0)))] ?_); intro fQ P
       refine cd P (t := decide (u0.Chooser ≥ 0)) (by kernel_rfl) (fun aP => ?_) (fun aP => ?_)
       · -- yes
        have dW := aq.1 aP
        refine sqH ?_; intro dX b7
        refine bt P bj 4 [0, 0] [] [(105, .slice ao1 u0.Signals.length cap2), (107, i6 u0.Chooser)] ?_; intro fR b8
        obtain ⟨dY, b9⟩ := dW
        refine ix_ b8 hs3 u0.Chooser dY .i64 46 72 ?_; intro fS fT dZ b fU d0 d1 d2 ca
        have ar := b9 b d0
        obtain rfl : dZ = ((e46Ms b) : List Value) := d2
        refine z2 ca bj 109 d1 0 9 (e46Ms b) rfl ?_; intro fV cb
        refine nw cb bj pb [str [], i6 0, i6 0, .bool false, .bool false, i6 0, i6 0, i6 0, i6 0] 46 ?_; intro au fW fX aQ cc
        refine sx aQ cc 0 (e46Ms b) 0 ?_; intro d3 ce
        have x : Mem w.heap.size [] w Z [.row au (e46Ms b) 46, .row l (e24Ms u0 ao1 cap2) 24] Z d3 := ce
        apply b7
        refine s_ (sqB aQ x [0, 0, 0] [] [(121, .bool ((b.Signed || (b.Key != (-1))) || (decide (b.Size > 8))))] ?_); intro fY Q
        refine cd Q (t := (b.Signed || (b.Key != (-1))) || (decide (b.Size > 8))) (by kernel_rfl) (fun aR => ?_) (fun aR => ?_)
        · -- yes
         have d4 := ar.1 aR
         refine sqB Q x [] [] [(2, i6 4)] ?_; intro fZ d5
         exact r_ (h_ (h_ (ra1 d5 (i6 4) ⟨4, rfl, d4, x.below⟩)))
        · -- no
         have d6 := ar.2 aR
         refine k_ (rgH ?_); intro d7 cf
         refine bt Q x 2 [0] [] [(123, i6 b.Size)] ?_; intro f0 aS
         obtain ⟨d8, d9⟩ := d6
         refine u_ aS (i6 (bShl .i64 1 b.Size)) (shl_run aS (g := []) (k' := .i64) rfl (by kernel_rfl) (by kernel_rfl) d8 rfl) ?_; intro f1 cg
         refine bt cg x 2 [] [] [(9, i6 (w64 ((bShl .i64 1 b.Size) - 1)))] ?_; intro f2 ch
         apply cf
         refine t_ (s_ (sqB ch x [1] [] [(127, .slice ao1 u0.Signals.length cap2), (128, i6 (u0.Signals.length : Int)), (129, i6 0)] ?_)); intro ci cj
         apply b_
         have ck : Fr 138 [] [⟨9, [], i6 (w64 ((bShl .i64 1 b.Size) - 1))⟩, ⟨127, [], .slice ao1 u0.Signals.length cap2⟩, ⟨128, [], i6 (u0.Signals.length : Int)⟩, ⟨129, [], i6 0⟩] ci := cj.reg
         obtain ⟨ea, eb, ec, ed⟩ := d9
         refine lp (ι := Int) (fun s => [⟨9, [], i6 (w64 ((bShl .i64 1 b.Size) - 1))⟩, ⟨127, [], .slice ao1 u0.Signals.length cap2⟩, ⟨128, [], i6 (u0.Signals.length : Int)⟩, ⟨129, [], i6 s⟩]) (fun s => [.row au (e46Ms b) 46, .row l (e24Ms u0 ao1 cap2) 24]) (fun s => Z) (fun s => ea s) (fun s => eb s) 0 ec (by exact ck.region (by kernel_rfl) (by kernel_rfl)) (by exact x) ?_
         rintro n ee ef eg cm cn
         have av := ed n ee
         refine sqB cm cn [] [] [(130, .bool (decide (n < (u0.Signals.length : Int))))] ?_; intro f3 R
         apply s_
         refine cd R (t := decide (n < (u0.Signals.length : Int))) (by kernel_rfl) (fun aT => ?_) (fun aT => ?_)
         · -- yes
          have eh := av.1 aT
          refine k_ (s_ (b_ (sqH ?_))); intro ei cp
          obtain ⟨ej, cq⟩ := eh
          refine ix_ R hs3 n ej .i64 46 72 ?_; intro f4 f5 ek i f6 el em en cr
          have aw := cq i el
          obtain rfl : ek = ((e46Ms i) : List Value) := en
          refine z2 cr cn 132 em 0 9 (e46Ms i) rfl ?_; intro f7 cs
          refine nw cs cn pb [str [], i6 0, i6 0, .bool false, .bool false, i6 0, i6 0, i6 0, i6 0] 46 ?_; intro eo f8 f9 aU ct
          refine sx aU ct 0 (e46Ms i) 0 ?_; intro ep cu
          have S : Mem w.heap.size [] w Z [.row eo (e46Ms i) 46, .row au (e46Ms b) 46, .row l (e24Ms u0 ao1 cap2) 24] Z ep := cu
          apply cp
          refine sqB aU S [0] [] [(136, .bool (decide (i.Key > (w64 ((bShl .i64 1 b.Size) - 1)))))] ?_; intro ga U
          refine cd U (t := decide (i.Key > (w64 ((bShl .i64 1 b.Size) - 1)))) (by kernel_rfl) (fun aV => ?_) (fun aV => ?_)
          · -- yes
           have eq := aw.1 aV
           refine sqB U S [] [] [(2, i6 4)] ?_; intro gb er
           exact r_ (i_ (h_ (h_ (i_ (h_ (ra1 er (i6 4) ⟨4, rfl, eq, S.below⟩))))))
          · -- no
           have cv := aw.2 aV
           refine l_ (j_ (t_ (rgB U S [] [] [(129, i6 (w64 (n + 1)))] ?_))); intro gc es
           exact d_ ⟨w64 (n + 1), cv.1, cv.2, (es.region (by kernel_rfl) (by kernel_rfl)).anyβ _ (by kernel_rfl), S.kp⟩
         · -- no
          have et := av.2 aT
          refine x_ (y_ (y_ (z_ (t_ (sqB R cn [] [] [(2, i6 0)] ?_))))); intro gd eu
          exact r_ (ra1 eu (i6 0) ⟨0, rfl, et, cn.below⟩)
       · -- no
        have ev := aq.2 aP
        refine k_ (s_ (sqB P bj [0] [] [(127, .slice ao1 u0.Signals.length cap2), (128, i6 (u0.Signals.length : Int)), (129, i6 0)] ?_)); intro cw cx
        apply b_
        have cy : Fr 138 [] [⟨9, [], i6 (-1)⟩, ⟨127, [], .slice ao1 u0.Signals.length cap2⟩, ⟨128, [], i6 (u0.Signals.length : Int)⟩, ⟨129, [], i6 0⟩] cw := cx.reg
        obtain ⟨ew, ex, ey, ez⟩ := ev
        refine lp (ι := Int) (fun s => [⟨9, [], i6 (-1)⟩, ⟨127, [], .slice ao1 u0.Signals.length cap2⟩, ⟨128, [], i6 (u0.Signals.length : Int)⟩, ⟨129, [], i6 s⟩]) (fun s => [.row l (e24Ms u0 ao1 cap2) 24]) (fun s => Z) (fun s => ew s) (fun s => ex s) 0 ey (by exact cy.region (by kernel_rfl) (by kernel_rfl)) (by exact bj) ?_
        rintro n eA eB eC cA cB
        have ax := ez n eA
        refine sqB cA cB [] [] [(130, .bool (decide (n < (u0.Signals.length : Int))))] ?_; intro ge V
        apply s_
        refine cd V (t := decide (n < (u0.Signals.length : Int))) (by kernel_rfl) (fun aW => ?_) (fun aW => ?_)
        · -- yes
         have eD := ax.1 aW
         refine k_ (s_ (b_ (sqH ?_))); intro eE cD
         obtain ⟨eF, cE⟩ := eD
         refine ix_ V hs3 n eF .i64 46 72 ?_; intro gf gg eG j gh eH eI eJ cF
         have ay := cE j eH
         obtain rfl : eG = ((e46Ms j) : List Value) := eJ
         refine z2 cF cB 132 eI 0 9 (e46Ms j) rfl ?_; intro gi cG
         refine nw cG cB pb [str [], i6 0, i6 0, .bool false, .bool false, i6 0, i6 0, i6 0, i6 0] 46 ?_; intro eK gj gk aX cH
         refine sx aX cH 0 (e46Ms j) 0 ?_; intro eL cI
         have W : Mem w.heap.size [] w Z [.row eK (e46Ms j) 46, .row l (e24Ms u0 ao1 cap2) 24] Z eL := cI
         apply cD
         refine sqB aX W [0] [] [(136, .bool (decide (j.Key > (-1))))] ?_; intro gl X
         refine cd X (t := decide (j.Key > (-1))) (by kernel_rfl) (fun aY => ?_) (fun aY => ?_)
         · -- yes
          have eM := ay.1 aY
          refine sqB X W [] [] [(2, i6 4)] ?_; intro gm eN
          exact r_ (i_ (h_ (h_ (i_ (h_ (ra1 eN (i6 4) ⟨4, rfl, eM, W.below⟩))))))
         · -- no
          have cJ := ay.2 aY
          refine l_ (j_ (t_ (rgB X W [] [] [(129, i6 (w64 (n + 1)))] ?_))); intro gn eO
          exact d_ ⟨w64 (n + 1), cJ.1, cJ.2, (eO.region (by kernel_rfl) (by kernel_rfl)).anyβ _ (by kernel_rfl), W.kp⟩
        · -- no
         have eP := ax.2 aW
         refine x_ (y_ (y_ (z_ (t_ (sqB V cB [] [] [(2, i6 0)] ?_))))); intro go eQ
         exact r_ (ra1 eQ (i6 0) ⟨0, rfl, eP, cB.below⟩)

end Go.Proofs.YtdndfbamhnchfaaGreatDoor
set_option linter.unusedVariables false
set_option linter.unusedSimpArgs false
set_option maxRecDepth 100000
set_option maxHeartbeats 0
namespace Go.Proofs.YtdndfbamhnchfaaGreatDoor
open Go.Sy Go.RowKit
theorem gtrim_walk (u0 : List Int) (ao1 : Option Addr) (cap2 : Nat) (Z : Fz) (w : World) (hs3 : SlR (tyInt .u32) Z ao1 cap2 u0) (hZ : Z.on w) {K : (List Int) → Prop} (hp : gtrim_vc u0 K) : Calls Tryz.prog 105 #[.slice ao1 u0.length cap2] w fun e w' => ∃ (r : (List Int)) (ao1001 : Option Addr) (cap1002 : Nat) (Z' : Fz), e = .returned (.slice ao1001 r.length cap1002) ∧ K r ∧ SlR (tyInt .u32) Z' ao1001 cap1002 r ∧ Mem w.heap.size [] w Z [] Z' w' := by
 refine enter0 Tryz.func105 rfl rfl (by kernel_rfl) ?_; intro a0 C; have j := Mem.start w Z hZ
 have aa := hp (hs3.small)
 refine sqB C j [] [] [] ?_; intro a6 D
 refine sqB D j [] [] [(3, i6 (u0.length : Int))] ?_; intro E F
 refine s_ (b_ ?_)
 have G : Fr 21 [] [⟨0, [], .slice ao1 u0.length cap2⟩, ⟨3, [], i6 (u0.length : Int)⟩] E := F.reg
 obtain ⟨ab, ac, ad, ae⟩ := aa
 refine lp (ι := Int) (fun s => [⟨0, [], .slice ao1 u0.length cap2⟩, ⟨3, [], i6 s⟩]) (fun s => []) (fun s => Z) (fun s => ab s) (fun s => ac s) (u0.length : Int) ad (by exact G.region (by kernel_rfl) (by kernel_rfl)) (by exact j) ?_
 rintro a af ag ah I J
 have l := ae a af
 refine s_ (sqH ?_); intro M m
 refine bt I J 3 [] [] [(8, .bool (decide (a > 0)))] ?_; intro aE n
 rcases Bool.eq_false_or_eq_true (decide (a > 0)) with f | f
 · -- true
  have ai := l.1 f
  have N := n.reval (d := 8) (c := []) (v := .bool (decide (a > 0))) (by kernel_rfl) (.bool true) (by rw [f])
  refine bt N J 3 [] [9, 10, 11] [(9, .slice ao1 u0.length cap2), (11, i6 (w64 (a - 1)))] ?_; intro aF q
  obtain ⟨aj, O⟩ := ai
  refine ix q (T := (tyInt .u32)) (xs := u0) hs3 (w64 (a - 1)) aj (k := .i64) (e := 105) (bytes := 4) (wK q true) rfl (by kernel_rfl) rfl (by kernel_rfl) (by kernel_rfl) (by kernel_rfl) ?_; intro aG aH ak h aI al am an o
  have p := O h al
  obtain rfl : ak = ([.int .u32 h] : List Value) := an
  refine v_ o (.int .u32 h) (wK o true) (lz o J.fz am 0 (g := []) rfl (by kernel_rfl) (by kernel_rfl) (by kernel_rfl) rfl) ?_; intro aJ P
  refine bt P J 2 [] [14, 15] [(15, .bool (h == 0))] ?_; intro aK i
  apply m
  refine cd i (t := h == 0) (by kernel_rfl) (fun u => ?_) (fun u => ?_)
  · -- yes
   have Q := p.1 u
   refine k_ (b_ (rgB i J [] [] [(3, i6 (w64 (a - 1)))] ?_)); intro aL ao
   exact j_ (d_ ⟨w64 (a - 1), Q.1, Q.2, (ao.region (by kernel_rfl) (by kernel_rfl)).anyβ _ (by kernel_rfl), J.kp⟩)
  · -- no
   have ap := p.2 u
   refine x_ (y_ (y_ (z_ (t_ (sqH ?_))))); intro aq R
   refine bt i J 2 [] [] [(18, .slice ao1 u0.length cap2), (19, i6 a)] ?_; intro aM S
   obtain ⟨ar, au⟩ := ap
   refine slH S (T := (tyInt .u32)) (xs := u0) hs3 a ar (k' := .i64) (e := 105) (bytes := 4) (nog rfl _) rfl (by kernel_rfl) rfl (by kernel_rfl) (by kernel_rfl) (by kernel_rfl) ?_; intro x y aN aO av U
   refine s1 U 2 (.slice x (u0.take a.toNat).length y) ?_; intro aP aw
   apply R
   exact r_ (ra1 aw (.slice x (u0.take a.toNat).length y) ⟨u0.take a.toNat, x, y, Z, rfl, au, av, J.kp⟩)
 · -- false
  have ax := l.2 f
  have V := n.reval (d := 8) (c := []) (v := .bool (decide (a > 0))) (by kernel_rfl) (.bool false) (by rw [f])
  refine bt V J 7 [] [9, 10, 11, 12, 13, 14, 15] [(15, .bool false)] ?_; intro aQ z
  apply m
  refine cdF z (by kernel_rfl) ?_
  refine x_ (y_ (y_ (z_ (t_ (sqH ?_))))); intro ay W
  refine bt z J 2 [] [] [(18, .slice ao1 u0.length cap2), (19, i6 a)] ?_; intro aR X
  obtain ⟨az, aA⟩ := ax
  refine slH X (T := (tyInt .u32)) (xs := u0) hs3 a az (k' := .i64) (e := 105) (bytes := 4) (nog rfl _) rfl (by kernel_rfl) rfl (by kernel_rfl) (by kernel_rfl) (by kernel_rfl) ?_; intro A B aS aT aB Y
  refine s1 Y 2 (.slice A (u0.take a.toNat).length B) ?_; intro aU aC
  apply W
  exact r_ (ra1 aC (.slice A (u0.take a.toNat).length B) ⟨u0.take a.toNat, A, B, Z, rfl, aA, aB, J.kp⟩)

theorem gplain_walk (u0 : List Int) (ao1 : Option Addr) (cap2 : Nat) (Z : Fz) (w : World) (hs3 : SlR (tyInt .u32) Z ao1 cap2 u0) (hZ : Z.on w) {K : Int → Prop} (hp : gplain_vc u0 K) : Calls Tryz.prog 129 #[.slice ao1 u0.length cap2] w fun e w' => ∃ r : Int, e = .returned (y6 r) ∧ K r ∧ Below w.heap.size w w' := by
 refine enter0 Tryz.func129 rfl rfl (by kernel_rfl) ?_; intro a0 p; have a := Mem.start w Z hZ
 have i := hp (hs3.small)
 refine sqB p a [] [] [] ?_; intro a6 q
 refine sqB q a [] [] [(3, y6 0)] ?_; intro a9 s
 refine s_ (sqB s a [] [] [(6, .bool (decide ((u0.length : Int) > 0)))] ?_); intro aw f
 refine cd f (t := decide ((u0.length : Int) > 0)) (by kernel_rfl) (fun m => ?_) (fun m => ?_)
 · -- yes
  have O := i.1 m
  refine rgH ?_; intro P u
  refine s1 f 7 (.slice ao1 u0.length cap2) ?_; intro ax v
  obtain ⟨Q, x⟩ := O
  refine ix_ v hs3 (0 : Int) Q .i64 105 4 ?_; intro ay az R b aA S U V y
  have j := x b S
  obtain rfl : R = ([.int .u32 b] : List Value) := V
  refine z1 y a 9 U 0 (.int .u32 b) rfl ?_; intro aB z
  refine bt z a 2 [] [] [(3, y6 (wu64 b))] ?_; intro aC A
  apply u
  refine t_ (s_ (sqB A a [] [] [(13, .bool (decide ((u0.length : Int) > 1)))] ?_)); intro aD g
  refine cd g (t := decide ((u0.length : Int) > 1)) (by kernel_rfl) (fun n => ?_) (fun n => ?_)
  · -- yes
   have W := j.1 n
   refine rgH ?_; intro X B
   refine bt g a 2 [] [] [(14, y6 (wu64 b)), (15, .slice ao1 u0.length cap2)] ?_; intro aE C
   obtain ⟨Y, D⟩ := W
   refine ix_ C hs3 (1 : Int) Y .i64 105 4 ?_; intro aF aG aa c aH ab ac ad E
   have ae := D c ab
   obtain rfl : aa = ([.int .u32 c] : List Value) := ad
   refine z1 E a 17 ac 0 (.int .u32 c) rfl ?_; intro aI F
   refine bt F a 4 [] [] [(3, y6 (bOr .u64 (wu64 b) (bShl .u64 (wu64 c) 32)))] ?_; intro aJ G
   apply B
   refine t_ (sqB G a [] [] [(2, y6 (bOr .u64 (wu64 b) (bShl .u64 (wu64 c) 32)))] ?_); intro aK af
   exact r_ (ra1 af (y6 (bOr .u64 (wu64 b) (bShl .u64 (wu64 c) 32))) ⟨bOr .u64 (wu64 b) (bShl .u64 (wu64 c) 32), rfl, ae, a.below⟩)
  · -- no
   have ag := j.2 n
   refine k_ (sqB g a [] [] [(2, y6 (wu64 b))] ?_); intro aL ah
   exact r_ (ra1 ah (y6 (wu64 b)) ⟨wu64 b, rfl, ag, a.below⟩)
 · -- no
  have l := i.2 m
  refine k_ (s_ (sqB f a [] [] [(13, .bool (decide ((u0.length : Int) > 1)))] ?_)); intro aM h
  refine cd h (t := decide ((u0.length : Int) > 1)) (by kernel_rfl) (fun o => ?_) (fun o => ?_)
  · -- yes
   have ai := l.1 o
   refine rgH ?_; intro aj H
   refine bt h a 2 [] [] [(14, y6 0), (15, .slice ao1 u0.length cap2)] ?_; intro aN I
   obtain ⟨ak, J⟩ := ai
   refine ix_ I hs3 (1 : Int) ak .i64 105 4 ?_; intro aO aP al d aQ am an ao L
   have ap := J d am
   obtain rfl : al = ([.int .u32 d] : List Value) := ao
   refine z1 L a 17 an 0 (.int .u32 d) rfl ?_; intro aR M
   refine bt M a 4 [] [] [(3, y6 (bOr .u64 0 (bShl .u64 (wu64 d) 32)))] ?_; intro aS N
   apply H
   refine t_ (sqB N a [] [] [(2, y6 (bOr .u64 0 (bShl .u64 (wu64 d) 32)))] ?_); intro aT aq
   exact r_ (ra1 aq (y6 (bOr .u64 0 (bShl .u64 (wu64 d) 32))) ⟨bOr .u64 0 (bShl .u64 (wu64 d) 32), rfl, ap, a.below⟩)
  · -- no
   have ar := l.2 o
   refine k_ (sqB h a [] [] [(2, y6 0)] ?_); intro aU au
   exact r_ (ra1 au (y6 0) ⟨0, rfl, ar, a.below⟩)

theorem gcmp_walk (u0 : List Int) (u1 : List Int) (ao1 : Option Addr) (cap2 : Nat) (ao4 : Option Addr) (cap5 : Nat) (Z : Fz) (w : World) (hs3 : SlR (tyInt .u32) Z ao1 cap2 u0) (hs6 : SlR (tyInt .u32) Z ao4 cap5 u1) (hZ : Z.on w) {K : Int → Prop} (hp : gcmp_vc u0 u1 K) : Calls Tryz.prog 84 #[.slice ao1 u0.length cap2, .slice ao4 u1.length cap5] w fun e w' => ∃ r : Int, e = .returned (i6 r) ∧ K r ∧ Below w.heap.size w w' := by
 refine enter0 Tryz.func84 rfl rfl (by kernel_rfl) ?_; intro a0 J; have b := Mem.start w Z hZ
 have p := hp (hs3.small) (hs6.small)
 refine sqB J b [] [] [] ?_; intro bg M
 refine s_ (sqB M b [] [] [(10, .bool ((u0.length : Int) != (u1.length : Int)))] ?_); intro bh c
 refine cd c (t := (u0.length : Int) != (u1.length : Int)) (by kernel_rfl) (fun A => ?_) (fun A => ?_)
 · -- yes
  have q := p.1 A
  refine s_ (sqB c b [] [] [(15, .bool (decide ((u0.length : Int) < (u1.length : Int))))] ?_); intro bi d
  refine cd d (t := decide ((u0.length : Int) < (u1.length : Int))) (by kernel_rfl) (fun B => ?_) (fun B => ?_)
  · -- yes
   have ar := q.1 B
   refine sqB d b [] [] [(4, i6 (-1))] ?_; intro bj au
   exact r_ (h_ (h_ (ra1 au (i6 (-1)) ⟨-1, rfl, ar, b.below⟩)))
  · -- no
   have av := q.2 B
   refine k_ (sqB d b [] [] [(4, i6 1)] ?_); intro bk aw
   exact r_ (h_ (ra1 aw (i6 1) ⟨1, rfl, av, b.below⟩))
 · -- no
  have ax := p.2 A
  refine k_ (s_ (sqB c b [] [] [(5, i6 (w64 ((u0.length : Int) - 1)))] ?_)); intro N O
  apply b_
  have P : Fr 41 [] [⟨0, [], .slice ao1 u0.length cap2⟩, ⟨1, [], .slice ao4 u1.length cap5⟩, ⟨5, [], i6 (w64 ((u0.length : Int) - 1))⟩] N := O.reg
  obtain ⟨ay, az, aA, aB⟩ := ax
  refine lp (ι := Int) (fun s => [⟨0, [], .slice ao1 u0.length cap2⟩, ⟨1, [], .slice ao4 u1.length cap5⟩, ⟨5, [], i6 s⟩]) (fun s => []) (fun s => Z) (fun s => ay s) (fun s => az s) (w64 ((u0.length : Int) - 1)) aA (by exact P.region (by kernel_rfl) (by kernel_rfl)) (by exact b) ?_
  rintro a aC aD aE R S
  have u := aB a aC
  refine s_ (sqB R S [] [] [(20, .bool (decide (a ≥ 0)))] ?_); intro aF h
  refine cd h (t := decide (a ≥ 0)) (by kernel_rfl) (fun C => ?_) (fun C => ?_)
  · -- yes
   have aG := u.1 C
   refine k_ (s_ (b_ ?_))
   have V : Fr 41 [] [⟨0, [], .slice ao1 u0.length cap2⟩, ⟨1, [], .slice ao4 u1.length cap5⟩, ⟨5, [], i6 a⟩] aF := h.reg
   refine sqQH mixed (by kernel_rfl) S ?_; intro aH W
   refine q1 V 23 (.slice ao1 u0.length cap2) ?_; intro bl X
   refine q1 X 24 (i6 a) ?_; intro bm Y
   obtain ⟨aI, aa⟩ := aG
   refine qx_ Y hs3 a aI .i64 105 4 ?_; intro bn bo aJ i bp aK aL aM D
   have aN := aa i aK
   obtain rfl : aJ = ([.int .u32 i] : List Value) := aM
   refine qz_ D aL 0 (.int .u32 i) rfl ?_; intro bq ab
   refine q1 ab 27 (.slice ao4 u1.length cap5) ?_; intro br ac
   refine q1 ac 28 (i6 a) ?_; intro bs ad
   obtain ⟨aO, ae⟩ := aN
   refine qx_ ad hs6 a aO .i64 105 4 ?_; intro bt bu aP j bv aQ aR aS E
   have v := ae j aQ
   obtain rfl : aP = ([.int .u32 j] : List Value) := aS
   refine qz_ E aR 0 (.int .u32 j) rfl ?_; intro bw af
   refine q1 af 31 (.bool (i != j)) ?_; intro aT l
   refine qnl (W _ ?_); intro bx x
   refine cd l (t := i != j) (by kernel_rfl) (fun F => ?_) (fun F => ?_)
   · -- yes
    have aU := v.1 F
    apply s_
    have ag : Fr 41 [] [⟨0, [], .slice ao1 u0.length cap2⟩, ⟨1, [], .slice ao4 u1.length cap5⟩, ⟨5, [], i6 a⟩] aT := l.reg
    refine sqQH mixed (by kernel_rfl) x ?_; intro aV ah
    refine q1 ag 32 (.slice ao1 u0.length cap2) ?_; intro bz ai
    refine q1 ai 33 (i6 a) ?_; intro bA aj
    obtain ⟨aW, ak⟩ := aU
    refine qx_ aj hs3 a aW .i64 105 4 ?_; intro bB bC aX m bD aY aZ a1 G
    have a2 := ak m aY
    obtain rfl : aX = ([.int .u32 m] : List Value) := a1
    refine qz_ G aZ 0 (.int .u32 m) rfl ?_; intro bE al
    refine q1 al 36 (.slice ao4 u1.length cap5) ?_; intro bF am
    refine q1 am 37 (i6 a) ?_; intro bG an
    obtain ⟨a3, ao⟩ := a2
    refine qx_ an hs6 a a3 .i64 105 4 ?_; intro bH bI a4 n bJ a5 a6 a7 H
    have y := ao n a5
    obtain rfl : a4 = ([.int .u32 n] : List Value) := a7
    refine qz_ H a6 0 (.int .u32 n) rfl ?_; intro bK ap
    refine q1 ap 40 (.bool (decide (m < n))) ?_; intro bL o
    refine qnl (ah _ ?_); intro bM z
    refine cd o (t := decide (m < n)) (by kernel_rfl) (fun I => ?_) (fun I => ?_)
    · -- yes
     have a8 := y.1 I
     refine sqB o z [] [] [(4, i6 (-1))] ?_; intro bN a9
     exact r_ (h_ (i_ (h_ (h_ (i_ (h_ (ra1 a9 (i6 (-1)) ⟨-1, rfl, a8, z.below⟩)))))))
    · -- no
     have ba := y.2 I
     refine k_ (sqB o z [] [] [(4, i6 1)] ?_); intro bO bb
     exact r_ (i_ (h_ (h_ (i_ (h_ (ra1 bb (i6 1) ⟨1, rfl, ba, z.below⟩))))))
   · -- no
    have aq := v.2 F
    refine l_ (j_ (t_ (rgB l x [] [] [(5, i6 (w64 (a - 1)))] ?_))); intro bP bc
    exact d_ ⟨w64 (a - 1), aq.1, aq.2, (bc.region (by kernel_rfl) (by kernel_rfl)).anyβ _ (by kernel_rfl), x.kp⟩
  · -- no
   have bd := u.2 C
   refine x_ (y_ (y_ (z_ (t_ (sqB h S [] [] [(4, i6 0)] ?_))))); intro bQ be
   exact r_ (ra1 be (i6 0) ⟨0, rfl, bd, S.below⟩)

end Go.Proofs.YtdndfbamhnchfaaGreatDoor
set_option linter.unusedVariables false
set_option linter.unusedSimpArgs false
set_option maxRecDepth 100000
set_option maxHeartbeats 0
namespace Go.Proofs.YtdndfbamhnchfaaGreatDoor
open Go.Sy Go.RowKit
def gtrim_fun (u0 : List Int) (ao1 : Option Addr) (cap2 : Nat) (Z : Fz) (w : World) (hs3 : SlR (tyInt .u32) Z ao1 cap2 u0) (hZ : Z.on w) := fc_ (gtrim_walk u0 ao1 cap2 Z w hs3 hZ (gtrim_ok u0))
theorem gtwin_walk (u0 : List Int) (ao1 : Option Addr) (cap2 : Nat) (Z : Fz) (w : World) (hs3 : SlR (tyInt .u32) Z ao1 cap2 u0) (hZ : Z.on w) {K : (List Int) → Prop} (hp : gtwin_vc u0 K) : Calls Tryz.prog 83 #[.slice ao1 u0.length cap2] w fun e w' => ∃ (r : (List Int)) (ao1001 : Option Addr) (cap1002 : Nat) (Z' : Fz), e = .returned (.slice ao1001 r.length cap1002) ∧ K r ∧ Mem w.heap.size [] w Z [.own (tyInt .u32) 105 ao1001 cap1002 r] Z' w' := by
 refine enter0 Tryz.func83 rfl rfl (by kernel_rfl) ?_; intro u f; have c := Mem.start w Z hZ
 have l := hp (hs3.small)
 refine sqB f c [] [] [] ?_; intro x g
 refine sqH ?_; intro m h
 refine s1 g 3 (.slice ao1 u0.length cap2) ?_; intro y i
 have d : Mem w.heap.size [] w Z [.own (tyInt .u32) 105 none 0 ([] : List Int)] Z w := c.addNil (tyInt .u32) 105 (by decide)
 obtain ⟨n, o⟩ := l
 refine ap i d 0 (T := (tyInt .u32)) (xs := ([] : List Int)) (ys := u0) (ao := none) (cap := 0) (ao2 := ao1) (cap2 := cap2) (t := 71) (e := 105) (bytes := 4) (nog rfl _) rfl (by kernel_rfl) rfl (by kernel_rfl) (by kernel_rfl) (by kernel_rfl) rfl (Src.fz (by decide) d.fz hs3) n ?_; intro a b z p A j k
 have q : Mem w.heap.size [] w Z [.own (tyInt .u32) 105 a b (([] : List Int) ++ u0)] Z p := k
 refine s1 j 2 (.slice a (([] : List Int) ++ u0).length b) ?_; intro B s
 apply h
 exact r_ (ra1 s (.slice a (([] : List Int) ++ u0).length b) ⟨([] : List Int) ++ u0, a, b, Z, rfl, o, q.kp⟩)

theorem gwords_walk (u0 : Int)  (Z : Fz) (w : World)  (hZ : Z.on w) {K : (List Int) → Prop} (hp : gwords_vc u0 K) : Calls Tryz.prog 104 #[y6 u0] w fun e w' => ∃ (r : (List Int)) (ao1001 : Option Addr) (cap1002 : Nat) (Z' : Fz), e = .returned (.slice ao1001 r.length cap1002) ∧ K r ∧ SlR (tyInt .u32) Z' ao1001 cap1002 r ∧ Mem w.heap.size [] w Z [] Z' w' := by
 refine enter0 Tryz.func104 rfl rfl (by kernel_rfl) ?_; intro H j; have a := Mem.start w Z hZ
 refine sqB j a [] [] [] ?_; intro I k
 refine sqH ?_; intro z l
 refine bt k a 5 [] [] [(4, .int .u32 (wu32 u0)), (7, .int .u32 (wu32 (bShr .u64 u0 32)))] ?_; intro J m
 refine nw m a (fun b => .slice (sm b) 2 2) [.int .u32 (wu32 u0), .int .u32 (wu32 (bShr .u64 u0 32))] 105 ?_; intro d L n o p
 have A : Mem w.heap.size [] w Z [.own (tyInt .u32) 105 (sm d) 2 ([wu32 u0, wu32 (bShr .u64 u0 32)] : List Int)] Z n := p.rowOwn (T := (tyInt .u32)) (xs := ([wu32 u0, wu32 (bShr .u64 u0 32)] : List Int)) 0 rfl (by decide) (by show 2 ≤ lim; decide) ((RepAll.one (T := (tyInt .u32)) (x := wu32 u0) rfl).append (RepAll.one (T := (tyInt .u32)) (x := wu32 (bShr .u64 u0 32)) rfl))
 obtain ⟨B, C, q, f⟩ := A.freeze 0 rfl
 have g : Mem w.heap.size [] w Z [] B n := q
 refine ck o 105 #[.slice (sm d) ([wu32 u0, wu32 (bShr .u64 u0 32)] : List Int).length 2] ?_
 refine (gtrim_fun ([wu32 u0, wu32 (bShr .u64 u0 32)] : List Int) (sm d) 2 _ _ f g.fz).mono ?_; rintro _ D ⟨h, i, s, rfl, t, hm⟩; refine ⟨_, rfl, ?_⟩; intro M u; have v := g.callZ hm
 have E : Mem w.heap.size [] w Z [] s D := v
 have F := hp (t.small)
 refine s1 u 2 (.slice h (gtrimS ([wu32 u0, wu32 (bShr .u64 u0 32)] : List Int)).length i) ?_; intro N G
 apply l
 exact r_ (ra1 G (.slice h (gtrimS ([wu32 u0, wu32 (bShr .u64 u0 32)] : List Int)).length i) ⟨(gtrimS ([wu32 u0, wu32 (bShr .u64 u0 32)] : List Int)), h, i, s, rfl, F, t, E.kp⟩)

theorem gmul_walk (u0 : List Int) (u1 : List Int) (ao1 : Option Addr) (cap2 : Nat) (ao4 : Option Addr) (cap5 : Nat) (Z : Fz) (w : World) (hs3 : SlR (tyInt .u32) Z ao1 cap2 u0) (hs6 : SlR (tyInt .u32) Z ao4 cap5 u1) (hZ : Z.on w) {K : (List Int) → Prop} (hp : gmul_vc u0 u1 K) : Calls Tryz.prog 103 #[.slice ao1 u0.length cap2, .slice ao4 u1.length cap5] w fun e w' => ∃ (r : (List Int)) (ao1001 : Option Addr) (cap1002 : Nat) (Z' : Fz), e = .returned (.slice ao1001 r.length cap1002) ∧ K r ∧ SlR (tyInt .u32) Z' ao1001 cap1002 r ∧ Mem w.heap.size [] w Z [] Z' w' := by
 refine enter0 Tryz.func103 rfl rfl (by kernel_rfl) ?_; intro a0 U; have n := Mem.start w Z hZ
 have A := hp (hs3.small) (hs6.small)
 refine sqB U n [] [] [] ?_; intro ch W
 refine s_ (sqB W n [] [] [(16, .bool (((u0.length : Int) == 0) || ((u1.length : Int) == 0)))] ?_); intro ci q
 refine c_ q A (fun _ a6 => ?_) fun _ a8 => ?_
 ·
  refine sqB q n [] [] [(4, .slice none 0 0)] ?_; intro cj a7
  exact r_ (h_ (ra1 a7 (.slice none 0 0) ⟨[], none, 0, Z, rfl, a6, (SlR.nil _ _), n.kp⟩))
 refine k_ (sqH ?_); intro a9 X
 refine bt q n 5 [] [] [(21, i6 (w64 ((u0.length : Int) + (u1.length : Int))))] ?_; intro cl Y
 obtain ⟨cm, ba⟩ := a8
 refine mks Y n (T := (tyInt .u32)) (w64 ((u0.length : Int) + (u1.length : Int))) (w64 ((u0.length : Int) + (u1.length : Int))) (k := .i64) (k' := .i64) (e := 105) (bytes := 4) (zs := [.int .u32 0]) (z := 0) (by simp only [lim]; omega) (nog rfl _) rfl (by kernel_rfl) rfl (by kernel_rfl) (by kernel_rfl) (by kernel_rfl) (by kernel_rfl) rfl ?_; intro b cn bb aa ab
 have H : Mem w.heap.size [] w Z [.own (tyInt .u32) 105 (sm b) (w64 ((u0.length : Int) + (u1.length : Int))).toNat (List.replicate (w64 ((u0.length : Int) + (u1.length : Int))).toNat (0 : Int))] Z bb := ab
 refine s1 aa 5 (.slice (sm b) (List.replicate (w64 ((u0.length : Int) + (u1.length : Int))).toNat (0 : Int)).length (w64 ((u0.length : Int) + (u1.length : Int))).toNat) ?_; intro co ac
 apply X
 refine s_ (sqB ac H [] [] [(6, i6 0)] ?_); intro ad ae
 apply b_
 have af : Fr 75 [] [⟨0, [], .slice ao1 u0.length cap2⟩, ⟨1, [], .slice ao4 u1.length cap5⟩, ⟨5, [], .slice (sm b) (List.replicate (w64 ((u0.length : Int) + (u1.length : Int))).toNat (0 : Int)).length (w64 ((u0.length : Int) + (u1.length : Int))).toNat⟩, ⟨6, [], i6 0⟩] ad := ae.reg
 obtain ⟨bc, bd, be, bf⟩ := ba
 refine lp (ι := Int × (List Int)) (fun s => [⟨0, [], .slice ao1 u0.length cap2⟩, ⟨1, [], .slice ao4 u1.length cap5⟩, ⟨5, [], .slice (sm b) s.2.length (w64 ((u0.length : Int) + (u1.length : Int))).toNat⟩, ⟨6, [], i6 s.1⟩]) (fun s => [.own (tyInt .u32) 105 (sm b) (w64 ((u0.length : Int) + (u1.length : Int))).toNat s.2]) (fun s => Z) (fun s => bc s.1 s.2) (fun s => bd s.1 s.2) ⟨0, (List.replicate (w64 ((u0.length : Int) + (u1.length : Int))).toNat (0 : Int))⟩ be (by exact af.reg) (by exact H) ?_
 rintro ⟨a, l⟩ bg bh ah ai aj
 have B := bf a l bg
 refine s_ (sqB ai aj [] [] [(26, .bool (decide (a < (u0.length : Int))))] ?_); intro cp v
 refine c_ v B (fun _ bi => ?_) fun _ aX => ?_
 ·
  refine k_ (s_ (b_ (sqB v aj [] [] [(7, y6 0)] ?_))); intro cq al
  refine s_ (sqB al aj [] [] [(8, i6 0)] ?_); intro am an
  apply b_
  have ao : Fr 75 [] [⟨0, [], .slice ao1 u0.length cap2⟩, ⟨1, [], .slice ao4 u1.length cap5⟩, ⟨5, [], .slice (sm b) l.length (w64 ((u0.length : Int) + (u1.length : Int))).toNat⟩, ⟨6, [], i6 a⟩, ⟨7, [], y6 0⟩, ⟨8, [], i6 0⟩] am := an.reg
  obtain ⟨bj, bk, bl, bm⟩ := bi
  refine lp (ι := Int × Int × (List Int)) (fun s => [⟨0, [], .slice ao1 u0.length cap2⟩, ⟨1, [], .slice ao4 u1.length cap5⟩, ⟨5, [], .slice (sm b) s.2.2.length (w64 ((u0.length : Int) + (u1.length : Int))).toNat⟩, ⟨6, [], i6 a⟩, ⟨7, [], y6 s.1⟩, ⟨8, [], i6 s.2.1⟩]) (fun s => [.own (tyInt .u32) 105 (sm b) (w64 ((u0.length : Int) + (u1.length : Int))).toNat s.2.2]) (fun s => Z) (fun s => bj s.1 s.2.1 s.2.2) (fun s => bk s.1 s.2.1 s.2.2) ⟨0, 0, l⟩ bl (by exact ao.reg) (by exact aj) ?_
  rintro ⟨d, c, f⟩ bn bo bp aq ar
  have C := bm d c f bn
  refine s_ (sqB aq ar [] [] [(32, .bool (decide (c < (u1.length : Int))))] ?_); intro bq x
  refine c_ x C (fun _ br => ?_) fun _ b2 => ?_
  ·
   refine k_ (s_ (b_ ?_))
   have av : Fr 75 [] [⟨0, [], .slice ao1 u0.length cap2⟩, ⟨1, [], .slice ao4 u1.length cap5⟩, ⟨5, [], .slice (sm b) f.length (w64 ((u0.length : Int) + (u1.length : Int))).toNat⟩, ⟨6, [], i6 a⟩, ⟨7, [], y6 d⟩, ⟨8, [], i6 c⟩] bq := x.reg
   refine wp_seq (rgS mixed ar [(0, true), (1, true), (2, true), (6, true), (7, true), (12, true), (13, true), (14, true), (15, true), (3, true), (4, true), (5, true), (8, true), (9, true), (10, true), (11, true), (16, false), (17, false), (18, true), (19, true), (20, true), (21, true)] [] [] [] ?_)
   intro bs aw cr m
   have ax := Fz.le.refl Z
   refine cS av 9 [] [] [(35, y6 d), (36, .slice ao1 u0.length cap2), (37, i6 a), (41, .slice ao4 u1.length cap5), (42, i6 c), (47, .slice (sm b) f.length (w64 ((u0.length : Int) + (u1.length : Int))).toNat), (50, i6 (w64 (a + c)))] ?_; intro cs ay
   obtain ⟨bu, az⟩ := br
   refine cix rfl ay (T := (tyInt .u32)) (xs := u0) hs3 a bu (k := .i64) (e := 105) (bytes := 4) (nog rfl _) rfl (by kernel_rfl) rfl (by kernel_rfl) (by kernel_rfl) (by kernel_rfl) ?_; intro bv bw bx h ct bz bA bB L
   have bC := az h bz
   obtain rfl : bx = ([.int .u32 h] : List Value) := bB
   refine cst rfl L (.int .u32 h) (nog rfl _) rfl (by kernel_rfl) (fun v152 hC => lz L hC.fz bA 0 (g := []) rfl (by kernel_rfl) (by kernel_rfl) (by kernel_rfl) rfl) ?_; intro cu aA
   refine cS aA 1 [] [] [(40, y6 (wu64 h))] ?_; intro cv aB
   obtain ⟨bD, aC⟩ := bC
   refine cix rfl aB (T := (tyInt .u32)) (xs := u1) hs6 c bD (k := .i64) (e := 105) (bytes := 4) (nog rfl _) rfl (by kernel_rfl) rfl (by kernel_rfl) (by kernel_rfl) (by kernel_rfl) ?_; intro bE bF bG i cw bH bI bJ M
   have bK := aC i bH
   obtain rfl : bG = ([.int .u32 i] : List Value) := bJ
   refine cst rfl M (.int .u32 i) (nog rfl _) rfl (by kernel_rfl) (fun v170 hC => lz M hC.fz bI 0 (g := []) rfl (by kernel_rfl) (by kernel_rfl) (by kernel_rfl) rfl) ?_; intro cx aD
   refine cS aD 2 [] [] [(46, y6 (wu64 ((wu64 h) * (wu64 i))))] ?_; intro cy aE
   refine eS rfl ?_; intro bL aF
   obtain ⟨bM, aG⟩ := bK
   refine ixo aE m 0 (T := (tyInt .u32)) (xs := f) (w64 (a + c)) bM (k := .i64) (e := 105) (bytes := 4) (nog rfl _) rfl (by kernel_rfl) rfl (by kernel_rfl) (by kernel_rfl) rfl (by kernel_rfl) ?_; intro bN cz bO aH
   obtain rfl : b = bN := by simpa using bO
   refine nl (qnI (aF _ _ (m.cst ax []) ?_))
   refine eS rfl ?_; intro bP aI
   obtain ⟨j, bQ, bR⟩ := gxq aG (by first | omega | (simp only [List.length_set] at *; omega))
   obtain ⟨bS, bT, bU⟩ := own_el m 0 (T := (tyInt .u32)) (xs := f) rfl (w64 (a + c)).toNat bQ
   obtain rfl : bS = ([.int .u32 j] : List Value) := bT
   refine lc1 aH 52 (.int .u32 j) (bU 0 _ rfl) rfl ?_; intro cA aJ
   refine nl (qnI (aI _ _ (m.cst ax []) ?_))
   refine cS aJ 4 [] [] [(7, y6 (wu64 (d + (wu64 ((wu64 ((wu64 h) * (wu64 i))) + (wu64 j))))))] ?_; intro cB aK
   refine nS (aw _ _ ?_)
   refine t_ (sqH ?_); intro bV aL
   refine bt aK m 6 [] [] [(56, .slice (sm b) f.length (w64 ((u0.length : Int) + (u1.length : Int))).toNat), (59, i6 (w64 (a + c))), (61, .int .u32 (wu32 (wu64 (d + (wu64 ((wu64 ((wu64 h) * (wu64 i))) + (wu64 j)))))))] ?_; intro cC aM
   obtain ⟨bW, aN⟩ := bR
   refine ixo aM m 0 (T := (tyInt .u32)) (xs := f) (w64 (a + c)) bW (k := .i64) (e := 105) (bytes := 4) (nog rfl _) rfl (by kernel_rfl) rfl (by kernel_rfl) (by kernel_rfl) rfl (by kernel_rfl) ?_; intro bX bY bZ D
   obtain rfl : b = bX := by simpa using bZ
   refine so D m 0 (T := (tyInt .u32)) (xs := f) (w64 (a + c)).toNat (wu32 (wu64 (d + (wu64 ((wu64 ((wu64 h) * (wu64 i))) + (wu64 j)))))) (u := .int .u32 (wu32 (wu64 (d + (wu64 ((wu64 ((wu64 h) * (wu64 i))) + (wu64 j))))))) (nog rfl _) rfl rfl (by kernel_rfl) rfl (by kernel_rfl) rfl (by kernel_rfl) (by first | omega | (simp only [List.length_set] at *; omega)) rfl ?_; intro b0 aO
   have aP : Fr 75 [] [⟨0, [], .slice ao1 u0.length cap2⟩, ⟨1, [], .slice ao4 u1.length cap5⟩, ⟨5, [], .slice (sm b) (f.set (w64 (a + c)).toNat (wu32 (wu64 (d + (wu64 ((wu64 ((wu64 h) * (wu64 i))) + (wu64 j))))))).length (w64 ((u0.length : Int) + (u1.length : Int))).toNat⟩, ⟨6, [], i6 a⟩, ⟨7, [], y6 (wu64 (d + (wu64 ((wu64 ((wu64 h) * (wu64 i))) + (wu64 j)))))⟩, ⟨8, [], i6 c⟩, ⟨35, [], y6 d⟩, ⟨36, [], .slice ao1 u0.length cap2⟩, ⟨37, [], i6 a⟩, ⟨38, [], pt bv bw⟩, ⟨39, [], .int .u32 h⟩, ⟨40, [], y6 (wu64 h)⟩, ⟨41, [], .slice ao4 u1.length cap5⟩, ⟨42, [], i6 c⟩, ⟨43, [], pt bE bF⟩, ⟨44, [], .int .u32 i⟩, ⟨46, [], y6 (wu64 ((wu64 h) * (wu64 i)))⟩, ⟨47, [], .slice (sm b) (f.set (w64 (a + c)).toNat (wu32 (wu64 (d + (wu64 ((wu64 ((wu64 h) * (wu64 i))) + (wu64 j))))))).length (w64 ((u0.length : Int) + (u1.length : Int))).toNat⟩, ⟨50, [], i6 (w64 (a + c))⟩, ⟨51, [], .pointer (some ⟨b, (w64 (a + c)).toNat * 1, none⟩)⟩, ⟨52, [], .int .u32 j⟩, ⟨56, [], .slice (sm b) (f.set (w64 (a + c)).toNat (wu32 (wu64 (d + (wu64 ((wu64 ((wu64 h) * (wu64 i))) + (wu64 j))))))).length (w64 ((u0.length : Int) + (u1.length : Int))).toNat⟩, ⟨59, [], i6 (w64 (a + c))⟩, ⟨61, [], .int .u32 (wu32 (wu64 (d + (wu64 ((wu64 ((wu64 h) * (wu64 i))) + (wu64 j))))))⟩, ⟨62, [], .pointer (some ⟨b, (w64 (a + c)).toNat * 1, none⟩)⟩] bY := by (try simp only [List.length_set] at D); (try simp only [List.length_set]); exact D.reg
   have N : Mem w.heap.size [] w Z [.own (tyInt .u32) 105 (sm b) (w64 ((u0.length : Int) + (u1.length : Int))).toNat (f.set (w64 (a + c)).toNat (wu32 (wu64 (d + (wu64 ((wu64 ((wu64 h) * (wu64 i))) + (wu64 j)))))))] Z b0 := aO
   apply aL
   refine rgB aP N [] [] [(7, y6 (bShr .u64 (wu64 (d + (wu64 ((wu64 ((wu64 h) * (wu64 i))) + (wu64 j))))) 32))] ?_; intro cD aQ
   refine j_ (t_ (rgB aQ N [] [] [(8, i6 (w64 (c + 1)))] ?_)); intro cE b1
   exact d_ ⟨⟨bShr .u64 (wu64 (d + (wu64 ((wu64 ((wu64 h) * (wu64 i))) + (wu64 j))))) 32, w64 (c + 1), f.set (w64 (a + c)).toNat (wu32 (wu64 (d + (wu64 ((wu64 ((wu64 h) * (wu64 i))) + (wu64 j))))))⟩, aN.1, aN.2, (b1.reg).anyβ _ (by kernel_rfl), N.kp⟩
  refine x_ (y_ (y_ (z_ (t_ (rgH ?_))))); intro b3 aR
  refine bt x ar 7 [] [] [(65, .slice (sm b) f.length (w64 ((u0.length : Int) + (u1.length : Int))).toNat), (69, i6 (w64 (a + (u1.length : Int)))), (71, .int .u32 (wu32 d))] ?_; intro cF aS
  obtain ⟨b4, aT⟩ := b2
  refine ixo aS ar 0 (T := (tyInt .u32)) (xs := f) (w64 (a + (u1.length : Int))) b4 (k := .i64) (e := 105) (bytes := 4) (nog rfl _) rfl (by kernel_rfl) rfl (by kernel_rfl) (by kernel_rfl) rfl (by kernel_rfl) ?_; intro b5 b6 b7 E
  obtain rfl : b = b5 := by simpa using b7
  refine so E ar 0 (T := (tyInt .u32)) (xs := f) (w64 (a + (u1.length : Int))).toNat (wu32 d) (u := .int .u32 (wu32 d)) (nog rfl _) rfl rfl (by kernel_rfl) rfl (by kernel_rfl) rfl (by kernel_rfl) (by first | omega | (simp only [List.length_set] at *; omega)) rfl ?_; intro b8 aU
  have aV : Fr 75 [] [⟨0, [], .slice ao1 u0.length cap2⟩, ⟨1, [], .slice ao4 u1.length cap5⟩, ⟨5, [], .slice (sm b) (f.set (w64 (a + (u1.length : Int))).toNat (wu32 d)).length (w64 ((u0.length : Int) + (u1.length : Int))).toNat⟩, ⟨6, [], i6 a⟩, ⟨7, [], y6 d⟩, ⟨8, [], i6 c⟩, ⟨32, [], .bool (decide (c < (u1.length : Int)))⟩, ⟨65, [], .slice (sm b) (f.set (w64 (a + (u1.length : Int))).toNat (wu32 d)).length (w64 ((u0.length : Int) + (u1.length : Int))).toNat⟩, ⟨69, [], i6 (w64 (a + (u1.length : Int)))⟩, ⟨71, [], .int .u32 (wu32 d)⟩, ⟨72, [], .pointer (some ⟨b, (w64 (a + (u1.length : Int))).toNat * 1, none⟩)⟩] b6 := by (try simp only [List.length_set] at E); (try simp only [List.length_set]); exact E.reg
  have aW : Mem w.heap.size [] w Z [.own (tyInt .u32) 105 (sm b) (w64 ((u0.length : Int) + (u1.length : Int))).toNat (f.set (w64 (a + (u1.length : Int))).toNat (wu32 d))] Z b8 := aU
  apply aR
  refine j_ (t_ (rgB aV aW [] [] [(6, i6 (w64 (a + 1)))] ?_)); intro cG b9
  exact d_ ⟨⟨w64 (a + 1), f.set (w64 (a + (u1.length : Int))).toNat (wu32 d)⟩, aT.1, aT.2, (b9.reg).anyβ _ (by kernel_rfl), aW.kp⟩
 refine x_ (y_ (y_ (z_ (t_ (sqH ?_))))); intro ca aY
 refine s1 v 73 (.slice (sm b) l.length (w64 ((u0.length : Int) + (u1.length : Int))).toNat) ?_; intro cH aZ
 obtain ⟨cb, O, a1, P⟩ := aj.freeze 0 rfl
 have Q : Mem w.heap.size [] w Z [] cb ah := a1
 refine ck aZ 105 #[.slice (sm b) l.length (w64 ((u0.length : Int) + (u1.length : Int))).toNat] ?_
 refine (gtrim_fun l (sm b) (w64 ((u0.length : Int) + (u1.length : Int))).toNat _ _ P Q.fz).mono ?_; rintro _ cc ⟨R, S, a2, rfl, a3, hm⟩; refine ⟨_, rfl, ?_⟩; intro cI a4; have a5 := Q.callZ hm
 have ce : Mem w.heap.size [] w Z [] a2 cc := a5
 have cf := aX (a3.small)
 refine s1 a4 4 (.slice R (gtrimS l).length S) ?_; intro cJ cg
 apply aY
 exact r_ (ra1 cg (.slice R (gtrimS l).length S) ⟨(gtrimS l), R, S, a2, rfl, cf, a3, ce.kp⟩)

theorem gadd_walk (u0 : List Int) (u1 : List Int) (ao1 : Option Addr) (cap2 : Nat) (ao4 : Option Addr) (cap5 : Nat) (Z : Fz) (w : World) (hs3 : SlR (tyInt .u32) Z ao1 cap2 u0) (hs6 : SlR (tyInt .u32) Z ao4 cap5 u1) (hZ : Z.on w) {K : (List Int) → Prop} (hp : gadd_vc u0 u1 K) : Calls Tryz.prog 80 #[.slice ao1 u0.length cap2, .slice ao4 u1.length cap5] w fun e w' => ∃ (r : (List Int)) (ao1001 : Option Addr) (cap1002 : Nat) (Z' : Fz), e = .returned (.slice ao1001 r.length cap1002) ∧ K r ∧ SlR (tyInt .u32) Z' ao1001 cap1002 r ∧ Mem w.heap.size [] w Z [] Z' w' := by
 refine enter0 Tryz.func80 rfl rfl (by kernel_rfl) ?_; intro a0 am; have o := Mem.start w Z hZ
 have B := hp (hs3.small) (hs6.small)
 refine sqB am o [] [] [] ?_; intro d2 ao
 refine s_ (sqB ao o [] [] [(12, .bool (decide ((u0.length : Int) < (u1.length : Int))))] ?_); intro d3 q
 refine c_ q B (fun _ cb => ?_) fun _ c7 => ?_
 ·
  refine rgB q o [] [] [(0, .slice ao4 u1.length cap5), (1, .slice ao1 u0.length cap2)] ?_; intro d4 ap
  refine t_ (sqH ?_); intro cc aq
  refine bt ap o 3 [] [] [(17, i6 (w64 ((u1.length : Int) + 1)))] ?_; intro d5 ar
  obtain ⟨d6, ce⟩ := cb
  refine mks ar o (T := (tyInt .u32)) (w64 ((u1.length : Int) + 1)) (w64 ((u1.length : Int) + 1)) (k := .i64) (k' := .i64) (e := 105) (bytes := 4) (zs := [.int .u32 0]) (z := 0) (by simp only [lim]; omega) (nog rfl _) rfl (by kernel_rfl) rfl (by kernel_rfl) (by kernel_rfl) (by kernel_rfl) (by kernel_rfl) rfl ?_; intro f d7 cf au av
  have C : Mem w.heap.size [] w Z [.own (tyInt .u32) 105 (sm f) (w64 ((u1.length : Int) + 1)).toNat (List.replicate (w64 ((u1.length : Int) + 1)).toNat (0 : Int))] Z cf := av
  refine s1 au 5 (.slice (sm f) (List.replicate (w64 ((u1.length : Int) + 1)).toNat (0 : Int)).length (w64 ((u1.length : Int) + 1)).toNat) ?_; intro d8 aw
  apply aq
  refine sqB aw C [] [] [(6, y6 0)] ?_; intro d9 ax
  refine s_ (sqB ax C [] [] [(7, i6 0)] ?_); intro ay az
  apply b_
  have aA : Fr 58 [] [⟨0, [], .slice ao4 u1.length cap5⟩, ⟨1, [], .slice ao1 u0.length cap2⟩, ⟨5, [], .slice (sm f) (List.replicate (w64 ((u1.length : Int) + 1)).toNat (0 : Int)).length (w64 ((u1.length : Int) + 1)).toNat⟩, ⟨6, [], y6 0⟩, ⟨7, [], i6 0⟩] ay := az.reg
  obtain ⟨cg, ch, ci, cj⟩ := ce
  refine lp (ι := Int × Int × (List Int)) (fun s => [⟨0, [], .slice ao4 u1.length cap5⟩, ⟨1, [], .slice ao1 u0.length cap2⟩, ⟨5, [], .slice (sm f) s.2.2.length (w64 ((u1.length : Int) + 1)).toNat⟩, ⟨6, [], y6 s.1⟩, ⟨7, [], i6 s.2.1⟩]) (fun s => [.own (tyInt .u32) 105 (sm f) (w64 ((u1.length : Int) + 1)).toNat s.2.2]) (fun s => Z) (fun s => cg s.1 s.2.1 s.2.2) (fun s => ch s.1 s.2.1 s.2.2) ⟨0, 0, (List.replicate (w64 ((u1.length : Int) + 1)).toNat (0 : Int))⟩ ci (by exact aA.reg) (by exact C) ?_
  rintro ⟨a, b, g⟩ cl cm cn aC aD
  have D := cj a b g cl
  refine s_ (sqB aC aD [] [] [(22, .bool (decide (b < (u1.length : Int))))] ?_); intro ea v
  refine c_ v D (fun _ co => ?_) fun _ cU => ?_
  ·
   refine k_ (s_ (b_ (sqH ?_))); intro cp aF
   refine bt v aD 3 [] [] [(25, y6 a), (26, .slice ao4 u1.length cap5), (27, i6 b)] ?_; intro eb aG
   obtain ⟨cq, aH⟩ := co
   refine ix_ aG hs6 b cq .i64 105 4 ?_; intro aI aJ cr c ec cs ct cu aK
   have E := aH c cs
   obtain rfl : cr = ([.int .u32 c] : List Value) := cu
   refine z1 aK aD 29 ct 0 (.int .u32 c) rfl ?_; intro ed aL
   refine bt aL aD 3 [] [] [(6, y6 (wu64 (a + (wu64 c))))] ?_; intro ee aM
   apply aF
   refine s_ (sqB aM aD [] [] [(35, .bool (decide (b < (u0.length : Int))))] ?_); intro ef x
   refine c_ x E (fun _ cv => ?_) fun _ cM => ?_
   ·
    refine rgH ?_; intro cw aN
    refine bt x aD 3 [] [] [(36, y6 (wu64 (a + (wu64 c)))), (37, .slice ao1 u0.length cap2), (38, i6 b)] ?_; intro eg aO
    obtain ⟨cx, aP⟩ := cv
    refine ix_ aO hs3 b cx .i64 105 4 ?_; intro cy cz cA m eh cB cC cD aQ
    have cE := aP m cB
    obtain rfl : cA = ([.int .u32 m] : List Value) := cD
    refine z1 aQ aD 40 cC 0 (.int .u32 m) rfl ?_; intro ei aR
    refine bt aR aD 3 [] [] [(6, y6 (wu64 ((wu64 (a + (wu64 c))) + (wu64 m))))] ?_; intro ej aS
    apply aN
    refine t_ (sqH ?_); intro cF aT
    refine bt aS aD 4 [] [] [(43, .slice (sm f) g.length (w64 ((u1.length : Int) + 1)).toNat), (44, i6 b), (46, .int .u32 (wu32 (wu64 ((wu64 (a + (wu64 c))) + (wu64 m)))))] ?_; intro ek aU
    obtain ⟨cG, aV⟩ := cE
    refine ixo aU aD 0 (T := (tyInt .u32)) (xs := g) b cG (k := .i64) (e := 105) (bytes := 4) (nog rfl _) rfl (by kernel_rfl) rfl (by kernel_rfl) (by kernel_rfl) rfl (by kernel_rfl) ?_; intro cH cI cJ F
    obtain rfl : f = cH := by simpa using cJ
    refine so F aD 0 (T := (tyInt .u32)) (xs := g) b.toNat (wu32 (wu64 ((wu64 (a + (wu64 c))) + (wu64 m)))) (u := .int .u32 (wu32 (wu64 ((wu64 (a + (wu64 c))) + (wu64 m))))) (nog rfl _) rfl rfl (by kernel_rfl) rfl (by kernel_rfl) rfl (by kernel_rfl) (by first | omega | (simp only [List.length_set] at *; omega)) rfl ?_; intro cK aW
    have aX : Fr 58 [] [⟨0, [], .slice ao4 u1.length cap5⟩, ⟨1, [], .slice ao1 u0.length cap2⟩, ⟨5, [], .slice (sm f) (g.set b.toNat (wu32 (wu64 ((wu64 (a + (wu64 c))) + (wu64 m))))).length (w64 ((u1.length : Int) + 1)).toNat⟩, ⟨6, [], y6 (wu64 ((wu64 (a + (wu64 c))) + (wu64 m)))⟩, ⟨7, [], i6 b⟩, ⟨22, [], .bool (decide (b < (u1.length : Int)))⟩, ⟨25, [], y6 a⟩, ⟨26, [], .slice ao4 u1.length cap5⟩, ⟨27, [], i6 b⟩, ⟨28, [], pt aI aJ⟩, ⟨29, [], .int .u32 c⟩, ⟨35, [], .bool (decide (b < (u0.length : Int)))⟩, ⟨36, [], y6 (wu64 (a + (wu64 c)))⟩, ⟨37, [], .slice ao1 u0.length cap2⟩, ⟨38, [], i6 b⟩, ⟨39, [], pt cy cz⟩, ⟨40, [], .int .u32 m⟩, ⟨43, [], .slice (sm f) (g.set b.toNat (wu32 (wu64 ((wu64 (a + (wu64 c))) + (wu64 m))))).length (w64 ((u1.length : Int) + 1)).toNat⟩, ⟨44, [], i6 b⟩, ⟨46, [], .int .u32 (wu32 (wu64 ((wu64 (a + (wu64 c))) + (wu64 m))))⟩, ⟨47, [], .pointer (some ⟨f, b.toNat * 1, none⟩)⟩] cI := by (try simp only [List.length_set] at F); (try simp only [List.length_set]); exact F.reg
    have V : Mem w.heap.size [] w Z [.own (tyInt .u32) 105 (sm f) (w64 ((u1.length : Int) + 1)).toNat (g.set b.toNat (wu32 (wu64 ((wu64 (a + (wu64 c))) + (wu64 m)))))] Z cK := aW
    apply aT
    refine rgB aX V [] [] [(6, y6 (bShr .u64 (wu64 ((wu64 (a + (wu64 c))) + (wu64 m))) 32))] ?_; intro el aY
    refine j_ (t_ (rgB aY V [] [] [(7, i6 (w64 (b + 1)))] ?_)); intro em cL
    exact d_ ⟨⟨bShr .u64 (wu64 ((wu64 (a + (wu64 c))) + (wu64 m))) 32, w64 (b + 1), g.set b.toNat (wu32 (wu64 ((wu64 (a + (wu64 c))) + (wu64 m))))⟩, aV.1, aV.2, (cL.reg).anyβ _ (by kernel_rfl), V.kp⟩
   refine k_ (sqH ?_); intro cN aZ
   refine bt x aD 4 [] [] [(43, .slice (sm f) g.length (w64 ((u1.length : Int) + 1)).toNat), (44, i6 b), (46, .int .u32 (wu32 (wu64 (a + (wu64 c)))))] ?_; intro en a1
   obtain ⟨cO, a2⟩ := cM
   refine ixo a1 aD 0 (T := (tyInt .u32)) (xs := g) b cO (k := .i64) (e := 105) (bytes := 4) (nog rfl _) rfl (by kernel_rfl) rfl (by kernel_rfl) (by kernel_rfl) rfl (by kernel_rfl) ?_; intro cP cQ cR G
   obtain rfl : f = cP := by simpa using cR
   refine so G aD 0 (T := (tyInt .u32)) (xs := g) b.toNat (wu32 (wu64 (a + (wu64 c)))) (u := .int .u32 (wu32 (wu64 (a + (wu64 c))))) (nog rfl _) rfl rfl (by kernel_rfl) rfl (by kernel_rfl) rfl (by kernel_rfl) (by first | omega | (simp only [List.length_set] at *; omega)) rfl ?_; intro cS a3
   have a4 : Fr 58 [] [⟨0, [], .slice ao4 u1.length cap5⟩, ⟨1, [], .slice ao1 u0.length cap2⟩, ⟨5, [], .slice (sm f) (g.set b.toNat (wu32 (wu64 (a + (wu64 c))))).length (w64 ((u1.length : Int) + 1)).toNat⟩, ⟨6, [], y6 (wu64 (a + (wu64 c)))⟩, ⟨7, [], i6 b⟩, ⟨22, [], .bool (decide (b < (u1.length : Int)))⟩, ⟨25, [], y6 a⟩, ⟨26, [], .slice ao4 u1.length cap5⟩, ⟨27, [], i6 b⟩, ⟨28, [], pt aI aJ⟩, ⟨29, [], .int .u32 c⟩, ⟨35, [], .bool (decide (b < (u0.length : Int)))⟩, ⟨43, [], .slice (sm f) (g.set b.toNat (wu32 (wu64 (a + (wu64 c))))).length (w64 ((u1.length : Int) + 1)).toNat⟩, ⟨44, [], i6 b⟩, ⟨46, [], .int .u32 (wu32 (wu64 (a + (wu64 c))))⟩, ⟨47, [], .pointer (some ⟨f, b.toNat * 1, none⟩)⟩] cQ := by (try simp only [List.length_set] at G); (try simp only [List.length_set]); exact G.reg
   have W : Mem w.heap.size [] w Z [.own (tyInt .u32) 105 (sm f) (w64 ((u1.length : Int) + 1)).toNat (g.set b.toNat (wu32 (wu64 (a + (wu64 c)))))] Z cS := a3
   apply aZ
   refine rgB a4 W [] [] [(6, y6 (bShr .u64 (wu64 (a + (wu64 c))) 32))] ?_; intro eo a5
   refine j_ (t_ (rgB a5 W [] [] [(7, i6 (w64 (b + 1)))] ?_)); intro ep cT
   exact d_ ⟨⟨bShr .u64 (wu64 (a + (wu64 c))) 32, w64 (b + 1), g.set b.toNat (wu32 (wu64 (a + (wu64 c))))⟩, a2.1, a2.2, (cT.reg).anyβ _ (by kernel_rfl), W.kp⟩
  refine x_ (y_ (y_ (z_ (t_ (sqH ?_))))); intro cV a6
  refine bt v aD 5 [] [] [(50, .slice (sm f) g.length (w64 ((u1.length : Int) + 1)).toNat), (52, i6 (u1.length : Int)), (54, .int .u32 (wu32 a))] ?_; intro eq a7
  obtain ⟨cW, a8⟩ := cU
  refine ixo a7 aD 0 (T := (tyInt .u32)) (xs := g) (u1.length : Int) cW (k := .i64) (e := 105) (bytes := 4) (nog rfl _) rfl (by kernel_rfl) rfl (by kernel_rfl) (by kernel_rfl) rfl (by kernel_rfl) ?_; intro cX cY cZ H
  obtain rfl : f = cX := by simpa using cZ
  refine so H aD 0 (T := (tyInt .u32)) (xs := g) (u1.length : Int).toNat (wu32 a) (u := .int .u32 (wu32 a)) (nog rfl _) rfl rfl (by kernel_rfl) rfl (by kernel_rfl) rfl (by kernel_rfl) (by first | omega | (simp only [List.length_set] at *; omega)) rfl ?_; intro a9 ba
  have bb : Fr 58 [] [⟨0, [], .slice ao4 u1.length cap5⟩, ⟨1, [], .slice ao1 u0.length cap2⟩, ⟨5, [], .slice (sm f) (g.set (u1.length : Int).toNat (wu32 a)).length (w64 ((u1.length : Int) + 1)).toNat⟩, ⟨6, [], y6 a⟩, ⟨7, [], i6 b⟩, ⟨22, [], .bool (decide (b < (u1.length : Int)))⟩, ⟨50, [], .slice (sm f) (g.set (u1.length : Int).toNat (wu32 a)).length (w64 ((u1.length : Int) + 1)).toNat⟩, ⟨52, [], i6 (u1.length : Int)⟩, ⟨54, [], .int .u32 (wu32 a)⟩, ⟨55, [], .pointer (some ⟨f, (u1.length : Int).toNat * 1, none⟩)⟩] cY := by (try simp only [List.length_set] at H); (try simp only [List.length_set]); exact H.reg
  have c0 : Mem w.heap.size [] w Z [.own (tyInt .u32) 105 (sm f) (w64 ((u1.length : Int) + 1)).toNat (g.set (u1.length : Int).toNat (wu32 a))] Z a9 := ba
  apply a6
  refine sqH ?_; intro c1 bc
  refine s1 bb 56 (.slice (sm f) (g.set (u1.length : Int).toNat (wu32 a)).length (w64 ((u1.length : Int) + 1)).toNat) ?_; intro er bd
  obtain ⟨c2, X, be, Y⟩ := c0.freeze 0 rfl
  have aa : Mem w.heap.size [] w Z [] c2 a9 := be
  refine ck bd 105 #[.slice (sm f) (g.set (u1.length : Int).toNat (wu32 a)).length (w64 ((u1.length : Int) + 1)).toNat] ?_
  refine (gtrim_fun (g.set (u1.length : Int).toNat (wu32 a)) (sm f) (w64 ((u1.length : Int) + 1)).toNat _ _ Y aa.fz).mono ?_; rintro _ c3 ⟨ab, ac, bf, rfl, bg, hm⟩; refine ⟨_, rfl, ?_⟩; intro es bh; have bi := aa.callZ hm
  have c4 : Mem w.heap.size [] w Z [] bf c3 := bi
  have c5 := a8 (bg.small)
  refine s1 bh 4 (.slice ab (gtrimS (g.set (u1.length : Int).toNat (wu32 a))).length ac) ?_; intro et c6
  apply bc
  exact r_ (ra1 c6 (.slice ab (gtrimS (g.set (u1.length : Int).toNat (wu32 a))).length ac) ⟨(gtrimS (g.set (u1.length : Int).toNat (wu32 a))), ab, ac, bf, rfl, c5, bg, c4.kp⟩)
 refine k_ (sqH ?_); intro c8 bj
 refine bt q o 3 [] [] [(17, i6 (w64 ((u0.length : Int) + 1)))] ?_; intro eu bk
 obtain ⟨ev, c9⟩ := c7
 refine mks bk o (T := (tyInt .u32)) (w64 ((u0.length : Int) + 1)) (w64 ((u0.length : Int) + 1)) (k := .i64) (k' := .i64) (e := 105) (bytes := 4) (zs := [.int .u32 0]) (z := 0) (by simp only [lim]; omega) (nog rfl _) rfl (by kernel_rfl) rfl (by kernel_rfl) (by kernel_rfl) (by kernel_rfl) (by kernel_rfl) rfl ?_; intro h ew da bl bm
 have J : Mem w.heap.size [] w Z [.own (tyInt .u32) 105 (sm h) (w64 ((u0.length : Int) + 1)).toNat (List.replicate (w64 ((u0.length : Int) + 1)).toNat (0 : Int))] Z da := bm
 refine s1 bl 5 (.slice (sm h) (List.replicate (w64 ((u0.length : Int) + 1)).toNat (0 : Int)).length (w64 ((u0.length : Int) + 1)).toNat) ?_; intro ex bn
 apply bj
 refine sqB bn J [] [] [(6, y6 0)] ?_; intro ey bo
 refine s_ (sqB bo J [] [] [(7, i6 0)] ?_); intro bp bq
 apply b_
 have br : Fr 58 [] [⟨0, [], .slice ao1 u0.length cap2⟩, ⟨1, [], .slice ao4 u1.length cap5⟩, ⟨5, [], .slice (sm h) (List.replicate (w64 ((u0.length : Int) + 1)).toNat (0 : Int)).length (w64 ((u0.length : Int) + 1)).toNat⟩, ⟨6, [], y6 0⟩, ⟨7, [], i6 0⟩] bp := bq.reg
 obtain ⟨db, dc, dd, de⟩ := c9
 refine lp (ι := Int × Int × (List Int)) (fun s => [⟨0, [], .slice ao1 u0.length cap2⟩, ⟨1, [], .slice ao4 u1.length cap5⟩, ⟨5, [], .slice (sm h) s.2.2.length (w64 ((u0.length : Int) + 1)).toNat⟩, ⟨6, [], y6 s.1⟩, ⟨7, [], i6 s.2.1⟩]) (fun s => [.own (tyInt .u32) 105 (sm h) (w64 ((u0.length : Int) + 1)).toNat s.2.2]) (fun s => Z) (fun s => db s.1 s.2.1 s.2.2) (fun s => dc s.1 s.2.1 s.2.2) ⟨0, 0, (List.replicate (w64 ((u0.length : Int) + 1)).toNat (0 : Int))⟩ dd (by exact br.reg) (by exact J) ?_
 rintro ⟨a, b, i⟩ df dg dh bu bv
 have L := de a b i df
 refine s_ (sqB bu bv [] [] [(22, .bool (decide (b < (u0.length : Int))))] ?_); intro ez y
 refine c_ y L (fun _ di => ?_) fun _ dP => ?_
 ·
  refine k_ (s_ (b_ (sqH ?_))); intro dj bx
  refine bt y bv 3 [] [] [(25, y6 a), (26, .slice ao1 u0.length cap2), (27, i6 b)] ?_; intro eA bz
  obtain ⟨dk, bA⟩ := di
  refine ix_ bz hs3 b dk .i64 105 4 ?_; intro bB bC dl d eB dm dn dp bD
  have M := bA d dm
  obtain rfl : dl = ([.int .u32 d] : List Value) := dp
  refine z1 bD bv 29 dn 0 (.int .u32 d) rfl ?_; intro eC bE
  refine bt bE bv 3 [] [] [(6, y6 (wu64 (a + (wu64 d))))] ?_; intro eD bF
  apply bx
  refine s_ (sqB bF bv [] [] [(35, .bool (decide (b < (u1.length : Int))))] ?_); intro eE A
  refine c_ A M (fun _ dq => ?_) fun _ dH => ?_
  ·
   refine rgH ?_; intro dr bG
   refine bt A bv 3 [] [] [(36, y6 (wu64 (a + (wu64 d)))), (37, .slice ao4 u1.length cap5), (38, i6 b)] ?_; intro eF bH
   obtain ⟨ds, bI⟩ := dq
   refine ix_ bH hs6 b ds .i64 105 4 ?_; intro dt du dv n eG dw dx dy bJ
   have dz := bI n dw
   obtain rfl : dv = ([.int .u32 n] : List Value) := dy
   refine z1 bJ bv 40 dx 0 (.int .u32 n) rfl ?_; intro eH bK
   refine bt bK bv 3 [] [] [(6, y6 (wu64 ((wu64 (a + (wu64 d))) + (wu64 n))))] ?_; intro eI bL
   apply bG
   refine t_ (sqH ?_); intro dA bM
   refine bt bL bv 4 [] [] [(43, .slice (sm h) i.length (w64 ((u0.length : Int) + 1)).toNat), (44, i6 b), (46, .int .u32 (wu32 (wu64 ((wu64 (a + (wu64 d))) + (wu64 n)))))] ?_; intro eJ bN
   obtain ⟨dB, bO⟩ := dz
   refine ixo bN bv 0 (T := (tyInt .u32)) (xs := i) b dB (k := .i64) (e := 105) (bytes := 4) (nog rfl _) rfl (by kernel_rfl) rfl (by kernel_rfl) (by kernel_rfl) rfl (by kernel_rfl) ?_; intro dC dD dE N
   obtain rfl : h = dC := by simpa using dE
   refine so N bv 0 (T := (tyInt .u32)) (xs := i) b.toNat (wu32 (wu64 ((wu64 (a + (wu64 d))) + (wu64 n)))) (u := .int .u32 (wu32 (wu64 ((wu64 (a + (wu64 d))) + (wu64 n))))) (nog rfl _) rfl rfl (by kernel_rfl) rfl (by kernel_rfl) rfl (by kernel_rfl) (by first | omega | (simp only [List.length_set] at *; omega)) rfl ?_; intro dF bP
   have bQ : Fr 58 [] [⟨0, [], .slice ao1 u0.length cap2⟩, ⟨1, [], .slice ao4 u1.length cap5⟩, ⟨5, [], .slice (sm h) (i.set b.toNat (wu32 (wu64 ((wu64 (a + (wu64 d))) + (wu64 n))))).length (w64 ((u0.length : Int) + 1)).toNat⟩, ⟨6, [], y6 (wu64 ((wu64 (a + (wu64 d))) + (wu64 n)))⟩, ⟨7, [], i6 b⟩, ⟨22, [], .bool (decide (b < (u0.length : Int)))⟩, ⟨25, [], y6 a⟩, ⟨26, [], .slice ao1 u0.length cap2⟩, ⟨27, [], i6 b⟩, ⟨28, [], pt bB bC⟩, ⟨29, [], .int .u32 d⟩, ⟨35, [], .bool (decide (b < (u1.length : Int)))⟩, ⟨36, [], y6 (wu64 (a + (wu64 d)))⟩, ⟨37, [], .slice ao4 u1.length cap5⟩, ⟨38, [], i6 b⟩, ⟨39, [], pt dt du⟩, ⟨40, [], .int .u32 n⟩, ⟨43, [], .slice (sm h) (i.set b.toNat (wu32 (wu64 ((wu64 (a + (wu64 d))) + (wu64 n))))).length (w64 ((u0.length : Int) + 1)).toNat⟩, ⟨44, [], i6 b⟩, ⟨46, [], .int .u32 (wu32 (wu64 ((wu64 (a + (wu64 d))) + (wu64 n))))⟩, ⟨47, [], .pointer (some ⟨h, b.toNat * 1, none⟩)⟩] dD := by (try simp only [List.length_set] at N); (try simp only [List.length_set]); exact N.reg
   have af : Mem w.heap.size [] w Z [.own (tyInt .u32) 105 (sm h) (w64 ((u0.length : Int) + 1)).toNat (i.set b.toNat (wu32 (wu64 ((wu64 (a + (wu64 d))) + (wu64 n)))))] Z dF := bP
   apply bM
   refine rgB bQ af [] [] [(6, y6 (bShr .u64 (wu64 ((wu64 (a + (wu64 d))) + (wu64 n))) 32))] ?_; intro eK bR
   refine j_ (t_ (rgB bR af [] [] [(7, i6 (w64 (b + 1)))] ?_)); intro eL dG
   exact d_ ⟨⟨bShr .u64 (wu64 ((wu64 (a + (wu64 d))) + (wu64 n))) 32, w64 (b + 1), i.set b.toNat (wu32 (wu64 ((wu64 (a + (wu64 d))) + (wu64 n))))⟩, bO.1, bO.2, (dG.reg).anyβ _ (by kernel_rfl), af.kp⟩
  refine k_ (sqH ?_); intro dI bS
  refine bt A bv 4 [] [] [(43, .slice (sm h) i.length (w64 ((u0.length : Int) + 1)).toNat), (44, i6 b), (46, .int .u32 (wu32 (wu64 (a + (wu64 d)))))] ?_; intro eM bT
  obtain ⟨dJ, bU⟩ := dH
  refine ixo bT bv 0 (T := (tyInt .u32)) (xs := i) b dJ (k := .i64) (e := 105) (bytes := 4) (nog rfl _) rfl (by kernel_rfl) rfl (by kernel_rfl) (by kernel_rfl) rfl (by kernel_rfl) ?_; intro dK dL dM O
  obtain rfl : h = dK := by simpa using dM
  refine so O bv 0 (T := (tyInt .u32)) (xs := i) b.toNat (wu32 (wu64 (a + (wu64 d)))) (u := .int .u32 (wu32 (wu64 (a + (wu64 d))))) (nog rfl _) rfl rfl (by kernel_rfl) rfl (by kernel_rfl) rfl (by kernel_rfl) (by first | omega | (simp only [List.length_set] at *; omega)) rfl ?_; intro dN bV
  have bW : Fr 58 [] [⟨0, [], .slice ao1 u0.length cap2⟩, ⟨1, [], .slice ao4 u1.length cap5⟩, ⟨5, [], .slice (sm h) (i.set b.toNat (wu32 (wu64 (a + (wu64 d))))).length (w64 ((u0.length : Int) + 1)).toNat⟩, ⟨6, [], y6 (wu64 (a + (wu64 d)))⟩, ⟨7, [], i6 b⟩, ⟨22, [], .bool (decide (b < (u0.length : Int)))⟩, ⟨25, [], y6 a⟩, ⟨26, [], .slice ao1 u0.length cap2⟩, ⟨27, [], i6 b⟩, ⟨28, [], pt bB bC⟩, ⟨29, [], .int .u32 d⟩, ⟨35, [], .bool (decide (b < (u1.length : Int)))⟩, ⟨43, [], .slice (sm h) (i.set b.toNat (wu32 (wu64 (a + (wu64 d))))).length (w64 ((u0.length : Int) + 1)).toNat⟩, ⟨44, [], i6 b⟩, ⟨46, [], .int .u32 (wu32 (wu64 (a + (wu64 d))))⟩, ⟨47, [], .pointer (some ⟨h, b.toNat * 1, none⟩)⟩] dL := by (try simp only [List.length_set] at O); (try simp only [List.length_set]); exact O.reg
  have ag : Mem w.heap.size [] w Z [.own (tyInt .u32) 105 (sm h) (w64 ((u0.length : Int) + 1)).toNat (i.set b.toNat (wu32 (wu64 (a + (wu64 d)))))] Z dN := bV
  apply bS
  refine rgB bW ag [] [] [(6, y6 (bShr .u64 (wu64 (a + (wu64 d))) 32))] ?_; intro eN bX
  refine j_ (t_ (rgB bX ag [] [] [(7, i6 (w64 (b + 1)))] ?_)); intro eO dO
  exact d_ ⟨⟨bShr .u64 (wu64 (a + (wu64 d))) 32, w64 (b + 1), i.set b.toNat (wu32 (wu64 (a + (wu64 d))))⟩, bU.1, bU.2, (dO.reg).anyβ _ (by kernel_rfl), ag.kp⟩
 refine x_ (y_ (y_ (z_ (t_ (sqH ?_))))); intro dQ bY
 refine bt y bv 5 [] [] [(50, .slice (sm h) i.length (w64 ((u0.length : Int) + 1)).toNat), (52, i6 (u0.length : Int)), (54, .int .u32 (wu32 a))] ?_; intro eP bZ
 obtain ⟨dR, b0⟩ := dP
 refine ixo bZ bv 0 (T := (tyInt .u32)) (xs := i) (u0.length : Int) dR (k := .i64) (e := 105) (bytes := 4) (nog rfl _) rfl (by kernel_rfl) rfl (by kernel_rfl) (by kernel_rfl) rfl (by kernel_rfl) ?_; intro dS dT dU P
 obtain rfl : h = dS := by simpa using dU
 refine so P bv 0 (T := (tyInt .u32)) (xs := i) (u0.length : Int).toNat (wu32 a) (u := .int .u32 (wu32 a)) (nog rfl _) rfl rfl (by kernel_rfl) rfl (by kernel_rfl) rfl (by kernel_rfl) (by first | omega | (simp only [List.length_set] at *; omega)) rfl ?_; intro b1 b2
 have b3 : Fr 58 [] [⟨0, [], .slice ao1 u0.length cap2⟩, ⟨1, [], .slice ao4 u1.length cap5⟩, ⟨5, [], .slice (sm h) (i.set (u0.length : Int).toNat (wu32 a)).length (w64 ((u0.length : Int) + 1)).toNat⟩, ⟨6, [], y6 a⟩, ⟨7, [], i6 b⟩, ⟨22, [], .bool (decide (b < (u0.length : Int)))⟩, ⟨50, [], .slice (sm h) (i.set (u0.length : Int).toNat (wu32 a)).length (w64 ((u0.length : Int) + 1)).toNat⟩, ⟨52, [], i6 (u0.length : Int)⟩, ⟨54, [], .int .u32 (wu32 a)⟩, ⟨55, [], .pointer (some ⟨h, (u0.length : Int).toNat * 1, none⟩)⟩] dT := by (try simp only [List.length_set] at P); (try simp only [List.length_set]); exact P.reg
 have dV : Mem w.heap.size [] w Z [.own (tyInt .u32) 105 (sm h) (w64 ((u0.length : Int) + 1)).toNat (i.set (u0.length : Int).toNat (wu32 a))] Z b1 := b2
 apply bY
 refine sqH ?_; intro dW b4
 refine s1 b3 56 (.slice (sm h) (i.set (u0.length : Int).toNat (wu32 a)).length (w64 ((u0.length : Int) + 1)).toNat) ?_; intro eQ b5
 obtain ⟨dX, ah, b6, ai⟩ := dV.freeze 0 rfl
 have aj : Mem w.heap.size [] w Z [] dX b1 := b6
 refine ck b5 105 #[.slice (sm h) (i.set (u0.length : Int).toNat (wu32 a)).length (w64 ((u0.length : Int) + 1)).toNat] ?_
 refine (gtrim_fun (i.set (u0.length : Int).toNat (wu32 a)) (sm h) (w64 ((u0.length : Int) + 1)).toNat _ _ ai aj.fz).mono ?_; rintro _ dY ⟨ak, al, b7, rfl, b8, hm⟩; refine ⟨_, rfl, ?_⟩; intro eR b9; have ca := aj.callZ hm
 have dZ : Mem w.heap.size [] w Z [] b7 dY := ca
 have d0 := b0 (b8.small)
 refine s1 b9 4 (.slice ak (gtrimS (i.set (u0.length : Int).toNat (wu32 a))).length al) ?_; intro eS d1
 apply b4
 exact r_ (ra1 d1 (.slice ak (gtrimS (i.set (u0.length : Int).toNat (wu32 a))).length al) ⟨(gtrimS (i.set (u0.length : Int).toNat (wu32 a))), ak, al, b7, rfl, d0, b8, dZ.kp⟩)

theorem gsub_walk (u0 : List Int) (u1 : List Int) (ao1 : Option Addr) (cap2 : Nat) (ao4 : Option Addr) (cap5 : Nat) (Z : Fz) (w : World) (hs3 : SlR (tyInt .u32) Z ao1 cap2 u0) (hs6 : SlR (tyInt .u32) Z ao4 cap5 u1) (hZ : Z.on w) {K : (List Int) → Prop} (hp : gsub_vc u0 u1 K) : Calls Tryz.prog 82 #[.slice ao1 u0.length cap2, .slice ao4 u1.length cap5] w fun e w' => ∃ (r : (List Int)) (ao1001 : Option Addr) (cap1002 : Nat) (Z' : Fz), e = .returned (.slice ao1001 r.length cap1002) ∧ K r ∧ SlR (tyInt .u32) Z' ao1001 cap1002 r ∧ Mem w.heap.size [] w Z [] Z' w' := by
 refine enter0 Tryz.func82 rfl rfl (by kernel_rfl) ?_; intro a0 I; have l := Mem.start w Z hZ
 have aM := hp (hs3.small) (hs6.small)
 refine sqB I l [] [] [] ?_; intro bB L
 refine sqH ?_; intro aN M
 refine bt L l 2 [] [] [(10, i6 (u0.length : Int))] ?_; intro bC N
 obtain ⟨bD, aO⟩ := aM
 refine mks N l (T := (tyInt .u32)) (u0.length : Int) (u0.length : Int) (k := .i64) (k' := .i64) (e := 105) (bytes := 4) (zs := [.int .u32 0]) (z := 0) (by simp only [lim]; omega) (nog rfl _) rfl (by kernel_rfl) rfl (by kernel_rfl) (by kernel_rfl) (by kernel_rfl) (by kernel_rfl) rfl ?_; intro d bE aP O P
 have n : Mem w.heap.size [] w Z [.own (tyInt .u32) 105 (sm d) (u0.length : Int).toNat (List.replicate (u0.length : Int).toNat (0 : Int))] Z aP := P
 refine s1 O 5 (.slice (sm d) (List.replicate (u0.length : Int).toNat (0 : Int)).length (u0.length : Int).toNat) ?_; intro bF Q
 apply M
 refine sqB Q n [] [] [(6, y6 0)] ?_; intro bG R
 refine s_ (sqB R n [] [] [(7, i6 0)] ?_); intro S U
 apply b_
 have V : Fr 45 [] [⟨0, [], .slice ao1 u0.length cap2⟩, ⟨1, [], .slice ao4 u1.length cap5⟩, ⟨5, [], .slice (sm d) (List.replicate (u0.length : Int).toNat (0 : Int)).length (u0.length : Int).toNat⟩, ⟨6, [], y6 0⟩, ⟨7, [], i6 0⟩] S := U.reg
 obtain ⟨aQ, aR, aS, aT⟩ := aO
 refine lp (ι := Int × Int × (List Int)) (fun s => [⟨0, [], .slice ao1 u0.length cap2⟩, ⟨1, [], .slice ao4 u1.length cap5⟩, ⟨5, [], .slice (sm d) s.2.2.length (u0.length : Int).toNat⟩, ⟨6, [], y6 s.1⟩, ⟨7, [], i6 s.2.1⟩]) (fun s => [.own (tyInt .u32) 105 (sm d) (u0.length : Int).toNat s.2.2]) (fun s => Z) (fun s => aQ s.1 s.2.1 s.2.2) (fun s => aR s.1 s.2.1 s.2.2) ⟨0, 0, (List.replicate (u0.length : Int).toNat (0 : Int))⟩ aS (by exact V.reg) (by exact n) ?_
 rintro ⟨c, a, f⟩ aU aV X Y aa
 have o := aT c a f aU
 refine s_ (sqB Y aa [] [] [(15, .bool (decide (a < (u0.length : Int))))] ?_); intro bH i
 refine c_ i o (fun _ aW => ?_) fun _ aE => ?_
 ·
  refine k_ (s_ (b_ (sqH ?_))); intro aX ac
  refine bt i aa 2 [] [] [(18, .slice ao1 u0.length cap2), (19, i6 a)] ?_; intro bI ad
  obtain ⟨aY, ae⟩ := aW
  refine ix_ ad hs3 a aY .i64 105 4 ?_; intro af ag aZ b bJ a1 a2 a3 ah
  have p := ae b a1
  obtain rfl : aZ = ([.int .u32 b] : List Value) := a3
  refine z1 ah aa 21 a2 0 (.int .u32 b) rfl ?_; intro bK ai
  refine bt ai aa 4 [] [] [(8, y6 (wu64 ((wu64 b) - c)))] ?_; intro bL aj
  apply ac
  refine s_ (sqB aj aa [] [] [(28, .bool (decide (a < (u1.length : Int))))] ?_); intro bM j
  refine c_ j p (fun _ a4 => ?_) fun _ bl => ?_
  ·
   refine rgH ?_; intro a5 ak
   refine bt j aa 3 [] [] [(29, y6 (wu64 ((wu64 b) - c))), (30, .slice ao4 u1.length cap5), (31, i6 a)] ?_; intro bN al
   obtain ⟨a6, am⟩ := a4
   refine ix_ al hs6 a a6 .i64 105 4 ?_; intro a7 a8 a9 h bO ba bb bc an
   have bd := am h ba
   obtain rfl : a9 = ([.int .u32 h] : List Value) := bc
   refine z1 an aa 33 bb 0 (.int .u32 h) rfl ?_; intro bP ao
   refine bt ao aa 3 [] [] [(8, y6 (wu64 ((wu64 ((wu64 b) - c)) - (wu64 h))))] ?_; intro bQ ap
   apply ak
   refine t_ (sqH ?_); intro be aq
   refine bt ap aa 4 [] [] [(36, .slice (sm d) f.length (u0.length : Int).toNat), (37, i6 a), (39, .int .u32 (wu32 (wu64 ((wu64 ((wu64 b) - c)) - (wu64 h)))))] ?_; intro bR ar
   obtain ⟨bf, au⟩ := bd
   refine ixo ar aa 0 (T := (tyInt .u32)) (xs := f) a bf (k := .i64) (e := 105) (bytes := 4) (nog rfl _) rfl (by kernel_rfl) rfl (by kernel_rfl) (by kernel_rfl) rfl (by kernel_rfl) ?_; intro bg bh bi q
   obtain rfl : d = bg := by simpa using bi
   refine so q aa 0 (T := (tyInt .u32)) (xs := f) a.toNat (wu32 (wu64 ((wu64 ((wu64 b) - c)) - (wu64 h)))) (u := .int .u32 (wu32 (wu64 ((wu64 ((wu64 b) - c)) - (wu64 h))))) (nog rfl _) rfl rfl (by kernel_rfl) rfl (by kernel_rfl) rfl (by kernel_rfl) (by first | omega | (simp only [List.length_set] at *; omega)) rfl ?_; intro bj av
   have aw : Fr 45 [] [⟨0, [], .slice ao1 u0.length cap2⟩, ⟨1, [], .slice ao4 u1.length cap5⟩, ⟨5, [], .slice (sm d) (f.set a.toNat (wu32 (wu64 ((wu64 ((wu64 b) - c)) - (wu64 h))))).length (u0.length : Int).toNat⟩, ⟨6, [], y6 c⟩, ⟨7, [], i6 a⟩, ⟨8, [], y6 (wu64 ((wu64 ((wu64 b) - c)) - (wu64 h)))⟩, ⟨15, [], .bool (decide (a < (u0.length : Int)))⟩, ⟨18, [], .slice ao1 u0.length cap2⟩, ⟨19, [], i6 a⟩, ⟨20, [], pt af ag⟩, ⟨21, [], .int .u32 b⟩, ⟨28, [], .bool (decide (a < (u1.length : Int)))⟩, ⟨29, [], y6 (wu64 ((wu64 b) - c))⟩, ⟨30, [], .slice ao4 u1.length cap5⟩, ⟨31, [], i6 a⟩, ⟨32, [], pt a7 a8⟩, ⟨33, [], .int .u32 h⟩, ⟨36, [], .slice (sm d) (f.set a.toNat (wu32 (wu64 ((wu64 ((wu64 b) - c)) - (wu64 h))))).length (u0.length : Int).toNat⟩, ⟨37, [], i6 a⟩, ⟨39, [], .int .u32 (wu32 (wu64 ((wu64 ((wu64 b) - c)) - (wu64 h))))⟩, ⟨40, [], .pointer (some ⟨d, a.toNat * 1, none⟩)⟩] bh := by (try simp only [List.length_set] at q); (try simp only [List.length_set]); exact q.reg
   have B : Mem w.heap.size [] w Z [.own (tyInt .u32) 105 (sm d) (u0.length : Int).toNat (f.set a.toNat (wu32 (wu64 ((wu64 ((wu64 b) - c)) - (wu64 h)))))] Z bj := av
   apply aq
   refine rgB aw B [] [] [(6, y6 (bShr .u64 (wu64 ((wu64 ((wu64 b) - c)) - (wu64 h))) 63))] ?_; intro bS ax
   refine j_ (t_ (rgB ax B [] [] [(7, i6 (w64 (a + 1)))] ?_)); intro bT bk
   exact d_ ⟨⟨bShr .u64 (wu64 ((wu64 ((wu64 b) - c)) - (wu64 h))) 63, w64 (a + 1), f.set a.toNat (wu32 (wu64 ((wu64 ((wu64 b) - c)) - (wu64 h))))⟩, au.1, au.2, (bk.reg).anyβ _ (by kernel_rfl), B.kp⟩
  refine k_ (sqH ?_); intro bm ay
  refine bt j aa 4 [] [] [(36, .slice (sm d) f.length (u0.length : Int).toNat), (37, i6 a), (39, .int .u32 (wu32 (wu64 ((wu64 b) - c))))] ?_; intro bU az
  obtain ⟨bn, aA⟩ := bl
  refine ixo az aa 0 (T := (tyInt .u32)) (xs := f) a bn (k := .i64) (e := 105) (bytes := 4) (nog rfl _) rfl (by kernel_rfl) rfl (by kernel_rfl) (by kernel_rfl) rfl (by kernel_rfl) ?_; intro bo bp bq v
  obtain rfl : d = bo := by simpa using bq
  refine so v aa 0 (T := (tyInt .u32)) (xs := f) a.toNat (wu32 (wu64 ((wu64 b) - c))) (u := .int .u32 (wu32 (wu64 ((wu64 b) - c)))) (nog rfl _) rfl rfl (by kernel_rfl) rfl (by kernel_rfl) rfl (by kernel_rfl) (by first | omega | (simp only [List.length_set] at *; omega)) rfl ?_; intro br aB
  have aC : Fr 45 [] [⟨0, [], .slice ao1 u0.length cap2⟩, ⟨1, [], .slice ao4 u1.length cap5⟩, ⟨5, [], .slice (sm d) (f.set a.toNat (wu32 (wu64 ((wu64 b) - c)))).length (u0.length : Int).toNat⟩, ⟨6, [], y6 c⟩, ⟨7, [], i6 a⟩, ⟨8, [], y6 (wu64 ((wu64 b) - c))⟩, ⟨15, [], .bool (decide (a < (u0.length : Int)))⟩, ⟨18, [], .slice ao1 u0.length cap2⟩, ⟨19, [], i6 a⟩, ⟨20, [], pt af ag⟩, ⟨21, [], .int .u32 b⟩, ⟨28, [], .bool (decide (a < (u1.length : Int)))⟩, ⟨36, [], .slice (sm d) (f.set a.toNat (wu32 (wu64 ((wu64 b) - c)))).length (u0.length : Int).toNat⟩, ⟨37, [], i6 a⟩, ⟨39, [], .int .u32 (wu32 (wu64 ((wu64 b) - c)))⟩, ⟨40, [], .pointer (some ⟨d, a.toNat * 1, none⟩)⟩] bp := by (try simp only [List.length_set] at v); (try simp only [List.length_set]); exact v.reg
  have C : Mem w.heap.size [] w Z [.own (tyInt .u32) 105 (sm d) (u0.length : Int).toNat (f.set a.toNat (wu32 (wu64 ((wu64 b) - c))))] Z br := aB
  apply ay
  refine rgB aC C [] [] [(6, y6 (bShr .u64 (wu64 ((wu64 b) - c)) 63))] ?_; intro bV aD
  refine j_ (t_ (rgB aD C [] [] [(7, i6 (w64 (a + 1)))] ?_)); intro bW bs
  exact d_ ⟨⟨bShr .u64 (wu64 ((wu64 b) - c)) 63, w64 (a + 1), f.set a.toNat (wu32 (wu64 ((wu64 b) - c)))⟩, aA.1, aA.2, (bs.reg).anyβ _ (by kernel_rfl), C.kp⟩
 refine x_ (y_ (y_ (z_ (t_ (sqH ?_))))); intro bu aF
 refine s1 i 43 (.slice (sm d) f.length (u0.length : Int).toNat) ?_; intro bX aG
 obtain ⟨bv, D, aH, E⟩ := aa.freeze 0 rfl
 have F : Mem w.heap.size [] w Z [] bv X := aH
 refine ck aG 105 #[.slice (sm d) f.length (u0.length : Int).toNat] ?_
 refine (gtrim_fun f (sm d) (u0.length : Int).toNat _ _ E F.fz).mono ?_; rintro _ bw ⟨G, H, aI, rfl, aJ, hm⟩; refine ⟨_, rfl, ?_⟩; intro bY aK; have aL := F.callZ hm
 have bx : Mem w.heap.size [] w Z [] aI bw := aL
 have bz := aE (aJ.small)
 refine s1 aK 4 (.slice G (gtrimS f).length H) ?_; intro bZ bA
 apply aF
 exact r_ (ra1 bA (.slice G (gtrimS f).length H) ⟨(gtrimS f), G, H, aI, rfl, bz, aJ, bx.kp⟩)

end Go.Proofs.YtdndfbamhnchfaaGreatDoor
set_option linter.unusedVariables false
set_option linter.unusedSimpArgs false
set_option maxRecDepth 100000
set_option maxHeartbeats 0
namespace Go.Proofs.YtdndfbamhnchfaaGreatDoor
open Go.Sy Go.RowKit
abbrev e75Nc (X : BRat) (A0 : Option Addr) (C0 : Nat) (A1 : Option Addr) (C1 : Nat) : List Value := [.bool X.a.neg, .slice A0 X.a.abs.length C0, .bool X.b.neg, .slice A1 X.b.abs.length C1]
def gplain_fun (u0 : List Int) (hpre : wok u0) (ao1 : Option Addr) (cap2 : Nat) (Z : Fz) (w : World) (hs3 : SlR (tyInt .u32) Z ao1 cap2 u0) (hZ : Z.on w) := f_ (gplain_walk u0 ao1 cap2 Z w hs3 hZ (gplain_ok u0 hpre))
def gcmp_fun (u0 : List Int) (u1 : List Int) (hpre : u0.length ≤ 1000 ∧ u1.length ≤ 1000 ∧ u0 = ws (wv u0) ∧ u1 = ws (wv u1)) (ao1 : Option Addr) (cap2 : Nat) (ao4 : Option Addr) (cap5 : Nat) (Z : Fz) (w : World) (hs3 : SlR (tyInt .u32) Z ao1 cap2 u0) (hs6 : SlR (tyInt .u32) Z ao4 cap5 u1) (hZ : Z.on w) := f_ (gcmp_walk u0 u1 ao1 cap2 ao4 cap5 Z w hs3 hs6 hZ (gcmp_ok u0 u1 hpre))
def gtwin_fun (u0 : List Int) (hpre : u0.length ≤ 1000000) (ao1 : Option Addr) (cap2 : Nat) (Z : Fz) (w : World) (hs3 : SlR (tyInt .u32) Z ao1 cap2 u0) (hZ : Z.on w) := fc_ (gtwin_walk u0 ao1 cap2 Z w hs3 hZ (gtwin_ok u0 hpre))
def gwords_fun (u0 : Int) (hpre : 0 ≤ u0 ∧ u0 ≤ 18446744073709551615)  (Z : Fz) (w : World)  (hZ : Z.on w) := fc_ (gwords_walk u0  Z w  hZ (gwords_ok u0 hpre))
def gmul_fun (u0 : List Int) (u1 : List Int) (hpre : wok u0 ∧ wok u1 ∧ u0.length ≤ 1000 ∧ u1.length ≤ 1000) (ao1 : Option Addr) (cap2 : Nat) (ao4 : Option Addr) (cap5 : Nat) (Z : Fz) (w : World) (hs3 : SlR (tyInt .u32) Z ao1 cap2 u0) (hs6 : SlR (tyInt .u32) Z ao4 cap5 u1) (hZ : Z.on w) := fc_ (gmul_walk u0 u1 ao1 cap2 ao4 cap5 Z w hs3 hs6 hZ (gmul_ok u0 u1 hpre))
def gadd_fun (u0 : List Int) (u1 : List Int) (hpre : wok u0 ∧ wok u1 ∧ u0.length ≤ 1000000 ∧ u1.length ≤ 1000000) (ao1 : Option Addr) (cap2 : Nat) (ao4 : Option Addr) (cap5 : Nat) (Z : Fz) (w : World) (hs3 : SlR (tyInt .u32) Z ao1 cap2 u0) (hs6 : SlR (tyInt .u32) Z ao4 cap5 u1) (hZ : Z.on w) := fc_ (gadd_walk u0 u1 ao1 cap2 ao4 cap5 Z w hs3 hs6 hZ (gadd_ok u0 u1 hpre))
def gsub_fun (u0 : List Int) (u1 : List Int) (hpre : wok u0 ∧ wok u1 ∧ u0.length ≤ 1000 ∧ u1.length ≤ u0.length ∧ wv u1 ≤ wv u0) (ao1 : Option Addr) (cap2 : Nat) (ao4 : Option Addr) (cap5 : Nat) (Z : Fz) (w : World) (hs3 : SlR (tyInt .u32) Z ao1 cap2 u0) (hs6 : SlR (tyInt .u32) Z ao4 cap5 u1) (hZ : Z.on w) := fc_ (gsub_walk u0 u1 ao1 cap2 ao4 cap5 Z w hs3 hs6 hZ (gsub_ok u0 u1 hpre))
theorem gdiv_walk (u0 : List Int) (u1 : List Int) (ao1 : Option Addr) (cap2 : Nat) (ao4 : Option Addr) (cap5 : Nat) (Z : Fz) (w : World) (hs3 : SlR (tyInt .u32) Z ao1 cap2 u0) (hs6 : SlR (tyInt .u32) Z ao4 cap5 u1) (hZ : Z.on w) {K : ((List Int) × (List Int)) → Prop} (hp : gdiv_vc u0 u1 K) : Calls Tryz.prog 114 #[.slice ao1 u0.length cap2, .slice ao4 u1.length cap5] w fun e w' => ∃ (r : (List Int) × (List Int)) (ao1001 : Option Addr) (cap1002 : Nat) (ao1004 : Option Addr) (cap1005 : Nat) (Z' : Fz), e = .returned (.tuple #[.slice ao1001 r.1.length cap1002, .slice ao1004 r.2.length cap1005]) ∧ K r ∧ SlR (tyInt .u32) Z' ao1001 cap1002 r.1 ∧ SlR (tyInt .u32) Z' ao1004 cap1005 r.2 ∧ Mem w.heap.size [] w Z [] Z' w' := by
 refine enter0 Tryz.func114 rfl rfl (by kernel_rfl) ?_; intro a0 G; have c := Mem.start w Z hZ
 have an := hp (hs3.small) (hs6.small)
 refine sqB G c [] [] [] ?_; intro a2 I
 refine s_ (sqB I c [] [] [(30, .bool ((u1.length : Int) == 0))] ?_); intro a3 n
 obtain ⟨ao, ap⟩ := an
 refine cn n ao ?_
 refine k_ (s_ (sqH ?_)); intro aq J
 refine bt n c 2 [] [] [(31, .slice ao1 u0.length cap2), (32, .slice ao4 u1.length cap5)] ?_; intro a4 L
 obtain ⟨ar, i⟩ := ap
 refine fc L c (gcmp_fun u0 u1 ar ao1 cap2 ao4 cap5 _ _ hs3 hs6 c.fz) ?_; intro a5 a6 M b
 refine s1 M 34 (.bool (decide ((gcmpS u0 u1) < 0))) ?_; intro a7 f
 apply J
 refine c_ f i (fun _ au => ?_) fun _ aC => ?_
 ·
  refine sqH ?_; intro av N
  refine s1 f 35 (.slice ao1 u0.length cap2) ?_; intro a8 O
  obtain ⟨aw, P⟩ := au
  refine ck O 83 #[.slice ao1 u0.length cap2] ?_
  refine (gtwin_fun u0 aw ao1 cap2 _ _ hs3 b.fz).mono ?_; rintro _ Q ⟨j, k, ax, rfl, hm⟩; refine ⟨_, rfl, ?_⟩; intro a9 R; have S := b.callZ hm
  have q : Mem w.heap.size [] w Z [.own (tyInt .u32) 105 j k (gtwinS u0)] ax Q := S
  have ay := P (q.ownSmall 0 rfl)
  refine bt R q 2 [] [] [(4, .slice none 0 0), (5, .slice j (gtwinS u0).length k)] ?_; intro ba az
  apply N
  refine r_ (h_ ?_)
  obtain ⟨T, s, U, aA⟩ := q.freeze 0 rfl
  have aB : Mem w.heap.size [] w Z [] T Q := U
  exact ra2 az (.tuple #[.slice none 0 0, .slice j (gtwinS u0).length k]) ⟨([], (gtwinS u0)), none, 0, j, k, T, rfl, ay, (SlR.nil _ _), aA, aB.kp⟩
 refine k_ (s_ (sqB f b [] [] [(39, .bool (decide ((u0.length : Int) ≤ 2)))] ?_)); intro bb u
 obtain ⟨aD, aE⟩ := aC
 refine cy u aD ?_
 refine sqH ?_; intro aF V
 refine s1 u 40 (.slice ao1 u0.length cap2) ?_; intro bc W
 obtain ⟨aG, aH⟩ := aE
 refine fc W b (gplain_fun u0 aG ao1 cap2 _ _ hs3 b.fz) ?_; intro bd be X v
 refine s1 X 42 (.slice ao4 u1.length cap5) ?_; intro bf Y
 obtain ⟨aI, aJ⟩ := aH
 refine fc Y v (gplain_fun u1 aI ao4 cap5 _ _ hs6 v.fz) ?_; intro bg bh aa x
 refine bt aa x 2 [] [] [(6, y6 (gplainS u0)), (7, y6 (gplainS u1))] ?_; intro aK ab
 apply V
 have ac : Fr 273 [] [⟨6, [], y6 (gplainS u0)⟩, ⟨7, [], y6 (gplainS u1)⟩] aK := ab.reg
 refine wp_seq (rgS mixed x [(0, true), (1, true), (4, true), (5, true), (2, true), (6, true), (3, false), (7, false), (8, true), (9, true)] [] [] [] ?_)
 intro aL ad bi y
 have d := Fz.le.refl Z
 refine cS ac 4 [] [] [(44, y6 (gplainS u0)), (45, y6 (gplainS u1)), (48, y6 (gplainS u0)), (49, y6 (gplainS u1))] ?_; intro bj z
 obtain ⟨aM, aN⟩ := aJ
 refine cst rfl z (y6 (wu64 ((gplainS u0).tdiv (gplainS u1)))) (nog rfl _) rfl (by kernel_rfl) (fun v108 hC => quo_run z (g := []) rfl (by kernel_rfl) (by kernel_rfl) aM rfl) ?_; intro bk A
 obtain ⟨aO, aP⟩ := aN
 refine cst rfl A (y6 ((gplainS u0).tmod (gplainS u1))) (nog rfl _) rfl (by kernel_rfl) (fun v113 hC => rem_run A (g := []) rfl (by kernel_rfl) (by kernel_rfl) aO rfl) ?_; intro bl ae
 refine eS rfl ?_; intro aQ af
 obtain ⟨aR, aS⟩ := aP
 refine ck ae 104 #[y6 (wu64 ((gplainS u0).tdiv (gplainS u1)))] ?_
 refine (gwords_fun (wu64 ((gplainS u0).tdiv (gplainS u1))) aR _ _ y.fz).mono ?_; rintro _ aT ⟨B, C, aU, rfl, D, hm⟩; refine ⟨_, rfl, ?_⟩; intro bm ag; have ah := y.callZ hm; have l := hm.ext.le
 replace d := d.mono l
 have m : Mem w.heap.size [] w Z [] aU aT := ah
 refine nl (qnI (af _ _ (m.cst d []) ?_))
 refine eS rfl ?_; intro aV ai
 obtain ⟨aW, aX⟩ := aS
 refine ck ag 104 #[y6 ((gplainS u0).tmod (gplainS u1))] ?_
 refine (gwords_fun ((gplainS u0).tmod (gplainS u1)) aW _ _ m.fz).mono ?_; rintro _ aY ⟨E, F, aj, rfl, aZ, hm⟩; refine ⟨_, rfl, ?_⟩; intro bn ak; have al := m.callZ hm; have h := hm.ext.le
 replace d := d.mono h
 replace D := D.mono h
 have am : Mem w.heap.size [] w Z [] aj aY := al
 refine nl (qnI (ai _ _ (am.cst d []) ?_))
 refine cS ak 2 [] [] [(4, .slice B (gwordsS (wu64 ((gplainS u0).tdiv (gplainS u1)))).length C), (5, .slice E (gwordsS ((gplainS u0).tmod (gplainS u1))).length F)] ?_; intro bo a1
 refine nS (ad _ _ ?_)
 exact t_ (r_ (h_ (ra2 a1 (.tuple #[.slice B (gwordsS (wu64 ((gplainS u0).tdiv (gplainS u1)))).length C, .slice E (gwordsS ((gplainS u0).tmod (gplainS u1))).length F]) ⟨((gwordsS (wu64 ((gplainS u0).tdiv (gplainS u1)))), (gwordsS ((gplainS u0).tmod (gplainS u1)))), B, C, E, F, aj, rfl, aX, D, aZ, am.kp⟩)))

theorem gcom_walk (u0 : List Int) (u1 : List Int) (ao1 : Option Addr) (cap2 : Nat) (ao4 : Option Addr) (cap5 : Nat) (Z : Fz) (w : World) (hs3 : SlR (tyInt .u32) Z ao1 cap2 u0) (hs6 : SlR (tyInt .u32) Z ao4 cap5 u1) (hZ : Z.on w) {K : (List Int) → Prop} (hp : gcom_vc u0 u1 K) : Calls Tryz.prog 113 #[.slice ao1 u0.length cap2, .slice ao4 u1.length cap5] w fun e w' => ∃ (r : (List Int)) (ao1001 : Option Addr) (cap1002 : Nat) (Z' : Fz), e = .returned (.slice ao1001 r.length cap1002) ∧ K r ∧ SlR (tyInt .u32) Z' ao1001 cap1002 r ∧ Mem w.heap.size [] w Z [] Z' w' := by
 refine enter0 Tryz.func113 rfl rfl (by kernel_rfl) ?_; intro a0 H; have q := Mem.start w Z hZ
 have av := hp (hs3.small) (hs6.small)
 refine sqB H q [] [] [] ?_; intro L M
 refine s_ (b_ ?_)
 have N : Fr 49 [] [⟨0, [], .slice ao1 u0.length cap2⟩, ⟨1, [], .slice ao4 u1.length cap5⟩] L := M.reg
 obtain ⟨aw, ax, ay, az⟩ := av
 refine lp (ι := (List Int) × (List Int) × (Option Addr) × Nat × (Option Addr) × Nat) (fun s => [⟨0, [], .slice s.2.2.1 s.1.length s.2.2.2.1⟩, ⟨1, [], .slice s.2.2.2.2.1 s.2.1.length s.2.2.2.2.2⟩]) (fun s => []) (fun s => Z) (fun s => aw s.1 s.2.1 ∧ SlR (tyInt .u32) Z s.2.2.1 s.2.2.2.1 s.1 ∧ SlR (tyInt .u32) Z s.2.2.2.2.1 s.2.2.2.2.2 s.2.1) (fun s => ax s.1 s.2.1) ⟨u0, u1, ao1, cap2, ao4, cap5⟩ ⟨ay, hs3, hs6⟩ (by exact N.reg) (by exact q) ?_
 rintro ⟨b, d, h, i, u, v⟩ ⟨aA, n, x⟩ aB aC P Q
 have aD := az b d aA
 refine s_ (sqB P Q [] [] [(13, .bool (decide ((d.length : Int) > 2)))] ?_); intro ba y
 obtain ⟨aE, o⟩ := aD
 refine cn y aE ?_
 refine x_ (y_ (y_ (z_ (t_ (s_ (sqB y Q [] [] [(24, .bool ((d.length : Int) == 0))] ?_)))))); intro bb k
 refine c_ k o (fun _ aF => ?_) fun _ aH => ?_
 ·
  refine sqB k Q [] [] [(4, .slice h b.length i)] ?_; intro bc aG
  exact r_ (h_ (ra1 aG (.slice h b.length i) ⟨b, h, i, Z, rfl, aF, n, Q.kp⟩))
 refine k_ (s_ (sqB k Q [] [] [(28, .bool (decide ((b.length : Int) > 2)))] ?_)); intro bd A
 obtain ⟨aI, aJ⟩ := aH
 refine cn A aI ?_
 refine k_ (sqH ?_); intro aK S
 refine s1 A 37 (.slice h b.length i) ?_; intro be T
 obtain ⟨aL, aM⟩ := aJ
 refine fc T Q (gplain_fun b aL h i _ _ n Q.fz) ?_; intro bf bg U B
 refine s1 U 39 (.slice u d.length v) ?_; intro bh V
 obtain ⟨aN, aO⟩ := aM
 refine fc V B (gplain_fun d aN u v _ _ x B.fz) ?_; intro bi bj W C
 refine bt W C 2 [] [] [(9, y6 (gplainS b)), (10, y6 (gplainS d))] ?_; intro X Y
 apply S
 refine s_ (b_ ?_)
 have aa : Fr 49 [] [⟨9, [], y6 (gplainS b)⟩, ⟨10, [], y6 (gplainS d)⟩] X := Y.reg
 obtain ⟨aP, aQ, aR, aS⟩ := aO
 refine lp (ι := Int × Int) (fun s => [⟨9, [], y6 s.1⟩, ⟨10, [], y6 s.2⟩]) (fun s => []) (fun s => Z) (fun s => aP s.1 s.2) (fun s => aQ s.1 s.2) ⟨(gplainS b), (gplainS d)⟩ aR (by exact aa.reg) (by exact C) ?_
 rintro ⟨a, c⟩ aT aU aV ac ad
 have p := aS a c aT
 refine s_ (sqB ac ad [] [] [(42, .bool (decide (c > 0)))] ?_); intro aW l
 refine c_ l p (fun _ aX => ?_) fun _ a3 => ?_
 ·
  refine k_ (b_ ?_)
  have af : Fr 49 [] [⟨9, [], y6 a⟩, ⟨10, [], y6 c⟩] aW := l.reg
  refine qrgH mixed (by kernel_rfl) ad ?_; intro aY ag
  refine q1 af 43 (y6 c) ?_; intro bk ah
  refine q1 ah 44 (y6 a) ?_; intro bl ai
  refine q1 ai 45 (y6 c) ?_; intro bm E
  obtain ⟨aZ, aj⟩ := aX
  refine qu_ E (y6 (a.tmod c)) (fun v114 hC => rem_run E (g := []) rfl (by kernel_rfl) (by kernel_rfl) aZ rfl) ?_; intro bn ak
  refine q1 ak 9 (y6 c) ?_; intro bo al
  refine q1 al 10 (y6 (a.tmod c)) ?_; intro bp a1
  refine qnl (ag _ ?_); intro bq a2
  exact j_ (d_ ⟨⟨c, a.tmod c⟩, aj.1, aj.2, (a1.reg).anyβ _ (by kernel_rfl), a2.kp⟩)
 refine x_ (y_ (y_ (z_ (t_ (sqH ?_))))); intro a4 am
 refine s1 l 47 (y6 a) ?_; intro br an
 obtain ⟨a5, ao⟩ := a3
 refine ck an 104 #[y6 a] ?_
 refine (gwords_fun a a5 _ _ ad.fz).mono ?_; rintro _ a6 ⟨F, G, ap, rfl, aq, hm⟩; refine ⟨_, rfl, ?_⟩; intro bs ar; have au := ad.callZ hm
 have a7 : Mem w.heap.size [] w Z [] ap a6 := au
 have a8 := ao (aq.small)
 refine s1 ar 4 (.slice F (gwordsS a).length G) ?_; intro bu a9
 apply am
 exact r_ (ra1 a9 (.slice F (gwordsS a).length G) ⟨(gwordsS a), F, G, ap, rfl, a8, aq, a7.kp⟩)

theorem gsum_walk (u0 : Bool) (u1 : List Int) (u2 : Bool) (u3 : List Int) (ao1 : Option Addr) (cap2 : Nat) (ao4 : Option Addr) (cap5 : Nat) (Z : Fz) (w : World) (hs3 : SlR (tyInt .u32) Z ao1 cap2 u1) (hs6 : SlR (tyInt .u32) Z ao4 cap5 u3) (hZ : Z.on w) {K : (Bool × (List Int)) → Prop} (hp : gsum_vc u0 u1 u2 u3 K) : Calls Tryz.prog 102 #[.bool u0, .slice ao1 u1.length cap2, .bool u2, .slice ao4 u3.length cap5] w fun e w' => ∃ (r : Bool × (List Int)) (ao1001 : Option Addr) (cap1002 : Nat) (Z' : Fz), e = .returned (.tuple #[.bool r.1, .slice ao1001 r.2.length cap1002]) ∧ K r ∧ SlR (tyInt .u32) Z' ao1001 cap1002 r.2 ∧ Mem w.heap.size [] w Z [] Z' w' := by
 refine enter0 Tryz.func102 rfl rfl (by kernel_rfl) ?_; intro a0 v; have a := Mem.start w Z hZ
 have g := hp (hs3.small) (hs6.small)
 refine sqB v a [] [] [] ?_; intro az y
 refine s_ (sqB y a [] [] [(12, .bool (u0 == u2))] ?_); intro aA d
 refine c_ d g (fun _ ac => ?_) fun _ ai => ?_
 ·
  refine sqH ?_; intro ad z
  refine bt d a 3 [] [] [(13, .bool u0), (14, .slice ao1 u1.length cap2), (15, .slice ao4 u3.length cap5)] ?_; intro aB A
  obtain ⟨ae, B⟩ := ac
  refine ck A 80 #[.slice ao1 u1.length cap2, .slice ao4 u3.length cap5] ?_
  refine (gadd_fun u1 u3 ae ao1 cap2 ao4 cap5 _ _ hs3 hs6 a.fz).mono ?_; rintro _ af ⟨j, k, C, rfl, D, hm⟩; refine ⟨_, rfl, ?_⟩; intro aC E; have F := a.callZ hm
  have G : Mem w.heap.size [] w Z [] C af := F
  have ag := B (D.small)
  refine bt E G 2 [] [] [(8, .bool u0), (9, .slice j (gaddS u1 u3).length k)] ?_; intro aD ah
  apply z
  exact r_ (h_ (ra2 ah (.tuple #[.bool u0, .slice j (gaddS u1 u3).length k]) ⟨(u0, (gaddS u1 u3)), j, k, C, rfl, ag, D, G.kp⟩))
 refine k_ (s_ (sqH ?_)); intro aj H
 refine bt d a 2 [] [] [(17, .slice ao1 u1.length cap2), (18, .slice ao4 u3.length cap5)] ?_; intro aE I
 obtain ⟨ak, h⟩ := ai
 refine fc I a (gcmp_fun u1 u3 ak ao1 cap2 ao4 cap5 _ _ hs3 hs6 a.fz) ?_; intro aF aG J b
 refine s1 J 20 (.bool (decide ((gcmpS u1 u3) ≥ 0))) ?_; intro aH f
 apply H
 refine c_ f h (fun _ al => ?_) fun _ ar => ?_
 ·
  refine sqH ?_; intro am L
  refine bt f b 3 [] [] [(21, .bool u0), (22, .slice ao1 u1.length cap2), (23, .slice ao4 u3.length cap5)] ?_; intro aI M
  obtain ⟨an, N⟩ := al
  refine ck M 82 #[.slice ao1 u1.length cap2, .slice ao4 u3.length cap5] ?_
  refine (gsub_fun u1 u3 an ao1 cap2 ao4 cap5 _ _ hs3 hs6 b.fz).mono ?_; rintro _ ao ⟨n, o, O, rfl, P, hm⟩; refine ⟨_, rfl, ?_⟩; intro aJ Q; have R := b.callZ hm
  have S : Mem w.heap.size [] w Z [] O ao := R
  have ap := N (P.small)
  refine bt Q S 2 [] [] [(8, .bool u0), (9, .slice n (gsubS u1 u3).length o)] ?_; intro aK aq
  apply L
  exact r_ (h_ (ra2 aq (.tuple #[.bool u0, .slice n (gsubS u1 u3).length o]) ⟨(u0, (gsubS u1 u3)), n, o, O, rfl, ap, P, S.kp⟩))
 refine k_ (sqH ?_); intro au T
 refine bt f b 3 [] [] [(25, .bool u2), (26, .slice ao4 u3.length cap5), (27, .slice ao1 u1.length cap2)] ?_; intro aL U
 obtain ⟨av, V⟩ := ar
 refine ck U 82 #[.slice ao4 u3.length cap5, .slice ao1 u1.length cap2] ?_
 refine (gsub_fun u3 u1 av ao4 cap5 ao1 cap2 _ _ hs6 hs3 b.fz).mono ?_; rintro _ aw ⟨q, s, W, rfl, X, hm⟩; refine ⟨_, rfl, ?_⟩; intro aM Y; have aa := b.callZ hm
 have ab : Mem w.heap.size [] w Z [] W aw := aa
 have ax := V (X.small)
 refine bt Y ab 2 [] [] [(8, .bool u2), (9, .slice q (gsubS u3 u1).length s)] ?_; intro aN ay
 apply T
 exact r_ (ra2 ay (.tuple #[.bool u2, .slice q (gsubS u3 u1).length s]) ⟨(u2, (gsubS u3 u1)), q, s, W, rfl, ax, X, ab.kp⟩)

theorem ggive_walk (u0 : BInt) (u1 : Bool) (u2 : List Int) (b1 : Nat) (ao2 : Option Addr) (cap3 : Nat) (ao5 : Option Addr) (cap6 : Nat) (B : Nat) (w0 : World) (Z0 : Fz) (Rr : List Res) (Z : Fz) (w : World) (hs4 : SlR (tyInt .u32) Z ao2 cap3 u0.abs) (hs7 : SlR (tyInt .u32) Z ao5 cap6 u2) (hM0 : Mem B [] w0 Z0 ((.row b1 [.bool u0.neg, .slice ao2 u0.abs.length cap3] 73) :: Rr) Z w) (hZ : Z.on w) {K : BInt → Prop} (hp : ggive_vc u0 u1 u2 K) : Calls Tryz.prog 78 #[pt b1 0, .bool u1, .slice ao5 u2.length cap6] w fun e w' => ∃ (r : BInt) (ao1001 : Option Addr) (cap1002 : Nat) (Z' : Fz), e = .returned (pt b1 0) ∧ K r ∧ Fz.le Z Z' ∧ SlR (tyInt .u32) Z' ao1001 cap1002 r.abs ∧ Mem B [] w0 Z0 ((.row b1 [.bool r.neg, .slice ao1001 r.abs.length cap1002] 73) :: Rr) Z' w' := by
 refine enter0 Tryz.func78 rfl rfl (by kernel_rfl) ?_; intro u d; have m := Fz.le.refl Z
 have n := hp (hs4.small) (hs7.small)
 refine sqB d hM0 [] [] [] ?_; intro v g
 refine sqH ?_; intro o h
 refine bt g hM0 4 [] [] [(8, .slice ao5 u2.length cap6), (10, pt b1 1)] ?_; intro x a
 refine sx a hM0 0 [.bool u0.neg, .slice ao5 u2.length cap6] 1 ?_; intro p i
 have b : Mem B [] w0 Z0 ((.row b1 [.bool u0.neg, .slice ao5 u2.length cap6] 73) :: Rr) Z p := i
 apply h
 refine sqH ?_; intro q j
 refine bt a b 9 [] [] [(17, .bool (u1 && (decide ((u2.length : Int) > 0)))), (19, pt b1 0)] ?_; intro y c
 refine sx c b 0 [.bool (u1 && (decide ((u2.length : Int) > 0))), .slice ao5 u2.length cap6] 0 ?_; intro s k
 have l : Mem B [] w0 Z0 ((.row b1 [.bool (u1 && (decide ((u2.length : Int) > 0))), .slice ao5 u2.length cap6] 73) :: Rr) Z s := k
 apply j
 refine sqB c l [] [] [(6, pt b1 0)] ?_; intro z t
 exact r_ (ra1 t (pt b1 0) ⟨(⟨u1 && (decide ((u2.length : Int) > 0)), u2⟩ : BInt), ao5, cap6, Z, rfl, n, m, hs7, l.kp⟩)
def ggive_fun (u0 : BInt) (u1 : Bool) (u2 : List Int) (b1 : Nat) (ao2 : Option Addr) (cap3 : Nat) (ao5 : Option Addr) (cap6 : Nat) (B : Nat) (w0 : World) (Z0 : Fz) (Rr : List Res) (Z : Fz) (w : World) (hs4 : SlR (tyInt .u32) Z ao2 cap3 u0.abs) (hs7 : SlR (tyInt .u32) Z ao5 cap6 u2) (hM0 : Mem B [] w0 Z0 ((.row b1 [.bool u0.neg, .slice ao2 u0.abs.length cap3] 73) :: Rr) Z w) (hZ : Z.on w) := fc_ (ggive_walk u0 u1 u2 b1 ao2 cap3 ao5 cap6 B w0 Z0 Rr Z w hs4 hs7 hM0 hZ (ggive_ok u0 u1 u2))
theorem ggiveA_walk (u0 : BRat) (u1 : Bool) (u2 : List Int) (b1 : Nat) (ao2 : Option Addr) (cap3 : Nat) (ao5 : Option Addr) (cap6 : Nat) (ao8 : Option Addr) (cap9 : Nat) (B : Nat) (w0 : World) (Z0 : Fz) (Rr : List Res) (Z : Fz) (w : World) (hs4 : SlR (tyInt .u32) Z ao2 cap3 u0.a.abs) (hs7 : SlR (tyInt .u32) Z ao5 cap6 u0.b.abs) (hs10 : SlR (tyInt .u32) Z ao8 cap9 u2) (hM0 : Mem B [] w0 Z0 ((.row b1 [.bool u0.a.neg, .slice ao2 u0.a.abs.length cap3, .bool u0.b.neg, .slice ao5 u0.b.abs.length cap6] 75) :: Rr) Z w) (hZ : Z.on w) {K : BRat → Prop} (hp : ggiveA_vc u0 u1 u2 K) : Calls Tryz.prog 78 #[pt b1 0, .bool u1, .slice ao8 u2.length cap9] w fun e w' => ∃ (r : BRat) (ao1001 : Option Addr) (cap1002 : Nat) (ao1004 : Option Addr) (cap1005 : Nat) (Z' : Fz), e = .returned (pt b1 0) ∧ K r ∧ Fz.le Z Z' ∧ SlR (tyInt .u32) Z' ao1001 cap1002 r.a.abs ∧ SlR (tyInt .u32) Z' ao1004 cap1005 r.b.abs ∧ Mem B [] w0 Z0 ((.row b1 [.bool r.a.neg, .slice ao1001 r.a.abs.length cap1002, .bool r.b.neg, .slice ao1004 r.b.abs.length cap1005] 75) :: Rr) Z' w' := by
 refine enter0 Tryz.func78 rfl rfl (by kernel_rfl) ?_; intro y g; have p := Fz.le.refl Z
 have q := hp (hs4.small) (hs7.small) (hs10.small)
 refine sqB g hM0 [] [] [] ?_; intro z j
 refine sqH ?_; intro s k
 refine bt j hM0 4 [] [] [(8, .slice ao8 u2.length cap9), (10, pt b1 1)] ?_; intro A c
 refine sx c hM0 0 [.bool u0.a.neg, .slice ao8 u2.length cap9, .bool u0.b.neg, .slice ao5 u0.b.abs.length cap6] 1 ?_; intro t l
 have d : Mem B [] w0 Z0 ((.row b1 [.bool u0.a.neg, .slice ao8 u2.length cap9, .bool u0.b.neg, .slice ao5 u0.b.abs.length cap6] 75) :: Rr) Z t := l
 apply k
 refine sqH ?_; intro u m
 refine bt c d 9 [] [] [(17, .bool (u1 && (decide ((u2.length : Int) > 0)))), (19, pt b1 0)] ?_; intro C f
 refine sx f d 0 [.bool (u1 && (decide ((u2.length : Int) > 0))), .slice ao8 u2.length cap9, .bool u0.b.neg, .slice ao5 u0.b.abs.length cap6] 0 ?_; intro v n
 have o : Mem B [] w0 Z0 ((.row b1 [.bool (u1 && (decide ((u2.length : Int) > 0))), .slice ao8 u2.length cap9, .bool u0.b.neg, .slice ao5 u0.b.abs.length cap6] 75) :: Rr) Z v := n
 apply m
 refine sqB f o [] [] [(6, pt b1 0)] ?_; intro D x
 exact r_ (ra1 x (pt b1 0) ⟨(⟨(⟨u1 && (decide ((u2.length : Int) > 0)), u2⟩ : BInt), u0.b⟩ : BRat), ao8, cap9, ao5, cap6, Z, rfl, q, p, hs10, hs7, o.kp⟩)
def ggiveA_fun (u0 : BRat) (u1 : Bool) (u2 : List Int) (b1 : Nat) (ao2 : Option Addr) (cap3 : Nat) (ao5 : Option Addr) (cap6 : Nat) (ao8 : Option Addr) (cap9 : Nat) (B : Nat) (w0 : World) (Z0 : Fz) (Rr : List Res) (Z : Fz) (w : World) (hs4 : SlR (tyInt .u32) Z ao2 cap3 u0.a.abs) (hs7 : SlR (tyInt .u32) Z ao5 cap6 u0.b.abs) (hs10 : SlR (tyInt .u32) Z ao8 cap9 u2) (hM0 : Mem B [] w0 Z0 ((.row b1 [.bool u0.a.neg, .slice ao2 u0.a.abs.length cap3, .bool u0.b.neg, .slice ao5 u0.b.abs.length cap6] 75) :: Rr) Z w) (hZ : Z.on w) := fe_ (ggiveA_walk u0 u1 u2 b1 ao2 cap3 ao5 cap6 ao8 cap9 B w0 Z0 Rr Z w hs4 hs7 hs10 hM0 hZ (ggiveA_ok u0 u1 u2))
theorem ggiveB_walk (u0 : BRat) (u1 : Bool) (u2 : List Int) (b1 : Nat) (ao2 : Option Addr) (cap3 : Nat) (ao5 : Option Addr) (cap6 : Nat) (ao8 : Option Addr) (cap9 : Nat) (B : Nat) (w0 : World) (Z0 : Fz) (Rr : List Res) (Z : Fz) (w : World) (hs4 : SlR (tyInt .u32) Z ao2 cap3 u0.a.abs) (hs7 : SlR (tyInt .u32) Z ao5 cap6 u0.b.abs) (hs10 : SlR (tyInt .u32) Z ao8 cap9 u2) (hM0 : Mem B [] w0 Z0 ((.row b1 [.bool u0.a.neg, .slice ao2 u0.a.abs.length cap3, .bool u0.b.neg, .slice ao5 u0.b.abs.length cap6] 75) :: Rr) Z w) (hZ : Z.on w) {K : BRat → Prop} (hp : ggiveB_vc u0 u1 u2 K) : Calls Tryz.prog 78 #[pt b1 2, .bool u1, .slice ao8 u2.length cap9] w fun e w' => ∃ (r : BRat) (ao1001 : Option Addr) (cap1002 : Nat) (ao1004 : Option Addr) (cap1005 : Nat) (Z' : Fz), e = .returned (pt b1 2) ∧ K r ∧ Fz.le Z Z' ∧ SlR (tyInt .u32) Z' ao1001 cap1002 r.a.abs ∧ SlR (tyInt .u32) Z' ao1004 cap1005 r.b.abs ∧ Mem B [] w0 Z0 ((.row b1 [.bool r.a.neg, .slice ao1001 r.a.abs.length cap1002, .bool r.b.neg, .slice ao1004 r.b.abs.length cap1005] 75) :: Rr) Z' w' := by
 refine enter0 Tryz.func78 rfl rfl (by kernel_rfl) ?_; intro y g; have p := Fz.le.refl Z
 have q := hp (hs4.small) (hs7.small) (hs10.small)
 refine sqB g hM0 [] [] [] ?_; intro z j
 refine sqH ?_; intro s k
 refine bt j hM0 4 [] [] [(8, .slice ao8 u2.length cap9), (10, pt b1 3)] ?_; intro A c
 refine sx c hM0 0 [.bool u0.a.neg, .slice ao2 u0.a.abs.length cap3, .bool u0.b.neg, .slice ao8 u2.length cap9] 3 ?_; intro t l
 have d : Mem B [] w0 Z0 ((.row b1 [.bool u0.a.neg, .slice ao2 u0.a.abs.length cap3, .bool u0.b.neg, .slice ao8 u2.length cap9] 75) :: Rr) Z t := l
 apply k
 refine sqH ?_; intro u m
 refine bt c d 9 [] [] [(17, .bool (u1 && (decide ((u2.length : Int) > 0)))), (19, pt b1 2)] ?_; intro C f
 refine sx f d 0 [.bool u0.a.neg, .slice ao2 u0.a.abs.length cap3, .bool (u1 && (decide ((u2.length : Int) > 0))), .slice ao8 u2.length cap9] 2 ?_; intro v n
 have o : Mem B [] w0 Z0 ((.row b1 [.bool u0.a.neg, .slice ao2 u0.a.abs.length cap3, .bool (u1 && (decide ((u2.length : Int) > 0))), .slice ao8 u2.length cap9] 75) :: Rr) Z v := n
 apply m
 refine sqB f o [] [] [(6, pt b1 2)] ?_; intro D x
 exact r_ (ra1 x (pt b1 2) ⟨(⟨u0.a, (⟨u1 && (decide ((u2.length : Int) > 0)), u2⟩ : BInt)⟩ : BRat), ao2, cap3, ao8, cap9, Z, rfl, q, p, hs4, hs10, o.kp⟩)
def ggiveB_fun (u0 : BRat) (u1 : Bool) (u2 : List Int) (b1 : Nat) (ao2 : Option Addr) (cap3 : Nat) (ao5 : Option Addr) (cap6 : Nat) (ao8 : Option Addr) (cap9 : Nat) (B : Nat) (w0 : World) (Z0 : Fz) (Rr : List Res) (Z : Fz) (w : World) (hs4 : SlR (tyInt .u32) Z ao2 cap3 u0.a.abs) (hs7 : SlR (tyInt .u32) Z ao5 cap6 u0.b.abs) (hs10 : SlR (tyInt .u32) Z ao8 cap9 u2) (hM0 : Mem B [] w0 Z0 ((.row b1 [.bool u0.a.neg, .slice ao2 u0.a.abs.length cap3, .bool u0.b.neg, .slice ao5 u0.b.abs.length cap6] 75) :: Rr) Z w) (hZ : Z.on w) := fe_ (ggiveB_walk u0 u1 u2 b1 ao2 cap3 ao5 cap6 ao8 cap9 B w0 Z0 Rr Z w hs4 hs7 hs10 hM0 hZ (ggiveB_ok u0 u1 u2))
theorem gnew_walk (u0 : Int)  (Z : Fz) (w : World)  (hZ : Z.on w) {K : BInt → Prop} (hp : gnew_vc u0 K) : Calls Tryz.prog 48 #[i6 u0] w fun e w' => ∃ (r : BInt) (b1001 : Nat) (ao1002 : Option Addr) (cap1003 : Nat) (Z' : Fz), e = .returned (pt b1001 0) ∧ K r ∧ SlR (tyInt .u32) Z' ao1002 cap1003 r.abs ∧ Mem w.heap.size [] w Z [.row b1001 [.bool r.neg, .slice ao1002 r.abs.length cap1003] 73] Z' w' := by
 refine enter0 Tryz.func48 rfl rfl (by kernel_rfl) ?_; intro a0 z; have l := Mem.start w Z hZ
 refine sqB z l [] [] [] ?_; intro a2 A
 refine sqH ?_; intro B i
 refine nw A l pb [.bool false, .slice none 0 0] 73 ?_; intro a a6 aP C b
 refine s1 C 4 (i6 u0) ?_; intro aQ m
 refine ck m 77 #[pt a 0, i6 u0] ?_
 refine enter0 Tryz.func77 rfl rfl (by kernel_rfl) ?_; intro au D
 have E : Fr 18 [] [⟨0, [], pt a 0⟩, ⟨1, [], i6 u0⟩] au := D.reg
 refine sqB E b [] [] [] ?_; intro aR F
 refine sqB F b [] [] [(5, y6 (wu64 u0))] ?_; intro aS G
 refine s_ (sqB G b [] [] [(9, .bool (decide (u0 < 0)))] ?_); intro aT f
 refine c_ f hp (fun _ av => ?_) fun _ aF => ?_
 ·
  refine rgB f b [] [] [(5, y6 (wu64 (0 - (wu64 u0))))] ?_; intro aU H
  refine t_ (sqH ?_); intro aw I
  refine bt H b 4 [] [] [(12, pt a 0), (14, .bool (decide (u0 < 0))), (15, y6 (wu64 (0 - (wu64 u0))))] ?_; intro aV J
  obtain ⟨ax, L⟩ := av
  refine ck J 104 #[y6 (wu64 (0 - (wu64 u0)))] ?_
  refine (gwords_fun (wu64 (0 - (wu64 u0))) ax _ _ b.fz).mono ?_; rintro _ ay ⟨M, N, az, rfl, j, hm⟩; refine ⟨_, rfl, ?_⟩; intro aW O; have P := b.callZ hm
  have o : Mem w.heap.size [] w Z [.row a [.bool false, .slice none 0 0] 73] az ay := P
  have Q := L (j.small)
  refine ck O 78 #[pt a 0, .bool (decide (u0 < 0)), .slice M (gwordsS (wu64 (0 - (wu64 u0)))).length N] ?_
  obtain ⟨g, aB, R⟩ := hxq Q
  have d := ggive_fun (⟨false, []⟩ : BInt) (decide (u0 < 0)) (gwordsS (wu64 (0 - (wu64 u0)))) a none 0 M N _ _ _ _ _ _ (SlR.nil _ _) j o o.fz; rw [aB] at d; refine d.mono ?_; rintro _ S ⟨p, q, s, rfl, T, U, hm⟩; refine ⟨_, rfl, ?_⟩; intro aX V; have W := hm
  have X : Mem w.heap.size [] w Z [.row a [.bool g.neg, .slice p g.abs.length q] 73] s S := W
  have aC := R (U.small)
  refine s1 V 4 (pt a 0) ?_; intro aY Y
  apply I
  refine r_ (ra1 Y (pt a 0) ?_)
  refine ⟨_, rfl, ?_⟩; intro aZ aa
  refine s1 aa 2 (pt a 0) ?_; intro a1 aD
  have aE : Mem w.heap.size [] w Z [.row a [.bool g.neg, .slice p g.abs.length q] 73] s S := X
  apply i
  exact r_ (ra1 aD (pt a 0) ⟨g, a, p, q, s, rfl, aC, U, aE.kp⟩)
 refine k_ (sqH ?_); intro aG ab
 refine bt f b 4 [] [] [(12, pt a 0), (14, .bool (decide (u0 < 0))), (15, y6 (wu64 u0))] ?_; intro a3 ac
 obtain ⟨aH, ad⟩ := aF
 refine ck ac 104 #[y6 (wu64 u0)] ?_
 refine (gwords_fun (wu64 u0) aH _ _ b.fz).mono ?_; rintro _ aI ⟨ae, af, aJ, rfl, k, hm⟩; refine ⟨_, rfl, ?_⟩; intro a4 ag; have ah := b.callZ hm
 have u : Mem w.heap.size [] w Z [.row a [.bool false, .slice none 0 0] 73] aJ aI := ah
 have ai := ad (k.small)
 refine ck ag 78 #[pt a 0, .bool (decide (u0 < 0)), .slice ae (gwordsS (wu64 u0)).length af] ?_
 obtain ⟨h, aL, aj⟩ := hxq ai
 have d := ggive_fun (⟨false, []⟩ : BInt) (decide (u0 < 0)) (gwordsS (wu64 u0)) a none 0 ae af _ _ _ _ _ _ (SlR.nil _ _) k u u.fz; rw [aL] at d; refine d.mono ?_; rintro _ ak ⟨v, x, y, rfl, al, am, hm⟩; refine ⟨_, rfl, ?_⟩; intro a5 an; have ao := hm
 have ap : Mem w.heap.size [] w Z [.row a [.bool h.neg, .slice v h.abs.length x] 73] y ak := ao
 have aM := aj (am.small)
 refine s1 an 4 (pt a 0) ?_; intro a7 aq
 apply ab
 refine r_ (ra1 aq (pt a 0) ?_)
 refine ⟨_, rfl, ?_⟩; intro a8 ar
 refine s1 ar 2 (pt a 0) ?_; intro a9 aN
 have aO : Mem w.heap.size [] w Z [.row a [.bool h.neg, .slice v h.abs.length x] 73] y ak := ap
 apply i
 exact r_ (ra1 aN (pt a 0) ⟨h, a, v, x, y, rfl, aM, am, aO.kp⟩)

theorem rden_walk (u0 : BRat) (b1 : Nat) (ao2 : Option Addr) (cap3 : Nat) (ao5 : Option Addr) (cap6 : Nat) (B : Nat) (w0 : World) (Z0 : Fz) (Rr : List Res) (Z : Fz) (w : World) (hs4 : SlR (tyInt .u32) Z ao2 cap3 u0.a.abs) (hs7 : SlR (tyInt .u32) Z ao5 cap6 u0.b.abs) (hM0 : Mem B [] w0 Z0 ((.row b1 [.bool u0.a.neg, .slice ao2 u0.a.abs.length cap3, .bool u0.b.neg, .slice ao5 u0.b.abs.length cap6] 75) :: Rr) Z w) (hZ : Z.on w) {K : BRat → Prop} (hp : rden_vc u0 K) : Calls Tryz.prog 76 #[pt b1 0] w fun e w' => ∃ (r : BRat) (ao1001 : Option Addr) (cap1002 : Nat) (ao1004 : Option Addr) (cap1005 : Nat) (Z' : Fz), e = .returned (pt b1 2) ∧ K r ∧ Fz.le Z Z' ∧ SlR (tyInt .u32) Z' ao1001 cap1002 r.a.abs ∧ SlR (tyInt .u32) Z' ao1004 cap1005 r.b.abs ∧ Mem B [] w0 Z0 ((.row b1 [.bool r.a.neg, .slice ao1001 r.a.abs.length cap1002, .bool r.b.neg, .slice ao1004 r.b.abs.length cap1005] 75) :: Rr) Z' w' := by
 refine enter0 Tryz.func76 rfl rfl (by kernel_rfl) ?_; intro m d; have h := Fz.le.refl Z
 have i := hp (hs4.small) (hs7.small)
 refine sqB d hM0 [] [] [] ?_; intro n g
 refine s_ (sqB g hM0 [0] [] [(9, .bool ((u0.b.abs.length : Int) == 0))] ?_); intro o c
 obtain ⟨j, k⟩ := i
 refine cn c j ?_
 refine k_ (sqB c hM0 [] [] [(2, pt b1 2)] ?_); intro p l
 exact r_ (ra1 l (pt b1 2) ⟨u0, ao2, cap3, ao5, cap6, Z, rfl, k, h, hs4, hs7, hM0.kp⟩)

theorem gnegA_walk (u0 : BRat) (b1 : Nat) (ao2 : Option Addr) (cap3 : Nat) (ao5 : Option Addr) (cap6 : Nat) (B : Nat) (w0 : World) (Z0 : Fz) (Rr : List Res) (Z : Fz) (w : World) (hs4 : SlR (tyInt .u32) Z ao2 cap3 u0.a.abs) (hs7 : SlR (tyInt .u32) Z ao5 cap6 u0.b.abs) (hM0 : Mem B [] w0 Z0 ((.row b1 [.bool u0.a.neg, .slice ao2 u0.a.abs.length cap3, .bool u0.b.neg, .slice ao5 u0.b.abs.length cap6] 75) :: Rr) Z w) (hZ : Z.on w) {K : BRat → Prop} (hp : gnegA_vc u0 K) : Calls Tryz.prog 51 #[pt b1 0, pt b1 0] w fun e w' => ∃ (r : BRat) (ao1001 : Option Addr) (cap1002 : Nat) (ao1004 : Option Addr) (cap1005 : Nat) (Z' : Fz), e = .returned (pt b1 0) ∧ K r ∧ Fz.le Z Z' ∧ SlR (tyInt .u32) Z' ao1001 cap1002 r.a.abs ∧ SlR (tyInt .u32) Z' ao1004 cap1005 r.b.abs ∧ Mem B [] w0 Z0 ((.row b1 [.bool r.a.neg, .slice ao1001 r.a.abs.length cap1002, .bool r.b.neg, .slice ao1004 r.b.abs.length cap1005] 75) :: Rr) Z' w' := by
 refine enter0 Tryz.func51 rfl rfl (by kernel_rfl) ?_; intro a0 n; have c := Fz.le.refl Z
 have M := hp (hs4.small) (hs7.small)
 refine sqB n hM0 [] [] [] ?_; intro N p
 have q : Fr 17 [] [⟨0, [], pt b1 0⟩, ⟨1, [], pt b1 0⟩] N := p.reg
 refine wp_seq (rgS mixed hM0 [(0, true), (1, true), (2, true), (3, true), (4, true), (5, true), (6, true), (7, true), (8, true), (9, true), (10, false), (11, false), (12, false)] [11, 12] [0] [.row b1 (e75Nc u0 ao2 cap3 ao5 cap6) 75] ?_)
 intro O s ac i
 have d := Fz.le.refl Z
 refine cS q 10 [0, 0] [] [(5, pt b1 0), (10, .bool (!u0.a.neg)), (14, .slice ao2 u0.a.abs.length cap3)] ?_; intro ad t
 refine eS rfl ?_; intro P u
 obtain ⟨Q, R⟩ := M
 refine ck t 83 #[.slice ao2 u0.a.abs.length cap3] ?_
 refine (gtwin_fun u0.a.abs Q ao2 cap3 _ _ hs4 i.fz).mono ?_; rintro _ v ⟨j, k, S, rfl, hm⟩; refine ⟨_, rfl, ?_⟩; intro ae x; have y := i.callZ hm; have g := hm.ext.le
 replace hs4 := hs4.mono g
 replace hs7 := hs7.mono g
 replace d := d.mono g
 replace c := Fz.le.trans c g
 have z : Mem B [] w0 Z0 ((.own (tyInt .u32) 105 j k (gtwinS u0.a.abs)) :: (.row b1 (e75Nc u0 ao2 cap3 ao5 cap6) 75) :: Rr) S v := y
 refine nl (qnI (u _ _ (z.cst d [1]) ?_))
 refine eL rfl ?_; intro T A
 obtain ⟨U, h, C, l⟩ := z.freeze 0 rfl
 replace hs4 := hs4.mono h
 replace hs7 := hs7.mono h
 replace c := Fz.le.trans c h
 have m : Mem B [] w0 Z0 ((.row b1 (e75Nc u0 ao2 cap3 ao5 cap6) 75) :: Rr) U v := C
 refine ck x 78 #[pt b1 0, .bool (!u0.a.neg), .slice j (gtwinS u0.a.abs).length k] ?_
 refine (ggiveA_fun u0 (!u0.a.neg) (gtwinS u0.a.abs) b1 ao2 cap3 ao5 cap6 j k _ _ _ _ _ _ hs4 hs7 l m m.fz).mono ?_; rintro _ V ⟨D, E, F, G, H, rfl, f, W, X, hm⟩; refine ⟨_, rfl, ?_⟩; intro af I; have J := hm
 replace c := Fz.le.trans c f
 have Y : Mem B [] w0 Z0 ((.row b1 (e75Nc (ggiveA u0 (!u0.a.neg) (gtwinS u0.a.abs)) D E F G) 75) :: Rr) H V := J
 refine nl (qnI (A _ _ ?_))
 refine eL rfl ?_; intro aa L
 refine s1 I 4 (pt b1 0) ?_; intro ag ab
 refine nl (qnI (L _ _ ?_))
 refine nS (s _ _ ?_)
 exact t_ (r_ (ra1 ab (pt b1 0) ⟨(ggiveA u0 (!u0.a.neg) (gtwinS u0.a.abs)), D, E, F, G, H, rfl, R, c, W, X, Y.kp⟩))

theorem gnegB_walk (u0 : BRat) (b1 : Nat) (ao2 : Option Addr) (cap3 : Nat) (ao5 : Option Addr) (cap6 : Nat) (B : Nat) (w0 : World) (Z0 : Fz) (Rr : List Res) (Z : Fz) (w : World) (hs4 : SlR (tyInt .u32) Z ao2 cap3 u0.a.abs) (hs7 : SlR (tyInt .u32) Z ao5 cap6 u0.b.abs) (hM0 : Mem B [] w0 Z0 ((.row b1 [.bool u0.a.neg, .slice ao2 u0.a.abs.length cap3, .bool u0.b.neg, .slice ao5 u0.b.abs.length cap6] 75) :: Rr) Z w) (hZ : Z.on w) {K : BRat → Prop} (hp : gnegB_vc u0 K) : Calls Tryz.prog 51 #[pt b1 2, pt b1 2] w fun e w' => ∃ (r : BRat) (ao1001 : Option Addr) (cap1002 : Nat) (ao1004 : Option Addr) (cap1005 : Nat) (Z' : Fz), e = .returned (pt b1 2) ∧ K r ∧ Fz.le Z Z' ∧ SlR (tyInt .u32) Z' ao1001 cap1002 r.a.abs ∧ SlR (tyInt .u32) Z' ao1004 cap1005 r.b.abs ∧ Mem B [] w0 Z0 ((.row b1 [.bool r.a.neg, .slice ao1001 r.a.abs.length cap1002, .bool r.b.neg, .slice ao1004 r.b.abs.length cap1005] 75) :: Rr) Z' w' := by
 refine enter0 Tryz.func51 rfl rfl (by kernel_rfl) ?_; intro a0 n; have c := Fz.le.refl Z
 have M := hp (hs4.small) (hs7.small)
 refine sqB n hM0 [] [] [] ?_; intro N p
 have q : Fr 17 [] [⟨0, [], pt b1 2⟩, ⟨1, [], pt b1 2⟩] N := p.reg
 refine wp_seq (rgS mixed hM0 [(0, true), (1, true), (2, true), (3, true), (4, true), (5, true), (6, true), (7, true), (8, true), (9, true), (10, false), (11, false), (12, false)] [11, 12] [0] [.row b1 (e75Nc u0 ao2 cap3 ao5 cap6) 75] ?_)
 intro O s ac i
 have d := Fz.le.refl Z
 refine cS q 10 [0, 0] [] [(5, pt b1 2), (10, .bool (!u0.b.neg)), (14, .slice ao5 u0.b.abs.length cap6)] ?_; intro ad t
 refine eS rfl ?_; intro P u
 obtain ⟨Q, R⟩ := M
 refine ck t 83 #[.slice ao5 u0.b.abs.length cap6] ?_
 refine (gtwin_fun u0.b.abs Q ao5 cap6 _ _ hs7 i.fz).mono ?_; rintro _ v ⟨j, k, S, rfl, hm⟩; refine ⟨_, rfl, ?_⟩; intro ae x; have y := i.callZ hm; have g := hm.ext.le
 replace hs4 := hs4.mono g
 replace hs7 := hs7.mono g
 replace d := d.mono g
 replace c := Fz.le.trans c g
 have z : Mem B [] w0 Z0 ((.own (tyInt .u32) 105 j k (gtwinS u0.b.abs)) :: (.row b1 (e75Nc u0 ao2 cap3 ao5 cap6) 75) :: Rr) S v := y
 refine nl (qnI (u _ _ (z.cst d [1]) ?_))
 refine eL rfl ?_; intro T A
 obtain ⟨U, h, C, l⟩ := z.freeze 0 rfl
 replace hs4 := hs4.mono h
 replace hs7 := hs7.mono h
 replace c := Fz.le.trans c h
 have m : Mem B [] w0 Z0 ((.row b1 (e75Nc u0 ao2 cap3 ao5 cap6) 75) :: Rr) U v := C
 refine ck x 78 #[pt b1 2, .bool (!u0.b.neg), .slice j (gtwinS u0.b.abs).length k] ?_
 refine (ggiveB_fun u0 (!u0.b.neg) (gtwinS u0.b.abs) b1 ao2 cap3 ao5 cap6 j k _ _ _ _ _ _ hs4 hs7 l m m.fz).mono ?_; rintro _ V ⟨D, E, F, G, H, rfl, f, W, X, hm⟩; refine ⟨_, rfl, ?_⟩; intro af I; have J := hm
 replace c := Fz.le.trans c f
 have Y : Mem B [] w0 Z0 ((.row b1 (e75Nc (ggiveB u0 (!u0.b.neg) (gtwinS u0.b.abs)) D E F G) 75) :: Rr) H V := J
 refine nl (qnI (A _ _ ?_))
 refine eL rfl ?_; intro aa L
 refine s1 I 4 (pt b1 2) ?_; intro ag ab
 refine nl (qnI (L _ _ ?_))
 refine nS (s _ _ ?_)
 exact t_ (r_ (ra1 ab (pt b1 2) ⟨(ggiveB u0 (!u0.b.neg) (gtwinS u0.b.abs)), D, E, F, G, H, rfl, R, c, W, X, Y.kp⟩))

end Go.Proofs.YtdndfbamhnchfaaGreatDoor
