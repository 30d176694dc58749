/- Texts put together (pure ones, or walks made by program). -/
import Derived.Test.YtdenmllkjdijlaaDoorTP0
import Derived.Test.YtdenmllkjdijlaaDoorTP1
import Derived.Test.YtdenmllkjdijlaaDoorTP2
import Derived.Stop.LaidErr
set_option linter.unusedVariables false
set_option linter.unusedSimpArgs false
set_option linter.defProp false
set_option maxRecDepth 100000
set_option maxHeartbeats 0
namespace Go.Proofs.YtdenmllkjdijlaaDoor
open Go.Sy Go.RowKit
abbrev e31Ee (X : Line) (A0 : Option Addr) (C0 : Nat) : List Value := [i6 X.Time, i6 X.Bus, i6 X.F.ID, .bool X.F.Long, .bool X.F.Fast, .bool X.F.Remote, i6 X.F.Size, .slice A0 X.F.Data.length C0]
def lthex_fun (u0 : Int) (u1 : Int) (hpre : 0 ≤ u0 ∧ 1 ≤ u1 ∧ u1 ≤ 8 ∧ u0 < 16 ^ u1.toNat)  (Z : Fz) (w : World) (hg3 : SlR t8 Z (sm 3) 64 deBruijn64) (hZ : Z.on w) := f_ (lthex_walk u0 u1  Z w hg3 hZ (lthex_ok u0 u1 hpre))
theorem ltext_walk (u0 : Line) (ao1 : Option Addr) (cap2 : Nat) (Z : Fz) (w : World) (hs3 : SlR t8 Z ao1 cap2 u0.F.Data) (hg0 : TabF Z 0 .u64 Lib.pow10Tab) (hg3 : SlR t8 Z (sm 3) 64 deBruijn64) (hZ : Z.on w) {K : (List UInt8) → Prop} (hp : ltext_vc u0 K) : Calls Tryd.prog 10 #[.agg #[i6 u0.Time, i6 u0.Bus, i6 u0.F.ID, .bool u0.F.Long, .bool u0.F.Fast, .bool u0.F.Remote, i6 u0.F.Size, .slice ao1 u0.F.Data.length cap2]] w fun e w' => ∃ r : (List UInt8), e = .returned (str r) ∧ K r ∧ Below w.heap.size w w' := by
 refine enter0 Tryd.func10 rfl rfl (by kernel_rfl) ?_; intro a0 ae; have af := Mem.start w Z hZ
 have bS := hp (hs3.small)
 refine sqH ?_; intro bT ag
 refine nw ae af pb (e31Ee u0 ao1 cap2) 31 ?_; intro c a7 dW ah I
 refine s1 ah 2 (str []) ?_; intro dX ai
 apply ag
 refine sqB ai I [] [] [(3, .func (.func 20) #[] #[])] ?_; intro bU aj
 have ak : Fr 69 [] [⟨1, [], pt c 0⟩, ⟨3, [], .func (.func 20) #[] #[]⟩] bU := aj.reg
 refine sqQH mixed (by kernel_rfl) I ?_; intro bV al
 refine q1 ak 7 (pt c 0) ?_; intro dY J
 refine ql_ J 0 0 (i6 u0.Time) rfl rfl ?_; intro dZ am
 obtain ⟨bW, bX⟩ := bS
 refine qcl am (str (itoaS u0.Time)) 12 #[i6 u0.Time] (nog rfl _) rfl (by kernel_rfl) (fun _ => by kernel_rfl) (qfc fun w hC => itoa_fun u0.Time bW _ _ hg0 hC.fz) ?_; intro d0 L
 obtain ⟨bY, bZ⟩ := bX
 refine qu_ L (str ((itoaS u0.Time) ++ ([32] : List UInt8))) (fun v29 hC => stradd_run L (g := []) rfl (by kernel_rfl) (by kernel_rfl) bY rfl) ?_; intro d1 an
 refine q1 an 11 (pt c 1) ?_; intro d2 M
 refine ql_ M 0 1 (i6 u0.Bus) rfl rfl ?_; intro d3 ao
 obtain ⟨b0, b1⟩ := bZ
 refine qcl ao (str (itoaS u0.Bus)) 12 #[i6 u0.Bus] (nog rfl _) rfl (by kernel_rfl) (fun _ => by kernel_rfl) (qfc fun w hC => itoa_fun u0.Bus b0 _ _ hg0 hC.fz) ?_; intro d4 N
 obtain ⟨b2, b3⟩ := b1
 refine qu_ N (str (((itoaS u0.Time) ++ ([32] : List UInt8)) ++ (itoaS u0.Bus))) (fun v45 hC => stradd_run N (g := []) rfl (by kernel_rfl) (by kernel_rfl) b2 rfl) ?_; intro d5 O
 obtain ⟨b4, A⟩ := b3
 refine qu_ O (str ((((itoaS u0.Time) ++ ([32] : List UInt8)) ++ (itoaS u0.Bus)) ++ ([32] : List UInt8))) (fun v50 hC => stradd_run O (g := []) rfl (by kernel_rfl) (by kernel_rfl) b4 rfl) ?_; intro d6 ap
 refine q1 ap 4 (str ((((itoaS u0.Time) ++ ([32] : List UInt8)) ++ (itoaS u0.Bus)) ++ ([32] : List UInt8))) ?_; intro d7 aq
 refine qnl (al _ ?_); intro d8 h
 refine s_ (sqB aq h [0] [] [(18, .bool u0.F.Long)] ?_); intro d9 p
 refine cd p (t := u0.F.Long) (by kernel_rfl) (fun P => ?_) (fun P => ?_)
 · -- yes
  have b5 := A.1 P
  refine rgH ?_; intro b7 ar
  refine bt p h 5 [0] [] [(19, str ((((itoaS u0.Time) ++ ([32] : List UInt8)) ++ (itoaS u0.Bus)) ++ ([32] : List UInt8))), (20, .func (.func 20) #[] #[]), (23, i6 u0.F.ID)] ?_; intro ea au
  obtain ⟨b8, b9⟩ := b5
  refine fc au h (lthex_fun u0.F.ID 8 b8 _ _ hg3 h.fz) ?_; intro eb ec av i
  obtain ⟨ca, cb⟩ := b9
  refine sa av ca ?_; intro ed aw
  refine s1 aw 4 (str (((((itoaS u0.Time) ++ ([32] : List UInt8)) ++ (itoaS u0.Bus)) ++ ([32] : List UInt8)) ++ (lthexS u0.F.ID 8))) ?_; intro ax ay
  apply ar
  apply t_
  have az : Fr 69 [] [⟨1, [], pt c 0⟩, ⟨3, [], .func (.func 20) #[] #[]⟩, ⟨4, [], str (((((itoaS u0.Time) ++ ([32] : List UInt8)) ++ (itoaS u0.Bus)) ++ ([32] : List UInt8)) ++ (lthexS u0.F.ID 8))⟩] ax := ay.reg
  obtain ⟨cc, B, ce⟩ := cb
  refine wp_seq_k fun KJ97 hKJ98 => ?_
  have R : ∀ (d : List UInt8), cc d → ∀ a1 w1, Fr 69 [] [⟨1, [], pt c 0⟩, ⟨3, [], .func (.func 20) #[] #[]⟩, ⟨4, [], str d⟩] a1 → Mem w.heap.size [] w Z [.row c (e31Ee u0 ao1 cap2) 31] Z w1 → KJ97 a1 w1 := by
   rintro d cf ee ef aA S
   refine hKJ98 _ _ ?_
   have cg := ce d cf
   refine s_ (sqB aA S [0] [] [(54, .slice ao1 u0.F.Data.length cap2), (55, i6 (u0.F.Data.length : Int)), (56, i6 0)] ?_); intro aB aC
   apply b_
   have aD : Fr 69 [] [⟨3, [], .func (.func 20) #[] #[]⟩, ⟨4, [], str d⟩, ⟨54, [], .slice ao1 u0.F.Data.length cap2⟩, ⟨55, [], i6 (u0.F.Data.length : Int)⟩, ⟨56, [], i6 0⟩] aB := aC.reg
   obtain ⟨ch, ci, cj, ck⟩ := cg
   refine lp (ι := (List UInt8) × Int) (fun s => [⟨3, [], .func (.func 20) #[] #[]⟩, ⟨4, [], str s.1⟩, ⟨54, [], .slice ao1 u0.F.Data.length cap2⟩, ⟨55, [], i6 (u0.F.Data.length : Int)⟩, ⟨56, [], i6 s.2⟩]) (fun s => [.row c (e31Ee u0 ao1 cap2) 31]) (fun s => Z) (fun s => ch s.1 s.2) (fun s => ci s.1 s.2) ⟨d, 0⟩ cj (by exact aD.region (by kernel_rfl) (by kernel_rfl)) (by exact S) ?_
   rintro ⟨a, f⟩ cl cm cn aF aG
   have C := ck a f cl
   refine sqB aF aG [] [] [(57, .bool (decide (f < (u0.F.Data.length : Int))))] ?_; intro eg q
   apply s_
   refine cd q (t := decide (f < (u0.F.Data.length : Int))) (by kernel_rfl) (fun U => ?_) (fun U => ?_)
   · -- yes
    have co := C.1 U
    refine k_ (s_ (b_ (sqH ?_))); intro cp aI
    obtain ⟨cq, aJ⟩ := co
    refine ix_ q hs3 f cq .i64 5 1 ?_; intro eh ei cr l ej ct cu cv aK
    have cw := aJ l ct
    obtain rfl : cr = ([y8 l] : List Value) := cv
    refine z1 aK aG 59 cu 0 (y8 l) rfl ?_; intro ek aL
    refine s1 aL 6 (y8 l) ?_; intro el aM
    apply aI
    refine rgH ?_; intro cx aN
    refine bt aM aG 4 [] [] [(60, str a), (61, .func (.func 20) #[] #[]), (63, i6 (w64 l))] ?_; intro em aO
    obtain ⟨cy, cz⟩ := cw
    refine fc aO aG (lthex_fun (w64 l) 2 cy _ _ hg3 aG.fz) ?_; intro en eo aP aQ
    obtain ⟨cA, aR⟩ := cz
    refine sa aP cA ?_; intro ep aS
    refine s1 aS 4 (str (a ++ (lthexS (w64 l) 2))) ?_; intro eq aT
    apply aN
    refine j_ (t_ (rgB aT aQ [] [] [(56, i6 (w64 (f + 1)))] ?_)); intro er cB
    exact d_ ⟨⟨a ++ (lthexS (w64 l) 2), w64 (f + 1)⟩, aR.1, aR.2, (cB.region (by kernel_rfl) (by kernel_rfl)).anyβ _ (by kernel_rfl), aQ.kp⟩
   · -- no
    have cC := C.2 U
    refine x_ (y_ (y_ (z_ (t_ (sqH ?_))))); intro cD aU
    refine s1 q 67 (str a) ?_; intro es aV
    obtain ⟨cE, cF⟩ := cC
    refine sa aV cE ?_; intro et aW
    refine s1 aW 2 (str (a ++ ([10] : List UInt8))) ?_; intro eu cG
    apply aU
    exact r_ (ra1 cG (str (a ++ ([10] : List UInt8))) ⟨a ++ ([10] : List UInt8), rfl, cF, aG.below⟩)
  refine b_ (sqB az i [0] [] [(35, .bool u0.F.Remote)] ?_); intro ev u
  refine cd u (t := u0.F.Remote) (by kernel_rfl) (fun V => ?_) (fun V => ?_)
  · -- yes
   have cH := B.1 V
   refine rgH ?_; intro cI aX
   refine bt u i 4 [0] [] [(39, str (((((itoaS u0.Time) ++ ([32] : List UInt8)) ++ (itoaS u0.Bus)) ++ ([32] : List UInt8)) ++ (lthexS u0.F.ID 8))), (42, i6 u0.F.Size)] ?_; intro ew aY
   obtain ⟨cJ, cK⟩ := cH
   refine fc aY i (itoa_fun u0.F.Size cJ _ _ hg0 i.fz) ?_; intro ex ey aZ cL
   obtain ⟨cM, cN⟩ := cK
   refine sa aZ cM ?_; intro ez a2
   obtain ⟨cO, cP⟩ := cN
   refine sa a2 cO ?_; intro eA a3
   refine s1 a3 4 (str ((((((itoaS u0.Time) ++ ([32] : List UInt8)) ++ (itoaS u0.Bus)) ++ ([32] : List UInt8)) ++ (lthexS u0.F.ID 8)) ++ (([63] : List UInt8) ++ (itoaS u0.F.Size)))) ?_; intro eB cQ
   apply aX
   exact j_ (d_ (R ((((((itoaS u0.Time) ++ ([32] : List UInt8)) ++ (itoaS u0.Bus)) ++ ([32] : List UInt8)) ++ (lthexS u0.F.ID 8)) ++ (([63] : List UInt8) ++ (itoaS u0.F.Size))) cP _ _ ((cQ.region (by kernel_rfl) (by kernel_rfl)).anyβ _ (by kernel_rfl)) (cL.kp)))
  · -- no
   have D := B.2 V
   refine sqB u i [0] [] [(46, .bool u0.F.Fast)] ?_; intro eC v
   refine cd v (t := u0.F.Fast) (by kernel_rfl) (fun W => ?_) (fun W => ?_)
   · -- yes
    have cR := D.1 W
    refine rgH ?_; intro cS a4
    refine s1 v 50 (str (((((itoaS u0.Time) ++ ([32] : List UInt8)) ++ (itoaS u0.Bus)) ++ ([32] : List UInt8)) ++ (lthexS u0.F.ID 8))) ?_; intro eD a5
    obtain ⟨cT, cU⟩ := cR
    refine sa a5 cT ?_; intro eE a6
    refine s1 a6 4 (str ((((((itoaS u0.Time) ++ ([32] : List UInt8)) ++ (itoaS u0.Bus)) ++ ([32] : List UInt8)) ++ (lthexS u0.F.ID 8)) ++ ([35, 35] : List UInt8))) ?_; intro eF cV
    apply a4
    exact j_ (d_ (R ((((((itoaS u0.Time) ++ ([32] : List UInt8)) ++ (itoaS u0.Bus)) ++ ([32] : List UInt8)) ++ (lthexS u0.F.ID 8)) ++ ([35, 35] : List UInt8)) cU _ _ ((cV.region (by kernel_rfl) (by kernel_rfl)).anyβ _ (by kernel_rfl)) (i.kp)))
   · -- no
    have cW := D.2 W
    refine rgH ?_; intro cX a8
    refine s1 v 33 (str (((((itoaS u0.Time) ++ ([32] : List UInt8)) ++ (itoaS u0.Bus)) ++ ([32] : List UInt8)) ++ (lthexS u0.F.ID 8))) ?_; intro eG a9
    obtain ⟨cY, cZ⟩ := cW
    refine sa a9 cY ?_; intro eH ba
    refine s1 ba 4 (str ((((((itoaS u0.Time) ++ ([32] : List UInt8)) ++ (itoaS u0.Bus)) ++ ([32] : List UInt8)) ++ (lthexS u0.F.ID 8)) ++ ([35] : List UInt8))) ?_; intro eI c0
    apply a8
    exact j_ (d_ (R ((((((itoaS u0.Time) ++ ([32] : List UInt8)) ++ (itoaS u0.Bus)) ++ ([32] : List UInt8)) ++ (lthexS u0.F.ID 8)) ++ ([35] : List UInt8)) cZ _ _ ((c0.region (by kernel_rfl) (by kernel_rfl)).anyβ _ (by kernel_rfl)) (i.kp)))
 · -- no
  have c1 := A.2 P
  refine rgH ?_; intro c2 bb
  refine bt p h 5 [0] [] [(26, str ((((itoaS u0.Time) ++ ([32] : List UInt8)) ++ (itoaS u0.Bus)) ++ ([32] : List UInt8))), (27, .func (.func 20) #[] #[]), (30, i6 u0.F.ID)] ?_; intro eJ bc
  obtain ⟨c3, c4⟩ := c1
  refine fc bc h (lthex_fun u0.F.ID 3 c3 _ _ hg3 h.fz) ?_; intro eK eL bd j
  obtain ⟨c5, c6⟩ := c4
  refine sa bd c5 ?_; intro eM be
  refine s1 be 4 (str (((((itoaS u0.Time) ++ ([32] : List UInt8)) ++ (itoaS u0.Bus)) ++ ([32] : List UInt8)) ++ (lthexS u0.F.ID 3))) ?_; intro bf bg
  apply bb
  apply t_
  have bh : Fr 69 [] [⟨1, [], pt c 0⟩, ⟨3, [], .func (.func 20) #[] #[]⟩, ⟨4, [], str (((((itoaS u0.Time) ++ ([32] : List UInt8)) ++ (itoaS u0.Bus)) ++ ([32] : List UInt8)) ++ (lthexS u0.F.ID 3))⟩] bf := bg.reg
  obtain ⟨c7, E, c8⟩ := c6
  refine wp_seq_k fun KJ285 hKJ286 => ?_
  have Y : ∀ (d : List UInt8), c7 d → ∀ a1 w1, Fr 69 [] [⟨1, [], pt c 0⟩, ⟨3, [], .func (.func 20) #[] #[]⟩, ⟨4, [], str d⟩] a1 → Mem w.heap.size [] w Z [.row c (e31Ee u0 ao1 cap2) 31] Z w1 → KJ285 a1 w1 := by
   rintro d c9 eN eO bi aa
   refine hKJ286 _ _ ?_
   have da := c8 d c9
   refine s_ (sqB bi aa [0] [] [(54, .slice ao1 u0.F.Data.length cap2), (55, i6 (u0.F.Data.length : Int)), (56, i6 0)] ?_); intro bj bk
   apply b_
   have bl : Fr 69 [] [⟨3, [], .func (.func 20) #[] #[]⟩, ⟨4, [], str d⟩, ⟨54, [], .slice ao1 u0.F.Data.length cap2⟩, ⟨55, [], i6 (u0.F.Data.length : Int)⟩, ⟨56, [], i6 0⟩] bj := bk.reg
   obtain ⟨db, dc, dd, de⟩ := da
   refine lp (ι := (List UInt8) × Int) (fun s => [⟨3, [], .func (.func 20) #[] #[]⟩, ⟨4, [], str s.1⟩, ⟨54, [], .slice ao1 u0.F.Data.length cap2⟩, ⟨55, [], i6 (u0.F.Data.length : Int)⟩, ⟨56, [], i6 s.2⟩]) (fun s => [.row c (e31Ee u0 ao1 cap2) 31]) (fun s => Z) (fun s => db s.1 s.2) (fun s => dc s.1 s.2) ⟨d, 0⟩ dd (by exact bl.region (by kernel_rfl) (by kernel_rfl)) (by exact aa) ?_
   rintro ⟨a, f⟩ df dg dh bn bo
   have G := de a f df
   refine sqB bn bo [] [] [(57, .bool (decide (f < (u0.F.Data.length : Int))))] ?_; intro eP x
   apply s_
   refine cd x (t := decide (f < (u0.F.Data.length : Int))) (by kernel_rfl) (fun ab => ?_) (fun ab => ?_)
   · -- yes
    have di := G.1 ab
    refine k_ (s_ (b_ (sqH ?_))); intro dj bq
    obtain ⟨dk, br⟩ := di
    refine ix_ x hs3 f dk .i64 5 1 ?_; intro eQ eR dl m eS dm dn dp bs
    have dq := br m dm
    obtain rfl : dl = ([y8 m] : List Value) := dp
    refine z1 bs bo 59 dn 0 (y8 m) rfl ?_; intro eT bu
    refine s1 bu 6 (y8 m) ?_; intro eU bv
    apply bq
    refine rgH ?_; intro dr bw
    refine bt bv bo 4 [] [] [(60, str a), (61, .func (.func 20) #[] #[]), (63, i6 (w64 m))] ?_; intro eV bx
    obtain ⟨ds, dt⟩ := dq
    refine fc bx bo (lthex_fun (w64 m) 2 ds _ _ hg3 bo.fz) ?_; intro eW eX bz bA
    obtain ⟨du, bB⟩ := dt
    refine sa bz du ?_; intro eY bC
    refine s1 bC 4 (str (a ++ (lthexS (w64 m) 2))) ?_; intro eZ bD
    apply bw
    refine j_ (t_ (rgB bD bA [] [] [(56, i6 (w64 (f + 1)))] ?_)); intro e0 dv
    exact d_ ⟨⟨a ++ (lthexS (w64 m) 2), w64 (f + 1)⟩, bB.1, bB.2, (dv.region (by kernel_rfl) (by kernel_rfl)).anyβ _ (by kernel_rfl), bA.kp⟩
   · -- no
    have dw := G.2 ab
    refine x_ (y_ (y_ (z_ (t_ (sqH ?_))))); intro dx bE
    refine s1 x 67 (str a) ?_; intro e1 bF
    obtain ⟨dy, dz⟩ := dw
    refine sa bF dy ?_; intro e2 bG
    refine s1 bG 2 (str (a ++ ([10] : List UInt8))) ?_; intro e3 dA
    apply bE
    exact r_ (ra1 dA (str (a ++ ([10] : List UInt8))) ⟨a ++ ([10] : List UInt8), rfl, dz, bo.below⟩)
  refine b_ (sqB bh j [0] [] [(35, .bool u0.F.Remote)] ?_); intro e4 y
  refine cd y (t := u0.F.Remote) (by kernel_rfl) (fun ac => ?_) (fun ac => ?_)
  · -- yes
   have dB := E.1 ac
   refine rgH ?_; intro dC bH
   refine bt y j 4 [0] [] [(39, str (((((itoaS u0.Time) ++ ([32] : List UInt8)) ++ (itoaS u0.Bus)) ++ ([32] : List UInt8)) ++ (lthexS u0.F.ID 3))), (42, i6 u0.F.Size)] ?_; intro e5 bI
   obtain ⟨dD, dE⟩ := dB
   refine fc bI j (itoa_fun u0.F.Size dD _ _ hg0 j.fz) ?_; intro e6 e7 bJ dF
   obtain ⟨dG, dH⟩ := dE
   refine sa bJ dG ?_; intro e8 bK
   obtain ⟨dI, dJ⟩ := dH
   refine sa bK dI ?_; intro e9 bL
   refine s1 bL 4 (str ((((((itoaS u0.Time) ++ ([32] : List UInt8)) ++ (itoaS u0.Bus)) ++ ([32] : List UInt8)) ++ (lthexS u0.F.ID 3)) ++ (([63] : List UInt8) ++ (itoaS u0.F.Size)))) ?_; intro fa dK
   apply bH
   exact j_ (d_ (Y ((((((itoaS u0.Time) ++ ([32] : List UInt8)) ++ (itoaS u0.Bus)) ++ ([32] : List UInt8)) ++ (lthexS u0.F.ID 3)) ++ (([63] : List UInt8) ++ (itoaS u0.F.Size))) dJ _ _ ((dK.region (by kernel_rfl) (by kernel_rfl)).anyβ _ (by kernel_rfl)) (dF.kp)))
  · -- no
   have H := E.2 ac
   refine sqB y j [0] [] [(46, .bool u0.F.Fast)] ?_; intro fb z
   refine cd z (t := u0.F.Fast) (by kernel_rfl) (fun ad => ?_) (fun ad => ?_)
   · -- yes
    have dL := H.1 ad
    refine rgH ?_; intro dM bM
    refine s1 z 50 (str (((((itoaS u0.Time) ++ ([32] : List UInt8)) ++ (itoaS u0.Bus)) ++ ([32] : List UInt8)) ++ (lthexS u0.F.ID 3))) ?_; intro fd bN
    obtain ⟨dN, dO⟩ := dL
    refine sa bN dN ?_; intro fe bO
    refine s1 bO 4 (str ((((((itoaS u0.Time) ++ ([32] : List UInt8)) ++ (itoaS u0.Bus)) ++ ([32] : List UInt8)) ++ (lthexS u0.F.ID 3)) ++ ([35, 35] : List UInt8))) ?_; intro ff dP
    apply bM
    exact j_ (d_ (Y ((((((itoaS u0.Time) ++ ([32] : List UInt8)) ++ (itoaS u0.Bus)) ++ ([32] : List UInt8)) ++ (lthexS u0.F.ID 3)) ++ ([35, 35] : List UInt8)) dO _ _ ((dP.region (by kernel_rfl) (by kernel_rfl)).anyβ _ (by kernel_rfl)) (j.kp)))
   · -- no
    have dQ := H.2 ad
    refine rgH ?_; intro dR bP
    refine s1 z 33 (str (((((itoaS u0.Time) ++ ([32] : List UInt8)) ++ (itoaS u0.Bus)) ++ ([32] : List UInt8)) ++ (lthexS u0.F.ID 3))) ?_; intro fg bQ
    obtain ⟨dS, dT⟩ := dQ
    refine sa bQ dS ?_; intro fh bR
    refine s1 bR 4 (str ((((((itoaS u0.Time) ++ ([32] : List UInt8)) ++ (itoaS u0.Bus)) ++ ([32] : List UInt8)) ++ (lthexS u0.F.ID 3)) ++ ([35] : List UInt8))) ?_; intro fi dU
    apply bP
    exact j_ (d_ (Y ((((((itoaS u0.Time) ++ ([32] : List UInt8)) ++ (itoaS u0.Bus)) ++ ([32] : List UInt8)) ++ (lthexS u0.F.ID 3)) ++ ([35] : List UInt8)) dT _ _ ((dU.region (by kernel_rfl) (by kernel_rfl)).anyβ _ (by kernel_rfl)) (j.kp)))

end Go.Proofs.YtdenmllkjdijlaaDoor
set_option linter.unusedVariables false
set_option linter.unusedSimpArgs false
set_option linter.defProp false
set_option maxRecDepth 100000
set_option maxHeartbeats 0
namespace Go.Proofs.YtdenmllkjdijlaaDoor
open Go.Sy Go.RowKit
abbrev e31I (X : Line) (A0 : Option Addr) (C0 : Nat) : List Value := [i6 X.Time, i6 X.Bus, i6 X.F.ID, .bool X.F.Long, .bool X.F.Fast, .bool X.F.Remote, i6 X.F.Size, .slice A0 X.F.Data.length C0]
theorem starE : "*" ++ "errors.errorString" = "*errors.errorString" := by decide
theorem rowE (u : TypeId) (h : Tryd.prog.typeName? 3 u = some "*errors.errorString") : u = 136 :=
  Go.typeName_ptr_named (nm := "errors.errorString") (by rw [starE]; kernel_rfl) (by kernel_rfl) (by decide) u (by rw [starE]; exact h)

def ltext_fun (u0 : Line) (hpre : okL u0 ∧ ∀ b ∈ u0.F.Data, 0 ≤ b ∧ b ≤ 255) (ao1 : Option Addr) (cap2 : Nat) (Z : Fz) (w : World) (hs3 : SlR t8 Z ao1 cap2 u0.F.Data) (hg0 : TabF Z 0 .u64 Lib.pow10Tab) (hg3 : SlR t8 Z (sm 3) 64 deBruijn64) (hZ : Z.on w) := f_ (ltext_walk u0 ao1 cap2 Z w hs3 hg0 hg3 hZ (ltext_ok u0 hpre))
theorem LPrint_walk (u0 : List Line) (ao1 : Option Addr) (cap2 : Nat) (Z : Fz) (w : World) (hs3 : SlR tyLine Z ao1 cap2 u0) (hg0 : TabF Z 0 .u64 Lib.pow10Tab) (hg6 : ErrR Z 6) (hg7 : ErrR Z 7) (hg3 : SlR t8 Z (sm 3) 64 deBruijn64) (hZ : Z.on w) {K : Bool → Prop} (hp : LPrint_vc u0 K) : Calls Tryd.prog 4 #[.slice ao1 u0.length cap2] w fun e w' => ∃ r : Bool, e = .returned (.bool r) ∧ K r ∧ Below w.heap.size w w' := by
 refine enter0 Tryd.func4 rfl rfl (by kernel_rfl) ?_; intro a0 D; have m := Mem.start w Z hZ
 have ar := hp (hs3.small)
 refine sqB D m [] [] [] ?_; intro a6 E
 refine sqH ?_; intro au G
 refine s1 E 10 (.slice ao1 u0.length cap2) ?_; intro a9 H
 obtain ⟨av, n⟩ := ar
 refine fc H m (tprint_fun u0 av ao1 cap2 _ _ hs3 hg0 m.fz) ?_; intro a2 a3 I o
 refine bt I o 5 [] [] [(3, str (printS u0).1), (4, i6 (printS u0).2)] ?_; intro a4 J
 apply G
 refine sqH ?_; intro aw L
 refine s1 J 14 (.slice ao1 u0.length cap2) ?_; intro a5 M
 refine fc M o (rcheckl_fun u0 ao1 cap2 _ _ hs3 o.fz) ?_; intro a7 a8 N x
 refine s1 N 5 (i6 (checkS u0)) ?_; intro ba O
 apply L
 refine s_ (sqH ?_); intro ax P
 refine fc O x (traced_fun  _ _ hg0 hg6 hg7 x.fz) ?_; intro bb bc Q p
 refine bt Q p 3 [] [19] [(18, .bool false), (19, .slice ao1 u0.length cap2)] ?_; intro bd y
 refine fcl y p (i6 (checkS u0)) 9 #[.slice ao1 u0.length cap2] (wK y false) rfl (by kernel_rfl) (fun _ => by kernel_rfl) (tcheck_fun u0 ao1 cap2 _ _ hs3 p.fz) ?_; intro be bf R b
 refine bt R b 3 [] [21, 22, 23] [(23, .bool ((checkS u0) != (checkS u0)))] ?_; intro bg g
 apply P
 refine cd g (t := (checkS u0) != (checkS u0)) (by kernel_rfl) (fun z => ?_) (fun z => ?_)
 · -- yes
  have ay := n.1 z
  refine sqB g b [] [] [(2, .bool false)] ?_; intro bh az
  exact r_ (h_ (ra1 az (.bool false) ⟨false, rfl, ay, b.below⟩))
 · -- no
  have q := n.2 z
  refine k_ (s_ (sqB g b [] [] [(25, .bool ((checkS u0) != 0))] ?_)); intro bi h
  refine cd h (t := (checkS u0) != 0) (by kernel_rfl) (fun A => ?_) (fun A => ?_)
  · -- yes
   have aA := q.1 A
   refine sqB h b [] [82] [(2, .bool (((printS u0).2 == (checkS u0)) && ((printS u0).1 == ([] : List UInt8))))] ?_; intro bj aB
   exact r_ (h_ (ra1 aB (.bool (((printS u0).2 == (checkS u0)) && ((printS u0).1 == ([] : List UInt8)))) ⟨((printS u0).2 == (checkS u0)) && ((printS u0).1 == ([] : List UInt8)), rfl, aA, b.below⟩))
  · -- no
   have aC := q.2 A
   refine k_ (sqB h b [] [] [(6, str [])] ?_); intro bk S
   refine s_ (sqB S b [] [] [(33, .slice ao1 u0.length cap2), (34, i6 (u0.length : Int)), (35, i6 0)] ?_); intro U V
   apply b_
   have W : Fr 51 [] [⟨3, [], str (printS u0).1⟩, ⟨4, [], i6 (printS u0).2⟩, ⟨6, [], str []⟩, ⟨33, [], .slice ao1 u0.length cap2⟩, ⟨34, [], i6 (u0.length : Int)⟩, ⟨35, [], i6 0⟩] U := V.reg
   obtain ⟨aD, aE, aF, aG⟩ := aC
   refine lp (ι := (List UInt8) × Int) (fun s => [⟨3, [], str (printS u0).1⟩, ⟨4, [], i6 (printS u0).2⟩, ⟨6, [], str s.1⟩, ⟨33, [], .slice ao1 u0.length cap2⟩, ⟨34, [], i6 (u0.length : Int)⟩, ⟨35, [], i6 s.2⟩]) (fun s => []) (fun s => Z) (fun s => aD s.1 s.2) (fun s => aE s.1 s.2) ⟨[], 0⟩ aF (by exact W.region (by kernel_rfl) (by kernel_rfl)) (by exact b) ?_
   rintro ⟨c, d⟩ aH aI aJ Y aa
   have u := aG c d aH
   refine sqB Y aa [] [] [(36, .bool (decide (d < (u0.length : Int))))] ?_; intro bl i
   apply s_
   refine cd i (t := decide (d < (u0.length : Int))) (by kernel_rfl) (fun B => ?_) (fun B => ?_)
   · -- yes
    have aK := u.1 B
    refine k_ (s_ (b_ (sqH ?_))); intro aL ac
    obtain ⟨aM, ad⟩ := aK
    refine ix_ i hs3 d aM .i64 31 64 ?_; intro bm bn bo a bp aN aO aP ae
    have af := ad a aN
    obtain ⟨j, l, rfl, ag⟩ := aP
    have aQ := af (ag.small)
    refine z2 ae aa 38 aO 0 8 (e31I a j l) rfl ?_; intro bq ah
    refine nw ah aa pb [i6 0, i6 0, i6 0, .bool false, .bool false, .bool false, i6 0, .slice none 0 0] 31 ?_; intro aR br bs C ai
    refine sx C ai 0 (e31I a j l) 0 ?_; intro aS aj
    have v : Mem w.heap.size [] w Z [.row aR (e31I a j l) 31] Z aS := aj
    apply ac
    refine rgH ?_; intro aT ak
    refine bt C v 2 [0] [] [(39, str c), (40, .agg (e31I a j l).toArray)] ?_; intro bu al
    obtain ⟨aU, aV⟩ := aQ
    refine fc al v (ltext_fun a aU j l _ _ ag hg0 hg3 v.fz) ?_; intro bv bw am an
    obtain ⟨aW, ao⟩ := aV
    refine sa am aW ?_; intro bx ap
    refine s1 ap 6 (str (c ++ (lineP a))) ?_; intro bz aq
    apply ak
    refine j_ (t_ (rgB aq an [] [] [(35, i6 (w64 (d + 1)))] ?_)); intro bA aX
    exact d_ ⟨⟨c ++ (lineP a), w64 (d + 1)⟩, ao.1, ao.2, (aX.region (by kernel_rfl) (by kernel_rfl)).anyβ _ (by kernel_rfl), an.kp⟩
   · -- no
    have aY := u.2 B
    refine x_ (y_ (y_ (z_ (t_ (sqB i aa [] [100] [(2, .bool (((printS u0).2 == 0) && ((printS u0).1 == c)))] ?_))))); intro bB aZ
    exact r_ (ra1 aZ (.bool (((printS u0).2 == 0) && ((printS u0).1 == c))) ⟨((printS u0).2 == 0) && ((printS u0).1 == c), rfl, aY, aa.below⟩)

end Go.Proofs.YtdenmllkjdijlaaDoor
