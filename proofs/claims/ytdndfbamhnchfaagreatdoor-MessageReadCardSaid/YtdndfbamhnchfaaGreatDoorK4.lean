/- Texts put together (pure ones, or walks made by program). -/
import Derived.Test.YtdndfbamhnchfaaGreatDoorK0
import Derived.Test.YtdndfbamhnchfaaGreatDoorK1
import Derived.Test.YtdndfbamhnchfaaGreatDoorK2
import Derived.Test.YtdndfbamhnchfaaGreatDoorK3
import Derived.Shelf.Lay
import Derived.Ground.NamesProg
import Derived.Shelf.Strings.SlTrimAscii
set_option linter.unusedVariables false
set_option linter.unusedSimpArgs false
set_option linter.defProp false
set_option maxRecDepth 100000
set_option maxHeartbeats 0
namespace Go.Proofs.YtdndfbamhnchfaaGreatDoor
open Go.Sy Go.RowKit
abbrev e46F (X : Signal) : List Value := [str X.Name, i6 X.Start, i6 X.Size, .bool X.Back, .bool X.Signed, i6 X.Mul, i6 X.Div, i6 X.Add, i6 X.Key]
def icmp_fun (u0 : Int) (u1 : Int)  (Z : Fz) (w : World)  (hZ : Z.on w) := f_ (icmp_walk u0 u1  Z w  hZ (icmp_ok u0 u1))
theorem sover_walk (u0 : Signal) (u1 : Signal)  (Z : Fz) (w : World)  (hZ : Z.on w) {K : Bool → Prop} (hp : sover_vc u0 u1 K) : Calls Tryz.prog 59 #[.agg #[str u0.Name, i6 u0.Start, i6 u0.Size, .bool u0.Back, .bool u0.Signed, i6 u0.Mul, i6 u0.Div, i6 u0.Add, i6 u0.Key], .agg #[str u1.Name, i6 u1.Start, i6 u1.Size, .bool u1.Back, .bool u1.Signed, i6 u1.Mul, i6 u1.Div, i6 u1.Add, i6 u1.Key]] w fun e w' => ∃ r : Bool, e = .returned (.bool r) ∧ K r ∧ Below w.heap.size w w' := by
 refine enter0 Tryz.func59 rfl rfl (by kernel_rfl) ?_; intro a0 aj; have ak := Mem.start w Z hZ
 refine sqH ?_; intro bB al
 refine nw aj ak pb (e46F u0) 46 ?_; intro j a3 cJ am an
 refine nw am an pb (e46F u1) 46 ?_; intro i a8 cK ao H
 refine s1 ao 4 (.bool false) ?_; intro cL ap
 apply al
 refine s_ (sqH ?_); intro bC aq
 refine l2 ap H 8 1 0 9 (e46F u0) rfl rfl ?_; intro cM ar
 refine fc ar H (scheck_fun u0 64 _ _ H.fz) ?_; intro cN cO au I
 refine s1 au 10 (.bool ((checkS u0 64) != 0)) ?_; intro cP av
 refine s1 av 11 (.bool ((checkS u0 64) != 0)) ?_; intro cQ aw
 have S := aw.atom (((checkS u0 64) != 0) == false) (by kernel_rfl)
 refine gd S (.agg (e46F u1).toArray) (m := 0) (cj := []) (bj := (checkS u0 64) != 0) rfl rfl (by kernel_rfl) rfl (by kernel_rfl) (by kernel_rfl) (by kernel_rfl) (fun hg => lda S I 0 (g := [0]) (b := i) (off := 0) (k := 9) (cs := (e46F u1)) (vs := (e46F u1)) (ty := 46) rfl (by kernel_rfl) (by kernel_rfl) (by kernel_rfl) (by kernel_rfl) (by kernel_rfl) hg) ?_; intro cR ax
 refine gcl ax I (i6 (checkS u1 64)) 58 #[.agg (e46F u1).toArray, i6 64] (m := 0) (cj := []) (bj := (checkS u0 64) != 0) rfl rfl (by kernel_rfl) rfl (by kernel_rfl) (by kernel_rfl) (by kernel_rfl) (fun _ => by kernel_rfl) (fun hg => scheck_fun u1 64 _ _ I.fz) ?_; intro cT cU ay J
 refine gp ay 14 0 [] ((checkS u0 64) != 0) (.bool ((checkS u1 64) != 0)) rfl rfl ?_; intro cV U
 refine u_ U (.bool (((checkS u0 64) != 0) || ((checkS u1 64) != 0))) (pk_or U (g := []) (m := 0) (b := (checkS u0 64) != 0) (v := (checkS u1 64) != 0) rfl (by kernel_rfl) (by kernel_rfl) (by kernel_rfl) rfl) ?_; intro az x
 apply aq
 refine cd x (t := ((checkS u0 64) != 0) || ((checkS u1 64) != 0)) (by kernel_rfl) (fun V => ?_) (fun V => ?_)
 · -- yes
  have bD := hp.1 V
  have aA : Fr 49 [] [] az := x.reg
  refine sqB aA J [] [] [(4, .bool false)] ?_; intro cW bE
  exact r_ (h_ (ra1 bE (.bool false) ⟨false, rfl, bD, J.below⟩))
 · -- no
  have bF := hp.2 V
  apply k_
  have aB : Fr 49 [] [⟨2, [], pt j 0⟩, ⟨3, [], pt i 0⟩] az := x.reg
  refine wp_seq (rgS mixed J [(0, true), (2, true), (1, false), (3, false), (4, true), (5, true)] [] [1, 0] [.row j (e46F u0) 46, .row i (e46F u1) 46] ?_)
  intro bG aC cX W
  have q := Fz.le.refl Z
  refine cS aB 2 [0, 1] [] [(16, .agg (e46F u0).toArray), (18, .agg (e46F u1).toArray)] ?_; intro cY aD
  refine eS rfl ?_; intro bH aE
  obtain ⟨bI, bJ⟩ := bF
  refine ck aD 62 #[.agg (e46F u0).toArray] ?_
  refine (splaces_fun u0 bI _ _ W.fz).mono ?_; rintro _ bK ⟨a, c, bL, rfl, hm⟩; refine ⟨_, rfl, ?_⟩; intro cZ aF; have aG := W.callZ hm; have aH := hm.ext.le
  replace q := q.mono aH
  have L : Mem w.heap.size [] w Z [.own t6 3 a c (placesS u0), .row i (e46F u1) 46, .row j (e46F u0) 46] bL bK := aG
  refine nl (qnI (aE _ _ (L.cst q [2, 1]) ?_))
  refine eS rfl ?_; intro bM aI
  obtain ⟨bN, aJ⟩ := bJ
  refine ck aF 62 #[.agg (e46F u1).toArray] ?_
  refine (splaces_fun u1 bN _ _ L.fz).mono ?_; rintro _ bO ⟨d, f, bP, rfl, hm⟩; refine ⟨_, rfl, ?_⟩; intro c0 aK; have aL := L.callZ hm; have aM := hm.ext.le
  replace q := q.mono aM
  have M : Mem w.heap.size [] w Z [.own t6 3 d f (placesS u1), .own t6 3 a c (placesS u0), .row i (e46F u1) 46, .row j (e46F u0) 46] bP bO := aL
  refine nl (qnI (aI _ _ (M.cst q [3, 2]) ?_))
  refine cS aK 2 [] [] [(5, .slice a (placesS u0).length c), (6, .slice d (placesS u1).length f)] ?_; intro c1 aN
  refine nS (aC _ _ ?_)
  refine t_ (sqH ?_); intro bQ aO
  refine s1 aN 20 (.slice a (placesS u0).length c) ?_; intro c2 aP
  refine ck aP 88 #[.slice a (placesS u0).length c] ?_
  refine (isort_fun (placesS u0) a c _ _ _ _ _ _ (M.perm (pk 1 rfl)) M.fz).mono ?_; rintro _ bR ⟨bS, rfl, bT, bU, hm⟩; refine ⟨_, rfl, ?_⟩; intro bV aQ; have aR := hm
  have aS : Fr 49 [] [⟨2, [], pt j 0⟩, ⟨3, [], pt i 0⟩, ⟨5, [], .slice a (isortS (placesS u0)).length c⟩, ⟨6, [], .slice d (placesS u1).length f⟩, ⟨16, [], .agg (e46F u0).toArray⟩, ⟨17, [], .slice a (isortS (placesS u0)).length c⟩, ⟨18, [], .agg (e46F u1).toArray⟩, ⟨19, [], .slice d (placesS u1).length f⟩, ⟨20, [], .slice a (isortS (placesS u0)).length c⟩, ⟨21, [], .tuple #[]⟩] bV := by rw [bU]; exact aQ.region (by kernel_rfl) (by kernel_rfl)
  have N : Mem w.heap.size [] w Z [.own t6 3 a c (isortS (placesS u0)), .own t6 3 d f (placesS u1), .row i (e46F u1) 46, .row j (e46F u0) 46] bS bR := aR
  have aT := aJ (N.ownSmall 0 rfl)
  apply aO
  refine sqH ?_; intro bW aU
  refine s1 aS 22 (.slice d (placesS u1).length f) ?_; intro c3 aV
  refine ck aV 88 #[.slice d (placesS u1).length f] ?_
  refine (isort_fun (placesS u1) d f _ _ _ _ _ _ (N.perm (pk 1 rfl)) N.fz).mono ?_; rintro _ X ⟨bX, rfl, bY, bZ, hm⟩; refine ⟨_, rfl, ?_⟩; intro Y aW; have aX := hm
  have aY : Fr 49 [] [⟨2, [], pt j 0⟩, ⟨3, [], pt i 0⟩, ⟨5, [], .slice a (isortS (placesS u0)).length c⟩, ⟨6, [], .slice d (isortS (placesS u1)).length f⟩, ⟨16, [], .agg (e46F u0).toArray⟩, ⟨17, [], .slice a (isortS (placesS u0)).length c⟩, ⟨18, [], .agg (e46F u1).toArray⟩, ⟨19, [], .slice d (isortS (placesS u1)).length f⟩, ⟨20, [], .slice a (isortS (placesS u0)).length c⟩, ⟨21, [], .tuple #[]⟩, ⟨22, [], .slice d (isortS (placesS u1)).length f⟩, ⟨23, [], .tuple #[]⟩] Y := by rw [bZ]; exact aW.region (by kernel_rfl) (by kernel_rfl)
  have aZ : Mem w.heap.size [] w Z [.own t6 3 d f (isortS (placesS u1)), .own t6 3 a c (isortS (placesS u0)), .row i (e46F u1) 46, .row j (e46F u0) 46] bX X := aX
  have b0 := aT (aZ.ownSmall 0 rfl)
  apply aU
  refine s_ (b_ ?_)
  have a1 : Fr 49 [] [⟨5, [], .slice a (isortS (placesS u0)).length c⟩, ⟨6, [], .slice d (isortS (placesS u1)).length f⟩] Y := aY.reg
  obtain ⟨b1, b3, a2, O⟩ := aZ.freeze 1 rfl
  have b4 : Mem w.heap.size [] w Z [.own t6 3 d f (isortS (placesS u1)), .row i (e46F u1) 46, .row j (e46F u0) 46] b1 X := a2
  obtain ⟨aa, a4, a5, a6⟩ := b4.freeze 0 rfl
  replace O := O.mono a4
  have a7 : Mem w.heap.size [] w Z [.row i (e46F u1) 46, .row j (e46F u0) 46] aa X := a5
  have a9 : Fr 49 [] [⟨5, [], .slice a (isortS (placesS u0)).length c⟩, ⟨6, [], .slice d (isortS (placesS u1)).length f⟩] Y := a1.reg
  obtain ⟨b5, b6, b8, b9⟩ := b0
  refine lp (ι := (List Int) × (List Int) × (Option Addr) × Nat × (Option Addr) × Nat × Fz) (fun s => [⟨5, [], .slice s.2.2.1 s.1.length s.2.2.2.1⟩, ⟨6, [], .slice s.2.2.2.2.1 s.2.1.length s.2.2.2.2.2.1⟩]) (fun s => [.row i (e46F u1) 46, .row j (e46F u0) 46]) (fun s => s.2.2.2.2.2.2) (fun s => b5 s.1 s.2.1 ∧ SlR t6 s.2.2.2.2.2.2 s.2.2.1 s.2.2.2.1 s.1 ∧ SlR t6 s.2.2.2.2.2.2 s.2.2.2.2.1 s.2.2.2.2.2.1 s.2.1 ∧ Fz.le aa s.2.2.2.2.2.2) (fun s => b6 s.1 s.2.1) ⟨(isortS (placesS u0)), (isortS (placesS u1)), a, c, d, f, aa⟩ ⟨b8, O, a6, Fz.le.refl _⟩ (by exact a9.region (by kernel_rfl) (by kernel_rfl)) (by exact a7) ?_
  rintro ⟨l, n, y, z, A, B, ab⟩ ⟨ca, ac, ad, C⟩ cb cc ba bb
  have P := b9 l n ca
  refine s_ (sqB ba bb [] [] [(31, .bool ((decide ((l.length : Int) > 0)) && (decide ((n.length : Int) > 0))))] ?_); intro ce E
  refine cd E (t := (decide ((l.length : Int) > 0)) && (decide ((n.length : Int) > 0))) (by kernel_rfl) (fun ae => ?_) (fun ae => ?_)
  · -- yes
   have cf := P.1 ae
   refine k_ (b_ ?_)
   have bd : Fr 49 [] [⟨5, [], .slice y l.length z⟩, ⟨6, [], .slice A n.length B⟩] ce := E.reg
   refine sqQH mixed (by kernel_rfl) bb ?_; intro cg be
   refine q1 bd 32 (.slice y l.length z) ?_; intro c7 bf
   obtain ⟨ch, bg⟩ := cf
   refine qx_ bf ac (0 : Int) ch .i64 3 8 ?_; intro c8 c9 ci o da cl cm cn af
   have co := bg o cl
   obtain rfl : ci = ([i6 o] : List Value) := cn
   refine qz_ af cm 0 (i6 o) rfl ?_; intro db bh
   refine q1 bh 35 (.slice A n.length B) ?_; intro dc bi
   obtain ⟨cp, bk⟩ := co
   refine qx_ bi ad (0 : Int) cp .i64 3 8 ?_; intro dd de cq p df cr ct cu ag
   have Q := bk p cr
   obtain rfl : cq = ([i6 p] : List Value) := cu
   refine qz_ ag ct 0 (i6 p) rfl ?_; intro dg bl
   refine qcl bl (i6 (icmpS o p)) 89 #[i6 o, i6 p] (nog rfl _) rfl (by kernel_rfl) (fun _ => by kernel_rfl) (qfc fun w hC => icmp_fun o p _ _ hC.fz) ?_; intro dh bm
   refine q1 bm 7 (i6 (icmpS o p)) ?_; intro di bn
   refine qnl (be _ ?_); intro dj u
   refine b_ (sqB bn u [] [] [(41, .bool ((icmpS o p) == 0))] ?_); intro dk F
   refine cd F (t := (icmpS o p) == 0) (by kernel_rfl) (fun ah => ?_) (fun ah => ?_)
   · -- yes
    have cv := Q.1 ah
    refine sqB F u [] [] [(4, .bool true)] ?_; intro dl cw
    exact r_ (i_ (i_ (h_ (i_ (h_ (ra1 cw (.bool true) ⟨true, rfl, cv, u.below⟩))))))
   · -- no
    have R := Q.2 ah
    refine sqB F u [] [] [(44, .bool (decide ((icmpS o p) < 0)))] ?_; intro dm G
    refine cd G (t := decide ((icmpS o p) < 0)) (by kernel_rfl) (fun ai => ?_) (fun ai => ?_)
    · -- yes
     have cx := R.1 ai
     refine rgH ?_; intro cy bo
     refine s1 G 47 (.slice y l.length z) ?_; intro dn bp
     obtain ⟨cz, bq⟩ := cx
     refine slL bp (T := t6) (xs := l) ac (1 : Int) cz (k := .i64) (e := 3) (bytes := 8) (nog rfl _) rfl (by kernel_rfl) rfl (by kernel_rfl) (by kernel_rfl) (by kernel_rfl) ?_; intro br bs dp dq cA bt
     refine s1 bt 5 (.slice br (l.drop (1 : Int).toNat).length bs) ?_; intro dr cB
     apply bo
     exact j_ (j_ (d_ ⟨⟨l.drop (1 : Int).toNat, n, br, bs, A, B, ab⟩, ⟨bq.1, cA, ad, C⟩, bq.2, (cB.region (by kernel_rfl) (by kernel_rfl)).anyβ _ (by kernel_rfl), u.kp⟩))
    · -- no
     have cC := R.2 ai
     refine rgH ?_; intro cD bu
     refine s1 G 39 (.slice A n.length B) ?_; intro ds bv
     obtain ⟨cE, bw⟩ := cC
     refine slL bv (T := t6) (xs := n) ad (1 : Int) cE (k := .i64) (e := 3) (bytes := 8) (nog rfl _) rfl (by kernel_rfl) rfl (by kernel_rfl) (by kernel_rfl) (by kernel_rfl) ?_; intro bx bz dt du cF bA
     refine s1 bA 6 (.slice bx (n.drop (1 : Int).toNat).length bz) ?_; intro dv cG
     apply bu
     exact j_ (j_ (d_ ⟨⟨l, n.drop (1 : Int).toNat, y, z, bx, bz, ab⟩, ⟨bw.1, ac, cF, C⟩, bw.2, (cG.region (by kernel_rfl) (by kernel_rfl)).anyβ _ (by kernel_rfl), u.kp⟩))
  · -- no
   have cH := P.2 ae
   refine x_ (y_ (y_ (z_ (t_ (sqB E bb [] [] [(4, .bool false)] ?_))))); intro dw cI
   exact r_ (ra1 cI (.bool false) ⟨false, rfl, cH, bb.below⟩)

end Go.Proofs.YtdndfbamhnchfaaGreatDoor
set_option linter.unusedVariables false
set_option linter.unusedSimpArgs false
namespace Go.Proofs.YtdndfbamhnchfaaGreatDoor
open Go.Sy Go.RowKit
def sover_fun (u0 : Signal) (u1 : Signal)  (Z : Fz) (w : World)  (hZ : Z.on w) := f_ (sover_walk u0 u1  Z w  hZ (sover_ok u0 u1))
end Go.Proofs.YtdndfbamhnchfaaGreatDoor
set_option linter.unusedVariables false
set_option linter.unusedSimpArgs false
set_option maxRecDepth 100000
set_option maxHeartbeats 0
namespace Go.Proofs.YtdndfbamhnchfaaGreatDoor
open Go.Sy Go.RowKit
theorem fsizes_walk   (Z : Fz) (w : World)  (hZ : Z.on w) {K : (List Int) → Prop} (hp : fsizes_vc  K) : Calls Tryz.prog 60 #[] w fun e w' => ∃ (r : (List Int)) (ao1001 : Option Addr) (cap1002 : Nat) (Z' : Fz), e = .returned (.slice ao1001 r.length cap1002) ∧ K r ∧ Mem w.heap.size [] w Z [.own t6 3 ao1001 cap1002 r] Z' w' := by
 refine enter0 Tryz.func60 rfl rfl (by kernel_rfl) ?_; intro n d; have c := Mem.start w Z hZ
 refine sqB d c [] [] [] ?_; intro p f
 refine sqH ?_; intro j g
 refine nw f c (fun b => .slice (sm b) 16 16) [i6 0, i6 1, i6 2, i6 3, i6 4, i6 5, i6 6, i6 7, i6 8, i6 12, i6 16, i6 20, i6 24, i6 32, i6 48, i6 64] 3 ?_; intro a q k h i
 refine s1 h 0 (.slice (sm a) 16 16) ?_; intro s l
 apply g
 apply r_
 have m : Mem w.heap.size [] w Z [.own t6 3 (sm a) 16 ([0, 1, 2, 3, 4, 5, 6, 7, 8, 12, 16, 20, 24, 32, 48, 64] : List Int)] Z k := i.rowOwn (T := t6) (xs := ([0, 1, 2, 3, 4, 5, 6, 7, 8, 12, 16, 20, 24, 32, 48, 64] : List Int)) 0 rfl (by decide) (by show 16 ≤ lim; decide) ((RepAll.one (T := t6) (x := 0) rfl).append ((RepAll.one (T := t6) (x := 1) rfl).append ((RepAll.one (T := t6) (x := 2) rfl).append ((RepAll.one (T := t6) (x := 3) rfl).append ((RepAll.one (T := t6) (x := 4) rfl).append ((RepAll.one (T := t6) (x := 5) rfl).append ((RepAll.one (T := t6) (x := 6) rfl).append ((RepAll.one (T := t6) (x := 7) rfl).append ((RepAll.one (T := t6) (x := 8) rfl).append ((RepAll.one (T := t6) (x := 12) rfl).append ((RepAll.one (T := t6) (x := 16) rfl).append ((RepAll.one (T := t6) (x := 20) rfl).append ((RepAll.one (T := t6) (x := 24) rfl).append ((RepAll.one (T := t6) (x := 32) rfl).append ((RepAll.one (T := t6) (x := 48) rfl).append (RepAll.one (T := t6) (x := 64) rfl))))))))))))))))
 exact ra1 l (.slice (sm a) ([0, 1, 2, 3, 4, 5, 6, 7, 8, 12, 16, 20, 24, 32, 48, 64] : List Int).length 16) ⟨([0, 1, 2, 3, 4, 5, 6, 7, 8, 12, 16, 20, 24, 32, 48, 64] : List Int), (sm a), 16, Z, rfl, hp, m.kp⟩
def fsizes_fun   (Z : Fz) (w : World)  (hZ : Z.on w) := fc_ (fsizes_walk   Z w  hZ (fsizes_ok ))
theorem sindex_walk (u0 : List Int) (u1 : Int) (ao1 : Option Addr) (cap2 : Nat) (Z : Fz) (w : World) (hs3 : SlR t6 Z ao1 cap2 u0) (hZ : Z.on w) {K : Int → Prop} (hp : sindex_vc u0 u1 K) : Calls Tryz.prog 67 #[.slice ao1 u0.length cap2, i6 u1] w fun e w' => ∃ r : Int, e = .returned (i6 r) ∧ K r ∧ Below w.heap.size w w' := by
 refine enter0 Tryz.func67 rfl rfl (by kernel_rfl) ?_; intro a0 m; have g := Mem.start w Z hZ
 have G := hp (hs3.small)
 refine sqB m g [] [] [] ?_; intro a6 n
 refine s_ (sqB n g [] [] [(7, i6 (u0.length : Int)), (8, i6 0)] ?_); intro o p
 apply b_
 have q : Fr 19 [] [⟨0, [], .slice ao1 u0.length cap2⟩, ⟨1, [], i6 u1⟩, ⟨7, [], i6 (u0.length : Int)⟩, ⟨8, [], i6 0⟩] o := p.reg
 obtain ⟨H, I, J, L⟩ := G
 refine lp (ι := Int) (fun s => [⟨0, [], .slice ao1 u0.length cap2⟩, ⟨1, [], i6 u1⟩, ⟨7, [], i6 (u0.length : Int)⟩, ⟨8, [], i6 s⟩]) (fun s => []) (fun s => Z) (fun s => H s) (fun s => I s) 0 J (by exact q.region (by kernel_rfl) (by kernel_rfl)) (by exact g) ?_
 rintro a M N O v x
 have h := L a M
 refine sqB v x [] [] [(9, .bool (decide (a < (u0.length : Int))))] ?_; intro ae c
 apply s_
 refine cd c (t := decide (a < (u0.length : Int))) (by kernel_rfl) (fun j => ?_) (fun j => ?_)
 · -- yes
  have P := h.1 j
  refine k_ (s_ (b_ (sqB c x [] [] [(5, i6 a)] ?_))); intro af z
  refine sqH ?_; intro Q A
  refine bt z x 3 [] [] [(11, i6 u1), (12, .slice ao1 u0.length cap2), (13, i6 a)] ?_; intro ag B
  obtain ⟨R, C⟩ := P
  refine ix_ B hs3 a R .i64 3 8 ?_; intro ah ai S d aj U V W D
  have i := C d U
  obtain rfl : S = ([i6 d] : List Value) := W
  refine z1 D x 15 V 0 (i6 d) rfl ?_; intro ak E
  refine s1 E 16 (.bool (u1 == d)) ?_; intro al f
  apply A
  refine cd f (t := u1 == d) (by kernel_rfl) (fun l => ?_) (fun l => ?_)
  · -- yes
   have X := i.1 l
   refine sqB f x [] [] [(4, i6 a)] ?_; intro am Y
   exact r_ (i_ (h_ (h_ (i_ (h_ (ra1 Y (i6 a) ⟨a, rfl, X, x.below⟩))))))
  · -- no
   have F := i.2 l
   refine l_ (j_ (t_ (rgB f x [] [] [(8, i6 (w64 (a + 1)))] ?_))); intro an aa
   exact d_ ⟨w64 (a + 1), F.1, F.2, (aa.region (by kernel_rfl) (by kernel_rfl)).anyβ _ (by kernel_rfl), x.kp⟩
 · -- no
  have ab := h.2 j
  refine x_ (y_ (y_ (z_ (t_ (sqB c x [] [] [(4, i6 (-1))] ?_))))); intro ao ac
  exact r_ (ra1 ac (i6 (-1)) ⟨-1, rfl, ab, x.below⟩)

theorem scontains_walk (u0 : List Int) (u1 : Int) (ao1 : Option Addr) (cap2 : Nat) (Z : Fz) (w : World) (hs3 : SlR t6 Z ao1 cap2 u0) (hZ : Z.on w) {K : Bool → Prop} (hp : scontains_vc u0 u1 K) : Calls Tryz.prog 29 #[.slice ao1 u0.length cap2, i6 u1] w fun e w' => ∃ r : Bool, e = .returned (.bool r) ∧ K r ∧ Below w.heap.size w w' := by
 refine enter0 Tryz.func29 rfl rfl (by kernel_rfl) ?_; intro n c; have a := Mem.start w Z hZ
 have j := hp (hs3.small)
 refine sqB c a [] [] [] ?_; intro p d
 refine sqH ?_; intro k f
 refine bt d a 2 [] [] [(5, .slice ao1 u0.length cap2), (6, i6 u1)] ?_; intro q g
 refine ck g 67 #[.slice ao1 u0.length cap2, i6 u1] ?_
 refine (sindex_walk u0 u1 ao1 cap2 _ _ hs3 a.fz j).mono ?_; rintro _ s ⟨b, rfl, l, hb⟩; refine ⟨_, rfl, ?_⟩; intro t h; have i := a.call hb
 refine bt h i 2 [] [] [(4, .bool (decide (b ≥ 0)))] ?_; intro u m
 apply f
 exact r_ (ra1 m (.bool (decide (b ≥ 0))) ⟨decide (b ≥ 0), rfl, l, i.below⟩)

end Go.Proofs.YtdndfbamhnchfaaGreatDoor
set_option linter.unusedVariables false
set_option linter.unusedSimpArgs false
set_option maxRecDepth 100000
set_option maxHeartbeats 0
namespace Go.Proofs.YtdndfbamhnchfaaGreatDoor
open Go.Sy Go.RowKit
abbrev e46Mb (X : Signal) : List Value := [str X.Name, i6 X.Start, i6 X.Size, .bool X.Back, .bool X.Signed, i6 X.Mul, i6 X.Div, i6 X.Add, i6 X.Key]
abbrev e27Mb (X : Frame) (A0 : Option Addr) (C0 : Nat) : List Value := [i6 X.ID, .bool X.Long, .bool X.Fast, .bool X.Remote, i6 X.Size, .slice A0 X.Data.length C0]
abbrev e24Mb (X : Message) (A0 : Option Addr) (C0 : Nat) : List Value := [i6 X.ID, .bool X.Long, str X.Name, i6 X.Size, i6 X.Chooser, .slice A0 X.Signals.length C0]
def scontains_fun (u0 : List Int) (u1 : Int) (ao1 : Option Addr) (cap2 : Nat) (Z : Fz) (w : World) (hs3 : SlR t6 Z ao1 cap2 u0) (hZ : Z.on w) := f_ (scontains_walk u0 u1 ao1 cap2 Z w hs3 hZ (scontains_ok u0 u1))
theorem fcheckfr_walk (u0 : Frame) (ao1 : Option Addr) (cap2 : Nat) (Z : Fz) (w : World) (hs3 : SlR t8 Z ao1 cap2 u0.Data) (hZ : Z.on w) {K : Int → Prop} (hp : fcheckfr_vc u0 K) : Calls Tryz.prog 22 #[.agg #[i6 u0.ID, .bool u0.Long, .bool u0.Fast, .bool u0.Remote, i6 u0.Size, .slice ao1 u0.Data.length cap2]] w fun e w' => ∃ r : Int, e = .returned (i6 r) ∧ K r ∧ Below w.heap.size w w' := by
 refine enter0 Tryz.func22 rfl rfl (by kernel_rfl) ?_; intro a0 C; have D := Mem.start w Z hZ
 have k := hp (hs3.small)
 refine sqH ?_; intro V E
 refine nw C D pb (e27Mb u0 ao1 cap2) 27 ?_; intro l a7 aq F a
 refine s1 F 2 (i6 0) ?_; intro ar G
 apply E
 refine s_ (b_ (sqB G a [0, 0, 0, 0] [] [(3, .bool (((decide (u0.ID < 0)) || ((!u0.Long) && (decide (u0.ID > 2047)))) || (decide (u0.ID > 536870911))))] ?_)); intro au c
 refine cd c (t := ((decide (u0.ID < 0)) || ((!u0.Long) && (decide (u0.ID > 2047)))) || (decide (u0.ID > 536870911))) (by kernel_rfl) (fun q => ?_) (fun q => ?_)
 · -- yes
  have W := k.1 q
  refine sqB c a [] [] [(2, i6 3)] ?_; intro av X
  exact r_ (i_ (h_ (ra1 X (i6 3) ⟨3, rfl, W, a.below⟩)))
 · -- no
  have m := k.2 q
  refine sqB c a [0, 0, 0] [] [(22, .bool (u0.Remote && (u0.Fast || (decide ((u0.Data.length : Int) > 0)))))] ?_; intro aw d
  refine cd d (t := u0.Remote && (u0.Fast || (decide ((u0.Data.length : Int) > 0)))) (by kernel_rfl) (fun s => ?_) (fun s => ?_)
  · -- yes
   have Y := m.1 s
   refine sqB d a [] [] [(2, i6 4)] ?_; intro ax aa
   exact r_ (i_ (h_ (ra1 aa (i6 4) ⟨4, rfl, Y, a.below⟩)))
  · -- no
   have n := m.2 s
   refine sqB d a [0, 0, 0, 0] [] [(35, .bool (((decide (u0.Size < 0)) || (decide (u0.Size > 8))) || ((!u0.Remote) && (u0.Size != 0))))] ?_; intro ay f
   refine cd f (t := ((decide (u0.Size < 0)) || (decide (u0.Size > 8))) || ((!u0.Remote) && (u0.Size != 0))) (by kernel_rfl) (fun u => ?_) (fun u => ?_)
   · -- yes
    have ab := n.1 u
    refine sqB f a [] [] [(2, i6 3)] ?_; intro az ac
    exact r_ (i_ (h_ (ra1 ac (i6 3) ⟨3, rfl, ab, a.below⟩)))
   · -- no
    have o := n.2 u
    refine sqB f a [0, 0, 0] [] [(54, .bool ((decide ((u0.Data.length : Int) > 64)) || ((!u0.Fast) && (decide ((u0.Data.length : Int) > 8)))))] ?_; intro ad g
    refine cd g (t := (decide ((u0.Data.length : Int) > 64)) || ((!u0.Fast) && (decide ((u0.Data.length : Int) > 8)))) (by kernel_rfl) (fun v => ?_) (fun v => ?_)
    · -- yes
     have ae := o.1 v
     refine sqB g a [] [] [(2, i6 2)] ?_; intro aA af
     exact r_ (i_ (h_ (ra1 af (i6 2) ⟨2, rfl, ae, a.below⟩)))
    · -- no
     have p := o.2 v
     have H : Fr 77 [] [⟨1, [], pt l 0⟩] ad := g.reg
     refine wp_seq (rgS mixed a [(1, true), (2, true), (3, true), (0, false), (4, false), (5, true), (6, true)] [] [0] [.row l (e27Mb u0 ao1 cap2) 27] ?_)
     intro ag I aB x
     have b := Fz.le.refl Z
     refine cS H 3 [0] [] [(74, i6 (u0.Data.length : Int))] ?_; intro aC J
     refine eS rfl ?_; intro ah L
     refine ck J 60 #[] ?_
     refine (fsizes_fun  _ _ x.fz).mono ?_; rintro _ M ⟨N, O, ai, rfl, hm⟩; refine ⟨_, rfl, ?_⟩; intro aD P; have Q := x.callZ hm; have y := hm.ext.le
     replace b := b.mono y
     have R : Mem w.heap.size [] w Z [.own t6 3 N O fsizes, .row l (e27Mb u0 ao1 cap2) 27] ai M := Q
     refine nl (qnI (L _ _ (R.cst b [1]) ?_))
     refine eS rfl ?_; intro aj S
     obtain ⟨ak, z, T, al⟩ := R.freeze 0 rfl
     replace b := b.mono z
     have A : Mem w.heap.size [] w Z [.row l (e27Mb u0 ao1 cap2) 27] ak M := T
     refine fc P A (scontains_fun fsizes (u0.Data.length : Int) N O _ _ al A.fz) ?_; intro aE aF U h
     refine nl (qnI (S _ _ (h.cst b [0]) ?_))
     refine cS U 2 [] [] [(70, .bool (!(scontainsS fsizes (u0.Data.length : Int))))] ?_; intro aG i
     refine nS (I _ _ ?_)
     apply t_
     refine cd i (t := !(scontainsS fsizes (u0.Data.length : Int))) (by kernel_rfl) (fun B => ?_) (fun B => ?_)
     · -- yes
      have am := p.1 B
      refine sqB i h [] [] [(2, i6 4)] ?_; intro aH an
      exact r_ (i_ (h_ (ra1 an (i6 4) ⟨4, rfl, am, h.below⟩)))
     · -- no
      have ao := p.2 B
      refine l_ (j_ (t_ (sqB i h [] [] [(2, i6 0)] ?_))); intro aI ap
      exact r_ (ra1 ap (i6 0) ⟨0, rfl, ao, h.below⟩)
def fcheckfr_fun (u0 : Frame) (ao1 : Option Addr) (cap2 : Nat) (Z : Fz) (w : World) (hs3 : SlR t8 Z ao1 cap2 u0.Data) (hZ : Z.on w) := f_ (fcheckfr_walk u0 ao1 cap2 Z w hs3 hZ (fcheckfr_ok u0))
theorem mthere_walk (u0 : Message) (u1 : Signal) (u2 : List Int) (ao1 : Option Addr) (cap2 : Nat) (ao4 : Option Addr) (cap5 : Nat) (Z : Fz) (w : World) (hs3 : SlR tySignal Z ao1 cap2 u0.Signals) (hs6 : SlR t8 Z ao4 cap5 u2) (hZ : Z.on w) {K : Bool → Prop} (hp : mthere_vc u0 u1 u2 K) : Calls Tryz.prog 23 #[.agg #[i6 u0.ID, .bool u0.Long, str u0.Name, i6 u0.Size, i6 u0.Chooser, .slice ao1 u0.Signals.length cap2], .agg #[str u1.Name, i6 u1.Start, i6 u1.Size, .bool u1.Back, .bool u1.Signed, i6 u1.Mul, i6 u1.Div, i6 u1.Add, i6 u1.Key], .slice ao4 u2.length cap5] w fun e w' => ∃ r : Bool, e = .returned (.bool r) ∧ K r ∧ Below w.heap.size w w' := by
 refine enter0 Tryz.func23 rfl rfl (by kernel_rfl) ?_; intro a0 F; have G := Mem.start w Z hZ
 have j := hp (hs3.small) (hs6.small)
 refine sqH ?_; intro aq I
 refine nw F G pb (e24Mb u0 ao1 cap2) 24 ?_; intro h aK aL J L
 refine nw J L pb (e46Mb u1) 46 ?_; intro f aM aN M l
 refine s1 M 6 (.bool false) ?_; intro A N
 apply I
 have n : Fr 23 [] [⟨2, [], .slice ao4 u2.length cap5⟩, ⟨3, [], pt h 0⟩, ⟨4, [], pt f 0⟩] A := N.reg
 rcases Bool.eq_false_or_eq_true (decide (u1.Key < 0)) with i | i
 · -- true
  have ar := j.1 i
  have O : Fr 23 [] [⟨2, [], .slice ao4 u2.length cap5⟩, ⟨3, [], pt h 0⟩, ⟨4, [], pt f 0⟩] A := n.reg
  refine sqQH mixed (by kernel_rfl) l ?_; intro au P
  refine q1 O 7 (pt f 8) ?_; intro aO B
  refine ql_ B 0 8 (i6 u1.Key) rfl rfl ?_; intro aP Q
  refine q1 Q 9 (.bool (decide (u1.Key < 0))) ?_; intro aQ R
  have S := R.reval (d := 9) (c := []) (v := .bool (decide (u1.Key < 0))) (by kernel_rfl) (.bool true) (by rw [i])
  refine q1 S 10 (.bool true) ?_; intro aR U
  refine qk_ U true ?_; intro aS V
  refine qk_ V true ?_; intro aT W
  refine qk_ W true ?_; intro aU X
  refine qk_ X true ?_; intro aV Y
  refine qk_ Y true ?_; intro aW aa
  refine qk_ aa true ?_; intro aX ab
  refine qk_ ab true ?_; intro aY ac
  refine qk_ ac true ?_; intro aZ ad
  refine qk_ ad true ?_; intro a1 ae
  refine qk_ ae true ?_; intro a2 af
  refine qk_ af true ?_; intro a3 ag
  refine q1 ag 22 (.bool true) ?_; intro a4 ah
  refine q1 ah 6 (.bool true) ?_; intro a5 av
  refine qnl (P _ ?_); intro a6 aw
  exact r_ (ra1 av (.bool true) ⟨true, rfl, ar, aw.below⟩)
 · -- false
  have ax := j.2 i
  have ai : Fr 23 [] [⟨2, [], .slice ao4 u2.length cap5⟩, ⟨3, [], pt h 0⟩, ⟨4, [], pt f 0⟩] A := n.reg
  refine sqQH mixed (by kernel_rfl) l ?_; intro ay aj
  refine q1 ai 7 (pt f 8) ?_; intro a7 C
  refine ql_ C 0 8 (i6 u1.Key) rfl rfl ?_; intro a8 ak
  refine q1 ak 9 (.bool (decide (u1.Key < 0))) ?_; intro a9 al
  have am := al.reval (d := 9) (c := []) (v := .bool (decide (u1.Key < 0))) (by kernel_rfl) (.bool false) (by rw [i])
  refine q1 am 10 (.bool false) ?_; intro ba o
  refine qg_ o false (pt h 5) ?_; intro bb p
  refine qst p (.slice ao1 u0.Signals.length cap2) (wK p false) rfl (by kernel_rfl) (fun v89 hC => ld p hC 1 (g := []) (b := h) (off := 5) (cs := (e24Mb u0 ao1 cap2)) (ty := 24) rfl (by kernel_rfl) (by kernel_rfl) (by kernel_rfl) (by kernel_rfl) rfl) ?_; intro bc q
  refine qg_ q false (pt h 4) ?_; intro bd s
  refine qst s (i6 u0.Chooser) (wK s false) rfl (by kernel_rfl) (fun v95 hC => ld s hC 1 (g := []) (b := h) (off := 4) (cs := (e24Mb u0 ao1 cap2)) (ty := 24) rfl (by kernel_rfl) (by kernel_rfl) (by kernel_rfl) (by kernel_rfl) rfl) ?_; intro be D
  obtain ⟨az, an⟩ := ax
  refine qix D (T := tySignal) (xs := u0.Signals) hs3 u0.Chooser az (k := .i64) (e := 46) (bytes := 72) (wK D false) rfl (by kernel_rfl) rfl (by kernel_rfl) (by kernel_rfl) (by kernel_rfl) ?_; intro bf bg aA a bh aB aC aD t
  have aE := an a aB
  obtain rfl : aA = ((e46Mb a) : List Value) := aD
  refine qst t (.agg (e46Mb a).toArray) (wK t false) rfl (by kernel_rfl) (fun v111 hC => lza t hC.fz aC 0 (g := []) (m := 9) (vs := (e46Mb a)) rfl (by kernel_rfl) (by kernel_rfl) (by kernel_rfl) (by kernel_rfl) rfl) ?_; intro bi u
  refine qg_ u false (.slice ao4 u2.length cap5) ?_; intro bj E
  obtain ⟨aF, aG⟩ := aE
  refine qcl E (i6 (getS a u2)) 25 #[.agg (e46Mb a).toArray, .slice ao4 u2.length cap5] (wK E false) rfl (by kernel_rfl) (fun _ => by kernel_rfl) (qfc fun w hC => sget_fun a u2 aF ao4 cap5 _ _ hs6 hC.fz) ?_; intro bk x
  refine qg_ x false (pt f 8) ?_; intro bl y
  refine qst y (i6 u1.Key) (wK y false) rfl (by kernel_rfl) (fun v125 hC => ld y hC 0 (g := []) (b := f) (off := 8) (cs := (e46Mb u1)) (ty := 46) rfl (by kernel_rfl) (by kernel_rfl) (by kernel_rfl) (by kernel_rfl) rfl) ?_; intro bm z
  refine qg_ z false (.bool ((getS a u2) == u1.Key)) ?_; intro bn ao
  refine q1 ao 22 (.bool ((getS a u2) == u1.Key)) ?_; intro bo ap
  refine q1 ap 6 (.bool ((getS a u2) == u1.Key)) ?_; intro bp aH
  refine qnl (aj _ ?_); intro bq aI
  exact r_ (ra1 aH (.bool ((getS a u2) == u1.Key)) ⟨(getS a u2) == u1.Key, rfl, aG, aI.below⟩)

end Go.Proofs.YtdndfbamhnchfaaGreatDoor
set_option linter.unusedVariables false
set_option linter.unusedSimpArgs false
set_option maxRecDepth 100000
set_option maxHeartbeats 0
namespace Go.Proofs.YtdndfbamhnchfaaGreatDoor
open Go.Sy Go.RowKit
abbrev e46Mc (X : Signal) : List Value := [str X.Name, i6 X.Start, i6 X.Size, .bool X.Back, .bool X.Signed, i6 X.Mul, i6 X.Div, i6 X.Add, i6 X.Key]
abbrev e24Mc (X : Message) (A0 : Option Addr) (C0 : Nat) : List Value := [i6 X.ID, .bool X.Long, str X.Name, i6 X.Size, i6 X.Chooser, .slice A0 X.Signals.length C0]
theorem mcheck_walk (u0 : Message) (ao1 : Option Addr) (cap2 : Nat) (Z : Fz) (w : World) (hs3 : SlR tySignal Z ao1 cap2 u0.Signals) (hZ : Z.on w) {K : Int → Prop} (hp : mcheck_vc u0 K) : Calls Tryz.prog 21 #[.agg #[i6 u0.ID, .bool u0.Long, str u0.Name, i6 u0.Size, i6 u0.Chooser, .slice ao1 u0.Signals.length cap2]] w fun e w' => ∃ r : Int, e = .returned (i6 r) ∧ K r ∧ Below w.heap.size w w' := by
 refine enter0 Tryz.func21 rfl rfl (by kernel_rfl) ?_; intro a0 b3; have b4 := Mem.start w Z hZ
 have ai := hp (hs3.small)
 refine sqH ?_; intro fv b5
 refine nw b3 b4 pb (e24Mc u0 ao1 cap2) 24 ?_; intro i a7 id b7 aj
 refine s1 b7 2 (i6 0) ?_; intro ie b8
 apply b5
 refine s_ (sqH ?_); intro fw b9
 refine bt b8 aj 2 [0] [] [(14, str u0.Name)] ?_; intro ig ca
 refine fc ca aj (sname_fun u0.Name _ _ aj.fz) ?_; intro ih ii cb L
 refine s1 cb 16 (.bool (!(nameS u0.Name))) ?_; intro ij P
 apply b9
 refine c_ P ai (fun _ fx => ?_) fun _ ak => ?_
 ·
  refine sqB P L [] [] [(2, i6 1)] ?_; intro ik fy
  exact r_ (h_ (ra1 fy (i6 1) ⟨1, rfl, fx, L.below⟩))
 refine k_ (s_ (sqH ?_)); intro fA cc
 refine bt P L 5 [0, 0] [] [(21, .agg #[i6 u0.ID, .bool u0.Long, .bool false, .bool false, i6 0, .slice none 0 0])] ?_; intro il ce
 refine fc ce L (fcheckfr_fun (⟨u0.ID, u0.Long, false, false, 0, []⟩ : Frame) none 0 _ _ (SlR.nil _ _) L.fz) ?_; intro im io cf B
 refine s1 cf 3 (i6 (fcheckfr (⟨u0.ID, u0.Long, false, false, 0, []⟩ : Frame))) ?_; intro ip cg
 apply cc
 refine sqB cg B [] [] [(24, .bool ((fcheckfr (⟨u0.ID, u0.Long, false, false, 0, []⟩ : Frame)) != 0))] ?_; intro iq Q
 refine c_ Q ak (fun _ fB => ?_) fun _ al => ?_
 ·
  refine sqB Q B [] [] [(2, i6 (fcheckfr (⟨u0.ID, u0.Long, false, false, 0, []⟩ : Frame)))] ?_; intro ir fC
  exact r_ (h_ (ra1 fC (i6 (fcheckfr (⟨u0.ID, u0.Long, false, false, 0, []⟩ : Frame))) ⟨(fcheckfr (⟨u0.ID, u0.Long, false, false, 0, []⟩ : Frame)), rfl, fB, B.below⟩))
 refine k_ (s_ (sqB Q B [0, 0] [] [(33, .bool ((decide (u0.Size < 0)) || (decide (u0.Size > 8))))] ?_)); intro it R
 refine c_ R al (fun _ fD => ?_) fun _ am => ?_
 ·
  refine sqB R B [] [] [(2, i6 3)] ?_; intro iu fE
  exact r_ (h_ (ra1 fE (i6 3) ⟨3, rfl, fD, B.below⟩))
 refine k_ (s_ (sqB R B [0] [] [(37, .bool (decide ((u0.Signals.length : Int) > 16)))] ?_)); intro iv S
 refine c_ S am (fun _ fF => ?_) fun _ fH => ?_
 ·
  refine sqB S B [] [] [(2, i6 2)] ?_; intro iw fG
  exact r_ (h_ (ra1 fG (i6 2) ⟨2, rfl, fF, B.below⟩))
 refine k_ (s_ (sqB S B [0] [] [(39, .slice ao1 u0.Signals.length cap2), (40, i6 (u0.Signals.length : Int)), (41, i6 0)] ?_)); intro ch ci
 apply b_
 have ck : Fr 152 [] [⟨1, [], pt i 0⟩, ⟨39, [], .slice ao1 u0.Signals.length cap2⟩, ⟨40, [], i6 (u0.Signals.length : Int)⟩, ⟨41, [], i6 0⟩] ch := ci.reg
 obtain ⟨fI, fJ, fK, fL⟩ := fH
 refine lp (ι := Int) (fun s => [⟨1, [], pt i 0⟩, ⟨39, [], .slice ao1 u0.Signals.length cap2⟩, ⟨40, [], i6 (u0.Signals.length : Int)⟩, ⟨41, [], i6 s⟩]) (fun s => [.row i (e24Mc u0 ao1 cap2) 24]) (fun s => Z) (fun s => fI s) (fun s => fJ s) 0 fK (by exact ck.reg) (by exact B) ?_
 rintro n fM fN fO cm cn
 have an := fL n fM
 refine sqB cm cn [] [] [(42, .bool (decide (n < (u0.Signals.length : Int))))] ?_; intro cp U
 refine s_ (c_ U an (fun _ fP => ?_) fun _ ax => ?_)
 ·
  apply k_
  have cq : Fr 152 [] [⟨1, [], pt i 0⟩, ⟨39, [], .slice ao1 u0.Signals.length cap2⟩, ⟨40, [], i6 (u0.Signals.length : Int)⟩, ⟨41, [], i6 n⟩] cp := U.reg
  obtain ⟨fQ, fR, fS⟩ := fP
  refine wp_seq_k fun KJ132 hKJ133 => ?_
  have fT : ∀ (_u : Unit), fQ → ∀ a1 w1, Fr 152 [] [⟨1, [], pt i 0⟩, ⟨39, [], .slice ao1 u0.Signals.length cap2⟩, ⟨40, [], i6 (u0.Signals.length : Int)⟩, ⟨41, [], i6 n⟩] a1 → Mem w.heap.size [] w Z [.row i (e24Mc u0 ao1 cap2) 24] Z w1 → KJ132 a1 w1 := by
   rintro _u fU iy iz cr ct
   refine hKJ133 _ _ ?_
   have cu := fS  fU
   refine rgB cr ct [] [] [(41, i6 (w64 (n + 1)))] ?_; intro iA fV
   exact d_ ⟨w64 (n + 1), cu.1, cu.2, (fV.reg).anyβ _ (by kernel_rfl), ct.kp⟩
  refine b_ (sqH ?_); intro fW cv
  refine s1 cq 43 (i6 n) ?_; intro iB cw
  obtain ⟨fX, cx⟩ := fR
  refine ix_ cw hs3 n fX .i64 46 72 ?_; intro iC iD fY a iE fZ f0 f1 cy
  have ao := cx a fZ
  obtain rfl : fY = ((e46Mc a) : List Value) := f1
  refine z2 cy cn 45 f0 0 9 (e46Mc a) rfl ?_; intro iF cz
  refine nw cz cn pb [str [], i6 0, i6 0, .bool false, .bool false, i6 0, i6 0, i6 0, i6 0] 46 ?_; intro C iG iH cA cB
  refine s1 cA 4 (i6 n) ?_; intro iI bb
  refine sx bb cB 0 (e46Mc a) 0 ?_; intro f2 cC
  have ap : Mem w.heap.size [] w Z [.row C (e46Mc a) 46, .row i (e24Mc u0 ao1 cap2) 24] Z f2 := cC
  apply cv
  refine s_ (sqH ?_); intro f3 cD
  refine bt bb ap 3 [0, 1] [] [(46, .agg (e46Mc a).toArray), (48, i6 u0.Size)] ?_; intro iJ cE
  refine fc cE ap (scheck_fun a u0.Size _ _ ap.fz) ?_; intro iK iL cF H
  refine s1 cF 6 (i6 (checkS a u0.Size)) ?_; intro iM cG
  apply cD
  refine sqB cG H [] [] [(51, .bool ((checkS a u0.Size) != 0))] ?_; intro iN V
  refine c_ V ao (fun _ f4 => ?_) fun _ f6 => ?_
  ·
   refine sqB V H [] [] [(2, i6 (checkS a u0.Size))] ?_; intro iO f5
   exact r_ (h_ (i_ (h_ (h_ (i_ (h_ (ra1 f5 (i6 (checkS a u0.Size)) ⟨(checkS a u0.Size), rfl, f4, H.below⟩)))))))
  refine k_ (sqH ?_); intro f7 cH
  refine bt V H 3 [1] [] [(54, .slice ao1 u0.Signals.length cap2), (55, i6 n)] ?_; intro iP cI
  obtain ⟨f8, f9⟩ := f6
  refine slH cI (T := tySignal) (xs := u0.Signals) hs3 n f8 (k' := .i64) (e := 46) (bytes := 72) (nog rfl _) rfl (by kernel_rfl) rfl (by kernel_rfl) (by kernel_rfl) (by kernel_rfl) ?_; intro W X iQ iR ga cJ
  refine bt cJ H 2 [] [] [(57, i6 ((u0.Signals.take n.toNat).length : Int)), (58, i6 0)] ?_; intro cK cL
  apply cH
  apply b_
  have cM : Fr 152 [] [⟨1, [], pt i 0⟩, ⟨5, [], pt C 0⟩, ⟨39, [], .slice ao1 u0.Signals.length cap2⟩, ⟨40, [], i6 (u0.Signals.length : Int)⟩, ⟨41, [], i6 n⟩, ⟨56, [], .slice W (u0.Signals.take n.toNat).length X⟩, ⟨57, [], i6 ((u0.Signals.take n.toNat).length : Int)⟩, ⟨58, [], i6 0⟩] cK := cL.reg
  obtain ⟨gb, gc, ge, gf⟩ := f9
  refine lp (ι := Int) (fun s => [⟨1, [], pt i 0⟩, ⟨5, [], pt C 0⟩, ⟨39, [], .slice ao1 u0.Signals.length cap2⟩, ⟨40, [], i6 (u0.Signals.length : Int)⟩, ⟨41, [], i6 n⟩, ⟨56, [], .slice W (u0.Signals.take n.toNat).length X⟩, ⟨57, [], i6 ((u0.Signals.take n.toNat).length : Int)⟩, ⟨58, [], i6 s⟩]) (fun s => [.row C (e46Mc a) 46, .row i (e24Mc u0 ao1 cap2) 24]) (fun s => Z) (fun s => gb s) (fun s => gc s) 0 ge (by exact cM.reg) (by exact H) ?_
  rintro G gg gh gi cO cP
  have aq := gf G gg
  refine sqB cO cP [] [] [(59, .bool (decide (G < ((u0.Signals.take n.toNat).length : Int))))] ?_; intro iS ar
  refine s_ (c_ ar aq (fun _ gj => ?_) fun _ gx => ?_)
  ·
   refine k_ (s_ (b_ (sqH ?_))); intro gk cR
   obtain ⟨gl, cS⟩ := gj
   refine ix_ ar ga G gl .i64 46 72 ?_; intro iT iU gm f iV gn go gp cT
   have au := cS f gn
   obtain rfl : gm = ((e46Mc f) : List Value) := gp
   refine z2 cT cP 61 go 0 9 (e46Mc f) rfl ?_; intro iW cU
   refine nw cU cP pb [str [], i6 0, i6 0, .bool false, .bool false, i6 0, i6 0, i6 0, i6 0] 46 ?_; intro cV iX iY be cW
   refine sx be cW 0 (e46Mc f) 0 ?_; intro gq cX
   have F : Mem w.heap.size [] w Z [.row cV (e46Mc f) 46, .row C (e46Mc a) 46, .row i (e24Mc u0 ao1 cap2) 24] Z gq := cX
   apply cR
   refine s_ (sqB be F [0, 1] [218] [(66, .bool (f.Name == a.Name))] ?_); intro iZ aa
   refine c_ aa au (fun _ gr => ?_) fun _ av => ?_
   ·
    refine sqB aa F [] [] [(2, i6 9)] ?_; intro i0 gs
    exact r_ (h_ (i_ (h_ (h_ (i_ (i_ (h_ (h_ (i_ (h_ (ra1 gs (i6 9) ⟨9, rfl, gr, F.below⟩)))))))))))
   refine k_ (sqB aa F [0, 1, 0, 1] [] [(9, .bool (((decide (f.Key ≥ 0)) && (decide (a.Key ≥ 0))) && (f.Key != a.Key)))] ?_); intro i1 cY
   refine sqH ?_; intro gt cZ
   refine s1 cY 82 (.bool (((decide (f.Key ≥ 0)) && (decide (a.Key ≥ 0))) && (f.Key != a.Key))) ?_; intro i2 c0
   refine s1 c0 83 (.bool (!(((decide (f.Key ≥ 0)) && (decide (a.Key ≥ 0))) && (f.Key != a.Key)))) ?_; intro i3 c1
   refine s1 c1 84 (.bool (!(((decide (f.Key ≥ 0)) && (decide (a.Key ≥ 0))) && (f.Key != a.Key)))) ?_; intro i4 c2
   have bg := c2.atom ((!(((decide (f.Key ≥ 0)) && (decide (a.Key ≥ 0))) && (f.Key != a.Key))) == true) (by kernel_rfl)
   refine gd bg (.agg (e46Mc f).toArray) (m := 0) (cj := []) (bj := !(((decide (f.Key ≥ 0)) && (decide (a.Key ≥ 0))) && (f.Key != a.Key))) rfl rfl (by kernel_rfl) rfl (by kernel_rfl) (by kernel_rfl) (by kernel_rfl) (fun hg => lda bg F 0 (g := [0]) (b := cV) (off := 0) (k := 9) (cs := (e46Mc f)) (vs := (e46Mc f)) (ty := 46) rfl (by kernel_rfl) (by kernel_rfl) (by kernel_rfl) (by kernel_rfl) (by kernel_rfl) hg) ?_; intro i5 bh
   refine gd bh (.agg (e46Mc a).toArray) (m := 0) (cj := []) (bj := !(((decide (f.Key ≥ 0)) && (decide (a.Key ≥ 0))) && (f.Key != a.Key))) rfl rfl (by kernel_rfl) rfl (by kernel_rfl) (by kernel_rfl) (by kernel_rfl) (fun hg => lda bh F 1 (g := [0]) (b := C) (off := 0) (k := 9) (cs := (e46Mc a)) (vs := (e46Mc a)) (ty := 46) rfl (by kernel_rfl) (by kernel_rfl) (by kernel_rfl) (by kernel_rfl) (by kernel_rfl) hg) ?_; intro i7 c3
   refine gcl c3 F (.bool (overS f a)) 59 #[.agg (e46Mc f).toArray, .agg (e46Mc a).toArray] (m := 0) (cj := []) (bj := !(((decide (f.Key ≥ 0)) && (decide (a.Key ≥ 0))) && (f.Key != a.Key))) rfl rfl (by kernel_rfl) rfl (by kernel_rfl) (by kernel_rfl) (by kernel_rfl) (fun _ => by kernel_rfl) (fun hg => sover_fun f a _ _ F.fz) ?_; intro i8 i9 bi aw
   refine u_ bi (.bool ((!(((decide (f.Key ≥ 0)) && (decide (a.Key ≥ 0))) && (f.Key != a.Key))) && (overS f a))) (pk_and bi (g := []) (m := 0) (b := !(((decide (f.Key ≥ 0)) && (decide (a.Key ≥ 0))) && (f.Key != a.Key))) (v := (overS f a)) rfl (by kernel_rfl) (by kernel_rfl) (by kernel_rfl) rfl) ?_; intro c4 ab
   apply cZ
   refine c_ ab av (fun _ gu => ?_) fun _ c6 => ?_
   ·
    have c5 : Fr 152 [] [] c4 := ab.reg
    refine sqB c5 aw [] [] [(2, i6 10)] ?_; intro ja gv
    exact r_ (i_ (h_ (h_ (i_ (i_ (h_ (h_ (i_ (h_ (ra1 gv (i6 10) ⟨10, rfl, gu, aw.below⟩))))))))))
   refine l_ (j_ (t_ ?_))
   have c7 : Fr 152 [] [⟨1, [], pt i 0⟩, ⟨5, [], pt C 0⟩, ⟨39, [], .slice ao1 u0.Signals.length cap2⟩, ⟨40, [], i6 (u0.Signals.length : Int)⟩, ⟨41, [], i6 n⟩, ⟨56, [], .slice W (u0.Signals.take n.toNat).length X⟩, ⟨57, [], i6 ((u0.Signals.take n.toNat).length : Int)⟩, ⟨58, [], i6 G⟩] c4 := ab.reg
   refine rgB c7 aw [] [] [(58, i6 (w64 (G + 1)))] ?_; intro jb gw
   exact d_ ⟨w64 (G + 1), c6.1, c6.2, (gw.reg).anyβ _ (by kernel_rfl), aw.kp⟩
  exact x_ (y_ (y_ (z_ (j_ (d_ (fT () gx _ _ ((ar.reg).anyβ _ (by kernel_rfl)) (cP.kp)))))))
 refine x_ (y_ (y_ (z_ (t_ (s_ (sqB U cn [0, 0, 0] [] [(101, .bool ((decide (u0.Chooser < (-1))) || (decide (u0.Chooser ≥ (u0.Signals.length : Int)))))] ?_)))))); intro jc ac
 refine c_ ac ax (fun _ gy => ?_) fun _ ay => ?_
 ·
  refine sqB ac cn [] [] [(2, i6 8)] ?_; intro jd gz
  exact r_ (h_ (ra1 gz (i6 8) ⟨8, rfl, gy, cn.below⟩))
 refine k_ (s_ (sqB ac cn [0] [] [(104, .bool (decide (u0.Chooser ≥ 0)))] ?_)); intro je ad
 refine c_ ad ay (fun _ gA => ?_) fun _ ht => ?_
 ·
  refine sqH ?_; intro gB c8
  refine bt ad cn 4 [0, 0] [] [(106, .slice ao1 u0.Signals.length cap2), (108, i6 u0.Chooser)] ?_; intro jf c9
  obtain ⟨gC, da⟩ := gA
  refine ix_ c9 hs3 u0.Chooser gC .i64 46 72 ?_; intro jg jh gD h ji gE gF gG db
  have az := da h gE
  obtain rfl : gD = ((e46Mc h) : List Value) := gG
  refine z2 db cn 110 gF 0 9 (e46Mc h) rfl ?_; intro jj dc
  refine nw dc cn pb [str [], i6 0, i6 0, .bool false, .bool false, i6 0, i6 0, i6 0, i6 0] 46 ?_; intro ae jk jl bn dd
  refine sx bn dd 0 (e46Mc h) 0 ?_; intro gH de
  have M : Mem w.heap.size [] w Z [.row ae (e46Mc h) 46, .row i (e24Mc u0 ao1 cap2) 24] Z gH := de
  apply c8
  refine sqB bn M [0, 0, 0] [] [(122, .bool ((h.Signed || (decide (h.Key ≥ 0))) || (decide (h.Size > 8))))] ?_; intro jm af
  refine c_ af az (fun _ gI => ?_) fun _ gK => ?_
  ·
   refine sqB af M [] [] [(2, i6 4)] ?_; intro jn gJ
   exact r_ (h_ (ra1 gJ (i6 4) ⟨4, rfl, gI, M.below⟩))
  refine k_ (s_ (sqB af M [1] [] [(124, .slice ao1 u0.Signals.length cap2), (125, i6 (u0.Signals.length : Int)), (126, i6 0)] ?_)); intro df dg
  apply b_
  have dh : Fr 152 [] [⟨1, [], pt i 0⟩, ⟨124, [], .slice ao1 u0.Signals.length cap2⟩, ⟨125, [], i6 (u0.Signals.length : Int)⟩, ⟨126, [], i6 0⟩] df := dg.reg
  obtain ⟨gL, gM, gN, gO⟩ := gK
  refine lp (ι := Int) (fun s => [⟨1, [], pt i 0⟩, ⟨124, [], .slice ao1 u0.Signals.length cap2⟩, ⟨125, [], i6 (u0.Signals.length : Int)⟩, ⟨126, [], i6 s⟩]) (fun s => [.row ae (e46Mc h) 46, .row i (e24Mc u0 ao1 cap2) 24]) (fun s => Z) (fun s => gL s) (fun s => gM s) 0 gN (by exact dh.reg) (by exact M) ?_
  rintro q gP gQ gR dj dk
  have aA := gO q gP
  refine sqB dj dk [] [] [(127, .bool (decide (q < (u0.Signals.length : Int))))] ?_; intro dm ag
  refine s_ (c_ ag aA (fun _ gS => ?_) fun _ hr => ?_)
  ·
   apply k_
   have dn : Fr 152 [] [⟨1, [], pt i 0⟩, ⟨124, [], .slice ao1 u0.Signals.length cap2⟩, ⟨125, [], i6 (u0.Signals.length : Int)⟩, ⟨126, [], i6 q⟩] dm := ag.reg
   obtain ⟨gT, gU, gV⟩ := gS
   refine wp_seq_k fun KJ481 hKJ482 => ?_
   have dp : ∀ (_u : Unit), gT → ∀ a1 w1, Fr 152 [] [⟨1, [], pt i 0⟩, ⟨124, [], .slice ao1 u0.Signals.length cap2⟩, ⟨125, [], i6 (u0.Signals.length : Int)⟩, ⟨126, [], i6 q⟩] a1 → Mem w.heap.size [] w Z [.row ae (e46Mc h) 46, .row i (e24Mc u0 ao1 cap2) 24] Z w1 → KJ481 a1 w1 := by
    rintro _u gW jo jp dq dr
    refine hKJ482 _ _ ?_
    have ds := gV  gW
    refine rgB dq dr [] [] [(126, i6 (w64 (q + 1)))] ?_; intro jq gX
    exact d_ ⟨w64 (q + 1), ds.1, ds.2, (gX.reg).anyβ _ (by kernel_rfl), dr.kp⟩
   refine b_ (sqH ?_); intro gY dt
   obtain ⟨gZ, du⟩ := gU
   refine ix_ dn hs3 q gZ .i64 46 72 ?_; intro jr js g0 j jt g1 g2 g3 dv
   have aB := du j g1
   obtain rfl : g0 = ((e46Mc j) : List Value) := g3
   refine z2 dv dk 129 g2 0 9 (e46Mc j) rfl ?_; intro ju dw
   refine nw dw dk pb [str [], i6 0, i6 0, .bool false, .bool false, i6 0, i6 0, i6 0, i6 0] 46 ?_; intro D g4 jv br dx
   refine sx br dx 0 (e46Mc j) 0 ?_; intro g5 dy
   have aC : Mem w.heap.size [] w Z [.row D (e46Mc j) 46, .row ae (e46Mc h) 46, .row i (e24Mc u0 ao1 cap2) 24] Z g5 := dy
   apply dt
   have dz : Fr 152 [] [⟨1, [], pt i 0⟩, ⟨12, [], pt D 0⟩, ⟨124, [], .slice ao1 u0.Signals.length cap2⟩, ⟨125, [], i6 (u0.Signals.length : Int)⟩, ⟨126, [], i6 q⟩] g4 := br.reg
   refine sqQH mixed (by kernel_rfl) aC ?_; intro bs N
   refine q1 dz 130 (pt D 8) ?_; intro jw bu
   refine ql_ bu 0 8 (i6 j.Key) rfl rfl ?_; intro jx dA
   refine q1 dA 132 (.bool (decide (j.Key ≥ 0))) ?_; intro jy dB
   refine q1 dB 133 (.bool (decide (j.Key ≥ 0))) ?_; intro jz dC
   have bv := dC.atom ((decide (j.Key ≥ 0)) == true) (by kernel_rfl)
   refine qgd bv (pt i 4) (m := 0) (cj := []) (bj := decide (j.Key ≥ 0)) rfl rfl (by kernel_rfl) rfl (by kernel_rfl) (by kernel_rfl) (by kernel_rfl) (fun hg => qat_ok (fun v533 hC => pu bv (g := [0]) (by kernel_rfl) hg)) ?_; intro jA bw
   refine qgd bw (i6 u0.Chooser) (m := 0) (cj := []) (bj := decide (j.Key ≥ 0)) rfl rfl (by kernel_rfl) rfl (by kernel_rfl) (by kernel_rfl) (by kernel_rfl) (fun hg => qat_ok (fun v536 hC => ld bw hC 2 (g := [0]) (b := i) (off := 4) (cs := (e24Mc u0 ao1 cap2)) (ty := 24) rfl (by kernel_rfl) (by kernel_rfl) (by kernel_rfl) (by kernel_rfl) hg)) ?_; intro jB bx
   refine qgd bx (.bool (decide (u0.Chooser < 0))) (m := 0) (cj := []) (bj := decide (j.Key ≥ 0)) rfl rfl (by kernel_rfl) rfl (by kernel_rfl) (by kernel_rfl) (by kernel_rfl) (fun hg => qat_ok (fun v539 hC => pu bx (g := [0]) (by kernel_rfl) hg)) ?_; intro jC bz
   refine qgd bz (.bool (decide (u0.Chooser < 0))) (m := 0) (cj := []) (bj := decide (j.Key ≥ 0)) rfl rfl (by kernel_rfl) rfl (by kernel_rfl) (by kernel_rfl) (by kernel_rfl) (fun hg => qat_ok (fun v542 hC => pu bz (g := [0]) (by kernel_rfl) hg)) ?_; intro jD dD
   have bA := dD.atom ((decide (u0.Chooser < 0)) == false) (by kernel_rfl)
   refine qgd bA (pt D 8) (m := 1) (cj := [0]) (bj := decide (u0.Chooser < 0)) rfl rfl (by kernel_rfl) rfl (by kernel_rfl) (by kernel_rfl) (by kernel_rfl) (fun hg => qat_ok (fun v546 hC => pu bA (g := [1, 0]) (by kernel_rfl) hg)) ?_; intro jE bB
   refine qgd bB (i6 j.Key) (m := 1) (cj := [0]) (bj := decide (u0.Chooser < 0)) rfl rfl (by kernel_rfl) rfl (by kernel_rfl) (by kernel_rfl) (by kernel_rfl) (fun hg => qat_ok (fun v549 hC => ld bB hC 0 (g := [1, 0]) (b := D) (off := 8) (cs := (e46Mc j)) (ty := 46) rfl (by kernel_rfl) (by kernel_rfl) (by kernel_rfl) (by kernel_rfl) hg)) ?_; intro jF bC
   refine qgd bC (pt i 5) (m := 1) (cj := [0]) (bj := decide (u0.Chooser < 0)) rfl rfl (by kernel_rfl) rfl (by kernel_rfl) (by kernel_rfl) (by kernel_rfl) (fun hg => qat_ok (fun v552 hC => pu bC (g := [1, 0]) (by kernel_rfl) hg)) ?_; intro jG bD
   refine qgd bD (.slice ao1 u0.Signals.length cap2) (m := 1) (cj := [0]) (bj := decide (u0.Chooser < 0)) rfl rfl (by kernel_rfl) rfl (by kernel_rfl) (by kernel_rfl) (by kernel_rfl) (fun hg => qat_ok (fun v555 hC => ld bD hC 2 (g := [1, 0]) (b := i) (off := 5) (cs := (e24Mc u0 ao1 cap2)) (ty := 24) rfl (by kernel_rfl) (by kernel_rfl) (by kernel_rfl) (by kernel_rfl) hg)) ?_; intro jH bE
   refine qgd bE (pt i 4) (m := 1) (cj := [0]) (bj := decide (u0.Chooser < 0)) rfl rfl (by kernel_rfl) rfl (by kernel_rfl) (by kernel_rfl) (by kernel_rfl) (fun hg => qat_ok (fun v558 hC => pu bE (g := [1, 0]) (by kernel_rfl) hg)) ?_; intro jI bF
   refine qgd bF (i6 u0.Chooser) (m := 1) (cj := [0]) (bj := decide (u0.Chooser < 0)) rfl rfl (by kernel_rfl) rfl (by kernel_rfl) (by kernel_rfl) (by kernel_rfl) (fun hg => qat_ok (fun v561 hC => ld bF hC 2 (g := [1, 0]) (b := i) (off := 4) (cs := (e24Mc u0 ao1 cap2)) (ty := 24) rfl (by kernel_rfl) (by kernel_rfl) (by kernel_rfl) (by kernel_rfl) hg)) ?_; intro jJ aD
   refine e_ aB (fun o aE => ?_) fun o ho => ?_
   ·
    have dE := aD.reval (d := 133) (c := []) (v := .bool (decide (j.Key ≥ 0))) (by kernel_rfl) (.bool true) (by rw [o])
    have dF := dE.setc (d := 134) (c := [0]) (v := pt i 4) (by kernel_rfl) (v' := pt i 4) (by rw [o]; kernel_rfl)
    have dG := dF.setc (d := 135) (c := [0]) (v := i6 u0.Chooser) (by kernel_rfl) (v' := i6 u0.Chooser) (by rw [o]; kernel_rfl)
    have dH := dG.setc (d := 136) (c := [0]) (v := .bool (decide (u0.Chooser < 0))) (by kernel_rfl) (v' := .bool (decide (u0.Chooser < 0))) (by rw [o]; kernel_rfl)
    have aF := dH.setc (d := 137) (c := [0]) (v := .bool (decide (u0.Chooser < 0))) (by kernel_rfl) (v' := .bool (decide (u0.Chooser < 0))) (by rw [o]; kernel_rfl)
    refine e_ aE (fun u g6 => ?_) fun u g9 => ?_
    ·
     have dI := aF.reval (d := 137) (c := []) (v := .bool (decide (u0.Chooser < 0))) (by kernel_rfl) (.bool true) (by rw [u])
     have dJ := dI.setc (d := 138) (c := [1, 0]) (v := pt D 8) (by kernel_rfl) (v' := undef) (by rw [u, o]; kernel_rfl)
     have dK := dJ.setc (d := 139) (c := [1, 0]) (v := i6 j.Key) (by kernel_rfl) (v' := undef) (by rw [u, o]; kernel_rfl)
     have dL := dK.setc (d := 140) (c := [1, 0]) (v := pt i 5) (by kernel_rfl) (v' := undef) (by rw [u, o]; kernel_rfl)
     have dM := dL.setc (d := 141) (c := [1, 0]) (v := .slice ao1 u0.Signals.length cap2) (by kernel_rfl) (v' := undef) (by rw [u, o]; kernel_rfl)
     have dN := dM.setc (d := 142) (c := [1, 0]) (v := pt i 4) (by kernel_rfl) (v' := undef) (by rw [u, o]; kernel_rfl)
     have dO := dN.setc (d := 143) (c := [1, 0]) (v := i6 u0.Chooser) (by kernel_rfl) (v' := undef) (by rw [u, o]; kernel_rfl)
     refine qk_ dO true ?_; intro jK dP
     refine qk_ dP true ?_; intro jL dQ
     refine qk_ dQ true ?_; intro jM dR
     refine qk_ dR true ?_; intro jN dS
     refine qk_ dS true ?_; intro jO aG
     refine qg_ aG true (.bool true) ?_; intro jP dT
     refine q1 dT 150 (.bool true) ?_; intro g7 bG
     refine qnl (N _ ?_); intro jQ dU
     refine cdT bG (by kernel_rfl) ?_
     have dV : Fr 152 [] [] g7 := bG.reg
     refine sqB dV dU [] [] [(2, i6 4)] ?_; intro jR g8
     exact r_ (i_ (h_ (h_ (i_ (h_ (ra1 g8 (i6 4) ⟨4, rfl, g6, dU.below⟩))))))
    have dW := aF.reval (d := 137) (c := []) (v := .bool (decide (u0.Chooser < 0))) (by kernel_rfl) (.bool false) (by rw [u])
    have dX := dW.setc (d := 138) (c := [1, 0]) (v := pt D 8) (by kernel_rfl) (v' := pt D 8) (by rw [u, o]; kernel_rfl)
    have dY := dX.setc (d := 139) (c := [1, 0]) (v := i6 j.Key) (by kernel_rfl) (v' := i6 j.Key) (by rw [u, o]; kernel_rfl)
    have dZ := dY.setc (d := 140) (c := [1, 0]) (v := pt i 5) (by kernel_rfl) (v' := pt i 5) (by rw [u, o]; kernel_rfl)
    have d0 := dZ.setc (d := 141) (c := [1, 0]) (v := .slice ao1 u0.Signals.length cap2) (by kernel_rfl) (v' := .slice ao1 u0.Signals.length cap2) (by rw [u, o]; kernel_rfl)
    have d1 := d0.setc (d := 142) (c := [1, 0]) (v := pt i 4) (by kernel_rfl) (v' := pt i 4) (by rw [u, o]; kernel_rfl)
    have bH := d1.setc (d := 143) (c := [1, 0]) (v := i6 u0.Chooser) (by kernel_rfl) (v' := i6 u0.Chooser) (by rw [u, o]; kernel_rfl)
    obtain ⟨ha, d2⟩ := g9
    refine qix bH (T := tySignal) (xs := u0.Signals) hs3 u0.Chooser ha (k := .i64) (e := 46) (bytes := 72) (wK bH false) rfl (by kernel_rfl) rfl (by kernel_rfl) (by kernel_rfl) (by kernel_rfl) ?_; intro hb hc hd z jS he hf hh aH
    have hi := d2 z he
    obtain rfl : hd = ((e46Mc z) : List Value) := hh
    refine qg_ aH false (.pointer (some ⟨hb, hc + 2, none⟩)) ?_; intro jT aI
    refine qst aI (i6 z.Size) (wK aI false) rfl (by kernel_rfl) (fun v626 hC => lz aI hC.fz hf 2 (g := []) rfl (by kernel_rfl) (by kernel_rfl) (by kernel_rfl) rfl) ?_; intro jU aJ
    obtain ⟨hj, aK⟩ := hi
    refine qst aJ (i6 (bShr .i64 j.Key z.Size)) (wK aJ false) rfl (by kernel_rfl) (fun v629 hC => shr_run aJ (g := []) (k' := .i64) rfl (by kernel_rfl) (by kernel_rfl) hj rfl) ?_; intro jV aL
    refine qg_ aL false (.bool ((bShr .i64 j.Key z.Size) != 0)) ?_; intro jW aM
    refine qg_ aM true (.bool ((bShr .i64 j.Key z.Size) != 0)) ?_; intro jX d3
    refine q1 d3 150 (.bool ((bShr .i64 j.Key z.Size) != 0)) ?_; intro hk aN
    refine qnl (N _ ?_); intro jY bI
    refine c_ aN aK (fun _ hl => ?_) fun _ hn => ?_
    ·
     have d4 : Fr 152 [] [] hk := aN.reg
     refine sqB d4 bI [] [] [(2, i6 4)] ?_; intro jZ hm
     exact r_ (i_ (h_ (h_ (i_ (h_ (ra1 hm (i6 4) ⟨4, rfl, hl, bI.below⟩))))))
    exact l_ (j_ (d_ (dp () hn _ _ ((aN.reg).anyβ _ (by kernel_rfl)) (bI.kp))))
   have d5 := aD.reval (d := 133) (c := []) (v := .bool (decide (j.Key ≥ 0))) (by kernel_rfl) (.bool false) (by rw [o])
   have d6 := d5.setc (d := 134) (c := [0]) (v := pt i 4) (by kernel_rfl) (v' := undef) (by rw [o]; kernel_rfl)
   have d7 := d6.setc (d := 135) (c := [0]) (v := i6 u0.Chooser) (by kernel_rfl) (v' := undef) (by rw [o]; kernel_rfl)
   have d8 := d7.setc (d := 136) (c := [0]) (v := .bool (decide (u0.Chooser < 0))) (by kernel_rfl) (v' := undef) (by rw [o]; kernel_rfl)
   have d9 := d8.setc (d := 137) (c := [0]) (v := .bool (decide (u0.Chooser < 0))) (by kernel_rfl) (v' := undef) (by rw [o]; kernel_rfl)
   have ea := d9.setu (d := 138) (c := [1, 0]) (v := pt D 8) (by kernel_rfl) 0 (by kernel_rfl) (by rw [o]; kernel_rfl)
   have eb := ea.setu (d := 139) (c := [1, 0]) (v := i6 j.Key) (by kernel_rfl) 0 (by kernel_rfl) (by rw [o]; kernel_rfl)
   have ec := eb.setu (d := 140) (c := [1, 0]) (v := pt i 5) (by kernel_rfl) 0 (by kernel_rfl) (by rw [o]; kernel_rfl)
   have ed := ec.setu (d := 141) (c := [1, 0]) (v := .slice ao1 u0.Signals.length cap2) (by kernel_rfl) 0 (by kernel_rfl) (by rw [o]; kernel_rfl)
   have ee := ed.setu (d := 142) (c := [1, 0]) (v := pt i 4) (by kernel_rfl) 0 (by kernel_rfl) (by rw [o]; kernel_rfl)
   have ef := ee.setu (d := 143) (c := [1, 0]) (v := i6 u0.Chooser) (by kernel_rfl) 0 (by kernel_rfl) (by rw [o]; kernel_rfl)
   refine qsku ef rfl rfl (by kernel_rfl) (by kernel_rfl) rfl (by kernel_rfl) ?_; intro j0 eg
   refine qsku eg rfl rfl (by kernel_rfl) (by kernel_rfl) rfl (by kernel_rfl) ?_; intro j1 eh
   refine qsku eh rfl rfl (by kernel_rfl) (by kernel_rfl) rfl (by kernel_rfl) ?_; intro j2 ei
   refine qsku ei rfl rfl (by kernel_rfl) (by kernel_rfl) rfl (by kernel_rfl) ?_; intro j3 ej
   refine qsku ej rfl rfl (by kernel_rfl) (by kernel_rfl) rfl (by kernel_rfl) ?_; intro j4 ek
   refine qk_ ek false ?_; intro j5 el
   refine q1 el 150 (.bool false) ?_; intro j6 em
   refine qnl (N _ ?_); intro j7 hq
   refine cdF em (by kernel_rfl) ?_
   exact l_ (j_ (d_ (dp () ho _ _ ((em.reg).anyβ _ (by kernel_rfl)) (hq.kp))))
  refine x_ (y_ (y_ (z_ (t_ (sqB ag dk [] [] [(2, i6 0)] ?_))))); intro j8 hs
  exact r_ (ra1 hs (i6 0) ⟨0, rfl, hr, dk.below⟩)
 refine k_ (s_ (sqB ad cn [0] [] [(124, .slice ao1 u0.Signals.length cap2), (125, i6 (u0.Signals.length : Int)), (126, i6 0)] ?_)); intro en eo
 apply b_
 have ep : Fr 152 [] [⟨1, [], pt i 0⟩, ⟨124, [], .slice ao1 u0.Signals.length cap2⟩, ⟨125, [], i6 (u0.Signals.length : Int)⟩, ⟨126, [], i6 0⟩] en := eo.reg
 obtain ⟨hu, hv, hw, hx⟩ := ht
 refine lp (ι := Int) (fun s => [⟨1, [], pt i 0⟩, ⟨124, [], .slice ao1 u0.Signals.length cap2⟩, ⟨125, [], i6 (u0.Signals.length : Int)⟩, ⟨126, [], i6 s⟩]) (fun s => [.row i (e24Mc u0 ao1 cap2) 24]) (fun s => Z) (fun s => hu s) (fun s => hv s) 0 hw (by exact ep.reg) (by exact cn) ?_
 rintro q hy hz hA er es
 have aO := hx q hy
 refine sqB er es [] [] [(127, .bool (decide (q < (u0.Signals.length : Int))))] ?_; intro eu ah
 refine s_ (c_ ah aO (fun _ hB => ?_) fun _ ia => ?_)
 ·
  apply k_
  have ev : Fr 152 [] [⟨1, [], pt i 0⟩, ⟨124, [], .slice ao1 u0.Signals.length cap2⟩, ⟨125, [], i6 (u0.Signals.length : Int)⟩, ⟨126, [], i6 q⟩] eu := ah.reg
  obtain ⟨hD, hE, hF⟩ := hB
  refine wp_seq_k fun KJ719 hKJ720 => ?_
  have ew : ∀ (_u : Unit), hD → ∀ a1 w1, Fr 152 [] [⟨1, [], pt i 0⟩, ⟨124, [], .slice ao1 u0.Signals.length cap2⟩, ⟨125, [], i6 (u0.Signals.length : Int)⟩, ⟨126, [], i6 q⟩] a1 → Mem w.heap.size [] w Z [.row i (e24Mc u0 ao1 cap2) 24] Z w1 → KJ719 a1 w1 := by
   rintro _u hG j9 ka ex ey
   refine hKJ720 _ _ ?_
   have ez := hF  hG
   refine rgB ex ey [] [] [(126, i6 (w64 (q + 1)))] ?_; intro kb hH
   exact d_ ⟨w64 (q + 1), ez.1, ez.2, (hH.reg).anyβ _ (by kernel_rfl), ey.kp⟩
  refine b_ (sqH ?_); intro hI eA
  obtain ⟨hJ, eB⟩ := hE
  refine ix_ ev hs3 q hJ .i64 46 72 ?_; intro kc kd hK l ke hL hM hN eC
  have aP := eB l hL
  obtain rfl : hK = ((e46Mc l) : List Value) := hN
  refine z2 eC es 129 hM 0 9 (e46Mc l) rfl ?_; intro kf eD
  refine nw eD es pb [str [], i6 0, i6 0, .bool false, .bool false, i6 0, i6 0, i6 0, i6 0] 46 ?_; intro E hO kg bM eE
  refine sx bM eE 0 (e46Mc l) 0 ?_; intro hP eF
  have aQ : Mem w.heap.size [] w Z [.row E (e46Mc l) 46, .row i (e24Mc u0 ao1 cap2) 24] Z hP := eF
  apply eA
  have eG : Fr 152 [] [⟨1, [], pt i 0⟩, ⟨12, [], pt E 0⟩, ⟨124, [], .slice ao1 u0.Signals.length cap2⟩, ⟨125, [], i6 (u0.Signals.length : Int)⟩, ⟨126, [], i6 q⟩] hO := bM.reg
  refine sqQH mixed (by kernel_rfl) aQ ?_; intro bN O
  refine q1 eG 130 (pt E 8) ?_; intro kh bO
  refine ql_ bO 0 8 (i6 l.Key) rfl rfl ?_; intro ki eH
  refine q1 eH 132 (.bool (decide (l.Key ≥ 0))) ?_; intro kj eI
  refine q1 eI 133 (.bool (decide (l.Key ≥ 0))) ?_; intro kk eJ
  have bP := eJ.atom ((decide (l.Key ≥ 0)) == true) (by kernel_rfl)
  refine qgd bP (pt i 4) (m := 0) (cj := []) (bj := decide (l.Key ≥ 0)) rfl rfl (by kernel_rfl) rfl (by kernel_rfl) (by kernel_rfl) (by kernel_rfl) (fun hg => qat_ok (fun v771 hC => pu bP (g := [0]) (by kernel_rfl) hg)) ?_; intro kl bQ
  refine qgd bQ (i6 u0.Chooser) (m := 0) (cj := []) (bj := decide (l.Key ≥ 0)) rfl rfl (by kernel_rfl) rfl (by kernel_rfl) (by kernel_rfl) (by kernel_rfl) (fun hg => qat_ok (fun v774 hC => ld bQ hC 1 (g := [0]) (b := i) (off := 4) (cs := (e24Mc u0 ao1 cap2)) (ty := 24) rfl (by kernel_rfl) (by kernel_rfl) (by kernel_rfl) (by kernel_rfl) hg)) ?_; intro km bR
  refine qgd bR (.bool (decide (u0.Chooser < 0))) (m := 0) (cj := []) (bj := decide (l.Key ≥ 0)) rfl rfl (by kernel_rfl) rfl (by kernel_rfl) (by kernel_rfl) (by kernel_rfl) (fun hg => qat_ok (fun v777 hC => pu bR (g := [0]) (by kernel_rfl) hg)) ?_; intro kn bS
  refine qgd bS (.bool (decide (u0.Chooser < 0))) (m := 0) (cj := []) (bj := decide (l.Key ≥ 0)) rfl rfl (by kernel_rfl) rfl (by kernel_rfl) (by kernel_rfl) (by kernel_rfl) (fun hg => qat_ok (fun v780 hC => pu bS (g := [0]) (by kernel_rfl) hg)) ?_; intro ko eK
  have bT := eK.atom ((decide (u0.Chooser < 0)) == false) (by kernel_rfl)
  refine qgd bT (pt E 8) (m := 1) (cj := [0]) (bj := decide (u0.Chooser < 0)) rfl rfl (by kernel_rfl) rfl (by kernel_rfl) (by kernel_rfl) (by kernel_rfl) (fun hg => qat_ok (fun v784 hC => pu bT (g := [1, 0]) (by kernel_rfl) hg)) ?_; intro kp bU
  refine qgd bU (i6 l.Key) (m := 1) (cj := [0]) (bj := decide (u0.Chooser < 0)) rfl rfl (by kernel_rfl) rfl (by kernel_rfl) (by kernel_rfl) (by kernel_rfl) (fun hg => qat_ok (fun v787 hC => ld bU hC 0 (g := [1, 0]) (b := E) (off := 8) (cs := (e46Mc l)) (ty := 46) rfl (by kernel_rfl) (by kernel_rfl) (by kernel_rfl) (by kernel_rfl) hg)) ?_; intro kq bV
  refine qgd bV (pt i 5) (m := 1) (cj := [0]) (bj := decide (u0.Chooser < 0)) rfl rfl (by kernel_rfl) rfl (by kernel_rfl) (by kernel_rfl) (by kernel_rfl) (fun hg => qat_ok (fun v790 hC => pu bV (g := [1, 0]) (by kernel_rfl) hg)) ?_; intro kr bW
  refine qgd bW (.slice ao1 u0.Signals.length cap2) (m := 1) (cj := [0]) (bj := decide (u0.Chooser < 0)) rfl rfl (by kernel_rfl) rfl (by kernel_rfl) (by kernel_rfl) (by kernel_rfl) (fun hg => qat_ok (fun v793 hC => ld bW hC 1 (g := [1, 0]) (b := i) (off := 5) (cs := (e24Mc u0 ao1 cap2)) (ty := 24) rfl (by kernel_rfl) (by kernel_rfl) (by kernel_rfl) (by kernel_rfl) hg)) ?_; intro ks bX
  refine qgd bX (pt i 4) (m := 1) (cj := [0]) (bj := decide (u0.Chooser < 0)) rfl rfl (by kernel_rfl) rfl (by kernel_rfl) (by kernel_rfl) (by kernel_rfl) (fun hg => qat_ok (fun v796 hC => pu bX (g := [1, 0]) (by kernel_rfl) hg)) ?_; intro kt bY
  refine qgd bY (i6 u0.Chooser) (m := 1) (cj := [0]) (bj := decide (u0.Chooser < 0)) rfl rfl (by kernel_rfl) rfl (by kernel_rfl) (by kernel_rfl) (by kernel_rfl) (fun hg => qat_ok (fun v799 hC => ld bY hC 1 (g := [1, 0]) (b := i) (off := 4) (cs := (e24Mc u0 ao1 cap2)) (ty := 24) rfl (by kernel_rfl) (by kernel_rfl) (by kernel_rfl) (by kernel_rfl) hg)) ?_; intro ku aR
  refine e_ aP (fun p aS => ?_) fun p h8 => ?_
  ·
   have eL := aR.reval (d := 133) (c := []) (v := .bool (decide (l.Key ≥ 0))) (by kernel_rfl) (.bool true) (by rw [p])
   have eM := eL.setc (d := 134) (c := [0]) (v := pt i 4) (by kernel_rfl) (v' := pt i 4) (by rw [p]; kernel_rfl)
   have eN := eM.setc (d := 135) (c := [0]) (v := i6 u0.Chooser) (by kernel_rfl) (v' := i6 u0.Chooser) (by rw [p]; kernel_rfl)
   have eO := eN.setc (d := 136) (c := [0]) (v := .bool (decide (u0.Chooser < 0))) (by kernel_rfl) (v' := .bool (decide (u0.Chooser < 0))) (by rw [p]; kernel_rfl)
   have aT := eO.setc (d := 137) (c := [0]) (v := .bool (decide (u0.Chooser < 0))) (by kernel_rfl) (v' := .bool (decide (u0.Chooser < 0))) (by rw [p]; kernel_rfl)
   refine e_ aS (fun x hQ => ?_) fun x hT => ?_
   ·
    have eP := aT.reval (d := 137) (c := []) (v := .bool (decide (u0.Chooser < 0))) (by kernel_rfl) (.bool true) (by rw [x])
    have eQ := eP.setc (d := 138) (c := [1, 0]) (v := pt E 8) (by kernel_rfl) (v' := undef) (by rw [x, p]; kernel_rfl)
    have eR := eQ.setc (d := 139) (c := [1, 0]) (v := i6 l.Key) (by kernel_rfl) (v' := undef) (by rw [x, p]; kernel_rfl)
    have eS := eR.setc (d := 140) (c := [1, 0]) (v := pt i 5) (by kernel_rfl) (v' := undef) (by rw [x, p]; kernel_rfl)
    have eT := eS.setc (d := 141) (c := [1, 0]) (v := .slice ao1 u0.Signals.length cap2) (by kernel_rfl) (v' := undef) (by rw [x, p]; kernel_rfl)
    have eU := eT.setc (d := 142) (c := [1, 0]) (v := pt i 4) (by kernel_rfl) (v' := undef) (by rw [x, p]; kernel_rfl)
    have eV := eU.setc (d := 143) (c := [1, 0]) (v := i6 u0.Chooser) (by kernel_rfl) (v' := undef) (by rw [x, p]; kernel_rfl)
    refine qk_ eV true ?_; intro kv eW
    refine qk_ eW true ?_; intro kw eX
    refine qk_ eX true ?_; intro kx eY
    refine qk_ eY true ?_; intro ky eZ
    refine qk_ eZ true ?_; intro kz aU
    refine qg_ aU true (.bool true) ?_; intro kA e0
    refine q1 e0 150 (.bool true) ?_; intro hR bZ
    refine qnl (O _ ?_); intro kB e1
    refine cdT bZ (by kernel_rfl) ?_
    have e2 : Fr 152 [] [] hR := bZ.reg
    refine sqB e2 e1 [] [] [(2, i6 4)] ?_; intro kC hS
    exact r_ (i_ (h_ (h_ (i_ (h_ (ra1 hS (i6 4) ⟨4, rfl, hQ, e1.below⟩))))))
   have e3 := aT.reval (d := 137) (c := []) (v := .bool (decide (u0.Chooser < 0))) (by kernel_rfl) (.bool false) (by rw [x])
   have e4 := e3.setc (d := 138) (c := [1, 0]) (v := pt E 8) (by kernel_rfl) (v' := pt E 8) (by rw [x, p]; kernel_rfl)
   have e5 := e4.setc (d := 139) (c := [1, 0]) (v := i6 l.Key) (by kernel_rfl) (v' := i6 l.Key) (by rw [x, p]; kernel_rfl)
   have e6 := e5.setc (d := 140) (c := [1, 0]) (v := pt i 5) (by kernel_rfl) (v' := pt i 5) (by rw [x, p]; kernel_rfl)
   have e7 := e6.setc (d := 141) (c := [1, 0]) (v := .slice ao1 u0.Signals.length cap2) (by kernel_rfl) (v' := .slice ao1 u0.Signals.length cap2) (by rw [x, p]; kernel_rfl)
   have e8 := e7.setc (d := 142) (c := [1, 0]) (v := pt i 4) (by kernel_rfl) (v' := pt i 4) (by rw [x, p]; kernel_rfl)
   have b0 := e8.setc (d := 143) (c := [1, 0]) (v := i6 u0.Chooser) (by kernel_rfl) (v' := i6 u0.Chooser) (by rw [x, p]; kernel_rfl)
   obtain ⟨hU, e9⟩ := hT
   refine qix b0 (T := tySignal) (xs := u0.Signals) hs3 u0.Chooser hU (k := .i64) (e := 46) (bytes := 72) (wK b0 false) rfl (by kernel_rfl) rfl (by kernel_rfl) (by kernel_rfl) (by kernel_rfl) ?_; intro hV hW hX A kD hY h0 h1 aV
   have h2 := e9 A hY
   obtain rfl : hX = ((e46Mc A) : List Value) := h1
   refine qg_ aV false (.pointer (some ⟨hV, hW + 2, none⟩)) ?_; intro kE aW
   refine qst aW (i6 A.Size) (wK aW false) rfl (by kernel_rfl) (fun v864 hC => lz aW hC.fz h0 2 (g := []) rfl (by kernel_rfl) (by kernel_rfl) (by kernel_rfl) rfl) ?_; intro kF aX
   obtain ⟨h3, aY⟩ := h2
   refine qst aX (i6 (bShr .i64 l.Key A.Size)) (wK aX false) rfl (by kernel_rfl) (fun v867 hC => shr_run aX (g := []) (k' := .i64) rfl (by kernel_rfl) (by kernel_rfl) h3 rfl) ?_; intro kG aZ
   refine qg_ aZ false (.bool ((bShr .i64 l.Key A.Size) != 0)) ?_; intro kH a2
   refine qg_ a2 true (.bool ((bShr .i64 l.Key A.Size) != 0)) ?_; intro kI fa
   refine q1 fa 150 (.bool ((bShr .i64 l.Key A.Size) != 0)) ?_; intro h4 a3
   refine qnl (O _ ?_); intro kJ b1
   refine c_ a3 aY (fun _ h5 => ?_) fun _ h7 => ?_
   ·
    have fb : Fr 152 [] [] h4 := a3.reg
    refine sqB fb b1 [] [] [(2, i6 4)] ?_; intro kK h6
    exact r_ (i_ (h_ (h_ (i_ (h_ (ra1 h6 (i6 4) ⟨4, rfl, h5, b1.below⟩))))))
   exact l_ (j_ (d_ (ew () h7 _ _ ((a3.reg).anyβ _ (by kernel_rfl)) (b1.kp))))
  have fd := aR.reval (d := 133) (c := []) (v := .bool (decide (l.Key ≥ 0))) (by kernel_rfl) (.bool false) (by rw [p])
  have fe := fd.setc (d := 134) (c := [0]) (v := pt i 4) (by kernel_rfl) (v' := undef) (by rw [p]; kernel_rfl)
  have ff := fe.setc (d := 135) (c := [0]) (v := i6 u0.Chooser) (by kernel_rfl) (v' := undef) (by rw [p]; kernel_rfl)
  have fg := ff.setc (d := 136) (c := [0]) (v := .bool (decide (u0.Chooser < 0))) (by kernel_rfl) (v' := undef) (by rw [p]; kernel_rfl)
  have fh := fg.setc (d := 137) (c := [0]) (v := .bool (decide (u0.Chooser < 0))) (by kernel_rfl) (v' := undef) (by rw [p]; kernel_rfl)
  have fi := fh.setu (d := 138) (c := [1, 0]) (v := pt E 8) (by kernel_rfl) 0 (by kernel_rfl) (by rw [p]; kernel_rfl)
  have fj := fi.setu (d := 139) (c := [1, 0]) (v := i6 l.Key) (by kernel_rfl) 0 (by kernel_rfl) (by rw [p]; kernel_rfl)
  have fk := fj.setu (d := 140) (c := [1, 0]) (v := pt i 5) (by kernel_rfl) 0 (by kernel_rfl) (by rw [p]; kernel_rfl)
  have fl := fk.setu (d := 141) (c := [1, 0]) (v := .slice ao1 u0.Signals.length cap2) (by kernel_rfl) 0 (by kernel_rfl) (by rw [p]; kernel_rfl)
  have fm := fl.setu (d := 142) (c := [1, 0]) (v := pt i 4) (by kernel_rfl) 0 (by kernel_rfl) (by rw [p]; kernel_rfl)
  have fn := fm.setu (d := 143) (c := [1, 0]) (v := i6 u0.Chooser) (by kernel_rfl) 0 (by kernel_rfl) (by rw [p]; kernel_rfl)
  refine qsku fn rfl rfl (by kernel_rfl) (by kernel_rfl) rfl (by kernel_rfl) ?_; intro kL fo
  refine qsku fo rfl rfl (by kernel_rfl) (by kernel_rfl) rfl (by kernel_rfl) ?_; intro kM fp
  refine qsku fp rfl rfl (by kernel_rfl) (by kernel_rfl) rfl (by kernel_rfl) ?_; intro kN fq
  refine qsku fq rfl rfl (by kernel_rfl) (by kernel_rfl) rfl (by kernel_rfl) ?_; intro kO fr
  refine qsku fr rfl rfl (by kernel_rfl) (by kernel_rfl) rfl (by kernel_rfl) ?_; intro kP fs
  refine qk_ fs false ?_; intro kQ ft
  refine q1 ft 150 (.bool false) ?_; intro kR fu
  refine qnl (O _ ?_); intro kS h9
  refine cdF fu (by kernel_rfl) ?_
  exact l_ (j_ (d_ (ew () h8 _ _ ((fu.reg).anyβ _ (by kernel_rfl)) (h9.kp))))
 refine x_ (y_ (y_ (z_ (t_ (sqB ah es [] [] [(2, i6 0)] ?_))))); intro kT ib
 exact r_ (ra1 ib (i6 0) ⟨0, rfl, ia, es.below⟩)

end Go.Proofs.YtdndfbamhnchfaaGreatDoor
set_option linter.unusedVariables false
set_option linter.unusedSimpArgs false
set_option maxRecDepth 100000
set_option maxHeartbeats 0
namespace Go.Proofs.YtdndfbamhnchfaaGreatDoor
open Go.Sy Go.RowKit
abbrev e46Md (X : Signal) : List Value := [str X.Name, i6 X.Start, i6 X.Size, .bool X.Back, .bool X.Signed, i6 X.Mul, i6 X.Div, i6 X.Add, i6 X.Key]
abbrev e27Md (X : Frame) (A0 : Option Addr) (C0 : Nat) : List Value := [i6 X.ID, .bool X.Long, .bool X.Fast, .bool X.Remote, i6 X.Size, .slice A0 X.Data.length C0]
abbrev e24Md (X : Message) (A0 : Option Addr) (C0 : Nat) : List Value := [i6 X.ID, .bool X.Long, str X.Name, i6 X.Size, i6 X.Chooser, .slice A0 X.Signals.length C0]
abbrev e37Md (X : Reading) : List Value := [str X.Name, i6 X.Num, i6 X.Den]
def mcheck_fun (u0 : Message) (ao1 : Option Addr) (cap2 : Nat) (Z : Fz) (w : World) (hs3 : SlR tySignal Z ao1 cap2 u0.Signals) (hZ : Z.on w) := f_ (mcheck_walk u0 ao1 cap2 Z w hs3 hZ (mcheck_ok u0))
def mthere_fun (u0 : Message) (u1 : Signal) (u2 : List Int) (hpre : therepre u0 u1 u2) (ao1 : Option Addr) (cap2 : Nat) (ao4 : Option Addr) (cap5 : Nat) (Z : Fz) (w : World) (hs3 : SlR tySignal Z ao1 cap2 u0.Signals) (hs6 : SlR t8 Z ao4 cap5 u2) (hZ : Z.on w) := f_ (mthere_walk u0 u1 u2 ao1 cap2 ao4 cap5 Z w hs3 hs6 hZ (mthere_ok u0 u1 u2 hpre))
theorem mread_walk (u0 : Message) (u1 : Frame) (ao1 : Option Addr) (cap2 : Nat) (ao4 : Option Addr) (cap5 : Nat) (Z : Fz) (w : World) (hs3 : SlR tySignal Z ao1 cap2 u0.Signals) (hs6 : SlR t8 Z ao4 cap5 u1.Data) (hZ : Z.on w) {K : ((List Reading) × Int) → Prop} (hp : mread_vc u0 u1 K) : Calls Tryz.prog 6 #[.agg #[i6 u0.ID, .bool u0.Long, str u0.Name, i6 u0.Size, i6 u0.Chooser, .slice ao1 u0.Signals.length cap2], .agg #[i6 u1.ID, .bool u1.Long, .bool u1.Fast, .bool u1.Remote, i6 u1.Size, .slice ao4 u1.Data.length cap5]] w fun e w' => ∃ (r : (List Reading) × Int) (ao1001 : Option Addr) (cap1002 : Nat) (Z' : Fz), e = .returned (.tuple #[.slice ao1001 r.1.length cap1002, i6 r.2]) ∧ K r ∧ Mem w.heap.size [] w Z [.own tyReading 37 ao1001 cap1002 r.1] Z' w' := by
 refine enter0 Tryz.func6 rfl rfl (by kernel_rfl) ?_; intro a0 ab; have ac := Mem.start w Z hZ
 have z := hp (hs3.small) (hs6.small)
 refine sqH ?_; intro a3 ae
 refine nw ab ac pb (e24Md u0 ao1 cap2) 24 ?_; intro f bW bX af ag
 refine nw af ag pb (e27Md u1 ao4 cap5) 27 ?_; intro d bY bZ ah n
 refine bt ah n 2 [] [] [] ?_; intro b0 ai
 apply ae
 refine s_ (sqH ?_); intro a4 aj
 refine l2 ai n 11 1 0 6 (e24Md u0 ao1 cap2) rfl rfl ?_; intro b1 ak
 refine fc ak n (mcheck_fun u0 ao1 cap2 _ _ hs3 n.fz) ?_; intro b2 a5 al l
 refine s1 al 6 (i6 (mcheckS u0)) ?_; intro b3 am
 apply aj
 refine sqB am l [] [] [(14, .bool ((mcheckS u0) != 0))] ?_; intro b4 o
 refine c_ o z (fun _ a6 => ?_) fun _ A => ?_
 ·
  refine sqB o l [] [] [(4, .slice none 0 0), (5, i6 (mcheckS u0))] ?_; intro b5 a7
  refine r_ (h_ ?_)
  have a8 : Mem w.heap.size [] w Z [.own tyReading 37 none 0 ([] : List Reading), .row d (e27Md u1 ao4 cap5) 27, .row f (e24Md u0 ao1 cap2) 24] Z a5 := l.addNil tyReading 37 (by decide)
  exact ra2 a7 (.tuple #[.slice none ([] : List Reading).length 0, i6 (mcheckS u0)]) ⟨(([] : List Reading), (mcheckS u0)), none, 0, Z, rfl, a6, a8.kp⟩
 refine k_ (s_ (sqH ?_)); intro a9 an
 refine l2 o l 16 0 0 6 (e27Md u1 ao4 cap5) rfl rfl ?_; intro b6 aq
 refine fc aq l (fcheckfr_fun u1 ao4 cap5 _ _ hs6 l.fz) ?_; intro b7 B ar c
 refine s1 ar 7 (i6 (fcheckfr u1)) ?_; intro b8 au
 apply an
 refine sqB au c [] [] [(19, .bool ((fcheckfr u1) != 0))] ?_; intro b9 p
 refine c_ p A (fun _ ba => ?_) fun _ C => ?_
 ·
  refine sqB p c [] [] [(4, .slice none 0 0), (5, i6 (fcheckfr u1))] ?_; intro ca bb
  refine r_ (h_ ?_)
  have bc : Mem w.heap.size [] w Z [.own tyReading 37 none 0 ([] : List Reading), .row d (e27Md u1 ao4 cap5) 27, .row f (e24Md u0 ao1 cap2) 24] Z B := c.addNil tyReading 37 (by decide)
  exact ra2 bb (.tuple #[.slice none ([] : List Reading).length 0, i6 (fcheckfr u1)]) ⟨(([] : List Reading), (fcheckfr u1)), none, 0, Z, rfl, ba, bc.kp⟩
 refine k_ (s_ (sqB p c [0, 1, 0, 1, 0] [] [(36, .bool (((u1.ID != u0.ID) || (u1.Long != u0.Long)) || u1.Remote))] ?_)); intro cb q
 refine c_ q C (fun _ bd => ?_) fun _ D => ?_
 ·
  refine sqB q c [] [] [(4, .slice none 0 0), (5, i6 8)] ?_; intro cc be
  refine r_ (h_ ?_)
  have bf : Mem w.heap.size [] w Z [.own tyReading 37 none 0 ([] : List Reading), .row d (e27Md u1 ao4 cap5) 27, .row f (e24Md u0 ao1 cap2) 24] Z B := c.addNil tyReading 37 (by decide)
  exact ra2 be (.tuple #[.slice none ([] : List Reading).length 0, i6 8]) ⟨(([] : List Reading), 8), none, 0, Z, rfl, bd, bf.kp⟩
 refine k_ (s_ (sqB q c [0, 1] [] [(42, .bool (decide ((u1.Data.length : Int) < u0.Size)))] ?_)); intro ce u
 refine c_ u D (fun _ bg => ?_) fun _ bj => ?_
 ·
  refine sqB u c [] [] [(4, .slice none 0 0), (5, i6 7)] ?_; intro cf bh
  refine r_ (h_ ?_)
  have bi : Mem w.heap.size [] w Z [.own tyReading 37 none 0 ([] : List Reading), .row d (e27Md u1 ao4 cap5) 27, .row f (e24Md u0 ao1 cap2) 24] Z B := c.addNil tyReading 37 (by decide)
  exact ra2 bh (.tuple #[.slice none ([] : List Reading).length 0, i6 7]) ⟨(([] : List Reading), 7), none, 0, Z, rfl, bg, bi.kp⟩
 refine k_ (sqB u c [] [] [(8, .slice none 0 0)] ?_); intro cg av
 refine s_ (sqB av c [1] [] [(44, .slice ao1 u0.Signals.length cap2), (45, i6 (u0.Signals.length : Int)), (46, i6 0)] ?_); intro aw ax
 apply b_
 have ay : Fr 66 [] [⟨2, [], pt f 0⟩, ⟨3, [], pt d 0⟩, ⟨8, [], .slice none 0 0⟩, ⟨44, [], .slice ao1 u0.Signals.length cap2⟩, ⟨45, [], i6 (u0.Signals.length : Int)⟩, ⟨46, [], i6 0⟩] aw := ax.reg
 have az : Mem w.heap.size [] w Z [.own tyReading 37 none 0 ([] : List Reading), .row d (e27Md u1 ao4 cap5) 27, .row f (e24Md u0 ao1 cap2) 24] Z B := c.addNil tyReading 37 (by decide)
 have aA : Fr 66 [] [⟨2, [], pt f 0⟩, ⟨3, [], pt d 0⟩, ⟨8, [], .slice none ([] : List Reading).length 0⟩, ⟨44, [], .slice ao1 u0.Signals.length cap2⟩, ⟨45, [], i6 (u0.Signals.length : Int)⟩, ⟨46, [], i6 0⟩] aw := ay.reg
 obtain ⟨bk, bl, bm, bn⟩ := bj
 refine lp (ι := (List Reading) × Int × (Option Addr) × Nat) (fun s => [⟨2, [], pt f 0⟩, ⟨3, [], pt d 0⟩, ⟨8, [], .slice s.2.2.1 s.1.length s.2.2.2⟩, ⟨44, [], .slice ao1 u0.Signals.length cap2⟩, ⟨45, [], i6 (u0.Signals.length : Int)⟩, ⟨46, [], i6 s.2.1⟩]) (fun s => [.own tyReading 37 s.2.2.1 s.2.2.2 s.1, .row d (e27Md u1 ao4 cap5) 27, .row f (e24Md u0 ao1 cap2) 24]) (fun s => Z) (fun s => bk s.1 s.2.1) (fun s => bl s.1 s.2.1) ⟨([] : List Reading), 0, none, 0⟩ bm (by exact aA.reg) (by exact az) ?_
 rintro ⟨g, h, i, j⟩ bo bp bq aB aC
 have E := bn g h bo
 refine sqB aB aC [] [] [(47, .bool (decide (h < (u0.Signals.length : Int))))] ?_; intro ch v
 refine s_ (c_ v E (fun _ br => ?_) fun _ bT => ?_)
 ·
  refine k_ (s_ (b_ (sqH ?_))); intro bs aE
  obtain ⟨bu, aF⟩ := br
  refine ix_ v hs3 h bu .i64 46 72 ?_; intro ci cj bv a ck bw bx bz aG
  have bA := aF a bw
  obtain rfl : bv = ((e46Md a) : List Value) := bz
  refine z2 aG aC 49 bx 0 9 (e46Md a) rfl ?_; intro cl aH
  refine nw aH aC pb [str [], i6 0, i6 0, .bool false, .bool false, i6 0, i6 0, i6 0, i6 0] 46 ?_; intro F cm cn S aI
  refine sx S aI 0 (e46Md a) 0 ?_; intro bB aJ
  have G : Mem w.heap.size [] w Z [.row F (e46Md a) 46, .own tyReading 37 i j g, .row d (e27Md u1 ao4 cap5) 27, .row f (e24Md u0 ao1 cap2) 24] Z bB := aJ
  apply aE
  refine sqH ?_; intro bC aK
  refine bt S G 4 [3, 0, 2] [] [(50, .agg (e24Md u0 ao1 cap2).toArray), (51, .agg (e46Md a).toArray), (53, .slice ao4 u1.Data.length cap5)] ?_; intro co aL
  obtain ⟨bD, H⟩ := bA
  refine fc aL G (mthere_fun u0 a u1.Data bD ao1 cap2 ao4 cap5 _ _ hs3 hs6 G.fz) ?_; intro bE cp y I
  apply aK
  refine c_ y H (fun _ bF => ?_) fun _ a2 => ?_
  ·
   have aM : Fr 66 [] [⟨2, [], pt f 0⟩, ⟨3, [], pt d 0⟩, ⟨8, [], .slice i g.length j⟩, ⟨10, [], pt F 0⟩, ⟨44, [], .slice ao1 u0.Signals.length cap2⟩, ⟨45, [], i6 (u0.Signals.length : Int)⟩, ⟨46, [], i6 h⟩] bE := y.reg
   refine rgS mixed I [(0, true), (1, true), (2, true), (3, true), (4, true), (5, false), (6, false), (7, false), (8, false), (9, true)] [] [0, 2] [.row F (e46Md a) 46, .row d (e27Md u1 ao4 cap5) 27] ?_
   intro bG aN cq V
   have J := Fz.le.refl Z
   refine cS aM 5 [0, 0, 1] [] [(55, .slice i g.length j), (56, .agg (e46Md a).toArray), (57, .agg (e46Md a).toArray), (59, .slice ao4 u1.Data.length cap5)] ?_; intro cr aO
   refine eS rfl ?_; intro bH aP
   obtain ⟨bI, bJ⟩ := bF
   refine fc aO V (sget_fun a u1.Data bI ao4 cap5 _ _ hs6 V.fz) ?_; intro cs ct aQ L
   refine nl (qnI (aP _ _ (L.cst J [0, 2]) ?_))
   refine eS rfl ?_; intro bK aR
   obtain ⟨bL, bM⟩ := bJ
   refine fc aQ L (smean_fun a (getS a u1.Data) bL _ _ L.fz) ?_; intro cu cv aS W
   refine nl (qnI (aR _ _ (W.cst J [0, 2]) ?_))
   refine eS rfl ?_; intro bN aT
   refine nw aS W (fun b => .slice (sm b) 1 1) (e37Md (meanS a (getS a u1.Data))) 37 ?_; intro aU cw cx aV M
   refine nl (qnI (aT _ _ (M.cst J [1, 3]) ?_))
   refine eS rfl ?_; intro bO aW
   obtain ⟨bP, aX⟩ := bM
   refine ap aV M 2 (T := tyReading) (xs := g) (ys := [(meanS a (getS a u1.Data))]) (ao := i) (cap := j) (ao2 := (sm aU)) (cap2 := 1) (t := 28) (e := 37) (bytes := 32) (nog rfl _) rfl (by kernel_rfl) rfl (by kernel_rfl) (by kernel_rfl) (by kernel_rfl) rfl (Src.row M 0 rfl (RepAll.one (T := tyReading) (x := (meanS a (getS a u1.Data))) rfl)) bP ?_; intro X Y cy bQ cz aY aZ
   have aa : Mem w.heap.size [] w Z [.row aU (e37Md (meanS a (getS a u1.Data))) 37, .row F (e46Md a) 46, .own tyReading 37 X Y (g ++ [(meanS a (getS a u1.Data))]), .row d (e27Md u1 ao4 cap5) 27, .row f (e24Md u0 ao1 cap2) 24] Z bQ := aZ
   refine nl (qnI (aW _ _ (aa.cst J [1, 3]) ?_))
   refine cS aY 1 [] [] [(8, .slice X (g ++ [(meanS a (getS a u1.Data))]).length Y)] ?_; intro cA a1
   refine nS (aN _ _ ?_)
   refine j_ (t_ (rgB a1 aa [] [] [(46, i6 (w64 (h + 1)))] ?_)); intro cB bR
   exact d_ ⟨⟨g ++ [(meanS a (getS a u1.Data))], w64 (h + 1), X, Y⟩, aX.1, aX.2, (bR.reg).anyβ _ (by kernel_rfl), aa.kp⟩
  refine l_ (j_ (t_ (rgB y I [] [] [(46, i6 (w64 (h + 1)))] ?_))); intro cC bS
  exact d_ ⟨⟨g, w64 (h + 1), i, j⟩, a2.1, a2.2, (bS.reg).anyβ _ (by kernel_rfl), I.kp⟩
 refine x_ (y_ (y_ (z_ (t_ (sqB v aC [] [] [(4, .slice i g.length j), (5, i6 0)] ?_))))); intro cD bU
 exact r_ (ra2 bU (.tuple #[.slice i g.length j, i6 0]) ⟨(g, 0), i, j, Z, rfl, bT, aC.kp⟩)

theorem mwrite_walk (u0 : Message) (u1 : List Reading) (ao1 : Option Addr) (cap2 : Nat) (ao4 : Option Addr) (cap5 : Nat) (Z : Fz) (w : World) (hs3 : SlR tySignal Z ao1 cap2 u0.Signals) (hs6 : SlR tyReading Z ao4 cap5 u1) (hZ : Z.on w) {K : (Frame × Int) → Prop} (hp : mwrite_vc u0 u1 K) : Calls Tryz.prog 12 #[.agg #[i6 u0.ID, .bool u0.Long, str u0.Name, i6 u0.Size, i6 u0.Chooser, .slice ao1 u0.Signals.length cap2], .slice ao4 u1.length cap5] w fun e w' => ∃ (r : Frame × Int) (ao1001 : Option Addr) (cap1002 : Nat) (Z' : Fz), e = .returned (.tuple #[.agg #[i6 r.1.ID, .bool r.1.Long, .bool r.1.Fast, .bool r.1.Remote, i6 r.1.Size, .slice ao1001 r.1.Data.length cap1002], i6 r.2]) ∧ K r ∧ SlR t8 Z' ao1001 cap1002 r.1.Data ∧ Mem w.heap.size [] w Z [] Z' w' := by
 refine enter0 Tryz.func12 rfl rfl (by kernel_rfl) ?_; intro a0 c4; have c5 := Mem.start w Z hZ
 have bA := hp (hs3.small) (hs6.small)
 refine sqH ?_; intro gu c7
 refine nw c4 c5 pb (e24Md u0 ao1 cap2) 24 ?_; intro p jI jJ c8 c9
 refine nw c8 c9 pb [i6 0, .bool false, .bool false, .bool false, i6 0, .slice none 0 0] 27 ?_; intro q jK jL da bB
 refine s1 da 5 (i6 0) ?_; intro jM db
 apply c7
 refine s_ (sqH ?_); intro gv dc
 refine l2 db bB 18 1 0 6 (e24Md u0 ao1 cap2) rfl rfl ?_; intro jN dd
 refine fc dd bB (mcheck_fun u0 ao1 cap2 _ _ hs3 bB.fz) ?_; intro jO jP de a9
 refine s1 de 6 (i6 (mcheckS u0)) ?_; intro jQ df
 apply dc
 refine sqB df a9 [] [] [(21, .bool ((mcheckS u0) != 0))] ?_; intro al ba
 refine c_ ba bA (fun _ gw => ?_) fun _ gz => ?_
 ·
  refine sqH ?_; intro gx dg
  refine bt ba a9 2 [] [] [(22, .agg #[i6 0, .bool false, .bool false, .bool false, i6 0, .slice none 0 0]), (23, i6 (mcheckS u0))] ?_; intro jR cm
  refine sx cm a9 0 [i6 0, .bool false, .bool false, .bool false, i6 0, .slice none 0 0] 0 ?_; intro gy dh
  refine s1 cm 5 (i6 (mcheckS u0)) ?_; intro jS di
  have dj : Mem w.heap.size [] w Z [.row q [i6 0, .bool false, .bool false, .bool false, i6 0, .slice none 0 0] 27, .row p (e24Md u0 ao1 cap2) 24] Z gy := dh
  apply dg
  refine r_ (h_ (rt (fn := Tryz.f12) (v := .tuple #[.agg #[i6 0, .bool false, .bool false, .bool false, i6 0, .slice none 0 0], i6 (mcheckS u0)]) di (re2c di (fn := Tryz.f12) rfl (ad := ⟨q, 0, none⟩) (by kernel_rfl) (loadVar_run dj 0 (b := q) (k := 6) (vs := [i6 0, .bool false, .bool false, .bool false, i6 0, .slice none 0 0]) (ty := 27) rfl (by kernel_rfl) (by kernel_rfl)) (by kernel_rfl)) ?_))
  exact ⟨((⟨0, false, false, false, 0, []⟩ : Frame), (mcheckS u0)), none, 0, Z, rfl, gw, (SlR.nil _ _), dj.kp⟩
 apply k_
 have gA : Fr 102 [] [⟨1, [], .slice ao4 u1.length cap5⟩, ⟨2, [], pt p 0⟩, ⟨4, [], pt q 0⟩] al := ba.reg
 obtain ⟨jT, gB⟩ := gz
 refine wp_seq (any_invE mixed [[], [0], [], [2], [], [4], [5], [1, 3, 6], [], [0, 1, 2, 3, 4, 5, 6, 7, 8]] 10 (fun S a L => ∃ (l : Nat) (n : Nat) (V : Value) (am : Value) (ac : Value) (an : Value) (ae : Value) (aA : Value) (ao : Value) (af : Value) (W : Value) (bC : Res) (bD : Res) (ap : Res) (P : Res), Fz.le Z Z ∧ Fr 102 [] [⟨1, [], .slice ao4 u1.length cap5⟩, ⟨2, [], pt p 0⟩, ⟨4, [], pt q 0⟩, ⟨7, [], V⟩, ⟨24, [], am⟩, ⟨25, [], ac⟩, ⟨26, [], an⟩, ⟨27, [], ae⟩, ⟨28, [], aA⟩, ⟨29, [], ao⟩, ⟨30, [], af⟩, ⟨31, [], W⟩] a ∧ Mem w.heap.size [] w Z [bC, bD, ap, P] Z L ∧ (S 8 = true → V = pt n 0) ∧ (S 0 = true → am = pt p 0) ∧ (S 1 = true → ac = i6 u0.ID) ∧ (S 2 = true → an = pt p 1) ∧ (S 3 = true → ae = .bool u0.Long) ∧ (S 4 = true → aA = pt p 3) ∧ (S 5 = true → ao = i6 u0.Size) ∧ (S 6 = true → af = .slice (sm l) (List.replicate u0.Size.toNat (0 : Int)).length u0.Size.toNat) ∧ (S 7 = true → W = .agg #[i6 u0.ID, .bool u0.Long, .bool false, .bool false, i6 0, .slice (sm l) (List.replicate u0.Size.toNat (0 : Int)).length u0.Size.toNat]) ∧ (bC = .row q [i6 0, .bool false, .bool false, .bool false, i6 0, .slice none 0 0] 27) ∧ (bD = .row p (e24Md u0 ao1 cap2) 24) ∧ (S 6 = false → ap = .nil) ∧ (S 6 = true → ap = .own t8 5 (sm l) u0.Size.toNat (List.replicate u0.Size.toNat (0 : Int))) ∧ (S 8 = false → P = .nil) ∧ (S 8 = true → S 9 = false → P = .row n [i6 0, .bool false, .bool false, .bool false, i6 0, .slice none 0 0] 27) ∧ (S 9 = true → P = .row n [i6 u0.ID, .bool u0.Long, .bool false, .bool false, i6 0, .slice (sm l) (List.replicate u0.Size.toNat (0 : Int)).length u0.Size.toNat] 27)) ?h0 ?hs ?hE)
 case h0 =>
  have gC := gA.any 7
  have gD := gC.any 24
  have gE := gD.any 25
  have gF := gE.any 26
  have gG := gF.any 27
  have gH := gG.any 28
  have gI := gH.any 29
  have gJ := gI.any 30
  have gK := gJ.any 31
  have gL := a9.nilRes
  have gM := gL.nilRes
  have gN := (gM.perm ((pk 2 rfl).trans (((pk 2 rfl).trans (((pk 1 rfl).trans (lpr.cons _)).cons _)).cons _))).drew
  exact ⟨0, 0, al.tmps.getD 7 undef, al.tmps.getD 24 undef, al.tmps.getD 25 undef, al.tmps.getD 26 undef, al.tmps.getD 27 undef, al.tmps.getD 28 undef, al.tmps.getD 29 undef, al.tmps.getD 30 undef, al.tmps.getD 31 undef, .row q [i6 0, .bool false, .bool false, .bool false, i6 0, .slice none 0 0] 27, .row p (e24Md u0 ao1 cap2) 24, .nil, .nil, Fz.le.refl _, gK.reg, gN, ff, ff, ff, ff, ff, ff, ff, ff, ff, rfl, rfl, kf, ff, kf, ff, ff⟩
 case hs =>
  intro S hcl i o hil hi hSi hpre a L hI; refine Go.Sy.hid ?_; intro G hG; obtain ⟨l, n, V, am, ac, an, ae, aA, ao, af, W, bC, bD, ap, P, C, hFx, hMx, ag, ah, aq, ai, ar, aj, au, hI⟩ := hI; obtain ⟨aB, bE, X, Y, aC, aD, av, aw, hI⟩ := hI
  have hcase : i = 0 ∨ i = 1 ∨ i = 2 ∨ i = 3 ∨ i = 4 ∨ i = 5 ∨ i = 6 ∨ i = 7 ∨ i = 8 ∨ i = 9 := by clear hi; omega
  rcases hcase with rfl | rfl | rfl | rfl | rfl | rfl | rfl | rfl | rfl | rfl
  ·
   obtain rfl := oj hi
   have aJ := hSi
   have ax := ngF hcl 1 0 aJ
   have O := ngF hcl 7 1 ax
   have M := ngF hcl 9 0 aJ
   obtain rfl := X
   obtain rfl := Y
   refine hG (any_step ?_); intro A J hJ
   refine s1 hFx 24 (pt p 0) ?_; intro jW gO
   refine nl (qnI (hJ _ _ ?_))
   exact ⟨l, n, V, pt p 0, ac, an, ae, aA, ao, af, W, .row q [i6 0, .bool false, .bool false, .bool false, i6 0, .slice none 0 0] 27, .row p (e24Md u0 ao1 cap2) 24, ap, P, C, gO.reg, hMx.perm lpr, ag, kf, (nt ax), ai, ar, aj, au, aB, (nt O), rfl, rfl, aC, aD, av, aw, (nt M)⟩
  ·
   obtain rfl := oj hi
   have aJ := hpre 0 (by kernel_rfl)
   have ax := hSi
   have O := ngF hcl 7 1 ax
   have M := ngF hcl 9 1 ax
   obtain rfl := ah aJ
   obtain rfl := X
   obtain rfl := Y
   refine hG (any_step ?_); intro A J hJ
   refine l1 hFx hMx 25 1 0 (i6 u0.ID) rfl rfl ?_; intro jZ gP
   refine nl (qnI (hJ _ _ ?_))
   exact ⟨l, n, V, pt p 0, i6 u0.ID, an, ae, aA, ao, af, W, .row q [i6 0, .bool false, .bool false, .bool false, i6 0, .slice none 0 0] 27, .row p (e24Md u0 ao1 cap2) 24, ap, P, C, gP.reg, hMx.perm lpr, ag, kf, kf, ai, ar, aj, au, aB, (nt O), rfl, rfl, aC, aD, av, aw, (nt M)⟩
  ·
   obtain rfl := oj hi
   have aK := hSi
   have ay := ngF hcl 3 2 aK
   have O := ngF hcl 7 3 ay
   have M := ngF hcl 9 2 aK
   obtain rfl := X
   obtain rfl := Y
   refine hG (any_step ?_); intro A J hJ
   refine s1 hFx 26 (pt p 1) ?_; intro j2 gQ
   refine nl (qnI (hJ _ _ ?_))
   exact ⟨l, n, V, am, ac, pt p 1, ae, aA, ao, af, W, .row q [i6 0, .bool false, .bool false, .bool false, i6 0, .slice none 0 0] 27, .row p (e24Md u0 ao1 cap2) 24, ap, P, C, gQ.reg, hMx.perm lpr, ag, ah, aq, kf, (nt ay), aj, au, aB, (nt O), rfl, rfl, aC, aD, av, aw, (nt M)⟩
  ·
   obtain rfl := oj hi
   have aK := hpre 2 (by kernel_rfl)
   have ay := hSi
   have O := ngF hcl 7 3 ay
   have M := ngF hcl 9 3 ay
   obtain rfl := ai aK
   obtain rfl := X
   obtain rfl := Y
   refine hG (any_step ?_); intro A J hJ
   refine l1 hFx hMx 27 1 1 (.bool u0.Long) rfl rfl ?_; intro j5 gR
   refine nl (qnI (hJ _ _ ?_))
   exact ⟨l, n, V, am, ac, pt p 1, .bool u0.Long, aA, ao, af, W, .row q [i6 0, .bool false, .bool false, .bool false, i6 0, .slice none 0 0] 27, .row p (e24Md u0 ao1 cap2) 24, ap, P, C, gR.reg, hMx.perm lpr, ag, ah, aq, kf, kf, aj, au, aB, (nt O), rfl, rfl, aC, aD, av, aw, (nt M)⟩
  ·
   obtain rfl := oj hi
   have az := hSi
   have R := ngF hcl 5 4 az
   have I := ngF hcl 6 5 R
   have O := ngF hcl 7 6 I
   have M := ngF hcl 9 4 az
   obtain rfl := X
   obtain rfl := Y
   obtain rfl := aC I
   refine hG (any_step ?_); intro A J hJ
   have gS := hMx.keep (sD (List.Sublist.cons_cons _ (sC (sD (List.Sublist.slnil)))))
   refine s1 hFx 28 (pt p 3) ?_; intro j8 gT
   refine nl (qnI (hJ _ _ ?_))
   have gU := gS.nilRes
   exact ⟨l, n, V, am, ac, an, ae, pt p 3, ao, af, W, .row q [i6 0, .bool false, .bool false, .bool false, i6 0, .slice none 0 0] 27, .row p (e24Md u0 ao1 cap2) 24, .nil, P, C, gT.reg, gU.perm ((pk 1 rfl).trans (((pk 1 rfl).trans (lpr.cons _)).cons _)), ag, ah, aq, ai, ar, kf, (nt R), (nt I), (nt O), rfl, rfl, kf, (nt I), av, aw, (nt M)⟩
  ·
   obtain rfl := oj hi
   have az := hpre 4 (by kernel_rfl)
   have R := hSi
   have I := ngF hcl 6 5 R
   have O := ngF hcl 7 6 I
   have M := ngF hcl 9 5 R
   obtain rfl := aj az
   obtain rfl := X
   obtain rfl := Y
   obtain rfl := aC I
   refine hG (any_step ?_); intro A J hJ
   have dl := hMx.keep (sD (List.Sublist.cons_cons _ (sC (sD (List.Sublist.slnil)))))
   refine l1 hFx dl 29 1 3 (i6 u0.Size) rfl rfl ?_; intro kb gV
   refine nl (qnI (hJ _ _ ?_))
   have gW := dl.nilRes
   exact ⟨l, n, V, am, ac, an, ae, pt p 3, i6 u0.Size, af, W, .row q [i6 0, .bool false, .bool false, .bool false, i6 0, .slice none 0 0] 27, .row p (e24Md u0 ao1 cap2) 24, .nil, P, C, gV.reg, gW.perm ((pk 1 rfl).trans (((pk 1 rfl).trans (lpr.cons _)).cons _)), ag, ah, aq, ai, ar, kf, kf, (nt I), (nt O), rfl, rfl, kf, (nt I), av, aw, (nt M)⟩
  ·
   obtain rfl := oj hi
   have R := hpre 5 (by kernel_rfl)
   have az := hcl 5 4 (by kernel_rfl) R
   have I := hSi
   have O := ngF hcl 7 6 I
   have M := ngF hcl 9 6 I
   obtain rfl := aj az
   obtain rfl := au R
   obtain rfl := X
   obtain rfl := Y
   obtain rfl := aC I
   refine hG (any_step ?_); intro A J hJ
   have dm := hMx.keep (sD (List.Sublist.cons_cons _ (sC (sD (List.Sublist.slnil)))))
   refine mks hFx dm (T := t8) u0.Size u0.Size (k := .i64) (k' := .i64) (e := 5) (bytes := 1) (zs := [y8 0]) (z := 0) (by simp only [lim]; omega) (nog rfl _) rfl (by kernel_rfl) rfl (by kernel_rfl) (by kernel_rfl) (by kernel_rfl) (by kernel_rfl) rfl ?_; intro bF ke gX gY dn
   have gZ : Mem w.heap.size [] w Z [.own t8 5 (sm bF) u0.Size.toNat (List.replicate u0.Size.toNat (0 : Int)), .row q [i6 0, .bool false, .bool false, .bool false, i6 0, .slice none 0 0] 27, .row p (e24Md u0 ao1 cap2) 24, P] Z gX := dn
   refine nl (qnI (hJ _ _ ?_))
   exact ⟨bF, n, V, am, ac, an, ae, pt p 3, i6 u0.Size, .slice (sm bF) (List.replicate u0.Size.toNat (0 : Int)).length u0.Size.toNat, W, .row q [i6 0, .bool false, .bool false, .bool false, i6 0, .slice none 0 0] 27, .row p (e24Md u0 ao1 cap2) 24, .own t8 5 (sm bF) u0.Size.toNat (List.replicate u0.Size.toNat (0 : Int)), P, C, gY.reg, gZ.perm ((pk 1 rfl).trans (((pk 1 rfl).trans (lpr.cons _)).cons _)), ag, ah, aq, ai, ar, kf, kf, kf, (nt O), rfl, rfl, nu, kf, av, aw, (nt M)⟩
  ·
   obtain rfl := oj hi
   have I := hpre 6 (by kernel_rfl)
   have ay := hpre 3 (by kernel_rfl)
   have ax := hpre 1 (by kernel_rfl)
   have R := hcl 6 5 (by kernel_rfl) I
   have aK := hcl 3 2 (by kernel_rfl) ay
   have aJ := hcl 1 0 (by kernel_rfl) ax
   have az := hcl 5 4 (by kernel_rfl) R
   have O := hSi
   have M := ngF hcl 9 7 O
   obtain rfl := ah aJ
   obtain rfl := aq ax
   obtain rfl := ai aK
   obtain rfl := ar ay
   obtain rfl := aj az
   obtain rfl := au R
   obtain rfl := aB I
   obtain rfl := X
   obtain rfl := Y
   obtain rfl := aD I
   refine hG (any_step ?_); intro A J hJ
   refine s1 hFx 31 (.agg #[i6 u0.ID, .bool u0.Long, .bool false, .bool false, i6 0, .slice (sm l) (List.replicate u0.Size.toNat (0 : Int)).length u0.Size.toNat]) ?_; intro ki g0
   refine nl (qnI (hJ _ _ ?_))
   exact ⟨l, n, V, pt p 0, i6 u0.ID, pt p 1, .bool u0.Long, pt p 3, i6 u0.Size, .slice (sm l) (List.replicate u0.Size.toNat (0 : Int)).length u0.Size.toNat, .agg #[i6 u0.ID, .bool u0.Long, .bool false, .bool false, i6 0, .slice (sm l) (List.replicate u0.Size.toNat (0 : Int)).length u0.Size.toNat], .row q [i6 0, .bool false, .bool false, .bool false, i6 0, .slice none 0 0] 27, .row p (e24Md u0 ao1 cap2) 24, .own t8 5 (sm l) u0.Size.toNat (List.replicate u0.Size.toNat (0 : Int)), P, C, g0.reg, hMx.perm lpr, ag, kf, kf, kf, kf, kf, kf, kf, kf, rfl, rfl, (tn I), kf, av, aw, (nt M)⟩
  ·
   obtain rfl := oj hi
   have aX := hSi
   have M := ngF hcl 9 8 aX
   obtain rfl := X
   obtain rfl := Y
   obtain rfl := av aX
   refine hG (any_step ?_); intro A J hJ
   have dp := hMx.keep (sD (List.Sublist.cons_cons _ (sD (sC (List.Sublist.slnil)))))
   refine nw hFx dp pb [i6 0, .bool false, .bool false, .bool false, i6 0, .slice none 0 0] 27 ?_; intro cn kl km g1 g2
   refine nl (qnI (hJ _ _ ?_))
   exact ⟨l, cn, pt cn 0, am, ac, an, ae, aA, ao, af, W, .row q [i6 0, .bool false, .bool false, .bool false, i6 0, .slice none 0 0] 27, .row p (e24Md u0 ao1 cap2) 24, ap, .row cn [i6 0, .bool false, .bool false, .bool false, i6 0, .slice none 0 0] 27, C, g1.reg, g2.perm ((pk 1 rfl).trans (((pk 1 rfl).trans (((pk 1 rfl).trans (lpr.cons _)).cons _)).cons _)), kf, ah, aq, ai, ar, aj, au, aB, bE, rfl, rfl, aC, aD, nu, kf2, (nt M)⟩
  obtain rfl := oj hi
  have aX := hpre 8 (by kernel_rfl)
  have O := hpre 7 (by kernel_rfl)
  have I := hpre 6 (by kernel_rfl)
  have R := hpre 5 (by kernel_rfl)
  have az := hpre 4 (by kernel_rfl)
  have ay := hpre 3 (by kernel_rfl)
  have aK := hpre 2 (by kernel_rfl)
  have ax := hpre 1 (by kernel_rfl)
  have aJ := hpre 0 (by kernel_rfl)
  have M := hSi
  obtain rfl := ag aX
  obtain rfl := ah aJ
  obtain rfl := aq ax
  obtain rfl := ai aK
  obtain rfl := ar ay
  obtain rfl := aj az
  obtain rfl := au R
  obtain rfl := aB I
  obtain rfl := bE O
  obtain rfl := X
  obtain rfl := Y
  obtain rfl := aD I
  obtain rfl := aw aX M
  refine hG (any_step ?_); intro A J hJ
  refine sx hFx hMx 3 [i6 u0.ID, .bool u0.Long, .bool false, .bool false, i6 0, .slice (sm l) (List.replicate u0.Size.toNat (0 : Int)).length u0.Size.toNat] 0 ?_; intro kp g3
  refine nl (qnI (hJ _ _ ?_))
  exact ⟨l, n, pt n 0, pt p 0, i6 u0.ID, pt p 1, .bool u0.Long, pt p 3, i6 u0.Size, .slice (sm l) (List.replicate u0.Size.toNat (0 : Int)).length u0.Size.toNat, .agg #[i6 u0.ID, .bool u0.Long, .bool false, .bool false, i6 0, .slice (sm l) (List.replicate u0.Size.toNat (0 : Int)).length u0.Size.toNat], .row q [i6 0, .bool false, .bool false, .bool false, i6 0, .slice none 0 0] 27, .row p (e24Md u0 ao1 cap2) 24, .own t8 5 (sm l) u0.Size.toNat (List.replicate u0.Size.toNat (0 : Int)), .row n [i6 u0.ID, .bool u0.Long, .bool false, .bool false, i6 0, .slice (sm l) (List.replicate u0.Size.toNat (0 : Int)).length u0.Size.toNat] 27, C, hFx.reg, g3.perm lpr, kf, kf, kf, kf, kf, kf, kf, kf, kf, rfl, rfl, (tn I), kf, (tn aX), (fun _ => nu), kf⟩
 case hE =>
  intro S hS g4 kq hI; refine Go.Sy.hid ?_; intro G hG; obtain ⟨l, n, V, am, ac, an, ae, aA, ao, af, W, bC, bD, ap, P, C, hFx, hMx, ag, ah, aq, ai, ar, aj, au, hI⟩ := hI; obtain ⟨aB, bE, X, Y, aC, aD, av, aw, hI⟩ := hI; have dk := hI; refine hG ?_
  obtain rfl := ag (hS 8 (by decide))
  obtain rfl := ah (hS 0 (by decide))
  obtain rfl := aq (hS 1 (by decide))
  obtain rfl := ai (hS 2 (by decide))
  obtain rfl := ar (hS 3 (by decide))
  obtain rfl := aj (hS 4 (by decide))
  obtain rfl := au (hS 5 (by decide))
  obtain rfl := aB (hS 6 (by decide))
  obtain rfl := bE (hS 7 (by decide))
  obtain rfl := X
  obtain rfl := Y
  obtain rfl := aD (hS 6 (by decide))
  obtain rfl := dk (hS 9 (by decide))
  have bb := hs3.mono C
  have bc := hs6.mono C
  apply t_
  have dq : Fr 102 [] [⟨1, [], .slice ao4 u1.length cap5⟩, ⟨2, [], pt p 0⟩, ⟨4, [], pt q 0⟩, ⟨7, [], pt n 0⟩] g4 := hFx.reg
  refine sqH ?_; intro g5 dr
  refine mkm dq hMx (fun x : List UInt8 => str x) (fun x : Reading => .agg (e37Md x).toArray) (t := 63) (nog rfl _) rfl (by kernel_rfl) rfl ?_; intro u kr g6 ds dt
  have du : Mem w.heap.size [] w Z [.map (fun x : List UInt8 => str x) (fun x : Reading => .agg (e37Md x).toArray) u ([] : List (List UInt8 × Reading)), .row q [i6 0, .bool false, .bool false, .bool false, i6 0, .slice none 0 0] 27, .row p (e24Md u0 ao1 cap2) 24, .own t8 5 (sm l) u0.Size.toNat (List.replicate u0.Size.toNat (0 : Int)), .row n [i6 u0.ID, .bool u0.Long, .bool false, .bool false, i6 0, .slice (sm l) (List.replicate u0.Size.toNat (0 : Int)).length u0.Size.toNat] 27] Z g6 := dt
  refine nw ds du pb [.map none] 63 ?_; intro y ks ku co dv
  refine sx co dv 0 [.map (some u)] 0 ?_; intro g7 dw
  have bG : Mem w.heap.size [] w Z [.row y [.map (some u)] 63, .map (fun x : List UInt8 => str x) (fun x : Reading => .agg (e37Md x).toArray) u ([] : List (List UInt8 × Reading)), .row q [i6 0, .bool false, .bool false, .bool false, i6 0, .slice none 0 0] 27, .row p (e24Md u0 ao1 cap2) 24, .own t8 5 (sm l) u0.Size.toNat (List.replicate u0.Size.toNat (0 : Int)), .row n [i6 u0.ID, .bool u0.Long, .bool false, .bool false, i6 0, .slice (sm l) (List.replicate u0.Size.toNat (0 : Int)).length u0.Size.toNat] 27] Z g7 := dw
  apply dr
  refine s_ (sqB co bG [] [] [(33, .slice ao4 u1.length cap5), (34, i6 (u1.length : Int)), (35, i6 0)] ?_); intro bH dx
  have dy : Fr 102 [] [⟨2, [], pt p 0⟩, ⟨4, [], pt q 0⟩, ⟨7, [], pt n 0⟩, ⟨8, [], pt y 0⟩, ⟨33, [], .slice ao4 u1.length cap5⟩, ⟨34, [], i6 (u1.length : Int)⟩, ⟨35, [], i6 0⟩] bH := dx.reg
  obtain ⟨g8, g9, ha⟩ := gB
  refine wp_then_k fun KJ186 hKJ187 => ?_
  have hb : ∀ (j : List (List UInt8 × Reading)), g8 j → ∀ a1 L, Fr 102 [] [⟨2, [], pt p 0⟩, ⟨4, [], pt q 0⟩, ⟨7, [], pt n 0⟩, ⟨8, [], pt y 0⟩] a1 → Mem w.heap.size [] w Z [.row y [.map (some u)] 63, .map (fun x : List UInt8 => str x) (fun x : Reading => .agg (e37Md x).toArray) u j, .row q [i6 0, .bool false, .bool false, .bool false, i6 0, .slice none 0 0] 27, .row p (e24Md u0 ao1 cap2) 24, .own t8 5 (sm l) u0.Size.toNat (List.replicate u0.Size.toNat (0 : Int)), .row n [i6 u0.ID, .bool u0.Long, .bool false, .bool false, i6 0, .slice (sm l) (List.replicate u0.Size.toNat (0 : Int)).length u0.Size.toNat] 27] Z L → KJ186 a1 L := by
   rintro j hc kv kw dz aL
   refine hKJ187 _ _ ?_
   have hd := ha j hc
   refine sqB dz aL [] [] [(13, .func (.func 35) #[] #[pt y 0, pt n 0])] ?_; intro kx dA
   refine s_ (sqB dA aL [3] [] [(56, .bool (decide (u0.Chooser ≥ 0)))] ?_); intro dB dC
   have dD : Fr 102 [] [⟨2, [], pt p 0⟩, ⟨4, [], pt q 0⟩, ⟨7, [], pt n 0⟩, ⟨8, [], pt y 0⟩, ⟨13, [], .func (.func 35) #[] #[pt y 0, pt n 0]⟩, ⟨56, [], .bool (decide (u0.Chooser ≥ 0))⟩] dB := dC.reg
   obtain ⟨he, bI, hf⟩ := hd
   refine wp_then_k fun KJ212 hKJ213 => ?_
   have dE : ∀ (F : List (List UInt8 × Reading)) (aY : List Int) (aP : Fz), he F aY ∧ Fz.le Z aP → ∀ a1 L, Fr 102 [] [⟨2, [], pt p 0⟩, ⟨4, [], pt q 0⟩, ⟨7, [], pt n 0⟩, ⟨8, [], pt y 0⟩, ⟨13, [], .func (.func 35) #[] #[pt y 0, pt n 0]⟩] a1 → Mem w.heap.size [] w Z [.row y [.map (some u)] 63, .map (fun x : List UInt8 => str x) (fun x : Reading => .agg (e37Md x).toArray) u F, .row q [i6 0, .bool false, .bool false, .bool false, i6 0, .slice none 0 0] 27, .row p (e24Md u0 ao1 cap2) 24, .own t8 5 (sm l) u0.Size.toNat aY, .row n [i6 u0.ID, .bool u0.Long, .bool false, .bool false, i6 0, .slice (sm l) aY.length u0.Size.toNat] 27] aP L → KJ212 a1 L := by
    rintro F aY aP ⟨hg, be⟩ ky kz dF bJ
    refine hKJ213 _ _ ?_
    have hh := hf F aY hg
    have dG := bb.mono be
    refine s_ (sqB dF bJ [3] [] [(70, .slice ao1 u0.Signals.length cap2), (71, i6 (u0.Signals.length : Int)), (72, i6 0)] ?_); intro bK dI
    have dJ : Fr 102 [] [⟨2, [], pt p 0⟩, ⟨4, [], pt q 0⟩, ⟨7, [], pt n 0⟩, ⟨8, [], pt y 0⟩, ⟨13, [], .func (.func 35) #[] #[pt y 0, pt n 0]⟩, ⟨70, [], .slice ao1 u0.Signals.length cap2⟩, ⟨71, [], i6 (u0.Signals.length : Int)⟩, ⟨72, [], i6 0⟩] bK := dI.reg
    obtain ⟨hj, hk, hl⟩ := hh
    refine wp_then_k fun KJ237 hKJ238 => ?_
    have hn : ∀ (aE : List (List UInt8 × Reading)) (H : List Int) (aZ : Fz), hj aE H ∧ Fz.le aP aZ → ∀ a1 L, Fr 102 [] [⟨4, [], pt q 0⟩, ⟨7, [], pt n 0⟩, ⟨8, [], pt y 0⟩] a1 → Mem w.heap.size [] w Z [.row y [.map (some u)] 63, .map (fun x : List UInt8 => str x) (fun x : Reading => .agg (e37Md x).toArray) u aE, .row q [i6 0, .bool false, .bool false, .bool false, i6 0, .slice none 0 0] 27, .row p (e24Md u0 ao1 cap2) 24, .own t8 5 (sm l) u0.Size.toNat H, .row n [i6 u0.ID, .bool u0.Long, .bool false, .bool false, i6 0, .slice (sm l) H.length u0.Size.toNat] 27] aZ L → KJ237 a1 L := by
     rintro aE H aZ ⟨ho, a2⟩ kA kB dK aQ
     refine hKJ238 _ _ ?_
     have bL := hl aE H ho
     refine s_ (sqH ?_); intro hq dO
     refine l1 dK aQ 97 0 0 (.map (some u)) rfl rfl ?_; intro kC dP
     refine mln dP aQ 1 (t := 63) (kt := 9) (et := 37) (nog rfl _) rfl (by kernel_rfl) rfl (by kernel_rfl) rfl (by kernel_rfl) ?_; intro kD dQ
     refine s1 dQ 99 (.bool (decide ((aE.length : Int) > 0))) ?_; intro kE bf
     apply dO
     refine c_ bf bL (fun _ hr => ?_) fun _ hv => ?_
     ·
      refine sqH ?_; intro ht dR
      refine s1 bf 100 (.agg #[i6 0, .bool false, .bool false, .bool false, i6 0, .slice none 0 0]) ?_; intro kF cs
      refine sx cs aQ 2 [i6 0, .bool false, .bool false, .bool false, i6 0, .slice none 0 0] 0 ?_; intro hu dS
      refine s1 cs 5 (i6 8) ?_; intro kG dT
      have dU : Mem w.heap.size [] w Z [.row y [.map (some u)] 63, .map (fun x : List UInt8 => str x) (fun x : Reading => .agg (e37Md x).toArray) u aE, .row q [i6 0, .bool false, .bool false, .bool false, i6 0, .slice none 0 0] 27, .row p (e24Md u0 ao1 cap2) 24, .own t8 5 (sm l) u0.Size.toNat H, .row n [i6 u0.ID, .bool u0.Long, .bool false, .bool false, i6 0, .slice (sm l) H.length u0.Size.toNat] 27] aZ hu := dS
      apply dR
      refine r_ (h_ (rt (fn := Tryz.f12) (v := .tuple #[.agg #[i6 0, .bool false, .bool false, .bool false, i6 0, .slice none 0 0], i6 8]) dT (re2c dT (fn := Tryz.f12) rfl (ad := ⟨q, 0, none⟩) (by kernel_rfl) (loadVar_run dU 2 (b := q) (k := 6) (vs := [i6 0, .bool false, .bool false, .bool false, i6 0, .slice none 0 0]) (ty := 27) rfl (by kernel_rfl) (by kernel_rfl)) (by kernel_rfl)) ?_))
      exact ⟨((⟨0, false, false, false, 0, []⟩ : Frame), 8), none, 0, aZ, rfl, hr, (SlR.nil _ _), dU.kp⟩
     refine k_ (sqH ?_); intro hw dV
     refine l2 bf aQ 101 5 0 6 [i6 u0.ID, .bool u0.Long, .bool false, .bool false, i6 0, .slice (sm l) H.length u0.Size.toNat] rfl rfl ?_; intro kH ct
     refine sx ct aQ 2 [i6 u0.ID, .bool u0.Long, .bool false, .bool false, i6 0, .slice (sm l) H.length u0.Size.toNat] 0 ?_; intro dW dX
     refine s1 ct 5 (i6 0) ?_; intro kI dY
     have hx : Mem w.heap.size [] w Z [.row y [.map (some u)] 63, .map (fun x : List UInt8 => str x) (fun x : Reading => .agg (e37Md x).toArray) u aE, .row q [i6 u0.ID, .bool u0.Long, .bool false, .bool false, i6 0, .slice (sm l) H.length u0.Size.toNat] 27, .row p (e24Md u0 ao1 cap2) 24, .own t8 5 (sm l) u0.Size.toNat H, .row n [i6 u0.ID, .bool u0.Long, .bool false, .bool false, i6 0, .slice (sm l) H.length u0.Size.toNat] 27] aZ dW := dX
     apply dV
     apply r_
     obtain ⟨dZ, bg, d0, hy⟩ := hx.freeze 4 rfl
     have d1 : Mem w.heap.size [] w Z [.row y [.map (some u)] 63, .map (fun x : List UInt8 => str x) (fun x : Reading => .agg (e37Md x).toArray) u aE, .row q [i6 u0.ID, .bool u0.Long, .bool false, .bool false, i6 0, .slice (sm l) H.length u0.Size.toNat] 27, .row p (e24Md u0 ao1 cap2) 24, .row n [i6 u0.ID, .bool u0.Long, .bool false, .bool false, i6 0, .slice (sm l) H.length u0.Size.toNat] 27] dZ dW := d0
     refine rt (fn := Tryz.f12) (v := .tuple #[.agg #[i6 u0.ID, .bool u0.Long, .bool false, .bool false, i6 0, .slice (sm l) H.length u0.Size.toNat], i6 0]) dY (re2c dY (fn := Tryz.f12) rfl (ad := ⟨q, 0, none⟩) (by kernel_rfl) (loadVar_run d1 2 (b := q) (k := 6) (vs := [i6 u0.ID, .bool u0.Long, .bool false, .bool false, i6 0, .slice (sm l) H.length u0.Size.toNat]) (ty := 27) rfl (by kernel_rfl) (by kernel_rfl)) (by kernel_rfl)) ?_
     exact ⟨((⟨u0.ID, u0.Long, false, false, 0, H⟩ : Frame), 0), (sm l), u0.Size.toNat, dZ, rfl, hv, hy, d1.kp⟩
    have hz := Fz.le.refl aP
    apply b_
    have d2 : Fr 102 [] [⟨2, [], pt p 0⟩, ⟨4, [], pt q 0⟩, ⟨7, [], pt n 0⟩, ⟨8, [], pt y 0⟩, ⟨13, [], .func (.func 35) #[] #[pt y 0, pt n 0]⟩, ⟨70, [], .slice ao1 u0.Signals.length cap2⟩, ⟨71, [], i6 (u0.Signals.length : Int)⟩, ⟨72, [], i6 0⟩] bK := dJ.reg
    obtain ⟨hA, hB, hC, hD⟩ := hk
    refine lp (ι := Int × (List (List UInt8 × Reading)) × (List Int) × Fz) (fun s => [⟨2, [], pt p 0⟩, ⟨4, [], pt q 0⟩, ⟨7, [], pt n 0⟩, ⟨8, [], pt y 0⟩, ⟨13, [], .func (.func 35) #[] #[pt y 0, pt n 0]⟩, ⟨70, [], .slice ao1 u0.Signals.length cap2⟩, ⟨71, [], i6 (u0.Signals.length : Int)⟩, ⟨72, [], i6 s.1⟩]) (fun s => [.row y [.map (some u)] 63, .map (fun x : List UInt8 => str x) (fun x : Reading => .agg (e37Md x).toArray) u s.2.1, .row q [i6 0, .bool false, .bool false, .bool false, i6 0, .slice none 0 0] 27, .row p (e24Md u0 ao1 cap2) 24, .own t8 5 (sm l) u0.Size.toNat s.2.2.1, .row n [i6 u0.ID, .bool u0.Long, .bool false, .bool false, i6 0, .slice (sm l) s.2.2.1.length u0.Size.toNat] 27]) (fun s => s.2.2.2) (fun s => hA s.1 s.2.1 s.2.2.1 ∧ Fz.le aP s.2.2.2) (fun s => hB s.1 s.2.1 s.2.2.1) ⟨0, F, aY, aP⟩ ⟨hC, Fz.le.refl _⟩ (by exact d2.reg) (by exact bJ) ?_
    rintro ⟨N, h, E, Q⟩ ⟨hF, aF⟩ hH hK d4 d5
    have bM := hD N h E hF
    have a4 := dG.mono aF
    have bh := hz.mono aF
    refine sqB d4 d5 [] [] [(73, .bool (decide (N < (u0.Signals.length : Int))))] ?_; intro d7 bP
    refine s_ (c_ bP bM (fun _ hL => ?_) fun _ iJ => ?_)
    ·
     apply k_
     have d8 : Fr 102 [] [⟨2, [], pt p 0⟩, ⟨4, [], pt q 0⟩, ⟨7, [], pt n 0⟩, ⟨8, [], pt y 0⟩, ⟨13, [], .func (.func 35) #[] #[pt y 0, pt n 0]⟩, ⟨70, [], .slice ao1 u0.Signals.length cap2⟩, ⟨71, [], i6 (u0.Signals.length : Int)⟩, ⟨72, [], i6 N⟩] d7 := bP.reg
     obtain ⟨hM, hN, hO⟩ := hL
     refine wp_seq_k fun KJ309 hKJ310 => ?_
     have cw : ∀ (bi : List (List UInt8 × Reading)) (a5 : List Int) (bQ : Fz), hM bi a5 ∧ Fz.le Q bQ → ∀ a1 L, Fr 102 [] [⟨2, [], pt p 0⟩, ⟨4, [], pt q 0⟩, ⟨7, [], pt n 0⟩, ⟨8, [], pt y 0⟩, ⟨13, [], .func (.func 35) #[] #[pt y 0, pt n 0]⟩, ⟨70, [], .slice ao1 u0.Signals.length cap2⟩, ⟨71, [], i6 (u0.Signals.length : Int)⟩, ⟨72, [], i6 N⟩] a1 → Mem w.heap.size [] w Z [.row y [.map (some u)] 63, .map (fun x : List UInt8 => str x) (fun x : Reading => .agg (e37Md x).toArray) u bi, .row q [i6 0, .bool false, .bool false, .bool false, i6 0, .slice none 0 0] 27, .row p (e24Md u0 ao1 cap2) 24, .own t8 5 (sm l) u0.Size.toNat a5, .row n [i6 u0.ID, .bool u0.Long, .bool false, .bool false, i6 0, .slice (sm l) a5.length u0.Size.toNat] 27] bQ L → KJ309 a1 L := by
      rintro bi a5 bQ ⟨hP, a6⟩ kK kL d9 ea
      refine hKJ310 _ _ ?_
      have eb := hO bi a5 hP
      have hQ := aF.mono a6
      refine rgB d9 ea [] [] [(72, i6 (w64 (N + 1)))] ?_; intro kQ hR
      exact d_ ⟨⟨w64 (N + 1), bi, a5, bQ⟩, ⟨eb.1, hQ⟩, eb.2, (hR.reg).anyβ _ (by kernel_rfl), ea.kp⟩
     have bj := Fz.le.refl Q
     refine b_ (sqH ?_); intro hT ec
     refine s1 d8 74 (i6 N) ?_; intro kR ed
     obtain ⟨hU, ee⟩ := hN
     refine ix_ ed a4 N hU .i64 46 72 ?_; intro hV hW hX f kS hY bR h1 ef
     have bS := ee f hY
     obtain rfl : hX = ((e46Md f) : List Value) := h1
     refine z2 ef d5 76 bR 0 9 (e46Md f) rfl ?_; intro kT eg
     refine nw eg d5 pb [str [], i6 0, i6 0, .bool false, .bool false, i6 0, i6 0, i6 0, i6 0] 46 ?_; intro ak kU kV eh ei
     refine s1 eh 15 (i6 N) ?_; intro kW cx
     refine sx cx ei 0 (e46Md f) 0 ?_; intro h2 ej
     have aR : Mem w.heap.size [] w Z [.row ak (e46Md f) 46, .row y [.map (some u)] 63, .map (fun x : List UInt8 => str x) (fun x : Reading => .agg (e37Md x).toArray) u h, .row q [i6 0, .bool false, .bool false, .bool false, i6 0, .slice none 0 0] 27, .row p (e24Md u0 ao1 cap2) 24, .own t8 5 (sm l) u0.Size.toNat E, .row n [i6 u0.ID, .bool u0.Long, .bool false, .bool false, i6 0, .slice (sm l) E.length u0.Size.toNat] 27] Q h2 := ej
     apply ec
     refine s_ (sqH ?_); intro ek bT
     refine bt cx aR 5 [4] [] [(81, .bool (N == u0.Chooser))] ?_; intro kX bU
     refine e_ bS (fun bk h3 => ?_) fun bk h4 => ?_
     ·
      have el := bU.reval (d := 81) (c := []) (v := .bool (N == u0.Chooser)) (by kernel_rfl) (.bool true) (by rw [bk])
      refine bt el aR 7 [] [82, 83, 84, 85, 86, 87, 88] [(88, .bool true)] ?_; intro kY em
      apply bT
      refine cdT em (by kernel_rfl) ?_
      exact x_ (y_ (z_ (d_ (cw h E Q ⟨h3, bj⟩ _ _ ((em.reg).anyβ _ (by kernel_rfl)) (aR.kp)))))
     have en := bU.reval (d := 81) (c := []) (v := .bool (N == u0.Chooser)) (by kernel_rfl) (.bool false) (by rw [bk])
     refine bt en aR 4 [4, 0, 6] [82, 83, 84, 85] [(82, .agg (e24Md u0 ao1 cap2).toArray), (83, .agg (e46Md f).toArray), (85, .slice (sm l) E.length u0.Size.toNat)] ?_; intro kZ cy
     obtain ⟨h5, bV⟩ := h4
     refine fcl cy aR (.bool (mthereS u0 f E)) 23 #[.agg (e24Md u0 ao1 cap2).toArray, .agg (e46Md f).toArray, .slice (sm l) E.length u0.Size.toNat] (wK cy false) rfl (by kernel_rfl) (fun _ => by kernel_rfl) ((by obtain ⟨Z9, h6, h7, h8⟩ := aR.lend 5 rfl; exact mthere_fun u0 f E h5 ao1 cap2 (sm l) u0.Size.toNat _ _ (SlR.mono a4 h6) h8 h7)) ?_; intro k0 k1 eo bl
     refine bt eo bl 2 [] [87, 88] [(88, .bool (!(mthereS u0 f E)))] ?_; intro k2 bW
     apply bT
     refine c_ bW bV (fun _ h9 => ?_) fun _ bX => ?_
     ·
      exact x_ (y_ (z_ (d_ (cw h E Q ⟨h9, bj⟩ _ _ ((bW.reg).anyβ _ (by kernel_rfl)) (bl.kp)))))
     refine k_ (sqH ?_); intro ep bY
     refine bt bW bl 2 [0] [] [(89, .func (.func 35) #[] #[pt y 0, pt n 0]), (90, .agg (e46Md f).toArray)] ?_; intro k3 cA
     refine ck cA 35 #[.agg (e46Md f).toArray, pt y 0, pt n 0] ?_
     refine enter0 Tryz.func35 rfl rfl (by kernel_rfl) ?_; intro ia eq
     have er : Fr 38 [] [⟨0, [], .agg (e46Md f).toArray⟩, ⟨1, [], pt y 0⟩, ⟨2, [], pt n 0⟩] ia := eq.reg
     refine sqH ?_; intro ib es
     refine nw er bl pb (e46Md f) 46 ?_; intro aa k4 k5 eu bm
     refine s1 eu 4 (i6 0) ?_; intro k6 ev
     apply es
     refine sqH ?_; intro ic ew
     refine bt ev bm 3 [2, 0] [] [(10, .map (some u)), (12, str f.Name)] ?_; intro k7 ex
     refine lkO ex bm 3 (m := h) f.Name ((⟨[], 0, 0⟩ : Reading) : Reading) (t := 63) (kt := 9) (et := 37) (nog rfl _) rfl (by kernel_rfl) rfl (by kernel_rfl) (by kernel_rfl) rfl (MKey.str (by kernel_rfl)) (by kernel_rfl) (by kernel_rfl) ?_; intro k8 ey
     refine bt ey bm 3 [] [] [(14, .agg (e37Md ((mget h f.Name).getD ((⟨[], 0, 0⟩ : Reading) : Reading))).toArray), (15, .bool (mget h f.Name).isSome)] ?_; intro k9 ez
     refine nw ez bm pb [str [], i6 0, i6 0] 37 ?_; intro aG la lb cB eA
     refine sx cB eA 0 (e37Md ((mget h f.Name).getD ((⟨[], 0, 0⟩ : Reading) : Reading))) 0 ?_; intro eB eC
     refine s1 cB 6 (.bool (mget h f.Name).isSome) ?_; intro lc eD
     have aS : Mem w.heap.size [] w Z [.row aG (e37Md ((mget h f.Name).getD ((⟨[], 0, 0⟩ : Reading) : Reading))) 37, .row aa (e46Md f) 46, .row ak (e46Md f) 46, .row y [.map (some u)] 63, .map (fun x : List UInt8 => str x) (fun x : Reading => .agg (e37Md x).toArray) u h, .row q [i6 0, .bool false, .bool false, .bool false, i6 0, .slice none 0 0] 27, .row p (e24Md u0 ao1 cap2) 24, .own t8 5 (sm l) u0.Size.toNat E, .row n [i6 u0.ID, .bool u0.Long, .bool false, .bool false, i6 0, .slice (sm l) E.length u0.Size.toNat] 27] Q eB := eC
     apply ew
     refine s_ (sqB eD aS [] [] [(17, .bool (!(mget h f.Name).isSome))] ?_); intro ld bn
     refine c_ bn bX (fun _ id => ?_) fun _ ih => ?_
     ·
      refine sqB bn aS [] [] [(4, i6 14)] ?_; intro lf eE
      refine r_ (h_ (ra1 eE (i6 14) ?_))
      refine ⟨_, rfl, ?_⟩; intro lg eF
      refine s1 eF 17 (i6 14) ?_; intro lh eG
      have bZ : Mem w.heap.size [] w Z [.row aG (e37Md ((mget h f.Name).getD ((⟨[], 0, 0⟩ : Reading) : Reading))) 37, .row aa (e46Md f) 46, .row ak (e46Md f) 46, .row y [.map (some u)] 63, .map (fun x : List UInt8 => str x) (fun x : Reading => .agg (e37Md x).toArray) u h, .row q [i6 0, .bool false, .bool false, .bool false, i6 0, .slice none 0 0] 27, .row p (e24Md u0 ao1 cap2) 24, .own t8 5 (sm l) u0.Size.toNat E, .row n [i6 u0.ID, .bool u0.Long, .bool false, .bool false, i6 0, .slice (sm l) E.length u0.Size.toNat] 27] Q eB := aS
      apply bY
      refine sqB eG bZ [] [] [(93, .bool true)] ?_; intro li cD
      refine cdT cD (by kernel_rfl) ?_
      refine sqH ?_; intro ie eH
      refine bt cD bZ 2 [] [] [(94, .agg #[i6 0, .bool false, .bool false, .bool false, i6 0, .slice none 0 0]), (95, i6 14)] ?_; intro lj cE
      refine sx cE bZ 5 [i6 0, .bool false, .bool false, .bool false, i6 0, .slice none 0 0] 0 ?_; intro ig eI
      refine s1 cE 5 (i6 14) ?_; intro lk eJ
      have eK : Mem w.heap.size [] w Z [.row aG (e37Md ((mget h f.Name).getD ((⟨[], 0, 0⟩ : Reading) : Reading))) 37, .row aa (e46Md f) 46, .row ak (e46Md f) 46, .row y [.map (some u)] 63, .map (fun x : List UInt8 => str x) (fun x : Reading => .agg (e37Md x).toArray) u h, .row q [i6 0, .bool false, .bool false, .bool false, i6 0, .slice none 0 0] 27, .row p (e24Md u0 ao1 cap2) 24, .own t8 5 (sm l) u0.Size.toNat E, .row n [i6 u0.ID, .bool u0.Long, .bool false, .bool false, i6 0, .slice (sm l) E.length u0.Size.toNat] 27] Q ig := eI
      apply eH
      refine r_ (i_ (h_ (h_ (i_ (h_ (rt (fn := Tryz.f12) (v := .tuple #[.agg #[i6 0, .bool false, .bool false, .bool false, i6 0, .slice none 0 0], i6 14]) eJ (re2c eJ (fn := Tryz.f12) rfl (ad := ⟨q, 0, none⟩) (by kernel_rfl) (loadVar_run eK 5 (b := q) (k := 6) (vs := [i6 0, .bool false, .bool false, .bool false, i6 0, .slice none 0 0]) (ty := 27) rfl (by kernel_rfl) (by kernel_rfl)) (by kernel_rfl)) ?_))))))
      exact ⟨((⟨0, false, false, false, 0, []⟩ : Frame), 14), none, 0, Q, rfl, id, (SlR.nil _ _), eK.kp⟩
     refine k_ (sqH ?_); intro ii eL
     refine bt bn aS 3 [3, 1] [] [(18, .map (some u)), (20, str f.Name)] ?_; intro ll cF
     refine mdl cF aS 4 (m := h) f.Name (t := 63) (kt := 9) (et := 37) (nog rfl _) rfl rfl (by kernel_rfl) (by kernel_rfl) rfl (MKey.str (by kernel_rfl)) (by kernel_rfl) ?_; intro ij eM
     have b0 : Mem w.heap.size [] w Z [.row aG (e37Md ((mget h f.Name).getD ((⟨[], 0, 0⟩ : Reading) : Reading))) 37, .row aa (e46Md f) 46, .row ak (e46Md f) 46, .row y [.map (some u)] 63, .map (fun x : List UInt8 => str x) (fun x : Reading => .agg (e37Md x).toArray) u (mdel h f.Name), .row q [i6 0, .bool false, .bool false, .bool false, i6 0, .slice none 0 0] 27, .row p (e24Md u0 ao1 cap2) 24, .own t8 5 (sm l) u0.Size.toNat E, .row n [i6 u0.ID, .bool u0.Long, .bool false, .bool false, i6 0, .slice (sm l) E.length u0.Size.toNat] 27] Q ij := eM
     apply eL
     refine sqH ?_; intro ik eN
     refine bt cF b0 5 [1, 0, 0] [] [(22, .agg (e46Md f).toArray), (24, i6 ((mget h f.Name).getD ((⟨[], 0, 0⟩ : Reading) : Reading)).Num), (26, i6 ((mget h f.Name).getD ((⟨[], 0, 0⟩ : Reading) : Reading)).Den)] ?_; intro lm eO
     refine fc eO b0 (sraw_fun f ((mget h f.Name).getD ((⟨[], 0, 0⟩ : Reading) : Reading)).Num ((mget h f.Name).getD ((⟨[], 0, 0⟩ : Reading) : Reading)).Den _ _ b0.fz) ?_; intro ln lo eP aM
     refine bt eP aM 5 [] [] [(7, i6 (rawS f ((mget h f.Name).getD ((⟨[], 0, 0⟩ : Reading) : Reading)).Num ((mget h f.Name).getD ((⟨[], 0, 0⟩ : Reading) : Reading)).Den).1), (8, i6 (rawS f ((mget h f.Name).getD ((⟨[], 0, 0⟩ : Reading) : Reading)).Num ((mget h f.Name).getD ((⟨[], 0, 0⟩ : Reading) : Reading)).Den).2)] ?_; intro lq eQ
     apply eN
     refine s_ (sqB eQ aM [] [] [(31, .bool ((rawS f ((mget h f.Name).getD ((⟨[], 0, 0⟩ : Reading) : Reading)).Num ((mget h f.Name).getD ((⟨[], 0, 0⟩ : Reading) : Reading)).Den).2 == 0))] ?_); intro eR eS
     have eT : Fr 38 [] [⟨2, [], pt n 0⟩, ⟨3, [], pt aa 0⟩, ⟨7, [], i6 (rawS f ((mget h f.Name).getD ((⟨[], 0, 0⟩ : Reading) : Reading)).Num ((mget h f.Name).getD ((⟨[], 0, 0⟩ : Reading) : Reading)).Den).1⟩, ⟨8, [], i6 (rawS f ((mget h f.Name).getD ((⟨[], 0, 0⟩ : Reading) : Reading)).Num ((mget h f.Name).getD ((⟨[], 0, 0⟩ : Reading) : Reading)).Den).2⟩, ⟨31, [], .bool ((rawS f ((mget h f.Name).getD ((⟨[], 0, 0⟩ : Reading) : Reading)).Num ((mget h f.Name).getD ((⟨[], 0, 0⟩ : Reading) : Reading)).Den).2 == 0)⟩] eR := eS.reg
     obtain ⟨il, b1, im⟩ := ih
     refine wp_then_k fun KJ526 hKJ527 => ?_
     have eU : ∀ (U : List Int) (aT : Fz), il U ∧ U.length = E.length ∧ Fz.le Q aT → ∀ a1 L, Fr 38 [] [⟨8, [], i6 (rawS f ((mget h f.Name).getD ((⟨[], 0, 0⟩ : Reading) : Reading)).Num ((mget h f.Name).getD ((⟨[], 0, 0⟩ : Reading) : Reading)).Den).2⟩] a1 → Mem w.heap.size [] w Z [.row aG (e37Md ((mget h f.Name).getD ((⟨[], 0, 0⟩ : Reading) : Reading))) 37, .row aa (e46Md f) 46, .row ak (e46Md f) 46, .row y [.map (some u)] 63, .map (fun x : List UInt8 => str x) (fun x : Reading => .agg (e37Md x).toArray) u (mdel h f.Name), .row q [i6 0, .bool false, .bool false, .bool false, i6 0, .slice none 0 0] 27, .row p (e24Md u0 ao1 cap2) 24, .own t8 5 (sm l) u0.Size.toNat U, .row n [i6 u0.ID, .bool u0.Long, .bool false, .bool false, i6 0, .slice (sm l) U.length u0.Size.toNat] 27] aT L → KJ526 a1 L := by
      rintro U aT ⟨io, lr, aN⟩ ls ip eV cG
      refine hKJ527 _ _ ?_
      have b2 := im U io
      have iq := bj.mono aN
      refine sqB eV cG [] [] [(4, i6 (rawS f ((mget h f.Name).getD ((⟨[], 0, 0⟩ : Reading) : Reading)).Num ((mget h f.Name).getD ((⟨[], 0, 0⟩ : Reading) : Reading)).Den).2)] ?_; intro lz eW
      refine r_ (ra1 eW (i6 (rawS f ((mget h f.Name).getD ((⟨[], 0, 0⟩ : Reading) : Reading)).Num ((mget h f.Name).getD ((⟨[], 0, 0⟩ : Reading) : Reading)).Den).2) ?_)
      refine ⟨_, rfl, ?_⟩; intro ir eX
      have it : U.length = E.length := by first | assumption | omega | (dsimp only at *; omega) | (simp; try omega)
      have eY : Fr 102 [] [⟨2, [], pt p 0⟩, ⟨4, [], pt q 0⟩, ⟨7, [], pt n 0⟩, ⟨8, [], pt y 0⟩, ⟨13, [], .func (.func 35) #[] #[pt y 0, pt n 0]⟩, ⟨15, [], i6 N⟩, ⟨16, [], pt ak 0⟩, ⟨70, [], .slice ao1 u0.Signals.length cap2⟩, ⟨71, [], i6 (u0.Signals.length : Int)⟩, ⟨72, [], i6 N⟩, ⟨74, [], i6 N⟩, ⟨75, [], pt hV hW⟩, ⟨76, [], .agg (e46Md f).toArray⟩, ⟨81, [], .bool false⟩, ⟨82, [], .agg (e24Md u0 ao1 cap2).toArray⟩, ⟨83, [], .agg (e46Md f).toArray⟩, ⟨85, [], .slice (sm l) U.length u0.Size.toNat⟩, ⟨86, [], .bool (mthereS u0 f E)⟩, ⟨88, [], .bool (!(mthereS u0 f E))⟩, ⟨89, [], .func (.func 35) #[] #[pt y 0, pt n 0]⟩, ⟨90, [], .agg (e46Md f).toArray⟩, ⟨91, [], i6 (rawS f ((mget h f.Name).getD ((⟨[], 0, 0⟩ : Reading) : Reading)).Num ((mget h f.Name).getD ((⟨[], 0, 0⟩ : Reading) : Reading)).Den).2⟩] ir := by rw [it]; exact eX.reg
      refine s1 eY 17 (i6 (rawS f ((mget h f.Name).getD ((⟨[], 0, 0⟩ : Reading) : Reading)).Num ((mget h f.Name).getD ((⟨[], 0, 0⟩ : Reading) : Reading)).Den).2) ?_; intro lA eZ
      have bp : Mem w.heap.size [] w Z [.row aG (e37Md ((mget h f.Name).getD ((⟨[], 0, 0⟩ : Reading) : Reading))) 37, .row aa (e46Md f) 46, .row ak (e46Md f) 46, .row y [.map (some u)] 63, .map (fun x : List UInt8 => str x) (fun x : Reading => .agg (e37Md x).toArray) u (mdel h f.Name), .row q [i6 0, .bool false, .bool false, .bool false, i6 0, .slice none 0 0] 27, .row p (e24Md u0 ao1 cap2) 24, .own t8 5 (sm l) u0.Size.toNat U, .row n [i6 u0.ID, .bool u0.Long, .bool false, .bool false, i6 0, .slice (sm l) U.length u0.Size.toNat] 27] aT ip := cG
      apply bY
      refine sqB eZ bp [] [] [(93, .bool ((rawS f ((mget h f.Name).getD ((⟨[], 0, 0⟩ : Reading) : Reading)).Num ((mget h f.Name).getD ((⟨[], 0, 0⟩ : Reading) : Reading)).Den).2 != 0))] ?_; intro lB b3
      refine c_ b3 b2 (fun _ iu => ?_) fun _ iy => ?_
      ·
       refine sqH ?_; intro iv e0
       refine bt b3 bp 2 [] [] [(94, .agg #[i6 0, .bool false, .bool false, .bool false, i6 0, .slice none 0 0]), (95, i6 (rawS f ((mget h f.Name).getD ((⟨[], 0, 0⟩ : Reading) : Reading)).Num ((mget h f.Name).getD ((⟨[], 0, 0⟩ : Reading) : Reading)).Den).2)] ?_; intro lC cI
       refine sx cI bp 5 [i6 0, .bool false, .bool false, .bool false, i6 0, .slice none 0 0] 0 ?_; intro iw e1
       refine s1 cI 5 (i6 (rawS f ((mget h f.Name).getD ((⟨[], 0, 0⟩ : Reading) : Reading)).Num ((mget h f.Name).getD ((⟨[], 0, 0⟩ : Reading) : Reading)).Den).2) ?_; intro lD e2
       have e3 : Mem w.heap.size [] w Z [.row aG (e37Md ((mget h f.Name).getD ((⟨[], 0, 0⟩ : Reading) : Reading))) 37, .row aa (e46Md f) 46, .row ak (e46Md f) 46, .row y [.map (some u)] 63, .map (fun x : List UInt8 => str x) (fun x : Reading => .agg (e37Md x).toArray) u (mdel h f.Name), .row q [i6 0, .bool false, .bool false, .bool false, i6 0, .slice none 0 0] 27, .row p (e24Md u0 ao1 cap2) 24, .own t8 5 (sm l) u0.Size.toNat U, .row n [i6 u0.ID, .bool u0.Long, .bool false, .bool false, i6 0, .slice (sm l) U.length u0.Size.toNat] 27] aT iw := e1
       apply e0
       refine r_ (i_ (h_ (h_ (i_ (h_ (rt (fn := Tryz.f12) (v := .tuple #[.agg #[i6 0, .bool false, .bool false, .bool false, i6 0, .slice none 0 0], i6 (rawS f ((mget h f.Name).getD ((⟨[], 0, 0⟩ : Reading) : Reading)).Num ((mget h f.Name).getD ((⟨[], 0, 0⟩ : Reading) : Reading)).Den).2]) e2 (re2c e2 (fn := Tryz.f12) rfl (ad := ⟨q, 0, none⟩) (by kernel_rfl) (loadVar_run e3 5 (b := q) (k := 6) (vs := [i6 0, .bool false, .bool false, .bool false, i6 0, .slice none 0 0]) (ty := 27) rfl (by kernel_rfl) (by kernel_rfl)) (by kernel_rfl)) ?_))))))
       exact ⟨((⟨0, false, false, false, 0, []⟩ : Frame), (rawS f ((mget h f.Name).getD ((⟨[], 0, 0⟩ : Reading) : Reading)).Num ((mget h f.Name).getD ((⟨[], 0, 0⟩ : Reading) : Reading)).Den).2), none, 0, aT, rfl, iu, (SlR.nil _ _), e3.kp⟩
      exact l_ (j_ (d_ (cw (mdel h f.Name) U aT ⟨iy, iq⟩ _ _ ((b3.reg).anyβ _ (by kernel_rfl)) (bp.kp))))
     have b4 := Fz.le.refl Q
     refine c_ eT b1 (fun _ iz => ?_) fun _ iI => ?_
     ·
      refine rgH ?_; intro iA e4
      refine bt eT aM 4 [1, 8] [] [(32, .agg (e46Md f).toArray), (34, .slice (sm l) E.length u0.Size.toNat), (35, i6 (rawS f ((mget h f.Name).getD ((⟨[], 0, 0⟩ : Reading) : Reading)).Num ((mget h f.Name).getD ((⟨[], 0, 0⟩ : Reading) : Reading)).Den).1)] ?_; intro lE e5
      obtain ⟨iB, e6⟩ := iz
      refine ck e5 37 #[.agg (e46Md f).toArray, .slice (sm l) E.length u0.Size.toNat, i6 (rawS f ((mget h f.Name).getD ((⟨[], 0, 0⟩ : Reading) : Reading)).Num ((mget h f.Name).getD ((⟨[], 0, 0⟩ : Reading) : Reading)).Den).1] ?_
      refine (sputd_fun f E (rawS f ((mget h f.Name).getD ((⟨[], 0, 0⟩ : Reading) : Reading)).Num ((mget h f.Name).getD ((⟨[], 0, 0⟩ : Reading) : Reading)).Den).1 iB (sm l) u0.Size.toNat _ _ _ _ _ _ (aM.perm (pk 7 rfl)) aM.fz).mono ?_; rintro _ e7 ⟨cK, rfl, aH, iC, hm⟩; refine ⟨_, rfl, ?_⟩; intro iD e8; have e9 := hm
      replace b4 := b4.mono aH
      have iE : Fr 38 [] [⟨2, [], pt n 0⟩, ⟨3, [], pt aa 0⟩, ⟨7, [], i6 (rawS f ((mget h f.Name).getD ((⟨[], 0, 0⟩ : Reading) : Reading)).Num ((mget h f.Name).getD ((⟨[], 0, 0⟩ : Reading) : Reading)).Den).1⟩, ⟨8, [], i6 (rawS f ((mget h f.Name).getD ((⟨[], 0, 0⟩ : Reading) : Reading)).Num ((mget h f.Name).getD ((⟨[], 0, 0⟩ : Reading) : Reading)).Den).2⟩, ⟨31, [], .bool ((rawS f ((mget h f.Name).getD ((⟨[], 0, 0⟩ : Reading) : Reading)).Num ((mget h f.Name).getD ((⟨[], 0, 0⟩ : Reading) : Reading)).Den).2 == 0)⟩, ⟨32, [], .agg (e46Md f).toArray⟩, ⟨34, [], .slice (sm l) (putS f E (rawS f ((mget h f.Name).getD ((⟨[], 0, 0⟩ : Reading) : Reading)).Num ((mget h f.Name).getD ((⟨[], 0, 0⟩ : Reading) : Reading)).Den).1).length u0.Size.toNat⟩, ⟨35, [], i6 (rawS f ((mget h f.Name).getD ((⟨[], 0, 0⟩ : Reading) : Reading)).Num ((mget h f.Name).getD ((⟨[], 0, 0⟩ : Reading) : Reading)).Den).1⟩, ⟨36, [], .tuple #[]⟩] iD := by rw [iC]; exact e8.reg
      have iF : (putS f E (rawS f ((mget h f.Name).getD ((⟨[], 0, 0⟩ : Reading) : Reading)).Num ((mget h f.Name).getD ((⟨[], 0, 0⟩ : Reading) : Reading)).Den).1).length = E.length := by first | assumption | (simp; try omega)
      have fa : Mem w.heap.size [] w Z [.own t8 5 (sm l) u0.Size.toNat (putS f E (rawS f ((mget h f.Name).getD ((⟨[], 0, 0⟩ : Reading) : Reading)).Num ((mget h f.Name).getD ((⟨[], 0, 0⟩ : Reading) : Reading)).Den).1), .row aG (e37Md ((mget h f.Name).getD ((⟨[], 0, 0⟩ : Reading) : Reading))) 37, .row aa (e46Md f) 46, .row ak (e46Md f) 46, .row y [.map (some u)] 63, .map (fun x : List UInt8 => str x) (fun x : Reading => .agg (e37Md x).toArray) u (mdel h f.Name), .row q [i6 0, .bool false, .bool false, .bool false, i6 0, .slice none 0 0] 27, .row p (e24Md u0 ao1 cap2) 24, .row n [i6 u0.ID, .bool u0.Long, .bool false, .bool false, i6 0, .slice (sm l) (putS f E (rawS f ((mget h f.Name).getD ((⟨[], 0, 0⟩ : Reading) : Reading)).Num ((mget h f.Name).getD ((⟨[], 0, 0⟩ : Reading) : Reading)).Den).1).length u0.Size.toNat] 27] cK e7 := by rw [iF]; exact e9
      have fb : Mem w.heap.size [] w Z [.own t8 5 (sm l) u0.Size.toNat (putS f E (rawS f ((mget h f.Name).getD ((⟨[], 0, 0⟩ : Reading) : Reading)).Num ((mget h f.Name).getD ((⟨[], 0, 0⟩ : Reading) : Reading)).Den).1), .row aG (e37Md ((mget h f.Name).getD ((⟨[], 0, 0⟩ : Reading) : Reading))) 37, .row aa (e46Md f) 46, .row ak (e46Md f) 46, .row y [.map (some u)] 63, .map (fun x : List UInt8 => str x) (fun x : Reading => .agg (e37Md x).toArray) u (mdel h f.Name), .row q [i6 0, .bool false, .bool false, .bool false, i6 0, .slice none 0 0] 27, .row p (e24Md u0 ao1 cap2) 24, .row n [i6 u0.ID, .bool u0.Long, .bool false, .bool false, i6 0, .slice (sm l) (putS f E (rawS f ((mget h f.Name).getD ((⟨[], 0, 0⟩ : Reading) : Reading)).Num ((mget h f.Name).getD ((⟨[], 0, 0⟩ : Reading) : Reading)).Den).1).length u0.Size.toNat] 27] cK e7 := fa
      have iG := e6 (fb.ownSmall 0 rfl)
      apply e4
      apply d_
      have iH := fb.perm ((pk 1 rfl).trans (((pk 1 rfl).trans (((pk 1 rfl).trans (((pk 1 rfl).trans (((pk 1 rfl).trans (((pk 1 rfl).trans (((pk 1 rfl).trans (lpr.cons _)).cons _)).cons _)).cons _)).cons _)).cons _)).cons _))
      exact eU (putS f E (rawS f ((mget h f.Name).getD ((⟨[], 0, 0⟩ : Reading) : Reading)).Num ((mget h f.Name).getD ((⟨[], 0, 0⟩ : Reading) : Reading)).Den).1) cK ⟨iG, (by first | rfl | assumption | omega | (dsimp only at *; omega) | (simp; try omega)), b4⟩ _ _ ((iE.reg).anyβ _ (by kernel_rfl)) (iH.kp)
     exact l_ (d_ (eU E Q ⟨iI, (by first | rfl | assumption | omega | (dsimp only at *; omega) | (simp; try omega)), b4⟩ _ _ ((eT.reg).anyβ _ (by kernel_rfl)) (aM.kp)))
    exact x_ (y_ (y_ (z_ (d_ (hn h E Q ⟨iJ, bh⟩ _ _ ((bP.reg).anyβ _ (by kernel_rfl)) (d5.kp))))))
   have b5 := Fz.le.refl Z
   refine c_ dD bI (fun _ iK => ?_) fun _ jj => ?_
   ·
    refine sqH ?_; intro fd b6
    refine bt dD aL 5 [3, 3] [] [(57, .func (.func 35) #[] #[pt y 0, pt n 0]), (59, .slice ao1 u0.Signals.length cap2), (61, i6 u0.Chooser)] ?_; intro lF fe
    obtain ⟨iL, fg⟩ := iK
    refine ix_ fe bb u0.Chooser iL .i64 46 72 ?_; intro lG lH iM g lI iN b7 iO fh
    have b8 := fg g iN
    obtain rfl : iM = ((e46Md g) : List Value) := iO
    refine z2 fh aL 63 b7 0 9 (e46Md g) rfl ?_; intro lJ cM
    refine ck cM 35 #[.agg (e46Md g).toArray, pt y 0, pt n 0] ?_
    refine enter0 Tryz.func35 rfl rfl (by kernel_rfl) ?_; intro iP fi
    have fj : Fr 38 [] [⟨0, [], .agg (e46Md g).toArray⟩, ⟨1, [], pt y 0⟩, ⟨2, [], pt n 0⟩] iP := fi.reg
    refine sqH ?_; intro iQ fk
    refine nw fj aL pb (e46Md g) 46 ?_; intro ab lK lL fl bq
    refine s1 fl 4 (i6 0) ?_; intro lM fm
    apply fk
    refine sqH ?_; intro iR fo
    refine bt fm bq 3 [1, 0] [] [(10, .map (some u)), (12, str g.Name)] ?_; intro lN fp
    refine lkO fp bq 2 (m := j) g.Name ((⟨[], 0, 0⟩ : Reading) : Reading) (t := 63) (kt := 9) (et := 37) (nog rfl _) rfl (by kernel_rfl) rfl (by kernel_rfl) (by kernel_rfl) rfl (MKey.str (by kernel_rfl)) (by kernel_rfl) (by kernel_rfl) ?_; intro lO fq
    refine bt fq bq 3 [] [] [(14, .agg (e37Md ((mget j g.Name).getD ((⟨[], 0, 0⟩ : Reading) : Reading))).toArray), (15, .bool (mget j g.Name).isSome)] ?_; intro lP fr
    refine nw fr bq pb [str [], i6 0, i6 0] 37 ?_; intro aI lQ lR cN fs
    refine sx cN fs 0 (e37Md ((mget j g.Name).getD ((⟨[], 0, 0⟩ : Reading) : Reading))) 0 ?_; intro ft fu
    refine s1 cN 6 (.bool (mget j g.Name).isSome) ?_; intro lS fv
    have aU : Mem w.heap.size [] w Z [.row aI (e37Md ((mget j g.Name).getD ((⟨[], 0, 0⟩ : Reading) : Reading))) 37, .row ab (e46Md g) 46, .row y [.map (some u)] 63, .map (fun x : List UInt8 => str x) (fun x : Reading => .agg (e37Md x).toArray) u j, .row q [i6 0, .bool false, .bool false, .bool false, i6 0, .slice none 0 0] 27, .row p (e24Md u0 ao1 cap2) 24, .own t8 5 (sm l) u0.Size.toNat (List.replicate u0.Size.toNat (0 : Int)), .row n [i6 u0.ID, .bool u0.Long, .bool false, .bool false, i6 0, .slice (sm l) (List.replicate u0.Size.toNat (0 : Int)).length u0.Size.toNat] 27] Z ft := fu
    apply fo
    refine s_ (sqB fv aU [] [] [(17, .bool (!(mget j g.Name).isSome))] ?_); intro lT br
    refine c_ br b8 (fun _ iS => ?_) fun _ iV => ?_
    ·
     refine sqB br aU [] [] [(4, i6 14)] ?_; intro lU fw
     refine r_ (h_ (ra1 fw (i6 14) ?_))
     refine ⟨_, rfl, ?_⟩; intro lV fx
     refine s1 fx 14 (i6 14) ?_; intro lW fy
     have b9 : Mem w.heap.size [] w Z [.row aI (e37Md ((mget j g.Name).getD ((⟨[], 0, 0⟩ : Reading) : Reading))) 37, .row ab (e46Md g) 46, .row y [.map (some u)] 63, .map (fun x : List UInt8 => str x) (fun x : Reading => .agg (e37Md x).toArray) u j, .row q [i6 0, .bool false, .bool false, .bool false, i6 0, .slice none 0 0] 27, .row p (e24Md u0 ao1 cap2) 24, .own t8 5 (sm l) u0.Size.toNat (List.replicate u0.Size.toNat (0 : Int)), .row n [i6 u0.ID, .bool u0.Long, .bool false, .bool false, i6 0, .slice (sm l) (List.replicate u0.Size.toNat (0 : Int)).length u0.Size.toNat] 27] Z ft := aU
     apply b6
     refine sqB fy b9 [] [] [(66, .bool true)] ?_; intro lX cP
     refine cdT cP (by kernel_rfl) ?_
     refine sqH ?_; intro iT fA
     refine bt cP b9 2 [] [] [(67, .agg #[i6 0, .bool false, .bool false, .bool false, i6 0, .slice none 0 0]), (68, i6 14)] ?_; intro lY cQ
     refine sx cQ b9 4 [i6 0, .bool false, .bool false, .bool false, i6 0, .slice none 0 0] 0 ?_; intro iU fB
     refine s1 cQ 5 (i6 14) ?_; intro lZ fC
     have fD : Mem w.heap.size [] w Z [.row aI (e37Md ((mget j g.Name).getD ((⟨[], 0, 0⟩ : Reading) : Reading))) 37, .row ab (e46Md g) 46, .row y [.map (some u)] 63, .map (fun x : List UInt8 => str x) (fun x : Reading => .agg (e37Md x).toArray) u j, .row q [i6 0, .bool false, .bool false, .bool false, i6 0, .slice none 0 0] 27, .row p (e24Md u0 ao1 cap2) 24, .own t8 5 (sm l) u0.Size.toNat (List.replicate u0.Size.toNat (0 : Int)), .row n [i6 u0.ID, .bool u0.Long, .bool false, .bool false, i6 0, .slice (sm l) (List.replicate u0.Size.toNat (0 : Int)).length u0.Size.toNat] 27] Z iU := fB
     apply fA
     refine r_ (h_ (rt (fn := Tryz.f12) (v := .tuple #[.agg #[i6 0, .bool false, .bool false, .bool false, i6 0, .slice none 0 0], i6 14]) fC (re2c fC (fn := Tryz.f12) rfl (ad := ⟨q, 0, none⟩) (by kernel_rfl) (loadVar_run fD 4 (b := q) (k := 6) (vs := [i6 0, .bool false, .bool false, .bool false, i6 0, .slice none 0 0]) (ty := 27) rfl (by kernel_rfl) (by kernel_rfl)) (by kernel_rfl)) ?_))
     exact ⟨((⟨0, false, false, false, 0, []⟩ : Frame), 14), none, 0, Z, rfl, iS, (SlR.nil _ _), fD.kp⟩
    refine k_ (sqH ?_); intro iW fE
    refine bt br aU 3 [2, 1] [] [(18, .map (some u)), (20, str g.Name)] ?_; intro l0 cR
    refine mdl cR aU 3 (m := j) g.Name (t := 63) (kt := 9) (et := 37) (nog rfl _) rfl rfl (by kernel_rfl) (by kernel_rfl) rfl (MKey.str (by kernel_rfl)) (by kernel_rfl) ?_; intro iX fF
    have ca : Mem w.heap.size [] w Z [.row aI (e37Md ((mget j g.Name).getD ((⟨[], 0, 0⟩ : Reading) : Reading))) 37, .row ab (e46Md g) 46, .row y [.map (some u)] 63, .map (fun x : List UInt8 => str x) (fun x : Reading => .agg (e37Md x).toArray) u (mdel j g.Name), .row q [i6 0, .bool false, .bool false, .bool false, i6 0, .slice none 0 0] 27, .row p (e24Md u0 ao1 cap2) 24, .own t8 5 (sm l) u0.Size.toNat (List.replicate u0.Size.toNat (0 : Int)), .row n [i6 u0.ID, .bool u0.Long, .bool false, .bool false, i6 0, .slice (sm l) (List.replicate u0.Size.toNat (0 : Int)).length u0.Size.toNat] 27] Z iX := fF
    apply fE
    refine sqH ?_; intro iY fG
    refine bt cR ca 5 [1, 0, 0] [] [(22, .agg (e46Md g).toArray), (24, i6 ((mget j g.Name).getD ((⟨[], 0, 0⟩ : Reading) : Reading)).Num), (26, i6 ((mget j g.Name).getD ((⟨[], 0, 0⟩ : Reading) : Reading)).Den)] ?_; intro l3 fH
    refine fc fH ca (sraw_fun g ((mget j g.Name).getD ((⟨[], 0, 0⟩ : Reading) : Reading)).Num ((mget j g.Name).getD ((⟨[], 0, 0⟩ : Reading) : Reading)).Den _ _ ca.fz) ?_; intro l4 l5 fI aO
    refine bt fI aO 5 [] [] [(7, i6 (rawS g ((mget j g.Name).getD ((⟨[], 0, 0⟩ : Reading) : Reading)).Num ((mget j g.Name).getD ((⟨[], 0, 0⟩ : Reading) : Reading)).Den).1), (8, i6 (rawS g ((mget j g.Name).getD ((⟨[], 0, 0⟩ : Reading) : Reading)).Num ((mget j g.Name).getD ((⟨[], 0, 0⟩ : Reading) : Reading)).Den).2)] ?_; intro l6 fJ
    apply fG
    refine s_ (sqB fJ aO [] [] [(31, .bool ((rawS g ((mget j g.Name).getD ((⟨[], 0, 0⟩ : Reading) : Reading)).Num ((mget j g.Name).getD ((⟨[], 0, 0⟩ : Reading) : Reading)).Den).2 == 0))] ?_); intro fK fL
    have fM : Fr 38 [] [⟨2, [], pt n 0⟩, ⟨3, [], pt ab 0⟩, ⟨7, [], i6 (rawS g ((mget j g.Name).getD ((⟨[], 0, 0⟩ : Reading) : Reading)).Num ((mget j g.Name).getD ((⟨[], 0, 0⟩ : Reading) : Reading)).Den).1⟩, ⟨8, [], i6 (rawS g ((mget j g.Name).getD ((⟨[], 0, 0⟩ : Reading) : Reading)).Num ((mget j g.Name).getD ((⟨[], 0, 0⟩ : Reading) : Reading)).Den).2⟩, ⟨31, [], .bool ((rawS g ((mget j g.Name).getD ((⟨[], 0, 0⟩ : Reading) : Reading)).Num ((mget j g.Name).getD ((⟨[], 0, 0⟩ : Reading) : Reading)).Den).2 == 0)⟩] fK := fL.reg
    obtain ⟨iZ, cb, i0⟩ := iV
    refine wp_then_k fun KJ741 hKJ742 => ?_
    have fN : ∀ (H : List Int) (aV : Fz), iZ H ∧ Fz.le Z aV → ∀ a1 L, Fr 38 [] [⟨8, [], i6 (rawS g ((mget j g.Name).getD ((⟨[], 0, 0⟩ : Reading) : Reading)).Num ((mget j g.Name).getD ((⟨[], 0, 0⟩ : Reading) : Reading)).Den).2⟩] a1 → Mem w.heap.size [] w Z [.row aI (e37Md ((mget j g.Name).getD ((⟨[], 0, 0⟩ : Reading) : Reading))) 37, .row ab (e46Md g) 46, .row y [.map (some u)] 63, .map (fun x : List UInt8 => str x) (fun x : Reading => .agg (e37Md x).toArray) u (mdel j g.Name), .row q [i6 0, .bool false, .bool false, .bool false, i6 0, .slice none 0 0] 27, .row p (e24Md u0 ao1 cap2) 24, .own t8 5 (sm l) u0.Size.toNat H, .row n [i6 u0.ID, .bool u0.Long, .bool false, .bool false, i6 0, .slice (sm l) H.length u0.Size.toNat] 27] aV L → KJ741 a1 L := by
     rintro H aV ⟨i1, bu⟩ l7 i2 fO cS
     refine hKJ742 _ _ ?_
     have cc := i0 H i1
     have i3 := b5.mono bu
     refine sqB fO cS [] [] [(4, i6 (rawS g ((mget j g.Name).getD ((⟨[], 0, 0⟩ : Reading) : Reading)).Num ((mget j g.Name).getD ((⟨[], 0, 0⟩ : Reading) : Reading)).Den).2)] ?_; intro mb fP
     refine r_ (ra1 fP (i6 (rawS g ((mget j g.Name).getD ((⟨[], 0, 0⟩ : Reading) : Reading)).Num ((mget j g.Name).getD ((⟨[], 0, 0⟩ : Reading) : Reading)).Den).2) ?_)
     refine ⟨_, rfl, ?_⟩; intro mc fQ
     refine s1 fQ 14 (i6 (rawS g ((mget j g.Name).getD ((⟨[], 0, 0⟩ : Reading) : Reading)).Num ((mget j g.Name).getD ((⟨[], 0, 0⟩ : Reading) : Reading)).Den).2) ?_; intro md fR
     have bv : Mem w.heap.size [] w Z [.row aI (e37Md ((mget j g.Name).getD ((⟨[], 0, 0⟩ : Reading) : Reading))) 37, .row ab (e46Md g) 46, .row y [.map (some u)] 63, .map (fun x : List UInt8 => str x) (fun x : Reading => .agg (e37Md x).toArray) u (mdel j g.Name), .row q [i6 0, .bool false, .bool false, .bool false, i6 0, .slice none 0 0] 27, .row p (e24Md u0 ao1 cap2) 24, .own t8 5 (sm l) u0.Size.toNat H, .row n [i6 u0.ID, .bool u0.Long, .bool false, .bool false, i6 0, .slice (sm l) H.length u0.Size.toNat] 27] aV i2 := cS
     apply b6
     refine sqB fR bv [] [] [(66, .bool ((rawS g ((mget j g.Name).getD ((⟨[], 0, 0⟩ : Reading) : Reading)).Num ((mget j g.Name).getD ((⟨[], 0, 0⟩ : Reading) : Reading)).Den).2 != 0))] ?_; intro me ce
     refine c_ ce cc (fun _ i4 => ?_) fun _ i8 => ?_
     ·
      refine sqH ?_; intro i5 fS
      refine bt ce bv 2 [] [] [(67, .agg #[i6 0, .bool false, .bool false, .bool false, i6 0, .slice none 0 0]), (68, i6 (rawS g ((mget j g.Name).getD ((⟨[], 0, 0⟩ : Reading) : Reading)).Num ((mget j g.Name).getD ((⟨[], 0, 0⟩ : Reading) : Reading)).Den).2)] ?_; intro mf cU
      refine sx cU bv 4 [i6 0, .bool false, .bool false, .bool false, i6 0, .slice none 0 0] 0 ?_; intro i7 fT
      refine s1 cU 5 (i6 (rawS g ((mget j g.Name).getD ((⟨[], 0, 0⟩ : Reading) : Reading)).Num ((mget j g.Name).getD ((⟨[], 0, 0⟩ : Reading) : Reading)).Den).2) ?_; intro mg fU
      have fV : Mem w.heap.size [] w Z [.row aI (e37Md ((mget j g.Name).getD ((⟨[], 0, 0⟩ : Reading) : Reading))) 37, .row ab (e46Md g) 46, .row y [.map (some u)] 63, .map (fun x : List UInt8 => str x) (fun x : Reading => .agg (e37Md x).toArray) u (mdel j g.Name), .row q [i6 0, .bool false, .bool false, .bool false, i6 0, .slice none 0 0] 27, .row p (e24Md u0 ao1 cap2) 24, .own t8 5 (sm l) u0.Size.toNat H, .row n [i6 u0.ID, .bool u0.Long, .bool false, .bool false, i6 0, .slice (sm l) H.length u0.Size.toNat] 27] aV i7 := fT
      apply fS
      refine r_ (h_ (rt (fn := Tryz.f12) (v := .tuple #[.agg #[i6 0, .bool false, .bool false, .bool false, i6 0, .slice none 0 0], i6 (rawS g ((mget j g.Name).getD ((⟨[], 0, 0⟩ : Reading) : Reading)).Num ((mget j g.Name).getD ((⟨[], 0, 0⟩ : Reading) : Reading)).Den).2]) fU (re2c fU (fn := Tryz.f12) rfl (ad := ⟨q, 0, none⟩) (by kernel_rfl) (loadVar_run fV 4 (b := q) (k := 6) (vs := [i6 0, .bool false, .bool false, .bool false, i6 0, .slice none 0 0]) (ty := 27) rfl (by kernel_rfl) (by kernel_rfl)) (by kernel_rfl)) ?_))
      exact ⟨((⟨0, false, false, false, 0, []⟩ : Frame), (rawS g ((mget j g.Name).getD ((⟨[], 0, 0⟩ : Reading) : Reading)).Num ((mget j g.Name).getD ((⟨[], 0, 0⟩ : Reading) : Reading)).Den).2), none, 0, aV, rfl, i4, (SlR.nil _ _), fV.kp⟩
     exact l_ (d_ (dE (mdel j g.Name) H aV ⟨i8, i3⟩ _ _ ((ce.reg).anyβ _ (by kernel_rfl)) (bv.kp)))
    have cf := Fz.le.refl Z
    refine c_ fM cb (fun _ i9 => ?_) fun _ ji => ?_
    ·
     refine rgH ?_; intro ja fW
     refine bt fM aO 4 [1, 7] [] [(32, .agg (e46Md g).toArray), (34, .slice (sm l) (List.replicate u0.Size.toNat (0 : Int)).length u0.Size.toNat), (35, i6 (rawS g ((mget j g.Name).getD ((⟨[], 0, 0⟩ : Reading) : Reading)).Num ((mget j g.Name).getD ((⟨[], 0, 0⟩ : Reading) : Reading)).Den).1)] ?_; intro mh fX
     obtain ⟨jb, fY⟩ := i9
     refine ck fX 37 #[.agg (e46Md g).toArray, .slice (sm l) (List.replicate u0.Size.toNat (0 : Int)).length u0.Size.toNat, i6 (rawS g ((mget j g.Name).getD ((⟨[], 0, 0⟩ : Reading) : Reading)).Num ((mget j g.Name).getD ((⟨[], 0, 0⟩ : Reading) : Reading)).Den).1] ?_
     refine (sputd_fun g (List.replicate u0.Size.toNat (0 : Int)) (rawS g ((mget j g.Name).getD ((⟨[], 0, 0⟩ : Reading) : Reading)).Num ((mget j g.Name).getD ((⟨[], 0, 0⟩ : Reading) : Reading)).Den).1 jb (sm l) u0.Size.toNat _ _ _ _ _ _ (aO.perm (pk 6 rfl)) aO.fz).mono ?_; rintro _ fZ ⟨cW, rfl, a7, jc, hm⟩; refine ⟨_, rfl, ?_⟩; intro jd f0; have f1 := hm
     replace cf := cf.mono a7
     have je : Fr 38 [] [⟨2, [], pt n 0⟩, ⟨3, [], pt ab 0⟩, ⟨7, [], i6 (rawS g ((mget j g.Name).getD ((⟨[], 0, 0⟩ : Reading) : Reading)).Num ((mget j g.Name).getD ((⟨[], 0, 0⟩ : Reading) : Reading)).Den).1⟩, ⟨8, [], i6 (rawS g ((mget j g.Name).getD ((⟨[], 0, 0⟩ : Reading) : Reading)).Num ((mget j g.Name).getD ((⟨[], 0, 0⟩ : Reading) : Reading)).Den).2⟩, ⟨31, [], .bool ((rawS g ((mget j g.Name).getD ((⟨[], 0, 0⟩ : Reading) : Reading)).Num ((mget j g.Name).getD ((⟨[], 0, 0⟩ : Reading) : Reading)).Den).2 == 0)⟩, ⟨32, [], .agg (e46Md g).toArray⟩, ⟨34, [], .slice (sm l) (putS g (List.replicate u0.Size.toNat (0 : Int)) (rawS g ((mget j g.Name).getD ((⟨[], 0, 0⟩ : Reading) : Reading)).Num ((mget j g.Name).getD ((⟨[], 0, 0⟩ : Reading) : Reading)).Den).1).length u0.Size.toNat⟩, ⟨35, [], i6 (rawS g ((mget j g.Name).getD ((⟨[], 0, 0⟩ : Reading) : Reading)).Num ((mget j g.Name).getD ((⟨[], 0, 0⟩ : Reading) : Reading)).Den).1⟩, ⟨36, [], .tuple #[]⟩] jd := by rw [jc]; exact f0.reg
     have jf : (putS g (List.replicate u0.Size.toNat (0 : Int)) (rawS g ((mget j g.Name).getD ((⟨[], 0, 0⟩ : Reading) : Reading)).Num ((mget j g.Name).getD ((⟨[], 0, 0⟩ : Reading) : Reading)).Den).1).length = (List.replicate u0.Size.toNat (0 : Int)).length := by first | assumption | (simp; try omega)
     have f2 : Mem w.heap.size [] w Z [.own t8 5 (sm l) u0.Size.toNat (putS g (List.replicate u0.Size.toNat (0 : Int)) (rawS g ((mget j g.Name).getD ((⟨[], 0, 0⟩ : Reading) : Reading)).Num ((mget j g.Name).getD ((⟨[], 0, 0⟩ : Reading) : Reading)).Den).1), .row aI (e37Md ((mget j g.Name).getD ((⟨[], 0, 0⟩ : Reading) : Reading))) 37, .row ab (e46Md g) 46, .row y [.map (some u)] 63, .map (fun x : List UInt8 => str x) (fun x : Reading => .agg (e37Md x).toArray) u (mdel j g.Name), .row q [i6 0, .bool false, .bool false, .bool false, i6 0, .slice none 0 0] 27, .row p (e24Md u0 ao1 cap2) 24, .row n [i6 u0.ID, .bool u0.Long, .bool false, .bool false, i6 0, .slice (sm l) (putS g (List.replicate u0.Size.toNat (0 : Int)) (rawS g ((mget j g.Name).getD ((⟨[], 0, 0⟩ : Reading) : Reading)).Num ((mget j g.Name).getD ((⟨[], 0, 0⟩ : Reading) : Reading)).Den).1).length u0.Size.toNat] 27] cW fZ := by rw [jf]; exact f1
     have f3 : Mem w.heap.size [] w Z [.own t8 5 (sm l) u0.Size.toNat (putS g (List.replicate u0.Size.toNat (0 : Int)) (rawS g ((mget j g.Name).getD ((⟨[], 0, 0⟩ : Reading) : Reading)).Num ((mget j g.Name).getD ((⟨[], 0, 0⟩ : Reading) : Reading)).Den).1), .row aI (e37Md ((mget j g.Name).getD ((⟨[], 0, 0⟩ : Reading) : Reading))) 37, .row ab (e46Md g) 46, .row y [.map (some u)] 63, .map (fun x : List UInt8 => str x) (fun x : Reading => .agg (e37Md x).toArray) u (mdel j g.Name), .row q [i6 0, .bool false, .bool false, .bool false, i6 0, .slice none 0 0] 27, .row p (e24Md u0 ao1 cap2) 24, .row n [i6 u0.ID, .bool u0.Long, .bool false, .bool false, i6 0, .slice (sm l) (putS g (List.replicate u0.Size.toNat (0 : Int)) (rawS g ((mget j g.Name).getD ((⟨[], 0, 0⟩ : Reading) : Reading)).Num ((mget j g.Name).getD ((⟨[], 0, 0⟩ : Reading) : Reading)).Den).1).length u0.Size.toNat] 27] cW fZ := f2
     have jg := fY (f3.ownSmall 0 rfl)
     apply fW
     apply d_
     have jh := f3.perm ((pk 1 rfl).trans (((pk 1 rfl).trans (((pk 1 rfl).trans (((pk 1 rfl).trans (((pk 1 rfl).trans (((pk 1 rfl).trans (lpr.cons _)).cons _)).cons _)).cons _)).cons _)).cons _))
     exact fN (putS g (List.replicate u0.Size.toNat (0 : Int)) (rawS g ((mget j g.Name).getD ((⟨[], 0, 0⟩ : Reading) : Reading)).Num ((mget j g.Name).getD ((⟨[], 0, 0⟩ : Reading) : Reading)).Den).1) cW ⟨jg, cf⟩ _ _ ((je.reg).anyβ _ (by kernel_rfl)) (jh.kp)
    exact l_ (d_ (fN (List.replicate u0.Size.toNat (0 : Int)) Z ⟨ji, cf⟩ _ _ ((fM.reg).anyβ _ (by kernel_rfl)) (aO.kp)))
   exact l_ (d_ (dE j (List.replicate u0.Size.toNat (0 : Int)) Z ⟨jj, b5⟩ _ _ ((dD.reg).anyβ _ (by kernel_rfl)) (aL.kp)))
  apply b_
  have f4 : Fr 102 [] [⟨2, [], pt p 0⟩, ⟨4, [], pt q 0⟩, ⟨7, [], pt n 0⟩, ⟨8, [], pt y 0⟩, ⟨33, [], .slice ao4 u1.length cap5⟩, ⟨34, [], i6 (u1.length : Int)⟩, ⟨35, [], i6 0⟩] bH := dy.reg
  obtain ⟨jk, jl, jm, jn⟩ := g9
  refine lp (ι := Int × (List (List UInt8 × Reading))) (fun s => [⟨2, [], pt p 0⟩, ⟨4, [], pt q 0⟩, ⟨7, [], pt n 0⟩, ⟨8, [], pt y 0⟩, ⟨33, [], .slice ao4 u1.length cap5⟩, ⟨34, [], i6 (u1.length : Int)⟩, ⟨35, [], i6 s.1⟩]) (fun s => [.row y [.map (some u)] 63, .map (fun x : List UInt8 => str x) (fun x : Reading => .agg (e37Md x).toArray) u s.2, .row q [i6 0, .bool false, .bool false, .bool false, i6 0, .slice none 0 0] 27, .row p (e24Md u0 ao1 cap2) 24, .own t8 5 (sm l) u0.Size.toNat (List.replicate u0.Size.toNat (0 : Int)), .row n [i6 u0.ID, .bool u0.Long, .bool false, .bool false, i6 0, .slice (sm l) (List.replicate u0.Size.toNat (0 : Int)).length u0.Size.toNat] 27]) (fun s => Z) (fun s => jk s.1 s.2) (fun s => jl s.1 s.2) ⟨0, ([] : List (List UInt8 × Reading))⟩ jm (by exact f4.reg) (by exact bG) ?_
  rintro ⟨aW, F⟩ jo jp jq f6 f7
  have cg := jn aW F jo
  refine sqB f6 f7 [] [] [(36, .bool (decide (aW < (u1.length : Int))))] ?_; intro mi ch
  refine s_ (c_ ch cg (fun _ jr => ?_) fun _ jH => ?_)
  ·
   refine k_ (s_ (b_ (sqH ?_))); intro js f9
   obtain ⟨jt, ga⟩ := jr
   refine ix_ ch bc aW jt .i64 37 32 ?_; intro mj mk ju B ml jv jw jx gb
   have ci := ga B jv
   obtain rfl : ju = ((e37Md B) : List Value) := jx
   refine z2 gb f7 38 jw 0 3 (e37Md B) rfl ?_; intro mm gc
   refine nw gc f7 pb [str [], i6 0, i6 0] 37 ?_; intro cj mn mo cY gd
   refine sx cY gd 0 (e37Md B) 0 ?_; intro jy ge
   have bx : Mem w.heap.size [] w Z [.row cj (e37Md B) 37, .row y [.map (some u)] 63, .map (fun x : List UInt8 => str x) (fun x : Reading => .agg (e37Md x).toArray) u F, .row q [i6 0, .bool false, .bool false, .bool false, i6 0, .slice none 0 0] 27, .row p (e24Md u0 ao1 cap2) 24, .own t8 5 (sm l) u0.Size.toNat (List.replicate u0.Size.toNat (0 : Int)), .row n [i6 u0.ID, .bool u0.Long, .bool false, .bool false, i6 0, .slice (sm l) (List.replicate u0.Size.toNat (0 : Int)).length u0.Size.toNat] 27] Z jy := ge
   apply f9
   refine s_ (sqH ?_); intro jz gf
   refine bt cY bx 3 [1, 0] [] [(40, .map (some u)), (42, str B.Name)] ?_; intro mp gg
   refine lkO gg bx 2 (m := F) B.Name ((⟨[], 0, 0⟩ : Reading) : Reading) (t := 63) (kt := 9) (et := 37) (nog rfl _) rfl (by kernel_rfl) rfl (by kernel_rfl) (by kernel_rfl) rfl (MKey.str (by kernel_rfl)) (by kernel_rfl) (by kernel_rfl) ?_; intro mq gh
   refine bt gh bx 3 [] [] [(44, .agg (e37Md ((mget F B.Name).getD ((⟨[], 0, 0⟩ : Reading) : Reading))).toArray), (45, .bool (mget F B.Name).isSome)] ?_; intro mr gi
   refine nw gi bx pb [str [], i6 0, i6 0] 37 ?_; intro cZ ms mt c0 gj
   refine sx c0 gj 0 (e37Md ((mget F B.Name).getD ((⟨[], 0, 0⟩ : Reading) : Reading))) 0 ?_; intro jA gk
   refine s1 c0 12 (.bool (mget F B.Name).isSome) ?_; intro mu gl
   have a8 : Mem w.heap.size [] w Z [.row cZ (e37Md ((mget F B.Name).getD ((⟨[], 0, 0⟩ : Reading) : Reading))) 37, .row cj (e37Md B) 37, .row y [.map (some u)] 63, .map (fun x : List UInt8 => str x) (fun x : Reading => .agg (e37Md x).toArray) u F, .row q [i6 0, .bool false, .bool false, .bool false, i6 0, .slice none 0 0] 27, .row p (e24Md u0 ao1 cap2) 24, .own t8 5 (sm l) u0.Size.toNat (List.replicate u0.Size.toNat (0 : Int)), .row n [i6 u0.ID, .bool u0.Long, .bool false, .bool false, i6 0, .slice (sm l) (List.replicate u0.Size.toNat (0 : Int)).length u0.Size.toNat] 27] Z jA := gk
   apply gf
   refine sqB gl a8 [] [] [(46, .bool (mget F B.Name).isSome)] ?_; intro mv bz
   refine c_ bz ci (fun _ jB => ?_) fun _ gq => ?_
   ·
    refine sqH ?_; intro jC gm
    refine s1 bz 47 (.agg #[i6 0, .bool false, .bool false, .bool false, i6 0, .slice none 0 0]) ?_; intro mw c2
    refine sx c2 a8 4 [i6 0, .bool false, .bool false, .bool false, i6 0, .slice none 0 0] 0 ?_; intro jD gn
    refine s1 c2 5 (i6 9) ?_; intro mx go
    have gp : Mem w.heap.size [] w Z [.row cZ (e37Md ((mget F B.Name).getD ((⟨[], 0, 0⟩ : Reading) : Reading))) 37, .row cj (e37Md B) 37, .row y [.map (some u)] 63, .map (fun x : List UInt8 => str x) (fun x : Reading => .agg (e37Md x).toArray) u F, .row q [i6 0, .bool false, .bool false, .bool false, i6 0, .slice none 0 0] 27, .row p (e24Md u0 ao1 cap2) 24, .own t8 5 (sm l) u0.Size.toNat (List.replicate u0.Size.toNat (0 : Int)), .row n [i6 u0.ID, .bool u0.Long, .bool false, .bool false, i6 0, .slice (sm l) (List.replicate u0.Size.toNat (0 : Int)).length u0.Size.toNat] 27] Z jD := gn
    apply gm
    refine r_ (h_ (i_ (h_ (h_ (i_ (h_ (rt (fn := Tryz.f12) (v := .tuple #[.agg #[i6 0, .bool false, .bool false, .bool false, i6 0, .slice none 0 0], i6 9]) go (re2c go (fn := Tryz.f12) rfl (ad := ⟨q, 0, none⟩) (by kernel_rfl) (loadVar_run gp 4 (b := q) (k := 6) (vs := [i6 0, .bool false, .bool false, .bool false, i6 0, .slice none 0 0]) (ty := 27) rfl (by kernel_rfl) (by kernel_rfl)) (by kernel_rfl)) ?_)))))))
    exact ⟨((⟨0, false, false, false, 0, []⟩ : Frame), 9), none, 0, Z, rfl, jB, (SlR.nil _ _), gp.kp⟩
   refine k_ (rgH ?_); intro jE gr
   refine bt bz a8 4 [2, 1, 1] [] [(48, .map (some u)), (50, str B.Name), (51, .agg (e37Md B).toArray)] ?_; intro my c3
   refine mup c3 a8 3 (m := F) B.Name B (t := 63) (kt := 9) (et := 37) (nog rfl _) rfl rfl (by kernel_rfl) (by kernel_rfl) (by kernel_rfl) rfl (MKey.str (by kernel_rfl)) (by kernel_rfl) ?_; intro jF gs
   have gt : Mem w.heap.size [] w Z [.row cZ (e37Md ((mget F B.Name).getD ((⟨[], 0, 0⟩ : Reading) : Reading))) 37, .row cj (e37Md B) 37, .row y [.map (some u)] 63, .map (fun x : List UInt8 => str x) (fun x : Reading => .agg (e37Md x).toArray) u (mput F B.Name B), .row q [i6 0, .bool false, .bool false, .bool false, i6 0, .slice none 0 0] 27, .row p (e24Md u0 ao1 cap2) 24, .own t8 5 (sm l) u0.Size.toNat (List.replicate u0.Size.toNat (0 : Int)), .row n [i6 u0.ID, .bool u0.Long, .bool false, .bool false, i6 0, .slice (sm l) (List.replicate u0.Size.toNat (0 : Int)).length u0.Size.toNat] 27] Z jF := gs
   apply gr
   refine j_ (t_ (rgB c3 gt [] [] [(35, i6 (w64 (aW + 1)))] ?_)); intro mz jG
   exact d_ ⟨⟨w64 (aW + 1), mput F B.Name B⟩, gq.1, gq.2, (jG.reg).anyβ _ (by kernel_rfl), gt.kp⟩
  exact x_ (y_ (y_ (z_ (d_ (hb F jH _ _ ((ch.reg).anyβ _ (by kernel_rfl)) (f7.kp))))))

end Go.Proofs.YtdndfbamhnchfaaGreatDoor
set_option linter.unusedVariables false
set_option linter.unusedSimpArgs false
set_option maxRecDepth 100000
set_option maxHeartbeats 0
namespace Go.Proofs.YtdndfbamhnchfaaGreatDoor
open Go.Sy Go.RowKit
abbrev e37Me (X : Reading) : List Value := [str X.Name, i6 X.Num, i6 X.Den]
def mread_fun (u0 : Message) (u1 : Frame) (hpre : isBytes u1.Data) (ao1 : Option Addr) (cap2 : Nat) (ao4 : Option Addr) (cap5 : Nat) (Z : Fz) (w : World) (hs3 : SlR tySignal Z ao1 cap2 u0.Signals) (hs6 : SlR t8 Z ao4 cap5 u1.Data) (hZ : Z.on w) := fc_ (mread_walk u0 u1 ao1 cap2 ao4 cap5 Z w hs3 hs6 hZ (mread_ok u0 u1 hpre))
def mwrite_fun (u0 : Message) (u1 : List Reading) (ao1 : Option Addr) (cap2 : Nat) (ao4 : Option Addr) (cap5 : Nat) (Z : Fz) (w : World) (hs3 : SlR tySignal Z ao1 cap2 u0.Signals) (hs6 : SlR tyReading Z ao4 cap5 u1) (hZ : Z.on w) := fc_ (mwrite_walk u0 u1 ao1 cap2 ao4 cap5 Z w hs3 hs6 hZ (mwrite_ok u0 u1))
theorem req_walk (u0 : List Reading) (u1 : List Reading) (ao1 : Option Addr) (cap2 : Nat) (ao4 : Option Addr) (cap5 : Nat) (Z : Fz) (w : World) (hs3 : SlR tyReading Z ao1 cap2 u0) (hs6 : SlR tyReading Z ao4 cap5 u1) (hZ : Z.on w) {K : Bool → Prop} (hp : req_vc u0 u1 K) : Calls Tryz.prog 11 #[.slice ao1 u0.length cap2, .slice ao4 u1.length cap5] w fun e w' => ∃ r : Bool, e = .returned (.bool r) ∧ K r ∧ Below w.heap.size w w' := by
 refine enter0 Tryz.func11 rfl rfl (by kernel_rfl) ?_; intro a0 B; have f := Mem.start w Z hZ
 have n := hp (hs3.small) (hs6.small)
 refine sqB B f [] [] [] ?_; intro aF D
 refine s_ (sqB D f [] [] [(10, .bool ((u0.length : Int) != (u1.length : Int)))] ?_); intro aG i
 refine cd i (t := (u0.length : Int) != (u1.length : Int)) (by kernel_rfl) (fun u => ?_) (fun u => ?_)
 · -- yes
  have Y := n.1 u
  refine sqB i f [] [] [(4, .bool false)] ?_; intro aH aa
  exact r_ (h_ (ra1 aa (.bool false) ⟨false, rfl, Y, f.below⟩))
 · -- no
  have ab := n.2 u
  refine k_ (s_ (sqB i f [] [] [(12, i6 (u0.length : Int)), (13, i6 0)] ?_)); intro E F
  apply b_
  have G : Fr 26 [] [⟨0, [], .slice ao1 u0.length cap2⟩, ⟨1, [], .slice ao4 u1.length cap5⟩, ⟨12, [], i6 (u0.length : Int)⟩, ⟨13, [], i6 0⟩] E := F.reg
  obtain ⟨ac, ad, ae, af⟩ := ab
  refine lp (ι := Int) (fun s => [⟨0, [], .slice ao1 u0.length cap2⟩, ⟨1, [], .slice ao4 u1.length cap5⟩, ⟨12, [], i6 (u0.length : Int)⟩, ⟨13, [], i6 s⟩]) (fun s => []) (fun s => Z) (fun s => ac s) (fun s => ad s) 0 ae (by exact G.region (by kernel_rfl) (by kernel_rfl)) (by exact f) ?_
  rintro d ag ah ai I J
  have o := af d ag
  refine sqB I J [] [] [(14, .bool (decide (d < (u0.length : Int))))] ?_; intro aI j
  apply s_
  refine cd j (t := decide (d < (u0.length : Int))) (by kernel_rfl) (fun v => ?_) (fun v => ?_)
  · -- yes
   have aj := o.1 v
   refine k_ (s_ (b_ (sqB j J [] [] [(5, i6 d)] ?_))); intro ak M
   have N : Fr 26 [] [⟨0, [], .slice ao1 u0.length cap2⟩, ⟨1, [], .slice ao4 u1.length cap5⟩, ⟨5, [], i6 d⟩, ⟨12, [], i6 (u0.length : Int)⟩, ⟨13, [], i6 d⟩] ak := M.reg
   refine sqQH mixed (by kernel_rfl) J ?_; intro al O
   refine q1 N 16 (.slice ao1 u0.length cap2) ?_; intro aJ P
   refine q1 P 17 (i6 d) ?_; intro aK Q
   obtain ⟨am, R⟩ := aj
   refine qx_ Q hs3 d am .i64 37 32 ?_; intro aL aM an a aN ao ap aq x
   have ar := R a ao
   obtain rfl : an = ((e37Me a) : List Value) := aq
   refine qu_ x (.agg (e37Me a).toArray) (fun v81 hC => lza x hC.fz ap 0 (g := []) (m := 3) (vs := (e37Me a)) rfl (by kernel_rfl) (by kernel_rfl) (by kernel_rfl) (by kernel_rfl) rfl) ?_; intro aO S
   refine q1 S 20 (.slice ao4 u1.length cap5) ?_; intro aP U
   refine q1 U 21 (i6 d) ?_; intro aQ V
   obtain ⟨au, W⟩ := ar
   refine qx_ V hs6 d au .i64 37 32 ?_; intro aR aS av c aT aw ax ay y
   have p := W c aw
   obtain rfl : av = ((e37Me c) : List Value) := ay
   refine qu_ y (.agg (e37Me c).toArray) (fun v103 hC => lza y hC.fz ax 0 (g := []) (m := 3) (vs := (e37Me c)) rfl (by kernel_rfl) (by kernel_rfl) (by kernel_rfl) (by kernel_rfl) rfl) ?_; intro aU z
   refine qu_ z (.bool (!((a.Name == c.Name) && ((a.Num == c.Num) && ((a.Den == c.Den) && true))))) (fun v106 hC => nes_run z (g := []) (xs := (e37Me a).toArray) (ys := (e37Me c).toArray) (b := (a.Name == c.Name) && ((a.Num == c.Num) && ((a.Den == c.Den) && true))) rfl (by kernel_rfl) (by kernel_rfl) (by kernel_rfl) (by kernel_rfl) rfl) ?_; intro aV l
   refine qnl (O _ ?_); intro aW q
   refine cd l (t := !((a.Name == c.Name) && ((a.Num == c.Num) && ((a.Den == c.Den) && true)))) (by kernel_rfl) (fun A => ?_) (fun A => ?_)
   · -- yes
    have az := p.1 A
    refine sqB l q [] [] [(4, .bool false)] ?_; intro aX aA
    exact r_ (i_ (h_ (h_ (i_ (h_ (ra1 aA (.bool false) ⟨false, rfl, az, q.below⟩))))))
   · -- no
    have X := p.2 A
    refine l_ (j_ (t_ (rgB l q [] [] [(13, i6 (w64 (d + 1)))] ?_))); intro aY aB
    exact d_ ⟨w64 (d + 1), X.1, X.2, (aB.region (by kernel_rfl) (by kernel_rfl)).anyβ _ (by kernel_rfl), q.kp⟩
  · -- no
   have aC := o.2 v
   refine x_ (y_ (y_ (z_ (t_ (sqB j J [] [] [(4, .bool true)] ?_))))); intro aZ aD
   exact r_ (ra1 aD (.bool true) ⟨true, rfl, aC, J.below⟩)

theorem eng1_walk (u0 : List UInt8) (u1 : Int) (u2 : Int)  (Z : Fz) (w : World)  (hZ : Z.on w) {K : Signal → Prop} (hp : eng1_vc u0 u1 u2 K) : Calls Tryz.prog 68 #[str u0, i6 u1, i6 u2] w fun e w' => ∃ r : Signal, e = .returned (.agg #[str r.Name, i6 r.Start, i6 r.Size, .bool r.Back, .bool r.Signed, i6 r.Mul, i6 r.Div, i6 r.Add, i6 r.Key]) ∧ K r ∧ Below w.heap.size w w' := by
 refine enter0 Tryz.func68 rfl rfl (by kernel_rfl) ?_; intro q f; have g := Mem.start w Z hZ
 refine sqH ?_; intro n h
 refine nw f g pb [str [], i6 0, i6 0, .bool false, .bool false, i6 0, i6 0, i6 0, i6 0] 46 ?_; intro a t u i c
 apply h
 refine sqH ?_; intro o j
 refine bt i c 4 [] [] [(10, .agg #[str u0, i6 u1, i6 8, .bool false, .bool false, i6 1, i6 1, i6 0, i6 u2])] ?_; intro x d
 refine sx d c 0 [str u0, i6 u1, i6 8, .bool false, .bool false, i6 1, i6 1, i6 0, i6 u2] 0 ?_; intro p l
 have m : Mem w.heap.size [] w Z [.row a [str u0, i6 u1, i6 8, .bool false, .bool false, i6 1, i6 1, i6 0, i6 u2] 46] Z p := l
 apply j
 refine r_ (rt (fn := Tryz.f68) (v := .agg #[str u0, i6 u1, i6 8, .bool false, .bool false, i6 1, i6 1, i6 0, i6 u2]) d (re1c d (fn := Tryz.f68) rfl (ad := ⟨a, 0, none⟩) (by kernel_rfl) (loadVar_run m 0 (b := a) (k := 9) (vs := [str u0, i6 u1, i6 8, .bool false, .bool false, i6 1, i6 1, i6 0, i6 u2]) (ty := 46) rfl (by kernel_rfl) (by kernel_rfl)) ) ?_)
 exact ⟨(⟨u0, u1, 8, false, false, 1, 1, 0, u2⟩ : Signal), rfl, hp, m.below⟩
def eng1_fun (u0 : List UInt8) (u1 : Int) (u2 : Int)  (Z : Fz) (w : World)  (hZ : Z.on w) := f_ (eng1_walk u0 u1 u2  Z w  hZ (eng1_ok u0 u1 u2))
theorem engine_walk   (Z : Fz) (w : World)  (hZ : Z.on w) {K : Message → Prop} (hp : engine_vc  K) : Calls Tryz.prog 31 #[] w fun e w' => ∃ (r : Message) (ao1001 : Option Addr) (cap1002 : Nat) (Z' : Fz), e = .returned (.agg #[i6 r.ID, .bool r.Long, str r.Name, i6 r.Size, i6 r.Chooser, .slice ao1001 r.Signals.length cap1002]) ∧ K r ∧ SlR tySignal Z' ao1001 cap1002 r.Signals ∧ Mem w.heap.size [] w Z [] Z' w' := by
 refine enter0 Tryz.func31 rfl rfl (by kernel_rfl) ?_; intro P j; have l := Mem.start w Z hZ
 refine sqH ?_; intro J n
 refine nw j l pb [i6 0, .bool false, str [], i6 0, i6 0, .slice none 0 0] 24 ?_; intro c Q R o d
 apply n
 refine sqB o d [] [] [(1, .func (.func 68) #[] #[])] ?_; intro S p
 refine sqH ?_; intro L q
 refine s1 p 2 (.func (.func 68) #[] #[]) ?_; intro U s
 refine fc s d (eng1_fun ([119, 104, 105, 99, 104] : List UInt8) 0 (-1) _ _ d.fz) ?_; intro V W t f
 refine s1 t 4 (.func (.func 68) #[] #[]) ?_; intro X u
 refine fc u f (eng1_fun ([104, 101, 97, 116] : List UInt8) 8 0 _ _ f.fz) ?_; intro Y aa y g
 refine s1 y 6 (.func (.func 68) #[] #[]) ?_; intro ab z
 refine fc z g (eng1_fun ([108, 111, 97, 100] : List UInt8) 8 1 _ _ g.fz) ?_; intro ac ae A B
 refine nw A B (fun b => .slice (sm b) 3 3) [str (eng1 ([119, 104, 105, 99, 104] : List UInt8) 0 (-1)).Name, i6 (eng1 ([119, 104, 105, 99, 104] : List UInt8) 0 (-1)).Start, i6 (eng1 ([119, 104, 105, 99, 104] : List UInt8) 0 (-1)).Size, .bool (eng1 ([119, 104, 105, 99, 104] : List UInt8) 0 (-1)).Back, .bool (eng1 ([119, 104, 105, 99, 104] : List UInt8) 0 (-1)).Signed, i6 (eng1 ([119, 104, 105, 99, 104] : List UInt8) 0 (-1)).Mul, i6 (eng1 ([119, 104, 105, 99, 104] : List UInt8) 0 (-1)).Div, i6 (eng1 ([119, 104, 105, 99, 104] : List UInt8) 0 (-1)).Add, i6 (eng1 ([119, 104, 105, 99, 104] : List UInt8) 0 (-1)).Key, str (eng1 ([104, 101, 97, 116] : List UInt8) 8 0).Name, i6 (eng1 ([104, 101, 97, 116] : List UInt8) 8 0).Start, i6 (eng1 ([104, 101, 97, 116] : List UInt8) 8 0).Size, .bool (eng1 ([104, 101, 97, 116] : List UInt8) 8 0).Back, .bool (eng1 ([104, 101, 97, 116] : List UInt8) 8 0).Signed, i6 (eng1 ([104, 101, 97, 116] : List UInt8) 8 0).Mul, i6 (eng1 ([104, 101, 97, 116] : List UInt8) 8 0).Div, i6 (eng1 ([104, 101, 97, 116] : List UInt8) 8 0).Add, i6 (eng1 ([104, 101, 97, 116] : List UInt8) 8 0).Key, str (eng1 ([108, 111, 97, 100] : List UInt8) 8 1).Name, i6 (eng1 ([108, 111, 97, 100] : List UInt8) 8 1).Start, i6 (eng1 ([108, 111, 97, 100] : List UInt8) 8 1).Size, .bool (eng1 ([108, 111, 97, 100] : List UInt8) 8 1).Back, .bool (eng1 ([108, 111, 97, 100] : List UInt8) 8 1).Signed, i6 (eng1 ([108, 111, 97, 100] : List UInt8) 8 1).Mul, i6 (eng1 ([108, 111, 97, 100] : List UInt8) 8 1).Div, i6 (eng1 ([108, 111, 97, 100] : List UInt8) 8 1).Add, i6 (eng1 ([108, 111, 97, 100] : List UInt8) 8 1).Key] 46 ?_; intro a af ag C D
 refine s1 C 9 (.agg #[i6 100, .bool false, str ([101, 110, 103, 105, 110, 101] : List UInt8), i6 2, i6 0, .slice (sm a) 3 3]) ?_; intro ah h
 refine sx h D 1 [i6 100, .bool false, str ([101, 110, 103, 105, 110, 101] : List UInt8), i6 2, i6 0, .slice (sm a) 3 3] 0 ?_; intro i E
 have F : Mem w.heap.size [] w Z [.row a [str (eng1 ([119, 104, 105, 99, 104] : List UInt8) 0 (-1)).Name, i6 (eng1 ([119, 104, 105, 99, 104] : List UInt8) 0 (-1)).Start, i6 (eng1 ([119, 104, 105, 99, 104] : List UInt8) 0 (-1)).Size, .bool (eng1 ([119, 104, 105, 99, 104] : List UInt8) 0 (-1)).Back, .bool (eng1 ([119, 104, 105, 99, 104] : List UInt8) 0 (-1)).Signed, i6 (eng1 ([119, 104, 105, 99, 104] : List UInt8) 0 (-1)).Mul, i6 (eng1 ([119, 104, 105, 99, 104] : List UInt8) 0 (-1)).Div, i6 (eng1 ([119, 104, 105, 99, 104] : List UInt8) 0 (-1)).Add, i6 (eng1 ([119, 104, 105, 99, 104] : List UInt8) 0 (-1)).Key, str (eng1 ([104, 101, 97, 116] : List UInt8) 8 0).Name, i6 (eng1 ([104, 101, 97, 116] : List UInt8) 8 0).Start, i6 (eng1 ([104, 101, 97, 116] : List UInt8) 8 0).Size, .bool (eng1 ([104, 101, 97, 116] : List UInt8) 8 0).Back, .bool (eng1 ([104, 101, 97, 116] : List UInt8) 8 0).Signed, i6 (eng1 ([104, 101, 97, 116] : List UInt8) 8 0).Mul, i6 (eng1 ([104, 101, 97, 116] : List UInt8) 8 0).Div, i6 (eng1 ([104, 101, 97, 116] : List UInt8) 8 0).Add, i6 (eng1 ([104, 101, 97, 116] : List UInt8) 8 0).Key, str (eng1 ([108, 111, 97, 100] : List UInt8) 8 1).Name, i6 (eng1 ([108, 111, 97, 100] : List UInt8) 8 1).Start, i6 (eng1 ([108, 111, 97, 100] : List UInt8) 8 1).Size, .bool (eng1 ([108, 111, 97, 100] : List UInt8) 8 1).Back, .bool (eng1 ([108, 111, 97, 100] : List UInt8) 8 1).Signed, i6 (eng1 ([108, 111, 97, 100] : List UInt8) 8 1).Mul, i6 (eng1 ([108, 111, 97, 100] : List UInt8) 8 1).Div, i6 (eng1 ([108, 111, 97, 100] : List UInt8) 8 1).Add, i6 (eng1 ([108, 111, 97, 100] : List UInt8) 8 1).Key] 46, .row c [i6 100, .bool false, str ([101, 110, 103, 105, 110, 101] : List UInt8), i6 2, i6 0, .slice (sm a) 3 3] 24] Z i := E
 apply q
 apply r_
 have M : Mem w.heap.size [] w Z [.own tySignal 46 (sm a) 3 ([(eng1 ([119, 104, 105, 99, 104] : List UInt8) 0 (-1)), (eng1 ([104, 101, 97, 116] : List UInt8) 8 0), (eng1 ([108, 111, 97, 100] : List UInt8) 8 1)] : List Signal), .row c [i6 100, .bool false, str ([101, 110, 103, 105, 110, 101] : List UInt8), i6 2, i6 0, .slice (sm a) 3 3] 24] Z i := F.rowOwn (T := tySignal) (xs := ([(eng1 ([119, 104, 105, 99, 104] : List UInt8) 0 (-1)), (eng1 ([104, 101, 97, 116] : List UInt8) 8 0), (eng1 ([108, 111, 97, 100] : List UInt8) 8 1)] : List Signal)) 0 rfl (by decide) (by show 3 ≤ lim; decide) ((RepAll.one (T := tySignal) (x := (eng1 ([119, 104, 105, 99, 104] : List UInt8) 0 (-1))) rfl).append ((RepAll.one (T := tySignal) (x := (eng1 ([104, 101, 97, 116] : List UInt8) 8 0)) rfl).append (RepAll.one (T := tySignal) (x := (eng1 ([108, 111, 97, 100] : List UInt8) 8 1)) rfl)))
 obtain ⟨G, N, H, O⟩ := M.freeze 0 rfl
 have I : Mem w.heap.size [] w Z [.row c [i6 100, .bool false, str ([101, 110, 103, 105, 110, 101] : List UInt8), i6 2, i6 0, .slice (sm a) 3 3] 24] G i := H
 refine rt (fn := Tryz.f31) (v := .agg #[i6 100, .bool false, str ([101, 110, 103, 105, 110, 101] : List UInt8), i6 2, i6 0, .slice (sm a) ([(eng1 ([119, 104, 105, 99, 104] : List UInt8) 0 (-1)), (eng1 ([104, 101, 97, 116] : List UInt8) 8 0), (eng1 ([108, 111, 97, 100] : List UInt8) 8 1)] : List Signal).length 3]) h (re1c h (fn := Tryz.f31) rfl (ad := ⟨c, 0, none⟩) (by kernel_rfl) (loadVar_run I 0 (b := c) (k := 6) (vs := [i6 100, .bool false, str ([101, 110, 103, 105, 110, 101] : List UInt8), i6 2, i6 0, .slice (sm a) 3 3]) (ty := 24) rfl (by kernel_rfl) (by kernel_rfl)) ) ?_
 exact ⟨(⟨100, false, ([101, 110, 103, 105, 110, 101] : List UInt8), 2, 0, ([(eng1 ([119, 104, 105, 99, 104] : List UInt8) 0 (-1)), (eng1 ([104, 101, 97, 116] : List UInt8) 8 0), (eng1 ([108, 111, 97, 100] : List UInt8) 8 1)] : List Signal)⟩ : Message), (sm a), 3, G, rfl, hp, O, I.kp⟩
def engine_fun   (Z : Fz) (w : World)  (hZ : Z.on w) := fc_ (engine_walk   Z w  hZ (engine_ok ))
end Go.Proofs.YtdndfbamhnchfaaGreatDoor
set_option linter.unusedVariables false
set_option linter.unusedSimpArgs false
set_option maxRecDepth 100000
set_option maxHeartbeats 0
namespace Go.Proofs.YtdndfbamhnchfaaGreatDoor
open Go.Sy Go.RowKit
abbrev e27Mf (X : Frame) (A0 : Option Addr) (C0 : Nat) : List Value := [i6 X.ID, .bool X.Long, .bool X.Fast, .bool X.Remote, i6 X.Size, .slice A0 X.Data.length C0]
def req_fun (u0 : List Reading) (u1 : List Reading) (ao1 : Option Addr) (cap2 : Nat) (ao4 : Option Addr) (cap5 : Nat) (Z : Fz) (w : World) (hs3 : SlR tyReading Z ao1 cap2 u0) (hs6 : SlR tyReading Z ao4 cap5 u1) (hZ : Z.on w) := f_ (req_walk u0 u1 ao1 cap2 ao4 cap5 Z w hs3 hs6 hZ (req_ok u0 u1))
theorem meant_walk   (Z : Fz) (w : World)  (hZ : Z.on w) {K : Bool → Prop} (hp : meant_vc  K) : Calls Tryz.prog 9 #[] w fun e w' => ∃ r : Bool, e = .returned (.bool r) ∧ K r ∧ Below w.heap.size w w' := by
 refine enter0 Tryz.func9 rfl rfl (by kernel_rfl) ?_; intro a0 ad; have C := Mem.start w Z hZ
 refine sqB ad C [] [] [] ?_; intro a2 ae
 refine sqH ?_; intro a4 af
 refine ck ae 31 #[] ?_
 refine (engine_fun  _ _ C.fz).mono ?_; rintro _ a5 ⟨ag, ah, ai, rfl, f, hm⟩; refine ⟨_, rfl, ?_⟩; intro a6 aj; have ak := C.callZ hm
 have al : Mem w.heap.size [] w Z [] ai a5 := ak
 have a8 := hp (f.small)
 refine nw aj al (fun b => .slice (sm b) 2 2) [y8 1, y8 7] 5 ?_; intro D bv am an ao
 refine s1 an 8 (.agg #[i6 100, .bool false, .bool false, .bool false, i6 0, .slice (sm D) 2 2]) ?_; intro bw ap
 have a9 : Mem w.heap.size [] w Z [.own t8 5 (sm D) 2 ([1, 7] : List Int)] ai am := ao.rowOwn (T := t8) (xs := ([1, 7] : List Int)) 0 rfl (by decide) (by show 2 ≤ lim; decide) ((RepAll.one (T := t8) (x := 1) rfl).append (RepAll.one (T := t8) (x := 7) rfl))
 obtain ⟨ba, aq, ar, g⟩ := a9.freeze 0 rfl
 replace f := f.mono aq
 have J : Mem w.heap.size [] w Z [] ba am := ar
 obtain ⟨bb, au⟩ := a8
 refine ck ap 6 #[.agg #[i6 engine.ID, .bool engine.Long, str engine.Name, i6 engine.Size, i6 engine.Chooser, .slice ag engine.Signals.length ah], .agg #[i6 100, .bool false, .bool false, .bool false, i6 0, .slice (sm D) ([1, 7] : List Int).length 2]] ?_
 refine (mread_fun engine (⟨100, false, false, false, 0, ([1, 7] : List Int)⟩ : Frame) bb ag ah (sm D) 2 _ _ f g J.fz).mono ?_; rintro _ bc ⟨k, l, bd, rfl, hm⟩; refine ⟨_, rfl, ?_⟩; intro bx av; have aw := J.callZ hm
 have u : Mem w.heap.size [] w Z [.own tyReading 37 k l (readS engine (⟨100, false, false, false, 0, ([1, 7] : List Int)⟩ : Frame)).1] bd bc := aw
 have ax := au (u.ownSmall 0 rfl)
 refine bt av u 5 [] [] [(1, .slice k (readS engine (⟨100, false, false, false, 0, ([1, 7] : List Int)⟩ : Frame)).1.length l), (2, i6 (readS engine (⟨100, false, false, false, 0, ([1, 7] : List Int)⟩ : Frame)).2)] ?_; intro bz ay
 apply af
 refine sqH ?_; intro be az
 refine ck ay 31 #[] ?_
 refine (engine_fun  _ _ u.fz).mono ?_; rintro _ aA ⟨aB, aC, bf, rfl, h, hm⟩; refine ⟨_, rfl, ?_⟩; intro bA aD; have aE := u.callZ hm
 have bg : Mem w.heap.size [] w Z [.own tyReading 37 k l (readS engine (⟨100, false, false, false, 0, ([1, 7] : List Int)⟩ : Frame)).1] bf aA := aE
 have aF := ax (h.small)
 refine s1 aD 14 (.slice k (readS engine (⟨100, false, false, false, 0, ([1, 7] : List Int)⟩ : Frame)).1.length l) ?_; intro bB aG
 obtain ⟨bh, E, aH, m⟩ := bg.freeze 0 rfl
 replace h := h.mono E
 have N : Mem w.heap.size [] w Z [] bh aA := aH
 refine ck aG 12 #[.agg #[i6 engine.ID, .bool engine.Long, str engine.Name, i6 engine.Size, i6 engine.Chooser, .slice aB engine.Signals.length aC], .slice k (readS engine (⟨100, false, false, false, 0, ([1, 7] : List Int)⟩ : Frame)).1.length l] ?_
 refine (mwrite_fun engine (readS engine (⟨100, false, false, false, 0, ([1, 7] : List Int)⟩ : Frame)).1 aB aC k l _ _ h m N.fz).mono ?_; rintro _ bi ⟨i, j, O, rfl, o, hm⟩; refine ⟨_, rfl, ?_⟩; intro bC aI; have aJ := N.callZ hm; have y := hm.ext.le
 replace m := m.mono y
 have P : Mem w.heap.size [] w Z [] O bi := aJ
 have F := aF (o.small)
 refine bt aI P 3 [] [] [(16, .agg (e27Mf ((writeS engine (readS engine (⟨100, false, false, false, 0, ([1, 7] : List Int)⟩ : Frame)).1).1) i j).toArray), (17, i6 (writeS engine (readS engine (⟨100, false, false, false, 0, ([1, 7] : List Int)⟩ : Frame)).1).2)] ?_; intro bD aK
 refine nw aK P pb [i6 0, .bool false, .bool false, .bool false, i6 0, .slice none 0 0] 27 ?_; intro z bE bF Q aL
 refine sx Q aL 0 (e27Mf ((writeS engine (readS engine (⟨100, false, false, false, 0, ([1, 7] : List Int)⟩ : Frame)).1).1) i j) 0 ?_; intro bj aM
 refine s1 Q 4 (i6 (writeS engine (readS engine (⟨100, false, false, false, 0, ([1, 7] : List Int)⟩ : Frame)).1).2) ?_; intro bG aN
 have p : Mem w.heap.size [] w Z [.row z (e27Mf ((writeS engine (readS engine (⟨100, false, false, false, 0, ([1, 7] : List Int)⟩ : Frame)).1).1) i j) 27] O bj := aM
 apply az
 refine sqH ?_; intro R q
 refine bt aN p 7 [] [] [(24, .bool (((readS engine (⟨100, false, false, false, 0, ([1, 7] : List Int)⟩ : Frame)).2 == 0) && ((writeS engine (readS engine (⟨100, false, false, false, 0, ([1, 7] : List Int)⟩ : Frame)).1).2 == 0)))] ?_; intro bH G
 rcases Bool.eq_false_or_eq_true (((readS engine (⟨100, false, false, false, 0, ([1, 7] : List Int)⟩ : Frame)).2 == 0) && ((writeS engine (readS engine (⟨100, false, false, false, 0, ([1, 7] : List Int)⟩ : Frame)).1).2 == 0)) with A | A
 · -- true
  have H := F.1 A
  have aO := G.reval (d := 24) (c := []) (v := .bool (((readS engine (⟨100, false, false, false, 0, ([1, 7] : List Int)⟩ : Frame)).2 == 0) && ((writeS engine (readS engine (⟨100, false, false, false, 0, ([1, 7] : List Int)⟩ : Frame)).1).2 == 0))) (by kernel_rfl) (.bool true) (by rw [A])
  refine bt aO p 3 [] [25, 26, 27] [(25, .slice k (readS engine (⟨100, false, false, false, 0, ([1, 7] : List Int)⟩ : Frame)).1.length l), (26, .agg #[str ([119, 104, 105, 99, 104] : List UInt8), i6 1, i6 1]), (27, .agg #[str ([108, 111, 97, 100] : List UInt8), i6 7, i6 1])] ?_; intro bI S
  refine sn S p (fun b => .slice (sm b) 2 2) [str ([119, 104, 105, 99, 104] : List UInt8), i6 1, i6 1, str ([108, 111, 97, 100] : List UInt8), i6 7, i6 1] 37 (wK S true) rfl (by kernel_rfl) (by kernel_rfl) ?_; intro U bJ aP V aQ
  have bk : Mem w.heap.size [] w Z [.own tyReading 37 (sm U) 2 ([(⟨([119, 104, 105, 99, 104] : List UInt8), 1, 1⟩ : Reading), (⟨([108, 111, 97, 100] : List UInt8), 7, 1⟩ : Reading)] : List Reading), .row z (e27Mf ((writeS engine (readS engine (⟨100, false, false, false, 0, ([1, 7] : List Int)⟩ : Frame)).1).1) i j) 27] O aP := aQ.rowOwn (T := tyReading) (xs := ([(⟨([119, 104, 105, 99, 104] : List UInt8), 1, 1⟩ : Reading), (⟨([108, 111, 97, 100] : List UInt8), 7, 1⟩ : Reading)] : List Reading)) 0 rfl (by decide) (by show 2 ≤ lim; decide) ((RepAll.one (T := tyReading) (x := (⟨([119, 104, 105, 99, 104] : List UInt8), 1, 1⟩ : Reading)) rfl).append (RepAll.one (T := tyReading) (x := (⟨([108, 111, 97, 100] : List UInt8), 7, 1⟩ : Reading)) rfl))
  obtain ⟨aR, s, aS, W⟩ := bk.freeze 0 rfl
  replace m := m.mono s
  replace o := o.mono s
  have X : Mem w.heap.size [] w Z [.row z (e27Mf ((writeS engine (readS engine (⟨100, false, false, false, 0, ([1, 7] : List Int)⟩ : Frame)).1).1) i j) 27] aR aP := aS
  refine fcl V X (.bool (reqS (readS engine (⟨100, false, false, false, 0, ([1, 7] : List Int)⟩ : Frame)).1 ([(⟨([119, 104, 105, 99, 104] : List UInt8), 1, 1⟩ : Reading), (⟨([108, 111, 97, 100] : List UInt8), 7, 1⟩ : Reading)] : List Reading))) 11 #[.slice k (readS engine (⟨100, false, false, false, 0, ([1, 7] : List Int)⟩ : Frame)).1.length l, .slice (sm U) ([(⟨([119, 104, 105, 99, 104] : List UInt8), 1, 1⟩ : Reading), (⟨([108, 111, 97, 100] : List UInt8), 7, 1⟩ : Reading)] : List Reading).length 2] (wK V true) rfl (by kernel_rfl) (fun _ => by kernel_rfl) (req_fun (readS engine (⟨100, false, false, false, 0, ([1, 7] : List Int)⟩ : Frame)).1 ([(⟨([119, 104, 105, 99, 104] : List UInt8), 1, 1⟩ : Reading), (⟨([108, 111, 97, 100] : List UInt8), 7, 1⟩ : Reading)] : List Reading) k l (sm U) 2 _ _ m W X.fz) ?_; intro bK bL aT t
  refine bt aT t 2 [] [30] [(31, .bool (reqS (readS engine (⟨100, false, false, false, 0, ([1, 7] : List Int)⟩ : Frame)).1 ([(⟨([119, 104, 105, 99, 104] : List UInt8), 1, 1⟩ : Reading), (⟨([108, 111, 97, 100] : List UInt8), 7, 1⟩ : Reading)] : List Reading)))] ?_; intro bM I
  rcases Bool.eq_false_or_eq_true ((reqS (readS engine (⟨100, false, false, false, 0, ([1, 7] : List Int)⟩ : Frame)).1 ([(⟨([119, 104, 105, 99, 104] : List UInt8), 1, 1⟩ : Reading), (⟨([108, 111, 97, 100] : List UInt8), 7, 1⟩ : Reading)] : List Reading))) with B | B
  · -- true
   have bl := H.1 B
   have aU := I.reval (d := 31) (c := []) (v := .bool (reqS (readS engine (⟨100, false, false, false, 0, ([1, 7] : List Int)⟩ : Frame)).1 ([(⟨([119, 104, 105, 99, 104] : List UInt8), 1, 1⟩ : Reading), (⟨([108, 111, 97, 100] : List UInt8), 7, 1⟩ : Reading)] : List Reading))) (by kernel_rfl) (.bool true) (by rw [B])
   refine bt aU t 2 [0] [32, 33] [(33, .slice i (writeS engine (readS engine (⟨100, false, false, false, 0, ([1, 7] : List Int)⟩ : Frame)).1).1.Data.length j)] ?_; intro bN Y
   refine sn Y t (fun b => .slice (sm b) 2 2) [y8 1, y8 7] 5 (wK Y true) rfl (by kernel_rfl) (by kernel_rfl) ?_; intro aa bO aV ab aW
   have bm : Mem w.heap.size [] w Z [.own t8 5 (sm aa) 2 ([1, 7] : List Int), .row z (e27Mf ((writeS engine (readS engine (⟨100, false, false, false, 0, ([1, 7] : List Int)⟩ : Frame)).1).1) i j) 27] aR aV := aW.rowOwn (T := t8) (xs := ([1, 7] : List Int)) 0 rfl (by decide) (by show 2 ≤ lim; decide) ((RepAll.one (T := t8) (x := 1) rfl).append (RepAll.one (T := t8) (x := 7) rfl))
   obtain ⟨bn, n, aX, bo⟩ := bm.freeze 0 rfl
   replace o := o.mono n
   have ac : Mem w.heap.size [] w Z [.row z (e27Mf ((writeS engine (readS engine (⟨100, false, false, false, 0, ([1, 7] : List Int)⟩ : Frame)).1).1) i j) 27] bn aV := aX
   refine fcl ab ac (.bool (beqS (writeS engine (readS engine (⟨100, false, false, false, 0, ([1, 7] : List Int)⟩ : Frame)).1).1.Data ([1, 7] : List Int))) 32 #[.slice i (writeS engine (readS engine (⟨100, false, false, false, 0, ([1, 7] : List Int)⟩ : Frame)).1).1.Data.length j, .slice (sm aa) ([1, 7] : List Int).length 2] (wK ab true) rfl (by kernel_rfl) (fun _ => by kernel_rfl) (beq_fun (writeS engine (readS engine (⟨100, false, false, false, 0, ([1, 7] : List Int)⟩ : Frame)).1).1.Data ([1, 7] : List Int) i j (sm aa) 2 _ _ o bo ac.fz) ?_; intro bP bQ aY aZ
   refine bt aY aZ 2 [] [36] [(0, .bool (beqS (writeS engine (readS engine (⟨100, false, false, false, 0, ([1, 7] : List Int)⟩ : Frame)).1).1.Data ([1, 7] : List Int)))] ?_; intro bR bp
   apply q
   exact r_ (ra1 bp (.bool (beqS (writeS engine (readS engine (⟨100, false, false, false, 0, ([1, 7] : List Int)⟩ : Frame)).1).1.Data ([1, 7] : List Int))) ⟨(beqS (writeS engine (readS engine (⟨100, false, false, false, 0, ([1, 7] : List Int)⟩ : Frame)).1).1.Data ([1, 7] : List Int)), rfl, bl, aZ.below⟩)
  · -- false
   have bq := H.2 B
   have a1 := I.reval (d := 31) (c := []) (v := .bool (reqS (readS engine (⟨100, false, false, false, 0, ([1, 7] : List Int)⟩ : Frame)).1 ([(⟨([119, 104, 105, 99, 104] : List UInt8), 1, 1⟩ : Reading), (⟨([108, 111, 97, 100] : List UInt8), 7, 1⟩ : Reading)] : List Reading))) (by kernel_rfl) (.bool false) (by rw [B])
   refine bt a1 t 6 [] [32, 33, 34, 35, 36] [(0, .bool false)] ?_; intro bS br
   apply q
   exact r_ (ra1 br (.bool false) ⟨false, rfl, bq, t.below⟩)
 · -- false
  have bs := F.2 A
  have a3 := G.reval (d := 24) (c := []) (v := .bool (((readS engine (⟨100, false, false, false, 0, ([1, 7] : List Int)⟩ : Frame)).2 == 0) && ((writeS engine (readS engine (⟨100, false, false, false, 0, ([1, 7] : List Int)⟩ : Frame)).1).2 == 0))) (by kernel_rfl) (.bool false) (by rw [A])
  refine bt a3 p 13 [] [25, 26, 27, 28, 29, 30, 32, 33, 34, 35, 36] [(0, .bool false)] ?_; intro bT bu
  apply q
  exact r_ (ra1 bu (.bool false) ⟨false, rfl, bs, p.below⟩)

end Go.Proofs.YtdndfbamhnchfaaGreatDoor
namespace Go.Proofs
open Go.Shelf
def Tryz.lays160_ren : Go.Shelf.Ren := ⟨fun | 160 => 63 | 232 => 92 | 231 => 91 | 227 => 93 | 234 => 95 | 233 => 94 | 236 => 97 | 235 => 96 | 228 => 109 | 271 => 112 | 151 => 111 | 197 => 110 | 120 => 128 | 152 => 127 | 260 => 126 | 137 => 137 | 119 => 138 | 224 => 139 | 225 => 140 | 217 => 142 | 266 => 143 | n => n, fun | 9 => 9 | 4 => 4 | 3 => 3 | 5 => 5 | 117 => 115 | 116 => 114 | 0 => 0 | 124 => 118 | 21 => 21 | 105 => 127 | 46 => 82 | 119 => 153 | 139 => 156 | 138 => 155 | n => n, fun | 3 => 0 | 4 => 1 | n => n⟩
theorem Tryz.lays160 : Go.Proofs.Lays.n160 Tryz.prog Tryz.lays160_ren := {
  mixed := by kernel_rfl
  f119 := Tryz.func138.trans (congrArg some (by kernel_rfl))
  f120 := Tryz.func128.trans (congrArg some (by kernel_rfl))
  f137 := Tryz.func137.trans (congrArg some (by kernel_rfl))
  f151 := Tryz.func111.trans (congrArg some (by kernel_rfl))
  f152 := Tryz.func127.trans (congrArg some (by kernel_rfl))
  f160 := Tryz.func63.trans (congrArg some (by kernel_rfl))
  f197 := Tryz.func110.trans (congrArg some (by kernel_rfl))
  f217 := Tryz.func142.trans (congrArg some (by kernel_rfl))
  f224 := Tryz.func139.trans (congrArg some (by kernel_rfl))
  f225 := Tryz.func140.trans (congrArg some (by kernel_rfl))
  f227 := Tryz.func93.trans (congrArg some (by kernel_rfl))
  f228 := Tryz.func109.trans (congrArg some (by kernel_rfl))
  f231 := Tryz.func91.trans (congrArg some (by kernel_rfl))
  f232 := Tryz.func92.trans (congrArg some (by kernel_rfl))
  f233 := Tryz.func94.trans (congrArg some (by kernel_rfl))
  f234 := Tryz.func95.trans (congrArg some (by kernel_rfl))
  f235 := Tryz.func96.trans (congrArg some (by kernel_rfl))
  f236 := Tryz.func97.trans (congrArg some (by kernel_rfl))
  f260 := Tryz.func126.trans (congrArg some (by kernel_rfl))
  f266 := Tryz.func143.trans (congrArg some (by kernel_rfl))
  f271 := Tryz.func112.trans (congrArg some (by kernel_rfl))
  t0 := Tryz.underlying0
  a0 := Tryz.isAgg0
  z0 := Tryz.sizeOf0
  v0 := Tryz.zeroValue0
  t3 := Tryz.underlying3
  a3 := Tryz.isAgg3
  z3 := Tryz.sizeOf3
  v3 := Tryz.zeroValue3
  t4 := Tryz.underlying4
  a4 := Tryz.isAgg4
  z4 := Tryz.sizeOf4
  v4 := Tryz.zeroValue4
  t5 := Tryz.underlying5
  a5 := Tryz.isAgg5
  z5 := Tryz.sizeOf5
  v5 := Tryz.zeroValue5
  t9 := Tryz.underlying9
  a9 := Tryz.isAgg9
  z9 := Tryz.sizeOf9
  v9 := Tryz.zeroValue9
  t21 := Tryz.underlying21
  a21 := Tryz.isAgg21
  z21 := Tryz.sizeOf21
  v21 := Tryz.zeroValue21
  t46 := Tryz.underlying82
  a46 := Tryz.isAgg82
  z46 := Tryz.sizeOf82
  v46 := Tryz.zeroValue82
  t105 := Tryz.underlying127
  a105 := Tryz.isAgg127
  z105 := Tryz.sizeOf127
  v105 := Tryz.zeroValue127
  t116 := Tryz.underlying114
  a116 := Tryz.isAgg114
  z116 := Tryz.sizeOf114
  t117 := Tryz.underlying115
  a117 := Tryz.isAgg115
  z117 := Tryz.sizeOf115
  v117 := Tryz.zeroValue115
  t119 := Tryz.underlying153
  a119 := Tryz.isAgg153
  z119 := Tryz.sizeOf153
  t124 := Tryz.underlying118
  a124 := Tryz.isAgg118
  z124 := Tryz.sizeOf118
  v124 := Tryz.zeroValue118
  t138 := Tryz.underlying155
  a138 := Tryz.isAgg155
  z138 := Tryz.sizeOf155
  v138 := Tryz.zeroValue155
  t139 := Tryz.underlying156
  a139 := Tryz.isAgg156
  z139 := Tryz.sizeOf156
  v139 := Tryz.zeroValue156
  g3 := by kernel_rfl
  g4 := by kernel_rfl }
end Go.Proofs
set_option linter.unusedVariables false
set_option linter.unusedSimpArgs false
set_option maxRecDepth 100000
set_option maxHeartbeats 0
namespace Go.Proofs.YtdndfbamhnchfaaGreatDoor
open Go.Sy Go.RowKit
abbrev e46P (X : Signal) : List Value := [str X.Name, i6 X.Start, i6 X.Size, .bool X.Back, .bool X.Signed, i6 X.Mul, i6 X.Div, i6 X.Add, i6 X.Key]
theorem iidxf_walk (u0 : List Int) (u1 : Int → Bool) (ao1 : Option Addr) (cap2 : Nat) (fid4 : Nat) (caps5 : Array Value) (Z : Fz) (w : World) (hs3 : SlR t6 Z ao1 cap2 u0) (hf6 : ∀ (Z1 : Fz) (w1 : World), Z.le Z1 → Z1.on w1 → ∀ (x0 : Int), Calls Tryz.prog fid4 (#[i6 x0] ++ caps5) w1 fun e w2 => e = .returned (.bool (u1 x0)) ∧ Below w1.heap.size w1 w2) (hg7 : ∀ x w, Sem.run Tryz.prog (callFunc fid4 x) w = .ok (.enter fid4 x) w) (hZ : Z.on w) {K : Int → Prop} (hp : iidxf_vc u0 u1 K) : Calls Tryz.prog 98 #[.slice ao1 u0.length cap2, .func (.func fid4) #[] caps5] w fun e w' => ∃ r : Int, e = .returned (i6 r) ∧ K r ∧ Below w.heap.size w w' := by
 refine enter0 Tryz.func98 rfl rfl (by kernel_rfl) ?_; intro a0 n; have g := Mem.start w Z hZ; have I := Fz.le.refl Z
 have J := hp (hs3.small)
 refine sqB n g [] [] [] ?_; intro ah o
 refine s_ (sqB o g [] [] [(7, i6 (u0.length : Int)), (8, i6 0)] ?_); intro p q
 apply b_
 have u : Fr 19 [] [⟨0, [], .slice ao1 u0.length cap2⟩, ⟨1, [], .func (.func fid4) #[] caps5⟩, ⟨7, [], i6 (u0.length : Int)⟩, ⟨8, [], i6 0⟩] p := q.reg
 obtain ⟨L, M, N, O⟩ := J
 refine lp (ι := Int) (fun s => [⟨0, [], .slice ao1 u0.length cap2⟩, ⟨1, [], .func (.func fid4) #[] caps5⟩, ⟨7, [], i6 (u0.length : Int)⟩, ⟨8, [], i6 s⟩]) (fun s => []) (fun s => Z) (fun s => L s) (fun s => M s) 0 N (by exact u.region (by kernel_rfl) (by kernel_rfl)) (by exact g) ?_
 rintro a P Q R y z
 have h := O a P
 refine sqB y z [] [] [(9, .bool (decide (a < (u0.length : Int))))] ?_; intro ai d
 apply s_
 refine cd d (t := decide (a < (u0.length : Int))) (by kernel_rfl) (fun l => ?_) (fun l => ?_)
 · -- yes
  have S := h.1 l
  refine k_ (s_ (b_ (sqB d z [] [] [(5, i6 a)] ?_))); intro aj B
  refine sqH ?_; intro U C
  refine bt B z 3 [] [] [(11, .func (.func fid4) #[] caps5), (12, .slice ao1 u0.length cap2), (13, i6 a)] ?_; intro ak D
  obtain ⟨V, E⟩ := S
  refine ix_ D hs3 a V .i64 3 8 ?_; intro al am W c an X Y aa F
  have i := E c X
  obtain rfl : W = ([i6 c] : List Value) := aa
  refine z1 F z 15 Y 0 (i6 c) rfl ?_; intro ao G
  have ab := hf6 _ _ I z.fz c
  refine fcl G z (.bool (u1 c)) fid4 (#[i6 c] ++ caps5) (nog rfl _) rfl (by kernel_rfl) ?h1 ?h2 ?_
  case h1 => exact fv_run rfl (by kernel_rfl) (by kernel_rfl) hg7
  case h2 => exact ab
  intro ap aq f j
  apply C
  refine cd f (t := (u1 c)) (by kernel_rfl) (fun m => ?_) (fun m => ?_)
  · -- yes
   have ac := i.1 m
   refine sqB f j [] [] [(4, i6 a)] ?_; intro ar ad
   exact r_ (i_ (h_ (h_ (i_ (h_ (ra1 ad (i6 a) ⟨a, rfl, ac, j.below⟩))))))
  · -- no
   have H := i.2 m
   refine l_ (j_ (t_ (rgB f j [] [] [(8, i6 (w64 (a + 1)))] ?_))); intro au ae
   exact d_ ⟨w64 (a + 1), H.1, H.2, (ae.region (by kernel_rfl) (by kernel_rfl)).anyβ _ (by kernel_rfl), j.kp⟩
 · -- no
  have af := h.2 l
  refine x_ (y_ (y_ (z_ (t_ (sqB d z [] [] [(4, i6 (-1))] ?_))))); intro av ag
  exact r_ (ra1 ag (i6 (-1)) ⟨-1, rfl, af, z.below⟩)

theorem icontf_walk (u0 : List Int) (u1 : Int → Bool) (ao1 : Option Addr) (cap2 : Nat) (fid4 : Nat) (caps5 : Array Value) (Z : Fz) (w : World) (hs3 : SlR t6 Z ao1 cap2 u0) (hf6 : ∀ (Z1 : Fz) (w1 : World), Z.le Z1 → Z1.on w1 → ∀ (x0 : Int), Calls Tryz.prog fid4 (#[i6 x0] ++ caps5) w1 fun e w2 => e = .returned (.bool (u1 x0)) ∧ Below w1.heap.size w1 w2) (hg7 : ∀ x w, Sem.run Tryz.prog (callFunc fid4 x) w = .ok (.enter fid4 x) w) (hZ : Z.on w) {K : Bool → Prop} (hp : icontf_vc u0 u1 K) : Calls Tryz.prog 65 #[.slice ao1 u0.length cap2, .func (.func fid4) #[] caps5] w fun e w' => ∃ r : Bool, e = .returned (.bool r) ∧ K r ∧ Below w.heap.size w w' := by
 refine enter0 Tryz.func65 rfl rfl (by kernel_rfl) ?_; intro o c; have a := Mem.start w Z hZ; have j := Fz.le.refl Z
 have k := hp (hs3.small)
 refine sqB c a [] [] [] ?_; intro p d
 refine sqH ?_; intro l f
 refine bt d a 2 [] [] [(5, .slice ao1 u0.length cap2), (6, .func (.func fid4) #[] caps5)] ?_; intro q g
 refine ck g 98 #[.slice ao1 u0.length cap2, .func (.func fid4) #[] caps5] ?_
 refine (iidxf_walk u0 u1 ao1 cap2 fid4 caps5 _ _ hs3 (fun Z1 w1 h1 h2 => hf6 Z1 w1 (j.trans h1) h2) hg7 a.fz k).mono ?_; rintro _ s ⟨b, rfl, m, hb⟩; refine ⟨_, rfl, ?_⟩; intro t h; have i := a.call hb
 refine bt h i 2 [] [] [(4, .bool (decide (b ≥ 0)))] ?_; intro u n
 apply f
 exact r_ (ra1 n (.bool (decide (b ≥ 0))) ⟨decide (b ≥ 0), rfl, m, i.below⟩)

theorem rplaces_walk (u0 : Signal)  (Z : Fz) (w : World)  (hZ : Z.on w) {K : (List Int) → Prop} (hp : rplaces_vc u0 K) : Calls Tryz.prog 56 #[.agg #[str u0.Name, i6 u0.Start, i6 u0.Size, .bool u0.Back, .bool u0.Signed, i6 u0.Mul, i6 u0.Div, i6 u0.Add, i6 u0.Key]] w fun e w' => ∃ (r : (List Int)) (ao1001 : Option Addr) (cap1002 : Nat) (Z' : Fz), e = .returned (.slice ao1001 r.length cap1002) ∧ K r ∧ Mem w.heap.size [] w Z [.own t6 3 ao1001 cap1002 r] Z' w' := by
 refine enter0 Tryz.func56 rfl rfl (by kernel_rfl) ?_; intro a0 C; have D := Mem.start w Z hZ
 refine sqH ?_; intro av E
 refine nw C D pb (e46P u0) 46 ?_; intro f a3 bc F x
 refine s1 F 2 (.slice none 0 0) ?_; intro a7 G
 apply E
 refine sqH ?_; intro aw H
 refine bt G x 2 [0] [] [(9, i6 u0.Size)] ?_; intro bd I
 obtain ⟨be, n⟩ := hp
 refine mks I x (T := t6) u0.Size u0.Size (k := .i64) (k' := .i64) (e := 3) (bytes := 8) (zs := [i6 0]) (z := 0) (by simp only [lim]; omega) (nog rfl _) rfl (by kernel_rfl) rfl (by kernel_rfl) (by kernel_rfl) (by kernel_rfl) (by kernel_rfl) rfl ?_; intro b bf ax J L
 have h : Mem w.heap.size [] w Z [.own t6 3 (sm b) u0.Size.toNat (List.replicate u0.Size.toNat (0 : Int)), .row f (e46P u0) 46] Z ax := L
 refine s1 J 3 (.slice (sm b) (List.replicate u0.Size.toNat (0 : Int)).length u0.Size.toNat) ?_; intro bg M
 apply H
 refine s_ (sqB M h [1] [] [(13, .bool (!u0.Back))] ?_); intro bh j
 refine cd j (t := !u0.Back) (by kernel_rfl) (fun y => ?_) (fun y => ?_)
 · -- yes
  have ay := n.1 y
  refine s_ (sqB j h [] [] [(15, i6 ((List.replicate u0.Size.toNat (0 : Int)).length : Int)), (16, i6 0)] ?_); intro N O
  apply b_
  have P : Fr 61 [] [⟨1, [], pt f 0⟩, ⟨3, [], .slice (sm b) (List.replicate u0.Size.toNat (0 : Int)).length u0.Size.toNat⟩, ⟨15, [], i6 ((List.replicate u0.Size.toNat (0 : Int)).length : Int)⟩, ⟨16, [], i6 0⟩] N := O.reg
  obtain ⟨az, aA, aB, aC⟩ := ay
  refine lp (ι := Int × (List Int)) (fun s => [⟨1, [], pt f 0⟩, ⟨3, [], .slice (sm b) s.2.length u0.Size.toNat⟩, ⟨15, [], i6 ((List.replicate u0.Size.toNat (0 : Int)).length : Int)⟩, ⟨16, [], i6 s.1⟩]) (fun s => [.own t6 3 (sm b) u0.Size.toNat s.2, .row f (e46P u0) 46]) (fun s => Z) (fun s => az s.1 s.2) (fun s => aA s.1 s.2) ⟨0, (List.replicate u0.Size.toNat (0 : Int))⟩ aB (by exact P.region (by kernel_rfl) (by kernel_rfl)) (by exact h) ?_
  rintro ⟨c, d⟩ aD aE aF R S
  have o := aC c d aD
  refine sqB R S [] [] [(17, .bool (decide (c < ((List.replicate u0.Size.toNat (0 : Int)).length : Int))))] ?_; intro bi l
  apply s_
  refine cd l (t := decide (c < ((List.replicate u0.Size.toNat (0 : Int)).length : Int))) (by kernel_rfl) (fun A => ?_) (fun A => ?_)
  · -- yes
   have aG := o.1 A
   refine k_ (s_ (b_ (sqB l S [] [] [(4, i6 c)] ?_))); intro bj V
   refine rgH ?_; intro aH W
   refine bt V S 6 [1] [] [(19, .slice (sm b) d.length u0.Size.toNat), (20, i6 c), (24, i6 (w64 (u0.Start + c)))] ?_; intro bk X
   obtain ⟨aI, Y⟩ := aG
   refine ixo X S 0 (T := t6) (xs := d) c aI (k := .i64) (e := 3) (bytes := 8) (nog rfl _) rfl (by kernel_rfl) rfl (by kernel_rfl) (by kernel_rfl) rfl (by kernel_rfl) ?_; intro aJ aK aL p
   obtain rfl : b = aJ := by simpa using aL
   refine so p S 0 (T := t6) (xs := d) c.toNat (w64 (u0.Start + c)) (u := i6 (w64 (u0.Start + c))) (nog rfl _) rfl rfl (by kernel_rfl) rfl (by kernel_rfl) rfl (by kernel_rfl) (by first | omega | (simp only [List.length_set] at *; omega)) rfl ?_; intro aM aa
   have ab : Fr 61 [] [⟨1, [], pt f 0⟩, ⟨3, [], .slice (sm b) (d.set c.toNat (w64 (u0.Start + c))).length u0.Size.toNat⟩, ⟨4, [], i6 c⟩, ⟨15, [], i6 ((List.replicate u0.Size.toNat (0 : Int)).length : Int)⟩, ⟨16, [], i6 c⟩, ⟨17, [], .bool (decide (c < ((List.replicate u0.Size.toNat (0 : Int)).length : Int)))⟩, ⟨19, [], .slice (sm b) (d.set c.toNat (w64 (u0.Start + c))).length u0.Size.toNat⟩, ⟨20, [], i6 c⟩, ⟨24, [], i6 (w64 (u0.Start + c))⟩, ⟨25, [], .pointer (some ⟨b, c.toNat * 1, none⟩)⟩] aK := by (try simp only [List.length_set] at p); (try simp only [List.length_set]); exact p.region (by kernel_rfl) (by kernel_rfl)
   have ac : Mem w.heap.size [] w Z [.own t6 3 (sm b) u0.Size.toNat (d.set c.toNat (w64 (u0.Start + c))), .row f (e46P u0) 46] Z aM := aa
   apply W
   refine j_ (t_ (rgB ab ac [] [] [(16, i6 (w64 (c + 1)))] ?_)); intro bl aN
   exact d_ ⟨⟨w64 (c + 1), d.set c.toNat (w64 (u0.Start + c))⟩, Y.1, Y.2, (aN.region (by kernel_rfl) (by kernel_rfl)).anyβ _ (by kernel_rfl), ac.kp⟩
  · -- no
   have aO := o.2 A
   refine x_ (y_ (y_ (z_ (t_ (sqB l S [] [] [(2, .slice (sm b) d.length u0.Size.toNat)] ?_))))); intro bm aP
   exact r_ (h_ (ra1 aP (.slice (sm b) d.length u0.Size.toNat) ⟨d, (sm b), u0.Size.toNat, Z, rfl, aO, S.kp⟩))
 · -- no
  have aQ := n.2 y
  refine k_ (sqB j h [1, 1] [] [(5, i6 (w64 ((w64 ((w64 ((w64 (u0.Start.tdiv 8)) * 8)) + 7)) - (u0.Start.tmod 8))))] ?_); intro bn ad
  refine s_ (sqB ad h [] [] [(38, i6 ((List.replicate u0.Size.toNat (0 : Int)).length : Int)), (39, i6 0)] ?_); intro ae af
  apply b_
  have ag : Fr 61 [] [⟨1, [], pt f 0⟩, ⟨3, [], .slice (sm b) (List.replicate u0.Size.toNat (0 : Int)).length u0.Size.toNat⟩, ⟨5, [], i6 (w64 ((w64 ((w64 ((w64 (u0.Start.tdiv 8)) * 8)) + 7)) - (u0.Start.tmod 8)))⟩, ⟨38, [], i6 ((List.replicate u0.Size.toNat (0 : Int)).length : Int)⟩, ⟨39, [], i6 0⟩] ae := af.reg
  obtain ⟨aR, aS, aT, aU⟩ := aQ
  refine lp (ι := Int × (List Int)) (fun s => [⟨1, [], pt f 0⟩, ⟨3, [], .slice (sm b) s.2.length u0.Size.toNat⟩, ⟨5, [], i6 (w64 ((w64 ((w64 ((w64 (u0.Start.tdiv 8)) * 8)) + 7)) - (u0.Start.tmod 8)))⟩, ⟨38, [], i6 ((List.replicate u0.Size.toNat (0 : Int)).length : Int)⟩, ⟨39, [], i6 s.1⟩]) (fun s => [.own t6 3 (sm b) u0.Size.toNat s.2, .row f (e46P u0) 46]) (fun s => Z) (fun s => aR s.1 s.2) (fun s => aS s.1 s.2) ⟨0, (List.replicate u0.Size.toNat (0 : Int))⟩ aT (by exact ag.region (by kernel_rfl) (by kernel_rfl)) (by exact h) ?_
  rintro ⟨a, d⟩ aV aW aX ai aj
  have q := aU a d aV
  refine sqB ai aj [] [] [(40, .bool (decide (a < ((List.replicate u0.Size.toNat (0 : Int)).length : Int))))] ?_; intro bo m
  apply s_
  refine cd m (t := decide (a < ((List.replicate u0.Size.toNat (0 : Int)).length : Int))) (by kernel_rfl) (fun B => ?_) (fun B => ?_)
  · -- yes
   have aY := q.1 B
   refine k_ (s_ (b_ (sqB m aj [] [] [(6, i6 a)] ?_))); intro bp al
   refine sqB al aj [1] [] [(7, i6 (w64 ((w64 ((w64 ((w64 ((w64 ((w64 ((w64 (u0.Start.tdiv 8)) * 8)) + 7)) - (u0.Start.tmod 8))) + u0.Size)) - 1)) - a)))] ?_; intro bq am
   refine rgH ?_; intro aZ an
   refine bt am aj 9 [] [] [(49, .slice (sm b) d.length u0.Size.toNat), (50, i6 a), (57, i6 (w64 ((w64 ((w64 ((w64 ((w64 ((w64 ((w64 ((w64 ((w64 ((w64 ((w64 (u0.Start.tdiv 8)) * 8)) + 7)) - (u0.Start.tmod 8))) + u0.Size)) - 1)) - a)).tdiv 8)) * 8)) + 7)) - ((w64 ((w64 ((w64 ((w64 ((w64 ((w64 ((w64 (u0.Start.tdiv 8)) * 8)) + 7)) - (u0.Start.tmod 8))) + u0.Size)) - 1)) - a)).tmod 8))))] ?_; intro br ao
   obtain ⟨a1, ap⟩ := aY
   refine ixo ao aj 0 (T := t6) (xs := d) a a1 (k := .i64) (e := 3) (bytes := 8) (nog rfl _) rfl (by kernel_rfl) rfl (by kernel_rfl) (by kernel_rfl) rfl (by kernel_rfl) ?_; intro a2 a4 a5 v
   obtain rfl : b = a2 := by simpa using a5
   refine so v aj 0 (T := t6) (xs := d) a.toNat (w64 ((w64 ((w64 ((w64 ((w64 ((w64 ((w64 ((w64 ((w64 ((w64 ((w64 (u0.Start.tdiv 8)) * 8)) + 7)) - (u0.Start.tmod 8))) + u0.Size)) - 1)) - a)).tdiv 8)) * 8)) + 7)) - ((w64 ((w64 ((w64 ((w64 ((w64 ((w64 ((w64 (u0.Start.tdiv 8)) * 8)) + 7)) - (u0.Start.tmod 8))) + u0.Size)) - 1)) - a)).tmod 8))) (u := i6 (w64 ((w64 ((w64 ((w64 ((w64 ((w64 ((w64 ((w64 ((w64 ((w64 ((w64 (u0.Start.tdiv 8)) * 8)) + 7)) - (u0.Start.tmod 8))) + u0.Size)) - 1)) - a)).tdiv 8)) * 8)) + 7)) - ((w64 ((w64 ((w64 ((w64 ((w64 ((w64 ((w64 (u0.Start.tdiv 8)) * 8)) + 7)) - (u0.Start.tmod 8))) + u0.Size)) - 1)) - a)).tmod 8)))) (nog rfl _) rfl rfl (by kernel_rfl) rfl (by kernel_rfl) rfl (by kernel_rfl) (by first | omega | (simp only [List.length_set] at *; omega)) rfl ?_; intro a6 aq
   have ar : Fr 61 [] [⟨1, [], pt f 0⟩, ⟨3, [], .slice (sm b) (d.set a.toNat (w64 ((w64 ((w64 ((w64 ((w64 ((w64 ((w64 ((w64 ((w64 ((w64 ((w64 (u0.Start.tdiv 8)) * 8)) + 7)) - (u0.Start.tmod 8))) + u0.Size)) - 1)) - a)).tdiv 8)) * 8)) + 7)) - ((w64 ((w64 ((w64 ((w64 ((w64 ((w64 ((w64 (u0.Start.tdiv 8)) * 8)) + 7)) - (u0.Start.tmod 8))) + u0.Size)) - 1)) - a)).tmod 8)))).length u0.Size.toNat⟩, ⟨5, [], i6 (w64 ((w64 ((w64 ((w64 (u0.Start.tdiv 8)) * 8)) + 7)) - (u0.Start.tmod 8)))⟩, ⟨6, [], i6 a⟩, ⟨7, [], i6 (w64 ((w64 ((w64 ((w64 ((w64 ((w64 ((w64 (u0.Start.tdiv 8)) * 8)) + 7)) - (u0.Start.tmod 8))) + u0.Size)) - 1)) - a))⟩, ⟨38, [], i6 ((List.replicate u0.Size.toNat (0 : Int)).length : Int)⟩, ⟨39, [], i6 a⟩, ⟨40, [], .bool (decide (a < ((List.replicate u0.Size.toNat (0 : Int)).length : Int)))⟩, ⟨49, [], .slice (sm b) (d.set a.toNat (w64 ((w64 ((w64 ((w64 ((w64 ((w64 ((w64 ((w64 ((w64 ((w64 ((w64 (u0.Start.tdiv 8)) * 8)) + 7)) - (u0.Start.tmod 8))) + u0.Size)) - 1)) - a)).tdiv 8)) * 8)) + 7)) - ((w64 ((w64 ((w64 ((w64 ((w64 ((w64 ((w64 (u0.Start.tdiv 8)) * 8)) + 7)) - (u0.Start.tmod 8))) + u0.Size)) - 1)) - a)).tmod 8)))).length u0.Size.toNat⟩, ⟨50, [], i6 a⟩, ⟨57, [], i6 (w64 ((w64 ((w64 ((w64 ((w64 ((w64 ((w64 ((w64 ((w64 ((w64 ((w64 (u0.Start.tdiv 8)) * 8)) + 7)) - (u0.Start.tmod 8))) + u0.Size)) - 1)) - a)).tdiv 8)) * 8)) + 7)) - ((w64 ((w64 ((w64 ((w64 ((w64 ((w64 ((w64 (u0.Start.tdiv 8)) * 8)) + 7)) - (u0.Start.tmod 8))) + u0.Size)) - 1)) - a)).tmod 8)))⟩, ⟨58, [], .pointer (some ⟨b, a.toNat * 1, none⟩)⟩] a4 := by (try simp only [List.length_set] at v); (try simp only [List.length_set]); exact v.region (by kernel_rfl) (by kernel_rfl)
   have au : Mem w.heap.size [] w Z [.own t6 3 (sm b) u0.Size.toNat (d.set a.toNat (w64 ((w64 ((w64 ((w64 ((w64 ((w64 ((w64 ((w64 ((w64 ((w64 ((w64 (u0.Start.tdiv 8)) * 8)) + 7)) - (u0.Start.tmod 8))) + u0.Size)) - 1)) - a)).tdiv 8)) * 8)) + 7)) - ((w64 ((w64 ((w64 ((w64 ((w64 ((w64 ((w64 (u0.Start.tdiv 8)) * 8)) + 7)) - (u0.Start.tmod 8))) + u0.Size)) - 1)) - a)).tmod 8)))), .row f (e46P u0) 46] Z a6 := aq
   apply an
   refine j_ (t_ (rgB ar au [] [] [(39, i6 (w64 (a + 1)))] ?_)); intro bs a8
   exact d_ ⟨⟨w64 (a + 1), d.set a.toNat (w64 ((w64 ((w64 ((w64 ((w64 ((w64 ((w64 ((w64 ((w64 ((w64 ((w64 (u0.Start.tdiv 8)) * 8)) + 7)) - (u0.Start.tmod 8))) + u0.Size)) - 1)) - a)).tdiv 8)) * 8)) + 7)) - ((w64 ((w64 ((w64 ((w64 ((w64 ((w64 ((w64 (u0.Start.tdiv 8)) * 8)) + 7)) - (u0.Start.tmod 8))) + u0.Size)) - 1)) - a)).tmod 8)))⟩, ap.1, ap.2, (a8.region (by kernel_rfl) (by kernel_rfl)).anyβ _ (by kernel_rfl), au.kp⟩
  · -- no
   have a9 := q.2 B
   refine x_ (y_ (y_ (z_ (t_ (sqB m aj [] [] [(2, .slice (sm b) d.length u0.Size.toNat)] ?_))))); intro bu ba
   exact r_ (ra1 ba (.slice (sm b) d.length u0.Size.toNat) ⟨d, (sm b), u0.Size.toNat, Z, rfl, a9, aj.kp⟩)

theorem rin_walk (u0 : Int) (u1 : Int) (u2 : Int)  (Z : Fz) (w : World)  (hZ : Z.on w) {K : Bool → Prop} (hp : rin_vc u0 u1 u2 K) : Calls Tryz.prog 64 #[i6 u0, i6 u1, i6 u2] w fun e w' => ∃ r : Bool, e = .returned (.bool r) ∧ K r ∧ Below w.heap.size w w' := by
 refine enter0 Tryz.func64 rfl rfl (by kernel_rfl) ?_; intro f b; have a := Mem.start w Z hZ
 refine sqB b a [] [] [] ?_; intro h c
 refine sqB c a [] [] [(6, .bool ((decide (u0 ≥ u1)) && (decide (u0 ≤ u2))))] ?_; intro i d
 exact r_ (ra1 d (.bool ((decide (u0 ≥ u1)) && (decide (u0 ≤ u2)))) ⟨(decide (u0 ≥ u1)) && (decide (u0 ≤ u2)), rfl, hp, a.below⟩)
def rin_fun (u0 : Int) (u1 : Int) (u2 : Int)  (Z : Fz) (w : World)  (hZ : Z.on w) := f_ (rin_walk u0 u1 u2  Z w  hZ (rin_ok u0 u1 u2))
theorem trim_fun (u0 : List UInt8) (u1 : List UInt8) (hpre : u0.length ≤ 9223372036854775807 ∧ u1.length < 4294967281 ∧ u1.all (fun b => decide (b.toNat < 128)) = true) (Z : Fz) (w : World) (hZ : Z.on w) : Calls Tryz.prog 63 #[str u0, str u1] w fun e w' => e = .returned (str (trimS u0 u1)) ∧ Below w.heap.size w w' := by
  have h := Any.strings_Trim_laid Tryz.lays160 (by kernel_rfl) ⟨⟨u0⟩⟩ ⟨⟨u1⟩⟩ w (by show u0.length ≤ _; exact hpre.1) (by show u1.length < _; exact hpre.2.1) (ascii_of_all hpre.2.2)
  exact h

end Go.Proofs.YtdndfbamhnchfaaGreatDoor
set_option linter.unusedVariables false
set_option linter.unusedSimpArgs false
set_option maxRecDepth 100000
set_option maxHeartbeats 0
namespace Go.Proofs.YtdndfbamhnchfaaGreatDoor
open Go.Sy Go.RowKit
abbrev e46Q (X : Signal) : List Value := [str X.Name, i6 X.Start, i6 X.Size, .bool X.Back, .bool X.Signed, i6 X.Mul, i6 X.Div, i6 X.Add, i6 X.Key]
def rplaces_fun (u0 : Signal) (hpre : (0 ≤ u0.Start ∧ u0.Start ≤ 512) ∧ 1 ≤ u0.Size ∧ u0.Size ≤ 40)  (Z : Fz) (w : World)  (hZ : Z.on w) := fc_ (rplaces_walk u0  Z w  hZ (rplaces_ok u0 hpre))
def icontf_fun (u0 : List Int) (u1 : Int → Bool) (ao1 : Option Addr) (cap2 : Nat) (fid4 : Nat) (caps5 : Array Value) (Z : Fz) (w : World) (hs3 : SlR t6 Z ao1 cap2 u0) (hf6 : ∀ (Z1 : Fz) (w1 : World), Z.le Z1 → Z1.on w1 → ∀ (x0 : Int), Calls Tryz.prog fid4 (#[i6 x0] ++ caps5) w1 fun e w2 => e = .returned (.bool (u1 x0)) ∧ Below w1.heap.size w1 w2) (hg7 : ∀ x w, Sem.run Tryz.prog (callFunc fid4 x) w = .ok (.enter fid4 x) w) (hZ : Z.on w) := f_ (icontf_walk u0 u1 ao1 cap2 fid4 caps5 Z w hs3 hf6 hg7 hZ (icontf_ok u0 u1))
theorem risname_walk (u0 : List UInt8)  (Z : Fz) (w : World)  (hZ : Z.on w) {K : Bool → Prop} (hp : risname_vc u0 K) : Calls Tryz.prog 26 #[str u0] w fun e w' => ∃ r : Bool, e = .returned (.bool r) ∧ K r ∧ Below w.heap.size w w' := by
 refine enter0 Tryz.func26 rfl rfl (by kernel_rfl) ?_; intro a0 C; have a := Mem.start w Z hZ
 refine sqB C a [] [] [] ?_; intro a2 D
 refine s_ (sqH ?_); intro y b
 refine bt D a 8 [] [27] [(10, .bool ((u0 == ([] : List UInt8)) || (decide ((u0.length : Int) > 16))))] ?_; intro ap j
 rcases Bool.eq_false_or_eq_true ((u0 == ([] : List UInt8)) || (decide ((u0.length : Int) > 16))) with g | g
 · -- true
  have T := hp.1 g
  have E := j.reval (d := 10) (c := []) (v := .bool ((u0 == ([] : List UInt8)) || (decide ((u0.length : Int) > 16)))) (by kernel_rfl) (.bool true) (by rw [g])
  refine bt E a 9 [] [11, 12, 13, 14, 15, 16, 17, 18, 19] [(19, .bool true)] ?_; intro aq z
  apply b
  refine cdT z (by kernel_rfl) ?_
  refine sqB z a [] [] [(2, .bool false)] ?_; intro ar U
  exact r_ (h_ (ra1 U (.bool false) ⟨false, rfl, T, a.below⟩))
 · -- false
  have V := hp.2 g
  have l := j.reval (d := 10) (c := []) (v := .bool ((u0 == ([] : List UInt8)) || (decide ((u0.length : Int) > 16)))) (by kernel_rfl) (.bool false) (by rw [g])
  refine g_ l false (str u0) ?_; intro au m
  obtain ⟨W, X⟩ := V
  obtain ⟨f, F⟩ : ∃ q, u0[(0 : Int).toNat]? = some q := ⟨_, List.getElem?_eq_getElem (by omega)⟩; have n := X f F
  refine v_ m (y8 (f.toNat : Int)) (wK m false) (stridx_run m (k := .i64) rfl (by kernel_rfl) (by kernel_rfl) (by kernel_rfl) W.1 F) ?_; intro av G
  refine bt G a 2 [] [13, 14] [(14, .bool (decide ((f.toNat : Int) ≥ 48)))] ?_; intro aw o
  rcases Bool.eq_false_or_eq_true (decide ((f.toNat : Int) ≥ 48)) with h | h
  · -- true
   have Y := n.1 h
   have p := o.reval (d := 14) (c := []) (v := .bool (decide ((f.toNat : Int) ≥ 48))) (by kernel_rfl) (.bool true) (by rw [h])
   refine g_ p true (str u0) ?_; intro ax s
   obtain ⟨aa, ab⟩ := Y
   obtain ⟨u, H⟩ : ∃ q, u0[(0 : Int).toNat]? = some q := ⟨_, List.getElem?_eq_getElem (by omega)⟩; have x := ab u H
   refine v_ s (y8 (u.toNat : Int)) (wK s true) (stridx_run s (k := .i64) rfl (by kernel_rfl) (by kernel_rfl) (by kernel_rfl) aa.1 H) ?_; intro ay I
   refine bt I a 3 [] [17, 18, 19] [(19, .bool (decide ((u.toNat : Int) ≤ 57)))] ?_; intro az i
   apply b
   refine cd i (t := decide ((u.toNat : Int) ≤ 57)) (by kernel_rfl) (fun A => ?_) (fun A => ?_)
   · -- yes
    have ac := x.1 A
    refine sqB i a [] [] [(2, .bool false)] ?_; intro aA ad
    exact r_ (h_ (ra1 ad (.bool false) ⟨false, rfl, ac, a.below⟩))
   · -- no
    have ae := x.2 A
    refine k_ (sqH ?_); intro af J
    refine s1 i 20 (str u0) ?_; intro aB L
    obtain ⟨ag, ah⟩ := ae
    refine fc L a (trim_fun u0 ([97, 98, 99, 100, 101, 102, 103, 104, 105, 106, 107, 108, 109, 110, 111, 112, 113, 114, 115, 116, 117, 118, 119, 120, 121, 122, 65, 66, 67, 68, 69, 70, 71, 72, 73, 74, 75, 76, 77, 78, 79, 80, 81, 82, 83, 84, 85, 86, 87, 88, 89, 90, 48, 49, 50, 51, 52, 53, 54, 55, 56, 57] : List UInt8) ag _ _ a.fz) ?_; intro aC aD M N
    refine bt M N 2 [] [45] [(2, .bool ((trimS u0 ([97, 98, 99, 100, 101, 102, 103, 104, 105, 106, 107, 108, 109, 110, 111, 112, 113, 114, 115, 116, 117, 118, 119, 120, 121, 122, 65, 66, 67, 68, 69, 70, 71, 72, 73, 74, 75, 76, 77, 78, 79, 80, 81, 82, 83, 84, 85, 86, 87, 88, 89, 90, 48, 49, 50, 51, 52, 53, 54, 55, 56, 57] : List UInt8)) == ([] : List UInt8)))] ?_; intro aE ai
    apply J
    exact r_ (ra1 ai (.bool ((trimS u0 ([97, 98, 99, 100, 101, 102, 103, 104, 105, 106, 107, 108, 109, 110, 111, 112, 113, 114, 115, 116, 117, 118, 119, 120, 121, 122, 65, 66, 67, 68, 69, 70, 71, 72, 73, 74, 75, 76, 77, 78, 79, 80, 81, 82, 83, 84, 85, 86, 87, 88, 89, 90, 48, 49, 50, 51, 52, 53, 54, 55, 56, 57] : List UInt8)) == ([] : List UInt8))) ⟨(trimS u0 ([97, 98, 99, 100, 101, 102, 103, 104, 105, 106, 107, 108, 109, 110, 111, 112, 113, 114, 115, 116, 117, 118, 119, 120, 121, 122, 65, 66, 67, 68, 69, 70, 71, 72, 73, 74, 75, 76, 77, 78, 79, 80, 81, 82, 83, 84, 85, 86, 87, 88, 89, 90, 48, 49, 50, 51, 52, 53, 54, 55, 56, 57] : List UInt8)) == ([] : List UInt8), rfl, ah, N.below⟩)
  · -- false
   have aj := n.2 h
   have O := o.reval (d := 14) (c := []) (v := .bool (decide ((f.toNat : Int) ≥ 48))) (by kernel_rfl) (.bool false) (by rw [h])
   refine bt O a 5 [] [15, 16, 17, 18, 19] [(19, .bool false)] ?_; intro aF B
   apply b
   refine cdF B (by kernel_rfl) ?_
   refine k_ (sqH ?_); intro ak P
   refine s1 B 20 (str u0) ?_; intro aG Q
   obtain ⟨al, am⟩ := aj
   refine fc Q a (trim_fun u0 ([97, 98, 99, 100, 101, 102, 103, 104, 105, 106, 107, 108, 109, 110, 111, 112, 113, 114, 115, 116, 117, 118, 119, 120, 121, 122, 65, 66, 67, 68, 69, 70, 71, 72, 73, 74, 75, 76, 77, 78, 79, 80, 81, 82, 83, 84, 85, 86, 87, 88, 89, 90, 48, 49, 50, 51, 52, 53, 54, 55, 56, 57] : List UInt8) al _ _ a.fz) ?_; intro aH aI R S
   refine bt R S 2 [] [45] [(2, .bool ((trimS u0 ([97, 98, 99, 100, 101, 102, 103, 104, 105, 106, 107, 108, 109, 110, 111, 112, 113, 114, 115, 116, 117, 118, 119, 120, 121, 122, 65, 66, 67, 68, 69, 70, 71, 72, 73, 74, 75, 76, 77, 78, 79, 80, 81, 82, 83, 84, 85, 86, 87, 88, 89, 90, 48, 49, 50, 51, 52, 53, 54, 55, 56, 57] : List UInt8)) == ([] : List UInt8)))] ?_; intro aJ an
   apply P
   exact r_ (ra1 an (.bool ((trimS u0 ([97, 98, 99, 100, 101, 102, 103, 104, 105, 106, 107, 108, 109, 110, 111, 112, 113, 114, 115, 116, 117, 118, 119, 120, 121, 122, 65, 66, 67, 68, 69, 70, 71, 72, 73, 74, 75, 76, 77, 78, 79, 80, 81, 82, 83, 84, 85, 86, 87, 88, 89, 90, 48, 49, 50, 51, 52, 53, 54, 55, 56, 57] : List UInt8)) == ([] : List UInt8))) ⟨(trimS u0 ([97, 98, 99, 100, 101, 102, 103, 104, 105, 106, 107, 108, 109, 110, 111, 112, 113, 114, 115, 116, 117, 118, 119, 120, 121, 122, 65, 66, 67, 68, 69, 70, 71, 72, 73, 74, 75, 76, 77, 78, 79, 80, 81, 82, 83, 84, 85, 86, 87, 88, 89, 90, 48, 49, 50, 51, 52, 53, 54, 55, 56, 57] : List UInt8)) == ([] : List UInt8), rfl, am, S.below⟩)

theorem rov1_walk (u0 : Int) (u1 : List Int) (cb4 co5 : Nat) (ao1 : Option Addr) (cap2 : Nat) (Z : Fz) (w : World) (hP6 : PtR Z cb4 co5 [.slice ao1 u1.length cap2]) (hs3 : SlR t6 Z ao1 cap2 u1) (hZ : Z.on w) {K : Bool → Prop} (hp : rov1_vc u0 u1 K) : Calls Tryz.prog 66 #[i6 u0, pt cb4 co5] w fun e w' => ∃ r : Bool, e = .returned (.bool r) ∧ K r ∧ Below w.heap.size w w' := by
 refine enter0 Tryz.func66 rfl rfl (by kernel_rfl) ?_; intro l b; have a := Mem.start w Z hZ
 refine sqB b a [] [] [] ?_; intro n c
 refine sqH ?_; intro i d
 refine z1 c a 4 hP6 0 (.slice ao1 u1.length cap2) rfl ?_; intro o f
 refine s1 f 5 (i6 u0) ?_; intro p g
 refine fc g a (scontains_fun u1 u0 ao1 cap2 _ _ hs3 a.fz) ?_; intro q s h j
 refine s1 h 3 (.bool (scontainsS u1 u0)) ?_; intro t k
 apply d
 exact r_ (ra1 k (.bool (scontainsS u1 u0)) ⟨(scontainsS u1 u0), rfl, hp, j.below⟩)
def rov1_fun (u0 : Int) (u1 : List Int) (cb4 co5 : Nat) (ao1 : Option Addr) (cap2 : Nat) (Z : Fz) (w : World) (hP6 : PtR Z cb4 co5 [.slice ao1 u1.length cap2]) (hs3 : SlR t6 Z ao1 cap2 u1) (hZ : Z.on w) := f_ (rov1_walk u0 u1 cb4 co5 ao1 cap2 Z w hP6 hs3 hZ (rov1_ok u0 u1))
theorem rrawof_walk (u0 : Signal) (u1 : List Int) (ao1 : Option Addr) (cap2 : Nat) (Z : Fz) (w : World) (hs3 : SlR t8 Z ao1 cap2 u1) (hZ : Z.on w) {K : Int → Prop} (hp : rrawof_vc u0 u1 K) : Calls Tryz.prog 34 #[.agg #[str u0.Name, i6 u0.Start, i6 u0.Size, .bool u0.Back, .bool u0.Signed, i6 u0.Mul, i6 u0.Div, i6 u0.Add, i6 u0.Key], .slice ao1 u1.length cap2] w fun e w' => ∃ r : Int, e = .returned (i6 r) ∧ K r ∧ Below w.heap.size w w' := by
 refine enter0 Tryz.func34 rfl rfl (by kernel_rfl) ?_; intro a0 U; have V := Mem.start w Z hZ
 have aZ := hp (hs3.small)
 refine sqH ?_; intro a2 W
 refine nw U V pb (e46Q u0) 46 ?_; intro i a7 bV X n
 refine s1 X 4 (i6 0) ?_; intro bW Y
 apply W
 refine sqB Y n [] [] [(5, i6 0)] ?_; intro bX aa
 refine s_ (sqH ?_); intro a3 ab
 refine l2 aa n 8 0 0 9 (e46Q u0) rfl rfl ?_; intro bY ac
 obtain ⟨a4, ad⟩ := aZ
 refine ck ac 56 #[.agg (e46Q u0).toArray] ?_
 refine (rplaces_fun u0 a4 _ _ n.fz).mono ?_; rintro _ ae ⟨j, l, a5, rfl, hm⟩; refine ⟨_, rfl, ?_⟩; intro bZ af; have ag := n.callZ hm; have ah := hm.ext.le
 replace hs3 := hs3.mono ah
 have I : Mem w.heap.size [] w Z [.own t6 3 j l (placesS u0), .row i (e46Q u0) 46] a5 ae := ag
 have a6 := ad (I.ownSmall 0 rfl)
 refine bt af I 2 [] [] [(10, i6 ((placesS u0).length : Int)), (11, i6 0)] ?_; intro ai aj
 apply ab
 apply b_
 have ak : Fr 47 [] [⟨1, [], .slice ao1 u1.length cap2⟩, ⟨2, [], pt i 0⟩, ⟨5, [], i6 0⟩, ⟨9, [], .slice j (placesS u0).length l⟩, ⟨10, [], i6 ((placesS u0).length : Int)⟩, ⟨11, [], i6 0⟩] ai := aj.reg
 obtain ⟨y, al, am, a8⟩ := I.freeze 0 rfl
 replace hs3 := hs3.mono al
 have an : Mem w.heap.size [] w Z [.row i (e46Q u0) 46] y ae := am
 have ao : Fr 47 [] [⟨1, [], .slice ao1 u1.length cap2⟩, ⟨2, [], pt i 0⟩, ⟨5, [], i6 0⟩, ⟨9, [], .slice j (placesS u0).length l⟩, ⟨10, [], i6 ((placesS u0).length : Int)⟩, ⟨11, [], i6 0⟩] ai := ak.reg
 obtain ⟨a9, ba, bb, bc⟩ := a6
 refine lp (ι := Int × Int) (fun s => [⟨1, [], .slice ao1 u1.length cap2⟩, ⟨2, [], pt i 0⟩, ⟨5, [], i6 s.1⟩, ⟨9, [], .slice j (placesS u0).length l⟩, ⟨10, [], i6 ((placesS u0).length : Int)⟩, ⟨11, [], i6 s.2⟩]) (fun s => [.row i (e46Q u0) 46]) (fun s => y) (fun s => a9 s.1 s.2) (fun s => ba s.1 s.2) ⟨0, 0⟩ bb (by exact ao.region (by kernel_rfl) (by kernel_rfl)) (by exact an) ?_
 rintro ⟨a, b⟩ bd be bf ap aq
 have z := bc a b bd
 refine sqB ap aq [] [] [(12, .bool (decide (b < ((placesS u0).length : Int))))] ?_; intro au o
 apply s_
 refine cd o (t := decide (b < ((placesS u0).length : Int))) (by kernel_rfl) (fun J => ?_) (fun J => ?_)
 · -- yes
  have bg := z.1 J
  apply k_
  have av : Fr 47 [] [⟨1, [], .slice ao1 u1.length cap2⟩, ⟨2, [], pt i 0⟩, ⟨5, [], i6 a⟩, ⟨9, [], .slice j (placesS u0).length l⟩, ⟨10, [], i6 ((placesS u0).length : Int)⟩, ⟨11, [], i6 b⟩] au := o.reg
  obtain ⟨bh, bi, bj⟩ := bg
  refine wp_seq_k fun KJ64 hKJ65 => ?_
  have aw : ∀ (p : Int), bh p → ∀ a1 w1, Fr 47 [] [⟨1, [], .slice ao1 u1.length cap2⟩, ⟨2, [], pt i 0⟩, ⟨5, [], i6 p⟩, ⟨9, [], .slice j (placesS u0).length l⟩, ⟨10, [], i6 ((placesS u0).length : Int)⟩, ⟨11, [], i6 b⟩] a1 → Mem w.heap.size [] w Z [.row i (e46Q u0) 46] y w1 → KJ64 a1 w1 := by
   rintro p bk b0 b1 ax ay
   refine hKJ65 _ _ ?_
   have az := bj p bk
   refine rgB ax ay [] [] [(11, i6 (w64 (b + 1)))] ?_; intro b2 bl
   exact d_ ⟨⟨p, w64 (b + 1)⟩, az.1, az.2, (bl.region (by kernel_rfl) (by kernel_rfl)).anyβ _ (by kernel_rfl), ay.kp⟩
  refine b_ (sqH ?_); intro bm aA
  refine s1 av 13 (i6 b) ?_; intro b3 aB
  obtain ⟨bn, aC⟩ := bi
  refine ix_ aB a8 b bn .i64 3 8 ?_; intro b4 b5 bo h b7 bp bq br aD
  have bs := aC h bp
  obtain rfl : bo = ([i6 h] : List Value) := br
  refine z1 aD aq 15 bq 0 (i6 h) rfl ?_; intro b8 aE
  refine bt aE aq 2 [] [] [(6, i6 b), (7, i6 h)] ?_; intro bu aF
  apply aA
  have aG : Fr 47 [] [⟨1, [], .slice ao1 u1.length cap2⟩, ⟨2, [], pt i 0⟩, ⟨5, [], i6 a⟩, ⟨6, [], i6 b⟩, ⟨7, [], i6 h⟩, ⟨9, [], .slice j (placesS u0).length l⟩, ⟨10, [], i6 ((placesS u0).length : Int)⟩, ⟨11, [], i6 b⟩] bu := aF.reg
  refine sqQH mixed (by kernel_rfl) aq ?_; intro bv aH
  refine q1 aG 16 (.slice ao1 u1.length cap2) ?_; intro b9 aI
  refine q1 aI 17 (i6 h) ?_; intro ca aJ
  refine q1 aJ 18 (i6 (w64 (h.tdiv 8))) ?_; intro cb aK
  obtain ⟨bw, aL⟩ := bs
  refine qx_ aK hs3 (w64 (h.tdiv 8)) bw .i64 5 1 ?_; intro cc ce bx m cf bz bA bB M
  have bC := aL m bz
  obtain rfl : bx = ([y8 m] : List Value) := bB
  refine qz_ M bA 0 (y8 m) rfl ?_; intro cg aM
  refine q1 aM 21 (i6 h) ?_; intro ch aN
  refine q1 aN 22 (i6 (h.tmod 8)) ?_; intro ci N
  obtain ⟨bD, A⟩ := bC
  refine qu_ N (y8 (bShl .u8 1 (h.tmod 8))) (fun v132 hC => shl_run N (g := []) (k' := .i64) rfl (by kernel_rfl) (by kernel_rfl) bD rfl) ?_; intro cj aO
  refine q1 aO 24 (y8 (bAnd .u8 m (bShl .u8 1 (h.tmod 8)))) ?_; intro cl aP
  refine q1 aP 25 (.bool ((bAnd .u8 m (bShl .u8 1 (h.tmod 8))) != 0)) ?_; intro cm B
  refine qnl (aH _ ?_); intro cn C
  refine cd B (t := (bAnd .u8 m (bShl .u8 1 (h.tmod 8))) != 0) (by kernel_rfl) (fun O => ?_) (fun O => ?_)
  · -- yes
   have bE := A.1 O
   refine rgH ?_; intro bF aQ
   refine bt B C 2 [] [] [(26, i6 a), (27, i6 b)] ?_; intro co P
   obtain ⟨bG, bH⟩ := bE
   refine u_ P (i6 (bShl .i64 1 b)) (shl_run P (g := []) (k' := .i64) rfl (by kernel_rfl) (by kernel_rfl) bG rfl) ?_; intro cp aR
   refine bt aR C 2 [] [] [(5, i6 (w64 (a + (bShl .i64 1 b))))] ?_; intro cq bI
   apply aQ
   exact j_ (d_ (aw (w64 (a + (bShl .i64 1 b))) bH _ _ ((bI.region (by kernel_rfl) (by kernel_rfl)).anyβ _ (by kernel_rfl)) (C.kp)))
  · -- no
   have bJ := A.2 O
   exact l_ (j_ (d_ (aw a bJ _ _ ((B.region (by kernel_rfl) (by kernel_rfl)).anyβ _ (by kernel_rfl)) (C.kp))))
 · -- no
  have D := z.2 J
  refine x_ (y_ (y_ (z_ (t_ (s_ (sqH ?_)))))); intro aS E
  refine bt o aq 3 [0] [] [(33, .bool u0.Signed)] ?_; intro cr F
  rcases Bool.eq_false_or_eq_true (u0.Signed) with q | q
  · -- true
   have bK := D.1 q
   have aT := F.reval (d := 33) (c := []) (v := .bool u0.Signed) (by kernel_rfl) (.bool true) (by rw [q])
   refine bt aT aq 4 [0] [34, 35, 36, 37] [(34, i6 a), (37, i6 (w64 (u0.Size - 1)))] ?_; intro cs G
   obtain ⟨bL, H⟩ := bK
   refine v_ G (i6 (bShl .i64 1 (w64 (u0.Size - 1)))) (wK G true) (shl_run G (g := []) (k' := .i64) rfl (by kernel_rfl) (by kernel_rfl) bL rfl) ?_; intro ct aU
   refine bt aU aq 2 [] [39, 40] [(40, .bool (decide (a ≥ (bShl .i64 1 (w64 (u0.Size - 1))))))] ?_; intro cu u
   apply E
   refine cd u (t := decide (a ≥ (bShl .i64 1 (w64 (u0.Size - 1))))) (by kernel_rfl) (fun Q => ?_) (fun Q => ?_)
   · -- yes
    have bM := H.1 Q
    refine rgH ?_; intro bN aV
    refine bt u aq 3 [0] [] [(41, i6 a), (43, i6 u0.Size)] ?_; intro cv R
    obtain ⟨bO, bP⟩ := bM
    refine u_ R (i6 (bShl .i64 1 u0.Size)) (shl_run R (g := []) (k' := .i64) rfl (by kernel_rfl) (by kernel_rfl) bO rfl) ?_; intro cw aW
    refine bt aW aq 2 [] [] [(5, i6 (w64 (a - (bShl .i64 1 u0.Size))))] ?_; intro cx aX
    apply aV
    refine t_ (sqB aX aq [] [] [(4, i6 (w64 (a - (bShl .i64 1 u0.Size))))] ?_); intro cy bQ
    exact r_ (ra1 bQ (i6 (w64 (a - (bShl .i64 1 u0.Size)))) ⟨w64 (a - (bShl .i64 1 u0.Size)), rfl, bP, aq.below⟩)
   · -- no
    have bR := H.2 Q
    refine k_ (sqB u aq [] [] [(4, i6 a)] ?_); intro cz bS
    exact r_ (ra1 bS (i6 a) ⟨a, rfl, bR, aq.below⟩)
  · -- false
   have bT := D.2 q
   have aY := F.reval (d := 33) (c := []) (v := .bool u0.Signed) (by kernel_rfl) (.bool false) (by rw [q])
   refine bt aY aq 7 [] [34, 35, 36, 37, 38, 39, 40] [(40, .bool false)] ?_; intro cA S
   apply E
   refine cdF S (by kernel_rfl) ?_
   refine k_ (sqB S aq [] [] [(4, i6 a)] ?_); intro cB bU
   exact r_ (ra1 bU (i6 a) ⟨a, rfl, bT, aq.below⟩)

end Go.Proofs.YtdndfbamhnchfaaGreatDoor
