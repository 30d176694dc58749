/- Texts put together (pure ones, or walks made by program). -/
import Derived.Test.YtdndfbamhnchfaaGreatDoorMW0
import Derived.Test.YtdndfbamhnchfaaGreatDoorMW1
import Derived.Test.YtdndfbamhnchfaaGreatDoorMW2
import Derived.Test.YtdndfbamhnchfaaGreatDoorMW3
import Derived.Shelf.Lay
import Derived.Ground.NamesProg
import Derived.Shelf.Strings.SlTrimAscii
set_option linter.unusedVariables false
set_option linter.unusedSimpArgs false
set_option linter.defProp false
set_option maxRecDepth 100000
set_option maxHeartbeats 0
namespace Go.Proofs.YtdndfbamhnchfaaGreatDoor
open Go.Sy Go.RowKit
abbrev e46Md (X : Signal) : List Value := [str X.Name, i6 X.Start, i6 X.Size, .bool X.Back, .bool X.Signed, i6 X.Mul, i6 X.Div, i6 X.Add, i6 X.Key]
abbrev e27Md (X : Frame) (A0 : Option Addr) (C0 : Nat) : List Value := [i6 X.ID, .bool X.Long, .bool X.Fast, .bool X.Remote, i6 X.Size, .slice A0 X.Data.length C0]
abbrev e24Md (X : Message) (A0 : Option Addr) (C0 : Nat) : List Value := [i6 X.ID, .bool X.Long, str X.Name, i6 X.Size, i6 X.Chooser, .slice A0 X.Signals.length C0]
abbrev e37Md (X : Reading) : List Value := [str X.Name, i6 X.Num, i6 X.Den]
def mcheck_fun (u0 : Message) (ao1 : Option Addr) (cap2 : Nat) (Z : Fz) (w : World) (hs3 : SlR tySignal Z ao1 cap2 u0.Signals) (hZ : Z.on w) := f_ (mcheck_walk u0 ao1 cap2 Z w hs3 hZ (mcheck_ok u0))
def mthere_fun (u0 : Message) (u1 : Signal) (u2 : List Int) (hpre : therepre u0 u1 u2) (ao1 : Option Addr) (cap2 : Nat) (ao4 : Option Addr) (cap5 : Nat) (Z : Fz) (w : World) (hs3 : SlR tySignal Z ao1 cap2 u0.Signals) (hs6 : SlR t8 Z ao4 cap5 u2) (hZ : Z.on w) := f_ (mthere_walk u0 u1 u2 ao1 cap2 ao4 cap5 Z w hs3 hs6 hZ (mthere_ok u0 u1 u2 hpre))
theorem mread_walk (u0 : Message) (u1 : Frame) (ao1 : Option Addr) (cap2 : Nat) (ao4 : Option Addr) (cap5 : Nat) (Z : Fz) (w : World) (hs3 : SlR tySignal Z ao1 cap2 u0.Signals) (hs6 : SlR t8 Z ao4 cap5 u1.Data) (hZ : Z.on w) {K : ((List Reading) × Int) → Prop} (hp : mread_vc u0 u1 K) : Calls Tryz.prog 6 #[.agg #[i6 u0.ID, .bool u0.Long, str u0.Name, i6 u0.Size, i6 u0.Chooser, .slice ao1 u0.Signals.length cap2], .agg #[i6 u1.ID, .bool u1.Long, .bool u1.Fast, .bool u1.Remote, i6 u1.Size, .slice ao4 u1.Data.length cap5]] w fun e w' => ∃ (r : (List Reading) × Int) (ao1001 : Option Addr) (cap1002 : Nat) (Z' : Fz), e = .returned (.tuple #[.slice ao1001 r.1.length cap1002, i6 r.2]) ∧ K r ∧ Mem w.heap.size [] w Z [.own tyReading 37 ao1001 cap1002 r.1] Z' w' := by
 refine enter0 Tryz.func6 rfl rfl (by kernel_rfl) ?_; intro a0 ab; have ac := Mem.start w Z hZ
 have z := hp (hs3.small) (hs6.small)
 refine sqH ?_; intro a3 ae
 refine nw ab ac pb (e24Md u0 ao1 cap2) 24 ?_; intro f bW bX af ag
 refine nw af ag pb (e27Md u1 ao4 cap5) 27 ?_; intro d bY bZ ah n
 refine bt ah n 2 [] [] [] ?_; intro b0 ai
 apply ae
 refine s_ (sqH ?_); intro a4 aj
 refine l2 ai n 11 1 0 6 (e24Md u0 ao1 cap2) rfl rfl ?_; intro b1 ak
 refine fc ak n (mcheck_fun u0 ao1 cap2 _ _ hs3 n.fz) ?_; intro b2 a5 al l
 refine s1 al 6 (i6 (mcheckS u0)) ?_; intro b3 am
 apply aj
 refine sqB am l [] [] [(14, .bool ((mcheckS u0) != 0))] ?_; intro b4 o
 refine c_ o z (fun _ a6 => ?_) fun _ A => ?_
 ·
  refine sqB o l [] [] [(4, .slice none 0 0), (5, i6 (mcheckS u0))] ?_; intro b5 a7
  refine r_ (h_ ?_)
  have a8 : Mem w.heap.size [] w Z [.own tyReading 37 none 0 ([] : List Reading), .row d (e27Md u1 ao4 cap5) 27, .row f (e24Md u0 ao1 cap2) 24] Z a5 := l.addNil tyReading 37 (by decide)
  exact ra2 a7 (.tuple #[.slice none ([] : List Reading).length 0, i6 (mcheckS u0)]) ⟨(([] : List Reading), (mcheckS u0)), none, 0, Z, rfl, a6, a8.kp⟩
 refine k_ (s_ (sqH ?_)); intro a9 an
 refine l2 o l 16 0 0 6 (e27Md u1 ao4 cap5) rfl rfl ?_; intro b6 aq
 refine fc aq l (fcheckfr_fun u1 ao4 cap5 _ _ hs6 l.fz) ?_; intro b7 B ar c
 refine s1 ar 7 (i6 (fcheckfr u1)) ?_; intro b8 au
 apply an
 refine sqB au c [] [] [(19, .bool ((fcheckfr u1) != 0))] ?_; intro b9 p
 refine c_ p A (fun _ ba => ?_) fun _ C => ?_
 ·
  refine sqB p c [] [] [(4, .slice none 0 0), (5, i6 (fcheckfr u1))] ?_; intro ca bb
  refine r_ (h_ ?_)
  have bc : Mem w.heap.size [] w Z [.own tyReading 37 none 0 ([] : List Reading), .row d (e27Md u1 ao4 cap5) 27, .row f (e24Md u0 ao1 cap2) 24] Z B := c.addNil tyReading 37 (by decide)
  exact ra2 bb (.tuple #[.slice none ([] : List Reading).length 0, i6 (fcheckfr u1)]) ⟨(([] : List Reading), (fcheckfr u1)), none, 0, Z, rfl, ba, bc.kp⟩
 refine k_ (s_ (sqB p c [0, 1, 0, 1, 0] [] [(36, .bool (((u1.ID != u0.ID) || (u1.Long != u0.Long)) || u1.Remote))] ?_)); intro cb q
 refine c_ q C (fun _ bd => ?_) fun _ D => ?_
 ·
  refine sqB q c [] [] [(4, .slice none 0 0), (5, i6 8)] ?_; intro cc be
  refine r_ (h_ ?_)
  have bf : Mem w.heap.size [] w Z [.own tyReading 37 none 0 ([] : List Reading), .row d (e27Md u1 ao4 cap5) 27, .row f (e24Md u0 ao1 cap2) 24] Z B := c.addNil tyReading 37 (by decide)
  exact ra2 be (.tuple #[.slice none ([] : List Reading).length 0, i6 8]) ⟨(([] : List Reading), 8), none, 0, Z, rfl, bd, bf.kp⟩
 refine k_ (s_ (sqB q c [0, 1] [] [(42, .bool (decide ((u1.Data.length : Int) < u0.Size)))] ?_)); intro ce u
 refine c_ u D (fun _ bg => ?_) fun _ bj => ?_
 ·
  refine sqB u c [] [] [(4, .slice none 0 0), (5, i6 7)] ?_; intro cf bh
  refine r_ (h_ ?_)
  have bi : Mem w.heap.size [] w Z [.own tyReading 37 none 0 ([] : List Reading), .row d (e27Md u1 ao4 cap5) 27, .row f (e24Md u0 ao1 cap2) 24] Z B := c.addNil tyReading 37 (by decide)
  exact ra2 bh (.tuple #[.slice none ([] : List Reading).length 0, i6 7]) ⟨(([] : List Reading), 7), none, 0, Z, rfl, bg, bi.kp⟩
 refine k_ (sqB u c [] [] [(8, .slice none 0 0)] ?_); intro cg av
 refine s_ (sqB av c [1] [] [(44, .slice ao1 u0.Signals.length cap2), (45, i6 (u0.Signals.length : Int)), (46, i6 0)] ?_); intro aw ax
 apply b_
 have ay : Fr 66 [] [⟨2, [], pt f 0⟩, ⟨3, [], pt d 0⟩, ⟨8, [], .slice none 0 0⟩, ⟨44, [], .slice ao1 u0.Signals.length cap2⟩, ⟨45, [], i6 (u0.Signals.length : Int)⟩, ⟨46, [], i6 0⟩] aw := ax.reg
 have az : Mem w.heap.size [] w Z [.own tyReading 37 none 0 ([] : List Reading), .row d (e27Md u1 ao4 cap5) 27, .row f (e24Md u0 ao1 cap2) 24] Z B := c.addNil tyReading 37 (by decide)
 have aA : Fr 66 [] [⟨2, [], pt f 0⟩, ⟨3, [], pt d 0⟩, ⟨8, [], .slice none ([] : List Reading).length 0⟩, ⟨44, [], .slice ao1 u0.Signals.length cap2⟩, ⟨45, [], i6 (u0.Signals.length : Int)⟩, ⟨46, [], i6 0⟩] aw := ay.reg
 obtain ⟨bk, bl, bm, bn⟩ := bj
 refine lp (ι := (List Reading) × Int × (Option Addr) × Nat) (fun s => [⟨2, [], pt f 0⟩, ⟨3, [], pt d 0⟩, ⟨8, [], .slice s.2.2.1 s.1.length s.2.2.2⟩, ⟨44, [], .slice ao1 u0.Signals.length cap2⟩, ⟨45, [], i6 (u0.Signals.length : Int)⟩, ⟨46, [], i6 s.2.1⟩]) (fun s => [.own tyReading 37 s.2.2.1 s.2.2.2 s.1, .row d (e27Md u1 ao4 cap5) 27, .row f (e24Md u0 ao1 cap2) 24]) (fun s => Z) (fun s => bk s.1 s.2.1) (fun s => bl s.1 s.2.1) ⟨([] : List Reading), 0, none, 0⟩ bm (by exact aA.reg) (by exact az) ?_
 rintro ⟨g, h, i, j⟩ bo bp bq aB aC
 have E := bn g h bo
 refine sqB aB aC [] [] [(47, .bool (decide (h < (u0.Signals.length : Int))))] ?_; intro ch v
 refine s_ (c_ v E (fun _ br => ?_) fun _ bT => ?_)
 ·
  refine k_ (s_ (b_ (sqH ?_))); intro bs aE
  obtain ⟨bu, aF⟩ := br
  refine ix_ v hs3 h bu .i64 46 72 ?_; intro ci cj bv a ck bw bx bz aG
  have bA := aF a bw
  obtain rfl : bv = ((e46Md a) : List Value) := bz
  refine z2 aG aC 49 bx 0 9 (e46Md a) rfl ?_; intro cl aH
  refine nw aH aC pb [str [], i6 0, i6 0, .bool false, .bool false, i6 0, i6 0, i6 0, i6 0] 46 ?_; intro F cm cn S aI
  refine sx S aI 0 (e46Md a) 0 ?_; intro bB aJ
  have G : Mem w.heap.size [] w Z [.row F (e46Md a) 46, .own tyReading 37 i j g, .row d (e27Md u1 ao4 cap5) 27, .row f (e24Md u0 ao1 cap2) 24] Z bB := aJ
  apply aE
  refine sqH ?_; intro bC aK
  refine bt S G 4 [3, 0, 2] [] [(50, .agg (e24Md u0 ao1 cap2).toArray), (51, .agg (e46Md a).toArray), (53, .slice ao4 u1.Data.length cap5)] ?_; intro co aL
  obtain ⟨bD, H⟩ := bA
  refine fc aL G (mthere_fun u0 a u1.Data bD ao1 cap2 ao4 cap5 _ _ hs3 hs6 G.fz) ?_; intro bE cp y I
  apply aK
  refine c_ y H (fun _ bF => ?_) fun _ a2 => ?_
  ·
   have aM : Fr 66 [] [⟨2, [], pt f 0⟩, ⟨3, [], pt d 0⟩, ⟨8, [], .slice i g.length j⟩, ⟨10, [], pt F 0⟩, ⟨44, [], .slice ao1 u0.Signals.length cap2⟩, ⟨45, [], i6 (u0.Signals.length : Int)⟩, ⟨46, [], i6 h⟩] bE := y.reg
   refine rgS mixed I [(0, true), (1, true), (2, true), (3, true), (4, true), (5, false), (6, false), (7, false), (8, false), (9, true)] [] [0, 2] [.row F (e46Md a) 46, .row d (e27Md u1 ao4 cap5) 27] ?_
   intro bG aN cq V
   have J := Fz.le.refl Z
   refine cS aM 5 [0, 0, 1] [] [(55, .slice i g.length j), (56, .agg (e46Md a).toArray), (57, .agg (e46Md a).toArray), (59, .slice ao4 u1.Data.length cap5)] ?_; intro cr aO
   refine eS rfl ?_; intro bH aP
   obtain ⟨bI, bJ⟩ := bF
   refine fc aO V (sget_fun a u1.Data bI ao4 cap5 _ _ hs6 V.fz) ?_; intro cs ct aQ L
   refine nl (qnI (aP _ _ (L.cst J [0, 2]) ?_))
   refine eS rfl ?_; intro bK aR
   obtain ⟨bL, bM⟩ := bJ
   refine fc aQ L (smean_fun a (getS a u1.Data) bL _ _ L.fz) ?_; intro cu cv aS W
   refine nl (qnI (aR _ _ (W.cst J [0, 2]) ?_))
   refine eS rfl ?_; intro bN aT
   refine nw aS W (fun b => .slice (sm b) 1 1) (e37Md (meanS a (getS a u1.Data))) 37 ?_; intro aU cw cx aV M
   refine nl (qnI (aT _ _ (M.cst J [1, 3]) ?_))
   refine eS rfl ?_; intro bO aW
   obtain ⟨bP, aX⟩ := bM
   refine ap aV M 2 (T := tyReading) (xs := g) (ys := [(meanS a (getS a u1.Data))]) (ao := i) (cap := j) (ao2 := (sm aU)) (cap2 := 1) (t := 28) (e := 37) (bytes := 32) (nog rfl _) rfl (by kernel_rfl) rfl (by kernel_rfl) (by kernel_rfl) (by kernel_rfl) rfl (Src.row M 0 rfl (RepAll.one (T := tyReading) (x := (meanS a (getS a u1.Data))) rfl)) bP ?_; intro X Y cy bQ cz aY aZ
   have aa : Mem w.heap.size [] w Z [.row aU (e37Md (meanS a (getS a u1.Data))) 37, .row F (e46Md a) 46, .own tyReading 37 X Y (g ++ [(meanS a (getS a u1.Data))]), .row d (e27Md u1 ao4 cap5) 27, .row f (e24Md u0 ao1 cap2) 24] Z bQ := aZ
   refine nl (qnI (aW _ _ (aa.cst J [1, 3]) ?_))
   refine cS aY 1 [] [] [(8, .slice X (g ++ [(meanS a (getS a u1.Data))]).length Y)] ?_; intro cA a1
   refine nS (aN _ _ ?_)
   refine j_ (t_ (rgB a1 aa [] [] [(46, i6 (w64 (h + 1)))] ?_)); intro cB bR
   exact d_ ⟨⟨g ++ [(meanS a (getS a u1.Data))], w64 (h + 1), X, Y⟩, aX.1, aX.2, (bR.reg).anyβ _ (by kernel_rfl), aa.kp⟩
  refine l_ (j_ (t_ (rgB y I [] [] [(46, i6 (w64 (h + 1)))] ?_))); intro cC bS
  exact d_ ⟨⟨g, w64 (h + 1), i, j⟩, a2.1, a2.2, (bS.reg).anyβ _ (by kernel_rfl), I.kp⟩
 refine x_ (y_ (y_ (z_ (t_ (sqB v aC [] [] [(4, .slice i g.length j), (5, i6 0)] ?_))))); intro cD bU
 exact r_ (ra2 bU (.tuple #[.slice i g.length j, i6 0]) ⟨(g, 0), i, j, Z, rfl, bT, aC.kp⟩)
theorem mwrite_walk (u0 : Message) (u1 : List Reading) (ao1 : Option Addr) (cap2 : Nat) (ao4 : Option Addr) (cap5 : Nat) (Z : Fz) (w : World) (hs3 : SlR tySignal Z ao1 cap2 u0.Signals) (hs6 : SlR tyReading Z ao4 cap5 u1) (hZ : Z.on w) {K : (Frame × Int) → Prop} (hp : mwrite_vc u0 u1 K) : Calls Tryz.prog 12 #[.agg #[i6 u0.ID, .bool u0.Long, str u0.Name, i6 u0.Size, i6 u0.Chooser, .slice ao1 u0.Signals.length cap2], .slice ao4 u1.length cap5] w fun e w' => ∃ (r : Frame × Int) (ao1001 : Option Addr) (cap1002 : Nat) (Z' : Fz), e = .returned (.tuple #[.agg #[i6 r.1.ID, .bool r.1.Long, .bool r.1.Fast, .bool r.1.Remote, i6 r.1.Size, .slice ao1001 r.1.Data.length cap1002], i6 r.2]) ∧ K r ∧ SlR t8 Z' ao1001 cap1002 r.1.Data ∧ Mem w.heap.size [] w Z [] Z' w' := by
 refine enter0 Tryz.func12 rfl rfl (by kernel_rfl) ?_; intro a0 ci; have cj := Mem.start w Z hZ
 have aM := hp (hs3.small) (hs6.small)
 refine sqH ?_; intro f0 cm
 refine nw ci cj pb (e24Md u0 ao1 cap2) 24 ?_; intro p iP iQ cn co
 refine nw cn co pb [i6 0, .bool false, .bool false, .bool false, i6 0, .slice none 0 0] 27 ?_; intro n iR iS cp aN
 refine s1 cp 5 (i6 0) ?_; intro iT cq
 apply cm
 refine s_ (sqH ?_); intro f1 cr
 refine l2 cq aN 18 1 0 6 (e24Md u0 ao1 cap2) rfl rfl ?_; intro iU cs
 refine fc cs aN (mcheck_fun u0 ao1 cap2 _ _ hs3 aN.fz) ?_; intro iV iW ct ae
 refine s1 ct 6 (i6 (mcheckS u0)) ?_; intro iX cu
 apply cr
 refine sqB cu ae [] [] [(21, .bool ((mcheckS u0) != 0))] ?_; intro f2 ao
 refine c_ ao aM (fun _ f3 => ?_) fun _ f6 => ?_
 ·
  refine sqH ?_; intro f4 cv
  refine bt ao ae 2 [] [] [(22, .agg #[i6 0, .bool false, .bool false, .bool false, i6 0, .slice none 0 0]), (23, i6 (mcheckS u0))] ?_; intro iY bv
  refine sx bv ae 0 [i6 0, .bool false, .bool false, .bool false, i6 0, .slice none 0 0] 0 ?_; intro f5 cw
  refine s1 bv 5 (i6 (mcheckS u0)) ?_; intro iZ cx
  have cy : Mem w.heap.size [] w Z [.row n [i6 0, .bool false, .bool false, .bool false, i6 0, .slice none 0 0] 27, .row p (e24Md u0 ao1 cap2) 24] Z f5 := cw
  apply cv
  refine r_ (h_ (rt (fn := Tryz.f12) (v := .tuple #[.agg #[i6 0, .bool false, .bool false, .bool false, i6 0, .slice none 0 0], i6 (mcheckS u0)]) cx (re2c cx (fn := Tryz.f12) rfl (ad := ⟨n, 0, none⟩) (by kernel_rfl) (loadVar_run cy 0 (b := n) (k := 6) (vs := [i6 0, .bool false, .bool false, .bool false, i6 0, .slice none 0 0]) (ty := 27) rfl (by kernel_rfl) (by kernel_rfl)) (by kernel_rfl)) ?_))
  exact ⟨((⟨0, false, false, false, 0, []⟩ : Frame), (mcheckS u0)), none, 0, Z, rfl, f3, (SlR.nil _ _), cy.kp⟩
 apply k_
 have cz : Fr 102 [] [⟨1, [], .slice ao4 u1.length cap5⟩, ⟨2, [], pt p 0⟩, ⟨4, [], pt n 0⟩] f2 := ao.reg
 refine wp_seq (rgF mixed ae [0, 1, 2, 3, 4, 5] [6, 7, 9] [8] [1] [.row p (e24Md u0 ao1 cap2) 24] ?_)
 intro f7 cA f8 cB
 have S := Fz.le.refl Z
 refine cS cz 6 [0, 0, 0] [] [(25, i6 u0.ID), (27, .bool u0.Long), (29, i6 u0.Size)] ?_; intro i0 cC
 refine nS ⟨[⟨8, 7, fun b => pt b 0, [i6 0, .bool false, .bool false, .bool false, i6 0, .slice none 0 0], 27⟩], rfl, ?_⟩; intro f9 ga gb
 have cD : Mem w.heap.size [] w Z ((.row n [i6 0, .bool false, .bool false, .bool false, i6 0, .slice none 0 0] 27) :: (.row p (e24Md u0 ao1 cap2) 24) :: (rowsF f9 ++ [])) Z f8 := by rw [gb]; exact cB
 refine eF 2 [1] [] ga cC cD S (fO fN) ?_; intro gc i1 i2 gd cE cF ge cG
 obtain ⟨i3, gf⟩ := f6
 refine mks cE cF (T := t8) u0.Size u0.Size (k := .i64) (k' := .i64) (e := 5) (bytes := 1) (zs := [y8 0]) (z := 0) (by simp only [lim]; omega) (nog rfl _) rfl (by kernel_rfl) rfl (by kernel_rfl) (by kernel_rfl) (by kernel_rfl) (by kernel_rfl) rfl ?_; intro i i4 gg cH cI
 have bw : Mem w.heap.size [] w Z ((.own t8 5 (sm i) u0.Size.toNat (List.replicate u0.Size.toNat (0 : Int))) :: (.row n [i6 0, .bool false, .bool false, .bool false, i6 0, .slice none 0 0] 27) :: (.row p (e24Md u0 ao1 cap2) 24) :: (rowsF gc ++ [])) Z gg := cI
 refine nl (qnI (cG _ _ (fun _ => bw.cst S [2]) ?_))
 refine eF 3 [2] [] gd cH bw S (fO fN) ?_; intro i5 i7 i8 gh cJ bx gi cK
 refine s1 cJ 31 (.agg #[i6 u0.ID, .bool u0.Long, .bool false, .bool false, i6 0, .slice (sm i) (List.replicate u0.Size.toNat (0 : Int)).length u0.Size.toNat]) ?_; intro i9 cL
 refine nl (qnI (cK _ _ (fun _ => bx.cst S [2]) ?_))
 refine tkF 0 3 [2] [] gh cL bx S (fO fN) ?_; intro j ja jb jc cM cN cO
 obtain rfl := nilF cM
 refine eF 4 [3] [] cM cN cO S fN ?_; intro jd je jf cP bz cQ gj cR
 obtain rfl := nilF cP
 refine sx bz cQ 0 [i6 u0.ID, .bool u0.Long, .bool false, .bool false, i6 0, .slice (sm i) (List.replicate u0.Size.toNat (0 : Int)).length u0.Size.toNat] 0 ?_; intro gk cT
 have bA : Mem w.heap.size [] w Z [.row j [i6 u0.ID, .bool u0.Long, .bool false, .bool false, i6 0, .slice (sm i) (List.replicate u0.Size.toNat (0 : Int)).length u0.Size.toNat] 27, .own t8 5 (sm i) u0.Size.toNat (List.replicate u0.Size.toNat (0 : Int)), .row n [i6 0, .bool false, .bool false, .bool false, i6 0, .slice none 0 0] 27, .row p (e24Md u0 ao1 cap2) 24] Z gk := cT
 refine nl (qnI (cR _ _ (fun _ => bA.cst S [3]) ?_))
 refine nF cP (cA _ _ ?_)
 refine t_ (sqH ?_); intro gl cU
 refine mkm bz bA (fun x : List UInt8 => str x) (fun x : Reading => .agg (e37Md x).toArray) (t := 63) (nog rfl _) rfl (by kernel_rfl) rfl ?_; intro l jg gm cV cW
 have cX : Mem w.heap.size [] w Z [.map (fun x : List UInt8 => str x) (fun x : Reading => .agg (e37Md x).toArray) l ([] : List (List UInt8 × Reading)), .row j [i6 u0.ID, .bool u0.Long, .bool false, .bool false, i6 0, .slice (sm i) (List.replicate u0.Size.toNat (0 : Int)).length u0.Size.toNat] 27, .own t8 5 (sm i) u0.Size.toNat (List.replicate u0.Size.toNat (0 : Int)), .row n [i6 0, .bool false, .bool false, .bool false, i6 0, .slice none 0 0] 27, .row p (e24Md u0 ao1 cap2) 24] Z gm := cW
 refine nw cV cX pb [.map none] 63 ?_; intro o jh ji bB cY
 refine sx bB cY 0 [.map (some l)] 0 ?_; intro gn cZ
 have aO : Mem w.heap.size [] w Z [.row o [.map (some l)] 63, .map (fun x : List UInt8 => str x) (fun x : Reading => .agg (e37Md x).toArray) l ([] : List (List UInt8 × Reading)), .row j [i6 u0.ID, .bool u0.Long, .bool false, .bool false, i6 0, .slice (sm i) (List.replicate u0.Size.toNat (0 : Int)).length u0.Size.toNat] 27, .own t8 5 (sm i) u0.Size.toNat (List.replicate u0.Size.toNat (0 : Int)), .row n [i6 0, .bool false, .bool false, .bool false, i6 0, .slice none 0 0] 27, .row p (e24Md u0 ao1 cap2) 24] Z gn := cZ
 apply cU
 refine s_ (sqB bB aO [] [] [(33, .slice ao4 u1.length cap5), (34, i6 (u1.length : Int)), (35, i6 0)] ?_); intro aP c0
 have c1 : Fr 102 [] [⟨2, [], pt p 0⟩, ⟨4, [], pt n 0⟩, ⟨7, [], pt j 0⟩, ⟨8, [], pt o 0⟩, ⟨33, [], .slice ao4 u1.length cap5⟩, ⟨34, [], i6 (u1.length : Int)⟩, ⟨35, [], i6 0⟩] aP := c0.reg
 obtain ⟨go, gp, gq⟩ := gf
 refine wp_then_k fun KJ138 hKJ139 => ?_
 have gr : ∀ (h : List (List UInt8 × Reading)), go h → ∀ a1 w1, Fr 102 [] [⟨2, [], pt p 0⟩, ⟨4, [], pt n 0⟩, ⟨7, [], pt j 0⟩, ⟨8, [], pt o 0⟩] a1 → Mem w.heap.size [] w Z [.row o [.map (some l)] 63, .map (fun x : List UInt8 => str x) (fun x : Reading => .agg (e37Md x).toArray) l h, .row j [i6 u0.ID, .bool u0.Long, .bool false, .bool false, i6 0, .slice (sm i) (List.replicate u0.Size.toNat (0 : Int)).length u0.Size.toNat] 27, .own t8 5 (sm i) u0.Size.toNat (List.replicate u0.Size.toNat (0 : Int)), .row n [i6 0, .bool false, .bool false, .bool false, i6 0, .slice none 0 0] 27, .row p (e24Md u0 ao1 cap2) 24] Z w1 → KJ138 a1 w1 := by
  rintro h gs jj jk c2 O
  refine hKJ139 _ _ ?_
  have gt := gq h gs
  refine sqB c2 O [] [] [(13, .func (.func 35) #[] #[pt o 0, pt j 0])] ?_; intro jl c3
  refine s_ (sqB c3 O [5] [] [(56, .bool (decide (u0.Chooser ≥ 0)))] ?_); intro c4 c5
  have c6 : Fr 102 [] [⟨2, [], pt p 0⟩, ⟨4, [], pt n 0⟩, ⟨7, [], pt j 0⟩, ⟨8, [], pt o 0⟩, ⟨13, [], .func (.func 35) #[] #[pt o 0, pt j 0]⟩, ⟨56, [], .bool (decide (u0.Chooser ≥ 0))⟩] c4 := c5.reg
  obtain ⟨gu, aQ, gv⟩ := gt
  refine wp_then_k fun KJ164 hKJ165 => ?_
  have c7 : ∀ (y : List (List UInt8 × Reading)) (af : List Int) (U : Fz), gu y af ∧ Fz.le Z U → ∀ a1 w1, Fr 102 [] [⟨2, [], pt p 0⟩, ⟨4, [], pt n 0⟩, ⟨7, [], pt j 0⟩, ⟨8, [], pt o 0⟩, ⟨13, [], .func (.func 35) #[] #[pt o 0, pt j 0]⟩] a1 → Mem w.heap.size [] w Z [.row o [.map (some l)] 63, .map (fun x : List UInt8 => str x) (fun x : Reading => .agg (e37Md x).toArray) l y, .row j [i6 u0.ID, .bool u0.Long, .bool false, .bool false, i6 0, .slice (sm i) af.length u0.Size.toNat] 27, .own t8 5 (sm i) u0.Size.toNat af, .row n [i6 0, .bool false, .bool false, .bool false, i6 0, .slice none 0 0] 27, .row p (e24Md u0 ao1 cap2) 24] U w1 → KJ164 a1 w1 := by
   rintro y af U ⟨gw, aq⟩ jm jn c8 aR
   refine hKJ165 _ _ ?_
   have gx := gv y af gw
   have c9 := hs3.mono aq
   refine s_ (sqB c8 aR [5] [] [(70, .slice ao1 u0.Signals.length cap2), (71, i6 (u0.Signals.length : Int)), (72, i6 0)] ?_); intro aS db
   have dc : Fr 102 [] [⟨2, [], pt p 0⟩, ⟨4, [], pt n 0⟩, ⟨7, [], pt j 0⟩, ⟨8, [], pt o 0⟩, ⟨13, [], .func (.func 35) #[] #[pt o 0, pt j 0]⟩, ⟨70, [], .slice ao1 u0.Signals.length cap2⟩, ⟨71, [], i6 (u0.Signals.length : Int)⟩, ⟨72, [], i6 0⟩] aS := db.reg
   obtain ⟨gy, gz, gA⟩ := gx
   refine wp_then_k fun KJ189 hKJ190 => ?_
   have gB : ∀ (I : List (List UInt8 × Reading)) (A : List Int) (ag : Fz), gy I A ∧ Fz.le U ag → ∀ a1 w1, Fr 102 [] [⟨4, [], pt n 0⟩, ⟨7, [], pt j 0⟩, ⟨8, [], pt o 0⟩] a1 → Mem w.heap.size [] w Z [.row o [.map (some l)] 63, .map (fun x : List UInt8 => str x) (fun x : Reading => .agg (e37Md x).toArray) l I, .row j [i6 u0.ID, .bool u0.Long, .bool false, .bool false, i6 0, .slice (sm i) A.length u0.Size.toNat] 27, .own t8 5 (sm i) u0.Size.toNat A, .row n [i6 0, .bool false, .bool false, .bool false, i6 0, .slice none 0 0] 27, .row p (e24Md u0 ao1 cap2) 24] ag w1 → KJ189 a1 w1 := by
    rintro I A ag ⟨gC, ah⟩ jo jp dd V
    refine hKJ190 _ _ ?_
    have aT := gA I A gC
    refine s_ (sqH ?_); intro gD dh
    refine l1 dd V 97 0 0 (.map (some l)) rfl rfl ?_; intro jq di
    refine mln di V 1 (t := 63) (kt := 9) (et := 37) (nog rfl _) rfl (by kernel_rfl) rfl (by kernel_rfl) rfl (by kernel_rfl) ?_; intro jr dj
    refine s1 dj 99 (.bool (decide ((I.length : Int) > 0))) ?_; intro js ar
    apply dh
    refine c_ ar aT (fun _ gE => ?_) fun _ gH => ?_
    ·
     refine sqH ?_; intro gF dk
     refine s1 ar 100 (.agg #[i6 0, .bool false, .bool false, .bool false, i6 0, .slice none 0 0]) ?_; intro jt bF
     refine sx bF V 4 [i6 0, .bool false, .bool false, .bool false, i6 0, .slice none 0 0] 0 ?_; intro gG dl
     refine s1 bF 5 (i6 8) ?_; intro ju dm
     have dn : Mem w.heap.size [] w Z [.row o [.map (some l)] 63, .map (fun x : List UInt8 => str x) (fun x : Reading => .agg (e37Md x).toArray) l I, .row j [i6 u0.ID, .bool u0.Long, .bool false, .bool false, i6 0, .slice (sm i) A.length u0.Size.toNat] 27, .own t8 5 (sm i) u0.Size.toNat A, .row n [i6 0, .bool false, .bool false, .bool false, i6 0, .slice none 0 0] 27, .row p (e24Md u0 ao1 cap2) 24] ag gG := dl
     apply dk
     refine r_ (h_ (rt (fn := Tryz.f12) (v := .tuple #[.agg #[i6 0, .bool false, .bool false, .bool false, i6 0, .slice none 0 0], i6 8]) dm (re2c dm (fn := Tryz.f12) rfl (ad := ⟨n, 0, none⟩) (by kernel_rfl) (loadVar_run dn 4 (b := n) (k := 6) (vs := [i6 0, .bool false, .bool false, .bool false, i6 0, .slice none 0 0]) (ty := 27) rfl (by kernel_rfl) (by kernel_rfl)) (by kernel_rfl)) ?_))
     exact ⟨((⟨0, false, false, false, 0, []⟩ : Frame), 8), none, 0, ag, rfl, gE, (SlR.nil _ _), dn.kp⟩
    refine k_ (sqH ?_); intro gI dp
    refine l2 ar V 101 2 0 6 [i6 u0.ID, .bool u0.Long, .bool false, .bool false, i6 0, .slice (sm i) A.length u0.Size.toNat] rfl rfl ?_; intro jv bG
    refine sx bG V 4 [i6 u0.ID, .bool u0.Long, .bool false, .bool false, i6 0, .slice (sm i) A.length u0.Size.toNat] 0 ?_; intro dq dr
    refine s1 bG 5 (i6 0) ?_; intro jw ds
    have gJ : Mem w.heap.size [] w Z [.row o [.map (some l)] 63, .map (fun x : List UInt8 => str x) (fun x : Reading => .agg (e37Md x).toArray) l I, .row j [i6 u0.ID, .bool u0.Long, .bool false, .bool false, i6 0, .slice (sm i) A.length u0.Size.toNat] 27, .own t8 5 (sm i) u0.Size.toNat A, .row n [i6 u0.ID, .bool u0.Long, .bool false, .bool false, i6 0, .slice (sm i) A.length u0.Size.toNat] 27, .row p (e24Md u0 ao1 cap2) 24] ag dq := dr
    apply dp
    apply r_
    obtain ⟨dt, au, du, gK⟩ := gJ.freeze 3 rfl
    have dv : Mem w.heap.size [] w Z [.row o [.map (some l)] 63, .map (fun x : List UInt8 => str x) (fun x : Reading => .agg (e37Md x).toArray) l I, .row j [i6 u0.ID, .bool u0.Long, .bool false, .bool false, i6 0, .slice (sm i) A.length u0.Size.toNat] 27, .row n [i6 u0.ID, .bool u0.Long, .bool false, .bool false, i6 0, .slice (sm i) A.length u0.Size.toNat] 27, .row p (e24Md u0 ao1 cap2) 24] dt dq := du
    refine rt (fn := Tryz.f12) (v := .tuple #[.agg #[i6 u0.ID, .bool u0.Long, .bool false, .bool false, i6 0, .slice (sm i) A.length u0.Size.toNat], i6 0]) ds (re2c ds (fn := Tryz.f12) rfl (ad := ⟨n, 0, none⟩) (by kernel_rfl) (loadVar_run dv 3 (b := n) (k := 6) (vs := [i6 u0.ID, .bool u0.Long, .bool false, .bool false, i6 0, .slice (sm i) A.length u0.Size.toNat]) (ty := 27) rfl (by kernel_rfl) (by kernel_rfl)) (by kernel_rfl)) ?_
    exact ⟨((⟨u0.ID, u0.Long, false, false, 0, A⟩ : Frame), 0), (sm i), u0.Size.toNat, dt, rfl, gH, gK, dv.kp⟩
   have gL := Fz.le.refl U
   apply b_
   have dw : Fr 102 [] [⟨2, [], pt p 0⟩, ⟨4, [], pt n 0⟩, ⟨7, [], pt j 0⟩, ⟨8, [], pt o 0⟩, ⟨13, [], .func (.func 35) #[] #[pt o 0, pt j 0]⟩, ⟨70, [], .slice ao1 u0.Signals.length cap2⟩, ⟨71, [], i6 (u0.Signals.length : Int)⟩, ⟨72, [], i6 0⟩] aS := dc.reg
   obtain ⟨gM, gN, gO, gP⟩ := gz
   refine lp (ι := Int × (List (List UInt8 × Reading)) × (List Int) × Fz) (fun s => [⟨2, [], pt p 0⟩, ⟨4, [], pt n 0⟩, ⟨7, [], pt j 0⟩, ⟨8, [], pt o 0⟩, ⟨13, [], .func (.func 35) #[] #[pt o 0, pt j 0]⟩, ⟨70, [], .slice ao1 u0.Signals.length cap2⟩, ⟨71, [], i6 (u0.Signals.length : Int)⟩, ⟨72, [], i6 s.1⟩]) (fun s => [.row o [.map (some l)] 63, .map (fun x : List UInt8 => str x) (fun x : Reading => .agg (e37Md x).toArray) l s.2.1, .row j [i6 u0.ID, .bool u0.Long, .bool false, .bool false, i6 0, .slice (sm i) s.2.2.1.length u0.Size.toNat] 27, .own t8 5 (sm i) u0.Size.toNat s.2.2.1, .row n [i6 0, .bool false, .bool false, .bool false, i6 0, .slice none 0 0] 27, .row p (e24Md u0 ao1 cap2) 24]) (fun s => s.2.2.2) (fun s => gM s.1 s.2.1 s.2.2.1 ∧ Fz.le U s.2.2.2) (fun s => gN s.1 s.2.1 s.2.2.1) ⟨0, y, af, U⟩ ⟨gO, Fz.le.refl _⟩ (by exact dw.reg) (by exact aR) ?_
   rintro ⟨C, g, u, D⟩ ⟨gQ, J⟩ gR gS dy dz
   have aU := gP C g u gQ
   have aj := c9.mono J
   have av := gL.mono J
   refine sqB dy dz [] [] [(73, .bool (decide (C < (u0.Signals.length : Int))))] ?_; intro dB aX
   refine s_ (c_ aX aU (fun _ gT => ?_) fun _ hM => ?_)
   ·
    apply k_
    have dC : Fr 102 [] [⟨2, [], pt p 0⟩, ⟨4, [], pt n 0⟩, ⟨7, [], pt j 0⟩, ⟨8, [], pt o 0⟩, ⟨13, [], .func (.func 35) #[] #[pt o 0, pt j 0]⟩, ⟨70, [], .slice ao1 u0.Signals.length cap2⟩, ⟨71, [], i6 (u0.Signals.length : Int)⟩, ⟨72, [], i6 C⟩] dB := aX.reg
    obtain ⟨gU, gV, gW⟩ := gT
    refine wp_seq_k fun KJ261 hKJ262 => ?_
    have bJ : ∀ (aw : List (List UInt8 × Reading)) (ak : List Int) (aY : Fz), gU aw ak ∧ Fz.le D aY → ∀ a1 w1, Fr 102 [] [⟨2, [], pt p 0⟩, ⟨4, [], pt n 0⟩, ⟨7, [], pt j 0⟩, ⟨8, [], pt o 0⟩, ⟨13, [], .func (.func 35) #[] #[pt o 0, pt j 0]⟩, ⟨70, [], .slice ao1 u0.Signals.length cap2⟩, ⟨71, [], i6 (u0.Signals.length : Int)⟩, ⟨72, [], i6 C⟩] a1 → Mem w.heap.size [] w Z [.row o [.map (some l)] 63, .map (fun x : List UInt8 => str x) (fun x : Reading => .agg (e37Md x).toArray) l aw, .row j [i6 u0.ID, .bool u0.Long, .bool false, .bool false, i6 0, .slice (sm i) ak.length u0.Size.toNat] 27, .own t8 5 (sm i) u0.Size.toNat ak, .row n [i6 0, .bool false, .bool false, .bool false, i6 0, .slice none 0 0] 27, .row p (e24Md u0 ao1 cap2) 24] aY w1 → KJ261 a1 w1 := by
     rintro aw ak aY ⟨gX, al⟩ jy jz dD dE
     refine hKJ262 _ _ ?_
     have dF := gW aw ak gX
     have gY := J.mono al
     refine rgB dD dE [] [] [(72, i6 (w64 (C + 1)))] ?_; intro jE gZ
     exact d_ ⟨⟨w64 (C + 1), aw, ak, aY⟩, ⟨dF.1, gY⟩, dF.2, (gZ.reg).anyβ _ (by kernel_rfl), dE.kp⟩
    have ax := Fz.le.refl D
    refine b_ (sqH ?_); intro g0 dG
    refine s1 dC 74 (i6 C) ?_; intro jF dH
    obtain ⟨g1, dI⟩ := gV
    refine ix_ dH aj C g1 .i64 46 72 ?_; intro g2 g3 g4 a jG g5 aZ g6 dJ
    have a2 := dI a g5
    obtain rfl : g4 = ((e46Md a) : List Value) := g6
    refine z2 dJ dz 76 aZ 0 9 (e46Md a) rfl ?_; intro jH dK
    refine nw dK dz pb [str [], i6 0, i6 0, .bool false, .bool false, i6 0, i6 0, i6 0, i6 0] 46 ?_; intro H jI jJ dL dM
    refine s1 dL 15 (i6 C) ?_; intro jK bK
    refine sx bK dM 0 (e46Md a) 0 ?_; intro g7 dN
    have W : Mem w.heap.size [] w Z [.row H (e46Md a) 46, .row o [.map (some l)] 63, .map (fun x : List UInt8 => str x) (fun x : Reading => .agg (e37Md x).toArray) l g, .row j [i6 u0.ID, .bool u0.Long, .bool false, .bool false, i6 0, .slice (sm i) u.length u0.Size.toNat] 27, .own t8 5 (sm i) u0.Size.toNat u, .row n [i6 0, .bool false, .bool false, .bool false, i6 0, .slice none 0 0] 27, .row p (e24Md u0 ao1 cap2) 24] D g7 := dN
    apply dG
    refine s_ (sqH ?_); intro dO a3
    refine bt bK W 5 [6] [] [(81, .bool (C == u0.Chooser))] ?_; intro jL a4
    refine e_ a2 (fun ay g8 => ?_) fun ay g9 => ?_
    ·
     have dP := a4.reval (d := 81) (c := []) (v := .bool (C == u0.Chooser)) (by kernel_rfl) (.bool true) (by rw [ay])
     refine bt dP W 7 [] [82, 83, 84, 85, 86, 87, 88] [(88, .bool true)] ?_; intro jM dQ
     apply a3
     refine cdT dQ (by kernel_rfl) ?_
     exact x_ (y_ (z_ (d_ (bJ g u D ⟨g8, ax⟩ _ _ ((dQ.reg).anyβ _ (by kernel_rfl)) (W.kp)))))
    have dR := a4.reval (d := 81) (c := []) (v := .bool (C == u0.Chooser)) (by kernel_rfl) (.bool false) (by rw [ay])
    refine bt dR W 4 [6, 0, 3] [82, 83, 84, 85] [(82, .agg (e24Md u0 ao1 cap2).toArray), (83, .agg (e46Md a).toArray), (85, .slice (sm i) u.length u0.Size.toNat)] ?_; intro jN bL
    obtain ⟨ha, a5⟩ := g9
    refine fcl bL W (.bool (mthereS u0 a u)) 23 #[.agg (e24Md u0 ao1 cap2).toArray, .agg (e46Md a).toArray, .slice (sm i) u.length u0.Size.toNat] (wK bL false) rfl (by kernel_rfl) (fun _ => by kernel_rfl) ((by obtain ⟨Z9, hb, hc, hd⟩ := W.lend 4 rfl; exact mthere_fun u0 a u ha ao1 cap2 (sm i) u0.Size.toNat _ _ (SlR.mono aj hb) hd hc)) ?_; intro jO jP dS az
    refine bt dS az 2 [] [87, 88] [(88, .bool (!(mthereS u0 a u)))] ?_; intro jQ a6
    apply a3
    refine c_ a6 a5 (fun _ he => ?_) fun _ a7 => ?_
    ·
     exact x_ (y_ (z_ (d_ (bJ g u D ⟨he, ax⟩ _ _ ((a6.reg).anyβ _ (by kernel_rfl)) (az.kp)))))
    refine k_ (sqH ?_); intro dT a8
    refine bt a6 az 2 [0] [] [(89, .func (.func 35) #[] #[pt o 0, pt j 0]), (90, .agg (e46Md a).toArray)] ?_; intro jR bN
    refine ck bN 35 #[.agg (e46Md a).toArray, pt o 0, pt j 0] ?_
    refine enter0 Tryz.func35 rfl rfl (by kernel_rfl) ?_; intro hf dU
    have dV : Fr 38 [] [⟨0, [], .agg (e46Md a).toArray⟩, ⟨1, [], pt o 0⟩, ⟨2, [], pt j 0⟩] hf := dU.reg
    refine sqH ?_; intro hg dW
    refine nw dV az pb (e46Md a) 46 ?_; intro F jS jT dX aA
    refine s1 dX 4 (i6 0) ?_; intro jU dY
    apply dW
    refine sqH ?_; intro hh dZ
    refine bt dY aA 3 [2, 0] [] [(10, .map (some l)), (12, str a.Name)] ?_; intro jV d0
    refine lkO d0 aA 3 (m := g) a.Name ((⟨[], 0, 0⟩ : Reading) : Reading) (t := 63) (kt := 9) (et := 37) (nog rfl _) rfl (by kernel_rfl) rfl (by kernel_rfl) (by kernel_rfl) rfl (MKey.str (by kernel_rfl)) (by kernel_rfl) (by kernel_rfl) ?_; intro jW d1
    refine bt d1 aA 3 [] [] [(14, .agg (e37Md ((mget g a.Name).getD ((⟨[], 0, 0⟩ : Reading) : Reading))).toArray), (15, .bool (mget g a.Name).isSome)] ?_; intro jX d2
    refine nw d2 aA pb [str [], i6 0, i6 0] 37 ?_; intro L jY jZ bO d3
    refine sx bO d3 0 (e37Md ((mget g a.Name).getD ((⟨[], 0, 0⟩ : Reading) : Reading))) 0 ?_; intro d4 d5
    refine s1 bO 6 (.bool (mget g a.Name).isSome) ?_; intro j0 d6
    have X : Mem w.heap.size [] w Z [.row L (e37Md ((mget g a.Name).getD ((⟨[], 0, 0⟩ : Reading) : Reading))) 37, .row F (e46Md a) 46, .row H (e46Md a) 46, .row o [.map (some l)] 63, .map (fun x : List UInt8 => str x) (fun x : Reading => .agg (e37Md x).toArray) l g, .row j [i6 u0.ID, .bool u0.Long, .bool false, .bool false, i6 0, .slice (sm i) u.length u0.Size.toNat] 27, .own t8 5 (sm i) u0.Size.toNat u, .row n [i6 0, .bool false, .bool false, .bool false, i6 0, .slice none 0 0] 27, .row p (e24Md u0 ao1 cap2) 24] D d4 := d5
    apply dZ
    refine s_ (sqB d6 X [] [] [(17, .bool (!(mget g a.Name).isSome))] ?_); intro j1 aB
    refine c_ aB a7 (fun _ hi => ?_) fun _ hl => ?_
    ·
     refine sqB aB X [] [] [(4, i6 14)] ?_; intro j2 d7
     refine r_ (h_ (ra1 d7 (i6 14) ?_))
     refine ⟨_, rfl, ?_⟩; intro j3 d8
     refine s1 d8 17 (i6 14) ?_; intro j4 d9
     have a9 : Mem w.heap.size [] w Z [.row L (e37Md ((mget g a.Name).getD ((⟨[], 0, 0⟩ : Reading) : Reading))) 37, .row F (e46Md a) 46, .row H (e46Md a) 46, .row o [.map (some l)] 63, .map (fun x : List UInt8 => str x) (fun x : Reading => .agg (e37Md x).toArray) l g, .row j [i6 u0.ID, .bool u0.Long, .bool false, .bool false, i6 0, .slice (sm i) u.length u0.Size.toNat] 27, .own t8 5 (sm i) u0.Size.toNat u, .row n [i6 0, .bool false, .bool false, .bool false, i6 0, .slice none 0 0] 27, .row p (e24Md u0 ao1 cap2) 24] D d4 := X
     apply a8
     refine sqB d9 a9 [] [] [(93, .bool true)] ?_; intro j5 bQ
     refine cdT bQ (by kernel_rfl) ?_
     refine sqH ?_; intro hj ea
     refine bt bQ a9 2 [] [] [(94, .agg #[i6 0, .bool false, .bool false, .bool false, i6 0, .slice none 0 0]), (95, i6 14)] ?_; intro j6 bR
     refine sx bR a9 7 [i6 0, .bool false, .bool false, .bool false, i6 0, .slice none 0 0] 0 ?_; intro hk eb
     refine s1 bR 5 (i6 14) ?_; intro j7 ec
     have ed : Mem w.heap.size [] w Z [.row L (e37Md ((mget g a.Name).getD ((⟨[], 0, 0⟩ : Reading) : Reading))) 37, .row F (e46Md a) 46, .row H (e46Md a) 46, .row o [.map (some l)] 63, .map (fun x : List UInt8 => str x) (fun x : Reading => .agg (e37Md x).toArray) l g, .row j [i6 u0.ID, .bool u0.Long, .bool false, .bool false, i6 0, .slice (sm i) u.length u0.Size.toNat] 27, .own t8 5 (sm i) u0.Size.toNat u, .row n [i6 0, .bool false, .bool false, .bool false, i6 0, .slice none 0 0] 27, .row p (e24Md u0 ao1 cap2) 24] D hk := eb
     apply ea
     refine r_ (i_ (h_ (h_ (i_ (h_ (rt (fn := Tryz.f12) (v := .tuple #[.agg #[i6 0, .bool false, .bool false, .bool false, i6 0, .slice none 0 0], i6 14]) ec (re2c ec (fn := Tryz.f12) rfl (ad := ⟨n, 0, none⟩) (by kernel_rfl) (loadVar_run ed 7 (b := n) (k := 6) (vs := [i6 0, .bool false, .bool false, .bool false, i6 0, .slice none 0 0]) (ty := 27) rfl (by kernel_rfl) (by kernel_rfl)) (by kernel_rfl)) ?_))))))
     exact ⟨((⟨0, false, false, false, 0, []⟩ : Frame), 14), none, 0, D, rfl, hi, (SlR.nil _ _), ed.kp⟩
    refine k_ (sqH ?_); intro hn ee
    refine bt aB X 3 [3, 1] [] [(18, .map (some l)), (20, str a.Name)] ?_; intro j8 bS
    refine mdl bS X 4 (m := g) a.Name (t := 63) (kt := 9) (et := 37) (nog rfl _) rfl rfl (by kernel_rfl) (by kernel_rfl) rfl (MKey.str (by kernel_rfl)) (by kernel_rfl) ?_; intro ho ef
    have ba : Mem w.heap.size [] w Z [.row L (e37Md ((mget g a.Name).getD ((⟨[], 0, 0⟩ : Reading) : Reading))) 37, .row F (e46Md a) 46, .row H (e46Md a) 46, .row o [.map (some l)] 63, .map (fun x : List UInt8 => str x) (fun x : Reading => .agg (e37Md x).toArray) l (mdel g a.Name), .row j [i6 u0.ID, .bool u0.Long, .bool false, .bool false, i6 0, .slice (sm i) u.length u0.Size.toNat] 27, .own t8 5 (sm i) u0.Size.toNat u, .row n [i6 0, .bool false, .bool false, .bool false, i6 0, .slice none 0 0] 27, .row p (e24Md u0 ao1 cap2) 24] D ho := ef
    apply ee
    refine sqH ?_; intro hq eg
    refine bt bS ba 5 [1, 0, 0] [] [(22, .agg (e46Md a).toArray), (24, i6 ((mget g a.Name).getD ((⟨[], 0, 0⟩ : Reading) : Reading)).Num), (26, i6 ((mget g a.Name).getD ((⟨[], 0, 0⟩ : Reading) : Reading)).Den)] ?_; intro j9 eh
    refine fc eh ba (sraw_fun a ((mget g a.Name).getD ((⟨[], 0, 0⟩ : Reading) : Reading)).Num ((mget g a.Name).getD ((⟨[], 0, 0⟩ : Reading) : Reading)).Den _ _ ba.fz) ?_; intro ka kb ei P
    refine bt ei P 5 [] [] [(7, i6 (rawS a ((mget g a.Name).getD ((⟨[], 0, 0⟩ : Reading) : Reading)).Num ((mget g a.Name).getD ((⟨[], 0, 0⟩ : Reading) : Reading)).Den).1), (8, i6 (rawS a ((mget g a.Name).getD ((⟨[], 0, 0⟩ : Reading) : Reading)).Num ((mget g a.Name).getD ((⟨[], 0, 0⟩ : Reading) : Reading)).Den).2)] ?_; intro kc ej
    apply eg
    refine s_ (sqB ej P [] [] [(31, .bool ((rawS a ((mget g a.Name).getD ((⟨[], 0, 0⟩ : Reading) : Reading)).Num ((mget g a.Name).getD ((⟨[], 0, 0⟩ : Reading) : Reading)).Den).2 == 0))] ?_); intro ek el
    have em : Fr 38 [] [⟨2, [], pt j 0⟩, ⟨3, [], pt F 0⟩, ⟨7, [], i6 (rawS a ((mget g a.Name).getD ((⟨[], 0, 0⟩ : Reading) : Reading)).Num ((mget g a.Name).getD ((⟨[], 0, 0⟩ : Reading) : Reading)).Den).1⟩, ⟨8, [], i6 (rawS a ((mget g a.Name).getD ((⟨[], 0, 0⟩ : Reading) : Reading)).Num ((mget g a.Name).getD ((⟨[], 0, 0⟩ : Reading) : Reading)).Den).2⟩, ⟨31, [], .bool ((rawS a ((mget g a.Name).getD ((⟨[], 0, 0⟩ : Reading) : Reading)).Num ((mget g a.Name).getD ((⟨[], 0, 0⟩ : Reading) : Reading)).Den).2 == 0)⟩] ek := el.reg
    obtain ⟨hr, bb, hs⟩ := hl
    refine wp_then_k fun KJ478 hKJ479 => ?_
    have en : ∀ (E : List Int) (Y : Fz), hr E ∧ E.length = u.length ∧ Fz.le D Y → ∀ a1 w1, Fr 38 [] [⟨8, [], i6 (rawS a ((mget g a.Name).getD ((⟨[], 0, 0⟩ : Reading) : Reading)).Num ((mget g a.Name).getD ((⟨[], 0, 0⟩ : Reading) : Reading)).Den).2⟩] a1 → Mem w.heap.size [] w Z [.row L (e37Md ((mget g a.Name).getD ((⟨[], 0, 0⟩ : Reading) : Reading))) 37, .row F (e46Md a) 46, .row H (e46Md a) 46, .row o [.map (some l)] 63, .map (fun x : List UInt8 => str x) (fun x : Reading => .agg (e37Md x).toArray) l (mdel g a.Name), .row j [i6 u0.ID, .bool u0.Long, .bool false, .bool false, i6 0, .slice (sm i) E.length u0.Size.toNat] 27, .own t8 5 (sm i) u0.Size.toNat E, .row n [i6 0, .bool false, .bool false, .bool false, i6 0, .slice none 0 0] 27, .row p (e24Md u0 ao1 cap2) 24] Y w1 → KJ478 a1 w1 := by
     rintro E Y ⟨ht, kd, Q⟩ ke hu eo bT
     refine hKJ479 _ _ ?_
     have bc := hs E ht
     have hv := ax.mono Q
     refine sqB eo bT [] [] [(4, i6 (rawS a ((mget g a.Name).getD ((⟨[], 0, 0⟩ : Reading) : Reading)).Num ((mget g a.Name).getD ((⟨[], 0, 0⟩ : Reading) : Reading)).Den).2)] ?_; intro kl ep
     refine r_ (ra1 ep (i6 (rawS a ((mget g a.Name).getD ((⟨[], 0, 0⟩ : Reading) : Reading)).Num ((mget g a.Name).getD ((⟨[], 0, 0⟩ : Reading) : Reading)).Den).2) ?_)
     refine ⟨_, rfl, ?_⟩; intro hw eq
     have hx : E.length = u.length := by first | assumption | omega | (dsimp only at *; omega) | (simp; try omega)
     have er : Fr 102 [] [⟨2, [], pt p 0⟩, ⟨4, [], pt n 0⟩, ⟨7, [], pt j 0⟩, ⟨8, [], pt o 0⟩, ⟨13, [], .func (.func 35) #[] #[pt o 0, pt j 0]⟩, ⟨15, [], i6 C⟩, ⟨16, [], pt H 0⟩, ⟨70, [], .slice ao1 u0.Signals.length cap2⟩, ⟨71, [], i6 (u0.Signals.length : Int)⟩, ⟨72, [], i6 C⟩, ⟨74, [], i6 C⟩, ⟨75, [], pt g2 g3⟩, ⟨76, [], .agg (e46Md a).toArray⟩, ⟨81, [], .bool false⟩, ⟨82, [], .agg (e24Md u0 ao1 cap2).toArray⟩, ⟨83, [], .agg (e46Md a).toArray⟩, ⟨85, [], .slice (sm i) E.length u0.Size.toNat⟩, ⟨86, [], .bool (mthereS u0 a u)⟩, ⟨88, [], .bool (!(mthereS u0 a u))⟩, ⟨89, [], .func (.func 35) #[] #[pt o 0, pt j 0]⟩, ⟨90, [], .agg (e46Md a).toArray⟩, ⟨91, [], i6 (rawS a ((mget g a.Name).getD ((⟨[], 0, 0⟩ : Reading) : Reading)).Num ((mget g a.Name).getD ((⟨[], 0, 0⟩ : Reading) : Reading)).Den).2⟩] hw := by rw [hx]; exact eq.reg
     refine s1 er 17 (i6 (rawS a ((mget g a.Name).getD ((⟨[], 0, 0⟩ : Reading) : Reading)).Num ((mget g a.Name).getD ((⟨[], 0, 0⟩ : Reading) : Reading)).Den).2) ?_; intro km es
     have aD : Mem w.heap.size [] w Z [.row L (e37Md ((mget g a.Name).getD ((⟨[], 0, 0⟩ : Reading) : Reading))) 37, .row F (e46Md a) 46, .row H (e46Md a) 46, .row o [.map (some l)] 63, .map (fun x : List UInt8 => str x) (fun x : Reading => .agg (e37Md x).toArray) l (mdel g a.Name), .row j [i6 u0.ID, .bool u0.Long, .bool false, .bool false, i6 0, .slice (sm i) E.length u0.Size.toNat] 27, .own t8 5 (sm i) u0.Size.toNat E, .row n [i6 0, .bool false, .bool false, .bool false, i6 0, .slice none 0 0] 27, .row p (e24Md u0 ao1 cap2) 24] Y hu := bT
     apply a8
     refine sqB es aD [] [] [(93, .bool ((rawS a ((mget g a.Name).getD ((⟨[], 0, 0⟩ : Reading) : Reading)).Num ((mget g a.Name).getD ((⟨[], 0, 0⟩ : Reading) : Reading)).Den).2 != 0))] ?_; intro kn bd
     refine c_ bd bc (fun _ hy => ?_) fun _ hB => ?_
     ·
      refine sqH ?_; intro hz eu
      refine bt bd aD 2 [] [] [(94, .agg #[i6 0, .bool false, .bool false, .bool false, i6 0, .slice none 0 0]), (95, i6 (rawS a ((mget g a.Name).getD ((⟨[], 0, 0⟩ : Reading) : Reading)).Num ((mget g a.Name).getD ((⟨[], 0, 0⟩ : Reading) : Reading)).Den).2)] ?_; intro ko bV
      refine sx bV aD 7 [i6 0, .bool false, .bool false, .bool false, i6 0, .slice none 0 0] 0 ?_; intro hA ev
      refine s1 bV 5 (i6 (rawS a ((mget g a.Name).getD ((⟨[], 0, 0⟩ : Reading) : Reading)).Num ((mget g a.Name).getD ((⟨[], 0, 0⟩ : Reading) : Reading)).Den).2) ?_; intro kp ew
      have ex : Mem w.heap.size [] w Z [.row L (e37Md ((mget g a.Name).getD ((⟨[], 0, 0⟩ : Reading) : Reading))) 37, .row F (e46Md a) 46, .row H (e46Md a) 46, .row o [.map (some l)] 63, .map (fun x : List UInt8 => str x) (fun x : Reading => .agg (e37Md x).toArray) l (mdel g a.Name), .row j [i6 u0.ID, .bool u0.Long, .bool false, .bool false, i6 0, .slice (sm i) E.length u0.Size.toNat] 27, .own t8 5 (sm i) u0.Size.toNat E, .row n [i6 0, .bool false, .bool false, .bool false, i6 0, .slice none 0 0] 27, .row p (e24Md u0 ao1 cap2) 24] Y hA := ev
      apply eu
      refine r_ (i_ (h_ (h_ (i_ (h_ (rt (fn := Tryz.f12) (v := .tuple #[.agg #[i6 0, .bool false, .bool false, .bool false, i6 0, .slice none 0 0], i6 (rawS a ((mget g a.Name).getD ((⟨[], 0, 0⟩ : Reading) : Reading)).Num ((mget g a.Name).getD ((⟨[], 0, 0⟩ : Reading) : Reading)).Den).2]) ew (re2c ew (fn := Tryz.f12) rfl (ad := ⟨n, 0, none⟩) (by kernel_rfl) (loadVar_run ex 7 (b := n) (k := 6) (vs := [i6 0, .bool false, .bool false, .bool false, i6 0, .slice none 0 0]) (ty := 27) rfl (by kernel_rfl) (by kernel_rfl)) (by kernel_rfl)) ?_))))))
      exact ⟨((⟨0, false, false, false, 0, []⟩ : Frame), (rawS a ((mget g a.Name).getD ((⟨[], 0, 0⟩ : Reading) : Reading)).Num ((mget g a.Name).getD ((⟨[], 0, 0⟩ : Reading) : Reading)).Den).2), none, 0, Y, rfl, hy, (SlR.nil _ _), ex.kp⟩
     exact l_ (j_ (d_ (bJ (mdel g a.Name) E Y ⟨hB, hv⟩ _ _ ((bd.reg).anyβ _ (by kernel_rfl)) (aD.kp))))
    have be := Fz.le.refl D
    refine c_ em bb (fun _ hC => ?_) fun _ hL => ?_
    ·
     refine rgH ?_; intro hD ey
     refine bt em P 4 [1, 5] [] [(32, .agg (e46Md a).toArray), (34, .slice (sm i) u.length u0.Size.toNat), (35, i6 (rawS a ((mget g a.Name).getD ((⟨[], 0, 0⟩ : Reading) : Reading)).Num ((mget g a.Name).getD ((⟨[], 0, 0⟩ : Reading) : Reading)).Den).1)] ?_; intro kq ez
     obtain ⟨hE, eA⟩ := hC
     refine ck ez 37 #[.agg (e46Md a).toArray, .slice (sm i) u.length u0.Size.toNat, i6 (rawS a ((mget g a.Name).getD ((⟨[], 0, 0⟩ : Reading) : Reading)).Num ((mget g a.Name).getD ((⟨[], 0, 0⟩ : Reading) : Reading)).Den).1] ?_
     refine (sputd_fun a u (rawS a ((mget g a.Name).getD ((⟨[], 0, 0⟩ : Reading) : Reading)).Num ((mget g a.Name).getD ((⟨[], 0, 0⟩ : Reading) : Reading)).Den).1 hE (sm i) u0.Size.toNat _ _ _ _ _ _ (P.perm (pk 6 rfl)) P.fz).mono ?_; rintro _ eB ⟨bX, rfl, M, hF, hm⟩; refine ⟨_, rfl, ?_⟩; intro hG eC; have eD := hm
     replace be := be.mono M
     have hH : Fr 38 [] [⟨2, [], pt j 0⟩, ⟨3, [], pt F 0⟩, ⟨7, [], i6 (rawS a ((mget g a.Name).getD ((⟨[], 0, 0⟩ : Reading) : Reading)).Num ((mget g a.Name).getD ((⟨[], 0, 0⟩ : Reading) : Reading)).Den).1⟩, ⟨8, [], i6 (rawS a ((mget g a.Name).getD ((⟨[], 0, 0⟩ : Reading) : Reading)).Num ((mget g a.Name).getD ((⟨[], 0, 0⟩ : Reading) : Reading)).Den).2⟩, ⟨31, [], .bool ((rawS a ((mget g a.Name).getD ((⟨[], 0, 0⟩ : Reading) : Reading)).Num ((mget g a.Name).getD ((⟨[], 0, 0⟩ : Reading) : Reading)).Den).2 == 0)⟩, ⟨32, [], .agg (e46Md a).toArray⟩, ⟨34, [], .slice (sm i) (putS a u (rawS a ((mget g a.Name).getD ((⟨[], 0, 0⟩ : Reading) : Reading)).Num ((mget g a.Name).getD ((⟨[], 0, 0⟩ : Reading) : Reading)).Den).1).length u0.Size.toNat⟩, ⟨35, [], i6 (rawS a ((mget g a.Name).getD ((⟨[], 0, 0⟩ : Reading) : Reading)).Num ((mget g a.Name).getD ((⟨[], 0, 0⟩ : Reading) : Reading)).Den).1⟩, ⟨36, [], .tuple #[]⟩] hG := by rw [hF]; exact eC.reg
     have hI : (putS a u (rawS a ((mget g a.Name).getD ((⟨[], 0, 0⟩ : Reading) : Reading)).Num ((mget g a.Name).getD ((⟨[], 0, 0⟩ : Reading) : Reading)).Den).1).length = u.length := by first | assumption | (simp; try omega)
     have eE : Mem w.heap.size [] w Z [.own t8 5 (sm i) u0.Size.toNat (putS a u (rawS a ((mget g a.Name).getD ((⟨[], 0, 0⟩ : Reading) : Reading)).Num ((mget g a.Name).getD ((⟨[], 0, 0⟩ : Reading) : Reading)).Den).1), .row L (e37Md ((mget g a.Name).getD ((⟨[], 0, 0⟩ : Reading) : Reading))) 37, .row F (e46Md a) 46, .row H (e46Md a) 46, .row o [.map (some l)] 63, .map (fun x : List UInt8 => str x) (fun x : Reading => .agg (e37Md x).toArray) l (mdel g a.Name), .row j [i6 u0.ID, .bool u0.Long, .bool false, .bool false, i6 0, .slice (sm i) (putS a u (rawS a ((mget g a.Name).getD ((⟨[], 0, 0⟩ : Reading) : Reading)).Num ((mget g a.Name).getD ((⟨[], 0, 0⟩ : Reading) : Reading)).Den).1).length u0.Size.toNat] 27, .row n [i6 0, .bool false, .bool false, .bool false, i6 0, .slice none 0 0] 27, .row p (e24Md u0 ao1 cap2) 24] bX eB := by rw [hI]; exact eD
     have eG : Mem w.heap.size [] w Z [.own t8 5 (sm i) u0.Size.toNat (putS a u (rawS a ((mget g a.Name).getD ((⟨[], 0, 0⟩ : Reading) : Reading)).Num ((mget g a.Name).getD ((⟨[], 0, 0⟩ : Reading) : Reading)).Den).1), .row L (e37Md ((mget g a.Name).getD ((⟨[], 0, 0⟩ : Reading) : Reading))) 37, .row F (e46Md a) 46, .row H (e46Md a) 46, .row o [.map (some l)] 63, .map (fun x : List UInt8 => str x) (fun x : Reading => .agg (e37Md x).toArray) l (mdel g a.Name), .row j [i6 u0.ID, .bool u0.Long, .bool false, .bool false, i6 0, .slice (sm i) (putS a u (rawS a ((mget g a.Name).getD ((⟨[], 0, 0⟩ : Reading) : Reading)).Num ((mget g a.Name).getD ((⟨[], 0, 0⟩ : Reading) : Reading)).Den).1).length u0.Size.toNat] 27, .row n [i6 0, .bool false, .bool false, .bool false, i6 0, .slice none 0 0] 27, .row p (e24Md u0 ao1 cap2) 24] bX eB := eE
     have hJ := eA (eG.ownSmall 0 rfl)
     apply ey
     apply d_
     have hK := eG.perm ((pk 1 rfl).trans (((pk 1 rfl).trans (((pk 1 rfl).trans (((pk 1 rfl).trans (((pk 1 rfl).trans (((pk 1 rfl).trans (lpr.cons _)).cons _)).cons _)).cons _)).cons _)).cons _))
     exact en (putS a u (rawS a ((mget g a.Name).getD ((⟨[], 0, 0⟩ : Reading) : Reading)).Num ((mget g a.Name).getD ((⟨[], 0, 0⟩ : Reading) : Reading)).Den).1) bX ⟨hJ, (by first | rfl | assumption | omega | (dsimp only at *; omega) | (simp; try omega)), be⟩ _ _ ((hH.reg).anyβ _ (by kernel_rfl)) (hK.kp)
    exact l_ (d_ (en u D ⟨hL, (by first | rfl | assumption | omega | (dsimp only at *; omega) | (simp; try omega)), be⟩ _ _ ((em.reg).anyβ _ (by kernel_rfl)) (P.kp)))
   exact x_ (y_ (y_ (z_ (d_ (gB g u D ⟨hM, av⟩ _ _ ((aX.reg).anyβ _ (by kernel_rfl)) (dz.kp))))))
  have bf := Fz.le.refl Z
  refine c_ c6 aQ (fun _ hN => ?_) fun _ io => ?_
  ·
   refine sqH ?_; intro eH bg
   refine bt c6 O 5 [5, 5] [] [(57, .func (.func 35) #[] #[pt o 0, pt j 0]), (59, .slice ao1 u0.Signals.length cap2), (61, i6 u0.Chooser)] ?_; intro kr eI
   obtain ⟨hO, eJ⟩ := hN
   refine ix_ eI hs3 u0.Chooser hO .i64 46 72 ?_; intro ks ku hP f kv hQ bh hR eK
   have bi := eJ f hQ
   obtain rfl : hP = ((e46Md f) : List Value) := hR
   refine z2 eK O 63 bh 0 9 (e46Md f) rfl ?_; intro kw bZ
   refine ck bZ 35 #[.agg (e46Md f).toArray, pt o 0, pt j 0] ?_
   refine enter0 Tryz.func35 rfl rfl (by kernel_rfl) ?_; intro hS eL
   have eM : Fr 38 [] [⟨0, [], .agg (e46Md f).toArray⟩, ⟨1, [], pt o 0⟩, ⟨2, [], pt j 0⟩] hS := eL.reg
   refine sqH ?_; intro hT eN
   refine nw eM O pb (e46Md f) 46 ?_; intro G kx ky eO aE
   refine s1 eO 4 (i6 0) ?_; intro kz eP
   apply eN
   refine sqH ?_; intro hU eQ
   refine bt eP aE 3 [1, 0] [] [(10, .map (some l)), (12, str f.Name)] ?_; intro kA eR
   refine lkO eR aE 2 (m := h) f.Name ((⟨[], 0, 0⟩ : Reading) : Reading) (t := 63) (kt := 9) (et := 37) (nog rfl _) rfl (by kernel_rfl) rfl (by kernel_rfl) (by kernel_rfl) rfl (MKey.str (by kernel_rfl)) (by kernel_rfl) (by kernel_rfl) ?_; intro kB eS
   refine bt eS aE 3 [] [] [(14, .agg (e37Md ((mget h f.Name).getD ((⟨[], 0, 0⟩ : Reading) : Reading))).toArray), (15, .bool (mget h f.Name).isSome)] ?_; intro kC eT
   refine nw eT aE pb [str [], i6 0, i6 0] 37 ?_; intro N kD kE b0 eU
   refine sx b0 eU 0 (e37Md ((mget h f.Name).getD ((⟨[], 0, 0⟩ : Reading) : Reading))) 0 ?_; intro eV eW
   refine s1 b0 6 (.bool (mget h f.Name).isSome) ?_; intro kF eX
   have aa : Mem w.heap.size [] w Z [.row N (e37Md ((mget h f.Name).getD ((⟨[], 0, 0⟩ : Reading) : Reading))) 37, .row G (e46Md f) 46, .row o [.map (some l)] 63, .map (fun x : List UInt8 => str x) (fun x : Reading => .agg (e37Md x).toArray) l h, .row j [i6 u0.ID, .bool u0.Long, .bool false, .bool false, i6 0, .slice (sm i) (List.replicate u0.Size.toNat (0 : Int)).length u0.Size.toNat] 27, .own t8 5 (sm i) u0.Size.toNat (List.replicate u0.Size.toNat (0 : Int)), .row n [i6 0, .bool false, .bool false, .bool false, i6 0, .slice none 0 0] 27, .row p (e24Md u0 ao1 cap2) 24] Z eV := eW
   apply eQ
   refine s_ (sqB eX aa [] [] [(17, .bool (!(mget h f.Name).isSome))] ?_); intro kG aF
   refine c_ aF bi (fun _ hV => ?_) fun _ hY => ?_
   ·
    refine sqB aF aa [] [] [(4, i6 14)] ?_; intro kH eY
    refine r_ (h_ (ra1 eY (i6 14) ?_))
    refine ⟨_, rfl, ?_⟩; intro kI eZ
    refine s1 eZ 14 (i6 14) ?_; intro kJ e0
    have bj : Mem w.heap.size [] w Z [.row N (e37Md ((mget h f.Name).getD ((⟨[], 0, 0⟩ : Reading) : Reading))) 37, .row G (e46Md f) 46, .row o [.map (some l)] 63, .map (fun x : List UInt8 => str x) (fun x : Reading => .agg (e37Md x).toArray) l h, .row j [i6 u0.ID, .bool u0.Long, .bool false, .bool false, i6 0, .slice (sm i) (List.replicate u0.Size.toNat (0 : Int)).length u0.Size.toNat] 27, .own t8 5 (sm i) u0.Size.toNat (List.replicate u0.Size.toNat (0 : Int)), .row n [i6 0, .bool false, .bool false, .bool false, i6 0, .slice none 0 0] 27, .row p (e24Md u0 ao1 cap2) 24] Z eV := aa
    apply bg
    refine sqB e0 bj [] [] [(66, .bool true)] ?_; intro kK b2
    refine cdT b2 (by kernel_rfl) ?_
    refine sqH ?_; intro hW e1
    refine bt b2 bj 2 [] [] [(67, .agg #[i6 0, .bool false, .bool false, .bool false, i6 0, .slice none 0 0]), (68, i6 14)] ?_; intro kL b3
    refine sx b3 bj 6 [i6 0, .bool false, .bool false, .bool false, i6 0, .slice none 0 0] 0 ?_; intro hX e2
    refine s1 b3 5 (i6 14) ?_; intro kM e3
    have e4 : Mem w.heap.size [] w Z [.row N (e37Md ((mget h f.Name).getD ((⟨[], 0, 0⟩ : Reading) : Reading))) 37, .row G (e46Md f) 46, .row o [.map (some l)] 63, .map (fun x : List UInt8 => str x) (fun x : Reading => .agg (e37Md x).toArray) l h, .row j [i6 u0.ID, .bool u0.Long, .bool false, .bool false, i6 0, .slice (sm i) (List.replicate u0.Size.toNat (0 : Int)).length u0.Size.toNat] 27, .own t8 5 (sm i) u0.Size.toNat (List.replicate u0.Size.toNat (0 : Int)), .row n [i6 0, .bool false, .bool false, .bool false, i6 0, .slice none 0 0] 27, .row p (e24Md u0 ao1 cap2) 24] Z hX := e2
    apply e1
    refine r_ (h_ (rt (fn := Tryz.f12) (v := .tuple #[.agg #[i6 0, .bool false, .bool false, .bool false, i6 0, .slice none 0 0], i6 14]) e3 (re2c e3 (fn := Tryz.f12) rfl (ad := ⟨n, 0, none⟩) (by kernel_rfl) (loadVar_run e4 6 (b := n) (k := 6) (vs := [i6 0, .bool false, .bool false, .bool false, i6 0, .slice none 0 0]) (ty := 27) rfl (by kernel_rfl) (by kernel_rfl)) (by kernel_rfl)) ?_))
    exact ⟨((⟨0, false, false, false, 0, []⟩ : Frame), 14), none, 0, Z, rfl, hV, (SlR.nil _ _), e4.kp⟩
   refine k_ (sqH ?_); intro h0 e5
   refine bt aF aa 3 [2, 1] [] [(18, .map (some l)), (20, str f.Name)] ?_; intro kN b4
   refine mdl b4 aa 3 (m := h) f.Name (t := 63) (kt := 9) (et := 37) (nog rfl _) rfl rfl (by kernel_rfl) (by kernel_rfl) rfl (MKey.str (by kernel_rfl)) (by kernel_rfl) ?_; intro h1 e6
   have bk : Mem w.heap.size [] w Z [.row N (e37Md ((mget h f.Name).getD ((⟨[], 0, 0⟩ : Reading) : Reading))) 37, .row G (e46Md f) 46, .row o [.map (some l)] 63, .map (fun x : List UInt8 => str x) (fun x : Reading => .agg (e37Md x).toArray) l (mdel h f.Name), .row j [i6 u0.ID, .bool u0.Long, .bool false, .bool false, i6 0, .slice (sm i) (List.replicate u0.Size.toNat (0 : Int)).length u0.Size.toNat] 27, .own t8 5 (sm i) u0.Size.toNat (List.replicate u0.Size.toNat (0 : Int)), .row n [i6 0, .bool false, .bool false, .bool false, i6 0, .slice none 0 0] 27, .row p (e24Md u0 ao1 cap2) 24] Z h1 := e6
   apply e5
   refine sqH ?_; intro h2 e7
   refine bt b4 bk 5 [1, 0, 0] [] [(22, .agg (e46Md f).toArray), (24, i6 ((mget h f.Name).getD ((⟨[], 0, 0⟩ : Reading) : Reading)).Num), (26, i6 ((mget h f.Name).getD ((⟨[], 0, 0⟩ : Reading) : Reading)).Den)] ?_; intro kO e8
   refine fc e8 bk (sraw_fun f ((mget h f.Name).getD ((⟨[], 0, 0⟩ : Reading) : Reading)).Num ((mget h f.Name).getD ((⟨[], 0, 0⟩ : Reading) : Reading)).Den _ _ bk.fz) ?_; intro kP kQ e9 R
   refine bt e9 R 5 [] [] [(7, i6 (rawS f ((mget h f.Name).getD ((⟨[], 0, 0⟩ : Reading) : Reading)).Num ((mget h f.Name).getD ((⟨[], 0, 0⟩ : Reading) : Reading)).Den).1), (8, i6 (rawS f ((mget h f.Name).getD ((⟨[], 0, 0⟩ : Reading) : Reading)).Num ((mget h f.Name).getD ((⟨[], 0, 0⟩ : Reading) : Reading)).Den).2)] ?_; intro kR fa
   apply e7
   refine s_ (sqB fa R [] [] [(31, .bool ((rawS f ((mget h f.Name).getD ((⟨[], 0, 0⟩ : Reading) : Reading)).Num ((mget h f.Name).getD ((⟨[], 0, 0⟩ : Reading) : Reading)).Den).2 == 0))] ?_); intro fb fd
   have fe : Fr 38 [] [⟨2, [], pt j 0⟩, ⟨3, [], pt G 0⟩, ⟨7, [], i6 (rawS f ((mget h f.Name).getD ((⟨[], 0, 0⟩ : Reading) : Reading)).Num ((mget h f.Name).getD ((⟨[], 0, 0⟩ : Reading) : Reading)).Den).1⟩, ⟨8, [], i6 (rawS f ((mget h f.Name).getD ((⟨[], 0, 0⟩ : Reading) : Reading)).Num ((mget h f.Name).getD ((⟨[], 0, 0⟩ : Reading) : Reading)).Den).2⟩, ⟨31, [], .bool ((rawS f ((mget h f.Name).getD ((⟨[], 0, 0⟩ : Reading) : Reading)).Num ((mget h f.Name).getD ((⟨[], 0, 0⟩ : Reading) : Reading)).Den).2 == 0)⟩] fb := fd.reg
   obtain ⟨h3, bl, h4⟩ := hY
   refine wp_then_k fun KJ693 hKJ694 => ?_
   have ff : ∀ (A : List Int) (ab : Fz), h3 A ∧ Fz.le Z ab → ∀ a1 w1, Fr 38 [] [⟨8, [], i6 (rawS f ((mget h f.Name).getD ((⟨[], 0, 0⟩ : Reading) : Reading)).Num ((mget h f.Name).getD ((⟨[], 0, 0⟩ : Reading) : Reading)).Den).2⟩] a1 → Mem w.heap.size [] w Z [.row N (e37Md ((mget h f.Name).getD ((⟨[], 0, 0⟩ : Reading) : Reading))) 37, .row G (e46Md f) 46, .row o [.map (some l)] 63, .map (fun x : List UInt8 => str x) (fun x : Reading => .agg (e37Md x).toArray) l (mdel h f.Name), .row j [i6 u0.ID, .bool u0.Long, .bool false, .bool false, i6 0, .slice (sm i) A.length u0.Size.toNat] 27, .own t8 5 (sm i) u0.Size.toNat A, .row n [i6 0, .bool false, .bool false, .bool false, i6 0, .slice none 0 0] 27, .row p (e24Md u0 ao1 cap2) 24] ab w1 → KJ693 a1 w1 := by
    rintro A ab ⟨h5, aH⟩ kS h6 fg b5
    refine hKJ694 _ _ ?_
    have bm := h4 A h5
    have h7 := bf.mono aH
    refine sqB fg b5 [] [] [(4, i6 (rawS f ((mget h f.Name).getD ((⟨[], 0, 0⟩ : Reading) : Reading)).Num ((mget h f.Name).getD ((⟨[], 0, 0⟩ : Reading) : Reading)).Den).2)] ?_; intro kW fh
    refine r_ (ra1 fh (i6 (rawS f ((mget h f.Name).getD ((⟨[], 0, 0⟩ : Reading) : Reading)).Num ((mget h f.Name).getD ((⟨[], 0, 0⟩ : Reading) : Reading)).Den).2) ?_)
    refine ⟨_, rfl, ?_⟩; intro kX fi
    refine s1 fi 14 (i6 (rawS f ((mget h f.Name).getD ((⟨[], 0, 0⟩ : Reading) : Reading)).Num ((mget h f.Name).getD ((⟨[], 0, 0⟩ : Reading) : Reading)).Den).2) ?_; intro kY fj
    have aI : Mem w.heap.size [] w Z [.row N (e37Md ((mget h f.Name).getD ((⟨[], 0, 0⟩ : Reading) : Reading))) 37, .row G (e46Md f) 46, .row o [.map (some l)] 63, .map (fun x : List UInt8 => str x) (fun x : Reading => .agg (e37Md x).toArray) l (mdel h f.Name), .row j [i6 u0.ID, .bool u0.Long, .bool false, .bool false, i6 0, .slice (sm i) A.length u0.Size.toNat] 27, .own t8 5 (sm i) u0.Size.toNat A, .row n [i6 0, .bool false, .bool false, .bool false, i6 0, .slice none 0 0] 27, .row p (e24Md u0 ao1 cap2) 24] ab h6 := b5
    apply bg
    refine sqB fj aI [] [] [(66, .bool ((rawS f ((mget h f.Name).getD ((⟨[], 0, 0⟩ : Reading) : Reading)).Num ((mget h f.Name).getD ((⟨[], 0, 0⟩ : Reading) : Reading)).Den).2 != 0))] ?_; intro kZ bn
    refine c_ bn bm (fun _ h8 => ?_) fun _ ib => ?_
    ·
     refine sqH ?_; intro h9 fk
     refine bt bn aI 2 [] [] [(67, .agg #[i6 0, .bool false, .bool false, .bool false, i6 0, .slice none 0 0]), (68, i6 (rawS f ((mget h f.Name).getD ((⟨[], 0, 0⟩ : Reading) : Reading)).Num ((mget h f.Name).getD ((⟨[], 0, 0⟩ : Reading) : Reading)).Den).2)] ?_; intro k0 b7
     refine sx b7 aI 6 [i6 0, .bool false, .bool false, .bool false, i6 0, .slice none 0 0] 0 ?_; intro ia fl
     refine s1 b7 5 (i6 (rawS f ((mget h f.Name).getD ((⟨[], 0, 0⟩ : Reading) : Reading)).Num ((mget h f.Name).getD ((⟨[], 0, 0⟩ : Reading) : Reading)).Den).2) ?_; intro k1 fm
     have fo : Mem w.heap.size [] w Z [.row N (e37Md ((mget h f.Name).getD ((⟨[], 0, 0⟩ : Reading) : Reading))) 37, .row G (e46Md f) 46, .row o [.map (some l)] 63, .map (fun x : List UInt8 => str x) (fun x : Reading => .agg (e37Md x).toArray) l (mdel h f.Name), .row j [i6 u0.ID, .bool u0.Long, .bool false, .bool false, i6 0, .slice (sm i) A.length u0.Size.toNat] 27, .own t8 5 (sm i) u0.Size.toNat A, .row n [i6 0, .bool false, .bool false, .bool false, i6 0, .slice none 0 0] 27, .row p (e24Md u0 ao1 cap2) 24] ab ia := fl
     apply fk
     refine r_ (h_ (rt (fn := Tryz.f12) (v := .tuple #[.agg #[i6 0, .bool false, .bool false, .bool false, i6 0, .slice none 0 0], i6 (rawS f ((mget h f.Name).getD ((⟨[], 0, 0⟩ : Reading) : Reading)).Num ((mget h f.Name).getD ((⟨[], 0, 0⟩ : Reading) : Reading)).Den).2]) fm (re2c fm (fn := Tryz.f12) rfl (ad := ⟨n, 0, none⟩) (by kernel_rfl) (loadVar_run fo 6 (b := n) (k := 6) (vs := [i6 0, .bool false, .bool false, .bool false, i6 0, .slice none 0 0]) (ty := 27) rfl (by kernel_rfl) (by kernel_rfl)) (by kernel_rfl)) ?_))
     exact ⟨((⟨0, false, false, false, 0, []⟩ : Frame), (rawS f ((mget h f.Name).getD ((⟨[], 0, 0⟩ : Reading) : Reading)).Num ((mget h f.Name).getD ((⟨[], 0, 0⟩ : Reading) : Reading)).Den).2), none, 0, ab, rfl, h8, (SlR.nil _ _), fo.kp⟩
    exact l_ (d_ (c7 (mdel h f.Name) A ab ⟨ib, h7⟩ _ _ ((bn.reg).anyβ _ (by kernel_rfl)) (aI.kp)))
   have bo := Fz.le.refl Z
   refine c_ fe bl (fun _ ic => ?_) fun _ im => ?_
   ·
    refine rgH ?_; intro id fp
    refine bt fe R 4 [1, 4] [] [(32, .agg (e46Md f).toArray), (34, .slice (sm i) (List.replicate u0.Size.toNat (0 : Int)).length u0.Size.toNat), (35, i6 (rawS f ((mget h f.Name).getD ((⟨[], 0, 0⟩ : Reading) : Reading)).Num ((mget h f.Name).getD ((⟨[], 0, 0⟩ : Reading) : Reading)).Den).1)] ?_; intro k2 fq
    obtain ⟨ie, fr⟩ := ic
    refine ck fq 37 #[.agg (e46Md f).toArray, .slice (sm i) (List.replicate u0.Size.toNat (0 : Int)).length u0.Size.toNat, i6 (rawS f ((mget h f.Name).getD ((⟨[], 0, 0⟩ : Reading) : Reading)).Num ((mget h f.Name).getD ((⟨[], 0, 0⟩ : Reading) : Reading)).Den).1] ?_
    refine (sputd_fun f (List.replicate u0.Size.toNat (0 : Int)) (rawS f ((mget h f.Name).getD ((⟨[], 0, 0⟩ : Reading) : Reading)).Num ((mget h f.Name).getD ((⟨[], 0, 0⟩ : Reading) : Reading)).Den).1 ie (sm i) u0.Size.toNat _ _ _ _ _ _ (R.perm (pk 5 rfl)) R.fz).mono ?_; rintro _ fs ⟨b9, rfl, am, ig, hm⟩; refine ⟨_, rfl, ?_⟩; intro ih ft; have fu := hm
    replace bo := bo.mono am
    have ii : Fr 38 [] [⟨2, [], pt j 0⟩, ⟨3, [], pt G 0⟩, ⟨7, [], i6 (rawS f ((mget h f.Name).getD ((⟨[], 0, 0⟩ : Reading) : Reading)).Num ((mget h f.Name).getD ((⟨[], 0, 0⟩ : Reading) : Reading)).Den).1⟩, ⟨8, [], i6 (rawS f ((mget h f.Name).getD ((⟨[], 0, 0⟩ : Reading) : Reading)).Num ((mget h f.Name).getD ((⟨[], 0, 0⟩ : Reading) : Reading)).Den).2⟩, ⟨31, [], .bool ((rawS f ((mget h f.Name).getD ((⟨[], 0, 0⟩ : Reading) : Reading)).Num ((mget h f.Name).getD ((⟨[], 0, 0⟩ : Reading) : Reading)).Den).2 == 0)⟩, ⟨32, [], .agg (e46Md f).toArray⟩, ⟨34, [], .slice (sm i) (putS f (List.replicate u0.Size.toNat (0 : Int)) (rawS f ((mget h f.Name).getD ((⟨[], 0, 0⟩ : Reading) : Reading)).Num ((mget h f.Name).getD ((⟨[], 0, 0⟩ : Reading) : Reading)).Den).1).length u0.Size.toNat⟩, ⟨35, [], i6 (rawS f ((mget h f.Name).getD ((⟨[], 0, 0⟩ : Reading) : Reading)).Num ((mget h f.Name).getD ((⟨[], 0, 0⟩ : Reading) : Reading)).Den).1⟩, ⟨36, [], .tuple #[]⟩] ih := by rw [ig]; exact ft.reg
    have ij : (putS f (List.replicate u0.Size.toNat (0 : Int)) (rawS f ((mget h f.Name).getD ((⟨[], 0, 0⟩ : Reading) : Reading)).Num ((mget h f.Name).getD ((⟨[], 0, 0⟩ : Reading) : Reading)).Den).1).length = (List.replicate u0.Size.toNat (0 : Int)).length := by first | assumption | (simp; try omega)
    have fv : Mem w.heap.size [] w Z [.own t8 5 (sm i) u0.Size.toNat (putS f (List.replicate u0.Size.toNat (0 : Int)) (rawS f ((mget h f.Name).getD ((⟨[], 0, 0⟩ : Reading) : Reading)).Num ((mget h f.Name).getD ((⟨[], 0, 0⟩ : Reading) : Reading)).Den).1), .row N (e37Md ((mget h f.Name).getD ((⟨[], 0, 0⟩ : Reading) : Reading))) 37, .row G (e46Md f) 46, .row o [.map (some l)] 63, .map (fun x : List UInt8 => str x) (fun x : Reading => .agg (e37Md x).toArray) l (mdel h f.Name), .row j [i6 u0.ID, .bool u0.Long, .bool false, .bool false, i6 0, .slice (sm i) (putS f (List.replicate u0.Size.toNat (0 : Int)) (rawS f ((mget h f.Name).getD ((⟨[], 0, 0⟩ : Reading) : Reading)).Num ((mget h f.Name).getD ((⟨[], 0, 0⟩ : Reading) : Reading)).Den).1).length u0.Size.toNat] 27, .row n [i6 0, .bool false, .bool false, .bool false, i6 0, .slice none 0 0] 27, .row p (e24Md u0 ao1 cap2) 24] b9 fs := by rw [ij]; exact fu
    have fw : Mem w.heap.size [] w Z [.own t8 5 (sm i) u0.Size.toNat (putS f (List.replicate u0.Size.toNat (0 : Int)) (rawS f ((mget h f.Name).getD ((⟨[], 0, 0⟩ : Reading) : Reading)).Num ((mget h f.Name).getD ((⟨[], 0, 0⟩ : Reading) : Reading)).Den).1), .row N (e37Md ((mget h f.Name).getD ((⟨[], 0, 0⟩ : Reading) : Reading))) 37, .row G (e46Md f) 46, .row o [.map (some l)] 63, .map (fun x : List UInt8 => str x) (fun x : Reading => .agg (e37Md x).toArray) l (mdel h f.Name), .row j [i6 u0.ID, .bool u0.Long, .bool false, .bool false, i6 0, .slice (sm i) (putS f (List.replicate u0.Size.toNat (0 : Int)) (rawS f ((mget h f.Name).getD ((⟨[], 0, 0⟩ : Reading) : Reading)).Num ((mget h f.Name).getD ((⟨[], 0, 0⟩ : Reading) : Reading)).Den).1).length u0.Size.toNat] 27, .row n [i6 0, .bool false, .bool false, .bool false, i6 0, .slice none 0 0] 27, .row p (e24Md u0 ao1 cap2) 24] b9 fs := fv
    have ik := fr (fw.ownSmall 0 rfl)
    apply fp
    apply d_
    have il := fw.perm ((pk 1 rfl).trans (((pk 1 rfl).trans (((pk 1 rfl).trans (((pk 1 rfl).trans (((pk 1 rfl).trans (lpr.cons _)).cons _)).cons _)).cons _)).cons _))
    exact ff (putS f (List.replicate u0.Size.toNat (0 : Int)) (rawS f ((mget h f.Name).getD ((⟨[], 0, 0⟩ : Reading) : Reading)).Num ((mget h f.Name).getD ((⟨[], 0, 0⟩ : Reading) : Reading)).Den).1) b9 ⟨ik, bo⟩ _ _ ((ii.reg).anyβ _ (by kernel_rfl)) (il.kp)
   exact l_ (d_ (ff (List.replicate u0.Size.toNat (0 : Int)) Z ⟨im, bo⟩ _ _ ((fe.reg).anyβ _ (by kernel_rfl)) (R.kp)))
  exact l_ (d_ (c7 h (List.replicate u0.Size.toNat (0 : Int)) Z ⟨io, bf⟩ _ _ ((c6.reg).anyβ _ (by kernel_rfl)) (O.kp)))
 apply b_
 have fx : Fr 102 [] [⟨2, [], pt p 0⟩, ⟨4, [], pt n 0⟩, ⟨7, [], pt j 0⟩, ⟨8, [], pt o 0⟩, ⟨33, [], .slice ao4 u1.length cap5⟩, ⟨34, [], i6 (u1.length : Int)⟩, ⟨35, [], i6 0⟩] aP := c1.reg
 obtain ⟨ip, iq, ir, it⟩ := gp
 refine lp (ι := Int × (List (List UInt8 × Reading))) (fun s => [⟨2, [], pt p 0⟩, ⟨4, [], pt n 0⟩, ⟨7, [], pt j 0⟩, ⟨8, [], pt o 0⟩, ⟨33, [], .slice ao4 u1.length cap5⟩, ⟨34, [], i6 (u1.length : Int)⟩, ⟨35, [], i6 s.1⟩]) (fun s => [.row o [.map (some l)] 63, .map (fun x : List UInt8 => str x) (fun x : Reading => .agg (e37Md x).toArray) l s.2, .row j [i6 u0.ID, .bool u0.Long, .bool false, .bool false, i6 0, .slice (sm i) (List.replicate u0.Size.toNat (0 : Int)).length u0.Size.toNat] 27, .own t8 5 (sm i) u0.Size.toNat (List.replicate u0.Size.toNat (0 : Int)), .row n [i6 0, .bool false, .bool false, .bool false, i6 0, .slice none 0 0] 27, .row p (e24Md u0 ao1 cap2) 24]) (fun s => Z) (fun s => ip s.1 s.2) (fun s => iq s.1 s.2) ⟨0, ([] : List (List UInt8 × Reading))⟩ ir (by exact fx.reg) (by exact aO) ?_
 rintro ⟨ac, y⟩ iu iv iw fA fB
 have bp := it ac y iu
 refine sqB fA fB [] [] [(36, .bool (decide (ac < (u1.length : Int))))] ?_; intro k3 bq
 refine s_ (c_ bq bp (fun _ iy => ?_) fun _ iO => ?_)
 ·
  refine k_ (s_ (b_ (sqH ?_))); intro iz fD
  obtain ⟨iA, fE⟩ := iy
  refine ix_ bq hs6 ac iA .i64 37 32 ?_; intro k4 k5 iB q k6 iC iD iE fF
  have br := fE q iC
  obtain rfl : iB = ((e37Md q) : List Value) := iE
  refine z2 fF fB 38 iD 0 3 (e37Md q) rfl ?_; intro k7 fG
  refine nw fG fB pb [str [], i6 0, i6 0] 37 ?_; intro bs k8 k9 cb fH
  refine sx cb fH 0 (e37Md q) 0 ?_; intro iF fI
  have aK : Mem w.heap.size [] w Z [.row bs (e37Md q) 37, .row o [.map (some l)] 63, .map (fun x : List UInt8 => str x) (fun x : Reading => .agg (e37Md x).toArray) l y, .row j [i6 u0.ID, .bool u0.Long, .bool false, .bool false, i6 0, .slice (sm i) (List.replicate u0.Size.toNat (0 : Int)).length u0.Size.toNat] 27, .own t8 5 (sm i) u0.Size.toNat (List.replicate u0.Size.toNat (0 : Int)), .row n [i6 0, .bool false, .bool false, .bool false, i6 0, .slice none 0 0] 27, .row p (e24Md u0 ao1 cap2) 24] Z iF := fI
  apply fD
  refine s_ (sqH ?_); intro iG fJ
  refine bt cb aK 3 [1, 0] [] [(40, .map (some l)), (42, str q.Name)] ?_; intro la fK
  refine lkO fK aK 2 (m := y) q.Name ((⟨[], 0, 0⟩ : Reading) : Reading) (t := 63) (kt := 9) (et := 37) (nog rfl _) rfl (by kernel_rfl) rfl (by kernel_rfl) (by kernel_rfl) rfl (MKey.str (by kernel_rfl)) (by kernel_rfl) (by kernel_rfl) ?_; intro lb fL
  refine bt fL aK 3 [] [] [(44, .agg (e37Md ((mget y q.Name).getD ((⟨[], 0, 0⟩ : Reading) : Reading))).toArray), (45, .bool (mget y q.Name).isSome)] ?_; intro lc fM
  refine nw fM aK pb [str [], i6 0, i6 0] 37 ?_; intro cc ld lf ce fP
  refine sx ce fP 0 (e37Md ((mget y q.Name).getD ((⟨[], 0, 0⟩ : Reading) : Reading))) 0 ?_; intro iH fQ
  refine s1 ce 12 (.bool (mget y q.Name).isSome) ?_; intro lg fR
  have an : Mem w.heap.size [] w Z [.row cc (e37Md ((mget y q.Name).getD ((⟨[], 0, 0⟩ : Reading) : Reading))) 37, .row bs (e37Md q) 37, .row o [.map (some l)] 63, .map (fun x : List UInt8 => str x) (fun x : Reading => .agg (e37Md x).toArray) l y, .row j [i6 u0.ID, .bool u0.Long, .bool false, .bool false, i6 0, .slice (sm i) (List.replicate u0.Size.toNat (0 : Int)).length u0.Size.toNat] 27, .own t8 5 (sm i) u0.Size.toNat (List.replicate u0.Size.toNat (0 : Int)), .row n [i6 0, .bool false, .bool false, .bool false, i6 0, .slice none 0 0] 27, .row p (e24Md u0 ao1 cap2) 24] Z iH := fQ
  apply fJ
  refine sqB fR an [] [] [(46, .bool (mget y q.Name).isSome)] ?_; intro lh aL
  refine c_ aL br (fun _ iI => ?_) fun _ fW => ?_
  ·
   refine sqH ?_; intro iJ fS
   refine s1 aL 47 (.agg #[i6 0, .bool false, .bool false, .bool false, i6 0, .slice none 0 0]) ?_; intro li cg
   refine sx cg an 6 [i6 0, .bool false, .bool false, .bool false, i6 0, .slice none 0 0] 0 ?_; intro iK fT
   refine s1 cg 5 (i6 9) ?_; intro lj fU
   have fV : Mem w.heap.size [] w Z [.row cc (e37Md ((mget y q.Name).getD ((⟨[], 0, 0⟩ : Reading) : Reading))) 37, .row bs (e37Md q) 37, .row o [.map (some l)] 63, .map (fun x : List UInt8 => str x) (fun x : Reading => .agg (e37Md x).toArray) l y, .row j [i6 u0.ID, .bool u0.Long, .bool false, .bool false, i6 0, .slice (sm i) (List.replicate u0.Size.toNat (0 : Int)).length u0.Size.toNat] 27, .own t8 5 (sm i) u0.Size.toNat (List.replicate u0.Size.toNat (0 : Int)), .row n [i6 0, .bool false, .bool false, .bool false, i6 0, .slice none 0 0] 27, .row p (e24Md u0 ao1 cap2) 24] Z iK := fT
   apply fS
   refine r_ (h_ (i_ (h_ (h_ (i_ (h_ (rt (fn := Tryz.f12) (v := .tuple #[.agg #[i6 0, .bool false, .bool false, .bool false, i6 0, .slice none 0 0], i6 9]) fU (re2c fU (fn := Tryz.f12) rfl (ad := ⟨n, 0, none⟩) (by kernel_rfl) (loadVar_run fV 6 (b := n) (k := 6) (vs := [i6 0, .bool false, .bool false, .bool false, i6 0, .slice none 0 0]) (ty := 27) rfl (by kernel_rfl) (by kernel_rfl)) (by kernel_rfl)) ?_)))))))
   exact ⟨((⟨0, false, false, false, 0, []⟩ : Frame), 9), none, 0, Z, rfl, iI, (SlR.nil _ _), fV.kp⟩
  refine k_ (rgH ?_); intro iL fX
  refine bt aL an 4 [2, 1, 1] [] [(48, .map (some l)), (50, str q.Name), (51, .agg (e37Md q).toArray)] ?_; intro lk ch
  refine mup ch an 3 (m := y) q.Name q (t := 63) (kt := 9) (et := 37) (nog rfl _) rfl rfl (by kernel_rfl) (by kernel_rfl) (by kernel_rfl) rfl (MKey.str (by kernel_rfl)) (by kernel_rfl) ?_; intro iM fY
  have fZ : Mem w.heap.size [] w Z [.row cc (e37Md ((mget y q.Name).getD ((⟨[], 0, 0⟩ : Reading) : Reading))) 37, .row bs (e37Md q) 37, .row o [.map (some l)] 63, .map (fun x : List UInt8 => str x) (fun x : Reading => .agg (e37Md x).toArray) l (mput y q.Name q), .row j [i6 u0.ID, .bool u0.Long, .bool false, .bool false, i6 0, .slice (sm i) (List.replicate u0.Size.toNat (0 : Int)).length u0.Size.toNat] 27, .own t8 5 (sm i) u0.Size.toNat (List.replicate u0.Size.toNat (0 : Int)), .row n [i6 0, .bool false, .bool false, .bool false, i6 0, .slice none 0 0] 27, .row p (e24Md u0 ao1 cap2) 24] Z iM := fY
  apply fX
  refine j_ (t_ (rgB ch fZ [] [] [(35, i6 (w64 (ac + 1)))] ?_)); intro ll iN
  exact d_ ⟨⟨w64 (ac + 1), mput y q.Name q⟩, fW.1, fW.2, (iN.reg).anyβ _ (by kernel_rfl), fZ.kp⟩
 exact x_ (y_ (y_ (z_ (d_ (gr y iO _ _ ((bq.reg).anyβ _ (by kernel_rfl)) (fB.kp))))))
end Go.Proofs.YtdndfbamhnchfaaGreatDoor
set_option linter.unusedVariables false
set_option linter.unusedSimpArgs false
set_option linter.defProp false
set_option maxRecDepth 100000
set_option maxHeartbeats 0
namespace Go.Proofs.YtdndfbamhnchfaaGreatDoor
open Go.Sy Go.RowKit
abbrev e37Me (X : Reading) : List Value := [str X.Name, i6 X.Num, i6 X.Den]
def mread_fun (u0 : Message) (u1 : Frame) (hpre : isBytes u1.Data) (ao1 : Option Addr) (cap2 : Nat) (ao4 : Option Addr) (cap5 : Nat) (Z : Fz) (w : World) (hs3 : SlR tySignal Z ao1 cap2 u0.Signals) (hs6 : SlR t8 Z ao4 cap5 u1.Data) (hZ : Z.on w) := fc_ (mread_walk u0 u1 ao1 cap2 ao4 cap5 Z w hs3 hs6 hZ (mread_ok u0 u1 hpre))
def mwrite_fun (u0 : Message) (u1 : List Reading) (ao1 : Option Addr) (cap2 : Nat) (ao4 : Option Addr) (cap5 : Nat) (Z : Fz) (w : World) (hs3 : SlR tySignal Z ao1 cap2 u0.Signals) (hs6 : SlR tyReading Z ao4 cap5 u1) (hZ : Z.on w) := fc_ (mwrite_walk u0 u1 ao1 cap2 ao4 cap5 Z w hs3 hs6 hZ (mwrite_ok u0 u1))
theorem req_walk (u0 : List Reading) (u1 : List Reading) (ao1 : Option Addr) (cap2 : Nat) (ao4 : Option Addr) (cap5 : Nat) (Z : Fz) (w : World) (hs3 : SlR tyReading Z ao1 cap2 u0) (hs6 : SlR tyReading Z ao4 cap5 u1) (hZ : Z.on w) {K : Bool → Prop} (hp : req_vc u0 u1 K) : Calls Tryz.prog 11 #[.slice ao1 u0.length cap2, .slice ao4 u1.length cap5] w fun e w' => ∃ r : Bool, e = .returned (.bool r) ∧ K r ∧ Below w.heap.size w w' := by
 refine enter0 Tryz.func11 rfl rfl (by kernel_rfl) ?_; intro a0 B; have f := Mem.start w Z hZ
 have n := hp (hs3.small) (hs6.small)
 refine sqB B f [] [] [] ?_; intro aF D
 refine s_ (sqB D f [] [] [(10, .bool ((u0.length : Int) != (u1.length : Int)))] ?_); intro aG i
 refine cd i (t := (u0.length : Int) != (u1.length : Int)) (by kernel_rfl) (fun u => ?_) (fun u => ?_)
 · -- yes
  have Y := n.1 u
  refine sqB i f [] [] [(4, .bool false)] ?_; intro aH aa
  exact r_ (h_ (ra1 aa (.bool false) ⟨false, rfl, Y, f.below⟩))
 · -- no
  have ab := n.2 u
  refine k_ (s_ (sqB i f [] [] [(12, i6 (u0.length : Int)), (13, i6 0)] ?_)); intro E F
  apply b_
  have G : Fr 26 [] [⟨0, [], .slice ao1 u0.length cap2⟩, ⟨1, [], .slice ao4 u1.length cap5⟩, ⟨12, [], i6 (u0.length : Int)⟩, ⟨13, [], i6 0⟩] E := F.reg
  obtain ⟨ac, ad, ae, af⟩ := ab
  refine lp (ι := Int) (fun s => [⟨0, [], .slice ao1 u0.length cap2⟩, ⟨1, [], .slice ao4 u1.length cap5⟩, ⟨12, [], i6 (u0.length : Int)⟩, ⟨13, [], i6 s⟩]) (fun s => []) (fun s => Z) (fun s => ac s) (fun s => ad s) 0 ae (by exact G.region (by kernel_rfl) (by kernel_rfl)) (by exact f) ?_
  rintro d ag ah ai I J
  have o := af d ag
  refine sqB I J [] [] [(14, .bool (decide (d < (u0.length : Int))))] ?_; intro aI j
  apply s_
  refine cd j (t := decide (d < (u0.length : Int))) (by kernel_rfl) (fun v => ?_) (fun v => ?_)
  · -- yes
   have aj := o.1 v
   refine k_ (s_ (b_ (sqB j J [] [] [(5, i6 d)] ?_))); intro ak M
   have N : Fr 26 [] [⟨0, [], .slice ao1 u0.length cap2⟩, ⟨1, [], .slice ao4 u1.length cap5⟩, ⟨5, [], i6 d⟩, ⟨12, [], i6 (u0.length : Int)⟩, ⟨13, [], i6 d⟩] ak := M.reg
   refine sqQH mixed (by kernel_rfl) J ?_; intro al O
   refine q1 N 16 (.slice ao1 u0.length cap2) ?_; intro aJ P
   refine q1 P 17 (i6 d) ?_; intro aK Q
   obtain ⟨am, R⟩ := aj
   refine qx_ Q hs3 d am .i64 37 32 ?_; intro aL aM an a aN ao ap aq x
   have ar := R a ao
   obtain rfl : an = ((e37Me a) : List Value) := aq
   refine qu_ x (.agg (e37Me a).toArray) (fun v81 hC => lza x hC.fz ap 0 (g := []) (m := 3) (vs := (e37Me a)) rfl (by kernel_rfl) (by kernel_rfl) (by kernel_rfl) (by kernel_rfl) rfl) ?_; intro aO S
   refine q1 S 20 (.slice ao4 u1.length cap5) ?_; intro aP U
   refine q1 U 21 (i6 d) ?_; intro aQ V
   obtain ⟨au, W⟩ := ar
   refine qx_ V hs6 d au .i64 37 32 ?_; intro aR aS av c aT aw ax ay y
   have p := W c aw
   obtain rfl : av = ((e37Me c) : List Value) := ay
   refine qu_ y (.agg (e37Me c).toArray) (fun v103 hC => lza y hC.fz ax 0 (g := []) (m := 3) (vs := (e37Me c)) rfl (by kernel_rfl) (by kernel_rfl) (by kernel_rfl) (by kernel_rfl) rfl) ?_; intro aU z
   refine qu_ z (.bool (!((a.Name == c.Name) && ((a.Num == c.Num) && ((a.Den == c.Den) && true))))) (fun v106 hC => nes_run z (g := []) (xs := (e37Me a).toArray) (ys := (e37Me c).toArray) (b := (a.Name == c.Name) && ((a.Num == c.Num) && ((a.Den == c.Den) && true))) rfl (by kernel_rfl) (by kernel_rfl) (by kernel_rfl) (by kernel_rfl) rfl) ?_; intro aV l
   refine qnl (O _ ?_); intro aW q
   refine cd l (t := !((a.Name == c.Name) && ((a.Num == c.Num) && ((a.Den == c.Den) && true)))) (by kernel_rfl) (fun A => ?_) (fun A => ?_)
   · -- yes
    have az := p.1 A
    refine sqB l q [] [] [(4, .bool false)] ?_; intro aX aA
    exact r_ (i_ (h_ (h_ (i_ (h_ (ra1 aA (.bool false) ⟨false, rfl, az, q.below⟩))))))
   · -- no
    have X := p.2 A
    refine l_ (j_ (t_ (rgB l q [] [] [(13, i6 (w64 (d + 1)))] ?_))); intro aY aB
    exact d_ ⟨w64 (d + 1), X.1, X.2, (aB.region (by kernel_rfl) (by kernel_rfl)).anyβ _ (by kernel_rfl), q.kp⟩
  · -- no
   have aC := o.2 v
   refine x_ (y_ (y_ (z_ (t_ (sqB j J [] [] [(4, .bool true)] ?_))))); intro aZ aD
   exact r_ (ra1 aD (.bool true) ⟨true, rfl, aC, J.below⟩)
theorem eng1_walk (u0 : List UInt8) (u1 : Int) (u2 : Int)  (Z : Fz) (w : World)  (hZ : Z.on w) {K : Signal → Prop} (hp : eng1_vc u0 u1 u2 K) : Calls Tryz.prog 68 #[str u0, i6 u1, i6 u2] w fun e w' => ∃ r : Signal, e = .returned (.agg #[str r.Name, i6 r.Start, i6 r.Size, .bool r.Back, .bool r.Signed, i6 r.Mul, i6 r.Div, i6 r.Add, i6 r.Key]) ∧ K r ∧ Below w.heap.size w w' := by
 refine enter0 Tryz.func68 rfl rfl (by kernel_rfl) ?_; intro q f; have g := Mem.start w Z hZ
 refine sqH ?_; intro n h
 refine nw f g pb [str [], i6 0, i6 0, .bool false, .bool false, i6 0, i6 0, i6 0, i6 0] 46 ?_; intro a t u i c
 apply h
 refine sqH ?_; intro o j
 refine bt i c 4 [] [] [(10, .agg #[str u0, i6 u1, i6 8, .bool false, .bool false, i6 1, i6 1, i6 0, i6 u2])] ?_; intro x d
 refine sx d c 0 [str u0, i6 u1, i6 8, .bool false, .bool false, i6 1, i6 1, i6 0, i6 u2] 0 ?_; intro p l
 have m : Mem w.heap.size [] w Z [.row a [str u0, i6 u1, i6 8, .bool false, .bool false, i6 1, i6 1, i6 0, i6 u2] 46] Z p := l
 apply j
 refine r_ (rt (fn := Tryz.f68) (v := .agg #[str u0, i6 u1, i6 8, .bool false, .bool false, i6 1, i6 1, i6 0, i6 u2]) d (re1c d (fn := Tryz.f68) rfl (ad := ⟨a, 0, none⟩) (by kernel_rfl) (loadVar_run m 0 (b := a) (k := 9) (vs := [str u0, i6 u1, i6 8, .bool false, .bool false, i6 1, i6 1, i6 0, i6 u2]) (ty := 46) rfl (by kernel_rfl) (by kernel_rfl)) ) ?_)
 exact ⟨(⟨u0, u1, 8, false, false, 1, 1, 0, u2⟩ : Signal), rfl, hp, m.below⟩
def eng1_fun (u0 : List UInt8) (u1 : Int) (u2 : Int)  (Z : Fz) (w : World)  (hZ : Z.on w) := f_ (eng1_walk u0 u1 u2  Z w  hZ (eng1_ok u0 u1 u2))
theorem engine_walk   (Z : Fz) (w : World)  (hZ : Z.on w) {K : Message → Prop} (hp : engine_vc  K) : Calls Tryz.prog 31 #[] w fun e w' => ∃ (r : Message) (ao1001 : Option Addr) (cap1002 : Nat) (Z' : Fz), e = .returned (.agg #[i6 r.ID, .bool r.Long, str r.Name, i6 r.Size, i6 r.Chooser, .slice ao1001 r.Signals.length cap1002]) ∧ K r ∧ SlR tySignal Z' ao1001 cap1002 r.Signals ∧ Mem w.heap.size [] w Z [] Z' w' := by
 refine enter0 Tryz.func31 rfl rfl (by kernel_rfl) ?_; intro P j; have l := Mem.start w Z hZ
 refine sqH ?_; intro J n
 refine nw j l pb [i6 0, .bool false, str [], i6 0, i6 0, .slice none 0 0] 24 ?_; intro c Q R o d
 apply n
 refine sqB o d [] [] [(1, .func (.func 68) #[] #[])] ?_; intro S p
 refine sqH ?_; intro L q
 refine s1 p 2 (.func (.func 68) #[] #[]) ?_; intro U s
 refine fc s d (eng1_fun ([119, 104, 105, 99, 104] : List UInt8) 0 (-1) _ _ d.fz) ?_; intro V W t f
 refine s1 t 4 (.func (.func 68) #[] #[]) ?_; intro X u
 refine fc u f (eng1_fun ([104, 101, 97, 116] : List UInt8) 8 0 _ _ f.fz) ?_; intro Y aa y g
 refine s1 y 6 (.func (.func 68) #[] #[]) ?_; intro ab z
 refine fc z g (eng1_fun ([108, 111, 97, 100] : List UInt8) 8 1 _ _ g.fz) ?_; intro ac ae A B
 refine nw A B (fun b => .slice (sm b) 3 3) [str (eng1 ([119, 104, 105, 99, 104] : List UInt8) 0 (-1)).Name, i6 (eng1 ([119, 104, 105, 99, 104] : List UInt8) 0 (-1)).Start, i6 (eng1 ([119, 104, 105, 99, 104] : List UInt8) 0 (-1)).Size, .bool (eng1 ([119, 104, 105, 99, 104] : List UInt8) 0 (-1)).Back, .bool (eng1 ([119, 104, 105, 99, 104] : List UInt8) 0 (-1)).Signed, i6 (eng1 ([119, 104, 105, 99, 104] : List UInt8) 0 (-1)).Mul, i6 (eng1 ([119, 104, 105, 99, 104] : List UInt8) 0 (-1)).Div, i6 (eng1 ([119, 104, 105, 99, 104] : List UInt8) 0 (-1)).Add, i6 (eng1 ([119, 104, 105, 99, 104] : List UInt8) 0 (-1)).Key, str (eng1 ([104, 101, 97, 116] : List UInt8) 8 0).Name, i6 (eng1 ([104, 101, 97, 116] : List UInt8) 8 0).Start, i6 (eng1 ([104, 101, 97, 116] : List UInt8) 8 0).Size, .bool (eng1 ([104, 101, 97, 116] : List UInt8) 8 0).Back, .bool (eng1 ([104, 101, 97, 116] : List UInt8) 8 0).Signed, i6 (eng1 ([104, 101, 97, 116] : List UInt8) 8 0).Mul, i6 (eng1 ([104, 101, 97, 116] : List UInt8) 8 0).Div, i6 (eng1 ([104, 101, 97, 116] : List UInt8) 8 0).Add, i6 (eng1 ([104, 101, 97, 116] : List UInt8) 8 0).Key, str (eng1 ([108, 111, 97, 100] : List UInt8) 8 1).Name, i6 (eng1 ([108, 111, 97, 100] : List UInt8) 8 1).Start, i6 (eng1 ([108, 111, 97, 100] : List UInt8) 8 1).Size, .bool (eng1 ([108, 111, 97, 100] : List UInt8) 8 1).Back, .bool (eng1 ([108, 111, 97, 100] : List UInt8) 8 1).Signed, i6 (eng1 ([108, 111, 97, 100] : List UInt8) 8 1).Mul, i6 (eng1 ([108, 111, 97, 100] : List UInt8) 8 1).Div, i6 (eng1 ([108, 111, 97, 100] : List UInt8) 8 1).Add, i6 (eng1 ([108, 111, 97, 100] : List UInt8) 8 1).Key] 46 ?_; intro a af ag C D
 refine s1 C 9 (.agg #[i6 100, .bool false, str ([101, 110, 103, 105, 110, 101] : List UInt8), i6 2, i6 0, .slice (sm a) 3 3]) ?_; intro ah h
 refine sx h D 1 [i6 100, .bool false, str ([101, 110, 103, 105, 110, 101] : List UInt8), i6 2, i6 0, .slice (sm a) 3 3] 0 ?_; intro i E
 have F : Mem w.heap.size [] w Z [.row a [str (eng1 ([119, 104, 105, 99, 104] : List UInt8) 0 (-1)).Name, i6 (eng1 ([119, 104, 105, 99, 104] : List UInt8) 0 (-1)).Start, i6 (eng1 ([119, 104, 105, 99, 104] : List UInt8) 0 (-1)).Size, .bool (eng1 ([119, 104, 105, 99, 104] : List UInt8) 0 (-1)).Back, .bool (eng1 ([119, 104, 105, 99, 104] : List UInt8) 0 (-1)).Signed, i6 (eng1 ([119, 104, 105, 99, 104] : List UInt8) 0 (-1)).Mul, i6 (eng1 ([119, 104, 105, 99, 104] : List UInt8) 0 (-1)).Div, i6 (eng1 ([119, 104, 105, 99, 104] : List UInt8) 0 (-1)).Add, i6 (eng1 ([119, 104, 105, 99, 104] : List UInt8) 0 (-1)).Key, str (eng1 ([104, 101, 97, 116] : List UInt8) 8 0).Name, i6 (eng1 ([104, 101, 97, 116] : List UInt8) 8 0).Start, i6 (eng1 ([104, 101, 97, 116] : List UInt8) 8 0).Size, .bool (eng1 ([104, 101, 97, 116] : List UInt8) 8 0).Back, .bool (eng1 ([104, 101, 97, 116] : List UInt8) 8 0).Signed, i6 (eng1 ([104, 101, 97, 116] : List UInt8) 8 0).Mul, i6 (eng1 ([104, 101, 97, 116] : List UInt8) 8 0).Div, i6 (eng1 ([104, 101, 97, 116] : List UInt8) 8 0).Add, i6 (eng1 ([104, 101, 97, 116] : List UInt8) 8 0).Key, str (eng1 ([108, 111, 97, 100] : List UInt8) 8 1).Name, i6 (eng1 ([108, 111, 97, 100] : List UInt8) 8 1).Start, i6 (eng1 ([108, 111, 97, 100] : List UInt8) 8 1).Size, .bool (eng1 ([108, 111, 97, 100] : List UInt8) 8 1).Back, .bool (eng1 ([108, 111, 97, 100] : List UInt8) 8 1).Signed, i6 (eng1 ([108, 111, 97, 100] : List UInt8) 8 1).Mul, i6 (eng1 ([108, 111, 97, 100] : List UInt8) 8 1).Div, i6 (eng1 ([108, 111, 97, 100] : List UInt8) 8 1).Add, i6 (eng1 ([108, 111, 97, 100] : List UInt8) 8 1).Key] 46, .row c [i6 100, .bool false, str ([101, 110, 103, 105, 110, 101] : List UInt8), i6 2, i6 0, .slice (sm a) 3 3] 24] Z i := E
 apply q
 apply r_
 have M : Mem w.heap.size [] w Z [.own tySignal 46 (sm a) 3 ([(eng1 ([119, 104, 105, 99, 104] : List UInt8) 0 (-1)), (eng1 ([104, 101, 97, 116] : List UInt8) 8 0), (eng1 ([108, 111, 97, 100] : List UInt8) 8 1)] : List Signal), .row c [i6 100, .bool false, str ([101, 110, 103, 105, 110, 101] : List UInt8), i6 2, i6 0, .slice (sm a) 3 3] 24] Z i := F.rowOwn (T := tySignal) (xs := ([(eng1 ([119, 104, 105, 99, 104] : List UInt8) 0 (-1)), (eng1 ([104, 101, 97, 116] : List UInt8) 8 0), (eng1 ([108, 111, 97, 100] : List UInt8) 8 1)] : List Signal)) 0 rfl (by decide) (by show 3 ≤ lim; decide) ((RepAll.one (T := tySignal) (x := (eng1 ([119, 104, 105, 99, 104] : List UInt8) 0 (-1))) rfl).append ((RepAll.one (T := tySignal) (x := (eng1 ([104, 101, 97, 116] : List UInt8) 8 0)) rfl).append (RepAll.one (T := tySignal) (x := (eng1 ([108, 111, 97, 100] : List UInt8) 8 1)) rfl)))
 obtain ⟨G, N, H, O⟩ := M.freeze 0 rfl
 have I : Mem w.heap.size [] w Z [.row c [i6 100, .bool false, str ([101, 110, 103, 105, 110, 101] : List UInt8), i6 2, i6 0, .slice (sm a) 3 3] 24] G i := H
 refine rt (fn := Tryz.f31) (v := .agg #[i6 100, .bool false, str ([101, 110, 103, 105, 110, 101] : List UInt8), i6 2, i6 0, .slice (sm a) ([(eng1 ([119, 104, 105, 99, 104] : List UInt8) 0 (-1)), (eng1 ([104, 101, 97, 116] : List UInt8) 8 0), (eng1 ([108, 111, 97, 100] : List UInt8) 8 1)] : List Signal).length 3]) h (re1c h (fn := Tryz.f31) rfl (ad := ⟨c, 0, none⟩) (by kernel_rfl) (loadVar_run I 0 (b := c) (k := 6) (vs := [i6 100, .bool false, str ([101, 110, 103, 105, 110, 101] : List UInt8), i6 2, i6 0, .slice (sm a) 3 3]) (ty := 24) rfl (by kernel_rfl) (by kernel_rfl)) ) ?_
 exact ⟨(⟨100, false, ([101, 110, 103, 105, 110, 101] : List UInt8), 2, 0, ([(eng1 ([119, 104, 105, 99, 104] : List UInt8) 0 (-1)), (eng1 ([104, 101, 97, 116] : List UInt8) 8 0), (eng1 ([108, 111, 97, 100] : List UInt8) 8 1)] : List Signal)⟩ : Message), (sm a), 3, G, rfl, hp, O, I.kp⟩
def engine_fun   (Z : Fz) (w : World)  (hZ : Z.on w) := fc_ (engine_walk   Z w  hZ (engine_ok ))
end Go.Proofs.YtdndfbamhnchfaaGreatDoor
set_option linter.unusedVariables false
set_option linter.unusedSimpArgs false
set_option linter.defProp false
set_option maxRecDepth 100000
set_option maxHeartbeats 0
namespace Go.Proofs.YtdndfbamhnchfaaGreatDoor
open Go.Sy Go.RowKit
abbrev e27Mf (X : Frame) (A0 : Option Addr) (C0 : Nat) : List Value := [i6 X.ID, .bool X.Long, .bool X.Fast, .bool X.Remote, i6 X.Size, .slice A0 X.Data.length C0]
def req_fun (u0 : List Reading) (u1 : List Reading) (ao1 : Option Addr) (cap2 : Nat) (ao4 : Option Addr) (cap5 : Nat) (Z : Fz) (w : World) (hs3 : SlR tyReading Z ao1 cap2 u0) (hs6 : SlR tyReading Z ao4 cap5 u1) (hZ : Z.on w) := f_ (req_walk u0 u1 ao1 cap2 ao4 cap5 Z w hs3 hs6 hZ (req_ok u0 u1))
theorem meant_walk   (Z : Fz) (w : World)  (hZ : Z.on w) {K : Bool → Prop} (hp : meant_vc  K) : Calls Tryz.prog 9 #[] w fun e w' => ∃ r : Bool, e = .returned (.bool r) ∧ K r ∧ Below w.heap.size w w' := by
 refine enter0 Tryz.func9 rfl rfl (by kernel_rfl) ?_; intro a0 ad; have C := Mem.start w Z hZ
 refine sqB ad C [] [] [] ?_; intro a2 ae
 refine sqH ?_; intro a4 af
 refine ck ae 31 #[] ?_
 refine (engine_fun  _ _ C.fz).mono ?_; rintro _ a5 ⟨ag, ah, ai, rfl, f, hm⟩; refine ⟨_, rfl, ?_⟩; intro a6 aj; have ak := C.callZ hm
 have al : Mem w.heap.size [] w Z [] ai a5 := ak
 have a8 := hp (f.small)
 refine nw aj al (fun b => .slice (sm b) 2 2) [y8 1, y8 7] 5 ?_; intro D bv am an ao
 refine s1 an 8 (.agg #[i6 100, .bool false, .bool false, .bool false, i6 0, .slice (sm D) 2 2]) ?_; intro bw ap
 have a9 : Mem w.heap.size [] w Z [.own t8 5 (sm D) 2 ([1, 7] : List Int)] ai am := ao.rowOwn (T := t8) (xs := ([1, 7] : List Int)) 0 rfl (by decide) (by show 2 ≤ lim; decide) ((RepAll.one (T := t8) (x := 1) rfl).append (RepAll.one (T := t8) (x := 7) rfl))
 obtain ⟨ba, aq, ar, g⟩ := a9.freeze 0 rfl
 replace f := f.mono aq
 have J : Mem w.heap.size [] w Z [] ba am := ar
 obtain ⟨bb, au⟩ := a8
 refine ck ap 6 #[.agg #[i6 engine.ID, .bool engine.Long, str engine.Name, i6 engine.Size, i6 engine.Chooser, .slice ag engine.Signals.length ah], .agg #[i6 100, .bool false, .bool false, .bool false, i6 0, .slice (sm D) ([1, 7] : List Int).length 2]] ?_
 refine (mread_fun engine (⟨100, false, false, false, 0, ([1, 7] : List Int)⟩ : Frame) bb ag ah (sm D) 2 _ _ f g J.fz).mono ?_; rintro _ bc ⟨k, l, bd, rfl, hm⟩; refine ⟨_, rfl, ?_⟩; intro bx av; have aw := J.callZ hm
 have u : Mem w.heap.size [] w Z [.own tyReading 37 k l (readS engine (⟨100, false, false, false, 0, ([1, 7] : List Int)⟩ : Frame)).1] bd bc := aw
 have ax := au (u.ownSmall 0 rfl)
 refine bt av u 5 [] [] [(1, .slice k (readS engine (⟨100, false, false, false, 0, ([1, 7] : List Int)⟩ : Frame)).1.length l), (2, i6 (readS engine (⟨100, false, false, false, 0, ([1, 7] : List Int)⟩ : Frame)).2)] ?_; intro bz ay
 apply af
 refine sqH ?_; intro be az
 refine ck ay 31 #[] ?_
 refine (engine_fun  _ _ u.fz).mono ?_; rintro _ aA ⟨aB, aC, bf, rfl, h, hm⟩; refine ⟨_, rfl, ?_⟩; intro bA aD; have aE := u.callZ hm
 have bg : Mem w.heap.size [] w Z [.own tyReading 37 k l (readS engine (⟨100, false, false, false, 0, ([1, 7] : List Int)⟩ : Frame)).1] bf aA := aE
 have aF := ax (h.small)
 refine s1 aD 14 (.slice k (readS engine (⟨100, false, false, false, 0, ([1, 7] : List Int)⟩ : Frame)).1.length l) ?_; intro bB aG
 obtain ⟨bh, E, aH, m⟩ := bg.freeze 0 rfl
 replace h := h.mono E
 have N : Mem w.heap.size [] w Z [] bh aA := aH
 refine ck aG 12 #[.agg #[i6 engine.ID, .bool engine.Long, str engine.Name, i6 engine.Size, i6 engine.Chooser, .slice aB engine.Signals.length aC], .slice k (readS engine (⟨100, false, false, false, 0, ([1, 7] : List Int)⟩ : Frame)).1.length l] ?_
 refine (mwrite_fun engine (readS engine (⟨100, false, false, false, 0, ([1, 7] : List Int)⟩ : Frame)).1 aB aC k l _ _ h m N.fz).mono ?_; rintro _ bi ⟨i, j, O, rfl, o, hm⟩; refine ⟨_, rfl, ?_⟩; intro bC aI; have aJ := N.callZ hm; have y := hm.ext.le
 replace m := m.mono y
 have P : Mem w.heap.size [] w Z [] O bi := aJ
 have F := aF (o.small)
 refine bt aI P 3 [] [] [(16, .agg (e27Mf ((writeS engine (readS engine (⟨100, false, false, false, 0, ([1, 7] : List Int)⟩ : Frame)).1).1) i j).toArray), (17, i6 (writeS engine (readS engine (⟨100, false, false, false, 0, ([1, 7] : List Int)⟩ : Frame)).1).2)] ?_; intro bD aK
 refine nw aK P pb [i6 0, .bool false, .bool false, .bool false, i6 0, .slice none 0 0] 27 ?_; intro z bE bF Q aL
 refine sx Q aL 0 (e27Mf ((writeS engine (readS engine (⟨100, false, false, false, 0, ([1, 7] : List Int)⟩ : Frame)).1).1) i j) 0 ?_; intro bj aM
 refine s1 Q 4 (i6 (writeS engine (readS engine (⟨100, false, false, false, 0, ([1, 7] : List Int)⟩ : Frame)).1).2) ?_; intro bG aN
 have p : Mem w.heap.size [] w Z [.row z (e27Mf ((writeS engine (readS engine (⟨100, false, false, false, 0, ([1, 7] : List Int)⟩ : Frame)).1).1) i j) 27] O bj := aM
 apply az
 refine sqH ?_; intro R q
 refine bt aN p 7 [] [] [(24, .bool (((readS engine (⟨100, false, false, false, 0, ([1, 7] : List Int)⟩ : Frame)).2 == 0) && ((writeS engine (readS engine (⟨100, false, false, false, 0, ([1, 7] : List Int)⟩ : Frame)).1).2 == 0)))] ?_; intro bH G
 rcases Bool.eq_false_or_eq_true (((readS engine (⟨100, false, false, false, 0, ([1, 7] : List Int)⟩ : Frame)).2 == 0) && ((writeS engine (readS engine (⟨100, false, false, false, 0, ([1, 7] : List Int)⟩ : Frame)).1).2 == 0)) with A | A
 · -- true
  have H := F.1 A
  have aO := G.reval (d := 24) (c := []) (v := .bool (((readS engine (⟨100, false, false, false, 0, ([1, 7] : List Int)⟩ : Frame)).2 == 0) && ((writeS engine (readS engine (⟨100, false, false, false, 0, ([1, 7] : List Int)⟩ : Frame)).1).2 == 0))) (by kernel_rfl) (.bool true) (by rw [A])
  refine bt aO p 3 [] [25, 26, 27] [(25, .slice k (readS engine (⟨100, false, false, false, 0, ([1, 7] : List Int)⟩ : Frame)).1.length l), (26, .agg #[str ([119, 104, 105, 99, 104] : List UInt8), i6 1, i6 1]), (27, .agg #[str ([108, 111, 97, 100] : List UInt8), i6 7, i6 1])] ?_; intro bI S
  refine sn S p (fun b => .slice (sm b) 2 2) [str ([119, 104, 105, 99, 104] : List UInt8), i6 1, i6 1, str ([108, 111, 97, 100] : List UInt8), i6 7, i6 1] 37 (wK S true) rfl (by kernel_rfl) (by kernel_rfl) ?_; intro U bJ aP V aQ
  have bk : Mem w.heap.size [] w Z [.own tyReading 37 (sm U) 2 ([(⟨([119, 104, 105, 99, 104] : List UInt8), 1, 1⟩ : Reading), (⟨([108, 111, 97, 100] : List UInt8), 7, 1⟩ : Reading)] : List Reading), .row z (e27Mf ((writeS engine (readS engine (⟨100, false, false, false, 0, ([1, 7] : List Int)⟩ : Frame)).1).1) i j) 27] O aP := aQ.rowOwn (T := tyReading) (xs := ([(⟨([119, 104, 105, 99, 104] : List UInt8), 1, 1⟩ : Reading), (⟨([108, 111, 97, 100] : List UInt8), 7, 1⟩ : Reading)] : List Reading)) 0 rfl (by decide) (by show 2 ≤ lim; decide) ((RepAll.one (T := tyReading) (x := (⟨([119, 104, 105, 99, 104] : List UInt8), 1, 1⟩ : Reading)) rfl).append (RepAll.one (T := tyReading) (x := (⟨([108, 111, 97, 100] : List UInt8), 7, 1⟩ : Reading)) rfl))
  obtain ⟨aR, s, aS, W⟩ := bk.freeze 0 rfl
  replace m := m.mono s
  replace o := o.mono s
  have X : Mem w.heap.size [] w Z [.row z (e27Mf ((writeS engine (readS engine (⟨100, false, false, false, 0, ([1, 7] : List Int)⟩ : Frame)).1).1) i j) 27] aR aP := aS
  refine fcl V X (.bool (reqS (readS engine (⟨100, false, false, false, 0, ([1, 7] : List Int)⟩ : Frame)).1 ([(⟨([119, 104, 105, 99, 104] : List UInt8), 1, 1⟩ : Reading), (⟨([108, 111, 97, 100] : List UInt8), 7, 1⟩ : Reading)] : List Reading))) 11 #[.slice k (readS engine (⟨100, false, false, false, 0, ([1, 7] : List Int)⟩ : Frame)).1.length l, .slice (sm U) ([(⟨([119, 104, 105, 99, 104] : List UInt8), 1, 1⟩ : Reading), (⟨([108, 111, 97, 100] : List UInt8), 7, 1⟩ : Reading)] : List Reading).length 2] (wK V true) rfl (by kernel_rfl) (fun _ => by kernel_rfl) (req_fun (readS engine (⟨100, false, false, false, 0, ([1, 7] : List Int)⟩ : Frame)).1 ([(⟨([119, 104, 105, 99, 104] : List UInt8), 1, 1⟩ : Reading), (⟨([108, 111, 97, 100] : List UInt8), 7, 1⟩ : Reading)] : List Reading) k l (sm U) 2 _ _ m W X.fz) ?_; intro bK bL aT t
  refine bt aT t 2 [] [30] [(31, .bool (reqS (readS engine (⟨100, false, false, false, 0, ([1, 7] : List Int)⟩ : Frame)).1 ([(⟨([119, 104, 105, 99, 104] : List UInt8), 1, 1⟩ : Reading), (⟨([108, 111, 97, 100] : List UInt8), 7, 1⟩ : Reading)] : List Reading)))] ?_; intro bM I
  rcases Bool.eq_false_or_eq_true ((reqS (readS engine (⟨100, false, false, false, 0, ([1, 7] : List Int)⟩ : Frame)).1 ([(⟨([119, 104, 105, 99, 104] : List UInt8), 1, 1⟩ : Reading), (⟨([108, 111, 97, 100] : List UInt8), 7, 1⟩ : Reading)] : List Reading))) with B | B
  · -- true
   have bl := H.1 B
   have aU := I.reval (d := 31) (c := []) (v := .bool (reqS (readS engine (⟨100, false, false, false, 0, ([1, 7] : List Int)⟩ : Frame)).1 ([(⟨([119, 104, 105, 99, 104] : List UInt8), 1, 1⟩ : Reading), (⟨([108, 111, 97, 100] : List UInt8), 7, 1⟩ : Reading)] : List Reading))) (by kernel_rfl) (.bool true) (by rw [B])
   refine bt aU t 2 [0] [32, 33] [(33, .slice i (writeS engine (readS engine (⟨100, false, false, false, 0, ([1, 7] : List Int)⟩ : Frame)).1).1.Data.length j)] ?_; intro bN Y
   refine sn Y t (fun b => .slice (sm b) 2 2) [y8 1, y8 7] 5 (wK Y true) rfl (by kernel_rfl) (by kernel_rfl) ?_; intro aa bO aV ab aW
   have bm : Mem w.heap.size [] w Z [.own t8 5 (sm aa) 2 ([1, 7] : List Int), .row z (e27Mf ((writeS engine (readS engine (⟨100, false, false, false, 0, ([1, 7] : List Int)⟩ : Frame)).1).1) i j) 27] aR aV := aW.rowOwn (T := t8) (xs := ([1, 7] : List Int)) 0 rfl (by decide) (by show 2 ≤ lim; decide) ((RepAll.one (T := t8) (x := 1) rfl).append (RepAll.one (T := t8) (x := 7) rfl))
   obtain ⟨bn, n, aX, bo⟩ := bm.freeze 0 rfl
   replace o := o.mono n
   have ac : Mem w.heap.size [] w Z [.row z (e27Mf ((writeS engine (readS engine (⟨100, false, false, false, 0, ([1, 7] : List Int)⟩ : Frame)).1).1) i j) 27] bn aV := aX
   refine fcl ab ac (.bool (beqS (writeS engine (readS engine (⟨100, false, false, false, 0, ([1, 7] : List Int)⟩ : Frame)).1).1.Data ([1, 7] : List Int))) 32 #[.slice i (writeS engine (readS engine (⟨100, false, false, false, 0, ([1, 7] : List Int)⟩ : Frame)).1).1.Data.length j, .slice (sm aa) ([1, 7] : List Int).length 2] (wK ab true) rfl (by kernel_rfl) (fun _ => by kernel_rfl) (beq_fun (writeS engine (readS engine (⟨100, false, false, false, 0, ([1, 7] : List Int)⟩ : Frame)).1).1.Data ([1, 7] : List Int) i j (sm aa) 2 _ _ o bo ac.fz) ?_; intro bP bQ aY aZ
   refine bt aY aZ 2 [] [36] [(0, .bool (beqS (writeS engine (readS engine (⟨100, false, false, false, 0, ([1, 7] : List Int)⟩ : Frame)).1).1.Data ([1, 7] : List Int)))] ?_; intro bR bp
   apply q
   exact r_ (ra1 bp (.bool (beqS (writeS engine (readS engine (⟨100, false, false, false, 0, ([1, 7] : List Int)⟩ : Frame)).1).1.Data ([1, 7] : List Int))) ⟨(beqS (writeS engine (readS engine (⟨100, false, false, false, 0, ([1, 7] : List Int)⟩ : Frame)).1).1.Data ([1, 7] : List Int)), rfl, bl, aZ.below⟩)
  · -- false
   have bq := H.2 B
   have a1 := I.reval (d := 31) (c := []) (v := .bool (reqS (readS engine (⟨100, false, false, false, 0, ([1, 7] : List Int)⟩ : Frame)).1 ([(⟨([119, 104, 105, 99, 104] : List UInt8), 1, 1⟩ : Reading), (⟨([108, 111, 97, 100] : List UInt8), 7, 1⟩ : Reading)] : List Reading))) (by kernel_rfl) (.bool false) (by rw [B])
   refine bt a1 t 6 [] [32, 33, 34, 35, 36] [(0, .bool false)] ?_; intro bS br
   apply q
   exact r_ (ra1 br (.bool false) ⟨false, rfl, bq, t.below⟩)
 · -- false
  have bs := F.2 A
  have a3 := G.reval (d := 24) (c := []) (v := .bool (((readS engine (⟨100, false, false, false, 0, ([1, 7] : List Int)⟩ : Frame)).2 == 0) && ((writeS engine (readS engine (⟨100, false, false, false, 0, ([1, 7] : List Int)⟩ : Frame)).1).2 == 0))) (by kernel_rfl) (.bool false) (by rw [A])
  refine bt a3 p 13 [] [25, 26, 27, 28, 29, 30, 32, 33, 34, 35, 36] [(0, .bool false)] ?_; intro bT bu
  apply q
  exact r_ (ra1 bu (.bool false) ⟨false, rfl, bs, p.below⟩)
end Go.Proofs.YtdndfbamhnchfaaGreatDoor
namespace Go.Proofs
open Go.Shelf
def Tryz.lays160_ren : Go.Shelf.Ren := ⟨fun | 160 => 63 | 232 => 92 | 231 => 91 | 227 => 93 | 234 => 95 | 233 => 94 | 236 => 97 | 235 => 96 | 228 => 109 | 271 => 112 | 151 => 111 | 197 => 110 | 120 => 128 | 152 => 127 | 260 => 126 | 137 => 137 | 119 => 138 | 224 => 139 | 225 => 140 | 217 => 142 | 266 => 143 | n => n, fun | 9 => 9 | 4 => 4 | 3 => 3 | 5 => 5 | 117 => 115 | 116 => 114 | 0 => 0 | 124 => 118 | 21 => 21 | 105 => 127 | 46 => 82 | 119 => 153 | 139 => 156 | 138 => 155 | n => n, fun | 3 => 0 | 4 => 1 | n => n⟩
theorem Tryz.lays160 : Go.Proofs.Lays.n160 Tryz.prog Tryz.lays160_ren := {
  mixed := by kernel_rfl
  f119 := Tryz.func138.trans (congrArg some (by kernel_rfl))
  f120 := Tryz.func128.trans (congrArg some (by kernel_rfl))
  f137 := Tryz.func137.trans (congrArg some (by kernel_rfl))
  f151 := Tryz.func111.trans (congrArg some (by kernel_rfl))
  f152 := Tryz.func127.trans (congrArg some (by kernel_rfl))
  f160 := Tryz.func63.trans (congrArg some (by kernel_rfl))
  f197 := Tryz.func110.trans (congrArg some (by kernel_rfl))
  f217 := Tryz.func142.trans (congrArg some (by kernel_rfl))
  f224 := Tryz.func139.trans (congrArg some (by kernel_rfl))
  f225 := Tryz.func140.trans (congrArg some (by kernel_rfl))
  f227 := Tryz.func93.trans (congrArg some (by kernel_rfl))
  f228 := Tryz.func109.trans (congrArg some (by kernel_rfl))
  f231 := Tryz.func91.trans (congrArg some (by kernel_rfl))
  f232 := Tryz.func92.trans (congrArg some (by kernel_rfl))
  f233 := Tryz.func94.trans (congrArg some (by kernel_rfl))
  f234 := Tryz.func95.trans (congrArg some (by kernel_rfl))
  f235 := Tryz.func96.trans (congrArg some (by kernel_rfl))
  f236 := Tryz.func97.trans (congrArg some (by kernel_rfl))
  f260 := Tryz.func126.trans (congrArg some (by kernel_rfl))
  f266 := Tryz.func143.trans (congrArg some (by kernel_rfl))
  f271 := Tryz.func112.trans (congrArg some (by kernel_rfl))
  t0 := Tryz.underlying0
  a0 := Tryz.isAgg0
  z0 := Tryz.sizeOf0
  v0 := Tryz.zeroValue0
  t3 := Tryz.underlying3
  a3 := Tryz.isAgg3
  z3 := Tryz.sizeOf3
  v3 := Tryz.zeroValue3
  t4 := Tryz.underlying4
  a4 := Tryz.isAgg4
  z4 := Tryz.sizeOf4
  v4 := Tryz.zeroValue4
  t5 := Tryz.underlying5
  a5 := Tryz.isAgg5
  z5 := Tryz.sizeOf5
  v5 := Tryz.zeroValue5
  t9 := Tryz.underlying9
  a9 := Tryz.isAgg9
  z9 := Tryz.sizeOf9
  v9 := Tryz.zeroValue9
  t21 := Tryz.underlying21
  a21 := Tryz.isAgg21
  z21 := Tryz.sizeOf21
  v21 := Tryz.zeroValue21
  t46 := Tryz.underlying82
  a46 := Tryz.isAgg82
  z46 := Tryz.sizeOf82
  v46 := Tryz.zeroValue82
  t105 := Tryz.underlying127
  a105 := Tryz.isAgg127
  z105 := Tryz.sizeOf127
  v105 := Tryz.zeroValue127
  t116 := Tryz.underlying114
  a116 := Tryz.isAgg114
  z116 := Tryz.sizeOf114
  t117 := Tryz.underlying115
  a117 := Tryz.isAgg115
  z117 := Tryz.sizeOf115
  v117 := Tryz.zeroValue115
  t119 := Tryz.underlying153
  a119 := Tryz.isAgg153
  z119 := Tryz.sizeOf153
  t124 := Tryz.underlying118
  a124 := Tryz.isAgg118
  z124 := Tryz.sizeOf118
  v124 := Tryz.zeroValue118
  t138 := Tryz.underlying155
  a138 := Tryz.isAgg155
  z138 := Tryz.sizeOf155
  v138 := Tryz.zeroValue155
  t139 := Tryz.underlying156
  a139 := Tryz.isAgg156
  z139 := Tryz.sizeOf156
  v139 := Tryz.zeroValue156
  g3 := by kernel_rfl
  g4 := by kernel_rfl }
end Go.Proofs
set_option linter.unusedVariables false
set_option linter.unusedSimpArgs false
set_option linter.defProp false
set_option maxRecDepth 100000
set_option maxHeartbeats 0
namespace Go.Proofs.YtdndfbamhnchfaaGreatDoor
open Go.Sy Go.RowKit
abbrev e46P (X : Signal) : List Value := [str X.Name, i6 X.Start, i6 X.Size, .bool X.Back, .bool X.Signed, i6 X.Mul, i6 X.Div, i6 X.Add, i6 X.Key]
theorem iidxf_walk (u0 : List Int) (u1 : Int → Bool) (ao1 : Option Addr) (cap2 : Nat) (fid4 : Nat) (caps5 : Array Value) (Z : Fz) (w : World) (hs3 : SlR t6 Z ao1 cap2 u0) (hf6 : ∀ (Z1 : Fz) (w1 : World), Z.le Z1 → Z1.on w1 → ∀ (x0 : Int), Calls Tryz.prog fid4 (#[i6 x0] ++ caps5) w1 fun e w2 => e = .returned (.bool (u1 x0)) ∧ Below w1.heap.size w1 w2) (hg7 : ∀ x w, Sem.run Tryz.prog (callFunc fid4 x) w = .ok (.enter fid4 x) w) (hZ : Z.on w) {K : Int → Prop} (hp : iidxf_vc u0 u1 K) : Calls Tryz.prog 98 #[.slice ao1 u0.length cap2, .func (.func fid4) #[] caps5] w fun e w' => ∃ r : Int, e = .returned (i6 r) ∧ K r ∧ Below w.heap.size w w' := by
 refine enter0 Tryz.func98 rfl rfl (by kernel_rfl) ?_; intro a0 n; have g := Mem.start w Z hZ; have I := Fz.le.refl Z
 have J := hp (hs3.small)
 refine sqB n g [] [] [] ?_; intro ah o
 refine s_ (sqB o g [] [] [(7, i6 (u0.length : Int)), (8, i6 0)] ?_); intro p q
 apply b_
 have u : Fr 19 [] [⟨0, [], .slice ao1 u0.length cap2⟩, ⟨1, [], .func (.func fid4) #[] caps5⟩, ⟨7, [], i6 (u0.length : Int)⟩, ⟨8, [], i6 0⟩] p := q.reg
 obtain ⟨L, M, N, O⟩ := J
 refine lp (ι := Int) (fun s => [⟨0, [], .slice ao1 u0.length cap2⟩, ⟨1, [], .func (.func fid4) #[] caps5⟩, ⟨7, [], i6 (u0.length : Int)⟩, ⟨8, [], i6 s⟩]) (fun s => []) (fun s => Z) (fun s => L s) (fun s => M s) 0 N (by exact u.region (by kernel_rfl) (by kernel_rfl)) (by exact g) ?_
 rintro a P Q R y z
 have h := O a P
 refine sqB y z [] [] [(9, .bool (decide (a < (u0.length : Int))))] ?_; intro ai d
 apply s_
 refine cd d (t := decide (a < (u0.length : Int))) (by kernel_rfl) (fun l => ?_) (fun l => ?_)
 · -- yes
  have S := h.1 l
  refine k_ (s_ (b_ (sqB d z [] [] [(5, i6 a)] ?_))); intro aj B
  refine sqH ?_; intro U C
  refine bt B z 3 [] [] [(11, .func (.func fid4) #[] caps5), (12, .slice ao1 u0.length cap2), (13, i6 a)] ?_; intro ak D
  obtain ⟨V, E⟩ := S
  refine ix_ D hs3 a V .i64 3 8 ?_; intro al am W c an X Y aa F
  have i := E c X
  obtain rfl : W = ([i6 c] : List Value) := aa
  refine z1 F z 15 Y 0 (i6 c) rfl ?_; intro ao G
  have ab := hf6 _ _ I z.fz c
  refine fcl G z (.bool (u1 c)) fid4 (#[i6 c] ++ caps5) (nog rfl _) rfl (by kernel_rfl) ?h1 ?h2 ?_
  case h1 => exact fv_run rfl (by kernel_rfl) (by kernel_rfl) hg7
  case h2 => exact ab
  intro ap aq f j
  apply C
  refine cd f (t := (u1 c)) (by kernel_rfl) (fun m => ?_) (fun m => ?_)
  · -- yes
   have ac := i.1 m
   refine sqB f j [] [] [(4, i6 a)] ?_; intro ar ad
   exact r_ (i_ (h_ (h_ (i_ (h_ (ra1 ad (i6 a) ⟨a, rfl, ac, j.below⟩))))))
  · -- no
   have H := i.2 m
   refine l_ (j_ (t_ (rgB f j [] [] [(8, i6 (w64 (a + 1)))] ?_))); intro au ae
   exact d_ ⟨w64 (a + 1), H.1, H.2, (ae.region (by kernel_rfl) (by kernel_rfl)).anyβ _ (by kernel_rfl), j.kp⟩
 · -- no
  have af := h.2 l
  refine x_ (y_ (y_ (z_ (t_ (sqB d z [] [] [(4, i6 (-1))] ?_))))); intro av ag
  exact r_ (ra1 ag (i6 (-1)) ⟨-1, rfl, af, z.below⟩)
theorem icontf_walk (u0 : List Int) (u1 : Int → Bool) (ao1 : Option Addr) (cap2 : Nat) (fid4 : Nat) (caps5 : Array Value) (Z : Fz) (w : World) (hs3 : SlR t6 Z ao1 cap2 u0) (hf6 : ∀ (Z1 : Fz) (w1 : World), Z.le Z1 → Z1.on w1 → ∀ (x0 : Int), Calls Tryz.prog fid4 (#[i6 x0] ++ caps5) w1 fun e w2 => e = .returned (.bool (u1 x0)) ∧ Below w1.heap.size w1 w2) (hg7 : ∀ x w, Sem.run Tryz.prog (callFunc fid4 x) w = .ok (.enter fid4 x) w) (hZ : Z.on w) {K : Bool → Prop} (hp : icontf_vc u0 u1 K) : Calls Tryz.prog 65 #[.slice ao1 u0.length cap2, .func (.func fid4) #[] caps5] w fun e w' => ∃ r : Bool, e = .returned (.bool r) ∧ K r ∧ Below w.heap.size w w' := by
 refine enter0 Tryz.func65 rfl rfl (by kernel_rfl) ?_; intro o c; have a := Mem.start w Z hZ; have j := Fz.le.refl Z
 have k := hp (hs3.small)
 refine sqB c a [] [] [] ?_; intro p d
 refine sqH ?_; intro l f
 refine bt d a 2 [] [] [(5, .slice ao1 u0.length cap2), (6, .func (.func fid4) #[] caps5)] ?_; intro q g
 refine ck g 98 #[.slice ao1 u0.length cap2, .func (.func fid4) #[] caps5] ?_
 refine (iidxf_walk u0 u1 ao1 cap2 fid4 caps5 _ _ hs3 (fun Z1 w1 h1 h2 => hf6 Z1 w1 (j.trans h1) h2) hg7 a.fz k).mono ?_; rintro _ s ⟨b, rfl, m, hb⟩; refine ⟨_, rfl, ?_⟩; intro t h; have i := a.call hb
 refine bt h i 2 [] [] [(4, .bool (decide (b ≥ 0)))] ?_; intro u n
 apply f
 exact r_ (ra1 n (.bool (decide (b ≥ 0))) ⟨decide (b ≥ 0), rfl, m, i.below⟩)
theorem rplaces_walk (u0 : Signal)  (Z : Fz) (w : World)  (hZ : Z.on w) {K : (List Int) → Prop} (hp : rplaces_vc u0 K) : Calls Tryz.prog 56 #[.agg #[str u0.Name, i6 u0.Start, i6 u0.Size, .bool u0.Back, .bool u0.Signed, i6 u0.Mul, i6 u0.Div, i6 u0.Add, i6 u0.Key]] w fun e w' => ∃ (r : (List Int)) (ao1001 : Option Addr) (cap1002 : Nat) (Z' : Fz), e = .returned (.slice ao1001 r.length cap1002) ∧ K r ∧ Mem w.heap.size [] w Z [.own t6 3 ao1001 cap1002 r] Z' w' := by
 refine enter0 Tryz.func56 rfl rfl (by kernel_rfl) ?_; intro a0 C; have D := Mem.start w Z hZ
 refine sqH ?_; intro av E
 refine nw C D pb (e46P u0) 46 ?_; intro f a3 bc F x
 refine s1 F 2 (.slice none 0 0) ?_; intro a7 G
 apply E
 refine sqH ?_; intro aw H
 refine bt G x 2 [0] [] [(9, i6 u0.Size)] ?_; intro bd I
 obtain ⟨be, n⟩ := hp
 refine mks I x (T := t6) u0.Size u0.Size (k := .i64) (k' := .i64) (e := 3) (bytes := 8) (zs := [i6 0]) (z := 0) (by simp only [lim]; omega) (nog rfl _) rfl (by kernel_rfl) rfl (by kernel_rfl) (by kernel_rfl) (by kernel_rfl) (by kernel_rfl) rfl ?_; intro b bf ax J L
 have h : Mem w.heap.size [] w Z [.own t6 3 (sm b) u0.Size.toNat (List.replicate u0.Size.toNat (0 : Int)), .row f (e46P u0) 46] Z ax := L
 refine s1 J 3 (.slice (sm b) (List.replicate u0.Size.toNat (0 : Int)).length u0.Size.toNat) ?_; intro bg M
 apply H
 refine s_ (sqB M h [1] [] [(13, .bool (!u0.Back))] ?_); intro bh j
 refine cd j (t := !u0.Back) (by kernel_rfl) (fun y => ?_) (fun y => ?_)
 · -- yes
  have ay := n.1 y
  refine s_ (sqB j h [] [] [(15, i6 ((List.replicate u0.Size.toNat (0 : Int)).length : Int)), (16, i6 0)] ?_); intro N O
  apply b_
  have P : Fr 61 [] [⟨1, [], pt f 0⟩, ⟨3, [], .slice (sm b) (List.replicate u0.Size.toNat (0 : Int)).length u0.Size.toNat⟩, ⟨15, [], i6 ((List.replicate u0.Size.toNat (0 : Int)).length : Int)⟩, ⟨16, [], i6 0⟩] N := O.reg
  obtain ⟨az, aA, aB, aC⟩ := ay
  refine lp (ι := Int × (List Int)) (fun s => [⟨1, [], pt f 0⟩, ⟨3, [], .slice (sm b) s.2.length u0.Size.toNat⟩, ⟨15, [], i6 ((List.replicate u0.Size.toNat (0 : Int)).length : Int)⟩, ⟨16, [], i6 s.1⟩]) (fun s => [.own t6 3 (sm b) u0.Size.toNat s.2, .row f (e46P u0) 46]) (fun s => Z) (fun s => az s.1 s.2) (fun s => aA s.1 s.2) ⟨0, (List.replicate u0.Size.toNat (0 : Int))⟩ aB (by exact P.region (by kernel_rfl) (by kernel_rfl)) (by exact h) ?_
  rintro ⟨c, d⟩ aD aE aF R S
  have o := aC c d aD
  refine sqB R S [] [] [(17, .bool (decide (c < ((List.replicate u0.Size.toNat (0 : Int)).length : Int))))] ?_; intro bi l
  apply s_
  refine cd l (t := decide (c < ((List.replicate u0.Size.toNat (0 : Int)).length : Int))) (by kernel_rfl) (fun A => ?_) (fun A => ?_)
  · -- yes
   have aG := o.1 A
   refine k_ (s_ (b_ (sqB l S [] [] [(4, i6 c)] ?_))); intro bj V
   refine rgH ?_; intro aH W
   refine bt V S 6 [1] [] [(19, .slice (sm b) d.length u0.Size.toNat), (20, i6 c), (24, i6 (w64 (u0.Start + c)))] ?_; intro bk X
   obtain ⟨aI, Y⟩ := aG
   refine ixo X S 0 (T := t6) (xs := d) c aI (k := .i64) (e := 3) (bytes := 8) (nog rfl _) rfl (by kernel_rfl) rfl (by kernel_rfl) (by kernel_rfl) rfl (by kernel_rfl) ?_; intro aJ aK aL p
   obtain rfl : b = aJ := by simpa using aL
   refine so p S 0 (T := t6) (xs := d) c.toNat (w64 (u0.Start + c)) (u := i6 (w64 (u0.Start + c))) (nog rfl _) rfl rfl (by kernel_rfl) rfl (by kernel_rfl) rfl (by kernel_rfl) (by first | omega | (simp only [List.length_set] at *; omega)) rfl ?_; intro aM aa
   have ab : Fr 61 [] [⟨1, [], pt f 0⟩, ⟨3, [], .slice (sm b) (d.set c.toNat (w64 (u0.Start + c))).length u0.Size.toNat⟩, ⟨4, [], i6 c⟩, ⟨15, [], i6 ((List.replicate u0.Size.toNat (0 : Int)).length : Int)⟩, ⟨16, [], i6 c⟩, ⟨17, [], .bool (decide (c < ((List.replicate u0.Size.toNat (0 : Int)).length : Int)))⟩, ⟨19, [], .slice (sm b) (d.set c.toNat (w64 (u0.Start + c))).length u0.Size.toNat⟩, ⟨20, [], i6 c⟩, ⟨24, [], i6 (w64 (u0.Start + c))⟩, ⟨25, [], .pointer (some ⟨b, c.toNat * 1, none⟩)⟩] aK := by (try simp only [List.length_set] at p); (try simp only [List.length_set]); exact p.region (by kernel_rfl) (by kernel_rfl)
   have ac : Mem w.heap.size [] w Z [.own t6 3 (sm b) u0.Size.toNat (d.set c.toNat (w64 (u0.Start + c))), .row f (e46P u0) 46] Z aM := aa
   apply W
   refine j_ (t_ (rgB ab ac [] [] [(16, i6 (w64 (c + 1)))] ?_)); intro bl aN
   exact d_ ⟨⟨w64 (c + 1), d.set c.toNat (w64 (u0.Start + c))⟩, Y.1, Y.2, (aN.region (by kernel_rfl) (by kernel_rfl)).anyβ _ (by kernel_rfl), ac.kp⟩
  · -- no
   have aO := o.2 A
   refine x_ (y_ (y_ (z_ (t_ (sqB l S [] [] [(2, .slice (sm b) d.length u0.Size.toNat)] ?_))))); intro bm aP
   exact r_ (h_ (ra1 aP (.slice (sm b) d.length u0.Size.toNat) ⟨d, (sm b), u0.Size.toNat, Z, rfl, aO, S.kp⟩))
 · -- no
  have aQ := n.2 y
  refine k_ (sqB j h [1, 1] [] [(5, i6 (w64 ((w64 ((w64 ((w64 (u0.Start.tdiv 8)) * 8)) + 7)) - (u0.Start.tmod 8))))] ?_); intro bn ad
  refine s_ (sqB ad h [] [] [(38, i6 ((List.replicate u0.Size.toNat (0 : Int)).length : Int)), (39, i6 0)] ?_); intro ae af
  apply b_
  have ag : Fr 61 [] [⟨1, [], pt f 0⟩, ⟨3, [], .slice (sm b) (List.replicate u0.Size.toNat (0 : Int)).length u0.Size.toNat⟩, ⟨5, [], i6 (w64 ((w64 ((w64 ((w64 (u0.Start.tdiv 8)) * 8)) + 7)) - (u0.Start.tmod 8)))⟩, ⟨38, [], i6 ((List.replicate u0.Size.toNat (0 : Int)).length : Int)⟩, ⟨39, [], i6 0⟩] ae := af.reg
  obtain ⟨aR, aS, aT, aU⟩ := aQ
  refine lp (ι := Int × (List Int)) (fun s => [⟨1, [], pt f 0⟩, ⟨3, [], .slice (sm b) s.2.length u0.Size.toNat⟩, ⟨5, [], i6 (w64 ((w64 ((w64 ((w64 (u0.Start.tdiv 8)) * 8)) + 7)) - (u0.Start.tmod 8)))⟩, ⟨38, [], i6 ((List.replicate u0.Size.toNat (0 : Int)).length : Int)⟩, ⟨39, [], i6 s.1⟩]) (fun s => [.own t6 3 (sm b) u0.Size.toNat s.2, .row f (e46P u0) 46]) (fun s => Z) (fun s => aR s.1 s.2) (fun s => aS s.1 s.2) ⟨0, (List.replicate u0.Size.toNat (0 : Int))⟩ aT (by exact ag.region (by kernel_rfl) (by kernel_rfl)) (by exact h) ?_
  rintro ⟨a, d⟩ aV aW aX ai aj
  have q := aU a d aV
  refine sqB ai aj [] [] [(40, .bool (decide (a < ((List.replicate u0.Size.toNat (0 : Int)).length : Int))))] ?_; intro bo m
  apply s_
  refine cd m (t := decide (a < ((List.replicate u0.Size.toNat (0 : Int)).length : Int))) (by kernel_rfl) (fun B => ?_) (fun B => ?_)
  · -- yes
   have aY := q.1 B
   refine k_ (s_ (b_ (sqB m aj [] [] [(6, i6 a)] ?_))); intro bp al
   refine sqB al aj [1] [] [(7, i6 (w64 ((w64 ((w64 ((w64 ((w64 ((w64 ((w64 (u0.Start.tdiv 8)) * 8)) + 7)) - (u0.Start.tmod 8))) + u0.Size)) - 1)) - a)))] ?_; intro bq am
   refine rgH ?_; intro aZ an
   refine bt am aj 9 [] [] [(49, .slice (sm b) d.length u0.Size.toNat), (50, i6 a), (57, i6 (w64 ((w64 ((w64 ((w64 ((w64 ((w64 ((w64 ((w64 ((w64 ((w64 ((w64 (u0.Start.tdiv 8)) * 8)) + 7)) - (u0.Start.tmod 8))) + u0.Size)) - 1)) - a)).tdiv 8)) * 8)) + 7)) - ((w64 ((w64 ((w64 ((w64 ((w64 ((w64 ((w64 (u0.Start.tdiv 8)) * 8)) + 7)) - (u0.Start.tmod 8))) + u0.Size)) - 1)) - a)).tmod 8))))] ?_; intro br ao
   obtain ⟨a1, ap⟩ := aY
   refine ixo ao aj 0 (T := t6) (xs := d) a a1 (k := .i64) (e := 3) (bytes := 8) (nog rfl _) rfl (by kernel_rfl) rfl (by kernel_rfl) (by kernel_rfl) rfl (by kernel_rfl) ?_; intro a2 a4 a5 v
   obtain rfl : b = a2 := by simpa using a5
   refine so v aj 0 (T := t6) (xs := d) a.toNat (w64 ((w64 ((w64 ((w64 ((w64 ((w64 ((w64 ((w64 ((w64 ((w64 ((w64 (u0.Start.tdiv 8)) * 8)) + 7)) - (u0.Start.tmod 8))) + u0.Size)) - 1)) - a)).tdiv 8)) * 8)) + 7)) - ((w64 ((w64 ((w64 ((w64 ((w64 ((w64 ((w64 (u0.Start.tdiv 8)) * 8)) + 7)) - (u0.Start.tmod 8))) + u0.Size)) - 1)) - a)).tmod 8))) (u := i6 (w64 ((w64 ((w64 ((w64 ((w64 ((w64 ((w64 ((w64 ((w64 ((w64 ((w64 (u0.Start.tdiv 8)) * 8)) + 7)) - (u0.Start.tmod 8))) + u0.Size)) - 1)) - a)).tdiv 8)) * 8)) + 7)) - ((w64 ((w64 ((w64 ((w64 ((w64 ((w64 ((w64 (u0.Start.tdiv 8)) * 8)) + 7)) - (u0.Start.tmod 8))) + u0.Size)) - 1)) - a)).tmod 8)))) (nog rfl _) rfl rfl (by kernel_rfl) rfl (by kernel_rfl) rfl (by kernel_rfl) (by first | omega | (simp only [List.length_set] at *; omega)) rfl ?_; intro a6 aq
   have ar : Fr 61 [] [⟨1, [], pt f 0⟩, ⟨3, [], .slice (sm b) (d.set a.toNat (w64 ((w64 ((w64 ((w64 ((w64 ((w64 ((w64 ((w64 ((w64 ((w64 ((w64 (u0.Start.tdiv 8)) * 8)) + 7)) - (u0.Start.tmod 8))) + u0.Size)) - 1)) - a)).tdiv 8)) * 8)) + 7)) - ((w64 ((w64 ((w64 ((w64 ((w64 ((w64 ((w64 (u0.Start.tdiv 8)) * 8)) + 7)) - (u0.Start.tmod 8))) + u0.Size)) - 1)) - a)).tmod 8)))).length u0.Size.toNat⟩, ⟨5, [], i6 (w64 ((w64 ((w64 ((w64 (u0.Start.tdiv 8)) * 8)) + 7)) - (u0.Start.tmod 8)))⟩, ⟨6, [], i6 a⟩, ⟨7, [], i6 (w64 ((w64 ((w64 ((w64 ((w64 ((w64 ((w64 (u0.Start.tdiv 8)) * 8)) + 7)) - (u0.Start.tmod 8))) + u0.Size)) - 1)) - a))⟩, ⟨38, [], i6 ((List.replicate u0.Size.toNat (0 : Int)).length : Int)⟩, ⟨39, [], i6 a⟩, ⟨40, [], .bool (decide (a < ((List.replicate u0.Size.toNat (0 : Int)).length : Int)))⟩, ⟨49, [], .slice (sm b) (d.set a.toNat (w64 ((w64 ((w64 ((w64 ((w64 ((w64 ((w64 ((w64 ((w64 ((w64 ((w64 (u0.Start.tdiv 8)) * 8)) + 7)) - (u0.Start.tmod 8))) + u0.Size)) - 1)) - a)).tdiv 8)) * 8)) + 7)) - ((w64 ((w64 ((w64 ((w64 ((w64 ((w64 ((w64 (u0.Start.tdiv 8)) * 8)) + 7)) - (u0.Start.tmod 8))) + u0.Size)) - 1)) - a)).tmod 8)))).length u0.Size.toNat⟩, ⟨50, [], i6 a⟩, ⟨57, [], i6 (w64 ((w64 ((w64 ((w64 ((w64 ((w64 ((w64 ((w64 ((w64 ((w64 ((w64 (u0.Start.tdiv 8)) * 8)) + 7)) - (u0.Start.tmod 8))) + u0.Size)) - 1)) - a)).tdiv 8)) * 8)) + 7)) - ((w64 ((w64 ((w64 ((w64 ((w64 ((w64 ((w64 (u0.Start.tdiv 8)) * 8)) + 7)) - (u0.Start.tmod 8))) + u0.Size)) - 1)) - a)).tmod 8)))⟩, ⟨58, [], .pointer (some ⟨b, a.toNat * 1, none⟩)⟩] a4 := by (try simp only [List.length_set] at v); (try simp only [List.length_set]); exact v.region (by kernel_rfl) (by kernel_rfl)
   have au : Mem w.heap.size [] w Z [.own t6 3 (sm b) u0.Size.toNat (d.set a.toNat (w64 ((w64 ((w64 ((w64 ((w64 ((w64 ((w64 ((w64 ((w64 ((w64 ((w64 (u0.Start.tdiv 8)) * 8)) + 7)) - (u0.Start.tmod 8))) + u0.Size)) - 1)) - a)).tdiv 8)) * 8)) + 7)) - ((w64 ((w64 ((w64 ((w64 ((w64 ((w64 ((w64 (u0.Start.tdiv 8)) * 8)) + 7)) - (u0.Start.tmod 8))) + u0.Size)) - 1)) - a)).tmod 8)))), .row f (e46P u0) 46] Z a6 := aq
   apply an
   refine j_ (t_ (rgB ar au [] [] [(39, i6 (w64 (a + 1)))] ?_)); intro bs a8
   exact d_ ⟨⟨w64 (a + 1), d.set a.toNat (w64 ((w64 ((w64 ((w64 ((w64 ((w64 ((w64 ((w64 ((w64 ((w64 ((w64 (u0.Start.tdiv 8)) * 8)) + 7)) - (u0.Start.tmod 8))) + u0.Size)) - 1)) - a)).tdiv 8)) * 8)) + 7)) - ((w64 ((w64 ((w64 ((w64 ((w64 ((w64 ((w64 (u0.Start.tdiv 8)) * 8)) + 7)) - (u0.Start.tmod 8))) + u0.Size)) - 1)) - a)).tmod 8)))⟩, ap.1, ap.2, (a8.region (by kernel_rfl) (by kernel_rfl)).anyβ _ (by kernel_rfl), au.kp⟩
  · -- no
   have a9 := q.2 B
   refine x_ (y_ (y_ (z_ (t_ (sqB m aj [] [] [(2, .slice (sm b) d.length u0.Size.toNat)] ?_))))); intro bu ba
   exact r_ (ra1 ba (.slice (sm b) d.length u0.Size.toNat) ⟨d, (sm b), u0.Size.toNat, Z, rfl, a9, aj.kp⟩)
theorem rin_walk (u0 : Int) (u1 : Int) (u2 : Int)  (Z : Fz) (w : World)  (hZ : Z.on w) {K : Bool → Prop} (hp : rin_vc u0 u1 u2 K) : Calls Tryz.prog 64 #[i6 u0, i6 u1, i6 u2] w fun e w' => ∃ r : Bool, e = .returned (.bool r) ∧ K r ∧ Below w.heap.size w w' := by
 refine enter0 Tryz.func64 rfl rfl (by kernel_rfl) ?_; intro f b; have a := Mem.start w Z hZ
 refine sqB b a [] [] [] ?_; intro h c
 refine sqB c a [] [] [(6, .bool ((decide (u0 ≥ u1)) && (decide (u0 ≤ u2))))] ?_; intro i d
 exact r_ (ra1 d (.bool ((decide (u0 ≥ u1)) && (decide (u0 ≤ u2)))) ⟨(decide (u0 ≥ u1)) && (decide (u0 ≤ u2)), rfl, hp, a.below⟩)
def rin_fun (u0 : Int) (u1 : Int) (u2 : Int)  (Z : Fz) (w : World)  (hZ : Z.on w) := f_ (rin_walk u0 u1 u2  Z w  hZ (rin_ok u0 u1 u2))
theorem trim_fun (u0 : List UInt8) (u1 : List UInt8) (hpre : u0.length ≤ 9223372036854775807 ∧ u1.length < 4294967281 ∧ u1.all (fun b => decide (b.toNat < 128)) = true) (Z : Fz) (w : World) (hZ : Z.on w) : Calls Tryz.prog 63 #[str u0, str u1] w fun e w' => e = .returned (str (trimS u0 u1)) ∧ Below w.heap.size w w' := by
 have h := Any.strings_Trim_laid Tryz.lays160 (by kernel_rfl) ⟨⟨u0⟩⟩ ⟨⟨u1⟩⟩ w (by show u0.length ≤ _; exact hpre.1) (by show u1.length < _; exact hpre.2.1) (ascii_of_all hpre.2.2)
 exact h
end Go.Proofs.YtdndfbamhnchfaaGreatDoor
set_option linter.unusedVariables false
set_option linter.unusedSimpArgs false
set_option linter.defProp false
set_option maxRecDepth 100000
set_option maxHeartbeats 0
namespace Go.Proofs.YtdndfbamhnchfaaGreatDoor
open Go.Sy Go.RowKit
abbrev e46Q (X : Signal) : List Value := [str X.Name, i6 X.Start, i6 X.Size, .bool X.Back, .bool X.Signed, i6 X.Mul, i6 X.Div, i6 X.Add, i6 X.Key]
def rplaces_fun (u0 : Signal) (hpre : (0 ≤ u0.Start ∧ u0.Start ≤ 512) ∧ 1 ≤ u0.Size ∧ u0.Size ≤ 40)  (Z : Fz) (w : World)  (hZ : Z.on w) := fc_ (rplaces_walk u0  Z w  hZ (rplaces_ok u0 hpre))
def icontf_fun (u0 : List Int) (u1 : Int → Bool) (ao1 : Option Addr) (cap2 : Nat) (fid4 : Nat) (caps5 : Array Value) (Z : Fz) (w : World) (hs3 : SlR t6 Z ao1 cap2 u0) (hf6 : ∀ (Z1 : Fz) (w1 : World), Z.le Z1 → Z1.on w1 → ∀ (x0 : Int), Calls Tryz.prog fid4 (#[i6 x0] ++ caps5) w1 fun e w2 => e = .returned (.bool (u1 x0)) ∧ Below w1.heap.size w1 w2) (hg7 : ∀ x w, Sem.run Tryz.prog (callFunc fid4 x) w = .ok (.enter fid4 x) w) (hZ : Z.on w) := f_ (icontf_walk u0 u1 ao1 cap2 fid4 caps5 Z w hs3 hf6 hg7 hZ (icontf_ok u0 u1))
theorem risname_walk (u0 : List UInt8)  (Z : Fz) (w : World)  (hZ : Z.on w) {K : Bool → Prop} (hp : risname_vc u0 K) : Calls Tryz.prog 26 #[str u0] w fun e w' => ∃ r : Bool, e = .returned (.bool r) ∧ K r ∧ Below w.heap.size w w' := by
 refine enter0 Tryz.func26 rfl rfl (by kernel_rfl) ?_; intro a0 C; have a := Mem.start w Z hZ
 refine sqB C a [] [] [] ?_; intro a2 D
 refine s_ (sqH ?_); intro y b
 refine bt D a 8 [] [27] [(10, .bool ((u0 == ([] : List UInt8)) || (decide ((u0.length : Int) > 16))))] ?_; intro ap j
 rcases Bool.eq_false_or_eq_true ((u0 == ([] : List UInt8)) || (decide ((u0.length : Int) > 16))) with g | g
 · -- true
  have T := hp.1 g
  have E := j.reval (d := 10) (c := []) (v := .bool ((u0 == ([] : List UInt8)) || (decide ((u0.length : Int) > 16)))) (by kernel_rfl) (.bool true) (by rw [g])
  refine bt E a 9 [] [11, 12, 13, 14, 15, 16, 17, 18, 19] [(19, .bool true)] ?_; intro aq z
  apply b
  refine cdT z (by kernel_rfl) ?_
  refine sqB z a [] [] [(2, .bool false)] ?_; intro ar U
  exact r_ (h_ (ra1 U (.bool false) ⟨false, rfl, T, a.below⟩))
 · -- false
  have V := hp.2 g
  have l := j.reval (d := 10) (c := []) (v := .bool ((u0 == ([] : List UInt8)) || (decide ((u0.length : Int) > 16)))) (by kernel_rfl) (.bool false) (by rw [g])
  refine g_ l false (str u0) ?_; intro au m
  obtain ⟨W, X⟩ := V
  obtain ⟨f, F⟩ : ∃ q, u0[(0 : Int).toNat]? = some q := ⟨_, List.getElem?_eq_getElem (by omega)⟩; have n := X f F
  refine v_ m (y8 (f.toNat : Int)) (wK m false) (stridx_run m (k := .i64) rfl (by kernel_rfl) (by kernel_rfl) (by kernel_rfl) W.1 F) ?_; intro av G
  refine bt G a 2 [] [13, 14] [(14, .bool (decide ((f.toNat : Int) ≥ 48)))] ?_; intro aw o
  rcases Bool.eq_false_or_eq_true (decide ((f.toNat : Int) ≥ 48)) with h | h
  · -- true
   have Y := n.1 h
   have p := o.reval (d := 14) (c := []) (v := .bool (decide ((f.toNat : Int) ≥ 48))) (by kernel_rfl) (.bool true) (by rw [h])
   refine g_ p true (str u0) ?_; intro ax s
   obtain ⟨aa, ab⟩ := Y
   obtain ⟨u, H⟩ : ∃ q, u0[(0 : Int).toNat]? = some q := ⟨_, List.getElem?_eq_getElem (by omega)⟩; have x := ab u H
   refine v_ s (y8 (u.toNat : Int)) (wK s true) (stridx_run s (k := .i64) rfl (by kernel_rfl) (by kernel_rfl) (by kernel_rfl) aa.1 H) ?_; intro ay I
   refine bt I a 3 [] [17, 18, 19] [(19, .bool (decide ((u.toNat : Int) ≤ 57)))] ?_; intro az i
   apply b
   refine cd i (t := decide ((u.toNat : Int) ≤ 57)) (by kernel_rfl) (fun A => ?_) (fun A => ?_)
   · -- yes
    have ac := x.1 A
    refine sqB i a [] [] [(2, .bool false)] ?_; intro aA ad
    exact r_ (h_ (ra1 ad (.bool false) ⟨false, rfl, ac, a.below⟩))
   · -- no
    have ae := x.2 A
    refine k_ (sqH ?_); intro af J
    refine s1 i 20 (str u0) ?_; intro aB L
    obtain ⟨ag, ah⟩ := ae
    refine fc L a (trim_fun u0 ([97, 98, 99, 100, 101, 102, 103, 104, 105, 106, 107, 108, 109, 110, 111, 112, 113, 114, 115, 116, 117, 118, 119, 120, 121, 122, 65, 66, 67, 68, 69, 70, 71, 72, 73, 74, 75, 76, 77, 78, 79, 80, 81, 82, 83, 84, 85, 86, 87, 88, 89, 90, 48, 49, 50, 51, 52, 53, 54, 55, 56, 57] : List UInt8) ag _ _ a.fz) ?_; intro aC aD M N
    refine bt M N 2 [] [45] [(2, .bool ((trimS u0 ([97, 98, 99, 100, 101, 102, 103, 104, 105, 106, 107, 108, 109, 110, 111, 112, 113, 114, 115, 116, 117, 118, 119, 120, 121, 122, 65, 66, 67, 68, 69, 70, 71, 72, 73, 74, 75, 76, 77, 78, 79, 80, 81, 82, 83, 84, 85, 86, 87, 88, 89, 90, 48, 49, 50, 51, 52, 53, 54, 55, 56, 57] : List UInt8)) == ([] : List UInt8)))] ?_; intro aE ai
    apply J
    exact r_ (ra1 ai (.bool ((trimS u0 ([97, 98, 99, 100, 101, 102, 103, 104, 105, 106, 107, 108, 109, 110, 111, 112, 113, 114, 115, 116, 117, 118, 119, 120, 121, 122, 65, 66, 67, 68, 69, 70, 71, 72, 73, 74, 75, 76, 77, 78, 79, 80, 81, 82, 83, 84, 85, 86, 87, 88, 89, 90, 48, 49, 50, 51, 52, 53, 54, 55, 56, 57] : List UInt8)) == ([] : List UInt8))) ⟨(trimS u0 ([97, 98, 99, 100, 101, 102, 103, 104, 105, 106, 107, 108, 109, 110, 111, 112, 113, 114, 115, 116, 117, 118, 119, 120, 121, 122, 65, 66, 67, 68, 69, 70, 71, 72, 73, 74, 75, 76, 77, 78, 79, 80, 81, 82, 83, 84, 85, 86, 87, 88, 89, 90, 48, 49, 50, 51, 52, 53, 54, 55, 56, 57] : List UInt8)) == ([] : List UInt8), rfl, ah, N.below⟩)
  · -- false
   have aj := n.2 h
   have O := o.reval (d := 14) (c := []) (v := .bool (decide ((f.toNat : Int) ≥ 48))) (by kernel_rfl) (.bool false) (by rw [h])
   refine bt O a 5 [] [15, 16, 17, 18, 19] [(19, .bool false)] ?_; intro aF B
   apply b
   refine cdF B (by kernel_rfl) ?_
   refine k_ (sqH ?_); intro ak P
   refine s1 B 20 (str u0) ?_; intro aG Q
   obtain ⟨al, am⟩ := aj
   refine fc Q a (trim_fun u0 ([97, 98, 99, 100, 101, 102, 103, 104, 105, 106, 107, 108, 109, 110, 111, 112, 113, 114, 115, 116, 117, 118, 119, 120, 121, 122, 65, 66, 67, 68, 69, 70, 71, 72, 73, 74, 75, 76, 77, 78, 79, 80, 81, 82, 83, 84, 85, 86, 87, 88, 89, 90, 48, 49, 50, 51, 52, 53, 54, 55, 56, 57] : List UInt8) al _ _ a.fz) ?_; intro aH aI R S
   refine bt R S 2 [] [45] [(2, .bool ((trimS u0 ([97, 98, 99, 100, 101, 102, 103, 104, 105, 106, 107, 108, 109, 110, 111, 112, 113, 114, 115, 116, 117, 118, 119, 120, 121, 122, 65, 66, 67, 68, 69, 70, 71, 72, 73, 74, 75, 76, 77, 78, 79, 80, 81, 82, 83, 84, 85, 86, 87, 88, 89, 90, 48, 49, 50, 51, 52, 53, 54, 55, 56, 57] : List UInt8)) == ([] : List UInt8)))] ?_; intro aJ an
   apply P
   exact r_ (ra1 an (.bool ((trimS u0 ([97, 98, 99, 100, 101, 102, 103, 104, 105, 106, 107, 108, 109, 110, 111, 112, 113, 114, 115, 116, 117, 118, 119, 120, 121, 122, 65, 66, 67, 68, 69, 70, 71, 72, 73, 74, 75, 76, 77, 78, 79, 80, 81, 82, 83, 84, 85, 86, 87, 88, 89, 90, 48, 49, 50, 51, 52, 53, 54, 55, 56, 57] : List UInt8)) == ([] : List UInt8))) ⟨(trimS u0 ([97, 98, 99, 100, 101, 102, 103, 104, 105, 106, 107, 108, 109, 110, 111, 112, 113, 114, 115, 116, 117, 118, 119, 120, 121, 122, 65, 66, 67, 68, 69, 70, 71, 72, 73, 74, 75, 76, 77, 78, 79, 80, 81, 82, 83, 84, 85, 86, 87, 88, 89, 90, 48, 49, 50, 51, 52, 53, 54, 55, 56, 57] : List UInt8)) == ([] : List UInt8), rfl, am, S.below⟩)
theorem rov1_walk (u0 : Int) (u1 : List Int) (cb4 co5 : Nat) (ao1 : Option Addr) (cap2 : Nat) (Z : Fz) (w : World) (hP6 : PtR Z cb4 co5 [.slice ao1 u1.length cap2]) (hs3 : SlR t6 Z ao1 cap2 u1) (hZ : Z.on w) {K : Bool → Prop} (hp : rov1_vc u0 u1 K) : Calls Tryz.prog 66 #[i6 u0, pt cb4 co5] w fun e w' => ∃ r : Bool, e = .returned (.bool r) ∧ K r ∧ Below w.heap.size w w' := by
 refine enter0 Tryz.func66 rfl rfl (by kernel_rfl) ?_; intro l b; have a := Mem.start w Z hZ
 refine sqB b a [] [] [] ?_; intro n c
 refine sqH ?_; intro i d
 refine z1 c a 4 hP6 0 (.slice ao1 u1.length cap2) rfl ?_; intro o f
 refine s1 f 5 (i6 u0) ?_; intro p g
 refine fc g a (scontains_fun u1 u0 ao1 cap2 _ _ hs3 a.fz) ?_; intro q s h j
 refine s1 h 3 (.bool (scontainsS u1 u0)) ?_; intro t k
 apply d
 exact r_ (ra1 k (.bool (scontainsS u1 u0)) ⟨(scontainsS u1 u0), rfl, hp, j.below⟩)
def rov1_fun (u0 : Int) (u1 : List Int) (cb4 co5 : Nat) (ao1 : Option Addr) (cap2 : Nat) (Z : Fz) (w : World) (hP6 : PtR Z cb4 co5 [.slice ao1 u1.length cap2]) (hs3 : SlR t6 Z ao1 cap2 u1) (hZ : Z.on w) := f_ (rov1_walk u0 u1 cb4 co5 ao1 cap2 Z w hP6 hs3 hZ (rov1_ok u0 u1))
theorem rrawof_walk (u0 : Signal) (u1 : List Int) (ao1 : Option Addr) (cap2 : Nat) (Z : Fz) (w : World) (hs3 : SlR t8 Z ao1 cap2 u1) (hZ : Z.on w) {K : Int → Prop} (hp : rrawof_vc u0 u1 K) : Calls Tryz.prog 34 #[.agg #[str u0.Name, i6 u0.Start, i6 u0.Size, .bool u0.Back, .bool u0.Signed, i6 u0.Mul, i6 u0.Div, i6 u0.Add, i6 u0.Key], .slice ao1 u1.length cap2] w fun e w' => ∃ r : Int, e = .returned (i6 r) ∧ K r ∧ Below w.heap.size w w' := by
 refine enter0 Tryz.func34 rfl rfl (by kernel_rfl) ?_; intro a0 U; have V := Mem.start w Z hZ
 have aZ := hp (hs3.small)
 refine sqH ?_; intro a2 W
 refine nw U V pb (e46Q u0) 46 ?_; intro i a7 bV X n
 refine s1 X 4 (i6 0) ?_; intro bW Y
 apply W
 refine sqB Y n [] [] [(5, i6 0)] ?_; intro bX aa
 refine s_ (sqH ?_); intro a3 ab
 refine l2 aa n 8 0 0 9 (e46Q u0) rfl rfl ?_; intro bY ac
 obtain ⟨a4, ad⟩ := aZ
 refine ck ac 56 #[.agg (e46Q u0).toArray] ?_
 refine (rplaces_fun u0 a4 _ _ n.fz).mono ?_; rintro _ ae ⟨j, l, a5, rfl, hm⟩; refine ⟨_, rfl, ?_⟩; intro bZ af; have ag := n.callZ hm; have ah := hm.ext.le
 replace hs3 := hs3.mono ah
 have I : Mem w.heap.size [] w Z [.own t6 3 j l (placesS u0), .row i (e46Q u0) 46] a5 ae := ag
 have a6 := ad (I.ownSmall 0 rfl)
 refine bt af I 2 [] [] [(10, i6 ((placesS u0).length : Int)), (11, i6 0)] ?_; intro ai aj
 apply ab
 apply b_
 have ak : Fr 47 [] [⟨1, [], .slice ao1 u1.length cap2⟩, ⟨2, [], pt i 0⟩, ⟨5, [], i6 0⟩, ⟨9, [], .slice j (placesS u0).length l⟩, ⟨10, [], i6 ((placesS u0).length : Int)⟩, ⟨11, [], i6 0⟩] ai := aj.reg
 obtain ⟨y, al, am, a8⟩ := I.freeze 0 rfl
 replace hs3 := hs3.mono al
 have an : Mem w.heap.size [] w Z [.row i (e46Q u0) 46] y ae := am
 have ao : Fr 47 [] [⟨1, [], .slice ao1 u1.length cap2⟩, ⟨2, [], pt i 0⟩, ⟨5, [], i6 0⟩, ⟨9, [], .slice j (placesS u0).length l⟩, ⟨10, [], i6 ((placesS u0).length : Int)⟩, ⟨11, [], i6 0⟩] ai := ak.reg
 obtain ⟨a9, ba, bb, bc⟩ := a6
 refine lp (ι := Int × Int) (fun s => [⟨1, [], .slice ao1 u1.length cap2⟩, ⟨2, [], pt i 0⟩, ⟨5, [], i6 s.1⟩, ⟨9, [], .slice j (placesS u0).length l⟩, ⟨10, [], i6 ((placesS u0).length : Int)⟩, ⟨11, [], i6 s.2⟩]) (fun s => [.row i (e46Q u0) 46]) (fun s => y) (fun s => a9 s.1 s.2) (fun s => ba s.1 s.2) ⟨0, 0⟩ bb (by exact ao.region (by kernel_rfl) (by kernel_rfl)) (by exact an) ?_
 rintro ⟨a, b⟩ bd be bf ap aq
 have z := bc a b bd
 refine sqB ap aq [] [] [(12, .bool (decide (b < ((placesS u0).length : Int))))] ?_; intro au o
 apply s_
 refine cd o (t := decide (b < ((placesS u0).length : Int))) (by kernel_rfl) (fun J => ?_) (fun J => ?_)
 · -- yes
  have bg := z.1 J
  apply k_
  have av : Fr 47 [] [⟨1, [], .slice ao1 u1.length cap2⟩, ⟨2, [], pt i 0⟩, ⟨5, [], i6 a⟩, ⟨9, [], .slice j (placesS u0).length l⟩, ⟨10, [], i6 ((placesS u0).length : Int)⟩, ⟨11, [], i6 b⟩] au := o.reg
  obtain ⟨bh, bi, bj⟩ := bg
  refine wp_seq_k fun KJ64 hKJ65 => ?_
  have aw : ∀ (p : Int), bh p → ∀ a1 w1, Fr 47 [] [⟨1, [], .slice ao1 u1.length cap2⟩, ⟨2, [], pt i 0⟩, ⟨5, [], i6 p⟩, ⟨9, [], .slice j (placesS u0).length l⟩, ⟨10, [], i6 ((placesS u0).length : Int)⟩, ⟨11, [], i6 b⟩] a1 → Mem w.heap.size [] w Z [.row i (e46Q u0) 46] y w1 → KJ64 a1 w1 := by
   rintro p bk b0 b1 ax ay
   refine hKJ65 _ _ ?_
   have az := bj p bk
   refine rgB ax ay [] [] [(11, i6 (w64 (b + 1)))] ?_; intro b2 bl
   exact d_ ⟨⟨p, w64 (b + 1)⟩, az.1, az.2, (bl.region (by kernel_rfl) (by kernel_rfl)).anyβ _ (by kernel_rfl), ay.kp⟩
  refine b_ (sqH ?_); intro bm aA
  refine s1 av 13 (i6 b) ?_; intro b3 aB
  obtain ⟨bn, aC⟩ := bi
  refine ix_ aB a8 b bn .i64 3 8 ?_; intro b4 b5 bo h b7 bp bq br aD
  have bs := aC h bp
  obtain rfl : bo = ([i6 h] : List Value) := br
  refine z1 aD aq 15 bq 0 (i6 h) rfl ?_; intro b8 aE
  refine bt aE aq 2 [] [] [(6, i6 b), (7, i6 h)] ?_; intro bu aF
  apply aA
  have aG : Fr 47 [] [⟨1, [], .slice ao1 u1.length cap2⟩, ⟨2, [], pt i 0⟩, ⟨5, [], i6 a⟩, ⟨6, [], i6 b⟩, ⟨7, [], i6 h⟩, ⟨9, [], .slice j (placesS u0).length l⟩, ⟨10, [], i6 ((placesS u0).length : Int)⟩, ⟨11, [], i6 b⟩] bu := aF.reg
  refine sqQH mixed (by kernel_rfl) aq ?_; intro bv aH
  refine q1 aG 16 (.slice ao1 u1.length cap2) ?_; intro b9 aI
  refine q1 aI 17 (i6 h) ?_; intro ca aJ
  refine q1 aJ 18 (i6 (w64 (h.tdiv 8))) ?_; intro cb aK
  obtain ⟨bw, aL⟩ := bs
  refine qx_ aK hs3 (w64 (h.tdiv 8)) bw .i64 5 1 ?_; intro cc ce bx m cf bz bA bB M
  have bC := aL m bz
  obtain rfl : bx = ([y8 m] : List Value) := bB
  refine qz_ M bA 0 (y8 m) rfl ?_; intro cg aM
  refine q1 aM 21 (i6 h) ?_; intro ch aN
  refine q1 aN 22 (i6 (h.tmod 8)) ?_; intro ci N
  obtain ⟨bD, A⟩ := bC
  refine qu_ N (y8 (bShl .u8 1 (h.tmod 8))) (fun v132 hC => shl_run N (g := []) (k' := .i64) rfl (by kernel_rfl) (by kernel_rfl) bD rfl) ?_; intro cj aO
  refine q1 aO 24 (y8 (bAnd .u8 m (bShl .u8 1 (h.tmod 8)))) ?_; intro cl aP
  refine q1 aP 25 (.bool ((bAnd .u8 m (bShl .u8 1 (h.tmod 8))) != 0)) ?_; intro cm B
  refine qnl (aH _ ?_); intro cn C
  refine cd B (t := (bAnd .u8 m (bShl .u8 1 (h.tmod 8))) != 0) (by kernel_rfl) (fun O => ?_) (fun O => ?_)
  · -- yes
   have bE := A.1 O
   refine rgH ?_; intro bF aQ
   refine bt B C 2 [] [] [(26, i6 a), (27, i6 b)] ?_; intro co P
   obtain ⟨bG, bH⟩ := bE
   refine u_ P (i6 (bShl .i64 1 b)) (shl_run P (g := []) (k' := .i64) rfl (by kernel_rfl) (by kernel_rfl) bG rfl) ?_; intro cp aR
   refine bt aR C 2 [] [] [(5, i6 (w64 (a + (bShl .i64 1 b))))] ?_; intro cq bI
   apply aQ
   exact j_ (d_ (aw (w64 (a + (bShl .i64 1 b))) bH _ _ ((bI.region (by kernel_rfl) (by kernel_rfl)).anyβ _ (by kernel_rfl)) (C.kp)))
  · -- no
   have bJ := A.2 O
   exact l_ (j_ (d_ (aw a bJ _ _ ((B.region (by kernel_rfl) (by kernel_rfl)).anyβ _ (by kernel_rfl)) (C.kp))))
 · -- no
  have D := z.2 J
  refine x_ (y_ (y_ (z_ (t_ (s_ (sqH ?_)))))); intro aS E
  refine bt o aq 3 [0] [] [(33, .bool u0.Signed)] ?_; intro cr F
  rcases Bool.eq_false_or_eq_true (u0.Signed) with q | q
  · -- true
   have bK := D.1 q
   have aT := F.reval (d := 33) (c := []) (v := .bool u0.Signed) (by kernel_rfl) (.bool true) (by rw [q])
   refine bt aT aq 4 [0] [34, 35, 36, 37] [(34, i6 a), (37, i6 (w64 (u0.Size - 1)))] ?_; intro cs G
   obtain ⟨bL, H⟩ := bK
   refine v_ G (i6 (bShl .i64 1 (w64 (u0.Size - 1)))) (wK G true) (shl_run G (g := []) (k' := .i64) rfl (by kernel_rfl) (by kernel_rfl) bL rfl) ?_; intro ct aU
   refine bt aU aq 2 [] [39, 40] [(40, .bool (decide (a ≥ (bShl .i64 1 (w64 (u0.Size - 1))))))] ?_; intro cu u
   apply E
   refine cd u (t := decide (a ≥ (bShl .i64 1 (w64 (u0.Size - 1))))) (by kernel_rfl) (fun Q => ?_) (fun Q => ?_)
   · -- yes
    have bM := H.1 Q
    refine rgH ?_; intro bN aV
    refine bt u aq 3 [0] [] [(41, i6 a), (43, i6 u0.Size)] ?_; intro cv R
    obtain ⟨bO, bP⟩ := bM
    refine u_ R (i6 (bShl .i64 1 u0.Size)) (shl_run R (g := []) (k' := .i64) rfl (by kernel_rfl) (by kernel_rfl) bO rfl) ?_; intro cw aW
    refine bt aW aq 2 [] [] [(5, i6 (w64 (a - (bShl .i64 1 u0.Size))))] ?_; intro cx aX
    apply aV
    refine t_ (sqB aX aq [] [] [(4, i6 (w64 (a - (bShl .i64 1 u0.Size))))] ?_); intro cy bQ
    exact r_ (ra1 bQ (i6 (w64 (a - (bShl .i64 1 u0.Size)))) ⟨w64 (a - (bShl .i64 1 u0.Size)), rfl, bP, aq.below⟩)
   · -- no
    have bR := H.2 Q
    refine k_ (sqB u aq [] [] [(4, i6 a)] ?_); intro cz bS
    exact r_ (ra1 bS (i6 a) ⟨a, rfl, bR, aq.below⟩)
  · -- false
   have bT := D.2 q
   have aY := F.reval (d := 33) (c := []) (v := .bool u0.Signed) (by kernel_rfl) (.bool false) (by rw [q])
   refine bt aY aq 7 [] [34, 35, 36, 37, 38, 39, 40] [(40, .bool false)] ?_; intro cA S
   apply E
   refine cdF S (by kernel_rfl) ?_
   refine k_ (sqB S aq [] [] [(4, i6 a)] ?_); intro cB bU
   exact r_ (ra1 bU (i6 a) ⟨a, rfl, bT, aq.below⟩)
theorem rsetraw_walk (u0 : Signal) (u1 : List Int) (u2 : Int) (ao1 : Option Addr) (cap2 : Nat) (Z : Fz) (w : World) (hs3 : SlR t8 Z ao1 cap2 u1) (hZ : Z.on w) {K : (List Int) → Prop} (hp : rsetraw_vc u0 u1 u2 K) : Calls Tryz.prog 19 #[.agg #[str u0.Name, i6 u0.Start, i6 u0.Size, .bool u0.Back, .bool u0.Signed, i6 u0.Mul, i6 u0.Div, i6 u0.Add, i6 u0.Key], .slice ao1 u1.length cap2, i6 u2] w fun e w' => ∃ (r : (List Int)) (ao1001 : Option Addr) (cap1002 : Nat) (Z' : Fz), e = .returned (.slice ao1001 r.length cap1002) ∧ K r ∧ Mem w.heap.size [] w Z [.own t8 5 ao1001 cap1002 r] Z' w' := by
 refine enter0 Tryz.func19 rfl rfl (by kernel_rfl) ?_; intro a0 N; have O := Mem.start w Z hZ
 have a3 := hp (hs3.small)
 refine sqH ?_; intro a4 P
 refine nw N O pb (e46Q u0) 46 ?_; intro n a7 cj Q F
 refine s1 Q 6 (.slice none 0 0) ?_; intro cl R
 apply P
 refine sqH ?_; intro a5 S
 refine s1 R 11 (.slice ao1 u1.length cap2) ?_; intro cm U
 obtain ⟨a6, V⟩ := a3
 refine ck U 55 #[.slice ao1 u1.length cap2] ?_
 refine (bclone_fun u1 a6 ao1 cap2 _ _ hs3 F.fz).mono ?_; rintro _ a8 ⟨h, d, a9, rfl, hm⟩; refine ⟨_, rfl, ?_⟩; intro cn W; have X := F.callZ hm
 have y : Mem w.heap.size [] w Z [.own t8 5 h d (bcloneS u1), .row n (e46Q u0) 46] a9 a8 := X
 have ba := V (y.ownSmall 0 rfl)
 refine s1 W 7 (.slice h (bcloneS u1).length d) ?_; intro co aa
 apply S
 refine s_ (sqH ?_); intro bb ab
 refine l2 aa y 13 1 0 9 (e46Q u0) rfl rfl ?_; intro cp ac
 obtain ⟨bc, ad⟩ := ba
 refine ck ac 56 #[.agg (e46Q u0).toArray] ?_
 refine (rplaces_fun u0 bc _ _ y.fz).mono ?_; rintro _ ae ⟨l, m, bd, rfl, hm⟩; refine ⟨_, rfl, ?_⟩; intro cq af; have ag := y.callZ hm
 have G : Mem w.heap.size [] w Z [.own t6 3 l m (placesS u0), .own t8 5 h d (bcloneS u1), .row n (e46Q u0) 46] bd ae := ag
 have be := ad (G.ownSmall 0 rfl)
 refine bt af G 2 [] [] [(15, i6 ((placesS u0).length : Int)), (16, i6 0)] ?_; intro ai aj
 apply ab
 apply b_
 have ak : Fr 48 [] [⟨2, [], i6 u2⟩, ⟨7, [], .slice h (bcloneS u1).length d⟩, ⟨14, [], .slice l (placesS u0).length m⟩, ⟨15, [], i6 ((placesS u0).length : Int)⟩, ⟨16, [], i6 0⟩] ai := aj.reg
 obtain ⟨o, al, am, bf⟩ := G.freeze 0 rfl
 have an : Mem w.heap.size [] w Z [.own t8 5 h d (bcloneS u1), .row n (e46Q u0) 46] o ae := am
 have ao : Fr 48 [] [⟨2, [], i6 u2⟩, ⟨7, [], .slice h (bcloneS u1).length d⟩, ⟨14, [], .slice l (placesS u0).length m⟩, ⟨15, [], i6 ((placesS u0).length : Int)⟩, ⟨16, [], i6 0⟩] ai := ak.reg
 obtain ⟨bg, bh, bi, bj⟩ := be
 refine lp (ι := Int × (List Int)) (fun s => [⟨2, [], i6 u2⟩, ⟨7, [], .slice h s.2.length d⟩, ⟨14, [], .slice l (placesS u0).length m⟩, ⟨15, [], i6 ((placesS u0).length : Int)⟩, ⟨16, [], i6 s.1⟩]) (fun s => [.own t8 5 h d s.2, .row n (e46Q u0) 46]) (fun s => o) (fun s => bg s.1 s.2) (fun s => bh s.1 s.2) ⟨0, (bcloneS u1)⟩ bi (by exact ao.region (by kernel_rfl) (by kernel_rfl)) (by exact an) ?_
 rintro ⟨b, c⟩ bk bl bm ap aq
 have B := bj b c bk
 refine sqB ap aq [] [] [(17, .bool (decide (b < ((placesS u0).length : Int))))] ?_; intro au z
 apply s_
 refine cd z (t := decide (b < ((placesS u0).length : Int))) (by kernel_rfl) (fun H => ?_) (fun H => ?_)
 · -- yes
  have bn := B.1 H
  apply k_
  have av : Fr 48 [] [⟨2, [], i6 u2⟩, ⟨7, [], .slice h c.length d⟩, ⟨14, [], .slice l (placesS u0).length m⟩, ⟨15, [], i6 ((placesS u0).length : Int)⟩, ⟨16, [], i6 b⟩] au := z.reg
  obtain ⟨bo, bp, bq⟩ := bn
  refine wp_seq_k fun KJ78 hKJ79 => ?_
  have aw : ∀ (q : List Int), bo q → ∀ a1 w1, Fr 48 [] [⟨2, [], i6 u2⟩, ⟨7, [], .slice h q.length d⟩, ⟨14, [], .slice l (placesS u0).length m⟩, ⟨15, [], i6 ((placesS u0).length : Int)⟩, ⟨16, [], i6 b⟩] a1 → Mem w.heap.size [] w Z [.own t8 5 h d q, .row n (e46Q u0) 46] o w1 → KJ78 a1 w1 := by
   rintro q br cr cs ax ay
   refine hKJ79 _ _ ?_
   have az := bq q br
   refine rgB ax ay [] [] [(16, i6 (w64 (b + 1)))] ?_; intro ct bs
   exact d_ ⟨⟨w64 (b + 1), q⟩, az.1, az.2, (bs.region (by kernel_rfl) (by kernel_rfl)).anyβ _ (by kernel_rfl), ay.kp⟩
  refine b_ (sqH ?_); intro bu aA
  refine s1 av 18 (i6 b) ?_; intro cu aB
  obtain ⟨bv, aC⟩ := bp
  refine ix_ aB bf b bv .i64 3 8 ?_; intro aD aE bw a cv bx bz bA aF
  have bB := aC a bx
  obtain rfl : bw = ([i6 a] : List Value) := bA
  refine z1 aF aq 20 bz 0 (i6 a) rfl ?_; intro cw aG
  refine bt aG aq 2 [] [] [(8, i6 b), (9, i6 a)] ?_; intro cx aH
  apply aA
  refine sqH ?_; intro bC aI
  refine bt aH aq 2 [] [] [(22, i6 (a.tmod 8))] ?_; intro cy J
  obtain ⟨bD, bE⟩ := bB
  refine u_ J (y8 (bShl .u8 1 (a.tmod 8))) (shl_run J (g := []) (k' := .i64) rfl (by kernel_rfl) (by kernel_rfl) bD rfl) ?_; intro cz aJ
  refine s1 aJ 10 (y8 (bShl .u8 1 (a.tmod 8))) ?_; intro cA aK
  apply aI
  refine sqH ?_; intro bF aL
  refine bt aK aq 2 [] [] [(24, i6 u2), (25, i6 b)] ?_; intro cB L
  obtain ⟨bG, C⟩ := bE
  refine u_ L (i6 (bShr .i64 u2 b)) (shr_run L (g := []) (k' := .i64) rfl (by kernel_rfl) (by kernel_rfl) bG rfl) ?_; intro cC aM
  refine bt aM aq 2 [] [] [(28, .bool ((bAnd .i64 (bShr .i64 u2 b) 1) == 1))] ?_; intro cD A
  apply aL
  refine cd A (t := (bAnd .i64 (bShr .i64 u2 b) 1) == 1) (by kernel_rfl) (fun M => ?_) (fun M => ?_)
  · -- yes
   have bH := C.1 M
   refine rgH ?_; intro bI aN
   refine bt A aq 3 [] [] [(29, .slice h c.length d), (31, i6 (w64 (a.tdiv 8)))] ?_; intro cE aO
   obtain ⟨bJ, aP⟩ := bH
   refine ixo aO aq 0 (T := t8) (xs := c) (w64 (a.tdiv 8)) bJ (k := .i64) (e := 5) (bytes := 1) (nog rfl _) rfl (by kernel_rfl) rfl (by kernel_rfl) (by kernel_rfl) rfl (by kernel_rfl) ?_; intro v cF bK aQ
   subst bK
   obtain ⟨i, bL, bM⟩ := gxq aP (by first | omega | (simp only [List.length_set] at *; omega))
   obtain ⟨bN, bO, bP⟩ := own_el aq 0 (T := t8) (xs := c) rfl (w64 (a.tdiv 8)).toNat bL
   obtain rfl : bN = ([y8 i] : List Value) := bO
   refine lc1 aQ 33 (y8 i) (bP 0 _ rfl) rfl ?_; intro cG aR
   refine bt aR aq 2 [] [] [(35, y8 (bOr .u8 i (bShl .u8 1 (a.tmod 8))))] ?_; intro cH aS
   obtain ⟨bQ, bR⟩ := bM
   refine ixo aS aq 0 (T := t8) (xs := c) (w64 (a.tdiv 8)) bQ (k := .i64) (e := 5) (bytes := 1) (nog rfl _) rfl (by kernel_rfl) rfl (by kernel_rfl) (by kernel_rfl) rfl (by kernel_rfl) ?_; intro bS bT bU D
   obtain rfl : v = bS := by simpa using bU
   refine so D aq 0 (T := t8) (xs := c) (w64 (a.tdiv 8)).toNat (bOr .u8 i (bShl .u8 1 (a.tmod 8))) (u := y8 (bOr .u8 i (bShl .u8 1 (a.tmod 8)))) (nog rfl _) rfl rfl (by kernel_rfl) rfl (by kernel_rfl) rfl (by kernel_rfl) (by first | omega | (simp only [List.length_set] at *; omega)) rfl ?_; intro bV aT
   have bW : Fr 48 [] [⟨2, [], i6 u2⟩, ⟨7, [], .slice (sm v) (c.set (w64 (a.tdiv 8)).toNat (bOr .u8 i (bShl .u8 1 (a.tmod 8)))).length d⟩, ⟨8, [], i6 b⟩, ⟨9, [], i6 a⟩, ⟨10, [], y8 (bShl .u8 1 (a.tmod 8))⟩, ⟨14, [], .slice l (placesS u0).length m⟩, ⟨15, [], i6 ((placesS u0).length : Int)⟩, ⟨16, [], i6 b⟩, ⟨18, [], i6 b⟩, ⟨19, [], pt aD aE⟩, ⟨20, [], i6 a⟩, ⟨22, [], i6 (a.tmod 8)⟩, ⟨23, [], y8 (bShl .u8 1 (a.tmod 8))⟩, ⟨24, [], i6 u2⟩, ⟨25, [], i6 b⟩, ⟨26, [], i6 (bShr .i64 u2 b)⟩, ⟨28, [], .bool ((bAnd .i64 (bShr .i64 u2 b) 1) == 1)⟩, ⟨29, [], .slice (sm v) (c.set (w64 (a.tdiv 8)).toNat (bOr .u8 i (bShl .u8 1 (a.tmod 8)))).length d⟩, ⟨31, [], i6 (w64 (a.tdiv 8))⟩, ⟨32, [], .pointer (some ⟨v, (w64 (a.tdiv 8)).toNat * 1, none⟩)⟩, ⟨33, [], y8 i⟩, ⟨35, [], y8 (bOr .u8 i (bShl .u8 1 (a.tmod 8)))⟩, ⟨36, [], .pointer (some ⟨v, (w64 (a.tdiv 8)).toNat * 1, none⟩)⟩] bT := by (try simp only [List.length_set] at D); (try simp only [List.length_set]); exact D.region (by kernel_rfl) (by kernel_rfl)
   have bX : Mem w.heap.size [] w Z [.own t8 5 (sm v) d (c.set (w64 (a.tdiv 8)).toNat (bOr .u8 i (bShl .u8 1 (a.tmod 8)))), .row n (e46Q u0) 46] o bV := aT
   apply aN
   exact j_ (d_ (aw (c.set (w64 (a.tdiv 8)).toNat (bOr .u8 i (bShl .u8 1 (a.tmod 8)))) bR _ _ ((bW.region (by kernel_rfl) (by kernel_rfl)).anyβ _ (by kernel_rfl)) (bX.kp)))
  · -- no
   have bY := C.2 M
   refine rgH ?_; intro bZ aU
   refine bt A aq 3 [] [] [(37, .slice h c.length d), (39, i6 (w64 (a.tdiv 8)))] ?_; intro cI aV
   obtain ⟨b0, aW⟩ := bY
   refine ixo aV aq 0 (T := t8) (xs := c) (w64 (a.tdiv 8)) b0 (k := .i64) (e := 5) (bytes := 1) (nog rfl _) rfl (by kernel_rfl) rfl (by kernel_rfl) (by kernel_rfl) rfl (by kernel_rfl) ?_; intro x cJ b1 aX
   subst b1
   obtain ⟨j, b2, b3⟩ := gxq aW (by first | omega | (simp only [List.length_set] at *; omega))
   obtain ⟨b4, b5, b7⟩ := own_el aq 0 (T := t8) (xs := c) rfl (w64 (a.tdiv 8)).toNat b2
   obtain rfl : b4 = ([y8 j] : List Value) := b5
   refine lc1 aX 41 (y8 j) (b7 0 _ rfl) rfl ?_; intro cK aY
   refine bt aY aq 3 [] [] [(44, y8 (bAnd .u8 j (w8 (255 - (bShl .u8 1 (a.tmod 8))))))] ?_; intro cL aZ
   obtain ⟨b8, b9⟩ := b3
   refine ixo aZ aq 0 (T := t8) (xs := c) (w64 (a.tdiv 8)) b8 (k := .i64) (e := 5) (bytes := 1) (nog rfl _) rfl (by kernel_rfl) rfl (by kernel_rfl) (by kernel_rfl) rfl (by kernel_rfl) ?_; intro ca cb cc E
   obtain rfl : x = ca := by simpa using cc
   refine so E aq 0 (T := t8) (xs := c) (w64 (a.tdiv 8)).toNat (bAnd .u8 j (w8 (255 - (bShl .u8 1 (a.tmod 8))))) (u := y8 (bAnd .u8 j (w8 (255 - (bShl .u8 1 (a.tmod 8)))))) (nog rfl _) rfl rfl (by kernel_rfl) rfl (by kernel_rfl) rfl (by kernel_rfl) (by first | omega | (simp only [List.length_set] at *; omega)) rfl ?_; intro ce a2
   have cf : Fr 48 [] [⟨2, [], i6 u2⟩, ⟨7, [], .slice (sm x) (c.set (w64 (a.tdiv 8)).toNat (bAnd .u8 j (w8 (255 - (bShl .u8 1 (a.tmod 8)))))).length d⟩, ⟨8, [], i6 b⟩, ⟨9, [], i6 a⟩, ⟨10, [], y8 (bShl .u8 1 (a.tmod 8))⟩, ⟨14, [], .slice l (placesS u0).length m⟩, ⟨15, [], i6 ((placesS u0).length : Int)⟩, ⟨16, [], i6 b⟩, ⟨18, [], i6 b⟩, ⟨19, [], pt aD aE⟩, ⟨20, [], i6 a⟩, ⟨22, [], i6 (a.tmod 8)⟩, ⟨23, [], y8 (bShl .u8 1 (a.tmod 8))⟩, ⟨24, [], i6 u2⟩, ⟨25, [], i6 b⟩, ⟨26, [], i6 (bShr .i64 u2 b)⟩, ⟨28, [], .bool ((bAnd .i64 (bShr .i64 u2 b) 1) == 1)⟩, ⟨37, [], .slice (sm x) (c.set (w64 (a.tdiv 8)).toNat (bAnd .u8 j (w8 (255 - (bShl .u8 1 (a.tmod 8)))))).length d⟩, ⟨39, [], i6 (w64 (a.tdiv 8))⟩, ⟨40, [], .pointer (some ⟨x, (w64 (a.tdiv 8)).toNat * 1, none⟩)⟩, ⟨41, [], y8 j⟩, ⟨44, [], y8 (bAnd .u8 j (w8 (255 - (bShl .u8 1 (a.tmod 8)))))⟩, ⟨45, [], .pointer (some ⟨x, (w64 (a.tdiv 8)).toNat * 1, none⟩)⟩] cb := by (try simp only [List.length_set] at E); (try simp only [List.length_set]); exact E.region (by kernel_rfl) (by kernel_rfl)
   have cg : Mem w.heap.size [] w Z [.own t8 5 (sm x) d (c.set (w64 (a.tdiv 8)).toNat (bAnd .u8 j (w8 (255 - (bShl .u8 1 (a.tmod 8)))))), .row n (e46Q u0) 46] o ce := a2
   apply aU
   exact j_ (d_ (aw (c.set (w64 (a.tdiv 8)).toNat (bAnd .u8 j (w8 (255 - (bShl .u8 1 (a.tmod 8)))))) b9 _ _ ((cf.region (by kernel_rfl) (by kernel_rfl)).anyβ _ (by kernel_rfl)) (cg.kp)))
 · -- no
  have ch := B.2 H
  refine x_ (y_ (y_ (z_ (t_ (sqB z aq [] [] [(6, .slice h c.length d)] ?_))))); intro cM ci
  exact r_ (ra1 ci (.slice h c.length d) ⟨c, h, d, o, rfl, ch, aq.kp⟩)
end Go.Proofs.YtdndfbamhnchfaaGreatDoor
set_option linter.unusedVariables false
set_option linter.unusedSimpArgs false
set_option linter.defProp false
set_option maxRecDepth 100000
set_option maxHeartbeats 0
namespace Go.Proofs.YtdndfbamhnchfaaGreatDoor
open Go.Sy Go.RowKit
abbrev e46Mr (X : Signal) : List Value := [str X.Name, i6 X.Start, i6 X.Size, .bool X.Back, .bool X.Signed, i6 X.Mul, i6 X.Div, i6 X.Add, i6 X.Key]
abbrev e27Mr (X : Frame) (A0 : Option Addr) (C0 : Nat) : List Value := [i6 X.ID, .bool X.Long, .bool X.Fast, .bool X.Remote, i6 X.Size, .slice A0 X.Data.length C0]
abbrev e24Mr (X : Message) (A0 : Option Addr) (C0 : Nat) : List Value := [i6 X.ID, .bool X.Long, str X.Name, i6 X.Size, i6 X.Chooser, .slice A0 X.Signals.length C0]
def risname_fun (u0 : List UInt8)  (Z : Fz) (w : World)  (hZ : Z.on w) := f_ (risname_walk u0  Z w  hZ (risname_ok u0))
def rrawof_fun (u0 : Signal) (u1 : List Int) (hpre : inD u0 u1) (ao1 : Option Addr) (cap2 : Nat) (Z : Fz) (w : World) (hs3 : SlR t8 Z ao1 cap2 u1) (hZ : Z.on w) := f_ (rrawof_walk u0 u1 ao1 cap2 Z w hs3 hZ (rrawof_ok u0 u1 hpre))
theorem rcheck_walk (u0 : Signal) (u1 : Int)  (Z : Fz) (w : World)  (hZ : Z.on w) {K : Int → Prop} (hp : rcheck_vc u0 u1 K) : Calls Tryz.prog 27 #[.agg #[str u0.Name, i6 u0.Start, i6 u0.Size, .bool u0.Back, .bool u0.Signed, i6 u0.Mul, i6 u0.Div, i6 u0.Add, i6 u0.Key], i6 u1] w fun e w' => ∃ r : Int, e = .returned (i6 r) ∧ K r ∧ Below w.heap.size w w' := by
 refine enter0 Tryz.func27 rfl rfl (by kernel_rfl) ?_; intro a0 af; have ag := Mem.start w Z hZ
 refine sqH ?_; intro bx ah
 refine nw af ag pb (e46Mr u0) 46 ?_; intro a a3 ca ai A
 refine s1 ai 4 (i6 0) ?_; intro a7 aj
 apply ah
 refine s_ (sqH ?_); intro bz ak
 refine bt aj A 2 [0] [] [(9, str u0.Name)] ?_; intro cb al
 refine fc al A (risname_fun u0.Name _ _ A.fz) ?_; intro cc ce am d
 refine s1 am 11 (.bool (!(nameS u0.Name))) ?_; intro cf l
 apply ak
 refine c_ l hp (fun _ bA => ?_) fun _ B => ?_
 ·
  refine sqB l d [] [] [(4, i6 1)] ?_; intro cg bB
  exact r_ (h_ (ra1 bB (i6 1) ⟨1, rfl, bA, d.below⟩))
 refine k_ (sqB l d [] [] [(5, .func (.func 64) #[] #[])] ?_); intro ch an
 refine s_ (sqH ?_); intro bC ao
 refine bt an d 2 [] [] [(12, .func (.func 64) #[] #[]), (13, i6 u1)] ?_; intro ci ap
 refine fc ap d (rin_fun u1 0 64 _ _ d.fz) ?_; intro cl cm aq C
 refine s1 aq 15 (.bool (!(rin u1 0 64))) ?_; intro cn ar
 refine s1 ar 16 (.bool (!(rin u1 0 64))) ?_; intro co au
 have av := au.atom ((!(rin u1 0 64)) == false) (by kernel_rfl)
 refine gp av 17 0 [] (!(rin u1 0 64)) (.func (.func 64) #[] #[]) rfl rfl ?_; intro cp aw
 refine gp aw 18 0 [] (!(rin u1 0 64)) (pt a 2) rfl rfl ?_; intro cq L
 refine gd L (i6 u0.Size) (m := 0) (cj := []) (bj := !(rin u1 0 64)) rfl rfl (by kernel_rfl) rfl (by kernel_rfl) (by kernel_rfl) (by kernel_rfl) (fun hg => ld L C 0 (g := [0]) (b := a) (off := 2) (cs := (e46Mr u0)) (ty := 46) rfl (by kernel_rfl) (by kernel_rfl) (by kernel_rfl) (by kernel_rfl) hg) ?_; intro cr ax
 refine gcl ax C (.bool (rin u0.Size 1 40)) 64 #[i6 u0.Size, i6 1, i6 40] (m := 0) (cj := []) (bj := !(rin u1 0 64)) rfl rfl (by kernel_rfl) rfl (by kernel_rfl) (by kernel_rfl) (by kernel_rfl) (fun _ => by kernel_rfl) (fun hg => rin_fun u0.Size 1 40 _ _ C.fz) ?_; intro ct cu ay n
 refine gp ay 21 0 [] (!(rin u1 0 64)) (.bool (!(rin u0.Size 1 40))) rfl rfl ?_; intro cv M
 refine u_ M (.bool ((!(rin u1 0 64)) || (!(rin u0.Size 1 40)))) (pk_or M (g := []) (m := 0) (b := !(rin u1 0 64)) (v := !(rin u0.Size 1 40)) rfl (by kernel_rfl) (by kernel_rfl) (by kernel_rfl) rfl) ?_; intro cw az
 refine s1 az 23 (.bool ((!(rin u1 0 64)) || (!(rin u0.Size 1 40)))) ?_; intro cx aA
 have aB := aA.atom (((!(rin u1 0 64)) || (!(rin u0.Size 1 40))) == false) (by kernel_rfl)
 refine gp aB 24 1 [] ((!(rin u1 0 64)) || (!(rin u0.Size 1 40))) (pt a 5) rfl rfl ?_; intro cy N
 refine gd N (i6 u0.Mul) (m := 1) (cj := []) (bj := (!(rin u1 0 64)) || (!(rin u0.Size 1 40))) rfl rfl (by kernel_rfl) rfl (by kernel_rfl) (by kernel_rfl) (by kernel_rfl) (fun hg => ld N n 0 (g := [1]) (b := a) (off := 5) (cs := (e46Mr u0)) (ty := 46) rfl (by kernel_rfl) (by kernel_rfl) (by kernel_rfl) (by kernel_rfl) hg) ?_; intro cz aC
 refine gp aC 26 1 [] ((!(rin u1 0 64)) || (!(rin u0.Size 1 40))) (.bool (u0.Mul == 0)) rfl rfl ?_; intro cA O
 refine u_ O (.bool (((!(rin u1 0 64)) || (!(rin u0.Size 1 40))) || (u0.Mul == 0))) (pk_or O (g := []) (m := 1) (b := (!(rin u1 0 64)) || (!(rin u0.Size 1 40))) (v := u0.Mul == 0) rfl (by kernel_rfl) (by kernel_rfl) (by kernel_rfl) rfl) ?_; intro cB aD
 refine s1 aD 28 (.bool (((!(rin u1 0 64)) || (!(rin u0.Size 1 40))) || (u0.Mul == 0))) ?_; intro cC aE
 have aF := aE.atom ((((!(rin u1 0 64)) || (!(rin u0.Size 1 40))) || (u0.Mul == 0)) == false) (by kernel_rfl)
 refine gp aF 29 2 [] (((!(rin u1 0 64)) || (!(rin u0.Size 1 40))) || (u0.Mul == 0)) (.func (.func 64) #[] #[]) rfl rfl ?_; intro cD aG
 refine gp aG 30 2 [] (((!(rin u1 0 64)) || (!(rin u0.Size 1 40))) || (u0.Mul == 0)) (pt a 5) rfl rfl ?_; intro cE P
 refine gd P (i6 u0.Mul) (m := 2) (cj := []) (bj := ((!(rin u1 0 64)) || (!(rin u0.Size 1 40))) || (u0.Mul == 0)) rfl rfl (by kernel_rfl) rfl (by kernel_rfl) (by kernel_rfl) (by kernel_rfl) (fun hg => ld P n 0 (g := [2]) (b := a) (off := 5) (cs := (e46Mr u0)) (ty := 46) rfl (by kernel_rfl) (by kernel_rfl) (by kernel_rfl) (by kernel_rfl) hg) ?_; intro cF aH
 refine gcl aH n (.bool (rin u0.Mul (-1000000) 1000000)) 64 #[i6 u0.Mul, i6 (-1000000), i6 1000000] (m := 2) (cj := []) (bj := ((!(rin u1 0 64)) || (!(rin u0.Size 1 40))) || (u0.Mul == 0)) rfl rfl (by kernel_rfl) rfl (by kernel_rfl) (by kernel_rfl) (by kernel_rfl) (fun _ => by kernel_rfl) (fun hg => rin_fun u0.Mul (-1000000) 1000000 _ _ n.fz) ?_; intro cG cH aI D
 refine gp aI 33 2 [] (((!(rin u1 0 64)) || (!(rin u0.Size 1 40))) || (u0.Mul == 0)) (.bool (!(rin u0.Mul (-1000000) 1000000))) rfl rfl ?_; intro cI Q
 refine u_ Q (.bool ((((!(rin u1 0 64)) || (!(rin u0.Size 1 40))) || (u0.Mul == 0)) || (!(rin u0.Mul (-1000000) 1000000)))) (pk_or Q (g := []) (m := 2) (b := ((!(rin u1 0 64)) || (!(rin u0.Size 1 40))) || (u0.Mul == 0)) (v := !(rin u0.Mul (-1000000) 1000000)) rfl (by kernel_rfl) (by kernel_rfl) (by kernel_rfl) rfl) ?_; intro cJ aJ
 refine s1 aJ 35 (.bool ((((!(rin u1 0 64)) || (!(rin u0.Size 1 40))) || (u0.Mul == 0)) || (!(rin u0.Mul (-1000000) 1000000)))) ?_; intro cK aK
 have aL := aK.atom (((((!(rin u1 0 64)) || (!(rin u0.Size 1 40))) || (u0.Mul == 0)) || (!(rin u0.Mul (-1000000) 1000000))) == false) (by kernel_rfl)
 refine gp aL 36 3 [] ((((!(rin u1 0 64)) || (!(rin u0.Size 1 40))) || (u0.Mul == 0)) || (!(rin u0.Mul (-1000000) 1000000))) (.func (.func 64) #[] #[]) rfl rfl ?_; intro cL aM
 refine gp aM 37 3 [] ((((!(rin u1 0 64)) || (!(rin u0.Size 1 40))) || (u0.Mul == 0)) || (!(rin u0.Mul (-1000000) 1000000))) (pt a 6) rfl rfl ?_; intro cM R
 refine gd R (i6 u0.Div) (m := 3) (cj := []) (bj := (((!(rin u1 0 64)) || (!(rin u0.Size 1 40))) || (u0.Mul == 0)) || (!(rin u0.Mul (-1000000) 1000000))) rfl rfl (by kernel_rfl) rfl (by kernel_rfl) (by kernel_rfl) (by kernel_rfl) (fun hg => ld R D 0 (g := [3]) (b := a) (off := 6) (cs := (e46Mr u0)) (ty := 46) rfl (by kernel_rfl) (by kernel_rfl) (by kernel_rfl) (by kernel_rfl) hg) ?_; intro cN aN
 refine gcl aN D (.bool (rin u0.Div 1 1000000)) 64 #[i6 u0.Div, i6 1, i6 1000000] (m := 3) (cj := []) (bj := (((!(rin u1 0 64)) || (!(rin u0.Size 1 40))) || (u0.Mul == 0)) || (!(rin u0.Mul (-1000000) 1000000))) rfl rfl (by kernel_rfl) rfl (by kernel_rfl) (by kernel_rfl) (by kernel_rfl) (fun _ => by kernel_rfl) (fun hg => rin_fun u0.Div 1 1000000 _ _ D.fz) ?_; intro cO cP aO E
 refine gp aO 40 3 [] ((((!(rin u1 0 64)) || (!(rin u0.Size 1 40))) || (u0.Mul == 0)) || (!(rin u0.Mul (-1000000) 1000000))) (.bool (!(rin u0.Div 1 1000000))) rfl rfl ?_; intro cQ S
 refine u_ S (.bool (((((!(rin u1 0 64)) || (!(rin u0.Size 1 40))) || (u0.Mul == 0)) || (!(rin u0.Mul (-1000000) 1000000))) || (!(rin u0.Div 1 1000000)))) (pk_or S (g := []) (m := 3) (b := (((!(rin u1 0 64)) || (!(rin u0.Size 1 40))) || (u0.Mul == 0)) || (!(rin u0.Mul (-1000000) 1000000))) (v := !(rin u0.Div 1 1000000)) rfl (by kernel_rfl) (by kernel_rfl) (by kernel_rfl) rfl) ?_; intro cR aP
 refine s1 aP 42 (.bool (((((!(rin u1 0 64)) || (!(rin u0.Size 1 40))) || (u0.Mul == 0)) || (!(rin u0.Mul (-1000000) 1000000))) || (!(rin u0.Div 1 1000000)))) ?_; intro cS aQ
 have aR := aQ.atom ((((((!(rin u1 0 64)) || (!(rin u0.Size 1 40))) || (u0.Mul == 0)) || (!(rin u0.Mul (-1000000) 1000000))) || (!(rin u0.Div 1 1000000))) == false) (by kernel_rfl)
 refine gp aR 43 4 [] (((((!(rin u1 0 64)) || (!(rin u0.Size 1 40))) || (u0.Mul == 0)) || (!(rin u0.Mul (-1000000) 1000000))) || (!(rin u0.Div 1 1000000))) (.func (.func 64) #[] #[]) rfl rfl ?_; intro cT aS
 refine gp aS 44 4 [] (((((!(rin u1 0 64)) || (!(rin u0.Size 1 40))) || (u0.Mul == 0)) || (!(rin u0.Mul (-1000000) 1000000))) || (!(rin u0.Div 1 1000000))) (pt a 7) rfl rfl ?_; intro cU U
 refine gd U (i6 u0.Add) (m := 4) (cj := []) (bj := ((((!(rin u1 0 64)) || (!(rin u0.Size 1 40))) || (u0.Mul == 0)) || (!(rin u0.Mul (-1000000) 1000000))) || (!(rin u0.Div 1 1000000))) rfl rfl (by kernel_rfl) rfl (by kernel_rfl) (by kernel_rfl) (by kernel_rfl) (fun hg => ld U E 0 (g := [4]) (b := a) (off := 7) (cs := (e46Mr u0)) (ty := 46) rfl (by kernel_rfl) (by kernel_rfl) (by kernel_rfl) (by kernel_rfl) hg) ?_; intro cV aT
 refine gcl aT E (.bool (rin u0.Add (-1000000) 1000000)) 64 #[i6 u0.Add, i6 (-1000000), i6 1000000] (m := 4) (cj := []) (bj := ((((!(rin u1 0 64)) || (!(rin u0.Size 1 40))) || (u0.Mul == 0)) || (!(rin u0.Mul (-1000000) 1000000))) || (!(rin u0.Div 1 1000000))) rfl rfl (by kernel_rfl) rfl (by kernel_rfl) (by kernel_rfl) (by kernel_rfl) (fun _ => by kernel_rfl) (fun hg => rin_fun u0.Add (-1000000) 1000000 _ _ E.fz) ?_; intro cW cX aU F
 refine gp aU 47 4 [] (((((!(rin u1 0 64)) || (!(rin u0.Size 1 40))) || (u0.Mul == 0)) || (!(rin u0.Mul (-1000000) 1000000))) || (!(rin u0.Div 1 1000000))) (.bool (!(rin u0.Add (-1000000) 1000000))) rfl rfl ?_; intro cY V
 refine u_ V (.bool ((((((!(rin u1 0 64)) || (!(rin u0.Size 1 40))) || (u0.Mul == 0)) || (!(rin u0.Mul (-1000000) 1000000))) || (!(rin u0.Div 1 1000000))) || (!(rin u0.Add (-1000000) 1000000)))) (pk_or V (g := []) (m := 4) (b := ((((!(rin u1 0 64)) || (!(rin u0.Size 1 40))) || (u0.Mul == 0)) || (!(rin u0.Mul (-1000000) 1000000))) || (!(rin u0.Div 1 1000000))) (v := !(rin u0.Add (-1000000) 1000000)) rfl (by kernel_rfl) (by kernel_rfl) (by kernel_rfl) rfl) ?_; intro cZ aV
 refine s1 aV 49 (.bool ((((((!(rin u1 0 64)) || (!(rin u0.Size 1 40))) || (u0.Mul == 0)) || (!(rin u0.Mul (-1000000) 1000000))) || (!(rin u0.Div 1 1000000))) || (!(rin u0.Add (-1000000) 1000000)))) ?_; intro c0 aW
 have aX := aW.atom (((((((!(rin u1 0 64)) || (!(rin u0.Size 1 40))) || (u0.Mul == 0)) || (!(rin u0.Mul (-1000000) 1000000))) || (!(rin u0.Div 1 1000000))) || (!(rin u0.Add (-1000000) 1000000))) == false) (by kernel_rfl)
 refine gp aX 50 5 [] ((((((!(rin u1 0 64)) || (!(rin u0.Size 1 40))) || (u0.Mul == 0)) || (!(rin u0.Mul (-1000000) 1000000))) || (!(rin u0.Div 1 1000000))) || (!(rin u0.Add (-1000000) 1000000))) (.func (.func 64) #[] #[]) rfl rfl ?_; intro c1 aY
 refine gp aY 51 5 [] ((((((!(rin u1 0 64)) || (!(rin u0.Size 1 40))) || (u0.Mul == 0)) || (!(rin u0.Mul (-1000000) 1000000))) || (!(rin u0.Div 1 1000000))) || (!(rin u0.Add (-1000000) 1000000))) (pt a 8) rfl rfl ?_; intro c2 W
 refine gd W (i6 u0.Key) (m := 5) (cj := []) (bj := (((((!(rin u1 0 64)) || (!(rin u0.Size 1 40))) || (u0.Mul == 0)) || (!(rin u0.Mul (-1000000) 1000000))) || (!(rin u0.Div 1 1000000))) || (!(rin u0.Add (-1000000) 1000000))) rfl rfl (by kernel_rfl) rfl (by kernel_rfl) (by kernel_rfl) (by kernel_rfl) (fun hg => ld W F 0 (g := [5]) (b := a) (off := 8) (cs := (e46Mr u0)) (ty := 46) rfl (by kernel_rfl) (by kernel_rfl) (by kernel_rfl) (by kernel_rfl) hg) ?_; intro c3 aZ
 refine gcl aZ F (.bool (rin u0.Key (-1) 255)) 64 #[i6 u0.Key, i6 (-1), i6 255] (m := 5) (cj := []) (bj := (((((!(rin u1 0 64)) || (!(rin u0.Size 1 40))) || (u0.Mul == 0)) || (!(rin u0.Mul (-1000000) 1000000))) || (!(rin u0.Div 1 1000000))) || (!(rin u0.Add (-1000000) 1000000))) rfl rfl (by kernel_rfl) rfl (by kernel_rfl) (by kernel_rfl) (by kernel_rfl) (fun _ => by kernel_rfl) (fun hg => rin_fun u0.Key (-1) 255 _ _ F.fz) ?_; intro c4 c5 a1 h
 refine gp a1 54 5 [] ((((((!(rin u1 0 64)) || (!(rin u0.Size 1 40))) || (u0.Mul == 0)) || (!(rin u0.Mul (-1000000) 1000000))) || (!(rin u0.Div 1 1000000))) || (!(rin u0.Add (-1000000) 1000000))) (.bool (!(rin u0.Key (-1) 255))) rfl rfl ?_; intro c6 X
 refine u_ X (.bool (((((((!(rin u1 0 64)) || (!(rin u0.Size 1 40))) || (u0.Mul == 0)) || (!(rin u0.Mul (-1000000) 1000000))) || (!(rin u0.Div 1 1000000))) || (!(rin u0.Add (-1000000) 1000000))) || (!(rin u0.Key (-1) 255)))) (pk_or X (g := []) (m := 5) (b := (((((!(rin u1 0 64)) || (!(rin u0.Size 1 40))) || (u0.Mul == 0)) || (!(rin u0.Mul (-1000000) 1000000))) || (!(rin u0.Div 1 1000000))) || (!(rin u0.Add (-1000000) 1000000))) (v := !(rin u0.Key (-1) 255)) rfl (by kernel_rfl) (by kernel_rfl) (by kernel_rfl) rfl) ?_; intro a2 o
 apply ao
 refine c_ o B (fun _ bD => ?_) fun _ G => ?_
 ·
  have a4 : Fr 76 [] [] a2 := o.reg
  refine sqB a4 h [] [] [(4, i6 3)] ?_; intro c7 bE
  exact r_ (h_ (ra1 bE (i6 3) ⟨3, rfl, bD, h.below⟩))
 refine k_ (s_ ?_)
 have a5 : Fr 76 [] [⟨1, [], i6 u1⟩, ⟨2, [], pt a 0⟩, ⟨5, [], .func (.func 64) #[] #[]⟩] a2 := o.reg
 refine sqH ?_; intro bF a6
 refine bt a5 h 6 [0] [] [(56, .func (.func 64) #[] #[]), (58, i6 u0.Start), (61, i6 (w64 ((w64 (8 * u1)) - 1)))] ?_; intro c8 a8
 refine fc a8 h (rin_fun u0.Start 0 (w64 ((w64 (8 * u1)) - 1)) _ _ h.fz) ?_; intro c9 da a9 i
 refine s1 a9 63 (.bool (!(rin u0.Start 0 (w64 ((w64 (8 * u1)) - 1))))) ?_; intro db p
 apply a6
 refine c_ p G (fun _ bG => ?_) fun _ bI => ?_
 ·
  refine sqB p i [] [] [(4, i6 7)] ?_; intro dc bH
  exact r_ (h_ (ra1 bH (i6 7) ⟨7, rfl, bG, i.below⟩))
 refine k_ (s_ (sqH ?_)); intro bJ ba
 refine l2 p i 64 0 0 9 (e46Mr u0) rfl rfl ?_; intro dd bb
 obtain ⟨bK, bc⟩ := bI
 refine ck bb 56 #[.agg (e46Mr u0).toArray] ?_
 refine (rplaces_fun u0 bK _ _ i.fz).mono ?_; rintro _ bd ⟨q, u, bL, rfl, hm⟩; refine ⟨_, rfl, ?_⟩; intro de be; have bf := i.callZ hm
 have ab : Mem w.heap.size [] w Z [.own t6 3 q u (placesS u0), .row a (e46Mr u0) 46] bL bd := bf
 have bN := bc (ab.ownSmall 0 rfl)
 refine bt be ab 2 [] [] [(66, i6 ((placesS u0).length : Int)), (67, i6 0)] ?_; intro bg bh
 apply ba
 apply b_
 have bi : Fr 76 [] [⟨1, [], i6 u1⟩, ⟨65, [], .slice q (placesS u0).length u⟩, ⟨66, [], i6 ((placesS u0).length : Int)⟩, ⟨67, [], i6 0⟩] bg := bh.reg
 obtain ⟨ac, bO, bk, bP⟩ := ab.freeze 0 rfl
 have bl : Mem w.heap.size [] w Z [.row a (e46Mr u0) 46] ac bd := bk
 have bm : Fr 76 [] [⟨1, [], i6 u1⟩, ⟨65, [], .slice q (placesS u0).length u⟩, ⟨66, [], i6 ((placesS u0).length : Int)⟩, ⟨67, [], i6 0⟩] bg := bi.reg
 obtain ⟨bQ, bR, bS, bT⟩ := bN
 refine lp (ι := Int) (fun s => [⟨1, [], i6 u1⟩, ⟨65, [], .slice q (placesS u0).length u⟩, ⟨66, [], i6 ((placesS u0).length : Int)⟩, ⟨67, [], i6 s⟩]) (fun s => [.row a (e46Mr u0) 46]) (fun s => ac) (fun s => bQ s) (fun s => bR s) 0 bS (by exact bm.reg) (by exact bl) ?_
 rintro f bU bV bW bn bo
 have H := bT f bU
 refine sqB bn bo [] [] [(68, .bool (decide (f < ((placesS u0).length : Int))))] ?_; intro df x
 refine s_ (c_ x H (fun _ bX => ?_) fun _ b8 => ?_)
 ·
  refine k_ (s_ (b_ (sqH ?_))); intro bY bq
  obtain ⟨bZ, br⟩ := bX
  refine ix_ x bP f bZ .i64 3 8 ?_; intro dg dh b0 j di b1 b3 b4 bs
  have I := br j b1
  obtain rfl : b0 = ([i6 j] : List Value) := b4
  refine z1 bs bo 70 b3 0 (i6 j) rfl ?_; intro dj bu
  refine s1 bu 7 (i6 j) ?_; intro dk bv
  apply bq
  refine sqB bv bo [] [] [(74, .bool (decide (j ≥ (w64 (8 * u1)))))] ?_; intro dl y
  refine c_ y I (fun _ b5 => ?_) fun _ bw => ?_
  ·
   refine sqB y bo [] [] [(4, i6 7)] ?_; intro dm b6
   exact r_ (i_ (h_ (h_ (i_ (h_ (ra1 b6 (i6 7) ⟨7, rfl, b5, bo.below⟩))))))
  refine l_ (j_ (t_ (rgB y bo [] [] [(67, i6 (w64 (f + 1)))] ?_))); intro dn b7
  exact d_ ⟨w64 (f + 1), bw.1, bw.2, (b7.reg).anyβ _ (by kernel_rfl), bo.kp⟩
 refine x_ (y_ (y_ (z_ (t_ (sqB x bo [] [] [(4, i6 0)] ?_))))); intro dp b9
 exact r_ (ra1 b9 (i6 0) ⟨0, rfl, b8, bo.below⟩)
theorem rover_walk (u0 : Signal) (u1 : Signal)  (Z : Fz) (w : World)  (hZ : Z.on w) {K : Bool → Prop} (hp : rover_vc u0 u1 K) : Calls Tryz.prog 28 #[.agg #[str u0.Name, i6 u0.Start, i6 u0.Size, .bool u0.Back, .bool u0.Signed, i6 u0.Mul, i6 u0.Div, i6 u0.Add, i6 u0.Key], .agg #[str u1.Name, i6 u1.Start, i6 u1.Size, .bool u1.Back, .bool u1.Signed, i6 u1.Mul, i6 u1.Div, i6 u1.Add, i6 u1.Key]] w fun e w' => ∃ r : Bool, e = .returned (.bool r) ∧ K r ∧ Below w.heap.size w w' := by
 refine enter0 Tryz.func28 rfl rfl (by kernel_rfl) ?_; intro a0 q; have s := Mem.start w Z hZ
 refine sqH ?_; intro W t
 refine nw q s pb (e46Mr u0) 46 ?_; intro f a3 au u v
 refine nw u v pb (e46Mr u1) 46 ?_; intro g a8 av x i
 refine s1 x 4 (.bool false) ?_; intro aw y
 apply t
 refine sqH ?_; intro X z
 refine l2 y i 6 0 0 9 (e46Mr u1) rfl rfl ?_; intro ax A
 obtain ⟨Y, B⟩ := hp
 refine ck A 56 #[.agg (e46Mr u1).toArray] ?_
 refine (rplaces_fun u1 Y _ _ i.fz).mono ?_; rintro _ aa ⟨b, c, C, rfl, hm⟩; refine ⟨_, rfl, ?_⟩; intro ay D; have E := i.callZ hm
 have l : Mem w.heap.size [] w Z [.own t6 3 b c (placesS u1), .row g (e46Mr u1) 46, .row f (e46Mr u0) 46] C aa := E
 have ac := B (l.ownSmall 0 rfl)
 refine nw D l pb [.slice none 0 0] 59 ?_; intro d az aA m F
 refine sx m F 0 [.slice b (placesS u1).length c] 0 ?_; intro ad G
 have j : Mem w.heap.size [] w Z [.row d [.slice b (placesS u1).length c] 59, .own t6 3 b c (placesS u1), .row g (e46Mr u1) 46, .row f (e46Mr u0) 46] C ad := G
 apply z
 refine sqH ?_; intro ae H
 refine l2 m j 8 3 0 9 (e46Mr u0) rfl rfl ?_; intro aB I
 obtain ⟨af, J⟩ := ac
 refine ck I 56 #[.agg (e46Mr u0).toArray] ?_
 refine (rplaces_fun u0 af _ _ j.fz).mono ?_; rintro _ k ⟨L, M, ag, rfl, hm⟩; refine ⟨_, rfl, ?_⟩; intro aC N; have O := j.callZ hm
 have P : Mem w.heap.size [] w Z [.own t6 3 L M (placesS u0), .row d [.slice b (placesS u1).length c] 59, .own t6 3 b c (placesS u1), .row g (e46Mr u1) 46, .row f (e46Mr u0) 46] ag k := O
 have ai := J (P.ownSmall 0 rfl)
 refine s1 N 10 (.func (.func 66) #[] #[pt d 0]) ?_; intro aD Q
 obtain ⟨aj, ak, R, h⟩ := P.freeze 0 rfl
 have al : Mem w.heap.size [] w Z [.row d [.slice b (placesS u1).length c] 59, .own t6 3 b c (placesS u1), .row g (e46Mr u1) 46, .row f (e46Mr u0) 46] aj k := R
 obtain ⟨am, S, T, n⟩ := al.freeze 1 rfl
 replace h := h.mono S
 have an : Mem w.heap.size [] w Z [.row d [.slice b (placesS u1).length c] 59, .row g (e46Mr u1) 46, .row f (e46Mr u0) 46] am k := T
 obtain ⟨ao, o, U, ap⟩ := an.freezeRow 0 rfl
 replace h := h.mono o
 replace n := n.mono o
 have p : Mem w.heap.size [] w Z [.row g (e46Mr u1) 46, .row f (e46Mr u0) 46] ao k := U
 refine fc Q p (icontf_fun (placesS u0) (fun x0 => rov1 x0 (placesS u1)) L M 66 #[pt d 0] _ _ h (fun Z1 w1 h1 h2 x0 => rov1_fun x0 (placesS u1) d 0 b c Z1 w1 (ap.mono h1) (SlR.mono n h1) h2) (fun _ _ => by kernel_rfl) p.fz) ?_; intro aE aF V aq
 refine s1 V 4 (.bool (icontfS (placesS u0) (fun x0 => rov1 x0 (placesS u1)))) ?_; intro aG ar
 apply H
 exact r_ (ra1 ar (.bool (icontfS (placesS u0) (fun x0 => rov1 x0 (placesS u1)))) ⟨(icontfS (placesS u0) (fun x0 => rov1 x0 (placesS u1))), rfl, ai, aq.below⟩)
theorem rsizes_walk   (Z : Fz) (w : World)  (hZ : Z.on w) {K : (List Int) → Prop} (hp : rsizes_vc  K) : Calls Tryz.prog 30 #[] w fun e w' => ∃ (r : (List Int)) (ao1001 : Option Addr) (cap1002 : Nat) (Z' : Fz), e = .returned (.slice ao1001 r.length cap1002) ∧ K r ∧ Mem w.heap.size [] w Z [.own t6 3 ao1001 cap1002 r] Z' w' := by
 refine enter0 Tryz.func30 rfl rfl (by kernel_rfl) ?_; intro n d; have c := Mem.start w Z hZ
 refine sqB d c [] [] [] ?_; intro p f
 refine sqH ?_; intro j g
 refine nw f c (fun b => .slice (sm b) 16 16) [i6 0, i6 1, i6 2, i6 3, i6 4, i6 5, i6 6, i6 7, i6 8, i6 12, i6 16, i6 20, i6 24, i6 32, i6 48, i6 64] 3 ?_; intro a q k h i
 refine s1 h 0 (.slice (sm a) 16 16) ?_; intro s l
 apply g
 apply r_
 have m : Mem w.heap.size [] w Z [.own t6 3 (sm a) 16 ([0, 1, 2, 3, 4, 5, 6, 7, 8, 12, 16, 20, 24, 32, 48, 64] : List Int)] Z k := i.rowOwn (T := t6) (xs := ([0, 1, 2, 3, 4, 5, 6, 7, 8, 12, 16, 20, 24, 32, 48, 64] : List Int)) 0 rfl (by decide) (by show 16 ≤ lim; decide) ((RepAll.one (T := t6) (x := 0) rfl).append ((RepAll.one (T := t6) (x := 1) rfl).append ((RepAll.one (T := t6) (x := 2) rfl).append ((RepAll.one (T := t6) (x := 3) rfl).append ((RepAll.one (T := t6) (x := 4) rfl).append ((RepAll.one (T := t6) (x := 5) rfl).append ((RepAll.one (T := t6) (x := 6) rfl).append ((RepAll.one (T := t6) (x := 7) rfl).append ((RepAll.one (T := t6) (x := 8) rfl).append ((RepAll.one (T := t6) (x := 12) rfl).append ((RepAll.one (T := t6) (x := 16) rfl).append ((RepAll.one (T := t6) (x := 20) rfl).append ((RepAll.one (T := t6) (x := 24) rfl).append ((RepAll.one (T := t6) (x := 32) rfl).append ((RepAll.one (T := t6) (x := 48) rfl).append (RepAll.one (T := t6) (x := 64) rfl))))))))))))))))
 exact ra1 l (.slice (sm a) ([0, 1, 2, 3, 4, 5, 6, 7, 8, 12, 16, 20, 24, 32, 48, 64] : List Int).length 16) ⟨([0, 1, 2, 3, 4, 5, 6, 7, 8, 12, 16, 20, 24, 32, 48, 64] : List Int), (sm a), 16, Z, rfl, hp, m.kp⟩
def rsizes_fun   (Z : Fz) (w : World)  (hZ : Z.on w) := fc_ (rsizes_walk   Z w  hZ (rsizes_ok ))
theorem rcheckfr_walk (u0 : Frame) (ao1 : Option Addr) (cap2 : Nat) (Z : Fz) (w : World) (hs3 : SlR t8 Z ao1 cap2 u0.Data) (hZ : Z.on w) {K : Int → Prop} (hp : rcheckfr_vc u0 K) : Calls Tryz.prog 8 #[.agg #[i6 u0.ID, .bool u0.Long, .bool u0.Fast, .bool u0.Remote, i6 u0.Size, .slice ao1 u0.Data.length cap2]] w fun e w' => ∃ r : Int, e = .returned (i6 r) ∧ K r ∧ Below w.heap.size w w' := by
 refine enter0 Tryz.func8 rfl rfl (by kernel_rfl) ?_; intro a0 ac; have ad := Mem.start w Z hZ
 have v := hp (hs3.small)
 refine sqH ?_; intro aL ae
 refine nw ac ad pb (e27Mr u0 ao1 cap2) 27 ?_; intro c a7 bq af a
 refine s1 af 2 (i6 0) ?_; intro br ag
 apply ae
 refine sqB ag a [] [] [(3, i6 2047)] ?_; intro bs ah
 refine s_ (sqB ah a [0] [] [(5, .bool u0.Long)] ?_); intro bt g
 refine c_ g v (fun _ x => ?_) fun _ C => ?_
 ·
  refine rgB g a [] [] [(3, i6 536870911)] ?_; intro bu ai
  refine t_ (s_ (sqB ai a [0, 0] [] [(14, .bool ((decide (u0.ID < 0)) || (decide (u0.ID > 536870911))))] ?_)); intro bv h
  refine c_ h x (fun _ aM => ?_) fun _ y => ?_
  ·
   refine sqB h a [] [] [(2, i6 3)] ?_; intro bw aN
   exact r_ (h_ (ra1 aN (i6 3) ⟨3, rfl, aM, a.below⟩))
  refine k_ (s_ (sqB h a [0, 0, 0] [] [(26, .bool (u0.Remote && (u0.Fast || ((u0.Data.length : Int) != 0))))] ?_)); intro bx i
  refine c_ i y (fun _ aO => ?_) fun _ z => ?_
  ·
   refine sqB i a [] [] [(2, i6 4)] ?_; intro bz aP
   exact r_ (h_ (ra1 aP (i6 4) ⟨4, rfl, aO, a.below⟩))
  refine k_ (s_ (sqB i a [0, 0, 0, 0] [] [(44, .bool (((decide (u0.Size < 0)) || (decide (u0.Size > 8))) || ((decide (u0.Size > 0)) && (!u0.Remote))))] ?_)); intro bA j
  refine c_ j z (fun _ aQ => ?_) fun _ A => ?_
  ·
   refine sqB j a [] [] [(2, i6 3)] ?_; intro bB aR
   exact r_ (h_ (ra1 aR (i6 3) ⟨3, rfl, aQ, a.below⟩))
  refine k_ (s_ (sqB j a [0, 0, 0] [] [(59, .bool ((decide ((u0.Data.length : Int) > 64)) || ((decide ((u0.Data.length : Int) > 8)) && (!u0.Fast))))] ?_)); intro aS k
  refine c_ k A (fun _ aT => ?_) fun _ B => ?_
  ·
   refine sqB k a [] [] [(2, i6 2)] ?_; intro bC aU
   exact r_ (h_ (ra1 aU (i6 2) ⟨2, rfl, aT, a.below⟩))
  refine k_ (s_ ?_)
  have aj : Fr 66 [] [⟨1, [], pt c 0⟩] aS := k.reg
  refine wp_seq (rgS mixed a [(1, true), (2, true), (3, true), (0, false), (4, false), (5, true)] [] [0] [.row c (e27Mr u0 ao1 cap2) 27] ?_)
  intro aV ak bD N
  have d := Fz.le.refl Z
  refine cS aj 3 [0] [] [(63, i6 (u0.Data.length : Int))] ?_; intro bE al
  refine eS rfl ?_; intro aW am
  refine ck al 30 #[] ?_
  refine (rsizes_fun  _ _ N.fz).mono ?_; rintro _ an ⟨ao, ap, aX, rfl, hm⟩; refine ⟨_, rfl, ?_⟩; intro bF aq; have ar := N.callZ hm; have O := hm.ext.le
  replace d := d.mono O
  have au : Mem w.heap.size [] w Z [.own t6 3 ao ap rsizes, .row c (e27Mr u0 ao1 cap2) 27] aX an := ar
  refine nl (qnI (am _ _ (au.cst d [1]) ?_))
  refine eS rfl ?_; intro aY av
  obtain ⟨aZ, P, aw, a1⟩ := au.freeze 0 rfl
  replace d := d.mono P
  have Q : Mem w.heap.size [] w Z [.row c (e27Mr u0 ao1 cap2) 27] aZ an := aw
  refine fc aq Q (scontains_fun rsizes (u0.Data.length : Int) ao ap _ _ a1 Q.fz) ?_; intro bG bH ax l
  refine nl (qnI (av _ _ (l.cst d [0]) ?_))
  refine cS ax 1 [] [] [(65, .bool (!(scontainsS rsizes (u0.Data.length : Int))))] ?_; intro bI m
  refine nS (ak _ _ ?_)
  refine t_ (c_ m B (fun _ a2 => ?_) fun _ a4 => ?_)
  ·
   refine sqB m l [] [] [(2, i6 4)] ?_; intro bJ a3
   exact r_ (h_ (ra1 a3 (i6 4) ⟨4, rfl, a2, l.below⟩))
  refine k_ (sqB m l [] [] [(2, i6 0)] ?_); intro bK a5
  exact r_ (ra1 a5 (i6 0) ⟨0, rfl, a4, l.below⟩)
 refine k_ (s_ (sqB g a [0, 0] [] [(14, .bool ((decide (u0.ID < 0)) || (decide (u0.ID > 2047))))] ?_)); intro bL n
 refine c_ n C (fun _ a6 => ?_) fun _ D => ?_
 ·
  refine sqB n a [] [] [(2, i6 3)] ?_; intro bM a8
  exact r_ (h_ (ra1 a8 (i6 3) ⟨3, rfl, a6, a.below⟩))
 refine k_ (s_ (sqB n a [0, 0, 0] [] [(26, .bool (u0.Remote && (u0.Fast || ((u0.Data.length : Int) != 0))))] ?_)); intro bN o
 refine c_ o D (fun _ a9 => ?_) fun _ E => ?_
 ·
  refine sqB o a [] [] [(2, i6 4)] ?_; intro bO ba
  exact r_ (h_ (ra1 ba (i6 4) ⟨4, rfl, a9, a.below⟩))
 refine k_ (s_ (sqB o a [0, 0, 0, 0] [] [(44, .bool (((decide (u0.Size < 0)) || (decide (u0.Size > 8))) || ((decide (u0.Size > 0)) && (!u0.Remote))))] ?_)); intro bP p
 refine c_ p E (fun _ bb => ?_) fun _ F => ?_
 ·
  refine sqB p a [] [] [(2, i6 3)] ?_; intro bQ bc
  exact r_ (h_ (ra1 bc (i6 3) ⟨3, rfl, bb, a.below⟩))
 refine k_ (s_ (sqB p a [0, 0, 0] [] [(59, .bool ((decide ((u0.Data.length : Int) > 64)) || ((decide ((u0.Data.length : Int) > 8)) && (!u0.Fast))))] ?_)); intro bd q
 refine c_ q F (fun _ be => ?_) fun _ G => ?_
 ·
  refine sqB q a [] [] [(2, i6 2)] ?_; intro bR bf
  exact r_ (h_ (ra1 bf (i6 2) ⟨2, rfl, be, a.below⟩))
 refine k_ (s_ ?_)
 have ay : Fr 66 [] [⟨1, [], pt c 0⟩] bd := q.reg
 refine wp_seq (rgS mixed a [(1, true), (2, true), (3, true), (0, false), (4, false), (5, true)] [] [0] [.row c (e27Mr u0 ao1 cap2) 27] ?_)
 intro bg az bS W
 have f := Fz.le.refl Z
 refine cS ay 3 [0] [] [(63, i6 (u0.Data.length : Int))] ?_; intro bT aA
 refine eS rfl ?_; intro bh aB
 refine ck aA 30 #[] ?_
 refine (rsizes_fun  _ _ W.fz).mono ?_; rintro _ aC ⟨aD, aE, bi, rfl, hm⟩; refine ⟨_, rfl, ?_⟩; intro bU aF; have aG := W.callZ hm; have X := hm.ext.le
 replace f := f.mono X
 have aH : Mem w.heap.size [] w Z [.own t6 3 aD aE rsizes, .row c (e27Mr u0 ao1 cap2) 27] bi aC := aG
 refine nl (qnI (aB _ _ (aH.cst f [1]) ?_))
 refine eS rfl ?_; intro bj aI
 obtain ⟨bk, Y, aJ, bl⟩ := aH.freeze 0 rfl
 replace f := f.mono Y
 have aa : Mem w.heap.size [] w Z [.row c (e27Mr u0 ao1 cap2) 27] bk aC := aJ
 refine fc aF aa (scontains_fun rsizes (u0.Data.length : Int) aD aE _ _ bl aa.fz) ?_; intro bV bW aK s
 refine nl (qnI (aI _ _ (s.cst f [0]) ?_))
 refine cS aK 1 [] [] [(65, .bool (!(scontainsS rsizes (u0.Data.length : Int))))] ?_; intro bX u
 refine nS (az _ _ ?_)
 refine t_ (c_ u G (fun _ bm => ?_) fun _ bo => ?_)
 ·
  refine sqB u s [] [] [(2, i6 4)] ?_; intro bY bn
  exact r_ (h_ (ra1 bn (i6 4) ⟨4, rfl, bm, s.below⟩))
 refine k_ (sqB u s [] [] [(2, i6 0)] ?_); intro bZ bp
 exact r_ (ra1 bp (i6 0) ⟨0, rfl, bo, s.below⟩)
theorem rthere_walk (u0 : Message) (u1 : Signal) (u2 : List Int) (ao1 : Option Addr) (cap2 : Nat) (ao4 : Option Addr) (cap5 : Nat) (Z : Fz) (w : World) (hs3 : SlR tySignal Z ao1 cap2 u0.Signals) (hs6 : SlR t8 Z ao4 cap5 u2) (hZ : Z.on w) {K : Bool → Prop} (hp : rthere_vc u0 u1 u2 K) : Calls Tryz.prog 20 #[.agg #[i6 u0.ID, .bool u0.Long, str u0.Name, i6 u0.Size, i6 u0.Chooser, .slice ao1 u0.Signals.length cap2], .agg #[str u1.Name, i6 u1.Start, i6 u1.Size, .bool u1.Back, .bool u1.Signed, i6 u1.Mul, i6 u1.Div, i6 u1.Add, i6 u1.Key], .slice ao4 u2.length cap5] w fun e w' => ∃ r : Bool, e = .returned (.bool r) ∧ K r ∧ Below w.heap.size w w' := by
 refine enter0 Tryz.func20 rfl rfl (by kernel_rfl) ?_; intro a0 F; have G := Mem.start w Z hZ
 have j := hp (hs3.small) (hs6.small)
 refine sqH ?_; intro aq I
 refine nw F G pb (e24Mr u0 ao1 cap2) 24 ?_; intro h aK aL J L
 refine nw J L pb (e46Mr u1) 46 ?_; intro f aM aN M l
 refine s1 M 6 (.bool false) ?_; intro A N
 apply I
 have n : Fr 23 [] [⟨2, [], .slice ao4 u2.length cap5⟩, ⟨3, [], pt h 0⟩, ⟨4, [], pt f 0⟩] A := N.reg
 refine e_ j (fun i ar => ?_) fun i ax => ?_
 ·
  have O : Fr 23 [] [⟨2, [], .slice ao4 u2.length cap5⟩, ⟨3, [], pt h 0⟩, ⟨4, [], pt f 0⟩] A := n.reg
  refine sqQH mixed (by kernel_rfl) l ?_; intro au P
  refine q1 O 7 (pt f 8) ?_; intro aO B
  refine ql_ B 0 8 (i6 u1.Key) rfl rfl ?_; intro aP Q
  refine q1 Q 9 (.bool (u1.Key == (-1))) ?_; intro aQ R
  have S := R.reval (d := 9) (c := []) (v := .bool (u1.Key == (-1))) (by kernel_rfl) (.bool true) (by rw [i])
  refine q1 S 10 (.bool true) ?_; intro aR U
  refine qk_ U true ?_; intro aS V
  refine qk_ V true ?_; intro aT W
  refine qk_ W true ?_; intro aU X
  refine qk_ X true ?_; intro aV Y
  refine qk_ Y true ?_; intro aW aa
  refine qk_ aa true ?_; intro aX ab
  refine qk_ ab true ?_; intro aY ac
  refine qk_ ac true ?_; intro aZ ad
  refine qk_ ad true ?_; intro a1 ae
  refine qk_ ae true ?_; intro a2 af
  refine qk_ af true ?_; intro a3 ag
  refine q1 ag 22 (.bool true) ?_; intro a4 ah
  refine q1 ah 6 (.bool true) ?_; intro a5 av
  refine qnl (P _ ?_); intro a6 aw
  exact r_ (ra1 av (.bool true) ⟨true, rfl, ar, aw.below⟩)
 have ai : Fr 23 [] [⟨2, [], .slice ao4 u2.length cap5⟩, ⟨3, [], pt h 0⟩, ⟨4, [], pt f 0⟩] A := n.reg
 refine sqQH mixed (by kernel_rfl) l ?_; intro ay aj
 refine q1 ai 7 (pt f 8) ?_; intro a7 C
 refine ql_ C 0 8 (i6 u1.Key) rfl rfl ?_; intro a8 ak
 refine q1 ak 9 (.bool (u1.Key == (-1))) ?_; intro a9 al
 have am := al.reval (d := 9) (c := []) (v := .bool (u1.Key == (-1))) (by kernel_rfl) (.bool false) (by rw [i])
 refine q1 am 10 (.bool false) ?_; intro ba o
 refine qg_ o false (pt h 5) ?_; intro bb p
 refine qst p (.slice ao1 u0.Signals.length cap2) (wK p false) rfl (by kernel_rfl) (fun v89 hC => ld p hC 1 (g := []) (b := h) (off := 5) (cs := (e24Mr u0 ao1 cap2)) (ty := 24) rfl (by kernel_rfl) (by kernel_rfl) (by kernel_rfl) (by kernel_rfl) rfl) ?_; intro bc q
 refine qg_ q false (pt h 4) ?_; intro bd s
 refine qst s (i6 u0.Chooser) (wK s false) rfl (by kernel_rfl) (fun v95 hC => ld s hC 1 (g := []) (b := h) (off := 4) (cs := (e24Mr u0 ao1 cap2)) (ty := 24) rfl (by kernel_rfl) (by kernel_rfl) (by kernel_rfl) (by kernel_rfl) rfl) ?_; intro be D
 obtain ⟨az, an⟩ := ax
 refine qix D (T := tySignal) (xs := u0.Signals) hs3 u0.Chooser az (k := .i64) (e := 46) (bytes := 72) (wK D false) rfl (by kernel_rfl) rfl (by kernel_rfl) (by kernel_rfl) (by kernel_rfl) ?_; intro bf bg aA a bh aB aC aD t
 have aE := an a aB
 obtain rfl : aA = ((e46Mr a) : List Value) := aD
 refine qst t (.agg (e46Mr a).toArray) (wK t false) rfl (by kernel_rfl) (fun v111 hC => lza t hC.fz aC 0 (g := []) (m := 9) (vs := (e46Mr a)) rfl (by kernel_rfl) (by kernel_rfl) (by kernel_rfl) (by kernel_rfl) rfl) ?_; intro bi u
 refine qg_ u false (.slice ao4 u2.length cap5) ?_; intro bj E
 obtain ⟨aF, aG⟩ := aE
 refine qcl E (i6 (getS a u2)) 34 #[.agg (e46Mr a).toArray, .slice ao4 u2.length cap5] (wK E false) rfl (by kernel_rfl) (fun _ => by kernel_rfl) (qfc fun w hC => rrawof_fun a u2 aF ao4 cap5 _ _ hs6 hC.fz) ?_; intro bk x
 refine qg_ x false (pt f 8) ?_; intro bl y
 refine qst y (i6 u1.Key) (wK y false) rfl (by kernel_rfl) (fun v125 hC => ld y hC 0 (g := []) (b := f) (off := 8) (cs := (e46Mr u1)) (ty := 46) rfl (by kernel_rfl) (by kernel_rfl) (by kernel_rfl) (by kernel_rfl) rfl) ?_; intro bm z
 refine qg_ z false (.bool ((getS a u2) == u1.Key)) ?_; intro bn ao
 refine q1 ao 22 (.bool ((getS a u2) == u1.Key)) ?_; intro bo ap
 refine q1 ap 6 (.bool ((getS a u2) == u1.Key)) ?_; intro bp aH
 refine qnl (aj _ ?_); intro bq aI
 exact r_ (ra1 aH (.bool ((getS a u2) == u1.Key)) ⟨(getS a u2) == u1.Key, rfl, aG, aI.below⟩)
end Go.Proofs.YtdndfbamhnchfaaGreatDoor
set_option linter.unusedVariables false
set_option linter.unusedSimpArgs false
set_option linter.defProp false
set_option maxRecDepth 100000
set_option maxHeartbeats 0
namespace Go.Proofs.YtdndfbamhnchfaaGreatDoor
open Go.Sy Go.RowKit
abbrev e46Ms (X : Signal) : List Value := [str X.Name, i6 X.Start, i6 X.Size, .bool X.Back, .bool X.Signed, i6 X.Mul, i6 X.Div, i6 X.Add, i6 X.Key]
abbrev e24Ms (X : Message) (A0 : Option Addr) (C0 : Nat) : List Value := [i6 X.ID, .bool X.Long, str X.Name, i6 X.Size, i6 X.Chooser, .slice A0 X.Signals.length C0]
def rcheck_fun (u0 : Signal) (u1 : Int)  (Z : Fz) (w : World)  (hZ : Z.on w) := f_ (rcheck_walk u0 u1  Z w  hZ (rcheck_ok u0 u1))
def rover_fun (u0 : Signal) (u1 : Signal) (hpre : ((0 ≤ u0.Start ∧ u0.Start ≤ 512) ∧ 1 ≤ u0.Size ∧ u0.Size ≤ 40) ∧ (0 ≤ u1.Start ∧ u1.Start ≤ 512) ∧ 1 ≤ u1.Size ∧ u1.Size ≤ 40)  (Z : Fz) (w : World)  (hZ : Z.on w) := f_ (rover_walk u0 u1  Z w  hZ (rover_ok u0 u1 hpre))
def rcheckfr_fun (u0 : Frame) (ao1 : Option Addr) (cap2 : Nat) (Z : Fz) (w : World) (hs3 : SlR t8 Z ao1 cap2 u0.Data) (hZ : Z.on w) := f_ (rcheckfr_walk u0 ao1 cap2 Z w hs3 hZ (rcheckfr_ok u0))
def rthere_fun (u0 : Message) (u1 : Signal) (u2 : List Int) (hpre : -1 ≤ u1.Key ∧ therepre u0 u1 u2) (ao1 : Option Addr) (cap2 : Nat) (ao4 : Option Addr) (cap5 : Nat) (Z : Fz) (w : World) (hs3 : SlR tySignal Z ao1 cap2 u0.Signals) (hs6 : SlR t8 Z ao4 cap5 u2) (hZ : Z.on w) := f_ (rthere_walk u0 u1 u2 ao1 cap2 ao4 cap5 Z w hs3 hs6 hZ (rthere_ok u0 u1 u2 hpre))
theorem rcheckm_walk (u0 : Message) (ao1 : Option Addr) (cap2 : Nat) (Z : Fz) (w : World) (hs3 : SlR tySignal Z ao1 cap2 u0.Signals) (hZ : Z.on w) {K : Int → Prop} (hp : rcheckm_vc u0 K) : Calls Tryz.prog 7 #[.agg #[i6 u0.ID, .bool u0.Long, str u0.Name, i6 u0.Size, i6 u0.Chooser, .slice ao1 u0.Signals.length cap2]] w fun e w' => ∃ r : Int, e = .returned (i6 r) ∧ K r ∧ Below w.heap.size w w' := by
 refine enter0 Tryz.func7 rfl rfl (by kernel_rfl) ?_; intro a0 aZ; have a2 := Mem.start w Z hZ
 have Y := hp (hs3.small)
 refine sqH ?_; intro cK a3
 refine nw aZ a2 pb (e24Ms u0 ao1 cap2) 24 ?_; intro l a7 eS a4 aa
 refine s1 a4 2 (i6 0) ?_; intro eT a5
 apply a3
 refine s_ (sqH ?_); intro cL a6
 refine bt a5 aa 2 [0] [] [(14, str u0.Name)] ?_; intro eU a8
 refine fc a8 aa (risname_fun u0.Name _ _ aa.fz) ?_; intro eV eW a9 B
 refine s1 a9 16 (.bool (!(nameS u0.Name))) ?_; intro eX F
 apply a6
 refine cd F (t := !(nameS u0.Name)) (by kernel_rfl) (fun az => ?_) (fun az => ?_)
 · -- yes
  have cM := Y.1 az
  refine sqB F B [] [] [(2, i6 1)] ?_; intro eY cN
  exact r_ (h_ (ra1 cN (i6 1) ⟨1, rfl, cM, B.below⟩))
 · -- no
  have ab := Y.2 az
  refine k_ (s_ (sqH ?_)); intro cO ba
  refine bt F B 5 [0, 0] [] [(21, .agg #[i6 u0.ID, .bool u0.Long, .bool false, .bool false, i6 0, .slice none 0 0])] ?_; intro eZ bb
  refine fc bb B (rcheckfr_fun (⟨u0.ID, u0.Long, false, false, 0, []⟩ : Frame) none 0 _ _ (SlR.nil _ _) B.fz) ?_; intro e0 e1 bc o
  refine s1 bc 3 (i6 (fcheckfr (⟨u0.ID, u0.Long, false, false, 0, []⟩ : Frame))) ?_; intro e2 bd
  apply ba
  refine sqB bd o [] [] [(24, .bool ((fcheckfr (⟨u0.ID, u0.Long, false, false, 0, []⟩ : Frame)) != 0))] ?_; intro e3 G
  refine cd G (t := (fcheckfr (⟨u0.ID, u0.Long, false, false, 0, []⟩ : Frame)) != 0) (by kernel_rfl) (fun aA => ?_) (fun aA => ?_)
  · -- yes
   have cP := ab.1 aA
   refine sqB G o [] [] [(2, i6 (fcheckfr (⟨u0.ID, u0.Long, false, false, 0, []⟩ : Frame)))] ?_; intro e4 cQ
   exact r_ (h_ (ra1 cQ (i6 (fcheckfr (⟨u0.ID, u0.Long, false, false, 0, []⟩ : Frame))) ⟨(fcheckfr (⟨u0.ID, u0.Long, false, false, 0, []⟩ : Frame)), rfl, cP, o.below⟩))
  · -- no
   have ac := ab.2 aA
   refine k_ (s_ (sqB G o [0, 0] [] [(33, .bool ((decide (u0.Size < 0)) || (decide (u0.Size > 8))))] ?_)); intro e5 H
   refine cd H (t := (decide (u0.Size < 0)) || (decide (u0.Size > 8))) (by kernel_rfl) (fun aB => ?_) (fun aB => ?_)
   · -- yes
    have cR := ac.1 aB
    refine sqB H o [] [] [(2, i6 3)] ?_; intro e6 cS
    exact r_ (h_ (ra1 cS (i6 3) ⟨3, rfl, cR, o.below⟩))
   · -- no
    have ad := ac.2 aB
    refine k_ (s_ (sqB H o [0] [] [(37, .bool (decide ((u0.Signals.length : Int) > 16)))] ?_)); intro e7 I
    refine cd I (t := decide ((u0.Signals.length : Int) > 16)) (by kernel_rfl) (fun aC => ?_) (fun aC => ?_)
    · -- yes
     have cT := ad.1 aC
     refine sqB I o [] [] [(2, i6 2)] ?_; intro e8 cU
     exact r_ (h_ (ra1 cU (i6 2) ⟨2, rfl, cT, o.below⟩))
    · -- no
     have cV := ad.2 aC
     refine k_ (s_ (sqB I o [0] [] [(39, .slice ao1 u0.Signals.length cap2), (40, i6 (u0.Signals.length : Int)), (41, i6 0)] ?_)); intro be bf
     apply b_
     have bg : Fr 138 [] [⟨1, [], pt l 0⟩, ⟨39, [], .slice ao1 u0.Signals.length cap2⟩, ⟨40, [], i6 (u0.Signals.length : Int)⟩, ⟨41, [], i6 0⟩] be := bf.reg
     obtain ⟨cW, cX, cY, cZ⟩ := cV
     refine lp (ι := Int) (fun s => [⟨1, [], pt l 0⟩, ⟨39, [], .slice ao1 u0.Signals.length cap2⟩, ⟨40, [], i6 (u0.Signals.length : Int)⟩, ⟨41, [], i6 s⟩]) (fun s => [.row l (e24Ms u0 ao1 cap2) 24]) (fun s => Z) (fun s => cW s) (fun s => cX s) 0 cY (by exact bg.region (by kernel_rfl) (by kernel_rfl)) (by exact o) ?_
     rintro h c0 c1 c2 bi bj
     have ae := cZ h c0
     refine sqB bi bj [] [] [(42, .bool (decide (h < (u0.Signals.length : Int))))] ?_; intro bl J
     apply s_
     refine cd J (t := decide (h < (u0.Signals.length : Int))) (by kernel_rfl) (fun aD => ?_) (fun aD => ?_)
     · -- yes
      have c3 := ae.1 aD
      apply k_
      have bm : Fr 138 [] [⟨1, [], pt l 0⟩, ⟨39, [], .slice ao1 u0.Signals.length cap2⟩, ⟨40, [], i6 (u0.Signals.length : Int)⟩, ⟨41, [], i6 h⟩] bl := J.reg
      obtain ⟨c4, c5, c6⟩ := c3
      refine wp_seq_k fun KJ132 hKJ133 => ?_
      have c7 : ∀ (_u : Unit), c4 → ∀ a1 w1, Fr 138 [] [⟨1, [], pt l 0⟩, ⟨39, [], .slice ao1 u0.Signals.length cap2⟩, ⟨40, [], i6 (u0.Signals.length : Int)⟩, ⟨41, [], i6 h⟩] a1 → Mem w.heap.size [] w Z [.row l (e24Ms u0 ao1 cap2) 24] Z w1 → KJ132 a1 w1 := by
       rintro _u c8 e9 fa bn bo
       refine hKJ133 _ _ ?_
       have bp := c6  c8
       refine rgB bn bo [] [] [(41, i6 (w64 (h + 1)))] ?_; intro fb c9
       exact d_ ⟨w64 (h + 1), bp.1, bp.2, (c9.region (by kernel_rfl) (by kernel_rfl)).anyβ _ (by kernel_rfl), bo.kp⟩
      refine b_ (sqH ?_); intro da bq
      refine s1 bm 43 (i6 h) ?_; intro fd br
      obtain ⟨db, bs⟩ := c5
      refine ix_ br hs3 h db .i64 46 72 ?_; intro fe ff dc a fg dd de df bu
      have af := bs a dd
      obtain rfl : dc = ((e46Ms a) : List Value) := df
      refine z2 bu bj 45 de 0 9 (e46Ms a) rfl ?_; intro fh bv
      refine nw bv bj pb [str [], i6 0, i6 0, .bool false, .bool false, i6 0, i6 0, i6 0, i6 0] 46 ?_; intro p fi fj bw bx
      refine s1 bw 4 (i6 h) ?_; intro fk aF
      refine sx aF bx 0 (e46Ms a) 0 ?_; intro dg bz
      have ag : Mem w.heap.size [] w Z [.row p (e46Ms a) 46, .row l (e24Ms u0 ao1 cap2) 24] Z dg := bz
      apply bq
      refine s_ (sqH ?_); intro dh bA
      refine bt aF ag 3 [0, 1] [] [(46, .agg (e46Ms a).toArray), (48, i6 u0.Size)] ?_; intro fl bB
      refine fc bB ag (rcheck_fun a u0.Size _ _ ag.fz) ?_; intro fm fn bC y
      refine s1 bC 6 (i6 (checkS a u0.Size)) ?_; intro fo bD
      apply bA
      refine sqB bD y [] [] [(51, .bool ((checkS a u0.Size) != 0))] ?_; intro fp L
      refine cd L (t := (checkS a u0.Size) != 0) (by kernel_rfl) (fun aG => ?_) (fun aG => ?_)
      · -- yes
       have di := af.1 aG
       refine sqB L y [] [] [(2, i6 (checkS a u0.Size))] ?_; intro fq dj
       exact r_ (h_ (i_ (h_ (h_ (i_ (h_ (ra1 dj (i6 (checkS a u0.Size)) ⟨(checkS a u0.Size), rfl, di, y.below⟩)))))))
      · -- no
       have dk := af.2 aG
       refine k_ (sqH ?_); intro dl bE
       refine bt L y 3 [1] [] [(54, .slice ao1 u0.Signals.length cap2), (55, i6 h)] ?_; intro fr bF
       obtain ⟨dm, dn⟩ := dk
       refine slH bF (T := tySignal) (xs := u0.Signals) hs3 h dm (k' := .i64) (e := 46) (bytes := 72) (nog rfl _) rfl (by kernel_rfl) rfl (by kernel_rfl) (by kernel_rfl) (by kernel_rfl) ?_; intro z A fs ft dp bG
       refine bt bG y 2 [] [] [(57, i6 ((u0.Signals.take h.toNat).length : Int)), (58, i6 0)] ?_; intro bH bI
       apply bE
       apply b_
       have bJ : Fr 138 [] [⟨1, [], pt l 0⟩, ⟨5, [], pt p 0⟩, ⟨39, [], .slice ao1 u0.Signals.length cap2⟩, ⟨40, [], i6 (u0.Signals.length : Int)⟩, ⟨41, [], i6 h⟩, ⟨56, [], .slice z (u0.Signals.take h.toNat).length A⟩, ⟨57, [], i6 ((u0.Signals.take h.toNat).length : Int)⟩, ⟨58, [], i6 0⟩] bH := bI.reg
       obtain ⟨dq, dr, ds, dt⟩ := dn
       refine lp (ι := Int) (fun s => [⟨1, [], pt l 0⟩, ⟨5, [], pt p 0⟩, ⟨39, [], .slice ao1 u0.Signals.length cap2⟩, ⟨40, [], i6 (u0.Signals.length : Int)⟩, ⟨41, [], i6 h⟩, ⟨56, [], .slice z (u0.Signals.take h.toNat).length A⟩, ⟨57, [], i6 ((u0.Signals.take h.toNat).length : Int)⟩, ⟨58, [], i6 s⟩]) (fun s => [.row p (e46Ms a) 46, .row l (e24Ms u0 ao1 cap2) 24]) (fun s => Z) (fun s => dq s) (fun s => dr s) 0 ds (by exact bJ.region (by kernel_rfl) (by kernel_rfl)) (by exact y) ?_
       rintro q du dv dw bL bM
       have ah := dt q du
       refine sqB bL bM [] [] [(59, .bool (decide (q < ((u0.Signals.take h.toNat).length : Int))))] ?_; intro bO ai
       apply s_
       refine cd ai (t := decide (q < ((u0.Signals.take h.toNat).length : Int))) (by kernel_rfl) (fun aH => ?_) (fun aH => ?_)
       · -- yes
        have dx := ah.1 aH
        apply k_
        have bP : Fr 138 [] [⟨1, [], pt l 0⟩, ⟨5, [], pt p 0⟩, ⟨39, [], .slice ao1 u0.Signals.length cap2⟩, ⟨40, [], i6 (u0.Signals.length : Int)⟩, ⟨41, [], i6 h⟩, ⟨56, [], .slice z (u0.Signals.take h.toNat).length A⟩, ⟨57, [], i6 ((u0.Signals.take h.toNat).length : Int)⟩, ⟨58, [], i6 q⟩] bO := ai.reg
        obtain ⟨dy, dz, dA⟩ := dx
        refine wp_seq_k fun KJ242 hKJ243 => ?_
        have bQ : ∀ (_u : Unit), dy → ∀ a1 w1, Fr 138 [] [⟨1, [], pt l 0⟩, ⟨5, [], pt p 0⟩, ⟨39, [], .slice ao1 u0.Signals.length cap2⟩, ⟨40, [], i6 (u0.Signals.length : Int)⟩, ⟨41, [], i6 h⟩, ⟨56, [], .slice z (u0.Signals.take h.toNat).length A⟩, ⟨57, [], i6 ((u0.Signals.take h.toNat).length : Int)⟩, ⟨58, [], i6 q⟩] a1 → Mem w.heap.size [] w Z [.row p (e46Ms a) 46, .row l (e24Ms u0 ao1 cap2) 24] Z w1 → KJ242 a1 w1 := by
         rintro _u dB fu fv bR bS
         refine hKJ243 _ _ ?_
         have bT := dA  dB
         refine rgB bR bS [] [] [(58, i6 (w64 (q + 1)))] ?_; intro fw dC
         exact d_ ⟨w64 (q + 1), bT.1, bT.2, (dC.region (by kernel_rfl) (by kernel_rfl)).anyβ _ (by kernel_rfl), bS.kp⟩
        refine b_ (sqH ?_); intro dD bU
        obtain ⟨dE, bV⟩ := dz
        refine ix_ bP dp q dE .i64 46 72 ?_; intro fx fy dF f fA dG dH dI bW
        have aj := bV f dG
        obtain rfl : dF = ((e46Ms f) : List Value) := dI
        refine z2 bW bM 61 dH 0 9 (e46Ms f) rfl ?_; intro fB bX
        refine nw bX bM pb [str [], i6 0, i6 0, .bool false, .bool false, i6 0, i6 0, i6 0, i6 0] 46 ?_; intro dJ fC fD aJ bY
        refine sx aJ bY 0 (e46Ms f) 0 ?_; intro dK bZ
        have u : Mem w.heap.size [] w Z [.row dJ (e46Ms f) 46, .row p (e46Ms a) 46, .row l (e24Ms u0 ao1 cap2) 24] Z dK := bZ
        apply bU
        refine s_ (sqB aJ u [1, 0] [204] [(66, .bool (a.Name == f.Name))] ?_); intro fE M
        refine cd M (t := a.Name == f.Name) (by kernel_rfl) (fun aK => ?_) (fun aK => ?_)
        · -- yes
         have dL := aj.1 aK
         refine sqB M u [] [] [(2, i6 9)] ?_; intro fF dM
         exact r_ (h_ (i_ (h_ (h_ (i_ (i_ (h_ (h_ (i_ (h_ (ra1 dM (i6 9) ⟨9, rfl, dL, u.below⟩)))))))))))
        · -- no
         have ak := aj.2 aK
         refine k_ (sqH ?_); intro b0 al
         refine bt M u 17 [1, 0, 1, 0] [] [(83, .bool (!(((decide (a.Key ≥ 0)) && (decide (f.Key ≥ 0))) && (a.Key != f.Key))))] ?_; intro fG am
         rcases Bool.eq_false_or_eq_true (!(((decide (a.Key ≥ 0)) && (decide (f.Key ≥ 0))) && (a.Key != f.Key))) with N | N
         · -- true
          have dN := ak.1 N
          have b1 := am.reval (d := 83) (c := []) (v := .bool (!(((decide (a.Key ≥ 0)) && (decide (f.Key ≥ 0))) && (a.Key != f.Key)))) (by kernel_rfl) (.bool true) (by rw [N])
          refine bt b1 u 2 [1, 0] [84, 85] [(84, .agg (e46Ms a).toArray), (85, .agg (e46Ms f).toArray)] ?_; intro fH aL
          obtain ⟨dO, an⟩ := dN
          refine fcl aL u (.bool (roverS a f)) 28 #[.agg (e46Ms a).toArray, .agg (e46Ms f).toArray] (wK aL true) rfl (by kernel_rfl) (fun _ => by kernel_rfl) (rover_fun a f dO _ _ u.fz) ?_; intro fI fJ b2 aM
          refine s1 b2 87 (.bool (roverS a f)) ?_; intro fK ao
          apply al
          refine cd ao (t := (roverS a f)) (by kernel_rfl) (fun aN => ?_) (fun aN => ?_)
          · -- yes
           have dP := an.1 aN
           refine sqB ao aM [] [] [(2, i6 10)] ?_; intro fL dQ
           exact r_ (i_ (h_ (h_ (i_ (i_ (h_ (h_ (i_ (h_ (ra1 dQ (i6 10) ⟨10, rfl, dP, aM.below⟩))))))))))
          · -- no
           have dR := an.2 aN
           exact l_ (j_ (d_ (bQ () dR _ _ ((ao.region (by kernel_rfl) (by kernel_rfl)).anyβ _ (by kernel_rfl)) (aM.kp))))
         · -- false
          have dS := ak.2 N
          have b3 := am.reval (d := 83) (c := []) (v := .bool (!(((decide (a.Key ≥ 0)) && (decide (f.Key ≥ 0))) && (a.Key != f.Key)))) (by kernel_rfl) (.bool false) (by rw [N])
          refine bt b3 u 4 [] [84, 85, 86, 87] [(87, .bool false)] ?_; intro fM b4
          apply al
          refine cdF b4 (by kernel_rfl) ?_
          exact l_ (j_ (d_ (bQ () dS _ _ ((b4.region (by kernel_rfl) (by kernel_rfl)).anyβ _ (by kernel_rfl)) (u.kp))))
       · -- no
        have dT := ah.2 aH
        exact x_ (y_ (y_ (z_ (j_ (d_ (c7 () dT _ _ ((ai.region (by kernel_rfl) (by kernel_rfl)).anyβ _ (by kernel_rfl)) (bM.kp)))))))
     · -- no
      have ap := ae.2 aD
      refine x_ (y_ (y_ (z_ (t_ (s_ (sqB J bj [0, 0, 0] [] [(100, .bool ((decide (u0.Chooser < (-1))) || (decide (u0.Chooser ≥ (u0.Signals.length : Int)))))] ?_)))))); intro fN O
      refine cd O (t := (decide (u0.Chooser < (-1))) || (decide (u0.Chooser ≥ (u0.Signals.length : Int)))) (by kernel_rfl) (fun aO => ?_) (fun aO => ?_)
      · -- yes
       have dU := ap.1 aO
       refine sqB O bj [] [] [(2, i6 8)] ?_; intro fO dV
       exact r_ (h_ (ra1 dV (i6 8) ⟨8, rfl, dU, bj.below⟩))
      · -- no
       have aq := ap.2 aO
       refine k_ (sqB O bj [] [] [(9, i6 (-1))] ?_); intro fP b5
       refine s_ (sqB b5 bj [0] [] [(103, .bool (decide (u0.Chooser ≥ 0)))] ?_); intro fQ P
       refine cd P (t := decide (u0.Chooser ≥ 0)) (by kernel_rfl) (fun aP => ?_) (fun aP => ?_)
       · -- yes
        have dW := aq.1 aP
        refine sqH ?_; intro dX b7
        refine bt P bj 4 [0, 0] [] [(105, .slice ao1 u0.Signals.length cap2), (107, i6 u0.Chooser)] ?_; intro fR b8
        obtain ⟨dY, b9⟩ := dW
        refine ix_ b8 hs3 u0.Chooser dY .i64 46 72 ?_; intro fS fT dZ b fU d0 d1 d2 ca
        have ar := b9 b d0
        obtain rfl : dZ = ((e46Ms b) : List Value) := d2
        refine z2 ca bj 109 d1 0 9 (e46Ms b) rfl ?_; intro fV cb
        refine nw cb bj pb [str [], i6 0, i6 0, .bool false, .bool false, i6 0, i6 0, i6 0, i6 0] 46 ?_; intro au fW fX aQ cc
        refine sx aQ cc 0 (e46Ms b) 0 ?_; intro d3 ce
        have x : Mem w.heap.size [] w Z [.row au (e46Ms b) 46, .row l (e24Ms u0 ao1 cap2) 24] Z d3 := ce
        apply b7
        refine s_ (sqB aQ x [0, 0, 0] [] [(121, .bool ((b.Signed || (b.Key != (-1))) || (decide (b.Size > 8))))] ?_); intro fY Q
        refine cd Q (t := (b.Signed || (b.Key != (-1))) || (decide (b.Size > 8))) (by kernel_rfl) (fun aR => ?_) (fun aR => ?_)
        · -- yes
         have d4 := ar.1 aR
         refine sqB Q x [] [] [(2, i6 4)] ?_; intro fZ d5
         exact r_ (h_ (h_ (ra1 d5 (i6 4) ⟨4, rfl, d4, x.below⟩)))
        · -- no
         have d6 := ar.2 aR
         refine k_ (rgH ?_); intro d7 cf
         refine bt Q x 2 [0] [] [(123, i6 b.Size)] ?_; intro f0 aS
         obtain ⟨d8, d9⟩ := d6
         refine u_ aS (i6 (bShl .i64 1 b.Size)) (shl_run aS (g := []) (k' := .i64) rfl (by kernel_rfl) (by kernel_rfl) d8 rfl) ?_; intro f1 cg
         refine bt cg x 2 [] [] [(9, i6 (w64 ((bShl .i64 1 b.Size) - 1)))] ?_; intro f2 ch
         apply cf
         refine t_ (s_ (sqB ch x [1] [] [(127, .slice ao1 u0.Signals.length cap2), (128, i6 (u0.Signals.length : Int)), (129, i6 0)] ?_)); intro ci cj
         apply b_
         have ck : Fr 138 [] [⟨9, [], i6 (w64 ((bShl .i64 1 b.Size) - 1))⟩, ⟨127, [], .slice ao1 u0.Signals.length cap2⟩, ⟨128, [], i6 (u0.Signals.length : Int)⟩, ⟨129, [], i6 0⟩] ci := cj.reg
         obtain ⟨ea, eb, ec, ed⟩ := d9
         refine lp (ι := Int) (fun s => [⟨9, [], i6 (w64 ((bShl .i64 1 b.Size) - 1))⟩, ⟨127, [], .slice ao1 u0.Signals.length cap2⟩, ⟨128, [], i6 (u0.Signals.length : Int)⟩, ⟨129, [], i6 s⟩]) (fun s => [.row au (e46Ms b) 46, .row l (e24Ms u0 ao1 cap2) 24]) (fun s => Z) (fun s => ea s) (fun s => eb s) 0 ec (by exact ck.region (by kernel_rfl) (by kernel_rfl)) (by exact x) ?_
         rintro n ee ef eg cm cn
         have av := ed n ee
         refine sqB cm cn [] [] [(130, .bool (decide (n < (u0.Signals.length : Int))))] ?_; intro f3 R
         apply s_
         refine cd R (t := decide (n < (u0.Signals.length : Int))) (by kernel_rfl) (fun aT => ?_) (fun aT => ?_)
         · -- yes
          have eh := av.1 aT
          refine k_ (s_ (b_ (sqH ?_))); intro ei cp
          obtain ⟨ej, cq⟩ := eh
          refine ix_ R hs3 n ej .i64 46 72 ?_; intro f4 f5 ek i f6 el em en cr
          have aw := cq i el
          obtain rfl : ek = ((e46Ms i) : List Value) := en
          refine z2 cr cn 132 em 0 9 (e46Ms i) rfl ?_; intro f7 cs
          refine nw cs cn pb [str [], i6 0, i6 0, .bool false, .bool false, i6 0, i6 0, i6 0, i6 0] 46 ?_; intro eo f8 f9 aU ct
          refine sx aU ct 0 (e46Ms i) 0 ?_; intro ep cu
          have S : Mem w.heap.size [] w Z [.row eo (e46Ms i) 46, .row au (e46Ms b) 46, .row l (e24Ms u0 ao1 cap2) 24] Z ep := cu
          apply cp
          refine sqB aU S [0] [] [(136, .bool (decide (i.Key > (w64 ((bShl .i64 1 b.Size) - 1)))))] ?_; intro ga U
          refine cd U (t := decide (i.Key > (w64 ((bShl .i64 1 b.Size) - 1)))) (by kernel_rfl) (fun aV => ?_) (fun aV => ?_)
          · -- yes
           have eq := aw.1 aV
           refine sqB U S [] [] [(2, i6 4)] ?_; intro gb er
           exact r_ (i_ (h_ (h_ (i_ (h_ (ra1 er (i6 4) ⟨4, rfl, eq, S.below⟩))))))
          · -- no
           have cv := aw.2 aV
           refine l_ (j_ (t_ (rgB U S [] [] [(129, i6 (w64 (n + 1)))] ?_))); intro gc es
           exact d_ ⟨w64 (n + 1), cv.1, cv.2, (es.region (by kernel_rfl) (by kernel_rfl)).anyβ _ (by kernel_rfl), S.kp⟩
         · -- no
          have et := av.2 aT
          refine x_ (y_ (y_ (z_ (t_ (sqB R cn [] [] [(2, i6 0)] ?_))))); intro gd eu
          exact r_ (ra1 eu (i6 0) ⟨0, rfl, et, cn.below⟩)
       · -- no
        have ev := aq.2 aP
        refine k_ (s_ (sqB P bj [0] [] [(127, .slice ao1 u0.Signals.length cap2), (128, i6 (u0.Signals.length : Int)), (129, i6 0)] ?_)); intro cw cx
        apply b_
        have cy : Fr 138 [] [⟨9, [], i6 (-1)⟩, ⟨127, [], .slice ao1 u0.Signals.length cap2⟩, ⟨128, [], i6 (u0.Signals.length : Int)⟩, ⟨129, [], i6 0⟩] cw := cx.reg
        obtain ⟨ew, ex, ey, ez⟩ := ev
        refine lp (ι := Int) (fun s => [⟨9, [], i6 (-1)⟩, ⟨127, [], .slice ao1 u0.Signals.length cap2⟩, ⟨128, [], i6 (u0.Signals.length : Int)⟩, ⟨129, [], i6 s⟩]) (fun s => [.row l (e24Ms u0 ao1 cap2) 24]) (fun s => Z) (fun s => ew s) (fun s => ex s) 0 ey (by exact cy.region (by kernel_rfl) (by kernel_rfl)) (by exact bj) ?_
        rintro n eA eB eC cA cB
        have ax := ez n eA
        refine sqB cA cB [] [] [(130, .bool (decide (n < (u0.Signals.length : Int))))] ?_; intro ge V
        apply s_
        refine cd V (t := decide (n < (u0.Signals.length : Int))) (by kernel_rfl) (fun aW => ?_) (fun aW => ?_)
        · -- yes
         have eD := ax.1 aW
         refine k_ (s_ (b_ (sqH ?_))); intro eE cD
         obtain ⟨eF, cE⟩ := eD
         refine ix_ V hs3 n eF .i64 46 72 ?_; intro gf gg eG j gh eH eI eJ cF
         have ay := cE j eH
         obtain rfl : eG = ((e46Ms j) : List Value) := eJ
         refine z2 cF cB 132 eI 0 9 (e46Ms j) rfl ?_; intro gi cG
         refine nw cG cB pb [str [], i6 0, i6 0, .bool false, .bool false, i6 0, i6 0, i6 0, i6 0] 46 ?_; intro eK gj gk aX cH
         refine sx aX cH 0 (e46Ms j) 0 ?_; intro eL cI
         have W : Mem w.heap.size [] w Z [.row eK (e46Ms j) 46, .row l (e24Ms u0 ao1 cap2) 24] Z eL := cI
         apply cD
         refine sqB aX W [0] [] [(136, .bool (decide (j.Key > (-1))))] ?_; intro gl X
         refine cd X (t := decide (j.Key > (-1))) (by kernel_rfl) (fun aY => ?_) (fun aY => ?_)
         · -- yes
          have eM := ay.1 aY
          refine sqB X W [] [] [(2, i6 4)] ?_; intro gm eN
          exact r_ (i_ (h_ (h_ (i_ (h_ (ra1 eN (i6 4) ⟨4, rfl, eM, W.below⟩))))))
         · -- no
          have cJ := ay.2 aY
          refine l_ (j_ (t_ (rgB X W [] [] [(129, i6 (w64 (n + 1)))] ?_))); intro gn eO
          exact d_ ⟨w64 (n + 1), cJ.1, cJ.2, (eO.region (by kernel_rfl) (by kernel_rfl)).anyβ _ (by kernel_rfl), W.kp⟩
        · -- no
         have eP := ax.2 aW
         refine x_ (y_ (y_ (z_ (t_ (sqB V cB [] [] [(2, i6 0)] ?_))))); intro go eQ
         exact r_ (ra1 eQ (i6 0) ⟨0, rfl, eP, cB.below⟩)
end Go.Proofs.YtdndfbamhnchfaaGreatDoor
set_option linter.unusedVariables false
set_option linter.unusedSimpArgs false
set_option maxRecDepth 100000
set_option maxHeartbeats 0
namespace Go.Proofs.YtdndfbamhnchfaaGreatDoor
open Go.Sy Go.RowKit
theorem gtrim_walk (u0 : List Int) (ao1 : Option Addr) (cap2 : Nat) (Z : Fz) (w : World) (hs3 : SlR (tyInt .u32) Z ao1 cap2 u0) (hZ : Z.on w) {K : (List Int) → Prop} (hp : gtrim_vc u0 K) : Calls Tryz.prog 105 #[.slice ao1 u0.length cap2] w fun e w' => ∃ (r : (List Int)) (ao1001 : Option Addr) (cap1002 : Nat) (Z' : Fz), e = .returned (.slice ao1001 r.length cap1002) ∧ K r ∧ SlR (tyInt .u32) Z' ao1001 cap1002 r ∧ Mem w.heap.size [] w Z [] Z' w' := by
 refine enter0 Tryz.func105 rfl rfl (by kernel_rfl) ?_; intro a0 C; have j := Mem.start w Z hZ
 have aa := hp (hs3.small)
 refine sqB C j [] [] [] ?_; intro a6 D
 refine sqB D j [] [] [(3, i6 (u0.length : Int))] ?_; intro E F
 refine s_ (b_ ?_)
 have G : Fr 21 [] [⟨0, [], .slice ao1 u0.length cap2⟩, ⟨3, [], i6 (u0.length : Int)⟩] E := F.reg
 obtain ⟨ab, ac, ad, ae⟩ := aa
 refine lp (ι := Int) (fun s => [⟨0, [], .slice ao1 u0.length cap2⟩, ⟨3, [], i6 s⟩]) (fun s => []) (fun s => Z) (fun s => ab s) (fun s => ac s) (u0.length : Int) ad (by exact G.region (by kernel_rfl) (by kernel_rfl)) (by exact j) ?_
 rintro a af ag ah I J
 have l := ae a af
 refine s_ (sqH ?_); intro M m
 refine bt I J 3 [] [] [(8, .bool (decide (a > 0)))] ?_; intro aE n
 rcases Bool.eq_false_or_eq_true (decide (a > 0)) with f | f
 · -- true
  have ai := l.1 f
  have N := n.reval (d := 8) (c := []) (v := .bool (decide (a > 0))) (by kernel_rfl) (.bool true) (by rw [f])
  refine bt N J 3 [] [9, 10, 11] [(9, .slice ao1 u0.length cap2), (11, i6 (w64 (a - 1)))] ?_; intro aF q
  obtain ⟨aj, O⟩ := ai
  refine ix q (T := (tyInt .u32)) (xs := u0) hs3 (w64 (a - 1)) aj (k := .i64) (e := 105) (bytes := 4) (wK q true) rfl (by kernel_rfl) rfl (by kernel_rfl) (by kernel_rfl) (by kernel_rfl) ?_; intro aG aH ak h aI al am an o
  have p := O h al
  obtain rfl : ak = ([.int .u32 h] : List Value) := an
  refine v_ o (.int .u32 h) (wK o true) (lz o J.fz am 0 (g := []) rfl (by kernel_rfl) (by kernel_rfl) (by kernel_rfl) rfl) ?_; intro aJ P
  refine bt P J 2 [] [14, 15] [(15, .bool (h == 0))] ?_; intro aK i
  apply m
  refine cd i (t := h == 0) (by kernel_rfl) (fun u => ?_) (fun u => ?_)
  · -- yes
   have Q := p.1 u
   refine k_ (b_ (rgB i J [] [] [(3, i6 (w64 (a - 1)))] ?_)); intro aL ao
   exact j_ (d_ ⟨w64 (a - 1), Q.1, Q.2, (ao.region (by kernel_rfl) (by kernel_rfl)).anyβ _ (by kernel_rfl), J.kp⟩)
  · -- no
   have ap := p.2 u
   refine x_ (y_ (y_ (z_ (t_ (sqH ?_))))); intro aq R
   refine bt i J 2 [] [] [(18, .slice ao1 u0.length cap2), (19, i6 a)] ?_; intro aM S
   obtain ⟨ar, au⟩ := ap
   refine slH S (T := (tyInt .u32)) (xs := u0) hs3 a ar (k' := .i64) (e := 105) (bytes := 4) (nog rfl _) rfl (by kernel_rfl) rfl (by kernel_rfl) (by kernel_rfl) (by kernel_rfl) ?_; intro x y aN aO av U
   refine s1 U 2 (.slice x (u0.take a.toNat).length y) ?_; intro aP aw
   apply R
   exact r_ (ra1 aw (.slice x (u0.take a.toNat).length y) ⟨u0.take a.toNat, x, y, Z, rfl, au, av, J.kp⟩)
 · -- false
  have ax := l.2 f
  have V := n.reval (d := 8) (c := []) (v := .bool (decide (a > 0))) (by kernel_rfl) (.bool false) (by rw [f])
  refine bt V J 7 [] [9, 10, 11, 12, 13, 14, 15] [(15, .bool false)] ?_; intro aQ z
  apply m
  refine cdF z (by kernel_rfl) ?_
  refine x_ (y_ (y_ (z_ (t_ (sqH ?_))))); intro ay W
  refine bt z J 2 [] [] [(18, .slice ao1 u0.length cap2), (19, i6 a)] ?_; intro aR X
  obtain ⟨az, aA⟩ := ax
  refine slH X (T := (tyInt .u32)) (xs := u0) hs3 a az (k' := .i64) (e := 105) (bytes := 4) (nog rfl _) rfl (by kernel_rfl) rfl (by kernel_rfl) (by kernel_rfl) (by kernel_rfl) ?_; intro A B aS aT aB Y
  refine s1 Y 2 (.slice A (u0.take a.toNat).length B) ?_; intro aU aC
  apply W
  exact r_ (ra1 aC (.slice A (u0.take a.toNat).length B) ⟨u0.take a.toNat, A, B, Z, rfl, aA, aB, J.kp⟩)
theorem gplain_walk (u0 : List Int) (ao1 : Option Addr) (cap2 : Nat) (Z : Fz) (w : World) (hs3 : SlR (tyInt .u32) Z ao1 cap2 u0) (hZ : Z.on w) {K : Int → Prop} (hp : gplain_vc u0 K) : Calls Tryz.prog 129 #[.slice ao1 u0.length cap2] w fun e w' => ∃ r : Int, e = .returned (y6 r) ∧ K r ∧ Below w.heap.size w w' := by
 refine enter0 Tryz.func129 rfl rfl (by kernel_rfl) ?_; intro a0 p; have a := Mem.start w Z hZ
 have i := hp (hs3.small)
 refine sqB p a [] [] [] ?_; intro a6 q
 refine sqB q a [] [] [(3, y6 0)] ?_; intro a9 s
 refine s_ (sqB s a [] [] [(6, .bool (decide ((u0.length : Int) > 0)))] ?_); intro aw f
 refine cd f (t := decide ((u0.length : Int) > 0)) (by kernel_rfl) (fun m => ?_) (fun m => ?_)
 · -- yes
  have O := i.1 m
  refine rgH ?_; intro P u
  refine s1 f 7 (.slice ao1 u0.length cap2) ?_; intro ax v
  obtain ⟨Q, x⟩ := O
  refine ix_ v hs3 (0 : Int) Q .i64 105 4 ?_; intro ay az R b aA S U V y
  have j := x b S
  obtain rfl : R = ([.int .u32 b] : List Value) := V
  refine z1 y a 9 U 0 (.int .u32 b) rfl ?_; intro aB z
  refine bt z a 2 [] [] [(3, y6 (wu64 b))] ?_; intro aC A
  apply u
  refine t_ (s_ (sqB A a [] [] [(13, .bool (decide ((u0.length : Int) > 1)))] ?_)); intro aD g
  refine cd g (t := decide ((u0.length : Int) > 1)) (by kernel_rfl) (fun n => ?_) (fun n => ?_)
  · -- yes
   have W := j.1 n
   refine rgH ?_; intro X B
   refine bt g a 2 [] [] [(14, y6 (wu64 b)), (15, .slice ao1 u0.length cap2)] ?_; intro aE C
   obtain ⟨Y, D⟩ := W
   refine ix_ C hs3 (1 : Int) Y .i64 105 4 ?_; intro aF aG aa c aH ab ac ad E
   have ae := D c ab
   obtain rfl : aa = ([.int .u32 c] : List Value) := ad
   refine z1 E a 17 ac 0 (.int .u32 c) rfl ?_; intro aI F
   refine bt F a 4 [] [] [(3, y6 (bOr .u64 (wu64 b) (bShl .u64 (wu64 c) 32)))] ?_; intro aJ G
   apply B
   refine t_ (sqB G a [] [] [(2, y6 (bOr .u64 (wu64 b) (bShl .u64 (wu64 c) 32)))] ?_); intro aK af
   exact r_ (ra1 af (y6 (bOr .u64 (wu64 b) (bShl .u64 (wu64 c) 32))) ⟨bOr .u64 (wu64 b) (bShl .u64 (wu64 c) 32), rfl, ae, a.below⟩)
  · -- no
   have ag := j.2 n
   refine k_ (sqB g a [] [] [(2, y6 (wu64 b))] ?_); intro aL ah
   exact r_ (ra1 ah (y6 (wu64 b)) ⟨wu64 b, rfl, ag, a.below⟩)
 · -- no
  have l := i.2 m
  refine k_ (s_ (sqB f a [] [] [(13, .bool (decide ((u0.length : Int) > 1)))] ?_)); intro aM h
  refine cd h (t := decide ((u0.length : Int) > 1)) (by kernel_rfl) (fun o => ?_) (fun o => ?_)
  · -- yes
   have ai := l.1 o
   refine rgH ?_; intro aj H
   refine bt h a 2 [] [] [(14, y6 0), (15, .slice ao1 u0.length cap2)] ?_; intro aN I
   obtain ⟨ak, J⟩ := ai
   refine ix_ I hs3 (1 : Int) ak .i64 105 4 ?_; intro aO aP al d aQ am an ao L
   have ap := J d am
   obtain rfl : al = ([.int .u32 d] : List Value) := ao
   refine z1 L a 17 an 0 (.int .u32 d) rfl ?_; intro aR M
   refine bt M a 4 [] [] [(3, y6 (bOr .u64 0 (bShl .u64 (wu64 d) 32)))] ?_; intro aS N
   apply H
   refine t_ (sqB N a [] [] [(2, y6 (bOr .u64 0 (bShl .u64 (wu64 d) 32)))] ?_); intro aT aq
   exact r_ (ra1 aq (y6 (bOr .u64 0 (bShl .u64 (wu64 d) 32))) ⟨bOr .u64 0 (bShl .u64 (wu64 d) 32), rfl, ap, a.below⟩)
  · -- no
   have ar := l.2 o
   refine k_ (sqB h a [] [] [(2, y6 0)] ?_); intro aU au
   exact r_ (ra1 au (y6 0) ⟨0, rfl, ar, a.below⟩)
theorem gcmp_walk (u0 : List Int) (u1 : List Int) (ao1 : Option Addr) (cap2 : Nat) (ao4 : Option Addr) (cap5 : Nat) (Z : Fz) (w : World) (hs3 : SlR (tyInt .u32) Z ao1 cap2 u0) (hs6 : SlR (tyInt .u32) Z ao4 cap5 u1) (hZ : Z.on w) {K : Int → Prop} (hp : gcmp_vc u0 u1 K) : Calls Tryz.prog 84 #[.slice ao1 u0.length cap2, .slice ao4 u1.length cap5] w fun e w' => ∃ r : Int, e = .returned (i6 r) ∧ K r ∧ Below w.heap.size w w' := by
 refine enter0 Tryz.func84 rfl rfl (by kernel_rfl) ?_; intro a0 J; have b := Mem.start w Z hZ
 have p := hp (hs3.small) (hs6.small)
 refine sqB J b [] [] [] ?_; intro bg M
 refine s_ (sqB M b [] [] [(10, .bool ((u0.length : Int) != (u1.length : Int)))] ?_); intro bh c
 refine cd c (t := (u0.length : Int) != (u1.length : Int)) (by kernel_rfl) (fun A => ?_) (fun A => ?_)
 · -- yes
  have q := p.1 A
  refine s_ (sqB c b [] [] [(15, .bool (decide ((u0.length : Int) < (u1.length : Int))))] ?_); intro bi d
  refine cd d (t := decide ((u0.length : Int) < (u1.length : Int))) (by kernel_rfl) (fun B => ?_) (fun B => ?_)
  · -- yes
   have ar := q.1 B
   refine sqB d b [] [] [(4, i6 (-1))] ?_; intro bj au
   exact r_ (h_ (h_ (ra1 au (i6 (-1)) ⟨-1, rfl, ar, b.below⟩)))
  · -- no
   have av := q.2 B
   refine k_ (sqB d b [] [] [(4, i6 1)] ?_); intro bk aw
   exact r_ (h_ (ra1 aw (i6 1) ⟨1, rfl, av, b.below⟩))
 · -- no
  have ax := p.2 A
  refine k_ (s_ (sqB c b [] [] [(5, i6 (w64 ((u0.length : Int) - 1)))] ?_)); intro N O
  apply b_
  have P : Fr 41 [] [⟨0, [], .slice ao1 u0.length cap2⟩, ⟨1, [], .slice ao4 u1.length cap5⟩, ⟨5, [], i6 (w64 ((u0.length : Int) - 1))⟩] N := O.reg
  obtain ⟨ay, az, aA, aB⟩ := ax
  refine lp (ι := Int) (fun s => [⟨0, [], .slice ao1 u0.length cap2⟩, ⟨1, [], .slice ao4 u1.length cap5⟩, ⟨5, [], i6 s⟩]) (fun s => []) (fun s => Z) (fun s => ay s) (fun s => az s) (w64 ((u0.length : Int) - 1)) aA (by exact P.region (by kernel_rfl) (by kernel_rfl)) (by exact b) ?_
  rintro a aC aD aE R S
  have u := aB a aC
  refine s_ (sqB R S [] [] [(20, .bool (decide (a ≥ 0)))] ?_); intro aF h
  refine cd h (t := decide (a ≥ 0)) (by kernel_rfl) (fun C => ?_) (fun C => ?_)
  · -- yes
   have aG := u.1 C
   refine k_ (s_ (b_ ?_))
   have V : Fr 41 [] [⟨0, [], .slice ao1 u0.length cap2⟩, ⟨1, [], .slice ao4 u1.length cap5⟩, ⟨5, [], i6 a⟩] aF := h.reg
   refine sqQH mixed (by kernel_rfl) S ?_; intro aH W
   refine q1 V 23 (.slice ao1 u0.length cap2) ?_; intro bl X
   refine q1 X 24 (i6 a) ?_; intro bm Y
   obtain ⟨aI, aa⟩ := aG
   refine qx_ Y hs3 a aI .i64 105 4 ?_; intro bn bo aJ i bp aK aL aM D
   have aN := aa i aK
   obtain rfl : aJ = ([.int .u32 i] : List Value) := aM
   refine qz_ D aL 0 (.int .u32 i) rfl ?_; intro bq ab
   refine q1 ab 27 (.slice ao4 u1.length cap5) ?_; intro br ac
   refine q1 ac 28 (i6 a) ?_; intro bs ad
   obtain ⟨aO, ae⟩ := aN
   refine qx_ ad hs6 a aO .i64 105 4 ?_; intro bt bu aP j bv aQ aR aS E
   have v := ae j aQ
   obtain rfl : aP = ([.int .u32 j] : List Value) := aS
   refine qz_ E aR 0 (.int .u32 j) rfl ?_; intro bw af
   refine q1 af 31 (.bool (i != j)) ?_; intro aT l
   refine qnl (W _ ?_); intro bx x
   refine cd l (t := i != j) (by kernel_rfl) (fun F => ?_) (fun F => ?_)
   · -- yes
    have aU := v.1 F
    apply s_
    have ag : Fr 41 [] [⟨0, [], .slice ao1 u0.length cap2⟩, ⟨1, [], .slice ao4 u1.length cap5⟩, ⟨5, [], i6 a⟩] aT := l.reg
    refine sqQH mixed (by kernel_rfl) x ?_; intro aV ah
    refine q1 ag 32 (.slice ao1 u0.length cap2) ?_; intro bz ai
    refine q1 ai 33 (i6 a) ?_; intro bA aj
    obtain ⟨aW, ak⟩ := aU
    refine qx_ aj hs3 a aW .i64 105 4 ?_; intro bB bC aX m bD aY aZ a1 G
    have a2 := ak m aY
    obtain rfl : aX = ([.int .u32 m] : List Value) := a1
    refine qz_ G aZ 0 (.int .u32 m) rfl ?_; intro bE al
    refine q1 al 36 (.slice ao4 u1.length cap5) ?_; intro bF am
    refine q1 am 37 (i6 a) ?_; intro bG an
    obtain ⟨a3, ao⟩ := a2
    refine qx_ an hs6 a a3 .i64 105 4 ?_; intro bH bI a4 n bJ a5 a6 a7 H
    have y := ao n a5
    obtain rfl : a4 = ([.int .u32 n] : List Value) := a7
    refine qz_ H a6 0 (.int .u32 n) rfl ?_; intro bK ap
    refine q1 ap 40 (.bool (decide (m < n))) ?_; intro bL o
    refine qnl (ah _ ?_); intro bM z
    refine cd o (t := decide (m < n)) (by kernel_rfl) (fun I => ?_) (fun I => ?_)
    · -- yes
     have a8 := y.1 I
     refine sqB o z [] [] [(4, i6 (-1))] ?_; intro bN a9
     exact r_ (h_ (i_ (h_ (h_ (i_ (h_ (ra1 a9 (i6 (-1)) ⟨-1, rfl, a8, z.below⟩)))))))
    · -- no
     have ba := y.2 I
     refine k_ (sqB o z [] [] [(4, i6 1)] ?_); intro bO bb
     exact r_ (i_ (h_ (h_ (i_ (h_ (ra1 bb (i6 1) ⟨1, rfl, ba, z.below⟩))))))
   · -- no
    have aq := v.2 F
    refine l_ (j_ (t_ (rgB l x [] [] [(5, i6 (w64 (a - 1)))] ?_))); intro bP bc
    exact d_ ⟨w64 (a - 1), aq.1, aq.2, (bc.region (by kernel_rfl) (by kernel_rfl)).anyβ _ (by kernel_rfl), x.kp⟩
  · -- no
   have bd := u.2 C
   refine x_ (y_ (y_ (z_ (t_ (sqB h S [] [] [(4, i6 0)] ?_))))); intro bQ be
   exact r_ (ra1 be (i6 0) ⟨0, rfl, bd, S.below⟩)
end Go.Proofs.YtdndfbamhnchfaaGreatDoor
