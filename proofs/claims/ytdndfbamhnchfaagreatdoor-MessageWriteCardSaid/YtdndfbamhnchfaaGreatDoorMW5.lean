/- Texts put together (pure ones, or walks made by program). -/
import Derived.Test.YtdndfbamhnchfaaGreatDoorMW0
import Derived.Test.YtdndfbamhnchfaaGreatDoorMW1
import Derived.Test.YtdndfbamhnchfaaGreatDoorMW2
import Derived.Test.YtdndfbamhnchfaaGreatDoorMW3
import Derived.Test.YtdndfbamhnchfaaGreatDoorMW4
set_option linter.unusedVariables false
set_option linter.unusedSimpArgs false
set_option linter.defProp false
set_option maxRecDepth 100000
set_option maxHeartbeats 0
namespace Go.Proofs.YtdndfbamhnchfaaGreatDoor
open Go.Sy Go.RowKit
def gtrim_fun (u0 : List Int) (ao1 : Option Addr) (cap2 : Nat) (Z : Fz) (w : World) (hs3 : SlR (tyInt .u32) Z ao1 cap2 u0) (hZ : Z.on w) := fc_ (gtrim_walk u0 ao1 cap2 Z w hs3 hZ (gtrim_ok u0))
theorem gtwin_walk (u0 : List Int) (ao1 : Option Addr) (cap2 : Nat) (Z : Fz) (w : World) (hs3 : SlR (tyInt .u32) Z ao1 cap2 u0) (hZ : Z.on w) {K : (List Int) → Prop} (hp : gtwin_vc u0 K) : Calls Tryz.prog 83 #[.slice ao1 u0.length cap2] w fun e w' => ∃ (r : (List Int)) (ao1001 : Option Addr) (cap1002 : Nat) (Z' : Fz), e = .returned (.slice ao1001 r.length cap1002) ∧ K r ∧ Mem w.heap.size [] w Z [.own (tyInt .u32) 105 ao1001 cap1002 r] Z' w' := by
 refine enter0 Tryz.func83 rfl rfl (by kernel_rfl) ?_; intro u f; have c := Mem.start w Z hZ
 have l := hp (hs3.small)
 refine sqB f c [] [] [] ?_; intro x g
 refine sqH ?_; intro m h
 refine s1 g 3 (.slice ao1 u0.length cap2) ?_; intro y i
 have d : Mem w.heap.size [] w Z [.own (tyInt .u32) 105 none 0 ([] : List Int)] Z w := c.addNil (tyInt .u32) 105 (by decide)
 obtain ⟨n, o⟩ := l
 refine ap i d 0 (T := (tyInt .u32)) (xs := ([] : List Int)) (ys := u0) (ao := none) (cap := 0) (ao2 := ao1) (cap2 := cap2) (t := 71) (e := 105) (bytes := 4) (nog rfl _) rfl (by kernel_rfl) rfl (by kernel_rfl) (by kernel_rfl) (by kernel_rfl) rfl (Src.fz (by decide) d.fz hs3) n ?_; intro a b z p A j k
 have q : Mem w.heap.size [] w Z [.own (tyInt .u32) 105 a b (([] : List Int) ++ u0)] Z p := k
 refine s1 j 2 (.slice a (([] : List Int) ++ u0).length b) ?_; intro B s
 apply h
 exact r_ (ra1 s (.slice a (([] : List Int) ++ u0).length b) ⟨([] : List Int) ++ u0, a, b, Z, rfl, o, q.kp⟩)
theorem gwords_walk (u0 : Int)  (Z : Fz) (w : World)  (hZ : Z.on w) {K : (List Int) → Prop} (hp : gwords_vc u0 K) : Calls Tryz.prog 104 #[y6 u0] w fun e w' => ∃ (r : (List Int)) (ao1001 : Option Addr) (cap1002 : Nat) (Z' : Fz), e = .returned (.slice ao1001 r.length cap1002) ∧ K r ∧ SlR (tyInt .u32) Z' ao1001 cap1002 r ∧ Mem w.heap.size [] w Z [] Z' w' := by
 refine enter0 Tryz.func104 rfl rfl (by kernel_rfl) ?_; intro H j; have a := Mem.start w Z hZ
 refine sqB j a [] [] [] ?_; intro I k
 refine sqH ?_; intro z l
 refine bt k a 5 [] [] [(4, .int .u32 (wu32 u0)), (7, .int .u32 (wu32 (bShr .u64 u0 32)))] ?_; intro J m
 refine nw m a (fun b => .slice (sm b) 2 2) [.int .u32 (wu32 u0), .int .u32 (wu32 (bShr .u64 u0 32))] 105 ?_; intro d L n o p
 have A : Mem w.heap.size [] w Z [.own (tyInt .u32) 105 (sm d) 2 ([wu32 u0, wu32 (bShr .u64 u0 32)] : List Int)] Z n := p.rowOwn (T := (tyInt .u32)) (xs := ([wu32 u0, wu32 (bShr .u64 u0 32)] : List Int)) 0 rfl (by decide) (by show 2 ≤ lim; decide) ((RepAll.one (T := (tyInt .u32)) (x := wu32 u0) rfl).append (RepAll.one (T := (tyInt .u32)) (x := wu32 (bShr .u64 u0 32)) rfl))
 obtain ⟨B, C, q, f⟩ := A.freeze 0 rfl
 have g : Mem w.heap.size [] w Z [] B n := q
 refine ck o 105 #[.slice (sm d) ([wu32 u0, wu32 (bShr .u64 u0 32)] : List Int).length 2] ?_
 refine (gtrim_fun ([wu32 u0, wu32 (bShr .u64 u0 32)] : List Int) (sm d) 2 _ _ f g.fz).mono ?_; rintro _ D ⟨h, i, s, rfl, t, hm⟩; refine ⟨_, rfl, ?_⟩; intro M u; have v := g.callZ hm
 have E : Mem w.heap.size [] w Z [] s D := v
 have F := hp (t.small)
 refine s1 u 2 (.slice h (gtrimS ([wu32 u0, wu32 (bShr .u64 u0 32)] : List Int)).length i) ?_; intro N G
 apply l
 exact r_ (ra1 G (.slice h (gtrimS ([wu32 u0, wu32 (bShr .u64 u0 32)] : List Int)).length i) ⟨(gtrimS ([wu32 u0, wu32 (bShr .u64 u0 32)] : List Int)), h, i, s, rfl, F, t, E.kp⟩)
theorem gmul_walk (u0 : List Int) (u1 : List Int) (ao1 : Option Addr) (cap2 : Nat) (ao4 : Option Addr) (cap5 : Nat) (Z : Fz) (w : World) (hs3 : SlR (tyInt .u32) Z ao1 cap2 u0) (hs6 : SlR (tyInt .u32) Z ao4 cap5 u1) (hZ : Z.on w) {K : (List Int) → Prop} (hp : gmul_vc u0 u1 K) : Calls Tryz.prog 103 #[.slice ao1 u0.length cap2, .slice ao4 u1.length cap5] w fun e w' => ∃ (r : (List Int)) (ao1001 : Option Addr) (cap1002 : Nat) (Z' : Fz), e = .returned (.slice ao1001 r.length cap1002) ∧ K r ∧ SlR (tyInt .u32) Z' ao1001 cap1002 r ∧ Mem w.heap.size [] w Z [] Z' w' := by
 refine enter0 Tryz.func103 rfl rfl (by kernel_rfl) ?_; intro a0 V; have n := Mem.start w Z hZ
 have B := hp (hs3.small) (hs6.small)
 refine sqB V n [] [] [] ?_; intro b9 X
 refine s_ (sqB X n [] [] [(16, .bool (((u0.length : Int) == 0) || ((u1.length : Int) == 0)))] ?_); intro ca q
 refine c_ q B (fun _ a4 => ?_) fun _ a6 => ?_
 ·
  refine sqB q n [] [] [(4, .slice none 0 0)] ?_; intro cb a5
  exact r_ (h_ (ra1 a5 (.slice none 0 0) ⟨[], none, 0, Z, rfl, a4, (SlR.nil _ _), n.kp⟩))
 refine k_ (sqH ?_); intro a7 Y
 refine bt q n 5 [] [] [(21, i6 (w64 ((u0.length : Int) + (u1.length : Int))))] ?_; intro cc aa
 obtain ⟨ce, a8⟩ := a6
 refine mks aa n (T := (tyInt .u32)) (w64 ((u0.length : Int) + (u1.length : Int))) (w64 ((u0.length : Int) + (u1.length : Int))) (k := .i64) (k' := .i64) (e := 105) (bytes := 4) (zs := [.int .u32 0]) (z := 0) (by simp only [lim]; omega) (nog rfl _) rfl (by kernel_rfl) rfl (by kernel_rfl) (by kernel_rfl) (by kernel_rfl) (by kernel_rfl) rfl ?_; intro b cf a9 ab ac
 have I : Mem w.heap.size [] w Z [.own (tyInt .u32) 105 (sm b) (w64 ((u0.length : Int) + (u1.length : Int))).toNat (List.replicate (w64 ((u0.length : Int) + (u1.length : Int))).toNat (0 : Int))] Z a9 := ac
 refine s1 ab 5 (.slice (sm b) (List.replicate (w64 ((u0.length : Int) + (u1.length : Int))).toNat (0 : Int)).length (w64 ((u0.length : Int) + (u1.length : Int))).toNat) ?_; intro cg ad
 apply Y
 refine s_ (sqB ad I [] [] [(6, i6 0)] ?_); intro ae af
 apply b_
 have ag : Fr 75 [] [⟨0, [], .slice ao1 u0.length cap2⟩, ⟨1, [], .slice ao4 u1.length cap5⟩, ⟨5, [], .slice (sm b) (List.replicate (w64 ((u0.length : Int) + (u1.length : Int))).toNat (0 : Int)).length (w64 ((u0.length : Int) + (u1.length : Int))).toNat⟩, ⟨6, [], i6 0⟩] ae := af.reg
 obtain ⟨ba, bb, bc, bd⟩ := a8
 refine lp (ι := Int × (List Int)) (fun s => [⟨0, [], .slice ao1 u0.length cap2⟩, ⟨1, [], .slice ao4 u1.length cap5⟩, ⟨5, [], .slice (sm b) s.2.length (w64 ((u0.length : Int) + (u1.length : Int))).toNat⟩, ⟨6, [], i6 s.1⟩]) (fun s => [.own (tyInt .u32) 105 (sm b) (w64 ((u0.length : Int) + (u1.length : Int))).toNat s.2]) (fun s => Z) (fun s => ba s.1 s.2) (fun s => bb s.1 s.2) ⟨0, (List.replicate (w64 ((u0.length : Int) + (u1.length : Int))).toNat (0 : Int))⟩ bc (by exact ag.reg) (by exact I) ?_
 rintro ⟨a, m⟩ be bf ai aj ak
 have C := bd a m be
 refine s_ (sqB aj ak [] [] [(26, .bool (decide (a < (u0.length : Int))))] ?_); intro ch v
 refine c_ v C (fun _ bg => ?_) fun _ aV => ?_
 ·
  refine k_ (s_ (b_ (sqB v ak [] [] [(7, y6 0)] ?_))); intro ci am
  refine s_ (sqB am ak [] [] [(8, i6 0)] ?_); intro an ao
  apply b_
  have ap : Fr 75 [] [⟨0, [], .slice ao1 u0.length cap2⟩, ⟨1, [], .slice ao4 u1.length cap5⟩, ⟨5, [], .slice (sm b) m.length (w64 ((u0.length : Int) + (u1.length : Int))).toNat⟩, ⟨6, [], i6 a⟩, ⟨7, [], y6 0⟩, ⟨8, [], i6 0⟩] an := ao.reg
  obtain ⟨bh, bi, bj, bk⟩ := bg
  refine lp (ι := Int × Int × (List Int)) (fun s => [⟨0, [], .slice ao1 u0.length cap2⟩, ⟨1, [], .slice ao4 u1.length cap5⟩, ⟨5, [], .slice (sm b) s.2.2.length (w64 ((u0.length : Int) + (u1.length : Int))).toNat⟩, ⟨6, [], i6 a⟩, ⟨7, [], y6 s.1⟩, ⟨8, [], i6 s.2.1⟩]) (fun s => [.own (tyInt .u32) 105 (sm b) (w64 ((u0.length : Int) + (u1.length : Int))).toNat s.2.2]) (fun s => Z) (fun s => bh s.1 s.2.1 s.2.2) (fun s => bi s.1 s.2.1 s.2.2) ⟨0, 0, m⟩ bj (by exact ap.reg) (by exact ak) ?_
  rintro ⟨d, c, f⟩ bl bm bn ar au
  have D := bk d c f bl
  refine s_ (sqB ar au [] [] [(32, .bool (decide (c < (u1.length : Int))))] ?_); intro bo x
  refine c_ x D (fun _ bp => ?_) fun _ bV => ?_
  ·
   refine k_ (s_ (b_ ?_))
   have aw : Fr 75 [] [⟨0, [], .slice ao1 u0.length cap2⟩, ⟨1, [], .slice ao4 u1.length cap5⟩, ⟨5, [], .slice (sm b) f.length (w64 ((u0.length : Int) + (u1.length : Int))).toNat⟩, ⟨6, [], i6 a⟩, ⟨7, [], y6 d⟩, ⟨8, [], i6 c⟩] bo := x.reg
   refine wp_seq (rgS mixed au [(0, true), (1, true), (2, true), (6, true), (7, true), (12, true), (13, true), (14, true), (15, true), (3, true), (4, true), (5, true), (8, true), (9, true), (10, true), (11, true), (16, true), (17, true), (18, true), (19, true), (20, true), (21, true)] [] [0] [.own (tyInt .u32) 105 (sm b) (w64 ((u0.length : Int) + (u1.length : Int))).toNat f] ?_)
   intro bq ax cj y
   refine cS aw 9 [] [] [(35, y6 d), (36, .slice ao1 u0.length cap2), (37, i6 a), (41, .slice ao4 u1.length cap5), (42, i6 c), (47, .slice (sm b) f.length (w64 ((u0.length : Int) + (u1.length : Int))).toNat), (50, i6 (w64 (a + c)))] ?_; intro cm ay
   obtain ⟨br, az⟩ := bp
   refine cix rfl ay (T := (tyInt .u32)) (xs := u0) hs3 a br (k := .i64) (e := 105) (bytes := 4) (nog rfl _) rfl (by kernel_rfl) rfl (by kernel_rfl) (by kernel_rfl) (by kernel_rfl) ?_; intro bs bu bv i cn bw bx bz M
   have bA := az i bw
   obtain rfl : bv = ([.int .u32 i] : List Value) := bz
   refine cst rfl M (.int .u32 i) (nog rfl _) rfl (by kernel_rfl) (fun v152 hC => lz M hC.fz bx 0 (g := []) rfl (by kernel_rfl) (by kernel_rfl) (by kernel_rfl) rfl) ?_; intro co aA
   refine cS aA 1 [] [] [(40, y6 (wu64 i))] ?_; intro cp aB
   obtain ⟨bB, aC⟩ := bA
   refine cix rfl aB (T := (tyInt .u32)) (xs := u1) hs6 c bB (k := .i64) (e := 105) (bytes := 4) (nog rfl _) rfl (by kernel_rfl) rfl (by kernel_rfl) (by kernel_rfl) (by kernel_rfl) ?_; intro bC bD bE j cq bF bG bH N
   have bI := aC j bF
   obtain rfl : bE = ([.int .u32 j] : List Value) := bH
   refine cst rfl N (.int .u32 j) (nog rfl _) rfl (by kernel_rfl) (fun v170 hC => lz N hC.fz bG 0 (g := []) rfl (by kernel_rfl) (by kernel_rfl) (by kernel_rfl) rfl) ?_; intro cr aD
   refine cS aD 2 [] [] [(46, y6 (wu64 ((wu64 i) * (wu64 j))))] ?_; intro cs aE
   obtain ⟨bJ, aF⟩ := bI
   refine cixo rfl aE y 0 (T := (tyInt .u32)) (xs := f) (w64 (a + c)) bJ (k := .i64) (e := 105) (bytes := 4) (nog rfl _) rfl (by kernel_rfl) rfl (by kernel_rfl) (by kernel_rfl) rfl (by kernel_rfl) ?_; intro bK ct bL aG
   obtain rfl : b = bK := by simpa using bL
   obtain ⟨l, bM, bN⟩ := gxq aF (by first | omega | (simp only [List.length_set] at *; omega))
   refine clo1 rfl aG 0 (T := (tyInt .u32)) (xs := f) rfl (w64 (a + c)).toNat 0 bM [.int .u32 l] (fun _ h => h) (.int .u32 l) rfl (nog rfl _) rfl (by kernel_rfl) rfl (by kernel_rfl) (by kernel_rfl) ?_; intro cu aH
   refine cS aH 4 [] [] [(7, y6 (wu64 (d + (wu64 ((wu64 ((wu64 i) * (wu64 j))) + (wu64 l))))))] ?_; intro cv aI
   refine nS (ax _ _ ?_)
   refine t_ (sqH ?_); intro bO aJ
   refine bt aI y 6 [] [] [(56, .slice (sm b) f.length (w64 ((u0.length : Int) + (u1.length : Int))).toNat), (59, i6 (w64 (a + c))), (61, .int .u32 (wu32 (wu64 (d + (wu64 ((wu64 ((wu64 i) * (wu64 j))) + (wu64 l)))))))] ?_; intro cw aK
   obtain ⟨bP, aL⟩ := bN
   refine ixo aK y 0 (T := (tyInt .u32)) (xs := f) (w64 (a + c)) bP (k := .i64) (e := 105) (bytes := 4) (nog rfl _) rfl (by kernel_rfl) rfl (by kernel_rfl) (by kernel_rfl) rfl (by kernel_rfl) ?_; intro bQ bR bS E
   obtain rfl : b = bQ := by simpa using bS
   refine so E y 0 (T := (tyInt .u32)) (xs := f) (w64 (a + c)).toNat (wu32 (wu64 (d + (wu64 ((wu64 ((wu64 i) * (wu64 j))) + (wu64 l)))))) (u := .int .u32 (wu32 (wu64 (d + (wu64 ((wu64 ((wu64 i) * (wu64 j))) + (wu64 l))))))) (nog rfl _) rfl rfl (by kernel_rfl) rfl (by kernel_rfl) rfl (by kernel_rfl) (by first | omega | (simp only [List.length_set] at *; omega)) rfl ?_; intro bT aM
   have aN : Fr 75 [] [⟨0, [], .slice ao1 u0.length cap2⟩, ⟨1, [], .slice ao4 u1.length cap5⟩, ⟨5, [], .slice (sm b) (f.set (w64 (a + c)).toNat (wu32 (wu64 (d + (wu64 ((wu64 ((wu64 i) * (wu64 j))) + (wu64 l))))))).length (w64 ((u0.length : Int) + (u1.length : Int))).toNat⟩, ⟨6, [], i6 a⟩, ⟨7, [], y6 (wu64 (d + (wu64 ((wu64 ((wu64 i) * (wu64 j))) + (wu64 l)))))⟩, ⟨8, [], i6 c⟩, ⟨35, [], y6 d⟩, ⟨36, [], .slice ao1 u0.length cap2⟩, ⟨37, [], i6 a⟩, ⟨38, [], pt bs bu⟩, ⟨39, [], .int .u32 i⟩, ⟨40, [], y6 (wu64 i)⟩, ⟨41, [], .slice ao4 u1.length cap5⟩, ⟨42, [], i6 c⟩, ⟨43, [], pt bC bD⟩, ⟨44, [], .int .u32 j⟩, ⟨46, [], y6 (wu64 ((wu64 i) * (wu64 j)))⟩, ⟨47, [], .slice (sm b) (f.set (w64 (a + c)).toNat (wu32 (wu64 (d + (wu64 ((wu64 ((wu64 i) * (wu64 j))) + (wu64 l))))))).length (w64 ((u0.length : Int) + (u1.length : Int))).toNat⟩, ⟨50, [], i6 (w64 (a + c))⟩, ⟨51, [], .pointer (some ⟨b, (w64 (a + c)).toNat * 1, none⟩)⟩, ⟨52, [], .int .u32 l⟩, ⟨56, [], .slice (sm b) (f.set (w64 (a + c)).toNat (wu32 (wu64 (d + (wu64 ((wu64 ((wu64 i) * (wu64 j))) + (wu64 l))))))).length (w64 ((u0.length : Int) + (u1.length : Int))).toNat⟩, ⟨59, [], i6 (w64 (a + c))⟩, ⟨61, [], .int .u32 (wu32 (wu64 (d + (wu64 ((wu64 ((wu64 i) * (wu64 j))) + (wu64 l))))))⟩, ⟨62, [], .pointer (some ⟨b, (w64 (a + c)).toNat * 1, none⟩)⟩] bR := by (try simp only [List.length_set] at E); (try simp only [List.length_set]); exact E.reg
   have O : Mem w.heap.size [] w Z [.own (tyInt .u32) 105 (sm b) (w64 ((u0.length : Int) + (u1.length : Int))).toNat (f.set (w64 (a + c)).toNat (wu32 (wu64 (d + (wu64 ((wu64 ((wu64 i) * (wu64 j))) + (wu64 l)))))))] Z bT := aM
   apply aJ
   refine rgB aN O [] [] [(7, y6 (bShr .u64 (wu64 (d + (wu64 ((wu64 ((wu64 i) * (wu64 j))) + (wu64 l))))) 32))] ?_; intro cx aO
   refine j_ (t_ (rgB aO O [] [] [(8, i6 (w64 (c + 1)))] ?_)); intro cy bU
   exact d_ ⟨⟨bShr .u64 (wu64 (d + (wu64 ((wu64 ((wu64 i) * (wu64 j))) + (wu64 l))))) 32, w64 (c + 1), f.set (w64 (a + c)).toNat (wu32 (wu64 (d + (wu64 ((wu64 ((wu64 i) * (wu64 j))) + (wu64 l))))))⟩, aL.1, aL.2, (bU.reg).anyβ _ (by kernel_rfl), O.kp⟩
  refine x_ (y_ (y_ (z_ (t_ (rgH ?_))))); intro bW aP
  refine bt x au 7 [] [] [(65, .slice (sm b) f.length (w64 ((u0.length : Int) + (u1.length : Int))).toNat), (69, i6 (w64 (a + (u1.length : Int)))), (71, .int .u32 (wu32 d))] ?_; intro cz aQ
  obtain ⟨bX, aR⟩ := bV
  refine ixo aQ au 0 (T := (tyInt .u32)) (xs := f) (w64 (a + (u1.length : Int))) bX (k := .i64) (e := 105) (bytes := 4) (nog rfl _) rfl (by kernel_rfl) rfl (by kernel_rfl) (by kernel_rfl) rfl (by kernel_rfl) ?_; intro bY bZ b0 F
  obtain rfl : b = bY := by simpa using b0
  refine so F au 0 (T := (tyInt .u32)) (xs := f) (w64 (a + (u1.length : Int))).toNat (wu32 d) (u := .int .u32 (wu32 d)) (nog rfl _) rfl rfl (by kernel_rfl) rfl (by kernel_rfl) rfl (by kernel_rfl) (by first | omega | (simp only [List.length_set] at *; omega)) rfl ?_; intro b1 aS
  have aT : Fr 75 [] [⟨0, [], .slice ao1 u0.length cap2⟩, ⟨1, [], .slice ao4 u1.length cap5⟩, ⟨5, [], .slice (sm b) (f.set (w64 (a + (u1.length : Int))).toNat (wu32 d)).length (w64 ((u0.length : Int) + (u1.length : Int))).toNat⟩, ⟨6, [], i6 a⟩, ⟨7, [], y6 d⟩, ⟨8, [], i6 c⟩, ⟨32, [], .bool (decide (c < (u1.length : Int)))⟩, ⟨65, [], .slice (sm b) (f.set (w64 (a + (u1.length : Int))).toNat (wu32 d)).length (w64 ((u0.length : Int) + (u1.length : Int))).toNat⟩, ⟨69, [], i6 (w64 (a + (u1.length : Int)))⟩, ⟨71, [], .int .u32 (wu32 d)⟩, ⟨72, [], .pointer (some ⟨b, (w64 (a + (u1.length : Int))).toNat * 1, none⟩)⟩] bZ := by (try simp only [List.length_set] at F); (try simp only [List.length_set]); exact F.reg
  have aU : Mem w.heap.size [] w Z [.own (tyInt .u32) 105 (sm b) (w64 ((u0.length : Int) + (u1.length : Int))).toNat (f.set (w64 (a + (u1.length : Int))).toNat (wu32 d))] Z b1 := aS
  apply aP
  refine j_ (t_ (rgB aT aU [] [] [(6, i6 (w64 (a + 1)))] ?_)); intro cA b2
  exact d_ ⟨⟨w64 (a + 1), f.set (w64 (a + (u1.length : Int))).toNat (wu32 d)⟩, aR.1, aR.2, (b2.reg).anyβ _ (by kernel_rfl), aU.kp⟩
 refine x_ (y_ (y_ (z_ (t_ (sqH ?_))))); intro b3 aW
 refine s1 v 73 (.slice (sm b) m.length (w64 ((u0.length : Int) + (u1.length : Int))).toNat) ?_; intro cB aX
 obtain ⟨b4, P, aY, Q⟩ := ak.freeze 0 rfl
 have R : Mem w.heap.size [] w Z [] b4 ai := aY
 refine ck aX 105 #[.slice (sm b) m.length (w64 ((u0.length : Int) + (u1.length : Int))).toNat] ?_
 refine (gtrim_fun m (sm b) (w64 ((u0.length : Int) + (u1.length : Int))).toNat _ _ Q R.fz).mono ?_; rintro _ b5 ⟨S, U, aZ, rfl, a1, hm⟩; refine ⟨_, rfl, ?_⟩; intro cC a2; have a3 := R.callZ hm
 have b6 : Mem w.heap.size [] w Z [] aZ b5 := a3
 have b7 := aV (a1.small)
 refine s1 a2 4 (.slice S (gtrimS m).length U) ?_; intro cD b8
 apply aW
 exact r_ (ra1 b8 (.slice S (gtrimS m).length U) ⟨(gtrimS m), S, U, aZ, rfl, b7, a1, b6.kp⟩)
theorem gadd_walk (u0 : List Int) (u1 : List Int) (ao1 : Option Addr) (cap2 : Nat) (ao4 : Option Addr) (cap5 : Nat) (Z : Fz) (w : World) (hs3 : SlR (tyInt .u32) Z ao1 cap2 u0) (hs6 : SlR (tyInt .u32) Z ao4 cap5 u1) (hZ : Z.on w) {K : (List Int) → Prop} (hp : gadd_vc u0 u1 K) : Calls Tryz.prog 80 #[.slice ao1 u0.length cap2, .slice ao4 u1.length cap5] w fun e w' => ∃ (r : (List Int)) (ao1001 : Option Addr) (cap1002 : Nat) (Z' : Fz), e = .returned (.slice ao1001 r.length cap1002) ∧ K r ∧ SlR (tyInt .u32) Z' ao1001 cap1002 r ∧ Mem w.heap.size [] w Z [] Z' w' := by
 refine enter0 Tryz.func80 rfl rfl (by kernel_rfl) ?_; intro a0 am; have o := Mem.start w Z hZ
 have B := hp (hs3.small) (hs6.small)
 refine sqB am o [] [] [] ?_; intro d2 ao
 refine s_ (sqB ao o [] [] [(12, .bool (decide ((u0.length : Int) < (u1.length : Int))))] ?_); intro d3 q
 refine c_ q B (fun _ cb => ?_) fun _ c7 => ?_
 ·
  refine rgB q o [] [] [(0, .slice ao4 u1.length cap5), (1, .slice ao1 u0.length cap2)] ?_; intro d4 ap
  refine t_ (sqH ?_); intro cc aq
  refine bt ap o 3 [] [] [(17, i6 (w64 ((u1.length : Int) + 1)))] ?_; intro d5 ar
  obtain ⟨d6, ce⟩ := cb
  refine mks ar o (T := (tyInt .u32)) (w64 ((u1.length : Int) + 1)) (w64 ((u1.length : Int) + 1)) (k := .i64) (k' := .i64) (e := 105) (bytes := 4) (zs := [.int .u32 0]) (z := 0) (by simp only [lim]; omega) (nog rfl _) rfl (by kernel_rfl) rfl (by kernel_rfl) (by kernel_rfl) (by kernel_rfl) (by kernel_rfl) rfl ?_; intro f d7 cf au av
  have C : Mem w.heap.size [] w Z [.own (tyInt .u32) 105 (sm f) (w64 ((u1.length : Int) + 1)).toNat (List.replicate (w64 ((u1.length : Int) + 1)).toNat (0 : Int))] Z cf := av
  refine s1 au 5 (.slice (sm f) (List.replicate (w64 ((u1.length : Int) + 1)).toNat (0 : Int)).length (w64 ((u1.length : Int) + 1)).toNat) ?_; intro d8 aw
  apply aq
  refine sqB aw C [] [] [(6, y6 0)] ?_; intro d9 ax
  refine s_ (sqB ax C [] [] [(7, i6 0)] ?_); intro ay az
  apply b_
  have aA : Fr 58 [] [⟨0, [], .slice ao4 u1.length cap5⟩, ⟨1, [], .slice ao1 u0.length cap2⟩, ⟨5, [], .slice (sm f) (List.replicate (w64 ((u1.length : Int) + 1)).toNat (0 : Int)).length (w64 ((u1.length : Int) + 1)).toNat⟩, ⟨6, [], y6 0⟩, ⟨7, [], i6 0⟩] ay := az.reg
  obtain ⟨cg, ch, ci, cj⟩ := ce
  refine lp (ι := Int × Int × (List Int)) (fun s => [⟨0, [], .slice ao4 u1.length cap5⟩, ⟨1, [], .slice ao1 u0.length cap2⟩, ⟨5, [], .slice (sm f) s.2.2.length (w64 ((u1.length : Int) + 1)).toNat⟩, ⟨6, [], y6 s.1⟩, ⟨7, [], i6 s.2.1⟩]) (fun s => [.own (tyInt .u32) 105 (sm f) (w64 ((u1.length : Int) + 1)).toNat s.2.2]) (fun s => Z) (fun s => cg s.1 s.2.1 s.2.2) (fun s => ch s.1 s.2.1 s.2.2) ⟨0, 0, (List.replicate (w64 ((u1.length : Int) + 1)).toNat (0 : Int))⟩ ci (by exact aA.reg) (by exact C) ?_
  rintro ⟨a, b, g⟩ cl cm cn aC aD
  have D := cj a b g cl
  refine s_ (sqB aC aD [] [] [(22, .bool (decide (b < (u1.length : Int))))] ?_); intro ea v
  refine c_ v D (fun _ co => ?_) fun _ cU => ?_
  ·
   refine k_ (s_ (b_ (sqH ?_))); intro cp aF
   refine bt v aD 3 [] [] [(25, y6 a), (26, .slice ao4 u1.length cap5), (27, i6 b)] ?_; intro eb aG
   obtain ⟨cq, aH⟩ := co
   refine ix_ aG hs6 b cq .i64 105 4 ?_; intro aI aJ cr c ec cs ct cu aK
   have E := aH c cs
   obtain rfl : cr = ([.int .u32 c] : List Value) := cu
   refine z1 aK aD 29 ct 0 (.int .u32 c) rfl ?_; intro ed aL
   refine bt aL aD 3 [] [] [(6, y6 (wu64 (a + (wu64 c))))] ?_; intro ee aM
   apply aF
   refine s_ (sqB aM aD [] [] [(35, .bool (decide (b < (u0.length : Int))))] ?_); intro ef x
   refine c_ x E (fun _ cv => ?_) fun _ cM => ?_
   ·
    refine rgH ?_; intro cw aN
    refine bt x aD 3 [] [] [(36, y6 (wu64 (a + (wu64 c)))), (37, .slice ao1 u0.length cap2), (38, i6 b)] ?_; intro eg aO
    obtain ⟨cx, aP⟩ := cv
    refine ix_ aO hs3 b cx .i64 105 4 ?_; intro cy cz cA m eh cB cC cD aQ
    have cE := aP m cB
    obtain rfl : cA = ([.int .u32 m] : List Value) := cD
    refine z1 aQ aD 40 cC 0 (.int .u32 m) rfl ?_; intro ei aR
    refine bt aR aD 3 [] [] [(6, y6 (wu64 ((wu64 (a + (wu64 c))) + (wu64 m))))] ?_; intro ej aS
    apply aN
    refine t_ (sqH ?_); intro cF aT
    refine bt aS aD 4 [] [] [(43, .slice (sm f) g.length (w64 ((u1.length : Int) + 1)).toNat), (44, i6 b), (46, .int .u32 (wu32 (wu64 ((wu64 (a + (wu64 c))) + (wu64 m)))))] ?_; intro ek aU
    obtain ⟨cG, aV⟩ := cE
    refine ixo aU aD 0 (T := (tyInt .u32)) (xs := g) b cG (k := .i64) (e := 105) (bytes := 4) (nog rfl _) rfl (by kernel_rfl) rfl (by kernel_rfl) (by kernel_rfl) rfl (by kernel_rfl) ?_; intro cH cI cJ F
    obtain rfl : f = cH := by simpa using cJ
    refine so F aD 0 (T := (tyInt .u32)) (xs := g) b.toNat (wu32 (wu64 ((wu64 (a + (wu64 c))) + (wu64 m)))) (u := .int .u32 (wu32 (wu64 ((wu64 (a + (wu64 c))) + (wu64 m))))) (nog rfl _) rfl rfl (by kernel_rfl) rfl (by kernel_rfl) rfl (by kernel_rfl) (by first | omega | (simp only [List.length_set] at *; omega)) rfl ?_; intro cK aW
    have aX : Fr 58 [] [⟨0, [], .slice ao4 u1.length cap5⟩, ⟨1, [], .slice ao1 u0.length cap2⟩, ⟨5, [], .slice (sm f) (g.set b.toNat (wu32 (wu64 ((wu64 (a + (wu64 c))) + (wu64 m))))).length (w64 ((u1.length : Int) + 1)).toNat⟩, ⟨6, [], y6 (wu64 ((wu64 (a + (wu64 c))) + (wu64 m)))⟩, ⟨7, [], i6 b⟩, ⟨22, [], .bool (decide (b < (u1.length : Int)))⟩, ⟨25, [], y6 a⟩, ⟨26, [], .slice ao4 u1.length cap5⟩, ⟨27, [], i6 b⟩, ⟨28, [], pt aI aJ⟩, ⟨29, [], .int .u32 c⟩, ⟨35, [], .bool (decide (b < (u0.length : Int)))⟩, ⟨36, [], y6 (wu64 (a + (wu64 c)))⟩, ⟨37, [], .slice ao1 u0.length cap2⟩, ⟨38, [], i6 b⟩, ⟨39, [], pt cy cz⟩, ⟨40, [], .int .u32 m⟩, ⟨43, [], .slice (sm f) (g.set b.toNat (wu32 (wu64 ((wu64 (a + (wu64 c))) + (wu64 m))))).length (w64 ((u1.length : Int) + 1)).toNat⟩, ⟨44, [], i6 b⟩, ⟨46, [], .int .u32 (wu32 (wu64 ((wu64 (a + (wu64 c))) + (wu64 m))))⟩, ⟨47, [], .pointer (some ⟨f, b.toNat * 1, none⟩)⟩] cI := by (try simp only [List.length_set] at F); (try simp only [List.length_set]); exact F.reg
    have V : Mem w.heap.size [] w Z [.own (tyInt .u32) 105 (sm f) (w64 ((u1.length : Int) + 1)).toNat (g.set b.toNat (wu32 (wu64 ((wu64 (a + (wu64 c))) + (wu64 m)))))] Z cK := aW
    apply aT
    refine rgB aX V [] [] [(6, y6 (bShr .u64 (wu64 ((wu64 (a + (wu64 c))) + (wu64 m))) 32))] ?_; intro el aY
    refine j_ (t_ (rgB aY V [] [] [(7, i6 (w64 (b + 1)))] ?_)); intro em cL
    exact d_ ⟨⟨bShr .u64 (wu64 ((wu64 (a + (wu64 c))) + (wu64 m))) 32, w64 (b + 1), g.set b.toNat (wu32 (wu64 ((wu64 (a + (wu64 c))) + (wu64 m))))⟩, aV.1, aV.2, (cL.reg).anyβ _ (by kernel_rfl), V.kp⟩
   refine k_ (sqH ?_); intro cN aZ
   refine bt x aD 4 [] [] [(43, .slice (sm f) g.length (w64 ((u1.length : Int) + 1)).toNat), (44, i6 b), (46, .int .u32 (wu32 (wu64 (a + (wu64 c)))))] ?_; intro en a1
   obtain ⟨cO, a2⟩ := cM
   refine ixo a1 aD 0 (T := (tyInt .u32)) (xs := g) b cO (k := .i64) (e := 105) (bytes := 4) (nog rfl _) rfl (by kernel_rfl) rfl (by kernel_rfl) (by kernel_rfl) rfl (by kernel_rfl) ?_; intro cP cQ cR G
   obtain rfl : f = cP := by simpa using cR
   refine so G aD 0 (T := (tyInt .u32)) (xs := g) b.toNat (wu32 (wu64 (a + (wu64 c)))) (u := .int .u32 (wu32 (wu64 (a + (wu64 c))))) (nog rfl _) rfl rfl (by kernel_rfl) rfl (by kernel_rfl) rfl (by kernel_rfl) (by first | omega | (simp only [List.length_set] at *; omega)) rfl ?_; intro cS a3
   have a4 : Fr 58 [] [⟨0, [], .slice ao4 u1.length cap5⟩, ⟨1, [], .slice ao1 u0.length cap2⟩, ⟨5, [], .slice (sm f) (g.set b.toNat (wu32 (wu64 (a + (wu64 c))))).length (w64 ((u1.length : Int) + 1)).toNat⟩, ⟨6, [], y6 (wu64 (a + (wu64 c)))⟩, ⟨7, [], i6 b⟩, ⟨22, [], .bool (decide (b < (u1.length : Int)))⟩, ⟨25, [], y6 a⟩, ⟨26, [], .slice ao4 u1.length cap5⟩, ⟨27, [], i6 b⟩, ⟨28, [], pt aI aJ⟩, ⟨29, [], .int .u32 c⟩, ⟨35, [], .bool (decide (b < (u0.length : Int)))⟩, ⟨43, [], .slice (sm f) (g.set b.toNat (wu32 (wu64 (a + (wu64 c))))).length (w64 ((u1.length : Int) + 1)).toNat⟩, ⟨44, [], i6 b⟩, ⟨46, [], .int .u32 (wu32 (wu64 (a + (wu64 c))))⟩, ⟨47, [], .pointer (some ⟨f, b.toNat * 1, none⟩)⟩] cQ := by (try simp only [List.length_set] at G); (try simp only [List.length_set]); exact G.reg
   have W : Mem w.heap.size [] w Z [.own (tyInt .u32) 105 (sm f) (w64 ((u1.length : Int) + 1)).toNat (g.set b.toNat (wu32 (wu64 (a + (wu64 c)))))] Z cS := a3
   apply aZ
   refine rgB a4 W [] [] [(6, y6 (bShr .u64 (wu64 (a + (wu64 c))) 32))] ?_; intro eo a5
   refine j_ (t_ (rgB a5 W [] [] [(7, i6 (w64 (b + 1)))] ?_)); intro ep cT
   exact d_ ⟨⟨bShr .u64 (wu64 (a + (wu64 c))) 32, w64 (b + 1), g.set b.toNat (wu32 (wu64 (a + (wu64 c))))⟩, a2.1, a2.2, (cT.reg).anyβ _ (by kernel_rfl), W.kp⟩
  refine x_ (y_ (y_ (z_ (t_ (sqH ?_))))); intro cV a6
  refine bt v aD 5 [] [] [(50, .slice (sm f) g.length (w64 ((u1.length : Int) + 1)).toNat), (52, i6 (u1.length : Int)), (54, .int .u32 (wu32 a))] ?_; intro eq a7
  obtain ⟨cW, a8⟩ := cU
  refine ixo a7 aD 0 (T := (tyInt .u32)) (xs := g) (u1.length : Int) cW (k := .i64) (e := 105) (bytes := 4) (nog rfl _) rfl (by kernel_rfl) rfl (by kernel_rfl) (by kernel_rfl) rfl (by kernel_rfl) ?_; intro cX cY cZ H
  obtain rfl : f = cX := by simpa using cZ
  refine so H aD 0 (T := (tyInt .u32)) (xs := g) (u1.length : Int).toNat (wu32 a) (u := .int .u32 (wu32 a)) (nog rfl _) rfl rfl (by kernel_rfl) rfl (by kernel_rfl) rfl (by kernel_rfl) (by first | omega | (simp only [List.length_set] at *; omega)) rfl ?_; intro a9 ba
  have bb : Fr 58 [] [⟨0, [], .slice ao4 u1.length cap5⟩, ⟨1, [], .slice ao1 u0.length cap2⟩, ⟨5, [], .slice (sm f) (g.set (u1.length : Int).toNat (wu32 a)).length (w64 ((u1.length : Int) + 1)).toNat⟩, ⟨6, [], y6 a⟩, ⟨7, [], i6 b⟩, ⟨22, [], .bool (decide (b < (u1.length : Int)))⟩, ⟨50, [], .slice (sm f) (g.set (u1.length : Int).toNat (wu32 a)).length (w64 ((u1.length : Int) + 1)).toNat⟩, ⟨52, [], i6 (u1.length : Int)⟩, ⟨54, [], .int .u32 (wu32 a)⟩, ⟨55, [], .pointer (some ⟨f, (u1.length : Int).toNat * 1, none⟩)⟩] cY := by (try simp only [List.length_set] at H); (try simp only [List.length_set]); exact H.reg
  have c0 : Mem w.heap.size [] w Z [.own (tyInt .u32) 105 (sm f) (w64 ((u1.length : Int) + 1)).toNat (g.set (u1.length : Int).toNat (wu32 a))] Z a9 := ba
  apply a6
  refine sqH ?_; intro c1 bc
  refine s1 bb 56 (.slice (sm f) (g.set (u1.length : Int).toNat (wu32 a)).length (w64 ((u1.length : Int) + 1)).toNat) ?_; intro er bd
  obtain ⟨c2, X, be, Y⟩ := c0.freeze 0 rfl
  have aa : Mem w.heap.size [] w Z [] c2 a9 := be
  refine ck bd 105 #[.slice (sm f) (g.set (u1.length : Int).toNat (wu32 a)).length (w64 ((u1.length : Int) + 1)).toNat] ?_
  refine (gtrim_fun (g.set (u1.length : Int).toNat (wu32 a)) (sm f) (w64 ((u1.length : Int) + 1)).toNat _ _ Y aa.fz).mono ?_; rintro _ c3 ⟨ab, ac, bf, rfl, bg, hm⟩; refine ⟨_, rfl, ?_⟩; intro es bh; have bi := aa.callZ hm
  have c4 : Mem w.heap.size [] w Z [] bf c3 := bi
  have c5 := a8 (bg.small)
  refine s1 bh 4 (.slice ab (gtrimS (g.set (u1.length : Int).toNat (wu32 a))).length ac) ?_; intro et c6
  apply bc
  exact r_ (ra1 c6 (.slice ab (gtrimS (g.set (u1.length : Int).toNat (wu32 a))).length ac) ⟨(gtrimS (g.set (u1.length : Int).toNat (wu32 a))), ab, ac, bf, rfl, c5, bg, c4.kp⟩)
 refine k_ (sqH ?_); intro c8 bj
 refine bt q o 3 [] [] [(17, i6 (w64 ((u0.length : Int) + 1)))] ?_; intro eu bk
 obtain ⟨ev, c9⟩ := c7
 refine mks bk o (T := (tyInt .u32)) (w64 ((u0.length : Int) + 1)) (w64 ((u0.length : Int) + 1)) (k := .i64) (k' := .i64) (e := 105) (bytes := 4) (zs := [.int .u32 0]) (z := 0) (by simp only [lim]; omega) (nog rfl _) rfl (by kernel_rfl) rfl (by kernel_rfl) (by kernel_rfl) (by kernel_rfl) (by kernel_rfl) rfl ?_; intro h ew da bl bm
 have J : Mem w.heap.size [] w Z [.own (tyInt .u32) 105 (sm h) (w64 ((u0.length : Int) + 1)).toNat (List.replicate (w64 ((u0.length : Int) + 1)).toNat (0 : Int))] Z da := bm
 refine s1 bl 5 (.slice (sm h) (List.replicate (w64 ((u0.length : Int) + 1)).toNat (0 : Int)).length (w64 ((u0.length : Int) + 1)).toNat) ?_; intro ex bn
 apply bj
 refine sqB bn J [] [] [(6, y6 0)] ?_; intro ey bo
 refine s_ (sqB bo J [] [] [(7, i6 0)] ?_); intro bp bq
 apply b_
 have br : Fr 58 [] [⟨0, [], .slice ao1 u0.length cap2⟩, ⟨1, [], .slice ao4 u1.length cap5⟩, ⟨5, [], .slice (sm h) (List.replicate (w64 ((u0.length : Int) + 1)).toNat (0 : Int)).length (w64 ((u0.length : Int) + 1)).toNat⟩, ⟨6, [], y6 0⟩, ⟨7, [], i6 0⟩] bp := bq.reg
 obtain ⟨db, dc, dd, de⟩ := c9
 refine lp (ι := Int × Int × (List Int)) (fun s => [⟨0, [], .slice ao1 u0.length cap2⟩, ⟨1, [], .slice ao4 u1.length cap5⟩, ⟨5, [], .slice (sm h) s.2.2.length (w64 ((u0.length : Int) + 1)).toNat⟩, ⟨6, [], y6 s.1⟩, ⟨7, [], i6 s.2.1⟩]) (fun s => [.own (tyInt .u32) 105 (sm h) (w64 ((u0.length : Int) + 1)).toNat s.2.2]) (fun s => Z) (fun s => db s.1 s.2.1 s.2.2) (fun s => dc s.1 s.2.1 s.2.2) ⟨0, 0, (List.replicate (w64 ((u0.length : Int) + 1)).toNat (0 : Int))⟩ dd (by exact br.reg) (by exact J) ?_
 rintro ⟨a, b, i⟩ df dg dh bu bv
 have L := de a b i df
 refine s_ (sqB bu bv [] [] [(22, .bool (decide (b < (u0.length : Int))))] ?_); intro ez y
 refine c_ y L (fun _ di => ?_) fun _ dP => ?_
 ·
  refine k_ (s_ (b_ (sqH ?_))); intro dj bx
  refine bt y bv 3 [] [] [(25, y6 a), (26, .slice ao1 u0.length cap2), (27, i6 b)] ?_; intro eA bz
  obtain ⟨dk, bA⟩ := di
  refine ix_ bz hs3 b dk .i64 105 4 ?_; intro bB bC dl d eB dm dn dp bD
  have M := bA d dm
  obtain rfl : dl = ([.int .u32 d] : List Value) := dp
  refine z1 bD bv 29 dn 0 (.int .u32 d) rfl ?_; intro eC bE
  refine bt bE bv 3 [] [] [(6, y6 (wu64 (a + (wu64 d))))] ?_; intro eD bF
  apply bx
  refine s_ (sqB bF bv [] [] [(35, .bool (decide (b < (u1.length : Int))))] ?_); intro eE A
  refine c_ A M (fun _ dq => ?_) fun _ dH => ?_
  ·
   refine rgH ?_; intro dr bG
   refine bt A bv 3 [] [] [(36, y6 (wu64 (a + (wu64 d)))), (37, .slice ao4 u1.length cap5), (38, i6 b)] ?_; intro eF bH
   obtain ⟨ds, bI⟩ := dq
   refine ix_ bH hs6 b ds .i64 105 4 ?_; intro dt du dv n eG dw dx dy bJ
   have dz := bI n dw
   obtain rfl : dv = ([.int .u32 n] : List Value) := dy
   refine z1 bJ bv 40 dx 0 (.int .u32 n) rfl ?_; intro eH bK
   refine bt bK bv 3 [] [] [(6, y6 (wu64 ((wu64 (a + (wu64 d))) + (wu64 n))))] ?_; intro eI bL
   apply bG
   refine t_ (sqH ?_); intro dA bM
   refine bt bL bv 4 [] [] [(43, .slice (sm h) i.length (w64 ((u0.length : Int) + 1)).toNat), (44, i6 b), (46, .int .u32 (wu32 (wu64 ((wu64 (a + (wu64 d))) + (wu64 n)))))] ?_; intro eJ bN
   obtain ⟨dB, bO⟩ := dz
   refine ixo bN bv 0 (T := (tyInt .u32)) (xs := i) b dB (k := .i64) (e := 105) (bytes := 4) (nog rfl _) rfl (by kernel_rfl) rfl (by kernel_rfl) (by kernel_rfl) rfl (by kernel_rfl) ?_; intro dC dD dE N
   obtain rfl : h = dC := by simpa using dE
   refine so N bv 0 (T := (tyInt .u32)) (xs := i) b.toNat (wu32 (wu64 ((wu64 (a + (wu64 d))) + (wu64 n)))) (u := .int .u32 (wu32 (wu64 ((wu64 (a + (wu64 d))) + (wu64 n))))) (nog rfl _) rfl rfl (by kernel_rfl) rfl (by kernel_rfl) rfl (by kernel_rfl) (by first | omega | (simp only [List.length_set] at *; omega)) rfl ?_; intro dF bP
   have bQ : Fr 58 [] [⟨0, [], .slice ao1 u0.length cap2⟩, ⟨1, [], .slice ao4 u1.length cap5⟩, ⟨5, [], .slice (sm h) (i.set b.toNat (wu32 (wu64 ((wu64 (a + (wu64 d))) + (wu64 n))))).length (w64 ((u0.length : Int) + 1)).toNat⟩, ⟨6, [], y6 (wu64 ((wu64 (a + (wu64 d))) + (wu64 n)))⟩, ⟨7, [], i6 b⟩, ⟨22, [], .bool (decide (b < (u0.length : Int)))⟩, ⟨25, [], y6 a⟩, ⟨26, [], .slice ao1 u0.length cap2⟩, ⟨27, [], i6 b⟩, ⟨28, [], pt bB bC⟩, ⟨29, [], .int .u32 d⟩, ⟨35, [], .bool (decide (b < (u1.length : Int)))⟩, ⟨36, [], y6 (wu64 (a + (wu64 d)))⟩, ⟨37, [], .slice ao4 u1.length cap5⟩, ⟨38, [], i6 b⟩, ⟨39, [], pt dt du⟩, ⟨40, [], .int .u32 n⟩, ⟨43, [], .slice (sm h) (i.set b.toNat (wu32 (wu64 ((wu64 (a + (wu64 d))) + (wu64 n))))).length (w64 ((u0.length : Int) + 1)).toNat⟩, ⟨44, [], i6 b⟩, ⟨46, [], .int .u32 (wu32 (wu64 ((wu64 (a + (wu64 d))) + (wu64 n))))⟩, ⟨47, [], .pointer (some ⟨h, b.toNat * 1, none⟩)⟩] dD := by (try simp only [List.length_set] at N); (try simp only [List.length_set]); exact N.reg
   have af : Mem w.heap.size [] w Z [.own (tyInt .u32) 105 (sm h) (w64 ((u0.length : Int) + 1)).toNat (i.set b.toNat (wu32 (wu64 ((wu64 (a + (wu64 d))) + (wu64 n)))))] Z dF := bP
   apply bM
   refine rgB bQ af [] [] [(6, y6 (bShr .u64 (wu64 ((wu64 (a + (wu64 d))) + (wu64 n))) 32))] ?_; intro eK bR
   refine j_ (t_ (rgB bR af [] [] [(7, i6 (w64 (b + 1)))] ?_)); intro eL dG
   exact d_ ⟨⟨bShr .u64 (wu64 ((wu64 (a + (wu64 d))) + (wu64 n))) 32, w64 (b + 1), i.set b.toNat (wu32 (wu64 ((wu64 (a + (wu64 d))) + (wu64 n))))⟩, bO.1, bO.2, (dG.reg).anyβ _ (by kernel_rfl), af.kp⟩
  refine k_ (sqH ?_); intro dI bS
  refine bt A bv 4 [] [] [(43, .slice (sm h) i.length (w64 ((u0.length : Int) + 1)).toNat), (44, i6 b), (46, .int .u32 (wu32 (wu64 (a + (wu64 d)))))] ?_; intro eM bT
  obtain ⟨dJ, bU⟩ := dH
  refine ixo bT bv 0 (T := (tyInt .u32)) (xs := i) b dJ (k := .i64) (e := 105) (bytes := 4) (nog rfl _) rfl (by kernel_rfl) rfl (by kernel_rfl) (by kernel_rfl) rfl (by kernel_rfl) ?_; intro dK dL dM O
  obtain rfl : h = dK := by simpa using dM
  refine so O bv 0 (T := (tyInt .u32)) (xs := i) b.toNat (wu32 (wu64 (a + (wu64 d)))) (u := .int .u32 (wu32 (wu64 (a + (wu64 d))))) (nog rfl _) rfl rfl (by kernel_rfl) rfl (by kernel_rfl) rfl (by kernel_rfl) (by first | omega | (simp only [List.length_set] at *; omega)) rfl ?_; intro dN bV
  have bW : Fr 58 [] [⟨0, [], .slice ao1 u0.length cap2⟩, ⟨1, [], .slice ao4 u1.length cap5⟩, ⟨5, [], .slice (sm h) (i.set b.toNat (wu32 (wu64 (a + (wu64 d))))).length (w64 ((u0.length : Int) + 1)).toNat⟩, ⟨6, [], y6 (wu64 (a + (wu64 d)))⟩, ⟨7, [], i6 b⟩, ⟨22, [], .bool (decide (b < (u0.length : Int)))⟩, ⟨25, [], y6 a⟩, ⟨26, [], .slice ao1 u0.length cap2⟩, ⟨27, [], i6 b⟩, ⟨28, [], pt bB bC⟩, ⟨29, [], .int .u32 d⟩, ⟨35, [], .bool (decide (b < (u1.length : Int)))⟩, ⟨43, [], .slice (sm h) (i.set b.toNat (wu32 (wu64 (a + (wu64 d))))).length (w64 ((u0.length : Int) + 1)).toNat⟩, ⟨44, [], i6 b⟩, ⟨46, [], .int .u32 (wu32 (wu64 (a + (wu64 d))))⟩, ⟨47, [], .pointer (some ⟨h, b.toNat * 1, none⟩)⟩] dL := by (try simp only [List.length_set] at O); (try simp only [List.length_set]); exact O.reg
  have ag : Mem w.heap.size [] w Z [.own (tyInt .u32) 105 (sm h) (w64 ((u0.length : Int) + 1)).toNat (i.set b.toNat (wu32 (wu64 (a + (wu64 d)))))] Z dN := bV
  apply bS
  refine rgB bW ag [] [] [(6, y6 (bShr .u64 (wu64 (a + (wu64 d))) 32))] ?_; intro eN bX
  refine j_ (t_ (rgB bX ag [] [] [(7, i6 (w64 (b + 1)))] ?_)); intro eO dO
  exact d_ ⟨⟨bShr .u64 (wu64 (a + (wu64 d))) 32, w64 (b + 1), i.set b.toNat (wu32 (wu64 (a + (wu64 d))))⟩, bU.1, bU.2, (dO.reg).anyβ _ (by kernel_rfl), ag.kp⟩
 refine x_ (y_ (y_ (z_ (t_ (sqH ?_))))); intro dQ bY
 refine bt y bv 5 [] [] [(50, .slice (sm h) i.length (w64 ((u0.length : Int) + 1)).toNat), (52, i6 (u0.length : Int)), (54, .int .u32 (wu32 a))] ?_; intro eP bZ
 obtain ⟨dR, b0⟩ := dP
 refine ixo bZ bv 0 (T := (tyInt .u32)) (xs := i) (u0.length : Int) dR (k := .i64) (e := 105) (bytes := 4) (nog rfl _) rfl (by kernel_rfl) rfl (by kernel_rfl) (by kernel_rfl) rfl (by kernel_rfl) ?_; intro dS dT dU P
 obtain rfl : h = dS := by simpa using dU
 refine so P bv 0 (T := (tyInt .u32)) (xs := i) (u0.length : Int).toNat (wu32 a) (u := .int .u32 (wu32 a)) (nog rfl _) rfl rfl (by kernel_rfl) rfl (by kernel_rfl) rfl (by kernel_rfl) (by first | omega | (simp only [List.length_set] at *; omega)) rfl ?_; intro b1 b2
 have b3 : Fr 58 [] [⟨0, [], .slice ao1 u0.length cap2⟩, ⟨1, [], .slice ao4 u1.length cap5⟩, ⟨5, [], .slice (sm h) (i.set (u0.length : Int).toNat (wu32 a)).length (w64 ((u0.length : Int) + 1)).toNat⟩, ⟨6, [], y6 a⟩, ⟨7, [], i6 b⟩, ⟨22, [], .bool (decide (b < (u0.length : Int)))⟩, ⟨50, [], .slice (sm h) (i.set (u0.length : Int).toNat (wu32 a)).length (w64 ((u0.length : Int) + 1)).toNat⟩, ⟨52, [], i6 (u0.length : Int)⟩, ⟨54, [], .int .u32 (wu32 a)⟩, ⟨55, [], .pointer (some ⟨h, (u0.length : Int).toNat * 1, none⟩)⟩] dT := by (try simp only [List.length_set] at P); (try simp only [List.length_set]); exact P.reg
 have dV : Mem w.heap.size [] w Z [.own (tyInt .u32) 105 (sm h) (w64 ((u0.length : Int) + 1)).toNat (i.set (u0.length : Int).toNat (wu32 a))] Z b1 := b2
 apply bY
 refine sqH ?_; intro dW b4
 refine s1 b3 56 (.slice (sm h) (i.set (u0.length : Int).toNat (wu32 a)).length (w64 ((u0.length : Int) + 1)).toNat) ?_; intro eQ b5
 obtain ⟨dX, ah, b6, ai⟩ := dV.freeze 0 rfl
 have aj : Mem w.heap.size [] w Z [] dX b1 := b6
 refine ck b5 105 #[.slice (sm h) (i.set (u0.length : Int).toNat (wu32 a)).length (w64 ((u0.length : Int) + 1)).toNat] ?_
 refine (gtrim_fun (i.set (u0.length : Int).toNat (wu32 a)) (sm h) (w64 ((u0.length : Int) + 1)).toNat _ _ ai aj.fz).mono ?_; rintro _ dY ⟨ak, al, b7, rfl, b8, hm⟩; refine ⟨_, rfl, ?_⟩; intro eR b9; have ca := aj.callZ hm
 have dZ : Mem w.heap.size [] w Z [] b7 dY := ca
 have d0 := b0 (b8.small)
 refine s1 b9 4 (.slice ak (gtrimS (i.set (u0.length : Int).toNat (wu32 a))).length al) ?_; intro eS d1
 apply b4
 exact r_ (ra1 d1 (.slice ak (gtrimS (i.set (u0.length : Int).toNat (wu32 a))).length al) ⟨(gtrimS (i.set (u0.length : Int).toNat (wu32 a))), ak, al, b7, rfl, d0, b8, dZ.kp⟩)
theorem gsub_walk (u0 : List Int) (u1 : List Int) (ao1 : Option Addr) (cap2 : Nat) (ao4 : Option Addr) (cap5 : Nat) (Z : Fz) (w : World) (hs3 : SlR (tyInt .u32) Z ao1 cap2 u0) (hs6 : SlR (tyInt .u32) Z ao4 cap5 u1) (hZ : Z.on w) {K : (List Int) → Prop} (hp : gsub_vc u0 u1 K) : Calls Tryz.prog 82 #[.slice ao1 u0.length cap2, .slice ao4 u1.length cap5] w fun e w' => ∃ (r : (List Int)) (ao1001 : Option Addr) (cap1002 : Nat) (Z' : Fz), e = .returned (.slice ao1001 r.length cap1002) ∧ K r ∧ SlR (tyInt .u32) Z' ao1001 cap1002 r ∧ Mem w.heap.size [] w Z [] Z' w' := by
 refine enter0 Tryz.func82 rfl rfl (by kernel_rfl) ?_; intro a0 I; have l := Mem.start w Z hZ
 have aM := hp (hs3.small) (hs6.small)
 refine sqB I l [] [] [] ?_; intro bB L
 refine sqH ?_; intro aN M
 refine bt L l 2 [] [] [(10, i6 (u0.length : Int))] ?_; intro bC N
 obtain ⟨bD, aO⟩ := aM
 refine mks N l (T := (tyInt .u32)) (u0.length : Int) (u0.length : Int) (k := .i64) (k' := .i64) (e := 105) (bytes := 4) (zs := [.int .u32 0]) (z := 0) (by simp only [lim]; omega) (nog rfl _) rfl (by kernel_rfl) rfl (by kernel_rfl) (by kernel_rfl) (by kernel_rfl) (by kernel_rfl) rfl ?_; intro d bE aP O P
 have n : Mem w.heap.size [] w Z [.own (tyInt .u32) 105 (sm d) (u0.length : Int).toNat (List.replicate (u0.length : Int).toNat (0 : Int))] Z aP := P
 refine s1 O 5 (.slice (sm d) (List.replicate (u0.length : Int).toNat (0 : Int)).length (u0.length : Int).toNat) ?_; intro bF Q
 apply M
 refine sqB Q n [] [] [(6, y6 0)] ?_; intro bG R
 refine s_ (sqB R n [] [] [(7, i6 0)] ?_); intro S U
 apply b_
 have V : Fr 45 [] [⟨0, [], .slice ao1 u0.length cap2⟩, ⟨1, [], .slice ao4 u1.length cap5⟩, ⟨5, [], .slice (sm d) (List.replicate (u0.length : Int).toNat (0 : Int)).length (u0.length : Int).toNat⟩, ⟨6, [], y6 0⟩, ⟨7, [], i6 0⟩] S := U.reg
 obtain ⟨aQ, aR, aS, aT⟩ := aO
 refine lp (ι := Int × Int × (List Int)) (fun s => [⟨0, [], .slice ao1 u0.length cap2⟩, ⟨1, [], .slice ao4 u1.length cap5⟩, ⟨5, [], .slice (sm d) s.2.2.length (u0.length : Int).toNat⟩, ⟨6, [], y6 s.1⟩, ⟨7, [], i6 s.2.1⟩]) (fun s => [.own (tyInt .u32) 105 (sm d) (u0.length : Int).toNat s.2.2]) (fun s => Z) (fun s => aQ s.1 s.2.1 s.2.2) (fun s => aR s.1 s.2.1 s.2.2) ⟨0, 0, (List.replicate (u0.length : Int).toNat (0 : Int))⟩ aS (by exact V.reg) (by exact n) ?_
 rintro ⟨c, a, f⟩ aU aV X Y aa
 have o := aT c a f aU
 refine s_ (sqB Y aa [] [] [(15, .bool (decide (a < (u0.length : Int))))] ?_); intro bH i
 refine c_ i o (fun _ aW => ?_) fun _ aE => ?_
 ·
  refine k_ (s_ (b_ (sqH ?_))); intro aX ac
  refine bt i aa 2 [] [] [(18, .slice ao1 u0.length cap2), (19, i6 a)] ?_; intro bI ad
  obtain ⟨aY, ae⟩ := aW
  refine ix_ ad hs3 a aY .i64 105 4 ?_; intro af ag aZ b bJ a1 a2 a3 ah
  have p := ae b a1
  obtain rfl : aZ = ([.int .u32 b] : List Value) := a3
  refine z1 ah aa 21 a2 0 (.int .u32 b) rfl ?_; intro bK ai
  refine bt ai aa 4 [] [] [(8, y6 (wu64 ((wu64 b) - c)))] ?_; intro bL aj
  apply ac
  refine s_ (sqB aj aa [] [] [(28, .bool (decide (a < (u1.length : Int))))] ?_); intro bM j
  refine c_ j p (fun _ a4 => ?_) fun _ bl => ?_
  ·
   refine rgH ?_; intro a5 ak
   refine bt j aa 3 [] [] [(29, y6 (wu64 ((wu64 b) - c))), (30, .slice ao4 u1.length cap5), (31, i6 a)] ?_; intro bN al
   obtain ⟨a6, am⟩ := a4
   refine ix_ al hs6 a a6 .i64 105 4 ?_; intro a7 a8 a9 h bO ba bb bc an
   have bd := am h ba
   obtain rfl : a9 = ([.int .u32 h] : List Value) := bc
   refine z1 an aa 33 bb 0 (.int .u32 h) rfl ?_; intro bP ao
   refine bt ao aa 3 [] [] [(8, y6 (wu64 ((wu64 ((wu64 b) - c)) - (wu64 h))))] ?_; intro bQ ap
   apply ak
   refine t_ (sqH ?_); intro be aq
   refine bt ap aa 4 [] [] [(36, .slice (sm d) f.length (u0.length : Int).toNat), (37, i6 a), (39, .int .u32 (wu32 (wu64 ((wu64 ((wu64 b) - c)) - (wu64 h)))))] ?_; intro bR ar
   obtain ⟨bf, au⟩ := bd
   refine ixo ar aa 0 (T := (tyInt .u32)) (xs := f) a bf (k := .i64) (e := 105) (bytes := 4) (nog rfl _) rfl (by kernel_rfl) rfl (by kernel_rfl) (by kernel_rfl) rfl (by kernel_rfl) ?_; intro bg bh bi q
   obtain rfl : d = bg := by simpa using bi
   refine so q aa 0 (T := (tyInt .u32)) (xs := f) a.toNat (wu32 (wu64 ((wu64 ((wu64 b) - c)) - (wu64 h)))) (u := .int .u32 (wu32 (wu64 ((wu64 ((wu64 b) - c)) - (wu64 h))))) (nog rfl _) rfl rfl (by kernel_rfl) rfl (by kernel_rfl) rfl (by kernel_rfl) (by first | omega | (simp only [List.length_set] at *; omega)) rfl ?_; intro bj av
   have aw : Fr 45 [] [⟨0, [], .slice ao1 u0.length cap2⟩, ⟨1, [], .slice ao4 u1.length cap5⟩, ⟨5, [], .slice (sm d) (f.set a.toNat (wu32 (wu64 ((wu64 ((wu64 b) - c)) - (wu64 h))))).length (u0.length : Int).toNat⟩, ⟨6, [], y6 c⟩, ⟨7, [], i6 a⟩, ⟨8, [], y6 (wu64 ((wu64 ((wu64 b) - c)) - (wu64 h)))⟩, ⟨15, [], .bool (decide (a < (u0.length : Int)))⟩, ⟨18, [], .slice ao1 u0.length cap2⟩, ⟨19, [], i6 a⟩, ⟨20, [], pt af ag⟩, ⟨21, [], .int .u32 b⟩, ⟨28, [], .bool (decide (a < (u1.length : Int)))⟩, ⟨29, [], y6 (wu64 ((wu64 b) - c))⟩, ⟨30, [], .slice ao4 u1.length cap5⟩, ⟨31, [], i6 a⟩, ⟨32, [], pt a7 a8⟩, ⟨33, [], .int .u32 h⟩, ⟨36, [], .slice (sm d) (f.set a.toNat (wu32 (wu64 ((wu64 ((wu64 b) - c)) - (wu64 h))))).length (u0.length : Int).toNat⟩, ⟨37, [], i6 a⟩, ⟨39, [], .int .u32 (wu32 (wu64 ((wu64 ((wu64 b) - c)) - (wu64 h))))⟩, ⟨40, [], .pointer (some ⟨d, a.toNat * 1, none⟩)⟩] bh := by (try simp only [List.length_set] at q); (try simp only [List.length_set]); exact q.reg
   have B : Mem w.heap.size [] w Z [.own (tyInt .u32) 105 (sm d) (u0.length : Int).toNat (f.set a.toNat (wu32 (wu64 ((wu64 ((wu64 b) - c)) - (wu64 h)))))] Z bj := av
   apply aq
   refine rgB aw B [] [] [(6, y6 (bShr .u64 (wu64 ((wu64 ((wu64 b) - c)) - (wu64 h))) 63))] ?_; intro bS ax
   refine j_ (t_ (rgB ax B [] [] [(7, i6 (w64 (a + 1)))] ?_)); intro bT bk
   exact d_ ⟨⟨bShr .u64 (wu64 ((wu64 ((wu64 b) - c)) - (wu64 h))) 63, w64 (a + 1), f.set a.toNat (wu32 (wu64 ((wu64 ((wu64 b) - c)) - (wu64 h))))⟩, au.1, au.2, (bk.reg).anyβ _ (by kernel_rfl), B.kp⟩
  refine k_ (sqH ?_); intro bm ay
  refine bt j aa 4 [] [] [(36, .slice (sm d) f.length (u0.length : Int).toNat), (37, i6 a), (39, .int .u32 (wu32 (wu64 ((wu64 b) - c))))] ?_; intro bU az
  obtain ⟨bn, aA⟩ := bl
  refine ixo az aa 0 (T := (tyInt .u32)) (xs := f) a bn (k := .i64) (e := 105) (bytes := 4) (nog rfl _) rfl (by kernel_rfl) rfl (by kernel_rfl) (by kernel_rfl) rfl (by kernel_rfl) ?_; intro bo bp bq v
  obtain rfl : d = bo := by simpa using bq
  refine so v aa 0 (T := (tyInt .u32)) (xs := f) a.toNat (wu32 (wu64 ((wu64 b) - c))) (u := .int .u32 (wu32 (wu64 ((wu64 b) - c)))) (nog rfl _) rfl rfl (by kernel_rfl) rfl (by kernel_rfl) rfl (by kernel_rfl) (by first | omega | (simp only [List.length_set] at *; omega)) rfl ?_; intro br aB
  have aC : Fr 45 [] [⟨0, [], .slice ao1 u0.length cap2⟩, ⟨1, [], .slice ao4 u1.length cap5⟩, ⟨5, [], .slice (sm d) (f.set a.toNat (wu32 (wu64 ((wu64 b) - c)))).length (u0.length : Int).toNat⟩, ⟨6, [], y6 c⟩, ⟨7, [], i6 a⟩, ⟨8, [], y6 (wu64 ((wu64 b) - c))⟩, ⟨15, [], .bool (decide (a < (u0.length : Int)))⟩, ⟨18, [], .slice ao1 u0.length cap2⟩, ⟨19, [], i6 a⟩, ⟨20, [], pt af ag⟩, ⟨21, [], .int .u32 b⟩, ⟨28, [], .bool (decide (a < (u1.length : Int)))⟩, ⟨36, [], .slice (sm d) (f.set a.toNat (wu32 (wu64 ((wu64 b) - c)))).length (u0.length : Int).toNat⟩, ⟨37, [], i6 a⟩, ⟨39, [], .int .u32 (wu32 (wu64 ((wu64 b) - c)))⟩, ⟨40, [], .pointer (some ⟨d, a.toNat * 1, none⟩)⟩] bp := by (try simp only [List.length_set] at v); (try simp only [List.length_set]); exact v.reg
  have C : Mem w.heap.size [] w Z [.own (tyInt .u32) 105 (sm d) (u0.length : Int).toNat (f.set a.toNat (wu32 (wu64 ((wu64 b) - c))))] Z br := aB
  apply ay
  refine rgB aC C [] [] [(6, y6 (bShr .u64 (wu64 ((wu64 b) - c)) 63))] ?_; intro bV aD
  refine j_ (t_ (rgB aD C [] [] [(7, i6 (w64 (a + 1)))] ?_)); intro bW bs
  exact d_ ⟨⟨bShr .u64 (wu64 ((wu64 b) - c)) 63, w64 (a + 1), f.set a.toNat (wu32 (wu64 ((wu64 b) - c)))⟩, aA.1, aA.2, (bs.reg).anyβ _ (by kernel_rfl), C.kp⟩
 refine x_ (y_ (y_ (z_ (t_ (sqH ?_))))); intro bu aF
 refine s1 i 43 (.slice (sm d) f.length (u0.length : Int).toNat) ?_; intro bX aG
 obtain ⟨bv, D, aH, E⟩ := aa.freeze 0 rfl
 have F : Mem w.heap.size [] w Z [] bv X := aH
 refine ck aG 105 #[.slice (sm d) f.length (u0.length : Int).toNat] ?_
 refine (gtrim_fun f (sm d) (u0.length : Int).toNat _ _ E F.fz).mono ?_; rintro _ bw ⟨G, H, aI, rfl, aJ, hm⟩; refine ⟨_, rfl, ?_⟩; intro bY aK; have aL := F.callZ hm
 have bx : Mem w.heap.size [] w Z [] aI bw := aL
 have bz := aE (aJ.small)
 refine s1 aK 4 (.slice G (gtrimS f).length H) ?_; intro bZ bA
 apply aF
 exact r_ (ra1 bA (.slice G (gtrimS f).length H) ⟨(gtrimS f), G, H, aI, rfl, bz, aJ, bx.kp⟩)
theorem gleft_walk (u0 : List Int) (u1 : Int) (ao1 : Option Addr) (cap2 : Nat) (Z : Fz) (w : World) (hs3 : SlR (tyInt .u32) Z ao1 cap2 u0) (hZ : Z.on w) {K : (List Int) → Prop} (hp : gleft_vc u0 u1 K) : Calls Tryz.prog 79 #[.slice ao1 u0.length cap2, y6 u1] w fun e w' => ∃ (r : (List Int)) (ao1001 : Option Addr) (cap1002 : Nat) (Z' : Fz), e = .returned (.slice ao1001 r.length cap1002) ∧ K r ∧ SlR (tyInt .u32) Z' ao1001 cap1002 r ∧ Mem w.heap.size [] w Z [] Z' w' := by
 refine enter0 Tryz.func79 rfl rfl (by kernel_rfl) ?_; intro a0 I; have j := Mem.start w Z hZ
 have p := hp (hs3.small)
 refine sqB I j [] [] [] ?_; intro a6 J
 refine s_ (sqB J j [] [] [(12, .bool ((u0.length : Int) == 0))] ?_); intro bN m
 refine c_ m p (fun _ aN => ?_) fun _ aP => ?_
 ·
  refine sqB m j [] [] [(4, .slice none 0 0)] ?_; intro bO aO
  exact r_ (h_ (ra1 aO (.slice none 0 0) ⟨[], none, 0, Z, rfl, aN, (SlR.nil _ _), j.kp⟩))
 refine k_ (sqB m j [] [] [(5, i6 (w64 (wu64 (u1.tdiv 32)))), (6, y6 (u1.tmod 32))] ?_); intro bP L
 refine sqH ?_; intro aQ M
 refine bt L j 5 [] [] [(22, i6 (w64 ((w64 ((u0.length : Int) + (w64 (wu64 (u1.tdiv 32))))) + 1)))] ?_; intro bQ N
 obtain ⟨bR, aR⟩ := aP
 refine mks N j (T := (tyInt .u32)) (w64 ((w64 ((u0.length : Int) + (w64 (wu64 (u1.tdiv 32))))) + 1)) (w64 ((w64 ((u0.length : Int) + (w64 (wu64 (u1.tdiv 32))))) + 1)) (k := .i64) (k' := .i64) (e := 105) (bytes := 4) (zs := [.int .u32 0]) (z := 0) (by simp only [lim]; omega) (nog rfl _) rfl (by kernel_rfl) rfl (by kernel_rfl) (by kernel_rfl) (by kernel_rfl) (by kernel_rfl) rfl ?_; intro c bS aS O P
 have A : Mem w.heap.size [] w Z [.own (tyInt .u32) 105 (sm c) (w64 ((w64 ((u0.length : Int) + (w64 (wu64 (u1.tdiv 32))))) + 1)).toNat (List.replicate (w64 ((w64 ((u0.length : Int) + (w64 (wu64 (u1.tdiv 32))))) + 1)).toNat (0 : Int))] Z aS := P
 refine s1 O 7 (.slice (sm c) (List.replicate (w64 ((w64 ((u0.length : Int) + (w64 (wu64 (u1.tdiv 32))))) + 1)).toNat (0 : Int)).length (w64 ((w64 ((u0.length : Int) + (w64 (wu64 (u1.tdiv 32))))) + 1)).toNat) ?_; intro bT Q
 apply M
 refine s_ (sqB Q A [] [] [(8, i6 0)] ?_); intro R S
 apply b_
 have U : Fr 61 [] [⟨0, [], .slice ao1 u0.length cap2⟩, ⟨5, [], i6 (w64 (wu64 (u1.tdiv 32)))⟩, ⟨6, [], y6 (u1.tmod 32)⟩, ⟨7, [], .slice (sm c) (List.replicate (w64 ((w64 ((u0.length : Int) + (w64 (wu64 (u1.tdiv 32))))) + 1)).toNat (0 : Int)).length (w64 ((w64 ((u0.length : Int) + (w64 (wu64 (u1.tdiv 32))))) + 1)).toNat⟩, ⟨8, [], i6 0⟩] R := S.reg
 obtain ⟨aT, aU, aV, aW⟩ := aR
 refine lp (ι := Int × (List Int)) (fun s => [⟨0, [], .slice ao1 u0.length cap2⟩, ⟨5, [], i6 (w64 (wu64 (u1.tdiv 32)))⟩, ⟨6, [], y6 (u1.tmod 32)⟩, ⟨7, [], .slice (sm c) s.2.length (w64 ((w64 ((u0.length : Int) + (w64 (wu64 (u1.tdiv 32))))) + 1)).toNat⟩, ⟨8, [], i6 s.1⟩]) (fun s => [.own (tyInt .u32) 105 (sm c) (w64 ((w64 ((u0.length : Int) + (w64 (wu64 (u1.tdiv 32))))) + 1)).toNat s.2]) (fun s => Z) (fun s => aT s.1 s.2) (fun s => aU s.1 s.2) ⟨0, (List.replicate (w64 ((w64 ((u0.length : Int) + (w64 (wu64 (u1.tdiv 32))))) + 1)).toNat (0 : Int))⟩ aV (by exact U.reg) (by exact A) ?_
 rintro ⟨a, d⟩ aX aY W X Y
 have q := aW a d aX
 refine s_ (sqB X Y [] [] [(27, .bool (decide (a < (u0.length : Int))))] ?_); intro bU n
 refine c_ n q (fun _ aZ => ?_) fun _ aE => ?_
 ·
  refine k_ (s_ (b_ (sqH ?_))); intro a1 ab
  refine bt n Y 2 [] [] [(30, .slice ao1 u0.length cap2), (31, i6 a)] ?_; intro bV ac
  obtain ⟨a2, ad⟩ := aZ
  refine ix_ ac hs3 a a2 .i64 105 4 ?_; intro ae af a3 b bW a4 a5 a7 ag
  have a8 := ad b a4
  obtain rfl : a3 = ([.int .u32 b] : List Value) := a7
  refine z1 ag Y 33 a5 0 (.int .u32 b) rfl ?_; intro bX ah
  refine bt ah Y 2 [] [] [(34, y6 (wu64 b)), (35, y6 (u1.tmod 32))] ?_; intro bY C
  obtain ⟨a9, ba⟩ := a8
  refine u_ C (y6 (bShl .u64 (wu64 b) (u1.tmod 32))) (shl_run C (g := []) (k' := .u64) rfl (by kernel_rfl) (by kernel_rfl) a9 rfl) ?_; intro bZ ai
  refine s1 ai 9 (y6 (bShl .u64 (wu64 b) (u1.tmod 32))) ?_; intro b0 aj
  apply ab
  refine sqH ?_; intro bb ak
  refine bt aj Y 4 [] [] [(37, .slice (sm c) d.length (w64 ((w64 ((u0.length : Int) + (w64 (wu64 (u1.tdiv 32))))) + 1)).toNat), (40, i6 (w64 (a + (w64 (wu64 (u1.tdiv 32))))))] ?_; intro b1 al
  obtain ⟨bc, am⟩ := ba
  refine ixo al Y 0 (T := (tyInt .u32)) (xs := d) (w64 (a + (w64 (wu64 (u1.tdiv 32))))) bc (k := .i64) (e := 105) (bytes := 4) (nog rfl _) rfl (by kernel_rfl) rfl (by kernel_rfl) (by kernel_rfl) rfl (by kernel_rfl) ?_; intro bd b2 be an
  obtain rfl : c = bd := by simpa using be
  obtain ⟨f, bf, bg⟩ := gxq am (by first | omega | (simp only [List.length_set] at *; omega))
  obtain ⟨bh, bi, bj⟩ := own_el Y 0 (T := (tyInt .u32)) (xs := d) rfl (w64 (a + (w64 (wu64 (u1.tdiv 32))))).toNat bf
  obtain rfl : bh = ([.int .u32 f] : List Value) := bi
  refine lc1 an 42 (.int .u32 f) (bj 0 _ rfl) rfl ?_; intro b3 ao
  refine bt ao Y 3 [] [] [(45, .int .u32 (bOr .u32 f (wu32 (bShl .u64 (wu64 b) (u1.tmod 32)))))] ?_; intro b4 ap
  obtain ⟨bk, bl⟩ := bg
  refine ixo ap Y 0 (T := (tyInt .u32)) (xs := d) (w64 (a + (w64 (wu64 (u1.tdiv 32))))) bk (k := .i64) (e := 105) (bytes := 4) (nog rfl _) rfl (by kernel_rfl) rfl (by kernel_rfl) (by kernel_rfl) rfl (by kernel_rfl) ?_; intro bm bn bo v
  obtain rfl : c = bm := by simpa using bo
  refine so v Y 0 (T := (tyInt .u32)) (xs := d) (w64 (a + (w64 (wu64 (u1.tdiv 32))))).toNat (bOr .u32 f (wu32 (bShl .u64 (wu64 b) (u1.tmod 32)))) (u := .int .u32 (bOr .u32 f (wu32 (bShl .u64 (wu64 b) (u1.tmod 32))))) (nog rfl _) rfl rfl (by kernel_rfl) rfl (by kernel_rfl) rfl (by kernel_rfl) (by first | omega | (simp only [List.length_set] at *; omega)) rfl ?_; intro bp aq
  have ar : Fr 61 [] [⟨0, [], .slice ao1 u0.length cap2⟩, ⟨5, [], i6 (w64 (wu64 (u1.tdiv 32)))⟩, ⟨6, [], y6 (u1.tmod 32)⟩, ⟨7, [], .slice (sm c) (d.set (w64 (a + (w64 (wu64 (u1.tdiv 32))))).toNat (bOr .u32 f (wu32 (bShl .u64 (wu64 b) (u1.tmod 32))))).length (w64 ((w64 ((u0.length : Int) + (w64 (wu64 (u1.tdiv 32))))) + 1)).toNat⟩, ⟨8, [], i6 a⟩, ⟨9, [], y6 (bShl .u64 (wu64 b) (u1.tmod 32))⟩, ⟨27, [], .bool (decide (a < (u0.length : Int)))⟩, ⟨30, [], .slice ao1 u0.length cap2⟩, ⟨31, [], i6 a⟩, ⟨32, [], pt ae af⟩, ⟨33, [], .int .u32 b⟩, ⟨34, [], y6 (wu64 b)⟩, ⟨35, [], y6 (u1.tmod 32)⟩, ⟨36, [], y6 (bShl .u64 (wu64 b) (u1.tmod 32))⟩, ⟨37, [], .slice (sm c) (d.set (w64 (a + (w64 (wu64 (u1.tdiv 32))))).toNat (bOr .u32 f (wu32 (bShl .u64 (wu64 b) (u1.tmod 32))))).length (w64 ((w64 ((u0.length : Int) + (w64 (wu64 (u1.tdiv 32))))) + 1)).toNat⟩, ⟨40, [], i6 (w64 (a + (w64 (wu64 (u1.tdiv 32)))))⟩, ⟨41, [], .pointer (some ⟨c, (w64 (a + (w64 (wu64 (u1.tdiv 32))))).toNat * 1, none⟩)⟩, ⟨42, [], .int .u32 f⟩, ⟨45, [], .int .u32 (bOr .u32 f (wu32 (bShl .u64 (wu64 b) (u1.tmod 32))))⟩, ⟨46, [], .pointer (some ⟨c, (w64 (a + (w64 (wu64 (u1.tdiv 32))))).toNat * 1, none⟩)⟩] bn := by (try simp only [List.length_set] at v); (try simp only [List.length_set]); exact v.reg
  have l : Mem w.heap.size [] w Z [.own (tyInt .u32) 105 (sm c) (w64 ((w64 ((u0.length : Int) + (w64 (wu64 (u1.tdiv 32))))) + 1)).toNat (d.set (w64 (a + (w64 (wu64 (u1.tdiv 32))))).toNat (bOr .u32 f (wu32 (bShl .u64 (wu64 b) (u1.tmod 32)))))] Z bp := aq
  apply ak
  refine rgH ?_; intro bq au
  refine bt ar l 5 [] [] [(47, .slice (sm c) (d.set (w64 (a + (w64 (wu64 (u1.tdiv 32))))).toNat (bOr .u32 f (wu32 (bShl .u64 (wu64 b) (u1.tmod 32))))).length (w64 ((w64 ((u0.length : Int) + (w64 (wu64 (u1.tdiv 32))))) + 1)).toNat), (51, i6 (w64 ((w64 (a + (w64 (wu64 (u1.tdiv 32))))) + 1)))] ?_; intro b5 av
  obtain ⟨br, aw⟩ := bl
  refine ixo av l 0 (T := (tyInt .u32)) (xs := d.set (w64 (a + (w64 (wu64 (u1.tdiv 32))))).toNat (bOr .u32 f (wu32 (bShl .u64 (wu64 b) (u1.tmod 32))))) (w64 ((w64 (a + (w64 (wu64 (u1.tdiv 32))))) + 1)) br (k := .i64) (e := 105) (bytes := 4) (nog rfl _) rfl (by kernel_rfl) rfl (by kernel_rfl) (by kernel_rfl) rfl (by kernel_rfl) ?_; intro bs b6 bu ax
  obtain rfl : c = bs := by simpa using bu
  obtain ⟨i, bv, bw⟩ := gxq aw (by first | omega | (simp only [List.length_set] at *; omega))
  obtain ⟨bx, bz, bA⟩ := own_el l 0 (T := (tyInt .u32)) (xs := d.set (w64 (a + (w64 (wu64 (u1.tdiv 32))))).toNat (bOr .u32 f (wu32 (bShl .u64 (wu64 b) (u1.tmod 32))))) rfl (w64 ((w64 (a + (w64 (wu64 (u1.tdiv 32))))) + 1)).toNat bv
  obtain rfl : bx = ([.int .u32 i] : List Value) := bz
  refine lc1 ax 53 (.int .u32 i) (bA 0 _ rfl) rfl ?_; intro b7 ay
  refine bt ay l 4 [] [] [(57, .int .u32 (bOr .u32 i (wu32 (bShr .u64 (bShl .u64 (wu64 b) (u1.tmod 32)) 32))))] ?_; intro b8 az
  obtain ⟨bB, aA⟩ := bw
  refine ixo az l 0 (T := (tyInt .u32)) (xs := d.set (w64 (a + (w64 (wu64 (u1.tdiv 32))))).toNat (bOr .u32 f (wu32 (bShl .u64 (wu64 b) (u1.tmod 32))))) (w64 ((w64 (a + (w64 (wu64 (u1.tdiv 32))))) + 1)) bB (k := .i64) (e := 105) (bytes := 4) (nog rfl _) rfl (by kernel_rfl) rfl (by kernel_rfl) (by kernel_rfl) rfl (by kernel_rfl) ?_; intro bC bD bE x
  obtain rfl : c = bC := by simpa using bE
  refine so x l 0 (T := (tyInt .u32)) (xs := d.set (w64 (a + (w64 (wu64 (u1.tdiv 32))))).toNat (bOr .u32 f (wu32 (bShl .u64 (wu64 b) (u1.tmod 32))))) (w64 ((w64 (a + (w64 (wu64 (u1.tdiv 32))))) + 1)).toNat (bOr .u32 i (wu32 (bShr .u64 (bShl .u64 (wu64 b) (u1.tmod 32)) 32))) (u := .int .u32 (bOr .u32 i (wu32 (bShr .u64 (bShl .u64 (wu64 b) (u1.tmod 32)) 32)))) (nog rfl _) rfl rfl (by kernel_rfl) rfl (by kernel_rfl) rfl (by kernel_rfl) (by first | omega | (simp only [List.length_set] at *; omega)) rfl ?_; intro bF aB
  have aC : Fr 61 [] [⟨0, [], .slice ao1 u0.length cap2⟩, ⟨5, [], i6 (w64 (wu64 (u1.tdiv 32)))⟩, ⟨6, [], y6 (u1.tmod 32)⟩, ⟨7, [], .slice (sm c) ((d.set (w64 (a + (w64 (wu64 (u1.tdiv 32))))).toNat (bOr .u32 f (wu32 (bShl .u64 (wu64 b) (u1.tmod 32))))).set (w64 ((w64 (a + (w64 (wu64 (u1.tdiv 32))))) + 1)).toNat (bOr .u32 i (wu32 (bShr .u64 (bShl .u64 (wu64 b) (u1.tmod 32)) 32)))).length (w64 ((w64 ((u0.length : Int) + (w64 (wu64 (u1.tdiv 32))))) + 1)).toNat⟩, ⟨8, [], i6 a⟩, ⟨9, [], y6 (bShl .u64 (wu64 b) (u1.tmod 32))⟩, ⟨27, [], .bool (decide (a < (u0.length : Int)))⟩, ⟨30, [], .slice ao1 u0.length cap2⟩, ⟨31, [], i6 a⟩, ⟨32, [], pt ae af⟩, ⟨33, [], .int .u32 b⟩, ⟨34, [], y6 (wu64 b)⟩, ⟨35, [], y6 (u1.tmod 32)⟩, ⟨36, [], y6 (bShl .u64 (wu64 b) (u1.tmod 32))⟩, ⟨37, [], .slice (sm c) ((d.set (w64 (a + (w64 (wu64 (u1.tdiv 32))))).toNat (bOr .u32 f (wu32 (bShl .u64 (wu64 b) (u1.tmod 32))))).set (w64 ((w64 (a + (w64 (wu64 (u1.tdiv 32))))) + 1)).toNat (bOr .u32 i (wu32 (bShr .u64 (bShl .u64 (wu64 b) (u1.tmod 32)) 32)))).length (w64 ((w64 ((u0.length : Int) + (w64 (wu64 (u1.tdiv 32))))) + 1)).toNat⟩, ⟨40, [], i6 (w64 (a + (w64 (wu64 (u1.tdiv 32)))))⟩, ⟨41, [], .pointer (some ⟨c, (w64 (a + (w64 (wu64 (u1.tdiv 32))))).toNat * 1, none⟩)⟩, ⟨42, [], .int .u32 f⟩, ⟨45, [], .int .u32 (bOr .u32 f (wu32 (bShl .u64 (wu64 b) (u1.tmod 32))))⟩, ⟨46, [], .pointer (some ⟨c, (w64 (a + (w64 (wu64 (u1.tdiv 32))))).toNat * 1, none⟩)⟩, ⟨47, [], .slice (sm c) ((d.set (w64 (a + (w64 (wu64 (u1.tdiv 32))))).toNat (bOr .u32 f (wu32 (bShl .u64 (wu64 b) (u1.tmod 32))))).set (w64 ((w64 (a + (w64 (wu64 (u1.tdiv 32))))) + 1)).toNat (bOr .u32 i (wu32 (bShr .u64 (bShl .u64 (wu64 b) (u1.tmod 32)) 32)))).length (w64 ((w64 ((u0.length : Int) + (w64 (wu64 (u1.tdiv 32))))) + 1)).toNat⟩, ⟨51, [], i6 (w64 ((w64 (a + (w64 (wu64 (u1.tdiv 32))))) + 1))⟩, ⟨52, [], .pointer (some ⟨c, (w64 ((w64 (a + (w64 (wu64 (u1.tdiv 32))))) + 1)).toNat * 1, none⟩)⟩, ⟨53, [], .int .u32 i⟩, ⟨57, [], .int .u32 (bOr .u32 i (wu32 (bShr .u64 (bShl .u64 (wu64 b) (u1.tmod 32)) 32)))⟩, ⟨58, [], .pointer (some ⟨c, (w64 ((w64 (a + (w64 (wu64 (u1.tdiv 32))))) + 1)).toNat * 1, none⟩)⟩] bD := by (try simp only [List.length_set] at x); (try simp only [List.length_set]); exact x.reg
  have aD : Mem w.heap.size [] w Z [.own (tyInt .u32) 105 (sm c) (w64 ((w64 ((u0.length : Int) + (w64 (wu64 (u1.tdiv 32))))) + 1)).toNat ((d.set (w64 (a + (w64 (wu64 (u1.tdiv 32))))).toNat (bOr .u32 f (wu32 (bShl .u64 (wu64 b) (u1.tmod 32))))).set (w64 ((w64 (a + (w64 (wu64 (u1.tdiv 32))))) + 1)).toNat (bOr .u32 i (wu32 (bShr .u64 (bShl .u64 (wu64 b) (u1.tmod 32)) 32))))] Z bF := aB
  apply au
  refine j_ (t_ (rgB aC aD [] [] [(8, i6 (w64 (a + 1)))] ?_)); intro b9 bG
  exact d_ ⟨⟨w64 (a + 1), (d.set (w64 (a + (w64 (wu64 (u1.tdiv 32))))).toNat (bOr .u32 f (wu32 (bShl .u64 (wu64 b) (u1.tmod 32))))).set (w64 ((w64 (a + (w64 (wu64 (u1.tdiv 32))))) + 1)).toNat (bOr .u32 i (wu32 (bShr .u64 (bShl .u64 (wu64 b) (u1.tmod 32)) 32)))⟩, aA.1, aA.2, (bG.reg).anyβ _ (by kernel_rfl), aD.kp⟩
 refine x_ (y_ (y_ (z_ (t_ (sqH ?_))))); intro bH aF
 refine s1 n 59 (.slice (sm c) d.length (w64 ((w64 ((u0.length : Int) + (w64 (wu64 (u1.tdiv 32))))) + 1)).toNat) ?_; intro ca aG
 obtain ⟨bI, aH, aI, D⟩ := Y.freeze 0 rfl
 have E : Mem w.heap.size [] w Z [] bI W := aI
 refine ck aG 105 #[.slice (sm c) d.length (w64 ((w64 ((u0.length : Int) + (w64 (wu64 (u1.tdiv 32))))) + 1)).toNat] ?_
 refine (gtrim_fun d (sm c) (w64 ((w64 ((u0.length : Int) + (w64 (wu64 (u1.tdiv 32))))) + 1)).toNat _ _ D E.fz).mono ?_; rintro _ bJ ⟨F, G, aJ, rfl, aK, hm⟩; refine ⟨_, rfl, ?_⟩; intro cb aL; have aM := E.callZ hm
 have bK : Mem w.heap.size [] w Z [] aJ bJ := aM
 have bL := aE (aK.small)
 refine s1 aL 4 (.slice F (gtrimS d).length G) ?_; intro cc bM
 apply aF
 exact r_ (ra1 bM (.slice F (gtrimS d).length G) ⟨(gtrimS d), F, G, aJ, rfl, bL, aK, bK.kp⟩)
theorem gright_walk (u0 : List Int) (u1 : Int) (ao1 : Option Addr) (cap2 : Nat) (Z : Fz) (w : World) (hs3 : SlR (tyInt .u32) Z ao1 cap2 u0) (hZ : Z.on w) {K : (List Int) → Prop} (hp : gright_vc u0 u1 K) : Calls Tryz.prog 81 #[.slice ao1 u0.length cap2, y6 u1] w fun e w' => ∃ (r : (List Int)) (ao1001 : Option Addr) (cap1002 : Nat) (Z' : Fz), e = .returned (.slice ao1001 r.length cap1002) ∧ K r ∧ SlR (tyInt .u32) Z' ao1001 cap1002 r ∧ Mem w.heap.size [] w Z [] Z' w' := by
 refine enter0 Tryz.func81 rfl rfl (by kernel_rfl) ?_; intro a0 L; have i := Mem.start w Z hZ
 have o := hp (hs3.small)
 refine sqB L i [] [] [] ?_; intro a6 M
 refine sqB M i [] [] [(5, i6 (w64 (wu64 (u1.tdiv 32)))), (6, y6 (u1.tmod 32))] ?_; intro bM N
 refine s_ (sqB N i [] [] [(18, .bool (decide ((w64 (wu64 (u1.tdiv 32))) ≥ (u0.length : Int))))] ?_); intro bN j
 refine c_ j o (fun _ aQ => ?_) fun _ aS => ?_
 ·
  refine sqB j i [] [] [(4, .slice none 0 0)] ?_; intro bO aR
  exact r_ (h_ (ra1 aR (.slice none 0 0) ⟨[], none, 0, Z, rfl, aQ, (SlR.nil _ _), i.kp⟩))
 refine k_ (sqH ?_); intro aT O
 refine bt j i 4 [] [] [(22, i6 (w64 ((u0.length : Int) - (w64 (wu64 (u1.tdiv 32))))))] ?_; intro bP P
 obtain ⟨bQ, aU⟩ := aS
 refine mks P i (T := (tyInt .u32)) (w64 ((u0.length : Int) - (w64 (wu64 (u1.tdiv 32))))) (w64 ((u0.length : Int) - (w64 (wu64 (u1.tdiv 32))))) (k := .i64) (k' := .i64) (e := 105) (bytes := 4) (zs := [.int .u32 0]) (z := 0) (by simp only [lim]; omega) (nog rfl _) rfl (by kernel_rfl) rfl (by kernel_rfl) (by kernel_rfl) (by kernel_rfl) (by kernel_rfl) rfl ?_; intro d bR aV Q R
 have A : Mem w.heap.size [] w Z [.own (tyInt .u32) 105 (sm d) (w64 ((u0.length : Int) - (w64 (wu64 (u1.tdiv 32))))).toNat (List.replicate (w64 ((u0.length : Int) - (w64 (wu64 (u1.tdiv 32))))).toNat (0 : Int))] Z aV := R
 refine s1 Q 7 (.slice (sm d) (List.replicate (w64 ((u0.length : Int) - (w64 (wu64 (u1.tdiv 32))))).toNat (0 : Int)).length (w64 ((u0.length : Int) - (w64 (wu64 (u1.tdiv 32))))).toNat) ?_; intro bS S
 apply O
 refine s_ (sqB S A [] [] [(8, i6 0)] ?_); intro U V
 apply b_
 have W : Fr 64 [] [⟨0, [], .slice ao1 u0.length cap2⟩, ⟨5, [], i6 (w64 (wu64 (u1.tdiv 32)))⟩, ⟨6, [], y6 (u1.tmod 32)⟩, ⟨7, [], .slice (sm d) (List.replicate (w64 ((u0.length : Int) - (w64 (wu64 (u1.tdiv 32))))).toNat (0 : Int)).length (w64 ((u0.length : Int) - (w64 (wu64 (u1.tdiv 32))))).toNat⟩, ⟨8, [], i6 0⟩] U := V.reg
 obtain ⟨aW, aX, aY, aZ⟩ := aU
 refine lp (ι := Int × (List Int)) (fun s => [⟨0, [], .slice ao1 u0.length cap2⟩, ⟨5, [], i6 (w64 (wu64 (u1.tdiv 32)))⟩, ⟨6, [], y6 (u1.tmod 32)⟩, ⟨7, [], .slice (sm d) s.2.length (w64 ((u0.length : Int) - (w64 (wu64 (u1.tdiv 32))))).toNat⟩, ⟨8, [], i6 s.1⟩]) (fun s => [.own (tyInt .u32) 105 (sm d) (w64 ((u0.length : Int) - (w64 (wu64 (u1.tdiv 32))))).toNat s.2]) (fun s => Z) (fun s => aW s.1 s.2) (fun s => aX s.1 s.2) ⟨0, (List.replicate (w64 ((u0.length : Int) - (w64 (wu64 (u1.tdiv 32))))).toNat (0 : Int))⟩ aY (by exact W.reg) (by exact A) ?_
 rintro ⟨a, c⟩ a1 a2 Y aa ab
 have p := aZ a c a1
 refine s_ (sqB aa ab [] [] [(27, .bool (decide (a < (c.length : Int))))] ?_); intro bT l
 refine c_ l p (fun _ a3 => ?_) fun _ aH => ?_
 ·
  refine k_ (s_ (b_ (sqH ?_))); intro a4 ad
  refine bt l ab 4 [] [] [(30, .slice ao1 u0.length cap2), (33, i6 (w64 (a + (w64 (wu64 (u1.tdiv 32))))))] ?_; intro bU ae
  obtain ⟨a5, af⟩ := a3
  refine ix_ ae hs3 (w64 (a + (w64 (wu64 (u1.tdiv 32))))) a5 .i64 105 4 ?_; intro ag ah a7 b bV a8 a9 ba ai
  have q := af b a8
  obtain rfl : a7 = ([.int .u32 b] : List Value) := ba
  refine z1 ai ab 35 a9 0 (.int .u32 b) rfl ?_; intro bW aj
  refine bt aj ab 2 [] [] [(9, y6 (wu64 b))] ?_; intro bX ak
  apply ad
  refine s_ (sqB ak ab [] [] [(43, .bool (decide ((w64 ((w64 (a + (w64 (wu64 (u1.tdiv 32))))) + 1)) < (u0.length : Int))))] ?_); intro bY m
  refine c_ m q (fun _ bb => ?_) fun _ bv => ?_
  ·
   refine rgH ?_; intro bc al
   refine bt m ab 6 [] [] [(44, y6 (wu64 b)), (45, .slice ao1 u0.length cap2), (49, i6 (w64 ((w64 (a + (w64 (wu64 (u1.tdiv 32))))) + 1)))] ?_; intro bZ am
   obtain ⟨bd, an⟩ := bb
   refine ix_ am hs3 (w64 ((w64 (a + (w64 (wu64 (u1.tdiv 32))))) + 1)) bd .i64 105 4 ?_; intro be bf bg f b0 bh bi bj ao
   have bk := an f bh
   obtain rfl : bg = ([.int .u32 f] : List Value) := bj
   refine z1 ao ab 51 bi 0 (.int .u32 f) rfl ?_; intro b1 ap
   refine bt ap ab 4 [] [] [(9, y6 (bOr .u64 (wu64 b) (bShl .u64 (wu64 f) 32)))] ?_; intro b2 aq
   apply al
   refine t_ (rgH ?_); intro bl ar
   refine bt aq ab 4 [] [] [(55, .slice (sm d) c.length (w64 ((u0.length : Int) - (w64 (wu64 (u1.tdiv 32))))).toNat), (56, i6 a), (57, y6 (bOr .u64 (wu64 b) (bShl .u64 (wu64 f) 32))), (58, y6 (u1.tmod 32))] ?_; intro b3 D
   obtain ⟨bm, bn⟩ := bk
   refine u_ D (y6 (bShr .u64 (bOr .u64 (wu64 b) (bShl .u64 (wu64 f) 32)) (u1.tmod 32))) (shr_run D (g := []) (k' := .u64) rfl (by kernel_rfl) (by kernel_rfl) bm rfl) ?_; intro b4 au
   refine s1 au 60 (.int .u32 (wu32 (bShr .u64 (bOr .u64 (wu64 b) (bShl .u64 (wu64 f) 32)) (u1.tmod 32)))) ?_; intro b5 av
   obtain ⟨bo, aw⟩ := bn
   refine ixo av ab 0 (T := (tyInt .u32)) (xs := c) a bo (k := .i64) (e := 105) (bytes := 4) (nog rfl _) rfl (by kernel_rfl) rfl (by kernel_rfl) (by kernel_rfl) rfl (by kernel_rfl) ?_; intro bp bq br v
   obtain rfl : d = bp := by simpa using br
   refine so v ab 0 (T := (tyInt .u32)) (xs := c) a.toNat (wu32 (bShr .u64 (bOr .u64 (wu64 b) (bShl .u64 (wu64 f) 32)) (u1.tmod 32))) (u := .int .u32 (wu32 (bShr .u64 (bOr .u64 (wu64 b) (bShl .u64 (wu64 f) 32)) (u1.tmod 32)))) (nog rfl _) rfl rfl (by kernel_rfl) rfl (by kernel_rfl) rfl (by kernel_rfl) (by first | omega | (simp only [List.length_set] at *; omega)) rfl ?_; intro bs ax
   have ay : Fr 64 [] [⟨0, [], .slice ao1 u0.length cap2⟩, ⟨5, [], i6 (w64 (wu64 (u1.tdiv 32)))⟩, ⟨6, [], y6 (u1.tmod 32)⟩, ⟨7, [], .slice (sm d) (c.set a.toNat (wu32 (bShr .u64 (bOr .u64 (wu64 b) (bShl .u64 (wu64 f) 32)) (u1.tmod 32)))).length (w64 ((u0.length : Int) - (w64 (wu64 (u1.tdiv 32))))).toNat⟩, ⟨8, [], i6 a⟩, ⟨9, [], y6 (bOr .u64 (wu64 b) (bShl .u64 (wu64 f) 32))⟩, ⟨27, [], .bool (decide (a < (c.length : Int)))⟩, ⟨30, [], .slice ao1 u0.length cap2⟩, ⟨33, [], i6 (w64 (a + (w64 (wu64 (u1.tdiv 32)))))⟩, ⟨34, [], pt ag ah⟩, ⟨35, [], .int .u32 b⟩, ⟨43, [], .bool (decide ((w64 ((w64 (a + (w64 (wu64 (u1.tdiv 32))))) + 1)) < (u0.length : Int)))⟩, ⟨44, [], y6 (wu64 b)⟩, ⟨45, [], .slice ao1 u0.length cap2⟩, ⟨49, [], i6 (w64 ((w64 (a + (w64 (wu64 (u1.tdiv 32))))) + 1))⟩, ⟨50, [], pt be bf⟩, ⟨51, [], .int .u32 f⟩, ⟨55, [], .slice (sm d) (c.set a.toNat (wu32 (bShr .u64 (bOr .u64 (wu64 b) (bShl .u64 (wu64 f) 32)) (u1.tmod 32)))).length (w64 ((u0.length : Int) - (w64 (wu64 (u1.tdiv 32))))).toNat⟩, ⟨56, [], i6 a⟩, ⟨57, [], y6 (bOr .u64 (wu64 b) (bShl .u64 (wu64 f) 32))⟩, ⟨58, [], y6 (u1.tmod 32)⟩, ⟨59, [], y6 (bShr .u64 (bOr .u64 (wu64 b) (bShl .u64 (wu64 f) 32)) (u1.tmod 32))⟩, ⟨60, [], .int .u32 (wu32 (bShr .u64 (bOr .u64 (wu64 b) (bShl .u64 (wu64 f) 32)) (u1.tmod 32)))⟩, ⟨61, [], .pointer (some ⟨d, a.toNat * 1, none⟩)⟩] bq := by (try simp only [List.length_set] at v); (try simp only [List.length_set]); exact v.reg
   have az : Mem w.heap.size [] w Z [.own (tyInt .u32) 105 (sm d) (w64 ((u0.length : Int) - (w64 (wu64 (u1.tdiv 32))))).toNat (c.set a.toNat (wu32 (bShr .u64 (bOr .u64 (wu64 b) (bShl .u64 (wu64 f) 32)) (u1.tmod 32))))] Z bs := ax
   apply ar
   refine j_ (t_ (rgB ay az [] [] [(8, i6 (w64 (a + 1)))] ?_)); intro b6 bu
   exact d_ ⟨⟨w64 (a + 1), c.set a.toNat (wu32 (bShr .u64 (bOr .u64 (wu64 b) (bShl .u64 (wu64 f) 32)) (u1.tmod 32)))⟩, aw.1, aw.2, (bu.reg).anyβ _ (by kernel_rfl), az.kp⟩
  refine k_ (rgH ?_); intro bw aA
  refine bt m ab 4 [] [] [(55, .slice (sm d) c.length (w64 ((u0.length : Int) - (w64 (wu64 (u1.tdiv 32))))).toNat), (56, i6 a), (57, y6 (wu64 b)), (58, y6 (u1.tmod 32))] ?_; intro b7 E
  obtain ⟨bx, bz⟩ := bv
  refine u_ E (y6 (bShr .u64 (wu64 b) (u1.tmod 32))) (shr_run E (g := []) (k' := .u64) rfl (by kernel_rfl) (by kernel_rfl) bx rfl) ?_; intro b8 aB
  refine s1 aB 60 (.int .u32 (wu32 (bShr .u64 (wu64 b) (u1.tmod 32)))) ?_; intro b9 aC
  obtain ⟨bA, aD⟩ := bz
  refine ixo aC ab 0 (T := (tyInt .u32)) (xs := c) a bA (k := .i64) (e := 105) (bytes := 4) (nog rfl _) rfl (by kernel_rfl) rfl (by kernel_rfl) (by kernel_rfl) rfl (by kernel_rfl) ?_; intro bB bC bD x
  obtain rfl : d = bB := by simpa using bD
  refine so x ab 0 (T := (tyInt .u32)) (xs := c) a.toNat (wu32 (bShr .u64 (wu64 b) (u1.tmod 32))) (u := .int .u32 (wu32 (bShr .u64 (wu64 b) (u1.tmod 32)))) (nog rfl _) rfl rfl (by kernel_rfl) rfl (by kernel_rfl) rfl (by kernel_rfl) (by first | omega | (simp only [List.length_set] at *; omega)) rfl ?_; intro bE aE
  have aF : Fr 64 [] [⟨0, [], .slice ao1 u0.length cap2⟩, ⟨5, [], i6 (w64 (wu64 (u1.tdiv 32)))⟩, ⟨6, [], y6 (u1.tmod 32)⟩, ⟨7, [], .slice (sm d) (c.set a.toNat (wu32 (bShr .u64 (wu64 b) (u1.tmod 32)))).length (w64 ((u0.length : Int) - (w64 (wu64 (u1.tdiv 32))))).toNat⟩, ⟨8, [], i6 a⟩, ⟨9, [], y6 (wu64 b)⟩, ⟨27, [], .bool (decide (a < (c.length : Int)))⟩, ⟨30, [], .slice ao1 u0.length cap2⟩, ⟨33, [], i6 (w64 (a + (w64 (wu64 (u1.tdiv 32)))))⟩, ⟨34, [], pt ag ah⟩, ⟨35, [], .int .u32 b⟩, ⟨43, [], .bool (decide ((w64 ((w64 (a + (w64 (wu64 (u1.tdiv 32))))) + 1)) < (u0.length : Int)))⟩, ⟨55, [], .slice (sm d) (c.set a.toNat (wu32 (bShr .u64 (wu64 b) (u1.tmod 32)))).length (w64 ((u0.length : Int) - (w64 (wu64 (u1.tdiv 32))))).toNat⟩, ⟨56, [], i6 a⟩, ⟨57, [], y6 (wu64 b)⟩, ⟨58, [], y6 (u1.tmod 32)⟩, ⟨59, [], y6 (bShr .u64 (wu64 b) (u1.tmod 32))⟩, ⟨60, [], .int .u32 (wu32 (bShr .u64 (wu64 b) (u1.tmod 32)))⟩, ⟨61, [], .pointer (some ⟨d, a.toNat * 1, none⟩)⟩] bC := by (try simp only [List.length_set] at x); (try simp only [List.length_set]); exact x.reg
  have aG : Mem w.heap.size [] w Z [.own (tyInt .u32) 105 (sm d) (w64 ((u0.length : Int) - (w64 (wu64 (u1.tdiv 32))))).toNat (c.set a.toNat (wu32 (bShr .u64 (wu64 b) (u1.tmod 32))))] Z bE := aE
  apply aA
  refine j_ (t_ (rgB aF aG [] [] [(8, i6 (w64 (a + 1)))] ?_)); intro ca bF
  exact d_ ⟨⟨w64 (a + 1), c.set a.toNat (wu32 (bShr .u64 (wu64 b) (u1.tmod 32)))⟩, aD.1, aD.2, (bF.reg).anyβ _ (by kernel_rfl), aG.kp⟩
 refine x_ (y_ (y_ (z_ (t_ (sqH ?_))))); intro bG aI
 refine s1 l 62 (.slice (sm d) c.length (w64 ((u0.length : Int) - (w64 (wu64 (u1.tdiv 32))))).toNat) ?_; intro cb aJ
 obtain ⟨bH, aK, aL, F⟩ := ab.freeze 0 rfl
 have G : Mem w.heap.size [] w Z [] bH Y := aL
 refine ck aJ 105 #[.slice (sm d) c.length (w64 ((u0.length : Int) - (w64 (wu64 (u1.tdiv 32))))).toNat] ?_
 refine (gtrim_fun c (sm d) (w64 ((u0.length : Int) - (w64 (wu64 (u1.tdiv 32))))).toNat _ _ F G.fz).mono ?_; rintro _ bI ⟨H, I, aM, rfl, aN, hm⟩; refine ⟨_, rfl, ?_⟩; intro cc aO; have aP := G.callZ hm
 have bJ : Mem w.heap.size [] w Z [] aM bI := aP
 have bK := aH (aN.small)
 refine s1 aO 4 (.slice H (gtrimS c).length I) ?_; intro ce bL
 apply aI
 exact r_ (ra1 bL (.slice H (gtrimS c).length I) ⟨(gtrimS c), H, I, aM, rfl, bK, aN, bJ.kp⟩)
end Go.Proofs.YtdndfbamhnchfaaGreatDoor
set_option linter.unusedVariables false
set_option linter.unusedSimpArgs false
set_option linter.defProp false
set_option maxRecDepth 100000
set_option maxHeartbeats 0
namespace Go.Proofs.YtdndfbamhnchfaaGreatDoor
open Go.Sy Go.RowKit
abbrev e75Nc (X : BRat) (A0 : Option Addr) (C0 : Nat) (A1 : Option Addr) (C1 : Nat) : List Value := [.bool X.a.neg, .slice A0 X.a.abs.length C0, .bool X.b.neg, .slice A1 X.b.abs.length C1]
def gplain_fun (u0 : List Int) (hpre : wok u0) (ao1 : Option Addr) (cap2 : Nat) (Z : Fz) (w : World) (hs3 : SlR (tyInt .u32) Z ao1 cap2 u0) (hZ : Z.on w) := f_ (gplain_walk u0 ao1 cap2 Z w hs3 hZ (gplain_ok u0 hpre))
def gcmp_fun (u0 : List Int) (u1 : List Int) (hpre : u0.length ≤ 1000 ∧ u1.length ≤ 1000 ∧ u0 = ws (wv u0) ∧ u1 = ws (wv u1)) (ao1 : Option Addr) (cap2 : Nat) (ao4 : Option Addr) (cap5 : Nat) (Z : Fz) (w : World) (hs3 : SlR (tyInt .u32) Z ao1 cap2 u0) (hs6 : SlR (tyInt .u32) Z ao4 cap5 u1) (hZ : Z.on w) := f_ (gcmp_walk u0 u1 ao1 cap2 ao4 cap5 Z w hs3 hs6 hZ (gcmp_ok u0 u1 hpre))
def gtwin_fun (u0 : List Int) (hpre : u0.length ≤ 1000000) (ao1 : Option Addr) (cap2 : Nat) (Z : Fz) (w : World) (hs3 : SlR (tyInt .u32) Z ao1 cap2 u0) (hZ : Z.on w) := fc_ (gtwin_walk u0 ao1 cap2 Z w hs3 hZ (gtwin_ok u0 hpre))
def gwords_fun (u0 : Int) (hpre : 0 ≤ u0 ∧ u0 ≤ 18446744073709551615)  (Z : Fz) (w : World)  (hZ : Z.on w) := fc_ (gwords_walk u0  Z w  hZ (gwords_ok u0 hpre))
def gmul_fun (u0 : List Int) (u1 : List Int) (hpre : wok u0 ∧ wok u1 ∧ u0.length ≤ 1000 ∧ u1.length ≤ 1000) (ao1 : Option Addr) (cap2 : Nat) (ao4 : Option Addr) (cap5 : Nat) (Z : Fz) (w : World) (hs3 : SlR (tyInt .u32) Z ao1 cap2 u0) (hs6 : SlR (tyInt .u32) Z ao4 cap5 u1) (hZ : Z.on w) := fc_ (gmul_walk u0 u1 ao1 cap2 ao4 cap5 Z w hs3 hs6 hZ (gmul_ok u0 u1 hpre))
def gadd_fun (u0 : List Int) (u1 : List Int) (hpre : wok u0 ∧ wok u1 ∧ u0.length ≤ 1000000 ∧ u1.length ≤ 1000000) (ao1 : Option Addr) (cap2 : Nat) (ao4 : Option Addr) (cap5 : Nat) (Z : Fz) (w : World) (hs3 : SlR (tyInt .u32) Z ao1 cap2 u0) (hs6 : SlR (tyInt .u32) Z ao4 cap5 u1) (hZ : Z.on w) := fc_ (gadd_walk u0 u1 ao1 cap2 ao4 cap5 Z w hs3 hs6 hZ (gadd_ok u0 u1 hpre))
def gsub_fun (u0 : List Int) (u1 : List Int) (hpre : wok u0 ∧ wok u1 ∧ u0.length ≤ 1000 ∧ u1.length ≤ u0.length ∧ wv u1 ≤ wv u0) (ao1 : Option Addr) (cap2 : Nat) (ao4 : Option Addr) (cap5 : Nat) (Z : Fz) (w : World) (hs3 : SlR (tyInt .u32) Z ao1 cap2 u0) (hs6 : SlR (tyInt .u32) Z ao4 cap5 u1) (hZ : Z.on w) := fc_ (gsub_walk u0 u1 ao1 cap2 ao4 cap5 Z w hs3 hs6 hZ (gsub_ok u0 u1 hpre))
theorem gdiv_walk (u0 : List Int) (u1 : List Int) (ao1 : Option Addr) (cap2 : Nat) (ao4 : Option Addr) (cap5 : Nat) (Z : Fz) (w : World) (hs3 : SlR (tyInt .u32) Z ao1 cap2 u0) (hs6 : SlR (tyInt .u32) Z ao4 cap5 u1) (hZ : Z.on w) {K : ((List Int) × (List Int)) → Prop} (hp : gdiv_vc u0 u1 K) : Calls Tryz.prog 114 #[.slice ao1 u0.length cap2, .slice ao4 u1.length cap5] w fun e w' => ∃ (r : (List Int) × (List Int)) (ao1001 : Option Addr) (cap1002 : Nat) (ao1004 : Option Addr) (cap1005 : Nat) (Z' : Fz), e = .returned (.tuple #[.slice ao1001 r.1.length cap1002, .slice ao1004 r.2.length cap1005]) ∧ K r ∧ SlR (tyInt .u32) Z' ao1001 cap1002 r.1 ∧ SlR (tyInt .u32) Z' ao1004 cap1005 r.2 ∧ Mem w.heap.size [] w Z [] Z' w' := by
 refine enter0 Tryz.func114 rfl rfl (by kernel_rfl) ?_; intro a0 G; have c := Mem.start w Z hZ
 have an := hp (hs3.small) (hs6.small)
 refine sqB G c [] [] [] ?_; intro a2 I
 refine s_ (sqB I c [] [] [(30, .bool ((u1.length : Int) == 0))] ?_); intro a3 n
 obtain ⟨ao, ap⟩ := an
 refine cn n ao ?_
 refine k_ (s_ (sqH ?_)); intro aq J
 refine bt n c 2 [] [] [(31, .slice ao1 u0.length cap2), (32, .slice ao4 u1.length cap5)] ?_; intro a4 L
 obtain ⟨ar, i⟩ := ap
 refine fc L c (gcmp_fun u0 u1 ar ao1 cap2 ao4 cap5 _ _ hs3 hs6 c.fz) ?_; intro a5 a6 M b
 refine s1 M 34 (.bool (decide ((gcmpS u0 u1) < 0))) ?_; intro a7 f
 apply J
 refine c_ f i (fun _ au => ?_) fun _ aC => ?_
 ·
  refine sqH ?_; intro av N
  refine s1 f 35 (.slice ao1 u0.length cap2) ?_; intro a8 O
  obtain ⟨aw, P⟩ := au
  refine ck O 83 #[.slice ao1 u0.length cap2] ?_
  refine (gtwin_fun u0 aw ao1 cap2 _ _ hs3 b.fz).mono ?_; rintro _ Q ⟨j, k, ax, rfl, hm⟩; refine ⟨_, rfl, ?_⟩; intro a9 R; have S := b.callZ hm
  have q : Mem w.heap.size [] w Z [.own (tyInt .u32) 105 j k (gtwinS u0)] ax Q := S
  have ay := P (q.ownSmall 0 rfl)
  refine bt R q 2 [] [] [(4, .slice none 0 0), (5, .slice j (gtwinS u0).length k)] ?_; intro ba az
  apply N
  refine r_ (h_ ?_)
  obtain ⟨T, s, U, aA⟩ := q.freeze 0 rfl
  have aB : Mem w.heap.size [] w Z [] T Q := U
  exact ra2 az (.tuple #[.slice none 0 0, .slice j (gtwinS u0).length k]) ⟨([], (gtwinS u0)), none, 0, j, k, T, rfl, ay, (SlR.nil _ _), aA, aB.kp⟩
 refine k_ (s_ (sqB f b [] [] [(39, .bool (decide ((u0.length : Int) ≤ 2)))] ?_)); intro bb u
 obtain ⟨aD, aE⟩ := aC
 refine cy u aD ?_
 refine sqH ?_; intro aF V
 refine s1 u 40 (.slice ao1 u0.length cap2) ?_; intro bc W
 obtain ⟨aG, aH⟩ := aE
 refine fc W b (gplain_fun u0 aG ao1 cap2 _ _ hs3 b.fz) ?_; intro bd be X v
 refine s1 X 42 (.slice ao4 u1.length cap5) ?_; intro bf Y
 obtain ⟨aI, aJ⟩ := aH
 refine fc Y v (gplain_fun u1 aI ao4 cap5 _ _ hs6 v.fz) ?_; intro bg bh aa x
 refine bt aa x 2 [] [] [(6, y6 (gplainS u0)), (7, y6 (gplainS u1))] ?_; intro aK ab
 apply V
 have ac : Fr 273 [] [⟨6, [], y6 (gplainS u0)⟩, ⟨7, [], y6 (gplainS u1)⟩] aK := ab.reg
 refine wp_seq (rgS mixed x [(0, true), (1, true), (4, true), (5, true), (2, true), (6, true), (3, false), (7, false), (8, true), (9, true)] [] [] [] ?_)
 intro aL ad bi y
 have d := Fz.le.refl Z
 refine cS ac 4 [] [] [(44, y6 (gplainS u0)), (45, y6 (gplainS u1)), (48, y6 (gplainS u0)), (49, y6 (gplainS u1))] ?_; intro bj z
 obtain ⟨aM, aN⟩ := aJ
 refine cst rfl z (y6 (wu64 ((gplainS u0).tdiv (gplainS u1)))) (nog rfl _) rfl (by kernel_rfl) (fun v108 hC => quo_run z (g := []) rfl (by kernel_rfl) (by kernel_rfl) aM rfl) ?_; intro bk A
 obtain ⟨aO, aP⟩ := aN
 refine cst rfl A (y6 ((gplainS u0).tmod (gplainS u1))) (nog rfl _) rfl (by kernel_rfl) (fun v113 hC => rem_run A (g := []) rfl (by kernel_rfl) (by kernel_rfl) aO rfl) ?_; intro bl ae
 refine eS rfl ?_; intro aQ af
 obtain ⟨aR, aS⟩ := aP
 refine ck ae 104 #[y6 (wu64 ((gplainS u0).tdiv (gplainS u1)))] ?_
 refine (gwords_fun (wu64 ((gplainS u0).tdiv (gplainS u1))) aR _ _ y.fz).mono ?_; rintro _ aT ⟨B, C, aU, rfl, D, hm⟩; refine ⟨_, rfl, ?_⟩; intro bm ag; have ah := y.callZ hm; have l := hm.ext.le
 replace d := d.mono l
 have m : Mem w.heap.size [] w Z [] aU aT := ah
 refine nl (qnI (af _ _ (m.cst d []) ?_))
 refine eS rfl ?_; intro aV ai
 obtain ⟨aW, aX⟩ := aS
 refine ck ag 104 #[y6 ((gplainS u0).tmod (gplainS u1))] ?_
 refine (gwords_fun ((gplainS u0).tmod (gplainS u1)) aW _ _ m.fz).mono ?_; rintro _ aY ⟨E, F, aj, rfl, aZ, hm⟩; refine ⟨_, rfl, ?_⟩; intro bn ak; have al := m.callZ hm; have h := hm.ext.le
 replace d := d.mono h
 replace D := D.mono h
 have am : Mem w.heap.size [] w Z [] aj aY := al
 refine nl (qnI (ai _ _ (am.cst d []) ?_))
 refine cS ak 2 [] [] [(4, .slice B (gwordsS (wu64 ((gplainS u0).tdiv (gplainS u1)))).length C), (5, .slice E (gwordsS ((gplainS u0).tmod (gplainS u1))).length F)] ?_; intro bo a1
 refine nS (ad _ _ ?_)
 exact t_ (r_ (h_ (ra2 a1 (.tuple #[.slice B (gwordsS (wu64 ((gplainS u0).tdiv (gplainS u1)))).length C, .slice E (gwordsS ((gplainS u0).tmod (gplainS u1))).length F]) ⟨((gwordsS (wu64 ((gplainS u0).tdiv (gplainS u1)))), (gwordsS ((gplainS u0).tmod (gplainS u1)))), B, C, E, F, aj, rfl, aX, D, aZ, am.kp⟩)))
theorem gcom_walk (u0 : List Int) (u1 : List Int) (ao1 : Option Addr) (cap2 : Nat) (ao4 : Option Addr) (cap5 : Nat) (Z : Fz) (w : World) (hs3 : SlR (tyInt .u32) Z ao1 cap2 u0) (hs6 : SlR (tyInt .u32) Z ao4 cap5 u1) (hZ : Z.on w) {K : (List Int) → Prop} (hp : gcom_vc u0 u1 K) : Calls Tryz.prog 113 #[.slice ao1 u0.length cap2, .slice ao4 u1.length cap5] w fun e w' => ∃ (r : (List Int)) (ao1001 : Option Addr) (cap1002 : Nat) (Z' : Fz), e = .returned (.slice ao1001 r.length cap1002) ∧ K r ∧ SlR (tyInt .u32) Z' ao1001 cap1002 r ∧ Mem w.heap.size [] w Z [] Z' w' := by
 refine enter0 Tryz.func113 rfl rfl (by kernel_rfl) ?_; intro a0 H; have q := Mem.start w Z hZ
 have av := hp (hs3.small) (hs6.small)
 refine sqB H q [] [] [] ?_; intro L M
 refine s_ (b_ ?_)
 have N : Fr 49 [] [⟨0, [], .slice ao1 u0.length cap2⟩, ⟨1, [], .slice ao4 u1.length cap5⟩] L := M.reg
 obtain ⟨aw, ax, ay, az⟩ := av
 refine lp (ι := (List Int) × (List Int) × (Option Addr) × Nat × (Option Addr) × Nat) (fun s => [⟨0, [], .slice s.2.2.1 s.1.length s.2.2.2.1⟩, ⟨1, [], .slice s.2.2.2.2.1 s.2.1.length s.2.2.2.2.2⟩]) (fun s => []) (fun s => Z) (fun s => aw s.1 s.2.1 ∧ SlR (tyInt .u32) Z s.2.2.1 s.2.2.2.1 s.1 ∧ SlR (tyInt .u32) Z s.2.2.2.2.1 s.2.2.2.2.2 s.2.1) (fun s => ax s.1 s.2.1) ⟨u0, u1, ao1, cap2, ao4, cap5⟩ ⟨ay, hs3, hs6⟩ (by exact N.reg) (by exact q) ?_
 rintro ⟨b, d, h, i, u, v⟩ ⟨aA, n, x⟩ aB aC P Q
 have aD := az b d aA
 refine s_ (sqB P Q [] [] [(13, .bool (decide ((d.length : Int) > 2)))] ?_); intro ba y
 obtain ⟨aE, o⟩ := aD
 refine cn y aE ?_
 refine x_ (y_ (y_ (z_ (t_ (s_ (sqB y Q [] [] [(24, .bool ((d.length : Int) == 0))] ?_)))))); intro bb k
 refine c_ k o (fun _ aF => ?_) fun _ aH => ?_
 ·
  refine sqB k Q [] [] [(4, .slice h b.length i)] ?_; intro bc aG
  exact r_ (h_ (ra1 aG (.slice h b.length i) ⟨b, h, i, Z, rfl, aF, n, Q.kp⟩))
 refine k_ (s_ (sqB k Q [] [] [(28, .bool (decide ((b.length : Int) > 2)))] ?_)); intro bd A
 obtain ⟨aI, aJ⟩ := aH
 refine cn A aI ?_
 refine k_ (sqH ?_); intro aK S
 refine s1 A 37 (.slice h b.length i) ?_; intro be T
 obtain ⟨aL, aM⟩ := aJ
 refine fc T Q (gplain_fun b aL h i _ _ n Q.fz) ?_; intro bf bg U B
 refine s1 U 39 (.slice u d.length v) ?_; intro bh V
 obtain ⟨aN, aO⟩ := aM
 refine fc V B (gplain_fun d aN u v _ _ x B.fz) ?_; intro bi bj W C
 refine bt W C 2 [] [] [(9, y6 (gplainS b)), (10, y6 (gplainS d))] ?_; intro X Y
 apply S
 refine s_ (b_ ?_)
 have aa : Fr 49 [] [⟨9, [], y6 (gplainS b)⟩, ⟨10, [], y6 (gplainS d)⟩] X := Y.reg
 obtain ⟨aP, aQ, aR, aS⟩ := aO
 refine lp (ι := Int × Int) (fun s => [⟨9, [], y6 s.1⟩, ⟨10, [], y6 s.2⟩]) (fun s => []) (fun s => Z) (fun s => aP s.1 s.2) (fun s => aQ s.1 s.2) ⟨(gplainS b), (gplainS d)⟩ aR (by exact aa.reg) (by exact C) ?_
 rintro ⟨a, c⟩ aT aU aV ac ad
 have p := aS a c aT
 refine s_ (sqB ac ad [] [] [(42, .bool (decide (c > 0)))] ?_); intro aW l
 refine c_ l p (fun _ aX => ?_) fun _ a3 => ?_
 ·
  refine k_ (b_ ?_)
  have af : Fr 49 [] [⟨9, [], y6 a⟩, ⟨10, [], y6 c⟩] aW := l.reg
  refine qrgH mixed (by kernel_rfl) ad ?_; intro aY ag
  refine q1 af 43 (y6 c) ?_; intro bk ah
  refine q1 ah 44 (y6 a) ?_; intro bl ai
  refine q1 ai 45 (y6 c) ?_; intro bm E
  obtain ⟨aZ, aj⟩ := aX
  refine qu_ E (y6 (a.tmod c)) (fun v114 hC => rem_run E (g := []) rfl (by kernel_rfl) (by kernel_rfl) aZ rfl) ?_; intro bn ak
  refine q1 ak 9 (y6 c) ?_; intro bo al
  refine q1 al 10 (y6 (a.tmod c)) ?_; intro bp a1
  refine qnl (ag _ ?_); intro bq a2
  exact j_ (d_ ⟨⟨c, a.tmod c⟩, aj.1, aj.2, (a1.reg).anyβ _ (by kernel_rfl), a2.kp⟩)
 refine x_ (y_ (y_ (z_ (t_ (sqH ?_))))); intro a4 am
 refine s1 l 47 (y6 a) ?_; intro br an
 obtain ⟨a5, ao⟩ := a3
 refine ck an 104 #[y6 a] ?_
 refine (gwords_fun a a5 _ _ ad.fz).mono ?_; rintro _ a6 ⟨F, G, ap, rfl, aq, hm⟩; refine ⟨_, rfl, ?_⟩; intro bs ar; have au := ad.callZ hm
 have a7 : Mem w.heap.size [] w Z [] ap a6 := au
 have a8 := ao (aq.small)
 refine s1 ar 4 (.slice F (gwordsS a).length G) ?_; intro bu a9
 apply am
 exact r_ (ra1 a9 (.slice F (gwordsS a).length G) ⟨(gwordsS a), F, G, ap, rfl, a8, aq, a7.kp⟩)
theorem gsum_walk (u0 : Bool) (u1 : List Int) (u2 : Bool) (u3 : List Int) (ao1 : Option Addr) (cap2 : Nat) (ao4 : Option Addr) (cap5 : Nat) (Z : Fz) (w : World) (hs3 : SlR (tyInt .u32) Z ao1 cap2 u1) (hs6 : SlR (tyInt .u32) Z ao4 cap5 u3) (hZ : Z.on w) {K : (Bool × (List Int)) → Prop} (hp : gsum_vc u0 u1 u2 u3 K) : Calls Tryz.prog 102 #[.bool u0, .slice ao1 u1.length cap2, .bool u2, .slice ao4 u3.length cap5] w fun e w' => ∃ (r : Bool × (List Int)) (ao1001 : Option Addr) (cap1002 : Nat) (Z' : Fz), e = .returned (.tuple #[.bool r.1, .slice ao1001 r.2.length cap1002]) ∧ K r ∧ SlR (tyInt .u32) Z' ao1001 cap1002 r.2 ∧ Mem w.heap.size [] w Z [] Z' w' := by
 refine enter0 Tryz.func102 rfl rfl (by kernel_rfl) ?_; intro a0 v; have a := Mem.start w Z hZ
 have g := hp (hs3.small) (hs6.small)
 refine sqB v a [] [] [] ?_; intro az y
 refine s_ (sqB y a [] [] [(12, .bool (u0 == u2))] ?_); intro aA d
 refine c_ d g (fun _ ac => ?_) fun _ ai => ?_
 ·
  refine sqH ?_; intro ad z
  refine bt d a 3 [] [] [(13, .bool u0), (14, .slice ao1 u1.length cap2), (15, .slice ao4 u3.length cap5)] ?_; intro aB A
  obtain ⟨ae, B⟩ := ac
  refine ck A 80 #[.slice ao1 u1.length cap2, .slice ao4 u3.length cap5] ?_
  refine (gadd_fun u1 u3 ae ao1 cap2 ao4 cap5 _ _ hs3 hs6 a.fz).mono ?_; rintro _ af ⟨j, k, C, rfl, D, hm⟩; refine ⟨_, rfl, ?_⟩; intro aC E; have F := a.callZ hm
  have G : Mem w.heap.size [] w Z [] C af := F
  have ag := B (D.small)
  refine bt E G 2 [] [] [(8, .bool u0), (9, .slice j (gaddS u1 u3).length k)] ?_; intro aD ah
  apply z
  exact r_ (h_ (ra2 ah (.tuple #[.bool u0, .slice j (gaddS u1 u3).length k]) ⟨(u0, (gaddS u1 u3)), j, k, C, rfl, ag, D, G.kp⟩))
 refine k_ (s_ (sqH ?_)); intro aj H
 refine bt d a 2 [] [] [(17, .slice ao1 u1.length cap2), (18, .slice ao4 u3.length cap5)] ?_; intro aE I
 obtain ⟨ak, h⟩ := ai
 refine fc I a (gcmp_fun u1 u3 ak ao1 cap2 ao4 cap5 _ _ hs3 hs6 a.fz) ?_; intro aF aG J b
 refine s1 J 20 (.bool (decide ((gcmpS u1 u3) ≥ 0))) ?_; intro aH f
 apply H
 refine c_ f h (fun _ al => ?_) fun _ ar => ?_
 ·
  refine sqH ?_; intro am L
  refine bt f b 3 [] [] [(21, .bool u0), (22, .slice ao1 u1.length cap2), (23, .slice ao4 u3.length cap5)] ?_; intro aI M
  obtain ⟨an, N⟩ := al
  refine ck M 82 #[.slice ao1 u1.length cap2, .slice ao4 u3.length cap5] ?_
  refine (gsub_fun u1 u3 an ao1 cap2 ao4 cap5 _ _ hs3 hs6 b.fz).mono ?_; rintro _ ao ⟨n, o, O, rfl, P, hm⟩; refine ⟨_, rfl, ?_⟩; intro aJ Q; have R := b.callZ hm
  have S : Mem w.heap.size [] w Z [] O ao := R
  have ap := N (P.small)
  refine bt Q S 2 [] [] [(8, .bool u0), (9, .slice n (gsubS u1 u3).length o)] ?_; intro aK aq
  apply L
  exact r_ (h_ (ra2 aq (.tuple #[.bool u0, .slice n (gsubS u1 u3).length o]) ⟨(u0, (gsubS u1 u3)), n, o, O, rfl, ap, P, S.kp⟩))
 refine k_ (sqH ?_); intro au T
 refine bt f b 3 [] [] [(25, .bool u2), (26, .slice ao4 u3.length cap5), (27, .slice ao1 u1.length cap2)] ?_; intro aL U
 obtain ⟨av, V⟩ := ar
 refine ck U 82 #[.slice ao4 u3.length cap5, .slice ao1 u1.length cap2] ?_
 refine (gsub_fun u3 u1 av ao4 cap5 ao1 cap2 _ _ hs6 hs3 b.fz).mono ?_; rintro _ aw ⟨q, s, W, rfl, X, hm⟩; refine ⟨_, rfl, ?_⟩; intro aM Y; have aa := b.callZ hm
 have ab : Mem w.heap.size [] w Z [] W aw := aa
 have ax := V (X.small)
 refine bt Y ab 2 [] [] [(8, .bool u2), (9, .slice q (gsubS u3 u1).length s)] ?_; intro aN ay
 apply T
 exact r_ (ra2 ay (.tuple #[.bool u2, .slice q (gsubS u3 u1).length s]) ⟨(u2, (gsubS u3 u1)), q, s, W, rfl, ax, X, ab.kp⟩)
def gleft_fun (u0 : List Int) (u1 : Int) (hpre : wok u0 ∧ u0.length ≤ 1000 ∧ 0 ≤ u1 ∧ u1 ≤ 100000) (ao1 : Option Addr) (cap2 : Nat) (Z : Fz) (w : World) (hs3 : SlR (tyInt .u32) Z ao1 cap2 u0) (hZ : Z.on w) := fc_ (gleft_walk u0 u1 ao1 cap2 Z w hs3 hZ (gleft_ok u0 u1 hpre))
def gright_fun (u0 : List Int) (u1 : Int) (hpre : wok u0 ∧ u0.length ≤ 1000 ∧ 0 ≤ u1 ∧ u1 ≤ 31) (ao1 : Option Addr) (cap2 : Nat) (Z : Fz) (w : World) (hs3 : SlR (tyInt .u32) Z ao1 cap2 u0) (hZ : Z.on w) := fc_ (gright_walk u0 u1 ao1 cap2 Z w hs3 hZ (gright_ok u0 u1 hpre))
theorem ggive_walk (u0 : BInt) (u1 : Bool) (u2 : List Int) (b1 : Nat) (ao2 : Option Addr) (cap3 : Nat) (ao5 : Option Addr) (cap6 : Nat) (B : Nat) (w0 : World) (Z0 : Fz) (Rr : List Res) (Z : Fz) (w : World) (hs4 : SlR (tyInt .u32) Z ao2 cap3 u0.abs) (hs7 : SlR (tyInt .u32) Z ao5 cap6 u2) (hM0 : Mem B [] w0 Z0 ((.row b1 [.bool u0.neg, .slice ao2 u0.abs.length cap3] 73) :: Rr) Z w) (hZ : Z.on w) {K : BInt → Prop} (hp : ggive_vc u0 u1 u2 K) : Calls Tryz.prog 78 #[pt b1 0, .bool u1, .slice ao5 u2.length cap6] w fun e w' => ∃ (r : BInt) (ao1001 : Option Addr) (cap1002 : Nat) (Z' : Fz), e = .returned (pt b1 0) ∧ K r ∧ Fz.le Z Z' ∧ SlR (tyInt .u32) Z' ao1001 cap1002 r.abs ∧ Mem B [] w0 Z0 ((.row b1 [.bool r.neg, .slice ao1001 r.abs.length cap1002] 73) :: Rr) Z' w' := by
 refine enter0 Tryz.func78 rfl rfl (by kernel_rfl) ?_; intro u d; have m := Fz.le.refl Z
 have n := hp (hs4.small) (hs7.small)
 refine sqB d hM0 [] [] [] ?_; intro v g
 refine sqH ?_; intro o h
 refine bt g hM0 4 [] [] [(8, .slice ao5 u2.length cap6), (10, pt b1 1)] ?_; intro x a
 refine sx a hM0 0 [.bool u0.neg, .slice ao5 u2.length cap6] 1 ?_; intro p i
 have b : Mem B [] w0 Z0 ((.row b1 [.bool u0.neg, .slice ao5 u2.length cap6] 73) :: Rr) Z p := i
 apply h
 refine sqH ?_; intro q j
 refine bt a b 9 [] [] [(17, .bool (u1 && (decide ((u2.length : Int) > 0)))), (19, pt b1 0)] ?_; intro y c
 refine sx c b 0 [.bool (u1 && (decide ((u2.length : Int) > 0))), .slice ao5 u2.length cap6] 0 ?_; intro s k
 have l : Mem B [] w0 Z0 ((.row b1 [.bool (u1 && (decide ((u2.length : Int) > 0))), .slice ao5 u2.length cap6] 73) :: Rr) Z s := k
 apply j
 refine sqB c l [] [] [(6, pt b1 0)] ?_; intro z t
 exact r_ (ra1 t (pt b1 0) ⟨(⟨u1 && (decide ((u2.length : Int) > 0)), u2⟩ : BInt), ao5, cap6, Z, rfl, n, m, hs7, l.kp⟩)
def ggive_fun (u0 : BInt) (u1 : Bool) (u2 : List Int) (b1 : Nat) (ao2 : Option Addr) (cap3 : Nat) (ao5 : Option Addr) (cap6 : Nat) (B : Nat) (w0 : World) (Z0 : Fz) (Rr : List Res) (Z : Fz) (w : World) (hs4 : SlR (tyInt .u32) Z ao2 cap3 u0.abs) (hs7 : SlR (tyInt .u32) Z ao5 cap6 u2) (hM0 : Mem B [] w0 Z0 ((.row b1 [.bool u0.neg, .slice ao2 u0.abs.length cap3] 73) :: Rr) Z w) (hZ : Z.on w) := fc_ (ggive_walk u0 u1 u2 b1 ao2 cap3 ao5 cap6 B w0 Z0 Rr Z w hs4 hs7 hM0 hZ (ggive_ok u0 u1 u2))
theorem ggiveA_walk (u0 : BRat) (u1 : Bool) (u2 : List Int) (b1 : Nat) (ao2 : Option Addr) (cap3 : Nat) (ao5 : Option Addr) (cap6 : Nat) (ao8 : Option Addr) (cap9 : Nat) (B : Nat) (w0 : World) (Z0 : Fz) (Rr : List Res) (Z : Fz) (w : World) (hs4 : SlR (tyInt .u32) Z ao2 cap3 u0.a.abs) (hs7 : SlR (tyInt .u32) Z ao5 cap6 u0.b.abs) (hs10 : SlR (tyInt .u32) Z ao8 cap9 u2) (hM0 : Mem B [] w0 Z0 ((.row b1 [.bool u0.a.neg, .slice ao2 u0.a.abs.length cap3, .bool u0.b.neg, .slice ao5 u0.b.abs.length cap6] 75) :: Rr) Z w) (hZ : Z.on w) {K : BRat → Prop} (hp : ggiveA_vc u0 u1 u2 K) : Calls Tryz.prog 78 #[pt b1 0, .bool u1, .slice ao8 u2.length cap9] w fun e w' => ∃ (r : BRat) (ao1001 : Option Addr) (cap1002 : Nat) (ao1004 : Option Addr) (cap1005 : Nat) (Z' : Fz), e = .returned (pt b1 0) ∧ K r ∧ Fz.le Z Z' ∧ SlR (tyInt .u32) Z' ao1001 cap1002 r.a.abs ∧ SlR (tyInt .u32) Z' ao1004 cap1005 r.b.abs ∧ Mem B [] w0 Z0 ((.row b1 [.bool r.a.neg, .slice ao1001 r.a.abs.length cap1002, .bool r.b.neg, .slice ao1004 r.b.abs.length cap1005] 75) :: Rr) Z' w' := by
 refine enter0 Tryz.func78 rfl rfl (by kernel_rfl) ?_; intro y g; have p := Fz.le.refl Z
 have q := hp (hs4.small) (hs7.small) (hs10.small)
 refine sqB g hM0 [] [] [] ?_; intro z j
 refine sqH ?_; intro s k
 refine bt j hM0 4 [] [] [(8, .slice ao8 u2.length cap9), (10, pt b1 1)] ?_; intro A c
 refine sx c hM0 0 [.bool u0.a.neg, .slice ao8 u2.length cap9, .bool u0.b.neg, .slice ao5 u0.b.abs.length cap6] 1 ?_; intro t l
 have d : Mem B [] w0 Z0 ((.row b1 [.bool u0.a.neg, .slice ao8 u2.length cap9, .bool u0.b.neg, .slice ao5 u0.b.abs.length cap6] 75) :: Rr) Z t := l
 apply k
 refine sqH ?_; intro u m
 refine bt c d 9 [] [] [(17, .bool (u1 && (decide ((u2.length : Int) > 0)))), (19, pt b1 0)] ?_; intro C f
 refine sx f d 0 [.bool (u1 && (decide ((u2.length : Int) > 0))), .slice ao8 u2.length cap9, .bool u0.b.neg, .slice ao5 u0.b.abs.length cap6] 0 ?_; intro v n
 have o : Mem B [] w0 Z0 ((.row b1 [.bool (u1 && (decide ((u2.length : Int) > 0))), .slice ao8 u2.length cap9, .bool u0.b.neg, .slice ao5 u0.b.abs.length cap6] 75) :: Rr) Z v := n
 apply m
 refine sqB f o [] [] [(6, pt b1 0)] ?_; intro D x
 exact r_ (ra1 x (pt b1 0) ⟨(⟨(⟨u1 && (decide ((u2.length : Int) > 0)), u2⟩ : BInt), u0.b⟩ : BRat), ao8, cap9, ao5, cap6, Z, rfl, q, p, hs10, hs7, o.kp⟩)
def ggiveA_fun (u0 : BRat) (u1 : Bool) (u2 : List Int) (b1 : Nat) (ao2 : Option Addr) (cap3 : Nat) (ao5 : Option Addr) (cap6 : Nat) (ao8 : Option Addr) (cap9 : Nat) (B : Nat) (w0 : World) (Z0 : Fz) (Rr : List Res) (Z : Fz) (w : World) (hs4 : SlR (tyInt .u32) Z ao2 cap3 u0.a.abs) (hs7 : SlR (tyInt .u32) Z ao5 cap6 u0.b.abs) (hs10 : SlR (tyInt .u32) Z ao8 cap9 u2) (hM0 : Mem B [] w0 Z0 ((.row b1 [.bool u0.a.neg, .slice ao2 u0.a.abs.length cap3, .bool u0.b.neg, .slice ao5 u0.b.abs.length cap6] 75) :: Rr) Z w) (hZ : Z.on w) := fe_ (ggiveA_walk u0 u1 u2 b1 ao2 cap3 ao5 cap6 ao8 cap9 B w0 Z0 Rr Z w hs4 hs7 hs10 hM0 hZ (ggiveA_ok u0 u1 u2))
theorem ggiveB_walk (u0 : BRat) (u1 : Bool) (u2 : List Int) (b1 : Nat) (ao2 : Option Addr) (cap3 : Nat) (ao5 : Option Addr) (cap6 : Nat) (ao8 : Option Addr) (cap9 : Nat) (B : Nat) (w0 : World) (Z0 : Fz) (Rr : List Res) (Z : Fz) (w : World) (hs4 : SlR (tyInt .u32) Z ao2 cap3 u0.a.abs) (hs7 : SlR (tyInt .u32) Z ao5 cap6 u0.b.abs) (hs10 : SlR (tyInt .u32) Z ao8 cap9 u2) (hM0 : Mem B [] w0 Z0 ((.row b1 [.bool u0.a.neg, .slice ao2 u0.a.abs.length cap3, .bool u0.b.neg, .slice ao5 u0.b.abs.length cap6] 75) :: Rr) Z w) (hZ : Z.on w) {K : BRat → Prop} (hp : ggiveB_vc u0 u1 u2 K) : Calls Tryz.prog 78 #[pt b1 2, .bool u1, .slice ao8 u2.length cap9] w fun e w' => ∃ (r : BRat) (ao1001 : Option Addr) (cap1002 : Nat) (ao1004 : Option Addr) (cap1005 : Nat) (Z' : Fz), e = .returned (pt b1 2) ∧ K r ∧ Fz.le Z Z' ∧ SlR (tyInt .u32) Z' ao1001 cap1002 r.a.abs ∧ SlR (tyInt .u32) Z' ao1004 cap1005 r.b.abs ∧ Mem B [] w0 Z0 ((.row b1 [.bool r.a.neg, .slice ao1001 r.a.abs.length cap1002, .bool r.b.neg, .slice ao1004 r.b.abs.length cap1005] 75) :: Rr) Z' w' := by
 refine enter0 Tryz.func78 rfl rfl (by kernel_rfl) ?_; intro y g; have p := Fz.le.refl Z
 have q := hp (hs4.small) (hs7.small) (hs10.small)
 refine sqB g hM0 [] [] [] ?_; intro z j
 refine sqH ?_; intro s k
 refine bt j hM0 4 [] [] [(8, .slice ao8 u2.length cap9), (10, pt b1 3)] ?_; intro A c
 refine sx c hM0 0 [.bool u0.a.neg, .slice ao2 u0.a.abs.length cap3, .bool u0.b.neg, .slice ao8 u2.length cap9] 3 ?_; intro t l
 have d : Mem B [] w0 Z0 ((.row b1 [.bool u0.a.neg, .slice ao2 u0.a.abs.length cap3, .bool u0.b.neg, .slice ao8 u2.length cap9] 75) :: Rr) Z t := l
 apply k
 refine sqH ?_; intro u m
 refine bt c d 9 [] [] [(17, .bool (u1 && (decide ((u2.length : Int) > 0)))), (19, pt b1 2)] ?_; intro C f
 refine sx f d 0 [.bool u0.a.neg, .slice ao2 u0.a.abs.length cap3, .bool (u1 && (decide ((u2.length : Int) > 0))), .slice ao8 u2.length cap9] 2 ?_; intro v n
 have o : Mem B [] w0 Z0 ((.row b1 [.bool u0.a.neg, .slice ao2 u0.a.abs.length cap3, .bool (u1 && (decide ((u2.length : Int) > 0))), .slice ao8 u2.length cap9] 75) :: Rr) Z v := n
 apply m
 refine sqB f o [] [] [(6, pt b1 2)] ?_; intro D x
 exact r_ (ra1 x (pt b1 2) ⟨(⟨u0.a, (⟨u1 && (decide ((u2.length : Int) > 0)), u2⟩ : BInt)⟩ : BRat), ao2, cap3, ao8, cap9, Z, rfl, q, p, hs4, hs10, o.kp⟩)
def ggiveB_fun (u0 : BRat) (u1 : Bool) (u2 : List Int) (b1 : Nat) (ao2 : Option Addr) (cap3 : Nat) (ao5 : Option Addr) (cap6 : Nat) (ao8 : Option Addr) (cap9 : Nat) (B : Nat) (w0 : World) (Z0 : Fz) (Rr : List Res) (Z : Fz) (w : World) (hs4 : SlR (tyInt .u32) Z ao2 cap3 u0.a.abs) (hs7 : SlR (tyInt .u32) Z ao5 cap6 u0.b.abs) (hs10 : SlR (tyInt .u32) Z ao8 cap9 u2) (hM0 : Mem B [] w0 Z0 ((.row b1 [.bool u0.a.neg, .slice ao2 u0.a.abs.length cap3, .bool u0.b.neg, .slice ao5 u0.b.abs.length cap6] 75) :: Rr) Z w) (hZ : Z.on w) := fe_ (ggiveB_walk u0 u1 u2 b1 ao2 cap3 ao5 cap6 ao8 cap9 B w0 Z0 Rr Z w hs4 hs7 hs10 hM0 hZ (ggiveB_ok u0 u1 u2))
theorem gnew_walk (u0 : Int)  (Z : Fz) (w : World)  (hZ : Z.on w) {K : BInt → Prop} (hp : gnew_vc u0 K) : Calls Tryz.prog 48 #[i6 u0] w fun e w' => ∃ (r : BInt) (b1001 : Nat) (ao1002 : Option Addr) (cap1003 : Nat) (Z' : Fz), e = .returned (pt b1001 0) ∧ K r ∧ SlR (tyInt .u32) Z' ao1002 cap1003 r.abs ∧ Mem w.heap.size [] w Z [.row b1001 [.bool r.neg, .slice ao1002 r.abs.length cap1003] 73] Z' w' := by
 refine enter0 Tryz.func48 rfl rfl (by kernel_rfl) ?_; intro a0 z; have l := Mem.start w Z hZ
 refine sqB z l [] [] [] ?_; intro a2 A
 refine sqH ?_; intro B i
 refine nw A l pb [.bool false, .slice none 0 0] 73 ?_; intro a a6 aP C b
 refine s1 C 4 (i6 u0) ?_; intro aQ m
 refine ck m 77 #[pt a 0, i6 u0] ?_
 refine enter0 Tryz.func77 rfl rfl (by kernel_rfl) ?_; intro au D
 have E : Fr 18 [] [⟨0, [], pt a 0⟩, ⟨1, [], i6 u0⟩] au := D.reg
 refine sqB E b [] [] [] ?_; intro aR F
 refine sqB F b [] [] [(5, y6 (wu64 u0))] ?_; intro aS G
 refine s_ (sqB G b [] [] [(9, .bool (decide (u0 < 0)))] ?_); intro aT f
 refine c_ f hp (fun _ av => ?_) fun _ aF => ?_
 ·
  refine rgB f b [] [] [(5, y6 (wu64 (0 - (wu64 u0))))] ?_; intro aU H
  refine t_ (sqH ?_); intro aw I
  refine bt H b 4 [] [] [(12, pt a 0), (14, .bool (decide (u0 < 0))), (15, y6 (wu64 (0 - (wu64 u0))))] ?_; intro aV J
  obtain ⟨ax, L⟩ := av
  refine ck J 104 #[y6 (wu64 (0 - (wu64 u0)))] ?_
  refine (gwords_fun (wu64 (0 - (wu64 u0))) ax _ _ b.fz).mono ?_; rintro _ ay ⟨M, N, az, rfl, j, hm⟩; refine ⟨_, rfl, ?_⟩; intro aW O; have P := b.callZ hm
  have o : Mem w.heap.size [] w Z [.row a [.bool false, .slice none 0 0] 73] az ay := P
  have Q := L (j.small)
  refine ck O 78 #[pt a 0, .bool (decide (u0 < 0)), .slice M (gwordsS (wu64 (0 - (wu64 u0)))).length N] ?_
  obtain ⟨g, aB, R⟩ := hxq Q
  have d := ggive_fun (⟨false, []⟩ : BInt) (decide (u0 < 0)) (gwordsS (wu64 (0 - (wu64 u0)))) a none 0 M N _ _ _ _ _ _ (SlR.nil _ _) j o o.fz; rw [aB] at d; refine d.mono ?_; rintro _ S ⟨p, q, s, rfl, T, U, hm⟩; refine ⟨_, rfl, ?_⟩; intro aX V; have W := hm
  have X : Mem w.heap.size [] w Z [.row a [.bool g.neg, .slice p g.abs.length q] 73] s S := W
  have aC := R (U.small)
  refine s1 V 4 (pt a 0) ?_; intro aY Y
  apply I
  refine r_ (ra1 Y (pt a 0) ?_)
  refine ⟨_, rfl, ?_⟩; intro aZ aa
  refine s1 aa 2 (pt a 0) ?_; intro a1 aD
  have aE : Mem w.heap.size [] w Z [.row a [.bool g.neg, .slice p g.abs.length q] 73] s S := X
  apply i
  exact r_ (ra1 aD (pt a 0) ⟨g, a, p, q, s, rfl, aC, U, aE.kp⟩)
 refine k_ (sqH ?_); intro aG ab
 refine bt f b 4 [] [] [(12, pt a 0), (14, .bool (decide (u0 < 0))), (15, y6 (wu64 u0))] ?_; intro a3 ac
 obtain ⟨aH, ad⟩ := aF
 refine ck ac 104 #[y6 (wu64 u0)] ?_
 refine (gwords_fun (wu64 u0) aH _ _ b.fz).mono ?_; rintro _ aI ⟨ae, af, aJ, rfl, k, hm⟩; refine ⟨_, rfl, ?_⟩; intro a4 ag; have ah := b.callZ hm
 have u : Mem w.heap.size [] w Z [.row a [.bool false, .slice none 0 0] 73] aJ aI := ah
 have ai := ad (k.small)
 refine ck ag 78 #[pt a 0, .bool (decide (u0 < 0)), .slice ae (gwordsS (wu64 u0)).length af] ?_
 obtain ⟨h, aL, aj⟩ := hxq ai
 have d := ggive_fun (⟨false, []⟩ : BInt) (decide (u0 < 0)) (gwordsS (wu64 u0)) a none 0 ae af _ _ _ _ _ _ (SlR.nil _ _) k u u.fz; rw [aL] at d; refine d.mono ?_; rintro _ ak ⟨v, x, y, rfl, al, am, hm⟩; refine ⟨_, rfl, ?_⟩; intro a5 an; have ao := hm
 have ap : Mem w.heap.size [] w Z [.row a [.bool h.neg, .slice v h.abs.length x] 73] y ak := ao
 have aM := aj (am.small)
 refine s1 an 4 (pt a 0) ?_; intro a7 aq
 apply ab
 refine r_ (ra1 aq (pt a 0) ?_)
 refine ⟨_, rfl, ?_⟩; intro a8 ar
 refine s1 ar 2 (pt a 0) ?_; intro a9 aN
 have aO : Mem w.heap.size [] w Z [.row a [.bool h.neg, .slice v h.abs.length x] 73] y ak := ap
 apply i
 exact r_ (ra1 aN (pt a 0) ⟨h, a, v, x, y, rfl, aM, am, aO.kp⟩)
theorem rden_walk (u0 : BRat) (b1 : Nat) (ao2 : Option Addr) (cap3 : Nat) (ao5 : Option Addr) (cap6 : Nat) (B : Nat) (w0 : World) (Z0 : Fz) (Rr : List Res) (Z : Fz) (w : World) (hs4 : SlR (tyInt .u32) Z ao2 cap3 u0.a.abs) (hs7 : SlR (tyInt .u32) Z ao5 cap6 u0.b.abs) (hM0 : Mem B [] w0 Z0 ((.row b1 [.bool u0.a.neg, .slice ao2 u0.a.abs.length cap3, .bool u0.b.neg, .slice ao5 u0.b.abs.length cap6] 75) :: Rr) Z w) (hZ : Z.on w) {K : BRat → Prop} (hp : rden_vc u0 K) : Calls Tryz.prog 76 #[pt b1 0] w fun e w' => ∃ (r : BRat) (ao1001 : Option Addr) (cap1002 : Nat) (ao1004 : Option Addr) (cap1005 : Nat) (Z' : Fz), e = .returned (pt b1 2) ∧ K r ∧ Fz.le Z Z' ∧ SlR (tyInt .u32) Z' ao1001 cap1002 r.a.abs ∧ SlR (tyInt .u32) Z' ao1004 cap1005 r.b.abs ∧ Mem B [] w0 Z0 ((.row b1 [.bool r.a.neg, .slice ao1001 r.a.abs.length cap1002, .bool r.b.neg, .slice ao1004 r.b.abs.length cap1005] 75) :: Rr) Z' w' := by
 refine enter0 Tryz.func76 rfl rfl (by kernel_rfl) ?_; intro m d; have h := Fz.le.refl Z
 have i := hp (hs4.small) (hs7.small)
 refine sqB d hM0 [] [] [] ?_; intro n g
 refine s_ (sqB g hM0 [0] [] [(9, .bool ((u0.b.abs.length : Int) == 0))] ?_); intro o c
 obtain ⟨j, k⟩ := i
 refine cn c j ?_
 refine k_ (sqB c hM0 [] [] [(2, pt b1 2)] ?_); intro p l
 exact r_ (ra1 l (pt b1 2) ⟨u0, ao2, cap3, ao5, cap6, Z, rfl, k, h, hs4, hs7, hM0.kp⟩)
theorem gnegA_walk (u0 : BRat) (b1 : Nat) (ao2 : Option Addr) (cap3 : Nat) (ao5 : Option Addr) (cap6 : Nat) (B : Nat) (w0 : World) (Z0 : Fz) (Rr : List Res) (Z : Fz) (w : World) (hs4 : SlR (tyInt .u32) Z ao2 cap3 u0.a.abs) (hs7 : SlR (tyInt .u32) Z ao5 cap6 u0.b.abs) (hM0 : Mem B [] w0 Z0 ((.row b1 [.bool u0.a.neg, .slice ao2 u0.a.abs.length cap3, .bool u0.b.neg, .slice ao5 u0.b.abs.length cap6] 75) :: Rr) Z w) (hZ : Z.on w) {K : BRat → Prop} (hp : gnegA_vc u0 K) : Calls Tryz.prog 51 #[pt b1 0, pt b1 0] w fun e w' => ∃ (r : BRat) (ao1001 : Option Addr) (cap1002 : Nat) (ao1004 : Option Addr) (cap1005 : Nat) (Z' : Fz), e = .returned (pt b1 0) ∧ K r ∧ Fz.le Z Z' ∧ SlR (tyInt .u32) Z' ao1001 cap1002 r.a.abs ∧ SlR (tyInt .u32) Z' ao1004 cap1005 r.b.abs ∧ Mem B [] w0 Z0 ((.row b1 [.bool r.a.neg, .slice ao1001 r.a.abs.length cap1002, .bool r.b.neg, .slice ao1004 r.b.abs.length cap1005] 75) :: Rr) Z' w' := by
 refine enter0 Tryz.func51 rfl rfl (by kernel_rfl) ?_; intro a0 n; have c := Fz.le.refl Z
 have M := hp (hs4.small) (hs7.small)
 refine sqB n hM0 [] [] [] ?_; intro N p
 have q : Fr 17 [] [⟨0, [], pt b1 0⟩, ⟨1, [], pt b1 0⟩] N := p.reg
 refine wp_seq (rgS mixed hM0 [(0, true), (1, true), (2, true), (3, true), (4, true), (5, true), (6, true), (7, true), (8, true), (9, true), (10, false), (11, false), (12, false)] [11, 12] [0] [.row b1 (e75Nc u0 ao2 cap3 ao5 cap6) 75] ?_)
 intro O s ac i
 have d := Fz.le.refl Z
 refine cS q 10 [0, 0] [] [(5, pt b1 0), (10, .bool (!u0.a.neg)), (14, .slice ao2 u0.a.abs.length cap3)] ?_; intro ad t
 refine eS rfl ?_; intro P u
 obtain ⟨Q, R⟩ := M
 refine ck t 83 #[.slice ao2 u0.a.abs.length cap3] ?_
 refine (gtwin_fun u0.a.abs Q ao2 cap3 _ _ hs4 i.fz).mono ?_; rintro _ v ⟨j, k, S, rfl, hm⟩; refine ⟨_, rfl, ?_⟩; intro ae x; have y := i.callZ hm; have g := hm.ext.le
 replace hs4 := hs4.mono g
 replace hs7 := hs7.mono g
 replace d := d.mono g
 replace c := Fz.le.trans c g
 have z : Mem B [] w0 Z0 ((.own (tyInt .u32) 105 j k (gtwinS u0.a.abs)) :: (.row b1 (e75Nc u0 ao2 cap3 ao5 cap6) 75) :: Rr) S v := y
 refine nl (qnI (u _ _ (z.cst d [1]) ?_))
 refine eL rfl ?_; intro T A
 obtain ⟨U, h, C, l⟩ := z.freeze 0 rfl
 replace hs4 := hs4.mono h
 replace hs7 := hs7.mono h
 replace c := Fz.le.trans c h
 have m : Mem B [] w0 Z0 ((.row b1 (e75Nc u0 ao2 cap3 ao5 cap6) 75) :: Rr) U v := C
 refine ck x 78 #[pt b1 0, .bool (!u0.a.neg), .slice j (gtwinS u0.a.abs).length k] ?_
 refine (ggiveA_fun u0 (!u0.a.neg) (gtwinS u0.a.abs) b1 ao2 cap3 ao5 cap6 j k _ _ _ _ _ _ hs4 hs7 l m m.fz).mono ?_; rintro _ V ⟨D, E, F, G, H, rfl, f, W, X, hm⟩; refine ⟨_, rfl, ?_⟩; intro af I; have J := hm
 replace c := Fz.le.trans c f
 have Y : Mem B [] w0 Z0 ((.row b1 (e75Nc (ggiveA u0 (!u0.a.neg) (gtwinS u0.a.abs)) D E F G) 75) :: Rr) H V := J
 refine nl (qnI (A _ _ ?_))
 refine eL rfl ?_; intro aa L
 refine s1 I 4 (pt b1 0) ?_; intro ag ab
 refine nl (qnI (L _ _ ?_))
 refine nS (s _ _ ?_)
 exact t_ (r_ (ra1 ab (pt b1 0) ⟨(ggiveA u0 (!u0.a.neg) (gtwinS u0.a.abs)), D, E, F, G, H, rfl, R, c, W, X, Y.kp⟩))
theorem gnegB_walk (u0 : BRat) (b1 : Nat) (ao2 : Option Addr) (cap3 : Nat) (ao5 : Option Addr) (cap6 : Nat) (B : Nat) (w0 : World) (Z0 : Fz) (Rr : List Res) (Z : Fz) (w : World) (hs4 : SlR (tyInt .u32) Z ao2 cap3 u0.a.abs) (hs7 : SlR (tyInt .u32) Z ao5 cap6 u0.b.abs) (hM0 : Mem B [] w0 Z0 ((.row b1 [.bool u0.a.neg, .slice ao2 u0.a.abs.length cap3, .bool u0.b.neg, .slice ao5 u0.b.abs.length cap6] 75) :: Rr) Z w) (hZ : Z.on w) {K : BRat → Prop} (hp : gnegB_vc u0 K) : Calls Tryz.prog 51 #[pt b1 2, pt b1 2] w fun e w' => ∃ (r : BRat) (ao1001 : Option Addr) (cap1002 : Nat) (ao1004 : Option Addr) (cap1005 : Nat) (Z' : Fz), e = .returned (pt b1 2) ∧ K r ∧ Fz.le Z Z' ∧ SlR (tyInt .u32) Z' ao1001 cap1002 r.a.abs ∧ SlR (tyInt .u32) Z' ao1004 cap1005 r.b.abs ∧ Mem B [] w0 Z0 ((.row b1 [.bool r.a.neg, .slice ao1001 r.a.abs.length cap1002, .bool r.b.neg, .slice ao1004 r.b.abs.length cap1005] 75) :: Rr) Z' w' := by
 refine enter0 Tryz.func51 rfl rfl (by kernel_rfl) ?_; intro a0 n; have c := Fz.le.refl Z
 have M := hp (hs4.small) (hs7.small)
 refine sqB n hM0 [] [] [] ?_; intro N p
 have q : Fr 17 [] [⟨0, [], pt b1 2⟩, ⟨1, [], pt b1 2⟩] N := p.reg
 refine wp_seq (rgS mixed hM0 [(0, true), (1, true), (2, true), (3, true), (4, true), (5, true), (6, true), (7, true), (8, true), (9, true), (10, false), (11, false), (12, false)] [11, 12] [0] [.row b1 (e75Nc u0 ao2 cap3 ao5 cap6) 75] ?_)
 intro O s ac i
 have d := Fz.le.refl Z
 refine cS q 10 [0, 0] [] [(5, pt b1 2), (10, .bool (!u0.b.neg)), (14, .slice ao5 u0.b.abs.length cap6)] ?_; intro ad t
 refine eS rfl ?_; intro P u
 obtain ⟨Q, R⟩ := M
 refine ck t 83 #[.slice ao5 u0.b.abs.length cap6] ?_
 refine (gtwin_fun u0.b.abs Q ao5 cap6 _ _ hs7 i.fz).mono ?_; rintro _ v ⟨j, k, S, rfl, hm⟩; refine ⟨_, rfl, ?_⟩; intro ae x; have y := i.callZ hm; have g := hm.ext.le
 replace hs4 := hs4.mono g
 replace hs7 := hs7.mono g
 replace d := d.mono g
 replace c := Fz.le.trans c g
 have z : Mem B [] w0 Z0 ((.own (tyInt .u32) 105 j k (gtwinS u0.b.abs)) :: (.row b1 (e75Nc u0 ao2 cap3 ao5 cap6) 75) :: Rr) S v := y
 refine nl (qnI (u _ _ (z.cst d [1]) ?_))
 refine eL rfl ?_; intro T A
 obtain ⟨U, h, C, l⟩ := z.freeze 0 rfl
 replace hs4 := hs4.mono h
 replace hs7 := hs7.mono h
 replace c := Fz.le.trans c h
 have m : Mem B [] w0 Z0 ((.row b1 (e75Nc u0 ao2 cap3 ao5 cap6) 75) :: Rr) U v := C
 refine ck x 78 #[pt b1 2, .bool (!u0.b.neg), .slice j (gtwinS u0.b.abs).length k] ?_
 refine (ggiveB_fun u0 (!u0.b.neg) (gtwinS u0.b.abs) b1 ao2 cap3 ao5 cap6 j k _ _ _ _ _ _ hs4 hs7 l m m.fz).mono ?_; rintro _ V ⟨D, E, F, G, H, rfl, f, W, X, hm⟩; refine ⟨_, rfl, ?_⟩; intro af I; have J := hm
 replace c := Fz.le.trans c f
 have Y : Mem B [] w0 Z0 ((.row b1 (e75Nc (ggiveB u0 (!u0.b.neg) (gtwinS u0.b.abs)) D E F G) 75) :: Rr) H V := J
 refine nl (qnI (A _ _ ?_))
 refine eL rfl ?_; intro aa L
 refine s1 I 4 (pt b1 2) ?_; intro ag ab
 refine nl (qnI (L _ _ ?_))
 refine nS (s _ _ ?_)
 exact t_ (r_ (ra1 ab (pt b1 2) ⟨(ggiveB u0 (!u0.b.neg) (gtwinS u0.b.abs)), D, E, F, G, H, rfl, R, c, W, X, Y.kp⟩))
end Go.Proofs.YtdndfbamhnchfaaGreatDoor
set_option linter.unusedVariables false
set_option linter.unusedSimpArgs false
set_option linter.defProp false
set_option maxRecDepth 100000
set_option maxHeartbeats 0
namespace Go.Proofs.YtdndfbamhnchfaaGreatDoor
open Go.Sy Go.RowKit
abbrev e75Nd (X : BRat) (A0 : Option Addr) (C0 : Nat) (A1 : Option Addr) (C1 : Nat) : List Value := [.bool X.a.neg, .slice A0 X.a.abs.length C0, .bool X.b.neg, .slice A1 X.b.abs.length C1]
def gdiv_fun (u0 : List Int) (u1 : List Int) (hpre : u0 = ws (wv u0) ∧ u1 = ws (wv u1) ∧ wv u0 < 18446744073709551616 ∧ wv u1 < 18446744073709551616 ∧ 0 < wv u1) (ao1 : Option Addr) (cap2 : Nat) (ao4 : Option Addr) (cap5 : Nat) (Z : Fz) (w : World) (hs3 : SlR (tyInt .u32) Z ao1 cap2 u0) (hs6 : SlR (tyInt .u32) Z ao4 cap5 u1) (hZ : Z.on w) := fe_ (gdiv_walk u0 u1 ao1 cap2 ao4 cap5 Z w hs3 hs6 hZ (gdiv_ok u0 u1 hpre))
def gcom_fun (u0 : List Int) (u1 : List Int) (hpre : u0 = ws (wv u0) ∧ u1 = ws (wv u1) ∧ wv u0 < 18446744073709551616 ∧ wv u1 < 18446744073709551616) (ao1 : Option Addr) (cap2 : Nat) (ao4 : Option Addr) (cap5 : Nat) (Z : Fz) (w : World) (hs3 : SlR (tyInt .u32) Z ao1 cap2 u0) (hs6 : SlR (tyInt .u32) Z ao4 cap5 u1) (hZ : Z.on w) := fc_ (gcom_walk u0 u1 ao1 cap2 ao4 cap5 Z w hs3 hs6 hZ (gcom_ok u0 u1 hpre))
def gsum_fun (u0 : Bool) (u1 : List Int) (u2 : Bool) (u3 : List Int) (hpre : u1 = ws (wv u1) ∧ u3 = ws (wv u3) ∧ wv u1 < 18446744073709551616 ∧ wv u3 < 18446744073709551616) (ao1 : Option Addr) (cap2 : Nat) (ao4 : Option Addr) (cap5 : Nat) (Z : Fz) (w : World) (hs3 : SlR (tyInt .u32) Z ao1 cap2 u1) (hs6 : SlR (tyInt .u32) Z ao4 cap5 u3) (hZ : Z.on w) := fc_ (gsum_walk u0 u1 u2 u3 ao1 cap2 ao4 cap5 Z w hs3 hs6 hZ (gsum_ok u0 u1 u2 u3 hpre))
theorem gnew_fun (u0 : Int) (hpre : -9223372036854775808 ≤ u0 ∧ u0 ≤ 9223372036854775807)  (Z : Fz) (w : World)  (hZ : Z.on w) : Calls Tryz.prog 48 #[i6 u0] w fun e w' => ∃ (b1001 : Nat) (ao1002 : Option Addr) (cap1003 : Nat) (Z' : Fz), e = .returned (pt b1001 0) ∧ SlR (tyInt .u32) Z' ao1002 cap1003 (bz u0).abs ∧ Mem w.heap.size [] w Z [.row b1001 [.bool (bz u0).neg, .slice ao1002 (bz u0).abs.length cap1003] 73] Z' w' :=
 (gnew_walk u0  Z w  hZ (gnew_ok u0 hpre)).mono fun _ _ ⟨r, h0, h1, h2, h3, he, hk, f0, hm⟩ => by subst hk; exact ⟨h0, h1, h2, h3, he, f0, hm⟩
def rden_fun (u0 : BRat) (hpre : u0.b.abs ≠ []) (b1 : Nat) (ao2 : Option Addr) (cap3 : Nat) (ao5 : Option Addr) (cap6 : Nat) (B : Nat) (w0 : World) (Z0 : Fz) (Rr : List Res) (Z : Fz) (w : World) (hs4 : SlR (tyInt .u32) Z ao2 cap3 u0.a.abs) (hs7 : SlR (tyInt .u32) Z ao5 cap6 u0.b.abs) (hM0 : Mem B [] w0 Z0 ((.row b1 [.bool u0.a.neg, .slice ao2 u0.a.abs.length cap3, .bool u0.b.neg, .slice ao5 u0.b.abs.length cap6] 75) :: Rr) Z w) (hZ : Z.on w) := fe_ (rden_walk u0 b1 ao2 cap3 ao5 cap6 B w0 Z0 Rr Z w hs4 hs7 hM0 hZ (rden_ok u0 hpre))
def gnegA_fun (u0 : BRat) (hpre : u0.a.abs.length ≤ 1000000) (b1 : Nat) (ao2 : Option Addr) (cap3 : Nat) (ao5 : Option Addr) (cap6 : Nat) (B : Nat) (w0 : World) (Z0 : Fz) (Rr : List Res) (Z : Fz) (w : World) (hs4 : SlR (tyInt .u32) Z ao2 cap3 u0.a.abs) (hs7 : SlR (tyInt .u32) Z ao5 cap6 u0.b.abs) (hM0 : Mem B [] w0 Z0 ((.row b1 [.bool u0.a.neg, .slice ao2 u0.a.abs.length cap3, .bool u0.b.neg, .slice ao5 u0.b.abs.length cap6] 75) :: Rr) Z w) (hZ : Z.on w) := fe_ (gnegA_walk u0 b1 ao2 cap3 ao5 cap6 B w0 Z0 Rr Z w hs4 hs7 hM0 hZ (gnegA_ok u0 hpre))
def gnegB_fun (u0 : BRat) (hpre : u0.b.abs.length ≤ 1000000) (b1 : Nat) (ao2 : Option Addr) (cap3 : Nat) (ao5 : Option Addr) (cap6 : Nat) (B : Nat) (w0 : World) (Z0 : Fz) (Rr : List Res) (Z : Fz) (w : World) (hs4 : SlR (tyInt .u32) Z ao2 cap3 u0.a.abs) (hs7 : SlR (tyInt .u32) Z ao5 cap6 u0.b.abs) (hM0 : Mem B [] w0 Z0 ((.row b1 [.bool u0.a.neg, .slice ao2 u0.a.abs.length cap3, .bool u0.b.neg, .slice ao5 u0.b.abs.length cap6] 75) :: Rr) Z w) (hZ : Z.on w) := fe_ (gnegB_walk u0 b1 ao2 cap3 ao5 cap6 B w0 Z0 Rr Z w hs4 hs7 hM0 hZ (gnegB_ok u0 hpre))
theorem gmulAB_walk (u0 : BInt) (u1 : BRat) (u2 : BRat) (b1 : Nat) (ao2 : Option Addr) (cap3 : Nat) (b5 : Nat) (ao6 : Option Addr) (cap7 : Nat) (ao9 : Option Addr) (cap10 : Nat) (b12 : Nat) (ao13 : Option Addr) (cap14 : Nat) (ao16 : Option Addr) (cap17 : Nat) (B : Nat) (w0 : World) (Z0 : Fz) (Rr : List Res) (Z : Fz) (w : World) (hs4 : SlR (tyInt .u32) Z ao2 cap3 u0.abs) (hs8 : SlR (tyInt .u32) Z ao6 cap7 u1.a.abs) (hs11 : SlR (tyInt .u32) Z ao9 cap10 u1.b.abs) (hs15 : SlR (tyInt .u32) Z ao13 cap14 u2.a.abs) (hs18 : SlR (tyInt .u32) Z ao16 cap17 u2.b.abs) (hM0 : Mem B [] w0 Z0 ((.row b1 [.bool u0.neg, .slice ao2 u0.abs.length cap3] 73) :: (.row b5 [.bool u1.a.neg, .slice ao6 u1.a.abs.length cap7, .bool u1.b.neg, .slice ao9 u1.b.abs.length cap10] 75) :: (.row b12 [.bool u2.a.neg, .slice ao13 u2.a.abs.length cap14, .bool u2.b.neg, .slice ao16 u2.b.abs.length cap17] 75) :: Rr) Z w) (hZ : Z.on w) {K : (BInt × BRat × BRat) → Prop} (hp : gmulAB_vc u0 u1 u2 K) : Calls Tryz.prog 75 #[pt b1 0, pt b5 0, pt b12 2] w fun e w' => ∃ (r : BInt × BRat × BRat) (ao1001 : Option Addr) (cap1002 : Nat) (ao1004 : Option Addr) (cap1005 : Nat) (ao1007 : Option Addr) (cap1008 : Nat) (ao1010 : Option Addr) (cap1011 : Nat) (ao1013 : Option Addr) (cap1014 : Nat) (Z' : Fz), e = .returned (pt b1 0) ∧ K r ∧ Fz.le Z Z' ∧ SlR (tyInt .u32) Z' ao1001 cap1002 r.1.abs ∧ SlR (tyInt .u32) Z' ao1004 cap1005 r.2.1.a.abs ∧ SlR (tyInt .u32) Z' ao1007 cap1008 r.2.1.b.abs ∧ SlR (tyInt .u32) Z' ao1010 cap1011 r.2.2.a.abs ∧ SlR (tyInt .u32) Z' ao1013 cap1014 r.2.2.b.abs ∧ Mem B [] w0 Z0 ((.row b1 [.bool r.1.neg, .slice ao1001 r.1.abs.length cap1002] 73) :: (.row b5 [.bool r.2.1.a.neg, .slice ao1004 r.2.1.a.abs.length cap1005, .bool r.2.1.b.neg, .slice ao1007 r.2.1.b.abs.length cap1008] 75) :: (.row b12 [.bool r.2.2.a.neg, .slice ao1010 r.2.2.a.abs.length cap1011, .bool r.2.2.b.neg, .slice ao1013 r.2.2.b.abs.length cap1014] 75) :: Rr) Z' w' := by
 refine enter0 Tryz.func75 rfl rfl (by kernel_rfl) ?_; intro V k; have g := Fz.le.refl Z
 have I := hp (hs4.small) (hs8.small) (hs11.small) (hs15.small) (hs18.small)
 refine sqB k hM0 [] [] [] ?_; intro J p
 have q : Fr 27 [] [⟨0, [], pt b1 0⟩, ⟨1, [], pt b5 0⟩, ⟨2, [], pt b12 2⟩] J := p.reg
 refine wp_seq (rgS mixed hM0 [(0, true), (1, true), (2, true), (3, true), (4, true), (5, true), (6, true), (7, true), (8, true), (9, true), (10, true), (11, true), (12, true), (13, true), (14, true), (15, true), (16, true), (17, true), (18, false), (19, false), (20, true)] [] [1, 2] [.row b5 (e75Nd u1 ao6 cap7 ao9 cap10) 75, .row b12 (e75Nd u2 ao13 cap14 ao16 cap17) 75] ?_)
 intro L s W i
 have f := Fz.le.refl Z
 refine cS q 18 [0, 1, 0, 1] [] [(7, pt b1 0), (16, .bool (u1.a.neg != u2.b.neg)), (20, .slice ao6 u1.a.abs.length cap7), (24, .slice ao16 u2.b.abs.length cap17)] ?_; intro X t
 refine eS rfl ?_; intro M u
 obtain ⟨N, O⟩ := I
 refine ck t 103 #[.slice ao6 u1.a.abs.length cap7, .slice ao16 u2.b.abs.length cap17] ?_
 refine (gmul_fun u1.a.abs u2.b.abs N ao6 cap7 ao16 cap17 _ _ hs8 hs18 i.fz).mono ?_; rintro _ P ⟨v, x, Q, rfl, j, hm⟩; refine ⟨_, rfl, ?_⟩; intro Y y; have z := i.callZ hm; have d := hm.ext.le
 replace hs4 := hs4.mono d
 replace hs8 := hs8.mono d
 replace hs11 := hs11.mono d
 replace hs15 := hs15.mono d
 replace hs18 := hs18.mono d
 replace f := f.mono d
 replace g := Fz.le.trans g d
 have h : Mem B [] w0 Z0 ((.row b1 [.bool u0.neg, .slice ao2 u0.abs.length cap3] 73) :: (.row b5 (e75Nd u1 ao6 cap7 ao9 cap10) 75) :: (.row b12 (e75Nd u2 ao13 cap14 ao16 cap17) 75) :: Rr) Q P := z
 refine nl (qnI (u _ _ (h.cst f [1, 2]) ?_))
 refine eS rfl ?_; intro R A
 refine ck y 78 #[pt b1 0, .bool (u1.a.neg != u2.b.neg), .slice v (gmulS u1.a.abs u2.b.abs).length x] ?_
 refine (ggive_fun u0 (u1.a.neg != u2.b.neg) (gmulS u1.a.abs u2.b.abs) b1 ao2 cap3 v x _ _ _ _ _ _ hs4 j h h.fz).mono ?_; rintro _ S ⟨C, D, E, rfl, c, T, hm⟩; refine ⟨_, rfl, ?_⟩; intro aa F; have G := hm
 replace hs8 := hs8.mono c
 replace hs11 := hs11.mono c
 replace hs15 := hs15.mono c
 replace hs18 := hs18.mono c
 replace f := f.mono c
 replace g := Fz.le.trans g c
 have H : Mem B [] w0 Z0 ((.row b1 [.bool (ggive u0 (u1.a.neg != u2.b.neg) (gmulS u1.a.abs u2.b.abs)).neg, .slice C (ggive u0 (u1.a.neg != u2.b.neg) (gmulS u1.a.abs u2.b.abs)).abs.length D] 73) :: (.row b5 (e75Nd u1 ao6 cap7 ao9 cap10) 75) :: (.row b12 (e75Nd u2 ao13 cap14 ao16 cap17) 75) :: Rr) E S := G
 refine nl (qnI (A _ _ (H.cst f [1, 2]) ?_))
 refine cS F 1 [] [] [(6, pt b1 0)] ?_; intro ab U
 refine nS (s _ _ ?_)
 exact t_ (r_ (ra1 U (pt b1 0) ⟨((ggive u0 (u1.a.neg != u2.b.neg) (gmulS u1.a.abs u2.b.abs)), u1, u2), C, D, ao6, cap7, ao9, cap10, ao13, cap14, ao16, cap17, E, rfl, O, g, T, hs8, hs11, hs15, hs18, H.kp⟩))
theorem gmulBA_walk (u0 : BInt) (u1 : BRat) (u2 : BRat) (b1 : Nat) (ao2 : Option Addr) (cap3 : Nat) (b5 : Nat) (ao6 : Option Addr) (cap7 : Nat) (ao9 : Option Addr) (cap10 : Nat) (b12 : Nat) (ao13 : Option Addr) (cap14 : Nat) (ao16 : Option Addr) (cap17 : Nat) (B : Nat) (w0 : World) (Z0 : Fz) (Rr : List Res) (Z : Fz) (w : World) (hs4 : SlR (tyInt .u32) Z ao2 cap3 u0.abs) (hs8 : SlR (tyInt .u32) Z ao6 cap7 u1.a.abs) (hs11 : SlR (tyInt .u32) Z ao9 cap10 u1.b.abs) (hs15 : SlR (tyInt .u32) Z ao13 cap14 u2.a.abs) (hs18 : SlR (tyInt .u32) Z ao16 cap17 u2.b.abs) (hM0 : Mem B [] w0 Z0 ((.row b1 [.bool u0.neg, .slice ao2 u0.abs.length cap3] 73) :: (.row b5 [.bool u1.a.neg, .slice ao6 u1.a.abs.length cap7, .bool u1.b.neg, .slice ao9 u1.b.abs.length cap10] 75) :: (.row b12 [.bool u2.a.neg, .slice ao13 u2.a.abs.length cap14, .bool u2.b.neg, .slice ao16 u2.b.abs.length cap17] 75) :: Rr) Z w) (hZ : Z.on w) {K : (BInt × BRat × BRat) → Prop} (hp : gmulBA_vc u0 u1 u2 K) : Calls Tryz.prog 75 #[pt b1 0, pt b5 2, pt b12 0] w fun e w' => ∃ (r : BInt × BRat × BRat) (ao1001 : Option Addr) (cap1002 : Nat) (ao1004 : Option Addr) (cap1005 : Nat) (ao1007 : Option Addr) (cap1008 : Nat) (ao1010 : Option Addr) (cap1011 : Nat) (ao1013 : Option Addr) (cap1014 : Nat) (Z' : Fz), e = .returned (pt b1 0) ∧ K r ∧ Fz.le Z Z' ∧ SlR (tyInt .u32) Z' ao1001 cap1002 r.1.abs ∧ SlR (tyInt .u32) Z' ao1004 cap1005 r.2.1.a.abs ∧ SlR (tyInt .u32) Z' ao1007 cap1008 r.2.1.b.abs ∧ SlR (tyInt .u32) Z' ao1010 cap1011 r.2.2.a.abs ∧ SlR (tyInt .u32) Z' ao1013 cap1014 r.2.2.b.abs ∧ Mem B [] w0 Z0 ((.row b1 [.bool r.1.neg, .slice ao1001 r.1.abs.length cap1002] 73) :: (.row b5 [.bool r.2.1.a.neg, .slice ao1004 r.2.1.a.abs.length cap1005, .bool r.2.1.b.neg, .slice ao1007 r.2.1.b.abs.length cap1008] 75) :: (.row b12 [.bool r.2.2.a.neg, .slice ao1010 r.2.2.a.abs.length cap1011, .bool r.2.2.b.neg, .slice ao1013 r.2.2.b.abs.length cap1014] 75) :: Rr) Z' w' := by
 refine enter0 Tryz.func75 rfl rfl (by kernel_rfl) ?_; intro V k; have g := Fz.le.refl Z
 have I := hp (hs4.small) (hs8.small) (hs11.small) (hs15.small) (hs18.small)
 refine sqB k hM0 [] [] [] ?_; intro J p
 have q : Fr 27 [] [⟨0, [], pt b1 0⟩, ⟨1, [], pt b5 2⟩, ⟨2, [], pt b12 0⟩] J := p.reg
 refine wp_seq (rgS mixed hM0 [(0, true), (1, true), (2, true), (3, true), (4, true), (5, true), (6, true), (7, true), (8, true), (9, true), (10, true), (11, true), (12, true), (13, true), (14, true), (15, true), (16, true), (17, true), (18, false), (19, false), (20, true)] [] [1, 2] [.row b5 (e75Nd u1 ao6 cap7 ao9 cap10) 75, .row b12 (e75Nd u2 ao13 cap14 ao16 cap17) 75] ?_)
 intro L s W i
 have f := Fz.le.refl Z
 refine cS q 18 [0, 1, 0, 1] [] [(7, pt b1 0), (16, .bool (u1.b.neg != u2.a.neg)), (20, .slice ao9 u1.b.abs.length cap10), (24, .slice ao13 u2.a.abs.length cap14)] ?_; intro X t
 refine eS rfl ?_; intro M u
 obtain ⟨N, O⟩ := I
 refine ck t 103 #[.slice ao9 u1.b.abs.length cap10, .slice ao13 u2.a.abs.length cap14] ?_
 refine (gmul_fun u1.b.abs u2.a.abs N ao9 cap10 ao13 cap14 _ _ hs11 hs15 i.fz).mono ?_; rintro _ P ⟨v, x, Q, rfl, j, hm⟩; refine ⟨_, rfl, ?_⟩; intro Y y; have z := i.callZ hm; have d := hm.ext.le
 replace hs4 := hs4.mono d
 replace hs8 := hs8.mono d
 replace hs11 := hs11.mono d
 replace hs15 := hs15.mono d
 replace hs18 := hs18.mono d
 replace f := f.mono d
 replace g := Fz.le.trans g d
 have h : Mem B [] w0 Z0 ((.row b1 [.bool u0.neg, .slice ao2 u0.abs.length cap3] 73) :: (.row b5 (e75Nd u1 ao6 cap7 ao9 cap10) 75) :: (.row b12 (e75Nd u2 ao13 cap14 ao16 cap17) 75) :: Rr) Q P := z
 refine nl (qnI (u _ _ (h.cst f [1, 2]) ?_))
 refine eS rfl ?_; intro R A
 refine ck y 78 #[pt b1 0, .bool (u1.b.neg != u2.a.neg), .slice v (gmulS u1.b.abs u2.a.abs).length x] ?_
 refine (ggive_fun u0 (u1.b.neg != u2.a.neg) (gmulS u1.b.abs u2.a.abs) b1 ao2 cap3 v x _ _ _ _ _ _ hs4 j h h.fz).mono ?_; rintro _ S ⟨C, D, E, rfl, c, T, hm⟩; refine ⟨_, rfl, ?_⟩; intro aa F; have G := hm
 replace hs8 := hs8.mono c
 replace hs11 := hs11.mono c
 replace hs15 := hs15.mono c
 replace hs18 := hs18.mono c
 replace f := f.mono c
 replace g := Fz.le.trans g c
 have H : Mem B [] w0 Z0 ((.row b1 [.bool (ggive u0 (u1.b.neg != u2.a.neg) (gmulS u1.b.abs u2.a.abs)).neg, .slice C (ggive u0 (u1.b.neg != u2.a.neg) (gmulS u1.b.abs u2.a.abs)).abs.length D] 73) :: (.row b5 (e75Nd u1 ao6 cap7 ao9 cap10) 75) :: (.row b12 (e75Nd u2 ao13 cap14 ao16 cap17) 75) :: Rr) E S := G
 refine nl (qnI (A _ _ (H.cst f [1, 2]) ?_))
 refine cS F 1 [] [] [(6, pt b1 0)] ?_; intro ab U
 refine nS (s _ _ ?_)
 exact t_ (r_ (ra1 U (pt b1 0) ⟨((ggive u0 (u1.b.neg != u2.a.neg) (gmulS u1.b.abs u2.a.abs)), u1, u2), C, D, ao6, cap7, ao9, cap10, ao13, cap14, ao16, cap17, E, rfl, O, g, T, hs8, hs11, hs15, hs18, H.kp⟩))
theorem gmulAA_walk (u0 : BInt) (u1 : BRat) (u2 : BRat) (b1 : Nat) (ao2 : Option Addr) (cap3 : Nat) (b5 : Nat) (ao6 : Option Addr) (cap7 : Nat) (ao9 : Option Addr) (cap10 : Nat) (b12 : Nat) (ao13 : Option Addr) (cap14 : Nat) (ao16 : Option Addr) (cap17 : Nat) (B : Nat) (w0 : World) (Z0 : Fz) (Rr : List Res) (Z : Fz) (w : World) (hs4 : SlR (tyInt .u32) Z ao2 cap3 u0.abs) (hs8 : SlR (tyInt .u32) Z ao6 cap7 u1.a.abs) (hs11 : SlR (tyInt .u32) Z ao9 cap10 u1.b.abs) (hs15 : SlR (tyInt .u32) Z ao13 cap14 u2.a.abs) (hs18 : SlR (tyInt .u32) Z ao16 cap17 u2.b.abs) (hM0 : Mem B [] w0 Z0 ((.row b1 [.bool u0.neg, .slice ao2 u0.abs.length cap3] 73) :: (.row b5 [.bool u1.a.neg, .slice ao6 u1.a.abs.length cap7, .bool u1.b.neg, .slice ao9 u1.b.abs.length cap10] 75) :: (.row b12 [.bool u2.a.neg, .slice ao13 u2.a.abs.length cap14, .bool u2.b.neg, .slice ao16 u2.b.abs.length cap17] 75) :: Rr) Z w) (hZ : Z.on w) {K : (BInt × BRat × BRat) → Prop} (hp : gmulAA_vc u0 u1 u2 K) : Calls Tryz.prog 75 #[pt b1 0, pt b5 0, pt b12 0] w fun e w' => ∃ (r : BInt × BRat × BRat) (ao1001 : Option Addr) (cap1002 : Nat) (ao1004 : Option Addr) (cap1005 : Nat) (ao1007 : Option Addr) (cap1008 : Nat) (ao1010 : Option Addr) (cap1011 : Nat) (ao1013 : Option Addr) (cap1014 : Nat) (Z' : Fz), e = .returned (pt b1 0) ∧ K r ∧ Fz.le Z Z' ∧ SlR (tyInt .u32) Z' ao1001 cap1002 r.1.abs ∧ SlR (tyInt .u32) Z' ao1004 cap1005 r.2.1.a.abs ∧ SlR (tyInt .u32) Z' ao1007 cap1008 r.2.1.b.abs ∧ SlR (tyInt .u32) Z' ao1010 cap1011 r.2.2.a.abs ∧ SlR (tyInt .u32) Z' ao1013 cap1014 r.2.2.b.abs ∧ Mem B [] w0 Z0 ((.row b1 [.bool r.1.neg, .slice ao1001 r.1.abs.length cap1002] 73) :: (.row b5 [.bool r.2.1.a.neg, .slice ao1004 r.2.1.a.abs.length cap1005, .bool r.2.1.b.neg, .slice ao1007 r.2.1.b.abs.length cap1008] 75) :: (.row b12 [.bool r.2.2.a.neg, .slice ao1010 r.2.2.a.abs.length cap1011, .bool r.2.2.b.neg, .slice ao1013 r.2.2.b.abs.length cap1014] 75) :: Rr) Z' w' := by
 refine enter0 Tryz.func75 rfl rfl (by kernel_rfl) ?_; intro V k; have g := Fz.le.refl Z
 have I := hp (hs4.small) (hs8.small) (hs11.small) (hs15.small) (hs18.small)
 refine sqB k hM0 [] [] [] ?_; intro J p
 have q : Fr 27 [] [⟨0, [], pt b1 0⟩, ⟨1, [], pt b5 0⟩, ⟨2, [], pt b12 0⟩] J := p.reg
 refine wp_seq (rgS mixed hM0 [(0, true), (1, true), (2, true), (3, true), (4, true), (5, true), (6, true), (7, true), (8, true), (9, true), (10, true), (11, true), (12, true), (13, true), (14, true), (15, true), (16, true), (17, true), (18, false), (19, false), (20, true)] [] [1, 2] [.row b5 (e75Nd u1 ao6 cap7 ao9 cap10) 75, .row b12 (e75Nd u2 ao13 cap14 ao16 cap17) 75] ?_)
 intro L s W i
 have f := Fz.le.refl Z
 refine cS q 18 [0, 1, 0, 1] [] [(7, pt b1 0), (16, .bool (u1.a.neg != u2.a.neg)), (20, .slice ao6 u1.a.abs.length cap7), (24, .slice ao13 u2.a.abs.length cap14)] ?_; intro X t
 refine eS rfl ?_; intro M u
 obtain ⟨N, O⟩ := I
 refine ck t 103 #[.slice ao6 u1.a.abs.length cap7, .slice ao13 u2.a.abs.length cap14] ?_
 refine (gmul_fun u1.a.abs u2.a.abs N ao6 cap7 ao13 cap14 _ _ hs8 hs15 i.fz).mono ?_; rintro _ P ⟨v, x, Q, rfl, j, hm⟩; refine ⟨_, rfl, ?_⟩; intro Y y; have z := i.callZ hm; have d := hm.ext.le
 replace hs4 := hs4.mono d
 replace hs8 := hs8.mono d
 replace hs11 := hs11.mono d
 replace hs15 := hs15.mono d
 replace hs18 := hs18.mono d
 replace f := f.mono d
 replace g := Fz.le.trans g d
 have h : Mem B [] w0 Z0 ((.row b1 [.bool u0.neg, .slice ao2 u0.abs.length cap3] 73) :: (.row b5 (e75Nd u1 ao6 cap7 ao9 cap10) 75) :: (.row b12 (e75Nd u2 ao13 cap14 ao16 cap17) 75) :: Rr) Q P := z
 refine nl (qnI (u _ _ (h.cst f [1, 2]) ?_))
 refine eS rfl ?_; intro R A
 refine ck y 78 #[pt b1 0, .bool (u1.a.neg != u2.a.neg), .slice v (gmulS u1.a.abs u2.a.abs).length x] ?_
 refine (ggive_fun u0 (u1.a.neg != u2.a.neg) (gmulS u1.a.abs u2.a.abs) b1 ao2 cap3 v x _ _ _ _ _ _ hs4 j h h.fz).mono ?_; rintro _ S ⟨C, D, E, rfl, c, T, hm⟩; refine ⟨_, rfl, ?_⟩; intro aa F; have G := hm
 replace hs8 := hs8.mono c
 replace hs11 := hs11.mono c
 replace hs15 := hs15.mono c
 replace hs18 := hs18.mono c
 replace f := f.mono c
 replace g := Fz.le.trans g c
 have H : Mem B [] w0 Z0 ((.row b1 [.bool (ggive u0 (u1.a.neg != u2.a.neg) (gmulS u1.a.abs u2.a.abs)).neg, .slice C (ggive u0 (u1.a.neg != u2.a.neg) (gmulS u1.a.abs u2.a.abs)).abs.length D] 73) :: (.row b5 (e75Nd u1 ao6 cap7 ao9 cap10) 75) :: (.row b12 (e75Nd u2 ao13 cap14 ao16 cap17) 75) :: Rr) E S := G
 refine nl (qnI (A _ _ (H.cst f [1, 2]) ?_))
 refine cS F 1 [] [] [(6, pt b1 0)] ?_; intro ab U
 refine nS (s _ _ ?_)
 exact t_ (r_ (ra1 U (pt b1 0) ⟨((ggive u0 (u1.a.neg != u2.a.neg) (gmulS u1.a.abs u2.a.abs)), u1, u2), C, D, ao6, cap7, ao9, cap10, ao13, cap14, ao16, cap17, E, rfl, O, g, T, hs8, hs11, hs15, hs18, H.kp⟩))
theorem gmulBB_walk (u0 : BInt) (u1 : BRat) (u2 : BRat) (b1 : Nat) (ao2 : Option Addr) (cap3 : Nat) (b5 : Nat) (ao6 : Option Addr) (cap7 : Nat) (ao9 : Option Addr) (cap10 : Nat) (b12 : Nat) (ao13 : Option Addr) (cap14 : Nat) (ao16 : Option Addr) (cap17 : Nat) (B : Nat) (w0 : World) (Z0 : Fz) (Rr : List Res) (Z : Fz) (w : World) (hs4 : SlR (tyInt .u32) Z ao2 cap3 u0.abs) (hs8 : SlR (tyInt .u32) Z ao6 cap7 u1.a.abs) (hs11 : SlR (tyInt .u32) Z ao9 cap10 u1.b.abs) (hs15 : SlR (tyInt .u32) Z ao13 cap14 u2.a.abs) (hs18 : SlR (tyInt .u32) Z ao16 cap17 u2.b.abs) (hM0 : Mem B [] w0 Z0 ((.row b1 [.bool u0.neg, .slice ao2 u0.abs.length cap3] 73) :: (.row b5 [.bool u1.a.neg, .slice ao6 u1.a.abs.length cap7, .bool u1.b.neg, .slice ao9 u1.b.abs.length cap10] 75) :: (.row b12 [.bool u2.a.neg, .slice ao13 u2.a.abs.length cap14, .bool u2.b.neg, .slice ao16 u2.b.abs.length cap17] 75) :: Rr) Z w) (hZ : Z.on w) {K : (BInt × BRat × BRat) → Prop} (hp : gmulBB_vc u0 u1 u2 K) : Calls Tryz.prog 75 #[pt b1 0, pt b5 2, pt b12 2] w fun e w' => ∃ (r : BInt × BRat × BRat) (ao1001 : Option Addr) (cap1002 : Nat) (ao1004 : Option Addr) (cap1005 : Nat) (ao1007 : Option Addr) (cap1008 : Nat) (ao1010 : Option Addr) (cap1011 : Nat) (ao1013 : Option Addr) (cap1014 : Nat) (Z' : Fz), e = .returned (pt b1 0) ∧ K r ∧ Fz.le Z Z' ∧ SlR (tyInt .u32) Z' ao1001 cap1002 r.1.abs ∧ SlR (tyInt .u32) Z' ao1004 cap1005 r.2.1.a.abs ∧ SlR (tyInt .u32) Z' ao1007 cap1008 r.2.1.b.abs ∧ SlR (tyInt .u32) Z' ao1010 cap1011 r.2.2.a.abs ∧ SlR (tyInt .u32) Z' ao1013 cap1014 r.2.2.b.abs ∧ Mem B [] w0 Z0 ((.row b1 [.bool r.1.neg, .slice ao1001 r.1.abs.length cap1002] 73) :: (.row b5 [.bool r.2.1.a.neg, .slice ao1004 r.2.1.a.abs.length cap1005, .bool r.2.1.b.neg, .slice ao1007 r.2.1.b.abs.length cap1008] 75) :: (.row b12 [.bool r.2.2.a.neg, .slice ao1010 r.2.2.a.abs.length cap1011, .bool r.2.2.b.neg, .slice ao1013 r.2.2.b.abs.length cap1014] 75) :: Rr) Z' w' := by
 refine enter0 Tryz.func75 rfl rfl (by kernel_rfl) ?_; intro V k; have g := Fz.le.refl Z
 have I := hp (hs4.small) (hs8.small) (hs11.small) (hs15.small) (hs18.small)
 refine sqB k hM0 [] [] [] ?_; intro J p
 have q : Fr 27 [] [⟨0, [], pt b1 0⟩, ⟨1, [], pt b5 2⟩, ⟨2, [], pt b12 2⟩] J := p.reg
 refine wp_seq (rgS mixed hM0 [(0, true), (1, true), (2, true), (3, true), (4, true), (5, true), (6, true), (7, true), (8, true), (9, true), (10, true), (11, true), (12, true), (13, true), (14, true), (15, true), (16, true), (17, true), (18, false), (19, false), (20, true)] [] [1, 2] [.row b5 (e75Nd u1 ao6 cap7 ao9 cap10) 75, .row b12 (e75Nd u2 ao13 cap14 ao16 cap17) 75] ?_)
 intro L s W i
 have f := Fz.le.refl Z
 refine cS q 18 [0, 1, 0, 1] [] [(7, pt b1 0), (16, .bool (u1.b.neg != u2.b.neg)), (20, .slice ao9 u1.b.abs.length cap10), (24, .slice ao16 u2.b.abs.length cap17)] ?_; intro X t
 refine eS rfl ?_; intro M u
 obtain ⟨N, O⟩ := I
 refine ck t 103 #[.slice ao9 u1.b.abs.length cap10, .slice ao16 u2.b.abs.length cap17] ?_
 refine (gmul_fun u1.b.abs u2.b.abs N ao9 cap10 ao16 cap17 _ _ hs11 hs18 i.fz).mono ?_; rintro _ P ⟨v, x, Q, rfl, j, hm⟩; refine ⟨_, rfl, ?_⟩; intro Y y; have z := i.callZ hm; have d := hm.ext.le
 replace hs4 := hs4.mono d
 replace hs8 := hs8.mono d
 replace hs11 := hs11.mono d
 replace hs15 := hs15.mono d
 replace hs18 := hs18.mono d
 replace f := f.mono d
 replace g := Fz.le.trans g d
 have h : Mem B [] w0 Z0 ((.row b1 [.bool u0.neg, .slice ao2 u0.abs.length cap3] 73) :: (.row b5 (e75Nd u1 ao6 cap7 ao9 cap10) 75) :: (.row b12 (e75Nd u2 ao13 cap14 ao16 cap17) 75) :: Rr) Q P := z
 refine nl (qnI (u _ _ (h.cst f [1, 2]) ?_))
 refine eS rfl ?_; intro R A
 refine ck y 78 #[pt b1 0, .bool (u1.b.neg != u2.b.neg), .slice v (gmulS u1.b.abs u2.b.abs).length x] ?_
 refine (ggive_fun u0 (u1.b.neg != u2.b.neg) (gmulS u1.b.abs u2.b.abs) b1 ao2 cap3 v x _ _ _ _ _ _ hs4 j h h.fz).mono ?_; rintro _ S ⟨C, D, E, rfl, c, T, hm⟩; refine ⟨_, rfl, ?_⟩; intro aa F; have G := hm
 replace hs8 := hs8.mono c
 replace hs11 := hs11.mono c
 replace hs15 := hs15.mono c
 replace hs18 := hs18.mono c
 replace f := f.mono c
 replace g := Fz.le.trans g c
 have H : Mem B [] w0 Z0 ((.row b1 [.bool (ggive u0 (u1.b.neg != u2.b.neg) (gmulS u1.b.abs u2.b.abs)).neg, .slice C (ggive u0 (u1.b.neg != u2.b.neg) (gmulS u1.b.abs u2.b.abs)).abs.length D] 73) :: (.row b5 (e75Nd u1 ao6 cap7 ao9 cap10) 75) :: (.row b12 (e75Nd u2 ao13 cap14 ao16 cap17) 75) :: Rr) E S := G
 refine nl (qnI (A _ _ (H.cst f [1, 2]) ?_))
 refine cS F 1 [] [] [(6, pt b1 0)] ?_; intro ab U
 refine nS (s _ _ ?_)
 exact t_ (r_ (ra1 U (pt b1 0) ⟨((ggive u0 (u1.b.neg != u2.b.neg) (gmulS u1.b.abs u2.b.abs)), u1, u2), C, D, ao6, cap7, ao9, cap10, ao13, cap14, ao16, cap17, E, rfl, O, g, T, hs8, hs11, hs15, hs18, H.kp⟩))
theorem rnorm_walk (u0 : BRat) (b1 : Nat) (ao2 : Option Addr) (cap3 : Nat) (ao5 : Option Addr) (cap6 : Nat) (B : Nat) (w0 : World) (Z0 : Fz) (Rr : List Res) (Z : Fz) (w : World) (hs4 : SlR (tyInt .u32) Z ao2 cap3 u0.a.abs) (hs7 : SlR (tyInt .u32) Z ao5 cap6 u0.b.abs) (hM0 : Mem B [] w0 Z0 ((.row b1 [.bool u0.a.neg, .slice ao2 u0.a.abs.length cap3, .bool u0.b.neg, .slice ao5 u0.b.abs.length cap6] 75) :: Rr) Z w) (hZ : Z.on w) {K : BRat → Prop} (hp : rnorm_vc u0 K) : Calls Tryz.prog 101 #[pt b1 0] w fun e w' => ∃ (r : BRat) (ao1001 : Option Addr) (cap1002 : Nat) (ao1004 : Option Addr) (cap1005 : Nat) (Z' : Fz), e = .returned (pt b1 0) ∧ K r ∧ Fz.le Z Z' ∧ SlR (tyInt .u32) Z' ao1001 cap1002 r.a.abs ∧ SlR (tyInt .u32) Z' ao1004 cap1005 r.b.abs ∧ Mem B [] w0 Z0 ((.row b1 [.bool r.a.neg, .slice ao1001 r.a.abs.length cap1002, .bool r.b.neg, .slice ao1004 r.b.abs.length cap1005] 75) :: Rr) Z' w' := by
 refine enter0 Tryz.func101 rfl rfl (by kernel_rfl) ?_; intro a0 b3; have j := Fz.le.refl Z
 have eO := hp (hs4.small) (hs7.small)
 refine sqB b3 hM0 [] [] [] ?_; intro gW b5
 refine s_ (sqB b5 hM0 [0] [] [(14, .bool ((u0.b.abs.length : Int) == 0))] ?_); intro gX bi
 obtain ⟨eP, eQ⟩ := eO
 refine cn bi eP ?_
 refine k_ (s_ (sqB bi hM0 [0] [] [(23, .bool u0.b.neg)] ?_)); intro bj b6
 have b7 : Fr 120 [] [⟨0, [], pt b1 0⟩, ⟨23, [], .bool u0.b.neg⟩] bj := b6.reg
 obtain ⟨eR, aK, eT⟩ := eQ
 refine wp_then_k fun KJ47 hKJ48 => ?_
 have b8 : ∀ (f : BRat) (l : Option Addr) (m : Nat) (h : Option Addr) (i : Nat) (O : Fz), eR f ∧ SlR (tyInt .u32) O l m f.a.abs ∧ SlR (tyInt .u32) O h i f.b.abs ∧ Fz.le Z O → ∀ a1 w1, Fr 120 [] [⟨0, [], pt b1 0⟩] a1 → Mem B [] w0 Z0 ((.row b1 (e75Nd f l m h i) 75) :: Rr) O w1 → KJ47 a1 w1 := by
  rintro f l m h i O ⟨eU, o, n, p⟩ gY gZ b9 u
  refine hKJ48 _ _ ?_
  have aL := eT f eU
  replace j := Fz.le.trans j p
  refine s_ (sqB b9 u [0] [] [(44, .bool ((f.a.abs.length : Int) == 0))] ?_); intro g0 aj
  refine c_ aj aL (fun _ eV => ?_) fun _ aN => ?_
  ·
   refine sqH ?_; intro eW ca
   refine bt aj u 3 [] [] [(47, pt b1 2)] ?_; intro g1 cb
   refine ck cb 77 #[pt b1 2, i6 1] ?_
   refine enter0 Tryz.func77 rfl rfl (by kernel_rfl) ?_; intro eX cc
   have ce : Fr 18 [] [⟨0, [], pt b1 2⟩, ⟨1, [], i6 1⟩] eX := cc.reg
   refine sqB ce u [] [] [] ?_; intro g2 cf
   refine sqB cf u [] [] [(5, y6 1)] ?_; intro g3 cg
   refine s_ (sqB cg u [] [] [(9, .bool false)] ?_); intro g4 bl
   refine cdF bl (by kernel_rfl) ?_
   refine k_ (sqH ?_); intro eY ch
   refine bt bl u 4 [] [] [(12, pt b1 2), (14, .bool false), (15, y6 1)] ?_; intro g5 ci
   obtain ⟨eZ, cj⟩ := eV
   refine ck ci 104 #[y6 1] ?_
   refine (gwords_fun 1 eZ _ _ u.fz).mono ?_; rintro _ e0 ⟨cl, cm, e1, rfl, aM, hm⟩; refine ⟨_, rfl, ?_⟩; intro g6 co; have cp := u.callZ hm; have ag := hm.ext.le
   replace o := o.mono ag
   replace n := n.mono ag
   replace j := Fz.le.trans j ag
   have bm : Mem B [] w0 Z0 ((.row b1 (e75Nd f l m h i) 75) :: Rr) e1 e0 := cp
   have cq := cj (aM.small)
   refine ck co 78 #[pt b1 2, .bool false, .slice cl (gwordsS 1).length cm] ?_
   obtain ⟨L, e2, cr⟩ := hxq cq
   have h9 := ggiveB_fun f false (gwordsS 1) b1 l m h i cl cm _ _ _ _ _ _ o n aM bm bm.fz; rw [e2] at h9; refine h9.mono ?_; rintro _ cs ⟨bn, bo, bp, bq, br, rfl, S, ct, cu, hm⟩; refine ⟨_, rfl, ?_⟩; intro g7 cv; have cw := hm
   replace j := Fz.le.trans j S
   have cx : Mem B [] w0 Z0 ((.row b1 (e75Nd L bn bo bp bq) 75) :: Rr) br cs := cw
   have e3 := cr (ct.small) (cu.small)
   refine s1 cv 4 (pt b1 2) ?_; intro g8 cz
   apply ch
   refine r_ (ra1 cz (pt b1 2) ?_)
   refine ⟨_, rfl, ?_⟩; intro g9 cA
   have cB : Mem B [] w0 Z0 ((.row b1 (e75Nd L bn bo bp bq) 75) :: Rr) br cs := cx
   apply ca
   refine sqB cA cB [] [] [(2, pt b1 0)] ?_; intro ha e4
   exact r_ (h_ (ra1 e4 (pt b1 0) ⟨L, bn, bo, bp, bq, br, rfl, e3, j, ct, cu, cB.kp⟩))
  refine k_ (s_ (sqH ?_)); intro cC aO
  refine bt aj u 8 [0] [] [(57, .bool ((f.b.abs.length : Int) == 1))] ?_; intro hb aP
  refine e_ aN (fun ak e5 => ?_) fun ak fW => ?_
  ·
   have cD := aP.reval (d := 57) (c := []) (v := .bool ((f.b.abs.length : Int) == 1)) (by kernel_rfl) (.bool true) (by rw [ak])
   refine bt cD u 5 [0] [58, 59, 60, 61, 62] [(62, .slice h f.b.abs.length i)] ?_; intro hc bs
   obtain ⟨e6, cE⟩ := e5
   refine ix bs (T := (tyInt .u32)) (xs := f.b.abs) n (0 : Int) e6 (k := .i64) (e := 105) (bytes := 4) (wK bs true) rfl (by kernel_rfl) rfl (by kernel_rfl) (by kernel_rfl) (by kernel_rfl) ?_; intro hd he e7 al hf e8 G e9 aQ
   have aR := cE al e8
   obtain rfl : e7 = ([.int .u32 al] : List Value) := e9
   refine v_ aQ (.int .u32 al) (wK aQ true) (lz aQ u.fz G 0 (g := []) rfl (by kernel_rfl) (by kernel_rfl) (by kernel_rfl) rfl) ?_; intro hg cF
   refine bt cF u 2 [] [65, 66] [(66, .bool (al == 1))] ?_; intro fa am
   apply aO
   refine c_ am aR (fun _ fb => ?_) fun _ fd => ?_
   ·
    refine sqB am u [] [] [(2, pt b1 0)] ?_; intro hh fc
    exact r_ (h_ (ra1 fc (pt b1 0) ⟨f, l, m, h, i, O, rfl, fb, j, o, n, u.kp⟩))
   apply k_
   have cG : Fr 120 [] [⟨0, [], pt b1 0⟩] fa := am.reg
   refine wp_seq (rgS mixed u [(0, true), (1, true), (2, true), (3, true), (4, true), (5, true), (6, true), (7, true), (8, true), (9, true), (10, false), (11, true)] [] [0] [.row b1 (e75Nd f l m h i) 75] ?_)
   intro fe cH hi bv
   have bw := Fz.le.refl O
   refine cS cG 10 [0, 0] [] [(72, .slice l f.a.abs.length m), (77, .slice h f.b.abs.length i)] ?_; intro hj cI
   refine eS rfl ?_; intro ff cJ
   obtain ⟨fg, aS⟩ := fd
   refine ck cI 113 #[.slice l f.a.abs.length m, .slice h f.b.abs.length i] ?_
   refine (gcom_fun f.a.abs f.b.abs fg l m h i _ _ o n bv.fz).mono ?_; rintro _ fh ⟨z, A, cK, rfl, E, hm⟩; refine ⟨_, rfl, ?_⟩; intro hk cL; have cM := bv.callZ hm; have P := hm.ext.le
   replace o := o.mono P
   replace n := n.mono P
   replace bw := bw.mono P
   replace j := Fz.le.trans j P
   have x : Mem B [] w0 Z0 ((.row b1 (e75Nd f l m h i) 75) :: Rr) cK fh := cM
   refine nl (qnI (cJ _ _ (x.cst bw [0]) ?_))
   refine cS cL 1 [] [] [(3, .slice z (gcomS f.a.abs f.b.abs).length A)] ?_; intro hl cN
   refine nS (cH _ _ ?_)
   refine t_ (s_ (sqH ?_)); intro cO aT
   refine bt cN x 4 [] [] [(82, .bool (((gcomS f.a.abs f.b.abs).length : Int) == 1))] ?_; intro hn aU
   refine e_ aS (fun an fi => ?_) fun an fG => ?_
   ·
    have aV := aU.reval (d := 82) (c := []) (v := .bool (((gcomS f.a.abs f.b.abs).length : Int) == 1)) (by kernel_rfl) (.bool true) (by rw [an])
    refine g_ aV true (.slice z (gcomS f.a.abs f.b.abs).length A) ?_; intro ho bx
    obtain ⟨fj, cP⟩ := fi
    refine ix bx (T := (tyInt .u32)) (xs := (gcomS f.a.abs f.b.abs)) E (0 : Int) fj (k := .i64) (e := 105) (bytes := 4) (wK bx true) rfl (by kernel_rfl) rfl (by kernel_rfl) (by kernel_rfl) (by kernel_rfl) ?_; intro hq hr fk ao hs fl ap fm aW
    have aX := cP ao fl
    obtain rfl : fk = ([.int .u32 ao] : List Value) := fm
    refine v_ aW (.int .u32 ao) (wK aW true) (lz aW x.fz ap 0 (g := []) rfl (by kernel_rfl) (by kernel_rfl) (by kernel_rfl) rfl) ?_; intro ht cQ
    refine bt cQ x 2 [] [86, 87] [(87, .bool (ao == 1))] ?_; intro hu aq
    apply aT
    refine c_ aq aX (fun _ fn => ?_) fun _ fp => ?_
    ·
     refine sqB aq x [] [] [(2, pt b1 0)] ?_; intro hv fo
     exact r_ (h_ (ra1 fo (pt b1 0) ⟨f, l, m, h, i, cK, rfl, fn, j, o, n, x.kp⟩))
    refine k_ (sqH ?_); intro fq cR
    refine bt aq x 6 [0] [] [(94, .slice l f.a.abs.length m), (95, .slice z (gcomS f.a.abs f.b.abs).length A)] ?_; intro hw cT
    obtain ⟨fr, cU⟩ := fp
    refine ck cT 114 #[.slice l f.a.abs.length m, .slice z (gcomS f.a.abs f.b.abs).length A] ?_
    refine (gdiv_fun f.a.abs (gcomS f.a.abs f.b.abs) fr l m z A _ _ o E x.fz).mono ?_; rintro _ fs ⟨U, V, hx, hy, ft, rfl, aY, bA, hm⟩; refine ⟨_, rfl, ?_⟩; intro hz cV; have cW := x.callZ hm; have M := hm.ext.le
    replace n := n.mono M
    replace E := E.mono M
    replace j := Fz.le.trans j M
    have ar : Mem B [] w0 Z0 ((.row b1 (e75Nd f l m h i) 75) :: Rr) ft fs := cW
    have fu := cU (aY.small) (bA.small)
    refine bt cV ar 5 [] [] [(4, .slice U (gdivS f.a.abs (gcomS f.a.abs f.b.abs)).1.length V)] ?_; intro hA cY
    apply cR
    refine sqH ?_; intro fv cZ
    refine bt cY ar 6 [0] [] [(104, .slice h f.b.abs.length i), (105, .slice z (gcomS f.a.abs f.b.abs).length A)] ?_; intro hB c0
    obtain ⟨fw, c1⟩ := fu
    refine ck c0 114 #[.slice h f.b.abs.length i, .slice z (gcomS f.a.abs f.b.abs).length A] ?_
    refine (gdiv_fun f.b.abs (gcomS f.a.abs f.b.abs) fw h i z A _ _ n E ar.fz).mono ?_; rintro _ fx ⟨au, av, hC, hD, aZ, rfl, c2, fy, hm⟩; refine ⟨_, rfl, ?_⟩; intro hE c3; have c4 := ar.callZ hm; have H := hm.ext.le
    replace aY := aY.mono H
    replace j := Fz.le.trans j H
    have a2 : Mem B [] w0 Z0 ((.row b1 (e75Nd f l m h i) 75) :: Rr) aZ fx := c4
    have fA := c1 (c2.small) (fy.small)
    refine bt c3 a2 5 [] [] [(6, .slice au (gdivS f.b.abs (gcomS f.a.abs f.b.abs)).1.length av)] ?_; intro hF c6
    apply cZ
    refine sqH ?_; intro fB c7
    refine bt c6 a2 5 [] [] [(110, .slice U (gdivS f.a.abs (gcomS f.a.abs f.b.abs)).1.length V), (113, pt b1 1)] ?_; intro hG bB
    refine sx bB a2 0 [.bool f.a.neg, .slice U (gdivS f.a.abs (gcomS f.a.abs f.b.abs)).1.length V, .bool f.b.neg, .slice h f.b.abs.length i] 1 ?_; intro fC c8
    have bC : Mem B [] w0 Z0 ((.row b1 [.bool f.a.neg, .slice U (gdivS f.a.abs (gcomS f.a.abs f.b.abs)).1.length V, .bool f.b.neg, .slice h f.b.abs.length i] 75) :: Rr) aZ fC := c8
    apply c7
    refine sqH ?_; intro fD c9
    refine bt bB bC 5 [] [] [(115, .slice au (gdivS f.b.abs (gcomS f.a.abs f.b.abs)).1.length av), (118, pt b1 3)] ?_; intro hH bD
    refine sx bD bC 0 [.bool f.a.neg, .slice U (gdivS f.a.abs (gcomS f.a.abs f.b.abs)).1.length V, .bool f.b.neg, .slice au (gdivS f.b.abs (gcomS f.a.abs f.b.abs)).1.length av] 3 ?_; intro fE da
    have db : Mem B [] w0 Z0 ((.row b1 [.bool f.a.neg, .slice U (gdivS f.a.abs (gcomS f.a.abs f.b.abs)).1.length V, .bool f.b.neg, .slice au (gdivS f.b.abs (gcomS f.a.abs f.b.abs)).1.length av] 75) :: Rr) aZ fE := da
    apply c9
    refine sqB bD db [] [] [(2, pt b1 0)] ?_; intro hI fF
    exact r_ (ra1 fF (pt b1 0) ⟨(⟨(⟨f.a.neg, (gdivS f.a.abs (gcomS f.a.abs f.b.abs)).1⟩ : BInt), (⟨f.b.neg, (gdivS f.b.abs (gcomS f.a.abs f.b.abs)).1⟩ : BInt)⟩ : BRat), U, V, au, av, aZ, rfl, fA, j, aY, c2, db.kp⟩)
   have dc := aU.reval (d := 82) (c := []) (v := .bool (((gcomS f.a.abs f.b.abs).length : Int) == 1)) (by kernel_rfl) (.bool false) (by rw [an])
   refine bt dc x 5 [] [83, 84, 85, 86, 87] [(87, .bool false)] ?_; intro hJ bE
   apply aT
   refine cdF bE (by kernel_rfl) ?_
   refine k_ (sqH ?_); intro fH dd
   refine bt bE x 6 [0] [] [(94, .slice l f.a.abs.length m), (95, .slice z (gcomS f.a.abs f.b.abs).length A)] ?_; intro hK de
   obtain ⟨fI, df⟩ := fG
   refine ck de 114 #[.slice l f.a.abs.length m, .slice z (gcomS f.a.abs f.b.abs).length A] ?_
   refine (gdiv_fun f.a.abs (gcomS f.a.abs f.b.abs) fI l m z A _ _ o E x.fz).mono ?_; rintro _ fJ ⟨W, X, hL, hM, fK, rfl, a3, bF, hm⟩; refine ⟨_, rfl, ?_⟩; intro hN dg; have dh := x.callZ hm; have Q := hm.ext.le
   replace n := n.mono Q
   replace E := E.mono Q
   replace j := Fz.le.trans j Q
   have aw : Mem B [] w0 Z0 ((.row b1 (e75Nd f l m h i) 75) :: Rr) fK fJ := dh
   have fL := df (a3.small) (bF.small)
   refine bt dg aw 5 [] [] [(4, .slice W (gdivS f.a.abs (gcomS f.a.abs f.b.abs)).1.length X)] ?_; intro hO dj
   apply dd
   refine sqH ?_; intro fM dk
   refine bt dj aw 6 [0] [] [(104, .slice h f.b.abs.length i), (105, .slice z (gcomS f.a.abs f.b.abs).length A)] ?_; intro hP dl
   obtain ⟨fN, dm⟩ := fL
   refine ck dl 114 #[.slice h f.b.abs.length i, .slice z (gcomS f.a.abs f.b.abs).length A] ?_
   refine (gdiv_fun f.b.abs (gcomS f.a.abs f.b.abs) fN h i z A _ _ n E aw.fz).mono ?_; rintro _ fO ⟨ax, ay, hQ, hR, a4, rfl, dn, fP, hm⟩; refine ⟨_, rfl, ?_⟩; intro hS dp; have dq := aw.callZ hm; have I := hm.ext.le
   replace a3 := a3.mono I
   replace j := Fz.le.trans j I
   have a5 : Mem B [] w0 Z0 ((.row b1 (e75Nd f l m h i) 75) :: Rr) a4 fO := dq
   have fQ := dm (dn.small) (fP.small)
   refine bt dp a5 5 [] [] [(6, .slice ax (gdivS f.b.abs (gcomS f.a.abs f.b.abs)).1.length ay)] ?_; intro hT ds
   apply dk
   refine sqH ?_; intro fR dt
   refine bt ds a5 5 [] [] [(110, .slice W (gdivS f.a.abs (gcomS f.a.abs f.b.abs)).1.length X), (113, pt b1 1)] ?_; intro hU bG
   refine sx bG a5 0 [.bool f.a.neg, .slice W (gdivS f.a.abs (gcomS f.a.abs f.b.abs)).1.length X, .bool f.b.neg, .slice h f.b.abs.length i] 1 ?_; intro fS du
   have bH : Mem B [] w0 Z0 ((.row b1 [.bool f.a.neg, .slice W (gdivS f.a.abs (gcomS f.a.abs f.b.abs)).1.length X, .bool f.b.neg, .slice h f.b.abs.length i] 75) :: Rr) a4 fS := du
   apply dt
   refine sqH ?_; intro fT dv
   refine bt bG bH 5 [] [] [(115, .slice ax (gdivS f.b.abs (gcomS f.a.abs f.b.abs)).1.length ay), (118, pt b1 3)] ?_; intro hV bI
   refine sx bI bH 0 [.bool f.a.neg, .slice W (gdivS f.a.abs (gcomS f.a.abs f.b.abs)).1.length X, .bool f.b.neg, .slice ax (gdivS f.b.abs (gcomS f.a.abs f.b.abs)).1.length ay] 3 ?_; intro fU dw
   have dx : Mem B [] w0 Z0 ((.row b1 [.bool f.a.neg, .slice W (gdivS f.a.abs (gcomS f.a.abs f.b.abs)).1.length X, .bool f.b.neg, .slice ax (gdivS f.b.abs (gcomS f.a.abs f.b.abs)).1.length ay] 75) :: Rr) a4 fU := dw
   apply dv
   refine sqB bI dx [] [] [(2, pt b1 0)] ?_; intro hW fV
   exact r_ (ra1 fV (pt b1 0) ⟨(⟨(⟨f.a.neg, (gdivS f.a.abs (gcomS f.a.abs f.b.abs)).1⟩ : BInt), (⟨f.b.neg, (gdivS f.b.abs (gcomS f.a.abs f.b.abs)).1⟩ : BInt)⟩ : BRat), W, X, ax, ay, a4, rfl, fQ, j, a3, dn, dx.kp⟩)
  have dy := aP.reval (d := 57) (c := []) (v := .bool ((f.b.abs.length : Int) == 1)) (by kernel_rfl) (.bool false) (by rw [ak])
  refine bt dy u 9 [] [58, 59, 60, 61, 62, 63, 64, 65, 66] [(66, .bool false)] ?_; intro fX bJ
  apply aO
  refine cdF bJ (by kernel_rfl) ?_
  apply k_
  have dz : Fr 120 [] [⟨0, [], pt b1 0⟩] fX := bJ.reg
  refine wp_seq (rgS mixed u [(0, true), (1, true), (2, true), (3, true), (4, true), (5, true), (6, true), (7, true), (8, true), (9, true), (10, false), (11, true)] [] [0] [.row b1 (e75Nd f l m h i) 75] ?_)
  intro fY dA hX bK
  have bL := Fz.le.refl O
  refine cS dz 10 [0, 0] [] [(72, .slice l f.a.abs.length m), (77, .slice h f.b.abs.length i)] ?_; intro hY dB
  refine eS rfl ?_; intro fZ dC
  obtain ⟨f0, a6⟩ := fW
  refine ck dB 113 #[.slice l f.a.abs.length m, .slice h f.b.abs.length i] ?_
  refine (gcom_fun f.a.abs f.b.abs f0 l m h i _ _ o n bK.fz).mono ?_; rintro _ f1 ⟨C, D, dD, rfl, F, hm⟩; refine ⟨_, rfl, ?_⟩; intro h0 dE; have dF := bK.callZ hm; have Y := hm.ext.le
  replace o := o.mono Y
  replace n := n.mono Y
  replace bL := bL.mono Y
  replace j := Fz.le.trans j Y
  have y : Mem B [] w0 Z0 ((.row b1 (e75Nd f l m h i) 75) :: Rr) dD f1 := dF
  refine nl (qnI (dC _ _ (y.cst bL [0]) ?_))
  refine cS dE 1 [] [] [(3, .slice C (gcomS f.a.abs f.b.abs).length D)] ?_; intro h1 dG
  refine nS (dA _ _ ?_)
  refine t_ (s_ (sqH ?_)); intro dH a7
  refine bt dG y 4 [] [] [(82, .bool (((gcomS f.a.abs f.b.abs).length : Int) == 1))] ?_; intro h2 a8
  refine e_ a6 (fun az f2 => ?_) fun az gp => ?_
  ·
   have a9 := a8.reval (d := 82) (c := []) (v := .bool (((gcomS f.a.abs f.b.abs).length : Int) == 1)) (by kernel_rfl) (.bool true) (by rw [az])
   refine g_ a9 true (.slice C (gcomS f.a.abs f.b.abs).length D) ?_; intro h3 bM
   obtain ⟨f3, dI⟩ := f2
   refine ix bM (T := (tyInt .u32)) (xs := (gcomS f.a.abs f.b.abs)) F (0 : Int) f3 (k := .i64) (e := 105) (bytes := 4) (wK bM true) rfl (by kernel_rfl) rfl (by kernel_rfl) (by kernel_rfl) (by kernel_rfl) ?_; intro h4 h5 f4 aA h6 f5 aB f6 ba
   have bb := dI aA f5
   obtain rfl : f4 = ([.int .u32 aA] : List Value) := f6
   refine v_ ba (.int .u32 aA) (wK ba true) (lz ba y.fz aB 0 (g := []) rfl (by kernel_rfl) (by kernel_rfl) (by kernel_rfl) rfl) ?_; intro h7 dJ
   refine bt dJ y 2 [] [86, 87] [(87, .bool (aA == 1))] ?_; intro h8 aC
   apply a7
   refine c_ aC bb (fun _ f7 => ?_) fun _ f9 => ?_
   ·
    refine sqB aC y [] [] [(2, pt b1 0)] ?_; intro ia f8
    exact r_ (h_ (ra1 f8 (pt b1 0) ⟨f, l, m, h, i, dD, rfl, f7, j, o, n, y.kp⟩))
   refine k_ (sqH ?_); intro ga dK
   refine bt aC y 6 [0] [] [(94, .slice l f.a.abs.length m), (95, .slice C (gcomS f.a.abs f.b.abs).length D)] ?_; intro ib dL
   obtain ⟨gb, dM⟩ := f9
   refine ck dL 114 #[.slice l f.a.abs.length m, .slice C (gcomS f.a.abs f.b.abs).length D] ?_
   refine (gdiv_fun f.a.abs (gcomS f.a.abs f.b.abs) gb l m C D _ _ o F y.fz).mono ?_; rintro _ gc ⟨aa, ab, ic, id, gd, rfl, bc, bO, hm⟩; refine ⟨_, rfl, ?_⟩; intro ie dN; have dO := y.callZ hm; have R := hm.ext.le
   replace n := n.mono R
   replace F := F.mono R
   replace j := Fz.le.trans j R
   have aD : Mem B [] w0 Z0 ((.row b1 (e75Nd f l m h i) 75) :: Rr) gd gc := dO
   have ge := dM (bc.small) (bO.small)
   refine bt dN aD 5 [] [] [(4, .slice aa (gdivS f.a.abs (gcomS f.a.abs f.b.abs)).1.length ab)] ?_; intro ig dQ
   apply dK
   refine sqH ?_; intro gf dR
   refine bt dQ aD 6 [0] [] [(104, .slice h f.b.abs.length i), (105, .slice C (gcomS f.a.abs f.b.abs).length D)] ?_; intro ih dS
   obtain ⟨gg, dT⟩ := ge
   refine ck dS 114 #[.slice h f.b.abs.length i, .slice C (gcomS f.a.abs f.b.abs).length D] ?_
   refine (gdiv_fun f.b.abs (gcomS f.a.abs f.b.abs) gg h i C D _ _ n F aD.fz).mono ?_; rintro _ gh ⟨aE, aF, ii, ij, bd, rfl, dU, gi, hm⟩; refine ⟨_, rfl, ?_⟩; intro ik dV; have dW := aD.callZ hm; have J := hm.ext.le
   replace bc := bc.mono J
   replace j := Fz.le.trans j J
   have be : Mem B [] w0 Z0 ((.row b1 (e75Nd f l m h i) 75) :: Rr) bd gh := dW
   have gj := dT (dU.small) (gi.small)
   refine bt dV be 5 [] [] [(6, .slice aE (gdivS f.b.abs (gcomS f.a.abs f.b.abs)).1.length aF)] ?_; intro il dY
   apply dR
   refine sqH ?_; intro gk dZ
   refine bt dY be 5 [] [] [(110, .slice aa (gdivS f.a.abs (gcomS f.a.abs f.b.abs)).1.length ab), (113, pt b1 1)] ?_; intro im bP
   refine sx bP be 0 [.bool f.a.neg, .slice aa (gdivS f.a.abs (gcomS f.a.abs f.b.abs)).1.length ab, .bool f.b.neg, .slice h f.b.abs.length i] 1 ?_; intro gl d0
   have bQ : Mem B [] w0 Z0 ((.row b1 [.bool f.a.neg, .slice aa (gdivS f.a.abs (gcomS f.a.abs f.b.abs)).1.length ab, .bool f.b.neg, .slice h f.b.abs.length i] 75) :: Rr) bd gl := d0
   apply dZ
   refine sqH ?_; intro gm d1
   refine bt bP bQ 5 [] [] [(115, .slice aE (gdivS f.b.abs (gcomS f.a.abs f.b.abs)).1.length aF), (118, pt b1 3)] ?_; intro io bR
   refine sx bR bQ 0 [.bool f.a.neg, .slice aa (gdivS f.a.abs (gcomS f.a.abs f.b.abs)).1.length ab, .bool f.b.neg, .slice aE (gdivS f.b.abs (gcomS f.a.abs f.b.abs)).1.length aF] 3 ?_; intro gn d2
   have d3 : Mem B [] w0 Z0 ((.row b1 [.bool f.a.neg, .slice aa (gdivS f.a.abs (gcomS f.a.abs f.b.abs)).1.length ab, .bool f.b.neg, .slice aE (gdivS f.b.abs (gcomS f.a.abs f.b.abs)).1.length aF] 75) :: Rr) bd gn := d2
   apply d1
   refine sqB bR d3 [] [] [(2, pt b1 0)] ?_; intro ip go
   exact r_ (ra1 go (pt b1 0) ⟨(⟨(⟨f.a.neg, (gdivS f.a.abs (gcomS f.a.abs f.b.abs)).1⟩ : BInt), (⟨f.b.neg, (gdivS f.b.abs (gcomS f.a.abs f.b.abs)).1⟩ : BInt)⟩ : BRat), aa, ab, aE, aF, bd, rfl, gj, j, bc, dU, d3.kp⟩)
  have d4 := a8.reval (d := 82) (c := []) (v := .bool (((gcomS f.a.abs f.b.abs).length : Int) == 1)) (by kernel_rfl) (.bool false) (by rw [az])
  refine bt d4 y 5 [] [83, 84, 85, 86, 87] [(87, .bool false)] ?_; intro iq bS
  apply a7
  refine cdF bS (by kernel_rfl) ?_
  refine k_ (sqH ?_); intro gq d5
  refine bt bS y 6 [0] [] [(94, .slice l f.a.abs.length m), (95, .slice C (gcomS f.a.abs f.b.abs).length D)] ?_; intro ir d6
  obtain ⟨gr, d7⟩ := gp
  refine ck d6 114 #[.slice l f.a.abs.length m, .slice C (gcomS f.a.abs f.b.abs).length D] ?_
  refine (gdiv_fun f.a.abs (gcomS f.a.abs f.b.abs) gr l m C D _ _ o F y.fz).mono ?_; rintro _ gs ⟨ac, ad, it, iu, gt, rfl, bf, bT, hm⟩; refine ⟨_, rfl, ?_⟩; intro iv d8; have d9 := y.callZ hm; have ae := hm.ext.le
  replace n := n.mono ae
  replace F := F.mono ae
  replace j := Fz.le.trans j ae
  have aG : Mem B [] w0 Z0 ((.row b1 (e75Nd f l m h i) 75) :: Rr) gt gs := d9
  have gu := d7 (bf.small) (bT.small)
  refine bt d8 aG 5 [] [] [(4, .slice ac (gdivS f.a.abs (gcomS f.a.abs f.b.abs)).1.length ad)] ?_; intro iw eb
  apply d5
  refine sqH ?_; intro gv ec
  refine bt eb aG 6 [0] [] [(104, .slice h f.b.abs.length i), (105, .slice C (gcomS f.a.abs f.b.abs).length D)] ?_; intro iy ed
  obtain ⟨gw, ee⟩ := gu
  refine ck ed 114 #[.slice h f.b.abs.length i, .slice C (gcomS f.a.abs f.b.abs).length D] ?_
  refine (gdiv_fun f.b.abs (gcomS f.a.abs f.b.abs) gw h i C D _ _ n F aG.fz).mono ?_; rintro _ gx ⟨aH, aI, iz, iA, bg, rfl, ef, gy, hm⟩; refine ⟨_, rfl, ?_⟩; intro iB eg; have eh := aG.callZ hm; have N := hm.ext.le
  replace bf := bf.mono N
  replace j := Fz.le.trans j N
  have bh : Mem B [] w0 Z0 ((.row b1 (e75Nd f l m h i) 75) :: Rr) bg gx := eh
  have gz := ee (ef.small) (gy.small)
  refine bt eg bh 5 [] [] [(6, .slice aH (gdivS f.b.abs (gcomS f.a.abs f.b.abs)).1.length aI)] ?_; intro iC ej
  apply ec
  refine sqH ?_; intro gA ek
  refine bt ej bh 5 [] [] [(110, .slice ac (gdivS f.a.abs (gcomS f.a.abs f.b.abs)).1.length ad), (113, pt b1 1)] ?_; intro iD bU
  refine sx bU bh 0 [.bool f.a.neg, .slice ac (gdivS f.a.abs (gcomS f.a.abs f.b.abs)).1.length ad, .bool f.b.neg, .slice h f.b.abs.length i] 1 ?_; intro gB el
  have bV : Mem B [] w0 Z0 ((.row b1 [.bool f.a.neg, .slice ac (gdivS f.a.abs (gcomS f.a.abs f.b.abs)).1.length ad, .bool f.b.neg, .slice h f.b.abs.length i] 75) :: Rr) bg gB := el
  apply ek
  refine sqH ?_; intro gC em
  refine bt bU bV 5 [] [] [(115, .slice aH (gdivS f.b.abs (gcomS f.a.abs f.b.abs)).1.length aI), (118, pt b1 3)] ?_; intro iE bW
  refine sx bW bV 0 [.bool f.a.neg, .slice ac (gdivS f.a.abs (gcomS f.a.abs f.b.abs)).1.length ad, .bool f.b.neg, .slice aH (gdivS f.b.abs (gcomS f.a.abs f.b.abs)).1.length aI] 3 ?_; intro gD en
  have eo : Mem B [] w0 Z0 ((.row b1 [.bool f.a.neg, .slice ac (gdivS f.a.abs (gcomS f.a.abs f.b.abs)).1.length ad, .bool f.b.neg, .slice aH (gdivS f.b.abs (gcomS f.a.abs f.b.abs)).1.length aI] 75) :: Rr) bg gD := en
  apply em
  refine sqB bW eo [] [] [(2, pt b1 0)] ?_; intro iF gE
  exact r_ (ra1 gE (pt b1 0) ⟨(⟨(⟨f.a.neg, (gdivS f.a.abs (gcomS f.a.abs f.b.abs)).1⟩ : BInt), (⟨f.b.neg, (gdivS f.b.abs (gcomS f.a.abs f.b.abs)).1⟩ : BInt)⟩ : BRat), ac, ad, aH, aI, bg, rfl, gz, j, bf, ef, eo.kp⟩)
 have ah := Fz.le.refl Z
 refine c_ b7 aK (fun _ gF => ?_) fun _ gV => ?_
 ·
  have ep : Fr 120 [] [⟨0, [], pt b1 0⟩] bj := b7.reg
  refine wp_seq (rgS mixed hM0 [(0, true), (1, true), (2, true), (3, true), (4, true), (5, true), (6, false)] [6] [] [] ?_)
  intro gG eq iG bY
  refine cS ep 6 [] [] [(26, pt b1 0), (29, pt b1 0)] ?_; intro iH es
  refine eL rfl ?_; intro gH et
  obtain ⟨gI, gJ⟩ := gF
  refine ck es 51 #[pt b1 0, pt b1 0] ?_
  refine (gnegA_fun u0 gI b1 ao2 cap3 ao5 cap6 _ _ _ _ _ _ hs4 hs7 bY bY.fz).mono ?_; rintro _ gK ⟨eu, ev, ew, ex, ey, rfl, aJ, bZ, b0, hm⟩; refine ⟨_, rfl, ?_⟩; intro gL ez; have eA := hm
  replace ah := ah.mono aJ
  have eB : Mem B [] w0 Z0 ((.row b1 (e75Nd (gnegAS u0) eu ev ew ex) 75) :: Rr) ey gK := eA
  refine nl (qnI (et _ _ ?_))
  refine nS (eq _ _ ?_)
  apply t_
  have eC : Fr 120 [] [⟨0, [], pt b1 0⟩] gL := ez.reg
  refine rgS mixed eB [(0, true), (1, true), (2, true), (3, true), (4, true), (5, true), (6, false)] [6] [] [] ?_
  intro gM eD iI b2
  refine cS eC 6 [] [] [(33, pt b1 2), (36, pt b1 2)] ?_; intro iJ eF
  refine eL rfl ?_; intro gN eG
  obtain ⟨gO, gP⟩ := gJ
  refine ck eF 51 #[pt b1 2, pt b1 2] ?_
  refine (gnegB_fun (gnegAS u0) gO b1 eu ev ew ex _ _ _ _ _ _ bZ b0 b2 b2.fz).mono ?_; rintro _ gQ ⟨eH, eI, eJ, eK, eM, rfl, af, gR, gS, hm⟩; refine ⟨_, rfl, ?_⟩; intro iK gT; have eN := hm
  replace ah := ah.mono af
  have gU : Mem B [] w0 Z0 ((.row b1 (e75Nd (gnegBS (gnegAS u0)) eH eI eJ eK) 75) :: Rr) eM gQ := eN
  refine nl (qnI (eG _ _ ?_))
  refine nS (eD _ _ ?_)
  exact d_ (b8 (gnegBS (gnegAS u0)) eH eI eJ eK eM ⟨gP, gR, gS, ah⟩ _ _ ((gT.reg).anyβ _ (by kernel_rfl)) (gU.kp))
 exact l_ (d_ (b8 u0 ao2 cap3 ao5 cap6 Z ⟨gV, hs4, hs7, ah⟩ _ _ ((b7.reg).anyβ _ (by kernel_rfl)) (hM0.kp)))
theorem rnum_walk (u0 : BRat) (b1 : Nat) (ao2 : Option Addr) (cap3 : Nat) (ao5 : Option Addr) (cap6 : Nat) (B : Nat) (w0 : World) (Z0 : Fz) (Rr : List Res) (Z : Fz) (w : World) (hs4 : SlR (tyInt .u32) Z ao2 cap3 u0.a.abs) (hs7 : SlR (tyInt .u32) Z ao5 cap6 u0.b.abs) (hM0 : Mem B [] w0 Z0 ((.row b1 [.bool u0.a.neg, .slice ao2 u0.a.abs.length cap3, .bool u0.b.neg, .slice ao5 u0.b.abs.length cap6] 75) :: Rr) Z w) (hZ : Z.on w) {K : BRat → Prop} (hp : rnum_vc u0 K) : Calls Tryz.prog 52 #[pt b1 0] w fun e w' => ∃ (r : BRat) (ao1001 : Option Addr) (cap1002 : Nat) (ao1004 : Option Addr) (cap1005 : Nat) (Z' : Fz), e = .returned (pt b1 0) ∧ K r ∧ Fz.le Z Z' ∧ SlR (tyInt .u32) Z' ao1001 cap1002 r.a.abs ∧ SlR (tyInt .u32) Z' ao1004 cap1005 r.b.abs ∧ Mem B [] w0 Z0 ((.row b1 [.bool r.a.neg, .slice ao1001 r.a.abs.length cap1002, .bool r.b.neg, .slice ao1004 r.b.abs.length cap1005] 75) :: Rr) Z' w' := by
 refine enter0 Tryz.func52 rfl rfl (by kernel_rfl) ?_; intro j c; have g := Fz.le.refl Z
 have h := hp (hs4.small) (hs7.small)
 refine sqB c hM0 [] [] [] ?_; intro k f
 refine sqB f hM0 [] [] [(2, pt b1 0)] ?_; intro l i
 exact r_ (ra1 i (pt b1 0) ⟨u0, ao2, cap3, ao5, cap6, Z, rfl, h, g, hs4, hs7, hM0.kp⟩)
theorem gi64A_walk (u0 : BRat) (b1 : Nat) (ao2 : Option Addr) (cap3 : Nat) (ao5 : Option Addr) (cap6 : Nat) (B : Nat) (w0 : World) (Z0 : Fz) (Rr : List Res) (Z : Fz) (w : World) (hs4 : SlR (tyInt .u32) Z ao2 cap3 u0.a.abs) (hs7 : SlR (tyInt .u32) Z ao5 cap6 u0.b.abs) (hM0 : Mem B [] w0 Z0 ((.row b1 [.bool u0.a.neg, .slice ao2 u0.a.abs.length cap3, .bool u0.b.neg, .slice ao5 u0.b.abs.length cap6] 75) :: Rr) Z w) (hZ : Z.on w) {K : (Int × BRat) → Prop} (hp : gi64A_vc u0 K) : Calls Tryz.prog 54 #[pt b1 0] w fun e w' => ∃ (r : Int × BRat) (ao1001 : Option Addr) (cap1002 : Nat) (ao1004 : Option Addr) (cap1005 : Nat) (Z' : Fz), e = .returned (i6 r.1) ∧ K r ∧ Fz.le Z Z' ∧ SlR (tyInt .u32) Z' ao1001 cap1002 r.2.a.abs ∧ SlR (tyInt .u32) Z' ao1004 cap1005 r.2.b.abs ∧ Mem B [] w0 Z0 ((.row b1 [.bool r.2.a.neg, .slice ao1001 r.2.a.abs.length cap1002, .bool r.2.b.neg, .slice ao1004 r.2.b.abs.length cap1005] 75) :: Rr) Z' w' := by
 refine enter0 Tryz.func54 rfl rfl (by kernel_rfl) ?_; intro a0 P; have g := Fz.le.refl Z
 have y := hp (hs4.small) (hs7.small)
 refine sqB P hM0 [] [] [] ?_; intro bl R
 refine sqH ?_; intro z h
 refine s1 R 4 (pt b1 0) ?_; intro bm n
 refine ck n 85 #[pt b1 0] ?_
 refine enter0 Tryz.func85 rfl rfl (by kernel_rfl) ?_; intro aI S
 have U : Fr 34 [] [⟨0, [], pt b1 0⟩] aI := S.reg
 refine sqB U hM0 [] [] [] ?_; intro bn V
 refine sqB V hM0 [] [] [(3, y6 0)] ?_; intro bo W
 refine s_ (sqB W hM0 [0] [] [(9, .bool (decide ((u0.a.abs.length : Int) > 0)))] ?_); intro bp o
 refine c_ o y (fun _ aJ => ?_) fun _ E => ?_
 ·
  refine rgH ?_; intro aK X
  refine bt o hM0 4 [0] [] [(13, .slice ao2 u0.a.abs.length cap3)] ?_; intro bq Y
  obtain ⟨aL, aa⟩ := aJ
  refine ix_ Y hs4 (0 : Int) aL .i64 105 4 ?_; intro br bs aM c bu aN aO aP ab
  have A := aa c aN
  obtain rfl : aM = ([.int .u32 c] : List Value) := aP
  refine z1 ab hM0 15 aO 0 (.int .u32 c) rfl ?_; intro bv ac
  refine bt ac hM0 2 [] [] [(3, y6 (wu64 c))] ?_; intro bw ad
  apply X
  refine t_ (s_ (sqB ad hM0 [0] [] [(22, .bool (decide ((u0.a.abs.length : Int) > 1)))] ?_)); intro bx p
  refine c_ p A (fun _ aQ => ?_) fun _ D => ?_
  ·
   refine rgH ?_; intro aR ae
   refine bt p hM0 5 [0] [] [(23, y6 (wu64 c)), (27, .slice ao2 u0.a.abs.length cap3)] ?_; intro bz af
   obtain ⟨aS, ag⟩ := aQ
   refine ix_ af hs4 (1 : Int) aS .i64 105 4 ?_; intro bA bB aT d bC aU aV aW ah
   have C := ag d aU
   obtain rfl : aT = ([.int .u32 d] : List Value) := aW
   refine z1 ah hM0 29 aV 0 (.int .u32 d) rfl ?_; intro bD ai
   refine bt ai hM0 4 [] [] [(3, y6 (bOr .u64 (wu64 c) (bShl .u64 (wu64 d) 32)))] ?_; intro bE aj
   apply ae
   refine t_ (sqB aj hM0 [] [] [(2, y6 (bOr .u64 (wu64 c) (bShl .u64 (wu64 d) 32)))] ?_); intro bF ak
   refine r_ (ra1 ak (y6 (bOr .u64 (wu64 c) (bShl .u64 (wu64 d) 32))) ?_)
   refine ⟨_, rfl, ?_⟩; intro bG al
   refine bt al hM0 2 [] [] [(3, i6 (w64 (bOr .u64 (wu64 c) (bShl .u64 (wu64 d) 32))))] ?_; intro bH am
   have i : Mem B [] w0 Z0 ((.row b1 (e75Nd u0 ao2 cap3 ao5 cap6) 75) :: Rr) Z w := hM0
   apply h
   refine s_ (sqB am i [0] [] [(10, .bool u0.a.neg)] ?_); intro bI q
   refine c_ q C (fun _ aX => ?_) fun _ aZ => ?_
   ·
    refine rgB q i [] [] [(3, i6 (w64 (0 - (w64 (bOr .u64 (wu64 c) (bShl .u64 (wu64 d) 32))))))] ?_; intro bJ an
    refine t_ (sqB an i [] [] [(2, i6 (w64 (0 - (w64 (bOr .u64 (wu64 c) (bShl .u64 (wu64 d) 32))))))] ?_); intro bK aY
    exact r_ (ra1 aY (i6 (w64 (0 - (w64 (bOr .u64 (wu64 c) (bShl .u64 (wu64 d) 32)))))) ⟨(w64 (0 - (w64 (bOr .u64 (wu64 c) (bShl .u64 (wu64 d) 32)))), u0), ao2, cap3, ao5, cap6, Z, rfl, aX, g, hs4, hs7, i.kp⟩)
   refine k_ (sqB q i [] [] [(2, i6 (w64 (bOr .u64 (wu64 c) (bShl .u64 (wu64 d) 32))))] ?_); intro bL a1
   exact r_ (ra1 a1 (i6 (w64 (bOr .u64 (wu64 c) (bShl .u64 (wu64 d) 32)))) ⟨(w64 (bOr .u64 (wu64 c) (bShl .u64 (wu64 d) 32)), u0), ao2, cap3, ao5, cap6, Z, rfl, aZ, g, hs4, hs7, i.kp⟩)
  refine k_ (sqB p hM0 [] [] [(2, y6 (wu64 c))] ?_); intro bM ao
  refine r_ (ra1 ao (y6 (wu64 c)) ?_)
  refine ⟨_, rfl, ?_⟩; intro bN ap
  refine bt ap hM0 2 [] [] [(3, i6 (w64 (wu64 c)))] ?_; intro bO aq
  have j : Mem B [] w0 Z0 ((.row b1 (e75Nd u0 ao2 cap3 ao5 cap6) 75) :: Rr) Z w := hM0
  apply h
  refine s_ (sqB aq j [0] [] [(10, .bool u0.a.neg)] ?_); intro bP s
  refine c_ s D (fun _ a2 => ?_) fun _ a4 => ?_
  ·
   refine rgB s j [] [] [(3, i6 (w64 (0 - (w64 (wu64 c)))))] ?_; intro bQ ar
   refine t_ (sqB ar j [] [] [(2, i6 (w64 (0 - (w64 (wu64 c)))))] ?_); intro bR a3
   exact r_ (ra1 a3 (i6 (w64 (0 - (w64 (wu64 c))))) ⟨(w64 (0 - (w64 (wu64 c))), u0), ao2, cap3, ao5, cap6, Z, rfl, a2, g, hs4, hs7, j.kp⟩)
  refine k_ (sqB s j [] [] [(2, i6 (w64 (wu64 c)))] ?_); intro bS a5
  exact r_ (ra1 a5 (i6 (w64 (wu64 c))) ⟨(w64 (wu64 c), u0), ao2, cap3, ao5, cap6, Z, rfl, a4, g, hs4, hs7, j.kp⟩)
 refine k_ (s_ (sqB o hM0 [0] [] [(22, .bool (decide ((u0.a.abs.length : Int) > 1)))] ?_)); intro bT u
 refine c_ u E (fun _ a6 => ?_) fun _ G => ?_
 ·
  refine rgH ?_; intro a7 au
  refine bt u hM0 5 [0] [] [(23, y6 0), (27, .slice ao2 u0.a.abs.length cap3)] ?_; intro bU av
  obtain ⟨a8, aw⟩ := a6
  refine ix_ av hs4 (1 : Int) a8 .i64 105 4 ?_; intro bV bW a9 f bX ba bb bc ax
  have F := aw f ba
  obtain rfl : a9 = ([.int .u32 f] : List Value) := bc
  refine z1 ax hM0 29 bb 0 (.int .u32 f) rfl ?_; intro bY ay
  refine bt ay hM0 4 [] [] [(3, y6 (bOr .u64 0 (bShl .u64 (wu64 f) 32)))] ?_; intro bZ az
  apply au
  refine t_ (sqB az hM0 [] [] [(2, y6 (bOr .u64 0 (bShl .u64 (wu64 f) 32)))] ?_); intro b0 aA
  refine r_ (ra1 aA (y6 (bOr .u64 0 (bShl .u64 (wu64 f) 32))) ?_)
  refine ⟨_, rfl, ?_⟩; intro b2 aB
  refine bt aB hM0 2 [] [] [(3, i6 (w64 (bOr .u64 0 (bShl .u64 (wu64 f) 32))))] ?_; intro b3 aC
  have l : Mem B [] w0 Z0 ((.row b1 (e75Nd u0 ao2 cap3 ao5 cap6) 75) :: Rr) Z w := hM0
  apply h
  refine s_ (sqB aC l [0] [] [(10, .bool u0.a.neg)] ?_); intro b4 v
  refine c_ v F (fun _ bd => ?_) fun _ bf => ?_
  ·
   refine rgB v l [] [] [(3, i6 (w64 (0 - (w64 (bOr .u64 0 (bShl .u64 (wu64 f) 32))))))] ?_; intro b5 aD
   refine t_ (sqB aD l [] [] [(2, i6 (w64 (0 - (w64 (bOr .u64 0 (bShl .u64 (wu64 f) 32))))))] ?_); intro b6 be
   exact r_ (ra1 be (i6 (w64 (0 - (w64 (bOr .u64 0 (bShl .u64 (wu64 f) 32)))))) ⟨(w64 (0 - (w64 (bOr .u64 0 (bShl .u64 (wu64 f) 32)))), u0), ao2, cap3, ao5, cap6, Z, rfl, bd, g, hs4, hs7, l.kp⟩)
  refine k_ (sqB v l [] [] [(2, i6 (w64 (bOr .u64 0 (bShl .u64 (wu64 f) 32))))] ?_); intro b7 bg
  exact r_ (ra1 bg (i6 (w64 (bOr .u64 0 (bShl .u64 (wu64 f) 32)))) ⟨(w64 (bOr .u64 0 (bShl .u64 (wu64 f) 32)), u0), ao2, cap3, ao5, cap6, Z, rfl, bf, g, hs4, hs7, l.kp⟩)
 refine k_ (sqB u hM0 [] [] [(2, y6 0)] ?_); intro b8 aE
 refine r_ (ra1 aE (y6 0) ?_)
 refine ⟨_, rfl, ?_⟩; intro b9 aF
 refine bt aF hM0 2 [] [] [(3, i6 0)] ?_; intro ca aG
 have m : Mem B [] w0 Z0 ((.row b1 (e75Nd u0 ao2 cap3 ao5 cap6) 75) :: Rr) Z w := hM0
 apply h
 refine s_ (sqB aG m [0] [] [(10, .bool u0.a.neg)] ?_); intro cb x
 refine c_ x G (fun _ bh => ?_) fun _ bj => ?_
 ·
  refine rgB x m [] [] [(3, i6 0)] ?_; intro cc aH
  refine t_ (sqB aH m [] [] [(2, i6 0)] ?_); intro ce bi
  exact r_ (ra1 bi (i6 0) ⟨(0, u0), ao2, cap3, ao5, cap6, Z, rfl, bh, g, hs4, hs7, m.kp⟩)
 refine k_ (sqB x m [] [] [(2, i6 0)] ?_); intro cf bk
 exact r_ (ra1 bk (i6 0) ⟨(0, u0), ao2, cap3, ao5, cap6, Z, rfl, bj, g, hs4, hs7, m.kp⟩)
theorem gsubI_walk (u0 : BInt) (u1 : BInt) (u2 : BInt) (b1 : Nat) (ao2 : Option Addr) (cap3 : Nat) (b5 : Nat) (ao6 : Option Addr) (cap7 : Nat) (b9 : Nat) (ao10 : Option Addr) (cap11 : Nat) (B : Nat) (w0 : World) (Z0 : Fz) (Rr : List Res) (Z : Fz) (w : World) (hs4 : SlR (tyInt .u32) Z ao2 cap3 u0.abs) (hs8 : SlR (tyInt .u32) Z ao6 cap7 u1.abs) (hs12 : SlR (tyInt .u32) Z ao10 cap11 u2.abs) (hM0 : Mem B [] w0 Z0 ((.row b1 [.bool u0.neg, .slice ao2 u0.abs.length cap3] 73) :: (.row b5 [.bool u1.neg, .slice ao6 u1.abs.length cap7] 73) :: (.row b9 [.bool u2.neg, .slice ao10 u2.abs.length cap11] 73) :: Rr) Z w) (hZ : Z.on w) {K : (BInt × BInt × BInt) → Prop} (hp : gsubI_vc u0 u1 u2 K) : Calls Tryz.prog 74 #[pt b1 0, pt b5 0, pt b9 0] w fun e w' => ∃ (r : BInt × BInt × BInt) (ao1001 : Option Addr) (cap1002 : Nat) (ao1004 : Option Addr) (cap1005 : Nat) (ao1007 : Option Addr) (cap1008 : Nat) (Z' : Fz), e = .returned (pt b1 0) ∧ K r ∧ Fz.le Z Z' ∧ SlR (tyInt .u32) Z' ao1001 cap1002 r.1.abs ∧ SlR (tyInt .u32) Z' ao1004 cap1005 r.2.1.abs ∧ SlR (tyInt .u32) Z' ao1007 cap1008 r.2.2.abs ∧ Mem B [] w0 Z0 ((.row b1 [.bool r.1.neg, .slice ao1001 r.1.abs.length cap1002] 73) :: (.row b5 [.bool r.2.1.neg, .slice ao1004 r.2.1.abs.length cap1005] 73) :: (.row b9 [.bool r.2.2.neg, .slice ao1007 r.2.2.abs.length cap1008] 73) :: Rr) Z' w' := by
 refine enter0 Tryz.func74 rfl rfl (by kernel_rfl) ?_; intro S k; have c := Fz.le.refl Z
 have F := hp (hs4.small) (hs8.small) (hs12.small)
 refine sqB k hM0 [] [] [] ?_; intro G n
 have o : Fr 29 [] [⟨0, [], pt b1 0⟩, ⟨1, [], pt b5 0⟩, ⟨2, [], pt b9 0⟩] G := n.reg
 refine wp_seq (rgS mixed hM0 [(0, true), (1, true), (2, true), (3, true), (4, true), (5, true), (6, true), (7, true), (8, true), (9, true), (10, true), (11, true), (12, true), (13, true), (14, true), (15, true), (16, true), (17, true), (18, false), (19, true), (20, true), (21, false), (22, true)] [] [1, 2] [.row b5 [.bool u1.neg, .slice ao6 u1.abs.length cap7] 73, .row b9 [.bool u2.neg, .slice ao10 u2.abs.length cap11] 73] ?_)
 intro H p T g
 have a := Fz.le.refl Z
 refine cS o 18 [0, 0, 1, 1] [] [(7, pt b1 0), (11, .bool u1.neg), (15, .slice ao6 u1.abs.length cap7), (20, .bool (!u2.neg)), (24, .slice ao10 u2.abs.length cap11)] ?_; intro U q
 refine eS rfl ?_; intro I s
 obtain ⟨J, L⟩ := F
 refine ck q 102 #[.bool u1.neg, .slice ao6 u1.abs.length cap7, .bool (!u2.neg), .slice ao10 u2.abs.length cap11] ?_
 refine (gsum_fun u1.neg u1.abs (!u2.neg) u2.abs J ao6 cap7 ao10 cap11 _ _ hs8 hs12 g.fz).mono ?_; rintro _ M ⟨h, i, N, rfl, j, hm⟩; refine ⟨_, rfl, ?_⟩; intro V t; have u := g.callZ hm; have d := hm.ext.le
 replace hs4 := hs4.mono d
 replace hs8 := hs8.mono d
 replace hs12 := hs12.mono d
 replace a := a.mono d
 replace c := Fz.le.trans c d
 have f : Mem B [] w0 Z0 ((.row b1 [.bool u0.neg, .slice ao2 u0.abs.length cap3] 73) :: (.row b5 [.bool u1.neg, .slice ao6 u1.abs.length cap7] 73) :: (.row b9 [.bool u2.neg, .slice ao10 u2.abs.length cap11] 73) :: Rr) N M := u
 refine nl (qnI (s _ _ (f.cst a [1, 2]) ?_))
 refine cS t 2 [] [] [(26, .bool (gsumS u1.neg u1.abs (!u2.neg) u2.abs).1), (27, .slice h (gsumS u1.neg u1.abs (!u2.neg) u2.abs).2.length i)] ?_; intro W v
 refine eS rfl ?_; intro O x
 refine ck v 78 #[pt b1 0, .bool (gsumS u1.neg u1.abs (!u2.neg) u2.abs).1, .slice h (gsumS u1.neg u1.abs (!u2.neg) u2.abs).2.length i] ?_
 refine (ggive_fun u0 (gsumS u1.neg u1.abs (!u2.neg) u2.abs).1 (gsumS u1.neg u1.abs (!u2.neg) u2.abs).2 b1 ao2 cap3 h i _ _ _ _ _ _ hs4 j f f.fz).mono ?_; rintro _ P ⟨y, z, A, rfl, b, Q, hm⟩; refine ⟨_, rfl, ?_⟩; intro X C; have D := hm
 replace hs8 := hs8.mono b
 replace hs12 := hs12.mono b
 replace a := a.mono b
 replace c := Fz.le.trans c b
 have E : Mem B [] w0 Z0 ((.row b1 [.bool (ggive u0 (gsumS u1.neg u1.abs (!u2.neg) u2.abs).1 (gsumS u1.neg u1.abs (!u2.neg) u2.abs).2).neg, .slice y (ggive u0 (gsumS u1.neg u1.abs (!u2.neg) u2.abs).1 (gsumS u1.neg u1.abs (!u2.neg) u2.abs).2).abs.length z] 73) :: (.row b5 [.bool u1.neg, .slice ao6 u1.abs.length cap7] 73) :: (.row b9 [.bool u2.neg, .slice ao10 u2.abs.length cap11] 73) :: Rr) A P := D
 refine nl (qnI (x _ _ (E.cst a [1, 2]) ?_))
 refine cS C 1 [] [] [(6, pt b1 0)] ?_; intro Y R
 refine nS (p _ _ ?_)
 exact t_ (r_ (ra1 R (pt b1 0) ⟨((ggive u0 (gsumS u1.neg u1.abs (!u2.neg) u2.abs).1 (gsumS u1.neg u1.abs (!u2.neg) u2.abs).2), u1, u2), y, z, ao6, cap7, ao10, cap11, A, rfl, L, c, Q, hs8, hs12, E.kp⟩))
theorem gcmpA_walk (u0 : BRat) (u1 : BInt) (b1 : Nat) (ao2 : Option Addr) (cap3 : Nat) (ao5 : Option Addr) (cap6 : Nat) (b8 : Nat) (ao9 : Option Addr) (cap10 : Nat) (B : Nat) (w0 : World) (Z0 : Fz) (Rr : List Res) (Z : Fz) (w : World) (hs4 : SlR (tyInt .u32) Z ao2 cap3 u0.a.abs) (hs7 : SlR (tyInt .u32) Z ao5 cap6 u0.b.abs) (hs11 : SlR (tyInt .u32) Z ao9 cap10 u1.abs) (hM0 : Mem B [] w0 Z0 ((.row b1 [.bool u0.a.neg, .slice ao2 u0.a.abs.length cap3, .bool u0.b.neg, .slice ao5 u0.b.abs.length cap6] 75) :: (.row b8 [.bool u1.neg, .slice ao9 u1.abs.length cap10] 73) :: Rr) Z w) (hZ : Z.on w) {K : (Int × BRat × BInt) → Prop} (hp : gcmpA_vc u0 u1 K) : Calls Tryz.prog 53 #[pt b1 0, pt b8 0] w fun e w' => ∃ (r : Int × BRat × BInt) (ao1001 : Option Addr) (cap1002 : Nat) (ao1004 : Option Addr) (cap1005 : Nat) (ao1007 : Option Addr) (cap1008 : Nat) (Z' : Fz), e = .returned (i6 r.1) ∧ K r ∧ Fz.le Z Z' ∧ SlR (tyInt .u32) Z' ao1001 cap1002 r.2.1.a.abs ∧ SlR (tyInt .u32) Z' ao1004 cap1005 r.2.1.b.abs ∧ SlR (tyInt .u32) Z' ao1007 cap1008 r.2.2.abs ∧ Mem B [] w0 Z0 ((.row b1 [.bool r.2.1.a.neg, .slice ao1001 r.2.1.a.abs.length cap1002, .bool r.2.1.b.neg, .slice ao1004 r.2.1.b.abs.length cap1005] 75) :: (.row b8 [.bool r.2.2.neg, .slice ao1007 r.2.2.abs.length cap1008] 73) :: Rr) Z' w' := by
 refine enter0 Tryz.func53 rfl rfl (by kernel_rfl) ?_; intro a0 x; have j := Fz.le.refl Z
 have k := hp (hs4.small) (hs7.small) (hs11.small)
 refine sqB x hM0 [] [] [] ?_; intro V A
 apply s_
 have C : Fr 35 [] [⟨0, [], pt b1 0⟩, ⟨1, [], pt b8 0⟩] V := A.reg
 refine sqQH mixed (by kernel_rfl) hM0 ?_; intro W D
 refine q1 C 6 (pt b1 0) ?_; intro ak E
 refine q1 E 7 (pt b1 0) ?_; intro al F
 refine q1 F 8 (pt b1 0) ?_; intro am n
 refine ql_ n 0 0 (.bool u0.a.neg) rfl rfl ?_; intro an G
 refine q1 G 10 (pt b8 0) ?_; intro ao H
 refine q1 H 11 (pt b8 0) ?_; intro ap I
 refine q1 I 12 (pt b8 0) ?_; intro aq o
 refine ql_ o 1 0 (.bool u1.neg) rfl rfl ?_; intro ar J
 refine q1 J 14 (.bool (u0.a.neg != u1.neg)) ?_; intro X d
 refine qnl (D _ ?_); intro au c
 refine c_ d k (fun _ l => ?_) fun _ ad => ?_
 ·
  refine s_ (sqB d c [0] [] [(18, .bool u0.a.neg)] ?_); intro av f
  refine c_ f l (fun _ Y => ?_) fun _ ab => ?_
  ·
   refine sqB f c [] [] [(4, i6 (-1))] ?_; intro aw aa
   exact r_ (h_ (h_ (ra1 aa (i6 (-1)) ⟨(-1, u0, u1), ao2, cap3, ao5, cap6, ao9, cap10, Z, rfl, Y, j, hs4, hs7, hs11, c.kp⟩)))
  refine k_ (sqB f c [] [] [(4, i6 1)] ?_); intro ax ac
  exact r_ (h_ (ra1 ac (i6 1) ⟨(1, u0, u1), ao2, cap3, ao5, cap6, ao9, cap10, Z, rfl, ab, j, hs4, hs7, hs11, c.kp⟩))
 apply k_
 have L : Fr 35 [] [⟨0, [], pt b1 0⟩, ⟨1, [], pt b8 0⟩] X := d.reg
 refine sqQH mixed (by kernel_rfl) c ?_; intro ae M
 refine q1 L 19 (pt b1 0) ?_; intro ay N
 refine q1 N 20 (pt b1 0) ?_; intro az O
 refine q1 O 21 (pt b1 1) ?_; intro aA s
 refine ql_ s 0 1 (.slice ao2 u0.a.abs.length cap3) rfl rfl ?_; intro aB P
 refine q1 P 23 (pt b8 0) ?_; intro aC Q
 refine q1 Q 24 (pt b8 0) ?_; intro aD R
 refine q1 R 25 (pt b8 1) ?_; intro aE u
 refine ql_ u 1 1 (.slice ao9 u1.abs.length cap10) rfl rfl ?_; intro aF S
 obtain ⟨af, m⟩ := ad
 refine qcl S (i6 (gcmpS u0.a.abs u1.abs)) 84 #[.slice ao2 u0.a.abs.length cap3, .slice ao9 u1.abs.length cap10] (nog rfl _) rfl (by kernel_rfl) (fun _ => by kernel_rfl) (qfc fun w hC => gcmp_fun u0.a.abs u1.abs af ao2 cap3 ao9 cap10 _ _ hs4 hs11 hC.fz) ?_; intro aG T
 refine q1 T 5 (i6 (gcmpS u0.a.abs u1.abs)) ?_; intro aH U
 refine qnl (M _ ?_); intro aI h
 refine s_ (sqB U h [0] [] [(31, .bool u0.a.neg)] ?_); intro aJ i
 refine c_ i m (fun _ ag => ?_) fun _ ai => ?_
 ·
  refine sqB i h [] [] [(4, i6 (w64 (0 - (gcmpS u0.a.abs u1.abs))))] ?_; intro aK ah
  exact r_ (h_ (ra1 ah (i6 (w64 (0 - (gcmpS u0.a.abs u1.abs)))) ⟨(w64 (0 - (gcmpS u0.a.abs u1.abs)), u0, u1), ao2, cap3, ao5, cap6, ao9, cap10, Z, rfl, ag, j, hs4, hs7, hs11, h.kp⟩))
 refine k_ (sqB i h [] [] [(4, i6 (gcmpS u0.a.abs u1.abs))] ?_); intro aL aj
 exact r_ (ra1 aj (i6 (gcmpS u0.a.abs u1.abs)) ⟨((gcmpS u0.a.abs u1.abs), u0, u1), ao2, cap3, ao5, cap6, ao9, cap10, Z, rfl, ai, j, hs4, hs7, hs11, h.kp⟩)
theorem gcmpB_walk (u0 : BRat) (u1 : BInt) (b1 : Nat) (ao2 : Option Addr) (cap3 : Nat) (ao5 : Option Addr) (cap6 : Nat) (b8 : Nat) (ao9 : Option Addr) (cap10 : Nat) (B : Nat) (w0 : World) (Z0 : Fz) (Rr : List Res) (Z : Fz) (w : World) (hs4 : SlR (tyInt .u32) Z ao2 cap3 u0.a.abs) (hs7 : SlR (tyInt .u32) Z ao5 cap6 u0.b.abs) (hs11 : SlR (tyInt .u32) Z ao9 cap10 u1.abs) (hM0 : Mem B [] w0 Z0 ((.row b1 [.bool u0.a.neg, .slice ao2 u0.a.abs.length cap3, .bool u0.b.neg, .slice ao5 u0.b.abs.length cap6] 75) :: (.row b8 [.bool u1.neg, .slice ao9 u1.abs.length cap10] 73) :: Rr) Z w) (hZ : Z.on w) {K : (Int × BRat × BInt) → Prop} (hp : gcmpB_vc u0 u1 K) : Calls Tryz.prog 53 #[pt b1 2, pt b8 0] w fun e w' => ∃ (r : Int × BRat × BInt) (ao1001 : Option Addr) (cap1002 : Nat) (ao1004 : Option Addr) (cap1005 : Nat) (ao1007 : Option Addr) (cap1008 : Nat) (Z' : Fz), e = .returned (i6 r.1) ∧ K r ∧ Fz.le Z Z' ∧ SlR (tyInt .u32) Z' ao1001 cap1002 r.2.1.a.abs ∧ SlR (tyInt .u32) Z' ao1004 cap1005 r.2.1.b.abs ∧ SlR (tyInt .u32) Z' ao1007 cap1008 r.2.2.abs ∧ Mem B [] w0 Z0 ((.row b1 [.bool r.2.1.a.neg, .slice ao1001 r.2.1.a.abs.length cap1002, .bool r.2.1.b.neg, .slice ao1004 r.2.1.b.abs.length cap1005] 75) :: (.row b8 [.bool r.2.2.neg, .slice ao1007 r.2.2.abs.length cap1008] 73) :: Rr) Z' w' := by
 refine enter0 Tryz.func53 rfl rfl (by kernel_rfl) ?_; intro a0 x; have j := Fz.le.refl Z
 have k := hp (hs4.small) (hs7.small) (hs11.small)
 refine sqB x hM0 [] [] [] ?_; intro V A
 apply s_
 have C : Fr 35 [] [⟨0, [], pt b1 2⟩, ⟨1, [], pt b8 0⟩] V := A.reg
 refine sqQH mixed (by kernel_rfl) hM0 ?_; intro W D
 refine q1 C 6 (pt b1 2) ?_; intro ak E
 refine q1 E 7 (pt b1 2) ?_; intro al F
 refine q1 F 8 (pt b1 2) ?_; intro am n
 refine ql_ n 0 2 (.bool u0.b.neg) rfl rfl ?_; intro an G
 refine q1 G 10 (pt b8 0) ?_; intro ao H
 refine q1 H 11 (pt b8 0) ?_; intro ap I
 refine q1 I 12 (pt b8 0) ?_; intro aq o
 refine ql_ o 1 0 (.bool u1.neg) rfl rfl ?_; intro ar J
 refine q1 J 14 (.bool (u0.b.neg != u1.neg)) ?_; intro X d
 refine qnl (D _ ?_); intro au c
 refine c_ d k (fun _ l => ?_) fun _ ad => ?_
 ·
  refine s_ (sqB d c [0] [] [(18, .bool u0.b.neg)] ?_); intro av f
  refine c_ f l (fun _ Y => ?_) fun _ ab => ?_
  ·
   refine sqB f c [] [] [(4, i6 (-1))] ?_; intro aw aa
   exact r_ (h_ (h_ (ra1 aa (i6 (-1)) ⟨(-1, u0, u1), ao2, cap3, ao5, cap6, ao9, cap10, Z, rfl, Y, j, hs4, hs7, hs11, c.kp⟩)))
  refine k_ (sqB f c [] [] [(4, i6 1)] ?_); intro ax ac
  exact r_ (h_ (ra1 ac (i6 1) ⟨(1, u0, u1), ao2, cap3, ao5, cap6, ao9, cap10, Z, rfl, ab, j, hs4, hs7, hs11, c.kp⟩))
 apply k_
 have L : Fr 35 [] [⟨0, [], pt b1 2⟩, ⟨1, [], pt b8 0⟩] X := d.reg
 refine sqQH mixed (by kernel_rfl) c ?_; intro ae M
 refine q1 L 19 (pt b1 2) ?_; intro ay N
 refine q1 N 20 (pt b1 2) ?_; intro az O
 refine q1 O 21 (pt b1 3) ?_; intro aA s
 refine ql_ s 0 3 (.slice ao5 u0.b.abs.length cap6) rfl rfl ?_; intro aB P
 refine q1 P 23 (pt b8 0) ?_; intro aC Q
 refine q1 Q 24 (pt b8 0) ?_; intro aD R
 refine q1 R 25 (pt b8 1) ?_; intro aE u
 refine ql_ u 1 1 (.slice ao9 u1.abs.length cap10) rfl rfl ?_; intro aF S
 obtain ⟨af, m⟩ := ad
 refine qcl S (i6 (gcmpS u0.b.abs u1.abs)) 84 #[.slice ao5 u0.b.abs.length cap6, .slice ao9 u1.abs.length cap10] (nog rfl _) rfl (by kernel_rfl) (fun _ => by kernel_rfl) (qfc fun w hC => gcmp_fun u0.b.abs u1.abs af ao5 cap6 ao9 cap10 _ _ hs7 hs11 hC.fz) ?_; intro aG T
 refine q1 T 5 (i6 (gcmpS u0.b.abs u1.abs)) ?_; intro aH U
 refine qnl (M _ ?_); intro aI h
 refine s_ (sqB U h [0] [] [(31, .bool u0.b.neg)] ?_); intro aJ i
 refine c_ i m (fun _ ag => ?_) fun _ ai => ?_
 ·
  refine sqB i h [] [] [(4, i6 (w64 (0 - (gcmpS u0.b.abs u1.abs))))] ?_; intro aK ah
  exact r_ (h_ (ra1 ah (i6 (w64 (0 - (gcmpS u0.b.abs u1.abs)))) ⟨(w64 (0 - (gcmpS u0.b.abs u1.abs)), u0, u1), ao2, cap3, ao5, cap6, ao9, cap10, Z, rfl, ag, j, hs4, hs7, hs11, h.kp⟩))
 refine k_ (sqB i h [] [] [(4, i6 (gcmpS u0.b.abs u1.abs))] ?_); intro aL aj
 exact r_ (ra1 aj (i6 (gcmpS u0.b.abs u1.abs)) ⟨((gcmpS u0.b.abs u1.abs), u0, u1), ao2, cap3, ao5, cap6, ao9, cap10, Z, rfl, ai, j, hs4, hs7, hs11, h.kp⟩)
theorem glshI_walk (u0 : BInt) (u1 : BInt) (u2 : Int) (b1 : Nat) (ao2 : Option Addr) (cap3 : Nat) (b5 : Nat) (ao6 : Option Addr) (cap7 : Nat) (B : Nat) (w0 : World) (Z0 : Fz) (Rr : List Res) (Z : Fz) (w : World) (hs4 : SlR (tyInt .u32) Z ao2 cap3 u0.abs) (hs8 : SlR (tyInt .u32) Z ao6 cap7 u1.abs) (hM0 : Mem B [] w0 Z0 ((.row b1 [.bool u0.neg, .slice ao2 u0.abs.length cap3] 73) :: (.row b5 [.bool u1.neg, .slice ao6 u1.abs.length cap7] 73) :: Rr) Z w) (hZ : Z.on w) {K : (BInt × BInt) → Prop} (hp : glshI_vc u0 u1 u2 K) : Calls Tryz.prog 49 #[pt b1 0, pt b5 0, y6 u2] w fun e w' => ∃ (r : BInt × BInt) (ao1001 : Option Addr) (cap1002 : Nat) (ao1004 : Option Addr) (cap1005 : Nat) (Z' : Fz), e = .returned (pt b1 0) ∧ K r ∧ Fz.le Z Z' ∧ SlR (tyInt .u32) Z' ao1001 cap1002 r.1.abs ∧ SlR (tyInt .u32) Z' ao1004 cap1005 r.2.abs ∧ Mem B [] w0 Z0 ((.row b1 [.bool r.1.neg, .slice ao1001 r.1.abs.length cap1002] 73) :: (.row b5 [.bool r.2.neg, .slice ao1004 r.2.abs.length cap1005] 73) :: Rr) Z' w' := by
 refine enter0 Tryz.func49 rfl rfl (by kernel_rfl) ?_; intro Q i; have b := Fz.le.refl Z
 have D := hp (hs4.small) (hs8.small)
 refine sqB i hM0 [] [] [] ?_; intro E k
 have l : Fr 19 [] [⟨0, [], pt b1 0⟩, ⟨1, [], pt b5 0⟩, ⟨2, [], y6 u2⟩] E := k.reg
 refine wp_seq (rgS mixed hM0 [(0, true), (1, true), (2, true), (3, true), (4, true), (5, true), (6, true), (7, true), (8, true), (9, true), (10, false), (11, false), (12, true)] [] [1] [.row b5 [.bool u1.neg, .slice ao6 u1.abs.length cap7] 73] ?_)
 intro F m R g
 have a := Fz.le.refl Z
 refine cS l 10 [0, 0] [] [(7, pt b1 0), (11, .bool u1.neg), (15, .slice ao6 u1.abs.length cap7), (16, y6 u2)] ?_; intro S n
 refine eS rfl ?_; intro G o
 obtain ⟨H, I⟩ := D
 refine ck n 79 #[.slice ao6 u1.abs.length cap7, y6 u2] ?_
 refine (gleft_fun u1.abs u2 H ao6 cap7 _ _ hs8 g.fz).mono ?_; rintro _ J ⟨p, q, L, rfl, h, hm⟩; refine ⟨_, rfl, ?_⟩; intro T s; have t := g.callZ hm; have d := hm.ext.le
 replace hs4 := hs4.mono d
 replace hs8 := hs8.mono d
 replace a := a.mono d
 replace b := Fz.le.trans b d
 have f : Mem B [] w0 Z0 ((.row b1 [.bool u0.neg, .slice ao2 u0.abs.length cap3] 73) :: (.row b5 [.bool u1.neg, .slice ao6 u1.abs.length cap7] 73) :: Rr) L J := t
 refine nl (qnI (o _ _ (f.cst a [1]) ?_))
 refine eS rfl ?_; intro M u
 refine ck s 78 #[pt b1 0, .bool u1.neg, .slice p (gleftS u1.abs u2).length q] ?_
 refine (ggive_fun u0 u1.neg (gleftS u1.abs u2) b1 ao2 cap3 p q _ _ _ _ _ _ hs4 h f f.fz).mono ?_; rintro _ N ⟨v, x, y, rfl, c, O, hm⟩; refine ⟨_, rfl, ?_⟩; intro U z; have A := hm
 replace hs8 := hs8.mono c
 replace a := a.mono c
 replace b := Fz.le.trans b c
 have C : Mem B [] w0 Z0 ((.row b1 [.bool (ggive u0 u1.neg (gleftS u1.abs u2)).neg, .slice v (ggive u0 u1.neg (gleftS u1.abs u2)).abs.length x] 73) :: (.row b5 [.bool u1.neg, .slice ao6 u1.abs.length cap7] 73) :: Rr) y N := A
 refine nl (qnI (u _ _ (C.cst a [1]) ?_))
 refine cS z 1 [] [] [(6, pt b1 0)] ?_; intro V P
 refine nS (m _ _ ?_)
 exact t_ (r_ (ra1 P (pt b1 0) ⟨((ggive u0 u1.neg (gleftS u1.abs u2)), u1), v, x, ao6, cap7, y, rfl, I, b, O, hs8, C.kp⟩))
theorem grshI_walk (u0 : BInt) (u2 : Int) (b1 : Nat) (ao2 : Option Addr) (cap3 : Nat) (B : Nat) (w0 : World) (Z0 : Fz) (Rr : List Res) (Z : Fz) (w : World) (hs4 : SlR (tyInt .u32) Z ao2 cap3 u0.abs) (hM0 : Mem B [] w0 Z0 ((.row b1 [.bool u0.neg, .slice ao2 u0.abs.length cap3] 73) :: Rr) Z w) (hZ : Z.on w) {K : BInt → Prop} (hp : grshI_vc u0 u2 K) : Calls Tryz.prog 50 #[pt b1 0, pt b1 0, y6 u2] w fun e w' => ∃ (r : BInt) (ao1001 : Option Addr) (cap1002 : Nat) (Z' : Fz), e = .returned (pt b1 0) ∧ K r ∧ Fz.le Z Z' ∧ SlR (tyInt .u32) Z' ao1001 cap1002 r.abs ∧ Mem B [] w0 Z0 ((.row b1 [.bool r.neg, .slice ao1001 r.abs.length cap1002] 73) :: Rr) Z' w' := by
 refine enter0 Tryz.func50 rfl rfl (by kernel_rfl) ?_; intro Q i; have a := Fz.le.refl Z
 have D := hp (hs4.small)
 refine sqB i hM0 [] [] [] ?_; intro R j
 refine s_ (sqB j hM0 [0] [] [(10, .bool u0.neg)] ?_); intro S c
 obtain ⟨E, F⟩ := D
 refine cn c E ?_
 refine k_ (sqH ?_); intro G k
 refine bt c hM0 6 [0] [] [(23, pt b1 0), (27, .slice ao2 u0.abs.length cap3), (28, y6 u2)] ?_; intro T l
 obtain ⟨H, m⟩ := F
 refine ck l 81 #[.slice ao2 u0.abs.length cap3, y6 u2] ?_
 refine (gright_fun u0.abs u2 H ao2 cap3 _ _ hs4 hM0.fz).mono ?_; rintro _ I ⟨n, o, J, rfl, b, hm⟩; refine ⟨_, rfl, ?_⟩; intro U p; have q := hM0.callZ hm; have s := hm.ext.le
 replace hs4 := hs4.mono s
 replace a := Fz.le.trans a s
 have d : Mem B [] w0 Z0 ((.row b1 [.bool u0.neg, .slice ao2 u0.abs.length cap3] 73) :: Rr) J I := q
 have t := m (b.small)
 refine ck p 78 #[pt b1 0, .bool false, .slice n (grightS u0.abs u2).length o] ?_
 obtain ⟨f, L, u⟩ := hxq t
 have g := ggive_fun u0 false (grightS u0.abs u2) b1 ao2 cap3 n o _ _ _ _ _ _ hs4 b d d.fz; rw [L] at g; refine g.mono ?_; rintro _ M ⟨v, x, y, rfl, h, z, hm⟩; refine ⟨_, rfl, ?_⟩; intro V A; have C := hm
 replace a := Fz.le.trans a h
 have N : Mem B [] w0 Z0 ((.row b1 [.bool f.neg, .slice v f.abs.length x] 73) :: Rr) y M := C
 have O := u (z.small)
 refine s1 A 6 (pt b1 0) ?_; intro W P
 apply k
 exact r_ (ra1 P (pt b1 0) ⟨f, v, x, y, rfl, O, a, z, N.kp⟩)
theorem gnegI_walk (u0 : BInt) (u1 : BInt) (b1 : Nat) (ao2 : Option Addr) (cap3 : Nat) (b5 : Nat) (ao6 : Option Addr) (cap7 : Nat) (B : Nat) (w0 : World) (Z0 : Fz) (Rr : List Res) (Z : Fz) (w : World) (hs4 : SlR (tyInt .u32) Z ao2 cap3 u0.abs) (hs8 : SlR (tyInt .u32) Z ao6 cap7 u1.abs) (hM0 : Mem B [] w0 Z0 ((.row b1 [.bool u0.neg, .slice ao2 u0.abs.length cap3] 73) :: (.row b5 [.bool u1.neg, .slice ao6 u1.abs.length cap7] 73) :: Rr) Z w) (hZ : Z.on w) {K : (BInt × BInt) → Prop} (hp : gnegI_vc u0 u1 K) : Calls Tryz.prog 51 #[pt b1 0, pt b5 0] w fun e w' => ∃ (r : BInt × BInt) (ao1001 : Option Addr) (cap1002 : Nat) (ao1004 : Option Addr) (cap1005 : Nat) (Z' : Fz), e = .returned (pt b1 0) ∧ K r ∧ Fz.le Z Z' ∧ SlR (tyInt .u32) Z' ao1001 cap1002 r.1.abs ∧ SlR (tyInt .u32) Z' ao1004 cap1005 r.2.abs ∧ Mem B [] w0 Z0 ((.row b1 [.bool r.1.neg, .slice ao1001 r.1.abs.length cap1002] 73) :: (.row b5 [.bool r.2.neg, .slice ao1004 r.2.abs.length cap1005] 73) :: Rr) Z' w' := by
 refine enter0 Tryz.func51 rfl rfl (by kernel_rfl) ?_; intro U l; have b := Fz.le.refl Z
 have H := hp (hs4.small) (hs8.small)
 refine sqB l hM0 [] [] [] ?_; intro I n
 have o : Fr 17 [] [⟨0, [], pt b1 0⟩, ⟨1, [], pt b5 0⟩] I := n.reg
 refine wp_seq (rgS mixed hM0 [(0, true), (1, true), (2, true), (3, true), (4, true), (5, true), (6, true), (7, true), (8, true), (9, true), (10, false), (11, false), (12, true)] [] [1] [.row b5 [.bool u1.neg, .slice ao6 u1.abs.length cap7] 73] ?_)
 intro J p V g
 have a := Fz.le.refl Z
 refine cS o 10 [0, 0] [] [(5, pt b1 0), (10, .bool (!u1.neg)), (14, .slice ao6 u1.abs.length cap7)] ?_; intro W q
 refine eS rfl ?_; intro L s
 obtain ⟨M, N⟩ := H
 refine ck q 83 #[.slice ao6 u1.abs.length cap7] ?_
 refine (gtwin_fun u1.abs M ao6 cap7 _ _ hs8 g.fz).mono ?_; rintro _ t ⟨h, i, O, rfl, hm⟩; refine ⟨_, rfl, ?_⟩; intro X u; have v := g.callZ hm; have d := hm.ext.le
 replace hs4 := hs4.mono d
 replace hs8 := hs8.mono d
 replace a := a.mono d
 replace b := Fz.le.trans b d
 have x : Mem B [] w0 Z0 ((.own (tyInt .u32) 105 h i (gtwinS u1.abs)) :: (.row b1 [.bool u0.neg, .slice ao2 u0.abs.length cap3] 73) :: (.row b5 [.bool u1.neg, .slice ao6 u1.abs.length cap7] 73) :: Rr) O t := v
 refine nl (qnI (s _ _ (x.cst a [2]) ?_))
 refine eS rfl ?_; intro P y
 obtain ⟨Q, f, z, j⟩ := x.freeze 0 rfl
 replace hs4 := hs4.mono f
 replace hs8 := hs8.mono f
 replace a := a.mono f
 replace b := Fz.le.trans b f
 have k : Mem B [] w0 Z0 ((.row b1 [.bool u0.neg, .slice ao2 u0.abs.length cap3] 73) :: (.row b5 [.bool u1.neg, .slice ao6 u1.abs.length cap7] 73) :: Rr) Q t := z
 refine ck u 78 #[pt b1 0, .bool (!u1.neg), .slice h (gtwinS u1.abs).length i] ?_
 refine (ggive_fun u0 (!u1.neg) (gtwinS u1.abs) b1 ao2 cap3 h i _ _ _ _ _ _ hs4 j k k.fz).mono ?_; rintro _ R ⟨A, C, D, rfl, c, S, hm⟩; refine ⟨_, rfl, ?_⟩; intro Y E; have F := hm
 replace hs8 := hs8.mono c
 replace a := a.mono c
 replace b := Fz.le.trans b c
 have G : Mem B [] w0 Z0 ((.row b1 [.bool (ggive u0 (!u1.neg) (gtwinS u1.abs)).neg, .slice A (ggive u0 (!u1.neg) (gtwinS u1.abs)).abs.length C] 73) :: (.row b5 [.bool u1.neg, .slice ao6 u1.abs.length cap7] 73) :: Rr) D R := F
 refine nl (qnI (y _ _ (G.cst a [1]) ?_))
 refine cS E 1 [] [] [(4, pt b1 0)] ?_; intro aa T
 refine nS (p _ _ ?_)
 exact t_ (r_ (ra1 T (pt b1 0) ⟨((ggive u0 (!u1.neg) (gtwinS u1.abs)), u1), A, C, ao6, cap7, D, rfl, N, b, S, hs8, G.kp⟩))
end Go.Proofs.YtdndfbamhnchfaaGreatDoor
set_option linter.unusedVariables false
set_option linter.unusedSimpArgs false
set_option linter.defProp false
set_option maxRecDepth 100000
set_option maxHeartbeats 0
namespace Go.Proofs.YtdndfbamhnchfaaGreatDoor
open Go.Sy Go.RowKit
abbrev e75Ne (X : BRat) (A0 : Option Addr) (C0 : Nat) (A1 : Option Addr) (C1 : Nat) : List Value := [.bool X.a.neg, .slice A0 X.a.abs.length C0, .bool X.b.neg, .slice A1 X.b.abs.length C1]
theorem gmulAB_fun (u0 : BInt) (u1 : BRat) (u2 : BRat) (hpre : bk u1.a ∧ bk u2.b) (b1 : Nat) (ao2 : Option Addr) (cap3 : Nat) (b5 : Nat) (ao6 : Option Addr) (cap7 : Nat) (ao9 : Option Addr) (cap10 : Nat) (b12 : Nat) (ao13 : Option Addr) (cap14 : Nat) (ao16 : Option Addr) (cap17 : Nat) (B : Nat) (w0 : World) (Z0 : Fz) (Rr : List Res) (Z : Fz) (w : World) (hs4 : SlR (tyInt .u32) Z ao2 cap3 u0.abs) (hs8 : SlR (tyInt .u32) Z ao6 cap7 u1.a.abs) (hs11 : SlR (tyInt .u32) Z ao9 cap10 u1.b.abs) (hs15 : SlR (tyInt .u32) Z ao13 cap14 u2.a.abs) (hs18 : SlR (tyInt .u32) Z ao16 cap17 u2.b.abs) (hM0 : Mem B [] w0 Z0 ((.row b1 [.bool u0.neg, .slice ao2 u0.abs.length cap3] 73) :: (.row b5 [.bool u1.a.neg, .slice ao6 u1.a.abs.length cap7, .bool u1.b.neg, .slice ao9 u1.b.abs.length cap10] 75) :: (.row b12 [.bool u2.a.neg, .slice ao13 u2.a.abs.length cap14, .bool u2.b.neg, .slice ao16 u2.b.abs.length cap17] 75) :: Rr) Z w) (hZ : Z.on w) : Calls Tryz.prog 75 #[pt b1 0, pt b5 0, pt b12 2] w fun e w' => ∃ (ao1001 : Option Addr) (cap1002 : Nat) (ao1004 : Option Addr) (cap1005 : Nat) (ao1007 : Option Addr) (cap1008 : Nat) (ao1010 : Option Addr) (cap1011 : Nat) (ao1013 : Option Addr) (cap1014 : Nat) (Z' : Fz), e = .returned (pt b1 0) ∧ Fz.le Z Z' ∧ SlR (tyInt .u32) Z' ao1001 cap1002 (gmulABS u0 u1 u2).1.abs ∧ SlR (tyInt .u32) Z' ao1004 cap1005 (gmulABS u0 u1 u2).2.1.a.abs ∧ SlR (tyInt .u32) Z' ao1007 cap1008 (gmulABS u0 u1 u2).2.1.b.abs ∧ SlR (tyInt .u32) Z' ao1010 cap1011 (gmulABS u0 u1 u2).2.2.a.abs ∧ SlR (tyInt .u32) Z' ao1013 cap1014 (gmulABS u0 u1 u2).2.2.b.abs ∧ Mem B [] w0 Z0 ((.row b1 [.bool (gmulABS u0 u1 u2).1.neg, .slice ao1001 (gmulABS u0 u1 u2).1.abs.length cap1002] 73) :: (.row b5 [.bool (gmulABS u0 u1 u2).2.1.a.neg, .slice ao1004 (gmulABS u0 u1 u2).2.1.a.abs.length cap1005, .bool (gmulABS u0 u1 u2).2.1.b.neg, .slice ao1007 (gmulABS u0 u1 u2).2.1.b.abs.length cap1008] 75) :: (.row b12 [.bool (gmulABS u0 u1 u2).2.2.a.neg, .slice ao1010 (gmulABS u0 u1 u2).2.2.a.abs.length cap1011, .bool (gmulABS u0 u1 u2).2.2.b.neg, .slice ao1013 (gmulABS u0 u1 u2).2.2.b.abs.length cap1014] 75) :: Rr) Z' w' :=
 (gmulAB_walk u0 u1 u2 b1 ao2 cap3 b5 ao6 cap7 ao9 cap10 b12 ao13 cap14 ao16 cap17 B w0 Z0 Rr Z w hs4 hs8 hs11 hs15 hs18 hM0 hZ (gmulAB_ok u0 u1 u2 hpre)).mono fun _ _ ⟨r, h0, h1, h2, h3, h4, h5, h6, h7, h8, h9, h10, he, hk, f0, f1, f2, f3, f4, f5, hm⟩ => by subst hk; exact ⟨h0, h1, h2, h3, h4, h5, h6, h7, h8, h9, h10, he, f0, f1, f2, f3, f4, f5, hm⟩
theorem gmulBA_fun (u0 : BInt) (u1 : BRat) (u2 : BRat) (hpre : bk u1.b ∧ bk u2.a) (b1 : Nat) (ao2 : Option Addr) (cap3 : Nat) (b5 : Nat) (ao6 : Option Addr) (cap7 : Nat) (ao9 : Option Addr) (cap10 : Nat) (b12 : Nat) (ao13 : Option Addr) (cap14 : Nat) (ao16 : Option Addr) (cap17 : Nat) (B : Nat) (w0 : World) (Z0 : Fz) (Rr : List Res) (Z : Fz) (w : World) (hs4 : SlR (tyInt .u32) Z ao2 cap3 u0.abs) (hs8 : SlR (tyInt .u32) Z ao6 cap7 u1.a.abs) (hs11 : SlR (tyInt .u32) Z ao9 cap10 u1.b.abs) (hs15 : SlR (tyInt .u32) Z ao13 cap14 u2.a.abs) (hs18 : SlR (tyInt .u32) Z ao16 cap17 u2.b.abs) (hM0 : Mem B [] w0 Z0 ((.row b1 [.bool u0.neg, .slice ao2 u0.abs.length cap3] 73) :: (.row b5 [.bool u1.a.neg, .slice ao6 u1.a.abs.length cap7, .bool u1.b.neg, .slice ao9 u1.b.abs.length cap10] 75) :: (.row b12 [.bool u2.a.neg, .slice ao13 u2.a.abs.length cap14, .bool u2.b.neg, .slice ao16 u2.b.abs.length cap17] 75) :: Rr) Z w) (hZ : Z.on w) : Calls Tryz.prog 75 #[pt b1 0, pt b5 2, pt b12 0] w fun e w' => ∃ (ao1001 : Option Addr) (cap1002 : Nat) (ao1004 : Option Addr) (cap1005 : Nat) (ao1007 : Option Addr) (cap1008 : Nat) (ao1010 : Option Addr) (cap1011 : Nat) (ao1013 : Option Addr) (cap1014 : Nat) (Z' : Fz), e = .returned (pt b1 0) ∧ Fz.le Z Z' ∧ SlR (tyInt .u32) Z' ao1001 cap1002 (gmulBAS u0 u1 u2).1.abs ∧ SlR (tyInt .u32) Z' ao1004 cap1005 (gmulBAS u0 u1 u2).2.1.a.abs ∧ SlR (tyInt .u32) Z' ao1007 cap1008 (gmulBAS u0 u1 u2).2.1.b.abs ∧ SlR (tyInt .u32) Z' ao1010 cap1011 (gmulBAS u0 u1 u2).2.2.a.abs ∧ SlR (tyInt .u32) Z' ao1013 cap1014 (gmulBAS u0 u1 u2).2.2.b.abs ∧ Mem B [] w0 Z0 ((.row b1 [.bool (gmulBAS u0 u1 u2).1.neg, .slice ao1001 (gmulBAS u0 u1 u2).1.abs.length cap1002] 73) :: (.row b5 [.bool (gmulBAS u0 u1 u2).2.1.a.neg, .slice ao1004 (gmulBAS u0 u1 u2).2.1.a.abs.length cap1005, .bool (gmulBAS u0 u1 u2).2.1.b.neg, .slice ao1007 (gmulBAS u0 u1 u2).2.1.b.abs.length cap1008] 75) :: (.row b12 [.bool (gmulBAS u0 u1 u2).2.2.a.neg, .slice ao1010 (gmulBAS u0 u1 u2).2.2.a.abs.length cap1011, .bool (gmulBAS u0 u1 u2).2.2.b.neg, .slice ao1013 (gmulBAS u0 u1 u2).2.2.b.abs.length cap1014] 75) :: Rr) Z' w' :=
 (gmulBA_walk u0 u1 u2 b1 ao2 cap3 b5 ao6 cap7 ao9 cap10 b12 ao13 cap14 ao16 cap17 B w0 Z0 Rr Z w hs4 hs8 hs11 hs15 hs18 hM0 hZ (gmulBA_ok u0 u1 u2 hpre)).mono fun _ _ ⟨r, h0, h1, h2, h3, h4, h5, h6, h7, h8, h9, h10, he, hk, f0, f1, f2, f3, f4, f5, hm⟩ => by subst hk; exact ⟨h0, h1, h2, h3, h4, h5, h6, h7, h8, h9, h10, he, f0, f1, f2, f3, f4, f5, hm⟩
theorem gmulAA_fun (u0 : BInt) (u1 : BRat) (u2 : BRat) (hpre : bk u1.a ∧ bk u2.a) (b1 : Nat) (ao2 : Option Addr) (cap3 : Nat) (b5 : Nat) (ao6 : Option Addr) (cap7 : Nat) (ao9 : Option Addr) (cap10 : Nat) (b12 : Nat) (ao13 : Option Addr) (cap14 : Nat) (ao16 : Option Addr) (cap17 : Nat) (B : Nat) (w0 : World) (Z0 : Fz) (Rr : List Res) (Z : Fz) (w : World) (hs4 : SlR (tyInt .u32) Z ao2 cap3 u0.abs) (hs8 : SlR (tyInt .u32) Z ao6 cap7 u1.a.abs) (hs11 : SlR (tyInt .u32) Z ao9 cap10 u1.b.abs) (hs15 : SlR (tyInt .u32) Z ao13 cap14 u2.a.abs) (hs18 : SlR (tyInt .u32) Z ao16 cap17 u2.b.abs) (hM0 : Mem B [] w0 Z0 ((.row b1 [.bool u0.neg, .slice ao2 u0.abs.length cap3] 73) :: (.row b5 [.bool u1.a.neg, .slice ao6 u1.a.abs.length cap7, .bool u1.b.neg, .slice ao9 u1.b.abs.length cap10] 75) :: (.row b12 [.bool u2.a.neg, .slice ao13 u2.a.abs.length cap14, .bool u2.b.neg, .slice ao16 u2.b.abs.length cap17] 75) :: Rr) Z w) (hZ : Z.on w) : Calls Tryz.prog 75 #[pt b1 0, pt b5 0, pt b12 0] w fun e w' => ∃ (ao1001 : Option Addr) (cap1002 : Nat) (ao1004 : Option Addr) (cap1005 : Nat) (ao1007 : Option Addr) (cap1008 : Nat) (ao1010 : Option Addr) (cap1011 : Nat) (ao1013 : Option Addr) (cap1014 : Nat) (Z' : Fz), e = .returned (pt b1 0) ∧ Fz.le Z Z' ∧ SlR (tyInt .u32) Z' ao1001 cap1002 (gmulAAS u0 u1 u2).1.abs ∧ SlR (tyInt .u32) Z' ao1004 cap1005 (gmulAAS u0 u1 u2).2.1.a.abs ∧ SlR (tyInt .u32) Z' ao1007 cap1008 (gmulAAS u0 u1 u2).2.1.b.abs ∧ SlR (tyInt .u32) Z' ao1010 cap1011 (gmulAAS u0 u1 u2).2.2.a.abs ∧ SlR (tyInt .u32) Z' ao1013 cap1014 (gmulAAS u0 u1 u2).2.2.b.abs ∧ Mem B [] w0 Z0 ((.row b1 [.bool (gmulAAS u0 u1 u2).1.neg, .slice ao1001 (gmulAAS u0 u1 u2).1.abs.length cap1002] 73) :: (.row b5 [.bool (gmulAAS u0 u1 u2).2.1.a.neg, .slice ao1004 (gmulAAS u0 u1 u2).2.1.a.abs.length cap1005, .bool (gmulAAS u0 u1 u2).2.1.b.neg, .slice ao1007 (gmulAAS u0 u1 u2).2.1.b.abs.length cap1008] 75) :: (.row b12 [.bool (gmulAAS u0 u1 u2).2.2.a.neg, .slice ao1010 (gmulAAS u0 u1 u2).2.2.a.abs.length cap1011, .bool (gmulAAS u0 u1 u2).2.2.b.neg, .slice ao1013 (gmulAAS u0 u1 u2).2.2.b.abs.length cap1014] 75) :: Rr) Z' w' :=
 (gmulAA_walk u0 u1 u2 b1 ao2 cap3 b5 ao6 cap7 ao9 cap10 b12 ao13 cap14 ao16 cap17 B w0 Z0 Rr Z w hs4 hs8 hs11 hs15 hs18 hM0 hZ (gmulAA_ok u0 u1 u2 hpre)).mono fun _ _ ⟨r, h0, h1, h2, h3, h4, h5, h6, h7, h8, h9, h10, he, hk, f0, f1, f2, f3, f4, f5, hm⟩ => by subst hk; exact ⟨h0, h1, h2, h3, h4, h5, h6, h7, h8, h9, h10, he, f0, f1, f2, f3, f4, f5, hm⟩
theorem gmulBB_fun (u0 : BInt) (u1 : BRat) (u2 : BRat) (hpre : bk u1.b ∧ bk u2.b) (b1 : Nat) (ao2 : Option Addr) (cap3 : Nat) (b5 : Nat) (ao6 : Option Addr) (cap7 : Nat) (ao9 : Option Addr) (cap10 : Nat) (b12 : Nat) (ao13 : Option Addr) (cap14 : Nat) (ao16 : Option Addr) (cap17 : Nat) (B : Nat) (w0 : World) (Z0 : Fz) (Rr : List Res) (Z : Fz) (w : World) (hs4 : SlR (tyInt .u32) Z ao2 cap3 u0.abs) (hs8 : SlR (tyInt .u32) Z ao6 cap7 u1.a.abs) (hs11 : SlR (tyInt .u32) Z ao9 cap10 u1.b.abs) (hs15 : SlR (tyInt .u32) Z ao13 cap14 u2.a.abs) (hs18 : SlR (tyInt .u32) Z ao16 cap17 u2.b.abs) (hM0 : Mem B [] w0 Z0 ((.row b1 [.bool u0.neg, .slice ao2 u0.abs.length cap3] 73) :: (.row b5 [.bool u1.a.neg, .slice ao6 u1.a.abs.length cap7, .bool u1.b.neg, .slice ao9 u1.b.abs.length cap10] 75) :: (.row b12 [.bool u2.a.neg, .slice ao13 u2.a.abs.length cap14, .bool u2.b.neg, .slice ao16 u2.b.abs.length cap17] 75) :: Rr) Z w) (hZ : Z.on w) : Calls Tryz.prog 75 #[pt b1 0, pt b5 2, pt b12 2] w fun e w' => ∃ (ao1001 : Option Addr) (cap1002 : Nat) (ao1004 : Option Addr) (cap1005 : Nat) (ao1007 : Option Addr) (cap1008 : Nat) (ao1010 : Option Addr) (cap1011 : Nat) (ao1013 : Option Addr) (cap1014 : Nat) (Z' : Fz), e = .returned (pt b1 0) ∧ Fz.le Z Z' ∧ SlR (tyInt .u32) Z' ao1001 cap1002 (gmulBBS u0 u1 u2).1.abs ∧ SlR (tyInt .u32) Z' ao1004 cap1005 (gmulBBS u0 u1 u2).2.1.a.abs ∧ SlR (tyInt .u32) Z' ao1007 cap1008 (gmulBBS u0 u1 u2).2.1.b.abs ∧ SlR (tyInt .u32) Z' ao1010 cap1011 (gmulBBS u0 u1 u2).2.2.a.abs ∧ SlR (tyInt .u32) Z' ao1013 cap1014 (gmulBBS u0 u1 u2).2.2.b.abs ∧ Mem B [] w0 Z0 ((.row b1 [.bool (gmulBBS u0 u1 u2).1.neg, .slice ao1001 (gmulBBS u0 u1 u2).1.abs.length cap1002] 73) :: (.row b5 [.bool (gmulBBS u0 u1 u2).2.1.a.neg, .slice ao1004 (gmulBBS u0 u1 u2).2.1.a.abs.length cap1005, .bool (gmulBBS u0 u1 u2).2.1.b.neg, .slice ao1007 (gmulBBS u0 u1 u2).2.1.b.abs.length cap1008] 75) :: (.row b12 [.bool (gmulBBS u0 u1 u2).2.2.a.neg, .slice ao1010 (gmulBBS u0 u1 u2).2.2.a.abs.length cap1011, .bool (gmulBBS u0 u1 u2).2.2.b.neg, .slice ao1013 (gmulBBS u0 u1 u2).2.2.b.abs.length cap1014] 75) :: Rr) Z' w' :=
 (gmulBB_walk u0 u1 u2 b1 ao2 cap3 b5 ao6 cap7 ao9 cap10 b12 ao13 cap14 ao16 cap17 B w0 Z0 Rr Z w hs4 hs8 hs11 hs15 hs18 hM0 hZ (gmulBB_ok u0 u1 u2 hpre)).mono fun _ _ ⟨r, h0, h1, h2, h3, h4, h5, h6, h7, h8, h9, h10, he, hk, f0, f1, f2, f3, f4, f5, hm⟩ => by subst hk; exact ⟨h0, h1, h2, h3, h4, h5, h6, h7, h8, h9, h10, he, f0, f1, f2, f3, f4, f5, hm⟩
def rnorm_fun (u0 : BRat) (hpre : bk u0.a ∧ bk u0.b ∧ iv u0.b ≠ 0) (b1 : Nat) (ao2 : Option Addr) (cap3 : Nat) (ao5 : Option Addr) (cap6 : Nat) (B : Nat) (w0 : World) (Z0 : Fz) (Rr : List Res) (Z : Fz) (w : World) (hs4 : SlR (tyInt .u32) Z ao2 cap3 u0.a.abs) (hs7 : SlR (tyInt .u32) Z ao5 cap6 u0.b.abs) (hM0 : Mem B [] w0 Z0 ((.row b1 [.bool u0.a.neg, .slice ao2 u0.a.abs.length cap3, .bool u0.b.neg, .slice ao5 u0.b.abs.length cap6] 75) :: Rr) Z w) (hZ : Z.on w) := fe_ (rnorm_walk u0 b1 ao2 cap3 ao5 cap6 B w0 Z0 Rr Z w hs4 hs7 hM0 hZ (rnorm_ok u0 hpre))
def rnum_fun (u0 : BRat) (b1 : Nat) (ao2 : Option Addr) (cap3 : Nat) (ao5 : Option Addr) (cap6 : Nat) (B : Nat) (w0 : World) (Z0 : Fz) (Rr : List Res) (Z : Fz) (w : World) (hs4 : SlR (tyInt .u32) Z ao2 cap3 u0.a.abs) (hs7 : SlR (tyInt .u32) Z ao5 cap6 u0.b.abs) (hM0 : Mem B [] w0 Z0 ((.row b1 [.bool u0.a.neg, .slice ao2 u0.a.abs.length cap3, .bool u0.b.neg, .slice ao5 u0.b.abs.length cap6] 75) :: Rr) Z w) (hZ : Z.on w) := fe_ (rnum_walk u0 b1 ao2 cap3 ao5 cap6 B w0 Z0 Rr Z w hs4 hs7 hM0 hZ (rnum_ok u0))
def gi64A_fun (u0 : BRat) (hpre : bs u0.a) (b1 : Nat) (ao2 : Option Addr) (cap3 : Nat) (ao5 : Option Addr) (cap6 : Nat) (B : Nat) (w0 : World) (Z0 : Fz) (Rr : List Res) (Z : Fz) (w : World) (hs4 : SlR (tyInt .u32) Z ao2 cap3 u0.a.abs) (hs7 : SlR (tyInt .u32) Z ao5 cap6 u0.b.abs) (hM0 : Mem B [] w0 Z0 ((.row b1 [.bool u0.a.neg, .slice ao2 u0.a.abs.length cap3, .bool u0.b.neg, .slice ao5 u0.b.abs.length cap6] 75) :: Rr) Z w) (hZ : Z.on w) := fe_ (gi64A_walk u0 b1 ao2 cap3 ao5 cap6 B w0 Z0 Rr Z w hs4 hs7 hM0 hZ (gi64A_ok u0 hpre))
theorem gsubI_fun (u0 : BInt) (u1 : BInt) (u2 : BInt) (hpre : bk u1 ∧ bk u2) (b1 : Nat) (ao2 : Option Addr) (cap3 : Nat) (b5 : Nat) (ao6 : Option Addr) (cap7 : Nat) (b9 : Nat) (ao10 : Option Addr) (cap11 : Nat) (B : Nat) (w0 : World) (Z0 : Fz) (Rr : List Res) (Z : Fz) (w : World) (hs4 : SlR (tyInt .u32) Z ao2 cap3 u0.abs) (hs8 : SlR (tyInt .u32) Z ao6 cap7 u1.abs) (hs12 : SlR (tyInt .u32) Z ao10 cap11 u2.abs) (hM0 : Mem B [] w0 Z0 ((.row b1 [.bool u0.neg, .slice ao2 u0.abs.length cap3] 73) :: (.row b5 [.bool u1.neg, .slice ao6 u1.abs.length cap7] 73) :: (.row b9 [.bool u2.neg, .slice ao10 u2.abs.length cap11] 73) :: Rr) Z w) (hZ : Z.on w) : Calls Tryz.prog 74 #[pt b1 0, pt b5 0, pt b9 0] w fun e w' => ∃ (ao1001 : Option Addr) (cap1002 : Nat) (ao1004 : Option Addr) (cap1005 : Nat) (ao1007 : Option Addr) (cap1008 : Nat) (Z' : Fz), e = .returned (pt b1 0) ∧ Fz.le Z Z' ∧ SlR (tyInt .u32) Z' ao1001 cap1002 (gsubIS u0 u1 u2).1.abs ∧ SlR (tyInt .u32) Z' ao1004 cap1005 (gsubIS u0 u1 u2).2.1.abs ∧ SlR (tyInt .u32) Z' ao1007 cap1008 (gsubIS u0 u1 u2).2.2.abs ∧ Mem B [] w0 Z0 ((.row b1 [.bool (gsubIS u0 u1 u2).1.neg, .slice ao1001 (gsubIS u0 u1 u2).1.abs.length cap1002] 73) :: (.row b5 [.bool (gsubIS u0 u1 u2).2.1.neg, .slice ao1004 (gsubIS u0 u1 u2).2.1.abs.length cap1005] 73) :: (.row b9 [.bool (gsubIS u0 u1 u2).2.2.neg, .slice ao1007 (gsubIS u0 u1 u2).2.2.abs.length cap1008] 73) :: Rr) Z' w' :=
 (gsubI_walk u0 u1 u2 b1 ao2 cap3 b5 ao6 cap7 b9 ao10 cap11 B w0 Z0 Rr Z w hs4 hs8 hs12 hM0 hZ (gsubI_ok u0 u1 u2 hpre)).mono fun _ _ ⟨r, h0, h1, h2, h3, h4, h5, h6, he, hk, f0, f1, f2, f3, hm⟩ => by subst hk; exact ⟨h0, h1, h2, h3, h4, h5, h6, he, f0, f1, f2, f3, hm⟩
theorem gcmpA_fun (u0 : BRat) (u1 : BInt) (hpre : bk u0.a ∧ bk u1) (b1 : Nat) (ao2 : Option Addr) (cap3 : Nat) (ao5 : Option Addr) (cap6 : Nat) (b8 : Nat) (ao9 : Option Addr) (cap10 : Nat) (B : Nat) (w0 : World) (Z0 : Fz) (Rr : List Res) (Z : Fz) (w : World) (hs4 : SlR (tyInt .u32) Z ao2 cap3 u0.a.abs) (hs7 : SlR (tyInt .u32) Z ao5 cap6 u0.b.abs) (hs11 : SlR (tyInt .u32) Z ao9 cap10 u1.abs) (hM0 : Mem B [] w0 Z0 ((.row b1 [.bool u0.a.neg, .slice ao2 u0.a.abs.length cap3, .bool u0.b.neg, .slice ao5 u0.b.abs.length cap6] 75) :: (.row b8 [.bool u1.neg, .slice ao9 u1.abs.length cap10] 73) :: Rr) Z w) (hZ : Z.on w) : Calls Tryz.prog 53 #[pt b1 0, pt b8 0] w fun e w' => ∃ (ao1001 : Option Addr) (cap1002 : Nat) (ao1004 : Option Addr) (cap1005 : Nat) (ao1007 : Option Addr) (cap1008 : Nat) (Z' : Fz), e = .returned (i6 (gcmpAS u0 u1).1) ∧ Fz.le Z Z' ∧ SlR (tyInt .u32) Z' ao1001 cap1002 (gcmpAS u0 u1).2.1.a.abs ∧ SlR (tyInt .u32) Z' ao1004 cap1005 (gcmpAS u0 u1).2.1.b.abs ∧ SlR (tyInt .u32) Z' ao1007 cap1008 (gcmpAS u0 u1).2.2.abs ∧ Mem B [] w0 Z0 ((.row b1 [.bool (gcmpAS u0 u1).2.1.a.neg, .slice ao1001 (gcmpAS u0 u1).2.1.a.abs.length cap1002, .bool (gcmpAS u0 u1).2.1.b.neg, .slice ao1004 (gcmpAS u0 u1).2.1.b.abs.length cap1005] 75) :: (.row b8 [.bool (gcmpAS u0 u1).2.2.neg, .slice ao1007 (gcmpAS u0 u1).2.2.abs.length cap1008] 73) :: Rr) Z' w' :=
 (gcmpA_walk u0 u1 b1 ao2 cap3 ao5 cap6 b8 ao9 cap10 B w0 Z0 Rr Z w hs4 hs7 hs11 hM0 hZ (gcmpA_ok u0 u1 hpre)).mono fun _ _ ⟨r, h0, h1, h2, h3, h4, h5, h6, he, hk, f0, f1, f2, f3, hm⟩ => by subst hk; exact ⟨h0, h1, h2, h3, h4, h5, h6, he, f0, f1, f2, f3, hm⟩
theorem gcmpB_fun (u0 : BRat) (u1 : BInt) (hpre : bk u0.b ∧ bk u1) (b1 : Nat) (ao2 : Option Addr) (cap3 : Nat) (ao5 : Option Addr) (cap6 : Nat) (b8 : Nat) (ao9 : Option Addr) (cap10 : Nat) (B : Nat) (w0 : World) (Z0 : Fz) (Rr : List Res) (Z : Fz) (w : World) (hs4 : SlR (tyInt .u32) Z ao2 cap3 u0.a.abs) (hs7 : SlR (tyInt .u32) Z ao5 cap6 u0.b.abs) (hs11 : SlR (tyInt .u32) Z ao9 cap10 u1.abs) (hM0 : Mem B [] w0 Z0 ((.row b1 [.bool u0.a.neg, .slice ao2 u0.a.abs.length cap3, .bool u0.b.neg, .slice ao5 u0.b.abs.length cap6] 75) :: (.row b8 [.bool u1.neg, .slice ao9 u1.abs.length cap10] 73) :: Rr) Z w) (hZ : Z.on w) : Calls Tryz.prog 53 #[pt b1 2, pt b8 0] w fun e w' => ∃ (ao1001 : Option Addr) (cap1002 : Nat) (ao1004 : Option Addr) (cap1005 : Nat) (ao1007 : Option Addr) (cap1008 : Nat) (Z' : Fz), e = .returned (i6 (gcmpBS u0 u1).1) ∧ Fz.le Z Z' ∧ SlR (tyInt .u32) Z' ao1001 cap1002 (gcmpBS u0 u1).2.1.a.abs ∧ SlR (tyInt .u32) Z' ao1004 cap1005 (gcmpBS u0 u1).2.1.b.abs ∧ SlR (tyInt .u32) Z' ao1007 cap1008 (gcmpBS u0 u1).2.2.abs ∧ Mem B [] w0 Z0 ((.row b1 [.bool (gcmpBS u0 u1).2.1.a.neg, .slice ao1001 (gcmpBS u0 u1).2.1.a.abs.length cap1002, .bool (gcmpBS u0 u1).2.1.b.neg, .slice ao1004 (gcmpBS u0 u1).2.1.b.abs.length cap1005] 75) :: (.row b8 [.bool (gcmpBS u0 u1).2.2.neg, .slice ao1007 (gcmpBS u0 u1).2.2.abs.length cap1008] 73) :: Rr) Z' w' :=
 (gcmpB_walk u0 u1 b1 ao2 cap3 ao5 cap6 b8 ao9 cap10 B w0 Z0 Rr Z w hs4 hs7 hs11 hM0 hZ (gcmpB_ok u0 u1 hpre)).mono fun _ _ ⟨r, h0, h1, h2, h3, h4, h5, h6, he, hk, f0, f1, f2, f3, hm⟩ => by subst hk; exact ⟨h0, h1, h2, h3, h4, h5, h6, he, f0, f1, f2, f3, hm⟩
def glshI_fun (u0 : BInt) (u1 : BInt) (u2 : Int) (hpre : bk u1 ∧ 0 ≤ iv u1 ∧ 0 ≤ u2 ∧ u2 ≤ 100) (b1 : Nat) (ao2 : Option Addr) (cap3 : Nat) (b5 : Nat) (ao6 : Option Addr) (cap7 : Nat) (B : Nat) (w0 : World) (Z0 : Fz) (Rr : List Res) (Z : Fz) (w : World) (hs4 : SlR (tyInt .u32) Z ao2 cap3 u0.abs) (hs8 : SlR (tyInt .u32) Z ao6 cap7 u1.abs) (hM0 : Mem B [] w0 Z0 ((.row b1 [.bool u0.neg, .slice ao2 u0.abs.length cap3] 73) :: (.row b5 [.bool u1.neg, .slice ao6 u1.abs.length cap7] 73) :: Rr) Z w) (hZ : Z.on w) := fe_ (glshI_walk u0 u1 u2 b1 ao2 cap3 b5 ao6 cap7 B w0 Z0 Rr Z w hs4 hs8 hM0 hZ (glshI_ok u0 u1 u2 hpre))
def grshI_fun (u0 : BInt) (u2 : Int) (hpre : bk u0 ∧ 0 ≤ iv u0 ∧ u2 = 1) (b1 : Nat) (ao2 : Option Addr) (cap3 : Nat) (B : Nat) (w0 : World) (Z0 : Fz) (Rr : List Res) (Z : Fz) (w : World) (hs4 : SlR (tyInt .u32) Z ao2 cap3 u0.abs) (hM0 : Mem B [] w0 Z0 ((.row b1 [.bool u0.neg, .slice ao2 u0.abs.length cap3] 73) :: Rr) Z w) (hZ : Z.on w) := fc_ (grshI_walk u0 u2 b1 ao2 cap3 B w0 Z0 Rr Z w hs4 hM0 hZ (grshI_ok u0 u2 hpre))
def gnegI_fun (u0 : BInt) (u1 : BInt) (hpre : bk u1) (b1 : Nat) (ao2 : Option Addr) (cap3 : Nat) (b5 : Nat) (ao6 : Option Addr) (cap7 : Nat) (B : Nat) (w0 : World) (Z0 : Fz) (Rr : List Res) (Z : Fz) (w : World) (hs4 : SlR (tyInt .u32) Z ao2 cap3 u0.abs) (hs8 : SlR (tyInt .u32) Z ao6 cap7 u1.abs) (hM0 : Mem B [] w0 Z0 ((.row b1 [.bool u0.neg, .slice ao2 u0.abs.length cap3] 73) :: (.row b5 [.bool u1.neg, .slice ao6 u1.abs.length cap7] 73) :: Rr) Z w) (hZ : Z.on w) := fe_ (gnegI_walk u0 u1 b1 ao2 cap3 b5 ao6 cap7 B w0 Z0 Rr Z w hs4 hs8 hM0 hZ (gnegI_ok u0 u1 hpre))
theorem rsf_walk (u0 : BRat) (u1 : BInt) (u2 : BInt) (b1 : Nat) (ao2 : Option Addr) (cap3 : Nat) (ao5 : Option Addr) (cap6 : Nat) (b8 : Nat) (ao9 : Option Addr) (cap10 : Nat) (b12 : Nat) (ao13 : Option Addr) (cap14 : Nat) (B : Nat) (w0 : World) (Z0 : Fz) (Rr : List Res) (Z : Fz) (w : World) (hs4 : SlR (tyInt .u32) Z ao2 cap3 u0.a.abs) (hs7 : SlR (tyInt .u32) Z ao5 cap6 u0.b.abs) (hs11 : SlR (tyInt .u32) Z ao9 cap10 u1.abs) (hs15 : SlR (tyInt .u32) Z ao13 cap14 u2.abs) (hM0 : Mem B [] w0 Z0 ((.row b1 [.bool u0.a.neg, .slice ao2 u0.a.abs.length cap3, .bool u0.b.neg, .slice ao5 u0.b.abs.length cap6] 75) :: (.row b8 [.bool u1.neg, .slice ao9 u1.abs.length cap10] 73) :: (.row b12 [.bool u2.neg, .slice ao13 u2.abs.length cap14] 73) :: Rr) Z w) (hZ : Z.on w) {K : (BRat × BInt × BInt) → Prop} (hp : rsf_vc u0 u1 u2 K) : Calls Tryz.prog 73 #[pt b1 0, pt b8 0, pt b12 0] w fun e w' => ∃ (r : BRat × BInt × BInt) (ao1001 : Option Addr) (cap1002 : Nat) (ao1004 : Option Addr) (cap1005 : Nat) (ao1007 : Option Addr) (cap1008 : Nat) (ao1010 : Option Addr) (cap1011 : Nat) (Z' : Fz), e = .returned (pt b1 0) ∧ K r ∧ Fz.le Z Z' ∧ SlR (tyInt .u32) Z' ao1001 cap1002 r.1.a.abs ∧ SlR (tyInt .u32) Z' ao1004 cap1005 r.1.b.abs ∧ SlR (tyInt .u32) Z' ao1007 cap1008 r.2.1.abs ∧ SlR (tyInt .u32) Z' ao1010 cap1011 r.2.2.abs ∧ Mem B [] w0 Z0 ((.row b1 [.bool r.1.a.neg, .slice ao1001 r.1.a.abs.length cap1002, .bool r.1.b.neg, .slice ao1004 r.1.b.abs.length cap1005] 75) :: (.row b8 [.bool r.2.1.neg, .slice ao1007 r.2.1.abs.length cap1008] 73) :: (.row b12 [.bool r.2.2.neg, .slice ao1010 r.2.2.abs.length cap1011] 73) :: Rr) Z' w' := by
 refine enter0 Tryz.func73 rfl rfl (by kernel_rfl) ?_; intro a0 X; have f := Fz.le.refl Z
 have be := hp (hs4.small) (hs7.small) (hs11.small) (hs15.small)
 refine sqB X hM0 [] [] [] ?_; intro bP ac
 refine s_ (sqB ac hM0 [2] [] [(14, .bool ((u2.abs.length : Int) == 0))] ?_); intro bQ C
 obtain ⟨bf, bg⟩ := be
 refine cn C bf ?_
 refine k_ (sqH ?_); intro bh ad
 refine nw C hM0 pb [.bool false, .slice none 0 0] 73 ?_; intro c bR bS ae D
 refine s1 ae 20 (pt b8 0) ?_; intro bT af
 refine ck af 100 #[pt c 0, pt b8 0] ?_
 refine enter0 Tryz.func100 rfl rfl (by kernel_rfl) ?_; intro bi ag
 have ah : Fr 16 [] [⟨0, [], pt c 0⟩, ⟨1, [], pt b8 0⟩] bi := ag.reg
 refine sqB ah D [] [] [] ?_; intro bj ai
 have aj : Fr 16 [] [⟨0, [], pt c 0⟩, ⟨1, [], pt b8 0⟩] bj := ai.reg
 refine wp_seq (rgS mixed D [(0, true), (1, true), (2, true), (3, true), (4, true), (5, true), (6, true), (7, true), (8, true), (9, false), (10, false), (11, true)] [] [2] [.row b8 [.bool u1.neg, .slice ao9 u1.abs.length cap10] 73] ?_)
 intro bk ak bU E
 have o := Fz.le.refl Z
 refine cS aj 9 [0, 0] [] [(5, pt c 0), (9, .bool u1.neg), (13, .slice ao9 u1.abs.length cap10)] ?_; intro bV al
 refine eS rfl ?_; intro bl am
 obtain ⟨bm, bn⟩ := bg
 refine ck al 83 #[.slice ao9 u1.abs.length cap10] ?_
 refine (gtwin_fun u1.abs bm ao9 cap10 _ _ hs11 E.fz).mono ?_; rintro _ an ⟨F, G, bo, rfl, hm⟩; refine ⟨_, rfl, ?_⟩; intro bW ao; have ap := E.callZ hm; have u := hm.ext.le
 replace hs11 := hs11.mono u
 replace hs15 := hs15.mono u
 replace o := o.mono u
 replace f := Fz.le.trans f u
 have aq : Mem B [] w0 Z0 ((.own (tyInt .u32) 105 F G (gtwinS u1.abs)) :: (.row c [.bool false, .slice none 0 0] 73) :: (.row b1 (e75Ne u0 ao2 cap3 ao5 cap6) 75) :: (.row b8 [.bool u1.neg, .slice ao9 u1.abs.length cap10] 73) :: (.row b12 [.bool u2.neg, .slice ao13 u2.abs.length cap14] 73) :: Rr) bo an := ap
 refine nl (qnI (am _ _ (aq.cst o [3]) ?_))
 refine eS rfl ?_; intro bp ar
 obtain ⟨bq, v, au, i⟩ := aq.freeze 0 rfl
 replace hs11 := hs11.mono v
 replace hs15 := hs15.mono v
 replace o := o.mono v
 replace f := Fz.le.trans f v
 have H : Mem B [] w0 Z0 ((.row c [.bool false, .slice none 0 0] 73) :: (.row b1 (e75Ne u0 ao2 cap3 ao5 cap6) 75) :: (.row b8 [.bool u1.neg, .slice ao9 u1.abs.length cap10] 73) :: (.row b12 [.bool u2.neg, .slice ao13 u2.abs.length cap14] 73) :: Rr) bq an := au
 refine ck ao 78 #[pt c 0, .bool u1.neg, .slice F (gtwinS u1.abs).length G] ?_
 refine (ggive_fun (⟨false, []⟩ : BInt) u1.neg (gtwinS u1.abs) c none 0 F G _ _ _ _ _ _ (SlR.nil _ _) i H H.fz).mono ?_; rintro _ br ⟨g, h, I, rfl, t, j, hm⟩; refine ⟨_, rfl, ?_⟩; intro bX av; have aw := hm
 replace hs11 := hs11.mono t
 replace hs15 := hs15.mono t
 replace o := o.mono t
 replace f := Fz.le.trans f t
 have J : Mem B [] w0 Z0 ((.row c [.bool (ggive (⟨false, []⟩ : BInt) u1.neg (gtwinS u1.abs)).neg, .slice g (ggive (⟨false, []⟩ : BInt) u1.neg (gtwinS u1.abs)).abs.length h] 73) :: (.row b1 (e75Ne u0 ao2 cap3 ao5 cap6) 75) :: (.row b8 [.bool u1.neg, .slice ao9 u1.abs.length cap10] 73) :: (.row b12 [.bool u2.neg, .slice ao13 u2.abs.length cap14] 73) :: Rr) I br := aw
 refine nl (qnI (ar _ _ (J.cst o [2]) ?_))
 refine cS av 1 [] [] [(4, pt c 0)] ?_; intro bY ax
 refine nS (ak _ _ ?_)
 refine t_ (r_ (ra1 ax (pt c 0) ?_))
 refine ⟨_, rfl, ?_⟩; intro bZ ay
 refine nw ay J pb [.bool false, .slice none 0 0] 73 ?_; intro d b0 bs az aA
 refine s1 az 23 (pt b12 0) ?_; intro b2 aB
 have L : Mem B [] w0 Z0 ((.row d [.bool false, .slice none 0 0] 73) :: (.row c [.bool (ggive (⟨false, []⟩ : BInt) u1.neg (gtwinS u1.abs)).neg, .slice g (ggive (⟨false, []⟩ : BInt) u1.neg (gtwinS u1.abs)).abs.length h] 73) :: (.row b1 (e75Ne u0 ao2 cap3 ao5 cap6) 75) :: (.row b8 [.bool u1.neg, .slice ao9 u1.abs.length cap10] 73) :: (.row b12 [.bool u2.neg, .slice ao13 u2.abs.length cap14] 73) :: Rr) I bs := aA
 refine ck aB 100 #[pt d 0, pt b12 0] ?_
 refine enter0 Tryz.func100 rfl rfl (by kernel_rfl) ?_; intro bu aC
 have aD : Fr 16 [] [⟨0, [], pt d 0⟩, ⟨1, [], pt b12 0⟩] bu := aC.reg
 refine sqB aD L [] [] [] ?_; intro bv aE
 have aF : Fr 16 [] [⟨0, [], pt d 0⟩, ⟨1, [], pt b12 0⟩] bv := aE.reg
 refine wp_seq (rgS mixed L [(0, true), (1, true), (2, true), (3, true), (4, true), (5, true), (6, true), (7, true), (8, true), (9, false), (10, false), (11, true)] [] [4] [.row b12 [.bool u2.neg, .slice ao13 u2.abs.length cap14] 73] ?_)
 intro bw aG b3 M
 have p := Fz.le.refl I
 refine cS aF 9 [0, 0] [] [(5, pt d 0), (9, .bool u2.neg), (13, .slice ao13 u2.abs.length cap14)] ?_; intro b4 aH
 refine eS rfl ?_; intro bx aI
 obtain ⟨bz, bA⟩ := bn
 refine ck aH 83 #[.slice ao13 u2.abs.length cap14] ?_
 refine (gtwin_fun u2.abs bz ao13 cap14 _ _ hs15 M.fz).mono ?_; rintro _ aJ ⟨N, O, bB, rfl, hm⟩; refine ⟨_, rfl, ?_⟩; intro b5 aK; have aL := M.callZ hm; have q := hm.ext.le
 replace hs11 := hs11.mono q
 replace hs15 := hs15.mono q
 replace j := j.mono q
 replace p := p.mono q
 replace f := Fz.le.trans f q
 have aM : Mem B [] w0 Z0 ((.own (tyInt .u32) 105 N O (gtwinS u2.abs)) :: (.row d [.bool false, .slice none 0 0] 73) :: (.row c [.bool (ggive (⟨false, []⟩ : BInt) u1.neg (gtwinS u1.abs)).neg, .slice g (ggive (⟨false, []⟩ : BInt) u1.neg (gtwinS u1.abs)).abs.length h] 73) :: (.row b1 (e75Ne u0 ao2 cap3 ao5 cap6) 75) :: (.row b8 [.bool u1.neg, .slice ao9 u1.abs.length cap10] 73) :: (.row b12 [.bool u2.neg, .slice ao13 u2.abs.length cap14] 73) :: Rr) bB aJ := aL
 refine nl (qnI (aI _ _ (aM.cst p [5]) ?_))
 refine eS rfl ?_; intro bC aN
 obtain ⟨bD, s, aO, x⟩ := aM.freeze 0 rfl
 replace hs11 := hs11.mono s
 replace hs15 := hs15.mono s
 replace j := j.mono s
 replace p := p.mono s
 replace f := Fz.le.trans f s
 have P : Mem B [] w0 Z0 ((.row d [.bool false, .slice none 0 0] 73) :: (.row c [.bool (ggive (⟨false, []⟩ : BInt) u1.neg (gtwinS u1.abs)).neg, .slice g (ggive (⟨false, []⟩ : BInt) u1.neg (gtwinS u1.abs)).abs.length h] 73) :: (.row b1 (e75Ne u0 ao2 cap3 ao5 cap6) 75) :: (.row b8 [.bool u1.neg, .slice ao9 u1.abs.length cap10] 73) :: (.row b12 [.bool u2.neg, .slice ao13 u2.abs.length cap14] 73) :: Rr) bD aJ := aO
 refine ck aK 78 #[pt d 0, .bool u2.neg, .slice N (gtwinS u2.abs).length O] ?_
 refine (ggive_fun (⟨false, []⟩ : BInt) u2.neg (gtwinS u2.abs) d none 0 N O _ _ _ _ _ _ (SlR.nil _ _) x P P.fz).mono ?_; rintro _ aP ⟨k, l, z, rfl, m, Q, hm⟩; refine ⟨_, rfl, ?_⟩; intro b6 aQ; have aR := hm
 replace hs11 := hs11.mono m
 replace hs15 := hs15.mono m
 replace j := j.mono m
 replace p := p.mono m
 replace f := Fz.le.trans f m
 have A : Mem B [] w0 Z0 ((.row d [.bool (ggive (⟨false, []⟩ : BInt) u2.neg (gtwinS u2.abs)).neg, .slice k (ggive (⟨false, []⟩ : BInt) u2.neg (gtwinS u2.abs)).abs.length l] 73) :: (.row c [.bool (ggive (⟨false, []⟩ : BInt) u1.neg (gtwinS u1.abs)).neg, .slice g (ggive (⟨false, []⟩ : BInt) u1.neg (gtwinS u1.abs)).abs.length h] 73) :: (.row b1 (e75Ne u0 ao2 cap3 ao5 cap6) 75) :: (.row b8 [.bool u1.neg, .slice ao9 u1.abs.length cap10] 73) :: (.row b12 [.bool u2.neg, .slice ao13 u2.abs.length cap14] 73) :: Rr) z aP := aR
 refine nl (qnI (aN _ _ (A.cst p [4]) ?_))
 refine cS aQ 1 [] [] [(4, pt d 0)] ?_; intro b7 aS
 refine nS (aG _ _ ?_)
 refine t_ (r_ (ra1 aS (pt d 0) ?_))
 refine ⟨_, rfl, ?_⟩; intro b9 aT
 refine bt aT A 2 [] [] [(7, pt c 0), (8, pt d 0)] ?_; intro ca aU
 have R : Mem B [] w0 Z0 ((.row d [.bool (ggive (⟨false, []⟩ : BInt) u2.neg (gtwinS u2.abs)).neg, .slice k (ggive (⟨false, []⟩ : BInt) u2.neg (gtwinS u2.abs)).abs.length l] 73) :: (.row c [.bool (ggive (⟨false, []⟩ : BInt) u1.neg (gtwinS u1.abs)).neg, .slice g (ggive (⟨false, []⟩ : BInt) u1.neg (gtwinS u1.abs)).abs.length h] 73) :: (.row b1 (e75Ne u0 ao2 cap3 ao5 cap6) 75) :: (.row b8 [.bool u1.neg, .slice ao9 u1.abs.length cap10] 73) :: (.row b12 [.bool u2.neg, .slice ao13 u2.abs.length cap14] 73) :: Rr) z aP := A
 apply ad
 refine sqH ?_; intro bE aV
 refine bt aU R 6 [1] [] [(28, .agg #[.bool (ggive (⟨false, []⟩ : BInt) u1.neg (gtwinS u1.abs)).neg, .slice g (ggive (⟨false, []⟩ : BInt) u1.neg (gtwinS u1.abs)).abs.length h]), (30, pt b1 0)] ?_; intro cb S
 refine sx S R 2 [.bool (ggive (⟨false, []⟩ : BInt) u1.neg (gtwinS u1.abs)).neg, .slice g (ggive (⟨false, []⟩ : BInt) u1.neg (gtwinS u1.abs)).abs.length h, .bool u0.b.neg, .slice ao5 u0.b.abs.length cap6] 0 ?_; intro bF aW
 have T : Mem B [] w0 Z0 ((.row d [.bool (ggive (⟨false, []⟩ : BInt) u2.neg (gtwinS u2.abs)).neg, .slice k (ggive (⟨false, []⟩ : BInt) u2.neg (gtwinS u2.abs)).abs.length l] 73) :: (.row c [.bool (ggive (⟨false, []⟩ : BInt) u1.neg (gtwinS u1.abs)).neg, .slice g (ggive (⟨false, []⟩ : BInt) u1.neg (gtwinS u1.abs)).abs.length h] 73) :: (.row b1 [.bool (ggive (⟨false, []⟩ : BInt) u1.neg (gtwinS u1.abs)).neg, .slice g (ggive (⟨false, []⟩ : BInt) u1.neg (gtwinS u1.abs)).abs.length h, .bool u0.b.neg, .slice ao5 u0.b.abs.length cap6] 75) :: (.row b8 [.bool u1.neg, .slice ao9 u1.abs.length cap10] 73) :: (.row b12 [.bool u2.neg, .slice ao13 u2.abs.length cap14] 73) :: Rr) z bF := aW
 apply aV
 refine sqH ?_; intro bG aX
 refine bt S T 6 [0] [] [(34, .agg #[.bool (ggive (⟨false, []⟩ : BInt) u2.neg (gtwinS u2.abs)).neg, .slice k (ggive (⟨false, []⟩ : BInt) u2.neg (gtwinS u2.abs)).abs.length l]), (36, pt b1 2)] ?_; intro cc U
 refine sx U T 2 [.bool (ggive (⟨false, []⟩ : BInt) u1.neg (gtwinS u1.abs)).neg, .slice g (ggive (⟨false, []⟩ : BInt) u1.neg (gtwinS u1.abs)).abs.length h, .bool (ggive (⟨false, []⟩ : BInt) u2.neg (gtwinS u2.abs)).neg, .slice k (ggive (⟨false, []⟩ : BInt) u2.neg (gtwinS u2.abs)).abs.length l] 2 ?_; intro bH aY
 have V : Mem B [] w0 Z0 ((.row d [.bool (ggive (⟨false, []⟩ : BInt) u2.neg (gtwinS u2.abs)).neg, .slice k (ggive (⟨false, []⟩ : BInt) u2.neg (gtwinS u2.abs)).abs.length l] 73) :: (.row c [.bool (ggive (⟨false, []⟩ : BInt) u1.neg (gtwinS u1.abs)).neg, .slice g (ggive (⟨false, []⟩ : BInt) u1.neg (gtwinS u1.abs)).abs.length h] 73) :: (.row b1 [.bool (ggive (⟨false, []⟩ : BInt) u1.neg (gtwinS u1.abs)).neg, .slice g (ggive (⟨false, []⟩ : BInt) u1.neg (gtwinS u1.abs)).abs.length h, .bool (ggive (⟨false, []⟩ : BInt) u2.neg (gtwinS u2.abs)).neg, .slice k (ggive (⟨false, []⟩ : BInt) u2.neg (gtwinS u2.abs)).abs.length l] 75) :: (.row b8 [.bool u1.neg, .slice ao9 u1.abs.length cap10] 73) :: (.row b12 [.bool u2.neg, .slice ao13 u2.abs.length cap14] 73) :: Rr) z bH := aY
 apply aX
 refine sqH ?_; intro bI aZ
 refine s1 U 37 (pt b1 0) ?_; intro cd a1
 obtain ⟨bJ, a2⟩ := bA
 refine ck a1 101 #[pt b1 0] ?_
 obtain ⟨y, bK, a3⟩ := hxq a2
 have W := rnorm_fun (⟨(ggive (⟨false, []⟩ : BInt) u1.neg (gtwinS u1.abs)), (ggive (⟨false, []⟩ : BInt) u2.neg (gtwinS u2.abs))⟩ : BRat) bJ b1 g h k l _ _ _ _ _ _ j Q (V.perm (pk 2 rfl)) V.fz; rw [bK] at W; refine W.mono ?_; rintro _ bL ⟨a4, a5, a6, a7, a8, rfl, n, a9, ba, hm⟩; refine ⟨_, rfl, ?_⟩; intro ce bb; have bc := hm
 replace hs11 := hs11.mono n
 replace hs15 := hs15.mono n
 replace f := Fz.le.trans f n
 have bM : Mem B [] w0 Z0 ((.row b1 (e75Ne y a4 a5 a6 a7) 75) :: (.row d [.bool (ggive (⟨false, []⟩ : BInt) u2.neg (gtwinS u2.abs)).neg, .slice k (ggive (⟨false, []⟩ : BInt) u2.neg (gtwinS u2.abs)).abs.length l] 73) :: (.row c [.bool (ggive (⟨false, []⟩ : BInt) u1.neg (gtwinS u1.abs)).neg, .slice g (ggive (⟨false, []⟩ : BInt) u1.neg (gtwinS u1.abs)).abs.length h] 73) :: (.row b8 [.bool u1.neg, .slice ao9 u1.abs.length cap10] 73) :: (.row b12 [.bool u2.neg, .slice ao13 u2.abs.length cap14] 73) :: Rr) a8 bL := bc
 have bN := a3 (a9.small) (ba.small)
 refine s1 bb 6 (pt b1 0) ?_; intro cf bO
 apply aZ
 exact r_ (ra1 bO (pt b1 0) ⟨(y, u1, u2), a4, a5, a6, a7, ao9, cap10, ao13, cap14, a8, rfl, bN, f, a9, ba, hs11, hs15, bM.kp⟩)
end Go.Proofs.YtdndfbamhnchfaaGreatDoor
