/- Texts put together (pure ones, or walks made by program). -/
import Derived.Test.YtmnlahbngbigdaaGreatDoorK0
import Derived.Test.YtmnlahbngbigdaaGreatDoorK1
import Derived.Test.YtmnlahbngbigdaaGreatDoorK2
import Derived.Test.YtmnlahbngbigdaaGreatDoorK3
import Derived.Test.YtmnlahbngbigdaaGreatDoorK4
import Derived.Shelf.Lay
import Derived.Ground.NamesProg
import Derived.Shelf.Strings.Repeat
set_option linter.unusedVariables false
set_option linter.unusedSimpArgs false
set_option linter.defProp false
set_option maxRecDepth 100000
set_option maxHeartbeats 0
namespace Go.Proofs.YtmnlahbngbigdaaGreatDoor
open Go.Sy Go.RowKit
def gtrim_fun (u0 : List Int) (ao1 : Option Addr) (cap2 : Nat) (Z : Fz) (w : World) (hs3 : SlR (tyInt .u32) Z ao1 cap2 u0) (hZ : Z.on w) := fc_ (gtrim_walk u0 ao1 cap2 Z w hs3 hZ (gtrim_ok u0))
def glength_fun (u0 : List Int) (hpre : u0 = ws (wv u0) ∧ u0.length ≤ 1000000) (ao1 : Option Addr) (cap2 : Nat) (Z : Fz) (w : World) (hs3 : SlR (tyInt .u32) Z ao1 cap2 u0) (hZ : Z.on w) := f_ (glength_walk u0 ao1 cap2 Z w hs3 hZ (glength_ok u0 hpre))
theorem gtwin_walk (u0 : List Int) (ao1 : Option Addr) (cap2 : Nat) (Z : Fz) (w : World) (hs3 : SlR (tyInt .u32) Z ao1 cap2 u0) (hZ : Z.on w) {K : (List Int) → Prop} (hp : gtwin_vc u0 K) : Calls Tryz.prog 111 #[.slice ao1 u0.length cap2] w fun e w' => ∃ (r : (List Int)) (ao1001 : Option Addr) (cap1002 : Nat) (Z' : Fz), e = .returned (.slice ao1001 r.length cap1002) ∧ K r ∧ Mem w.heap.size [] w Z [.own (tyInt .u32) 133 ao1001 cap1002 r] Z' w' := by
 refine enter0 Tryz.func111 rfl rfl (by kernel_rfl) ?_; intro u f; have c := Mem.start w Z hZ
 have l := hp (hs3.small)
 refine sqB f c [] [] [] ?_; intro x g
 refine sqH ?_; intro m h
 refine s1 g 3 (.slice ao1 u0.length cap2) ?_; intro y i
 have d : Mem w.heap.size [] w Z [.own (tyInt .u32) 133 none 0 ([] : List Int)] Z w := c.addNil (tyInt .u32) 133 (by decide)
 obtain ⟨n, o⟩ := l
 refine ap i d 0 (T := (tyInt .u32)) (xs := ([] : List Int)) (ys := u0) (ao := none) (cap := 0) (ao2 := ao1) (cap2 := cap2) (t := 100) (e := 133) (bytes := 4) (nog rfl _) rfl (by kernel_rfl) rfl (by kernel_rfl) (by kernel_rfl) (by kernel_rfl) rfl (Src.fz (by decide) d.fz hs3) n ?_; intro a b z p A j k
 have q : Mem w.heap.size [] w Z [.own (tyInt .u32) 133 a b (([] : List Int) ++ u0)] Z p := k
 refine s1 j 2 (.slice a (([] : List Int) ++ u0).length b) ?_; intro B s
 apply h
 exact r_ (ra1 s (.slice a (([] : List Int) ++ u0).length b) ⟨([] : List Int) ++ u0, a, b, Z, rfl, o, q.kp⟩)
theorem gwords_walk (u0 : Int)  (Z : Fz) (w : World)  (hZ : Z.on w) {K : (List Int) → Prop} (hp : gwords_vc u0 K) : Calls Tryz.prog 109 #[y6 u0] w fun e w' => ∃ (r : (List Int)) (ao1001 : Option Addr) (cap1002 : Nat) (Z' : Fz), e = .returned (.slice ao1001 r.length cap1002) ∧ K r ∧ SlR (tyInt .u32) Z' ao1001 cap1002 r ∧ Mem w.heap.size [] w Z [] Z' w' := by
 refine enter0 Tryz.func109 rfl rfl (by kernel_rfl) ?_; intro H j; have a := Mem.start w Z hZ
 refine sqB j a [] [] [] ?_; intro I k
 refine sqH ?_; intro z l
 refine bt k a 5 [] [] [(4, .int .u32 (wu32 u0)), (7, .int .u32 (wu32 (bShr .u64 u0 32)))] ?_; intro J m
 refine nw m a (fun b => .slice (sm b) 2 2) [.int .u32 (wu32 u0), .int .u32 (wu32 (bShr .u64 u0 32))] 133 ?_; intro d L n o p
 have A : Mem w.heap.size [] w Z [.own (tyInt .u32) 133 (sm d) 2 ([wu32 u0, wu32 (bShr .u64 u0 32)] : List Int)] Z n := p.rowOwn (T := (tyInt .u32)) (xs := ([wu32 u0, wu32 (bShr .u64 u0 32)] : List Int)) 0 rfl (by decide) (by show 2 ≤ lim; decide) ((RepAll.one (T := (tyInt .u32)) (x := wu32 u0) rfl).append (RepAll.one (T := (tyInt .u32)) (x := wu32 (bShr .u64 u0 32)) rfl))
 obtain ⟨B, C, q, f⟩ := A.freeze 0 rfl
 have g : Mem w.heap.size [] w Z [] B n := q
 refine ck o 110 #[.slice (sm d) ([wu32 u0, wu32 (bShr .u64 u0 32)] : List Int).length 2] ?_
 refine (gtrim_fun ([wu32 u0, wu32 (bShr .u64 u0 32)] : List Int) (sm d) 2 _ _ f g.fz).mono ?_; rintro _ D ⟨h, i, s, rfl, t, hm⟩; refine ⟨_, rfl, ?_⟩; intro M u; have v := g.callZ hm
 have E : Mem w.heap.size [] w Z [] s D := v
 have F := hp (t.small)
 refine s1 u 2 (.slice h (gtrimS ([wu32 u0, wu32 (bShr .u64 u0 32)] : List Int)).length i) ?_; intro N G
 apply l
 exact r_ (ra1 G (.slice h (gtrimS ([wu32 u0, wu32 (bShr .u64 u0 32)] : List Int)).length i) ⟨(gtrimS ([wu32 u0, wu32 (bShr .u64 u0 32)] : List Int)), h, i, s, rfl, F, t, E.kp⟩)
theorem gadd_walk (u0 : List Int) (u1 : List Int) (ao1 : Option Addr) (cap2 : Nat) (ao4 : Option Addr) (cap5 : Nat) (Z : Fz) (w : World) (hs3 : SlR (tyInt .u32) Z ao1 cap2 u0) (hs6 : SlR (tyInt .u32) Z ao4 cap5 u1) (hZ : Z.on w) {K : (List Int) → Prop} (hp : gadd_vc u0 u1 K) : Calls Tryz.prog 107 #[.slice ao1 u0.length cap2, .slice ao4 u1.length cap5] w fun e w' => ∃ (r : (List Int)) (ao1001 : Option Addr) (cap1002 : Nat) (Z' : Fz), e = .returned (.slice ao1001 r.length cap1002) ∧ K r ∧ SlR (tyInt .u32) Z' ao1001 cap1002 r ∧ Mem w.heap.size [] w Z [] Z' w' := by
 refine enter0 Tryz.func107 rfl rfl (by kernel_rfl) ?_; intro a0 am; have o := Mem.start w Z hZ
 have B := hp (hs3.small) (hs6.small)
 refine sqB am o [] [] [] ?_; intro d2 ao
 refine s_ (sqB ao o [] [] [(12, .bool (decide ((u0.length : Int) < (u1.length : Int))))] ?_); intro d3 q
 refine c_ q B (fun _ cb => ?_) fun _ c7 => ?_
 ·
  refine rgB q o [] [] [(0, .slice ao4 u1.length cap5), (1, .slice ao1 u0.length cap2)] ?_; intro d4 ap
  refine t_ (sqH ?_); intro cc aq
  refine bt ap o 3 [] [] [(17, i6 (w64 ((u1.length : Int) + 1)))] ?_; intro d5 ar
  obtain ⟨d6, ce⟩ := cb
  refine mks ar o (T := (tyInt .u32)) (w64 ((u1.length : Int) + 1)) (w64 ((u1.length : Int) + 1)) (k := .i64) (k' := .i64) (e := 133) (bytes := 4) (zs := [.int .u32 0]) (z := 0) (by simp only [lim]; omega) (nog rfl _) rfl (by kernel_rfl) rfl (by kernel_rfl) (by kernel_rfl) (by kernel_rfl) (by kernel_rfl) rfl ?_; intro f d7 cf au av
  have C : Mem w.heap.size [] w Z [.own (tyInt .u32) 133 (sm f) (w64 ((u1.length : Int) + 1)).toNat (List.replicate (w64 ((u1.length : Int) + 1)).toNat (0 : Int))] Z cf := av
  refine s1 au 5 (.slice (sm f) (List.replicate (w64 ((u1.length : Int) + 1)).toNat (0 : Int)).length (w64 ((u1.length : Int) + 1)).toNat) ?_; intro d8 aw
  apply aq
  refine sqB aw C [] [] [(6, y6 0)] ?_; intro d9 ax
  refine s_ (sqB ax C [] [] [(7, i6 0)] ?_); intro ay az
  apply b_
  have aA : Fr 58 [] [⟨0, [], .slice ao4 u1.length cap5⟩, ⟨1, [], .slice ao1 u0.length cap2⟩, ⟨5, [], .slice (sm f) (List.replicate (w64 ((u1.length : Int) + 1)).toNat (0 : Int)).length (w64 ((u1.length : Int) + 1)).toNat⟩, ⟨6, [], y6 0⟩, ⟨7, [], i6 0⟩] ay := az.reg
  obtain ⟨cg, ch, ci, cj⟩ := ce
  refine lp (ι := Int × Int × (List Int)) (fun s => [⟨0, [], .slice ao4 u1.length cap5⟩, ⟨1, [], .slice ao1 u0.length cap2⟩, ⟨5, [], .slice (sm f) s.2.2.length (w64 ((u1.length : Int) + 1)).toNat⟩, ⟨6, [], y6 s.1⟩, ⟨7, [], i6 s.2.1⟩]) (fun s => [.own (tyInt .u32) 133 (sm f) (w64 ((u1.length : Int) + 1)).toNat s.2.2]) (fun s => Z) (fun s => cg s.1 s.2.1 s.2.2) (fun s => ch s.1 s.2.1 s.2.2) ⟨0, 0, (List.replicate (w64 ((u1.length : Int) + 1)).toNat (0 : Int))⟩ ci (by exact aA.reg) (by exact C) ?_
  rintro ⟨a, b, g⟩ cl cm cn aC aD
  have D := cj a b g cl
  refine s_ (sqB aC aD [] [] [(22, .bool (decide (b < (u1.length : Int))))] ?_); intro ea v
  refine c_ v D (fun _ co => ?_) fun _ cU => ?_
  ·
   refine k_ (s_ (b_ (sqH ?_))); intro cp aF
   refine bt v aD 3 [] [] [(25, y6 a), (26, .slice ao4 u1.length cap5), (27, i6 b)] ?_; intro eb aG
   obtain ⟨cq, aH⟩ := co
   refine ix_ aG hs6 b cq .i64 133 4 ?_; intro aI aJ cr c ec cs ct cu aK
   have E := aH c cs
   obtain rfl : cr = ([.int .u32 c] : List Value) := cu
   refine z1 aK aD 29 ct 0 (.int .u32 c) rfl ?_; intro ed aL
   refine bt aL aD 3 [] [] [(6, y6 (wu64 (a + (wu64 c))))] ?_; intro ee aM
   apply aF
   refine s_ (sqB aM aD [] [] [(35, .bool (decide (b < (u0.length : Int))))] ?_); intro ef x
   refine c_ x E (fun _ cv => ?_) fun _ cM => ?_
   ·
    refine rgH ?_; intro cw aN
    refine bt x aD 3 [] [] [(36, y6 (wu64 (a + (wu64 c)))), (37, .slice ao1 u0.length cap2), (38, i6 b)] ?_; intro eg aO
    obtain ⟨cx, aP⟩ := cv
    refine ix_ aO hs3 b cx .i64 133 4 ?_; intro cy cz cA m eh cB cC cD aQ
    have cE := aP m cB
    obtain rfl : cA = ([.int .u32 m] : List Value) := cD
    refine z1 aQ aD 40 cC 0 (.int .u32 m) rfl ?_; intro ei aR
    refine bt aR aD 3 [] [] [(6, y6 (wu64 ((wu64 (a + (wu64 c))) + (wu64 m))))] ?_; intro ej aS
    apply aN
    refine t_ (sqH ?_); intro cF aT
    refine bt aS aD 4 [] [] [(43, .slice (sm f) g.length (w64 ((u1.length : Int) + 1)).toNat), (44, i6 b), (46, .int .u32 (wu32 (wu64 ((wu64 (a + (wu64 c))) + (wu64 m)))))] ?_; intro ek aU
    obtain ⟨cG, aV⟩ := cE
    refine ixo aU aD 0 (T := (tyInt .u32)) (xs := g) b cG (k := .i64) (e := 133) (bytes := 4) (nog rfl _) rfl (by kernel_rfl) rfl (by kernel_rfl) (by kernel_rfl) rfl (by kernel_rfl) ?_; intro cH cI cJ F
    obtain rfl : f = cH := by simpa using cJ
    refine so F aD 0 (T := (tyInt .u32)) (xs := g) b.toNat (wu32 (wu64 ((wu64 (a + (wu64 c))) + (wu64 m)))) (u := .int .u32 (wu32 (wu64 ((wu64 (a + (wu64 c))) + (wu64 m))))) (nog rfl _) rfl rfl (by kernel_rfl) rfl (by kernel_rfl) rfl (by kernel_rfl) (by first | omega | (simp only [List.length_set] at *; omega)) rfl ?_; intro cK aW
    have aX : Fr 58 [] [⟨0, [], .slice ao4 u1.length cap5⟩, ⟨1, [], .slice ao1 u0.length cap2⟩, ⟨5, [], .slice (sm f) (g.set b.toNat (wu32 (wu64 ((wu64 (a + (wu64 c))) + (wu64 m))))).length (w64 ((u1.length : Int) + 1)).toNat⟩, ⟨6, [], y6 (wu64 ((wu64 (a + (wu64 c))) + (wu64 m)))⟩, ⟨7, [], i6 b⟩, ⟨22, [], .bool (decide (b < (u1.length : Int)))⟩, ⟨25, [], y6 a⟩, ⟨26, [], .slice ao4 u1.length cap5⟩, ⟨27, [], i6 b⟩, ⟨28, [], pt aI aJ⟩, ⟨29, [], .int .u32 c⟩, ⟨35, [], .bool (decide (b < (u0.length : Int)))⟩, ⟨36, [], y6 (wu64 (a + (wu64 c)))⟩, ⟨37, [], .slice ao1 u0.length cap2⟩, ⟨38, [], i6 b⟩, ⟨39, [], pt cy cz⟩, ⟨40, [], .int .u32 m⟩, ⟨43, [], .slice (sm f) (g.set b.toNat (wu32 (wu64 ((wu64 (a + (wu64 c))) + (wu64 m))))).length (w64 ((u1.length : Int) + 1)).toNat⟩, ⟨44, [], i6 b⟩, ⟨46, [], .int .u32 (wu32 (wu64 ((wu64 (a + (wu64 c))) + (wu64 m))))⟩, ⟨47, [], .pointer (some ⟨f, b.toNat * 1, none⟩)⟩] cI := by (try simp only [List.length_set] at F); (try simp only [List.length_set]); exact F.reg
    have V : Mem w.heap.size [] w Z [.own (tyInt .u32) 133 (sm f) (w64 ((u1.length : Int) + 1)).toNat (g.set b.toNat (wu32 (wu64 ((wu64 (a + (wu64 c))) + (wu64 m)))))] Z cK := aW
    apply aT
    refine rgB aX V [] [] [(6, y6 (bShr .u64 (wu64 ((wu64 (a + (wu64 c))) + (wu64 m))) 32))] ?_; intro el aY
    refine j_ (t_ (rgB aY V [] [] [(7, i6 (w64 (b + 1)))] ?_)); intro em cL
    exact d_ ⟨⟨bShr .u64 (wu64 ((wu64 (a + (wu64 c))) + (wu64 m))) 32, w64 (b + 1), g.set b.toNat (wu32 (wu64 ((wu64 (a + (wu64 c))) + (wu64 m))))⟩, aV.1, aV.2, (cL.reg).anyβ _ (by kernel_rfl), V.kp⟩
   refine k_ (sqH ?_); intro cN aZ
   refine bt x aD 4 [] [] [(43, .slice (sm f) g.length (w64 ((u1.length : Int) + 1)).toNat), (44, i6 b), (46, .int .u32 (wu32 (wu64 (a + (wu64 c)))))] ?_; intro en a1
   obtain ⟨cO, a2⟩ := cM
   refine ixo a1 aD 0 (T := (tyInt .u32)) (xs := g) b cO (k := .i64) (e := 133) (bytes := 4) (nog rfl _) rfl (by kernel_rfl) rfl (by kernel_rfl) (by kernel_rfl) rfl (by kernel_rfl) ?_; intro cP cQ cR G
   obtain rfl : f = cP := by simpa using cR
   refine so G aD 0 (T := (tyInt .u32)) (xs := g) b.toNat (wu32 (wu64 (a + (wu64 c)))) (u := .int .u32 (wu32 (wu64 (a + (wu64 c))))) (nog rfl _) rfl rfl (by kernel_rfl) rfl (by kernel_rfl) rfl (by kernel_rfl) (by first | omega | (simp only [List.length_set] at *; omega)) rfl ?_; intro cS a3
   have a4 : Fr 58 [] [⟨0, [], .slice ao4 u1.length cap5⟩, ⟨1, [], .slice ao1 u0.length cap2⟩, ⟨5, [], .slice (sm f) (g.set b.toNat (wu32 (wu64 (a + (wu64 c))))).length (w64 ((u1.length : Int) + 1)).toNat⟩, ⟨6, [], y6 (wu64 (a + (wu64 c)))⟩, ⟨7, [], i6 b⟩, ⟨22, [], .bool (decide (b < (u1.length : Int)))⟩, ⟨25, [], y6 a⟩, ⟨26, [], .slice ao4 u1.length cap5⟩, ⟨27, [], i6 b⟩, ⟨28, [], pt aI aJ⟩, ⟨29, [], .int .u32 c⟩, ⟨35, [], .bool (decide (b < (u0.length : Int)))⟩, ⟨43, [], .slice (sm f) (g.set b.toNat (wu32 (wu64 (a + (wu64 c))))).length (w64 ((u1.length : Int) + 1)).toNat⟩, ⟨44, [], i6 b⟩, ⟨46, [], .int .u32 (wu32 (wu64 (a + (wu64 c))))⟩, ⟨47, [], .pointer (some ⟨f, b.toNat * 1, none⟩)⟩] cQ := by (try simp only [List.length_set] at G); (try simp only [List.length_set]); exact G.reg
   have W : Mem w.heap.size [] w Z [.own (tyInt .u32) 133 (sm f) (w64 ((u1.length : Int) + 1)).toNat (g.set b.toNat (wu32 (wu64 (a + (wu64 c)))))] Z cS := a3
   apply aZ
   refine rgB a4 W [] [] [(6, y6 (bShr .u64 (wu64 (a + (wu64 c))) 32))] ?_; intro eo a5
   refine j_ (t_ (rgB a5 W [] [] [(7, i6 (w64 (b + 1)))] ?_)); intro ep cT
   exact d_ ⟨⟨bShr .u64 (wu64 (a + (wu64 c))) 32, w64 (b + 1), g.set b.toNat (wu32 (wu64 (a + (wu64 c))))⟩, a2.1, a2.2, (cT.reg).anyβ _ (by kernel_rfl), W.kp⟩
  refine x_ (y_ (y_ (z_ (t_ (sqH ?_))))); intro cV a6
  refine bt v aD 5 [] [] [(50, .slice (sm f) g.length (w64 ((u1.length : Int) + 1)).toNat), (52, i6 (u1.length : Int)), (54, .int .u32 (wu32 a))] ?_; intro eq a7
  obtain ⟨cW, a8⟩ := cU
  refine ixo a7 aD 0 (T := (tyInt .u32)) (xs := g) (u1.length : Int) cW (k := .i64) (e := 133) (bytes := 4) (nog rfl _) rfl (by kernel_rfl) rfl (by kernel_rfl) (by kernel_rfl) rfl (by kernel_rfl) ?_; intro cX cY cZ H
  obtain rfl : f = cX := by simpa using cZ
  refine so H aD 0 (T := (tyInt .u32)) (xs := g) (u1.length : Int).toNat (wu32 a) (u := .int .u32 (wu32 a)) (nog rfl _) rfl rfl (by kernel_rfl) rfl (by kernel_rfl) rfl (by kernel_rfl) (by first | omega | (simp only [List.length_set] at *; omega)) rfl ?_; intro a9 ba
  have bb : Fr 58 [] [⟨0, [], .slice ao4 u1.length cap5⟩, ⟨1, [], .slice ao1 u0.length cap2⟩, ⟨5, [], .slice (sm f) (g.set (u1.length : Int).toNat (wu32 a)).length (w64 ((u1.length : Int) + 1)).toNat⟩, ⟨6, [], y6 a⟩, ⟨7, [], i6 b⟩, ⟨22, [], .bool (decide (b < (u1.length : Int)))⟩, ⟨50, [], .slice (sm f) (g.set (u1.length : Int).toNat (wu32 a)).length (w64 ((u1.length : Int) + 1)).toNat⟩, ⟨52, [], i6 (u1.length : Int)⟩, ⟨54, [], .int .u32 (wu32 a)⟩, ⟨55, [], .pointer (some ⟨f, (u1.length : Int).toNat * 1, none⟩)⟩] cY := by (try simp only [List.length_set] at H); (try simp only [List.length_set]); exact H.reg
  have c0 : Mem w.heap.size [] w Z [.own (tyInt .u32) 133 (sm f) (w64 ((u1.length : Int) + 1)).toNat (g.set (u1.length : Int).toNat (wu32 a))] Z a9 := ba
  apply a6
  refine sqH ?_; intro c1 bc
  refine s1 bb 56 (.slice (sm f) (g.set (u1.length : Int).toNat (wu32 a)).length (w64 ((u1.length : Int) + 1)).toNat) ?_; intro er bd
  obtain ⟨c2, X, be, Y⟩ := c0.freeze 0 rfl
  have aa : Mem w.heap.size [] w Z [] c2 a9 := be
  refine ck bd 110 #[.slice (sm f) (g.set (u1.length : Int).toNat (wu32 a)).length (w64 ((u1.length : Int) + 1)).toNat] ?_
  refine (gtrim_fun (g.set (u1.length : Int).toNat (wu32 a)) (sm f) (w64 ((u1.length : Int) + 1)).toNat _ _ Y aa.fz).mono ?_; rintro _ c3 ⟨ab, ac, bf, rfl, bg, hm⟩; refine ⟨_, rfl, ?_⟩; intro es bh; have bi := aa.callZ hm
  have c4 : Mem w.heap.size [] w Z [] bf c3 := bi
  have c5 := a8 (bg.small)
  refine s1 bh 4 (.slice ab (gtrimS (g.set (u1.length : Int).toNat (wu32 a))).length ac) ?_; intro et c6
  apply bc
  exact r_ (ra1 c6 (.slice ab (gtrimS (g.set (u1.length : Int).toNat (wu32 a))).length ac) ⟨(gtrimS (g.set (u1.length : Int).toNat (wu32 a))), ab, ac, bf, rfl, c5, bg, c4.kp⟩)
 refine k_ (sqH ?_); intro c8 bj
 refine bt q o 3 [] [] [(17, i6 (w64 ((u0.length : Int) + 1)))] ?_; intro eu bk
 obtain ⟨ev, c9⟩ := c7
 refine mks bk o (T := (tyInt .u32)) (w64 ((u0.length : Int) + 1)) (w64 ((u0.length : Int) + 1)) (k := .i64) (k' := .i64) (e := 133) (bytes := 4) (zs := [.int .u32 0]) (z := 0) (by simp only [lim]; omega) (nog rfl _) rfl (by kernel_rfl) rfl (by kernel_rfl) (by kernel_rfl) (by kernel_rfl) (by kernel_rfl) rfl ?_; intro h ew da bl bm
 have J : Mem w.heap.size [] w Z [.own (tyInt .u32) 133 (sm h) (w64 ((u0.length : Int) + 1)).toNat (List.replicate (w64 ((u0.length : Int) + 1)).toNat (0 : Int))] Z da := bm
 refine s1 bl 5 (.slice (sm h) (List.replicate (w64 ((u0.length : Int) + 1)).toNat (0 : Int)).length (w64 ((u0.length : Int) + 1)).toNat) ?_; intro ex bn
 apply bj
 refine sqB bn J [] [] [(6, y6 0)] ?_; intro ey bo
 refine s_ (sqB bo J [] [] [(7, i6 0)] ?_); intro bp bq
 apply b_
 have br : Fr 58 [] [⟨0, [], .slice ao1 u0.length cap2⟩, ⟨1, [], .slice ao4 u1.length cap5⟩, ⟨5, [], .slice (sm h) (List.replicate (w64 ((u0.length : Int) + 1)).toNat (0 : Int)).length (w64 ((u0.length : Int) + 1)).toNat⟩, ⟨6, [], y6 0⟩, ⟨7, [], i6 0⟩] bp := bq.reg
 obtain ⟨db, dc, dd, de⟩ := c9
 refine lp (ι := Int × Int × (List Int)) (fun s => [⟨0, [], .slice ao1 u0.length cap2⟩, ⟨1, [], .slice ao4 u1.length cap5⟩, ⟨5, [], .slice (sm h) s.2.2.length (w64 ((u0.length : Int) + 1)).toNat⟩, ⟨6, [], y6 s.1⟩, ⟨7, [], i6 s.2.1⟩]) (fun s => [.own (tyInt .u32) 133 (sm h) (w64 ((u0.length : Int) + 1)).toNat s.2.2]) (fun s => Z) (fun s => db s.1 s.2.1 s.2.2) (fun s => dc s.1 s.2.1 s.2.2) ⟨0, 0, (List.replicate (w64 ((u0.length : Int) + 1)).toNat (0 : Int))⟩ dd (by exact br.reg) (by exact J) ?_
 rintro ⟨a, b, i⟩ df dg dh bu bv
 have L := de a b i df
 refine s_ (sqB bu bv [] [] [(22, .bool (decide (b < (u0.length : Int))))] ?_); intro ez y
 refine c_ y L (fun _ di => ?_) fun _ dP => ?_
 ·
  refine k_ (s_ (b_ (sqH ?_))); intro dj bx
  refine bt y bv 3 [] [] [(25, y6 a), (26, .slice ao1 u0.length cap2), (27, i6 b)] ?_; intro eA bz
  obtain ⟨dk, bA⟩ := di
  refine ix_ bz hs3 b dk .i64 133 4 ?_; intro bB bC dl d eB dm dn dp bD
  have M := bA d dm
  obtain rfl : dl = ([.int .u32 d] : List Value) := dp
  refine z1 bD bv 29 dn 0 (.int .u32 d) rfl ?_; intro eC bE
  refine bt bE bv 3 [] [] [(6, y6 (wu64 (a + (wu64 d))))] ?_; intro eD bF
  apply bx
  refine s_ (sqB bF bv [] [] [(35, .bool (decide (b < (u1.length : Int))))] ?_); intro eE A
  refine c_ A M (fun _ dq => ?_) fun _ dH => ?_
  ·
   refine rgH ?_; intro dr bG
   refine bt A bv 3 [] [] [(36, y6 (wu64 (a + (wu64 d)))), (37, .slice ao4 u1.length cap5), (38, i6 b)] ?_; intro eF bH
   obtain ⟨ds, bI⟩ := dq
   refine ix_ bH hs6 b ds .i64 133 4 ?_; intro dt du dv n eG dw dx dy bJ
   have dz := bI n dw
   obtain rfl : dv = ([.int .u32 n] : List Value) := dy
   refine z1 bJ bv 40 dx 0 (.int .u32 n) rfl ?_; intro eH bK
   refine bt bK bv 3 [] [] [(6, y6 (wu64 ((wu64 (a + (wu64 d))) + (wu64 n))))] ?_; intro eI bL
   apply bG
   refine t_ (sqH ?_); intro dA bM
   refine bt bL bv 4 [] [] [(43, .slice (sm h) i.length (w64 ((u0.length : Int) + 1)).toNat), (44, i6 b), (46, .int .u32 (wu32 (wu64 ((wu64 (a + (wu64 d))) + (wu64 n)))))] ?_; intro eJ bN
   obtain ⟨dB, bO⟩ := dz
   refine ixo bN bv 0 (T := (tyInt .u32)) (xs := i) b dB (k := .i64) (e := 133) (bytes := 4) (nog rfl _) rfl (by kernel_rfl) rfl (by kernel_rfl) (by kernel_rfl) rfl (by kernel_rfl) ?_; intro dC dD dE N
   obtain rfl : h = dC := by simpa using dE
   refine so N bv 0 (T := (tyInt .u32)) (xs := i) b.toNat (wu32 (wu64 ((wu64 (a + (wu64 d))) + (wu64 n)))) (u := .int .u32 (wu32 (wu64 ((wu64 (a + (wu64 d))) + (wu64 n))))) (nog rfl _) rfl rfl (by kernel_rfl) rfl (by kernel_rfl) rfl (by kernel_rfl) (by first | omega | (simp only [List.length_set] at *; omega)) rfl ?_; intro dF bP
   have bQ : Fr 58 [] [⟨0, [], .slice ao1 u0.length cap2⟩, ⟨1, [], .slice ao4 u1.length cap5⟩, ⟨5, [], .slice (sm h) (i.set b.toNat (wu32 (wu64 ((wu64 (a + (wu64 d))) + (wu64 n))))).length (w64 ((u0.length : Int) + 1)).toNat⟩, ⟨6, [], y6 (wu64 ((wu64 (a + (wu64 d))) + (wu64 n)))⟩, ⟨7, [], i6 b⟩, ⟨22, [], .bool (decide (b < (u0.length : Int)))⟩, ⟨25, [], y6 a⟩, ⟨26, [], .slice ao1 u0.length cap2⟩, ⟨27, [], i6 b⟩, ⟨28, [], pt bB bC⟩, ⟨29, [], .int .u32 d⟩, ⟨35, [], .bool (decide (b < (u1.length : Int)))⟩, ⟨36, [], y6 (wu64 (a + (wu64 d)))⟩, ⟨37, [], .slice ao4 u1.length cap5⟩, ⟨38, [], i6 b⟩, ⟨39, [], pt dt du⟩, ⟨40, [], .int .u32 n⟩, ⟨43, [], .slice (sm h) (i.set b.toNat (wu32 (wu64 ((wu64 (a + (wu64 d))) + (wu64 n))))).length (w64 ((u0.length : Int) + 1)).toNat⟩, ⟨44, [], i6 b⟩, ⟨46, [], .int .u32 (wu32 (wu64 ((wu64 (a + (wu64 d))) + (wu64 n))))⟩, ⟨47, [], .pointer (some ⟨h, b.toNat * 1, none⟩)⟩] dD := by (try simp only [List.length_set] at N); (try simp only [List.length_set]); exact N.reg
   have af : Mem w.heap.size [] w Z [.own (tyInt .u32) 133 (sm h) (w64 ((u0.length : Int) + 1)).toNat (i.set b.toNat (wu32 (wu64 ((wu64 (a + (wu64 d))) + (wu64 n)))))] Z dF := bP
   apply bM
   refine rgB bQ af [] [] [(6, y6 (bShr .u64 (wu64 ((wu64 (a + (wu64 d))) + (wu64 n))) 32))] ?_; intro eK bR
   refine j_ (t_ (rgB bR af [] [] [(7, i6 (w64 (b + 1)))] ?_)); intro eL dG
   exact d_ ⟨⟨bShr .u64 (wu64 ((wu64 (a + (wu64 d))) + (wu64 n))) 32, w64 (b + 1), i.set b.toNat (wu32 (wu64 ((wu64 (a + (wu64 d))) + (wu64 n))))⟩, bO.1, bO.2, (dG.reg).anyβ _ (by kernel_rfl), af.kp⟩
  refine k_ (sqH ?_); intro dI bS
  refine bt A bv 4 [] [] [(43, .slice (sm h) i.length (w64 ((u0.length : Int) + 1)).toNat), (44, i6 b), (46, .int .u32 (wu32 (wu64 (a + (wu64 d)))))] ?_; intro eM bT
  obtain ⟨dJ, bU⟩ := dH
  refine ixo bT bv 0 (T := (tyInt .u32)) (xs := i) b dJ (k := .i64) (e := 133) (bytes := 4) (nog rfl _) rfl (by kernel_rfl) rfl (by kernel_rfl) (by kernel_rfl) rfl (by kernel_rfl) ?_; intro dK dL dM O
  obtain rfl : h = dK := by simpa using dM
  refine so O bv 0 (T := (tyInt .u32)) (xs := i) b.toNat (wu32 (wu64 (a + (wu64 d)))) (u := .int .u32 (wu32 (wu64 (a + (wu64 d))))) (nog rfl _) rfl rfl (by kernel_rfl) rfl (by kernel_rfl) rfl (by kernel_rfl) (by first | omega | (simp only [List.length_set] at *; omega)) rfl ?_; intro dN bV
  have bW : Fr 58 [] [⟨0, [], .slice ao1 u0.length cap2⟩, ⟨1, [], .slice ao4 u1.length cap5⟩, ⟨5, [], .slice (sm h) (i.set b.toNat (wu32 (wu64 (a + (wu64 d))))).length (w64 ((u0.length : Int) + 1)).toNat⟩, ⟨6, [], y6 (wu64 (a + (wu64 d)))⟩, ⟨7, [], i6 b⟩, ⟨22, [], .bool (decide (b < (u0.length : Int)))⟩, ⟨25, [], y6 a⟩, ⟨26, [], .slice ao1 u0.length cap2⟩, ⟨27, [], i6 b⟩, ⟨28, [], pt bB bC⟩, ⟨29, [], .int .u32 d⟩, ⟨35, [], .bool (decide (b < (u1.length : Int)))⟩, ⟨43, [], .slice (sm h) (i.set b.toNat (wu32 (wu64 (a + (wu64 d))))).length (w64 ((u0.length : Int) + 1)).toNat⟩, ⟨44, [], i6 b⟩, ⟨46, [], .int .u32 (wu32 (wu64 (a + (wu64 d))))⟩, ⟨47, [], .pointer (some ⟨h, b.toNat * 1, none⟩)⟩] dL := by (try simp only [List.length_set] at O); (try simp only [List.length_set]); exact O.reg
  have ag : Mem w.heap.size [] w Z [.own (tyInt .u32) 133 (sm h) (w64 ((u0.length : Int) + 1)).toNat (i.set b.toNat (wu32 (wu64 (a + (wu64 d)))))] Z dN := bV
  apply bS
  refine rgB bW ag [] [] [(6, y6 (bShr .u64 (wu64 (a + (wu64 d))) 32))] ?_; intro eN bX
  refine j_ (t_ (rgB bX ag [] [] [(7, i6 (w64 (b + 1)))] ?_)); intro eO dO
  exact d_ ⟨⟨bShr .u64 (wu64 (a + (wu64 d))) 32, w64 (b + 1), i.set b.toNat (wu32 (wu64 (a + (wu64 d))))⟩, bU.1, bU.2, (dO.reg).anyβ _ (by kernel_rfl), ag.kp⟩
 refine x_ (y_ (y_ (z_ (t_ (sqH ?_))))); intro dQ bY
 refine bt y bv 5 [] [] [(50, .slice (sm h) i.length (w64 ((u0.length : Int) + 1)).toNat), (52, i6 (u0.length : Int)), (54, .int .u32 (wu32 a))] ?_; intro eP bZ
 obtain ⟨dR, b0⟩ := dP
 refine ixo bZ bv 0 (T := (tyInt .u32)) (xs := i) (u0.length : Int) dR (k := .i64) (e := 133) (bytes := 4) (nog rfl _) rfl (by kernel_rfl) rfl (by kernel_rfl) (by kernel_rfl) rfl (by kernel_rfl) ?_; intro dS dT dU P
 obtain rfl : h = dS := by simpa using dU
 refine so P bv 0 (T := (tyInt .u32)) (xs := i) (u0.length : Int).toNat (wu32 a) (u := .int .u32 (wu32 a)) (nog rfl _) rfl rfl (by kernel_rfl) rfl (by kernel_rfl) rfl (by kernel_rfl) (by first | omega | (simp only [List.length_set] at *; omega)) rfl ?_; intro b1 b2
 have b3 : Fr 58 [] [⟨0, [], .slice ao1 u0.length cap2⟩, ⟨1, [], .slice ao4 u1.length cap5⟩, ⟨5, [], .slice (sm h) (i.set (u0.length : Int).toNat (wu32 a)).length (w64 ((u0.length : Int) + 1)).toNat⟩, ⟨6, [], y6 a⟩, ⟨7, [], i6 b⟩, ⟨22, [], .bool (decide (b < (u0.length : Int)))⟩, ⟨50, [], .slice (sm h) (i.set (u0.length : Int).toNat (wu32 a)).length (w64 ((u0.length : Int) + 1)).toNat⟩, ⟨52, [], i6 (u0.length : Int)⟩, ⟨54, [], .int .u32 (wu32 a)⟩, ⟨55, [], .pointer (some ⟨h, (u0.length : Int).toNat * 1, none⟩)⟩] dT := by (try simp only [List.length_set] at P); (try simp only [List.length_set]); exact P.reg
 have dV : Mem w.heap.size [] w Z [.own (tyInt .u32) 133 (sm h) (w64 ((u0.length : Int) + 1)).toNat (i.set (u0.length : Int).toNat (wu32 a))] Z b1 := b2
 apply bY
 refine sqH ?_; intro dW b4
 refine s1 b3 56 (.slice (sm h) (i.set (u0.length : Int).toNat (wu32 a)).length (w64 ((u0.length : Int) + 1)).toNat) ?_; intro eQ b5
 obtain ⟨dX, ah, b6, ai⟩ := dV.freeze 0 rfl
 have aj : Mem w.heap.size [] w Z [] dX b1 := b6
 refine ck b5 110 #[.slice (sm h) (i.set (u0.length : Int).toNat (wu32 a)).length (w64 ((u0.length : Int) + 1)).toNat] ?_
 refine (gtrim_fun (i.set (u0.length : Int).toNat (wu32 a)) (sm h) (w64 ((u0.length : Int) + 1)).toNat _ _ ai aj.fz).mono ?_; rintro _ dY ⟨ak, al, b7, rfl, b8, hm⟩; refine ⟨_, rfl, ?_⟩; intro eR b9; have ca := aj.callZ hm
 have dZ : Mem w.heap.size [] w Z [] b7 dY := ca
 have d0 := b0 (b8.small)
 refine s1 b9 4 (.slice ak (gtrimS (i.set (u0.length : Int).toNat (wu32 a))).length al) ?_; intro eS d1
 apply b4
 exact r_ (ra1 d1 (.slice ak (gtrimS (i.set (u0.length : Int).toNat (wu32 a))).length al) ⟨(gtrimS (i.set (u0.length : Int).toNat (wu32 a))), ak, al, b7, rfl, d0, b8, dZ.kp⟩)
theorem gmul_walk (u0 : List Int) (u1 : List Int) (ao1 : Option Addr) (cap2 : Nat) (ao4 : Option Addr) (cap5 : Nat) (Z : Fz) (w : World) (hs3 : SlR (tyInt .u32) Z ao1 cap2 u0) (hs6 : SlR (tyInt .u32) Z ao4 cap5 u1) (hZ : Z.on w) {K : (List Int) → Prop} (hp : gmul_vc u0 u1 K) : Calls Tryz.prog 108 #[.slice ao1 u0.length cap2, .slice ao4 u1.length cap5] w fun e w' => ∃ (r : (List Int)) (ao1001 : Option Addr) (cap1002 : Nat) (Z' : Fz), e = .returned (.slice ao1001 r.length cap1002) ∧ K r ∧ SlR (tyInt .u32) Z' ao1001 cap1002 r ∧ Mem w.heap.size [] w Z [] Z' w' := by
 refine enter0 Tryz.func108 rfl rfl (by kernel_rfl) ?_; intro a0 U; have n := Mem.start w Z hZ
 have A := hp (hs3.small) (hs6.small)
 refine sqB U n [] [] [] ?_; intro ch W
 refine s_ (sqB W n [] [] [(16, .bool (((u0.length : Int) == 0) || ((u1.length : Int) == 0)))] ?_); intro ci q
 refine c_ q A (fun _ a6 => ?_) fun _ a8 => ?_
 ·
  refine sqB q n [] [] [(4, .slice none 0 0)] ?_; intro cj a7
  exact r_ (h_ (ra1 a7 (.slice none 0 0) ⟨[], none, 0, Z, rfl, a6, (SlR.nil _ _), n.kp⟩))
 refine k_ (sqH ?_); intro a9 X
 refine bt q n 5 [] [] [(21, i6 (w64 ((u0.length : Int) + (u1.length : Int))))] ?_; intro cl Y
 obtain ⟨cm, ba⟩ := a8
 refine mks Y n (T := (tyInt .u32)) (w64 ((u0.length : Int) + (u1.length : Int))) (w64 ((u0.length : Int) + (u1.length : Int))) (k := .i64) (k' := .i64) (e := 133) (bytes := 4) (zs := [.int .u32 0]) (z := 0) (by simp only [lim]; omega) (nog rfl _) rfl (by kernel_rfl) rfl (by kernel_rfl) (by kernel_rfl) (by kernel_rfl) (by kernel_rfl) rfl ?_; intro b cn bb aa ab
 have H : Mem w.heap.size [] w Z [.own (tyInt .u32) 133 (sm b) (w64 ((u0.length : Int) + (u1.length : Int))).toNat (List.replicate (w64 ((u0.length : Int) + (u1.length : Int))).toNat (0 : Int))] Z bb := ab
 refine s1 aa 5 (.slice (sm b) (List.replicate (w64 ((u0.length : Int) + (u1.length : Int))).toNat (0 : Int)).length (w64 ((u0.length : Int) + (u1.length : Int))).toNat) ?_; intro co ac
 apply X
 refine s_ (sqB ac H [] [] [(6, i6 0)] ?_); intro ad ae
 apply b_
 have af : Fr 75 [] [⟨0, [], .slice ao1 u0.length cap2⟩, ⟨1, [], .slice ao4 u1.length cap5⟩, ⟨5, [], .slice (sm b) (List.replicate (w64 ((u0.length : Int) + (u1.length : Int))).toNat (0 : Int)).length (w64 ((u0.length : Int) + (u1.length : Int))).toNat⟩, ⟨6, [], i6 0⟩] ad := ae.reg
 obtain ⟨bc, bd, be, bf⟩ := ba
 refine lp (ι := Int × (List Int)) (fun s => [⟨0, [], .slice ao1 u0.length cap2⟩, ⟨1, [], .slice ao4 u1.length cap5⟩, ⟨5, [], .slice (sm b) s.2.length (w64 ((u0.length : Int) + (u1.length : Int))).toNat⟩, ⟨6, [], i6 s.1⟩]) (fun s => [.own (tyInt .u32) 133 (sm b) (w64 ((u0.length : Int) + (u1.length : Int))).toNat s.2]) (fun s => Z) (fun s => bc s.1 s.2) (fun s => bd s.1 s.2) ⟨0, (List.replicate (w64 ((u0.length : Int) + (u1.length : Int))).toNat (0 : Int))⟩ be (by exact af.reg) (by exact H) ?_
 rintro ⟨a, l⟩ bg bh ah ai aj
 have B := bf a l bg
 refine s_ (sqB ai aj [] [] [(26, .bool (decide (a < (u0.length : Int))))] ?_); intro cp v
 refine c_ v B (fun _ bi => ?_) fun _ aX => ?_
 ·
  refine k_ (s_ (b_ (sqB v aj [] [] [(7, y6 0)] ?_))); intro cq al
  refine s_ (sqB al aj [] [] [(8, i6 0)] ?_); intro am an
  apply b_
  have ao : Fr 75 [] [⟨0, [], .slice ao1 u0.length cap2⟩, ⟨1, [], .slice ao4 u1.length cap5⟩, ⟨5, [], .slice (sm b) l.length (w64 ((u0.length : Int) + (u1.length : Int))).toNat⟩, ⟨6, [], i6 a⟩, ⟨7, [], y6 0⟩, ⟨8, [], i6 0⟩] am := an.reg
  obtain ⟨bj, bk, bl, bm⟩ := bi
  refine lp (ι := Int × Int × (List Int)) (fun s => [⟨0, [], .slice ao1 u0.length cap2⟩, ⟨1, [], .slice ao4 u1.length cap5⟩, ⟨5, [], .slice (sm b) s.2.2.length (w64 ((u0.length : Int) + (u1.length : Int))).toNat⟩, ⟨6, [], i6 a⟩, ⟨7, [], y6 s.1⟩, ⟨8, [], i6 s.2.1⟩]) (fun s => [.own (tyInt .u32) 133 (sm b) (w64 ((u0.length : Int) + (u1.length : Int))).toNat s.2.2]) (fun s => Z) (fun s => bj s.1 s.2.1 s.2.2) (fun s => bk s.1 s.2.1 s.2.2) ⟨0, 0, l⟩ bl (by exact ao.reg) (by exact aj) ?_
  rintro ⟨d, c, f⟩ bn bo bp aq ar
  have C := bm d c f bn
  refine s_ (sqB aq ar [] [] [(32, .bool (decide (c < (u1.length : Int))))] ?_); intro bq x
  refine c_ x C (fun _ br => ?_) fun _ b2 => ?_
  ·
   refine k_ (s_ (b_ ?_))
   have av : Fr 75 [] [⟨0, [], .slice ao1 u0.length cap2⟩, ⟨1, [], .slice ao4 u1.length cap5⟩, ⟨5, [], .slice (sm b) f.length (w64 ((u0.length : Int) + (u1.length : Int))).toNat⟩, ⟨6, [], i6 a⟩, ⟨7, [], y6 d⟩, ⟨8, [], i6 c⟩] bq := x.reg
   refine wp_seq (rgS mixed ar [(0, true), (1, true), (2, true), (6, true), (7, true), (12, true), (13, true), (14, true), (15, true), (3, true), (4, true), (5, true), (8, true), (9, true), (10, true), (11, true), (16, false), (17, false), (18, true), (19, true), (20, true), (21, true)] [] [] [] ?_)
   intro bs aw cr m
   have ax := Fz.le.refl Z
   refine cS av 9 [] [] [(35, y6 d), (36, .slice ao1 u0.length cap2), (37, i6 a), (41, .slice ao4 u1.length cap5), (42, i6 c), (47, .slice (sm b) f.length (w64 ((u0.length : Int) + (u1.length : Int))).toNat), (50, i6 (w64 (a + c)))] ?_; intro cs ay
   obtain ⟨bu, az⟩ := br
   refine cix rfl ay (T := (tyInt .u32)) (xs := u0) hs3 a bu (k := .i64) (e := 133) (bytes := 4) (nog rfl _) rfl (by kernel_rfl) rfl (by kernel_rfl) (by kernel_rfl) (by kernel_rfl) ?_; intro bv bw bx h ct bz bA bB L
   have bC := az h bz
   obtain rfl : bx = ([.int .u32 h] : List Value) := bB
   refine cst rfl L (.int .u32 h) (nog rfl _) rfl (by kernel_rfl) (fun v152 hC => lz L hC.fz bA 0 (g := []) rfl (by kernel_rfl) (by kernel_rfl) (by kernel_rfl) rfl) ?_; intro cu aA
   refine cS aA 1 [] [] [(40, y6 (wu64 h))] ?_; intro cv aB
   obtain ⟨bD, aC⟩ := bC
   refine cix rfl aB (T := (tyInt .u32)) (xs := u1) hs6 c bD (k := .i64) (e := 133) (bytes := 4) (nog rfl _) rfl (by kernel_rfl) rfl (by kernel_rfl) (by kernel_rfl) (by kernel_rfl) ?_; intro bE bF bG i cw bH bI bJ M
   have bK := aC i bH
   obtain rfl : bG = ([.int .u32 i] : List Value) := bJ
   refine cst rfl M (.int .u32 i) (nog rfl _) rfl (by kernel_rfl) (fun v170 hC => lz M hC.fz bI 0 (g := []) rfl (by kernel_rfl) (by kernel_rfl) (by kernel_rfl) rfl) ?_; intro cx aD
   refine cS aD 2 [] [] [(46, y6 (wu64 ((wu64 h) * (wu64 i))))] ?_; intro cy aE
   refine eS rfl ?_; intro bL aF
   obtain ⟨bM, aG⟩ := bK
   refine ixo aE m 0 (T := (tyInt .u32)) (xs := f) (w64 (a + c)) bM (k := .i64) (e := 133) (bytes := 4) (nog rfl _) rfl (by kernel_rfl) rfl (by kernel_rfl) (by kernel_rfl) rfl (by kernel_rfl) ?_; intro bN cz bO aH
   obtain rfl : b = bN := by simpa using bO
   refine nl (qnI (aF _ _ (m.cst ax []) ?_))
   refine eS rfl ?_; intro bP aI
   obtain ⟨j, bQ, bR⟩ := gxq aG (by first | omega | (simp only [List.length_set] at *; omega))
   obtain ⟨bS, bT, bU⟩ := own_el m 0 (T := (tyInt .u32)) (xs := f) rfl (w64 (a + c)).toNat bQ
   obtain rfl : bS = ([.int .u32 j] : List Value) := bT
   refine lc1 aH 52 (.int .u32 j) (bU 0 _ rfl) rfl ?_; intro cA aJ
   refine nl (qnI (aI _ _ (m.cst ax []) ?_))
   refine cS aJ 4 [] [] [(7, y6 (wu64 (d + (wu64 ((wu64 ((wu64 h) * (wu64 i))) + (wu64 j))))))] ?_; intro cB aK
   refine nS (aw _ _ ?_)
   refine t_ (sqH ?_); intro bV aL
   refine bt aK m 6 [] [] [(56, .slice (sm b) f.length (w64 ((u0.length : Int) + (u1.length : Int))).toNat), (59, i6 (w64 (a + c))), (61, .int .u32 (wu32 (wu64 (d + (wu64 ((wu64 ((wu64 h) * (wu64 i))) + (wu64 j)))))))] ?_; intro cC aM
   obtain ⟨bW, aN⟩ := bR
   refine ixo aM m 0 (T := (tyInt .u32)) (xs := f) (w64 (a + c)) bW (k := .i64) (e := 133) (bytes := 4) (nog rfl _) rfl (by kernel_rfl) rfl (by kernel_rfl) (by kernel_rfl) rfl (by kernel_rfl) ?_; intro bX bY bZ D
   obtain rfl : b = bX := by simpa using bZ
   refine so D m 0 (T := (tyInt .u32)) (xs := f) (w64 (a + c)).toNat (wu32 (wu64 (d + (wu64 ((wu64 ((wu64 h) * (wu64 i))) + (wu64 j)))))) (u := .int .u32 (wu32 (wu64 (d + (wu64 ((wu64 ((wu64 h) * (wu64 i))) + (wu64 j))))))) (nog rfl _) rfl rfl (by kernel_rfl) rfl (by kernel_rfl) rfl (by kernel_rfl) (by first | omega | (simp only [List.length_set] at *; omega)) rfl ?_; intro b0 aO
   have aP : Fr 75 [] [⟨0, [], .slice ao1 u0.length cap2⟩, ⟨1, [], .slice ao4 u1.length cap5⟩, ⟨5, [], .slice (sm b) (f.set (w64 (a + c)).toNat (wu32 (wu64 (d + (wu64 ((wu64 ((wu64 h) * (wu64 i))) + (wu64 j))))))).length (w64 ((u0.length : Int) + (u1.length : Int))).toNat⟩, ⟨6, [], i6 a⟩, ⟨7, [], y6 (wu64 (d + (wu64 ((wu64 ((wu64 h) * (wu64 i))) + (wu64 j)))))⟩, ⟨8, [], i6 c⟩, ⟨35, [], y6 d⟩, ⟨36, [], .slice ao1 u0.length cap2⟩, ⟨37, [], i6 a⟩, ⟨38, [], pt bv bw⟩, ⟨39, [], .int .u32 h⟩, ⟨40, [], y6 (wu64 h)⟩, ⟨41, [], .slice ao4 u1.length cap5⟩, ⟨42, [], i6 c⟩, ⟨43, [], pt bE bF⟩, ⟨44, [], .int .u32 i⟩, ⟨46, [], y6 (wu64 ((wu64 h) * (wu64 i)))⟩, ⟨47, [], .slice (sm b) (f.set (w64 (a + c)).toNat (wu32 (wu64 (d + (wu64 ((wu64 ((wu64 h) * (wu64 i))) + (wu64 j))))))).length (w64 ((u0.length : Int) + (u1.length : Int))).toNat⟩, ⟨50, [], i6 (w64 (a + c))⟩, ⟨51, [], .pointer (some ⟨b, (w64 (a + c)).toNat * 1, none⟩)⟩, ⟨52, [], .int .u32 j⟩, ⟨56, [], .slice (sm b) (f.set (w64 (a + c)).toNat (wu32 (wu64 (d + (wu64 ((wu64 ((wu64 h) * (wu64 i))) + (wu64 j))))))).length (w64 ((u0.length : Int) + (u1.length : Int))).toNat⟩, ⟨59, [], i6 (w64 (a + c))⟩, ⟨61, [], .int .u32 (wu32 (wu64 (d + (wu64 ((wu64 ((wu64 h) * (wu64 i))) + (wu64 j))))))⟩, ⟨62, [], .pointer (some ⟨b, (w64 (a + c)).toNat * 1, none⟩)⟩] bY := by (try simp only [List.length_set] at D); (try simp only [List.length_set]); exact D.reg
   have N : Mem w.heap.size [] w Z [.own (tyInt .u32) 133 (sm b) (w64 ((u0.length : Int) + (u1.length : Int))).toNat (f.set (w64 (a + c)).toNat (wu32 (wu64 (d + (wu64 ((wu64 ((wu64 h) * (wu64 i))) + (wu64 j)))))))] Z b0 := aO
   apply aL
   refine rgB aP N [] [] [(7, y6 (bShr .u64 (wu64 (d + (wu64 ((wu64 ((wu64 h) * (wu64 i))) + (wu64 j))))) 32))] ?_; intro cD aQ
   refine j_ (t_ (rgB aQ N [] [] [(8, i6 (w64 (c + 1)))] ?_)); intro cE b1
   exact d_ ⟨⟨bShr .u64 (wu64 (d + (wu64 ((wu64 ((wu64 h) * (wu64 i))) + (wu64 j))))) 32, w64 (c + 1), f.set (w64 (a + c)).toNat (wu32 (wu64 (d + (wu64 ((wu64 ((wu64 h) * (wu64 i))) + (wu64 j))))))⟩, aN.1, aN.2, (b1.reg).anyβ _ (by kernel_rfl), N.kp⟩
  refine x_ (y_ (y_ (z_ (t_ (rgH ?_))))); intro b3 aR
  refine bt x ar 7 [] [] [(65, .slice (sm b) f.length (w64 ((u0.length : Int) + (u1.length : Int))).toNat), (69, i6 (w64 (a + (u1.length : Int)))), (71, .int .u32 (wu32 d))] ?_; intro cF aS
  obtain ⟨b4, aT⟩ := b2
  refine ixo aS ar 0 (T := (tyInt .u32)) (xs := f) (w64 (a + (u1.length : Int))) b4 (k := .i64) (e := 133) (bytes := 4) (nog rfl _) rfl (by kernel_rfl) rfl (by kernel_rfl) (by kernel_rfl) rfl (by kernel_rfl) ?_; intro b5 b6 b7 E
  obtain rfl : b = b5 := by simpa using b7
  refine so E ar 0 (T := (tyInt .u32)) (xs := f) (w64 (a + (u1.length : Int))).toNat (wu32 d) (u := .int .u32 (wu32 d)) (nog rfl _) rfl rfl (by kernel_rfl) rfl (by kernel_rfl) rfl (by kernel_rfl) (by first | omega | (simp only [List.length_set] at *; omega)) rfl ?_; intro b8 aU
  have aV : Fr 75 [] [⟨0, [], .slice ao1 u0.length cap2⟩, ⟨1, [], .slice ao4 u1.length cap5⟩, ⟨5, [], .slice (sm b) (f.set (w64 (a + (u1.length : Int))).toNat (wu32 d)).length (w64 ((u0.length : Int) + (u1.length : Int))).toNat⟩, ⟨6, [], i6 a⟩, ⟨7, [], y6 d⟩, ⟨8, [], i6 c⟩, ⟨32, [], .bool (decide (c < (u1.length : Int)))⟩, ⟨65, [], .slice (sm b) (f.set (w64 (a + (u1.length : Int))).toNat (wu32 d)).length (w64 ((u0.length : Int) + (u1.length : Int))).toNat⟩, ⟨69, [], i6 (w64 (a + (u1.length : Int)))⟩, ⟨71, [], .int .u32 (wu32 d)⟩, ⟨72, [], .pointer (some ⟨b, (w64 (a + (u1.length : Int))).toNat * 1, none⟩)⟩] b6 := by (try simp only [List.length_set] at E); (try simp only [List.length_set]); exact E.reg
  have aW : Mem w.heap.size [] w Z [.own (tyInt .u32) 133 (sm b) (w64 ((u0.length : Int) + (u1.length : Int))).toNat (f.set (w64 (a + (u1.length : Int))).toNat (wu32 d))] Z b8 := aU
  apply aR
  refine j_ (t_ (rgB aV aW [] [] [(6, i6 (w64 (a + 1)))] ?_)); intro cG b9
  exact d_ ⟨⟨w64 (a + 1), f.set (w64 (a + (u1.length : Int))).toNat (wu32 d)⟩, aT.1, aT.2, (b9.reg).anyβ _ (by kernel_rfl), aW.kp⟩
 refine x_ (y_ (y_ (z_ (t_ (sqH ?_))))); intro ca aY
 refine s1 v 73 (.slice (sm b) l.length (w64 ((u0.length : Int) + (u1.length : Int))).toNat) ?_; intro cH aZ
 obtain ⟨cb, O, a1, P⟩ := aj.freeze 0 rfl
 have Q : Mem w.heap.size [] w Z [] cb ah := a1
 refine ck aZ 110 #[.slice (sm b) l.length (w64 ((u0.length : Int) + (u1.length : Int))).toNat] ?_
 refine (gtrim_fun l (sm b) (w64 ((u0.length : Int) + (u1.length : Int))).toNat _ _ P Q.fz).mono ?_; rintro _ cc ⟨R, S, a2, rfl, a3, hm⟩; refine ⟨_, rfl, ?_⟩; intro cI a4; have a5 := Q.callZ hm
 have ce : Mem w.heap.size [] w Z [] a2 cc := a5
 have cf := aX (a3.small)
 refine s1 a4 4 (.slice R (gtrimS l).length S) ?_; intro cJ cg
 apply aY
 exact r_ (ra1 cg (.slice R (gtrimS l).length S) ⟨(gtrimS l), R, S, a2, rfl, cf, a3, ce.kp⟩)
theorem gleft_walk (u0 : List Int) (u1 : Int) (ao1 : Option Addr) (cap2 : Nat) (Z : Fz) (w : World) (hs3 : SlR (tyInt .u32) Z ao1 cap2 u0) (hZ : Z.on w) {K : (List Int) → Prop} (hp : gleft_vc u0 u1 K) : Calls Tryz.prog 89 #[.slice ao1 u0.length cap2, y6 u1] w fun e w' => ∃ (r : (List Int)) (ao1001 : Option Addr) (cap1002 : Nat) (Z' : Fz), e = .returned (.slice ao1001 r.length cap1002) ∧ K r ∧ SlR (tyInt .u32) Z' ao1001 cap1002 r ∧ Mem w.heap.size [] w Z [] Z' w' := by
 refine enter0 Tryz.func89 rfl rfl (by kernel_rfl) ?_; intro a0 I; have j := Mem.start w Z hZ
 have p := hp (hs3.small)
 refine sqB I j [] [] [] ?_; intro a6 J
 refine s_ (sqB J j [] [] [(12, .bool ((u0.length : Int) == 0))] ?_); intro bN m
 refine c_ m p (fun _ aN => ?_) fun _ aP => ?_
 ·
  refine sqB m j [] [] [(4, .slice none 0 0)] ?_; intro bO aO
  exact r_ (h_ (ra1 aO (.slice none 0 0) ⟨[], none, 0, Z, rfl, aN, (SlR.nil _ _), j.kp⟩))
 refine k_ (sqB m j [] [] [(5, i6 (w64 (wu64 (u1.tdiv 32)))), (6, y6 (u1.tmod 32))] ?_); intro bP L
 refine sqH ?_; intro aQ M
 refine bt L j 5 [] [] [(22, i6 (w64 ((w64 ((u0.length : Int) + (w64 (wu64 (u1.tdiv 32))))) + 1)))] ?_; intro bQ N
 obtain ⟨bR, aR⟩ := aP
 refine mks N j (T := (tyInt .u32)) (w64 ((w64 ((u0.length : Int) + (w64 (wu64 (u1.tdiv 32))))) + 1)) (w64 ((w64 ((u0.length : Int) + (w64 (wu64 (u1.tdiv 32))))) + 1)) (k := .i64) (k' := .i64) (e := 133) (bytes := 4) (zs := [.int .u32 0]) (z := 0) (by simp only [lim]; omega) (nog rfl _) rfl (by kernel_rfl) rfl (by kernel_rfl) (by kernel_rfl) (by kernel_rfl) (by kernel_rfl) rfl ?_; intro c bS aS O P
 have A : Mem w.heap.size [] w Z [.own (tyInt .u32) 133 (sm c) (w64 ((w64 ((u0.length : Int) + (w64 (wu64 (u1.tdiv 32))))) + 1)).toNat (List.replicate (w64 ((w64 ((u0.length : Int) + (w64 (wu64 (u1.tdiv 32))))) + 1)).toNat (0 : Int))] Z aS := P
 refine s1 O 7 (.slice (sm c) (List.replicate (w64 ((w64 ((u0.length : Int) + (w64 (wu64 (u1.tdiv 32))))) + 1)).toNat (0 : Int)).length (w64 ((w64 ((u0.length : Int) + (w64 (wu64 (u1.tdiv 32))))) + 1)).toNat) ?_; intro bT Q
 apply M
 refine s_ (sqB Q A [] [] [(8, i6 0)] ?_); intro R S
 apply b_
 have U : Fr 61 [] [⟨0, [], .slice ao1 u0.length cap2⟩, ⟨5, [], i6 (w64 (wu64 (u1.tdiv 32)))⟩, ⟨6, [], y6 (u1.tmod 32)⟩, ⟨7, [], .slice (sm c) (List.replicate (w64 ((w64 ((u0.length : Int) + (w64 (wu64 (u1.tdiv 32))))) + 1)).toNat (0 : Int)).length (w64 ((w64 ((u0.length : Int) + (w64 (wu64 (u1.tdiv 32))))) + 1)).toNat⟩, ⟨8, [], i6 0⟩] R := S.reg
 obtain ⟨aT, aU, aV, aW⟩ := aR
 refine lp (ι := Int × (List Int)) (fun s => [⟨0, [], .slice ao1 u0.length cap2⟩, ⟨5, [], i6 (w64 (wu64 (u1.tdiv 32)))⟩, ⟨6, [], y6 (u1.tmod 32)⟩, ⟨7, [], .slice (sm c) s.2.length (w64 ((w64 ((u0.length : Int) + (w64 (wu64 (u1.tdiv 32))))) + 1)).toNat⟩, ⟨8, [], i6 s.1⟩]) (fun s => [.own (tyInt .u32) 133 (sm c) (w64 ((w64 ((u0.length : Int) + (w64 (wu64 (u1.tdiv 32))))) + 1)).toNat s.2]) (fun s => Z) (fun s => aT s.1 s.2) (fun s => aU s.1 s.2) ⟨0, (List.replicate (w64 ((w64 ((u0.length : Int) + (w64 (wu64 (u1.tdiv 32))))) + 1)).toNat (0 : Int))⟩ aV (by exact U.reg) (by exact A) ?_
 rintro ⟨a, d⟩ aX aY W X Y
 have q := aW a d aX
 refine s_ (sqB X Y [] [] [(27, .bool (decide (a < (u0.length : Int))))] ?_); intro bU n
 refine c_ n q (fun _ aZ => ?_) fun _ aE => ?_
 ·
  refine k_ (s_ (b_ (sqH ?_))); intro a1 ab
  refine bt n Y 2 [] [] [(30, .slice ao1 u0.length cap2), (31, i6 a)] ?_; intro bV ac
  obtain ⟨a2, ad⟩ := aZ
  refine ix_ ac hs3 a a2 .i64 133 4 ?_; intro ae af a3 b bW a4 a5 a7 ag
  have a8 := ad b a4
  obtain rfl : a3 = ([.int .u32 b] : List Value) := a7
  refine z1 ag Y 33 a5 0 (.int .u32 b) rfl ?_; intro bX ah
  refine bt ah Y 2 [] [] [(34, y6 (wu64 b)), (35, y6 (u1.tmod 32))] ?_; intro bY C
  obtain ⟨a9, ba⟩ := a8
  refine u_ C (y6 (bShl .u64 (wu64 b) (u1.tmod 32))) (shl_run C (g := []) (k' := .u64) rfl (by kernel_rfl) (by kernel_rfl) a9 rfl) ?_; intro bZ ai
  refine s1 ai 9 (y6 (bShl .u64 (wu64 b) (u1.tmod 32))) ?_; intro b0 aj
  apply ab
  refine sqH ?_; intro bb ak
  refine bt aj Y 4 [] [] [(37, .slice (sm c) d.length (w64 ((w64 ((u0.length : Int) + (w64 (wu64 (u1.tdiv 32))))) + 1)).toNat), (40, i6 (w64 (a + (w64 (wu64 (u1.tdiv 32))))))] ?_; intro b1 al
  obtain ⟨bc, am⟩ := ba
  refine ixo al Y 0 (T := (tyInt .u32)) (xs := d) (w64 (a + (w64 (wu64 (u1.tdiv 32))))) bc (k := .i64) (e := 133) (bytes := 4) (nog rfl _) rfl (by kernel_rfl) rfl (by kernel_rfl) (by kernel_rfl) rfl (by kernel_rfl) ?_; intro bd b2 be an
  obtain rfl : c = bd := by simpa using be
  obtain ⟨f, bf, bg⟩ := gxq am (by first | omega | (simp only [List.length_set] at *; omega))
  obtain ⟨bh, bi, bj⟩ := own_el Y 0 (T := (tyInt .u32)) (xs := d) rfl (w64 (a + (w64 (wu64 (u1.tdiv 32))))).toNat bf
  obtain rfl : bh = ([.int .u32 f] : List Value) := bi
  refine lc1 an 42 (.int .u32 f) (bj 0 _ rfl) rfl ?_; intro b3 ao
  refine bt ao Y 3 [] [] [(45, .int .u32 (bOr .u32 f (wu32 (bShl .u64 (wu64 b) (u1.tmod 32)))))] ?_; intro b4 ap
  obtain ⟨bk, bl⟩ := bg
  refine ixo ap Y 0 (T := (tyInt .u32)) (xs := d) (w64 (a + (w64 (wu64 (u1.tdiv 32))))) bk (k := .i64) (e := 133) (bytes := 4) (nog rfl _) rfl (by kernel_rfl) rfl (by kernel_rfl) (by kernel_rfl) rfl (by kernel_rfl) ?_; intro bm bn bo v
  obtain rfl : c = bm := by simpa using bo
  refine so v Y 0 (T := (tyInt .u32)) (xs := d) (w64 (a + (w64 (wu64 (u1.tdiv 32))))).toNat (bOr .u32 f (wu32 (bShl .u64 (wu64 b) (u1.tmod 32)))) (u := .int .u32 (bOr .u32 f (wu32 (bShl .u64 (wu64 b) (u1.tmod 32))))) (nog rfl _) rfl rfl (by kernel_rfl) rfl (by kernel_rfl) rfl (by kernel_rfl) (by first | omega | (simp only [List.length_set] at *; omega)) rfl ?_; intro bp aq
  have ar : Fr 61 [] [⟨0, [], .slice ao1 u0.length cap2⟩, ⟨5, [], i6 (w64 (wu64 (u1.tdiv 32)))⟩, ⟨6, [], y6 (u1.tmod 32)⟩, ⟨7, [], .slice (sm c) (d.set (w64 (a + (w64 (wu64 (u1.tdiv 32))))).toNat (bOr .u32 f (wu32 (bShl .u64 (wu64 b) (u1.tmod 32))))).length (w64 ((w64 ((u0.length : Int) + (w64 (wu64 (u1.tdiv 32))))) + 1)).toNat⟩, ⟨8, [], i6 a⟩, ⟨9, [], y6 (bShl .u64 (wu64 b) (u1.tmod 32))⟩, ⟨27, [], .bool (decide (a < (u0.length : Int)))⟩, ⟨30, [], .slice ao1 u0.length cap2⟩, ⟨31, [], i6 a⟩, ⟨32, [], pt ae af⟩, ⟨33, [], .int .u32 b⟩, ⟨34, [], y6 (wu64 b)⟩, ⟨35, [], y6 (u1.tmod 32)⟩, ⟨36, [], y6 (bShl .u64 (wu64 b) (u1.tmod 32))⟩, ⟨37, [], .slice (sm c) (d.set (w64 (a + (w64 (wu64 (u1.tdiv 32))))).toNat (bOr .u32 f (wu32 (bShl .u64 (wu64 b) (u1.tmod 32))))).length (w64 ((w64 ((u0.length : Int) + (w64 (wu64 (u1.tdiv 32))))) + 1)).toNat⟩, ⟨40, [], i6 (w64 (a + (w64 (wu64 (u1.tdiv 32)))))⟩, ⟨41, [], .pointer (some ⟨c, (w64 (a + (w64 (wu64 (u1.tdiv 32))))).toNat * 1, none⟩)⟩, ⟨42, [], .int .u32 f⟩, ⟨45, [], .int .u32 (bOr .u32 f (wu32 (bShl .u64 (wu64 b) (u1.tmod 32))))⟩, ⟨46, [], .pointer (some ⟨c, (w64 (a + (w64 (wu64 (u1.tdiv 32))))).toNat * 1, none⟩)⟩] bn := by (try simp only [List.length_set] at v); (try simp only [List.length_set]); exact v.reg
  have l : Mem w.heap.size [] w Z [.own (tyInt .u32) 133 (sm c) (w64 ((w64 ((u0.length : Int) + (w64 (wu64 (u1.tdiv 32))))) + 1)).toNat (d.set (w64 (a + (w64 (wu64 (u1.tdiv 32))))).toNat (bOr .u32 f (wu32 (bShl .u64 (wu64 b) (u1.tmod 32)))))] Z bp := aq
  apply ak
  refine rgH ?_; intro bq au
  refine bt ar l 5 [] [] [(47, .slice (sm c) (d.set (w64 (a + (w64 (wu64 (u1.tdiv 32))))).toNat (bOr .u32 f (wu32 (bShl .u64 (wu64 b) (u1.tmod 32))))).length (w64 ((w64 ((u0.length : Int) + (w64 (wu64 (u1.tdiv 32))))) + 1)).toNat), (51, i6 (w64 ((w64 (a + (w64 (wu64 (u1.tdiv 32))))) + 1)))] ?_; intro b5 av
  obtain ⟨br, aw⟩ := bl
  refine ixo av l 0 (T := (tyInt .u32)) (xs := d.set (w64 (a + (w64 (wu64 (u1.tdiv 32))))).toNat (bOr .u32 f (wu32 (bShl .u64 (wu64 b) (u1.tmod 32))))) (w64 ((w64 (a + (w64 (wu64 (u1.tdiv 32))))) + 1)) br (k := .i64) (e := 133) (bytes := 4) (nog rfl _) rfl (by kernel_rfl) rfl (by kernel_rfl) (by kernel_rfl) rfl (by kernel_rfl) ?_; intro bs b6 bu ax
  obtain rfl : c = bs := by simpa using bu
  obtain ⟨i, bv, bw⟩ := gxq aw (by first | omega | (simp only [List.length_set] at *; omega))
  obtain ⟨bx, bz, bA⟩ := own_el l 0 (T := (tyInt .u32)) (xs := d.set (w64 (a + (w64 (wu64 (u1.tdiv 32))))).toNat (bOr .u32 f (wu32 (bShl .u64 (wu64 b) (u1.tmod 32))))) rfl (w64 ((w64 (a + (w64 (wu64 (u1.tdiv 32))))) + 1)).toNat bv
  obtain rfl : bx = ([.int .u32 i] : List Value) := bz
  refine lc1 ax 53 (.int .u32 i) (bA 0 _ rfl) rfl ?_; intro b7 ay
  refine bt ay l 4 [] [] [(57, .int .u32 (bOr .u32 i (wu32 (bShr .u64 (bShl .u64 (wu64 b) (u1.tmod 32)) 32))))] ?_; intro b8 az
  obtain ⟨bB, aA⟩ := bw
  refine ixo az l 0 (T := (tyInt .u32)) (xs := d.set (w64 (a + (w64 (wu64 (u1.tdiv 32))))).toNat (bOr .u32 f (wu32 (bShl .u64 (wu64 b) (u1.tmod 32))))) (w64 ((w64 (a + (w64 (wu64 (u1.tdiv 32))))) + 1)) bB (k := .i64) (e := 133) (bytes := 4) (nog rfl _) rfl (by kernel_rfl) rfl (by kernel_rfl) (by kernel_rfl) rfl (by kernel_rfl) ?_; intro bC bD bE x
  obtain rfl : c = bC := by simpa using bE
  refine so x l 0 (T := (tyInt .u32)) (xs := d.set (w64 (a + (w64 (wu64 (u1.tdiv 32))))).toNat (bOr .u32 f (wu32 (bShl .u64 (wu64 b) (u1.tmod 32))))) (w64 ((w64 (a + (w64 (wu64 (u1.tdiv 32))))) + 1)).toNat (bOr .u32 i (wu32 (bShr .u64 (bShl .u64 (wu64 b) (u1.tmod 32)) 32))) (u := .int .u32 (bOr .u32 i (wu32 (bShr .u64 (bShl .u64 (wu64 b) (u1.tmod 32)) 32)))) (nog rfl _) rfl rfl (by kernel_rfl) rfl (by kernel_rfl) rfl (by kernel_rfl) (by first | omega | (simp only [List.length_set] at *; omega)) rfl ?_; intro bF aB
  have aC : Fr 61 [] [⟨0, [], .slice ao1 u0.length cap2⟩, ⟨5, [], i6 (w64 (wu64 (u1.tdiv 32)))⟩, ⟨6, [], y6 (u1.tmod 32)⟩, ⟨7, [], .slice (sm c) ((d.set (w64 (a + (w64 (wu64 (u1.tdiv 32))))).toNat (bOr .u32 f (wu32 (bShl .u64 (wu64 b) (u1.tmod 32))))).set (w64 ((w64 (a + (w64 (wu64 (u1.tdiv 32))))) + 1)).toNat (bOr .u32 i (wu32 (bShr .u64 (bShl .u64 (wu64 b) (u1.tmod 32)) 32)))).length (w64 ((w64 ((u0.length : Int) + (w64 (wu64 (u1.tdiv 32))))) + 1)).toNat⟩, ⟨8, [], i6 a⟩, ⟨9, [], y6 (bShl .u64 (wu64 b) (u1.tmod 32))⟩, ⟨27, [], .bool (decide (a < (u0.length : Int)))⟩, ⟨30, [], .slice ao1 u0.length cap2⟩, ⟨31, [], i6 a⟩, ⟨32, [], pt ae af⟩, ⟨33, [], .int .u32 b⟩, ⟨34, [], y6 (wu64 b)⟩, ⟨35, [], y6 (u1.tmod 32)⟩, ⟨36, [], y6 (bShl .u64 (wu64 b) (u1.tmod 32))⟩, ⟨37, [], .slice (sm c) ((d.set (w64 (a + (w64 (wu64 (u1.tdiv 32))))).toNat (bOr .u32 f (wu32 (bShl .u64 (wu64 b) (u1.tmod 32))))).set (w64 ((w64 (a + (w64 (wu64 (u1.tdiv 32))))) + 1)).toNat (bOr .u32 i (wu32 (bShr .u64 (bShl .u64 (wu64 b) (u1.tmod 32)) 32)))).length (w64 ((w64 ((u0.length : Int) + (w64 (wu64 (u1.tdiv 32))))) + 1)).toNat⟩, ⟨40, [], i6 (w64 (a + (w64 (wu64 (u1.tdiv 32)))))⟩, ⟨41, [], .pointer (some ⟨c, (w64 (a + (w64 (wu64 (u1.tdiv 32))))).toNat * 1, none⟩)⟩, ⟨42, [], .int .u32 f⟩, ⟨45, [], .int .u32 (bOr .u32 f (wu32 (bShl .u64 (wu64 b) (u1.tmod 32))))⟩, ⟨46, [], .pointer (some ⟨c, (w64 (a + (w64 (wu64 (u1.tdiv 32))))).toNat * 1, none⟩)⟩, ⟨47, [], .slice (sm c) ((d.set (w64 (a + (w64 (wu64 (u1.tdiv 32))))).toNat (bOr .u32 f (wu32 (bShl .u64 (wu64 b) (u1.tmod 32))))).set (w64 ((w64 (a + (w64 (wu64 (u1.tdiv 32))))) + 1)).toNat (bOr .u32 i (wu32 (bShr .u64 (bShl .u64 (wu64 b) (u1.tmod 32)) 32)))).length (w64 ((w64 ((u0.length : Int) + (w64 (wu64 (u1.tdiv 32))))) + 1)).toNat⟩, ⟨51, [], i6 (w64 ((w64 (a + (w64 (wu64 (u1.tdiv 32))))) + 1))⟩, ⟨52, [], .pointer (some ⟨c, (w64 ((w64 (a + (w64 (wu64 (u1.tdiv 32))))) + 1)).toNat * 1, none⟩)⟩, ⟨53, [], .int .u32 i⟩, ⟨57, [], .int .u32 (bOr .u32 i (wu32 (bShr .u64 (bShl .u64 (wu64 b) (u1.tmod 32)) 32)))⟩, ⟨58, [], .pointer (some ⟨c, (w64 ((w64 (a + (w64 (wu64 (u1.tdiv 32))))) + 1)).toNat * 1, none⟩)⟩] bD := by (try simp only [List.length_set] at x); (try simp only [List.length_set]); exact x.reg
  have aD : Mem w.heap.size [] w Z [.own (tyInt .u32) 133 (sm c) (w64 ((w64 ((u0.length : Int) + (w64 (wu64 (u1.tdiv 32))))) + 1)).toNat ((d.set (w64 (a + (w64 (wu64 (u1.tdiv 32))))).toNat (bOr .u32 f (wu32 (bShl .u64 (wu64 b) (u1.tmod 32))))).set (w64 ((w64 (a + (w64 (wu64 (u1.tdiv 32))))) + 1)).toNat (bOr .u32 i (wu32 (bShr .u64 (bShl .u64 (wu64 b) (u1.tmod 32)) 32))))] Z bF := aB
  apply au
  refine j_ (t_ (rgB aC aD [] [] [(8, i6 (w64 (a + 1)))] ?_)); intro b9 bG
  exact d_ ⟨⟨w64 (a + 1), (d.set (w64 (a + (w64 (wu64 (u1.tdiv 32))))).toNat (bOr .u32 f (wu32 (bShl .u64 (wu64 b) (u1.tmod 32))))).set (w64 ((w64 (a + (w64 (wu64 (u1.tdiv 32))))) + 1)).toNat (bOr .u32 i (wu32 (bShr .u64 (bShl .u64 (wu64 b) (u1.tmod 32)) 32)))⟩, aA.1, aA.2, (bG.reg).anyβ _ (by kernel_rfl), aD.kp⟩
 refine x_ (y_ (y_ (z_ (t_ (sqH ?_))))); intro bH aF
 refine s1 n 59 (.slice (sm c) d.length (w64 ((w64 ((u0.length : Int) + (w64 (wu64 (u1.tdiv 32))))) + 1)).toNat) ?_; intro ca aG
 obtain ⟨bI, aH, aI, D⟩ := Y.freeze 0 rfl
 have E : Mem w.heap.size [] w Z [] bI W := aI
 refine ck aG 110 #[.slice (sm c) d.length (w64 ((w64 ((u0.length : Int) + (w64 (wu64 (u1.tdiv 32))))) + 1)).toNat] ?_
 refine (gtrim_fun d (sm c) (w64 ((w64 ((u0.length : Int) + (w64 (wu64 (u1.tdiv 32))))) + 1)).toNat _ _ D E.fz).mono ?_; rintro _ bJ ⟨F, G, aJ, rfl, aK, hm⟩; refine ⟨_, rfl, ?_⟩; intro cb aL; have aM := E.callZ hm
 have bK : Mem w.heap.size [] w Z [] aJ bJ := aM
 have bL := aE (aK.small)
 refine s1 aL 4 (.slice F (gtrimS d).length G) ?_; intro cc bM
 apply aF
 exact r_ (ra1 bM (.slice F (gtrimS d).length G) ⟨(gtrimS d), F, G, aJ, rfl, bL, aK, bK.kp⟩)
theorem ggive_walk (u0 : BInt) (u1 : Bool) (u2 : List Int) (b1 : Nat) (ao2 : Option Addr) (cap3 : Nat) (ao5 : Option Addr) (cap6 : Nat) (B : Nat) (w0 : World) (Z0 : Fz) (Rr : List Res) (Z : Fz) (w : World) (hs4 : SlR (tyInt .u32) Z ao2 cap3 u0.abs) (hs7 : SlR (tyInt .u32) Z ao5 cap6 u2) (hM0 : Mem B [] w0 Z0 ((.row b1 [.bool u0.neg, .slice ao2 u0.abs.length cap3] 102) :: Rr) Z w) (hZ : Z.on w) {K : BInt → Prop} (hp : ggive_vc u0 u1 u2 K) : Calls Tryz.prog 88 #[pt b1 0, .bool u1, .slice ao5 u2.length cap6] w fun e w' => ∃ (r : BInt) (ao1001 : Option Addr) (cap1002 : Nat) (Z' : Fz), e = .returned (pt b1 0) ∧ K r ∧ Fz.le Z Z' ∧ SlR (tyInt .u32) Z' ao1001 cap1002 r.abs ∧ Mem B [] w0 Z0 ((.row b1 [.bool r.neg, .slice ao1001 r.abs.length cap1002] 102) :: Rr) Z' w' := by
 refine enter0 Tryz.func88 rfl rfl (by kernel_rfl) ?_; intro u d; have m := Fz.le.refl Z
 have n := hp (hs4.small) (hs7.small)
 refine sqB d hM0 [] [] [] ?_; intro v g
 refine sqH ?_; intro o h
 refine bt g hM0 4 [] [] [(8, .slice ao5 u2.length cap6), (10, pt b1 1)] ?_; intro x a
 refine sx a hM0 0 [.bool u0.neg, .slice ao5 u2.length cap6] 1 ?_; intro p i
 have b : Mem B [] w0 Z0 ((.row b1 [.bool u0.neg, .slice ao5 u2.length cap6] 102) :: Rr) Z p := i
 apply h
 refine sqH ?_; intro q j
 refine bt a b 9 [] [] [(17, .bool (u1 && (decide ((u2.length : Int) > 0)))), (19, pt b1 0)] ?_; intro y c
 refine sx c b 0 [.bool (u1 && (decide ((u2.length : Int) > 0))), .slice ao5 u2.length cap6] 0 ?_; intro s k
 have l : Mem B [] w0 Z0 ((.row b1 [.bool (u1 && (decide ((u2.length : Int) > 0))), .slice ao5 u2.length cap6] 102) :: Rr) Z s := k
 apply j
 refine sqB c l [] [] [(6, pt b1 0)] ?_; intro z t
 exact r_ (ra1 t (pt b1 0) ⟨(⟨u1 && (decide ((u2.length : Int) > 0)), u2⟩ : BInt), ao5, cap6, Z, rfl, n, m, hs7, l.kp⟩)
def ggive_fun (u0 : BInt) (u1 : Bool) (u2 : List Int) (b1 : Nat) (ao2 : Option Addr) (cap3 : Nat) (ao5 : Option Addr) (cap6 : Nat) (B : Nat) (w0 : World) (Z0 : Fz) (Rr : List Res) (Z : Fz) (w : World) (hs4 : SlR (tyInt .u32) Z ao2 cap3 u0.abs) (hs7 : SlR (tyInt .u32) Z ao5 cap6 u2) (hM0 : Mem B [] w0 Z0 ((.row b1 [.bool u0.neg, .slice ao2 u0.abs.length cap3] 102) :: Rr) Z w) (hZ : Z.on w) := fc_ (ggive_walk u0 u1 u2 b1 ao2 cap3 ao5 cap6 B w0 Z0 Rr Z w hs4 hs7 hM0 hZ (ggive_ok u0 u1 u2))
theorem glow_walk (u0 : BInt) (u1 : Int) (b1 : Nat) (ao2 : Option Addr) (cap3 : Nat) (B : Nat) (w0 : World) (Z0 : Fz) (Rr : List Res) (Z : Fz) (w : World) (hs4 : SlR (tyInt .u32) Z ao2 cap3 u0.abs) (hM0 : Mem B [] w0 Z0 ((.row b1 [.bool u0.neg, .slice ao2 u0.abs.length cap3] 102) :: Rr) Z w) (hZ : Z.on w) {K : ((List Int) × BInt) → Prop} (hp : glow_vc u0 u1 K) : Calls Tryz.prog 91 #[pt b1 0, i6 u1] w fun e w' => ∃ (r : (List Int) × BInt) (ao1001 : Option Addr) (cap1002 : Nat) (ao1003 : Option Addr) (cap1004 : Nat) (Z' : Fz), e = .returned (.slice ao1001 r.1.length cap1002) ∧ K r ∧ Fz.le Z Z' ∧ SlR (tyInt .u32) Z' ao1003 cap1004 r.2.abs ∧ Mem B [] w0 Z0 ((.own (tyInt .u32) 133 ao1001 cap1002 r.1) :: (.row b1 [.bool r.2.neg, .slice ao1003 r.2.abs.length cap1004] 102) :: Rr) Z' w' := by
 refine enter0 Tryz.func91 rfl rfl (by kernel_rfl) ?_; intro I f; have t := Fz.le.refl Z
 have u := hp (hs4.small)
 refine sqB f hM0 [] [] [] ?_; intro J g
 refine sqH ?_; intro v h
 refine s1 g 8 (i6 u1) ?_; intro L i
 obtain ⟨M, x⟩ := u
 refine mks i hM0 (T := (tyInt .u32)) u1 u1 (k := .i64) (k' := .i64) (e := 133) (bytes := 4) (zs := [.int .u32 0]) (z := 0) (by simp only [lim]; omega) (nog rfl _) rfl (by kernel_rfl) rfl (by kernel_rfl) (by kernel_rfl) (by kernel_rfl) (by kernel_rfl) rfl ?_; intro a N y j l
 have b : Mem B [] w0 Z0 ((.own (tyInt .u32) 133 (sm a) u1.toNat (List.replicate u1.toNat (0 : Int))) :: (.row b1 [.bool u0.neg, .slice ao2 u0.abs.length cap3] 102) :: Rr) Z y := l
 refine s1 j 5 (.slice (sm a) (List.replicate u1.toNat (0 : Int)).length u1.toNat) ?_; intro O m
 apply h
 refine sqH ?_; intro A n
 refine bt m b 5 [1] [] [(10, .slice (sm a) (List.replicate u1.toNat (0 : Int)).length u1.toNat), (14, .slice ao2 u0.abs.length cap3)] ?_; intro P o
 refine cpy o b 0 (T := (tyInt .u32)) (xs := (List.replicate u1.toNat (0 : Int))) (ys := u0.abs) (ao := (sm a)) (cap := u1.toNat) (ao1 := (sm a)) (cap1 := u1.toNat) (ao2 := ao2) (cap2 := cap3) (sl := u0.abs.length) 0 (List.replicate u1.toNat (0 : Int)).length (e := 133) (bytes := 4) (nog rfl _) rfl (by kernel_rfl) rfl (by kernel_rfl) (by kernel_rfl) rfl (by kernel_rfl) rfl (Src.fz (by decide) b.fz hs4) (by omega) (own_at0 b 0 rfl) ?_; intro C D p q
 have E : ((List.replicate u1.toNat (0 : Int)).take 0 ++ u0.abs.take (min u0.abs.length (List.replicate u1.toNat (0 : Int)).length) ++ (List.replicate u1.toNat (0 : Int)).drop (0 + min u0.abs.length (List.replicate u1.toNat (0 : Int)).length)).length = (List.replicate u1.toNat (0 : Int)).length := by first | assumption | omega | (dsimp only at *; omega) | (simp; try omega)
 have s : Fr 41 [] [⟨0, [], pt b1 0⟩, ⟨1, [], i6 u1⟩, ⟨5, [], .slice (sm a) ((List.replicate u1.toNat (0 : Int)).take 0 ++ u0.abs.take (min u0.abs.length (List.replicate u1.toNat (0 : Int)).length) ++ (List.replicate u1.toNat (0 : Int)).drop (0 + min u0.abs.length (List.replicate u1.toNat (0 : Int)).length)).length u1.toNat⟩, ⟨8, [], i6 u1⟩, ⟨9, [], .slice (sm a) ((List.replicate u1.toNat (0 : Int)).take 0 ++ u0.abs.take (min u0.abs.length (List.replicate u1.toNat (0 : Int)).length) ++ (List.replicate u1.toNat (0 : Int)).drop (0 + min u0.abs.length (List.replicate u1.toNat (0 : Int)).length)).length u1.toNat⟩, ⟨10, [], .slice (sm a) ((List.replicate u1.toNat (0 : Int)).take 0 ++ u0.abs.take (min u0.abs.length (List.replicate u1.toNat (0 : Int)).length) ++ (List.replicate u1.toNat (0 : Int)).drop (0 + min u0.abs.length (List.replicate u1.toNat (0 : Int)).length)).length u1.toNat⟩, ⟨14, [], .slice ao2 u0.abs.length cap3⟩, ⟨15, [], i6 ((min u0.abs.length (List.replicate u1.toNat (0 : Int)).length : Nat) : Int)⟩] C := by rw [E]; exact p.reg
 have c : Mem B [] w0 Z0 ((.own (tyInt .u32) 133 (sm a) u1.toNat ((List.replicate u1.toNat (0 : Int)).take 0 ++ u0.abs.take (min u0.abs.length (List.replicate u1.toNat (0 : Int)).length) ++ (List.replicate u1.toNat (0 : Int)).drop (0 + min u0.abs.length (List.replicate u1.toNat (0 : Int)).length))) :: (.row b1 [.bool u0.neg, .slice ao2 u0.abs.length cap3] 102) :: Rr) Z D := q
 apply n
 refine s_ (sqB s c [1] [] [(19, .bool u0.neg)] ?_); intro Q d
 obtain ⟨F, G⟩ := x
 refine cn d F ?_
 refine k_ (sqB d c [] [] [(4, .slice (sm a) ((List.replicate u1.toNat (0 : Int)).take 0 ++ u0.abs.take (min u0.abs.length (List.replicate u1.toNat (0 : Int)).length) ++ (List.replicate u1.toNat (0 : Int)).drop (0 + min u0.abs.length (List.replicate u1.toNat (0 : Int)).length)).length u1.toNat)] ?_); intro R H
 exact r_ (ra1 H (.slice (sm a) ((List.replicate u1.toNat (0 : Int)).take 0 ++ u0.abs.take (min u0.abs.length (List.replicate u1.toNat (0 : Int)).length) ++ (List.replicate u1.toNat (0 : Int)).drop (0 + min u0.abs.length (List.replicate u1.toNat (0 : Int)).length)).length u1.toNat) ⟨(((List.replicate u1.toNat (0 : Int)).take 0 ++ u0.abs.take (min u0.abs.length (List.replicate u1.toNat (0 : Int)).length) ++ (List.replicate u1.toNat (0 : Int)).drop (0 + min u0.abs.length (List.replicate u1.toNat (0 : Int)).length)), u0), (sm a), u1.toNat, ao2, cap3, Z, rfl, G, t, hs4, c.kp⟩)
theorem guint64_walk (u0 : BInt) (b1 : Nat) (ao2 : Option Addr) (cap3 : Nat) (B : Nat) (w0 : World) (Z0 : Fz) (Rr : List Res) (Z : Fz) (w : World) (hs4 : SlR (tyInt .u32) Z ao2 cap3 u0.abs) (hM0 : Mem B [] w0 Z0 ((.row b1 [.bool u0.neg, .slice ao2 u0.abs.length cap3] 102) :: Rr) Z w) (hZ : Z.on w) {K : (Int × BInt) → Prop} (hp : guint64_vc u0 K) : Calls Tryz.prog 97 #[pt b1 0] w fun e w' => ∃ (r : Int × BInt) (ao1001 : Option Addr) (cap1002 : Nat) (Z' : Fz), e = .returned (y6 r.1) ∧ K r ∧ Fz.le Z Z' ∧ SlR (tyInt .u32) Z' ao1001 cap1002 r.2.abs ∧ Mem B [] w0 Z0 ((.row b1 [.bool r.2.neg, .slice ao1001 r.2.abs.length cap1002] 102) :: Rr) Z' w' := by
 refine enter0 Tryz.func97 rfl rfl (by kernel_rfl) ?_; intro a0 p; have h := Fz.le.refl Z
 have i := hp (hs4.small)
 refine sqB p hM0 [] [] [] ?_; intro a7 q
 refine sqB q hM0 [] [] [(3, y6 0)] ?_; intro aw s
 refine s_ (sqB s hM0 [0] [] [(9, .bool (decide ((u0.abs.length : Int) > 0)))] ?_); intro ax d
 refine c_ d i (fun _ P => ?_) fun _ l => ?_
 ·
  refine rgH ?_; intro Q u
  refine bt d hM0 4 [0] [] [(13, .slice ao2 u0.abs.length cap3)] ?_; intro ay v
  obtain ⟨R, x⟩ := P
  refine ix_ v hs4 (0 : Int) R .i64 133 4 ?_; intro az aA S a aB U V W y
  have j := x a U
  obtain rfl : S = ([.int .u32 a] : List Value) := W
  refine z1 y hM0 15 V 0 (.int .u32 a) rfl ?_; intro aC z
  refine bt z hM0 2 [] [] [(3, y6 (wu64 a))] ?_; intro aD A
  apply u
  refine t_ (s_ (sqB A hM0 [0] [] [(22, .bool (decide ((u0.abs.length : Int) > 1)))] ?_)); intro aE f
  refine c_ f j (fun _ X => ?_) fun _ ah => ?_
  ·
   refine rgH ?_; intro Y C
   refine bt f hM0 5 [0] [] [(23, y6 (wu64 a)), (27, .slice ao2 u0.abs.length cap3)] ?_; intro aF D
   obtain ⟨aa, E⟩ := X
   refine ix_ D hs4 (1 : Int) aa .i64 133 4 ?_; intro aG aH ab b aI ac ad ae F
   have af := E b ac
   obtain rfl : ab = ([.int .u32 b] : List Value) := ae
   refine z1 F hM0 29 ad 0 (.int .u32 b) rfl ?_; intro aJ G
   refine bt G hM0 4 [] [] [(3, y6 (bOr .u64 (wu64 a) (bShl .u64 (wu64 b) 32)))] ?_; intro aK H
   apply C
   refine t_ (sqB H hM0 [] [] [(2, y6 (bOr .u64 (wu64 a) (bShl .u64 (wu64 b) 32)))] ?_); intro aL ag
   exact r_ (ra1 ag (y6 (bOr .u64 (wu64 a) (bShl .u64 (wu64 b) 32))) ⟨(bOr .u64 (wu64 a) (bShl .u64 (wu64 b) 32), u0), ao2, cap3, Z, rfl, af, h, hs4, hM0.kp⟩)
  refine k_ (sqB f hM0 [] [] [(2, y6 (wu64 a))] ?_); intro aM ai
  exact r_ (ra1 ai (y6 (wu64 a)) ⟨(wu64 a, u0), ao2, cap3, Z, rfl, ah, h, hs4, hM0.kp⟩)
 refine k_ (s_ (sqB d hM0 [0] [] [(22, .bool (decide ((u0.abs.length : Int) > 1)))] ?_)); intro aN g
 refine c_ g l (fun _ aj => ?_) fun _ au => ?_
 ·
  refine rgH ?_; intro ak I
  refine bt g hM0 5 [0] [] [(23, y6 0), (27, .slice ao2 u0.abs.length cap3)] ?_; intro aO J
  obtain ⟨al, L⟩ := aj
  refine ix_ J hs4 (1 : Int) al .i64 133 4 ?_; intro aP aQ am c aR an ao ap M
  have aq := L c an
  obtain rfl : am = ([.int .u32 c] : List Value) := ap
  refine z1 M hM0 29 ao 0 (.int .u32 c) rfl ?_; intro aS N
  refine bt N hM0 4 [] [] [(3, y6 (bOr .u64 0 (bShl .u64 (wu64 c) 32)))] ?_; intro aT O
  apply I
  refine t_ (sqB O hM0 [] [] [(2, y6 (bOr .u64 0 (bShl .u64 (wu64 c) 32)))] ?_); intro aU ar
  exact r_ (ra1 ar (y6 (bOr .u64 0 (bShl .u64 (wu64 c) 32))) ⟨(bOr .u64 0 (bShl .u64 (wu64 c) 32), u0), ao2, cap3, Z, rfl, aq, h, hs4, hM0.kp⟩)
 refine k_ (sqB g hM0 [] [] [(2, y6 0)] ?_); intro aV av
 exact r_ (ra1 av (y6 0) ⟨(0, u0), ao2, cap3, Z, rfl, au, h, hs4, hM0.kp⟩)
end Go.Proofs.YtmnlahbngbigdaaGreatDoor
set_option linter.unusedVariables false
set_option linter.unusedSimpArgs false
set_option linter.defProp false
set_option maxRecDepth 100000
set_option maxHeartbeats 0
namespace Go.Proofs.YtmnlahbngbigdaaGreatDoor
open Go.Sy Go.RowKit
def gtwin_fun (u0 : List Int) (hpre : u0.length ≤ 1000000) (ao1 : Option Addr) (cap2 : Nat) (Z : Fz) (w : World) (hs3 : SlR (tyInt .u32) Z ao1 cap2 u0) (hZ : Z.on w) := fc_ (gtwin_walk u0 ao1 cap2 Z w hs3 hZ (gtwin_ok u0 hpre))
def gwords_fun (u0 : Int) (hpre : 0 ≤ u0 ∧ u0 ≤ 18446744073709551615)  (Z : Fz) (w : World)  (hZ : Z.on w) := fc_ (gwords_walk u0  Z w  hZ (gwords_ok u0 hpre))
def gadd_fun (u0 : List Int) (u1 : List Int) (hpre : wok u0 ∧ wok u1 ∧ u0.length ≤ 1000000 ∧ u1.length ≤ 1000000) (ao1 : Option Addr) (cap2 : Nat) (ao4 : Option Addr) (cap5 : Nat) (Z : Fz) (w : World) (hs3 : SlR (tyInt .u32) Z ao1 cap2 u0) (hs6 : SlR (tyInt .u32) Z ao4 cap5 u1) (hZ : Z.on w) := fc_ (gadd_walk u0 u1 ao1 cap2 ao4 cap5 Z w hs3 hs6 hZ (gadd_ok u0 u1 hpre))
def gmul_fun (u0 : List Int) (u1 : List Int) (hpre : wok u0 ∧ wok u1 ∧ u0.length ≤ 1000 ∧ u1.length ≤ 1000) (ao1 : Option Addr) (cap2 : Nat) (ao4 : Option Addr) (cap5 : Nat) (Z : Fz) (w : World) (hs3 : SlR (tyInt .u32) Z ao1 cap2 u0) (hs6 : SlR (tyInt .u32) Z ao4 cap5 u1) (hZ : Z.on w) := fc_ (gmul_walk u0 u1 ao1 cap2 ao4 cap5 Z w hs3 hs6 hZ (gmul_ok u0 u1 hpre))
def gleft_fun (u0 : List Int) (u1 : Int) (hpre : wok u0 ∧ u0.length ≤ 1000 ∧ 0 ≤ u1 ∧ u1 ≤ 100000) (ao1 : Option Addr) (cap2 : Nat) (Z : Fz) (w : World) (hs3 : SlR (tyInt .u32) Z ao1 cap2 u0) (hZ : Z.on w) := fc_ (gleft_walk u0 u1 ao1 cap2 Z w hs3 hZ (gleft_ok u0 u1 hpre))
def glow_fun (u0 : BInt) (u1 : Int) (hpre : u0.neg = false ∧ (u0.abs.length : Int) ≤ u1 ∧ u1 ≤ 1000000) (b1 : Nat) (ao2 : Option Addr) (cap3 : Nat) (B : Nat) (w0 : World) (Z0 : Fz) (Rr : List Res) (Z : Fz) (w : World) (hs4 : SlR (tyInt .u32) Z ao2 cap3 u0.abs) (hM0 : Mem B [] w0 Z0 ((.row b1 [.bool u0.neg, .slice ao2 u0.abs.length cap3] 102) :: Rr) Z w) (hZ : Z.on w) := fe_ (glow_walk u0 u1 b1 ao2 cap3 B w0 Z0 Rr Z w hs4 hM0 hZ (glow_ok u0 u1 hpre))
def guint64_fun (u0 : BInt) (hpre : wok u0.abs) (b1 : Nat) (ao2 : Option Addr) (cap3 : Nat) (B : Nat) (w0 : World) (Z0 : Fz) (Rr : List Res) (Z : Fz) (w : World) (hs4 : SlR (tyInt .u32) Z ao2 cap3 u0.abs) (hM0 : Mem B [] w0 Z0 ((.row b1 [.bool u0.neg, .slice ao2 u0.abs.length cap3] 102) :: Rr) Z w) (hZ : Z.on w) := fc_ (guint64_walk u0 b1 ao2 cap3 B w0 Z0 Rr Z w hs4 hM0 hZ (guint64_ok u0 hpre))
theorem gof_walk (u0 : BInt) (u1 : List Int) (b1 : Nat) (ao2 : Option Addr) (cap3 : Nat) (ao5 : Option Addr) (cap6 : Nat) (B : Nat) (w0 : World) (Z0 : Fz) (Rr : List Res) (Z : Fz) (w : World) (hs4 : SlR (tyInt .u32) Z ao2 cap3 u0.abs) (hM0 : Mem B [] w0 Z0 ((.row b1 [.bool u0.neg, .slice ao2 u0.abs.length cap3] 102) :: (.own (tyInt .u32) 133 ao5 cap6 u1) :: Rr) Z w) (hZ : Z.on w) {K : BInt → Prop} (hp : gof_vc u0 u1 K) : Calls Tryz.prog 92 #[pt b1 0, .slice ao5 u1.length cap6] w fun e w' => ∃ (r : BInt) (ao1001 : Option Addr) (cap1002 : Nat) (Z' : Fz), e = .returned (pt b1 0) ∧ K r ∧ Fz.le Z Z' ∧ SlR (tyInt .u32) Z' ao1001 cap1002 r.abs ∧ Mem B [] w0 Z0 ((.row b1 [.bool r.neg, .slice ao1001 r.abs.length cap1002] 102) :: Rr) Z' w' := by
 refine enter0 Tryz.func92 rfl rfl (by kernel_rfl) ?_; intro a0 I; have a := Fz.le.refl Z
 have i := hp (hs4.small) (hM0.ownSmall 1 rfl)
 refine sqB I hM0 [] [] [] ?_; intro a5 L
 refine s_ (sqH ?_); intro M j
 refine bt L hM0 4 [] [] [(10, .bool (decide ((u1.length : Int) > 0)))] ?_; intro a6 l
 refine e_ i (fun f aD => ?_) fun f aj => ?_
 ·
  have N := l.reval (d := 10) (c := []) (v := .bool (decide ((u1.length : Int) > 0))) (by kernel_rfl) (.bool true) (by rw [f])
  refine bt N hM0 4 [] [11, 12, 13, 14] [(11, .slice ao5 u1.length cap6), (14, i6 (w64 ((u1.length : Int) - 1)))] ?_; intro a7 q
  obtain ⟨aE, O⟩ := aD
  refine ixo q hM0 1 (T := (tyInt .u32)) (xs := u1) (w64 ((u1.length : Int) - 1)) aE (k := .i64) (e := 133) (bytes := 4) (wK q true) rfl (by kernel_rfl) rfl (by kernel_rfl) (by kernel_rfl) rfl (by kernel_rfl) ?_; intro s a8 aF t
  subst aF
  obtain ⟨u, aG, aH⟩ := gxq O (by first | omega | (simp only [List.length_set] at *; omega))
  obtain ⟨aI, aJ, aK⟩ := own_el hM0 1 (T := (tyInt .u32)) (xs := u1) rfl (w64 ((u1.length : Int) - 1)).toNat aG
  obtain rfl : aI = ([.int .u32 u] : List Value) := aJ
  refine lc1 t 16 (.int .u32 u) (aK 0 _ rfl) rfl ?_ (hw := (wK t true)); intro a9 P
  refine bt P hM0 3 [] [17, 18, 19] [(19, .bool ((bShr .u32 u 31) == 1))] ?_; intro ba x
  apply j
  obtain ⟨aL, Q⟩ := aH
  refine cn x aL ?_
  refine k_ (sqH ?_); intro aM R
  refine bt x hM0 2 [] [] [(45, pt b1 0), (46, .slice (sm s) u1.length cap6)] ?_; intro bb S
  obtain ⟨aN, U, V, g⟩ := hM0.freeze 1 rfl
  replace hs4 := hs4.mono U
  replace a := Fz.le.trans a U
  have y : Mem B [] w0 Z0 ((.row b1 [.bool u0.neg, .slice ao2 u0.abs.length cap3] 102) :: Rr) aN w := V
  refine ck S 110 #[.slice (sm s) u1.length cap6] ?_
  refine (gtrim_fun u1 (sm s) cap6 _ _ g y.fz).mono ?_; rintro _ aO ⟨W, X, aP, rfl, m, hm⟩; refine ⟨_, rfl, ?_⟩; intro bc Y; have aa := y.callZ hm; have z := hm.ext.le
  replace hs4 := hs4.mono z
  replace a := Fz.le.trans a z
  have A : Mem B [] w0 Z0 ((.row b1 [.bool u0.neg, .slice ao2 u0.abs.length cap3] 102) :: Rr) aP aO := aa
  have ab := Q (m.small)
  refine ck Y 88 #[pt b1 0, .bool false, .slice W (gtrimS u1).length X] ?_
  obtain ⟨C, aQ, ac⟩ := hxq ab
  have b := ggive_fun u0 false (gtrimS u1) b1 ao2 cap3 W X _ _ _ _ _ _ hs4 m A A.fz; rw [aQ] at b; refine b.mono ?_; rintro _ aR ⟨ad, ae, af, rfl, n, ag, hm⟩; refine ⟨_, rfl, ?_⟩; intro bd ah; have ai := hm
  replace a := Fz.le.trans a n
  have aS : Mem B [] w0 Z0 ((.row b1 [.bool C.neg, .slice ad C.abs.length ae] 102) :: Rr) af aR := ai
  have aT := ac (ag.small)
  refine s1 ah 4 (pt b1 0) ?_; intro be aU
  apply R
  exact r_ (ra1 aU (pt b1 0) ⟨C, ad, ae, af, rfl, aT, a, ag, aS.kp⟩)
 have ak := l.reval (d := 10) (c := []) (v := .bool (decide ((u1.length : Int) > 0))) (by kernel_rfl) (.bool false) (by rw [f])
 refine bt ak hM0 9 [] [11, 12, 13, 14, 15, 16, 17, 18, 19] [(19, .bool false)] ?_; intro bf D
 apply j
 refine cdF D (by kernel_rfl) ?_
 refine k_ (sqH ?_); intro aV al
 refine bt D hM0 2 [] [] [(45, pt b1 0), (46, .slice ao5 u1.length cap6)] ?_; intro bg am
 obtain ⟨aW, an, ao, h⟩ := hM0.freeze 1 rfl
 replace hs4 := hs4.mono an
 replace a := Fz.le.trans a an
 have E : Mem B [] w0 Z0 ((.row b1 [.bool u0.neg, .slice ao2 u0.abs.length cap3] 102) :: Rr) aW w := ao
 refine ck am 110 #[.slice ao5 u1.length cap6] ?_
 refine (gtrim_fun u1 ao5 cap6 _ _ h E.fz).mono ?_; rintro _ aX ⟨ap, aq, aY, rfl, o, hm⟩; refine ⟨_, rfl, ?_⟩; intro bh ar; have au := E.callZ hm; have F := hm.ext.le
 replace hs4 := hs4.mono F
 replace a := Fz.le.trans a F
 have G : Mem B [] w0 Z0 ((.row b1 [.bool u0.neg, .slice ao2 u0.abs.length cap3] 102) :: Rr) aY aX := au
 have av := aj (o.small)
 refine ck ar 88 #[pt b1 0, .bool false, .slice ap (gtrimS u1).length aq] ?_
 obtain ⟨H, aZ, aw⟩ := hxq av
 have b := ggive_fun u0 false (gtrimS u1) b1 ao2 cap3 ap aq _ _ _ _ _ _ hs4 o G G.fz; rw [aZ] at b; refine b.mono ?_; rintro _ a1 ⟨ax, ay, az, rfl, p, aA, hm⟩; refine ⟨_, rfl, ?_⟩; intro bi aB; have aC := hm
 replace a := Fz.le.trans a p
 have a2 : Mem B [] w0 Z0 ((.row b1 [.bool H.neg, .slice ax H.abs.length ay] 102) :: Rr) az a1 := aC
 have a3 := aw (aA.small)
 refine s1 aB 4 (pt b1 0) ?_; intro bj a4
 apply al
 exact r_ (ra1 a4 (pt b1 0) ⟨H, ax, ay, az, rfl, a3, a, aA, a2.kp⟩)
theorem gseti_walk (u0 : BInt) (u1 : Int) (b1 : Nat) (ao2 : Option Addr) (cap3 : Nat) (B : Nat) (w0 : World) (Z0 : Fz) (Rr : List Res) (Z : Fz) (w : World) (hs4 : SlR (tyInt .u32) Z ao2 cap3 u0.abs) (hM0 : Mem B [] w0 Z0 ((.row b1 [.bool u0.neg, .slice ao2 u0.abs.length cap3] 102) :: Rr) Z w) (hZ : Z.on w) {K : BInt → Prop} (hp : gseti_vc u0 u1 K) : Calls Tryz.prog 90 #[pt b1 0, i6 u1] w fun e w' => ∃ (r : BInt) (ao1001 : Option Addr) (cap1002 : Nat) (Z' : Fz), e = .returned (pt b1 0) ∧ K r ∧ Fz.le Z Z' ∧ SlR (tyInt .u32) Z' ao1001 cap1002 r.abs ∧ Mem B [] w0 Z0 ((.row b1 [.bool r.neg, .slice ao1001 r.abs.length cap1002] 102) :: Rr) Z' w' := by
 refine enter0 Tryz.func90 rfl rfl (by kernel_rfl) ?_; intro a0 o; have a := Fz.le.refl Z
 have d := hp (hs4.small)
 refine sqB o hM0 [] [] [] ?_; intro a7 p
 refine sqB p hM0 [] [] [(5, y6 (wu64 u1))] ?_; intro aA q
 refine s_ (sqB q hM0 [] [] [(9, .bool (decide (u1 < 0)))] ?_); intro aB c
 refine c_ c d (fun _ ae => ?_) fun _ ao => ?_
 ·
  refine rgB c hM0 [] [] [(5, y6 (wu64 (0 - (wu64 u1))))] ?_; intro aC s
  refine t_ (sqH ?_); intro af u
  refine bt s hM0 4 [] [] [(12, pt b1 0), (14, .bool (decide (u1 < 0))), (15, y6 (wu64 (0 - (wu64 u1))))] ?_; intro aD v
  obtain ⟨ag, x⟩ := ae
  refine ck v 109 #[y6 (wu64 (0 - (wu64 u1)))] ?_
  refine (gwords_fun (wu64 (0 - (wu64 u1))) ag _ _ hM0.fz).mono ?_; rintro _ ah ⟨y, z, ai, rfl, f, hm⟩; refine ⟨_, rfl, ?_⟩; intro aE A; have C := hM0.callZ hm; have D := hm.ext.le
  replace hs4 := hs4.mono D
  replace a := Fz.le.trans a D
  have i : Mem B [] w0 Z0 ((.row b1 [.bool u0.neg, .slice ao2 u0.abs.length cap3] 102) :: Rr) ai ah := C
  have E := x (f.small)
  refine ck A 88 #[pt b1 0, .bool (decide (u1 < 0)), .slice y (gwordsS (wu64 (0 - (wu64 u1)))).length z] ?_
  obtain ⟨j, aj, F⟩ := hxq E
  have b := ggive_fun u0 (decide (u1 < 0)) (gwordsS (wu64 (0 - (wu64 u1)))) b1 ao2 cap3 y z _ _ _ _ _ _ hs4 f i i.fz; rw [aj] at b; refine b.mono ?_; rintro _ ak ⟨G, H, I, rfl, k, J, hm⟩; refine ⟨_, rfl, ?_⟩; intro aF L; have M := hm
  replace a := Fz.le.trans a k
  have al : Mem B [] w0 Z0 ((.row b1 [.bool j.neg, .slice G j.abs.length H] 102) :: Rr) I ak := M
  have am := F (J.small)
  refine s1 L 4 (pt b1 0) ?_; intro aG an
  apply u
  exact r_ (ra1 an (pt b1 0) ⟨j, G, H, I, rfl, am, a, J, al.kp⟩)
 refine k_ (sqH ?_); intro ap N
 refine bt c hM0 4 [] [] [(12, pt b1 0), (14, .bool (decide (u1 < 0))), (15, y6 (wu64 u1))] ?_; intro aH O
 obtain ⟨aq, P⟩ := ao
 refine ck O 109 #[y6 (wu64 u1)] ?_
 refine (gwords_fun (wu64 u1) aq _ _ hM0.fz).mono ?_; rintro _ ar ⟨Q, R, au, rfl, g, hm⟩; refine ⟨_, rfl, ?_⟩; intro aI S; have T := hM0.callZ hm; have U := hm.ext.le
 replace hs4 := hs4.mono U
 replace a := Fz.le.trans a U
 have l : Mem B [] w0 Z0 ((.row b1 [.bool u0.neg, .slice ao2 u0.abs.length cap3] 102) :: Rr) au ar := T
 have V := P (g.small)
 refine ck S 88 #[pt b1 0, .bool (decide (u1 < 0)), .slice Q (gwordsS (wu64 u1)).length R] ?_
 obtain ⟨m, av, W⟩ := hxq V
 have b := ggive_fun u0 (decide (u1 < 0)) (gwordsS (wu64 u1)) b1 ao2 cap3 Q R _ _ _ _ _ _ hs4 g l l.fz; rw [av] at b; refine b.mono ?_; rintro _ aw ⟨X, Y, aa, rfl, n, ab, hm⟩; refine ⟨_, rfl, ?_⟩; intro aJ ac; have ad := hm
 replace a := Fz.le.trans a n
 have ax : Mem B [] w0 Z0 ((.row b1 [.bool m.neg, .slice X m.abs.length Y] 102) :: Rr) aa aw := ad
 have ay := W (ab.small)
 refine s1 ac 4 (pt b1 0) ?_; intro aK az
 apply N
 exact r_ (ra1 az (pt b1 0) ⟨m, X, Y, aa, rfl, ay, a, ab, ax.kp⟩)
theorem glsh_walk (u0 : BInt) (u1 : BInt) (u2 : Int) (b1 : Nat) (ao2 : Option Addr) (cap3 : Nat) (b5 : Nat) (ao6 : Option Addr) (cap7 : Nat) (B : Nat) (w0 : World) (Z0 : Fz) (Rr : List Res) (Z : Fz) (w : World) (hs4 : SlR (tyInt .u32) Z ao2 cap3 u0.abs) (hs8 : SlR (tyInt .u32) Z ao6 cap7 u1.abs) (hM0 : Mem B [] w0 Z0 ((.row b1 [.bool u0.neg, .slice ao2 u0.abs.length cap3] 102) :: (.row b5 [.bool u1.neg, .slice ao6 u1.abs.length cap7] 102) :: Rr) Z w) (hZ : Z.on w) {K : (BInt × BInt) → Prop} (hp : glsh_vc u0 u1 u2 K) : Calls Tryz.prog 66 #[pt b1 0, pt b5 0, y6 u2] w fun e w' => ∃ (r : BInt × BInt) (ao1001 : Option Addr) (cap1002 : Nat) (ao1004 : Option Addr) (cap1005 : Nat) (Z' : Fz), e = .returned (pt b1 0) ∧ K r ∧ Fz.le Z Z' ∧ SlR (tyInt .u32) Z' ao1001 cap1002 r.1.abs ∧ SlR (tyInt .u32) Z' ao1004 cap1005 r.2.abs ∧ Mem B [] w0 Z0 ((.row b1 [.bool r.1.neg, .slice ao1001 r.1.abs.length cap1002] 102) :: (.row b5 [.bool r.2.neg, .slice ao1004 r.2.abs.length cap1005] 102) :: Rr) Z' w' := by
 refine enter0 Tryz.func66 rfl rfl (by kernel_rfl) ?_; intro Q i; have b := Fz.le.refl Z
 have D := hp (hs4.small) (hs8.small)
 refine sqB i hM0 [] [] [] ?_; intro E k
 have l : Fr 19 [] [⟨0, [], pt b1 0⟩, ⟨1, [], pt b5 0⟩, ⟨2, [], y6 u2⟩] E := k.reg
 refine wp_seq (rgS mixed hM0 [(0, true), (1, true), (2, true), (3, true), (4, true), (5, true), (6, true), (7, true), (8, true), (9, true), (10, false), (11, false), (12, true)] [] [1] [.row b5 [.bool u1.neg, .slice ao6 u1.abs.length cap7] 102] ?_)
 intro F m R g
 have a := Fz.le.refl Z
 refine cS l 10 [0, 0] [] [(7, pt b1 0), (11, .bool u1.neg), (15, .slice ao6 u1.abs.length cap7), (16, y6 u2)] ?_; intro S n
 refine eS rfl ?_; intro G o
 obtain ⟨H, I⟩ := D
 refine ck n 89 #[.slice ao6 u1.abs.length cap7, y6 u2] ?_
 refine (gleft_fun u1.abs u2 H ao6 cap7 _ _ hs8 g.fz).mono ?_; rintro _ J ⟨p, q, L, rfl, h, hm⟩; refine ⟨_, rfl, ?_⟩; intro T s; have t := g.callZ hm; have d := hm.ext.le
 replace hs4 := hs4.mono d
 replace hs8 := hs8.mono d
 replace a := a.mono d
 replace b := Fz.le.trans b d
 have f : Mem B [] w0 Z0 ((.row b1 [.bool u0.neg, .slice ao2 u0.abs.length cap3] 102) :: (.row b5 [.bool u1.neg, .slice ao6 u1.abs.length cap7] 102) :: Rr) L J := t
 refine nl (qnI (o _ _ (f.cst a [1]) ?_))
 refine eS rfl ?_; intro M u
 refine ck s 88 #[pt b1 0, .bool u1.neg, .slice p (gleftS u1.abs u2).length q] ?_
 refine (ggive_fun u0 u1.neg (gleftS u1.abs u2) b1 ao2 cap3 p q _ _ _ _ _ _ hs4 h f f.fz).mono ?_; rintro _ N ⟨v, x, y, rfl, c, O, hm⟩; refine ⟨_, rfl, ?_⟩; intro U z; have A := hm
 replace hs8 := hs8.mono c
 replace a := a.mono c
 replace b := Fz.le.trans b c
 have C : Mem B [] w0 Z0 ((.row b1 [.bool (ggive u0 u1.neg (gleftS u1.abs u2)).neg, .slice v (ggive u0 u1.neg (gleftS u1.abs u2)).abs.length x] 102) :: (.row b5 [.bool u1.neg, .slice ao6 u1.abs.length cap7] 102) :: Rr) y N := A
 refine nl (qnI (u _ _ (C.cst a [1]) ?_))
 refine cS z 1 [] [] [(6, pt b1 0)] ?_; intro V P
 refine nS (m _ _ ?_)
 exact t_ (r_ (ra1 P (pt b1 0) ⟨((ggive u0 u1.neg (gleftS u1.abs u2)), u1), v, x, ao6, cap7, y, rfl, I, b, O, hs8, C.kp⟩))
theorem glshA_walk (u0 : BInt) (u2 : Int) (b1 : Nat) (ao2 : Option Addr) (cap3 : Nat) (B : Nat) (w0 : World) (Z0 : Fz) (Rr : List Res) (Z : Fz) (w : World) (hs4 : SlR (tyInt .u32) Z ao2 cap3 u0.abs) (hM0 : Mem B [] w0 Z0 ((.row b1 [.bool u0.neg, .slice ao2 u0.abs.length cap3] 102) :: Rr) Z w) (hZ : Z.on w) {K : BInt → Prop} (hp : glshA_vc u0 u2 K) : Calls Tryz.prog 66 #[pt b1 0, pt b1 0, y6 u2] w fun e w' => ∃ (r : BInt) (ao1001 : Option Addr) (cap1002 : Nat) (Z' : Fz), e = .returned (pt b1 0) ∧ K r ∧ Fz.le Z Z' ∧ SlR (tyInt .u32) Z' ao1001 cap1002 r.abs ∧ Mem B [] w0 Z0 ((.row b1 [.bool r.neg, .slice ao1001 r.abs.length cap1002] 102) :: Rr) Z' w' := by
 refine enter0 Tryz.func66 rfl rfl (by kernel_rfl) ?_; intro R i; have a := Fz.le.refl Z
 have C := hp (hs4.small)
 refine sqB i hM0 [] [] [] ?_; intro D j
 have k : Fr 19 [] [⟨0, [], pt b1 0⟩, ⟨1, [], pt b1 0⟩, ⟨2, [], y6 u2⟩] D := j.reg
 refine wp_seq (rgS mixed hM0 [(0, true), (1, true), (2, true), (3, true), (4, true), (5, true), (6, true), (7, true), (8, true), (9, true), (10, false), (11, false), (12, false)] [11, 12] [0] [.row b1 [.bool u0.neg, .slice ao2 u0.abs.length cap3] 102] ?_)
 intro E l S f
 have b := Fz.le.refl Z
 refine cS k 10 [0, 0] [] [(7, pt b1 0), (11, .bool u0.neg), (15, .slice ao2 u0.abs.length cap3), (16, y6 u2)] ?_; intro T m
 refine eS rfl ?_; intro F n
 obtain ⟨G, H⟩ := C
 refine ck m 89 #[.slice ao2 u0.abs.length cap3, y6 u2] ?_
 refine (gleft_fun u0.abs u2 G ao2 cap3 _ _ hs4 f.fz).mono ?_; rintro _ I ⟨o, p, J, rfl, g, hm⟩; refine ⟨_, rfl, ?_⟩; intro U q; have s := f.callZ hm; have h := hm.ext.le
 replace hs4 := hs4.mono h
 replace b := b.mono h
 replace a := Fz.le.trans a h
 have c : Mem B [] w0 Z0 ((.row b1 [.bool u0.neg, .slice ao2 u0.abs.length cap3] 102) :: Rr) J I := s
 refine nl (qnI (n _ _ (c.cst b [0]) ?_))
 refine eL rfl ?_; intro L t
 refine ck q 88 #[pt b1 0, .bool u0.neg, .slice o (gleftS u0.abs u2).length p] ?_
 refine (ggive_fun u0 u0.neg (gleftS u0.abs u2) b1 ao2 cap3 o p _ _ _ _ _ _ hs4 g c c.fz).mono ?_; rintro _ M ⟨u, v, x, rfl, d, N, hm⟩; refine ⟨_, rfl, ?_⟩; intro V y; have z := hm
 replace a := Fz.le.trans a d
 have O : Mem B [] w0 Z0 ((.row b1 [.bool (ggive u0 u0.neg (gleftS u0.abs u2)).neg, .slice u (ggive u0 u0.neg (gleftS u0.abs u2)).abs.length v] 102) :: Rr) x M := z
 refine nl (qnI (t _ _ ?_))
 refine eL rfl ?_; intro P A
 refine s1 y 6 (pt b1 0) ?_; intro W Q
 refine nl (qnI (A _ _ ?_))
 refine nS (l _ _ ?_)
 exact t_ (r_ (ra1 Q (pt b1 0) ⟨(ggive u0 u0.neg (gleftS u0.abs u2)), u, v, x, rfl, H, a, N, O.kp⟩))
theorem gblen_walk (u0 : BInt) (b1 : Nat) (ao2 : Option Addr) (cap3 : Nat) (B : Nat) (w0 : World) (Z0 : Fz) (Rr : List Res) (Z : Fz) (w : World) (hs4 : SlR (tyInt .u32) Z ao2 cap3 u0.abs) (hM0 : Mem B [] w0 Z0 ((.row b1 [.bool u0.neg, .slice ao2 u0.abs.length cap3] 102) :: Rr) Z w) (hZ : Z.on w) {K : (Int × BInt) → Prop} (hp : gblen_vc u0 K) : Calls Tryz.prog 70 #[pt b1 0] w fun e w' => ∃ (r : Int × BInt) (ao1001 : Option Addr) (cap1002 : Nat) (Z' : Fz), e = .returned (i6 r.1) ∧ K r ∧ Fz.le Z Z' ∧ SlR (tyInt .u32) Z' ao1001 cap1002 r.2.abs ∧ Mem B [] w0 Z0 ((.row b1 [.bool r.2.neg, .slice ao1001 r.2.abs.length cap1002] 102) :: Rr) Z' w' := by
 refine enter0 Tryz.func70 rfl rfl (by kernel_rfl) ?_; intro n a; have g := Fz.le.refl Z
 have h := hp (hs4.small)
 refine sqB a hM0 [] [] [] ?_; intro o b
 refine sqH ?_; intro i c
 refine bt b hM0 4 [0] [] [(6, .slice ao2 u0.abs.length cap3)] ?_; intro p d
 obtain ⟨j, k⟩ := h
 refine fc d hM0 (glength_fun u0.abs j ao2 cap3 _ _ hs4 hM0.fz) ?_; intro q s f l
 refine s1 f 2 (i6 (glengthS u0.abs)) ?_; intro t m
 apply c
 exact r_ (ra1 m (i6 (glengthS u0.abs)) ⟨((glengthS u0.abs), u0), ao2, cap3, Z, rfl, k, g, hs4, l.kp⟩)
theorem gint64_walk (u0 : BInt) (b1 : Nat) (ao2 : Option Addr) (cap3 : Nat) (B : Nat) (w0 : World) (Z0 : Fz) (Rr : List Res) (Z : Fz) (w : World) (hs4 : SlR (tyInt .u32) Z ao2 cap3 u0.abs) (hM0 : Mem B [] w0 Z0 ((.row b1 [.bool u0.neg, .slice ao2 u0.abs.length cap3] 102) :: Rr) Z w) (hZ : Z.on w) {K : (Int × BInt) → Prop} (hp : gint64_vc u0 K) : Calls Tryz.prog 72 #[pt b1 0] w fun e w' => ∃ (r : Int × BInt) (ao1001 : Option Addr) (cap1002 : Nat) (Z' : Fz), e = .returned (i6 r.1) ∧ K r ∧ Fz.le Z Z' ∧ SlR (tyInt .u32) Z' ao1001 cap1002 r.2.abs ∧ Mem B [] w0 Z0 ((.row b1 [.bool r.2.neg, .slice ao1001 r.2.abs.length cap1002] 102) :: Rr) Z' w' := by
 refine enter0 Tryz.func72 rfl rfl (by kernel_rfl) ?_; intro G g; have c := Fz.le.refl Z
 have v := hp (hs4.small)
 refine sqB g hM0 [] [] [] ?_; intro H h
 refine sqH ?_; intro x i
 refine s1 h 4 (pt b1 0) ?_; intro I j
 obtain ⟨y, k⟩ := v
 refine ck j 97 #[pt b1 0] ?_
 obtain ⟨a, z, l⟩ := hxq k
 have d := guint64_fun u0 y b1 ao2 cap3 _ _ _ _ _ _ hs4 hM0 hM0.fz; rw [z] at d; refine d.mono ?_; rintro _ A ⟨m, n, o, rfl, p, q, hm⟩; refine ⟨_, rfl, ?_⟩; intro J s; have t := hm
 replace c := Fz.le.trans c p
 have b : Mem B [] w0 Z0 ((.row b1 [.bool a.2.neg, .slice m a.2.abs.length n] 102) :: Rr) o A := t
 have C := l (q.small)
 refine bt s b 2 [] [] [(3, i6 (w64 a.1))] ?_; intro L u
 apply i
 refine s_ (sqB u b [0] [] [(10, .bool a.2.neg)] ?_); intro M f
 obtain ⟨D, E⟩ := C
 refine cn f D ?_
 refine k_ (sqB f b [] [] [(2, i6 (w64 a.1))] ?_); intro N F
 exact r_ (ra1 F (i6 (w64 a.1)) ⟨(w64 a.1, a.2), m, n, o, rfl, E, c, q, b.kp⟩)
theorem gsetstr_walk (u0 : BInt) (u1 : List UInt8) (b1 : Nat) (ao2 : Option Addr) (cap3 : Nat) (B : Nat) (w0 : World) (Z0 : Fz) (Rr : List Res) (Z : Fz) (w : World) (hs4 : SlR (tyInt .u32) Z ao2 cap3 u0.abs) (hM0 : Mem B [] w0 Z0 ((.row b1 [.bool u0.neg, .slice ao2 u0.abs.length cap3] 102) :: Rr) Z w) (hZ : Z.on w) {K : (Bool × Bool × BInt) → Prop} (hp : gsetstr_vc u0 u1 K) : Calls Tryz.prog 87 #[pt b1 0, str u1, i6 2] w fun e w' => ∃ (r : Bool × Bool × BInt) (ao1001 : Option Addr) (cap1002 : Nat) (Z' : Fz), e = .returned (.tuple #[.pointer (if r.1 = true then some ⟨b1, 0, none⟩ else none), .bool r.2.1]) ∧ K r ∧ Fz.le Z Z' ∧ SlR (tyInt .u32) Z' ao1001 cap1002 r.2.2.abs ∧ Mem B [] w0 Z0 ((.row b1 [.bool r.2.2.neg, .slice ao1001 r.2.2.abs.length cap1002] 102) :: Rr) Z' w' := by
 refine enter0 Tryz.func87 rfl rfl (by kernel_rfl) ?_; intro a0 X; have a := Fz.le.refl Z
 have be := hp (hs4.small)
 refine sqB X hM0 [] [] [] ?_; intro a9 Y
 refine sqB Y hM0 [] [] [(8, .bool false)] ?_; intro b9 aa
 refine s_ (sqH ?_); intro bf ab
 refine bt aa hM0 4 [] [] [(16, .bool (decide ((u1.length : Int) > 0)))] ?_; intro ca ac
 obtain ⟨bg, bh⟩ := be
 have A := ac.reval (d := 16) (c := []) (v := .bool (decide ((u1.length : Int) > 0))) (by kernel_rfl) (.bool true) (by rw [bg])
 refine g_ A true (str u1) ?_; intro cb C
 obtain ⟨bi, bj⟩ := bh
 obtain ⟨D, ad⟩ : ∃ q, u1[(0 : Int).toNat]? = some q := ⟨_, List.getElem?_eq_getElem (by omega)⟩; have bk := bj D ad
 refine v_ C (y8 (D.toNat : Int)) (wK C true) (stridx_run C (k := .i64) rfl (by kernel_rfl) (by kernel_rfl) (by kernel_rfl) bi.1 ad) ?_; intro cc ae
 refine bt ae hM0 2 [] [19, 20] [(20, .bool ((D.toNat : Int) == 45))] ?_; intro ce af
 obtain ⟨bl, bm⟩ := bk
 have E := af.reval (d := 20) (c := []) (v := .bool ((D.toNat : Int) == 45)) (by kernel_rfl) (.bool false) (by rw [bl])
 refine g_ E false (str u1) ?_; intro cf F
 obtain ⟨bn, bo⟩ := bm
 obtain ⟨M, ag⟩ : ∃ q, u1[(0 : Int).toNat]? = some q := ⟨_, List.getElem?_eq_getElem (by omega)⟩; have bp := bo M ag
 refine v_ F (y8 (M.toNat : Int)) (wK F false) (stridx_run F (k := .i64) rfl (by kernel_rfl) (by kernel_rfl) (by kernel_rfl) bn.1 ag) ?_; intro cg ah
 refine bt ah hM0 3 [] [23, 24, 25] [(25, .bool ((M.toNat : Int) == 43))] ?_; intro ch N
 apply ab
 obtain ⟨bq, br⟩ := bp
 refine cn N bq ?_
 refine k_ (s_ (sqB N hM0 [] [] [(32, .bool false)] ?_)); intro ci O
 refine cdF O (by kernel_rfl) ?_
 refine k_ (s_ (sqB O hM0 [] [] [(66, .bool ((((u1.length : Int) == 0) || false) || false))] ?_)); intro cj P
 obtain ⟨bs, bu⟩ := br
 refine cn P bs ?_
 refine k_ (sqB P hM0 [] [] [(9, .slice none 0 0)] ?_); intro cl ai
 refine s_ (sqB ai hM0 [] [] [(10, i6 0)] ?_); intro aj ak
 apply b_
 have al : Fr 124 [] [⟨0, [], pt b1 0⟩, ⟨1, [], str u1⟩, ⟨2, [], i6 2⟩, ⟨8, [], .bool false⟩, ⟨9, [], .slice none 0 0⟩, ⟨10, [], i6 0⟩] aj := ak.reg
 obtain ⟨bv, bw, bx, bz⟩ := bu
 refine lp (ι := (List Int) × Int × (Option Addr) × Nat × Fz) (fun s => [⟨0, [], pt b1 0⟩, ⟨1, [], str u1⟩, ⟨2, [], i6 2⟩, ⟨8, [], .bool false⟩, ⟨9, [], .slice s.2.2.1 s.1.length s.2.2.2.1⟩, ⟨10, [], i6 s.2.1⟩]) (fun s => ((.row b1 [.bool u0.neg, .slice ao2 u0.abs.length cap3] 102) :: Rr)) (fun s => s.2.2.2.2) (fun s => bv s.1 s.2.1 ∧ SlR (tyInt .u32) s.2.2.2.2 s.2.2.1 s.2.2.2.1 s.1 ∧ Fz.le Z s.2.2.2.2) (fun s => bw s.1 s.2.1) ⟨([] : List Int), 0, none, 0, Z⟩ ⟨bx, (SlR.nil _ _), Fz.le.refl _⟩ (by exact al.reg) (by exact hM0) ?_
 rintro ⟨h, l, n, o, bA⟩ ⟨bB, i, f⟩ bC bD an ao
 have G := bz h l bB
 replace a := Fz.le.trans a f
 have j := hs4.mono f
 refine s_ (sqB an ao [] [] [(70, .bool (decide (l < (u1.length : Int))))] ?_); intro co y
 refine c_ y G (fun _ bE => ?_) fun _ a2 => ?_
 ·
  refine k_ (s_ (b_ (sqB y ao [] [] [(11, i6 99)] ?_))); intro cp aq
  refine s_ (sqH ?_); intro bF ar
  refine bt aq ao 2 [] [] [(73, str u1), (74, i6 l)] ?_; intro cq au
  obtain ⟨bG, bH⟩ := bE
  obtain ⟨g, av⟩ : ∃ q, u1[l.toNat]? = some q := ⟨_, List.getElem?_eq_getElem (by omega)⟩; have bI := bH g av
  refine si au .i64 bG.1 av ?_; intro cr aw
  refine s1 aw 12 (y8 (g.toNat : Int)) ?_; intro cs ax
  apply ar
  refine b_ (sqB ax ao [] [] [(76, .bool ((decide ((g.toNat : Int) ≥ 48)) && (decide ((g.toNat : Int) ≤ 57))))] ?_); intro ct R
  obtain ⟨bJ, bK⟩ := bI
  refine cy R bJ ?_
  refine rgB R ao [] [] [(11, i6 (w64 (w8 ((g.toNat : Int) - 48))))] ?_; intro cu ay
  refine j_ (t_ (s_ (sqB ay ao [] [] [(110, .bool (decide ((w64 (w8 ((g.toNat : Int) - 48))) ≥ 2)))] ?_))); intro cv S
  obtain ⟨bL, bM⟩ := bK
  refine cn S bL ?_
  refine k_ (rgH ?_); intro bN az
  refine bt S ao 3 [] [] [(111, .slice n h.length o), (113, y6 2)] ?_; intro cw aA
  obtain ⟨bO, aB⟩ := bM
  refine ck aA 109 #[y6 2] ?_
  refine (gwords_fun 2 bO _ _ ao.fz).mono ?_; rintro _ bP ⟨aC, aD, bQ, rfl, m, hm⟩; refine ⟨_, rfl, ?_⟩; intro cx aE; have aF := ao.callZ hm; have H := hm.ext.le
  replace i := i.mono H
  replace f := f.mono H
  have T : Mem B [] w0 Z0 ((.row b1 [.bool u0.neg, .slice ao2 u0.abs.length cap3] 102) :: Rr) bQ bP := aF
  obtain ⟨bS, aG⟩ := aB (m.small)
  refine ck aE 108 #[.slice n h.length o, .slice aC (gwordsS 2).length aD] ?_
  refine (gmul_fun h (gwordsS 2) bS n o aC aD _ _ i m T.fz).mono ?_; rintro _ bT ⟨aH, aI, bU, rfl, u, hm⟩; refine ⟨_, rfl, ?_⟩; intro cz aJ; have aK := T.callZ hm; have z := hm.ext.le
  replace f := f.mono z
  have I : Mem B [] w0 Z0 ((.row b1 [.bool u0.neg, .slice ao2 u0.abs.length cap3] 102) :: Rr) bU bT := aK
  have bV := aG (u.small)
  refine bt aJ I 2 [] [] [(117, y6 (wu64 (w64 (w8 ((g.toNat : Int) - 48)))))] ?_; intro cA aL
  obtain ⟨bW, aM⟩ := bV
  refine ck aL 109 #[y6 (wu64 (w64 (w8 ((g.toNat : Int) - 48))))] ?_
  refine (gwords_fun (wu64 (w64 (w8 ((g.toNat : Int) - 48)))) bW _ _ I.fz).mono ?_; rintro _ bX ⟨aN, aO, bY, rfl, J, hm⟩; refine ⟨_, rfl, ?_⟩; intro cB aP; have aQ := I.callZ hm; have x := hm.ext.le
  replace f := f.mono x
  replace u := u.mono x
  have U : Mem B [] w0 Z0 ((.row b1 [.bool u0.neg, .slice ao2 u0.abs.length cap3] 102) :: Rr) bY bX := aQ
  obtain ⟨b0, aR⟩ := aM (J.small)
  refine ck aP 107 #[.slice aH (gmulS h (gwordsS 2)).length aI, .slice aN (gwordsS (wu64 (w64 (w8 ((g.toNat : Int) - 48))))).length aO] ?_
  refine (gadd_fun (gmulS h (gwordsS 2)) (gwordsS (wu64 (w64 (w8 ((g.toNat : Int) - 48))))) b0 aH aI aN aO _ _ u J U.fz).mono ?_; rintro _ b2 ⟨aS, aT, aU, rfl, aV, hm⟩; refine ⟨_, rfl, ?_⟩; intro cC aW; have aX := U.callZ hm; have p := hm.ext.le
  replace f := f.mono p
  have aY : Mem B [] w0 Z0 ((.row b1 [.bool u0.neg, .slice ao2 u0.abs.length cap3] 102) :: Rr) aU b2 := aX
  have aZ := aR (aV.small)
  refine s1 aW 9 (.slice aS (gaddS (gmulS h (gwordsS 2)) (gwordsS (wu64 (w64 (w8 ((g.toNat : Int) - 48)))))).length aT) ?_; intro cD a1
  apply az
  refine j_ (t_ (rgB a1 aY [] [] [(10, i6 (w64 (l + 1)))] ?_)); intro cE b3
  exact d_ ⟨⟨(gaddS (gmulS h (gwordsS 2)) (gwordsS (wu64 (w64 (w8 ((g.toNat : Int) - 48)))))), w64 (l + 1), aS, aT, aU⟩, ⟨aZ.1, aV, f⟩, aZ.2, (b3.reg).anyβ _ (by kernel_rfl), aY.kp⟩
 refine x_ (y_ (y_ (z_ (t_ (sqH ?_))))); intro b4 a3
 refine bt y ao 3 [] [] [(120, pt b1 0), (121, .bool false), (122, .slice n h.length o)] ?_; intro cF a4
 refine ck a4 88 #[pt b1 0, .bool false, .slice n h.length o] ?_
 obtain ⟨V, b5, a5⟩ := hxq a2
 have W := ggive_fun u0 false h b1 ao2 cap3 n o _ _ _ _ _ _ j i ao ao.fz; rw [b5] at W; refine W.mono ?_; rintro _ b6 ⟨a6, a7, a8, rfl, L, ba, hm⟩; refine ⟨_, rfl, ?_⟩; intro cG bb; have bc := hm
 replace a := Fz.le.trans a L
 have bd : Mem B [] w0 Z0 ((.row b1 [.bool V.neg, .slice a6 V.abs.length a7] 102) :: Rr) a8 b6 := bc
 have b7 := a5 (ba.small)
 refine bt bb bd 2 [] [] [(6, pt b1 0), (7, .bool true)] ?_; intro cH b8
 apply a3
 exact r_ (ra2 b8 (.tuple #[pt b1 0, .bool true]) ⟨(true, true, V), a6, a7, a8, rfl, b7, a, ba, bd.kp⟩)
theorem gset_walk (u0 : BInt) (b1 : Nat) (ao2 : Option Addr) (cap3 : Nat) (B : Nat) (w0 : World) (Z0 : Fz) (Rr : List Res) (Z : Fz) (w : World) (hs4 : SlR (tyInt .u32) Z ao2 cap3 u0.abs) (hM0 : Mem B [] w0 Z0 ((.row b1 [.bool u0.neg, .slice ao2 u0.abs.length cap3] 102) :: Rr) Z w) (hZ : Z.on w) {K : BInt → Prop} (hp : gset_vc u0 K) : Calls Tryz.prog 93 #[pt b1 0, pt b1 0] w fun e w' => ∃ (r : BInt) (ao1001 : Option Addr) (cap1002 : Nat) (Z' : Fz), e = .returned (pt b1 0) ∧ K r ∧ Fz.le Z Z' ∧ SlR (tyInt .u32) Z' ao1001 cap1002 r.abs ∧ Mem B [] w0 Z0 ((.row b1 [.bool r.neg, .slice ao1001 r.abs.length cap1002] 102) :: Rr) Z' w' := by
 refine enter0 Tryz.func93 rfl rfl (by kernel_rfl) ?_; intro V l; have a := Fz.le.refl Z
 have G := hp (hs4.small)
 refine sqB l hM0 [] [] [] ?_; intro H m
 have n : Fr 16 [] [⟨0, [], pt b1 0⟩, ⟨1, [], pt b1 0⟩] H := m.reg
 refine wp_seq (rgS mixed hM0 [(0, true), (1, true), (2, true), (3, true), (4, true), (5, true), (6, true), (7, true), (8, true), (9, false), (10, false), (11, false)] [10, 11] [0] [.row b1 [.bool u0.neg, .slice ao2 u0.abs.length cap3] 102] ?_)
 intro I o W d
 have b := Fz.le.refl Z
 refine cS n 9 [0, 0] [] [(5, pt b1 0), (9, .bool u0.neg), (13, .slice ao2 u0.abs.length cap3)] ?_; intro X p
 refine eS rfl ?_; intro J q
 obtain ⟨L, M⟩ := G
 refine ck p 111 #[.slice ao2 u0.abs.length cap3] ?_
 refine (gtwin_fun u0.abs L ao2 cap3 _ _ hs4 d.fz).mono ?_; rintro _ s ⟨f, g, N, rfl, hm⟩; refine ⟨_, rfl, ?_⟩; intro Y t; have u := d.callZ hm; have h := hm.ext.le
 replace hs4 := hs4.mono h
 replace b := b.mono h
 replace a := Fz.le.trans a h
 have v : Mem B [] w0 Z0 ((.own (tyInt .u32) 133 f g (gtwinS u0.abs)) :: (.row b1 [.bool u0.neg, .slice ao2 u0.abs.length cap3] 102) :: Rr) N s := u
 refine nl (qnI (q _ _ (v.cst b [1]) ?_))
 refine eL rfl ?_; intro O x
 obtain ⟨P, i, y, j⟩ := v.freeze 0 rfl
 replace hs4 := hs4.mono i
 replace a := Fz.le.trans a i
 have k : Mem B [] w0 Z0 ((.row b1 [.bool u0.neg, .slice ao2 u0.abs.length cap3] 102) :: Rr) P s := y
 refine ck t 88 #[pt b1 0, .bool u0.neg, .slice f (gtwinS u0.abs).length g] ?_
 refine (ggive_fun u0 u0.neg (gtwinS u0.abs) b1 ao2 cap3 f g _ _ _ _ _ _ hs4 j k k.fz).mono ?_; rintro _ Q ⟨z, A, C, rfl, c, R, hm⟩; refine ⟨_, rfl, ?_⟩; intro aa D; have E := hm
 replace a := Fz.le.trans a c
 have S : Mem B [] w0 Z0 ((.row b1 [.bool (ggive u0 u0.neg (gtwinS u0.abs)).neg, .slice z (ggive u0 u0.neg (gtwinS u0.abs)).abs.length A] 102) :: Rr) C Q := E
 refine nl (qnI (x _ _ ?_))
 refine eL rfl ?_; intro T F
 refine s1 D 4 (pt b1 0) ?_; intro ab U
 refine nl (qnI (F _ _ ?_))
 refine nS (o _ _ ?_)
 exact t_ (r_ (ra1 U (pt b1 0) ⟨(ggive u0 u0.neg (gtwinS u0.abs)), z, A, C, rfl, M, a, R, S.kp⟩))
end Go.Proofs.YtmnlahbngbigdaaGreatDoor
set_option linter.unusedVariables false
set_option linter.unusedSimpArgs false
set_option linter.defProp false
set_option maxRecDepth 100000
set_option maxHeartbeats 0
namespace Go.Proofs.YtmnlahbngbigdaaGreatDoor
open Go.Sy Go.RowKit
def gof_fun (u0 : BInt) (u1 : List Int) (hpre : wok u1 ∧ u1.length ≤ 1000000 ∧ ∀ q, u1[u1.length - 1]? = some q → q < 2147483648) (b1 : Nat) (ao2 : Option Addr) (cap3 : Nat) (ao5 : Option Addr) (cap6 : Nat) (B : Nat) (w0 : World) (Z0 : Fz) (Rr : List Res) (Z : Fz) (w : World) (hs4 : SlR (tyInt .u32) Z ao2 cap3 u0.abs) (hM0 : Mem B [] w0 Z0 ((.row b1 [.bool u0.neg, .slice ao2 u0.abs.length cap3] 102) :: (.own (tyInt .u32) 133 ao5 cap6 u1) :: Rr) Z w) (hZ : Z.on w) := fc_ (gof_walk u0 u1 b1 ao2 cap3 ao5 cap6 B w0 Z0 Rr Z w hs4 hM0 hZ (gof_ok u0 u1 hpre))
def gseti_fun (u0 : BInt) (u1 : Int) (hpre : 0 ≤ u1 ∧ u1 ≤ 9223372036854775807) (b1 : Nat) (ao2 : Option Addr) (cap3 : Nat) (B : Nat) (w0 : World) (Z0 : Fz) (Rr : List Res) (Z : Fz) (w : World) (hs4 : SlR (tyInt .u32) Z ao2 cap3 u0.abs) (hM0 : Mem B [] w0 Z0 ((.row b1 [.bool u0.neg, .slice ao2 u0.abs.length cap3] 102) :: Rr) Z w) (hZ : Z.on w) := fc_ (gseti_walk u0 u1 b1 ao2 cap3 B w0 Z0 Rr Z w hs4 hM0 hZ (gseti_ok u0 u1 hpre))
def glsh_fun (u0 : BInt) (u1 : BInt) (u2 : Int) (hpre : u1.neg = false ∧ wok u1.abs ∧ u1.abs.length ≤ 1000 ∧ 0 ≤ u2 ∧ u2 ≤ 100000) (b1 : Nat) (ao2 : Option Addr) (cap3 : Nat) (b5 : Nat) (ao6 : Option Addr) (cap7 : Nat) (B : Nat) (w0 : World) (Z0 : Fz) (Rr : List Res) (Z : Fz) (w : World) (hs4 : SlR (tyInt .u32) Z ao2 cap3 u0.abs) (hs8 : SlR (tyInt .u32) Z ao6 cap7 u1.abs) (hM0 : Mem B [] w0 Z0 ((.row b1 [.bool u0.neg, .slice ao2 u0.abs.length cap3] 102) :: (.row b5 [.bool u1.neg, .slice ao6 u1.abs.length cap7] 102) :: Rr) Z w) (hZ : Z.on w) := fe_ (glsh_walk u0 u1 u2 b1 ao2 cap3 b5 ao6 cap7 B w0 Z0 Rr Z w hs4 hs8 hM0 hZ (glsh_ok u0 u1 u2 hpre))
def glshA_fun (u0 : BInt) (u2 : Int) (hpre : u0.neg = false ∧ wok u0.abs ∧ u0.abs.length ≤ 1000 ∧ 0 ≤ u2 ∧ u2 ≤ 100000) (b1 : Nat) (ao2 : Option Addr) (cap3 : Nat) (B : Nat) (w0 : World) (Z0 : Fz) (Rr : List Res) (Z : Fz) (w : World) (hs4 : SlR (tyInt .u32) Z ao2 cap3 u0.abs) (hM0 : Mem B [] w0 Z0 ((.row b1 [.bool u0.neg, .slice ao2 u0.abs.length cap3] 102) :: Rr) Z w) (hZ : Z.on w) := fc_ (glshA_walk u0 u2 b1 ao2 cap3 B w0 Z0 Rr Z w hs4 hM0 hZ (glshA_ok u0 u2 hpre))
def gblen_fun (u0 : BInt) (hpre : u0.abs = ws (wv u0.abs) ∧ u0.abs.length ≤ 1000000) (b1 : Nat) (ao2 : Option Addr) (cap3 : Nat) (B : Nat) (w0 : World) (Z0 : Fz) (Rr : List Res) (Z : Fz) (w : World) (hs4 : SlR (tyInt .u32) Z ao2 cap3 u0.abs) (hM0 : Mem B [] w0 Z0 ((.row b1 [.bool u0.neg, .slice ao2 u0.abs.length cap3] 102) :: Rr) Z w) (hZ : Z.on w) := fc_ (gblen_walk u0 b1 ao2 cap3 B w0 Z0 Rr Z w hs4 hM0 hZ (gblen_ok u0 hpre))
def gint64_fun (u0 : BInt) (hpre : u0.neg = false ∧ wok u0.abs ∧ wv u0.abs < 9223372036854775808) (b1 : Nat) (ao2 : Option Addr) (cap3 : Nat) (B : Nat) (w0 : World) (Z0 : Fz) (Rr : List Res) (Z : Fz) (w : World) (hs4 : SlR (tyInt .u32) Z ao2 cap3 u0.abs) (hM0 : Mem B [] w0 Z0 ((.row b1 [.bool u0.neg, .slice ao2 u0.abs.length cap3] 102) :: Rr) Z w) (hZ : Z.on w) := fc_ (gint64_walk u0 b1 ao2 cap3 B w0 Z0 Rr Z w hs4 hM0 hZ (gint64_ok u0 hpre))
def gsetstr_fun (u0 : BInt) (u1 : List UInt8) (hpre : isRow u1 = true ∧ u1 ≠ [] ∧ u1.length ≤ 1000) (b1 : Nat) (ao2 : Option Addr) (cap3 : Nat) (B : Nat) (w0 : World) (Z0 : Fz) (Rr : List Res) (Z : Fz) (w : World) (hs4 : SlR (tyInt .u32) Z ao2 cap3 u0.abs) (hM0 : Mem B [] w0 Z0 ((.row b1 [.bool u0.neg, .slice ao2 u0.abs.length cap3] 102) :: Rr) Z w) (hZ : Z.on w) := fc_ (gsetstr_walk u0 u1 b1 ao2 cap3 B w0 Z0 Rr Z w hs4 hM0 hZ (gsetstr_ok u0 u1 hpre))
def gset_fun (u0 : BInt) (hpre : u0.neg = false ∧ u0.abs.length ≤ 1000000) (b1 : Nat) (ao2 : Option Addr) (cap3 : Nat) (B : Nat) (w0 : World) (Z0 : Fz) (Rr : List Res) (Z : Fz) (w : World) (hs4 : SlR (tyInt .u32) Z ao2 cap3 u0.abs) (hM0 : Mem B [] w0 Z0 ((.row b1 [.bool u0.neg, .slice ao2 u0.abs.length cap3] 102) :: Rr) Z w) (hZ : Z.on w) := fc_ (gset_walk u0 b1 ao2 cap3 B w0 Z0 Rr Z w hs4 hM0 hZ (gset_ok u0 hpre))
theorem gxor_walk (u0 : BInt) (u2 : BInt) (b1 : Nat) (ao2 : Option Addr) (cap3 : Nat) (b5 : Nat) (ao6 : Option Addr) (cap7 : Nat) (B : Nat) (w0 : World) (Z0 : Fz) (Rr : List Res) (Z : Fz) (w : World) (hs4 : SlR (tyInt .u32) Z ao2 cap3 u0.abs) (hs8 : SlR (tyInt .u32) Z ao6 cap7 u2.abs) (hM0 : Mem B [] w0 Z0 ((.row b1 [.bool u0.neg, .slice ao2 u0.abs.length cap3] 102) :: (.row b5 [.bool u2.neg, .slice ao6 u2.abs.length cap7] 102) :: Rr) Z w) (hZ : Z.on w) {K : (BInt × BInt) → Prop} (hp : gxor_vc u0 u2 K) : Calls Tryz.prog 68 #[pt b1 0, pt b1 0, pt b5 0] w fun e w' => ∃ (r : BInt × BInt) (ao1001 : Option Addr) (cap1002 : Nat) (ao1004 : Option Addr) (cap1005 : Nat) (Z' : Fz), e = .returned (pt b1 0) ∧ K r ∧ Fz.le Z Z' ∧ SlR (tyInt .u32) Z' ao1001 cap1002 r.1.abs ∧ SlR (tyInt .u32) Z' ao1004 cap1005 r.2.abs ∧ Mem B [] w0 Z0 ((.row b1 [.bool r.1.neg, .slice ao1001 r.1.abs.length cap1002] 102) :: (.row b5 [.bool r.2.neg, .slice ao1004 r.2.abs.length cap1005] 102) :: Rr) Z' w' := by
 refine enter0 Tryz.func68 rfl rfl (by kernel_rfl) ?_; intro a0 aa; have p := Fz.le.refl Z
 have bi := hp (hs4.small) (hs8.small)
 refine sqB aa hM0 [] [] [] ?_; intro bj ac
 have ad : Fr 47 [] [⟨0, [], pt b1 0⟩, ⟨1, [], pt b1 0⟩, ⟨2, [], pt b5 0⟩] bj := ac.reg
 refine sqQH mixed (by kernel_rfl) hM0 ?_; intro bk ae
 refine q1 ad 11 (pt b1 0) ?_; intro ch af
 refine q1 af 12 (pt b1 0) ?_; intro ci ag
 refine q1 ag 13 (pt b1 1) ?_; intro cj Q
 refine ql_ Q 0 1 (.slice ao2 u0.abs.length cap3) rfl rfl ?_; intro cl ah
 refine q1 ah 15 (i6 (u0.abs.length : Int)) ?_; intro cm ai
 refine q1 ai 16 (pt b5 0) ?_; intro cn aj
 refine q1 aj 17 (pt b5 0) ?_; intro co ak
 refine q1 ak 18 (pt b5 1) ?_; intro cp R
 refine ql_ R 1 1 (.slice ao6 u2.abs.length cap7) rfl rfl ?_; intro cq al
 refine q1 al 20 (i6 (u2.abs.length : Int)) ?_; intro cr S
 refine qu_ S (i6 (max (u0.abs.length : Int) (u2.abs.length : Int))) (fun v46 hC => re_ (p0 S (r := .ok (.value (i6 (if (u0.abs.length : Int) < (u2.abs.length : Int) then (u2.abs.length : Int) else (u0.abs.length : Int)))) v46) (by kernel_rfl)) (by rw [imax])) ?_; intro ct am
 refine q1 am 22 (i6 (w64 ((max (u0.abs.length : Int) (u2.abs.length : Int)) + 1))) ?_; intro cu an
 refine q1 an 7 (i6 (w64 ((max (u0.abs.length : Int) (u2.abs.length : Int)) + 1))) ?_; intro cv ao
 refine qnl (ae _ ?_); intro cw L
 refine sqH ?_; intro bl ap
 refine bt ao L 2 [] [] [(23, pt b1 0), (24, i6 (w64 ((max (u0.abs.length : Int) (u2.abs.length : Int)) + 1)))] ?_; intro cx aq
 obtain ⟨bm, ar⟩ := bi
 refine ck aq 91 #[pt b1 0, i6 (w64 ((max (u0.abs.length : Int) (u2.abs.length : Int)) + 1))] ?_
 obtain ⟨d, bn, au⟩ := hxq ar
 have l := glow_fun u0 (w64 ((max (u0.abs.length : Int) (u2.abs.length : Int)) + 1)) bm b1 ao2 cap3 _ _ _ _ _ _ hs4 L L.fz; rw [bn] at l; refine l.mono ?_; rintro _ bo ⟨i, f, v, x, bp, rfl, U, q, hm⟩; refine ⟨_, rfl, ?_⟩; intro cy av; have aw := hm
 replace hs8 := hs8.mono U
 replace p := Fz.le.trans p U
 have G : Mem B [] w0 Z0 ((.own (tyInt .u32) 133 i f d.1) :: (.row b1 [.bool d.2.neg, .slice v d.2.abs.length x] 102) :: (.row b5 [.bool u2.neg, .slice ao6 u2.abs.length cap7] 102) :: Rr) bp bo := aw
 have bq := au (G.ownSmall 0 rfl) (q.small)
 refine bt av G 2 [] [] [(26, pt b5 0), (27, i6 (w64 ((max (u0.abs.length : Int) (u2.abs.length : Int)) + 1)))] ?_; intro cz ay
 obtain ⟨br, az⟩ := bq
 refine ck ay 91 #[pt b5 0, i6 (w64 ((max (u0.abs.length : Int) (u2.abs.length : Int)) + 1))] ?_
 obtain ⟨a, bs, aA⟩ := hxq az
 have l := glow_fun u2 (w64 ((max (u0.abs.length : Int) (u2.abs.length : Int)) + 1)) br b5 ao6 cap7 _ _ _ _ _ _ hs8 (G.perm (pk 2 rfl)) G.fz; rw [bs] at l; refine l.mono ?_; rintro _ aB ⟨n, o, y, z, bu, rfl, M, D, hm⟩; refine ⟨_, rfl, ?_⟩; intro cA aC; have aD := hm
 replace q := q.mono M
 replace p := Fz.le.trans p M
 have N : Mem B [] w0 Z0 ((.own (tyInt .u32) 133 n o a.1) :: (.row b5 [.bool a.2.neg, .slice y a.2.abs.length z] 102) :: (.own (tyInt .u32) 133 i f d.1) :: (.row b1 [.bool d.2.neg, .slice v d.2.abs.length x] 102) :: Rr) bu aB := aD
 have bv := aA (N.ownSmall 0 rfl) (D.small)
 refine bt aC N 2 [] [] [(8, .slice i d.1.length f), (9, .slice n a.1.length o)] ?_; intro cB aF
 apply ap
 refine s_ (sqB aF N [] [] [(10, i6 0)] ?_); intro aG aH
 apply b_
 have aI : Fr 47 [] [⟨0, [], pt b1 0⟩, ⟨7, [], i6 (w64 ((max (u0.abs.length : Int) (u2.abs.length : Int)) + 1))⟩, ⟨8, [], .slice i d.1.length f⟩, ⟨9, [], .slice n a.1.length o⟩, ⟨10, [], i6 0⟩] aG := aH.reg
 obtain ⟨H, I, aJ, V⟩ := N.freeze 0 rfl
 replace q := q.mono I
 replace D := D.mono I
 replace p := Fz.le.trans p I
 have aK : Mem B [] w0 Z0 ((.row b5 [.bool a.2.neg, .slice y a.2.abs.length z] 102) :: (.own (tyInt .u32) 133 i f d.1) :: (.row b1 [.bool d.2.neg, .slice v d.2.abs.length x] 102) :: Rr) H aB := aJ
 have aL : Fr 47 [] [⟨0, [], pt b1 0⟩, ⟨7, [], i6 (w64 ((max (u0.abs.length : Int) (u2.abs.length : Int)) + 1))⟩, ⟨8, [], .slice i d.1.length f⟩, ⟨9, [], .slice n a.1.length o⟩, ⟨10, [], i6 0⟩] aG := aI.reg
 obtain ⟨bw, bx, bz, bA⟩ := bv
 refine lp (ι := Int × (List Int)) (fun s => [⟨0, [], pt b1 0⟩, ⟨7, [], i6 (w64 ((max (u0.abs.length : Int) (u2.abs.length : Int)) + 1))⟩, ⟨8, [], .slice i s.2.length f⟩, ⟨9, [], .slice n a.1.length o⟩, ⟨10, [], i6 s.1⟩]) (fun s => ((.row b5 [.bool a.2.neg, .slice y a.2.abs.length z] 102) :: (.own (tyInt .u32) 133 i f s.2) :: (.row b1 [.bool d.2.neg, .slice v d.2.abs.length x] 102) :: Rr)) (fun s => H) (fun s => bw s.1 s.2) (fun s => bx s.1 s.2) ⟨0, d.1⟩ bz (by exact aL.region (by kernel_rfl) (by kernel_rfl)) (by exact aK) ?_
 rintro ⟨c, h⟩ bB bC bD aM aN
 have O := bA c h bB
 refine s_ (sqB aM aN [] [] [(31, .bool (decide (c < (w64 ((max (u0.abs.length : Int) (u2.abs.length : Int)) + 1)))))] ?_); intro bE J
 refine cd J (t := decide (c < (w64 ((max (u0.abs.length : Int) (u2.abs.length : Int)) + 1)))) (by kernel_rfl) (fun W => ?_) (fun W => ?_)
 · -- yes
  have bF := O.1 W
  refine k_ (s_ (b_ ?_))
  have aP : Fr 47 [] [⟨0, [], pt b1 0⟩, ⟨7, [], i6 (w64 ((max (u0.abs.length : Int) (u2.abs.length : Int)) + 1))⟩, ⟨8, [], .slice i h.length f⟩, ⟨9, [], .slice n a.1.length o⟩, ⟨10, [], i6 c⟩] bE := J.reg
  refine rgS mixed aN [(0, true), (1, true), (4, true), (5, true), (6, true), (7, true), (2, false), (3, false), (8, true), (9, false), (10, false)] [9, 10] [] [] ?_
  intro bG aQ cC C
  have aR := Fz.le.refl H
  refine cS aP 4 [] [] [(34, .slice i h.length f), (35, i6 c), (38, .slice n a.1.length o), (39, i6 c)] ?_; intro cD aS
  obtain ⟨bH, aT⟩ := bF
  refine cix rfl aS (T := (tyInt .u32)) (xs := a.1) V c bH (k := .i64) (e := 133) (bytes := 4) (nog rfl _) rfl (by kernel_rfl) rfl (by kernel_rfl) (by kernel_rfl) (by kernel_rfl) ?_; intro bI bJ bK j cE bL bM bN X
  have bO := aT j bL
  obtain rfl : bK = ([.int .u32 j] : List Value) := bN
  refine cst rfl X (.int .u32 j) (nog rfl _) rfl (by kernel_rfl) (fun v167 hC => lz X hC.fz bM 0 (g := []) rfl (by kernel_rfl) (by kernel_rfl) (by kernel_rfl) rfl) ?_; intro cF aU
  refine eS rfl ?_; intro bP aV
  obtain ⟨bQ, aW⟩ := bO
  refine ixo aU C 1 (T := (tyInt .u32)) (xs := h) c bQ (k := .i64) (e := 133) (bytes := 4) (nog rfl _) rfl (by kernel_rfl) rfl (by kernel_rfl) (by kernel_rfl) rfl (by kernel_rfl) ?_; intro E cG bR aX
  subst bR
  refine nl (qnI (aV _ _ (C.cst aR []) ?_))
  refine eS rfl ?_; intro bS aY
  obtain ⟨m, bT, bU⟩ := gxq aW (by first | omega | (simp only [List.length_set] at *; omega))
  obtain ⟨bV, bW, bX⟩ := own_el C 1 (T := (tyInt .u32)) (xs := h) rfl c.toNat bT
  obtain rfl : bV = ([.int .u32 m] : List Value) := bW
  refine lc1 aX 37 (.int .u32 m) (bX 0 _ rfl) rfl ?_; intro cH aZ
  refine nl (qnI (aY _ _ (C.cst aR []) ?_))
  refine cS aZ 1 [] [] [(42, .int .u32 (bXor .u32 m j))] ?_; intro cI a1
  refine eL rfl ?_; intro bY a2
  obtain ⟨bZ, a3⟩ := bU
  refine ixo a1 C 1 (T := (tyInt .u32)) (xs := h) c bZ (k := .i64) (e := 133) (bytes := 4) (nog rfl _) rfl (by kernel_rfl) rfl (by kernel_rfl) (by kernel_rfl) rfl (by kernel_rfl) ?_; intro b0 b2 b3 P
  obtain rfl : E = b0 := by simpa using b3
  refine nl (qnI (a2 _ _ ?_))
  refine eL rfl ?_; intro b4 a4
  refine so P C 1 (T := (tyInt .u32)) (xs := h) c.toNat (bXor .u32 m j) (u := .int .u32 (bXor .u32 m j)) (nog rfl _) rfl rfl (by kernel_rfl) rfl (by kernel_rfl) rfl (by kernel_rfl) (by first | omega | (simp only [List.length_set] at *; omega)) rfl ?_; intro b6 a5
  have a6 : Fr 47 [] [⟨0, [], pt b1 0⟩, ⟨7, [], i6 (w64 ((max (u0.abs.length : Int) (u2.abs.length : Int)) + 1))⟩, ⟨8, [], .slice (sm E) (h.set c.toNat (bXor .u32 m j)).length f⟩, ⟨9, [], .slice n a.1.length o⟩, ⟨10, [], i6 c⟩, ⟨34, [], .slice (sm E) (h.set c.toNat (bXor .u32 m j)).length f⟩, ⟨35, [], i6 c⟩, ⟨36, [], .pointer (some ⟨E, c.toNat * 1, none⟩)⟩, ⟨37, [], .int .u32 m⟩, ⟨38, [], .slice n a.1.length o⟩, ⟨39, [], i6 c⟩, ⟨40, [], pt bI bJ⟩, ⟨41, [], .int .u32 j⟩, ⟨42, [], .int .u32 (bXor .u32 m j)⟩, ⟨43, [], .pointer (some ⟨E, c.toNat * 1, none⟩)⟩] b2 := by (try simp only [List.length_set] at P); (try simp only [List.length_set]); exact P.region (by kernel_rfl) (by kernel_rfl)
  have a7 : Mem B [] w0 Z0 ((.row b5 [.bool a.2.neg, .slice y a.2.abs.length z] 102) :: (.own (tyInt .u32) 133 (sm E) f (h.set c.toNat (bXor .u32 m j))) :: (.row b1 [.bool d.2.neg, .slice v d.2.abs.length x] 102) :: Rr) H b6 := a5
  refine nl (qnI (a4 _ _ ?_))
  refine nS (aQ _ _ ?_)
  refine j_ (t_ (rgB a6 a7 [] [] [(10, i6 (w64 (c + 1)))] ?_)); intro cJ b7
  exact d_ ⟨⟨w64 (c + 1), h.set c.toNat (bXor .u32 m j)⟩, a3.1, a3.2, (b7.region (by kernel_rfl) (by kernel_rfl)).anyβ _ (by kernel_rfl), a7.kp⟩
 · -- no
  have b8 := O.2 W
  refine x_ (y_ (y_ (z_ (t_ (sqH ?_))))); intro b9 a8
  refine bt J aN 2 [] [] [(44, pt b1 0), (45, .slice i h.length f)] ?_; intro cK a9
  obtain ⟨ca, ba⟩ := b8
  refine ck a9 92 #[pt b1 0, .slice i h.length f] ?_
  obtain ⟨Y, cb, bb⟩ := hxq ba
  have l := gof_fun d.2 h ca b1 v x i f _ _ _ _ _ _ q (aN.perm ((pk 2 rfl).trans (((pk 1 rfl).trans ((List.Perm.refl _).cons _)).cons _))) aN.fz; rw [cb] at l; refine l.mono ?_; rintro _ cc ⟨bc, bd, be, rfl, F, bf, hm⟩; refine ⟨_, rfl, ?_⟩; intro cL bg; have bh := hm
  replace D := D.mono F
  replace p := Fz.le.trans p F
  have ce : Mem B [] w0 Z0 ((.row b1 [.bool Y.neg, .slice bc Y.abs.length bd] 102) :: (.row b5 [.bool a.2.neg, .slice y a.2.abs.length z] 102) :: Rr) be cc := bh
  have cf := bb (bf.small)
  refine s1 bg 6 (pt b1 0) ?_; intro cM cg
  apply a8
  exact r_ (ra1 cg (pt b1 0) ⟨(Y, a.2), bc, bd, y, z, be, rfl, cf, p, bf, D, ce.kp⟩)
theorem gsetbit_walk (u0 : BInt) (u2 : Int) (u3 : Int) (b1 : Nat) (ao2 : Option Addr) (cap3 : Nat) (B : Nat) (w0 : World) (Z0 : Fz) (Rr : List Res) (Z : Fz) (w : World) (hs4 : SlR (tyInt .u32) Z ao2 cap3 u0.abs) (hM0 : Mem B [] w0 Z0 ((.row b1 [.bool u0.neg, .slice ao2 u0.abs.length cap3] 102) :: Rr) Z w) (hZ : Z.on w) {K : BInt → Prop} (hp : gsetbit_vc u0 u2 u3 K) : Calls Tryz.prog 69 #[pt b1 0, pt b1 0, i6 u2, y6 u3] w fun e w' => ∃ (r : BInt) (ao1001 : Option Addr) (cap1002 : Nat) (Z' : Fz), e = .returned (pt b1 0) ∧ K r ∧ Fz.le Z Z' ∧ SlR (tyInt .u32) Z' ao1001 cap1002 r.abs ∧ Mem B [] w0 Z0 ((.row b1 [.bool r.neg, .slice ao1001 r.abs.length cap1002] 102) :: Rr) Z' w' := by
 refine enter0 Tryz.func69 rfl rfl (by kernel_rfl) ?_; intro a0 H; have i := Fz.le.refl Z
 have n := hp (hs4.small)
 refine sqB H hM0 [] [] [] ?_; intro a7 I
 refine s_ (sqB I hM0 [] [] [(12, .bool (decide (u2 < 0)))] ?_); intro bH m
 refine cd m (t := decide (u2 < 0)) (by kernel_rfl) (fun y => ?_) (fun y => ?_)
 · -- yes
  have aL := n.1 y
  refine sqH ?_; intro aM J
  refine bt m hM0 2 [] [] [(13, pt b1 0), (14, pt b1 0)] ?_; intro bI L
  obtain ⟨aN, M⟩ := aL
  refine ck L 93 #[pt b1 0, pt b1 0] ?_
  obtain ⟨z, aO, N⟩ := hxq M
  have h := gset_fun u0 aN b1 ao2 cap3 _ _ _ _ _ _ hs4 hM0 hM0.fz; rw [aO] at h; refine h.mono ?_; rintro _ aP ⟨O, P, Q, rfl, R, S, hm⟩; refine ⟨_, rfl, ?_⟩; intro bJ U; have V := hm
  replace i := Fz.le.trans i R
  have aQ : Mem B [] w0 Z0 ((.row b1 [.bool z.neg, .slice O z.abs.length P] 102) :: Rr) Q aP := V
  have aR := N (S.small)
  refine s1 U 8 (pt b1 0) ?_; intro bK aS
  apply J
  exact r_ (h_ (ra1 aS (pt b1 0) ⟨z, O, P, Q, rfl, aR, i, S, aQ.kp⟩))
 · -- no
  have aT := n.2 y
  refine k_ (sqB m hM0 [0] [] [(9, i6 (w64 ((max (u0.abs.length : Int) (w64 ((w64 (u2.tdiv 32)) + 1))) + 1)))] ?_); intro bL W
  refine sqH ?_; intro aU X
  refine bt W hM0 2 [] [] [(26, pt b1 0), (27, i6 (w64 ((max (u0.abs.length : Int) (w64 ((w64 (u2.tdiv 32)) + 1))) + 1)))] ?_; intro bM Y
  obtain ⟨aV, aa⟩ := aT
  refine ck Y 91 #[pt b1 0, i6 (w64 ((max (u0.abs.length : Int) (w64 ((w64 (u2.tdiv 32)) + 1))) + 1))] ?_
  obtain ⟨a, aW, ab⟩ := hxq aa
  have h := glow_fun u0 (w64 ((max (u0.abs.length : Int) (w64 ((w64 (u2.tdiv 32)) + 1))) + 1)) aV b1 ao2 cap3 _ _ _ _ _ _ hs4 hM0 hM0.fz; rw [aW] at h; refine h.mono ?_; rintro _ aX ⟨A, d, o, p, C, rfl, ac, q, hm⟩; refine ⟨_, rfl, ?_⟩; intro bN ad; have ae := hm
  replace i := Fz.le.trans i ac
  have j : Mem B [] w0 Z0 ((.own (tyInt .u32) 133 A d a.1) :: (.row b1 [.bool a.2.neg, .slice o a.2.abs.length p] 102) :: Rr) C aX := ae
  have aY := ab (j.ownSmall 0 rfl) (q.small)
  refine s1 ad 10 (.slice A a.1.length d) ?_; intro bO ag
  apply X
  refine sqH ?_; intro aZ ah
  refine bt ag j 3 [] [] [(29, .slice A a.1.length d), (31, i6 (w64 (u2.tdiv 32)))] ?_; intro bP ai
  obtain ⟨a1, aj⟩ := aY
  refine ixo ai j 0 (T := (tyInt .u32)) (xs := a.1) (w64 (u2.tdiv 32)) a1 (k := .i64) (e := 133) (bytes := 4) (nog rfl _) rfl (by kernel_rfl) rfl (by kernel_rfl) (by kernel_rfl) rfl (by kernel_rfl) ?_; intro c bQ a2 ak
  subst a2
  obtain ⟨b, a3, a4⟩ := gxq aj (by first | omega | (simp only [List.length_set] at *; omega))
  obtain ⟨a5, a6, a8⟩ := own_el j 0 (T := (tyInt .u32)) (xs := a.1) rfl (w64 (u2.tdiv 32)).toNat a3
  obtain rfl : a5 = ([.int .u32 b] : List Value) := a6
  refine lc1 ak 33 (.int .u32 b) (a8 0 _ rfl) rfl ?_; intro bR al
  refine bt al j 3 [] [] [(36, y6 ((wu64 u2).tmod 32))] ?_; intro bS D
  obtain ⟨a9, ba⟩ := a4
  refine u_ D (.int .u32 (bShl .u32 1 ((wu64 u2).tmod 32))) (shl_run D (g := []) (k' := .u64) rfl (by kernel_rfl) (by kernel_rfl) a9 rfl) ?_; intro bT am
  refine s1 am 38 (.int .u32 (bAndNot .u32 b (bShl .u32 1 ((wu64 u2).tmod 32)))) ?_; intro bU an
  obtain ⟨bb, bc⟩ := ba
  refine ixo an j 0 (T := (tyInt .u32)) (xs := a.1) (w64 (u2.tdiv 32)) bb (k := .i64) (e := 133) (bytes := 4) (nog rfl _) rfl (by kernel_rfl) rfl (by kernel_rfl) (by kernel_rfl) rfl (by kernel_rfl) ?_; intro bd be bf s
  obtain rfl : c = bd := by simpa using bf
  refine so s j 0 (T := (tyInt .u32)) (xs := a.1) (w64 (u2.tdiv 32)).toNat (bAndNot .u32 b (bShl .u32 1 ((wu64 u2).tmod 32))) (u := .int .u32 (bAndNot .u32 b (bShl .u32 1 ((wu64 u2).tmod 32)))) (nog rfl _) rfl rfl (by kernel_rfl) rfl (by kernel_rfl) rfl (by kernel_rfl) (by first | omega | (simp only [List.length_set] at *; omega)) rfl ?_; intro bg ao
  have ap : Fr 57 [] [⟨0, [], pt b1 0⟩, ⟨1, [], pt b1 0⟩, ⟨2, [], i6 u2⟩, ⟨3, [], y6 u3⟩, ⟨9, [], i6 (w64 ((max (u0.abs.length : Int) (w64 ((w64 (u2.tdiv 32)) + 1))) + 1))⟩, ⟨10, [], .slice (sm c) (a.1.set (w64 (u2.tdiv 32)).toNat (bAndNot .u32 b (bShl .u32 1 ((wu64 u2).tmod 32)))).length d⟩, ⟨12, [], .bool (decide (u2 < 0))⟩, ⟨26, [], pt b1 0⟩, ⟨27, [], i6 (w64 ((max (u0.abs.length : Int) (w64 ((w64 (u2.tdiv 32)) + 1))) + 1))⟩, ⟨28, [], .slice (sm c) (a.1.set (w64 (u2.tdiv 32)).toNat (bAndNot .u32 b (bShl .u32 1 ((wu64 u2).tmod 32)))).length d⟩, ⟨29, [], .slice (sm c) (a.1.set (w64 (u2.tdiv 32)).toNat (bAndNot .u32 b (bShl .u32 1 ((wu64 u2).tmod 32)))).length d⟩, ⟨31, [], i6 (w64 (u2.tdiv 32))⟩, ⟨32, [], .pointer (some ⟨c, (w64 (u2.tdiv 32)).toNat * 1, none⟩)⟩, ⟨33, [], .int .u32 b⟩, ⟨36, [], y6 ((wu64 u2).tmod 32)⟩, ⟨37, [], .int .u32 (bShl .u32 1 ((wu64 u2).tmod 32))⟩, ⟨38, [], .int .u32 (bAndNot .u32 b (bShl .u32 1 ((wu64 u2).tmod 32)))⟩, ⟨39, [], .pointer (some ⟨c, (w64 (u2.tdiv 32)).toNat * 1, none⟩)⟩] be := by (try simp only [List.length_set] at s); (try simp only [List.length_set]); exact s.region (by kernel_rfl) (by kernel_rfl)
  have l : Mem B [] w0 Z0 ((.own (tyInt .u32) 133 (sm c) d (a.1.set (w64 (u2.tdiv 32)).toNat (bAndNot .u32 b (bShl .u32 1 ((wu64 u2).tmod 32))))) :: (.row b1 [.bool a.2.neg, .slice o a.2.abs.length p] 102) :: Rr) C bg := ao
  apply ah
  refine sqH ?_; intro bh aq
  refine bt ap l 3 [] [] [(40, .slice (sm c) (a.1.set (w64 (u2.tdiv 32)).toNat (bAndNot .u32 b (bShl .u32 1 ((wu64 u2).tmod 32)))).length d), (42, i6 (w64 (u2.tdiv 32)))] ?_; intro bV ar
  obtain ⟨bi, au⟩ := bc
  refine ixo ar l 0 (T := (tyInt .u32)) (xs := a.1.set (w64 (u2.tdiv 32)).toNat (bAndNot .u32 b (bShl .u32 1 ((wu64 u2).tmod 32)))) (w64 (u2.tdiv 32)) bi (k := .i64) (e := 133) (bytes := 4) (nog rfl _) rfl (by kernel_rfl) rfl (by kernel_rfl) (by kernel_rfl) rfl (by kernel_rfl) ?_; intro bj bW bk av
  obtain rfl : c = bj := by simpa using bk
  obtain ⟨f, bl, bm⟩ := gxq au (by first | omega | (simp only [List.length_set] at *; omega))
  obtain ⟨bn, bo, bp⟩ := own_el l 0 (T := (tyInt .u32)) (xs := a.1.set (w64 (u2.tdiv 32)).toNat (bAndNot .u32 b (bShl .u32 1 ((wu64 u2).tmod 32)))) rfl (w64 (u2.tdiv 32)).toNat bl
  obtain rfl : bn = ([.int .u32 f] : List Value) := bo
  refine lc1 av 44 (.int .u32 f) (bp 0 _ rfl) rfl ?_; intro bX aw
  refine bt aw l 6 [] [] [(47, .int .u32 (wu32 (bAnd .u64 u3 1))), (50, y6 ((wu64 u2).tmod 32))] ?_; intro bY E
  obtain ⟨bq, br⟩ := bm
  refine u_ E (.int .u32 (bShl .u32 (wu32 (bAnd .u64 u3 1)) ((wu64 u2).tmod 32))) (shl_run E (g := []) (k' := .u64) rfl (by kernel_rfl) (by kernel_rfl) bq rfl) ?_; intro bZ ax
  refine s1 ax 52 (.int .u32 (bOr .u32 f (bShl .u32 (wu32 (bAnd .u64 u3 1)) ((wu64 u2).tmod 32)))) ?_; intro b0 ay
  obtain ⟨bs, bu⟩ := br
  refine ixo ay l 0 (T := (tyInt .u32)) (xs := a.1.set (w64 (u2.tdiv 32)).toNat (bAndNot .u32 b (bShl .u32 1 ((wu64 u2).tmod 32)))) (w64 (u2.tdiv 32)) bs (k := .i64) (e := 133) (bytes := 4) (nog rfl _) rfl (by kernel_rfl) rfl (by kernel_rfl) (by kernel_rfl) rfl (by kernel_rfl) ?_; intro bv bw bx v
  obtain rfl : c = bv := by simpa using bx
  refine so v l 0 (T := (tyInt .u32)) (xs := a.1.set (w64 (u2.tdiv 32)).toNat (bAndNot .u32 b (bShl .u32 1 ((wu64 u2).tmod 32)))) (w64 (u2.tdiv 32)).toNat (bOr .u32 f (bShl .u32 (wu32 (bAnd .u64 u3 1)) ((wu64 u2).tmod 32))) (u := .int .u32 (bOr .u32 f (bShl .u32 (wu32 (bAnd .u64 u3 1)) ((wu64 u2).tmod 32)))) (nog rfl _) rfl rfl (by kernel_rfl) rfl (by kernel_rfl) rfl (by kernel_rfl) (by first | omega | (simp only [List.length_set] at *; omega)) rfl ?_; intro bz az
  have aA : Fr 57 [] [⟨0, [], pt b1 0⟩, ⟨1, [], pt b1 0⟩, ⟨2, [], i6 u2⟩, ⟨3, [], y6 u3⟩, ⟨9, [], i6 (w64 ((max (u0.abs.length : Int) (w64 ((w64 (u2.tdiv 32)) + 1))) + 1))⟩, ⟨10, [], .slice (sm c) ((a.1.set (w64 (u2.tdiv 32)).toNat (bAndNot .u32 b (bShl .u32 1 ((wu64 u2).tmod 32)))).set (w64 (u2.tdiv 32)).toNat (bOr .u32 f (bShl .u32 (wu32 (bAnd .u64 u3 1)) ((wu64 u2).tmod 32)))).length d⟩, ⟨12, [], .bool (decide (u2 < 0))⟩, ⟨26, [], pt b1 0⟩, ⟨27, [], i6 (w64 ((max (u0.abs.length : Int) (w64 ((w64 (u2.tdiv 32)) + 1))) + 1))⟩, ⟨28, [], .slice (sm c) ((a.1.set (w64 (u2.tdiv 32)).toNat (bAndNot .u32 b (bShl .u32 1 ((wu64 u2).tmod 32)))).set (w64 (u2.tdiv 32)).toNat (bOr .u32 f (bShl .u32 (wu32 (bAnd .u64 u3 1)) ((wu64 u2).tmod 32)))).length d⟩, ⟨29, [], .slice (sm c) ((a.1.set (w64 (u2.tdiv 32)).toNat (bAndNot .u32 b (bShl .u32 1 ((wu64 u2).tmod 32)))).set (w64 (u2.tdiv 32)).toNat (bOr .u32 f (bShl .u32 (wu32 (bAnd .u64 u3 1)) ((wu64 u2).tmod 32)))).length d⟩, ⟨31, [], i6 (w64 (u2.tdiv 32))⟩, ⟨32, [], .pointer (some ⟨c, (w64 (u2.tdiv 32)).toNat * 1, none⟩)⟩, ⟨33, [], .int .u32 b⟩, ⟨36, [], y6 ((wu64 u2).tmod 32)⟩, ⟨37, [], .int .u32 (bShl .u32 1 ((wu64 u2).tmod 32))⟩, ⟨38, [], .int .u32 (bAndNot .u32 b (bShl .u32 1 ((wu64 u2).tmod 32)))⟩, ⟨39, [], .pointer (some ⟨c, (w64 (u2.tdiv 32)).toNat * 1, none⟩)⟩, ⟨40, [], .slice (sm c) ((a.1.set (w64 (u2.tdiv 32)).toNat (bAndNot .u32 b (bShl .u32 1 ((wu64 u2).tmod 32)))).set (w64 (u2.tdiv 32)).toNat (bOr .u32 f (bShl .u32 (wu32 (bAnd .u64 u3 1)) ((wu64 u2).tmod 32)))).length d⟩, ⟨42, [], i6 (w64 (u2.tdiv 32))⟩, ⟨43, [], .pointer (some ⟨c, (w64 (u2.tdiv 32)).toNat * 1, none⟩)⟩, ⟨44, [], .int .u32 f⟩, ⟨47, [], .int .u32 (wu32 (bAnd .u64 u3 1))⟩, ⟨50, [], y6 ((wu64 u2).tmod 32)⟩, ⟨51, [], .int .u32 (bShl .u32 (wu32 (bAnd .u64 u3 1)) ((wu64 u2).tmod 32))⟩, ⟨52, [], .int .u32 (bOr .u32 f (bShl .u32 (wu32 (bAnd .u64 u3 1)) ((wu64 u2).tmod 32)))⟩, ⟨53, [], .pointer (some ⟨c, (w64 (u2.tdiv 32)).toNat * 1, none⟩)⟩] bw := by (try simp only [List.length_set] at v); (try simp only [List.length_set]); exact v.region (by kernel_rfl) (by kernel_rfl)
  have x : Mem B [] w0 Z0 ((.own (tyInt .u32) 133 (sm c) d ((a.1.set (w64 (u2.tdiv 32)).toNat (bAndNot .u32 b (bShl .u32 1 ((wu64 u2).tmod 32)))).set (w64 (u2.tdiv 32)).toNat (bOr .u32 f (bShl .u32 (wu32 (bAnd .u64 u3 1)) ((wu64 u2).tmod 32))))) :: (.row b1 [.bool a.2.neg, .slice o a.2.abs.length p] 102) :: Rr) C bz := az
  apply aq
  refine sqH ?_; intro bA aB
  refine bt aA x 2 [] [] [(54, pt b1 0), (55, .slice (sm c) ((a.1.set (w64 (u2.tdiv 32)).toNat (bAndNot .u32 b (bShl .u32 1 ((wu64 u2).tmod 32)))).set (w64 (u2.tdiv 32)).toNat (bOr .u32 f (bShl .u32 (wu32 (bAnd .u64 u3 1)) ((wu64 u2).tmod 32)))).length d)] ?_; intro b2 aC
  obtain ⟨bB, aD⟩ := bu
  refine ck aC 92 #[pt b1 0, .slice (sm c) ((a.1.set (w64 (u2.tdiv 32)).toNat (bAndNot .u32 b (bShl .u32 1 ((wu64 u2).tmod 32)))).set (w64 (u2.tdiv 32)).toNat (bOr .u32 f (bShl .u32 (wu32 (bAnd .u64 u3 1)) ((wu64 u2).tmod 32)))).length d] ?_
  obtain ⟨F, bC, aE⟩ := hxq aD
  have h := gof_fun a.2 ((a.1.set (w64 (u2.tdiv 32)).toNat (bAndNot .u32 b (bShl .u32 1 ((wu64 u2).tmod 32)))).set (w64 (u2.tdiv 32)).toNat (bOr .u32 f (bShl .u32 (wu32 (bAnd .u64 u3 1)) ((wu64 u2).tmod 32)))) bB b1 o p (sm c) d _ _ _ _ _ _ q (x.perm ((pk 1 rfl).trans ((List.Perm.refl _).cons _))) x.fz; rw [bC] at h; refine h.mono ?_; rintro _ bD ⟨aF, aG, aH, rfl, G, aI, hm⟩; refine ⟨_, rfl, ?_⟩; intro b3 aJ; have aK := hm
  replace i := Fz.le.trans i G
  have bE : Mem B [] w0 Z0 ((.row b1 [.bool F.neg, .slice aF F.abs.length aG] 102) :: Rr) aH bD := aK
  have bF := aE (aI.small)
  refine s1 aJ 8 (pt b1 0) ?_; intro b4 bG
  apply aB
  exact r_ (ra1 bG (pt b1 0) ⟨F, aF, aG, aH, rfl, bF, i, aI, bE.kp⟩)
theorem gnew_walk (u0 : Int)  (Z : Fz) (w : World)  (hZ : Z.on w) {K : BInt → Prop} (hp : gnew_vc u0 K) : Calls Tryz.prog 67 #[i6 u0] w fun e w' => ∃ (r : BInt) (b1001 : Nat) (ao1002 : Option Addr) (cap1003 : Nat) (Z' : Fz), e = .returned (pt b1001 0) ∧ K r ∧ SlR (tyInt .u32) Z' ao1002 cap1003 r.abs ∧ Mem w.heap.size [] w Z [.row b1001 [.bool r.neg, .slice ao1002 r.abs.length cap1003] 102] Z' w' := by
 refine enter0 Tryz.func67 rfl rfl (by kernel_rfl) ?_; intro E g; have b := Mem.start w Z hZ
 refine sqB g b [] [] [] ?_; intro F i
 refine sqH ?_; intro v j
 refine nw i b pb [.bool false, .slice none 0 0] 102 ?_; intro a G H k c
 refine s1 k 4 (i6 u0) ?_; intro I l
 obtain ⟨x, m⟩ := hp
 refine ck l 90 #[pt a 0, i6 u0] ?_
 obtain ⟨d, y, n⟩ := hxq m
 have f := gseti_fun (⟨false, []⟩ : BInt) u0 x a none 0 _ _ _ _ _ _ (SlR.nil _ _) c c.fz; rw [y] at f; refine f.mono ?_; rintro _ z ⟨o, p, q, rfl, A, s, hm⟩; refine ⟨_, rfl, ?_⟩; intro J t; have u := hm
 have B : Mem w.heap.size [] w Z [.row a [.bool d.neg, .slice o d.abs.length p] 102] q z := u
 have C := n (s.small)
 refine s1 t 2 (pt a 0) ?_; intro L D
 apply j
 exact r_ (ra1 D (pt a 0) ⟨d, a, o, p, q, rfl, C, s, B.kp⟩)
theorem rvalue_walk (u0 : List UInt8)  (Z : Fz) (w : World)  (hZ : Z.on w) {K : BInt → Prop} (hp : rvalue_vc u0 K) : Calls Tryz.prog 65 #[str u0] w fun e w' => ∃ (r : BInt) (b1001 : Nat) (ao1002 : Option Addr) (cap1003 : Nat) (Z' : Fz), e = .returned (pt b1001 0) ∧ K r ∧ SlR (tyInt .u32) Z' ao1002 cap1003 r.abs ∧ Mem w.heap.size [] w Z [.row b1001 [.bool r.neg, .slice ao1002 r.abs.length cap1003] 102] Z' w' := by
 refine enter0 Tryz.func65 rfl rfl (by kernel_rfl) ?_; intro O i; have d := Mem.start w Z hZ
 refine sqB i d [] [] [] ?_; intro P k
 refine sqH ?_; intro C l
 refine nw k d pb [.bool false, .slice none 0 0] 102 ?_; intro a Q R m b
 refine s1 m 3 (pt a 0) ?_; intro S n
 apply l
 refine s_ (sqB n b [] [17] [(6, .bool (u0 != ([] : List UInt8)))] ?_); intro T c
 refine cd c (t := u0 != ([] : List UInt8)) (by kernel_rfl) (fun f => ?_) (fun f => ?_)
 · -- yes
  have D := hp.1 f
  refine rgH ?_; intro E o
  refine bt c b 2 [] [] [(7, pt a 0), (8, str u0)] ?_; intro U p
  obtain ⟨F, q⟩ := D
  refine ck p 87 #[pt a 0, str u0, i6 2] ?_
  obtain ⟨g, G, s⟩ := hxq q
  have h := gsetstr_fun (⟨false, []⟩ : BInt) u0 F a none 0 _ _ _ _ _ _ (SlR.nil _ _) b b.fz; rw [G] at h; refine h.mono ?_; rintro _ H ⟨u, v, x, rfl, I, y, hm⟩; refine ⟨_, rfl, ?_⟩; intro V z; have A := hm
  have B : Mem w.heap.size [] w Z [.row a [.bool g.2.2.neg, .slice u g.2.2.abs.length v] 102] x H := A
  have J := s (y.small)
  apply o
  refine t_ (sqB z B [] [] [(2, pt a 0)] ?_); intro W L
  exact r_ (ra1 L (pt a 0) ⟨g.2.2, a, u, v, x, rfl, J, y, B.kp⟩)
 · -- no
  have M := hp.2 f
  refine k_ (sqB c b [] [] [(2, pt a 0)] ?_); intro X N
  exact r_ (ra1 N (pt a 0) ⟨(⟨false, []⟩ : BInt), a, none, 0, Z, rfl, M, (SlR.nil _ _), b.kp⟩)
end Go.Proofs.YtmnlahbngbigdaaGreatDoor
set_option linter.unusedVariables false
set_option linter.unusedSimpArgs false
set_option linter.defProp false
namespace Go.Proofs.YtmnlahbngbigdaaGreatDoor
open Go.Sy Go.RowKit
def gxor_fun (u0 : BInt) (u2 : BInt) (hpre : (u0.neg = false ∧ wok u0.abs ∧ u0.abs.length ≤ 1000) ∧ u2.neg = false ∧ wok u2.abs ∧ u2.abs.length ≤ 1000) (b1 : Nat) (ao2 : Option Addr) (cap3 : Nat) (b5 : Nat) (ao6 : Option Addr) (cap7 : Nat) (B : Nat) (w0 : World) (Z0 : Fz) (Rr : List Res) (Z : Fz) (w : World) (hs4 : SlR (tyInt .u32) Z ao2 cap3 u0.abs) (hs8 : SlR (tyInt .u32) Z ao6 cap7 u2.abs) (hM0 : Mem B [] w0 Z0 ((.row b1 [.bool u0.neg, .slice ao2 u0.abs.length cap3] 102) :: (.row b5 [.bool u2.neg, .slice ao6 u2.abs.length cap7] 102) :: Rr) Z w) (hZ : Z.on w) := fe_ (gxor_walk u0 u2 b1 ao2 cap3 b5 ao6 cap7 B w0 Z0 Rr Z w hs4 hs8 hM0 hZ (gxor_ok u0 u2 hpre))
def gsetbit_fun (u0 : BInt) (u2 : Int) (u3 : Int) (hpre : u0.neg = false ∧ u0.abs = ws (wv u0.abs) ∧ wv u0.abs < 2 ^ u2.toNat ∧ 0 ≤ u2 ∧ u2 ≤ 30 ∧ u3 = 1) (b1 : Nat) (ao2 : Option Addr) (cap3 : Nat) (B : Nat) (w0 : World) (Z0 : Fz) (Rr : List Res) (Z : Fz) (w : World) (hs4 : SlR (tyInt .u32) Z ao2 cap3 u0.abs) (hM0 : Mem B [] w0 Z0 ((.row b1 [.bool u0.neg, .slice ao2 u0.abs.length cap3] 102) :: Rr) Z w) (hZ : Z.on w) := fc_ (gsetbit_walk u0 u2 u3 b1 ao2 cap3 B w0 Z0 Rr Z w hs4 hM0 hZ (gsetbit_ok u0 u2 u3 hpre))
end Go.Proofs.YtmnlahbngbigdaaGreatDoor
namespace Go.Proofs
open Go.Shelf
def Tryz.lays105_ren : Go.Shelf.Ren := ⟨fun | 99 => 29 | 105 => 96 | 165 => 114 | 166 => 84 | 169 => 85 | 170 => 115 | 206 => 63 | 212 => 113 | 240 => 102 | 241 => 128 | 263 => 126 | 264 => 127 | 276 => 119 | 277 => 136 | n => n, fun | 37 => 22 | 46 => 62 | 51 => 133 | 53 => 74 | 70 => 121 | 72 => 123 | 75 => 125 | 76 => 126 | 80 => 60 | 109 => 148 | 127 => 144 | 146 => 154 | 148 => 162 | 164 => 152 | n => n, fun n => n⟩
theorem Tryz.lays105 : Lays.n105 Tryz.prog Tryz.lays105_ren := {
 mixed := by kernel_rfl
 f99 := Tryz.func29.trans (congrArg some (by kernel_rfl))
 f105 := Tryz.func96.trans (congrArg some (by kernel_rfl))
 f165 := Tryz.func114.trans (congrArg some (by kernel_rfl))
 f166 := Tryz.func84.trans (congrArg some (by kernel_rfl))
 f169 := Tryz.func85.trans (congrArg some (by kernel_rfl))
 f170 := Tryz.func115.trans (congrArg some (by kernel_rfl))
 f206 := Tryz.func63.trans (congrArg some (by kernel_rfl))
 f212 := Tryz.func113.trans (congrArg some (by kernel_rfl))
 f240 := Tryz.func102.trans (congrArg some (by kernel_rfl))
 f241 := Tryz.func128.trans (congrArg some (by kernel_rfl))
 f263 := Tryz.func126.trans (congrArg some (by kernel_rfl))
 f264 := Tryz.func127.trans (congrArg some (by kernel_rfl))
 f276 := Tryz.func119.trans (congrArg some (by kernel_rfl))
 f277 := Tryz.func136.trans (congrArg some (by kernel_rfl))
 t0 := Tryz.underlying0
 a0 := Tryz.isAgg0
 z0 := Tryz.sizeOf0
 v0 := Tryz.zeroValue0
 t3 := Tryz.underlying3
 a3 := Tryz.isAgg3
 z3 := Tryz.sizeOf3
 v3 := Tryz.zeroValue3
 t4 := Tryz.underlying4
 a4 := Tryz.isAgg4
 z4 := Tryz.sizeOf4
 v4 := Tryz.zeroValue4
 t5 := Tryz.underlying5
 a5 := Tryz.isAgg5
 z5 := Tryz.sizeOf5
 v5 := Tryz.zeroValue5
 t9 := Tryz.underlying9
 a9 := Tryz.isAgg9
 z9 := Tryz.sizeOf9
 v9 := Tryz.zeroValue9
 t20 := Tryz.underlying20
 a20 := Tryz.isAgg20
 z20 := Tryz.sizeOf20
 v20 := Tryz.zeroValue20
 t37 := Tryz.underlying22
 a37 := Tryz.isAgg22
 z37 := Tryz.sizeOf22
 v37 := Tryz.zeroValue22
 t46 := Tryz.underlying62
 a46 := Tryz.isAgg62
 z46 := Tryz.sizeOf62
 v46 := Tryz.zeroValue62
 t51 := Tryz.underlying133
 a51 := Tryz.isAgg133
 z51 := Tryz.sizeOf133
 v51 := Tryz.zeroValue133
 t53 := Tryz.underlying74
 a53 := Tryz.isAgg74
 z53 := Tryz.sizeOf74
 v53 := Tryz.zeroValue74
 t70 := Tryz.underlying121
 a70 := Tryz.isAgg121
 z70 := Tryz.sizeOf121
 v70 := Tryz.zeroValue121
 t72 := Tryz.underlying123
 a72 := Tryz.isAgg123
 z72 := Tryz.sizeOf123
 v72 := Tryz.zeroValue123
 t75 := Tryz.underlying125
 a75 := Tryz.isAgg125
 z75 := Tryz.sizeOf125
 v75 := Tryz.zeroValue125
 t76 := Tryz.underlying126
 a76 := Tryz.isAgg126
 z76 := Tryz.sizeOf126
 v76 := Tryz.zeroValue126
 t109 := Tryz.underlying148
 a109 := Tryz.isAgg148
 z109 := Tryz.sizeOf148
 v109 := Tryz.zeroValue148
 t127 := Tryz.underlying144
 a127 := Tryz.isAgg144
 z127 := Tryz.sizeOf144
 v127 := Tryz.zeroValue144
 t146 := Tryz.underlying154
 a146 := Tryz.isAgg154
 z146 := Tryz.sizeOf154
 v146 := Tryz.zeroValue154
 t148 := Tryz.underlying162
 a148 := Tryz.isAgg162
 z148 := Tryz.sizeOf162
 v148 := Tryz.zeroValue162
 t164 := Tryz.underlying152
 a164 := Tryz.isAgg152
 z164 := Tryz.sizeOf152
 v164 := Tryz.zeroValue152 }
theorem Tryz.lays105X : Builder.Extra Tryz.prog Tryz.lays105_ren := {
 sizeBuilder := by kernel_rfl
 liesBuilder := by kernel_rfl
 t5 := by kernel_rfl
 a5 := fun w => by kernel_rfl
 z5 := fun w => by kernel_rfl
 v5 := fun w => by kernel_rfl
 infoByte := by kernel_rfl
 cellsByte := by kernel_rfl
 sizeByte := by kernel_rfl
 neB5 := by decide }
end Go.Proofs
set_option linter.unusedVariables false
set_option linter.unusedSimpArgs false
set_option linter.defProp false
set_option maxRecDepth 100000
set_option maxHeartbeats 0
namespace Go.Proofs.YtmnlahbngbigdaaGreatDoor
open Go.Sy Go.RowKit
theorem srep_fun (u0 : List UInt8) (u1 : Int) (hpre : 0 ≤ u1 ∧ u1 ≤ 1000000 ∧ (u0.length : Int) * u1 ≤ 140737488355328) (Z : Fz) (w : World) (hZ : Z.on w) : Calls Tryz.prog 96 #[str u0, i6 u1] w fun e w' => e = .returned (str (srepS u0 u1)) ∧ Below w.heap.size w w' := by
 obtain ⟨m, rfl⟩ := Int.eq_ofNat_of_zero_le hpre.1
 have hl : u0.length * m ≤ 140737488355328 := by have := hpre.2.2; rw [← Int.natCast_mul] at this; omega
 have hm : m ≤ 1000000 := by have := hpre.2.1; omega
 have e : ∀ c : Nat, srepS u0 (c : Int) = Lib.repeatL u0 c := by
  intro c
  unfold srepS
  rw [Int.toNat_natCast]
  induction c with
  | zero => rfl
  | succ c ih => rw [List.replicate_succ, List.flatten_cons, ih]; rfl
 rw [e]
 exact Any.strings_Repeat Tryz.lays105 Tryz.lays105X ⟨⟨u0⟩⟩ m w (by omega) hl
theorem tz64_walk (u0 : Int)  (Z : Fz) (w : World) (hg5 : SlR t8 Z (sm 5) 64 deBruijn64) (hZ : Z.on w) {K : Int → Prop} (hp : tz64_vc u0 K) : Calls Tryz.prog 138 #[y6 u0] w fun e w' => ∃ r : Int, e = .returned (i6 r) ∧ K r ∧ Below w.heap.size w w' := by
 refine enter0 Tryz.func138 rfl rfl (by kernel_rfl) ?_; intro B f; have a := Mem.start w Z hZ
 refine sqB f a [] [] [] ?_; intro D g
 refine s_ (sqB g a [] [] [(4, .bool (u0 == 0))] ?_); intro E c
 refine cd c (t := u0 == 0) (by kernel_rfl) (fun d => ?_) (fun d => ?_)
 · -- yes
  have n := hp.1 d
  refine sqB c a [] [] [(2, i6 64)] ?_; intro F o
  exact r_ (h_ (ra1 o (i6 64) ⟨64, rfl, n, a.below⟩))
 · -- no
  have p := hp.2 d
  refine k_ (sqH ?_); intro q h
  refine bt c a 6 [] [] [(10, y6 (bShr .u64 (wu64 ((bAnd .u64 u0 (wu64 (0 - u0))) * 285870213051353865)) 58))] ?_; intro G i
  obtain ⟨s, j⟩ := p
  refine ixG i (T := t8) (xs := deBruijn64) hg5 (bShr .u64 (wu64 ((bAnd .u64 u0 (wu64 (0 - u0))) * 285870213051353865)) 58) 64 rfl s (e := 5) (k := .u64) (nog rfl _) rfl (by kernel_rfl) rfl (by kernel_rfl) (by kernel_rfl) (by kernel_rfl) ?_; intro H I u b J v x y l
  have z := j b v
  obtain rfl : u = ([y8 b] : List Value) := y
  refine z1 l a 12 x 0 (y8 b) rfl ?_; intro L m
  refine bt m a 2 [] [] [(2, i6 (w64 b))] ?_; intro M A
  apply h
  exact r_ (ra1 A (i6 (w64 b)) ⟨w64 b, rfl, z, a.below⟩)
theorem isp2_walk (u0 : Int)  (Z : Fz) (w : World)  (hZ : Z.on w) {K : Bool → Prop} (hp : isp2_vc u0 K) : Calls Tryz.prog 134 #[i6 u0] w fun e w' => ∃ r : Bool, e = .returned (.bool r) ∧ K r ∧ Below w.heap.size w w' := by
 refine enter0 Tryz.func134 rfl rfl (by kernel_rfl) ?_; intro f b; have a := Mem.start w Z hZ
 refine sqB b a [] [] [] ?_; intro h c
 refine sqB c a [] [] [(2, .bool ((bAnd .i64 u0 (w64 (u0 - 1))) == 0))] ?_; intro i d
 exact r_ (ra1 d (.bool ((bAnd .i64 u0 (w64 (u0 - 1))) == 0)) ⟨(bAnd .i64 u0 (w64 (u0 - 1))) == 0, rfl, hp, a.below⟩)
def isp2_fun (u0 : Int)  (Z : Fz) (w : World)  (hZ : Z.on w) := f_ (isp2_walk u0  Z w  hZ (isp2_ok u0))
end Go.Proofs.YtmnlahbngbigdaaGreatDoor
set_option linter.unusedVariables false
set_option linter.unusedSimpArgs false
set_option linter.defProp false
set_option maxRecDepth 100000
set_option maxHeartbeats 0
namespace Go.Proofs.YtmnlahbngbigdaaGreatDoor
open Go.Sy Go.RowKit
def tz64_fun (u0 : Int) (hpre : u0 = 2)  (Z : Fz) (w : World) (hg5 : SlR t8 Z (sm 5) 64 deBruijn64) (hZ : Z.on w) := f_ (tz64_walk u0  Z w hg5 hZ (tz64_ok u0 hpre))
theorem tz_walk (u0 : Int)  (Z : Fz) (w : World) (hg5 : SlR t8 Z (sm 5) 64 deBruijn64) (hZ : Z.on w) {K : Int → Prop} (hp : tz_vc u0 K) : Calls Tryz.prog 135 #[y6 u0] w fun e w' => ∃ r : Int, e = .returned (i6 r) ∧ K r ∧ Below w.heap.size w w' := by
 refine enter0 Tryz.func135 rfl rfl (by kernel_rfl) ?_; intro m c; have a := Mem.start w Z hZ
 refine sqB c a [] [] [] ?_; intro o b
 refine s_ (cdF b (by kernel_rfl) ?_)
 refine k_ (sqH ?_); intro h d
 refine s1 b 6 (y6 u0) ?_; intro p f
 obtain ⟨i, j⟩ := hp
 refine fc f a (tz64_fun u0 i _ _ hg5 a.fz) ?_; intro q s g k
 refine s1 g 2 (i6 (tz64S u0)) ?_; intro t l
 apply d
 exact r_ (ra1 l (i6 (tz64S u0)) ⟨(tz64S u0), rfl, j, k.below⟩)
theorem fbits_walk (u1 : Int) (u3 : Bool)  (Z : Fz) (w : World) (hg5 : SlR t8 Z (sm 5) 64 deBruijn64) (hZ : Z.on w) {K : ((List Int) × (List UInt8)) → Prop} (hp : fbits_vc u1 u3 K) : Calls Tryz.prog 125 #[.slice none 0 0, y6 u1, i6 2, .bool u3, .bool false] w fun e w' => ∃ (r : (List Int) × (List UInt8)) (ao1001 : Option Addr) (cap1002 : Nat) (Z' : Fz), e = .returned (.tuple #[.slice ao1001 r.1.length cap1002, str r.2]) ∧ K r ∧ Mem w.heap.size [] w Z [.own t8 5 ao1001 cap1002 r.1] Z' w' := by
 refine enter0 Tryz.func125 rfl rfl (by kernel_rfl) ?_; intro a0 M; have o := Mem.start w Z hZ
 refine sqB M o [] [] [(10, .slice none 0 0), (11, str [])] ?_; intro a4 O
 refine s_ (sqB O o [] [22, 23, 24, 26, 27, 28] [(28, .bool false)] ?_); intro bv z
 refine cdF z (by kernel_rfl) ?_
 refine k_ (sqH ?_); intro aL P
 refine alA (T := t8) z o 65 (y8 0) 0 171 (nog rfl _) rfl (by kernel_rfl) (by kernel_rfl) rfl (by decide) rfl ?_; intro c bw aM Q R
 have l : Mem w.heap.size [] w Z [.own t8 171 (sm c) 65 (List.replicate 65 (0 : Int))] Z aM := R
 apply P
 refine sqB Q l [] [] [(13, i6 65)] ?_; intro bx S
 refine s_ (sqB S l [] [] [(30, .bool u3)] ?_); intro bz A
 obtain ⟨U, aN⟩ := hp
 refine cn A U ?_
 refine k_ (s_ (sqH ?_)); intro aO V
 refine s1 A 33 (i6 2) ?_; intro bA W
 refine fc W l (isp2_fun 2 _ _ l.fz) ?_; intro bB bC B p
 apply V
 obtain ⟨aP, aQ⟩ := aN
 refine cy B aP ?_
 refine sqH ?_; intro aR X
 refine bt B p 2 [] [] [(36, y6 2)] ?_; intro bD Y
 refine ck Y 135 #[y6 2] ?_
 refine (tz_walk 2 _ _ hg5 p.fz aQ).mono ?_; rintro _ bE ⟨f, rfl, aS, hb⟩; refine ⟨_, rfl, ?_⟩; intro bF aa; have m := p.call hb
 refine bt aa m 2 [] [] [(14, y6 (wu64 f))] ?_; intro bG ab
 apply X
 refine sqB ab m [] [] [(15, y6 2)] ?_; intro bH ac
 refine sqB ac m [] [] [(16, y6 (wu64 (2 - 1)))] ?_; intro ad ae
 refine s_ (b_ ?_)
 have af : Fr 102 [] [⟨0, [], .slice none 0 0⟩, ⟨1, [], y6 u1⟩, ⟨3, [], .bool u3⟩, ⟨4, [], .bool false⟩, ⟨10, [], .slice none 0 0⟩, ⟨11, [], str []⟩, ⟨12, [], pt c 0⟩, ⟨13, [], i6 65⟩, ⟨14, [], y6 (wu64 f)⟩, ⟨15, [], y6 2⟩, ⟨16, [], y6 (wu64 (2 - 1))⟩] ad := ae.reg
 obtain ⟨aT, aU, aV, aW⟩ := aS
 refine lp (ι := Int × Int × (List Int)) (fun s => [⟨0, [], .slice none 0 0⟩, ⟨1, [], y6 s.1⟩, ⟨3, [], .bool u3⟩, ⟨4, [], .bool false⟩, ⟨10, [], .slice none 0 0⟩, ⟨11, [], str []⟩, ⟨12, [], pt c 0⟩, ⟨13, [], i6 s.2.1⟩, ⟨14, [], y6 (wu64 f)⟩, ⟨15, [], y6 2⟩, ⟨16, [], y6 (wu64 (2 - 1))⟩]) (fun s => [.own t8 171 (sm c) 65 s.2.2]) (fun s => Z) (fun s => aT s.1 s.2.1 s.2.2) (fun s => aU s.1 s.2.1 s.2.2) ⟨u1, 65, (List.replicate 65 (0 : Int))⟩ aV (by exact af.region (by kernel_rfl) (by kernel_rfl)) (by exact m) ?_
 rintro ⟨b, a, d⟩ aX aY aZ ah ai
 have v := aW b a d aX
 refine s_ (sqB ah ai [] [] [(46, .bool (decide (b ≥ 2)))] ?_); intro bI n
 refine cd n (t := decide (b ≥ 2)) (by kernel_rfl) (fun C => ?_) (fun C => ?_)
 · -- yes
  have a1 := v.1 C
  refine k_ (b_ (sqB n ai [] [] [(13, i6 (w64 (a - 1)))] ?_)); intro bJ ak
  refine sqH ?_; intro a2 al
  refine bt ak ai 4 [] [] [(49, i6 (w64 (a - 1))), (52, y6 (bAnd .u64 b (wu64 (2 - 1))))] ?_; intro bK am
  obtain ⟨a3, a5⟩ := a1
  obtain ⟨j, an⟩ : ∃ q, ([48, 49, 50, 51, 52, 53, 54, 55, 56, 57, 97, 98, 99, 100, 101, 102, 103, 104, 105, 106, 107, 108, 109, 110, 111, 112, 113, 114, 115, 116, 117, 118, 119, 120, 121, 122] : List UInt8)[(bAnd .u64 b (wu64 (2 - 1))).toNat]? = some q := ⟨_, List.getElem?_eq_getElem (by omega)⟩; have a6 := a5 j an
  refine si am .u64 a3.1 an ?_; intro bL ap
  obtain ⟨a7, a8⟩ := a6
  refine ixA (g := c) ap (w64 (a - 1)) 65 1 a7.1 (e := 5) (k := .i64) (nog rfl _) rfl (by kernel_rfl) rfl (by kernel_rfl) (by kernel_rfl) (by kernel_rfl) ?_; intro a9 x
  refine so x ai 0 (T := t8) (xs := d) (w64 (a - 1)).toNat (j.toNat : Int) (u := y8 (j.toNat : Int)) (nog rfl _) rfl rfl (by kernel_rfl) rfl (by kernel_rfl) rfl (by kernel_rfl) (by first | omega | (simp only [List.length_set] at *; omega)) rfl ?_; intro ba aq
  have ar : Fr 102 [] [⟨0, [], .slice none 0 0⟩, ⟨1, [], y6 b⟩, ⟨3, [], .bool u3⟩, ⟨4, [], .bool false⟩, ⟨10, [], .slice none 0 0⟩, ⟨11, [], str []⟩, ⟨12, [], pt c 0⟩, ⟨13, [], i6 (w64 (a - 1))⟩, ⟨14, [], y6 (wu64 f)⟩, ⟨15, [], y6 2⟩, ⟨16, [], y6 (wu64 (2 - 1))⟩, ⟨46, [], .bool (decide (b ≥ 2))⟩, ⟨49, [], i6 (w64 (a - 1))⟩, ⟨52, [], y6 (bAnd .u64 b (wu64 (2 - 1)))⟩, ⟨53, [], y8 (j.toNat : Int)⟩, ⟨54, [], .pointer (some ⟨c, (w64 (a - 1)).toNat * 1, none⟩)⟩] a9 := by (try simp only [List.length_set] at x); (try simp only [List.length_set]); exact x.region (by kernel_rfl) (by kernel_rfl)
  have au : Mem w.heap.size [] w Z [.own t8 171 (sm c) 65 (d.set (w64 (a - 1)).toNat (j.toNat : Int))] Z ba := aq
  apply al
  refine rgH ?_; intro bb av
  refine bt ar au 2 [] [] [(55, y6 b), (56, y6 (wu64 f))] ?_; intro bM D
  obtain ⟨bc, aw⟩ := a8
  refine u_ D (y6 (bShr .u64 b (wu64 f))) (shr_run D (g := []) (k' := .u64) rfl (by kernel_rfl) (by kernel_rfl) bc rfl) ?_; intro bN ax
  refine s1 ax 1 (y6 (bShr .u64 b (wu64 f))) ?_; intro bO bd
  apply av
  exact j_ (d_ ⟨⟨bShr .u64 b (wu64 f), w64 (a - 1), d.set (w64 (a - 1)).toNat (j.toNat : Int)⟩, aw.1, aw.2, (bd.region (by kernel_rfl) (by kernel_rfl)).anyβ _ (by kernel_rfl), au.kp⟩)
 · -- no
  have be := v.2 C
  refine x_ (y_ (y_ (z_ (t_ (sqB n ai [] [] [(13, i6 (w64 (a - 1)))] ?_))))); intro bP ay
  refine rgH ?_; intro bf az
  refine bt ay ai 2 [] [] [(60, i6 (w64 (a - 1))), (61, y6 b)] ?_; intro bQ aA
  obtain ⟨bg, bh⟩ := be
  obtain ⟨h, aB⟩ : ∃ q, ([48, 49, 50, 51, 52, 53, 54, 55, 56, 57, 97, 98, 99, 100, 101, 102, 103, 104, 105, 106, 107, 108, 109, 110, 111, 112, 113, 114, 115, 116, 117, 118, 119, 120, 121, 122] : List UInt8)[b.toNat]? = some q := ⟨_, List.getElem?_eq_getElem (by omega)⟩; have bi := bh h aB
  refine si aA .u64 bg.1 aB ?_; intro bR aC
  obtain ⟨bj, bk⟩ := bi
  refine ixA (g := c) aC (w64 (a - 1)) 65 1 bj.1 (e := 5) (k := .i64) (nog rfl _) rfl (by kernel_rfl) rfl (by kernel_rfl) (by kernel_rfl) (by kernel_rfl) ?_; intro bl y
  refine so y ai 0 (T := t8) (xs := d) (w64 (a - 1)).toNat (h.toNat : Int) (u := y8 (h.toNat : Int)) (nog rfl _) rfl rfl (by kernel_rfl) rfl (by kernel_rfl) rfl (by kernel_rfl) (by first | omega | (simp only [List.length_set] at *; omega)) rfl ?_; intro E aD
  have aE : Fr 102 [] [⟨0, [], .slice none 0 0⟩, ⟨1, [], y6 b⟩, ⟨3, [], .bool u3⟩, ⟨4, [], .bool false⟩, ⟨10, [], .slice none 0 0⟩, ⟨11, [], str []⟩, ⟨12, [], pt c 0⟩, ⟨13, [], i6 (w64 (a - 1))⟩, ⟨14, [], y6 (wu64 f)⟩, ⟨15, [], y6 2⟩, ⟨16, [], y6 (wu64 (2 - 1))⟩, ⟨46, [], .bool (decide (b ≥ 2))⟩, ⟨60, [], i6 (w64 (a - 1))⟩, ⟨61, [], y6 b⟩, ⟨62, [], y8 (h.toNat : Int)⟩, ⟨63, [], .pointer (some ⟨c, (w64 (a - 1)).toNat * 1, none⟩)⟩] bl := by (try simp only [List.length_set] at y); (try simp only [List.length_set]); exact y.region (by kernel_rfl) (by kernel_rfl)
  have F : Mem w.heap.size [] w Z [.own t8 171 (sm c) 65 (d.set (w64 (a - 1)).toNat (h.toNat : Int))] Z E := aD
  apply az
  refine t_ (s_ (sqB aE F [] [] [(89, .bool u3)] ?_)); intro bS G
  refine cn G U ?_
  refine k_ (s_ (sqB G F [] [] [(94, .bool false)] ?_)); intro bT H
  refine cdF H (by kernel_rfl) ?_
  refine k_ (sqH ?_); intro bm aF
  refine s1 H 99 (i6 (w64 (a - 1))) ?_; intro bU aG
  obtain ⟨aH, bn⟩ := bk
  obtain ⟨I, aI, aJ, bo⟩ := F.freeze 0 rfl
  have J : Mem w.heap.size [] w Z [] I E := aJ
  refine slA aG (T := t8) (xs := d.set (w64 (a - 1)).toNat (h.toNat : Int)) bo 65 (w64 (a - 1)) aH.2 aH.1 (e := 5) (k := .i64) (nog rfl _) rfl (by kernel_rfl) rfl (by kernel_rfl) (by kernel_rfl) (by kernel_rfl) ?_; intro bp bq bV bW br L
  refine u_ L (str (bstr ((d.set (w64 (a - 1)).toNat (h.toNat : Int)).drop (w64 (a - 1)).toNat))) (bstr_op L (g := []) (e := 5) (ao := bp) (cap := bq) (xs := ((d.set (w64 (a - 1)).toNat (h.toNat : Int)).drop (w64 (a - 1)).toNat)) rfl (by kernel_rfl) (by kernel_rfl) (by kernel_rfl) (by kernel_rfl) br J.fz rfl) ?_; intro bX aK
  refine s1 aK 11 (str (bstr ((d.set (w64 (a - 1)).toNat (h.toNat : Int)).drop (w64 (a - 1)).toNat))) ?_; intro bY bs
  apply aF
  apply r_
  have bu : Mem w.heap.size [] w Z [.own t8 5 none 0 ([] : List Int)] I E := J.addNil t8 5 (by decide)
  exact ra2 bs (.tuple #[.slice none ([] : List Int).length 0, str (bstr ((d.set (w64 (a - 1)).toNat (h.toNat : Int)).drop (w64 (a - 1)).toNat))]) ⟨(([] : List Int), bstr ((d.set (w64 (a - 1)).toNat (h.toNat : Int)).drop (w64 (a - 1)).toNat)), none, 0, I, rfl, bn, bu.kp⟩
end Go.Proofs.YtmnlahbngbigdaaGreatDoor
set_option linter.unusedVariables false
set_option linter.unusedSimpArgs false
set_option linter.defProp false
set_option maxRecDepth 100000
set_option maxHeartbeats 0
namespace Go.Proofs.YtmnlahbngbigdaaGreatDoor
open Go.Sy Go.RowKit
def fbits_fun (u1 : Int) (u3 : Bool) (hpre : u3 = false ∧ 0 ≤ u1 ∧ u1 ≤ 9223372036854775807)  (Z : Fz) (w : World) (hg5 : SlR t8 Z (sm 5) 64 deBruijn64) (hZ : Z.on w) := fc_ (fbits_walk u1 u3  Z w hg5 hZ (fbits_ok u1 u3 hpre))
theorem fint0_walk (u0 : Int)  (Z : Fz) (w : World) (hg5 : SlR t8 Z (sm 5) 64 deBruijn64) (hZ : Z.on w) {K : (List UInt8) → Prop} (hp : fint0_vc u0 K) : Calls Tryz.prog 112 #[i6 u0, i6 2] w fun e w' => ∃ r : (List UInt8), e = .returned (str r) ∧ K r ∧ Below w.heap.size w w' := by
 refine enter0 Tryz.func112 rfl rfl (by kernel_rfl) ?_; intro y d; have a := Mem.start w Z hZ
 refine sqB d a [] [] [] ?_; intro z g
 refine s_ (sqB g a [] [] [(11, .bool false)] ?_); intro A c
 refine cdF c (by kernel_rfl) ?_
 refine k_ (sqH ?_); intro o h
 refine bt c a 5 [] [] [(46, y6 (wu64 u0)), (47, i6 2), (49, .bool (decide (u0 < 0)))] ?_; intro B i
 obtain ⟨p, j⟩ := hp
 refine ck i 125 #[.slice none 0 0, y6 (wu64 u0), i6 2, .bool (decide (u0 < 0)), .bool false] ?_
 refine (fbits_fun (wu64 u0) (decide (u0 < 0)) p _ _ hg5 a.fz).mono ?_; rintro _ q ⟨s, t, u, rfl, hm⟩; refine ⟨_, rfl, ?_⟩; intro C k; have l := a.callZ hm
 have b : Mem w.heap.size [] w Z [.own t8 5 s t (fbitsS (wu64 u0) (decide (u0 < 0))).1] u q := l
 have v := j (b.ownSmall 0 rfl)
 refine bt k b 5 [] [] [(9, str (fbitsS (wu64 u0) (decide (u0 < 0))).2)] ?_; intro D n
 apply h
 refine sqB n b [] [] [(4, str (fbitsS (wu64 u0) (decide (u0 < 0))).2)] ?_; intro E x
 exact r_ (ra1 x (str (fbitsS (wu64 u0) (decide (u0 < 0))).2) ⟨(fbitsS (wu64 u0) (decide (u0 < 0))).2, rfl, v, b.below⟩)
end Go.Proofs.YtmnlahbngbigdaaGreatDoor
set_option linter.unusedVariables false
set_option linter.unusedSimpArgs false
set_option linter.defProp false
set_option maxRecDepth 100000
set_option maxHeartbeats 0
namespace Go.Proofs.YtmnlahbngbigdaaGreatDoor
open Go.Sy Go.RowKit
def fint0_fun (u0 : Int) (hpre : 0 ≤ u0 ∧ u0 ≤ 9223372036854775807)  (Z : Fz) (w : World) (hg5 : SlR t8 Z (sm 5) 64 deBruijn64) (hZ : Z.on w) := f_ (fint0_walk u0  Z w hg5 hZ (fint_ok u0 hpre))
theorem fint1_walk (u0 : Int)  (Z : Fz) (w : World) (hg5 : SlR t8 Z (sm 5) 64 deBruijn64) (hZ : Z.on w) {K : (List UInt8) → Prop} (hp : fint1_vc u0 K) : Calls Tryz.prog 95 #[i6 u0, i6 2] w fun e w' => ∃ r : (List UInt8), e = .returned (str r) ∧ K r ∧ Below w.heap.size w w' := by
 refine enter0 Tryz.func95 rfl rfl (by kernel_rfl) ?_; intro m b; have a := Mem.start w Z hZ
 refine sqB b a [] [] [] ?_; intro o c
 refine sqH ?_; intro h d
 refine bt c a 2 [] [] [(5, i6 u0), (6, i6 2)] ?_; intro p f
 obtain ⟨i, j⟩ := hp
 refine fc f a (fint0_fun u0 i _ _ hg5 a.fz) ?_; intro q s g k
 refine s1 g 4 (str (fintS u0)) ?_; intro t l
 apply d
 exact r_ (ra1 l (str (fintS u0)) ⟨(fintS u0), rfl, j, k.below⟩)
theorem rrow_walk (u0 : Int) (u1 : Int)  (Z : Fz) (w : World) (hg5 : SlR t8 Z (sm 5) 64 deBruijn64) (hZ : Z.on w) {K : ((List UInt8) × Bool) → Prop} (hp : rrow_vc u0 u1 K) : Calls Tryz.prog 71 #[i6 u0, i6 u1] w fun e w' => ∃ r : (List UInt8) × Bool, e = .returned (.tuple #[str r.1, .bool r.2]) ∧ K r ∧ Below w.heap.size w w' := by
 refine enter0 Tryz.func71 rfl rfl (by kernel_rfl) ?_; intro a0 m; have a := Mem.start w Z hZ
 refine sqB m a [] [] [] ?_; intro a4 n
 refine sqB n a [] [] [(6, str [])] ?_; intro a7 o
 refine s_ (sqB o a [] [] [(8, .bool (decide (u0 > 0)))] ?_); intro af d
 refine cd d (t := decide (u0 > 0)) (by kernel_rfl) (fun j => ?_) (fun j => ?_)
 · -- yes
  have I := hp.1 j
  refine rgH ?_; intro J p
  refine s1 d 9 (i6 u0) ?_; intro ag q
  refine ck q 95 #[i6 u0, i6 2] ?_
  refine (fint1_walk u0 _ _ hg5 a.fz I).mono ?_; rintro _ ah ⟨b, rfl, h, hb⟩; refine ⟨_, rfl, ?_⟩; intro ai s; have c := a.call hb
  refine s1 s 6 (str b) ?_; intro aj u
  apply p
  refine t_ (s_ (sqB u c [] [] [(14, .bool (decide ((b.length : Int) > u1)))] ?_)); intro ak f
  refine cd f (t := decide ((b.length : Int) > u1)) (by kernel_rfl) (fun k => ?_) (fun k => ?_)
  · -- yes
   have L := h.1 k
   refine sqB f c [] [] [(4, str []), (5, .bool false)] ?_; intro al M
   exact r_ (h_ (ra2 M (.tuple #[str [], .bool false]) ⟨([], false), rfl, L, c.below⟩))
  · -- no
   have N := h.2 k
   refine k_ (sqH ?_); intro O v
   refine bt f c 4 [] [] [(18, i6 (w64 (u1 - (b.length : Int))))] ?_; intro am x
   obtain ⟨P, Q⟩ := N
   refine fc x c (srep_fun ([48] : List UInt8) (w64 (u1 - (b.length : Int))) P _ _ c.fz) ?_; intro an ao y z
   refine s1 y 20 (str b) ?_; intro ap A
   obtain ⟨R, S⟩ := Q
   refine sa A R ?_; intro aq B
   refine bt B z 2 [] [] [(4, str ((srepS ([48] : List UInt8) (w64 (u1 - (b.length : Int)))) ++ b)), (5, .bool true)] ?_; intro ar T
   apply v
   exact r_ (ra2 T (.tuple #[str ((srepS ([48] : List UInt8) (w64 (u1 - (b.length : Int)))) ++ b), .bool true]) ⟨((srepS ([48] : List UInt8) (w64 (u1 - (b.length : Int)))) ++ b, true), rfl, S, z.below⟩)
 · -- no
  have i := hp.2 j
  refine k_ (s_ (sqB d a [] [] [(14, .bool (decide (0 > u1)))] ?_)); intro au g
  refine cd g (t := decide (0 > u1)) (by kernel_rfl) (fun l => ?_) (fun l => ?_)
  · -- yes
   have U := i.1 l
   refine sqB g a [] [] [(4, str []), (5, .bool false)] ?_; intro av V
   exact r_ (h_ (ra2 V (.tuple #[str [], .bool false]) ⟨([], false), rfl, U, a.below⟩))
  · -- no
   have W := i.2 l
   refine k_ (sqH ?_); intro X C
   refine bt g a 4 [] [] [(18, i6 (w64 (u1 - 0)))] ?_; intro aw D
   obtain ⟨Y, aa⟩ := W
   refine fc D a (srep_fun ([48] : List UInt8) (w64 (u1 - 0)) Y _ _ a.fz) ?_; intro ax ay E F
   refine s1 E 20 (str []) ?_; intro az G
   obtain ⟨ab, ac⟩ := aa
   refine sa G ab ?_; intro aA H
   refine bt H F 2 [] [] [(4, str ((srepS ([48] : List UInt8) (w64 (u1 - 0))) ++ ([] : List UInt8))), (5, .bool true)] ?_; intro aB ad
   apply C
   exact r_ (ra2 ad (.tuple #[str ((srepS ([48] : List UInt8) (w64 (u1 - 0))) ++ ([] : List UInt8)), .bool true]) ⟨((srepS ([48] : List UInt8) (w64 (u1 - 0))) ++ ([] : List UInt8), true), rfl, ac, F.below⟩)
end Go.Proofs.YtmnlahbngbigdaaGreatDoor
set_option linter.unusedVariables false
set_option linter.unusedSimpArgs false
set_option linter.defProp false
namespace Go.Proofs.YtmnlahbngbigdaaGreatDoor
open Go.Sy Go.RowKit
def rrow_fun (u0 : Int) (u1 : Int) (hpre : u0 ≤ 9223372036854775807 ∧ u1 ≤ 1000000)  (Z : Fz) (w : World) (hg5 : SlR t8 Z (sm 5) 64 deBruijn64) (hZ : Z.on w) := f_ (rrow_walk u0 u1  Z w hg5 hZ (rrow_ok u0 u1 hpre))
end Go.Proofs.YtmnlahbngbigdaaGreatDoor
set_option linter.unusedVariables false
set_option linter.unusedSimpArgs false
set_option maxRecDepth 100000
set_option maxHeartbeats 0
namespace Go.Proofs.YtmnlahbngbigdaaGreatDoor
open Go.Sy Go.RowKit
theorem gnew_fun (u0 : Int) (hpre : 0 ≤ u0 ∧ u0 ≤ 9223372036854775807)  (Z : Fz) (w : World)  (hZ : Z.on w) : Calls Tryz.prog 67 #[i6 u0] w fun e w' => ∃ (b1001 : Nat) (ao1002 : Option Addr) (cap1003 : Nat) (Z' : Fz), e = .returned (pt b1001 0) ∧ SlR (tyInt .u32) Z' ao1002 cap1003 (gnewS u0).abs ∧ Mem w.heap.size [] w Z [.row b1001 [.bool (gnewS u0).neg, .slice ao1002 (gnewS u0).abs.length cap1003] 102] Z' w' :=
 (gnew_walk u0  Z w  hZ (gnew_ok u0 hpre)).mono fun _ _ ⟨r, h0, h1, h2, h3, he, hk, f0, hm⟩ => by subst hk; exact ⟨h0, h1, h2, h3, he, f0, hm⟩
theorem rvalue_fun (u0 : List UInt8) (hpre : isRow u0 = true ∧ u0.length ≤ 1000)  (Z : Fz) (w : World)  (hZ : Z.on w) : Calls Tryz.prog 65 #[str u0] w fun e w' => ∃ (b1001 : Nat) (ao1002 : Option Addr) (cap1003 : Nat) (Z' : Fz), e = .returned (pt b1001 0) ∧ SlR (tyInt .u32) Z' ao1002 cap1003 (rvalueS u0).abs ∧ Mem w.heap.size [] w Z [.row b1001 [.bool (rvalueS u0).neg, .slice ao1002 (rvalueS u0).abs.length cap1003] 102] Z' w' :=
 (rvalue_walk u0  Z w  hZ (rvalue_ok u0 hpre)).mono fun _ _ ⟨r, h0, h1, h2, h3, he, hk, f0, hm⟩ => by subst hk; exact ⟨h0, h1, h2, h3, he, f0, hm⟩
theorem rsumof_walk (u0 : Int) (u1 : List UInt8)  (Z : Fz) (w : World) (hg5 : SlR t8 Z (sm 5) 64 deBruijn64) (hZ : Z.on w) {K : (List UInt8) → Prop} (hp : rsumof_vc u0 u1 K) : Calls Tryz.prog 35 #[i6 u0, str u1] w fun e w' => ∃ r : (List UInt8), e = .returned (str r) ∧ K r ∧ Below w.heap.size w w' := by
 refine enter0 Tryz.func35 rfl rfl (by kernel_rfl) ?_; intro a0 b7; have bH := Mem.start w Z hZ
 refine sqB b7 bH [] [] [] ?_; intro a2 b8
 refine sqH ?_; intro eK b9
 refine nw b8 bH (fun b => .slice (sm b) 5 5) [i6 15, i6 17, i6 21, i6 8, i6 16] 3 ?_; intro b5 a6 ca cb cc
 refine s1 cb 15 (i6 u0) ?_; intro gX ce
 have eL : Mem w.heap.size [] w Z [.own t6 3 (sm b5) 5 ([15, 17, 21, 8, 16] : List Int)] Z ca := cc.rowOwn (T := t6) (xs := ([15, 17, 21, 8, 16] : List Int)) 0 rfl (by decide) (by show 5 ≤ lim; decide) ((RepAll.one (T := t6) (x := 15) rfl).append ((RepAll.one (T := t6) (x := 17) rfl).append ((RepAll.one (T := t6) (x := 21) rfl).append ((RepAll.one (T := t6) (x := 8) rfl).append (RepAll.one (T := t6) (x := 16) rfl)))))
 obtain ⟨cf, cg, ch, o⟩ := eL.freeze 0 rfl
 replace hg5 := hg5.mono cg
 have bI : Mem w.heap.size [] w Z [] cf ca := ch
 obtain ⟨eM, ci⟩ := hp
 refine ix_ ce o u0 eM .i64 3 8 ?_; intro gY gZ eN g g0 eO p eP cj
 have eQ := ci g eO
 obtain rfl : eN = ([i6 g] : List Value) := eP
 refine z1 cj bI 17 p 0 (i6 g) rfl ?_; intro g1 cl
 refine s1 cl 5 (i6 g) ?_; intro g2 cm
 apply b9
 refine sqH ?_; intro eR cn
 refine nw cm bI (fun b => .slice (sm b) 5 5) [i6 17817, i6 92251, i6 1058969, i6 47, i6 4129] 2 ?_; intro eS g3 co cp cq
 refine s1 cp 19 (i6 u0) ?_; intro g4 cr
 have eT : Mem w.heap.size [] w Z [.own t6 2 (sm eS) 5 ([17817, 92251, 1058969, 47, 4129] : List Int)] cf co := cq.rowOwn (T := t6) (xs := ([17817, 92251, 1058969, 47, 4129] : List Int)) 0 rfl (by decide) (by show 5 ≤ lim; decide) ((RepAll.one (T := t6) (x := 17817) rfl).append ((RepAll.one (T := t6) (x := 92251) rfl).append ((RepAll.one (T := t6) (x := 1058969) rfl).append ((RepAll.one (T := t6) (x := 47) rfl).append (RepAll.one (T := t6) (x := 4129) rfl)))))
 obtain ⟨cs, bl, ct, z⟩ := eT.freeze 0 rfl
 replace hg5 := hg5.mono bl
 have bJ : Mem w.heap.size [] w Z [] cs co := ct
 obtain ⟨eU, cu⟩ := eQ
 refine ix_ cr z u0 eU .i64 2 8 ?_; intro g5 g6 eV S g7 eW A eX cv
 have eY := cu S eW
 obtain rfl : eV = ([i6 S] : List Value) := eX
 refine z1 cv bJ 21 A 0 (i6 S) rfl ?_; intro g8 cw
 refine s1 cw 6 (i6 S) ?_; intro g9 cx
 apply cn
 refine sqH ?_; intro eZ cy
 refine nw cx bJ (fun b => .slice (sm b) 5 5) [i6 0, i6 65536, i6 1048576, i6 255, i6 65535] 2 ?_; intro e0 ha cz cA cB
 refine s1 cA 23 (i6 u0) ?_; intro hb cC
 have e1 : Mem w.heap.size [] w Z [.own t6 2 (sm e0) 5 ([0, 65536, 1048576, 255, 65535] : List Int)] cs cz := cB.rowOwn (T := t6) (xs := ([0, 65536, 1048576, 255, 65535] : List Int)) 0 rfl (by decide) (by show 5 ≤ lim; decide) ((RepAll.one (T := t6) (x := 0) rfl).append ((RepAll.one (T := t6) (x := 65536) rfl).append ((RepAll.one (T := t6) (x := 1048576) rfl).append ((RepAll.one (T := t6) (x := 255) rfl).append (RepAll.one (T := t6) (x := 65535) rfl)))))
 obtain ⟨cD, aK, cE, C⟩ := e1.freeze 0 rfl
 replace hg5 := hg5.mono aK
 have bK : Mem w.heap.size [] w Z [] cD cz := cE
 obtain ⟨e2, cF⟩ := eY
 refine ix_ cC C u0 e2 .i64 2 8 ?_; intro hc hd e3 W he e4 D e5 cG
 have e6 := cF W e4
 obtain rfl : e3 = ([i6 W] : List Value) := e5
 refine z1 cG bK 25 D 0 (i6 W) rfl ?_; intro hf cH
 refine s1 cH 7 (i6 W) ?_; intro hg cI
 apply cy
 refine sqH ?_; intro e7 cJ
 refine nw cI bK (fun b => .slice (sm b) 5 5) [i6 0, i6 0, i6 0, i6 255, i6 0] 2 ?_; intro e8 hh cK cL cM
 refine s1 cL 27 (i6 u0) ?_; intro hi cN
 have e9 : Mem w.heap.size [] w Z [.own t6 2 (sm e8) 5 ([0, 0, 0, 255, 0] : List Int)] cD cK := cM.rowOwn (T := t6) (xs := ([0, 0, 0, 255, 0] : List Int)) 0 rfl (by decide) (by show 5 ≤ lim; decide) ((RepAll.one (T := t6) (x := 0) rfl).append ((RepAll.one (T := t6) (x := 0) rfl).append ((RepAll.one (T := t6) (x := 0) rfl).append ((RepAll.one (T := t6) (x := 255) rfl).append (RepAll.one (T := t6) (x := 0) rfl)))))
 obtain ⟨fa, ag, cO, F⟩ := e9.freeze 0 rfl
 replace hg5 := hg5.mono ag
 have bm : Mem w.heap.size [] w Z [] fa cK := cO
 obtain ⟨fb, cP⟩ := e6
 refine ix_ cN F u0 fb .i64 2 8 ?_; intro hj hk fd E hl fe G ff cQ
 have fg := cP E fe
 obtain rfl : fd = ([i6 E] : List Value) := ff
 refine z1 cQ bm 29 G 0 (i6 E) rfl ?_; intro hn cR
 refine s1 cR 8 (i6 E) ?_; intro ho cS
 apply cJ
 refine sqH ?_; intro fh cT
 refine s1 cS 30 (str u1) ?_; intro hq cU
 obtain ⟨fi, fj⟩ := fg
 refine ck cU 65 #[str u1] ?_
 refine (rvalue_fun u1 fi _ _ bm.fz).mono ?_; rintro _ fk ⟨a, cV, cW, fl, rfl, J, hm⟩; refine ⟨_, rfl, ?_⟩; intro hr cX; have cY := bm.callZ hm; have X := hm.ext.le
 replace hg5 := hg5.mono X
 have bn : Mem w.heap.size [] w Z [.row a [.bool (rvalueS u1).neg, .slice cV (rvalueS u1).abs.length cW] 102] fl fk := cY
 refine s1 cX 9 (pt a 0) ?_; intro hs cZ
 apply cT
 refine sqH ?_; intro fm c0
 refine bt cZ bn 4 [] [] [(32, pt a 0), (33, pt a 0), (35, y6 (wu64 g))] ?_; intro ht c1
 obtain ⟨fn, c2⟩ := fj
 refine ck c1 66 #[pt a 0, pt a 0, y6 (wu64 g)] ?_
 obtain ⟨aD, fo, c3⟩ := hxq c2
 have d := glshA_fun (rvalueS u1) (wu64 g) fn a cV cW _ _ _ _ _ _ J bn bn.fz; rw [fo] at d; refine d.mono ?_; rintro _ fp ⟨bo, bp, fq, rfl, U, L, hm⟩; refine ⟨_, rfl, ?_⟩; intro hu c4; have c5 := hm
 replace hg5 := hg5.mono U
 have bL : Mem w.heap.size [] w Z [.row a [.bool aD.neg, .slice bo aD.abs.length bp] 102] fq fp := c5
 have fr := c3 (L.small)
 apply c0
 refine sqH ?_; intro fs c6
 refine s1 c4 37 (i6 W) ?_; intro hv c7
 obtain ⟨ft, fu⟩ := fr
 refine ck c7 67 #[i6 W] ?_
 refine (gnew_fun W ft _ _ bL.fz).mono ?_; rintro _ fv ⟨q, c8, c9, fw, rfl, V, hm⟩; refine ⟨_, rfl, ?_⟩; intro hw da; have db := bL.callZ hm; have Q := hm.ext.le
 replace hg5 := hg5.mono Q
 replace L := L.mono Q
 have bq : Mem w.heap.size [] w Z [.row q [.bool (gnewS W).neg, .slice c8 (gnewS W).abs.length c9] 102, .row a [.bool aD.neg, .slice bo aD.abs.length bp] 102] fw fv := db
 refine s1 da 10 (pt q 0) ?_; intro hx dc
 apply c6
 refine sqH ?_; intro fx dd
 refine bt dc bq 7 [] [] [(39, pt a 0), (40, pt a 0), (41, pt q 0), (42, pt q 0), (45, y6 (wu64 (u1.length : Int)))] ?_; intro hy de
 obtain ⟨fy, df⟩ := fu
 refine ck de 66 #[pt q 0, pt q 0, y6 (wu64 (u1.length : Int))] ?_
 obtain ⟨bM, fA, dg⟩ := hxq df
 have d := glshA_fun (gnewS W) (wu64 (u1.length : Int)) fy q c8 c9 _ _ _ _ _ _ V bq bq.fz; rw [fA] at d; refine d.mono ?_; rintro _ fB ⟨dh, di, fC, rfl, N, Y, hm⟩; refine ⟨_, rfl, ?_⟩; intro hz dj; have dk := hm
 replace hg5 := hg5.mono N
 replace L := L.mono N
 have bN : Mem w.heap.size [] w Z [.row q [.bool bM.neg, .slice dh bM.abs.length di] 102, .row a [.bool aD.neg, .slice bo aD.abs.length bp] 102] fC fB := dk
 obtain ⟨fE, dl⟩ := dg (Y.small)
 refine ck dj 68 #[pt a 0, pt a 0, pt q 0] ?_
 obtain ⟨f, fF, dm⟩ := hxq dl
 have d := gxor_fun aD bM fE a bo bp q dh di _ _ _ _ _ _ L Y (bN.perm ((pk 1 rfl).trans ((List.Perm.refl _).cons _))) bN.fz; rw [fF] at d; refine d.mono ?_; rintro _ fG ⟨br, bs, O, P, fH, rfl, M, ah, aE, hm⟩; refine ⟨_, rfl, ?_⟩; intro fI dn; have dp := hm
 replace hg5 := hg5.mono M
 have bO : Mem w.heap.size [] w Z [.row a [.bool f.1.neg, .slice br f.1.abs.length bs] 102, .row q [.bool f.2.neg, .slice O f.2.abs.length P] 102] fH fG := dp
 have fJ := dm (ah.small) (aE.small)
 apply dd
 have dr : Fr 83 [] [⟨5, [], i6 g⟩, ⟨6, [], i6 S⟩, ⟨8, [], i6 E⟩, ⟨9, [], pt a 0⟩] fI := dn.reg
 refine sqH ?_; intro fK ds
 refine s1 dr 48 (i6 S) ?_; intro hA dt
 obtain ⟨fL, fM⟩ := fJ
 refine ck dt 67 #[i6 S] ?_
 refine (gnew_fun S fL _ _ bO.fz).mono ?_; rintro _ fN ⟨i, du, dv, fO, rfl, ba, hm⟩; refine ⟨_, rfl, ?_⟩; intro hB dw; have dx := bO.callZ hm; have I := hm.ext.le
 replace hg5 := hg5.mono I
 replace ah := ah.mono I
 have bu : Mem w.heap.size [] w Z [.row i [.bool (gnewS S).neg, .slice du (gnewS S).abs.length dv] 102, .row a [.bool f.1.neg, .slice br f.1.abs.length bs] 102, .row q [.bool f.2.neg, .slice O f.2.abs.length P] 102] fO fN := dx
 refine s1 dw 11 (pt i 0) ?_; intro hC dy
 apply ds
 refine sqH ?_; intro fP dz
 refine bt dy bu 3 [] [] [(50, pt i 0), (51, pt i 0), (52, i6 g)] ?_; intro hD dA
 obtain ⟨fQ, dB⟩ := fM
 refine ck dA 69 #[pt i 0, pt i 0, i6 g, y6 1] ?_
 obtain ⟨bP, fR, dC⟩ := hxq dB
 have d := gsetbit_fun (gnewS S) g 1 fQ i du dv _ _ _ _ _ _ ba bu bu.fz; rw [fR] at d; refine d.mono ?_; rintro _ fS ⟨dD, dE, bb, rfl, H, bv, hm⟩; refine ⟨_, rfl, ?_⟩; intro bw dF; have dG := hm
 replace hg5 := hg5.mono H
 replace ah := ah.mono H
 have bQ : Mem w.heap.size [] w Z [.row i [.bool bP.neg, .slice dD bP.abs.length dE] 102, .row a [.bool f.1.neg, .slice br f.1.abs.length bs] 102, .row q [.bool f.2.neg, .slice O f.2.abs.length P] 102] bb fS := dG
 have fT := dC (bv.small)
 apply dz
 have dH : Fr 83 [] [⟨5, [], i6 g⟩, ⟨8, [], i6 E⟩, ⟨9, [], pt a 0⟩, ⟨11, [], pt i 0⟩] bw := dF.reg
 obtain ⟨fU, fV, fW⟩ := fT
 refine wp_seq_k fun KJ287 hKJ288 => ?_
 have fX : ∀ (R : BInt) (ab : BInt) (aL : Option Addr) (aM : Nat) (bc : Option Addr) (bd : Nat) (be : Fz), fU R ab ∧ SlR (tyInt .u32) be aL aM R.abs ∧ SlR (tyInt .u32) be bc bd ab.abs ∧ Fz.le bb be → ∀ a1 w1, Fr 83 [] [⟨5, [], i6 g⟩, ⟨8, [], i6 E⟩, ⟨9, [], pt a 0⟩] a1 → Mem w.heap.size [] w Z [.row i [.bool R.neg, .slice aL R.abs.length aM] 102, .row a [.bool ab.neg, .slice bc ab.abs.length bd] 102, .row q [.bool f.2.neg, .slice O f.2.abs.length P] 102] be w1 → KJ287 a1 w1 := by
  rintro R ab aL aM bc bd be ⟨fY, aN, aF, l⟩ hE hF dI bx
  refine hKJ288 _ _ ?_
  have fZ := fW R ab fY
  have aG := hg5.mono l
  refine sqH ?_; intro f0 dJ
  refine bt dI bx 3 [] [] [(70, pt a 0), (71, pt a 0), (72, i6 E)] ?_; intro hG dK
  obtain ⟨f1, f2⟩ := fZ
  refine ck dK 67 #[i6 E] ?_
  refine (gnew_fun E f1 _ _ bx.fz).mono ?_; rintro _ f3 ⟨bf, dL, dM, f4, rfl, bg, hm⟩; refine ⟨_, rfl, ?_⟩; intro hH dN; have dO := bx.callZ hm; have B := hm.ext.le
  replace aG := aG.mono B
  replace aF := aF.mono B
  have bS : Mem w.heap.size [] w Z [.row bf [.bool (gnewS E).neg, .slice dL (gnewS E).abs.length dM] 102, .row i [.bool R.neg, .slice aL R.abs.length aM] 102, .row a [.bool ab.neg, .slice bc ab.abs.length bd] 102, .row q [.bool f.2.neg, .slice O f.2.abs.length P] 102] f4 f3 := dO
  obtain ⟨f5, dP⟩ := f2
  refine ck dN 68 #[pt a 0, pt a 0, pt bf 0] ?_
  obtain ⟨aH, f6, dQ⟩ := hxq dP
  have d := gxor_fun ab (gnewS E) f5 a bc bd bf dL dM _ _ _ _ _ _ aF bg (bS.perm ((pk 2 rfl).trans ((List.Perm.refl _).cons _))) bS.fz; rw [f6] at d; refine d.mono ?_; rintro _ f7 ⟨dR, dS, dT, dU, f8, rfl, v, bz, bT, hm⟩; refine ⟨_, rfl, ?_⟩; intro hI dV; have dW := hm
  replace aG := aG.mono v
  have bU : Mem w.heap.size [] w Z [.row a [.bool aH.1.neg, .slice dR aH.1.abs.length dS] 102, .row bf [.bool aH.2.neg, .slice dT aH.2.abs.length dU] 102, .row i [.bool R.neg, .slice aL R.abs.length aM] 102, .row q [.bool f.2.neg, .slice O f.2.abs.length P] 102] f8 f7 := dW
  have f9 := dQ (bz.small) (bT.small)
  apply dJ
  refine sqH ?_; intro ga dY
  refine s1 dV 76 (pt a 0) ?_; intro hJ dZ
  obtain ⟨gb, d0⟩ := f9
  refine ck dZ 72 #[pt a 0] ?_
  obtain ⟨aI, gc, d1⟩ := hxq d0
  have d := gint64_fun aH.1 gb a dR dS _ _ _ _ _ _ bz bU bU.fz; rw [gc] at d; refine d.mono ?_; rintro _ gd ⟨ge, gf, gg, rfl, m, gh, hm⟩; refine ⟨_, rfl, ?_⟩; intro hK d2; have d3 := hm
  replace aG := aG.mono m
  have bV : Mem w.heap.size [] w Z [.row a [.bool aI.2.neg, .slice ge aI.2.abs.length gf] 102, .row bf [.bool aH.2.neg, .slice dT aH.2.abs.length dU] 102, .row i [.bool R.neg, .slice aL R.abs.length aM] 102, .row q [.bool f.2.neg, .slice O f.2.abs.length P] 102] gg gd := d3
  have gi := d1 (gh.small)
  refine s1 d2 78 (i6 g) ?_; intro hL d4
  obtain ⟨gj, gk⟩ := gi
  refine fc d4 bV (rrow_fun aI.1 g gj _ _ aG bV.fz) ?_; intro hM hN d5 bW
  refine bt d5 bW 5 [] [] [(12, str (rrowS aI.1 g).1)] ?_; intro hO d6
  apply dY
  refine sqB d6 bW [] [] [(4, str (rrowS aI.1 g).1)] ?_; intro hP gl
  exact r_ (ra1 gl (str (rrowS aI.1 g).1) ⟨(rrowS aI.1 g).1, rfl, gk, bW.below⟩)
 have gm := Fz.le.refl bb
 apply b_
 have d7 : Fr 83 [] [⟨5, [], i6 g⟩, ⟨8, [], i6 E⟩, ⟨9, [], pt a 0⟩, ⟨11, [], pt i 0⟩] bw := dH.reg
 obtain ⟨gn, go, gp, gq⟩ := fV
 refine lp (ι := BInt × BInt × (Option Addr) × Nat × (Option Addr) × Nat × Fz) (fun s => [⟨5, [], i6 g⟩, ⟨8, [], i6 E⟩, ⟨9, [], pt a 0⟩, ⟨11, [], pt i 0⟩]) (fun s => [.row i [.bool s.1.neg, .slice s.2.2.1 s.1.abs.length s.2.2.2.1] 102, .row a [.bool s.2.1.neg, .slice s.2.2.2.2.1 s.2.1.abs.length s.2.2.2.2.2.1] 102, .row q [.bool f.2.neg, .slice O f.2.abs.length P] 102]) (fun s => s.2.2.2.2.2.2) (fun s => gn s.1 s.2.1 ∧ SlR (tyInt .u32) s.2.2.2.2.2.2 s.2.2.1 s.2.2.2.1 s.1.abs ∧ SlR (tyInt .u32) s.2.2.2.2.2.2 s.2.2.2.2.1 s.2.2.2.2.2.1 s.2.1.abs ∧ Fz.le bb s.2.2.2.2.2.2) (fun s => go s.1 s.2.1) ⟨bP, f.1, dD, dE, br, bs, bb⟩ ⟨gp, bv, ah, Fz.le.refl _⟩ (by exact d7.region (by kernel_rfl) (by kernel_rfl)) (by exact bQ) ?_
 rintro ⟨ac, bA, bh, bi, d9, ea, gr⟩ ⟨gs, aa, ad, h⟩ gt gu eb ec
 have gv := gq ac bA gs
 have ae := gm.mono h
 refine s_ (sqH ?_); intro gw ee
 refine s1 eb 54 (pt a 0) ?_; intro hR ef
 obtain ⟨gx, eg⟩ := gv
 refine ck ef 70 #[pt a 0] ?_
 obtain ⟨a8, gy, eh⟩ := hxq eg
 have d := gblen_fun bA gx a d9 ea _ _ _ _ _ _ ad (ec.perm (pk 1 rfl)) ec.fz; rw [gy] at d; refine d.mono ?_; rintro _ gz ⟨bY, bZ, ei, rfl, y, af, hm⟩; refine ⟨_, rfl, ?_⟩; intro hS ej; have ek := hm
 replace ae := ae.mono y
 replace aa := aa.mono y
 replace h := h.mono y
 have bj : Mem w.heap.size [] w Z [.row a [.bool a8.2.neg, .slice bY a8.2.abs.length bZ] 102, .row i [.bool ac.neg, .slice bh ac.abs.length bi] 102, .row q [.bool f.2.neg, .slice O f.2.abs.length P] 102] ei gz := ek
 have bB := eh (af.small)
 refine bt ej bj 2 [] [] [(57, .bool (decide (a8.1 > g)))] ?_; intro hT bC
 apply ee
 refine cd bC (t := decide (a8.1 > g)) (by kernel_rfl) (fun b0 => ?_) (fun b0 => ?_)
 · -- yes
  have gA := bB.1 b0
  refine k_ (b_ (rgH ?_)); intro gB el
  refine bt bC bj 2 [] [] [(58, pt a 0), (59, pt a 0)] ?_; intro hU em
  refine nw em bj pb [.bool false, .slice none 0 0] 102 ?_; intro aJ hV hW en bD
  refine bt en bD 2 [] [] [(61, pt i 0), (62, pt a 0)] ?_; intro hX eo
  obtain ⟨gC, ep⟩ := gA
  refine ck eo 70 #[pt a 0] ?_
  obtain ⟨aB, gD, eq⟩ := hxq ep
  have d := gblen_fun a8.2 gC a bY bZ _ _ _ _ _ _ af (bD.perm (pk 1 rfl)) bD.fz; rw [gD] at d; refine d.mono ?_; rintro _ gE ⟨b1, b2, gF, rfl, u, a9, hm⟩; refine ⟨_, rfl, ?_⟩; intro hY er; have es := hm
  replace aa := aa.mono u
  replace h := h.mono u
  have bE : Mem w.heap.size [] w Z [.row a [.bool aB.2.neg, .slice b1 aB.2.abs.length b2] 102, .row aJ [.bool false, .slice none 0 0] 102, .row i [.bool ac.neg, .slice bh ac.abs.length bi] 102, .row q [.bool f.2.neg, .slice O f.2.abs.length P] 102] gF gE := es
  have gG := eq (a9.small)
  refine bt er bE 4 [] [] [(67, y6 (wu64 (w64 ((w64 (aB.1 - g)) - 1))))] ?_; intro h0 et
  obtain ⟨gH, eu⟩ := gG
  refine ck et 66 #[pt aJ 0, pt i 0, y6 (wu64 (w64 ((w64 (aB.1 - g)) - 1)))] ?_
  obtain ⟨aC, gI, ev⟩ := hxq eu
  have d := glsh_fun (⟨false, []⟩ : BInt) ac (wu64 (w64 ((w64 (aB.1 - g)) - 1))) gH aJ none 0 i bh bi _ _ _ _ _ _ (SlR.nil _ _) aa (bE.perm ((pk 1 rfl).trans (((pk 1 rfl).trans ((List.Perm.refl _).cons _)).cons _))) bE.fz; rw [gI] at d; refine d.mono ?_; rintro _ gJ ⟨ew, ex, b3, b4, gK, rfl, n, bF, bG, hm⟩; refine ⟨_, rfl, ?_⟩; intro h1 ey; have ez := hm
  replace h := h.mono n
  replace a9 := a9.mono n
  have b6 : Mem w.heap.size [] w Z [.row aJ [.bool aC.1.neg, .slice ew aC.1.abs.length ex] 102, .row i [.bool aC.2.neg, .slice b3 aC.2.abs.length b4] 102, .row a [.bool aB.2.neg, .slice b1 aB.2.abs.length b2] 102, .row q [.bool f.2.neg, .slice O f.2.abs.length P] 102] gK gJ := ez
  obtain ⟨gM, eB⟩ := ev (bF.small) (bG.small)
  refine ck ey 68 #[pt a 0, pt a 0, pt aJ 0] ?_
  obtain ⟨bk, gN, eC⟩ := hxq eB
  have d := gxor_fun aB.2 aC.1 gM a b1 b2 aJ ew ex _ _ _ _ _ _ a9 bF (b6.perm ((pk 2 rfl).trans ((List.Perm.refl _).cons _))) b6.fz; rw [gN] at d; refine d.mono ?_; rintro _ gO ⟨eD, eE, gP, gQ, eF, rfl, j, eG, gR, hm⟩; refine ⟨_, rfl, ?_⟩; intro h2 gS; have eH := hm
  replace h := h.mono j
  replace bG := bG.mono j
  have gT : Mem w.heap.size [] w Z [.row a [.bool bk.1.neg, .slice eD bk.1.abs.length eE] 102, .row aJ [.bool bk.2.neg, .slice gP bk.2.abs.length gQ] 102, .row i [.bool aC.2.neg, .slice b3 aC.2.abs.length b4] 102, .row q [.bool f.2.neg, .slice O f.2.abs.length P] 102] eF gO := eH
  have eJ := eC (eG.small) (gR.small)
  apply el
  refine j_ (d_ ?_)
  have gU := gT.perm ((pk 2 rfl).trans ((((pk 1 rfl).trans ((List.Perm.refl _).cons _)).cons _).cons _))
  exact ⟨⟨aC.2, bk.1, b3, b4, eD, eE, eF⟩, ⟨eJ.1, bG, eG, h⟩, eJ.2, (gS.region (by kernel_rfl) (by kernel_rfl)).anyβ _ (by kernel_rfl), gU.kp⟩
 · -- no
  have gV := bB.2 b0
  refine x_ (y_ (y_ (z_ (d_ ?_))))
  have gW := bj.perm ((pk 1 rfl).trans ((List.Perm.refl _).cons _))
  exact fX ac a8.2 bh bi bY bZ ei ⟨gV, aa, af, ae⟩ _ _ ((bC.region (by kernel_rfl) (by kernel_rfl)).anyβ _ (by kernel_rfl)) (gW.kp)
end Go.Proofs.YtmnlahbngbigdaaGreatDoor
set_option linter.unusedVariables false
set_option linter.unusedSimpArgs false
set_option linter.defProp false
namespace Go.Proofs.YtmnlahbngbigdaaGreatDoor
open Go.Sy Go.RowKit
def rsumof_fun (u0 : Int) (u1 : List UInt8) (hpre : (0 ≤ u0 ∧ u0 < 5) ∧ isRow u1 = true ∧ u1.length ≤ 1000)  (Z : Fz) (w : World) (hg5 : SlR t8 Z (sm 5) 64 deBruijn64) (hZ : Z.on w) := f_ (rsumof_walk u0 u1  Z w hg5 hZ (rsumof_ok u0 u1 hpre))
end Go.Proofs.YtmnlahbngbigdaaGreatDoor
set_option linter.unusedVariables false
set_option linter.unusedSimpArgs false
set_option linter.defProp false
set_option maxRecDepth 100000
set_option maxHeartbeats 0
namespace Go.Proofs.YtmnlahbngbigdaaGreatDoor
open Go.Sy Go.RowKit
abbrev e24Ra (X : Frame) (A0 : Option Addr) (C0 : Nat) : List Value := [i6 X.ID, .bool X.Long, .bool X.Fast, .bool X.Remote, i6 X.Size, .slice A0 X.Data.length C0]
theorem rofb_walk (u0 : List Int) (ao1 : Option Addr) (cap2 : Nat) (Z : Fz) (w : World) (hs3 : SlR t8 Z ao1 cap2 u0) (hg5 : SlR t8 Z (sm 5) 64 deBruijn64) (hZ : Z.on w) {K : (List UInt8) → Prop} (hp : rofb_vc u0 K) : Calls Tryz.prog 75 #[.slice ao1 u0.length cap2] w fun e w' => ∃ r : (List UInt8), e = .returned (str r) ∧ K r ∧ Below w.heap.size w w' := by
 refine enter0 Tryz.func75 rfl rfl (by kernel_rfl) ?_; intro a0 m; have g := Mem.start w Z hZ
 have U := hp (hs3.small)
 refine sqB m g [] [] [] ?_; intro a6 n
 refine sqB n g [] [] [(3, str [])] ?_; intro a9 o
 refine s_ (sqB o g [] [] [(7, .slice ao1 u0.length cap2), (8, i6 (u0.length : Int)), (9, i6 0)] ?_); intro p q
 apply b_
 have u : Fr 26 [] [⟨3, [], str []⟩, ⟨7, [], .slice ao1 u0.length cap2⟩, ⟨8, [], i6 (u0.length : Int)⟩, ⟨9, [], i6 0⟩] p := q.reg
 obtain ⟨V, W, X, Y⟩ := U
 refine lp (ι := (List UInt8) × Int) (fun s => [⟨3, [], str s.1⟩, ⟨7, [], .slice ao1 u0.length cap2⟩, ⟨8, [], i6 (u0.length : Int)⟩, ⟨9, [], i6 s.2⟩]) (fun s => []) (fun s => Z) (fun s => V s.1 s.2) (fun s => W s.1 s.2) ⟨[], 0⟩ X (by exact u.region (by kernel_rfl) (by kernel_rfl)) (by exact g) ?_
 rintro ⟨a, d⟩ aa ab ac x y
 have i := Y a d aa
 refine sqB x y [] [] [(10, .bool (decide (d < (u0.length : Int))))] ?_; intro az h
 apply s_
 refine cd h (t := decide (d < (u0.length : Int))) (by kernel_rfl) (fun l => ?_) (fun l => ?_)
 · -- yes
  have ad := i.1 l
  refine k_ (s_ (b_ (sqH ?_))); intro ae A
  obtain ⟨af, B⟩ := ad
  refine ix_ h hs3 d af .i64 5 1 ?_; intro aA aB ag f aC ah ai aj C
  have ak := B f ah
  obtain rfl : ag = ([y8 f] : List Value) := aj
  refine z1 C y 12 ai 0 (y8 f) rfl ?_; intro aD D
  refine s1 D 5 (y8 f) ?_; intro aE E
  apply A
  refine sqH ?_; intro al F
  refine bt E y 2 [] [] [(14, i6 (w64 f))] ?_; intro aF G
  refine ck G 95 #[i6 (w64 f), i6 2] ?_
  refine (fint1_walk (w64 f) _ _ hg5 y.fz ak).mono ?_; rintro _ aG ⟨c, rfl, am, hb⟩; refine ⟨_, rfl, ?_⟩; intro aH H; have j := y.call hb
  refine s1 H 6 (str c) ?_; intro aI I
  apply F
  refine rgH ?_; intro an J
  refine bt I j 4 [] [] [(16, str a), (19, i6 (w64 (8 - (c.length : Int))))] ?_; intro aJ L
  obtain ⟨ao, ap⟩ := am
  refine fc L j (srep_fun ([48] : List UInt8) (w64 (8 - (c.length : Int))) ao _ _ j.fz) ?_; intro aK aL M N
  refine s1 M 21 (str c) ?_; intro aM O
  obtain ⟨aq, ar⟩ := ap
  refine sa O aq ?_; intro aN P
  obtain ⟨au, Q⟩ := ar
  refine sa P au ?_; intro aO R
  refine s1 R 3 (str (a ++ ((srepS ([48] : List UInt8) (w64 (8 - (c.length : Int)))) ++ c))) ?_; intro aP S
  apply J
  refine j_ (t_ (rgB S N [] [] [(9, i6 (w64 (d + 1)))] ?_)); intro aQ av
  exact d_ ⟨⟨a ++ ((srepS ([48] : List UInt8) (w64 (8 - (c.length : Int)))) ++ c), w64 (d + 1)⟩, Q.1, Q.2, (av.region (by kernel_rfl) (by kernel_rfl)).anyβ _ (by kernel_rfl), N.kp⟩
 · -- no
  have aw := i.2 l
  refine x_ (y_ (y_ (z_ (t_ (sqB h y [] [] [(2, str a)] ?_))))); intro aR ax
  exact r_ (ra1 ax (str a) ⟨a, rfl, aw, y.below⟩)
theorem rname_walk (u0 : Frame) (ao1 : Option Addr) (cap2 : Nat) (Z : Fz) (w : World) (hs3 : SlR t8 Z ao1 cap2 u0.Data) (hg5 : SlR t8 Z (sm 5) 64 deBruijn64) (hZ : Z.on w) {K : (List UInt8) → Prop} (hp : rname_vc u0 K) : Calls Tryz.prog 74 #[.agg #[i6 u0.ID, .bool u0.Long, .bool u0.Fast, .bool u0.Remote, i6 u0.Size, .slice ao1 u0.Data.length cap2]] w fun e w' => ∃ r : (List UInt8), e = .returned (str r) ∧ K r ∧ Below w.heap.size w w' := by
 refine enter0 Tryz.func74 rfl rfl (by kernel_rfl) ?_; intro a0 E; have F := Mem.start w Z hZ
 have f := hp (hs3.small)
 refine sqH ?_; intro ax G
 refine nw E F pb (e24Ra u0 ao1 cap2) 24 ?_; intro b6 a7 bw H a
 refine s1 H 2 (str []) ?_; intro bx I
 apply G
 refine sqB I a [] [] [(3, str ([48] : List UInt8))] ?_; intro bz J
 refine s_ (sqB J a [0] [] [(9, .bool u0.Remote)] ?_); intro bA b
 refine cd b (t := u0.Remote) (by kernel_rfl) (fun j => ?_) (fun j => ?_)
 · -- yes
  have h := f.1 j
  refine rgB b a [] [] [(3, str ([49] : List UInt8))] ?_; intro bB L
  refine t_ (s_ (sqB L a [0] [] [(11, .bool u0.Long)] ?_)); intro bC c
  refine cd c (t := u0.Long) (by kernel_rfl) (fun l => ?_) (fun l => ?_)
  · -- yes
   have ay := h.1 l
   refine sqH ?_; intro az M
   refine bt c a 2 [0] [] [(14, i6 u0.ID)] ?_; intro bD N
   obtain ⟨aA, aB⟩ := ay
   refine fc N a (rrow_fun u0.ID 29 aA _ _ hg5 a.fz) ?_; intro bE bF O m
   refine bt O m 5 [] [] [(4, str (rrowS u0.ID 29).1)] ?_; intro aC P
   apply M
   have Q : Fr 36 [] [⟨3, [], str ([49] : List UInt8)⟩, ⟨4, [], str (rrowS u0.ID 29).1⟩] aC := P.reg
   refine sqQH mixed (by kernel_rfl) m ?_; intro aD R
   refine q1 Q 18 (str (rrowS u0.ID 29).1) ?_; intro bG n
   obtain ⟨aE, aF⟩ := aB
   refine qu_ n (str ((rrowS u0.ID 29).1.take (11 : Int).toNat)) (fun v59 hC => strslH_run n (g := []) (k := .i64) rfl (by kernel_rfl) (by kernel_rfl) (by kernel_rfl) aE rfl) ?_; intro bH o
   obtain ⟨aG, aH⟩ := aF
   refine qu_ o (str (((rrowS u0.ID 29).1.take (11 : Int).toNat) ++ ([49, 49] : List UInt8))) (fun v64 hC => stradd_run o (g := []) rfl (by kernel_rfl) (by kernel_rfl) aG rfl) ?_; intro bI S
   refine q1 S 21 (str (rrowS u0.ID 29).1) ?_; intro bJ p
   obtain ⟨aI, aJ⟩ := aH
   refine qu_ p (str ((rrowS u0.ID 29).1.drop (11 : Int).toNat)) (fun v72 hC => strslL_run p (g := []) (k := .i64) rfl (by kernel_rfl) (by kernel_rfl) (by kernel_rfl) aI rfl) ?_; intro bK q
   obtain ⟨aK, aL⟩ := aJ
   refine qu_ q (str ((((rrowS u0.ID 29).1.take (11 : Int).toNat) ++ ([49, 49] : List UInt8)) ++ ((rrowS u0.ID 29).1.drop (11 : Int).toNat))) (fun v77 hC => stradd_run q (g := []) rfl (by kernel_rfl) (by kernel_rfl) aK rfl) ?_; intro bL T
   refine q1 T 24 (str ([49] : List UInt8)) ?_; intro bM s
   obtain ⟨aM, aN⟩ := aL
   refine qu_ s (str (((((rrowS u0.ID 29).1.take (11 : Int).toNat) ++ ([49, 49] : List UInt8)) ++ ((rrowS u0.ID 29).1.drop (11 : Int).toNat)) ++ ([49] : List UInt8))) (fun v85 hC => stradd_run s (g := []) rfl (by kernel_rfl) (by kernel_rfl) aM rfl) ?_; intro bN U
   refine q1 U 2 (str (((((rrowS u0.ID 29).1.take (11 : Int).toNat) ++ ([49, 49] : List UInt8)) ++ ((rrowS u0.ID 29).1.drop (11 : Int).toNat)) ++ ([49] : List UInt8))) ?_; intro bO aO
   refine qnl (R _ ?_); intro bP aP
   exact r_ (h_ (ra1 aO (str (((((rrowS u0.ID 29).1.take (11 : Int).toNat) ++ ([49, 49] : List UInt8)) ++ ((rrowS u0.ID 29).1.drop (11 : Int).toNat)) ++ ([49] : List UInt8))) ⟨((((rrowS u0.ID 29).1.take (11 : Int).toNat) ++ ([49, 49] : List UInt8)) ++ ((rrowS u0.ID 29).1.drop (11 : Int).toNat)) ++ ([49] : List UInt8), rfl, aN, aP.below⟩))
  · -- no
   have aQ := h.2 l
   refine k_ (sqH ?_); intro aR V
   refine bt c a 2 [0] [] [(28, i6 u0.ID)] ?_; intro bQ W
   obtain ⟨aS, aT⟩ := aQ
   refine fc W a (rrow_fun u0.ID 11 aS _ _ hg5 a.fz) ?_; intro bR bS X u
   refine bt X u 5 [] [] [(6, str (rrowS u0.ID 11).1)] ?_; intro bT Y
   apply V
   refine sqH ?_; intro aU aa
   refine bt Y u 2 [] [] [(32, str (rrowS u0.ID 11).1), (33, str ([49] : List UInt8))] ?_; intro bU ab
   obtain ⟨aV, aW⟩ := aT
   refine sa ab aV ?_; intro bV ac
   obtain ⟨aX, aY⟩ := aW
   refine sa ac aX ?_; intro bW ad
   refine s1 ad 2 (str (((rrowS u0.ID 11).1 ++ ([49] : List UInt8)) ++ ([48] : List UInt8))) ?_; intro bX aZ
   apply aa
   exact r_ (ra1 aZ (str (((rrowS u0.ID 11).1 ++ ([49] : List UInt8)) ++ ([48] : List UInt8))) ⟨((rrowS u0.ID 11).1 ++ ([49] : List UInt8)) ++ ([48] : List UInt8), rfl, aY, u.below⟩)
 · -- no
  have i := f.2 j
  refine k_ (s_ (sqB b a [0] [] [(11, .bool u0.Long)] ?_)); intro bY d
  refine cd d (t := u0.Long) (by kernel_rfl) (fun v => ?_) (fun v => ?_)
  · -- yes
   have a1 := i.1 v
   refine sqH ?_; intro a2 ae
   refine bt d a 2 [0] [] [(14, i6 u0.ID)] ?_; intro bZ af
   obtain ⟨a3, a4⟩ := a1
   refine fc af a (rrow_fun u0.ID 29 a3 _ _ hg5 a.fz) ?_; intro b0 b1 ag x
   refine bt ag x 5 [] [] [(4, str (rrowS u0.ID 29).1)] ?_; intro a5 ah
   apply ae
   have ai : Fr 36 [] [⟨3, [], str ([48] : List UInt8)⟩, ⟨4, [], str (rrowS u0.ID 29).1⟩] a5 := ah.reg
   refine sqQH mixed (by kernel_rfl) x ?_; intro a6 aj
   refine q1 ai 18 (str (rrowS u0.ID 29).1) ?_; intro b2 y
   obtain ⟨a8, a9⟩ := a4
   refine qu_ y (str ((rrowS u0.ID 29).1.take (11 : Int).toNat)) (fun v166 hC => strslH_run y (g := []) (k := .i64) rfl (by kernel_rfl) (by kernel_rfl) (by kernel_rfl) a8 rfl) ?_; intro b3 z
   obtain ⟨ba, bb⟩ := a9
   refine qu_ z (str (((rrowS u0.ID 29).1.take (11 : Int).toNat) ++ ([49, 49] : List UInt8))) (fun v171 hC => stradd_run z (g := []) rfl (by kernel_rfl) (by kernel_rfl) ba rfl) ?_; intro b4 ak
   refine q1 ak 21 (str (rrowS u0.ID 29).1) ?_; intro b5 A
   obtain ⟨bc, bd⟩ := bb
   refine qu_ A (str ((rrowS u0.ID 29).1.drop (11 : Int).toNat)) (fun v179 hC => strslL_run A (g := []) (k := .i64) rfl (by kernel_rfl) (by kernel_rfl) (by kernel_rfl) bc rfl) ?_; intro b7 B
   obtain ⟨be, bf⟩ := bd
   refine qu_ B (str ((((rrowS u0.ID 29).1.take (11 : Int).toNat) ++ ([49, 49] : List UInt8)) ++ ((rrowS u0.ID 29).1.drop (11 : Int).toNat))) (fun v184 hC => stradd_run B (g := []) rfl (by kernel_rfl) (by kernel_rfl) be rfl) ?_; intro b8 al
   refine q1 al 24 (str ([48] : List UInt8)) ?_; intro b9 C
   obtain ⟨bg, bh⟩ := bf
   refine qu_ C (str (((((rrowS u0.ID 29).1.take (11 : Int).toNat) ++ ([49, 49] : List UInt8)) ++ ((rrowS u0.ID 29).1.drop (11 : Int).toNat)) ++ ([48] : List UInt8))) (fun v192 hC => stradd_run C (g := []) rfl (by kernel_rfl) (by kernel_rfl) bg rfl) ?_; intro ca am
   refine q1 am 2 (str (((((rrowS u0.ID 29).1.take (11 : Int).toNat) ++ ([49, 49] : List UInt8)) ++ ((rrowS u0.ID 29).1.drop (11 : Int).toNat)) ++ ([48] : List UInt8))) ?_; intro cb bi
   refine qnl (aj _ ?_); intro cc bj
   exact r_ (h_ (ra1 bi (str (((((rrowS u0.ID 29).1.take (11 : Int).toNat) ++ ([49, 49] : List UInt8)) ++ ((rrowS u0.ID 29).1.drop (11 : Int).toNat)) ++ ([48] : List UInt8))) ⟨((((rrowS u0.ID 29).1.take (11 : Int).toNat) ++ ([49, 49] : List UInt8)) ++ ((rrowS u0.ID 29).1.drop (11 : Int).toNat)) ++ ([48] : List UInt8), rfl, bh, bj.below⟩))
  · -- no
   have bk := i.2 v
   refine k_ (sqH ?_); intro bl an
   refine bt d a 2 [0] [] [(28, i6 u0.ID)] ?_; intro ce ao
   obtain ⟨bm, bn⟩ := bk
   refine fc ao a (rrow_fun u0.ID 11 bm _ _ hg5 a.fz) ?_; intro cf cg ap D
   refine bt ap D 5 [] [] [(6, str (rrowS u0.ID 11).1)] ?_; intro ch aq
   apply an
   refine sqH ?_; intro bo ar
   refine bt aq D 2 [] [] [(32, str (rrowS u0.ID 11).1), (33, str ([48] : List UInt8))] ?_; intro ci au
   obtain ⟨bp, bq⟩ := bn
   refine sa au bp ?_; intro cj av
   obtain ⟨br, bs⟩ := bq
   refine sa av br ?_; intro ck aw
   refine s1 aw 2 (str (((rrowS u0.ID 11).1 ++ ([48] : List UInt8)) ++ ([48] : List UInt8))) ?_; intro cl bu
   apply ar
   exact r_ (ra1 bu (str (((rrowS u0.ID 11).1 ++ ([48] : List UInt8)) ++ ([48] : List UInt8))) ⟨((rrowS u0.ID 11).1 ++ ([48] : List UInt8)) ++ ([48] : List UInt8), rfl, bs, D.below⟩)
theorem rsizes_walk   (Z : Fz) (w : World)  (hZ : Z.on w) {K : (List Int) → Prop} (hp : rsizes_vc  K) : Calls Tryz.prog 34 #[] w fun e w' => ∃ (r : (List Int)) (ao1001 : Option Addr) (cap1002 : Nat) (Z' : Fz), e = .returned (.slice ao1001 r.length cap1002) ∧ K r ∧ Mem w.heap.size [] w Z [.own t6 3 ao1001 cap1002 r] Z' w' := by
 refine enter0 Tryz.func34 rfl rfl (by kernel_rfl) ?_; intro n d; have c := Mem.start w Z hZ
 refine sqB d c [] [] [] ?_; intro p f
 refine sqH ?_; intro j g
 refine nw f c (fun b => .slice (sm b) 16 16) [i6 0, i6 1, i6 2, i6 3, i6 4, i6 5, i6 6, i6 7, i6 8, i6 12, i6 16, i6 20, i6 24, i6 32, i6 48, i6 64] 3 ?_; intro a q k h i
 refine s1 h 0 (.slice (sm a) 16 16) ?_; intro s l
 apply g
 apply r_
 have m : Mem w.heap.size [] w Z [.own t6 3 (sm a) 16 ([0, 1, 2, 3, 4, 5, 6, 7, 8, 12, 16, 20, 24, 32, 48, 64] : List Int)] Z k := i.rowOwn (T := t6) (xs := ([0, 1, 2, 3, 4, 5, 6, 7, 8, 12, 16, 20, 24, 32, 48, 64] : List Int)) 0 rfl (by decide) (by show 16 ≤ lim; decide) ((RepAll.one (T := t6) (x := 0) rfl).append ((RepAll.one (T := t6) (x := 1) rfl).append ((RepAll.one (T := t6) (x := 2) rfl).append ((RepAll.one (T := t6) (x := 3) rfl).append ((RepAll.one (T := t6) (x := 4) rfl).append ((RepAll.one (T := t6) (x := 5) rfl).append ((RepAll.one (T := t6) (x := 6) rfl).append ((RepAll.one (T := t6) (x := 7) rfl).append ((RepAll.one (T := t6) (x := 8) rfl).append ((RepAll.one (T := t6) (x := 12) rfl).append ((RepAll.one (T := t6) (x := 16) rfl).append ((RepAll.one (T := t6) (x := 20) rfl).append ((RepAll.one (T := t6) (x := 24) rfl).append ((RepAll.one (T := t6) (x := 32) rfl).append ((RepAll.one (T := t6) (x := 48) rfl).append (RepAll.one (T := t6) (x := 64) rfl))))))))))))))))
 exact ra1 l (.slice (sm a) ([0, 1, 2, 3, 4, 5, 6, 7, 8, 12, 16, 20, 24, 32, 48, 64] : List Int).length 16) ⟨([0, 1, 2, 3, 4, 5, 6, 7, 8, 12, 16, 20, 24, 32, 48, 64] : List Int), (sm a), 16, Z, rfl, hp, m.kp⟩
def rsizes_fun   (Z : Fz) (w : World)  (hZ : Z.on w) := fc_ (rsizes_walk   Z w  hZ (rsizes_ok ))
theorem rcheckfr_walk (u0 : Frame) (ao1 : Option Addr) (cap2 : Nat) (Z : Fz) (w : World) (hs3 : SlR t8 Z ao1 cap2 u0.Data) (hZ : Z.on w) {K : Int → Prop} (hp : rcheckfr_vc u0 K) : Calls Tryz.prog 12 #[.agg #[i6 u0.ID, .bool u0.Long, .bool u0.Fast, .bool u0.Remote, i6 u0.Size, .slice ao1 u0.Data.length cap2]] w fun e w' => ∃ r : Int, e = .returned (i6 r) ∧ K r ∧ Below w.heap.size w w' := by
 refine enter0 Tryz.func12 rfl rfl (by kernel_rfl) ?_; intro a0 ac; have ad := Mem.start w Z hZ
 have v := hp (hs3.small)
 refine sqH ?_; intro aL ae
 refine nw ac ad pb (e24Ra u0 ao1 cap2) 24 ?_; intro c a7 bq af a
 refine s1 af 2 (i6 0) ?_; intro br ag
 apply ae
 refine sqB ag a [] [] [(3, i6 2047)] ?_; intro bs ah
 refine s_ (sqB ah a [0] [] [(5, .bool u0.Long)] ?_); intro bt g
 refine cd g (t := u0.Long) (by kernel_rfl) (fun H => ?_) (fun H => ?_)
 · -- yes
  have x := v.1 H
  refine rgB g a [] [] [(3, i6 536870911)] ?_; intro bu ai
  refine t_ (s_ (sqB ai a [0, 0] [] [(14, .bool ((decide (u0.ID < 0)) || (decide (u0.ID > 536870911))))] ?_)); intro bv h
  refine cd h (t := (decide (u0.ID < 0)) || (decide (u0.ID > 536870911))) (by kernel_rfl) (fun I => ?_) (fun I => ?_)
  · -- yes
   have aM := x.1 I
   refine sqB h a [] [] [(2, i6 3)] ?_; intro bw aN
   exact r_ (h_ (ra1 aN (i6 3) ⟨3, rfl, aM, a.below⟩))
  · -- no
   have y := x.2 I
   refine k_ (s_ (sqB h a [0, 0, 0] [] [(26, .bool (u0.Remote && (u0.Fast || ((u0.Data.length : Int) != 0))))] ?_)); intro bx i
   refine cd i (t := u0.Remote && (u0.Fast || ((u0.Data.length : Int) != 0))) (by kernel_rfl) (fun J => ?_) (fun J => ?_)
   · -- yes
    have aO := y.1 J
    refine sqB i a [] [] [(2, i6 4)] ?_; intro bz aP
    exact r_ (h_ (ra1 aP (i6 4) ⟨4, rfl, aO, a.below⟩))
   · -- no
    have z := y.2 J
    refine k_ (s_ (sqB i a [0, 0, 0, 0] [] [(44, .bool (((decide (u0.Size < 0)) || (decide (u0.Size > 8))) || ((decide (u0.Size > 0)) && (!u0.Remote))))] ?_)); intro bA j
    refine cd j (t := ((decide (u0.Size < 0)) || (decide (u0.Size > 8))) || ((decide (u0.Size > 0)) && (!u0.Remote))) (by kernel_rfl) (fun L => ?_) (fun L => ?_)
    · -- yes
     have aQ := z.1 L
     refine sqB j a [] [] [(2, i6 3)] ?_; intro bB aR
     exact r_ (h_ (ra1 aR (i6 3) ⟨3, rfl, aQ, a.below⟩))
    · -- no
     have A := z.2 L
     refine k_ (s_ (sqB j a [0, 0, 0] [] [(59, .bool ((decide ((u0.Data.length : Int) > 64)) || ((decide ((u0.Data.length : Int) > 8)) && (!u0.Fast))))] ?_)); intro aS k
     refine cd k (t := (decide ((u0.Data.length : Int) > 64)) || ((decide ((u0.Data.length : Int) > 8)) && (!u0.Fast))) (by kernel_rfl) (fun M => ?_) (fun M => ?_)
     · -- yes
      have aT := A.1 M
      refine sqB k a [] [] [(2, i6 2)] ?_; intro bC aU
      exact r_ (h_ (ra1 aU (i6 2) ⟨2, rfl, aT, a.below⟩))
     · -- no
      have B := A.2 M
      refine k_ (s_ ?_)
      have aj : Fr 66 [] [⟨1, [], pt c 0⟩] aS := k.reg
      refine wp_seq (rgS mixed a [(1, true), (2, true), (3, true), (0, false), (4, false), (5, true)] [] [0] [.row c (e24Ra u0 ao1 cap2) 24] ?_)
      intro aV ak bD N
      have d := Fz.le.refl Z
      refine cS aj 3 [0] [] [(63, i6 (u0.Data.length : Int))] ?_; intro bE al
      refine eS rfl ?_; intro aW am
      refine ck al 34 #[] ?_
      refine (rsizes_fun  _ _ N.fz).mono ?_; rintro _ an ⟨ao, ap, aX, rfl, hm⟩; refine ⟨_, rfl, ?_⟩; intro bF aq; have ar := N.callZ hm; have O := hm.ext.le
      replace d := d.mono O
      have au : Mem w.heap.size [] w Z [.own t6 3 ao ap rsizes, .row c (e24Ra u0 ao1 cap2) 24] aX an := ar
      refine nl (qnI (am _ _ (au.cst d [1]) ?_))
      refine eS rfl ?_; intro aY av
      obtain ⟨aZ, P, aw, a1⟩ := au.freeze 0 rfl
      replace d := d.mono P
      have Q : Mem w.heap.size [] w Z [.row c (e24Ra u0 ao1 cap2) 24] aZ an := aw
      refine fc aq Q (scontains_fun rsizes (u0.Data.length : Int) ao ap _ _ a1 Q.fz) ?_; intro bG bH ax l
      refine nl (qnI (av _ _ (l.cst d [0]) ?_))
      refine cS ax 1 [] [] [(65, .bool (!(scontainsS rsizes (u0.Data.length : Int))))] ?_; intro bI m
      refine nS (ak _ _ ?_)
      apply t_
      refine cd m (t := !(scontainsS rsizes (u0.Data.length : Int))) (by kernel_rfl) (fun R => ?_) (fun R => ?_)
      · -- yes
       have a2 := B.1 R
       refine sqB m l [] [] [(2, i6 4)] ?_; intro bJ a3
       exact r_ (h_ (ra1 a3 (i6 4) ⟨4, rfl, a2, l.below⟩))
      · -- no
       have a4 := B.2 R
       refine k_ (sqB m l [] [] [(2, i6 0)] ?_); intro bK a5
       exact r_ (ra1 a5 (i6 0) ⟨0, rfl, a4, l.below⟩)
 · -- no
  have C := v.2 H
  refine k_ (s_ (sqB g a [0, 0] [] [(14, .bool ((decide (u0.ID < 0)) || (decide (u0.ID > 2047))))] ?_)); intro bL n
  refine cd n (t := (decide (u0.ID < 0)) || (decide (u0.ID > 2047))) (by kernel_rfl) (fun S => ?_) (fun S => ?_)
  · -- yes
   have a6 := C.1 S
   refine sqB n a [] [] [(2, i6 3)] ?_; intro bM a8
   exact r_ (h_ (ra1 a8 (i6 3) ⟨3, rfl, a6, a.below⟩))
  · -- no
   have D := C.2 S
   refine k_ (s_ (sqB n a [0, 0, 0] [] [(26, .bool (u0.Remote && (u0.Fast || ((u0.Data.length : Int) != 0))))] ?_)); intro bN o
   refine cd o (t := u0.Remote && (u0.Fast || ((u0.Data.length : Int) != 0))) (by kernel_rfl) (fun T => ?_) (fun T => ?_)
   · -- yes
    have a9 := D.1 T
    refine sqB o a [] [] [(2, i6 4)] ?_; intro bO ba
    exact r_ (h_ (ra1 ba (i6 4) ⟨4, rfl, a9, a.below⟩))
   · -- no
    have E := D.2 T
    refine k_ (s_ (sqB o a [0, 0, 0, 0] [] [(44, .bool (((decide (u0.Size < 0)) || (decide (u0.Size > 8))) || ((decide (u0.Size > 0)) && (!u0.Remote))))] ?_)); intro bP p
    refine cd p (t := ((decide (u0.Size < 0)) || (decide (u0.Size > 8))) || ((decide (u0.Size > 0)) && (!u0.Remote))) (by kernel_rfl) (fun U => ?_) (fun U => ?_)
    · -- yes
     have bb := E.1 U
     refine sqB p a [] [] [(2, i6 3)] ?_; intro bQ bc
     exact r_ (h_ (ra1 bc (i6 3) ⟨3, rfl, bb, a.below⟩))
    · -- no
     have F := E.2 U
     refine k_ (s_ (sqB p a [0, 0, 0] [] [(59, .bool ((decide ((u0.Data.length : Int) > 64)) || ((decide ((u0.Data.length : Int) > 8)) && (!u0.Fast))))] ?_)); intro bd q
     refine cd q (t := (decide ((u0.Data.length : Int) > 64)) || ((decide ((u0.Data.length : Int) > 8)) && (!u0.Fast))) (by kernel_rfl) (fun V => ?_) (fun V => ?_)
     · -- yes
      have be := F.1 V
      refine sqB q a [] [] [(2, i6 2)] ?_; intro bR bf
      exact r_ (h_ (ra1 bf (i6 2) ⟨2, rfl, be, a.below⟩))
     · -- no
      have G := F.2 V
      refine k_ (s_ ?_)
      have ay : Fr 66 [] [⟨1, [], pt c 0⟩] bd := q.reg
      refine wp_seq (rgS mixed a [(1, true), (2, true), (3, true), (0, false), (4, false), (5, true)] [] [0] [.row c (e24Ra u0 ao1 cap2) 24] ?_)
      intro bg az bS W
      have f := Fz.le.refl Z
      refine cS ay 3 [0] [] [(63, i6 (u0.Data.length : Int))] ?_; intro bT aA
      refine eS rfl ?_; intro bh aB
      refine ck aA 34 #[] ?_
      refine (rsizes_fun  _ _ W.fz).mono ?_; rintro _ aC ⟨aD, aE, bi, rfl, hm⟩; refine ⟨_, rfl, ?_⟩; intro bU aF; have aG := W.callZ hm; have X := hm.ext.le
      replace f := f.mono X
      have aH : Mem w.heap.size [] w Z [.own t6 3 aD aE rsizes, .row c (e24Ra u0 ao1 cap2) 24] bi aC := aG
      refine nl (qnI (aB _ _ (aH.cst f [1]) ?_))
      refine eS rfl ?_; intro bj aI
      obtain ⟨bk, Y, aJ, bl⟩ := aH.freeze 0 rfl
      replace f := f.mono Y
      have aa : Mem w.heap.size [] w Z [.row c (e24Ra u0 ao1 cap2) 24] bk aC := aJ
      refine fc aF aa (scontains_fun rsizes (u0.Data.length : Int) aD aE _ _ bl aa.fz) ?_; intro bV bW aK s
      refine nl (qnI (aI _ _ (s.cst f [0]) ?_))
      refine cS aK 1 [] [] [(65, .bool (!(scontainsS rsizes (u0.Data.length : Int))))] ?_; intro bX u
      refine nS (az _ _ ?_)
      apply t_
      refine cd u (t := !(scontainsS rsizes (u0.Data.length : Int))) (by kernel_rfl) (fun ab => ?_) (fun ab => ?_)
      · -- yes
       have bm := G.1 ab
       refine sqB u s [] [] [(2, i6 4)] ?_; intro bY bn
       exact r_ (h_ (ra1 bn (i6 4) ⟨4, rfl, bm, s.below⟩))
      · -- no
       have bo := G.2 ab
       refine k_ (sqB u s [] [] [(2, i6 0)] ?_); intro bZ bp
       exact r_ (ra1 bp (i6 0) ⟨0, rfl, bo, s.below⟩)
end Go.Proofs.YtmnlahbngbigdaaGreatDoor
set_option linter.unusedVariables false
set_option linter.unusedSimpArgs false
set_option linter.defProp false
set_option maxRecDepth 100000
set_option maxHeartbeats 0
namespace Go.Proofs.YtmnlahbngbigdaaGreatDoor
open Go.Sy Go.RowKit
abbrev e24Rb (X : Frame) (A0 : Option Addr) (C0 : Nat) : List Value := [i6 X.ID, .bool X.Long, .bool X.Fast, .bool X.Remote, i6 X.Size, .slice A0 X.Data.length C0]
def rofb_fun (u0 : List Int) (hpre : (∀ x ∈ u0, 0 ≤ x ∧ x ≤ 255) ∧ u0.length ≤ 1000) (ao1 : Option Addr) (cap2 : Nat) (Z : Fz) (w : World) (hs3 : SlR t8 Z ao1 cap2 u0) (hg5 : SlR t8 Z (sm 5) 64 deBruijn64) (hZ : Z.on w) := f_ (rofb_walk u0 ao1 cap2 Z w hs3 hg5 hZ (rofb_ok u0 hpre))
def rname_fun (u0 : Frame) (hpre : fcheckfr u0 = 0) (ao1 : Option Addr) (cap2 : Nat) (Z : Fz) (w : World) (hs3 : SlR t8 Z ao1 cap2 u0.Data) (hg5 : SlR t8 Z (sm 5) 64 deBruijn64) (hZ : Z.on w) := f_ (rname_walk u0 ao1 cap2 Z w hs3 hg5 hZ (rname_ok u0 hpre))
def rcheckfr_fun (u0 : Frame) (ao1 : Option Addr) (cap2 : Nat) (Z : Fz) (w : World) (hs3 : SlR t8 Z ao1 cap2 u0.Data) (hZ : Z.on w) := f_ (rcheckfr_walk u0 ao1 cap2 Z w hs3 hZ (rcheckfr_ok u0))
theorem rhead_walk (u0 : Frame) (ao1 : Option Addr) (cap2 : Nat) (Z : Fz) (w : World) (hs3 : SlR t8 Z ao1 cap2 u0.Data) (hg5 : SlR t8 Z (sm 5) 64 deBruijn64) (hZ : Z.on w) {K : (List UInt8) → Prop} (hp : rhead_vc u0 K) : Calls Tryz.prog 40 #[.agg #[i6 u0.ID, .bool u0.Long, .bool u0.Fast, .bool u0.Remote, i6 u0.Size, .slice ao1 u0.Data.length cap2]] w fun e w' => ∃ r : (List UInt8), e = .returned (str r) ∧ K r ∧ Below w.heap.size w w' := by
 refine enter0 Tryz.func40 rfl rfl (by kernel_rfl) ?_; intro a0 W; have X := Mem.start w Z hZ
 have ci := hp (hs3.small)
 refine sqH ?_; intro cj Y
 refine nw W X pb (e24Rb u0 ao1 cap2) 24 ?_; intro c a7 eb aa u
 refine s1 aa 2 (str []) ?_; intro ec ab
 apply Y
 refine sqH ?_; intro cl ac
 refine l2 ab u 7 0 0 6 (e24Rb u0 ao1 cap2) rfl rfl ?_; intro ed ad
 obtain ⟨cm, cn⟩ := ci
 refine fc ad u (rname_fun u0 cm ao1 cap2 _ _ hs3 hg5 u.fz) ?_; intro ee ef ae a
 obtain ⟨co, v⟩ := cn
 refine sa ae co ?_; intro eg af
 refine s1 af 3 (str (([48] : List UInt8) ++ (fnameS u0))) ?_; intro eh ag
 apply ac
 refine s_ (sqB ag a [0] [] [(11, .bool u0.Fast)] ?_); intro ei n
 refine cd n (t := u0.Fast) (by kernel_rfl) (fun L => ?_) (fun L => ?_)
 · -- yes
  have cp := v.1 L
  refine rgH ?_; intro cq ah
  refine s1 n 12 (str (([48] : List UInt8) ++ (fnameS u0))) ?_; intro ej ai
  obtain ⟨cr, x⟩ := cp
  refine sa ai cr ?_; intro ek aj
  refine s1 aj 3 (str ((([48] : List UInt8) ++ (fnameS u0)) ++ ([49, 48, 49, 48] : List UInt8))) ?_; intro el ak
  apply ah
  refine t_ (sqB ak a [0] [] [(4, i6 u0.Size)] ?_); intro em al
  refine s_ (sqB al a [0] [] [(24, .bool (!u0.Remote))] ?_); intro cs o
  refine cd o (t := !u0.Remote) (by kernel_rfl) (fun M => ?_) (fun M => ?_)
  · -- yes
   have ct := x.1 M
   have am : Fr 42 [] [⟨1, [], pt c 0⟩, ⟨3, [], str ((([48] : List UInt8) ++ (fnameS u0)) ++ ([49, 48, 49, 48] : List UInt8))⟩] cs := o.reg
   refine rgS mixed a [(1, true), (2, true), (3, true), (0, false), (4, false), (5, true)] [] [0] [.row c (e24Rb u0 ao1 cap2) 24] ?_
   intro cu an en N
   have d := Fz.le.refl Z
   refine cS am 3 [0] [] [(28, i6 (u0.Data.length : Int))] ?_; intro eo ao
   refine eS rfl ?_; intro cv ap
   refine ck ao 34 #[] ?_
   refine (rsizes_fun  _ _ N.fz).mono ?_; rintro _ aq ⟨ar, au, cw, rfl, hm⟩; refine ⟨_, rfl, ?_⟩; intro ep av; have aw := N.callZ hm; have y := hm.ext.le
   replace hs3 := hs3.mono y
   replace hg5 := hg5.mono y
   replace d := d.mono y
   have ax : Mem w.heap.size [] w Z [.own t6 3 ar au rsizes, .row c (e24Rb u0 ao1 cap2) 24] cw aq := aw
   refine nl (qnI (ap _ _ (ax.cst d [1]) ?_))
   refine eS rfl ?_; intro cx ay
   obtain ⟨cy, z, az, cz⟩ := ax.freeze 0 rfl
   replace hs3 := hs3.mono z
   replace hg5 := hg5.mono z
   replace d := d.mono z
   have O : Mem w.heap.size [] w Z [.row c (e24Rb u0 ao1 cap2) 24] cy aq := az
   refine fc av O (sindex_fun rsizes (u0.Data.length : Int) ar au _ _ cz O.fz) ?_; intro eq er aA A
   refine nl (qnI (ay _ _ (A.cst d [0]) ?_))
   refine cS aA 1 [] [] [(4, i6 (sindexS rsizes (u0.Data.length : Int)))] ?_; intro es aB
   refine nS (an _ _ ?_)
   refine t_ (sqH ?_); intro cA aC
   refine s1 aB 31 (i6 (sindexS rsizes (u0.Data.length : Int))) ?_; intro et aD
   obtain ⟨cB, cC⟩ := ct
   refine fc aD A (rrow_fun (sindexS rsizes (u0.Data.length : Int)) 4 cB _ _ hg5 A.fz) ?_; intro eu ev aE f
   refine bt aE f 5 [] [] [(5, str (rrowS (sindexS rsizes (u0.Data.length : Int)) 4).1)] ?_; intro ew aF
   apply aC
   refine sqH ?_; intro cD aG
   refine bt aF f 2 [] [] [(35, str ((([48] : List UInt8) ++ (fnameS u0)) ++ ([49, 48, 49, 48] : List UInt8))), (36, str (rrowS (sindexS rsizes (u0.Data.length : Int)) 4).1)] ?_; intro ex aH
   obtain ⟨cE, cF⟩ := cC
   refine sa aH cE ?_; intro ey aI
   refine bt aI f 2 [0] [] [(39, .slice ao1 u0.Data.length cap2)] ?_; intro ez aJ
   obtain ⟨cG, cH⟩ := cF
   refine fc aJ f (rofb_fun u0.Data cG ao1 cap2 _ _ hs3 hg5 f.fz) ?_; intro eA eB aK cI
   obtain ⟨cJ, cK⟩ := cH
   refine sa aK cJ ?_; intro eC aL
   refine s1 aL 2 (str ((((([48] : List UInt8) ++ (fnameS u0)) ++ ([49, 48, 49, 48] : List UInt8)) ++ (rrowS (sindexS rsizes (u0.Data.length : Int)) 4).1) ++ (ofb u0.Data))) ?_; intro eD cL
   apply aG
   exact r_ (ra1 cL (str ((((([48] : List UInt8) ++ (fnameS u0)) ++ ([49, 48, 49, 48] : List UInt8)) ++ (rrowS (sindexS rsizes (u0.Data.length : Int)) 4).1) ++ (ofb u0.Data))) ⟨(((([48] : List UInt8) ++ (fnameS u0)) ++ ([49, 48, 49, 48] : List UInt8)) ++ (rrowS (sindexS rsizes (u0.Data.length : Int)) 4).1) ++ (ofb u0.Data), rfl, cK, cI.below⟩)
  · -- no
   have cM := x.2 M
   refine k_ (sqH ?_); intro cN aM
   refine s1 o 31 (i6 u0.Size) ?_; intro eE aN
   obtain ⟨cO, cP⟩ := cM
   refine fc aN a (rrow_fun u0.Size 4 cO _ _ hg5 a.fz) ?_; intro eF eG aO g
   refine bt aO g 5 [] [] [(5, str (rrowS u0.Size 4).1)] ?_; intro eH aP
   apply aM
   refine sqH ?_; intro cQ aQ
   refine bt aP g 2 [] [] [(35, str ((([48] : List UInt8) ++ (fnameS u0)) ++ ([49, 48, 49, 48] : List UInt8))), (36, str (rrowS u0.Size 4).1)] ?_; intro eI aR
   obtain ⟨cR, cT⟩ := cP
   refine sa aR cR ?_; intro eJ aS
   refine bt aS g 2 [0] [] [(39, .slice ao1 u0.Data.length cap2)] ?_; intro eK aT
   obtain ⟨cU, cV⟩ := cT
   refine fc aT g (rofb_fun u0.Data cU ao1 cap2 _ _ hs3 hg5 g.fz) ?_; intro eL eM aU cW
   obtain ⟨cX, cY⟩ := cV
   refine sa aU cX ?_; intro eN aV
   refine s1 aV 2 (str ((((([48] : List UInt8) ++ (fnameS u0)) ++ ([49, 48, 49, 48] : List UInt8)) ++ (rrowS u0.Size 4).1) ++ (ofb u0.Data))) ?_; intro eO cZ
   apply aQ
   exact r_ (ra1 cZ (str ((((([48] : List UInt8) ++ (fnameS u0)) ++ ([49, 48, 49, 48] : List UInt8)) ++ (rrowS u0.Size 4).1) ++ (ofb u0.Data))) ⟨(((([48] : List UInt8) ++ (fnameS u0)) ++ ([49, 48, 49, 48] : List UInt8)) ++ (rrowS u0.Size 4).1) ++ (ofb u0.Data), rfl, cY, cW.below⟩)
 · -- no
  have B := v.2 L
  refine sqB n a [0] [] [(15, .bool u0.Long)] ?_; intro eP p
  refine cd p (t := u0.Long) (by kernel_rfl) (fun P => ?_) (fun P => ?_)
  · -- yes
   have c0 := B.1 P
   refine rgH ?_; intro c1 aW
   refine s1 p 16 (str (([48] : List UInt8) ++ (fnameS u0))) ?_; intro eQ aX
   obtain ⟨c2, C⟩ := c0
   refine sa aX c2 ?_; intro eR aY
   refine s1 aY 3 (str ((([48] : List UInt8) ++ (fnameS u0)) ++ ([48, 48] : List UInt8))) ?_; intro eT aZ
   apply aW
   refine t_ (sqB aZ a [0] [] [(4, i6 u0.Size)] ?_); intro eU a1
   refine s_ (sqB a1 a [0] [] [(24, .bool (!u0.Remote))] ?_); intro c3 q
   refine cd q (t := !u0.Remote) (by kernel_rfl) (fun Q => ?_) (fun Q => ?_)
   · -- yes
    have c4 := C.1 Q
    have a2 : Fr 42 [] [⟨1, [], pt c 0⟩, ⟨3, [], str ((([48] : List UInt8) ++ (fnameS u0)) ++ ([48, 48] : List UInt8))⟩] c3 := q.reg
    refine rgS mixed a [(1, true), (2, true), (3, true), (0, false), (4, false), (5, true)] [] [0] [.row c (e24Rb u0 ao1 cap2) 24] ?_
    intro c5 a3 eV R
    have h := Fz.le.refl Z
    refine cS a2 3 [0] [] [(28, i6 (u0.Data.length : Int))] ?_; intro eW a4
    refine eS rfl ?_; intro c6 a5
    refine ck a4 34 #[] ?_
    refine (rsizes_fun  _ _ R.fz).mono ?_; rintro _ a6 ⟨a8, a9, c7, rfl, hm⟩; refine ⟨_, rfl, ?_⟩; intro eX ba; have bb := R.callZ hm; have D := hm.ext.le
    replace hs3 := hs3.mono D
    replace hg5 := hg5.mono D
    replace h := h.mono D
    have bc : Mem w.heap.size [] w Z [.own t6 3 a8 a9 rsizes, .row c (e24Rb u0 ao1 cap2) 24] c7 a6 := bb
    refine nl (qnI (a5 _ _ (bc.cst h [1]) ?_))
    refine eS rfl ?_; intro c8 bd
    obtain ⟨c9, E, be, da⟩ := bc.freeze 0 rfl
    replace hs3 := hs3.mono E
    replace hg5 := hg5.mono E
    replace h := h.mono E
    have S : Mem w.heap.size [] w Z [.row c (e24Rb u0 ao1 cap2) 24] c9 a6 := be
    refine fc ba S (sindex_fun rsizes (u0.Data.length : Int) a8 a9 _ _ da S.fz) ?_; intro eY eZ bf F
    refine nl (qnI (bd _ _ (F.cst h [0]) ?_))
    refine cS bf 1 [] [] [(4, i6 (sindexS rsizes (u0.Data.length : Int)))] ?_; intro e0 bg
    refine nS (a3 _ _ ?_)
    refine t_ (sqH ?_); intro db bh
    refine s1 bg 31 (i6 (sindexS rsizes (u0.Data.length : Int))) ?_; intro e1 bi
    obtain ⟨dc, dd⟩ := c4
    refine fc bi F (rrow_fun (sindexS rsizes (u0.Data.length : Int)) 4 dc _ _ hg5 F.fz) ?_; intro e2 e3 bj i
    refine bt bj i 5 [] [] [(5, str (rrowS (sindexS rsizes (u0.Data.length : Int)) 4).1)] ?_; intro e4 bk
    apply bh
    refine sqH ?_; intro de bl
    refine bt bk i 2 [] [] [(35, str ((([48] : List UInt8) ++ (fnameS u0)) ++ ([48, 48] : List UInt8))), (36, str (rrowS (sindexS rsizes (u0.Data.length : Int)) 4).1)] ?_; intro e5 bm
    obtain ⟨df, dg⟩ := dd
    refine sa bm df ?_; intro e6 bn
    refine bt bn i 2 [0] [] [(39, .slice ao1 u0.Data.length cap2)] ?_; intro e7 bo
    obtain ⟨dh, di⟩ := dg
    refine fc bo i (rofb_fun u0.Data dh ao1 cap2 _ _ hs3 hg5 i.fz) ?_; intro e8 e9 bp dj
    obtain ⟨dk, dl⟩ := di
    refine sa bp dk ?_; intro fa bq
    refine s1 bq 2 (str ((((([48] : List UInt8) ++ (fnameS u0)) ++ ([48, 48] : List UInt8)) ++ (rrowS (sindexS rsizes (u0.Data.length : Int)) 4).1) ++ (ofb u0.Data))) ?_; intro fb dm
    apply bl
    exact r_ (ra1 dm (str ((((([48] : List UInt8) ++ (fnameS u0)) ++ ([48, 48] : List UInt8)) ++ (rrowS (sindexS rsizes (u0.Data.length : Int)) 4).1) ++ (ofb u0.Data))) ⟨(((([48] : List UInt8) ++ (fnameS u0)) ++ ([48, 48] : List UInt8)) ++ (rrowS (sindexS rsizes (u0.Data.length : Int)) 4).1) ++ (ofb u0.Data), rfl, dl, dj.below⟩)
   · -- no
    have dn := C.2 Q
    refine k_ (sqH ?_); intro dp br
    refine s1 q 31 (i6 u0.Size) ?_; intro fd bs
    obtain ⟨dq, dr⟩ := dn
    refine fc bs a (rrow_fun u0.Size 4 dq _ _ hg5 a.fz) ?_; intro fe ff bu j
    refine bt bu j 5 [] [] [(5, str (rrowS u0.Size 4).1)] ?_; intro fg bv
    apply br
    refine sqH ?_; intro ds bw
    refine bt bv j 2 [] [] [(35, str ((([48] : List UInt8) ++ (fnameS u0)) ++ ([48, 48] : List UInt8))), (36, str (rrowS u0.Size 4).1)] ?_; intro fh bx
    obtain ⟨dt, du⟩ := dr
    refine sa bx dt ?_; intro fi bz
    refine bt bz j 2 [0] [] [(39, .slice ao1 u0.Data.length cap2)] ?_; intro fj bA
    obtain ⟨dv, dw⟩ := du
    refine fc bA j (rofb_fun u0.Data dv ao1 cap2 _ _ hs3 hg5 j.fz) ?_; intro fk fl bB dx
    obtain ⟨dy, dz⟩ := dw
    refine sa bB dy ?_; intro fm bC
    refine s1 bC 2 (str ((((([48] : List UInt8) ++ (fnameS u0)) ++ ([48, 48] : List UInt8)) ++ (rrowS u0.Size 4).1) ++ (ofb u0.Data))) ?_; intro fn dA
    apply bw
    exact r_ (ra1 dA (str ((((([48] : List UInt8) ++ (fnameS u0)) ++ ([48, 48] : List UInt8)) ++ (rrowS u0.Size 4).1) ++ (ofb u0.Data))) ⟨(((([48] : List UInt8) ++ (fnameS u0)) ++ ([48, 48] : List UInt8)) ++ (rrowS u0.Size 4).1) ++ (ofb u0.Data), rfl, dz, dx.below⟩)
  · -- no
   have dB := B.2 P
   refine rgH ?_; intro dC bD
   refine s1 p 18 (str (([48] : List UInt8) ++ (fnameS u0))) ?_; intro fo bE
   obtain ⟨dD, G⟩ := dB
   refine sa bE dD ?_; intro fp bF
   refine s1 bF 3 (str ((([48] : List UInt8) ++ (fnameS u0)) ++ ([48] : List UInt8))) ?_; intro fq bG
   apply bD
   refine t_ (sqB bG a [0] [] [(4, i6 u0.Size)] ?_); intro fr bH
   refine s_ (sqB bH a [0] [] [(24, .bool (!u0.Remote))] ?_); intro dE s
   refine cd s (t := !u0.Remote) (by kernel_rfl) (fun T => ?_) (fun T => ?_)
   · -- yes
    have dF := G.1 T
    have bI : Fr 42 [] [⟨1, [], pt c 0⟩, ⟨3, [], str ((([48] : List UInt8) ++ (fnameS u0)) ++ ([48] : List UInt8))⟩] dE := s.reg
    refine rgS mixed a [(1, true), (2, true), (3, true), (0, false), (4, false), (5, true)] [] [0] [.row c (e24Rb u0 ao1 cap2) 24] ?_
    intro dG bJ fs U
    have k := Fz.le.refl Z
    refine cS bI 3 [0] [] [(28, i6 (u0.Data.length : Int))] ?_; intro ft bK
    refine eS rfl ?_; intro dH bL
    refine ck bK 34 #[] ?_
    refine (rsizes_fun  _ _ U.fz).mono ?_; rintro _ bM ⟨bN, bO, dI, rfl, hm⟩; refine ⟨_, rfl, ?_⟩; intro fu bP; have bQ := U.callZ hm; have H := hm.ext.le
    replace hs3 := hs3.mono H
    replace hg5 := hg5.mono H
    replace k := k.mono H
    have bR : Mem w.heap.size [] w Z [.own t6 3 bN bO rsizes, .row c (e24Rb u0 ao1 cap2) 24] dI bM := bQ
    refine nl (qnI (bL _ _ (bR.cst k [1]) ?_))
    refine eS rfl ?_; intro dJ bS
    obtain ⟨dK, I, bT, dL⟩ := bR.freeze 0 rfl
    replace hs3 := hs3.mono I
    replace hg5 := hg5.mono I
    replace k := k.mono I
    have V : Mem w.heap.size [] w Z [.row c (e24Rb u0 ao1 cap2) 24] dK bM := bT
    refine fc bP V (sindex_fun rsizes (u0.Data.length : Int) bN bO _ _ dL V.fz) ?_; intro fv fw bU J
    refine nl (qnI (bS _ _ (J.cst k [0]) ?_))
    refine cS bU 1 [] [] [(4, i6 (sindexS rsizes (u0.Data.length : Int)))] ?_; intro fx bV
    refine nS (bJ _ _ ?_)
    refine t_ (sqH ?_); intro dM bW
    refine s1 bV 31 (i6 (sindexS rsizes (u0.Data.length : Int))) ?_; intro fy bX
    obtain ⟨dN, dO⟩ := dF
    refine fc bX J (rrow_fun (sindexS rsizes (u0.Data.length : Int)) 4 dN _ _ hg5 J.fz) ?_; intro fA fB bY l
    refine bt bY l 5 [] [] [(5, str (rrowS (sindexS rsizes (u0.Data.length : Int)) 4).1)] ?_; intro fC bZ
    apply bW
    refine sqH ?_; intro dP b0
    refine bt bZ l 2 [] [] [(35, str ((([48] : List UInt8) ++ (fnameS u0)) ++ ([48] : List UInt8))), (36, str (rrowS (sindexS rsizes (u0.Data.length : Int)) 4).1)] ?_; intro fD b1
    obtain ⟨dQ, dR⟩ := dO
    refine sa b1 dQ ?_; intro fE b2
    refine bt b2 l 2 [0] [] [(39, .slice ao1 u0.Data.length cap2)] ?_; intro fF b3
    obtain ⟨dS, dT⟩ := dR
    refine fc b3 l (rofb_fun u0.Data dS ao1 cap2 _ _ hs3 hg5 l.fz) ?_; intro fG fH b4 dU
    obtain ⟨dV, dW⟩ := dT
    refine sa b4 dV ?_; intro fI b5
    refine s1 b5 2 (str ((((([48] : List UInt8) ++ (fnameS u0)) ++ ([48] : List UInt8)) ++ (rrowS (sindexS rsizes (u0.Data.length : Int)) 4).1) ++ (ofb u0.Data))) ?_; intro fJ dX
    apply b0
    exact r_ (ra1 dX (str ((((([48] : List UInt8) ++ (fnameS u0)) ++ ([48] : List UInt8)) ++ (rrowS (sindexS rsizes (u0.Data.length : Int)) 4).1) ++ (ofb u0.Data))) ⟨(((([48] : List UInt8) ++ (fnameS u0)) ++ ([48] : List UInt8)) ++ (rrowS (sindexS rsizes (u0.Data.length : Int)) 4).1) ++ (ofb u0.Data), rfl, dW, dU.below⟩)
   · -- no
    have dY := G.2 T
    refine k_ (sqH ?_); intro dZ b7
    refine s1 s 31 (i6 u0.Size) ?_; intro fK b8
    obtain ⟨d0, d1⟩ := dY
    refine fc b8 a (rrow_fun u0.Size 4 d0 _ _ hg5 a.fz) ?_; intro fL fM b9 m
    refine bt b9 m 5 [] [] [(5, str (rrowS u0.Size 4).1)] ?_; intro fN ca
    apply b7
    refine sqH ?_; intro d2 cb
    refine bt ca m 2 [] [] [(35, str ((([48] : List UInt8) ++ (fnameS u0)) ++ ([48] : List UInt8))), (36, str (rrowS u0.Size 4).1)] ?_; intro fO cc
    obtain ⟨d3, d4⟩ := d1
    refine sa cc d3 ?_; intro fP ce
    refine bt ce m 2 [0] [] [(39, .slice ao1 u0.Data.length cap2)] ?_; intro fQ cf
    obtain ⟨d5, d6⟩ := d4
    refine fc cf m (rofb_fun u0.Data d5 ao1 cap2 _ _ hs3 hg5 m.fz) ?_; intro fR fS cg d7
    obtain ⟨d8, d9⟩ := d6
    refine sa cg d8 ?_; intro fT ch
    refine s1 ch 2 (str ((((([48] : List UInt8) ++ (fnameS u0)) ++ ([48] : List UInt8)) ++ (rrowS u0.Size 4).1) ++ (ofb u0.Data))) ?_; intro fU ea
    apply cb
    exact r_ (ra1 ea (str ((((([48] : List UInt8) ++ (fnameS u0)) ++ ([48] : List UInt8)) ++ (rrowS u0.Size 4).1) ++ (ofb u0.Data))) ⟨(((([48] : List UInt8) ++ (fnameS u0)) ++ ([48] : List UInt8)) ++ (rrowS u0.Size 4).1) ++ (ofb u0.Data), rfl, d9, d7.below⟩)
end Go.Proofs.YtmnlahbngbigdaaGreatDoor
set_option linter.unusedVariables false
set_option linter.unusedSimpArgs false
set_option linter.defProp false
namespace Go.Proofs.YtmnlahbngbigdaaGreatDoor
open Go.Sy Go.RowKit
def rhead_fun (u0 : Frame) (hpre : fcheckfr u0 = 0 ∧ ∀ x ∈ u0.Data, 0 ≤ x ∧ x ≤ 255) (ao1 : Option Addr) (cap2 : Nat) (Z : Fz) (w : World) (hs3 : SlR t8 Z ao1 cap2 u0.Data) (hg5 : SlR t8 Z (sm 5) 64 deBruijn64) (hZ : Z.on w) := f_ (rhead_walk u0 ao1 cap2 Z w hs3 hg5 hZ (rhead_ok u0 hpre))
end Go.Proofs.YtmnlahbngbigdaaGreatDoor
set_option linter.unusedVariables false
set_option linter.unusedSimpArgs false
set_option linter.defProp false
set_option maxRecDepth 100000
set_option maxHeartbeats 0
namespace Go.Proofs.YtmnlahbngbigdaaGreatDoor
open Go.Sy Go.RowKit
theorem rother_walk (u0 : Int)  (Z : Fz) (w : World)  (hZ : Z.on w) {K : Int → Prop} (hp : rother_vc u0 K) : Calls Tryz.prog 14 #[y8 u0] w fun e w' => ∃ r : Int, e = .returned (y8 r) ∧ K r ∧ Below w.heap.size w w' := by
 refine enter0 Tryz.func14 rfl rfl (by kernel_rfl) ?_; intro k d; have a := Mem.start w Z hZ
 refine sqB d a [] [] [] ?_; intro m f
 refine s_ (sqB f a [] [] [(4, .bool (u0 == 48))] ?_); intro n b
 refine cd b (t := u0 == 48) (by kernel_rfl) (fun c => ?_) (fun c => ?_)
 · -- yes
  have g := hp.1 c
  refine sqB b a [] [] [(2, y8 49)] ?_; intro o h
  exact r_ (h_ (ra1 h (y8 49) ⟨49, rfl, g, a.below⟩))
 · -- no
  have i := hp.2 c
  refine k_ (sqB b a [] [] [(2, y8 48)] ?_); intro p j
  exact r_ (ra1 j (y8 48) ⟨48, rfl, i, a.below⟩)
def rother_fun (u0 : Int)  (Z : Fz) (w : World)  (hZ : Z.on w) := f_ (rother_walk u0  Z w  hZ (rother_ok u0))
theorem rsame_walk (u0 : List UInt8)  (Z : Fz) (w : World)  (hZ : Z.on w) {K : Bool → Prop} (hp : rsame_vc u0 K) : Calls Tryz.prog 64 #[str u0] w fun e w' => ∃ r : Bool, e = .returned (.bool r) ∧ K r ∧ Below w.heap.size w w' := by
 refine enter0 Tryz.func64 rfl rfl (by kernel_rfl) ?_; intro s c; have a := Mem.start w Z hZ
 refine sqB c a [] [] [] ?_; intro u d
 refine sqH ?_; intro l f
 refine bt d a 2 [] [] [(3, str u0), (4, str u0)] ?_; intro v b
 obtain ⟨m, n⟩ := hp
 refine u_ b (str (u0.take (1 : Int).toNat)) (strslH_run b (g := []) (k := .i64) rfl (by kernel_rfl) (by kernel_rfl) (by kernel_rfl) m rfl) ?_; intro x h
 obtain ⟨o, p⟩ := n
 refine fc h a (count1_fun u0 (u0.take (1 : Int).toNat) o _ _ a.fz) ?_; intro y z i j
 refine bt i j 4 [] [] [(2, .bool ((count1S u0 (u0.take (1 : Int).toNat)) == (u0.length : Int)))] ?_; intro A q
 apply f
 exact r_ (ra1 q (.bool ((count1S u0 (u0.take (1 : Int).toNat)) == (u0.length : Int))) ⟨(count1S u0 (u0.take (1 : Int).toNat)) == (u0.length : Int), rfl, p, j.below⟩)
theorem fixbits_walk (u0 : List UInt8) (u1 : Int)  (Z : Fz) (w : World)  (hZ : Z.on w) {K : (List UInt8) → Prop} (hp : fixbits_vc u0 u1 K) : Calls Tryz.prog 73 #[str u0, y8 u1] w fun e w' => ∃ r : (List UInt8), e = .returned (str r) ∧ K r ∧ Below w.heap.size w w' := by
 refine enter0 Tryz.func73 rfl rfl (by kernel_rfl) ?_; intro a0 E; have i := Mem.start w Z hZ
 refine sqB E i [] [] [] ?_; intro a2 F
 refine sqB F i [] [] [(5, str [])] ?_; intro a5 G
 refine s_ (sqB G i [] [] [(6, i6 0)] ?_); intro H I
 apply b_
 have J : Fr 34 [] [⟨0, [], str u0⟩, ⟨1, [], y8 u1⟩, ⟨5, [], str []⟩, ⟨6, [], i6 0⟩] H := I.reg
 obtain ⟨ap, aq, ar, au⟩ := hp
 refine lp (ι := Int × (List UInt8) × Int × Fz) (fun s => [⟨0, [], str u0⟩, ⟨1, [], y8 s.1⟩, ⟨5, [], str s.2.1⟩, ⟨6, [], i6 s.2.2.1⟩]) (fun s => []) (fun s => s.2.2.2) (fun s => ap s.1 s.2.1 s.2.2.1 ∧ Fz.le Z s.2.2.2) (fun s => aq s.1 s.2.1 s.2.2.1) ⟨u1, [], 0, Z⟩ ⟨ar, Fz.le.refl _⟩ (by exact J.region (by kernel_rfl) (by kernel_rfl)) (by exact i) ?_
 rintro ⟨c, d, a, p⟩ ⟨av, n⟩ aw ax M N
 have o := au c d a av
 refine s_ (sqB M N [] [] [(10, .bool (decide (a < (u0.length : Int))))] ?_); intro ay m
 refine cd m (t := decide (a < (u0.length : Int))) (by kernel_rfl) (fun u => ?_) (fun u => ?_)
 · -- yes
  have az := o.1 u
  refine k_ (s_ (b_ ?_))
  have P : Fr 34 [] [⟨0, [], str u0⟩, ⟨1, [], y8 c⟩, ⟨5, [], str d⟩, ⟨6, [], i6 a⟩] ay := m.reg
  refine wp_seq (rgS mixed N [(0, true), (1, true), (5, true), (6, true), (7, true), (8, true), (9, true), (10, true), (11, true), (12, true), (2, false), (3, false), (4, false), (13, false), (14, false), (15, true)] [] [] [] ?_)
  intro aA Q aV v
  have f := Fz.le.refl p
  refine cS P 9 [] [] [(13, str d), (14, y8 c), (18, str u0), (19, i6 a), (24, i6 (min (w64 (a + 4)) (u0.length : Int)))] ?_; intro aW y
  obtain ⟨aB, aC⟩ := az
  refine cst rfl y (str ((u0.take (min (w64 (a + 4)) (u0.length : Int)).toNat).drop a.toNat)) (nog rfl _) rfl (by kernel_rfl) (fun v58 hC => strslI_run y (g := []) (k := .i64) (k' := .i64) rfl (by kernel_rfl) (by kernel_rfl) (by kernel_rfl) (by kernel_rfl) aB rfl) ?_; intro aX R
  refine eS rfl ?_; intro aD S
  refine fc R v (rother_fun c _ _ v.fz) ?_; intro aY aZ U z
  refine nl (qnI (S _ _ (z.cst f []) ?_))
  refine eS rfl ?_; intro aE V
  refine nw U z (fun b => .slice (sm b) 1 1) [y8 (rother c)] 5 ?_; intro W a1 X A B
  refine nl (qnI (V _ _ (B.cst f []) ?_))
  refine eS rfl ?_; intro aF Y
  have aG : Mem w.heap.size [] w Z [.own t8 5 (sm W) 1 ([(rother c)] : List Int)] p X := B.rowOwn (T := t8) (xs := ([(rother c)] : List Int)) 0 rfl (by decide) (by show 1 ≤ lim; decide) (RepAll.one (T := t8) (x := (rother c)) rfl)
  obtain ⟨aa, C, ab, aH⟩ := aG.freeze 0 rfl
  replace n := n.mono C
  replace f := f.mono C
  have h : Mem w.heap.size [] w Z [] aa X := ab
  refine u_ A (str (bstr ([(rother c)] : List Int))) (bstr_op A (g := []) (e := 5) (ao := (sm W)) (cap := 1) (xs := ([(rother c)] : List Int)) rfl (by kernel_rfl) (by kernel_rfl) (by kernel_rfl) (by kernel_rfl) aH h.fz rfl) ?_; intro a3 ac
  refine nl (qnI (Y _ _ (h.cst f []) ?_))
  refine eS rfl ?_; intro aI ad
  obtain ⟨aJ, aK⟩ := aC
  refine sa ac aJ ?_; intro a4 ae
  refine nl (qnI (ad _ _ (h.cst f []) ?_))
  refine eS rfl ?_; intro aL af
  obtain ⟨aM, aN⟩ := aK
  refine sa ae aM ?_; intro a6 ag
  refine nl (qnI (af _ _ (h.cst f []) ?_))
  refine cS ag 1 [] [] [(5, str (d ++ ((bstr ([(rother c)] : List Int)) ++ ((u0.take (min (w64 (a + 4)) (u0.length : Int)).toNat).drop a.toNat))))] ?_; intro a7 ah
  refine nS (Q _ _ ?_)
  refine t_ (rgH ?_); intro aO ai
  refine bt ah h 4 [] [] [(28, str (d ++ ((bstr ([(rother c)] : List Int)) ++ ((u0.take (min (w64 (a + 4)) (u0.length : Int)).toNat).drop a.toNat)))), (31, i6 (w64 (((d ++ ((bstr ([(rother c)] : List Int)) ++ ((u0.take (min (w64 (a + 4)) (u0.length : Int)).toNat).drop a.toNat))).length : Int) - 1)))] ?_; intro a9 aj
  obtain ⟨aP, aQ⟩ := aN
  obtain ⟨D, ak⟩ : ∃ q, (d ++ ((bstr ([(rother c)] : List Int)) ++ ((u0.take (min (w64 (a + 4)) (u0.length : Int)).toNat).drop a.toNat)))[(w64 (((d ++ ((bstr ([(rother c)] : List Int)) ++ ((u0.take (min (w64 (a + 4)) (u0.length : Int)).toNat).drop a.toNat))).length : Int) - 1)).toNat]? = some q := ⟨_, List.getElem?_eq_getElem (by omega)⟩; have al := aQ D ak
  refine si aj .i64 aP.1 ak ?_; intro ba am
  refine s1 am 1 (y8 (D.toNat : Int)) ?_; intro bb an
  apply ai
  refine j_ (t_ (rgB an h [] [] [(6, i6 (w64 (a + 4)))] ?_)); intro bc aR
  exact d_ ⟨⟨(D.toNat : Int), d ++ ((bstr ([(rother c)] : List Int)) ++ ((u0.take (min (w64 (a + 4)) (u0.length : Int)).toNat).drop a.toNat)), w64 (a + 4), aa⟩, ⟨al.1, n⟩, al.2, (aR.region (by kernel_rfl) (by kernel_rfl)).anyβ _ (by kernel_rfl), h.kp⟩
 · -- no
  have aS := o.2 u
  refine x_ (y_ (y_ (z_ (t_ (sqB m N [] [] [(4, str d)] ?_))))); intro bd aT
  exact r_ (ra1 aT (str d) ⟨d, rfl, aS, N.below⟩)
end Go.Proofs.YtmnlahbngbigdaaGreatDoor
set_option linter.unusedVariables false
set_option linter.unusedSimpArgs false
set_option linter.defProp false
set_option maxRecDepth 100000
set_option maxHeartbeats 0
namespace Go.Proofs.YtmnlahbngbigdaaGreatDoor
open Go.Sy Go.RowKit
def rsame_fun (u0 : List UInt8) (hpre : 0 < u0.length ∧ u0.length ≤ 1000)  (Z : Fz) (w : World)  (hZ : Z.on w) := f_ (rsame_walk u0  Z w  hZ (rsame_ok u0 hpre))
def fixbits_fun (u0 : List UInt8) (u1 : Int) (hpre : isRow u0 = true ∧ u0.length ≤ 1000 ∧ (u1 = 48 ∨ u1 = 49))  (Z : Fz) (w : World)  (hZ : Z.on w) := f_ (fixbits_walk u0 u1  Z w  hZ (fixbits_ok u0 u1 hpre))
theorem putbits_walk (u0 : List UInt8)  (Z : Fz) (w : World)  (hZ : Z.on w) {K : (List UInt8) → Prop} (hp : putbits_vc u0 K) : Calls Tryz.prog 41 #[str u0] w fun e w' => ∃ r : (List UInt8), e = .returned (str r) ∧ K r ∧ Below w.heap.size w w' := by
 refine enter0 Tryz.func41 rfl rfl (by kernel_rfl) ?_; intro a0 W; have m := Mem.start w Z hZ
 refine sqB W m [] [] [] ?_; intro a2 X
 refine sqB X m [] [] [(3, str [])] ?_; intro a5 Y
 refine s_ (sqB Y m [] [] [(7, i6 (u0.length : Int)), (8, i6 0)] ?_); intro aa ab
 apply b_
 have ac : Fr 45 [] [⟨0, [], str u0⟩, ⟨3, [], str []⟩, ⟨7, [], i6 (u0.length : Int)⟩, ⟨8, [], i6 0⟩] aa := ab.reg
 obtain ⟨a8, a9, ba, bb⟩ := hp
 refine lp (ι := (List UInt8) × Int × Fz) (fun s => [⟨0, [], str u0⟩, ⟨3, [], str s.1⟩, ⟨7, [], i6 (u0.length : Int)⟩, ⟨8, [], i6 s.2.1⟩]) (fun s => []) (fun s => s.2.2) (fun s => a8 s.1 s.2.1 ∧ Fz.le Z s.2.2) (fun s => a9 s.1 s.2.1) ⟨[], 0, Z⟩ ⟨ba, Fz.le.refl _⟩ (by exact ac.region (by kernel_rfl) (by kernel_rfl)) (by exact m) ?_
 rintro ⟨f, a, y⟩ ⟨bc, j⟩ bd be ae af
 have z := bb f a bc
 refine sqB ae af [] [] [(9, .bool (decide (a < (u0.length : Int))))] ?_; intro bI o
 apply s_
 refine cd o (t := decide (a < (u0.length : Int))) (by kernel_rfl) (fun N => ?_) (fun N => ?_)
 · -- yes
  have bf := z.1 N
  refine k_ (s_ (b_ (sqB o af [] [] [(4, i6 a)] ?_))); intro bJ ah
  refine sqH ?_; intro bg ai
  refine bt ah af 5 [] [] [(11, str f), (12, str u0), (13, i6 a), (15, i6 (w64 (a + 1)))] ?_; intro bK O
  obtain ⟨bh, bi⟩ := bf
  refine u_ O (str ((u0.take (w64 (a + 1)).toNat).drop a.toNat)) (strslI_run O (g := []) (k := .i64) (k' := .i64) rfl (by kernel_rfl) (by kernel_rfl) (by kernel_rfl) (by kernel_rfl) bh rfl) ?_; intro bL aj
  obtain ⟨bj, A⟩ := bi
  refine sa aj bj ?_; intro bM ak
  refine s1 ak 3 (str (f ++ ((u0.take (w64 (a + 1)).toNat).drop a.toNat))) ?_; intro bN al
  apply ai
  refine sqB al af [] [] [(5, i6 ((f ++ ((u0.take (w64 (a + 1)).toNat).drop a.toNat)).length : Int))] ?_; intro P am
  have B : Fr 45 [] [⟨0, [], str u0⟩, ⟨3, [], str (f ++ ((u0.take (w64 (a + 1)).toNat).drop a.toNat))⟩, ⟨5, [], i6 ((f ++ ((u0.take (w64 (a + 1)).toNat).drop a.toNat)).length : Int)⟩, ⟨7, [], i6 (u0.length : Int)⟩, ⟨8, [], i6 a⟩] P := am.reg
  rcases Bool.eq_false_or_eq_true (decide (((f ++ ((u0.take (w64 (a + 1)).toNat).drop a.toNat)).length : Int) ≥ 5)) with p | p
  · -- true
   have bk := A.1 p
   have an : Fr 45 [] [⟨0, [], str u0⟩, ⟨3, [], str (f ++ ((u0.take (w64 (a + 1)).toNat).drop a.toNat))⟩, ⟨5, [], i6 ((f ++ ((u0.take (w64 (a + 1)).toNat).drop a.toNat)).length : Int)⟩, ⟨7, [], i6 (u0.length : Int)⟩, ⟨8, [], i6 a⟩] P := B.reg
   refine sqQH mixed (by kernel_rfl) af ?_; intro bl ap
   refine q1 an 20 (i6 ((f ++ ((u0.take (w64 (a + 1)).toNat).drop a.toNat)).length : Int)) ?_; intro bO aq
   refine q1 aq 21 (.bool (decide (((f ++ ((u0.take (w64 (a + 1)).toNat).drop a.toNat)).length : Int) ≥ 5))) ?_; intro bP ar
   have au := ar.reval (d := 21) (c := []) (v := .bool (decide (((f ++ ((u0.take (w64 (a + 1)).toNat).drop a.toNat)).length : Int) ≥ 5))) (by kernel_rfl) (.bool true) (by rw [p])
   refine q1 au 22 (.bool true) ?_; intro bQ C
   refine qg_ C true (str (f ++ ((u0.take (w64 (a + 1)).toNat).drop a.toNat))) ?_; intro bR D
   refine qg_ D true (i6 ((f ++ ((u0.take (w64 (a + 1)).toNat).drop a.toNat)).length : Int)) ?_; intro bS E
   refine qg_ E true (i6 (w64 (((f ++ ((u0.take (w64 (a + 1)).toNat).drop a.toNat)).length : Int) - 5))) ?_; intro bT F
   obtain ⟨bm, bn⟩ := bk
   refine qst F (str ((f ++ ((u0.take (w64 (a + 1)).toNat).drop a.toNat)).drop (w64 (((f ++ ((u0.take (w64 (a + 1)).toNat).drop a.toNat)).length : Int) - 5)).toNat)) (wK F true) rfl (by kernel_rfl) (fun v90 hC => strslL_run F (g := []) (k := .i64) rfl (by kernel_rfl) (by kernel_rfl) (by kernel_rfl) bm rfl) ?_; intro bU G
   refine qg_ G true (str (f ++ ((u0.take (w64 (a + 1)).toNat).drop a.toNat))) ?_; intro bV H
   refine qg_ H true (i6 ((f ++ ((u0.take (w64 (a + 1)).toNat).drop a.toNat)).length : Int)) ?_; intro bW I
   refine qg_ I true (i6 (w64 (((f ++ ((u0.take (w64 (a + 1)).toNat).drop a.toNat)).length : Int) - 1))) ?_; intro bX J
   obtain ⟨bo, bp⟩ := bn
   refine qst J (str ((f ++ ((u0.take (w64 (a + 1)).toNat).drop a.toNat)).drop (w64 (((f ++ ((u0.take (w64 (a + 1)).toNat).drop a.toNat)).length : Int) - 1)).toNat)) (wK J true) rfl (by kernel_rfl) (fun v104 hC => strslL_run J (g := []) (k := .i64) rfl (by kernel_rfl) (by kernel_rfl) (by kernel_rfl) bo rfl) ?_; intro bY Q
   obtain ⟨bq, L⟩ := bp
   refine qcl Q (i6 (count1S ((f ++ ((u0.take (w64 (a + 1)).toNat).drop a.toNat)).drop (w64 (((f ++ ((u0.take (w64 (a + 1)).toNat).drop a.toNat)).length : Int) - 5)).toNat) ((f ++ ((u0.take (w64 (a + 1)).toNat).drop a.toNat)).drop (w64 (((f ++ ((u0.take (w64 (a + 1)).toNat).drop a.toNat)).length : Int) - 1)).toNat))) 27 #[str ((f ++ ((u0.take (w64 (a + 1)).toNat).drop a.toNat)).drop (w64 (((f ++ ((u0.take (w64 (a + 1)).toNat).drop a.toNat)).length : Int) - 5)).toNat), str ((f ++ ((u0.take (w64 (a + 1)).toNat).drop a.toNat)).drop (w64 (((f ++ ((u0.take (w64 (a + 1)).toNat).drop a.toNat)).length : Int) - 1)).toNat)] (wK Q true) rfl (by kernel_rfl) (fun _ => by kernel_rfl) (qfc fun w hC => count1_fun ((f ++ ((u0.take (w64 (a + 1)).toNat).drop a.toNat)).drop (w64 (((f ++ ((u0.take (w64 (a + 1)).toNat).drop a.toNat)).length : Int) - 5)).toNat) ((f ++ ((u0.take (w64 (a + 1)).toNat).drop a.toNat)).drop (w64 (((f ++ ((u0.take (w64 (a + 1)).toNat).drop a.toNat)).length : Int) - 1)).toNat) bq _ _ hC.fz) ?_; intro bZ M
   refine qg_ M true (.bool ((count1S ((f ++ ((u0.take (w64 (a + 1)).toNat).drop a.toNat)).drop (w64 (((f ++ ((u0.take (w64 (a + 1)).toNat).drop a.toNat)).length : Int) - 5)).toNat) ((f ++ ((u0.take (w64 (a + 1)).toNat).drop a.toNat)).drop (w64 (((f ++ ((u0.take (w64 (a + 1)).toNat).drop a.toNat)).length : Int) - 1)).toNat)) == 5)) ?_; intro b0 av
   refine q1 av 33 (.bool ((count1S ((f ++ ((u0.take (w64 (a + 1)).toNat).drop a.toNat)).drop (w64 (((f ++ ((u0.take (w64 (a + 1)).toNat).drop a.toNat)).length : Int) - 5)).toNat) ((f ++ ((u0.take (w64 (a + 1)).toNat).drop a.toNat)).drop (w64 (((f ++ ((u0.take (w64 (a + 1)).toNat).drop a.toNat)).length : Int) - 1)).toNat)) == 5)) ?_; intro b1 u
   refine qnl (ap _ ?_); intro b2 l
   refine cd u (t := (count1S ((f ++ ((u0.take (w64 (a + 1)).toNat).drop a.toNat)).drop (w64 (((f ++ ((u0.take (w64 (a + 1)).toNat).drop a.toNat)).length : Int) - 5)).toNat) ((f ++ ((u0.take (w64 (a + 1)).toNat).drop a.toNat)).drop (w64 (((f ++ ((u0.take (w64 (a + 1)).toNat).drop a.toNat)).length : Int) - 1)).toNat)) == 5) (by kernel_rfl) (fun R => ?_) (fun R => ?_)
   · -- yes
    have br := L.1 R
    refine rgH ?_; intro bs aw
    refine bt u l 4 [] [] [(34, str (f ++ ((u0.take (w64 (a + 1)).toNat).drop a.toNat))), (35, str (f ++ ((u0.take (w64 (a + 1)).toNat).drop a.toNat))), (37, i6 (w64 (((f ++ ((u0.take (w64 (a + 1)).toNat).drop a.toNat)).length : Int) - 1)))] ?_; intro b3 ax
    obtain ⟨bu, bv⟩ := br
    obtain ⟨i, ay⟩ : ∃ q, (f ++ ((u0.take (w64 (a + 1)).toNat).drop a.toNat))[(w64 (((f ++ ((u0.take (w64 (a + 1)).toNat).drop a.toNat)).length : Int) - 1)).toNat]? = some q := ⟨_, List.getElem?_eq_getElem (by omega)⟩; have bw := bv i ay
    refine si ax .i64 bu.1 ay ?_; intro b4 az
    refine fc az l (rother_fun (i.toNat : Int) _ _ l.fz) ?_; intro b5 b6 aA aB
    refine nw aA aB (fun b => .slice (sm b) 1 1) [y8 (rother (i.toNat : Int))] 5 ?_; intro aC b7 aD S aE
    have bx : Mem w.heap.size [] w Z [.own t8 5 (sm aC) 1 ([(rother (i.toNat : Int))] : List Int)] y aD := aE.rowOwn (T := t8) (xs := ([(rother (i.toNat : Int))] : List Int)) 0 rfl (by decide) (by show 1 ≤ lim; decide) (RepAll.one (T := t8) (x := (rother (i.toNat : Int))) rfl)
    obtain ⟨aF, aG, aH, bz⟩ := bx.freeze 0 rfl
    replace j := j.mono aG
    have U : Mem w.heap.size [] w Z [] aF aD := aH
    refine u_ S (str (bstr ([(rother (i.toNat : Int))] : List Int))) (bstr_op S (g := []) (e := 5) (ao := (sm aC)) (cap := 1) (xs := ([(rother (i.toNat : Int))] : List Int)) rfl (by kernel_rfl) (by kernel_rfl) (by kernel_rfl) (by kernel_rfl) bz U.fz rfl) ?_; intro b8 aI
    obtain ⟨bA, aJ⟩ := bw
    refine sa aI bA ?_; intro b9 aK
    refine s1 aK 3 (str ((f ++ ((u0.take (w64 (a + 1)).toNat).drop a.toNat)) ++ (bstr ([(rother (i.toNat : Int))] : List Int)))) ?_; intro ca aL
    apply aw
    refine j_ (t_ (rgB aL U [] [] [(8, i6 (w64 (a + 1)))] ?_)); intro cb bB
    exact d_ ⟨⟨(f ++ ((u0.take (w64 (a + 1)).toNat).drop a.toNat)) ++ (bstr ([(rother (i.toNat : Int))] : List Int)), w64 (a + 1), aF⟩, ⟨aJ.1, j⟩, aJ.2, (bB.region (by kernel_rfl) (by kernel_rfl)).anyβ _ (by kernel_rfl), U.kp⟩
   · -- no
    have aM := L.2 R
    refine l_ (j_ (t_ (rgB u l [] [] [(8, i6 (w64 (a + 1)))] ?_))); intro cc bC
    exact d_ ⟨⟨f ++ ((u0.take (w64 (a + 1)).toNat).drop a.toNat), w64 (a + 1), y⟩, ⟨aM.1, j⟩, aM.2, (bC.region (by kernel_rfl) (by kernel_rfl)).anyβ _ (by kernel_rfl), l.kp⟩
  · -- false
   have aN := A.2 p
   have aO : Fr 45 [] [⟨0, [], str u0⟩, ⟨3, [], str (f ++ ((u0.take (w64 (a + 1)).toNat).drop a.toNat))⟩, ⟨5, [], i6 ((f ++ ((u0.take (w64 (a + 1)).toNat).drop a.toNat)).length : Int)⟩, ⟨7, [], i6 (u0.length : Int)⟩, ⟨8, [], i6 a⟩] P := B.reg
   refine sqQH mixed (by kernel_rfl) af ?_; intro bD aP
   refine q1 aO 20 (i6 ((f ++ ((u0.take (w64 (a + 1)).toNat).drop a.toNat)).length : Int)) ?_; intro ce aQ
   refine q1 aQ 21 (.bool (decide (((f ++ ((u0.take (w64 (a + 1)).toNat).drop a.toNat)).length : Int) ≥ 5))) ?_; intro cf aR
   have aS := aR.reval (d := 21) (c := []) (v := .bool (decide (((f ++ ((u0.take (w64 (a + 1)).toNat).drop a.toNat)).length : Int) ≥ 5))) (by kernel_rfl) (.bool false) (by rw [p])
   refine q1 aS 22 (.bool false) ?_; intro cg aT
   refine qk_ aT false ?_; intro ch aU
   refine qk_ aU false ?_; intro ci aV
   refine qk_ aV false ?_; intro cj aW
   refine qk_ aW false ?_; intro ck aX
   refine qk_ aX false ?_; intro cl aY
   refine qk_ aY false ?_; intro cm aZ
   refine qk_ aZ false ?_; intro cn a1
   refine qk_ a1 false ?_; intro co a3
   refine qk_ a3 false ?_; intro cp a4
   refine qk_ a4 false ?_; intro cq a6
   refine q1 a6 33 (.bool false) ?_; intro cr V
   refine qnl (aP _ ?_); intro cs a7
   refine cdF V (by kernel_rfl) ?_
   refine l_ (j_ (t_ (rgB V a7 [] [] [(8, i6 (w64 (a + 1)))] ?_))); intro ct bE
   exact d_ ⟨⟨f ++ ((u0.take (w64 (a + 1)).toNat).drop a.toNat), w64 (a + 1), y⟩, ⟨aN.1, j⟩, aN.2, (bE.region (by kernel_rfl) (by kernel_rfl)).anyβ _ (by kernel_rfl), a7.kp⟩
 · -- no
  have bF := z.2 N
  refine x_ (y_ (y_ (z_ (t_ (sqB o af [] [] [(2, str f)] ?_))))); intro cu bG
  exact r_ (ra1 bG (str f) ⟨f, rfl, bF, af.below⟩)
theorem takebits_walk (u0 : List UInt8) (u1 : Int)  (Z : Fz) (w : World)  (hZ : Z.on w) {K : ((List UInt8) × Int × Int) → Prop} (hp : takebits_vc u0 u1 K) : Calls Tryz.prog 31 #[str u0, i6 u1] w fun e w' => ∃ r : (List UInt8) × Int × Int, e = .returned (.tuple #[str r.1, i6 r.2.1, i6 r.2.2]) ∧ K r ∧ Below w.heap.size w w' := by
 refine enter0 Tryz.func31 rfl rfl (by kernel_rfl) ?_; intro a0 S; have i := Mem.start w Z hZ
 refine sqB S i [] [] [] ?_; intro a6 T
 refine sqB T i [] [] [(7, str [])] ?_; intro a9 U
 refine sqB U i [] [] [(8, i6 0)] ?_; intro V W
 refine s_ (b_ ?_)
 have X : Fr 52 [] [⟨0, [], str u0⟩, ⟨1, [], i6 u1⟩, ⟨7, [], str []⟩, ⟨8, [], i6 0⟩] V := W.reg
 obtain ⟨aB, aC, aD, aE⟩ := hp
 refine lp (ι := (List UInt8) × Int) (fun s => [⟨0, [], str u0⟩, ⟨1, [], i6 u1⟩, ⟨7, [], str s.1⟩, ⟨8, [], i6 s.2⟩]) (fun s => []) (fun s => Z) (fun s => aB s.1 s.2) (fun s => aC s.1 s.2) ⟨[], 0⟩ aD (by exact X.region (by kernel_rfl) (by kernel_rfl)) (by exact i) ?_
 rintro ⟨f, a⟩ aF aG aH aa ab
 have p := aE f a aF
 refine s_ (sqB aa ab [] [] [(12, .bool (decide ((f.length : Int) < u1)))] ?_); intro bc j
 refine cd j (t := decide ((f.length : Int) < u1)) (by kernel_rfl) (fun I => ?_) (fun I => ?_)
 · -- yes
  have u := p.1 I
  refine k_ (b_ (s_ (sqB j ab [] [] [(16, .bool (a == (u0.length : Int)))] ?_))); intro bd l
  refine cd l (t := a == (u0.length : Int)) (by kernel_rfl) (fun J => ?_) (fun J => ?_)
  · -- yes
   have aI := u.1 J
   refine sqB l ab [] [] [(4, str []), (5, i6 0), (6, i6 7)] ?_; intro be aJ
   exact r_ (h_ (i_ (h_ (i_ (h_ (ra3 aJ (.tuple #[str [], i6 0, i6 7]) ⟨([], 0, 7), rfl, aI, ab.below⟩))))))
  · -- no
   have aK := u.2 J
   refine k_ (sqH ?_); intro aL ad
   refine bt l ab 5 [] [] [(17, str f), (18, str u0), (19, i6 a), (21, i6 (w64 (a + 1)))] ?_; intro bf L
   obtain ⟨aM, aN⟩ := aK
   refine u_ L (str ((u0.take (w64 (a + 1)).toNat).drop a.toNat)) (strslI_run L (g := []) (k := .i64) (k' := .i64) rfl (by kernel_rfl) (by kernel_rfl) (by kernel_rfl) (by kernel_rfl) aM rfl) ?_; intro bg ae
   obtain ⟨aO, x⟩ := aN
   refine sa ae aO ?_; intro bh af
   refine s1 af 7 (str (f ++ ((u0.take (w64 (a + 1)).toNat).drop a.toNat))) ?_; intro bi ag
   apply ad
   refine sqB ag ab [] [] [(8, i6 (w64 (a + 1)))] ?_; intro bj ah
   refine sqH ?_; intro ai y
   refine bt ah ab 3 [] [] [(28, .bool (decide ((w64 (a + 1)) ≥ 5)))] ?_; intro bk z
   rcases Bool.eq_false_or_eq_true (decide ((w64 (a + 1)) ≥ 5)) with m | m
   · -- true
    have aP := x.1 m
    have aj := z.reval (d := 28) (c := []) (v := .bool (decide ((w64 (a + 1)) ≥ 5))) (by kernel_rfl) (.bool true) (by rw [m])
    refine bt aj ab 4 [] [29, 30, 31, 32] [(29, str u0), (31, i6 (w64 ((w64 (a + 1)) - 5))), (32, i6 (w64 (a + 1)))] ?_; intro bl A
    obtain ⟨aQ, aR⟩ := aP
    refine v_ A (str ((u0.take (w64 (a + 1)).toNat).drop (w64 ((w64 (a + 1)) - 5)).toNat)) (wK A true) (strslI_run A (g := []) (k := .i64) (k' := .i64) rfl (by kernel_rfl) (by kernel_rfl) (by kernel_rfl) (by kernel_rfl) aQ rfl) ?_; intro bm M
    obtain ⟨aS, B⟩ := aR
    refine fcl M ab (.bool (rsameS ((u0.take (w64 (a + 1)).toNat).drop (w64 ((w64 (a + 1)) - 5)).toNat))) 64 #[str ((u0.take (w64 (a + 1)).toNat).drop (w64 ((w64 (a + 1)) - 5)).toNat)] (wK M true) rfl (by kernel_rfl) (fun _ => by kernel_rfl) (rsame_fun ((u0.take (w64 (a + 1)).toNat).drop (w64 ((w64 (a + 1)) - 5)).toNat) aS _ _ ab.fz) ?_; intro bn bo ak h
    refine s1 ak 35 (.bool (rsameS ((u0.take (w64 (a + 1)).toNat).drop (w64 ((w64 (a + 1)) - 5)).toNat))) ?_; intro bp C
    apply y
    refine cd C (t := (rsameS ((u0.take (w64 (a + 1)).toNat).drop (w64 ((w64 (a + 1)) - 5)).toNat))) (by kernel_rfl) (fun N => ?_) (fun N => ?_)
    · -- yes
     have D := B.1 N
     refine s_ (sqB C h [] [] [(39, .bool ((w64 (a + 1)) == (u0.length : Int)))] ?_); intro aT n
     refine cd n (t := (w64 (a + 1)) == (u0.length : Int)) (by kernel_rfl) (fun O => ?_) (fun O => ?_)
     · -- yes
      have aU := D.1 O
      refine sqB n h [] [] [(4, str []), (5, i6 0), (6, i6 7)] ?_; intro bq aV
      exact r_ (h_ (i_ (h_ (i_ (h_ (ra3 aV (.tuple #[str [], i6 0, i6 7]) ⟨([], 0, 7), rfl, aU, h.below⟩))))))
     · -- no
      have aW := D.2 O
      refine k_ (s_ ?_)
      have al : Fr 52 [] [⟨0, [], str u0⟩, ⟨1, [], i6 u1⟩, ⟨7, [], str (f ++ ((u0.take (w64 (a + 1)).toNat).drop a.toNat))⟩, ⟨8, [], i6 (w64 (a + 1))⟩] aT := n.reg
      refine sqQH mixed (by kernel_rfl) h ?_; intro aX am
      refine q1 al 40 (str u0) ?_; intro br an
      refine q1 an 41 (i6 (w64 (a + 1))) ?_; intro bs P
      obtain ⟨aY, aZ⟩ := aW
      obtain ⟨E, ao⟩ : ∃ q, u0[(w64 (a + 1)).toNat]? = some q := ⟨_, List.getElem?_eq_getElem (by omega)⟩; have a1 := aZ E ao
      refine qu_ P (y8 (E.toNat : Int)) (fun v145 hC => stridx_run P (k := .i64) rfl (by kernel_rfl) (by kernel_rfl) (by kernel_rfl) aY.1 ao) ?_; intro bu ap
      refine q1 ap 43 (str u0) ?_; intro bv aq
      refine q1 aq 44 (i6 (w64 (a + 1))) ?_; intro bw ar
      refine q1 ar 45 (i6 (w64 ((w64 (a + 1)) - 1))) ?_; intro bx Q
      obtain ⟨a2, a3⟩ := a1
      obtain ⟨F, au⟩ : ∃ q, u0[(w64 ((w64 (a + 1)) - 1)).toNat]? = some q := ⟨_, List.getElem?_eq_getElem (by omega)⟩; have G := a3 F au
      refine qu_ Q (y8 (F.toNat : Int)) (fun v162 hC => stridx_run Q (k := .i64) rfl (by kernel_rfl) (by kernel_rfl) (by kernel_rfl) a2.1 au) ?_; intro bz av
      refine q1 av 47 (.bool ((E.toNat : Int) == (F.toNat : Int))) ?_; intro bA o
      refine qnl (am _ ?_); intro bB H
      refine cd o (t := (E.toNat : Int) == (F.toNat : Int)) (by kernel_rfl) (fun R => ?_) (fun R => ?_)
      · -- yes
       have a4 := G.1 R
       refine sqB o H [] [] [(4, str []), (5, i6 0), (6, i6 5)] ?_; intro bC a5
       exact r_ (h_ (i_ (h_ (i_ (h_ (ra3 a5 (.tuple #[str [], i6 0, i6 5]) ⟨([], 0, 5), rfl, a4, H.below⟩))))))
      · -- no
       have aw := G.2 R
       refine k_ (rgB o H [] [] [(8, i6 (w64 ((w64 (a + 1)) + 1)))] ?_); intro bD a7
       exact j_ (d_ ⟨⟨f ++ ((u0.take (w64 (a + 1)).toNat).drop a.toNat), w64 ((w64 (a + 1)) + 1)⟩, aw.1, aw.2, (a7.region (by kernel_rfl) (by kernel_rfl)).anyβ _ (by kernel_rfl), H.kp⟩)
    · -- no
     have ax := B.2 N
     exact l_ (j_ (d_ ⟨⟨f ++ ((u0.take (w64 (a + 1)).toNat).drop a.toNat), w64 (a + 1)⟩, ax.1, ax.2, (C.region (by kernel_rfl) (by kernel_rfl)).anyβ _ (by kernel_rfl), h.kp⟩))
   · -- false
    have ay := x.2 m
    have az := z.reval (d := 28) (c := []) (v := .bool (decide ((w64 (a + 1)) ≥ 5))) (by kernel_rfl) (.bool false) (by rw [m])
    refine bt az ab 7 [] [29, 30, 31, 32, 33, 34, 35] [(35, .bool false)] ?_; intro bE aA
    apply y
    refine cdF aA (by kernel_rfl) ?_
    exact l_ (j_ (d_ ⟨⟨f ++ ((u0.take (w64 (a + 1)).toNat).drop a.toNat), w64 (a + 1)⟩, ay.1, ay.2, (aA.region (by kernel_rfl) (by kernel_rfl)).anyβ _ (by kernel_rfl), ab.kp⟩))
 · -- no
  have a8 := p.2 I
  refine x_ (y_ (y_ (z_ (t_ (sqB j ab [] [] [(4, str f), (5, i6 a), (6, i6 0)] ?_))))); intro bF ba
  exact r_ (ra3 ba (.tuple #[str f, i6 a, i6 0]) ⟨(f, a, 0), rfl, a8, ab.below⟩)
end Go.Proofs.YtmnlahbngbigdaaGreatDoor
set_option linter.unusedVariables false
set_option linter.unusedSimpArgs false
set_option linter.defProp false
set_option maxRecDepth 100000
set_option maxHeartbeats 0
namespace Go.Proofs.YtmnlahbngbigdaaGreatDoor
open Go.Sy Go.RowKit
def putbits_fun (u0 : List UInt8) (hpre : isRow u0 = true ∧ u0.length ≤ 1000)  (Z : Fz) (w : World)  (hZ : Z.on w) := f_ (putbits_walk u0  Z w  hZ (putbits_ok u0 hpre))
def takebits_fun (u0 : List UInt8) (u1 : Int) (hpre : isRow u0 = true ∧ u0.length ≤ 1000 ∧ 0 ≤ u1 ∧ u1 ≤ 2000)  (Z : Fz) (w : World)  (hZ : Z.on w) := f_ (takebits_walk u0 u1  Z w  hZ (takebits_ok u0 u1 hpre))
theorem rfastend_walk (u0 : List UInt8) (u1 : List UInt8) (u2 : Int)  (Z : Fz) (w : World) (hg5 : SlR t8 Z (sm 5) 64 deBruijn64) (hZ : Z.on w) {K : (List UInt8) → Prop} (hp : rfastend_vc u0 u1 u2 K) : Calls Tryz.prog 37 #[str u0, str u1, i6 u2] w fun e w' => ∃ r : (List UInt8), e = .returned (str r) ∧ K r ∧ Below w.heap.size w w' := by
 refine enter0 Tryz.func37 rfl rfl (by kernel_rfl) ?_; intro a0 z; have j := Mem.start w Z hZ
 refine sqB z j [] [] [] ?_; intro a2 B
 refine sqH ?_; intro av C
 refine nw B j (fun b => .slice (sm b) 8 8) [str ([48, 48, 48, 48] : List UInt8), str ([48, 48, 49, 49] : List UInt8), str ([48, 49, 49, 48] : List UInt8), str ([48, 49, 48, 49] : List UInt8), str ([49, 49, 48, 48] : List UInt8), str ([49, 49, 49, 49] : List UInt8), str ([49, 48, 49, 48] : List UInt8), str ([49, 48, 48, 49] : List UInt8)] 9 ?_; intro l a6 D E m
 refine s1 E 7 (.slice (sm l) 8 8) ?_; intro be F
 apply C
 refine sqH ?_; intro aw G
 refine bt F m 7 [] [] [(11, .slice (sm l) 8 8), (17, i6 ((w64 ((u1.length : Int) - (u0.length : Int))).tmod 8))] ?_; intro bf H
 have ax : Mem w.heap.size [] w Z [.own tyStr 9 (sm l) 8 ([([48, 48, 48, 48] : List UInt8), ([48, 48, 49, 49] : List UInt8), ([48, 49, 49, 48] : List UInt8), ([48, 49, 48, 49] : List UInt8), ([49, 49, 48, 48] : List UInt8), ([49, 49, 49, 49] : List UInt8), ([49, 48, 49, 48] : List UInt8), ([49, 48, 48, 49] : List UInt8)] : List (List UInt8))] Z D := m.rowOwn (T := tyStr) (xs := ([([48, 48, 48, 48] : List UInt8), ([48, 48, 49, 49] : List UInt8), ([48, 49, 49, 48] : List UInt8), ([48, 49, 48, 49] : List UInt8), ([49, 49, 48, 48] : List UInt8), ([49, 49, 49, 49] : List UInt8), ([49, 48, 49, 48] : List UInt8), ([49, 48, 48, 49] : List UInt8)] : List (List UInt8))) 0 rfl (by decide) (by show 8 ≤ lim; decide) ((RepAll.one (T := tyStr) (x := ([48, 48, 48, 48] : List UInt8)) rfl).append ((RepAll.one (T := tyStr) (x := ([48, 48, 49, 49] : List UInt8)) rfl).append ((RepAll.one (T := tyStr) (x := ([48, 49, 49, 48] : List UInt8)) rfl).append ((RepAll.one (T := tyStr) (x := ([48, 49, 48, 49] : List UInt8)) rfl).append ((RepAll.one (T := tyStr) (x := ([49, 49, 48, 48] : List UInt8)) rfl).append ((RepAll.one (T := tyStr) (x := ([49, 49, 49, 49] : List UInt8)) rfl).append ((RepAll.one (T := tyStr) (x := ([49, 48, 49, 48] : List UInt8)) rfl).append (RepAll.one (T := tyStr) (x := ([49, 48, 48, 49] : List UInt8)) rfl))))))))
 obtain ⟨ay, I, J, az⟩ := ax.freeze 0 rfl
 replace hg5 := hg5.mono I
 have c : Mem w.heap.size [] w Z [] ay D := J
 obtain ⟨aA, L⟩ := hp
 refine ix_ H az ((w64 ((u1.length : Int) - (u0.length : Int))).tmod 8) aA .i64 9 16 ?_; intro bg bh aB a bi aC aD aE M
 have i := L a aC
 obtain rfl : aB = ([str a] : List Value) := aE
 refine z1 M c 19 aD 0 (str a) rfl ?_; intro bj N
 refine s1 N 8 (str a) ?_; intro bk O
 apply G
 refine sqB O c [] [] [(9, i6 1)] ?_; intro bl P
 refine s_ (sqB P c [] [] [(21, .bool (decide (u2 > 16)))] ?_); intro aF h
 refine cd h (t := decide (u2 > 16)) (by kernel_rfl) (fun n => ?_) (fun n => ?_)
 · -- yes
  have aG := i.1 n
  refine rgB h c [] [] [(9, i6 2)] ?_; intro aH Q
  apply t_
  have R : Fr 35 [] [⟨1, [], str u1⟩, ⟨8, [], str a⟩, ⟨9, [], i6 2⟩] aH := Q.reg
  refine sqQH mixed (by kernel_rfl) c ?_; intro aI S
  refine q1 R 22 (str a) ?_; intro bm U
  refine q1 U 23 (i6 2) ?_; intro bn V
  refine q1 V 24 (str u1) ?_; intro bo W
  refine q1 W 25 (str a) ?_; intro bp o
  obtain ⟨aJ, aK⟩ := aG
  refine qu_ o (str (u1 ++ a)) (fun v76 hC => stradd_run o (g := []) rfl (by kernel_rfl) (by kernel_rfl) aJ rfl) ?_; intro bq X
  obtain ⟨aL, aM⟩ := aK
  refine qcl X (str (sumR 2 (u1 ++ a))) 35 #[i6 2, str (u1 ++ a)] (nog rfl _) rfl (by kernel_rfl) (fun _ => by kernel_rfl) (qfc fun w hC => rsumof_fun 2 (u1 ++ a) aL _ _ hg5 hC.fz) ?_; intro br p
  obtain ⟨aN, aO⟩ := aM
  refine qu_ p (str (a ++ (sumR 2 (u1 ++ a)))) (fun v86 hC => stradd_run p (g := []) rfl (by kernel_rfl) (by kernel_rfl) aN rfl) ?_; intro bs Y
  refine q1 Y 29 (str u1) ?_; intro bu aa
  refine q1 aa 30 (str u1) ?_; intro bv ab
  refine q1 ab 31 (i6 (u1.length : Int)) ?_; intro bw ac
  refine q1 ac 32 (i6 (w64 ((u1.length : Int) - 1))) ?_; intro bx s
  obtain ⟨aP, aQ⟩ := aO
  obtain ⟨d, ad⟩ : ∃ q, u1[(w64 ((u1.length : Int) - 1)).toNat]? = some q := ⟨_, List.getElem?_eq_getElem (by omega)⟩; have aR := aQ d ad
  refine qu_ s (y8 (d.toNat : Int)) (fun v103 hC => stridx_run s (k := .i64) rfl (by kernel_rfl) (by kernel_rfl) (by kernel_rfl) aP.1 ad) ?_; intro bz ae
  obtain ⟨aS, aT⟩ := aR
  refine qcl ae (str (fixbitsS (a ++ (sumR 2 (u1 ++ a))) (d.toNat : Int))) 73 #[str (a ++ (sumR 2 (u1 ++ a))), y8 (d.toNat : Int)] (nog rfl _) rfl (by kernel_rfl) (fun _ => by kernel_rfl) (qfc fun w hC => fixbits_fun (a ++ (sumR 2 (u1 ++ a))) (d.toNat : Int) aS _ _ hC.fz) ?_; intro bA af
  refine q1 af 6 (str (fixbitsS (a ++ (sumR 2 (u1 ++ a))) (d.toNat : Int))) ?_; intro bB aU
  refine qnl (S _ ?_); intro bC aV
  exact r_ (ra1 aU (str (fixbitsS (a ++ (sumR 2 (u1 ++ a))) (d.toNat : Int))) ⟨(fixbitsS (a ++ (sumR 2 (u1 ++ a))) (d.toNat : Int)), rfl, aT, aV.below⟩)
 · -- no
  have aW := i.2 n
  apply k_
  have ag : Fr 35 [] [⟨1, [], str u1⟩, ⟨8, [], str a⟩, ⟨9, [], i6 1⟩] aF := h.reg
  refine sqQH mixed (by kernel_rfl) c ?_; intro aX ah
  refine q1 ag 22 (str a) ?_; intro bD ai
  refine q1 ai 23 (i6 1) ?_; intro bE aj
  refine q1 aj 24 (str u1) ?_; intro bF ak
  refine q1 ak 25 (str a) ?_; intro bG u
  obtain ⟨aY, aZ⟩ := aW
  refine qu_ u (str (u1 ++ a)) (fun v136 hC => stradd_run u (g := []) rfl (by kernel_rfl) (by kernel_rfl) aY rfl) ?_; intro bH al
  obtain ⟨a1, a3⟩ := aZ
  refine qcl al (str (sumR 1 (u1 ++ a))) 35 #[i6 1, str (u1 ++ a)] (nog rfl _) rfl (by kernel_rfl) (fun _ => by kernel_rfl) (qfc fun w hC => rsumof_fun 1 (u1 ++ a) a1 _ _ hg5 hC.fz) ?_; intro bI v
  obtain ⟨a4, a5⟩ := a3
  refine qu_ v (str (a ++ (sumR 1 (u1 ++ a)))) (fun v146 hC => stradd_run v (g := []) rfl (by kernel_rfl) (by kernel_rfl) a4 rfl) ?_; intro bJ am
  refine q1 am 29 (str u1) ?_; intro bK an
  refine q1 an 30 (str u1) ?_; intro bL ao
  refine q1 ao 31 (i6 (u1.length : Int)) ?_; intro bM ap
  refine q1 ap 32 (i6 (w64 ((u1.length : Int) - 1))) ?_; intro bN y
  obtain ⟨a7, a8⟩ := a5
  obtain ⟨f, aq⟩ : ∃ q, u1[(w64 ((u1.length : Int) - 1)).toNat]? = some q := ⟨_, List.getElem?_eq_getElem (by omega)⟩; have a9 := a8 f aq
  refine qu_ y (y8 (f.toNat : Int)) (fun v163 hC => stridx_run y (k := .i64) rfl (by kernel_rfl) (by kernel_rfl) (by kernel_rfl) a7.1 aq) ?_; intro bO ar
  obtain ⟨ba, bb⟩ := a9
  refine qcl ar (str (fixbitsS (a ++ (sumR 1 (u1 ++ a))) (f.toNat : Int))) 73 #[str (a ++ (sumR 1 (u1 ++ a))), y8 (f.toNat : Int)] (nog rfl _) rfl (by kernel_rfl) (fun _ => by kernel_rfl) (qfc fun w hC => fixbits_fun (a ++ (sumR 1 (u1 ++ a))) (f.toNat : Int) ba _ _ hC.fz) ?_; intro bP au
  refine q1 au 6 (str (fixbitsS (a ++ (sumR 1 (u1 ++ a))) (f.toNat : Int))) ?_; intro bQ bc
  refine qnl (ah _ ?_); intro bR bd
  exact r_ (ra1 bc (str (fixbitsS (a ++ (sumR 1 (u1 ++ a))) (f.toNat : Int))) ⟨(fixbitsS (a ++ (sumR 1 (u1 ++ a))) (f.toNat : Int)), rfl, bb, bd.below⟩)
end Go.Proofs.YtmnlahbngbigdaaGreatDoor
