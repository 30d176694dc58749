/- Texts put together (pure ones, or walks made by program). -/
import Derived.Test.YtdenmllkjdijlaaGreatDoorTP0
import Derived.Test.YtdenmllkjdijlaaGreatDoorTP1
import Derived.Test.YtdenmllkjdijlaaGreatDoorTP2
import Derived.Shelf.Lay
import Derived.Ground.NamesProg
import Derived.Shelf.Strings.SlTrimAscii
import Derived.Shelf.Strings.Count
import Derived.Shelf.Strings.Search2
import Derived.Stop.LaidErr
set_option linter.unusedVariables false
set_option linter.unusedSimpArgs false
set_option linter.defProp false
set_option maxRecDepth 100000
set_option maxHeartbeats 0
namespace Go.Proofs.YtdenmllkjdijlaaGreatDoor
open Go.Sy Go.RowKit
def gtrim_fun (u0 : List Int) (ao1 : Option Addr) (cap2 : Nat) (Z : Fz) (w : World) (hs3 : SlR (tyInt .u32) Z ao1 cap2 u0) (hZ : Z.on w) := fc_ (gtrim_walk u0 ao1 cap2 Z w hs3 hZ (gtrim_ok u0))
def glength_fun (u0 : List Int) (hpre : u0 = ws (wv u0) ∧ u0.length ≤ 1000000) (ao1 : Option Addr) (cap2 : Nat) (Z : Fz) (w : World) (hs3 : SlR (tyInt .u32) Z ao1 cap2 u0) (hZ : Z.on w) := f_ (glength_walk u0 ao1 cap2 Z w hs3 hZ (glength_ok u0 hpre))
theorem gtwin_walk (u0 : List Int) (ao1 : Option Addr) (cap2 : Nat) (Z : Fz) (w : World) (hs3 : SlR (tyInt .u32) Z ao1 cap2 u0) (hZ : Z.on w) {K : (List Int) → Prop} (hp : gtwin_vc u0 K) : Calls Tryz.prog 136 #[.slice ao1 u0.length cap2] w fun e w' => ∃ (r : (List Int)) (ao1001 : Option Addr) (cap1002 : Nat) (Z' : Fz), e = .returned (.slice ao1001 r.length cap1002) ∧ K r ∧ Mem w.heap.size [] w Z [.own (tyInt .u32) 97 ao1001 cap1002 r] Z' w' := by
 refine enter0 Tryz.func136 rfl rfl (by kernel_rfl) ?_; intro u f; have c := Mem.start w Z hZ
 have l := hp (hs3.small)
 refine sqB f c [] [] [] ?_; intro x g
 refine sqH ?_; intro m h
 refine s1 g 3 (.slice ao1 u0.length cap2) ?_; intro y i
 have d : Mem w.heap.size [] w Z [.own (tyInt .u32) 97 none 0 ([] : List Int)] Z w := c.addNil (tyInt .u32) 97 (by decide)
 obtain ⟨n, o⟩ := l
 refine ap i d 0 (T := (tyInt .u32)) (xs := ([] : List Int)) (ys := u0) (ao := none) (cap := 0) (ao2 := ao1) (cap2 := cap2) (t := 105) (e := 97) (bytes := 4) (nog rfl _) rfl (by kernel_rfl) rfl (by kernel_rfl) (by kernel_rfl) (by kernel_rfl) rfl (Src.fz (by decide) d.fz hs3) n ?_; intro a b z p A j k
 have q : Mem w.heap.size [] w Z [.own (tyInt .u32) 97 a b (([] : List Int) ++ u0)] Z p := k
 refine s1 j 2 (.slice a (([] : List Int) ++ u0).length b) ?_; intro B s
 apply h
 exact r_ (ra1 s (.slice a (([] : List Int) ++ u0).length b) ⟨([] : List Int) ++ u0, a, b, Z, rfl, o, q.kp⟩)

theorem gwords_walk (u0 : Int)  (Z : Fz) (w : World)  (hZ : Z.on w) {K : (List Int) → Prop} (hp : gwords_vc u0 K) : Calls Tryz.prog 108 #[y6 u0] w fun e w' => ∃ (r : (List Int)) (ao1001 : Option Addr) (cap1002 : Nat) (Z' : Fz), e = .returned (.slice ao1001 r.length cap1002) ∧ K r ∧ SlR (tyInt .u32) Z' ao1001 cap1002 r ∧ Mem w.heap.size [] w Z [] Z' w' := by
 refine enter0 Tryz.func108 rfl rfl (by kernel_rfl) ?_; intro H j; have a := Mem.start w Z hZ
 refine sqB j a [] [] [] ?_; intro I k
 refine sqH ?_; intro z l
 refine bt k a 5 [] [] [(4, .int .u32 (wu32 u0)), (7, .int .u32 (wu32 (bShr .u64 u0 32)))] ?_; intro J m
 refine nw m a (fun b => .slice (sm b) 2 2) [.int .u32 (wu32 u0), .int .u32 (wu32 (bShr .u64 u0 32))] 97 ?_; intro d L n o p
 have A : Mem w.heap.size [] w Z [.own (tyInt .u32) 97 (sm d) 2 ([wu32 u0, wu32 (bShr .u64 u0 32)] : List Int)] Z n := p.rowOwn (T := (tyInt .u32)) (xs := ([wu32 u0, wu32 (bShr .u64 u0 32)] : List Int)) 0 rfl (by decide) (by show 2 ≤ lim; decide) ((RepAll.one (T := (tyInt .u32)) (x := wu32 u0) rfl).append (RepAll.one (T := (tyInt .u32)) (x := wu32 (bShr .u64 u0 32)) rfl))
 obtain ⟨B, C, q, f⟩ := A.freeze 0 rfl
 have g : Mem w.heap.size [] w Z [] B n := q
 refine ck o 134 #[.slice (sm d) ([wu32 u0, wu32 (bShr .u64 u0 32)] : List Int).length 2] ?_
 refine (gtrim_fun ([wu32 u0, wu32 (bShr .u64 u0 32)] : List Int) (sm d) 2 _ _ f g.fz).mono ?_; rintro _ D ⟨h, i, s, rfl, t, hm⟩; refine ⟨_, rfl, ?_⟩; intro M u; have v := g.callZ hm
 have E : Mem w.heap.size [] w Z [] s D := v
 have F := hp (t.small)
 refine s1 u 2 (.slice h (gtrimS ([wu32 u0, wu32 (bShr .u64 u0 32)] : List Int)).length i) ?_; intro N G
 apply l
 exact r_ (ra1 G (.slice h (gtrimS ([wu32 u0, wu32 (bShr .u64 u0 32)] : List Int)).length i) ⟨(gtrimS ([wu32 u0, wu32 (bShr .u64 u0 32)] : List Int)), h, i, s, rfl, F, t, E.kp⟩)

theorem gadd_walk (u0 : List Int) (u1 : List Int) (ao1 : Option Addr) (cap2 : Nat) (ao4 : Option Addr) (cap5 : Nat) (Z : Fz) (w : World) (hs3 : SlR (tyInt .u32) Z ao1 cap2 u0) (hs6 : SlR (tyInt .u32) Z ao4 cap5 u1) (hZ : Z.on w) {K : (List Int) → Prop} (hp : gadd_vc u0 u1 K) : Calls Tryz.prog 106 #[.slice ao1 u0.length cap2, .slice ao4 u1.length cap5] w fun e w' => ∃ (r : (List Int)) (ao1001 : Option Addr) (cap1002 : Nat) (Z' : Fz), e = .returned (.slice ao1001 r.length cap1002) ∧ K r ∧ SlR (tyInt .u32) Z' ao1001 cap1002 r ∧ Mem w.heap.size [] w Z [] Z' w' := by
 refine enter0 Tryz.func106 rfl rfl (by kernel_rfl) ?_; intro a0 am; have o := Mem.start w Z hZ
 have B := hp (hs3.small) (hs6.small)
 refine sqB am o [] [] [] ?_; intro d2 ao
 refine s_ (sqB ao o [] [] [(12, .bool (decide ((u0.length : Int) < (u1.length : Int))))] ?_); intro d3 q
 refine c_ q B (fun _ cb => ?_) fun _ c7 => ?_
 ·
  refine rgB q o [] [] [(0, .slice ao4 u1.length cap5), (1, .slice ao1 u0.length cap2)] ?_; intro d4 ap
  refine t_ (sqH ?_); intro cc aq
  refine bt ap o 3 [] [] [(17, i6 (w64 ((u1.length : Int) + 1)))] ?_; intro d5 ar
  obtain ⟨d6, ce⟩ := cb
  refine mks ar o (T := (tyInt .u32)) (w64 ((u1.length : Int) + 1)) (w64 ((u1.length : Int) + 1)) (k := .i64) (k' := .i64) (e := 97) (bytes := 4) (zs := [.int .u32 0]) (z := 0) (by simp only [lim]; omega) (nog rfl _) rfl (by kernel_rfl) rfl (by kernel_rfl) (by kernel_rfl) (by kernel_rfl) (by kernel_rfl) rfl ?_; intro f d7 cf au av
  have C : Mem w.heap.size [] w Z [.own (tyInt .u32) 97 (sm f) (w64 ((u1.length : Int) + 1)).toNat (List.replicate (w64 ((u1.length : Int) + 1)).toNat (0 : Int))] Z cf := av
  refine s1 au 5 (.slice (sm f) (List.replicate (w64 ((u1.length : Int) + 1)).toNat (0 : Int)).length (w64 ((u1.length : Int) + 1)).toNat) ?_; intro d8 aw
  apply aq
  refine sqB aw C [] [] [(6, y6 0)] ?_; intro d9 ax
  refine s_ (sqB ax C [] [] [(7, i6 0)] ?_); intro ay az
  apply b_
  have aA : Fr 58 [] [⟨0, [], .slice ao4 u1.length cap5⟩, ⟨1, [], .slice ao1 u0.length cap2⟩, ⟨5, [], .slice (sm f) (List.replicate (w64 ((u1.length : Int) + 1)).toNat (0 : Int)).length (w64 ((u1.length : Int) + 1)).toNat⟩, ⟨6, [], y6 0⟩, ⟨7, [], i6 0⟩] ay := az.reg
  obtain ⟨cg, ch, ci, cj⟩ := ce
  refine lp (ι := Int × Int × (List Int)) (fun s => [⟨0, [], .slice ao4 u1.length cap5⟩, ⟨1, [], .slice ao1 u0.length cap2⟩, ⟨5, [], .slice (sm f) s.2.2.length (w64 ((u1.length : Int) + 1)).toNat⟩, ⟨6, [], y6 s.1⟩, ⟨7, [], i6 s.2.1⟩]) (fun s => [.own (tyInt .u32) 97 (sm f) (w64 ((u1.length : Int) + 1)).toNat s.2.2]) (fun s => Z) (fun s => cg s.1 s.2.1 s.2.2) (fun s => ch s.1 s.2.1 s.2.2) ⟨0, 0, (List.replicate (w64 ((u1.length : Int) + 1)).toNat (0 : Int))⟩ ci (by exact aA.reg) (by exact C) ?_
  rintro ⟨a, b, g⟩ cl cm cn aC aD
  have D := cj a b g cl
  refine s_ (sqB aC aD [] [] [(22, .bool (decide (b < (u1.length : Int))))] ?_); intro ea v
  refine c_ v D (fun _ co => ?_) fun _ cU => ?_
  ·
   refine k_ (s_ (b_ (sqH ?_))); intro cp aF
   refine bt v aD 3 [] [] [(25, y6 a), (26, .slice ao4 u1.length cap5), (27, i6 b)] ?_; intro eb aG
   obtain ⟨cq, aH⟩ := co
   refine ix_ aG hs6 b cq .i64 97 4 ?_; intro aI aJ cr c ec cs ct cu aK
   have E := aH c cs
   obtain rfl : cr = ([.int .u32 c] : List Value) := cu
   refine z1 aK aD 29 ct 0 (.int .u32 c) rfl ?_; intro ed aL
   refine bt aL aD 3 [] [] [(6, y6 (wu64 (a + (wu64 c))))] ?_; intro ee aM
   apply aF
   refine s_ (sqB aM aD [] [] [(35, .bool (decide (b < (u0.length : Int))))] ?_); intro ef x
   refine c_ x E (fun _ cv => ?_) fun _ cM => ?_
   ·
    refine rgH ?_; intro cw aN
    refine bt x aD 3 [] [] [(36, y6 (wu64 (a + (wu64 c)))), (37, .slice ao1 u0.length cap2), (38, i6 b)] ?_; intro eg aO
    obtain ⟨cx, aP⟩ := cv
    refine ix_ aO hs3 b cx .i64 97 4 ?_; intro cy cz cA m eh cB cC cD aQ
    have cE := aP m cB
    obtain rfl : cA = ([.int .u32 m] : List Value) := cD
    refine z1 aQ aD 40 cC 0 (.int .u32 m) rfl ?_; intro ei aR
    refine bt aR aD 3 [] [] [(6, y6 (wu64 ((wu64 (a + (wu64 c))) + (wu64 m))))] ?_; intro ej aS
    apply aN
    refine t_ (sqH ?_); intro cF aT
    refine bt aS aD 4 [] [] [(43, .slice (sm f) g.length (w64 ((u1.length : Int) + 1)).toNat), (44, i6 b), (46, .int .u32 (wu32 (wu64 ((wu64 (a + (wu64 c))) + (wu64 m)))))] ?_; intro ek aU
    obtain ⟨cG, aV⟩ := cE
    refine ixo aU aD 0 (T := (tyInt .u32)) (xs := g) b cG (k := .i64) (e := 97) (bytes := 4) (nog rfl _) rfl (by kernel_rfl) rfl (by kernel_rfl) (by kernel_rfl) rfl (by kernel_rfl) ?_; intro cH cI cJ F
    obtain rfl : f = cH := by simpa using cJ
    refine so F aD 0 (T := (tyInt .u32)) (xs := g) b.toNat (wu32 (wu64 ((wu64 (a + (wu64 c))) + (wu64 m)))) (u := .int .u32 (wu32 (wu64 ((wu64 (a + (wu64 c))) + (wu64 m))))) (nog rfl _) rfl rfl (by kernel_rfl) rfl (by kernel_rfl) rfl (by kernel_rfl) (by first | omega | (simp only [List.length_set] at *; omega)) rfl ?_; intro cK aW
    have aX : Fr 58 [] [⟨0, [], .slice ao4 u1.length cap5⟩, ⟨1, [], .slice ao1 u0.length cap2⟩, ⟨5, [], .slice (sm f) (g.set b.toNat (wu32 (wu64 ((wu64 (a + (wu64 c))) + (wu64 m))))).length (w64 ((u1.length : Int) + 1)).toNat⟩, ⟨6, [], y6 (wu64 ((wu64 (a + (wu64 c))) + (wu64 m)))⟩, ⟨7, [], i6 b⟩, ⟨22, [], .bool (decide (b < (u1.length : Int)))⟩, ⟨25, [], y6 a⟩, ⟨26, [], .slice ao4 u1.length cap5⟩, ⟨27, [], i6 b⟩, ⟨28, [], pt aI aJ⟩, ⟨29, [], .int .u32 c⟩, ⟨35, [], .bool (decide (b < (u0.length : Int)))⟩, ⟨36, [], y6 (wu64 (a + (wu64 c)))⟩, ⟨37, [], .slice ao1 u0.length cap2⟩, ⟨38, [], i6 b⟩, ⟨39, [], pt cy cz⟩, ⟨40, [], .int .u32 m⟩, ⟨43, [], .slice (sm f) (g.set b.toNat (wu32 (wu64 ((wu64 (a + (wu64 c))) + (wu64 m))))).length (w64 ((u1.length : Int) + 1)).toNat⟩, ⟨44, [], i6 b⟩, ⟨46, [], .int .u32 (wu32 (wu64 ((wu64 (a + (wu64 c))) + (wu64 m))))⟩, ⟨47, [], .pointer (some ⟨f, b.toNat * 1, none⟩)⟩] cI := by (try simp only [List.length_set] at F); (try simp only [List.length_set]); exact F.reg
    have V : Mem w.heap.size [] w Z [.own (tyInt .u32) 97 (sm f) (w64 ((u1.length : Int) + 1)).toNat (g.set b.toNat (wu32 (wu64 ((wu64 (a + (wu64 c))) + (wu64 m)))))] Z cK := aW
    apply aT
    refine rgB aX V [] [] [(6, y6 (bShr .u64 (wu64 ((wu64 (a + (wu64 c))) + (wu64 m))) 32))] ?_; intro el aY
    refine j_ (t_ (rgB aY V [] [] [(7, i6 (w64 (b + 1)))] ?_)); intro em cL
    exact d_ ⟨⟨bShr .u64 (wu64 ((wu64 (a + (wu64 c))) + (wu64 m))) 32, w64 (b + 1), g.set b.toNat (wu32 (wu64 ((wu64 (a + (wu64 c))) + (wu64 m))))⟩, aV.1, aV.2, (cL.reg).anyβ _ (by kernel_rfl), V.kp⟩
   refine k_ (sqH ?_); intro cN aZ
   refine bt x aD 4 [] [] [(43, .slice (sm f) g.length (w64 ((u1.length : Int) + 1)).toNat), (44, i6 b), (46, .int .u32 (wu32 (wu64 (a + (wu64 c)))))] ?_; intro en a1
   obtain ⟨cO, a2⟩ := cM
   refine ixo a1 aD 0 (T := (tyInt .u32)) (xs := g) b cO (k := .i64) (e := 97) (bytes := 4) (nog rfl _) rfl (by kernel_rfl) rfl (by kernel_rfl) (by kernel_rfl) rfl (by kernel_rfl) ?_; intro cP cQ cR G
   obtain rfl : f = cP := by simpa using cR
   refine so G aD 0 (T := (tyInt .u32)) (xs := g) b.toNat (wu32 (wu64 (a + (wu64 c)))) (u := .int .u32 (wu32 (wu64 (a + (wu64 c))))) (nog rfl _) rfl rfl (by kernel_rfl) rfl (by kernel_rfl) rfl (by kernel_rfl) (by first | omega | (simp only [List.length_set] at *; omega)) rfl ?_; intro cS a3
   have a4 : Fr 58 [] [⟨0, [], .slice ao4 u1.length cap5⟩, ⟨1, [], .slice ao1 u0.length cap2⟩, ⟨5, [], .slice (sm f) (g.set b.toNat (wu32 (wu64 (a + (wu64 c))))).length (w64 ((u1.length : Int) + 1)).toNat⟩, ⟨6, [], y6 (wu64 (a + (wu64 c)))⟩, ⟨7, [], i6 b⟩, ⟨22, [], .bool (decide (b < (u1.length : Int)))⟩, ⟨25, [], y6 a⟩, ⟨26, [], .slice ao4 u1.length cap5⟩, ⟨27, [], i6 b⟩, ⟨28, [], pt aI aJ⟩, ⟨29, [], .int .u32 c⟩, ⟨35, [], .bool (decide (b < (u0.length : Int)))⟩, ⟨43, [], .slice (sm f) (g.set b.toNat (wu32 (wu64 (a + (wu64 c))))).length (w64 ((u1.length : Int) + 1)).toNat⟩, ⟨44, [], i6 b⟩, ⟨46, [], .int .u32 (wu32 (wu64 (a + (wu64 c))))⟩, ⟨47, [], .pointer (some ⟨f, b.toNat * 1, none⟩)⟩] cQ := by (try simp only [List.length_set] at G); (try simp only [List.length_set]); exact G.reg
   have W : Mem w.heap.size [] w Z [.own (tyInt .u32) 97 (sm f) (w64 ((u1.length : Int) + 1)).toNat (g.set b.toNat (wu32 (wu64 (a + (wu64 c)))))] Z cS := a3
   apply aZ
   refine rgB a4 W [] [] [(6, y6 (bShr .u64 (wu64 (a + (wu64 c))) 32))] ?_; intro eo a5
   refine j_ (t_ (rgB a5 W [] [] [(7, i6 (w64 (b + 1)))] ?_)); intro ep cT
   exact d_ ⟨⟨bShr .u64 (wu64 (a + (wu64 c))) 32, w64 (b + 1), g.set b.toNat (wu32 (wu64 (a + (wu64 c))))⟩, a2.1, a2.2, (cT.reg).anyβ _ (by kernel_rfl), W.kp⟩
  refine x_ (y_ (y_ (z_ (t_ (sqH ?_))))); intro cV a6
  refine bt v aD 5 [] [] [(50, .slice (sm f) g.length (w64 ((u1.length : Int) + 1)).toNat), (52, i6 (u1.length : Int)), (54, .int .u32 (wu32 a))] ?_; intro eq a7
  obtain ⟨cW, a8⟩ := cU
  refine ixo a7 aD 0 (T := (tyInt .u32)) (xs := g) (u1.length : Int) cW (k := .i64) (e := 97) (bytes := 4) (nog rfl _) rfl (by kernel_rfl) rfl (by kernel_rfl) (by kernel_rfl) rfl (by kernel_rfl) ?_; intro cX cY cZ H
  obtain rfl : f = cX := by simpa using cZ
  refine so H aD 0 (T := (tyInt .u32)) (xs := g) (u1.length : Int).toNat (wu32 a) (u := .int .u32 (wu32 a)) (nog rfl _) rfl rfl (by kernel_rfl) rfl (by kernel_rfl) rfl (by kernel_rfl) (by first | omega | (simp only [List.length_set] at *; omega)) rfl ?_; intro a9 ba
  have bb : Fr 58 [] [⟨0, [], .slice ao4 u1.length cap5⟩, ⟨1, [], .slice ao1 u0.length cap2⟩, ⟨5, [], .slice (sm f) (g.set (u1.length : Int).toNat (wu32 a)).length (w64 ((u1.length : Int) + 1)).toNat⟩, ⟨6, [], y6 a⟩, ⟨7, [], i6 b⟩, ⟨22, [], .bool (decide (b < (u1.length : Int)))⟩, ⟨50, [], .slice (sm f) (g.set (u1.length : Int).toNat (wu32 a)).length (w64 ((u1.length : Int) + 1)).toNat⟩, ⟨52, [], i6 (u1.length : Int)⟩, ⟨54, [], .int .u32 (wu32 a)⟩, ⟨55, [], .pointer (some ⟨f, (u1.length : Int).toNat * 1, none⟩)⟩] cY := by (try simp only [List.length_set] at H); (try simp only [List.length_set]); exact H.reg
  have c0 : Mem w.heap.size [] w Z [.own (tyInt .u32) 97 (sm f) (w64 ((u1.length : Int) + 1)).toNat (g.set (u1.length : Int).toNat (wu32 a))] Z a9 := ba
  apply a6
  refine sqH ?_; intro c1 bc
  refine s1 bb 56 (.slice (sm f) (g.set (u1.length : Int).toNat (wu32 a)).length (w64 ((u1.length : Int) + 1)).toNat) ?_; intro er bd
  obtain ⟨c2, X, be, Y⟩ := c0.freeze 0 rfl
  have aa : Mem w.heap.size [] w Z [] c2 a9 := be
  refine ck bd 134 #[.slice (sm f) (g.set (u1.length : Int).toNat (wu32 a)).length (w64 ((u1.length : Int) + 1)).toNat] ?_
  refine (gtrim_fun (g.set (u1.length : Int).toNat (wu32 a)) (sm f) (w64 ((u1.length : Int) + 1)).toNat _ _ Y aa.fz).mono ?_; rintro _ c3 ⟨ab, ac, bf, rfl, bg, hm⟩; refine ⟨_, rfl, ?_⟩; intro es bh; have bi := aa.callZ hm
  have c4 : Mem w.heap.size [] w Z [] bf c3 := bi
  have c5 := a8 (bg.small)
  refine s1 bh 4 (.slice ab (gtrimS (g.set (u1.length : Int).toNat (wu32 a))).length ac) ?_; intro et c6
  apply bc
  exact r_ (ra1 c6 (.slice ab (gtrimS (g.set (u1.length : Int).toNat (wu32 a))).length ac) ⟨(gtrimS (g.set (u1.length : Int).toNat (wu32 a))), ab, ac, bf, rfl, c5, bg, c4.kp⟩)
 refine k_ (sqH ?_); intro c8 bj
 refine bt q o 3 [] [] [(17, i6 (w64 ((u0.length : Int) + 1)))] ?_; intro eu bk
 obtain ⟨ev, c9⟩ := c7
 refine mks bk o (T := (tyInt .u32)) (w64 ((u0.length : Int) + 1)) (w64 ((u0.length : Int) + 1)) (k := .i64) (k' := .i64) (e := 97) (bytes := 4) (zs := [.int .u32 0]) (z := 0) (by simp only [lim]; omega) (nog rfl _) rfl (by kernel_rfl) rfl (by kernel_rfl) (by kernel_rfl) (by kernel_rfl) (by kernel_rfl) rfl ?_; intro h ew da bl bm
 have J : Mem w.heap.size [] w Z [.own (tyInt .u32) 97 (sm h) (w64 ((u0.length : Int) + 1)).toNat (List.replicate (w64 ((u0.length : Int) + 1)).toNat (0 : Int))] Z da := bm
 refine s1 bl 5 (.slice (sm h) (List.replicate (w64 ((u0.length : Int) + 1)).toNat (0 : Int)).length (w64 ((u0.length : Int) + 1)).toNat) ?_; intro ex bn
 apply bj
 refine sqB bn J [] [] [(6, y6 0)] ?_; intro ey bo
 refine s_ (sqB bo J [] [] [(7, i6 0)] ?_); intro bp bq
 apply b_
 have br : Fr 58 [] [⟨0, [], .slice ao1 u0.length cap2⟩, ⟨1, [], .slice ao4 u1.length cap5⟩, ⟨5, [], .slice (sm h) (List.replicate (w64 ((u0.length : Int) + 1)).toNat (0 : Int)).length (w64 ((u0.length : Int) + 1)).toNat⟩, ⟨6, [], y6 0⟩, ⟨7, [], i6 0⟩] bp := bq.reg
 obtain ⟨db, dc, dd, de⟩ := c9
 refine lp (ι := Int × Int × (List Int)) (fun s => [⟨0, [], .slice ao1 u0.length cap2⟩, ⟨1, [], .slice ao4 u1.length cap5⟩, ⟨5, [], .slice (sm h) s.2.2.length (w64 ((u0.length : Int) + 1)).toNat⟩, ⟨6, [], y6 s.1⟩, ⟨7, [], i6 s.2.1⟩]) (fun s => [.own (tyInt .u32) 97 (sm h) (w64 ((u0.length : Int) + 1)).toNat s.2.2]) (fun s => Z) (fun s => db s.1 s.2.1 s.2.2) (fun s => dc s.1 s.2.1 s.2.2) ⟨0, 0, (List.replicate (w64 ((u0.length : Int) + 1)).toNat (0 : Int))⟩ dd (by exact br.reg) (by exact J) ?_
 rintro ⟨a, b, i⟩ df dg dh bu bv
 have L := de a b i df
 refine s_ (sqB bu bv [] [] [(22, .bool (decide (b < (u0.length : Int))))] ?_); intro ez y
 refine c_ y L (fun _ di => ?_) fun _ dP => ?_
 ·
  refine k_ (s_ (b_ (sqH ?_))); intro dj bx
  refine bt y bv 3 [] [] [(25, y6 a), (26, .slice ao1 u0.length cap2), (27, i6 b)] ?_; intro eA bz
  obtain ⟨dk, bA⟩ := di
  refine ix_ bz hs3 b dk .i64 97 4 ?_; intro bB bC dl d eB dm dn dp bD
  have M := bA d dm
  obtain rfl : dl = ([.int .u32 d] : List Value) := dp
  refine z1 bD bv 29 dn 0 (.int .u32 d) rfl ?_; intro eC bE
  refine bt bE bv 3 [] [] [(6, y6 (wu64 (a + (wu64 d))))] ?_; intro eD bF
  apply bx
  refine s_ (sqB bF bv [] [] [(35, .bool (decide (b < (u1.length : Int))))] ?_); intro eE A
  refine c_ A M (fun _ dq => ?_) fun _ dH => ?_
  ·
   refine rgH ?_; intro dr bG
   refine bt A bv 3 [] [] [(36, y6 (wu64 (a + (wu64 d)))), (37, .slice ao4 u1.length cap5), (38, i6 b)] ?_; intro eF bH
   obtain ⟨ds, bI⟩ := dq
   refine ix_ bH hs6 b ds .i64 97 4 ?_; intro dt du dv n eG dw dx dy bJ
   have dz := bI n dw
   obtain rfl : dv = ([.int .u32 n] : List Value) := dy
   refine z1 bJ bv 40 dx 0 (.int .u32 n) rfl ?_; intro eH bK
   refine bt bK bv 3 [] [] [(6, y6 (wu64 ((wu64 (a + (wu64 d))) + (wu64 n))))] ?_; intro eI bL
   apply bG
   refine t_ (sqH ?_); intro dA bM
   refine bt bL bv 4 [] [] [(43, .slice (sm h) i.length (w64 ((u0.length : Int) + 1)).toNat), (44, i6 b), (46, .int .u32 (wu32 (wu64 ((wu64 (a + (wu64 d))) + (wu64 n)))))] ?_; intro eJ bN
   obtain ⟨dB, bO⟩ := dz
   refine ixo bN bv 0 (T := (tyInt .u32)) (xs := i) b dB (k := .i64) (e := 97) (bytes := 4) (nog rfl _) rfl (by kernel_rfl) rfl (by kernel_rfl) (by kernel_rfl) rfl (by kernel_rfl) ?_; intro dC dD dE N
   obtain rfl : h = dC := by simpa using dE
   refine so N bv 0 (T := (tyInt .u32)) (xs := i) b.toNat (wu32 (wu64 ((wu64 (a + (wu64 d))) + (wu64 n)))) (u := .int .u32 (wu32 (wu64 ((wu64 (a + (wu64 d))) + (wu64 n))))) (nog rfl _) rfl rfl (by kernel_rfl) rfl (by kernel_rfl) rfl (by kernel_rfl) (by first | omega | (simp only [List.length_set] at *; omega)) rfl ?_; intro dF bP
   have bQ : Fr 58 [] [⟨0, [], .slice ao1 u0.length cap2⟩, ⟨1, [], .slice ao4 u1.length cap5⟩, ⟨5, [], .slice (sm h) (i.set b.toNat (wu32 (wu64 ((wu64 (a + (wu64 d))) + (wu64 n))))).length (w64 ((u0.length : Int) + 1)).toNat⟩, ⟨6, [], y6 (wu64 ((wu64 (a + (wu64 d))) + (wu64 n)))⟩, ⟨7, [], i6 b⟩, ⟨22, [], .bool (decide (b < (u0.length : Int)))⟩, ⟨25, [], y6 a⟩, ⟨26, [], .slice ao1 u0.length cap2⟩, ⟨27, [], i6 b⟩, ⟨28, [], pt bB bC⟩, ⟨29, [], .int .u32 d⟩, ⟨35, [], .bool (decide (b < (u1.length : Int)))⟩, ⟨36, [], y6 (wu64 (a + (wu64 d)))⟩, ⟨37, [], .slice ao4 u1.length cap5⟩, ⟨38, [], i6 b⟩, ⟨39, [], pt dt du⟩, ⟨40, [], .int .u32 n⟩, ⟨43, [], .slice (sm h) (i.set b.toNat (wu32 (wu64 ((wu64 (a + (wu64 d))) + (wu64 n))))).length (w64 ((u0.length : Int) + 1)).toNat⟩, ⟨44, [], i6 b⟩, ⟨46, [], .int .u32 (wu32 (wu64 ((wu64 (a + (wu64 d))) + (wu64 n))))⟩, ⟨47, [], .pointer (some ⟨h, b.toNat * 1, none⟩)⟩] dD := by (try simp only [List.length_set] at N); (try simp only [List.length_set]); exact N.reg
   have af : Mem w.heap.size [] w Z [.own (tyInt .u32) 97 (sm h) (w64 ((u0.length : Int) + 1)).toNat (i.set b.toNat (wu32 (wu64 ((wu64 (a + (wu64 d))) + (wu64 n)))))] Z dF := bP
   apply bM
   refine rgB bQ af [] [] [(6, y6 (bShr .u64 (wu64 ((wu64 (a + (wu64 d))) + (wu64 n))) 32))] ?_; intro eK bR
   refine j_ (t_ (rgB bR af [] [] [(7, i6 (w64 (b + 1)))] ?_)); intro eL dG
   exact d_ ⟨⟨bShr .u64 (wu64 ((wu64 (a + (wu64 d))) + (wu64 n))) 32, w64 (b + 1), i.set b.toNat (wu32 (wu64 ((wu64 (a + (wu64 d))) + (wu64 n))))⟩, bO.1, bO.2, (dG.reg).anyβ _ (by kernel_rfl), af.kp⟩
  refine k_ (sqH ?_); intro dI bS
  refine bt A bv 4 [] [] [(43, .slice (sm h) i.length (w64 ((u0.length : Int) + 1)).toNat), (44, i6 b), (46, .int .u32 (wu32 (wu64 (a + (wu64 d)))))] ?_; intro eM bT
  obtain ⟨dJ, bU⟩ := dH
  refine ixo bT bv 0 (T := (tyInt .u32)) (xs := i) b dJ (k := .i64) (e := 97) (bytes := 4) (nog rfl _) rfl (by kernel_rfl) rfl (by kernel_rfl) (by kernel_rfl) rfl (by kernel_rfl) ?_; intro dK dL dM O
  obtain rfl : h = dK := by simpa using dM
  refine so O bv 0 (T := (tyInt .u32)) (xs := i) b.toNat (wu32 (wu64 (a + (wu64 d)))) (u := .int .u32 (wu32 (wu64 (a + (wu64 d))))) (nog rfl _) rfl rfl (by kernel_rfl) rfl (by kernel_rfl) rfl (by kernel_rfl) (by first | omega | (simp only [List.length_set] at *; omega)) rfl ?_; intro dN bV
  have bW : Fr 58 [] [⟨0, [], .slice ao1 u0.length cap2⟩, ⟨1, [], .slice ao4 u1.length cap5⟩, ⟨5, [], .slice (sm h) (i.set b.toNat (wu32 (wu64 (a + (wu64 d))))).length (w64 ((u0.length : Int) + 1)).toNat⟩, ⟨6, [], y6 (wu64 (a + (wu64 d)))⟩, ⟨7, [], i6 b⟩, ⟨22, [], .bool (decide (b < (u0.length : Int)))⟩, ⟨25, [], y6 a⟩, ⟨26, [], .slice ao1 u0.length cap2⟩, ⟨27, [], i6 b⟩, ⟨28, [], pt bB bC⟩, ⟨29, [], .int .u32 d⟩, ⟨35, [], .bool (decide (b < (u1.length : Int)))⟩, ⟨43, [], .slice (sm h) (i.set b.toNat (wu32 (wu64 (a + (wu64 d))))).length (w64 ((u0.length : Int) + 1)).toNat⟩, ⟨44, [], i6 b⟩, ⟨46, [], .int .u32 (wu32 (wu64 (a + (wu64 d))))⟩, ⟨47, [], .pointer (some ⟨h, b.toNat * 1, none⟩)⟩] dL := by (try simp only [List.length_set] at O); (try simp only [List.length_set]); exact O.reg
  have ag : Mem w.heap.size [] w Z [.own (tyInt .u32) 97 (sm h) (w64 ((u0.length : Int) + 1)).toNat (i.set b.toNat (wu32 (wu64 (a + (wu64 d)))))] Z dN := bV
  apply bS
  refine rgB bW ag [] [] [(6, y6 (bShr .u64 (wu64 (a + (wu64 d))) 32))] ?_; intro eN bX
  refine j_ (t_ (rgB bX ag [] [] [(7, i6 (w64 (b + 1)))] ?_)); intro eO dO
  exact d_ ⟨⟨bShr .u64 (wu64 (a + (wu64 d))) 32, w64 (b + 1), i.set b.toNat (wu32 (wu64 (a + (wu64 d))))⟩, bU.1, bU.2, (dO.reg).anyβ _ (by kernel_rfl), ag.kp⟩
 refine x_ (y_ (y_ (z_ (t_ (sqH ?_))))); intro dQ bY
 refine bt y bv 5 [] [] [(50, .slice (sm h) i.length (w64 ((u0.length : Int) + 1)).toNat), (52, i6 (u0.length : Int)), (54, .int .u32 (wu32 a))] ?_; intro eP bZ
 obtain ⟨dR, b0⟩ := dP
 refine ixo bZ bv 0 (T := (tyInt .u32)) (xs := i) (u0.length : Int) dR (k := .i64) (e := 97) (bytes := 4) (nog rfl _) rfl (by kernel_rfl) rfl (by kernel_rfl) (by kernel_rfl) rfl (by kernel_rfl) ?_; intro dS dT dU P
 obtain rfl : h = dS := by simpa using dU
 refine so P bv 0 (T := (tyInt .u32)) (xs := i) (u0.length : Int).toNat (wu32 a) (u := .int .u32 (wu32 a)) (nog rfl _) rfl rfl (by kernel_rfl) rfl (by kernel_rfl) rfl (by kernel_rfl) (by first | omega | (simp only [List.length_set] at *; omega)) rfl ?_; intro b1 b2
 have b3 : Fr 58 [] [⟨0, [], .slice ao1 u0.length cap2⟩, ⟨1, [], .slice ao4 u1.length cap5⟩, ⟨5, [], .slice (sm h) (i.set (u0.length : Int).toNat (wu32 a)).length (w64 ((u0.length : Int) + 1)).toNat⟩, ⟨6, [], y6 a⟩, ⟨7, [], i6 b⟩, ⟨22, [], .bool (decide (b < (u0.length : Int)))⟩, ⟨50, [], .slice (sm h) (i.set (u0.length : Int).toNat (wu32 a)).length (w64 ((u0.length : Int) + 1)).toNat⟩, ⟨52, [], i6 (u0.length : Int)⟩, ⟨54, [], .int .u32 (wu32 a)⟩, ⟨55, [], .pointer (some ⟨h, (u0.length : Int).toNat * 1, none⟩)⟩] dT := by (try simp only [List.length_set] at P); (try simp only [List.length_set]); exact P.reg
 have dV : Mem w.heap.size [] w Z [.own (tyInt .u32) 97 (sm h) (w64 ((u0.length : Int) + 1)).toNat (i.set (u0.length : Int).toNat (wu32 a))] Z b1 := b2
 apply bY
 refine sqH ?_; intro dW b4
 refine s1 b3 56 (.slice (sm h) (i.set (u0.length : Int).toNat (wu32 a)).length (w64 ((u0.length : Int) + 1)).toNat) ?_; intro eQ b5
 obtain ⟨dX, ah, b6, ai⟩ := dV.freeze 0 rfl
 have aj : Mem w.heap.size [] w Z [] dX b1 := b6
 refine ck b5 134 #[.slice (sm h) (i.set (u0.length : Int).toNat (wu32 a)).length (w64 ((u0.length : Int) + 1)).toNat] ?_
 refine (gtrim_fun (i.set (u0.length : Int).toNat (wu32 a)) (sm h) (w64 ((u0.length : Int) + 1)).toNat _ _ ai aj.fz).mono ?_; rintro _ dY ⟨ak, al, b7, rfl, b8, hm⟩; refine ⟨_, rfl, ?_⟩; intro eR b9; have ca := aj.callZ hm
 have dZ : Mem w.heap.size [] w Z [] b7 dY := ca
 have d0 := b0 (b8.small)
 refine s1 b9 4 (.slice ak (gtrimS (i.set (u0.length : Int).toNat (wu32 a))).length al) ?_; intro eS d1
 apply b4
 exact r_ (ra1 d1 (.slice ak (gtrimS (i.set (u0.length : Int).toNat (wu32 a))).length al) ⟨(gtrimS (i.set (u0.length : Int).toNat (wu32 a))), ak, al, b7, rfl, d0, b8, dZ.kp⟩)

theorem gmul_walk (u0 : List Int) (u1 : List Int) (ao1 : Option Addr) (cap2 : Nat) (ao4 : Option Addr) (cap5 : Nat) (Z : Fz) (w : World) (hs3 : SlR (tyInt .u32) Z ao1 cap2 u0) (hs6 : SlR (tyInt .u32) Z ao4 cap5 u1) (hZ : Z.on w) {K : (List Int) → Prop} (hp : gmul_vc u0 u1 K) : Calls Tryz.prog 107 #[.slice ao1 u0.length cap2, .slice ao4 u1.length cap5] w fun e w' => ∃ (r : (List Int)) (ao1001 : Option Addr) (cap1002 : Nat) (Z' : Fz), e = .returned (.slice ao1001 r.length cap1002) ∧ K r ∧ SlR (tyInt .u32) Z' ao1001 cap1002 r ∧ Mem w.heap.size [] w Z [] Z' w' := by
 refine enter0 Tryz.func107 rfl rfl (by kernel_rfl) ?_; intro a0 V; have n := Mem.start w Z hZ
 have B := hp (hs3.small) (hs6.small)
 refine sqB V n [] [] [] ?_; intro b9 X
 refine s_ (sqB X n [] [] [(16, .bool (((u0.length : Int) == 0) || ((u1.length : Int) == 0)))] ?_); intro ca q
 refine c_ q B (fun _ a4 => ?_) fun _ a6 => ?_
 ·
  refine sqB q n [] [] [(4, .slice none 0 0)] ?_; intro cb a5
  exact r_ (h_ (ra1 a5 (.slice none 0 0) ⟨[], none, 0, Z, rfl, a4, (SlR.nil _ _), n.kp⟩))
 refine k_ (sqH ?_); intro a7 Y
 refine bt q n 5 [] [] [(21, i6 (w64 ((u0.length : Int) + (u1.length : Int))))] ?_; intro cc aa
 obtain ⟨ce, a8⟩ := a6
 refine mks aa n (T := (tyInt .u32)) (w64 ((u0.length : Int) + (u1.length : Int))) (w64 ((u0.length : Int) + (u1.length : Int))) (k := .i64) (k' := .i64) (e := 97) (bytes := 4) (zs := [.int .u32 0]) (z := 0) (by simp only [lim]; omega) (nog rfl _) rfl (by kernel_rfl) rfl (by kernel_rfl) (by kernel_rfl) (by kernel_rfl) (by kernel_rfl) rfl ?_; intro b cf a9 ab ac
 have I : Mem w.heap.size [] w Z [.own (tyInt .u32) 97 (sm b) (w64 ((u0.length : Int) + (u1.length : Int))).toNat (List.replicate (w64 ((u0.length : Int) + (u1.length : Int))).toNat (0 : Int))] Z a9 := ac
 refine s1 ab 5 (.slice (sm b) (List.replicate (w64 ((u0.length : Int) + (u1.length : Int))).toNat (0 : Int)).length (w64 ((u0.length : Int) + (u1.length : Int))).toNat) ?_; intro cg ad
 apply Y
 refine s_ (sqB ad I [] [] [(6, i6 0)] ?_); intro ae af
 apply b_
 have ag : Fr 75 [] [⟨0, [], .slice ao1 u0.length cap2⟩, ⟨1, [], .slice ao4 u1.length cap5⟩, ⟨5, [], .slice (sm b) (List.replicate (w64 ((u0.length : Int) + (u1.length : Int))).toNat (0 : Int)).length (w64 ((u0.length : Int) + (u1.length : Int))).toNat⟩, ⟨6, [], i6 0⟩] ae := af.reg
 obtain ⟨ba, bb, bc, bd⟩ := a8
 refine lp (ι := Int × (List Int)) (fun s => [⟨0, [], .slice ao1 u0.length cap2⟩, ⟨1, [], .slice ao4 u1.length cap5⟩, ⟨5, [], .slice (sm b) s.2.length (w64 ((u0.length : Int) + (u1.length : Int))).toNat⟩, ⟨6, [], i6 s.1⟩]) (fun s => [.own (tyInt .u32) 97 (sm b) (w64 ((u0.length : Int) + (u1.length : Int))).toNat s.2]) (fun s => Z) (fun s => ba s.1 s.2) (fun s => bb s.1 s.2) ⟨0, (List.replicate (w64 ((u0.length : Int) + (u1.length : Int))).toNat (0 : Int))⟩ bc (by exact ag.reg) (by exact I) ?_
 rintro ⟨a, m⟩ be bf ai aj ak
 have C := bd a m be
 refine s_ (sqB aj ak [] [] [(26, .bool (decide (a < (u0.length : Int))))] ?_); intro ch v
 refine c_ v C (fun _ bg => ?_) fun _ aV => ?_
 ·
  refine k_ (s_ (b_ (sqB v ak [] [] [(7, y6 0)] ?_))); intro ci am
  refine s_ (sqB am ak [] [] [(8, i6 0)] ?_); intro an ao
  apply b_
  have ap : Fr 75 [] [⟨0, [], .slice ao1 u0.length cap2⟩, ⟨1, [], .slice ao4 u1.length cap5⟩, ⟨5, [], .slice (sm b) m.length (w64 ((u0.length : Int) + (u1.length : Int))).toNat⟩, ⟨6, [], i6 a⟩, ⟨7, [], y6 0⟩, ⟨8, [], i6 0⟩] an := ao.reg
  obtain ⟨bh, bi, bj, bk⟩ := bg
  refine lp (ι := Int × Int × (List Int)) (fun s => [⟨0, [], .slice ao1 u0.length cap2⟩, ⟨1, [], .slice ao4 u1.length cap5⟩, ⟨5, [], .slice (sm b) s.2.2.length (w64 ((u0.length : Int) + (u1.length : Int))).toNat⟩, ⟨6, [], i6 a⟩, ⟨7, [], y6 s.1⟩, ⟨8, [], i6 s.2.1⟩]) (fun s => [.own (tyInt .u32) 97 (sm b) (w64 ((u0.length : Int) + (u1.length : Int))).toNat s.2.2]) (fun s => Z) (fun s => bh s.1 s.2.1 s.2.2) (fun s => bi s.1 s.2.1 s.2.2) ⟨0, 0, m⟩ bj (by exact ap.reg) (by exact ak) ?_
  rintro ⟨d, c, f⟩ bl bm bn ar au
  have D := bk d c f bl
  refine s_ (sqB ar au [] [] [(32, .bool (decide (c < (u1.length : Int))))] ?_); intro bo x
  refine c_ x D (fun _ bp => ?_) fun _ bV => ?_
  ·
   refine k_ (s_ (b_ ?_))
   have aw : Fr 75 [] [⟨0, [], .slice ao1 u0.length cap2⟩, ⟨1, [], .slice ao4 u1.length cap5⟩, ⟨5, [], .slice (sm b) f.length (w64 ((u0.length : Int) + (u1.length : Int))).toNat⟩, ⟨6, [], i6 a⟩, ⟨7, [], y6 d⟩, ⟨8, [], i6 c⟩] bo := x.reg
   refine wp_seq (rgS mixed au [(0, true), (1, true), (2, true), (6, true), (7, true), (12, true), (13, true), (14, true), (15, true), (3, true), (4, true), (5, true), (8, true), (9, true), (10, true), (11, true), (16, true), (17, true), (18, true), (19, true), (20, true), (21, true)] [] [0] [.own (tyInt .u32) 97 (sm b) (w64 ((u0.length : Int) + (u1.length : Int))).toNat f] ?_)
   intro bq ax cj y
   refine cS aw 9 [] [] [(35, y6 d), (36, .slice ao1 u0.length cap2), (37, i6 a), (41, .slice ao4 u1.length cap5), (42, i6 c), (47, .slice (sm b) f.length (w64 ((u0.length : Int) + (u1.length : Int))).toNat), (50, i6 (w64 (a + c)))] ?_; intro cm ay
   obtain ⟨br, az⟩ := bp
   refine cix rfl ay (T := (tyInt .u32)) (xs := u0) hs3 a br (k := .i64) (e := 97) (bytes := 4) (nog rfl _) rfl (by kernel_rfl) rfl (by kernel_rfl) (by kernel_rfl) (by kernel_rfl) ?_; intro bs bu bv i cn bw bx bz M
   have bA := az i bw
   obtain rfl : bv = ([.int .u32 i] : List Value) := bz
   refine cst rfl M (.int .u32 i) (nog rfl _) rfl (by kernel_rfl) (fun v152 hC => lz M hC.fz bx 0 (g := []) rfl (by kernel_rfl) (by kernel_rfl) (by kernel_rfl) rfl) ?_; intro co aA
   refine cS aA 1 [] [] [(40, y6 (wu64 i))] ?_; intro cp aB
   obtain ⟨bB, aC⟩ := bA
   refine cix rfl aB (T := (tyInt .u32)) (xs := u1) hs6 c bB (k := .i64) (e := 97) (bytes := 4) (nog rfl _) rfl (by kernel_rfl) rfl (by kernel_rfl) (by kernel_rfl) (by kernel_rfl) ?_; intro bC bD bE j cq bF bG bH N
   have bI := aC j bF
   obtain rfl : bE = ([.int .u32 j] : List Value) := bH
   refine cst rfl N (.int .u32 j) (nog rfl _) rfl (by kernel_rfl) (fun v170 hC => lz N hC.fz bG 0 (g := []) rfl (by kernel_rfl) (by kernel_rfl) (by kernel_rfl) rfl) ?_; intro cr aD
   refine cS aD 2 [] [] [(46, y6 (wu64 ((wu64 i) * (wu64 j))))] ?_; intro cs aE
   obtain ⟨bJ, aF⟩ := bI
   refine cixo rfl aE y 0 (T := (tyInt .u32)) (xs := f) (w64 (a + c)) bJ (k := .i64) (e := 97) (bytes := 4) (nog rfl _) rfl (by kernel_rfl) rfl (by kernel_rfl) (by kernel_rfl) rfl (by kernel_rfl) ?_; intro bK ct bL aG
   obtain rfl : b = bK := by simpa using bL
   obtain ⟨l, bM, bN⟩ := gxq aF (by first | omega | (simp only [List.length_set] at *; omega))
   refine clo1 rfl aG 0 (T := (tyInt .u32)) (xs := f) rfl (w64 (a + c)).toNat 0 bM [.int .u32 l] (fun _ h => h) (.int .u32 l) rfl (nog rfl _) rfl (by kernel_rfl) rfl (by kernel_rfl) (by kernel_rfl) ?_; intro cu aH
   refine cS aH 4 [] [] [(7, y6 (wu64 (d + (wu64 ((wu64 ((wu64 i) * (wu64 j))) + (wu64 l))))))] ?_; intro cv aI
   refine nS (ax _ _ ?_)
   refine t_ (sqH ?_); intro bO aJ
   refine bt aI y 6 [] [] [(56, .slice (sm b) f.length (w64 ((u0.length : Int) + (u1.length : Int))).toNat), (59, i6 (w64 (a + c))), (61, .int .u32 (wu32 (wu64 (d + (wu64 ((wu64 ((wu64 i) * (wu64 j))) + (wu64 l)))))))] ?_; intro cw aK
   obtain ⟨bP, aL⟩ := bN
   refine ixo aK y 0 (T := (tyInt .u32)) (xs := f) (w64 (a + c)) bP (k := .i64) (e := 97) (bytes := 4) (nog rfl _) rfl (by kernel_rfl) rfl (by kernel_rfl) (by kernel_rfl) rfl (by kernel_rfl) ?_; intro bQ bR bS E
   obtain rfl : b = bQ := by simpa using bS
   refine so E y 0 (T := (tyInt .u32)) (xs := f) (w64 (a + c)).toNat (wu32 (wu64 (d + (wu64 ((wu64 ((wu64 i) * (wu64 j))) + (wu64 l)))))) (u := .int .u32 (wu32 (wu64 (d + (wu64 ((wu64 ((wu64 i) * (wu64 j))) + (wu64 l))))))) (nog rfl _) rfl rfl (by kernel_rfl) rfl (by kernel_rfl) rfl (by kernel_rfl) (by first | omega | (simp only [List.length_set] at *; omega)) rfl ?_; intro bT aM
   have aN : Fr 75 [] [⟨0, [], .slice ao1 u0.length cap2⟩, ⟨1, [], .slice ao4 u1.length cap5⟩, ⟨5, [], .slice (sm b) (f.set (w64 (a + c)).toNat (wu32 (wu64 (d + (wu64 ((wu64 ((wu64 i) * (wu64 j))) + (wu64 l))))))).length (w64 ((u0.length : Int) + (u1.length : Int))).toNat⟩, ⟨6, [], i6 a⟩, ⟨7, [], y6 (wu64 (d + (wu64 ((wu64 ((wu64 i) * (wu64 j))) + (wu64 l)))))⟩, ⟨8, [], i6 c⟩, ⟨35, [], y6 d⟩, ⟨36, [], .slice ao1 u0.length cap2⟩, ⟨37, [], i6 a⟩, ⟨38, [], pt bs bu⟩, ⟨39, [], .int .u32 i⟩, ⟨40, [], y6 (wu64 i)⟩, ⟨41, [], .slice ao4 u1.length cap5⟩, ⟨42, [], i6 c⟩, ⟨43, [], pt bC bD⟩, ⟨44, [], .int .u32 j⟩, ⟨46, [], y6 (wu64 ((wu64 i) * (wu64 j)))⟩, ⟨47, [], .slice (sm b) (f.set (w64 (a + c)).toNat (wu32 (wu64 (d + (wu64 ((wu64 ((wu64 i) * (wu64 j))) + (wu64 l))))))).length (w64 ((u0.length : Int) + (u1.length : Int))).toNat⟩, ⟨50, [], i6 (w64 (a + c))⟩, ⟨51, [], .pointer (some ⟨b, (w64 (a + c)).toNat * 1, none⟩)⟩, ⟨52, [], .int .u32 l⟩, ⟨56, [], .slice (sm b) (f.set (w64 (a + c)).toNat (wu32 (wu64 (d + (wu64 ((wu64 ((wu64 i) * (wu64 j))) + (wu64 l))))))).length (w64 ((u0.length : Int) + (u1.length : Int))).toNat⟩, ⟨59, [], i6 (w64 (a + c))⟩, ⟨61, [], .int .u32 (wu32 (wu64 (d + (wu64 ((wu64 ((wu64 i) * (wu64 j))) + (wu64 l))))))⟩, ⟨62, [], .pointer (some ⟨b, (w64 (a + c)).toNat * 1, none⟩)⟩] bR := by (try simp only [List.length_set] at E); (try simp only [List.length_set]); exact E.reg
   have O : Mem w.heap.size [] w Z [.own (tyInt .u32) 97 (sm b) (w64 ((u0.length : Int) + (u1.length : Int))).toNat (f.set (w64 (a + c)).toNat (wu32 (wu64 (d + (wu64 ((wu64 ((wu64 i) * (wu64 j))) + (wu64 l)))))))] Z bT := aM
   apply aJ
   refine rgB aN O [] [] [(7, y6 (bShr .u64 (wu64 (d + (wu64 ((wu64 ((wu64 i) * (wu64 j))) + (wu64 l))))) 32))] ?_; intro cx aO
   refine j_ (t_ (rgB aO O [] [] [(8, i6 (w64 (c + 1)))] ?_)); intro cy bU
   exact d_ ⟨⟨bShr .u64 (wu64 (d + (wu64 ((wu64 ((wu64 i) * (wu64 j))) + (wu64 l))))) 32, w64 (c + 1), f.set (w64 (a + c)).toNat (wu32 (wu64 (d + (wu64 ((wu64 ((wu64 i) * (wu64 j))) + (wu64 l))))))⟩, aL.1, aL.2, (bU.reg).anyβ _ (by kernel_rfl), O.kp⟩
  refine x_ (y_ (y_ (z_ (t_ (rgH ?_))))); intro bW aP
  refine bt x au 7 [] [] [(65, .slice (sm b) f.length (w64 ((u0.length : Int) + (u1.length : Int))).toNat), (69, i6 (w64 (a + (u1.length : Int)))), (71, .int .u32 (wu32 d))] ?_; intro cz aQ
  obtain ⟨bX, aR⟩ := bV
  refine ixo aQ au 0 (T := (tyInt .u32)) (xs := f) (w64 (a + (u1.length : Int))) bX (k := .i64) (e := 97) (bytes := 4) (nog rfl _) rfl (by kernel_rfl) rfl (by kernel_rfl) (by kernel_rfl) rfl (by kernel_rfl) ?_; intro bY bZ b0 F
  obtain rfl : b = bY := by simpa using b0
  refine so F au 0 (T := (tyInt .u32)) (xs := f) (w64 (a + (u1.length : Int))).toNat (wu32 d) (u := .int .u32 (wu32 d)) (nog rfl _) rfl rfl (by kernel_rfl) rfl (by kernel_rfl) rfl (by kernel_rfl) (by first | omega | (simp only [List.length_set] at *; omega)) rfl ?_; intro b1 aS
  have aT : Fr 75 [] [⟨0, [], .slice ao1 u0.length cap2⟩, ⟨1, [], .slice ao4 u1.length cap5⟩, ⟨5, [], .slice (sm b) (f.set (w64 (a + (u1.length : Int))).toNat (wu32 d)).length (w64 ((u0.length : Int) + (u1.length : Int))).toNat⟩, ⟨6, [], i6 a⟩, ⟨7, [], y6 d⟩, ⟨8, [], i6 c⟩, ⟨32, [], .bool (decide (c < (u1.length : Int)))⟩, ⟨65, [], .slice (sm b) (f.set (w64 (a + (u1.length : Int))).toNat (wu32 d)).length (w64 ((u0.length : Int) + (u1.length : Int))).toNat⟩, ⟨69, [], i6 (w64 (a + (u1.length : Int)))⟩, ⟨71, [], .int .u32 (wu32 d)⟩, ⟨72, [], .pointer (some ⟨b, (w64 (a + (u1.length : Int))).toNat * 1, none⟩)⟩] bZ := by (try simp only [List.length_set] at F); (try simp only [List.length_set]); exact F.reg
  have aU : Mem w.heap.size [] w Z [.own (tyInt .u32) 97 (sm b) (w64 ((u0.length : Int) + (u1.length : Int))).toNat (f.set (w64 (a + (u1.length : Int))).toNat (wu32 d))] Z b1 := aS
  apply aP
  refine j_ (t_ (rgB aT aU [] [] [(6, i6 (w64 (a + 1)))] ?_)); intro cA b2
  exact d_ ⟨⟨w64 (a + 1), f.set (w64 (a + (u1.length : Int))).toNat (wu32 d)⟩, aR.1, aR.2, (b2.reg).anyβ _ (by kernel_rfl), aU.kp⟩
 refine x_ (y_ (y_ (z_ (t_ (sqH ?_))))); intro b3 aW
 refine s1 v 73 (.slice (sm b) m.length (w64 ((u0.length : Int) + (u1.length : Int))).toNat) ?_; intro cB aX
 obtain ⟨b4, P, aY, Q⟩ := ak.freeze 0 rfl
 have R : Mem w.heap.size [] w Z [] b4 ai := aY
 refine ck aX 134 #[.slice (sm b) m.length (w64 ((u0.length : Int) + (u1.length : Int))).toNat] ?_
 refine (gtrim_fun m (sm b) (w64 ((u0.length : Int) + (u1.length : Int))).toNat _ _ Q R.fz).mono ?_; rintro _ b5 ⟨S, U, aZ, rfl, a1, hm⟩; refine ⟨_, rfl, ?_⟩; intro cC a2; have a3 := R.callZ hm
 have b6 : Mem w.heap.size [] w Z [] aZ b5 := a3
 have b7 := aV (a1.small)
 refine s1 a2 4 (.slice S (gtrimS m).length U) ?_; intro cD b8
 apply aW
 exact r_ (ra1 b8 (.slice S (gtrimS m).length U) ⟨(gtrimS m), S, U, aZ, rfl, b7, a1, b6.kp⟩)

theorem gsmall_walk (u0 : List Int) (u1 : Int) (ao1 : Option Addr) (cap2 : Nat) (Z : Fz) (w : World) (hs3 : SlR (tyInt .u32) Z ao1 cap2 u0) (hZ : Z.on w) {K : ((List Int) × Int) → Prop} (hp : gsmall_vc u0 u1 K) : Calls Tryz.prog 137 #[.slice ao1 u0.length cap2, .int .u32 u1] w fun e w' => ∃ (r : (List Int) × Int) (ao1001 : Option Addr) (cap1002 : Nat) (Z' : Fz), e = .returned (.tuple #[.slice ao1001 r.1.length cap1002, .int .u32 r.2]) ∧ K r ∧ SlR (tyInt .u32) Z' ao1001 cap1002 r.1 ∧ Mem w.heap.size [] w Z [] Z' w' := by
 refine enter0 Tryz.func137 rfl rfl (by kernel_rfl) ?_; intro a0 E; have j := Mem.start w Z hZ
 have ay := hp (hs3.small)
 refine sqB E j [] [] [] ?_; intro a8 F
 refine sqH ?_; intro az G
 refine bt F j 2 [] [] [(10, i6 (u0.length : Int))] ?_; intro bb H
 obtain ⟨bc, aA⟩ := ay
 refine mks H j (T := (tyInt .u32)) (u0.length : Int) (u0.length : Int) (k := .i64) (k' := .i64) (e := 97) (bytes := 4) (zs := [.int .u32 0]) (z := 0) (by simp only [lim]; omega) (nog rfl _) rfl (by kernel_rfl) rfl (by kernel_rfl) (by kernel_rfl) (by kernel_rfl) (by kernel_rfl) rfl ?_; intro d bd aB I J
 have m : Mem w.heap.size [] w Z [.own (tyInt .u32) 97 (sm d) (u0.length : Int).toNat (List.replicate (u0.length : Int).toNat (0 : Int))] Z aB := J
 refine s1 I 6 (.slice (sm d) (List.replicate (u0.length : Int).toNat (0 : Int)).length (u0.length : Int).toNat) ?_; intro be L
 apply G
 refine sqB L m [] [] [(7, y6 0)] ?_; intro bf M
 refine s_ (sqB M m [] [] [(8, i6 (w64 ((u0.length : Int) - 1)))] ?_); intro N O
 apply b_
 have P : Fr 43 [] [⟨0, [], .slice ao1 u0.length cap2⟩, ⟨1, [], .int .u32 u1⟩, ⟨6, [], .slice (sm d) (List.replicate (u0.length : Int).toNat (0 : Int)).length (u0.length : Int).toNat⟩, ⟨7, [], y6 0⟩, ⟨8, [], i6 (w64 ((u0.length : Int) - 1))⟩] N := O.reg
 obtain ⟨aC, aD, aE, aF⟩ := aA
 refine lp (ι := Int × Int × (List Int)) (fun s => [⟨0, [], .slice ao1 u0.length cap2⟩, ⟨1, [], .int .u32 u1⟩, ⟨6, [], .slice (sm d) s.2.2.length (u0.length : Int).toNat⟩, ⟨7, [], y6 s.1⟩, ⟨8, [], i6 s.2.1⟩]) (fun s => [.own (tyInt .u32) 97 (sm d) (u0.length : Int).toNat s.2.2]) (fun s => Z) (fun s => aC s.1 s.2.1 s.2.2) (fun s => aD s.1 s.2.1 s.2.2) ⟨0, w64 ((u0.length : Int) - 1), (List.replicate (u0.length : Int).toNat (0 : Int))⟩ aE (by exact P.reg) (by exact m) ?_
 rintro ⟨a, c, f⟩ aG aH R S U
 have n := aF a c f aG
 refine s_ (sqB S U [] [] [(16, .bool (decide (c ≥ 0)))] ?_); intro bg i
 refine c_ i n (fun _ aI => ?_) fun _ am => ?_
 ·
  refine k_ (s_ (b_ (sqH ?_))); intro aJ W
  refine bt i U 4 [] [] [(20, y6 (bShl .u64 a 32)), (21, .slice ao1 u0.length cap2), (22, i6 c)] ?_; intro bh X
  obtain ⟨aK, Y⟩ := aI
  refine ix_ X hs3 c aK .i64 97 4 ?_; intro aL aM aN b bi aO aP aQ aa
  have aR := Y b aO
  obtain rfl : aN = ([.int .u32 b] : List Value) := aQ
  refine z1 aa U 24 aP 0 (.int .u32 b) rfl ?_; intro bj ab
  refine bt ab U 3 [] [] [(7, y6 (bOr .u64 (bShl .u64 a 32) (wu64 b)))] ?_; intro bk ac
  apply W
  refine sqH ?_; intro aS ad
  refine bt ac U 5 [] [] [(27, .slice (sm d) f.length (u0.length : Int).toNat), (28, i6 c), (29, y6 (bOr .u64 (bShl .u64 a 32) (wu64 b))), (31, y6 (wu64 u1))] ?_; intro bl q
  obtain ⟨aT, aU⟩ := aR
  refine u_ q (y6 (wu64 ((bOr .u64 (bShl .u64 a 32) (wu64 b)).tdiv (wu64 u1)))) (quo_run q (g := []) rfl (by kernel_rfl) (by kernel_rfl) aT rfl) ?_; intro bm ae
  refine s1 ae 33 (.int .u32 (wu32 (wu64 ((bOr .u64 (bShl .u64 a 32) (wu64 b)).tdiv (wu64 u1))))) ?_; intro bn af
  obtain ⟨aV, aW⟩ := aU
  refine ixo af U 0 (T := (tyInt .u32)) (xs := f) c aV (k := .i64) (e := 97) (bytes := 4) (nog rfl _) rfl (by kernel_rfl) rfl (by kernel_rfl) (by kernel_rfl) rfl (by kernel_rfl) ?_; intro aX aY aZ o
  obtain rfl : d = aX := by simpa using aZ
  refine so o U 0 (T := (tyInt .u32)) (xs := f) c.toNat (wu32 (wu64 ((bOr .u64 (bShl .u64 a 32) (wu64 b)).tdiv (wu64 u1)))) (u := .int .u32 (wu32 (wu64 ((bOr .u64 (bShl .u64 a 32) (wu64 b)).tdiv (wu64 u1))))) (nog rfl _) rfl rfl (by kernel_rfl) rfl (by kernel_rfl) rfl (by kernel_rfl) (by first | omega | (simp only [List.length_set] at *; omega)) rfl ?_; intro a1 ag
  have ah : Fr 43 [] [⟨0, [], .slice ao1 u0.length cap2⟩, ⟨1, [], .int .u32 u1⟩, ⟨6, [], .slice (sm d) (f.set c.toNat (wu32 (wu64 ((bOr .u64 (bShl .u64 a 32) (wu64 b)).tdiv (wu64 u1))))).length (u0.length : Int).toNat⟩, ⟨7, [], y6 (bOr .u64 (bShl .u64 a 32) (wu64 b))⟩, ⟨8, [], i6 c⟩, ⟨16, [], .bool (decide (c ≥ 0))⟩, ⟨20, [], y6 (bShl .u64 a 32)⟩, ⟨21, [], .slice ao1 u0.length cap2⟩, ⟨22, [], i6 c⟩, ⟨23, [], pt aL aM⟩, ⟨24, [], .int .u32 b⟩, ⟨27, [], .slice (sm d) (f.set c.toNat (wu32 (wu64 ((bOr .u64 (bShl .u64 a 32) (wu64 b)).tdiv (wu64 u1))))).length (u0.length : Int).toNat⟩, ⟨28, [], i6 c⟩, ⟨29, [], y6 (bOr .u64 (bShl .u64 a 32) (wu64 b))⟩, ⟨31, [], y6 (wu64 u1)⟩, ⟨32, [], y6 (wu64 ((bOr .u64 (bShl .u64 a 32) (wu64 b)).tdiv (wu64 u1)))⟩, ⟨33, [], .int .u32 (wu32 (wu64 ((bOr .u64 (bShl .u64 a 32) (wu64 b)).tdiv (wu64 u1))))⟩, ⟨34, [], .pointer (some ⟨d, c.toNat * 1, none⟩)⟩] aY := by (try simp only [List.length_set] at o); (try simp only [List.length_set]); exact o.reg
  have v : Mem w.heap.size [] w Z [.own (tyInt .u32) 97 (sm d) (u0.length : Int).toNat (f.set c.toNat (wu32 (wu64 ((bOr .u64 (bShl .u64 a 32) (wu64 b)).tdiv (wu64 u1)))))] Z a1 := ag
  apply ad
  refine rgH ?_; intro a2 ai
  refine bt ah v 3 [] [] [(35, y6 (bOr .u64 (bShl .u64 a 32) (wu64 b))), (37, y6 (wu64 u1))] ?_; intro bo x
  obtain ⟨a3, aj⟩ := aW
  refine u_ x (y6 ((bOr .u64 (bShl .u64 a 32) (wu64 b)).tmod (wu64 u1))) (rem_run x (g := []) rfl (by kernel_rfl) (by kernel_rfl) a3 rfl) ?_; intro bp ak
  refine s1 ak 7 (y6 ((bOr .u64 (bShl .u64 a 32) (wu64 b)).tmod (wu64 u1))) ?_; intro bq al
  apply ai
  refine j_ (t_ (rgB al v [] [] [(8, i6 (w64 (c - 1)))] ?_)); intro br a4
  exact d_ ⟨⟨(bOr .u64 (bShl .u64 a 32) (wu64 b)).tmod (wu64 u1), w64 (c - 1), f.set c.toNat (wu32 (wu64 ((bOr .u64 (bShl .u64 a 32) (wu64 b)).tdiv (wu64 u1))))⟩, aj.1, aj.2, (a4.reg).anyβ _ (by kernel_rfl), v.kp⟩
 refine x_ (y_ (y_ (z_ (t_ (sqH ?_))))); intro a5 an
 refine s1 i 39 (.slice (sm d) f.length (u0.length : Int).toNat) ?_; intro bs ao
 obtain ⟨a6, ap, aq, y⟩ := U.freeze 0 rfl
 have A : Mem w.heap.size [] w Z [] a6 R := aq
 refine ck ao 134 #[.slice (sm d) f.length (u0.length : Int).toNat] ?_
 refine (gtrim_fun f (sm d) (u0.length : Int).toNat _ _ y A.fz).mono ?_; rintro _ a7 ⟨B, C, ar, rfl, au, hm⟩; refine ⟨_, rfl, ?_⟩; intro bu av; have aw := A.callZ hm
 have ax : Mem w.heap.size [] w Z [] ar a7 := aw
 have a9 := am (au.small)
 refine bt av ax 4 [] [] [(4, .slice B (gtrimS f).length C), (5, .int .u32 (wu32 a))] ?_; intro bv ba
 apply an
 exact r_ (ra2 ba (.tuple #[.slice B (gtrimS f).length C, .int .u32 (wu32 a)]) ⟨((gtrimS f), wu32 a), B, C, ar, rfl, a9, au, ax.kp⟩)

theorem ggive_walk (u0 : BInt) (u1 : Bool) (u2 : List Int) (b1 : Nat) (ao2 : Option Addr) (cap3 : Nat) (ao5 : Option Addr) (cap6 : Nat) (B : Nat) (w0 : World) (Z0 : Fz) (Rr : List Res) (Z : Fz) (w : World) (hs4 : SlR (tyInt .u32) Z ao2 cap3 u0.abs) (hs7 : SlR (tyInt .u32) Z ao5 cap6 u2) (hM0 : Mem B [] w0 Z0 ((.row b1 [.bool u0.neg, .slice ao2 u0.abs.length cap3] 107) :: Rr) Z w) (hZ : Z.on w) {K : BInt → Prop} (hp : ggive_vc u0 u1 u2 K) : Calls Tryz.prog 109 #[pt b1 0, .bool u1, .slice ao5 u2.length cap6] w fun e w' => ∃ (r : BInt) (ao1001 : Option Addr) (cap1002 : Nat) (Z' : Fz), e = .returned (pt b1 0) ∧ K r ∧ Fz.le Z Z' ∧ SlR (tyInt .u32) Z' ao1001 cap1002 r.abs ∧ Mem B [] w0 Z0 ((.row b1 [.bool r.neg, .slice ao1001 r.abs.length cap1002] 107) :: Rr) Z' w' := by
 refine enter0 Tryz.func109 rfl rfl (by kernel_rfl) ?_; intro u d; have m := Fz.le.refl Z
 have n := hp (hs4.small) (hs7.small)
 refine sqB d hM0 [] [] [] ?_; intro v g
 refine sqH ?_; intro o h
 refine bt g hM0 4 [] [] [(8, .slice ao5 u2.length cap6), (10, pt b1 1)] ?_; intro x a
 refine sx a hM0 0 [.bool u0.neg, .slice ao5 u2.length cap6] 1 ?_; intro p i
 have b : Mem B [] w0 Z0 ((.row b1 [.bool u0.neg, .slice ao5 u2.length cap6] 107) :: Rr) Z p := i
 apply h
 refine sqH ?_; intro q j
 refine bt a b 9 [] [] [(17, .bool (u1 && (decide ((u2.length : Int) > 0)))), (19, pt b1 0)] ?_; intro y c
 refine sx c b 0 [.bool (u1 && (decide ((u2.length : Int) > 0))), .slice ao5 u2.length cap6] 0 ?_; intro s k
 have l : Mem B [] w0 Z0 ((.row b1 [.bool (u1 && (decide ((u2.length : Int) > 0))), .slice ao5 u2.length cap6] 107) :: Rr) Z s := k
 apply j
 refine sqB c l [] [] [(6, pt b1 0)] ?_; intro z t
 exact r_ (ra1 t (pt b1 0) ⟨(⟨u1 && (decide ((u2.length : Int) > 0)), u2⟩ : BInt), ao5, cap6, Z, rfl, n, m, hs7, l.kp⟩)
def ggive_fun (u0 : BInt) (u1 : Bool) (u2 : List Int) (b1 : Nat) (ao2 : Option Addr) (cap3 : Nat) (ao5 : Option Addr) (cap6 : Nat) (B : Nat) (w0 : World) (Z0 : Fz) (Rr : List Res) (Z : Fz) (w : World) (hs4 : SlR (tyInt .u32) Z ao2 cap3 u0.abs) (hs7 : SlR (tyInt .u32) Z ao5 cap6 u2) (hM0 : Mem B [] w0 Z0 ((.row b1 [.bool u0.neg, .slice ao2 u0.abs.length cap3] 107) :: Rr) Z w) (hZ : Z.on w) := fc_ (ggive_walk u0 u1 u2 b1 ao2 cap3 ao5 cap6 B w0 Z0 Rr Z w hs4 hs7 hM0 hZ (ggive_ok u0 u1 u2))
theorem guint64_walk (u0 : BInt) (b1 : Nat) (ao2 : Option Addr) (cap3 : Nat) (B : Nat) (w0 : World) (Z0 : Fz) (Rr : List Res) (Z : Fz) (w : World) (hs4 : SlR (tyInt .u32) Z ao2 cap3 u0.abs) (hM0 : Mem B [] w0 Z0 ((.row b1 [.bool u0.neg, .slice ao2 u0.abs.length cap3] 107) :: Rr) Z w) (hZ : Z.on w) {K : (Int × BInt) → Prop} (hp : guint64_vc u0 K) : Calls Tryz.prog 113 #[pt b1 0] w fun e w' => ∃ (r : Int × BInt) (ao1001 : Option Addr) (cap1002 : Nat) (Z' : Fz), e = .returned (y6 r.1) ∧ K r ∧ Fz.le Z Z' ∧ SlR (tyInt .u32) Z' ao1001 cap1002 r.2.abs ∧ Mem B [] w0 Z0 ((.row b1 [.bool r.2.neg, .slice ao1001 r.2.abs.length cap1002] 107) :: Rr) Z' w' := by
 refine enter0 Tryz.func113 rfl rfl (by kernel_rfl) ?_; intro a0 p; have h := Fz.le.refl Z
 have i := hp (hs4.small)
 refine sqB p hM0 [] [] [] ?_; intro a7 q
 refine sqB q hM0 [] [] [(3, y6 0)] ?_; intro aw s
 refine s_ (sqB s hM0 [0] [] [(9, .bool (decide ((u0.abs.length : Int) > 0)))] ?_); intro ax d
 refine c_ d i (fun _ P => ?_) fun _ l => ?_
 ·
  refine rgH ?_; intro Q u
  refine bt d hM0 4 [0] [] [(13, .slice ao2 u0.abs.length cap3)] ?_; intro ay v
  obtain ⟨R, x⟩ := P
  refine ix_ v hs4 (0 : Int) R .i64 97 4 ?_; intro az aA S a aB U V W y
  have j := x a U
  obtain rfl : S = ([.int .u32 a] : List Value) := W
  refine z1 y hM0 15 V 0 (.int .u32 a) rfl ?_; intro aC z
  refine bt z hM0 2 [] [] [(3, y6 (wu64 a))] ?_; intro aD A
  apply u
  refine t_ (s_ (sqB A hM0 [0] [] [(22, .bool (decide ((u0.abs.length : Int) > 1)))] ?_)); intro aE f
  refine c_ f j (fun _ X => ?_) fun _ ah => ?_
  ·
   refine rgH ?_; intro Y C
   refine bt f hM0 5 [0] [] [(23, y6 (wu64 a)), (27, .slice ao2 u0.abs.length cap3)] ?_; intro aF D
   obtain ⟨aa, E⟩ := X
   refine ix_ D hs4 (1 : Int) aa .i64 97 4 ?_; intro aG aH ab b aI ac ad ae F
   have af := E b ac
   obtain rfl : ab = ([.int .u32 b] : List Value) := ae
   refine z1 F hM0 29 ad 0 (.int .u32 b) rfl ?_; intro aJ G
   refine bt G hM0 4 [] [] [(3, y6 (bOr .u64 (wu64 a) (bShl .u64 (wu64 b) 32)))] ?_; intro aK H
   apply C
   refine t_ (sqB H hM0 [] [] [(2, y6 (bOr .u64 (wu64 a) (bShl .u64 (wu64 b) 32)))] ?_); intro aL ag
   exact r_ (ra1 ag (y6 (bOr .u64 (wu64 a) (bShl .u64 (wu64 b) 32))) ⟨(bOr .u64 (wu64 a) (bShl .u64 (wu64 b) 32), u0), ao2, cap3, Z, rfl, af, h, hs4, hM0.kp⟩)
  refine k_ (sqB f hM0 [] [] [(2, y6 (wu64 a))] ?_); intro aM ai
  exact r_ (ra1 ai (y6 (wu64 a)) ⟨(wu64 a, u0), ao2, cap3, Z, rfl, ah, h, hs4, hM0.kp⟩)
 refine k_ (s_ (sqB d hM0 [0] [] [(22, .bool (decide ((u0.abs.length : Int) > 1)))] ?_)); intro aN g
 refine c_ g l (fun _ aj => ?_) fun _ au => ?_
 ·
  refine rgH ?_; intro ak I
  refine bt g hM0 5 [0] [] [(23, y6 0), (27, .slice ao2 u0.abs.length cap3)] ?_; intro aO J
  obtain ⟨al, L⟩ := aj
  refine ix_ J hs4 (1 : Int) al .i64 97 4 ?_; intro aP aQ am c aR an ao ap M
  have aq := L c an
  obtain rfl : am = ([.int .u32 c] : List Value) := ap
  refine z1 M hM0 29 ao 0 (.int .u32 c) rfl ?_; intro aS N
  refine bt N hM0 4 [] [] [(3, y6 (bOr .u64 0 (bShl .u64 (wu64 c) 32)))] ?_; intro aT O
  apply I
  refine t_ (sqB O hM0 [] [] [(2, y6 (bOr .u64 0 (bShl .u64 (wu64 c) 32)))] ?_); intro aU ar
  exact r_ (ra1 ar (y6 (bOr .u64 0 (bShl .u64 (wu64 c) 32))) ⟨(bOr .u64 0 (bShl .u64 (wu64 c) 32), u0), ao2, cap3, Z, rfl, aq, h, hs4, hM0.kp⟩)
 refine k_ (sqB g hM0 [] [] [(2, y6 0)] ?_); intro aV av
 exact r_ (ra1 av (y6 0) ⟨(0, u0), ao2, cap3, Z, rfl, au, h, hs4, hM0.kp⟩)

theorem gbit_walk (u0 : List Int) (u1 : Int) (ao1 : Option Addr) (cap2 : Nat) (Z : Fz) (w : World) (hs3 : SlR (tyInt .u32) Z ao1 cap2 u0) (hZ : Z.on w) {K : Int → Prop} (hp : gbit_vc u0 u1 K) : Calls Tryz.prog 135 #[.slice ao1 u0.length cap2, i6 u1] w fun e w' => ∃ r : Int, e = .returned (y6 r) ∧ K r ∧ Below w.heap.size w w' := by
 refine enter0 Tryz.func135 rfl rfl (by kernel_rfl) ?_; intro H i; have a := Mem.start w Z hZ
 have d := hp (hs3.small)
 refine sqB i a [] [] [] ?_; intro J j
 refine s_ (sqB j a [] [] [(13, .bool ((decide (u1 < 0)) || (decide ((w64 (u1.tdiv 32)) ≥ (u0.length : Int)))))] ?_); intro L c
 refine c_ c d (fun _ s => ?_) fun _ v => ?_
 ·
  refine sqB c a [] [] [(4, y6 0)] ?_; intro M u
  exact r_ (h_ (ra1 u (y6 0) ⟨0, rfl, s, a.below⟩))
 refine k_ (sqH ?_); intro x l
 refine bt c a 3 [] [] [(14, .slice ao1 u0.length cap2), (16, i6 (w64 (u1.tdiv 32)))] ?_; intro N m
 obtain ⟨y, n⟩ := v
 refine ix_ m hs3 (w64 (u1.tdiv 32)) y .i64 97 4 ?_; intro O P z b Q A B C o
 have D := n b A
 obtain rfl : z = ([.int .u32 b] : List Value) := C
 refine z1 o a 18 B 0 (.int .u32 b) rfl ?_; intro R p
 refine bt p a 3 [] [] [(21, y6 ((wu64 u1).tmod 32))] ?_; intro S h
 obtain ⟨E, F⟩ := D
 refine u_ h (.int .u32 (bShr .u32 b ((wu64 u1).tmod 32))) (shr_run h (g := []) (k' := .u64) rfl (by kernel_rfl) (by kernel_rfl) E rfl) ?_; intro U q
 refine bt q a 3 [] [] [(4, y6 (bAnd .u64 (wu64 (bShr .u32 b ((wu64 u1).tmod 32))) 1))] ?_; intro V G
 apply l
 exact r_ (ra1 G (y6 (bAnd .u64 (wu64 (bShr .u32 b ((wu64 u1).tmod 32))) 1)) ⟨bAnd .u64 (wu64 (bShr .u32 b ((wu64 u1).tmod 32))) 1, rfl, F, a.below⟩)

end Go.Proofs.YtdenmllkjdijlaaGreatDoor
set_option linter.unusedVariables false
set_option linter.unusedSimpArgs false
set_option linter.defProp false
set_option maxRecDepth 100000
set_option maxHeartbeats 0
namespace Go.Proofs.YtdenmllkjdijlaaGreatDoor
open Go.Sy Go.RowKit
def gtwin_fun (u0 : List Int) (hpre : u0.length ≤ 1000000) (ao1 : Option Addr) (cap2 : Nat) (Z : Fz) (w : World) (hs3 : SlR (tyInt .u32) Z ao1 cap2 u0) (hZ : Z.on w) := fc_ (gtwin_walk u0 ao1 cap2 Z w hs3 hZ (gtwin_ok u0 hpre))
def gwords_fun (u0 : Int) (hpre : 0 ≤ u0 ∧ u0 ≤ 18446744073709551615)  (Z : Fz) (w : World)  (hZ : Z.on w) := fc_ (gwords_walk u0  Z w  hZ (gwords_ok u0 hpre))
def gadd_fun (u0 : List Int) (u1 : List Int) (hpre : wok u0 ∧ wok u1 ∧ u0.length ≤ 1000000 ∧ u1.length ≤ 1000000) (ao1 : Option Addr) (cap2 : Nat) (ao4 : Option Addr) (cap5 : Nat) (Z : Fz) (w : World) (hs3 : SlR (tyInt .u32) Z ao1 cap2 u0) (hs6 : SlR (tyInt .u32) Z ao4 cap5 u1) (hZ : Z.on w) := fc_ (gadd_walk u0 u1 ao1 cap2 ao4 cap5 Z w hs3 hs6 hZ (gadd_ok u0 u1 hpre))
def gmul_fun (u0 : List Int) (u1 : List Int) (hpre : wok u0 ∧ wok u1 ∧ u0.length ≤ 100000 ∧ u1.length ≤ 1000) (ao1 : Option Addr) (cap2 : Nat) (ao4 : Option Addr) (cap5 : Nat) (Z : Fz) (w : World) (hs3 : SlR (tyInt .u32) Z ao1 cap2 u0) (hs6 : SlR (tyInt .u32) Z ao4 cap5 u1) (hZ : Z.on w) := fc_ (gmul_walk u0 u1 ao1 cap2 ao4 cap5 Z w hs3 hs6 hZ (gmul_okB u0 u1 hpre))
def gsmall_fun (u0 : List Int) (u1 : Int) (hpre : wok u0 ∧ u0.length ≤ 100000 ∧ u1 = 10) (ao1 : Option Addr) (cap2 : Nat) (Z : Fz) (w : World) (hs3 : SlR (tyInt .u32) Z ao1 cap2 u0) (hZ : Z.on w) := fc_ (gsmall_walk u0 u1 ao1 cap2 Z w hs3 hZ (gsmall_ok u0 u1 hpre))
def gbit_fun (u0 : List Int) (u1 : Int) (hpre : wok u0 ∧ 0 ≤ u1 ∧ u1 ≤ 1000000) (ao1 : Option Addr) (cap2 : Nat) (Z : Fz) (w : World) (hs3 : SlR (tyInt .u32) Z ao1 cap2 u0) (hZ : Z.on w) := f_ (gbit_walk u0 u1 ao1 cap2 Z w hs3 hZ (gbit_ok u0 u1 hpre))
def guint64_fun (u0 : BInt) (hpre : wok u0.abs) (b1 : Nat) (ao2 : Option Addr) (cap3 : Nat) (B : Nat) (w0 : World) (Z0 : Fz) (Rr : List Res) (Z : Fz) (w : World) (hs4 : SlR (tyInt .u32) Z ao2 cap3 u0.abs) (hM0 : Mem B [] w0 Z0 ((.row b1 [.bool u0.neg, .slice ao2 u0.abs.length cap3] 107) :: Rr) Z w) (hZ : Z.on w) := fc_ (guint64_walk u0 b1 ao2 cap3 B w0 Z0 Rr Z w hs4 hM0 hZ (guint64_ok u0 hpre))
theorem gint64_walk (u0 : BInt) (b1 : Nat) (ao2 : Option Addr) (cap3 : Nat) (B : Nat) (w0 : World) (Z0 : Fz) (Rr : List Res) (Z : Fz) (w : World) (hs4 : SlR (tyInt .u32) Z ao2 cap3 u0.abs) (hM0 : Mem B [] w0 Z0 ((.row b1 [.bool u0.neg, .slice ao2 u0.abs.length cap3] 107) :: Rr) Z w) (hZ : Z.on w) {K : (Int × BInt) → Prop} (hp : gint64_vc u0 K) : Calls Tryz.prog 63 #[pt b1 0] w fun e w' => ∃ (r : Int × BInt) (ao1001 : Option Addr) (cap1002 : Nat) (Z' : Fz), e = .returned (i6 r.1) ∧ K r ∧ Fz.le Z Z' ∧ SlR (tyInt .u32) Z' ao1001 cap1002 r.2.abs ∧ Mem B [] w0 Z0 ((.row b1 [.bool r.2.neg, .slice ao1001 r.2.abs.length cap1002] 107) :: Rr) Z' w' := by
 refine enter0 Tryz.func63 rfl rfl (by kernel_rfl) ?_; intro L m; have d := Fz.le.refl Z
 have A := hp (hs4.small)
 refine sqB m hM0 [] [] [] ?_; intro M n
 refine sqH ?_; intro C o
 refine s1 n 4 (pt b1 0) ?_; intro N p
 obtain ⟨D, q⟩ := A
 refine ck p 113 #[pt b1 0] ?_
 obtain ⟨a, E, s⟩ := hxq q
 have g := guint64_fun u0 D b1 ao2 cap3 _ _ _ _ _ _ hs4 hM0 hM0.fz; rw [E] at g; refine g.mono ?_; rintro _ F ⟨h, i, j, rfl, u, k, hm⟩; refine ⟨_, rfl, ?_⟩; intro O v; have x := hm
 replace d := Fz.le.trans d u
 have b : Mem B [] w0 Z0 ((.row b1 [.bool a.2.neg, .slice h a.2.abs.length i] 107) :: Rr) j F := x
 have f := s (k.small)
 refine bt v b 2 [] [] [(3, i6 (w64 a.1))] ?_; intro P y
 apply o
 refine s_ (sqB y b [0] [] [(10, .bool a.2.neg)] ?_); intro Q c
 refine c_ c f (fun _ G => ?_) fun _ I => ?_
 ·
  refine rgB c b [] [] [(3, i6 (w64 (0 - (w64 a.1))))] ?_; intro R z
  refine t_ (sqB z b [] [] [(2, i6 (w64 (0 - (w64 a.1))))] ?_); intro S H
  exact r_ (ra1 H (i6 (w64 (0 - (w64 a.1)))) ⟨(w64 (0 - (w64 a.1)), a.2), h, i, j, rfl, G, d, k, b.kp⟩)
 refine k_ (sqB c b [] [] [(2, i6 (w64 a.1))] ?_); intro T J
 exact r_ (ra1 J (i6 (w64 a.1)) ⟨(w64 a.1, a.2), h, i, j, rfl, I, d, k, b.kp⟩)

theorem gtz_walk (u0 : BInt) (b1 : Nat) (ao2 : Option Addr) (cap3 : Nat) (B : Nat) (w0 : World) (Z0 : Fz) (Rr : List Res) (Z : Fz) (w : World) (hs4 : SlR (tyInt .u32) Z ao2 cap3 u0.abs) (hM0 : Mem B [] w0 Z0 ((.row b1 [.bool u0.neg, .slice ao2 u0.abs.length cap3] 107) :: Rr) Z w) (hZ : Z.on w) {K : (Int × BInt) → Prop} (hp : gtz_vc u0 K) : Calls Tryz.prog 111 #[pt b1 0] w fun e w' => ∃ (r : Int × BInt) (ao1001 : Option Addr) (cap1002 : Nat) (Z' : Fz), e = .returned (y6 r.1) ∧ K r ∧ Fz.le Z Z' ∧ SlR (tyInt .u32) Z' ao1001 cap1002 r.2.abs ∧ Mem B [] w0 Z0 ((.row b1 [.bool r.2.neg, .slice ao1001 r.2.abs.length cap1002] 107) :: Rr) Z' w' := by
 refine enter0 Tryz.func111 rfl rfl (by kernel_rfl) ?_; intro U k; have l := Fz.le.refl Z
 have d := hp (hs4.small)
 refine sqB k hM0 [] [] [] ?_; intro V m
 refine sqB m hM0 [] [] [(3, y6 0)] ?_; intro W n
 refine s_ (sqB n hM0 [0] [] [(9, .bool ((u0.abs.length : Int) == 0))] ?_); intro o b
 refine c_ b d (fun _ D => ?_) fun _ F => ?_
 ·
  refine sqB b hM0 [] [] [(2, y6 0)] ?_; intro X E
  exact r_ (h_ (ra1 E (y6 0) ⟨(0, u0), ao2, cap3, Z, rfl, D, l, hs4, hM0.kp⟩))
 refine k_ (s_ (b_ ?_))
 have p : Fr 21 [] [⟨0, [], pt b1 0⟩, ⟨3, [], y6 0⟩] o := b.reg
 obtain ⟨G, H, I, J⟩ := F
 refine lp (ι := Int) (fun s => [⟨0, [], pt b1 0⟩, ⟨3, [], y6 s⟩]) (fun s => ((.row b1 [.bool u0.neg, .slice ao2 u0.abs.length cap3] 107) :: Rr)) (fun s => Z) (fun s => G s) (fun s => H s) 0 I (by exact p.reg) (by exact hM0) ?_
 rintro a L M N u v
 have O := J a L
 refine s_ (sqH ?_); intro P y
 refine bt u v 6 [0] [] [(13, .slice ao2 u0.abs.length cap3), (15, i6 (w64 a))] ?_; intro Y z
 obtain ⟨Q, g⟩ := O
 refine fc z v (gbit_fun u0.abs (w64 a) Q ao2 cap3 _ _ hs4 v.fz) ?_; intro aa ab A h
 refine s1 A 17 (.bool ((gbitS u0.abs (w64 a)) == 0)) ?_; intro ac c
 apply y
 refine c_ c g (fun _ C => ?_) fun _ S => ?_
 ·
  refine k_ (b_ (rgB c h [] [] [(3, y6 (wu64 (a + 1)))] ?_)); intro ad R
  exact j_ (d_ ⟨wu64 (a + 1), C.1, C.2, (R.reg).anyβ _ (by kernel_rfl), h.kp⟩)
 refine x_ (y_ (y_ (z_ (t_ (sqB c h [] [] [(2, y6 a)] ?_))))); intro ae T
 exact r_ (ra1 T (y6 a) ⟨(a, u0), ao2, cap3, Z, rfl, S, l, hs4, h.kp⟩)

theorem gsetstr_walk (u0 : BInt) (u1 : List UInt8) (b1 : Nat) (ao2 : Option Addr) (cap3 : Nat) (B : Nat) (w0 : World) (Z0 : Fz) (Rr : List Res) (Z : Fz) (w : World) (hs4 : SlR (tyInt .u32) Z ao2 cap3 u0.abs) (hM0 : Mem B [] w0 Z0 ((.row b1 [.bool u0.neg, .slice ao2 u0.abs.length cap3] 107) :: Rr) Z w) (hZ : Z.on w) {K : (Bool × Bool × BInt) → Prop} (hp : gsetstr_vc u0 u1 K) : Calls Tryz.prog 60 #[pt b1 0, str u1, i6 10] w fun e w' => ∃ (r : Bool × Bool × BInt) (ao1001 : Option Addr) (cap1002 : Nat) (Z' : Fz), e = .returned (.tuple #[.pointer (if r.1 = true then some ⟨b1, 0, none⟩ else none), .bool r.2.1]) ∧ K r ∧ Fz.le Z Z' ∧ SlR (tyInt .u32) Z' ao1001 cap1002 r.2.2.abs ∧ Mem B [] w0 Z0 ((.row b1 [.bool r.2.2.neg, .slice ao1001 r.2.2.abs.length cap1002] 107) :: Rr) Z' w' := by
 refine enter0 Tryz.func60 rfl rfl (by kernel_rfl) ?_; intro a0 cB; have a := Fz.le.refl Z
 have aI := hp (hs4.small)
 refine sqB cB hM0 [] [] [] ?_; intro a9 cC
 refine sqB cC hM0 [] [] [(8, .bool false)] ?_; intro kc cD
 refine s_ (sqH ?_); intro bA U
 refine bt cD hM0 4 [] [] [(16, .bool (decide ((u1.length : Int) > 0)))] ?_; intro kd aJ
 refine e_ aI (fun af gE => ?_) fun af bo => ?_
 ·
  have aK := aJ.reval (d := 16) (c := []) (v := .bool (decide ((u1.length : Int) > 0))) (by kernel_rfl) (.bool true) (by rw [af])
  refine g_ aK true (str u1) ?_; intro ke aL
  obtain ⟨gF, gG⟩ := gE
  obtain ⟨V, cE⟩ : ∃ q, u1[(0 : Int).toNat]? = some q := ⟨_, List.getElem?_eq_getElem (by omega)⟩; have aM := gG V cE
  refine v_ aL (y8 (V.toNat : Int)) (wK aL true) (stridx_run aL (k := .i64) rfl (by kernel_rfl) (by kernel_rfl) (by kernel_rfl) gF.1 cE) ?_; intro kf cF
  refine bt cF hM0 2 [] [19, 20] [(20, .bool ((V.toNat : Int) == 45))] ?_; intro kg aN
  refine e_ aM (fun ag gH => ?_) fun ag hC => ?_
  ·
   have cG := aN.reval (d := 20) (c := []) (v := .bool ((V.toNat : Int) == 45)) (by kernel_rfl) (.bool true) (by rw [ag])
   refine bt cG hM0 5 [] [21, 22, 23, 24, 25] [(25, .bool true)] ?_; intro kh bB
   apply U
   refine cdT bB (by kernel_rfl) ?_
   refine sqH ?_; intro gI cH
   refine s1 bB 26 (str u1) ?_; intro ki cI
   obtain ⟨gJ, gK⟩ := gH
   obtain ⟨J, cJ⟩ : ∃ q, u1[(0 : Int).toNat]? = some q := ⟨_, List.getElem?_eq_getElem (by omega)⟩; have gL := gK J cJ
   refine si cI .i64 gJ.1 cJ ?_; intro kj cK
   refine bt cK hM0 2 [] [] [(8, .bool ((J.toNat : Int) == 45))] ?_; intro kk cL
   apply cH
   refine rgH ?_; intro gM cM
   refine s1 cL 29 (str u1) ?_; intro kl bC
   obtain ⟨gN, aO⟩ := gL
   refine u_ bC (str (u1.drop (1 : Int).toNat)) (strslL_run bC (g := []) (k := .i64) rfl (by kernel_rfl) (by kernel_rfl) (by kernel_rfl) gN rfl) ?_; intro km cN
   refine s1 cN 1 (str (u1.drop (1 : Int).toNat)) ?_; intro kn cO
   apply cM
   refine t_ (s_ (sqB cO hM0 [] [] [(32, .bool false)] ?_)); intro ko bD
   refine cdF bD (by kernel_rfl) ?_
   refine k_ (s_ (sqB bD hM0 [] [] [(66, .bool (((((u1.drop (1 : Int).toNat).length : Int) == 0) || false) || false))] ?_)); intro kp ah
   refine c_ ah aO (fun _ gO => ?_) fun _ gQ => ?_
   ·
    refine sqB ah hM0 [] [] [(6, .pointer none), (7, .bool false)] ?_; intro kq gP
    exact r_ (h_ (ra2 gP (.tuple #[.pointer none, .bool false]) ⟨(false, false, u0), ao2, cap3, Z, rfl, gO, a, hs4, hM0.kp⟩))
   refine k_ (sqB ah hM0 [] [] [(9, .slice none 0 0)] ?_); intro kr cP
   refine s_ (sqB cP hM0 [] [] [(10, i6 0)] ?_); intro cQ cR
   apply b_
   have cS : Fr 124 [] [⟨0, [], pt b1 0⟩, ⟨1, [], str (u1.drop (1 : Int).toNat)⟩, ⟨2, [], i6 10⟩, ⟨8, [], .bool ((J.toNat : Int) == 45)⟩, ⟨9, [], .slice none 0 0⟩, ⟨10, [], i6 0⟩] cQ := cR.reg
   obtain ⟨gR, gS, gT, gU⟩ := gQ
   refine lp (ι := (List Int) × Int × (Option Addr) × Nat × Fz) (fun s => [⟨0, [], pt b1 0⟩, ⟨1, [], str (u1.drop (1 : Int).toNat)⟩, ⟨2, [], i6 10⟩, ⟨8, [], .bool ((J.toNat : Int) == 45)⟩, ⟨9, [], .slice s.2.2.1 s.1.length s.2.2.2.1⟩, ⟨10, [], i6 s.2.1⟩]) (fun s => ((.row b1 [.bool u0.neg, .slice ao2 u0.abs.length cap3] 107) :: Rr)) (fun s => s.2.2.2.2) (fun s => gR s.1 s.2.1 ∧ SlR (tyInt .u32) s.2.2.2.2 s.2.2.1 s.2.2.2.1 s.1 ∧ Fz.le Z s.2.2.2.2) (fun s => gS s.1 s.2.1) ⟨([] : List Int), 0, none, 0, Z⟩ ⟨gT, (SlR.nil _ _), Fz.le.refl _⟩ (by exact cS.reg) (by exact hM0) ?_
   rintro ⟨b, h, i, j, aP⟩ ⟨gV, f, F⟩ gW gX cU cV
   have aQ := gU b h gV
   replace a := Fz.le.trans a F
   have A := hs4.mono F
   refine s_ (sqB cU cV [] [] [(70, .bool (decide (h < ((u1.drop (1 : Int).toNat).length : Int))))] ?_); intro kt ai
   refine c_ ai aQ (fun _ gY => ?_) fun _ dz => ?_
   ·
    refine k_ (s_ (b_ (sqB ai cV [] [] [(11, i6 99)] ?_))); intro ku cX
    refine s_ (sqH ?_); intro gZ cY
    refine bt cX cV 2 [] [] [(73, str (u1.drop (1 : Int).toNat)), (74, i6 h)] ?_; intro kv cZ
    obtain ⟨g0, g1⟩ := gY
    obtain ⟨m, c0⟩ : ∃ q, (u1.drop (1 : Int).toNat)[h.toNat]? = some q := ⟨_, List.getElem?_eq_getElem (by omega)⟩; have aR := g1 m c0
    refine si cZ .i64 g0.1 c0 ?_; intro kw c1
    refine s1 c1 12 (y8 (m.toNat : Int)) ?_; intro kx c2
    apply cY
    refine b_ (sqB c2 cV [] [] [(76, .bool ((decide ((m.toNat : Int) ≥ 48)) && (decide ((m.toNat : Int) ≤ 57))))] ?_); intro ky aj
    refine c_ aj aR (fun _ g2 => ?_) fun _ aV => ?_
    ·
     refine rgB aj cV [] [] [(11, i6 (w64 (w8 ((m.toNat : Int) - 48))))] ?_; intro kz c3
     refine j_ (t_ (s_ (sqB c3 cV [] [] [(110, .bool (decide ((w64 (w8 ((m.toNat : Int) - 48))) ≥ 10)))] ?_))); intro kA bH
     obtain ⟨g3, g4⟩ := g2
     refine cn bH g3 ?_
     refine k_ (rgH ?_); intro g5 c4
     refine bt bH cV 3 [] [] [(111, .slice i b.length j), (113, y6 10)] ?_; intro kB c5
     obtain ⟨g6, c6⟩ := g4
     refine ck c5 108 #[y6 10] ?_
     refine (gwords_fun 10 g6 _ _ cV.fz).mono ?_; rintro _ g7 ⟨c7, c8, g8, rfl, M, hm⟩; refine ⟨_, rfl, ?_⟩; intro kC c9; have da := cV.callZ hm; have aS := hm.ext.le
     replace f := f.mono aS
     replace F := F.mono aS
     have bI : Mem B [] w0 Z0 ((.row b1 [.bool u0.neg, .slice ao2 u0.abs.length cap3] 107) :: Rr) g8 g7 := da
     obtain ⟨ha, db⟩ := c6 (M.small)
     refine ck c9 107 #[.slice i b.length j, .slice c7 (gwordsS 10).length c8] ?_
     refine (gmul_fun b (gwordsS 10) ha i j c7 c8 _ _ f M bI.fz).mono ?_; rintro _ hb ⟨dc, dd, hc, rfl, W, hm⟩; refine ⟨_, rfl, ?_⟩; intro kD de; have df := bI.callZ hm; have ak := hm.ext.le
     replace F := F.mono ak
     have aT : Mem B [] w0 Z0 ((.row b1 [.bool u0.neg, .slice ao2 u0.abs.length cap3] 107) :: Rr) hc hb := df
     have hd := db (W.small)
     refine bt de aT 2 [] [] [(117, y6 (wu64 (w64 (w8 ((m.toNat : Int) - 48)))))] ?_; intro kE dg
     obtain ⟨he, dh⟩ := hd
     refine ck dg 108 #[y6 (wu64 (w64 (w8 ((m.toNat : Int) - 48))))] ?_
     refine (gwords_fun (wu64 (w64 (w8 ((m.toNat : Int) - 48)))) he _ _ aT.fz).mono ?_; rintro _ hf ⟨di, dj, hg, rfl, aU, hm⟩; refine ⟨_, rfl, ?_⟩; intro kF dk; have dl := aT.callZ hm; have X := hm.ext.le
     replace F := F.mono X
     replace W := W.mono X
     have bJ : Mem B [] w0 Z0 ((.row b1 [.bool u0.neg, .slice ao2 u0.abs.length cap3] 107) :: Rr) hg hf := dl
     obtain ⟨hi, dm⟩ := dh (aU.small)
     refine ck dk 106 #[.slice dc (gmulS b (gwordsS 10)).length dd, .slice di (gwordsS (wu64 (w64 (w8 ((m.toNat : Int) - 48))))).length dj] ?_
     refine (gadd_fun (gmulS b (gwordsS 10)) (gwordsS (wu64 (w64 (w8 ((m.toNat : Int) - 48))))) hi dc dd di dj _ _ W aU bJ.fz).mono ?_; rintro _ hj ⟨dn, dp, dq, rfl, dr, hm⟩; refine ⟨_, rfl, ?_⟩; intro kG ds; have dt := bJ.callZ hm; have Q := hm.ext.le
     replace F := F.mono Q
     have du : Mem B [] w0 Z0 ((.row b1 [.bool u0.neg, .slice ao2 u0.abs.length cap3] 107) :: Rr) dq hj := dt
     have dv := dm (dr.small)
     refine s1 ds 9 (.slice dn (gaddS (gmulS b (gwordsS 10)) (gwordsS (wu64 (w64 (w8 ((m.toNat : Int) - 48)))))).length dp) ?_; intro kH dw
     apply c4
     refine j_ (t_ (rgB dw du [] [] [(10, i6 (w64 (h + 1)))] ?_)); intro kI hk
     exact d_ ⟨⟨(gaddS (gmulS b (gwordsS 10)) (gwordsS (wu64 (w64 (w8 ((m.toNat : Int) - 48)))))), w64 (h + 1), dn, dp, dq⟩, ⟨dv.1, dr, F⟩, dv.2, (hk.reg).anyβ _ (by kernel_rfl), du.kp⟩
    refine sqB aj cV [] [] [(86, .bool ((decide ((m.toNat : Int) ≥ 97)) && (decide ((m.toNat : Int) ≤ 122))))] ?_; intro kJ al
    refine c_ al aV (fun _ hl => ?_) fun _ aW => ?_
    ·
     refine rgB al cV [] [] [(11, i6 (w64 ((w64 (w8 ((m.toNat : Int) - 97))) + 10)))] ?_; intro kK dx
     refine j_ (t_ (s_ (sqB dx cV [] [] [(110, .bool (decide ((w64 ((w64 (w8 ((m.toNat : Int) - 97))) + 10)) ≥ 10)))] ?_))); intro kL bL
     obtain ⟨hn, ho⟩ := hl
     refine cy bL hn ?_
     refine sqB bL cV [] [] [(6, .pointer none), (7, .bool false)] ?_; intro kM hq
     exact r_ (h_ (i_ (h_ (h_ (i_ (h_ (ra2 hq (.tuple #[.pointer none, .bool false]) ⟨(false, false, u0), ao2, cap3, aP, rfl, ho, a, A, cV.kp⟩)))))))
    refine sqB al cV [] [] [(97, .bool ((decide ((m.toNat : Int) ≥ 65)) && (decide ((m.toNat : Int) ≤ 90))))] ?_; intro kN am
    refine c_ am aW (fun _ hr => ?_) fun _ hv => ?_
    ·
     refine rgB am cV [] [] [(11, i6 (w64 ((w64 (w8 ((m.toNat : Int) - 65))) + 10)))] ?_; intro kO dy
     refine j_ (t_ (s_ (sqB dy cV [] [] [(110, .bool (decide ((w64 ((w64 (w8 ((m.toNat : Int) - 65))) + 10)) ≥ 10)))] ?_))); intro kP bN
     obtain ⟨hs, ht⟩ := hr
     refine cy bN hs ?_
     refine sqB bN cV [] [] [(6, .pointer none), (7, .bool false)] ?_; intro kQ hu
     exact r_ (h_ (i_ (h_ (h_ (i_ (h_ (ra2 hu (.tuple #[.pointer none, .bool false]) ⟨(false, false, u0), ao2, cap3, aP, rfl, ht, a, A, cV.kp⟩)))))))
    refine l_ (j_ (t_ (s_ (sqB am cV [] [] [(110, .bool true)] ?_)))); intro kR bO
    refine cdT bO (by kernel_rfl) ?_
    refine sqB bO cV [] [] [(6, .pointer none), (7, .bool false)] ?_; intro kS hw
    exact r_ (h_ (i_ (h_ (h_ (i_ (h_ (ra2 hw (.tuple #[.pointer none, .bool false]) ⟨(false, false, u0), ao2, cap3, aP, rfl, hv, a, A, cV.kp⟩)))))))
   refine x_ (y_ (y_ (z_ (t_ (sqH ?_))))); intro hx dA
   refine bt ai cV 3 [] [] [(120, pt b1 0), (121, .bool ((J.toNat : Int) == 45)), (122, .slice i b.length j)] ?_; intro kT dB
   refine ck dB 109 #[pt b1 0, .bool ((J.toNat : Int) == 45), .slice i b.length j] ?_
   obtain ⟨bP, hy, dC⟩ := hxq dz
   have z := ggive_fun u0 ((J.toNat : Int) == 45) b b1 ao2 cap3 i j _ _ _ _ _ _ A f cV cV.fz; rw [hy] at z; refine z.mono ?_; rintro _ hz ⟨dD, dE, dF, rfl, aX, dG, hm⟩; refine ⟨_, rfl, ?_⟩; intro kU dH; have dI := hm
   replace a := Fz.le.trans a aX
   have dJ : Mem B [] w0 Z0 ((.row b1 [.bool bP.neg, .slice dD bP.abs.length dE] 107) :: Rr) dF hz := dI
   have hA := dC (dG.small)
   refine bt dH dJ 2 [] [] [(6, pt b1 0), (7, .bool true)] ?_; intro kV hB
   apply dA
   exact r_ (ra2 hB (.tuple #[pt b1 0, .bool true]) ⟨(true, true, bP), dD, dE, dF, rfl, hA, a, dG, dJ.kp⟩)
  have aY := aN.reval (d := 20) (c := []) (v := .bool ((V.toNat : Int) == 45)) (by kernel_rfl) (.bool false) (by rw [ag])
  refine g_ aY false (str u1) ?_; intro kW aZ
  obtain ⟨hD, hE⟩ := hC
  obtain ⟨a1, dK⟩ : ∃ q, u1[(0 : Int).toNat]? = some q := ⟨_, List.getElem?_eq_getElem (by omega)⟩; have a2 := hE a1 dK
  refine v_ aZ (y8 (a1.toNat : Int)) (wK aZ false) (stridx_run aZ (k := .i64) rfl (by kernel_rfl) (by kernel_rfl) (by kernel_rfl) hD.1 dK) ?_; intro kX dL
  refine bt dL hM0 3 [] [23, 24, 25] [(25, .bool ((a1.toNat : Int) == 43))] ?_; intro kY an
  apply U
  refine c_ an a2 (fun _ hF => ?_) fun _ be => ?_
  ·
   refine sqH ?_; intro hG dM
   refine s1 an 26 (str u1) ?_; intro kZ dN
   obtain ⟨hH, hI⟩ := hF
   obtain ⟨L, dO⟩ : ∃ q, u1[(0 : Int).toNat]? = some q := ⟨_, List.getElem?_eq_getElem (by omega)⟩; have hJ := hI L dO
   refine si dN .i64 hH.1 dO ?_; intro k0 dP
   refine bt dP hM0 2 [] [] [(8, .bool ((L.toNat : Int) == 45))] ?_; intro k1 dQ
   apply dM
   refine rgH ?_; intro hK dR
   refine s1 dQ 29 (str u1) ?_; intro k2 bR
   obtain ⟨hL, a3⟩ := hJ
   refine u_ bR (str (u1.drop (1 : Int).toNat)) (strslL_run bR (g := []) (k := .i64) rfl (by kernel_rfl) (by kernel_rfl) (by kernel_rfl) hL rfl) ?_; intro k3 dS
   refine s1 dS 1 (str (u1.drop (1 : Int).toNat)) ?_; intro k4 dT
   apply dR
   refine t_ (s_ (sqB dT hM0 [] [] [(32, .bool false)] ?_)); intro k5 bS
   refine cdF bS (by kernel_rfl) ?_
   refine k_ (s_ (sqB bS hM0 [] [] [(66, .bool (((((u1.drop (1 : Int).toNat).length : Int) == 0) || false) || false))] ?_)); intro k6 ao
   refine c_ ao a3 (fun _ hM => ?_) fun _ hO => ?_
   ·
    refine sqB ao hM0 [] [] [(6, .pointer none), (7, .bool false)] ?_; intro k7 hN
    exact r_ (h_ (ra2 hN (.tuple #[.pointer none, .bool false]) ⟨(false, false, u0), ao2, cap3, Z, rfl, hM, a, hs4, hM0.kp⟩))
   refine k_ (sqB ao hM0 [] [] [(9, .slice none 0 0)] ?_); intro k8 dU
   refine s_ (sqB dU hM0 [] [] [(10, i6 0)] ?_); intro dV dW
   apply b_
   have dX : Fr 124 [] [⟨0, [], pt b1 0⟩, ⟨1, [], str (u1.drop (1 : Int).toNat)⟩, ⟨2, [], i6 10⟩, ⟨8, [], .bool ((L.toNat : Int) == 45)⟩, ⟨9, [], .slice none 0 0⟩, ⟨10, [], i6 0⟩] dV := dW.reg
   obtain ⟨hP, hQ, hR, hS⟩ := hO
   refine lp (ι := (List Int) × Int × (Option Addr) × Nat × Fz) (fun s => [⟨0, [], pt b1 0⟩, ⟨1, [], str (u1.drop (1 : Int).toNat)⟩, ⟨2, [], i6 10⟩, ⟨8, [], .bool ((L.toNat : Int) == 45)⟩, ⟨9, [], .slice s.2.2.1 s.1.length s.2.2.2.1⟩, ⟨10, [], i6 s.2.1⟩]) (fun s => ((.row b1 [.bool u0.neg, .slice ao2 u0.abs.length cap3] 107) :: Rr)) (fun s => s.2.2.2.2) (fun s => hP s.1 s.2.1 ∧ SlR (tyInt .u32) s.2.2.2.2 s.2.2.1 s.2.2.2.1 s.1 ∧ Fz.le Z s.2.2.2.2) (fun s => hQ s.1 s.2.1) ⟨([] : List Int), 0, none, 0, Z⟩ ⟨hR, (SlR.nil _ _), Fz.le.refl _⟩ (by exact dX.reg) (by exact hM0) ?_
   rintro ⟨b, h, i, j, a4⟩ ⟨hT, f, G⟩ hU hV dZ d0
   have a5 := hS b h hT
   replace a := Fz.le.trans a G
   have C := hs4.mono G
   refine s_ (sqB dZ d0 [] [] [(70, .bool (decide (h < ((u1.drop (1 : Int).toNat).length : Int))))] ?_); intro la ap
   refine c_ ap a5 (fun _ hW => ?_) fun _ eD => ?_
   ·
    refine k_ (s_ (b_ (sqB ap d0 [] [] [(11, i6 99)] ?_))); intro lb d2
    refine s_ (sqH ?_); intro hX d3
    refine bt d2 d0 2 [] [] [(73, str (u1.drop (1 : Int).toNat)), (74, i6 h)] ?_; intro lc d4
    obtain ⟨hY, h0⟩ := hW
    obtain ⟨o, d5⟩ : ∃ q, (u1.drop (1 : Int).toNat)[h.toNat]? = some q := ⟨_, List.getElem?_eq_getElem (by omega)⟩; have a6 := h0 o d5
    refine si d4 .i64 hY.1 d5 ?_; intro ld d6
    refine s1 d6 12 (y8 (o.toNat : Int)) ?_; intro lf d7
    apply d3
    refine b_ (sqB d7 d0 [] [] [(76, .bool ((decide ((o.toNat : Int) ≥ 48)) && (decide ((o.toNat : Int) ≤ 57))))] ?_); intro lg aq
    refine c_ aq a6 (fun _ h1 => ?_) fun _ bb => ?_
    ·
     refine rgB aq d0 [] [] [(11, i6 (w64 (w8 ((o.toNat : Int) - 48))))] ?_; intro lh d8
     refine j_ (t_ (s_ (sqB d8 d0 [] [] [(110, .bool (decide ((w64 (w8 ((o.toNat : Int) - 48))) ≥ 10)))] ?_))); intro li bW
     obtain ⟨h2, h3⟩ := h1
     refine cn bW h2 ?_
     refine k_ (rgH ?_); intro h4 d9
     refine bt bW d0 3 [] [] [(111, .slice i b.length j), (113, y6 10)] ?_; intro lj ea
     obtain ⟨h5, eb⟩ := h3
     refine ck ea 108 #[y6 10] ?_
     refine (gwords_fun 10 h5 _ _ d0.fz).mono ?_; rintro _ h6 ⟨ec, ed, h7, rfl, N, hm⟩; refine ⟨_, rfl, ?_⟩; intro lk ee; have ef := d0.callZ hm; have a7 := hm.ext.le
     replace f := f.mono a7
     replace G := G.mono a7
     have bX : Mem B [] w0 Z0 ((.row b1 [.bool u0.neg, .slice ao2 u0.abs.length cap3] 107) :: Rr) h7 h6 := ef
     obtain ⟨ia, eg⟩ := eb (N.small)
     refine ck ee 107 #[.slice i b.length j, .slice ec (gwordsS 10).length ed] ?_
     refine (gmul_fun b (gwordsS 10) ia i j ec ed _ _ f N bX.fz).mono ?_; rintro _ ib ⟨eh, ei, ic, rfl, Y, hm⟩; refine ⟨_, rfl, ?_⟩; intro ll ej; have ek := bX.callZ hm; have ar := hm.ext.le
     replace G := G.mono ar
     have a8 : Mem B [] w0 Z0 ((.row b1 [.bool u0.neg, .slice ao2 u0.abs.length cap3] 107) :: Rr) ic ib := ek
     have id := eg (Y.small)
     refine bt ej a8 2 [] [] [(117, y6 (wu64 (w64 (w8 ((o.toNat : Int) - 48)))))] ?_; intro lm el
     obtain ⟨ie, em⟩ := id
     refine ck el 108 #[y6 (wu64 (w64 (w8 ((o.toNat : Int) - 48))))] ?_
     refine (gwords_fun (wu64 (w64 (w8 ((o.toNat : Int) - 48)))) ie _ _ a8.fz).mono ?_; rintro _ ig ⟨en, eo, ih, rfl, ba, hm⟩; refine ⟨_, rfl, ?_⟩; intro ln ep; have eq := a8.callZ hm; have aa := hm.ext.le
     replace G := G.mono aa
     replace Y := Y.mono aa
     have bY : Mem B [] w0 Z0 ((.row b1 [.bool u0.neg, .slice ao2 u0.abs.length cap3] 107) :: Rr) ih ig := eq
     obtain ⟨ij, er⟩ := em (ba.small)
     refine ck ep 106 #[.slice eh (gmulS b (gwordsS 10)).length ei, .slice en (gwordsS (wu64 (w64 (w8 ((o.toNat : Int) - 48))))).length eo] ?_
     refine (gadd_fun (gmulS b (gwordsS 10)) (gwordsS (wu64 (w64 (w8 ((o.toNat : Int) - 48))))) ij eh ei en eo _ _ Y ba bY.fz).mono ?_; rintro _ ik ⟨es, et, eu, rfl, ev, hm⟩; refine ⟨_, rfl, ?_⟩; intro lo ew; have ex := bY.callZ hm; have R := hm.ext.le
     replace G := G.mono R
     have ey : Mem B [] w0 Z0 ((.row b1 [.bool u0.neg, .slice ao2 u0.abs.length cap3] 107) :: Rr) eu ik := ex
     have ez := er (ev.small)
     refine s1 ew 9 (.slice es (gaddS (gmulS b (gwordsS 10)) (gwordsS (wu64 (w64 (w8 ((o.toNat : Int) - 48)))))).length et) ?_; intro lq eA
     apply d9
     refine j_ (t_ (rgB eA ey [] [] [(10, i6 (w64 (h + 1)))] ?_)); intro lr il
     exact d_ ⟨⟨(gaddS (gmulS b (gwordsS 10)) (gwordsS (wu64 (w64 (w8 ((o.toNat : Int) - 48)))))), w64 (h + 1), es, et, eu⟩, ⟨ez.1, ev, G⟩, ez.2, (il.reg).anyβ _ (by kernel_rfl), ey.kp⟩
    refine sqB aq d0 [] [] [(86, .bool ((decide ((o.toNat : Int) ≥ 97)) && (decide ((o.toNat : Int) ≤ 122))))] ?_; intro ls au
    refine c_ au bb (fun _ im => ?_) fun _ bc => ?_
    ·
     refine rgB au d0 [] [] [(11, i6 (w64 ((w64 (w8 ((o.toNat : Int) - 97))) + 10)))] ?_; intro lt eB
     refine j_ (t_ (s_ (sqB eB d0 [] [] [(110, .bool (decide ((w64 ((w64 (w8 ((o.toNat : Int) - 97))) + 10)) ≥ 10)))] ?_))); intro lu b0
     obtain ⟨io, ip⟩ := im
     refine cy b0 io ?_
     refine sqB b0 d0 [] [] [(6, .pointer none), (7, .bool false)] ?_; intro lv iq
     exact r_ (h_ (i_ (h_ (h_ (i_ (h_ (ra2 iq (.tuple #[.pointer none, .bool false]) ⟨(false, false, u0), ao2, cap3, a4, rfl, ip, a, C, d0.kp⟩)))))))
    refine sqB au d0 [] [] [(97, .bool ((decide ((o.toNat : Int) ≥ 65)) && (decide ((o.toNat : Int) ≤ 90))))] ?_; intro lw av
    refine c_ av bc (fun _ ir => ?_) fun _ iw => ?_
    ·
     refine rgB av d0 [] [] [(11, i6 (w64 ((w64 (w8 ((o.toNat : Int) - 65))) + 10)))] ?_; intro lx eC
     refine j_ (t_ (s_ (sqB eC d0 [] [] [(110, .bool (decide ((w64 ((w64 (w8 ((o.toNat : Int) - 65))) + 10)) ≥ 10)))] ?_))); intro ly b3
     obtain ⟨it, iu⟩ := ir
     refine cy b3 it ?_
     refine sqB b3 d0 [] [] [(6, .pointer none), (7, .bool false)] ?_; intro lz iv
     exact r_ (h_ (i_ (h_ (h_ (i_ (h_ (ra2 iv (.tuple #[.pointer none, .bool false]) ⟨(false, false, u0), ao2, cap3, a4, rfl, iu, a, C, d0.kp⟩)))))))
    refine l_ (j_ (t_ (s_ (sqB av d0 [] [] [(110, .bool true)] ?_)))); intro lA b4
    refine cdT b4 (by kernel_rfl) ?_
    refine sqB b4 d0 [] [] [(6, .pointer none), (7, .bool false)] ?_; intro lB ix
    exact r_ (h_ (i_ (h_ (h_ (i_ (h_ (ra2 ix (.tuple #[.pointer none, .bool false]) ⟨(false, false, u0), ao2, cap3, a4, rfl, iw, a, C, d0.kp⟩)))))))
   refine x_ (y_ (y_ (z_ (t_ (sqH ?_))))); intro iy eE
   refine bt ap d0 3 [] [] [(120, pt b1 0), (121, .bool ((L.toNat : Int) == 45)), (122, .slice i b.length j)] ?_; intro lC eF
   refine ck eF 109 #[pt b1 0, .bool ((L.toNat : Int) == 45), .slice i b.length j] ?_
   obtain ⟨b5, iz, eG⟩ := hxq eD
   have z := ggive_fun u0 ((L.toNat : Int) == 45) b b1 ao2 cap3 i j _ _ _ _ _ _ C f d0 d0.fz; rw [iz] at z; refine z.mono ?_; rintro _ iA ⟨eH, eI, eJ, rfl, bd, eK, hm⟩; refine ⟨_, rfl, ?_⟩; intro lD eL; have eM := hm
   replace a := Fz.le.trans a bd
   have eN : Mem B [] w0 Z0 ((.row b1 [.bool b5.neg, .slice eH b5.abs.length eI] 107) :: Rr) eJ iA := eM
   have iB := eG (eK.small)
   refine bt eL eN 2 [] [] [(6, pt b1 0), (7, .bool true)] ?_; intro lE iC
   apply eE
   exact r_ (ra2 iC (.tuple #[pt b1 0, .bool true]) ⟨(true, true, b5), eH, eI, eJ, rfl, iB, a, eK, eN.kp⟩)
  refine k_ (s_ (sqB an hM0 [] [] [(32, .bool false)] ?_)); intro lF b6
  refine cdF b6 (by kernel_rfl) ?_
  refine k_ (s_ (sqB b6 hM0 [] [] [(66, .bool ((((u1.length : Int) == 0) || false) || false))] ?_)); intro lG aw
  refine c_ aw be (fun _ iD => ?_) fun _ iF => ?_
  ·
   refine sqB aw hM0 [] [] [(6, .pointer none), (7, .bool false)] ?_; intro lH iE
   exact r_ (h_ (ra2 iE (.tuple #[.pointer none, .bool false]) ⟨(false, false, u0), ao2, cap3, Z, rfl, iD, a, hs4, hM0.kp⟩))
  refine k_ (sqB aw hM0 [] [] [(9, .slice none 0 0)] ?_); intro lI eO
  refine s_ (sqB eO hM0 [] [] [(10, i6 0)] ?_); intro eP eQ
  apply b_
  have eR : Fr 124 [] [⟨0, [], pt b1 0⟩, ⟨1, [], str u1⟩, ⟨2, [], i6 10⟩, ⟨8, [], .bool false⟩, ⟨9, [], .slice none 0 0⟩, ⟨10, [], i6 0⟩] eP := eQ.reg
  obtain ⟨iG, iH, iI, iJ⟩ := iF
  refine lp (ι := (List Int) × Int × (Option Addr) × Nat × Fz) (fun s => [⟨0, [], pt b1 0⟩, ⟨1, [], str u1⟩, ⟨2, [], i6 10⟩, ⟨8, [], .bool false⟩, ⟨9, [], .slice s.2.2.1 s.1.length s.2.2.2.1⟩, ⟨10, [], i6 s.2.1⟩]) (fun s => ((.row b1 [.bool u0.neg, .slice ao2 u0.abs.length cap3] 107) :: Rr)) (fun s => s.2.2.2.2) (fun s => iG s.1 s.2.1 ∧ SlR (tyInt .u32) s.2.2.2.2 s.2.2.1 s.2.2.2.1 s.1 ∧ Fz.le Z s.2.2.2.2) (fun s => iH s.1 s.2.1) ⟨([] : List Int), 0, none, 0, Z⟩ ⟨iI, (SlR.nil _ _), Fz.le.refl _⟩ (by exact eR.reg) (by exact hM0) ?_
  rintro ⟨b, h, i, j, bf⟩ ⟨iK, f, H⟩ iL iM eT eU
  have bg := iJ b h iK
  replace a := Fz.le.trans a H
  have D := hs4.mono H
  refine s_ (sqB eT eU [] [] [(70, .bool (decide (h < (u1.length : Int))))] ?_); intro lK ax
  refine c_ ax bg (fun _ iN => ?_) fun _ fx => ?_
  ·
   refine k_ (s_ (b_ (sqB ax eU [] [] [(11, i6 99)] ?_))); intro lL eW
   refine s_ (sqH ?_); intro iO eX
   refine bt eW eU 2 [] [] [(73, str u1), (74, i6 h)] ?_; intro lM eY
   obtain ⟨iP, iQ⟩ := iN
   obtain ⟨u, eZ⟩ : ∃ q, u1[h.toNat]? = some q := ⟨_, List.getElem?_eq_getElem (by omega)⟩; have bh := iQ u eZ
   refine si eY .i64 iP.1 eZ ?_; intro lN e0
   refine s1 e0 12 (y8 (u.toNat : Int)) ?_; intro lO e1
   apply eX
   refine b_ (sqB e1 eU [] [] [(76, .bool ((decide ((u.toNat : Int) ≥ 48)) && (decide ((u.toNat : Int) ≤ 57))))] ?_); intro lP ay
   refine c_ ay bh (fun _ iR => ?_) fun _ bl => ?_
   ·
    refine rgB ay eU [] [] [(11, i6 (w64 (w8 ((u.toNat : Int) - 48))))] ?_; intro lQ e2
    refine j_ (t_ (s_ (sqB e2 eU [] [] [(110, .bool (decide ((w64 (w8 ((u.toNat : Int) - 48))) ≥ 10)))] ?_))); intro lR ca
    obtain ⟨iS, iT⟩ := iR
    refine cn ca iS ?_
    refine k_ (rgH ?_); intro iU e3
    refine bt ca eU 3 [] [] [(111, .slice i b.length j), (113, y6 10)] ?_; intro lS e4
    obtain ⟨iV, e5⟩ := iT
    refine ck e4 108 #[y6 10] ?_
    refine (gwords_fun 10 iV _ _ eU.fz).mono ?_; rintro _ iW ⟨e6, e7, iX, rfl, O, hm⟩; refine ⟨_, rfl, ?_⟩; intro lT e8; have e9 := eU.callZ hm; have bi := hm.ext.le
    replace f := f.mono bi
    replace H := H.mono bi
    have cb : Mem B [] w0 Z0 ((.row b1 [.bool u0.neg, .slice ao2 u0.abs.length cap3] 107) :: Rr) iX iW := e9
    obtain ⟨iZ, fa⟩ := e5 (O.small)
    refine ck e8 107 #[.slice i b.length j, .slice e6 (gwordsS 10).length e7] ?_
    refine (gmul_fun b (gwordsS 10) iZ i j e6 e7 _ _ f O cb.fz).mono ?_; rintro _ i0 ⟨fb, fc, i1, rfl, ab, hm⟩; refine ⟨_, rfl, ?_⟩; intro lU fd; have fe := cb.callZ hm; have az := hm.ext.le
    replace H := H.mono az
    have bj : Mem B [] w0 Z0 ((.row b1 [.bool u0.neg, .slice ao2 u0.abs.length cap3] 107) :: Rr) i1 i0 := fe
    have i2 := fa (ab.small)
    refine bt fd bj 2 [] [] [(117, y6 (wu64 (w64 (w8 ((u.toNat : Int) - 48)))))] ?_; intro lV ff
    obtain ⟨i3, fg⟩ := i2
    refine ck ff 108 #[y6 (wu64 (w64 (w8 ((u.toNat : Int) - 48))))] ?_
    refine (gwords_fun (wu64 (w64 (w8 ((u.toNat : Int) - 48)))) i3 _ _ bj.fz).mono ?_; rintro _ i4 ⟨fh, fi, i5, rfl, bk, hm⟩; refine ⟨_, rfl, ?_⟩; intro lW fj; have fk := bj.callZ hm; have ac := hm.ext.le
    replace H := H.mono ac
    replace ab := ab.mono ac
    have cc : Mem B [] w0 Z0 ((.row b1 [.bool u0.neg, .slice ao2 u0.abs.length cap3] 107) :: Rr) i5 i4 := fk
    obtain ⟨i8, fl⟩ := fg (bk.small)
    refine ck fj 106 #[.slice fb (gmulS b (gwordsS 10)).length fc, .slice fh (gwordsS (wu64 (w64 (w8 ((u.toNat : Int) - 48))))).length fi] ?_
    refine (gadd_fun (gmulS b (gwordsS 10)) (gwordsS (wu64 (w64 (w8 ((u.toNat : Int) - 48))))) i8 fb fc fh fi _ _ ab bk cc.fz).mono ?_; rintro _ i9 ⟨fm, fn, fo, rfl, fp, hm⟩; refine ⟨_, rfl, ?_⟩; intro lX fq; have fr := cc.callZ hm; have S := hm.ext.le
    replace H := H.mono S
    have fs : Mem B [] w0 Z0 ((.row b1 [.bool u0.neg, .slice ao2 u0.abs.length cap3] 107) :: Rr) fo i9 := fr
    have ft := fl (fp.small)
    refine s1 fq 9 (.slice fm (gaddS (gmulS b (gwordsS 10)) (gwordsS (wu64 (w64 (w8 ((u.toNat : Int) - 48)))))).length fn) ?_; intro lY fu
    apply e3
    refine j_ (t_ (rgB fu fs [] [] [(10, i6 (w64 (h + 1)))] ?_)); intro lZ ja
    exact d_ ⟨⟨(gaddS (gmulS b (gwordsS 10)) (gwordsS (wu64 (w64 (w8 ((u.toNat : Int) - 48)))))), w64 (h + 1), fm, fn, fo⟩, ⟨ft.1, fp, H⟩, ft.2, (ja.reg).anyβ _ (by kernel_rfl), fs.kp⟩
   refine sqB ay eU [] [] [(86, .bool ((decide ((u.toNat : Int) ≥ 97)) && (decide ((u.toNat : Int) ≤ 122))))] ?_; intro l0 aA
   refine c_ aA bl (fun _ jb => ?_) fun _ bm => ?_
   ·
    refine rgB aA eU [] [] [(11, i6 (w64 ((w64 (w8 ((u.toNat : Int) - 97))) + 10)))] ?_; intro l1 fv
    refine j_ (t_ (s_ (sqB fv eU [] [] [(110, .bool (decide ((w64 ((w64 (w8 ((u.toNat : Int) - 97))) + 10)) ≥ 10)))] ?_))); intro l2 cf
    obtain ⟨jc, jd⟩ := jb
    refine cy cf jc ?_
    refine sqB cf eU [] [] [(6, .pointer none), (7, .bool false)] ?_; intro l3 je
    exact r_ (h_ (i_ (h_ (h_ (i_ (h_ (ra2 je (.tuple #[.pointer none, .bool false]) ⟨(false, false, u0), ao2, cap3, bf, rfl, jd, a, D, eU.kp⟩)))))))
   refine sqB aA eU [] [] [(97, .bool ((decide ((u.toNat : Int) ≥ 65)) && (decide ((u.toNat : Int) ≤ 90))))] ?_; intro l4 aB
   refine c_ aB bm (fun _ jf => ?_) fun _ jj => ?_
   ·
    refine rgB aB eU [] [] [(11, i6 (w64 ((w64 (w8 ((u.toNat : Int) - 65))) + 10)))] ?_; intro l5 fw
    refine j_ (t_ (s_ (sqB fw eU [] [] [(110, .bool (decide ((w64 ((w64 (w8 ((u.toNat : Int) - 65))) + 10)) ≥ 10)))] ?_))); intro l6 ch
    obtain ⟨jg, jh⟩ := jf
    refine cy ch jg ?_
    refine sqB ch eU [] [] [(6, .pointer none), (7, .bool false)] ?_; intro l7 ji
    exact r_ (h_ (i_ (h_ (h_ (i_ (h_ (ra2 ji (.tuple #[.pointer none, .bool false]) ⟨(false, false, u0), ao2, cap3, bf, rfl, jh, a, D, eU.kp⟩)))))))
   refine l_ (j_ (t_ (s_ (sqB aB eU [] [] [(110, .bool true)] ?_)))); intro l8 ci
   refine cdT ci (by kernel_rfl) ?_
   refine sqB ci eU [] [] [(6, .pointer none), (7, .bool false)] ?_; intro l9 jk
   exact r_ (h_ (i_ (h_ (h_ (i_ (h_ (ra2 jk (.tuple #[.pointer none, .bool false]) ⟨(false, false, u0), ao2, cap3, bf, rfl, jj, a, D, eU.kp⟩)))))))
  refine x_ (y_ (y_ (z_ (t_ (sqH ?_))))); intro jl fy
  refine bt ax eU 3 [] [] [(120, pt b1 0), (121, .bool false), (122, .slice i b.length j)] ?_; intro ma fA
  refine ck fA 109 #[pt b1 0, .bool false, .slice i b.length j] ?_
  obtain ⟨cj, jm, fB⟩ := hxq fx
  have z := ggive_fun u0 false b b1 ao2 cap3 i j _ _ _ _ _ _ D f eU eU.fz; rw [jm] at z; refine z.mono ?_; rintro _ jn ⟨fC, fD, fE, rfl, bn, fF, hm⟩; refine ⟨_, rfl, ?_⟩; intro mb fG; have fH := hm
  replace a := Fz.le.trans a bn
  have fI : Mem B [] w0 Z0 ((.row b1 [.bool cj.neg, .slice fC cj.abs.length fD] 107) :: Rr) fE jn := fH
  have jo := fB (fF.small)
  refine bt fG fI 2 [] [] [(6, pt b1 0), (7, .bool true)] ?_; intro mc jp
  apply fy
  exact r_ (ra2 jp (.tuple #[pt b1 0, .bool true]) ⟨(true, true, cj), fC, fD, fE, rfl, jo, a, fF, fI.kp⟩)
 have fJ := aJ.reval (d := 16) (c := []) (v := .bool (decide ((u1.length : Int) > 0))) (by kernel_rfl) (.bool false) (by rw [af])
 refine bt fJ hM0 9 [] [17, 18, 19, 20, 21, 22, 23, 24, 25] [(25, .bool false)] ?_; intro md cl
 apply U
 refine cdF cl (by kernel_rfl) ?_
 refine k_ (s_ (sqB cl hM0 [] [] [(32, .bool false)] ?_)); intro me cm
 refine cdF cm (by kernel_rfl) ?_
 refine k_ (s_ (sqB cm hM0 [] [] [(66, .bool ((((u1.length : Int) == 0) || false) || false))] ?_)); intro mf aC
 refine c_ aC bo (fun _ jq => ?_) fun _ js => ?_
 ·
  refine sqB aC hM0 [] [] [(6, .pointer none), (7, .bool false)] ?_; intro mg jr
  exact r_ (h_ (ra2 jr (.tuple #[.pointer none, .bool false]) ⟨(false, false, u0), ao2, cap3, Z, rfl, jq, a, hs4, hM0.kp⟩))
 refine k_ (sqB aC hM0 [] [] [(9, .slice none 0 0)] ?_); intro mh fK
 refine s_ (sqB fK hM0 [] [] [(10, i6 0)] ?_); intro fL fM
 apply b_
 have fN : Fr 124 [] [⟨0, [], pt b1 0⟩, ⟨1, [], str u1⟩, ⟨2, [], i6 10⟩, ⟨8, [], .bool false⟩, ⟨9, [], .slice none 0 0⟩, ⟨10, [], i6 0⟩] fL := fM.reg
 obtain ⟨jt, ju, jv, jw⟩ := js
 refine lp (ι := (List Int) × Int × (Option Addr) × Nat × Fz) (fun s => [⟨0, [], pt b1 0⟩, ⟨1, [], str u1⟩, ⟨2, [], i6 10⟩, ⟨8, [], .bool false⟩, ⟨9, [], .slice s.2.2.1 s.1.length s.2.2.2.1⟩, ⟨10, [], i6 s.2.1⟩]) (fun s => ((.row b1 [.bool u0.neg, .slice ao2 u0.abs.length cap3] 107) :: Rr)) (fun s => s.2.2.2.2) (fun s => jt s.1 s.2.1 ∧ SlR (tyInt .u32) s.2.2.2.2 s.2.2.1 s.2.2.2.1 s.1 ∧ Fz.le Z s.2.2.2.2) (fun s => ju s.1 s.2.1) ⟨([] : List Int), 0, none, 0, Z⟩ ⟨jv, (SlR.nil _ _), Fz.le.refl _⟩ (by exact fN.reg) (by exact hM0) ?_
 rintro ⟨b, h, i, j, bp⟩ ⟨jx, f, I⟩ jy jz fP fQ
 have bq := jw b h jx
 replace a := Fz.le.trans a I
 have E := hs4.mono I
 refine s_ (sqB fP fQ [] [] [(70, .bool (decide (h < (u1.length : Int))))] ?_); intro mj aD
 refine c_ aD bq (fun _ jA => ?_) fun _ gt => ?_
 ·
  refine k_ (s_ (b_ (sqB aD fQ [] [] [(11, i6 99)] ?_))); intro mk fS
  refine s_ (sqH ?_); intro jB fT
  refine bt fS fQ 2 [] [] [(73, str u1), (74, i6 h)] ?_; intro ml fU
  obtain ⟨jC, jD⟩ := jA
  obtain ⟨y, fV⟩ : ∃ q, u1[h.toNat]? = some q := ⟨_, List.getElem?_eq_getElem (by omega)⟩; have br := jD y fV
  refine si fU .i64 jC.1 fV ?_; intro mm fW
  refine s1 fW 12 (y8 (y.toNat : Int)) ?_; intro mn fX
  apply fT
  refine b_ (sqB fX fQ [] [] [(76, .bool ((decide ((y.toNat : Int) ≥ 48)) && (decide ((y.toNat : Int) ≤ 57))))] ?_); intro mo aE
  refine c_ aE br (fun _ jE => ?_) fun _ bw => ?_
  ·
   refine rgB aE fQ [] [] [(11, i6 (w64 (w8 ((y.toNat : Int) - 48))))] ?_; intro mp fY
   refine j_ (t_ (s_ (sqB fY fQ [] [] [(110, .bool (decide ((w64 (w8 ((y.toNat : Int) - 48))) ≥ 10)))] ?_))); intro mq cr
   obtain ⟨jF, jG⟩ := jE
   refine cn cr jF ?_
   refine k_ (rgH ?_); intro jH fZ
   refine bt cr fQ 3 [] [] [(111, .slice i b.length j), (113, y6 10)] ?_; intro mr f0
   obtain ⟨jI, f1⟩ := jG
   refine ck f0 108 #[y6 10] ?_
   refine (gwords_fun 10 jI _ _ fQ.fz).mono ?_; rintro _ jJ ⟨f2, f3, jK, rfl, P, hm⟩; refine ⟨_, rfl, ?_⟩; intro ms f4; have f5 := fQ.callZ hm; have bs := hm.ext.le
   replace f := f.mono bs
   replace I := I.mono bs
   have cs : Mem B [] w0 Z0 ((.row b1 [.bool u0.neg, .slice ao2 u0.abs.length cap3] 107) :: Rr) jK jJ := f5
   obtain ⟨jM, f6⟩ := f1 (P.small)
   refine ck f4 107 #[.slice i b.length j, .slice f2 (gwordsS 10).length f3] ?_
   refine (gmul_fun b (gwordsS 10) jM i j f2 f3 _ _ f P cs.fz).mono ?_; rintro _ jN ⟨f7, f8, jO, rfl, ad, hm⟩; refine ⟨_, rfl, ?_⟩; intro mt f9; have ga := cs.callZ hm; have aF := hm.ext.le
   replace I := I.mono aF
   have bu : Mem B [] w0 Z0 ((.row b1 [.bool u0.neg, .slice ao2 u0.abs.length cap3] 107) :: Rr) jO jN := ga
   have jP := f6 (ad.small)
   refine bt f9 bu 2 [] [] [(117, y6 (wu64 (w64 (w8 ((y.toNat : Int) - 48)))))] ?_; intro mu gb
   obtain ⟨jQ, gc⟩ := jP
   refine ck gb 108 #[y6 (wu64 (w64 (w8 ((y.toNat : Int) - 48))))] ?_
   refine (gwords_fun (wu64 (w64 (w8 ((y.toNat : Int) - 48)))) jQ _ _ bu.fz).mono ?_; rintro _ jR ⟨gd, ge, jS, rfl, bv, hm⟩; refine ⟨_, rfl, ?_⟩; intro mv gf; have gg := bu.callZ hm; have ae := hm.ext.le
   replace I := I.mono ae
   replace ad := ad.mono ae
   have ct : Mem B [] w0 Z0 ((.row b1 [.bool u0.neg, .slice ao2 u0.abs.length cap3] 107) :: Rr) jS jR := gg
   obtain ⟨jU, gh⟩ := gc (bv.small)
   refine ck gf 106 #[.slice f7 (gmulS b (gwordsS 10)).length f8, .slice gd (gwordsS (wu64 (w64 (w8 ((y.toNat : Int) - 48))))).length ge] ?_
   refine (gadd_fun (gmulS b (gwordsS 10)) (gwordsS (wu64 (w64 (w8 ((y.toNat : Int) - 48))))) jU f7 f8 gd ge _ _ ad bv ct.fz).mono ?_; rintro _ jV ⟨gi, gj, gk, rfl, gl, hm⟩; refine ⟨_, rfl, ?_⟩; intro mw gm; have gn := ct.callZ hm; have T := hm.ext.le
   replace I := I.mono T
   have go : Mem B [] w0 Z0 ((.row b1 [.bool u0.neg, .slice ao2 u0.abs.length cap3] 107) :: Rr) gk jV := gn
   have gp := gh (gl.small)
   refine s1 gm 9 (.slice gi (gaddS (gmulS b (gwordsS 10)) (gwordsS (wu64 (w64 (w8 ((y.toNat : Int) - 48)))))).length gj) ?_; intro mx gq
   apply fZ
   refine j_ (t_ (rgB gq go [] [] [(10, i6 (w64 (h + 1)))] ?_)); intro my jW
   exact d_ ⟨⟨(gaddS (gmulS b (gwordsS 10)) (gwordsS (wu64 (w64 (w8 ((y.toNat : Int) - 48)))))), w64 (h + 1), gi, gj, gk⟩, ⟨gp.1, gl, I⟩, gp.2, (jW.reg).anyβ _ (by kernel_rfl), go.kp⟩
  refine sqB aE fQ [] [] [(86, .bool ((decide ((y.toNat : Int) ≥ 97)) && (decide ((y.toNat : Int) ≤ 122))))] ?_; intro mz aG
  refine c_ aG bw (fun _ jX => ?_) fun _ bx => ?_
  ·
   refine rgB aG fQ [] [] [(11, i6 (w64 ((w64 (w8 ((y.toNat : Int) - 97))) + 10)))] ?_; intro mA gr
   refine j_ (t_ (s_ (sqB gr fQ [] [] [(110, .bool (decide ((w64 ((w64 (w8 ((y.toNat : Int) - 97))) + 10)) ≥ 10)))] ?_))); intro mB cv
   obtain ⟨jY, jZ⟩ := jX
   refine cy cv jY ?_
   refine sqB cv fQ [] [] [(6, .pointer none), (7, .bool false)] ?_; intro mC j0
   exact r_ (h_ (i_ (h_ (h_ (i_ (h_ (ra2 j0 (.tuple #[.pointer none, .bool false]) ⟨(false, false, u0), ao2, cap3, bp, rfl, jZ, a, E, fQ.kp⟩)))))))
  refine sqB aG fQ [] [] [(97, .bool ((decide ((y.toNat : Int) ≥ 65)) && (decide ((y.toNat : Int) ≤ 90))))] ?_; intro mD aH
  refine c_ aH bx (fun _ j1 => ?_) fun _ j5 => ?_
  ·
   refine rgB aH fQ [] [] [(11, i6 (w64 ((w64 (w8 ((y.toNat : Int) - 65))) + 10)))] ?_; intro mE gs
   refine j_ (t_ (s_ (sqB gs fQ [] [] [(110, .bool (decide ((w64 ((w64 (w8 ((y.toNat : Int) - 65))) + 10)) ≥ 10)))] ?_))); intro mF cx
   obtain ⟨j2, j3⟩ := j1
   refine cy cx j2 ?_
   refine sqB cx fQ [] [] [(6, .pointer none), (7, .bool false)] ?_; intro mG j4
   exact r_ (h_ (i_ (h_ (h_ (i_ (h_ (ra2 j4 (.tuple #[.pointer none, .bool false]) ⟨(false, false, u0), ao2, cap3, bp, rfl, j3, a, E, fQ.kp⟩)))))))
  refine l_ (j_ (t_ (s_ (sqB aH fQ [] [] [(110, .bool true)] ?_)))); intro mH cz
  refine cdT cz (by kernel_rfl) ?_
  refine sqB cz fQ [] [] [(6, .pointer none), (7, .bool false)] ?_; intro mI j6
  exact r_ (h_ (i_ (h_ (h_ (i_ (h_ (ra2 j6 (.tuple #[.pointer none, .bool false]) ⟨(false, false, u0), ao2, cap3, bp, rfl, j5, a, E, fQ.kp⟩)))))))
 refine x_ (y_ (y_ (z_ (t_ (sqH ?_))))); intro j7 gu
 refine bt aD fQ 3 [] [] [(120, pt b1 0), (121, .bool false), (122, .slice i b.length j)] ?_; intro mJ gv
 refine ck gv 109 #[pt b1 0, .bool false, .slice i b.length j] ?_
 obtain ⟨cA, j8, gw⟩ := hxq gt
 have z := ggive_fun u0 false b b1 ao2 cap3 i j _ _ _ _ _ _ E f fQ fQ.fz; rw [j8] at z; refine z.mono ?_; rintro _ j9 ⟨gx, gy, gz, rfl, bz, gA, hm⟩; refine ⟨_, rfl, ?_⟩; intro mK gB; have gC := hm
 replace a := Fz.le.trans a bz
 have gD : Mem B [] w0 Z0 ((.row b1 [.bool cA.neg, .slice gx cA.abs.length gy] 107) :: Rr) gz j9 := gC
 have ka := gw (gA.small)
 refine bt gB gD 2 [] [] [(6, pt b1 0), (7, .bool true)] ?_; intro mL kb
 apply gu
 exact r_ (ra2 kb (.tuple #[pt b1 0, .bool true]) ⟨(true, true, cA), gx, gy, gz, rfl, ka, a, gA, gD.kp⟩)

theorem gtext_walk (u0 : BInt) (b1 : Nat) (ao2 : Option Addr) (cap3 : Nat) (B : Nat) (w0 : World) (Z0 : Fz) (Rr : List Res) (Z : Fz) (w : World) (hs4 : SlR (tyInt .u32) Z ao2 cap3 u0.abs) (hM0 : Mem B [] w0 Z0 ((.row b1 [.bool u0.neg, .slice ao2 u0.abs.length cap3] 107) :: Rr) Z w) (hZ : Z.on w) {K : ((List UInt8) × BInt) → Prop} (hp : gtext_vc u0 K) : Calls Tryz.prog 112 #[pt b1 0, i6 10] w fun e w' => ∃ (r : (List UInt8) × BInt) (ao1001 : Option Addr) (cap1002 : Nat) (Z' : Fz), e = .returned (str r.1) ∧ K r ∧ Fz.le Z Z' ∧ SlR (tyInt .u32) Z' ao1001 cap1002 r.2.abs ∧ Mem B [] w0 Z0 ((.row b1 [.bool r.2.neg, .slice ao1001 r.2.abs.length cap1002] 107) :: Rr) Z' w' := by
 refine enter0 Tryz.func112 rfl rfl (by kernel_rfl) ?_; intro a0 aO; have z := Fz.le.refl Z
 have V := hp (hs4.small)
 refine sqB aO hM0 [] [] [] ?_; intro a7 aP
 refine s_ (sqB aP hM0 [] [] [(12, .bool false)] ?_); intro ez am
 refine cdF am (by kernel_rfl) ?_
 refine k_ (s_ (sqB am hM0 [0] [] [(18, .bool ((u0.abs.length : Int) == 0))] ?_)); intro eA J
 refine c_ J V (fun _ cD => ?_) fun _ cF => ?_
 ·
  refine sqB J hM0 [] [] [(4, str ([48] : List UInt8))] ?_; intro eB cE
  exact r_ (h_ (ra1 cE (str ([48] : List UInt8)) ⟨(([48] : List UInt8), u0), ao2, cap3, Z, rfl, cD, z, hs4, hM0.kp⟩))
 refine k_ (sqB J hM0 [] [] [(5, .slice none 0 0)] ?_); intro eC aQ
 refine s_ (sqH ?_); intro cG aR
 refine bt aQ hM0 4 [0] [] [(22, .slice ao2 u0.abs.length cap3)] ?_; intro eD aS
 obtain ⟨cH, aT⟩ := cF
 refine ck aS 136 #[.slice ao2 u0.abs.length cap3] ?_
 refine (gtwin_fun u0.abs cH ao2 cap3 _ _ hs4 hM0.fz).mono ?_; rintro _ aq ⟨L, M, cI, rfl, hm⟩; refine ⟨_, rfl, ?_⟩; intro eE aU; have aV := hM0.callZ hm; have aW := hm.ext.le
 replace hs4 := hs4.mono aW
 replace z := Fz.le.trans z aW
 have aX : Mem B [] w0 Z0 ((.own (tyInt .u32) 97 L M (gtwinS u0.abs)) :: (.row b1 [.bool u0.neg, .slice ao2 u0.abs.length cap3] 107) :: Rr) cI aq := aV
 have cJ := aT (aX.ownSmall 0 rfl)
 refine s1 aU 6 (.slice L (gtwinS u0.abs).length M) ?_; intro aY aZ
 apply aR
 apply b_
 have a1 : Fr 83 [] [⟨0, [], pt b1 0⟩, ⟨1, [], i6 10⟩, ⟨5, [], .slice none 0 0⟩, ⟨6, [], .slice L (gtwinS u0.abs).length M⟩] aY := aZ.reg
 obtain ⟨W, a2, a3, a4⟩ := aX.freeze 0 rfl
 replace hs4 := hs4.mono a2
 replace z := Fz.le.trans z a2
 have a5 : Mem B [] w0 Z0 ((.row b1 [.bool u0.neg, .slice ao2 u0.abs.length cap3] 107) :: Rr) W aq := a3
 have a6 : Mem B [] w0 Z0 ((.own t8 5 none 0 ([] : List Int)) :: (.row b1 [.bool u0.neg, .slice ao2 u0.abs.length cap3] 107) :: Rr) W aq := a5.addNil t8 5 (by decide)
 have a8 : Fr 83 [] [⟨0, [], pt b1 0⟩, ⟨1, [], i6 10⟩, ⟨5, [], .slice none ([] : List Int).length 0⟩, ⟨6, [], .slice L (gtwinS u0.abs).length M⟩] aY := a1.reg
 obtain ⟨cK, cL, cM, cN⟩ := cJ
 refine lp (ι := (List Int) × (List Int) × (Option Addr) × Nat × (Option Addr) × Nat × Fz) (fun s => [⟨0, [], pt b1 0⟩, ⟨1, [], i6 10⟩, ⟨5, [], .slice s.2.2.1 s.1.length s.2.2.2.1⟩, ⟨6, [], .slice s.2.2.2.2.1 s.2.1.length s.2.2.2.2.2.1⟩]) (fun s => ((.own t8 5 s.2.2.1 s.2.2.2.1 s.1) :: (.row b1 [.bool u0.neg, .slice ao2 u0.abs.length cap3] 107) :: Rr)) (fun s => s.2.2.2.2.2.2) (fun s => cK s.1 s.2.1 ∧ SlR (tyInt .u32) s.2.2.2.2.2.2 s.2.2.2.2.1 s.2.2.2.2.2.1 s.2.1 ∧ Fz.le W s.2.2.2.2.2.2) (fun s => cL s.1 s.2.1) ⟨([] : List Int), (gtwinS u0.abs), none, 0, L, M, W⟩ ⟨cM, a4, Fz.le.refl _⟩ (by exact a8.reg) (by exact a6) ?_
 rintro ⟨h, j, q, i, X, Y, A⟩ ⟨cO, ar, H⟩ cP cQ a9 ba
 have aa := cN h j cO
 replace z := Fz.le.trans z H
 have ab := hs4.mono H
 refine s_ (sqB a9 ba [] [] [(26, .bool (decide ((j.length : Int) > 0)))] ?_); intro eG N
 refine c_ N aa (fun _ cR => ?_) fun _ ad => ?_
 ·
  refine k_ (b_ (sqB N ba [] [] [] ?_)); intro eH bd
  refine sqH ?_; intro cS be
  refine bt bd ba 3 [] [] [(28, .slice X j.length Y), (30, .int .u32 10)] ?_; intro eI bf
  obtain ⟨cT, bg⟩ := cR
  refine ck bf 137 #[.slice X j.length Y, .int .u32 10] ?_
  refine (gsmall_fun j 10 cT X Y _ _ ar ba.fz).mono ?_; rintro _ cU ⟨av, aw, O, rfl, ax, hm⟩; refine ⟨_, rfl, ?_⟩; intro eJ bh; have bi := ba.callZ hm; have P := hm.ext.le
  replace H := H.mono P
  have G : Mem B [] w0 Z0 ((.own t8 5 q i h) :: (.row b1 [.bool u0.neg, .slice ao2 u0.abs.length cap3] 107) :: Rr) O cU := bi
  have ac := bg (ax.small)
  refine bt bh G 5 [] [] [(6, .slice av (gsmallS j 10).1.length aw), (7, .int .u32 (gsmallS j 10).2)] ?_; intro eK bj
  apply be
  refine sqB bj G [] [] [(35, .bool (decide ((gsmallS j 10).2 < 10)))] ?_; intro eL Q
  refine c_ Q ac (fun _ cV => ?_) fun _ c1 => ?_
  ·
   refine rgH ?_; intro cW bk
   refine bt Q G 4 [] [] [(36, .slice q h.length i), (39, y8 (w8 (wu32 (48 + (gsmallS j 10).2))))] ?_; intro eM bl
   refine nw bl G (fun b => .slice (sm b) 1 1) [y8 (w8 (wu32 (48 + (gsmallS j 10).2)))] 5 ?_; intro bm eN eO bn az
   obtain ⟨cX, bo⟩ := cV
   refine ap bn az 1 (T := t8) (xs := h) (ys := [w8 (wu32 (48 + (gsmallS j 10).2))]) (ao := q) (cap := i) (ao2 := (sm bm)) (cap2 := 1) (t := 32) (e := 5) (bytes := 1) (nog rfl _) rfl (by kernel_rfl) rfl (by kernel_rfl) (by kernel_rfl) (by kernel_rfl) rfl (Src.row az 0 rfl (RepAll.one (T := t8) (x := (w8 (wu32 (48 + (gsmallS j 10).2)))) rfl)) cX ?_; intro aA aB eP cY eQ bp bq
   have cZ : Mem B [] w0 Z0 ((.row bm [y8 (w8 (wu32 (48 + (gsmallS j 10).2)))] 5) :: (.own t8 5 aA aB (h ++ [w8 (wu32 (48 + (gsmallS j 10).2))])) :: (.row b1 [.bool u0.neg, .slice ao2 u0.abs.length cap3] 107) :: Rr) O cY := bq
   refine s1 bp 5 (.slice aA (h ++ [w8 (wu32 (48 + (gsmallS j 10).2))]).length aB) ?_; intro eR c0
   apply bk
   exact j_ (d_ ⟨⟨h ++ [w8 (wu32 (48 + (gsmallS j 10).2))], (gsmallS j 10).1, aA, aB, av, aw, O⟩, ⟨bo.1, ax, H⟩, bo.2, (c0.reg).anyβ _ (by kernel_rfl), cZ.kp⟩)
  refine rgH ?_; intro c2 br
  refine bt Q G 5 [] [] [(42, .slice q h.length i), (46, y8 (w8 (wu32 ((wu32 (97 + (gsmallS j 10).2)) - 10))))] ?_; intro eS bs
  refine nw bs G (fun b => .slice (sm b) 1 1) [y8 (w8 (wu32 ((wu32 (97 + (gsmallS j 10).2)) - 10)))] 5 ?_; intro bu eT eU bv aC
  obtain ⟨c3, bw⟩ := c1
  refine ap bv aC 1 (T := t8) (xs := h) (ys := [w8 (wu32 ((wu32 (97 + (gsmallS j 10).2)) - 10))]) (ao := q) (cap := i) (ao2 := (sm bu)) (cap2 := 1) (t := 32) (e := 5) (bytes := 1) (nog rfl _) rfl (by kernel_rfl) rfl (by kernel_rfl) (by kernel_rfl) (by kernel_rfl) rfl (Src.row aC 0 rfl (RepAll.one (T := t8) (x := (w8 (wu32 ((wu32 (97 + (gsmallS j 10).2)) - 10)))) rfl)) c3 ?_; intro aD aE eV c4 eW bx bz
  have c5 : Mem B [] w0 Z0 ((.row bu [y8 (w8 (wu32 ((wu32 (97 + (gsmallS j 10).2)) - 10)))] 5) :: (.own t8 5 aD aE (h ++ [w8 (wu32 ((wu32 (97 + (gsmallS j 10).2)) - 10))])) :: (.row b1 [.bool u0.neg, .slice ao2 u0.abs.length cap3] 107) :: Rr) O c4 := bz
  refine s1 bx 5 (.slice aD (h ++ [w8 (wu32 ((wu32 (97 + (gsmallS j 10).2)) - 10))]).length aE) ?_; intro eX c6
  apply br
  exact j_ (d_ ⟨⟨h ++ [w8 (wu32 ((wu32 (97 + (gsmallS j 10).2)) - 10))], (gsmallS j 10).1, aD, aE, av, aw, O⟩, ⟨bw.1, ax, H⟩, bw.2, (c6.reg).anyβ _ (by kernel_rfl), c5.kp⟩)
 refine x_ (y_ (y_ (z_ (t_ (s_ (sqB N ba [1] [] [(52, .bool u0.neg)] ?_)))))); intro eY R
 refine c_ R ad (fun _ c7 => ?_) fun _ dT => ?_
 ·
  refine rgH ?_; intro c8 bA
  refine s1 R 53 (.slice q h.length i) ?_; intro eZ bB
  refine nw bB ba (fun b => .slice (sm b) 1 1) [y8 45] 5 ?_; intro I e0 e1 bC aG
  obtain ⟨c9, da⟩ := c7
  refine ap bC aG 1 (T := t8) (xs := h) (ys := [45]) (ao := q) (cap := i) (ao2 := (sm I)) (cap2 := 1) (t := 32) (e := 5) (bytes := 1) (nog rfl _) rfl (by kernel_rfl) rfl (by kernel_rfl) (by kernel_rfl) (by kernel_rfl) rfl (Src.row aG 0 rfl (RepAll.one (T := t8) (x := 45) rfl)) c9 ?_; intro F l e2 db e3 bD bE
  have aH : Mem B [] w0 Z0 ((.row I [y8 45] 5) :: (.own t8 5 F l (h ++ [45])) :: (.row b1 [.bool u0.neg, .slice ao2 u0.abs.length cap3] 107) :: Rr) A db := bE
  refine s1 bD 5 (.slice F (h ++ [45]).length l) ?_; intro e4 bF
  apply bA
  refine t_ (s_ (sqB bF aH [] [] [(8, i6 0), (9, i6 (w64 (((h ++ [45]).length : Int) - 1)))] ?_)); intro bG bH
  apply b_
  have bI : Fr 83 [] [⟨5, [], .slice F (h ++ [45]).length l⟩, ⟨8, [], i6 0⟩, ⟨9, [], i6 (w64 (((h ++ [45]).length : Int) - 1))⟩] bG := bH.reg
  obtain ⟨dc, dd, de, df⟩ := da
  refine lp (ι := Int × Int × (List Int)) (fun s => [⟨5, [], .slice F s.2.2.length l⟩, ⟨8, [], i6 s.1⟩, ⟨9, [], i6 s.2.1⟩]) (fun s => ((.row I [y8 45] 5) :: (.own t8 5 F l s.2.2) :: (.row b1 [.bool u0.neg, .slice ao2 u0.abs.length cap3] 107) :: Rr)) (fun s => A) (fun s => dc s.1 s.2.1 s.2.2) (fun s => dd s.1 s.2.1 s.2.2) ⟨0, w64 (((h ++ [45]).length : Int) - 1), h ++ [45]⟩ de (by exact bI.reg) (by exact aH) ?_
  rintro ⟨a, c, d⟩ dg dh di bK bL
  have ae := df a c d dg
  refine s_ (sqB bK bL [] [] [(61, .bool (decide (a < c)))] ?_); intro e5 S
  refine c_ S ae (fun _ dj => ?_) fun _ dP => ?_
  ·
   refine k_ (s_ (b_ (sqH ?_))); intro dk bN
   refine bt S bL 2 [] [] [(66, .slice F d.length l), (67, i6 a)] ?_; intro e6 bO
   obtain ⟨dl, bP⟩ := dj
   refine ixo bO bL 1 (T := t8) (xs := d) a dl (k := .i64) (e := 5) (bytes := 1) (nog rfl _) rfl (by kernel_rfl) rfl (by kernel_rfl) (by kernel_rfl) rfl (by kernel_rfl) ?_; intro m e7 dm bQ
   subst dm
   obtain ⟨v, dn, dp⟩ := gxq bP (by first | omega | (simp only [List.length_set] at *; omega))
   obtain ⟨dq, dr, ds⟩ := own_el bL 1 (T := t8) (xs := d) rfl a.toNat dn
   obtain rfl : dq = ([y8 v] : List Value) := dr
   refine lc1 bQ 69 (y8 v) (ds 0 _ rfl) rfl ?_; intro e8 bR
   refine s1 bR 10 (y8 v) ?_; intro e9 bS
   apply bN
   refine sqH ?_; intro dt bT
   refine bt bS bL 4 [] [] [(70, .slice (sm m) d.length l), (71, i6 a), (72, .slice (sm m) d.length l), (73, i6 c)] ?_; intro fa bU
   obtain ⟨du, bV⟩ := dp
   refine ixo bU bL 1 (T := t8) (xs := d) c du (k := .i64) (e := 5) (bytes := 1) (nog rfl _) rfl (by kernel_rfl) rfl (by kernel_rfl) (by kernel_rfl) rfl (by kernel_rfl) ?_; intro dv fb dw bW
   obtain rfl : m = dv := by simpa using dw
   obtain ⟨o, dx, dy⟩ := gxq bV (by first | omega | (simp only [List.length_set] at *; omega))
   obtain ⟨dz, dA, dB⟩ := own_el bL 1 (T := t8) (xs := d) rfl c.toNat dx
   obtain rfl : dz = ([y8 o] : List Value) := dA
   refine lc1 bW 75 (y8 o) (dB 0 _ rfl) rfl ?_; intro fc bX
   obtain ⟨dC, dD⟩ := dy
   refine ixo bX bL 1 (T := t8) (xs := d) a dC (k := .i64) (e := 5) (bytes := 1) (nog rfl _) rfl (by kernel_rfl) rfl (by kernel_rfl) (by kernel_rfl) rfl (by kernel_rfl) ?_; intro dE dF dG af
   obtain rfl : m = dE := by simpa using dG
   refine so af bL 1 (T := t8) (xs := d) a.toNat o (u := y8 o) (nog rfl _) rfl rfl (by kernel_rfl) rfl (by kernel_rfl) rfl (by kernel_rfl) (by first | omega | (simp only [List.length_set] at *; omega)) rfl ?_; intro dH bY
   have bZ : Fr 83 [] [⟨5, [], .slice (sm m) (d.set a.toNat o).length l⟩, ⟨8, [], i6 a⟩, ⟨9, [], i6 c⟩, ⟨10, [], y8 v⟩, ⟨61, [], .bool (decide (a < c))⟩, ⟨66, [], .slice (sm m) (d.set a.toNat o).length l⟩, ⟨67, [], i6 a⟩, ⟨68, [], .pointer (some ⟨m, a.toNat * 1, none⟩)⟩, ⟨69, [], y8 v⟩, ⟨70, [], .slice (sm m) (d.set a.toNat o).length l⟩, ⟨71, [], i6 a⟩, ⟨72, [], .slice (sm m) (d.set a.toNat o).length l⟩, ⟨73, [], i6 c⟩, ⟨74, [], .pointer (some ⟨m, c.toNat * 1, none⟩)⟩, ⟨75, [], y8 o⟩, ⟨76, [], .pointer (some ⟨m, a.toNat * 1, none⟩)⟩] dF := by (try simp only [List.length_set] at af); (try simp only [List.length_set]); exact af.reg
   have ag : Mem B [] w0 Z0 ((.row I [y8 45] 5) :: (.own t8 5 (sm m) l (d.set a.toNat o)) :: (.row b1 [.bool u0.neg, .slice ao2 u0.abs.length cap3] 107) :: Rr) A dH := bY
   apply bT
   refine rgH ?_; intro dI b0
   refine bt bZ ag 3 [] [] [(77, .slice (sm m) (d.set a.toNat o).length l), (78, i6 c), (79, y8 v)] ?_; intro fd b2
   obtain ⟨dJ, b3⟩ := dD
   refine ixo b2 ag 1 (T := t8) (xs := d.set a.toNat o) c dJ (k := .i64) (e := 5) (bytes := 1) (nog rfl _) rfl (by kernel_rfl) rfl (by kernel_rfl) (by kernel_rfl) rfl (by kernel_rfl) ?_; intro dK dL dM ah
   obtain rfl : m = dK := by simpa using dM
   refine so ah ag 1 (T := t8) (xs := d.set a.toNat o) c.toNat v (u := y8 v) (nog rfl _) rfl rfl (by kernel_rfl) rfl (by kernel_rfl) rfl (by kernel_rfl) (by first | omega | (simp only [List.length_set] at *; omega)) rfl ?_; intro dN b4
   have b5 : Fr 83 [] [⟨5, [], .slice (sm m) ((d.set a.toNat o).set c.toNat v).length l⟩, ⟨8, [], i6 a⟩, ⟨9, [], i6 c⟩, ⟨10, [], y8 v⟩, ⟨61, [], .bool (decide (a < c))⟩, ⟨66, [], .slice (sm m) ((d.set a.toNat o).set c.toNat v).length l⟩, ⟨67, [], i6 a⟩, ⟨68, [], .pointer (some ⟨m, a.toNat * 1, none⟩)⟩, ⟨69, [], y8 v⟩, ⟨70, [], .slice (sm m) ((d.set a.toNat o).set c.toNat v).length l⟩, ⟨71, [], i6 a⟩, ⟨72, [], .slice (sm m) ((d.set a.toNat o).set c.toNat v).length l⟩, ⟨73, [], i6 c⟩, ⟨74, [], .pointer (some ⟨m, c.toNat * 1, none⟩)⟩, ⟨75, [], y8 o⟩, ⟨76, [], .pointer (some ⟨m, a.toNat * 1, none⟩)⟩, ⟨77, [], .slice (sm m) ((d.set a.toNat o).set c.toNat v).length l⟩, ⟨78, [], i6 c⟩, ⟨79, [], y8 v⟩, ⟨80, [], .pointer (some ⟨m, c.toNat * 1, none⟩)⟩] dL := by (try simp only [List.length_set] at ah); (try simp only [List.length_set]); exact ah.reg
   have b6 : Mem B [] w0 Z0 ((.row I [y8 45] 5) :: (.own t8 5 (sm m) l ((d.set a.toNat o).set c.toNat v)) :: (.row b1 [.bool u0.neg, .slice ao2 u0.abs.length cap3] 107) :: Rr) A dN := b4
   apply b0
   refine j_ (t_ (rgB b5 b6 [] [] [(8, i6 (w64 (a + 1))), (9, i6 (w64 (c - 1)))] ?_)); intro fe dO
   exact d_ ⟨⟨w64 (a + 1), w64 (c - 1), (d.set a.toNat o).set c.toNat v⟩, b3.1, b3.2, (dO.reg).anyβ _ (by kernel_rfl), b6.kp⟩
  refine x_ (y_ (y_ (z_ (t_ (sqH ?_))))); intro dQ b7
  refine s1 S 81 (.slice F d.length l) ?_; intro ff aJ
  refine u_ aJ (str (bstr d)) ((by obtain ⟨Z9, dR, aK, aL⟩ := bL.lend 1 rfl; exact bstr_op aJ (g := []) (e := 5) (ao := F) (cap := l) (xs := d) rfl (by kernel_rfl) (by kernel_rfl) (by kernel_rfl) (by kernel_rfl)  aL aK rfl)) ?_; intro fg b8
  refine s1 b8 4 (str (bstr d)) ?_; intro fh dS
  apply b7
  exact r_ (ra1 dS (str (bstr d)) ⟨(bstr d, u0), ao2, cap3, A, rfl, dP, z, ab, bL.kp⟩)
 refine k_ (s_ (sqB R ba [] [] [(8, i6 0), (9, i6 (w64 ((h.length : Int) - 1)))] ?_)); intro b9 ca
 apply b_
 have cb : Fr 83 [] [⟨5, [], .slice q h.length i⟩, ⟨8, [], i6 0⟩, ⟨9, [], i6 (w64 ((h.length : Int) - 1))⟩] b9 := ca.reg
 obtain ⟨dU, dV, dW, dX⟩ := dT
 refine lp (ι := Int × Int × (List Int)) (fun s => [⟨5, [], .slice q s.2.2.length i⟩, ⟨8, [], i6 s.1⟩, ⟨9, [], i6 s.2.1⟩]) (fun s => ((.own t8 5 q i s.2.2) :: (.row b1 [.bool u0.neg, .slice ao2 u0.abs.length cap3] 107) :: Rr)) (fun s => A) (fun s => dU s.1 s.2.1 s.2.2) (fun s => dV s.1 s.2.1 s.2.2) ⟨0, w64 ((h.length : Int) - 1), h⟩ dW (by exact cb.reg) (by exact ba) ?_
 rintro ⟨a, c, f⟩ dY dZ d0 ce cf
 have ai := dX a c f dY
 refine s_ (sqB ce cf [] [] [(61, .bool (decide (a < c)))] ?_); intro fi U
 refine c_ U ai (fun _ d1 => ?_) fun _ ew => ?_
 ·
  refine k_ (s_ (b_ (sqH ?_))); intro d2 ch
  refine bt U cf 2 [] [] [(66, .slice q f.length i), (67, i6 a)] ?_; intro fj ci
  obtain ⟨d3, cj⟩ := d1
  refine ixo ci cf 0 (T := t8) (xs := f) a d3 (k := .i64) (e := 5) (bytes := 1) (nog rfl _) rfl (by kernel_rfl) rfl (by kernel_rfl) (by kernel_rfl) rfl (by kernel_rfl) ?_; intro n fk d4 cl
  subst d4
  obtain ⟨y, d5, d6⟩ := gxq cj (by first | omega | (simp only [List.length_set] at *; omega))
  obtain ⟨d7, d8, d9⟩ := own_el cf 0 (T := t8) (xs := f) rfl a.toNat d5
  obtain rfl : d7 = ([y8 y] : List Value) := d8
  refine lc1 cl 69 (y8 y) (d9 0 _ rfl) rfl ?_; intro fl cm
  refine s1 cm 10 (y8 y) ?_; intro fm cn
  apply ch
  refine sqH ?_; intro ea co
  refine bt cn cf 4 [] [] [(70, .slice (sm n) f.length i), (71, i6 a), (72, .slice (sm n) f.length i), (73, i6 c)] ?_; intro fn cp
  obtain ⟨eb, cq⟩ := d6
  refine ixo cp cf 0 (T := t8) (xs := f) c eb (k := .i64) (e := 5) (bytes := 1) (nog rfl _) rfl (by kernel_rfl) rfl (by kernel_rfl) (by kernel_rfl) rfl (by kernel_rfl) ?_; intro ec fo ed cr
  obtain rfl : n = ec := by simpa using ed
  obtain ⟨p, ee, ef⟩ := gxq cq (by first | omega | (simp only [List.length_set] at *; omega))
  obtain ⟨eg, eh, ei⟩ := own_el cf 0 (T := t8) (xs := f) rfl c.toNat ee
  obtain rfl : eg = ([y8 p] : List Value) := eh
  refine lc1 cr 75 (y8 p) (ei 0 _ rfl) rfl ?_; intro fp cs
  obtain ⟨ej, ek⟩ := ef
  refine ixo cs cf 0 (T := t8) (xs := f) a ej (k := .i64) (e := 5) (bytes := 1) (nog rfl _) rfl (by kernel_rfl) rfl (by kernel_rfl) (by kernel_rfl) rfl (by kernel_rfl) ?_; intro el em en aj
  obtain rfl : n = el := by simpa using en
  refine so aj cf 0 (T := t8) (xs := f) a.toNat p (u := y8 p) (nog rfl _) rfl rfl (by kernel_rfl) rfl (by kernel_rfl) rfl (by kernel_rfl) (by first | omega | (simp only [List.length_set] at *; omega)) rfl ?_; intro eo ct
  have cu : Fr 83 [] [⟨5, [], .slice (sm n) (f.set a.toNat p).length i⟩, ⟨8, [], i6 a⟩, ⟨9, [], i6 c⟩, ⟨10, [], y8 y⟩, ⟨61, [], .bool (decide (a < c))⟩, ⟨66, [], .slice (sm n) (f.set a.toNat p).length i⟩, ⟨67, [], i6 a⟩, ⟨68, [], .pointer (some ⟨n, a.toNat * 1, none⟩)⟩, ⟨69, [], y8 y⟩, ⟨70, [], .slice (sm n) (f.set a.toNat p).length i⟩, ⟨71, [], i6 a⟩, ⟨72, [], .slice (sm n) (f.set a.toNat p).length i⟩, ⟨73, [], i6 c⟩, ⟨74, [], .pointer (some ⟨n, c.toNat * 1, none⟩)⟩, ⟨75, [], y8 p⟩, ⟨76, [], .pointer (some ⟨n, a.toNat * 1, none⟩)⟩] em := by (try simp only [List.length_set] at aj); (try simp only [List.length_set]); exact aj.reg
  have ak : Mem B [] w0 Z0 ((.own t8 5 (sm n) i (f.set a.toNat p)) :: (.row b1 [.bool u0.neg, .slice ao2 u0.abs.length cap3] 107) :: Rr) A eo := ct
  apply co
  refine rgH ?_; intro ep cv
  refine bt cu ak 3 [] [] [(77, .slice (sm n) (f.set a.toNat p).length i), (78, i6 c), (79, y8 y)] ?_; intro fq cw
  obtain ⟨eq, cx⟩ := ek
  refine ixo cw ak 0 (T := t8) (xs := f.set a.toNat p) c eq (k := .i64) (e := 5) (bytes := 1) (nog rfl _) rfl (by kernel_rfl) rfl (by kernel_rfl) (by kernel_rfl) rfl (by kernel_rfl) ?_; intro er es et al
  obtain rfl : n = er := by simpa using et
  refine so al ak 0 (T := t8) (xs := f.set a.toNat p) c.toNat y (u := y8 y) (nog rfl _) rfl rfl (by kernel_rfl) rfl (by kernel_rfl) rfl (by kernel_rfl) (by first | omega | (simp only [List.length_set] at *; omega)) rfl ?_; intro eu cy
  have cz : Fr 83 [] [⟨5, [], .slice (sm n) ((f.set a.toNat p).set c.toNat y).length i⟩, ⟨8, [], i6 a⟩, ⟨9, [], i6 c⟩, ⟨10, [], y8 y⟩, ⟨61, [], .bool (decide (a < c))⟩, ⟨66, [], .slice (sm n) ((f.set a.toNat p).set c.toNat y).length i⟩, ⟨67, [], i6 a⟩, ⟨68, [], .pointer (some ⟨n, a.toNat * 1, none⟩)⟩, ⟨69, [], y8 y⟩, ⟨70, [], .slice (sm n) ((f.set a.toNat p).set c.toNat y).length i⟩, ⟨71, [], i6 a⟩, ⟨72, [], .slice (sm n) ((f.set a.toNat p).set c.toNat y).length i⟩, ⟨73, [], i6 c⟩, ⟨74, [], .pointer (some ⟨n, c.toNat * 1, none⟩)⟩, ⟨75, [], y8 p⟩, ⟨76, [], .pointer (some ⟨n, a.toNat * 1, none⟩)⟩, ⟨77, [], .slice (sm n) ((f.set a.toNat p).set c.toNat y).length i⟩, ⟨78, [], i6 c⟩, ⟨79, [], y8 y⟩, ⟨80, [], .pointer (some ⟨n, c.toNat * 1, none⟩)⟩] es := by (try simp only [List.length_set] at al); (try simp only [List.length_set]); exact al.reg
  have cA : Mem B [] w0 Z0 ((.own t8 5 (sm n) i ((f.set a.toNat p).set c.toNat y)) :: (.row b1 [.bool u0.neg, .slice ao2 u0.abs.length cap3] 107) :: Rr) A eu := cy
  apply cv
  refine j_ (t_ (rgB cz cA [] [] [(8, i6 (w64 (a + 1))), (9, i6 (w64 (c - 1)))] ?_)); intro fr ev
  exact d_ ⟨⟨w64 (a + 1), w64 (c - 1), (f.set a.toNat p).set c.toNat y⟩, cx.1, cx.2, (ev.reg).anyβ _ (by kernel_rfl), cA.kp⟩
 refine x_ (y_ (y_ (z_ (t_ (sqH ?_))))); intro ex cB
 refine s1 U 81 (.slice q f.length i) ?_; intro fs aN
 refine u_ aN (str (bstr f)) ((by obtain ⟨Z9, dR, aK, aL⟩ := cf.lend 0 rfl; exact bstr_op aN (g := []) (e := 5) (ao := q) (cap := i) (xs := f) rfl (by kernel_rfl) (by kernel_rfl) (by kernel_rfl) (by kernel_rfl)  aL aK rfl)) ?_; intro ft cC
 refine s1 cC 4 (str (bstr f)) ?_; intro fu ey
 apply cB
 exact r_ (ra1 ey (str (bstr f)) ⟨(bstr f, u0), ao2, cap3, A, rfl, ew, z, ab, cf.kp⟩)

end Go.Proofs.YtdenmllkjdijlaaGreatDoor
set_option linter.unusedVariables false
set_option linter.unusedSimpArgs false
set_option linter.defProp false
set_option maxRecDepth 100000
set_option maxHeartbeats 0
namespace Go.Proofs.YtdenmllkjdijlaaGreatDoor
open Go.Sy Go.RowKit
def gint64_fun (u0 : BInt) (hpre : wok u0.abs) (b1 : Nat) (ao2 : Option Addr) (cap3 : Nat) (B : Nat) (w0 : World) (Z0 : Fz) (Rr : List Res) (Z : Fz) (w : World) (hs4 : SlR (tyInt .u32) Z ao2 cap3 u0.abs) (hM0 : Mem B [] w0 Z0 ((.row b1 [.bool u0.neg, .slice ao2 u0.abs.length cap3] 107) :: Rr) Z w) (hZ : Z.on w) := fc_ (gint64_walk u0 b1 ao2 cap3 B w0 Z0 Rr Z w hs4 hM0 hZ (gint64_okD u0 hpre))
def gtz_fun (u0 : BInt) (hpre : u0.abs = ws (wv u0.abs) ∧ u0.abs.length ≤ 2) (b1 : Nat) (ao2 : Option Addr) (cap3 : Nat) (B : Nat) (w0 : World) (Z0 : Fz) (Rr : List Res) (Z : Fz) (w : World) (hs4 : SlR (tyInt .u32) Z ao2 cap3 u0.abs) (hM0 : Mem B [] w0 Z0 ((.row b1 [.bool u0.neg, .slice ao2 u0.abs.length cap3] 107) :: Rr) Z w) (hZ : Z.on w) := fc_ (gtz_walk u0 b1 ao2 cap3 B w0 Z0 Rr Z w hs4 hM0 hZ (gtz_ok u0 hpre))
def gtext_fun (u0 : BInt) (hpre : u0.abs = ws (wv u0.abs) ∧ u0.abs.length ≤ 100000) (b1 : Nat) (ao2 : Option Addr) (cap3 : Nat) (B : Nat) (w0 : World) (Z0 : Fz) (Rr : List Res) (Z : Fz) (w : World) (hs4 : SlR (tyInt .u32) Z ao2 cap3 u0.abs) (hM0 : Mem B [] w0 Z0 ((.row b1 [.bool u0.neg, .slice ao2 u0.abs.length cap3] 107) :: Rr) Z w) (hZ : Z.on w) := fc_ (gtext_walk u0 b1 ao2 cap3 B w0 Z0 Rr Z w hs4 hM0 hZ (gtext_ok u0 hpre))
theorem gisint_walk (u0 : BInt) (b1 : Nat) (ao2 : Option Addr) (cap3 : Nat) (B : Nat) (w0 : World) (Z0 : Fz) (Rr : List Res) (Z : Fz) (w : World) (hs4 : SlR (tyInt .u32) Z ao2 cap3 u0.abs) (hM0 : Mem B [] w0 Z0 ((.row b1 [.bool u0.neg, .slice ao2 u0.abs.length cap3] 107) :: Rr) Z w) (hZ : Z.on w) {K : (Bool × BInt) → Prop} (hp : gisint_vc u0 K) : Calls Tryz.prog 61 #[pt b1 0] w fun e w' => ∃ (r : Bool × BInt) (ao1001 : Option Addr) (cap1002 : Nat) (Z' : Fz), e = .returned (.bool r.1) ∧ K r ∧ Fz.le Z Z' ∧ SlR (tyInt .u32) Z' ao1001 cap1002 r.2.abs ∧ Mem B [] w0 Z0 ((.row b1 [.bool r.2.neg, .slice ao1001 r.2.abs.length cap1002] 107) :: Rr) Z' w' := by
 refine enter0 Tryz.func61 rfl rfl (by kernel_rfl) ?_; intro a0 E; have i := Fz.le.refl Z
 have ac := hp (hs4.small)
 refine sqB E hM0 [] [] [] ?_; intro a7 F
 refine sqH ?_; intro ad G
 refine bt F hM0 4 [0] [] [(7, .slice ao2 u0.abs.length cap3)] ?_; intro ap H
 obtain ⟨ae, l⟩ := ac
 refine fc H hM0 (glength_fun u0.abs ae ao2 cap3 _ _ hs4 hM0.fz) ?_; intro aq ar I a
 refine s1 I 3 (i6 (glengthS u0.abs)) ?_; intro au J
 apply G
 refine sqH ?_; intro z f
 refine bt J a 3 [] [] [(11, .bool (decide ((glengthS u0.abs) < 64)))] ?_; intro av n
 rcases Bool.eq_false_or_eq_true (decide ((glengthS u0.abs) < 64)) with j | j
 · -- true
  have af := l.1 j
  have L := n.reval (d := 11) (c := []) (v := .bool (decide ((glengthS u0.abs) < 64))) (by kernel_rfl) (.bool true) (by rw [j])
  refine bt L a 15 [] [12, 13, 14, 15, 16, 17, 18, 19, 20, 21, 22, 23, 24, 25] [(2, .bool true)] ?_; intro aw ag
  apply f
  exact r_ (ra1 ag (.bool true) ⟨(true, u0), ao2, cap3, Z, rfl, af, i, hs4, a.kp⟩)
 · -- false
  have o := l.2 j
  have p := n.reval (d := 11) (c := []) (v := .bool (decide ((glengthS u0.abs) < 64))) (by kernel_rfl) (.bool false) (by rw [j])
  refine g_ p false (i6 (glengthS u0.abs)) ?_; intro ax q
  refine g_ q false (.bool ((glengthS u0.abs) == 64)) ?_; intro ay s
  refine g_ s false (.bool ((glengthS u0.abs) == 64)) ?_; intro az M
  have N := M.atom (((glengthS u0.abs) == 64) == true) (by kernel_rfl)
  refine gp N 15 0 [] ((glengthS u0.abs) == 64) (pt b1 0) rfl rfl ?_; intro aA O
  refine gp O 16 0 [] ((glengthS u0.abs) == 64) (pt b1 0) rfl rfl ?_; intro aB P
  refine gp P 17 0 [] ((glengthS u0.abs) == 64) (pt b1 0) rfl rfl ?_; intro aC A
  refine gd A (.bool u0.neg) (m := 0) (cj := []) (bj := (glengthS u0.abs) == 64) rfl rfl (by kernel_rfl) rfl (by kernel_rfl) (by kernel_rfl) (by kernel_rfl) (fun hg => ld A a 0 (g := [0]) (b := b1) (off := 0) (cs := [.bool u0.neg, .slice ao2 u0.abs.length cap3]) (ty := 107) rfl (by kernel_rfl) (by kernel_rfl) (by kernel_rfl) (by kernel_rfl) hg) ?_; intro aD t
  refine v_ t (.bool (((glengthS u0.abs) == 64) && u0.neg)) (wK t false) (pk_and t (g := []) (m := 0) (b := (glengthS u0.abs) == 64) (v := u0.neg) rfl (by kernel_rfl) (by kernel_rfl) (by kernel_rfl) rfl) ?_; intro aE u
  refine g_ u false (.bool (((glengthS u0.abs) == 64) && u0.neg)) ?_; intro aF x
  rcases Bool.eq_false_or_eq_true (((glengthS u0.abs) == 64) && u0.neg) with k | k
  · -- true
   have ah := o.1 k
   have y := x.reval (d := 20) (c := []) (v := .bool (((glengthS u0.abs) == 64) && u0.neg)) (by kernel_rfl) (.bool true) (by rw [k])
   refine g_ y true (pt b1 0) ?_; intro aG C
   obtain ⟨ai, Q⟩ := ah
   refine cl C 111 #[pt b1 0] (wK C true) rfl (by kernel_rfl) (by kernel_rfl) ?_
   obtain ⟨h, aj, R⟩ := hxq Q
   have D := gtz_fun u0 ai b1 ao2 cap3 _ _ _ _ _ _ hs4 a a.fz; rw [aj] at D; refine D.mono ?_; rintro _ ak ⟨S, T, U, rfl, V, W, hm⟩; refine ⟨_, rfl, ?_⟩; intro aH X; have Y := hm
   replace i := Fz.le.trans i V
   have aa : Mem B [] w0 Z0 ((.row b1 [.bool h.2.neg, .slice S h.2.abs.length T] 107) :: Rr) U ak := Y
   have al := R (W.small)
   refine bt X aa 4 [] [23, 24, 25] [(2, .bool (h.1 == 63))] ?_; intro aI am
   apply f
   exact r_ (ra1 am (.bool (h.1 == 63)) ⟨(h.1 == 63, h.2), S, T, U, rfl, al, i, W, aa.kp⟩)
  · -- false
   have an := o.2 k
   have ab := x.reval (d := 20) (c := []) (v := .bool (((glengthS u0.abs) == 64) && u0.neg)) (by kernel_rfl) (.bool false) (by rw [k])
   refine bt ab a 6 [] [21, 22, 23, 24, 25] [(2, .bool false)] ?_; intro aJ ao
   apply f
   exact r_ (ra1 ao (.bool false) ⟨(false, u0), ao2, cap3, Z, rfl, an, i, hs4, a.kp⟩)

theorem gstring_walk (u0 : BInt) (b1 : Nat) (ao2 : Option Addr) (cap3 : Nat) (B : Nat) (w0 : World) (Z0 : Fz) (Rr : List Res) (Z : Fz) (w : World) (hs4 : SlR (tyInt .u32) Z ao2 cap3 u0.abs) (hM0 : Mem B [] w0 Z0 ((.row b1 [.bool u0.neg, .slice ao2 u0.abs.length cap3] 107) :: Rr) Z w) (hZ : Z.on w) {K : ((List UInt8) × BInt) → Prop} (hp : gstring_vc u0 K) : Calls Tryz.prog 62 #[pt b1 0] w fun e w' => ∃ (r : (List UInt8) × BInt) (ao1001 : Option Addr) (cap1002 : Nat) (Z' : Fz), e = .returned (str r.1) ∧ K r ∧ Fz.le Z Z' ∧ SlR (tyInt .u32) Z' ao1001 cap1002 r.2.abs ∧ Mem B [] w0 Z0 ((.row b1 [.bool r.2.neg, .slice ao1001 r.2.abs.length cap1002] 107) :: Rr) Z' w' := by
 refine enter0 Tryz.func62 rfl rfl (by kernel_rfl) ?_; intro C d; have b := Fz.le.refl Z
 have s := hp (hs4.small)
 refine sqB d hM0 [] [] [] ?_; intro D f
 refine sqH ?_; intro t g
 refine s1 f 3 (pt b1 0) ?_; intro E h
 obtain ⟨u, i⟩ := s
 refine ck h 112 #[pt b1 0, i6 10] ?_
 obtain ⟨a, v, j⟩ := hxq i
 have c := gtext_fun u0 u b1 ao2 cap3 _ _ _ _ _ _ hs4 hM0 hM0.fz; rw [v] at c; refine c.mono ?_; rintro _ x ⟨k, l, m, rfl, n, o, hm⟩; refine ⟨_, rfl, ?_⟩; intro F p; have q := hm
 replace b := Fz.le.trans b n
 have y : Mem B [] w0 Z0 ((.row b1 [.bool a.2.neg, .slice k a.2.abs.length l] 107) :: Rr) m x := q
 have z := j (o.small)
 refine s1 p 2 (str a.1) ?_; intro G A
 apply g
 exact r_ (ra1 A (str a.1) ⟨(a.1, a.2), k, l, m, rfl, z, b, o, y.kp⟩)

end Go.Proofs.YtdenmllkjdijlaaGreatDoor
set_option linter.unusedVariables false
set_option linter.unusedSimpArgs false
set_option linter.defProp false
set_option maxRecDepth 100000
set_option maxHeartbeats 0
namespace Go.Proofs.YtdenmllkjdijlaaGreatDoor
open Go.Sy Go.RowKit
def gsetstr_fun (u0 : BInt) (u1 : List UInt8) (hpre : u1.length ≤ 90000) (b1 : Nat) (ao2 : Option Addr) (cap3 : Nat) (B : Nat) (w0 : World) (Z0 : Fz) (Rr : List Res) (Z : Fz) (w : World) (hs4 : SlR (tyInt .u32) Z ao2 cap3 u0.abs) (hM0 : Mem B [] w0 Z0 ((.row b1 [.bool u0.neg, .slice ao2 u0.abs.length cap3] 107) :: Rr) Z w) (hZ : Z.on w) := fc_ (gsetstr_walk u0 u1 b1 ao2 cap3 B w0 Z0 Rr Z w hs4 hM0 hZ (gsetstr_okD u0 u1 hpre))
def gisint_fun (u0 : BInt) (hpre : u0.abs = ws (wv u0.abs) ∧ u0.abs.length ≤ 100000) (b1 : Nat) (ao2 : Option Addr) (cap3 : Nat) (B : Nat) (w0 : World) (Z0 : Fz) (Rr : List Res) (Z : Fz) (w : World) (hs4 : SlR (tyInt .u32) Z ao2 cap3 u0.abs) (hM0 : Mem B [] w0 Z0 ((.row b1 [.bool u0.neg, .slice ao2 u0.abs.length cap3] 107) :: Rr) Z w) (hZ : Z.on w) := fc_ (gisint_walk u0 b1 ao2 cap3 B w0 Z0 Rr Z w hs4 hM0 hZ (gisint_ok u0 hpre))
def gstring_fun (u0 : BInt) (hpre : u0.abs = ws (wv u0.abs) ∧ u0.abs.length ≤ 100000) (b1 : Nat) (ao2 : Option Addr) (cap3 : Nat) (B : Nat) (w0 : World) (Z0 : Fz) (Rr : List Res) (Z : Fz) (w : World) (hs4 : SlR (tyInt .u32) Z ao2 cap3 u0.abs) (hM0 : Mem B [] w0 Z0 ((.row b1 [.bool u0.neg, .slice ao2 u0.abs.length cap3] 107) :: Rr) Z w) (hZ : Z.on w) := fc_ (gstring_walk u0 b1 ao2 cap3 B w0 Z0 Rr Z w hs4 hM0 hZ (gstring_ok u0 hpre))
theorem integer_walk (u0 : List UInt8)  (Z : Fz) (w : World)  (hZ : Z.on w) {K : (Int × Bool) → Prop} (hp : integer_vc u0 K) : Calls Tryz.prog 27 #[str u0] w fun e w' => ∃ r : Int × Bool, e = .returned (.tuple #[i6 r.1, .bool r.2]) ∧ K r ∧ Below w.heap.size w w' := by
 refine enter0 Tryz.func27 rfl rfl (by kernel_rfl) ?_; intro a0 Q; have H := Mem.start w Z hZ
 refine sqB Q H [] [] [] ?_; intro a4 R
 refine sqH ?_; intro aB S
 refine nw R H pb [.bool false, .slice none 0 0] 107 ?_; intro a a8 bd T I
 refine s1 T 8 (str u0) ?_; intro be U
 obtain ⟨aC, V⟩ := hp
 refine ck U 60 #[pt a 0, str u0, i6 10] ?_
 obtain ⟨f, aD, W⟩ := hxq V
 have b := gsetstr_fun (⟨false, []⟩ : BInt) u0 aC a none 0 _ _ _ _ _ _ (SlR.nil _ _) I I.fz; rw [aD] at b; refine b.mono ?_; rintro _ aE ⟨X, Y, aF, rfl, aG, h, hm⟩; refine ⟨_, rfl, ?_⟩; intro bf aa; have ab := hm
 have i : Mem w.heap.size [] w Z [.row a [.bool f.2.2.neg, .slice X f.2.2.abs.length Y] 107] aF aE := ab
 have x := W (h.small)
 refine bt aa i 5 [] [] [(4, .pointer (if f.1 = true then some ⟨a, 0, none⟩ else none)), (5, .bool f.2.1)] ?_; intro bg ac
 apply S
 refine s_ (sqH ?_); intro J l
 refine bt ac i 3 [] [] [(14, .bool (!f.2.1))] ?_; intro bh y
 rcases Bool.eq_false_or_eq_true (!f.2.1) with o | o
 · -- true
  have aH := x.1 o
  have ad := y.reval (d := 14) (c := []) (v := .bool (!f.2.1)) (by kernel_rfl) (.bool true) (by rw [o])
  refine bt ad i 10 [] [15, 16, 17, 18, 20, 21, 22, 23, 24] [(24, .bool true)] ?_; intro bi L
  apply l
  refine cdT L (by kernel_rfl) ?_
  refine sqB L i [] [] [(2, i6 0), (3, .bool false)] ?_; intro bj aI
  exact r_ (h_ (ra2 aI (.tuple #[i6 0, .bool false]) ⟨(0, false), rfl, aH, i.below⟩))
 · -- false
  have aJ := x.2 o
  have z := y.reval (d := 14) (c := []) (v := .bool (!f.2.1)) (by kernel_rfl) (.bool false) (by rw [o])
  refine g_ z false (.pointer (if f.1 = true then some ⟨a, 0, none⟩ else none)) ?_; intro bk A
  obtain ⟨aK, aL⟩ := aJ
  rw [if_pos aK] at A
  obtain ⟨aM, ae⟩ := aL
  refine cl A 61 #[pt a 0] (wK A false) rfl (by kernel_rfl) (by kernel_rfl) ?_
  obtain ⟨j, aN, af⟩ := hxq ae
  have b := gisint_fun f.2.2 aM a X Y _ _ _ _ _ _ h i i.fz; rw [aN] at b; refine b.mono ?_; rintro _ aO ⟨ag, ah, aP, rfl, ai, m, hm⟩; refine ⟨_, rfl, ?_⟩; intro bl aj; have ak := hm
  have k : Mem w.heap.size [] w Z [.row a [.bool j.2.neg, .slice ag j.2.abs.length ah] 107] aP aO := ak
  have B := af (m.small)
  refine bt aj k 3 [] [17, 18] [(19, .bool (!j.1))] ?_; intro bm C
  rcases Bool.eq_false_or_eq_true (!j.1) with p | p
  · -- true
   have aQ := B.1 p
   have al := C.reval (d := 19) (c := []) (v := .bool (!j.1)) (by kernel_rfl) (.bool true) (by rw [p])
   refine bt al k 5 [] [20, 21, 22, 23, 24] [(24, .bool true)] ?_; intro bn M
   apply l
   refine cdT M (by kernel_rfl) ?_
   refine sqB M k [] [] [(2, i6 0), (3, .bool false)] ?_; intro bo aR
   exact r_ (h_ (ra2 aR (.tuple #[i6 0, .bool false]) ⟨(0, false), rfl, aQ, k.below⟩))
  · -- false
   have aS := B.2 p
   have D := C.reval (d := 19) (c := []) (v := .bool (!j.1)) (by kernel_rfl) (.bool false) (by rw [p])
   refine g_ D false (pt a 0) ?_; intro bp N
   obtain ⟨aT, am⟩ := aS
   refine cl N 62 #[pt a 0] (wK N false) rfl (by kernel_rfl) (by kernel_rfl) ?_
   obtain ⟨q, aU, an⟩ := hxq am
   have b := gstring_fun j.2 aT a ag ah _ _ _ _ _ _ m k k.fz; rw [aU] at b; refine b.mono ?_; rintro _ aV ⟨ao, ap, aW, rfl, O, E, hm⟩; refine ⟨_, rfl, ?_⟩; intro bq aq; have ar := hm
   have n : Mem w.heap.size [] w Z [.row a [.bool q.2.neg, .slice ao q.2.abs.length ap] 107] aW aV := ar
   have F := an (E.small)
   refine bt aq n 3 [] [22, 23, 24, 50] [(24, .bool (q.1 != u0))] ?_; intro br s
   apply l
   refine cd s (t := q.1 != u0) (by kernel_rfl) (fun P => ?_) (fun P => ?_)
   · -- yes
    have aX := F.1 P
    refine sqB s n [] [] [(2, i6 0), (3, .bool false)] ?_; intro bs aY
    exact r_ (h_ (ra2 aY (.tuple #[i6 0, .bool false]) ⟨(0, false), rfl, aX, n.below⟩))
   · -- no
    have aZ := F.2 P
    refine k_ (sqH ?_); intro a1 au
    refine s1 s 25 (pt a 0) ?_; intro bu av
    obtain ⟨a2, aw⟩ := aZ
    refine ck av 63 #[pt a 0] ?_
    obtain ⟨u, a3, ax⟩ := hxq aw
    have b := gint64_fun q.2 a2 a ao ap _ _ _ _ _ _ E n n.fz; rw [a3] at b; refine b.mono ?_; rintro _ a5 ⟨a6, a7, a9, rfl, G, ba, hm⟩; refine ⟨_, rfl, ?_⟩; intro bv ay; have az := hm
    have aA : Mem w.heap.size [] w Z [.row a [.bool u.2.neg, .slice a6 u.2.abs.length a7] 107] a9 a5 := az
    have bb := ax (ba.small)
    refine bt ay aA 2 [] [] [(2, i6 u.1), (3, .bool true)] ?_; intro bw bc
    apply au
    exact r_ (ra2 bc (.tuple #[i6 u.1, .bool true]) ⟨(u.1, true), rfl, bb, aA.below⟩)

end Go.Proofs.YtdenmllkjdijlaaGreatDoor
set_option linter.unusedVariables false
set_option linter.unusedSimpArgs false
set_option linter.defProp false
set_option maxRecDepth 100000
set_option maxHeartbeats 0
namespace Go.Proofs.YtdenmllkjdijlaaGreatDoor
open Go.Sy Go.RowKit
theorem hlower_walk (u0 : Int)  (Z : Fz) (w : World)  (hZ : Z.on w) {K : Int → Prop} (hp : hlower_vc u0 K) : Calls Tryz.prog 140 #[y8 u0] w fun e w' => ∃ r : Int, e = .returned (y8 r) ∧ K r ∧ Below w.heap.size w w' := by
 refine enter0 Tryz.func140 rfl rfl (by kernel_rfl) ?_; intro f b; have a := Mem.start w Z hZ
 refine sqB b a [] [] [] ?_; intro h c
 refine sqB c a [] [] [(2, y8 (bOr .u8 u0 32))] ?_; intro i d
 exact r_ (ra1 d (y8 (bOr .u8 u0 32)) ⟨bOr .u8 u0 32, rfl, hp, a.below⟩)
def hlower_fun (u0 : Int)  (Z : Fz) (w : World)  (hZ : Z.on w) := f_ (hlower_walk u0  Z w  hZ (hlower_ok u0))
theorem hpu_walk (u0 : List UInt8)  (Z : Fz) (w : World)  (hZ : Z.on w) {K : (Int × Unit) → Prop} (hp : hpu_vc u0 K) : Calls Tryz.prog 117 #[str u0, i6 16, i6 64] w fun e w' => ∃ (r : Int × Unit) (Z' : Fz), e = .returned (.tuple #[y6 r.1, .nilIface]) ∧ K r ∧ Mem w.heap.size [] w Z [] Z' w' := by
 refine enter0 Tryz.func117 rfl rfl (by kernel_rfl) ?_; intro a0 Y; have i := Mem.start w Z hZ
 refine sqB Y i [] [] [] ?_; intro a4 ab
 refine s_ (sqB ab i [] [191] [(19, .bool (u0 == ([] : List UInt8)))] ?_); intro a9 C
 obtain ⟨bd, be⟩ := hp
 refine cn C bd ?_
 refine k_ (sqB C i [] [] [(8, .bool false)] ?_); intro b1 ac
 refine sqB ac i [] [] [(9, str u0)] ?_; intro b2 ad
 refine s_ (b_ (sqB ad i [] [29, 30, 31] [(25, .bool true)] ?_)); intro b3 D
 refine cdT D (by kernel_rfl) ?_
 refine l_ (j_ (t_ (s_ (sqB D i [] [] [(77, .bool false)] ?_)))); intro b4 E
 refine cdF E (by kernel_rfl) ?_
 refine sqB E i [] [81, 82, 83] [(83, .bool false)] ?_; intro b5 F
 refine cdF F (by kernel_rfl) ?_
 refine k_ (sqB F i [] [] [] ?_); intro b6 ae
 refine s_ (sqB ae i [] [] [(85, i6 16)] ?_); intro b7 af
 refine b_ (sqB af i [] [] [(90, .bool false)] ?_); intro b8 G
 refine cdF G (by kernel_rfl) ?_
 refine sqB G i [] [] [(92, .bool true)] ?_; intro b9 H
 refine cdT H (by kernel_rfl) ?_
 refine rgB H i [] [] [(10, y6 1152921504606846976)] ?_; intro ca ag
 refine j_ (t_ (sqB ag i [] [] [(11, y6 (wu64 ((bShl .u64 1 64) - 1)))] ?_)); intro cb ah
 refine sqB ah i [] [] [(12, .bool false)] ?_; intro bf ai
 have aj : Fr 172 [] [⟨0, [], str u0⟩, ⟨1, [], i6 16⟩, ⟨8, [], .bool false⟩, ⟨9, [], str u0⟩, ⟨10, [], y6 1152921504606846976⟩, ⟨11, [], y6 (wu64 ((bShl .u64 1 64) - 1))⟩, ⟨12, [], .bool false⟩] bf := ai.reg
 refine sqB aj i [] [] [(13, y6 0)] ?_; intro cc ak
 refine s_ (sqH ?_); intro bg al
 refine s1 ak 98 (str u0) ?_; intro ce am
 obtain ⟨bh, bi⟩ := be
 refine s2b am i bh (e := 5) (nog rfl _) rfl (by kernel_rfl) rfl (by kernel_rfl) (by kernel_rfl) (by kernel_rfl) (by kernel_rfl) ?_; intro o p cf an ao ap
 have aq : Mem w.heap.size [] w Z [.mrk t8 5 o p (istr u0)] Z an := ap
 refine bt ao aq 2 [] [] [(100, i6 ((istr u0).length : Int)), (101, i6 0)] ?_; intro ar au
 apply al
 apply b_
 have av : Fr 172 [] [⟨1, [], i6 16⟩, ⟨8, [], .bool false⟩, ⟨9, [], str u0⟩, ⟨10, [], y6 1152921504606846976⟩, ⟨11, [], y6 (wu64 ((bShl .u64 1 64) - 1))⟩, ⟨12, [], .bool false⟩, ⟨13, [], y6 0⟩, ⟨99, [], .slice o (istr u0).length p⟩, ⟨100, [], i6 ((istr u0).length : Int)⟩, ⟨101, [], i6 0⟩] ar := au.reg
 obtain ⟨y, bk, aw, bl⟩ := aq.freezeM 0 rfl
 have ax : Mem w.heap.size [] w Z [] y an := aw
 have ay : Fr 172 [] [⟨1, [], i6 16⟩, ⟨8, [], .bool false⟩, ⟨9, [], str u0⟩, ⟨10, [], y6 1152921504606846976⟩, ⟨11, [], y6 (wu64 ((bShl .u64 1 64) - 1))⟩, ⟨12, [], .bool false⟩, ⟨13, [], y6 0⟩, ⟨99, [], .slice o (istr u0).length p⟩, ⟨100, [], i6 ((istr u0).length : Int)⟩, ⟨101, [], i6 0⟩] ar := av.reg
 obtain ⟨bm, bn, bo, bp⟩ := bi
 refine lp (ι := Bool × Int × Int) (fun s => [⟨1, [], i6 16⟩, ⟨8, [], .bool false⟩, ⟨9, [], str u0⟩, ⟨10, [], y6 1152921504606846976⟩, ⟨11, [], y6 (wu64 ((bShl .u64 1 64) - 1))⟩, ⟨12, [], .bool s.1⟩, ⟨13, [], y6 s.2.1⟩, ⟨99, [], .slice o (istr u0).length p⟩, ⟨100, [], i6 ((istr u0).length : Int)⟩, ⟨101, [], i6 s.2.2⟩]) (fun s => []) (fun s => y) (fun s => bm s.1 s.2.1 s.2.2) (fun s => bn s.1 s.2.1 s.2.2) ⟨false, 0, 0⟩ bo (by exact ay.region (by kernel_rfl) (by kernel_rfl)) (by exact ax) ?_
 rintro ⟨n, h, j⟩ bq br bs az aA
 have z := bp n h j bq
 refine sqB az aA [] [] [(102, .bool (decide (j < ((istr u0).length : Int))))] ?_; intro cg q
 apply s_
 refine cd q (t := decide (j < ((istr u0).length : Int))) (by kernel_rfl) (fun I => ?_) (fun I => ?_)
 · -- yes
  have bu := z.1 I
  refine k_ (s_ (b_ (sqH ?_))); intro bv aC
  obtain ⟨bw, aD⟩ := bu
  refine ix_ q bl j bw .i64 5 1 ?_; intro ch ci bx a ck bz bA bB aE
  have A := aD a bz
  obtain rfl : bx = ([y8 a] : List Value) := bB
  refine z1 aE aA 104 bA 0 (y8 a) rfl ?_; intro cl aF
  refine s1 aF 15 (y8 a) ?_; intro cm aG
  apply aC
  refine sqB aG aA [] [] [] ?_; intro co aH
  refine s_ (b_ (sqB aH aA [] [] [(106, .bool ((a == 95) && false))] ?_)); intro cp u
  refine cd u (t := (a == 95) && false) (by kernel_rfl) (fun J => ?_) (fun J => ?_)
  · -- yes
   have aI := A.1 J
   refine sqB u aA [] [] [(12, .bool true)] ?_; intro cq aJ
   refine x_ (ibo (by decide) ?_)
   refine y_ (z_ (t_ (rgB aJ aA [] [] [(101, i6 (w64 (j + 1)))] ?_))); intro cr bC
   exact d_ ⟨⟨true, h, w64 (j + 1)⟩, aI.1, aI.2, (bC.region (by kernel_rfl) (by kernel_rfl)).anyβ _ (by kernel_rfl), aA.kp⟩
  · -- no
   have B := A.2 J
   refine sqB u aA [] [] [(112, .bool ((decide (48 ≤ a)) && (decide (a ≤ 57))))] ?_; intro cs x
   refine cd x (t := (decide (48 ≤ a)) && (decide (a ≤ 57))) (by kernel_rfl) (fun L => ?_) (fun L => ?_)
   · -- yes
    have bD := B.1 L
    refine rgB x aA [] [] [(16, y8 (w8 (a - 48)))] ?_; intro ct aK
    refine j_ (t_ (s_ (sqB aK aA [] [] [(137, .bool (decide ((w8 (a - 48)) ≥ 16)))] ?_))); intro cu M
    obtain ⟨bE, bF⟩ := bD
    refine cn M bE ?_
    refine k_ (s_ (sqB M aA [] [] [(141, .bool (decide (h ≥ 1152921504606846976)))] ?_)); intro cv N
    obtain ⟨bG, bH⟩ := bF
    refine cn N bG ?_
    refine k_ (sqB N aA [] [] [(13, y6 (wu64 (h * 16)))] ?_); intro cw aL
    refine sqB aL aA [] [] [(17, y6 (wu64 ((wu64 (h * 16)) + (wu64 (w8 (a - 48))))))] ?_; intro cx aM
    refine s_ (sqB aM aA [] [] [(159, .bool ((decide ((wu64 ((wu64 (h * 16)) + (wu64 (w8 (a - 48))))) < (wu64 (h * 16)))) || (decide ((wu64 ((wu64 (h * 16)) + (wu64 (w8 (a - 48))))) > (wu64 ((bShl .u64 1 64) - 1))))))] ?_); intro cz O
    obtain ⟨bI, aN⟩ := bH
    refine cn O bI ?_
    refine k_ (rgB O aA [] [] [(13, y6 (wu64 ((wu64 (h * 16)) + (wu64 (w8 (a - 48))))))] ?_); intro cA aO
    refine j_ (t_ (rgB aO aA [] [] [(101, i6 (w64 (j + 1)))] ?_)); intro cB bJ
    exact d_ ⟨⟨n, wu64 ((wu64 (h * 16)) + (wu64 (w8 (a - 48)))), w64 (j + 1)⟩, aN.1, aN.2, (bJ.region (by kernel_rfl) (by kernel_rfl)).anyβ _ (by kernel_rfl), aA.kp⟩
   · -- no
    have bK := B.2 L
    refine sqH ?_; intro bL aP
    refine s1 x 122 (y8 a) ?_; intro cC aQ
    refine fc aQ aA (hlower_fun a _ _ aA.fz) ?_; intro cD cE aR P
    refine s1 aR 124 (.bool (decide (97 ≤ (hlower a)))) ?_; intro cF aS
    refine s1 aS 125 (.bool (decide (97 ≤ (hlower a)))) ?_; intro cG aT
    have aU := aT.atom ((decide (97 ≤ (hlower a))) == true) (by kernel_rfl)
    refine gp aU 126 0 [] (decide (97 ≤ (hlower a))) (y8 a) rfl rfl ?_; intro cH aV
    refine gcl aV P (y8 (hlower a)) 140 #[y8 a] (m := 0) (cj := []) (bj := decide (97 ≤ (hlower a))) rfl rfl (by kernel_rfl) rfl (by kernel_rfl) (by kernel_rfl) (by kernel_rfl) (fun _ => by kernel_rfl) (fun hg => hlower_fun a _ _ P.fz) ?_; intro cI cJ aW Q
    refine gp aW 128 0 [] (decide (97 ≤ (hlower a))) (.bool (decide ((hlower a) ≤ 122))) rfl rfl ?_; intro cK R
    refine u_ R (.bool ((decide (97 ≤ (hlower a))) && (decide ((hlower a) ≤ 122)))) (pk_and R (g := []) (m := 0) (b := decide (97 ≤ (hlower a))) (v := decide ((hlower a) ≤ 122)) rfl (by kernel_rfl) (by kernel_rfl) (by kernel_rfl) rfl) ?_; intro cL aX
    refine s1 aX 121 (.bool ((decide (97 ≤ (hlower a))) && (decide ((hlower a) ≤ 122)))) ?_; intro bM S
    apply aP
    obtain ⟨bN, bO⟩ := bK
    refine cy S bN ?_
    have aY : Fr 172 [] [⟨1, [], i6 16⟩, ⟨8, [], .bool false⟩, ⟨9, [], str u0⟩, ⟨10, [], y6 1152921504606846976⟩, ⟨11, [], y6 (wu64 ((bShl .u64 1 64) - 1))⟩, ⟨12, [], .bool n⟩, ⟨13, [], y6 h⟩, ⟨15, [], y8 a⟩, ⟨99, [], .slice o (istr u0).length p⟩, ⟨100, [], i6 ((istr u0).length : Int)⟩, ⟨101, [], i6 j⟩] bM := S.reg
    refine rgH ?_; intro bP aZ
    refine s1 aY 130 (y8 a) ?_; intro cM a1
    refine fc a1 Q (hlower_fun a _ _ Q.fz) ?_; intro cN cO a2 l
    refine bt a2 l 3 [] [] [(16, y8 (w8 ((w8 ((hlower a) - 97)) + 10)))] ?_; intro cP a3
    apply aZ
    refine j_ (t_ (s_ (sqB a3 l [] [] [(137, .bool (decide ((w8 ((w8 ((hlower a) - 97)) + 10)) ≥ 16)))] ?_))); intro cQ U
    obtain ⟨bQ, bR⟩ := bO
    refine cn U bQ ?_
    refine k_ (s_ (sqB U l [] [] [(141, .bool (decide (h ≥ 1152921504606846976)))] ?_)); intro cR V
    obtain ⟨bS, bT⟩ := bR
    refine cn V bS ?_
    refine k_ (sqB V l [] [] [(13, y6 (wu64 (h * 16)))] ?_); intro cS a5
    refine sqB a5 l [] [] [(17, y6 (wu64 ((wu64 (h * 16)) + (wu64 (w8 ((w8 ((hlower a) - 97)) + 10))))))] ?_; intro cT a6
    refine s_ (sqB a6 l [] [] [(159, .bool ((decide ((wu64 ((wu64 (h * 16)) + (wu64 (w8 ((w8 ((hlower a) - 97)) + 10))))) < (wu64 (h * 16)))) || (decide ((wu64 ((wu64 (h * 16)) + (wu64 (w8 ((w8 ((hlower a) - 97)) + 10))))) > (wu64 ((bShl .u64 1 64) - 1))))))] ?_); intro cU W
    obtain ⟨bU, a7⟩ := bT
    refine cn W bU ?_
    refine k_ (rgB W l [] [] [(13, y6 (wu64 ((wu64 (h * 16)) + (wu64 (w8 ((w8 ((hlower a) - 97)) + 10))))))] ?_); intro cV a8
    refine j_ (t_ (rgB a8 l [] [] [(101, i6 (w64 (j + 1)))] ?_)); intro cW bV
    exact d_ ⟨⟨n, wu64 ((wu64 (h * 16)) + (wu64 (w8 ((w8 ((hlower a) - 97)) + 10)))), w64 (j + 1)⟩, a7.1, a7.2, (bV.region (by kernel_rfl) (by kernel_rfl)).anyβ _ (by kernel_rfl), l.kp⟩
 · -- no
  have bW := z.2 I
  refine x_ (y_ (y_ (z_ (t_ (s_ (sqH ?_)))))); intro bX ba
  refine bt q aA 2 [] [] [(165, .bool n)] ?_; intro cX bb
  obtain ⟨bY, bZ⟩ := bW
  have bc := bb.reval (d := 165) (c := []) (v := .bool n) (by kernel_rfl) (.bool false) (by rw [bY])
  refine bt bc aA 4 [] [166, 167, 168, 169] [(169, .bool false)] ?_; intro cY X
  apply ba
  refine cdF X (by kernel_rfl) ?_
  refine k_ (sqB X aA [] [] [(6, y6 h), (7, .nilIface)] ?_); intro cZ b0
  exact r_ (ra2 b0 (.tuple #[y6 h, .nilIface]) ⟨(h, ()), y, rfl, bZ, aA.kp⟩)

end Go.Proofs.YtdenmllkjdijlaaGreatDoor
set_option linter.unusedVariables false
set_option linter.unusedSimpArgs false
set_option maxRecDepth 100000
set_option maxHeartbeats 0
namespace Go.Proofs.YtdenmllkjdijlaaGreatDoor
open Go.Sy Go.RowKit
theorem hpu_fun (u0 : List UInt8) (hpre : u0 ≠ [] ∧ u0.length ≤ 8 ∧ u0.all isH = true)  (Z : Fz) (w : World)  (hZ : Z.on w) : Calls Tryz.prog 117 #[str u0, i6 16, i6 64] w fun e w' => ∃ (Z' : Fz), e = .returned (.tuple #[y6 (hpuS u0).1, .nilIface]) ∧ Mem w.heap.size [] w Z [] Z' w' :=
  (hpu_walk u0  Z w  hZ (hpu_ok u0 hpre)).mono fun _ _ ⟨r, h0, he, hk, hm⟩ => by subst hk; exact ⟨h0, he, hm⟩

theorem hpi_walk (u0 : List UInt8)  (Z : Fz) (w : World)  (hZ : Z.on w) {K : (Int × Unit) → Prop} (hp : hpi_vc u0 K) : Calls Tryz.prog 71 #[str u0, i6 16, i6 64] w fun e w' => ∃ (r : Int × Unit) (Z' : Fz), e = .returned (.tuple #[i6 r.1, .nilIface]) ∧ K r ∧ Mem w.heap.size [] w Z [] Z' w' := by
 refine enter0 Tryz.func71 rfl rfl (by kernel_rfl) ?_; intro a0 m; have a := Mem.start w Z hZ
 refine sqB m a [] [] [] ?_; intro a4 o
 refine s_ (sqB o a [] [86] [(13, .bool (u0 == ([] : List UInt8)))] ?_); intro a9 c
 obtain ⟨H, I⟩ := hp
 refine cn c H ?_
 refine k_ (sqB c a [] [] [(8, .bool false)] ?_); intro ac p
 refine s_ (sqH ?_); intro J s
 refine s1 p 15 (str u0) ?_; intro ad t
 obtain ⟨L, M⟩ := I
 obtain ⟨d, u⟩ : ∃ q, u0[(0 : Int).toNat]? = some q := ⟨_, List.getElem?_eq_getElem (by omega)⟩; have N := M d u
 refine si t .i64 L.1 u ?_; intro ae v
 apply s
 refine b_ (sqB v a [] [] [(17, .bool ((d.toNat : Int) == 43))] ?_); intro af f
 obtain ⟨O, P⟩ := N
 refine cn f O ?_
 refine sqB f a [] [] [(21, .bool ((d.toNat : Int) == 45))] ?_; intro ag g
 obtain ⟨Q, R⟩ := P
 refine cn g Q ?_
 refine l_ (j_ (t_ (sqB g a [] [] [] ?_))); intro ah x
 refine sqH ?_; intro S y
 refine bt x a 3 [] [] [(26, str u0), (27, i6 16), (28, i6 64)] ?_; intro ai z
 obtain ⟨T, U⟩ := R
 refine ck z 117 #[str u0, i6 16, i6 64] ?_
 refine (hpu_fun u0 T _ _ a.fz).mono ?_; rintro _ V ⟨A, rfl, hm⟩; refine ⟨_, rfl, ?_⟩; intro aj B; have C := a.callZ hm
 have b : Mem w.heap.size [] w Z [] A V := C
 refine bt B b 5 [] [] [(7, .nilIface), (9, y6 (hpuS u0).1)] ?_; intro ak D
 apply y
 refine s_ (sqB D b [] [35, 36, 37, 38] [(38, .bool false)] ?_); intro al h
 refine cdF h (by kernel_rfl) ?_
 refine k_ (s_ (sqB h b [] [] [(41, .bool false)] ?_)); intro am i
 refine cdF i (by kernel_rfl) ?_
 refine k_ (sqB i b [] [] [(10, y6 (bShl .u64 1 63))] ?_); intro an E
 refine s_ (sqB E b [] [49, 50, 51, 52] [(52, .bool (decide ((hpuS u0).1 ≥ (bShl .u64 1 63))))] ?_); intro X j
 obtain ⟨Y, aa⟩ := U
 refine cn j Y ?_
 refine k_ (s_ ?_)
 have F : Fr 73 [] [⟨8, [], .bool false⟩, ⟨9, [], y6 (hpuS u0).1⟩, ⟨10, [], y6 (bShl .u64 1 63)⟩] X := j.reg
 refine sqB F b [] [59, 60, 61, 62] [(62, .bool false)] ?_; intro ao k
 refine cdF k (by kernel_rfl) ?_
 refine k_ (sqB k b [] [] [(11, i6 (w64 (hpuS u0).1))] ?_); intro ap G
 refine s_ (sqB G b [] [] [(69, .bool false)] ?_); intro aq l
 refine cdF l (by kernel_rfl) ?_
 refine k_ (sqB l b [] [] [(6, i6 (w64 (hpuS u0).1)), (7, .nilIface)] ?_); intro ar ab
 exact r_ (ra2 ab (.tuple #[i6 (w64 (hpuS u0).1), .nilIface]) ⟨(w64 (hpuS u0).1, ()), A, rfl, aa, b.kp⟩)

end Go.Proofs.YtdenmllkjdijlaaGreatDoor
set_option linter.unusedVariables false
set_option linter.unusedSimpArgs false
set_option maxRecDepth 100000
set_option maxHeartbeats 0
namespace Go.Proofs.YtdenmllkjdijlaaGreatDoor
open Go.Sy Go.RowKit
theorem hpi_fun (u0 : List UInt8) (hpre : u0 ≠ [] ∧ u0.length ≤ 8 ∧ u0.all isH = true)  (Z : Fz) (w : World)  (hZ : Z.on w) : Calls Tryz.prog 71 #[str u0, i6 16, i6 64] w fun e w' => ∃ (Z' : Fz), e = .returned (.tuple #[i6 (hpuS u0).1, .nilIface]) ∧ Mem w.heap.size [] w Z [] Z' w' :=
  (hpi_walk u0  Z w  hZ (hpi_ok u0 hpre)).mono fun _ _ ⟨r, h0, he, hk, hm⟩ => by subst hk; exact ⟨h0, he, hm⟩

theorem hsi_walk (u0 : List UInt8)  (Z : Fz) (w : World)  (hZ : Z.on w) {K : (Int × Unit) → Prop} (hp : hsi_vc u0 K) : Calls Tryz.prog 30 #[str u0, i6 16, i6 64] w fun e w' => ∃ (r : Int × Unit) (Z' : Fz), e = .returned (.tuple #[i6 r.1, .nilIface]) ∧ K r ∧ Mem w.heap.size [] w Z [] Z' w' := by
 refine enter0 Tryz.func30 rfl rfl (by kernel_rfl) ?_; intro u d; have a := Mem.start w Z hZ
 refine sqB d a [] [] [] ?_; intro v g
 refine sqH ?_; intro n h
 refine bt g a 3 [] [] [(10, str u0), (11, i6 16), (12, i6 64)] ?_; intro x i
 obtain ⟨o, p⟩ := hp
 refine ck i 71 #[str u0, i6 16, i6 64] ?_
 refine (hpi_fun u0 o _ _ a.fz).mono ?_; rintro _ q ⟨j, rfl, hm⟩; refine ⟨_, rfl, ?_⟩; intro y k; have l := a.callZ hm
 have b : Mem w.heap.size [] w Z [] j q := l
 refine bt k b 5 [] [] [(7, .nilIface), (8, i6 (hpuS u0).1)] ?_; intro z m
 apply h
 refine s_ (sqB m b [] [] [(17, .bool false)] ?_); intro A c
 refine cdF c (by kernel_rfl) ?_
 refine k_ (sqB c b [] [] [(6, i6 (hpuS u0).1), (7, .nilIface)] ?_); intro B t
 exact r_ (ra2 t (.tuple #[i6 (hpuS u0).1, .nilIface]) ⟨((hpuS u0).1, ()), j, rfl, p, b.kp⟩)

end Go.Proofs.YtdenmllkjdijlaaGreatDoor
namespace Go.Proofs
open Go.Shelf
def Tryz.lays160_ren : Go.Shelf.Ren := ⟨fun | 160 => 29 | 232 => 65 | 231 => 64 | 227 => 66 | 234 => 68 | 233 => 67 | 236 => 70 | 235 => 69 | 228 => 75 | 271 => 116 | 151 => 115 | 197 => 114 | 120 => 139 | 152 => 73 | 260 => 138 | 137 => 100 | 119 => 122 | 224 => 104 | 225 => 103 | 217 => 102 | 266 => 132 | n => n, fun | 9 => 9 | 4 => 4 | 3 => 3 | 5 => 5 | 117 => 113 | 116 => 112 | 0 => 0 | 124 => 116 | 21 => 21 | 105 => 143 | 46 => 62 | 119 => 178 | 139 => 181 | 138 => 180 | n => n, fun | 3 => 3 | 4 => 4 | n => n⟩
theorem Tryz.lays160 : Go.Proofs.Lays.n160 Tryz.prog Tryz.lays160_ren := {
  mixed := by kernel_rfl
  f119 := Tryz.func122.trans (congrArg some (by kernel_rfl))
  f120 := Tryz.func139.trans (congrArg some (by kernel_rfl))
  f137 := Tryz.func100.trans (congrArg some (by kernel_rfl))
  f151 := Tryz.func115.trans (congrArg some (by kernel_rfl))
  f152 := Tryz.func73.trans (congrArg some (by kernel_rfl))
  f160 := Tryz.func29.trans (congrArg some (by kernel_rfl))
  f197 := Tryz.func114.trans (congrArg some (by kernel_rfl))
  f217 := Tryz.func102.trans (congrArg some (by kernel_rfl))
  f224 := Tryz.func104.trans (congrArg some (by kernel_rfl))
  f225 := Tryz.func103.trans (congrArg some (by kernel_rfl))
  f227 := Tryz.func66.trans (congrArg some (by kernel_rfl))
  f228 := Tryz.func75.trans (congrArg some (by kernel_rfl))
  f231 := Tryz.func64.trans (congrArg some (by kernel_rfl))
  f232 := Tryz.func65.trans (congrArg some (by kernel_rfl))
  f233 := Tryz.func67.trans (congrArg some (by kernel_rfl))
  f234 := Tryz.func68.trans (congrArg some (by kernel_rfl))
  f235 := Tryz.func69.trans (congrArg some (by kernel_rfl))
  f236 := Tryz.func70.trans (congrArg some (by kernel_rfl))
  f260 := Tryz.func138.trans (congrArg some (by kernel_rfl))
  f266 := Tryz.func132.trans (congrArg some (by kernel_rfl))
  f271 := Tryz.func116.trans (congrArg some (by kernel_rfl))
  t0 := Tryz.underlying0
  a0 := Tryz.isAgg0
  z0 := Tryz.sizeOf0
  v0 := Tryz.zeroValue0
  t3 := Tryz.underlying3
  a3 := Tryz.isAgg3
  z3 := Tryz.sizeOf3
  v3 := Tryz.zeroValue3
  t4 := Tryz.underlying4
  a4 := Tryz.isAgg4
  z4 := Tryz.sizeOf4
  v4 := Tryz.zeroValue4
  t5 := Tryz.underlying5
  a5 := Tryz.isAgg5
  z5 := Tryz.sizeOf5
  v5 := Tryz.zeroValue5
  t9 := Tryz.underlying9
  a9 := Tryz.isAgg9
  z9 := Tryz.sizeOf9
  v9 := Tryz.zeroValue9
  t21 := Tryz.underlying21
  a21 := Tryz.isAgg21
  z21 := Tryz.sizeOf21
  v21 := Tryz.zeroValue21
  t46 := Tryz.underlying62
  a46 := Tryz.isAgg62
  z46 := Tryz.sizeOf62
  v46 := Tryz.zeroValue62
  t105 := Tryz.underlying143
  a105 := Tryz.isAgg143
  z105 := Tryz.sizeOf143
  v105 := Tryz.zeroValue143
  t116 := Tryz.underlying112
  a116 := Tryz.isAgg112
  z116 := Tryz.sizeOf112
  t117 := Tryz.underlying113
  a117 := Tryz.isAgg113
  z117 := Tryz.sizeOf113
  v117 := Tryz.zeroValue113
  t119 := Tryz.underlying178
  a119 := Tryz.isAgg178
  z119 := Tryz.sizeOf178
  t124 := Tryz.underlying116
  a124 := Tryz.isAgg116
  z124 := Tryz.sizeOf116
  v124 := Tryz.zeroValue116
  t138 := Tryz.underlying180
  a138 := Tryz.isAgg180
  z138 := Tryz.sizeOf180
  v138 := Tryz.zeroValue180
  t139 := Tryz.underlying181
  a139 := Tryz.isAgg181
  z139 := Tryz.sizeOf181
  v139 := Tryz.zeroValue181
  g3 := by kernel_rfl
  g4 := by kernel_rfl }
end Go.Proofs
set_option linter.unusedVariables false
set_option linter.unusedSimpArgs false
set_option maxRecDepth 100000
set_option maxHeartbeats 0
namespace Go.Proofs.YtdenmllkjdijlaaGreatDoor
open Go.Sy Go.RowKit
theorem trim_fun (u0 : List UInt8) (u1 : List UInt8) (hpre : u0.length ≤ 9223372036854775807 ∧ u1.length < 4294967281 ∧ u1.all (fun b => decide (b.toNat < 128)) = true) (Z : Fz) (w : World) (hZ : Z.on w) : Calls Tryz.prog 29 #[str u0, str u1] w fun e w' => e = .returned (str (trimS u0 u1)) ∧ Below w.heap.size w w' := by
  have h := Any.strings_Trim_laid Tryz.lays160 (by kernel_rfl) ⟨⟨u0⟩⟩ ⟨⟨u1⟩⟩ w (by show u0.length ≤ _; exact hpre.1) (by show u1.length < _; exact hpre.2.1) (ascii_of_all hpre.2.2)
  exact h

theorem hsi_fun (u0 : List UInt8) (hpre : u0 ≠ [] ∧ u0.length ≤ 8 ∧ u0.all isH = true)  (Z : Fz) (w : World)  (hZ : Z.on w) : Calls Tryz.prog 30 #[str u0, i6 16, i6 64] w fun e w' => ∃ (Z' : Fz), e = .returned (.tuple #[i6 (hpuS u0).1, .nilIface]) ∧ Mem w.heap.size [] w Z [] Z' w' :=
  (hsi_walk u0  Z w  hZ (hsi_ok u0 hpre)).mono fun _ _ ⟨r, h0, he, hk, hm⟩ => by subst hk; exact ⟨h0, he, hm⟩

theorem lhex_walk (u0 : List UInt8)  (Z : Fz) (w : World)  (hZ : Z.on w) {K : (Int × Bool) → Prop} (hp : lhex_vc u0 K) : Calls Tryz.prog 28 #[str u0] w fun e w' => ∃ r : Int × Bool, e = .returned (.tuple #[i6 r.1, .bool r.2]) ∧ K r ∧ Below w.heap.size w w' := by
 refine enter0 Tryz.func28 rfl rfl (by kernel_rfl) ?_; intro H h; have c := Mem.start w Z hZ
 refine sqB h c [] [] [] ?_; intro I j
 refine s_ (sqH ?_); intro u k
 refine s1 j 6 (str u0) ?_; intro J l
 obtain ⟨v, d⟩ := hp
 refine fc l c (trim_fun u0 ([48, 49, 50, 51, 52, 53, 54, 55, 56, 57, 97, 98, 99, 100, 101, 102] : List UInt8) v _ _ c.fz) ?_; intro L M m a
 refine bt m a 5 [] [29, 32] [(12, .bool (((trimS u0 ([48, 49, 50, 51, 52, 53, 54, 55, 56, 57, 97, 98, 99, 100, 101, 102] : List UInt8)) != ([] : List UInt8)) || (u0 == ([] : List UInt8))))] ?_; intro N b
 apply k
 refine cd b (t := ((trimS u0 ([48, 49, 50, 51, 52, 53, 54, 55, 56, 57, 97, 98, 99, 100, 101, 102] : List UInt8)) != ([] : List UInt8)) || (u0 == ([] : List UInt8))) (by kernel_rfl) (fun f => ?_) (fun f => ?_)
 · -- yes
  have x := d.1 f
  refine sqB b a [] [35] [(2, i6 0), (3, .bool (u0 == ([] : List UInt8)))] ?_; intro O y
  exact r_ (h_ (ra2 y (.tuple #[i6 0, .bool (u0 == ([] : List UInt8))]) ⟨(0, u0 == ([] : List UInt8)), rfl, x, a.below⟩))
 · -- no
  have z := d.2 f
  refine k_ (sqH ?_); intro A n
  refine s1 b 16 (str u0) ?_; intro P o
  obtain ⟨B, C⟩ := z
  refine ck o 30 #[str u0, i6 16, i6 64] ?_
  refine (hsi_fun u0 B _ _ a.fz).mono ?_; rintro _ D ⟨E, rfl, hm⟩; refine ⟨_, rfl, ?_⟩; intro Q p; have q := a.callZ hm
  have g : Mem w.heap.size [] w Z [] E D := q
  refine bt p g 5 [] [] [(4, i6 (hpuS u0).1)] ?_; intro R s
  apply n
  refine sqB s g [] [] [(2, i6 (hpuS u0).1), (3, .bool true)] ?_; intro S G
  exact r_ (ra2 G (.tuple #[i6 (hpuS u0).1, .bool true]) ⟨((hpuS u0).1, true), rfl, C, g.below⟩)

end Go.Proofs.YtdenmllkjdijlaaGreatDoor
namespace Go.Proofs
open Go.Shelf
def Tryz.lays219_ren : Go.Shelf.Ren := ⟨fun | 219 => 59 | 217 => 102 | 225 => 103 | 224 => 104 | 267 => 105 | 266 => 132 | 314 => 133 | n => n, fun | 9 => 9 | 3 => 3 | 4 => 4 | 5 => 5 | 46 => 62 | 146 => 162 | 51 => 97 | n => n, fun | 1 => 0 | n => n⟩
theorem Tryz.lays219 : Go.Proofs.Lays.n219 Tryz.prog Tryz.lays219_ren := {
  mixed := by kernel_rfl
  f217 := Tryz.func102.trans (congrArg some (by kernel_rfl))
  f219 := Tryz.func59.trans (congrArg some (by kernel_rfl))
  f224 := Tryz.func104.trans (congrArg some (by kernel_rfl))
  f225 := Tryz.func103.trans (congrArg some (by kernel_rfl))
  f266 := Tryz.func132.trans (congrArg some (by kernel_rfl))
  f267 := Tryz.func105.trans (congrArg some (by kernel_rfl))
  f314 := Tryz.func133.trans (congrArg some (by kernel_rfl))
  t3 := Tryz.underlying3
  a3 := Tryz.isAgg3
  z3 := Tryz.sizeOf3
  v3 := Tryz.zeroValue3
  t4 := Tryz.underlying4
  a4 := Tryz.isAgg4
  z4 := Tryz.sizeOf4
  v4 := Tryz.zeroValue4
  t5 := Tryz.underlying5
  a5 := Tryz.isAgg5
  z5 := Tryz.sizeOf5
  v5 := Tryz.zeroValue5
  t9 := Tryz.underlying9
  a9 := Tryz.isAgg9
  z9 := Tryz.sizeOf9
  v9 := Tryz.zeroValue9
  t46 := Tryz.underlying62
  a46 := Tryz.isAgg62
  z46 := Tryz.sizeOf62
  v46 := Tryz.zeroValue62
  t51 := Tryz.underlying97
  a51 := Tryz.isAgg97
  z51 := Tryz.sizeOf97
  v51 := Tryz.zeroValue97
  t146 := Tryz.underlying162
  a146 := Tryz.isAgg162
  z146 := Tryz.sizeOf162
  v146 := Tryz.zeroValue162
  g1 := by kernel_rfl }
end Go.Proofs
set_option linter.unusedVariables false
set_option linter.unusedSimpArgs false
set_option linter.defProp false
set_option maxRecDepth 100000
set_option maxHeartbeats 0
namespace Go.Proofs.YtdenmllkjdijlaaGreatDoor
open Go.Sy Go.RowKit
abbrev e36La (X : Line) (A0 : Option Addr) (C0 : Nat) : List Value := [i6 X.Time, i6 X.Bus, i6 X.F.ID, .bool X.F.Long, .bool X.F.Fast, .bool X.F.Remote, i6 X.F.Size, .slice A0 X.F.Data.length C0]
def integer_fun (u0 : List UInt8) (hpre : u0.length ≤ 90000)  (Z : Fz) (w : World)  (hZ : Z.on w) := f_ (integer_walk u0  Z w  hZ (integer_ok u0 hpre))
def lhex_fun (u0 : List UInt8) (hpre : u0.length ≤ 8)  (Z : Fz) (w : World)  (hZ : Z.on w) := f_ (lhex_walk u0  Z w  hZ (lhex_ok u0 hpre))
theorem sli1_fun (u0 : List UInt8) (u1 : List UInt8) (hpre : u1.length = 1) (Z : Fz) (w : World) (hZ : Z.on w) : Calls Tryz.prog 59 #[str u0, str u1] w fun e w' => e = .returned (i6 (index1S u0 u1)) ∧ Below w.heap.size w w' := by
  obtain ⟨c, rfl⟩ : ∃ c, u1 = [c] := by
    match u1, hpre with
    | [c], _ => exact ⟨c, rfl⟩
  exact (Any.stringslite_Index_one Tryz.lays219 ⟨⟨u0⟩⟩ c w).mono fun _ _ ⟨h1, h2⟩ => ⟨h1, h2 ▸ Below.refl _ _⟩

theorem cut0_walk (u0 : List UInt8) (u1 : List UInt8)  (Z : Fz) (w : World)  (hZ : Z.on w) {K : ((List UInt8) × (List UInt8) × Bool) → Prop} (hp : cut0_vc u0 u1 K) : Calls Tryz.prog 26 #[str u0, str u1] w fun e w' => ∃ r : (List UInt8) × (List UInt8) × Bool, e = .returned (.tuple #[str r.1, str r.2.1, .bool r.2.2]) ∧ K r ∧ Below w.heap.size w w' := by
 refine enter0 Tryz.func26 rfl rfl (by kernel_rfl) ?_; intro S j; have a := Mem.start w Z hZ
 refine sqB j a [] [] [] ?_; intro U l
 refine s_ (sqH ?_); intro E m
 refine bt l a 2 [] [] [(8, str u0), (9, str u1)] ?_; intro V n
 obtain ⟨F, d⟩ := hp
 refine fc n a (sli1_fun u0 u1 F _ _ a.fz) ?_; intro W X o b
 refine s1 o 7 (i6 (index1S u0 u1)) ?_; intro Y p
 apply m
 refine sqB p b [] [] [(12, .bool (decide ((index1S u0 u1) ≥ 0)))] ?_; intro G c
 refine c_ c d (fun _ H => ?_) fun _ Q => ?_
 ·
  have q : Fr 23 [] [⟨0, [], str u0⟩, ⟨1, [], str u1⟩, ⟨7, [], i6 (index1S u0 u1)⟩] G := c.reg
  refine sqQH mixed (by kernel_rfl) b ?_; intro I s
  refine q1 q 13 (str u0) ?_; intro aa u
  refine q1 u 14 (i6 (index1S u0 u1)) ?_; intro ab h
  obtain ⟨J, L⟩ := H
  refine qu_ h (str (u0.take (index1S u0 u1).toNat)) (fun v36 hC => strslH_run h (g := []) (k := .i64) rfl (by kernel_rfl) (by kernel_rfl) (by kernel_rfl) J rfl) ?_; intro ac v
  refine q1 v 16 (str u0) ?_; intro ad x
  refine q1 x 17 (i6 (index1S u0 u1)) ?_; intro ae y
  refine q1 y 18 (str u1) ?_; intro af z
  refine q1 z 19 (i6 (u1.length : Int)) ?_; intro ag A
  refine q1 A 20 (i6 (w64 ((index1S u0 u1) + (u1.length : Int)))) ?_; intro ah i
  obtain ⟨M, N⟩ := L
  refine qu_ i (str (u0.drop (w64 ((index1S u0 u1) + (u1.length : Int))).toNat)) (fun v56 hC => strslL_run i (g := []) (k := .i64) rfl (by kernel_rfl) (by kernel_rfl) (by kernel_rfl) M rfl) ?_; intro ai B
  refine q1 B 4 (str (u0.take (index1S u0 u1).toNat)) ?_; intro aj C
  refine q1 C 5 (str (u0.drop (w64 ((index1S u0 u1) + (u1.length : Int))).toNat)) ?_; intro ak D
  refine q1 D 6 (.bool true) ?_; intro al O
  refine qnl (s _ ?_); intro am P
  exact r_ (h_ (ra3 O (.tuple #[str (u0.take (index1S u0 u1).toNat), str (u0.drop (w64 ((index1S u0 u1) + (u1.length : Int))).toNat), .bool true]) ⟨(u0.take (index1S u0 u1).toNat, u0.drop (w64 ((index1S u0 u1) + (u1.length : Int))).toNat, true), rfl, N, P.below⟩))
 refine k_ (sqB c b [] [] [(4, str u0), (5, str []), (6, .bool false)] ?_); intro an R
 exact r_ (ra3 R (.tuple #[str u0, str [], .bool false]) ⟨(u0, [], false), rfl, Q, b.below⟩)

theorem lineof_walk (u0 : List UInt8)  (Z : Fz) (w : World)  (hZ : Z.on w) {K : (Line × Bool) → Prop} (hp : lineof_vc u0 K) : Calls Tryz.prog 13 #[str u0] w fun e w' => ∃ (r : Line × Bool) (ao1001 : Option Addr) (cap1002 : Nat) (Z' : Fz), e = .returned (.tuple #[.agg #[i6 r.1.Time, i6 r.1.Bus, i6 r.1.F.ID, .bool r.1.F.Long, .bool r.1.F.Fast, .bool r.1.F.Remote, i6 r.1.F.Size, .slice ao1001 r.1.F.Data.length cap1002], .bool r.2]) ∧ K r ∧ SlR t8 Z' ao1001 cap1002 r.1.F.Data ∧ Mem w.heap.size [] w Z [] Z' w' := by
 refine enter0 Tryz.func13 rfl rfl (by kernel_rfl) ?_; intro a0 cH; have cI := Mem.start w Z hZ
 refine sqH ?_; intro fu cJ
 refine nw cH cI pb [i6 0, i6 0, i6 0, .bool false, .bool false, .bool false, i6 0, .slice none 0 0] 36 ?_; intro l a3 jA cK cL
 refine s1 cK 3 (.bool false) ?_; intro a7 cM
 apply cJ
 refine sqH ?_; intro fv cN
 refine nw cM cL pb [i6 0, i6 0, i6 0, .bool false, .bool false, .bool false, i6 0, .slice none 0 0] 36 ?_; intro f jB jC cO bP
 apply cN
 refine sqH ?_; intro fw cP
 refine s1 cO 13 (str u0) ?_; intro jD cQ
 obtain ⟨fx, cR⟩ := hp
 refine ck cQ 24 #[str u0, str ([32] : List UInt8)] ?_
 refine (tsplit_fun u0 ([32] : List UInt8) fx _ _ bP.fz).mono ?_; rintro _ fy ⟨bv, C, U, rfl, hm⟩; refine ⟨_, rfl, ?_⟩; intro jE cT; have cU := bP.callZ hm
 have a2 : Mem w.heap.size [] w Z [.own tyStr 9 bv C (splitS u0 ([32] : List UInt8)), .row f [i6 0, i6 0, i6 0, .bool false, .bool false, .bool false, i6 0, .slice none 0 0] 36, .row l [i6 0, i6 0, i6 0, .bool false, .bool false, .bool false, i6 0, .slice none 0 0] 36] U fy := cU
 have bw := cR (a2.ownSmall 0 rfl)
 refine s1 cT 5 (.slice bv (splitS u0 ([32] : List UInt8)).length C) ?_; intro jF cV
 apply cP
 refine s_ (sqB cV a2 [] [] [(17, .bool (((splitS u0 ([32] : List UInt8)).length : Int) != 3))] ?_); intro jG bk
 refine c_ bk bw (fun _ fB => ?_) fun _ fE => ?_
 ·
  refine sqH ?_; intro fC cW
  refine l2 bk a2 18 1 0 8 [i6 0, i6 0, i6 0, .bool false, .bool false, .bool false, i6 0, .slice none 0 0] rfl rfl ?_; intro jH bR
  refine sx bR a2 2 [i6 0, i6 0, i6 0, .bool false, .bool false, .bool false, i6 0, .slice none 0 0] 0 ?_; intro fD cX
  refine s1 bR 3 (.bool false) ?_; intro jI cY
  have cZ : Mem w.heap.size [] w Z [.own tyStr 9 bv C (splitS u0 ([32] : List UInt8)), .row f [i6 0, i6 0, i6 0, .bool false, .bool false, .bool false, i6 0, .slice none 0 0] 36, .row l [i6 0, i6 0, i6 0, .bool false, .bool false, .bool false, i6 0, .slice none 0 0] 36] U fD := cX
  apply cW
  refine r_ (h_ (rt (fn := Tryz.f13) (v := .tuple #[.agg #[i6 0, i6 0, i6 0, .bool false, .bool false, .bool false, i6 0, .slice none 0 0], .bool false]) cY (re2c cY (fn := Tryz.f13) rfl (ad := ⟨l, 0, none⟩) (by kernel_rfl) (loadVar_run cZ 2 (b := l) (k := 8) (vs := [i6 0, i6 0, i6 0, .bool false, .bool false, .bool false, i6 0, .slice none 0 0]) (ty := 36) rfl (by kernel_rfl) (by kernel_rfl)) (by kernel_rfl)) ?_))
  exact ⟨((⟨0, 0, (⟨0, false, false, false, 0, []⟩ : Frame)⟩ : Line), false), none, 0, U, rfl, fB, (SlR.nil _ _), cZ.kp⟩
 refine k_ (sqB bk a2 [] [] [] ?_); intro jJ c0
 refine sqH ?_; intro fF c1
 refine s1 c0 20 (.slice bv (splitS u0 ([32] : List UInt8)).length C) ?_; intro jK c2
 obtain ⟨fG, c3⟩ := fE
 refine ixo c2 a2 0 (T := tyStr) (xs := (splitS u0 ([32] : List UInt8))) (0 : Int) fG (k := .i64) (e := 9) (bytes := 16) (nog rfl _) rfl (by kernel_rfl) rfl (by kernel_rfl) (by kernel_rfl) rfl (by kernel_rfl) ?_; intro B jL fH c4
 subst fH
 obtain ⟨E, fI, fJ⟩ := gxq c3 (by first | omega | (simp only [List.length_set] at *; omega))
 obtain ⟨fK, fL, fM⟩ := own_el a2 0 (T := tyStr) (xs := (splitS u0 ([32] : List UInt8))) rfl (0 : Int).toNat fI
 obtain rfl : fK = ([str E] : List Value) := fL
 refine lc1 c4 22 (str E) (fM 0 _ rfl) rfl ?_; intro jM c5
 obtain ⟨fN, fO⟩ := fJ
 refine fc c5 a2 (integer_fun E fN _ _ a2.fz) ?_; intro jN jO c6 bS
 refine bt c6 bS 4 [] [] [(24, i6 (integerS E).1), (25, .bool (integerS E).2), (26, pt f 0)] ?_; intro jP bT
 refine sx bT bS 1 [i6 (integerS E).1, i6 0, i6 0, .bool false, .bool false, .bool false, i6 0, .slice none 0 0] 0 ?_; intro fP c7
 refine s1 bT 6 (.bool (integerS E).2) ?_; intro jQ c8
 have bl : Mem w.heap.size [] w Z [.own tyStr 9 (sm B) C (splitS u0 ([32] : List UInt8)), .row f [i6 (integerS E).1, i6 0, i6 0, .bool false, .bool false, .bool false, i6 0, .slice none 0 0] 36, .row l [i6 0, i6 0, i6 0, .bool false, .bool false, .bool false, i6 0, .slice none 0 0] 36] U fP := c7
 apply c1
 refine sqH ?_; intro fQ c9
 refine s1 c8 28 (.slice (sm B) (splitS u0 ([32] : List UInt8)).length C) ?_; intro jR da
 obtain ⟨fR, db⟩ := fO
 refine ixo da bl 0 (T := tyStr) (xs := (splitS u0 ([32] : List UInt8))) (1 : Int) fR (k := .i64) (e := 9) (bytes := 16) (nog rfl _) rfl (by kernel_rfl) rfl (by kernel_rfl) (by kernel_rfl) rfl (by kernel_rfl) ?_; intro fS jS fT dc
 obtain rfl : B = fS := by simpa using fT
 obtain ⟨H, fU, fV⟩ := gxq db (by first | omega | (simp only [List.length_set] at *; omega))
 obtain ⟨fW, fX, fY⟩ := own_el bl 0 (T := tyStr) (xs := (splitS u0 ([32] : List UInt8))) rfl (1 : Int).toNat fU
 obtain rfl : fW = ([str H] : List Value) := fX
 refine lc1 dc 30 (str H) (fY 0 _ rfl) rfl ?_; intro jT dd
 obtain ⟨fZ, bx⟩ := fV
 refine fc dd bl (integer_fun H fZ _ _ bl.fz) ?_; intro jU jV de bU
 refine bt de bU 4 [] [] [(32, i6 (integerS H).1), (33, .bool (integerS H).2), (34, pt f 1)] ?_; intro jW bV
 refine sx bV bU 1 [i6 (integerS E).1, i6 (integerS H).1, i6 0, .bool false, .bool false, .bool false, i6 0, .slice none 0 0] 1 ?_; intro f0 df
 refine s1 bV 7 (.bool (integerS H).2) ?_; intro jX dg
 have a8 : Mem w.heap.size [] w Z [.own tyStr 9 (sm B) C (splitS u0 ([32] : List UInt8)), .row f [i6 (integerS E).1, i6 (integerS H).1, i6 0, .bool false, .bool false, .bool false, i6 0, .slice none 0 0] 36, .row l [i6 0, i6 0, i6 0, .bool false, .bool false, .bool false, i6 0, .slice none 0 0] 36] U f0 := df
 apply c9
 refine s_ (sqB dg a8 [1, 1] [] [(50, .bool ((((!(integerS E).2) || (!(integerS H).2)) || (decide ((integerS E).1 < 0))) || (decide ((integerS H).1 < 0))))] ?_); intro jY bm
 refine c_ bm bx (fun _ f1 => ?_) fun _ f4 => ?_
 ·
  refine sqH ?_; intro f2 dh
  refine l2 bm a8 51 1 0 8 [i6 (integerS E).1, i6 (integerS H).1, i6 0, .bool false, .bool false, .bool false, i6 0, .slice none 0 0] rfl rfl ?_; intro jZ bX
  refine sx bX a8 2 [i6 (integerS E).1, i6 (integerS H).1, i6 0, .bool false, .bool false, .bool false, i6 0, .slice none 0 0] 0 ?_; intro f3 di
  refine s1 bX 3 (.bool false) ?_; intro j0 dj
  have dk : Mem w.heap.size [] w Z [.own tyStr 9 (sm B) C (splitS u0 ([32] : List UInt8)), .row f [i6 (integerS E).1, i6 (integerS H).1, i6 0, .bool false, .bool false, .bool false, i6 0, .slice none 0 0] 36, .row l [i6 (integerS E).1, i6 (integerS H).1, i6 0, .bool false, .bool false, .bool false, i6 0, .slice none 0 0] 36] U f3 := di
  apply dh
  refine r_ (h_ (rt (fn := Tryz.f13) (v := .tuple #[.agg #[i6 (integerS E).1, i6 (integerS H).1, i6 0, .bool false, .bool false, .bool false, i6 0, .slice none 0 0], .bool false]) dj (re2c dj (fn := Tryz.f13) rfl (ad := ⟨l, 0, none⟩) (by kernel_rfl) (loadVar_run dk 2 (b := l) (k := 8) (vs := [i6 (integerS E).1, i6 (integerS H).1, i6 0, .bool false, .bool false, .bool false, i6 0, .slice none 0 0]) (ty := 36) rfl (by kernel_rfl) (by kernel_rfl)) (by kernel_rfl)) ?_))
  exact ⟨((⟨(integerS E).1, (integerS H).1, (⟨0, false, false, false, 0, []⟩ : Frame)⟩ : Line), false), none, 0, U, rfl, f1, (SlR.nil _ _), dk.kp⟩
 refine k_ (sqB bm a8 [] [] [(8, .func (.func 28) #[] #[])] ?_); intro j1 dl
 refine sqH ?_; intro f5 dm
 refine s1 dl 52 (.slice (sm B) (splitS u0 ([32] : List UInt8)).length C) ?_; intro j2 dn
 obtain ⟨f6, dp⟩ := f4
 refine ixo dn a8 0 (T := tyStr) (xs := (splitS u0 ([32] : List UInt8))) (2 : Int) f6 (k := .i64) (e := 9) (bytes := 16) (nog rfl _) rfl (by kernel_rfl) rfl (by kernel_rfl) (by kernel_rfl) rfl (by kernel_rfl) ?_; intro f7 j3 f8 dq
 obtain rfl : B = f7 := by simpa using f8
 obtain ⟨h, f9, ga⟩ := gxq dp (by first | omega | (simp only [List.length_set] at *; omega))
 obtain ⟨gb, gc, gd⟩ := own_el a8 0 (T := tyStr) (xs := (splitS u0 ([32] : List UInt8))) rfl (2 : Int).toNat f9
 obtain rfl : gb = ([str h] : List Value) := gc
 refine lc1 dq 54 (str h) (gd 0 _ rfl) rfl ?_; intro j4 dr
 obtain ⟨ge, bz⟩ := ga
 refine fc dr a8 (sia_fun h ([35, 63] : List UInt8) ge _ _ a8.fz) ?_; intro j5 j6 ds bb
 refine s1 ds 9 (i6 (Lib.indexAny h ([35, 63] : List UInt8))) ?_; intro gf dt
 apply dm
 apply s_
 have du : Fr 147 [] [⟨2, [], pt l 0⟩, ⟨4, [], pt f 0⟩, ⟨5, [], .slice (sm B) (splitS u0 ([32] : List UInt8)).length C⟩, ⟨8, [], .func (.func 28) #[] #[]⟩, ⟨9, [], i6 (Lib.indexAny h ([35, 63] : List UInt8))⟩] gf := dt.reg
 refine sqB du bb [] [] [(61, .bool (((Lib.indexAny h ([35, 63] : List UInt8)) != 3) && ((Lib.indexAny h ([35, 63] : List UInt8)) != 8)))] ?_; intro j7 bn
 refine c_ bn bz (fun _ gg => ?_) fun _ gj => ?_
 ·
  refine sqH ?_; intro gh dv
  refine l2 bn bb 62 1 0 8 [i6 (integerS E).1, i6 (integerS H).1, i6 0, .bool false, .bool false, .bool false, i6 0, .slice none 0 0] rfl rfl ?_; intro j8 bZ
  refine sx bZ bb 2 [i6 (integerS E).1, i6 (integerS H).1, i6 0, .bool false, .bool false, .bool false, i6 0, .slice none 0 0] 0 ?_; intro gi dw
  refine s1 bZ 3 (.bool false) ?_; intro j9 dx
  have dy : Mem w.heap.size [] w Z [.own tyStr 9 (sm B) C (splitS u0 ([32] : List UInt8)), .row f [i6 (integerS E).1, i6 (integerS H).1, i6 0, .bool false, .bool false, .bool false, i6 0, .slice none 0 0] 36, .row l [i6 (integerS E).1, i6 (integerS H).1, i6 0, .bool false, .bool false, .bool false, i6 0, .slice none 0 0] 36] U gi := dw
  apply dv
  refine r_ (h_ (rt (fn := Tryz.f13) (v := .tuple #[.agg #[i6 (integerS E).1, i6 (integerS H).1, i6 0, .bool false, .bool false, .bool false, i6 0, .slice none 0 0], .bool false]) dx (re2c dx (fn := Tryz.f13) rfl (ad := ⟨l, 0, none⟩) (by kernel_rfl) (loadVar_run dy 2 (b := l) (k := 8) (vs := [i6 (integerS E).1, i6 (integerS H).1, i6 0, .bool false, .bool false, .bool false, i6 0, .slice none 0 0]) (ty := 36) rfl (by kernel_rfl) (by kernel_rfl)) (by kernel_rfl)) ?_))
  exact ⟨((⟨(integerS E).1, (integerS H).1, (⟨0, false, false, false, 0, []⟩ : Frame)⟩ : Line), false), none, 0, U, rfl, gg, (SlR.nil _ _), dy.kp⟩
 refine k_ (sqH ?_); intro gk dz
 refine bt bn bb 4 [] [] [(64, .bool ((Lib.indexAny h ([35, 63] : List UInt8)) == 8)), (66, pt f 3)] ?_; intro ka b0
 refine sx b0 bb 1 [i6 (integerS E).1, i6 (integerS H).1, i6 0, .bool ((Lib.indexAny h ([35, 63] : List UInt8)) == 8), .bool false, .bool false, i6 0, .slice none 0 0] 3 ?_; intro gl dA
 have bd : Mem w.heap.size [] w Z [.own tyStr 9 (sm B) C (splitS u0 ([32] : List UInt8)), .row f [i6 (integerS E).1, i6 (integerS H).1, i6 0, .bool ((Lib.indexAny h ([35, 63] : List UInt8)) == 8), .bool false, .bool false, i6 0, .slice none 0 0] 36, .row l [i6 0, i6 0, i6 0, .bool false, .bool false, .bool false, i6 0, .slice none 0 0] 36] U gl := dA
 apply dz
 refine s_ (sqH ?_); intro gm dB
 refine bt b0 bd 2 [] [] [(68, .func (.func 28) #[] #[]), (69, .slice (sm B) (splitS u0 ([32] : List UInt8)).length C)] ?_; intro kb dC
 obtain ⟨gn, dD⟩ := gj
 refine ixo dC bd 0 (T := tyStr) (xs := (splitS u0 ([32] : List UInt8))) (2 : Int) gn (k := .i64) (e := 9) (bytes := 16) (nog rfl _) rfl (by kernel_rfl) rfl (by kernel_rfl) (by kernel_rfl) rfl (by kernel_rfl) ?_; intro go kc gp dE
 obtain rfl : B = go := by simpa using gp
 obtain ⟨X, gq, gr⟩ := gxq dD (by first | omega | (simp only [List.length_set] at *; omega))
 obtain ⟨gs, gt, gu⟩ := own_el bd 0 (T := tyStr) (xs := (splitS u0 ([32] : List UInt8))) rfl (2 : Int).toNat gq
 obtain rfl : gs = ([str X] : List Value) := gt
 refine lc1 dE 71 (str X) (gu 0 _ rfl) rfl ?_; intro kd dF
 refine s1 dF 72 (i6 (Lib.indexAny h ([35, 63] : List UInt8))) ?_; intro ke b1
 obtain ⟨gv, gw⟩ := gr
 refine u_ b1 (str (X.take (Lib.indexAny h ([35, 63] : List UInt8)).toNat)) (strslH_run b1 (g := []) (k := .i64) rfl (by kernel_rfl) (by kernel_rfl) (by kernel_rfl) gv rfl) ?_; intro kg dG
 obtain ⟨gx, bA⟩ := gw
 refine fc dG bd (lhex_fun (X.take (Lib.indexAny h ([35, 63] : List UInt8)).toNat) gx _ _ bd.fz) ?_; intro kh ki dH b3
 refine bt dH b3 5 [] [] [(75, i6 (lhexS (X.take (Lib.indexAny h ([35, 63] : List UInt8)).toNat)).1), (76, .bool (lhexS (X.take (Lib.indexAny h ([35, 63] : List UInt8)).toNat)).2), (78, pt f 2)] ?_; intro kj b4
 refine sx b4 b3 1 [i6 (integerS E).1, i6 (integerS H).1, i6 (lhexS (X.take (Lib.indexAny h ([35, 63] : List UInt8)).toNat)).1, .bool ((Lib.indexAny h ([35, 63] : List UInt8)) == 8), .bool false, .bool false, i6 0, .slice none 0 0] 2 ?_; intro gy dI
 refine s1 b4 6 (.bool (lhexS (X.take (Lib.indexAny h ([35, 63] : List UInt8)).toNat)).2) ?_; intro kk dJ
 have aS : Mem w.heap.size [] w Z [.own tyStr 9 (sm B) C (splitS u0 ([32] : List UInt8)), .row f [i6 (integerS E).1, i6 (integerS H).1, i6 (lhexS (X.take (Lib.indexAny h ([35, 63] : List UInt8)).toNat)).1, .bool ((Lib.indexAny h ([35, 63] : List UInt8)) == 8), .bool false, .bool false, i6 0, .slice none 0 0] 36, .row l [i6 0, i6 0, i6 0, .bool false, .bool false, .bool false, i6 0, .slice none 0 0] 36] U gy := dI
 apply dB
 refine sqB dJ aS [] [] [(80, .bool (!(lhexS (X.take (Lib.indexAny h ([35, 63] : List UInt8)).toNat)).2))] ?_; intro kl bo
 refine c_ bo bA (fun _ gz => ?_) fun _ gC => ?_
 ·
  refine sqH ?_; intro gA dK
  refine l2 bo aS 81 1 0 8 [i6 (integerS E).1, i6 (integerS H).1, i6 (lhexS (X.take (Lib.indexAny h ([35, 63] : List UInt8)).toNat)).1, .bool ((Lib.indexAny h ([35, 63] : List UInt8)) == 8), .bool false, .bool false, i6 0, .slice none 0 0] rfl rfl ?_; intro km b6
  refine sx b6 aS 2 [i6 (integerS E).1, i6 (integerS H).1, i6 (lhexS (X.take (Lib.indexAny h ([35, 63] : List UInt8)).toNat)).1, .bool ((Lib.indexAny h ([35, 63] : List UInt8)) == 8), .bool false, .bool false, i6 0, .slice none 0 0] 0 ?_; intro gB dL
  refine s1 b6 3 (.bool false) ?_; intro kn dM
  have dN : Mem w.heap.size [] w Z [.own tyStr 9 (sm B) C (splitS u0 ([32] : List UInt8)), .row f [i6 (integerS E).1, i6 (integerS H).1, i6 (lhexS (X.take (Lib.indexAny h ([35, 63] : List UInt8)).toNat)).1, .bool ((Lib.indexAny h ([35, 63] : List UInt8)) == 8), .bool false, .bool false, i6 0, .slice none 0 0] 36, .row l [i6 (integerS E).1, i6 (integerS H).1, i6 (lhexS (X.take (Lib.indexAny h ([35, 63] : List UInt8)).toNat)).1, .bool ((Lib.indexAny h ([35, 63] : List UInt8)) == 8), .bool false, .bool false, i6 0, .slice none 0 0] 36] U gB := dL
  apply dK
  refine r_ (h_ (rt (fn := Tryz.f13) (v := .tuple #[.agg #[i6 (integerS E).1, i6 (integerS H).1, i6 (lhexS (X.take (Lib.indexAny h ([35, 63] : List UInt8)).toNat)).1, .bool ((Lib.indexAny h ([35, 63] : List UInt8)) == 8), .bool false, .bool false, i6 0, .slice none 0 0], .bool false]) dM (re2c dM (fn := Tryz.f13) rfl (ad := ⟨l, 0, none⟩) (by kernel_rfl) (loadVar_run dN 2 (b := l) (k := 8) (vs := [i6 (integerS E).1, i6 (integerS H).1, i6 (lhexS (X.take (Lib.indexAny h ([35, 63] : List UInt8)).toNat)).1, .bool ((Lib.indexAny h ([35, 63] : List UInt8)) == 8), .bool false, .bool false, i6 0, .slice none 0 0]) (ty := 36) rfl (by kernel_rfl) (by kernel_rfl)) (by kernel_rfl)) ?_))
  exact ⟨((⟨(integerS E).1, (integerS H).1, (⟨(lhexS (X.take (Lib.indexAny h ([35, 63] : List UInt8)).toNat)).1, (Lib.indexAny h ([35, 63] : List UInt8)) == 8, false, false, 0, []⟩ : Frame)⟩ : Line), false), none, 0, U, rfl, gz, (SlR.nil _ _), dN.kp⟩
 refine k_ (sqH ?_); intro gD dO
 refine s1 bo 82 (.slice (sm B) (splitS u0 ([32] : List UInt8)).length C) ?_; intro ko dP
 obtain ⟨gE, dQ⟩ := gC
 refine ixo dP aS 0 (T := tyStr) (xs := (splitS u0 ([32] : List UInt8))) (2 : Int) gE (k := .i64) (e := 9) (bytes := 16) (nog rfl _) rfl (by kernel_rfl) rfl (by kernel_rfl) (by kernel_rfl) rfl (by kernel_rfl) ?_; intro gF kp gG dR
 obtain rfl : B = gF := by simpa using gG
 obtain ⟨I, gH, gI⟩ := gxq dQ (by first | omega | (simp only [List.length_set] at *; omega))
 obtain ⟨gJ, gK, gL⟩ := own_el aS 0 (T := tyStr) (xs := (splitS u0 ([32] : List UInt8))) rfl (2 : Int).toNat gH
 obtain rfl : gJ = ([str I] : List Value) := gK
 refine lc1 dR 84 (str I) (gL 0 _ rfl) rfl ?_; intro kq dS
 refine bt dS aS 2 [] [] [(86, i6 (w64 ((Lib.indexAny h ([35, 63] : List UInt8)) + 1)))] ?_; intro kr b7
 obtain ⟨gM, gN⟩ := gI
 refine u_ b7 (str (I.drop (w64 ((Lib.indexAny h ([35, 63] : List UInt8)) + 1)).toNat)) (strslL_run b7 (g := []) (k := .i64) rfl (by kernel_rfl) (by kernel_rfl) (by kernel_rfl) gM rfl) ?_; intro ks dT
 refine s1 dT 10 (str (I.drop (w64 ((Lib.indexAny h ([35, 63] : List UInt8)) + 1)).toNat)) ?_; intro kt dU
 apply dO
 refine s_ (sqH ?_); intro gO dV
 refine s1 dU 88 (.slice (sm B) (splitS u0 ([32] : List UInt8)).length C) ?_; intro ku dW
 obtain ⟨gP, dX⟩ := gN
 refine ixo dW aS 0 (T := tyStr) (xs := (splitS u0 ([32] : List UInt8))) (2 : Int) gP (k := .i64) (e := 9) (bytes := 16) (nog rfl _) rfl (by kernel_rfl) rfl (by kernel_rfl) (by kernel_rfl) rfl (by kernel_rfl) ?_; intro gQ kv gR dY
 obtain rfl : B = gQ := by simpa using gR
 obtain ⟨b8, gS, gT⟩ := gxq dX (by first | omega | (simp only [List.length_set] at *; omega))
 obtain ⟨gU, gV, gW⟩ := own_el aS 0 (T := tyStr) (xs := (splitS u0 ([32] : List UInt8))) rfl (2 : Int).toNat gS
 obtain rfl : gU = ([str b8] : List Value) := gV
 refine lc1 dY 90 (str b8) (gW 0 _ rfl) rfl ?_; intro kw dZ
 refine s1 dZ 91 (i6 (Lib.indexAny h ([35, 63] : List UInt8))) ?_; intro kx d0
 obtain ⟨gX, gY⟩ := gT
 obtain ⟨b9, d1⟩ : ∃ q, b8[(Lib.indexAny h ([35, 63] : List UInt8)).toNat]? = some q := ⟨_, List.getElem?_eq_getElem (by omega)⟩; have bB := gY b9 d1
 refine si d0 .i64 gX.1 d1 ?_; intro ky d2
 refine s1 d2 93 (.bool ((b9.toNat : Int) == 63)) ?_; intro kz bp
 apply dV
 refine c_ bp bB (fun _ gZ => ?_) fun _ bC => ?_
 ·
  refine sqH ?_; intro g0 d3
  refine bt bp aS 2 [] [] [(95, pt f 5)] ?_; intro g1 cb
  refine sx cb aS 1 [i6 (integerS E).1, i6 (integerS H).1, i6 (lhexS (X.take (Lib.indexAny h ([35, 63] : List UInt8)).toNat)).1, .bool ((Lib.indexAny h ([35, 63] : List UInt8)) == 8), .bool false, .bool true, i6 0, .slice none 0 0] 5 ?_; intro g2 d4
  have cc : Mem w.heap.size [] w Z [.own tyStr 9 (sm B) C (splitS u0 ([32] : List UInt8)), .row f [i6 (integerS E).1, i6 (integerS H).1, i6 (lhexS (X.take (Lib.indexAny h ([35, 63] : List UInt8)).toNat)).1, .bool ((Lib.indexAny h ([35, 63] : List UInt8)) == 8), .bool false, .bool true, i6 0, .slice none 0 0] 36, .row l [i6 0, i6 0, i6 0, .bool false, .bool false, .bool false, i6 0, .slice none 0 0] 36] U g2 := d4
  apply d3
  have d5 : Fr 147 [] [⟨2, [], pt l 0⟩, ⟨4, [], pt f 0⟩, ⟨10, [], str (I.drop (w64 ((Lib.indexAny h ([35, 63] : List UInt8)) + 1)).toNat)⟩] g1 := cb.reg
  refine sqH ?_; intro g3 d6
  refine s1 d5 97 (str (I.drop (w64 ((Lib.indexAny h ([35, 63] : List UInt8)) + 1)).toNat)) ?_; intro kA d7
  obtain ⟨g4, g5⟩ := gZ
  refine fc d7 cc (integer_fun (I.drop (w64 ((Lib.indexAny h ([35, 63] : List UInt8)) + 1)).toNat) g4 _ _ cc.fz) ?_; intro kB kC d8 ce
  refine bt d8 ce 5 [] [] [(99, i6 (integerS (I.drop (w64 ((Lib.indexAny h ([35, 63] : List UInt8)) + 1)).toNat)).1), (100, .bool (integerS (I.drop (w64 ((Lib.indexAny h ([35, 63] : List UInt8)) + 1)).toNat)).2), (102, pt f 6)] ?_; intro kD cf
  refine sx cf ce 1 [i6 (integerS E).1, i6 (integerS H).1, i6 (lhexS (X.take (Lib.indexAny h ([35, 63] : List UInt8)).toNat)).1, .bool ((Lib.indexAny h ([35, 63] : List UInt8)) == 8), .bool false, .bool true, i6 (integerS (I.drop (w64 ((Lib.indexAny h ([35, 63] : List UInt8)) + 1)).toNat)).1, .slice none 0 0] 6 ?_; intro g6 d9
  refine s1 cf 6 (.bool (integerS (I.drop (w64 ((Lib.indexAny h ([35, 63] : List UInt8)) + 1)).toNat)).2) ?_; intro g7 ea
  have eb : Mem w.heap.size [] w Z [.own tyStr 9 (sm B) C (splitS u0 ([32] : List UInt8)), .row f [i6 (integerS E).1, i6 (integerS H).1, i6 (lhexS (X.take (Lib.indexAny h ([35, 63] : List UInt8)).toNat)).1, .bool ((Lib.indexAny h ([35, 63] : List UInt8)) == 8), .bool false, .bool true, i6 (integerS (I.drop (w64 ((Lib.indexAny h ([35, 63] : List UInt8)) + 1)).toNat)).1, .slice none 0 0] 36, .row l [i6 0, i6 0, i6 0, .bool false, .bool false, .bool false, i6 0, .slice none 0 0] 36] U g6 := d9
  apply d6
  have ec : Fr 147 [] [⟨2, [], pt l 0⟩, ⟨4, [], pt f 0⟩, ⟨6, [], .bool (integerS (I.drop (w64 ((Lib.indexAny h ([35, 63] : List UInt8)) + 1)).toNat)).2⟩] g7 := ea.reg
  refine wp_seq (rgS mixed eb [(0, true), (1, true), (2, true), (3, true), (4, true), (5, true), (6, true), (7, true), (8, false), (9, true)] [] [1] [.row f [i6 (integerS E).1, i6 (integerS H).1, i6 (lhexS (X.take (Lib.indexAny h ([35, 63] : List UInt8)).toNat)).1, .bool ((Lib.indexAny h ([35, 63] : List UInt8)) == 8), .bool false, .bool true, i6 (integerS (I.drop (w64 ((Lib.indexAny h ([35, 63] : List UInt8)) + 1)).toNat)).1, .slice none 0 0] 36] ?_)
  intro g8 ed kE ee
  have g9 := Fz.le.refl U
  refine cS ec 8 [0, 0] [] [(103, .agg #[i6 (integerS E).1, i6 (integerS H).1, i6 (lhexS (X.take (Lib.indexAny h ([35, 63] : List UInt8)).toNat)).1, .bool ((Lib.indexAny h ([35, 63] : List UInt8)) == 8), .bool false, .bool true, i6 (integerS (I.drop (w64 ((Lib.indexAny h ([35, 63] : List UInt8)) + 1)).toNat)).1, .slice none 0 0]), (110, .bool ((integerS (I.drop (w64 ((Lib.indexAny h ([35, 63] : List UInt8)) + 1)).toNat)).2 && (decide ((integerS (I.drop (w64 ((Lib.indexAny h ([35, 63] : List UInt8)) + 1)).toNat)).1 ≥ 0))))] ?_; intro kF cg
  refine eS rfl ?_; intro ha ef
  refine sx cg ee 2 [i6 (integerS E).1, i6 (integerS H).1, i6 (lhexS (X.take (Lib.indexAny h ([35, 63] : List UInt8)).toNat)).1, .bool ((Lib.indexAny h ([35, 63] : List UInt8)) == 8), .bool false, .bool true, i6 (integerS (I.drop (w64 ((Lib.indexAny h ([35, 63] : List UInt8)) + 1)).toNat)).1, .slice none 0 0] 0 ?_; intro hb eg
  have ch : Mem w.heap.size [] w Z [.own tyStr 9 (sm B) C (splitS u0 ([32] : List UInt8)), .row f [i6 (integerS E).1, i6 (integerS H).1, i6 (lhexS (X.take (Lib.indexAny h ([35, 63] : List UInt8)).toNat)).1, .bool ((Lib.indexAny h ([35, 63] : List UInt8)) == 8), .bool false, .bool true, i6 (integerS (I.drop (w64 ((Lib.indexAny h ([35, 63] : List UInt8)) + 1)).toNat)).1, .slice none 0 0] 36, .row l [i6 (integerS E).1, i6 (integerS H).1, i6 (lhexS (X.take (Lib.indexAny h ([35, 63] : List UInt8)).toNat)).1, .bool ((Lib.indexAny h ([35, 63] : List UInt8)) == 8), .bool false, .bool true, i6 (integerS (I.drop (w64 ((Lib.indexAny h ([35, 63] : List UInt8)) + 1)).toNat)).1, .slice none 0 0] 36] U hb := eg
  refine nl (qnI (ef _ _ (ch.cst g9 [1]) ?_))
  refine cS cg 1 [] [] [(3, .bool ((integerS (I.drop (w64 ((Lib.indexAny h ([35, 63] : List UInt8)) + 1)).toNat)).2 && (decide ((integerS (I.drop (w64 ((Lib.indexAny h ([35, 63] : List UInt8)) + 1)).toNat)).1 ≥ 0))))] ?_; intro kG eh
  refine nS (ed _ _ ?_)
  refine t_ (r_ (h_ (rt (fn := Tryz.f13) (v := .tuple #[.agg #[i6 (integerS E).1, i6 (integerS H).1, i6 (lhexS (X.take (Lib.indexAny h ([35, 63] : List UInt8)).toNat)).1, .bool ((Lib.indexAny h ([35, 63] : List UInt8)) == 8), .bool false, .bool true, i6 (integerS (I.drop (w64 ((Lib.indexAny h ([35, 63] : List UInt8)) + 1)).toNat)).1, .slice none 0 0], .bool ((integerS (I.drop (w64 ((Lib.indexAny h ([35, 63] : List UInt8)) + 1)).toNat)).2 && (decide ((integerS (I.drop (w64 ((Lib.indexAny h ([35, 63] : List UInt8)) + 1)).toNat)).1 ≥ 0)))]) eh (re2c eh (fn := Tryz.f13) rfl (ad := ⟨l, 0, none⟩) (by kernel_rfl) (loadVar_run ch 2 (b := l) (k := 8) (vs := [i6 (integerS E).1, i6 (integerS H).1, i6 (lhexS (X.take (Lib.indexAny h ([35, 63] : List UInt8)).toNat)).1, .bool ((Lib.indexAny h ([35, 63] : List UInt8)) == 8), .bool false, .bool true, i6 (integerS (I.drop (w64 ((Lib.indexAny h ([35, 63] : List UInt8)) + 1)).toNat)).1, .slice none 0 0]) (ty := 36) rfl (by kernel_rfl) (by kernel_rfl)) (by kernel_rfl)) ?_)))
  exact ⟨((⟨(integerS E).1, (integerS H).1, (⟨(lhexS (X.take (Lib.indexAny h ([35, 63] : List UInt8)).toNat)).1, (Lib.indexAny h ([35, 63] : List UInt8)) == 8, false, true, (integerS (I.drop (w64 ((Lib.indexAny h ([35, 63] : List UInt8)) + 1)).toNat)).1, []⟩ : Frame)⟩ : Line), (integerS (I.drop (w64 ((Lib.indexAny h ([35, 63] : List UInt8)) + 1)).toNat)).2 && (decide ((integerS (I.drop (w64 ((Lib.indexAny h ([35, 63] : List UInt8)) + 1)).toNat)).1 ≥ 0))), none, 0, U, rfl, g5, (SlR.nil _ _), ch.kp⟩
 refine k_ (s_ (sqH ?_)); intro hc ei
 refine s1 bp 111 (str (I.drop (w64 ((Lib.indexAny h ([35, 63] : List UInt8)) + 1)).toNat)) ?_; intro kH ej
 refine fc ej aS (hasp_fun (I.drop (w64 ((Lib.indexAny h ([35, 63] : List UInt8)) + 1)).toNat) ([35] : List UInt8) _ _ aS.fz) ?_; intro kI kJ ek ci
 refine bt ek ci 2 [] [] [(114, pt f 4)] ?_; intro hd cj
 refine sx cj ci 1 [i6 (integerS E).1, i6 (integerS H).1, i6 (lhexS (X.take (Lib.indexAny h ([35, 63] : List UInt8)).toNat)).1, .bool ((Lib.indexAny h ([35, 63] : List UInt8)) == 8), .bool (hasp (I.drop (w64 ((Lib.indexAny h ([35, 63] : List UInt8)) + 1)).toNat) ([35] : List UInt8)), .bool false, i6 0, .slice none 0 0] 4 ?_; intro cl el
 have bc : Mem w.heap.size [] w Z [.own tyStr 9 (sm B) C (splitS u0 ([32] : List UInt8)), .row f [i6 (integerS E).1, i6 (integerS H).1, i6 (lhexS (X.take (Lib.indexAny h ([35, 63] : List UInt8)).toNat)).1, .bool ((Lib.indexAny h ([35, 63] : List UInt8)) == 8), .bool (hasp (I.drop (w64 ((Lib.indexAny h ([35, 63] : List UInt8)) + 1)).toNat) ([35] : List UInt8)), .bool false, i6 0, .slice none 0 0] 36, .row l [i6 0, i6 0, i6 0, .bool false, .bool false, .bool false, i6 0, .slice none 0 0] 36] U cl := el
 apply ei
 have em : Fr 147 [] [⟨2, [], pt l 0⟩, ⟨4, [], pt f 0⟩, ⟨8, [], .func (.func 28) #[] #[]⟩, ⟨10, [], str (I.drop (w64 ((Lib.indexAny h ([35, 63] : List UInt8)) + 1)).toNat)⟩] hd := cj.reg
 refine sqB em bc [1] [] [(117, .bool (hasp (I.drop (w64 ((Lib.indexAny h ([35, 63] : List UInt8)) + 1)).toNat) ([35] : List UInt8)))] ?_; intro bD bq
 refine c_ bq bC (fun _ he => ?_) fun _ ix => ?_
 ·
  refine rgH ?_; intro hf en
  refine s1 bq 118 (str (I.drop (w64 ((Lib.indexAny h ([35, 63] : List UInt8)) + 1)).toNat)) ?_; intro kK cn
  obtain ⟨hg, hh⟩ := he
  refine u_ cn (str ((I.drop (w64 ((Lib.indexAny h ([35, 63] : List UInt8)) + 1)).toNat).drop (1 : Int).toNat)) (strslL_run cn (g := []) (k := .i64) rfl (by kernel_rfl) (by kernel_rfl) (by kernel_rfl) hg rfl) ?_; intro kL eo
  refine s1 eo 10 (str ((I.drop (w64 ((Lib.indexAny h ([35, 63] : List UInt8)) + 1)).toNat).drop (1 : Int).toNat)) ?_; intro bE ep
  apply en
  apply t_
  have eq : Fr 147 [] [⟨2, [], pt l 0⟩, ⟨4, [], pt f 0⟩, ⟨8, [], .func (.func 28) #[] #[]⟩, ⟨10, [], str ((I.drop (w64 ((Lib.indexAny h ([35, 63] : List UInt8)) + 1)).toNat).drop (1 : Int).toNat)⟩] bE := ep.reg
  obtain ⟨hj, hk, hl⟩ := hh
  refine wp_seq_k fun KJ459 hKJ460 => ?_
  have hn : ∀ (aP : List UInt8) (j : Line) (aE : Option Addr) (aF : Nat) (be : Fz), hj aP j ∧ SlR t8 be aE aF j.F.Data ∧ Fz.le U be → ∀ a1 w1, Fr 147 [] [⟨2, [], pt l 0⟩, ⟨4, [], pt f 0⟩, ⟨10, [], str aP⟩] a1 → Mem w.heap.size [] w Z [.own tyStr 9 (sm B) C (splitS u0 ([32] : List UInt8)), .row f (e36La j aE aF) 36, .row l [i6 0, i6 0, i6 0, .bool false, .bool false, .bool false, i6 0, .slice none 0 0] 36] be w1 → KJ459 a1 w1 := by
   rintro aP j aE aF be ⟨ho, cp, hq⟩ kM kN er cq
   refine hKJ460 _ _ ?_
   have hr := hl aP j ho
   refine sqH ?_; intro ht es
   refine bt er cq 3 [1] [293] [(144, .agg (e36La j aE aF).toArray), (146, .bool (aP == ([] : List UInt8)))] ?_; intro kO cr
   refine sx cr cq 2 (e36La j aE aF) 0 ?_; intro hu et
   refine s1 cr 3 (.bool (aP == ([] : List UInt8))) ?_; intro kP eu
   have ev : Mem w.heap.size [] w Z [.own tyStr 9 (sm B) C (splitS u0 ([32] : List UInt8)), .row f (e36La j aE aF) 36, .row l (e36La j aE aF) 36] be hu := et
   apply es
   refine r_ (rt (fn := Tryz.f13) (v := .tuple #[.agg (e36La j aE aF).toArray, .bool (aP == ([] : List UInt8))]) eu (re2c eu (fn := Tryz.f13) rfl (ad := ⟨l, 0, none⟩) (by kernel_rfl) (loadVar_run ev 2 (b := l) (k := 8) (vs := (e36La j aE aF)) (ty := 36) rfl (by kernel_rfl) (by kernel_rfl)) (by kernel_rfl)) ?_)
   exact ⟨(j, aP == ([] : List UInt8)), aE, aF, be, rfl, hr, cp, ev.kp⟩
  have aK := Fz.le.refl U
  apply b_
  have ew : Fr 147 [] [⟨2, [], pt l 0⟩, ⟨4, [], pt f 0⟩, ⟨8, [], .func (.func 28) #[] #[]⟩, ⟨10, [], str ((I.drop (w64 ((Lib.indexAny h ([35, 63] : List UInt8)) + 1)).toNat).drop (1 : Int).toNat)⟩] bE := eq.reg
  have ex : Mem w.heap.size [] w Z [.own t8 5 none 0 ([] : List Int), .own tyStr 9 (sm B) C (splitS u0 ([32] : List UInt8)), .row f [i6 (integerS E).1, i6 (integerS H).1, i6 (lhexS (X.take (Lib.indexAny h ([35, 63] : List UInt8)).toNat)).1, .bool ((Lib.indexAny h ([35, 63] : List UInt8)) == 8), .bool (hasp (I.drop (w64 ((Lib.indexAny h ([35, 63] : List UInt8)) + 1)).toNat) ([35] : List UInt8)), .bool false, i6 0, .slice none 0 0] 36, .row l [i6 0, i6 0, i6 0, .bool false, .bool false, .bool false, i6 0, .slice none 0 0] 36] U cl := bc.addNil t8 5 (by decide)
  have ey : Fr 147 [] [⟨2, [], pt l 0⟩, ⟨4, [], pt f 0⟩, ⟨8, [], .func (.func 28) #[] #[]⟩, ⟨10, [], str ((I.drop (w64 ((Lib.indexAny h ([35, 63] : List UInt8)) + 1)).toNat).drop (1 : Int).toNat)⟩] bE := ew.reg
  obtain ⟨hv, hw, hx, hy⟩ := hk
  refine lp (ι := (List UInt8) × Line × (Option Addr) × Nat) (fun s => [⟨2, [], pt l 0⟩, ⟨4, [], pt f 0⟩, ⟨8, [], .func (.func 28) #[] #[]⟩, ⟨10, [], str s.1⟩]) (fun s => [.own t8 5 s.2.2.1 s.2.2.2 s.2.1.F.Data, .own tyStr 9 (sm B) C (splitS u0 ([32] : List UInt8)), .row f [i6 s.2.1.Time, i6 s.2.1.Bus, i6 s.2.1.F.ID, .bool s.2.1.F.Long, .bool s.2.1.F.Fast, .bool s.2.1.F.Remote, i6 s.2.1.F.Size, .slice s.2.2.1 s.2.1.F.Data.length s.2.2.2] 36, .row l [i6 0, i6 0, i6 0, .bool false, .bool false, .bool false, i6 0, .slice none 0 0] 36]) (fun s => U) (fun s => hv s.1 s.2.1) (fun s => hw s.1 s.2.1) ⟨(I.drop (w64 ((Lib.indexAny h ([35, 63] : List UInt8)) + 1)).toNat).drop (1 : Int).toNat, (⟨(integerS E).1, (integerS H).1, (⟨(lhexS (X.take (Lib.indexAny h ([35, 63] : List UInt8)).toNat)).1, (Lib.indexAny h ([35, 63] : List UInt8)) == 8, (hasp (I.drop (w64 ((Lib.indexAny h ([35, 63] : List UInt8)) + 1)).toNat) ([35] : List UInt8)), false, 0, ([] : List Int)⟩ : Frame)⟩ : Line), none, 0⟩ hx (by exact ey.reg) (by exact ex) ?_
  rintro ⟨d, c, n, p⟩ hz hA ez eA eB
  have bF := hy d c hz
  refine s_ (sqB eA eB [] [] [(122, .bool (decide ((d.length : Int) ≥ 2)))] ?_); intro kQ bG
  refine c_ bG bF (fun _ hB => ?_) fun _ iu => ?_
  ·
   refine k_ (b_ (sqH ?_)); intro hC eD
   refine bt bG eB 2 [] [] [(124, .func (.func 28) #[] #[]), (125, str d)] ?_; intro kR ct
   obtain ⟨hD, hF⟩ := hB
   refine u_ ct (str (d.take (2 : Int).toNat)) (strslH_run ct (g := []) (k := .i64) rfl (by kernel_rfl) (by kernel_rfl) (by kernel_rfl) hD rfl) ?_; intro kS eE
   obtain ⟨hH, bH⟩ := hF
   refine fc eE eB (lhex_fun (d.take (2 : Int).toNat) hH _ _ eB.fz) ?_; intro kT kU eF bg
   refine bt eF bg 5 [] [] [(11, i6 (lhexS (d.take (2 : Int).toNat)).1), (12, .bool (lhexS (d.take (2 : Int).toNat)).2)] ?_; intro kV eG
   apply eD
   refine s_ (sqB eG bg [] [] [(131, .bool (!(lhexS (d.take (2 : Int).toNat)).2))] ?_); intro aY br
   refine c_ br bH (fun _ hK => ?_) fun _ hO => ?_
   ·
    refine sqH ?_; intro hL eH
    refine l2 br bg 132 2 0 8 (e36La c n p) rfl rfl ?_; intro kW cv
    refine sx cv bg 3 (e36La c n p) 0 ?_; intro eI eJ
    refine s1 cv 3 (.bool false) ?_; intro kX eK
    have hM : Mem w.heap.size [] w Z [.own t8 5 n p c.F.Data, .own tyStr 9 (sm B) C (splitS u0 ([32] : List UInt8)), .row f (e36La c n p) 36, .row l (e36La c n p) 36] U eI := eJ
    apply eH
    refine r_ (h_ (i_ (h_ (i_ (h_ ?_)))))
    obtain ⟨eL, eM, eN, hN⟩ := hM.freeze 0 rfl
    have eO : Mem w.heap.size [] w Z [.own tyStr 9 (sm B) C (splitS u0 ([32] : List UInt8)), .row f (e36La c n p) 36, .row l (e36La c n p) 36] eL eI := eN
    refine rt (fn := Tryz.f13) (v := .tuple #[.agg (e36La c n p).toArray, .bool false]) eK (re2c eK (fn := Tryz.f13) rfl (ad := ⟨l, 0, none⟩) (by kernel_rfl) (loadVar_run eO 2 (b := l) (k := 8) (vs := (e36La c n p)) (ty := 36) rfl (by kernel_rfl) (by kernel_rfl)) (by kernel_rfl)) ?_
    exact ⟨(c, false), n, p, eL, rfl, hK, hN, eO.kp⟩
   apply k_
   have hP : Fr 147 [] [⟨2, [], pt l 0⟩, ⟨4, [], pt f 0⟩, ⟨8, [], .func (.func 28) #[] #[]⟩, ⟨10, [], str d⟩, ⟨11, [], i6 (lhexS (d.take (2 : Int).toNat)).1⟩] aY := br.reg
   obtain ⟨cw, hQ⟩ := hO
   obtain ⟨cx, eP⟩ := hQ
   refine any_invE mixed [[], [0], [1], [], [3], [4], [2, 5], [], [7], [0, 1, 2, 3, 4, 5, 6], [0, 1, 2, 3, 4, 5, 6, 9], [0, 1, 2, 3, 4, 5, 6, 10], [0, 1, 2, 3, 4, 5, 6, 7, 8, 9, 10, 11]] 13 (fun S a w1 => ∃ (an : Nat) (ac : Option Addr) (ae : Nat) (a4 : Value) (aL : Value) (aG : Value) (aC : Value) (aM : Value) (aH : Value) (aD : Value) (ay : Value) (af : Value) (Y : Value) (ar : Value) (ag : Value) (aT : Res) (a9 : Res) (aU : Res) (ba : Res) (aI : Res), Fz.le U U ∧ Fr 147 [] [⟨2, [], pt l 0⟩, ⟨4, [], pt f 0⟩, ⟨8, [], .func (.func 28) #[] #[]⟩, ⟨10, [], a4⟩, ⟨11, [], i6 (lhexS (d.take (2 : Int).toNat)).1⟩, ⟨133, [], aL⟩, ⟨134, [], aG⟩, ⟨135, [], aC⟩, ⟨136, [], aM⟩, ⟨137, [], aH⟩, ⟨138, [], aD⟩, ⟨139, [], ay⟩, ⟨140, [], af⟩, ⟨141, [], Y⟩, ⟨142, [], ar⟩, ⟨143, [], ag⟩] a ∧ Mem w.heap.size [] w Z [aT, a9, aU, ba, aI] U w1 ∧ (S 12 = true → a4 = str (d.drop (2 : Int).toNat)) ∧ (S 12 = false → a4 = str d) ∧ (S 0 = true → aL = pt f 2) ∧ (S 1 = true → aG = pt f 7) ∧ (S 2 = true → aC = .slice n c.F.Data.length p) ∧ (S 3 = true → aM = i6 (lhexS (d.take (2 : Int).toNat)).1) ∧ (S 4 = true → aH = y8 (w8 (lhexS (d.take (2 : Int).toNat)).1)) ∧ (S 5 = true → aD = .slice (sm an) 1 1) ∧ (S 6 = true → ay = .slice ac (c.F.Data ++ [w8 (lhexS (d.take (2 : Int).toNat)).1]).length ae) ∧ (S 7 = true → af = str d) ∧ (S 8 = true → Y = str (d.drop (2 : Int).toNat)) ∧ (S 9 = true → ar = pt f 2) ∧ (S 10 = true → ag = pt f 7) ∧ (S 6 = false → aT = .own t8 5 n p c.F.Data) ∧ (S 6 = true → aT = .own t8 5 ac ae (c.F.Data ++ [w8 (lhexS (d.take (2 : Int).toNat)).1])) ∧ (a9 = .own tyStr 9 (sm B) C (splitS u0 ([32] : List UInt8))) ∧ (S 11 = false → aU = .row f (e36La c n p) 36) ∧ (S 11 = true → aU = .row f [i6 c.Time, i6 c.Bus, i6 c.F.ID, .bool c.F.Long, .bool c.F.Fast, .bool c.F.Remote, i6 c.F.Size, .slice ac (c.F.Data ++ [w8 (lhexS (d.take (2 : Int).toNat)).1]).length ae] 36) ∧ (ba = .row l [i6 0, i6 0, i6 0, .bool false, .bool false, .bool false, i6 0, .slice none 0 0] 36) ∧ (S 5 = false → aI = .nil) ∧ (S 5 = true → aI = .row an [y8 (w8 (lhexS (d.take (2 : Int).toNat)).1)] 5)) ?h0 ?hs ?hE
   case h0 =>
    have hR := hP.any 133
    have hT := hR.any 134
    have hU := hT.any 135
    have hV := hU.any 136
    have hW := hV.any 137
    have hX := hW.any 138
    have hY := hX.any 139
    have h1 := hY.any 140
    have h2 := h1.any 141
    have h3 := h2.any 142
    have h4 := h3.any 143
    have h5 := bg.nilRes
    have h6 := (h5.perm ((pk 1 rfl).trans (((pk 1 rfl).trans (((pk 1 rfl).trans (((pk 1 rfl).trans (lpr.cons _)).cons _)).cons _)).cons _))).drew
    exact ⟨0, none, 0, str d, aY.tmps.getD 133 undef, aY.tmps.getD 134 undef, aY.tmps.getD 135 undef, aY.tmps.getD 136 undef, aY.tmps.getD 137 undef, aY.tmps.getD 138 undef, aY.tmps.getD 139 undef, aY.tmps.getD 140 undef, aY.tmps.getD 141 undef, aY.tmps.getD 142 undef, aY.tmps.getD 143 undef, .own t8 5 n p c.F.Data, .own tyStr 9 (sm B) C (splitS u0 ([32] : List UInt8)), .row f (e36La c n p) 36, .row l [i6 0, i6 0, i6 0, .bool false, .bool false, .bool false, i6 0, .slice none 0 0] 36, .nil, Fz.le.refl _, h4.reg, h6, ff, kf, ff, ff, ff, ff, ff, ff, ff, ff, ff, ff, ff, kf, ff, rfl, kf, ff, rfl, kf, ff⟩
   case hs =>
    intro S hcl i o hil hi hSi hpre a w1 hI; refine Go.Sy.hid ?_; intro G hG; obtain ⟨an, ac, ae, a4, aL, aG, aC, aM, aH, aD, ay, af, Y, ar, ag, aT, a9, aU, ba, aI, Q, hFx, hMx, bs, ah, hI⟩ := hI; obtain ⟨ai, au, az, aj, av, aA, aQ, ak, aw, aV, aW, aJ, aR, aa, ax, a5, ab, aN, hI⟩ := hI; have aB := hI
    have hcase : i = 0 ∨ i = 1 ∨ i = 2 ∨ i = 3 ∨ i = 4 ∨ i = 5 ∨ i = 6 ∨ i = 7 ∨ i = 8 ∨ i = 9 ∨ i = 10 ∨ i = 11 ∨ i = 12 := by clear hi; omega
    rcases hcase with rfl | rfl | rfl | rfl | rfl | rfl | rfl | rfl | rfl | rfl | rfl | rfl | rfl
    ·
     obtain rfl := oj hi
     have V := hSi
     have M := ngF hcl 1 0 V
     have N := ngF hcl 2 1 M
     have m := ngF hcl 6 2 N
     have O := ngF hcl 9 0 V
     have L := ngF hcl 10 0 V
     have D := ngF hcl 11 0 V
     have u := ngF hcl 12 0 V
     obtain rfl := ah u
     obtain rfl := aJ m
     obtain rfl := aa
     obtain rfl := ax D
     obtain rfl := ab
     refine hG (any_step ?_); intro A J hJ
     refine s1 hFx 133 (pt f 2) ?_; intro kZ h7
     refine nl (qnI (hJ _ _ ?_))
     exact ⟨an, ac, ae, str d, pt f 2, aG, aC, aM, aH, aD, ay, af, Y, ar, ag, .own t8 5 n p c.F.Data, .own tyStr 9 (sm B) C (splitS u0 ([32] : List UInt8)), .row f (e36La c n p) 36, .row l [i6 0, i6 0, i6 0, .bool false, .bool false, .bool false, i6 0, .slice none 0 0] 36, aI, Q, h7.reg, hMx.perm lpr, (nt u), kf, kf, (nt M), (nt N), aj, av, aA, (nt m), ak, aw, (nt O), (nt L), kf, (nt m), rfl, kf, (nt D), rfl, aN, aB⟩
    ·
     obtain rfl := oj hi
     have V := hpre 0 (by kernel_rfl)
     have M := hSi
     have N := ngF hcl 2 1 M
     have m := ngF hcl 6 2 N
     have O := ngF hcl 9 1 M
     have L := ngF hcl 10 1 M
     have D := ngF hcl 11 1 M
     have u := ngF hcl 12 1 M
     obtain rfl := ah u
     obtain rfl := ai V
     obtain rfl := aJ m
     obtain rfl := aa
     obtain rfl := ax D
     obtain rfl := ab
     refine hG (any_step ?_); intro A J hJ
     refine s1 hFx 134 (pt f 7) ?_; intro k1 h8
     refine nl (qnI (hJ _ _ ?_))
     exact ⟨an, ac, ae, str d, pt f 2, pt f 7, aC, aM, aH, aD, ay, af, Y, ar, ag, .own t8 5 n p c.F.Data, .own tyStr 9 (sm B) C (splitS u0 ([32] : List UInt8)), .row f (e36La c n p) 36, .row l [i6 0, i6 0, i6 0, .bool false, .bool false, .bool false, i6 0, .slice none 0 0] 36, aI, Q, h8.reg, hMx.perm lpr, (nt u), kf, kf, kf, (nt N), aj, av, aA, (nt m), ak, aw, (nt O), (nt L), kf, (nt m), rfl, kf, (nt D), rfl, aN, aB⟩
    ·
     obtain rfl := oj hi
     have M := hpre 1 (by kernel_rfl)
     have V := hcl 1 0 (by kernel_rfl) M
     have N := hSi
     have m := ngF hcl 6 2 N
     have O := ngF hcl 9 2 N
     have L := ngF hcl 10 2 N
     have D := ngF hcl 11 2 N
     have u := ngF hcl 12 2 N
     obtain rfl := ah u
     obtain rfl := ai V
     obtain rfl := au M
     obtain rfl := aJ m
     obtain rfl := aa
     obtain rfl := ax D
     obtain rfl := ab
     refine hG (any_step ?_); intro A J hJ
     refine l1 hFx hMx 135 2 7 (.slice n c.F.Data.length p) rfl rfl ?_; intro k3 h9
     refine nl (qnI (hJ _ _ ?_))
     exact ⟨an, ac, ae, str d, pt f 2, pt f 7, .slice n c.F.Data.length p, aM, aH, aD, ay, af, Y, ar, ag, .own t8 5 n p c.F.Data, .own tyStr 9 (sm B) C (splitS u0 ([32] : List UInt8)), .row f (e36La c n p) 36, .row l [i6 0, i6 0, i6 0, .bool false, .bool false, .bool false, i6 0, .slice none 0 0] 36, aI, Q, h9.reg, hMx.perm lpr, (nt u), kf, kf, kf, kf, aj, av, aA, (nt m), ak, aw, (nt O), (nt L), kf, (nt m), rfl, kf, (nt D), rfl, aN, aB⟩
    ·
     obtain rfl := oj hi
     have W := hSi
     have P := ngF hcl 4 3 W
     have y := ngF hcl 5 4 P
     have m := ngF hcl 6 5 y
     have O := ngF hcl 9 3 W
     have L := ngF hcl 10 3 W
     have D := ngF hcl 11 3 W
     have u := ngF hcl 12 3 W
     obtain rfl := ah u
     obtain rfl := aJ m
     obtain rfl := aa
     obtain rfl := ax D
     obtain rfl := ab
     obtain rfl := aN y
     refine hG (any_step ?_); intro A J hJ
     have ia := hMx.keep (sD (List.Sublist.cons_cons _ (sD (List.Sublist.cons_cons _ (sC (List.Sublist.slnil))))))
     refine s1 hFx 136 (i6 (lhexS (d.take (2 : Int).toNat)).1) ?_; intro k5 ib
     refine nl (qnI (hJ _ _ ?_))
     have ic := ia.nilRes
     exact ⟨an, ac, ae, str d, aL, aG, aC, i6 (lhexS (d.take (2 : Int).toNat)).1, aH, aD, ay, af, Y, ar, ag, .own t8 5 n p c.F.Data, .own tyStr 9 (sm B) C (splitS u0 ([32] : List UInt8)), .row f (e36La c n p) 36, .row l [i6 0, i6 0, i6 0, .bool false, .bool false, .bool false, i6 0, .slice none 0 0] 36, .nil, Q, ib.reg, ic.perm ((pk 1 rfl).trans (((pk 1 rfl).trans (((pk 1 rfl).trans (((pk 1 rfl).trans (lpr.cons _)).cons _)).cons _)).cons _)), (nt u), kf, ai, au, az, kf, (nt P), (nt y), (nt m), ak, aw, (nt O), (nt L), kf, (nt m), rfl, kf, (nt D), rfl, kf, (nt y)⟩
    ·
     obtain rfl := oj hi
     have W := hpre 3 (by kernel_rfl)
     have P := hSi
     have y := ngF hcl 5 4 P
     have m := ngF hcl 6 5 y
     have O := ngF hcl 9 4 P
     have L := ngF hcl 10 4 P
     have D := ngF hcl 11 4 P
     have u := ngF hcl 12 4 P
     obtain rfl := ah u
     obtain rfl := aj W
     obtain rfl := aJ m
     obtain rfl := aa
     obtain rfl := ax D
     obtain rfl := ab
     obtain rfl := aN y
     refine hG (any_step ?_); intro A J hJ
     have id := hMx.keep (sD (List.Sublist.cons_cons _ (sD (List.Sublist.cons_cons _ (sC (List.Sublist.slnil))))))
     refine s1 hFx 137 (y8 (w8 (lhexS (d.take (2 : Int).toNat)).1)) ?_; intro k7 ie
     refine nl (qnI (hJ _ _ ?_))
     have ig := id.nilRes
     exact ⟨an, ac, ae, str d, aL, aG, aC, i6 (lhexS (d.take (2 : Int).toNat)).1, y8 (w8 (lhexS (d.take (2 : Int).toNat)).1), aD, ay, af, Y, ar, ag, .own t8 5 n p c.F.Data, .own tyStr 9 (sm B) C (splitS u0 ([32] : List UInt8)), .row f (e36La c n p) 36, .row l [i6 0, i6 0, i6 0, .bool false, .bool false, .bool false, i6 0, .slice none 0 0] 36, .nil, Q, ie.reg, ig.perm ((pk 1 rfl).trans (((pk 1 rfl).trans (((pk 1 rfl).trans (((pk 1 rfl).trans (lpr.cons _)).cons _)).cons _)).cons _)), (nt u), kf, ai, au, az, kf, kf, (nt y), (nt m), ak, aw, (nt O), (nt L), kf, (nt m), rfl, kf, (nt D), rfl, kf, (nt y)⟩
    ·
     obtain rfl := oj hi
     have P := hpre 4 (by kernel_rfl)
     have W := hcl 4 3 (by kernel_rfl) P
     have y := hSi
     have m := ngF hcl 6 5 y
     have O := ngF hcl 9 5 y
     have L := ngF hcl 10 5 y
     have D := ngF hcl 11 5 y
     have u := ngF hcl 12 5 y
     obtain rfl := ah u
     obtain rfl := aj W
     obtain rfl := av P
     obtain rfl := aJ m
     obtain rfl := aa
     obtain rfl := ax D
     obtain rfl := ab
     obtain rfl := aN y
     refine hG (any_step ?_); intro A J hJ
     have eQ := hMx.keep (sD (List.Sublist.cons_cons _ (sD (List.Sublist.cons_cons _ (sC (List.Sublist.slnil))))))
     refine nw hFx eQ (fun b => .slice (sm b) 1 1) [y8 (w8 (lhexS (d.take (2 : Int).toNat)).1)] 5 ?_; intro cy k9 la ih ii
     refine nl (qnI (hJ _ _ ?_))
     exact ⟨cy, ac, ae, str d, aL, aG, aC, i6 (lhexS (d.take (2 : Int).toNat)).1, y8 (w8 (lhexS (d.take (2 : Int).toNat)).1), .slice (sm cy) 1 1, ay, af, Y, ar, ag, .own t8 5 n p c.F.Data, .own tyStr 9 (sm B) C (splitS u0 ([32] : List UInt8)), .row f (e36La c n p) 36, .row l [i6 0, i6 0, i6 0, .bool false, .bool false, .bool false, i6 0, .slice none 0 0] 36, .row cy [y8 (w8 (lhexS (d.take (2 : Int).toNat)).1)] 5, Q, ih.reg, ii.perm ((pk 1 rfl).trans (((pk 1 rfl).trans (((pk 1 rfl).trans (((pk 1 rfl).trans (lpr.cons _)).cons _)).cons _)).cons _)), (nt u), kf, ai, au, az, kf, kf, kf, (nt m), ak, aw, (nt O), (nt L), kf, (nt m), rfl, kf, (nt D), rfl, nu, kf⟩
    ·
     obtain rfl := oj hi
     have y := hpre 5 (by kernel_rfl)
     have N := hpre 2 (by kernel_rfl)
     have P := hcl 5 4 (by kernel_rfl) y
     have M := hcl 2 1 (by kernel_rfl) N
     have W := hcl 4 3 (by kernel_rfl) P
     have V := hcl 1 0 (by kernel_rfl) M
     have m := hSi
     have O := ngF hcl 9 6 m
     have L := ngF hcl 10 6 m
     have D := ngF hcl 11 6 m
     have u := ngF hcl 12 6 m
     obtain rfl := ah u
     obtain rfl := ai V
     obtain rfl := au M
     obtain rfl := az N
     obtain rfl := aj W
     obtain rfl := av P
     obtain rfl := aA y
     obtain rfl := aJ m
     obtain rfl := aa
     obtain rfl := ax D
     obtain rfl := ab
     obtain rfl := aB y
     refine hG (any_step ?_); intro A J hJ
     refine ap hFx hMx 0 (T := t8) (xs := c.F.Data) (ys := [w8 (lhexS (d.take (2 : Int).toNat)).1]) (ao := n) (cap := p) (ao2 := (sm an)) (cap2 := 1) (t := 32) (e := 5) (bytes := 1) (nog rfl _) rfl (by kernel_rfl) rfl (by kernel_rfl) (by kernel_rfl) (by kernel_rfl) rfl (Src.row hMx 4 rfl (RepAll.one (T := t8) (x := (w8 (lhexS (d.take (2 : Int).toNat)).1)) rfl)) cw ?_; intro bI bJ lc ij ld ik eR
     have il : Mem w.heap.size [] w Z [.own t8 5 bI bJ (c.F.Data ++ [w8 (lhexS (d.take (2 : Int).toNat)).1]), .own tyStr 9 (sm B) C (splitS u0 ([32] : List UInt8)), .row f (e36La c n p) 36, .row l [i6 0, i6 0, i6 0, .bool false, .bool false, .bool false, i6 0, .slice none 0 0] 36, .row an [y8 (w8 (lhexS (d.take (2 : Int).toNat)).1)] 5] U ij := eR
     refine nl (qnI (hJ _ _ ?_))
     exact ⟨an, bI, bJ, str d, pt f 2, pt f 7, .slice n c.F.Data.length p, i6 (lhexS (d.take (2 : Int).toNat)).1, y8 (w8 (lhexS (d.take (2 : Int).toNat)).1), .slice (sm an) 1 1, .slice bI (c.F.Data ++ [w8 (lhexS (d.take (2 : Int).toNat)).1]).length bJ, af, Y, ar, ag, .own t8 5 bI bJ (c.F.Data ++ [w8 (lhexS (d.take (2 : Int).toNat)).1]), .own tyStr 9 (sm B) C (splitS u0 ([32] : List UInt8)), .row f (e36La c n p) 36, .row l [i6 0, i6 0, i6 0, .bool false, .bool false, .bool false, i6 0, .slice none 0 0] 36, .row an [y8 (w8 (lhexS (d.take (2 : Int).toNat)).1)] 5, Q, ik.reg, il.perm lpr, (nt u), kf, kf, kf, kf, kf, kf, kf, kf, ak, aw, (nt O), (nt L), nu, kf, rfl, kf, (nt D), rfl, (tn y), kf⟩
    ·
     obtain rfl := oj hi
     have aX := hSi
     have a6 := ngF hcl 8 7 aX
     have u := ngF hcl 12 7 aX
     obtain rfl := ah u
     obtain rfl := aa
     obtain rfl := ab
     refine hG (any_step ?_); intro A J hJ
     refine s1 hFx 140 (str d) ?_; intro lg im
     refine nl (qnI (hJ _ _ ?_))
     exact ⟨an, ac, ae, str d, aL, aG, aC, aM, aH, aD, ay, str d, Y, ar, ag, aT, .own tyStr 9 (sm B) C (splitS u0 ([32] : List UInt8)), aU, .row l [i6 0, i6 0, i6 0, .bool false, .bool false, .bool false, i6 0, .slice none 0 0] 36, aI, Q, im.reg, hMx.perm lpr, (nt u), kf, ai, au, az, aj, av, aA, aQ, kf, (nt a6), aV, aW, aJ, aR, rfl, ax, a5, rfl, aN, aB⟩
    ·
     obtain rfl := oj hi
     have aX := hpre 7 (by kernel_rfl)
     have a6 := hSi
     have u := ngF hcl 12 8 a6
     obtain rfl := ah u
     obtain rfl := ak aX
     obtain rfl := aa
     obtain rfl := ab
     refine hG (any_step ?_); intro A J hJ
     refine u_ hFx (str (d.drop (2 : Int).toNat)) (strslL_run hFx (g := []) (k := .i64) rfl (by kernel_rfl) (by kernel_rfl) (by kernel_rfl) cx rfl) ?_; intro li io
     refine nl (qnI (hJ _ _ ?_))
     exact ⟨an, ac, ae, str d, aL, aG, aC, aM, aH, aD, ay, str d, str (d.drop (2 : Int).toNat), ar, ag, aT, .own tyStr 9 (sm B) C (splitS u0 ([32] : List UInt8)), aU, .row l [i6 0, i6 0, i6 0, .bool false, .bool false, .bool false, i6 0, .slice none 0 0] 36, aI, Q, io.reg, hMx.perm lpr, (nt u), kf, ai, au, az, aj, av, aA, aQ, kf, kf, aV, aW, aJ, aR, rfl, ax, a5, rfl, aN, aB⟩
    ·
     obtain rfl := oj hi
     have m := hpre 6 (by kernel_rfl)
     have y := hpre 5 (by kernel_rfl)
     have P := hpre 4 (by kernel_rfl)
     have W := hpre 3 (by kernel_rfl)
     have N := hpre 2 (by kernel_rfl)
     have M := hpre 1 (by kernel_rfl)
     have V := hpre 0 (by kernel_rfl)
     have O := hSi
     have L := ngF hcl 10 9 O
     have D := ngF hcl 11 10 L
     have u := ngF hcl 12 9 O
     obtain rfl := ah u
     obtain rfl := ai V
     obtain rfl := au M
     obtain rfl := az N
     obtain rfl := aj W
     obtain rfl := av P
     obtain rfl := aA y
     obtain rfl := aQ m
     obtain rfl := aR m
     obtain rfl := aa
     obtain rfl := ax D
     obtain rfl := ab
     obtain rfl := aB y
     refine hG (any_step ?_); intro A J hJ
     refine s1 hFx 142 (pt f 2) ?_; intro lk ip
     refine nl (qnI (hJ _ _ ?_))
     exact ⟨an, ac, ae, str d, pt f 2, pt f 7, .slice n c.F.Data.length p, i6 (lhexS (d.take (2 : Int).toNat)).1, y8 (w8 (lhexS (d.take (2 : Int).toNat)).1), .slice (sm an) 1 1, .slice ac (c.F.Data ++ [w8 (lhexS (d.take (2 : Int).toNat)).1]).length ae, af, Y, pt f 2, ag, .own t8 5 ac ae (c.F.Data ++ [w8 (lhexS (d.take (2 : Int).toNat)).1]), .own tyStr 9 (sm B) C (splitS u0 ([32] : List UInt8)), .row f (e36La c n p) 36, .row l [i6 0, i6 0, i6 0, .bool false, .bool false, .bool false, i6 0, .slice none 0 0] 36, .row an [y8 (w8 (lhexS (d.take (2 : Int).toNat)).1)] 5, Q, ip.reg, hMx.perm lpr, (nt u), kf, kf, kf, kf, kf, kf, kf, kf, ak, aw, kf, (nt L), (tn m), kf, rfl, kf, (nt D), rfl, (tn y), kf⟩
    ·
     obtain rfl := oj hi
     have O := hpre 9 (by kernel_rfl)
     have m := hpre 6 (by kernel_rfl)
     have y := hpre 5 (by kernel_rfl)
     have P := hpre 4 (by kernel_rfl)
     have W := hpre 3 (by kernel_rfl)
     have N := hpre 2 (by kernel_rfl)
     have M := hpre 1 (by kernel_rfl)
     have V := hpre 0 (by kernel_rfl)
     have L := hSi
     have D := ngF hcl 11 10 L
     have u := ngF hcl 12 10 L
     obtain rfl := ah u
     obtain rfl := ai V
     obtain rfl := au M
     obtain rfl := az N
     obtain rfl := aj W
     obtain rfl := av P
     obtain rfl := aA y
     obtain rfl := aQ m
     obtain rfl := aV O
     obtain rfl := aR m
     obtain rfl := aa
     obtain rfl := ax D
     obtain rfl := ab
     obtain rfl := aB y
     refine hG (any_step ?_); intro A J hJ
     refine s1 hFx 143 (pt f 7) ?_; intro lm iq
     refine nl (qnI (hJ _ _ ?_))
     exact ⟨an, ac, ae, str d, pt f 2, pt f 7, .slice n c.F.Data.length p, i6 (lhexS (d.take (2 : Int).toNat)).1, y8 (w8 (lhexS (d.take (2 : Int).toNat)).1), .slice (sm an) 1 1, .slice ac (c.F.Data ++ [w8 (lhexS (d.take (2 : Int).toNat)).1]).length ae, af, Y, pt f 2, pt f 7, .own t8 5 ac ae (c.F.Data ++ [w8 (lhexS (d.take (2 : Int).toNat)).1]), .own tyStr 9 (sm B) C (splitS u0 ([32] : List UInt8)), .row f (e36La c n p) 36, .row l [i6 0, i6 0, i6 0, .bool false, .bool false, .bool false, i6 0, .slice none 0 0] 36, .row an [y8 (w8 (lhexS (d.take (2 : Int).toNat)).1)] 5, Q, iq.reg, hMx.perm lpr, (nt u), kf, kf, kf, kf, kf, kf, kf, kf, ak, aw, kf, kf, (tn m), kf, rfl, kf, (nt D), rfl, (tn y), kf⟩
    ·
     obtain rfl := oj hi
     have L := hpre 10 (by kernel_rfl)
     have m := hpre 6 (by kernel_rfl)
     have y := hpre 5 (by kernel_rfl)
     have P := hpre 4 (by kernel_rfl)
     have W := hpre 3 (by kernel_rfl)
     have N := hpre 2 (by kernel_rfl)
     have M := hpre 1 (by kernel_rfl)
     have V := hpre 0 (by kernel_rfl)
     have O := hcl 10 9 (by kernel_rfl) L
     have D := hSi
     have u := ngF hcl 12 11 D
     obtain rfl := ah u
     obtain rfl := ai V
     obtain rfl := au M
     obtain rfl := az N
     obtain rfl := aj W
     obtain rfl := av P
     obtain rfl := aA y
     obtain rfl := aQ m
     obtain rfl := aV O
     obtain rfl := aW L
     obtain rfl := aR m
     obtain rfl := aa
     obtain rfl := ax D
     obtain rfl := ab
     obtain rfl := aB y
     refine hG (any_step ?_); intro A J hJ
     refine sx hFx hMx 2 [i6 c.Time, i6 c.Bus, i6 c.F.ID, .bool c.F.Long, .bool c.F.Fast, .bool c.F.Remote, i6 c.F.Size, .slice ac (c.F.Data ++ [w8 (lhexS (d.take (2 : Int).toNat)).1]).length ae] 7 ?_; intro lo ir
     refine nl (qnI (hJ _ _ ?_))
     exact ⟨an, ac, ae, str d, pt f 2, pt f 7, .slice n c.F.Data.length p, i6 (lhexS (d.take (2 : Int).toNat)).1, y8 (w8 (lhexS (d.take (2 : Int).toNat)).1), .slice (sm an) 1 1, .slice ac (c.F.Data ++ [w8 (lhexS (d.take (2 : Int).toNat)).1]).length ae, af, Y, pt f 2, pt f 7, .own t8 5 ac ae (c.F.Data ++ [w8 (lhexS (d.take (2 : Int).toNat)).1]), .own tyStr 9 (sm B) C (splitS u0 ([32] : List UInt8)), .row f [i6 c.Time, i6 c.Bus, i6 c.F.ID, .bool c.F.Long, .bool c.F.Fast, .bool c.F.Remote, i6 c.F.Size, .slice ac (c.F.Data ++ [w8 (lhexS (d.take (2 : Int).toNat)).1]).length ae] 36, .row l [i6 0, i6 0, i6 0, .bool false, .bool false, .bool false, i6 0, .slice none 0 0] 36, .row an [y8 (w8 (lhexS (d.take (2 : Int).toNat)).1)] 5, Q, hFx.reg, ir.perm lpr, (nt u), kf, kf, kf, kf, kf, kf, kf, kf, ak, aw, kf, kf, (tn m), kf, rfl, nu, kf, rfl, (tn y), kf⟩
    obtain rfl := oj hi
    have D := hpre 11 (by kernel_rfl)
    have L := hpre 10 (by kernel_rfl)
    have O := hpre 9 (by kernel_rfl)
    have a6 := hpre 8 (by kernel_rfl)
    have aX := hpre 7 (by kernel_rfl)
    have m := hpre 6 (by kernel_rfl)
    have y := hpre 5 (by kernel_rfl)
    have P := hpre 4 (by kernel_rfl)
    have W := hpre 3 (by kernel_rfl)
    have N := hpre 2 (by kernel_rfl)
    have M := hpre 1 (by kernel_rfl)
    have V := hpre 0 (by kernel_rfl)
    have u := hSi
    obtain rfl := ah u
    obtain rfl := ai V
    obtain rfl := au M
    obtain rfl := az N
    obtain rfl := aj W
    obtain rfl := av P
    obtain rfl := aA y
    obtain rfl := aQ m
    obtain rfl := ak aX
    obtain rfl := aw a6
    obtain rfl := aV O
    obtain rfl := aW L
    obtain rfl := aR m
    obtain rfl := aa
    obtain rfl := a5 D
    obtain rfl := ab
    obtain rfl := aB y
    refine hG (any_step ?_); intro A J hJ
    refine s1 hFx 10 (str (d.drop (2 : Int).toNat)) ?_; intro lr it
    refine nl (qnI (hJ _ _ ?_))
    exact ⟨an, ac, ae, str (d.drop (2 : Int).toNat), pt f 2, pt f 7, .slice n c.F.Data.length p, i6 (lhexS (d.take (2 : Int).toNat)).1, y8 (w8 (lhexS (d.take (2 : Int).toNat)).1), .slice (sm an) 1 1, .slice ac (c.F.Data ++ [w8 (lhexS (d.take (2 : Int).toNat)).1]).length ae, str d, str (d.drop (2 : Int).toNat), pt f 2, pt f 7, .own t8 5 ac ae (c.F.Data ++ [w8 (lhexS (d.take (2 : Int).toNat)).1]), .own tyStr 9 (sm B) C (splitS u0 ([32] : List UInt8)), .row f [i6 c.Time, i6 c.Bus, i6 c.F.ID, .bool c.F.Long, .bool c.F.Fast, .bool c.F.Remote, i6 c.F.Size, .slice ac (c.F.Data ++ [w8 (lhexS (d.take (2 : Int).toNat)).1]).length ae] 36, .row l [i6 0, i6 0, i6 0, .bool false, .bool false, .bool false, i6 0, .slice none 0 0] 36, .row an [y8 (w8 (lhexS (d.take (2 : Int).toNat)).1)] 5, Q, it.reg, hMx.perm lpr, kf, nu, kf, kf, kf, kf, kf, kf, kf, kf, kf, kf, kf, (tn m), kf, rfl, (tn D), kf, rfl, (tn y), kf⟩
   case hE =>
    intro S hS ls lt hI; refine Go.Sy.hid ?_; intro G hG; obtain ⟨an, ac, ae, a4, aL, aG, aC, aM, aH, aD, ay, af, Y, ar, ag, aT, a9, aU, ba, aI, Q, hFx, hMx, bs, ah, hI⟩ := hI; obtain ⟨ai, au, az, aj, av, aA, aQ, ak, aw, aV, aW, aJ, aR, aa, ax, a5, ab, aN, hI⟩ := hI; have aB := hI; refine hG ?_
    obtain rfl := bs (hS 12 (by decide))
    obtain rfl := ai (hS 0 (by decide))
    obtain rfl := au (hS 1 (by decide))
    obtain rfl := az (hS 2 (by decide))
    obtain rfl := aj (hS 3 (by decide))
    obtain rfl := av (hS 4 (by decide))
    obtain rfl := aA (hS 5 (by decide))
    obtain rfl := aQ (hS 6 (by decide))
    obtain rfl := ak (hS 7 (by decide))
    obtain rfl := aw (hS 8 (by decide))
    obtain rfl := aV (hS 9 (by decide))
    obtain rfl := aW (hS 10 (by decide))
    obtain rfl := aR (hS 6 (by decide))
    obtain rfl := aa
    obtain rfl := a5 (hS 11 (by decide))
    obtain rfl := ab
    obtain rfl := aB (hS 5 (by decide))
    exact j_ (d_ ⟨⟨d.drop (2 : Int).toNat, (⟨c.Time, c.Bus, (⟨c.F.ID, c.F.Long, c.F.Fast, c.F.Remote, c.F.Size, c.F.Data ++ [w8 (lhexS (d.take (2 : Int).toNat)).1]⟩ : Frame)⟩ : Line), ac, ae⟩, eP.1, eP.2, (hFx.reg).anyβ _ (by kernel_rfl), hMx.kp⟩)
  refine x_ (y_ (y_ (z_ (d_ ?_))))
  obtain ⟨eT, eU, eV, iv⟩ := eB.freeze 0 rfl
  replace aK := aK.mono eU
  have iw : Mem w.heap.size [] w Z [.own tyStr 9 (sm B) C (splitS u0 ([32] : List UInt8)), .row f (e36La c n p) 36, .row l [i6 0, i6 0, i6 0, .bool false, .bool false, .bool false, i6 0, .slice none 0 0] 36] eT ez := eV
  exact hn d c n p eT ⟨iu, iv, aK⟩ _ _ ((bG.reg).anyβ _ (by kernel_rfl)) (iw.kp)
 apply k_
 have eW : Fr 147 [] [⟨2, [], pt l 0⟩, ⟨4, [], pt f 0⟩, ⟨8, [], .func (.func 28) #[] #[]⟩, ⟨10, [], str (I.drop (w64 ((Lib.indexAny h ([35, 63] : List UInt8)) + 1)).toNat)⟩] bD := bq.reg
 obtain ⟨iy, iz, iA⟩ := ix
 refine wp_seq_k fun KJ684 hKJ685 => ?_
 have iB : ∀ (aP : List UInt8) (j : Line) (aE : Option Addr) (aF : Nat) (bh : Fz), iy aP j ∧ SlR t8 bh aE aF j.F.Data ∧ Fz.le U bh → ∀ a1 w1, Fr 147 [] [⟨2, [], pt l 0⟩, ⟨4, [], pt f 0⟩, ⟨10, [], str aP⟩] a1 → Mem w.heap.size [] w Z [.own tyStr 9 (sm B) C (splitS u0 ([32] : List UInt8)), .row f (e36La j aE aF) 36, .row l [i6 0, i6 0, i6 0, .bool false, .bool false, .bool false, i6 0, .slice none 0 0] 36] bh w1 → KJ684 a1 w1 := by
  rintro aP j aE aF bh ⟨iC, cp, iD⟩ lv lw eX cA
  refine hKJ685 _ _ ?_
  have iE := iA aP j iC
  refine sqH ?_; intro iF eY
  refine bt eX cA 3 [1] [293] [(144, .agg (e36La j aE aF).toArray), (146, .bool (aP == ([] : List UInt8)))] ?_; intro lx cB
  refine sx cB cA 2 (e36La j aE aF) 0 ?_; intro iG eZ
  refine s1 cB 3 (.bool (aP == ([] : List UInt8))) ?_; intro ly e0
  have e1 : Mem w.heap.size [] w Z [.own tyStr 9 (sm B) C (splitS u0 ([32] : List UInt8)), .row f (e36La j aE aF) 36, .row l (e36La j aE aF) 36] bh iG := eZ
  apply eY
  refine r_ (rt (fn := Tryz.f13) (v := .tuple #[.agg (e36La j aE aF).toArray, .bool (aP == ([] : List UInt8))]) e0 (re2c e0 (fn := Tryz.f13) rfl (ad := ⟨l, 0, none⟩) (by kernel_rfl) (loadVar_run e1 2 (b := l) (k := 8) (vs := (e36La j aE aF)) (ty := 36) rfl (by kernel_rfl) (by kernel_rfl)) (by kernel_rfl)) ?_)
  exact ⟨(j, aP == ([] : List UInt8)), aE, aF, bh, rfl, iE, cp, e1.kp⟩
 have aO := Fz.le.refl U
 apply b_
 have e2 : Fr 147 [] [⟨2, [], pt l 0⟩, ⟨4, [], pt f 0⟩, ⟨8, [], .func (.func 28) #[] #[]⟩, ⟨10, [], str (I.drop (w64 ((Lib.indexAny h ([35, 63] : List UInt8)) + 1)).toNat)⟩] bD := eW.reg
 have e3 : Mem w.heap.size [] w Z [.own t8 5 none 0 ([] : List Int), .own tyStr 9 (sm B) C (splitS u0 ([32] : List UInt8)), .row f [i6 (integerS E).1, i6 (integerS H).1, i6 (lhexS (X.take (Lib.indexAny h ([35, 63] : List UInt8)).toNat)).1, .bool ((Lib.indexAny h ([35, 63] : List UInt8)) == 8), .bool (hasp (I.drop (w64 ((Lib.indexAny h ([35, 63] : List UInt8)) + 1)).toNat) ([35] : List UInt8)), .bool false, i6 0, .slice none 0 0] 36, .row l [i6 0, i6 0, i6 0, .bool false, .bool false, .bool false, i6 0, .slice none 0 0] 36] U cl := bc.addNil t8 5 (by decide)
 have e4 : Fr 147 [] [⟨2, [], pt l 0⟩, ⟨4, [], pt f 0⟩, ⟨8, [], .func (.func 28) #[] #[]⟩, ⟨10, [], str (I.drop (w64 ((Lib.indexAny h ([35, 63] : List UInt8)) + 1)).toNat)⟩] bD := e2.reg
 obtain ⟨iH, iI, iJ, iK⟩ := iz
 refine lp (ι := (List UInt8) × Line × (Option Addr) × Nat) (fun s => [⟨2, [], pt l 0⟩, ⟨4, [], pt f 0⟩, ⟨8, [], .func (.func 28) #[] #[]⟩, ⟨10, [], str s.1⟩]) (fun s => [.own t8 5 s.2.2.1 s.2.2.2 s.2.1.F.Data, .own tyStr 9 (sm B) C (splitS u0 ([32] : List UInt8)), .row f [i6 s.2.1.Time, i6 s.2.1.Bus, i6 s.2.1.F.ID, .bool s.2.1.F.Long, .bool s.2.1.F.Fast, .bool s.2.1.F.Remote, i6 s.2.1.F.Size, .slice s.2.2.1 s.2.1.F.Data.length s.2.2.2] 36, .row l [i6 0, i6 0, i6 0, .bool false, .bool false, .bool false, i6 0, .slice none 0 0] 36]) (fun s => U) (fun s => iH s.1 s.2.1) (fun s => iI s.1 s.2.1) ⟨I.drop (w64 ((Lib.indexAny h ([35, 63] : List UInt8)) + 1)).toNat, (⟨(integerS E).1, (integerS H).1, (⟨(lhexS (X.take (Lib.indexAny h ([35, 63] : List UInt8)).toNat)).1, (Lib.indexAny h ([35, 63] : List UInt8)) == 8, (hasp (I.drop (w64 ((Lib.indexAny h ([35, 63] : List UInt8)) + 1)).toNat) ([35] : List UInt8)), false, 0, ([] : List Int)⟩ : Frame)⟩ : Line), none, 0⟩ iJ (by exact e4.reg) (by exact e3) ?_
 rintro ⟨d, c, n, p⟩ iL iM e5 e6 e7
 have bK := iK d c iL
 refine s_ (sqB e6 e7 [] [] [(122, .bool (decide ((d.length : Int) ≥ 2)))] ?_); intro lz bL
 refine c_ bL bK (fun _ iN => ?_) fun _ jx => ?_
 ·
  refine k_ (b_ (sqH ?_)); intro iO e9
  refine bt bL e7 2 [] [] [(124, .func (.func 28) #[] #[]), (125, str d)] ?_; intro lA cD
  obtain ⟨iP, iQ⟩ := iN
  refine u_ cD (str (d.take (2 : Int).toNat)) (strslH_run cD (g := []) (k := .i64) rfl (by kernel_rfl) (by kernel_rfl) (by kernel_rfl) iP rfl) ?_; intro lB fa
  obtain ⟨iR, bM⟩ := iQ
  refine fc fa e7 (lhex_fun (d.take (2 : Int).toNat) iR _ _ e7.fz) ?_; intro lC lD fb bj
  refine bt fb bj 5 [] [] [(11, i6 (lhexS (d.take (2 : Int).toNat)).1), (12, .bool (lhexS (d.take (2 : Int).toNat)).2)] ?_; intro lE fd
  apply e9
  refine s_ (sqB fd bj [] [] [(131, .bool (!(lhexS (d.take (2 : Int).toNat)).2))] ?_); intro aZ bu
  refine c_ bu bM (fun _ iS => ?_) fun _ iW => ?_
  ·
   refine sqH ?_; intro iT fe
   refine l2 bu bj 132 2 0 8 (e36La c n p) rfl rfl ?_; intro lF cF
   refine sx cF bj 3 (e36La c n p) 0 ?_; intro fg fh
   refine s1 cF 3 (.bool false) ?_; intro lG fi
   have iU : Mem w.heap.size [] w Z [.own t8 5 n p c.F.Data, .own tyStr 9 (sm B) C (splitS u0 ([32] : List UInt8)), .row f (e36La c n p) 36, .row l (e36La c n p) 36] U fg := fh
   apply fe
   refine r_ (h_ (i_ (h_ (i_ (h_ ?_)))))
   obtain ⟨fj, fk, fl, iV⟩ := iU.freeze 0 rfl
   have fm : Mem w.heap.size [] w Z [.own tyStr 9 (sm B) C (splitS u0 ([32] : List UInt8)), .row f (e36La c n p) 36, .row l (e36La c n p) 36] fj fg := fl
   refine rt (fn := Tryz.f13) (v := .tuple #[.agg (e36La c n p).toArray, .bool false]) fi (re2c fi (fn := Tryz.f13) rfl (ad := ⟨l, 0, none⟩) (by kernel_rfl) (loadVar_run fm 2 (b := l) (k := 8) (vs := (e36La c n p)) (ty := 36) rfl (by kernel_rfl) (by kernel_rfl)) (by kernel_rfl)) ?_
   exact ⟨(c, false), n, p, fj, rfl, iS, iV, fm.kp⟩
  apply k_
  have iX : Fr 147 [] [⟨2, [], pt l 0⟩, ⟨4, [], pt f 0⟩, ⟨8, [], .func (.func 28) #[] #[]⟩, ⟨10, [], str d⟩, ⟨11, [], i6 (lhexS (d.take (2 : Int).toNat)).1⟩] aZ := bu.reg
  obtain ⟨cw, iY⟩ := iW
  obtain ⟨cx, fo⟩ := iY
  refine any_invE mixed [[], [0], [1], [], [3], [4], [2, 5], [], [7], [0, 1, 2, 3, 4, 5, 6], [0, 1, 2, 3, 4, 5, 6, 9], [0, 1, 2, 3, 4, 5, 6, 10], [0, 1, 2, 3, 4, 5, 6, 7, 8, 9, 10, 11]] 13 (fun S a w1 => ∃ (aq : Nat) (al : Option Addr) (am : Nat) (a4 : Value) (aL : Value) (aG : Value) (aC : Value) (aM : Value) (aH : Value) (aD : Value) (ay : Value) (af : Value) (Y : Value) (ar : Value) (ag : Value) (aT : Res) (a9 : Res) (aU : Res) (ba : Res) (aI : Res), Fz.le U U ∧ Fr 147 [] [⟨2, [], pt l 0⟩, ⟨4, [], pt f 0⟩, ⟨8, [], .func (.func 28) #[] #[]⟩, ⟨10, [], a4⟩, ⟨11, [], i6 (lhexS (d.take (2 : Int).toNat)).1⟩, ⟨133, [], aL⟩, ⟨134, [], aG⟩, ⟨135, [], aC⟩, ⟨136, [], aM⟩, ⟨137, [], aH⟩, ⟨138, [], aD⟩, ⟨139, [], ay⟩, ⟨140, [], af⟩, ⟨141, [], Y⟩, ⟨142, [], ar⟩, ⟨143, [], ag⟩] a ∧ Mem w.heap.size [] w Z [aT, a9, aU, ba, aI] U w1 ∧ (S 12 = true → a4 = str (d.drop (2 : Int).toNat)) ∧ (S 12 = false → a4 = str d) ∧ (S 0 = true → aL = pt f 2) ∧ (S 1 = true → aG = pt f 7) ∧ (S 2 = true → aC = .slice n c.F.Data.length p) ∧ (S 3 = true → aM = i6 (lhexS (d.take (2 : Int).toNat)).1) ∧ (S 4 = true → aH = y8 (w8 (lhexS (d.take (2 : Int).toNat)).1)) ∧ (S 5 = true → aD = .slice (sm aq) 1 1) ∧ (S 6 = true → ay = .slice al (c.F.Data ++ [w8 (lhexS (d.take (2 : Int).toNat)).1]).length am) ∧ (S 7 = true → af = str d) ∧ (S 8 = true → Y = str (d.drop (2 : Int).toNat)) ∧ (S 9 = true → ar = pt f 2) ∧ (S 10 = true → ag = pt f 7) ∧ (S 6 = false → aT = .own t8 5 n p c.F.Data) ∧ (S 6 = true → aT = .own t8 5 al am (c.F.Data ++ [w8 (lhexS (d.take (2 : Int).toNat)).1])) ∧ (a9 = .own tyStr 9 (sm B) C (splitS u0 ([32] : List UInt8))) ∧ (S 11 = false → aU = .row f (e36La c n p) 36) ∧ (S 11 = true → aU = .row f [i6 c.Time, i6 c.Bus, i6 c.F.ID, .bool c.F.Long, .bool c.F.Fast, .bool c.F.Remote, i6 c.F.Size, .slice al (c.F.Data ++ [w8 (lhexS (d.take (2 : Int).toNat)).1]).length am] 36) ∧ (ba = .row l [i6 0, i6 0, i6 0, .bool false, .bool false, .bool false, i6 0, .slice none 0 0] 36) ∧ (S 5 = false → aI = .nil) ∧ (S 5 = true → aI = .row aq [y8 (w8 (lhexS (d.take (2 : Int).toNat)).1)] 5)) ?h0 ?hs ?hE
  case h0 =>
   have iZ := iX.any 133
   have i0 := iZ.any 134
   have i1 := i0.any 135
   have i2 := i1.any 136
   have i3 := i2.any 137
   have i4 := i3.any 138
   have i5 := i4.any 139
   have i7 := i5.any 140
   have i8 := i7.any 141
   have i9 := i8.any 142
   have ja := i9.any 143
   have jb := bj.nilRes
   have jc := (jb.perm ((pk 1 rfl).trans (((pk 1 rfl).trans (((pk 1 rfl).trans (((pk 1 rfl).trans (lpr.cons _)).cons _)).cons _)).cons _))).drew
   exact ⟨0, none, 0, str d, aZ.tmps.getD 133 undef, aZ.tmps.getD 134 undef, aZ.tmps.getD 135 undef, aZ.tmps.getD 136 undef, aZ.tmps.getD 137 undef, aZ.tmps.getD 138 undef, aZ.tmps.getD 139 undef, aZ.tmps.getD 140 undef, aZ.tmps.getD 141 undef, aZ.tmps.getD 142 undef, aZ.tmps.getD 143 undef, .own t8 5 n p c.F.Data, .own tyStr 9 (sm B) C (splitS u0 ([32] : List UInt8)), .row f (e36La c n p) 36, .row l [i6 0, i6 0, i6 0, .bool false, .bool false, .bool false, i6 0, .slice none 0 0] 36, .nil, Fz.le.refl _, ja.reg, jc, ff, kf, ff, ff, ff, ff, ff, ff, ff, ff, ff, ff, ff, kf, ff, rfl, kf, ff, rfl, kf, ff⟩
  case hs =>
   intro S hcl i o hil hi hSi hpre a w1 hI; refine Go.Sy.hid ?_; intro G hG; obtain ⟨aq, al, am, a4, aL, aG, aC, aM, aH, aD, ay, af, Y, ar, ag, aT, a9, aU, ba, aI, R, hFx, hMx, bs, ah, hI⟩ := hI; obtain ⟨ai, au, az, aj, av, aA, aQ, ak, aw, aV, aW, aJ, aR, aa, ax, a5, ab, aN, hI⟩ := hI; have aB := hI
   have hcase : i = 0 ∨ i = 1 ∨ i = 2 ∨ i = 3 ∨ i = 4 ∨ i = 5 ∨ i = 6 ∨ i = 7 ∨ i = 8 ∨ i = 9 ∨ i = 10 ∨ i = 11 ∨ i = 12 := by clear hi; omega
   rcases hcase with rfl | rfl | rfl | rfl | rfl | rfl | rfl | rfl | rfl | rfl | rfl | rfl | rfl
   ·
    obtain rfl := oj hi
    have V := hSi
    have M := ngF hcl 1 0 V
    have N := ngF hcl 2 1 M
    have m := ngF hcl 6 2 N
    have O := ngF hcl 9 0 V
    have L := ngF hcl 10 0 V
    have D := ngF hcl 11 0 V
    have u := ngF hcl 12 0 V
    obtain rfl := ah u
    obtain rfl := aJ m
    obtain rfl := aa
    obtain rfl := ax D
    obtain rfl := ab
    refine hG (any_step ?_); intro A J hJ
    refine s1 hFx 133 (pt f 2) ?_; intro lI jd
    refine nl (qnI (hJ _ _ ?_))
    exact ⟨aq, al, am, str d, pt f 2, aG, aC, aM, aH, aD, ay, af, Y, ar, ag, .own t8 5 n p c.F.Data, .own tyStr 9 (sm B) C (splitS u0 ([32] : List UInt8)), .row f (e36La c n p) 36, .row l [i6 0, i6 0, i6 0, .bool false, .bool false, .bool false, i6 0, .slice none 0 0] 36, aI, R, jd.reg, hMx.perm lpr, (nt u), kf, kf, (nt M), (nt N), aj, av, aA, (nt m), ak, aw, (nt O), (nt L), kf, (nt m), rfl, kf, (nt D), rfl, aN, aB⟩
   ·
    obtain rfl := oj hi
    have V := hpre 0 (by kernel_rfl)
    have M := hSi
    have N := ngF hcl 2 1 M
    have m := ngF hcl 6 2 N
    have O := ngF hcl 9 1 M
    have L := ngF hcl 10 1 M
    have D := ngF hcl 11 1 M
    have u := ngF hcl 12 1 M
    obtain rfl := ah u
    obtain rfl := ai V
    obtain rfl := aJ m
    obtain rfl := aa
    obtain rfl := ax D
    obtain rfl := ab
    refine hG (any_step ?_); intro A J hJ
    refine s1 hFx 134 (pt f 7) ?_; intro lK je
    refine nl (qnI (hJ _ _ ?_))
    exact ⟨aq, al, am, str d, pt f 2, pt f 7, aC, aM, aH, aD, ay, af, Y, ar, ag, .own t8 5 n p c.F.Data, .own tyStr 9 (sm B) C (splitS u0 ([32] : List UInt8)), .row f (e36La c n p) 36, .row l [i6 0, i6 0, i6 0, .bool false, .bool false, .bool false, i6 0, .slice none 0 0] 36, aI, R, je.reg, hMx.perm lpr, (nt u), kf, kf, kf, (nt N), aj, av, aA, (nt m), ak, aw, (nt O), (nt L), kf, (nt m), rfl, kf, (nt D), rfl, aN, aB⟩
   ·
    obtain rfl := oj hi
    have M := hpre 1 (by kernel_rfl)
    have V := hcl 1 0 (by kernel_rfl) M
    have N := hSi
    have m := ngF hcl 6 2 N
    have O := ngF hcl 9 2 N
    have L := ngF hcl 10 2 N
    have D := ngF hcl 11 2 N
    have u := ngF hcl 12 2 N
    obtain rfl := ah u
    obtain rfl := ai V
    obtain rfl := au M
    obtain rfl := aJ m
    obtain rfl := aa
    obtain rfl := ax D
    obtain rfl := ab
    refine hG (any_step ?_); intro A J hJ
    refine l1 hFx hMx 135 2 7 (.slice n c.F.Data.length p) rfl rfl ?_; intro lM jf
    refine nl (qnI (hJ _ _ ?_))
    exact ⟨aq, al, am, str d, pt f 2, pt f 7, .slice n c.F.Data.length p, aM, aH, aD, ay, af, Y, ar, ag, .own t8 5 n p c.F.Data, .own tyStr 9 (sm B) C (splitS u0 ([32] : List UInt8)), .row f (e36La c n p) 36, .row l [i6 0, i6 0, i6 0, .bool false, .bool false, .bool false, i6 0, .slice none 0 0] 36, aI, R, jf.reg, hMx.perm lpr, (nt u), kf, kf, kf, kf, aj, av, aA, (nt m), ak, aw, (nt O), (nt L), kf, (nt m), rfl, kf, (nt D), rfl, aN, aB⟩
   ·
    obtain rfl := oj hi
    have W := hSi
    have P := ngF hcl 4 3 W
    have y := ngF hcl 5 4 P
    have m := ngF hcl 6 5 y
    have O := ngF hcl 9 3 W
    have L := ngF hcl 10 3 W
    have D := ngF hcl 11 3 W
    have u := ngF hcl 12 3 W
    obtain rfl := ah u
    obtain rfl := aJ m
    obtain rfl := aa
    obtain rfl := ax D
    obtain rfl := ab
    obtain rfl := aN y
    refine hG (any_step ?_); intro A J hJ
    have jg := hMx.keep (sD (List.Sublist.cons_cons _ (sD (List.Sublist.cons_cons _ (sC (List.Sublist.slnil))))))
    refine s1 hFx 136 (i6 (lhexS (d.take (2 : Int).toNat)).1) ?_; intro lO jh
    refine nl (qnI (hJ _ _ ?_))
    have ji := jg.nilRes
    exact ⟨aq, al, am, str d, aL, aG, aC, i6 (lhexS (d.take (2 : Int).toNat)).1, aH, aD, ay, af, Y, ar, ag, .own t8 5 n p c.F.Data, .own tyStr 9 (sm B) C (splitS u0 ([32] : List UInt8)), .row f (e36La c n p) 36, .row l [i6 0, i6 0, i6 0, .bool false, .bool false, .bool false, i6 0, .slice none 0 0] 36, .nil, R, jh.reg, ji.perm ((pk 1 rfl).trans (((pk 1 rfl).trans (((pk 1 rfl).trans (((pk 1 rfl).trans (lpr.cons _)).cons _)).cons _)).cons _)), (nt u), kf, ai, au, az, kf, (nt P), (nt y), (nt m), ak, aw, (nt O), (nt L), kf, (nt m), rfl, kf, (nt D), rfl, kf, (nt y)⟩
   ·
    obtain rfl := oj hi
    have W := hpre 3 (by kernel_rfl)
    have P := hSi
    have y := ngF hcl 5 4 P
    have m := ngF hcl 6 5 y
    have O := ngF hcl 9 4 P
    have L := ngF hcl 10 4 P
    have D := ngF hcl 11 4 P
    have u := ngF hcl 12 4 P
    obtain rfl := ah u
    obtain rfl := aj W
    obtain rfl := aJ m
    obtain rfl := aa
    obtain rfl := ax D
    obtain rfl := ab
    obtain rfl := aN y
    refine hG (any_step ?_); intro A J hJ
    have jj := hMx.keep (sD (List.Sublist.cons_cons _ (sD (List.Sublist.cons_cons _ (sC (List.Sublist.slnil))))))
    refine s1 hFx 137 (y8 (w8 (lhexS (d.take (2 : Int).toNat)).1)) ?_; intro lQ jk
    refine nl (qnI (hJ _ _ ?_))
    have jl := jj.nilRes
    exact ⟨aq, al, am, str d, aL, aG, aC, i6 (lhexS (d.take (2 : Int).toNat)).1, y8 (w8 (lhexS (d.take (2 : Int).toNat)).1), aD, ay, af, Y, ar, ag, .own t8 5 n p c.F.Data, .own tyStr 9 (sm B) C (splitS u0 ([32] : List UInt8)), .row f (e36La c n p) 36, .row l [i6 0, i6 0, i6 0, .bool false, .bool false, .bool false, i6 0, .slice none 0 0] 36, .nil, R, jk.reg, jl.perm ((pk 1 rfl).trans (((pk 1 rfl).trans (((pk 1 rfl).trans (((pk 1 rfl).trans (lpr.cons _)).cons _)).cons _)).cons _)), (nt u), kf, ai, au, az, kf, kf, (nt y), (nt m), ak, aw, (nt O), (nt L), kf, (nt m), rfl, kf, (nt D), rfl, kf, (nt y)⟩
   ·
    obtain rfl := oj hi
    have P := hpre 4 (by kernel_rfl)
    have W := hcl 4 3 (by kernel_rfl) P
    have y := hSi
    have m := ngF hcl 6 5 y
    have O := ngF hcl 9 5 y
    have L := ngF hcl 10 5 y
    have D := ngF hcl 11 5 y
    have u := ngF hcl 12 5 y
    obtain rfl := ah u
    obtain rfl := aj W
    obtain rfl := av P
    obtain rfl := aJ m
    obtain rfl := aa
    obtain rfl := ax D
    obtain rfl := ab
    obtain rfl := aN y
    refine hG (any_step ?_); intro A J hJ
    have fp := hMx.keep (sD (List.Sublist.cons_cons _ (sD (List.Sublist.cons_cons _ (sC (List.Sublist.slnil))))))
    refine nw hFx fp (fun b => .slice (sm b) 1 1) [y8 (w8 (lhexS (d.take (2 : Int).toNat)).1)] 5 ?_; intro cG lS lT jm jn
    refine nl (qnI (hJ _ _ ?_))
    exact ⟨cG, al, am, str d, aL, aG, aC, i6 (lhexS (d.take (2 : Int).toNat)).1, y8 (w8 (lhexS (d.take (2 : Int).toNat)).1), .slice (sm cG) 1 1, ay, af, Y, ar, ag, .own t8 5 n p c.F.Data, .own tyStr 9 (sm B) C (splitS u0 ([32] : List UInt8)), .row f (e36La c n p) 36, .row l [i6 0, i6 0, i6 0, .bool false, .bool false, .bool false, i6 0, .slice none 0 0] 36, .row cG [y8 (w8 (lhexS (d.take (2 : Int).toNat)).1)] 5, R, jm.reg, jn.perm ((pk 1 rfl).trans (((pk 1 rfl).trans (((pk 1 rfl).trans (((pk 1 rfl).trans (lpr.cons _)).cons _)).cons _)).cons _)), (nt u), kf, ai, au, az, kf, kf, kf, (nt m), ak, aw, (nt O), (nt L), kf, (nt m), rfl, kf, (nt D), rfl, nu, kf⟩
   ·
    obtain rfl := oj hi
    have y := hpre 5 (by kernel_rfl)
    have N := hpre 2 (by kernel_rfl)
    have P := hcl 5 4 (by kernel_rfl) y
    have M := hcl 2 1 (by kernel_rfl) N
    have W := hcl 4 3 (by kernel_rfl) P
    have V := hcl 1 0 (by kernel_rfl) M
    have m := hSi
    have O := ngF hcl 9 6 m
    have L := ngF hcl 10 6 m
    have D := ngF hcl 11 6 m
    have u := ngF hcl 12 6 m
    obtain rfl := ah u
    obtain rfl := ai V
    obtain rfl := au M
    obtain rfl := az N
    obtain rfl := aj W
    obtain rfl := av P
    obtain rfl := aA y
    obtain rfl := aJ m
    obtain rfl := aa
    obtain rfl := ax D
    obtain rfl := ab
    obtain rfl := aB y
    refine hG (any_step ?_); intro A J hJ
    refine ap hFx hMx 0 (T := t8) (xs := c.F.Data) (ys := [w8 (lhexS (d.take (2 : Int).toNat)).1]) (ao := n) (cap := p) (ao2 := (sm aq)) (cap2 := 1) (t := 32) (e := 5) (bytes := 1) (nog rfl _) rfl (by kernel_rfl) rfl (by kernel_rfl) (by kernel_rfl) (by kernel_rfl) rfl (Src.row hMx 4 rfl (RepAll.one (T := t8) (x := (w8 (lhexS (d.take (2 : Int).toNat)).1)) rfl)) cw ?_; intro bN bO lV jo lW jp fq
    have jq : Mem w.heap.size [] w Z [.own t8 5 bN bO (c.F.Data ++ [w8 (lhexS (d.take (2 : Int).toNat)).1]), .own tyStr 9 (sm B) C (splitS u0 ([32] : List UInt8)), .row f (e36La c n p) 36, .row l [i6 0, i6 0, i6 0, .bool false, .bool false, .bool false, i6 0, .slice none 0 0] 36, .row aq [y8 (w8 (lhexS (d.take (2 : Int).toNat)).1)] 5] U jo := fq
    refine nl (qnI (hJ _ _ ?_))
    exact ⟨aq, bN, bO, str d, pt f 2, pt f 7, .slice n c.F.Data.length p, i6 (lhexS (d.take (2 : Int).toNat)).1, y8 (w8 (lhexS (d.take (2 : Int).toNat)).1), .slice (sm aq) 1 1, .slice bN (c.F.Data ++ [w8 (lhexS (d.take (2 : Int).toNat)).1]).length bO, af, Y, ar, ag, .own t8 5 bN bO (c.F.Data ++ [w8 (lhexS (d.take (2 : Int).toNat)).1]), .own tyStr 9 (sm B) C (splitS u0 ([32] : List UInt8)), .row f (e36La c n p) 36, .row l [i6 0, i6 0, i6 0, .bool false, .bool false, .bool false, i6 0, .slice none 0 0] 36, .row aq [y8 (w8 (lhexS (d.take (2 : Int).toNat)).1)] 5, R, jp.reg, jq.perm lpr, (nt u), kf, kf, kf, kf, kf, kf, kf, kf, ak, aw, (nt O), (nt L), nu, kf, rfl, kf, (nt D), rfl, (tn y), kf⟩
   ·
    obtain rfl := oj hi
    have aX := hSi
    have a6 := ngF hcl 8 7 aX
    have u := ngF hcl 12 7 aX
    obtain rfl := ah u
    obtain rfl := aa
    obtain rfl := ab
    refine hG (any_step ?_); intro A J hJ
    refine s1 hFx 140 (str d) ?_; intro lY jr
    refine nl (qnI (hJ _ _ ?_))
    exact ⟨aq, al, am, str d, aL, aG, aC, aM, aH, aD, ay, str d, Y, ar, ag, aT, .own tyStr 9 (sm B) C (splitS u0 ([32] : List UInt8)), aU, .row l [i6 0, i6 0, i6 0, .bool false, .bool false, .bool false, i6 0, .slice none 0 0] 36, aI, R, jr.reg, hMx.perm lpr, (nt u), kf, ai, au, az, aj, av, aA, aQ, kf, (nt a6), aV, aW, aJ, aR, rfl, ax, a5, rfl, aN, aB⟩
   ·
    obtain rfl := oj hi
    have aX := hpre 7 (by kernel_rfl)
    have a6 := hSi
    have u := ngF hcl 12 8 a6
    obtain rfl := ah u
    obtain rfl := ak aX
    obtain rfl := aa
    obtain rfl := ab
    refine hG (any_step ?_); intro A J hJ
    refine u_ hFx (str (d.drop (2 : Int).toNat)) (strslL_run hFx (g := []) (k := .i64) rfl (by kernel_rfl) (by kernel_rfl) (by kernel_rfl) cx rfl) ?_; intro l0 js
    refine nl (qnI (hJ _ _ ?_))
    exact ⟨aq, al, am, str d, aL, aG, aC, aM, aH, aD, ay, str d, str (d.drop (2 : Int).toNat), ar, ag, aT, .own tyStr 9 (sm B) C (splitS u0 ([32] : List UInt8)), aU, .row l [i6 0, i6 0, i6 0, .bool false, .bool false, .bool false, i6 0, .slice none 0 0] 36, aI, R, js.reg, hMx.perm lpr, (nt u), kf, ai, au, az, aj, av, aA, aQ, kf, kf, aV, aW, aJ, aR, rfl, ax, a5, rfl, aN, aB⟩
   ·
    obtain rfl := oj hi
    have m := hpre 6 (by kernel_rfl)
    have y := hpre 5 (by kernel_rfl)
    have P := hpre 4 (by kernel_rfl)
    have W := hpre 3 (by kernel_rfl)
    have N := hpre 2 (by kernel_rfl)
    have M := hpre 1 (by kernel_rfl)
    have V := hpre 0 (by kernel_rfl)
    have O := hSi
    have L := ngF hcl 10 9 O
    have D := ngF hcl 11 10 L
    have u := ngF hcl 12 9 O
    obtain rfl := ah u
    obtain rfl := ai V
    obtain rfl := au M
    obtain rfl := az N
    obtain rfl := aj W
    obtain rfl := av P
    obtain rfl := aA y
    obtain rfl := aQ m
    obtain rfl := aR m
    obtain rfl := aa
    obtain rfl := ax D
    obtain rfl := ab
    obtain rfl := aB y
    refine hG (any_step ?_); intro A J hJ
    refine s1 hFx 142 (pt f 2) ?_; intro l4 jt
    refine nl (qnI (hJ _ _ ?_))
    exact ⟨aq, al, am, str d, pt f 2, pt f 7, .slice n c.F.Data.length p, i6 (lhexS (d.take (2 : Int).toNat)).1, y8 (w8 (lhexS (d.take (2 : Int).toNat)).1), .slice (sm aq) 1 1, .slice al (c.F.Data ++ [w8 (lhexS (d.take (2 : Int).toNat)).1]).length am, af, Y, pt f 2, ag, .own t8 5 al am (c.F.Data ++ [w8 (lhexS (d.take (2 : Int).toNat)).1]), .own tyStr 9 (sm B) C (splitS u0 ([32] : List UInt8)), .row f (e36La c n p) 36, .row l [i6 0, i6 0, i6 0, .bool false, .bool false, .bool false, i6 0, .slice none 0 0] 36, .row aq [y8 (w8 (lhexS (d.take (2 : Int).toNat)).1)] 5, R, jt.reg, hMx.perm lpr, (nt u), kf, kf, kf, kf, kf, kf, kf, kf, ak, aw, kf, (nt L), (tn m), kf, rfl, kf, (nt D), rfl, (tn y), kf⟩
   ·
    obtain rfl := oj hi
    have O := hpre 9 (by kernel_rfl)
    have m := hpre 6 (by kernel_rfl)
    have y := hpre 5 (by kernel_rfl)
    have P := hpre 4 (by kernel_rfl)
    have W := hpre 3 (by kernel_rfl)
    have N := hpre 2 (by kernel_rfl)
    have M := hpre 1 (by kernel_rfl)
    have V := hpre 0 (by kernel_rfl)
    have L := hSi
    have D := ngF hcl 11 10 L
    have u := ngF hcl 12 10 L
    obtain rfl := ah u
    obtain rfl := ai V
    obtain rfl := au M
    obtain rfl := az N
    obtain rfl := aj W
    obtain rfl := av P
    obtain rfl := aA y
    obtain rfl := aQ m
    obtain rfl := aV O
    obtain rfl := aR m
    obtain rfl := aa
    obtain rfl := ax D
    obtain rfl := ab
    obtain rfl := aB y
    refine hG (any_step ?_); intro A J hJ
    refine s1 hFx 143 (pt f 7) ?_; intro l6 ju
    refine nl (qnI (hJ _ _ ?_))
    exact ⟨aq, al, am, str d, pt f 2, pt f 7, .slice n c.F.Data.length p, i6 (lhexS (d.take (2 : Int).toNat)).1, y8 (w8 (lhexS (d.take (2 : Int).toNat)).1), .slice (sm aq) 1 1, .slice al (c.F.Data ++ [w8 (lhexS (d.take (2 : Int).toNat)).1]).length am, af, Y, pt f 2, pt f 7, .own t8 5 al am (c.F.Data ++ [w8 (lhexS (d.take (2 : Int).toNat)).1]), .own tyStr 9 (sm B) C (splitS u0 ([32] : List UInt8)), .row f (e36La c n p) 36, .row l [i6 0, i6 0, i6 0, .bool false, .bool false, .bool false, i6 0, .slice none 0 0] 36, .row aq [y8 (w8 (lhexS (d.take (2 : Int).toNat)).1)] 5, R, ju.reg, hMx.perm lpr, (nt u), kf, kf, kf, kf, kf, kf, kf, kf, ak, aw, kf, kf, (tn m), kf, rfl, kf, (nt D), rfl, (tn y), kf⟩
   ·
    obtain rfl := oj hi
    have L := hpre 10 (by kernel_rfl)
    have m := hpre 6 (by kernel_rfl)
    have y := hpre 5 (by kernel_rfl)
    have P := hpre 4 (by kernel_rfl)
    have W := hpre 3 (by kernel_rfl)
    have N := hpre 2 (by kernel_rfl)
    have M := hpre 1 (by kernel_rfl)
    have V := hpre 0 (by kernel_rfl)
    have O := hcl 10 9 (by kernel_rfl) L
    have D := hSi
    have u := ngF hcl 12 11 D
    obtain rfl := ah u
    obtain rfl := ai V
    obtain rfl := au M
    obtain rfl := az N
    obtain rfl := aj W
    obtain rfl := av P
    obtain rfl := aA y
    obtain rfl := aQ m
    obtain rfl := aV O
    obtain rfl := aW L
    obtain rfl := aR m
    obtain rfl := aa
    obtain rfl := ax D
    obtain rfl := ab
    obtain rfl := aB y
    refine hG (any_step ?_); intro A J hJ
    refine sx hFx hMx 2 [i6 c.Time, i6 c.Bus, i6 c.F.ID, .bool c.F.Long, .bool c.F.Fast, .bool c.F.Remote, i6 c.F.Size, .slice al (c.F.Data ++ [w8 (lhexS (d.take (2 : Int).toNat)).1]).length am] 7 ?_; intro l8 jv
    refine nl (qnI (hJ _ _ ?_))
    exact ⟨aq, al, am, str d, pt f 2, pt f 7, .slice n c.F.Data.length p, i6 (lhexS (d.take (2 : Int).toNat)).1, y8 (w8 (lhexS (d.take (2 : Int).toNat)).1), .slice (sm aq) 1 1, .slice al (c.F.Data ++ [w8 (lhexS (d.take (2 : Int).toNat)).1]).length am, af, Y, pt f 2, pt f 7, .own t8 5 al am (c.F.Data ++ [w8 (lhexS (d.take (2 : Int).toNat)).1]), .own tyStr 9 (sm B) C (splitS u0 ([32] : List UInt8)), .row f [i6 c.Time, i6 c.Bus, i6 c.F.ID, .bool c.F.Long, .bool c.F.Fast, .bool c.F.Remote, i6 c.F.Size, .slice al (c.F.Data ++ [w8 (lhexS (d.take (2 : Int).toNat)).1]).length am] 36, .row l [i6 0, i6 0, i6 0, .bool false, .bool false, .bool false, i6 0, .slice none 0 0] 36, .row aq [y8 (w8 (lhexS (d.take (2 : Int).toNat)).1)] 5, R, hFx.reg, jv.perm lpr, (nt u), kf, kf, kf, kf, kf, kf, kf, kf, ak, aw, kf, kf, (tn m), kf, rfl, nu, kf, rfl, (tn y), kf⟩
   obtain rfl := oj hi
   have D := hpre 11 (by kernel_rfl)
   have L := hpre 10 (by kernel_rfl)
   have O := hpre 9 (by kernel_rfl)
   have a6 := hpre 8 (by kernel_rfl)
   have aX := hpre 7 (by kernel_rfl)
   have m := hpre 6 (by kernel_rfl)
   have y := hpre 5 (by kernel_rfl)
   have P := hpre 4 (by kernel_rfl)
   have W := hpre 3 (by kernel_rfl)
   have N := hpre 2 (by kernel_rfl)
   have M := hpre 1 (by kernel_rfl)
   have V := hpre 0 (by kernel_rfl)
   have u := hSi
   obtain rfl := ah u
   obtain rfl := ai V
   obtain rfl := au M
   obtain rfl := az N
   obtain rfl := aj W
   obtain rfl := av P
   obtain rfl := aA y
   obtain rfl := aQ m
   obtain rfl := ak aX
   obtain rfl := aw a6
   obtain rfl := aV O
   obtain rfl := aW L
   obtain rfl := aR m
   obtain rfl := aa
   obtain rfl := a5 D
   obtain rfl := ab
   obtain rfl := aB y
   refine hG (any_step ?_); intro A J hJ
   refine s1 hFx 10 (str (d.drop (2 : Int).toNat)) ?_; intro ma jw
   refine nl (qnI (hJ _ _ ?_))
   exact ⟨aq, al, am, str (d.drop (2 : Int).toNat), pt f 2, pt f 7, .slice n c.F.Data.length p, i6 (lhexS (d.take (2 : Int).toNat)).1, y8 (w8 (lhexS (d.take (2 : Int).toNat)).1), .slice (sm aq) 1 1, .slice al (c.F.Data ++ [w8 (lhexS (d.take (2 : Int).toNat)).1]).length am, str d, str (d.drop (2 : Int).toNat), pt f 2, pt f 7, .own t8 5 al am (c.F.Data ++ [w8 (lhexS (d.take (2 : Int).toNat)).1]), .own tyStr 9 (sm B) C (splitS u0 ([32] : List UInt8)), .row f [i6 c.Time, i6 c.Bus, i6 c.F.ID, .bool c.F.Long, .bool c.F.Fast, .bool c.F.Remote, i6 c.F.Size, .slice al (c.F.Data ++ [w8 (lhexS (d.take (2 : Int).toNat)).1]).length am] 36, .row l [i6 0, i6 0, i6 0, .bool false, .bool false, .bool false, i6 0, .slice none 0 0] 36, .row aq [y8 (w8 (lhexS (d.take (2 : Int).toNat)).1)] 5, R, jw.reg, hMx.perm lpr, kf, nu, kf, kf, kf, kf, kf, kf, kf, kf, kf, kf, kf, (tn m), kf, rfl, (tn D), kf, rfl, (tn y), kf⟩
  case hE =>
   intro S hS mb mc hI; refine Go.Sy.hid ?_; intro G hG; obtain ⟨aq, al, am, a4, aL, aG, aC, aM, aH, aD, ay, af, Y, ar, ag, aT, a9, aU, ba, aI, R, hFx, hMx, bs, ah, hI⟩ := hI; obtain ⟨ai, au, az, aj, av, aA, aQ, ak, aw, aV, aW, aJ, aR, aa, ax, a5, ab, aN, hI⟩ := hI; have aB := hI; refine hG ?_
   obtain rfl := bs (hS 12 (by decide))
   obtain rfl := ai (hS 0 (by decide))
   obtain rfl := au (hS 1 (by decide))
   obtain rfl := az (hS 2 (by decide))
   obtain rfl := aj (hS 3 (by decide))
   obtain rfl := av (hS 4 (by decide))
   obtain rfl := aA (hS 5 (by decide))
   obtain rfl := aQ (hS 6 (by decide))
   obtain rfl := ak (hS 7 (by decide))
   obtain rfl := aw (hS 8 (by decide))
   obtain rfl := aV (hS 9 (by decide))
   obtain rfl := aW (hS 10 (by decide))
   obtain rfl := aR (hS 6 (by decide))
   obtain rfl := aa
   obtain rfl := a5 (hS 11 (by decide))
   obtain rfl := ab
   obtain rfl := aB (hS 5 (by decide))
   exact j_ (d_ ⟨⟨d.drop (2 : Int).toNat, (⟨c.Time, c.Bus, (⟨c.F.ID, c.F.Long, c.F.Fast, c.F.Remote, c.F.Size, c.F.Data ++ [w8 (lhexS (d.take (2 : Int).toNat)).1]⟩ : Frame)⟩ : Line), al, am⟩, fo.1, fo.2, (hFx.reg).anyβ _ (by kernel_rfl), hMx.kp⟩)
 refine x_ (y_ (y_ (z_ (d_ ?_))))
 obtain ⟨fr, fs, ft, jy⟩ := e7.freeze 0 rfl
 replace aO := aO.mono fs
 have jz : Mem w.heap.size [] w Z [.own tyStr 9 (sm B) C (splitS u0 ([32] : List UInt8)), .row f (e36La c n p) 36, .row l [i6 0, i6 0, i6 0, .bool false, .bool false, .bool false, i6 0, .slice none 0 0] 36] fr e5 := ft
 exact iB d c n p fr ⟨jx, jy, aO⟩ _ _ ((bL.reg).anyβ _ (by kernel_rfl)) (jz.kp)

end Go.Proofs.YtdenmllkjdijlaaGreatDoor
set_option linter.unusedVariables false
set_option linter.unusedSimpArgs false
set_option linter.defProp false
set_option maxRecDepth 100000
set_option maxHeartbeats 0
namespace Go.Proofs.YtdenmllkjdijlaaGreatDoor
open Go.Sy Go.RowKit
def cut0_fun (u0 : List UInt8) (u1 : List UInt8) (hpre : u0.length ≤ 1000000 ∧ u1.length = 1)  (Z : Fz) (w : World)  (hZ : Z.on w) := f_ (cut0_walk u0 u1  Z w  hZ (cut0_ok u0 u1 hpre))
theorem cutn_walk (u0 : List UInt8) (u1 : List UInt8)  (Z : Fz) (w : World)  (hZ : Z.on w) {K : ((List UInt8) × (List UInt8) × Bool) → Prop} (hp : cutn_vc u0 u1 K) : Calls Tryz.prog 12 #[str u0, str u1] w fun e w' => ∃ r : (List UInt8) × (List UInt8) × Bool, e = .returned (.tuple #[str r.1, str r.2.1, .bool r.2.2]) ∧ K r ∧ Below w.heap.size w w' := by
 refine enter0 Tryz.func12 rfl rfl (by kernel_rfl) ?_; intro m b; have a := Mem.start w Z hZ
 refine sqB b a [] [] [] ?_; intro o c
 refine sqH ?_; intro i d
 refine bt c a 2 [] [] [(7, str u0), (8, str u1)] ?_; intro p f
 obtain ⟨j, k⟩ := hp
 refine fc f a (cut0_fun u0 u1 j _ _ a.fz) ?_; intro q s g h
 refine bt g h 6 [] [] [(4, str (cutN u0 u1).1), (5, str (cutN u0 u1).2.1), (6, .bool (cutN u0 u1).2.2)] ?_; intro t l
 apply d
 exact r_ (ra3 l (.tuple #[str (cutN u0 u1).1, str (cutN u0 u1).2.1, .bool (cutN u0 u1).2.2]) ⟨((cutN u0 u1).1, (cutN u0 u1).2.1, (cutN u0 u1).2.2), rfl, k, h.below⟩)

end Go.Proofs.YtdenmllkjdijlaaGreatDoor
set_option linter.unusedVariables false
set_option linter.unusedSimpArgs false
set_option linter.defProp false
set_option maxRecDepth 100000
set_option maxHeartbeats 0
namespace Go.Proofs.YtdenmllkjdijlaaGreatDoor
open Go.Sy Go.RowKit
abbrev e36Lc (X : Line) (A0 : Option Addr) (C0 : Nat) : List Value := [i6 X.Time, i6 X.Bus, i6 X.F.ID, .bool X.F.Long, .bool X.F.Fast, .bool X.F.Remote, i6 X.F.Size, .slice A0 X.F.Data.length C0]
theorem starE : "*" ++ "errors.errorString" = "*errors.errorString" := by decide
theorem rowE (u : TypeId) (h : Tryz.prog.typeName? 3 u = some "*errors.errorString") : u = 182 :=
  Go.typeName_ptr_named (nm := "errors.errorString") (by rw [starE]; kernel_rfl) (by kernel_rfl) (by decide) u (by rw [starE]; exact h)

def traced_fun   (Z : Fz) (w : World) (hg5 : TabF Z 5 .u64 Lib.pow10Tab) (hg1 : ErrR Z 1) (hg2 : ErrR Z 2) (hZ : Z.on w) := f_ (traced_walk   Z w hg5 hg1 hg2 hZ (traced_ok ))
def cutn_fun (u0 : List UInt8) (u1 : List UInt8) (hpre : u0.length ≤ 1000000 ∧ u1.length = 1)  (Z : Fz) (w : World)  (hZ : Z.on w) := f_ (cutn_walk u0 u1  Z w  hZ (cutn_ok u0 u1 hpre))
def lineof_fun (u0 : List UInt8) (hpre : u0.length ≤ 40000)  (Z : Fz) (w : World)  (hZ : Z.on w) := fc_ (lineof_walk u0  Z w  hZ (lineof_ok u0 hpre))
theorem LParse_walk (u0 : List UInt8)  (Z : Fz) (w : World) (hg5 : TabF Z 5 .u64 Lib.pow10Tab) (hg1 : ErrR Z 1) (hg2 : ErrR Z 2) (hZ : Z.on w) {K : Bool → Prop} (hp : LParse_vc u0 K) : Calls Tryz.prog 4 #[str u0] w fun e w' => ∃ r : Bool, e = .returned (.bool r) ∧ K r ∧ Below w.heap.size w w' := by
 refine enter0 Tryz.func4 rfl rfl (by kernel_rfl) ?_; intro a0 ak; have H := Mem.start w Z hZ
 refine sqB ak H [] [] [] ?_; intro a2 al
 refine sqH ?_; intro bw am
 refine s1 al 15 (str u0) ?_; intro a5 an
 refine ck an 11 #[str u0] ?_
 refine (tparse_fun u0 _ _ hg5 hg1 hg2 H.fz).mono ?_; rintro _ bx ⟨j, k, I, rfl, aq, hm⟩; refine ⟨_, rfl, ?_⟩; intro a8 ar; have au := H.callZ hm; have J := hm.ext.le
 replace hg5 := hg5.mono J
 replace hg1 := hg1.mono J
 replace hg2 := hg2.mono J
 have L : Mem w.heap.size [] w Z [] I bx := au
 have M := hp (aq.small)
 refine bt ar L 7 [] [] [(3, .slice j (parseS u0).1.length k), (4, i6 (parseS u0).2.1), (5, i6 (parseS u0).2.2)] ?_; intro b9 av
 apply am
 refine s_ (sqH ?_); intro bz aw
 refine fc av L (traced_fun  _ _ hg5 hg1 hg2 L.fz) ?_; intro ca bA ax l
 refine bt ax l 6 [] [23, 24, 25, 26] [(26, .bool (decide ((u0.length : Int) > 40000)))] ?_; intro cb A
 apply aw
 refine cd A (t := decide ((u0.length : Int) > 40000)) (by kernel_rfl) (fun W => ?_) (fun W => ?_)
 · -- yes
  have bB := M.1 W
  refine sqH ?_; intro bC ay
  refine fc A l (traced_fun  _ _ hg5 hg1 hg2 l.fz) ?_; intro cc ce az aA
  refine bt az aA 14 [] [29, 30, 31] [(2, .bool ((((parseS u0).2.2 == 2) && ((parseS u0).2.1 == 0)) && (((parseS u0).1.length : Int) == 0)))] ?_; intro cf bD
  apply ay
  exact r_ (h_ (ra1 bD (.bool ((((parseS u0).2.2 == 2) && ((parseS u0).2.1 == 0)) && (((parseS u0).1.length : Int) == 0))) ⟨(((parseS u0).2.2 == 2) && ((parseS u0).2.1 == 0)) && (((parseS u0).1.length : Int) == 0), rfl, bB, aA.below⟩))
 · -- no
  have bE := M.2 W
  refine k_ (sqB A l [] [] [(6, .slice none 0 0)] ?_); intro cg aB
  refine s_ (sqB aB l [] [] [(7, i6 0)] ?_); intro aC aD
  apply b_
  have aE : Fr 106 [] [⟨0, [], str u0⟩, ⟨3, [], .slice j (parseS u0).1.length k⟩, ⟨4, [], i6 (parseS u0).2.1⟩, ⟨5, [], i6 (parseS u0).2.2⟩, ⟨6, [], .slice none 0 0⟩, ⟨7, [], i6 0⟩] aC := aD.reg
  have aF : Mem w.heap.size [] w Z [.own tyLine 36 none 0 ([] : List Line)] I bA := l.addNil tyLine 36 (by decide)
  have aG : Fr 106 [] [⟨0, [], str u0⟩, ⟨3, [], .slice j (parseS u0).1.length k⟩, ⟨4, [], i6 (parseS u0).2.1⟩, ⟨5, [], i6 (parseS u0).2.2⟩, ⟨6, [], .slice none ([] : List Line).length 0⟩, ⟨7, [], i6 0⟩] aC := aE.reg
  obtain ⟨bF, bG, bH, bI⟩ := bE
  refine lp (ι := (List UInt8) × (List Line) × Int × (Option Addr) × Nat × Fz) (fun s => [⟨0, [], str s.1⟩, ⟨3, [], .slice j (parseS u0).1.length k⟩, ⟨4, [], i6 (parseS u0).2.1⟩, ⟨5, [], i6 (parseS u0).2.2⟩, ⟨6, [], .slice s.2.2.2.1 s.2.1.length s.2.2.2.2.1⟩, ⟨7, [], i6 s.2.2.1⟩]) (fun s => [.own tyLine 36 s.2.2.2.1 s.2.2.2.2.1 s.2.1]) (fun s => s.2.2.2.2.2) (fun s => bF s.1 s.2.1 s.2.2.1 ∧ Fz.le I s.2.2.2.2.2) (fun s => bG s.1 s.2.1 s.2.2.1) ⟨u0, ([] : List Line), 0, none, 0, I⟩ ⟨bH, Fz.le.refl _⟩ (by exact aG.region (by kernel_rfl) (by kernel_rfl)) (by exact aF) ?_
  rintro ⟨a, c, p, d, f, bJ⟩ ⟨bK, h⟩ bL aH aI aJ
  have N := bI a c p bK
  have C := aq.mono h
  refine s_ (sqB aI aJ [] [148] [(42, .bool (a != ([] : List UInt8)))] ?_); intro ci D
  refine cd D (t := a != ([] : List UInt8)) (by kernel_rfl) (fun X => ?_) (fun X => ?_)
  · -- yes
   have bM := N.1 X
   refine k_ (s_ (b_ (sqH ?_))); intro bN aL
   refine s1 D 46 (str a) ?_; intro cl aM
   obtain ⟨bO, bP⟩ := bM
   refine fc aM aJ (cutn_fun a ([10] : List UInt8) bO _ _ aJ.fz) ?_; intro cm cn aN R
   refine bt aN R 7 [] [] [(8, str (cutN a ([10] : List UInt8)).1), (9, str (cutN a ([10] : List UInt8)).2.1), (10, .bool (cutN a ([10] : List UInt8)).2.2)] ?_; intro co aO
   apply aL
   refine sqH ?_; intro bQ aP
   refine s1 aO 52 (str (cutN a ([10] : List UInt8)).1) ?_; intro cp aQ
   obtain ⟨bR, aR⟩ := bP
   refine ck aQ 13 #[str (cutN a ([10] : List UInt8)).1] ?_
   refine (lineof_fun (cutN a ([10] : List UInt8)).1 bR _ _ R.fz).mono ?_; rintro _ bS ⟨n, o, S, rfl, aS, hm⟩; refine ⟨_, rfl, ?_⟩; intro cq aT; have aU := R.callZ hm; have q := hm.ext.le
   replace h := h.mono q
   have Y : Mem w.heap.size [] w Z [.own tyLine 36 d f c] S bS := aU
   have U := aR (aS.small)
   refine bt aT Y 3 [] [] [(54, .agg (e36Lc ((lineofS (cutN a ([10] : List UInt8)).1).1) n o).toArray), (55, .bool (lineofS (cutN a ([10] : List UInt8)).1).2)] ?_; intro cr aV
   refine nw aV Y pb [i6 0, i6 0, i6 0, .bool false, .bool false, .bool false, i6 0, .slice none 0 0] 36 ?_; intro aW cs ct aa aX
   refine sx aa aX 0 (e36Lc ((lineofS (cutN a ([10] : List UInt8)).1).1) n o) 0 ?_; intro bT aY
   refine s1 aa 12 (.bool (lineofS (cutN a ([10] : List UInt8)).1).2) ?_; intro cu aZ
   have u : Mem w.heap.size [] w Z [.row aW (e36Lc ((lineofS (cutN a ([10] : List UInt8)).1).1) n o) 36, .own tyLine 36 d f c] S bT := aY
   apply aP
   refine s_ (sqB aZ u [] [] [(61, .bool ((!(cutN a ([10] : List UInt8)).2.2) || (!(lineofS (cutN a ([10] : List UInt8)).1).2)))] ?_); intro cv E
   refine cd E (t := (!(cutN a ([10] : List UInt8)).2.2) || (!(lineofS (cutN a ([10] : List UInt8)).1).2)) (by kernel_rfl) (fun ab => ?_) (fun ab => ?_)
   · -- yes
    have bU := U.1 ab
    refine sqB E u [] [] [(2, .bool ((((parseS u0).2.2 == 1) && ((parseS u0).2.1 == p)) && (((parseS u0).1.length : Int) == 0)))] ?_; intro cw bV
    exact r_ (h_ (i_ (h_ (h_ (i_ (h_ (ra1 bV (.bool ((((parseS u0).2.2 == 1) && ((parseS u0).2.1 == p)) && (((parseS u0).1.length : Int) == 0))) ⟨(((parseS u0).2.2 == 1) && ((parseS u0).2.1 == p)) && (((parseS u0).1.length : Int) == 0), rfl, bU, u.below⟩)))))))
   · -- no
    have bW := U.2 ab
    refine k_ (rgH ?_); intro bX a1
    refine bt E u 2 [0] [] [(74, .slice d c.length f), (75, .agg (e36Lc ((lineofS (cutN a ([10] : List UInt8)).1).1) n o).toArray)] ?_; intro cx a3
    refine nw a3 u (fun b => .slice (sm b) 1 1) (e36Lc ((lineofS (cutN a ([10] : List UInt8)).1).1) n o) 36 ?_; intro a4 cy cz a6 ac
    obtain ⟨bY, a7⟩ := bW
    refine ap a6 ac 2 (T := tyLine) (xs := c) (ys := [(lineofS (cutN a ([10] : List UInt8)).1).1]) (ao := d) (cap := f) (ao2 := (sm a4)) (cap2 := 1) (t := 22) (e := 36) (bytes := 64) (nog rfl _) rfl (by kernel_rfl) rfl (by kernel_rfl) (by kernel_rfl) (by kernel_rfl) rfl (Src.row ac 0 rfl (RepAll.one (T := tyLine) (x := (lineofS (cutN a ([10] : List UInt8)).1).1) ⟨n, o, rfl, aS⟩)) bY ?_; intro ad ae cA bZ cB a9 ba
    have af : Mem w.heap.size [] w Z [.row a4 (e36Lc ((lineofS (cutN a ([10] : List UInt8)).1).1) n o) 36, .row aW (e36Lc ((lineofS (cutN a ([10] : List UInt8)).1).1) n o) 36, .own tyLine 36 ad ae (c ++ [(lineofS (cutN a ([10] : List UInt8)).1).1])] S bZ := ba
    refine bt a9 af 3 [] [] [(0, str (cutN a ([10] : List UInt8)).2.1), (6, .slice ad (c ++ [(lineofS (cutN a ([10] : List UInt8)).1).1]).length ae)] ?_; intro cC bb
    apply a1
    refine j_ (t_ (rgB bb af [] [] [(7, i6 (w64 (p + 1)))] ?_)); intro cD b0
    exact d_ ⟨⟨(cutN a ([10] : List UInt8)).2.1, c ++ [(lineofS (cutN a ([10] : List UInt8)).1).1], w64 (p + 1), ad, ae, S⟩, ⟨a7.1, h⟩, a7.2, (b0.region (by kernel_rfl) (by kernel_rfl)).anyβ _ (by kernel_rfl), af.kp⟩
  · -- no
   have V := N.2 X
   refine x_ (y_ (y_ (z_ (t_ (s_ (sqH ?_)))))); intro b1 bc
   refine s1 D 79 (.slice d c.length f) ?_; intro cE bd
   obtain ⟨b2, y, be, bf⟩ := aJ.freeze 0 rfl
   replace C := C.mono y
   have ag : Mem w.heap.size [] w Z [] b2 aH := be
   refine fc bd ag (rcheckl_fun c d f _ _ bf ag.fz) ?_; intro cF cG bg z
   refine s1 bg 13 (i6 (checkS c)) ?_; intro cH bh
   apply bc
   refine sqB bh z [] [] [(82, .bool ((checkS c) != 0))] ?_; intro cI G
   refine cd G (t := (checkS c) != 0) (by kernel_rfl) (fun ah => ?_) (fun ah => ?_)
   · -- yes
    have b3 := V.1 ah
    refine sqB G z [] [] [(2, .bool ((((parseS u0).2.2 == (checkS c)) && ((parseS u0).2.1 == 0)) && (((parseS u0).1.length : Int) == 0)))] ?_; intro cJ b4
    exact r_ (h_ (ra1 b4 (.bool ((((parseS u0).2.2 == (checkS c)) && ((parseS u0).2.1 == 0)) && (((parseS u0).1.length : Int) == 0))) ⟨(((parseS u0).2.2 == (checkS c)) && ((parseS u0).2.1 == 0)) && (((parseS u0).1.length : Int) == 0), rfl, b3, z.below⟩))
   · -- no
    have b5 := V.2 ah
    refine k_ (sqH ?_); intro b6 bi
    refine s1 G 95 (i6 (parseS u0).2.2) ?_; intro cK bk
    refine s1 bk 96 (.bool ((parseS u0).2.2 == 0)) ?_; intro cL bl
    refine s1 bl 97 (.bool ((parseS u0).2.2 == 0)) ?_; intro cM bm
    have bn := bm.atom (((parseS u0).2.2 == 0) == true) (by kernel_rfl)
    refine gp bn 98 0 [] ((parseS u0).2.2 == 0) (i6 (parseS u0).2.1) rfl rfl ?_; intro cN bo
    refine gp bo 99 0 [] ((parseS u0).2.2 == 0) (.bool ((parseS u0).2.1 == 0)) rfl rfl ?_; intro cO ai
    refine u_ ai (.bool (((parseS u0).2.2 == 0) && ((parseS u0).2.1 == 0))) (pk_and ai (g := []) (m := 0) (b := (parseS u0).2.2 == 0) (v := (parseS u0).2.1 == 0) rfl (by kernel_rfl) (by kernel_rfl) (by kernel_rfl) rfl) ?_; intro cP bp
    refine s1 bp 101 (.bool (((parseS u0).2.2 == 0) && ((parseS u0).2.1 == 0))) ?_; intro cQ bq
    have br := bq.atom ((((parseS u0).2.2 == 0) && ((parseS u0).2.1 == 0)) == true) (by kernel_rfl)
    refine gp br 102 1 [] (((parseS u0).2.2 == 0) && ((parseS u0).2.1 == 0)) (.slice j (parseS u0).1.length k) rfl rfl ?_; intro cR bs
    refine gp bs 103 1 [] (((parseS u0).2.2 == 0) && ((parseS u0).2.1 == 0)) (.slice d c.length f) rfl rfl ?_; intro cS bu
    refine gcl bu z (.bool (slinesS (parseS u0).1 c)) 14 #[.slice j (parseS u0).1.length k, .slice d c.length f] (m := 1) (cj := []) (bj := ((parseS u0).2.2 == 0) && ((parseS u0).2.1 == 0)) rfl rfl (by kernel_rfl) rfl (by kernel_rfl) (by kernel_rfl) (by kernel_rfl) (fun _ => by kernel_rfl) (fun hg => slines_fun (parseS u0).1 c j k d f _ _ C bf z.fz) ?_; intro cT cU aj b7
    refine u_ aj (.bool ((((parseS u0).2.2 == 0) && ((parseS u0).2.1 == 0)) && (slinesS (parseS u0).1 c))) (pk_and aj (g := []) (m := 1) (b := ((parseS u0).2.2 == 0) && ((parseS u0).2.1 == 0)) (v := (slinesS (parseS u0).1 c)) rfl (by kernel_rfl) (by kernel_rfl) (by kernel_rfl) rfl) ?_; intro cV bv
    refine s1 bv 2 (.bool ((((parseS u0).2.2 == 0) && ((parseS u0).2.1 == 0)) && (slinesS (parseS u0).1 c))) ?_; intro cW b8
    apply bi
    exact r_ (ra1 b8 (.bool ((((parseS u0).2.2 == 0) && ((parseS u0).2.1 == 0)) && (slinesS (parseS u0).1 c))) ⟨(((parseS u0).2.2 == 0) && ((parseS u0).2.1 == 0)) && (slinesS (parseS u0).1 c), rfl, b5, b7.below⟩)

end Go.Proofs.YtdenmllkjdijlaaGreatDoor
