/- Texts put together (pure ones, or walks made by program). -/
import Derived.Test.YtmkdnaecmombnaaRS0
import Derived.Test.YtmkdnaecmombnaaRS1
import Derived.Test.YtmkdnaecmombnaaRS2
import Derived.Test.YtmkdnaecmombnaaRS3
import Derived.Test.YtmkdnaecmombnaaRS4
set_option linter.unusedVariables false
set_option linter.unusedSimpArgs false
set_option linter.defProp false
set_option maxRecDepth 100000
set_option maxHeartbeats 0
namespace Go.Proofs.Ytmkdnaecmombnaa
open Go.Sy Go.RowKit
abbrev e25J (X : Frame) (A0 : Option Addr) (C0 : Nat) : List Value := [i6 X.ID, .bool X.Long, .bool X.Fast, .bool X.Remote, i6 X.Size, .slice A0 X.Data.length C0]
abbrev e29J (X : Route) : List Value := [i6 X.From, i6 X.To, i6 X.F.Want, i6 X.F.Mask, .bool X.F.Long, i6 X.Add, i6 X.Every]
abbrev e75J (X : Key) : List Value := [i6 X.bus, i6 X.id, .bool X.long]
def sorted_fun (u0 : List Line) (hpre : (∀ x ∈ u0, lineR x) ∧ u0.length ≤ 1000000) (ao1 : Option Addr) (cap2 : Nat) (B : Nat) (w0 : World) (Z0 : Fz) (Rr : List Res) (Z : Fz) (w : World) (hM0 : Mem B [] w0 Z0 ((.own tyLine 42 ao1 cap2 u0) :: Rr) Z w) (hZ : Z.on w) := fc_ (sorted_walk u0 ao1 cap2 B w0 Z0 Rr Z w hM0 hZ (sorted_ok u0 hpre))
def icontf_fun (u0 : List Int) (u1 : Int → Bool) (ao1 : Option Addr) (cap2 : Nat) (fid4 : Nat) (caps5 : Array Value) (Z : Fz) (w : World) (hs3 : SlR t6 Z ao1 cap2 u0) (hf6 : ∀ (Z1 : Fz) (w1 : World), Z.le Z1 → Z1.on w1 → ∀ (x0 : Int), Calls Try.prog fid4 (#[i6 x0] ++ caps5) w1 fun e w2 => e = .returned (.bool (u1 x0)) ∧ Below w1.heap.size w1 w2) (hg7 : ∀ x w, Sem.run Try.prog (callFunc fid4 x) w = .ok (.enter fid4 x) w) (hZ : Z.on w) := f_ (icontf_walk u0 u1 ao1 cap2 fid4 caps5 Z w hs3 hf6 hg7 hZ (icontf_ok u0 u1))
theorem spread_walk (u0 : List Route) (u1 : Int) (u2 : Frame) (ao1 : Option Addr) (cap2 : Nat) (ao4 : Option Addr) (cap5 : Nat) (Z : Fz) (w : World) (hs3 : SlR tyRoute Z ao1 cap2 u0) (hs6 : SlR t8 Z ao4 cap5 u2.Data) (hZ : Z.on w) {K : ((List Line) × Int) → Prop} (hp : spread_vc u0 u1 u2 K) : Calls Try.prog 8 #[.slice ao1 u0.length cap2, i6 u1, .agg #[i6 u2.ID, .bool u2.Long, .bool u2.Fast, .bool u2.Remote, i6 u2.Size, .slice ao4 u2.Data.length cap5]] w fun e w' => ∃ (r : (List Line) × Int) (ao1001 : Option Addr) (cap1002 : Nat) (Z' : Fz), e = .returned (.tuple #[.slice ao1001 r.1.length cap1002, i6 r.2]) ∧ K r ∧ Mem w.heap.size [] w Z [.own tyLine 42 ao1001 cap1002 r.1] Z' w' := by
 refine enter0 Try.func8 rfl rfl (by kernel_rfl) ?_; intro a0 av; have aw := Mem.start w Z hZ
 have bJ := hp (hs3.small) (hs6.small)
 refine sqH ?_; intro bK ay
 refine nw av aw pb (e25J u2 ao4 cap5) 25 ?_; intro g cA cB az V
 refine bt az V 2 [] [] [] ?_; intro cC aA
 apply ay
 refine sqH ?_; intro bL aB
 refine s1 aA 18 (.slice ao1 u0.length cap2) ?_; intro cD aC
 obtain ⟨bM, aD⟩ := bJ
 refine ck aC 9 #[.slice ao1 u0.length cap2] ?_
 refine (gnew_fun u0 bM ao1 cap2 _ _ hs3 V.fz).mono ?_; rintro _ bN ⟨n, o, p, q, s, rfl, l, m, hm⟩; refine ⟨_, rfl, ?_⟩; intro cE aE; have aF := V.callZ hm; have ae := hm.ext.le
 replace hs6 := hs6.mono ae
 have af : Mem w.heap.size [] w Z [.row g (e25J u2 ao4 cap5) 25] s bN := aF
 have W := aD (l.small) (m.small)
 refine bt aE af 3 [] [] [(20, .agg #[.slice n (gnewS u0).1.Routes.length o, .slice p (gnewS u0).1.Last.length q]), (21, i6 (gnewS u0).2)] ?_; intro cF aH
 refine nw aH af pb [.slice none 0 0, .slice none 0 0] 37 ?_; intro f cG cH ag aI
 refine sx ag aI 0 [.slice n (gnewS u0).1.Routes.length o, .slice p (gnewS u0).1.Last.length q] 0 ?_; intro aJ aK
 refine s1 ag 9 (i6 (gnewS u0).2) ?_; intro cI aL
 have G : Mem w.heap.size [] w Z [.row f [.slice n (gnewS u0).1.Routes.length o, .slice p (gnewS u0).1.Last.length q] 37, .row g (e25J u2 ao4 cap5) 25] s aJ := aK
 apply aB
 refine s_ (sqB aL G [] [] [(23, .bool ((gnewS u0).2 != 0))] ?_); intro cJ N
 refine c_ N W (fun _ bO => ?_) fun _ X => ?_
 ·
  refine sqB N G [] [] [(6, .slice none 0 0), (7, i6 (gnewS u0).2)] ?_; intro cK bP
  refine r_ (h_ ?_)
  have bQ : Mem w.heap.size [] w Z [.own tyLine 42 none 0 ([] : List Line), .row f [.slice n (gnewS u0).1.Routes.length o, .slice p (gnewS u0).1.Last.length q] 37, .row g (e25J u2 ao4 cap5) 25] s aJ := G.addNil tyLine 42 (by decide)
  exact ra2 bP (.tuple #[.slice none ([] : List Line).length 0, i6 (gnewS u0).2]) ⟨(([] : List Line), (gnewS u0).2), none, 0, s, rfl, bO, bQ.kp⟩
 refine k_ (s_ (sqH ?_)); intro bR aM
 refine l2 N G 25 1 0 6 (e25J u2 ao4 cap5) rfl rfl ?_; intro cL aN
 refine fc aN G (fcheckfr_fun u2 ao4 cap5 _ _ hs6 G.fz) ?_; intro cM aO aP z
 refine s1 aP 10 (i6 (fcheckfr u2)) ?_; intro cN aQ
 apply aM
 refine sqB aQ z [] [] [(28, .bool ((fcheckfr u2) != 0))] ?_; intro cO O
 refine c_ O X (fun _ bS => ?_) fun _ Y => ?_
 ·
  refine sqB O z [] [] [(6, .slice none 0 0), (7, i6 (fcheckfr u2))] ?_; intro cP bT
  refine r_ (h_ ?_)
  have bU : Mem w.heap.size [] w Z [.own tyLine 42 none 0 ([] : List Line), .row f [.slice n (gnewS u0).1.Routes.length o, .slice p (gnewS u0).1.Last.length q] 37, .row g (e25J u2 ao4 cap5) 25] s aO := z.addNil tyLine 42 (by decide)
  exact ra2 bT (.tuple #[.slice none ([] : List Line).length 0, i6 (fcheckfr u2)]) ⟨(([] : List Line), (fcheckfr u2)), none, 0, s, rfl, bS, bU.kp⟩
 refine k_ (s_ (sqB O z [] [] [(35, .bool ((decide (u1 < 0)) || (decide (u1 ≥ 4))))] ?_)); intro cQ P
 refine c_ P Y (fun _ bV => ?_) fun _ bY => ?_
 ·
  refine sqB P z [] [] [(6, .slice none 0 0), (7, i6 3)] ?_; intro cR bW
  refine r_ (h_ ?_)
  have bX : Mem w.heap.size [] w Z [.own tyLine 42 none 0 ([] : List Line), .row f [.slice n (gnewS u0).1.Routes.length o, .slice p (gnewS u0).1.Last.length q] 37, .row g (e25J u2 ao4 cap5) 25] s aO := z.addNil tyLine 42 (by decide)
  exact ra2 bW (.tuple #[.slice none ([] : List Line).length 0, i6 3]) ⟨(([] : List Line), 3), none, 0, s, rfl, bV, bX.kp⟩
 refine k_ (sqH ?_); intro bZ aR
 refine nw P z pb [.slice none 0 0] 31 ?_; intro a cT cU aS aT
 apply aR
 refine sqH ?_; intro b0 aU
 refine mkm aS aT (fun x : Key => .agg (e75J x).toArray) (fun x : Bool => .bool x) (t := 71) (nog rfl _) rfl (by kernel_rfl) rfl ?_; intro h cV b1 aV aW
 have aX : Mem w.heap.size [] w Z [.map (fun x : Key => .agg (e75J x).toArray) (fun x : Bool => .bool x) h ([] : List (Key × Bool)), .row a [.slice none 0 0] 31, .row f [.slice n (gnewS u0).1.Routes.length o, .slice p (gnewS u0).1.Last.length q] 37, .row g (e25J u2 ao4 cap5) 25] s b1 := aW
 refine nw aV aX pb [.map none] 71 ?_; intro j cW cX ak aY
 refine sx ak aY 0 [.map (some h)] 0 ?_; intro b2 aZ
 have a1 : Mem w.heap.size [] w Z [.row j [.map (some h)] 71, .map (fun x : Key => .agg (e75J x).toArray) (fun x : Bool => .bool x) h ([] : List (Key × Bool)), .row a [.slice none 0 0] 31, .row f [.slice n (gnewS u0).1.Routes.length o, .slice p (gnewS u0).1.Last.length q] 37, .row g (e25J u2 ao4 cap5) 25] s b2 := aZ
 apply aU
 refine sqH ?_; intro b3 a2
 refine nw ak a1 pb [.bool false] 4 ?_; intro b cY cZ a3 a4
 refine nw a3 a4 pb [.bool false] 4 ?_; intro c c0 c1 a5 a6
 refine nw a5 a6 pb [i6 0] 3 ?_; intro d c2 c3 Q a7
 refine sx Q a7 2 [.bool false] 0 ?_; intro c4 a8
 refine sx Q a8 1 [.bool false] 0 ?_; intro c5 a9
 refine sx Q a9 0 [i6 0] 0 ?_; intro b4 ba
 have bb : Mem w.heap.size [] w Z [.row d [i6 0] 3, .row c [.bool false] 4, .row b [.bool false] 4, .row j [.map (some h)] 71, .map (fun x : Key => .agg (e75J x).toArray) (fun x : Bool => .bool x) h ([] : List (Key × Bool)), .row a [.slice none 0 0] 31, .row f [.slice n (gnewS u0).1.Routes.length o, .slice p (gnewS u0).1.Last.length q] 37, .row g (e25J u2 ao4 cap5) 25] s b4 := ba
 apply a2
 refine sqH ?_; intro b5 bc
 refine nw Q bb pb [.nilFunc] 72 ?_; intro i c6 c7 bd be
 apply bc
 refine sqH ?_; intro b6 bf
 refine s1 bd 37 (.func (.func 28) #[] #[pt b 0, pt j 0, pt c 0, pt d 0, pt f 0, pt a 0, pt i 0]) ?_; intro b7 al
 refine sx al be 0 [.func (.func 28) #[] #[pt b 0, pt j 0, pt c 0, pt d 0, pt f 0, pt a 0, pt i 0]] 0 ?_; intro b8 bg
 have bh : Mem w.heap.size [] w Z [.row i [.func (.func 28) #[] #[pt b 0, pt j 0, pt c 0, pt d 0, pt f 0, pt a 0, pt i 0]] 72, .row d [i6 0] 3, .row c [.bool false] 4, .row b [.bool false] 4, .row j [.map (some h)] 71, .map (fun x : Key => .agg (e75J x).toArray) (fun x : Bool => .bool x) h ([] : List (Key × Bool)), .row a [.slice none 0 0] 31, .row f [.slice n (gnewS u0).1.Routes.length o, .slice p (gnewS u0).1.Last.length q] 37, .row g (e25J u2 ao4 cap5) 25] s b8 := bg
 apply bf
 have bi : Fr 47 [] [⟨1, [], i6 u1⟩, ⟨5, [], pt g 0⟩, ⟨11, [], pt a 0⟩, ⟨13, [], pt b 0⟩, ⟨14, [], pt c 0⟩, ⟨16, [], pt i 0⟩] b7 := al.reg
 refine wp_seq (rgS mixed bh [(0, true), (1, true), (2, true), (3, false), (4, false)] [4] [0, 8] [.row i [.func (.func 28) #[] #[pt b 0, pt j 0, pt c 0, pt d 0, pt f 0, pt a 0, pt i 0]] 72, .row g (e25J u2 ao4 cap5) 25] ?_)
 intro b9 bj c8 am
 have v := Fz.le.refl s
 refine cS bi 3 [0, 1] [] [(38, .func (.func 28) #[] #[pt b 0, pt j 0, pt c 0, pt d 0, pt f 0, pt a 0, pt i 0]), (39, i6 u1), (40, .agg (e25J u2 ao4 cap5).toArray)] ?_; intro c9 bk
 refine eS rfl ?_; intro ca bl
 obtain ⟨cb, cc⟩ := bY
 refine ck bk 31 #[.agg (e25J u2 ao4 cap5).toArray] ?_
 refine (fcopy_fun u2 cb ao4 cap5 _ _ hs6 am.fz).mono ?_; rintro _ L ⟨bm, bn, ce, rfl, y, hm⟩; refine ⟨_, rfl, ?_⟩; intro da bo; have bp := am.callZ hm; have M := hm.ext.le
 replace l := l.mono M
 replace m := m.mono M
 replace v := v.mono M
 have bq : Mem w.heap.size [] w Z [.row i [.func (.func 28) #[] #[pt b 0, pt j 0, pt c 0, pt d 0, pt f 0, pt a 0, pt i 0]] 72, .row d [i6 0] 3, .row c [.bool false] 4, .row b [.bool false] 4, .row j [.map (some h)] 71, .map (fun x : Key => .agg (e75J x).toArray) (fun x : Bool => .bool x) h ([] : List (Key × Bool)), .row a [.slice none 0 0] 31, .row f [.slice n (gnewS u0).1.Routes.length o, .slice p (gnewS u0).1.Last.length q] 37, .row g (e25J u2 ao4 cap5) 25] ce L := bp
 refine nl (qnI (bl _ _ (bq.cst v [0, 8]) ?_))
 refine eL rfl ?_; intro cf br
 obtain ⟨cg, I, bs, D⟩ := bq.freezeRow 4 rfl
 replace l := l.mono I
 replace m := m.mono I
 replace y := y.mono I
 have ch : Mem w.heap.size [] w Z [.row i [.func (.func 28) #[] #[pt b 0, pt j 0, pt c 0, pt d 0, pt f 0, pt a 0, pt i 0]] 72, .row d [i6 0] 3, .row c [.bool false] 4, .row b [.bool false] 4, .map (fun x : Key => .agg (e75J x).toArray) (fun x : Bool => .bool x) h ([] : List (Key × Bool)), .row a [.slice none 0 0] 31, .row f [.slice n (gnewS u0).1.Routes.length o, .slice p (gnewS u0).1.Last.length q] 37, .row g (e25J u2 ao4 cap5) 25] cg L := bs
 obtain ⟨an, H, bu, J⟩ := ch.freezeRow 6 rfl
 replace l := l.mono H
 replace m := m.mono H
 replace y := y.mono H
 replace D := D.mono H
 have bv : Mem w.heap.size [] w Z [.row i [.func (.func 28) #[] #[pt b 0, pt j 0, pt c 0, pt d 0, pt f 0, pt a 0, pt i 0]] 72, .row d [i6 0] 3, .row c [.bool false] 4, .row b [.bool false] 4, .map (fun x : Key => .agg (e75J x).toArray) (fun x : Bool => .bool x) h ([] : List (Key × Bool)), .row a [.slice none 0 0] 31, .row g (e25J u2 ao4 cap5) 25] an L := bu
 have bw : Mem w.heap.size [] w Z [.own tyLine 42 none 0 ([] : List Line), .row i [.func (.func 28) #[] #[pt b 0, pt j 0, pt c 0, pt d 0, pt f 0, pt a 0, pt i 0]] 72, .row d [i6 0] 3, .row c [.bool false] 4, .row b [.bool false] 4, .map (fun x : Key => .agg (e75J x).toArray) (fun x : Bool => .bool x) h ([] : List (Key × Bool)), .row a [.slice none 0 0] 31, .row g (e25J u2 ao4 cap5) 25] an L := bv.addNil tyLine 42 (by decide)
 have ci : Mem w.heap.size [] w Z [.own tyLine 42 none 0 ([] : List Line), .row i [.func (.func 28) #[] #[pt b 0, pt j 0, pt c 0, pt d 0, pt f 0, pt a 0, pt i 0]] 72, .row d [i6 0] 3, .row c [.bool false] 4, .row b [.bool false] 4, .map (fun x : Key => .agg (e75J x).toArray) (fun x : Bool => .bool x) h ([] : List (Key × Bool)), .row a [.slice none ([] : List Line).length 0] 31, .row g (e25J u2 ao4 cap5) 25] an L := bw
 obtain ⟨cj, E, bx, R⟩ := ci.freezeRow 1 rfl
 replace l := l.mono E
 replace m := m.mono E
 replace y := y.mono E
 replace D := D.mono E
 replace J := J.mono E
 have ao : Mem w.heap.size [] w Z [.own tyLine 42 none 0 ([] : List Line), .row d [i6 0] 3, .row c [.bool false] 4, .row b [.bool false] 4, .map (fun x : Key => .agg (e75J x).toArray) (fun x : Bool => .bool x) h ([] : List (Key × Bool)), .row a [.slice none ([] : List Line).length 0] 31, .row g (e25J u2 ao4 cap5) 25] cj L := bx
 obtain ⟨cl, aa⟩ := cc
 refine ck bo 28 #[i6 u1, .agg (e25J (fcopyS u2) bm bn).toArray, .slice none 0 0, pt b 0, pt j 0, pt c 0, pt d 0, pt f 0, pt a 0, pt i 0] ?_
 refine (go1_fun u1 (fcopyS u2) [] false ([] : List (Key × Bool)) false 0 (gnewS u0).1 ([] : List Line) cl bm bn none 0 b j 0 h c d f 0 n o p q a none 0 i 0 _ _ _ _ _ _ y (SlR.nil _ _) D J l m R (ao.perm ((pk 3 rfl).trans (((pk 3 rfl).trans (((pk 2 rfl).trans (((pk 1 rfl).trans (((pk 1 rfl).trans (lpr.cons _)).cons _)).cons _)).cons _)).cons _))) ao.fz).mono ?_; rintro _ ap ⟨A, B, S, rfl, C, hm⟩; refine ⟨_, rfl, ?_⟩; intro db bz; have bA := hm
 have u : Mem w.heap.size [] w Z [.row b [.bool (goS u1 (fcopyS u2) [] false ([] : List (Key × Bool)) false 0 (gnewS u0).1 ([] : List Line)).1] 4, .row c [.bool (goS u1 (fcopyS u2) [] false ([] : List (Key × Bool)) false 0 (gnewS u0).1 ([] : List Line)).2.1] 4, .row d [i6 (goS u1 (fcopyS u2) [] false ([] : List (Key × Bool)) false 0 (gnewS u0).1 ([] : List Line)).2.2.1] 3, .map (fun x : Key => .agg (e75J x).toArray) (fun x : Bool => .bool x) h (goS u1 (fcopyS u2) [] false ([] : List (Key × Bool)) false 0 (gnewS u0).1 ([] : List Line)).2.2.2.1, .row a [.slice A (goS u1 (fcopyS u2) [] false ([] : List (Key × Bool)) false 0 (gnewS u0).1 ([] : List Line)).2.2.2.2.length B] 31, .own tyLine 42 A B (goS u1 (fcopyS u2) [] false ([] : List (Key × Bool)) false 0 (gnewS u0).1 ([] : List Line)).2.2.2.2, .row g (e25J u2 ao4 cap5) 25] S ap := bA
 refine nl (qnI (br _ _ ?_))
 refine nS (bj _ _ ?_)
 refine t_ (s_ (sqH ?_)); intro cm bB
 refine l1 bz u 43 0 0 (.bool (goS u1 (fcopyS u2) [] false ([] : List (Key × Bool)) false 0 (gnewS u0).1 ([] : List Line)).1) rfl rfl ?_; intro dc T
 apply bB
 refine c_ T aa (fun _ cn => ?_) fun _ ab => ?_
 ·
  refine sqB T u [] [] [(6, .slice none 0 0), (7, i6 13)] ?_; intro dd co
  refine r_ (h_ ?_)
  have cp : Mem w.heap.size [] w Z [.own tyLine 42 none 0 ([] : List Line), .row b [.bool (goS u1 (fcopyS u2) [] false ([] : List (Key × Bool)) false 0 (gnewS u0).1 ([] : List Line)).1] 4, .row c [.bool (goS u1 (fcopyS u2) [] false ([] : List (Key × Bool)) false 0 (gnewS u0).1 ([] : List Line)).2.1] 4, .row d [i6 (goS u1 (fcopyS u2) [] false ([] : List (Key × Bool)) false 0 (gnewS u0).1 ([] : List Line)).2.2.1] 3, .map (fun x : Key => .agg (e75J x).toArray) (fun x : Bool => .bool x) h (goS u1 (fcopyS u2) [] false ([] : List (Key × Bool)) false 0 (gnewS u0).1 ([] : List Line)).2.2.2.1, .row a [.slice A (goS u1 (fcopyS u2) [] false ([] : List (Key × Bool)) false 0 (gnewS u0).1 ([] : List Line)).2.2.2.2.length B] 31, .own tyLine 42 A B (goS u1 (fcopyS u2) [] false ([] : List (Key × Bool)) false 0 (gnewS u0).1 ([] : List Line)).2.2.2.2, .row g (e25J u2 ao4 cap5) 25] S ap := u.addNil tyLine 42 (by decide)
  exact ra2 co (.tuple #[.slice none ([] : List Line).length 0, i6 13]) ⟨(([] : List Line), 13), none, 0, S, rfl, cn, cp.kp⟩
 refine k_ (s_ (sqH ?_)); intro cq bC
 refine l1 T u 44 1 0 (.bool (goS u1 (fcopyS u2) [] false ([] : List (Key × Bool)) false 0 (gnewS u0).1 ([] : List Line)).2.1) rfl rfl ?_; intro de U
 apply bC
 refine c_ U ab (fun _ cr => ?_) fun _ cu => ?_
 ·
  refine sqB U u [] [] [(6, .slice none 0 0), (7, i6 2)] ?_; intro df cs
  refine r_ (h_ ?_)
  have ct : Mem w.heap.size [] w Z [.own tyLine 42 none 0 ([] : List Line), .row b [.bool (goS u1 (fcopyS u2) [] false ([] : List (Key × Bool)) false 0 (gnewS u0).1 ([] : List Line)).1] 4, .row c [.bool (goS u1 (fcopyS u2) [] false ([] : List (Key × Bool)) false 0 (gnewS u0).1 ([] : List Line)).2.1] 4, .row d [i6 (goS u1 (fcopyS u2) [] false ([] : List (Key × Bool)) false 0 (gnewS u0).1 ([] : List Line)).2.2.1] 3, .map (fun x : Key => .agg (e75J x).toArray) (fun x : Bool => .bool x) h (goS u1 (fcopyS u2) [] false ([] : List (Key × Bool)) false 0 (gnewS u0).1 ([] : List Line)).2.2.2.1, .row a [.slice A (goS u1 (fcopyS u2) [] false ([] : List (Key × Bool)) false 0 (gnewS u0).1 ([] : List Line)).2.2.2.2.length B] 31, .own tyLine 42 A B (goS u1 (fcopyS u2) [] false ([] : List (Key × Bool)) false 0 (gnewS u0).1 ([] : List Line)).2.2.2.2, .row g (e25J u2 ao4 cap5) 25] S ap := u.addNil tyLine 42 (by decide)
  exact ra2 cs (.tuple #[.slice none ([] : List Line).length 0, i6 2]) ⟨(([] : List Line), 2), none, 0, S, rfl, cr, ct.kp⟩
 refine k_ (sqH ?_); intro cv bD
 refine l1 U u 45 4 0 (.slice A (goS u1 (fcopyS u2) [] false ([] : List (Key × Bool)) false 0 (gnewS u0).1 ([] : List Line)).2.2.2.2.length B) rfl rfl ?_; intro dg bE
 obtain ⟨cw, bF⟩ := cu
 refine ck bE 32 #[.slice A (goS u1 (fcopyS u2) [] false ([] : List (Key × Bool)) false 0 (gnewS u0).1 ([] : List Line)).2.2.2.2.length B] ?_
 refine (sorted_fun (goS u1 (fcopyS u2) [] false ([] : List (Key × Bool)) false 0 (gnewS u0).1 ([] : List Line)).2.2.2.2 cw A B _ _ _ _ _ _ (u.perm (pk 5 rfl)) u.fz).mono ?_; rintro _ cx ⟨ac, ad, bG, rfl, F, hm⟩; refine ⟨_, rfl, ?_⟩; intro dh bH; have bI := hm
 have au : Mem w.heap.size [] w Z [.own tyLine 42 ac ad (sortedS (goS u1 (fcopyS u2) [] false ([] : List (Key × Bool)) false 0 (gnewS u0).1 ([] : List Line)).2.2.2.2), .row b [.bool (goS u1 (fcopyS u2) [] false ([] : List (Key × Bool)) false 0 (gnewS u0).1 ([] : List Line)).1] 4, .row c [.bool (goS u1 (fcopyS u2) [] false ([] : List (Key × Bool)) false 0 (gnewS u0).1 ([] : List Line)).2.1] 4, .row d [i6 (goS u1 (fcopyS u2) [] false ([] : List (Key × Bool)) false 0 (gnewS u0).1 ([] : List Line)).2.2.1] 3, .map (fun x : Key => .agg (e75J x).toArray) (fun x : Bool => .bool x) h (goS u1 (fcopyS u2) [] false ([] : List (Key × Bool)) false 0 (gnewS u0).1 ([] : List Line)).2.2.2.1, .row a [.slice A (goS u1 (fcopyS u2) [] false ([] : List (Key × Bool)) false 0 (gnewS u0).1 ([] : List Line)).2.2.2.2.length B] 31, .row g (e25J u2 ao4 cap5) 25] bG cx := bI
 have cy := bF (au.ownSmall 0 rfl)
 refine bt bH au 2 [] [] [(6, .slice ac (sortedS (goS u1 (fcopyS u2) [] false ([] : List (Key × Bool)) false 0 (gnewS u0).1 ([] : List Line)).2.2.2.2).length ad), (7, i6 0)] ?_; intro di cz
 apply bD
 exact r_ (ra2 cz (.tuple #[.slice ac (sortedS (goS u1 (fcopyS u2) [] false ([] : List (Key × Bool)) false 0 (gnewS u0).1 ([] : List Line)).2.2.2.2).length ad, i6 0]) ⟨((sortedS (goS u1 (fcopyS u2) [] false ([] : List (Key × Bool)) false 0 (gnewS u0).1 ([] : List Line)).2.2.2.2), 0), ac, ad, bG, rfl, cy, au.kp⟩)

theorem gstepf_walk (u0 : Gate) (u1 : Int) (u2 : Int) (u3 : Frame) (ao1 : Option Addr) (cap2 : Nat) (ao4 : Option Addr) (cap5 : Nat) (ao7 : Option Addr) (cap8 : Nat) (Z : Fz) (w : World) (hs3 : SlR tyRoute Z ao1 cap2 u0.Routes) (hs6 : SlR t6 Z ao4 cap5 u0.Last) (hs9 : SlR t8 Z ao7 cap8 u3.Data) (hZ : Z.on w) {K : (Gate × (List Line) × Int) → Prop} (hp : gstepf_vc u0 u1 u2 u3 K) : Calls Try.prog 10 #[.agg #[.slice ao1 u0.Routes.length cap2, .slice ao4 u0.Last.length cap5], i6 u1, i6 u2, .agg #[i6 u3.ID, .bool u3.Long, .bool u3.Fast, .bool u3.Remote, i6 u3.Size, .slice ao7 u3.Data.length cap8]] w fun e w' => ∃ (r : Gate × (List Line) × Int) (ao1001 : Option Addr) (cap1002 : Nat) (ao1004 : Option Addr) (cap1005 : Nat) (ao1007 : Option Addr) (cap1008 : Nat) (Z' : Fz), e = .returned (.tuple #[.agg #[.slice ao1001 r.1.Routes.length cap1002, .slice ao1004 r.1.Last.length cap1005], .slice ao1007 r.2.1.length cap1008, i6 r.2.2]) ∧ K r ∧ SlR tyRoute Z' ao1001 cap1002 r.1.Routes ∧ SlR t6 Z' ao1004 cap1005 r.1.Last ∧ Mem w.heap.size [] w Z [.own tyLine 42 ao1007 cap1008 r.2.1] Z' w' := by
 refine enter0 Try.func10 rfl rfl (by kernel_rfl) ?_; intro a0 bQ; have bR := Mem.start w Z hZ
 have ay := hp (hs3.small) (hs6.small) (hs9.small)
 refine sqH ?_; intro eI bU
 refine nw bQ bR pb [.slice ao1 u0.Routes.length cap2, .slice ao4 u0.Last.length cap5] 37 ?_; intro h gh gi bV bW
 refine nw bV bW pb [i6 u1] 3 ?_; intro B gj gk bX bY
 refine nw bX bY pb (e25J u3 ao7 cap8) 25 ?_; intro n gl gm bZ b0
 refine nw bZ b0 pb [.slice none 0 0, .slice none 0 0] 37 ?_; intro i gn go b1 ak
 refine bt b1 ak 2 [] [] [(9, .slice none 0 0)] ?_; intro gp b2
 apply bU
 refine s_ (sqH ?_); intro eJ b3
 refine l2 b2 ak 17 3 0 2 [.slice ao1 u0.Routes.length cap2, .slice ao4 u0.Last.length cap5] rfl rfl ?_; intro gq b4
 refine fc b4 ak (gcheck_fun u0 ao1 cap2 ao4 cap5 _ _ hs3 hs6 ak.fz) ?_; intro gr gs b5 Q
 refine s1 b5 11 (i6 (gcheckS u0)) ?_; intro gt b6
 apply b3
 refine sqB b6 Q [] [] [(20, .bool ((gcheckS u0) != 0))] ?_; intro gu al
 refine c_ al ay (fun _ eK => ?_) fun _ az => ?_
 ·
  refine sqH ?_; intro eM b7
  refine bt al Q 2 [] [] [(21, .agg #[.slice none 0 0, .slice none 0 0]), (22, i6 (gcheckS u0))] ?_; intro gv a3
  refine sx a3 Q 0 [.slice none 0 0, .slice none 0 0] 0 ?_; intro b8 a4
  refine bt a3 a4 2 [] [] [(9, .slice none 0 0), (10, i6 (gcheckS u0))] ?_; intro gw b9
  have ca : Mem w.heap.size [] w Z [.row i [.slice none 0 0, .slice none 0 0] 37, .row n (e25J u3 ao7 cap8) 25, .row B [i6 u1] 3, .row h [.slice ao1 u0.Routes.length cap2, .slice ao4 u0.Last.length cap5] 37] Z b8 := a4
  apply b7
  refine r_ (h_ ?_)
  have cb : Mem w.heap.size [] w Z [.own tyLine 42 none 0 ([] : List Line), .row i [.slice none 0 0, .slice none 0 0] 37, .row n (e25J u3 ao7 cap8) 25, .row B [i6 u1] 3, .row h [.slice ao1 u0.Routes.length cap2, .slice ao4 u0.Last.length cap5] 37] Z b8 := ca.addNil tyLine 42 (by decide)
  refine rt (fn := Try.f10) (v := .tuple #[.agg #[.slice none 0 0, .slice none 0 0], .slice none ([] : List Line).length 0, i6 (gcheckS u0)]) b9 (re3c b9 (fn := Try.f10) rfl (ad := ⟨i, 0, none⟩) (by kernel_rfl) (loadVar_run cb 1 (b := i) (k := 2) (vs := [.slice none 0 0, .slice none 0 0]) (ty := 37) rfl (by kernel_rfl) (by kernel_rfl)) (by kernel_rfl) (by kernel_rfl)) ?_
  exact ⟨((⟨[], []⟩ : Gate), ([] : List Line), (gcheckS u0)), none, 0, none, 0, none, 0, Z, rfl, eK, (SlR.nil _ _), (SlR.nil _ _), cb.kp⟩
 refine k_ (s_ (sqH ?_)); intro eN cc
 refine l2 al Q 23 1 0 6 (e25J u3 ao7 cap8) rfl rfl ?_; intro gx ce
 refine fc ce Q (fcheckfr_fun u3 ao7 cap8 _ _ hs9 Q.fz) ?_; intro gy eO cf P
 refine s1 cf 12 (i6 (fcheckfr u3)) ?_; intro gz cg
 apply cc
 refine sqB cg P [] [] [(26, .bool ((fcheckfr u3) != 0))] ?_; intro gA am
 refine c_ am az (fun _ eP => ?_) fun _ aA => ?_
 ·
  refine sqH ?_; intro eQ ch
  refine bt am P 2 [] [] [(27, .agg #[.slice none 0 0, .slice none 0 0]), (28, i6 (fcheckfr u3))] ?_; intro gB a6
  refine sx a6 P 0 [.slice none 0 0, .slice none 0 0] 0 ?_; intro ci a7
  refine bt a6 a7 2 [] [] [(9, .slice none 0 0), (10, i6 (fcheckfr u3))] ?_; intro gC cl
  have cm : Mem w.heap.size [] w Z [.row i [.slice none 0 0, .slice none 0 0] 37, .row n (e25J u3 ao7 cap8) 25, .row B [i6 u1] 3, .row h [.slice ao1 u0.Routes.length cap2, .slice ao4 u0.Last.length cap5] 37] Z ci := a7
  apply ch
  refine r_ (h_ ?_)
  have cn : Mem w.heap.size [] w Z [.own tyLine 42 none 0 ([] : List Line), .row i [.slice none 0 0, .slice none 0 0] 37, .row n (e25J u3 ao7 cap8) 25, .row B [i6 u1] 3, .row h [.slice ao1 u0.Routes.length cap2, .slice ao4 u0.Last.length cap5] 37] Z ci := cm.addNil tyLine 42 (by decide)
  refine rt (fn := Try.f10) (v := .tuple #[.agg #[.slice none 0 0, .slice none 0 0], .slice none ([] : List Line).length 0, i6 (fcheckfr u3)]) cl (re3c cl (fn := Try.f10) rfl (ad := ⟨i, 0, none⟩) (by kernel_rfl) (loadVar_run cn 1 (b := i) (k := 2) (vs := [.slice none 0 0, .slice none 0 0]) (ty := 37) rfl (by kernel_rfl) (by kernel_rfl)) (by kernel_rfl) (by kernel_rfl)) ?_
  exact ⟨((⟨[], []⟩ : Gate), ([] : List Line), (fcheckfr u3)), none, 0, none, 0, none, 0, Z, rfl, eP, (SlR.nil _ _), (SlR.nil _ _), cn.kp⟩
 refine k_ (s_ (sqB am P [2, 2] [] [(42, .bool ((((decide (u1 < 0)) || (decide (u1 > 1000000))) || (decide (u2 < 0))) || (decide (u2 ≥ 4))))] ?_)); intro gD an
 refine c_ an aA (fun _ eR => ?_) fun _ aB => ?_
 ·
  refine sqH ?_; intro eT co
  refine s1 an 43 (.agg #[.slice none 0 0, .slice none 0 0]) ?_; intro gE a9
  refine sx a9 P 0 [.slice none 0 0, .slice none 0 0] 0 ?_; intro cp ba
  refine bt a9 ba 2 [] [] [(9, .slice none 0 0), (10, i6 3)] ?_; intro gF cq
  have cr : Mem w.heap.size [] w Z [.row i [.slice none 0 0, .slice none 0 0] 37, .row n (e25J u3 ao7 cap8) 25, .row B [i6 u1] 3, .row h [.slice ao1 u0.Routes.length cap2, .slice ao4 u0.Last.length cap5] 37] Z cp := ba
  apply co
  refine r_ (h_ ?_)
  have ct : Mem w.heap.size [] w Z [.own tyLine 42 none 0 ([] : List Line), .row i [.slice none 0 0, .slice none 0 0] 37, .row n (e25J u3 ao7 cap8) 25, .row B [i6 u1] 3, .row h [.slice ao1 u0.Routes.length cap2, .slice ao4 u0.Last.length cap5] 37] Z cp := cr.addNil tyLine 42 (by decide)
  refine rt (fn := Try.f10) (v := .tuple #[.agg #[.slice none 0 0, .slice none 0 0], .slice none ([] : List Line).length 0, i6 3]) cq (re3c cq (fn := Try.f10) rfl (ad := ⟨i, 0, none⟩) (by kernel_rfl) (loadVar_run ct 1 (b := i) (k := 2) (vs := [.slice none 0 0, .slice none 0 0]) (ty := 37) rfl (by kernel_rfl) (by kernel_rfl)) (by kernel_rfl) (by kernel_rfl)) ?_
  exact ⟨((⟨[], []⟩ : Gate), ([] : List Line), 3), none, 0, none, 0, none, 0, Z, rfl, eR, (SlR.nil _ _), (SlR.nil _ _), ct.kp⟩
 refine k_ (s_ (sqH ?_)); intro eU cu
 refine bt an P 3 [3] [] [(45, .slice ao4 u0.Last.length cap5), (46, .func (.func 33) #[] #[pt B 0])] ?_; intro gG cv
 obtain ⟨aq, aC, cw, ab⟩ := P.freezeRow 2 rfl
 replace hs3 := hs3.mono aC
 replace hs6 := hs6.mono aC
 replace hs9 := hs9.mono aC
 have bb : Mem w.heap.size [] w Z [.row i [.slice none 0 0, .slice none 0 0] 37, .row n (e25J u3 ao7 cap8) 25, .row h [.slice ao1 u0.Routes.length cap2, .slice ao4 u0.Last.length cap5] 37] aq eO := cw
 refine fc cv bb (icontf_fun u0.Last (fun x0 => step1 x0 u1) ao4 cap5 33 #[pt B 0] _ _ hs6 (fun Z1 w1 h1 h2 x0 => step1_fun x0 u1 B 0 Z1 w1 (ab.mono h1) h2) (fun _ _ => by kernel_rfl) bb.fz) ?_; intro eV gH ar aD
 apply cu
 refine c_ ar aB (fun _ eW => ?_) fun _ eY => ?_
 ·
  refine sqH ?_; intro eX cx
  refine s1 ar 48 (.agg #[.slice none 0 0, .slice none 0 0]) ?_; intro gI bd
  refine sx bd aD 0 [.slice none 0 0, .slice none 0 0] 0 ?_; intro cy be
  refine bt bd be 2 [] [] [(9, .slice none 0 0), (10, i6 12)] ?_; intro gJ cz
  have cA : Mem w.heap.size [] w Z [.row i [.slice none 0 0, .slice none 0 0] 37, .row n (e25J u3 ao7 cap8) 25, .row h [.slice ao1 u0.Routes.length cap2, .slice ao4 u0.Last.length cap5] 37] aq cy := be
  apply cx
  refine r_ (h_ ?_)
  have cB : Mem w.heap.size [] w Z [.own tyLine 42 none 0 ([] : List Line), .row i [.slice none 0 0, .slice none 0 0] 37, .row n (e25J u3 ao7 cap8) 25, .row h [.slice ao1 u0.Routes.length cap2, .slice ao4 u0.Last.length cap5] 37] aq cy := cA.addNil tyLine 42 (by decide)
  refine rt (fn := Try.f10) (v := .tuple #[.agg #[.slice none 0 0, .slice none 0 0], .slice none ([] : List Line).length 0, i6 12]) cz (re3c cz (fn := Try.f10) rfl (ad := ⟨i, 0, none⟩) (by kernel_rfl) (loadVar_run cB 1 (b := i) (k := 2) (vs := [.slice none 0 0, .slice none 0 0]) (ty := 37) rfl (by kernel_rfl) (by kernel_rfl)) (by kernel_rfl) (by kernel_rfl)) ?_
  exact ⟨((⟨[], []⟩ : Gate), ([] : List Line), 12), none, 0, none, 0, none, 0, aq, rfl, eW, (SlR.nil _ _), (SlR.nil _ _), cB.kp⟩
 apply k_
 have cC : Fr 109 [] [⟨2, [], i6 u2⟩, ⟨4, [], pt h 0⟩, ⟨5, [], pt B 0⟩, ⟨7, [], pt n 0⟩, ⟨8, [], pt i 0⟩, ⟨9, [], .slice none 0 0⟩] eV := ar.reg
 refine wp_seq (rgS mixed aD [(0, true), (1, true), (3, true), (4, true), (2, false), (5, false), (6, true), (7, false)] [7] [2] [.row h [.slice ao1 u0.Routes.length cap2, .slice ao4 u0.Last.length cap5] 37] ?_)
 intro eZ cD gK bf
 have ac := Fz.le.refl aq
 refine cS cC 4 [0, 0] [] [(50, .slice ao1 u0.Routes.length cap2), (53, .slice ao4 u0.Last.length cap5)] ?_; intro gL cE
 refine eS rfl ?_; intro e0 cF
 obtain ⟨e1, e2⟩ := eY
 refine ck cE 11 #[.slice ao1 u0.Routes.length cap2] ?_
 refine (rclone_fun u0.Routes e1 ao1 cap2 _ _ hs3 bf.fz).mono ?_; rintro _ e3 ⟨o, p, e4, rfl, hm⟩; refine ⟨_, rfl, ?_⟩; intro gM cG; have cH := bf.callZ hm; have ae := hm.ext.le
 replace hs3 := hs3.mono ae
 replace hs6 := hs6.mono ae
 replace hs9 := hs9.mono ae
 replace ab := ab.mono ae
 replace ac := ac.mono ae
 have aE : Mem w.heap.size [] w Z [.own tyRoute 29 o p (rclS u0.Routes), .row i [.slice none 0 0, .slice none 0 0] 37, .row n (e25J u3 ao7 cap8) 25, .row h [.slice ao1 u0.Routes.length cap2, .slice ao4 u0.Last.length cap5] 37] e4 e3 := cH
 refine nl (qnI (cF _ _ (aE.cst ac [3]) ?_))
 refine eS rfl ?_; intro e5 cI
 obtain ⟨e6, e7⟩ := e2
 refine ck cG 21 #[.slice ao4 u0.Last.length cap5] ?_
 refine (iclone_fun u0.Last e6 ao4 cap5 _ _ hs6 aE.fz).mono ?_; rintro _ e8 ⟨y, l, au, rfl, hm⟩; refine ⟨_, rfl, ?_⟩; intro gN cJ; have cK := aE.callZ hm; have af := hm.ext.le
 replace hs3 := hs3.mono af
 replace hs6 := hs6.mono af
 replace hs9 := hs9.mono af
 replace ab := ab.mono af
 replace ac := ac.mono af
 have bg : Mem w.heap.size [] w Z [.own t6 3 y l (iclS u0.Last), .own tyRoute 29 o p (rclS u0.Routes), .row i [.slice none 0 0, .slice none 0 0] 37, .row n (e25J u3 ao7 cap8) 25, .row h [.slice ao1 u0.Routes.length cap2, .slice ao4 u0.Last.length cap5] 37] au e8 := cK
 refine nl (qnI (cI _ _ (bg.cst ac [4]) ?_))
 refine cS cJ 1 [] [] [(55, .agg #[.slice o (rclS u0.Routes).length p, .slice y (iclS u0.Last).length l])] ?_; intro gO bh
 refine eL rfl ?_; intro e9 cL
 refine sx bh bg 2 [.slice o (rclS u0.Routes).length p, .slice y (iclS u0.Last).length l] 0 ?_; intro cM cN
 have bi : Mem w.heap.size [] w Z [.own t6 3 y l (iclS u0.Last), .own tyRoute 29 o p (rclS u0.Routes), .row i [.slice o (rclS u0.Routes).length p, .slice y (iclS u0.Last).length l] 37, .row n (e25J u3 ao7 cap8) 25, .row h [.slice ao1 u0.Routes.length cap2, .slice ao4 u0.Last.length cap5] 37] au cM := cN
 refine nl (qnI (cL _ _ ?_))
 refine nS (cD _ _ ?_)
 refine t_ (s_ (sqB bh bi [4] [] [(57, .slice ao1 u0.Routes.length cap2), (58, i6 (u0.Routes.length : Int)), (59, i6 0)] ?_)); intro cO cP
 apply b_
 have cQ : Fr 109 [] [⟨2, [], i6 u2⟩, ⟨4, [], pt h 0⟩, ⟨5, [], pt B 0⟩, ⟨7, [], pt n 0⟩, ⟨8, [], pt i 0⟩, ⟨9, [], .slice none 0 0⟩, ⟨57, [], .slice ao1 u0.Routes.length cap2⟩, ⟨58, [], i6 (u0.Routes.length : Int)⟩, ⟨59, [], i6 0⟩] cO := cP.reg
 have cR : Mem w.heap.size [] w Z [.own tyLine 42 none 0 ([] : List Line), .own t6 3 y l (iclS u0.Last), .own tyRoute 29 o p (rclS u0.Routes), .row i [.slice o (rclS u0.Routes).length p, .slice y (iclS u0.Last).length l] 37, .row n (e25J u3 ao7 cap8) 25, .row h [.slice ao1 u0.Routes.length cap2, .slice ao4 u0.Last.length cap5] 37] au cM := bi.addNil tyLine 42 (by decide)
 have cT : Fr 109 [] [⟨2, [], i6 u2⟩, ⟨4, [], pt h 0⟩, ⟨5, [], pt B 0⟩, ⟨7, [], pt n 0⟩, ⟨8, [], pt i 0⟩, ⟨9, [], .slice none ([] : List Line).length 0⟩, ⟨57, [], .slice ao1 u0.Routes.length cap2⟩, ⟨58, [], i6 (u0.Routes.length : Int)⟩, ⟨59, [], i6 0⟩] cO := cQ.reg
 obtain ⟨fa, fb, fd, fe⟩ := e7
 refine lp (ι := (List Line) × Int × (List Int) × (Option Addr) × Nat × Fz) (fun s => [⟨2, [], i6 u2⟩, ⟨4, [], pt h 0⟩, ⟨5, [], pt B 0⟩, ⟨7, [], pt n 0⟩, ⟨8, [], pt i 0⟩, ⟨9, [], .slice s.2.2.2.1 s.1.length s.2.2.2.2.1⟩, ⟨57, [], .slice ao1 u0.Routes.length cap2⟩, ⟨58, [], i6 (u0.Routes.length : Int)⟩, ⟨59, [], i6 s.2.1⟩]) (fun s => [.own tyLine 42 s.2.2.2.1 s.2.2.2.2.1 s.1, .own t6 3 y l s.2.2.1, .own tyRoute 29 o p (rclS u0.Routes), .row i [.slice o (rclS u0.Routes).length p, .slice y s.2.2.1.length l] 37, .row n (e25J u3 ao7 cap8) 25, .row h [.slice ao1 u0.Routes.length cap2, .slice ao4 u0.Last.length cap5] 37]) (fun s => s.2.2.2.2.2) (fun s => fa s.1 s.2.1 s.2.2.1 ∧ Fz.le au s.2.2.2.2.2) (fun s => fb s.1 s.2.1 s.2.2.1) ⟨([] : List Line), 0, (iclS u0.Last), none, 0, au⟩ ⟨fd, Fz.le.refl _⟩ (by exact cT.reg) (by exact cR) ?_
 rintro ⟨q, f, j, z, A, bk⟩ ⟨ff, D⟩ fg fh cU cV
 have aF := fe q f j ff
 have V := hs3.mono D
 have R := hs6.mono D
 have W := hs9.mono D
 have L := ab.mono D
 refine sqB cU cV [] [] [(60, .bool (decide (f < (u0.Routes.length : Int))))] ?_; intro gQ av
 refine s_ (c_ av aF (fun _ fi => ?_) fun _ gb => ?_)
 ·
  refine k_ (s_ (b_ (sqH ?_))); intro fj cX
  refine s1 av 61 (i6 f) ?_; intro gR cY
  obtain ⟨fk, cZ⟩ := fi
  refine ix_ cY V f fk .i64 29 56 ?_; intro gS gT fl a gU fm bm fo c0
  have fp := cZ a fm
  obtain rfl : fl = ((e29J a) : List Value) := fo
  refine z2 c0 cV 63 bm 0 7 (e29J a) rfl ?_; intro gV c1
  refine nw c1 cV pb [i6 0, i6 0, i6 0, i6 0, .bool false, i6 0, i6 0] 29 ?_; intro H gW gX c2 c3
  refine s1 c2 13 (i6 f) ?_; intro gY bn
  refine sx bn c3 0 (e29J a) 0 ?_; intro fq c4
  have aG : Mem w.heap.size [] w Z [.row H (e29J a) 29, .own tyLine 42 z A q, .own t6 3 y l j, .own tyRoute 29 o p (rclS u0.Routes), .row i [.slice o (rclS u0.Routes).length p, .slice y j.length l] 37, .row n (e25J u3 ao7 cap8) 25, .row h [.slice ao1 u0.Routes.length cap2, .slice ao4 u0.Last.length cap5] 37] bk fq := c4
  apply cX
  refine sqH ?_; intro fr c5
  refine bt bn aG 3 [0, 5] [] [(65, .agg (e29J a).toArray), (66, i6 u2), (67, .agg (e25J u3 ao7 cap8).toArray)] ?_; intro gZ c6
  obtain ⟨fs, c7⟩ := fp
  refine ck c6 30 #[.agg (e29J a).toArray, i6 u2, .agg (e25J u3 ao7 cap8).toArray] ?_
  refine (carry_fun a u2 u3 fs ao7 cap8 _ _ W aG.fz).mono ?_; rintro _ ft ⟨E, G, N, rfl, bo, hm⟩; refine ⟨_, rfl, ?_⟩; intro g0 c8; have c9 := aG.callZ hm; have X := hm.ext.le
  replace R := R.mono X
  replace L := L.mono X
  replace D := D.mono X
  have bp : Mem w.heap.size [] w Z [.row H (e29J a) 29, .own tyLine 42 z A q, .own t6 3 y l j, .own tyRoute 29 o p (rclS u0.Routes), .row i [.slice o (rclS u0.Routes).length p, .slice y j.length l] 37, .row n (e25J u3 ao7 cap8) 25, .row h [.slice ao1 u0.Routes.length cap2, .slice ao4 u0.Last.length cap5] 37] N ft := c9
  have aH := c7 (bo.small)
  refine bt c8 bp 3 [] [] [(69, .agg (e25J ((carryS a u2 u3).1) E G).toArray), (70, .bool (carryS a u2 u3).2)] ?_; intro g1 da
  refine nw da bp pb [i6 0, .bool false, .bool false, .bool false, i6 0, .slice none 0 0] 25 ?_; intro O g2 g3 bq db
  refine sx bq db 0 (e25J ((carryS a u2 u3).1) E G) 0 ?_; intro fu dc
  refine s1 bq 16 (.bool (carryS a u2 u3).2) ?_; intro fv dd
  have aI : Mem w.heap.size [] w Z [.row O (e25J ((carryS a u2 u3).1) E G) 25, .row H (e29J a) 29, .own tyLine 42 z A q, .own t6 3 y l j, .own tyRoute 29 o p (rclS u0.Routes), .row i [.slice o (rclS u0.Routes).length p, .slice y j.length l] 37, .row n (e25J u3 ao7 cap8) 25, .row h [.slice ao1 u0.Routes.length cap2, .slice ao4 u0.Last.length cap5] 37] N fu := dc
  apply c5
  apply s_
  have de : Fr 109 [] [⟨2, [], i6 u2⟩, ⟨4, [], pt h 0⟩, ⟨5, [], pt B 0⟩, ⟨7, [], pt n 0⟩, ⟨8, [], pt i 0⟩, ⟨9, [], .slice z q.length A⟩, ⟨13, [], i6 f⟩, ⟨14, [], pt H 0⟩, ⟨15, [], pt O 0⟩, ⟨16, [], .bool (carryS a u2 u3).2⟩, ⟨57, [], .slice ao1 u0.Routes.length cap2⟩, ⟨58, [], i6 (u0.Routes.length : Int)⟩, ⟨59, [], i6 f⟩] fv := dd.reg
  refine sqQH mixed (by kernel_rfl) aI ?_; intro br ag
  refine q1 de 71 (.bool (carryS a u2 u3).2) ?_; intro g4 df
  refine q1 df 72 (.bool (!(carryS a u2 u3).2)) ?_; intro g5 dg
  refine q1 dg 73 (.bool (!(carryS a u2 u3).2)) ?_; intro g6 dh
  have bs := dh.atom ((!(carryS a u2 u3).2) == false) (by kernel_rfl)
  refine qgd bs (pt h 1) (m := 0) (cj := []) (bj := !(carryS a u2 u3).2) rfl rfl (by kernel_rfl) rfl (by kernel_rfl) (by kernel_rfl) (by kernel_rfl) (fun hg => qat_ok (fun v325 hC => pu bs (g := [0]) (by kernel_rfl) hg)) ?_; intro g7 bu
  refine qgd bu (.slice ao4 u0.Last.length cap5) (m := 0) (cj := []) (bj := !(carryS a u2 u3).2) rfl rfl (by kernel_rfl) rfl (by kernel_rfl) (by kernel_rfl) (by kernel_rfl) (fun hg => qat_ok (fun v328 hC => ld bu hC 7 (g := [0]) (b := h) (off := 1) (cs := [.slice ao1 u0.Routes.length cap2, .slice ao4 u0.Last.length cap5]) (ty := 37) rfl (by kernel_rfl) (by kernel_rfl) (by kernel_rfl) (by kernel_rfl) hg)) ?_; intro g8 bv
  refine qgd bv (i6 f) (m := 0) (cj := []) (bj := !(carryS a u2 u3).2) rfl rfl (by kernel_rfl) rfl (by kernel_rfl) (by kernel_rfl) (by kernel_rfl) (fun hg => qat_ok (fun v331 hC => pu bv (g := [0]) (by kernel_rfl) hg)) ?_; intro g9 aJ
  refine e_ aH (fun M di => ?_) fun M fy => ?_
  ·
   have dj := aJ.reval (d := 73) (c := []) (v := .bool (!(carryS a u2 u3).2)) (by kernel_rfl) (.bool true) (by rw [M])
   have dk := dj.setc (d := 74) (c := [0]) (v := pt h 1) (by kernel_rfl) (v' := undef) (by rw [M]; kernel_rfl)
   have dl := dk.setc (d := 75) (c := [0]) (v := .slice ao4 u0.Last.length cap5) (by kernel_rfl) (v' := undef) (by rw [M]; kernel_rfl)
   have dm := dl.setc (d := 76) (c := [0]) (v := i6 f) (by kernel_rfl) (v' := undef) (by rw [M]; kernel_rfl)
   refine qk_ dm true ?_; intro ha dn
   refine qk_ dn true ?_; intro hb dp
   refine qk_ dp true ?_; intro hc dq
   refine qk_ dq true ?_; intro hd dr
   refine qsku dr rfl rfl (by kernel_rfl) (by kernel_rfl) rfl (by kernel_rfl) ?_; intro he ds
   refine qsku ds rfl rfl (by kernel_rfl) (by kernel_rfl) rfl (by kernel_rfl) ?_; intro hf dt
   refine qsku dt rfl rfl (by kernel_rfl) (by kernel_rfl) rfl (by kernel_rfl) ?_; intro hh du
   refine qsku du rfl rfl (by kernel_rfl) (by kernel_rfl) rfl (by kernel_rfl) ?_; intro hi dv
   refine qsku dv rfl rfl (by kernel_rfl) (by kernel_rfl) rfl (by kernel_rfl) ?_; intro hj dw
   refine qsku dw rfl rfl (by kernel_rfl) (by kernel_rfl) rfl (by kernel_rfl) ?_; intro hk dx
   refine qsku dx rfl rfl (by kernel_rfl) (by kernel_rfl) rfl (by kernel_rfl) ?_; intro hl dy
   refine qsku dy rfl rfl (by kernel_rfl) (by kernel_rfl) rfl (by kernel_rfl) ?_; intro hn dz
   refine qsku dz rfl rfl (by kernel_rfl) (by kernel_rfl) rfl (by kernel_rfl) ?_; intro ho dA
   refine qsku dA rfl rfl (by kernel_rfl) (by kernel_rfl) rfl (by kernel_rfl) ?_; intro hq dB
   refine qk_ dB true ?_; intro hr dC
   refine q1 dC 92 (.bool true) ?_; intro fw bw
   refine qnl (ag _ ?_); intro hs dD
   refine cdT bw (by kernel_rfl) ?_
   refine x_ (y_ (z_ (t_ ?_)))
   have dE : Fr 109 [] [⟨2, [], i6 u2⟩, ⟨4, [], pt h 0⟩, ⟨5, [], pt B 0⟩, ⟨7, [], pt n 0⟩, ⟨8, [], pt i 0⟩, ⟨9, [], .slice z q.length A⟩, ⟨57, [], .slice ao1 u0.Routes.length cap2⟩, ⟨58, [], i6 (u0.Routes.length : Int)⟩, ⟨59, [], i6 f⟩] fw := bw.reg
   refine rgB dE dD [] [] [(59, i6 (w64 (f + 1)))] ?_; intro ht fx
   exact d_ ⟨⟨q, w64 (f + 1), j, z, A, N⟩, ⟨di.1, D⟩, di.2, (fx.reg).anyβ _ (by kernel_rfl), dD.kp⟩
  have dF := aJ.reval (d := 73) (c := []) (v := .bool (!(carryS a u2 u3).2)) (by kernel_rfl) (.bool false) (by rw [M])
  have dG := dF.setc (d := 74) (c := [0]) (v := pt h 1) (by kernel_rfl) (v' := pt h 1) (by rw [M]; kernel_rfl)
  have dH := dG.setc (d := 75) (c := [0]) (v := .slice ao4 u0.Last.length cap5) (by kernel_rfl) (v' := .slice ao4 u0.Last.length cap5) (by rw [M]; kernel_rfl)
  have bx := dH.setc (d := 76) (c := [0]) (v := i6 f) (by kernel_rfl) (v' := i6 f) (by rw [M]; kernel_rfl)
  obtain ⟨fA, dI⟩ := fy
  refine qix bx (T := t6) (xs := u0.Last) R f fA (k := .i64) (e := 3) (bytes := 8) (wK bx false) rfl (by kernel_rfl) rfl (by kernel_rfl) (by kernel_rfl) (by kernel_rfl) ?_; intro hu hv fB I hw fC fD fE aK
  have aL := dI I fC
  obtain rfl : fB = ([i6 I] : List Value) := fE
  refine qst aK (i6 I) (wK aK false) rfl (by kernel_rfl) (fun v399 hC => lz aK hC.fz fD 0 (g := []) rfl (by kernel_rfl) (by kernel_rfl) (by kernel_rfl) rfl) ?_; intro hx aM
  refine qg_ aM false (.bool (decide (I ≥ 0))) ?_; intro hy aN
  refine qg_ aN false (.bool (decide (I ≥ 0))) ?_; intro hz dJ
  have bz := dJ.atom ((decide (I ≥ 0)) == true) (by kernel_rfl)
  refine qgd bz (i6 u1) (m := 1) (cj := []) (bj := decide (I ≥ 0)) rfl rfl (by kernel_rfl) rfl (by kernel_rfl) (by kernel_rfl) (by kernel_rfl) (fun hg => qat_ok (fun v409 hC => lz bz hC.fz L 0 (g := [1]) rfl (by kernel_rfl) (by kernel_rfl) (by kernel_rfl) hg)) ?_; intro hA bA
  refine qgd bA (pt h 1) (m := 1) (cj := []) (bj := decide (I ≥ 0)) rfl rfl (by kernel_rfl) rfl (by kernel_rfl) (by kernel_rfl) (by kernel_rfl) (fun hg => qat_ok (fun v412 hC => pu bA (g := [1]) (by kernel_rfl) hg)) ?_; intro hB bB
  refine qgd bB (.slice ao4 u0.Last.length cap5) (m := 1) (cj := []) (bj := decide (I ≥ 0)) rfl rfl (by kernel_rfl) rfl (by kernel_rfl) (by kernel_rfl) (by kernel_rfl) (fun hg => qat_ok (fun v415 hC => ld bB hC 7 (g := [1]) (b := h) (off := 1) (cs := [.slice ao1 u0.Routes.length cap2, .slice ao4 u0.Last.length cap5]) (ty := 37) rfl (by kernel_rfl) (by kernel_rfl) (by kernel_rfl) (by kernel_rfl) hg)) ?_; intro hD bC
  refine qgd bC (i6 f) (m := 1) (cj := []) (bj := decide (I ≥ 0)) rfl rfl (by kernel_rfl) rfl (by kernel_rfl) (by kernel_rfl) (by kernel_rfl) (fun hg => qat_ok (fun v418 hC => pu bC (g := [1]) (by kernel_rfl) hg)) ?_; intro hE aO
  refine e_ aL (fun J fF => ?_) fun J fY => ?_
  ·
   have dK := aO.reval (d := 80) (c := []) (v := .bool (decide (I ≥ 0))) (by kernel_rfl) (.bool true) (by rw [J])
   have dL := dK.setc (d := 81) (c := [1]) (v := i6 u1) (by kernel_rfl) (v' := i6 u1) (by rw [J]; kernel_rfl)
   have dM := dL.setc (d := 82) (c := [1]) (v := pt h 1) (by kernel_rfl) (v' := pt h 1) (by rw [J]; kernel_rfl)
   have dN := dM.setc (d := 83) (c := [1]) (v := .slice ao4 u0.Last.length cap5) (by kernel_rfl) (v' := .slice ao4 u0.Last.length cap5) (by rw [J]; kernel_rfl)
   have bD := dN.setc (d := 84) (c := [1]) (v := i6 f) (by kernel_rfl) (v' := i6 f) (by rw [J]; kernel_rfl)
   obtain ⟨fG, dO⟩ := fF
   refine qix bD (T := t6) (xs := u0.Last) R f fG (k := .i64) (e := 3) (bytes := 8) (wK bD true) rfl (by kernel_rfl) rfl (by kernel_rfl) (by kernel_rfl) (by kernel_rfl) ?_; intro hF hG fH S hH fI fJ fK aP
   have aQ := dO S fI
   obtain rfl : fH = ([i6 S] : List Value) := fK
   refine qst aP (i6 S) (wK aP true) rfl (by kernel_rfl) (fun v441 hC => lz aP hC.fz fJ 0 (g := []) rfl (by kernel_rfl) (by kernel_rfl) (by kernel_rfl) rfl) ?_; intro hI aR
   refine qg_ aR true (i6 (w64 (u1 - S))) ?_; intro hJ aS
   refine qg_ aS true (pt H 6) ?_; intro hK aT
   refine qst aT (i6 a.Every) (wK aT true) rfl (by kernel_rfl) (fun v450 hC => ld aT hC 1 (g := []) (b := H) (off := 6) (cs := (e29J a)) (ty := 29) rfl (by kernel_rfl) (by kernel_rfl) (by kernel_rfl) (by kernel_rfl) rfl) ?_; intro hL aU
   refine qg_ aU true (.bool (decide ((w64 (u1 - S)) < a.Every))) ?_; intro hM aV
   refine qg_ aV false (.bool (decide ((w64 (u1 - S)) < a.Every))) ?_; intro hN dP
   refine q1 dP 92 (.bool (decide ((w64 (u1 - S)) < a.Every))) ?_; intro dQ aw
   refine qnl (ag _ ?_); intro hO Y
   refine c_ aw aQ (fun _ dR => ?_) fun _ fM => ?_
   ·
    refine x_ (y_ (z_ (t_ ?_)))
    have dS : Fr 109 [] [⟨2, [], i6 u2⟩, ⟨4, [], pt h 0⟩, ⟨5, [], pt B 0⟩, ⟨7, [], pt n 0⟩, ⟨8, [], pt i 0⟩, ⟨9, [], .slice z q.length A⟩, ⟨57, [], .slice ao1 u0.Routes.length cap2⟩, ⟨58, [], i6 (u0.Routes.length : Int)⟩, ⟨59, [], i6 f⟩] dQ := aw.reg
    refine rgB dS Y [] [] [(59, i6 (w64 (f + 1)))] ?_; intro hP fL
    exact d_ ⟨⟨q, w64 (f + 1), j, z, A, N⟩, ⟨dR.1, D⟩, dR.2, (fL.reg).anyβ _ (by kernel_rfl), Y.kp⟩
   apply k_
   have dT : Fr 109 [] [⟨2, [], i6 u2⟩, ⟨4, [], pt h 0⟩, ⟨5, [], pt B 0⟩, ⟨7, [], pt n 0⟩, ⟨8, [], pt i 0⟩, ⟨9, [], .slice z q.length A⟩, ⟨13, [], i6 f⟩, ⟨14, [], pt H 0⟩, ⟨15, [], pt O 0⟩, ⟨57, [], .slice ao1 u0.Routes.length cap2⟩, ⟨58, [], i6 (u0.Routes.length : Int)⟩, ⟨59, [], i6 f⟩] dQ := aw.reg
   refine sqH ?_; intro fN dU
   refine bt dT Y 3 [5] [] [(94, .slice y j.length l), (95, i6 f)] ?_; intro hQ dV
   refine z1 dV Y 96 L 0 (i6 u1) rfl ?_; intro hR dW
   obtain ⟨fO, fP⟩ := fM
   refine ixo dW Y 3 (T := t6) (xs := j) f fO (k := .i64) (e := 3) (bytes := 8) (nog rfl _) rfl (by kernel_rfl) rfl (by kernel_rfl) (by kernel_rfl) rfl (by kernel_rfl) ?_; intro ah fQ fR aW
   subst fR
   refine so aW Y 3 (T := t6) (xs := j) f.toNat u1 (u := i6 u1) (nog rfl _) rfl rfl (by kernel_rfl) rfl (by kernel_rfl) rfl (by kernel_rfl) (by first | omega | (simp only [List.length_set] at *; omega)) rfl ?_; intro fS dX
   have dY : Fr 109 [] [⟨2, [], i6 u2⟩, ⟨4, [], pt h 0⟩, ⟨5, [], pt B 0⟩, ⟨7, [], pt n 0⟩, ⟨8, [], pt i 0⟩, ⟨9, [], .slice z q.length A⟩, ⟨13, [], i6 f⟩, ⟨14, [], pt H 0⟩, ⟨15, [], pt O 0⟩, ⟨57, [], .slice ao1 u0.Routes.length cap2⟩, ⟨58, [], i6 (u0.Routes.length : Int)⟩, ⟨59, [], i6 f⟩, ⟨94, [], .slice (sm ah) (j.set f.toNat u1).length l⟩, ⟨95, [], i6 f⟩, ⟨96, [], i6 u1⟩, ⟨97, [], .pointer (some ⟨ah, f.toNat * 1, none⟩)⟩] fQ := by (try simp only [List.length_set] at aW); (try simp only [List.length_set]); exact aW.reg
   have fT : (j.set f.toNat u1).length = j.length := by first | assumption | (simp; try omega)
   have aX : Mem w.heap.size [] w Z [.row O (e25J ((carryS a u2 u3).1) E G) 25, .row H (e29J a) 29, .own tyLine 42 z A q, .own t6 3 (sm ah) l (j.set f.toNat u1), .own tyRoute 29 o p (rclS u0.Routes), .row i [.slice o (rclS u0.Routes).length p, .slice (sm ah) (j.set f.toNat u1).length l] 37, .row n (e25J u3 ao7 cap8) 25, .row h [.slice ao1 u0.Routes.length cap2, .slice ao4 u0.Last.length cap5] 37] N fS := by rw [fT]; exact dX
   apply dU
   refine rgH ?_; intro fU dZ
   refine s1 dY 98 (.slice z q.length A) ?_; intro hS d0
   refine z1 d0 aX 99 L 0 (i6 u1) rfl ?_; intro hT d1
   refine bt d1 aX 4 [1, 0] [] [(103, .agg #[i6 u1, i6 a.To, i6 (carryS a u2 u3).1.ID, .bool (carryS a u2 u3).1.Long, .bool (carryS a u2 u3).1.Fast, .bool (carryS a u2 u3).1.Remote, i6 (carryS a u2 u3).1.Size, .slice E (carryS a u2 u3).1.Data.length G])] ?_; intro hU d2
   refine nw d2 aX (fun b => .slice (sm b) 1 1) [i6 u1, i6 a.To, i6 (carryS a u2 u3).1.ID, .bool (carryS a u2 u3).1.Long, .bool (carryS a u2 u3).1.Fast, .bool (carryS a u2 u3).1.Remote, i6 (carryS a u2 u3).1.Size, .slice E (carryS a u2 u3).1.Data.length G] 42 ?_; intro d3 hV hW d4 bF
   obtain ⟨fV, d5⟩ := fP
   refine ap d4 bF 3 (T := tyLine) (xs := q) (ys := [(⟨u1, a.To, (carryS a u2 u3).1⟩ : Line)]) (ao := z) (cap := A) (ao2 := (sm d3)) (cap2 := 1) (t := 31) (e := 42) (bytes := 64) (nog rfl _) rfl (by kernel_rfl) rfl (by kernel_rfl) (by kernel_rfl) (by kernel_rfl) rfl (Src.row bF 0 rfl (RepAll.one (T := tyLine) (x := (⟨u1, a.To, (carryS a u2 u3).1⟩ : Line)) ⟨E, G, rfl, bo⟩)) fV ?_; intro bG bH hX fW hY d6 d7
   have d8 : Mem w.heap.size [] w Z [.row d3 [i6 u1, i6 a.To, i6 (carryS a u2 u3).1.ID, .bool (carryS a u2 u3).1.Long, .bool (carryS a u2 u3).1.Fast, .bool (carryS a u2 u3).1.Remote, i6 (carryS a u2 u3).1.Size, .slice E (carryS a u2 u3).1.Data.length G] 42, .row O (e25J ((carryS a u2 u3).1) E G) 25, .row H (e29J a) 29, .own tyLine 42 bG bH (q ++ [(⟨u1, a.To, (carryS a u2 u3).1⟩ : Line)]), .own t6 3 (sm ah) l (j.set f.toNat u1), .own tyRoute 29 o p (rclS u0.Routes), .row i [.slice o (rclS u0.Routes).length p, .slice (sm ah) (j.set f.toNat u1).length l] 37, .row n (e25J u3 ao7 cap8) 25, .row h [.slice ao1 u0.Routes.length cap2, .slice ao4 u0.Last.length cap5] 37] N fW := d7
   refine s1 d6 9 (.slice bG (q ++ [(⟨u1, a.To, (carryS a u2 u3).1⟩ : Line)]).length bH) ?_; intro h0 d9
   apply dZ
   refine j_ (t_ (rgB d9 d8 [] [] [(59, i6 (w64 (f + 1)))] ?_)); intro h3 fX
   exact d_ ⟨⟨q ++ [(⟨u1, a.To, (carryS a u2 u3).1⟩ : Line)], w64 (f + 1), j.set f.toNat u1, bG, bH, N⟩, ⟨d5.1, D⟩, d5.2, (fX.reg).anyβ _ (by kernel_rfl), d8.kp⟩
  have ea := aO.reval (d := 80) (c := []) (v := .bool (decide (I ≥ 0))) (by kernel_rfl) (.bool false) (by rw [J])
  have eb := ea.setc (d := 81) (c := [1]) (v := i6 u1) (by kernel_rfl) (v' := undef) (by rw [J]; kernel_rfl)
  have ec := eb.setc (d := 82) (c := [1]) (v := pt h 1) (by kernel_rfl) (v' := undef) (by rw [J]; kernel_rfl)
  have ed := ec.setc (d := 83) (c := [1]) (v := .slice ao4 u0.Last.length cap5) (by kernel_rfl) (v' := undef) (by rw [J]; kernel_rfl)
  have ee := ed.setc (d := 84) (c := [1]) (v := i6 f) (by kernel_rfl) (v' := undef) (by rw [J]; kernel_rfl)
  refine qk_ ee false ?_; intro h4 ef
  refine qk_ ef false ?_; intro h5 eg
  refine qk_ eg false ?_; intro h6 eh
  refine qk_ eh false ?_; intro h7 ei
  refine qk_ ei false ?_; intro h8 ej
  refine qk_ ej false ?_; intro h9 aY
  refine qg_ aY false (.bool false) ?_; intro ia ek
  refine q1 ek 92 (.bool false) ?_; intro fZ bI
  refine qnl (ag _ ?_); intro ib ax
  refine cdF bI (by kernel_rfl) ?_
  apply k_
  have el : Fr 109 [] [⟨2, [], i6 u2⟩, ⟨4, [], pt h 0⟩, ⟨5, [], pt B 0⟩, ⟨7, [], pt n 0⟩, ⟨8, [], pt i 0⟩, ⟨9, [], .slice z q.length A⟩, ⟨13, [], i6 f⟩, ⟨14, [], pt H 0⟩, ⟨15, [], pt O 0⟩, ⟨57, [], .slice ao1 u0.Routes.length cap2⟩, ⟨58, [], i6 (u0.Routes.length : Int)⟩, ⟨59, [], i6 f⟩] fZ := bI.reg
  refine sqH ?_; intro f0 em
  refine bt el ax 3 [5] [] [(94, .slice y j.length l), (95, i6 f)] ?_; intro ic en
  refine z1 en ax 96 L 0 (i6 u1) rfl ?_; intro id eo
  obtain ⟨f1, f2⟩ := fY
  refine ixo eo ax 3 (T := t6) (xs := j) f f1 (k := .i64) (e := 3) (bytes := 8) (nog rfl _) rfl (by kernel_rfl) rfl (by kernel_rfl) (by kernel_rfl) rfl (by kernel_rfl) ?_; intro ai f3 f4 aZ
  subst f4
  refine so aZ ax 3 (T := t6) (xs := j) f.toNat u1 (u := i6 u1) (nog rfl _) rfl rfl (by kernel_rfl) rfl (by kernel_rfl) rfl (by kernel_rfl) (by first | omega | (simp only [List.length_set] at *; omega)) rfl ?_; intro f5 ep
  have eq : Fr 109 [] [⟨2, [], i6 u2⟩, ⟨4, [], pt h 0⟩, ⟨5, [], pt B 0⟩, ⟨7, [], pt n 0⟩, ⟨8, [], pt i 0⟩, ⟨9, [], .slice z q.length A⟩, ⟨13, [], i6 f⟩, ⟨14, [], pt H 0⟩, ⟨15, [], pt O 0⟩, ⟨57, [], .slice ao1 u0.Routes.length cap2⟩, ⟨58, [], i6 (u0.Routes.length : Int)⟩, ⟨59, [], i6 f⟩, ⟨94, [], .slice (sm ai) (j.set f.toNat u1).length l⟩, ⟨95, [], i6 f⟩, ⟨96, [], i6 u1⟩, ⟨97, [], .pointer (some ⟨ai, f.toNat * 1, none⟩)⟩] f3 := by (try simp only [List.length_set] at aZ); (try simp only [List.length_set]); exact aZ.reg
  have f6 : (j.set f.toNat u1).length = j.length := by first | assumption | (simp; try omega)
  have a1 : Mem w.heap.size [] w Z [.row O (e25J ((carryS a u2 u3).1) E G) 25, .row H (e29J a) 29, .own tyLine 42 z A q, .own t6 3 (sm ai) l (j.set f.toNat u1), .own tyRoute 29 o p (rclS u0.Routes), .row i [.slice o (rclS u0.Routes).length p, .slice (sm ai) (j.set f.toNat u1).length l] 37, .row n (e25J u3 ao7 cap8) 25, .row h [.slice ao1 u0.Routes.length cap2, .slice ao4 u0.Last.length cap5] 37] N f5 := by rw [f6]; exact ep
  apply em
  refine rgH ?_; intro f7 er
  refine s1 eq 98 (.slice z q.length A) ?_; intro ie es
  refine z1 es a1 99 L 0 (i6 u1) rfl ?_; intro ig et
  refine bt et a1 4 [1, 0] [] [(103, .agg #[i6 u1, i6 a.To, i6 (carryS a u2 u3).1.ID, .bool (carryS a u2 u3).1.Long, .bool (carryS a u2 u3).1.Fast, .bool (carryS a u2 u3).1.Remote, i6 (carryS a u2 u3).1.Size, .slice E (carryS a u2 u3).1.Data.length G])] ?_; intro ih eu
  refine nw eu a1 (fun b => .slice (sm b) 1 1) [i6 u1, i6 a.To, i6 (carryS a u2 u3).1.ID, .bool (carryS a u2 u3).1.Long, .bool (carryS a u2 u3).1.Fast, .bool (carryS a u2 u3).1.Remote, i6 (carryS a u2 u3).1.Size, .slice E (carryS a u2 u3).1.Data.length G] 42 ?_; intro ev ii ij ew bJ
  obtain ⟨f8, ex⟩ := f2
  refine ap ew bJ 3 (T := tyLine) (xs := q) (ys := [(⟨u1, a.To, (carryS a u2 u3).1⟩ : Line)]) (ao := z) (cap := A) (ao2 := (sm ev)) (cap2 := 1) (t := 31) (e := 42) (bytes := 64) (nog rfl _) rfl (by kernel_rfl) rfl (by kernel_rfl) (by kernel_rfl) (by kernel_rfl) rfl (Src.row bJ 0 rfl (RepAll.one (T := tyLine) (x := (⟨u1, a.To, (carryS a u2 u3).1⟩ : Line)) ⟨E, G, rfl, bo⟩)) f8 ?_; intro bK bL ik f9 il ey ez
  have eA : Mem w.heap.size [] w Z [.row ev [i6 u1, i6 a.To, i6 (carryS a u2 u3).1.ID, .bool (carryS a u2 u3).1.Long, .bool (carryS a u2 u3).1.Fast, .bool (carryS a u2 u3).1.Remote, i6 (carryS a u2 u3).1.Size, .slice E (carryS a u2 u3).1.Data.length G] 42, .row O (e25J ((carryS a u2 u3).1) E G) 25, .row H (e29J a) 29, .own tyLine 42 bK bL (q ++ [(⟨u1, a.To, (carryS a u2 u3).1⟩ : Line)]), .own t6 3 (sm ai) l (j.set f.toNat u1), .own tyRoute 29 o p (rclS u0.Routes), .row i [.slice o (rclS u0.Routes).length p, .slice (sm ai) (j.set f.toNat u1).length l] 37, .row n (e25J u3 ao7 cap8) 25, .row h [.slice ao1 u0.Routes.length cap2, .slice ao4 u0.Last.length cap5] 37] N f9 := ez
  refine s1 ey 9 (.slice bK (q ++ [(⟨u1, a.To, (carryS a u2 u3).1⟩ : Line)]).length bL) ?_; intro im eB
  apply er
  refine j_ (t_ (rgB eB eA [] [] [(59, i6 (w64 (f + 1)))] ?_)); intro io ga
  exact d_ ⟨⟨q ++ [(⟨u1, a.To, (carryS a u2 u3).1⟩ : Line)], w64 (f + 1), j.set f.toNat u1, bK, bL, N⟩, ⟨ex.1, D⟩, ex.2, (ga.reg).anyβ _ (by kernel_rfl), eA.kp⟩
 refine x_ (y_ (y_ (z_ (t_ (sqH ?_))))); intro gc eC
 refine bt av cV 2 [3] [] [(107, .agg #[.slice o (rclS u0.Routes).length p, .slice y j.length l]), (108, .slice z q.length A)] ?_; intro ip bM
 refine sx bM cV 3 [.slice o (rclS u0.Routes).length p, .slice y j.length l] 0 ?_; intro bN bO
 refine bt bM bO 2 [] [] [(9, .slice z q.length A), (10, i6 0)] ?_; intro iq eD
 have gd : Mem w.heap.size [] w Z [.own tyLine 42 z A q, .own t6 3 y l j, .own tyRoute 29 o p (rclS u0.Routes), .row i [.slice o (rclS u0.Routes).length p, .slice y j.length l] 37, .row n (e25J u3 ao7 cap8) 25, .row h [.slice ao1 u0.Routes.length cap2, .slice ao4 u0.Last.length cap5] 37] bk bN := bO
 apply eC
 apply r_
 obtain ⟨ge, aj, eE, bP⟩ := gd.freeze 2 rfl
 have gf : Mem w.heap.size [] w Z [.own tyLine 42 z A q, .own t6 3 y l j, .row i [.slice o (rclS u0.Routes).length p, .slice y j.length l] 37, .row n (e25J u3 ao7 cap8) 25, .row h [.slice ao1 u0.Routes.length cap2, .slice ao4 u0.Last.length cap5] 37] ge bN := eE
 obtain ⟨eF, aa, eG, gg⟩ := gf.freeze 1 rfl
 replace bP := bP.mono aa
 have eH : Mem w.heap.size [] w Z [.own tyLine 42 z A q, .row i [.slice o (rclS u0.Routes).length p, .slice y j.length l] 37, .row n (e25J u3 ao7 cap8) 25, .row h [.slice ao1 u0.Routes.length cap2, .slice ao4 u0.Last.length cap5] 37] eF bN := eG
 refine rt (fn := Try.f10) (v := .tuple #[.agg #[.slice o (rclS u0.Routes).length p, .slice y j.length l], .slice z q.length A, i6 0]) eD (re3c eD (fn := Try.f10) rfl (ad := ⟨i, 0, none⟩) (by kernel_rfl) (loadVar_run eH 1 (b := i) (k := 2) (vs := [.slice o (rclS u0.Routes).length p, .slice y j.length l]) (ty := 37) rfl (by kernel_rfl) (by kernel_rfl)) (by kernel_rfl) (by kernel_rfl)) ?_
 exact ⟨((⟨(rclS u0.Routes), j⟩ : Gate), q, 0), o, p, y, l, z, A, eF, rfl, gb, bP, gg, eH.kp⟩

end Go.Proofs.Ytmkdnaecmombnaa
set_option linter.unusedVariables false
set_option linter.unusedSimpArgs false
set_option linter.defProp false
set_option maxRecDepth 100000
set_option maxHeartbeats 0
namespace Go.Proofs.Ytmkdnaecmombnaa
open Go.Sy Go.RowKit
abbrev e42K (X : Line) (A0 : Option Addr) (C0 : Nat) : List Value := [i6 X.Time, i6 X.Bus, i6 X.F.ID, .bool X.F.Long, .bool X.F.Fast, .bool X.F.Remote, i6 X.F.Size, .slice A0 X.F.Data.length C0]
abbrev e25K (X : Frame) (A0 : Option Addr) (C0 : Nat) : List Value := [i6 X.ID, .bool X.Long, .bool X.Fast, .bool X.Remote, i6 X.Size, .slice A0 X.Data.length C0]
def spread_fun (u0 : List Route) (u1 : Int) (u2 : Frame) (hpre : u0.length * 56 ≤ 140737488355328) (ao1 : Option Addr) (cap2 : Nat) (ao4 : Option Addr) (cap5 : Nat) (Z : Fz) (w : World) (hs3 : SlR tyRoute Z ao1 cap2 u0) (hs6 : SlR t8 Z ao4 cap5 u2.Data) (hZ : Z.on w) := fc_ (spread_walk u0 u1 u2 ao1 cap2 ao4 cap5 Z w hs3 hs6 hZ (spread_ok u0 u1 u2 hpre))
theorem gstepf_fun (u0 : Gate) (u1 : Int) (u2 : Int) (u3 : Frame) (ao1 : Option Addr) (cap2 : Nat) (ao4 : Option Addr) (cap5 : Nat) (ao7 : Option Addr) (cap8 : Nat) (Z : Fz) (w : World) (hs3 : SlR tyRoute Z ao1 cap2 u0.Routes) (hs6 : SlR t6 Z ao4 cap5 u0.Last) (hs9 : SlR t8 Z ao7 cap8 u3.Data) (hZ : Z.on w) : Calls Try.prog 10 #[.agg #[.slice ao1 u0.Routes.length cap2, .slice ao4 u0.Last.length cap5], i6 u1, i6 u2, .agg #[i6 u3.ID, .bool u3.Long, .bool u3.Fast, .bool u3.Remote, i6 u3.Size, .slice ao7 u3.Data.length cap8]] w fun e w' => ∃ (ao1001 : Option Addr) (cap1002 : Nat) (ao1004 : Option Addr) (cap1005 : Nat) (ao1007 : Option Addr) (cap1008 : Nat) (Z' : Fz), e = .returned (.tuple #[.agg #[.slice ao1001 (gstepS u0 u1 u2 u3).1.Routes.length cap1002, .slice ao1004 (gstepS u0 u1 u2 u3).1.Last.length cap1005], .slice ao1007 (gstepS u0 u1 u2 u3).2.1.length cap1008, i6 (gstepS u0 u1 u2 u3).2.2]) ∧ SlR tyRoute Z' ao1001 cap1002 (gstepS u0 u1 u2 u3).1.Routes ∧ SlR t6 Z' ao1004 cap1005 (gstepS u0 u1 u2 u3).1.Last ∧ Mem w.heap.size [] w Z [.own tyLine 42 ao1007 cap1008 (gstepS u0 u1 u2 u3).2.1] Z' w' :=
  (gstepf_walk u0 u1 u2 u3 ao1 cap2 ao4 cap5 ao7 cap8 Z w hs3 hs6 hs9 hZ (gstepf_ok u0 u1 u2 u3)).mono fun _ _ ⟨r, h0, h1, h2, h3, h4, h5, h6, he, hk, f0, f1, hm⟩ => by subst hk; exact ⟨h0, h1, h2, h3, h4, h5, h6, he, f0, f1, hm⟩

theorem slin1_walk (u0 : Line) (u1 : Line) (ao1 : Option Addr) (cap2 : Nat) (ao4 : Option Addr) (cap5 : Nat) (Z : Fz) (w : World) (hs3 : SlR t8 Z ao1 cap2 u0.F.Data) (hs6 : SlR t8 Z ao4 cap5 u1.F.Data) (hZ : Z.on w) {K : Bool → Prop} (hp : slin1_vc u0 u1 K) : Calls Try.prog 45 #[.agg #[i6 u0.Time, i6 u0.Bus, i6 u0.F.ID, .bool u0.F.Long, .bool u0.F.Fast, .bool u0.F.Remote, i6 u0.F.Size, .slice ao1 u0.F.Data.length cap2], .agg #[i6 u1.Time, i6 u1.Bus, i6 u1.F.ID, .bool u1.F.Long, .bool u1.F.Fast, .bool u1.F.Remote, i6 u1.F.Size, .slice ao4 u1.F.Data.length cap5]] w fun e w' => ∃ r : Bool, e = .returned (.bool r) ∧ K r ∧ Below w.heap.size w w' := by
 refine enter0 Try.func45 rfl rfl (by kernel_rfl) ?_; intro W o; have p := Mem.start w Z hZ
 have R := hp (hs3.small) (hs6.small)
 refine sqH ?_; intro S s
 refine nw o p pb (e42K u0 ao1 cap2) 42 ?_; intro c Y aa t u
 refine nw t u pb (e42K u1 ao4 cap5) 42 ?_; intro d ab ac x a
 refine s1 x 4 (.bool false) ?_; intro ad y
 apply s
 refine sqH ?_; intro T z
 refine s1 y 5 (pt c 0) ?_; intro ae A
 refine l1 A a 6 1 0 (i6 u0.Time) rfl rfl ?_; intro af B
 refine s1 B 7 (pt d 0) ?_; intro ag C
 refine l1 C a 8 0 0 (i6 u1.Time) rfl rfl ?_; intro ah D
 refine s1 D 9 (.bool (u0.Time == u1.Time)) ?_; intro ai E
 refine s1 E 10 (.bool (u0.Time == u1.Time)) ?_; intro aj G
 have H := G.atom ((u0.Time == u1.Time) == true) (by kernel_rfl)
 refine gp H 11 0 [] (u0.Time == u1.Time) (pt c 1) rfl rfl ?_; intro ak f
 refine gd f (i6 u0.Bus) (m := 0) (cj := []) (bj := u0.Time == u1.Time) rfl rfl (by kernel_rfl) rfl (by kernel_rfl) (by kernel_rfl) (by kernel_rfl) (fun hg => ld f a 1 (g := [0]) (b := c) (off := 1) (cs := (e42K u0 ao1 cap2)) (ty := 42) rfl (by kernel_rfl) (by kernel_rfl) (by kernel_rfl) (by kernel_rfl) hg) ?_; intro al I
 refine gp I 13 0 [] (u0.Time == u1.Time) (pt d 1) rfl rfl ?_; intro am h
 refine gd h (i6 u1.Bus) (m := 0) (cj := []) (bj := u0.Time == u1.Time) rfl rfl (by kernel_rfl) rfl (by kernel_rfl) (by kernel_rfl) (by kernel_rfl) (fun hg => ld h a 0 (g := [0]) (b := d) (off := 1) (cs := (e42K u1 ao4 cap5)) (ty := 42) rfl (by kernel_rfl) (by kernel_rfl) (by kernel_rfl) (by kernel_rfl) hg) ?_; intro an J
 refine gp J 15 0 [] (u0.Time == u1.Time) (.bool (u0.Bus == u1.Bus)) rfl rfl ?_; intro ao i
 refine u_ i (.bool ((u0.Time == u1.Time) && (u0.Bus == u1.Bus))) (pk_and i (g := []) (m := 0) (b := u0.Time == u1.Time) (v := u0.Bus == u1.Bus) rfl (by kernel_rfl) (by kernel_rfl) (by kernel_rfl) rfl) ?_; intro ap L
 refine s1 L 17 (.bool ((u0.Time == u1.Time) && (u0.Bus == u1.Bus))) ?_; intro aq M
 have N := M.atom (((u0.Time == u1.Time) && (u0.Bus == u1.Bus)) == true) (by kernel_rfl)
 refine gp N 18 1 [] ((u0.Time == u1.Time) && (u0.Bus == u1.Bus)) (pt c 2) rfl rfl ?_; intro ar j
 refine gd j (.agg (e25K u0.F ao1 cap2).toArray) (m := 1) (cj := []) (bj := (u0.Time == u1.Time) && (u0.Bus == u1.Bus)) rfl rfl (by kernel_rfl) rfl (by kernel_rfl) (by kernel_rfl) (by kernel_rfl) (fun hg => lda j a 1 (g := [1]) (b := c) (off := 2) (k := 6) (cs := (e42K u0 ao1 cap2)) (vs := (e25K u0.F ao1 cap2)) (ty := 42) rfl (by kernel_rfl) (by kernel_rfl) (by kernel_rfl) (by kernel_rfl) (by kernel_rfl) hg) ?_; intro au O
 refine gp O 20 1 [] ((u0.Time == u1.Time) && (u0.Bus == u1.Bus)) (pt d 2) rfl rfl ?_; intro av l
 refine gd l (.agg (e25K u1.F ao4 cap5).toArray) (m := 1) (cj := []) (bj := (u0.Time == u1.Time) && (u0.Bus == u1.Bus)) rfl rfl (by kernel_rfl) rfl (by kernel_rfl) (by kernel_rfl) (by kernel_rfl) (fun hg => lda l a 0 (g := [1]) (b := d) (off := 2) (k := 6) (cs := (e42K u1 ao4 cap5)) (vs := (e25K u1.F ao4 cap5)) (ty := 42) rfl (by kernel_rfl) (by kernel_rfl) (by kernel_rfl) (by kernel_rfl) (by kernel_rfl) hg) ?_; intro aw P
 refine gcl P a (.bool (rsameS u0.F u1.F)) 46 #[.agg (e25K u0.F ao1 cap2).toArray, .agg (e25K u1.F ao4 cap5).toArray] (m := 1) (cj := []) (bj := (u0.Time == u1.Time) && (u0.Bus == u1.Bus)) rfl rfl (by kernel_rfl) rfl (by kernel_rfl) (by kernel_rfl) (by kernel_rfl) (fun _ => by kernel_rfl) (fun hg => rsame_fun u0.F u1.F ao1 cap2 ao4 cap5 _ _ hs3 hs6 a.fz) ?_; intro ax ay n U
 refine u_ n (.bool (((u0.Time == u1.Time) && (u0.Bus == u1.Bus)) && (rsameS u0.F u1.F))) (pk_and n (g := []) (m := 1) (b := (u0.Time == u1.Time) && (u0.Bus == u1.Bus)) (v := (rsameS u0.F u1.F)) rfl (by kernel_rfl) (by kernel_rfl) (by kernel_rfl) rfl) ?_; intro az Q
 refine s1 Q 4 (.bool (((u0.Time == u1.Time) && (u0.Bus == u1.Bus)) && (rsameS u0.F u1.F))) ?_; intro aA V
 apply z
 exact r_ (ra1 V (.bool (((u0.Time == u1.Time) && (u0.Bus == u1.Bus)) && (rsameS u0.F u1.F))) ⟨((u0.Time == u1.Time) && (u0.Bus == u1.Bus)) && (rsameS u0.F u1.F), rfl, R, U.below⟩)
def slin1_fun (u0 : Line) (u1 : Line) (ao1 : Option Addr) (cap2 : Nat) (ao4 : Option Addr) (cap5 : Nat) (Z : Fz) (w : World) (hs3 : SlR t8 Z ao1 cap2 u0.F.Data) (hs6 : SlR t8 Z ao4 cap5 u1.F.Data) (hZ : Z.on w) := f_ (slin1_walk u0 u1 ao1 cap2 ao4 cap5 Z w hs3 hs6 hZ (slin1_ok u0 u1))
theorem leqf_walk (u0 : List Line) (u1 : List Line) (u2 : Line → Line → Bool) (ao1 : Option Addr) (cap2 : Nat) (ao4 : Option Addr) (cap5 : Nat) (fid7 : Nat) (caps8 : Array Value) (Z : Fz) (w : World) (hs3 : SlR tyLine Z ao1 cap2 u0) (hs6 : SlR tyLine Z ao4 cap5 u1) (hf9 : ∀ (Z1 : Fz) (w1 : World), Z.le Z1 → Z1.on w1 → ∀ (x0 : Line) (x1 : Line) (xao0 : Option Addr) (xcap0 : Nat) (xao1 : Option Addr) (xcap1 : Nat), SlR t8 Z1 xao0 xcap0 x0.F.Data → SlR t8 Z1 xao1 xcap1 x1.F.Data → Calls Try.prog fid7 (#[.agg #[i6 x0.Time, i6 x0.Bus, i6 x0.F.ID, .bool x0.F.Long, .bool x0.F.Fast, .bool x0.F.Remote, i6 x0.F.Size, .slice xao0 x0.F.Data.length xcap0], .agg #[i6 x1.Time, i6 x1.Bus, i6 x1.F.ID, .bool x1.F.Long, .bool x1.F.Fast, .bool x1.F.Remote, i6 x1.F.Size, .slice xao1 x1.F.Data.length xcap1]] ++ caps8) w1 fun e w2 => e = .returned (.bool (u2 x0 x1)) ∧ Below w1.heap.size w1 w2) (hg10 : ∀ x w, Sem.run Try.prog (callFunc fid7 x) w = .ok (.enter fid7 x) w) (hZ : Z.on w) {K : Bool → Prop} (hp : leqf_vc u0 u1 u2 K) : Calls Try.prog 44 #[.slice ao1 u0.length cap2, .slice ao4 u1.length cap5, .func (.func fid7) #[] caps8] w fun e w' => ∃ r : Bool, e = .returned (.bool r) ∧ K r ∧ Below w.heap.size w w' := by
 refine enter0 Try.func44 rfl rfl (by kernel_rfl) ?_; intro a0 E; have d := Mem.start w Z hZ; have aq := Fz.le.refl Z
 have o := hp (hs3.small) (hs6.small)
 refine sqB E d [] [] [] ?_; intro aZ H
 refine s_ (sqB H d [] [] [(14, .bool ((u0.length : Int) != (u1.length : Int)))] ?_); intro a1 l
 refine cd l (t := (u0.length : Int) != (u1.length : Int)) (by kernel_rfl) (fun z => ?_) (fun z => ?_)
 · -- yes
  have ar := o.1 z
  refine sqB l d [] [] [(6, .bool false)] ?_; intro a2 au
  exact r_ (h_ (ra1 au (.bool false) ⟨false, rfl, ar, d.below⟩))
 · -- no
  have av := o.2 z
  refine k_ (s_ (sqB l d [] [] [(15, .slice ao1 u0.length cap2), (16, i6 (u0.length : Int)), (17, i6 0)] ?_)); intro I J
  apply b_
  have L : Fr 32 [] [⟨1, [], .slice ao4 u1.length cap5⟩, ⟨2, [], .func (.func fid7) #[] caps8⟩, ⟨15, [], .slice ao1 u0.length cap2⟩, ⟨16, [], i6 (u0.length : Int)⟩, ⟨17, [], i6 0⟩] I := J.reg
  obtain ⟨aw, ax, ay, az⟩ := av
  refine lp (ι := Int) (fun s => [⟨1, [], .slice ao4 u1.length cap5⟩, ⟨2, [], .func (.func fid7) #[] caps8⟩, ⟨15, [], .slice ao1 u0.length cap2⟩, ⟨16, [], i6 (u0.length : Int)⟩, ⟨17, [], i6 s⟩]) (fun s => []) (fun s => Z) (fun s => aw s) (fun s => ax s) 0 ay (by exact L.region (by kernel_rfl) (by kernel_rfl)) (by exact d) ?_
  rintro c aA aB aC N O
  have p := az c aA
  refine sqB N O [] [] [(18, .bool (decide (c < (u0.length : Int))))] ?_; intro a3 m
  apply s_
  refine cd m (t := decide (c < (u0.length : Int))) (by kernel_rfl) (fun A => ?_) (fun A => ?_)
  · -- yes
   have aD := p.1 A
   refine k_ (s_ (b_ (sqH ?_))); intro aE Q
   refine s1 m 19 (i6 c) ?_; intro a4 R
   obtain ⟨aF, S⟩ := aD
   refine ix_ R hs3 c aF .i64 42 64 ?_; intro a5 a6 a7 a a8 aG aH aI U
   have V := S a aG
   obtain ⟨f, g, rfl, W⟩ := aI
   have aJ := V (W.small)
   refine z2 U O 21 aH 0 8 (e42K a f g) rfl ?_; intro a9 X
   refine nw X O pb [i6 0, i6 0, i6 0, .bool false, .bool false, .bool false, i6 0, .slice none 0 0] 42 ?_; intro Y ba bb aa ab
   refine s1 aa 7 (i6 c) ?_; intro bc B
   refine sx B ab 0 (e42K a f g) 0 ?_; intro aK ac
   have q : Mem w.heap.size [] w Z [.row Y (e42K a f g) 42] Z aK := ac
   apply Q
   refine sqH ?_; intro aL ad
   refine bt B q 2 [] [] [(22, .slice ao4 u1.length cap5), (23, i6 c)] ?_; intro bd ae
   obtain ⟨aM, af⟩ := aJ
   refine ix_ ae hs6 c aM .i64 42 64 ?_; intro be bf bg b bh aN aO aP ag
   have ah := af b aN
   obtain ⟨i, j, rfl, ai⟩ := aP
   have u := ah (ai.small)
   refine z2 ag q 25 aO 0 8 (e42K b i j) rfl ?_; intro bi aj
   refine nw aj q pb [i6 0, i6 0, i6 0, .bool false, .bool false, .bool false, i6 0, .slice none 0 0] 42 ?_; intro aQ bj bk C ak
   refine sx C ak 0 (e42K b i j) 0 ?_; intro aR al
   have v : Mem w.heap.size [] w Z [.row aQ (e42K b i j) 42, .row Y (e42K a f g) 42] Z aR := al
   apply ad
   refine sqH ?_; intro aS am
   refine bt C v 3 [1, 0] [] [(26, .func (.func fid7) #[] caps8), (27, .agg (e42K a f g).toArray), (28, .agg (e42K b i j).toArray)] ?_; intro bl an
   have aT := hf9 _ _ aq v.fz a b f g i j W ai
   refine fcl an v (.bool (u2 a b)) fid7 (#[.agg (e42K a f g).toArray, .agg (e42K b i j).toArray] ++ caps8) (nog rfl _) rfl (by kernel_rfl) ?h1 ?h2 ?_
   case h1 => exact fv_run rfl (by kernel_rfl) (by kernel_rfl) hg10
   case h2 => exact aT
   intro bm bn ao y
   refine s1 ao 30 (.bool (!(u2 a b))) ?_; intro bo n
   apply am
   refine cd n (t := !(u2 a b)) (by kernel_rfl) (fun D => ?_) (fun D => ?_)
   · -- yes
    have aU := u.1 D
    refine sqB n y [] [] [(6, .bool false)] ?_; intro bp aV
    exact r_ (i_ (h_ (h_ (i_ (h_ (ra1 aV (.bool false) ⟨false, rfl, aU, y.below⟩))))))
   · -- no
    have ap := u.2 D
    refine l_ (j_ (t_ (rgB n y [] [] [(17, i6 (w64 (c + 1)))] ?_))); intro bq aW
    exact d_ ⟨w64 (c + 1), ap.1, ap.2, (aW.region (by kernel_rfl) (by kernel_rfl)).anyβ _ (by kernel_rfl), y.kp⟩
  · -- no
   have aX := p.2 A
   refine x_ (y_ (y_ (z_ (t_ (sqB m O [] [] [(6, .bool true)] ?_))))); intro br aY
   exact r_ (ra1 aY (.bool true) ⟨true, rfl, aX, O.below⟩)

theorem RStep1_walk (u0 : Int) (u1 : Int) (cb1 co2 : Nat) (Z : Fz) (w : World) (hP3 : PtR Z cb1 co2 [i6 u1]) (hZ : Z.on w) {K : Bool → Prop} (hp : RStep1_vc u0 u1 K) : Calls Try.prog 20 #[i6 u0, pt cb1 co2] w fun e w' => ∃ r : Bool, e = .returned (.bool r) ∧ K r ∧ Below w.heap.size w w' := by
 refine enter0 Try.func20 rfl rfl (by kernel_rfl) ?_; intro j b; have a := Mem.start w Z hZ
 refine sqB b a [] [] [] ?_; intro l c
 refine sqH ?_; intro h d
 refine s1 c 4 (i6 u0) ?_; intro m f
 refine z1 f a 5 hP3 0 (i6 u1) rfl ?_; intro n g
 refine bt g a 2 [] [] [(3, .bool (decide (u0 > u1)))] ?_; intro o i
 apply d
 exact r_ (ra1 i (.bool (decide (u0 > u1))) ⟨decide (u0 > u1), rfl, hp, a.below⟩)
def RStep1_fun (u0 : Int) (u1 : Int) (cb1 co2 : Nat) (Z : Fz) (w : World) (hP3 : PtR Z cb1 co2 [i6 u1]) (hZ : Z.on w) := f_ (RStep1_walk u0 u1 cb1 co2 Z w hP3 hZ (RStep1_ok u0 u1))
theorem routed_walk   (Z : Fz) (w : World)  (hZ : Z.on w) {K : Bool → Prop} (hp : routed_vc  K) : Calls Try.prog 7 #[] w fun e w' => ∃ r : Bool, e = .returned (.bool r) ∧ K r ∧ Below w.heap.size w w' := by
 refine enter0 Try.func7 rfl rfl (by kernel_rfl) ?_; intro a0 av; have Y := Mem.start w Z hZ
 refine sqB av Y [] [] [] ?_; intro a2 aw
 refine sqH ?_; intro bs ax
 refine s1 aw 9 (.agg #[i6 0, i6 1, i6 0, i6 0, .bool false, i6 2, i6 0]) ?_; intro a5 ay
 refine nw ay Y (fun b => .slice (sm b) 1 1) [i6 0, i6 1, i6 0, i6 0, .bool false, i6 2, i6 0] 29 ?_; intro b7 a8 az aA aB
 refine s1 aA 11 (.agg #[i6 5, .bool false, .bool false, .bool false, i6 0, .slice none 0 0]) ?_; intro cj aC
 have bu : Mem w.heap.size [] w Z [.own tyRoute 29 (sm b7) 1 ([(⟨0, 1, (⟨0, 0, false⟩ : Filter), 2, 0⟩ : Route)] : List Route)] Z az := aB.rowOwn (T := tyRoute) (xs := ([(⟨0, 1, (⟨0, 0, false⟩ : Filter), 2, 0⟩ : Route)] : List Route)) 0 rfl (by decide) (by show 1 ≤ lim; decide) (RepAll.one (T := tyRoute) (x := (⟨0, 1, (⟨0, 0, false⟩ : Filter), 2, 0⟩ : Route)) rfl)
 obtain ⟨bv, bw, aD, g⟩ := bu.freeze 0 rfl
 have aa : Mem w.heap.size [] w Z [] bv az := aD
 obtain ⟨bx, aE⟩ := hp
 refine ck aC 8 #[.slice (sm b7) ([(⟨0, 1, (⟨0, 0, false⟩ : Filter), 2, 0⟩ : Route)] : List Route).length 1, i6 0, .agg #[i6 5, .bool false, .bool false, .bool false, i6 0, .slice none 0 0]] ?_
 refine (spread_fun ([(⟨0, 1, (⟨0, 0, false⟩ : Filter), 2, 0⟩ : Route)] : List Route) 0 (⟨5, false, false, false, 0, []⟩ : Frame) bx (sm b7) 1 none 0 _ _ g (SlR.nil _ _) aa.fz).mono ?_; rintro _ bz ⟨h, i, aF, rfl, hm⟩; refine ⟨_, rfl, ?_⟩; intro cl aG; have aH := aa.callZ hm
 have C : Mem w.heap.size [] w Z [.own tyLine 42 h i (spreadS ([(⟨0, 1, (⟨0, 0, false⟩ : Filter), 2, 0⟩ : Route)] : List Route) 0 (⟨5, false, false, false, 0, []⟩ : Frame)).1] aF bz := aH
 have bA := aE (C.ownSmall 0 rfl)
 refine bt aG C 5 [] [] [(1, .slice h (spreadS ([(⟨0, 1, (⟨0, 0, false⟩ : Filter), 2, 0⟩ : Route)] : List Route) 0 (⟨5, false, false, false, 0, []⟩ : Frame)).1.length i), (2, i6 (spreadS ([(⟨0, 1, (⟨0, 0, false⟩ : Filter), 2, 0⟩ : Route)] : List Route) 0 (⟨5, false, false, false, 0, []⟩ : Frame)).2)] ?_; intro cm aJ
 apply ax
 refine sqH ?_; intro bB aK
 refine s1 aJ 16 (.agg #[i6 0, i6 1, i6 0, i6 0, .bool false, i6 2, i6 0]) ?_; intro cn aL
 refine nw aL C (fun b => .slice (sm b) 1 1) [i6 0, i6 1, i6 0, i6 0, .bool false, i6 2, i6 0] 29 ?_; intro ab co aM aN aO
 have bC : Mem w.heap.size [] w Z [.own tyRoute 29 (sm ab) 1 ([(⟨0, 1, (⟨0, 0, false⟩ : Filter), 2, 0⟩ : Route)] : List Route), .own tyLine 42 h i (spreadS ([(⟨0, 1, (⟨0, 0, false⟩ : Filter), 2, 0⟩ : Route)] : List Route) 0 (⟨5, false, false, false, 0, []⟩ : Frame)).1] aF aM := aO.rowOwn (T := tyRoute) (xs := ([(⟨0, 1, (⟨0, 0, false⟩ : Filter), 2, 0⟩ : Route)] : List Route)) 0 rfl (by decide) (by show 1 ≤ lim; decide) (RepAll.one (T := tyRoute) (x := (⟨0, 1, (⟨0, 0, false⟩ : Filter), 2, 0⟩ : Route)) rfl)
 obtain ⟨bD, aP, aQ, q⟩ := bC.freeze 0 rfl
 have ac : Mem w.heap.size [] w Z [.own tyLine 42 h i (spreadS ([(⟨0, 1, (⟨0, 0, false⟩ : Filter), 2, 0⟩ : Route)] : List Route) 0 (⟨5, false, false, false, 0, []⟩ : Frame)).1] bD aM := aQ
 obtain ⟨bE, aR⟩ := bA
 refine ck aN 9 #[.slice (sm ab) ([(⟨0, 1, (⟨0, 0, false⟩ : Filter), 2, 0⟩ : Route)] : List Route).length 1] ?_
 refine (gnew_fun ([(⟨0, 1, (⟨0, 0, false⟩ : Filter), 2, 0⟩ : Route)] : List Route) bE (sm ab) 1 _ _ q ac.fz).mono ?_; rintro _ bF ⟨j, l, m, n, aS, rfl, D, E, hm⟩; refine ⟨_, rfl, ?_⟩; intro cp aT; have aU := ac.callZ hm
 have ae : Mem w.heap.size [] w Z [.own tyLine 42 h i (spreadS ([(⟨0, 1, (⟨0, 0, false⟩ : Filter), 2, 0⟩ : Route)] : List Route) 0 (⟨5, false, false, false, 0, []⟩ : Frame)).1] aS bF := aU
 have aW := aR (D.small) (E.small)
 refine bt aT ae 3 [] [] [(19, .agg #[.slice j (gnewS ([(⟨0, 1, (⟨0, 0, false⟩ : Filter), 2, 0⟩ : Route)] : List Route)).1.Routes.length l, .slice m (gnewS ([(⟨0, 1, (⟨0, 0, false⟩ : Filter), 2, 0⟩ : Route)] : List Route)).1.Last.length n]), (20, i6 (gnewS ([(⟨0, 1, (⟨0, 0, false⟩ : Filter), 2, 0⟩ : Route)] : List Route)).2)] ?_; intro cq aX
 refine nw aX ae pb [.slice none 0 0, .slice none 0 0] 37 ?_; intro af cr cs ag aY
 refine sx ag aY 0 [.slice j (gnewS ([(⟨0, 1, (⟨0, 0, false⟩ : Filter), 2, 0⟩ : Route)] : List Route)).1.Routes.length l, .slice m (gnewS ([(⟨0, 1, (⟨0, 0, false⟩ : Filter), 2, 0⟩ : Route)] : List Route)).1.Last.length n] 0 ?_; intro bG aZ
 refine s1 ag 4 (i6 (gnewS ([(⟨0, 1, (⟨0, 0, false⟩ : Filter), 2, 0⟩ : Route)] : List Route)).2) ?_; intro ct a1
 have G : Mem w.heap.size [] w Z [.row af [.slice j (gnewS ([(⟨0, 1, (⟨0, 0, false⟩ : Filter), 2, 0⟩ : Route)] : List Route)).1.Routes.length l, .slice m (gnewS ([(⟨0, 1, (⟨0, 0, false⟩ : Filter), 2, 0⟩ : Route)] : List Route)).1.Last.length n] 37, .own tyLine 42 h i (spreadS ([(⟨0, 1, (⟨0, 0, false⟩ : Filter), 2, 0⟩ : Route)] : List Route) 0 (⟨5, false, false, false, 0, []⟩ : Frame)).1] aS bG := aZ
 apply aK
 refine sqH ?_; intro bH a3
 refine bt a1 G 2 [0] [] [(22, .agg #[.slice j (gnewS ([(⟨0, 1, (⟨0, 0, false⟩ : Filter), 2, 0⟩ : Route)] : List Route)).1.Routes.length l, .slice m (gnewS ([(⟨0, 1, (⟨0, 0, false⟩ : Filter), 2, 0⟩ : Route)] : List Route)).1.Last.length n]), (23, .agg #[i6 5, .bool false, .bool false, .bool false, i6 0, .slice none 0 0])] ?_; intro cu a4
 refine ck a4 10 #[.agg #[.slice j (gnewS ([(⟨0, 1, (⟨0, 0, false⟩ : Filter), 2, 0⟩ : Route)] : List Route)).1.Routes.length l, .slice m (gnewS ([(⟨0, 1, (⟨0, 0, false⟩ : Filter), 2, 0⟩ : Route)] : List Route)).1.Last.length n], i6 9, i6 0, .agg #[i6 5, .bool false, .bool false, .bool false, i6 0, .slice none 0 0]] ?_
 refine (gstepf_fun (gnewS ([(⟨0, 1, (⟨0, 0, false⟩ : Filter), 2, 0⟩ : Route)] : List Route)).1 9 0 (⟨5, false, false, false, 0, []⟩ : Frame) j l m n none 0 _ _ D E (SlR.nil _ _) G.fz).mono ?_; rintro _ bI ⟨ah, ai, aj, ak, s, p, a6, rfl, bJ, bK, hm⟩; refine ⟨_, rfl, ?_⟩; intro cv a7; have a9 := G.callZ hm
 have H : Mem w.heap.size [] w Z [.own tyLine 42 s p (gstepS (gnewS ([(⟨0, 1, (⟨0, 0, false⟩ : Filter), 2, 0⟩ : Route)] : List Route)).1 9 0 (⟨5, false, false, false, 0, []⟩ : Frame)).2.1, .row af [.slice j (gnewS ([(⟨0, 1, (⟨0, 0, false⟩ : Filter), 2, 0⟩ : Route)] : List Route)).1.Routes.length l, .slice m (gnewS ([(⟨0, 1, (⟨0, 0, false⟩ : Filter), 2, 0⟩ : Route)] : List Route)).1.Last.length n] 37, .own tyLine 42 h i (spreadS ([(⟨0, 1, (⟨0, 0, false⟩ : Filter), 2, 0⟩ : Route)] : List Route) 0 (⟨5, false, false, false, 0, []⟩ : Frame)).1] a6 bI := a9
 have I := aW (H.ownSmall 0 rfl) (bJ.small) (bK.small)
 refine bt a7 H 4 [] [] [(25, .agg #[.slice ah (gstepS (gnewS ([(⟨0, 1, (⟨0, 0, false⟩ : Filter), 2, 0⟩ : Route)] : List Route)).1 9 0 (⟨5, false, false, false, 0, []⟩ : Frame)).1.Routes.length ai, .slice aj (gstepS (gnewS ([(⟨0, 1, (⟨0, 0, false⟩ : Filter), 2, 0⟩ : Route)] : List Route)).1 9 0 (⟨5, false, false, false, 0, []⟩ : Frame)).1.Last.length ak]), (26, .slice s (gstepS (gnewS ([(⟨0, 1, (⟨0, 0, false⟩ : Filter), 2, 0⟩ : Route)] : List Route)).1 9 0 (⟨5, false, false, false, 0, []⟩ : Frame)).2.1.length p), (27, i6 (gstepS (gnewS ([(⟨0, 1, (⟨0, 0, false⟩ : Filter), 2, 0⟩ : Route)] : List Route)).1 9 0 (⟨5, false, false, false, 0, []⟩ : Frame)).2.2)] ?_; intro cw bc
 refine nw bc H pb [.slice none 0 0, .slice none 0 0] 37 ?_; intro bL cx cy al bd
 refine sx al bd 0 [.slice ah (gstepS (gnewS ([(⟨0, 1, (⟨0, 0, false⟩ : Filter), 2, 0⟩ : Route)] : List Route)).1 9 0 (⟨5, false, false, false, 0, []⟩ : Frame)).1.Routes.length ai, .slice aj (gstepS (gnewS ([(⟨0, 1, (⟨0, 0, false⟩ : Filter), 2, 0⟩ : Route)] : List Route)).1 9 0 (⟨5, false, false, false, 0, []⟩ : Frame)).1.Last.length ak] 0 ?_; intro bM am
 refine bt al am 2 [] [] [(6, .slice s (gstepS (gnewS ([(⟨0, 1, (⟨0, 0, false⟩ : Filter), 2, 0⟩ : Route)] : List Route)).1 9 0 (⟨5, false, false, false, 0, []⟩ : Frame)).2.1.length p), (7, i6 (gstepS (gnewS ([(⟨0, 1, (⟨0, 0, false⟩ : Filter), 2, 0⟩ : Route)] : List Route)).1 9 0 (⟨5, false, false, false, 0, []⟩ : Frame)).2.2)] ?_; intro cz be
 have a : Mem w.heap.size [] w Z [.row bL [.slice ah (gstepS (gnewS ([(⟨0, 1, (⟨0, 0, false⟩ : Filter), 2, 0⟩ : Route)] : List Route)).1 9 0 (⟨5, false, false, false, 0, []⟩ : Frame)).1.Routes.length ai, .slice aj (gstepS (gnewS ([(⟨0, 1, (⟨0, 0, false⟩ : Filter), 2, 0⟩ : Route)] : List Route)).1 9 0 (⟨5, false, false, false, 0, []⟩ : Frame)).1.Last.length ak] 37, .own tyLine 42 s p (gstepS (gnewS ([(⟨0, 1, (⟨0, 0, false⟩ : Filter), 2, 0⟩ : Route)] : List Route)).1 9 0 (⟨5, false, false, false, 0, []⟩ : Frame)).2.1, .row af [.slice j (gnewS ([(⟨0, 1, (⟨0, 0, false⟩ : Filter), 2, 0⟩ : Route)] : List Route)).1.Routes.length l, .slice m (gnewS ([(⟨0, 1, (⟨0, 0, false⟩ : Filter), 2, 0⟩ : Route)] : List Route)).1.Last.length n] 37, .own tyLine 42 h i (spreadS ([(⟨0, 1, (⟨0, 0, false⟩ : Filter), 2, 0⟩ : Route)] : List Route) 0 (⟨5, false, false, false, 0, []⟩ : Frame)).1] a6 bM := am
 apply a3
 refine sqH ?_; intro J o
 refine bt be a 16 [] [] [(43, .bool (((((spreadS ([(⟨0, 1, (⟨0, 0, false⟩ : Filter), 2, 0⟩ : Route)] : List Route) 0 (⟨5, false, false, false, 0, []⟩ : Frame)).2 == 0) && ((gnewS ([(⟨0, 1, (⟨0, 0, false⟩ : Filter), 2, 0⟩ : Route)] : List Route)).2 == 0)) && ((gstepS (gnewS ([(⟨0, 1, (⟨0, 0, false⟩ : Filter), 2, 0⟩ : Route)] : List Route)).1 9 0 (⟨5, false, false, false, 0, []⟩ : Frame)).2.2 == 0)) && (((spreadS ([(⟨0, 1, (⟨0, 0, false⟩ : Filter), 2, 0⟩ : Route)] : List Route) 0 (⟨5, false, false, false, 0, []⟩ : Frame)).1.length : Int) == 1)))] ?_; intro cA L
 rcases Bool.eq_false_or_eq_true (((((spreadS ([(⟨0, 1, (⟨0, 0, false⟩ : Filter), 2, 0⟩ : Route)] : List Route) 0 (⟨5, false, false, false, 0, []⟩ : Frame)).2 == 0) && ((gnewS ([(⟨0, 1, (⟨0, 0, false⟩ : Filter), 2, 0⟩ : Route)] : List Route)).2 == 0)) && ((gstepS (gnewS ([(⟨0, 1, (⟨0, 0, false⟩ : Filter), 2, 0⟩ : Route)] : List Route)).1 9 0 (⟨5, false, false, false, 0, []⟩ : Frame)).2.2 == 0)) && (((spreadS ([(⟨0, 1, (⟨0, 0, false⟩ : Filter), 2, 0⟩ : Route)] : List Route) 0 (⟨5, false, false, false, 0, []⟩ : Frame)).1.length : Int) == 1)) with u | u
 · -- true
  have bN := I.1 u
  have M := L.reval (d := 43) (c := []) (v := .bool (((((spreadS ([(⟨0, 1, (⟨0, 0, false⟩ : Filter), 2, 0⟩ : Route)] : List Route) 0 (⟨5, false, false, false, 0, []⟩ : Frame)).2 == 0) && ((gnewS ([(⟨0, 1, (⟨0, 0, false⟩ : Filter), 2, 0⟩ : Route)] : List Route)).2 == 0)) && ((gstepS (gnewS ([(⟨0, 1, (⟨0, 0, false⟩ : Filter), 2, 0⟩ : Route)] : List Route)).1 9 0 (⟨5, false, false, false, 0, []⟩ : Frame)).2.2 == 0)) && (((spreadS ([(⟨0, 1, (⟨0, 0, false⟩ : Filter), 2, 0⟩ : Route)] : List Route) 0 (⟨5, false, false, false, 0, []⟩ : Frame)).1.length : Int) == 1))) (by kernel_rfl) (.bool true) (by rw [u])
  refine g_ M true (.slice h (spreadS ([(⟨0, 1, (⟨0, 0, false⟩ : Filter), 2, 0⟩ : Route)] : List Route) 0 (⟨5, false, false, false, 0, []⟩ : Frame)).1.length i) ?_; intro cB an
  obtain ⟨bO, bf⟩ := bN
  refine ixo an a 3 (T := tyLine) (xs := (spreadS ([(⟨0, 1, (⟨0, 0, false⟩ : Filter), 2, 0⟩ : Route)] : List Route) 0 (⟨5, false, false, false, 0, []⟩ : Frame)).1) (0 : Int) bO (k := .i64) (e := 42) (bytes := 64) (wK an true) rfl (by kernel_rfl) rfl (by kernel_rfl) (by kernel_rfl) rfl (by kernel_rfl) ?_; intro bP cC bQ bg
  subst bQ
  refine bt bg a 2 [] [46, 47] [(47, .pointer (some ⟨bP, (0 : Int).toNat * 8 + 2 + 0, none⟩))] ?_; intro cD ao
  obtain ⟨y, bR, bh⟩ := gxq bf (by first | omega | (simp only [List.length_set] at *; omega))
  obtain ⟨cE, bS, bT⟩ := own_el a 3 (T := tyLine) (xs := (spreadS ([(⟨0, 1, (⟨0, 0, false⟩ : Filter), 2, 0⟩ : Route)] : List Route) 0 (⟨5, false, false, false, 0, []⟩ : Frame)).1) rfl (0 : Int).toNat bR
  obtain ⟨cF, cG, rfl, bU⟩ := bS
  have N := bh (bU.small)
  refine lc1 ao 48 (i6 y.F.ID) (bT 2 _ rfl) rfl ?_ (hw := (wK ao true)); intro cH bi
  refine bt bi a 8 [] [49, 50] [(56, .bool ((y.F.ID == 7) && (((gstepS (gnewS ([(⟨0, 1, (⟨0, 0, false⟩ : Filter), 2, 0⟩ : Route)] : List Route)).1 9 0 (⟨5, false, false, false, 0, []⟩ : Frame)).2.1.length : Int) == 1)))] ?_; intro cI O
  rcases Bool.eq_false_or_eq_true ((y.F.ID == 7) && (((gstepS (gnewS ([(⟨0, 1, (⟨0, 0, false⟩ : Filter), 2, 0⟩ : Route)] : List Route)).1 9 0 (⟨5, false, false, false, 0, []⟩ : Frame)).2.1.length : Int) == 1)) with z | z
  · -- true
   have bV := N.1 z
   have P := O.reval (d := 56) (c := []) (v := .bool ((y.F.ID == 7) && (((gstepS (gnewS ([(⟨0, 1, (⟨0, 0, false⟩ : Filter), 2, 0⟩ : Route)] : List Route)).1 9 0 (⟨5, false, false, false, 0, []⟩ : Frame)).2.1.length : Int) == 1))) (by kernel_rfl) (.bool true) (by rw [z])
   refine g_ P true (.slice s (gstepS (gnewS ([(⟨0, 1, (⟨0, 0, false⟩ : Filter), 2, 0⟩ : Route)] : List Route)).1 9 0 (⟨5, false, false, false, 0, []⟩ : Frame)).2.1.length p) ?_; intro cJ ap
   obtain ⟨bW, bj⟩ := bV
   refine ixo ap a 1 (T := tyLine) (xs := (gstepS (gnewS ([(⟨0, 1, (⟨0, 0, false⟩ : Filter), 2, 0⟩ : Route)] : List Route)).1 9 0 (⟨5, false, false, false, 0, []⟩ : Frame)).2.1) (0 : Int) bW (k := .i64) (e := 42) (bytes := 64) (wK ap true) rfl (by kernel_rfl) rfl (by kernel_rfl) (by kernel_rfl) rfl (by kernel_rfl) ?_; intro Q cK bX R
   subst bX
   refine g_ R true (.pointer (some ⟨Q, (0 : Int).toNat * 8 + 0, none⟩)) ?_; intro cL aq
   obtain ⟨A, bY, bk⟩ := gxq bj (by first | omega | (simp only [List.length_set] at *; omega))
   obtain ⟨cM, bZ, b0⟩ := own_el a 1 (T := tyLine) (xs := (gstepS (gnewS ([(⟨0, 1, (⟨0, 0, false⟩ : Filter), 2, 0⟩ : Route)] : List Route)).1 9 0 (⟨5, false, false, false, 0, []⟩ : Frame)).2.1) rfl (0 : Int).toNat bY
   obtain ⟨cN, cO, rfl, b1⟩ := bZ
   have S := bk (b1.small)
   refine lc1 aq 60 (i6 A.Time) (b0 0 _ rfl) rfl ?_ (hw := (wK aq true)); intro cP bl
   refine bt bl a 3 [] [61, 62] [(63, .bool (A.Time == 9))] ?_; intro cQ U
   rcases Bool.eq_false_or_eq_true (A.Time == 9) with B | B
   · -- true
    have b2 := S.1 B
    have V := U.reval (d := 63) (c := []) (v := .bool (A.Time == 9)) (by kernel_rfl) (.bool true) (by rw [B])
    refine g_ V true (.slice (sm Q) (gstepS (gnewS ([(⟨0, 1, (⟨0, 0, false⟩ : Filter), 2, 0⟩ : Route)] : List Route)).1 9 0 (⟨5, false, false, false, 0, []⟩ : Frame)).2.1.length p) ?_; intro cR ar
    obtain ⟨b3, bm⟩ := b2
    refine ixo ar a 1 (T := tyLine) (xs := (gstepS (gnewS ([(⟨0, 1, (⟨0, 0, false⟩ : Filter), 2, 0⟩ : Route)] : List Route)).1 9 0 (⟨5, false, false, false, 0, []⟩ : Frame)).2.1) (0 : Int) b3 (k := .i64) (e := 42) (bytes := 64) (wK ar true) rfl (by kernel_rfl) rfl (by kernel_rfl) (by kernel_rfl) rfl (by kernel_rfl) ?_; intro b4 cS b5 W
    obtain rfl : Q = b4 := by simpa using b5
    refine g_ W true (.pointer (some ⟨Q, (0 : Int).toNat * 8 + 1, none⟩)) ?_; intro cT au
    obtain ⟨X, b6, bn⟩ := gxq bm (by first | omega | (simp only [List.length_set] at *; omega))
    obtain ⟨cU, b8, b9⟩ := own_el a 1 (T := tyLine) (xs := (gstepS (gnewS ([(⟨0, 1, (⟨0, 0, false⟩ : Filter), 2, 0⟩ : Route)] : List Route)).1 9 0 (⟨5, false, false, false, 0, []⟩ : Frame)).2.1) rfl (0 : Int).toNat b6
    obtain ⟨cV, cW, rfl, ca⟩ := b8
    have cb := bn (ca.small)
    refine lc1 au 67 (i6 X.Bus) (b9 1 _ rfl) rfl ?_ (hw := (wK au true)); intro cX bo
    refine bt bo a 3 [] [68, 69] [(0, .bool (X.Bus == 1))] ?_; intro cY cc
    apply o
    exact r_ (ra1 cc (.bool (X.Bus == 1)) ⟨X.Bus == 1, rfl, cb, a.below⟩)
   · -- false
    have cd := S.2 B
    have bp := U.reval (d := 63) (c := []) (v := .bool (A.Time == 9)) (by kernel_rfl) (.bool false) (by rw [B])
    refine bt bp a 7 [] [64, 65, 66, 67, 68, 69] [(0, .bool false)] ?_; intro cZ ce
    apply o
    exact r_ (ra1 ce (.bool false) ⟨false, rfl, cd, a.below⟩)
  · -- false
   have cf := N.2 z
   have bq := O.reval (d := 56) (c := []) (v := .bool ((y.F.ID == 7) && (((gstepS (gnewS ([(⟨0, 1, (⟨0, 0, false⟩ : Filter), 2, 0⟩ : Route)] : List Route)).1 9 0 (⟨5, false, false, false, 0, []⟩ : Frame)).2.1.length : Int) == 1))) (by kernel_rfl) (.bool false) (by rw [z])
   refine bt bq a 14 [] [57, 58, 59, 60, 61, 62, 64, 65, 66, 67, 68, 69] [(0, .bool false)] ?_; intro c0 cg
   apply o
   exact r_ (ra1 cg (.bool false) ⟨false, rfl, cf, a.below⟩)
 · -- false
  have ch := I.2 u
  have br := L.reval (d := 43) (c := []) (v := .bool (((((spreadS ([(⟨0, 1, (⟨0, 0, false⟩ : Filter), 2, 0⟩ : Route)] : List Route) 0 (⟨5, false, false, false, 0, []⟩ : Frame)).2 == 0) && ((gnewS ([(⟨0, 1, (⟨0, 0, false⟩ : Filter), 2, 0⟩ : Route)] : List Route)).2 == 0)) && ((gstepS (gnewS ([(⟨0, 1, (⟨0, 0, false⟩ : Filter), 2, 0⟩ : Route)] : List Route)).1 9 0 (⟨5, false, false, false, 0, []⟩ : Frame)).2.2 == 0)) && (((spreadS ([(⟨0, 1, (⟨0, 0, false⟩ : Filter), 2, 0⟩ : Route)] : List Route) 0 (⟨5, false, false, false, 0, []⟩ : Frame)).1.length : Int) == 1))) (by kernel_rfl) (.bool false) (by rw [u])
  refine bt br a 27 [] [44, 45, 46, 47, 48, 49, 50, 52, 53, 54, 55, 57, 58, 59, 60, 61, 62, 64, 65, 66, 67, 68, 69] [(0, .bool false)] ?_; intro c1 ci
  apply o
  exact r_ (ra1 ci (.bool false) ⟨false, rfl, ch, a.below⟩)

end Go.Proofs.Ytmkdnaecmombnaa
set_option linter.unusedVariables false
set_option linter.unusedSimpArgs false
set_option linter.defProp false
set_option maxRecDepth 100000
set_option maxHeartbeats 0
namespace Go.Proofs.Ytmkdnaecmombnaa
open Go.Sy Go.RowKit
def routed_fun   (Z : Fz) (w : World)  (hZ : Z.on w) := f_ (routed_walk   Z w  hZ (routed_ok ))
def leqf_fun (u0 : List Line) (u1 : List Line) (u2 : Line → Line → Bool) (ao1 : Option Addr) (cap2 : Nat) (ao4 : Option Addr) (cap5 : Nat) (fid7 : Nat) (caps8 : Array Value) (Z : Fz) (w : World) (hs3 : SlR tyLine Z ao1 cap2 u0) (hs6 : SlR tyLine Z ao4 cap5 u1) (hf9 : ∀ (Z1 : Fz) (w1 : World), Z.le Z1 → Z1.on w1 → ∀ (x0 : Line) (x1 : Line) (xao0 : Option Addr) (xcap0 : Nat) (xao1 : Option Addr) (xcap1 : Nat), SlR t8 Z1 xao0 xcap0 x0.F.Data → SlR t8 Z1 xao1 xcap1 x1.F.Data → Calls Try.prog fid7 (#[.agg #[i6 x0.Time, i6 x0.Bus, i6 x0.F.ID, .bool x0.F.Long, .bool x0.F.Fast, .bool x0.F.Remote, i6 x0.F.Size, .slice xao0 x0.F.Data.length xcap0], .agg #[i6 x1.Time, i6 x1.Bus, i6 x1.F.ID, .bool x1.F.Long, .bool x1.F.Fast, .bool x1.F.Remote, i6 x1.F.Size, .slice xao1 x1.F.Data.length xcap1]] ++ caps8) w1 fun e w2 => e = .returned (.bool (u2 x0 x1)) ∧ Below w1.heap.size w1 w2) (hg10 : ∀ x w, Sem.run Try.prog (callFunc fid7 x) w = .ok (.enter fid7 x) w) (hZ : Z.on w) := f_ (leqf_walk u0 u1 u2 ao1 cap2 ao4 cap5 fid7 caps8 Z w hs3 hs6 hf9 hg10 hZ (leqf_ok u0 u1 u2))
theorem samel_walk (u0 : List Line) (u1 : List Line) (ao1 : Option Addr) (cap2 : Nat) (ao4 : Option Addr) (cap5 : Nat) (Z : Fz) (w : World) (hs3 : SlR tyLine Z ao1 cap2 u0) (hs6 : SlR tyLine Z ao4 cap5 u1) (hZ : Z.on w) {K : Bool → Prop} (hp : samel_vc u0 u1 K) : Calls Try.prog 23 #[.slice ao1 u0.length cap2, .slice ao4 u1.length cap5] w fun e w' => ∃ r : Bool, e = .returned (.bool r) ∧ K r ∧ Below w.heap.size w w' := by
 refine enter0 Try.func23 rfl rfl (by kernel_rfl) ?_; intro m b; have a := Mem.start w Z hZ
 have i := hp (hs3.small) (hs6.small)
 refine sqB b a [] [] [] ?_; intro o d
 refine sqH ?_; intro j f
 refine bt d a 2 [] [] [(5, .slice ao1 u0.length cap2), (6, .slice ao4 u1.length cap5)] ?_; intro p g
 refine fc g a (leqf_fun u0 u1 (fun x0 x1 => slin1 x0 x1 ) ao1 cap2 ao4 cap5 45 #[] _ _ hs3 hs6 (fun Z1 w1 h1 h2 x0 x1 m0 n0 m1 n1 s0 s1 => slin1_fun x0 x1  m0 n0 m1 n1 Z1 w1 s0 s1 h2) (fun _ _ => by kernel_rfl) a.fz) ?_; intro q s h k
 refine s1 h 4 (.bool (leqfS u0 u1 (fun x0 x1 => slin1 x0 x1 ))) ?_; intro t l
 apply f
 exact r_ (ra1 l (.bool (leqfS u0 u1 (fun x0 x1 => slin1 x0 x1 ))) ⟨(leqfS u0 u1 (fun x0 x1 => slin1 x0 x1 )), rfl, i, k.below⟩)

end Go.Proofs.Ytmkdnaecmombnaa
set_option linter.unusedVariables false
set_option linter.unusedSimpArgs false
set_option linter.defProp false
set_option maxRecDepth 100000
set_option maxHeartbeats 0
namespace Go.Proofs.Ytmkdnaecmombnaa
open Go.Sy Go.RowKit
abbrev e25M (X : Frame) (A0 : Option Addr) (C0 : Nat) : List Value := [i6 X.ID, .bool X.Long, .bool X.Fast, .bool X.Remote, i6 X.Size, .slice A0 X.Data.length C0]
abbrev e29M (X : Route) : List Value := [i6 X.From, i6 X.To, i6 X.F.Want, i6 X.F.Mask, .bool X.F.Long, i6 X.Add, i6 X.Every]
def samel_fun (u0 : List Line) (u1 : List Line) (ao1 : Option Addr) (cap2 : Nat) (ao4 : Option Addr) (cap5 : Nat) (Z : Fz) (w : World) (hs3 : SlR tyLine Z ao1 cap2 u0) (hs6 : SlR tyLine Z ao4 cap5 u1) (hZ : Z.on w) := f_ (samel_walk u0 u1 ao1 cap2 ao4 cap5 Z w hs3 hs6 hZ (samel_ok u0 u1))
theorem LStep_walk (u0 : Gate) (u1 : Int) (u2 : Int) (u3 : Frame) (ao1 : Option Addr) (cap2 : Nat) (ao4 : Option Addr) (cap5 : Nat) (ao7 : Option Addr) (cap8 : Nat) (Z : Fz) (w : World) (hs3 : SlR tyRoute Z ao1 cap2 u0.Routes) (hs6 : SlR t6 Z ao4 cap5 u0.Last) (hs9 : SlR t8 Z ao7 cap8 u3.Data) (hZ : Z.on w) {K : Bool → Prop} (hp : LStep_vc u0 u1 u2 u3 K) : Calls Try.prog 5 #[.agg #[.slice ao1 u0.Routes.length cap2, .slice ao4 u0.Last.length cap5], i6 u1, i6 u2, .agg #[i6 u3.ID, .bool u3.Long, .bool u3.Fast, .bool u3.Remote, i6 u3.Size, .slice ao7 u3.Data.length cap8]] w fun e w' => ∃ r : Bool, e = .returned (.bool r) ∧ K r ∧ Below w.heap.size w w' := by
 refine enter0 Try.func5 rfl rfl (by kernel_rfl) ?_; intro a0 gq; have gr := Mem.start w Z hZ
 have gu := hp (hs3.small) (hs6.small) (hs9.small)
 refine sqH ?_; intro os gv
 refine nw gq gr pb [.slice ao1 u0.Routes.length cap2, .slice ao4 u0.Last.length cap5] 37 ?_; intro l tw tx gw gx
 refine nw gw gx pb [i6 u1] 3 ?_; intro aa tz tA gy gz
 refine nw gy gz pb (e25M u3 ao7 cap8) 25 ?_; intro I tB tC gA cZ
 refine s1 gA 8 (.bool false) ?_; intro tD gB
 apply gv
 refine sqH ?_; intro ot gC
 refine bt gB cZ 4 [2, 1, 0] [] [(23, .agg #[.slice ao1 u0.Routes.length cap2, .slice ao4 u0.Last.length cap5]), (24, i6 u1), (25, i6 u2), (26, .agg (e25M u3 ao7 cap8).toArray)] ?_; intro tE gD
 refine ck gD 10 #[.agg #[.slice ao1 u0.Routes.length cap2, .slice ao4 u0.Last.length cap5], i6 u1, i6 u2, .agg (e25M u3 ao7 cap8).toArray] ?_
 refine (gstepf_fun u0 u1 u2 u3 ao1 cap2 ao4 cap5 ao7 cap8 _ _ hs3 hs6 hs9 cZ.fz).mono ?_; rintro _ ou ⟨C, D, E, H, p, q, gE, rfl, am, an, hm⟩; refine ⟨_, rfl, ?_⟩; intro tF gF; have gG := cZ.callZ hm; have c0 := hm.ext.le
 replace hs3 := hs3.mono c0
 replace hs6 := hs6.mono c0
 replace hs9 := hs9.mono c0
 have c1 : Mem w.heap.size [] w Z [.own tyLine 42 p q (gstepS u0 u1 u2 u3).2.1, .row I (e25M u3 ao7 cap8) 25, .row aa [i6 u1] 3, .row l [.slice ao1 u0.Routes.length cap2, .slice ao4 u0.Last.length cap5] 37] gE ou := gG
 have ov := gu (c1.ownSmall 0 rfl) (am.small) (an.small)
 refine bt gF c1 4 [] [] [(28, .agg #[.slice C (gstepS u0 u1 u2 u3).1.Routes.length D, .slice E (gstepS u0 u1 u2 u3).1.Last.length H]), (29, .slice p (gstepS u0 u1 u2 u3).2.1.length q), (30, i6 (gstepS u0 u1 u2 u3).2.2)] ?_; intro tG gJ
 refine nw gJ c1 pb [.slice none 0 0, .slice none 0 0] 37 ?_; intro y tH tI ec gK
 refine sx ec gK 0 [.slice C (gstepS u0 u1 u2 u3).1.Routes.length D, .slice E (gstepS u0 u1 u2 u3).1.Last.length H] 0 ?_; intro ow ed
 refine bt ec ed 2 [] [] [(10, .slice p (gstepS u0 u1 u2 u3).2.1.length q), (11, i6 (gstepS u0 u1 u2 u3).2.2)] ?_; intro tJ gL
 have c2 : Mem w.heap.size [] w Z [.row y [.slice C (gstepS u0 u1 u2 u3).1.Routes.length D, .slice E (gstepS u0 u1 u2 u3).1.Last.length H] 37, .own tyLine 42 p q (gstepS u0 u1 u2 u3).2.1, .row I (e25M u3 ao7 cap8) 25, .row aa [i6 u1] 3, .row l [.slice ao1 u0.Routes.length cap2, .slice ao4 u0.Last.length cap5] 37] gE ow := ed
 apply gC
 refine sqH ?_; intro ox gM
 refine bt gL c2 2 [4] [] [(33, .slice ao1 u0.Routes.length cap2)] ?_; intro tK gN
 obtain ⟨oy, gO⟩ := ov
 refine ck gN 9 #[.slice ao1 u0.Routes.length cap2] ?_
 refine (gnew_fun u0.Routes oy ao1 cap2 _ _ hs3 c2.fz).mono ?_; rintro _ oz ⟨N, O, P, Q, bY, rfl, ar, au, hm⟩; refine ⟨_, rfl, ?_⟩; intro tL gP; have gQ := c2.callZ hm; have cr := hm.ext.le
 replace hs3 := hs3.mono cr
 replace hs6 := hs6.mono cr
 replace hs9 := hs9.mono cr
 replace am := am.mono cr
 replace an := an.mono cr
 have ee : Mem w.heap.size [] w Z [.row y [.slice C (gstepS u0 u1 u2 u3).1.Routes.length D, .slice E (gstepS u0 u1 u2 u3).1.Last.length H] 37, .own tyLine 42 p q (gstepS u0 u1 u2 u3).2.1, .row I (e25M u3 ao7 cap8) 25, .row aa [i6 u1] 3, .row l [.slice ao1 u0.Routes.length cap2, .slice ao4 u0.Last.length cap5] 37] bY oz := gQ
 have oA := gO (ar.small) (au.small)
 refine bt gP ee 3 [] [] [(35, .agg #[.slice N (gnewS u0.Routes).1.Routes.length O, .slice P (gnewS u0.Routes).1.Last.length Q]), (36, i6 (gnewS u0.Routes).2)] ?_; intro tM gS
 refine nw gS ee pb [.slice none 0 0, .slice none 0 0] 37 ?_; intro X tN tO ef gT
 refine sx ef gT 0 [.slice N (gnewS u0.Routes).1.Routes.length O, .slice P (gnewS u0.Routes).1.Last.length Q] 0 ?_; intro oB gU
 refine s1 ef 13 (i6 (gnewS u0.Routes).2) ?_; intro tP gV
 have c3 : Mem w.heap.size [] w Z [.row X [.slice N (gnewS u0.Routes).1.Routes.length O, .slice P (gnewS u0.Routes).1.Last.length Q] 37, .row y [.slice C (gstepS u0 u1 u2 u3).1.Routes.length D, .slice E (gstepS u0 u1 u2 u3).1.Last.length H] 37, .own tyLine 42 p q (gstepS u0 u1 u2 u3).2.1, .row I (e25M u3 ao7 cap8) 25, .row aa [i6 u1] 3, .row l [.slice ao1 u0.Routes.length cap2, .slice ao4 u0.Last.length cap5] 37] bY oB := gU
 apply gM
 refine sqH ?_; intro oC gW
 refine l2 gV c3 37 5 0 2 [.slice ao1 u0.Routes.length cap2, .slice ao4 u0.Last.length cap5] rfl rfl ?_; intro tQ gX
 refine fc gX c3 (rcheckg_fun u0 ao1 cap2 ao4 cap5 _ _ hs3 hs6 c3.fz) ?_; intro tR tS gY eg
 refine s1 gY 14 (i6 (gcheckS u0)) ?_; intro tT gZ
 apply gW
 refine sqH ?_; intro oD g0
 refine bt gZ eg 3 [5] [] [(41, .agg #[.slice ao1 u0.Routes.length cap2, .slice none 0 0])] ?_; intro tU g1
 refine nw g1 eg pb [.slice none 0 0, .slice none 0 0] 37 ?_; intro Y tV tW eh g2
 refine sx eh g2 0 [.slice ao1 u0.Routes.length cap2, .slice none 0 0] 0 ?_; intro g3 g4
 have ei : Mem w.heap.size [] w Z [.row Y [.slice ao1 u0.Routes.length cap2, .slice none 0 0] 37, .row X [.slice N (gnewS u0.Routes).1.Routes.length O, .slice P (gnewS u0.Routes).1.Last.length Q] 37, .row y [.slice C (gstepS u0 u1 u2 u3).1.Routes.length D, .slice E (gstepS u0 u1 u2 u3).1.Last.length H] 37, .own tyLine 42 p q (gstepS u0 u1 u2 u3).2.1, .row I (e25M u3 ao7 cap8) 25, .row aa [i6 u1] 3, .row l [.slice ao1 u0.Routes.length cap2, .slice ao4 u0.Last.length cap5] 37] bY g3 := g4
 apply g0
 refine s_ (sqB eh ei [6] [] [(44, i6 (u0.Routes.length : Int)), (45, i6 0)] ?_); intro g5 g6
 apply b_
 have g7 : Fr 200 [] [⟨2, [], i6 u2⟩, ⟨4, [], pt l 0⟩, ⟨5, [], pt aa 0⟩, ⟨7, [], pt I 0⟩, ⟨9, [], pt y 0⟩, ⟨10, [], .slice p (gstepS u0 u1 u2 u3).2.1.length q⟩, ⟨11, [], i6 (gstepS u0 u1 u2 u3).2.2⟩, ⟨12, [], pt X 0⟩, ⟨13, [], i6 (gnewS u0.Routes).2⟩, ⟨14, [], i6 (gcheckS u0)⟩, ⟨15, [], pt Y 0⟩, ⟨44, [], i6 (u0.Routes.length : Int)⟩, ⟨45, [], i6 0⟩] g5 := g6.reg
 have g8 : Mem w.heap.size [] w Z [.own t6 3 none 0 ([] : List Int), .row Y [.slice ao1 u0.Routes.length cap2, .slice none 0 0] 37, .row X [.slice N (gnewS u0.Routes).1.Routes.length O, .slice P (gnewS u0.Routes).1.Last.length Q] 37, .row y [.slice C (gstepS u0 u1 u2 u3).1.Routes.length D, .slice E (gstepS u0 u1 u2 u3).1.Last.length H] 37, .own tyLine 42 p q (gstepS u0 u1 u2 u3).2.1, .row I (e25M u3 ao7 cap8) 25, .row aa [i6 u1] 3, .row l [.slice ao1 u0.Routes.length cap2, .slice ao4 u0.Last.length cap5] 37] bY g3 := ei.addNil t6 3 (by decide)
 have g9 : Fr 200 [] [⟨2, [], i6 u2⟩, ⟨4, [], pt l 0⟩, ⟨5, [], pt aa 0⟩, ⟨7, [], pt I 0⟩, ⟨9, [], pt y 0⟩, ⟨10, [], .slice p (gstepS u0 u1 u2 u3).2.1.length q⟩, ⟨11, [], i6 (gstepS u0 u1 u2 u3).2.2⟩, ⟨12, [], pt X 0⟩, ⟨13, [], i6 (gnewS u0.Routes).2⟩, ⟨14, [], i6 (gcheckS u0)⟩, ⟨15, [], pt Y 0⟩, ⟨44, [], i6 (u0.Routes.length : Int)⟩, ⟨45, [], i6 0⟩] g5 := g7.reg
 obtain ⟨oE, oF, oG, oH⟩ := oA
 refine lp (ι := Int × Gate × (Option Addr) × Nat × (Option Addr) × Nat) (fun s => [⟨2, [], i6 u2⟩, ⟨4, [], pt l 0⟩, ⟨5, [], pt aa 0⟩, ⟨7, [], pt I 0⟩, ⟨9, [], pt y 0⟩, ⟨10, [], .slice p (gstepS u0 u1 u2 u3).2.1.length q⟩, ⟨11, [], i6 (gstepS u0 u1 u2 u3).2.2⟩, ⟨12, [], pt X 0⟩, ⟨13, [], i6 (gnewS u0.Routes).2⟩, ⟨14, [], i6 (gcheckS u0)⟩, ⟨15, [], pt Y 0⟩, ⟨44, [], i6 (u0.Routes.length : Int)⟩, ⟨45, [], i6 s.1⟩]) (fun s => [.own t6 3 s.2.2.2.2.1 s.2.2.2.2.2 s.2.1.Last, .row Y [.slice s.2.2.1 s.2.1.Routes.length s.2.2.2.1, .slice s.2.2.2.2.1 s.2.1.Last.length s.2.2.2.2.2] 37, .row X [.slice N (gnewS u0.Routes).1.Routes.length O, .slice P (gnewS u0.Routes).1.Last.length Q] 37, .row y [.slice C (gstepS u0 u1 u2 u3).1.Routes.length D, .slice E (gstepS u0 u1 u2 u3).1.Last.length H] 37, .own tyLine 42 p q (gstepS u0 u1 u2 u3).2.1, .row I (e25M u3 ao7 cap8) 25, .row aa [i6 u1] 3, .row l [.slice ao1 u0.Routes.length cap2, .slice ao4 u0.Last.length cap5] 37]) (fun s => bY) (fun s => oE s.1 s.2.1 ∧ SlR tyRoute bY s.2.2.1 s.2.2.2.1 s.2.1.Routes) (fun s => oF s.1 s.2.1) ⟨0, (⟨u0.Routes, ([] : List Int)⟩ : Gate), ao1, cap2, none, 0⟩ ⟨oG, hs3⟩ (by exact g9.reg) (by exact g8) ?_
 rintro ⟨ct, j, R, U, V, W⟩ ⟨oI, av⟩ oJ oK ha hb
 have c4 := oH ct j oI
 refine sqB ha hb [] [] [(46, .bool (decide (ct < (u0.Routes.length : Int))))] ?_; intro tX cG
 refine s_ (c_ cG c4 (fun _ oL => ?_) fun _ c5 => ?_)
 ·
  refine k_ (s_ (b_ (rgH ?_))); intro oM hd
  refine bt cG hb 2 [1] [] [(48, .slice V j.Last.length W)] ?_; intro tY he
  refine nw he hb (fun b => .slice (sm b) 1 1) [i6 (-1)] 3 ?_; intro ek tZ t0 hf el
  obtain ⟨oN, hh⟩ := oL
  refine ap hf el 1 (T := t6) (xs := j.Last) (ys := [-1]) (ao := V) (cap := W) (ao2 := (sm ek)) (cap2 := 1) (t := 35) (e := 3) (bytes := 8) (nog rfl _) rfl (by kernel_rfl) rfl (by kernel_rfl) (by kernel_rfl) (by kernel_rfl) rfl (Src.row el 0 rfl (RepAll.one (T := t6) (x := (-1)) rfl)) oN ?_; intro cH cI t1 oO t2 hj hk
  have hl : Mem w.heap.size [] w Z [.row ek [i6 (-1)] 3, .own t6 3 cH cI (j.Last ++ [-1]), .row Y [.slice R j.Routes.length U, .slice V j.Last.length W] 37, .row X [.slice N (gnewS u0.Routes).1.Routes.length O, .slice P (gnewS u0.Routes).1.Last.length Q] 37, .row y [.slice C (gstepS u0 u1 u2 u3).1.Routes.length D, .slice E (gstepS u0 u1 u2 u3).1.Last.length H] 37, .own tyLine 42 p q (gstepS u0 u1 u2 u3).2.1, .row I (e25M u3 ao7 cap8) 25, .row aa [i6 u1] 3, .row l [.slice ao1 u0.Routes.length cap2, .slice ao4 u0.Last.length cap5] 37] bY oO := hk
  refine s1 hj 51 (pt Y 1) ?_; intro t3 em
  refine sx em hl 2 [.slice R j.Routes.length U, .slice cH (j.Last ++ [-1]).length cI] 1 ?_; intro oP hn
  have ho : Mem w.heap.size [] w Z [.row ek [i6 (-1)] 3, .own t6 3 cH cI (j.Last ++ [-1]), .row Y [.slice R j.Routes.length U, .slice cH (j.Last ++ [-1]).length cI] 37, .row X [.slice N (gnewS u0.Routes).1.Routes.length O, .slice P (gnewS u0.Routes).1.Last.length Q] 37, .row y [.slice C (gstepS u0 u1 u2 u3).1.Routes.length D, .slice E (gstepS u0 u1 u2 u3).1.Last.length H] 37, .own tyLine 42 p q (gstepS u0 u1 u2 u3).2.1, .row I (e25M u3 ao7 cap8) 25, .row aa [i6 u1] 3, .row l [.slice ao1 u0.Routes.length cap2, .slice ao4 u0.Last.length cap5] 37] bY oP := hn
  apply hd
  refine j_ (t_ (rgB em ho [] [] [(45, i6 (w64 (ct + 1)))] ?_)); intro t4 oQ
  exact d_ ⟨⟨w64 (ct + 1), (⟨j.Routes, j.Last ++ [-1]⟩ : Gate), R, U, cH, cI⟩, ⟨hh.1, av⟩, hh.2, (oQ.reg).anyβ _ (by kernel_rfl), ho.kp⟩
 refine x_ (y_ (y_ (z_ (t_ (s_ (sqH ?_)))))); intro oR hq
 refine fc cG hb (routed_fun  _ _ hb.fz) ?_; intro t5 t7 hr c6
 refine bt hr c6 3 [7] [56] [(55, .bool false), (56, .agg #[.slice ao1 u0.Routes.length cap2, .slice ao4 u0.Last.length cap5])] ?_; intro t9 en
 refine fcl en c6 (i6 (gcheckS u0)) 16 #[.agg #[.slice ao1 u0.Routes.length cap2, .slice ao4 u0.Last.length cap5]] (wK en false) rfl (by kernel_rfl) (fun _ => by kernel_rfl) (gcheck_fun u0 ao1 cap2 ao4 cap5 _ _ hs3 hs6 c6.fz) ?_; intro ua oS c7 ht
 refine g_ c7 false (i6 (gcheckS u0)) ?_; intro ub c8
 refine g_ c8 false (.bool ((gcheckS u0) != (gcheckS u0))) ?_; intro uc hu
 refine s1 hu 60 (.bool ((gcheckS u0) != (gcheckS u0))) ?_; intro ud hv
 refine s1 hv 61 (.bool ((gcheckS u0) != (gcheckS u0))) ?_; intro ue hw
 have hx := hw.atom (((gcheckS u0) != (gcheckS u0)) == false) (by kernel_rfl)
 refine gp hx 62 0 [] ((gcheckS u0) != (gcheckS u0)) (i6 (gnewS u0.Routes).2) rfl rfl ?_; intro uf eo
 refine gd eo (.agg #[.slice R j.Routes.length U, .slice V j.Last.length W]) (m := 0) (cj := []) (bj := (gcheckS u0) != (gcheckS u0)) rfl rfl (by kernel_rfl) rfl (by kernel_rfl) (by kernel_rfl) (by kernel_rfl) (fun hg => lda eo ht 1 (g := [0]) (b := Y) (off := 0) (k := 2) (cs := [.slice R j.Routes.length U, .slice V j.Last.length W]) (vs := [.slice R j.Routes.length U, .slice V j.Last.length W]) (ty := 37) rfl (by kernel_rfl) (by kernel_rfl) (by kernel_rfl) (by kernel_rfl) (by kernel_rfl) hg) ?_; intro ug hy
 obtain ⟨oT, bZ, hz, az⟩ := ht.freeze 0 rfl
 replace hs3 := hs3.mono bZ
 replace hs6 := hs6.mono bZ
 replace hs9 := hs9.mono bZ
 replace am := am.mono bZ
 replace an := an.mono bZ
 replace ar := ar.mono bZ
 replace au := au.mono bZ
 replace av := av.mono bZ
 have ep : Mem w.heap.size [] w Z [.row Y [.slice R j.Routes.length U, .slice V j.Last.length W] 37, .row X [.slice N (gnewS u0.Routes).1.Routes.length O, .slice P (gnewS u0.Routes).1.Last.length Q] 37, .row y [.slice C (gstepS u0 u1 u2 u3).1.Routes.length D, .slice E (gstepS u0 u1 u2 u3).1.Last.length H] 37, .own tyLine 42 p q (gstepS u0 u1 u2 u3).2.1, .row I (e25M u3 ao7 cap8) 25, .row aa [i6 u1] 3, .row l [.slice ao1 u0.Routes.length cap2, .slice ao4 u0.Last.length cap5] 37] oT oS := hz
 refine gcl hy ep (i6 (gcheckS j)) 15 #[.agg #[.slice R j.Routes.length U, .slice V j.Last.length W]] (m := 0) (cj := []) (bj := (gcheckS u0) != (gcheckS u0)) rfl rfl (by kernel_rfl) rfl (by kernel_rfl) (by kernel_rfl) (by kernel_rfl) (fun _ => by kernel_rfl) (fun hg => rcheckg_fun j R U V W _ _ av az ep.fz) ?_; intro uh ui hA cJ
 refine gp hA 65 0 [] ((gcheckS u0) != (gcheckS u0)) (.bool ((gnewS u0.Routes).2 != (gcheckS j))) rfl rfl ?_; intro uj eq
 refine u_ eq (.bool (((gcheckS u0) != (gcheckS u0)) || ((gnewS u0.Routes).2 != (gcheckS j)))) (pk_or eq (g := []) (m := 0) (b := (gcheckS u0) != (gcheckS u0)) (v := (gnewS u0.Routes).2 != (gcheckS j)) rfl (by kernel_rfl) (by kernel_rfl) (by kernel_rfl) rfl) ?_; intro uk hB
 refine s1 hB 67 (.bool (((gcheckS u0) != (gcheckS u0)) || ((gnewS u0.Routes).2 != (gcheckS j)))) ?_; intro ul hD
 have hF := hD.atom ((((gcheckS u0) != (gcheckS u0)) || ((gnewS u0.Routes).2 != (gcheckS j))) == false) (by kernel_rfl)
 refine gp hF 68 1 [] (((gcheckS u0) != (gcheckS u0)) || ((gnewS u0.Routes).2 != (gcheckS j))) (i6 (gnewS u0.Routes).2) rfl rfl ?_; intro um hH
 refine gp hH 69 1 [] (((gcheckS u0) != (gcheckS u0)) || ((gnewS u0.Routes).2 != (gcheckS j))) (.bool ((gnewS u0.Routes).2 == 0)) rfl rfl ?_; intro un hK
 refine gp hK 70 1 [] (((gcheckS u0) != (gcheckS u0)) || ((gnewS u0.Routes).2 != (gcheckS j))) (.bool ((gnewS u0.Routes).2 == 0)) rfl rfl ?_; intro uo hL
 have er := hL.atom (((gnewS u0.Routes).2 == 0) == true) (by kernel_rfl)
 refine gd er (.agg #[.slice N (gnewS u0.Routes).1.Routes.length O, .slice P (gnewS u0.Routes).1.Last.length Q]) (m := 2) (cj := [1]) (bj := (gnewS u0.Routes).2 == 0) rfl rfl (by kernel_rfl) rfl (by kernel_rfl) (by kernel_rfl) (by kernel_rfl) (fun hg => lda er cJ 1 (g := [2, 1]) (b := X) (off := 0) (k := 2) (cs := [.slice N (gnewS u0.Routes).1.Routes.length O, .slice P (gnewS u0.Routes).1.Last.length Q]) (vs := [.slice N (gnewS u0.Routes).1.Routes.length O, .slice P (gnewS u0.Routes).1.Last.length Q]) (ty := 37) rfl (by kernel_rfl) (by kernel_rfl) (by kernel_rfl) (by kernel_rfl) (by kernel_rfl) hg) ?_; intro up es
 refine gd es (.agg #[.slice R j.Routes.length U, .slice V j.Last.length W]) (m := 2) (cj := [1]) (bj := (gnewS u0.Routes).2 == 0) rfl rfl (by kernel_rfl) rfl (by kernel_rfl) (by kernel_rfl) (by kernel_rfl) (fun hg => lda es cJ 0 (g := [2, 1]) (b := Y) (off := 0) (k := 2) (cs := [.slice R j.Routes.length U, .slice V j.Last.length W]) (vs := [.slice R j.Routes.length U, .slice V j.Last.length W]) (ty := 37) rfl (by kernel_rfl) (by kernel_rfl) (by kernel_rfl) (by kernel_rfl) (by kernel_rfl) hg) ?_; intro uq hM
 refine gcl hM cJ (.bool (samegS (gnewS u0.Routes).1 j)) 17 #[.agg #[.slice N (gnewS u0.Routes).1.Routes.length O, .slice P (gnewS u0.Routes).1.Last.length Q], .agg #[.slice R j.Routes.length U, .slice V j.Last.length W]] (m := 2) (cj := [1]) (bj := (gnewS u0.Routes).2 == 0) rfl rfl (by kernel_rfl) rfl (by kernel_rfl) (by kernel_rfl) (by kernel_rfl) (fun _ => by kernel_rfl) (fun hg => sameg_fun (gnewS u0.Routes).1 j N O P Q R U V W _ _ ar au av az cJ.fz) ?_; intro ur us hN c9
 refine gp hN 74 2 [1] ((gnewS u0.Routes).2 == 0) (.bool (!(samegS (gnewS u0.Routes).1 j))) rfl rfl ?_; intro ut et
 refine gd et (.bool (((gnewS u0.Routes).2 == 0) && (!(samegS (gnewS u0.Routes).1 j)))) (m := 1) (cj := []) (bj := ((gcheckS u0) != (gcheckS u0)) || ((gnewS u0.Routes).2 != (gcheckS j))) rfl rfl (by kernel_rfl) rfl (by kernel_rfl) (by kernel_rfl) (by kernel_rfl) (fun hg => pk_and et (g := [1]) (m := 2) (b := (gnewS u0.Routes).2 == 0) (v := !(samegS (gnewS u0.Routes).1 j)) rfl (by kernel_rfl) (by kernel_rfl) (by kernel_rfl) hg) ?_; intro uu eu
 refine u_ eu (.bool ((((gcheckS u0) != (gcheckS u0)) || ((gnewS u0.Routes).2 != (gcheckS j))) || (((gnewS u0.Routes).2 == 0) && (!(samegS (gnewS u0.Routes).1 j))))) (pk_or eu (g := []) (m := 1) (b := ((gcheckS u0) != (gcheckS u0)) || ((gnewS u0.Routes).2 != (gcheckS j))) (v := ((gnewS u0.Routes).2 == 0) && (!(samegS (gnewS u0.Routes).1 j))) rfl (by kernel_rfl) (by kernel_rfl) (by kernel_rfl) rfl) ?_; intro uv hO
 refine s1 hO 77 (.bool ((((gcheckS u0) != (gcheckS u0)) || ((gnewS u0.Routes).2 != (gcheckS j))) || (((gnewS u0.Routes).2 == 0) && (!(samegS (gnewS u0.Routes).1 j))))) ?_; intro uw hP
 have hQ := hP.atom (((((gcheckS u0) != (gcheckS u0)) || ((gnewS u0.Routes).2 != (gcheckS j))) || (((gnewS u0.Routes).2 == 0) && (!(samegS (gnewS u0.Routes).1 j)))) == false) (by kernel_rfl)
 refine gp hQ 78 3 [] ((((gcheckS u0) != (gcheckS u0)) || ((gnewS u0.Routes).2 != (gcheckS j))) || (((gnewS u0.Routes).2 == 0) && (!(samegS (gnewS u0.Routes).1 j)))) (i6 (gnewS u0.Routes).2) rfl rfl ?_; intro ux hR
 refine gp hR 79 3 [] ((((gcheckS u0) != (gcheckS u0)) || ((gnewS u0.Routes).2 != (gcheckS j))) || (((gnewS u0.Routes).2 == 0) && (!(samegS (gnewS u0.Routes).1 j)))) (.bool ((gnewS u0.Routes).2 != 0)) rfl rfl ?_; intro uy hT
 refine gp hT 80 3 [] ((((gcheckS u0) != (gcheckS u0)) || ((gnewS u0.Routes).2 != (gcheckS j))) || (((gnewS u0.Routes).2 == 0) && (!(samegS (gnewS u0.Routes).1 j)))) (.bool ((gnewS u0.Routes).2 != 0)) rfl rfl ?_; intro uz hU
 have ev := hU.atom (((gnewS u0.Routes).2 != 0) == true) (by kernel_rfl)
 refine gd ev (.agg #[.slice N (gnewS u0.Routes).1.Routes.length O, .slice P (gnewS u0.Routes).1.Last.length Q]) (m := 4) (cj := [3]) (bj := (gnewS u0.Routes).2 != 0) rfl rfl (by kernel_rfl) rfl (by kernel_rfl) (by kernel_rfl) (by kernel_rfl) (fun hg => lda ev c9 1 (g := [4, 3]) (b := X) (off := 0) (k := 2) (cs := [.slice N (gnewS u0.Routes).1.Routes.length O, .slice P (gnewS u0.Routes).1.Last.length Q]) (vs := [.slice N (gnewS u0.Routes).1.Routes.length O, .slice P (gnewS u0.Routes).1.Last.length Q]) (ty := 37) rfl (by kernel_rfl) (by kernel_rfl) (by kernel_rfl) (by kernel_rfl) (by kernel_rfl) hg) ?_; intro uA hV
 refine gp hV 82 4 [3] ((gnewS u0.Routes).2 != 0) (.agg #[.slice none 0 0, .slice none 0 0]) rfl rfl ?_; intro uB hW
 refine gcl hW c9 (.bool (samegS (gnewS u0.Routes).1 (⟨[], []⟩ : Gate))) 17 #[.agg #[.slice N (gnewS u0.Routes).1.Routes.length O, .slice P (gnewS u0.Routes).1.Last.length Q], .agg #[.slice none 0 0, .slice none 0 0]] (m := 4) (cj := [3]) (bj := (gnewS u0.Routes).2 != 0) rfl rfl (by kernel_rfl) rfl (by kernel_rfl) (by kernel_rfl) (by kernel_rfl) (fun _ => by kernel_rfl) (fun hg => sameg_fun (gnewS u0.Routes).1 (⟨[], []⟩ : Gate) N O P Q none 0 none 0 _ _ ar au (SlR.nil _ _) (SlR.nil _ _) c9.fz) ?_; intro uC oU hX aT
 refine gp hX 84 4 [3] ((gnewS u0.Routes).2 != 0) (.bool (!(samegS (gnewS u0.Routes).1 (⟨[], []⟩ : Gate)))) rfl rfl ?_; intro uD ew
 refine gd ew (.bool (((gnewS u0.Routes).2 != 0) && (!(samegS (gnewS u0.Routes).1 (⟨[], []⟩ : Gate))))) (m := 3) (cj := []) (bj := (((gcheckS u0) != (gcheckS u0)) || ((gnewS u0.Routes).2 != (gcheckS j))) || (((gnewS u0.Routes).2 == 0) && (!(samegS (gnewS u0.Routes).1 j)))) rfl rfl (by kernel_rfl) rfl (by kernel_rfl) (by kernel_rfl) (by kernel_rfl) (fun hg => pk_and ew (g := [3]) (m := 4) (b := (gnewS u0.Routes).2 != 0) (v := !(samegS (gnewS u0.Routes).1 (⟨[], []⟩ : Gate))) rfl (by kernel_rfl) (by kernel_rfl) (by kernel_rfl) hg) ?_; intro uE ex
 refine u_ ex (.bool (((((gcheckS u0) != (gcheckS u0)) || ((gnewS u0.Routes).2 != (gcheckS j))) || (((gnewS u0.Routes).2 == 0) && (!(samegS (gnewS u0.Routes).1 j)))) || (((gnewS u0.Routes).2 != 0) && (!(samegS (gnewS u0.Routes).1 (⟨[], []⟩ : Gate)))))) (pk_or ex (g := []) (m := 3) (b := (((gcheckS u0) != (gcheckS u0)) || ((gnewS u0.Routes).2 != (gcheckS j))) || (((gnewS u0.Routes).2 == 0) && (!(samegS (gnewS u0.Routes).1 j)))) (v := ((gnewS u0.Routes).2 != 0) && (!(samegS (gnewS u0.Routes).1 (⟨[], []⟩ : Gate)))) rfl (by kernel_rfl) (by kernel_rfl) (by kernel_rfl) rfl) ?_; intro hY cK
 apply hq
 refine c_ cK c5 (fun _ oV => ?_) fun _ da => ?_
 ·
  have h3 : Fr 200 [] [] hY := cK.reg
  refine sqB h3 aT [] [] [(8, .bool false)] ?_; intro uF oW
  exact r_ (h_ (ra1 oW (.bool false) ⟨false, rfl, oV, aT.below⟩))
 refine k_ (s_ ?_)
 have h4 : Fr 200 [] [⟨2, [], i6 u2⟩, ⟨4, [], pt l 0⟩, ⟨5, [], pt aa 0⟩, ⟨7, [], pt I 0⟩, ⟨9, [], pt y 0⟩, ⟨10, [], .slice p (gstepS u0 u1 u2 u3).2.1.length q⟩, ⟨11, [], i6 (gstepS u0 u1 u2 u3).2.2⟩, ⟨14, [], i6 (gcheckS u0)⟩] hY := cK.reg
 refine sqB h4 aT [] [] [(88, .bool ((gcheckS u0) == 0))] ?_; intro uG cL
 refine c_ cL da (fun _ db => ?_) fun _ dH => ?_
 ·
  refine rgH ?_; intro oX h5
  refine l2 cL aT 89 4 0 6 (e25M u3 ao7 cap8) rfl rfl ?_; intro uH h6
  refine fc h6 aT (rcheckfr_fun u3 ao7 cap8 _ _ hs9 aT.fz) ?_; intro uI oY h7 bJ
  refine s1 h7 14 (i6 (fcheckfr u3)) ?_; intro uJ h8
  apply h5
  refine t_ (s_ (sqB h8 bJ [5, 5] [] [(108, .bool (((fcheckfr u3) == 0) && ((((decide (u1 < 0)) || (decide (u1 > 1000000))) || (decide (u2 < 0))) || (decide (u2 > 3)))))] ?_)); intro uK cM
  refine c_ cM db (fun _ oZ => ?_) fun _ dc => ?_
  ·
   refine rgB cM bJ [] [] [(14, i6 3)] ?_; intro uL h9
   refine t_ (s_ (sqB h9 bJ [] [112, 113, 114, 115, 116] [(116, .bool false)] ?_)); intro uM eB
   refine cdF eB (by kernel_rfl) ?_
   refine k_ (s_ (sqB eB bJ [] [] [(118, .bool true)] ?_)); intro uN eC
   refine cdT eC (by kernel_rfl) ?_
   refine sqH ?_; intro o0 ia
   refine s1 eC 119 (i6 (gstepS u0 u1 u2 u3).2.2) ?_; intro uO ib
   refine s1 ib 120 (i6 3) ?_; intro uP ic
   refine s1 ic 121 (.bool ((gstepS u0 u1 u2 u3).2.2 == 3)) ?_; intro uQ id
   refine s1 id 122 (.bool ((gstepS u0 u1 u2 u3).2.2 == 3)) ?_; intro uR ie
   have eD := ie.atom (((gstepS u0 u1 u2 u3).2.2 == 3) == true) (by kernel_rfl)
   refine gd eD (.agg #[.slice C (gstepS u0 u1 u2 u3).1.Routes.length D, .slice E (gstepS u0 u1 u2 u3).1.Last.length H]) (m := 0) (cj := []) (bj := (gstepS u0 u1 u2 u3).2.2 == 3) rfl rfl (by kernel_rfl) rfl (by kernel_rfl) (by kernel_rfl) (by kernel_rfl) (fun hg => lda eD bJ 2 (g := [0]) (b := y) (off := 0) (k := 2) (cs := [.slice C (gstepS u0 u1 u2 u3).1.Routes.length D, .slice E (gstepS u0 u1 u2 u3).1.Last.length H]) (vs := [.slice C (gstepS u0 u1 u2 u3).1.Routes.length D, .slice E (gstepS u0 u1 u2 u3).1.Last.length H]) (ty := 37) rfl (by kernel_rfl) (by kernel_rfl) (by kernel_rfl) (by kernel_rfl) (by kernel_rfl) hg) ?_; intro uS ig
   refine gp ig 124 0 [] ((gstepS u0 u1 u2 u3).2.2 == 3) (.agg #[.slice none 0 0, .slice none 0 0]) rfl rfl ?_; intro uT ih
   refine gcl ih bJ (.bool (samegS (gstepS u0 u1 u2 u3).1 (⟨[], []⟩ : Gate))) 17 #[.agg #[.slice C (gstepS u0 u1 u2 u3).1.Routes.length D, .slice E (gstepS u0 u1 u2 u3).1.Last.length H], .agg #[.slice none 0 0, .slice none 0 0]] (m := 0) (cj := []) (bj := (gstepS u0 u1 u2 u3).2.2 == 3) rfl rfl (by kernel_rfl) rfl (by kernel_rfl) (by kernel_rfl) (by kernel_rfl) (fun _ => by kernel_rfl) (fun hg => sameg_fun (gstepS u0 u1 u2 u3).1 (⟨[], []⟩ : Gate) C D E H none 0 none 0 _ _ am an (SlR.nil _ _) (SlR.nil _ _) bJ.fz) ?_; intro uU uV eE o1
   refine u_ eE (.bool (((gstepS u0 u1 u2 u3).2.2 == 3) && (samegS (gstepS u0 u1 u2 u3).1 (⟨[], []⟩ : Gate)))) (pk_and eE (g := []) (m := 0) (b := (gstepS u0 u1 u2 u3).2.2 == 3) (v := (samegS (gstepS u0 u1 u2 u3).1 (⟨[], []⟩ : Gate))) rfl (by kernel_rfl) (by kernel_rfl) (by kernel_rfl) rfl) ?_; intro uW ii
   refine s1 ii 127 (.bool (((gstepS u0 u1 u2 u3).2.2 == 3) && (samegS (gstepS u0 u1 u2 u3).1 (⟨[], []⟩ : Gate)))) ?_; intro uX ij
   have ik := ij.atom ((((gstepS u0 u1 u2 u3).2.2 == 3) && (samegS (gstepS u0 u1 u2 u3).1 (⟨[], []⟩ : Gate))) == true) (by kernel_rfl)
   refine gp ik 128 1 [] (((gstepS u0 u1 u2 u3).2.2 == 3) && (samegS (gstepS u0 u1 u2 u3).1 (⟨[], []⟩ : Gate))) (.slice p (gstepS u0 u1 u2 u3).2.1.length q) rfl rfl ?_; intro uY il
   refine gp il 129 1 [] (((gstepS u0 u1 u2 u3).2.2 == 3) && (samegS (gstepS u0 u1 u2 u3).1 (⟨[], []⟩ : Gate))) (i6 ((gstepS u0 u1 u2 u3).2.1.length : Int)) rfl rfl ?_; intro uZ im
   refine gp im 130 1 [] (((gstepS u0 u1 u2 u3).2.2 == 3) && (samegS (gstepS u0 u1 u2 u3).1 (⟨[], []⟩ : Gate))) (.bool (((gstepS u0 u1 u2 u3).2.1.length : Int) == 0)) rfl rfl ?_; intro u4 eF
   refine u_ eF (.bool ((((gstepS u0 u1 u2 u3).2.2 == 3) && (samegS (gstepS u0 u1 u2 u3).1 (⟨[], []⟩ : Gate))) && (((gstepS u0 u1 u2 u3).2.1.length : Int) == 0))) (pk_and eF (g := []) (m := 1) (b := ((gstepS u0 u1 u2 u3).2.2 == 3) && (samegS (gstepS u0 u1 u2 u3).1 (⟨[], []⟩ : Gate))) (v := ((gstepS u0 u1 u2 u3).2.1.length : Int) == 0) rfl (by kernel_rfl) (by kernel_rfl) (by kernel_rfl) rfl) ?_; intro u5 io
   refine s1 io 8 (.bool ((((gstepS u0 u1 u2 u3).2.2 == 3) && (samegS (gstepS u0 u1 u2 u3).1 (⟨[], []⟩ : Gate))) && (((gstepS u0 u1 u2 u3).2.1.length : Int) == 0))) ?_; intro u6 o2
   apply ia
   exact r_ (h_ (ra1 o2 (.bool ((((gstepS u0 u1 u2 u3).2.2 == 3) && (samegS (gstepS u0 u1 u2 u3).1 (⟨[], []⟩ : Gate))) && (((gstepS u0 u1 u2 u3).2.1.length : Int) == 0))) ⟨(((gstepS u0 u1 u2 u3).2.2 == 3) && (samegS (gstepS u0 u1 u2 u3).1 (⟨[], []⟩ : Gate))) && (((gstepS u0 u1 u2 u3).2.1.length : Int) == 0), rfl, oZ, o1.below⟩))
  refine k_ (s_ (sqH ?_)); intro o3 ip
  refine s1 cM 109 (i6 (fcheckfr u3)) ?_; intro u7 iq
  refine s1 iq 110 (.bool ((fcheckfr u3) == 0)) ?_; intro u8 ir
  refine s1 ir 111 (.bool ((fcheckfr u3) == 0)) ?_; intro u9 it
  have iu := it.atom (((fcheckfr u3) == 0) == true) (by kernel_rfl)
  refine gp iu 112 0 [] ((fcheckfr u3) == 0) (pt l 1) rfl rfl ?_; intro va eG
  refine gd eG (.slice ao4 u0.Last.length cap5) (m := 0) (cj := []) (bj := (fcheckfr u3) == 0) rfl rfl (by kernel_rfl) rfl (by kernel_rfl) (by kernel_rfl) (by kernel_rfl) (fun hg => ld eG bJ 6 (g := [0]) (b := l) (off := 1) (cs := [.slice ao1 u0.Routes.length cap2, .slice ao4 u0.Last.length cap5]) (ty := 37) rfl (by kernel_rfl) (by kernel_rfl) (by kernel_rfl) (by kernel_rfl) hg) ?_; intro vb iv
  refine gp iv 114 0 [] ((fcheckfr u3) == 0) (.func (.func 20) #[] #[pt aa 0]) rfl rfl ?_; intro vc iw
  obtain ⟨eH, bK, iy, bL⟩ := bJ.freezeRow 5 rfl
  replace hs3 := hs3.mono bK
  replace hs6 := hs6.mono bK
  replace hs9 := hs9.mono bK
  replace am := am.mono bK
  replace an := an.mono bK
  have eI : Mem w.heap.size [] w Z [.row Y [.slice R j.Routes.length U, .slice V j.Last.length W] 37, .row X [.slice N (gnewS u0.Routes).1.Routes.length O, .slice P (gnewS u0.Routes).1.Last.length Q] 37, .row y [.slice C (gstepS u0 u1 u2 u3).1.Routes.length D, .slice E (gstepS u0 u1 u2 u3).1.Last.length H] 37, .own tyLine 42 p q (gstepS u0 u1 u2 u3).2.1, .row I (e25M u3 ao7 cap8) 25, .row l [.slice ao1 u0.Routes.length cap2, .slice ao4 u0.Last.length cap5] 37] eH oY := iy
  refine gcl iw eI (.bool (icontfS u0.Last (fun x0 => RStep1 x0 u1))) 19 #[.slice ao4 u0.Last.length cap5, .func (.func 20) #[] #[pt aa 0]] (m := 0) (cj := []) (bj := (fcheckfr u3) == 0) rfl rfl (by kernel_rfl) rfl (by kernel_rfl) (by kernel_rfl) (by kernel_rfl) (fun _ => by kernel_rfl) (fun hg => icontf_fun u0.Last (fun x0 => RStep1 x0 u1) ao4 cap5 20 #[pt aa 0] _ _ hs6 (fun Z1 w1 h1 h2 x0 => RStep1_fun x0 u1 aa 0 Z1 w1 (bL.mono h1) h2) (fun _ _ => by kernel_rfl) eI.fz) ?_; intro vd ve eJ bu
  refine u_ eJ (.bool (((fcheckfr u3) == 0) && (icontfS u0.Last (fun x0 => RStep1 x0 u1)))) (pk_and eJ (g := []) (m := 0) (b := (fcheckfr u3) == 0) (v := (icontfS u0.Last (fun x0 => RStep1 x0 u1))) rfl (by kernel_rfl) (by kernel_rfl) (by kernel_rfl) rfl) ?_; intro iz cN
  apply ip
  refine c_ cN dc (fun _ o4 => ?_) fun _ dd => ?_
  ·
   have iA : Fr 200 [] [⟨2, [], i6 u2⟩, ⟨4, [], pt l 0⟩, ⟨5, [], pt aa 0⟩, ⟨7, [], pt I 0⟩, ⟨9, [], pt y 0⟩, ⟨10, [], .slice p (gstepS u0 u1 u2 u3).2.1.length q⟩, ⟨11, [], i6 (gstepS u0 u1 u2 u3).2.2⟩] iz := cN.reg
   refine rgB iA bu [] [] [(14, i6 12)] ?_; intro vf iB
   refine t_ (s_ (sqB iB bu [] [] [(118, .bool true)] ?_)); intro vg eL
   refine cdT eL (by kernel_rfl) ?_
   refine sqH ?_; intro o5 iC
   refine s1 eL 119 (i6 (gstepS u0 u1 u2 u3).2.2) ?_; intro vh iD
   refine s1 iD 120 (i6 12) ?_; intro vi iE
   refine s1 iE 121 (.bool ((gstepS u0 u1 u2 u3).2.2 == 12)) ?_; intro vj iF
   refine s1 iF 122 (.bool ((gstepS u0 u1 u2 u3).2.2 == 12)) ?_; intro vk iG
   have eM := iG.atom (((gstepS u0 u1 u2 u3).2.2 == 12) == true) (by kernel_rfl)
   refine gd eM (.agg #[.slice C (gstepS u0 u1 u2 u3).1.Routes.length D, .slice E (gstepS u0 u1 u2 u3).1.Last.length H]) (m := 0) (cj := []) (bj := (gstepS u0 u1 u2 u3).2.2 == 12) rfl rfl (by kernel_rfl) rfl (by kernel_rfl) (by kernel_rfl) (by kernel_rfl) (fun hg => lda eM bu 2 (g := [0]) (b := y) (off := 0) (k := 2) (cs := [.slice C (gstepS u0 u1 u2 u3).1.Routes.length D, .slice E (gstepS u0 u1 u2 u3).1.Last.length H]) (vs := [.slice C (gstepS u0 u1 u2 u3).1.Routes.length D, .slice E (gstepS u0 u1 u2 u3).1.Last.length H]) (ty := 37) rfl (by kernel_rfl) (by kernel_rfl) (by kernel_rfl) (by kernel_rfl) (by kernel_rfl) hg) ?_; intro vl iH
   refine gp iH 124 0 [] ((gstepS u0 u1 u2 u3).2.2 == 12) (.agg #[.slice none 0 0, .slice none 0 0]) rfl rfl ?_; intro vm iI
   refine gcl iI bu (.bool (samegS (gstepS u0 u1 u2 u3).1 (⟨[], []⟩ : Gate))) 17 #[.agg #[.slice C (gstepS u0 u1 u2 u3).1.Routes.length D, .slice E (gstepS u0 u1 u2 u3).1.Last.length H], .agg #[.slice none 0 0, .slice none 0 0]] (m := 0) (cj := []) (bj := (gstepS u0 u1 u2 u3).2.2 == 12) rfl rfl (by kernel_rfl) rfl (by kernel_rfl) (by kernel_rfl) (by kernel_rfl) (fun _ => by kernel_rfl) (fun hg => sameg_fun (gstepS u0 u1 u2 u3).1 (⟨[], []⟩ : Gate) C D E H none 0 none 0 _ _ am an (SlR.nil _ _) (SlR.nil _ _) bu.fz) ?_; intro vn vo eN o6
   refine u_ eN (.bool (((gstepS u0 u1 u2 u3).2.2 == 12) && (samegS (gstepS u0 u1 u2 u3).1 (⟨[], []⟩ : Gate)))) (pk_and eN (g := []) (m := 0) (b := (gstepS u0 u1 u2 u3).2.2 == 12) (v := (samegS (gstepS u0 u1 u2 u3).1 (⟨[], []⟩ : Gate))) rfl (by kernel_rfl) (by kernel_rfl) (by kernel_rfl) rfl) ?_; intro vp iJ
   refine s1 iJ 127 (.bool (((gstepS u0 u1 u2 u3).2.2 == 12) && (samegS (gstepS u0 u1 u2 u3).1 (⟨[], []⟩ : Gate)))) ?_; intro vq iK
   have iL := iK.atom ((((gstepS u0 u1 u2 u3).2.2 == 12) && (samegS (gstepS u0 u1 u2 u3).1 (⟨[], []⟩ : Gate))) == true) (by kernel_rfl)
   refine gp iL 128 1 [] (((gstepS u0 u1 u2 u3).2.2 == 12) && (samegS (gstepS u0 u1 u2 u3).1 (⟨[], []⟩ : Gate))) (.slice p (gstepS u0 u1 u2 u3).2.1.length q) rfl rfl ?_; intro vr iM
   refine gp iM 129 1 [] (((gstepS u0 u1 u2 u3).2.2 == 12) && (samegS (gstepS u0 u1 u2 u3).1 (⟨[], []⟩ : Gate))) (i6 ((gstepS u0 u1 u2 u3).2.1.length : Int)) rfl rfl ?_; intro vt iN
   refine gp iN 130 1 [] (((gstepS u0 u1 u2 u3).2.2 == 12) && (samegS (gstepS u0 u1 u2 u3).1 (⟨[], []⟩ : Gate))) (.bool (((gstepS u0 u1 u2 u3).2.1.length : Int) == 0)) rfl rfl ?_; intro vu eO
   refine u_ eO (.bool ((((gstepS u0 u1 u2 u3).2.2 == 12) && (samegS (gstepS u0 u1 u2 u3).1 (⟨[], []⟩ : Gate))) && (((gstepS u0 u1 u2 u3).2.1.length : Int) == 0))) (pk_and eO (g := []) (m := 1) (b := ((gstepS u0 u1 u2 u3).2.2 == 12) && (samegS (gstepS u0 u1 u2 u3).1 (⟨[], []⟩ : Gate))) (v := ((gstepS u0 u1 u2 u3).2.1.length : Int) == 0) rfl (by kernel_rfl) (by kernel_rfl) (by kernel_rfl) rfl) ?_; intro vv iO
   refine s1 iO 8 (.bool ((((gstepS u0 u1 u2 u3).2.2 == 12) && (samegS (gstepS u0 u1 u2 u3).1 (⟨[], []⟩ : Gate))) && (((gstepS u0 u1 u2 u3).2.1.length : Int) == 0))) ?_; intro vw o7
   apply iC
   exact r_ (h_ (ra1 o7 (.bool ((((gstepS u0 u1 u2 u3).2.2 == 12) && (samegS (gstepS u0 u1 u2 u3).1 (⟨[], []⟩ : Gate))) && (((gstepS u0 u1 u2 u3).2.1.length : Int) == 0))) ⟨(((gstepS u0 u1 u2 u3).2.2 == 12) && (samegS (gstepS u0 u1 u2 u3).1 (⟨[], []⟩ : Gate))) && (((gstepS u0 u1 u2 u3).2.1.length : Int) == 0), rfl, o4, o6.below⟩))
  refine k_ (s_ ?_)
  have iP : Fr 200 [] [⟨2, [], i6 u2⟩, ⟨4, [], pt l 0⟩, ⟨5, [], pt aa 0⟩, ⟨7, [], pt I 0⟩, ⟨9, [], pt y 0⟩, ⟨10, [], .slice p (gstepS u0 u1 u2 u3).2.1.length q⟩, ⟨11, [], i6 (gstepS u0 u1 u2 u3).2.2⟩, ⟨14, [], i6 (fcheckfr u3)⟩] iz := cN.reg
  refine sqB iP bu [] [] [(118, .bool ((fcheckfr u3) != 0))] ?_; intro ci cO
  refine c_ cO dd (fun _ o8 => ?_) fun _ pd => ?_
  ·
   refine sqH ?_; intro o9 iQ
   refine s1 cO 119 (i6 (gstepS u0 u1 u2 u3).2.2) ?_; intro vx iR
   refine s1 iR 120 (i6 (fcheckfr u3)) ?_; intro vy iS
   refine s1 iS 121 (.bool ((gstepS u0 u1 u2 u3).2.2 == (fcheckfr u3))) ?_; intro vz iT
   refine s1 iT 122 (.bool ((gstepS u0 u1 u2 u3).2.2 == (fcheckfr u3))) ?_; intro vA iU
   have eQ := iU.atom (((gstepS u0 u1 u2 u3).2.2 == (fcheckfr u3)) == true) (by kernel_rfl)
   refine gd eQ (.agg #[.slice C (gstepS u0 u1 u2 u3).1.Routes.length D, .slice E (gstepS u0 u1 u2 u3).1.Last.length H]) (m := 0) (cj := []) (bj := (gstepS u0 u1 u2 u3).2.2 == (fcheckfr u3)) rfl rfl (by kernel_rfl) rfl (by kernel_rfl) (by kernel_rfl) (by kernel_rfl) (fun hg => lda eQ bu 2 (g := [0]) (b := y) (off := 0) (k := 2) (cs := [.slice C (gstepS u0 u1 u2 u3).1.Routes.length D, .slice E (gstepS u0 u1 u2 u3).1.Last.length H]) (vs := [.slice C (gstepS u0 u1 u2 u3).1.Routes.length D, .slice E (gstepS u0 u1 u2 u3).1.Last.length H]) (ty := 37) rfl (by kernel_rfl) (by kernel_rfl) (by kernel_rfl) (by kernel_rfl) (by kernel_rfl) hg) ?_; intro vB iV
   refine gp iV 124 0 [] ((gstepS u0 u1 u2 u3).2.2 == (fcheckfr u3)) (.agg #[.slice none 0 0, .slice none 0 0]) rfl rfl ?_; intro vC iW
   refine gcl iW bu (.bool (samegS (gstepS u0 u1 u2 u3).1 (⟨[], []⟩ : Gate))) 17 #[.agg #[.slice C (gstepS u0 u1 u2 u3).1.Routes.length D, .slice E (gstepS u0 u1 u2 u3).1.Last.length H], .agg #[.slice none 0 0, .slice none 0 0]] (m := 0) (cj := []) (bj := (gstepS u0 u1 u2 u3).2.2 == (fcheckfr u3)) rfl rfl (by kernel_rfl) rfl (by kernel_rfl) (by kernel_rfl) (by kernel_rfl) (fun _ => by kernel_rfl) (fun hg => sameg_fun (gstepS u0 u1 u2 u3).1 (⟨[], []⟩ : Gate) C D E H none 0 none 0 _ _ am an (SlR.nil _ _) (SlR.nil _ _) bu.fz) ?_; intro vD vE eR pa
   refine u_ eR (.bool (((gstepS u0 u1 u2 u3).2.2 == (fcheckfr u3)) && (samegS (gstepS u0 u1 u2 u3).1 (⟨[], []⟩ : Gate)))) (pk_and eR (g := []) (m := 0) (b := (gstepS u0 u1 u2 u3).2.2 == (fcheckfr u3)) (v := (samegS (gstepS u0 u1 u2 u3).1 (⟨[], []⟩ : Gate))) rfl (by kernel_rfl) (by kernel_rfl) (by kernel_rfl) rfl) ?_; intro vF iX
   refine s1 iX 127 (.bool (((gstepS u0 u1 u2 u3).2.2 == (fcheckfr u3)) && (samegS (gstepS u0 u1 u2 u3).1 (⟨[], []⟩ : Gate)))) ?_; intro vG iY
   have iZ := iY.atom ((((gstepS u0 u1 u2 u3).2.2 == (fcheckfr u3)) && (samegS (gstepS u0 u1 u2 u3).1 (⟨[], []⟩ : Gate))) == true) (by kernel_rfl)
   refine gp iZ 128 1 [] (((gstepS u0 u1 u2 u3).2.2 == (fcheckfr u3)) && (samegS (gstepS u0 u1 u2 u3).1 (⟨[], []⟩ : Gate))) (.slice p (gstepS u0 u1 u2 u3).2.1.length q) rfl rfl ?_; intro vH i0
   refine gp i0 129 1 [] (((gstepS u0 u1 u2 u3).2.2 == (fcheckfr u3)) && (samegS (gstepS u0 u1 u2 u3).1 (⟨[], []⟩ : Gate))) (i6 ((gstepS u0 u1 u2 u3).2.1.length : Int)) rfl rfl ?_; intro vI i1
   refine gp i1 130 1 [] (((gstepS u0 u1 u2 u3).2.2 == (fcheckfr u3)) && (samegS (gstepS u0 u1 u2 u3).1 (⟨[], []⟩ : Gate))) (.bool (((gstepS u0 u1 u2 u3).2.1.length : Int) == 0)) rfl rfl ?_; intro vJ eS
   refine u_ eS (.bool ((((gstepS u0 u1 u2 u3).2.2 == (fcheckfr u3)) && (samegS (gstepS u0 u1 u2 u3).1 (⟨[], []⟩ : Gate))) && (((gstepS u0 u1 u2 u3).2.1.length : Int) == 0))) (pk_and eS (g := []) (m := 1) (b := ((gstepS u0 u1 u2 u3).2.2 == (fcheckfr u3)) && (samegS (gstepS u0 u1 u2 u3).1 (⟨[], []⟩ : Gate))) (v := ((gstepS u0 u1 u2 u3).2.1.length : Int) == 0) rfl (by kernel_rfl) (by kernel_rfl) (by kernel_rfl) rfl) ?_; intro vK i2
   refine s1 i2 8 (.bool ((((gstepS u0 u1 u2 u3).2.2 == (fcheckfr u3)) && (samegS (gstepS u0 u1 u2 u3).1 (⟨[], []⟩ : Gate))) && (((gstepS u0 u1 u2 u3).2.1.length : Int) == 0))) ?_; intro vL pc
   apply iQ
   exact r_ (h_ (ra1 pc (.bool ((((gstepS u0 u1 u2 u3).2.2 == (fcheckfr u3)) && (samegS (gstepS u0 u1 u2 u3).1 (⟨[], []⟩ : Gate))) && (((gstepS u0 u1 u2 u3).2.1.length : Int) == 0))) ⟨(((gstepS u0 u1 u2 u3).2.2 == (fcheckfr u3)) && (samegS (gstepS u0 u1 u2 u3).1 (⟨[], []⟩ : Gate))) && (((gstepS u0 u1 u2 u3).2.1.length : Int) == 0), rfl, o8, pa.below⟩))
  apply k_
  have pe : Fr 200 [] [⟨2, [], i6 u2⟩, ⟨4, [], pt l 0⟩, ⟨5, [], pt aa 0⟩, ⟨7, [], pt I 0⟩, ⟨9, [], pt y 0⟩, ⟨10, [], .slice p (gstepS u0 u1 u2 u3).2.1.length q⟩, ⟨11, [], i6 (gstepS u0 u1 u2 u3).2.2⟩] ci := cO.reg
  obtain ⟨eT, pf⟩ := pd
  refine wp_seq (any_invE mixed [[], [0], [], [2], [3], [1, 4], [], [0, 1, 2, 3, 4, 5, 6]] 8 (fun S a w1 => ∃ (ah : Option Addr) (ab : Nat) (ak : Nat) (aC : Value) (aU : Value) (aO : Value) (a4 : Value) (aV : Value) (aP : Value) (aD : Value) (b0 : Res) (b1 : Res) (b2 : Res) (b3 : Res) (b4 : Res) (b5 : Res) (aW : Res) (aw : Res) (aA : Fz), Fz.le eH aA ∧ Fr 200 [] [⟨2, [], i6 u2⟩, ⟨4, [], pt l 0⟩, ⟨5, [], pt aa 0⟩, ⟨7, [], pt I 0⟩, ⟨9, [], pt y 0⟩, ⟨10, [], .slice p (gstepS u0 u1 u2 u3).2.1.length q⟩, ⟨11, [], i6 (gstepS u0 u1 u2 u3).2.2⟩, ⟨16, [], aC⟩, ⟨132, [], aU⟩, ⟨133, [], aO⟩, ⟨134, [], a4⟩, ⟨135, [], aV⟩, ⟨136, [], aP⟩, ⟨137, [], aD⟩] a ∧ Mem w.heap.size [] w Z [b0, b1, b2, b3, b4, b5, aW, aw] aA w1 ∧ (S 6 = true → aC = pt ak 0) ∧ (S 0 = true → aU = pt l 0) ∧ (S 1 = true → aO = .slice ao1 u0.Routes.length cap2) ∧ (S 2 = true → a4 = pt l 1) ∧ (S 3 = true → aV = .slice ao4 u0.Last.length cap5) ∧ (S 4 = true → aP = .slice ah (iclS u0.Last).length ab) ∧ (S 5 = true → aD = .agg #[.slice ao1 u0.Routes.length cap2, .slice ah (iclS u0.Last).length ab]) ∧ (b0 = .row Y [.slice R j.Routes.length U, .slice V j.Last.length W] 37) ∧ (b1 = .row X [.slice N (gnewS u0.Routes).1.Routes.length O, .slice P (gnewS u0.Routes).1.Last.length Q] 37) ∧ (b2 = .row y [.slice C (gstepS u0 u1 u2 u3).1.Routes.length D, .slice E (gstepS u0 u1 u2 u3).1.Last.length H] 37) ∧ (b3 = .own tyLine 42 p q (gstepS u0 u1 u2 u3).2.1) ∧ (b4 = .row I (e25M u3 ao7 cap8) 25) ∧ (b5 = .row l [.slice ao1 u0.Routes.length cap2, .slice ao4 u0.Last.length cap5] 37) ∧ (S 4 = false → aW = .nil) ∧ (S 4 = true → aW = .own t6 3 ah ab (iclS u0.Last)) ∧ (S 6 = false → aw = .nil) ∧ (S 6 = true → S 7 = false → aw = .row ak [.slice none 0 0, .slice none 0 0] 37) ∧ (S 7 = true → aw = .row ak [.slice ao1 u0.Routes.length cap2, .slice ah (iclS u0.Last).length ab] 37)) ?h0 ?hs ?hE)
  case h0 =>
   have pg := pe.any 16
   have ph := pg.any 132
   have pi := ph.any 133
   have pj := pi.any 134
   have pl := pj.any 135
   have pm := pl.any 136
   have pn := pm.any 137
   have po := bu.nilRes
   have pp := po.nilRes
   have pq := (pp.perm ((pk 2 rfl).trans (((pk 2 rfl).trans (((pk 2 rfl).trans (((pk 2 rfl).trans (((pk 2 rfl).trans (((pk 2 rfl).trans (((pk 1 rfl).trans (lpr.cons _)).cons _)).cons _)).cons _)).cons _)).cons _)).cons _))).drew
   exact ⟨none, 0, 0, ci.tmps.getD 16 undef, ci.tmps.getD 132 undef, ci.tmps.getD 133 undef, ci.tmps.getD 134 undef, ci.tmps.getD 135 undef, ci.tmps.getD 136 undef, ci.tmps.getD 137 undef, .row Y [.slice R j.Routes.length U, .slice V j.Last.length W] 37, .row X [.slice N (gnewS u0.Routes).1.Routes.length O, .slice P (gnewS u0.Routes).1.Last.length Q] 37, .row y [.slice C (gstepS u0 u1 u2 u3).1.Routes.length D, .slice E (gstepS u0 u1 u2 u3).1.Last.length H] 37, .own tyLine 42 p q (gstepS u0 u1 u2 u3).2.1, .row I (e25M u3 ao7 cap8) 25, .row l [.slice ao1 u0.Routes.length cap2, .slice ao4 u0.Last.length cap5] 37, .nil, .nil, eH, Fz.le.refl _, pn.reg, pq, ff, ff, ff, ff, ff, ff, ff, rfl, rfl, rfl, rfl, rfl, rfl, kf, ff, kf, ff, ff⟩
  case hs =>
   intro S hcl i o hil hi hSi hpre a w1 hI; refine Go.Sy.hid ?_; intro G hG; obtain ⟨ah, ab, ak, aC, aU, aO, a4, aV, aP, aD, b0, b1, b2, b3, b4, b5, aW, aw, aA, z, hFx, hMx, aQ, aR, aX, hI⟩ := hI; obtain ⟨aS, aY, a5, b6, aE, aF, aG, aH, aI, aJ, a6, a7, aZ, a2, hI⟩ := hI
   have hcase : i = 0 ∨ i = 1 ∨ i = 2 ∨ i = 3 ∨ i = 4 ∨ i = 5 ∨ i = 6 ∨ i = 7 := by clear hi; omega
   rcases hcase with rfl | rfl | rfl | rfl | rfl | rfl | rfl | rfl
   ·
    obtain rfl := oj hi
    have a3 := hSi
    have aK := ngF hcl 1 0 a3
    have ax := ngF hcl 5 1 aK
    have aq := ngF hcl 7 0 a3
    obtain rfl := aE
    obtain rfl := aF
    obtain rfl := aG
    obtain rfl := aH
    obtain rfl := aI
    obtain rfl := aJ
    refine hG (any_step ?_); intro A J hJ
    refine s1 hFx 132 (pt l 0) ?_; intro vW pr
    refine nl (qnI (hJ _ _ ?_))
    exact ⟨ah, ab, ak, aC, pt l 0, aO, a4, aV, aP, aD, .row Y [.slice R j.Routes.length U, .slice V j.Last.length W] 37, .row X [.slice N (gnewS u0.Routes).1.Routes.length O, .slice P (gnewS u0.Routes).1.Last.length Q] 37, .row y [.slice C (gstepS u0 u1 u2 u3).1.Routes.length D, .slice E (gstepS u0 u1 u2 u3).1.Last.length H] 37, .own tyLine 42 p q (gstepS u0 u1 u2 u3).2.1, .row I (e25M u3 ao7 cap8) 25, .row l [.slice ao1 u0.Routes.length cap2, .slice ao4 u0.Last.length cap5] 37, aW, aw, aA, z, pr.reg, hMx.perm lpr, aQ, kf, (nt aK), aS, aY, a5, (nt ax), rfl, rfl, rfl, rfl, rfl, rfl, a6, a7, aZ, a2, (nt aq)⟩
   ·
    obtain rfl := oj hi
    have a3 := hpre 0 (by kernel_rfl)
    have aK := hSi
    have ax := ngF hcl 5 1 aK
    have aq := ngF hcl 7 1 aK
    obtain rfl := aR a3
    obtain rfl := aE
    obtain rfl := aF
    obtain rfl := aG
    obtain rfl := aH
    obtain rfl := aI
    obtain rfl := aJ
    refine hG (any_step ?_); intro A J hJ
    refine l1 hFx hMx 133 5 0 (.slice ao1 u0.Routes.length cap2) rfl rfl ?_; intro v7 ps
    refine nl (qnI (hJ _ _ ?_))
    exact ⟨ah, ab, ak, aC, pt l 0, .slice ao1 u0.Routes.length cap2, a4, aV, aP, aD, .row Y [.slice R j.Routes.length U, .slice V j.Last.length W] 37, .row X [.slice N (gnewS u0.Routes).1.Routes.length O, .slice P (gnewS u0.Routes).1.Last.length Q] 37, .row y [.slice C (gstepS u0 u1 u2 u3).1.Routes.length D, .slice E (gstepS u0 u1 u2 u3).1.Last.length H] 37, .own tyLine 42 p q (gstepS u0 u1 u2 u3).2.1, .row I (e25M u3 ao7 cap8) 25, .row l [.slice ao1 u0.Routes.length cap2, .slice ao4 u0.Last.length cap5] 37, aW, aw, aA, z, ps.reg, hMx.perm lpr, aQ, kf, kf, aS, aY, a5, (nt ax), rfl, rfl, rfl, rfl, rfl, rfl, a6, a7, aZ, a2, (nt aq)⟩
   ·
    obtain rfl := oj hi
    have aL := hSi
    have ay := ngF hcl 3 2 aL
    have aj := ngF hcl 4 3 ay
    have ax := ngF hcl 5 4 aj
    have aq := ngF hcl 7 2 aL
    obtain rfl := aE
    obtain rfl := aF
    obtain rfl := aG
    obtain rfl := aH
    obtain rfl := aI
    obtain rfl := aJ
    obtain rfl := a6 aj
    refine hG (any_step ?_); intro A J hJ
    have pv := hMx.keep (sD (List.Sublist.cons_cons _ (sD (List.Sublist.cons_cons _ (sD (List.Sublist.cons_cons _ (sC (sD (List.Sublist.slnil)))))))))
    refine s1 hFx 134 (pt l 1) ?_; intro wi pw
    refine nl (qnI (hJ _ _ ?_))
    have px := pv.nilRes
    exact ⟨ah, ab, ak, aC, aU, aO, pt l 1, aV, aP, aD, .row Y [.slice R j.Routes.length U, .slice V j.Last.length W] 37, .row X [.slice N (gnewS u0.Routes).1.Routes.length O, .slice P (gnewS u0.Routes).1.Last.length Q] 37, .row y [.slice C (gstepS u0 u1 u2 u3).1.Routes.length D, .slice E (gstepS u0 u1 u2 u3).1.Last.length H] 37, .own tyLine 42 p q (gstepS u0 u1 u2 u3).2.1, .row I (e25M u3 ao7 cap8) 25, .row l [.slice ao1 u0.Routes.length cap2, .slice ao4 u0.Last.length cap5] 37, .nil, aw, aA, z, pw.reg, px.perm ((pk 1 rfl).trans (((pk 1 rfl).trans (((pk 1 rfl).trans (((pk 1 rfl).trans (((pk 1 rfl).trans (((pk 1 rfl).trans (lpr.cons _)).cons _)).cons _)).cons _)).cons _)).cons _)), aQ, aR, aX, kf, (nt ay), (nt aj), (nt ax), rfl, rfl, rfl, rfl, rfl, rfl, kf, (nt aj), aZ, a2, (nt aq)⟩
   ·
    obtain rfl := oj hi
    have aL := hpre 2 (by kernel_rfl)
    have ay := hSi
    have aj := ngF hcl 4 3 ay
    have ax := ngF hcl 5 4 aj
    have aq := ngF hcl 7 3 ay
    obtain rfl := aS aL
    obtain rfl := aE
    obtain rfl := aF
    obtain rfl := aG
    obtain rfl := aH
    obtain rfl := aI
    obtain rfl := aJ
    obtain rfl := a6 aj
    refine hG (any_step ?_); intro A J hJ
    have i3 := hMx.keep (sD (List.Sublist.cons_cons _ (sD (List.Sublist.cons_cons _ (sD (List.Sublist.cons_cons _ (sC (sD (List.Sublist.slnil)))))))))
    refine l1 hFx i3 135 5 1 (.slice ao4 u0.Last.length cap5) rfl rfl ?_; intro wt py
    refine nl (qnI (hJ _ _ ?_))
    have pz := i3.nilRes
    exact ⟨ah, ab, ak, aC, aU, aO, pt l 1, .slice ao4 u0.Last.length cap5, aP, aD, .row Y [.slice R j.Routes.length U, .slice V j.Last.length W] 37, .row X [.slice N (gnewS u0.Routes).1.Routes.length O, .slice P (gnewS u0.Routes).1.Last.length Q] 37, .row y [.slice C (gstepS u0 u1 u2 u3).1.Routes.length D, .slice E (gstepS u0 u1 u2 u3).1.Last.length H] 37, .own tyLine 42 p q (gstepS u0 u1 u2 u3).2.1, .row I (e25M u3 ao7 cap8) 25, .row l [.slice ao1 u0.Routes.length cap2, .slice ao4 u0.Last.length cap5] 37, .nil, aw, aA, z, py.reg, pz.perm ((pk 1 rfl).trans (((pk 1 rfl).trans (((pk 1 rfl).trans (((pk 1 rfl).trans (((pk 1 rfl).trans (((pk 1 rfl).trans (lpr.cons _)).cons _)).cons _)).cons _)).cons _)).cons _)), aQ, aR, aX, kf, kf, (nt aj), (nt ax), rfl, rfl, rfl, rfl, rfl, rfl, kf, (nt aj), aZ, a2, (nt aq)⟩
   ·
    obtain rfl := oj hi
    have ay := hpre 3 (by kernel_rfl)
    have aL := hcl 3 2 (by kernel_rfl) ay
    have aj := hSi
    have ax := ngF hcl 5 4 aj
    have aq := ngF hcl 7 4 aj
    obtain rfl := aS aL
    obtain rfl := aY ay
    obtain rfl := aE
    obtain rfl := aF
    obtain rfl := aG
    obtain rfl := aH
    obtain rfl := aI
    obtain rfl := aJ
    obtain rfl := a6 aj
    refine hG (any_step ?_); intro A J hJ
    have hzst := Fz.le.refl aA
    have eU := hs6.mono z
    have eV := hMx.keep (sD (List.Sublist.cons_cons _ (sD (List.Sublist.cons_cons _ (sD (List.Sublist.cons_cons _ (sC (sD (List.Sublist.slnil)))))))))
    refine ck hFx 21 #[.slice ao4 u0.Last.length cap5] ?_
    refine (iclone_fun u0.Last eT ao4 cap5 _ _ eU eV.fz).mono ?_; rintro _ pA ⟨de, df, je, rfl, hm⟩; refine ⟨_, rfl, ?_⟩; intro wu pB; have jf := eV.callZ hm; have bv := hm.ext.le
    replace hzst := hzst.mono bv
    have pC : Mem w.heap.size [] w Z [.own t6 3 de df (iclS u0.Last), .row Y [.slice R j.Routes.length U, .slice V j.Last.length W] 37, .row X [.slice N (gnewS u0.Routes).1.Routes.length O, .slice P (gnewS u0.Routes).1.Last.length Q] 37, .row y [.slice C (gstepS u0 u1 u2 u3).1.Routes.length D, .slice E (gstepS u0 u1 u2 u3).1.Last.length H] 37, .own tyLine 42 p q (gstepS u0 u1 u2 u3).2.1, .row I (e25M u3 ao7 cap8) 25, .row l [.slice ao1 u0.Routes.length cap2, .slice ao4 u0.Last.length cap5] 37, aw] je pA := jf
    refine nl (qnI (hJ _ _ ?_))
    exact ⟨de, df, ak, aC, aU, aO, pt l 1, .slice ao4 u0.Last.length cap5, .slice de (iclS u0.Last).length df, aD, .row Y [.slice R j.Routes.length U, .slice V j.Last.length W] 37, .row X [.slice N (gnewS u0.Routes).1.Routes.length O, .slice P (gnewS u0.Routes).1.Last.length Q] 37, .row y [.slice C (gstepS u0 u1 u2 u3).1.Routes.length D, .slice E (gstepS u0 u1 u2 u3).1.Last.length H] 37, .own tyLine 42 p q (gstepS u0 u1 u2 u3).2.1, .row I (e25M u3 ao7 cap8) 25, .row l [.slice ao1 u0.Routes.length cap2, .slice ao4 u0.Last.length cap5] 37, .own t6 3 de df (iclS u0.Last), aw, je, z.trans hzst, pB.reg, pC.perm ((pk 1 rfl).trans (((pk 1 rfl).trans (((pk 1 rfl).trans (((pk 1 rfl).trans (((pk 1 rfl).trans (((pk 1 rfl).trans (lpr.cons _)).cons _)).cons _)).cons _)).cons _)).cons _)), aQ, aR, aX, kf, kf, kf, (nt ax), rfl, rfl, rfl, rfl, rfl, rfl, nu, kf, aZ, a2, (nt aq)⟩
   ·
    obtain rfl := oj hi
    have aj := hpre 4 (by kernel_rfl)
    have aK := hpre 1 (by kernel_rfl)
    have ay := hcl 4 3 (by kernel_rfl) aj
    have a3 := hcl 1 0 (by kernel_rfl) aK
    have aL := hcl 3 2 (by kernel_rfl) ay
    have ax := hSi
    have aq := ngF hcl 7 5 ax
    obtain rfl := aR a3
    obtain rfl := aX aK
    obtain rfl := aS aL
    obtain rfl := aY ay
    obtain rfl := a5 aj
    obtain rfl := aE
    obtain rfl := aF
    obtain rfl := aG
    obtain rfl := aH
    obtain rfl := aI
    obtain rfl := aJ
    obtain rfl := a7 aj
    refine hG (any_step ?_); intro A J hJ
    refine s1 hFx 137 (.agg #[.slice ao1 u0.Routes.length cap2, .slice ah (iclS u0.Last).length ab]) ?_; intro wF pD
    refine nl (qnI (hJ _ _ ?_))
    exact ⟨ah, ab, ak, aC, pt l 0, .slice ao1 u0.Routes.length cap2, pt l 1, .slice ao4 u0.Last.length cap5, .slice ah (iclS u0.Last).length ab, .agg #[.slice ao1 u0.Routes.length cap2, .slice ah (iclS u0.Last).length ab], .row Y [.slice R j.Routes.length U, .slice V j.Last.length W] 37, .row X [.slice N (gnewS u0.Routes).1.Routes.length O, .slice P (gnewS u0.Routes).1.Last.length Q] 37, .row y [.slice C (gstepS u0 u1 u2 u3).1.Routes.length D, .slice E (gstepS u0 u1 u2 u3).1.Last.length H] 37, .own tyLine 42 p q (gstepS u0 u1 u2 u3).2.1, .row I (e25M u3 ao7 cap8) 25, .row l [.slice ao1 u0.Routes.length cap2, .slice ao4 u0.Last.length cap5] 37, .own t6 3 ah ab (iclS u0.Last), aw, aA, z, pD.reg, hMx.perm lpr, aQ, kf, kf, kf, kf, kf, kf, rfl, rfl, rfl, rfl, rfl, rfl, (tn aj), kf, aZ, a2, (nt aq)⟩
   ·
    obtain rfl := oj hi
    have bl := hSi
    have aq := ngF hcl 7 6 bl
    obtain rfl := aE
    obtain rfl := aF
    obtain rfl := aG
    obtain rfl := aH
    obtain rfl := aI
    obtain rfl := aJ
    obtain rfl := aZ bl
    refine hG (any_step ?_); intro A J hJ
    have jg := hMx.keep (sD (List.Sublist.cons_cons _ (sD (List.Sublist.cons_cons _ (sD (List.Sublist.cons_cons _ (sD (sC (List.Sublist.slnil)))))))))
    refine nw hFx jg pb [.slice none 0 0, .slice none 0 0] 37 ?_; intro eW wR wS pE pF
    refine nl (qnI (hJ _ _ ?_))
    exact ⟨ah, ab, eW, pt eW 0, aU, aO, a4, aV, aP, aD, .row Y [.slice R j.Routes.length U, .slice V j.Last.length W] 37, .row X [.slice N (gnewS u0.Routes).1.Routes.length O, .slice P (gnewS u0.Routes).1.Last.length Q] 37, .row y [.slice C (gstepS u0 u1 u2 u3).1.Routes.length D, .slice E (gstepS u0 u1 u2 u3).1.Last.length H] 37, .own tyLine 42 p q (gstepS u0 u1 u2 u3).2.1, .row I (e25M u3 ao7 cap8) 25, .row l [.slice ao1 u0.Routes.length cap2, .slice ao4 u0.Last.length cap5] 37, aW, .row eW [.slice none 0 0, .slice none 0 0] 37, aA, z, pE.reg, pF.perm ((pk 1 rfl).trans (((pk 1 rfl).trans (((pk 1 rfl).trans (((pk 1 rfl).trans (((pk 1 rfl).trans (((pk 1 rfl).trans (((pk 1 rfl).trans (lpr.cons _)).cons _)).cons _)).cons _)).cons _)).cons _)).cons _)), kf, aR, aX, aS, aY, a5, b6, rfl, rfl, rfl, rfl, rfl, rfl, a6, a7, nu, kf2, (nt aq)⟩
   obtain rfl := oj hi
   have bl := hpre 6 (by kernel_rfl)
   have ax := hpre 5 (by kernel_rfl)
   have aj := hpre 4 (by kernel_rfl)
   have ay := hpre 3 (by kernel_rfl)
   have aL := hpre 2 (by kernel_rfl)
   have aK := hpre 1 (by kernel_rfl)
   have a3 := hpre 0 (by kernel_rfl)
   have aq := hSi
   obtain rfl := aQ bl
   obtain rfl := aR a3
   obtain rfl := aX aK
   obtain rfl := aS aL
   obtain rfl := aY ay
   obtain rfl := a5 aj
   obtain rfl := b6 ax
   obtain rfl := aE
   obtain rfl := aF
   obtain rfl := aG
   obtain rfl := aH
   obtain rfl := aI
   obtain rfl := aJ
   obtain rfl := a7 aj
   obtain rfl := a2 bl aq
   refine hG (any_step ?_); intro A J hJ
   refine sx hFx hMx 7 [.slice ao1 u0.Routes.length cap2, .slice ah (iclS u0.Last).length ab] 0 ?_; intro w4 pG
   refine nl (qnI (hJ _ _ ?_))
   exact ⟨ah, ab, ak, pt ak 0, pt l 0, .slice ao1 u0.Routes.length cap2, pt l 1, .slice ao4 u0.Last.length cap5, .slice ah (iclS u0.Last).length ab, .agg #[.slice ao1 u0.Routes.length cap2, .slice ah (iclS u0.Last).length ab], .row Y [.slice R j.Routes.length U, .slice V j.Last.length W] 37, .row X [.slice N (gnewS u0.Routes).1.Routes.length O, .slice P (gnewS u0.Routes).1.Last.length Q] 37, .row y [.slice C (gstepS u0 u1 u2 u3).1.Routes.length D, .slice E (gstepS u0 u1 u2 u3).1.Last.length H] 37, .own tyLine 42 p q (gstepS u0 u1 u2 u3).2.1, .row I (e25M u3 ao7 cap8) 25, .row l [.slice ao1 u0.Routes.length cap2, .slice ao4 u0.Last.length cap5] 37, .own t6 3 ah ab (iclS u0.Last), .row ak [.slice ao1 u0.Routes.length cap2, .slice ah (iclS u0.Last).length ab] 37, aA, z, hFx.reg, pG.perm lpr, kf, kf, kf, kf, kf, kf, kf, rfl, rfl, rfl, rfl, rfl, rfl, (tn aj), kf, (tn bl), (fun _ => nu), kf⟩
  case hE =>
   intro S hS pH pI hI; refine Go.Sy.hid ?_; intro G hG; obtain ⟨ah, ab, ak, aC, aU, aO, a4, aV, aP, aD, b0, b1, b2, b3, b4, b5, aW, aw, aA, z, hFx, hMx, aQ, aR, aX, hI⟩ := hI; obtain ⟨aS, aY, a5, b6, aE, aF, aG, aH, aI, aJ, a6, a7, aZ, a2, hI⟩ := hI; have cP := hI; refine hG ?_
   obtain rfl := aQ (hS 6 (by decide))
   obtain rfl := aR (hS 0 (by decide))
   obtain rfl := aX (hS 1 (by decide))
   obtain rfl := aS (hS 2 (by decide))
   obtain rfl := aY (hS 3 (by decide))
   obtain rfl := a5 (hS 4 (by decide))
   obtain rfl := b6 (hS 5 (by decide))
   obtain rfl := aE
   obtain rfl := aF
   obtain rfl := aG
   obtain rfl := aH
   obtain rfl := aI
   obtain rfl := aJ
   obtain rfl := a7 (hS 4 (by decide))
   obtain rfl := cP (hS 7 (by decide))
   have pJ := hs3.mono z
   have pK := hs6.mono z
   have pL := hs9.mono z
   have pM := am.mono z
   have pN := an.mono z
   have pS := bL.mono z
   apply t_
   have jh : Fr 200 [] [⟨2, [], i6 u2⟩, ⟨4, [], pt l 0⟩, ⟨5, [], pt aa 0⟩, ⟨7, [], pt I 0⟩, ⟨9, [], pt y 0⟩, ⟨10, [], .slice p (gstepS u0 u1 u2 u3).2.1.length q⟩, ⟨11, [], i6 (gstepS u0 u1 u2 u3).2.2⟩, ⟨16, [], pt ak 0⟩] pH := hFx.reg
   refine sqB jh hMx [] [] [(17, .slice none 0 0)] ?_; intro w5 ji
   refine s_ (sqB ji hMx [5] [] [(139, .slice ao1 u0.Routes.length cap2), (140, i6 (u0.Routes.length : Int)), (141, i6 0)] ?_); intro jj jk
   apply b_
   have jl : Fr 200 [] [⟨2, [], i6 u2⟩, ⟨4, [], pt l 0⟩, ⟨5, [], pt aa 0⟩, ⟨7, [], pt I 0⟩, ⟨9, [], pt y 0⟩, ⟨10, [], .slice p (gstepS u0 u1 u2 u3).2.1.length q⟩, ⟨11, [], i6 (gstepS u0 u1 u2 u3).2.2⟩, ⟨16, [], pt ak 0⟩, ⟨17, [], .slice none 0 0⟩, ⟨139, [], .slice ao1 u0.Routes.length cap2⟩, ⟨140, [], i6 (u0.Routes.length : Int)⟩, ⟨141, [], i6 0⟩] jj := jk.reg
   have jm : Mem w.heap.size [] w Z [.own tyLine 42 none 0 ([] : List Line), .row Y [.slice R j.Routes.length U, .slice V j.Last.length W] 37, .row X [.slice N (gnewS u0.Routes).1.Routes.length O, .slice P (gnewS u0.Routes).1.Last.length Q] 37, .row y [.slice C (gstepS u0 u1 u2 u3).1.Routes.length D, .slice E (gstepS u0 u1 u2 u3).1.Last.length H] 37, .own tyLine 42 p q (gstepS u0 u1 u2 u3).2.1, .row I (e25M u3 ao7 cap8) 25, .row l [.slice ao1 u0.Routes.length cap2, .slice ao4 u0.Last.length cap5] 37, .own t6 3 ah ab (iclS u0.Last), .row ak [.slice ao1 u0.Routes.length cap2, .slice ah (iclS u0.Last).length ab] 37] aA pI := hMx.addNil tyLine 42 (by decide)
   have jn : Fr 200 [] [⟨2, [], i6 u2⟩, ⟨4, [], pt l 0⟩, ⟨5, [], pt aa 0⟩, ⟨7, [], pt I 0⟩, ⟨9, [], pt y 0⟩, ⟨10, [], .slice p (gstepS u0 u1 u2 u3).2.1.length q⟩, ⟨11, [], i6 (gstepS u0 u1 u2 u3).2.2⟩, ⟨16, [], pt ak 0⟩, ⟨17, [], .slice none ([] : List Line).length 0⟩, ⟨139, [], .slice ao1 u0.Routes.length cap2⟩, ⟨140, [], i6 (u0.Routes.length : Int)⟩, ⟨141, [], i6 0⟩] jj := jl.reg
   obtain ⟨pT, pU, pV, pW⟩ := pf
   refine lp (ι := (List Line) × Int × (List Int) × (Option Addr) × Nat × Fz) (fun s => [⟨2, [], i6 u2⟩, ⟨4, [], pt l 0⟩, ⟨5, [], pt aa 0⟩, ⟨7, [], pt I 0⟩, ⟨9, [], pt y 0⟩, ⟨10, [], .slice p (gstepS u0 u1 u2 u3).2.1.length q⟩, ⟨11, [], i6 (gstepS u0 u1 u2 u3).2.2⟩, ⟨16, [], pt ak 0⟩, ⟨17, [], .slice s.2.2.2.1 s.1.length s.2.2.2.2.1⟩, ⟨139, [], .slice ao1 u0.Routes.length cap2⟩, ⟨140, [], i6 (u0.Routes.length : Int)⟩, ⟨141, [], i6 s.2.1⟩]) (fun s => [.own tyLine 42 s.2.2.2.1 s.2.2.2.2.1 s.1, .row Y [.slice R j.Routes.length U, .slice V j.Last.length W] 37, .row X [.slice N (gnewS u0.Routes).1.Routes.length O, .slice P (gnewS u0.Routes).1.Last.length Q] 37, .row y [.slice C (gstepS u0 u1 u2 u3).1.Routes.length D, .slice E (gstepS u0 u1 u2 u3).1.Last.length H] 37, .own tyLine 42 p q (gstepS u0 u1 u2 u3).2.1, .row I (e25M u3 ao7 cap8) 25, .row l [.slice ao1 u0.Routes.length cap2, .slice ao4 u0.Last.length cap5] 37, .own t6 3 ah ab s.2.2.1, .row ak [.slice ao1 u0.Routes.length cap2, .slice ah s.2.2.1.length ab] 37]) (fun s => s.2.2.2.2.2) (fun s => pT s.1 s.2.1 s.2.2.1 ∧ Fz.le aA s.2.2.2.2.2) (fun s => pU s.1 s.2.1 s.2.2.1) ⟨([] : List Line), 0, (iclS u0.Last), none, 0, aA⟩ ⟨pV, Fz.le.refl _⟩ (by exact jn.reg) (by exact jm) ?_
   rintro ⟨L, n, ad, af, ag, dg⟩ ⟨pX, aM⟩ pY jo jp jq
   have dh := pW L n ad pX
   have bD := pJ.mono aM
   have bE := pK.mono aM
   have bM := pL.mono aM
   have bN := pM.mono aM
   have bO := pN.mono aM
   have bc := pS.mono aM
   refine sqB jp jq [] [] [(142, .bool (decide (n < (u0.Routes.length : Int))))] ?_; intro js cQ
   refine s_ (c_ cQ dh (fun _ pZ => ?_) fun _ q3 => ?_)
   ·
    apply k_
    have jt : Fr 200 [] [⟨2, [], i6 u2⟩, ⟨4, [], pt l 0⟩, ⟨5, [], pt aa 0⟩, ⟨7, [], pt I 0⟩, ⟨9, [], pt y 0⟩, ⟨10, [], .slice p (gstepS u0 u1 u2 u3).2.1.length q⟩, ⟨11, [], i6 (gstepS u0 u1 u2 u3).2.2⟩, ⟨16, [], pt ak 0⟩, ⟨17, [], .slice af L.length ag⟩, ⟨139, [], .slice ao1 u0.Routes.length cap2⟩, ⟨140, [], i6 (u0.Routes.length : Int)⟩, ⟨141, [], i6 n⟩] js := cQ.reg
    obtain ⟨p1, p2, p3⟩ := pZ
    refine wp_seq_k fun KJ747 hKJ748 => ?_
    have di : ∀ (bm : List Line) (cu : List Int) (cb : Option Addr) (cc : Nat) (dj : Fz), p1 bm cu ∧ Fz.le dg dj → ∀ a1 w1, Fr 200 [] [⟨2, [], i6 u2⟩, ⟨4, [], pt l 0⟩, ⟨5, [], pt aa 0⟩, ⟨7, [], pt I 0⟩, ⟨9, [], pt y 0⟩, ⟨10, [], .slice p (gstepS u0 u1 u2 u3).2.1.length q⟩, ⟨11, [], i6 (gstepS u0 u1 u2 u3).2.2⟩, ⟨16, [], pt ak 0⟩, ⟨17, [], .slice cb bm.length cc⟩, ⟨139, [], .slice ao1 u0.Routes.length cap2⟩, ⟨140, [], i6 (u0.Routes.length : Int)⟩, ⟨141, [], i6 n⟩] a1 → Mem w.heap.size [] w Z [.own tyLine 42 cb cc bm, .row Y [.slice R j.Routes.length U, .slice V j.Last.length W] 37, .row X [.slice N (gnewS u0.Routes).1.Routes.length O, .slice P (gnewS u0.Routes).1.Last.length Q] 37, .row y [.slice C (gstepS u0 u1 u2 u3).1.Routes.length D, .slice E (gstepS u0 u1 u2 u3).1.Last.length H] 37, .own tyLine 42 p q (gstepS u0 u1 u2 u3).2.1, .row I (e25M u3 ao7 cap8) 25, .row l [.slice ao1 u0.Routes.length cap2, .slice ao4 u0.Last.length cap5] 37, .own t6 3 ah ab cu, .row ak [.slice ao1 u0.Routes.length cap2, .slice ah cu.length ab] 37] dj w1 → KJ747 a1 w1 := by
     rintro bm cu cb cc dj ⟨p4, bw⟩ w7 w8 ju jv
     refine hKJ748 _ _ ?_
     have jw := p3 bm cu p4
     have p5 := aM.mono bw
     refine rgB ju jv [] [] [(141, i6 (w64 (n + 1)))] ?_; intro xj p6
     exact d_ ⟨⟨bm, w64 (n + 1), cu, cb, cc, dj⟩, ⟨jw.1, p5⟩, jw.2, (p6.reg).anyβ _ (by kernel_rfl), jv.kp⟩
    have cv := Fz.le.refl dg
    refine b_ (sqH ?_); intro p7 jx
    refine s1 jt 143 (i6 n) ?_; intro xk jy
    obtain ⟨p8, jz⟩ := p2
    refine ix_ jy bD n p8 .i64 29 56 ?_; intro xl xm p9 f xn qa eZ qb jA
    have qc := jz f qa
    obtain rfl : p9 = ((e29M f) : List Value) := qb
    refine z2 jA jq 145 eZ 0 7 (e29M f) rfl ?_; intro xo jB
    refine nw jB jq pb [i6 0, i6 0, i6 0, i6 0, .bool false, i6 0, i6 0] 29 ?_; intro bd xp xq jC jD
    refine s1 jC 18 (i6 n) ?_; intro xr e0
    refine sx e0 jD 0 (e29M f) 0 ?_; intro qd jE
    have dk : Mem w.heap.size [] w Z [.row bd (e29M f) 29, .own tyLine 42 af ag L, .row Y [.slice R j.Routes.length U, .slice V j.Last.length W] 37, .row X [.slice N (gnewS u0.Routes).1.Routes.length O, .slice P (gnewS u0.Routes).1.Last.length Q] 37, .row y [.slice C (gstepS u0 u1 u2 u3).1.Routes.length D, .slice E (gstepS u0 u1 u2 u3).1.Last.length H] 37, .own tyLine 42 p q (gstepS u0 u1 u2 u3).2.1, .row I (e25M u3 ao7 cap8) 25, .row l [.slice ao1 u0.Routes.length cap2, .slice ao4 u0.Last.length cap5] 37, .own t6 3 ah ab ad, .row ak [.slice ao1 u0.Routes.length cap2, .slice ah ad.length ab] 37] dg qd := jE
    apply jx
    refine sqH ?_; intro qe jF
    refine bt e0 dk 3 [0, 6] [] [(147, .agg (e29M f).toArray), (148, i6 u2), (149, .agg (e25M u3 ao7 cap8).toArray)] ?_; intro xt jG
    obtain ⟨qf, jH⟩ := qc
    refine ck jG 22 #[.agg (e29M f).toArray, i6 u2, .agg (e25M u3 ao7 cap8).toArray] ?_
    refine (carried_fun f u2 u3 qf ao7 cap8 _ _ bM dk.fz).mono ?_; rintro _ qg ⟨a8, a9, bP, rfl, e1, hm⟩; refine ⟨_, rfl, ?_⟩; intro xu jI; have jJ := dk.callZ hm; have be := hm.ext.le
    replace bE := bE.mono be
    replace bc := bc.mono be
    replace cv := cv.mono be
    have e2 : Mem w.heap.size [] w Z [.row bd (e29M f) 29, .own tyLine 42 af ag L, .row Y [.slice R j.Routes.length U, .slice V j.Last.length W] 37, .row X [.slice N (gnewS u0.Routes).1.Routes.length O, .slice P (gnewS u0.Routes).1.Last.length Q] 37, .row y [.slice C (gstepS u0 u1 u2 u3).1.Routes.length D, .slice E (gstepS u0 u1 u2 u3).1.Last.length H] 37, .own tyLine 42 p q (gstepS u0 u1 u2 u3).2.1, .row I (e25M u3 ao7 cap8) 25, .row l [.slice ao1 u0.Routes.length cap2, .slice ao4 u0.Last.length cap5] 37, .own t6 3 ah ab ad, .row ak [.slice ao1 u0.Routes.length cap2, .slice ah ad.length ab] 37] bP qg := jJ
    have dl := jH (e1.small)
    refine bt jI e2 3 [] [] [(151, .agg (e25M ((carriedS f u2 u3).1) a8 a9).toArray), (152, .bool (carriedS f u2 u3).2)] ?_; intro xv jK
    refine nw jK e2 pb [i6 0, .bool false, .bool false, .bool false, i6 0, .slice none 0 0] 25 ?_; intro bQ xw xx e3 jL
    refine sx e3 jL 0 (e25M ((carriedS f u2 u3).1) a8 a9) 0 ?_; intro qh jM
    refine s1 e3 21 (.bool (carriedS f u2 u3).2) ?_; intro qi jN
    have dm : Mem w.heap.size [] w Z [.row bQ (e25M ((carriedS f u2 u3).1) a8 a9) 25, .row bd (e29M f) 29, .own tyLine 42 af ag L, .row Y [.slice R j.Routes.length U, .slice V j.Last.length W] 37, .row X [.slice N (gnewS u0.Routes).1.Routes.length O, .slice P (gnewS u0.Routes).1.Last.length Q] 37, .row y [.slice C (gstepS u0 u1 u2 u3).1.Routes.length D, .slice E (gstepS u0 u1 u2 u3).1.Last.length H] 37, .own tyLine 42 p q (gstepS u0 u1 u2 u3).2.1, .row I (e25M u3 ao7 cap8) 25, .row l [.slice ao1 u0.Routes.length cap2, .slice ao4 u0.Last.length cap5] 37, .own t6 3 ah ab ad, .row ak [.slice ao1 u0.Routes.length cap2, .slice ah ad.length ab] 37] bP qh := jM
    apply jF
    have jO : Fr 200 [] [⟨2, [], i6 u2⟩, ⟨4, [], pt l 0⟩, ⟨5, [], pt aa 0⟩, ⟨7, [], pt I 0⟩, ⟨9, [], pt y 0⟩, ⟨10, [], .slice p (gstepS u0 u1 u2 u3).2.1.length q⟩, ⟨11, [], i6 (gstepS u0 u1 u2 u3).2.2⟩, ⟨16, [], pt ak 0⟩, ⟨17, [], .slice af L.length ag⟩, ⟨18, [], i6 n⟩, ⟨19, [], pt bd 0⟩, ⟨20, [], pt bQ 0⟩, ⟨21, [], .bool (carriedS f u2 u3).2⟩, ⟨139, [], .slice ao1 u0.Routes.length cap2⟩, ⟨140, [], i6 (u0.Routes.length : Int)⟩, ⟨141, [], i6 n⟩] qi := jN.reg
    refine sqQH mixed (by kernel_rfl) dm ?_; intro e4 cw
    refine q1 jO 153 (.bool (carriedS f u2 u3).2) ?_; intro xy jP
    refine q1 jP 154 (.bool (carriedS f u2 u3).2) ?_; intro xz jQ
    have e5 := jQ.atom ((carriedS f u2 u3).2 == true) (by kernel_rfl)
    refine qgd e5 (pt l 1) (m := 0) (cj := []) (bj := (carriedS f u2 u3).2) rfl rfl (by kernel_rfl) rfl (by kernel_rfl) (by kernel_rfl) (by kernel_rfl) (fun hg => qat_ok (fun v845 hC => pu e5 (g := [0]) (by kernel_rfl) hg)) ?_; intro xA e6
    refine qgd e6 (.slice ao4 u0.Last.length cap5) (m := 0) (cj := []) (bj := (carriedS f u2 u3).2) rfl rfl (by kernel_rfl) rfl (by kernel_rfl) (by kernel_rfl) (by kernel_rfl) (fun hg => qat_ok (fun v848 hC => ld e6 hC 8 (g := [0]) (b := l) (off := 1) (cs := [.slice ao1 u0.Routes.length cap2, .slice ao4 u0.Last.length cap5]) (ty := 37) rfl (by kernel_rfl) (by kernel_rfl) (by kernel_rfl) (by kernel_rfl) hg)) ?_; intro xB e7
    refine qgd e7 (i6 n) (m := 0) (cj := []) (bj := (carriedS f u2 u3).2) rfl rfl (by kernel_rfl) rfl (by kernel_rfl) (by kernel_rfl) (by kernel_rfl) (fun hg => qat_ok (fun v851 hC => pu e7 (g := [0]) (by kernel_rfl) hg)) ?_; intro xC dn
    refine e_ dl (fun bF qj => ?_) fun bF q0 => ?_
    ·
     have jR := dn.reval (d := 154) (c := []) (v := .bool (carriedS f u2 u3).2) (by kernel_rfl) (.bool true) (by rw [bF])
     have jS := jR.setc (d := 155) (c := [0]) (v := pt l 1) (by kernel_rfl) (v' := pt l 1) (by rw [bF]; kernel_rfl)
     have jT := jS.setc (d := 156) (c := [0]) (v := .slice ao4 u0.Last.length cap5) (by kernel_rfl) (v' := .slice ao4 u0.Last.length cap5) (by rw [bF]; kernel_rfl)
     have e8 := jT.setc (d := 157) (c := [0]) (v := i6 n) (by kernel_rfl) (v' := i6 n) (by rw [bF]; kernel_rfl)
     obtain ⟨qk, jU⟩ := qj
     refine qix e8 (T := t6) (xs := u0.Last) bE n qk (k := .i64) (e := 3) (bytes := 8) (wK e8 true) rfl (by kernel_rfl) rfl (by kernel_rfl) (by kernel_rfl) (by kernel_rfl) ?_; intro xD xE ql bn xF qm qn qo dp
     have dq := jU bn qm
     obtain rfl : ql = ([i6 bn] : List Value) := qo
     refine qst dp (i6 bn) (wK dp true) rfl (by kernel_rfl) (fun v873 hC => lz dp hC.fz qn 0 (g := []) rfl (by kernel_rfl) (by kernel_rfl) (by kernel_rfl) rfl) ?_; intro xG dr
     refine qg_ dr true (.bool (bn == (-1))) ?_; intro xH ds
     refine qg_ ds true (.bool (bn == (-1))) ?_; intro xI jV
     have e9 := jV.atom ((bn == (-1)) == false) (by kernel_rfl)
     refine qgd e9 (i6 u1) (m := 1) (cj := []) (bj := bn == (-1)) rfl rfl (by kernel_rfl) rfl (by kernel_rfl) (by kernel_rfl) (by kernel_rfl) (fun hg => qat_ok (fun v883 hC => lz e9 hC.fz bc 0 (g := [1]) rfl (by kernel_rfl) (by kernel_rfl) (by kernel_rfl) hg)) ?_; intro xJ fa
     refine qgd fa (pt l 1) (m := 1) (cj := []) (bj := bn == (-1)) rfl rfl (by kernel_rfl) rfl (by kernel_rfl) (by kernel_rfl) (by kernel_rfl) (fun hg => qat_ok (fun v886 hC => pu fa (g := [1]) (by kernel_rfl) hg)) ?_; intro xK fb
     refine qgd fb (.slice ao4 u0.Last.length cap5) (m := 1) (cj := []) (bj := bn == (-1)) rfl rfl (by kernel_rfl) rfl (by kernel_rfl) (by kernel_rfl) (by kernel_rfl) (fun hg => qat_ok (fun v889 hC => ld fb hC 8 (g := [1]) (b := l) (off := 1) (cs := [.slice ao1 u0.Routes.length cap2, .slice ao4 u0.Last.length cap5]) (ty := 37) rfl (by kernel_rfl) (by kernel_rfl) (by kernel_rfl) (by kernel_rfl) hg)) ?_; intro xL fd
     refine qgd fd (i6 n) (m := 1) (cj := []) (bj := bn == (-1)) rfl rfl (by kernel_rfl) rfl (by kernel_rfl) (by kernel_rfl) (by kernel_rfl) (fun hg => qat_ok (fun v892 hC => pu fd (g := [1]) (by kernel_rfl) hg)) ?_; intro xM dt
     refine e_ dq (fun bo qp => ?_) fun bo qE => ?_
     ·
      have jW := dt.reval (d := 161) (c := []) (v := .bool (bn == (-1))) (by kernel_rfl) (.bool true) (by rw [bo])
      have jX := jW.setc (d := 162) (c := [1]) (v := i6 u1) (by kernel_rfl) (v' := undef) (by rw [bo]; kernel_rfl)
      have jY := jX.setc (d := 163) (c := [1]) (v := pt l 1) (by kernel_rfl) (v' := undef) (by rw [bo]; kernel_rfl)
      have jZ := jY.setc (d := 164) (c := [1]) (v := .slice ao4 u0.Last.length cap5) (by kernel_rfl) (v' := undef) (by rw [bo]; kernel_rfl)
      have j0 := jZ.setc (d := 165) (c := [1]) (v := i6 n) (by kernel_rfl) (v' := undef) (by rw [bo]; kernel_rfl)
      refine qk_ j0 true ?_; intro xN j1
      refine qk_ j1 true ?_; intro xO j2
      refine qk_ j2 true ?_; intro xP j3
      refine qk_ j3 true ?_; intro xQ j4
      refine qk_ j4 true ?_; intro xR j5
      refine qk_ j5 true ?_; intro xS du
      refine qg_ du true (.bool true) ?_; intro xT j6
      refine q1 j6 173 (.bool true) ?_; intro qq fe
      refine qnl (cw _ ?_); intro xU cR
      refine cdT fe (by kernel_rfl) ?_
      have j7 : Fr 200 [] [⟨2, [], i6 u2⟩, ⟨4, [], pt l 0⟩, ⟨5, [], pt aa 0⟩, ⟨7, [], pt I 0⟩, ⟨9, [], pt y 0⟩, ⟨10, [], .slice p (gstepS u0 u1 u2 u3).2.1.length q⟩, ⟨11, [], i6 (gstepS u0 u1 u2 u3).2.2⟩, ⟨16, [], pt ak 0⟩, ⟨17, [], .slice af L.length ag⟩, ⟨18, [], i6 n⟩, ⟨19, [], pt bd 0⟩, ⟨20, [], pt bQ 0⟩, ⟨139, [], .slice ao1 u0.Routes.length cap2⟩, ⟨140, [], i6 (u0.Routes.length : Int)⟩, ⟨141, [], i6 n⟩] qq := fe.reg
      refine sqH ?_; intro qr j8
      refine bt j7 cR 3 [10] [] [(175, .slice ah ad.length ab), (176, i6 n)] ?_; intro xV j9
      refine z1 j9 cR 177 bc 0 (i6 u1) rfl ?_; intro xW ka
      obtain ⟨qs, qt⟩ := qp
      refine ixo ka cR 9 (T := t6) (xs := ad) n qs (k := .i64) (e := 3) (bytes := 8) (nog rfl _) rfl (by kernel_rfl) rfl (by kernel_rfl) (by kernel_rfl) rfl (by kernel_rfl) ?_; intro cx qu qv dv
      subst qv
      refine so dv cR 9 (T := t6) (xs := ad) n.toNat u1 (u := i6 u1) (nog rfl _) rfl rfl (by kernel_rfl) rfl (by kernel_rfl) rfl (by kernel_rfl) (by first | omega | (simp only [List.length_set] at *; omega)) rfl ?_; intro qw kb
      have kc : Fr 200 [] [⟨2, [], i6 u2⟩, ⟨4, [], pt l 0⟩, ⟨5, [], pt aa 0⟩, ⟨7, [], pt I 0⟩, ⟨9, [], pt y 0⟩, ⟨10, [], .slice p (gstepS u0 u1 u2 u3).2.1.length q⟩, ⟨11, [], i6 (gstepS u0 u1 u2 u3).2.2⟩, ⟨16, [], pt ak 0⟩, ⟨17, [], .slice af L.length ag⟩, ⟨18, [], i6 n⟩, ⟨19, [], pt bd 0⟩, ⟨20, [], pt bQ 0⟩, ⟨139, [], .slice ao1 u0.Routes.length cap2⟩, ⟨140, [], i6 (u0.Routes.length : Int)⟩, ⟨141, [], i6 n⟩, ⟨175, [], .slice (sm cx) (ad.set n.toNat u1).length ab⟩, ⟨176, [], i6 n⟩, ⟨177, [], i6 u1⟩, ⟨178, [], .pointer (some ⟨cx, n.toNat * 1, none⟩)⟩] qu := by (try simp only [List.length_set] at dv); (try simp only [List.length_set]); exact dv.reg
      have qx : (ad.set n.toNat u1).length = ad.length := by first | assumption | (simp; try omega)
      have dw : Mem w.heap.size [] w Z [.row bQ (e25M ((carriedS f u2 u3).1) a8 a9) 25, .row bd (e29M f) 29, .own tyLine 42 af ag L, .row Y [.slice R j.Routes.length U, .slice V j.Last.length W] 37, .row X [.slice N (gnewS u0.Routes).1.Routes.length O, .slice P (gnewS u0.Routes).1.Last.length Q] 37, .row y [.slice C (gstepS u0 u1 u2 u3).1.Routes.length D, .slice E (gstepS u0 u1 u2 u3).1.Last.length H] 37, .own tyLine 42 p q (gstepS u0 u1 u2 u3).2.1, .row I (e25M u3 ao7 cap8) 25, .row l [.slice ao1 u0.Routes.length cap2, .slice ao4 u0.Last.length cap5] 37, .own t6 3 (sm cx) ab (ad.set n.toNat u1), .row ak [.slice ao1 u0.Routes.length cap2, .slice (sm cx) (ad.set n.toNat u1).length ab] 37] bP qw := by rw [qx]; exact kb
      apply j8
      refine rgH ?_; intro qy kd
      refine s1 kc 179 (.slice af L.length ag) ?_; intro xX ke
      refine z1 ke dw 180 bc 0 (i6 u1) rfl ?_; intro xY kg
      refine bt kg dw 4 [1, 0] [] [(184, .agg #[i6 u1, i6 f.To, i6 (carriedS f u2 u3).1.ID, .bool (carriedS f u2 u3).1.Long, .bool (carriedS f u2 u3).1.Fast, .bool (carriedS f u2 u3).1.Remote, i6 (carriedS f u2 u3).1.Size, .slice a8 (carriedS f u2 u3).1.Data.length a9])] ?_; intro xZ kh
      refine nw kh dw (fun b => .slice (sm b) 1 1) [i6 u1, i6 f.To, i6 (carriedS f u2 u3).1.ID, .bool (carriedS f u2 u3).1.Long, .bool (carriedS f u2 u3).1.Fast, .bool (carriedS f u2 u3).1.Remote, i6 (carriedS f u2 u3).1.Size, .slice a8 (carriedS f u2 u3).1.Data.length a9] 42 ?_; intro ki x1 x2 kj fg
      obtain ⟨qz, qA⟩ := qt
      refine ap kj fg 3 (T := tyLine) (xs := L) (ys := [(⟨u1, f.To, (carriedS f u2 u3).1⟩ : Line)]) (ao := af) (cap := ag) (ao2 := (sm ki)) (cap2 := 1) (t := 31) (e := 42) (bytes := 64) (nog rfl _) rfl (by kernel_rfl) rfl (by kernel_rfl) (by kernel_rfl) (by kernel_rfl) rfl (Src.row fg 0 rfl (RepAll.one (T := tyLine) (x := (⟨u1, f.To, (carriedS f u2 u3).1⟩ : Line)) ⟨a8, a9, rfl, e1⟩)) qz ?_; intro fh fi x3 qB x4 kk kl
      have qC : Mem w.heap.size [] w Z [.row ki [i6 u1, i6 f.To, i6 (carriedS f u2 u3).1.ID, .bool (carriedS f u2 u3).1.Long, .bool (carriedS f u2 u3).1.Fast, .bool (carriedS f u2 u3).1.Remote, i6 (carriedS f u2 u3).1.Size, .slice a8 (carriedS f u2 u3).1.Data.length a9] 42, .row bQ (e25M ((carriedS f u2 u3).1) a8 a9) 25, .row bd (e29M f) 29, .own tyLine 42 fh fi (L ++ [(⟨u1, f.To, (carriedS f u2 u3).1⟩ : Line)]), .row Y [.slice R j.Routes.length U, .slice V j.Last.length W] 37, .row X [.slice N (gnewS u0.Routes).1.Routes.length O, .slice P (gnewS u0.Routes).1.Last.length Q] 37, .row y [.slice C (gstepS u0 u1 u2 u3).1.Routes.length D, .slice E (gstepS u0 u1 u2 u3).1.Last.length H] 37, .own tyLine 42 p q (gstepS u0 u1 u2 u3).2.1, .row I (e25M u3 ao7 cap8) 25, .row l [.slice ao1 u0.Routes.length cap2, .slice ao4 u0.Last.length cap5] 37, .own t6 3 (sm cx) ab (ad.set n.toNat u1), .row ak [.slice ao1 u0.Routes.length cap2, .slice (sm cx) (ad.set n.toNat u1).length ab] 37] bP qB := kl
      refine s1 kk 17 (.slice fh (L ++ [(⟨u1, f.To, (carriedS f u2 u3).1⟩ : Line)]).length fi) ?_; intro x5 qD
      apply kd
      exact j_ (d_ (di (L ++ [(⟨u1, f.To, (carriedS f u2 u3).1⟩ : Line)]) (ad.set n.toNat u1) fh fi bP ⟨qA, cv⟩ _ _ ((qD.reg).anyβ _ (by kernel_rfl)) (qC.kp)))
     have km := dt.reval (d := 161) (c := []) (v := .bool (bn == (-1))) (by kernel_rfl) (.bool false) (by rw [bo])
     have kn := km.setc (d := 162) (c := [1]) (v := i6 u1) (by kernel_rfl) (v' := i6 u1) (by rw [bo]; kernel_rfl)
     have ko := kn.setc (d := 163) (c := [1]) (v := pt l 1) (by kernel_rfl) (v' := pt l 1) (by rw [bo]; kernel_rfl)
     have kp := ko.setc (d := 164) (c := [1]) (v := .slice ao4 u0.Last.length cap5) (by kernel_rfl) (v' := .slice ao4 u0.Last.length cap5) (by rw [bo]; kernel_rfl)
     have fj := kp.setc (d := 165) (c := [1]) (v := i6 n) (by kernel_rfl) (v' := i6 n) (by rw [bo]; kernel_rfl)
     obtain ⟨qF, kq⟩ := qE
     refine qix fj (T := t6) (xs := u0.Last) bE n qF (k := .i64) (e := 3) (bytes := 8) (wK fj false) rfl (by kernel_rfl) rfl (by kernel_rfl) (by kernel_rfl) (by kernel_rfl) ?_; intro x6 x7 qG cm x8 qH qI qJ dx
     have dy := kq cm qH
     obtain rfl : qG = ([i6 cm] : List Value) := qJ
     refine qst dx (i6 cm) (wK dx false) rfl (by kernel_rfl) (fun v992 hC => lz dx hC.fz qI 0 (g := []) rfl (by kernel_rfl) (by kernel_rfl) (by kernel_rfl) rfl) ?_; intro x9 dz
     refine qg_ dz false (pt bd 6) ?_; intro ya dA
     refine qst dA (i6 f.Every) (wK dA false) rfl (by kernel_rfl) (fun v998 hC => ld dA hC 1 (g := []) (b := bd) (off := 6) (cs := (e29M f)) (ty := 29) rfl (by kernel_rfl) (by kernel_rfl) (by kernel_rfl) (by kernel_rfl) rfl) ?_; intro yb dB
     refine qg_ dB false (i6 (w64 (cm + f.Every))) ?_; intro yc dC
     refine qg_ dC false (.bool (decide (u1 ≥ (w64 (cm + f.Every))))) ?_; intro yd dD
     refine qg_ dD true (.bool (decide (u1 ≥ (w64 (cm + f.Every))))) ?_; intro ye kr
     refine q1 kr 173 (.bool (decide (u1 ≥ (w64 (cm + f.Every))))) ?_; intro qK dE
     refine qnl (cw _ ?_); intro yf cy
     refine c_ dE dy (fun _ qL => ?_) fun _ qZ => ?_
     ·
      have ks : Fr 200 [] [⟨2, [], i6 u2⟩, ⟨4, [], pt l 0⟩, ⟨5, [], pt aa 0⟩, ⟨7, [], pt I 0⟩, ⟨9, [], pt y 0⟩, ⟨10, [], .slice p (gstepS u0 u1 u2 u3).2.1.length q⟩, ⟨11, [], i6 (gstepS u0 u1 u2 u3).2.2⟩, ⟨16, [], pt ak 0⟩, ⟨17, [], .slice af L.length ag⟩, ⟨18, [], i6 n⟩, ⟨19, [], pt bd 0⟩, ⟨20, [], pt bQ 0⟩, ⟨139, [], .slice ao1 u0.Routes.length cap2⟩, ⟨140, [], i6 (u0.Routes.length : Int)⟩, ⟨141, [], i6 n⟩] qK := dE.reg
      refine sqH ?_; intro qM kt
      refine bt ks cy 3 [10] [] [(175, .slice ah ad.length ab), (176, i6 n)] ?_; intro yg ku
      refine z1 ku cy 177 bc 0 (i6 u1) rfl ?_; intro yh kv
      obtain ⟨qN, qO⟩ := qL
      refine ixo kv cy 9 (T := t6) (xs := ad) n qN (k := .i64) (e := 3) (bytes := 8) (nog rfl _) rfl (by kernel_rfl) rfl (by kernel_rfl) (by kernel_rfl) rfl (by kernel_rfl) ?_; intro cz qP qQ dF
      subst qQ
      refine so dF cy 9 (T := t6) (xs := ad) n.toNat u1 (u := i6 u1) (nog rfl _) rfl rfl (by kernel_rfl) rfl (by kernel_rfl) rfl (by kernel_rfl) (by first | omega | (simp only [List.length_set] at *; omega)) rfl ?_; intro qR kw
      have kx : Fr 200 [] [⟨2, [], i6 u2⟩, ⟨4, [], pt l 0⟩, ⟨5, [], pt aa 0⟩, ⟨7, [], pt I 0⟩, ⟨9, [], pt y 0⟩, ⟨10, [], .slice p (gstepS u0 u1 u2 u3).2.1.length q⟩, ⟨11, [], i6 (gstepS u0 u1 u2 u3).2.2⟩, ⟨16, [], pt ak 0⟩, ⟨17, [], .slice af L.length ag⟩, ⟨18, [], i6 n⟩, ⟨19, [], pt bd 0⟩, ⟨20, [], pt bQ 0⟩, ⟨139, [], .slice ao1 u0.Routes.length cap2⟩, ⟨140, [], i6 (u0.Routes.length : Int)⟩, ⟨141, [], i6 n⟩, ⟨175, [], .slice (sm cz) (ad.set n.toNat u1).length ab⟩, ⟨176, [], i6 n⟩, ⟨177, [], i6 u1⟩, ⟨178, [], .pointer (some ⟨cz, n.toNat * 1, none⟩)⟩] qP := by (try simp only [List.length_set] at dF); (try simp only [List.length_set]); exact dF.reg
      have qS : (ad.set n.toNat u1).length = ad.length := by first | assumption | (simp; try omega)
      have dG : Mem w.heap.size [] w Z [.row bQ (e25M ((carriedS f u2 u3).1) a8 a9) 25, .row bd (e29M f) 29, .own tyLine 42 af ag L, .row Y [.slice R j.Routes.length U, .slice V j.Last.length W] 37, .row X [.slice N (gnewS u0.Routes).1.Routes.length O, .slice P (gnewS u0.Routes).1.Last.length Q] 37, .row y [.slice C (gstepS u0 u1 u2 u3).1.Routes.length D, .slice E (gstepS u0 u1 u2 u3).1.Last.length H] 37, .own tyLine 42 p q (gstepS u0 u1 u2 u3).2.1, .row I (e25M u3 ao7 cap8) 25, .row l [.slice ao1 u0.Routes.length cap2, .slice ao4 u0.Last.length cap5] 37, .own t6 3 (sm cz) ab (ad.set n.toNat u1), .row ak [.slice ao1 u0.Routes.length cap2, .slice (sm cz) (ad.set n.toNat u1).length ab] 37] bP qR := by rw [qS]; exact kw
      apply kt
      refine rgH ?_; intro qT ky
      refine s1 kx 179 (.slice af L.length ag) ?_; intro yi kz
      refine z1 kz dG 180 bc 0 (i6 u1) rfl ?_; intro yj kA
      refine bt kA dG 4 [1, 0] [] [(184, .agg #[i6 u1, i6 f.To, i6 (carriedS f u2 u3).1.ID, .bool (carriedS f u2 u3).1.Long, .bool (carriedS f u2 u3).1.Fast, .bool (carriedS f u2 u3).1.Remote, i6 (carriedS f u2 u3).1.Size, .slice a8 (carriedS f u2 u3).1.Data.length a9])] ?_; intro yk kB
      refine nw kB dG (fun b => .slice (sm b) 1 1) [i6 u1, i6 f.To, i6 (carriedS f u2 u3).1.ID, .bool (carriedS f u2 u3).1.Long, .bool (carriedS f u2 u3).1.Fast, .bool (carriedS f u2 u3).1.Remote, i6 (carriedS f u2 u3).1.Size, .slice a8 (carriedS f u2 u3).1.Data.length a9] 42 ?_; intro kC yl ym kD fl
      obtain ⟨qU, qV⟩ := qO
      refine ap kD fl 3 (T := tyLine) (xs := L) (ys := [(⟨u1, f.To, (carriedS f u2 u3).1⟩ : Line)]) (ao := af) (cap := ag) (ao2 := (sm kC)) (cap2 := 1) (t := 31) (e := 42) (bytes := 64) (nog rfl _) rfl (by kernel_rfl) rfl (by kernel_rfl) (by kernel_rfl) (by kernel_rfl) rfl (Src.row fl 0 rfl (RepAll.one (T := tyLine) (x := (⟨u1, f.To, (carriedS f u2 u3).1⟩ : Line)) ⟨a8, a9, rfl, e1⟩)) qU ?_; intro fm fn yn qW yo kE kF
      have qX : Mem w.heap.size [] w Z [.row kC [i6 u1, i6 f.To, i6 (carriedS f u2 u3).1.ID, .bool (carriedS f u2 u3).1.Long, .bool (carriedS f u2 u3).1.Fast, .bool (carriedS f u2 u3).1.Remote, i6 (carriedS f u2 u3).1.Size, .slice a8 (carriedS f u2 u3).1.Data.length a9] 42, .row bQ (e25M ((carriedS f u2 u3).1) a8 a9) 25, .row bd (e29M f) 29, .own tyLine 42 fm fn (L ++ [(⟨u1, f.To, (carriedS f u2 u3).1⟩ : Line)]), .row Y [.slice R j.Routes.length U, .slice V j.Last.length W] 37, .row X [.slice N (gnewS u0.Routes).1.Routes.length O, .slice P (gnewS u0.Routes).1.Last.length Q] 37, .row y [.slice C (gstepS u0 u1 u2 u3).1.Routes.length D, .slice E (gstepS u0 u1 u2 u3).1.Last.length H] 37, .own tyLine 42 p q (gstepS u0 u1 u2 u3).2.1, .row I (e25M u3 ao7 cap8) 25, .row l [.slice ao1 u0.Routes.length cap2, .slice ao4 u0.Last.length cap5] 37, .own t6 3 (sm cz) ab (ad.set n.toNat u1), .row ak [.slice ao1 u0.Routes.length cap2, .slice (sm cz) (ad.set n.toNat u1).length ab] 37] bP qW := kF
      refine s1 kE 17 (.slice fm (L ++ [(⟨u1, f.To, (carriedS f u2 u3).1⟩ : Line)]).length fn) ?_; intro yp qY
      apply ky
      exact j_ (d_ (di (L ++ [(⟨u1, f.To, (carriedS f u2 u3).1⟩ : Line)]) (ad.set n.toNat u1) fm fn bP ⟨qV, cv⟩ _ _ ((qY.reg).anyβ _ (by kernel_rfl)) (qX.kp)))
     exact l_ (j_ (d_ (di L ad af ag bP ⟨qZ, cv⟩ _ _ ((dE.reg).anyβ _ (by kernel_rfl)) (cy.kp))))
    have kG := dn.reval (d := 154) (c := []) (v := .bool (carriedS f u2 u3).2) (by kernel_rfl) (.bool false) (by rw [bF])
    have kH := kG.setc (d := 155) (c := [0]) (v := pt l 1) (by kernel_rfl) (v' := undef) (by rw [bF]; kernel_rfl)
    have kI := kH.setc (d := 156) (c := [0]) (v := .slice ao4 u0.Last.length cap5) (by kernel_rfl) (v' := undef) (by rw [bF]; kernel_rfl)
    have kJ := kI.setc (d := 157) (c := [0]) (v := i6 n) (by kernel_rfl) (v' := undef) (by rw [bF]; kernel_rfl)
    refine qk_ kJ false ?_; intro yq kK
    refine qk_ kK false ?_; intro yr kL
    refine qk_ kL false ?_; intro yt kM
    refine qk_ kM false ?_; intro yu kN
    refine qsku kN rfl rfl (by kernel_rfl) (by kernel_rfl) rfl (by kernel_rfl) ?_; intro yv kO
    refine qsku kO rfl rfl (by kernel_rfl) (by kernel_rfl) rfl (by kernel_rfl) ?_; intro yw kP
    refine qsku kP rfl rfl (by kernel_rfl) (by kernel_rfl) rfl (by kernel_rfl) ?_; intro yx kQ
    refine qsku kQ rfl rfl (by kernel_rfl) (by kernel_rfl) rfl (by kernel_rfl) ?_; intro yy kR
    refine qsku kR rfl rfl (by kernel_rfl) (by kernel_rfl) rfl (by kernel_rfl) ?_; intro yz kS
    refine qsku kS rfl rfl (by kernel_rfl) (by kernel_rfl) rfl (by kernel_rfl) ?_; intro yA kT
    refine qsku kT rfl rfl (by kernel_rfl) (by kernel_rfl) rfl (by kernel_rfl) ?_; intro yB kU
    refine qsku kU rfl rfl (by kernel_rfl) (by kernel_rfl) rfl (by kernel_rfl) ?_; intro yC kV
    refine qsku kV rfl rfl (by kernel_rfl) (by kernel_rfl) rfl (by kernel_rfl) ?_; intro yD kW
    refine qsku kW rfl rfl (by kernel_rfl) (by kernel_rfl) rfl (by kernel_rfl) ?_; intro yE kX
    refine qk_ kX false ?_; intro yF kY
    refine q1 kY 173 (.bool false) ?_; intro yG kZ
    refine qnl (cw _ ?_); intro yH q2
    refine cdF kZ (by kernel_rfl) ?_
    exact l_ (j_ (d_ (di L ad af ag bP ⟨q0, cv⟩ _ _ ((kZ.reg).anyβ _ (by kernel_rfl)) (q2.kp))))
   refine x_ (y_ (y_ (z_ (t_ (sqH ?_))))); intro q4 k0
   refine s1 cQ 188 (i6 (gstepS u0 u1 u2 u3).2.2) ?_; intro yI k1
   refine s1 k1 189 (.bool ((gstepS u0 u1 u2 u3).2.2 == 0)) ?_; intro yJ k2
   refine s1 k2 190 (.bool ((gstepS u0 u1 u2 u3).2.2 == 0)) ?_; intro yK k3
   have fo := k3.atom (((gstepS u0 u1 u2 u3).2.2 == 0) == true) (by kernel_rfl)
   refine gd fo (.agg #[.slice C (gstepS u0 u1 u2 u3).1.Routes.length D, .slice E (gstepS u0 u1 u2 u3).1.Last.length H]) (m := 0) (cj := []) (bj := (gstepS u0 u1 u2 u3).2.2 == 0) rfl rfl (by kernel_rfl) rfl (by kernel_rfl) (by kernel_rfl) (by kernel_rfl) (fun hg => lda fo jq 3 (g := [0]) (b := y) (off := 0) (k := 2) (cs := [.slice C (gstepS u0 u1 u2 u3).1.Routes.length D, .slice E (gstepS u0 u1 u2 u3).1.Last.length H]) (vs := [.slice C (gstepS u0 u1 u2 u3).1.Routes.length D, .slice E (gstepS u0 u1 u2 u3).1.Last.length H]) (ty := 37) rfl (by kernel_rfl) (by kernel_rfl) (by kernel_rfl) (by kernel_rfl) (by kernel_rfl) hg) ?_; intro yL fp
   refine gd fp (.agg #[.slice ao1 u0.Routes.length cap2, .slice ah ad.length ab]) (m := 0) (cj := []) (bj := (gstepS u0 u1 u2 u3).2.2 == 0) rfl rfl (by kernel_rfl) rfl (by kernel_rfl) (by kernel_rfl) (by kernel_rfl) (fun hg => lda fp jq 8 (g := [0]) (b := ak) (off := 0) (k := 2) (cs := [.slice ao1 u0.Routes.length cap2, .slice ah ad.length ab]) (vs := [.slice ao1 u0.Routes.length cap2, .slice ah ad.length ab]) (ty := 37) rfl (by kernel_rfl) (by kernel_rfl) (by kernel_rfl) (by kernel_rfl) (by kernel_rfl) hg) ?_; intro yM k4
   obtain ⟨q5, bx, k5, cS⟩ := jq.freeze 7 rfl
   replace bD := bD.mono bx
   replace bN := bN.mono bx
   replace bO := bO.mono bx
   have fq : Mem w.heap.size [] w Z [.own tyLine 42 af ag L, .row Y [.slice R j.Routes.length U, .slice V j.Last.length W] 37, .row X [.slice N (gnewS u0.Routes).1.Routes.length O, .slice P (gnewS u0.Routes).1.Last.length Q] 37, .row y [.slice C (gstepS u0 u1 u2 u3).1.Routes.length D, .slice E (gstepS u0 u1 u2 u3).1.Last.length H] 37, .own tyLine 42 p q (gstepS u0 u1 u2 u3).2.1, .row I (e25M u3 ao7 cap8) 25, .row l [.slice ao1 u0.Routes.length cap2, .slice ao4 u0.Last.length cap5] 37, .row ak [.slice ao1 u0.Routes.length cap2, .slice ah ad.length ab] 37] q5 jo := k5
   refine gcl k4 fq (.bool (samegS (gstepS u0 u1 u2 u3).1 (⟨u0.Routes, ad⟩ : Gate))) 17 #[.agg #[.slice C (gstepS u0 u1 u2 u3).1.Routes.length D, .slice E (gstepS u0 u1 u2 u3).1.Last.length H], .agg #[.slice ao1 u0.Routes.length cap2, .slice ah ad.length ab]] (m := 0) (cj := []) (bj := (gstepS u0 u1 u2 u3).2.2 == 0) rfl rfl (by kernel_rfl) rfl (by kernel_rfl) (by kernel_rfl) (by kernel_rfl) (fun _ => by kernel_rfl) (fun hg => sameg_fun (gstepS u0 u1 u2 u3).1 (⟨u0.Routes, ad⟩ : Gate) C D E H ao1 cap2 ah ab _ _ bN bO bD cS fq.fz) ?_; intro yN k6 fr q6
   refine u_ fr (.bool (((gstepS u0 u1 u2 u3).2.2 == 0) && (samegS (gstepS u0 u1 u2 u3).1 (⟨u0.Routes, ad⟩ : Gate)))) (pk_and fr (g := []) (m := 0) (b := (gstepS u0 u1 u2 u3).2.2 == 0) (v := (samegS (gstepS u0 u1 u2 u3).1 (⟨u0.Routes, ad⟩ : Gate))) rfl (by kernel_rfl) (by kernel_rfl) (by kernel_rfl) rfl) ?_; intro yO k7
   refine s1 k7 195 (.bool (((gstepS u0 u1 u2 u3).2.2 == 0) && (samegS (gstepS u0 u1 u2 u3).1 (⟨u0.Routes, ad⟩ : Gate)))) ?_; intro yP k8
   have k9 := k8.atom ((((gstepS u0 u1 u2 u3).2.2 == 0) && (samegS (gstepS u0 u1 u2 u3).1 (⟨u0.Routes, ad⟩ : Gate))) == true) (by kernel_rfl)
   refine gp k9 196 1 [] (((gstepS u0 u1 u2 u3).2.2 == 0) && (samegS (gstepS u0 u1 u2 u3).1 (⟨u0.Routes, ad⟩ : Gate))) (.slice p (gstepS u0 u1 u2 u3).2.1.length q) rfl rfl ?_; intro yQ la
   refine gp la 197 1 [] (((gstepS u0 u1 u2 u3).2.2 == 0) && (samegS (gstepS u0 u1 u2 u3).1 (⟨u0.Routes, ad⟩ : Gate))) (.slice af L.length ag) rfl rfl ?_; intro yR lb
   obtain ⟨q7, bp, lc, fs⟩ := q6.freeze 4 rfl
   have q8 : Mem w.heap.size [] w Z [.own tyLine 42 af ag L, .row Y [.slice R j.Routes.length U, .slice V j.Last.length W] 37, .row X [.slice N (gnewS u0.Routes).1.Routes.length O, .slice P (gnewS u0.Routes).1.Last.length Q] 37, .row y [.slice C (gstepS u0 u1 u2 u3).1.Routes.length D, .slice E (gstepS u0 u1 u2 u3).1.Last.length H] 37, .row I (e25M u3 ao7 cap8) 25, .row l [.slice ao1 u0.Routes.length cap2, .slice ao4 u0.Last.length cap5] 37, .row ak [.slice ao1 u0.Routes.length cap2, .slice ah ad.length ab] 37] q7 k6 := lc
   obtain ⟨q9, bf, lf, ra⟩ := q8.freeze 0 rfl
   replace fs := fs.mono bf
   have ft : Mem w.heap.size [] w Z [.row Y [.slice R j.Routes.length U, .slice V j.Last.length W] 37, .row X [.slice N (gnewS u0.Routes).1.Routes.length O, .slice P (gnewS u0.Routes).1.Last.length Q] 37, .row y [.slice C (gstepS u0 u1 u2 u3).1.Routes.length D, .slice E (gstepS u0 u1 u2 u3).1.Last.length H] 37, .row I (e25M u3 ao7 cap8) 25, .row l [.slice ao1 u0.Routes.length cap2, .slice ao4 u0.Last.length cap5] 37, .row ak [.slice ao1 u0.Routes.length cap2, .slice ah ad.length ab] 37] q9 k6 := lf
   refine gcl lb ft (.bool (samelS (gstepS u0 u1 u2 u3).2.1 L)) 23 #[.slice p (gstepS u0 u1 u2 u3).2.1.length q, .slice af L.length ag] (m := 1) (cj := []) (bj := ((gstepS u0 u1 u2 u3).2.2 == 0) && (samegS (gstepS u0 u1 u2 u3).1 (⟨u0.Routes, ad⟩ : Gate))) rfl rfl (by kernel_rfl) rfl (by kernel_rfl) (by kernel_rfl) (by kernel_rfl) (fun _ => by kernel_rfl) (fun hg => samel_fun (gstepS u0 u1 u2 u3).2.1 L p q af ag _ _ fs ra ft.fz) ?_; intro yS yT fu rb
   refine u_ fu (.bool ((((gstepS u0 u1 u2 u3).2.2 == 0) && (samegS (gstepS u0 u1 u2 u3).1 (⟨u0.Routes, ad⟩ : Gate))) && (samelS (gstepS u0 u1 u2 u3).2.1 L))) (pk_and fu (g := []) (m := 1) (b := ((gstepS u0 u1 u2 u3).2.2 == 0) && (samegS (gstepS u0 u1 u2 u3).1 (⟨u0.Routes, ad⟩ : Gate))) (v := (samelS (gstepS u0 u1 u2 u3).2.1 L)) rfl (by kernel_rfl) (by kernel_rfl) (by kernel_rfl) rfl) ?_; intro yU lg
   refine s1 lg 8 (.bool ((((gstepS u0 u1 u2 u3).2.2 == 0) && (samegS (gstepS u0 u1 u2 u3).1 (⟨u0.Routes, ad⟩ : Gate))) && (samelS (gstepS u0 u1 u2 u3).2.1 L))) ?_; intro yV rc
   apply k0
   exact r_ (ra1 rc (.bool ((((gstepS u0 u1 u2 u3).2.2 == 0) && (samegS (gstepS u0 u1 u2 u3).1 (⟨u0.Routes, ad⟩ : Gate))) && (samelS (gstepS u0 u1 u2 u3).2.1 L))) ⟨(((gstepS u0 u1 u2 u3).2.2 == 0) && (samegS (gstepS u0 u1 u2 u3).1 (⟨u0.Routes, ad⟩ : Gate))) && (samelS (gstepS u0 u1 u2 u3).2.1 L), rfl, q3, rb.below⟩)
 refine k_ (s_ (sqB cL aT [5, 5] [] [(108, .bool (((gcheckS u0) == 0) && ((((decide (u1 < 0)) || (decide (u1 > 1000000))) || (decide (u2 < 0))) || (decide (u2 > 3)))))] ?_)); intro yW cT
 refine c_ cT dH (fun _ re => ?_) fun _ dI => ?_
 ·
  refine rgB cT aT [] [] [(14, i6 3)] ?_; intro yX lh
  refine t_ (s_ (sqB lh aT [] [112, 113, 114, 115, 116] [(116, .bool false)] ?_)); intro yY fw
  refine cdF fw (by kernel_rfl) ?_
  refine k_ (s_ (sqB fw aT [] [] [(118, .bool true)] ?_)); intro yZ fx
  refine cdT fx (by kernel_rfl) ?_
  refine sqH ?_; intro rf li
  refine s1 fx 119 (i6 (gstepS u0 u1 u2 u3).2.2) ?_; intro y0 lj
  refine s1 lj 120 (i6 3) ?_; intro y1 lk
  refine s1 lk 121 (.bool ((gstepS u0 u1 u2 u3).2.2 == 3)) ?_; intro y2 ll
  refine s1 ll 122 (.bool ((gstepS u0 u1 u2 u3).2.2 == 3)) ?_; intro y3 lm
  have fy := lm.atom (((gstepS u0 u1 u2 u3).2.2 == 3) == true) (by kernel_rfl)
  refine gd fy (.agg #[.slice C (gstepS u0 u1 u2 u3).1.Routes.length D, .slice E (gstepS u0 u1 u2 u3).1.Last.length H]) (m := 0) (cj := []) (bj := (gstepS u0 u1 u2 u3).2.2 == 3) rfl rfl (by kernel_rfl) rfl (by kernel_rfl) (by kernel_rfl) (by kernel_rfl) (fun hg => lda fy aT 2 (g := [0]) (b := y) (off := 0) (k := 2) (cs := [.slice C (gstepS u0 u1 u2 u3).1.Routes.length D, .slice E (gstepS u0 u1 u2 u3).1.Last.length H]) (vs := [.slice C (gstepS u0 u1 u2 u3).1.Routes.length D, .slice E (gstepS u0 u1 u2 u3).1.Last.length H]) (ty := 37) rfl (by kernel_rfl) (by kernel_rfl) (by kernel_rfl) (by kernel_rfl) (by kernel_rfl) hg) ?_; intro y4 ln
  refine gp ln 124 0 [] ((gstepS u0 u1 u2 u3).2.2 == 3) (.agg #[.slice none 0 0, .slice none 0 0]) rfl rfl ?_; intro y5 lo
  refine gcl lo aT (.bool (samegS (gstepS u0 u1 u2 u3).1 (⟨[], []⟩ : Gate))) 17 #[.agg #[.slice C (gstepS u0 u1 u2 u3).1.Routes.length D, .slice E (gstepS u0 u1 u2 u3).1.Last.length H], .agg #[.slice none 0 0, .slice none 0 0]] (m := 0) (cj := []) (bj := (gstepS u0 u1 u2 u3).2.2 == 3) rfl rfl (by kernel_rfl) rfl (by kernel_rfl) (by kernel_rfl) (by kernel_rfl) (fun _ => by kernel_rfl) (fun hg => sameg_fun (gstepS u0 u1 u2 u3).1 (⟨[], []⟩ : Gate) C D E H none 0 none 0 _ _ am an (SlR.nil _ _) (SlR.nil _ _) aT.fz) ?_; intro y6 y7 fA rg
  refine u_ fA (.bool (((gstepS u0 u1 u2 u3).2.2 == 3) && (samegS (gstepS u0 u1 u2 u3).1 (⟨[], []⟩ : Gate)))) (pk_and fA (g := []) (m := 0) (b := (gstepS u0 u1 u2 u3).2.2 == 3) (v := (samegS (gstepS u0 u1 u2 u3).1 (⟨[], []⟩ : Gate))) rfl (by kernel_rfl) (by kernel_rfl) (by kernel_rfl) rfl) ?_; intro y8 lq
  refine s1 lq 127 (.bool (((gstepS u0 u1 u2 u3).2.2 == 3) && (samegS (gstepS u0 u1 u2 u3).1 (⟨[], []⟩ : Gate)))) ?_; intro y9 lr
  have ls := lr.atom ((((gstepS u0 u1 u2 u3).2.2 == 3) && (samegS (gstepS u0 u1 u2 u3).1 (⟨[], []⟩ : Gate))) == true) (by kernel_rfl)
  refine gp ls 128 1 [] (((gstepS u0 u1 u2 u3).2.2 == 3) && (samegS (gstepS u0 u1 u2 u3).1 (⟨[], []⟩ : Gate))) (.slice p (gstepS u0 u1 u2 u3).2.1.length q) rfl rfl ?_; intro za lt
  refine gp lt 129 1 [] (((gstepS u0 u1 u2 u3).2.2 == 3) && (samegS (gstepS u0 u1 u2 u3).1 (⟨[], []⟩ : Gate))) (i6 ((gstepS u0 u1 u2 u3).2.1.length : Int)) rfl rfl ?_; intro zb lu
  refine gp lu 130 1 [] (((gstepS u0 u1 u2 u3).2.2 == 3) && (samegS (gstepS u0 u1 u2 u3).1 (⟨[], []⟩ : Gate))) (.bool (((gstepS u0 u1 u2 u3).2.1.length : Int) == 0)) rfl rfl ?_; intro zc fB
  refine u_ fB (.bool ((((gstepS u0 u1 u2 u3).2.2 == 3) && (samegS (gstepS u0 u1 u2 u3).1 (⟨[], []⟩ : Gate))) && (((gstepS u0 u1 u2 u3).2.1.length : Int) == 0))) (pk_and fB (g := []) (m := 1) (b := ((gstepS u0 u1 u2 u3).2.2 == 3) && (samegS (gstepS u0 u1 u2 u3).1 (⟨[], []⟩ : Gate))) (v := ((gstepS u0 u1 u2 u3).2.1.length : Int) == 0) rfl (by kernel_rfl) (by kernel_rfl) (by kernel_rfl) rfl) ?_; intro zd lv
  refine s1 lv 8 (.bool ((((gstepS u0 u1 u2 u3).2.2 == 3) && (samegS (gstepS u0 u1 u2 u3).1 (⟨[], []⟩ : Gate))) && (((gstepS u0 u1 u2 u3).2.1.length : Int) == 0))) ?_; intro ze rh
  apply li
  exact r_ (h_ (ra1 rh (.bool ((((gstepS u0 u1 u2 u3).2.2 == 3) && (samegS (gstepS u0 u1 u2 u3).1 (⟨[], []⟩ : Gate))) && (((gstepS u0 u1 u2 u3).2.1.length : Int) == 0))) ⟨(((gstepS u0 u1 u2 u3).2.2 == 3) && (samegS (gstepS u0 u1 u2 u3).1 (⟨[], []⟩ : Gate))) && (((gstepS u0 u1 u2 u3).2.1.length : Int) == 0), rfl, re, rg.below⟩))
 refine k_ (s_ (sqH ?_)); intro ri lw
 refine s1 cT 109 (i6 (gcheckS u0)) ?_; intro zf lx
 refine s1 lx 110 (.bool ((gcheckS u0) == 0)) ?_; intro zg ly
 refine s1 ly 111 (.bool ((gcheckS u0) == 0)) ?_; intro zh lA
 have lB := lA.atom (((gcheckS u0) == 0) == true) (by kernel_rfl)
 refine gp lB 112 0 [] ((gcheckS u0) == 0) (pt l 1) rfl rfl ?_; intro zi fC
 refine gd fC (.slice ao4 u0.Last.length cap5) (m := 0) (cj := []) (bj := (gcheckS u0) == 0) rfl rfl (by kernel_rfl) rfl (by kernel_rfl) (by kernel_rfl) (by kernel_rfl) (fun hg => ld fC aT 6 (g := [0]) (b := l) (off := 1) (cs := [.slice ao1 u0.Routes.length cap2, .slice ao4 u0.Last.length cap5]) (ty := 37) rfl (by kernel_rfl) (by kernel_rfl) (by kernel_rfl) (by kernel_rfl) hg) ?_; intro zj lC
 refine gp lC 114 0 [] ((gcheckS u0) == 0) (.func (.func 20) #[] #[pt aa 0]) rfl rfl ?_; intro zk lD
 obtain ⟨fD, bR, lE, bS⟩ := aT.freezeRow 5 rfl
 replace hs3 := hs3.mono bR
 replace hs6 := hs6.mono bR
 replace hs9 := hs9.mono bR
 replace am := am.mono bR
 replace an := an.mono bR
 have fE : Mem w.heap.size [] w Z [.row Y [.slice R j.Routes.length U, .slice V j.Last.length W] 37, .row X [.slice N (gnewS u0.Routes).1.Routes.length O, .slice P (gnewS u0.Routes).1.Last.length Q] 37, .row y [.slice C (gstepS u0 u1 u2 u3).1.Routes.length D, .slice E (gstepS u0 u1 u2 u3).1.Last.length H] 37, .own tyLine 42 p q (gstepS u0 u1 u2 u3).2.1, .row I (e25M u3 ao7 cap8) 25, .row l [.slice ao1 u0.Routes.length cap2, .slice ao4 u0.Last.length cap5] 37] fD oU := lE
 refine gcl lD fE (.bool (icontfS u0.Last (fun x0 => RStep1 x0 u1))) 19 #[.slice ao4 u0.Last.length cap5, .func (.func 20) #[] #[pt aa 0]] (m := 0) (cj := []) (bj := (gcheckS u0) == 0) rfl rfl (by kernel_rfl) rfl (by kernel_rfl) (by kernel_rfl) (by kernel_rfl) (fun _ => by kernel_rfl) (fun hg => icontf_fun u0.Last (fun x0 => RStep1 x0 u1) ao4 cap5 20 #[pt aa 0] _ _ hs6 (fun Z1 w1 h1 h2 x0 => RStep1_fun x0 u1 aa 0 Z1 w1 (bS.mono h1) h2) (fun _ _ => by kernel_rfl) fE.fz) ?_; intro zl zm fF bz
 refine u_ fF (.bool (((gcheckS u0) == 0) && (icontfS u0.Last (fun x0 => RStep1 x0 u1)))) (pk_and fF (g := []) (m := 0) (b := (gcheckS u0) == 0) (v := (icontfS u0.Last (fun x0 => RStep1 x0 u1))) rfl (by kernel_rfl) (by kernel_rfl) (by kernel_rfl) rfl) ?_; intro lF cU
 apply lw
 refine c_ cU dI (fun _ rj => ?_) fun _ dJ => ?_
 ·
  have lG : Fr 200 [] [⟨2, [], i6 u2⟩, ⟨4, [], pt l 0⟩, ⟨5, [], pt aa 0⟩, ⟨7, [], pt I 0⟩, ⟨9, [], pt y 0⟩, ⟨10, [], .slice p (gstepS u0 u1 u2 u3).2.1.length q⟩, ⟨11, [], i6 (gstepS u0 u1 u2 u3).2.2⟩] lF := cU.reg
  refine rgB lG bz [] [] [(14, i6 12)] ?_; intro zn lH
  refine t_ (s_ (sqB lH bz [] [] [(118, .bool true)] ?_)); intro zo fH
  refine cdT fH (by kernel_rfl) ?_
  refine sqH ?_; intro rk lI
  refine s1 fH 119 (i6 (gstepS u0 u1 u2 u3).2.2) ?_; intro zp lJ
  refine s1 lJ 120 (i6 12) ?_; intro zq lK
  refine s1 lK 121 (.bool ((gstepS u0 u1 u2 u3).2.2 == 12)) ?_; intro zr lL
  refine s1 lL 122 (.bool ((gstepS u0 u1 u2 u3).2.2 == 12)) ?_; intro zs lM
  have fI := lM.atom (((gstepS u0 u1 u2 u3).2.2 == 12) == true) (by kernel_rfl)
  refine gd fI (.agg #[.slice C (gstepS u0 u1 u2 u3).1.Routes.length D, .slice E (gstepS u0 u1 u2 u3).1.Last.length H]) (m := 0) (cj := []) (bj := (gstepS u0 u1 u2 u3).2.2 == 12) rfl rfl (by kernel_rfl) rfl (by kernel_rfl) (by kernel_rfl) (by kernel_rfl) (fun hg => lda fI bz 2 (g := [0]) (b := y) (off := 0) (k := 2) (cs := [.slice C (gstepS u0 u1 u2 u3).1.Routes.length D, .slice E (gstepS u0 u1 u2 u3).1.Last.length H]) (vs := [.slice C (gstepS u0 u1 u2 u3).1.Routes.length D, .slice E (gstepS u0 u1 u2 u3).1.Last.length H]) (ty := 37) rfl (by kernel_rfl) (by kernel_rfl) (by kernel_rfl) (by kernel_rfl) (by kernel_rfl) hg) ?_; intro zt lN
  refine gp lN 124 0 [] ((gstepS u0 u1 u2 u3).2.2 == 12) (.agg #[.slice none 0 0, .slice none 0 0]) rfl rfl ?_; intro zu lO
  refine gcl lO bz (.bool (samegS (gstepS u0 u1 u2 u3).1 (⟨[], []⟩ : Gate))) 17 #[.agg #[.slice C (gstepS u0 u1 u2 u3).1.Routes.length D, .slice E (gstepS u0 u1 u2 u3).1.Last.length H], .agg #[.slice none 0 0, .slice none 0 0]] (m := 0) (cj := []) (bj := (gstepS u0 u1 u2 u3).2.2 == 12) rfl rfl (by kernel_rfl) rfl (by kernel_rfl) (by kernel_rfl) (by kernel_rfl) (fun _ => by kernel_rfl) (fun hg => sameg_fun (gstepS u0 u1 u2 u3).1 (⟨[], []⟩ : Gate) C D E H none 0 none 0 _ _ am an (SlR.nil _ _) (SlR.nil _ _) bz.fz) ?_; intro zv zw fJ rl
  refine u_ fJ (.bool (((gstepS u0 u1 u2 u3).2.2 == 12) && (samegS (gstepS u0 u1 u2 u3).1 (⟨[], []⟩ : Gate)))) (pk_and fJ (g := []) (m := 0) (b := (gstepS u0 u1 u2 u3).2.2 == 12) (v := (samegS (gstepS u0 u1 u2 u3).1 (⟨[], []⟩ : Gate))) rfl (by kernel_rfl) (by kernel_rfl) (by kernel_rfl) rfl) ?_; intro zx lP
  refine s1 lP 127 (.bool (((gstepS u0 u1 u2 u3).2.2 == 12) && (samegS (gstepS u0 u1 u2 u3).1 (⟨[], []⟩ : Gate)))) ?_; intro zy lQ
  have lR := lQ.atom ((((gstepS u0 u1 u2 u3).2.2 == 12) && (samegS (gstepS u0 u1 u2 u3).1 (⟨[], []⟩ : Gate))) == true) (by kernel_rfl)
  refine gp lR 128 1 [] (((gstepS u0 u1 u2 u3).2.2 == 12) && (samegS (gstepS u0 u1 u2 u3).1 (⟨[], []⟩ : Gate))) (.slice p (gstepS u0 u1 u2 u3).2.1.length q) rfl rfl ?_; intro zz lS
  refine gp lS 129 1 [] (((gstepS u0 u1 u2 u3).2.2 == 12) && (samegS (gstepS u0 u1 u2 u3).1 (⟨[], []⟩ : Gate))) (i6 ((gstepS u0 u1 u2 u3).2.1.length : Int)) rfl rfl ?_; intro zA lT
  refine gp lT 130 1 [] (((gstepS u0 u1 u2 u3).2.2 == 12) && (samegS (gstepS u0 u1 u2 u3).1 (⟨[], []⟩ : Gate))) (.bool (((gstepS u0 u1 u2 u3).2.1.length : Int) == 0)) rfl rfl ?_; intro zB fK
  refine u_ fK (.bool ((((gstepS u0 u1 u2 u3).2.2 == 12) && (samegS (gstepS u0 u1 u2 u3).1 (⟨[], []⟩ : Gate))) && (((gstepS u0 u1 u2 u3).2.1.length : Int) == 0))) (pk_and fK (g := []) (m := 1) (b := ((gstepS u0 u1 u2 u3).2.2 == 12) && (samegS (gstepS u0 u1 u2 u3).1 (⟨[], []⟩ : Gate))) (v := ((gstepS u0 u1 u2 u3).2.1.length : Int) == 0) rfl (by kernel_rfl) (by kernel_rfl) (by kernel_rfl) rfl) ?_; intro zC lU
  refine s1 lU 8 (.bool ((((gstepS u0 u1 u2 u3).2.2 == 12) && (samegS (gstepS u0 u1 u2 u3).1 (⟨[], []⟩ : Gate))) && (((gstepS u0 u1 u2 u3).2.1.length : Int) == 0))) ?_; intro zD rm
  apply lI
  exact r_ (h_ (ra1 rm (.bool ((((gstepS u0 u1 u2 u3).2.2 == 12) && (samegS (gstepS u0 u1 u2 u3).1 (⟨[], []⟩ : Gate))) && (((gstepS u0 u1 u2 u3).2.1.length : Int) == 0))) ⟨(((gstepS u0 u1 u2 u3).2.2 == 12) && (samegS (gstepS u0 u1 u2 u3).1 (⟨[], []⟩ : Gate))) && (((gstepS u0 u1 u2 u3).2.1.length : Int) == 0), rfl, rj, rl.below⟩))
 refine k_ (s_ ?_)
 have lV : Fr 200 [] [⟨2, [], i6 u2⟩, ⟨4, [], pt l 0⟩, ⟨5, [], pt aa 0⟩, ⟨7, [], pt I 0⟩, ⟨9, [], pt y 0⟩, ⟨10, [], .slice p (gstepS u0 u1 u2 u3).2.1.length q⟩, ⟨11, [], i6 (gstepS u0 u1 u2 u3).2.2⟩, ⟨14, [], i6 (gcheckS u0)⟩] lF := cU.reg
 refine sqB lV bz [] [] [(118, .bool ((gcheckS u0) != 0))] ?_; intro cn cV
 refine c_ cV dJ (fun _ rn => ?_) fun _ rr => ?_
 ·
  refine sqH ?_; intro ro lW
  refine s1 cV 119 (i6 (gstepS u0 u1 u2 u3).2.2) ?_; intro zE lX
  refine s1 lX 120 (i6 (gcheckS u0)) ?_; intro zF lY
  refine s1 lY 121 (.bool ((gstepS u0 u1 u2 u3).2.2 == (gcheckS u0))) ?_; intro zG lZ
  refine s1 lZ 122 (.bool ((gstepS u0 u1 u2 u3).2.2 == (gcheckS u0))) ?_; intro zH l0
  have fM := l0.atom (((gstepS u0 u1 u2 u3).2.2 == (gcheckS u0)) == true) (by kernel_rfl)
  refine gd fM (.agg #[.slice C (gstepS u0 u1 u2 u3).1.Routes.length D, .slice E (gstepS u0 u1 u2 u3).1.Last.length H]) (m := 0) (cj := []) (bj := (gstepS u0 u1 u2 u3).2.2 == (gcheckS u0)) rfl rfl (by kernel_rfl) rfl (by kernel_rfl) (by kernel_rfl) (by kernel_rfl) (fun hg => lda fM bz 2 (g := [0]) (b := y) (off := 0) (k := 2) (cs := [.slice C (gstepS u0 u1 u2 u3).1.Routes.length D, .slice E (gstepS u0 u1 u2 u3).1.Last.length H]) (vs := [.slice C (gstepS u0 u1 u2 u3).1.Routes.length D, .slice E (gstepS u0 u1 u2 u3).1.Last.length H]) (ty := 37) rfl (by kernel_rfl) (by kernel_rfl) (by kernel_rfl) (by kernel_rfl) (by kernel_rfl) hg) ?_; intro zI l3
  refine gp l3 124 0 [] ((gstepS u0 u1 u2 u3).2.2 == (gcheckS u0)) (.agg #[.slice none 0 0, .slice none 0 0]) rfl rfl ?_; intro zJ l4
  refine gcl l4 bz (.bool (samegS (gstepS u0 u1 u2 u3).1 (⟨[], []⟩ : Gate))) 17 #[.agg #[.slice C (gstepS u0 u1 u2 u3).1.Routes.length D, .slice E (gstepS u0 u1 u2 u3).1.Last.length H], .agg #[.slice none 0 0, .slice none 0 0]] (m := 0) (cj := []) (bj := (gstepS u0 u1 u2 u3).2.2 == (gcheckS u0)) rfl rfl (by kernel_rfl) rfl (by kernel_rfl) (by kernel_rfl) (by kernel_rfl) (fun _ => by kernel_rfl) (fun hg => sameg_fun (gstepS u0 u1 u2 u3).1 (⟨[], []⟩ : Gate) C D E H none 0 none 0 _ _ am an (SlR.nil _ _) (SlR.nil _ _) bz.fz) ?_; intro zK zL fN rp
  refine u_ fN (.bool (((gstepS u0 u1 u2 u3).2.2 == (gcheckS u0)) && (samegS (gstepS u0 u1 u2 u3).1 (⟨[], []⟩ : Gate)))) (pk_and fN (g := []) (m := 0) (b := (gstepS u0 u1 u2 u3).2.2 == (gcheckS u0)) (v := (samegS (gstepS u0 u1 u2 u3).1 (⟨[], []⟩ : Gate))) rfl (by kernel_rfl) (by kernel_rfl) (by kernel_rfl) rfl) ?_; intro zM l5
  refine s1 l5 127 (.bool (((gstepS u0 u1 u2 u3).2.2 == (gcheckS u0)) && (samegS (gstepS u0 u1 u2 u3).1 (⟨[], []⟩ : Gate)))) ?_; intro zN l6
  have l7 := l6.atom ((((gstepS u0 u1 u2 u3).2.2 == (gcheckS u0)) && (samegS (gstepS u0 u1 u2 u3).1 (⟨[], []⟩ : Gate))) == true) (by kernel_rfl)
  refine gp l7 128 1 [] (((gstepS u0 u1 u2 u3).2.2 == (gcheckS u0)) && (samegS (gstepS u0 u1 u2 u3).1 (⟨[], []⟩ : Gate))) (.slice p (gstepS u0 u1 u2 u3).2.1.length q) rfl rfl ?_; intro zO l8
  refine gp l8 129 1 [] (((gstepS u0 u1 u2 u3).2.2 == (gcheckS u0)) && (samegS (gstepS u0 u1 u2 u3).1 (⟨[], []⟩ : Gate))) (i6 ((gstepS u0 u1 u2 u3).2.1.length : Int)) rfl rfl ?_; intro zP l9
  refine gp l9 130 1 [] (((gstepS u0 u1 u2 u3).2.2 == (gcheckS u0)) && (samegS (gstepS u0 u1 u2 u3).1 (⟨[], []⟩ : Gate))) (.bool (((gstepS u0 u1 u2 u3).2.1.length : Int) == 0)) rfl rfl ?_; intro zQ fO
  refine u_ fO (.bool ((((gstepS u0 u1 u2 u3).2.2 == (gcheckS u0)) && (samegS (gstepS u0 u1 u2 u3).1 (⟨[], []⟩ : Gate))) && (((gstepS u0 u1 u2 u3).2.1.length : Int) == 0))) (pk_and fO (g := []) (m := 1) (b := ((gstepS u0 u1 u2 u3).2.2 == (gcheckS u0)) && (samegS (gstepS u0 u1 u2 u3).1 (⟨[], []⟩ : Gate))) (v := ((gstepS u0 u1 u2 u3).2.1.length : Int) == 0) rfl (by kernel_rfl) (by kernel_rfl) (by kernel_rfl) rfl) ?_; intro zR ma
  refine s1 ma 8 (.bool ((((gstepS u0 u1 u2 u3).2.2 == (gcheckS u0)) && (samegS (gstepS u0 u1 u2 u3).1 (⟨[], []⟩ : Gate))) && (((gstepS u0 u1 u2 u3).2.1.length : Int) == 0))) ?_; intro zS rq
  apply lW
  exact r_ (h_ (ra1 rq (.bool ((((gstepS u0 u1 u2 u3).2.2 == (gcheckS u0)) && (samegS (gstepS u0 u1 u2 u3).1 (⟨[], []⟩ : Gate))) && (((gstepS u0 u1 u2 u3).2.1.length : Int) == 0))) ⟨(((gstepS u0 u1 u2 u3).2.2 == (gcheckS u0)) && (samegS (gstepS u0 u1 u2 u3).1 (⟨[], []⟩ : Gate))) && (((gstepS u0 u1 u2 u3).2.1.length : Int) == 0), rfl, rn, rp.below⟩))
 apply k_
 have rs : Fr 200 [] [⟨2, [], i6 u2⟩, ⟨4, [], pt l 0⟩, ⟨5, [], pt aa 0⟩, ⟨7, [], pt I 0⟩, ⟨9, [], pt y 0⟩, ⟨10, [], .slice p (gstepS u0 u1 u2 u3).2.1.length q⟩, ⟨11, [], i6 (gstepS u0 u1 u2 u3).2.2⟩] cn := cV.reg
 obtain ⟨eT, rt⟩ := rr
 refine wp_seq (any_invE mixed [[], [0], [], [2], [3], [1, 4], [], [0, 1, 2, 3, 4, 5, 6]] 8 (fun S a w1 => ∃ (ai : Option Addr) (ac : Nat) (al : Nat) (aC : Value) (aU : Value) (aO : Value) (a4 : Value) (aV : Value) (aP : Value) (aD : Value) (b0 : Res) (b1 : Res) (b2 : Res) (b3 : Res) (b4 : Res) (b5 : Res) (aW : Res) (aw : Res) (aB : Fz), Fz.le fD aB ∧ Fr 200 [] [⟨2, [], i6 u2⟩, ⟨4, [], pt l 0⟩, ⟨5, [], pt aa 0⟩, ⟨7, [], pt I 0⟩, ⟨9, [], pt y 0⟩, ⟨10, [], .slice p (gstepS u0 u1 u2 u3).2.1.length q⟩, ⟨11, [], i6 (gstepS u0 u1 u2 u3).2.2⟩, ⟨16, [], aC⟩, ⟨132, [], aU⟩, ⟨133, [], aO⟩, ⟨134, [], a4⟩, ⟨135, [], aV⟩, ⟨136, [], aP⟩, ⟨137, [], aD⟩] a ∧ Mem w.heap.size [] w Z [b0, b1, b2, b3, b4, b5, aW, aw] aB w1 ∧ (S 6 = true → aC = pt al 0) ∧ (S 0 = true → aU = pt l 0) ∧ (S 1 = true → aO = .slice ao1 u0.Routes.length cap2) ∧ (S 2 = true → a4 = pt l 1) ∧ (S 3 = true → aV = .slice ao4 u0.Last.length cap5) ∧ (S 4 = true → aP = .slice ai (iclS u0.Last).length ac) ∧ (S 5 = true → aD = .agg #[.slice ao1 u0.Routes.length cap2, .slice ai (iclS u0.Last).length ac]) ∧ (b0 = .row Y [.slice R j.Routes.length U, .slice V j.Last.length W] 37) ∧ (b1 = .row X [.slice N (gnewS u0.Routes).1.Routes.length O, .slice P (gnewS u0.Routes).1.Last.length Q] 37) ∧ (b2 = .row y [.slice C (gstepS u0 u1 u2 u3).1.Routes.length D, .slice E (gstepS u0 u1 u2 u3).1.Last.length H] 37) ∧ (b3 = .own tyLine 42 p q (gstepS u0 u1 u2 u3).2.1) ∧ (b4 = .row I (e25M u3 ao7 cap8) 25) ∧ (b5 = .row l [.slice ao1 u0.Routes.length cap2, .slice ao4 u0.Last.length cap5] 37) ∧ (S 4 = false → aW = .nil) ∧ (S 4 = true → aW = .own t6 3 ai ac (iclS u0.Last)) ∧ (S 6 = false → aw = .nil) ∧ (S 6 = true → S 7 = false → aw = .row al [.slice none 0 0, .slice none 0 0] 37) ∧ (S 7 = true → aw = .row al [.slice ao1 u0.Routes.length cap2, .slice ai (iclS u0.Last).length ac] 37)) ?h0 ?hs ?hE)
 case h0 =>
  have ru := rs.any 16
  have rv := ru.any 132
  have rx := rv.any 133
  have ry := rx.any 134
  have rz := ry.any 135
  have rA := rz.any 136
  have rB := rA.any 137
  have rC := bz.nilRes
  have rD := rC.nilRes
  have rE := (rD.perm ((pk 2 rfl).trans (((pk 2 rfl).trans (((pk 2 rfl).trans (((pk 2 rfl).trans (((pk 2 rfl).trans (((pk 2 rfl).trans (((pk 1 rfl).trans (lpr.cons _)).cons _)).cons _)).cons _)).cons _)).cons _)).cons _))).drew
  exact ⟨none, 0, 0, cn.tmps.getD 16 undef, cn.tmps.getD 132 undef, cn.tmps.getD 133 undef, cn.tmps.getD 134 undef, cn.tmps.getD 135 undef, cn.tmps.getD 136 undef, cn.tmps.getD 137 undef, .row Y [.slice R j.Routes.length U, .slice V j.Last.length W] 37, .row X [.slice N (gnewS u0.Routes).1.Routes.length O, .slice P (gnewS u0.Routes).1.Last.length Q] 37, .row y [.slice C (gstepS u0 u1 u2 u3).1.Routes.length D, .slice E (gstepS u0 u1 u2 u3).1.Last.length H] 37, .own tyLine 42 p q (gstepS u0 u1 u2 u3).2.1, .row I (e25M u3 ao7 cap8) 25, .row l [.slice ao1 u0.Routes.length cap2, .slice ao4 u0.Last.length cap5] 37, .nil, .nil, fD, Fz.le.refl _, rB.reg, rE, ff, ff, ff, ff, ff, ff, ff, rfl, rfl, rfl, rfl, rfl, rfl, kf, ff, kf, ff, ff⟩
 case hs =>
  intro S hcl i o hil hi hSi hpre a w1 hI; refine Go.Sy.hid ?_; intro G hG; obtain ⟨ai, ac, al, aC, aU, aO, a4, aV, aP, aD, b0, b1, b2, b3, b4, b5, aW, aw, aB, B, hFx, hMx, aQ, aR, aX, hI⟩ := hI; obtain ⟨aS, aY, a5, b6, aE, aF, aG, aH, aI, aJ, a6, a7, aZ, a2, hI⟩ := hI
  have hcase : i = 0 ∨ i = 1 ∨ i = 2 ∨ i = 3 ∨ i = 4 ∨ i = 5 ∨ i = 6 ∨ i = 7 := by clear hi; omega
  rcases hcase with rfl | rfl | rfl | rfl | rfl | rfl | rfl | rfl
  ·
   obtain rfl := oj hi
   have a3 := hSi
   have aK := ngF hcl 1 0 a3
   have ax := ngF hcl 5 1 aK
   have aq := ngF hcl 7 0 a3
   obtain rfl := aE
   obtain rfl := aF
   obtain rfl := aG
   obtain rfl := aH
   obtain rfl := aI
   obtain rfl := aJ
   refine hG (any_step ?_); intro A J hJ
   refine s1 hFx 132 (pt l 0) ?_; intro z5 rF
   refine nl (qnI (hJ _ _ ?_))
   exact ⟨ai, ac, al, aC, pt l 0, aO, a4, aV, aP, aD, .row Y [.slice R j.Routes.length U, .slice V j.Last.length W] 37, .row X [.slice N (gnewS u0.Routes).1.Routes.length O, .slice P (gnewS u0.Routes).1.Last.length Q] 37, .row y [.slice C (gstepS u0 u1 u2 u3).1.Routes.length D, .slice E (gstepS u0 u1 u2 u3).1.Last.length H] 37, .own tyLine 42 p q (gstepS u0 u1 u2 u3).2.1, .row I (e25M u3 ao7 cap8) 25, .row l [.slice ao1 u0.Routes.length cap2, .slice ao4 u0.Last.length cap5] 37, aW, aw, aB, B, rF.reg, hMx.perm lpr, aQ, kf, (nt aK), aS, aY, a5, (nt ax), rfl, rfl, rfl, rfl, rfl, rfl, a6, a7, aZ, a2, (nt aq)⟩
  ·
   obtain rfl := oj hi
   have a3 := hpre 0 (by kernel_rfl)
   have aK := hSi
   have ax := ngF hcl 5 1 aK
   have aq := ngF hcl 7 1 aK
   obtain rfl := aR a3
   obtain rfl := aE
   obtain rfl := aF
   obtain rfl := aG
   obtain rfl := aH
   obtain rfl := aI
   obtain rfl := aJ
   refine hG (any_step ?_); intro A J hJ
   refine l1 hFx hMx 133 5 0 (.slice ao1 u0.Routes.length cap2) rfl rfl ?_; intro Ag rG
   refine nl (qnI (hJ _ _ ?_))
   exact ⟨ai, ac, al, aC, pt l 0, .slice ao1 u0.Routes.length cap2, a4, aV, aP, aD, .row Y [.slice R j.Routes.length U, .slice V j.Last.length W] 37, .row X [.slice N (gnewS u0.Routes).1.Routes.length O, .slice P (gnewS u0.Routes).1.Last.length Q] 37, .row y [.slice C (gstepS u0 u1 u2 u3).1.Routes.length D, .slice E (gstepS u0 u1 u2 u3).1.Last.length H] 37, .own tyLine 42 p q (gstepS u0 u1 u2 u3).2.1, .row I (e25M u3 ao7 cap8) 25, .row l [.slice ao1 u0.Routes.length cap2, .slice ao4 u0.Last.length cap5] 37, aW, aw, aB, B, rG.reg, hMx.perm lpr, aQ, kf, kf, aS, aY, a5, (nt ax), rfl, rfl, rfl, rfl, rfl, rfl, a6, a7, aZ, a2, (nt aq)⟩
  ·
   obtain rfl := oj hi
   have aL := hSi
   have ay := ngF hcl 3 2 aL
   have aj := ngF hcl 4 3 ay
   have ax := ngF hcl 5 4 aj
   have aq := ngF hcl 7 2 aL
   obtain rfl := aE
   obtain rfl := aF
   obtain rfl := aG
   obtain rfl := aH
   obtain rfl := aI
   obtain rfl := aJ
   obtain rfl := a6 aj
   refine hG (any_step ?_); intro A J hJ
   have rH := hMx.keep (sD (List.Sublist.cons_cons _ (sD (List.Sublist.cons_cons _ (sD (List.Sublist.cons_cons _ (sC (sD (List.Sublist.slnil)))))))))
   refine s1 hFx 134 (pt l 1) ?_; intro Ar rI
   refine nl (qnI (hJ _ _ ?_))
   have rJ := rH.nilRes
   exact ⟨ai, ac, al, aC, aU, aO, pt l 1, aV, aP, aD, .row Y [.slice R j.Routes.length U, .slice V j.Last.length W] 37, .row X [.slice N (gnewS u0.Routes).1.Routes.length O, .slice P (gnewS u0.Routes).1.Last.length Q] 37, .row y [.slice C (gstepS u0 u1 u2 u3).1.Routes.length D, .slice E (gstepS u0 u1 u2 u3).1.Last.length H] 37, .own tyLine 42 p q (gstepS u0 u1 u2 u3).2.1, .row I (e25M u3 ao7 cap8) 25, .row l [.slice ao1 u0.Routes.length cap2, .slice ao4 u0.Last.length cap5] 37, .nil, aw, aB, B, rI.reg, rJ.perm ((pk 1 rfl).trans (((pk 1 rfl).trans (((pk 1 rfl).trans (((pk 1 rfl).trans (((pk 1 rfl).trans (((pk 1 rfl).trans (lpr.cons _)).cons _)).cons _)).cons _)).cons _)).cons _)), aQ, aR, aX, kf, (nt ay), (nt aj), (nt ax), rfl, rfl, rfl, rfl, rfl, rfl, kf, (nt aj), aZ, a2, (nt aq)⟩
  ·
   obtain rfl := oj hi
   have aL := hpre 2 (by kernel_rfl)
   have ay := hSi
   have aj := ngF hcl 4 3 ay
   have ax := ngF hcl 5 4 aj
   have aq := ngF hcl 7 3 ay
   obtain rfl := aS aL
   obtain rfl := aE
   obtain rfl := aF
   obtain rfl := aG
   obtain rfl := aH
   obtain rfl := aI
   obtain rfl := aJ
   obtain rfl := a6 aj
   refine hG (any_step ?_); intro A J hJ
   have mb := hMx.keep (sD (List.Sublist.cons_cons _ (sD (List.Sublist.cons_cons _ (sD (List.Sublist.cons_cons _ (sC (sD (List.Sublist.slnil)))))))))
   refine l1 hFx mb 135 5 1 (.slice ao4 u0.Last.length cap5) rfl rfl ?_; intro AC rK
   refine nl (qnI (hJ _ _ ?_))
   have rL := mb.nilRes
   exact ⟨ai, ac, al, aC, aU, aO, pt l 1, .slice ao4 u0.Last.length cap5, aP, aD, .row Y [.slice R j.Routes.length U, .slice V j.Last.length W] 37, .row X [.slice N (gnewS u0.Routes).1.Routes.length O, .slice P (gnewS u0.Routes).1.Last.length Q] 37, .row y [.slice C (gstepS u0 u1 u2 u3).1.Routes.length D, .slice E (gstepS u0 u1 u2 u3).1.Last.length H] 37, .own tyLine 42 p q (gstepS u0 u1 u2 u3).2.1, .row I (e25M u3 ao7 cap8) 25, .row l [.slice ao1 u0.Routes.length cap2, .slice ao4 u0.Last.length cap5] 37, .nil, aw, aB, B, rK.reg, rL.perm ((pk 1 rfl).trans (((pk 1 rfl).trans (((pk 1 rfl).trans (((pk 1 rfl).trans (((pk 1 rfl).trans (((pk 1 rfl).trans (lpr.cons _)).cons _)).cons _)).cons _)).cons _)).cons _)), aQ, aR, aX, kf, kf, (nt aj), (nt ax), rfl, rfl, rfl, rfl, rfl, rfl, kf, (nt aj), aZ, a2, (nt aq)⟩
  ·
   obtain rfl := oj hi
   have ay := hpre 3 (by kernel_rfl)
   have aL := hcl 3 2 (by kernel_rfl) ay
   have aj := hSi
   have ax := ngF hcl 5 4 aj
   have aq := ngF hcl 7 4 aj
   obtain rfl := aS aL
   obtain rfl := aY ay
   obtain rfl := aE
   obtain rfl := aF
   obtain rfl := aG
   obtain rfl := aH
   obtain rfl := aI
   obtain rfl := aJ
   obtain rfl := a6 aj
   refine hG (any_step ?_); intro A J hJ
   have hzst := Fz.le.refl aB
   have fP := hs6.mono B
   have fQ := hMx.keep (sD (List.Sublist.cons_cons _ (sD (List.Sublist.cons_cons _ (sD (List.Sublist.cons_cons _ (sC (sD (List.Sublist.slnil)))))))))
   refine ck hFx 21 #[.slice ao4 u0.Last.length cap5] ?_
   refine (iclone_fun u0.Last eT ao4 cap5 _ _ fP fQ.fz).mono ?_; rintro _ rM ⟨dK, dL, ml, rfl, hm⟩; refine ⟨_, rfl, ?_⟩; intro AD rN; have mm := fQ.callZ hm; have bA := hm.ext.le
   replace hzst := hzst.mono bA
   have rO : Mem w.heap.size [] w Z [.own t6 3 dK dL (iclS u0.Last), .row Y [.slice R j.Routes.length U, .slice V j.Last.length W] 37, .row X [.slice N (gnewS u0.Routes).1.Routes.length O, .slice P (gnewS u0.Routes).1.Last.length Q] 37, .row y [.slice C (gstepS u0 u1 u2 u3).1.Routes.length D, .slice E (gstepS u0 u1 u2 u3).1.Last.length H] 37, .own tyLine 42 p q (gstepS u0 u1 u2 u3).2.1, .row I (e25M u3 ao7 cap8) 25, .row l [.slice ao1 u0.Routes.length cap2, .slice ao4 u0.Last.length cap5] 37, aw] ml rM := mm
   refine nl (qnI (hJ _ _ ?_))
   exact ⟨dK, dL, al, aC, aU, aO, pt l 1, .slice ao4 u0.Last.length cap5, .slice dK (iclS u0.Last).length dL, aD, .row Y [.slice R j.Routes.length U, .slice V j.Last.length W] 37, .row X [.slice N (gnewS u0.Routes).1.Routes.length O, .slice P (gnewS u0.Routes).1.Last.length Q] 37, .row y [.slice C (gstepS u0 u1 u2 u3).1.Routes.length D, .slice E (gstepS u0 u1 u2 u3).1.Last.length H] 37, .own tyLine 42 p q (gstepS u0 u1 u2 u3).2.1, .row I (e25M u3 ao7 cap8) 25, .row l [.slice ao1 u0.Routes.length cap2, .slice ao4 u0.Last.length cap5] 37, .own t6 3 dK dL (iclS u0.Last), aw, ml, B.trans hzst, rN.reg, rO.perm ((pk 1 rfl).trans (((pk 1 rfl).trans (((pk 1 rfl).trans (((pk 1 rfl).trans (((pk 1 rfl).trans (((pk 1 rfl).trans (lpr.cons _)).cons _)).cons _)).cons _)).cons _)).cons _)), aQ, aR, aX, kf, kf, kf, (nt ax), rfl, rfl, rfl, rfl, rfl, rfl, nu, kf, aZ, a2, (nt aq)⟩
  ·
   obtain rfl := oj hi
   have aj := hpre 4 (by kernel_rfl)
   have aK := hpre 1 (by kernel_rfl)
   have ay := hcl 4 3 (by kernel_rfl) aj
   have a3 := hcl 1 0 (by kernel_rfl) aK
   have aL := hcl 3 2 (by kernel_rfl) ay
   have ax := hSi
   have aq := ngF hcl 7 5 ax
   obtain rfl := aR a3
   obtain rfl := aX aK
   obtain rfl := aS aL
   obtain rfl := aY ay
   obtain rfl := a5 aj
   obtain rfl := aE
   obtain rfl := aF
   obtain rfl := aG
   obtain rfl := aH
   obtain rfl := aI
   obtain rfl := aJ
   obtain rfl := a7 aj
   refine hG (any_step ?_); intro A J hJ
   refine s1 hFx 137 (.agg #[.slice ao1 u0.Routes.length cap2, .slice ai (iclS u0.Last).length ac]) ?_; intro AO rP
   refine nl (qnI (hJ _ _ ?_))
   exact ⟨ai, ac, al, aC, pt l 0, .slice ao1 u0.Routes.length cap2, pt l 1, .slice ao4 u0.Last.length cap5, .slice ai (iclS u0.Last).length ac, .agg #[.slice ao1 u0.Routes.length cap2, .slice ai (iclS u0.Last).length ac], .row Y [.slice R j.Routes.length U, .slice V j.Last.length W] 37, .row X [.slice N (gnewS u0.Routes).1.Routes.length O, .slice P (gnewS u0.Routes).1.Last.length Q] 37, .row y [.slice C (gstepS u0 u1 u2 u3).1.Routes.length D, .slice E (gstepS u0 u1 u2 u3).1.Last.length H] 37, .own tyLine 42 p q (gstepS u0 u1 u2 u3).2.1, .row I (e25M u3 ao7 cap8) 25, .row l [.slice ao1 u0.Routes.length cap2, .slice ao4 u0.Last.length cap5] 37, .own t6 3 ai ac (iclS u0.Last), aw, aB, B, rP.reg, hMx.perm lpr, aQ, kf, kf, kf, kf, kf, kf, rfl, rfl, rfl, rfl, rfl, rfl, (tn aj), kf, aZ, a2, (nt aq)⟩
  ·
   obtain rfl := oj hi
   have bl := hSi
   have aq := ngF hcl 7 6 bl
   obtain rfl := aE
   obtain rfl := aF
   obtain rfl := aG
   obtain rfl := aH
   obtain rfl := aI
   obtain rfl := aJ
   obtain rfl := aZ bl
   refine hG (any_step ?_); intro A J hJ
   have mn := hMx.keep (sD (List.Sublist.cons_cons _ (sD (List.Sublist.cons_cons _ (sD (List.Sublist.cons_cons _ (sD (sC (List.Sublist.slnil)))))))))
   refine nw hFx mn pb [.slice none 0 0, .slice none 0 0] 37 ?_; intro fR AZ A0 rQ rR
   refine nl (qnI (hJ _ _ ?_))
   exact ⟨ai, ac, fR, pt fR 0, aU, aO, a4, aV, aP, aD, .row Y [.slice R j.Routes.length U, .slice V j.Last.length W] 37, .row X [.slice N (gnewS u0.Routes).1.Routes.length O, .slice P (gnewS u0.Routes).1.Last.length Q] 37, .row y [.slice C (gstepS u0 u1 u2 u3).1.Routes.length D, .slice E (gstepS u0 u1 u2 u3).1.Last.length H] 37, .own tyLine 42 p q (gstepS u0 u1 u2 u3).2.1, .row I (e25M u3 ao7 cap8) 25, .row l [.slice ao1 u0.Routes.length cap2, .slice ao4 u0.Last.length cap5] 37, aW, .row fR [.slice none 0 0, .slice none 0 0] 37, aB, B, rQ.reg, rR.perm ((pk 1 rfl).trans (((pk 1 rfl).trans (((pk 1 rfl).trans (((pk 1 rfl).trans (((pk 1 rfl).trans (((pk 1 rfl).trans (((pk 1 rfl).trans (lpr.cons _)).cons _)).cons _)).cons _)).cons _)).cons _)).cons _)), kf, aR, aX, aS, aY, a5, b6, rfl, rfl, rfl, rfl, rfl, rfl, a6, a7, nu, kf2, (nt aq)⟩
  obtain rfl := oj hi
  have bl := hpre 6 (by kernel_rfl)
  have ax := hpre 5 (by kernel_rfl)
  have aj := hpre 4 (by kernel_rfl)
  have ay := hpre 3 (by kernel_rfl)
  have aL := hpre 2 (by kernel_rfl)
  have aK := hpre 1 (by kernel_rfl)
  have a3 := hpre 0 (by kernel_rfl)
  have aq := hSi
  obtain rfl := aQ bl
  obtain rfl := aR a3
  obtain rfl := aX aK
  obtain rfl := aS aL
  obtain rfl := aY ay
  obtain rfl := a5 aj
  obtain rfl := b6 ax
  obtain rfl := aE
  obtain rfl := aF
  obtain rfl := aG
  obtain rfl := aH
  obtain rfl := aI
  obtain rfl := aJ
  obtain rfl := a7 aj
  obtain rfl := a2 bl aq
  refine hG (any_step ?_); intro A J hJ
  refine sx hFx hMx 7 [.slice ao1 u0.Routes.length cap2, .slice ai (iclS u0.Last).length ac] 0 ?_; intro Bb rS
  refine nl (qnI (hJ _ _ ?_))
  exact ⟨ai, ac, al, pt al 0, pt l 0, .slice ao1 u0.Routes.length cap2, pt l 1, .slice ao4 u0.Last.length cap5, .slice ai (iclS u0.Last).length ac, .agg #[.slice ao1 u0.Routes.length cap2, .slice ai (iclS u0.Last).length ac], .row Y [.slice R j.Routes.length U, .slice V j.Last.length W] 37, .row X [.slice N (gnewS u0.Routes).1.Routes.length O, .slice P (gnewS u0.Routes).1.Last.length Q] 37, .row y [.slice C (gstepS u0 u1 u2 u3).1.Routes.length D, .slice E (gstepS u0 u1 u2 u3).1.Last.length H] 37, .own tyLine 42 p q (gstepS u0 u1 u2 u3).2.1, .row I (e25M u3 ao7 cap8) 25, .row l [.slice ao1 u0.Routes.length cap2, .slice ao4 u0.Last.length cap5] 37, .own t6 3 ai ac (iclS u0.Last), .row al [.slice ao1 u0.Routes.length cap2, .slice ai (iclS u0.Last).length ac] 37, aB, B, hFx.reg, rS.perm lpr, kf, kf, kf, kf, kf, kf, kf, rfl, rfl, rfl, rfl, rfl, rfl, (tn aj), kf, (tn bl), (fun _ => nu), kf⟩
 case hE =>
  intro S hS rT rU hI; refine Go.Sy.hid ?_; intro G hG; obtain ⟨ai, ac, al, aC, aU, aO, a4, aV, aP, aD, b0, b1, b2, b3, b4, b5, aW, aw, aB, B, hFx, hMx, aQ, aR, aX, hI⟩ := hI; obtain ⟨aS, aY, a5, b6, aE, aF, aG, aH, aI, aJ, a6, a7, aZ, a2, hI⟩ := hI; have cP := hI; refine hG ?_
  obtain rfl := aQ (hS 6 (by decide))
  obtain rfl := aR (hS 0 (by decide))
  obtain rfl := aX (hS 1 (by decide))
  obtain rfl := aS (hS 2 (by decide))
  obtain rfl := aY (hS 3 (by decide))
  obtain rfl := a5 (hS 4 (by decide))
  obtain rfl := b6 (hS 5 (by decide))
  obtain rfl := aE
  obtain rfl := aF
  obtain rfl := aG
  obtain rfl := aH
  obtain rfl := aI
  obtain rfl := aJ
  obtain rfl := a7 (hS 4 (by decide))
  obtain rfl := cP (hS 7 (by decide))
  have rV := hs3.mono B
  have rW := hs6.mono B
  have rX := hs9.mono B
  have rY := am.mono B
  have rZ := an.mono B
  have r4 := bS.mono B
  apply t_
  have mo : Fr 200 [] [⟨2, [], i6 u2⟩, ⟨4, [], pt l 0⟩, ⟨5, [], pt aa 0⟩, ⟨7, [], pt I 0⟩, ⟨9, [], pt y 0⟩, ⟨10, [], .slice p (gstepS u0 u1 u2 u3).2.1.length q⟩, ⟨11, [], i6 (gstepS u0 u1 u2 u3).2.2⟩, ⟨16, [], pt al 0⟩] rT := hFx.reg
  refine sqB mo hMx [] [] [(17, .slice none 0 0)] ?_; intro Bc mp
  refine s_ (sqB mp hMx [5] [] [(139, .slice ao1 u0.Routes.length cap2), (140, i6 (u0.Routes.length : Int)), (141, i6 0)] ?_); intro mq mr
  apply b_
  have ms : Fr 200 [] [⟨2, [], i6 u2⟩, ⟨4, [], pt l 0⟩, ⟨5, [], pt aa 0⟩, ⟨7, [], pt I 0⟩, ⟨9, [], pt y 0⟩, ⟨10, [], .slice p (gstepS u0 u1 u2 u3).2.1.length q⟩, ⟨11, [], i6 (gstepS u0 u1 u2 u3).2.2⟩, ⟨16, [], pt al 0⟩, ⟨17, [], .slice none 0 0⟩, ⟨139, [], .slice ao1 u0.Routes.length cap2⟩, ⟨140, [], i6 (u0.Routes.length : Int)⟩, ⟨141, [], i6 0⟩] mq := mr.reg
  have mt : Mem w.heap.size [] w Z [.own tyLine 42 none 0 ([] : List Line), .row Y [.slice R j.Routes.length U, .slice V j.Last.length W] 37, .row X [.slice N (gnewS u0.Routes).1.Routes.length O, .slice P (gnewS u0.Routes).1.Last.length Q] 37, .row y [.slice C (gstepS u0 u1 u2 u3).1.Routes.length D, .slice E (gstepS u0 u1 u2 u3).1.Last.length H] 37, .own tyLine 42 p q (gstepS u0 u1 u2 u3).2.1, .row I (e25M u3 ao7 cap8) 25, .row l [.slice ao1 u0.Routes.length cap2, .slice ao4 u0.Last.length cap5] 37, .own t6 3 ai ac (iclS u0.Last), .row al [.slice ao1 u0.Routes.length cap2, .slice ai (iclS u0.Last).length ac] 37] aB rU := hMx.addNil tyLine 42 (by decide)
  have mu : Fr 200 [] [⟨2, [], i6 u2⟩, ⟨4, [], pt l 0⟩, ⟨5, [], pt aa 0⟩, ⟨7, [], pt I 0⟩, ⟨9, [], pt y 0⟩, ⟨10, [], .slice p (gstepS u0 u1 u2 u3).2.1.length q⟩, ⟨11, [], i6 (gstepS u0 u1 u2 u3).2.2⟩, ⟨16, [], pt al 0⟩, ⟨17, [], .slice none ([] : List Line).length 0⟩, ⟨139, [], .slice ao1 u0.Routes.length cap2⟩, ⟨140, [], i6 (u0.Routes.length : Int)⟩, ⟨141, [], i6 0⟩] mq := ms.reg
  obtain ⟨r5, r6, r7, r8⟩ := rt
  refine lp (ι := (List Line) × Int × (List Int) × (Option Addr) × Nat × Fz) (fun s => [⟨2, [], i6 u2⟩, ⟨4, [], pt l 0⟩, ⟨5, [], pt aa 0⟩, ⟨7, [], pt I 0⟩, ⟨9, [], pt y 0⟩, ⟨10, [], .slice p (gstepS u0 u1 u2 u3).2.1.length q⟩, ⟨11, [], i6 (gstepS u0 u1 u2 u3).2.2⟩, ⟨16, [], pt al 0⟩, ⟨17, [], .slice s.2.2.2.1 s.1.length s.2.2.2.2.1⟩, ⟨139, [], .slice ao1 u0.Routes.length cap2⟩, ⟨140, [], i6 (u0.Routes.length : Int)⟩, ⟨141, [], i6 s.2.1⟩]) (fun s => [.own tyLine 42 s.2.2.2.1 s.2.2.2.2.1 s.1, .row Y [.slice R j.Routes.length U, .slice V j.Last.length W] 37, .row X [.slice N (gnewS u0.Routes).1.Routes.length O, .slice P (gnewS u0.Routes).1.Last.length Q] 37, .row y [.slice C (gstepS u0 u1 u2 u3).1.Routes.length D, .slice E (gstepS u0 u1 u2 u3).1.Last.length H] 37, .own tyLine 42 p q (gstepS u0 u1 u2 u3).2.1, .row I (e25M u3 ao7 cap8) 25, .row l [.slice ao1 u0.Routes.length cap2, .slice ao4 u0.Last.length cap5] 37, .own t6 3 ai ac s.2.2.1, .row al [.slice ao1 u0.Routes.length cap2, .slice ai s.2.2.1.length ac] 37]) (fun s => s.2.2.2.2.2) (fun s => r5 s.1 s.2.1 s.2.2.1 ∧ Fz.le aB s.2.2.2.2.2) (fun s => r6 s.1 s.2.1 s.2.2.1) ⟨([] : List Line), 0, (iclS u0.Last), none, 0, aB⟩ ⟨r7, Fz.le.refl _⟩ (by exact mu.reg) (by exact mt) ?_
  rintro ⟨L, n, ae, af, ag, dM⟩ ⟨r9, aN⟩ sa mv mw mx
  have dN := r8 L n ae r9
  have bG := rV.mono aN
  have bH := rW.mono aN
  have bT := rX.mono aN
  have bU := rY.mono aN
  have bV := rZ.mono aN
  have bg := r4.mono aN
  refine sqB mw mx [] [] [(142, .bool (decide (n < (u0.Routes.length : Int))))] ?_; intro mz cW
  refine s_ (c_ cW dN (fun _ sb => ?_) fun _ tk => ?_)
  ·
   apply k_
   have mA : Fr 200 [] [⟨2, [], i6 u2⟩, ⟨4, [], pt l 0⟩, ⟨5, [], pt aa 0⟩, ⟨7, [], pt I 0⟩, ⟨9, [], pt y 0⟩, ⟨10, [], .slice p (gstepS u0 u1 u2 u3).2.1.length q⟩, ⟨11, [], i6 (gstepS u0 u1 u2 u3).2.2⟩, ⟨16, [], pt al 0⟩, ⟨17, [], .slice af L.length ag⟩, ⟨139, [], .slice ao1 u0.Routes.length cap2⟩, ⟨140, [], i6 (u0.Routes.length : Int)⟩, ⟨141, [], i6 n⟩] mz := cW.reg
   obtain ⟨sc, sd, se⟩ := sb
   refine wp_seq_k fun KJ1593 hKJ1594 => ?_
   have dO : ∀ (bm : List Line) (cA : List Int) (cb : Option Addr) (cc : Nat) (dP : Fz), sc bm cA ∧ Fz.le dM dP → ∀ a1 w1, Fr 200 [] [⟨2, [], i6 u2⟩, ⟨4, [], pt l 0⟩, ⟨5, [], pt aa 0⟩, ⟨7, [], pt I 0⟩, ⟨9, [], pt y 0⟩, ⟨10, [], .slice p (gstepS u0 u1 u2 u3).2.1.length q⟩, ⟨11, [], i6 (gstepS u0 u1 u2 u3).2.2⟩, ⟨16, [], pt al 0⟩, ⟨17, [], .slice cb bm.length cc⟩, ⟨139, [], .slice ao1 u0.Routes.length cap2⟩, ⟨140, [], i6 (u0.Routes.length : Int)⟩, ⟨141, [], i6 n⟩] a1 → Mem w.heap.size [] w Z [.own tyLine 42 cb cc bm, .row Y [.slice R j.Routes.length U, .slice V j.Last.length W] 37, .row X [.slice N (gnewS u0.Routes).1.Routes.length O, .slice P (gnewS u0.Routes).1.Last.length Q] 37, .row y [.slice C (gstepS u0 u1 u2 u3).1.Routes.length D, .slice E (gstepS u0 u1 u2 u3).1.Last.length H] 37, .own tyLine 42 p q (gstepS u0 u1 u2 u3).2.1, .row I (e25M u3 ao7 cap8) 25, .row l [.slice ao1 u0.Routes.length cap2, .slice ao4 u0.Last.length cap5] 37, .own t6 3 ai ac cA, .row al [.slice ao1 u0.Routes.length cap2, .slice ai cA.length ac] 37] dP w1 → KJ1593 a1 w1 := by
    rintro bm cA cb cc dP ⟨sf, bB⟩ Be Bf mB mC
    refine hKJ1594 _ _ ?_
    have mD := se bm cA sf
    have sg := aN.mono bB
    refine rgB mB mC [] [] [(141, i6 (w64 (n + 1)))] ?_; intro Bq sh
    exact d_ ⟨⟨bm, w64 (n + 1), cA, cb, cc, dP⟩, ⟨mD.1, sg⟩, mD.2, (sh.reg).anyβ _ (by kernel_rfl), mC.kp⟩
   have cB := Fz.le.refl dM
   refine b_ (sqH ?_); intro si mE
   refine s1 mA 143 (i6 n) ?_; intro Br mF
   obtain ⟨sj, mG⟩ := sd
   refine ix_ mF bG n sj .i64 29 56 ?_; intro Bs Bt sk h Bu sl fU sn mH
   have sp := mG h sl
   obtain rfl : sk = ((e29M h) : List Value) := sn
   refine z2 mH mx 145 fU 0 7 (e29M h) rfl ?_; intro Bv mI
   refine nw mI mx pb [i6 0, i6 0, i6 0, i6 0, .bool false, i6 0, i6 0] 29 ?_; intro bh Bw Bx mJ mK
   refine s1 mJ 18 (i6 n) ?_; intro By fV
   refine sx fV mK 0 (e29M h) 0 ?_; intro sq mL
   have dQ : Mem w.heap.size [] w Z [.row bh (e29M h) 29, .own tyLine 42 af ag L, .row Y [.slice R j.Routes.length U, .slice V j.Last.length W] 37, .row X [.slice N (gnewS u0.Routes).1.Routes.length O, .slice P (gnewS u0.Routes).1.Last.length Q] 37, .row y [.slice C (gstepS u0 u1 u2 u3).1.Routes.length D, .slice E (gstepS u0 u1 u2 u3).1.Last.length H] 37, .own tyLine 42 p q (gstepS u0 u1 u2 u3).2.1, .row I (e25M u3 ao7 cap8) 25, .row l [.slice ao1 u0.Routes.length cap2, .slice ao4 u0.Last.length cap5] 37, .own t6 3 ai ac ae, .row al [.slice ao1 u0.Routes.length cap2, .slice ai ae.length ac] 37] dM sq := mL
   apply mE
   refine sqH ?_; intro sr mM
   refine bt fV dQ 3 [0, 6] [] [(147, .agg (e29M h).toArray), (148, i6 u2), (149, .agg (e25M u3 ao7 cap8).toArray)] ?_; intro Bz mN
   obtain ⟨ss, mO⟩ := sp
   refine ck mN 22 #[.agg (e29M h).toArray, i6 u2, .agg (e25M u3 ao7 cap8).toArray] ?_
   refine (carried_fun h u2 u3 ss ao7 cap8 _ _ bT dQ.fz).mono ?_; rintro _ su ⟨ba, bb, bW, rfl, fW, hm⟩; refine ⟨_, rfl, ?_⟩; intro BA mP; have mQ := dQ.callZ hm; have bi := hm.ext.le
   replace bH := bH.mono bi
   replace bg := bg.mono bi
   replace cB := cB.mono bi
   have fX : Mem w.heap.size [] w Z [.row bh (e29M h) 29, .own tyLine 42 af ag L, .row Y [.slice R j.Routes.length U, .slice V j.Last.length W] 37, .row X [.slice N (gnewS u0.Routes).1.Routes.length O, .slice P (gnewS u0.Routes).1.Last.length Q] 37, .row y [.slice C (gstepS u0 u1 u2 u3).1.Routes.length D, .slice E (gstepS u0 u1 u2 u3).1.Last.length H] 37, .own tyLine 42 p q (gstepS u0 u1 u2 u3).2.1, .row I (e25M u3 ao7 cap8) 25, .row l [.slice ao1 u0.Routes.length cap2, .slice ao4 u0.Last.length cap5] 37, .own t6 3 ai ac ae, .row al [.slice ao1 u0.Routes.length cap2, .slice ai ae.length ac] 37] bW su := mQ
   have dR := mO (fW.small)
   refine bt mP fX 3 [] [] [(151, .agg (e25M ((carriedS h u2 u3).1) ba bb).toArray), (152, .bool (carriedS h u2 u3).2)] ?_; intro BB mR
   refine nw mR fX pb [i6 0, .bool false, .bool false, .bool false, i6 0, .slice none 0 0] 25 ?_; intro bX BC BD fY mS
   refine sx fY mS 0 (e25M ((carriedS h u2 u3).1) ba bb) 0 ?_; intro sv mT
   refine s1 fY 21 (.bool (carriedS h u2 u3).2) ?_; intro sw mU
   have dS : Mem w.heap.size [] w Z [.row bX (e25M ((carriedS h u2 u3).1) ba bb) 25, .row bh (e29M h) 29, .own tyLine 42 af ag L, .row Y [.slice R j.Routes.length U, .slice V j.Last.length W] 37, .row X [.slice N (gnewS u0.Routes).1.Routes.length O, .slice P (gnewS u0.Routes).1.Last.length Q] 37, .row y [.slice C (gstepS u0 u1 u2 u3).1.Routes.length D, .slice E (gstepS u0 u1 u2 u3).1.Last.length H] 37, .own tyLine 42 p q (gstepS u0 u1 u2 u3).2.1, .row I (e25M u3 ao7 cap8) 25, .row l [.slice ao1 u0.Routes.length cap2, .slice ao4 u0.Last.length cap5] 37, .own t6 3 ai ac ae, .row al [.slice ao1 u0.Routes.length cap2, .slice ai ae.length ac] 37] bW sv := mT
   apply mM
   have mV : Fr 200 [] [⟨2, [], i6 u2⟩, ⟨4, [], pt l 0⟩, ⟨5, [], pt aa 0⟩, ⟨7, [], pt I 0⟩, ⟨9, [], pt y 0⟩, ⟨10, [], .slice p (gstepS u0 u1 u2 u3).2.1.length q⟩, ⟨11, [], i6 (gstepS u0 u1 u2 u3).2.2⟩, ⟨16, [], pt al 0⟩, ⟨17, [], .slice af L.length ag⟩, ⟨18, [], i6 n⟩, ⟨19, [], pt bh 0⟩, ⟨20, [], pt bX 0⟩, ⟨21, [], .bool (carriedS h u2 u3).2⟩, ⟨139, [], .slice ao1 u0.Routes.length cap2⟩, ⟨140, [], i6 (u0.Routes.length : Int)⟩, ⟨141, [], i6 n⟩] sw := mU.reg
   refine sqQH mixed (by kernel_rfl) dS ?_; intro fZ cC
   refine q1 mV 153 (.bool (carriedS h u2 u3).2) ?_; intro BE mW
   refine q1 mW 154 (.bool (carriedS h u2 u3).2) ?_; intro BF mX
   have f0 := mX.atom ((carriedS h u2 u3).2 == true) (by kernel_rfl)
   refine qgd f0 (pt l 1) (m := 0) (cj := []) (bj := (carriedS h u2 u3).2) rfl rfl (by kernel_rfl) rfl (by kernel_rfl) (by kernel_rfl) (by kernel_rfl) (fun hg => qat_ok (fun v1691 hC => pu f0 (g := [0]) (by kernel_rfl) hg)) ?_; intro BG f1
   refine qgd f1 (.slice ao4 u0.Last.length cap5) (m := 0) (cj := []) (bj := (carriedS h u2 u3).2) rfl rfl (by kernel_rfl) rfl (by kernel_rfl) (by kernel_rfl) (by kernel_rfl) (fun hg => qat_ok (fun v1694 hC => ld f1 hC 8 (g := [0]) (b := l) (off := 1) (cs := [.slice ao1 u0.Routes.length cap2, .slice ao4 u0.Last.length cap5]) (ty := 37) rfl (by kernel_rfl) (by kernel_rfl) (by kernel_rfl) (by kernel_rfl) hg)) ?_; intro BH f2
   refine qgd f2 (i6 n) (m := 0) (cj := []) (bj := (carriedS h u2 u3).2) rfl rfl (by kernel_rfl) rfl (by kernel_rfl) (by kernel_rfl) (by kernel_rfl) (fun hg => qat_ok (fun v1697 hC => pu f2 (g := [0]) (by kernel_rfl) hg)) ?_; intro BI dT
   refine e_ dR (fun bI sy => ?_) fun bI ti => ?_
   ·
    have mY := dT.reval (d := 154) (c := []) (v := .bool (carriedS h u2 u3).2) (by kernel_rfl) (.bool true) (by rw [bI])
    have mZ := mY.setc (d := 155) (c := [0]) (v := pt l 1) (by kernel_rfl) (v' := pt l 1) (by rw [bI]; kernel_rfl)
    have m0 := mZ.setc (d := 156) (c := [0]) (v := .slice ao4 u0.Last.length cap5) (by kernel_rfl) (v' := .slice ao4 u0.Last.length cap5) (by rw [bI]; kernel_rfl)
    have f3 := m0.setc (d := 157) (c := [0]) (v := i6 n) (by kernel_rfl) (v' := i6 n) (by rw [bI]; kernel_rfl)
    obtain ⟨sz, m1⟩ := sy
    refine qix f3 (T := t6) (xs := u0.Last) bH n sz (k := .i64) (e := 3) (bytes := 8) (wK f3 true) rfl (by kernel_rfl) rfl (by kernel_rfl) (by kernel_rfl) (by kernel_rfl) ?_; intro BJ BK sA bq BL sB sE sF dU
    have dV := m1 bq sB
    obtain rfl : sA = ([i6 bq] : List Value) := sF
    refine qst dU (i6 bq) (wK dU true) rfl (by kernel_rfl) (fun v1719 hC => lz dU hC.fz sE 0 (g := []) rfl (by kernel_rfl) (by kernel_rfl) (by kernel_rfl) rfl) ?_; intro BM dW
    refine qg_ dW true (.bool (bq == (-1))) ?_; intro BN dX
    refine qg_ dX true (.bool (bq == (-1))) ?_; intro BO m2
    have f4 := m2.atom ((bq == (-1)) == false) (by kernel_rfl)
    refine qgd f4 (i6 u1) (m := 1) (cj := []) (bj := bq == (-1)) rfl rfl (by kernel_rfl) rfl (by kernel_rfl) (by kernel_rfl) (by kernel_rfl) (fun hg => qat_ok (fun v1729 hC => lz f4 hC.fz bg 0 (g := [1]) rfl (by kernel_rfl) (by kernel_rfl) (by kernel_rfl) hg)) ?_; intro BP f5
    refine qgd f5 (pt l 1) (m := 1) (cj := []) (bj := bq == (-1)) rfl rfl (by kernel_rfl) rfl (by kernel_rfl) (by kernel_rfl) (by kernel_rfl) (fun hg => qat_ok (fun v1732 hC => pu f5 (g := [1]) (by kernel_rfl) hg)) ?_; intro BQ f6
    refine qgd f6 (.slice ao4 u0.Last.length cap5) (m := 1) (cj := []) (bj := bq == (-1)) rfl rfl (by kernel_rfl) rfl (by kernel_rfl) (by kernel_rfl) (by kernel_rfl) (fun hg => qat_ok (fun v1735 hC => ld f6 hC 8 (g := [1]) (b := l) (off := 1) (cs := [.slice ao1 u0.Routes.length cap2, .slice ao4 u0.Last.length cap5]) (ty := 37) rfl (by kernel_rfl) (by kernel_rfl) (by kernel_rfl) (by kernel_rfl) hg)) ?_; intro BR f7
    refine qgd f7 (i6 n) (m := 1) (cj := []) (bj := bq == (-1)) rfl rfl (by kernel_rfl) rfl (by kernel_rfl) (by kernel_rfl) (by kernel_rfl) (fun hg => qat_ok (fun v1738 hC => pu f7 (g := [1]) (by kernel_rfl) hg)) ?_; intro BS dY
    refine e_ dV (fun br sG => ?_) fun br sV => ?_
    ·
     have m3 := dY.reval (d := 161) (c := []) (v := .bool (bq == (-1))) (by kernel_rfl) (.bool true) (by rw [br])
     have m4 := m3.setc (d := 162) (c := [1]) (v := i6 u1) (by kernel_rfl) (v' := undef) (by rw [br]; kernel_rfl)
     have m5 := m4.setc (d := 163) (c := [1]) (v := pt l 1) (by kernel_rfl) (v' := undef) (by rw [br]; kernel_rfl)
     have m6 := m5.setc (d := 164) (c := [1]) (v := .slice ao4 u0.Last.length cap5) (by kernel_rfl) (v' := undef) (by rw [br]; kernel_rfl)
     have m7 := m6.setc (d := 165) (c := [1]) (v := i6 n) (by kernel_rfl) (v' := undef) (by rw [br]; kernel_rfl)
     refine qk_ m7 true ?_; intro BT m8
     refine qk_ m8 true ?_; intro BU m9
     refine qk_ m9 true ?_; intro BV na
     refine qk_ na true ?_; intro BW nb
     refine qk_ nb true ?_; intro BX nc
     refine qk_ nc true ?_; intro BY dZ
     refine qg_ dZ true (.bool true) ?_; intro BZ nd
     refine q1 nd 173 (.bool true) ?_; intro sH f8
     refine qnl (cC _ ?_); intro B0 cX
     refine cdT f8 (by kernel_rfl) ?_
     have ne : Fr 200 [] [⟨2, [], i6 u2⟩, ⟨4, [], pt l 0⟩, ⟨5, [], pt aa 0⟩, ⟨7, [], pt I 0⟩, ⟨9, [], pt y 0⟩, ⟨10, [], .slice p (gstepS u0 u1 u2 u3).2.1.length q⟩, ⟨11, [], i6 (gstepS u0 u1 u2 u3).2.2⟩, ⟨16, [], pt al 0⟩, ⟨17, [], .slice af L.length ag⟩, ⟨18, [], i6 n⟩, ⟨19, [], pt bh 0⟩, ⟨20, [], pt bX 0⟩, ⟨139, [], .slice ao1 u0.Routes.length cap2⟩, ⟨140, [], i6 (u0.Routes.length : Int)⟩, ⟨141, [], i6 n⟩] sH := f8.reg
     refine sqH ?_; intro sI nf
     refine bt ne cX 3 [10] [] [(175, .slice ai ae.length ac), (176, i6 n)] ?_; intro B1 ng
     refine z1 ng cX 177 bg 0 (i6 u1) rfl ?_; intro B2 nh
     obtain ⟨sJ, sK⟩ := sG
     refine ixo nh cX 9 (T := t6) (xs := ae) n sJ (k := .i64) (e := 3) (bytes := 8) (nog rfl _) rfl (by kernel_rfl) rfl (by kernel_rfl) (by kernel_rfl) rfl (by kernel_rfl) ?_; intro cD sL sM d0
     subst sM
     refine so d0 cX 9 (T := t6) (xs := ae) n.toNat u1 (u := i6 u1) (nog rfl _) rfl rfl (by kernel_rfl) rfl (by kernel_rfl) rfl (by kernel_rfl) (by first | omega | (simp only [List.length_set] at *; omega)) rfl ?_; intro sN ni
     have nj : Fr 200 [] [⟨2, [], i6 u2⟩, ⟨4, [], pt l 0⟩, ⟨5, [], pt aa 0⟩, ⟨7, [], pt I 0⟩, ⟨9, [], pt y 0⟩, ⟨10, [], .slice p (gstepS u0 u1 u2 u3).2.1.length q⟩, ⟨11, [], i6 (gstepS u0 u1 u2 u3).2.2⟩, ⟨16, [], pt al 0⟩, ⟨17, [], .slice af L.length ag⟩, ⟨18, [], i6 n⟩, ⟨19, [], pt bh 0⟩, ⟨20, [], pt bX 0⟩, ⟨139, [], .slice ao1 u0.Routes.length cap2⟩, ⟨140, [], i6 (u0.Routes.length : Int)⟩, ⟨141, [], i6 n⟩, ⟨175, [], .slice (sm cD) (ae.set n.toNat u1).length ac⟩, ⟨176, [], i6 n⟩, ⟨177, [], i6 u1⟩, ⟨178, [], .pointer (some ⟨cD, n.toNat * 1, none⟩)⟩] sL := by (try simp only [List.length_set] at d0); (try simp only [List.length_set]); exact d0.reg
     have sO : (ae.set n.toNat u1).length = ae.length := by first | assumption | (simp; try omega)
     have d1 : Mem w.heap.size [] w Z [.row bX (e25M ((carriedS h u2 u3).1) ba bb) 25, .row bh (e29M h) 29, .own tyLine 42 af ag L, .row Y [.slice R j.Routes.length U, .slice V j.Last.length W] 37, .row X [.slice N (gnewS u0.Routes).1.Routes.length O, .slice P (gnewS u0.Routes).1.Last.length Q] 37, .row y [.slice C (gstepS u0 u1 u2 u3).1.Routes.length D, .slice E (gstepS u0 u1 u2 u3).1.Last.length H] 37, .own tyLine 42 p q (gstepS u0 u1 u2 u3).2.1, .row I (e25M u3 ao7 cap8) 25, .row l [.slice ao1 u0.Routes.length cap2, .slice ao4 u0.Last.length cap5] 37, .own t6 3 (sm cD) ac (ae.set n.toNat u1), .row al [.slice ao1 u0.Routes.length cap2, .slice (sm cD) (ae.set n.toNat u1).length ac] 37] bW sN := by rw [sO]; exact ni
     apply nf
     refine rgH ?_; intro sP nk
     refine s1 nj 179 (.slice af L.length ag) ?_; intro B3 nm
     refine z1 nm d1 180 bg 0 (i6 u1) rfl ?_; intro B4 nn
     refine bt nn d1 4 [1, 0] [] [(184, .agg #[i6 u1, i6 h.To, i6 (carriedS h u2 u3).1.ID, .bool (carriedS h u2 u3).1.Long, .bool (carriedS h u2 u3).1.Fast, .bool (carriedS h u2 u3).1.Remote, i6 (carriedS h u2 u3).1.Size, .slice ba (carriedS h u2 u3).1.Data.length bb])] ?_; intro B5 no
     refine nw no d1 (fun b => .slice (sm b) 1 1) [i6 u1, i6 h.To, i6 (carriedS h u2 u3).1.ID, .bool (carriedS h u2 u3).1.Long, .bool (carriedS h u2 u3).1.Fast, .bool (carriedS h u2 u3).1.Remote, i6 (carriedS h u2 u3).1.Size, .slice ba (carriedS h u2 u3).1.Data.length bb] 42 ?_; intro np B6 B7 nq f9
     obtain ⟨sQ, sR⟩ := sK
     refine ap nq f9 3 (T := tyLine) (xs := L) (ys := [(⟨u1, h.To, (carriedS h u2 u3).1⟩ : Line)]) (ao := af) (cap := ag) (ao2 := (sm np)) (cap2 := 1) (t := 31) (e := 42) (bytes := 64) (nog rfl _) rfl (by kernel_rfl) rfl (by kernel_rfl) (by kernel_rfl) (by kernel_rfl) rfl (Src.row f9 0 rfl (RepAll.one (T := tyLine) (x := (⟨u1, h.To, (carriedS h u2 u3).1⟩ : Line)) ⟨ba, bb, rfl, fW⟩)) sQ ?_; intro ga gb B8 sS B9 nr ns
     have sT : Mem w.heap.size [] w Z [.row np [i6 u1, i6 h.To, i6 (carriedS h u2 u3).1.ID, .bool (carriedS h u2 u3).1.Long, .bool (carriedS h u2 u3).1.Fast, .bool (carriedS h u2 u3).1.Remote, i6 (carriedS h u2 u3).1.Size, .slice ba (carriedS h u2 u3).1.Data.length bb] 42, .row bX (e25M ((carriedS h u2 u3).1) ba bb) 25, .row bh (e29M h) 29, .own tyLine 42 ga gb (L ++ [(⟨u1, h.To, (carriedS h u2 u3).1⟩ : Line)]), .row Y [.slice R j.Routes.length U, .slice V j.Last.length W] 37, .row X [.slice N (gnewS u0.Routes).1.Routes.length O, .slice P (gnewS u0.Routes).1.Last.length Q] 37, .row y [.slice C (gstepS u0 u1 u2 u3).1.Routes.length D, .slice E (gstepS u0 u1 u2 u3).1.Last.length H] 37, .own tyLine 42 p q (gstepS u0 u1 u2 u3).2.1, .row I (e25M u3 ao7 cap8) 25, .row l [.slice ao1 u0.Routes.length cap2, .slice ao4 u0.Last.length cap5] 37, .own t6 3 (sm cD) ac (ae.set n.toNat u1), .row al [.slice ao1 u0.Routes.length cap2, .slice (sm cD) (ae.set n.toNat u1).length ac] 37] bW sS := ns
     refine s1 nr 17 (.slice ga (L ++ [(⟨u1, h.To, (carriedS h u2 u3).1⟩ : Line)]).length gb) ?_; intro Ca sU
     apply nk
     exact j_ (d_ (dO (L ++ [(⟨u1, h.To, (carriedS h u2 u3).1⟩ : Line)]) (ae.set n.toNat u1) ga gb bW ⟨sR, cB⟩ _ _ ((sU.reg).anyβ _ (by kernel_rfl)) (sT.kp)))
    have nv := dY.reval (d := 161) (c := []) (v := .bool (bq == (-1))) (by kernel_rfl) (.bool false) (by rw [br])
    have nx := nv.setc (d := 162) (c := [1]) (v := i6 u1) (by kernel_rfl) (v' := i6 u1) (by rw [br]; kernel_rfl)
    have ny := nx.setc (d := 163) (c := [1]) (v := pt l 1) (by kernel_rfl) (v' := pt l 1) (by rw [br]; kernel_rfl)
    have nz := ny.setc (d := 164) (c := [1]) (v := .slice ao4 u0.Last.length cap5) (by kernel_rfl) (v' := .slice ao4 u0.Last.length cap5) (by rw [br]; kernel_rfl)
    have gc := nz.setc (d := 165) (c := [1]) (v := i6 n) (by kernel_rfl) (v' := i6 n) (by rw [br]; kernel_rfl)
    obtain ⟨sW, nA⟩ := sV
    refine qix gc (T := t6) (xs := u0.Last) bH n sW (k := .i64) (e := 3) (bytes := 8) (wK gc false) rfl (by kernel_rfl) rfl (by kernel_rfl) (by kernel_rfl) (by kernel_rfl) ?_; intro Cb Cc sX cp Cd sY sZ s0 d2
    have d3 := nA cp sY
    obtain rfl : sX = ([i6 cp] : List Value) := s0
    refine qst d2 (i6 cp) (wK d2 false) rfl (by kernel_rfl) (fun v1838 hC => lz d2 hC.fz sZ 0 (g := []) rfl (by kernel_rfl) (by kernel_rfl) (by kernel_rfl) rfl) ?_; intro Ce d4
    refine qg_ d4 false (pt bh 6) ?_; intro Cf d5
    refine qst d5 (i6 h.Every) (wK d5 false) rfl (by kernel_rfl) (fun v1844 hC => ld d5 hC 1 (g := []) (b := bh) (off := 6) (cs := (e29M h)) (ty := 29) rfl (by kernel_rfl) (by kernel_rfl) (by kernel_rfl) (by kernel_rfl) rfl) ?_; intro Cg d6
    refine qg_ d6 false (i6 (w64 (cp + h.Every))) ?_; intro Ch d7
    refine qg_ d7 false (.bool (decide (u1 ≥ (w64 (cp + h.Every))))) ?_; intro Ci d8
    refine qg_ d8 true (.bool (decide (u1 ≥ (w64 (cp + h.Every))))) ?_; intro Cj nB
    refine q1 nB 173 (.bool (decide (u1 ≥ (w64 (cp + h.Every))))) ?_; intro s2 d9
    refine qnl (cC _ ?_); intro Ck cE
    refine c_ d9 d3 (fun _ s3 => ?_) fun _ th => ?_
    ·
     have nC : Fr 200 [] [⟨2, [], i6 u2⟩, ⟨4, [], pt l 0⟩, ⟨5, [], pt aa 0⟩, ⟨7, [], pt I 0⟩, ⟨9, [], pt y 0⟩, ⟨10, [], .slice p (gstepS u0 u1 u2 u3).2.1.length q⟩, ⟨11, [], i6 (gstepS u0 u1 u2 u3).2.2⟩, ⟨16, [], pt al 0⟩, ⟨17, [], .slice af L.length ag⟩, ⟨18, [], i6 n⟩, ⟨19, [], pt bh 0⟩, ⟨20, [], pt bX 0⟩, ⟨139, [], .slice ao1 u0.Routes.length cap2⟩, ⟨140, [], i6 (u0.Routes.length : Int)⟩, ⟨141, [], i6 n⟩] s2 := d9.reg
     refine sqH ?_; intro s4 nD
     refine bt nC cE 3 [10] [] [(175, .slice ai ae.length ac), (176, i6 n)] ?_; intro Cl nE
     refine z1 nE cE 177 bg 0 (i6 u1) rfl ?_; intro Cm nF
     obtain ⟨s5, s6⟩ := s3
     refine ixo nF cE 9 (T := t6) (xs := ae) n s5 (k := .i64) (e := 3) (bytes := 8) (nog rfl _) rfl (by kernel_rfl) rfl (by kernel_rfl) (by kernel_rfl) rfl (by kernel_rfl) ?_; intro cF s7 s8 ea
     subst s8
     refine so ea cE 9 (T := t6) (xs := ae) n.toNat u1 (u := i6 u1) (nog rfl _) rfl rfl (by kernel_rfl) rfl (by kernel_rfl) rfl (by kernel_rfl) (by first | omega | (simp only [List.length_set] at *; omega)) rfl ?_; intro s9 nG
     have nH : Fr 200 [] [⟨2, [], i6 u2⟩, ⟨4, [], pt l 0⟩, ⟨5, [], pt aa 0⟩, ⟨7, [], pt I 0⟩, ⟨9, [], pt y 0⟩, ⟨10, [], .slice p (gstepS u0 u1 u2 u3).2.1.length q⟩, ⟨11, [], i6 (gstepS u0 u1 u2 u3).2.2⟩, ⟨16, [], pt al 0⟩, ⟨17, [], .slice af L.length ag⟩, ⟨18, [], i6 n⟩, ⟨19, [], pt bh 0⟩, ⟨20, [], pt bX 0⟩, ⟨139, [], .slice ao1 u0.Routes.length cap2⟩, ⟨140, [], i6 (u0.Routes.length : Int)⟩, ⟨141, [], i6 n⟩, ⟨175, [], .slice (sm cF) (ae.set n.toNat u1).length ac⟩, ⟨176, [], i6 n⟩, ⟨177, [], i6 u1⟩, ⟨178, [], .pointer (some ⟨cF, n.toNat * 1, none⟩)⟩] s7 := by (try simp only [List.length_set] at ea); (try simp only [List.length_set]); exact ea.reg
     have ta : (ae.set n.toNat u1).length = ae.length := by first | assumption | (simp; try omega)
     have eb : Mem w.heap.size [] w Z [.row bX (e25M ((carriedS h u2 u3).1) ba bb) 25, .row bh (e29M h) 29, .own tyLine 42 af ag L, .row Y [.slice R j.Routes.length U, .slice V j.Last.length W] 37, .row X [.slice N (gnewS u0.Routes).1.Routes.length O, .slice P (gnewS u0.Routes).1.Last.length Q] 37, .row y [.slice C (gstepS u0 u1 u2 u3).1.Routes.length D, .slice E (gstepS u0 u1 u2 u3).1.Last.length H] 37, .own tyLine 42 p q (gstepS u0 u1 u2 u3).2.1, .row I (e25M u3 ao7 cap8) 25, .row l [.slice ao1 u0.Routes.length cap2, .slice ao4 u0.Last.length cap5] 37, .own t6 3 (sm cF) ac (ae.set n.toNat u1), .row al [.slice ao1 u0.Routes.length cap2, .slice (sm cF) (ae.set n.toNat u1).length ac] 37] bW s9 := by rw [ta]; exact nG
     apply nD
     refine rgH ?_; intro tb nI
     refine s1 nH 179 (.slice af L.length ag) ?_; intro Cn nJ
     refine z1 nJ eb 180 bg 0 (i6 u1) rfl ?_; intro Co nK
     refine bt nK eb 4 [1, 0] [] [(184, .agg #[i6 u1, i6 h.To, i6 (carriedS h u2 u3).1.ID, .bool (carriedS h u2 u3).1.Long, .bool (carriedS h u2 u3).1.Fast, .bool (carriedS h u2 u3).1.Remote, i6 (carriedS h u2 u3).1.Size, .slice ba (carriedS h u2 u3).1.Data.length bb])] ?_; intro Cp nL
     refine nw nL eb (fun b => .slice (sm b) 1 1) [i6 u1, i6 h.To, i6 (carriedS h u2 u3).1.ID, .bool (carriedS h u2 u3).1.Long, .bool (carriedS h u2 u3).1.Fast, .bool (carriedS h u2 u3).1.Remote, i6 (carriedS h u2 u3).1.Size, .slice ba (carriedS h u2 u3).1.Data.length bb] 42 ?_; intro nM Cq Cr nN gf
     obtain ⟨tc, td⟩ := s6
     refine ap nN gf 3 (T := tyLine) (xs := L) (ys := [(⟨u1, h.To, (carriedS h u2 u3).1⟩ : Line)]) (ao := af) (cap := ag) (ao2 := (sm nM)) (cap2 := 1) (t := 31) (e := 42) (bytes := 64) (nog rfl _) rfl (by kernel_rfl) rfl (by kernel_rfl) (by kernel_rfl) (by kernel_rfl) rfl (Src.row gf 0 rfl (RepAll.one (T := tyLine) (x := (⟨u1, h.To, (carriedS h u2 u3).1⟩ : Line)) ⟨ba, bb, rfl, fW⟩)) tc ?_; intro gg gh Cs te Ct nO nP
     have tf : Mem w.heap.size [] w Z [.row nM [i6 u1, i6 h.To, i6 (carriedS h u2 u3).1.ID, .bool (carriedS h u2 u3).1.Long, .bool (carriedS h u2 u3).1.Fast, .bool (carriedS h u2 u3).1.Remote, i6 (carriedS h u2 u3).1.Size, .slice ba (carriedS h u2 u3).1.Data.length bb] 42, .row bX (e25M ((carriedS h u2 u3).1) ba bb) 25, .row bh (e29M h) 29, .own tyLine 42 gg gh (L ++ [(⟨u1, h.To, (carriedS h u2 u3).1⟩ : Line)]), .row Y [.slice R j.Routes.length U, .slice V j.Last.length W] 37, .row X [.slice N (gnewS u0.Routes).1.Routes.length O, .slice P (gnewS u0.Routes).1.Last.length Q] 37, .row y [.slice C (gstepS u0 u1 u2 u3).1.Routes.length D, .slice E (gstepS u0 u1 u2 u3).1.Last.length H] 37, .own tyLine 42 p q (gstepS u0 u1 u2 u3).2.1, .row I (e25M u3 ao7 cap8) 25, .row l [.slice ao1 u0.Routes.length cap2, .slice ao4 u0.Last.length cap5] 37, .own t6 3 (sm cF) ac (ae.set n.toNat u1), .row al [.slice ao1 u0.Routes.length cap2, .slice (sm cF) (ae.set n.toNat u1).length ac] 37] bW te := nP
     refine s1 nO 17 (.slice gg (L ++ [(⟨u1, h.To, (carriedS h u2 u3).1⟩ : Line)]).length gh) ?_; intro Cu tg
     apply nI
     exact j_ (d_ (dO (L ++ [(⟨u1, h.To, (carriedS h u2 u3).1⟩ : Line)]) (ae.set n.toNat u1) gg gh bW ⟨td, cB⟩ _ _ ((tg.reg).anyβ _ (by kernel_rfl)) (tf.kp)))
    exact l_ (j_ (d_ (dO L ae af ag bW ⟨th, cB⟩ _ _ ((d9.reg).anyβ _ (by kernel_rfl)) (cE.kp))))
   have nQ := dT.reval (d := 154) (c := []) (v := .bool (carriedS h u2 u3).2) (by kernel_rfl) (.bool false) (by rw [bI])
   have nR := nQ.setc (d := 155) (c := [0]) (v := pt l 1) (by kernel_rfl) (v' := undef) (by rw [bI]; kernel_rfl)
   have nS := nR.setc (d := 156) (c := [0]) (v := .slice ao4 u0.Last.length cap5) (by kernel_rfl) (v' := undef) (by rw [bI]; kernel_rfl)
   have nT := nS.setc (d := 157) (c := [0]) (v := i6 n) (by kernel_rfl) (v' := undef) (by rw [bI]; kernel_rfl)
   refine qk_ nT false ?_; intro Cv nU
   refine qk_ nU false ?_; intro Cw nV
   refine qk_ nV false ?_; intro Cx nW
   refine qk_ nW false ?_; intro Cy nX
   refine qsku nX rfl rfl (by kernel_rfl) (by kernel_rfl) rfl (by kernel_rfl) ?_; intro Cz nY
   refine qsku nY rfl rfl (by kernel_rfl) (by kernel_rfl) rfl (by kernel_rfl) ?_; intro CA nZ
   refine qsku nZ rfl rfl (by kernel_rfl) (by kernel_rfl) rfl (by kernel_rfl) ?_; intro CB n0
   refine qsku n0 rfl rfl (by kernel_rfl) (by kernel_rfl) rfl (by kernel_rfl) ?_; intro CC n1
   refine qsku n1 rfl rfl (by kernel_rfl) (by kernel_rfl) rfl (by kernel_rfl) ?_; intro CD n2
   refine qsku n2 rfl rfl (by kernel_rfl) (by kernel_rfl) rfl (by kernel_rfl) ?_; intro CE n3
   refine qsku n3 rfl rfl (by kernel_rfl) (by kernel_rfl) rfl (by kernel_rfl) ?_; intro CF n4
   refine qsku n4 rfl rfl (by kernel_rfl) (by kernel_rfl) rfl (by kernel_rfl) ?_; intro CG n5
   refine qsku n5 rfl rfl (by kernel_rfl) (by kernel_rfl) rfl (by kernel_rfl) ?_; intro CH n6
   refine qsku n6 rfl rfl (by kernel_rfl) (by kernel_rfl) rfl (by kernel_rfl) ?_; intro CI n7
   refine qk_ n7 false ?_; intro CJ n8
   refine q1 n8 173 (.bool false) ?_; intro CK n9
   refine qnl (cC _ ?_); intro CL tj
   refine cdF n9 (by kernel_rfl) ?_
   exact l_ (j_ (d_ (dO L ae af ag bW ⟨ti, cB⟩ _ _ ((n9.reg).anyβ _ (by kernel_rfl)) (tj.kp))))
  refine x_ (y_ (y_ (z_ (t_ (sqH ?_))))); intro tl oa
  refine s1 cW 188 (i6 (gstepS u0 u1 u2 u3).2.2) ?_; intro CM ob
  refine s1 ob 189 (.bool ((gstepS u0 u1 u2 u3).2.2 == 0)) ?_; intro CN oc
  refine s1 oc 190 (.bool ((gstepS u0 u1 u2 u3).2.2 == 0)) ?_; intro CO od
  have gi := od.atom (((gstepS u0 u1 u2 u3).2.2 == 0) == true) (by kernel_rfl)
  refine gd gi (.agg #[.slice C (gstepS u0 u1 u2 u3).1.Routes.length D, .slice E (gstepS u0 u1 u2 u3).1.Last.length H]) (m := 0) (cj := []) (bj := (gstepS u0 u1 u2 u3).2.2 == 0) rfl rfl (by kernel_rfl) rfl (by kernel_rfl) (by kernel_rfl) (by kernel_rfl) (fun hg => lda gi mx 3 (g := [0]) (b := y) (off := 0) (k := 2) (cs := [.slice C (gstepS u0 u1 u2 u3).1.Routes.length D, .slice E (gstepS u0 u1 u2 u3).1.Last.length H]) (vs := [.slice C (gstepS u0 u1 u2 u3).1.Routes.length D, .slice E (gstepS u0 u1 u2 u3).1.Last.length H]) (ty := 37) rfl (by kernel_rfl) (by kernel_rfl) (by kernel_rfl) (by kernel_rfl) (by kernel_rfl) hg) ?_; intro CP gj
  refine gd gj (.agg #[.slice ao1 u0.Routes.length cap2, .slice ai ae.length ac]) (m := 0) (cj := []) (bj := (gstepS u0 u1 u2 u3).2.2 == 0) rfl rfl (by kernel_rfl) rfl (by kernel_rfl) (by kernel_rfl) (by kernel_rfl) (fun hg => lda gj mx 8 (g := [0]) (b := al) (off := 0) (k := 2) (cs := [.slice ao1 u0.Routes.length cap2, .slice ai ae.length ac]) (vs := [.slice ao1 u0.Routes.length cap2, .slice ai ae.length ac]) (ty := 37) rfl (by kernel_rfl) (by kernel_rfl) (by kernel_rfl) (by kernel_rfl) (by kernel_rfl) hg) ?_; intro CQ oe
  obtain ⟨tm, bC, og, cY⟩ := mx.freeze 7 rfl
  replace bG := bG.mono bC
  replace bU := bU.mono bC
  replace bV := bV.mono bC
  have gk : Mem w.heap.size [] w Z [.own tyLine 42 af ag L, .row Y [.slice R j.Routes.length U, .slice V j.Last.length W] 37, .row X [.slice N (gnewS u0.Routes).1.Routes.length O, .slice P (gnewS u0.Routes).1.Last.length Q] 37, .row y [.slice C (gstepS u0 u1 u2 u3).1.Routes.length D, .slice E (gstepS u0 u1 u2 u3).1.Last.length H] 37, .own tyLine 42 p q (gstepS u0 u1 u2 u3).2.1, .row I (e25M u3 ao7 cap8) 25, .row l [.slice ao1 u0.Routes.length cap2, .slice ao4 u0.Last.length cap5] 37, .row al [.slice ao1 u0.Routes.length cap2, .slice ai ae.length ac] 37] tm mv := og
  refine gcl oe gk (.bool (samegS (gstepS u0 u1 u2 u3).1 (⟨u0.Routes, ae⟩ : Gate))) 17 #[.agg #[.slice C (gstepS u0 u1 u2 u3).1.Routes.length D, .slice E (gstepS u0 u1 u2 u3).1.Last.length H], .agg #[.slice ao1 u0.Routes.length cap2, .slice ai ae.length ac]] (m := 0) (cj := []) (bj := (gstepS u0 u1 u2 u3).2.2 == 0) rfl rfl (by kernel_rfl) rfl (by kernel_rfl) (by kernel_rfl) (by kernel_rfl) (fun _ => by kernel_rfl) (fun hg => sameg_fun (gstepS u0 u1 u2 u3).1 (⟨u0.Routes, ae⟩ : Gate) C D E H ao1 cap2 ai ac _ _ bU bV bG cY gk.fz) ?_; intro CR oh gl tp
  refine u_ gl (.bool (((gstepS u0 u1 u2 u3).2.2 == 0) && (samegS (gstepS u0 u1 u2 u3).1 (⟨u0.Routes, ae⟩ : Gate)))) (pk_and gl (g := []) (m := 0) (b := (gstepS u0 u1 u2 u3).2.2 == 0) (v := (samegS (gstepS u0 u1 u2 u3).1 (⟨u0.Routes, ae⟩ : Gate))) rfl (by kernel_rfl) (by kernel_rfl) (by kernel_rfl) rfl) ?_; intro CS oi
  refine s1 oi 195 (.bool (((gstepS u0 u1 u2 u3).2.2 == 0) && (samegS (gstepS u0 u1 u2 u3).1 (⟨u0.Routes, ae⟩ : Gate)))) ?_; intro CT ok
  have ol := ok.atom ((((gstepS u0 u1 u2 u3).2.2 == 0) && (samegS (gstepS u0 u1 u2 u3).1 (⟨u0.Routes, ae⟩ : Gate))) == true) (by kernel_rfl)
  refine gp ol 196 1 [] (((gstepS u0 u1 u2 u3).2.2 == 0) && (samegS (gstepS u0 u1 u2 u3).1 (⟨u0.Routes, ae⟩ : Gate))) (.slice p (gstepS u0 u1 u2 u3).2.1.length q) rfl rfl ?_; intro CU om
  refine gp om 197 1 [] (((gstepS u0 u1 u2 u3).2.2 == 0) && (samegS (gstepS u0 u1 u2 u3).1 (⟨u0.Routes, ae⟩ : Gate))) (.slice af L.length ag) rfl rfl ?_; intro CV oo
  obtain ⟨tq, bs, op, gm⟩ := tp.freeze 4 rfl
  have tr : Mem w.heap.size [] w Z [.own tyLine 42 af ag L, .row Y [.slice R j.Routes.length U, .slice V j.Last.length W] 37, .row X [.slice N (gnewS u0.Routes).1.Routes.length O, .slice P (gnewS u0.Routes).1.Last.length Q] 37, .row y [.slice C (gstepS u0 u1 u2 u3).1.Routes.length D, .slice E (gstepS u0 u1 u2 u3).1.Last.length H] 37, .row I (e25M u3 ao7 cap8) 25, .row l [.slice ao1 u0.Routes.length cap2, .slice ao4 u0.Last.length cap5] 37, .row al [.slice ao1 u0.Routes.length cap2, .slice ai ae.length ac] 37] tq oh := op
  obtain ⟨ts, bk, oq, tt⟩ := tr.freeze 0 rfl
  replace gm := gm.mono bk
  have gn : Mem w.heap.size [] w Z [.row Y [.slice R j.Routes.length U, .slice V j.Last.length W] 37, .row X [.slice N (gnewS u0.Routes).1.Routes.length O, .slice P (gnewS u0.Routes).1.Last.length Q] 37, .row y [.slice C (gstepS u0 u1 u2 u3).1.Routes.length D, .slice E (gstepS u0 u1 u2 u3).1.Last.length H] 37, .row I (e25M u3 ao7 cap8) 25, .row l [.slice ao1 u0.Routes.length cap2, .slice ao4 u0.Last.length cap5] 37, .row al [.slice ao1 u0.Routes.length cap2, .slice ai ae.length ac] 37] ts oh := oq
  refine gcl oo gn (.bool (samelS (gstepS u0 u1 u2 u3).2.1 L)) 23 #[.slice p (gstepS u0 u1 u2 u3).2.1.length q, .slice af L.length ag] (m := 1) (cj := []) (bj := ((gstepS u0 u1 u2 u3).2.2 == 0) && (samegS (gstepS u0 u1 u2 u3).1 (⟨u0.Routes, ae⟩ : Gate))) rfl rfl (by kernel_rfl) rfl (by kernel_rfl) (by kernel_rfl) (by kernel_rfl) (fun _ => by kernel_rfl) (fun hg => samel_fun (gstepS u0 u1 u2 u3).2.1 L p q af ag _ _ gm tt gn.fz) ?_; intro CW CX go tu
  refine u_ go (.bool ((((gstepS u0 u1 u2 u3).2.2 == 0) && (samegS (gstepS u0 u1 u2 u3).1 (⟨u0.Routes, ae⟩ : Gate))) && (samelS (gstepS u0 u1 u2 u3).2.1 L))) (pk_and go (g := []) (m := 1) (b := ((gstepS u0 u1 u2 u3).2.2 == 0) && (samegS (gstepS u0 u1 u2 u3).1 (⟨u0.Routes, ae⟩ : Gate))) (v := (samelS (gstepS u0 u1 u2 u3).2.1 L)) rfl (by kernel_rfl) (by kernel_rfl) (by kernel_rfl) rfl) ?_; intro CY or
  refine s1 or 8 (.bool ((((gstepS u0 u1 u2 u3).2.2 == 0) && (samegS (gstepS u0 u1 u2 u3).1 (⟨u0.Routes, ae⟩ : Gate))) && (samelS (gstepS u0 u1 u2 u3).2.1 L))) ?_; intro CZ tv
  apply oa
  exact r_ (ra1 tv (.bool ((((gstepS u0 u1 u2 u3).2.2 == 0) && (samegS (gstepS u0 u1 u2 u3).1 (⟨u0.Routes, ae⟩ : Gate))) && (samelS (gstepS u0 u1 u2 u3).2.1 L))) ⟨(((gstepS u0 u1 u2 u3).2.2 == 0) && (samegS (gstepS u0 u1 u2 u3).1 (⟨u0.Routes, ae⟩ : Gate))) && (samelS (gstepS u0 u1 u2 u3).2.1 L), rfl, tk, tu.below⟩)

end Go.Proofs.Ytmkdnaecmombnaa
