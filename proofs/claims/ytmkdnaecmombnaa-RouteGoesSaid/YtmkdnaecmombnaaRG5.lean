/- Texts put together (pure ones, or walks made by program). -/
import Derived.Test.YtmkdnaecmombnaaRG0
import Derived.Test.YtmkdnaecmombnaaRG1
import Derived.Test.YtmkdnaecmombnaaRG2
import Derived.Test.YtmkdnaecmombnaaRG3
import Derived.Test.YtmkdnaecmombnaaRG4
set_option linter.unusedVariables false
set_option linter.unusedSimpArgs false
set_option linter.defProp false
set_option maxRecDepth 100000
set_option maxHeartbeats 0
namespace Go.Proofs.Ytmkdnaecmombnaa
open Go.Sy Go.RowKit
abbrev e25J (X : Frame) (A0 : Option Addr) (C0 : Nat) : List Value := [i6 X.ID, .bool X.Long, .bool X.Fast, .bool X.Remote, i6 X.Size, .slice A0 X.Data.length C0]
abbrev e29J (X : Route) : List Value := [i6 X.From, i6 X.To, i6 X.F.Want, i6 X.F.Mask, .bool X.F.Long, i6 X.Add, i6 X.Every]
abbrev e75J (X : Key) : List Value := [i6 X.bus, i6 X.id, .bool X.long]
def sorted_fun (u0 : List Line) (hpre : (∀ x ∈ u0, lineR x) ∧ u0.length ≤ 1000000) (ao1 : Option Addr) (cap2 : Nat) (B : Nat) (w0 : World) (Z0 : Fz) (Rr : List Res) (Z : Fz) (w : World) (hM0 : Mem B [] w0 Z0 ((.own tyLine 42 ao1 cap2 u0) :: Rr) Z w) (hZ : Z.on w) := fc_ (sorted_walk u0 ao1 cap2 B w0 Z0 Rr Z w hM0 hZ (sorted_ok u0 hpre))
def icontf_fun (u0 : List Int) (u1 : Int → Bool) (ao1 : Option Addr) (cap2 : Nat) (fid4 : Nat) (caps5 : Array Value) (Z : Fz) (w : World) (hs3 : SlR t6 Z ao1 cap2 u0) (hf6 : ∀ (Z1 : Fz) (w1 : World), Z.le Z1 → Z1.on w1 → ∀ (x0 : Int), Calls Try.prog fid4 (#[i6 x0] ++ caps5) w1 fun e w2 => e = .returned (.bool (u1 x0)) ∧ Below w1.heap.size w1 w2) (hg7 : ∀ x w, Sem.run Try.prog (callFunc fid4 x) w = .ok (.enter fid4 x) w) (hZ : Z.on w) := f_ (icontf_walk u0 u1 ao1 cap2 fid4 caps5 Z w hs3 hf6 hg7 hZ (icontf_ok u0 u1))
theorem spread_walk (u0 : List Route) (u1 : Int) (u2 : Frame) (ao1 : Option Addr) (cap2 : Nat) (ao4 : Option Addr) (cap5 : Nat) (Z : Fz) (w : World) (hs3 : SlR tyRoute Z ao1 cap2 u0) (hs6 : SlR t8 Z ao4 cap5 u2.Data) (hZ : Z.on w) {K : ((List Line) × Int) → Prop} (hp : spread_vc u0 u1 u2 K) : Calls Try.prog 8 #[.slice ao1 u0.length cap2, i6 u1, .agg #[i6 u2.ID, .bool u2.Long, .bool u2.Fast, .bool u2.Remote, i6 u2.Size, .slice ao4 u2.Data.length cap5]] w fun e w' => ∃ (r : (List Line) × Int) (ao1001 : Option Addr) (cap1002 : Nat) (Z' : Fz), e = .returned (.tuple #[.slice ao1001 r.1.length cap1002, i6 r.2]) ∧ K r ∧ Mem w.heap.size [] w Z [.own tyLine 42 ao1001 cap1002 r.1] Z' w' := by
 refine enter0 Try.func8 rfl rfl (by kernel_rfl) ?_; intro a0 av; have aw := Mem.start w Z hZ
 have bJ := hp (hs3.small) (hs6.small)
 refine sqH ?_; intro bK ay
 refine nw av aw pb (e25J u2 ao4 cap5) 25 ?_; intro g cA cB az V
 refine bt az V 2 [] [] [] ?_; intro cC aA
 apply ay
 refine sqH ?_; intro bL aB
 refine s1 aA 18 (.slice ao1 u0.length cap2) ?_; intro cD aC
 obtain ⟨bM, aD⟩ := bJ
 refine ck aC 9 #[.slice ao1 u0.length cap2] ?_
 refine (gnew_fun u0 bM ao1 cap2 _ _ hs3 V.fz).mono ?_; rintro _ bN ⟨n, o, p, q, s, rfl, l, m, hm⟩; refine ⟨_, rfl, ?_⟩; intro cE aE; have aF := V.callZ hm; have ae := hm.ext.le
 replace hs6 := hs6.mono ae
 have af : Mem w.heap.size [] w Z [.row g (e25J u2 ao4 cap5) 25] s bN := aF
 have W := aD (l.small) (m.small)
 refine bt aE af 3 [] [] [(20, .agg #[.slice n (gnewS u0).1.Routes.length o, .slice p (gnewS u0).1.Last.length q]), (21, i6 (gnewS u0).2)] ?_; intro cF aH
 refine nw aH af pb [.slice none 0 0, .slice none 0 0] 37 ?_; intro f cG cH ag aI
 refine sx ag aI 0 [.slice n (gnewS u0).1.Routes.length o, .slice p (gnewS u0).1.Last.length q] 0 ?_; intro aJ aK
 refine s1 ag 9 (i6 (gnewS u0).2) ?_; intro cI aL
 have G : Mem w.heap.size [] w Z [.row f [.slice n (gnewS u0).1.Routes.length o, .slice p (gnewS u0).1.Last.length q] 37, .row g (e25J u2 ao4 cap5) 25] s aJ := aK
 apply aB
 refine s_ (sqB aL G [] [] [(23, .bool ((gnewS u0).2 != 0))] ?_); intro cJ N
 refine c_ N W (fun _ bO => ?_) fun _ X => ?_
 ·
  refine sqB N G [] [] [(6, .slice none 0 0), (7, i6 (gnewS u0).2)] ?_; intro cK bP
  refine r_ (h_ ?_)
  have bQ : Mem w.heap.size [] w Z [.own tyLine 42 none 0 ([] : List Line), .row f [.slice n (gnewS u0).1.Routes.length o, .slice p (gnewS u0).1.Last.length q] 37, .row g (e25J u2 ao4 cap5) 25] s aJ := G.addNil tyLine 42 (by decide)
  exact ra2 bP (.tuple #[.slice none ([] : List Line).length 0, i6 (gnewS u0).2]) ⟨(([] : List Line), (gnewS u0).2), none, 0, s, rfl, bO, bQ.kp⟩
 refine k_ (s_ (sqH ?_)); intro bR aM
 refine l2 N G 25 1 0 6 (e25J u2 ao4 cap5) rfl rfl ?_; intro cL aN
 refine fc aN G (fcheckfr_fun u2 ao4 cap5 _ _ hs6 G.fz) ?_; intro cM aO aP z
 refine s1 aP 10 (i6 (fcheckfr u2)) ?_; intro cN aQ
 apply aM
 refine sqB aQ z [] [] [(28, .bool ((fcheckfr u2) != 0))] ?_; intro cO O
 refine c_ O X (fun _ bS => ?_) fun _ Y => ?_
 ·
  refine sqB O z [] [] [(6, .slice none 0 0), (7, i6 (fcheckfr u2))] ?_; intro cP bT
  refine r_ (h_ ?_)
  have bU : Mem w.heap.size [] w Z [.own tyLine 42 none 0 ([] : List Line), .row f [.slice n (gnewS u0).1.Routes.length o, .slice p (gnewS u0).1.Last.length q] 37, .row g (e25J u2 ao4 cap5) 25] s aO := z.addNil tyLine 42 (by decide)
  exact ra2 bT (.tuple #[.slice none ([] : List Line).length 0, i6 (fcheckfr u2)]) ⟨(([] : List Line), (fcheckfr u2)), none, 0, s, rfl, bS, bU.kp⟩
 refine k_ (s_ (sqB O z [] [] [(35, .bool ((decide (u1 < 0)) || (decide (u1 ≥ 4))))] ?_)); intro cQ P
 refine c_ P Y (fun _ bV => ?_) fun _ bY => ?_
 ·
  refine sqB P z [] [] [(6, .slice none 0 0), (7, i6 3)] ?_; intro cR bW
  refine r_ (h_ ?_)
  have bX : Mem w.heap.size [] w Z [.own tyLine 42 none 0 ([] : List Line), .row f [.slice n (gnewS u0).1.Routes.length o, .slice p (gnewS u0).1.Last.length q] 37, .row g (e25J u2 ao4 cap5) 25] s aO := z.addNil tyLine 42 (by decide)
  exact ra2 bW (.tuple #[.slice none ([] : List Line).length 0, i6 3]) ⟨(([] : List Line), 3), none, 0, s, rfl, bV, bX.kp⟩
 refine k_ (sqH ?_); intro bZ aR
 refine nw P z pb [.slice none 0 0] 31 ?_; intro a cT cU aS aT
 apply aR
 refine sqH ?_; intro b0 aU
 refine mkm aS aT (fun x : Key => .agg (e75J x).toArray) (fun x : Bool => .bool x) (t := 71) (nog rfl _) rfl (by kernel_rfl) rfl ?_; intro h cV b1 aV aW
 have aX : Mem w.heap.size [] w Z [.map (fun x : Key => .agg (e75J x).toArray) (fun x : Bool => .bool x) h ([] : List (Key × Bool)), .row a [.slice none 0 0] 31, .row f [.slice n (gnewS u0).1.Routes.length o, .slice p (gnewS u0).1.Last.length q] 37, .row g (e25J u2 ao4 cap5) 25] s b1 := aW
 refine nw aV aX pb [.map none] 71 ?_; intro j cW cX ak aY
 refine sx ak aY 0 [.map (some h)] 0 ?_; intro b2 aZ
 have a1 : Mem w.heap.size [] w Z [.row j [.map (some h)] 71, .map (fun x : Key => .agg (e75J x).toArray) (fun x : Bool => .bool x) h ([] : List (Key × Bool)), .row a [.slice none 0 0] 31, .row f [.slice n (gnewS u0).1.Routes.length o, .slice p (gnewS u0).1.Last.length q] 37, .row g (e25J u2 ao4 cap5) 25] s b2 := aZ
 apply aU
 refine sqH ?_; intro b3 a2
 refine nw ak a1 pb [.bool false] 4 ?_; intro b cY cZ a3 a4
 refine nw a3 a4 pb [.bool false] 4 ?_; intro c c0 c1 a5 a6
 refine nw a5 a6 pb [i6 0] 3 ?_; intro d c2 c3 Q a7
 refine sx Q a7 2 [.bool false] 0 ?_; intro c4 a8
 refine sx Q a8 1 [.bool false] 0 ?_; intro c5 a9
 refine sx Q a9 0 [i6 0] 0 ?_; intro b4 ba
 have bb : Mem w.heap.size [] w Z [.row d [i6 0] 3, .row c [.bool false] 4, .row b [.bool false] 4, .row j [.map (some h)] 71, .map (fun x : Key => .agg (e75J x).toArray) (fun x : Bool => .bool x) h ([] : List (Key × Bool)), .row a [.slice none 0 0] 31, .row f [.slice n (gnewS u0).1.Routes.length o, .slice p (gnewS u0).1.Last.length q] 37, .row g (e25J u2 ao4 cap5) 25] s b4 := ba
 apply a2
 refine sqH ?_; intro b5 bc
 refine nw Q bb pb [.nilFunc] 72 ?_; intro i c6 c7 bd be
 apply bc
 refine sqH ?_; intro b6 bf
 refine s1 bd 37 (.func (.func 28) #[] #[pt b 0, pt j 0, pt c 0, pt d 0, pt f 0, pt a 0, pt i 0]) ?_; intro b7 al
 refine sx al be 0 [.func (.func 28) #[] #[pt b 0, pt j 0, pt c 0, pt d 0, pt f 0, pt a 0, pt i 0]] 0 ?_; intro b8 bg
 have bh : Mem w.heap.size [] w Z [.row i [.func (.func 28) #[] #[pt b 0, pt j 0, pt c 0, pt d 0, pt f 0, pt a 0, pt i 0]] 72, .row d [i6 0] 3, .row c [.bool false] 4, .row b [.bool false] 4, .row j [.map (some h)] 71, .map (fun x : Key => .agg (e75J x).toArray) (fun x : Bool => .bool x) h ([] : List (Key × Bool)), .row a [.slice none 0 0] 31, .row f [.slice n (gnewS u0).1.Routes.length o, .slice p (gnewS u0).1.Last.length q] 37, .row g (e25J u2 ao4 cap5) 25] s b8 := bg
 apply bf
 have bi : Fr 47 [] [⟨1, [], i6 u1⟩, ⟨5, [], pt g 0⟩, ⟨11, [], pt a 0⟩, ⟨13, [], pt b 0⟩, ⟨14, [], pt c 0⟩, ⟨16, [], pt i 0⟩] b7 := al.reg
 refine wp_seq (rgS mixed bh [(0, true), (1, true), (2, true), (3, false), (4, false)] [4] [0, 8] [.row i [.func (.func 28) #[] #[pt b 0, pt j 0, pt c 0, pt d 0, pt f 0, pt a 0, pt i 0]] 72, .row g (e25J u2 ao4 cap5) 25] ?_)
 intro b9 bj c8 am
 have v := Fz.le.refl s
 refine cS bi 3 [0, 1] [] [(38, .func (.func 28) #[] #[pt b 0, pt j 0, pt c 0, pt d 0, pt f 0, pt a 0, pt i 0]), (39, i6 u1), (40, .agg (e25J u2 ao4 cap5).toArray)] ?_; intro c9 bk
 refine eS rfl ?_; intro ca bl
 obtain ⟨cb, cc⟩ := bY
 refine ck bk 31 #[.agg (e25J u2 ao4 cap5).toArray] ?_
 refine (fcopy_fun u2 cb ao4 cap5 _ _ hs6 am.fz).mono ?_; rintro _ L ⟨bm, bn, ce, rfl, y, hm⟩; refine ⟨_, rfl, ?_⟩; intro da bo; have bp := am.callZ hm; have M := hm.ext.le
 replace l := l.mono M
 replace m := m.mono M
 replace v := v.mono M
 have bq : Mem w.heap.size [] w Z [.row i [.func (.func 28) #[] #[pt b 0, pt j 0, pt c 0, pt d 0, pt f 0, pt a 0, pt i 0]] 72, .row d [i6 0] 3, .row c [.bool false] 4, .row b [.bool false] 4, .row j [.map (some h)] 71, .map (fun x : Key => .agg (e75J x).toArray) (fun x : Bool => .bool x) h ([] : List (Key × Bool)), .row a [.slice none 0 0] 31, .row f [.slice n (gnewS u0).1.Routes.length o, .slice p (gnewS u0).1.Last.length q] 37, .row g (e25J u2 ao4 cap5) 25] ce L := bp
 refine nl (qnI (bl _ _ (bq.cst v [0, 8]) ?_))
 refine eL rfl ?_; intro cf br
 obtain ⟨cg, I, bs, D⟩ := bq.freezeRow 4 rfl
 replace l := l.mono I
 replace m := m.mono I
 replace y := y.mono I
 have ch : Mem w.heap.size [] w Z [.row i [.func (.func 28) #[] #[pt b 0, pt j 0, pt c 0, pt d 0, pt f 0, pt a 0, pt i 0]] 72, .row d [i6 0] 3, .row c [.bool false] 4, .row b [.bool false] 4, .map (fun x : Key => .agg (e75J x).toArray) (fun x : Bool => .bool x) h ([] : List (Key × Bool)), .row a [.slice none 0 0] 31, .row f [.slice n (gnewS u0).1.Routes.length o, .slice p (gnewS u0).1.Last.length q] 37, .row g (e25J u2 ao4 cap5) 25] cg L := bs
 obtain ⟨an, H, bu, J⟩ := ch.freezeRow 6 rfl
 replace l := l.mono H
 replace m := m.mono H
 replace y := y.mono H
 replace D := D.mono H
 have bv : Mem w.heap.size [] w Z [.row i [.func (.func 28) #[] #[pt b 0, pt j 0, pt c 0, pt d 0, pt f 0, pt a 0, pt i 0]] 72, .row d [i6 0] 3, .row c [.bool false] 4, .row b [.bool false] 4, .map (fun x : Key => .agg (e75J x).toArray) (fun x : Bool => .bool x) h ([] : List (Key × Bool)), .row a [.slice none 0 0] 31, .row g (e25J u2 ao4 cap5) 25] an L := bu
 have bw : Mem w.heap.size [] w Z [.own tyLine 42 none 0 ([] : List Line), .row i [.func (.func 28) #[] #[pt b 0, pt j 0, pt c 0, pt d 0, pt f 0, pt a 0, pt i 0]] 72, .row d [i6 0] 3, .row c [.bool false] 4, .row b [.bool false] 4, .map (fun x : Key => .agg (e75J x).toArray) (fun x : Bool => .bool x) h ([] : List (Key × Bool)), .row a [.slice none 0 0] 31, .row g (e25J u2 ao4 cap5) 25] an L := bv.addNil tyLine 42 (by decide)
 have ci : Mem w.heap.size [] w Z [.own tyLine 42 none 0 ([] : List Line), .row i [.func (.func 28) #[] #[pt b 0, pt j 0, pt c 0, pt d 0, pt f 0, pt a 0, pt i 0]] 72, .row d [i6 0] 3, .row c [.bool false] 4, .row b [.bool false] 4, .map (fun x : Key => .agg (e75J x).toArray) (fun x : Bool => .bool x) h ([] : List (Key × Bool)), .row a [.slice none ([] : List Line).length 0] 31, .row g (e25J u2 ao4 cap5) 25] an L := bw
 obtain ⟨cj, E, bx, R⟩ := ci.freezeRow 1 rfl
 replace l := l.mono E
 replace m := m.mono E
 replace y := y.mono E
 replace D := D.mono E
 replace J := J.mono E
 have ao : Mem w.heap.size [] w Z [.own tyLine 42 none 0 ([] : List Line), .row d [i6 0] 3, .row c [.bool false] 4, .row b [.bool false] 4, .map (fun x : Key => .agg (e75J x).toArray) (fun x : Bool => .bool x) h ([] : List (Key × Bool)), .row a [.slice none ([] : List Line).length 0] 31, .row g (e25J u2 ao4 cap5) 25] cj L := bx
 obtain ⟨cl, aa⟩ := cc
 refine ck bo 28 #[i6 u1, .agg (e25J (fcopyS u2) bm bn).toArray, .slice none 0 0, pt b 0, pt j 0, pt c 0, pt d 0, pt f 0, pt a 0, pt i 0] ?_
 refine (go1_fun u1 (fcopyS u2) [] false ([] : List (Key × Bool)) false 0 (gnewS u0).1 ([] : List Line) cl bm bn none 0 b j 0 h c d f 0 n o p q a none 0 i 0 _ _ _ _ _ _ y (SlR.nil _ _) D J l m R (ao.perm ((pk 3 rfl).trans (((pk 3 rfl).trans (((pk 2 rfl).trans (((pk 1 rfl).trans (((pk 1 rfl).trans (lpr.cons _)).cons _)).cons _)).cons _)).cons _))) ao.fz).mono ?_; rintro _ ap ⟨A, B, S, rfl, C, hm⟩; refine ⟨_, rfl, ?_⟩; intro db bz; have bA := hm
 have u : Mem w.heap.size [] w Z [.row b [.bool (goS u1 (fcopyS u2) [] false ([] : List (Key × Bool)) false 0 (gnewS u0).1 ([] : List Line)).1] 4, .row c [.bool (goS u1 (fcopyS u2) [] false ([] : List (Key × Bool)) false 0 (gnewS u0).1 ([] : List Line)).2.1] 4, .row d [i6 (goS u1 (fcopyS u2) [] false ([] : List (Key × Bool)) false 0 (gnewS u0).1 ([] : List Line)).2.2.1] 3, .map (fun x : Key => .agg (e75J x).toArray) (fun x : Bool => .bool x) h (goS u1 (fcopyS u2) [] false ([] : List (Key × Bool)) false 0 (gnewS u0).1 ([] : List Line)).2.2.2.1, .row a [.slice A (goS u1 (fcopyS u2) [] false ([] : List (Key × Bool)) false 0 (gnewS u0).1 ([] : List Line)).2.2.2.2.length B] 31, .own tyLine 42 A B (goS u1 (fcopyS u2) [] false ([] : List (Key × Bool)) false 0 (gnewS u0).1 ([] : List Line)).2.2.2.2, .row g (e25J u2 ao4 cap5) 25] S ap := bA
 refine nl (qnI (br _ _ ?_))
 refine nS (bj _ _ ?_)
 refine t_ (s_ (sqH ?_)); intro cm bB
 refine l1 bz u 43 0 0 (.bool (goS u1 (fcopyS u2) [] false ([] : List (Key × Bool)) false 0 (gnewS u0).1 ([] : List Line)).1) rfl rfl ?_; intro dc T
 apply bB
 refine c_ T aa (fun _ cn => ?_) fun _ ab => ?_
 ·
  refine sqB T u [] [] [(6, .slice none 0 0), (7, i6 13)] ?_; intro dd co
  refine r_ (h_ ?_)
  have cp : Mem w.heap.size [] w Z [.own tyLine 42 none 0 ([] : List Line), .row b [.bool (goS u1 (fcopyS u2) [] false ([] : List (Key × Bool)) false 0 (gnewS u0).1 ([] : List Line)).1] 4, .row c [.bool (goS u1 (fcopyS u2) [] false ([] : List (Key × Bool)) false 0 (gnewS u0).1 ([] : List Line)).2.1] 4, .row d [i6 (goS u1 (fcopyS u2) [] false ([] : List (Key × Bool)) false 0 (gnewS u0).1 ([] : List Line)).2.2.1] 3, .map (fun x : Key => .agg (e75J x).toArray) (fun x : Bool => .bool x) h (goS u1 (fcopyS u2) [] false ([] : List (Key × Bool)) false 0 (gnewS u0).1 ([] : List Line)).2.2.2.1, .row a [.slice A (goS u1 (fcopyS u2) [] false ([] : List (Key × Bool)) false 0 (gnewS u0).1 ([] : List Line)).2.2.2.2.length B] 31, .own tyLine 42 A B (goS u1 (fcopyS u2) [] false ([] : List (Key × Bool)) false 0 (gnewS u0).1 ([] : List Line)).2.2.2.2, .row g (e25J u2 ao4 cap5) 25] S ap := u.addNil tyLine 42 (by decide)
  exact ra2 co (.tuple #[.slice none ([] : List Line).length 0, i6 13]) ⟨(([] : List Line), 13), none, 0, S, rfl, cn, cp.kp⟩
 refine k_ (s_ (sqH ?_)); intro cq bC
 refine l1 T u 44 1 0 (.bool (goS u1 (fcopyS u2) [] false ([] : List (Key × Bool)) false 0 (gnewS u0).1 ([] : List Line)).2.1) rfl rfl ?_; intro de U
 apply bC
 refine c_ U ab (fun _ cr => ?_) fun _ cu => ?_
 ·
  refine sqB U u [] [] [(6, .slice none 0 0), (7, i6 2)] ?_; intro df cs
  refine r_ (h_ ?_)
  have ct : Mem w.heap.size [] w Z [.own tyLine 42 none 0 ([] : List Line), .row b [.bool (goS u1 (fcopyS u2) [] false ([] : List (Key × Bool)) false 0 (gnewS u0).1 ([] : List Line)).1] 4, .row c [.bool (goS u1 (fcopyS u2) [] false ([] : List (Key × Bool)) false 0 (gnewS u0).1 ([] : List Line)).2.1] 4, .row d [i6 (goS u1 (fcopyS u2) [] false ([] : List (Key × Bool)) false 0 (gnewS u0).1 ([] : List Line)).2.2.1] 3, .map (fun x : Key => .agg (e75J x).toArray) (fun x : Bool => .bool x) h (goS u1 (fcopyS u2) [] false ([] : List (Key × Bool)) false 0 (gnewS u0).1 ([] : List Line)).2.2.2.1, .row a [.slice A (goS u1 (fcopyS u2) [] false ([] : List (Key × Bool)) false 0 (gnewS u0).1 ([] : List Line)).2.2.2.2.length B] 31, .own tyLine 42 A B (goS u1 (fcopyS u2) [] false ([] : List (Key × Bool)) false 0 (gnewS u0).1 ([] : List Line)).2.2.2.2, .row g (e25J u2 ao4 cap5) 25] S ap := u.addNil tyLine 42 (by decide)
  exact ra2 cs (.tuple #[.slice none ([] : List Line).length 0, i6 2]) ⟨(([] : List Line), 2), none, 0, S, rfl, cr, ct.kp⟩
 refine k_ (sqH ?_); intro cv bD
 refine l1 U u 45 4 0 (.slice A (goS u1 (fcopyS u2) [] false ([] : List (Key × Bool)) false 0 (gnewS u0).1 ([] : List Line)).2.2.2.2.length B) rfl rfl ?_; intro dg bE
 obtain ⟨cw, bF⟩ := cu
 refine ck bE 32 #[.slice A (goS u1 (fcopyS u2) [] false ([] : List (Key × Bool)) false 0 (gnewS u0).1 ([] : List Line)).2.2.2.2.length B] ?_
 refine (sorted_fun (goS u1 (fcopyS u2) [] false ([] : List (Key × Bool)) false 0 (gnewS u0).1 ([] : List Line)).2.2.2.2 cw A B _ _ _ _ _ _ (u.perm (pk 5 rfl)) u.fz).mono ?_; rintro _ cx ⟨ac, ad, bG, rfl, F, hm⟩; refine ⟨_, rfl, ?_⟩; intro dh bH; have bI := hm
 have au : Mem w.heap.size [] w Z [.own tyLine 42 ac ad (sortedS (goS u1 (fcopyS u2) [] false ([] : List (Key × Bool)) false 0 (gnewS u0).1 ([] : List Line)).2.2.2.2), .row b [.bool (goS u1 (fcopyS u2) [] false ([] : List (Key × Bool)) false 0 (gnewS u0).1 ([] : List Line)).1] 4, .row c [.bool (goS u1 (fcopyS u2) [] false ([] : List (Key × Bool)) false 0 (gnewS u0).1 ([] : List Line)).2.1] 4, .row d [i6 (goS u1 (fcopyS u2) [] false ([] : List (Key × Bool)) false 0 (gnewS u0).1 ([] : List Line)).2.2.1] 3, .map (fun x : Key => .agg (e75J x).toArray) (fun x : Bool => .bool x) h (goS u1 (fcopyS u2) [] false ([] : List (Key × Bool)) false 0 (gnewS u0).1 ([] : List Line)).2.2.2.1, .row a [.slice A (goS u1 (fcopyS u2) [] false ([] : List (Key × Bool)) false 0 (gnewS u0).1 ([] : List Line)).2.2.2.2.length B] 31, .row g (e25J u2 ao4 cap5) 25] bG cx := bI
 have cy := bF (au.ownSmall 0 rfl)
 refine bt bH au 2 [] [] [(6, .slice ac (sortedS (goS u1 (fcopyS u2) [] false ([] : List (Key × Bool)) false 0 (gnewS u0).1 ([] : List Line)).2.2.2.2).length ad), (7, i6 0)] ?_; intro di cz
 apply bD
 exact r_ (ra2 cz (.tuple #[.slice ac (sortedS (goS u1 (fcopyS u2) [] false ([] : List (Key × Bool)) false 0 (gnewS u0).1 ([] : List Line)).2.2.2.2).length ad, i6 0]) ⟨((sortedS (goS u1 (fcopyS u2) [] false ([] : List (Key × Bool)) false 0 (gnewS u0).1 ([] : List Line)).2.2.2.2), 0), ac, ad, bG, rfl, cy, au.kp⟩)

theorem gstepf_walk (u0 : Gate) (u1 : Int) (u2 : Int) (u3 : Frame) (ao1 : Option Addr) (cap2 : Nat) (ao4 : Option Addr) (cap5 : Nat) (ao7 : Option Addr) (cap8 : Nat) (Z : Fz) (w : World) (hs3 : SlR tyRoute Z ao1 cap2 u0.Routes) (hs6 : SlR t6 Z ao4 cap5 u0.Last) (hs9 : SlR t8 Z ao7 cap8 u3.Data) (hZ : Z.on w) {K : (Gate × (List Line) × Int) → Prop} (hp : gstepf_vc u0 u1 u2 u3 K) : Calls Try.prog 10 #[.agg #[.slice ao1 u0.Routes.length cap2, .slice ao4 u0.Last.length cap5], i6 u1, i6 u2, .agg #[i6 u3.ID, .bool u3.Long, .bool u3.Fast, .bool u3.Remote, i6 u3.Size, .slice ao7 u3.Data.length cap8]] w fun e w' => ∃ (r : Gate × (List Line) × Int) (ao1001 : Option Addr) (cap1002 : Nat) (ao1004 : Option Addr) (cap1005 : Nat) (ao1007 : Option Addr) (cap1008 : Nat) (Z' : Fz), e = .returned (.tuple #[.agg #[.slice ao1001 r.1.Routes.length cap1002, .slice ao1004 r.1.Last.length cap1005], .slice ao1007 r.2.1.length cap1008, i6 r.2.2]) ∧ K r ∧ SlR tyRoute Z' ao1001 cap1002 r.1.Routes ∧ SlR t6 Z' ao1004 cap1005 r.1.Last ∧ Mem w.heap.size [] w Z [.own tyLine 42 ao1007 cap1008 r.2.1] Z' w' := by
 refine enter0 Try.func10 rfl rfl (by kernel_rfl) ?_; intro a0 bQ; have bR := Mem.start w Z hZ
 have ay := hp (hs3.small) (hs6.small) (hs9.small)
 refine sqH ?_; intro eI bU
 refine nw bQ bR pb [.slice ao1 u0.Routes.length cap2, .slice ao4 u0.Last.length cap5] 37 ?_; intro h gh gi bV bW
 refine nw bV bW pb [i6 u1] 3 ?_; intro B gj gk bX bY
 refine nw bX bY pb (e25J u3 ao7 cap8) 25 ?_; intro n gl gm bZ b0
 refine nw bZ b0 pb [.slice none 0 0, .slice none 0 0] 37 ?_; intro i gn go b1 ak
 refine bt b1 ak 2 [] [] [(9, .slice none 0 0)] ?_; intro gp b2
 apply bU
 refine s_ (sqH ?_); intro eJ b3
 refine l2 b2 ak 17 3 0 2 [.slice ao1 u0.Routes.length cap2, .slice ao4 u0.Last.length cap5] rfl rfl ?_; intro gq b4
 refine fc b4 ak (gcheck_fun u0 ao1 cap2 ao4 cap5 _ _ hs3 hs6 ak.fz) ?_; intro gr gs b5 Q
 refine s1 b5 11 (i6 (gcheckS u0)) ?_; intro gt b6
 apply b3
 refine sqB b6 Q [] [] [(20, .bool ((gcheckS u0) != 0))] ?_; intro gu al
 refine c_ al ay (fun _ eK => ?_) fun _ az => ?_
 ·
  refine sqH ?_; intro eM b7
  refine bt al Q 2 [] [] [(21, .agg #[.slice none 0 0, .slice none 0 0]), (22, i6 (gcheckS u0))] ?_; intro gv a3
  refine sx a3 Q 0 [.slice none 0 0, .slice none 0 0] 0 ?_; intro b8 a4
  refine bt a3 a4 2 [] [] [(9, .slice none 0 0), (10, i6 (gcheckS u0))] ?_; intro gw b9
  have ca : Mem w.heap.size [] w Z [.row i [.slice none 0 0, .slice none 0 0] 37, .row n (e25J u3 ao7 cap8) 25, .row B [i6 u1] 3, .row h [.slice ao1 u0.Routes.length cap2, .slice ao4 u0.Last.length cap5] 37] Z b8 := a4
  apply b7
  refine r_ (h_ ?_)
  have cb : Mem w.heap.size [] w Z [.own tyLine 42 none 0 ([] : List Line), .row i [.slice none 0 0, .slice none 0 0] 37, .row n (e25J u3 ao7 cap8) 25, .row B [i6 u1] 3, .row h [.slice ao1 u0.Routes.length cap2, .slice ao4 u0.Last.length cap5] 37] Z b8 := ca.addNil tyLine 42 (by decide)
  refine rt (fn := Try.f10) (v := .tuple #[.agg #[.slice none 0 0, .slice none 0 0], .slice none ([] : List Line).length 0, i6 (gcheckS u0)]) b9 (re3c b9 (fn := Try.f10) rfl (ad := ⟨i, 0, none⟩) (by kernel_rfl) (loadVar_run cb 1 (b := i) (k := 2) (vs := [.slice none 0 0, .slice none 0 0]) (ty := 37) rfl (by kernel_rfl) (by kernel_rfl)) (by kernel_rfl) (by kernel_rfl)) ?_
  exact ⟨((⟨[], []⟩ : Gate), ([] : List Line), (gcheckS u0)), none, 0, none, 0, none, 0, Z, rfl, eK, (SlR.nil _ _), (SlR.nil _ _), cb.kp⟩
 refine k_ (s_ (sqH ?_)); intro eN cc
 refine l2 al Q 23 1 0 6 (e25J u3 ao7 cap8) rfl rfl ?_; intro gx ce
 refine fc ce Q (fcheckfr_fun u3 ao7 cap8 _ _ hs9 Q.fz) ?_; intro gy eO cf P
 refine s1 cf 12 (i6 (fcheckfr u3)) ?_; intro gz cg
 apply cc
 refine sqB cg P [] [] [(26, .bool ((fcheckfr u3) != 0))] ?_; intro gA am
 refine c_ am az (fun _ eP => ?_) fun _ aA => ?_
 ·
  refine sqH ?_; intro eQ ch
  refine bt am P 2 [] [] [(27, .agg #[.slice none 0 0, .slice none 0 0]), (28, i6 (fcheckfr u3))] ?_; intro gB a6
  refine sx a6 P 0 [.slice none 0 0, .slice none 0 0] 0 ?_; intro ci a7
  refine bt a6 a7 2 [] [] [(9, .slice none 0 0), (10, i6 (fcheckfr u3))] ?_; intro gC cl
  have cm : Mem w.heap.size [] w Z [.row i [.slice none 0 0, .slice none 0 0] 37, .row n (e25J u3 ao7 cap8) 25, .row B [i6 u1] 3, .row h [.slice ao1 u0.Routes.length cap2, .slice ao4 u0.Last.length cap5] 37] Z ci := a7
  apply ch
  refine r_ (h_ ?_)
  have cn : Mem w.heap.size [] w Z [.own tyLine 42 none 0 ([] : List Line), .row i [.slice none 0 0, .slice none 0 0] 37, .row n (e25J u3 ao7 cap8) 25, .row B [i6 u1] 3, .row h [.slice ao1 u0.Routes.length cap2, .slice ao4 u0.Last.length cap5] 37] Z ci := cm.addNil tyLine 42 (by decide)
  refine rt (fn := Try.f10) (v := .tuple #[.agg #[.slice none 0 0, .slice none 0 0], .slice none ([] : List Line).length 0, i6 (fcheckfr u3)]) cl (re3c cl (fn := Try.f10) rfl (ad := ⟨i, 0, none⟩) (by kernel_rfl) (loadVar_run cn 1 (b := i) (k := 2) (vs := [.slice none 0 0, .slice none 0 0]) (ty := 37) rfl (by kernel_rfl) (by kernel_rfl)) (by kernel_rfl) (by kernel_rfl)) ?_
  exact ⟨((⟨[], []⟩ : Gate), ([] : List Line), (fcheckfr u3)), none, 0, none, 0, none, 0, Z, rfl, eP, (SlR.nil _ _), (SlR.nil _ _), cn.kp⟩
 refine k_ (s_ (sqB am P [2, 2] [] [(42, .bool ((((decide (u1 < 0)) || (decide (u1 > 1000000))) || (decide (u2 < 0))) || (decide (u2 ≥ 4))))] ?_)); intro gD an
 refine c_ an aA (fun _ eR => ?_) fun _ aB => ?_
 ·
  refine sqH ?_; intro eT co
  refine s1 an 43 (.agg #[.slice none 0 0, .slice none 0 0]) ?_; intro gE a9
  refine sx a9 P 0 [.slice none 0 0, .slice none 0 0] 0 ?_; intro cp ba
  refine bt a9 ba 2 [] [] [(9, .slice none 0 0), (10, i6 3)] ?_; intro gF cq
  have cr : Mem w.heap.size [] w Z [.row i [.slice none 0 0, .slice none 0 0] 37, .row n (e25J u3 ao7 cap8) 25, .row B [i6 u1] 3, .row h [.slice ao1 u0.Routes.length cap2, .slice ao4 u0.Last.length cap5] 37] Z cp := ba
  apply co
  refine r_ (h_ ?_)
  have ct : Mem w.heap.size [] w Z [.own tyLine 42 none 0 ([] : List Line), .row i [.slice none 0 0, .slice none 0 0] 37, .row n (e25J u3 ao7 cap8) 25, .row B [i6 u1] 3, .row h [.slice ao1 u0.Routes.length cap2, .slice ao4 u0.Last.length cap5] 37] Z cp := cr.addNil tyLine 42 (by decide)
  refine rt (fn := Try.f10) (v := .tuple #[.agg #[.slice none 0 0, .slice none 0 0], .slice none ([] : List Line).length 0, i6 3]) cq (re3c cq (fn := Try.f10) rfl (ad := ⟨i, 0, none⟩) (by kernel_rfl) (loadVar_run ct 1 (b := i) (k := 2) (vs := [.slice none 0 0, .slice none 0 0]) (ty := 37) rfl (by kernel_rfl) (by kernel_rfl)) (by kernel_rfl) (by kernel_rfl)) ?_
  exact ⟨((⟨[], []⟩ : Gate), ([] : List Line), 3), none, 0, none, 0, none, 0, Z, rfl, eR, (SlR.nil _ _), (SlR.nil _ _), ct.kp⟩
 refine k_ (s_ (sqH ?_)); intro eU cu
 refine bt an P 3 [3] [] [(45, .slice ao4 u0.Last.length cap5), (46, .func (.func 33) #[] #[pt B 0])] ?_; intro gG cv
 obtain ⟨aq, aC, cw, ab⟩ := P.freezeRow 2 rfl
 replace hs3 := hs3.mono aC
 replace hs6 := hs6.mono aC
 replace hs9 := hs9.mono aC
 have bb : Mem w.heap.size [] w Z [.row i [.slice none 0 0, .slice none 0 0] 37, .row n (e25J u3 ao7 cap8) 25, .row h [.slice ao1 u0.Routes.length cap2, .slice ao4 u0.Last.length cap5] 37] aq eO := cw
 refine fc cv bb (icontf_fun u0.Last (fun x0 => step1 x0 u1) ao4 cap5 33 #[pt B 0] _ _ hs6 (fun Z1 w1 h1 h2 x0 => step1_fun x0 u1 B 0 Z1 w1 (ab.mono h1) h2) (fun _ _ => by kernel_rfl) bb.fz) ?_; intro eV gH ar aD
 apply cu
 refine c_ ar aB (fun _ eW => ?_) fun _ eY => ?_
 ·
  refine sqH ?_; intro eX cx
  refine s1 ar 48 (.agg #[.slice none 0 0, .slice none 0 0]) ?_; intro gI bd
  refine sx bd aD 0 [.slice none 0 0, .slice none 0 0] 0 ?_; intro cy be
  refine bt bd be 2 [] [] [(9, .slice none 0 0), (10, i6 12)] ?_; intro gJ cz
  have cA : Mem w.heap.size [] w Z [.row i [.slice none 0 0, .slice none 0 0] 37, .row n (e25J u3 ao7 cap8) 25, .row h [.slice ao1 u0.Routes.length cap2, .slice ao4 u0.Last.length cap5] 37] aq cy := be
  apply cx
  refine r_ (h_ ?_)
  have cB : Mem w.heap.size [] w Z [.own tyLine 42 none 0 ([] : List Line), .row i [.slice none 0 0, .slice none 0 0] 37, .row n (e25J u3 ao7 cap8) 25, .row h [.slice ao1 u0.Routes.length cap2, .slice ao4 u0.Last.length cap5] 37] aq cy := cA.addNil tyLine 42 (by decide)
  refine rt (fn := Try.f10) (v := .tuple #[.agg #[.slice none 0 0, .slice none 0 0], .slice none ([] : List Line).length 0, i6 12]) cz (re3c cz (fn := Try.f10) rfl (ad := ⟨i, 0, none⟩) (by kernel_rfl) (loadVar_run cB 1 (b := i) (k := 2) (vs := [.slice none 0 0, .slice none 0 0]) (ty := 37) rfl (by kernel_rfl) (by kernel_rfl)) (by kernel_rfl) (by kernel_rfl)) ?_
  exact ⟨((⟨[], []⟩ : Gate), ([] : List Line), 12), none, 0, none, 0, none, 0, aq, rfl, eW, (SlR.nil _ _), (SlR.nil _ _), cB.kp⟩
 apply k_
 have cC : Fr 109 [] [⟨2, [], i6 u2⟩, ⟨4, [], pt h 0⟩, ⟨5, [], pt B 0⟩, ⟨7, [], pt n 0⟩, ⟨8, [], pt i 0⟩, ⟨9, [], .slice none 0 0⟩] eV := ar.reg
 refine wp_seq (rgS mixed aD [(0, true), (1, true), (3, true), (4, true), (2, false), (5, false), (6, true), (7, false)] [7] [2] [.row h [.slice ao1 u0.Routes.length cap2, .slice ao4 u0.Last.length cap5] 37] ?_)
 intro eZ cD gK bf
 have ac := Fz.le.refl aq
 refine cS cC 4 [0, 0] [] [(50, .slice ao1 u0.Routes.length cap2), (53, .slice ao4 u0.Last.length cap5)] ?_; intro gL cE
 refine eS rfl ?_; intro e0 cF
 obtain ⟨e1, e2⟩ := eY
 refine ck cE 11 #[.slice ao1 u0.Routes.length cap2] ?_
 refine (rclone_fun u0.Routes e1 ao1 cap2 _ _ hs3 bf.fz).mono ?_; rintro _ e3 ⟨o, p, e4, rfl, hm⟩; refine ⟨_, rfl, ?_⟩; intro gM cG; have cH := bf.callZ hm; have ae := hm.ext.le
 replace hs3 := hs3.mono ae
 replace hs6 := hs6.mono ae
 replace hs9 := hs9.mono ae
 replace ab := ab.mono ae
 replace ac := ac.mono ae
 have aE : Mem w.heap.size [] w Z [.own tyRoute 29 o p (rclS u0.Routes), .row i [.slice none 0 0, .slice none 0 0] 37, .row n (e25J u3 ao7 cap8) 25, .row h [.slice ao1 u0.Routes.length cap2, .slice ao4 u0.Last.length cap5] 37] e4 e3 := cH
 refine nl (qnI (cF _ _ (aE.cst ac [3]) ?_))
 refine eS rfl ?_; intro e5 cI
 obtain ⟨e6, e7⟩ := e2
 refine ck cG 21 #[.slice ao4 u0.Last.length cap5] ?_
 refine (iclone_fun u0.Last e6 ao4 cap5 _ _ hs6 aE.fz).mono ?_; rintro _ e8 ⟨y, l, au, rfl, hm⟩; refine ⟨_, rfl, ?_⟩; intro gN cJ; have cK := aE.callZ hm; have af := hm.ext.le
 replace hs3 := hs3.mono af
 replace hs6 := hs6.mono af
 replace hs9 := hs9.mono af
 replace ab := ab.mono af
 replace ac := ac.mono af
 have bg : Mem w.heap.size [] w Z [.own t6 3 y l (iclS u0.Last), .own tyRoute 29 o p (rclS u0.Routes), .row i [.slice none 0 0, .slice none 0 0] 37, .row n (e25J u3 ao7 cap8) 25, .row h [.slice ao1 u0.Routes.length cap2, .slice ao4 u0.Last.length cap5] 37] au e8 := cK
 refine nl (qnI (cI _ _ (bg.cst ac [4]) ?_))
 refine cS cJ 1 [] [] [(55, .agg #[.slice o (rclS u0.Routes).length p, .slice y (iclS u0.Last).length l])] ?_; intro gO bh
 refine eL rfl ?_; intro e9 cL
 refine sx bh bg 2 [.slice o (rclS u0.Routes).length p, .slice y (iclS u0.Last).length l] 0 ?_; intro cM cN
 have bi : Mem w.heap.size [] w Z [.own t6 3 y l (iclS u0.Last), .own tyRoute 29 o p (rclS u0.Routes), .row i [.slice o (rclS u0.Routes).length p, .slice y (iclS u0.Last).length l] 37, .row n (e25J u3 ao7 cap8) 25, .row h [.slice ao1 u0.Routes.length cap2, .slice ao4 u0.Last.length cap5] 37] au cM := cN
 refine nl (qnI (cL _ _ ?_))
 refine nS (cD _ _ ?_)
 refine t_ (s_ (sqB bh bi [4] [] [(57, .slice ao1 u0.Routes.length cap2), (58, i6 (u0.Routes.length : Int)), (59, i6 0)] ?_)); intro cO cP
 apply b_
 have cQ : Fr 109 [] [⟨2, [], i6 u2⟩, ⟨4, [], pt h 0⟩, ⟨5, [], pt B 0⟩, ⟨7, [], pt n 0⟩, ⟨8, [], pt i 0⟩, ⟨9, [], .slice none 0 0⟩, ⟨57, [], .slice ao1 u0.Routes.length cap2⟩, ⟨58, [], i6 (u0.Routes.length : Int)⟩, ⟨59, [], i6 0⟩] cO := cP.reg
 have cR : Mem w.heap.size [] w Z [.own tyLine 42 none 0 ([] : List Line), .own t6 3 y l (iclS u0.Last), .own tyRoute 29 o p (rclS u0.Routes), .row i [.slice o (rclS u0.Routes).length p, .slice y (iclS u0.Last).length l] 37, .row n (e25J u3 ao7 cap8) 25, .row h [.slice ao1 u0.Routes.length cap2, .slice ao4 u0.Last.length cap5] 37] au cM := bi.addNil tyLine 42 (by decide)
 have cT : Fr 109 [] [⟨2, [], i6 u2⟩, ⟨4, [], pt h 0⟩, ⟨5, [], pt B 0⟩, ⟨7, [], pt n 0⟩, ⟨8, [], pt i 0⟩, ⟨9, [], .slice none ([] : List Line).length 0⟩, ⟨57, [], .slice ao1 u0.Routes.length cap2⟩, ⟨58, [], i6 (u0.Routes.length : Int)⟩, ⟨59, [], i6 0⟩] cO := cQ.reg
 obtain ⟨fa, fb, fd, fe⟩ := e7
 refine lp (ι := (List Line) × Int × (List Int) × (Option Addr) × Nat × Fz) (fun s => [⟨2, [], i6 u2⟩, ⟨4, [], pt h 0⟩, ⟨5, [], pt B 0⟩, ⟨7, [], pt n 0⟩, ⟨8, [], pt i 0⟩, ⟨9, [], .slice s.2.2.2.1 s.1.length s.2.2.2.2.1⟩, ⟨57, [], .slice ao1 u0.Routes.length cap2⟩, ⟨58, [], i6 (u0.Routes.length : Int)⟩, ⟨59, [], i6 s.2.1⟩]) (fun s => [.own tyLine 42 s.2.2.2.1 s.2.2.2.2.1 s.1, .own t6 3 y l s.2.2.1, .own tyRoute 29 o p (rclS u0.Routes), .row i [.slice o (rclS u0.Routes).length p, .slice y s.2.2.1.length l] 37, .row n (e25J u3 ao7 cap8) 25, .row h [.slice ao1 u0.Routes.length cap2, .slice ao4 u0.Last.length cap5] 37]) (fun s => s.2.2.2.2.2) (fun s => fa s.1 s.2.1 s.2.2.1 ∧ Fz.le au s.2.2.2.2.2) (fun s => fb s.1 s.2.1 s.2.2.1) ⟨([] : List Line), 0, (iclS u0.Last), none, 0, au⟩ ⟨fd, Fz.le.refl _⟩ (by exact cT.reg) (by exact cR) ?_
 rintro ⟨q, f, j, z, A, bk⟩ ⟨ff, D⟩ fg fh cU cV
 have aF := fe q f j ff
 have V := hs3.mono D
 have R := hs6.mono D
 have W := hs9.mono D
 have L := ab.mono D
 refine sqB cU cV [] [] [(60, .bool (decide (f < (u0.Routes.length : Int))))] ?_; intro gQ av
 refine s_ (c_ av aF (fun _ fi => ?_) fun _ gb => ?_)
 ·
  refine k_ (s_ (b_ (sqH ?_))); intro fj cX
  refine s1 av 61 (i6 f) ?_; intro gR cY
  obtain ⟨fk, cZ⟩ := fi
  refine ix_ cY V f fk .i64 29 56 ?_; intro gS gT fl a gU fm bm fo c0
  have fp := cZ a fm
  obtain rfl : fl = ((e29J a) : List Value) := fo
  refine z2 c0 cV 63 bm 0 7 (e29J a) rfl ?_; intro gV c1
  refine nw c1 cV pb [i6 0, i6 0, i6 0, i6 0, .bool false, i6 0, i6 0] 29 ?_; intro H gW gX c2 c3
  refine s1 c2 13 (i6 f) ?_; intro gY bn
  refine sx bn c3 0 (e29J a) 0 ?_; intro fq c4
  have aG : Mem w.heap.size [] w Z [.row H (e29J a) 29, .own tyLine 42 z A q, .own t6 3 y l j, .own tyRoute 29 o p (rclS u0.Routes), .row i [.slice o (rclS u0.Routes).length p, .slice y j.length l] 37, .row n (e25J u3 ao7 cap8) 25, .row h [.slice ao1 u0.Routes.length cap2, .slice ao4 u0.Last.length cap5] 37] bk fq := c4
  apply cX
  refine sqH ?_; intro fr c5
  refine bt bn aG 3 [0, 5] [] [(65, .agg (e29J a).toArray), (66, i6 u2), (67, .agg (e25J u3 ao7 cap8).toArray)] ?_; intro gZ c6
  obtain ⟨fs, c7⟩ := fp
  refine ck c6 30 #[.agg (e29J a).toArray, i6 u2, .agg (e25J u3 ao7 cap8).toArray] ?_
  refine (carry_fun a u2 u3 fs ao7 cap8 _ _ W aG.fz).mono ?_; rintro _ ft ⟨E, G, N, rfl, bo, hm⟩; refine ⟨_, rfl, ?_⟩; intro g0 c8; have c9 := aG.callZ hm; have X := hm.ext.le
  replace R := R.mono X
  replace L := L.mono X
  replace D := D.mono X
  have bp : Mem w.heap.size [] w Z [.row H (e29J a) 29, .own tyLine 42 z A q, .own t6 3 y l j, .own tyRoute 29 o p (rclS u0.Routes), .row i [.slice o (rclS u0.Routes).length p, .slice y j.length l] 37, .row n (e25J u3 ao7 cap8) 25, .row h [.slice ao1 u0.Routes.length cap2, .slice ao4 u0.Last.length cap5] 37] N ft := c9
  have aH := c7 (bo.small)
  refine bt c8 bp 3 [] [] [(69, .agg (e25J ((carryS a u2 u3).1) E G).toArray), (70, .bool (carryS a u2 u3).2)] ?_; intro g1 da
  refine nw da bp pb [i6 0, .bool false, .bool false, .bool false, i6 0, .slice none 0 0] 25 ?_; intro O g2 g3 bq db
  refine sx bq db 0 (e25J ((carryS a u2 u3).1) E G) 0 ?_; intro fu dc
  refine s1 bq 16 (.bool (carryS a u2 u3).2) ?_; intro fv dd
  have aI : Mem w.heap.size [] w Z [.row O (e25J ((carryS a u2 u3).1) E G) 25, .row H (e29J a) 29, .own tyLine 42 z A q, .own t6 3 y l j, .own tyRoute 29 o p (rclS u0.Routes), .row i [.slice o (rclS u0.Routes).length p, .slice y j.length l] 37, .row n (e25J u3 ao7 cap8) 25, .row h [.slice ao1 u0.Routes.length cap2, .slice ao4 u0.Last.length cap5] 37] N fu := dc
  apply c5
  apply s_
  have de : Fr 109 [] [⟨2, [], i6 u2⟩, ⟨4, [], pt h 0⟩, ⟨5, [], pt B 0⟩, ⟨7, [], pt n 0⟩, ⟨8, [], pt i 0⟩, ⟨9, [], .slice z q.length A⟩, ⟨13, [], i6 f⟩, ⟨14, [], pt H 0⟩, ⟨15, [], pt O 0⟩, ⟨16, [], .bool (carryS a u2 u3).2⟩, ⟨57, [], .slice ao1 u0.Routes.length cap2⟩, ⟨58, [], i6 (u0.Routes.length : Int)⟩, ⟨59, [], i6 f⟩] fv := dd.reg
  refine sqQH mixed (by kernel_rfl) aI ?_; intro br ag
  refine q1 de 71 (.bool (carryS a u2 u3).2) ?_; intro g4 df
  refine q1 df 72 (.bool (!(carryS a u2 u3).2)) ?_; intro g5 dg
  refine q1 dg 73 (.bool (!(carryS a u2 u3).2)) ?_; intro g6 dh
  have bs := dh.atom ((!(carryS a u2 u3).2) == false) (by kernel_rfl)
  refine qgd bs (pt h 1) (m := 0) (cj := []) (bj := !(carryS a u2 u3).2) rfl rfl (by kernel_rfl) rfl (by kernel_rfl) (by kernel_rfl) (by kernel_rfl) (fun hg => qat_ok (fun v325 hC => pu bs (g := [0]) (by kernel_rfl) hg)) ?_; intro g7 bu
  refine qgd bu (.slice ao4 u0.Last.length cap5) (m := 0) (cj := []) (bj := !(carryS a u2 u3).2) rfl rfl (by kernel_rfl) rfl (by kernel_rfl) (by kernel_rfl) (by kernel_rfl) (fun hg => qat_ok (fun v328 hC => ld bu hC 7 (g := [0]) (b := h) (off := 1) (cs := [.slice ao1 u0.Routes.length cap2, .slice ao4 u0.Last.length cap5]) (ty := 37) rfl (by kernel_rfl) (by kernel_rfl) (by kernel_rfl) (by kernel_rfl) hg)) ?_; intro g8 bv
  refine qgd bv (i6 f) (m := 0) (cj := []) (bj := !(carryS a u2 u3).2) rfl rfl (by kernel_rfl) rfl (by kernel_rfl) (by kernel_rfl) (by kernel_rfl) (fun hg => qat_ok (fun v331 hC => pu bv (g := [0]) (by kernel_rfl) hg)) ?_; intro g9 aJ
  refine e_ aH (fun M di => ?_) fun M fy => ?_
  ·
   have dj := aJ.reval (d := 73) (c := []) (v := .bool (!(carryS a u2 u3).2)) (by kernel_rfl) (.bool true) (by rw [M])
   have dk := dj.setc (d := 74) (c := [0]) (v := pt h 1) (by kernel_rfl) (v' := undef) (by rw [M]; kernel_rfl)
   have dl := dk.setc (d := 75) (c := [0]) (v := .slice ao4 u0.Last.length cap5) (by kernel_rfl) (v' := undef) (by rw [M]; kernel_rfl)
   have dm := dl.setc (d := 76) (c := [0]) (v := i6 f) (by kernel_rfl) (v' := undef) (by rw [M]; kernel_rfl)
   refine qk_ dm true ?_; intro ha dn
   refine qk_ dn true ?_; intro hb dp
   refine qk_ dp true ?_; intro hc dq
   refine qk_ dq true ?_; intro hd dr
   refine qsku dr rfl rfl (by kernel_rfl) (by kernel_rfl) rfl (by kernel_rfl) ?_; intro he ds
   refine qsku ds rfl rfl (by kernel_rfl) (by kernel_rfl) rfl (by kernel_rfl) ?_; intro hf dt
   refine qsku dt rfl rfl (by kernel_rfl) (by kernel_rfl) rfl (by kernel_rfl) ?_; intro hh du
   refine qsku du rfl rfl (by kernel_rfl) (by kernel_rfl) rfl (by kernel_rfl) ?_; intro hi dv
   refine qsku dv rfl rfl (by kernel_rfl) (by kernel_rfl) rfl (by kernel_rfl) ?_; intro hj dw
   refine qsku dw rfl rfl (by kernel_rfl) (by kernel_rfl) rfl (by kernel_rfl) ?_; intro hk dx
   refine qsku dx rfl rfl (by kernel_rfl) (by kernel_rfl) rfl (by kernel_rfl) ?_; intro hl dy
   refine qsku dy rfl rfl (by kernel_rfl) (by kernel_rfl) rfl (by kernel_rfl) ?_; intro hn dz
   refine qsku dz rfl rfl (by kernel_rfl) (by kernel_rfl) rfl (by kernel_rfl) ?_; intro ho dA
   refine qsku dA rfl rfl (by kernel_rfl) (by kernel_rfl) rfl (by kernel_rfl) ?_; intro hq dB
   refine qk_ dB true ?_; intro hr dC
   refine q1 dC 92 (.bool true) ?_; intro fw bw
   refine qnl (ag _ ?_); intro hs dD
   refine cdT bw (by kernel_rfl) ?_
   refine x_ (y_ (z_ (t_ ?_)))
   have dE : Fr 109 [] [⟨2, [], i6 u2⟩, ⟨4, [], pt h 0⟩, ⟨5, [], pt B 0⟩, ⟨7, [], pt n 0⟩, ⟨8, [], pt i 0⟩, ⟨9, [], .slice z q.length A⟩, ⟨57, [], .slice ao1 u0.Routes.length cap2⟩, ⟨58, [], i6 (u0.Routes.length : Int)⟩, ⟨59, [], i6 f⟩] fw := bw.reg
   refine rgB dE dD [] [] [(59, i6 (w64 (f + 1)))] ?_; intro ht fx
   exact d_ ⟨⟨q, w64 (f + 1), j, z, A, N⟩, ⟨di.1, D⟩, di.2, (fx.reg).anyβ _ (by kernel_rfl), dD.kp⟩
  have dF := aJ.reval (d := 73) (c := []) (v := .bool (!(carryS a u2 u3).2)) (by kernel_rfl) (.bool false) (by rw [M])
  have dG := dF.setc (d := 74) (c := [0]) (v := pt h 1) (by kernel_rfl) (v' := pt h 1) (by rw [M]; kernel_rfl)
  have dH := dG.setc (d := 75) (c := [0]) (v := .slice ao4 u0.Last.length cap5) (by kernel_rfl) (v' := .slice ao4 u0.Last.length cap5) (by rw [M]; kernel_rfl)
  have bx := dH.setc (d := 76) (c := [0]) (v := i6 f) (by kernel_rfl) (v' := i6 f) (by rw [M]; kernel_rfl)
  obtain ⟨fA, dI⟩ := fy
  refine qix bx (T := t6) (xs := u0.Last) R f fA (k := .i64) (e := 3) (bytes := 8) (wK bx false) rfl (by kernel_rfl) rfl (by kernel_rfl) (by kernel_rfl) (by kernel_rfl) ?_; intro hu hv fB I hw fC fD fE aK
  have aL := dI I fC
  obtain rfl : fB = ([i6 I] : List Value) := fE
  refine qst aK (i6 I) (wK aK false) rfl (by kernel_rfl) (fun v399 hC => lz aK hC.fz fD 0 (g := []) rfl (by kernel_rfl) (by kernel_rfl) (by kernel_rfl) rfl) ?_; intro hx aM
  refine qg_ aM false (.bool (decide (I ≥ 0))) ?_; intro hy aN
  refine qg_ aN false (.bool (decide (I ≥ 0))) ?_; intro hz dJ
  have bz := dJ.atom ((decide (I ≥ 0)) == true) (by kernel_rfl)
  refine qgd bz (i6 u1) (m := 1) (cj := []) (bj := decide (I ≥ 0)) rfl rfl (by kernel_rfl) rfl (by kernel_rfl) (by kernel_rfl) (by kernel_rfl) (fun hg => qat_ok (fun v409 hC => lz bz hC.fz L 0 (g := [1]) rfl (by kernel_rfl) (by kernel_rfl) (by kernel_rfl) hg)) ?_; intro hA bA
  refine qgd bA (pt h 1) (m := 1) (cj := []) (bj := decide (I ≥ 0)) rfl rfl (by kernel_rfl) rfl (by kernel_rfl) (by kernel_rfl) (by kernel_rfl) (fun hg => qat_ok (fun v412 hC => pu bA (g := [1]) (by kernel_rfl) hg)) ?_; intro hB bB
  refine qgd bB (.slice ao4 u0.Last.length cap5) (m := 1) (cj := []) (bj := decide (I ≥ 0)) rfl rfl (by kernel_rfl) rfl (by kernel_rfl) (by kernel_rfl) (by kernel_rfl) (fun hg => qat_ok (fun v415 hC => ld bB hC 7 (g := [1]) (b := h) (off := 1) (cs := [.slice ao1 u0.Routes.length cap2, .slice ao4 u0.Last.length cap5]) (ty := 37) rfl (by kernel_rfl) (by kernel_rfl) (by kernel_rfl) (by kernel_rfl) hg)) ?_; intro hD bC
  refine qgd bC (i6 f) (m := 1) (cj := []) (bj := decide (I ≥ 0)) rfl rfl (by kernel_rfl) rfl (by kernel_rfl) (by kernel_rfl) (by kernel_rfl) (fun hg => qat_ok (fun v418 hC => pu bC (g := [1]) (by kernel_rfl) hg)) ?_; intro hE aO
  refine e_ aL (fun J fF => ?_) fun J fY => ?_
  ·
   have dK := aO.reval (d := 80) (c := []) (v := .bool (decide (I ≥ 0))) (by kernel_rfl) (.bool true) (by rw [J])
   have dL := dK.setc (d := 81) (c := [1]) (v := i6 u1) (by kernel_rfl) (v' := i6 u1) (by rw [J]; kernel_rfl)
   have dM := dL.setc (d := 82) (c := [1]) (v := pt h 1) (by kernel_rfl) (v' := pt h 1) (by rw [J]; kernel_rfl)
   have dN := dM.setc (d := 83) (c := [1]) (v := .slice ao4 u0.Last.length cap5) (by kernel_rfl) (v' := .slice ao4 u0.Last.length cap5) (by rw [J]; kernel_rfl)
   have bD := dN.setc (d := 84) (c := [1]) (v := i6 f) (by kernel_rfl) (v' := i6 f) (by rw [J]; kernel_rfl)
   obtain ⟨fG, dO⟩ := fF
   refine qix bD (T := t6) (xs := u0.Last) R f fG (k := .i64) (e := 3) (bytes := 8) (wK bD true) rfl (by kernel_rfl) rfl (by kernel_rfl) (by kernel_rfl) (by kernel_rfl) ?_; intro hF hG fH S hH fI fJ fK aP
   have aQ := dO S fI
   obtain rfl : fH = ([i6 S] : List Value) := fK
   refine qst aP (i6 S) (wK aP true) rfl (by kernel_rfl) (fun v441 hC => lz aP hC.fz fJ 0 (g := []) rfl (by kernel_rfl) (by kernel_rfl) (by kernel_rfl) rfl) ?_; intro hI aR
   refine qg_ aR true (i6 (w64 (u1 - S))) ?_; intro hJ aS
   refine qg_ aS true (pt H 6) ?_; intro hK aT
   refine qst aT (i6 a.Every) (wK aT true) rfl (by kernel_rfl) (fun v450 hC => ld aT hC 1 (g := []) (b := H) (off := 6) (cs := (e29J a)) (ty := 29) rfl (by kernel_rfl) (by kernel_rfl) (by kernel_rfl) (by kernel_rfl) rfl) ?_; intro hL aU
   refine qg_ aU true (.bool (decide ((w64 (u1 - S)) < a.Every))) ?_; intro hM aV
   refine qg_ aV false (.bool (decide ((w64 (u1 - S)) < a.Every))) ?_; intro hN dP
   refine q1 dP 92 (.bool (decide ((w64 (u1 - S)) < a.Every))) ?_; intro dQ aw
   refine qnl (ag _ ?_); intro hO Y
   refine c_ aw aQ (fun _ dR => ?_) fun _ fM => ?_
   ·
    refine x_ (y_ (z_ (t_ ?_)))
    have dS : Fr 109 [] [⟨2, [], i6 u2⟩, ⟨4, [], pt h 0⟩, ⟨5, [], pt B 0⟩, ⟨7, [], pt n 0⟩, ⟨8, [], pt i 0⟩, ⟨9, [], .slice z q.length A⟩, ⟨57, [], .slice ao1 u0.Routes.length cap2⟩, ⟨58, [], i6 (u0.Routes.length : Int)⟩, ⟨59, [], i6 f⟩] dQ := aw.reg
    refine rgB dS Y [] [] [(59, i6 (w64 (f + 1)))] ?_; intro hP fL
    exact d_ ⟨⟨q, w64 (f + 1), j, z, A, N⟩, ⟨dR.1, D⟩, dR.2, (fL.reg).anyβ _ (by kernel_rfl), Y.kp⟩
   apply k_
   have dT : Fr 109 [] [⟨2, [], i6 u2⟩, ⟨4, [], pt h 0⟩, ⟨5, [], pt B 0⟩, ⟨7, [], pt n 0⟩, ⟨8, [], pt i 0⟩, ⟨9, [], .slice z q.length A⟩, ⟨13, [], i6 f⟩, ⟨14, [], pt H 0⟩, ⟨15, [], pt O 0⟩, ⟨57, [], .slice ao1 u0.Routes.length cap2⟩, ⟨58, [], i6 (u0.Routes.length : Int)⟩, ⟨59, [], i6 f⟩] dQ := aw.reg
   refine sqH ?_; intro fN dU
   refine bt dT Y 3 [5] [] [(94, .slice y j.length l), (95, i6 f)] ?_; intro hQ dV
   refine z1 dV Y 96 L 0 (i6 u1) rfl ?_; intro hR dW
   obtain ⟨fO, fP⟩ := fM
   refine ixo dW Y 3 (T := t6) (xs := j) f fO (k := .i64) (e := 3) (bytes := 8) (nog rfl _) rfl (by kernel_rfl) rfl (by kernel_rfl) (by kernel_rfl) rfl (by kernel_rfl) ?_; intro ah fQ fR aW
   subst fR
   refine so aW Y 3 (T := t6) (xs := j) f.toNat u1 (u := i6 u1) (nog rfl _) rfl rfl (by kernel_rfl) rfl (by kernel_rfl) rfl (by kernel_rfl) (by first | omega | (simp only [List.length_set] at *; omega)) rfl ?_; intro fS dX
   have dY : Fr 109 [] [⟨2, [], i6 u2⟩, ⟨4, [], pt h 0⟩, ⟨5, [], pt B 0⟩, ⟨7, [], pt n 0⟩, ⟨8, [], pt i 0⟩, ⟨9, [], .slice z q.length A⟩, ⟨13, [], i6 f⟩, ⟨14, [], pt H 0⟩, ⟨15, [], pt O 0⟩, ⟨57, [], .slice ao1 u0.Routes.length cap2⟩, ⟨58, [], i6 (u0.Routes.length : Int)⟩, ⟨59, [], i6 f⟩, ⟨94, [], .slice (sm ah) (j.set f.toNat u1).length l⟩, ⟨95, [], i6 f⟩, ⟨96, [], i6 u1⟩, ⟨97, [], .pointer (some ⟨ah, f.toNat * 1, none⟩)⟩] fQ := by (try simp only [List.length_set] at aW); (try simp only [List.length_set]); exact aW.reg
   have fT : (j.set f.toNat u1).length = j.length := by first | assumption | (simp; try omega)
   have aX : Mem w.heap.size [] w Z [.row O (e25J ((carryS a u2 u3).1) E G) 25, .row H (e29J a) 29, .own tyLine 42 z A q, .own t6 3 (sm ah) l (j.set f.toNat u1), .own tyRoute 29 o p (rclS u0.Routes), .row i [.slice o (rclS u0.Routes).length p, .slice (sm ah) (j.set f.toNat u1).length l] 37, .row n (e25J u3 ao7 cap8) 25, .row h [.slice ao1 u0.Routes.length cap2, .slice ao4 u0.Last.length cap5] 37] N fS := by rw [fT]; exact dX
   apply dU
   refine rgH ?_; intro fU dZ
   refine s1 dY 98 (.slice z q.length A) ?_; intro hS d0
   refine z1 d0 aX 99 L 0 (i6 u1) rfl ?_; intro hT d1
   refine bt d1 aX 4 [1, 0] [] [(103, .agg #[i6 u1, i6 a.To, i6 (carryS a u2 u3).1.ID, .bool (carryS a u2 u3).1.Long, .bool (carryS a u2 u3).1.Fast, .bool (carryS a u2 u3).1.Remote, i6 (carryS a u2 u3).1.Size, .slice E (carryS a u2 u3).1.Data.length G])] ?_; intro hU d2
   refine nw d2 aX (fun b => .slice (sm b) 1 1) [i6 u1, i6 a.To, i6 (carryS a u2 u3).1.ID, .bool (carryS a u2 u3).1.Long, .bool (carryS a u2 u3).1.Fast, .bool (carryS a u2 u3).1.Remote, i6 (carryS a u2 u3).1.Size, .slice E (carryS a u2 u3).1.Data.length G] 42 ?_; intro d3 hV hW d4 bF
   obtain ⟨fV, d5⟩ := fP
   refine ap d4 bF 3 (T := tyLine) (xs := q) (ys := [(⟨u1, a.To, (carryS a u2 u3).1⟩ : Line)]) (ao := z) (cap := A) (ao2 := (sm d3)) (cap2 := 1) (t := 31) (e := 42) (bytes := 64) (nog rfl _) rfl (by kernel_rfl) rfl (by kernel_rfl) (by kernel_rfl) (by kernel_rfl) rfl (Src.row bF 0 rfl (RepAll.one (T := tyLine) (x := (⟨u1, a.To, (carryS a u2 u3).1⟩ : Line)) ⟨E, G, rfl, bo⟩)) fV ?_; intro bG bH hX fW hY d6 d7
   have d8 : Mem w.heap.size [] w Z [.row d3 [i6 u1, i6 a.To, i6 (carryS a u2 u3).1.ID, .bool (carryS a u2 u3).1.Long, .bool (carryS a u2 u3).1.Fast, .bool (carryS a u2 u3).1.Remote, i6 (carryS a u2 u3).1.Size, .slice E (carryS a u2 u3).1.Data.length G] 42, .row O (e25J ((carryS a u2 u3).1) E G) 25, .row H (e29J a) 29, .own tyLine 42 bG bH (q ++ [(⟨u1, a.To, (carryS a u2 u3).1⟩ : Line)]), .own t6 3 (sm ah) l (j.set f.toNat u1), .own tyRoute 29 o p (rclS u0.Routes), .row i [.slice o (rclS u0.Routes).length p, .slice (sm ah) (j.set f.toNat u1).length l] 37, .row n (e25J u3 ao7 cap8) 25, .row h [.slice ao1 u0.Routes.length cap2, .slice ao4 u0.Last.length cap5] 37] N fW := d7
   refine s1 d6 9 (.slice bG (q ++ [(⟨u1, a.To, (carryS a u2 u3).1⟩ : Line)]).length bH) ?_; intro h0 d9
   apply dZ
   refine j_ (t_ (rgB d9 d8 [] [] [(59, i6 (w64 (f + 1)))] ?_)); intro h3 fX
   exact d_ ⟨⟨q ++ [(⟨u1, a.To, (carryS a u2 u3).1⟩ : Line)], w64 (f + 1), j.set f.toNat u1, bG, bH, N⟩, ⟨d5.1, D⟩, d5.2, (fX.reg).anyβ _ (by kernel_rfl), d8.kp⟩
  have ea := aO.reval (d := 80) (c := []) (v := .bool (decide (I ≥ 0))) (by kernel_rfl) (.bool false) (by rw [J])
  have eb := ea.setc (d := 81) (c := [1]) (v := i6 u1) (by kernel_rfl) (v' := undef) (by rw [J]; kernel_rfl)
  have ec := eb.setc (d := 82) (c := [1]) (v := pt h 1) (by kernel_rfl) (v' := undef) (by rw [J]; kernel_rfl)
  have ed := ec.setc (d := 83) (c := [1]) (v := .slice ao4 u0.Last.length cap5) (by kernel_rfl) (v' := undef) (by rw [J]; kernel_rfl)
  have ee := ed.setc (d := 84) (c := [1]) (v := i6 f) (by kernel_rfl) (v' := undef) (by rw [J]; kernel_rfl)
  refine qk_ ee false ?_; intro h4 ef
  refine qk_ ef false ?_; intro h5 eg
  refine qk_ eg false ?_; intro h6 eh
  refine qk_ eh false ?_; intro h7 ei
  refine qk_ ei false ?_; intro h8 ej
  refine qk_ ej false ?_; intro h9 aY
  refine qg_ aY false (.bool false) ?_; intro ia ek
  refine q1 ek 92 (.bool false) ?_; intro fZ bI
  refine qnl (ag _ ?_); intro ib ax
  refine cdF bI (by kernel_rfl) ?_
  apply k_
  have el : Fr 109 [] [⟨2, [], i6 u2⟩, ⟨4, [], pt h 0⟩, ⟨5, [], pt B 0⟩, ⟨7, [], pt n 0⟩, ⟨8, [], pt i 0⟩, ⟨9, [], .slice z q.length A⟩, ⟨13, [], i6 f⟩, ⟨14, [], pt H 0⟩, ⟨15, [], pt O 0⟩, ⟨57, [], .slice ao1 u0.Routes.length cap2⟩, ⟨58, [], i6 (u0.Routes.length : Int)⟩, ⟨59, [], i6 f⟩] fZ := bI.reg
  refine sqH ?_; intro f0 em
  refine bt el ax 3 [5] [] [(94, .slice y j.length l), (95, i6 f)] ?_; intro ic en
  refine z1 en ax 96 L 0 (i6 u1) rfl ?_; intro id eo
  obtain ⟨f1, f2⟩ := fY
  refine ixo eo ax 3 (T := t6) (xs := j) f f1 (k := .i64) (e := 3) (bytes := 8) (nog rfl _) rfl (by kernel_rfl) rfl (by kernel_rfl) (by kernel_rfl) rfl (by kernel_rfl) ?_; intro ai f3 f4 aZ
  subst f4
  refine so aZ ax 3 (T := t6) (xs := j) f.toNat u1 (u := i6 u1) (nog rfl _) rfl rfl (by kernel_rfl) rfl (by kernel_rfl) rfl (by kernel_rfl) (by first | omega | (simp only [List.length_set] at *; omega)) rfl ?_; intro f5 ep
  have eq : Fr 109 [] [⟨2, [], i6 u2⟩, ⟨4, [], pt h 0⟩, ⟨5, [], pt B 0⟩, ⟨7, [], pt n 0⟩, ⟨8, [], pt i 0⟩, ⟨9, [], .slice z q.length A⟩, ⟨13, [], i6 f⟩, ⟨14, [], pt H 0⟩, ⟨15, [], pt O 0⟩, ⟨57, [], .slice ao1 u0.Routes.length cap2⟩, ⟨58, [], i6 (u0.Routes.length : Int)⟩, ⟨59, [], i6 f⟩, ⟨94, [], .slice (sm ai) (j.set f.toNat u1).length l⟩, ⟨95, [], i6 f⟩, ⟨96, [], i6 u1⟩, ⟨97, [], .pointer (some ⟨ai, f.toNat * 1, none⟩)⟩] f3 := by (try simp only [List.length_set] at aZ); (try simp only [List.length_set]); exact aZ.reg
  have f6 : (j.set f.toNat u1).length = j.length := by first | assumption | (simp; try omega)
  have a1 : Mem w.heap.size [] w Z [.row O (e25J ((carryS a u2 u3).1) E G) 25, .row H (e29J a) 29, .own tyLine 42 z A q, .own t6 3 (sm ai) l (j.set f.toNat u1), .own tyRoute 29 o p (rclS u0.Routes), .row i [.slice o (rclS u0.Routes).length p, .slice (sm ai) (j.set f.toNat u1).length l] 37, .row n (e25J u3 ao7 cap8) 25, .row h [.slice ao1 u0.Routes.length cap2, .slice ao4 u0.Last.length cap5] 37] N f5 := by rw [f6]; exact ep
  apply em
  refine rgH ?_; intro f7 er
  refine s1 eq 98 (.slice z q.length A) ?_; intro ie es
  refine z1 es a1 99 L 0 (i6 u1) rfl ?_; intro ig et
  refine bt et a1 4 [1, 0] [] [(103, .agg #[i6 u1, i6 a.To, i6 (carryS a u2 u3).1.ID, .bool (carryS a u2 u3).1.Long, .bool (carryS a u2 u3).1.Fast, .bool (carryS a u2 u3).1.Remote, i6 (carryS a u2 u3).1.Size, .slice E (carryS a u2 u3).1.Data.length G])] ?_; intro ih eu
  refine nw eu a1 (fun b => .slice (sm b) 1 1) [i6 u1, i6 a.To, i6 (carryS a u2 u3).1.ID, .bool (carryS a u2 u3).1.Long, .bool (carryS a u2 u3).1.Fast, .bool (carryS a u2 u3).1.Remote, i6 (carryS a u2 u3).1.Size, .slice E (carryS a u2 u3).1.Data.length G] 42 ?_; intro ev ii ij ew bJ
  obtain ⟨f8, ex⟩ := f2
  refine ap ew bJ 3 (T := tyLine) (xs := q) (ys := [(⟨u1, a.To, (carryS a u2 u3).1⟩ : Line)]) (ao := z) (cap := A) (ao2 := (sm ev)) (cap2 := 1) (t := 31) (e := 42) (bytes := 64) (nog rfl _) rfl (by kernel_rfl) rfl (by kernel_rfl) (by kernel_rfl) (by kernel_rfl) rfl (Src.row bJ 0 rfl (RepAll.one (T := tyLine) (x := (⟨u1, a.To, (carryS a u2 u3).1⟩ : Line)) ⟨E, G, rfl, bo⟩)) f8 ?_; intro bK bL ik f9 il ey ez
  have eA : Mem w.heap.size [] w Z [.row ev [i6 u1, i6 a.To, i6 (carryS a u2 u3).1.ID, .bool (carryS a u2 u3).1.Long, .bool (carryS a u2 u3).1.Fast, .bool (carryS a u2 u3).1.Remote, i6 (carryS a u2 u3).1.Size, .slice E (carryS a u2 u3).1.Data.length G] 42, .row O (e25J ((carryS a u2 u3).1) E G) 25, .row H (e29J a) 29, .own tyLine 42 bK bL (q ++ [(⟨u1, a.To, (carryS a u2 u3).1⟩ : Line)]), .own t6 3 (sm ai) l (j.set f.toNat u1), .own tyRoute 29 o p (rclS u0.Routes), .row i [.slice o (rclS u0.Routes).length p, .slice (sm ai) (j.set f.toNat u1).length l] 37, .row n (e25J u3 ao7 cap8) 25, .row h [.slice ao1 u0.Routes.length cap2, .slice ao4 u0.Last.length cap5] 37] N f9 := ez
  refine s1 ey 9 (.slice bK (q ++ [(⟨u1, a.To, (carryS a u2 u3).1⟩ : Line)]).length bL) ?_; intro im eB
  apply er
  refine j_ (t_ (rgB eB eA [] [] [(59, i6 (w64 (f + 1)))] ?_)); intro io ga
  exact d_ ⟨⟨q ++ [(⟨u1, a.To, (carryS a u2 u3).1⟩ : Line)], w64 (f + 1), j.set f.toNat u1, bK, bL, N⟩, ⟨ex.1, D⟩, ex.2, (ga.reg).anyβ _ (by kernel_rfl), eA.kp⟩
 refine x_ (y_ (y_ (z_ (t_ (sqH ?_))))); intro gc eC
 refine bt av cV 2 [3] [] [(107, .agg #[.slice o (rclS u0.Routes).length p, .slice y j.length l]), (108, .slice z q.length A)] ?_; intro ip bM
 refine sx bM cV 3 [.slice o (rclS u0.Routes).length p, .slice y j.length l] 0 ?_; intro bN bO
 refine bt bM bO 2 [] [] [(9, .slice z q.length A), (10, i6 0)] ?_; intro iq eD
 have gd : Mem w.heap.size [] w Z [.own tyLine 42 z A q, .own t6 3 y l j, .own tyRoute 29 o p (rclS u0.Routes), .row i [.slice o (rclS u0.Routes).length p, .slice y j.length l] 37, .row n (e25J u3 ao7 cap8) 25, .row h [.slice ao1 u0.Routes.length cap2, .slice ao4 u0.Last.length cap5] 37] bk bN := bO
 apply eC
 apply r_
 obtain ⟨ge, aj, eE, bP⟩ := gd.freeze 2 rfl
 have gf : Mem w.heap.size [] w Z [.own tyLine 42 z A q, .own t6 3 y l j, .row i [.slice o (rclS u0.Routes).length p, .slice y j.length l] 37, .row n (e25J u3 ao7 cap8) 25, .row h [.slice ao1 u0.Routes.length cap2, .slice ao4 u0.Last.length cap5] 37] ge bN := eE
 obtain ⟨eF, aa, eG, gg⟩ := gf.freeze 1 rfl
 replace bP := bP.mono aa
 have eH : Mem w.heap.size [] w Z [.own tyLine 42 z A q, .row i [.slice o (rclS u0.Routes).length p, .slice y j.length l] 37, .row n (e25J u3 ao7 cap8) 25, .row h [.slice ao1 u0.Routes.length cap2, .slice ao4 u0.Last.length cap5] 37] eF bN := eG
 refine rt (fn := Try.f10) (v := .tuple #[.agg #[.slice o (rclS u0.Routes).length p, .slice y j.length l], .slice z q.length A, i6 0]) eD (re3c eD (fn := Try.f10) rfl (ad := ⟨i, 0, none⟩) (by kernel_rfl) (loadVar_run eH 1 (b := i) (k := 2) (vs := [.slice o (rclS u0.Routes).length p, .slice y j.length l]) (ty := 37) rfl (by kernel_rfl) (by kernel_rfl)) (by kernel_rfl) (by kernel_rfl)) ?_
 exact ⟨((⟨(rclS u0.Routes), j⟩ : Gate), q, 0), o, p, y, l, z, A, eF, rfl, gb, bP, gg, eH.kp⟩

end Go.Proofs.Ytmkdnaecmombnaa
set_option linter.unusedVariables false
set_option linter.unusedSimpArgs false
set_option linter.defProp false
set_option maxRecDepth 100000
set_option maxHeartbeats 0
namespace Go.Proofs.Ytmkdnaecmombnaa
open Go.Sy Go.RowKit
abbrev e42K (X : Line) (A0 : Option Addr) (C0 : Nat) : List Value := [i6 X.Time, i6 X.Bus, i6 X.F.ID, .bool X.F.Long, .bool X.F.Fast, .bool X.F.Remote, i6 X.F.Size, .slice A0 X.F.Data.length C0]
abbrev e25K (X : Frame) (A0 : Option Addr) (C0 : Nat) : List Value := [i6 X.ID, .bool X.Long, .bool X.Fast, .bool X.Remote, i6 X.Size, .slice A0 X.Data.length C0]
def spread_fun (u0 : List Route) (u1 : Int) (u2 : Frame) (hpre : u0.length * 56 ≤ 140737488355328) (ao1 : Option Addr) (cap2 : Nat) (ao4 : Option Addr) (cap5 : Nat) (Z : Fz) (w : World) (hs3 : SlR tyRoute Z ao1 cap2 u0) (hs6 : SlR t8 Z ao4 cap5 u2.Data) (hZ : Z.on w) := fc_ (spread_walk u0 u1 u2 ao1 cap2 ao4 cap5 Z w hs3 hs6 hZ (spread_ok u0 u1 u2 hpre))
theorem gstepf_fun (u0 : Gate) (u1 : Int) (u2 : Int) (u3 : Frame) (ao1 : Option Addr) (cap2 : Nat) (ao4 : Option Addr) (cap5 : Nat) (ao7 : Option Addr) (cap8 : Nat) (Z : Fz) (w : World) (hs3 : SlR tyRoute Z ao1 cap2 u0.Routes) (hs6 : SlR t6 Z ao4 cap5 u0.Last) (hs9 : SlR t8 Z ao7 cap8 u3.Data) (hZ : Z.on w) : Calls Try.prog 10 #[.agg #[.slice ao1 u0.Routes.length cap2, .slice ao4 u0.Last.length cap5], i6 u1, i6 u2, .agg #[i6 u3.ID, .bool u3.Long, .bool u3.Fast, .bool u3.Remote, i6 u3.Size, .slice ao7 u3.Data.length cap8]] w fun e w' => ∃ (ao1001 : Option Addr) (cap1002 : Nat) (ao1004 : Option Addr) (cap1005 : Nat) (ao1007 : Option Addr) (cap1008 : Nat) (Z' : Fz), e = .returned (.tuple #[.agg #[.slice ao1001 (gstepS u0 u1 u2 u3).1.Routes.length cap1002, .slice ao1004 (gstepS u0 u1 u2 u3).1.Last.length cap1005], .slice ao1007 (gstepS u0 u1 u2 u3).2.1.length cap1008, i6 (gstepS u0 u1 u2 u3).2.2]) ∧ SlR tyRoute Z' ao1001 cap1002 (gstepS u0 u1 u2 u3).1.Routes ∧ SlR t6 Z' ao1004 cap1005 (gstepS u0 u1 u2 u3).1.Last ∧ Mem w.heap.size [] w Z [.own tyLine 42 ao1007 cap1008 (gstepS u0 u1 u2 u3).2.1] Z' w' :=
  (gstepf_walk u0 u1 u2 u3 ao1 cap2 ao4 cap5 ao7 cap8 Z w hs3 hs6 hs9 hZ (gstepf_ok u0 u1 u2 u3)).mono fun _ _ ⟨r, h0, h1, h2, h3, h4, h5, h6, he, hk, f0, f1, hm⟩ => by subst hk; exact ⟨h0, h1, h2, h3, h4, h5, h6, he, f0, f1, hm⟩

theorem slin1_walk (u0 : Line) (u1 : Line) (ao1 : Option Addr) (cap2 : Nat) (ao4 : Option Addr) (cap5 : Nat) (Z : Fz) (w : World) (hs3 : SlR t8 Z ao1 cap2 u0.F.Data) (hs6 : SlR t8 Z ao4 cap5 u1.F.Data) (hZ : Z.on w) {K : Bool → Prop} (hp : slin1_vc u0 u1 K) : Calls Try.prog 45 #[.agg #[i6 u0.Time, i6 u0.Bus, i6 u0.F.ID, .bool u0.F.Long, .bool u0.F.Fast, .bool u0.F.Remote, i6 u0.F.Size, .slice ao1 u0.F.Data.length cap2], .agg #[i6 u1.Time, i6 u1.Bus, i6 u1.F.ID, .bool u1.F.Long, .bool u1.F.Fast, .bool u1.F.Remote, i6 u1.F.Size, .slice ao4 u1.F.Data.length cap5]] w fun e w' => ∃ r : Bool, e = .returned (.bool r) ∧ K r ∧ Below w.heap.size w w' := by
 refine enter0 Try.func45 rfl rfl (by kernel_rfl) ?_; intro W o; have p := Mem.start w Z hZ
 have R := hp (hs3.small) (hs6.small)
 refine sqH ?_; intro S s
 refine nw o p pb (e42K u0 ao1 cap2) 42 ?_; intro c Y aa t u
 refine nw t u pb (e42K u1 ao4 cap5) 42 ?_; intro d ab ac x a
 refine s1 x 4 (.bool false) ?_; intro ad y
 apply s
 refine sqH ?_; intro T z
 refine s1 y 5 (pt c 0) ?_; intro ae A
 refine l1 A a 6 1 0 (i6 u0.Time) rfl rfl ?_; intro af B
 refine s1 B 7 (pt d 0) ?_; intro ag C
 refine l1 C a 8 0 0 (i6 u1.Time) rfl rfl ?_; intro ah D
 refine s1 D 9 (.bool (u0.Time == u1.Time)) ?_; intro ai E
 refine s1 E 10 (.bool (u0.Time == u1.Time)) ?_; intro aj G
 have H := G.atom ((u0.Time == u1.Time) == true) (by kernel_rfl)
 refine gp H 11 0 [] (u0.Time == u1.Time) (pt c 1) rfl rfl ?_; intro ak f
 refine gd f (i6 u0.Bus) (m := 0) (cj := []) (bj := u0.Time == u1.Time) rfl rfl (by kernel_rfl) rfl (by kernel_rfl) (by kernel_rfl) (by kernel_rfl) (fun hg => ld f a 1 (g := [0]) (b := c) (off := 1) (cs := (e42K u0 ao1 cap2)) (ty := 42) rfl (by kernel_rfl) (by kernel_rfl) (by kernel_rfl) (by kernel_rfl) hg) ?_; intro al I
 refine gp I 13 0 [] (u0.Time == u1.Time) (pt d 1) rfl rfl ?_; intro am h
 refine gd h (i6 u1.Bus) (m := 0) (cj := []) (bj := u0.Time == u1.Time) rfl rfl (by kernel_rfl) rfl (by kernel_rfl) (by kernel_rfl) (by kernel_rfl) (fun hg => ld h a 0 (g := [0]) (b := d) (off := 1) (cs := (e42K u1 ao4 cap5)) (ty := 42) rfl (by kernel_rfl) (by kernel_rfl) (by kernel_rfl) (by kernel_rfl) hg) ?_; intro an J
 refine gp J 15 0 [] (u0.Time == u1.Time) (.bool (u0.Bus == u1.Bus)) rfl rfl ?_; intro ao i
 refine u_ i (.bool ((u0.Time == u1.Time) && (u0.Bus == u1.Bus))) (pk_and i (g := []) (m := 0) (b := u0.Time == u1.Time) (v := u0.Bus == u1.Bus) rfl (by kernel_rfl) (by kernel_rfl) (by kernel_rfl) rfl) ?_; intro ap L
 refine s1 L 17 (.bool ((u0.Time == u1.Time) && (u0.Bus == u1.Bus))) ?_; intro aq M
 have N := M.atom (((u0.Time == u1.Time) && (u0.Bus == u1.Bus)) == true) (by kernel_rfl)
 refine gp N 18 1 [] ((u0.Time == u1.Time) && (u0.Bus == u1.Bus)) (pt c 2) rfl rfl ?_; intro ar j
 refine gd j (.agg (e25K u0.F ao1 cap2).toArray) (m := 1) (cj := []) (bj := (u0.Time == u1.Time) && (u0.Bus == u1.Bus)) rfl rfl (by kernel_rfl) rfl (by kernel_rfl) (by kernel_rfl) (by kernel_rfl) (fun hg => lda j a 1 (g := [1]) (b := c) (off := 2) (k := 6) (cs := (e42K u0 ao1 cap2)) (vs := (e25K u0.F ao1 cap2)) (ty := 42) rfl (by kernel_rfl) (by kernel_rfl) (by kernel_rfl) (by kernel_rfl) (by kernel_rfl) hg) ?_; intro au O
 refine gp O 20 1 [] ((u0.Time == u1.Time) && (u0.Bus == u1.Bus)) (pt d 2) rfl rfl ?_; intro av l
 refine gd l (.agg (e25K u1.F ao4 cap5).toArray) (m := 1) (cj := []) (bj := (u0.Time == u1.Time) && (u0.Bus == u1.Bus)) rfl rfl (by kernel_rfl) rfl (by kernel_rfl) (by kernel_rfl) (by kernel_rfl) (fun hg => lda l a 0 (g := [1]) (b := d) (off := 2) (k := 6) (cs := (e42K u1 ao4 cap5)) (vs := (e25K u1.F ao4 cap5)) (ty := 42) rfl (by kernel_rfl) (by kernel_rfl) (by kernel_rfl) (by kernel_rfl) (by kernel_rfl) hg) ?_; intro aw P
 refine gcl P a (.bool (rsameS u0.F u1.F)) 46 #[.agg (e25K u0.F ao1 cap2).toArray, .agg (e25K u1.F ao4 cap5).toArray] (m := 1) (cj := []) (bj := (u0.Time == u1.Time) && (u0.Bus == u1.Bus)) rfl rfl (by kernel_rfl) rfl (by kernel_rfl) (by kernel_rfl) (by kernel_rfl) (fun _ => by kernel_rfl) (fun hg => rsame_fun u0.F u1.F ao1 cap2 ao4 cap5 _ _ hs3 hs6 a.fz) ?_; intro ax ay n U
 refine u_ n (.bool (((u0.Time == u1.Time) && (u0.Bus == u1.Bus)) && (rsameS u0.F u1.F))) (pk_and n (g := []) (m := 1) (b := (u0.Time == u1.Time) && (u0.Bus == u1.Bus)) (v := (rsameS u0.F u1.F)) rfl (by kernel_rfl) (by kernel_rfl) (by kernel_rfl) rfl) ?_; intro az Q
 refine s1 Q 4 (.bool (((u0.Time == u1.Time) && (u0.Bus == u1.Bus)) && (rsameS u0.F u1.F))) ?_; intro aA V
 apply z
 exact r_ (ra1 V (.bool (((u0.Time == u1.Time) && (u0.Bus == u1.Bus)) && (rsameS u0.F u1.F))) ⟨((u0.Time == u1.Time) && (u0.Bus == u1.Bus)) && (rsameS u0.F u1.F), rfl, R, U.below⟩)
def slin1_fun (u0 : Line) (u1 : Line) (ao1 : Option Addr) (cap2 : Nat) (ao4 : Option Addr) (cap5 : Nat) (Z : Fz) (w : World) (hs3 : SlR t8 Z ao1 cap2 u0.F.Data) (hs6 : SlR t8 Z ao4 cap5 u1.F.Data) (hZ : Z.on w) := f_ (slin1_walk u0 u1 ao1 cap2 ao4 cap5 Z w hs3 hs6 hZ (slin1_ok u0 u1))
theorem leqf_walk (u0 : List Line) (u1 : List Line) (u2 : Line → Line → Bool) (ao1 : Option Addr) (cap2 : Nat) (ao4 : Option Addr) (cap5 : Nat) (fid7 : Nat) (caps8 : Array Value) (Z : Fz) (w : World) (hs3 : SlR tyLine Z ao1 cap2 u0) (hs6 : SlR tyLine Z ao4 cap5 u1) (hf9 : ∀ (Z1 : Fz) (w1 : World), Z.le Z1 → Z1.on w1 → ∀ (x0 : Line) (x1 : Line) (xao0 : Option Addr) (xcap0 : Nat) (xao1 : Option Addr) (xcap1 : Nat), SlR t8 Z1 xao0 xcap0 x0.F.Data → SlR t8 Z1 xao1 xcap1 x1.F.Data → Calls Try.prog fid7 (#[.agg #[i6 x0.Time, i6 x0.Bus, i6 x0.F.ID, .bool x0.F.Long, .bool x0.F.Fast, .bool x0.F.Remote, i6 x0.F.Size, .slice xao0 x0.F.Data.length xcap0], .agg #[i6 x1.Time, i6 x1.Bus, i6 x1.F.ID, .bool x1.F.Long, .bool x1.F.Fast, .bool x1.F.Remote, i6 x1.F.Size, .slice xao1 x1.F.Data.length xcap1]] ++ caps8) w1 fun e w2 => e = .returned (.bool (u2 x0 x1)) ∧ Below w1.heap.size w1 w2) (hg10 : ∀ x w, Sem.run Try.prog (callFunc fid7 x) w = .ok (.enter fid7 x) w) (hZ : Z.on w) {K : Bool → Prop} (hp : leqf_vc u0 u1 u2 K) : Calls Try.prog 44 #[.slice ao1 u0.length cap2, .slice ao4 u1.length cap5, .func (.func fid7) #[] caps8] w fun e w' => ∃ r : Bool, e = .returned (.bool r) ∧ K r ∧ Below w.heap.size w w' := by
 refine enter0 Try.func44 rfl rfl (by kernel_rfl) ?_; intro a0 E; have d := Mem.start w Z hZ; have aq := Fz.le.refl Z
 have o := hp (hs3.small) (hs6.small)
 refine sqB E d [] [] [] ?_; intro aZ H
 refine s_ (sqB H d [] [] [(14, .bool ((u0.length : Int) != (u1.length : Int)))] ?_); intro a1 l
 refine cd l (t := (u0.length : Int) != (u1.length : Int)) (by kernel_rfl) (fun z => ?_) (fun z => ?_)
 · -- yes
  have ar := o.1 z
  refine sqB l d [] [] [(6, .bool false)] ?_; intro a2 au
  exact r_ (h_ (ra1 au (.bool false) ⟨false, rfl, ar, d.below⟩))
 · -- no
  have av := o.2 z
  refine k_ (s_ (sqB l d [] [] [(15, .slice ao1 u0.length cap2), (16, i6 (u0.length : Int)), (17, i6 0)] ?_)); intro I J
  apply b_
  have L : Fr 32 [] [⟨1, [], .slice ao4 u1.length cap5⟩, ⟨2, [], .func (.func fid7) #[] caps8⟩, ⟨15, [], .slice ao1 u0.length cap2⟩, ⟨16, [], i6 (u0.length : Int)⟩, ⟨17, [], i6 0⟩] I := J.reg
  obtain ⟨aw, ax, ay, az⟩ := av
  refine lp (ι := Int) (fun s => [⟨1, [], .slice ao4 u1.length cap5⟩, ⟨2, [], .func (.func fid7) #[] caps8⟩, ⟨15, [], .slice ao1 u0.length cap2⟩, ⟨16, [], i6 (u0.length : Int)⟩, ⟨17, [], i6 s⟩]) (fun s => []) (fun s => Z) (fun s => aw s) (fun s => ax s) 0 ay (by exact L.region (by kernel_rfl) (by kernel_rfl)) (by exact d) ?_
  rintro c aA aB aC N O
  have p := az c aA
  refine sqB N O [] [] [(18, .bool (decide (c < (u0.length : Int))))] ?_; intro a3 m
  apply s_
  refine cd m (t := decide (c < (u0.length : Int))) (by kernel_rfl) (fun A => ?_) (fun A => ?_)
  · -- yes
   have aD := p.1 A
   refine k_ (s_ (b_ (sqH ?_))); intro aE Q
   refine s1 m 19 (i6 c) ?_; intro a4 R
   obtain ⟨aF, S⟩ := aD
   refine ix_ R hs3 c aF .i64 42 64 ?_; intro a5 a6 a7 a a8 aG aH aI U
   have V := S a aG
   obtain ⟨f, g, rfl, W⟩ := aI
   have aJ := V (W.small)
   refine z2 U O 21 aH 0 8 (e42K a f g) rfl ?_; intro a9 X
   refine nw X O pb [i6 0, i6 0, i6 0, .bool false, .bool false, .bool false, i6 0, .slice none 0 0] 42 ?_; intro Y ba bb aa ab
   refine s1 aa 7 (i6 c) ?_; intro bc B
   refine sx B ab 0 (e42K a f g) 0 ?_; intro aK ac
   have q : Mem w.heap.size [] w Z [.row Y (e42K a f g) 42] Z aK := ac
   apply Q
   refine sqH ?_; intro aL ad
   refine bt B q 2 [] [] [(22, .slice ao4 u1.length cap5), (23, i6 c)] ?_; intro bd ae
   obtain ⟨aM, af⟩ := aJ
   refine ix_ ae hs6 c aM .i64 42 64 ?_; intro be bf bg b bh aN aO aP ag
   have ah := af b aN
   obtain ⟨i, j, rfl, ai⟩ := aP
   have u := ah (ai.small)
   refine z2 ag q 25 aO 0 8 (e42K b i j) rfl ?_; intro bi aj
   refine nw aj q pb [i6 0, i6 0, i6 0, .bool false, .bool false, .bool false, i6 0, .slice none 0 0] 42 ?_; intro aQ bj bk C ak
   refine sx C ak 0 (e42K b i j) 0 ?_; intro aR al
   have v : Mem w.heap.size [] w Z [.row aQ (e42K b i j) 42, .row Y (e42K a f g) 42] Z aR := al
   apply ad
   refine sqH ?_; intro aS am
   refine bt C v 3 [1, 0] [] [(26, .func (.func fid7) #[] caps8), (27, .agg (e42K a f g).toArray), (28, .agg (e42K b i j).toArray)] ?_; intro bl an
   have aT := hf9 _ _ aq v.fz a b f g i j W ai
   refine fcl an v (.bool (u2 a b)) fid7 (#[.agg (e42K a f g).toArray, .agg (e42K b i j).toArray] ++ caps8) (nog rfl _) rfl (by kernel_rfl) ?h1 ?h2 ?_
   case h1 => exact fv_run rfl (by kernel_rfl) (by kernel_rfl) hg10
   case h2 => exact aT
   intro bm bn ao y
   refine s1 ao 30 (.bool (!(u2 a b))) ?_; intro bo n
   apply am
   refine cd n (t := !(u2 a b)) (by kernel_rfl) (fun D => ?_) (fun D => ?_)
   · -- yes
    have aU := u.1 D
    refine sqB n y [] [] [(6, .bool false)] ?_; intro bp aV
    exact r_ (i_ (h_ (h_ (i_ (h_ (ra1 aV (.bool false) ⟨false, rfl, aU, y.below⟩))))))
   · -- no
    have ap := u.2 D
    refine l_ (j_ (t_ (rgB n y [] [] [(17, i6 (w64 (c + 1)))] ?_))); intro bq aW
    exact d_ ⟨w64 (c + 1), ap.1, ap.2, (aW.region (by kernel_rfl) (by kernel_rfl)).anyβ _ (by kernel_rfl), y.kp⟩
  · -- no
   have aX := p.2 A
   refine x_ (y_ (y_ (z_ (t_ (sqB m O [] [] [(6, .bool true)] ?_))))); intro br aY
   exact r_ (ra1 aY (.bool true) ⟨true, rfl, aX, O.below⟩)

theorem RStep1_walk (u0 : Int) (u1 : Int) (cb1 co2 : Nat) (Z : Fz) (w : World) (hP3 : PtR Z cb1 co2 [i6 u1]) (hZ : Z.on w) {K : Bool → Prop} (hp : RStep1_vc u0 u1 K) : Calls Try.prog 20 #[i6 u0, pt cb1 co2] w fun e w' => ∃ r : Bool, e = .returned (.bool r) ∧ K r ∧ Below w.heap.size w w' := by
 refine enter0 Try.func20 rfl rfl (by kernel_rfl) ?_; intro j b; have a := Mem.start w Z hZ
 refine sqB b a [] [] [] ?_; intro l c
 refine sqH ?_; intro h d
 refine s1 c 4 (i6 u0) ?_; intro m f
 refine z1 f a 5 hP3 0 (i6 u1) rfl ?_; intro n g
 refine bt g a 2 [] [] [(3, .bool (decide (u0 > u1)))] ?_; intro o i
 apply d
 exact r_ (ra1 i (.bool (decide (u0 > u1))) ⟨decide (u0 > u1), rfl, hp, a.below⟩)
def RStep1_fun (u0 : Int) (u1 : Int) (cb1 co2 : Nat) (Z : Fz) (w : World) (hP3 : PtR Z cb1 co2 [i6 u1]) (hZ : Z.on w) := f_ (RStep1_walk u0 u1 cb1 co2 Z w hP3 hZ (RStep1_ok u0 u1))
theorem routed_walk   (Z : Fz) (w : World)  (hZ : Z.on w) {K : Bool → Prop} (hp : routed_vc  K) : Calls Try.prog 7 #[] w fun e w' => ∃ r : Bool, e = .returned (.bool r) ∧ K r ∧ Below w.heap.size w w' := by
 refine enter0 Try.func7 rfl rfl (by kernel_rfl) ?_; intro a0 av; have Y := Mem.start w Z hZ
 refine sqB av Y [] [] [] ?_; intro a2 aw
 refine sqH ?_; intro bs ax
 refine s1 aw 9 (.agg #[i6 0, i6 1, i6 0, i6 0, .bool false, i6 2, i6 0]) ?_; intro a5 ay
 refine nw ay Y (fun b => .slice (sm b) 1 1) [i6 0, i6 1, i6 0, i6 0, .bool false, i6 2, i6 0] 29 ?_; intro b7 a8 az aA aB
 refine s1 aA 11 (.agg #[i6 5, .bool false, .bool false, .bool false, i6 0, .slice none 0 0]) ?_; intro cj aC
 have bu : Mem w.heap.size [] w Z [.own tyRoute 29 (sm b7) 1 ([(⟨0, 1, (⟨0, 0, false⟩ : Filter), 2, 0⟩ : Route)] : List Route)] Z az := aB.rowOwn (T := tyRoute) (xs := ([(⟨0, 1, (⟨0, 0, false⟩ : Filter), 2, 0⟩ : Route)] : List Route)) 0 rfl (by decide) (by show 1 ≤ lim; decide) (RepAll.one (T := tyRoute) (x := (⟨0, 1, (⟨0, 0, false⟩ : Filter), 2, 0⟩ : Route)) rfl)
 obtain ⟨bv, bw, aD, g⟩ := bu.freeze 0 rfl
 have aa : Mem w.heap.size [] w Z [] bv az := aD
 obtain ⟨bx, aE⟩ := hp
 refine ck aC 8 #[.slice (sm b7) ([(⟨0, 1, (⟨0, 0, false⟩ : Filter), 2, 0⟩ : Route)] : List Route).length 1, i6 0, .agg #[i6 5, .bool false, .bool false, .bool false, i6 0, .slice none 0 0]] ?_
 refine (spread_fun ([(⟨0, 1, (⟨0, 0, false⟩ : Filter), 2, 0⟩ : Route)] : List Route) 0 (⟨5, false, false, false, 0, []⟩ : Frame) bx (sm b7) 1 none 0 _ _ g (SlR.nil _ _) aa.fz).mono ?_; rintro _ bz ⟨h, i, aF, rfl, hm⟩; refine ⟨_, rfl, ?_⟩; intro cl aG; have aH := aa.callZ hm
 have C : Mem w.heap.size [] w Z [.own tyLine 42 h i (spreadS ([(⟨0, 1, (⟨0, 0, false⟩ : Filter), 2, 0⟩ : Route)] : List Route) 0 (⟨5, false, false, false, 0, []⟩ : Frame)).1] aF bz := aH
 have bA := aE (C.ownSmall 0 rfl)
 refine bt aG C 5 [] [] [(1, .slice h (spreadS ([(⟨0, 1, (⟨0, 0, false⟩ : Filter), 2, 0⟩ : Route)] : List Route) 0 (⟨5, false, false, false, 0, []⟩ : Frame)).1.length i), (2, i6 (spreadS ([(⟨0, 1, (⟨0, 0, false⟩ : Filter), 2, 0⟩ : Route)] : List Route) 0 (⟨5, false, false, false, 0, []⟩ : Frame)).2)] ?_; intro cm aJ
 apply ax
 refine sqH ?_; intro bB aK
 refine s1 aJ 16 (.agg #[i6 0, i6 1, i6 0, i6 0, .bool false, i6 2, i6 0]) ?_; intro cn aL
 refine nw aL C (fun b => .slice (sm b) 1 1) [i6 0, i6 1, i6 0, i6 0, .bool false, i6 2, i6 0] 29 ?_; intro ab co aM aN aO
 have bC : Mem w.heap.size [] w Z [.own tyRoute 29 (sm ab) 1 ([(⟨0, 1, (⟨0, 0, false⟩ : Filter), 2, 0⟩ : Route)] : List Route), .own tyLine 42 h i (spreadS ([(⟨0, 1, (⟨0, 0, false⟩ : Filter), 2, 0⟩ : Route)] : List Route) 0 (⟨5, false, false, false, 0, []⟩ : Frame)).1] aF aM := aO.rowOwn (T := tyRoute) (xs := ([(⟨0, 1, (⟨0, 0, false⟩ : Filter), 2, 0⟩ : Route)] : List Route)) 0 rfl (by decide) (by show 1 ≤ lim; decide) (RepAll.one (T := tyRoute) (x := (⟨0, 1, (⟨0, 0, false⟩ : Filter), 2, 0⟩ : Route)) rfl)
 obtain ⟨bD, aP, aQ, q⟩ := bC.freeze 0 rfl
 have ac : Mem w.heap.size [] w Z [.own tyLine 42 h i (spreadS ([(⟨0, 1, (⟨0, 0, false⟩ : Filter), 2, 0⟩ : Route)] : List Route) 0 (⟨5, false, false, false, 0, []⟩ : Frame)).1] bD aM := aQ
 obtain ⟨bE, aR⟩ := bA
 refine ck aN 9 #[.slice (sm ab) ([(⟨0, 1, (⟨0, 0, false⟩ : Filter), 2, 0⟩ : Route)] : List Route).length 1] ?_
 refine (gnew_fun ([(⟨0, 1, (⟨0, 0, false⟩ : Filter), 2, 0⟩ : Route)] : List Route) bE (sm ab) 1 _ _ q ac.fz).mono ?_; rintro _ bF ⟨j, l, m, n, aS, rfl, D, E, hm⟩; refine ⟨_, rfl, ?_⟩; intro cp aT; have aU := ac.callZ hm
 have ae : Mem w.heap.size [] w Z [.own tyLine 42 h i (spreadS ([(⟨0, 1, (⟨0, 0, false⟩ : Filter), 2, 0⟩ : Route)] : List Route) 0 (⟨5, false, false, false, 0, []⟩ : Frame)).1] aS bF := aU
 have aW := aR (D.small) (E.small)
 refine bt aT ae 3 [] [] [(19, .agg #[.slice j (gnewS ([(⟨0, 1, (⟨0, 0, false⟩ : Filter), 2, 0⟩ : Route)] : List Route)).1.Routes.length l, .slice m (gnewS ([(⟨0, 1, (⟨0, 0, false⟩ : Filter), 2, 0⟩ : Route)] : List Route)).1.Last.length n]), (20, i6 (gnewS ([(⟨0, 1, (⟨0, 0, false⟩ : Filter), 2, 0⟩ : Route)] : List Route)).2)] ?_; intro cq aX
 refine nw aX ae pb [.slice none 0 0, .slice none 0 0] 37 ?_; intro af cr cs ag aY
 refine sx ag aY 0 [.slice j (gnewS ([(⟨0, 1, (⟨0, 0, false⟩ : Filter), 2, 0⟩ : Route)] : List Route)).1.Routes.length l, .slice m (gnewS ([(⟨0, 1, (⟨0, 0, false⟩ : Filter), 2, 0⟩ : Route)] : List Route)).1.Last.length n] 0 ?_; intro bG aZ
 refine s1 ag 4 (i6 (gnewS ([(⟨0, 1, (⟨0, 0, false⟩ : Filter), 2, 0⟩ : Route)] : List Route)).2) ?_; intro ct a1
 have G : Mem w.heap.size [] w Z [.row af [.slice j (gnewS ([(⟨0, 1, (⟨0, 0, false⟩ : Filter), 2, 0⟩ : Route)] : List Route)).1.Routes.length l, .slice m (gnewS ([(⟨0, 1, (⟨0, 0, false⟩ : Filter), 2, 0⟩ : Route)] : List Route)).1.Last.length n] 37, .own tyLine 42 h i (spreadS ([(⟨0, 1, (⟨0, 0, false⟩ : Filter), 2, 0⟩ : Route)] : List Route) 0 (⟨5, false, false, false, 0, []⟩ : Frame)).1] aS bG := aZ
 apply aK
 refine sqH ?_; intro bH a3
 refine bt a1 G 2 [0] [] [(22, .agg #[.slice j (gnewS ([(⟨0, 1, (⟨0, 0, false⟩ : Filter), 2, 0⟩ : Route)] : List Route)).1.Routes.length l, .slice m (gnewS ([(⟨0, 1, (⟨0, 0, false⟩ : Filter), 2, 0⟩ : Route)] : List Route)).1.Last.length n]), (23, .agg #[i6 5, .bool false, .bool false, .bool false, i6 0, .slice none 0 0])] ?_; intro cu a4
 refine ck a4 10 #[.agg #[.slice j (gnewS ([(⟨0, 1, (⟨0, 0, false⟩ : Filter), 2, 0⟩ : Route)] : List Route)).1.Routes.length l, .slice m (gnewS ([(⟨0, 1, (⟨0, 0, false⟩ : Filter), 2, 0⟩ : Route)] : List Route)).1.Last.length n], i6 9, i6 0, .agg #[i6 5, .bool false, .bool false, .bool false, i6 0, .slice none 0 0]] ?_
 refine (gstepf_fun (gnewS ([(⟨0, 1, (⟨0, 0, false⟩ : Filter), 2, 0⟩ : Route)] : List Route)).1 9 0 (⟨5, false, false, false, 0, []⟩ : Frame) j l m n none 0 _ _ D E (SlR.nil _ _) G.fz).mono ?_; rintro _ bI ⟨ah, ai, aj, ak, s, p, a6, rfl, bJ, bK, hm⟩; refine ⟨_, rfl, ?_⟩; intro cv a7; have a9 := G.callZ hm
 have H : Mem w.heap.size [] w Z [.own tyLine 42 s p (gstepS (gnewS ([(⟨0, 1, (⟨0, 0, false⟩ : Filter), 2, 0⟩ : Route)] : List Route)).1 9 0 (⟨5, false, false, false, 0, []⟩ : Frame)).2.1, .row af [.slice j (gnewS ([(⟨0, 1, (⟨0, 0, false⟩ : Filter), 2, 0⟩ : Route)] : List Route)).1.Routes.length l, .slice m (gnewS ([(⟨0, 1, (⟨0, 0, false⟩ : Filter), 2, 0⟩ : Route)] : List Route)).1.Last.length n] 37, .own tyLine 42 h i (spreadS ([(⟨0, 1, (⟨0, 0, false⟩ : Filter), 2, 0⟩ : Route)] : List Route) 0 (⟨5, false, false, false, 0, []⟩ : Frame)).1] a6 bI := a9
 have I := aW (H.ownSmall 0 rfl) (bJ.small) (bK.small)
 refine bt a7 H 4 [] [] [(25, .agg #[.slice ah (gstepS (gnewS ([(⟨0, 1, (⟨0, 0, false⟩ : Filter), 2, 0⟩ : Route)] : List Route)).1 9 0 (⟨5, false, false, false, 0, []⟩ : Frame)).1.Routes.length ai, .slice aj (gstepS (gnewS ([(⟨0, 1, (⟨0, 0, false⟩ : Filter), 2, 0⟩ : Route)] : List Route)).1 9 0 (⟨5, false, false, false, 0, []⟩ : Frame)).1.Last.length ak]), (26, .slice s (gstepS (gnewS ([(⟨0, 1, (⟨0, 0, false⟩ : Filter), 2, 0⟩ : Route)] : List Route)).1 9 0 (⟨5, false, false, false, 0, []⟩ : Frame)).2.1.length p), (27, i6 (gstepS (gnewS ([(⟨0, 1, (⟨0, 0, false⟩ : Filter), 2, 0⟩ : Route)] : List Route)).1 9 0 (⟨5, false, false, false, 0, []⟩ : Frame)).2.2)] ?_; intro cw bc
 refine nw bc H pb [.slice none 0 0, .slice none 0 0] 37 ?_; intro bL cx cy al bd
 refine sx al bd 0 [.slice ah (gstepS (gnewS ([(⟨0, 1, (⟨0, 0, false⟩ : Filter), 2, 0⟩ : Route)] : List Route)).1 9 0 (⟨5, false, false, false, 0, []⟩ : Frame)).1.Routes.length ai, .slice aj (gstepS (gnewS ([(⟨0, 1, (⟨0, 0, false⟩ : Filter), 2, 0⟩ : Route)] : List Route)).1 9 0 (⟨5, false, false, false, 0, []⟩ : Frame)).1.Last.length ak] 0 ?_; intro bM am
 refine bt al am 2 [] [] [(6, .slice s (gstepS (gnewS ([(⟨0, 1, (⟨0, 0, false⟩ : Filter), 2, 0⟩ : Route)] : List Route)).1 9 0 (⟨5, false, false, false, 0, []⟩ : Frame)).2.1.length p), (7, i6 (gstepS (gnewS ([(⟨0, 1, (⟨0, 0, false⟩ : Filter), 2, 0⟩ : Route)] : List Route)).1 9 0 (⟨5, false, false, false, 0, []⟩ : Frame)).2.2)] ?_; intro cz be
 have a : Mem w.heap.size [] w Z [.row bL [.slice ah (gstepS (gnewS ([(⟨0, 1, (⟨0, 0, false⟩ : Filter), 2, 0⟩ : Route)] : List Route)).1 9 0 (⟨5, false, false, false, 0, []⟩ : Frame)).1.Routes.length ai, .slice aj (gstepS (gnewS ([(⟨0, 1, (⟨0, 0, false⟩ : Filter), 2, 0⟩ : Route)] : List Route)).1 9 0 (⟨5, false, false, false, 0, []⟩ : Frame)).1.Last.length ak] 37, .own tyLine 42 s p (gstepS (gnewS ([(⟨0, 1, (⟨0, 0, false⟩ : Filter), 2, 0⟩ : Route)] : List Route)).1 9 0 (⟨5, false, false, false, 0, []⟩ : Frame)).2.1, .row af [.slice j (gnewS ([(⟨0, 1, (⟨0, 0, false⟩ : Filter), 2, 0⟩ : Route)] : List Route)).1.Routes.length l, .slice m (gnewS ([(⟨0, 1, (⟨0, 0, false⟩ : Filter), 2, 0⟩ : Route)] : List Route)).1.Last.length n] 37, .own tyLine 42 h i (spreadS ([(⟨0, 1, (⟨0, 0, false⟩ : Filter), 2, 0⟩ : Route)] : List Route) 0 (⟨5, false, false, false, 0, []⟩ : Frame)).1] a6 bM := am
 apply a3
 refine sqH ?_; intro J o
 refine bt be a 16 [] [] [(43, .bool (((((spreadS ([(⟨0, 1, (⟨0, 0, false⟩ : Filter), 2, 0⟩ : Route)] : List Route) 0 (⟨5, false, false, false, 0, []⟩ : Frame)).2 == 0) && ((gnewS ([(⟨0, 1, (⟨0, 0, false⟩ : Filter), 2, 0⟩ : Route)] : List Route)).2 == 0)) && ((gstepS (gnewS ([(⟨0, 1, (⟨0, 0, false⟩ : Filter), 2, 0⟩ : Route)] : List Route)).1 9 0 (⟨5, false, false, false, 0, []⟩ : Frame)).2.2 == 0)) && (((spreadS ([(⟨0, 1, (⟨0, 0, false⟩ : Filter), 2, 0⟩ : Route)] : List Route) 0 (⟨5, false, false, false, 0, []⟩ : Frame)).1.length : Int) == 1)))] ?_; intro cA L
 rcases Bool.eq_false_or_eq_true (((((spreadS ([(⟨0, 1, (⟨0, 0, false⟩ : Filter), 2, 0⟩ : Route)] : List Route) 0 (⟨5, false, false, false, 0, []⟩ : Frame)).2 == 0) && ((gnewS ([(⟨0, 1, (⟨0, 0, false⟩ : Filter), 2, 0⟩ : Route)] : List Route)).2 == 0)) && ((gstepS (gnewS ([(⟨0, 1, (⟨0, 0, false⟩ : Filter), 2, 0⟩ : Route)] : List Route)).1 9 0 (⟨5, false, false, false, 0, []⟩ : Frame)).2.2 == 0)) && (((spreadS ([(⟨0, 1, (⟨0, 0, false⟩ : Filter), 2, 0⟩ : Route)] : List Route) 0 (⟨5, false, false, false, 0, []⟩ : Frame)).1.length : Int) == 1)) with u | u
 · -- true
  have bN := I.1 u
  have M := L.reval (d := 43) (c := []) (v := .bool (((((spreadS ([(⟨0, 1, (⟨0, 0, false⟩ : Filter), 2, 0⟩ : Route)] : List Route) 0 (⟨5, false, false, false, 0, []⟩ : Frame)).2 == 0) && ((gnewS ([(⟨0, 1, (⟨0, 0, false⟩ : Filter), 2, 0⟩ : Route)] : List Route)).2 == 0)) && ((gstepS (gnewS ([(⟨0, 1, (⟨0, 0, false⟩ : Filter), 2, 0⟩ : Route)] : List Route)).1 9 0 (⟨5, false, false, false, 0, []⟩ : Frame)).2.2 == 0)) && (((spreadS ([(⟨0, 1, (⟨0, 0, false⟩ : Filter), 2, 0⟩ : Route)] : List Route) 0 (⟨5, false, false, false, 0, []⟩ : Frame)).1.length : Int) == 1))) (by kernel_rfl) (.bool true) (by rw [u])
  refine g_ M true (.slice h (spreadS ([(⟨0, 1, (⟨0, 0, false⟩ : Filter), 2, 0⟩ : Route)] : List Route) 0 (⟨5, false, false, false, 0, []⟩ : Frame)).1.length i) ?_; intro cB an
  obtain ⟨bO, bf⟩ := bN
  refine ixo an a 3 (T := tyLine) (xs := (spreadS ([(⟨0, 1, (⟨0, 0, false⟩ : Filter), 2, 0⟩ : Route)] : List Route) 0 (⟨5, false, false, false, 0, []⟩ : Frame)).1) (0 : Int) bO (k := .i64) (e := 42) (bytes := 64) (wK an true) rfl (by kernel_rfl) rfl (by kernel_rfl) (by kernel_rfl) rfl (by kernel_rfl) ?_; intro bP cC bQ bg
  subst bQ
  refine bt bg a 2 [] [46, 47] [(47, .pointer (some ⟨bP, (0 : Int).toNat * 8 + 2 + 0, none⟩))] ?_; intro cD ao
  obtain ⟨y, bR, bh⟩ := gxq bf (by first | omega | (simp only [List.length_set] at *; omega))
  obtain ⟨cE, bS, bT⟩ := own_el a 3 (T := tyLine) (xs := (spreadS ([(⟨0, 1, (⟨0, 0, false⟩ : Filter), 2, 0⟩ : Route)] : List Route) 0 (⟨5, false, false, false, 0, []⟩ : Frame)).1) rfl (0 : Int).toNat bR
  obtain ⟨cF, cG, rfl, bU⟩ := bS
  have N := bh (bU.small)
  refine lc1 ao 48 (i6 y.F.ID) (bT 2 _ rfl) rfl ?_ (hw := (wK ao true)); intro cH bi
  refine bt bi a 8 [] [49, 50] [(56, .bool ((y.F.ID == 7) && (((gstepS (gnewS ([(⟨0, 1, (⟨0, 0, false⟩ : Filter), 2, 0⟩ : Route)] : List Route)).1 9 0 (⟨5, false, false, false, 0, []⟩ : Frame)).2.1.length : Int) == 1)))] ?_; intro cI O
  rcases Bool.eq_false_or_eq_true ((y.F.ID == 7) && (((gstepS (gnewS ([(⟨0, 1, (⟨0, 0, false⟩ : Filter), 2, 0⟩ : Route)] : List Route)).1 9 0 (⟨5, false, false, false, 0, []⟩ : Frame)).2.1.length : Int) == 1)) with z | z
  · -- true
   have bV := N.1 z
   have P := O.reval (d := 56) (c := []) (v := .bool ((y.F.ID == 7) && (((gstepS (gnewS ([(⟨0, 1, (⟨0, 0, false⟩ : Filter), 2, 0⟩ : Route)] : List Route)).1 9 0 (⟨5, false, false, false, 0, []⟩ : Frame)).2.1.length : Int) == 1))) (by kernel_rfl) (.bool true) (by rw [z])
   refine g_ P true (.slice s (gstepS (gnewS ([(⟨0, 1, (⟨0, 0, false⟩ : Filter), 2, 0⟩ : Route)] : List Route)).1 9 0 (⟨5, false, false, false, 0, []⟩ : Frame)).2.1.length p) ?_; intro cJ ap
   obtain ⟨bW, bj⟩ := bV
   refine ixo ap a 1 (T := tyLine) (xs := (gstepS (gnewS ([(⟨0, 1, (⟨0, 0, false⟩ : Filter), 2, 0⟩ : Route)] : List Route)).1 9 0 (⟨5, false, false, false, 0, []⟩ : Frame)).2.1) (0 : Int) bW (k := .i64) (e := 42) (bytes := 64) (wK ap true) rfl (by kernel_rfl) rfl (by kernel_rfl) (by kernel_rfl) rfl (by kernel_rfl) ?_; intro Q cK bX R
   subst bX
   refine g_ R true (.pointer (some ⟨Q, (0 : Int).toNat * 8 + 0, none⟩)) ?_; intro cL aq
   obtain ⟨A, bY, bk⟩ := gxq bj (by first | omega | (simp only [List.length_set] at *; omega))
   obtain ⟨cM, bZ, b0⟩ := own_el a 1 (T := tyLine) (xs := (gstepS (gnewS ([(⟨0, 1, (⟨0, 0, false⟩ : Filter), 2, 0⟩ : Route)] : List Route)).1 9 0 (⟨5, false, false, false, 0, []⟩ : Frame)).2.1) rfl (0 : Int).toNat bY
   obtain ⟨cN, cO, rfl, b1⟩ := bZ
   have S := bk (b1.small)
   refine lc1 aq 60 (i6 A.Time) (b0 0 _ rfl) rfl ?_ (hw := (wK aq true)); intro cP bl
   refine bt bl a 3 [] [61, 62] [(63, .bool (A.Time == 9))] ?_; intro cQ U
   rcases Bool.eq_false_or_eq_true (A.Time == 9) with B | B
   · -- true
    have b2 := S.1 B
    have V := U.reval (d := 63) (c := []) (v := .bool (A.Time == 9)) (by kernel_rfl) (.bool true) (by rw [B])
    refine g_ V true (.slice (sm Q) (gstepS (gnewS ([(⟨0, 1, (⟨0, 0, false⟩ : Filter), 2, 0⟩ : Route)] : List Route)).1 9 0 (⟨5, false, false, false, 0, []⟩ : Frame)).2.1.length p) ?_; intro cR ar
    obtain ⟨b3, bm⟩ := b2
    refine ixo ar a 1 (T := tyLine) (xs := (gstepS (gnewS ([(⟨0, 1, (⟨0, 0, false⟩ : Filter), 2, 0⟩ : Route)] : List Route)).1 9 0 (⟨5, false, false, false, 0, []⟩ : Frame)).2.1) (0 : Int) b3 (k := .i64) (e := 42) (bytes := 64) (wK ar true) rfl (by kernel_rfl) rfl (by kernel_rfl) (by kernel_rfl) rfl (by kernel_rfl) ?_; intro b4 cS b5 W
    obtain rfl : Q = b4 := by simpa using b5
    refine g_ W true (.pointer (some ⟨Q, (0 : Int).toNat * 8 + 1, none⟩)) ?_; intro cT au
    obtain ⟨X, b6, bn⟩ := gxq bm (by first | omega | (simp only [List.length_set] at *; omega))
    obtain ⟨cU, b8, b9⟩ := own_el a 1 (T := tyLine) (xs := (gstepS (gnewS ([(⟨0, 1, (⟨0, 0, false⟩ : Filter), 2, 0⟩ : Route)] : List Route)).1 9 0 (⟨5, false, false, false, 0, []⟩ : Frame)).2.1) rfl (0 : Int).toNat b6
    obtain ⟨cV, cW, rfl, ca⟩ := b8
    have cb := bn (ca.small)
    refine lc1 au 67 (i6 X.Bus) (b9 1 _ rfl) rfl ?_ (hw := (wK au true)); intro cX bo
    refine bt bo a 3 [] [68, 69] [(0, .bool (X.Bus == 1))] ?_; intro cY cc
    apply o
    exact r_ (ra1 cc (.bool (X.Bus == 1)) ⟨X.Bus == 1, rfl, cb, a.below⟩)
   · -- false
    have cd := S.2 B
    have bp := U.reval (d := 63) (c := []) (v := .bool (A.Time == 9)) (by kernel_rfl) (.bool false) (by rw [B])
    refine bt bp a 7 [] [64, 65, 66, 67, 68, 69] [(0, .bool false)] ?_; intro cZ ce
    apply o
    exact r_ (ra1 ce (.bool false) ⟨false, rfl, cd, a.below⟩)
  · -- false
   have cf := N.2 z
   have bq := O.reval (d := 56) (c := []) (v := .bool ((y.F.ID == 7) && (((gstepS (gnewS ([(⟨0, 1, (⟨0, 0, false⟩ : Filter), 2, 0⟩ : Route)] : List Route)).1 9 0 (⟨5, false, false, false, 0, []⟩ : Frame)).2.1.length : Int) == 1))) (by kernel_rfl) (.bool false) (by rw [z])
   refine bt bq a 14 [] [57, 58, 59, 60, 61, 62, 64, 65, 66, 67, 68, 69] [(0, .bool false)] ?_; intro c0 cg
   apply o
   exact r_ (ra1 cg (.bool false) ⟨false, rfl, cf, a.below⟩)
 · -- false
  have ch := I.2 u
  have br := L.reval (d := 43) (c := []) (v := .bool (((((spreadS ([(⟨0, 1, (⟨0, 0, false⟩ : Filter), 2, 0⟩ : Route)] : List Route) 0 (⟨5, false, false, false, 0, []⟩ : Frame)).2 == 0) && ((gnewS ([(⟨0, 1, (⟨0, 0, false⟩ : Filter), 2, 0⟩ : Route)] : List Route)).2 == 0)) && ((gstepS (gnewS ([(⟨0, 1, (⟨0, 0, false⟩ : Filter), 2, 0⟩ : Route)] : List Route)).1 9 0 (⟨5, false, false, false, 0, []⟩ : Frame)).2.2 == 0)) && (((spreadS ([(⟨0, 1, (⟨0, 0, false⟩ : Filter), 2, 0⟩ : Route)] : List Route) 0 (⟨5, false, false, false, 0, []⟩ : Frame)).1.length : Int) == 1))) (by kernel_rfl) (.bool false) (by rw [u])
  refine bt br a 27 [] [44, 45, 46, 47, 48, 49, 50, 52, 53, 54, 55, 57, 58, 59, 60, 61, 62, 64, 65, 66, 67, 68, 69] [(0, .bool false)] ?_; intro c1 ci
  apply o
  exact r_ (ra1 ci (.bool false) ⟨false, rfl, ch, a.below⟩)

end Go.Proofs.Ytmkdnaecmombnaa
set_option linter.unusedVariables false
set_option linter.unusedSimpArgs false
set_option linter.defProp false
namespace Go.Proofs.Ytmkdnaecmombnaa
open Go.Sy Go.RowKit
def routed_fun   (Z : Fz) (w : World)  (hZ : Z.on w) := f_ (routed_walk   Z w  hZ (routed_ok ))
end Go.Proofs.Ytmkdnaecmombnaa
set_option linter.unusedVariables false
set_option linter.unusedSimpArgs false
set_option maxRecDepth 100000
set_option maxHeartbeats 0
namespace Go.Proofs.Ytmkdnaecmombnaa
open Go.Sy Go.RowKit
abbrev e42Mg (X : Line) (A0 : Option Addr) (C0 : Nat) : List Value := [i6 X.Time, i6 X.Bus, i6 X.F.ID, .bool X.F.Long, .bool X.F.Fast, .bool X.F.Remote, i6 X.F.Size, .slice A0 X.F.Data.length C0]
abbrev e25Mg (X : Frame) (A0 : Option Addr) (C0 : Nat) : List Value := [i6 X.ID, .bool X.Long, .bool X.Fast, .bool X.Remote, i6 X.Size, .slice A0 X.Data.length C0]
theorem mkSpot_dec (a b : Spot) : ((a.bus == b.bus) && ((a.id == b.id) && true)) = decide (a = b) := by
  cases a; cases b
  rw [Bool.eq_iff_iff]
  simp
theorem mkSpot : MKey Try.prog 44 (fun x : Spot => .agg #[i6 x.bus, i6 x.id]) :=
  MKey.agg (c := fun x : Spot => #[i6 x.bus, i6 x.id]) (by kernel_rfl) (fun _ _ _ => by kernel_rfl) (fun a b => (show fieldsEq Try.prog #[i6 a.bus, i6 a.id] #[i6 b.bus, i6 b.id] (Try.prog.fieldsOf 44).toList = some ((a.bus == b.bus) && ((a.id == b.id) && true)) by kernel_rfl).trans (congrArg some (mkSpot_dec a b))) (fun a => by simp [Instr.sameBits])

theorem LGoes_walk (u0 : List Route) (u1 : Int) (u2 : Frame) (ao1 : Option Addr) (cap2 : Nat) (ao4 : Option Addr) (cap5 : Nat) (Z : Fz) (w : World) (hs3 : SlR tyRoute Z ao1 cap2 u0) (hs6 : SlR t8 Z ao4 cap5 u2.Data) (hZ : Z.on w) {K : Bool → Prop} (hp : LGoes_vc u0 u1 u2 K) : Calls Try.prog 3 #[.slice ao1 u0.length cap2, i6 u1, .agg #[i6 u2.ID, .bool u2.Long, .bool u2.Fast, .bool u2.Remote, i6 u2.Size, .slice ao4 u2.Data.length cap5]] w fun e w' => ∃ r : Bool, e = .returned (.bool r) ∧ K r ∧ Below w.heap.size w w' := by
 refine enter0 Try.func3 rfl rfl (by kernel_rfl) ?_; intro a0 a2; have a3 := Mem.start w Z hZ
 have c4 := hp (hs3.small) (hs6.small)
 refine sqH ?_; intro c5 a5
 refine nw a2 a3 pb (e25Mg u2 ao4 cap5) 25 ?_; intro i eI eJ a6 aB
 refine s1 a6 6 (.bool false) ?_; intro eK a7
 apply a5
 refine s_ (sqB a7 aB [] [] [(21, i6 (u0.length : Int)), (22, i6 0)] ?_); intro a8 a9
 apply b_
 have ba : Fr 121 [] [⟨0, [], .slice ao1 u0.length cap2⟩, ⟨1, [], i6 u1⟩, ⟨5, [], pt i 0⟩, ⟨21, [], i6 (u0.length : Int)⟩, ⟨22, [], i6 0⟩] a8 := a9.reg
 obtain ⟨c6, c7, c8, c9⟩ := c4
 refine lp (ι := Int) (fun s => [⟨0, [], .slice ao1 u0.length cap2⟩, ⟨1, [], i6 u1⟩, ⟨5, [], pt i 0⟩, ⟨21, [], i6 (u0.length : Int)⟩, ⟨22, [], i6 s⟩]) (fun s => [.row i (e25Mg u2 ao4 cap5) 25]) (fun s => Z) (fun s => c6 s) (fun s => c7 s) 0 c8 (by exact ba.region (by kernel_rfl) (by kernel_rfl)) (by exact aB) ?_
 rintro B da db dc bc bd
 have ah := c9 B da
 refine sqB bc bd [] [] [(23, .bool (decide (B < (u0.length : Int))))] ?_; intro eL Y
 apply s_
 refine cd Y (t := decide (B < (u0.length : Int))) (by kernel_rfl) (fun aC => ?_) (fun aC => ?_)
 · -- yes
  have dd := ah.1 aC
  refine k_ (s_ (b_ (sqB Y bd [] [] [(7, i6 B)] ?_))); intro eM bf
  refine sqH ?_; intro de bg
  refine bt bf bd 2 [] [] [(25, .slice ao1 u0.length cap2), (26, i6 B)] ?_; intro eN bh
  obtain ⟨df, bi⟩ := dd
  refine ix_ bh hs3 B df .i64 29 56 ?_; intro dg dh di v eO dj dk dl bj
  have ai := bi v dj
  obtain rfl : di = ([i6 v.From, i6 v.To, i6 v.F.Want, i6 v.F.Mask, .bool v.F.Long, i6 v.Add, i6 v.Every] : List Value) := dl
  refine s1 bj 28 (.pointer (some ⟨dg, dh + 6, none⟩)) ?_; intro eP bk
  refine z1 bk bd 29 dk 6 (i6 v.Every) rfl ?_; intro eQ bl
  refine s1 bl 30 (.bool (v.Every != 0)) ?_; intro eR aa
  apply bg
  refine cd aa (t := v.Every != 0) (by kernel_rfl) (fun aD => ?_) (fun aD => ?_)
  · -- yes
   have dm := ai.1 aD
   refine sqH ?_; intro dn bm
   refine fc aa bd (routed_fun  _ _ bd.fz) ?_; intro eS eT bn dp
   refine s1 bn 6 (.bool true) ?_; intro eU dq
   apply bm
   exact r_ (i_ (h_ (h_ (i_ (h_ (ra1 dq (.bool true) ⟨true, rfl, dm, dp.below⟩))))))
  · -- no
   have bo := ai.2 aD
   refine l_ (j_ (t_ (rgB aa bd [] [] [(22, i6 (w64 (B + 1)))] ?_))); intro eV dr
   exact d_ ⟨w64 (B + 1), bo.1, bo.2, (dr.region (by kernel_rfl) (by kernel_rfl)).anyβ _ (by kernel_rfl), bd.kp⟩
 · -- no
  have ds := ah.2 aC
  refine x_ (y_ (y_ (z_ (t_ (sqH ?_))))); intro dt bp
  refine bt Y bd 3 [0] [] [(34, .slice ao1 u0.length cap2), (35, i6 u1), (36, .agg (e25Mg u2 ao4 cap5).toArray)] ?_; intro eW bq
  obtain ⟨du, br⟩ := ds
  refine ck bq 8 #[.slice ao1 u0.length cap2, i6 u1, .agg (e25Mg u2 ao4 cap5).toArray] ?_
  refine (spread_fun u0 u1 u2 du ao1 cap2 ao4 cap5 _ _ hs3 hs6 bd.fz).mono ?_; rintro _ dv ⟨f, d, dw, rfl, hm⟩; refine ⟨_, rfl, ?_⟩; intro eX bs; have bu := bd.callZ hm; have aE := hm.ext.le
  replace hs3 := hs3.mono aE
  replace hs6 := hs6.mono aE
  have ab : Mem w.heap.size [] w Z [.own tyLine 42 f d (spreadS u0 u1 u2).1, .row i (e25Mg u2 ao4 cap5) 25] dw dv := bu
  have dx := br (ab.ownSmall 0 rfl)
  refine bt bs ab 5 [] [] [(8, .slice f (spreadS u0 u1 u2).1.length d), (9, i6 (spreadS u0 u1 u2).2)] ?_; intro eY bv
  apply bp
  refine sqH ?_; intro dy bw
  refine s1 bv 41 (.slice ao1 u0.length cap2) ?_; intro eZ bx
  obtain ⟨dz, bz⟩ := dx
  refine ck bx 9 #[.slice ao1 u0.length cap2] ?_
  refine (gnew_fun u0 dz ao1 cap2 _ _ hs3 ab.fz).mono ?_; rintro _ dA ⟨l, n, o, p, M, rfl, bA, bB, hm⟩; refine ⟨_, rfl, ?_⟩; intro e0 bC; have bD := ab.callZ hm; have aF := hm.ext.le
  replace hs6 := hs6.mono aF
  have aG : Mem w.heap.size [] w Z [.own tyLine 42 f d (spreadS u0 u1 u2).1, .row i (e25Mg u2 ao4 cap5) 25] M dA := bD
  have aj := bz (bA.small) (bB.small)
  refine bt bC aG 3 [] [] [(43, .agg #[.slice l (gnewS u0).1.Routes.length n, .slice o (gnewS u0).1.Last.length p]), (44, i6 (gnewS u0).2)] ?_; intro e1 bF
  refine nw bF aG pb [.slice none 0 0, .slice none 0 0] 37 ?_; intro q e2 e3 aH bG
  refine sx aH bG 0 [.slice l (gnewS u0).1.Routes.length n, .slice o (gnewS u0).1.Last.length p] 0 ?_; intro dB bH
  refine s1 aH 11 (i6 (gnewS u0).2) ?_; intro e4 bI
  have aI : Mem w.heap.size [] w Z [.row q [.slice l (gnewS u0).1.Routes.length n, .slice o (gnewS u0).1.Last.length p] 37, .own tyLine 42 f d (spreadS u0 u1 u2).1, .row i (e25Mg u2 ao4 cap5) 25] M dB := bH
  apply bw
  refine s_ (sqH ?_); intro dC bJ
  refine fc bI aI (routed_fun  _ _ aI.fz) ?_; intro e5 e6 bK S
  refine bt bK S 9 [] [48, 49, 50] [(54, .bool (((spreadS u0 u1 u2).2 != 0) || ((gnewS u0).2 != 0)))] ?_; intro e7 ac
  apply bJ
  refine cd ac (t := ((spreadS u0 u1 u2).2 != 0) || ((gnewS u0).2 != 0)) (by kernel_rfl) (fun aJ => ?_) (fun aJ => ?_)
  · -- yes
   have dD := aj.1 aJ
   refine sqH ?_; intro dE bL
   refine fc ac S (routed_fun  _ _ S.fz) ?_; intro e8 e9 bM dF
   refine s1 bM 6 (.bool true) ?_; intro fa dG
   apply bL
   exact r_ (h_ (ra1 dG (.bool true) ⟨true, rfl, dD, dF.below⟩))
  · -- no
   have dH := aj.2 aJ
   refine k_ (sqH ?_); intro dI bN
   refine mkm ac S (fun x : Spot => .agg #[i6 x.bus, i6 x.id]) (fun x : Bool => .bool x) (t := 40) (nog rfl _) rfl (by kernel_rfl) rfl ?_; intro g fb dJ bO bP
   have aK : Mem w.heap.size [] w Z [.map (fun x : Spot => .agg #[i6 x.bus, i6 x.id]) (fun x : Bool => .bool x) g ([] : List (Spot × Bool)), .row q [.slice l (gnewS u0).1.Routes.length n, .slice o (gnewS u0).1.Last.length p] 37, .own tyLine 42 f d (spreadS u0 u1 u2).1, .row i (e25Mg u2 ao4 cap5) 25] M dJ := bP
   refine s1 bO 12 (.map (some g)) ?_; intro fd bQ
   apply bN
   refine sqH ?_; intro dK bR
   refine bt bQ aK 3 [3] [] [(59, .agg #[i6 0, i6 u1, i6 u2.ID, .bool u2.Long, .bool u2.Fast, .bool u2.Remote, i6 u2.Size, .slice ao4 u2.Data.length cap5])] ?_; intro fe bS
   refine nw bS aK (fun b => .slice (sm b) 1 1) [i6 0, i6 u1, i6 u2.ID, .bool u2.Long, .bool u2.Fast, .bool u2.Remote, i6 u2.Size, .slice ao4 u2.Data.length cap5] 42 ?_; intro U ff bT bU bV
   refine s1 bU 13 (.slice (sm U) 1 1) ?_; intro bW bX
   apply bR
   refine s_ (b_ ?_)
   have bY : Fr 121 [] [⟨8, [], .slice f (spreadS u0 u1 u2).1.length d⟩, ⟨10, [], pt q 0⟩, ⟨12, [], .map (some g)⟩, ⟨13, [], .slice (sm U) 1 1⟩] bW := bX.reg
   have bZ : Mem w.heap.size [] w Z [.own tyLine 42 (sm U) 1 ([(⟨0, u1, u2⟩ : Line)] : List Line), .map (fun x : Spot => .agg #[i6 x.bus, i6 x.id]) (fun x : Bool => .bool x) g ([] : List (Spot × Bool)), .row q [.slice l (gnewS u0).1.Routes.length n, .slice o (gnewS u0).1.Last.length p] 37, .own tyLine 42 f d (spreadS u0 u1 u2).1, .row i (e25Mg u2 ao4 cap5) 25] M bT := bV.rowOwn (T := tyLine) (xs := ([(⟨0, u1, u2⟩ : Line)] : List Line)) 0 rfl (by decide) (by show 1 ≤ lim; decide) (RepAll.one (T := tyLine) (x := (⟨0, u1, u2⟩ : Line)) ⟨ao4, cap5, rfl, hs6⟩)
   have b0 : Mem w.heap.size [] w Z [.tail tyLine 42 (sm U) 1 ([(⟨0, u1, u2⟩ : Line)] : List Line), .map (fun x : Spot => .agg #[i6 x.bus, i6 x.id]) (fun x : Bool => .bool x) g ([] : List (Spot × Bool)), .row q [.slice l (gnewS u0).1.Routes.length n, .slice o (gnewS u0).1.Last.length p] 37, .own tyLine 42 f d (spreadS u0 u1 u2).1, .row i (e25Mg u2 ao4 cap5) 25] M bT := bZ.ownTail 0 rfl
   have b1 : Fr 121 [] [⟨8, [], .slice f (spreadS u0 u1 u2).1.length d⟩, ⟨10, [], pt q 0⟩, ⟨12, [], .map (some g)⟩, ⟨13, [], .slice (sm U) ([(⟨0, u1, u2⟩ : Line)] : List Line).length 1⟩] bW := bY.reg
   obtain ⟨dL, dM, dN, dO⟩ := dH
   refine lp (ι := (List Line) × (List (Spot × Bool)) × (Option Addr) × Nat × Fz) (fun s => [⟨8, [], .slice f (spreadS u0 u1 u2).1.length d⟩, ⟨10, [], pt q 0⟩, ⟨12, [], .map (some g)⟩, ⟨13, [], .slice s.2.2.1 s.1.length s.2.2.2.1⟩]) (fun s => [.tail tyLine 42 s.2.2.1 s.2.2.2.1 s.1, .map (fun x : Spot => .agg #[i6 x.bus, i6 x.id]) (fun x : Bool => .bool x) g s.2.1, .row q [.slice l (gnewS u0).1.Routes.length n, .slice o (gnewS u0).1.Last.length p] 37, .own tyLine 42 f d (spreadS u0 u1 u2).1, .row i (e25Mg u2 ao4 cap5) 25]) (fun s => s.2.2.2.2) (fun s => dL s.1 s.2.1 ∧ Fz.le M s.2.2.2.2) (fun s => dM s.1 s.2.1) ⟨([(⟨0, u1, u2⟩ : Line)] : List Line), ([] : List (Spot × Bool)), (sm U), 1, M⟩ ⟨dN, Fz.le.refl _⟩ (by exact b1.region (by kernel_rfl) (by kernel_rfl)) (by exact b0) ?_
   rintro ⟨h, j, C, D, G⟩ ⟨dP, E⟩ dQ dR b2 b3
   have ak := dO h j dP
   have aL := bA.mono E
   have aM := bB.mono E
   refine s_ (sqB b2 b3 [] [] [(63, .bool (decide ((h.length : Int) > 0)))] ?_); intro fh ad
   refine cd ad (t := decide ((h.length : Int) > 0)) (by kernel_rfl) (fun aN => ?_) (fun aN => ?_)
   · -- yes
    have dS := ak.1 aN
    refine k_ (b_ (sqH ?_)); intro dT b7
    refine s1 ad 64 (.slice C h.length D) ?_; intro fi b8
    obtain ⟨dU, b9⟩ := dS
    refine ixT b8 b3 0 (T := tyLine) (xs := h) (0 : Int) dU (k := .i64) (e := 42) (bytes := 64) (nog rfl _) rfl (by kernel_rfl) rfl (by kernel_rfl) (by kernel_rfl) rfl (by kernel_rfl) ?_; intro fj fk fl a fm dV dW dX ca
    have cb := b9 a dV
    obtain ⟨y, z, rfl, al⟩ := dW
    have dY := cb (al.small)
    refine lc2 ca 66 8 (e42Mg a y z) dX rfl ?_; intro fn cc
    refine nw cc b3 pb [i6 0, i6 0, i6 0, .bool false, .bool false, .bool false, i6 0, .slice none 0 0] 42 ?_; intro V fo fp aO ce
    refine sx aO ce 0 (e42Mg a y z) 0 ?_; intro cf cg
    have ch : Mem w.heap.size [] w Z [.row V (e42Mg a y z) 42, .tail tyLine 42 C D h, .map (fun x : Spot => .agg #[i6 x.bus, i6 x.id]) (fun x : Bool => .bool x) g j, .row q [.slice l (gnewS u0).1.Routes.length n, .slice o (gnewS u0).1.Last.length p] 37, .own tyLine 42 f d (spreadS u0 u1 u2).1, .row i (e25Mg u2 ao4 cap5) 25] G cf := cg
    apply b7
    refine sqH ?_; intro dZ ci
    refine s1 aO 67 (.slice C h.length D) ?_; intro fq cj
    obtain ⟨d0, am⟩ := dY
    refine tlD cj ch 1 (T := tyLine) (xs := h) (ao := C) (cap := D) (1 : Int) d0 (e := 42) (bytes := 64) (k := .i64) (nog rfl _) rfl (by kernel_rfl) rfl (by kernel_rfl) rfl (by kernel_rfl) (by kernel_rfl) ?_; intro H I fr cl cm
    have W : Mem w.heap.size [] w Z [.row V (e42Mg a y z) 42, .tail tyLine 42 H I (h.drop (1 : Int).toNat), .map (fun x : Spot => .agg #[i6 x.bus, i6 x.id]) (fun x : Bool => .bool x) g j, .row q [.slice l (gnewS u0).1.Routes.length n, .slice o (gnewS u0).1.Last.length p] 37, .own tyLine 42 f d (spreadS u0 u1 u2).1, .row i (e25Mg u2 ao4 cap5) 25] G cf := cm
    refine s1 cl 13 (.slice H (h.drop (1 : Int).toNat).length I) ?_; intro fs cn
    apply ci
    refine s_ (sqH ?_); intro d1 co
    refine bt cn W 7 [0, 0] [] [(69, .map (some g)), (75, .agg #[i6 a.Bus, i6 a.F.ID])] ?_; intro ft cp
    refine lk1 cp W 2 (m := j) (⟨a.Bus, a.F.ID⟩ : Spot) (false : Bool) (t := 40) (kt := 44) (et := 4) (nog rfl _) rfl (by kernel_rfl) rfl (by kernel_rfl) (by kernel_rfl) rfl mkSpot (by kernel_rfl) (by kernel_rfl) ?_; intro fu an
    apply co
    refine cd an (t := ((mget j (⟨a.Bus, a.F.ID⟩ : Spot)).getD (false : Bool))) (by kernel_rfl) (fun aP => ?_) (fun aP => ?_)
    · -- yes
     have cq := am.1 aP
     exact x_ (y_ (z_ (d_ ⟨⟨(h.drop (1 : Int).toNat), j, H, I, G⟩, ⟨cq.1, E⟩, cq.2, (an.region (by kernel_rfl) (by kernel_rfl)).anyβ _ (by kernel_rfl), W.kp⟩)))
    · -- no
     have cr := am.2 aP
     refine k_ (sqH ?_); intro d2 cs
     refine bt an W 7 [0, 0] [] [(77, .map (some g)), (83, .agg #[i6 a.Bus, i6 a.F.ID])] ?_; intro fv aQ
     refine mup aQ W 2 (m := j) (⟨a.Bus, a.F.ID⟩ : Spot) true (t := 40) (kt := 44) (et := 4) (nog rfl _) rfl rfl (by kernel_rfl) (by kernel_rfl) (by kernel_rfl) rfl mkSpot (by kernel_rfl) ?_; intro d3 ct
     have ap : Mem w.heap.size [] w Z [.row V (e42Mg a y z) 42, .tail tyLine 42 H I (h.drop (1 : Int).toNat), .map (fun x : Spot => .agg #[i6 x.bus, i6 x.id]) (fun x : Bool => .bool x) g (mput j (⟨a.Bus, a.F.ID⟩ : Spot) true), .row q [.slice l (gnewS u0).1.Routes.length n, .slice o (gnewS u0).1.Last.length p] 37, .own tyLine 42 f d (spreadS u0 u1 u2).1, .row i (e25Mg u2 ao4 cap5) 25] G d3 := ct
     apply cs
     refine sqH ?_; intro d4 cu
     refine bt aQ ap 5 [3, 0, 0] [] [(85, .agg #[.slice l (gnewS u0).1.Routes.length n, .slice o (gnewS u0).1.Last.length p]), (87, i6 a.Bus), (89, .agg (e25Mg a.F y z).toArray)] ?_; intro fw cv
     refine ck cv 10 #[.agg #[.slice l (gnewS u0).1.Routes.length n, .slice o (gnewS u0).1.Last.length p], i6 0, i6 a.Bus, .agg (e25Mg a.F y z).toArray] ?_
     refine (gstepf_fun (gnewS u0).1 0 a.Bus a.F l n o p y z _ _ aL aM al ap.fz).mono ?_; rintro _ d5 ⟨aq, ar, au, av, O, P, aw, rfl, d6, d7, hm⟩; refine ⟨_, rfl, ?_⟩; intro fx cw; have cx := ap.callZ hm; have Q := hm.ext.le
     replace E := E.mono Q
     have ax : Mem w.heap.size [] w Z [.own tyLine 42 O P (gstepS (gnewS u0).1 0 a.Bus a.F).2.1, .row V (e42Mg a y z) 42, .tail tyLine 42 H I (h.drop (1 : Int).toNat), .map (fun x : Spot => .agg #[i6 x.bus, i6 x.id]) (fun x : Bool => .bool x) g (mput j (⟨a.Bus, a.F.ID⟩ : Spot) true), .row q [.slice l (gnewS u0).1.Routes.length n, .slice o (gnewS u0).1.Last.length p] 37, .own tyLine 42 f d (spreadS u0 u1 u2).1, .row i (e25Mg u2 ao4 cap5) 25] aw d5 := cx
     have ay := cr (ax.ownSmall 0 rfl) (d6.small) (d7.small)
     refine bt cw ax 4 [] [] [(91, .agg #[.slice aq (gstepS (gnewS u0).1 0 a.Bus a.F).1.Routes.length ar, .slice au (gstepS (gnewS u0).1 0 a.Bus a.F).1.Last.length av]), (92, .slice O (gstepS (gnewS u0).1 0 a.Bus a.F).2.1.length P), (93, i6 (gstepS (gnewS u0).1 0 a.Bus a.F).2.2)] ?_; intro fy cA
     refine nw cA ax pb [.slice none 0 0, .slice none 0 0] 37 ?_; intro cB fA fB aR cC
     refine sx aR cC 0 [.slice aq (gstepS (gnewS u0).1 0 a.Bus a.F).1.Routes.length ar, .slice au (gstepS (gnewS u0).1 0 a.Bus a.F).1.Last.length av] 0 ?_; intro d8 aS
     refine bt aR aS 2 [] [] [(16, .slice O (gstepS (gnewS u0).1 0 a.Bus a.F).2.1.length P), (17, i6 (gstepS (gnewS u0).1 0 a.Bus a.F).2.2)] ?_; intro fC cD
     have R : Mem w.heap.size [] w Z [.row cB [.slice aq (gstepS (gnewS u0).1 0 a.Bus a.F).1.Routes.length ar, .slice au (gstepS (gnewS u0).1 0 a.Bus a.F).1.Last.length av] 37, .own tyLine 42 O P (gstepS (gnewS u0).1 0 a.Bus a.F).2.1, .row V (e42Mg a y z) 42, .tail tyLine 42 H I (h.drop (1 : Int).toNat), .map (fun x : Spot => .agg #[i6 x.bus, i6 x.id]) (fun x : Bool => .bool x) g (mput j (⟨a.Bus, a.F.ID⟩ : Spot) true), .row q [.slice l (gnewS u0).1.Routes.length n, .slice o (gnewS u0).1.Last.length p] 37, .own tyLine 42 f d (spreadS u0 u1 u2).1, .row i (e25Mg u2 ao4 cap5) 25] aw d8 := aS
     apply cu
     refine s_ (sqB cD R [] [] [(95, .bool ((gstepS (gnewS u0).1 0 a.Bus a.F).2.2 != 0))] ?_); intro fD ae
     refine cd ae (t := (gstepS (gnewS u0).1 0 a.Bus a.F).2.2 != 0) (by kernel_rfl) (fun aT => ?_) (fun aT => ?_)
     · -- yes
      have d9 := ay.1 aT
      refine sqB ae R [] [] [(6, .bool false)] ?_; intro fE ea
      exact r_ (h_ (i_ (h_ (i_ (h_ (ra1 ea (.bool false) ⟨false, rfl, d9, R.below⟩))))))
     · -- no
      have eb := ay.2 aT
      refine k_ (rgH ?_); intro ec cE
      refine bt ae R 2 [] [] [(96, .slice H (h.drop (1 : Int).toNat).length I), (97, .slice O (gstepS (gnewS u0).1 0 a.Bus a.F).2.1.length P)] ?_; intro fF cF
      obtain ⟨ed, cG⟩ := eb
      refine apT cF R 3 (T := tyLine) (xs := (h.drop (1 : Int).toNat)) (ys := (gstepS (gnewS u0).1 0 a.Bus a.F).2.1) (ao := H) (cap := I) (ao2 := O) (cap2 := P) (t := 31) (e := 42) (bytes := 64) (nog rfl _) rfl (by kernel_rfl) rfl (by kernel_rfl) (by kernel_rfl) (by kernel_rfl) rfl (Src.own R 1 rfl) ed ?_; intro aU aV fG ee cH cI
      have ef : Mem w.heap.size [] w Z [.row cB [.slice aq (gstepS (gnewS u0).1 0 a.Bus a.F).1.Routes.length ar, .slice au (gstepS (gnewS u0).1 0 a.Bus a.F).1.Last.length av] 37, .own tyLine 42 O P (gstepS (gnewS u0).1 0 a.Bus a.F).2.1, .row V (e42Mg a y z) 42, .tail tyLine 42 aU aV ((h.drop (1 : Int).toNat) ++ (gstepS (gnewS u0).1 0 a.Bus a.F).2.1), .map (fun x : Spot => .agg #[i6 x.bus, i6 x.id]) (fun x : Bool => .bool x) g (mput j (⟨a.Bus, a.F.ID⟩ : Spot) true), .row q [.slice l (gnewS u0).1.Routes.length n, .slice o (gnewS u0).1.Last.length p] 37, .own tyLine 42 f d (spreadS u0 u1 u2).1, .row i (e25Mg u2 ao4 cap5) 25] aw ee := cI
      refine s1 cH 13 (.slice aU ((h.drop (1 : Int).toNat) ++ (gstepS (gnewS u0).1 0 a.Bus a.F).2.1).length aV) ?_; intro fH eg
      apply cE
      exact j_ (d_ ⟨⟨(h.drop (1 : Int).toNat) ++ (gstepS (gnewS u0).1 0 a.Bus a.F).2.1, mput j (⟨a.Bus, a.F.ID⟩ : Spot) true, aU, aV, aw⟩, ⟨cG.1, E⟩, cG.2, (eg.region (by kernel_rfl) (by kernel_rfl)).anyβ _ (by kernel_rfl), ef.kp⟩)
   · -- no
    have eh := ak.2 aN
    refine x_ (y_ (y_ (z_ (t_ (s_ (sqB ad b3 [] [] [(99, .slice f (spreadS u0 u1 u2).1.length d), (100, i6 ((spreadS u0 u1 u2).1.length : Int)), (101, i6 0)] ?_)))))); intro cJ cK
    apply b_
    have cL : Fr 121 [] [⟨8, [], .slice f (spreadS u0 u1 u2).1.length d⟩, ⟨12, [], .map (some g)⟩, ⟨99, [], .slice f (spreadS u0 u1 u2).1.length d⟩, ⟨100, [], i6 ((spreadS u0 u1 u2).1.length : Int)⟩, ⟨101, [], i6 0⟩] cJ := cK.reg
    obtain ⟨ei, ej, ek, el⟩ := eh
    refine lp (ι := Int) (fun s => [⟨8, [], .slice f (spreadS u0 u1 u2).1.length d⟩, ⟨12, [], .map (some g)⟩, ⟨99, [], .slice f (spreadS u0 u1 u2).1.length d⟩, ⟨100, [], i6 ((spreadS u0 u1 u2).1.length : Int)⟩, ⟨101, [], i6 s⟩]) (fun s => [.tail tyLine 42 C D h, .map (fun x : Spot => .agg #[i6 x.bus, i6 x.id]) (fun x : Bool => .bool x) g j, .row q [.slice l (gnewS u0).1.Routes.length n, .slice o (gnewS u0).1.Last.length p] 37, .own tyLine 42 f d (spreadS u0 u1 u2).1, .row i (e25Mg u2 ao4 cap5) 25]) (fun s => G) (fun s => ei s) (fun s => ej s) 0 ek (by exact cL.region (by kernel_rfl) (by kernel_rfl)) (by exact b3) ?_
    rintro J em en eo cN cO
    have az := el J em
    refine sqB cN cO [] [] [(102, .bool (decide (J < ((spreadS u0 u1 u2).1.length : Int))))] ?_; intro fI af
    apply s_
    refine cd af (t := decide (J < ((spreadS u0 u1 u2).1.length : Int))) (by kernel_rfl) (fun aW => ?_) (fun aW => ?_)
    · -- yes
     have ep := az.1 aW
     refine k_ (s_ (b_ (sqH ?_))); intro eq cQ
     obtain ⟨er, cR⟩ := ep
     refine ixo af cO 3 (T := tyLine) (xs := (spreadS u0 u1 u2).1) J er (k := .i64) (e := 42) (bytes := 64) (nog rfl _) rfl (by kernel_rfl) rfl (by kernel_rfl) (by kernel_rfl) rfl (by kernel_rfl) ?_; intro es fJ eu cS
     subst eu
     obtain ⟨c, ev, cT⟩ := gxq cR (by first | omega | (simp only [List.length_set] at *; omega))
     obtain ⟨fK, ew, ex⟩ := own_el cO 3 (T := tyLine) (xs := (spreadS u0 u1 u2).1) rfl J.toNat ev
     obtain ⟨aX, aY, rfl, ey⟩ := ew
     have aA := cT (ey.small)
     refine lc2 cS 104 8 (e42Mg c aX aY) ex rfl ?_; intro fL cU
     refine nw cU cO pb [i6 0, i6 0, i6 0, .bool false, .bool false, .bool false, i6 0, .slice none 0 0] 42 ?_; intro ez fM fN aZ cV
     refine sx aZ cV 0 (e42Mg c aX aY) 0 ?_; intro eA cW
     have X : Mem w.heap.size [] w Z [.row ez (e42Mg c aX aY) 42, .tail tyLine 42 C D h, .map (fun x : Spot => .agg #[i6 x.bus, i6 x.id]) (fun x : Bool => .bool x) g j, .row q [.slice l (gnewS u0).1.Routes.length n, .slice o (gnewS u0).1.Last.length p] 37, .own tyLine 42 (sm es) d (spreadS u0 u1 u2).1, .row i (e25Mg u2 ao4 cap5) 25] G eA := cW
     apply cQ
     refine sqH ?_; intro eB cX
     refine bt aZ X 7 [0, 0] [] [(105, .map (some g)), (111, .agg #[i6 c.Bus, i6 c.F.ID])] ?_; intro fO cY
     refine lk1 cY X 2 (m := j) (⟨c.Bus, c.F.ID⟩ : Spot) (false : Bool) (t := 40) (kt := 44) (et := 4) (nog rfl _) rfl (by kernel_rfl) rfl (by kernel_rfl) (by kernel_rfl) rfl mkSpot (by kernel_rfl) (by kernel_rfl) ?_; intro fP cZ
     refine s1 cZ 113 (.bool (!((mget j (⟨c.Bus, c.F.ID⟩ : Spot)).getD (false : Bool)))) ?_; intro fQ ag
     apply cX
     refine cd ag (t := !((mget j (⟨c.Bus, c.F.ID⟩ : Spot)).getD (false : Bool))) (by kernel_rfl) (fun a1 => ?_) (fun a1 => ?_)
     · -- yes
      have eC := aA.1 a1
      refine sqB ag X [] [] [(6, .bool false)] ?_; intro fR eD
      exact r_ (i_ (h_ (h_ (i_ (h_ (ra1 eD (.bool false) ⟨false, rfl, eC, X.below⟩))))))
     · -- no
      have c0 := aA.2 a1
      refine l_ (j_ (t_ (rgB ag X [] [] [(101, i6 (w64 (J + 1)))] ?_))); intro fS eE
      exact d_ ⟨w64 (J + 1), c0.1, c0.2, (eE.region (by kernel_rfl) (by kernel_rfl)).anyβ _ (by kernel_rfl), X.kp⟩
    · -- no
     have eF := az.2 aW
     refine x_ (y_ (y_ (z_ (t_ (sqH ?_))))); intro eG c1
     refine s1 af 115 (.map (some g)) ?_; intro fT c2
     refine mln c2 cO 1 (t := 40) (kt := 44) (et := 4) (nog rfl _) rfl (by kernel_rfl) rfl (by kernel_rfl) rfl (by kernel_rfl) ?_; intro fU c3
     refine bt c3 cO 5 [] [] [(6, .bool ((j.length : Int) == (w64 (((spreadS u0 u1 u2).1.length : Int) + 1))))] ?_; intro fV eH
     apply c1
     exact r_ (ra1 eH (.bool ((j.length : Int) == (w64 (((spreadS u0 u1 u2).1.length : Int) + 1)))) ⟨(j.length : Int) == (w64 (((spreadS u0 u1 u2).1.length : Int) + 1)), rfl, eF, cO.below⟩)

end Go.Proofs.Ytmkdnaecmombnaa
