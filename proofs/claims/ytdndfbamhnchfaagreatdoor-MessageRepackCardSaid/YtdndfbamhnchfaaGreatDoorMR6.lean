/- Texts put together (pure ones, or walks made by program). -/
import Derived.Test.YtdndfbamhnchfaaGreatDoorMR0
import Derived.Test.YtdndfbamhnchfaaGreatDoorMR1
import Derived.Test.YtdndfbamhnchfaaGreatDoorMR2
import Derived.Test.YtdndfbamhnchfaaGreatDoorMR3
import Derived.Test.YtdndfbamhnchfaaGreatDoorMR4
import Derived.Test.YtdndfbamhnchfaaGreatDoorMR5
set_option linter.unusedVariables false
set_option linter.unusedSimpArgs false
set_option linter.defProp false
set_option maxRecDepth 100000
set_option maxHeartbeats 0
namespace Go.Proofs.YtdndfbamhnchfaaGreatDoor
open Go.Sy Go.RowKit
abbrev e46Mi (X : Signal) : List Value := [str X.Name, i6 X.Start, i6 X.Size, .bool X.Back, .bool X.Signed, i6 X.Mul, i6 X.Div, i6 X.Add, i6 X.Key]
abbrev e27Mi (X : Frame) (A0 : Option Addr) (C0 : Nat) : List Value := [i6 X.ID, .bool X.Long, .bool X.Fast, .bool X.Remote, i6 X.Size, .slice A0 X.Data.length C0]
abbrev e24Mi (X : Message) (A0 : Option Addr) (C0 : Nat) : List Value := [i6 X.ID, .bool X.Long, str X.Name, i6 X.Size, i6 X.Chooser, .slice A0 X.Signals.length C0]
abbrev e37Mi (X : Reading) : List Value := [str X.Name, i6 X.Num, i6 X.Den]
def rreads_fun (u0 : Message) (u1 : Frame) (hpre : mcheckS u0 = 0 ∧ isBytes u1.Data) (ao1 : Option Addr) (cap2 : Nat) (ao4 : Option Addr) (cap5 : Nat) (Z : Fz) (w : World) (hs3 : SlR tySignal Z ao1 cap2 u0.Signals) (hs6 : SlR t8 Z ao4 cap5 u1.Data) (hZ : Z.on w) := fc_ (rreads_walk u0 u1 ao1 cap2 ao4 cap5 Z w hs3 hs6 hZ (rreads_ok u0 u1 hpre))
def meant_fun   (Z : Fz) (w : World)  (hZ : Z.on w) := f_ (meant_walk   Z w  hZ (meant_ok ))
theorem rsame_walk (u0 : Frame) (u1 : Frame) (ao1 : Option Addr) (cap2 : Nat) (ao4 : Option Addr) (cap5 : Nat) (Z : Fz) (w : World) (hs3 : SlR t8 Z ao1 cap2 u0.Data) (hs6 : SlR t8 Z ao4 cap5 u1.Data) (hZ : Z.on w) {K : Bool → Prop} (hp : rsame_vc u0 u1 K) : Calls Tryz.prog 15 #[.agg #[i6 u0.ID, .bool u0.Long, .bool u0.Fast, .bool u0.Remote, i6 u0.Size, .slice ao1 u0.Data.length cap2], .agg #[i6 u1.ID, .bool u1.Long, .bool u1.Fast, .bool u1.Remote, i6 u1.Size, .slice ao4 u1.Data.length cap5]] w fun e w' => ∃ r : Bool, e = .returned (.bool r) ∧ K r ∧ Below w.heap.size w w' := by
 refine enter0 Tryz.func15 rfl rfl (by kernel_rfl) ?_; intro a0 z; have A := Mem.start w Z hZ
 have ao := hp (hs3.small) (hs6.small)
 refine sqH ?_; intro ap C
 refine nw z A pb (e27Mi u0 ao1 cap2) 27 ?_; intro c aw ax D E
 refine nw D E pb (e27Mi u1 ao4 cap5) 27 ?_; intro d ay az F a
 refine s1 F 4 (.bool false) ?_; intro aA G
 apply C
 refine sqH ?_; intro aq H
 refine s1 G 5 (pt c 0) ?_; intro aB I
 refine l1 I a 6 1 0 (i6 u0.ID) rfl rfl ?_; intro aC J
 refine s1 J 7 (pt d 0) ?_; intro aD L
 refine l1 L a 8 0 0 (i6 u1.ID) rfl rfl ?_; intro aE M
 refine s1 M 9 (.bool (u0.ID == u1.ID)) ?_; intro aF N
 refine s1 N 10 (.bool (u0.ID == u1.ID)) ?_; intro aG O
 have P := O.atom ((u0.ID == u1.ID) == true) (by kernel_rfl)
 refine gp P 11 0 [] (u0.ID == u1.ID) (pt c 1) rfl rfl ?_; intro aH f
 refine gd f (.bool u0.Long) (m := 0) (cj := []) (bj := u0.ID == u1.ID) rfl rfl (by kernel_rfl) rfl (by kernel_rfl) (by kernel_rfl) (by kernel_rfl) (fun hg => ld f a 1 (g := [0]) (b := c) (off := 1) (cs := (e27Mi u0 ao1 cap2)) (ty := 27) rfl (by kernel_rfl) (by kernel_rfl) (by kernel_rfl) (by kernel_rfl) hg) ?_; intro aI Q
 refine gp Q 13 0 [] (u0.ID == u1.ID) (pt d 1) rfl rfl ?_; intro aJ h
 refine gd h (.bool u1.Long) (m := 0) (cj := []) (bj := u0.ID == u1.ID) rfl rfl (by kernel_rfl) rfl (by kernel_rfl) (by kernel_rfl) (by kernel_rfl) (fun hg => ld h a 0 (g := [0]) (b := d) (off := 1) (cs := (e27Mi u1 ao4 cap5)) (ty := 27) rfl (by kernel_rfl) (by kernel_rfl) (by kernel_rfl) (by kernel_rfl) hg) ?_; intro aK R
 refine gp R 15 0 [] (u0.ID == u1.ID) (.bool (u0.Long == u1.Long)) rfl rfl ?_; intro aL i
 refine u_ i (.bool ((u0.ID == u1.ID) && (u0.Long == u1.Long))) (pk_and i (g := []) (m := 0) (b := u0.ID == u1.ID) (v := u0.Long == u1.Long) rfl (by kernel_rfl) (by kernel_rfl) (by kernel_rfl) rfl) ?_; intro aM S
 refine s1 S 17 (.bool ((u0.ID == u1.ID) && (u0.Long == u1.Long))) ?_; intro aN T
 have U := T.atom (((u0.ID == u1.ID) && (u0.Long == u1.Long)) == true) (by kernel_rfl)
 refine gp U 18 1 [] ((u0.ID == u1.ID) && (u0.Long == u1.Long)) (pt c 2) rfl rfl ?_; intro aO j
 refine gd j (.bool u0.Fast) (m := 1) (cj := []) (bj := (u0.ID == u1.ID) && (u0.Long == u1.Long)) rfl rfl (by kernel_rfl) rfl (by kernel_rfl) (by kernel_rfl) (by kernel_rfl) (fun hg => ld j a 1 (g := [1]) (b := c) (off := 2) (cs := (e27Mi u0 ao1 cap2)) (ty := 27) rfl (by kernel_rfl) (by kernel_rfl) (by kernel_rfl) (by kernel_rfl) hg) ?_; intro aP V
 refine gp V 20 1 [] ((u0.ID == u1.ID) && (u0.Long == u1.Long)) (pt d 2) rfl rfl ?_; intro aQ k
 refine gd k (.bool u1.Fast) (m := 1) (cj := []) (bj := (u0.ID == u1.ID) && (u0.Long == u1.Long)) rfl rfl (by kernel_rfl) rfl (by kernel_rfl) (by kernel_rfl) (by kernel_rfl) (fun hg => ld k a 0 (g := [1]) (b := d) (off := 2) (cs := (e27Mi u1 ao4 cap5)) (ty := 27) rfl (by kernel_rfl) (by kernel_rfl) (by kernel_rfl) (by kernel_rfl) hg) ?_; intro aR W
 refine gp W 22 1 [] ((u0.ID == u1.ID) && (u0.Long == u1.Long)) (.bool (u0.Fast == u1.Fast)) rfl rfl ?_; intro aS l
 refine u_ l (.bool (((u0.ID == u1.ID) && (u0.Long == u1.Long)) && (u0.Fast == u1.Fast))) (pk_and l (g := []) (m := 1) (b := (u0.ID == u1.ID) && (u0.Long == u1.Long)) (v := u0.Fast == u1.Fast) rfl (by kernel_rfl) (by kernel_rfl) (by kernel_rfl) rfl) ?_; intro aT X
 refine s1 X 24 (.bool (((u0.ID == u1.ID) && (u0.Long == u1.Long)) && (u0.Fast == u1.Fast))) ?_; intro aU Y
 have aa := Y.atom ((((u0.ID == u1.ID) && (u0.Long == u1.Long)) && (u0.Fast == u1.Fast)) == true) (by kernel_rfl)
 refine gp aa 25 2 [] (((u0.ID == u1.ID) && (u0.Long == u1.Long)) && (u0.Fast == u1.Fast)) (pt c 3) rfl rfl ?_; intro aV n
 refine gd n (.bool u0.Remote) (m := 2) (cj := []) (bj := ((u0.ID == u1.ID) && (u0.Long == u1.Long)) && (u0.Fast == u1.Fast)) rfl rfl (by kernel_rfl) rfl (by kernel_rfl) (by kernel_rfl) (by kernel_rfl) (fun hg => ld n a 1 (g := [2]) (b := c) (off := 3) (cs := (e27Mi u0 ao1 cap2)) (ty := 27) rfl (by kernel_rfl) (by kernel_rfl) (by kernel_rfl) (by kernel_rfl) hg) ?_; intro aW ab
 refine gp ab 27 2 [] (((u0.ID == u1.ID) && (u0.Long == u1.Long)) && (u0.Fast == u1.Fast)) (pt d 3) rfl rfl ?_; intro aX o
 refine gd o (.bool u1.Remote) (m := 2) (cj := []) (bj := ((u0.ID == u1.ID) && (u0.Long == u1.Long)) && (u0.Fast == u1.Fast)) rfl rfl (by kernel_rfl) rfl (by kernel_rfl) (by kernel_rfl) (by kernel_rfl) (fun hg => ld o a 0 (g := [2]) (b := d) (off := 3) (cs := (e27Mi u1 ao4 cap5)) (ty := 27) rfl (by kernel_rfl) (by kernel_rfl) (by kernel_rfl) (by kernel_rfl) hg) ?_; intro aY ac
 refine gp ac 29 2 [] (((u0.ID == u1.ID) && (u0.Long == u1.Long)) && (u0.Fast == u1.Fast)) (.bool (u0.Remote == u1.Remote)) rfl rfl ?_; intro aZ p
 refine u_ p (.bool ((((u0.ID == u1.ID) && (u0.Long == u1.Long)) && (u0.Fast == u1.Fast)) && (u0.Remote == u1.Remote))) (pk_and p (g := []) (m := 2) (b := ((u0.ID == u1.ID) && (u0.Long == u1.Long)) && (u0.Fast == u1.Fast)) (v := u0.Remote == u1.Remote) rfl (by kernel_rfl) (by kernel_rfl) (by kernel_rfl) rfl) ?_; intro a1 ad
 refine s1 ad 31 (.bool ((((u0.ID == u1.ID) && (u0.Long == u1.Long)) && (u0.Fast == u1.Fast)) && (u0.Remote == u1.Remote))) ?_; intro a2 ae
 have af := ae.atom (((((u0.ID == u1.ID) && (u0.Long == u1.Long)) && (u0.Fast == u1.Fast)) && (u0.Remote == u1.Remote)) == true) (by kernel_rfl)
 refine gp af 32 3 [] ((((u0.ID == u1.ID) && (u0.Long == u1.Long)) && (u0.Fast == u1.Fast)) && (u0.Remote == u1.Remote)) (pt c 4) rfl rfl ?_; intro a3 q
 refine gd q (i6 u0.Size) (m := 3) (cj := []) (bj := (((u0.ID == u1.ID) && (u0.Long == u1.Long)) && (u0.Fast == u1.Fast)) && (u0.Remote == u1.Remote)) rfl rfl (by kernel_rfl) rfl (by kernel_rfl) (by kernel_rfl) (by kernel_rfl) (fun hg => ld q a 1 (g := [3]) (b := c) (off := 4) (cs := (e27Mi u0 ao1 cap2)) (ty := 27) rfl (by kernel_rfl) (by kernel_rfl) (by kernel_rfl) (by kernel_rfl) hg) ?_; intro a4 ag
 refine gp ag 34 3 [] ((((u0.ID == u1.ID) && (u0.Long == u1.Long)) && (u0.Fast == u1.Fast)) && (u0.Remote == u1.Remote)) (pt d 4) rfl rfl ?_; intro a5 s
 refine gd s (i6 u1.Size) (m := 3) (cj := []) (bj := (((u0.ID == u1.ID) && (u0.Long == u1.Long)) && (u0.Fast == u1.Fast)) && (u0.Remote == u1.Remote)) rfl rfl (by kernel_rfl) rfl (by kernel_rfl) (by kernel_rfl) (by kernel_rfl) (fun hg => ld s a 0 (g := [3]) (b := d) (off := 4) (cs := (e27Mi u1 ao4 cap5)) (ty := 27) rfl (by kernel_rfl) (by kernel_rfl) (by kernel_rfl) (by kernel_rfl) hg) ?_; intro a6 ah
 refine gp ah 36 3 [] ((((u0.ID == u1.ID) && (u0.Long == u1.Long)) && (u0.Fast == u1.Fast)) && (u0.Remote == u1.Remote)) (.bool (u0.Size == u1.Size)) rfl rfl ?_; intro a7 t
 refine u_ t (.bool (((((u0.ID == u1.ID) && (u0.Long == u1.Long)) && (u0.Fast == u1.Fast)) && (u0.Remote == u1.Remote)) && (u0.Size == u1.Size))) (pk_and t (g := []) (m := 3) (b := (((u0.ID == u1.ID) && (u0.Long == u1.Long)) && (u0.Fast == u1.Fast)) && (u0.Remote == u1.Remote)) (v := u0.Size == u1.Size) rfl (by kernel_rfl) (by kernel_rfl) (by kernel_rfl) rfl) ?_; intro a8 ai
 refine s1 ai 38 (.bool (((((u0.ID == u1.ID) && (u0.Long == u1.Long)) && (u0.Fast == u1.Fast)) && (u0.Remote == u1.Remote)) && (u0.Size == u1.Size))) ?_; intro a9 aj
 have ak := aj.atom ((((((u0.ID == u1.ID) && (u0.Long == u1.Long)) && (u0.Fast == u1.Fast)) && (u0.Remote == u1.Remote)) && (u0.Size == u1.Size)) == true) (by kernel_rfl)
 refine gp ak 39 4 [] (((((u0.ID == u1.ID) && (u0.Long == u1.Long)) && (u0.Fast == u1.Fast)) && (u0.Remote == u1.Remote)) && (u0.Size == u1.Size)) (pt c 5) rfl rfl ?_; intro ba u
 refine gd u (.slice ao1 u0.Data.length cap2) (m := 4) (cj := []) (bj := ((((u0.ID == u1.ID) && (u0.Long == u1.Long)) && (u0.Fast == u1.Fast)) && (u0.Remote == u1.Remote)) && (u0.Size == u1.Size)) rfl rfl (by kernel_rfl) rfl (by kernel_rfl) (by kernel_rfl) (by kernel_rfl) (fun hg => ld u a 1 (g := [4]) (b := c) (off := 5) (cs := (e27Mi u0 ao1 cap2)) (ty := 27) rfl (by kernel_rfl) (by kernel_rfl) (by kernel_rfl) (by kernel_rfl) hg) ?_; intro bb al
 refine gp al 41 4 [] (((((u0.ID == u1.ID) && (u0.Long == u1.Long)) && (u0.Fast == u1.Fast)) && (u0.Remote == u1.Remote)) && (u0.Size == u1.Size)) (pt d 5) rfl rfl ?_; intro bc x
 refine gd x (.slice ao4 u1.Data.length cap5) (m := 4) (cj := []) (bj := ((((u0.ID == u1.ID) && (u0.Long == u1.Long)) && (u0.Fast == u1.Fast)) && (u0.Remote == u1.Remote)) && (u0.Size == u1.Size)) rfl rfl (by kernel_rfl) rfl (by kernel_rfl) (by kernel_rfl) (by kernel_rfl) (fun hg => ld x a 0 (g := [4]) (b := d) (off := 5) (cs := (e27Mi u1 ao4 cap5)) (ty := 27) rfl (by kernel_rfl) (by kernel_rfl) (by kernel_rfl) (by kernel_rfl) hg) ?_; intro bd am
 refine gcl am a (.bool (beqS u0.Data u1.Data)) 32 #[.slice ao1 u0.Data.length cap2, .slice ao4 u1.Data.length cap5] (m := 4) (cj := []) (bj := ((((u0.ID == u1.ID) && (u0.Long == u1.Long)) && (u0.Fast == u1.Fast)) && (u0.Remote == u1.Remote)) && (u0.Size == u1.Size)) rfl rfl (by kernel_rfl) rfl (by kernel_rfl) (by kernel_rfl) (by kernel_rfl) (fun _ => by kernel_rfl) (fun hg => beq_fun u0.Data u1.Data ao1 cap2 ao4 cap5 _ _ hs3 hs6 a.fz) ?_; intro be bf y ar
 refine u_ y (.bool ((((((u0.ID == u1.ID) && (u0.Long == u1.Long)) && (u0.Fast == u1.Fast)) && (u0.Remote == u1.Remote)) && (u0.Size == u1.Size)) && (beqS u0.Data u1.Data))) (pk_and y (g := []) (m := 4) (b := ((((u0.ID == u1.ID) && (u0.Long == u1.Long)) && (u0.Fast == u1.Fast)) && (u0.Remote == u1.Remote)) && (u0.Size == u1.Size)) (v := (beqS u0.Data u1.Data)) rfl (by kernel_rfl) (by kernel_rfl) (by kernel_rfl) rfl) ?_; intro bg an
 refine s1 an 4 (.bool ((((((u0.ID == u1.ID) && (u0.Long == u1.Long)) && (u0.Fast == u1.Fast)) && (u0.Remote == u1.Remote)) && (u0.Size == u1.Size)) && (beqS u0.Data u1.Data))) ?_; intro bh au
 apply H
 exact r_ (ra1 au (.bool ((((((u0.ID == u1.ID) && (u0.Long == u1.Long)) && (u0.Fast == u1.Fast)) && (u0.Remote == u1.Remote)) && (u0.Size == u1.Size)) && (beqS u0.Data u1.Data))) ⟨(((((u0.ID == u1.ID) && (u0.Long == u1.Long)) && (u0.Fast == u1.Fast)) && (u0.Remote == u1.Remote)) && (u0.Size == u1.Size)) && (beqS u0.Data u1.Data), rfl, ao, ar.below⟩)
theorem mrepack_walk (u0 : Message) (u1 : Message) (u2 : Frame) (ao1 : Option Addr) (cap2 : Nat) (ao4 : Option Addr) (cap5 : Nat) (ao7 : Option Addr) (cap8 : Nat) (Z : Fz) (w : World) (hs3 : SlR tySignal Z ao1 cap2 u0.Signals) (hs6 : SlR tySignal Z ao4 cap5 u1.Signals) (hs9 : SlR t8 Z ao7 cap8 u2.Data) (hZ : Z.on w) {K : (Frame × Int) → Prop} (hp : mrepack_vc u0 u1 u2 K) : Calls Tryz.prog 16 #[.agg #[i6 u0.ID, .bool u0.Long, str u0.Name, i6 u0.Size, i6 u0.Chooser, .slice ao1 u0.Signals.length cap2], .agg #[i6 u1.ID, .bool u1.Long, str u1.Name, i6 u1.Size, i6 u1.Chooser, .slice ao4 u1.Signals.length cap5], .agg #[i6 u2.ID, .bool u2.Long, .bool u2.Fast, .bool u2.Remote, i6 u2.Size, .slice ao7 u2.Data.length cap8]] w fun e w' => ∃ (r : Frame × Int) (ao1001 : Option Addr) (cap1002 : Nat) (Z' : Fz), e = .returned (.tuple #[.agg #[i6 r.1.ID, .bool r.1.Long, .bool r.1.Fast, .bool r.1.Remote, i6 r.1.Size, .slice ao1001 r.1.Data.length cap1002], i6 r.2]) ∧ K r ∧ SlR t8 Z' ao1001 cap1002 r.1.Data ∧ Mem w.heap.size [] w Z [] Z' w' := by
 refine enter0 Tryz.func16 rfl rfl (by kernel_rfl) ?_; intro a0 b0; have b1 := Mem.start w Z hZ
 have aC := hp (hs3.small) (hs6.small) (hs9.small)
 refine sqH ?_; intro e3 b4
 refine nw b0 b1 pb (e24Mi u0 ao1 cap2) 24 ?_; intro u hL hM b5 b6
 refine nw b5 b6 pb (e24Mi u1 ao4 cap5) 24 ?_; intro p hN hO b7 b8
 refine nw b7 b8 pb (e27Mi u2 ao7 cap8) 27 ?_; intro x hP hQ b9 ca
 refine nw b9 ca pb [i6 0, .bool false, .bool false, .bool false, i6 0, .slice none 0 0] 27 ?_; intro n hR hS cb aD
 refine s1 cb 7 (i6 0) ?_; intro hT cc
 apply b4
 refine s_ (sqH ?_); intro e4 ce
 refine l2 cc aD 15 2 0 6 (e24Mi u1 ao4 cap5) rfl rfl ?_; intro hU cf
 refine fc cf aD (mcheck_fun u1 ao4 cap5 _ _ hs6 aD.fz) ?_; intro hV hW cg P
 refine s1 cg 8 (i6 (mcheckS u1)) ?_; intro hX ch
 apply ce
 refine sqB ch P [] [] [(18, .bool ((mcheckS u1) != 0))] ?_; intro hY aw
 refine c_ aw aC (fun _ e5 => ?_) fun _ e8 => ?_
 ·
  refine sqH ?_; intro e6 ci
  refine bt aw P 2 [] [] [(19, .agg #[i6 0, .bool false, .bool false, .bool false, i6 0, .slice none 0 0]), (20, i6 (mcheckS u1))] ?_; intro h0 be
  refine sx be P 0 [i6 0, .bool false, .bool false, .bool false, i6 0, .slice none 0 0] 0 ?_; intro e7 cj
  refine s1 be 7 (i6 (mcheckS u1)) ?_; intro h1 cl
  have cm : Mem w.heap.size [] w Z [.row n [i6 0, .bool false, .bool false, .bool false, i6 0, .slice none 0 0] 27, .row x (e27Mi u2 ao7 cap8) 27, .row p (e24Mi u1 ao4 cap5) 24, .row u (e24Mi u0 ao1 cap2) 24] Z e7 := cj
  apply ci
  refine r_ (h_ (rt (fn := Tryz.f16) (v := .tuple #[.agg #[i6 0, .bool false, .bool false, .bool false, i6 0, .slice none 0 0], i6 (mcheckS u1)]) cl (re2c cl (fn := Tryz.f16) rfl (ad := ⟨n, 0, none⟩) (by kernel_rfl) (loadVar_run cm 0 (b := n) (k := 6) (vs := [i6 0, .bool false, .bool false, .bool false, i6 0, .slice none 0 0]) (ty := 27) rfl (by kernel_rfl) (by kernel_rfl)) (by kernel_rfl)) ?_))
  exact ⟨((⟨0, false, false, false, 0, []⟩ : Frame), (mcheckS u1)), none, 0, Z, rfl, e5, (SlR.nil _ _), cm.kp⟩
 refine k_ (sqH ?_); intro e9 cn
 refine bt aw P 2 [3, 1] [] [(22, .agg (e24Mi u0 ao1 cap2).toArray), (23, .agg (e27Mi u2 ao7 cap8).toArray)] ?_; intro h2 co
 obtain ⟨fa, cp⟩ := e8
 refine ck co 6 #[.agg (e24Mi u0 ao1 cap2).toArray, .agg (e27Mi u2 ao7 cap8).toArray] ?_
 refine (mread_fun u0 u2 fa ao1 cap2 ao7 cap8 _ _ hs3 hs9 P.fz).mono ?_; rintro _ fb ⟨m, g, G, rfl, hm⟩; refine ⟨_, rfl, ?_⟩; intro h3 cq; have cr := P.callZ hm; have aE := hm.ext.le
 replace hs6 := hs6.mono aE
 have aF : Mem w.heap.size [] w Z [.own tyReading 37 m g (readS u0 u2).1, .row n [i6 0, .bool false, .bool false, .bool false, i6 0, .slice none 0 0] 27, .row x (e27Mi u2 ao7 cap8) 27, .row p (e24Mi u1 ao4 cap5) 24, .row u (e24Mi u0 ao1 cap2) 24] G fb := cr
 have aG := cp (aF.ownSmall 0 rfl)
 refine bt cq aF 3 [] [] [(25, .slice m (readS u0 u2).1.length g), (26, i6 (readS u0 u2).2)] ?_; intro h4 cs
 refine nw cs aF pb [.slice none 0 0] 28 ?_; intro o h5 h6 bf ct
 refine sx bf ct 0 [.slice m (readS u0 u2).1.length g] 0 ?_; intro fd cu
 refine s1 bf 10 (i6 (readS u0 u2).2) ?_; intro h7 cv
 have ak : Mem w.heap.size [] w Z [.row o [.slice m (readS u0 u2).1.length g] 28, .own tyReading 37 m g (readS u0 u2).1, .row n [i6 0, .bool false, .bool false, .bool false, i6 0, .slice none 0 0] 27, .row x (e27Mi u2 ao7 cap8) 27, .row p (e24Mi u1 ao4 cap5) 24, .row u (e24Mi u0 ao1 cap2) 24] G fd := cu
 apply cn
 refine s_ (sqB cv ak [] [] [(28, .bool ((readS u0 u2).2 != 0))] ?_); intro fe ax
 refine c_ ax aG (fun _ ff => ?_) fun _ fi => ?_
 ·
  refine sqH ?_; intro fg cw
  refine bt ax ak 2 [] [] [(29, .agg #[i6 0, .bool false, .bool false, .bool false, i6 0, .slice none 0 0]), (30, i6 (readS u0 u2).2)] ?_; intro h8 bh
  refine sx bh ak 2 [i6 0, .bool false, .bool false, .bool false, i6 0, .slice none 0 0] 0 ?_; intro fh cx
  refine s1 bh 7 (i6 (readS u0 u2).2) ?_; intro h9 cy
  have cz : Mem w.heap.size [] w Z [.row o [.slice m (readS u0 u2).1.length g] 28, .own tyReading 37 m g (readS u0 u2).1, .row n [i6 0, .bool false, .bool false, .bool false, i6 0, .slice none 0 0] 27, .row x (e27Mi u2 ao7 cap8) 27, .row p (e24Mi u1 ao4 cap5) 24, .row u (e24Mi u0 ao1 cap2) 24] G fh := cx
  apply cw
  refine r_ (h_ (rt (fn := Tryz.f16) (v := .tuple #[.agg #[i6 0, .bool false, .bool false, .bool false, i6 0, .slice none 0 0], i6 (readS u0 u2).2]) cy (re2c cy (fn := Tryz.f16) rfl (ad := ⟨n, 0, none⟩) (by kernel_rfl) (loadVar_run cz 2 (b := n) (k := 6) (vs := [i6 0, .bool false, .bool false, .bool false, i6 0, .slice none 0 0]) (ty := 27) rfl (by kernel_rfl) (by kernel_rfl)) (by kernel_rfl)) ?_))
  exact ⟨((⟨0, false, false, false, 0, []⟩ : Frame), (readS u0 u2).2), none, 0, G, rfl, ff, (SlR.nil _ _), cz.kp⟩
 apply k_
 have cA : Fr 75 [] [⟨4, [], pt p 0⟩, ⟨6, [], pt n 0⟩, ⟨9, [], pt o 0⟩] fe := ax.reg
 refine wp_seq (rgF mixed ak [0, 1, 2, 3, 4, 5] [6, 7, 9] [8] [4] [.row p (e24Mi u1 ao4 cap5) 24] ?_)
 intro fj cB fk cC
 have aa := Fz.le.refl G
 refine cS cA 6 [0, 0, 0] [] [(32, i6 u1.ID), (34, .bool u1.Long), (36, i6 u1.Size)] ?_; intro ia cD
 refine nS ⟨[⟨8, 11, fun b => pt b 0, [i6 0, .bool false, .bool false, .bool false, i6 0, .slice none 0 0], 27⟩], rfl, ?_⟩; intro fl fm fo
 have cE : Mem w.heap.size [] w Z ((.row o [.slice m (readS u0 u2).1.length g] 28) :: (.own tyReading 37 m g (readS u0 u2).1) :: (.row n [i6 0, .bool false, .bool false, .bool false, i6 0, .slice none 0 0] 27) :: (.row x (e27Mi u2 ao7 cap8) 27) :: (.row p (e24Mi u1 ao4 cap5) 24) :: (.row u (e24Mi u0 ao1 cap2) 24) :: (rowsF fl ++ [])) G fk := by rw [fo]; exact cC
 refine eF 6 [4] [] fm cD cE aa (fO fN) ?_; intro fp ib ic fq cF cG fr cH
 obtain ⟨id, fs⟩ := fi
 refine mks cF cG (T := t8) u1.Size u1.Size (k := .i64) (k' := .i64) (e := 5) (bytes := 1) (zs := [y8 0]) (z := 0) (by simp only [lim]; omega) (nog rfl _) rfl (by kernel_rfl) rfl (by kernel_rfl) (by kernel_rfl) (by kernel_rfl) (by kernel_rfl) rfl ?_; intro l ie ft cI cJ
 have bi : Mem w.heap.size [] w Z ((.own t8 5 (sm l) u1.Size.toNat (List.replicate u1.Size.toNat (0 : Int))) :: (.row o [.slice m (readS u0 u2).1.length g] 28) :: (.own tyReading 37 m g (readS u0 u2).1) :: (.row n [i6 0, .bool false, .bool false, .bool false, i6 0, .slice none 0 0] 27) :: (.row x (e27Mi u2 ao7 cap8) 27) :: (.row p (e24Mi u1 ao4 cap5) 24) :: (.row u (e24Mi u0 ao1 cap2) 24) :: (rowsF fp ++ [])) G ft := cJ
 refine nl (qnI (cH _ _ (fun _ => bi.cst aa [5]) ?_))
 refine eF 7 [5] [] fq cI bi aa (fO fN) ?_; intro ig ih ii fu cK bj fv cL
 refine s1 cK 38 (.agg #[i6 u1.ID, .bool u1.Long, .bool false, .bool false, i6 0, .slice (sm l) (List.replicate u1.Size.toNat (0 : Int)).length u1.Size.toNat]) ?_; intro ij cM
 refine nl (qnI (cL _ _ (fun _ => bj.cst aa [5]) ?_))
 refine tkF 0 7 [5] [] fu cM bj aa (fO fN) ?_; intro h ik il im cN cO cP
 obtain rfl := nilF cN
 refine eF 8 [6] [] cN cO cP aa fN ?_; intro io ip iq cQ bk cR fw cT
 obtain rfl := nilF cQ
 refine sx bk cR 0 [i6 u1.ID, .bool u1.Long, .bool false, .bool false, i6 0, .slice (sm l) (List.replicate u1.Size.toNat (0 : Int)).length u1.Size.toNat] 0 ?_; intro fx cU
 have L : Mem w.heap.size [] w Z [.row h [i6 u1.ID, .bool u1.Long, .bool false, .bool false, i6 0, .slice (sm l) (List.replicate u1.Size.toNat (0 : Int)).length u1.Size.toNat] 27, .own t8 5 (sm l) u1.Size.toNat (List.replicate u1.Size.toNat (0 : Int)), .row o [.slice m (readS u0 u2).1.length g] 28, .own tyReading 37 m g (readS u0 u2).1, .row n [i6 0, .bool false, .bool false, .bool false, i6 0, .slice none 0 0] 27, .row x (e27Mi u2 ao7 cap8) 27, .row p (e24Mi u1 ao4 cap5) 24, .row u (e24Mi u0 ao1 cap2) 24] G fx := cU
 refine nl (qnI (cT _ _ (fun _ => L.cst aa [6]) ?_))
 refine nF cQ (cB _ _ ?_)
 refine t_ (sqB bk L [] [] [(12, .func (.func 41) #[] #[pt o 0, pt h 0])] ?_); intro ir cV
 refine s_ (sqB cV L [6] [] [(42, .bool (decide (u1.Chooser ≥ 0)))] ?_); intro cW cX
 have cY : Fr 75 [] [⟨4, [], pt p 0⟩, ⟨6, [], pt n 0⟩, ⟨11, [], pt h 0⟩, ⟨12, [], .func (.func 41) #[] #[pt o 0, pt h 0]⟩, ⟨42, [], .bool (decide (u1.Chooser ≥ 0))⟩] cW := cX.reg
 obtain ⟨fy, aH, fA⟩ := fs
 refine wp_then_k fun KJ193 hKJ194 => ?_
 have cZ : ∀ (al : List Int) (ab : Fz), fy al ∧ Fz.le G ab → ∀ a1 w1, Fr 75 [] [⟨4, [], pt p 0⟩, ⟨6, [], pt n 0⟩, ⟨11, [], pt h 0⟩, ⟨12, [], .func (.func 41) #[] #[pt o 0, pt h 0]⟩] a1 → Mem w.heap.size [] w Z [.row h [i6 u1.ID, .bool u1.Long, .bool false, .bool false, i6 0, .slice (sm l) al.length u1.Size.toNat] 27, .own t8 5 (sm l) u1.Size.toNat al, .row o [.slice m (readS u0 u2).1.length g] 28, .own tyReading 37 m g (readS u0 u2).1, .row n [i6 0, .bool false, .bool false, .bool false, i6 0, .slice none 0 0] 27, .row x (e27Mi u2 ao7 cap8) 27, .row p (e24Mi u1 ao4 cap5) 24, .row u (e24Mi u0 ao1 cap2) 24] ab w1 → KJ193 a1 w1 := by
  rintro al ab ⟨fB, am⟩ it iu c0 aI
  refine hKJ194 _ _ ?_
  have fC := fA al fB
  have c2 := hs6.mono am
  refine s_ (sqB c0 aI [6] [] [(52, .slice ao4 u1.Signals.length cap5), (53, i6 (u1.Signals.length : Int)), (54, i6 0)] ?_); intro aJ c4
  have c5 : Fr 75 [] [⟨4, [], pt p 0⟩, ⟨6, [], pt n 0⟩, ⟨11, [], pt h 0⟩, ⟨12, [], .func (.func 41) #[] #[pt o 0, pt h 0]⟩, ⟨52, [], .slice ao4 u1.Signals.length cap5⟩, ⟨53, [], i6 (u1.Signals.length : Int)⟩, ⟨54, [], i6 0⟩] aJ := c4.reg
  obtain ⟨fD, fE, fF⟩ := fC
  refine wp_then_k fun KJ219 hKJ220 => ?_
  have fG : ∀ (q : List Int) (aK : Fz), fD q ∧ Fz.le ab aK → ∀ a1 w1, Fr 75 [] [⟨6, [], pt n 0⟩, ⟨11, [], pt h 0⟩] a1 → Mem w.heap.size [] w Z [.row h [i6 u1.ID, .bool u1.Long, .bool false, .bool false, i6 0, .slice (sm l) q.length u1.Size.toNat] 27, .own t8 5 (sm l) u1.Size.toNat q, .row o [.slice m (readS u0 u2).1.length g] 28, .own tyReading 37 m g (readS u0 u2).1, .row n [i6 0, .bool false, .bool false, .bool false, i6 0, .slice none 0 0] 27, .row x (e27Mi u2 ao7 cap8) 27, .row p (e24Mi u1 ao4 cap5) 24, .row u (e24Mi u0 ao1 cap2) 24] aK w1 → KJ219 a1 w1 := by
   rintro q aK ⟨fH, ac⟩ iv iw c6 bm
   refine hKJ220 _ _ ?_
   have fI := fF q fH
   refine sqH ?_; intro fJ db
   refine l2 c6 bm 74 0 0 6 [i6 u1.ID, .bool u1.Long, .bool false, .bool false, i6 0, .slice (sm l) q.length u1.Size.toNat] rfl rfl ?_; intro iy bn
   refine sx bn bm 4 [i6 u1.ID, .bool u1.Long, .bool false, .bool false, i6 0, .slice (sm l) q.length u1.Size.toNat] 0 ?_; intro dc dd
   refine s1 bn 7 (i6 0) ?_; intro iz de
   have fK : Mem w.heap.size [] w Z [.row h [i6 u1.ID, .bool u1.Long, .bool false, .bool false, i6 0, .slice (sm l) q.length u1.Size.toNat] 27, .own t8 5 (sm l) u1.Size.toNat q, .row o [.slice m (readS u0 u2).1.length g] 28, .own tyReading 37 m g (readS u0 u2).1, .row n [i6 u1.ID, .bool u1.Long, .bool false, .bool false, i6 0, .slice (sm l) q.length u1.Size.toNat] 27, .row x (e27Mi u2 ao7 cap8) 27, .row p (e24Mi u1 ao4 cap5) 24, .row u (e24Mi u0 ao1 cap2) 24] aK dc := dd
   apply db
   apply r_
   obtain ⟨df, an, dg, fL⟩ := fK.freeze 1 rfl
   have dh : Mem w.heap.size [] w Z [.row h [i6 u1.ID, .bool u1.Long, .bool false, .bool false, i6 0, .slice (sm l) q.length u1.Size.toNat] 27, .row o [.slice m (readS u0 u2).1.length g] 28, .own tyReading 37 m g (readS u0 u2).1, .row n [i6 u1.ID, .bool u1.Long, .bool false, .bool false, i6 0, .slice (sm l) q.length u1.Size.toNat] 27, .row x (e27Mi u2 ao7 cap8) 27, .row p (e24Mi u1 ao4 cap5) 24, .row u (e24Mi u0 ao1 cap2) 24] df dc := dg
   refine rt (fn := Tryz.f16) (v := .tuple #[.agg #[i6 u1.ID, .bool u1.Long, .bool false, .bool false, i6 0, .slice (sm l) q.length u1.Size.toNat], i6 0]) de (re2c de (fn := Tryz.f16) rfl (ad := ⟨n, 0, none⟩) (by kernel_rfl) (loadVar_run dh 3 (b := n) (k := 6) (vs := [i6 u1.ID, .bool u1.Long, .bool false, .bool false, i6 0, .slice (sm l) q.length u1.Size.toNat]) (ty := 27) rfl (by kernel_rfl) (by kernel_rfl)) (by kernel_rfl)) ?_
   exact ⟨((⟨u1.ID, u1.Long, false, false, 0, q⟩ : Frame), 0), (sm l), u1.Size.toNat, df, rfl, fI, fL, dh.kp⟩
  have fM := Fz.le.refl ab
  apply b_
  have di : Fr 75 [] [⟨4, [], pt p 0⟩, ⟨6, [], pt n 0⟩, ⟨11, [], pt h 0⟩, ⟨12, [], .func (.func 41) #[] #[pt o 0, pt h 0]⟩, ⟨52, [], .slice ao4 u1.Signals.length cap5⟩, ⟨53, [], i6 (u1.Signals.length : Int)⟩, ⟨54, [], i6 0⟩] aJ := c5.reg
  obtain ⟨fP, fQ, fR, fS⟩ := fE
  refine lp (ι := Int × (List Int) × Fz) (fun s => [⟨4, [], pt p 0⟩, ⟨6, [], pt n 0⟩, ⟨11, [], pt h 0⟩, ⟨12, [], .func (.func 41) #[] #[pt o 0, pt h 0]⟩, ⟨52, [], .slice ao4 u1.Signals.length cap5⟩, ⟨53, [], i6 (u1.Signals.length : Int)⟩, ⟨54, [], i6 s.1⟩]) (fun s => [.row h [i6 u1.ID, .bool u1.Long, .bool false, .bool false, i6 0, .slice (sm l) s.2.1.length u1.Size.toNat] 27, .own t8 5 (sm l) u1.Size.toNat s.2.1, .row o [.slice m (readS u0 u2).1.length g] 28, .own tyReading 37 m g (readS u0 u2).1, .row n [i6 0, .bool false, .bool false, .bool false, i6 0, .slice none 0 0] 27, .row x (e27Mi u2 ao7 cap8) 27, .row p (e24Mi u1 ao4 cap5) 24, .row u (e24Mi u0 ao1 cap2) 24]) (fun s => s.2.2) (fun s => fP s.1 s.2.1 ∧ Fz.le ab s.2.2) (fun s => fQ s.1 s.2.1) ⟨0, al, ab⟩ ⟨fR, Fz.le.refl _⟩ (by exact di.reg) (by exact aI) ?_
  rintro ⟨D, B, M⟩ ⟨fT, Q⟩ fU fV dk dl
  have aL := fS D B fT
  have aM := c2.mono Q
  have bo := fM.mono Q
  refine sqB dk dl [] [] [(55, .bool (decide (D < (u1.Signals.length : Int))))] ?_; intro dr aN
  refine s_ (c_ aN aL (fun _ fW => ?_) fun _ gY => ?_)
  ·
   apply k_
   have ds : Fr 75 [] [⟨4, [], pt p 0⟩, ⟨6, [], pt n 0⟩, ⟨11, [], pt h 0⟩, ⟨12, [], .func (.func 41) #[] #[pt o 0, pt h 0]⟩, ⟨52, [], .slice ao4 u1.Signals.length cap5⟩, ⟨53, [], i6 (u1.Signals.length : Int)⟩, ⟨54, [], i6 D⟩] dr := aN.reg
   obtain ⟨fX, fY, fZ⟩ := fW
   refine wp_seq_k fun KJ275 hKJ276 => ?_
   have br : ∀ (ap : List Int) (aO : Fz), fX ap ∧ Fz.le M aO → ∀ a1 w1, Fr 75 [] [⟨4, [], pt p 0⟩, ⟨6, [], pt n 0⟩, ⟨11, [], pt h 0⟩, ⟨12, [], .func (.func 41) #[] #[pt o 0, pt h 0]⟩, ⟨52, [], .slice ao4 u1.Signals.length cap5⟩, ⟨53, [], i6 (u1.Signals.length : Int)⟩, ⟨54, [], i6 D⟩] a1 → Mem w.heap.size [] w Z [.row h [i6 u1.ID, .bool u1.Long, .bool false, .bool false, i6 0, .slice (sm l) ap.length u1.Size.toNat] 27, .own t8 5 (sm l) u1.Size.toNat ap, .row o [.slice m (readS u0 u2).1.length g] 28, .own tyReading 37 m g (readS u0 u2).1, .row n [i6 0, .bool false, .bool false, .bool false, i6 0, .slice none 0 0] 27, .row x (e27Mi u2 ao7 cap8) 27, .row p (e24Mi u1 ao4 cap5) 24, .row u (e24Mi u0 ao1 cap2) 24] aO w1 → KJ275 a1 w1 := by
    rintro ap aO ⟨f0, ae⟩ iB iC dt du
    refine hKJ276 _ _ ?_
    have dv := fZ ap f0
    have f1 := Q.mono ae
    refine rgB dt du [] [] [(54, i6 (w64 (D + 1)))] ?_; intro iI f2
    exact d_ ⟨⟨w64 (D + 1), ap, aO⟩, ⟨dv.1, f1⟩, dv.2, (f2.reg).anyβ _ (by kernel_rfl), du.kp⟩
   have bs := Fz.le.refl M
   refine b_ (sqH ?_); intro f3 dw
   refine s1 ds 56 (i6 D) ?_; intro iJ dx
   obtain ⟨f4, dy⟩ := fY
   refine ix_ dx aM D f4 .i64 46 72 ?_; intro f5 f6 f7 a iK f8 dz f9 dA
   have aP := dy a f8
   obtain rfl : f7 = ((e46Mi a) : List Value) := f9
   refine z2 dA dl 58 dz 0 9 (e46Mi a) rfl ?_; intro iL dB
   refine nw dB dl pb [str [], i6 0, i6 0, .bool false, .bool false, i6 0, i6 0, i6 0, i6 0] 46 ?_; intro N iM iN dC dD
   refine s1 dC 13 (i6 D) ?_; intro iO bu
   refine sx bu dD 0 (e46Mi a) 0 ?_; intro ga dE
   have af : Mem w.heap.size [] w Z [.row N (e46Mi a) 46, .row h [i6 u1.ID, .bool u1.Long, .bool false, .bool false, i6 0, .slice (sm l) B.length u1.Size.toNat] 27, .own t8 5 (sm l) u1.Size.toNat B, .row o [.slice m (readS u0 u2).1.length g] 28, .own tyReading 37 m g (readS u0 u2).1, .row n [i6 0, .bool false, .bool false, .bool false, i6 0, .slice none 0 0] 27, .row x (e27Mi u2 ao7 cap8) 27, .row p (e24Mi u1 ao4 cap5) 24, .row u (e24Mi u0 ao1 cap2) 24] M ga := dE
   apply dw
   refine sqH ?_; intro dF aQ
   refine bt bu af 5 [7] [] [(63, .bool (D != u1.Chooser))] ?_; intro iP aR
   refine e_ aP (fun az gb => ?_) fun az gX => ?_
   ·
    have dG := aR.reval (d := 63) (c := []) (v := .bool (D != u1.Chooser)) (by kernel_rfl) (.bool true) (by rw [az])
    refine bt dG af 4 [7, 0, 1] [64, 65, 66, 67] [(64, .agg (e24Mi u1 ao4 cap5).toArray), (65, .agg (e46Mi a).toArray), (67, .slice (sm l) B.length u1.Size.toNat)] ?_; intro iQ bv
    obtain ⟨gc, aS⟩ := gb
    refine fcl bv af (.bool (mthereS u1 a B)) 23 #[.agg (e24Mi u1 ao4 cap5).toArray, .agg (e46Mi a).toArray, .slice (sm l) B.length u1.Size.toNat] (wK bv true) rfl (by kernel_rfl) (fun _ => by kernel_rfl) ((by obtain ⟨Z9, gd, ge, gf⟩ := af.lend 2 rfl; exact mthere_fun u1 a B gc ao4 cap5 (sm l) u1.Size.toNat _ _ (SlR.mono aM gd) gf ge)) ?_; intro iR iS dH aT
    refine s1 dH 69 (.bool (mthereS u1 a B)) ?_; intro iT aU
    apply aQ
    refine c_ aU aS (fun _ gg => ?_) fun _ gW => ?_
    ·
     refine rgH ?_; intro gh dI
     refine bt aU aT 2 [0] [] [(70, .func (.func 41) #[] #[pt o 0, pt h 0]), (71, .agg (e46Mi a).toArray)] ?_; intro iU dJ
     refine ck dJ 41 #[.agg (e46Mi a).toArray, pt o 0, pt h 0] ?_
     refine enter0 Tryz.func41 rfl rfl (by kernel_rfl) ?_; intro iV dK
     refine sqH ?_; intro gi dL
     refine nw dK aT pb (e46Mi a) 46 ?_; intro E gj iW dM bx
     apply dL
     have dN : Fr 36 [] [⟨1, [], pt o 0⟩, ⟨2, [], pt h 0⟩, ⟨3, [], pt E 0⟩] gj := dM.reg
     refine sqB dN bx [4] [] [(8, .slice m (readS u0 u2).1.length g), (9, i6 ((readS u0 u2).1.length : Int)), (10, i6 0)] ?_; intro dO dP
     apply b_
     have dQ : Fr 36 [] [⟨2, [], pt h 0⟩, ⟨3, [], pt E 0⟩, ⟨8, [], .slice m (readS u0 u2).1.length g⟩, ⟨9, [], i6 ((readS u0 u2).1.length : Int)⟩, ⟨10, [], i6 0⟩] dO := dP.reg
     obtain ⟨gk, gl, gm, gn⟩ := gg
     refine lp (ι := Int × (List Int) × Fz) (fun s => [⟨2, [], pt h 0⟩, ⟨3, [], pt E 0⟩, ⟨8, [], .slice m (readS u0 u2).1.length g⟩, ⟨9, [], i6 ((readS u0 u2).1.length : Int)⟩, ⟨10, [], i6 s.1⟩]) (fun s => [.row E (e46Mi a) 46, .row N (e46Mi a) 46, .row h [i6 u1.ID, .bool u1.Long, .bool false, .bool false, i6 0, .slice (sm l) s.2.1.length u1.Size.toNat] 27, .own t8 5 (sm l) u1.Size.toNat s.2.1, .row o [.slice m (readS u0 u2).1.length g] 28, .own tyReading 37 m g (readS u0 u2).1, .row n [i6 0, .bool false, .bool false, .bool false, i6 0, .slice none 0 0] 27, .row x (e27Mi u2 ao7 cap8) 27, .row p (e24Mi u1 ao4 cap5) 24, .row u (e24Mi u0 ao1 cap2) 24]) (fun s => s.2.2) (fun s => gk s.1 s.2.1 ∧ s.2.1.length = B.length ∧ Fz.le M s.2.2) (fun s => gl s.1 s.2.1) ⟨0, B, M⟩ ⟨gm, rfl, Fz.le.refl _⟩ (by exact dQ.reg) (by exact bx) ?_
     rintro ⟨A, C, R⟩ ⟨go, iY, H⟩ gp dS dT dU
     have aV := gn A C go
     have aW := bs.mono H
     refine sqB dT dU [] [] [(11, .bool (decide (A < ((readS u0 u2).1.length : Int))))] ?_; intro dW aq
     refine s_ (c_ aq aV (fun _ gq => ?_) fun _ gR => ?_)
     ·
      apply k_
      have dX : Fr 36 [] [⟨2, [], pt h 0⟩, ⟨3, [], pt E 0⟩, ⟨8, [], .slice m (readS u0 u2).1.length g⟩, ⟨9, [], i6 ((readS u0 u2).1.length : Int)⟩, ⟨10, [], i6 A⟩] dW := aq.reg
      obtain ⟨gr, gs, gt⟩ := gq
      refine wp_seq_k fun KJ411 hKJ412 => ?_
      have bI : ∀ (ag : List Int) (aX : Fz), gr ag ∧ ag.length = C.length ∧ Fz.le R aX → ∀ a1 w1, Fr 36 [] [⟨2, [], pt h 0⟩, ⟨3, [], pt E 0⟩, ⟨8, [], .slice m (readS u0 u2).1.length g⟩, ⟨9, [], i6 ((readS u0 u2).1.length : Int)⟩, ⟨10, [], i6 A⟩] a1 → Mem w.heap.size [] w Z [.row E (e46Mi a) 46, .row N (e46Mi a) 46, .row h [i6 u1.ID, .bool u1.Long, .bool false, .bool false, i6 0, .slice (sm l) ag.length u1.Size.toNat] 27, .own t8 5 (sm l) u1.Size.toNat ag, .row o [.slice m (readS u0 u2).1.length g] 28, .own tyReading 37 m g (readS u0 u2).1, .row n [i6 0, .bool false, .bool false, .bool false, i6 0, .slice none 0 0] 27, .row x (e27Mi u2 ao7 cap8) 27, .row p (e24Mi u1 ao4 cap5) 24, .row u (e24Mi u0 ao1 cap2) 24] aX w1 → KJ411 a1 w1 := by
       rintro ag aX ⟨gu, iZ, J⟩ i0 i1 dY dZ
       refine hKJ412 _ _ ?_
       have d0 := gt ag gu
       have gv := H.mono J
       refine rgB dY dZ [] [] [(10, i6 (w64 (A + 1)))] ?_; intro jb gw
       exact d_ ⟨⟨w64 (A + 1), ag, aX⟩, ⟨d0.1, (by first | rfl | assumption | omega | (dsimp only at *; omega) | (simp; try omega)), gv⟩, d0.2, (gw.reg).anyβ _ (by kernel_rfl), dZ.kp⟩
      have aA := Fz.le.refl R
      refine b_ (sqH ?_); intro gx d1
      obtain ⟨gy, d2⟩ := gs
      refine ixo dX dU 5 (T := tyReading) (xs := (readS u0 u2).1) A gy (k := .i64) (e := 37) (bytes := 32) (nog rfl _) rfl (by kernel_rfl) rfl (by kernel_rfl) (by kernel_rfl) rfl (by kernel_rfl) ?_; intro U jc gz d3
      subst gz
      obtain ⟨i, gA, aY⟩ := gxq d2 (by first | omega | (simp only [List.length_set] at *; omega))
      obtain ⟨gB, gC, gD⟩ := own_el dU 5 (T := tyReading) (xs := (readS u0 u2).1) rfl A.toNat gA
      obtain rfl : gB = ((e37Mi i) : List Value) := gC
      refine lc2 d3 13 3 (e37Mi i) gD rfl ?_; intro jd d4
      refine nw d4 dU pb [str [], i6 0, i6 0] 37 ?_; intro aZ je jf bJ d5
      refine sx bJ d5 0 (e37Mi i) 0 ?_; intro gE d6
      have ar : Mem w.heap.size [] w Z [.row aZ (e37Mi i) 37, .row E (e46Mi a) 46, .row N (e46Mi a) 46, .row h [i6 u1.ID, .bool u1.Long, .bool false, .bool false, i6 0, .slice (sm l) C.length u1.Size.toNat] 27, .own t8 5 (sm l) u1.Size.toNat C, .row o [.slice (sm U) (readS u0 u2).1.length g] 28, .own tyReading 37 (sm U) g (readS u0 u2).1, .row n [i6 0, .bool false, .bool false, .bool false, i6 0, .slice none 0 0] 27, .row x (e27Mi u2 ao7 cap8) 27, .row p (e24Mi u1 ao4 cap5) 24, .row u (e24Mi u0 ao1 cap2) 24] R gE := d6
      apply d1
      refine s_ (sqB bJ ar [0, 1] [54] [(18, .bool (i.Name != a.Name))] ?_); intro jg a2
      refine c_ a2 aY (fun _ gF => ?_) fun _ a3 => ?_
      ·
       exact x_ (y_ (z_ (d_ (bI C R ⟨gF, (by first | rfl | assumption | omega | (dsimp only at *; omega) | (simp; try omega)), aA⟩ _ _ ((a2.reg).anyβ _ (by kernel_rfl)) (ar.kp)))))
      refine k_ (sqH ?_); intro gG d7
      refine bt a2 ar 5 [1, 0, 0] [] [(20, .agg (e46Mi a).toArray), (22, i6 i.Num), (24, i6 i.Den)] ?_; intro jh d8
      refine fc d8 ar (sraw_fun a i.Num i.Den _ _ ar.fz) ?_; intro ji jj d9 ah
      refine bt d9 ah 5 [] [] [(6, i6 (rawS a i.Num i.Den).1), (7, i6 (rawS a i.Num i.Den).2)] ?_; intro jk ea
      apply d7
      refine sqB ea ah [] [] [(29, .bool ((rawS a i.Num i.Den).2 == 0))] ?_; intro jl a4
      refine c_ a4 a3 (fun _ gH => ?_) fun _ gQ => ?_
      ·
       refine rgH ?_; intro gI eb
       refine bt a4 ah 4 [1, 3] [] [(30, .agg (e46Mi a).toArray), (32, .slice (sm l) C.length u1.Size.toNat), (33, i6 (rawS a i.Num i.Den).1)] ?_; intro jm ec
       obtain ⟨gJ, ed⟩ := gH
       refine ck ec 37 #[.agg (e46Mi a).toArray, .slice (sm l) C.length u1.Size.toNat, i6 (rawS a i.Num i.Den).1] ?_
       refine (sputd_fun a C (rawS a i.Num i.Den).1 gJ (sm l) u1.Size.toNat _ _ _ _ _ _ (ah.perm (pk 4 rfl)) ah.fz).mono ?_; rintro _ ee ⟨bM, rfl, I, gK, hm⟩; refine ⟨_, rfl, ?_⟩; intro gL ef; have eg := hm
       replace aA := aA.mono I
       have gM : Fr 36 [] [⟨2, [], pt h 0⟩, ⟨3, [], pt E 0⟩, ⟨5, [], pt aZ 0⟩, ⟨6, [], i6 (rawS a i.Num i.Den).1⟩, ⟨7, [], i6 (rawS a i.Num i.Den).2⟩, ⟨8, [], .slice (sm U) (readS u0 u2).1.length g⟩, ⟨9, [], i6 ((readS u0 u2).1.length : Int)⟩, ⟨10, [], i6 A⟩, ⟨12, [], .pointer (some ⟨U, A.toNat * 3, none⟩)⟩, ⟨13, [], .agg (e37Mi i).toArray⟩, ⟨18, [], .bool (i.Name != a.Name)⟩, ⟨20, [], .agg (e46Mi a).toArray⟩, ⟨22, [], i6 i.Num⟩, ⟨24, [], i6 i.Den⟩, ⟨25, [], .tuple #[i6 (rawS a i.Num i.Den).1, i6 (rawS a i.Num i.Den).2]⟩, ⟨29, [], .bool ((rawS a i.Num i.Den).2 == 0)⟩, ⟨30, [], .agg (e46Mi a).toArray⟩, ⟨32, [], .slice (sm l) (putS a C (rawS a i.Num i.Den).1).length u1.Size.toNat⟩, ⟨33, [], i6 (rawS a i.Num i.Den).1⟩, ⟨34, [], .tuple #[]⟩] gL := by rw [gK]; exact ef.reg
       have gN : (putS a C (rawS a i.Num i.Den).1).length = C.length := by first | assumption | (simp; try omega)
       have eh : Mem w.heap.size [] w Z [.own t8 5 (sm l) u1.Size.toNat (putS a C (rawS a i.Num i.Den).1), .row aZ (e37Mi i) 37, .row E (e46Mi a) 46, .row N (e46Mi a) 46, .row h [i6 u1.ID, .bool u1.Long, .bool false, .bool false, i6 0, .slice (sm l) (putS a C (rawS a i.Num i.Den).1).length u1.Size.toNat] 27, .row o [.slice (sm U) (readS u0 u2).1.length g] 28, .own tyReading 37 (sm U) g (readS u0 u2).1, .row n [i6 0, .bool false, .bool false, .bool false, i6 0, .slice none 0 0] 27, .row x (e27Mi u2 ao7 cap8) 27, .row p (e24Mi u1 ao4 cap5) 24, .row u (e24Mi u0 ao1 cap2) 24] bM ee := by rw [gN]; exact eg
       have ei : Mem w.heap.size [] w Z [.own t8 5 (sm l) u1.Size.toNat (putS a C (rawS a i.Num i.Den).1), .row aZ (e37Mi i) 37, .row E (e46Mi a) 46, .row N (e46Mi a) 46, .row h [i6 u1.ID, .bool u1.Long, .bool false, .bool false, i6 0, .slice (sm l) (putS a C (rawS a i.Num i.Den).1).length u1.Size.toNat] 27, .row o [.slice (sm U) (readS u0 u2).1.length g] 28, .own tyReading 37 (sm U) g (readS u0 u2).1, .row n [i6 0, .bool false, .bool false, .bool false, i6 0, .slice none 0 0] 27, .row x (e27Mi u2 ao7 cap8) 27, .row p (e24Mi u1 ao4 cap5) 24, .row u (e24Mi u0 ao1 cap2) 24] bM ee := eh
       have gO := ed (ei.ownSmall 0 rfl)
       apply eb
       refine j_ (d_ ?_)
       have gP := ei.perm ((pk 2 rfl).trans (((pk 2 rfl).trans (((pk 2 rfl).trans ((((pk 1 rfl).trans (((pk 1 rfl).trans (((pk 1 rfl).trans (((pk 1 rfl).trans (((pk 1 rfl).trans (((pk 1 rfl).trans (lpr.cons _)).cons _)).cons _)).cons _)).cons _)).cons _)).cons _).cons _)).cons _)).cons _))
       exact bI (putS a C (rawS a i.Num i.Den).1) bM ⟨gO, (by first | rfl | assumption | omega | (dsimp only at *; omega) | (simp; try omega)), aA⟩ _ _ ((gM.reg).anyβ _ (by kernel_rfl)) (gP.kp)
      exact l_ (j_ (d_ (bI C R ⟨gQ, (by first | rfl | assumption | omega | (dsimp only at *; omega) | (simp; try omega)), aA⟩ _ _ ((a4.reg).anyβ _ (by kernel_rfl)) (ah.kp))))
     refine x_ (y_ (y_ (z_ (rN (fn := Tryz.f41) (v := .tuple #[]) aq (re0 aq (fn := Tryz.f41) rfl) ?_))))
     refine ⟨_, rfl, ?_⟩; intro gS ej
     have gT : C.length = B.length := by first | assumption | omega | (dsimp only at *; omega) | (simp; try omega)
     have gU : Fr 75 [] [⟨4, [], pt p 0⟩, ⟨6, [], pt n 0⟩, ⟨11, [], pt h 0⟩, ⟨12, [], .func (.func 41) #[] #[pt o 0, pt h 0]⟩, ⟨13, [], i6 D⟩, ⟨14, [], pt N 0⟩, ⟨52, [], .slice ao4 u1.Signals.length cap5⟩, ⟨53, [], i6 (u1.Signals.length : Int)⟩, ⟨54, [], i6 D⟩, ⟨56, [], i6 D⟩, ⟨57, [], pt f5 f6⟩, ⟨58, [], .agg (e46Mi a).toArray⟩, ⟨63, [], .bool true⟩, ⟨64, [], .agg (e24Mi u1 ao4 cap5).toArray⟩, ⟨65, [], .agg (e46Mi a).toArray⟩, ⟨67, [], .slice (sm l) C.length u1.Size.toNat⟩, ⟨68, [], .bool (mthereS u1 a B)⟩, ⟨69, [], .bool (mthereS u1 a B)⟩, ⟨70, [], .func (.func 41) #[] #[pt o 0, pt h 0]⟩, ⟨71, [], .agg (e46Mi a).toArray⟩, ⟨72, [], .tuple #[]⟩] gS := by rw [gT]; exact ej.reg
     have gV : Mem w.heap.size [] w Z [.row E (e46Mi a) 46, .row N (e46Mi a) 46, .row h [i6 u1.ID, .bool u1.Long, .bool false, .bool false, i6 0, .slice (sm l) C.length u1.Size.toNat] 27, .own t8 5 (sm l) u1.Size.toNat C, .row o [.slice m (readS u0 u2).1.length g] 28, .own tyReading 37 m g (readS u0 u2).1, .row n [i6 0, .bool false, .bool false, .bool false, i6 0, .slice none 0 0] 27, .row x (e27Mi u2 ao7 cap8) 27, .row p (e24Mi u1 ao4 cap5) 24, .row u (e24Mi u0 ao1 cap2) 24] R dS := dU
     apply dI
     exact j_ (d_ (br C R ⟨gR, aW⟩ _ _ ((gU.reg).anyβ _ (by kernel_rfl)) (gV.kp)))
    exact l_ (j_ (d_ (br B M ⟨gW, bs⟩ _ _ ((aU.reg).anyβ _ (by kernel_rfl)) (aT.kp))))
   have ek := aR.reval (d := 63) (c := []) (v := .bool (D != u1.Chooser)) (by kernel_rfl) (.bool false) (by rw [az])
   refine bt ek af 6 [] [64, 65, 66, 67, 68, 69] [(69, .bool false)] ?_; intro jn el
   apply aQ
   refine cdF el (by kernel_rfl) ?_
   exact l_ (j_ (d_ (br B M ⟨gX, bs⟩ _ _ ((el.reg).anyβ _ (by kernel_rfl)) (af.kp))))
  exact x_ (y_ (y_ (z_ (d_ (fG B M ⟨gY, bo⟩ _ _ ((aN.reg).anyβ _ (by kernel_rfl)) (dl.kp))))))
 have em := Fz.le.refl G
 refine c_ cY aH (fun _ gZ => ?_) fun _ hK => ?_
 ·
  refine rgH ?_; intro g0 en
  refine bt cY L 5 [6, 6] [] [(43, .func (.func 41) #[] #[pt o 0, pt h 0]), (45, .slice ao4 u1.Signals.length cap5), (47, i6 u1.Chooser)] ?_; intro jo eo
  obtain ⟨g1, ep⟩ := gZ
  refine ix_ eo hs6 u1.Chooser g1 .i64 46 72 ?_; intro jp jq g2 f jr g3 eq g4 er
  have g5 := ep f g3
  obtain rfl : g2 = ((e46Mi f) : List Value) := g4
  refine z2 er L 49 eq 0 9 (e46Mi f) rfl ?_; intro js es
  refine ck es 41 #[.agg (e46Mi f).toArray, pt o 0, pt h 0] ?_
  refine enter0 Tryz.func41 rfl rfl (by kernel_rfl) ?_; intro jt et
  refine sqH ?_; intro g6 eu
  refine nw et L pb (e46Mi f) 46 ?_; intro F g7 ju ev bO
  apply eu
  have ew : Fr 36 [] [⟨1, [], pt o 0⟩, ⟨2, [], pt h 0⟩, ⟨3, [], pt F 0⟩] g7 := ev.reg
  refine sqB ew bO [3] [] [(8, .slice m (readS u0 u2).1.length g), (9, i6 ((readS u0 u2).1.length : Int)), (10, i6 0)] ?_; intro ex ey
  apply b_
  have ez : Fr 36 [] [⟨2, [], pt h 0⟩, ⟨3, [], pt F 0⟩, ⟨8, [], .slice m (readS u0 u2).1.length g⟩, ⟨9, [], i6 ((readS u0 u2).1.length : Int)⟩, ⟨10, [], i6 0⟩] ex := ey.reg
  obtain ⟨g8, g9, ha, hb⟩ := g5
  refine lp (ι := Int × (List Int) × Fz) (fun s => [⟨2, [], pt h 0⟩, ⟨3, [], pt F 0⟩, ⟨8, [], .slice m (readS u0 u2).1.length g⟩, ⟨9, [], i6 ((readS u0 u2).1.length : Int)⟩, ⟨10, [], i6 s.1⟩]) (fun s => [.row F (e46Mi f) 46, .row h [i6 u1.ID, .bool u1.Long, .bool false, .bool false, i6 0, .slice (sm l) s.2.1.length u1.Size.toNat] 27, .own t8 5 (sm l) u1.Size.toNat s.2.1, .row o [.slice m (readS u0 u2).1.length g] 28, .own tyReading 37 m g (readS u0 u2).1, .row n [i6 0, .bool false, .bool false, .bool false, i6 0, .slice none 0 0] 27, .row x (e27Mi u2 ao7 cap8) 27, .row p (e24Mi u1 ao4 cap5) 24, .row u (e24Mi u0 ao1 cap2) 24]) (fun s => s.2.2) (fun s => g8 s.1 s.2.1 ∧ Fz.le G s.2.2) (fun s => g9 s.1 s.2.1) ⟨0, (List.replicate u1.Size.toNat (0 : Int)), G⟩ ⟨ha, Fz.le.refl _⟩ (by exact ez.reg) (by exact bO) ?_
  rintro ⟨A, q, V⟩ ⟨hc, O⟩ hd eB eC eD
  have a5 := hb A q hc
  have a6 := em.mono O
  refine sqB eC eD [] [] [(11, .bool (decide (A < ((readS u0 u2).1.length : Int))))] ?_; intro eG au
  refine s_ (c_ au a5 (fun _ he => ?_) fun _ hH => ?_)
  ·
   apply k_
   have eH : Fr 36 [] [⟨2, [], pt h 0⟩, ⟨3, [], pt F 0⟩, ⟨8, [], .slice m (readS u0 u2).1.length g⟩, ⟨9, [], i6 ((readS u0 u2).1.length : Int)⟩, ⟨10, [], i6 A⟩] eG := au.reg
   obtain ⟨hf, hg, hh⟩ := he
   refine wp_seq_k fun KJ624 hKJ625 => ?_
   have bV : ∀ (B : List Int) (a7 : Fz), hf B ∧ Fz.le V a7 → ∀ a1 w1, Fr 36 [] [⟨2, [], pt h 0⟩, ⟨3, [], pt F 0⟩, ⟨8, [], .slice m (readS u0 u2).1.length g⟩, ⟨9, [], i6 ((readS u0 u2).1.length : Int)⟩, ⟨10, [], i6 A⟩] a1 → Mem w.heap.size [] w Z [.row F (e46Mi f) 46, .row h [i6 u1.ID, .bool u1.Long, .bool false, .bool false, i6 0, .slice (sm l) B.length u1.Size.toNat] 27, .own t8 5 (sm l) u1.Size.toNat B, .row o [.slice m (readS u0 u2).1.length g] 28, .own tyReading 37 m g (readS u0 u2).1, .row n [i6 0, .bool false, .bool false, .bool false, i6 0, .slice none 0 0] 27, .row x (e27Mi u2 ao7 cap8) 27, .row p (e24Mi u1 ao4 cap5) 24, .row u (e24Mi u0 ao1 cap2) 24] a7 w1 → KJ624 a1 w1 := by
    rintro B a7 ⟨hi, ai⟩ jw jx eI eJ
    refine hKJ625 _ _ ?_
    have eK := hh B hi
    have hj := O.mono ai
    refine rgB eI eJ [] [] [(10, i6 (w64 (A + 1)))] ?_; intro jD hk
    exact d_ ⟨⟨w64 (A + 1), B, a7⟩, ⟨eK.1, hj⟩, eK.2, (hk.reg).anyβ _ (by kernel_rfl), eJ.kp⟩
   have aB := Fz.le.refl V
   refine b_ (sqH ?_); intro hl eL
   obtain ⟨hn, eM⟩ := hg
   refine ixo eH eD 4 (T := tyReading) (xs := (readS u0 u2).1) A hn (k := .i64) (e := 37) (bytes := 32) (nog rfl _) rfl (by kernel_rfl) rfl (by kernel_rfl) (by kernel_rfl) rfl (by kernel_rfl) ?_; intro X jE ho eN
   subst ho
   obtain ⟨j, hq, a8⟩ := gxq eM (by first | omega | (simp only [List.length_set] at *; omega))
   obtain ⟨hr, hs, ht⟩ := own_el eD 4 (T := tyReading) (xs := (readS u0 u2).1) rfl A.toNat hq
   obtain rfl : hr = ((e37Mi j) : List Value) := hs
   refine lc2 eN 13 3 (e37Mi j) ht rfl ?_; intro jF eO
   refine nw eO eD pb [str [], i6 0, i6 0] 37 ?_; intro a9 jG jH bW eP
   refine sx bW eP 0 (e37Mi j) 0 ?_; intro hu eQ
   have av : Mem w.heap.size [] w Z [.row a9 (e37Mi j) 37, .row F (e46Mi f) 46, .row h [i6 u1.ID, .bool u1.Long, .bool false, .bool false, i6 0, .slice (sm l) q.length u1.Size.toNat] 27, .own t8 5 (sm l) u1.Size.toNat q, .row o [.slice (sm X) (readS u0 u2).1.length g] 28, .own tyReading 37 (sm X) g (readS u0 u2).1, .row n [i6 0, .bool false, .bool false, .bool false, i6 0, .slice none 0 0] 27, .row x (e27Mi u2 ao7 cap8) 27, .row p (e24Mi u1 ao4 cap5) 24, .row u (e24Mi u0 ao1 cap2) 24] V hu := eQ
   apply eL
   refine s_ (sqB bW av [0, 1] [54] [(18, .bool (j.Name != f.Name))] ?_); intro jI ba
   refine c_ ba a8 (fun _ hv => ?_) fun _ bb => ?_
   ·
    exact x_ (y_ (z_ (d_ (bV q V ⟨hv, aB⟩ _ _ ((ba.reg).anyβ _ (by kernel_rfl)) (av.kp)))))
   refine k_ (sqH ?_); intro hw eR
   refine bt ba av 5 [1, 0, 0] [] [(20, .agg (e46Mi f).toArray), (22, i6 j.Num), (24, i6 j.Den)] ?_; intro jJ eS
   refine fc eS av (sraw_fun f j.Num j.Den _ _ av.fz) ?_; intro jK jL eT aj
   refine bt eT aj 5 [] [] [(6, i6 (rawS f j.Num j.Den).1), (7, i6 (rawS f j.Num j.Den).2)] ?_; intro jM eU
   apply eR
   refine sqB eU aj [] [] [(29, .bool ((rawS f j.Num j.Den).2 == 0))] ?_; intro jN bc
   refine c_ bc bb (fun _ hx => ?_) fun _ hG => ?_
   ·
    refine rgH ?_; intro hy eV
    refine bt bc aj 4 [1, 2] [] [(30, .agg (e46Mi f).toArray), (32, .slice (sm l) q.length u1.Size.toNat), (33, i6 (rawS f j.Num j.Den).1)] ?_; intro jO eW
    obtain ⟨hz, eX⟩ := hx
    refine ck eW 37 #[.agg (e46Mi f).toArray, .slice (sm l) q.length u1.Size.toNat, i6 (rawS f j.Num j.Den).1] ?_
    refine (sputd_fun f q (rawS f j.Num j.Den).1 hz (sm l) u1.Size.toNat _ _ _ _ _ _ (aj.perm (pk 3 rfl)) aj.fz).mono ?_; rintro _ eY ⟨bZ, rfl, Y, hA, hm⟩; refine ⟨_, rfl, ?_⟩; intro hB eZ; have e0 := hm
    replace aB := aB.mono Y
    have hC : Fr 36 [] [⟨2, [], pt h 0⟩, ⟨3, [], pt F 0⟩, ⟨5, [], pt a9 0⟩, ⟨6, [], i6 (rawS f j.Num j.Den).1⟩, ⟨7, [], i6 (rawS f j.Num j.Den).2⟩, ⟨8, [], .slice (sm X) (readS u0 u2).1.length g⟩, ⟨9, [], i6 ((readS u0 u2).1.length : Int)⟩, ⟨10, [], i6 A⟩, ⟨12, [], .pointer (some ⟨X, A.toNat * 3, none⟩)⟩, ⟨13, [], .agg (e37Mi j).toArray⟩, ⟨18, [], .bool (j.Name != f.Name)⟩, ⟨20, [], .agg (e46Mi f).toArray⟩, ⟨22, [], i6 j.Num⟩, ⟨24, [], i6 j.Den⟩, ⟨25, [], .tuple #[i6 (rawS f j.Num j.Den).1, i6 (rawS f j.Num j.Den).2]⟩, ⟨29, [], .bool ((rawS f j.Num j.Den).2 == 0)⟩, ⟨30, [], .agg (e46Mi f).toArray⟩, ⟨32, [], .slice (sm l) (putS f q (rawS f j.Num j.Den).1).length u1.Size.toNat⟩, ⟨33, [], i6 (rawS f j.Num j.Den).1⟩, ⟨34, [], .tuple #[]⟩] hB := by rw [hA]; exact eZ.reg
    have hD : (putS f q (rawS f j.Num j.Den).1).length = q.length := by first | assumption | (simp; try omega)
    have e1 : Mem w.heap.size [] w Z [.own t8 5 (sm l) u1.Size.toNat (putS f q (rawS f j.Num j.Den).1), .row a9 (e37Mi j) 37, .row F (e46Mi f) 46, .row h [i6 u1.ID, .bool u1.Long, .bool false, .bool false, i6 0, .slice (sm l) (putS f q (rawS f j.Num j.Den).1).length u1.Size.toNat] 27, .row o [.slice (sm X) (readS u0 u2).1.length g] 28, .own tyReading 37 (sm X) g (readS u0 u2).1, .row n [i6 0, .bool false, .bool false, .bool false, i6 0, .slice none 0 0] 27, .row x (e27Mi u2 ao7 cap8) 27, .row p (e24Mi u1 ao4 cap5) 24, .row u (e24Mi u0 ao1 cap2) 24] bZ eY := by rw [hD]; exact e0
    have e2 : Mem w.heap.size [] w Z [.own t8 5 (sm l) u1.Size.toNat (putS f q (rawS f j.Num j.Den).1), .row a9 (e37Mi j) 37, .row F (e46Mi f) 46, .row h [i6 u1.ID, .bool u1.Long, .bool false, .bool false, i6 0, .slice (sm l) (putS f q (rawS f j.Num j.Den).1).length u1.Size.toNat] 27, .row o [.slice (sm X) (readS u0 u2).1.length g] 28, .own tyReading 37 (sm X) g (readS u0 u2).1, .row n [i6 0, .bool false, .bool false, .bool false, i6 0, .slice none 0 0] 27, .row x (e27Mi u2 ao7 cap8) 27, .row p (e24Mi u1 ao4 cap5) 24, .row u (e24Mi u0 ao1 cap2) 24] bZ eY := e1
    have hE := eX (e2.ownSmall 0 rfl)
    apply eV
    refine j_ (d_ ?_)
    have hF := e2.perm ((pk 2 rfl).trans (((pk 2 rfl).trans ((((pk 1 rfl).trans (((pk 1 rfl).trans (((pk 1 rfl).trans (((pk 1 rfl).trans (((pk 1 rfl).trans (((pk 1 rfl).trans (lpr.cons _)).cons _)).cons _)).cons _)).cons _)).cons _)).cons _).cons _)).cons _))
    exact bV (putS f q (rawS f j.Num j.Den).1) bZ ⟨hE, aB⟩ _ _ ((hC.reg).anyβ _ (by kernel_rfl)) (hF.kp)
   exact l_ (j_ (d_ (bV q V ⟨hG, aB⟩ _ _ ((bc.reg).anyβ _ (by kernel_rfl)) (aj.kp))))
  refine x_ (y_ (y_ (z_ (rN (fn := Tryz.f41) (v := .tuple #[]) au (re0 au (fn := Tryz.f41) rfl) ?_))))
  refine ⟨_, rfl, ?_⟩; intro jP hI
  have hJ : Mem w.heap.size [] w Z [.row F (e46Mi f) 46, .row h [i6 u1.ID, .bool u1.Long, .bool false, .bool false, i6 0, .slice (sm l) q.length u1.Size.toNat] 27, .own t8 5 (sm l) u1.Size.toNat q, .row o [.slice m (readS u0 u2).1.length g] 28, .own tyReading 37 m g (readS u0 u2).1, .row n [i6 0, .bool false, .bool false, .bool false, i6 0, .slice none 0 0] 27, .row x (e27Mi u2 ao7 cap8) 27, .row p (e24Mi u1 ao4 cap5) 24, .row u (e24Mi u0 ao1 cap2) 24] V eB := eD
  apply en
  exact d_ (cZ q V ⟨hH, a6⟩ _ _ ((hI.reg).anyβ _ (by kernel_rfl)) (hJ.kp))
 exact l_ (d_ (cZ (List.replicate u1.Size.toNat (0 : Int)) G ⟨hK, em⟩ _ _ ((cY.reg).anyβ _ (by kernel_rfl)) (L.kp)))
end Go.Proofs.YtdndfbamhnchfaaGreatDoor
set_option linter.unusedVariables false
set_option linter.unusedSimpArgs false
set_option linter.defProp false
set_option maxRecDepth 100000
set_option maxHeartbeats 0
namespace Go.Proofs.YtdndfbamhnchfaaGreatDoor
open Go.Sy Go.RowKit
def rsame_fun (u0 : Frame) (u1 : Frame) (ao1 : Option Addr) (cap2 : Nat) (ao4 : Option Addr) (cap5 : Nat) (Z : Fz) (w : World) (hs3 : SlR t8 Z ao1 cap2 u0.Data) (hs6 : SlR t8 Z ao4 cap5 u1.Data) (hZ : Z.on w) := f_ (rsame_walk u0 u1 ao1 cap2 ao4 cap5 Z w hs3 hs6 hZ (rsame_ok u0 u1))
def mrepack_fun (u0 : Message) (u1 : Message) (u2 : Frame) (hpre : isBytes u2.Data) (ao1 : Option Addr) (cap2 : Nat) (ao4 : Option Addr) (cap5 : Nat) (ao7 : Option Addr) (cap8 : Nat) (Z : Fz) (w : World) (hs3 : SlR tySignal Z ao1 cap2 u0.Signals) (hs6 : SlR tySignal Z ao4 cap5 u1.Signals) (hs9 : SlR t8 Z ao7 cap8 u2.Data) (hZ : Z.on w) := fc_ (mrepack_walk u0 u1 u2 ao1 cap2 ao4 cap5 ao7 cap8 Z w hs3 hs6 hs9 hZ (mrepack_ok u0 u1 u2 hpre))
theorem nofr_walk (u0 : Frame) (ao1 : Option Addr) (cap2 : Nat) (Z : Fz) (w : World) (hs3 : SlR t8 Z ao1 cap2 u0.Data) (hZ : Z.on w) {K : Bool → Prop} (hp : nofr_vc u0 K) : Calls Tryz.prog 13 #[.agg #[i6 u0.ID, .bool u0.Long, .bool u0.Fast, .bool u0.Remote, i6 u0.Size, .slice ao1 u0.Data.length cap2]] w fun e w' => ∃ r : Bool, e = .returned (.bool r) ∧ K r ∧ Below w.heap.size w w' := by
 refine enter0 Tryz.func13 rfl rfl (by kernel_rfl) ?_; intro p b; have c := Mem.start w Z hZ
 have k := hp (hs3.small)
 refine sqH ?_; intro l d
 refine nw b c pb [i6 u0.ID, .bool u0.Long, .bool u0.Fast, .bool u0.Remote, i6 u0.Size, .slice ao1 u0.Data.length cap2] 27 ?_; intro s t u f a
 refine s1 f 2 (.bool false) ?_; intro v g
 apply d
 refine sqH ?_; intro m h
 refine bt g a 2 [0] [] [(3, .agg #[i6 u0.ID, .bool u0.Long, .bool u0.Fast, .bool u0.Remote, i6 u0.Size, .slice ao1 u0.Data.length cap2]), (4, .agg #[i6 0, .bool false, .bool false, .bool false, i6 0, .slice none 0 0])] ?_; intro x i
 refine fc i a (rsame_fun u0 (⟨0, false, false, false, 0, []⟩ : Frame) ao1 cap2 none 0 _ _ hs3 (SlR.nil _ _) a.fz) ?_; intro y z j n
 refine s1 j 2 (.bool (rsameS u0 (⟨0, false, false, false, 0, []⟩ : Frame))) ?_; intro A o
 apply h
 exact r_ (ra1 o (.bool (rsameS u0 (⟨0, false, false, false, 0, []⟩ : Frame))) ⟨(rsameS u0 (⟨0, false, false, false, 0, []⟩ : Frame)), rfl, k, n.below⟩)
end Go.Proofs.YtdndfbamhnchfaaGreatDoor
set_option linter.unusedVariables false
set_option linter.unusedSimpArgs false
set_option linter.defProp false
set_option maxRecDepth 100000
set_option maxHeartbeats 0
namespace Go.Proofs.YtdndfbamhnchfaaGreatDoor
open Go.Sy Go.RowKit
abbrev e46Mz (X : Signal) : List Value := [str X.Name, i6 X.Start, i6 X.Size, .bool X.Back, .bool X.Signed, i6 X.Mul, i6 X.Div, i6 X.Add, i6 X.Key]
abbrev e27Mz (X : Frame) (A0 : Option Addr) (C0 : Nat) : List Value := [i6 X.ID, .bool X.Long, .bool X.Fast, .bool X.Remote, i6 X.Size, .slice A0 X.Data.length C0]
abbrev e24Mz (X : Message) (A0 : Option Addr) (C0 : Nat) : List Value := [i6 X.ID, .bool X.Long, str X.Name, i6 X.Size, i6 X.Chooser, .slice A0 X.Signals.length C0]
abbrev e37Mz (X : Reading) : List Value := [str X.Name, i6 X.Num, i6 X.Den]
def nofr_fun (u0 : Frame) (ao1 : Option Addr) (cap2 : Nat) (Z : Fz) (w : World) (hs3 : SlR t8 Z ao1 cap2 u0.Data) (hZ : Z.on w) := f_ (nofr_walk u0 ao1 cap2 Z w hs3 hZ (nofr_ok u0))
theorem LMRepack_walk (u0 : Message) (u1 : Message) (u2 : Frame) (ao1 : Option Addr) (cap2 : Nat) (ao4 : Option Addr) (cap5 : Nat) (ao7 : Option Addr) (cap8 : Nat) (Z : Fz) (w : World) (hs3 : SlR tySignal Z ao1 cap2 u0.Signals) (hs6 : SlR tySignal Z ao4 cap5 u1.Signals) (hs9 : SlR t8 Z ao7 cap8 u2.Data) (hZ : Z.on w) {K : Bool → Prop} (hp : LMRepack_vc u0 u1 u2 K) : Calls Tryz.prog 5 #[.agg #[i6 u0.ID, .bool u0.Long, str u0.Name, i6 u0.Size, i6 u0.Chooser, .slice ao1 u0.Signals.length cap2], .agg #[i6 u1.ID, .bool u1.Long, str u1.Name, i6 u1.Size, i6 u1.Chooser, .slice ao4 u1.Signals.length cap5], .agg #[i6 u2.ID, .bool u2.Long, .bool u2.Fast, .bool u2.Remote, i6 u2.Size, .slice ao7 u2.Data.length cap8]] w fun e w' => ∃ r : Bool, e = .returned (.bool r) ∧ K r ∧ Below w.heap.size w w' := by
 refine enter0 Tryz.func5 rfl rfl (by kernel_rfl) ?_; intro a0 de; have df := Mem.start w Z hZ
 have gO := hp (hs3.small) (hs6.small) (hs9.small)
 refine sqH ?_; intro gP di
 refine nw de df pb (e24Mz u0 ao1 cap2) 24 ?_; intro A jM jN dj dk
 refine nw dj dk pb (e24Mz u1 ao4 cap5) 24 ?_; intro j jO jP dl dm
 refine nw dl dm pb (e27Mz u2 ao7 cap8) 27 ?_; intro B jQ jR dn bH
 refine s1 dn 6 (.bool false) ?_; intro jS dp
 apply di
 refine sqH ?_; intro gQ dq
 refine bt dp bH 3 [2, 1, 0] [] [(16, .agg (e24Mz u0 ao1 cap2).toArray), (17, .agg (e24Mz u1 ao4 cap5).toArray), (18, .agg (e27Mz u2 ao7 cap8).toArray)] ?_; intro jT dr
 obtain ⟨gR, ds⟩ := gO
 refine ck dr 16 #[.agg (e24Mz u0 ao1 cap2).toArray, .agg (e24Mz u1 ao4 cap5).toArray, .agg (e27Mz u2 ao7 cap8).toArray] ?_
 refine (mrepack_fun u0 u1 u2 gR ao1 cap2 ao4 cap5 ao7 cap8 _ _ hs3 hs6 hs9 bH.fz).mono ?_; rintro _ gS ⟨q, u, aq, rfl, aJ, hm⟩; refine ⟨_, rfl, ?_⟩; intro jU dt; have du := bH.callZ hm; have bI := hm.ext.le
 replace hs3 := hs3.mono bI
 replace hs6 := hs6.mono bI
 replace hs9 := hs9.mono bI
 have cw : Mem w.heap.size [] w Z [.row B (e27Mz u2 ao7 cap8) 27, .row j (e24Mz u1 ao4 cap5) 24, .row A (e24Mz u0 ao1 cap2) 24] aq gS := du
 have gT := ds (aJ.small)
 refine bt dt cw 3 [] [] [(20, .agg (e27Mz ((repackS u0 u1 u2).1) q u).toArray), (21, i6 (repackS u0 u1 u2).2)] ?_; intro jV dv
 refine nw dv cw pb [i6 0, .bool false, .bool false, .bool false, i6 0, .slice none 0 0] 27 ?_; intro l jW jX cx dw
 refine sx cx dw 0 (e27Mz ((repackS u0 u1 u2).1) q u) 0 ?_; intro gU dx
 refine s1 cx 8 (i6 (repackS u0 u1 u2).2) ?_; intro jY dy
 have bJ : Mem w.heap.size [] w Z [.row l (e27Mz ((repackS u0 u1 u2).1) q u) 27, .row B (e27Mz u2 ao7 cap8) 27, .row j (e24Mz u1 ao4 cap5) 24, .row A (e24Mz u0 ao1 cap2) 24] aq gU := dx
 apply dq
 refine sqH ?_; intro gV dz
 refine l2 dy bJ 22 2 0 6 (e24Mz u1 ao4 cap5) rfl rfl ?_; intro jZ dA
 refine fc dA bJ (rcheckm_fun u1 ao4 cap5 _ _ hs6 bJ.fz) ?_; intro j0 j1 dB ar
 refine s1 dB 9 (i6 (mcheckS u1)) ?_; intro j2 dC
 apply dz
 refine s_ (sqB dC ar [] [] [(25, .bool ((mcheckS u1) == 0))] ?_); intro dD dE
 have dF : Fr 105 [] [⟨3, [], pt A 0⟩, ⟨4, [], pt j 0⟩, ⟨5, [], pt B 0⟩, ⟨7, [], pt l 0⟩, ⟨8, [], i6 (repackS u0 u1 u2).2⟩, ⟨9, [], i6 (mcheckS u1)⟩, ⟨25, [], .bool ((mcheckS u1) == 0)⟩] dD := dE.reg
 obtain ⟨gW, bK, gX⟩ := gT
 refine wp_then_k fun KJ86 hKJ87 => ?_
 have dG : ∀ (x9 : Int), gW x9 → ∀ a1 w1, Fr 105 [] [⟨3, [], pt A 0⟩, ⟨4, [], pt j 0⟩, ⟨5, [], pt B 0⟩, ⟨7, [], pt l 0⟩, ⟨8, [], i6 (repackS u0 u1 u2).2⟩, ⟨9, [], i6 x9⟩] a1 → Mem w.heap.size [] w Z [.row l (e27Mz ((repackS u0 u1 u2).1) q u) 27, .row B (e27Mz u2 ao7 cap8) 27, .row j (e24Mz u1 ao4 cap5) 24, .row A (e24Mz u0 ao1 cap2) 24] aq w1 → KJ86 a1 w1 := by
  rintro x9 gY j3 j4 dH au
  refine hKJ87 _ _ ?_
  have gZ := gX x9 gY
  refine s_ (sqB dH au [] [] [(29, .bool (x9 == 0))] ?_); intro dI dJ
  have dK : Fr 105 [] [⟨3, [], pt A 0⟩, ⟨4, [], pt j 0⟩, ⟨5, [], pt B 0⟩, ⟨7, [], pt l 0⟩, ⟨8, [], i6 (repackS u0 u1 u2).2⟩, ⟨9, [], i6 x9⟩, ⟨29, [], .bool (x9 == 0)⟩] dI := dJ.reg
  obtain ⟨g0, bL, g1⟩ := gZ
  refine wp_then_k fun KJ105 hKJ106 => ?_
  have dL : ∀ (ac : Int), g0 ac → ∀ a1 w1, Fr 105 [] [⟨3, [], pt A 0⟩, ⟨4, [], pt j 0⟩, ⟨5, [], pt B 0⟩, ⟨7, [], pt l 0⟩, ⟨8, [], i6 (repackS u0 u1 u2).2⟩, ⟨9, [], i6 ac⟩] a1 → Mem w.heap.size [] w Z [.row l (e27Mz ((repackS u0 u1 u2).1) q u) 27, .row B (e27Mz u2 ao7 cap8) 27, .row j (e24Mz u1 ao4 cap5) 24, .row A (e24Mz u0 ao1 cap2) 24] aq w1 → KJ105 a1 w1 := by
   rintro ac g2 j5 j6 dM dN
   refine hKJ106 _ _ ?_
   have g3 := g1 ac g2
   refine sqH ?_; intro g4 dO
   refine nw dM dN pb [.slice none 0 0] 28 ?_; intro p j7 j8 dP av
   apply dO
   refine s_ (sqB dP av [] [] [(33, .bool (ac == 0))] ?_); intro dQ dR
   have dS : Fr 105 [] [⟨3, [], pt A 0⟩, ⟨4, [], pt j 0⟩, ⟨5, [], pt B 0⟩, ⟨7, [], pt l 0⟩, ⟨8, [], i6 (repackS u0 u1 u2).2⟩, ⟨9, [], i6 ac⟩, ⟨10, [], pt p 0⟩, ⟨33, [], .bool (ac == 0)⟩] dQ := dR.reg
   obtain ⟨g5, bM, g6⟩ := g3
   refine wp_then_k fun KJ130 hKJ131 => ?_
   have dT : ∀ (M : Int) (i : List Reading) (x : Option Addr) (y : Nat) (aK : Fz), g5 M i ∧ SlR tyReading aK x y i ∧ Fz.le aq aK → ∀ a1 w1, Fr 105 [] [⟨4, [], pt j 0⟩, ⟨7, [], pt l 0⟩, ⟨8, [], i6 (repackS u0 u1 u2).2⟩, ⟨9, [], i6 M⟩, ⟨10, [], pt p 0⟩] a1 → Mem w.heap.size [] w Z [.row p [.slice x i.length y] 28, .row l (e27Mz ((repackS u0 u1 u2).1) q u) 27, .row B (e27Mz u2 ao7 cap8) 27, .row j (e24Mz u1 ao4 cap5) 24, .row A (e24Mz u0 ao1 cap2) 24] aK w1 → KJ130 a1 w1 := by
    rintro M i x y aK ⟨g7, bN, ai⟩ j9 ka dU cy
    refine hKJ131 _ _ ?_
    have bO := g6 M i g7
    have bb := hs6.mono ai
    have bc := aJ.mono ai
    refine s_ (sqH ?_); intro g8 dV
    refine fc dU cy (meant_fun  _ _ cy.fz) ?_; intro kb kc dW aw
    refine bt dW aw 5 [] [43, 44, 45] [(45, .bool (M != 0))] ?_; intro kd bd
    apply dV
    refine c_ bd bO (fun _ g9 => ?_) fun _ hd => ?_
    ·
     refine sqH ?_; intro ha dX
     refine fc bd aw (meant_fun  _ _ aw.fz) ?_; intro ke kf dY bR
     refine s1 dY 47 (.bool true) ?_; intro kg bS
     refine g_ bS true (i6 (repackS u0 u1 u2).2) ?_; intro kh bT
     refine g_ bT true (i6 M) ?_; intro ki bU
     refine g_ bU true (.bool ((repackS u0 u1 u2).2 == M)) ?_; intro kj dZ
     refine s1 dZ 51 (.bool ((repackS u0 u1 u2).2 == M)) ?_; intro kk d0
     refine s1 d0 52 (.bool ((repackS u0 u1 u2).2 == M)) ?_; intro kl d1
     have cA := d1.atom (((repackS u0 u1 u2).2 == M) == true) (by kernel_rfl)
     refine gd cA (.agg (e27Mz ((repackS u0 u1 u2).1) q u).toArray) (m := 0) (cj := []) (bj := (repackS u0 u1 u2).2 == M) rfl rfl (by kernel_rfl) rfl (by kernel_rfl) (by kernel_rfl) (by kernel_rfl) (fun hg => lda cA bR 1 (g := [0]) (b := l) (off := 0) (k := 6) (cs := (e27Mz ((repackS u0 u1 u2).1) q u)) (vs := (e27Mz ((repackS u0 u1 u2).1) q u)) (ty := 27) rfl (by kernel_rfl) (by kernel_rfl) (by kernel_rfl) (by kernel_rfl) (by kernel_rfl) hg) ?_; intro km d2
     refine gcl d2 bR (.bool (nofrS (repackS u0 u1 u2).1)) 13 #[.agg (e27Mz ((repackS u0 u1 u2).1) q u).toArray] (m := 0) (cj := []) (bj := (repackS u0 u1 u2).2 == M) rfl rfl (by kernel_rfl) rfl (by kernel_rfl) (by kernel_rfl) (by kernel_rfl) (fun _ => by kernel_rfl) (fun hg => nofr_fun (repackS u0 u1 u2).1 q u _ _ bc bR.fz) ?_; intro kn ko cB hb
     refine u_ cB (.bool (((repackS u0 u1 u2).2 == M) && (nofrS (repackS u0 u1 u2).1))) (pk_and cB (g := []) (m := 0) (b := (repackS u0 u1 u2).2 == M) (v := (nofrS (repackS u0 u1 u2).1)) rfl (by kernel_rfl) (by kernel_rfl) (by kernel_rfl) rfl) ?_; intro kp d3
     refine s1 d3 6 (.bool (((repackS u0 u1 u2).2 == M) && (nofrS (repackS u0 u1 u2).1))) ?_; intro kq hc
     apply dX
     exact r_ (h_ (ra1 hc (.bool (((repackS u0 u1 u2).2 == M) && (nofrS (repackS u0 u1 u2).1))) ⟨((repackS u0 u1 u2).2 == M) && (nofrS (repackS u0 u1 u2).1), rfl, g9, hb.below⟩))
    refine k_ (sqH ?_); intro he d4
    refine bt bd aw 2 [3] [] [(57, i6 u1.Size)] ?_; intro kr d5
    obtain ⟨ks, hf⟩ := hd
    refine mks d5 aw (T := t8) u1.Size u1.Size (k := .i64) (k' := .i64) (e := 5) (bytes := 1) (zs := [y8 0]) (z := 0) (by simp only [lim]; omega) (nog rfl _) rfl (by kernel_rfl) rfl (by kernel_rfl) (by kernel_rfl) (by kernel_rfl) (by kernel_rfl) rfl ?_; intro ax kt hh d6 d7
    have d8 : Mem w.heap.size [] w Z [.own t8 5 (sm ax) u1.Size.toNat (List.replicate u1.Size.toNat (0 : Int)), .row p [.slice x i.length y] 28, .row l (e27Mz ((repackS u0 u1 u2).1) q u) 27, .row B (e27Mz u2 ao7 cap8) 27, .row j (e24Mz u1 ao4 cap5) 24, .row A (e24Mz u0 ao1 cap2) 24] aK hh := d7
    refine nw d6 d8 pb [.slice none 0 0] 25 ?_; intro h ku kv cC d9
    refine sx cC d9 0 [.slice (sm ax) (List.replicate u1.Size.toNat (0 : Int)).length u1.Size.toNat] 0 ?_; intro ea eb
    have cD : Mem w.heap.size [] w Z [.row h [.slice (sm ax) (List.replicate u1.Size.toNat (0 : Int)).length u1.Size.toNat] 25, .own t8 5 (sm ax) u1.Size.toNat (List.replicate u1.Size.toNat (0 : Int)), .row p [.slice x i.length y] 28, .row l (e27Mz ((repackS u0 u1 u2).1) q u) 27, .row B (e27Mz u2 ao7 cap8) 27, .row j (e24Mz u1 ao4 cap5) 24, .row A (e24Mz u0 ao1 cap2) 24] aK ea := eb
    apply d4
    refine sqB cC cD [] [] [(12, .func (.func 17) #[] #[pt p 0, pt h 0])] ?_; intro kw ec
    refine s_ (sqB ec cD [5] [] [(62, .bool (decide (u1.Chooser ≥ 0)))] ?_); intro ed ee
    have ef : Fr 105 [] [⟨4, [], pt j 0⟩, ⟨7, [], pt l 0⟩, ⟨8, [], i6 (repackS u0 u1 u2).2⟩, ⟨11, [], pt h 0⟩, ⟨12, [], .func (.func 17) #[] #[pt p 0, pt h 0]⟩, ⟨62, [], .bool (decide (u1.Chooser ≥ 0))⟩] ed := ee.reg
    obtain ⟨aL, ay, eg, bV⟩ := cD.freeze 1 rfl
    replace bb := bb.mono ay
    replace bc := bc.mono ay
    replace bN := bN.mono ay
    have aM : Mem w.heap.size [] w Z [.row h [.slice (sm ax) (List.replicate u1.Size.toNat (0 : Int)).length u1.Size.toNat] 25, .row p [.slice x i.length y] 28, .row l (e27Mz ((repackS u0 u1 u2).1) q u) 27, .row B (e27Mz u2 ao7 cap8) 27, .row j (e24Mz u1 ao4 cap5) 24, .row A (e24Mz u0 ao1 cap2) 24] aL ea := eg
    have be : Fr 105 [] [⟨4, [], pt j 0⟩, ⟨7, [], pt l 0⟩, ⟨8, [], i6 (repackS u0 u1 u2).2⟩, ⟨11, [], pt h 0⟩, ⟨12, [], .func (.func 17) #[] #[pt p 0, pt h 0]⟩, ⟨62, [], .bool (decide (u1.Chooser ≥ 0))⟩] ed := ef.reg
    obtain ⟨hi, bW, hj⟩ := hf
    refine wp_then_k fun KJ232 hKJ233 => ?_
    have eh : ∀ (aN : List Int) (bX : Option Addr) (bY : Nat) (an : Fz), hi aN ∧ SlR t8 an bX bY aN ∧ Fz.le aL an → ∀ a1 w1, Fr 105 [] [⟨4, [], pt j 0⟩, ⟨7, [], pt l 0⟩, ⟨8, [], i6 (repackS u0 u1 u2).2⟩, ⟨11, [], pt h 0⟩, ⟨12, [], .func (.func 17) #[] #[pt p 0, pt h 0]⟩] a1 → Mem w.heap.size [] w Z [.row h [.slice bX aN.length bY] 25, .row p [.slice x i.length y] 28, .row l (e27Mz ((repackS u0 u1 u2).1) q u) 27, .row B (e27Mz u2 ao7 cap8) 27, .row j (e24Mz u1 ao4 cap5) 24, .row A (e24Mz u0 ao1 cap2) 24] an w1 → KJ232 a1 w1 := by
     rintro aN bX bY an ⟨hk, cE, ae⟩ kx ky ei bZ
     refine hKJ233 _ _ ?_
     have hl := hj aN hk
     have ek := bb.mono ae
     have em := bc.mono ae
     have en := bN.mono ae
     refine s_ (sqB ei bZ [4] [] [(72, .slice ao4 u1.Signals.length cap5), (73, i6 (u1.Signals.length : Int)), (74, i6 0)] ?_); intro b0 eq
     have er : Fr 105 [] [⟨4, [], pt j 0⟩, ⟨7, [], pt l 0⟩, ⟨8, [], i6 (repackS u0 u1 u2).2⟩, ⟨11, [], pt h 0⟩, ⟨12, [], .func (.func 17) #[] #[pt p 0, pt h 0]⟩, ⟨72, [], .slice ao4 u1.Signals.length cap5⟩, ⟨73, [], i6 (u1.Signals.length : Int)⟩, ⟨74, [], i6 0⟩] b0 := eq.reg
     obtain ⟨hn, ho, hq⟩ := hl
     refine wp_then_k fun KJ262 hKJ263 => ?_
     have hr : ∀ (D : List Int) (H : Option Addr) (I : Nat) (b1 : Fz), hn D ∧ SlR t8 b1 H I D ∧ Fz.le an b1 → ∀ a1 w1, Fr 105 [] [⟨4, [], pt j 0⟩, ⟨7, [], pt l 0⟩, ⟨8, [], i6 (repackS u0 u1 u2).2⟩, ⟨11, [], pt h 0⟩] a1 → Mem w.heap.size [] w Z [.row h [.slice H D.length I] 25, .row p [.slice x i.length y] 28, .row l (e27Mz ((repackS u0 u1 u2).1) q u) 27, .row B (e27Mz u2 ao7 cap8) 27, .row j (e24Mz u1 ao4 cap5) 24, .row A (e24Mz u0 ao1 cap2) 24] b1 w1 → KJ262 a1 w1 := by
      rintro D H I b1 ⟨hs, ad, af⟩ kz kA es az
      refine hKJ263 _ _ ?_
      have ht := hq D hs
      have hu := em.mono af
      refine sqH ?_; intro hv et
      refine s1 es 93 (i6 (repackS u0 u1 u2).2) ?_; intro kJ eu
      refine s1 eu 94 (.bool ((repackS u0 u1 u2).2 == 0)) ?_; intro kK ev
      refine s1 ev 95 (.bool ((repackS u0 u1 u2).2 == 0)) ?_; intro kL ew
      have cG := ew.atom (((repackS u0 u1 u2).2 == 0) == true) (by kernel_rfl)
      refine gd cG (.agg (e27Mz ((repackS u0 u1 u2).1) q u).toArray) (m := 0) (cj := []) (bj := (repackS u0 u1 u2).2 == 0) rfl rfl (by kernel_rfl) rfl (by kernel_rfl) (by kernel_rfl) (by kernel_rfl) (fun hg => lda cG az 2 (g := [0]) (b := l) (off := 0) (k := 6) (cs := (e27Mz ((repackS u0 u1 u2).1) q u)) (vs := (e27Mz ((repackS u0 u1 u2).1) q u)) (ty := 27) rfl (by kernel_rfl) (by kernel_rfl) (by kernel_rfl) (by kernel_rfl) (by kernel_rfl) hg) ?_; intro kM ex
      refine gp ex 97 0 [] ((repackS u0 u1 u2).2 == 0) (pt j 0) rfl rfl ?_; intro kN cH
      refine gd cH (i6 u1.ID) (m := 0) (cj := []) (bj := (repackS u0 u1 u2).2 == 0) rfl rfl (by kernel_rfl) rfl (by kernel_rfl) (by kernel_rfl) (by kernel_rfl) (fun hg => ld cH az 4 (g := [0]) (b := j) (off := 0) (cs := (e24Mz u1 ao4 cap5)) (ty := 24) rfl (by kernel_rfl) (by kernel_rfl) (by kernel_rfl) (by kernel_rfl) hg) ?_; intro kO ey
      refine gp ey 99 0 [] ((repackS u0 u1 u2).2 == 0) (pt j 1) rfl rfl ?_; intro kP cI
      refine gd cI (.bool u1.Long) (m := 0) (cj := []) (bj := (repackS u0 u1 u2).2 == 0) rfl rfl (by kernel_rfl) rfl (by kernel_rfl) (by kernel_rfl) (by kernel_rfl) (fun hg => ld cI az 4 (g := [0]) (b := j) (off := 1) (cs := (e24Mz u1 ao4 cap5)) (ty := 24) rfl (by kernel_rfl) (by kernel_rfl) (by kernel_rfl) (by kernel_rfl) hg) ?_; intro kQ cJ
      refine gd cJ (.slice H D.length I) (m := 0) (cj := []) (bj := (repackS u0 u1 u2).2 == 0) rfl rfl (by kernel_rfl) rfl (by kernel_rfl) (by kernel_rfl) (by kernel_rfl) (fun hg => ld cJ az 0 (g := [0]) (b := h) (off := 0) (cs := [.slice H D.length I]) (ty := 25) rfl (by kernel_rfl) (by kernel_rfl) (by kernel_rfl) (by kernel_rfl) hg) ?_; intro kR ez
      refine gp ez 102 0 [] ((repackS u0 u1 u2).2 == 0) (.agg #[i6 u1.ID, .bool u1.Long, .bool false, .bool false, i6 0, .slice H D.length I]) rfl rfl ?_; intro kS eA
      refine gcl eA az (.bool (rsameS (repackS u0 u1 u2).1 (⟨u1.ID, u1.Long, false, false, 0, D⟩ : Frame))) 15 #[.agg (e27Mz ((repackS u0 u1 u2).1) q u).toArray, .agg #[i6 u1.ID, .bool u1.Long, .bool false, .bool false, i6 0, .slice H D.length I]] (m := 0) (cj := []) (bj := (repackS u0 u1 u2).2 == 0) rfl rfl (by kernel_rfl) rfl (by kernel_rfl) (by kernel_rfl) (by kernel_rfl) (fun _ => by kernel_rfl) (fun hg => rsame_fun (repackS u0 u1 u2).1 (⟨u1.ID, u1.Long, false, false, 0, D⟩ : Frame) q u H I _ _ hu ad az.fz) ?_; intro kT kU cK hw
      refine u_ cK (.bool (((repackS u0 u1 u2).2 == 0) && (rsameS (repackS u0 u1 u2).1 (⟨u1.ID, u1.Long, false, false, 0, D⟩ : Frame)))) (pk_and cK (g := []) (m := 0) (b := (repackS u0 u1 u2).2 == 0) (v := (rsameS (repackS u0 u1 u2).1 (⟨u1.ID, u1.Long, false, false, 0, D⟩ : Frame))) rfl (by kernel_rfl) (by kernel_rfl) (by kernel_rfl) rfl) ?_; intro kV eB
      refine s1 eB 6 (.bool (((repackS u0 u1 u2).2 == 0) && (rsameS (repackS u0 u1 u2).1 (⟨u1.ID, u1.Long, false, false, 0, D⟩ : Frame)))) ?_; intro kW hx
      apply et
      exact r_ (ra1 hx (.bool (((repackS u0 u1 u2).2 == 0) && (rsameS (repackS u0 u1 u2).1 (⟨u1.ID, u1.Long, false, false, 0, D⟩ : Frame)))) ⟨((repackS u0 u1 u2).2 == 0) && (rsameS (repackS u0 u1 u2).1 (⟨u1.ID, u1.Long, false, false, 0, D⟩ : Frame)), rfl, ht, hw.below⟩)
     have hy := Fz.le.refl an
     apply b_
     have eC : Fr 105 [] [⟨4, [], pt j 0⟩, ⟨7, [], pt l 0⟩, ⟨8, [], i6 (repackS u0 u1 u2).2⟩, ⟨11, [], pt h 0⟩, ⟨12, [], .func (.func 17) #[] #[pt p 0, pt h 0]⟩, ⟨72, [], .slice ao4 u1.Signals.length cap5⟩, ⟨73, [], i6 (u1.Signals.length : Int)⟩, ⟨74, [], i6 0⟩] b0 := er.reg
     obtain ⟨hz, hA, hB, hC⟩ := ho
     refine lp (ι := Int × (List Int) × (Option Addr) × Nat × Fz) (fun s => [⟨4, [], pt j 0⟩, ⟨7, [], pt l 0⟩, ⟨8, [], i6 (repackS u0 u1 u2).2⟩, ⟨11, [], pt h 0⟩, ⟨12, [], .func (.func 17) #[] #[pt p 0, pt h 0]⟩, ⟨72, [], .slice ao4 u1.Signals.length cap5⟩, ⟨73, [], i6 (u1.Signals.length : Int)⟩, ⟨74, [], i6 s.1⟩]) (fun s => [.row h [.slice s.2.2.1 s.2.1.length s.2.2.2.1] 25, .row p [.slice x i.length y] 28, .row l (e27Mz ((repackS u0 u1 u2).1) q u) 27, .row B (e27Mz u2 ao7 cap8) 27, .row j (e24Mz u1 ao4 cap5) 24, .row A (e24Mz u0 ao1 cap2) 24]) (fun s => s.2.2.2.2) (fun s => hz s.1 s.2.1 ∧ SlR t8 s.2.2.2.2 s.2.2.1 s.2.2.2.1 s.2.1 ∧ Fz.le an s.2.2.2.2) (fun s => hA s.1 s.2.1) ⟨0, aN, bX, bY, an⟩ ⟨hB, cE, Fz.le.refl _⟩ (by exact eC.reg) (by exact bZ) ?_
     rintro ⟨P, F, U, V, aj⟩ ⟨hD, ak, Y⟩ hE hF eE eF
     have b2 := hC P F hD
     have b3 := ek.mono Y
     have eK := en.mono Y
     have cL := hy.mono Y
     refine sqB eE eF [] [] [(75, .bool (decide (P < (u1.Signals.length : Int))))] ?_; intro eP b4
     refine s_ (c_ b4 b2 (fun _ hG => ?_) fun _ iH => ?_)
     ·
      apply k_
      have eQ : Fr 105 [] [⟨4, [], pt j 0⟩, ⟨7, [], pt l 0⟩, ⟨8, [], i6 (repackS u0 u1 u2).2⟩, ⟨11, [], pt h 0⟩, ⟨12, [], .func (.func 17) #[] #[pt p 0, pt h 0]⟩, ⟨72, [], .slice ao4 u1.Signals.length cap5⟩, ⟨73, [], i6 (u1.Signals.length : Int)⟩, ⟨74, [], i6 P⟩] eP := b4.reg
      obtain ⟨hH, hI, hJ⟩ := hG
      refine wp_seq_k fun KJ345 hKJ346 => ?_
      have cO : ∀ (aP : List Int) (b5 : Option Addr) (b6 : Nat) (bf : Fz), hH aP ∧ SlR t8 bf b5 b6 aP ∧ Fz.le aj bf → ∀ a1 w1, Fr 105 [] [⟨4, [], pt j 0⟩, ⟨7, [], pt l 0⟩, ⟨8, [], i6 (repackS u0 u1 u2).2⟩, ⟨11, [], pt h 0⟩, ⟨12, [], .func (.func 17) #[] #[pt p 0, pt h 0]⟩, ⟨72, [], .slice ao4 u1.Signals.length cap5⟩, ⟨73, [], i6 (u1.Signals.length : Int)⟩, ⟨74, [], i6 P⟩] a1 → Mem w.heap.size [] w Z [.row h [.slice b5 aP.length b6] 25, .row p [.slice x i.length y] 28, .row l (e27Mz ((repackS u0 u1 u2).1) q u) 27, .row B (e27Mz u2 ao7 cap8) 27, .row j (e24Mz u1 ao4 cap5) 24, .row A (e24Mz u0 ao1 cap2) 24] bf w1 → KJ345 a1 w1 := by
       rintro aP b5 b6 bf ⟨hK, hL, aa⟩ kY kZ eR eS
       refine hKJ346 _ _ ?_
       have eT := hJ aP hK
       have hM := Y.mono aa
       refine rgB eR eS [] [] [(74, i6 (w64 (P + 1)))] ?_; intro lb hN
       exact d_ ⟨⟨w64 (P + 1), aP, b5, b6, bf⟩, ⟨eT.1, hL, hM⟩, eT.2, (hN.reg).anyβ _ (by kernel_rfl), eS.kp⟩
      have cP := Fz.le.refl aj
      refine b_ (sqH ?_); intro hO eU
      refine s1 eQ 76 (i6 P) ?_; intro lc eV
      obtain ⟨hP, eW⟩ := hI
      refine ix_ eV b3 P hP .i64 46 72 ?_; intro lf lg hQ a lh hR eX hS eY
      have b7 := eW a hR
      obtain rfl : hQ = ((e46Mz a) : List Value) := hS
      refine z2 eY eF 78 eX 0 9 (e46Mz a) rfl ?_; intro li eZ
      refine nw eZ eF pb [str [], i6 0, i6 0, .bool false, .bool false, i6 0, i6 0, i6 0, i6 0] 46 ?_; intro al lj lk e0 e1
      refine s1 e0 13 (i6 P) ?_; intro ll cQ
      refine sx cQ e1 0 (e46Mz a) 0 ?_; intro hT e2
      have aA : Mem w.heap.size [] w Z [.row al (e46Mz a) 46, .row h [.slice U F.length V] 25, .row p [.slice x i.length y] 28, .row l (e27Mz ((repackS u0 u1 u2).1) q u) 27, .row B (e27Mz u2 ao7 cap8) 27, .row j (e24Mz u1 ao4 cap5) 24, .row A (e24Mz u0 ao1 cap2) 24] aj hT := e2
      apply eU
      refine sqH ?_; intro e3 b8
      refine bt cQ aA 5 [5] [] [(83, .bool (P != u1.Chooser))] ?_; intro lm b9
      refine e_ b7 (fun bg hU => ?_) fun bg iG => ?_
      ·
       have e4 := b9.reval (d := 83) (c := []) (v := .bool (P != u1.Chooser)) (by kernel_rfl) (.bool true) (by rw [bg])
       refine bt e4 aA 3 [5, 0, 1] [84, 85, 86] [(84, .agg (e24Mz u1 ao4 cap5).toArray), (85, .agg (e46Mz a).toArray), (86, .slice U F.length V)] ?_; intro ln cR
       obtain ⟨hV, ca⟩ := hU
       refine fcl cR aA (.bool (mthereS u1 a F)) 20 #[.agg (e24Mz u1 ao4 cap5).toArray, .agg (e46Mz a).toArray, .slice U F.length V] (wK cR true) rfl (by kernel_rfl) (fun _ => by kernel_rfl) (rthere_fun u1 a F hV ao4 cap5 U V _ _ b3 ak aA.fz) ?_; intro lo lq e5 cb
       refine s1 e5 88 (.bool (mthereS u1 a F)) ?_; intro lr cc
       apply b8
       refine c_ cc ca (fun _ hW => ?_) fun _ iF => ?_
       ·
        refine rgH ?_; intro hX e6
        refine bt cc cb 2 [0] [] [(89, .func (.func 17) #[] #[pt p 0, pt h 0]), (90, .agg (e46Mz a).toArray)] ?_; intro ls e7
        refine ck e7 17 #[.agg (e46Mz a).toArray, pt p 0, pt h 0] ?_
        refine enter0 Tryz.func17 rfl rfl (by kernel_rfl) ?_; intro lt e8
        refine sqH ?_; intro hY e9
        refine nw e8 cb pb (e46Mz a) 46 ?_; intro Q h0 lu fa cT
        apply e9
        have fb : Fr 35 [] [⟨1, [], pt p 0⟩, ⟨2, [], pt h 0⟩, ⟨3, [], pt Q 0⟩] h0 := fa.reg
        refine sqB fb cT [3] [] [(8, .slice x i.length y), (9, i6 (i.length : Int)), (10, i6 0)] ?_; intro fd fe
        apply b_
        have ff : Fr 35 [] [⟨2, [], pt h 0⟩, ⟨3, [], pt Q 0⟩, ⟨8, [], .slice x i.length y⟩, ⟨9, [], i6 (i.length : Int)⟩, ⟨10, [], i6 0⟩] fd := fe.reg
        obtain ⟨h1, h2, h3, h4⟩ := hW
        refine lp (ι := Int × (List Int) × (Option Addr) × Nat × Fz) (fun s => [⟨2, [], pt h 0⟩, ⟨3, [], pt Q 0⟩, ⟨8, [], .slice x i.length y⟩, ⟨9, [], i6 (i.length : Int)⟩, ⟨10, [], i6 s.1⟩]) (fun s => [.row Q (e46Mz a) 46, .row al (e46Mz a) 46, .row h [.slice s.2.2.1 s.2.1.length s.2.2.2.1] 25, .row p [.slice x i.length y] 28, .row l (e27Mz ((repackS u0 u1 u2).1) q u) 27, .row B (e27Mz u2 ao7 cap8) 27, .row j (e24Mz u1 ao4 cap5) 24, .row A (e24Mz u0 ao1 cap2) 24]) (fun s => s.2.2.2.2) (fun s => h1 s.1 s.2.1 ∧ SlR t8 s.2.2.2.2 s.2.2.1 s.2.2.2.1 s.2.1 ∧ Fz.le aj s.2.2.2.2) (fun s => h2 s.1 s.2.1) ⟨0, F, U, V, aj⟩ ⟨h3, ak, Fz.le.refl _⟩ (by exact ff.reg) (by exact cT) ?_
        rintro ⟨E, N, ag, ah, ao⟩ ⟨h5, am, G⟩ h6 fh fi fj
        have ce := h4 E N h5
        have aQ := eK.mono G
        have aR := cP.mono G
        refine sqB fi fj [] [] [(11, .bool (decide (E < (i.length : Int))))] ?_; intro fl aS
        refine s_ (c_ aS ce (fun _ h7 => ?_) fun _ iC => ?_)
        ·
         apply k_
         have fm : Fr 35 [] [⟨2, [], pt h 0⟩, ⟨3, [], pt Q 0⟩, ⟨8, [], .slice x i.length y⟩, ⟨9, [], i6 (i.length : Int)⟩, ⟨10, [], i6 E⟩] fl := aS.reg
         obtain ⟨h8, h9, ia⟩ := h7
         refine wp_seq_k fun KJ488 hKJ489 => ?_
         have cW : ∀ (aT : List Int) (cf : Option Addr) (cg : Nat) (bv : Fz), h8 aT ∧ SlR t8 bv cf cg aT ∧ Fz.le ao bv → ∀ a1 w1, Fr 35 [] [⟨2, [], pt h 0⟩, ⟨3, [], pt Q 0⟩, ⟨8, [], .slice x i.length y⟩, ⟨9, [], i6 (i.length : Int)⟩, ⟨10, [], i6 E⟩] a1 → Mem w.heap.size [] w Z [.row Q (e46Mz a) 46, .row al (e46Mz a) 46, .row h [.slice cf aT.length cg] 25, .row p [.slice x i.length y] 28, .row l (e27Mz ((repackS u0 u1 u2).1) q u) 27, .row B (e27Mz u2 ao7 cap8) 27, .row j (e24Mz u1 ao4 cap5) 24, .row A (e24Mz u0 ao1 cap2) 24] bv w1 → KJ488 a1 w1 := by
          rintro aT cf cg bv ⟨ib, ic, O⟩ lw lx fo fp
          refine hKJ489 _ _ ?_
          have fq := ia aT ib
          have id := G.mono O
          refine rgB fo fp [] [] [(10, i6 (w64 (E + 1)))] ?_; intro lN ie
          exact d_ ⟨⟨w64 (E + 1), aT, cf, cg, bv⟩, ⟨fq.1, ic, id⟩, fq.2, (ie.reg).anyβ _ (by kernel_rfl), fp.kp⟩
         have aC := Fz.le.refl ao
         refine b_ (sqH ?_); intro ig fr
         obtain ⟨ih, fs⟩ := h9
         refine ix_ fm aQ E ih .i64 37 32 ?_; intro lO lP ii n lQ ij bw ik ft
         have ch := fs n ij
         obtain rfl : ii = ((e37Mz n) : List Value) := ik
         refine z2 ft fj 13 bw 0 3 (e37Mz n) rfl ?_; intro lR fu
         refine nw fu fj pb [str [], i6 0, i6 0] 37 ?_; intro ci lS lT cX fv
         refine sx cX fv 0 (e37Mz n) 0 ?_; intro il fw
         have aU : Mem w.heap.size [] w Z [.row ci (e37Mz n) 37, .row Q (e46Mz a) 46, .row al (e46Mz a) 46, .row h [.slice ag N.length ah] 25, .row p [.slice x i.length y] 28, .row l (e27Mz ((repackS u0 u1 u2).1) q u) 27, .row B (e27Mz u2 ao7 cap8) 27, .row j (e24Mz u1 ao4 cap5) 24, .row A (e24Mz u0 ao1 cap2) 24] ao il := fw
         apply fr
         refine sqB cX aU [0, 1] [53] [(18, .bool (n.Name == a.Name))] ?_; intro lU cl
         refine c_ cl ch (fun _ im => ?_) fun _ iB => ?_
         ·
          refine sqH ?_; intro io fx
          refine bt cl aU 5 [1, 0, 0] [] [(20, .agg (e46Mz a).toArray), (22, i6 n.Num), (24, i6 n.Den)] ?_; intro lV fy
          obtain ⟨ip, cm⟩ := im
          refine fc fy aU (runm_fun a n.Num n.Den ip _ _ aU.fz) ?_; intro lW lX fA aD
          refine bt fA aD 5 [] [] [(6, i6 (rawS a n.Num n.Den).1), (7, i6 (rawS a n.Num n.Den).2)] ?_; intro lY fB
          apply fx
          refine sqB fB aD [] [] [(29, .bool ((rawS a n.Num n.Den).2 == 0))] ?_; intro lZ cn
          refine c_ cn cm (fun _ iq => ?_) fun _ iA => ?_
          ·
           refine rgH ?_; intro ir fC
           refine bt cn aD 3 [1, 3] [] [(30, .agg (e46Mz a).toArray), (31, .slice ag N.length ah), (32, i6 (rawS a n.Num n.Den).1)] ?_; intro l0 fD
           obtain ⟨it, fE⟩ := iq
           refine ck fD 19 #[.agg (e46Mz a).toArray, .slice ag N.length ah, i6 (rawS a n.Num n.Den).1] ?_
           refine (rsetraw_fun a N (rawS a n.Num n.Den).1 it ag ah _ _ am aD.fz).mono ?_; rintro _ iu ⟨aV, aW, fF, rfl, hm⟩; refine ⟨_, rfl, ?_⟩; intro l1 fG; have fH := aD.callZ hm; have J := hm.ext.le
           replace aC := aC.mono J
           have c0 : Mem w.heap.size [] w Z [.own t8 5 aV aW (putS a N (rawS a n.Num n.Den).1), .row ci (e37Mz n) 37, .row Q (e46Mz a) 46, .row al (e46Mz a) 46, .row h [.slice ag N.length ah] 25, .row p [.slice x i.length y] 28, .row l (e27Mz ((repackS u0 u1 u2).1) q u) 27, .row B (e27Mz u2 ao7 cap8) 27, .row j (e24Mz u1 ao4 cap5) 24, .row A (e24Mz u0 ao1 cap2) 24] fF iu := fH
           have iv := fE (c0.ownSmall 0 rfl)
           refine sx fG c0 4 [.slice aV (putS a N (rawS a n.Num n.Den).1).length aW] 0 ?_; intro fI fJ
           have iw : Mem w.heap.size [] w Z [.own t8 5 aV aW (putS a N (rawS a n.Num n.Den).1), .row ci (e37Mz n) 37, .row Q (e46Mz a) 46, .row al (e46Mz a) 46, .row h [.slice aV (putS a N (rawS a n.Num n.Den).1).length aW] 25, .row p [.slice x i.length y] 28, .row l (e27Mz ((repackS u0 u1 u2).1) q u) 27, .row B (e27Mz u2 ao7 cap8) 27, .row j (e24Mz u1 ao4 cap5) 24, .row A (e24Mz u0 ao1 cap2) 24] fF fI := fJ
           apply fC
           refine j_ (d_ ?_)
           obtain ⟨fK, L, fL, iy⟩ := iw.freeze 0 rfl
           replace aC := aC.mono L
           have iz : Mem w.heap.size [] w Z [.row ci (e37Mz n) 37, .row Q (e46Mz a) 46, .row al (e46Mz a) 46, .row h [.slice aV (putS a N (rawS a n.Num n.Den).1).length aW] 25, .row p [.slice x i.length y] 28, .row l (e27Mz ((repackS u0 u1 u2).1) q u) 27, .row B (e27Mz u2 ao7 cap8) 27, .row j (e24Mz u1 ao4 cap5) 24, .row A (e24Mz u0 ao1 cap2) 24] fK fI := fL
           exact cW (putS a N (rawS a n.Num n.Den).1) aV aW fK ⟨iv, iy, aC⟩ _ _ ((fG.reg).anyβ _ (by kernel_rfl)) (iz.kp)
          exact l_ (j_ (d_ (cW N ag ah ao ⟨iA, am, aC⟩ _ _ ((cn.reg).anyβ _ (by kernel_rfl)) (aD.kp))))
         exact l_ (j_ (d_ (cW N ag ah ao ⟨iB, am, aC⟩ _ _ ((cl.reg).anyβ _ (by kernel_rfl)) (aU.kp))))
        refine x_ (y_ (y_ (z_ (rN (fn := Tryz.f17) (v := .tuple #[]) aS (re0 aS (fn := Tryz.f17) rfl) ?_))))
        refine ⟨_, rfl, ?_⟩; intro l3 iD
        have iE : Mem w.heap.size [] w Z [.row Q (e46Mz a) 46, .row al (e46Mz a) 46, .row h [.slice ag N.length ah] 25, .row p [.slice x i.length y] 28, .row l (e27Mz ((repackS u0 u1 u2).1) q u) 27, .row B (e27Mz u2 ao7 cap8) 27, .row j (e24Mz u1 ao4 cap5) 24, .row A (e24Mz u0 ao1 cap2) 24] ao fh := fj
        apply e6
        exact j_ (d_ (cO N ag ah ao ⟨iC, am, aR⟩ _ _ ((iD.reg).anyβ _ (by kernel_rfl)) (iE.kp)))
       exact l_ (j_ (d_ (cO F U V aj ⟨iF, ak, cP⟩ _ _ ((cc.reg).anyβ _ (by kernel_rfl)) (cb.kp))))
      have fM := b9.reval (d := 83) (c := []) (v := .bool (P != u1.Chooser)) (by kernel_rfl) (.bool false) (by rw [bg])
      refine bt fM aA 5 [] [84, 85, 86, 87, 88] [(88, .bool false)] ?_; intro l4 fN
      apply b8
      refine cdF fN (by kernel_rfl) ?_
      exact l_ (j_ (d_ (cO F U V aj ⟨iG, ak, cP⟩ _ _ ((fN.reg).anyβ _ (by kernel_rfl)) (aA.kp))))
     exact x_ (y_ (y_ (z_ (d_ (hr F U V aj ⟨iH, ak, cL⟩ _ _ ((b4.reg).anyβ _ (by kernel_rfl)) (eF.kp))))))
    have fO := Fz.le.refl aL
    refine c_ be bW (fun _ iI => ?_) fun _ jr => ?_
    ·
     refine rgH ?_; intro iJ fP
     refine bt be aM 5 [4, 4] [] [(63, .func (.func 17) #[] #[pt p 0, pt h 0]), (65, .slice ao4 u1.Signals.length cap5), (67, i6 u1.Chooser)] ?_; intro l5 fQ
     obtain ⟨iK, fR⟩ := iI
     refine ix_ fQ bb u1.Chooser iK .i64 46 72 ?_; intro l6 l7 iL f l8 iM fS iN fT
     have iO := fR f iM
     obtain rfl : iL = ((e46Mz f) : List Value) := iN
     refine z2 fT aM 69 fS 0 9 (e46Mz f) rfl ?_; intro l9 fU
     refine ck fU 17 #[.agg (e46Mz f).toArray, pt p 0, pt h 0] ?_
     refine enter0 Tryz.func17 rfl rfl (by kernel_rfl) ?_; intro ma fV
     refine sqH ?_; intro iP fW
     refine nw fV aM pb (e46Mz f) 46 ?_; intro R iQ mb fX c2
     apply fW
     have fY : Fr 35 [] [⟨1, [], pt p 0⟩, ⟨2, [], pt h 0⟩, ⟨3, [], pt R 0⟩] iQ := fX.reg
     refine sqB fY c2 [2] [] [(8, .slice x i.length y), (9, i6 (i.length : Int)), (10, i6 0)] ?_; intro fZ f0
     apply b_
     have f1 : Fr 35 [] [⟨2, [], pt h 0⟩, ⟨3, [], pt R 0⟩, ⟨8, [], .slice x i.length y⟩, ⟨9, [], i6 (i.length : Int)⟩, ⟨10, [], i6 0⟩] fZ := f0.reg
     obtain ⟨iR, iS, iT, iU⟩ := iO
     refine lp (ι := Int × (List Int) × (Option Addr) × Nat × Fz) (fun s => [⟨2, [], pt h 0⟩, ⟨3, [], pt R 0⟩, ⟨8, [], .slice x i.length y⟩, ⟨9, [], i6 (i.length : Int)⟩, ⟨10, [], i6 s.1⟩]) (fun s => [.row R (e46Mz f) 46, .row h [.slice s.2.2.1 s.2.1.length s.2.2.2.1] 25, .row p [.slice x i.length y] 28, .row l (e27Mz ((repackS u0 u1 u2).1) q u) 27, .row B (e27Mz u2 ao7 cap8) 27, .row j (e24Mz u1 ao4 cap5) 24, .row A (e24Mz u0 ao1 cap2) 24]) (fun s => s.2.2.2.2) (fun s => iR s.1 s.2.1 ∧ SlR t8 s.2.2.2.2 s.2.2.1 s.2.2.2.1 s.2.1 ∧ Fz.le aL s.2.2.2.2) (fun s => iS s.1 s.2.1) ⟨0, (List.replicate u1.Size.toNat (0 : Int)), (sm ax), u1.Size.toNat, aL⟩ ⟨iT, bV, Fz.le.refl _⟩ (by exact f1.reg) (by exact c2) ?_
     rintro ⟨E, D, H, I, ap⟩ ⟨iV, ad, S⟩ iW f3 f4 f5
     have co := iU E D iV
     have aX := bN.mono S
     have aY := fO.mono S
     refine sqB f4 f5 [] [] [(11, .bool (decide (E < (i.length : Int))))] ?_; intro f7 aZ
     refine s_ (c_ aZ co (fun _ iX => ?_) fun _ jo => ?_)
     ·
      apply k_
      have f8 : Fr 35 [] [⟨2, [], pt h 0⟩, ⟨3, [], pt R 0⟩, ⟨8, [], .slice x i.length y⟩, ⟨9, [], i6 (i.length : Int)⟩, ⟨10, [], i6 E⟩] f7 := aZ.reg
      obtain ⟨iY, iZ, i0⟩ := iX
      refine wp_seq_k fun KJ713 hKJ714 => ?_
      have c5 : ∀ (F : List Int) (U : Option Addr) (V : Nat) (bF : Fz), iY F ∧ SlR t8 bF U V F ∧ Fz.le ap bF → ∀ a1 w1, Fr 35 [] [⟨2, [], pt h 0⟩, ⟨3, [], pt R 0⟩, ⟨8, [], .slice x i.length y⟩, ⟨9, [], i6 (i.length : Int)⟩, ⟨10, [], i6 E⟩] a1 → Mem w.heap.size [] w Z [.row R (e46Mz f) 46, .row h [.slice U F.length V] 25, .row p [.slice x i.length y] 28, .row l (e27Mz ((repackS u0 u1 u2).1) q u) 27, .row B (e27Mz u2 ao7 cap8) 27, .row j (e24Mz u1 ao4 cap5) 24, .row A (e24Mz u0 ao1 cap2) 24] bF w1 → KJ713 a1 w1 := by
       rintro F U V bF ⟨i1, ak, ab⟩ md me f9 ga
       refine hKJ714 _ _ ?_
       have gb := i0 F i1
       have i2 := S.mono ab
       refine rgB f9 ga [] [] [(10, i6 (w64 (E + 1)))] ?_; intro mp i3
       exact d_ ⟨⟨w64 (E + 1), F, U, V, bF⟩, ⟨gb.1, ak, i2⟩, gb.2, (i3.reg).anyβ _ (by kernel_rfl), ga.kp⟩
      have aF := Fz.le.refl ap
      refine b_ (sqH ?_); intro i4 gc
      obtain ⟨i5, ge⟩ := iZ
      refine ix_ f8 aX E i5 .i64 37 32 ?_; intro mq mr i7 o ms i8 bG i9 gf
      have cp := ge o i8
      obtain rfl : i7 = ((e37Mz o) : List Value) := i9
      refine z2 gf f5 13 bG 0 3 (e37Mz o) rfl ?_; intro mt gg
      refine nw gg f5 pb [str [], i6 0, i6 0] 37 ?_; intro cq mu mv c6 gh
      refine sx c6 gh 0 (e37Mz o) 0 ?_; intro ja gi
      have a2 : Mem w.heap.size [] w Z [.row cq (e37Mz o) 37, .row R (e46Mz f) 46, .row h [.slice H D.length I] 25, .row p [.slice x i.length y] 28, .row l (e27Mz ((repackS u0 u1 u2).1) q u) 27, .row B (e27Mz u2 ao7 cap8) 27, .row j (e24Mz u1 ao4 cap5) 24, .row A (e24Mz u0 ao1 cap2) 24] ap ja := gi
      apply gc
      refine sqB c6 a2 [0, 1] [53] [(18, .bool (o.Name == f.Name))] ?_; intro mw cr
      refine c_ cr cp (fun _ jb => ?_) fun _ jn => ?_
      ·
       refine sqH ?_; intro jc gj
       refine bt cr a2 5 [1, 0, 0] [] [(20, .agg (e46Mz f).toArray), (22, i6 o.Num), (24, i6 o.Den)] ?_; intro mx gk
       obtain ⟨jd, ct⟩ := jb
       refine fc gk a2 (runm_fun f o.Num o.Den jd _ _ a2.fz) ?_; intro my mz gl aG
       refine bt gl aG 5 [] [] [(6, i6 (rawS f o.Num o.Den).1), (7, i6 (rawS f o.Num o.Den).2)] ?_; intro mA gm
       apply gj
       refine sqB gm aG [] [] [(29, .bool ((rawS f o.Num o.Den).2 == 0))] ?_; intro mB cu
       refine c_ cu ct (fun _ je => ?_) fun _ jm => ?_
       ·
        refine rgH ?_; intro jf gn
        refine bt cu aG 3 [1, 2] [] [(30, .agg (e46Mz f).toArray), (31, .slice H D.length I), (32, i6 (rawS f o.Num o.Den).1)] ?_; intro mC go
        obtain ⟨jg, gq⟩ := je
        refine ck go 19 #[.agg (e46Mz f).toArray, .slice H D.length I, i6 (rawS f o.Num o.Den).1] ?_
        refine (rsetraw_fun f D (rawS f o.Num o.Den).1 jg H I _ _ ad aG.fz).mono ?_; rintro _ jh ⟨a3, a4, gr, rfl, hm⟩; refine ⟨_, rfl, ?_⟩; intro mD gs; have gt := aG.callZ hm; have W := hm.ext.le
        replace aF := aF.mono W
        have c9 : Mem w.heap.size [] w Z [.own t8 5 a3 a4 (putS f D (rawS f o.Num o.Den).1), .row cq (e37Mz o) 37, .row R (e46Mz f) 46, .row h [.slice H D.length I] 25, .row p [.slice x i.length y] 28, .row l (e27Mz ((repackS u0 u1 u2).1) q u) 27, .row B (e27Mz u2 ao7 cap8) 27, .row j (e24Mz u1 ao4 cap5) 24, .row A (e24Mz u0 ao1 cap2) 24] gr jh := gt
        have ji := gq (c9.ownSmall 0 rfl)
        refine sx gs c9 3 [.slice a3 (putS f D (rawS f o.Num o.Den).1).length a4] 0 ?_; intro gu gv
        have jj : Mem w.heap.size [] w Z [.own t8 5 a3 a4 (putS f D (rawS f o.Num o.Den).1), .row cq (e37Mz o) 37, .row R (e46Mz f) 46, .row h [.slice a3 (putS f D (rawS f o.Num o.Den).1).length a4] 25, .row p [.slice x i.length y] 28, .row l (e27Mz ((repackS u0 u1 u2).1) q u) 27, .row B (e27Mz u2 ao7 cap8) 27, .row j (e24Mz u1 ao4 cap5) 24, .row A (e24Mz u0 ao1 cap2) 24] gr gu := gv
        apply gn
        refine j_ (d_ ?_)
        obtain ⟨gw, X, gx, jk⟩ := jj.freeze 0 rfl
        replace aF := aF.mono X
        have jl : Mem w.heap.size [] w Z [.row cq (e37Mz o) 37, .row R (e46Mz f) 46, .row h [.slice a3 (putS f D (rawS f o.Num o.Den).1).length a4] 25, .row p [.slice x i.length y] 28, .row l (e27Mz ((repackS u0 u1 u2).1) q u) 27, .row B (e27Mz u2 ao7 cap8) 27, .row j (e24Mz u1 ao4 cap5) 24, .row A (e24Mz u0 ao1 cap2) 24] gw gu := gx
        exact c5 (putS f D (rawS f o.Num o.Den).1) a3 a4 gw ⟨ji, jk, aF⟩ _ _ ((gs.reg).anyβ _ (by kernel_rfl)) (jl.kp)
       exact l_ (j_ (d_ (c5 D H I ap ⟨jm, ad, aF⟩ _ _ ((cu.reg).anyβ _ (by kernel_rfl)) (aG.kp))))
      exact l_ (j_ (d_ (c5 D H I ap ⟨jn, ad, aF⟩ _ _ ((cr.reg).anyβ _ (by kernel_rfl)) (a2.kp))))
     refine x_ (y_ (y_ (z_ (rN (fn := Tryz.f17) (v := .tuple #[]) aZ (re0 aZ (fn := Tryz.f17) rfl) ?_))))
     refine ⟨_, rfl, ?_⟩; intro mE jp
     have jq : Mem w.heap.size [] w Z [.row R (e46Mz f) 46, .row h [.slice H D.length I] 25, .row p [.slice x i.length y] 28, .row l (e27Mz ((repackS u0 u1 u2).1) q u) 27, .row B (e27Mz u2 ao7 cap8) 27, .row j (e24Mz u1 ao4 cap5) 24, .row A (e24Mz u0 ao1 cap2) 24] ap f3 := f5
     apply fP
     exact d_ (eh D H I ap ⟨jo, ad, aY⟩ _ _ ((jp.reg).anyβ _ (by kernel_rfl)) (jq.kp))
    exact l_ (d_ (eh (List.replicate u1.Size.toNat (0 : Int)) (sm ax) u1.Size.toNat aL ⟨jr, bV, fO⟩ _ _ ((be.reg).anyβ _ (by kernel_rfl)) (aM.kp)))
   have a5 := Fz.le.refl aq
   refine c_ dS bM (fun _ js => ?_) fun _ jB => ?_
   ·
    refine rgH ?_; intro jt gy
    refine bt dS av 2 [4, 2] [] [(35, .agg (e24Mz u0 ao1 cap2).toArray), (36, .agg (e27Mz u2 ao7 cap8).toArray)] ?_; intro mF gz
    obtain ⟨ju, gA⟩ := js
    refine ck gz 10 #[.agg (e24Mz u0 ao1 cap2).toArray, .agg (e27Mz u2 ao7 cap8).toArray] ?_
    refine (rreads_fun u0 u2 ju ao1 cap2 ao7 cap8 _ _ hs3 hs9 av.fz).mono ?_; rintro _ jv ⟨aH, aI, gB, rfl, hm⟩; refine ⟨_, rfl, ?_⟩; intro mG gC; have gD := av.callZ hm; have a6 := hm.ext.le
    replace a5 := a5.mono a6
    have cv : Mem w.heap.size [] w Z [.own tyReading 37 aH aI (rreadsS u0 u2).1, .row p [.slice none 0 0] 28, .row l (e27Mz ((repackS u0 u1 u2).1) q u) 27, .row B (e27Mz u2 ao7 cap8) 27, .row j (e24Mz u1 ao4 cap5) 24, .row A (e24Mz u0 ao1 cap2) 24] gB jv := gD
    have jw := gA (cv.ownSmall 0 rfl)
    refine bt gC cv 3 [] [] [(38, .slice aH (rreadsS u0 u2).1.length aI), (39, i6 (rreadsS u0 u2).2)] ?_; intro mH db
    refine sx db cv 1 [.slice aH (rreadsS u0 u2).1.length aI] 0 ?_; intro gE gF
    refine s1 db 9 (i6 (rreadsS u0 u2).2) ?_; intro mI jx
    have jy : Mem w.heap.size [] w Z [.own tyReading 37 aH aI (rreadsS u0 u2).1, .row p [.slice aH (rreadsS u0 u2).1.length aI] 28, .row l (e27Mz ((repackS u0 u1 u2).1) q u) 27, .row B (e27Mz u2 ao7 cap8) 27, .row j (e24Mz u1 ao4 cap5) 24, .row A (e24Mz u0 ao1 cap2) 24] gB gE := gF
    apply gy
    apply d_
    obtain ⟨gG, a7, gH, jz⟩ := jy.freeze 0 rfl
    replace a5 := a5.mono a7
    have jA : Mem w.heap.size [] w Z [.row p [.slice aH (rreadsS u0 u2).1.length aI] 28, .row l (e27Mz ((repackS u0 u1 u2).1) q u) 27, .row B (e27Mz u2 ao7 cap8) 27, .row j (e24Mz u1 ao4 cap5) 24, .row A (e24Mz u0 ao1 cap2) 24] gG gE := gH
    exact dT (rreadsS u0 u2).2 (rreadsS u0 u2).1 aH aI gG ⟨jw, jz, a5⟩ _ _ ((jx.reg).anyβ _ (by kernel_rfl)) (jA.kp)
   exact l_ (d_ (dT ac [] none 0 aq ⟨jB, (SlR.nil _ _), a5⟩ _ _ ((dS.reg).anyβ _ (by kernel_rfl)) (av.kp)))
  refine c_ dK bL (fun _ jC => ?_) fun _ jG => ?_
  ·
   refine rgH ?_; intro jD gI
   refine l2 dK au 30 1 0 6 (e27Mz u2 ao7 cap8) rfl rfl ?_; intro mJ gJ
   refine fc gJ au (rcheckfr_fun u2 ao7 cap8 _ _ hs9 au.fz) ?_; intro mK mL gK jE
   refine s1 gK 9 (i6 (fcheckfr u2)) ?_; intro mM jF
   apply gI
   exact d_ (dL (fcheckfr u2) jC _ _ ((jF.reg).anyβ _ (by kernel_rfl)) (jE.kp))
  exact l_ (d_ (dL x9 jG _ _ ((dK.reg).anyβ _ (by kernel_rfl)) (au.kp)))
 refine c_ dF bK (fun _ jH => ?_) fun _ jL => ?_
 ·
  refine rgH ?_; intro jI gL
  refine l2 dF ar 26 3 0 6 (e24Mz u0 ao1 cap2) rfl rfl ?_; intro mN gM
  refine fc gM ar (rcheckm_fun u0 ao1 cap2 _ _ hs3 ar.fz) ?_; intro mO mP gN jJ
  refine s1 gN 9 (i6 (mcheckS u0)) ?_; intro mQ jK
  apply gL
  exact d_ (dG (mcheckS u0) jH _ _ ((jK.reg).anyβ _ (by kernel_rfl)) (jJ.kp))
 exact l_ (d_ (dG (mcheckS u1) jL _ _ ((dF.reg).anyβ _ (by kernel_rfl)) (ar.kp)))
end Go.Proofs.YtdndfbamhnchfaaGreatDoor
