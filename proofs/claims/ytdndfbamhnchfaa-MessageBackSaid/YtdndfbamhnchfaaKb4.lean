/- Texts put together (pure ones, or walks made by program). -/
import Derived.Test.YtdndfbamhnchfaaKb0
import Derived.Test.YtdndfbamhnchfaaKb1
import Derived.Test.YtdndfbamhnchfaaKb2
import Derived.Test.YtdndfbamhnchfaaKb3
set_option linter.unusedVariables false
set_option linter.unusedSimpArgs false
set_option maxRecDepth 100000
set_option maxHeartbeats 0
namespace Go.Proofs.Ytdndfbamhnchfaa
open Go.Sy Go.RowKit
abbrev e23Mi (X : Signal) : List Value := [str X.Name, i6 X.Start, i6 X.Size, .bool X.Back, .bool X.Signed, i6 X.Mul, i6 X.Div, i6 X.Add, i6 X.Key]
abbrev e53Mi (X : Frame) (A0 : Option Addr) (C0 : Nat) : List Value := [i6 X.ID, .bool X.Long, .bool X.Fast, .bool X.Remote, i6 X.Size, .slice A0 X.Data.length C0]
abbrev e51Mi (X : Message) (A0 : Option Addr) (C0 : Nat) : List Value := [i6 X.ID, .bool X.Long, str X.Name, i6 X.Size, i6 X.Chooser, .slice A0 X.Signals.length C0]
abbrev e30Mi (X : Reading) : List Value := [str X.Name, i6 X.Num, i6 X.Den]
theorem rsame_walk (u0 : Frame) (u1 : Frame) (ao1 : Option Addr) (cap2 : Nat) (ao4 : Option Addr) (cap5 : Nat) (Z : Fz) (w : World) (hs3 : SlR t8 Z ao1 cap2 u0.Data) (hs6 : SlR t8 Z ao4 cap5 u1.Data) (hZ : Z.on w) {K : Bool → Prop} (hp : rsame_vc u0 u1 K) : Calls Try.prog 21 #[.agg #[i6 u0.ID, .bool u0.Long, .bool u0.Fast, .bool u0.Remote, i6 u0.Size, .slice ao1 u0.Data.length cap2], .agg #[i6 u1.ID, .bool u1.Long, .bool u1.Fast, .bool u1.Remote, i6 u1.Size, .slice ao4 u1.Data.length cap5]] w fun e w' => ∃ r : Bool, e = .returned (.bool r) ∧ K r ∧ Below w.heap.size w w' := by
 refine enter0 Try.func21 rfl rfl (by kernel_rfl) ?_; intro a0 z; have A := Mem.start w Z hZ; have av := Fz.le.refl Z
 have B := hp (hs3.small); clear hp
 have ao := B (hs6.small); clear B
 refine sqH ?_; intro ap C
 refine nw z A pb (e53Mi u0 ao1 cap2) 53 ?_; intro c aw ax D E; clear z A
 refine nw D E pb (e53Mi u1 ao4 cap5) 53 ?_; intro d ay az F a; clear D E
 refine s1 F 4 (.bool false) ?_; intro aA G; clear F
 refine nlH (C _ _ ?_); clear C ap
 refine sqH ?_; intro aq H
 refine s1 G 5 (pt c 0) ?_; intro aB I; clear G
 refine l1 I a 6 1 0 (i6 u0.ID) rfl rfl ?_; intro aC J; clear I
 refine s1 J 7 (pt d 0) ?_; intro aD L; clear J
 refine l1 L a 8 0 0 (i6 u1.ID) rfl rfl ?_; intro aE M; clear L
 refine s1 M 9 (.bool (u0.ID == u1.ID)) ?_; intro aF N; clear M
 refine s1 N 10 (.bool (u0.ID == u1.ID)) ?_; intro aG O; clear N
 have P := O.atom ((u0.ID == u1.ID) == true) (by kernel_rfl); clear O
 refine gp P 11 0 [] (u0.ID == u1.ID) (pt c 1) rfl rfl ?_; intro aH f; clear P
 refine gd f (.bool u0.Long) (m := 0) (cj := []) (bj := u0.ID == u1.ID) rfl rfl (by kernel_rfl) rfl (by kernel_rfl) (by kernel_rfl) (by kernel_rfl) (fun hg => ld f a 1 (g := [0]) (b := c) (off := 1) (cs := (e53Mi u0 ao1 cap2)) (ty := 53) rfl (by kernel_rfl) (by kernel_rfl) (by kernel_rfl) (by kernel_rfl) hg) ?_; intro aI Q; clear f
 refine gp Q 13 0 [] (u0.ID == u1.ID) (pt d 1) rfl rfl ?_; intro aJ h; clear Q
 refine gd h (.bool u1.Long) (m := 0) (cj := []) (bj := u0.ID == u1.ID) rfl rfl (by kernel_rfl) rfl (by kernel_rfl) (by kernel_rfl) (by kernel_rfl) (fun hg => ld h a 0 (g := [0]) (b := d) (off := 1) (cs := (e53Mi u1 ao4 cap5)) (ty := 53) rfl (by kernel_rfl) (by kernel_rfl) (by kernel_rfl) (by kernel_rfl) hg) ?_; intro aK R; clear h
 refine gp R 15 0 [] (u0.ID == u1.ID) (.bool (u0.Long == u1.Long)) rfl rfl ?_; intro aL i; clear R
 refine st i (.bool ((u0.ID == u1.ID) && (u0.Long == u1.Long))) (nog rfl _) rfl (by kernel_rfl) (pk_and i (g := []) (m := 0) (b := u0.ID == u1.ID) (v := u0.Long == u1.Long) rfl (by kernel_rfl) (by kernel_rfl) (by kernel_rfl) rfl) ?_; intro aM S; clear i
 refine s1 S 17 (.bool ((u0.ID == u1.ID) && (u0.Long == u1.Long))) ?_; intro aN T; clear S
 have U := T.atom (((u0.ID == u1.ID) && (u0.Long == u1.Long)) == true) (by kernel_rfl); clear T
 refine gp U 18 1 [] ((u0.ID == u1.ID) && (u0.Long == u1.Long)) (pt c 2) rfl rfl ?_; intro aO j; clear U
 refine gd j (.bool u0.Fast) (m := 1) (cj := []) (bj := (u0.ID == u1.ID) && (u0.Long == u1.Long)) rfl rfl (by kernel_rfl) rfl (by kernel_rfl) (by kernel_rfl) (by kernel_rfl) (fun hg => ld j a 1 (g := [1]) (b := c) (off := 2) (cs := (e53Mi u0 ao1 cap2)) (ty := 53) rfl (by kernel_rfl) (by kernel_rfl) (by kernel_rfl) (by kernel_rfl) hg) ?_; intro aP V; clear j
 refine gp V 20 1 [] ((u0.ID == u1.ID) && (u0.Long == u1.Long)) (pt d 2) rfl rfl ?_; intro aQ k; clear V
 refine gd k (.bool u1.Fast) (m := 1) (cj := []) (bj := (u0.ID == u1.ID) && (u0.Long == u1.Long)) rfl rfl (by kernel_rfl) rfl (by kernel_rfl) (by kernel_rfl) (by kernel_rfl) (fun hg => ld k a 0 (g := [1]) (b := d) (off := 2) (cs := (e53Mi u1 ao4 cap5)) (ty := 53) rfl (by kernel_rfl) (by kernel_rfl) (by kernel_rfl) (by kernel_rfl) hg) ?_; intro aR W; clear k
 refine gp W 22 1 [] ((u0.ID == u1.ID) && (u0.Long == u1.Long)) (.bool (u0.Fast == u1.Fast)) rfl rfl ?_; intro aS l; clear W
 refine st l (.bool (((u0.ID == u1.ID) && (u0.Long == u1.Long)) && (u0.Fast == u1.Fast))) (nog rfl _) rfl (by kernel_rfl) (pk_and l (g := []) (m := 1) (b := (u0.ID == u1.ID) && (u0.Long == u1.Long)) (v := u0.Fast == u1.Fast) rfl (by kernel_rfl) (by kernel_rfl) (by kernel_rfl) rfl) ?_; intro aT X; clear l
 refine s1 X 24 (.bool (((u0.ID == u1.ID) && (u0.Long == u1.Long)) && (u0.Fast == u1.Fast))) ?_; intro aU Y; clear X
 have aa := Y.atom ((((u0.ID == u1.ID) && (u0.Long == u1.Long)) && (u0.Fast == u1.Fast)) == true) (by kernel_rfl); clear Y
 refine gp aa 25 2 [] (((u0.ID == u1.ID) && (u0.Long == u1.Long)) && (u0.Fast == u1.Fast)) (pt c 3) rfl rfl ?_; intro aV n; clear aa
 refine gd n (.bool u0.Remote) (m := 2) (cj := []) (bj := ((u0.ID == u1.ID) && (u0.Long == u1.Long)) && (u0.Fast == u1.Fast)) rfl rfl (by kernel_rfl) rfl (by kernel_rfl) (by kernel_rfl) (by kernel_rfl) (fun hg => ld n a 1 (g := [2]) (b := c) (off := 3) (cs := (e53Mi u0 ao1 cap2)) (ty := 53) rfl (by kernel_rfl) (by kernel_rfl) (by kernel_rfl) (by kernel_rfl) hg) ?_; intro aW ab; clear n
 refine gp ab 27 2 [] (((u0.ID == u1.ID) && (u0.Long == u1.Long)) && (u0.Fast == u1.Fast)) (pt d 3) rfl rfl ?_; intro aX o; clear ab
 refine gd o (.bool u1.Remote) (m := 2) (cj := []) (bj := ((u0.ID == u1.ID) && (u0.Long == u1.Long)) && (u0.Fast == u1.Fast)) rfl rfl (by kernel_rfl) rfl (by kernel_rfl) (by kernel_rfl) (by kernel_rfl) (fun hg => ld o a 0 (g := [2]) (b := d) (off := 3) (cs := (e53Mi u1 ao4 cap5)) (ty := 53) rfl (by kernel_rfl) (by kernel_rfl) (by kernel_rfl) (by kernel_rfl) hg) ?_; intro aY ac; clear o
 refine gp ac 29 2 [] (((u0.ID == u1.ID) && (u0.Long == u1.Long)) && (u0.Fast == u1.Fast)) (.bool (u0.Remote == u1.Remote)) rfl rfl ?_; intro aZ p; clear ac
 refine st p (.bool ((((u0.ID == u1.ID) && (u0.Long == u1.Long)) && (u0.Fast == u1.Fast)) && (u0.Remote == u1.Remote))) (nog rfl _) rfl (by kernel_rfl) (pk_and p (g := []) (m := 2) (b := ((u0.ID == u1.ID) && (u0.Long == u1.Long)) && (u0.Fast == u1.Fast)) (v := u0.Remote == u1.Remote) rfl (by kernel_rfl) (by kernel_rfl) (by kernel_rfl) rfl) ?_; intro a1 ad; clear p
 refine s1 ad 31 (.bool ((((u0.ID == u1.ID) && (u0.Long == u1.Long)) && (u0.Fast == u1.Fast)) && (u0.Remote == u1.Remote))) ?_; intro a2 ae; clear ad
 have af := ae.atom (((((u0.ID == u1.ID) && (u0.Long == u1.Long)) && (u0.Fast == u1.Fast)) && (u0.Remote == u1.Remote)) == true) (by kernel_rfl); clear ae
 refine gp af 32 3 [] ((((u0.ID == u1.ID) && (u0.Long == u1.Long)) && (u0.Fast == u1.Fast)) && (u0.Remote == u1.Remote)) (pt c 4) rfl rfl ?_; intro a3 q; clear af
 refine gd q (i6 u0.Size) (m := 3) (cj := []) (bj := (((u0.ID == u1.ID) && (u0.Long == u1.Long)) && (u0.Fast == u1.Fast)) && (u0.Remote == u1.Remote)) rfl rfl (by kernel_rfl) rfl (by kernel_rfl) (by kernel_rfl) (by kernel_rfl) (fun hg => ld q a 1 (g := [3]) (b := c) (off := 4) (cs := (e53Mi u0 ao1 cap2)) (ty := 53) rfl (by kernel_rfl) (by kernel_rfl) (by kernel_rfl) (by kernel_rfl) hg) ?_; intro a4 ag; clear q
 refine gp ag 34 3 [] ((((u0.ID == u1.ID) && (u0.Long == u1.Long)) && (u0.Fast == u1.Fast)) && (u0.Remote == u1.Remote)) (pt d 4) rfl rfl ?_; intro a5 s; clear ag
 refine gd s (i6 u1.Size) (m := 3) (cj := []) (bj := (((u0.ID == u1.ID) && (u0.Long == u1.Long)) && (u0.Fast == u1.Fast)) && (u0.Remote == u1.Remote)) rfl rfl (by kernel_rfl) rfl (by kernel_rfl) (by kernel_rfl) (by kernel_rfl) (fun hg => ld s a 0 (g := [3]) (b := d) (off := 4) (cs := (e53Mi u1 ao4 cap5)) (ty := 53) rfl (by kernel_rfl) (by kernel_rfl) (by kernel_rfl) (by kernel_rfl) hg) ?_; intro a6 ah; clear s
 refine gp ah 36 3 [] ((((u0.ID == u1.ID) && (u0.Long == u1.Long)) && (u0.Fast == u1.Fast)) && (u0.Remote == u1.Remote)) (.bool (u0.Size == u1.Size)) rfl rfl ?_; intro a7 t; clear ah
 refine st t (.bool (((((u0.ID == u1.ID) && (u0.Long == u1.Long)) && (u0.Fast == u1.Fast)) && (u0.Remote == u1.Remote)) && (u0.Size == u1.Size))) (nog rfl _) rfl (by kernel_rfl) (pk_and t (g := []) (m := 3) (b := (((u0.ID == u1.ID) && (u0.Long == u1.Long)) && (u0.Fast == u1.Fast)) && (u0.Remote == u1.Remote)) (v := u0.Size == u1.Size) rfl (by kernel_rfl) (by kernel_rfl) (by kernel_rfl) rfl) ?_; intro a8 ai; clear t
 refine s1 ai 38 (.bool (((((u0.ID == u1.ID) && (u0.Long == u1.Long)) && (u0.Fast == u1.Fast)) && (u0.Remote == u1.Remote)) && (u0.Size == u1.Size))) ?_; intro a9 aj; clear ai
 have ak := aj.atom ((((((u0.ID == u1.ID) && (u0.Long == u1.Long)) && (u0.Fast == u1.Fast)) && (u0.Remote == u1.Remote)) && (u0.Size == u1.Size)) == true) (by kernel_rfl); clear aj
 refine gp ak 39 4 [] (((((u0.ID == u1.ID) && (u0.Long == u1.Long)) && (u0.Fast == u1.Fast)) && (u0.Remote == u1.Remote)) && (u0.Size == u1.Size)) (pt c 5) rfl rfl ?_; intro ba u; clear ak
 refine gd u (.slice ao1 u0.Data.length cap2) (m := 4) (cj := []) (bj := ((((u0.ID == u1.ID) && (u0.Long == u1.Long)) && (u0.Fast == u1.Fast)) && (u0.Remote == u1.Remote)) && (u0.Size == u1.Size)) rfl rfl (by kernel_rfl) rfl (by kernel_rfl) (by kernel_rfl) (by kernel_rfl) (fun hg => ld u a 1 (g := [4]) (b := c) (off := 5) (cs := (e53Mi u0 ao1 cap2)) (ty := 53) rfl (by kernel_rfl) (by kernel_rfl) (by kernel_rfl) (by kernel_rfl) hg) ?_; intro bb al; clear u
 refine gp al 41 4 [] (((((u0.ID == u1.ID) && (u0.Long == u1.Long)) && (u0.Fast == u1.Fast)) && (u0.Remote == u1.Remote)) && (u0.Size == u1.Size)) (pt d 5) rfl rfl ?_; intro bc x; clear al
 refine gd x (.slice ao4 u1.Data.length cap5) (m := 4) (cj := []) (bj := ((((u0.ID == u1.ID) && (u0.Long == u1.Long)) && (u0.Fast == u1.Fast)) && (u0.Remote == u1.Remote)) && (u0.Size == u1.Size)) rfl rfl (by kernel_rfl) rfl (by kernel_rfl) (by kernel_rfl) (by kernel_rfl) (fun hg => ld x a 0 (g := [4]) (b := d) (off := 5) (cs := (e53Mi u1 ao4 cap5)) (ty := 53) rfl (by kernel_rfl) (by kernel_rfl) (by kernel_rfl) (by kernel_rfl) hg) ?_; intro bd am; clear x
 refine gcl am a (.bool (beqS u0.Data u1.Data)) 14 #[.slice ao1 u0.Data.length cap2, .slice ao4 u1.Data.length cap5] (m := 4) (cj := []) (bj := ((((u0.ID == u1.ID) && (u0.Long == u1.Long)) && (u0.Fast == u1.Fast)) && (u0.Remote == u1.Remote)) && (u0.Size == u1.Size)) rfl rfl (by kernel_rfl) rfl (by kernel_rfl) (by kernel_rfl) (by kernel_rfl) (fun _ => by kernel_rfl) (fun hg => beq_fun u0.Data u1.Data ao1 cap2 ao4 cap5 _ _ hs3 hs6 a.fz) ?_; intro be bf y ar; clear am a
 refine st y (.bool ((((((u0.ID == u1.ID) && (u0.Long == u1.Long)) && (u0.Fast == u1.Fast)) && (u0.Remote == u1.Remote)) && (u0.Size == u1.Size)) && (beqS u0.Data u1.Data))) (nog rfl _) rfl (by kernel_rfl) (pk_and y (g := []) (m := 4) (b := ((((u0.ID == u1.ID) && (u0.Long == u1.Long)) && (u0.Fast == u1.Fast)) && (u0.Remote == u1.Remote)) && (u0.Size == u1.Size)) (v := (beqS u0.Data u1.Data)) rfl (by kernel_rfl) (by kernel_rfl) (by kernel_rfl) rfl) ?_; intro bg an; clear y
 refine s1 an 4 (.bool ((((((u0.ID == u1.ID) && (u0.Long == u1.Long)) && (u0.Fast == u1.Fast)) && (u0.Remote == u1.Remote)) && (u0.Size == u1.Size)) && (beqS u0.Data u1.Data))) ?_; intro bh au; clear an
 refine nlH (H _ _ ?_); clear H aq
 refine wp_ret ?_
 refine ra1 au (.bool ((((((u0.ID == u1.ID) && (u0.Long == u1.Long)) && (u0.Fast == u1.Fast)) && (u0.Remote == u1.Remote)) && (u0.Size == u1.Size)) && (beqS u0.Data u1.Data))) ?_
 exact ⟨(((((u0.ID == u1.ID) && (u0.Long == u1.Long)) && (u0.Fast == u1.Fast)) && (u0.Remote == u1.Remote)) && (u0.Size == u1.Size)) && (beqS u0.Data u1.Data), rfl, ao, ar.below⟩

theorem mrepack_walk (u0 : Message) (u1 : Message) (u2 : Frame) (ao1 : Option Addr) (cap2 : Nat) (ao4 : Option Addr) (cap5 : Nat) (ao7 : Option Addr) (cap8 : Nat) (Z : Fz) (w : World) (hs3 : SlR tySignal Z ao1 cap2 u0.Signals) (hs6 : SlR tySignal Z ao4 cap5 u1.Signals) (hs9 : SlR t8 Z ao7 cap8 u2.Data) (hZ : Z.on w) {K : (Frame × Int) → Prop} (hp : mrepack_vc u0 u1 u2 K) : Calls Try.prog 20 #[.agg #[i6 u0.ID, .bool u0.Long, str u0.Name, i6 u0.Size, i6 u0.Chooser, .slice ao1 u0.Signals.length cap2], .agg #[i6 u1.ID, .bool u1.Long, str u1.Name, i6 u1.Size, i6 u1.Chooser, .slice ao4 u1.Signals.length cap5], .agg #[i6 u2.ID, .bool u2.Long, .bool u2.Fast, .bool u2.Remote, i6 u2.Size, .slice ao7 u2.Data.length cap8]] w fun e w' => ∃ (r : Frame × Int) (ao1001 : Option Addr) (cap1002 : Nat) (Z' : Fz), e = .returned (.tuple #[.agg #[i6 r.1.ID, .bool r.1.Long, .bool r.1.Fast, .bool r.1.Remote, i6 r.1.Size, .slice ao1001 r.1.Data.length cap1002], i6 r.2]) ∧ K r ∧ SlR t8 Z' ao1001 cap1002 r.1.Data ∧ Mem w.heap.size [] w Z [] Z' w' := by
 refine enter0 Try.func20 rfl rfl (by kernel_rfl) ?_; intro a0 cU; have cV := Mem.start w Z hZ; have B := Fz.le.refl Z
 have cW := hp (hs3.small); clear hp
 have cX := cW (hs6.small); clear cW
 have bp := cX (hs9.small); clear cX
 refine sqH ?_; intro fL cY
 refine nw cU cV pb (e51Mi u0 ao1 cap2) 51 ?_; intro C iR iS cZ c0; clear cU cV
 refine nw cZ c0 pb (e51Mi u1 ao4 cap5) 51 ?_; intro n iT iU c1 c2; clear cZ c0
 refine nw c1 c2 pb (e53Mi u2 ao7 cap8) 53 ?_; intro D iV iW c3 c4; clear c1 c2
 refine nw c3 c4 pb [i6 0, .bool false, .bool false, .bool false, i6 0, .slice none 0 0] 53 ?_; intro u iX iY c5 bq; clear c3 c4
 refine s1 c5 7 (i6 0) ?_; intro iZ c6; clear c5
 refine nlH (cY _ _ ?_); clear cY fL
 refine wp_seq ?_
 refine sqH ?_; intro fM c7
 refine l2 c6 bq 15 2 0 6 (e51Mi u1 ao4 cap5) rfl rfl ?_; intro i0 c8; clear c6
 refine fc c8 bq (mcheck_fun u1 ao4 cap5 _ _ hs6 bq.fz) ?_; intro i1 i2 c9 aN; clear c8 bq
 refine s1 c9 8 (i6 (mcheckS u1)) ?_; intro i3 da; clear c9
 refine nlH (c7 _ _ ?_); clear c7 fM
 refine sqB da aN [] [] [(18, .bool ((mcheckS u1) != 0))] ?_; intro i4 bi; clear da
 refine cd bi (t := (mcheckS u1) != 0) (by kernel_rfl) (fun b8 => ?_) (fun b8 => ?_)
 ·
  have fN := bp.1 b8; clear bp
  refine sqH ?_; intro fO db
  refine bt bi aN 2 [] [] [(19, .agg #[i6 0, .bool false, .bool false, .bool false, i6 0, .slice none 0 0]), (20, i6 (mcheckS u1))] ?_; intro i5 b9; clear bi
  refine sx b9 aN 0 [i6 0, .bool false, .bool false, .bool false, i6 0, .slice none 0 0] 0 ?_; intro fP dc; clear aN
  refine s1 b9 7 (i6 (mcheckS u1)) ?_; intro i7 dd; clear b9
  have de : Mem w.heap.size [] w Z [.row u [i6 0, .bool false, .bool false, .bool false, i6 0, .slice none 0 0] 53, .row D (e53Mi u2 ao7 cap8) 53, .row n (e51Mi u1 ao4 cap5) 51, .row C (e51Mi u0 ao1 cap2) 51] Z fP := dc; clear dc
  refine nlH (db _ _ ?_); clear db fO
  refine wp_ret ?_
  refine thr ?_
  refine rt (fn := Try.f20) (v := .tuple #[.agg #[i6 0, .bool false, .bool false, .bool false, i6 0, .slice none 0 0], i6 (mcheckS u1)]) dd (re2c dd (fn := Try.f20) rfl (ad := ⟨u, 0, none⟩) (by kernel_rfl) (loadVar_run de 0 (b := u) (k := 6) (vs := [i6 0, .bool false, .bool false, .bool false, i6 0, .slice none 0 0]) (ty := 53) rfl (by kernel_rfl) (by kernel_rfl)) (by kernel_rfl)) ?_
  exact ⟨((⟨0, false, false, false, 0, []⟩ : Frame), (mcheckS u1)), none, 0, Z, rfl, fN, (SlR.nil _ _), de.keep (List.Sublist.cons _ (List.Sublist.cons _ (List.Sublist.cons _ (List.Sublist.cons _ (List.Sublist.slnil)))))⟩
 have fQ := bp.2 b8; clear bp
 refine wp_skip ?_
 refine thn ?_
 refine sqH ?_; intro fR df
 refine bt bi aN 2 [3, 1] [] [(22, .agg (e51Mi u0 ao1 cap2).toArray), (23, .agg (e53Mi u2 ao7 cap8).toArray)] ?_; intro i8 dg; clear bi
 obtain ⟨fS, dh⟩ := fQ
 refine ck dg 16 #[.agg (e51Mi u0 ao1 cap2).toArray, .agg (e53Mi u2 ao7 cap8).toArray] ?_
 refine (mread_fun u0 u2 fS ao1 cap2 ao7 cap8 _ _ hs3 hs9 aN.fz).mono ?_; rintro _ fT ⟨m, h, V, rfl, hm⟩; refine ⟨_, rfl, ?_⟩; intro i9 di; have dj := aN.callZ hm; have br := hm.ext.le; clear hm aN dg
 replace hs3 := hs3.mono br
 replace hs6 := hs6.mono br
 replace hs9 := hs9.mono br
 replace B := Fz.le.trans B br
 have bs : Mem w.heap.size [] w Z [.own tyReading 30 m h (readS u0 u2).1, .row u [i6 0, .bool false, .bool false, .bool false, i6 0, .slice none 0 0] 53, .row D (e53Mi u2 ao7 cap8) 53, .row n (e51Mi u1 ao4 cap5) 51, .row C (e51Mi u0 ao1 cap2) 51] V fT := dj; clear dj
 have bu := dh (bs.ownSmall 0 rfl); clear dh
 refine bt di bs 3 [] [] [(25, .slice m (readS u0 u2).1.length h), (26, i6 (readS u0 u2).2)] ?_; intro ja dk; clear di
 refine nw dk bs pb [.slice none 0 0] 54 ?_; intro x jb jc ca dl; clear dk bs
 refine sx ca dl 0 [.slice m (readS u0 u2).1.length h] 0 ?_; intro fU dm; clear dl
 refine s1 ca 10 (i6 (readS u0 u2).2) ?_; intro jd dn; clear ca
 have bj : Mem w.heap.size [] w Z [.row x [.slice m (readS u0 u2).1.length h] 54, .own tyReading 30 m h (readS u0 u2).1, .row u [i6 0, .bool false, .bool false, .bool false, i6 0, .slice none 0 0] 53, .row D (e53Mi u2 ao7 cap8) 53, .row n (e51Mi u1 ao4 cap5) 51, .row C (e51Mi u0 ao1 cap2) 51] V fU := dm; clear dm
 refine nlH (df _ _ ?_); clear df fR
 refine wp_seq ?_
 refine sqB dn bj [] [] [(28, .bool ((readS u0 u2).2 != 0))] ?_; intro aq bk; clear dn
 refine cd bk (t := (readS u0 u2).2 != 0) (by kernel_rfl) (fun cb => ?_) (fun cb => ?_)
 ·
  have fV := bu.1 cb; clear bu
  refine sqH ?_; intro fW dp
  refine bt bk bj 2 [] [] [(29, .agg #[i6 0, .bool false, .bool false, .bool false, i6 0, .slice none 0 0]), (30, i6 (readS u0 u2).2)] ?_; intro je cc; clear bk
  refine sx cc bj 2 [i6 0, .bool false, .bool false, .bool false, i6 0, .slice none 0 0] 0 ?_; intro fX dq; clear bj
  refine s1 cc 7 (i6 (readS u0 u2).2) ?_; intro jf dr; clear cc
  have ds : Mem w.heap.size [] w Z [.row x [.slice m (readS u0 u2).1.length h] 54, .own tyReading 30 m h (readS u0 u2).1, .row u [i6 0, .bool false, .bool false, .bool false, i6 0, .slice none 0 0] 53, .row D (e53Mi u2 ao7 cap8) 53, .row n (e51Mi u1 ao4 cap5) 51, .row C (e51Mi u0 ao1 cap2) 51] V fX := dq; clear dq
  refine nlH (dp _ _ ?_); clear dp fW
  refine wp_ret ?_
  refine thr ?_
  refine rt (fn := Try.f20) (v := .tuple #[.agg #[i6 0, .bool false, .bool false, .bool false, i6 0, .slice none 0 0], i6 (readS u0 u2).2]) dr (re2c dr (fn := Try.f20) rfl (ad := ⟨u, 0, none⟩) (by kernel_rfl) (loadVar_run ds 2 (b := u) (k := 6) (vs := [i6 0, .bool false, .bool false, .bool false, i6 0, .slice none 0 0]) (ty := 53) rfl (by kernel_rfl) (by kernel_rfl)) (by kernel_rfl)) ?_
  exact ⟨((⟨0, false, false, false, 0, []⟩ : Frame), (readS u0 u2).2), none, 0, V, rfl, fV, (SlR.nil _ _), ds.keep (List.Sublist.cons _ (List.Sublist.cons _ (List.Sublist.cons _ (List.Sublist.cons _ (List.Sublist.cons _ (List.Sublist.cons _ (List.Sublist.slnil)))))))⟩
 have fY := bu.2 cb; clear bu
 refine wp_skip ?_
 refine thn ?_
 have fZ : Fr 75 [] [⟨4, [], pt n 0⟩, ⟨6, [], pt u 0⟩, ⟨9, [], pt x 0⟩] aq := bk.reg; clear bk
 obtain ⟨jg, f0⟩ := fY
 refine wp_seq (any_invE mixed [[], [0], [], [2], [], [4], [5], [1, 3, 6], [], [0, 1, 2, 3, 4, 5, 6, 7, 8]] 10 (fun S a O => ∃ (l : Nat) (j : Nat) (X : Value) (ar : Value) (ai : Value) (au : Value) (aj : Value) (aG : Value) (av : Value) (ak : Value) (Y : Value) (bv : Res) (bw : Res) (bx : Res) (bz : Res) (bA : Res) (bB : Res) (aw : Res) (Q : Res), Fz.le V V ∧ Fr 75 [] [⟨4, [], pt n 0⟩, ⟨6, [], pt u 0⟩, ⟨9, [], pt x 0⟩, ⟨11, [], X⟩, ⟨31, [], ar⟩, ⟨32, [], ai⟩, ⟨33, [], au⟩, ⟨34, [], aj⟩, ⟨35, [], aG⟩, ⟨36, [], av⟩, ⟨37, [], ak⟩, ⟨38, [], Y⟩] a ∧ Mem w.heap.size [] w Z [bv, bw, bx, bz, bA, bB, aw, Q] V O ∧ (S 8 = true → X = pt j 0) ∧ (S 0 = true → ar = pt n 0) ∧ (S 1 = true → ai = i6 u1.ID) ∧ (S 2 = true → au = pt n 1) ∧ (S 3 = true → aj = .bool u1.Long) ∧ (S 4 = true → aG = pt n 3) ∧ (S 5 = true → av = i6 u1.Size) ∧ (S 6 = true → ak = .slice (sm l) (List.replicate u1.Size.toNat (0 : Int)).length u1.Size.toNat) ∧ (S 7 = true → Y = .agg #[i6 u1.ID, .bool u1.Long, .bool false, .bool false, i6 0, .slice (sm l) (List.replicate u1.Size.toNat (0 : Int)).length u1.Size.toNat]) ∧ (bv = .row x [.slice m (readS u0 u2).1.length h] 54) ∧ (bw = .own tyReading 30 m h (readS u0 u2).1) ∧ (bx = .row u [i6 0, .bool false, .bool false, .bool false, i6 0, .slice none 0 0] 53) ∧ (bz = .row D (e53Mi u2 ao7 cap8) 53) ∧ (bA = .row n (e51Mi u1 ao4 cap5) 51) ∧ (bB = .row C (e51Mi u0 ao1 cap2) 51) ∧ (S 6 = false → aw = .nil) ∧ (S 6 = true → aw = .own t8 5 (sm l) u1.Size.toNat (List.replicate u1.Size.toNat (0 : Int))) ∧ (S 8 = false → Q = .nil) ∧ (S 8 = true → S 9 = false → Q = .row j [i6 0, .bool false, .bool false, .bool false, i6 0, .slice none 0 0] 53) ∧ (S 9 = true → Q = .row j [i6 u1.ID, .bool u1.Long, .bool false, .bool false, i6 0, .slice (sm l) (List.replicate u1.Size.toNat (0 : Int)).length u1.Size.toNat] 53)) ?h0 ?hs ?hE)
 case h0 =>
  have f1 := fZ.any 11
  have f2 := f1.any 31
  have f3 := f2.any 32
  have f4 := f3.any 33
  have f5 := f4.any 34
  have f6 := f5.any 35
  have f7 := f6.any 36
  have f8 := f7.any 37
  have f9 := f8.any 38
  have ga := bj.nilRes
  have gb := ga.nilRes
  have gc := (gb.perm ((pk 2 rfl).trans (((pk 2 rfl).trans (((pk 2 rfl).trans (((pk 2 rfl).trans (((pk 2 rfl).trans (((pk 2 rfl).trans (((pk 1 rfl).trans (lpr.cons _)).cons _)).cons _)).cons _)).cons _)).cons _)).cons _))).drew
  exact ⟨0, 0, aq.tmps.getD 11 undef, aq.tmps.getD 31 undef, aq.tmps.getD 32 undef, aq.tmps.getD 33 undef, aq.tmps.getD 34 undef, aq.tmps.getD 35 undef, aq.tmps.getD 36 undef, aq.tmps.getD 37 undef, aq.tmps.getD 38 undef, .row x [.slice m (readS u0 u2).1.length h] 54, .own tyReading 30 m h (readS u0 u2).1, .row u [i6 0, .bool false, .bool false, .bool false, i6 0, .slice none 0 0] 53, .row D (e53Mi u2 ao7 cap8) 53, .row n (e51Mi u1 ao4 cap5) 51, .row C (e51Mi u0 ao1 cap2) 51, .nil, .nil, Fz.le.refl _, f9.reg, gc, ff, ff, ff, ff, ff, ff, ff, ff, ff, rfl, rfl, rfl, rfl, rfl, rfl, kf, ff, kf, ff, ff⟩
 case hs =>
  intro S hcl i o hil hi hSi hpre a O hI; refine Go.Sy.hid ?_; intro G hG; obtain ⟨l, j, X, ar, ai, au, aj, aG, av, ak, Y, bv, bw, bx, bz, bA, bB, aw, Q, y, hFx, hMx, al, am, ax, an, ay, ao, az, aH, bC, aa, ab, ac, ae, af, ag, aI, aJ, aA, aB, hI⟩ := hI; have dt := hI; clear hI
  have hcase : i = 0 ∨ i = 1 ∨ i = 2 ∨ i = 3 ∨ i = 4 ∨ i = 5 ∨ i = 6 ∨ i = 7 ∨ i = 8 ∨ i = 9 := by clear hi; omega
  rcases hcase with rfl | rfl | rfl | rfl | rfl | rfl | rfl | rfl | rfl | rfl
  ·
   obtain rfl := oj hi
   have aO := hSi
   have aC := ngF hcl 1 0 aO
   have P := ngF hcl 7 1 aC
   have M := ngF hcl 9 0 aO
   obtain rfl := aa
   obtain rfl := ab
   obtain rfl := ac
   obtain rfl := ae
   obtain rfl := af
   obtain rfl := ag
   refine hG (any_step ?_); clear hG G; intro A J hJ
   have B := Fz.le.trans B y
   have jh := hs3.mono y
   have ji := hs6.mono y
   have jj := hs9.mono y
   refine s1 hFx 31 (pt n 0) ?_; intro jk gd; clear hFx
   refine nl (qnI (hJ _ _ ?_)); clear hJ J
   exact ⟨l, j, X, pt n 0, ai, au, aj, aG, av, ak, Y, .row x [.slice m (readS u0 u2).1.length h] 54, .own tyReading 30 m h (readS u0 u2).1, .row u [i6 0, .bool false, .bool false, .bool false, i6 0, .slice none 0 0] 53, .row D (e53Mi u2 ao7 cap8) 53, .row n (e51Mi u1 ao4 cap5) 51, .row C (e51Mi u0 ao1 cap2) 51, aw, Q, y, gd.reg, hMx.perm lpr, al, kf, (nt aC), an, ay, ao, az, aH, (nt P), rfl, rfl, rfl, rfl, rfl, rfl, aI, aJ, aA, aB, (nt M)⟩
  ·
   obtain rfl := oj hi
   have aO := hpre 0 (by kernel_rfl)
   have aC := hSi
   have P := ngF hcl 7 1 aC
   have M := ngF hcl 9 1 aC
   obtain rfl := am aO
   obtain rfl := aa
   obtain rfl := ab
   obtain rfl := ac
   obtain rfl := ae
   obtain rfl := af
   obtain rfl := ag
   refine hG (any_step ?_); clear hG G; intro A J hJ
   have B := Fz.le.trans B y
   have jl := hs3.mono y
   have jm := hs6.mono y
   have jn := hs9.mono y
   refine l1 hFx hMx 32 4 0 (i6 u1.ID) rfl rfl ?_; intro jo ge; clear hFx
   refine nl (qnI (hJ _ _ ?_)); clear hJ J
   exact ⟨l, j, X, pt n 0, i6 u1.ID, au, aj, aG, av, ak, Y, .row x [.slice m (readS u0 u2).1.length h] 54, .own tyReading 30 m h (readS u0 u2).1, .row u [i6 0, .bool false, .bool false, .bool false, i6 0, .slice none 0 0] 53, .row D (e53Mi u2 ao7 cap8) 53, .row n (e51Mi u1 ao4 cap5) 51, .row C (e51Mi u0 ao1 cap2) 51, aw, Q, y, ge.reg, hMx.perm lpr, al, kf, kf, an, ay, ao, az, aH, (nt P), rfl, rfl, rfl, rfl, rfl, rfl, aI, aJ, aA, aB, (nt M)⟩
  ·
   obtain rfl := oj hi
   have aP := hSi
   have aD := ngF hcl 3 2 aP
   have P := ngF hcl 7 3 aD
   have M := ngF hcl 9 2 aP
   obtain rfl := aa
   obtain rfl := ab
   obtain rfl := ac
   obtain rfl := ae
   obtain rfl := af
   obtain rfl := ag
   refine hG (any_step ?_); clear hG G; intro A J hJ
   have B := Fz.le.trans B y
   have jp := hs3.mono y
   have jq := hs6.mono y
   have jr := hs9.mono y
   refine s1 hFx 33 (pt n 1) ?_; intro js gf; clear hFx
   refine nl (qnI (hJ _ _ ?_)); clear hJ J
   exact ⟨l, j, X, ar, ai, pt n 1, aj, aG, av, ak, Y, .row x [.slice m (readS u0 u2).1.length h] 54, .own tyReading 30 m h (readS u0 u2).1, .row u [i6 0, .bool false, .bool false, .bool false, i6 0, .slice none 0 0] 53, .row D (e53Mi u2 ao7 cap8) 53, .row n (e51Mi u1 ao4 cap5) 51, .row C (e51Mi u0 ao1 cap2) 51, aw, Q, y, gf.reg, hMx.perm lpr, al, am, ax, kf, (nt aD), ao, az, aH, (nt P), rfl, rfl, rfl, rfl, rfl, rfl, aI, aJ, aA, aB, (nt M)⟩
  ·
   obtain rfl := oj hi
   have aP := hpre 2 (by kernel_rfl)
   have aD := hSi
   have P := ngF hcl 7 3 aD
   have M := ngF hcl 9 3 aD
   obtain rfl := an aP
   obtain rfl := aa
   obtain rfl := ab
   obtain rfl := ac
   obtain rfl := ae
   obtain rfl := af
   obtain rfl := ag
   refine hG (any_step ?_); clear hG G; intro A J hJ
   have B := Fz.le.trans B y
   have jt := hs3.mono y
   have ju := hs6.mono y
   have jv := hs9.mono y
   refine l1 hFx hMx 34 4 1 (.bool u1.Long) rfl rfl ?_; intro jw gg; clear hFx
   refine nl (qnI (hJ _ _ ?_)); clear hJ J
   exact ⟨l, j, X, ar, ai, pt n 1, .bool u1.Long, aG, av, ak, Y, .row x [.slice m (readS u0 u2).1.length h] 54, .own tyReading 30 m h (readS u0 u2).1, .row u [i6 0, .bool false, .bool false, .bool false, i6 0, .slice none 0 0] 53, .row D (e53Mi u2 ao7 cap8) 53, .row n (e51Mi u1 ao4 cap5) 51, .row C (e51Mi u0 ao1 cap2) 51, aw, Q, y, gg.reg, hMx.perm lpr, al, am, ax, kf, kf, ao, az, aH, (nt P), rfl, rfl, rfl, rfl, rfl, rfl, aI, aJ, aA, aB, (nt M)⟩
  ·
   obtain rfl := oj hi
   have aE := hSi
   have W := ngF hcl 5 4 aE
   have L := ngF hcl 6 5 W
   have P := ngF hcl 7 6 L
   have M := ngF hcl 9 4 aE
   obtain rfl := aa
   obtain rfl := ab
   obtain rfl := ac
   obtain rfl := ae
   obtain rfl := af
   obtain rfl := ag
   obtain rfl := aI L
   refine hG (any_step ?_); clear hG G; intro A J hJ
   have B := Fz.le.trans B y
   have jx := hs3.mono y
   have jy := hs6.mono y
   have jz := hs9.mono y
   have gh := hMx.keep (List.Sublist.cons_cons _ (List.Sublist.cons_cons _ (List.Sublist.cons_cons _ (List.Sublist.cons_cons _ (List.Sublist.cons_cons _ (List.Sublist.cons_cons _ (List.Sublist.cons _ (List.Sublist.cons_cons _ (List.Sublist.slnil))))))))); clear hMx
   refine s1 hFx 35 (pt n 3) ?_; intro jA gi; clear hFx
   refine nl (qnI (hJ _ _ ?_)); clear hJ J
   have gj := gh.nilRes
   exact ⟨l, j, X, ar, ai, au, aj, pt n 3, av, ak, Y, .row x [.slice m (readS u0 u2).1.length h] 54, .own tyReading 30 m h (readS u0 u2).1, .row u [i6 0, .bool false, .bool false, .bool false, i6 0, .slice none 0 0] 53, .row D (e53Mi u2 ao7 cap8) 53, .row n (e51Mi u1 ao4 cap5) 51, .row C (e51Mi u0 ao1 cap2) 51, .nil, Q, y, gi.reg, gj.perm ((pk 1 rfl).trans (((pk 1 rfl).trans (((pk 1 rfl).trans (((pk 1 rfl).trans (((pk 1 rfl).trans (((pk 1 rfl).trans (lpr.cons _)).cons _)).cons _)).cons _)).cons _)).cons _)), al, am, ax, an, ay, kf, (nt W), (nt L), (nt P), rfl, rfl, rfl, rfl, rfl, rfl, kf, (nt L), aA, aB, (nt M)⟩
  ·
   obtain rfl := oj hi
   have aE := hpre 4 (by kernel_rfl)
   have W := hSi
   have L := ngF hcl 6 5 W
   have P := ngF hcl 7 6 L
   have M := ngF hcl 9 5 W
   obtain rfl := ao aE
   obtain rfl := aa
   obtain rfl := ab
   obtain rfl := ac
   obtain rfl := ae
   obtain rfl := af
   obtain rfl := ag
   obtain rfl := aI L
   refine hG (any_step ?_); clear hG G; intro A J hJ
   have B := Fz.le.trans B y
   have jB := hs3.mono y
   have jC := hs6.mono y
   have jD := hs9.mono y
   have du := hMx.keep (List.Sublist.cons_cons _ (List.Sublist.cons_cons _ (List.Sublist.cons_cons _ (List.Sublist.cons_cons _ (List.Sublist.cons_cons _ (List.Sublist.cons_cons _ (List.Sublist.cons _ (List.Sublist.cons_cons _ (List.Sublist.slnil))))))))); clear hMx
   refine l1 hFx du 36 4 3 (i6 u1.Size) rfl rfl ?_; intro jE gk; clear hFx
   refine nl (qnI (hJ _ _ ?_)); clear hJ J
   have gl := du.nilRes
   exact ⟨l, j, X, ar, ai, au, aj, pt n 3, i6 u1.Size, ak, Y, .row x [.slice m (readS u0 u2).1.length h] 54, .own tyReading 30 m h (readS u0 u2).1, .row u [i6 0, .bool false, .bool false, .bool false, i6 0, .slice none 0 0] 53, .row D (e53Mi u2 ao7 cap8) 53, .row n (e51Mi u1 ao4 cap5) 51, .row C (e51Mi u0 ao1 cap2) 51, .nil, Q, y, gk.reg, gl.perm ((pk 1 rfl).trans (((pk 1 rfl).trans (((pk 1 rfl).trans (((pk 1 rfl).trans (((pk 1 rfl).trans (((pk 1 rfl).trans (lpr.cons _)).cons _)).cons _)).cons _)).cons _)).cons _)), al, am, ax, an, ay, kf, kf, (nt L), (nt P), rfl, rfl, rfl, rfl, rfl, rfl, kf, (nt L), aA, aB, (nt M)⟩
  ·
   obtain rfl := oj hi
   have W := hpre 5 (by kernel_rfl)
   have aE := hcl 5 4 (by kernel_rfl) W
   have L := hSi
   have P := ngF hcl 7 6 L
   have M := ngF hcl 9 6 L
   obtain rfl := ao aE
   obtain rfl := az W
   obtain rfl := aa
   obtain rfl := ab
   obtain rfl := ac
   obtain rfl := ae
   obtain rfl := af
   obtain rfl := ag
   obtain rfl := aI L
   refine hG (any_step ?_); clear hG G; intro A J hJ
   have B := Fz.le.trans B y
   have jF := hs3.mono y
   have jG := hs6.mono y
   have jH := hs9.mono y
   have dv := hMx.keep (List.Sublist.cons_cons _ (List.Sublist.cons_cons _ (List.Sublist.cons_cons _ (List.Sublist.cons_cons _ (List.Sublist.cons_cons _ (List.Sublist.cons_cons _ (List.Sublist.cons _ (List.Sublist.cons_cons _ (List.Sublist.slnil))))))))); clear hMx
   refine mks hFx dv (T := t8) u1.Size u1.Size (k := .i64) (k' := .i64) (e := 5) (bytes := 1) (zs := [y8 0]) (z := 0) (by simp only [lim]; omega) (nog rfl _) rfl (by kernel_rfl) rfl (by kernel_rfl) (by kernel_rfl) (by kernel_rfl) (by kernel_rfl) rfl ?_; intro bD jI gm gn dw; clear hFx dv
   have go : Mem w.heap.size [] w Z [.own t8 5 (sm bD) u1.Size.toNat (List.replicate u1.Size.toNat (0 : Int)), .row x [.slice m (readS u0 u2).1.length h] 54, .own tyReading 30 m h (readS u0 u2).1, .row u [i6 0, .bool false, .bool false, .bool false, i6 0, .slice none 0 0] 53, .row D (e53Mi u2 ao7 cap8) 53, .row n (e51Mi u1 ao4 cap5) 51, .row C (e51Mi u0 ao1 cap2) 51, Q] V gm := dw; clear dw
   refine nl (qnI (hJ _ _ ?_)); clear hJ J
   exact ⟨bD, j, X, ar, ai, au, aj, pt n 3, i6 u1.Size, .slice (sm bD) (List.replicate u1.Size.toNat (0 : Int)).length u1.Size.toNat, Y, .row x [.slice m (readS u0 u2).1.length h] 54, .own tyReading 30 m h (readS u0 u2).1, .row u [i6 0, .bool false, .bool false, .bool false, i6 0, .slice none 0 0] 53, .row D (e53Mi u2 ao7 cap8) 53, .row n (e51Mi u1 ao4 cap5) 51, .row C (e51Mi u0 ao1 cap2) 51, .own t8 5 (sm bD) u1.Size.toNat (List.replicate u1.Size.toNat (0 : Int)), Q, y, gn.reg, go.perm ((pk 1 rfl).trans (((pk 1 rfl).trans (((pk 1 rfl).trans (((pk 1 rfl).trans (((pk 1 rfl).trans (((pk 1 rfl).trans (lpr.cons _)).cons _)).cons _)).cons _)).cons _)).cons _)), al, am, ax, an, ay, kf, kf, kf, (nt P), rfl, rfl, rfl, rfl, rfl, rfl, nu, kf, aA, aB, (nt M)⟩
  ·
   obtain rfl := oj hi
   have L := hpre 6 (by kernel_rfl)
   have aD := hpre 3 (by kernel_rfl)
   have aC := hpre 1 (by kernel_rfl)
   have W := hcl 6 5 (by kernel_rfl) L
   have aP := hcl 3 2 (by kernel_rfl) aD
   have aO := hcl 1 0 (by kernel_rfl) aC
   have aE := hcl 5 4 (by kernel_rfl) W
   have P := hSi
   have M := ngF hcl 9 7 P
   obtain rfl := am aO
   obtain rfl := ax aC
   obtain rfl := an aP
   obtain rfl := ay aD
   obtain rfl := ao aE
   obtain rfl := az W
   obtain rfl := aH L
   obtain rfl := aa
   obtain rfl := ab
   obtain rfl := ac
   obtain rfl := ae
   obtain rfl := af
   obtain rfl := ag
   obtain rfl := aJ L
   refine hG (any_step ?_); clear hG G; intro A J hJ
   have B := Fz.le.trans B y
   have jJ := hs3.mono y
   have jK := hs6.mono y
   have jL := hs9.mono y
   refine s1 hFx 38 (.agg #[i6 u1.ID, .bool u1.Long, .bool false, .bool false, i6 0, .slice (sm l) (List.replicate u1.Size.toNat (0 : Int)).length u1.Size.toNat]) ?_; intro jM gp; clear hFx
   refine nl (qnI (hJ _ _ ?_)); clear hJ J
   exact ⟨l, j, X, pt n 0, i6 u1.ID, pt n 1, .bool u1.Long, pt n 3, i6 u1.Size, .slice (sm l) (List.replicate u1.Size.toNat (0 : Int)).length u1.Size.toNat, .agg #[i6 u1.ID, .bool u1.Long, .bool false, .bool false, i6 0, .slice (sm l) (List.replicate u1.Size.toNat (0 : Int)).length u1.Size.toNat], .row x [.slice m (readS u0 u2).1.length h] 54, .own tyReading 30 m h (readS u0 u2).1, .row u [i6 0, .bool false, .bool false, .bool false, i6 0, .slice none 0 0] 53, .row D (e53Mi u2 ao7 cap8) 53, .row n (e51Mi u1 ao4 cap5) 51, .row C (e51Mi u0 ao1 cap2) 51, .own t8 5 (sm l) u1.Size.toNat (List.replicate u1.Size.toNat (0 : Int)), Q, y, gp.reg, hMx.perm lpr, al, kf, kf, kf, kf, kf, kf, kf, kf, rfl, rfl, rfl, rfl, rfl, rfl, (tn L), kf, aA, aB, (nt M)⟩
  ·
   obtain rfl := oj hi
   have a8 := hSi
   have M := ngF hcl 9 8 a8
   obtain rfl := aa
   obtain rfl := ab
   obtain rfl := ac
   obtain rfl := ae
   obtain rfl := af
   obtain rfl := ag
   obtain rfl := aA a8
   refine hG (any_step ?_); clear hG G; intro A J hJ
   have B := Fz.le.trans B y
   have jN := hs3.mono y
   have jO := hs6.mono y
   have jP := hs9.mono y
   have dx := hMx.keep (List.Sublist.cons_cons _ (List.Sublist.cons_cons _ (List.Sublist.cons_cons _ (List.Sublist.cons_cons _ (List.Sublist.cons_cons _ (List.Sublist.cons_cons _ (List.Sublist.cons_cons _ (List.Sublist.cons _ (List.Sublist.slnil))))))))); clear hMx
   refine nw hFx dx pb [i6 0, .bool false, .bool false, .bool false, i6 0, .slice none 0 0] 53 ?_; intro ce jQ jR gq gr; clear hFx dx
   refine nl (qnI (hJ _ _ ?_)); clear hJ J
   exact ⟨l, ce, pt ce 0, ar, ai, au, aj, aG, av, ak, Y, .row x [.slice m (readS u0 u2).1.length h] 54, .own tyReading 30 m h (readS u0 u2).1, .row u [i6 0, .bool false, .bool false, .bool false, i6 0, .slice none 0 0] 53, .row D (e53Mi u2 ao7 cap8) 53, .row n (e51Mi u1 ao4 cap5) 51, .row C (e51Mi u0 ao1 cap2) 51, aw, .row ce [i6 0, .bool false, .bool false, .bool false, i6 0, .slice none 0 0] 53, y, gq.reg, gr.perm ((pk 1 rfl).trans (((pk 1 rfl).trans (((pk 1 rfl).trans (((pk 1 rfl).trans (((pk 1 rfl).trans (((pk 1 rfl).trans (((pk 1 rfl).trans (lpr.cons _)).cons _)).cons _)).cons _)).cons _)).cons _)).cons _)), kf, am, ax, an, ay, ao, az, aH, bC, rfl, rfl, rfl, rfl, rfl, rfl, aI, aJ, nu, kf2, (nt M)⟩
  obtain rfl := oj hi
  have a8 := hpre 8 (by kernel_rfl)
  have P := hpre 7 (by kernel_rfl)
  have L := hpre 6 (by kernel_rfl)
  have W := hpre 5 (by kernel_rfl)
  have aE := hpre 4 (by kernel_rfl)
  have aD := hpre 3 (by kernel_rfl)
  have aP := hpre 2 (by kernel_rfl)
  have aC := hpre 1 (by kernel_rfl)
  have aO := hpre 0 (by kernel_rfl)
  have M := hSi
  obtain rfl := al a8
  obtain rfl := am aO
  obtain rfl := ax aC
  obtain rfl := an aP
  obtain rfl := ay aD
  obtain rfl := ao aE
  obtain rfl := az W
  obtain rfl := aH L
  obtain rfl := bC P
  obtain rfl := aa
  obtain rfl := ab
  obtain rfl := ac
  obtain rfl := ae
  obtain rfl := af
  obtain rfl := ag
  obtain rfl := aJ L
  obtain rfl := aB a8 M
  refine hG (any_step ?_); clear hG G; intro A J hJ
  have B := Fz.le.trans B y
  have jS := hs3.mono y
  have jT := hs6.mono y
  have jU := hs9.mono y
  refine sx hFx hMx 7 [i6 u1.ID, .bool u1.Long, .bool false, .bool false, i6 0, .slice (sm l) (List.replicate u1.Size.toNat (0 : Int)).length u1.Size.toNat] 0 ?_; intro jV gs; clear hMx
  refine nl (qnI (hJ _ _ ?_)); clear hJ J
  exact ⟨l, j, pt j 0, pt n 0, i6 u1.ID, pt n 1, .bool u1.Long, pt n 3, i6 u1.Size, .slice (sm l) (List.replicate u1.Size.toNat (0 : Int)).length u1.Size.toNat, .agg #[i6 u1.ID, .bool u1.Long, .bool false, .bool false, i6 0, .slice (sm l) (List.replicate u1.Size.toNat (0 : Int)).length u1.Size.toNat], .row x [.slice m (readS u0 u2).1.length h] 54, .own tyReading 30 m h (readS u0 u2).1, .row u [i6 0, .bool false, .bool false, .bool false, i6 0, .slice none 0 0] 53, .row D (e53Mi u2 ao7 cap8) 53, .row n (e51Mi u1 ao4 cap5) 51, .row C (e51Mi u0 ao1 cap2) 51, .own t8 5 (sm l) u1.Size.toNat (List.replicate u1.Size.toNat (0 : Int)), .row j [i6 u1.ID, .bool u1.Long, .bool false, .bool false, i6 0, .slice (sm l) (List.replicate u1.Size.toNat (0 : Int)).length u1.Size.toNat] 53, y, hFx.reg, gs.perm lpr, kf, kf, kf, kf, kf, kf, kf, kf, kf, rfl, rfl, rfl, rfl, rfl, rfl, (tn L), kf, (tn a8), (fun _ => nu), kf⟩
 case hE =>
  intro S hS gt jW hI; refine Go.Sy.hid ?_; intro G hG; obtain ⟨l, j, X, ar, ai, au, aj, aG, av, ak, Y, bv, bw, bx, bz, bA, bB, aw, Q, y, hFx, hMx, al, am, ax, an, ay, ao, az, aH, bC, aa, ab, ac, ae, af, ag, aI, aJ, aA, aB, hI⟩ := hI; have dt := hI; clear hI; refine hG ?_; clear hG G
  obtain rfl := al (hS 8 (by decide))
  obtain rfl := am (hS 0 (by decide))
  obtain rfl := ax (hS 1 (by decide))
  obtain rfl := an (hS 2 (by decide))
  obtain rfl := ay (hS 3 (by decide))
  obtain rfl := ao (hS 4 (by decide))
  obtain rfl := az (hS 5 (by decide))
  obtain rfl := aH (hS 6 (by decide))
  obtain rfl := bC (hS 7 (by decide))
  obtain rfl := aa
  obtain rfl := ab
  obtain rfl := ac
  obtain rfl := ae
  obtain rfl := af
  obtain rfl := ag
  obtain rfl := aJ (hS 6 (by decide))
  obtain rfl := dt (hS 9 (by decide))
  have B := Fz.le.trans B y
  have dy := hs3.mono y
  have cf := hs6.mono y
  have dz := hs9.mono y
  refine thn ?_
  have dA : Fr 75 [] [⟨4, [], pt n 0⟩, ⟨6, [], pt u 0⟩, ⟨9, [], pt x 0⟩, ⟨11, [], pt j 0⟩] gt := hFx.reg; clear hFx
  refine sqB dA hMx [] [] [(12, .func (.func 44) #[] #[pt x 0, pt j 0])] ?_; intro jX dB; clear dA
  refine wp_seq ?_
  refine sqB dB hMx [4] [] [(42, .bool (decide (u1.Chooser ≥ 0)))] ?_; intro dC dD; clear dB
  have dE : Fr 75 [] [⟨4, [], pt n 0⟩, ⟨6, [], pt u 0⟩, ⟨11, [], pt j 0⟩, ⟨12, [], .func (.func 44) #[] #[pt x 0, pt j 0]⟩, ⟨42, [], .bool (decide (u1.Chooser ≥ 0))⟩] dC := dD.reg; clear dD
  have bl : Fr 75 [] [⟨4, [], pt n 0⟩, ⟨6, [], pt u 0⟩, ⟨11, [], pt j 0⟩, ⟨12, [], .func (.func 44) #[] #[pt x 0, pt j 0]⟩, ⟨42, [], .bool (decide (u1.Chooser ≥ 0))⟩] dC := dE.reg; clear dE
  obtain ⟨gu, bE, gv⟩ := f0
  refine wp_then_k fun KJ252 hKJ253 => ?_
  have dF : ∀ (a9 : List Int) (aY : Fz), gu a9 ∧ Fz.le V aY → ∀ a1 O, Fr 75 [] [⟨4, [], pt n 0⟩, ⟨6, [], pt u 0⟩, ⟨11, [], pt j 0⟩, ⟨12, [], .func (.func 44) #[] #[pt x 0, pt j 0]⟩] a1 → Mem w.heap.size [] w Z [.row x [.slice m (readS u0 u2).1.length h] 54, .own tyReading 30 m h (readS u0 u2).1, .row u [i6 0, .bool false, .bool false, .bool false, i6 0, .slice none 0 0] 53, .row D (e53Mi u2 ao7 cap8) 53, .row n (e51Mi u1 ao4 cap5) 51, .row C (e51Mi u0 ao1 cap2) 51, .own t8 5 (sm l) u1.Size.toNat a9, .row j [i6 u1.ID, .bool u1.Long, .bool false, .bool false, i6 0, .slice (sm l) a9.length u1.Size.toNat] 53] aY O → KJ252 a1 O := by
   rintro a9 aY ⟨gw, ba⟩ jY jZ dG bF; clear bl hMx
   refine hKJ253 _ _ ?_; clear hKJ253
   have gx := gv a9 gw
   replace B := Fz.le.trans B ba
   have dH := dy.mono ba
   have dI := cf.mono ba
   have dJ := dz.mono ba
   refine wp_seq ?_
   refine sqB dG bF [4] [] [(52, .slice ao4 u1.Signals.length cap5), (53, i6 (u1.Signals.length : Int)), (54, i6 0)] ?_; intro bG dK; clear dG
   have dL : Fr 75 [] [⟨4, [], pt n 0⟩, ⟨6, [], pt u 0⟩, ⟨11, [], pt j 0⟩, ⟨12, [], .func (.func 44) #[] #[pt x 0, pt j 0]⟩, ⟨52, [], .slice ao4 u1.Signals.length cap5⟩, ⟨53, [], i6 (u1.Signals.length : Int)⟩, ⟨54, [], i6 0⟩] bG := dK.reg; clear dK
   have cg : Fr 75 [] [⟨4, [], pt n 0⟩, ⟨6, [], pt u 0⟩, ⟨11, [], pt j 0⟩, ⟨12, [], .func (.func 44) #[] #[pt x 0, pt j 0]⟩, ⟨52, [], .slice ao4 u1.Signals.length cap5⟩, ⟨53, [], i6 (u1.Signals.length : Int)⟩, ⟨54, [], i6 0⟩] bG := dL.reg; clear dL
   obtain ⟨gy, gz, gA⟩ := gx
   refine wp_then_k fun KJ278 hKJ279 => ?_
   have gB : ∀ (E : List Int) (bH : Fz), gy E ∧ Fz.le aY bH → ∀ a1 O, Fr 75 [] [⟨6, [], pt u 0⟩, ⟨11, [], pt j 0⟩] a1 → Mem w.heap.size [] w Z [.row x [.slice m (readS u0 u2).1.length h] 54, .own tyReading 30 m h (readS u0 u2).1, .row u [i6 0, .bool false, .bool false, .bool false, i6 0, .slice none 0 0] 53, .row D (e53Mi u2 ao7 cap8) 53, .row n (e51Mi u1 ao4 cap5) 51, .row C (e51Mi u0 ao1 cap2) 51, .own t8 5 (sm l) u1.Size.toNat E, .row j [i6 u1.ID, .bool u1.Long, .bool false, .bool false, i6 0, .slice (sm l) E.length u1.Size.toNat] 53] bH O → KJ278 a1 O := by
    rintro E bH ⟨gC, aZ⟩ j0 j1 dM ch; clear cg bF
    refine hKJ279 _ _ ?_; clear hKJ279
    have gD := gA E gC
    replace B := Fz.le.trans B aZ
    have dN := dH.mono aZ
    have dO := dI.mono aZ
    have dP := dJ.mono aZ
    have dQ := ba.mono aZ
    refine sqH ?_; intro gE dR
    refine l2 dM ch 74 7 0 6 [i6 u1.ID, .bool u1.Long, .bool false, .bool false, i6 0, .slice (sm l) E.length u1.Size.toNat] rfl rfl ?_; intro j2 ci; clear dM
    refine sx ci ch 2 [i6 u1.ID, .bool u1.Long, .bool false, .bool false, i6 0, .slice (sm l) E.length u1.Size.toNat] 0 ?_; intro dS dT; clear ch
    refine s1 ci 7 (i6 0) ?_; intro j3 dU; clear ci
    have gF : Mem w.heap.size [] w Z [.row x [.slice m (readS u0 u2).1.length h] 54, .own tyReading 30 m h (readS u0 u2).1, .row u [i6 u1.ID, .bool u1.Long, .bool false, .bool false, i6 0, .slice (sm l) E.length u1.Size.toNat] 53, .row D (e53Mi u2 ao7 cap8) 53, .row n (e51Mi u1 ao4 cap5) 51, .row C (e51Mi u0 ao1 cap2) 51, .own t8 5 (sm l) u1.Size.toNat E, .row j [i6 u1.ID, .bool u1.Long, .bool false, .bool false, i6 0, .slice (sm l) E.length u1.Size.toNat] 53] bH dS := dT; clear dT
    refine nlH (dR _ _ ?_); clear dR gE
    refine wp_ret ?_
    obtain ⟨dV, bb, dW, gG⟩ := gF.freeze 6 rfl
    replace dN := dN.mono bb
    replace dO := dO.mono bb
    replace dP := dP.mono bb
    replace dQ := dQ.mono bb
    replace aZ := aZ.mono bb
    replace B := Fz.le.trans B bb
    have dX : Mem w.heap.size [] w Z [.row x [.slice m (readS u0 u2).1.length h] 54, .own tyReading 30 m h (readS u0 u2).1, .row u [i6 u1.ID, .bool u1.Long, .bool false, .bool false, i6 0, .slice (sm l) E.length u1.Size.toNat] 53, .row D (e53Mi u2 ao7 cap8) 53, .row n (e51Mi u1 ao4 cap5) 51, .row C (e51Mi u0 ao1 cap2) 51, .row j [i6 u1.ID, .bool u1.Long, .bool false, .bool false, i6 0, .slice (sm l) E.length u1.Size.toNat] 53] dV dS := dW; clear dW
    refine rt (fn := Try.f20) (v := .tuple #[.agg #[i6 u1.ID, .bool u1.Long, .bool false, .bool false, i6 0, .slice (sm l) E.length u1.Size.toNat], i6 0]) dU (re2c dU (fn := Try.f20) rfl (ad := ⟨u, 0, none⟩) (by kernel_rfl) (loadVar_run dX 2 (b := u) (k := 6) (vs := [i6 u1.ID, .bool u1.Long, .bool false, .bool false, i6 0, .slice (sm l) E.length u1.Size.toNat]) (ty := 53) rfl (by kernel_rfl) (by kernel_rfl)) (by kernel_rfl)) ?_
    exact ⟨((⟨u1.ID, u1.Long, false, false, 0, E⟩ : Frame), 0), (sm l), u1.Size.toNat, dV, rfl, gD, gG, dX.keep (List.Sublist.cons _ (List.Sublist.cons _ (List.Sublist.cons _ (List.Sublist.cons _ (List.Sublist.cons _ (List.Sublist.cons _ (List.Sublist.cons _ (List.Sublist.slnil))))))))⟩
   have gH := Fz.le.refl aY
   refine wp_block ?_
   have dY : Fr 75 [] [⟨4, [], pt n 0⟩, ⟨6, [], pt u 0⟩, ⟨11, [], pt j 0⟩, ⟨12, [], .func (.func 44) #[] #[pt x 0, pt j 0]⟩, ⟨52, [], .slice ao4 u1.Signals.length cap5⟩, ⟨53, [], i6 (u1.Signals.length : Int)⟩, ⟨54, [], i6 0⟩] bG := cg.reg; clear cg
   have dZ : Fr 75 [] [⟨4, [], pt n 0⟩, ⟨6, [], pt u 0⟩, ⟨11, [], pt j 0⟩, ⟨12, [], .func (.func 44) #[] #[pt x 0, pt j 0]⟩, ⟨52, [], .slice ao4 u1.Signals.length cap5⟩, ⟨53, [], i6 (u1.Signals.length : Int)⟩, ⟨54, [], i6 0⟩] bG := dY.reg; clear dY
   obtain ⟨gI, gJ, gK, gL⟩ := gz
   have j4 := B
   refine lp (ι := Int × (List Int) × Fz) (fun s => [⟨4, [], pt n 0⟩, ⟨6, [], pt u 0⟩, ⟨11, [], pt j 0⟩, ⟨12, [], .func (.func 44) #[] #[pt x 0, pt j 0]⟩, ⟨52, [], .slice ao4 u1.Signals.length cap5⟩, ⟨53, [], i6 (u1.Signals.length : Int)⟩, ⟨54, [], i6 s.1⟩]) (fun s => [.row x [.slice m (readS u0 u2).1.length h] 54, .own tyReading 30 m h (readS u0 u2).1, .row u [i6 0, .bool false, .bool false, .bool false, i6 0, .slice none 0 0] 53, .row D (e53Mi u2 ao7 cap8) 53, .row n (e51Mi u1 ao4 cap5) 51, .row C (e51Mi u0 ao1 cap2) 51, .own t8 5 (sm l) u1.Size.toNat s.2.1, .row j [i6 u1.ID, .bool u1.Long, .bool false, .bool false, i6 0, .slice (sm l) s.2.1.length u1.Size.toNat] 53]) (fun s => s.2.2) (fun s => gI s.1 s.2.1 ∧ Fz.le aY s.2.2) (fun s => gJ s.1 s.2.1) ⟨0, a9, aY⟩ ⟨gK, Fz.le.refl _⟩ (by exact dZ.reg) (by exact bF) ?_
   rintro ⟨N, H, aK⟩ ⟨gM, aQ⟩ gN gO d0 d1
   have d2 : Fr 75 [] [⟨4, [], pt n 0⟩, ⟨6, [], pt u 0⟩, ⟨11, [], pt j 0⟩, ⟨12, [], .func (.func 44) #[] #[pt x 0, pt j 0]⟩, ⟨52, [], .slice ao4 u1.Signals.length cap5⟩, ⟨53, [], i6 (u1.Signals.length : Int)⟩, ⟨54, [], i6 N⟩] gN := d0; clear d0 dZ
   have bc : Mem w.heap.size [] w Z [.row x [.slice m (readS u0 u2).1.length h] 54, .own tyReading 30 m h (readS u0 u2).1, .row u [i6 0, .bool false, .bool false, .bool false, i6 0, .slice none 0 0] 53, .row D (e53Mi u2 ao7 cap8) 53, .row n (e51Mi u1 ao4 cap5) 51, .row C (e51Mi u0 ao1 cap2) 51, .own t8 5 (sm l) u1.Size.toNat H, .row j [i6 u1.ID, .bool u1.Long, .bool false, .bool false, i6 0, .slice (sm l) H.length u1.Size.toNat] 53] aK gO := d1; clear d1 bF
   have bI := gL N H gM
   replace B := Fz.le.trans B aQ
   have d3 := dH.mono aQ
   have bJ := dI.mono aQ
   have d4 := dJ.mono aQ
   have d5 := ba.mono aQ
   have cj := gH.mono aQ
   refine sqB d2 bc [] [] [(55, .bool (decide (N < (u1.Signals.length : Int))))] ?_; intro d6 bK; clear d2
   refine wp_seq ?_
   refine cd bK (t := decide (N < (u1.Signals.length : Int))) (by kernel_rfl) (fun cl => ?_) (fun cl => ?_)
   ·
    have gP := bI.1 cl; clear bI
    refine wp_skip ?_
    refine thn ?_
    have d7 : Fr 75 [] [⟨4, [], pt n 0⟩, ⟨6, [], pt u 0⟩, ⟨11, [], pt j 0⟩, ⟨12, [], .func (.func 44) #[] #[pt x 0, pt j 0]⟩, ⟨52, [], .slice ao4 u1.Signals.length cap5⟩, ⟨53, [], i6 (u1.Signals.length : Int)⟩, ⟨54, [], i6 N⟩] d6 := bK.reg; clear bK
    have cm : Fr 75 [] [⟨4, [], pt n 0⟩, ⟨6, [], pt u 0⟩, ⟨11, [], pt j 0⟩, ⟨12, [], .func (.func 44) #[] #[pt x 0, pt j 0]⟩, ⟨52, [], .slice ao4 u1.Signals.length cap5⟩, ⟨53, [], i6 (u1.Signals.length : Int)⟩, ⟨54, [], i6 N⟩] d6 := d7.reg; clear d7
    obtain ⟨gQ, gR, gS⟩ := gP
    refine wp_seq_k fun KJ334 hKJ335 => ?_
    have cn : ∀ (bd : List Int) (bL : Fz), gQ bd ∧ Fz.le aK bL → ∀ a1 O, Fr 75 [] [⟨4, [], pt n 0⟩, ⟨6, [], pt u 0⟩, ⟨11, [], pt j 0⟩, ⟨12, [], .func (.func 44) #[] #[pt x 0, pt j 0]⟩, ⟨52, [], .slice ao4 u1.Signals.length cap5⟩, ⟨53, [], i6 (u1.Signals.length : Int)⟩, ⟨54, [], i6 N⟩] a1 → Mem w.heap.size [] w Z [.row x [.slice m (readS u0 u2).1.length h] 54, .own tyReading 30 m h (readS u0 u2).1, .row u [i6 0, .bool false, .bool false, .bool false, i6 0, .slice none 0 0] 53, .row D (e53Mi u2 ao7 cap8) 53, .row n (e51Mi u1 ao4 cap5) 51, .row C (e51Mi u0 ao1 cap2) 51, .own t8 5 (sm l) u1.Size.toNat bd, .row j [i6 u1.ID, .bool u1.Long, .bool false, .bool false, i6 0, .slice (sm l) bd.length u1.Size.toNat] 53] bL O → KJ334 a1 O := by
     rintro bd bL ⟨gT, a2⟩ j5 j6 d8 d9; clear cm bc
     refine hKJ335 _ _ ?_; clear hKJ335
     have ea := gS bd gT
     replace B := Fz.le.trans B a2
     have j7 := d3.mono a2
     have j8 := bJ.mono a2
     have j9 := d4.mono a2
     have ka := d5.mono a2
     have kb := cj.mono a2
     have gU := aQ.mono a2
     refine rgB d8 d9 [] [] [(54, i6 (w64 (N + 1)))] ?_; intro kc gV; clear d8
     refine rd ?_
     exact ⟨⟨w64 (N + 1), bd, bL⟩, ⟨ea.1, gU⟩, ea.2, (gV.reg).anyβ _ (by kernel_rfl), d9.keep (List.Sublist.cons_cons _ (List.Sublist.cons_cons _ (List.Sublist.cons_cons _ (List.Sublist.cons_cons _ (List.Sublist.cons_cons _ (List.Sublist.cons_cons _ (List.Sublist.cons_cons _ (List.Sublist.cons_cons _ (List.Sublist.slnil)))))))))⟩
    have co := Fz.le.refl aK
    refine wp_block ?_
    refine sqH ?_; intro gW eb
    refine s1 cm 56 (i6 N) ?_; intro kd ec; clear cm
    obtain ⟨gX, ed⟩ := gR
    refine ix ec (T := tySignal) (xs := u1.Signals) bJ N gX (k := .i64) (e := 23) (bytes := 72) (nog rfl _) rfl (by kernel_rfl) rfl (by kernel_rfl) (by kernel_rfl) (by kernel_rfl) ?_; intro gY gZ g0 f ke g1 ee g2 ef; clear ec
    have bM := ed f g1; clear ed
    obtain rfl : g0 = ((e23Mi f) : List Value) := g2
    refine z2 ef bc 58 ee 0 9 (e23Mi f) rfl ?_; intro kg eg; clear ef
    refine nw eg bc pb [str [], i6 0, i6 0, .bool false, .bool false, i6 0, i6 0, i6 0, i6 0] 23 ?_; intro aL kh ki eh ei; clear eg bc
    refine s1 eh 13 (i6 N) ?_; intro kj cp; clear eh
    refine sx cp ei 0 (e23Mi f) 0 ?_; intro g3 ej; clear ei
    have a3 : Mem w.heap.size [] w Z [.row aL (e23Mi f) 23, .row x [.slice m (readS u0 u2).1.length h] 54, .own tyReading 30 m h (readS u0 u2).1, .row u [i6 0, .bool false, .bool false, .bool false, i6 0, .slice none 0 0] 53, .row D (e53Mi u2 ao7 cap8) 53, .row n (e51Mi u1 ao4 cap5) 51, .row C (e51Mi u0 ao1 cap2) 51, .own t8 5 (sm l) u1.Size.toNat H, .row j [i6 u1.ID, .bool u1.Long, .bool false, .bool false, i6 0, .slice (sm l) H.length u1.Size.toNat] 53] aK g3 := ej; clear ej
    refine nlH (eb _ _ ?_); clear eb gW
    refine sqH ?_; intro ek bN
    refine bt cp a3 5 [5] [] [(63, .bool (N != u1.Chooser))] ?_; intro kk bO; clear cp
    rcases Bool.eq_false_or_eq_true (N != u1.Chooser) with bm | bm
    ·
     have g4 := bM.1 bm; clear bM
     have el := bO.reval (d := 63) (c := []) (v := .bool (N != u1.Chooser)) (by kernel_rfl) (.bool true) (by rw [bm]); clear bO
     refine bt el a3 4 [5, 0, 8] [64, 65, 66, 67] [(64, .agg (e51Mi u1 ao4 cap5).toArray), (65, .agg (e23Mi f).toArray), (67, .slice (sm l) H.length u1.Size.toNat)] ?_; intro kl cq; clear el
     obtain ⟨g5, bP⟩ := g4
     refine fcl cq a3 (.bool (mthereS u1 f H)) 41 #[.agg (e51Mi u1 ao4 cap5).toArray, .agg (e23Mi f).toArray, .slice (sm l) H.length u1.Size.toNat] (by rw [wanted_of cq (b := true) rfl rfl (by kernel_rfl) (by kernel_rfl)]; rfl) rfl (by kernel_rfl) (fun _ => by kernel_rfl) ((by obtain ⟨Z9, g6, g7, g8⟩ := a3.lend 7 rfl; exact mthere_fun u1 f H g5 ao4 cap5 (sm l) u1.Size.toNat _ _ (SlR.mono bJ g6) g8 g7)) ?_; intro km kn em bQ; clear cq a3
     refine s1 em 69 (.bool (mthereS u1 f H)) ?_; intro ko bR; clear em
     refine nlH (bN _ _ ?_); clear bN ek
     refine cd bR (t := (mthereS u1 f H)) (by kernel_rfl) (fun cr => ?_) (fun cr => ?_)
     ·
      have g9 := bP.1 cr; clear bP
      refine rgH ?_; intro ha en
      refine bt bR bQ 2 [0] [] [(70, .func (.func 44) #[] #[pt x 0, pt j 0]), (71, .agg (e23Mi f).toArray)] ?_; intro kp eo; clear bR
      refine ck eo 44 #[.agg (e23Mi f).toArray, pt x 0, pt j 0] ?_
      refine enter0 Try.func44 rfl rfl (by kernel_rfl) ?_; intro hb ep
      have eq : Fr 36 [] [⟨0, [], .agg (e23Mi f).toArray⟩, ⟨1, [], pt x 0⟩, ⟨2, [], pt j 0⟩] hb := ep.reg; clear ep
      refine sqH ?_; intro hc er
      refine nw eq bQ pb (e23Mi f) 23 ?_; intro R kq kr es cs; clear eq bQ
      refine nlH (er _ _ ?_); clear er hc
      refine sqB es cs [2] [] [(8, .slice m (readS u0 u2).1.length h), (9, i6 ((readS u0 u2).1.length : Int)), (10, i6 0)] ?_; intro et eu; clear es
      refine wp_block ?_
      have ev : Fr 36 [] [⟨2, [], pt j 0⟩, ⟨3, [], pt R 0⟩, ⟨8, [], .slice m (readS u0 u2).1.length h⟩, ⟨9, [], i6 ((readS u0 u2).1.length : Int)⟩, ⟨10, [], i6 0⟩] et := eu.reg; clear eu
      have ew : Fr 36 [] [⟨2, [], pt j 0⟩, ⟨3, [], pt R 0⟩, ⟨8, [], .slice m (readS u0 u2).1.length h⟩, ⟨9, [], i6 ((readS u0 u2).1.length : Int)⟩, ⟨10, [], i6 0⟩] et := ev.reg; clear ev
      obtain ⟨hd, he, hf, hg⟩ := g9
      have ks := B
      refine lp (ι := Int × (List Int) × Fz) (fun s => [⟨2, [], pt j 0⟩, ⟨3, [], pt R 0⟩, ⟨8, [], .slice m (readS u0 u2).1.length h⟩, ⟨9, [], i6 ((readS u0 u2).1.length : Int)⟩, ⟨10, [], i6 s.1⟩]) (fun s => [.row R (e23Mi f) 23, .row aL (e23Mi f) 23, .row x [.slice m (readS u0 u2).1.length h] 54, .own tyReading 30 m h (readS u0 u2).1, .row u [i6 0, .bool false, .bool false, .bool false, i6 0, .slice none 0 0] 53, .row D (e53Mi u2 ao7 cap8) 53, .row n (e51Mi u1 ao4 cap5) 51, .row C (e51Mi u0 ao1 cap2) 51, .own t8 5 (sm l) u1.Size.toNat s.2.1, .row j [i6 u1.ID, .bool u1.Long, .bool false, .bool false, i6 0, .slice (sm l) s.2.1.length u1.Size.toNat] 53]) (fun s => s.2.2) (fun s => hd s.1 s.2.1 ∧ s.2.1.length = H.length ∧ Fz.le aK s.2.2) (fun s => he s.1 s.2.1) ⟨0, H, aK⟩ ⟨hf, rfl, Fz.le.refl _⟩ (by exact ew.reg) (by exact cs) ?_
      rintro ⟨F, I, aR⟩ ⟨hh, kt, ah⟩ hj ex ey ez
      have eA : Fr 36 [] [⟨2, [], pt j 0⟩, ⟨3, [], pt R 0⟩, ⟨8, [], .slice m (readS u0 u2).1.length h⟩, ⟨9, [], i6 ((readS u0 u2).1.length : Int)⟩, ⟨10, [], i6 F⟩] hj := ey; clear ey ew
      have aS : Mem w.heap.size [] w Z [.row R (e23Mi f) 23, .row aL (e23Mi f) 23, .row x [.slice m (readS u0 u2).1.length h] 54, .own tyReading 30 m h (readS u0 u2).1, .row u [i6 0, .bool false, .bool false, .bool false, i6 0, .slice none 0 0] 53, .row D (e53Mi u2 ao7 cap8) 53, .row n (e51Mi u1 ao4 cap5) 51, .row C (e51Mi u0 ao1 cap2) 51, .own t8 5 (sm l) u1.Size.toNat I, .row j [i6 u1.ID, .bool u1.Long, .bool false, .bool false, i6 0, .slice (sm l) I.length u1.Size.toNat] 53] aR ex := ez; clear ez cs
      have bS := hg F I hh
      replace B := Fz.le.trans B ah
      have ct := d3.mono ah
      have cu := bJ.mono ah
      have cv := d4.mono ah
      have cw := d5.mono ah
      have cx := cj.mono ah
      have cy := aQ.mono ah
      have bT := co.mono ah
      have cz := ee.mono ah
      refine sqB eA aS [] [] [(11, .bool (decide (F < ((readS u0 u2).1.length : Int))))] ?_; intro eB be; clear eA
      refine wp_seq ?_
      refine cd be (t := decide (F < ((readS u0 u2).1.length : Int))) (by kernel_rfl) (fun cA => ?_) (fun cA => ?_)
      ·
       have hk := bS.1 cA; clear bS
       refine wp_skip ?_
       refine thn ?_
       have eC : Fr 36 [] [⟨2, [], pt j 0⟩, ⟨3, [], pt R 0⟩, ⟨8, [], .slice m (readS u0 u2).1.length h⟩, ⟨9, [], i6 ((readS u0 u2).1.length : Int)⟩, ⟨10, [], i6 F⟩] eB := be.reg; clear be
       have cB : Fr 36 [] [⟨2, [], pt j 0⟩, ⟨3, [], pt R 0⟩, ⟨8, [], .slice m (readS u0 u2).1.length h⟩, ⟨9, [], i6 ((readS u0 u2).1.length : Int)⟩, ⟨10, [], i6 F⟩] eB := eC.reg; clear eC
       obtain ⟨hl, hn, ho⟩ := hk
       refine wp_seq_k fun KJ470 hKJ471 => ?_
       have cC : ∀ (a4 : List Int) (bU : Fz), hl a4 ∧ a4.length = I.length ∧ Fz.le aR bU → ∀ a1 O, Fr 36 [] [⟨2, [], pt j 0⟩, ⟨3, [], pt R 0⟩, ⟨8, [], .slice m (readS u0 u2).1.length h⟩, ⟨9, [], i6 ((readS u0 u2).1.length : Int)⟩, ⟨10, [], i6 F⟩] a1 → Mem w.heap.size [] w Z [.row R (e23Mi f) 23, .row aL (e23Mi f) 23, .row x [.slice m (readS u0 u2).1.length h] 54, .own tyReading 30 m h (readS u0 u2).1, .row u [i6 0, .bool false, .bool false, .bool false, i6 0, .slice none 0 0] 53, .row D (e53Mi u2 ao7 cap8) 53, .row n (e51Mi u1 ao4 cap5) 51, .row C (e51Mi u0 ao1 cap2) 51, .own t8 5 (sm l) u1.Size.toNat a4, .row j [i6 u1.ID, .bool u1.Long, .bool false, .bool false, i6 0, .slice (sm l) a4.length u1.Size.toNat] 53] bU O → KJ470 a1 O := by
        rintro a4 bU ⟨hq, ku, aF⟩ kv kw eD eE; clear cB aS
        refine hKJ471 _ _ ?_; clear hKJ471
        have eF := ho a4 hq
        replace B := Fz.le.trans B aF
        have kx := ct.mono aF
        have ky := cu.mono aF
        have kz := cv.mono aF
        have kA := cw.mono aF
        have kB := cx.mono aF
        have kC := cy.mono aF
        have kD := bT.mono aF
        have kE := cz.mono aF
        have hr := ah.mono aF
        refine rgB eD eE [] [] [(10, i6 (w64 (F + 1)))] ?_; intro kF ht; clear eD
        refine rd ?_
        exact ⟨⟨w64 (F + 1), a4, bU⟩, ⟨eF.1, (by first | rfl | assumption | omega | (dsimp only at *; omega) | (simp; try omega)), hr⟩, eF.2, (ht.reg).anyβ _ (by kernel_rfl), eE.keep (List.Sublist.cons_cons _ (List.Sublist.cons_cons _ (List.Sublist.cons_cons _ (List.Sublist.cons_cons _ (List.Sublist.cons_cons _ (List.Sublist.cons_cons _ (List.Sublist.cons_cons _ (List.Sublist.cons_cons _ (List.Sublist.cons_cons _ (List.Sublist.cons_cons _ (List.Sublist.slnil)))))))))))⟩
       have bn := Fz.le.refl aR
       refine wp_block ?_
       refine sqH ?_; intro hu eG
       obtain ⟨hv, eH⟩ := hn
       refine ixo cB aS 3 (T := tyReading) (xs := (readS u0 u2).1) F hv (k := .i64) (e := 30) (bytes := 32) (nog rfl _) rfl (by kernel_rfl) rfl (by kernel_rfl) (by kernel_rfl) rfl (by kernel_rfl) ?_; intro aT kG hw eI; clear cB
       subst hw
       obtain ⟨p, hx, bV⟩ := gxq eH (by first | omega | (simp only [List.length_set] at *; omega)); clear eH
       obtain ⟨hy, hz, hA⟩ := own_el aS 3 (T := tyReading) (xs := (readS u0 u2).1) rfl F.toNat hx
       obtain rfl : hy = ((e30Mi p) : List Value) := hz
       refine lc2 eI 13 3 (e30Mi p) hA rfl ?_; intro kH eJ; clear eI
       refine nw eJ aS pb [str [], i6 0, i6 0] 30 ?_; intro bW kI kJ cD eK; clear eJ aS
       refine sx cD eK 0 (e30Mi p) 0 ?_; intro hB eL; clear eK
       have bf : Mem w.heap.size [] w Z [.row bW (e30Mi p) 30, .row R (e23Mi f) 23, .row aL (e23Mi f) 23, .row x [.slice (sm aT) (readS u0 u2).1.length h] 54, .own tyReading 30 (sm aT) h (readS u0 u2).1, .row u [i6 0, .bool false, .bool false, .bool false, i6 0, .slice none 0 0] 53, .row D (e53Mi u2 ao7 cap8) 53, .row n (e51Mi u1 ao4 cap5) 51, .row C (e51Mi u0 ao1 cap2) 51, .own t8 5 (sm l) u1.Size.toNat I, .row j [i6 u1.ID, .bool u1.Long, .bool false, .bool false, i6 0, .slice (sm l) I.length u1.Size.toNat] 53] aR hB := eL; clear eL
       refine nlH (eG _ _ ?_); clear eG hu
       refine wp_seq ?_
       refine sqB cD bf [0, 1] [54] [(18, .bool (p.Name != f.Name))] ?_; intro kK bX; clear cD
       refine cd bX (t := p.Name != f.Name) (by kernel_rfl) (fun cE => ?_) (fun cE => ?_)
       ·
        have hC := bV.1 cE; clear bV
        refine wp_exit ?_
        refine thx ?_
        refine ibx ?_
        refine rd ?_
        exact cC I aR ⟨hC, (by first | rfl | assumption | omega | (dsimp only at *; omega) | (simp; try omega)), bn⟩ _ _ ((bX.reg).anyβ _ (by kernel_rfl)) (bf.keep (List.Sublist.cons _ (List.Sublist.cons_cons _ (List.Sublist.cons_cons _ (List.Sublist.cons_cons _ (List.Sublist.cons_cons _ (List.Sublist.cons_cons _ (List.Sublist.cons_cons _ (List.Sublist.cons_cons _ (List.Sublist.cons_cons _ (List.Sublist.cons_cons _ (List.Sublist.cons_cons _ (List.Sublist.slnil)))))))))))))
       have bY := bV.2 cE; clear bV
       refine wp_skip ?_
       refine thn ?_
       refine sqH ?_; intro hD eM
       refine bt bX bf 5 [1, 0, 0] [] [(20, .agg (e23Mi f).toArray), (22, i6 p.Num), (24, i6 p.Den)] ?_; intro kL eN; clear bX
       refine fc eN bf (sraw_fun f p.Num p.Den _ _ bf.fz) ?_; intro kM kN eO a5; clear eN bf
       refine bt eO a5 5 [] [] [(6, i6 (rawS f p.Num p.Den).1), (7, i6 (rawS f p.Num p.Den).2)] ?_; intro kO eP; clear eO
       refine nlH (eM _ _ ?_); clear eM hD
       refine sqB eP a5 [] [] [(29, .bool ((rawS f p.Num p.Den).2 == 0))] ?_; intro kP bZ; clear eP
       refine cd bZ (t := (rawS f p.Num p.Den).2 == 0) (by kernel_rfl) (fun cF => ?_) (fun cF => ?_)
       ·
        have hF := bY.1 cF; clear bY
        refine rgH ?_; intro hH eQ
        refine bt bZ a5 4 [1, 10] [] [(30, .agg (e23Mi f).toArray), (32, .slice (sm l) I.length u1.Size.toNat), (33, i6 (rawS f p.Num p.Den).1)] ?_; intro kQ eR; clear bZ
        obtain ⟨hK, eS⟩ := hF
        refine ck eR 26 #[.agg (e23Mi f).toArray, .slice (sm l) I.length u1.Size.toNat, i6 (rawS f p.Num p.Den).1] ?_
        refine (sputd_fun f I (rawS f p.Num p.Den).1 hK (sm l) u1.Size.toNat _ _ _ _ _ _ (a5.perm (pk 9 rfl)) a5.fz).mono ?_; rintro _ eT ⟨cG, rfl, ap, hL, hm⟩; refine ⟨_, rfl, ?_⟩; intro hM eU; have eV := hm; clear hm a5 eR
        replace ct := ct.mono ap
        replace cu := cu.mono ap
        replace cv := cv.mono ap
        replace cw := cw.mono ap
        replace cx := cx.mono ap
        replace cy := cy.mono ap
        replace bT := bT.mono ap
        replace cz := cz.mono ap
        replace ah := ah.mono ap
        replace bn := bn.mono ap
        replace B := Fz.le.trans B ap
        have hN : Fr 36 [] [⟨2, [], pt j 0⟩, ⟨3, [], pt R 0⟩, ⟨5, [], pt bW 0⟩, ⟨6, [], i6 (rawS f p.Num p.Den).1⟩, ⟨7, [], i6 (rawS f p.Num p.Den).2⟩, ⟨8, [], .slice (sm aT) (readS u0 u2).1.length h⟩, ⟨9, [], i6 ((readS u0 u2).1.length : Int)⟩, ⟨10, [], i6 F⟩, ⟨12, [], .pointer (some ⟨aT, F.toNat * 3, none⟩)⟩, ⟨13, [], .agg (e30Mi p).toArray⟩, ⟨18, [], .bool (p.Name != f.Name)⟩, ⟨20, [], .agg (e23Mi f).toArray⟩, ⟨22, [], i6 p.Num⟩, ⟨24, [], i6 p.Den⟩, ⟨25, [], .tuple #[i6 (rawS f p.Num p.Den).1, i6 (rawS f p.Num p.Den).2]⟩, ⟨29, [], .bool ((rawS f p.Num p.Den).2 == 0)⟩, ⟨30, [], .agg (e23Mi f).toArray⟩, ⟨32, [], .slice (sm l) (putS f I (rawS f p.Num p.Den).1).length u1.Size.toNat⟩, ⟨33, [], i6 (rawS f p.Num p.Den).1⟩, ⟨34, [], .tuple #[]⟩] hM := by rw [hL]; exact eU.reg
        clear eU
        have hO : (putS f I (rawS f p.Num p.Den).1).length = I.length := by first | assumption | (simp; try omega)
        have eW : Mem w.heap.size [] w Z [.own t8 5 (sm l) u1.Size.toNat (putS f I (rawS f p.Num p.Den).1), .row bW (e30Mi p) 30, .row R (e23Mi f) 23, .row aL (e23Mi f) 23, .row x [.slice (sm aT) (readS u0 u2).1.length h] 54, .own tyReading 30 (sm aT) h (readS u0 u2).1, .row u [i6 0, .bool false, .bool false, .bool false, i6 0, .slice none 0 0] 53, .row D (e53Mi u2 ao7 cap8) 53, .row n (e51Mi u1 ao4 cap5) 51, .row C (e51Mi u0 ao1 cap2) 51, .row j [i6 u1.ID, .bool u1.Long, .bool false, .bool false, i6 0, .slice (sm l) (putS f I (rawS f p.Num p.Den).1).length u1.Size.toNat] 53] cG eT := by rw [hO]; exact eV
        clear eV
        have eX : Mem w.heap.size [] w Z [.own t8 5 (sm l) u1.Size.toNat (putS f I (rawS f p.Num p.Den).1), .row bW (e30Mi p) 30, .row R (e23Mi f) 23, .row aL (e23Mi f) 23, .row x [.slice (sm aT) (readS u0 u2).1.length h] 54, .own tyReading 30 (sm aT) h (readS u0 u2).1, .row u [i6 0, .bool false, .bool false, .bool false, i6 0, .slice none 0 0] 53, .row D (e53Mi u2 ao7 cap8) 53, .row n (e51Mi u1 ao4 cap5) 51, .row C (e51Mi u0 ao1 cap2) 51, .row j [i6 u1.ID, .bool u1.Long, .bool false, .bool false, i6 0, .slice (sm l) (putS f I (rawS f p.Num p.Den).1).length u1.Size.toNat] 53] cG eT := eW; clear eW
        have hP := eS (eX.ownSmall 0 rfl); clear eS
        refine nlH (eQ _ _ ?_); clear eQ hH
        refine ibn ?_
        refine rd ?_
        have hQ := eX.perm ((pk 2 rfl).trans (((pk 2 rfl).trans (((pk 2 rfl).trans (((pk 2 rfl).trans (((pk 2 rfl).trans (((pk 2 rfl).trans (((pk 2 rfl).trans (((pk 2 rfl).trans ((((pk 1 rfl).trans (lpr.cons _)).cons _).cons _)).cons _)).cons _)).cons _)).cons _)).cons _)).cons _)).cons _))
        exact cC (putS f I (rawS f p.Num p.Den).1) cG ⟨hP, (by first | rfl | assumption | omega | (dsimp only at *; omega) | (simp; try omega)), bn⟩ _ _ ((hN.reg).anyβ _ (by kernel_rfl)) (hQ.keep (List.Sublist.cons_cons _ (List.Sublist.cons_cons _ (List.Sublist.cons_cons _ (List.Sublist.cons_cons _ (List.Sublist.cons_cons _ (List.Sublist.cons_cons _ (List.Sublist.cons_cons _ (List.Sublist.cons_cons _ (List.Sublist.cons_cons _ (List.Sublist.cons_cons _ (List.Sublist.cons _ (List.Sublist.slnil)))))))))))))
       have hR := bY.2 cF; clear bY
       refine wp_skip ?_
       refine ibn ?_
       refine rd ?_
       exact cC I aR ⟨hR, (by first | rfl | assumption | omega | (dsimp only at *; omega) | (simp; try omega)), bn⟩ _ _ ((bZ.reg).anyβ _ (by kernel_rfl)) (a5.keep (List.Sublist.cons _ (List.Sublist.cons_cons _ (List.Sublist.cons_cons _ (List.Sublist.cons_cons _ (List.Sublist.cons_cons _ (List.Sublist.cons_cons _ (List.Sublist.cons_cons _ (List.Sublist.cons_cons _ (List.Sublist.cons_cons _ (List.Sublist.cons_cons _ (List.Sublist.cons_cons _ (List.Sublist.slnil)))))))))))))
      have hT := bS.2 cA; clear bS
      refine wp_exit ?_
      refine thx ?_
      refine thx ?_
      refine ibx ?_
      refine rN (fn := Try.f44) (v := .tuple #[]) be (re0 be (fn := Try.f44) rfl) ?_
      refine ⟨_, rfl, ?_⟩; intro hU eY; clear eo be
      have hV : I.length = H.length := by first | assumption | omega | (dsimp only at *; omega) | (simp; try omega)
      have hW : Fr 75 [] [⟨4, [], pt n 0⟩, ⟨6, [], pt u 0⟩, ⟨11, [], pt j 0⟩, ⟨12, [], .func (.func 44) #[] #[pt x 0, pt j 0]⟩, ⟨13, [], i6 N⟩, ⟨14, [], pt aL 0⟩, ⟨52, [], .slice ao4 u1.Signals.length cap5⟩, ⟨53, [], i6 (u1.Signals.length : Int)⟩, ⟨54, [], i6 N⟩, ⟨56, [], i6 N⟩, ⟨57, [], pt gY gZ⟩, ⟨58, [], .agg (e23Mi f).toArray⟩, ⟨63, [], .bool true⟩, ⟨64, [], .agg (e51Mi u1 ao4 cap5).toArray⟩, ⟨65, [], .agg (e23Mi f).toArray⟩, ⟨67, [], .slice (sm l) I.length u1.Size.toNat⟩, ⟨68, [], .bool (mthereS u1 f H)⟩, ⟨69, [], .bool (mthereS u1 f H)⟩, ⟨70, [], .func (.func 44) #[] #[pt x 0, pt j 0]⟩, ⟨71, [], .agg (e23Mi f).toArray⟩, ⟨72, [], .tuple #[]⟩] hU := by rw [hV]; exact eY.reg
      clear eY
      have hX : Mem w.heap.size [] w Z [.row R (e23Mi f) 23, .row aL (e23Mi f) 23, .row x [.slice m (readS u0 u2).1.length h] 54, .own tyReading 30 m h (readS u0 u2).1, .row u [i6 0, .bool false, .bool false, .bool false, i6 0, .slice none 0 0] 53, .row D (e53Mi u2 ao7 cap8) 53, .row n (e51Mi u1 ao4 cap5) 51, .row C (e51Mi u0 ao1 cap2) 51, .own t8 5 (sm l) u1.Size.toNat I, .row j [i6 u1.ID, .bool u1.Long, .bool false, .bool false, i6 0, .slice (sm l) I.length u1.Size.toNat] 53] aR ex := aS; clear aS
      refine nlH (en _ _ ?_); clear en ha
      refine ibn ?_
      refine rd ?_
      exact cn I aR ⟨hT, bT⟩ _ _ ((hW.reg).anyβ _ (by kernel_rfl)) (hX.keep (List.Sublist.cons _ (List.Sublist.cons _ (List.Sublist.cons_cons _ (List.Sublist.cons_cons _ (List.Sublist.cons_cons _ (List.Sublist.cons_cons _ (List.Sublist.cons_cons _ (List.Sublist.cons_cons _ (List.Sublist.cons_cons _ (List.Sublist.cons_cons _ (List.Sublist.slnil))))))))))))
     have hY := bP.2 cr; clear bP
     refine wp_skip ?_
     refine ibn ?_
     refine rd ?_
     exact cn H aK ⟨hY, co⟩ _ _ ((bR.reg).anyβ _ (by kernel_rfl)) (bQ.keep (List.Sublist.cons _ (List.Sublist.cons_cons _ (List.Sublist.cons_cons _ (List.Sublist.cons_cons _ (List.Sublist.cons_cons _ (List.Sublist.cons_cons _ (List.Sublist.cons_cons _ (List.Sublist.cons_cons _ (List.Sublist.cons_cons _ (List.Sublist.slnil)))))))))))
    have h1 := bM.2 bm; clear bM
    have eZ := bO.reval (d := 63) (c := []) (v := .bool (N != u1.Chooser)) (by kernel_rfl) (.bool false) (by rw [bm]); clear bO
    refine bt eZ a3 6 [] [64, 65, 66, 67, 68, 69] [(69, .bool false)] ?_; intro kR e0; clear eZ
    refine nlH (bN _ _ ?_); clear bN ek
    refine cdF e0 (by kernel_rfl) ?_
    refine wp_skip ?_
    refine ibn ?_
    refine rd ?_
    exact cn H aK ⟨h1, co⟩ _ _ ((e0.reg).anyβ _ (by kernel_rfl)) (a3.keep (List.Sublist.cons _ (List.Sublist.cons_cons _ (List.Sublist.cons_cons _ (List.Sublist.cons_cons _ (List.Sublist.cons_cons _ (List.Sublist.cons_cons _ (List.Sublist.cons_cons _ (List.Sublist.cons_cons _ (List.Sublist.cons_cons _ (List.Sublist.slnil)))))))))))
   have h2 := bI.2 cl; clear bI
   refine wp_exit ?_
   refine thx ?_
   refine thx ?_
   refine ibx ?_
   refine rd ?_
   exact gB H aK ⟨h2, cj⟩ _ _ ((bK.reg).anyβ _ (by kernel_rfl)) (bc.keep (List.Sublist.cons_cons _ (List.Sublist.cons_cons _ (List.Sublist.cons_cons _ (List.Sublist.cons_cons _ (List.Sublist.cons_cons _ (List.Sublist.cons_cons _ (List.Sublist.cons_cons _ (List.Sublist.cons_cons _ (List.Sublist.slnil))))))))))
  have e1 := Fz.le.refl V
  refine cd bl (t := decide (u1.Chooser ≥ 0)) (by kernel_rfl) (fun cH => ?_) (fun cH => ?_)
  ·
   have h3 := bE.1 cH; clear bE
   refine rgH ?_; intro h4 e2
   refine bt bl hMx 5 [4, 4] [] [(43, .func (.func 44) #[] #[pt x 0, pt j 0]), (45, .slice ao4 u1.Signals.length cap5), (47, i6 u1.Chooser)] ?_; intro kS e3; clear bl
   obtain ⟨h5, e4⟩ := h3
   refine ix e3 (T := tySignal) (xs := u1.Signals) cf u1.Chooser h5 (k := .i64) (e := 23) (bytes := 72) (nog rfl _) rfl (by kernel_rfl) rfl (by kernel_rfl) (by kernel_rfl) (by kernel_rfl) ?_; intro kT kU h6 g kV h7 e5 h8 e6; clear e3
   have h9 := e4 g h7; clear e4
   obtain rfl : h6 = ((e23Mi g) : List Value) := h8
   refine z2 e6 hMx 49 e5 0 9 (e23Mi g) rfl ?_; intro kW e7; clear e6
   refine ck e7 44 #[.agg (e23Mi g).toArray, pt x 0, pt j 0] ?_
   refine enter0 Try.func44 rfl rfl (by kernel_rfl) ?_; intro ia e8
   have e9 : Fr 36 [] [⟨0, [], .agg (e23Mi g).toArray⟩, ⟨1, [], pt x 0⟩, ⟨2, [], pt j 0⟩] ia := e8.reg; clear e8
   refine sqH ?_; intro ib fa
   refine nw e9 hMx pb (e23Mi g) 23 ?_; intro U kX kY fb cI; clear e9 hMx
   refine nlH (fa _ _ ?_); clear fa ib
   refine sqB fb cI [1] [] [(8, .slice m (readS u0 u2).1.length h), (9, i6 ((readS u0 u2).1.length : Int)), (10, i6 0)] ?_; intro fd fe; clear fb
   refine wp_block ?_
   have fg : Fr 36 [] [⟨2, [], pt j 0⟩, ⟨3, [], pt U 0⟩, ⟨8, [], .slice m (readS u0 u2).1.length h⟩, ⟨9, [], i6 ((readS u0 u2).1.length : Int)⟩, ⟨10, [], i6 0⟩] fd := fe.reg; clear fe
   have fh : Fr 36 [] [⟨2, [], pt j 0⟩, ⟨3, [], pt U 0⟩, ⟨8, [], .slice m (readS u0 u2).1.length h⟩, ⟨9, [], i6 ((readS u0 u2).1.length : Int)⟩, ⟨10, [], i6 0⟩] fd := fg.reg; clear fg
   obtain ⟨ic, id, ie, ig⟩ := h9
   have kZ := B
   refine lp (ι := Int × (List Int) × Fz) (fun s => [⟨2, [], pt j 0⟩, ⟨3, [], pt U 0⟩, ⟨8, [], .slice m (readS u0 u2).1.length h⟩, ⟨9, [], i6 ((readS u0 u2).1.length : Int)⟩, ⟨10, [], i6 s.1⟩]) (fun s => [.row U (e23Mi g) 23, .row x [.slice m (readS u0 u2).1.length h] 54, .own tyReading 30 m h (readS u0 u2).1, .row u [i6 0, .bool false, .bool false, .bool false, i6 0, .slice none 0 0] 53, .row D (e53Mi u2 ao7 cap8) 53, .row n (e51Mi u1 ao4 cap5) 51, .row C (e51Mi u0 ao1 cap2) 51, .own t8 5 (sm l) u1.Size.toNat s.2.1, .row j [i6 u1.ID, .bool u1.Long, .bool false, .bool false, i6 0, .slice (sm l) s.2.1.length u1.Size.toNat] 53]) (fun s => s.2.2) (fun s => ic s.1 s.2.1 ∧ Fz.le V s.2.2) (fun s => id s.1 s.2.1) ⟨0, (List.replicate u1.Size.toNat (0 : Int)), V⟩ ⟨ie, Fz.le.refl _⟩ (by exact fh.reg) (by exact cI) ?_
   rintro ⟨F, E, aU⟩ ⟨ih, aM⟩ ii fi fj fk
   have fl : Fr 36 [] [⟨2, [], pt j 0⟩, ⟨3, [], pt U 0⟩, ⟨8, [], .slice m (readS u0 u2).1.length h⟩, ⟨9, [], i6 ((readS u0 u2).1.length : Int)⟩, ⟨10, [], i6 F⟩] ii := fj; clear fj fh
   have aV : Mem w.heap.size [] w Z [.row U (e23Mi g) 23, .row x [.slice m (readS u0 u2).1.length h] 54, .own tyReading 30 m h (readS u0 u2).1, .row u [i6 0, .bool false, .bool false, .bool false, i6 0, .slice none 0 0] 53, .row D (e53Mi u2 ao7 cap8) 53, .row n (e51Mi u1 ao4 cap5) 51, .row C (e51Mi u0 ao1 cap2) 51, .own t8 5 (sm l) u1.Size.toNat E, .row j [i6 u1.ID, .bool u1.Long, .bool false, .bool false, i6 0, .slice (sm l) E.length u1.Size.toNat] 53] aU fi := fk; clear fk cI
   have b0 := ig F E ih
   replace B := Fz.le.trans B aM
   have cJ := dy.mono aM
   have cK := cf.mono aM
   have cL := dz.mono aM
   have b1 := e1.mono aM
   have cM := e5.mono aM
   refine sqB fl aV [] [] [(11, .bool (decide (F < ((readS u0 u2).1.length : Int))))] ?_; intro fm bg; clear fl
   refine wp_seq ?_
   refine cd bg (t := decide (F < ((readS u0 u2).1.length : Int))) (by kernel_rfl) (fun cN => ?_) (fun cN => ?_)
   ·
    have ij := b0.1 cN; clear b0
    refine wp_skip ?_
    refine thn ?_
    have fo : Fr 36 [] [⟨2, [], pt j 0⟩, ⟨3, [], pt U 0⟩, ⟨8, [], .slice m (readS u0 u2).1.length h⟩, ⟨9, [], i6 ((readS u0 u2).1.length : Int)⟩, ⟨10, [], i6 F⟩] fm := bg.reg; clear bg
    have cO : Fr 36 [] [⟨2, [], pt j 0⟩, ⟨3, [], pt U 0⟩, ⟨8, [], .slice m (readS u0 u2).1.length h⟩, ⟨9, [], i6 ((readS u0 u2).1.length : Int)⟩, ⟨10, [], i6 F⟩] fm := fo.reg; clear fo
    obtain ⟨ik, il, im⟩ := ij
    refine wp_seq_k fun KJ683 hKJ684 => ?_
    have cP : ∀ (H : List Int) (b2 : Fz), ik H ∧ Fz.le aU b2 → ∀ a1 O, Fr 36 [] [⟨2, [], pt j 0⟩, ⟨3, [], pt U 0⟩, ⟨8, [], .slice m (readS u0 u2).1.length h⟩, ⟨9, [], i6 ((readS u0 u2).1.length : Int)⟩, ⟨10, [], i6 F⟩] a1 → Mem w.heap.size [] w Z [.row U (e23Mi g) 23, .row x [.slice m (readS u0 u2).1.length h] 54, .own tyReading 30 m h (readS u0 u2).1, .row u [i6 0, .bool false, .bool false, .bool false, i6 0, .slice none 0 0] 53, .row D (e53Mi u2 ao7 cap8) 53, .row n (e51Mi u1 ao4 cap5) 51, .row C (e51Mi u0 ao1 cap2) 51, .own t8 5 (sm l) u1.Size.toNat H, .row j [i6 u1.ID, .bool u1.Long, .bool false, .bool false, i6 0, .slice (sm l) H.length u1.Size.toNat] 53] b2 O → KJ683 a1 O := by
     rintro H b2 ⟨io, a6⟩ k0 k1 fp fq; clear cO aV
     refine hKJ684 _ _ ?_; clear hKJ684
     have fr := im H io
     replace B := Fz.le.trans B a6
     have k2 := cJ.mono a6
     have k3 := cK.mono a6
     have k4 := cL.mono a6
     have k5 := b1.mono a6
     have k6 := cM.mono a6
     have ip := aM.mono a6
     refine rgB fp fq [] [] [(10, i6 (w64 (F + 1)))] ?_; intro k7 iq; clear fp
     refine rd ?_
     exact ⟨⟨w64 (F + 1), H, b2⟩, ⟨fr.1, ip⟩, fr.2, (iq.reg).anyβ _ (by kernel_rfl), fq.keep (List.Sublist.cons_cons _ (List.Sublist.cons_cons _ (List.Sublist.cons_cons _ (List.Sublist.cons_cons _ (List.Sublist.cons_cons _ (List.Sublist.cons_cons _ (List.Sublist.cons_cons _ (List.Sublist.cons_cons _ (List.Sublist.cons_cons _ (List.Sublist.slnil))))))))))⟩
    have bo := Fz.le.refl aU
    refine wp_block ?_
    refine sqH ?_; intro ir fs
    obtain ⟨it, ft⟩ := il
    refine ixo cO aV 2 (T := tyReading) (xs := (readS u0 u2).1) F it (k := .i64) (e := 30) (bytes := 32) (nog rfl _) rfl (by kernel_rfl) rfl (by kernel_rfl) (by kernel_rfl) rfl (by kernel_rfl) ?_; intro aW k8 iu fu; clear cO
    subst iu
    obtain ⟨q, iv, b3⟩ := gxq ft (by first | omega | (simp only [List.length_set] at *; omega)); clear ft
    obtain ⟨iw, iy, iz⟩ := own_el aV 2 (T := tyReading) (xs := (readS u0 u2).1) rfl F.toNat iv
    obtain rfl : iw = ((e30Mi q) : List Value) := iy
    refine lc2 fu 13 3 (e30Mi q) iz rfl ?_; intro k9 fv; clear fu
    refine nw fv aV pb [str [], i6 0, i6 0] 30 ?_; intro b4 la lb cQ fw; clear fv aV
    refine sx cQ fw 0 (e30Mi q) 0 ?_; intro iA fx; clear fw
    have bh : Mem w.heap.size [] w Z [.row b4 (e30Mi q) 30, .row U (e23Mi g) 23, .row x [.slice (sm aW) (readS u0 u2).1.length h] 54, .own tyReading 30 (sm aW) h (readS u0 u2).1, .row u [i6 0, .bool false, .bool false, .bool false, i6 0, .slice none 0 0] 53, .row D (e53Mi u2 ao7 cap8) 53, .row n (e51Mi u1 ao4 cap5) 51, .row C (e51Mi u0 ao1 cap2) 51, .own t8 5 (sm l) u1.Size.toNat E, .row j [i6 u1.ID, .bool u1.Long, .bool false, .bool false, i6 0, .slice (sm l) E.length u1.Size.toNat] 53] aU iA := fx; clear fx
    refine nlH (fs _ _ ?_); clear fs ir
    refine wp_seq ?_
    refine sqB cQ bh [0, 1] [54] [(18, .bool (q.Name != g.Name))] ?_; intro lc b5; clear cQ
    refine cd b5 (t := q.Name != g.Name) (by kernel_rfl) (fun cR => ?_) (fun cR => ?_)
    ·
     have iB := b3.1 cR; clear b3
     refine wp_exit ?_
     refine thx ?_
     refine ibx ?_
     refine rd ?_
     exact cP E aU ⟨iB, bo⟩ _ _ ((b5.reg).anyβ _ (by kernel_rfl)) (bh.keep (List.Sublist.cons _ (List.Sublist.cons_cons _ (List.Sublist.cons_cons _ (List.Sublist.cons_cons _ (List.Sublist.cons_cons _ (List.Sublist.cons_cons _ (List.Sublist.cons_cons _ (List.Sublist.cons_cons _ (List.Sublist.cons_cons _ (List.Sublist.cons_cons _ (List.Sublist.slnil))))))))))))
    have b6 := b3.2 cR; clear b3
    refine wp_skip ?_
    refine thn ?_
    refine sqH ?_; intro iC fy
    refine bt b5 bh 5 [1, 0, 0] [] [(20, .agg (e23Mi g).toArray), (22, i6 q.Num), (24, i6 q.Den)] ?_; intro ld fA; clear b5
    refine fc fA bh (sraw_fun g q.Num q.Den _ _ bh.fz) ?_; intro lf lg fB a7; clear fA bh
    refine bt fB a7 5 [] [] [(6, i6 (rawS g q.Num q.Den).1), (7, i6 (rawS g q.Num q.Den).2)] ?_; intro lh fC; clear fB
    refine nlH (fy _ _ ?_); clear fy iC
    refine sqB fC a7 [] [] [(29, .bool ((rawS g q.Num q.Den).2 == 0))] ?_; intro li b7; clear fC
    refine cd b7 (t := (rawS g q.Num q.Den).2 == 0) (by kernel_rfl) (fun cS => ?_) (fun cS => ?_)
    ·
     have iD := b6.1 cS; clear b6
     refine rgH ?_; intro iE fD
     refine bt b7 a7 4 [1, 9] [] [(30, .agg (e23Mi g).toArray), (32, .slice (sm l) E.length u1.Size.toNat), (33, i6 (rawS g q.Num q.Den).1)] ?_; intro lj fE; clear b7
     obtain ⟨iF, fF⟩ := iD
     refine ck fE 26 #[.agg (e23Mi g).toArray, .slice (sm l) E.length u1.Size.toNat, i6 (rawS g q.Num q.Den).1] ?_
     refine (sputd_fun g E (rawS g q.Num q.Den).1 iF (sm l) u1.Size.toNat _ _ _ _ _ _ (a7.perm (pk 8 rfl)) a7.fz).mono ?_; rintro _ fG ⟨cT, rfl, aX, iG, hm⟩; refine ⟨_, rfl, ?_⟩; intro iH fH; have fI := hm; clear hm a7 fE
     replace cJ := cJ.mono aX
     replace cK := cK.mono aX
     replace cL := cL.mono aX
     replace b1 := b1.mono aX
     replace cM := cM.mono aX
     replace aM := aM.mono aX
     replace bo := bo.mono aX
     replace B := Fz.le.trans B aX
     have iI : Fr 36 [] [⟨2, [], pt j 0⟩, ⟨3, [], pt U 0⟩, ⟨5, [], pt b4 0⟩, ⟨6, [], i6 (rawS g q.Num q.Den).1⟩, ⟨7, [], i6 (rawS g q.Num q.Den).2⟩, ⟨8, [], .slice (sm aW) (readS u0 u2).1.length h⟩, ⟨9, [], i6 ((readS u0 u2).1.length : Int)⟩, ⟨10, [], i6 F⟩, ⟨12, [], .pointer (some ⟨aW, F.toNat * 3, none⟩)⟩, ⟨13, [], .agg (e30Mi q).toArray⟩, ⟨18, [], .bool (q.Name != g.Name)⟩, ⟨20, [], .agg (e23Mi g).toArray⟩, ⟨22, [], i6 q.Num⟩, ⟨24, [], i6 q.Den⟩, ⟨25, [], .tuple #[i6 (rawS g q.Num q.Den).1, i6 (rawS g q.Num q.Den).2]⟩, ⟨29, [], .bool ((rawS g q.Num q.Den).2 == 0)⟩, ⟨30, [], .agg (e23Mi g).toArray⟩, ⟨32, [], .slice (sm l) (putS g E (rawS g q.Num q.Den).1).length u1.Size.toNat⟩, ⟨33, [], i6 (rawS g q.Num q.Den).1⟩, ⟨34, [], .tuple #[]⟩] iH := by rw [iG]; exact fH.reg
     clear fH
     have iJ : (putS g E (rawS g q.Num q.Den).1).length = E.length := by first | assumption | (simp; try omega)
     have fJ : Mem w.heap.size [] w Z [.own t8 5 (sm l) u1.Size.toNat (putS g E (rawS g q.Num q.Den).1), .row b4 (e30Mi q) 30, .row U (e23Mi g) 23, .row x [.slice (sm aW) (readS u0 u2).1.length h] 54, .own tyReading 30 (sm aW) h (readS u0 u2).1, .row u [i6 0, .bool false, .bool false, .bool false, i6 0, .slice none 0 0] 53, .row D (e53Mi u2 ao7 cap8) 53, .row n (e51Mi u1 ao4 cap5) 51, .row C (e51Mi u0 ao1 cap2) 51, .row j [i6 u1.ID, .bool u1.Long, .bool false, .bool false, i6 0, .slice (sm l) (putS g E (rawS g q.Num q.Den).1).length u1.Size.toNat] 53] cT fG := by rw [iJ]; exact fI
     clear fI
     have fK : Mem w.heap.size [] w Z [.own t8 5 (sm l) u1.Size.toNat (putS g E (rawS g q.Num q.Den).1), .row b4 (e30Mi q) 30, .row U (e23Mi g) 23, .row x [.slice (sm aW) (readS u0 u2).1.length h] 54, .own tyReading 30 (sm aW) h (readS u0 u2).1, .row u [i6 0, .bool false, .bool false, .bool false, i6 0, .slice none 0 0] 53, .row D (e53Mi u2 ao7 cap8) 53, .row n (e51Mi u1 ao4 cap5) 51, .row C (e51Mi u0 ao1 cap2) 51, .row j [i6 u1.ID, .bool u1.Long, .bool false, .bool false, i6 0, .slice (sm l) (putS g E (rawS g q.Num q.Den).1).length u1.Size.toNat] 53] cT fG := fJ; clear fJ
     have iK := fF (fK.ownSmall 0 rfl); clear fF
     refine nlH (fD _ _ ?_); clear fD iE
     refine ibn ?_
     refine rd ?_
     have iL := fK.perm ((pk 2 rfl).trans (((pk 2 rfl).trans (((pk 2 rfl).trans (((pk 2 rfl).trans (((pk 2 rfl).trans (((pk 2 rfl).trans (((pk 2 rfl).trans ((((pk 1 rfl).trans (lpr.cons _)).cons _).cons _)).cons _)).cons _)).cons _)).cons _)).cons _)).cons _))
     exact cP (putS g E (rawS g q.Num q.Den).1) cT ⟨iK, bo⟩ _ _ ((iI.reg).anyβ _ (by kernel_rfl)) (iL.keep (List.Sublist.cons_cons _ (List.Sublist.cons_cons _ (List.Sublist.cons_cons _ (List.Sublist.cons_cons _ (List.Sublist.cons_cons _ (List.Sublist.cons_cons _ (List.Sublist.cons_cons _ (List.Sublist.cons_cons _ (List.Sublist.cons_cons _ (List.Sublist.cons _ (List.Sublist.slnil))))))))))))
    have iM := b6.2 cS; clear b6
    refine wp_skip ?_
    refine ibn ?_
    refine rd ?_
    exact cP E aU ⟨iM, bo⟩ _ _ ((b7.reg).anyβ _ (by kernel_rfl)) (a7.keep (List.Sublist.cons _ (List.Sublist.cons_cons _ (List.Sublist.cons_cons _ (List.Sublist.cons_cons _ (List.Sublist.cons_cons _ (List.Sublist.cons_cons _ (List.Sublist.cons_cons _ (List.Sublist.cons_cons _ (List.Sublist.cons_cons _ (List.Sublist.cons_cons _ (List.Sublist.slnil))))))))))))
   have iN := b0.2 cN; clear b0
   refine wp_exit ?_
   refine thx ?_
   refine thx ?_
   refine ibx ?_
   refine rN (fn := Try.f44) (v := .tuple #[]) bg (re0 bg (fn := Try.f44) rfl) ?_
   refine ⟨_, rfl, ?_⟩; intro lk iO; clear e7 bg
   have iP : Mem w.heap.size [] w Z [.row U (e23Mi g) 23, .row x [.slice m (readS u0 u2).1.length h] 54, .own tyReading 30 m h (readS u0 u2).1, .row u [i6 0, .bool false, .bool false, .bool false, i6 0, .slice none 0 0] 53, .row D (e53Mi u2 ao7 cap8) 53, .row n (e51Mi u1 ao4 cap5) 51, .row C (e51Mi u0 ao1 cap2) 51, .own t8 5 (sm l) u1.Size.toNat E, .row j [i6 u1.ID, .bool u1.Long, .bool false, .bool false, i6 0, .slice (sm l) E.length u1.Size.toNat] 53] aU fi := aV; clear aV
   refine nlH (e2 _ _ ?_); clear e2 h4
   refine rd ?_
   exact dF E aU ⟨iN, b1⟩ _ _ ((iO.reg).anyβ _ (by kernel_rfl)) (iP.keep (List.Sublist.cons _ (List.Sublist.cons_cons _ (List.Sublist.cons_cons _ (List.Sublist.cons_cons _ (List.Sublist.cons_cons _ (List.Sublist.cons_cons _ (List.Sublist.cons_cons _ (List.Sublist.cons_cons _ (List.Sublist.cons_cons _ (List.Sublist.slnil)))))))))))
  have iQ := bE.2 cH; clear bE
  refine wp_skip ?_
  refine rd ?_
  exact dF (List.replicate u1.Size.toNat (0 : Int)) V ⟨iQ, e1⟩ _ _ ((bl.reg).anyβ _ (by kernel_rfl)) (hMx.keep (List.Sublist.cons_cons _ (List.Sublist.cons_cons _ (List.Sublist.cons_cons _ (List.Sublist.cons_cons _ (List.Sublist.cons_cons _ (List.Sublist.cons_cons _ (List.Sublist.cons_cons _ (List.Sublist.cons_cons _ (List.Sublist.slnil))))))))))

end Go.Proofs.Ytdndfbamhnchfaa
set_option linter.unusedVariables false
set_option linter.unusedSimpArgs false
set_option maxRecDepth 100000
set_option maxHeartbeats 0
namespace Go.Proofs.Ytdndfbamhnchfaa
open Go.Sy Go.RowKit
abbrev e53Mj (X : Frame) (A0 : Option Addr) (C0 : Nat) : List Value := [i6 X.ID, .bool X.Long, .bool X.Fast, .bool X.Remote, i6 X.Size, .slice A0 X.Data.length C0]
abbrev e51Mj (X : Message) (A0 : Option Addr) (C0 : Nat) : List Value := [i6 X.ID, .bool X.Long, str X.Name, i6 X.Size, i6 X.Chooser, .slice A0 X.Signals.length C0]
theorem rsame_fun (u0 : Frame) (u1 : Frame) (ao1 : Option Addr) (cap2 : Nat) (ao4 : Option Addr) (cap5 : Nat) (Z : Fz) (w : World) (hs3 : SlR t8 Z ao1 cap2 u0.Data) (hs6 : SlR t8 Z ao4 cap5 u1.Data) (hZ : Z.on w) : Calls Try.prog 21 #[.agg #[i6 u0.ID, .bool u0.Long, .bool u0.Fast, .bool u0.Remote, i6 u0.Size, .slice ao1 u0.Data.length cap2], .agg #[i6 u1.ID, .bool u1.Long, .bool u1.Fast, .bool u1.Remote, i6 u1.Size, .slice ao4 u1.Data.length cap5]] w fun e w' => e = .returned (.bool (rsameS u0 u1)) ∧ Below w.heap.size w w' :=
  (rsame_walk u0 u1 ao1 cap2 ao4 cap5 Z w hs3 hs6 hZ (rsame_ok u0 u1)).mono fun _ _ ⟨r, he, hk, hb⟩ => ⟨by subst hk; exact he, hb⟩

theorem mrepack_fun (u0 : Message) (u1 : Message) (u2 : Frame) (hpre : isBytes u2.Data) (ao1 : Option Addr) (cap2 : Nat) (ao4 : Option Addr) (cap5 : Nat) (ao7 : Option Addr) (cap8 : Nat) (Z : Fz) (w : World) (hs3 : SlR tySignal Z ao1 cap2 u0.Signals) (hs6 : SlR tySignal Z ao4 cap5 u1.Signals) (hs9 : SlR t8 Z ao7 cap8 u2.Data) (hZ : Z.on w) : Calls Try.prog 20 #[.agg #[i6 u0.ID, .bool u0.Long, str u0.Name, i6 u0.Size, i6 u0.Chooser, .slice ao1 u0.Signals.length cap2], .agg #[i6 u1.ID, .bool u1.Long, str u1.Name, i6 u1.Size, i6 u1.Chooser, .slice ao4 u1.Signals.length cap5], .agg #[i6 u2.ID, .bool u2.Long, .bool u2.Fast, .bool u2.Remote, i6 u2.Size, .slice ao7 u2.Data.length cap8]] w fun e w' => ∃ (ao1001 : Option Addr) (cap1002 : Nat) (Z' : Fz), e = .returned (.tuple #[.agg #[i6 (repackS u0 u1 u2).1.ID, .bool (repackS u0 u1 u2).1.Long, .bool (repackS u0 u1 u2).1.Fast, .bool (repackS u0 u1 u2).1.Remote, i6 (repackS u0 u1 u2).1.Size, .slice ao1001 (repackS u0 u1 u2).1.Data.length cap1002], i6 (repackS u0 u1 u2).2]) ∧ SlR t8 Z' ao1001 cap1002 (repackS u0 u1 u2).1.Data ∧ Mem w.heap.size [] w Z [] Z' w' :=
  (mrepack_walk u0 u1 u2 ao1 cap2 ao4 cap5 ao7 cap8 Z w hs3 hs6 hs9 hZ (mrepack_ok u0 u1 u2 hpre)).mono fun _ _ ⟨r, h0, h1, h2, he, hk, f0, hm⟩ => by subst hk; exact ⟨h0, h1, h2, he, f0, hm⟩

theorem LBack_walk (u0 : Message) (u1 : Frame) (ao1 : Option Addr) (cap2 : Nat) (ao4 : Option Addr) (cap5 : Nat) (Z : Fz) (w : World) (hs3 : SlR tySignal Z ao1 cap2 u0.Signals) (hs6 : SlR t8 Z ao4 cap5 u1.Data) (hZ : Z.on w) {K : Bool → Prop} (hp : LBack_vc u0 u1 K) : Calls Try.prog 5 #[.agg #[i6 u0.ID, .bool u0.Long, str u0.Name, i6 u0.Size, i6 u0.Chooser, .slice ao1 u0.Signals.length cap2], .agg #[i6 u1.ID, .bool u1.Long, .bool u1.Fast, .bool u1.Remote, i6 u1.Size, .slice ao4 u1.Data.length cap5]] w fun e w' => ∃ r : Bool, e = .returned (.bool r) ∧ K r ∧ Below w.heap.size w w' := by
 refine enter0 Try.func5 rfl rfl (by kernel_rfl) ?_; intro a0 av; have aw := Mem.start w Z hZ; have l := Fz.le.refl Z
 have ax := hp (hs3.small); clear hp
 have bS := ax (hs6.small); clear ax
 refine sqH ?_; intro bT ay
 refine nw av aw pb (e51Mj u0 ao1 cap2) 51 ?_; intro f cO cP az aA; clear av aw
 refine nw az aA pb (e53Mj u1 ao4 cap5) 53 ?_; intro h cQ cR aB Q; clear az aA
 refine s1 aB 4 (.bool false) ?_; intro cS aC; clear aB
 refine nlH (ay _ _ ?_); clear ay bT
 refine sqH ?_; intro bU aD
 refine bt aC Q 2 [1, 0] [] [(13, .agg (e51Mj u0 ao1 cap2).toArray), (14, .agg (e53Mj u1 ao4 cap5).toArray)] ?_; intro cT aE; clear aC
 obtain ⟨bV, aF⟩ := bS
 refine ck aE 16 #[.agg (e51Mj u0 ao1 cap2).toArray, .agg (e53Mj u1 ao4 cap5).toArray] ?_
 refine (mread_fun u0 u1 bV ao1 cap2 ao4 cap5 _ _ hs3 hs6 Q.fz).mono ?_; rintro _ bW ⟨a, c, bX, rfl, hm⟩; refine ⟨_, rfl, ?_⟩; intro cU aG; have aH := Q.callZ hm; have aa := hm.ext.le; clear hm Q aE
 replace hs3 := hs3.mono aa
 replace hs6 := hs6.mono aa
 replace l := Fz.le.trans l aa
 have D : Mem w.heap.size [] w Z [.own tyReading 30 a c (readS u0 u1).1, .row h (e53Mj u1 ao4 cap5) 53, .row f (e51Mj u0 ao1 cap2) 51] bX bW := aH; clear aH
 have R := aF (D.ownSmall 0 rfl); clear aF
 refine bt aG D 5 [] [] [(5, .slice a (readS u0 u1).1.length c), (6, i6 (readS u0 u1).2)] ?_; intro cV aI; clear aG
 refine nlH (aD _ _ ?_); clear aD bU
 refine wp_seq ?_
 refine sqH ?_; intro bY aJ
 refine fc aI D (meant_fun  _ _ D.fz) ?_; intro cW bZ aK A; clear aI D
 refine bt aK A 5 [] [21, 22, 23] [(23, .bool ((readS u0 u1).2 != 0))] ?_; intro cX E; clear aK
 refine nlH (aJ _ _ ?_); clear aJ bY
 refine cd E (t := (readS u0 u1).2 != 0) (by kernel_rfl) (fun ab => ?_) (fun ab => ?_)
 · -- yes
  have b0 := R.1 ab; clear R
  refine sqH ?_; intro b1 aL
  refine fc E A (meant_fun  _ _ A.fz) ?_; intro cY cZ aM b2; clear E A
  refine s1 aM 4 (.bool true) ?_; intro c0 b3; clear aM
  refine nlH (aL _ _ ?_); clear aL b1
  refine wp_ret ?_
  refine thr ?_
  refine ra1 b3 (.bool true) ?_
  exact ⟨true, rfl, b0, b2.below⟩
 · -- no
  have b4 := R.2 ab; clear R
  refine wp_skip ?_
  refine thn ?_
  refine wp_seq ?_
  refine sqB E A [] [] [(25, .slice a (readS u0 u1).1.length c), (26, i6 ((readS u0 u1).1.length : Int)), (27, i6 0)] ?_; intro aN aO; clear E
  refine wp_block ?_
  have aP : Fr 76 [] [⟨2, [], pt f 0⟩, ⟨3, [], pt h 0⟩, ⟨5, [], .slice a (readS u0 u1).1.length c⟩, ⟨25, [], .slice a (readS u0 u1).1.length c⟩, ⟨26, [], i6 ((readS u0 u1).1.length : Int)⟩, ⟨27, [], i6 0⟩] aN := aO.region (by kernel_rfl) (by kernel_rfl); clear aO
  obtain ⟨S, ac, aQ, n⟩ := A.freeze 0 rfl
  replace hs3 := hs3.mono ac
  replace hs6 := hs6.mono ac
  replace l := Fz.le.trans l ac
  have aR : Mem w.heap.size [] w Z [.row h (e53Mj u1 ao4 cap5) 53, .row f (e51Mj u0 ao1 cap2) 51] S bZ := aQ; clear aQ
  have aS : Fr 76 [] [⟨2, [], pt f 0⟩, ⟨3, [], pt h 0⟩, ⟨5, [], .slice a (readS u0 u1).1.length c⟩, ⟨25, [], .slice a (readS u0 u1).1.length c⟩, ⟨26, [], i6 ((readS u0 u1).1.length : Int)⟩, ⟨27, [], i6 0⟩] aN := aP.region (by kernel_rfl) (by kernel_rfl); clear aP
  obtain ⟨b5, b6, b7, b8⟩ := b4
  refine lp (ι := Int) (fun s => [⟨2, [], pt f 0⟩, ⟨3, [], pt h 0⟩, ⟨5, [], .slice a (readS u0 u1).1.length c⟩, ⟨25, [], .slice a (readS u0 u1).1.length c⟩, ⟨26, [], i6 ((readS u0 u1).1.length : Int)⟩, ⟨27, [], i6 s⟩]) (fun s => [.row h (e53Mj u1 ao4 cap5) 53, .row f (e51Mj u0 ao1 cap2) 51]) (fun s => S) (fun s => b5 s) (fun s => b6 s) 0 b7 (by exact aS.region (by kernel_rfl) (by kernel_rfl)) (by exact aR) ?_
  rintro x b9 ca cb aT aU
  have aV : Fr 76 [] [⟨2, [], pt f 0⟩, ⟨3, [], pt h 0⟩, ⟨5, [], .slice a (readS u0 u1).1.length c⟩, ⟨25, [], .slice a (readS u0 u1).1.length c⟩, ⟨26, [], i6 ((readS u0 u1).1.length : Int)⟩, ⟨27, [], i6 x⟩] ca := aT; clear aT aS
  have p : Mem w.heap.size [] w Z [.row h (e53Mj u1 ao4 cap5) 53, .row f (e51Mj u0 ao1 cap2) 51] S cb := aU; clear aU aR
  have U := b8 x b9
  refine sqB aV p [] [] [(28, .bool (decide (x < ((readS u0 u1).1.length : Int))))] ?_; intro c1 F; clear aV
  refine wp_seq ?_
  refine cd F (t := decide (x < ((readS u0 u1).1.length : Int))) (by kernel_rfl) (fun ad => ?_) (fun ad => ?_)
  · -- yes
   have cc := U.1 ad; clear U
   refine wp_skip ?_
   refine thn ?_
   refine wp_seq ?_
   refine wp_block ?_
   refine sqH ?_; intro ce aW
   obtain ⟨cf, aX⟩ := cc
   refine ix F (T := tyReading) (xs := (readS u0 u1).1) n x cf (k := .i64) (e := 30) (bytes := 32) (nog rfl _) rfl (by kernel_rfl) rfl (by kernel_rfl) (by kernel_rfl) (by kernel_rfl) ?_; intro c2 c3 cg d c4 ch ci cl aY; clear F
   have V := aX d ch; clear aX
   obtain rfl : cg = ([str d.Name, i6 d.Num, i6 d.Den] : List Value) := cl
   refine z2 aY p 30 ci 0 3 [str d.Name, i6 d.Num, i6 d.Den] rfl ?_; intro c5 aZ; clear aY
   refine nw aZ p pb [str [], i6 0, i6 0] 30 ?_; intro cm c6 c7 ae a1; clear aZ p
   refine sx ae a1 0 [str d.Name, i6 d.Num, i6 d.Den] 0 ?_; intro cn a2; clear a1
   have G : Mem w.heap.size [] w Z [.row cm [str d.Name, i6 d.Num, i6 d.Den] 30, .row h (e53Mj u1 ao4 cap5) 53, .row f (e51Mj u0 ao1 cap2) 51] S cn := a2; clear a2
   refine nlH (aW _ _ ?_); clear aW ce
   refine sqB ae G [0, 0] [] [(38, .bool ((decide (d.Num > 1099511627776)) || (decide (d.Num < (-1099511627776)))))] ?_; intro c8 H; clear ae
   refine cd H (t := (decide (d.Num > 1099511627776)) || (decide (d.Num < (-1099511627776)))) (by kernel_rfl) (fun af => ?_) (fun af => ?_)
   · -- yes
    have co := V.1 af; clear V
    refine sqB H G [] [] [(4, .bool true)] ?_; intro c9 cp; clear H
    refine wp_ret ?_
    refine ibr ?_
    refine thr ?_
    refine thr ?_
    refine ibr ?_
    refine thr ?_
    refine ra1 cp (.bool true) ?_
    exact ⟨true, rfl, co, G.below⟩
   · -- no
    have a3 := V.2 af; clear V
    refine wp_skip ?_
    refine ibn ?_
    refine thn ?_
    refine rgB H G [] [] [(27, i6 (w64 (x + 1)))] ?_; intro da cq; clear H
    refine rd ?_
    exact ⟨w64 (x + 1), a3.1, a3.2, (cq.region (by kernel_rfl) (by kernel_rfl)).anyβ _ (by kernel_rfl), G.keep (List.Sublist.cons _ (List.Sublist.cons_cons _ (List.Sublist.cons_cons _ (List.Sublist.slnil))))⟩
  · -- no
   have a4 := U.2 ad; clear U
   refine wp_exit ?_
   refine thx ?_
   refine thx ?_
   refine ibx ?_
   refine thn ?_
   refine sqH ?_; intro cr a5
   refine bt F p 2 [1] [] [(41, .agg (e51Mj u0 ao1 cap2).toArray), (42, .slice a (readS u0 u1).1.length c)] ?_; intro db a6; clear F
   refine ck a6 18 #[.agg (e51Mj u0 ao1 cap2).toArray, .slice a (readS u0 u1).1.length c] ?_
   refine (mwrite_fun u0 (readS u0 u1).1 ao1 cap2 a c _ _ hs3 n p.fz).mono ?_; rintro _ ct ⟨i, j, a7, rfl, o, hm⟩; refine ⟨_, rfl, ?_⟩; intro dc a8; have a9 := p.callZ hm; have W := hm.ext.le; clear hm p a6
   replace hs3 := hs3.mono W
   replace hs6 := hs6.mono W
   replace n := n.mono W
   replace l := Fz.le.trans l W
   have ag : Mem w.heap.size [] w Z [.row h (e53Mj u1 ao4 cap5) 53, .row f (e51Mj u0 ao1 cap2) 51] a7 ct := a9; clear a9
   have X := a4 (o.small); clear a4
   refine bt a8 ag 3 [] [] [(44, .agg (e53Mj ((writeS u0 (readS u0 u1).1).1) i j).toArray), (45, i6 (writeS u0 (readS u0 u1).1).2)] ?_; intro dd ba; clear a8
   refine nw ba ag pb [i6 0, .bool false, .bool false, .bool false, i6 0, .slice none 0 0] 53 ?_; intro y de df ah bb; clear ba ag
   refine sx ah bb 0 (e53Mj ((writeS u0 (readS u0 u1).1).1) i j) 0 ?_; intro cu bc; clear bb
   refine s1 ah 6 (i6 (writeS u0 (readS u0 u1).1).2) ?_; intro dg bd; clear ah
   have z : Mem w.heap.size [] w Z [.row y (e53Mj ((writeS u0 (readS u0 u1).1).1) i j) 53, .row h (e53Mj u1 ao4 cap5) 53, .row f (e51Mj u0 ao1 cap2) 51] a7 cu := bc; clear bc
   refine nlH (a5 _ _ ?_); clear a5 cr
   refine wp_seq ?_
   refine sqB bd z [] [] [(47, .bool ((writeS u0 (readS u0 u1).1).2 != 0))] ?_; intro dh I; clear bd
   refine cd I (t := (writeS u0 (readS u0 u1).1).2 != 0) (by kernel_rfl) (fun ai => ?_) (fun ai => ?_)
   · -- yes
    have cv := X.1 ai; clear X
    refine sqB I z [] [] [(4, .bool false)] ?_; intro di cw; clear I
    refine wp_ret ?_
    refine thr ?_
    refine ra1 cw (.bool false) ?_
    exact ⟨false, rfl, cv, z.below⟩
   · -- no
    have cx := X.2 ai; clear X
    refine wp_skip ?_
    refine thn ?_
    refine sqH ?_; intro cy be
    refine bt I z 2 [2, 0] [] [(49, .agg (e51Mj u0 ao1 cap2).toArray), (50, .agg (e53Mj ((writeS u0 (readS u0 u1).1).1) i j).toArray)] ?_; intro dj bf; clear I
    obtain ⟨cz, bg⟩ := cx
    refine ck bf 16 #[.agg (e51Mj u0 ao1 cap2).toArray, .agg (e53Mj ((writeS u0 (readS u0 u1).1).1) i j).toArray] ?_
    refine (mread_fun u0 (writeS u0 (readS u0 u1).1).1 cz ao1 cap2 i j _ _ hs3 o z.fz).mono ?_; rintro _ bh ⟨J, L, cA, rfl, hm⟩; refine ⟨_, rfl, ?_⟩; intro dk bi; have bk := z.callZ hm; have M := hm.ext.le; clear hm z bf
    replace hs3 := hs3.mono M
    replace hs6 := hs6.mono M
    replace n := n.mono M
    replace o := o.mono M
    replace l := Fz.le.trans l M
    have aj : Mem w.heap.size [] w Z [.own tyReading 30 J L (readS u0 (writeS u0 (readS u0 u1).1).1).1, .row y (e53Mj ((writeS u0 (readS u0 u1).1).1) i j) 53, .row h (e53Mj u1 ao4 cap5) 53, .row f (e51Mj u0 ao1 cap2) 51] cA bh := bk; clear bk
    have Y := bg (aj.ownSmall 0 rfl); clear bg
    refine bt bi aj 5 [] [] [(6, i6 (readS u0 (writeS u0 (readS u0 u1).1).1).2), (10, .slice J (readS u0 (writeS u0 (readS u0 u1).1).1).1.length L)] ?_; intro dl bl; clear bi
    refine nlH (be _ _ ?_); clear be cy
    refine wp_seq ?_
    refine sqH ?_; intro cB bm
    refine s1 bl 54 (i6 (readS u0 (writeS u0 (readS u0 u1).1).1).2) ?_; intro dm bn; clear bl
    refine s1 bn 55 (.bool ((readS u0 (writeS u0 (readS u0 u1).1).1).2 != 0)) ?_; intro dn bo; clear bn
    refine s1 bo 56 (.bool ((readS u0 (writeS u0 (readS u0 u1).1).1).2 != 0)) ?_; intro dp bp; clear bo
    have bq := bp.atom (((readS u0 (writeS u0 (readS u0 u1).1).1).2 != 0) == false) (by kernel_rfl); clear bp
    refine gp bq 57 0 [] ((readS u0 (writeS u0 (readS u0 u1).1).1).2 != 0) (.slice J (readS u0 (writeS u0 (readS u0 u1).1).1).1.length L) rfl rfl ?_; intro dq br; clear bq
    refine gp br 58 0 [] ((readS u0 (writeS u0 (readS u0 u1).1).1).2 != 0) (.slice a (readS u0 u1).1.length c) rfl rfl ?_; intro dr bs; clear br
    obtain ⟨cC, N, bu, ak⟩ := aj.freeze 0 rfl
    replace hs3 := hs3.mono N
    replace hs6 := hs6.mono N
    replace n := n.mono N
    replace o := o.mono N
    replace l := Fz.le.trans l N
    have al : Mem w.heap.size [] w Z [.row y (e53Mj ((writeS u0 (readS u0 u1).1).1) i j) 53, .row h (e53Mj u1 ao4 cap5) 53, .row f (e51Mj u0 ao1 cap2) 51] cC bh := bu; clear bu
    refine gcl bs al (.bool (reqS (readS u0 (writeS u0 (readS u0 u1).1).1).1 (readS u0 u1).1)) 19 #[.slice J (readS u0 (writeS u0 (readS u0 u1).1).1).1.length L, .slice a (readS u0 u1).1.length c] (m := 0) (cj := []) (bj := (readS u0 (writeS u0 (readS u0 u1).1).1).2 != 0) rfl rfl (by kernel_rfl) rfl (by kernel_rfl) (by kernel_rfl) (by kernel_rfl) (fun _ => by kernel_rfl) (fun hg => req_fun (readS u0 (writeS u0 (readS u0 u1).1).1).1 (readS u0 u1).1 J L a c _ _ ak n al.fz) ?_; intro ds dt bv B; clear bs al
    refine gp bv 60 0 [] ((readS u0 (writeS u0 (readS u0 u1).1).1).2 != 0) (.bool (!(reqS (readS u0 (writeS u0 (readS u0 u1).1).1).1 (readS u0 u1).1))) rfl rfl ?_; intro du am; clear bv
    refine st am (.bool (((readS u0 (writeS u0 (readS u0 u1).1).1).2 != 0) || (!(reqS (readS u0 (writeS u0 (readS u0 u1).1).1).1 (readS u0 u1).1)))) (nog rfl _) rfl (by kernel_rfl) (pk_or am (g := []) (m := 0) (b := (readS u0 (writeS u0 (readS u0 u1).1).1).2 != 0) (v := !(reqS (readS u0 (writeS u0 (readS u0 u1).1).1).1 (readS u0 u1).1)) rfl (by kernel_rfl) (by kernel_rfl) (by kernel_rfl) rfl) ?_; intro bw O; clear am
    refine nlH (bm _ _ ?_); clear bm cB
    refine cd O (t := ((readS u0 (writeS u0 (readS u0 u1).1).1).2 != 0) || (!(reqS (readS u0 (writeS u0 (readS u0 u1).1).1).1 (readS u0 u1).1))) (by kernel_rfl) (fun an => ?_) (fun an => ?_)
    · -- yes
     have cD := Y.1 an; clear Y
     have bx : Fr 76 [] [] bw := O.region (by kernel_rfl) (by kernel_rfl); clear O
     refine sqB bx B [] [] [(4, .bool false)] ?_; intro dv cE; clear bx
     refine wp_ret ?_
     refine thr ?_
     refine ra1 cE (.bool false) ?_
     exact ⟨false, rfl, cD, B.below⟩
    · -- no
     have cF := Y.2 an; clear Y
     refine wp_skip ?_
     refine thn ?_
     have bz : Fr 76 [] [⟨2, [], pt f 0⟩, ⟨3, [], pt h 0⟩, ⟨9, [], pt y 0⟩] bw := O.region (by kernel_rfl) (by kernel_rfl); clear O
     refine sqH ?_; intro cG bA
     refine bt bz B 3 [2, 2, 1] [] [(63, .agg (e51Mj u0 ao1 cap2).toArray), (64, .agg (e51Mj u0 ao1 cap2).toArray), (65, .agg (e53Mj u1 ao4 cap5).toArray)] ?_; intro dw bB; clear bz
     obtain ⟨cH, bC⟩ := cF
     refine ck bB 20 #[.agg (e51Mj u0 ao1 cap2).toArray, .agg (e51Mj u0 ao1 cap2).toArray, .agg (e53Mj u1 ao4 cap5).toArray] ?_
     refine (mrepack_fun u0 u0 u1 cH ao1 cap2 ao1 cap2 ao4 cap5 _ _ hs3 hs3 hs6 B.fz).mono ?_; rintro _ cI ⟨q, u, bD, rfl, bE, hm⟩; refine ⟨_, rfl, ?_⟩; intro dx bF; have bG := B.callZ hm; have C := hm.ext.le; clear hm B bB
     replace hs3 := hs3.mono C
     replace hs6 := hs6.mono C
     replace n := n.mono C
     replace o := o.mono C
     replace ak := ak.mono C
     replace l := Fz.le.trans l C
     have ao : Mem w.heap.size [] w Z [.row y (e53Mj ((writeS u0 (readS u0 u1).1).1) i j) 53, .row h (e53Mj u1 ao4 cap5) 53, .row f (e51Mj u0 ao1 cap2) 51] bD cI := bG; clear bG
     have cJ := bC (bE.small); clear bC
     refine bt bF ao 3 [] [] [(67, .agg (e53Mj ((repackS u0 u0 u1).1) q u).toArray), (68, i6 (repackS u0 u0 u1).2)] ?_; intro dy bH; clear bF
     refine nw bH ao pb [i6 0, .bool false, .bool false, .bool false, i6 0, .slice none 0 0] 53 ?_; intro bI dz dA ap bJ; clear bH ao
     refine sx ap bJ 0 (e53Mj ((repackS u0 u0 u1).1) q u) 0 ?_; intro cK bK; clear bJ
     refine s1 ap 6 (i6 (repackS u0 u0 u1).2) ?_; intro dB bL; clear ap
     have P : Mem w.heap.size [] w Z [.row bI (e53Mj ((repackS u0 u0 u1).1) q u) 53, .row y (e53Mj ((writeS u0 (readS u0 u1).1).1) i j) 53, .row h (e53Mj u1 ao4 cap5) 53, .row f (e51Mj u0 ao1 cap2) 51] bD cK := bK; clear bK
     refine nlH (bA _ _ ?_); clear bA cG
     refine sqH ?_; intro cL bM
     refine s1 bL 69 (i6 (repackS u0 u0 u1).2) ?_; intro dC bN; clear bL
     refine s1 bN 70 (.bool ((repackS u0 u0 u1).2 == 0)) ?_; intro dD bO; clear bN
     refine s1 bO 71 (.bool ((repackS u0 u0 u1).2 == 0)) ?_; intro dE bP; clear bO
     have aq := bP.atom (((repackS u0 u0 u1).2 == 0) == true) (by kernel_rfl); clear bP
     refine gd aq (.agg (e53Mj ((repackS u0 u0 u1).1) q u).toArray) (m := 0) (cj := []) (bj := (repackS u0 u0 u1).2 == 0) rfl rfl (by kernel_rfl) rfl (by kernel_rfl) (by kernel_rfl) (by kernel_rfl) (fun hg => lda aq P 0 (g := [0]) (b := bI) (off := 0) (k := 6) (cs := (e53Mj ((repackS u0 u0 u1).1) q u)) (vs := (e53Mj ((repackS u0 u0 u1).1) q u)) (ty := 53) rfl (by kernel_rfl) (by kernel_rfl) (by kernel_rfl) (by kernel_rfl) (by kernel_rfl) hg) ?_; intro dF ar; clear aq
     refine gd ar (.agg (e53Mj ((writeS u0 (readS u0 u1).1).1) i j).toArray) (m := 0) (cj := []) (bj := (repackS u0 u0 u1).2 == 0) rfl rfl (by kernel_rfl) rfl (by kernel_rfl) (by kernel_rfl) (by kernel_rfl) (fun hg => lda ar P 1 (g := [0]) (b := y) (off := 0) (k := 6) (cs := (e53Mj ((writeS u0 (readS u0 u1).1).1) i j)) (vs := (e53Mj ((writeS u0 (readS u0 u1).1).1) i j)) (ty := 53) rfl (by kernel_rfl) (by kernel_rfl) (by kernel_rfl) (by kernel_rfl) (by kernel_rfl) hg) ?_; intro dG bQ; clear ar
     refine gcl bQ P (.bool (rsameS (repackS u0 u0 u1).1 (writeS u0 (readS u0 u1).1).1)) 21 #[.agg (e53Mj ((repackS u0 u0 u1).1) q u).toArray, .agg (e53Mj ((writeS u0 (readS u0 u1).1).1) i j).toArray] (m := 0) (cj := []) (bj := (repackS u0 u0 u1).2 == 0) rfl rfl (by kernel_rfl) rfl (by kernel_rfl) (by kernel_rfl) (by kernel_rfl) (fun _ => by kernel_rfl) (fun hg => rsame_fun (repackS u0 u0 u1).1 (writeS u0 (readS u0 u1).1).1 q u i j _ _ bE o P.fz) ?_; intro dH dI au cM; clear bQ P
     refine st au (.bool (((repackS u0 u0 u1).2 == 0) && (rsameS (repackS u0 u0 u1).1 (writeS u0 (readS u0 u1).1).1))) (nog rfl _) rfl (by kernel_rfl) (pk_and au (g := []) (m := 0) (b := (repackS u0 u0 u1).2 == 0) (v := (rsameS (repackS u0 u0 u1).1 (writeS u0 (readS u0 u1).1).1)) rfl (by kernel_rfl) (by kernel_rfl) (by kernel_rfl) rfl) ?_; intro dJ bR; clear au
     refine s1 bR 4 (.bool (((repackS u0 u0 u1).2 == 0) && (rsameS (repackS u0 u0 u1).1 (writeS u0 (readS u0 u1).1).1))) ?_; intro dK cN; clear bR
     refine nlH (bM _ _ ?_); clear bM cL
     refine wp_ret ?_
     refine ra1 cN (.bool (((repackS u0 u0 u1).2 == 0) && (rsameS (repackS u0 u0 u1).1 (writeS u0 (readS u0 u1).1).1))) ?_
     exact ⟨((repackS u0 u0 u1).2 == 0) && (rsameS (repackS u0 u0 u1).1 (writeS u0 (readS u0 u1).1).1), rfl, cJ, cM.below⟩

end Go.Proofs.Ytdndfbamhnchfaa
