/- Texts put together (pure ones, or walks made by program). -/
import Derived.Test.YtmbdcehmeiiaoaaGreatDoorCore
import Derived.Test.YtmbdcehmeiiaoaaGreatDoorK1
import Derived.Test.YtmbdcehmeiiaoaaGreatDoorK2
import Derived.Test.YtmbdcehmeiiaoaaGreatDoorK3
import Derived.Test.YtmbdcehmeiiaoaaGreatDoorK4
import Derived.Test.YtmbdcehmeiiaoaaGreatDoorK5
set_option linter.unusedVariables false
set_option linter.unusedSimpArgs false
set_option maxRecDepth 100000
set_option maxHeartbeats 0
namespace Go.Proofs.YtmbdcehmeiiaoaaGreatDoor
open Go.Sy Go.RowKit
theorem rfastend_fun (u0 : List UInt8) (u1 : List UInt8) (u2 : Int) (hpre : rfpre u0 u1 u2)  (Z : Fz) (w : World) (hg5 : SlR t8 Z (sm 5) 64 deBruijn64) (hZ : Z.on w) : Calls Tryz.prog 51 #[str u0, str u1, i6 u2] w fun e w' => e = .returned (str (rfastendS u0 u1 u2)) ∧ Below w.heap.size w w' :=
  (rfastend_walk u0 u1 u2  Z w hg5 hZ (rfastend_ok u0 u1 u2 hpre)).mono fun _ _ ⟨r, he, hk, hb⟩ => ⟨by subst hk; exact he, hb⟩

theorem rbitsof_walk (u0 : Frame) (ao1 : Option Addr) (cap2 : Nat) (Z : Fz) (w : World) (hs3 : SlR t8 Z ao1 cap2 u0.Data) (hg5 : SlR t8 Z (sm 5) 64 deBruijn64) (hZ : Z.on w) {K : (List UInt8) → Prop} (hp : rbitsof_vc u0 K) : Calls Tryz.prog 21 #[.agg #[i6 u0.ID, .bool u0.Long, .bool u0.Fast, .bool u0.Remote, i6 u0.Size, .slice ao1 u0.Data.length cap2]] w fun e w' => ∃ r : (List UInt8), e = .returned (str r) ∧ K r ∧ Below w.heap.size w w' := by
 refine enter0 Tryz.func21 rfl rfl (by kernel_rfl) ?_; intro a0 i; have j := Mem.start w Z hZ; have ao := Fz.le.refl Z
 have J := hp (hs3.small); clear hp
 refine sqH ?_; intro L k
 refine nw i j pb [i6 u0.ID, .bool u0.Long, .bool u0.Fast, .bool u0.Remote, i6 u0.Size, .slice ao1 u0.Data.length cap2] 24 ?_; intro b6 a7 ap l c; clear i j
 refine s1 l 2 (str []) ?_; intro aq m; clear l
 refine nlH (k _ _ ?_); clear k L
 refine sqH ?_; intro M n
 refine l2 m c 5 0 0 6 [i6 u0.ID, .bool u0.Long, .bool u0.Fast, .bool u0.Remote, i6 u0.Size, .slice ao1 u0.Data.length cap2] rfl rfl ?_; intro ar o; clear m
 obtain ⟨N, d⟩ := J
 refine fc o c (rhead_fun u0 N ao1 cap2 _ _ hs3 hg5 c.fz) ?_; intro au av p a; clear o c
 refine s1 p 3 (str (fheadS u0)) ?_; intro aw q; clear p
 refine nlH (n _ _ ?_); clear n M
 refine wp_seq ?_
 refine sqB q a [0] [] [(9, .bool (!u0.Fast))] ?_; intro ax b; clear q
 refine cd b (t := !u0.Fast) (by kernel_rfl) (fun g => ?_) (fun g => ?_)
 · -- yes
  have O := d.1 g; clear d
  refine sqH ?_; intro P s
  refine bt b a 2 [] [] [(10, str (fheadS u0)), (11, str (fheadS u0))] ?_; intro ay u; clear b
  obtain ⟨Q, R⟩ := O
  refine fc u a (rsumof_fun 0 (fheadS u0) Q _ _ hg5 a.fz) ?_; intro az aA v h; clear u a
  obtain ⟨S, T⟩ := R
  refine sa v S ?_; intro aB x; clear v
  obtain ⟨U, V⟩ := T
  refine fc x h (putbits_fun ((fheadS u0) ++ (sumR 0 (fheadS u0))) U _ _ h.fz) ?_; intro aC aD y W; clear x h
  obtain ⟨X, Y⟩ := V
  refine sa y X ?_; intro aE z; clear y
  refine s1 z 2 (str ((putbitsS ((fheadS u0) ++ (sumR 0 (fheadS u0)))) ++ ([49, 49, 49, 49, 49, 49, 49, 49, 49, 49] : List UInt8))) ?_; intro aF aa; clear z
  refine nlH (s _ _ ?_); clear s P
  refine wp_ret ?_
  refine thr ?_
  refine ra1 aa (str ((putbitsS ((fheadS u0) ++ (sumR 0 (fheadS u0)))) ++ ([49, 49, 49, 49, 49, 49, 49, 49, 49, 49] : List UInt8))) ?_
  exact ⟨(putbitsS ((fheadS u0) ++ (sumR 0 (fheadS u0)))) ++ ([49, 49, 49, 49, 49, 49, 49, 49, 49, 49] : List UInt8), rfl, Y, W.below⟩
 · -- no
  have ab := d.2 g; clear d
  refine wp_skip ?_
  refine thn ?_
  refine sqH ?_; intro ac A
  refine s1 b 16 (str (fheadS u0)) ?_; intro aG B; clear b
  obtain ⟨ad, ae⟩ := ab
  refine fc B a (putbits_fun (fheadS u0) ad _ _ a.fz) ?_; intro aH aI C f; clear B a
  refine s1 C 4 (str (putbitsS (fheadS u0))) ?_; intro aJ D; clear C
  refine nlH (A _ _ ?_); clear A ac
  refine sqH ?_; intro af E
  refine bt D f 6 [0] [] [(18, str (putbitsS (fheadS u0))), (19, str (fheadS u0)), (20, str (putbitsS (fheadS u0))), (23, i6 (u0.Data.length : Int))] ?_; intro aK F; clear D
  obtain ⟨ag, ah⟩ := ae
  refine fc F f (rfastend_fun (fheadS u0) (putbitsS (fheadS u0)) (u0.Data.length : Int) ag _ _ hg5 f.fz) ?_; intro aL aM G ai; clear F f
  obtain ⟨aj, ak⟩ := ah
  refine sa G aj ?_; intro aN H; clear G
  obtain ⟨al, am⟩ := ak
  refine sa H al ?_; intro aO I; clear H
  refine s1 I 2 (str (((putbitsS (fheadS u0)) ++ (rfastendS (fheadS u0) (putbitsS (fheadS u0)) (u0.Data.length : Int))) ++ ([49, 49, 49, 49, 49, 49, 49, 49, 49, 49] : List UInt8))) ?_; intro aP an; clear I
  refine nlH (E _ _ ?_); clear E af
  refine wp_ret ?_
  refine ra1 an (str (((putbitsS (fheadS u0)) ++ (rfastendS (fheadS u0) (putbitsS (fheadS u0)) (u0.Data.length : Int))) ++ ([49, 49, 49, 49, 49, 49, 49, 49, 49, 49] : List UInt8))) ?_
  exact ⟨((putbitsS (fheadS u0)) ++ (rfastendS (fheadS u0) (putbitsS (fheadS u0)) (u0.Data.length : Int))) ++ ([49, 49, 49, 49, 49, 49, 49, 49, 49, 49] : List UInt8), rfl, am, ai.below⟩

theorem rown_walk (u0 : Frame) (ao1 : Option Addr) (cap2 : Nat) (Z : Fz) (w : World) (hs3 : SlR t8 Z ao1 cap2 u0.Data) (hZ : Z.on w) {K : Frame → Prop} (hp : rown_vc u0 K) : Calls Tryz.prog 14 #[.agg #[i6 u0.ID, .bool u0.Long, .bool u0.Fast, .bool u0.Remote, i6 u0.Size, .slice ao1 u0.Data.length cap2]] w fun e w' => ∃ (r : Frame) (ao1001 : Option Addr) (cap1002 : Nat) (Z' : Fz), e = .returned (.agg #[i6 r.ID, .bool r.Long, .bool r.Fast, .bool r.Remote, i6 r.Size, .slice ao1001 r.Data.length cap1002]) ∧ K r ∧ SlR t8 Z' ao1001 cap1002 r.Data ∧ Mem w.heap.size [] w Z [] Z' w' := by
 refine enter0 Tryz.func14 rfl rfl (by kernel_rfl) ?_; intro X m; have n := Mem.start w Z hZ; have o := Fz.le.refl Z
 have L := hp (hs3.small); clear hp
 refine sqH ?_; intro M p
 refine nw m n pb [i6 u0.ID, .bool u0.Long, .bool u0.Fast, .bool u0.Remote, i6 u0.Size, .slice ao1 u0.Data.length cap2] 24 ?_; intro f Y aa q s; clear m n
 refine nw q s pb [i6 0, .bool false, .bool false, .bool false, i6 0, .slice none 0 0] 24 ?_; intro d ab N u g; clear q s
 refine nlH (p _ _ ?_); clear p M
 refine sqH ?_; intro O x
 refine bt u g 2 [1] [] [(4, .slice ao1 u0.Data.length cap2)] ?_; intro ac y; clear u
 have h : Mem w.heap.size [] w Z [.own t8 5 none 0 ([] : List Int), .row d [i6 0, .bool false, .bool false, .bool false, i6 0, .slice none 0 0] 24, .row f [i6 u0.ID, .bool u0.Long, .bool u0.Fast, .bool u0.Remote, i6 u0.Size, .slice ao1 u0.Data.length cap2] 24] Z N := g.addNil t8 5 (by decide); clear g
 obtain ⟨P, Q⟩ := L
 refine ap y h 0 (T := t8) (xs := ([] : List Int)) (ys := u0.Data) (ao := none) (cap := 0) (ao2 := ao1) (cap2 := cap2) (t := 22) (e := 5) (bytes := 1) (nog rfl _) rfl (by kernel_rfl) rfl (by kernel_rfl) (by kernel_rfl) (by kernel_rfl) rfl (Src.fz (by decide) h.fz hs3) P ?_; intro a c ae R af z A; clear y h
 have B : Mem w.heap.size [] w Z [.own t8 5 a c (([] : List Int) ++ u0.Data), .row d [i6 0, .bool false, .bool false, .bool false, i6 0, .slice none 0 0] 24, .row f [i6 u0.ID, .bool u0.Long, .bool u0.Fast, .bool u0.Remote, i6 u0.Size, .slice ao1 u0.Data.length cap2] 24] Z R := A; clear A
 refine s1 z 6 (pt f 5) ?_; intro ag i; clear z
 refine sx i B 2 [i6 u0.ID, .bool u0.Long, .bool u0.Fast, .bool u0.Remote, i6 u0.Size, .slice a (([] : List Int) ++ u0.Data).length c] 5 ?_; intro S C; clear B
 have j : Mem w.heap.size [] w Z [.own t8 5 a c (([] : List Int) ++ u0.Data), .row d [i6 0, .bool false, .bool false, .bool false, i6 0, .slice none 0 0] 24, .row f [i6 u0.ID, .bool u0.Long, .bool u0.Fast, .bool u0.Remote, i6 u0.Size, .slice a (([] : List Int) ++ u0.Data).length c] 24] Z S := C; clear C
 refine nlH (x _ _ ?_); clear x O
 refine sqH ?_; intro U D
 refine l2 i j 7 2 0 6 [i6 u0.ID, .bool u0.Long, .bool u0.Fast, .bool u0.Remote, i6 u0.Size, .slice a (([] : List Int) ++ u0.Data).length c] rfl rfl ?_; intro ah l; clear i
 refine sx l j 1 [i6 u0.ID, .bool u0.Long, .bool u0.Fast, .bool u0.Remote, i6 u0.Size, .slice a (([] : List Int) ++ u0.Data).length c] 0 ?_; intro E F; clear j
 have V : Mem w.heap.size [] w Z [.own t8 5 a c (([] : List Int) ++ u0.Data), .row d [i6 u0.ID, .bool u0.Long, .bool u0.Fast, .bool u0.Remote, i6 u0.Size, .slice a (([] : List Int) ++ u0.Data).length c] 24, .row f [i6 u0.ID, .bool u0.Long, .bool u0.Fast, .bool u0.Remote, i6 u0.Size, .slice a (([] : List Int) ++ u0.Data).length c] 24] Z E := F; clear F
 refine nlH (D _ _ ?_); clear D U
 refine wp_ret ?_
 obtain ⟨G, H, I, W⟩ := V.freeze 0 rfl
 replace hs3 := hs3.mono H
 replace o := Fz.le.trans o H
 have J : Mem w.heap.size [] w Z [.row d [i6 u0.ID, .bool u0.Long, .bool u0.Fast, .bool u0.Remote, i6 u0.Size, .slice a (([] : List Int) ++ u0.Data).length c] 24, .row f [i6 u0.ID, .bool u0.Long, .bool u0.Fast, .bool u0.Remote, i6 u0.Size, .slice a (([] : List Int) ++ u0.Data).length c] 24] G E := I; clear I
 refine rt (fn := Tryz.f14) (v := .agg #[i6 u0.ID, .bool u0.Long, .bool u0.Fast, .bool u0.Remote, i6 u0.Size, .slice a (([] : List Int) ++ u0.Data).length c]) l (re1c l (fn := Tryz.f14) rfl (ad := ⟨d, 0, none⟩) (by kernel_rfl) (loadVar_run J 0 (b := d) (k := 6) (vs := [i6 u0.ID, .bool u0.Long, .bool u0.Fast, .bool u0.Remote, i6 u0.Size, .slice a (([] : List Int) ++ u0.Data).length c]) (ty := 24) rfl (by kernel_rfl) (by kernel_rfl)) ) ?_
 exact ⟨(⟨u0.ID, u0.Long, u0.Fast, u0.Remote, u0.Size, ([] : List Int) ++ u0.Data⟩ : Frame), a, c, G, rfl, Q, W, J.keep (List.Sublist.cons _ (List.Sublist.cons _ (List.Sublist.slnil)))⟩

theorem nofr_walk (u0 : Frame) (ao1 : Option Addr) (cap2 : Nat) (Z : Fz) (w : World) (hs3 : SlR t8 Z ao1 cap2 u0.Data) (hZ : Z.on w) {K : Bool → Prop} (hp : nofr_vc u0 K) : Calls Tryz.prog 11 #[.agg #[i6 u0.ID, .bool u0.Long, .bool u0.Fast, .bool u0.Remote, i6 u0.Size, .slice ao1 u0.Data.length cap2]] w fun e w' => ∃ r : Bool, e = .returned (.bool r) ∧ K r ∧ Below w.heap.size w w' := by
 refine enter0 Tryz.func11 rfl rfl (by kernel_rfl) ?_; intro p b; have c := Mem.start w Z hZ; have q := Fz.le.refl Z
 have k := hp (hs3.small); clear hp
 refine sqH ?_; intro l d
 refine nw b c pb [i6 u0.ID, .bool u0.Long, .bool u0.Fast, .bool u0.Remote, i6 u0.Size, .slice ao1 u0.Data.length cap2] 24 ?_; intro s t u f a; clear b c
 refine s1 f 2 (.bool false) ?_; intro v g; clear f
 refine nlH (d _ _ ?_); clear d l
 refine sqH ?_; intro m h
 refine bt g a 2 [0] [] [(3, .agg #[i6 u0.ID, .bool u0.Long, .bool u0.Fast, .bool u0.Remote, i6 u0.Size, .slice ao1 u0.Data.length cap2]), (4, .agg #[i6 0, .bool false, .bool false, .bool false, i6 0, .slice none 0 0])] ?_; intro x i; clear g
 refine fc i a (rSame_fun u0 (⟨0, false, false, false, 0, []⟩ : Frame) ao1 cap2 none 0 _ _ hs3 (SlR.nil _ _) a.fz) ?_; intro y z j n; clear i a
 refine s1 j 2 (.bool (sameS u0 (⟨0, false, false, false, 0, []⟩ : Frame))) ?_; intro A o; clear j
 refine nlH (h _ _ ?_); clear h m
 refine wp_ret ?_
 refine ra1 o (.bool (sameS u0 (⟨0, false, false, false, 0, []⟩ : Frame))) ?_
 exact ⟨(sameS u0 (⟨0, false, false, false, 0, []⟩ : Frame)), rfl, k, n.below⟩

end Go.Proofs.YtmbdcehmeiiaoaaGreatDoor
set_option linter.unusedVariables false
set_option linter.unusedSimpArgs false
namespace Go.Proofs.YtmbdcehmeiiaoaaGreatDoor
open Go.Sy Go.RowKit
theorem rbitsof_fun (u0 : Frame) (hpre : fcheckfr u0 = 0 ∧ ∀ x ∈ u0.Data, 0 ≤ x ∧ x ≤ 255) (ao1 : Option Addr) (cap2 : Nat) (Z : Fz) (w : World) (hs3 : SlR t8 Z ao1 cap2 u0.Data) (hg5 : SlR t8 Z (sm 5) 64 deBruijn64) (hZ : Z.on w) : Calls Tryz.prog 21 #[.agg #[i6 u0.ID, .bool u0.Long, .bool u0.Fast, .bool u0.Remote, i6 u0.Size, .slice ao1 u0.Data.length cap2]] w fun e w' => e = .returned (str (rbitsofS u0)) ∧ Below w.heap.size w w' :=
  (rbitsof_walk u0 ao1 cap2 Z w hs3 hg5 hZ (rbitsof_ok u0 hpre)).mono fun _ _ ⟨r, he, hk, hb⟩ => ⟨by subst hk; exact he, hb⟩

theorem rown_fun (u0 : Frame) (hpre : u0.Data.length ≤ 140737488355328) (ao1 : Option Addr) (cap2 : Nat) (Z : Fz) (w : World) (hs3 : SlR t8 Z ao1 cap2 u0.Data) (hZ : Z.on w) : Calls Tryz.prog 14 #[.agg #[i6 u0.ID, .bool u0.Long, .bool u0.Fast, .bool u0.Remote, i6 u0.Size, .slice ao1 u0.Data.length cap2]] w fun e w' => ∃ (ao1001 : Option Addr) (cap1002 : Nat) (Z' : Fz), e = .returned (.agg #[i6 (rownS u0).ID, .bool (rownS u0).Long, .bool (rownS u0).Fast, .bool (rownS u0).Remote, i6 (rownS u0).Size, .slice ao1001 (rownS u0).Data.length cap1002]) ∧ SlR t8 Z' ao1001 cap1002 (rownS u0).Data ∧ Mem w.heap.size [] w Z [] Z' w' :=
  (rown_walk u0 ao1 cap2 Z w hs3 hZ (rown_ok u0 hpre)).mono fun _ _ ⟨r, h0, h1, h2, he, hk, f0, hm⟩ => by subst hk; exact ⟨h0, h1, h2, he, f0, hm⟩

theorem nofr_fun (u0 : Frame) (ao1 : Option Addr) (cap2 : Nat) (Z : Fz) (w : World) (hs3 : SlR t8 Z ao1 cap2 u0.Data) (hZ : Z.on w) : Calls Tryz.prog 11 #[.agg #[i6 u0.ID, .bool u0.Long, .bool u0.Fast, .bool u0.Remote, i6 u0.Size, .slice ao1 u0.Data.length cap2]] w fun e w' => e = .returned (.bool (nofrS u0)) ∧ Below w.heap.size w w' :=
  (nofr_walk u0 ao1 cap2 Z w hs3 hZ (nofr_ok u0)).mono fun _ _ ⟨r, he, hk, hb⟩ => ⟨by subst hk; exact he, hb⟩

end Go.Proofs.YtmbdcehmeiiaoaaGreatDoor
set_option linter.unusedVariables false
set_option linter.unusedSimpArgs false
set_option maxRecDepth 100000
set_option maxHeartbeats 0
namespace Go.Proofs.YtmbdcehmeiiaoaaGreatDoor
open Go.Sy Go.RowKit
theorem framed_walk   (Z : Fz) (w : World)  (hZ : Z.on w) {K : Bool → Prop} (hp : framed_vc  K) : Calls Tryz.prog 10 #[] w fun e w' => ∃ r : Bool, e = .returned (.bool r) ∧ K r ∧ Below w.heap.size w w' := by
 refine enter0 Tryz.func10 rfl rfl (by kernel_rfl) ?_; intro a0 G; have n := Mem.start w Z hZ; have i := Fz.le.refl Z
 refine sqB G n [] [] [] ?_; intro a2 H; clear G
 refine sqH ?_; intro aF I
 refine nw H n (fun b => .slice (sm b) 2 2) [y8 1, y8 255] 5 ?_; intro a a6 aW J L; clear H n
 refine s1 J 8 (.agg #[i6 5, .bool false, .bool false, .bool false, i6 0, .slice (sm a) 2 2]) ?_; intro aX M; clear J
 refine nw M L pb [i6 0, .bool false, .bool false, .bool false, i6 0, .slice none 0 0] 24 ?_; intro f aY aZ o N; clear M L
 refine sx o N 0 [i6 5, .bool false, .bool false, .bool false, i6 0, .slice (sm a) 2 2] 0 ?_; intro p O; clear N
 have q : Mem w.heap.size [] w Z [.row f [i6 5, .bool false, .bool false, .bool false, i6 0, .slice (sm a) 2 2] 24, .row a [y8 1, y8 255] 5] Z p := O; clear O
 refine nlH (I _ _ ?_); clear I aF
 refine sqH ?_; intro aG P
 refine l2 o q 10 0 0 6 [i6 5, .bool false, .bool false, .bool false, i6 0, .slice (sm a) 2 2] rfl rfl ?_; intro a1 Q; clear o
 have aH : Mem w.heap.size [] w Z [.row f [i6 5, .bool false, .bool false, .bool false, i6 0, .slice (sm a) 2 2] 24, .own t8 5 (sm a) 2 ([1, 255] : List Int)] Z p := q.rowOwn (T := t8) (xs := ([1, 255] : List Int)) 1 rfl (by decide) (by show 2 ≤ lim; decide) ((RepAll.one (T := t8) (x := 1) rfl).append (RepAll.one (T := t8) (x := 255) rfl)); clear q
 obtain ⟨aI, aJ, R, j⟩ := aH.freeze 1 rfl
 replace i := Fz.le.trans i aJ
 have s : Mem w.heap.size [] w Z [.row f [i6 5, .bool false, .bool false, .bool false, i6 0, .slice (sm a) 2 2] 24] aI p := R; clear R
 obtain ⟨aK, aL⟩ := hp
 refine fc Q s (fBits_fun (⟨5, false, false, false, 0, ([1, 255] : List Int)⟩ : Frame) aK (sm a) 2 _ _ j s.fz) ?_; intro a3 a4 S l; clear Q s
 refine bt S l 5 [] [] [(2, str ((BitsS (⟨5, false, false, false, 0, ([1, 255] : List Int)⟩ : Frame)).1)), (3, i6 ((BitsS (⟨5, false, false, false, 0, ([1, 255] : List Int)⟩ : Frame)).2))] ?_; intro a5 U; clear S
 refine nlH (P _ _ ?_); clear P aG
 refine sqH ?_; intro aM V
 refine s1 U 15 (str ((BitsS (⟨5, false, false, false, 0, ([1, 255] : List Int)⟩ : Frame)).1)) ?_; intro a7 W; clear U
 obtain ⟨aN, aO⟩ := aL
 refine sa W aN ?_; intro a8 X; clear W
 obtain ⟨aP, Y⟩ := aO
 refine ck X 8 #[str (((BitsS (⟨5, false, false, false, 0, ([1, 255] : List Int)⟩ : Frame)).1) ++ ([49] : List UInt8))] ?_
 refine (fRead_fun (((BitsS (⟨5, false, false, false, 0, ([1, 255] : List Int)⟩ : Frame)).1) ++ ([49] : List UInt8)) aP _ _ l.fz).mono ?_; rintro _ aQ ⟨c, d, aa, rfl, ab, hm⟩; refine ⟨_, rfl, ?_⟩; intro a9 ac; have ad := l.callZ hm; have ae := hm.ext.le; clear hm l X
 replace j := j.mono ae
 replace i := Fz.le.trans i ae
 have t : Mem w.heap.size [] w Z [.row f [i6 5, .bool false, .bool false, .bool false, i6 0, .slice (sm a) 2 2] 24] aa aQ := ad; clear ad
 have aR := Y (ab.small); clear Y
 refine bt ac t 4 [] [] [(18, .agg #[i6 (((readS (((BitsS (⟨5, false, false, false, 0, ([1, 255] : List Int)⟩ : Frame)).1) ++ ([49] : List UInt8))).1).ID), .bool (((readS (((BitsS (⟨5, false, false, false, 0, ([1, 255] : List Int)⟩ : Frame)).1) ++ ([49] : List UInt8))).1).Long), .bool (((readS (((BitsS (⟨5, false, false, false, 0, ([1, 255] : List Int)⟩ : Frame)).1) ++ ([49] : List UInt8))).1).Fast), .bool (((readS (((BitsS (⟨5, false, false, false, 0, ([1, 255] : List Int)⟩ : Frame)).1) ++ ([49] : List UInt8))).1).Remote), i6 (((readS (((BitsS (⟨5, false, false, false, 0, ([1, 255] : List Int)⟩ : Frame)).1) ++ ([49] : List UInt8))).1).Size), .slice c (((readS (((BitsS (⟨5, false, false, false, 0, ([1, 255] : List Int)⟩ : Frame)).1) ++ ([49] : List UInt8))).1).Data).length d]), (19, i6 ((readS (((BitsS (⟨5, false, false, false, 0, ([1, 255] : List Int)⟩ : Frame)).1) ++ ([49] : List UInt8))).2.1)), (20, i6 ((readS (((BitsS (⟨5, false, false, false, 0, ([1, 255] : List Int)⟩ : Frame)).1) ++ ([49] : List UInt8))).2.2))] ?_; intro ba af; clear ac
 refine nw af t pb [i6 0, .bool false, .bool false, .bool false, i6 0, .slice none 0 0] 24 ?_; intro ag bb bc u ah; clear af t
 refine sx u ah 0 [i6 (((readS (((BitsS (⟨5, false, false, false, 0, ([1, 255] : List Int)⟩ : Frame)).1) ++ ([49] : List UInt8))).1).ID), .bool (((readS (((BitsS (⟨5, false, false, false, 0, ([1, 255] : List Int)⟩ : Frame)).1) ++ ([49] : List UInt8))).1).Long), .bool (((readS (((BitsS (⟨5, false, false, false, 0, ([1, 255] : List Int)⟩ : Frame)).1) ++ ([49] : List UInt8))).1).Fast), .bool (((readS (((BitsS (⟨5, false, false, false, 0, ([1, 255] : List Int)⟩ : Frame)).1) ++ ([49] : List UInt8))).1).Remote), i6 (((readS (((BitsS (⟨5, false, false, false, 0, ([1, 255] : List Int)⟩ : Frame)).1) ++ ([49] : List UInt8))).1).Size), .slice c (((readS (((BitsS (⟨5, false, false, false, 0, ([1, 255] : List Int)⟩ : Frame)).1) ++ ([49] : List UInt8))).1).Data).length d] 0 ?_; intro aS y; clear ah
 refine bt u y 2 [] [] [(5, i6 ((readS (((BitsS (⟨5, false, false, false, 0, ([1, 255] : List Int)⟩ : Frame)).1) ++ ([49] : List UInt8))).2.1)), (6, i6 ((readS (((BitsS (⟨5, false, false, false, 0, ([1, 255] : List Int)⟩ : Frame)).1) ++ ([49] : List UInt8))).2.2))] ?_; intro bd ai; clear u
 have h : Mem w.heap.size [] w Z [.row ag [i6 (((readS (((BitsS (⟨5, false, false, false, 0, ([1, 255] : List Int)⟩ : Frame)).1) ++ ([49] : List UInt8))).1).ID), .bool (((readS (((BitsS (⟨5, false, false, false, 0, ([1, 255] : List Int)⟩ : Frame)).1) ++ ([49] : List UInt8))).1).Long), .bool (((readS (((BitsS (⟨5, false, false, false, 0, ([1, 255] : List Int)⟩ : Frame)).1) ++ ([49] : List UInt8))).1).Fast), .bool (((readS (((BitsS (⟨5, false, false, false, 0, ([1, 255] : List Int)⟩ : Frame)).1) ++ ([49] : List UInt8))).1).Remote), i6 (((readS (((BitsS (⟨5, false, false, false, 0, ([1, 255] : List Int)⟩ : Frame)).1) ++ ([49] : List UInt8))).1).Size), .slice c (((readS (((BitsS (⟨5, false, false, false, 0, ([1, 255] : List Int)⟩ : Frame)).1) ++ ([49] : List UInt8))).1).Data).length d] 24, .row f [i6 5, .bool false, .bool false, .bool false, i6 0, .slice (sm a) 2 2] 24] aa aS := y; clear y
 refine nlH (V _ _ ?_); clear V aM
 refine sqH ?_; intro aT aj
 refine s1 ai 21 (i6 ((BitsS (⟨5, false, false, false, 0, ([1, 255] : List Int)⟩ : Frame)).2)) ?_; intro be ak; clear ai
 refine s1 ak 22 (.bool (((BitsS (⟨5, false, false, false, 0, ([1, 255] : List Int)⟩ : Frame)).2) == 0)) ?_; intro bf al; clear ak
 refine s1 al 23 (.bool (((BitsS (⟨5, false, false, false, 0, ([1, 255] : List Int)⟩ : Frame)).2) == 0)) ?_; intro bg am; clear al
 have an := am.atom ((((BitsS (⟨5, false, false, false, 0, ([1, 255] : List Int)⟩ : Frame)).2) == 0) == true) (by kernel_rfl); clear am
 refine gp an 24 0 [] (((BitsS (⟨5, false, false, false, 0, ([1, 255] : List Int)⟩ : Frame)).2) == 0) (i6 ((readS (((BitsS (⟨5, false, false, false, 0, ([1, 255] : List Int)⟩ : Frame)).1) ++ ([49] : List UInt8))).2.2)) rfl rfl ?_; intro bh ao; clear an
 refine gp ao 25 0 [] (((BitsS (⟨5, false, false, false, 0, ([1, 255] : List Int)⟩ : Frame)).2) == 0) (.bool (((readS (((BitsS (⟨5, false, false, false, 0, ([1, 255] : List Int)⟩ : Frame)).1) ++ ([49] : List UInt8))).2.2) == 0)) rfl rfl ?_; intro bi z; clear ao
 refine st z (.bool ((((BitsS (⟨5, false, false, false, 0, ([1, 255] : List Int)⟩ : Frame)).2) == 0) && (((readS (((BitsS (⟨5, false, false, false, 0, ([1, 255] : List Int)⟩ : Frame)).1) ++ ([49] : List UInt8))).2.2) == 0))) (nog rfl _) rfl (by kernel_rfl) (pk_and z (g := []) (m := 0) (b := ((BitsS (⟨5, false, false, false, 0, ([1, 255] : List Int)⟩ : Frame)).2) == 0) (v := ((readS (((BitsS (⟨5, false, false, false, 0, ([1, 255] : List Int)⟩ : Frame)).1) ++ ([49] : List UInt8))).2.2) == 0) rfl (by kernel_rfl) (by kernel_rfl) (by kernel_rfl) rfl) ?_; intro bk ap; clear z
 refine s1 ap 27 (.bool ((((BitsS (⟨5, false, false, false, 0, ([1, 255] : List Int)⟩ : Frame)).2) == 0) && (((readS (((BitsS (⟨5, false, false, false, 0, ([1, 255] : List Int)⟩ : Frame)).1) ++ ([49] : List UInt8))).2.2) == 0))) ?_; intro bl aq; clear ap
 have ar := aq.atom (((((BitsS (⟨5, false, false, false, 0, ([1, 255] : List Int)⟩ : Frame)).2) == 0) && (((readS (((BitsS (⟨5, false, false, false, 0, ([1, 255] : List Int)⟩ : Frame)).1) ++ ([49] : List UInt8))).2.2) == 0)) == true) (by kernel_rfl); clear aq
 refine gp ar 28 1 [] ((((BitsS (⟨5, false, false, false, 0, ([1, 255] : List Int)⟩ : Frame)).2) == 0) && (((readS (((BitsS (⟨5, false, false, false, 0, ([1, 255] : List Int)⟩ : Frame)).1) ++ ([49] : List UInt8))).2.2) == 0)) (i6 ((readS (((BitsS (⟨5, false, false, false, 0, ([1, 255] : List Int)⟩ : Frame)).1) ++ ([49] : List UInt8))).2.1)) rfl rfl ?_; intro bm au; clear ar
 refine gp au 29 1 [] ((((BitsS (⟨5, false, false, false, 0, ([1, 255] : List Int)⟩ : Frame)).2) == 0) && (((readS (((BitsS (⟨5, false, false, false, 0, ([1, 255] : List Int)⟩ : Frame)).1) ++ ([49] : List UInt8))).2.2) == 0)) (str ((BitsS (⟨5, false, false, false, 0, ([1, 255] : List Int)⟩ : Frame)).1)) rfl rfl ?_; intro bn av; clear au
 refine gp av 30 1 [] ((((BitsS (⟨5, false, false, false, 0, ([1, 255] : List Int)⟩ : Frame)).2) == 0) && (((readS (((BitsS (⟨5, false, false, false, 0, ([1, 255] : List Int)⟩ : Frame)).1) ++ ([49] : List UInt8))).2.2) == 0)) (i6 (((BitsS (⟨5, false, false, false, 0, ([1, 255] : List Int)⟩ : Frame)).1).length : Int)) rfl rfl ?_; intro bo aw; clear av
 refine gp aw 31 1 [] ((((BitsS (⟨5, false, false, false, 0, ([1, 255] : List Int)⟩ : Frame)).2) == 0) && (((readS (((BitsS (⟨5, false, false, false, 0, ([1, 255] : List Int)⟩ : Frame)).1) ++ ([49] : List UInt8))).2.2) == 0)) (.bool (((readS (((BitsS (⟨5, false, false, false, 0, ([1, 255] : List Int)⟩ : Frame)).1) ++ ([49] : List UInt8))).2.1) == (((BitsS (⟨5, false, false, false, 0, ([1, 255] : List Int)⟩ : Frame)).1).length : Int))) rfl rfl ?_; intro bp A; clear aw
 refine st A (.bool (((((BitsS (⟨5, false, false, false, 0, ([1, 255] : List Int)⟩ : Frame)).2) == 0) && (((readS (((BitsS (⟨5, false, false, false, 0, ([1, 255] : List Int)⟩ : Frame)).1) ++ ([49] : List UInt8))).2.2) == 0)) && (((readS (((BitsS (⟨5, false, false, false, 0, ([1, 255] : List Int)⟩ : Frame)).1) ++ ([49] : List UInt8))).2.1) == (((BitsS (⟨5, false, false, false, 0, ([1, 255] : List Int)⟩ : Frame)).1).length : Int)))) (nog rfl _) rfl (by kernel_rfl) (pk_and A (g := []) (m := 1) (b := (((BitsS (⟨5, false, false, false, 0, ([1, 255] : List Int)⟩ : Frame)).2) == 0) && (((readS (((BitsS (⟨5, false, false, false, 0, ([1, 255] : List Int)⟩ : Frame)).1) ++ ([49] : List UInt8))).2.2) == 0)) (v := ((readS (((BitsS (⟨5, false, false, false, 0, ([1, 255] : List Int)⟩ : Frame)).1) ++ ([49] : List UInt8))).2.1) == (((BitsS (⟨5, false, false, false, 0, ([1, 255] : List Int)⟩ : Frame)).1).length : Int)) rfl (by kernel_rfl) (by kernel_rfl) (by kernel_rfl) rfl) ?_; intro bq ax; clear A
 refine s1 ax 33 (.bool (((((BitsS (⟨5, false, false, false, 0, ([1, 255] : List Int)⟩ : Frame)).2) == 0) && (((readS (((BitsS (⟨5, false, false, false, 0, ([1, 255] : List Int)⟩ : Frame)).1) ++ ([49] : List UInt8))).2.2) == 0)) && (((readS (((BitsS (⟨5, false, false, false, 0, ([1, 255] : List Int)⟩ : Frame)).1) ++ ([49] : List UInt8))).2.1) == (((BitsS (⟨5, false, false, false, 0, ([1, 255] : List Int)⟩ : Frame)).1).length : Int)))) ?_; intro br ay; clear ax
 have B := ay.atom ((((((BitsS (⟨5, false, false, false, 0, ([1, 255] : List Int)⟩ : Frame)).2) == 0) && (((readS (((BitsS (⟨5, false, false, false, 0, ([1, 255] : List Int)⟩ : Frame)).1) ++ ([49] : List UInt8))).2.2) == 0)) && (((readS (((BitsS (⟨5, false, false, false, 0, ([1, 255] : List Int)⟩ : Frame)).1) ++ ([49] : List UInt8))).2.1) == (((BitsS (⟨5, false, false, false, 0, ([1, 255] : List Int)⟩ : Frame)).1).length : Int))) == true) (by kernel_rfl); clear ay
 refine gd B (.agg #[i6 5, .bool false, .bool false, .bool false, i6 0, .slice (sm a) 2 2]) (m := 2) (cj := []) (bj := ((((BitsS (⟨5, false, false, false, 0, ([1, 255] : List Int)⟩ : Frame)).2) == 0) && (((readS (((BitsS (⟨5, false, false, false, 0, ([1, 255] : List Int)⟩ : Frame)).1) ++ ([49] : List UInt8))).2.2) == 0)) && (((readS (((BitsS (⟨5, false, false, false, 0, ([1, 255] : List Int)⟩ : Frame)).1) ++ ([49] : List UInt8))).2.1) == (((BitsS (⟨5, false, false, false, 0, ([1, 255] : List Int)⟩ : Frame)).1).length : Int))) rfl rfl (by kernel_rfl) rfl (by kernel_rfl) (by kernel_rfl) (by kernel_rfl) (fun hg => lda B h 1 (g := [2]) (b := f) (off := 0) (k := 6) (cs := [i6 5, .bool false, .bool false, .bool false, i6 0, .slice (sm a) 2 2]) (vs := [i6 5, .bool false, .bool false, .bool false, i6 0, .slice (sm a) 2 2]) (ty := 24) rfl (by kernel_rfl) (by kernel_rfl) (by kernel_rfl) (by kernel_rfl) (by kernel_rfl) hg) ?_; intro bs C; clear B
 refine gd C (.agg #[i6 (((readS (((BitsS (⟨5, false, false, false, 0, ([1, 255] : List Int)⟩ : Frame)).1) ++ ([49] : List UInt8))).1).ID), .bool (((readS (((BitsS (⟨5, false, false, false, 0, ([1, 255] : List Int)⟩ : Frame)).1) ++ ([49] : List UInt8))).1).Long), .bool (((readS (((BitsS (⟨5, false, false, false, 0, ([1, 255] : List Int)⟩ : Frame)).1) ++ ([49] : List UInt8))).1).Fast), .bool (((readS (((BitsS (⟨5, false, false, false, 0, ([1, 255] : List Int)⟩ : Frame)).1) ++ ([49] : List UInt8))).1).Remote), i6 (((readS (((BitsS (⟨5, false, false, false, 0, ([1, 255] : List Int)⟩ : Frame)).1) ++ ([49] : List UInt8))).1).Size), .slice c (((readS (((BitsS (⟨5, false, false, false, 0, ([1, 255] : List Int)⟩ : Frame)).1) ++ ([49] : List UInt8))).1).Data).length d]) (m := 2) (cj := []) (bj := ((((BitsS (⟨5, false, false, false, 0, ([1, 255] : List Int)⟩ : Frame)).2) == 0) && (((readS (((BitsS (⟨5, false, false, false, 0, ([1, 255] : List Int)⟩ : Frame)).1) ++ ([49] : List UInt8))).2.2) == 0)) && (((readS (((BitsS (⟨5, false, false, false, 0, ([1, 255] : List Int)⟩ : Frame)).1) ++ ([49] : List UInt8))).2.1) == (((BitsS (⟨5, false, false, false, 0, ([1, 255] : List Int)⟩ : Frame)).1).length : Int))) rfl rfl (by kernel_rfl) rfl (by kernel_rfl) (by kernel_rfl) (by kernel_rfl) (fun hg => lda C h 0 (g := [2]) (b := ag) (off := 0) (k := 6) (cs := [i6 (((readS (((BitsS (⟨5, false, false, false, 0, ([1, 255] : List Int)⟩ : Frame)).1) ++ ([49] : List UInt8))).1).ID), .bool (((readS (((BitsS (⟨5, false, false, false, 0, ([1, 255] : List Int)⟩ : Frame)).1) ++ ([49] : List UInt8))).1).Long), .bool (((readS (((BitsS (⟨5, false, false, false, 0, ([1, 255] : List Int)⟩ : Frame)).1) ++ ([49] : List UInt8))).1).Fast), .bool (((readS (((BitsS (⟨5, false, false, false, 0, ([1, 255] : List Int)⟩ : Frame)).1) ++ ([49] : List UInt8))).1).Remote), i6 (((readS (((BitsS (⟨5, false, false, false, 0, ([1, 255] : List Int)⟩ : Frame)).1) ++ ([49] : List UInt8))).1).Size), .slice c (((readS (((BitsS (⟨5, false, false, false, 0, ([1, 255] : List Int)⟩ : Frame)).1) ++ ([49] : List UInt8))).1).Data).length d]) (vs := [i6 (((readS (((BitsS (⟨5, false, false, false, 0, ([1, 255] : List Int)⟩ : Frame)).1) ++ ([49] : List UInt8))).1).ID), .bool (((readS (((BitsS (⟨5, false, false, false, 0, ([1, 255] : List Int)⟩ : Frame)).1) ++ ([49] : List UInt8))).1).Long), .bool (((readS (((BitsS (⟨5, false, false, false, 0, ([1, 255] : List Int)⟩ : Frame)).1) ++ ([49] : List UInt8))).1).Fast), .bool (((readS (((BitsS (⟨5, false, false, false, 0, ([1, 255] : List Int)⟩ : Frame)).1) ++ ([49] : List UInt8))).1).Remote), i6 (((readS (((BitsS (⟨5, false, false, false, 0, ([1, 255] : List Int)⟩ : Frame)).1) ++ ([49] : List UInt8))).1).Size), .slice c (((readS (((BitsS (⟨5, false, false, false, 0, ([1, 255] : List Int)⟩ : Frame)).1) ++ ([49] : List UInt8))).1).Data).length d]) (ty := 24) rfl (by kernel_rfl) (by kernel_rfl) (by kernel_rfl) (by kernel_rfl) (by kernel_rfl) hg) ?_; intro bu az; clear C
 refine gcl az h (.bool (sameS (⟨5, false, false, false, 0, ([1, 255] : List Int)⟩ : Frame) ((readS (((BitsS (⟨5, false, false, false, 0, ([1, 255] : List Int)⟩ : Frame)).1) ++ ([49] : List UInt8))).1))) 13 #[.agg #[i6 5, .bool false, .bool false, .bool false, i6 0, .slice (sm a) ([1, 255] : List Int).length 2], .agg #[i6 (((readS (((BitsS (⟨5, false, false, false, 0, ([1, 255] : List Int)⟩ : Frame)).1) ++ ([49] : List UInt8))).1).ID), .bool (((readS (((BitsS (⟨5, false, false, false, 0, ([1, 255] : List Int)⟩ : Frame)).1) ++ ([49] : List UInt8))).1).Long), .bool (((readS (((BitsS (⟨5, false, false, false, 0, ([1, 255] : List Int)⟩ : Frame)).1) ++ ([49] : List UInt8))).1).Fast), .bool (((readS (((BitsS (⟨5, false, false, false, 0, ([1, 255] : List Int)⟩ : Frame)).1) ++ ([49] : List UInt8))).1).Remote), i6 (((readS (((BitsS (⟨5, false, false, false, 0, ([1, 255] : List Int)⟩ : Frame)).1) ++ ([49] : List UInt8))).1).Size), .slice c (((readS (((BitsS (⟨5, false, false, false, 0, ([1, 255] : List Int)⟩ : Frame)).1) ++ ([49] : List UInt8))).1).Data).length d]] (m := 2) (cj := []) (bj := ((((BitsS (⟨5, false, false, false, 0, ([1, 255] : List Int)⟩ : Frame)).2) == 0) && (((readS (((BitsS (⟨5, false, false, false, 0, ([1, 255] : List Int)⟩ : Frame)).1) ++ ([49] : List UInt8))).2.2) == 0)) && (((readS (((BitsS (⟨5, false, false, false, 0, ([1, 255] : List Int)⟩ : Frame)).1) ++ ([49] : List UInt8))).2.1) == (((BitsS (⟨5, false, false, false, 0, ([1, 255] : List Int)⟩ : Frame)).1).length : Int))) rfl rfl (by kernel_rfl) rfl (by kernel_rfl) (by kernel_rfl) (by kernel_rfl) (fun _ => by kernel_rfl) (fun hg => rSame_fun (⟨5, false, false, false, 0, ([1, 255] : List Int)⟩ : Frame) ((readS (((BitsS (⟨5, false, false, false, 0, ([1, 255] : List Int)⟩ : Frame)).1) ++ ([49] : List UInt8))).1) (sm a) 2 c d _ _ j ab h.fz) ?_; intro bv bw D E; clear az h
 refine st D (.bool ((((((BitsS (⟨5, false, false, false, 0, ([1, 255] : List Int)⟩ : Frame)).2) == 0) && (((readS (((BitsS (⟨5, false, false, false, 0, ([1, 255] : List Int)⟩ : Frame)).1) ++ ([49] : List UInt8))).2.2) == 0)) && (((readS (((BitsS (⟨5, false, false, false, 0, ([1, 255] : List Int)⟩ : Frame)).1) ++ ([49] : List UInt8))).2.1) == (((BitsS (⟨5, false, false, false, 0, ([1, 255] : List Int)⟩ : Frame)).1).length : Int))) && (sameS (⟨5, false, false, false, 0, ([1, 255] : List Int)⟩ : Frame) ((readS (((BitsS (⟨5, false, false, false, 0, ([1, 255] : List Int)⟩ : Frame)).1) ++ ([49] : List UInt8))).1)))) (nog rfl _) rfl (by kernel_rfl) (pk_and D (g := []) (m := 2) (b := ((((BitsS (⟨5, false, false, false, 0, ([1, 255] : List Int)⟩ : Frame)).2) == 0) && (((readS (((BitsS (⟨5, false, false, false, 0, ([1, 255] : List Int)⟩ : Frame)).1) ++ ([49] : List UInt8))).2.2) == 0)) && (((readS (((BitsS (⟨5, false, false, false, 0, ([1, 255] : List Int)⟩ : Frame)).1) ++ ([49] : List UInt8))).2.1) == (((BitsS (⟨5, false, false, false, 0, ([1, 255] : List Int)⟩ : Frame)).1).length : Int))) (v := (sameS (⟨5, false, false, false, 0, ([1, 255] : List Int)⟩ : Frame) ((readS (((BitsS (⟨5, false, false, false, 0, ([1, 255] : List Int)⟩ : Frame)).1) ++ ([49] : List UInt8))).1))) rfl (by kernel_rfl) (by kernel_rfl) (by kernel_rfl) rfl) ?_; intro bx aA; clear D
 refine s1 aA 38 (.bool ((((((BitsS (⟨5, false, false, false, 0, ([1, 255] : List Int)⟩ : Frame)).2) == 0) && (((readS (((BitsS (⟨5, false, false, false, 0, ([1, 255] : List Int)⟩ : Frame)).1) ++ ([49] : List UInt8))).2.2) == 0)) && (((readS (((BitsS (⟨5, false, false, false, 0, ([1, 255] : List Int)⟩ : Frame)).1) ++ ([49] : List UInt8))).2.1) == (((BitsS (⟨5, false, false, false, 0, ([1, 255] : List Int)⟩ : Frame)).1).length : Int))) && (sameS (⟨5, false, false, false, 0, ([1, 255] : List Int)⟩ : Frame) ((readS (((BitsS (⟨5, false, false, false, 0, ([1, 255] : List Int)⟩ : Frame)).1) ++ ([49] : List UInt8))).1)))) ?_; intro bz aB; clear aA
 have aC := aB.atom (((((((BitsS (⟨5, false, false, false, 0, ([1, 255] : List Int)⟩ : Frame)).2) == 0) && (((readS (((BitsS (⟨5, false, false, false, 0, ([1, 255] : List Int)⟩ : Frame)).1) ++ ([49] : List UInt8))).2.2) == 0)) && (((readS (((BitsS (⟨5, false, false, false, 0, ([1, 255] : List Int)⟩ : Frame)).1) ++ ([49] : List UInt8))).2.1) == (((BitsS (⟨5, false, false, false, 0, ([1, 255] : List Int)⟩ : Frame)).1).length : Int))) && (sameS (⟨5, false, false, false, 0, ([1, 255] : List Int)⟩ : Frame) ((readS (((BitsS (⟨5, false, false, false, 0, ([1, 255] : List Int)⟩ : Frame)).1) ++ ([49] : List UInt8))).1))) == true) (by kernel_rfl); clear aB
 refine gp aC 39 3 [] ((((((BitsS (⟨5, false, false, false, 0, ([1, 255] : List Int)⟩ : Frame)).2) == 0) && (((readS (((BitsS (⟨5, false, false, false, 0, ([1, 255] : List Int)⟩ : Frame)).1) ++ ([49] : List UInt8))).2.2) == 0)) && (((readS (((BitsS (⟨5, false, false, false, 0, ([1, 255] : List Int)⟩ : Frame)).1) ++ ([49] : List UInt8))).2.1) == (((BitsS (⟨5, false, false, false, 0, ([1, 255] : List Int)⟩ : Frame)).1).length : Int))) && (sameS (⟨5, false, false, false, 0, ([1, 255] : List Int)⟩ : Frame) ((readS (((BitsS (⟨5, false, false, false, 0, ([1, 255] : List Int)⟩ : Frame)).1) ++ ([49] : List UInt8))).1))) (str ((BitsS (⟨5, false, false, false, 0, ([1, 255] : List Int)⟩ : Frame)).1)) rfl rfl ?_; intro bA aD; clear aC
 refine gcl aD E (.bool (hasprefix ((BitsS (⟨5, false, false, false, 0, ([1, 255] : List Int)⟩ : Frame)).1) ([48, 48, 48, 48, 48, 49, 48, 48, 48, 48, 49, 48, 49] : List UInt8))) 43 #[str ((BitsS (⟨5, false, false, false, 0, ([1, 255] : List Int)⟩ : Frame)).1), str ([48, 48, 48, 48, 48, 49, 48, 48, 48, 48, 49, 48, 49] : List UInt8)] (m := 3) (cj := []) (bj := (((((BitsS (⟨5, false, false, false, 0, ([1, 255] : List Int)⟩ : Frame)).2) == 0) && (((readS (((BitsS (⟨5, false, false, false, 0, ([1, 255] : List Int)⟩ : Frame)).1) ++ ([49] : List UInt8))).2.2) == 0)) && (((readS (((BitsS (⟨5, false, false, false, 0, ([1, 255] : List Int)⟩ : Frame)).1) ++ ([49] : List UInt8))).2.1) == (((BitsS (⟨5, false, false, false, 0, ([1, 255] : List Int)⟩ : Frame)).1).length : Int))) && (sameS (⟨5, false, false, false, 0, ([1, 255] : List Int)⟩ : Frame) ((readS (((BitsS (⟨5, false, false, false, 0, ([1, 255] : List Int)⟩ : Frame)).1) ++ ([49] : List UInt8))).1))) rfl rfl (by kernel_rfl) rfl (by kernel_rfl) (by kernel_rfl) (by kernel_rfl) (fun _ => by kernel_rfl) (fun hg => hasprefix_fun ((BitsS (⟨5, false, false, false, 0, ([1, 255] : List Int)⟩ : Frame)).1) ([48, 48, 48, 48, 48, 49, 48, 48, 48, 48, 49, 48, 49] : List UInt8) _ _ E.fz) ?_; intro bB bC F aU; clear aD E
 refine st F (.bool (((((((BitsS (⟨5, false, false, false, 0, ([1, 255] : List Int)⟩ : Frame)).2) == 0) && (((readS (((BitsS (⟨5, false, false, false, 0, ([1, 255] : List Int)⟩ : Frame)).1) ++ ([49] : List UInt8))).2.2) == 0)) && (((readS (((BitsS (⟨5, false, false, false, 0, ([1, 255] : List Int)⟩ : Frame)).1) ++ ([49] : List UInt8))).2.1) == (((BitsS (⟨5, false, false, false, 0, ([1, 255] : List Int)⟩ : Frame)).1).length : Int))) && (sameS (⟨5, false, false, false, 0, ([1, 255] : List Int)⟩ : Frame) ((readS (((BitsS (⟨5, false, false, false, 0, ([1, 255] : List Int)⟩ : Frame)).1) ++ ([49] : List UInt8))).1))) && (hasprefix ((BitsS (⟨5, false, false, false, 0, ([1, 255] : List Int)⟩ : Frame)).1) ([48, 48, 48, 48, 48, 49, 48, 48, 48, 48, 49, 48, 49] : List UInt8)))) (nog rfl _) rfl (by kernel_rfl) (pk_and F (g := []) (m := 3) (b := (((((BitsS (⟨5, false, false, false, 0, ([1, 255] : List Int)⟩ : Frame)).2) == 0) && (((readS (((BitsS (⟨5, false, false, false, 0, ([1, 255] : List Int)⟩ : Frame)).1) ++ ([49] : List UInt8))).2.2) == 0)) && (((readS (((BitsS (⟨5, false, false, false, 0, ([1, 255] : List Int)⟩ : Frame)).1) ++ ([49] : List UInt8))).2.1) == (((BitsS (⟨5, false, false, false, 0, ([1, 255] : List Int)⟩ : Frame)).1).length : Int))) && (sameS (⟨5, false, false, false, 0, ([1, 255] : List Int)⟩ : Frame) ((readS (((BitsS (⟨5, false, false, false, 0, ([1, 255] : List Int)⟩ : Frame)).1) ++ ([49] : List UInt8))).1))) (v := (hasprefix ((BitsS (⟨5, false, false, false, 0, ([1, 255] : List Int)⟩ : Frame)).1) ([48, 48, 48, 48, 48, 49, 48, 48, 48, 48, 49, 48, 49] : List UInt8))) rfl (by kernel_rfl) (by kernel_rfl) (by kernel_rfl) rfl) ?_; intro bD aE; clear F
 refine s1 aE 0 (.bool (((((((BitsS (⟨5, false, false, false, 0, ([1, 255] : List Int)⟩ : Frame)).2) == 0) && (((readS (((BitsS (⟨5, false, false, false, 0, ([1, 255] : List Int)⟩ : Frame)).1) ++ ([49] : List UInt8))).2.2) == 0)) && (((readS (((BitsS (⟨5, false, false, false, 0, ([1, 255] : List Int)⟩ : Frame)).1) ++ ([49] : List UInt8))).2.1) == (((BitsS (⟨5, false, false, false, 0, ([1, 255] : List Int)⟩ : Frame)).1).length : Int))) && (sameS (⟨5, false, false, false, 0, ([1, 255] : List Int)⟩ : Frame) ((readS (((BitsS (⟨5, false, false, false, 0, ([1, 255] : List Int)⟩ : Frame)).1) ++ ([49] : List UInt8))).1))) && (hasprefix ((BitsS (⟨5, false, false, false, 0, ([1, 255] : List Int)⟩ : Frame)).1) ([48, 48, 48, 48, 48, 49, 48, 48, 48, 48, 49, 48, 49] : List UInt8)))) ?_; intro bE aV; clear aE
 refine nlH (aj _ _ ?_); clear aj aT
 refine wp_ret ?_
 refine ra1 aV (.bool (((((((BitsS (⟨5, false, false, false, 0, ([1, 255] : List Int)⟩ : Frame)).2) == 0) && (((readS (((BitsS (⟨5, false, false, false, 0, ([1, 255] : List Int)⟩ : Frame)).1) ++ ([49] : List UInt8))).2.2) == 0)) && (((readS (((BitsS (⟨5, false, false, false, 0, ([1, 255] : List Int)⟩ : Frame)).1) ++ ([49] : List UInt8))).2.1) == (((BitsS (⟨5, false, false, false, 0, ([1, 255] : List Int)⟩ : Frame)).1).length : Int))) && (sameS (⟨5, false, false, false, 0, ([1, 255] : List Int)⟩ : Frame) ((readS (((BitsS (⟨5, false, false, false, 0, ([1, 255] : List Int)⟩ : Frame)).1) ++ ([49] : List UInt8))).1))) && (hasprefix ((BitsS (⟨5, false, false, false, 0, ([1, 255] : List Int)⟩ : Frame)).1) ([48, 48, 48, 48, 48, 49, 48, 48, 48, 48, 49, 48, 49] : List UInt8)))) ?_
 exact ⟨((((((BitsS (⟨5, false, false, false, 0, ([1, 255] : List Int)⟩ : Frame)).2) == 0) && (((readS (((BitsS (⟨5, false, false, false, 0, ([1, 255] : List Int)⟩ : Frame)).1) ++ ([49] : List UInt8))).2.2) == 0)) && (((readS (((BitsS (⟨5, false, false, false, 0, ([1, 255] : List Int)⟩ : Frame)).1) ++ ([49] : List UInt8))).2.1) == (((BitsS (⟨5, false, false, false, 0, ([1, 255] : List Int)⟩ : Frame)).1).length : Int))) && (sameS (⟨5, false, false, false, 0, ([1, 255] : List Int)⟩ : Frame) ((readS (((BitsS (⟨5, false, false, false, 0, ([1, 255] : List Int)⟩ : Frame)).1) ++ ([49] : List UInt8))).1))) && (hasprefix ((BitsS (⟨5, false, false, false, 0, ([1, 255] : List Int)⟩ : Frame)).1) ([48, 48, 48, 48, 48, 49, 48, 48, 48, 48, 49, 48, 49] : List UInt8)), rfl, aR, aU.below⟩

end Go.Proofs.YtmbdcehmeiiaoaaGreatDoor
set_option linter.unusedVariables false
set_option linter.unusedSimpArgs false
set_option maxRecDepth 100000
set_option maxHeartbeats 0
namespace Go.Proofs.YtmbdcehmeiiaoaaGreatDoor
open Go.Sy Go.RowKit
theorem flongest_walk (u0 : Bool) (u1 : Bool) (u2 : Int)  (Z : Fz) (w : World)  (hZ : Z.on w) {K : (Int × Int) → Prop} (hp : flongest_vc u0 u1 u2 K) : Calls Tryz.prog 22 #[.bool u0, .bool u1, i6 u2] w fun e w' => ∃ r : Int × Int, e = .returned (.tuple #[i6 r.1, i6 r.2]) ∧ K r ∧ Below w.heap.size w w' := by
 refine enter0 Tryz.func22 rfl rfl (by kernel_rfl) ?_; intro a0 C; have l := Mem.start w Z hZ; have D := Fz.le.refl Z
 refine sqB C l [] [] [] ?_; intro a4 E; clear C
 refine sqH ?_; intro aq F
 refine bt E l 3 [] [] [(19, .agg #[i6 0, .bool u0, .bool u1, .bool false, i6 0, .slice none 0 0])] ?_; intro aO G; clear E
 refine nw G l pb [i6 0, .bool false, .bool false, .bool false, i6 0, .slice none 0 0] 24 ?_; intro d aP aQ o H; clear G l
 refine sx o H 0 [i6 0, .bool u0, .bool u1, .bool false, i6 0, .slice none 0 0] 0 ?_; intro ar I; clear H
 have f : Mem w.heap.size [] w Z [.row d [i6 0, .bool u0, .bool u1, .bool false, i6 0, .slice none 0 0] 24] Z ar := I; clear I
 refine nlH (F _ _ ?_); clear F aq
 refine wp_seq ?_
 refine sqB o f [] [] [(25, .bool ((decide (u2 < 0)) || (decide (u2 > 64))))] ?_; intro aR g; clear o
 refine cd g (t := (decide (u2 < 0)) || (decide (u2 > 64))) (by kernel_rfl) (fun p => ?_) (fun p => ?_)
 · -- yes
  have au := hp.1 p; clear hp
  refine sqB g f [] [] [(6, i6 0), (7, i6 2)] ?_; intro aS av; clear g
  refine wp_ret ?_
  refine thr ?_
  refine ra2 av (.tuple #[i6 0, i6 2]) ?_
  exact ⟨(0, 2), rfl, au, f.below⟩
 · -- no
  have aw := hp.2 p; clear hp
  refine wp_skip ?_
  refine thn ?_
  refine sqH ?_; intro ax J
  refine s1 g 26 (i6 u2) ?_; intro aT L; clear g
  obtain ⟨aU, m⟩ := aw
  refine mks L f (T := t8) u2 u2 (k := .i64) (k' := .i64) (e := 5) (bytes := 1) (zs := [y8 0]) (z := 0) (by simp only [lim]; omega) (nog rfl _) rfl (by kernel_rfl) rfl (by kernel_rfl) (by kernel_rfl) (by kernel_rfl) (by kernel_rfl) rfl ?_; intro a aV ay M N; clear L f
  have O : Mem w.heap.size [] w Z [.own t8 5 (sm a) u2.toNat (List.replicate u2.toNat (0 : Int)), .row d [i6 0, .bool u0, .bool u1, .bool false, i6 0, .slice none 0 0] 24] Z ay := N; clear N
  refine s1 M 28 (pt d 5) ?_; intro aW q; clear M
  refine sx q O 1 [i6 0, .bool u0, .bool u1, .bool false, i6 0, .slice (sm a) (List.replicate u2.toNat (0 : Int)).length u2.toNat] 5 ?_; intro P Q; clear O
  have R : Mem w.heap.size [] w Z [.own t8 5 (sm a) u2.toNat (List.replicate u2.toNat (0 : Int)), .row d [i6 0, .bool u0, .bool u1, .bool false, i6 0, .slice (sm a) (List.replicate u2.toNat (0 : Int)).length u2.toNat] 24] Z P := Q; clear Q
  refine nlH (J _ _ ?_); clear J ax
  refine wp_seq ?_
  refine sqH ?_; intro az S
  refine l2 q R 29 1 0 6 [i6 0, .bool u0, .bool u1, .bool false, i6 0, .slice (sm a) (List.replicate u2.toNat (0 : Int)).length u2.toNat] rfl rfl ?_; intro aX U; clear q
  obtain ⟨aA, aB, V, s⟩ := R.freeze 0 rfl
  replace D := Fz.le.trans D aB
  have u : Mem w.heap.size [] w Z [.row d [i6 0, .bool u0, .bool u1, .bool false, i6 0, .slice (sm a) (List.replicate u2.toNat (0 : Int)).length u2.toNat] 24] aA P := V; clear V
  refine fc U u (fcheckfr_fun (⟨0, u0, u1, false, 0, (List.replicate u2.toNat (0 : Int))⟩ : Frame) (sm a) u2.toNat _ _ s u.fz) ?_; intro aY aZ W c; clear U u
  refine s1 W 9 (i6 (fcheckfr (⟨0, u0, u1, false, 0, (List.replicate u2.toNat (0 : Int))⟩ : Frame))) ?_; intro a1 X; clear W
  refine nlH (S _ _ ?_); clear S az
  refine sqB X c [] [] [(32, .bool ((fcheckfr (⟨0, u0, u1, false, 0, (List.replicate u2.toNat (0 : Int))⟩ : Frame)) != 0))] ?_; intro a2 h; clear X
  refine cd h (t := (fcheckfr (⟨0, u0, u1, false, 0, (List.replicate u2.toNat (0 : Int))⟩ : Frame)) != 0) (by kernel_rfl) (fun v => ?_) (fun v => ?_)
  · -- yes
   have aC := m.1 v; clear m
   refine sqB h c [] [] [(6, i6 0), (7, i6 (fcheckfr (⟨0, u0, u1, false, 0, (List.replicate u2.toNat (0 : Int))⟩ : Frame)))] ?_; intro a3 aD; clear h
   refine wp_ret ?_
   refine thr ?_
   refine ra2 aD (.tuple #[i6 0, i6 (fcheckfr (⟨0, u0, u1, false, 0, (List.replicate u2.toNat (0 : Int))⟩ : Frame))]) ?_
   exact ⟨(0, (fcheckfr (⟨0, u0, u1, false, 0, (List.replicate u2.toNat (0 : Int))⟩ : Frame))), rfl, aC, c.below⟩
  · -- no
   have aE := m.2 v; clear m
   refine wp_skip ?_
   refine thn ?_
   refine sqH ?_; intro aF Y
   refine l2 h c 34 0 0 6 [i6 0, .bool u0, .bool u1, .bool false, i6 0, .slice (sm a) (List.replicate u2.toNat (0 : Int)).length u2.toNat] rfl rfl ?_; intro a5 aa; clear h
   obtain ⟨aG, n⟩ := aE
   refine fc aa c (fhead_fun (⟨0, u0, u1, false, 0, (List.replicate u2.toNat (0 : Int))⟩ : Frame) aG (sm a) u2.toNat _ _ s c.fz) ?_; intro a6 a7 ab b; clear aa c
   refine bt ab b 2 [] [] [(10, i6 ((fheadS (⟨0, u0, u1, false, 0, (List.replicate u2.toNat (0 : Int))⟩ : Frame)).length : Int))] ?_; intro a8 ac; clear ab
   refine nlH (Y _ _ ?_); clear Y aF
   refine wp_seq ?_
   refine sqB ac b [] [] [(38, .bool (!u1))] ?_; intro a9 i; clear ac
   refine cd i (t := !u1) (by kernel_rfl) (fun x => ?_) (fun x => ?_)
   · -- yes
    have aH := n.1 x; clear n
    refine sqH ?_; intro aI ad
    refine bt i b 2 [] [] [(41, i6 (w64 (((fheadS (⟨0, u0, u1, false, 0, (List.replicate u2.toNat (0 : Int))⟩ : Frame)).length : Int) + 15)))] ?_; intro ba ae; clear i
    refine fc ae b (smost_fun (w64 (((fheadS (⟨0, u0, u1, false, 0, (List.replicate u2.toNat (0 : Int))⟩ : Frame)).length : Int) + 15)) _ _ b.fz) ?_; intro bb bc af y; clear ae b
    refine bt af y 5 [] [] [(11, i6 ((smost (w64 (((fheadS (⟨0, u0, u1, false, 0, (List.replicate u2.toNat (0 : Int))⟩ : Frame)).length : Int) + 15))).1))] ?_; intro bd ag; clear af
    refine nlH (ad _ _ ?_); clear ad aI
    refine sqB ag y [] [] [(6, i6 (w64 (((smost (w64 (((fheadS (⟨0, u0, u1, false, 0, (List.replicate u2.toNat (0 : Int))⟩ : Frame)).length : Int) + 15))).1) + 10))), (7, i6 0)] ?_; intro be aJ; clear ag
    refine wp_ret ?_
    refine thr ?_
    refine ra2 aJ (.tuple #[i6 (w64 (((smost (w64 (((fheadS (⟨0, u0, u1, false, 0, (List.replicate u2.toNat (0 : Int))⟩ : Frame)).length : Int) + 15))).1) + 10)), i6 0]) ?_
    exact ⟨(w64 (((smost (w64 (((fheadS (⟨0, u0, u1, false, 0, (List.replicate u2.toNat (0 : Int))⟩ : Frame)).length : Int) + 15))).1) + 10), 0), rfl, aH, y.below⟩
   · -- no
    have aK := n.2 x; clear n
    refine wp_skip ?_
    refine thn ?_
    refine sqH ?_; intro aL ah
    refine s1 i 48 (i6 ((fheadS (⟨0, u0, u1, false, 0, (List.replicate u2.toNat (0 : Int))⟩ : Frame)).length : Int)) ?_; intro bf ai; clear i
    refine fc ai b (smost_fun ((fheadS (⟨0, u0, u1, false, 0, (List.replicate u2.toNat (0 : Int))⟩ : Frame)).length : Int) _ _ b.fz) ?_; intro bg bh aj j; clear ai b
    refine bt aj j 5 [] [] [(13, i6 ((smost ((fheadS (⟨0, u0, u1, false, 0, (List.replicate u2.toNat (0 : Int))⟩ : Frame)).length : Int)).1))] ?_; intro bi ak; clear aj
    refine nlH (ah _ _ ?_); clear ah aL
    refine sqH ?_; intro aM al
    refine l2 ak j 53 0 0 6 [i6 0, .bool u0, .bool u1, .bool false, i6 0, .slice (sm a) (List.replicate u2.toNat (0 : Int)).length u2.toNat] rfl rfl ?_; intro bj am; clear ak
    refine fc am j (fkind_fun (⟨0, u0, u1, false, 0, (List.replicate u2.toNat (0 : Int))⟩ : Frame) (sm a) u2.toNat _ _ s j.fz) ?_; intro bk bl an A; clear am j
    refine fc an A (csize_fun (fkind (⟨0, u0, u1, false, 0, (List.replicate u2.toNat (0 : Int))⟩ : Frame)) _ _ A.fz) ?_; intro bm bn ao B; clear an A
    refine bt ao B 5 [] [] [(15, i6 ((csize (fkind (⟨0, u0, u1, false, 0, (List.replicate u2.toNat (0 : Int))⟩ : Frame))).1))] ?_; intro bo ap; clear ao
    refine nlH (al _ _ ?_); clear al aM
    refine sqB ap B [] [] [(6, i6 (w64 ((w64 (((smost ((fheadS (⟨0, u0, u1, false, 0, (List.replicate u2.toNat (0 : Int))⟩ : Frame)).length : Int)).1) + (w64 ((w64 (4 + ((csize (fkind (⟨0, u0, u1, false, 0, (List.replicate u2.toNat (0 : Int))⟩ : Frame))).1))) + (w64 ((w64 ((w64 (4 + ((csize (fkind (⟨0, u0, u1, false, 0, (List.replicate u2.toNat (0 : Int))⟩ : Frame))).1))) + 3)).tdiv 4)))))) + 10))), (7, i6 0)] ?_; intro bp aN; clear ap
    refine wp_ret ?_
    refine ra2 aN (.tuple #[i6 (w64 ((w64 (((smost ((fheadS (⟨0, u0, u1, false, 0, (List.replicate u2.toNat (0 : Int))⟩ : Frame)).length : Int)).1) + (w64 ((w64 (4 + ((csize (fkind (⟨0, u0, u1, false, 0, (List.replicate u2.toNat (0 : Int))⟩ : Frame))).1))) + (w64 ((w64 ((w64 (4 + ((csize (fkind (⟨0, u0, u1, false, 0, (List.replicate u2.toNat (0 : Int))⟩ : Frame))).1))) + 3)).tdiv 4)))))) + 10)), i6 0]) ?_
    exact ⟨(w64 ((w64 (((smost ((fheadS (⟨0, u0, u1, false, 0, (List.replicate u2.toNat (0 : Int))⟩ : Frame)).length : Int)).1) + (w64 ((w64 (4 + ((csize (fkind (⟨0, u0, u1, false, 0, (List.replicate u2.toNat (0 : Int))⟩ : Frame))).1))) + (w64 ((w64 ((w64 (4 + ((csize (fkind (⟨0, u0, u1, false, 0, (List.replicate u2.toNat (0 : Int))⟩ : Frame))).1))) + 3)).tdiv 4)))))) + 10), 0), rfl, aK, B.below⟩

end Go.Proofs.YtmbdcehmeiiaoaaGreatDoor
set_option linter.unusedVariables false
set_option linter.unusedSimpArgs false
namespace Go.Proofs.YtmbdcehmeiiaoaaGreatDoor
open Go.Sy Go.RowKit
theorem framed_fun   (Z : Fz) (w : World)  (hZ : Z.on w) : Calls Tryz.prog 10 #[] w fun e w' => e = .returned (.bool true) ∧ Below w.heap.size w w' :=
  (framed_walk   Z w  hZ (framed_ok )).mono fun _ _ ⟨r, he, hk, hb⟩ => ⟨by subst hk; exact he, hb⟩

theorem flongest_fun (u0 : Bool) (u1 : Bool) (u2 : Int)  (Z : Fz) (w : World)  (hZ : Z.on w) : Calls Tryz.prog 22 #[.bool u0, .bool u1, i6 u2] w fun e w' => e = .returned (.tuple #[i6 ((flongestS u0 u1 u2).1), i6 ((flongestS u0 u1 u2).2)]) ∧ Below w.heap.size w w' :=
  (flongest_walk u0 u1 u2  Z w  hZ (flongest_ok u0 u1 u2)).mono fun _ _ ⟨r, he, hk, hb⟩ => ⟨by subst hk; exact he, hb⟩

end Go.Proofs.YtmbdcehmeiiaoaaGreatDoor
set_option linter.unusedVariables false
set_option linter.unusedSimpArgs false
set_option maxRecDepth 100000
set_option maxHeartbeats 0
namespace Go.Proofs.YtmbdcehmeiiaoaaGreatDoor
open Go.Sy Go.RowKit
theorem LBits_walk (u0 : Frame) (ao1 : Option Addr) (cap2 : Nat) (Z : Fz) (w : World) (hs3 : SlR t8 Z ao1 cap2 u0.Data) (hg5 : SlR t8 Z (sm 5) 64 deBruijn64) (hZ : Z.on w) {K : Bool → Prop} (hp : LBits_vc u0 K) : Calls Tryz.prog 4 #[.agg #[i6 u0.ID, .bool u0.Long, .bool u0.Fast, .bool u0.Remote, i6 u0.Size, .slice ao1 u0.Data.length cap2]] w fun e w' => ∃ r : Bool, e = .returned (.bool r) ∧ K r ∧ Below w.heap.size w w' := by
 refine enter0 Tryz.func4 rfl rfl (by kernel_rfl) ?_; intro a0 ad; have ae := Mem.start w Z hZ; have af := Fz.le.refl Z
 have a2 := hp (hs3.small); clear hp
 refine sqH ?_; intro a3 ag
 refine nw ad ae pb [i6 u0.ID, .bool u0.Long, .bool u0.Fast, .bool u0.Remote, i6 u0.Size, .slice ao1 u0.Data.length cap2] 24 ?_; intro l a7 bv ah A; clear ad ae
 refine s1 ah 2 (.bool false) ?_; intro bw ai; clear ah
 refine nlH (ag _ _ ?_); clear ag a3
 refine sqH ?_; intro a4 aj
 refine l2 ai A 9 0 0 6 [i6 u0.ID, .bool u0.Long, .bool u0.Fast, .bool u0.Remote, i6 u0.Size, .slice ao1 u0.Data.length cap2] rfl rfl ?_; intro bx ak; clear ai
 obtain ⟨a5, al⟩ := a2
 refine ck ak 14 #[.agg #[i6 u0.ID, .bool u0.Long, .bool u0.Fast, .bool u0.Remote, i6 u0.Size, .slice ao1 u0.Data.length cap2]] ?_
 refine (rown_fun u0 a5 ao1 cap2 _ _ hs3 A.fz).mono ?_; rintro _ a6 ⟨a, f, am, rfl, n, hm⟩; refine ⟨_, rfl, ?_⟩; intro bz an; have ao := A.callZ hm; have M := hm.ext.le; clear hm A ak
 replace hs3 := hs3.mono M
 replace hg5 := hg5.mono M
 replace af := Fz.le.trans af M
 have ap : Mem w.heap.size [] w Z [.row l [i6 u0.ID, .bool u0.Long, .bool u0.Fast, .bool u0.Remote, i6 u0.Size, .slice ao1 u0.Data.length cap2] 24] am a6 := ao; clear ao
 have a8 := al (n.small); clear al
 refine nw an ap pb [i6 0, .bool false, .bool false, .bool false, i6 0, .slice none 0 0] 24 ?_; intro N bA bB O aq; clear an ap
 refine sx O aq 0 [i6 ((rownS u0).ID), .bool ((rownS u0).Long), .bool ((rownS u0).Fast), .bool ((rownS u0).Remote), i6 ((rownS u0).Size), .slice a ((rownS u0).Data).length f] 0 ?_; intro a9 ar; clear aq
 have B : Mem w.heap.size [] w Z [.row N [i6 ((rownS u0).ID), .bool ((rownS u0).Long), .bool ((rownS u0).Fast), .bool ((rownS u0).Remote), i6 ((rownS u0).Size), .slice a ((rownS u0).Data).length f] 24, .row l [i6 u0.ID, .bool u0.Long, .bool u0.Fast, .bool u0.Remote, i6 u0.Size, .slice ao1 u0.Data.length cap2] 24] am a9 := ar; clear ar
 refine nlH (aj _ _ ?_); clear aj a4
 refine sqH ?_; intro ba au
 refine l2 O B 12 0 0 6 [i6 ((rownS u0).ID), .bool ((rownS u0).Long), .bool ((rownS u0).Fast), .bool ((rownS u0).Remote), i6 ((rownS u0).Size), .slice a ((rownS u0).Data).length f] rfl rfl ?_; intro bC av; clear O
 refine fc av B (fName_fun (rownS u0) a f _ _ n B.fz) ?_; intro bD bE aw o; clear av B
 refine bt aw o 5 [] [] [(4, str ((fNameS (rownS u0)).1)), (5, i6 ((fNameS (rownS u0)).2))] ?_; intro bF ax; clear aw
 refine nlH (au _ _ ?_); clear au ba
 refine sqH ?_; intro bb ay
 refine l2 ax o 17 0 0 6 [i6 ((rownS u0).ID), .bool ((rownS u0).Long), .bool ((rownS u0).Fast), .bool ((rownS u0).Remote), i6 ((rownS u0).Size), .slice a ((rownS u0).Data).length f] rfl rfl ?_; intro bG az; clear ax
 obtain ⟨bc, C⟩ := a8
 refine fc az o (fBits_fun (rownS u0) bc a f _ _ n o.fz) ?_; intro bH bI aA p; clear az o
 refine bt aA p 5 [] [] [(6, str ((BitsS (rownS u0)).1)), (7, i6 ((BitsS (rownS u0)).2))] ?_; intro bJ aB; clear aA
 refine nlH (ay _ _ ?_); clear ay bb
 refine sqH ?_; intro bd aC
 refine l2 aB p 21 1 0 6 [i6 u0.ID, .bool u0.Long, .bool u0.Fast, .bool u0.Remote, i6 u0.Size, .slice ao1 u0.Data.length cap2] rfl rfl ?_; intro bK aD; clear aB
 refine fc aD p (rcheckfr_fun u0 ao1 cap2 _ _ hs3 p.fz) ?_; intro bL bM aE P; clear aD p
 refine s1 aE 8 (i6 (fcheckfr u0)) ?_; intro bN aF; clear aE
 refine nlH (aC _ _ ?_); clear aC bd
 refine wp_seq ?_
 refine sqH ?_; intro be aG
 refine fc aF P (framed_fun  _ _ P.fz) ?_; intro bO bP aH D; clear aF P
 refine bt aH D 3 [1] [26] [(25, .bool false), (26, .agg #[i6 u0.ID, .bool u0.Long, .bool u0.Fast, .bool u0.Remote, i6 u0.Size, .slice ao1 u0.Data.length cap2])] ?_; intro bQ Q; clear aH
 refine fcl Q D (i6 (fcheckfr u0)) 18 #[.agg #[i6 u0.ID, .bool u0.Long, .bool u0.Fast, .bool u0.Remote, i6 u0.Size, .slice ao1 u0.Data.length cap2]] (by rw [wanted_of Q (b := false) rfl rfl (by kernel_rfl) (by kernel_rfl)]; rfl) rfl (by kernel_rfl) (fun _ => by kernel_rfl) (fcheckfr_fun u0 ao1 cap2 _ _ hs3 D.fz) ?_; intro bR bS E q; clear Q D
 refine st E (i6 (fcheckfr u0)) (by rw [wanted_of E (b := false) rfl rfl (by kernel_rfl) (by kernel_rfl)]; rfl) rfl (by kernel_rfl) (p0 E (by kernel_rfl)) ?_; intro bT F; clear E
 refine st F (.bool ((fcheckfr u0) != (fcheckfr u0))) (by rw [wanted_of F (b := false) rfl rfl (by kernel_rfl) (by kernel_rfl)]; rfl) rfl (by kernel_rfl) (p0 F (by kernel_rfl)) ?_; intro bU aI; clear F
 refine s1 aI 30 (.bool ((fcheckfr u0) != (fcheckfr u0))) ?_; intro bV aJ; clear aI
 refine s1 aJ 31 (.bool ((fcheckfr u0) != (fcheckfr u0))) ?_; intro bW aK; clear aJ
 have R := aK.atom (((fcheckfr u0) != (fcheckfr u0)) == false) (by kernel_rfl); clear aK
 refine gd R (.agg #[i6 ((rownS u0).ID), .bool ((rownS u0).Long), .bool ((rownS u0).Fast), .bool ((rownS u0).Remote), i6 ((rownS u0).Size), .slice a ((rownS u0).Data).length f]) (m := 0) (cj := []) (bj := (fcheckfr u0) != (fcheckfr u0)) rfl rfl (by kernel_rfl) rfl (by kernel_rfl) (by kernel_rfl) (by kernel_rfl) (fun hg => lda R q 0 (g := [0]) (b := N) (off := 0) (k := 6) (cs := [i6 ((rownS u0).ID), .bool ((rownS u0).Long), .bool ((rownS u0).Fast), .bool ((rownS u0).Remote), i6 ((rownS u0).Size), .slice a ((rownS u0).Data).length f]) (vs := [i6 ((rownS u0).ID), .bool ((rownS u0).Long), .bool ((rownS u0).Fast), .bool ((rownS u0).Remote), i6 ((rownS u0).Size), .slice a ((rownS u0).Data).length f]) (ty := 24) rfl (by kernel_rfl) (by kernel_rfl) (by kernel_rfl) (by kernel_rfl) (by kernel_rfl) hg) ?_; intro bX S; clear R
 refine gd S (.agg #[i6 u0.ID, .bool u0.Long, .bool u0.Fast, .bool u0.Remote, i6 u0.Size, .slice ao1 u0.Data.length cap2]) (m := 0) (cj := []) (bj := (fcheckfr u0) != (fcheckfr u0)) rfl rfl (by kernel_rfl) rfl (by kernel_rfl) (by kernel_rfl) (by kernel_rfl) (fun hg => lda S q 1 (g := [0]) (b := l) (off := 0) (k := 6) (cs := [i6 u0.ID, .bool u0.Long, .bool u0.Fast, .bool u0.Remote, i6 u0.Size, .slice ao1 u0.Data.length cap2]) (vs := [i6 u0.ID, .bool u0.Long, .bool u0.Fast, .bool u0.Remote, i6 u0.Size, .slice ao1 u0.Data.length cap2]) (ty := 24) rfl (by kernel_rfl) (by kernel_rfl) (by kernel_rfl) (by kernel_rfl) (by kernel_rfl) hg) ?_; intro bY aL; clear S
 refine gcl aL q (.bool (sameS (rownS u0) u0)) 13 #[.agg #[i6 ((rownS u0).ID), .bool ((rownS u0).Long), .bool ((rownS u0).Fast), .bool ((rownS u0).Remote), i6 ((rownS u0).Size), .slice a ((rownS u0).Data).length f], .agg #[i6 u0.ID, .bool u0.Long, .bool u0.Fast, .bool u0.Remote, i6 u0.Size, .slice ao1 u0.Data.length cap2]] (m := 0) (cj := []) (bj := (fcheckfr u0) != (fcheckfr u0)) rfl rfl (by kernel_rfl) rfl (by kernel_rfl) (by kernel_rfl) (by kernel_rfl) (fun _ => by kernel_rfl) (fun hg => rSame_fun (rownS u0) u0 a f ao1 cap2 _ _ n hs3 q.fz) ?_; intro bZ b0 aM s; clear aL q
 refine gp aM 35 0 [] ((fcheckfr u0) != (fcheckfr u0)) (.bool (!(sameS (rownS u0) u0))) rfl rfl ?_; intro b1 T; clear aM
 refine st T (.bool (((fcheckfr u0) != (fcheckfr u0)) || (!(sameS (rownS u0) u0)))) (nog rfl _) rfl (by kernel_rfl) (pk_or T (g := []) (m := 0) (b := (fcheckfr u0) != (fcheckfr u0)) (v := !(sameS (rownS u0) u0)) rfl (by kernel_rfl) (by kernel_rfl) (by kernel_rfl) rfl) ?_; intro b2 aN; clear T
 refine s1 aN 37 (.bool (((fcheckfr u0) != (fcheckfr u0)) || (!(sameS (rownS u0) u0)))) ?_; intro b3 aO; clear aN
 have U := aO.atom ((((fcheckfr u0) != (fcheckfr u0)) || (!(sameS (rownS u0) u0))) == false) (by kernel_rfl); clear aO
 refine gd U (.agg #[i6 u0.ID, .bool u0.Long, .bool u0.Fast, .bool u0.Remote, i6 u0.Size, .slice ao1 u0.Data.length cap2]) (m := 1) (cj := []) (bj := ((fcheckfr u0) != (fcheckfr u0)) || (!(sameS (rownS u0) u0))) rfl rfl (by kernel_rfl) rfl (by kernel_rfl) (by kernel_rfl) (by kernel_rfl) (fun hg => lda U s 1 (g := [1]) (b := l) (off := 0) (k := 6) (cs := [i6 u0.ID, .bool u0.Long, .bool u0.Fast, .bool u0.Remote, i6 u0.Size, .slice ao1 u0.Data.length cap2]) (vs := [i6 u0.ID, .bool u0.Long, .bool u0.Fast, .bool u0.Remote, i6 u0.Size, .slice ao1 u0.Data.length cap2]) (ty := 24) rfl (by kernel_rfl) (by kernel_rfl) (by kernel_rfl) (by kernel_rfl) (by kernel_rfl) hg) ?_; intro b4 V; clear U
 refine gd V (.agg #[i6 ((rownS u0).ID), .bool ((rownS u0).Long), .bool ((rownS u0).Fast), .bool ((rownS u0).Remote), i6 ((rownS u0).Size), .slice a ((rownS u0).Data).length f]) (m := 1) (cj := []) (bj := ((fcheckfr u0) != (fcheckfr u0)) || (!(sameS (rownS u0) u0))) rfl rfl (by kernel_rfl) rfl (by kernel_rfl) (by kernel_rfl) (by kernel_rfl) (fun hg => lda V s 0 (g := [1]) (b := N) (off := 0) (k := 6) (cs := [i6 ((rownS u0).ID), .bool ((rownS u0).Long), .bool ((rownS u0).Fast), .bool ((rownS u0).Remote), i6 ((rownS u0).Size), .slice a ((rownS u0).Data).length f]) (vs := [i6 ((rownS u0).ID), .bool ((rownS u0).Long), .bool ((rownS u0).Fast), .bool ((rownS u0).Remote), i6 ((rownS u0).Size), .slice a ((rownS u0).Data).length f]) (ty := 24) rfl (by kernel_rfl) (by kernel_rfl) (by kernel_rfl) (by kernel_rfl) (by kernel_rfl) hg) ?_; intro b5 aP; clear V
 refine gcl aP s (.bool (sameS u0 (rownS u0))) 19 #[.agg #[i6 u0.ID, .bool u0.Long, .bool u0.Fast, .bool u0.Remote, i6 u0.Size, .slice ao1 u0.Data.length cap2], .agg #[i6 ((rownS u0).ID), .bool ((rownS u0).Long), .bool ((rownS u0).Fast), .bool ((rownS u0).Remote), i6 ((rownS u0).Size), .slice a ((rownS u0).Data).length f]] (m := 1) (cj := []) (bj := ((fcheckfr u0) != (fcheckfr u0)) || (!(sameS (rownS u0) u0))) rfl rfl (by kernel_rfl) rfl (by kernel_rfl) (by kernel_rfl) (by kernel_rfl) (fun _ => by kernel_rfl) (fun hg => fSame_fun u0 (rownS u0) ao1 cap2 a f _ _ hs3 n s.fz) ?_; intro b7 b8 aQ h; clear aP s
 refine gp aQ 41 1 [] (((fcheckfr u0) != (fcheckfr u0)) || (!(sameS (rownS u0) u0))) (.bool ((sameS u0 (rownS u0)) != true)) rfl rfl ?_; intro b9 W; clear aQ
 refine st W (.bool ((((fcheckfr u0) != (fcheckfr u0)) || (!(sameS (rownS u0) u0))) || ((sameS u0 (rownS u0)) != true))) (nog rfl _) rfl (by kernel_rfl) (pk_or W (g := []) (m := 1) (b := ((fcheckfr u0) != (fcheckfr u0)) || (!(sameS (rownS u0) u0))) (v := (sameS u0 (rownS u0)) != true) rfl (by kernel_rfl) (by kernel_rfl) (by kernel_rfl) rfl) ?_; intro aR u; clear W
 refine nlH (aG _ _ ?_); clear aG be
 refine cd u (t := (((fcheckfr u0) != (fcheckfr u0)) || (!(sameS (rownS u0) u0))) || ((sameS u0 (rownS u0)) != true)) (by kernel_rfl) (fun X => ?_) (fun X => ?_)
 · -- yes
  have bf := C.1 X; clear C
  have aS : Fr 79 [] [] aR := u.region (by kernel_rfl) (by kernel_rfl); clear u
  refine sqB aS h [] [] [(2, .bool false)] ?_; intro ca bg; clear aS
  refine wp_ret ?_
  refine thr ?_
  refine ra1 bg (.bool false) ?_
  exact ⟨false, rfl, bf, h.below⟩
 · -- no
  have G := C.2 X; clear C
  refine wp_skip ?_
  refine thn ?_
  refine wp_seq ?_
  have aT : Fr 79 [] [⟨1, [], pt l 0⟩, ⟨4, [], str ((fNameS (rownS u0)).1)⟩, ⟨5, [], i6 ((fNameS (rownS u0)).2)⟩, ⟨6, [], str ((BitsS (rownS u0)).1)⟩, ⟨7, [], i6 ((BitsS (rownS u0)).2)⟩, ⟨8, [], i6 (fcheckfr u0)⟩] aR := u.region (by kernel_rfl) (by kernel_rfl); clear u
  refine sqB aT h [] [] [(44, .bool ((fcheckfr u0) != 0))] ?_; intro cb x; clear aT
  refine cd x (t := (fcheckfr u0) != 0) (by kernel_rfl) (fun Y => ?_) (fun Y => ?_)
  · -- yes
   have bh := G.1 Y; clear G
   refine sqB x h [] [134, 138] [(2, .bool ((((((fNameS (rownS u0)).2) == (fcheckfr u0)) && (((BitsS (rownS u0)).2) == (fcheckfr u0))) && (((fNameS (rownS u0)).1) == ([] : List UInt8))) && (((BitsS (rownS u0)).1) == ([] : List UInt8))))] ?_; intro cc bi; clear x
   refine wp_ret ?_
   refine thr ?_
   refine ra1 bi (.bool ((((((fNameS (rownS u0)).2) == (fcheckfr u0)) && (((BitsS (rownS u0)).2) == (fcheckfr u0))) && (((fNameS (rownS u0)).1) == ([] : List UInt8))) && (((BitsS (rownS u0)).1) == ([] : List UInt8)))) ?_
   exact ⟨(((((fNameS (rownS u0)).2) == (fcheckfr u0)) && (((BitsS (rownS u0)).2) == (fcheckfr u0))) && (((fNameS (rownS u0)).1) == ([] : List UInt8))) && (((BitsS (rownS u0)).1) == ([] : List UInt8)), rfl, bh, h.below⟩
  · -- no
   have H := G.2 Y; clear G
   refine wp_skip ?_
   refine thn ?_
   refine sqH ?_; intro aa j
   refine bt x h 7 [] [] [(67, .bool ((((fNameS (rownS u0)).2) == 0) && (((BitsS (rownS u0)).2) == 0)))] ?_; intro ce I; clear x
   rcases Bool.eq_false_or_eq_true ((((fNameS (rownS u0)).2) == 0) && (((BitsS (rownS u0)).2) == 0)) with y | y
   · -- true
    have bk := H.1 y; clear H
    have aU := I.reval (d := 67) (c := []) (v := .bool ((((fNameS (rownS u0)).2) == 0) && (((BitsS (rownS u0)).2) == 0))) (by kernel_rfl) (.bool true) (by rw [y]); clear I
    refine bt aU h 2 [1] [68, 69] [(68, str ((fNameS (rownS u0)).1)), (69, .agg #[i6 u0.ID, .bool u0.Long, .bool u0.Fast, .bool u0.Remote, i6 u0.Size, .slice ao1 u0.Data.length cap2])] ?_; intro cf ab; clear aU
    obtain ⟨bl, J⟩ := bk
    refine fcl ab h (str (fnameS u0)) 20 #[.agg #[i6 u0.ID, .bool u0.Long, .bool u0.Fast, .bool u0.Remote, i6 u0.Size, .slice ao1 u0.Data.length cap2]] (by rw [wanted_of ab (b := true) rfl rfl (by kernel_rfl) (by kernel_rfl)]; rfl) rfl (by kernel_rfl) (fun _ => by kernel_rfl) (rname_fun u0 bl ao1 cap2 _ _ hs3 hg5 h.fz) ?_; intro cg ch aV i; clear ab h
    refine bt aV i 3 [] [71, 72, 150] [(73, .bool (((fNameS (rownS u0)).1) == (fnameS u0)))] ?_; intro ci L; clear aV
    rcases Bool.eq_false_or_eq_true (((fNameS (rownS u0)).1) == (fnameS u0)) with z | z
    · -- true
     have bm := J.1 z; clear J
     have aW := L.reval (d := 73) (c := []) (v := .bool (((fNameS (rownS u0)).1) == (fnameS u0))) (by kernel_rfl) (.bool true) (by rw [z]); clear L
     refine bt aW i 2 [1] [74, 75] [(74, str ((BitsS (rownS u0)).1)), (75, .agg #[i6 u0.ID, .bool u0.Long, .bool u0.Fast, .bool u0.Remote, i6 u0.Size, .slice ao1 u0.Data.length cap2])] ?_; intro cl ac; clear aW
     obtain ⟨bn, bo⟩ := bm
     refine fcl ac i (str (rbitsofS u0)) 21 #[.agg #[i6 u0.ID, .bool u0.Long, .bool u0.Fast, .bool u0.Remote, i6 u0.Size, .slice ao1 u0.Data.length cap2]] (by rw [wanted_of ac (b := true) rfl rfl (by kernel_rfl) (by kernel_rfl)]; rfl) rfl (by kernel_rfl) (fun _ => by kernel_rfl) (rbitsof_fun u0 bn ao1 cap2 _ _ hs3 hg5 i.fz) ?_; intro cm cn aX aY; clear ac i
     refine bt aX aY 3 [] [77, 78, 156] [(2, .bool (((BitsS (rownS u0)).1) == (rbitsofS u0)))] ?_; intro co bp; clear aX
     refine nlH (j _ _ ?_); clear j aa
     refine wp_ret ?_
     refine ra1 bp (.bool (((BitsS (rownS u0)).1) == (rbitsofS u0))) ?_
     exact ⟨((BitsS (rownS u0)).1) == (rbitsofS u0), rfl, bo, aY.below⟩
    · -- false
     have bq := J.2 z; clear J
     have aZ := L.reval (d := 73) (c := []) (v := .bool (((fNameS (rownS u0)).1) == (fnameS u0))) (by kernel_rfl) (.bool false) (by rw [z]); clear L
     refine bt aZ i 6 [] [74, 75, 76, 77, 78] [(2, .bool false)] ?_; intro cp br; clear aZ
     refine nlH (j _ _ ?_); clear j aa
     refine wp_ret ?_
     refine ra1 br (.bool false) ?_
     exact ⟨false, rfl, bq, i.below⟩
   · -- false
    have bs := H.2 y; clear H
    have a1 := I.reval (d := 67) (c := []) (v := .bool ((((fNameS (rownS u0)).2) == 0) && (((BitsS (rownS u0)).2) == 0))) (by kernel_rfl) (.bool false) (by rw [y]); clear I
    refine bt a1 h 12 [] [68, 69, 70, 71, 72, 74, 75, 76, 77, 78] [(2, .bool false)] ?_; intro cq bu; clear a1
    refine nlH (j _ _ ?_); clear j aa
    refine wp_ret ?_
    refine ra1 bu (.bool false) ?_
    exact ⟨false, rfl, bs, h.below⟩

end Go.Proofs.YtmbdcehmeiiaoaaGreatDoor
