/- Texts put together (pure ones, or walks made by program). -/
import Derived.Test.YtmnlahbngbigdaaGreatDoorKf0
import Derived.Test.YtmnlahbngbigdaaGreatDoorKf1
import Derived.Test.YtmnlahbngbigdaaGreatDoorKf2
import Derived.Test.YtmnlahbngbigdaaGreatDoorKf3
import Derived.Test.YtmnlahbngbigdaaGreatDoorKf4
set_option linter.unusedVariables false
set_option linter.unusedSimpArgs false
set_option linter.defProp false
set_option maxRecDepth 100000
set_option maxHeartbeats 0
namespace Go.Proofs.YtmnlahbngbigdaaGreatDoor
open Go.Sy Go.RowKit
def rfastend_fun (u0 : List UInt8) (u1 : List UInt8) (u2 : Int) (hpre : rfpre u0 u1 u2)  (Z : Fz) (w : World) (hg5 : SlR t8 Z (sm 5) 64 deBruijn64) (hZ : Z.on w) := f_ (rfastend_walk u0 u1 u2  Z w hg5 hZ (rfastend_ok u0 u1 u2 hpre))
theorem rcheckrow_walk (u0 : List UInt8)  (Z : Fz) (w : World)  (hZ : Z.on w) {K : Int → Prop} (hp : rcheckrow_vc u0 K) : Calls Tryz.prog 6 #[str u0] w fun e w' => ∃ r : Int, e = .returned (i6 r) ∧ K r ∧ Below w.heap.size w w' := by
 refine enter0 Tryz.func6 rfl rfl (by kernel_rfl) ?_; intro E j; have a := Mem.start w Z hZ
 refine sqB j a [] [] [] ?_; intro G k
 refine s_ (sqB k a [] [] [(5, .bool (decide ((u0.length : Int) > 1000)))] ?_); intro H b
 refine cd b (t := decide ((u0.length : Int) > 1000)) (by kernel_rfl) (fun g => ?_) (fun g => ?_)
 · -- yes
  have q := hp.1 g
  refine sqB b a [] [] [(2, i6 2)] ?_; intro I s
  exact r_ (h_ (ra1 s (i6 2) ⟨2, rfl, q, a.below⟩))
 · -- no
  have u := hp.2 g
  refine k_ (s_ (sqH ?_)); intro v l
  refine s1 b 6 (str u0) ?_; intro J m
  obtain ⟨x, y⟩ := u
  refine fc m a (count1_fun u0 ([48] : List UInt8) x _ _ a.fz) ?_; intro L M n h
  refine s1 n 8 (str u0) ?_; intro N o
  obtain ⟨z, f⟩ := y
  refine fc o h (count1_fun u0 ([49] : List UInt8) z _ _ h.fz) ?_; intro O P p c
  refine bt p c 4 [] [] [(13, .bool ((w64 ((count1S u0 ([48] : List UInt8)) + (count1S u0 ([49] : List UInt8)))) != (u0.length : Int)))] ?_; intro Q d
  apply l
  refine cd d (t := (w64 ((count1S u0 ([48] : List UInt8)) + (count1S u0 ([49] : List UInt8)))) != (u0.length : Int)) (by kernel_rfl) (fun i => ?_) (fun i => ?_)
  · -- yes
   have A := f.1 i
   refine sqB d c [] [] [(2, i6 4)] ?_; intro R B
   exact r_ (h_ (ra1 B (i6 4) ⟨4, rfl, A, c.below⟩))
  · -- no
   have C := f.2 i
   refine k_ (sqB d c [] [] [(2, i6 0)] ?_); intro S D
   exact r_ (ra1 D (i6 0) ⟨0, rfl, C, c.below⟩)

theorem nofr_walk (u0 : Frame) (ao1 : Option Addr) (cap2 : Nat) (Z : Fz) (w : World) (hs3 : SlR t8 Z ao1 cap2 u0.Data) (hZ : Z.on w) {K : Bool → Prop} (hp : nofr_vc u0 K) : Calls Tryz.prog 8 #[.agg #[i6 u0.ID, .bool u0.Long, .bool u0.Fast, .bool u0.Remote, i6 u0.Size, .slice ao1 u0.Data.length cap2]] w fun e w' => ∃ r : Bool, e = .returned (.bool r) ∧ K r ∧ Below w.heap.size w w' := by
 refine enter0 Tryz.func8 rfl rfl (by kernel_rfl) ?_; intro p b; have c := Mem.start w Z hZ
 have k := hp (hs3.small)
 refine sqH ?_; intro l d
 refine nw b c pb [i6 u0.ID, .bool u0.Long, .bool u0.Fast, .bool u0.Remote, i6 u0.Size, .slice ao1 u0.Data.length cap2] 24 ?_; intro s t u f a
 refine s1 f 2 (.bool false) ?_; intro v g
 apply d
 refine sqH ?_; intro m h
 refine bt g a 2 [0] [] [(3, .agg #[i6 u0.ID, .bool u0.Long, .bool u0.Fast, .bool u0.Remote, i6 u0.Size, .slice ao1 u0.Data.length cap2]), (4, .agg #[i6 0, .bool false, .bool false, .bool false, i6 0, .slice none 0 0])] ?_; intro x i
 refine fc i a (rSame_fun u0 (⟨0, false, false, false, 0, []⟩ : Frame) ao1 cap2 none 0 _ _ hs3 (SlR.nil _ _) a.fz) ?_; intro y z j n
 refine s1 j 2 (.bool (sameS u0 (⟨0, false, false, false, 0, []⟩ : Frame))) ?_; intro A o
 apply h
 exact r_ (ra1 o (.bool (sameS u0 (⟨0, false, false, false, 0, []⟩ : Frame))) ⟨(sameS u0 (⟨0, false, false, false, 0, []⟩ : Frame)), rfl, k, n.below⟩)

theorem rsizes_walk   (Z : Fz) (w : World)  (hZ : Z.on w) {K : (List Int) → Prop} (hp : rsizes_vc  K) : Calls Tryz.prog 34 #[] w fun e w' => ∃ (r : (List Int)) (ao1001 : Option Addr) (cap1002 : Nat) (Z' : Fz), e = .returned (.slice ao1001 r.length cap1002) ∧ K r ∧ Mem w.heap.size [] w Z [.own t6 3 ao1001 cap1002 r] Z' w' := by
 refine enter0 Tryz.func34 rfl rfl (by kernel_rfl) ?_; intro n d; have c := Mem.start w Z hZ
 refine sqB d c [] [] [] ?_; intro p f
 refine sqH ?_; intro j g
 refine nw f c (fun b => .slice (sm b) 16 16) [i6 0, i6 1, i6 2, i6 3, i6 4, i6 5, i6 6, i6 7, i6 8, i6 12, i6 16, i6 20, i6 24, i6 32, i6 48, i6 64] 3 ?_; intro a q k h i
 refine s1 h 0 (.slice (sm a) 16 16) ?_; intro s l
 apply g
 apply r_
 have m : Mem w.heap.size [] w Z [.own t6 3 (sm a) 16 ([0, 1, 2, 3, 4, 5, 6, 7, 8, 12, 16, 20, 24, 32, 48, 64] : List Int)] Z k := i.rowOwn (T := t6) (xs := ([0, 1, 2, 3, 4, 5, 6, 7, 8, 12, 16, 20, 24, 32, 48, 64] : List Int)) 0 rfl (by decide) (by show 16 ≤ lim; decide) ((RepAll.one (T := t6) (x := 0) rfl).append ((RepAll.one (T := t6) (x := 1) rfl).append ((RepAll.one (T := t6) (x := 2) rfl).append ((RepAll.one (T := t6) (x := 3) rfl).append ((RepAll.one (T := t6) (x := 4) rfl).append ((RepAll.one (T := t6) (x := 5) rfl).append ((RepAll.one (T := t6) (x := 6) rfl).append ((RepAll.one (T := t6) (x := 7) rfl).append ((RepAll.one (T := t6) (x := 8) rfl).append ((RepAll.one (T := t6) (x := 12) rfl).append ((RepAll.one (T := t6) (x := 16) rfl).append ((RepAll.one (T := t6) (x := 20) rfl).append ((RepAll.one (T := t6) (x := 24) rfl).append ((RepAll.one (T := t6) (x := 32) rfl).append ((RepAll.one (T := t6) (x := 48) rfl).append (RepAll.one (T := t6) (x := 64) rfl))))))))))))))))
 exact ra1 l (.slice (sm a) ([0, 1, 2, 3, 4, 5, 6, 7, 8, 12, 16, 20, 24, 32, 48, 64] : List Int).length 16) ⟨([0, 1, 2, 3, 4, 5, 6, 7, 8, 12, 16, 20, 24, 32, 48, 64] : List Int), (sm a), 16, Z, rfl, hp, m.kp⟩
def rsizes_fun   (Z : Fz) (w : World)  (hZ : Z.on w) := fc_ (rsizes_walk   Z w  hZ (rsizes_ok ))
theorem rbb_walk (u0 : List UInt8) (u1 : List UInt8) (u2 : Int) (u3 : Int) (cb1 co2 : Nat) (b4 : Nat) (b5 : Nat) (b6 : Nat) (B : Nat) (w0 : World) (Z0 : Fz) (Rr : List Res) (Z : Fz) (w : World) (hP3 : PtR Z cb1 co2 [str u0]) (hM0 : Mem B [] w0 Z0 ((.row b4 [str u1] 9) :: (.row b5 [i6 u2] 25) :: (.row b6 [i6 u3] 3) :: Rr) Z w) (hZ : Z.on w) {K : ((List UInt8) × (List UInt8) × Int × Int) → Prop} (hp : rbb_vc u0 u1 u2 u3 K) : Calls Tryz.prog 30 #[pt cb1 co2, pt b4 0, pt b5 0, pt b6 0] w fun e w' => ∃ (r : (List UInt8) × (List UInt8) × Int × Int) (Z' : Fz), e = .returned (str r.1) ∧ K r ∧ Fz.le Z Z' ∧ Mem B [] w0 Z0 ((.row b4 [str r.2.1] 9) :: (.row b5 [i6 r.2.2.1] 25) :: (.row b6 [i6 r.2.2.2] 3) :: Rr) Z' w' := by
 refine enter0 Tryz.func30 rfl rfl (by kernel_rfl) ?_; intro a0 x; have h := Fz.le.refl Z
 refine sqB x hM0 [] [] [] ?_; intro a8 y
 refine sqH ?_; intro U z
 refine z1 y hM0 9 hP3 0 (str u0) rfl ?_; intro ar A
 refine bt A hM0 3 [0] [] [(12, i6 (w64 ((u1.length : Int) + 1)))] ?_; intro au C
 obtain ⟨V, i⟩ := hp
 refine fc C hM0 (takebits_fun u0 (w64 ((u1.length : Int) + 1)) V _ _ hM0.fz) ?_; intro av aw D a
 refine bt D a 7 [] [] [(5, str (takebitsS u0 (w64 ((u1.length : Int) + 1))).1), (6, i6 (takebitsS u0 (w64 ((u1.length : Int) + 1))).2.1), (7, i6 (takebitsS u0 (w64 ((u1.length : Int) + 1))).2.2)] ?_; intro ax E
 apply z
 refine s_ (sqB E a [1] [] [(18, .bool (u2 == 0))] ?_); intro ay c
 refine cd c (t := u2 == 0) (by kernel_rfl) (fun o => ?_) (fun o => ?_)
 · -- yes
  have j := i.1 o
  refine rgH ?_; intro W F
  refine s1 c 19 (i6 (takebitsS u0 (w64 ((u1.length : Int) + 1))).2.2) ?_; intro az p
  refine sx p a 1 [i6 (takebitsS u0 (w64 ((u1.length : Int) + 1))).2.2] 0 ?_; intro X G
  have b : Mem B [] w0 Z0 ((.row b4 [str u1] 9) :: (.row b5 [i6 (takebitsS u0 (w64 ((u1.length : Int) + 1))).2.2] 25) :: (.row b6 [i6 u3] 3) :: Rr) Z X := G
  apply F
  refine t_ (s_ (sqB p b [1] [] [(21, .bool ((takebitsS u0 (w64 ((u1.length : Int) + 1))).2.2 != 0))] ?_)); intro aA d
  refine cd d (t := (takebitsS u0 (w64 ((u1.length : Int) + 1))).2.2 != 0) (by kernel_rfl) (fun q => ?_) (fun q => ?_)
  · -- yes
   have Y := j.1 q
   refine sqB d b [] [] [(4, str ([48] : List UInt8))] ?_; intro aB aa
   exact r_ (h_ (ra1 aa (str ([48] : List UInt8)) ⟨(([48] : List UInt8), u1, (takebitsS u0 (w64 ((u1.length : Int) + 1))).2.2, u3), Z, rfl, Y, h, b.kp⟩))
  · -- no
   have ab := j.2 q
   refine k_ (sqH ?_); intro ac H
   refine bt d b 2 [] [] [(22, str (takebitsS u0 (w64 ((u1.length : Int) + 1))).1), (23, i6 (takebitsS u0 (w64 ((u1.length : Int) + 1))).2.1)] ?_; intro aC l
   refine sx l b 0 [str (takebitsS u0 (w64 ((u1.length : Int) + 1))).1] 0 ?_; intro aD I
   refine sx l I 2 [i6 (takebitsS u0 (w64 ((u1.length : Int) + 1))).2.1] 0 ?_; intro ad J
   have L : Mem B [] w0 Z0 ((.row b4 [str (takebitsS u0 (w64 ((u1.length : Int) + 1))).1] 9) :: (.row b5 [i6 (takebitsS u0 (w64 ((u1.length : Int) + 1))).2.2] 25) :: (.row b6 [i6 (takebitsS u0 (w64 ((u1.length : Int) + 1))).2.1] 3) :: Rr) Z ad := J
   apply H
   refine sqH ?_; intro ae M
   refine bt l L 4 [] [] [(24, str (takebitsS u0 (w64 ((u1.length : Int) + 1))).1), (27, i6 (w64 (((takebitsS u0 (w64 ((u1.length : Int) + 1))).1.length : Int) - 1)))] ?_; intro aE s
   obtain ⟨af, ag⟩ := ab
   refine u_ s (str ((takebitsS u0 (w64 ((u1.length : Int) + 1))).1.drop (w64 (((takebitsS u0 (w64 ((u1.length : Int) + 1))).1.length : Int) - 1)).toNat)) (strslL_run s (g := []) (k := .i64) rfl (by kernel_rfl) (by kernel_rfl) (by kernel_rfl) af rfl) ?_; intro aF N
   refine s1 N 4 (str ((takebitsS u0 (w64 ((u1.length : Int) + 1))).1.drop (w64 (((takebitsS u0 (w64 ((u1.length : Int) + 1))).1.length : Int) - 1)).toNat)) ?_; intro aG ah
   apply M
   exact r_ (ra1 ah (str ((takebitsS u0 (w64 ((u1.length : Int) + 1))).1.drop (w64 (((takebitsS u0 (w64 ((u1.length : Int) + 1))).1.length : Int) - 1)).toNat)) ⟨((takebitsS u0 (w64 ((u1.length : Int) + 1))).1.drop (w64 (((takebitsS u0 (w64 ((u1.length : Int) + 1))).1.length : Int) - 1)).toNat, (takebitsS u0 (w64 ((u1.length : Int) + 1))).1, (takebitsS u0 (w64 ((u1.length : Int) + 1))).2.2, (takebitsS u0 (w64 ((u1.length : Int) + 1))).2.1), Z, rfl, ag, h, L.kp⟩)
 · -- no
  have m := i.2 o
  refine k_ (s_ (sqB c a [1] [] [(21, .bool (u2 != 0))] ?_)); intro aH f
  refine cd f (t := u2 != 0) (by kernel_rfl) (fun u => ?_) (fun u => ?_)
  · -- yes
   have ai := m.1 u
   refine sqB f a [] [] [(4, str ([48] : List UInt8))] ?_; intro aI aj
   exact r_ (h_ (ra1 aj (str ([48] : List UInt8)) ⟨(([48] : List UInt8), u1, u2, u3), Z, rfl, ai, h, a.kp⟩))
  · -- no
   have ak := m.2 u
   refine k_ (sqH ?_); intro al O
   refine bt f a 2 [] [] [(22, str (takebitsS u0 (w64 ((u1.length : Int) + 1))).1), (23, i6 (takebitsS u0 (w64 ((u1.length : Int) + 1))).2.1)] ?_; intro aJ n
   refine sx n a 0 [str (takebitsS u0 (w64 ((u1.length : Int) + 1))).1] 0 ?_; intro aK P
   refine sx n P 2 [i6 (takebitsS u0 (w64 ((u1.length : Int) + 1))).2.1] 0 ?_; intro am Q
   have R : Mem B [] w0 Z0 ((.row b4 [str (takebitsS u0 (w64 ((u1.length : Int) + 1))).1] 9) :: (.row b5 [i6 u2] 25) :: (.row b6 [i6 (takebitsS u0 (w64 ((u1.length : Int) + 1))).2.1] 3) :: Rr) Z am := Q
   apply O
   refine sqH ?_; intro an S
   refine bt n R 4 [] [] [(24, str (takebitsS u0 (w64 ((u1.length : Int) + 1))).1), (27, i6 (w64 (((takebitsS u0 (w64 ((u1.length : Int) + 1))).1.length : Int) - 1)))] ?_; intro aL v
   obtain ⟨ao, ap⟩ := ak
   refine u_ v (str ((takebitsS u0 (w64 ((u1.length : Int) + 1))).1.drop (w64 (((takebitsS u0 (w64 ((u1.length : Int) + 1))).1.length : Int) - 1)).toNat)) (strslL_run v (g := []) (k := .i64) rfl (by kernel_rfl) (by kernel_rfl) (by kernel_rfl) ao rfl) ?_; intro aM T
   refine s1 T 4 (str ((takebitsS u0 (w64 ((u1.length : Int) + 1))).1.drop (w64 (((takebitsS u0 (w64 ((u1.length : Int) + 1))).1.length : Int) - 1)).toNat)) ?_; intro aN aq
   apply S
   exact r_ (ra1 aq (str ((takebitsS u0 (w64 ((u1.length : Int) + 1))).1.drop (w64 (((takebitsS u0 (w64 ((u1.length : Int) + 1))).1.length : Int) - 1)).toNat)) ⟨((takebitsS u0 (w64 ((u1.length : Int) + 1))).1.drop (w64 (((takebitsS u0 (w64 ((u1.length : Int) + 1))).1.length : Int) - 1)).toNat, (takebitsS u0 (w64 ((u1.length : Int) + 1))).1, u2, (takebitsS u0 (w64 ((u1.length : Int) + 1))).2.1), Z, rfl, ap, h, R.kp⟩)

theorem rbm_walk (u0 : Bool) (u1 : Int) (u2 : Int) (b1 : Nat) (B : Nat) (w0 : World) (Z0 : Fz) (Rr : List Res) (Z : Fz) (w : World) (hM0 : Mem B [] w0 Z0 ((.row b1 [i6 u2] 25) :: Rr) Z w) (hZ : Z.on w) {K : Int → Prop} (hp : rbm_vc u0 u1 u2 K) : Calls Tryz.prog 33 #[.bool u0, i6 u1, pt b1 0] w fun e w' => ∃ (r : Int) (Z' : Fz), e = .returned (.tuple #[]) ∧ K r ∧ Fz.le Z Z' ∧ Mem B [] w0 Z0 ((.row b1 [i6 r] 25) :: Rr) Z' w' := by
 refine enter0 Tryz.func33 rfl rfl (by kernel_rfl) ?_; intro n d; have f := Fz.le.refl Z
 refine sqB d hM0 [0] [] [(10, .bool ((u2 == 0) && (!u0)))] ?_; intro o a
 refine cd a (t := (u2 == 0) && (!u0)) (by kernel_rfl) (fun b => ?_) (fun b => ?_)
 · -- yes
  have i := hp.1 b
  refine rgH ?_; intro j g
  refine s1 a 11 (i6 u1) ?_; intro p c
  refine sx c hM0 0 [i6 u1] 0 ?_; intro k h
  have l : Mem B [] w0 Z0 ((.row b1 [i6 u1] 25) :: Rr) Z k := h
  apply g
  refine rN (fn := Tryz.f33) (v := .tuple #[]) c (re0 c (fn := Tryz.f33) rfl) ?_
  exact ⟨u1, Z, rfl, i, f, l.kp⟩
 · -- no
  have m := hp.2 b
  refine l_ (rN (fn := Tryz.f33) (v := .tuple #[]) a (re0 a (fn := Tryz.f33) rfl) ?_)
  exact ⟨u2, Z, rfl, m, f, hM0.kp⟩

theorem rbp_walk (u0 : Int) (u1 : Int) (u2 : Int) (u3 : List UInt8) (b1 : Nat) (b2 : Nat) (cb3 co4 : Nat) (B : Nat) (w0 : World) (Z0 : Fz) (Rr : List Res) (Z : Fz) (w : World) (hP5 : PtR Z cb3 co4 [str u3]) (hM0 : Mem B [] w0 Z0 ((.row b1 [i6 u1] 25) :: (.row b2 [i6 u2] 3) :: Rr) Z w) (hZ : Z.on w) {K : ((List UInt8) × Int × Int) → Prop} (hp : rbp_vc u0 u1 u2 u3 K) : Calls Tryz.prog 36 #[i6 u0, pt b1 0, pt b2 0, pt cb3 co4] w fun e w' => ∃ (r : (List UInt8) × Int × Int) (Z' : Fz), e = .returned (str r.1) ∧ K r ∧ Fz.le Z Z' ∧ Mem B [] w0 Z0 ((.row b1 [i6 r.2.1] 25) :: (.row b2 [i6 r.2.2] 3) :: Rr) Z' w' := by
 refine enter0 Tryz.func36 rfl rfl (by kernel_rfl) ?_; intro a0 y; have f := Fz.le.refl Z
 refine sqB y hM0 [] [] [] ?_; intro a7 z
 refine s_ (sqH ?_); intro T A
 refine l1 z hM0 6 0 0 (i6 u1) rfl rfl ?_; intro ai C
 refine s1 C 7 (.bool (u1 == 0)) ?_; intro aj D
 refine s1 D 8 (.bool (u1 == 0)) ?_; intro ak E
 have h := E.atom ((u1 == 0) == true) (by kernel_rfl)
 refine gd h (i6 u2) (m := 0) (cj := []) (bj := u1 == 0) rfl rfl (by kernel_rfl) rfl (by kernel_rfl) (by kernel_rfl) (by kernel_rfl) (fun hg => ld h hM0 1 (g := [0]) (b := b2) (off := 0) (cs := [i6 u2]) (ty := 3) rfl (by kernel_rfl) (by kernel_rfl) (by kernel_rfl) (by kernel_rfl) hg) ?_; intro al F
 refine gp F 10 0 [] (u1 == 0) (i6 u0) rfl rfl ?_; intro am G
 refine gp G 11 0 [] (u1 == 0) (i6 (w64 (u2 + u0))) rfl rfl ?_; intro an i
 refine gd i (str u3) (m := 0) (cj := []) (bj := u1 == 0) rfl rfl (by kernel_rfl) rfl (by kernel_rfl) (by kernel_rfl) (by kernel_rfl) (fun hg => lz i hM0.fz hP5 0 (g := [0]) rfl (by kernel_rfl) (by kernel_rfl) (by kernel_rfl) hg) ?_; intro ao H
 refine gp H 13 0 [] (u1 == 0) (i6 (u3.length : Int)) rfl rfl ?_; intro ap I
 refine gp I 14 0 [] (u1 == 0) (.bool (decide ((w64 (u2 + u0)) > (u3.length : Int)))) rfl rfl ?_; intro aq j
 refine u_ j (.bool ((u1 == 0) && (decide ((w64 (u2 + u0)) > (u3.length : Int))))) (pk_and j (g := []) (m := 0) (b := u1 == 0) (v := decide ((w64 (u2 + u0)) > (u3.length : Int))) rfl (by kernel_rfl) (by kernel_rfl) (by kernel_rfl) rfl) ?_; intro J a
 apply A
 refine cd a (t := (u1 == 0) && (decide ((w64 (u2 + u0)) > (u3.length : Int)))) (by kernel_rfl) (fun l => ?_) (fun l => ?_)
 · -- yes
  have U := hp.1 l
  have n : Fr 27 [] [⟨0, [], i6 u0⟩, ⟨1, [], pt b1 0⟩, ⟨2, [], pt b2 0⟩, ⟨3, [], pt cb3 co4⟩] J := a.reg
  refine rgH ?_; intro V L
  refine sx n hM0 0 [i6 7] 0 ?_; intro W M
  have o : Mem B [] w0 Z0 ((.row b1 [i6 7] 25) :: (.row b2 [i6 u2] 3) :: Rr) Z W := M
  apply L
  refine t_ (s_ (sqB n o [0] [] [(17, .bool true)] ?_)); intro ar p
  refine cdT p (by kernel_rfl) ?_
  refine sqB p o [] [] [(5, str [])] ?_; intro au X
  exact r_ (h_ (ra1 X (str []) ⟨([], 7, u2), Z, rfl, U, f, o.kp⟩))
 · -- no
  have d := hp.2 l
  refine k_ (s_ ?_)
  have N : Fr 27 [] [⟨0, [], i6 u0⟩, ⟨1, [], pt b1 0⟩, ⟨2, [], pt b2 0⟩, ⟨3, [], pt cb3 co4⟩] J := a.reg
  refine sqB N hM0 [0] [] [(17, .bool (u1 != 0))] ?_; intro av c
  refine cd c (t := u1 != 0) (by kernel_rfl) (fun q => ?_) (fun q => ?_)
  · -- yes
   have Y := d.1 q
   refine sqB c hM0 [] [] [(5, str [])] ?_; intro aw aa
   exact r_ (h_ (ra1 aa (str []) ⟨([], u1, u2), Z, rfl, Y, f, hM0.kp⟩))
  · -- no
   have ab := d.2 q
   refine k_ (sqH ?_); intro ac O
   refine bt c hM0 3 [1] [] [(20, i6 (w64 (u2 + u0)))] ?_; intro ax s
   refine sx s hM0 1 [i6 (w64 (u2 + u0))] 0 ?_; intro ad P
   have u : Mem B [] w0 Z0 ((.row b1 [i6 u1] 25) :: (.row b2 [i6 (w64 (u2 + u0))] 3) :: Rr) Z ad := P
   apply O
   refine sqH ?_; intro ae Q
   refine z1 s u 21 hP5 0 (str u3) rfl ?_; intro ay R
   refine bt R u 4 [1, 1] [] [(24, i6 (w64 ((w64 (u2 + u0)) - u0))), (25, i6 (w64 (u2 + u0)))] ?_; intro az x
   obtain ⟨af, ag⟩ := ab
   refine u_ x (str ((u3.take (w64 (u2 + u0)).toNat).drop (w64 ((w64 (u2 + u0)) - u0)).toNat)) (strslI_run x (g := []) (k := .i64) (k' := .i64) rfl (by kernel_rfl) (by kernel_rfl) (by kernel_rfl) (by kernel_rfl) af rfl) ?_; intro aA S
   refine s1 S 5 (str ((u3.take (w64 (u2 + u0)).toNat).drop (w64 ((w64 (u2 + u0)) - u0)).toNat)) ?_; intro aB ah
   apply Q
   exact r_ (ra1 ah (str ((u3.take (w64 (u2 + u0)).toNat).drop (w64 ((w64 (u2 + u0)) - u0)).toNat)) ⟨((u3.take (w64 (u2 + u0)).toNat).drop (w64 ((w64 (u2 + u0)) - u0)).toNat, u1, w64 (u2 + u0)), Z, rfl, ag, f, u.kp⟩)

end Go.Proofs.YtmnlahbngbigdaaGreatDoor
set_option linter.unusedVariables false
set_option linter.unusedSimpArgs false
set_option linter.defProp false
set_option maxRecDepth 100000
set_option maxHeartbeats 0
namespace Go.Proofs.YtmnlahbngbigdaaGreatDoor
open Go.Sy Go.RowKit
def rcheckrow_fun (u0 : List UInt8)  (Z : Fz) (w : World)  (hZ : Z.on w) := f_ (rcheckrow_walk u0  Z w  hZ (rcheckrow_ok u0))
def nofr_fun (u0 : Frame) (ao1 : Option Addr) (cap2 : Nat) (Z : Fz) (w : World) (hs3 : SlR t8 Z ao1 cap2 u0.Data) (hZ : Z.on w) := f_ (nofr_walk u0 ao1 cap2 Z w hs3 hZ (nofr_ok u0))
theorem rbb_fun (u0 : List UInt8) (u1 : List UInt8) (u2 : Int) (u3 : Int) (hpre : rbpre u0 u1) (cb1 co2 : Nat) (b4 : Nat) (b5 : Nat) (b6 : Nat) (B : Nat) (w0 : World) (Z0 : Fz) (Rr : List Res) (Z : Fz) (w : World) (hP3 : PtR Z cb1 co2 [str u0]) (hM0 : Mem B [] w0 Z0 ((.row b4 [str u1] 9) :: (.row b5 [i6 u2] 25) :: (.row b6 [i6 u3] 3) :: Rr) Z w) (hZ : Z.on w) : Calls Tryz.prog 30 #[pt cb1 co2, pt b4 0, pt b5 0, pt b6 0] w fun e w' => ∃ (Z' : Fz), e = .returned (str (rbbS u0 u1 u2 u3).1) ∧ Fz.le Z Z' ∧ Mem B [] w0 Z0 ((.row b4 [str (rbbS u0 u1 u2 u3).2.1] 9) :: (.row b5 [i6 (rbbS u0 u1 u2 u3).2.2.1] 25) :: (.row b6 [i6 (rbbS u0 u1 u2 u3).2.2.2] 3) :: Rr) Z' w' :=
  (rbb_walk u0 u1 u2 u3 cb1 co2 b4 b5 b6 B w0 Z0 Rr Z w hP3 hM0 hZ (rbb_ok u0 u1 u2 u3 hpre)).mono fun _ _ ⟨r, h0, he, hk, f0, hm⟩ => by subst hk; exact ⟨h0, he, f0, hm⟩

theorem rbm_fun (u0 : Bool) (u1 : Int) (u2 : Int) (b1 : Nat) (B : Nat) (w0 : World) (Z0 : Fz) (Rr : List Res) (Z : Fz) (w : World) (hM0 : Mem B [] w0 Z0 ((.row b1 [i6 u2] 25) :: Rr) Z w) (hZ : Z.on w) : Calls Tryz.prog 33 #[.bool u0, i6 u1, pt b1 0] w fun e w' => ∃ (Z' : Fz), e = .returned (.tuple #[]) ∧ Fz.le Z Z' ∧ Mem B [] w0 Z0 ((.row b1 [i6 (rbmS u0 u1 u2)] 25) :: Rr) Z' w' :=
  (rbm_walk u0 u1 u2 b1 B w0 Z0 Rr Z w hM0 hZ (rbm_ok u0 u1 u2)).mono fun _ _ ⟨r, h0, he, hk, f0, hm⟩ => by subst hk; exact ⟨h0, he, f0, hm⟩

theorem rbp_fun (u0 : Int) (u1 : Int) (u2 : Int) (u3 : List UInt8) (hpre : rppre u0 u2 u3) (b1 : Nat) (b2 : Nat) (cb3 co4 : Nat) (B : Nat) (w0 : World) (Z0 : Fz) (Rr : List Res) (Z : Fz) (w : World) (hP5 : PtR Z cb3 co4 [str u3]) (hM0 : Mem B [] w0 Z0 ((.row b1 [i6 u1] 25) :: (.row b2 [i6 u2] 3) :: Rr) Z w) (hZ : Z.on w) : Calls Tryz.prog 36 #[i6 u0, pt b1 0, pt b2 0, pt cb3 co4] w fun e w' => ∃ (Z' : Fz), e = .returned (str (rbpS u0 u1 u2 u3).1) ∧ Fz.le Z Z' ∧ Mem B [] w0 Z0 ((.row b1 [i6 (rbpS u0 u1 u2 u3).2.1] 25) :: (.row b2 [i6 (rbpS u0 u1 u2 u3).2.2] 3) :: Rr) Z' w' :=
  (rbp_walk u0 u1 u2 u3 b1 b2 cb3 co4 B w0 Z0 Rr Z w hP5 hM0 hZ (rbp_ok u0 u1 u2 u3 hpre)).mono fun _ _ ⟨r, h0, he, hk, f0, hm⟩ => by subst hk; exact ⟨h0, he, f0, hm⟩

theorem rbn_walk (u0 : Int) (v0 : List UInt8) (v1 : List UInt8) (v2 : Int) (v3 : Int) (cb1 co2 : Nat) (cb4 co5 : Nat) (b6 : Nat) (b7 : Nat) (b8 : Nat) (B : Nat) (w0 : World) (Z0 : Fz) (Rr : List Res) (Z : Fz) (w : World) (hP3 : PtR Z cb1 co2 [.func (.func 30) #[] #[pt cb4 co5, pt b6 0, pt b7 0, pt b8 0]]) (hP9 : PtR Z cb4 co5 [str v0]) (hM0 : Mem B [] w0 Z0 ((.row b6 [str v1] 9) :: (.row b7 [i6 v2] 25) :: (.row b8 [i6 v3] 3) :: Rr) Z w) (hZ : Z.on w) {K : (Int × (List UInt8) × Int × Int) → Prop} (hp : rbn_vc u0 v0 v1 v2 v3 K) : Calls Tryz.prog 32 #[i6 u0, pt cb1 co2] w fun e w' => ∃ (r : Int × (List UInt8) × Int × Int) (Z' : Fz), e = .returned (i6 r.1) ∧ K r ∧ Fz.le Z Z' ∧ Mem B [] w0 Z0 ((.row b6 [str r.2.1] 9) :: (.row b7 [i6 r.2.2.1] 25) :: (.row b8 [i6 r.2.2.2] 3) :: Rr) Z' w' := by
 refine enter0 Tryz.func32 rfl rfl (by kernel_rfl) ?_; intro a0 y; have d := Fz.le.refl Z
 refine sqB y hM0 [] [] [] ?_; intro ap z
 refine sqB z hM0 [] [] [(4, i6 0)] ?_; intro aq A
 refine s_ (sqB A hM0 [] [] [(5, i6 u0), (6, i6 0)] ?_); intro C D
 apply b_
 have E : Fr 18 [] [⟨1, [], pt cb1 co2⟩, ⟨4, [], i6 0⟩, ⟨5, [], i6 u0⟩, ⟨6, [], i6 0⟩] C := D.reg
 obtain ⟨W, X, Y, aa⟩ := hp
 refine lp (ι := Int × Int × (List UInt8) × Int × Int × Fz) (fun s => [⟨1, [], pt cb1 co2⟩, ⟨4, [], i6 s.1⟩, ⟨5, [], i6 u0⟩, ⟨6, [], i6 s.2.1⟩]) (fun s => ((.row b6 [str s.2.2.1] 9) :: (.row b7 [i6 s.2.2.2.1] 25) :: (.row b8 [i6 s.2.2.2.2.1] 3) :: Rr)) (fun s => s.2.2.2.2.2) (fun s => W s.1 s.2.1 s.2.2.1 s.2.2.2.1 s.2.2.2.2.1 ∧ Fz.le Z s.2.2.2.2.2) (fun s => X s.1 s.2.1 s.2.2.1 s.2.2.2.1 s.2.2.2.2.1) ⟨0, 0, v1, v2, v3, Z⟩ ⟨Y, Fz.le.refl _⟩ (by exact E.region (by kernel_rfl) (by kernel_rfl)) (by exact hM0) ?_
 rintro ⟨a, f, i, j, k, G⟩ ⟨ab, g⟩ ac ad H I
 have l := aa a f i j k ab
 replace d := Fz.le.trans d g
 have n := hP3.mono g
 have o := hP9.mono g
 refine sqB H I [] [] [(7, .bool (decide (f < u0)))] ?_; intro au h
 apply s_
 refine cd h (t := decide (f < u0)) (by kernel_rfl) (fun p => ?_) (fun p => ?_)
 · -- yes
  have ae := l.1 p
  refine k_ (s_ (b_ (rgH ?_))); intro af L
  refine bt h I 2 [] [] [(9, i6 (w64 (2 * a)))] ?_; intro av M
  refine z1 M I 10 n 0 (.func (.func 30) #[] #[pt cb4 co5, pt b6 0, pt b7 0, pt b8 0]) rfl ?_; intro aw N
  obtain ⟨ag, O⟩ := ae
  refine ck N 30 #[pt cb4 co5, pt b6 0, pt b7 0, pt b8 0] ?_
  obtain ⟨c, ah, ai⟩ := hxq O
  have u := rbb_fun v0 i j k ag cb4 co5 b6 b7 b8 _ _ _ _ _ _ o I I.fz; rw [ah] at u; refine u.mono ?_; rintro _ aj ⟨P, rfl, m, hm⟩; refine ⟨_, rfl, ?_⟩; intro ax Q; have R := hm
  replace g := g.mono m
  have v : Mem B [] w0 Z0 ((.row b6 [str c.2.1] 9) :: (.row b7 [i6 c.2.2.1] 25) :: (.row b8 [i6 c.2.2.2] 3) :: Rr) P aj := R
  obtain ⟨ak, al⟩ := ai
  obtain ⟨x, S⟩ : ∃ q, c.1[(0 : Int).toNat]? = some q := ⟨_, List.getElem?_eq_getElem (by omega)⟩; have T := al x S
  refine si Q .i64 ak.1 S ?_; intro ay U
  refine bt U v 4 [] [] [(4, i6 (w64 ((w64 (2 * a)) + (w64 (w8 ((x.toNat : Int) - 48))))))] ?_; intro az V
  apply L
  refine j_ (t_ (rgB V v [] [] [(6, i6 (w64 (f + 1)))] ?_)); intro aA am
  exact d_ ⟨⟨w64 ((w64 (2 * a)) + (w64 (w8 ((x.toNat : Int) - 48)))), w64 (f + 1), c.2.1, c.2.2.1, c.2.2.2, P⟩, ⟨T.1, g⟩, T.2, (am.region (by kernel_rfl) (by kernel_rfl)).anyβ _ (by kernel_rfl), v.kp⟩
 · -- no
  have an := l.2 p
  refine x_ (y_ (y_ (z_ (t_ (sqB h I [] [] [(3, i6 a)] ?_))))); intro aB ao
  exact r_ (ra1 ao (i6 a) ⟨(a, i, j, k), G, rfl, an, d, I.kp⟩)

end Go.Proofs.YtmnlahbngbigdaaGreatDoor
set_option linter.unusedVariables false
set_option linter.unusedSimpArgs false
set_option maxRecDepth 100000
set_option maxHeartbeats 0
namespace Go.Proofs.YtmnlahbngbigdaaGreatDoor
open Go.Sy Go.RowKit
abbrev e24Sc (X : Frame) (A0 : Option Addr) (C0 : Nat) : List Value := [i6 X.ID, .bool X.Long, .bool X.Fast, .bool X.Remote, i6 X.Size, .slice A0 X.Data.length C0]
theorem rbn_fun (u0 : Int) (v0 : List UInt8) (v1 : List UInt8) (v2 : Int) (v3 : Int) (hpre : rnpre u0 v0 v1) (cb1 co2 : Nat) (cb4 co5 : Nat) (b6 : Nat) (b7 : Nat) (b8 : Nat) (B : Nat) (w0 : World) (Z0 : Fz) (Rr : List Res) (Z : Fz) (w : World) (hP3 : PtR Z cb1 co2 [.func (.func 30) #[] #[pt cb4 co5, pt b6 0, pt b7 0, pt b8 0]]) (hP9 : PtR Z cb4 co5 [str v0]) (hM0 : Mem B [] w0 Z0 ((.row b6 [str v1] 9) :: (.row b7 [i6 v2] 25) :: (.row b8 [i6 v3] 3) :: Rr) Z w) (hZ : Z.on w) : Calls Tryz.prog 32 #[i6 u0, pt cb1 co2] w fun e w' => ∃ (Z' : Fz), e = .returned (i6 (rbnS u0 v0 v1 v2 v3).1) ∧ Fz.le Z Z' ∧ Mem B [] w0 Z0 ((.row b6 [str (rbnS u0 v0 v1 v2 v3).2.1] 9) :: (.row b7 [i6 (rbnS u0 v0 v1 v2 v3).2.2.1] 25) :: (.row b8 [i6 (rbnS u0 v0 v1 v2 v3).2.2.2] 3) :: Rr) Z' w' :=
  (rbn_walk u0 v0 v1 v2 v3 cb1 co2 cb4 co5 b6 b7 b8 B w0 Z0 Rr Z w hP3 hP9 hM0 hZ (rbn_ok u0 v0 v1 v2 v3 hpre)).mono fun _ _ ⟨r, h0, he, hk, f0, hm⟩ => by subst hk; exact ⟨h0, he, f0, hm⟩

theorem rreadbits_walk (u0 : List UInt8)  (Z : Fz) (w : World) (hg5 : SlR t8 Z (sm 5) 64 deBruijn64) (hZ : Z.on w) {K : (Frame × Int × Int) → Prop} (hp : rreadbits_vc u0 K) : Calls Tryz.prog 9 #[str u0] w fun e w' => ∃ (r : Frame × Int × Int) (ao1001 : Option Addr) (cap1002 : Nat) (Z' : Fz), e = .returned (.tuple #[.agg #[i6 r.1.ID, .bool r.1.Long, .bool r.1.Fast, .bool r.1.Remote, i6 r.1.Size, .slice ao1001 r.1.Data.length cap1002], i6 r.2.1, i6 r.2.2]) ∧ K r ∧ SlR t8 Z' ao1001 cap1002 r.1.Data ∧ Mem w.heap.size [] w Z [] Z' w' := by
 refine enter0 Tryz.func9 rfl rfl (by kernel_rfl) ?_; intro a0 eg; have eh := Mem.start w Z hZ
 refine sqH ?_; intro jS ei
 refine nw eg eh pb [str u0] 9 ?_; intro p a3 or ej ek
 refine nw ej ek pb [i6 0, .bool false, .bool false, .bool false, i6 0, .slice none 0 0] 24 ?_; intro m a8 os el dd
 refine bt el dd 2 [] [] [] ?_; intro ot em
 apply ei
 refine sqH ?_; intro jT en
 refine nw em dd pb [i6 0, .bool false, .bool false, .bool false, i6 0, .slice none 0 0] 24 ?_; intro j ou ov eo ep
 apply en
 refine sqH ?_; intro jU eq
 refine nw eo ep pb [i6 0] 3 ?_; intro h ow ox de er
 refine sx de er 0 [i6 0] 0 ?_; intro jV es
 have et : Mem w.heap.size [] w Z [.row h [i6 0] 3, .row j [i6 0, .bool false, .bool false, .bool false, i6 0, .slice none 0 0] 24, .row m [i6 0, .bool false, .bool false, .bool false, i6 0, .slice none 0 0] 24, .row p [str u0] 9] Z jV := es
 apply eq
 refine sqH ?_; intro jW eu
 refine nw de et pb [i6 0] 25 ?_; intro a oy oz df ev
 refine sx df ev 0 [i6 0] 0 ?_; intro jX ew
 have ex : Mem w.heap.size [] w Z [.row a [i6 0] 25, .row h [i6 0] 3, .row j [i6 0, .bool false, .bool false, .bool false, i6 0, .slice none 0 0] 24, .row m [i6 0, .bool false, .bool false, .bool false, i6 0, .slice none 0 0] 24, .row p [str u0] 9] Z jX := ew
 apply eu
 refine sqH ?_; intro jY ey
 refine nw df ex pb [str []] 9 ?_; intro i oA oB dg ez
 refine sx dg ez 0 [str []] 0 ?_; intro jZ eA
 have eB : Mem w.heap.size [] w Z [.row i [str []] 9, .row a [i6 0] 25, .row h [i6 0] 3, .row j [i6 0, .bool false, .bool false, .bool false, i6 0, .slice none 0 0] 24, .row m [i6 0, .bool false, .bool false, .bool false, i6 0, .slice none 0 0] 24, .row p [str u0] 9] Z jZ := eA
 apply ey
 refine sqH ?_; intro j0 eC
 refine s1 dg 23 (.func (.func 30) #[] #[pt p 0, pt i 0, pt a 0, pt h 0]) ?_; intro oC eD
 refine nw eD eB pb [.nilFunc] 60 ?_; intro B oD oE dh eE
 refine sx dh eE 0 [.func (.func 30) #[] #[pt p 0, pt i 0, pt a 0, pt h 0]] 0 ?_; intro eF eG
 have b8 : Mem w.heap.size [] w Z [.row B [.func (.func 30) #[] #[pt p 0, pt i 0, pt a 0, pt h 0]] 60, .row i [str []] 9, .row a [i6 0] 25, .row h [i6 0] 3, .row j [i6 0, .bool false, .bool false, .bool false, i6 0, .slice none 0 0] 24, .row m [i6 0, .bool false, .bool false, .bool false, i6 0, .slice none 0 0] 24, .row p [str u0] 9] Z eF := eG
 apply eC
 refine sqB dh b8 [] [] [(10, .func (.func 32) #[] #[pt B 0])] ?_; intro oF eH
 refine sqB eH b8 [] [] [(11, .func (.func 33) #[] #[pt a 0])] ?_; intro oG eI
 refine sqH ?_; intro j1 eJ
 refine bt eI b8 2 [0] [] [(26, .func (.func 33) #[] #[pt a 0]), (27, .func (.func 30) #[] #[pt p 0, pt i 0, pt a 0, pt h 0])] ?_; intro oH eK
 obtain ⟨j2, eM, eN, M⟩ := b8.freezeRow 6 rfl
 replace hg5 := hg5.mono eM
 have di : Mem w.heap.size [] w Z [.row B [.func (.func 30) #[] #[pt p 0, pt i 0, pt a 0, pt h 0]] 60, .row i [str []] 9, .row a [i6 0] 25, .row h [i6 0] 3, .row j [i6 0, .bool false, .bool false, .bool false, i6 0, .slice none 0 0] 24, .row m [i6 0, .bool false, .bool false, .bool false, i6 0, .slice none 0 0] 24] j2 eF := eN
 obtain ⟨j3, eO⟩ := hp
 refine ck eK 30 #[pt p 0, pt i 0, pt a 0, pt h 0] ?_
 obtain ⟨ae, j4, eP⟩ := hxq eO
 have l := rbb_fun u0 [] 0 0 j3 p 0 i a h _ _ _ _ _ _ M (di.perm ((pk 1 rfl).trans (((pk 1 rfl).trans (((pk 1 rfl).trans (lpr.cons _)).cons _)).cons _))) di.fz; rw [j4] at l; refine l.mono ?_; rintro _ j5 ⟨j6, rfl, dj, hm⟩; refine ⟨_, rfl, ?_⟩; intro oI eQ; have eR := hm
 replace hg5 := hg5.mono dj
 replace M := M.mono dj
 have dk : Mem w.heap.size [] w Z [.row i [str ae.2.1] 9, .row a [i6 ae.2.2.1] 25, .row h [i6 ae.2.2.2] 3, .row B [.func (.func 30) #[] #[pt p 0, pt i 0, pt a 0, pt h 0]] 60, .row j [i6 0, .bool false, .bool false, .bool false, i6 0, .slice none 0 0] 24, .row m [i6 0, .bool false, .bool false, .bool false, i6 0, .slice none 0 0] 24] j6 j5 := eR
 refine sc eQ .eql (.bool (ae.1 == ([48] : List UInt8))) ?_; intro oJ eT
 refine ck eT 33 #[.bool (ae.1 == ([48] : List UInt8)), i6 4, pt a 0] ?_
 obtain ⟨dl, j7, j8⟩ := hxq eP
 have l := rbm_fun (ae.1 == ([48] : List UInt8)) 4 ae.2.2.1 a _ _ _ _ _ _ (dk.perm (pk 1 rfl)) dk.fz; rw [j7] at l; refine l.mono ?_; rintro _ eU ⟨j9, rfl, dm, hm⟩; refine ⟨_, rfl, ?_⟩; intro oK eV; have eW := hm
 replace hg5 := hg5.mono dm
 replace M := M.mono dm
 have ka : Mem w.heap.size [] w Z [.row a [i6 dl] 25, .row i [str ae.2.1] 9, .row h [i6 ae.2.2.2] 3, .row B [.func (.func 30) #[] #[pt p 0, pt i 0, pt a 0, pt h 0]] 60, .row j [i6 0, .bool false, .bool false, .bool false, i6 0, .slice none 0 0] 24, .row m [i6 0, .bool false, .bool false, .bool false, i6 0, .slice none 0 0] 24] j9 eU := eW
 apply eJ
 refine sqH ?_; intro kb eX
 refine s1 eV 31 (.func (.func 32) #[] #[pt B 0]) ?_; intro oL eY
 obtain ⟨kc, dn, eZ, R⟩ := ka.freezeRow 3 rfl
 replace hg5 := hg5.mono dn
 replace M := M.mono dn
 have dp : Mem w.heap.size [] w Z [.row a [i6 dl] 25, .row i [str ae.2.1] 9, .row h [i6 ae.2.2.2] 3, .row j [i6 0, .bool false, .bool false, .bool false, i6 0, .slice none 0 0] 24, .row m [i6 0, .bool false, .bool false, .bool false, i6 0, .slice none 0 0] 24] kc eU := eZ
 obtain ⟨kd, e0⟩ := j8
 refine ck eY 32 #[i6 11, pt B 0] ?_
 obtain ⟨F, ke, kf⟩ := hxq e0
 have l := rbn_fun 11 u0 ae.2.1 dl ae.2.2.2 kd B 0 p 0 i a h _ _ _ _ _ _ R M (dp.perm ((pk 1 rfl).trans (lpr.cons _))) dp.fz; rw [ke] at l; refine l.mono ?_; rintro _ kg ⟨e1, rfl, b9, hm⟩; refine ⟨_, rfl, ?_⟩; intro oM e2; have e3 := hm
 replace hg5 := hg5.mono b9
 replace M := M.mono b9
 replace R := R.mono b9
 have e4 : Mem w.heap.size [] w Z [.row i [str F.2.1] 9, .row a [i6 F.2.2.1] 25, .row h [i6 F.2.2.2] 3, .row j [i6 0, .bool false, .bool false, .bool false, i6 0, .slice none 0 0] 24, .row m [i6 0, .bool false, .bool false, .bool false, i6 0, .slice none 0 0] 24] e1 kg := e3
 refine s1 e2 33 (pt j 0) ?_; intro oN dq
 refine sx dq e4 3 [i6 F.1, .bool false, .bool false, .bool false, i6 0, .slice none 0 0] 0 ?_; intro kh e5
 have ca : Mem w.heap.size [] w Z [.row i [str F.2.1] 9, .row a [i6 F.2.2.1] 25, .row h [i6 F.2.2.2] 3, .row j [i6 F.1, .bool false, .bool false, .bool false, i6 0, .slice none 0 0] 24, .row m [i6 0, .bool false, .bool false, .bool false, i6 0, .slice none 0 0] 24] e1 kh := e5
 apply eX
 refine sqH ?_; intro ki e6
 refine z1 dq ca 34 R 0 (.func (.func 30) #[] #[pt p 0, pt i 0, pt a 0, pt h 0]) rfl ?_; intro oO e7
 obtain ⟨kj, e8⟩ := kf
 refine ck e7 30 #[pt p 0, pt i 0, pt a 0, pt h 0] ?_
 obtain ⟨N, kk, kl⟩ := hxq e8
 have l := rbb_fun u0 F.2.1 F.2.2.1 F.2.2.2 kj p 0 i a h _ _ _ _ _ _ M ca ca.fz; rw [kk] at l; refine l.mono ?_; rintro _ km ⟨e9, rfl, cb, hm⟩; refine ⟨_, rfl, ?_⟩; intro oP fa; have fb := hm
 replace hg5 := hg5.mono cb
 replace M := M.mono cb
 replace R := R.mono cb
 have dr : Mem w.heap.size [] w Z [.row i [str N.2.1] 9, .row a [i6 N.2.2.1] 25, .row h [i6 N.2.2.2] 3, .row j [i6 F.1, .bool false, .bool false, .bool false, i6 0, .slice none 0 0] 24, .row m [i6 0, .bool false, .bool false, .bool false, i6 0, .slice none 0 0] 24] e9 km := fb
 refine bt fa dr 2 [] [248] [(36, .bool (N.1 == ([49] : List UInt8))), (37, pt j 3)] ?_; intro oQ ds
 refine sx ds dr 3 [i6 F.1, .bool false, .bool false, .bool (N.1 == ([49] : List UInt8)), i6 0, .slice none 0 0] 3 ?_; intro kn fd
 have cc : Mem w.heap.size [] w Z [.row i [str N.2.1] 9, .row a [i6 N.2.2.1] 25, .row h [i6 N.2.2.2] 3, .row j [i6 F.1, .bool false, .bool false, .bool (N.1 == ([49] : List UInt8)), i6 0, .slice none 0 0] 24, .row m [i6 0, .bool false, .bool false, .bool false, i6 0, .slice none 0 0] 24] e9 kn := fd
 apply e6
 refine s_ (sqH ?_); intro ko fe
 refine z1 ds cc 38 R 0 (.func (.func 30) #[] #[pt p 0, pt i 0, pt a 0, pt h 0]) rfl ?_; intro oR ff
 obtain ⟨kp, fg⟩ := kl
 refine ck ff 30 #[pt p 0, pt i 0, pt a 0, pt h 0] ?_
 obtain ⟨z, kq, kr⟩ := hxq fg
 have l := rbb_fun u0 N.2.1 N.2.2.1 N.2.2.2 kp p 0 i a h _ _ _ _ _ _ M cc cc.fz; rw [kq] at l; refine l.mono ?_; rintro _ ks ⟨bv, rfl, ce, hm⟩; refine ⟨_, rfl, ?_⟩; intro oS fh; have fi := hm
 replace hg5 := hg5.mono ce
 replace M := M.mono ce
 replace R := R.mono ce
 have dt : Mem w.heap.size [] w Z [.row i [str z.2.1] 9, .row a [i6 z.2.2.1] 25, .row h [i6 z.2.2.2] 3, .row j [i6 F.1, .bool false, .bool false, .bool (N.1 == ([49] : List UInt8)), i6 0, .slice none 0 0] 24, .row m [i6 0, .bool false, .bool false, .bool false, i6 0, .slice none 0 0] 24] bv ks := fi
 refine bt fh dt 2 [] [252] [(40, .bool (z.1 == ([49] : List UInt8))), (41, pt j 1)] ?_; intro oT du
 refine sx du dt 3 [i6 F.1, .bool (z.1 == ([49] : List UInt8)), .bool false, .bool (N.1 == ([49] : List UInt8)), i6 0, .slice none 0 0] 1 ?_; intro kt fj
 have aY : Mem w.heap.size [] w Z [.row i [str z.2.1] 9, .row a [i6 z.2.2.1] 25, .row h [i6 z.2.2.2] 3, .row j [i6 F.1, .bool (z.1 == ([49] : List UInt8)), .bool false, .bool (N.1 == ([49] : List UInt8)), i6 0, .slice none 0 0] 24, .row m [i6 0, .bool false, .bool false, .bool false, i6 0, .slice none 0 0] 24] bv kt := fj
 apply fe
 refine sqB du aY [3] [] [(43, .bool (z.1 == ([49] : List UInt8)))] ?_; intro fk fl
 have fm : Fr 212 [] [⟨1, [], pt p 0⟩, ⟨2, [], pt m 0⟩, ⟨5, [], pt j 0⟩, ⟨6, [], pt h 0⟩, ⟨7, [], pt a 0⟩, ⟨8, [], pt i 0⟩, ⟨9, [], pt B 0⟩, ⟨10, [], .func (.func 32) #[] #[pt B 0]⟩, ⟨11, [], .func (.func 33) #[] #[pt a 0]⟩, ⟨43, [], .bool (z.1 == ([49] : List UInt8))⟩] fk := fl.reg
 obtain ⟨ku, cf, kv⟩ := kr
 refine wp_then_k fun KJ188 hKJ189 => ?_
 have fo : ∀ (bx : List UInt8) (bz : Int) (bA : Int) (n : Frame) (dv : Fz), ku bx bz bA n ∧ Fz.le bv dv → ∀ a1 w1, Fr 212 [] [⟨1, [], pt p 0⟩, ⟨2, [], pt m 0⟩, ⟨5, [], pt j 0⟩, ⟨6, [], pt h 0⟩, ⟨7, [], pt a 0⟩, ⟨8, [], pt i 0⟩, ⟨9, [], pt B 0⟩, ⟨10, [], .func (.func 32) #[] #[pt B 0]⟩, ⟨11, [], .func (.func 33) #[] #[pt a 0]⟩] a1 → Mem w.heap.size [] w Z [.row i [str bx] 9, .row a [i6 bz] 25, .row h [i6 bA] 3, .row j [i6 n.ID, .bool n.Long, .bool n.Fast, .bool n.Remote, i6 n.Size, .slice none 0 0] 24, .row m [i6 0, .bool false, .bool false, .bool false, i6 0, .slice none 0 0] 24] dv w1 → KJ188 a1 w1 := by
  rintro bx bz bA n dv ⟨kw, O⟩ oU oV fp cg
  refine hKJ189 _ _ ?_
  have kx := kv bx bz bA n kw
  have P := hg5.mono O
  have G := M.mono O
  have H := R.mono O
  refine s_ (sqH ?_); intro ky fq
  refine z1 fp cg 59 H 0 (.func (.func 30) #[] #[pt p 0, pt i 0, pt a 0, pt h 0]) rfl ?_; intro oW fr
  obtain ⟨kz, fs⟩ := kx
  refine ck fr 30 #[pt p 0, pt i 0, pt a 0, pt h 0] ?_
  obtain ⟨D, kA, kB⟩ := hxq fs
  have l := rbb_fun u0 bx bz bA kz p 0 i a h _ _ _ _ _ _ G cg cg.fz; rw [kA] at l; refine l.mono ?_; rintro _ kC ⟨bB, rfl, bC, hm⟩; refine ⟨_, rfl, ?_⟩; intro oX ft; have fu := hm
  replace P := P.mono bC
  replace G := G.mono bC
  replace H := H.mono bC
  have dw : Mem w.heap.size [] w Z [.row i [str D.2.1] 9, .row a [i6 D.2.2.1] 25, .row h [i6 D.2.2.2] 3, .row j [i6 n.ID, .bool n.Long, .bool n.Fast, .bool n.Remote, i6 n.Size, .slice none 0 0] 24, .row m [i6 0, .bool false, .bool false, .bool false, i6 0, .slice none 0 0] 24] bB kC := fu
  refine bt ft dw 2 [] [273] [(61, .bool (D.1 == ([49] : List UInt8))), (62, pt j 2)] ?_; intro oY dx
  refine sx dx dw 3 [i6 n.ID, .bool n.Long, .bool (D.1 == ([49] : List UInt8)), .bool n.Remote, i6 n.Size, .slice none 0 0] 2 ?_; intro kD fv
  have ah : Mem w.heap.size [] w Z [.row i [str D.2.1] 9, .row a [i6 D.2.2.1] 25, .row h [i6 D.2.2.2] 3, .row j [i6 n.ID, .bool n.Long, .bool (D.1 == ([49] : List UInt8)), .bool n.Remote, i6 n.Size, .slice none 0 0] 24, .row m [i6 0, .bool false, .bool false, .bool false, i6 0, .slice none 0 0] 24] bB kD := fv
  apply fq
  refine sqB dx ah [3] [] [(64, .bool (D.1 == ([49] : List UInt8)))] ?_; intro fw fx
  have fy : Fr 212 [] [⟨1, [], pt p 0⟩, ⟨2, [], pt m 0⟩, ⟨5, [], pt j 0⟩, ⟨6, [], pt h 0⟩, ⟨7, [], pt a 0⟩, ⟨8, [], pt i 0⟩, ⟨9, [], pt B 0⟩, ⟨10, [], .func (.func 32) #[] #[pt B 0]⟩, ⟨11, [], .func (.func 33) #[] #[pt a 0]⟩, ⟨64, [], .bool (D.1 == ([49] : List UInt8))⟩] fw := fx.reg
  obtain ⟨kE, ch, kF⟩ := kB
  refine wp_then_k fun KJ233 hKJ234 => ?_
  have dy : ∀ (bD : List UInt8) (bE : Int) (bF : Int) (dz : Fz), kE bD bE bF ∧ Fz.le bB dz → ∀ a1 w1, Fr 212 [] [⟨1, [], pt p 0⟩, ⟨2, [], pt m 0⟩, ⟨5, [], pt j 0⟩, ⟨6, [], pt h 0⟩, ⟨7, [], pt a 0⟩, ⟨8, [], pt i 0⟩, ⟨9, [], pt B 0⟩, ⟨10, [], .func (.func 32) #[] #[pt B 0]⟩, ⟨11, [], .func (.func 33) #[] #[pt a 0]⟩] a1 → Mem w.heap.size [] w Z [.row i [str bD] 9, .row a [i6 bE] 25, .row h [i6 bF] 3, .row j [i6 n.ID, .bool n.Long, .bool (D.1 == ([49] : List UInt8)), .bool n.Remote, i6 n.Size, .slice none 0 0] 24, .row m [i6 0, .bool false, .bool false, .bool false, i6 0, .slice none 0 0] 24] dz w1 → KJ233 a1 w1 := by
   rintro bD bE bF dz ⟨kG, aj⟩ oZ o0 fA dA
   refine hKJ234 _ _ ?_
   have kH := kF bD bE bF kG
   have ba := P.mono aj
   have aZ := G.mono aj
   have a2 := H.mono aj
   refine sqH ?_; intro kI fB
   refine s1 fA 92 (.func (.func 32) #[] #[pt B 0]) ?_; intro o1 fC
   obtain ⟨kJ, fD⟩ := kH
   refine ck fC 32 #[i6 4, pt B 0] ?_
   obtain ⟨E, kK, fE⟩ := hxq fD
   have l := rbn_fun 4 u0 bD bE bF kJ B 0 p 0 i a h _ _ _ _ _ _ a2 aZ dA dA.fz; rw [kK] at l; refine l.mono ?_; rintro _ kL ⟨kM, rfl, bc, hm⟩; refine ⟨_, rfl, ?_⟩; intro o2 fF; have fG := hm
   replace ba := ba.mono bc
   replace aZ := aZ.mono bc
   replace a2 := a2.mono bc
   have ci : Mem w.heap.size [] w Z [.row i [str E.2.1] 9, .row a [i6 E.2.2.1] 25, .row h [i6 E.2.2.2] 3, .row j [i6 n.ID, .bool n.Long, .bool (D.1 == ([49] : List UInt8)), .bool n.Remote, i6 n.Size, .slice none 0 0] 24, .row m [i6 0, .bool false, .bool false, .bool false, i6 0, .slice none 0 0] 24] kM kL := fG
   refine s1 fF 12 (i6 E.1) ?_; intro o3 fH
   apply fB
   refine sqH ?_; intro kN fI
   refine bt fH ci 7 [3] [] [(94, .func (.func 33) #[] #[pt a 0]), (100, .bool ((D.1 == ([49] : List UInt8)) || (decide (E.1 ≤ 8))))] ?_; intro o4 fJ
   refine ck fJ 33 #[.bool ((D.1 == ([49] : List UInt8)) || (decide (E.1 ≤ 8))), i6 4, pt a 0] ?_
   obtain ⟨bG, kO, kP⟩ := hxq fE
   have l := rbm_fun ((D.1 == ([49] : List UInt8)) || (decide (E.1 ≤ 8))) 4 E.2.2.1 a _ _ _ _ _ _ (ci.perm (pk 1 rfl)) ci.fz; rw [kO] at l; refine l.mono ?_; rintro _ fK ⟨aL, rfl, bd, hm⟩; refine ⟨_, rfl, ?_⟩; intro o5 fL; have fM := hm
   replace ba := ba.mono bd
   replace aZ := aZ.mono bd
   replace a2 := a2.mono bd
   have aM : Mem w.heap.size [] w Z [.row a [i6 bG] 25, .row i [str E.2.1] 9, .row h [i6 E.2.2.2] 3, .row j [i6 n.ID, .bool n.Long, .bool (D.1 == ([49] : List UInt8)), .bool n.Remote, i6 n.Size, .slice none 0 0] 24, .row m [i6 0, .bool false, .bool false, .bool false, i6 0, .slice none 0 0] 24] aL fK := fM
   apply fI
   refine s_ (sqB fL aM [3] [] [(103, .bool n.Remote)] ?_); intro fN fO
   have fP : Fr 212 [] [⟨1, [], pt p 0⟩, ⟨2, [], pt m 0⟩, ⟨5, [], pt j 0⟩, ⟨6, [], pt h 0⟩, ⟨7, [], pt a 0⟩, ⟨8, [], pt i 0⟩, ⟨9, [], pt B 0⟩, ⟨10, [], .func (.func 32) #[] #[pt B 0]⟩, ⟨11, [], .func (.func 33) #[] #[pt a 0]⟩, ⟨12, [], i6 E.1⟩, ⟨103, [], .bool n.Remote⟩] fN := fO.reg
   obtain ⟨kQ, cj, kR⟩ := kP
   refine wp_then_k fun KJ301 hKJ302 => ?_
   have dB : ∀ (aw : Int) (W : List UInt8) (bf : Int) (f : Frame) (I : Option Addr) (J : Nat) (aG : Fz), kQ aw W bf f ∧ SlR t8 aG I J f.Data ∧ Fz.le aL aG → ∀ a1 w1, Fr 212 [] [⟨1, [], pt p 0⟩, ⟨2, [], pt m 0⟩, ⟨5, [], pt j 0⟩, ⟨6, [], pt h 0⟩, ⟨7, [], pt a 0⟩, ⟨8, [], pt i 0⟩, ⟨9, [], pt B 0⟩, ⟨11, [], .func (.func 33) #[] #[pt a 0]⟩] a1 → Mem w.heap.size [] w Z [.row a [i6 aw] 25, .row i [str W] 9, .row h [i6 bf] 3, .row j (e24Sc f I J) 24, .row m [i6 0, .bool false, .bool false, .bool false, i6 0, .slice none 0 0] 24] aG w1 → KJ301 a1 w1 := by
    rintro aw W bf f I J aG ⟨kS, fQ, aN⟩ o6 o7 fR a4
    refine hKJ302 _ _ ?_
    have kT := kR aw W bf f kS
    have dC := ba.mono aN
    have fS := aZ.mono aN
    have fT := a2.mono aN
    refine s_ (sqB fR a4 [0, 3] [] [(132, .bool ((aw == 0) && (!f.Fast)))] ?_); intro fW fX
    have fY : Fr 212 [] [⟨1, [], pt p 0⟩, ⟨2, [], pt m 0⟩, ⟨5, [], pt j 0⟩, ⟨6, [], pt h 0⟩, ⟨7, [], pt a 0⟩, ⟨8, [], pt i 0⟩, ⟨9, [], pt B 0⟩, ⟨11, [], .func (.func 33) #[] #[pt a 0]⟩, ⟨132, [], .bool ((aw == 0) && (!f.Fast))⟩] fW := fX.reg
    obtain ⟨kU, cm, kV⟩ := kT
    refine wp_then_k fun KJ336 hKJ337 => ?_
    have fZ : ∀ (C : Int) (A : List UInt8) (y : Int) (bg : Fz), kU C A y ∧ Fz.le aG bg → ∀ a1 w1, Fr 212 [] [⟨1, [], pt p 0⟩, ⟨2, [], pt m 0⟩, ⟨5, [], pt j 0⟩, ⟨6, [], pt h 0⟩, ⟨7, [], pt a 0⟩, ⟨8, [], pt i 0⟩, ⟨11, [], .func (.func 33) #[] #[pt a 0]⟩] a1 → Mem w.heap.size [] w Z [.row a [i6 C] 25, .row i [str A] 9, .row h [i6 y] 3, .row j (e24Sc f I J) 24, .row m [i6 0, .bool false, .bool false, .bool false, i6 0, .slice none 0 0] 24] bg w1 → KJ336 a1 w1 := by
     rintro C A y bg ⟨kW, ai⟩ o8 o9 f0 ax
     refine hKJ337 _ _ ?_
     have kX := kV C A y kW
     have bI := dC.mono ai
     have bh := fS.mono ai
     have cq := fQ.mono ai
     refine sqB f0 ax [] [] [(16, .func (.func 36) #[] #[pt a 0, pt h 0, pt p 0])] ?_; intro pa f1
     refine s_ (sqB f1 ax [0, 3] [] [(153, .bool ((C == 0) && f.Fast))] ?_); intro f2 f3
     have f4 : Fr 212 [] [⟨1, [], pt p 0⟩, ⟨2, [], pt m 0⟩, ⟨5, [], pt j 0⟩, ⟨6, [], pt h 0⟩, ⟨7, [], pt a 0⟩, ⟨8, [], pt i 0⟩, ⟨11, [], .func (.func 33) #[] #[pt a 0]⟩, ⟨16, [], .func (.func 36) #[] #[pt a 0, pt h 0, pt p 0]⟩, ⟨153, [], .bool ((C == 0) && f.Fast)⟩] f2 := f3.reg
     obtain ⟨kY, cs, kZ⟩ := kX
     refine wp_then_k fun KJ376 hKJ377 => ?_
     have f5 : ∀ (ay : Int) (ak : Int) (dD : Fz), kY ay ak ∧ Fz.le bg dD → ∀ a1 w1, Fr 212 [] [⟨2, [], pt m 0⟩, ⟨5, [], pt j 0⟩, ⟨6, [], pt h 0⟩, ⟨7, [], pt a 0⟩, ⟨11, [], .func (.func 33) #[] #[pt a 0]⟩, ⟨16, [], .func (.func 36) #[] #[pt a 0, pt h 0, pt p 0]⟩] a1 → Mem w.heap.size [] w Z [.row a [i6 ay] 25, .row i [str A] 9, .row h [i6 ak] 3, .row j (e24Sc f I J) 24, .row m [i6 0, .bool false, .bool false, .bool false, i6 0, .slice none 0 0] 24] dD w1 → KJ376 a1 w1 := by
      rintro ay ak dD ⟨k0, af⟩ pc pd f6 dE
      refine hKJ377 _ _ ?_
      have k1 := kZ ay ak k0
      have bK := bh.mono af
      have bL := cq.mono af
      refine sqH ?_; intro k2 f7
      refine s1 f6 196 (.func (.func 36) #[] #[pt a 0, pt h 0, pt p 0]) ?_; intro pe f8
      obtain ⟨k3, ga⟩ := k1
      refine ck f8 36 #[i6 10, pt a 0, pt h 0, pt p 0] ?_
      obtain ⟨S, k4, gb⟩ := hxq ga
      have l := rbp_fun 10 ay ak u0 k3 a h p 0 _ _ _ _ _ _ bK (dE.perm (((pk 1 rfl).trans (lpr.cons _)).cons _)) dE.fz; rw [k4] at l; refine l.mono ?_; rintro _ k5 ⟨k6, rfl, az, hm⟩; refine ⟨_, rfl, ?_⟩; intro pf gc; have gd := hm
      replace bL := bL.mono az
      have cz : Mem w.heap.size [] w Z [.row a [i6 S.2.1] 25, .row h [i6 S.2.2] 3, .row i [str A] 9, .row j (e24Sc f I J) 24, .row m [i6 0, .bool false, .bool false, .bool false, i6 0, .slice none 0 0] 24] k6 k5 := gd
      refine s1 gc 22 (str S.1) ?_; intro pg ge
      apply f7
      refine sqH ?_; intro k7 gf
      refine bt ge cz 7 [] [412, 415] [(198, .func (.func 33) #[] #[pt a 0]), (204, .bool ((S.1 == ([49, 49, 49, 49, 49, 49, 49, 49, 49, 49] : List UInt8)) || (S.1 == ([49, 48, 49, 49, 49, 49, 49, 49, 49, 49] : List UInt8))))] ?_; intro ph gg
      refine ck gg 33 #[.bool ((S.1 == ([49, 49, 49, 49, 49, 49, 49, 49, 49, 49] : List UInt8)) || (S.1 == ([49, 48, 49, 49, 49, 49, 49, 49, 49, 49] : List UInt8))), i6 4, pt a 0] ?_
      obtain ⟨aA, k8, cA⟩ := hxq gb
      have l := rbm_fun ((S.1 == ([49, 49, 49, 49, 49, 49, 49, 49, 49, 49] : List UInt8)) || (S.1 == ([49, 48, 49, 49, 49, 49, 49, 49, 49, 49] : List UInt8))) 4 S.2.1 a _ _ _ _ _ _ cz cz.fz; rw [k8] at l; refine l.mono ?_; rintro _ k9 ⟨a5, rfl, aB, hm⟩; refine ⟨_, rfl, ?_⟩; intro pi gh; have gi := hm
      replace bL := bL.mono aB
      have bM : Mem w.heap.size [] w Z [.row a [i6 aA] 25, .row h [i6 S.2.2] 3, .row i [str A] 9, .row j (e24Sc f I J) 24, .row m [i6 0, .bool false, .bool false, .bool false, i6 0, .slice none 0 0] 24] a5 k9 := gi
      apply gf
      refine s_ (sqB gh bM [0] [] [(207, .bool (aA != 0))] ?_); intro gj bN
      refine c_ bN cA (fun _ la => ?_) fun _ lg => ?_
      ·
       have gk : Fr 212 [] [⟨2, [], pt m 0⟩, ⟨7, [], pt a 0⟩] gj := bN.reg
       refine wp_seq (rgS mixed bM [(0, true), (1, true), (2, false), (3, true), (4, true)] [] [0] [.row a [i6 aA] 25] ?_)
       intro lb gl pj gm
       have lc := Fz.le.refl a5
       refine cS gk 2 [0] [] [(208, .agg #[i6 0, .bool false, .bool false, .bool false, i6 0, .slice none 0 0]), (209, i6 aA)] ?_; intro pl dG
       refine eS rfl ?_; intro ld gn
       refine sx dG gm 4 [i6 0, .bool false, .bool false, .bool false, i6 0, .slice none 0 0] 0 ?_; intro lf go
       have dH : Mem w.heap.size [] w Z [.row a [i6 aA] 25, .row h [i6 S.2.2] 3, .row i [str A] 9, .row j (e24Sc f I J) 24, .row m [i6 0, .bool false, .bool false, .bool false, i6 0, .slice none 0 0] 24] a5 lf := go
       refine nl (qnI (gn _ _ (dH.cst lc [0]) ?_))
       refine cS dG 2 [] [] [(3, i6 0), (4, i6 aA)] ?_; intro pm gp
       refine nS (gl _ _ ?_)
       refine t_ (r_ (h_ (rt (fn := Tryz.f9) (v := .tuple #[.agg #[i6 0, .bool false, .bool false, .bool false, i6 0, .slice none 0 0], i6 0, i6 aA]) gp (re3c gp (fn := Tryz.f9) rfl (ad := ⟨m, 0, none⟩) (by kernel_rfl) (loadVar_run dH 4 (b := m) (k := 6) (vs := [i6 0, .bool false, .bool false, .bool false, i6 0, .slice none 0 0]) (ty := 24) rfl (by kernel_rfl) (by kernel_rfl)) (by kernel_rfl) (by kernel_rfl)) ?_)))
       exact ⟨((⟨0, false, false, false, 0, []⟩ : Frame), 0, aA), none, 0, a5, rfl, la, (SlR.nil _ _), dH.kp⟩
      apply k_
      have gq : Fr 212 [] [⟨2, [], pt m 0⟩, ⟨5, [], pt j 0⟩, ⟨6, [], pt h 0⟩] gj := bN.reg
      refine wp_seq (rgS mixed bM [(0, true), (1, true), (2, false), (3, true), (4, true)] [] [3, 1] [.row j (e24Sc f I J) 24, .row h [i6 S.2.2] 3] ?_)
      intro lh gr pn gs
      have li := Fz.le.refl a5
      refine cS gq 2 [0, 1] [] [(210, .agg (e24Sc f I J).toArray), (211, i6 S.2.2)] ?_; intro po dI
      refine eS rfl ?_; intro lj gt
      refine sx dI gs 4 (e24Sc f I J) 0 ?_; intro lk gu
      have dJ : Mem w.heap.size [] w Z [.row a [i6 aA] 25, .row h [i6 S.2.2] 3, .row i [str A] 9, .row j (e24Sc f I J) 24, .row m (e24Sc f I J) 24] a5 lk := gu
      refine nl (qnI (gt _ _ (dJ.cst li [3, 1]) ?_))
      refine cS dI 2 [] [] [(3, i6 S.2.2), (4, i6 0)] ?_; intro pp gv
      refine nS (gr _ _ ?_)
      refine t_ (r_ (rt (fn := Tryz.f9) (v := .tuple #[.agg (e24Sc f I J).toArray, i6 S.2.2, i6 0]) gv (re3c gv (fn := Tryz.f9) rfl (ad := ⟨m, 0, none⟩) (by kernel_rfl) (loadVar_run dJ 4 (b := m) (k := 6) (vs := (e24Sc f I J)) (ty := 24) rfl (by kernel_rfl) (by kernel_rfl)) (by kernel_rfl) (by kernel_rfl)) ?_))
      exact ⟨(f, S.2.2, 0), I, J, a5, rfl, lg, bL, dJ.kp⟩
     have cB := Fz.le.refl bg
     refine c_ f4 cs (fun _ ll => ?_) fun _ l9 => ?_
     ·
      refine sqH ?_; intro lm gw
      refine z1 f4 ax 154 bh 0 (str u0) rfl ?_; intro pq gx
      refine l1 gx ax 155 2 0 (i6 y) rfl rfl ?_; intro pr dL
      obtain ⟨ln, lo⟩ := ll
      refine u_ dL (str (u0.take y.toNat)) (strslH_run dL (g := []) (k := .i64) rfl (by kernel_rfl) (by kernel_rfl) (by kernel_rfl) ln rfl) ?_; intro ps gy
      refine s1 gy 17 (str (u0.take y.toNat)) ?_; intro pu gz
      apply gw
      refine sqH ?_; intro lq gA
      refine bt gz ax 5 [1, 3] [] [(157, str A), (158, str (u0.take y.toNat)), (161, i6 (f.Data.length : Int))] ?_; intro pv gB
      obtain ⟨lr, ls⟩ := lo
      refine fc gB ax (rfastend_fun A (u0.take y.toNat) (f.Data.length : Int) lr _ _ bI ax.fz) ?_; intro pw px gC cC
      refine s1 gC 18 (str (rfastendS A (u0.take y.toNat) (f.Data.length : Int))) ?_; intro py gD
      apply gA
      refine sqH ?_; intro lt gE
      refine bt gD cC 3 [] [] [(163, .func (.func 36) #[] #[pt a 0, pt h 0, pt p 0]), (165, i6 ((rfastendS A (u0.take y.toNat) (f.Data.length : Int)).length : Int))] ?_; intro pz gF
      obtain ⟨lu, gG⟩ := ls
      refine ck gF 36 #[i6 ((rfastendS A (u0.take y.toNat) (f.Data.length : Int)).length : Int), pt a 0, pt h 0, pt p 0] ?_
      obtain ⟨L, lv, lw⟩ := hxq gG
      have l := rbp_fun ((rfastendS A (u0.take y.toNat) (f.Data.length : Int)).length : Int) C y u0 lu a h p 0 _ _ _ _ _ _ bh (cC.perm (((pk 1 rfl).trans (lpr.cons _)).cons _)) cC.fz; rw [lv] at l; refine l.mono ?_; rintro _ lx ⟨dM, rfl, aC, hm⟩; refine ⟨_, rfl, ?_⟩; intro pA gH; have gI := hm
      replace cB := cB.mono aC
      have dN : Mem w.heap.size [] w Z [.row a [i6 L.2.1] 25, .row h [i6 L.2.2] 3, .row i [str A] 9, .row j (e24Sc f I J) 24, .row m [i6 0, .bool false, .bool false, .bool false, i6 0, .slice none 0 0] 24] dM lx := gI
      refine s1 gH 19 (str L.1) ?_; intro pB gJ
      apply gE
      refine s_ (sqB gJ dN [] [] [(20, i6 0)] ?_); intro gK gL
      apply b_
      have gM : Fr 212 [] [⟨2, [], pt m 0⟩, ⟨5, [], pt j 0⟩, ⟨6, [], pt h 0⟩, ⟨7, [], pt a 0⟩, ⟨11, [], .func (.func 33) #[] #[pt a 0]⟩, ⟨16, [], .func (.func 36) #[] #[pt a 0, pt h 0, pt p 0]⟩, ⟨17, [], str (u0.take y.toNat)⟩, ⟨18, [], str (rfastendS A (u0.take y.toNat) (f.Data.length : Int))⟩, ⟨19, [], str L.1⟩, ⟨20, [], i6 0⟩] gK := gL.reg
      obtain ⟨ly, lz, lA, lB⟩ := lw
      refine lp (ι := Int × Int × Fz) (fun s => [⟨2, [], pt m 0⟩, ⟨5, [], pt j 0⟩, ⟨6, [], pt h 0⟩, ⟨7, [], pt a 0⟩, ⟨11, [], .func (.func 33) #[] #[pt a 0]⟩, ⟨16, [], .func (.func 36) #[] #[pt a 0, pt h 0, pt p 0]⟩, ⟨17, [], str (u0.take y.toNat)⟩, ⟨18, [], str (rfastendS A (u0.take y.toNat) (f.Data.length : Int))⟩, ⟨19, [], str L.1⟩, ⟨20, [], i6 s.1⟩]) (fun s => [.row a [i6 s.2.1] 25, .row h [i6 L.2.2] 3, .row i [str A] 9, .row j (e24Sc f I J) 24, .row m [i6 0, .bool false, .bool false, .bool false, i6 0, .slice none 0 0] 24]) (fun s => s.2.2) (fun s => ly s.1 s.2.1 ∧ Fz.le dM s.2.2) (fun s => lz s.1 s.2.1) ⟨0, L.2.1, dM⟩ ⟨lA, Fz.le.refl _⟩ (by exact gM.reg) (by exact dN) ?_
      rintro ⟨V, bO, gO⟩ ⟨lC, Y⟩ lD lE gP gQ
      have cD := lB V bO lC
      have bP := cB.mono Y
      refine s_ (sqB gP gQ [] [] [(170, .bool (decide (V < (L.1.length : Int))))] ?_); intro pD bQ
      refine c_ bQ cD (fun _ lF => ?_) fun _ hi => ?_
      ·
       refine k_ (s_ (b_ (sqH ?_))); intro lG gS
       refine bt bQ gQ 4 [] [] [(173, str (u0.take y.toNat)), (176, i6 (w64 (((u0.take y.toNat).length : Int) - 1)))] ?_; intro pE gT
       obtain ⟨lH, lI⟩ := lF
       obtain ⟨bR, gU⟩ : ∃ q, (u0.take y.toNat)[(w64 (((u0.take y.toNat).length : Int) - 1)).toNat]? = some q := ⟨_, List.getElem?_eq_getElem (by omega)⟩; have lJ := lI bR gU
       refine si gT .i64 lH.1 gU ?_; intro pF gV
       refine s1 gV 21 (y8 (bR.toNat : Int)) ?_; intro pG gW
       apply gS
       refine s_ (sqB gW gQ [] [] [(179, .bool (decide (V > 0)))] ?_); intro gX gY
       have gZ : Fr 212 [] [⟨2, [], pt m 0⟩, ⟨5, [], pt j 0⟩, ⟨6, [], pt h 0⟩, ⟨7, [], pt a 0⟩, ⟨11, [], .func (.func 33) #[] #[pt a 0]⟩, ⟨16, [], .func (.func 36) #[] #[pt a 0, pt h 0, pt p 0]⟩, ⟨17, [], str (u0.take y.toNat)⟩, ⟨18, [], str (rfastendS A (u0.take y.toNat) (f.Data.length : Int))⟩, ⟨19, [], str L.1⟩, ⟨20, [], i6 V⟩, ⟨21, [], y8 (bR.toNat : Int)⟩, ⟨179, [], .bool (decide (V > 0))⟩] gX := gY.reg
       obtain ⟨lK, cM, lL⟩ := lJ
       refine wp_then_k fun KJ600 hKJ601 => ?_
       have g0 : ∀ (a6 : Int), lK a6 → ∀ a1 w1, Fr 212 [] [⟨2, [], pt m 0⟩, ⟨5, [], pt j 0⟩, ⟨6, [], pt h 0⟩, ⟨7, [], pt a 0⟩, ⟨11, [], .func (.func 33) #[] #[pt a 0]⟩, ⟨16, [], .func (.func 36) #[] #[pt a 0, pt h 0, pt p 0]⟩, ⟨17, [], str (u0.take y.toNat)⟩, ⟨18, [], str (rfastendS A (u0.take y.toNat) (f.Data.length : Int))⟩, ⟨19, [], str L.1⟩, ⟨20, [], i6 V⟩, ⟨21, [], y8 a6⟩] a1 → Mem w.heap.size [] w Z [.row a [i6 bO] 25, .row h [i6 L.2.2] 3, .row i [str A] 9, .row j (e24Sc f I J) 24, .row m [i6 0, .bool false, .bool false, .bool false, i6 0, .slice none 0 0] 24] gO w1 → KJ600 a1 w1 := by
        rintro a6 lM pH pI g1 bT
        refine hKJ601 _ _ ?_
        have lN := lL a6 lM
        refine rgH ?_; intro lO g2
        refine bt g1 bT 3 [] [] [(184, .func (.func 33) #[] #[pt a 0]), (185, str L.1), (186, i6 V)] ?_; intro pJ g3
        obtain ⟨lP, lQ⟩ := lN
        obtain ⟨cN, g4⟩ : ∃ q, L.1[V.toNat]? = some q := ⟨_, List.getElem?_eq_getElem (by omega)⟩; have g5 := lQ cN g4
        refine si g3 .i64 lP.1 g4 ?_; intro pK g6
        refine bt g6 bT 2 [] [] [(189, .bool ((cN.toNat : Int) != a6))] ?_; intro pL g7
        refine ck g7 33 #[.bool ((cN.toNat : Int) != a6), i6 5, pt a 0] ?_
        obtain ⟨g8, lR, g9⟩ := hxq g5
        have l := rbm_fun ((cN.toNat : Int) != a6) 5 bO a _ _ _ _ _ _ bT bT.fz; rw [lR] at l; refine l.mono ?_; rintro _ lS ⟨ha, rfl, am, hm⟩; refine ⟨_, rfl, ?_⟩; intro pM hb; have hc := hm
        replace Y := Y.mono am
        have hd : Mem w.heap.size [] w Z [.row a [i6 g8] 25, .row h [i6 L.2.2] 3, .row i [str A] 9, .row j (e24Sc f I J) 24, .row m [i6 0, .bool false, .bool false, .bool false, i6 0, .slice none 0 0] 24] ha lS := hc
        apply g2
        refine j_ (t_ (rgB hb hd [] [] [(20, i6 (w64 (V + 5)))] ?_)); intro pN lT
        exact d_ ⟨⟨w64 (V + 5), g8, ha⟩, ⟨g9.1, Y⟩, g9.2, (lT.reg).anyβ _ (by kernel_rfl), hd.kp⟩
       refine c_ gZ cM (fun _ lU => ?_) fun _ l0 => ?_
       ·
        refine rgH ?_; intro lV he
        refine bt gZ gQ 3 [] [] [(180, str L.1), (182, i6 (w64 (V - 1)))] ?_; intro pO hf
        obtain ⟨lW, lX⟩ := lU
        obtain ⟨dQ, hg⟩ : ∃ q, L.1[(w64 (V - 1)).toNat]? = some q := ⟨_, List.getElem?_eq_getElem (by omega)⟩; have lY := lX dQ hg
        refine si hf .i64 lW.1 hg ?_; intro pP hh
        refine s1 hh 21 (y8 (dQ.toNat : Int)) ?_; intro pQ lZ
        apply he
        exact d_ (g0 (dQ.toNat : Int) lY _ _ ((lZ.reg).anyβ _ (by kernel_rfl)) (gQ.kp))
       exact l_ (d_ (g0 (bR.toNat : Int) l0 _ _ ((gZ.reg).anyβ _ (by kernel_rfl)) (gQ.kp)))
      refine x_ (y_ (y_ (z_ (t_ (rgH ?_))))); intro l2 hj
      refine bt bQ gQ 4 [] [406] [(191, .func (.func 33) #[] #[pt a 0]), (194, .bool (L.1 == (rfastendS A (u0.take y.toNat) (f.Data.length : Int))))] ?_; intro pR hk
      refine ck hk 33 #[.bool (L.1 == (rfastendS A (u0.take y.toNat) (f.Data.length : Int))), i6 6, pt a 0] ?_
      obtain ⟨hl, l3, l4⟩ := hxq hi
      have l := rbm_fun (L.1 == (rfastendS A (u0.take y.toNat) (f.Data.length : Int))) 6 bO a _ _ _ _ _ _ gQ gQ.fz; rw [l3] at l; refine l.mono ?_; rintro _ l5 ⟨hn, rfl, an, hm⟩; refine ⟨_, rfl, ?_⟩; intro pS l6; have ho := hm
      replace bP := bP.mono an
      have l7 : Mem w.heap.size [] w Z [.row a [i6 hl] 25, .row h [i6 L.2.2] 3, .row i [str A] 9, .row j (e24Sc f I J) 24, .row m [i6 0, .bool false, .bool false, .bool false, i6 0, .slice none 0 0] 24] hn l5 := ho
      apply hj
      apply d_
      have l8 := l7.perm (((pk 1 rfl).trans (lpr.cons _)).cons _)
      exact f5 hl L.2.2 hn ⟨l4, bP⟩ _ _ ((l6.reg).anyβ _ (by kernel_rfl)) (l8.kp)
     exact l_ (d_ (f5 C y bg ⟨l9, cB⟩ _ _ ((f4.reg).anyβ _ (by kernel_rfl)) (ax.kp)))
    have hq := Fz.le.refl aG
    refine c_ fY cm (fun _ ma => ?_) fun _ mB => ?_
    ·
     refine sqH ?_; intro mb hr
     refine l1 fY a4 133 1 0 (str W) rfl rfl ?_; intro pT hs
     obtain ⟨mc, md⟩ := ma
     refine fc hs a4 (rsumof_fun 0 W mc _ _ dC a4.fz) ?_; intro pU pV ht cO
     refine s1 ht 14 (str (sumR 0 W)) ?_; intro pW hu
     apply hr
     refine sqB hu cO [] [] [(15, str [])] ?_; intro pX hv
     refine s_ (sqB hv cO [] [] [(135, i6 0)] ?_); intro hx hy
     apply b_
     have hz : Fr 212 [] [⟨1, [], pt p 0⟩, ⟨2, [], pt m 0⟩, ⟨5, [], pt j 0⟩, ⟨6, [], pt h 0⟩, ⟨7, [], pt a 0⟩, ⟨8, [], pt i 0⟩, ⟨9, [], pt B 0⟩, ⟨11, [], .func (.func 33) #[] #[pt a 0]⟩, ⟨14, [], str (sumR 0 W)⟩, ⟨15, [], str []⟩, ⟨135, [], i6 0⟩] hx := hy.reg
     obtain ⟨me, mf, mg, mh⟩ := md
     refine lp (ι := (List UInt8) × Int × Int × (List UInt8) × Int × Fz) (fun s => [⟨1, [], pt p 0⟩, ⟨2, [], pt m 0⟩, ⟨5, [], pt j 0⟩, ⟨6, [], pt h 0⟩, ⟨7, [], pt a 0⟩, ⟨8, [], pt i 0⟩, ⟨9, [], pt B 0⟩, ⟨11, [], .func (.func 33) #[] #[pt a 0]⟩, ⟨14, [], str (sumR 0 W)⟩, ⟨15, [], str s.1⟩, ⟨135, [], i6 s.2.1⟩]) (fun s => [.row a [i6 s.2.2.1] 25, .row i [str s.2.2.2.1] 9, .row h [i6 s.2.2.2.2.1] 3, .row j (e24Sc f I J) 24, .row m [i6 0, .bool false, .bool false, .bool false, i6 0, .slice none 0 0] 24]) (fun s => s.2.2.2.2.2) (fun s => me s.1 s.2.1 s.2.2.1 s.2.2.2.1 s.2.2.2.2.1 ∧ Fz.le aG s.2.2.2.2.2) (fun s => mf s.1 s.2.1 s.2.2.1 s.2.2.2.1 s.2.2.2.2.1) ⟨[], 0, aw, W, bf, aG⟩ ⟨mg, Fz.le.refl _⟩ (by exact hz.reg) (by exact cO) ?_
     rintro ⟨aO, bi, ay, bU, ak, mi⟩ ⟨mj, aa⟩ mk ml hB hC
     have cP := mh aO bi ay bU ak mj
     have bV := fS.mono aa
     have bW := fT.mono aa
     have bX := hq.mono aa
     refine sqB hB hC [] [] [(136, .bool (decide (bi < 15)))] ?_; intro pZ bY
     refine s_ (c_ bY cP (fun _ mm => ?_) fun _ hP => ?_)
     ·
      refine k_ (s_ (b_ (rgH ?_))); intro mn hE
      refine s1 bY 137 (str aO) ?_; intro p1 hF
      refine z1 hF hC 138 bW 0 (.func (.func 30) #[] #[pt p 0, pt i 0, pt a 0, pt h 0]) rfl ?_; intro p2 hG
      obtain ⟨mo, hH⟩ := mm
      refine ck hG 30 #[pt p 0, pt i 0, pt a 0, pt h 0] ?_
      obtain ⟨aP, mp, mq⟩ := hxq hH
      have l := rbb_fun u0 bU ay ak mo p 0 i a h _ _ _ _ _ _ bV (hC.perm ((pk 1 rfl).trans (lpr.cons _))) hC.fz; rw [mp] at l; refine l.mono ?_; rintro _ mr ⟨hI, rfl, aD, hm⟩; refine ⟨_, rfl, ?_⟩; intro p3 hJ; have hK := hm
      replace aa := aa.mono aD
      have hL : Mem w.heap.size [] w Z [.row i [str aP.2.1] 9, .row a [i6 aP.2.2.1] 25, .row h [i6 aP.2.2.2] 3, .row j (e24Sc f I J) 24, .row m [i6 0, .bool false, .bool false, .bool false, i6 0, .slice none 0 0] 24] hI mr := hK
      obtain ⟨ms, hM⟩ := mq
      refine sa hJ ms ?_; intro p4 hN
      refine s1 hN 15 (str (aO ++ aP.1)) ?_; intro p5 hO
      apply hE
      refine j_ (t_ (rgB hO hL [] [] [(135, i6 (w64 (bi + 1)))] ?_)); intro p6 mt
      apply d_
      have mu := hL.perm ((pk 1 rfl).trans (lpr.cons _))
      exact ⟨⟨aO ++ aP.1, w64 (bi + 1), aP.2.2.1, aP.2.1, aP.2.2.2, hI⟩, ⟨hM.1, aa⟩, hM.2, (mt.reg).anyβ _ (by kernel_rfl), mu.kp⟩
     refine x_ (y_ (y_ (z_ (t_ (rgH ?_))))); intro mv hQ
     refine bt bY hC 4 [] [357] [(142, .func (.func 33) #[] #[pt a 0]), (145, .bool (aO == (sumR 0 W)))] ?_; intro p7 hR
     refine ck hR 33 #[.bool (aO == (sumR 0 W)), i6 6, pt a 0] ?_
     obtain ⟨hS, mw, mx⟩ := hxq hP
     have l := rbm_fun (aO == (sumR 0 W)) 6 ay a _ _ _ _ _ _ hC hC.fz; rw [mw] at l; refine l.mono ?_; rintro _ my ⟨hT, rfl, aE, hm⟩; refine ⟨_, rfl, ?_⟩; intro p8 mz; have hU := hm
     replace bX := bX.mono aE
     have mA : Mem w.heap.size [] w Z [.row a [i6 hS] 25, .row i [str bU] 9, .row h [i6 ak] 3, .row j (e24Sc f I J) 24, .row m [i6 0, .bool false, .bool false, .bool false, i6 0, .slice none 0 0] 24] hT my := hU
     apply hQ
     exact d_ (fZ hS bU ak hT ⟨mx, bX⟩ _ _ ((mz.reg).anyβ _ (by kernel_rfl)) (mA.kp))
    exact l_ (d_ (fZ aw W bf aG ⟨mB, hq⟩ _ _ ((fY.reg).anyβ _ (by kernel_rfl)) (a4.kp)))
   have hV := Fz.le.refl aL
   refine c_ fP cj (fun _ mC => ?_) fun _ mG => ?_
   ·
    refine rgH ?_; intro mD hW
    refine bt fP aM 2 [] [] [(104, i6 E.1), (105, pt j 4)] ?_; intro p9 hX
    refine sx hX aM 3 [i6 n.ID, .bool n.Long, .bool (D.1 == ([49] : List UInt8)), .bool n.Remote, i6 E.1, .slice none 0 0] 4 ?_; intro mE hY
    have mF : Mem w.heap.size [] w Z [.row a [i6 bG] 25, .row i [str E.2.1] 9, .row h [i6 E.2.2.2] 3, .row j [i6 n.ID, .bool n.Long, .bool (D.1 == ([49] : List UInt8)), .bool n.Remote, i6 E.1, .slice none 0 0] 24, .row m [i6 0, .bool false, .bool false, .bool false, i6 0, .slice none 0 0] 24] aL mE := hY
    apply hW
    exact d_ (dB bG E.2.1 E.2.2.2 (⟨n.ID, n.Long, D.1 == ([49] : List UInt8), n.Remote, E.1, []⟩ : Frame) none 0 aL ⟨mC, (SlR.nil _ _), hV⟩ _ _ ((hX.reg).anyβ _ (by kernel_rfl)) (mF.kp))
   refine sqB fP aM [] [] [(13, i6 0)] ?_; intro h0 h1
   apply b_
   have h2 : Fr 212 [] [⟨1, [], pt p 0⟩, ⟨2, [], pt m 0⟩, ⟨5, [], pt j 0⟩, ⟨6, [], pt h 0⟩, ⟨7, [], pt a 0⟩, ⟨8, [], pt i 0⟩, ⟨9, [], pt B 0⟩, ⟨10, [], .func (.func 32) #[] #[pt B 0]⟩, ⟨11, [], .func (.func 33) #[] #[pt a 0]⟩, ⟨12, [], i6 E.1⟩, ⟨13, [], i6 0⟩] h0 := h1.reg
   have h3 : Mem w.heap.size [] w Z [.own t8 5 none 0 ([] : List Int), .row a [i6 bG] 25, .row i [str E.2.1] 9, .row h [i6 E.2.2.2] 3, .row j [i6 n.ID, .bool n.Long, .bool (D.1 == ([49] : List UInt8)), .bool n.Remote, i6 n.Size, .slice none 0 0] 24, .row m [i6 0, .bool false, .bool false, .bool false, i6 0, .slice none 0 0] 24] aL fK := aM.addNil t8 5 (by decide)
   have h4 : Fr 212 [] [⟨1, [], pt p 0⟩, ⟨2, [], pt m 0⟩, ⟨5, [], pt j 0⟩, ⟨6, [], pt h 0⟩, ⟨7, [], pt a 0⟩, ⟨8, [], pt i 0⟩, ⟨9, [], pt B 0⟩, ⟨10, [], .func (.func 32) #[] #[pt B 0]⟩, ⟨11, [], .func (.func 33) #[] #[pt a 0]⟩, ⟨12, [], i6 E.1⟩, ⟨13, [], i6 0⟩] h0 := h2.reg
   obtain ⟨mH, mI, mJ, mK⟩ := mG
   refine lp (ι := Int × Int × (List UInt8) × Int × Frame × (Option Addr) × Nat × Fz) (fun s => [⟨1, [], pt p 0⟩, ⟨2, [], pt m 0⟩, ⟨5, [], pt j 0⟩, ⟨6, [], pt h 0⟩, ⟨7, [], pt a 0⟩, ⟨8, [], pt i 0⟩, ⟨9, [], pt B 0⟩, ⟨10, [], .func (.func 32) #[] #[pt B 0]⟩, ⟨11, [], .func (.func 33) #[] #[pt a 0]⟩, ⟨12, [], i6 E.1⟩, ⟨13, [], i6 s.1⟩]) (fun s => [.own t8 5 s.2.2.2.2.2.1 s.2.2.2.2.2.2.1 s.2.2.2.2.1.Data, .row a [i6 s.2.1] 25, .row i [str s.2.2.1] 9, .row h [i6 s.2.2.2.1] 3, .row j [i6 s.2.2.2.2.1.ID, .bool s.2.2.2.2.1.Long, .bool s.2.2.2.2.1.Fast, .bool s.2.2.2.2.1.Remote, i6 s.2.2.2.2.1.Size, .slice s.2.2.2.2.2.1 s.2.2.2.2.1.Data.length s.2.2.2.2.2.2.1] 24, .row m [i6 0, .bool false, .bool false, .bool false, i6 0, .slice none 0 0] 24]) (fun s => s.2.2.2.2.2.2.2) (fun s => mH s.1 s.2.1 s.2.2.1 s.2.2.2.1 s.2.2.2.2.1 ∧ Fz.le aL s.2.2.2.2.2.2.2) (fun s => mI s.1 s.2.1 s.2.2.1 s.2.2.2.1 s.2.2.2.2.1) ⟨0, bG, E.2.1, E.2.2.2, (⟨n.ID, n.Long, D.1 == ([49] : List UInt8), n.Remote, n.Size, ([] : List Int)⟩ : Frame), none, 0, aL⟩ ⟨mJ, Fz.le.refl _⟩ (by exact h4.reg) (by exact h3) ?_
   rintro ⟨aQ, C, A, y, u, ab, ac, mL⟩ ⟨mM, X⟩ mN h5 h6 h7
   have cW := mK aQ C A y u mM
   have aI := aZ.mono X
   have aJ := a2.mono X
   have aF := hV.mono X
   refine s_ (sqH ?_); intro ia cX
   refine bt h6 h7 3 [1] [] [(108, .bool (C == 0))] ?_; intro qb cY
   refine e_ cW (fun bZ ib => ?_) fun bZ ne => ?_
   ·
    have cZ := cY.reval (d := 108) (c := []) (v := .bool (C == 0)) (by kernel_rfl) (.bool true) (by rw [bZ])
    refine g_ cZ true (i6 aQ) ?_; intro qc dU
    refine cl dU 34 #[] (wK dU true) rfl (by kernel_rfl) (by kernel_rfl) ?_
    refine (rsizes_fun  _ _ h7.fz).mono ?_; rintro _ ic ⟨mO, b0, id, rfl, hm⟩; refine ⟨_, rfl, ?_⟩; intro qd c0; have ie := h7.callZ hm; have aU := hm.ext.le
    replace aI := aI.mono aU
    replace aJ := aJ.mono aU
    replace aF := aF.mono aU
    replace X := X.mono aU
    have a7 : Mem w.heap.size [] w Z [.own t6 3 mO b0 rsizes, .own t8 5 ab ac u.Data, .row a [i6 C] 25, .row i [str A] 9, .row h [i6 y] 3, .row j (e24Sc u ab ac) 24, .row m [i6 0, .bool false, .bool false, .bool false, i6 0, .slice none 0 0] 24] id ic := ie
    have mP := ib (a7.ownSmall 0 rfl)
    refine g_ c0 true (i6 E.1) ?_; intro qe dV
    obtain ⟨mQ, ig⟩ := mP
    refine ixo dV a7 0 (T := t6) (xs := rsizes) E.1 mQ (k := .i64) (e := 3) (bytes := 8) (wK dV true) rfl (by kernel_rfl) rfl (by kernel_rfl) (by kernel_rfl) rfl (by kernel_rfl) ?_; intro c1 qf mR dW
    subst mR
    obtain ⟨c2, mS, c3⟩ := gxq ig (by first | omega | (simp only [List.length_set] at *; omega))
    obtain ⟨mT, mU, mV⟩ := own_el a7 0 (T := t6) (xs := rsizes) rfl E.1.toNat mS
    obtain rfl : mT = ([i6 c2] : List Value) := mU
    refine lc1 dW 113 (i6 c2) (mV 0 _ rfl) rfl ?_ (hw := (wK dW true)); intro qg ih
    refine bt ih a7 2 [] [114, 115] [(115, .bool (decide (aQ < c2)))] ?_; intro mW c4
    apply cX
    refine c_ c4 c3 (fun _ mX => ?_) fun _ nb => ?_
    ·
     refine k_ (s_ (b_ ?_))
     have ii : Fr 212 [] [⟨1, [], pt p 0⟩, ⟨2, [], pt m 0⟩, ⟨5, [], pt j 0⟩, ⟨6, [], pt h 0⟩, ⟨7, [], pt a 0⟩, ⟨8, [], pt i 0⟩, ⟨9, [], pt B 0⟩, ⟨10, [], .func (.func 32) #[] #[pt B 0]⟩, ⟨11, [], .func (.func 33) #[] #[pt a 0]⟩, ⟨12, [], i6 E.1⟩, ⟨13, [], i6 aQ⟩] mW := c4.reg
     refine rgS mixed a7 [(0, true), (1, true), (2, true), (3, false), (4, true), (5, false), (6, false), (7, true), (8, false)] [8] [5] [.row j (e24Sc u ab ac) 24] ?_
     intro mY ij qh dY
     have b1 := Fz.le.refl id
     refine cS ii 3 [0] [] [(119, .slice ab u.Data.length ac), (120, .func (.func 32) #[] #[pt B 0])] ?_; intro qi ik
     refine eS rfl ?_; intro mZ il
     obtain ⟨m0, m1⟩ := mX
     refine ck ik 32 #[i6 8, pt B 0] ?_
     refine (rbn_fun 8 u0 A C y m0 B 0 p 0 i a h _ _ _ _ _ _ aJ aI (dY.perm ((pk 3 rfl).trans (((pk 2 rfl).trans (((pk 2 rfl).trans (lpr.cons _)).cons _)).cons _))) dY.fz).mono ?_; rintro _ m2 ⟨c5, rfl, aK, hm⟩; refine ⟨_, rfl, ?_⟩; intro qj im; have io := hm
     replace X := X.mono aK
     replace b1 := b1.mono aK
     have dZ : Mem w.heap.size [] w Z [.row i [str (rbnS 8 u0 A C y).2.1] 9, .row a [i6 (rbnS 8 u0 A C y).2.2.1] 25, .row h [i6 (rbnS 8 u0 A C y).2.2.2] 3, .own t6 3 (sm c1) b0 rsizes, .own t8 5 ab ac u.Data, .row j (e24Sc u ab ac) 24, .row m [i6 0, .bool false, .bool false, .bool false, i6 0, .slice none 0 0] 24] c5 m2 := io
     refine nl (qnI (il _ _ (dZ.cst b1 [5]) ?_))
     refine cS im 1 [] [] [(122, y8 (w8 (rbnS 8 u0 A C y).1))] ?_; intro qk ip
     refine eS rfl ?_; intro m3 iq
     refine nw ip dZ (fun b => .slice (sm b) 1 1) [y8 (w8 (rbnS 8 u0 A C y).1)] 5 ?_; intro d0 ql qm ir c6
     refine nl (qnI (iq _ _ (c6.cst b1 [6]) ?_))
     refine eS rfl ?_; intro m4 it
     obtain ⟨m5, iu⟩ := m1
     refine ap ir c6 5 (T := t8) (xs := u.Data) (ys := [w8 (rbnS 8 u0 A C y).1]) (ao := ab) (cap := ac) (ao2 := (sm d0)) (cap2 := 1) (t := 22) (e := 5) (bytes := 1) (nog rfl _) rfl (by kernel_rfl) rfl (by kernel_rfl) (by kernel_rfl) (by kernel_rfl) rfl (Src.row c6 0 rfl (RepAll.one (T := t8) (x := (w8 (rbnS 8 u0 A C y).1)) rfl)) m5 ?_; intro b3 b4 qn m6 qo iv iw
     have d1 : Mem w.heap.size [] w Z [.row d0 [y8 (w8 (rbnS 8 u0 A C y).1)] 5, .row i [str (rbnS 8 u0 A C y).2.1] 9, .row a [i6 (rbnS 8 u0 A C y).2.2.1] 25, .row h [i6 (rbnS 8 u0 A C y).2.2.2] 3, .own t6 3 (sm c1) b0 rsizes, .own t8 5 b3 b4 (u.Data ++ [w8 (rbnS 8 u0 A C y).1]), .row j (e24Sc u ab ac) 24, .row m [i6 0, .bool false, .bool false, .bool false, i6 0, .slice none 0 0] 24] c5 m6 := iw
     refine nl (qnI (it _ _ (d1.cst b1 [6]) ?_))
     refine cS iv 1 [] [] [(125, pt j 5)] ?_; intro qp d2
     refine eL rfl ?_; intro m7 ix
     refine sx d2 d1 6 [i6 u.ID, .bool u.Long, .bool u.Fast, .bool u.Remote, i6 u.Size, .slice b3 (u.Data ++ [w8 (rbnS 8 u0 A C y).1]).length b4] 5 ?_; intro m8 iy
     have iz : Mem w.heap.size [] w Z [.row d0 [y8 (w8 (rbnS 8 u0 A C y).1)] 5, .row i [str (rbnS 8 u0 A C y).2.1] 9, .row a [i6 (rbnS 8 u0 A C y).2.2.1] 25, .row h [i6 (rbnS 8 u0 A C y).2.2.2] 3, .own t6 3 (sm c1) b0 rsizes, .own t8 5 b3 b4 (u.Data ++ [w8 (rbnS 8 u0 A C y).1]), .row j [i6 u.ID, .bool u.Long, .bool u.Fast, .bool u.Remote, i6 u.Size, .slice b3 (u.Data ++ [w8 (rbnS 8 u0 A C y).1]).length b4] 24, .row m [i6 0, .bool false, .bool false, .bool false, i6 0, .slice none 0 0] 24] c5 m8 := iy
     refine nl (qnI (ix _ _ ?_))
     refine nS (ij _ _ ?_)
     refine j_ (t_ (rgB d2 iz [] [] [(13, i6 (w64 (aQ + 1)))] ?_)); intro qq m9
     apply d_
     have na := iz.perm ((pk 5 rfl).trans (((pk 2 rfl).trans (((pk 1 rfl).trans (((pk 1 rfl).trans (((pk 2 rfl).trans (((pk 2 rfl).trans (lpr.cons _)).cons _)).cons _)).cons _)).cons _)).cons _))
     exact ⟨⟨w64 (aQ + 1), (rbnS 8 u0 A C y).2.2.1, (rbnS 8 u0 A C y).2.1, (rbnS 8 u0 A C y).2.2.2, (⟨u.ID, u.Long, u.Fast, u.Remote, u.Size, u.Data ++ [w8 (rbnS 8 u0 A C y).1]⟩ : Frame), b3, b4, c5⟩, ⟨iu.1, X⟩, iu.2, (m9.reg).anyβ _ (by kernel_rfl), na.kp⟩
    refine x_ (y_ (y_ (z_ (d_ ?_))))
    obtain ⟨iA, aV, iB, nc⟩ := a7.freeze 1 rfl
    replace aF := aF.mono aV
    have nd : Mem w.heap.size [] w Z [.own t6 3 (sm c1) b0 rsizes, .row a [i6 C] 25, .row i [str A] 9, .row h [i6 y] 3, .row j (e24Sc u ab ac) 24, .row m [i6 0, .bool false, .bool false, .bool false, i6 0, .slice none 0 0] 24] iA ic := iB
    exact dB C A y u ab ac iA ⟨nb, nc, aF⟩ _ _ ((c4.reg).anyβ _ (by kernel_rfl)) (nd.kp)
   have iC := cY.reval (d := 108) (c := []) (v := .bool (C == 0)) (by kernel_rfl) (.bool false) (by rw [bZ])
   refine bt iC h7 7 [] [109, 110, 111, 112, 113, 114, 115] [(115, .bool false)] ?_; intro qr iD
   apply cX
   refine cdF iD (by kernel_rfl) ?_
   refine x_ (y_ (y_ (z_ (d_ ?_))))
   obtain ⟨iE, aW, iF, nf⟩ := h7.freeze 0 rfl
   replace aF := aF.mono aW
   have ng : Mem w.heap.size [] w Z [.row a [i6 C] 25, .row i [str A] 9, .row h [i6 y] 3, .row j (e24Sc u ab ac) 24, .row m [i6 0, .bool false, .bool false, .bool false, i6 0, .slice none 0 0] 24] iE h5 := iF
   exact dB C A y u ab ac iE ⟨ne, nf, aF⟩ _ _ ((iD.reg).anyβ _ (by kernel_rfl)) (ng.kp)
  have Q := Fz.le.refl bB
  refine c_ fy ch (fun _ iG => ?_) fun _ da => ?_
  ·
   refine sqH ?_; intro nh iH
   refine bt fy ah 4 [3] [] [(65, .func (.func 33) #[] #[pt a 0]), (68, .bool (!n.Remote))] ?_; intro qs iI
   refine ck iI 33 #[.bool (!n.Remote), i6 4, pt a 0] ?_
   obtain ⟨iJ, ni, nj⟩ := hxq iG
   have l := rbm_fun (!n.Remote) 4 D.2.2.1 a _ _ _ _ _ _ (ah.perm (pk 1 rfl)) ah.fz; rw [ni] at l; refine l.mono ?_; rintro _ nk ⟨nm, rfl, bk, hm⟩; refine ⟨_, rfl, ?_⟩; intro qt iK; have iL := hm
   replace G := G.mono bk
   replace H := H.mono bk
   replace Q := Q.mono bk
   have c7 : Mem w.heap.size [] w Z [.row a [i6 iJ] 25, .row i [str D.2.1] 9, .row h [i6 D.2.2.2] 3, .row j [i6 n.ID, .bool n.Long, .bool (D.1 == ([49] : List UInt8)), .bool n.Remote, i6 n.Size, .slice none 0 0] 24, .row m [i6 0, .bool false, .bool false, .bool false, i6 0, .slice none 0 0] 24] nm nk := iL
   apply iH
   refine sqH ?_; intro nn iM
   refine s1 iK 70 (.func (.func 33) #[] #[pt a 0]) ?_; intro qu iN
   refine z1 iN c7 71 H 0 (.func (.func 30) #[] #[pt p 0, pt i 0, pt a 0, pt h 0]) rfl ?_; intro qv iO
   obtain ⟨no, iP⟩ := nj
   refine ck iO 30 #[pt p 0, pt i 0, pt a 0, pt h 0] ?_
   obtain ⟨aq, np, iQ⟩ := hxq iP
   have l := rbb_fun u0 D.2.1 iJ D.2.2.2 no p 0 i a h _ _ _ _ _ _ G (c7.perm ((pk 1 rfl).trans (lpr.cons _))) c7.fz; rw [np] at l; refine l.mono ?_; rintro _ nq ⟨nr, rfl, bl, hm⟩; refine ⟨_, rfl, ?_⟩; intro qw iR; have iS := hm
   replace G := G.mono bl
   replace H := H.mono bl
   replace Q := Q.mono bl
   have d4 : Mem w.heap.size [] w Z [.row i [str aq.2.1] 9, .row a [i6 aq.2.2.1] 25, .row h [i6 aq.2.2.2] 3, .row j [i6 n.ID, .bool n.Long, .bool (D.1 == ([49] : List UInt8)), .bool n.Remote, i6 n.Size, .slice none 0 0] 24, .row m [i6 0, .bool false, .bool false, .bool false, i6 0, .slice none 0 0] 24] nr nq := iS
   refine sc iR .eql (.bool (aq.1 == ([48] : List UInt8))) ?_; intro qx iT
   refine ck iT 33 #[.bool (aq.1 == ([48] : List UInt8)), i6 4, pt a 0] ?_
   obtain ⟨iU, ns, nt⟩ := hxq iQ
   have l := rbm_fun (aq.1 == ([48] : List UInt8)) 4 aq.2.2.1 a _ _ _ _ _ _ (d4.perm (pk 1 rfl)) d4.fz; rw [ns] at l; refine l.mono ?_; rintro _ nu ⟨nv, rfl, bm, hm⟩; refine ⟨_, rfl, ?_⟩; intro qy iV; have iW := hm
   replace G := G.mono bm
   replace H := H.mono bm
   replace Q := Q.mono bm
   have c8 : Mem w.heap.size [] w Z [.row a [i6 iU] 25, .row i [str aq.2.1] 9, .row h [i6 aq.2.2.2] 3, .row j [i6 n.ID, .bool n.Long, .bool (D.1 == ([49] : List UInt8)), .bool n.Remote, i6 n.Size, .slice none 0 0] 24, .row m [i6 0, .bool false, .bool false, .bool false, i6 0, .slice none 0 0] 24] nv nu := iW
   apply iM
   refine sqH ?_; intro nx iX
   refine s1 iV 75 (.func (.func 33) #[] #[pt a 0]) ?_; intro qz iY
   refine z1 iY c8 76 H 0 (.func (.func 30) #[] #[pt p 0, pt i 0, pt a 0, pt h 0]) rfl ?_; intro qA iZ
   obtain ⟨ny, i0⟩ := nt
   refine ck iZ 30 #[pt p 0, pt i 0, pt a 0, pt h 0] ?_
   obtain ⟨ar, nz, i1⟩ := hxq i0
   have l := rbb_fun u0 aq.2.1 iU aq.2.2.2 ny p 0 i a h _ _ _ _ _ _ G (c8.perm ((pk 1 rfl).trans (lpr.cons _))) c8.fz; rw [nz] at l; refine l.mono ?_; rintro _ nA ⟨nB, rfl, bn, hm⟩; refine ⟨_, rfl, ?_⟩; intro qB i2; have i3 := hm
   replace G := G.mono bn
   replace H := H.mono bn
   replace Q := Q.mono bn
   have d5 : Mem w.heap.size [] w Z [.row i [str ar.2.1] 9, .row a [i6 ar.2.2.1] 25, .row h [i6 ar.2.2.2] 3, .row j [i6 n.ID, .bool n.Long, .bool (D.1 == ([49] : List UInt8)), .bool n.Remote, i6 n.Size, .slice none 0 0] 24, .row m [i6 0, .bool false, .bool false, .bool false, i6 0, .slice none 0 0] 24] nB nA := i3
   refine sc i2 .eql (.bool (ar.1 == ([49] : List UInt8))) ?_; intro qC i4
   refine ck i4 33 #[.bool (ar.1 == ([49] : List UInt8)), i6 4, pt a 0] ?_
   obtain ⟨i5, nC, nD⟩ := hxq i1
   have l := rbm_fun (ar.1 == ([49] : List UInt8)) 4 ar.2.2.1 a _ _ _ _ _ _ (d5.perm (pk 1 rfl)) d5.fz; rw [nC] at l; refine l.mono ?_; rintro _ nE ⟨nF, rfl, bo, hm⟩; refine ⟨_, rfl, ?_⟩; intro qD i7; have i8 := hm
   replace G := G.mono bo
   replace H := H.mono bo
   replace Q := Q.mono bo
   have c9 : Mem w.heap.size [] w Z [.row a [i6 i5] 25, .row i [str ar.2.1] 9, .row h [i6 ar.2.2.2] 3, .row j [i6 n.ID, .bool n.Long, .bool (D.1 == ([49] : List UInt8)), .bool n.Remote, i6 n.Size, .slice none 0 0] 24, .row m [i6 0, .bool false, .bool false, .bool false, i6 0, .slice none 0 0] 24] nF nE := i8
   apply iX
   refine rgH ?_; intro nG i9
   refine s1 i7 80 (.func (.func 33) #[] #[pt a 0]) ?_; intro qE ja
   refine z1 ja c9 81 H 0 (.func (.func 30) #[] #[pt p 0, pt i 0, pt a 0, pt h 0]) rfl ?_; intro qF jb
   obtain ⟨nH, jc⟩ := nD
   refine ck jb 30 #[pt p 0, pt i 0, pt a 0, pt h 0] ?_
   obtain ⟨au, nI, jd⟩ := hxq jc
   have l := rbb_fun u0 ar.2.1 i5 ar.2.2.2 nH p 0 i a h _ _ _ _ _ _ G (c9.perm ((pk 1 rfl).trans (lpr.cons _))) c9.fz; rw [nI] at l; refine l.mono ?_; rintro _ nJ ⟨nK, rfl, bp, hm⟩; refine ⟨_, rfl, ?_⟩; intro qG je; have jf := hm
   replace Q := Q.mono bp
   have d6 : Mem w.heap.size [] w Z [.row i [str au.2.1] 9, .row a [i6 au.2.2.1] 25, .row h [i6 au.2.2.2] 3, .row j [i6 n.ID, .bool n.Long, .bool (D.1 == ([49] : List UInt8)), .bool n.Remote, i6 n.Size, .slice none 0 0] 24, .row m [i6 0, .bool false, .bool false, .bool false, i6 0, .slice none 0 0] 24] nK nJ := jf
   refine sc je .eql (.bool (au.1 == ([48] : List UInt8))) ?_; intro qH jg
   refine ck jg 33 #[.bool (au.1 == ([48] : List UInt8)), i6 4, pt a 0] ?_
   obtain ⟨jh, nL, nM⟩ := hxq jd
   have l := rbm_fun (au.1 == ([48] : List UInt8)) 4 au.2.2.1 a _ _ _ _ _ _ (d6.perm (pk 1 rfl)) d6.fz; rw [nL] at l; refine l.mono ?_; rintro _ nN ⟨ji, rfl, bq, hm⟩; refine ⟨_, rfl, ?_⟩; intro qI nO; have jj := hm
   replace Q := Q.mono bq
   have nP : Mem w.heap.size [] w Z [.row a [i6 jh] 25, .row i [str au.2.1] 9, .row h [i6 au.2.2.2] 3, .row j [i6 n.ID, .bool n.Long, .bool (D.1 == ([49] : List UInt8)), .bool n.Remote, i6 n.Size, .slice none 0 0] 24, .row m [i6 0, .bool false, .bool false, .bool false, i6 0, .slice none 0 0] 24] ji nN := jj
   apply i9
   apply d_
   have nQ := nP.perm ((pk 1 rfl).trans (lpr.cons _))
   exact dy au.2.1 jh au.2.2.2 ji ⟨nM, Q⟩ _ _ ((nO.reg).anyβ _ (by kernel_rfl)) (nQ.kp)
  refine sqB fy ah [3] [] [(86, .bool n.Long)] ?_; intro qJ db
  refine c_ db da (fun _ nR => ?_) fun _ n4 => ?_
  ·
   refine rgH ?_; intro nT jk
   refine s1 db 87 (.func (.func 33) #[] #[pt a 0]) ?_; intro qK jl
   refine z1 jl ah 88 H 0 (.func (.func 30) #[] #[pt p 0, pt i 0, pt a 0, pt h 0]) rfl ?_; intro qL jm
   obtain ⟨nU, jn⟩ := nR
   refine ck jm 30 #[pt p 0, pt i 0, pt a 0, pt h 0] ?_
   obtain ⟨av, nV, jo⟩ := hxq jn
   have l := rbb_fun u0 D.2.1 D.2.2.1 D.2.2.2 nU p 0 i a h _ _ _ _ _ _ G ah ah.fz; rw [nV] at l; refine l.mono ?_; rintro _ nW ⟨nX, rfl, br, hm⟩; refine ⟨_, rfl, ?_⟩; intro qM jp; have jq := hm
   replace Q := Q.mono br
   have d8 : Mem w.heap.size [] w Z [.row i [str av.2.1] 9, .row a [i6 av.2.2.1] 25, .row h [i6 av.2.2.2] 3, .row j [i6 n.ID, .bool n.Long, .bool (D.1 == ([49] : List UInt8)), .bool n.Remote, i6 n.Size, .slice none 0 0] 24, .row m [i6 0, .bool false, .bool false, .bool false, i6 0, .slice none 0 0] 24] nX nW := jq
   refine sc jp .eql (.bool (av.1 == ([48] : List UInt8))) ?_; intro qN jr
   refine ck jr 33 #[.bool (av.1 == ([48] : List UInt8)), i6 4, pt a 0] ?_
   obtain ⟨js, nY, nZ⟩ := hxq jo
   have l := rbm_fun (av.1 == ([48] : List UInt8)) 4 av.2.2.1 a _ _ _ _ _ _ (d8.perm (pk 1 rfl)) d8.fz; rw [nY] at l; refine l.mono ?_; rintro _ n0 ⟨jt, rfl, bs, hm⟩; refine ⟨_, rfl, ?_⟩; intro qO n1; have ju := hm
   replace Q := Q.mono bs
   have n2 : Mem w.heap.size [] w Z [.row a [i6 js] 25, .row i [str av.2.1] 9, .row h [i6 av.2.2.2] 3, .row j [i6 n.ID, .bool n.Long, .bool (D.1 == ([49] : List UInt8)), .bool n.Remote, i6 n.Size, .slice none 0 0] 24, .row m [i6 0, .bool false, .bool false, .bool false, i6 0, .slice none 0 0] 24] jt n0 := ju
   apply jk
   apply d_
   have n3 := n2.perm ((pk 1 rfl).trans (lpr.cons _))
   exact dy av.2.1 js av.2.2.2 jt ⟨nZ, Q⟩ _ _ ((n1.reg).anyβ _ (by kernel_rfl)) (n3.kp)
  exact l_ (d_ (dy D.2.1 D.2.2.1 D.2.2.2 bB ⟨n4, Q⟩ _ _ ((db.reg).anyβ _ (by kernel_rfl)) (ah.kp)))
 have aX := Fz.le.refl bv
 refine c_ fm cf (fun _ jv => ?_) fun _ oq => ?_
 ·
  refine sqH ?_; intro n5 jw
  refine bt fm aY 3 [3] [] [(44, .func (.func 33) #[] #[pt a 0]), (46, .bool (N.1 == ([49] : List UInt8)))] ?_; intro qP jx
  refine ck jx 33 #[.bool (N.1 == ([49] : List UInt8)), i6 4, pt a 0] ?_
  obtain ⟨U, n6, n7⟩ := hxq jv
  have l := rbm_fun (N.1 == ([49] : List UInt8)) 4 z.2.2.1 a _ _ _ _ _ _ (aY.perm (pk 1 rfl)) aY.fz; rw [n6] at l; refine l.mono ?_; rintro _ n8 ⟨jy, rfl, b5, hm⟩; refine ⟨_, rfl, ?_⟩; intro n9 jz; have jA := hm
  replace M := M.mono b5
  replace R := R.mono b5
  replace aX := aX.mono b5
  have jB : Mem w.heap.size [] w Z [.row a [i6 U] 25, .row i [str z.2.1] 9, .row h [i6 z.2.2.2] 3, .row j [i6 F.1, .bool (z.1 == ([49] : List UInt8)), .bool false, .bool (N.1 == ([49] : List UInt8)), i6 0, .slice none 0 0] 24, .row m [i6 0, .bool false, .bool false, .bool false, i6 0, .slice none 0 0] 24] jy n8 := jA
  apply jw
  have jC : Fr 212 [] [⟨1, [], pt p 0⟩, ⟨2, [], pt m 0⟩, ⟨5, [], pt j 0⟩, ⟨6, [], pt h 0⟩, ⟨7, [], pt a 0⟩, ⟨8, [], pt i 0⟩, ⟨9, [], pt B 0⟩, ⟨10, [], .func (.func 32) #[] #[pt B 0]⟩, ⟨11, [], .func (.func 33) #[] #[pt a 0]⟩] n9 := jz.reg
  refine wp_seq (rgS mixed jB [(0, true), (1, true), (2, true), (3, true), (4, false), (5, true), (6, true), (7, false)] [7] [3] [.row j [i6 F.1, .bool (z.1 == ([49] : List UInt8)), .bool false, .bool (N.1 == ([49] : List UInt8)), i6 0, .slice none 0 0] 24] ?_)
  intro oa jD qQ ea
  have eb := Fz.le.refl jy
  refine cS jC 4 [0] [] [(50, i6 (bShl .i64 F.1 18)), (51, .func (.func 32) #[] #[pt B 0])] ?_; intro qR jE
  refine eS rfl ?_; intro ob jF
  obtain ⟨oc, od⟩ := n7
  refine ck jE 32 #[i6 18, pt B 0] ?_
  refine (rbn_fun 18 u0 z.2.1 U z.2.2.2 oc B 0 p 0 i a h _ _ _ _ _ _ R M (ea.perm ((pk 1 rfl).trans (lpr.cons _))) ea.fz).mono ?_; rintro _ oe ⟨jG, rfl, bu, hm⟩; refine ⟨_, rfl, ?_⟩; intro qS jH; have jI := hm
  replace M := M.mono bu
  replace R := R.mono bu
  replace aX := aX.mono bu
  replace eb := eb.mono bu
  have ec : Mem w.heap.size [] w Z [.row i [str (rbnS 18 u0 z.2.1 U z.2.2.2).2.1] 9, .row a [i6 (rbnS 18 u0 z.2.1 U z.2.2.2).2.2.1] 25, .row h [i6 (rbnS 18 u0 z.2.1 U z.2.2.2).2.2.2] 3, .row j [i6 F.1, .bool (z.1 == ([49] : List UInt8)), .bool false, .bool (N.1 == ([49] : List UInt8)), i6 0, .slice none 0 0] 24, .row m [i6 0, .bool false, .bool false, .bool false, i6 0, .slice none 0 0] 24] jG oe := jI
  refine nl (qnI (jF _ _ (ec.cst eb [3]) ?_))
  refine cS jH 2 [] [] [(53, i6 (w64 ((bShl .i64 F.1 18) + (rbnS 18 u0 z.2.1 U z.2.2.2).1))), (54, pt j 0)] ?_; intro qT ed
  refine eL rfl ?_; intro og jJ
  refine sx ed ec 3 [i6 (w64 ((bShl .i64 F.1 18) + (rbnS 18 u0 z.2.1 U z.2.2.2).1)), .bool (z.1 == ([49] : List UInt8)), .bool false, .bool (N.1 == ([49] : List UInt8)), i6 0, .slice none 0 0] 0 ?_; intro oh jK
  have dc : Mem w.heap.size [] w Z [.row i [str (rbnS 18 u0 z.2.1 U z.2.2.2).2.1] 9, .row a [i6 (rbnS 18 u0 z.2.1 U z.2.2.2).2.2.1] 25, .row h [i6 (rbnS 18 u0 z.2.1 U z.2.2.2).2.2.2] 3, .row j [i6 (w64 ((bShl .i64 F.1 18) + (rbnS 18 u0 z.2.1 U z.2.2.2).1)), .bool (z.1 == ([49] : List UInt8)), .bool false, .bool (N.1 == ([49] : List UInt8)), i6 0, .slice none 0 0] 24, .row m [i6 0, .bool false, .bool false, .bool false, i6 0, .slice none 0 0] 24] jG oh := jK
  refine nl (qnI (jJ _ _ ?_))
  refine nS (jD _ _ ?_)
  refine t_ (rgH ?_); intro oi jL
  refine z1 ed dc 55 R 0 (.func (.func 30) #[] #[pt p 0, pt i 0, pt a 0, pt h 0]) rfl ?_; intro qU jM
  obtain ⟨oj, jN⟩ := od
  refine ck jM 30 #[pt p 0, pt i 0, pt a 0, pt h 0] ?_
  obtain ⟨ag, ok, ol⟩ := hxq jN
  have l := rbb_fun u0 (rbnS 18 u0 z.2.1 U z.2.2.2).2.1 (rbnS 18 u0 z.2.1 U z.2.2.2).2.2.1 (rbnS 18 u0 z.2.1 U z.2.2.2).2.2.2 oj p 0 i a h _ _ _ _ _ _ M dc dc.fz; rw [ok] at l; refine l.mono ?_; rintro _ om ⟨ee, rfl, b6, hm⟩; refine ⟨_, rfl, ?_⟩; intro qV jO; have jP := hm
  replace aX := aX.mono b6
  have ef : Mem w.heap.size [] w Z [.row i [str ag.2.1] 9, .row a [i6 ag.2.2.1] 25, .row h [i6 ag.2.2.2] 3, .row j [i6 (w64 ((bShl .i64 F.1 18) + (rbnS 18 u0 z.2.1 U z.2.2.2).1)), .bool (z.1 == ([49] : List UInt8)), .bool false, .bool (N.1 == ([49] : List UInt8)), i6 0, .slice none 0 0] 24, .row m [i6 0, .bool false, .bool false, .bool false, i6 0, .slice none 0 0] 24] ee om := jP
  refine bt jO ef 2 [] [269] [(57, .bool (ag.1 == ([49] : List UInt8))), (58, pt j 3)] ?_; intro qW jQ
  refine sx jQ ef 3 [i6 (w64 ((bShl .i64 F.1 18) + (rbnS 18 u0 z.2.1 U z.2.2.2).1)), .bool (z.1 == ([49] : List UInt8)), .bool false, .bool (ag.1 == ([49] : List UInt8)), i6 0, .slice none 0 0] 3 ?_; intro oo jR
  have op : Mem w.heap.size [] w Z [.row i [str ag.2.1] 9, .row a [i6 ag.2.2.1] 25, .row h [i6 ag.2.2.2] 3, .row j [i6 (w64 ((bShl .i64 F.1 18) + (rbnS 18 u0 z.2.1 U z.2.2.2).1)), .bool (z.1 == ([49] : List UInt8)), .bool false, .bool (ag.1 == ([49] : List UInt8)), i6 0, .slice none 0 0] 24, .row m [i6 0, .bool false, .bool false, .bool false, i6 0, .slice none 0 0] 24] ee oo := jR
  apply jL
  exact d_ (fo ag.2.1 ag.2.2.1 ag.2.2.2 (⟨w64 ((bShl .i64 F.1 18) + (rbnS 18 u0 z.2.1 U z.2.2.2).1), z.1 == ([49] : List UInt8), false, ag.1 == ([49] : List UInt8), 0, []⟩ : Frame) ee ⟨ol, aX⟩ _ _ ((jQ.reg).anyβ _ (by kernel_rfl)) (op.kp))
 exact l_ (d_ (fo z.2.1 z.2.2.1 z.2.2.2 (⟨F.1, z.1 == ([49] : List UInt8), false, N.1 == ([49] : List UInt8), 0, []⟩ : Frame) bv ⟨oq, aX⟩ _ _ ((fm.reg).anyβ _ (by kernel_rfl)) (aY.kp)))

end Go.Proofs.YtmnlahbngbigdaaGreatDoor
set_option linter.unusedVariables false
set_option linter.unusedSimpArgs false
set_option maxRecDepth 100000
set_option maxHeartbeats 0
namespace Go.Proofs.YtmnlahbngbigdaaGreatDoor
open Go.Sy Go.RowKit
abbrev e24Gframed (X : Frame) (A0 : Option Addr) (C0 : Nat) : List Value := [i6 X.ID, .bool X.Long, .bool X.Fast, .bool X.Remote, i6 X.Size, .slice A0 X.Data.length C0]
theorem framed_walk   (Z : Fz) (w : World)  (hZ : Z.on w) {K : Bool → Prop} (hp : framed_vc  K) : Calls Tryz.prog 7 #[] w fun e w' => ∃ r : Bool, e = .returned (.bool r) ∧ K r ∧ Below w.heap.size w w' := by
 refine enter0 Tryz.func7 rfl rfl (by kernel_rfl) ?_; intro a0 G; have n := Mem.start w Z hZ
 refine sqB G n [] [] [] ?_; intro a2 H
 refine sqH ?_; intro aF I
 refine nw H n (fun b => .slice (sm b) 2 2) [y8 1, y8 255] 5 ?_; intro a a6 aU J L
 refine s1 J 8 (.agg #[i6 5, .bool false, .bool false, .bool false, i6 0, .slice (sm a) 2 2]) ?_; intro aV M
 refine nw M L pb [i6 0, .bool false, .bool false, .bool false, i6 0, .slice none 0 0] 24 ?_; intro f aW aX o N
 refine sx o N 0 [i6 5, .bool false, .bool false, .bool false, i6 0, .slice (sm a) 2 2] 0 ?_; intro p O
 have q : Mem w.heap.size [] w Z [.row f [i6 5, .bool false, .bool false, .bool false, i6 0, .slice (sm a) 2 2] 24, .row a [y8 1, y8 255] 5] Z p := O
 apply I
 refine sqH ?_; intro aG P
 refine l2 o q 10 0 0 6 [i6 5, .bool false, .bool false, .bool false, i6 0, .slice (sm a) 2 2] rfl rfl ?_; intro aY Q
 have aH : Mem w.heap.size [] w Z [.row f [i6 5, .bool false, .bool false, .bool false, i6 0, .slice (sm a) 2 2] 24, .own t8 5 (sm a) 2 ([1, 255] : List Int)] Z p := q.rowOwn (T := t8) (xs := ([1, 255] : List Int)) 1 rfl (by decide) (by show 2 ≤ lim; decide) ((RepAll.one (T := t8) (x := 1) rfl).append (RepAll.one (T := t8) (x := 255) rfl))
 obtain ⟨aI, aJ, R, j⟩ := aH.freeze 1 rfl
 have s : Mem w.heap.size [] w Z [.row f [i6 5, .bool false, .bool false, .bool false, i6 0, .slice (sm a) 2 2] 24] aI p := R
 obtain ⟨aK, aL⟩ := hp
 refine fc Q s (fBits_fun (⟨5, false, false, false, 0, ([1, 255] : List Int)⟩ : Frame) aK (sm a) 2 _ _ j s.fz) ?_; intro aZ a1 S l
 refine bt S l 5 [] [] [(2, str (BitsS (⟨5, false, false, false, 0, ([1, 255] : List Int)⟩ : Frame)).1), (3, i6 (BitsS (⟨5, false, false, false, 0, ([1, 255] : List Int)⟩ : Frame)).2)] ?_; intro a3 U
 apply P
 refine sqH ?_; intro aM V
 refine s1 U 15 (str (BitsS (⟨5, false, false, false, 0, ([1, 255] : List Int)⟩ : Frame)).1) ?_; intro a4 W
 obtain ⟨aN, X⟩ := aL
 refine sa W aN ?_; intro a5 Y
 refine ck Y 5 #[str ((BitsS (⟨5, false, false, false, 0, ([1, 255] : List Int)⟩ : Frame)).1 ++ ([49] : List UInt8))] ?_
 refine (fRead_fun ((BitsS (⟨5, false, false, false, 0, ([1, 255] : List Int)⟩ : Frame)).1 ++ ([49] : List UInt8)) _ _ l.fz).mono ?_; rintro _ aO ⟨c, d, aa, rfl, ab, hm⟩; refine ⟨_, rfl, ?_⟩; intro a7 ac; have ad := l.callZ hm; have ae := hm.ext.le
 replace j := j.mono ae
 have t : Mem w.heap.size [] w Z [.row f [i6 5, .bool false, .bool false, .bool false, i6 0, .slice (sm a) 2 2] 24] aa aO := ad
 have aP := X (ab.small)
 refine bt ac t 4 [] [] [(18, .agg (e24Gframed ((readS ((BitsS (⟨5, false, false, false, 0, ([1, 255] : List Int)⟩ : Frame)).1 ++ ([49] : List UInt8))).1) c d).toArray), (19, i6 (readS ((BitsS (⟨5, false, false, false, 0, ([1, 255] : List Int)⟩ : Frame)).1 ++ ([49] : List UInt8))).2.1), (20, i6 (readS ((BitsS (⟨5, false, false, false, 0, ([1, 255] : List Int)⟩ : Frame)).1 ++ ([49] : List UInt8))).2.2)] ?_; intro a8 af
 refine nw af t pb [i6 0, .bool false, .bool false, .bool false, i6 0, .slice none 0 0] 24 ?_; intro ag a9 ba u ah
 refine sx u ah 0 (e24Gframed ((readS ((BitsS (⟨5, false, false, false, 0, ([1, 255] : List Int)⟩ : Frame)).1 ++ ([49] : List UInt8))).1) c d) 0 ?_; intro aQ y
 refine bt u y 2 [] [] [(5, i6 (readS ((BitsS (⟨5, false, false, false, 0, ([1, 255] : List Int)⟩ : Frame)).1 ++ ([49] : List UInt8))).2.1), (6, i6 (readS ((BitsS (⟨5, false, false, false, 0, ([1, 255] : List Int)⟩ : Frame)).1 ++ ([49] : List UInt8))).2.2)] ?_; intro bb ai
 have h : Mem w.heap.size [] w Z [.row ag (e24Gframed ((readS ((BitsS (⟨5, false, false, false, 0, ([1, 255] : List Int)⟩ : Frame)).1 ++ ([49] : List UInt8))).1) c d) 24, .row f [i6 5, .bool false, .bool false, .bool false, i6 0, .slice (sm a) 2 2] 24] aa aQ := y
 apply V
 refine sqH ?_; intro aR aj
 refine s1 ai 21 (i6 (BitsS (⟨5, false, false, false, 0, ([1, 255] : List Int)⟩ : Frame)).2) ?_; intro bc ak
 refine s1 ak 22 (.bool ((BitsS (⟨5, false, false, false, 0, ([1, 255] : List Int)⟩ : Frame)).2 == 0)) ?_; intro bd al
 refine s1 al 23 (.bool ((BitsS (⟨5, false, false, false, 0, ([1, 255] : List Int)⟩ : Frame)).2 == 0)) ?_; intro be am
 have an := am.atom (((BitsS (⟨5, false, false, false, 0, ([1, 255] : List Int)⟩ : Frame)).2 == 0) == true) (by kernel_rfl)
 refine gp an 24 0 [] ((BitsS (⟨5, false, false, false, 0, ([1, 255] : List Int)⟩ : Frame)).2 == 0) (i6 (readS ((BitsS (⟨5, false, false, false, 0, ([1, 255] : List Int)⟩ : Frame)).1 ++ ([49] : List UInt8))).2.2) rfl rfl ?_; intro bf ao
 refine gp ao 25 0 [] ((BitsS (⟨5, false, false, false, 0, ([1, 255] : List Int)⟩ : Frame)).2 == 0) (.bool ((readS ((BitsS (⟨5, false, false, false, 0, ([1, 255] : List Int)⟩ : Frame)).1 ++ ([49] : List UInt8))).2.2 == 0)) rfl rfl ?_; intro bg z
 refine u_ z (.bool (((BitsS (⟨5, false, false, false, 0, ([1, 255] : List Int)⟩ : Frame)).2 == 0) && ((readS ((BitsS (⟨5, false, false, false, 0, ([1, 255] : List Int)⟩ : Frame)).1 ++ ([49] : List UInt8))).2.2 == 0))) (pk_and z (g := []) (m := 0) (b := (BitsS (⟨5, false, false, false, 0, ([1, 255] : List Int)⟩ : Frame)).2 == 0) (v := (readS ((BitsS (⟨5, false, false, false, 0, ([1, 255] : List Int)⟩ : Frame)).1 ++ ([49] : List UInt8))).2.2 == 0) rfl (by kernel_rfl) (by kernel_rfl) (by kernel_rfl) rfl) ?_; intro bh ap
 refine s1 ap 27 (.bool (((BitsS (⟨5, false, false, false, 0, ([1, 255] : List Int)⟩ : Frame)).2 == 0) && ((readS ((BitsS (⟨5, false, false, false, 0, ([1, 255] : List Int)⟩ : Frame)).1 ++ ([49] : List UInt8))).2.2 == 0))) ?_; intro bi aq
 have ar := aq.atom ((((BitsS (⟨5, false, false, false, 0, ([1, 255] : List Int)⟩ : Frame)).2 == 0) && ((readS ((BitsS (⟨5, false, false, false, 0, ([1, 255] : List Int)⟩ : Frame)).1 ++ ([49] : List UInt8))).2.2 == 0)) == true) (by kernel_rfl)
 refine gp ar 28 1 [] (((BitsS (⟨5, false, false, false, 0, ([1, 255] : List Int)⟩ : Frame)).2 == 0) && ((readS ((BitsS (⟨5, false, false, false, 0, ([1, 255] : List Int)⟩ : Frame)).1 ++ ([49] : List UInt8))).2.2 == 0)) (i6 (readS ((BitsS (⟨5, false, false, false, 0, ([1, 255] : List Int)⟩ : Frame)).1 ++ ([49] : List UInt8))).2.1) rfl rfl ?_; intro bk au
 refine gp au 29 1 [] (((BitsS (⟨5, false, false, false, 0, ([1, 255] : List Int)⟩ : Frame)).2 == 0) && ((readS ((BitsS (⟨5, false, false, false, 0, ([1, 255] : List Int)⟩ : Frame)).1 ++ ([49] : List UInt8))).2.2 == 0)) (str (BitsS (⟨5, false, false, false, 0, ([1, 255] : List Int)⟩ : Frame)).1) rfl rfl ?_; intro bl av
 refine gp av 30 1 [] (((BitsS (⟨5, false, false, false, 0, ([1, 255] : List Int)⟩ : Frame)).2 == 0) && ((readS ((BitsS (⟨5, false, false, false, 0, ([1, 255] : List Int)⟩ : Frame)).1 ++ ([49] : List UInt8))).2.2 == 0)) (i6 ((BitsS (⟨5, false, false, false, 0, ([1, 255] : List Int)⟩ : Frame)).1.length : Int)) rfl rfl ?_; intro bm aw
 refine gp aw 31 1 [] (((BitsS (⟨5, false, false, false, 0, ([1, 255] : List Int)⟩ : Frame)).2 == 0) && ((readS ((BitsS (⟨5, false, false, false, 0, ([1, 255] : List Int)⟩ : Frame)).1 ++ ([49] : List UInt8))).2.2 == 0)) (.bool ((readS ((BitsS (⟨5, false, false, false, 0, ([1, 255] : List Int)⟩ : Frame)).1 ++ ([49] : List UInt8))).2.1 == ((BitsS (⟨5, false, false, false, 0, ([1, 255] : List Int)⟩ : Frame)).1.length : Int))) rfl rfl ?_; intro bn A
 refine u_ A (.bool ((((BitsS (⟨5, false, false, false, 0, ([1, 255] : List Int)⟩ : Frame)).2 == 0) && ((readS ((BitsS (⟨5, false, false, false, 0, ([1, 255] : List Int)⟩ : Frame)).1 ++ ([49] : List UInt8))).2.2 == 0)) && ((readS ((BitsS (⟨5, false, false, false, 0, ([1, 255] : List Int)⟩ : Frame)).1 ++ ([49] : List UInt8))).2.1 == ((BitsS (⟨5, false, false, false, 0, ([1, 255] : List Int)⟩ : Frame)).1.length : Int)))) (pk_and A (g := []) (m := 1) (b := ((BitsS (⟨5, false, false, false, 0, ([1, 255] : List Int)⟩ : Frame)).2 == 0) && ((readS ((BitsS (⟨5, false, false, false, 0, ([1, 255] : List Int)⟩ : Frame)).1 ++ ([49] : List UInt8))).2.2 == 0)) (v := (readS ((BitsS (⟨5, false, false, false, 0, ([1, 255] : List Int)⟩ : Frame)).1 ++ ([49] : List UInt8))).2.1 == ((BitsS (⟨5, false, false, false, 0, ([1, 255] : List Int)⟩ : Frame)).1.length : Int)) rfl (by kernel_rfl) (by kernel_rfl) (by kernel_rfl) rfl) ?_; intro bo ax
 refine s1 ax 33 (.bool ((((BitsS (⟨5, false, false, false, 0, ([1, 255] : List Int)⟩ : Frame)).2 == 0) && ((readS ((BitsS (⟨5, false, false, false, 0, ([1, 255] : List Int)⟩ : Frame)).1 ++ ([49] : List UInt8))).2.2 == 0)) && ((readS ((BitsS (⟨5, false, false, false, 0, ([1, 255] : List Int)⟩ : Frame)).1 ++ ([49] : List UInt8))).2.1 == ((BitsS (⟨5, false, false, false, 0, ([1, 255] : List Int)⟩ : Frame)).1.length : Int)))) ?_; intro bp ay
 have B := ay.atom (((((BitsS (⟨5, false, false, false, 0, ([1, 255] : List Int)⟩ : Frame)).2 == 0) && ((readS ((BitsS (⟨5, false, false, false, 0, ([1, 255] : List Int)⟩ : Frame)).1 ++ ([49] : List UInt8))).2.2 == 0)) && ((readS ((BitsS (⟨5, false, false, false, 0, ([1, 255] : List Int)⟩ : Frame)).1 ++ ([49] : List UInt8))).2.1 == ((BitsS (⟨5, false, false, false, 0, ([1, 255] : List Int)⟩ : Frame)).1.length : Int))) == true) (by kernel_rfl)
 refine gd B (.agg #[i6 5, .bool false, .bool false, .bool false, i6 0, .slice (sm a) 2 2]) (m := 2) (cj := []) (bj := (((BitsS (⟨5, false, false, false, 0, ([1, 255] : List Int)⟩ : Frame)).2 == 0) && ((readS ((BitsS (⟨5, false, false, false, 0, ([1, 255] : List Int)⟩ : Frame)).1 ++ ([49] : List UInt8))).2.2 == 0)) && ((readS ((BitsS (⟨5, false, false, false, 0, ([1, 255] : List Int)⟩ : Frame)).1 ++ ([49] : List UInt8))).2.1 == ((BitsS (⟨5, false, false, false, 0, ([1, 255] : List Int)⟩ : Frame)).1.length : Int))) rfl rfl (by kernel_rfl) rfl (by kernel_rfl) (by kernel_rfl) (by kernel_rfl) (fun hg => lda B h 1 (g := [2]) (b := f) (off := 0) (k := 6) (cs := [i6 5, .bool false, .bool false, .bool false, i6 0, .slice (sm a) 2 2]) (vs := [i6 5, .bool false, .bool false, .bool false, i6 0, .slice (sm a) 2 2]) (ty := 24) rfl (by kernel_rfl) (by kernel_rfl) (by kernel_rfl) (by kernel_rfl) (by kernel_rfl) hg) ?_; intro bq C
 refine gd C (.agg (e24Gframed ((readS ((BitsS (⟨5, false, false, false, 0, ([1, 255] : List Int)⟩ : Frame)).1 ++ ([49] : List UInt8))).1) c d).toArray) (m := 2) (cj := []) (bj := (((BitsS (⟨5, false, false, false, 0, ([1, 255] : List Int)⟩ : Frame)).2 == 0) && ((readS ((BitsS (⟨5, false, false, false, 0, ([1, 255] : List Int)⟩ : Frame)).1 ++ ([49] : List UInt8))).2.2 == 0)) && ((readS ((BitsS (⟨5, false, false, false, 0, ([1, 255] : List Int)⟩ : Frame)).1 ++ ([49] : List UInt8))).2.1 == ((BitsS (⟨5, false, false, false, 0, ([1, 255] : List Int)⟩ : Frame)).1.length : Int))) rfl rfl (by kernel_rfl) rfl (by kernel_rfl) (by kernel_rfl) (by kernel_rfl) (fun hg => lda C h 0 (g := [2]) (b := ag) (off := 0) (k := 6) (cs := (e24Gframed ((readS ((BitsS (⟨5, false, false, false, 0, ([1, 255] : List Int)⟩ : Frame)).1 ++ ([49] : List UInt8))).1) c d)) (vs := (e24Gframed ((readS ((BitsS (⟨5, false, false, false, 0, ([1, 255] : List Int)⟩ : Frame)).1 ++ ([49] : List UInt8))).1) c d)) (ty := 24) rfl (by kernel_rfl) (by kernel_rfl) (by kernel_rfl) (by kernel_rfl) (by kernel_rfl) hg) ?_; intro br az
 refine gcl az h (.bool (sameS (⟨5, false, false, false, 0, ([1, 255] : List Int)⟩ : Frame) (readS ((BitsS (⟨5, false, false, false, 0, ([1, 255] : List Int)⟩ : Frame)).1 ++ ([49] : List UInt8))).1)) 10 #[.agg #[i6 5, .bool false, .bool false, .bool false, i6 0, .slice (sm a) ([1, 255] : List Int).length 2], .agg (e24Gframed ((readS ((BitsS (⟨5, false, false, false, 0, ([1, 255] : List Int)⟩ : Frame)).1 ++ ([49] : List UInt8))).1) c d).toArray] (m := 2) (cj := []) (bj := (((BitsS (⟨5, false, false, false, 0, ([1, 255] : List Int)⟩ : Frame)).2 == 0) && ((readS ((BitsS (⟨5, false, false, false, 0, ([1, 255] : List Int)⟩ : Frame)).1 ++ ([49] : List UInt8))).2.2 == 0)) && ((readS ((BitsS (⟨5, false, false, false, 0, ([1, 255] : List Int)⟩ : Frame)).1 ++ ([49] : List UInt8))).2.1 == ((BitsS (⟨5, false, false, false, 0, ([1, 255] : List Int)⟩ : Frame)).1.length : Int))) rfl rfl (by kernel_rfl) rfl (by kernel_rfl) (by kernel_rfl) (by kernel_rfl) (fun _ => by kernel_rfl) (fun hg => rSame_fun (⟨5, false, false, false, 0, ([1, 255] : List Int)⟩ : Frame) (readS ((BitsS (⟨5, false, false, false, 0, ([1, 255] : List Int)⟩ : Frame)).1 ++ ([49] : List UInt8))).1 (sm a) 2 c d _ _ j ab h.fz) ?_; intro bs bu D E
 refine u_ D (.bool (((((BitsS (⟨5, false, false, false, 0, ([1, 255] : List Int)⟩ : Frame)).2 == 0) && ((readS ((BitsS (⟨5, false, false, false, 0, ([1, 255] : List Int)⟩ : Frame)).1 ++ ([49] : List UInt8))).2.2 == 0)) && ((readS ((BitsS (⟨5, false, false, false, 0, ([1, 255] : List Int)⟩ : Frame)).1 ++ ([49] : List UInt8))).2.1 == ((BitsS (⟨5, false, false, false, 0, ([1, 255] : List Int)⟩ : Frame)).1.length : Int))) && (sameS (⟨5, false, false, false, 0, ([1, 255] : List Int)⟩ : Frame) (readS ((BitsS (⟨5, false, false, false, 0, ([1, 255] : List Int)⟩ : Frame)).1 ++ ([49] : List UInt8))).1))) (pk_and D (g := []) (m := 2) (b := (((BitsS (⟨5, false, false, false, 0, ([1, 255] : List Int)⟩ : Frame)).2 == 0) && ((readS ((BitsS (⟨5, false, false, false, 0, ([1, 255] : List Int)⟩ : Frame)).1 ++ ([49] : List UInt8))).2.2 == 0)) && ((readS ((BitsS (⟨5, false, false, false, 0, ([1, 255] : List Int)⟩ : Frame)).1 ++ ([49] : List UInt8))).2.1 == ((BitsS (⟨5, false, false, false, 0, ([1, 255] : List Int)⟩ : Frame)).1.length : Int))) (v := (sameS (⟨5, false, false, false, 0, ([1, 255] : List Int)⟩ : Frame) (readS ((BitsS (⟨5, false, false, false, 0, ([1, 255] : List Int)⟩ : Frame)).1 ++ ([49] : List UInt8))).1)) rfl (by kernel_rfl) (by kernel_rfl) (by kernel_rfl) rfl) ?_; intro bv aA
 refine s1 aA 38 (.bool (((((BitsS (⟨5, false, false, false, 0, ([1, 255] : List Int)⟩ : Frame)).2 == 0) && ((readS ((BitsS (⟨5, false, false, false, 0, ([1, 255] : List Int)⟩ : Frame)).1 ++ ([49] : List UInt8))).2.2 == 0)) && ((readS ((BitsS (⟨5, false, false, false, 0, ([1, 255] : List Int)⟩ : Frame)).1 ++ ([49] : List UInt8))).2.1 == ((BitsS (⟨5, false, false, false, 0, ([1, 255] : List Int)⟩ : Frame)).1.length : Int))) && (sameS (⟨5, false, false, false, 0, ([1, 255] : List Int)⟩ : Frame) (readS ((BitsS (⟨5, false, false, false, 0, ([1, 255] : List Int)⟩ : Frame)).1 ++ ([49] : List UInt8))).1))) ?_; intro bw aB
 have aC := aB.atom ((((((BitsS (⟨5, false, false, false, 0, ([1, 255] : List Int)⟩ : Frame)).2 == 0) && ((readS ((BitsS (⟨5, false, false, false, 0, ([1, 255] : List Int)⟩ : Frame)).1 ++ ([49] : List UInt8))).2.2 == 0)) && ((readS ((BitsS (⟨5, false, false, false, 0, ([1, 255] : List Int)⟩ : Frame)).1 ++ ([49] : List UInt8))).2.1 == ((BitsS (⟨5, false, false, false, 0, ([1, 255] : List Int)⟩ : Frame)).1.length : Int))) && (sameS (⟨5, false, false, false, 0, ([1, 255] : List Int)⟩ : Frame) (readS ((BitsS (⟨5, false, false, false, 0, ([1, 255] : List Int)⟩ : Frame)).1 ++ ([49] : List UInt8))).1)) == true) (by kernel_rfl)
 refine gp aC 39 3 [] (((((BitsS (⟨5, false, false, false, 0, ([1, 255] : List Int)⟩ : Frame)).2 == 0) && ((readS ((BitsS (⟨5, false, false, false, 0, ([1, 255] : List Int)⟩ : Frame)).1 ++ ([49] : List UInt8))).2.2 == 0)) && ((readS ((BitsS (⟨5, false, false, false, 0, ([1, 255] : List Int)⟩ : Frame)).1 ++ ([49] : List UInt8))).2.1 == ((BitsS (⟨5, false, false, false, 0, ([1, 255] : List Int)⟩ : Frame)).1.length : Int))) && (sameS (⟨5, false, false, false, 0, ([1, 255] : List Int)⟩ : Frame) (readS ((BitsS (⟨5, false, false, false, 0, ([1, 255] : List Int)⟩ : Frame)).1 ++ ([49] : List UInt8))).1)) (str (BitsS (⟨5, false, false, false, 0, ([1, 255] : List Int)⟩ : Frame)).1) rfl rfl ?_; intro bx aD
 refine gcl aD E (.bool (hasprefix (BitsS (⟨5, false, false, false, 0, ([1, 255] : List Int)⟩ : Frame)).1 ([48, 48, 48, 48, 48, 49, 48, 48, 48, 48, 49, 48, 49] : List UInt8))) 29 #[str (BitsS (⟨5, false, false, false, 0, ([1, 255] : List Int)⟩ : Frame)).1, str ([48, 48, 48, 48, 48, 49, 48, 48, 48, 48, 49, 48, 49] : List UInt8)] (m := 3) (cj := []) (bj := ((((BitsS (⟨5, false, false, false, 0, ([1, 255] : List Int)⟩ : Frame)).2 == 0) && ((readS ((BitsS (⟨5, false, false, false, 0, ([1, 255] : List Int)⟩ : Frame)).1 ++ ([49] : List UInt8))).2.2 == 0)) && ((readS ((BitsS (⟨5, false, false, false, 0, ([1, 255] : List Int)⟩ : Frame)).1 ++ ([49] : List UInt8))).2.1 == ((BitsS (⟨5, false, false, false, 0, ([1, 255] : List Int)⟩ : Frame)).1.length : Int))) && (sameS (⟨5, false, false, false, 0, ([1, 255] : List Int)⟩ : Frame) (readS ((BitsS (⟨5, false, false, false, 0, ([1, 255] : List Int)⟩ : Frame)).1 ++ ([49] : List UInt8))).1)) rfl rfl (by kernel_rfl) rfl (by kernel_rfl) (by kernel_rfl) (by kernel_rfl) (fun _ => by kernel_rfl) (fun hg => hasprefix_fun (BitsS (⟨5, false, false, false, 0, ([1, 255] : List Int)⟩ : Frame)).1 ([48, 48, 48, 48, 48, 49, 48, 48, 48, 48, 49, 48, 49] : List UInt8) _ _ E.fz) ?_; intro bz bA F aS
 refine u_ F (.bool ((((((BitsS (⟨5, false, false, false, 0, ([1, 255] : List Int)⟩ : Frame)).2 == 0) && ((readS ((BitsS (⟨5, false, false, false, 0, ([1, 255] : List Int)⟩ : Frame)).1 ++ ([49] : List UInt8))).2.2 == 0)) && ((readS ((BitsS (⟨5, false, false, false, 0, ([1, 255] : List Int)⟩ : Frame)).1 ++ ([49] : List UInt8))).2.1 == ((BitsS (⟨5, false, false, false, 0, ([1, 255] : List Int)⟩ : Frame)).1.length : Int))) && (sameS (⟨5, false, false, false, 0, ([1, 255] : List Int)⟩ : Frame) (readS ((BitsS (⟨5, false, false, false, 0, ([1, 255] : List Int)⟩ : Frame)).1 ++ ([49] : List UInt8))).1)) && (hasprefix (BitsS (⟨5, false, false, false, 0, ([1, 255] : List Int)⟩ : Frame)).1 ([48, 48, 48, 48, 48, 49, 48, 48, 48, 48, 49, 48, 49] : List UInt8)))) (pk_and F (g := []) (m := 3) (b := ((((BitsS (⟨5, false, false, false, 0, ([1, 255] : List Int)⟩ : Frame)).2 == 0) && ((readS ((BitsS (⟨5, false, false, false, 0, ([1, 255] : List Int)⟩ : Frame)).1 ++ ([49] : List UInt8))).2.2 == 0)) && ((readS ((BitsS (⟨5, false, false, false, 0, ([1, 255] : List Int)⟩ : Frame)).1 ++ ([49] : List UInt8))).2.1 == ((BitsS (⟨5, false, false, false, 0, ([1, 255] : List Int)⟩ : Frame)).1.length : Int))) && (sameS (⟨5, false, false, false, 0, ([1, 255] : List Int)⟩ : Frame) (readS ((BitsS (⟨5, false, false, false, 0, ([1, 255] : List Int)⟩ : Frame)).1 ++ ([49] : List UInt8))).1)) (v := (hasprefix (BitsS (⟨5, false, false, false, 0, ([1, 255] : List Int)⟩ : Frame)).1 ([48, 48, 48, 48, 48, 49, 48, 48, 48, 48, 49, 48, 49] : List UInt8))) rfl (by kernel_rfl) (by kernel_rfl) (by kernel_rfl) rfl) ?_; intro bB aE
 refine s1 aE 0 (.bool ((((((BitsS (⟨5, false, false, false, 0, ([1, 255] : List Int)⟩ : Frame)).2 == 0) && ((readS ((BitsS (⟨5, false, false, false, 0, ([1, 255] : List Int)⟩ : Frame)).1 ++ ([49] : List UInt8))).2.2 == 0)) && ((readS ((BitsS (⟨5, false, false, false, 0, ([1, 255] : List Int)⟩ : Frame)).1 ++ ([49] : List UInt8))).2.1 == ((BitsS (⟨5, false, false, false, 0, ([1, 255] : List Int)⟩ : Frame)).1.length : Int))) && (sameS (⟨5, false, false, false, 0, ([1, 255] : List Int)⟩ : Frame) (readS ((BitsS (⟨5, false, false, false, 0, ([1, 255] : List Int)⟩ : Frame)).1 ++ ([49] : List UInt8))).1)) && (hasprefix (BitsS (⟨5, false, false, false, 0, ([1, 255] : List Int)⟩ : Frame)).1 ([48, 48, 48, 48, 48, 49, 48, 48, 48, 48, 49, 48, 49] : List UInt8)))) ?_; intro bC aT
 apply aj
 exact r_ (ra1 aT (.bool ((((((BitsS (⟨5, false, false, false, 0, ([1, 255] : List Int)⟩ : Frame)).2 == 0) && ((readS ((BitsS (⟨5, false, false, false, 0, ([1, 255] : List Int)⟩ : Frame)).1 ++ ([49] : List UInt8))).2.2 == 0)) && ((readS ((BitsS (⟨5, false, false, false, 0, ([1, 255] : List Int)⟩ : Frame)).1 ++ ([49] : List UInt8))).2.1 == ((BitsS (⟨5, false, false, false, 0, ([1, 255] : List Int)⟩ : Frame)).1.length : Int))) && (sameS (⟨5, false, false, false, 0, ([1, 255] : List Int)⟩ : Frame) (readS ((BitsS (⟨5, false, false, false, 0, ([1, 255] : List Int)⟩ : Frame)).1 ++ ([49] : List UInt8))).1)) && (hasprefix (BitsS (⟨5, false, false, false, 0, ([1, 255] : List Int)⟩ : Frame)).1 ([48, 48, 48, 48, 48, 49, 48, 48, 48, 48, 49, 48, 49] : List UInt8)))) ⟨(((((BitsS (⟨5, false, false, false, 0, ([1, 255] : List Int)⟩ : Frame)).2 == 0) && ((readS ((BitsS (⟨5, false, false, false, 0, ([1, 255] : List Int)⟩ : Frame)).1 ++ ([49] : List UInt8))).2.2 == 0)) && ((readS ((BitsS (⟨5, false, false, false, 0, ([1, 255] : List Int)⟩ : Frame)).1 ++ ([49] : List UInt8))).2.1 == ((BitsS (⟨5, false, false, false, 0, ([1, 255] : List Int)⟩ : Frame)).1.length : Int))) && (sameS (⟨5, false, false, false, 0, ([1, 255] : List Int)⟩ : Frame) (readS ((BitsS (⟨5, false, false, false, 0, ([1, 255] : List Int)⟩ : Frame)).1 ++ ([49] : List UInt8))).1)) && (hasprefix (BitsS (⟨5, false, false, false, 0, ([1, 255] : List Int)⟩ : Frame)).1 ([48, 48, 48, 48, 48, 49, 48, 48, 48, 48, 49, 48, 49] : List UInt8)), rfl, aP, aS.below⟩)

end Go.Proofs.YtmnlahbngbigdaaGreatDoor
set_option linter.unusedVariables false
set_option linter.unusedSimpArgs false
set_option linter.defProp false
namespace Go.Proofs.YtmnlahbngbigdaaGreatDoor
open Go.Sy Go.RowKit
def framed_fun   (Z : Fz) (w : World)  (hZ : Z.on w) := f_ (framed_walk   Z w  hZ (framed_ok ))
end Go.Proofs.YtmnlahbngbigdaaGreatDoor
set_option linter.unusedVariables false
set_option linter.unusedSimpArgs false
set_option linter.defProp false
set_option maxRecDepth 100000
set_option maxHeartbeats 0
namespace Go.Proofs.YtmnlahbngbigdaaGreatDoor
open Go.Sy Go.RowKit
abbrev e24Sd (X : Frame) (A0 : Option Addr) (C0 : Nat) : List Value := [i6 X.ID, .bool X.Long, .bool X.Fast, .bool X.Remote, i6 X.Size, .slice A0 X.Data.length C0]
def rreadbits_fun (u0 : List UInt8) (hpre : bcheckS u0 = 0)  (Z : Fz) (w : World) (hg5 : SlR t8 Z (sm 5) 64 deBruijn64) (hZ : Z.on w) := fc_ (rreadbits_walk u0  Z w hg5 hZ (rreadbits_ok u0 hpre))
theorem LRead_walk (u0 : List UInt8)  (Z : Fz) (w : World) (hg5 : SlR t8 Z (sm 5) 64 deBruijn64) (hZ : Z.on w) {K : Bool → Prop} (hp : LRead_vc u0 K) : Calls Tryz.prog 3 #[str u0] w fun e w' => ∃ r : Bool, e = .returned (.bool r) ∧ K r ∧ Below w.heap.size w w' := by
 refine enter0 Tryz.func3 rfl rfl (by kernel_rfl) ?_; intro a0 R; have o := Mem.start w Z hZ
 refine sqB R o [] [] [] ?_; intro a2 S
 refine sqH ?_; intro aT T
 refine s1 S 11 (str u0) ?_; intro a5 U
 refine ck U 5 #[str u0] ?_
 refine (fRead_fun u0 _ _ o.fz).mono ?_; rintro _ aU ⟨a, c, V, rfl, i, hm⟩; refine ⟨_, rfl, ?_⟩; intro a8 W; have X := o.callZ hm; have Y := hm.ext.le
 replace hg5 := hg5.mono Y
 have z : Mem w.heap.size [] w Z [] V aU := X
 have q := hp (i.small)
 refine bt W z 4 [] [] [(13, .agg (e24Sd ((readS u0).1) a c).toArray), (14, i6 (readS u0).2.1), (15, i6 (readS u0).2.2)] ?_; intro bf aa
 refine nw aa z pb [i6 0, .bool false, .bool false, .bool false, i6 0, .slice none 0 0] 24 ?_; intro j bg bh A ab
 refine sx A ab 0 (e24Sd ((readS u0).1) a c) 0 ?_; intro aV B
 refine bt A B 2 [] [] [(4, i6 (readS u0).2.1), (5, i6 (readS u0).2.2)] ?_; intro bi ac
 have C : Mem w.heap.size [] w Z [.row j (e24Sd ((readS u0).1) a c) 24] V aV := B
 apply T
 refine s_ (sqH ?_); intro aW ad
 refine s1 ac 16 (str u0) ?_; intro bk ae
 refine fc ae C (rcheckrow_fun u0 _ _ C.fz) ?_; intro bl bm af D
 refine s1 af 6 (i6 (bcheckS u0)) ?_; intro bn ag
 apply ad
 refine sqH ?_; intro aX ah
 refine fc ag D (framed_fun  _ _ D.fz) ?_; intro bo bp ai h
 refine bt ai h 5 [] [21, 22, 23] [(23, .bool ((bcheckS u0) != 0))] ?_; intro bq l
 apply ah
 refine cd l (t := (bcheckS u0) != 0) (by kernel_rfl) (fun E => ?_) (fun E => ?_)
 · -- yes
  have aY := q.1 E
  refine sqH ?_; intro aZ aj
  refine fc l h (framed_fun  _ _ h.fz) ?_; intro br bs ak s
  refine s1 ak 25 (.bool true) ?_; intro bu u
  refine g_ u true (i6 (readS u0).2.2) ?_; intro bv x
  refine g_ x true (i6 (bcheckS u0)) ?_; intro bw y
  refine g_ y true (.bool ((readS u0).2.2 == (bcheckS u0))) ?_; intro bx al
  refine s1 al 29 (.bool ((readS u0).2.2 == (bcheckS u0))) ?_; intro bz am
  refine s1 am 30 (.bool ((readS u0).2.2 == (bcheckS u0))) ?_; intro bA an
  have ao := an.atom (((readS u0).2.2 == (bcheckS u0)) == true) (by kernel_rfl)
  refine gp ao 31 0 [] ((readS u0).2.2 == (bcheckS u0)) (i6 (readS u0).2.1) rfl rfl ?_; intro bB ap
  refine gp ap 32 0 [] ((readS u0).2.2 == (bcheckS u0)) (.bool ((readS u0).2.1 == 0)) rfl rfl ?_; intro bC F
  refine u_ F (.bool (((readS u0).2.2 == (bcheckS u0)) && ((readS u0).2.1 == 0))) (pk_and F (g := []) (m := 0) (b := (readS u0).2.2 == (bcheckS u0)) (v := (readS u0).2.1 == 0) rfl (by kernel_rfl) (by kernel_rfl) (by kernel_rfl) rfl) ?_; intro bD aq
  refine s1 aq 34 (.bool (((readS u0).2.2 == (bcheckS u0)) && ((readS u0).2.1 == 0))) ?_; intro bE ar
  have G := ar.atom ((((readS u0).2.2 == (bcheckS u0)) && ((readS u0).2.1 == 0)) == true) (by kernel_rfl)
  refine gd G (.agg (e24Sd ((readS u0).1) a c).toArray) (m := 1) (cj := []) (bj := ((readS u0).2.2 == (bcheckS u0)) && ((readS u0).2.1 == 0)) rfl rfl (by kernel_rfl) rfl (by kernel_rfl) (by kernel_rfl) (by kernel_rfl) (fun hg => lda G s 0 (g := [1]) (b := j) (off := 0) (k := 6) (cs := (e24Sd ((readS u0).1) a c)) (vs := (e24Sd ((readS u0).1) a c)) (ty := 24) rfl (by kernel_rfl) (by kernel_rfl) (by kernel_rfl) (by kernel_rfl) (by kernel_rfl) hg) ?_; intro bF au
  refine gcl au s (.bool (nofrS (readS u0).1)) 8 #[.agg (e24Sd ((readS u0).1) a c).toArray] (m := 1) (cj := []) (bj := ((readS u0).2.2 == (bcheckS u0)) && ((readS u0).2.1 == 0)) rfl rfl (by kernel_rfl) rfl (by kernel_rfl) (by kernel_rfl) (by kernel_rfl) (fun _ => by kernel_rfl) (fun hg => nofr_fun (readS u0).1 a c _ _ i s.fz) ?_; intro bG bH H a1
  refine u_ H (.bool ((((readS u0).2.2 == (bcheckS u0)) && ((readS u0).2.1 == 0)) && (nofrS (readS u0).1))) (pk_and H (g := []) (m := 1) (b := ((readS u0).2.2 == (bcheckS u0)) && ((readS u0).2.1 == 0)) (v := (nofrS (readS u0).1)) rfl (by kernel_rfl) (by kernel_rfl) (by kernel_rfl) rfl) ?_; intro bI av
  refine s1 av 2 (.bool ((((readS u0).2.2 == (bcheckS u0)) && ((readS u0).2.1 == 0)) && (nofrS (readS u0).1))) ?_; intro bJ a3
  apply aj
  exact r_ (h_ (ra1 a3 (.bool ((((readS u0).2.2 == (bcheckS u0)) && ((readS u0).2.1 == 0)) && (nofrS (readS u0).1))) ⟨(((readS u0).2.2 == (bcheckS u0)) && ((readS u0).2.1 == 0)) && (nofrS (readS u0).1), rfl, aY, a1.below⟩))
 · -- no
  have a4 := q.2 E
  refine k_ (sqH ?_); intro a6 aw
  refine s1 l 39 (str u0) ?_; intro bK ax
  obtain ⟨a7, ay⟩ := a4
  refine ck ax 9 #[str u0] ?_
  refine (rreadbits_fun u0 a7 _ _ hg5 h.fz).mono ?_; rintro _ a9 ⟨d, f, az, rfl, aA, hm⟩; refine ⟨_, rfl, ?_⟩; intro bL aB; have aC := h.callZ hm; have I := hm.ext.le
  replace i := i.mono I
  have J : Mem w.heap.size [] w Z [.row j (e24Sd ((readS u0).1) a c) 24] az a9 := aC
  have ba := ay (aA.small)
  refine bt aB J 4 [] [] [(41, .agg (e24Sd ((rreadbitsS u0).1) d f).toArray), (42, i6 (rreadbitsS u0).2.1), (43, i6 (rreadbitsS u0).2.2)] ?_; intro bM aD
  refine nw aD J pb [i6 0, .bool false, .bool false, .bool false, i6 0, .slice none 0 0] 24 ?_; intro aE bN bO L aF
  refine sx L aF 0 (e24Sd ((rreadbitsS u0).1) d f) 0 ?_; intro bb M
  refine bt L M 2 [] [] [(8, i6 (rreadbitsS u0).2.1), (9, i6 (rreadbitsS u0).2.2)] ?_; intro bP aG
  have n : Mem w.heap.size [] w Z [.row aE (e24Sd ((rreadbitsS u0).1) d f) 24, .row j (e24Sd ((readS u0).1) a c) 24] az bb := M
  apply aw
  refine sqH ?_; intro bc aH
  refine s1 aG 44 (i6 (readS u0).2.2) ?_; intro bQ aI
  refine s1 aI 45 (i6 (rreadbitsS u0).2.2) ?_; intro bR aJ
  refine s1 aJ 46 (.bool ((readS u0).2.2 == (rreadbitsS u0).2.2)) ?_; intro bS aK
  refine s1 aK 47 (.bool ((readS u0).2.2 == (rreadbitsS u0).2.2)) ?_; intro bT aL
  have aM := aL.atom (((readS u0).2.2 == (rreadbitsS u0).2.2) == true) (by kernel_rfl)
  refine gp aM 48 0 [] ((readS u0).2.2 == (rreadbitsS u0).2.2) (i6 (readS u0).2.1) rfl rfl ?_; intro bU aN
  refine gp aN 49 0 [] ((readS u0).2.2 == (rreadbitsS u0).2.2) (i6 (rreadbitsS u0).2.1) rfl rfl ?_; intro bV aO
  refine gp aO 50 0 [] ((readS u0).2.2 == (rreadbitsS u0).2.2) (.bool ((readS u0).2.1 == (rreadbitsS u0).2.1)) rfl rfl ?_; intro bW N
  refine u_ N (.bool (((readS u0).2.2 == (rreadbitsS u0).2.2) && ((readS u0).2.1 == (rreadbitsS u0).2.1))) (pk_and N (g := []) (m := 0) (b := (readS u0).2.2 == (rreadbitsS u0).2.2) (v := (readS u0).2.1 == (rreadbitsS u0).2.1) rfl (by kernel_rfl) (by kernel_rfl) (by kernel_rfl) rfl) ?_; intro bX aP
  refine s1 aP 52 (.bool (((readS u0).2.2 == (rreadbitsS u0).2.2) && ((readS u0).2.1 == (rreadbitsS u0).2.1))) ?_; intro bY aQ
  have O := aQ.atom ((((readS u0).2.2 == (rreadbitsS u0).2.2) && ((readS u0).2.1 == (rreadbitsS u0).2.1)) == true) (by kernel_rfl)
  refine gd O (.agg (e24Sd ((readS u0).1) a c).toArray) (m := 1) (cj := []) (bj := ((readS u0).2.2 == (rreadbitsS u0).2.2) && ((readS u0).2.1 == (rreadbitsS u0).2.1)) rfl rfl (by kernel_rfl) rfl (by kernel_rfl) (by kernel_rfl) (by kernel_rfl) (fun hg => lda O n 1 (g := [1]) (b := j) (off := 0) (k := 6) (cs := (e24Sd ((readS u0).1) a c)) (vs := (e24Sd ((readS u0).1) a c)) (ty := 24) rfl (by kernel_rfl) (by kernel_rfl) (by kernel_rfl) (by kernel_rfl) (by kernel_rfl) hg) ?_; intro bZ P
  refine gd P (.agg (e24Sd ((rreadbitsS u0).1) d f).toArray) (m := 1) (cj := []) (bj := ((readS u0).2.2 == (rreadbitsS u0).2.2) && ((readS u0).2.1 == (rreadbitsS u0).2.1)) rfl rfl (by kernel_rfl) rfl (by kernel_rfl) (by kernel_rfl) (by kernel_rfl) (fun hg => lda P n 0 (g := [1]) (b := aE) (off := 0) (k := 6) (cs := (e24Sd ((rreadbitsS u0).1) d f)) (vs := (e24Sd ((rreadbitsS u0).1) d f)) (ty := 24) rfl (by kernel_rfl) (by kernel_rfl) (by kernel_rfl) (by kernel_rfl) (by kernel_rfl) hg) ?_; intro b0 aR
  refine gcl aR n (.bool (sameS (readS u0).1 (rreadbitsS u0).1)) 10 #[.agg (e24Sd ((readS u0).1) a c).toArray, .agg (e24Sd ((rreadbitsS u0).1) d f).toArray] (m := 1) (cj := []) (bj := ((readS u0).2.2 == (rreadbitsS u0).2.2) && ((readS u0).2.1 == (rreadbitsS u0).2.1)) rfl rfl (by kernel_rfl) rfl (by kernel_rfl) (by kernel_rfl) (by kernel_rfl) (fun _ => by kernel_rfl) (fun hg => rSame_fun (readS u0).1 (rreadbitsS u0).1 a c d f _ _ i aA n.fz) ?_; intro b1 b2 Q bd
  refine u_ Q (.bool ((((readS u0).2.2 == (rreadbitsS u0).2.2) && ((readS u0).2.1 == (rreadbitsS u0).2.1)) && (sameS (readS u0).1 (rreadbitsS u0).1))) (pk_and Q (g := []) (m := 1) (b := ((readS u0).2.2 == (rreadbitsS u0).2.2) && ((readS u0).2.1 == (rreadbitsS u0).2.1)) (v := (sameS (readS u0).1 (rreadbitsS u0).1)) rfl (by kernel_rfl) (by kernel_rfl) (by kernel_rfl) rfl) ?_; intro b3 aS
  refine s1 aS 2 (.bool ((((readS u0).2.2 == (rreadbitsS u0).2.2) && ((readS u0).2.1 == (rreadbitsS u0).2.1)) && (sameS (readS u0).1 (rreadbitsS u0).1))) ?_; intro b4 be
  apply aH
  exact r_ (ra1 be (.bool ((((readS u0).2.2 == (rreadbitsS u0).2.2) && ((readS u0).2.1 == (rreadbitsS u0).2.1)) && (sameS (readS u0).1 (rreadbitsS u0).1))) ⟨(((readS u0).2.2 == (rreadbitsS u0).2.2) && ((readS u0).2.1 == (rreadbitsS u0).2.1)) && (sameS (readS u0).1 (rreadbitsS u0).1), rfl, ba, bd.below⟩)

end Go.Proofs.YtmnlahbngbigdaaGreatDoor
