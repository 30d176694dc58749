/- Texts put together (pure ones, or walks made by program). -/
import Derived.Test.YtmnlahbngbigdaaGreatDoorKf0
import Derived.Test.YtmnlahbngbigdaaGreatDoorKf1
import Derived.Test.YtmnlahbngbigdaaGreatDoorKf2
import Derived.Test.YtmnlahbngbigdaaGreatDoorKf3
namespace Go.Proofs
open Go.Shelf
def Tryz.lays166_ren : Go.Shelf.Ren := ⟨fun | 166 => 84 | 240 => 102 | 276 => 119 | n => n, fun | 37 => 22 | 70 => 121 | 72 => 123 | 75 => 125 | 80 => 60 | 164 => 152 | n => n, fun n => n⟩
theorem Tryz.lays166 : Lays.n166 Tryz.prog Tryz.lays166_ren := {
  mixed := by kernel_rfl
  f166 := Tryz.func84.trans (congrArg some (by kernel_rfl))
  f240 := Tryz.func102.trans (congrArg some (by kernel_rfl))
  f276 := Tryz.func119.trans (congrArg some (by kernel_rfl))
  t0 := Tryz.underlying0
  a0 := Tryz.isAgg0
  z0 := Tryz.sizeOf0
  v0 := Tryz.zeroValue0
  t3 := Tryz.underlying3
  a3 := Tryz.isAgg3
  z3 := Tryz.sizeOf3
  v3 := Tryz.zeroValue3
  t4 := Tryz.underlying4
  a4 := Tryz.isAgg4
  z4 := Tryz.sizeOf4
  v4 := Tryz.zeroValue4
  t9 := Tryz.underlying9
  a9 := Tryz.isAgg9
  z9 := Tryz.sizeOf9
  v9 := Tryz.zeroValue9
  t20 := Tryz.underlying20
  a20 := Tryz.isAgg20
  z20 := Tryz.sizeOf20
  v20 := Tryz.zeroValue20
  t37 := Tryz.underlying22
  a37 := Tryz.isAgg22
  z37 := Tryz.sizeOf22
  v37 := Tryz.zeroValue22
  t70 := Tryz.underlying121
  a70 := Tryz.isAgg121
  z70 := Tryz.sizeOf121
  v70 := Tryz.zeroValue121
  t72 := Tryz.underlying123
  a72 := Tryz.isAgg123
  z72 := Tryz.sizeOf123
  v72 := Tryz.zeroValue123
  t75 := Tryz.underlying125
  a75 := Tryz.isAgg125
  z75 := Tryz.sizeOf125
  v75 := Tryz.zeroValue125
  t164 := Tryz.underlying152
  a164 := Tryz.isAgg152
  z164 := Tryz.sizeOf152
  v164 := Tryz.zeroValue152 }
theorem Tryz.lays166X : Builder.Extra Tryz.prog Tryz.lays166_ren := {
  sizeBuilder := by kernel_rfl
  liesBuilder := by kernel_rfl
  t5 := by kernel_rfl
  a5 := fun w => by kernel_rfl
  z5 := fun w => by kernel_rfl
  v5 := fun w => by kernel_rfl
  infoByte := by kernel_rfl
  cellsByte := by kernel_rfl
  sizeByte := by kernel_rfl
  neB5 := by decide }

def Tryz.lays169_ren : Go.Shelf.Ren := ⟨fun | 169 => 85 | n => n, fun | 37 => 22 | 70 => 121 | 72 => 123 | 127 => 144 | n => n, fun n => n⟩
theorem Tryz.lays169 : Lays.n169 Tryz.prog Tryz.lays169_ren := {
  mixed := by kernel_rfl
  f169 := Tryz.func85.trans (congrArg some (by kernel_rfl))
  t0 := Tryz.underlying0
  a0 := Tryz.isAgg0
  z0 := Tryz.sizeOf0
  v0 := Tryz.zeroValue0
  t3 := Tryz.underlying3
  a3 := Tryz.isAgg3
  z3 := Tryz.sizeOf3
  v3 := Tryz.zeroValue3
  t9 := Tryz.underlying9
  a9 := Tryz.isAgg9
  z9 := Tryz.sizeOf9
  v9 := Tryz.zeroValue9
  t37 := Tryz.underlying22
  a37 := Tryz.isAgg22
  z37 := Tryz.sizeOf22
  v37 := Tryz.zeroValue22
  t70 := Tryz.underlying121
  a70 := Tryz.isAgg121
  z70 := Tryz.sizeOf121
  v70 := Tryz.zeroValue121
  t72 := Tryz.underlying123
  a72 := Tryz.isAgg123
  z72 := Tryz.sizeOf123
  v72 := Tryz.zeroValue123
  t127 := Tryz.underlying144
  a127 := Tryz.isAgg144
  z127 := Tryz.sizeOf144
  v127 := Tryz.zeroValue144 }
theorem Tryz.lays169X : Builder.Extra Tryz.prog Tryz.lays169_ren := {
  sizeBuilder := by kernel_rfl
  liesBuilder := by kernel_rfl
  t5 := by kernel_rfl
  a5 := fun w => by kernel_rfl
  z5 := fun w => by kernel_rfl
  v5 := fun w => by kernel_rfl
  infoByte := by kernel_rfl
  cellsByte := by kernel_rfl
  sizeByte := by kernel_rfl
  neB5 := by decide }

end Go.Proofs
set_option linter.unusedVariables false
set_option linter.unusedSimpArgs false
set_option linter.defProp false
set_option maxRecDepth 100000
set_option maxHeartbeats 0
namespace Go.Proofs.YtmnlahbngbigdaaGreatDoor
open Go.Sy Go.RowKit
abbrev e46A (X : FReader) (A0 : Option Addr) (C0 : Nat) : List Value := [str X.Reader.Row, i6 X.Reader.At, i6 X.Reader.Code, y8 X.Reader.c.last, i6 X.Reader.c.n, i6 X.f.ID, .bool X.f.Long, .bool X.f.Fast, .bool X.f.Remote, i6 X.f.Size, .slice A0 X.f.Data.length C0]
theorem bread_walk (u0 : List UInt8)  (Z : Fz) (w : World)  (hZ : Z.on w) {K : Int → Prop} (hp : bread_vc u0 K) : Calls Tryz.prog 46 #[str u0] w fun e w' => ∃ r : Int, e = .returned (y6 r) ∧ K r ∧ Below w.heap.size w w' := by
 refine enter0 Tryz.func46 rfl rfl (by kernel_rfl) ?_; intro U j; have d := Mem.start w Z hZ
 refine sqB j d [] [] [] ?_; intro W k
 refine sqB k d [] [] [(3, y6 0)] ?_; intro X l
 refine s_ (sqB l d [] [] [(6, i6 (u0.length : Int)), (7, i6 0)] ?_); intro m n
 apply b_
 have o : Fr 20 [] [⟨0, [], str u0⟩, ⟨3, [], y6 0⟩, ⟨6, [], i6 (u0.length : Int)⟩, ⟨7, [], i6 0⟩] m := n.reg
 obtain ⟨F, G, H, I⟩ := hp
 refine lp (ι := Int × Int) (fun s => [⟨0, [], str u0⟩, ⟨3, [], y6 s.1⟩, ⟨6, [], i6 (u0.length : Int)⟩, ⟨7, [], i6 s.2⟩]) (fun s => []) (fun s => Z) (fun s => F s.1 s.2) (fun s => G s.1 s.2) ⟨0, 0⟩ H (by exact o.reg) (by exact d) ?_
 rintro ⟨b, a⟩ J L M u v
 have g := I b a J
 refine sqB u v [] [] [(8, .bool (decide (a < (u0.length : Int))))] ?_; intro Y f
 refine s_ (c_ f g (fun _ N => ?_) fun _ S => ?_)
 ·
  refine k_ (s_ (b_ (sqB f v [] [] [(4, i6 a)] ?_))); intro aa y
  refine rgH ?_; intro O z
  refine bt y v 4 [] [] [(11, y6 (bShl .u64 b 1)), (12, str u0), (13, i6 a)] ?_; intro ab A
  obtain ⟨P, Q⟩ := N
  obtain ⟨i, B⟩ : ∃ q, u0[a.toNat]? = some q := ⟨_, List.getElem?_eq_getElem (by omega)⟩; have C := Q i B
  refine si A .i64 P.1 B ?_; intro ac D
  refine bt D v 4 [] [] [(3, y6 (bOr .u64 (bShl .u64 b 1) (wu64 (w8 ((i.toNat : Int) - 48)))))] ?_; intro ad E
  apply z
  refine j_ (t_ (rgB E v [] [] [(7, i6 (w64 (a + 1)))] ?_)); intro ae R
  exact d_ ⟨⟨bOr .u64 (bShl .u64 b 1) (wu64 (w8 ((i.toNat : Int) - 48))), w64 (a + 1)⟩, C.1, C.2, (R.reg).anyβ _ (by kernel_rfl), v.kp⟩
 refine x_ (y_ (y_ (z_ (t_ (sqB f v [] [] [(2, y6 b)] ?_))))); intro af T
 exact r_ (ra1 T (y6 b) ⟨b, rfl, S, v.below⟩)

theorem bwrite_walk (u0 : Int) (u1 : Int)  (Z : Fz) (w : World)  (hZ : Z.on w) {K : (List UInt8) → Prop} (hp : bwrite_vc u0 u1 K) : Calls Tryz.prog 53 #[y6 u0, i6 u1] w fun e w' => ∃ r : (List UInt8), e = .returned (str r) ∧ K r ∧ Below w.heap.size w w' := by
 refine enter0 Tryz.func53 rfl rfl (by kernel_rfl) ?_; intro a0 q; have l := Mem.start w Z hZ
 refine sqB q l [] [] [] ?_; intro a2 v
 refine sqH ?_; intro V x
 refine s1 v 7 (i6 u1) ?_; intro a5 y
 obtain ⟨ax, W⟩ := hp
 refine mks y l (T := t8) u1 u1 (k := .i64) (k' := .i64) (e := 5) (bytes := 1) (zs := [y8 0]) (z := 0) (by simp only [lim]; omega) (nog rfl _) rfl (by kernel_rfl) rfl (by kernel_rfl) (by kernel_rfl) (by kernel_rfl) (by kernel_rfl) rfl ?_; intro b ay X A B
 have m : Mem w.heap.size [] w Z [.own t8 5 (sm b) u1.toNat (List.replicate u1.toNat (0 : Int))] Z X := B
 refine s1 A 5 (.slice (sm b) (List.replicate u1.toNat (0 : Int)).length u1.toNat) ?_; intro az C
 apply x
 refine s_ (sqB C m [] [] [(9, i6 u1), (10, i6 0)] ?_); intro D E
 apply b_
 have F : Fr 28 [] [⟨0, [], y6 u0⟩, ⟨1, [], i6 u1⟩, ⟨5, [], .slice (sm b) (List.replicate u1.toNat (0 : Int)).length u1.toNat⟩, ⟨9, [], i6 u1⟩, ⟨10, [], i6 0⟩] D := E.reg
 obtain ⟨Y, aa, ab, ac⟩ := W
 refine lp (ι := Int × Int × (List Int)) (fun s => [⟨0, [], y6 s.1⟩, ⟨1, [], i6 u1⟩, ⟨5, [], .slice (sm b) s.2.2.length u1.toNat⟩, ⟨9, [], i6 u1⟩, ⟨10, [], i6 s.2.1⟩]) (fun s => [.own t8 5 (sm b) u1.toNat s.2.2]) (fun s => Z) (fun s => Y s.1 s.2.1 s.2.2) (fun s => aa s.1 s.2.1 s.2.2) ⟨u0, 0, (List.replicate u1.toNat (0 : Int))⟩ ab (by exact F.reg) (by exact m) ?_
 rintro ⟨d, a, c⟩ ad ae af H I
 have i := ac d a c ad
 refine sqB H I [] [] [(11, .bool (decide (a < u1)))] ?_; intro aA h
 refine s_ (c_ h i (fun _ ag => ?_) fun _ ap => ?_)
 ·
  refine k_ (s_ (b_ (sqB h I [] [] [(6, i6 a)] ?_))); intro aB L
  refine sqH ?_; intro ah M
  refine bt L I 9 [] [] [(13, .slice (sm b) c.length u1.toNat), (17, i6 (w64 ((w64 (u1 - 1)) - a))), (21, y8 (w8 (48 + (w8 (bAnd .u64 d 1)))))] ?_; intro aC N
  obtain ⟨ai, O⟩ := ag
  refine ixo N I 0 (T := t8) (xs := c) (w64 ((w64 (u1 - 1)) - a)) ai (k := .i64) (e := 5) (bytes := 1) (nog rfl _) rfl (by kernel_rfl) rfl (by kernel_rfl) (by kernel_rfl) rfl (by kernel_rfl) ?_; intro aj ak al j
  obtain rfl : b = aj := by simpa using al
  refine so j I 0 (T := t8) (xs := c) (w64 ((w64 (u1 - 1)) - a)).toNat (w8 (48 + (w8 (bAnd .u64 d 1)))) (u := y8 (w8 (48 + (w8 (bAnd .u64 d 1))))) (nog rfl _) rfl rfl (by kernel_rfl) rfl (by kernel_rfl) rfl (by kernel_rfl) (by first | omega | (simp only [List.length_set] at *; omega)) rfl ?_; intro am P
  have Q : Fr 28 [] [⟨0, [], y6 d⟩, ⟨1, [], i6 u1⟩, ⟨5, [], .slice (sm b) (c.set (w64 ((w64 (u1 - 1)) - a)).toNat (w8 (48 + (w8 (bAnd .u64 d 1))))).length u1.toNat⟩, ⟨6, [], i6 a⟩, ⟨9, [], i6 u1⟩, ⟨10, [], i6 a⟩, ⟨11, [], .bool (decide (a < u1))⟩, ⟨13, [], .slice (sm b) (c.set (w64 ((w64 (u1 - 1)) - a)).toNat (w8 (48 + (w8 (bAnd .u64 d 1))))).length u1.toNat⟩, ⟨17, [], i6 (w64 ((w64 (u1 - 1)) - a))⟩, ⟨21, [], y8 (w8 (48 + (w8 (bAnd .u64 d 1))))⟩, ⟨22, [], .pointer (some ⟨b, (w64 ((w64 (u1 - 1)) - a)).toNat * 1, none⟩)⟩] ak := by (try simp only [List.length_set] at j); (try simp only [List.length_set]); exact j.reg
  have o : Mem w.heap.size [] w Z [.own t8 5 (sm b) u1.toNat (c.set (w64 ((w64 (u1 - 1)) - a)).toNat (w8 (48 + (w8 (bAnd .u64 d 1)))))] Z am := P
  apply M
  refine rgB Q o [] [] [(0, y6 (bShr .u64 d 1))] ?_; intro aD R
  refine j_ (t_ (rgB R o [] [] [(10, i6 (w64 (a + 1)))] ?_)); intro aE an
  exact d_ ⟨⟨bShr .u64 d 1, w64 (a + 1), c.set (w64 ((w64 (u1 - 1)) - a)).toNat (w8 (48 + (w8 (bAnd .u64 d 1))))⟩, O.1, O.2, (an.reg).anyβ _ (by kernel_rfl), o.kp⟩
 refine x_ (y_ (y_ (z_ (t_ (sqH ?_))))); intro aq S
 refine s1 h 26 (.slice (sm b) c.length u1.toNat) ?_; intro aF p
 refine u_ p (str (bstr c)) ((by obtain ⟨Z9, aG, ar, au⟩ := I.lend 0 rfl; exact bstr_op p (g := []) (e := 5) (ao := (sm b)) (cap := u1.toNat) (xs := c) rfl (by kernel_rfl) (by kernel_rfl) (by kernel_rfl) (by kernel_rfl)  au ar rfl)) ?_; intro aH U
 refine s1 U 4 (str (bstr c)) ?_; intro aI av
 apply S
 exact r_ (ra1 av (str (bstr c)) ⟨bstr c, rfl, ap, I.below⟩)

theorem bcheck_walk (u0 : List UInt8)  (Z : Fz) (w : World)  (hZ : Z.on w) {K : Int → Prop} (hp : bcheck_vc u0 K) : Calls Tryz.prog 16 #[str u0] w fun e w' => ∃ r : Int, e = .returned (i6 r) ∧ K r ∧ Below w.heap.size w w' := by
 refine enter0 Tryz.func16 rfl rfl (by kernel_rfl) ?_; intro z i; have a := Mem.start w Z hZ
 refine sqB i a [] [] [] ?_; intro B j
 refine s_ (sqB j a [] [] [(5, .bool (decide ((u0.length : Int) > 1000)))] ?_); intro C b
 refine c_ b hp (fun _ n => ?_) fun _ p => ?_
 ·
  refine sqB b a [] [] [(2, i6 2)] ?_; intro D o
  exact r_ (h_ (ra1 o (i6 2) ⟨2, rfl, n, a.below⟩))
 refine k_ (s_ (sqH ?_)); intro q k
 refine s1 b 6 (str u0) ?_; intro E l
 obtain ⟨s, d⟩ := p
 refine fc l a (trim_fun u0 ([48, 49] : List UInt8) s _ _ a.fz) ?_; intro F G m f
 refine sc m .neq (.bool ((trimS u0 ([48, 49] : List UInt8)) != ([] : List UInt8))) ?_; intro H c
 apply k
 refine c_ c d (fun _ u => ?_) fun _ x => ?_
 ·
  refine sqB c f [] [] [(2, i6 4)] ?_; intro I v
  exact r_ (h_ (ra1 v (i6 4) ⟨4, rfl, u, f.below⟩))
 refine k_ (sqB c f [] [] [(2, i6 0)] ?_); intro J y
 exact r_ (ra1 y (i6 0) ⟨0, rfl, x, f.below⟩)

theorem ckinds_walk   (Z : Fz) (w : World)  (hZ : Z.on w) {K : (Kind × Kind × Kind × Kind × Kind) → Prop} (hp : ckinds_vc  K) : Calls Tryz.prog 52 #[] w fun e w' => ∃ r : (Kind × Kind × Kind × Kind × Kind), e = .returned (.agg #[i6 r.1.Size, y6 r.1.Poly, y6 r.1.From, y6 r.1.End, i6 r.2.1.Size, y6 r.2.1.Poly, y6 r.2.1.From, y6 r.2.1.End, i6 r.2.2.1.Size, y6 r.2.2.1.Poly, y6 r.2.2.1.From, y6 r.2.2.1.End, i6 r.2.2.2.1.Size, y6 r.2.2.2.1.Poly, y6 r.2.2.2.1.From, y6 r.2.2.2.1.End, i6 r.2.2.2.2.Size, y6 r.2.2.2.2.Poly, y6 r.2.2.2.2.From, y6 r.2.2.2.2.End]) ∧ K r ∧ Below w.heap.size w w' := by
 refine enter0 Tryz.func52 rfl rfl (by kernel_rfl) ?_; intro q f; have g := Mem.start w Z hZ
 refine sqH ?_; intro n h
 refine nw f g pb [i6 0, y6 0, y6 0, y6 0, i6 0, y6 0, y6 0, y6 0, i6 0, y6 0, y6 0, y6 0, i6 0, y6 0, y6 0, y6 0, i6 0, y6 0, y6 0, y6 0] 84 ?_; intro a t u i c
 apply h
 refine sqH ?_; intro o j
 refine bt i c 6 [] [] [(6, .agg #[i6 15, y6 17817, y6 0, y6 0, i6 17, y6 92251, y6 65536, y6 0, i6 21, y6 1058969, y6 1048576, y6 0, i6 8, y6 47, y6 255, y6 255, i6 16, y6 4129, y6 65535, y6 0])] ?_; intro x d
 refine sx d c 0 [i6 15, y6 17817, y6 0, y6 0, i6 17, y6 92251, y6 65536, y6 0, i6 21, y6 1058969, y6 1048576, y6 0, i6 8, y6 47, y6 255, y6 255, i6 16, y6 4129, y6 65535, y6 0] 0 ?_; intro p l
 have m : Mem w.heap.size [] w Z [.row a [i6 15, y6 17817, y6 0, y6 0, i6 17, y6 92251, y6 65536, y6 0, i6 21, y6 1058969, y6 1048576, y6 0, i6 8, y6 47, y6 255, y6 255, i6 16, y6 4129, y6 65535, y6 0] 84] Z p := l
 apply j
 refine r_ (rt (fn := Tryz.f52) (v := .agg #[i6 15, y6 17817, y6 0, y6 0, i6 17, y6 92251, y6 65536, y6 0, i6 21, y6 1058969, y6 1048576, y6 0, i6 8, y6 47, y6 255, y6 255, i6 16, y6 4129, y6 65535, y6 0]) d (re1c d (fn := Tryz.f52) rfl (ad := ⟨a, 0, none⟩) (by kernel_rfl) (loadVar_run m 0 (b := a) (k := 20) (vs := [i6 15, y6 17817, y6 0, y6 0, i6 17, y6 92251, y6 65536, y6 0, i6 21, y6 1058969, y6 1048576, y6 0, i6 8, y6 47, y6 255, y6 255, i6 16, y6 4129, y6 65535, y6 0]) (ty := 84) rfl (by kernel_rfl) (by kernel_rfl)) ) ?_)
 exact ⟨((⟨15, 17817, 0, 0⟩ : Kind), (⟨17, 92251, 65536, 0⟩ : Kind), (⟨21, 1058969, 1048576, 0⟩ : Kind), (⟨8, 47, 255, 255⟩ : Kind), (⟨16, 4129, 65535, 0⟩ : Kind)), rfl, hp, m.below⟩
def ckinds_fun   (Z : Fz) (w : World)  (hZ : Z.on w) := f_ (ckinds_walk   Z w  hZ (ckinds_ok ))
theorem ksum_walk (u0 : Kind) (u1 : List UInt8)  (Z : Fz) (w : World)  (hZ : Z.on w) {K : Int → Prop} (hp : ksum_vc u0 u1 K) : Calls Tryz.prog 54 #[.agg #[i6 u0.Size, y6 u0.Poly, y6 u0.From, y6 u0.End], str u1] w fun e w' => ∃ r : Int, e = .returned (y6 r) ∧ K r ∧ Below w.heap.size w w' := by
 refine enter0 Tryz.func54 rfl rfl (by kernel_rfl) ?_; intro a0 p; have u := Mem.start w Z hZ
 refine sqH ?_; intro V v
 refine nw p u pb [i6 u0.Size, y6 u0.Poly, y6 u0.From, y6 u0.End] 83 ?_; intro d a3 aq x f
 refine s1 x 4 (y6 0) ?_; intro a7 y
 apply v
 refine sqB y f [0] [] [(5, y6 u0.From)] ?_; intro ar z
 refine sqH ?_; intro W A
 refine bt z f 3 [0] [] [(13, i6 (w64 (u0.Size - 1)))] ?_; intro au m
 obtain ⟨X, Y⟩ := hp
 refine u_ m (y6 (bShl .u64 1 (w64 (u0.Size - 1)))) (shl_run m (g := []) (k' := .i64) rfl (by kernel_rfl) (by kernel_rfl) X rfl) ?_; intro av B
 refine s1 B 6 (y6 (bShl .u64 1 (w64 (u0.Size - 1)))) ?_; intro aw C
 apply A
 refine s_ (sqB C f [] [] [(16, i6 (u1.length : Int)), (17, i6 0)] ?_); intro D E
 apply b_
 have F : Fr 45 [] [⟨1, [], str u1⟩, ⟨2, [], pt d 0⟩, ⟨5, [], y6 u0.From⟩, ⟨6, [], y6 (bShl .u64 1 (w64 (u0.Size - 1)))⟩, ⟨16, [], i6 (u1.length : Int)⟩, ⟨17, [], i6 0⟩] D := E.reg
 obtain ⟨aa, ab, ac, ad⟩ := Y
 refine lp (ι := Int × Int) (fun s => [⟨1, [], str u1⟩, ⟨2, [], pt d 0⟩, ⟨5, [], y6 s.1⟩, ⟨6, [], y6 (bShl .u64 1 (w64 (u0.Size - 1)))⟩, ⟨16, [], i6 (u1.length : Int)⟩, ⟨17, [], i6 s.2⟩]) (fun s => [.row d [i6 u0.Size, y6 u0.Poly, y6 u0.From, y6 u0.End] 83]) (fun s => Z) (fun s => aa s.1 s.2) (fun s => ab s.1 s.2) ⟨u0.From, 0⟩ ac (by exact F.reg) (by exact f) ?_
 rintro ⟨a, c⟩ ae af ag H I
 have j := ad a c ae
 refine sqB H I [] [] [(18, .bool (decide (c < (u1.length : Int))))] ?_; intro ax h
 refine s_ (c_ h j (fun _ ah => ?_) fun _ an => ?_)
 ·
  refine k_ (s_ (b_ (sqB h I [] [] [(7, i6 c)] ?_))); intro ay L
  refine sqH ?_; intro ai M
  refine bt L I 6 [] [] [(23, .bool ((bAnd .u64 a (bShl .u64 1 (w64 (u0.Size - 1)))) != 0)), (24, str u1), (25, i6 c)] ?_; intro az N
  obtain ⟨aj, ak⟩ := ah
  obtain ⟨k, O⟩ : ∃ q, u1[c.toNat]? = some q := ⟨_, List.getElem?_eq_getElem (by omega)⟩; have l := ak k O
  refine si N .i64 aj.1 O ?_; intro aA P
  refine bt P I 3 [] [] [(8, .bool (((bAnd .u64 a (bShl .u64 1 (w64 (u0.Size - 1)))) != 0) != ((k.toNat : Int) == 49)))] ?_; intro aB Q
  apply M
  refine sqB Q I [] [] [(5, y6 (bAnd .u64 (bShl .u64 a 1) (wu64 ((bShl .u64 (bShl .u64 1 (w64 (u0.Size - 1))) 1) - 1))))] ?_; intro aC R
  refine sqB R I [] [] [(35, .bool (((bAnd .u64 a (bShl .u64 1 (w64 (u0.Size - 1)))) != 0) != ((k.toNat : Int) == 49)))] ?_; intro aD i
  refine c_ i l (fun _ S => ?_) fun _ U => ?_
  ·
   refine rgB i I [0] [] [(5, y6 (bXor .u64 (bAnd .u64 (bShl .u64 a 1) (wu64 ((bShl .u64 (bShl .u64 1 (w64 (u0.Size - 1))) 1) - 1))) u0.Poly))] ?_; intro aE T
   refine j_ (t_ (rgB T I [] [] [(17, i6 (w64 (c + 1)))] ?_)); intro aF al
   exact d_ ⟨⟨bXor .u64 (bAnd .u64 (bShl .u64 a 1) (wu64 ((bShl .u64 (bShl .u64 1 (w64 (u0.Size - 1))) 1) - 1))) u0.Poly, w64 (c + 1)⟩, S.1, S.2, (al.reg).anyβ _ (by kernel_rfl), I.kp⟩
  refine l_ (j_ (t_ (rgB i I [] [] [(17, i6 (w64 (c + 1)))] ?_))); intro aG am
  exact d_ ⟨⟨bAnd .u64 (bShl .u64 a 1) (wu64 ((bShl .u64 (bShl .u64 1 (w64 (u0.Size - 1))) 1) - 1)), w64 (c + 1)⟩, U.1, U.2, (am.reg).anyβ _ (by kernel_rfl), I.kp⟩
 refine x_ (y_ (y_ (z_ (t_ (sqB h I [0] [] [(4, y6 (bXor .u64 a u0.End))] ?_))))); intro aH ao
 exact r_ (ra1 ao (y6 (bXor .u64 a u0.End)) ⟨bXor .u64 a u0.End, rfl, an, I.below⟩)

theorem cnext_walk (u0 : Counter) (u1 : Int) (b1 : Nat) (B : Nat) (w0 : World) (Z0 : Fz) (Rr : List Res) (Z : Fz) (w : World) (hM0 : Mem B [] w0 Z0 ((.row b1 [y8 u0.last, i6 u0.n] 42) :: Rr) Z w) (hZ : Z.on w) {K : (Int × Bool × Counter) → Prop} (hp : cnext_vc u0 u1 K) : Calls Tryz.prog 48 #[pt b1 0, y8 u1] w fun e w' => ∃ (r : Int × Bool × Counter) (Z' : Fz), e = .returned (.tuple #[y8 r.1, .bool r.2.1]) ∧ K r ∧ Fz.le Z Z' ∧ Mem B [] w0 Z0 ((.row b1 [y8 r.2.2.last, i6 r.2.2.n] 42) :: Rr) Z' w' := by
 refine enter0 Tryz.func48 rfl rfl (by kernel_rfl) ?_; intro a0 l; have m := Fz.le.refl Z
 refine sqB l hM0 [] [] [] ?_; intro a5 o
 refine s_ (sqB o hM0 [0] [] [(11, .bool (u1 == u0.last))] ?_); intro ah a
 refine c_ a hp (fun _ S => ?_) fun _ aa => ?_
 ·
  refine rgH ?_; intro T p
  refine bt a hM0 7 [0] [] [(16, i6 (w64 (u0.n + 1))), (18, pt b1 1)] ?_; intro U d
  refine sx d hM0 0 [y8 u0.last, i6 (w64 (u0.n + 1))] 1 ?_; intro V q
  have s : Mem B [] w0 Z0 ((.row b1 [y8 u0.last, i6 (w64 (u0.n + 1))] 42) :: Rr) Z V := q
  apply p
  apply t_
  have u : Fr 33 [] [⟨0, [], pt b1 0⟩, ⟨1, [], y8 u1⟩] U := d.reg
  refine sqQH mixed (by kernel_rfl) s ?_; intro W v
  refine q1 u 26 (y8 u1) ?_; intro ai x
  refine q1 x 27 (y8 (w8 (97 - u1))) ?_; intro aj y
  refine q1 y 28 (pt b1 0) ?_; intro ak z
  refine q1 z 29 (pt b1 0) ?_; intro al A
  refine q1 A 30 (pt b1 1) ?_; intro am f
  refine ql_ f 0 1 (i6 (w64 (u0.n + 1))) rfl rfl ?_; intro an C
  refine q1 C 32 (.bool ((w64 (u0.n + 1)) == 5)) ?_; intro ao D
  refine q1 D 4 (y8 (w8 (97 - u1))) ?_; intro ap E
  refine q1 E 5 (.bool ((w64 (u0.n + 1)) == 5)) ?_; intro aq X
  refine qnl (v _ ?_); intro ar Y
  exact r_ (ra2 X (.tuple #[y8 (w8 (97 - u1)), .bool ((w64 (u0.n + 1)) == 5)]) ⟨(w8 (97 - u1), (w64 (u0.n + 1)) == 5, (⟨u0.last, w64 (u0.n + 1)⟩ : Counter)), Z, rfl, S, m, Y.kp⟩)
 refine rgH ?_; intro ab F
 refine bt a hM0 5 [] [] [(20, pt b1 0), (21, y8 u1), (23, pt b1 0)] ?_; intro au h
 refine sx h hM0 0 [y8 u1, i6 u0.n] 0 ?_; intro av i
 refine bt h i 2 [] [] [(25, pt b1 1)] ?_; intro ac j
 refine sx j i 0 [y8 u1, i6 1] 1 ?_; intro ad G
 have H : Mem B [] w0 Z0 ((.row b1 [y8 u1, i6 1] 42) :: Rr) Z ad := G
 apply F
 apply t_
 have I : Fr 33 [] [⟨0, [], pt b1 0⟩, ⟨1, [], y8 u1⟩] ac := j.reg
 refine sqQH mixed (by kernel_rfl) H ?_; intro ae J
 refine q1 I 26 (y8 u1) ?_; intro aw L
 refine q1 L 27 (y8 (w8 (97 - u1))) ?_; intro ax M
 refine q1 M 28 (pt b1 0) ?_; intro ay N
 refine q1 N 29 (pt b1 0) ?_; intro az O
 refine q1 O 30 (pt b1 1) ?_; intro aA k
 refine ql_ k 0 1 (i6 1) rfl rfl ?_; intro aB P
 refine q1 P 32 (.bool false) ?_; intro aC Q
 refine q1 Q 4 (y8 (w8 (97 - u1))) ?_; intro aD R
 refine q1 R 5 (.bool false) ?_; intro aE af
 refine qnl (J _ ?_); intro aF ag
 exact r_ (ra2 af (.tuple #[y8 (w8 (97 - u1)), .bool false]) ⟨(w8 (97 - u1), false, (⟨u1, 1⟩ : Counter)), Z, rfl, aa, m, ag.kp⟩)



theorem cnextF_walk (u0 : FReader) (u1 : Int) (b1 : Nat) (ao2 : Option Addr) (cap3 : Nat) (B : Nat) (w0 : World) (Z0 : Fz) (Rr : List Res) (Z : Fz) (w : World) (hs4 : SlR t8 Z ao2 cap3 u0.f.Data) (hM0 : Mem B [] w0 Z0 ((.row b1 [str u0.Reader.Row, i6 u0.Reader.At, i6 u0.Reader.Code, y8 u0.Reader.c.last, i6 u0.Reader.c.n, i6 u0.f.ID, .bool u0.f.Long, .bool u0.f.Fast, .bool u0.f.Remote, i6 u0.f.Size, .slice ao2 u0.f.Data.length cap3] 46) :: Rr) Z w) (hZ : Z.on w) {K : (Int × Bool × FReader) → Prop} (hp : cnextF_vc u0 u1 K) : Calls Tryz.prog 48 #[pt b1 3, y8 u1] w fun e w' => ∃ (r : Int × Bool × FReader) (ao1001 : Option Addr) (cap1002 : Nat) (Z' : Fz), e = .returned (.tuple #[y8 r.1, .bool r.2.1]) ∧ K r ∧ Fz.le Z Z' ∧ SlR t8 Z' ao1001 cap1002 r.2.2.f.Data ∧ Mem B [] w0 Z0 ((.row b1 [str r.2.2.Reader.Row, i6 r.2.2.Reader.At, i6 r.2.2.Reader.Code, y8 r.2.2.Reader.c.last, i6 r.2.2.Reader.c.n, i6 r.2.2.f.ID, .bool r.2.2.f.Long, .bool r.2.2.f.Fast, .bool r.2.2.f.Remote, i6 r.2.2.f.Size, .slice ao1001 r.2.2.f.Data.length cap1002] 46) :: Rr) Z' w' := by
 refine enter0 Tryz.func48 rfl rfl (by kernel_rfl) ?_; intro a0 p; have q := Fz.le.refl Z
 have d := hp (hs4.small)
 refine sqB p hM0 [] [] [] ?_; intro a9 s
 refine s_ (sqB s hM0 [0] [] [(11, .bool (u1 == u0.Reader.c.last))] ?_); intro ak a
 refine c_ a d (fun _ V => ?_) fun _ ad => ?_
 ·
  refine rgH ?_; intro W u
  refine bt a hM0 7 [0] [] [(16, i6 (w64 (u0.Reader.c.n + 1))), (18, pt b1 4)] ?_; intro X i
  refine sx i hM0 0 [str u0.Reader.Row, i6 u0.Reader.At, i6 u0.Reader.Code, y8 u0.Reader.c.last, i6 (w64 (u0.Reader.c.n + 1)), i6 u0.f.ID, .bool u0.f.Long, .bool u0.f.Fast, .bool u0.f.Remote, i6 u0.f.Size, .slice ao2 u0.f.Data.length cap3] 4 ?_; intro Y v
  have x : Mem B [] w0 Z0 ((.row b1 [str u0.Reader.Row, i6 u0.Reader.At, i6 u0.Reader.Code, y8 u0.Reader.c.last, i6 (w64 (u0.Reader.c.n + 1)), i6 u0.f.ID, .bool u0.f.Long, .bool u0.f.Fast, .bool u0.f.Remote, i6 u0.f.Size, .slice ao2 u0.f.Data.length cap3] 46) :: Rr) Z Y := v
  apply u
  apply t_
  have y : Fr 33 [] [⟨0, [], pt b1 3⟩, ⟨1, [], y8 u1⟩] X := i.reg
  refine sqQH mixed (by kernel_rfl) x ?_; intro aa z
  refine q1 y 26 (y8 u1) ?_; intro al A
  refine q1 A 27 (y8 (w8 (97 - u1))) ?_; intro am C
  refine q1 C 28 (pt b1 3) ?_; intro an D
  refine q1 D 29 (pt b1 3) ?_; intro ao E
  refine q1 E 30 (pt b1 4) ?_; intro ap j
  refine ql_ j 0 4 (i6 (w64 (u0.Reader.c.n + 1))) rfl rfl ?_; intro aq F
  refine q1 F 32 (.bool ((w64 (u0.Reader.c.n + 1)) == 5)) ?_; intro ar G
  refine q1 G 4 (y8 (w8 (97 - u1))) ?_; intro au H
  refine q1 H 5 (.bool ((w64 (u0.Reader.c.n + 1)) == 5)) ?_; intro av ab
  refine qnl (z _ ?_); intro aw ac
  exact r_ (ra2 ab (.tuple #[y8 (w8 (97 - u1)), .bool ((w64 (u0.Reader.c.n + 1)) == 5)]) ⟨(w8 (97 - u1), (w64 (u0.Reader.c.n + 1)) == 5, (⟨(⟨u0.Reader.Row, u0.Reader.At, u0.Reader.Code, (⟨u0.Reader.c.last, w64 (u0.Reader.c.n + 1)⟩ : Counter)⟩ : Reader), u0.f⟩ : FReader)), ao2, cap3, Z, rfl, V, q, hs4, ac.kp⟩)
 refine rgH ?_; intro ae I
 refine bt a hM0 5 [] [] [(20, pt b1 3), (21, y8 u1), (23, pt b1 3)] ?_; intro ax k
 refine sx k hM0 0 [str u0.Reader.Row, i6 u0.Reader.At, i6 u0.Reader.Code, y8 u1, i6 u0.Reader.c.n, i6 u0.f.ID, .bool u0.f.Long, .bool u0.f.Fast, .bool u0.f.Remote, i6 u0.f.Size, .slice ao2 u0.f.Data.length cap3] 3 ?_; intro ay l
 refine bt k l 2 [] [] [(25, pt b1 4)] ?_; intro af m
 refine sx m l 0 [str u0.Reader.Row, i6 u0.Reader.At, i6 u0.Reader.Code, y8 u1, i6 1, i6 u0.f.ID, .bool u0.f.Long, .bool u0.f.Fast, .bool u0.f.Remote, i6 u0.f.Size, .slice ao2 u0.f.Data.length cap3] 4 ?_; intro ag J
 have L : Mem B [] w0 Z0 ((.row b1 [str u0.Reader.Row, i6 u0.Reader.At, i6 u0.Reader.Code, y8 u1, i6 1, i6 u0.f.ID, .bool u0.f.Long, .bool u0.f.Fast, .bool u0.f.Remote, i6 u0.f.Size, .slice ao2 u0.f.Data.length cap3] 46) :: Rr) Z ag := J
 apply I
 apply t_
 have M : Fr 33 [] [⟨0, [], pt b1 3⟩, ⟨1, [], y8 u1⟩] af := m.reg
 refine sqQH mixed (by kernel_rfl) L ?_; intro ah N
 refine q1 M 26 (y8 u1) ?_; intro az O
 refine q1 O 27 (y8 (w8 (97 - u1))) ?_; intro aA P
 refine q1 P 28 (pt b1 3) ?_; intro aB Q
 refine q1 Q 29 (pt b1 3) ?_; intro aC R
 refine q1 R 30 (pt b1 4) ?_; intro aD o
 refine ql_ o 0 4 (i6 1) rfl rfl ?_; intro aE S
 refine q1 S 32 (.bool false) ?_; intro aF T
 refine q1 T 4 (y8 (w8 (97 - u1))) ?_; intro aG U
 refine q1 U 5 (.bool false) ?_; intro aH ai
 refine qnl (N _ ?_); intro aI aj
 exact r_ (ra2 ai (.tuple #[y8 (w8 (97 - u1)), .bool false]) ⟨(w8 (97 - u1), false, (⟨(⟨u0.Reader.Row, u0.Reader.At, u0.Reader.Code, (⟨u1, 1⟩ : Counter)⟩ : Reader), u0.f⟩ : FReader)), ao2, cap3, Z, rfl, ad, q, hs4, aj.kp⟩)

theorem rbitF_walk (u0 : FReader) (b1 : Nat) (ao2 : Option Addr) (cap3 : Nat) (B : Nat) (w0 : World) (Z0 : Fz) (Rr : List Res) (Z : Fz) (w : World) (hs4 : SlR t8 Z ao2 cap3 u0.f.Data) (hM0 : Mem B [] w0 Z0 ((.row b1 [str u0.Reader.Row, i6 u0.Reader.At, i6 u0.Reader.Code, y8 u0.Reader.c.last, i6 u0.Reader.c.n, i6 u0.f.ID, .bool u0.f.Long, .bool u0.f.Fast, .bool u0.f.Remote, i6 u0.f.Size, .slice ao2 u0.f.Data.length cap3] 46) :: Rr) Z w) (hZ : Z.on w) {K : (Int × FReader) → Prop} (hp : rbitF_vc u0 K) : Calls Tryz.prog 47 #[pt b1 0] w fun e w' => ∃ (r : Int × FReader) (ao1001 : Option Addr) (cap1002 : Nat) (Z' : Fz), e = .returned (y8 r.1) ∧ K r ∧ Fz.le Z Z' ∧ SlR t8 Z' ao1001 cap1002 r.2.f.Data ∧ Mem B [] w0 Z0 ((.row b1 [str r.2.Reader.Row, i6 r.2.Reader.At, i6 r.2.Reader.Code, y8 r.2.Reader.c.last, i6 r.2.Reader.c.n, i6 r.2.f.ID, .bool r.2.f.Long, .bool r.2.f.Fast, .bool r.2.f.Remote, i6 r.2.f.Size, .slice ao1001 r.2.f.Data.length cap1002] 46) :: Rr) Z' w' := by
 refine enter0 Tryz.func47 rfl rfl (by kernel_rfl) ?_; intro a0 C; have m := Fz.le.refl Z
 have j := hp (hs4.small)
 refine sqB C hM0 [] [] [] ?_; intro a7 D
 refine s_ (sqB D hM0 [0] [] [(7, .bool (u0.Reader.Code != 0))] ?_); intro af d
 refine c_ d j (fun _ ag => ?_) fun _ l => ?_
 ·
  refine sqB d hM0 [] [] [(2, y8 48)] ?_; intro az ah
  exact r_ (h_ (ra1 ah (y8 48) ⟨(48, u0), ao2, cap3, Z, rfl, ag, m, hs4, hM0.kp⟩))
 refine k_ (s_ ?_)
 have E : Fr 38 [] [⟨0, [], pt b1 0⟩] af := d.reg
 refine sqQH mixed (by kernel_rfl) hM0 ?_; intro ai F
 refine q1 E 8 (pt b1 0) ?_; intro aA G
 refine q1 G 9 (pt b1 0) ?_; intro aB H
 refine q1 H 10 (pt b1 1) ?_; intro aC p
 refine ql_ p 0 1 (i6 u0.Reader.At) rfl rfl ?_; intro aD I
 refine q1 I 12 (pt b1 0) ?_; intro aE J
 refine q1 J 13 (pt b1 0) ?_; intro aF L
 refine q1 L 14 (pt b1 0) ?_; intro aG s
 refine ql_ s 0 0 (str u0.Reader.Row) rfl rfl ?_; intro aH M
 refine q1 M 16 (i6 (u0.Reader.Row.length : Int)) ?_; intro aI N
 refine q1 N 17 (.bool (u0.Reader.At == (u0.Reader.Row.length : Int))) ?_; intro aJ h
 refine qnl (F _ ?_); intro aK a
 refine c_ h l (fun _ aj => ?_) fun _ an => ?_
 ·
  refine sqH ?_; intro ak O
  refine bt h a 3 [] [] [(20, pt b1 2)] ?_; intro aL v
  refine sx v a 0 [str u0.Reader.Row, i6 u0.Reader.At, i6 7, y8 u0.Reader.c.last, i6 u0.Reader.c.n, i6 u0.f.ID, .bool u0.f.Long, .bool u0.f.Fast, .bool u0.f.Remote, i6 u0.f.Size, .slice ao2 u0.f.Data.length cap3] 2 ?_; intro al P
  have Q : Mem B [] w0 Z0 ((.row b1 [str u0.Reader.Row, i6 u0.Reader.At, i6 7, y8 u0.Reader.c.last, i6 u0.Reader.c.n, i6 u0.f.ID, .bool u0.f.Long, .bool u0.f.Fast, .bool u0.f.Remote, i6 u0.f.Size, .slice ao2 u0.f.Data.length cap3] 46) :: Rr) Z al := P
  apply O
  refine sqB v Q [] [] [(2, y8 48)] ?_; intro aM am
  exact r_ (h_ (ra1 am (y8 48) ⟨(48, (⟨(⟨u0.Reader.Row, u0.Reader.At, 7, u0.Reader.c⟩ : Reader), u0.f⟩ : FReader)), ao2, cap3, Z, rfl, aj, m, hs4, Q.kp⟩))
 refine k_ (sqH ?_); intro ao R
 refine bt h a 7 [0] [] [(25, i6 (w64 (u0.Reader.At + 1))), (27, pt b1 1)] ?_; intro ap x
 refine sx x a 0 [str u0.Reader.Row, i6 (w64 (u0.Reader.At + 1)), i6 u0.Reader.Code, y8 u0.Reader.c.last, i6 u0.Reader.c.n, i6 u0.f.ID, .bool u0.f.Long, .bool u0.f.Fast, .bool u0.f.Remote, i6 u0.f.Size, .slice ao2 u0.f.Data.length cap3] 1 ?_; intro aq S
 have T : Mem B [] w0 Z0 ((.row b1 [str u0.Reader.Row, i6 (w64 (u0.Reader.At + 1)), i6 u0.Reader.Code, y8 u0.Reader.c.last, i6 u0.Reader.c.n, i6 u0.f.ID, .bool u0.f.Long, .bool u0.f.Fast, .bool u0.f.Remote, i6 u0.f.Size, .slice ao2 u0.f.Data.length cap3] 46) :: Rr) Z aq := S
 apply R
 have U : Fr 38 [] [⟨0, [], pt b1 0⟩] ap := x.reg
 refine sqQH mixed (by kernel_rfl) T ?_; intro ar V
 refine q1 U 28 (pt b1 0) ?_; intro aN W
 refine q1 W 29 (pt b1 0) ?_; intro aO X
 refine q1 X 30 (pt b1 0) ?_; intro aP y
 refine ql_ y 0 0 (str u0.Reader.Row) rfl rfl ?_; intro aQ Y
 refine q1 Y 32 (pt b1 0) ?_; intro aR aa
 refine q1 aa 33 (pt b1 0) ?_; intro aS ab
 refine q1 ab 34 (pt b1 1) ?_; intro aT z
 refine ql_ z 0 1 (i6 (w64 (u0.Reader.At + 1))) rfl rfl ?_; intro aU ac
 refine q1 ac 36 (i6 (w64 ((w64 (u0.Reader.At + 1)) - 1))) ?_; intro aV A
 obtain ⟨au, av⟩ := an
 obtain ⟨i, ad⟩ : ∃ q, u0.Reader.Row[(w64 ((w64 (u0.Reader.At + 1)) - 1)).toNat]? = some q := ⟨_, List.getElem?_eq_getElem (by omega)⟩; have aw := av i ad
 refine qu_ A (y8 (i.toNat : Int)) (fun v123 hC => stridx_run A (k := .i64) rfl (by kernel_rfl) (by kernel_rfl) (by kernel_rfl) au.1 ad) ?_; intro aW ae
 refine q1 ae 2 (y8 (i.toNat : Int)) ?_; intro aX ax
 refine qnl (V _ ?_); intro aY ay
 exact r_ (ra1 ax (y8 (i.toNat : Int)) ⟨((i.toNat : Int), (⟨(⟨u0.Reader.Row, w64 (u0.Reader.At + 1), u0.Reader.Code, u0.Reader.c⟩ : Reader), u0.f⟩ : FReader)), ao2, cap3, Z, rfl, aw, m, hs4, ay.kp⟩)

theorem fsizes_walk   (Z : Fz) (w : World)  (hZ : Z.on w) {K : (List Int) → Prop} (hp : fsizes_vc  K) : Calls Tryz.prog 20 #[] w fun e w' => ∃ (r : (List Int)) (ao1001 : Option Addr) (cap1002 : Nat) (Z' : Fz), e = .returned (.slice ao1001 r.length cap1002) ∧ K r ∧ Mem w.heap.size [] w Z [.own t6 3 ao1001 cap1002 r] Z' w' := by
 refine enter0 Tryz.func20 rfl rfl (by kernel_rfl) ?_; intro n d; have c := Mem.start w Z hZ
 refine sqB d c [] [] [] ?_; intro p f
 refine sqH ?_; intro j g
 refine nw f c (fun b => .slice (sm b) 16 16) [i6 0, i6 1, i6 2, i6 3, i6 4, i6 5, i6 6, i6 7, i6 8, i6 12, i6 16, i6 20, i6 24, i6 32, i6 48, i6 64] 3 ?_; intro a q k h i
 refine s1 h 0 (.slice (sm a) 16 16) ?_; intro s l
 apply g
 apply r_
 have m : Mem w.heap.size [] w Z [.own t6 3 (sm a) 16 ([0, 1, 2, 3, 4, 5, 6, 7, 8, 12, 16, 20, 24, 32, 48, 64] : List Int)] Z k := i.rowOwn (T := t6) (xs := ([0, 1, 2, 3, 4, 5, 6, 7, 8, 12, 16, 20, 24, 32, 48, 64] : List Int)) 0 rfl (by decide) (by show 16 ≤ lim; decide) ((RepAll.one (T := t6) (x := 0) rfl).append ((RepAll.one (T := t6) (x := 1) rfl).append ((RepAll.one (T := t6) (x := 2) rfl).append ((RepAll.one (T := t6) (x := 3) rfl).append ((RepAll.one (T := t6) (x := 4) rfl).append ((RepAll.one (T := t6) (x := 5) rfl).append ((RepAll.one (T := t6) (x := 6) rfl).append ((RepAll.one (T := t6) (x := 7) rfl).append ((RepAll.one (T := t6) (x := 8) rfl).append ((RepAll.one (T := t6) (x := 12) rfl).append ((RepAll.one (T := t6) (x := 16) rfl).append ((RepAll.one (T := t6) (x := 20) rfl).append ((RepAll.one (T := t6) (x := 24) rfl).append ((RepAll.one (T := t6) (x := 32) rfl).append ((RepAll.one (T := t6) (x := 48) rfl).append (RepAll.one (T := t6) (x := 64) rfl))))))))))))))))
 exact ra1 l (.slice (sm a) ([0, 1, 2, 3, 4, 5, 6, 7, 8, 12, 16, 20, 24, 32, 48, 64] : List Int).length 16) ⟨([0, 1, 2, 3, 4, 5, 6, 7, 8, 12, 16, 20, 24, 32, 48, 64] : List Int), (sm a), 16, Z, rfl, hp, m.kp⟩
def fsizes_fun   (Z : Fz) (w : World)  (hZ : Z.on w) := fc_ (fsizes_walk   Z w  hZ (fsizes_ok ))
theorem fbit_walk (u0 : Bool)  (Z : Fz) (w : World)  (hZ : Z.on w) {K : (List UInt8) → Prop} (hp : fbit_vc u0 K) : Calls Tryz.prog 83 #[.bool u0] w fun e w' => ∃ r : (List UInt8), e = .returned (str r) ∧ K r ∧ Below w.heap.size w w' := by
 refine enter0 Tryz.func83 rfl rfl (by kernel_rfl) ?_; intro k d; have a := Mem.start w Z hZ
 refine sqB d a [] [] [] ?_; intro m f
 refine s_ (sqB f a [] [] [(3, .bool u0)] ?_); intro n b
 refine c_ b hp (fun _ g => ?_) fun _ i => ?_
 ·
  refine sqB b a [] [] [(2, str ([49] : List UInt8))] ?_; intro o h
  exact r_ (h_ (ra1 h (str ([49] : List UInt8)) ⟨([49] : List UInt8), rfl, g, a.below⟩))
 refine k_ (sqB b a [] [] [(2, str ([48] : List UInt8))] ?_); intro p j
 exact r_ (ra1 j (str ([48] : List UInt8)) ⟨([48] : List UInt8), rfl, i, a.below⟩)
def fbit_fun (u0 : Bool)  (Z : Fz) (w : World)  (hZ : Z.on w) := f_ (fbit_walk u0  Z w  hZ (fbit_ok u0))
theorem fkind_walk (u0 : Frame) (ao1 : Option Addr) (cap2 : Nat) (Z : Fz) (w : World) (hs3 : SlR t8 Z ao1 cap2 u0.Data) (hZ : Z.on w) {K : Int → Prop} (hp : fkind_vc u0 K) : Calls Tryz.prog 50 #[.agg #[i6 u0.ID, .bool u0.Long, .bool u0.Fast, .bool u0.Remote, i6 u0.Size, .slice ao1 u0.Data.length cap2]] w fun e w' => ∃ r : Int, e = .returned (i6 r) ∧ K r ∧ Below w.heap.size w w' := by
 refine enter0 Tryz.func50 rfl rfl (by kernel_rfl) ?_; intro x i; have j := Mem.start w Z hZ
 have d := hp (hs3.small)
 refine sqH ?_; intro n k
 refine nw i j pb [i6 u0.ID, .bool u0.Long, .bool u0.Fast, .bool u0.Remote, i6 u0.Size, .slice ao1 u0.Data.length cap2] 24 ?_; intro z A B l a
 refine s1 l 2 (i6 0) ?_; intro C m
 apply k
 refine s_ (b_ (sqB m a [0] [] [(3, .bool (!u0.Fast))] ?_)); intro D b
 refine c_ b d (fun _ o => ?_) fun _ f => ?_
 ·
  refine sqB b a [] [] [(2, i6 0)] ?_; intro E p
  exact r_ (i_ (h_ (ra1 p (i6 0) ⟨0, rfl, o, a.below⟩)))
 refine sqB b a [0] [] [(7, .bool (decide ((u0.Data.length : Int) ≤ 16)))] ?_; intro F c
 refine c_ c f (fun _ q => ?_) fun _ u => ?_
 ·
  refine sqB c a [] [] [(2, i6 1)] ?_; intro G s
  exact r_ (i_ (h_ (ra1 s (i6 1) ⟨1, rfl, q, a.below⟩)))
 refine l_ (j_ (t_ (sqB c a [] [] [(2, i6 2)] ?_))); intro H v
 exact r_ (ra1 v (i6 2) ⟨2, rfl, u, a.below⟩)
def fkind_fun (u0 : Frame) (ao1 : Option Addr) (cap2 : Nat) (Z : Fz) (w : World) (hs3 : SlR t8 Z ao1 cap2 u0.Data) (hZ : Z.on w) := f_ (fkind_walk u0 ao1 cap2 Z w hs3 hZ (fkind_ok u0))
theorem sindex_walk (u0 : List Int) (u1 : Int) (ao1 : Option Addr) (cap2 : Nat) (Z : Fz) (w : World) (hs3 : SlR t6 Z ao1 cap2 u0) (hZ : Z.on w) {K : Int → Prop} (hp : sindex_vc u0 u1 K) : Calls Tryz.prog 55 #[.slice ao1 u0.length cap2, i6 u1] w fun e w' => ∃ r : Int, e = .returned (i6 r) ∧ K r ∧ Below w.heap.size w w' := by
 refine enter0 Tryz.func55 rfl rfl (by kernel_rfl) ?_; intro a0 m; have g := Mem.start w Z hZ
 have G := hp (hs3.small)
 refine sqB m g [] [] [] ?_; intro a6 n
 refine s_ (sqB n g [] [] [(7, i6 (u0.length : Int)), (8, i6 0)] ?_); intro o p
 apply b_
 have q : Fr 19 [] [⟨0, [], .slice ao1 u0.length cap2⟩, ⟨1, [], i6 u1⟩, ⟨7, [], i6 (u0.length : Int)⟩, ⟨8, [], i6 0⟩] o := p.reg
 obtain ⟨H, I, J, L⟩ := G
 refine lp (ι := Int) (fun s => [⟨0, [], .slice ao1 u0.length cap2⟩, ⟨1, [], i6 u1⟩, ⟨7, [], i6 (u0.length : Int)⟩, ⟨8, [], i6 s⟩]) (fun s => []) (fun s => Z) (fun s => H s) (fun s => I s) 0 J (by exact q.reg) (by exact g) ?_
 rintro a M N O v x
 have h := L a M
 refine sqB v x [] [] [(9, .bool (decide (a < (u0.length : Int))))] ?_; intro ae c
 refine s_ (c_ c h (fun _ P => ?_) fun _ ab => ?_)
 ·
  refine k_ (s_ (b_ (sqB c x [] [] [(5, i6 a)] ?_))); intro af z
  refine sqH ?_; intro Q A
  refine bt z x 3 [] [] [(11, i6 u1), (12, .slice ao1 u0.length cap2), (13, i6 a)] ?_; intro ag B
  obtain ⟨R, C⟩ := P
  refine ix_ B hs3 a R .i64 3 8 ?_; intro ah ai S d aj U V W D
  have i := C d U
  obtain rfl : S = ([i6 d] : List Value) := W
  refine z1 D x 15 V 0 (i6 d) rfl ?_; intro ak E
  refine s1 E 16 (.bool (u1 == d)) ?_; intro al f
  apply A
  refine c_ f i (fun _ X => ?_) fun _ F => ?_
  ·
   refine sqB f x [] [] [(4, i6 a)] ?_; intro am Y
   exact r_ (i_ (h_ (h_ (i_ (h_ (ra1 Y (i6 a) ⟨a, rfl, X, x.below⟩))))))
  refine l_ (j_ (t_ (rgB f x [] [] [(8, i6 (w64 (a + 1)))] ?_))); intro an aa
  exact d_ ⟨w64 (a + 1), F.1, F.2, (aa.reg).anyβ _ (by kernel_rfl), x.kp⟩
 refine x_ (y_ (y_ (z_ (t_ (sqB c x [] [] [(4, i6 (-1))] ?_))))); intro ao ac
 exact r_ (ra1 ac (i6 (-1)) ⟨-1, rfl, ab, x.below⟩)

theorem scontains_walk (u0 : List Int) (u1 : Int) (ao1 : Option Addr) (cap2 : Nat) (Z : Fz) (w : World) (hs3 : SlR t6 Z ao1 cap2 u0) (hZ : Z.on w) {K : Bool → Prop} (hp : scontains_vc u0 u1 K) : Calls Tryz.prog 39 #[.slice ao1 u0.length cap2, i6 u1] w fun e w' => ∃ r : Bool, e = .returned (.bool r) ∧ K r ∧ Below w.heap.size w w' := by
 refine enter0 Tryz.func39 rfl rfl (by kernel_rfl) ?_; intro n c; have a := Mem.start w Z hZ
 have j := hp (hs3.small)
 refine sqB c a [] [] [] ?_; intro p d
 refine sqH ?_; intro k f
 refine bt d a 2 [] [] [(5, .slice ao1 u0.length cap2), (6, i6 u1)] ?_; intro q g
 refine ck g 55 #[.slice ao1 u0.length cap2, i6 u1] ?_
 refine (sindex_walk u0 u1 ao1 cap2 _ _ hs3 a.fz j).mono ?_; rintro _ s ⟨b, rfl, l, hb⟩; refine ⟨_, rfl, ?_⟩; intro t h; have i := a.call hb
 refine bt h i 2 [] [] [(4, .bool (decide (b ≥ 0)))] ?_; intro u m
 apply f
 exact r_ (ra1 m (.bool (decide (b ≥ 0))) ⟨decide (b ≥ 0), rfl, l, i.below⟩)

end Go.Proofs.YtmnlahbngbigdaaGreatDoor
set_option linter.unusedVariables false
set_option linter.unusedSimpArgs false
set_option linter.defProp false
set_option maxRecDepth 100000
set_option maxHeartbeats 0
namespace Go.Proofs.YtmnlahbngbigdaaGreatDoor
open Go.Sy Go.RowKit
abbrev e46B (X : FReader) (A0 : Option Addr) (C0 : Nat) : List Value := [str X.Reader.Row, i6 X.Reader.At, i6 X.Reader.Code, y8 X.Reader.c.last, i6 X.Reader.c.n, i6 X.f.ID, .bool X.f.Long, .bool X.f.Fast, .bool X.f.Remote, i6 X.f.Size, .slice A0 X.f.Data.length C0]
abbrev e24B (X : Frame) (A0 : Option Addr) (C0 : Nat) : List Value := [i6 X.ID, .bool X.Long, .bool X.Fast, .bool X.Remote, i6 X.Size, .slice A0 X.Data.length C0]
def bread_fun (u0 : List UInt8) (hpre : u0.length ≤ 62 ∧ isRow u0 = true)  (Z : Fz) (w : World)  (hZ : Z.on w) := f_ (bread_walk u0  Z w  hZ (bread_ok u0 hpre))
def bwrite_fun (u0 : Int) (u1 : Int) (hpre : 0 ≤ u1 ∧ u1 ≤ 64 ∧ 0 ≤ u0 ∧ u0 < 2 ^ 62)  (Z : Fz) (w : World)  (hZ : Z.on w) := f_ (bwrite_walk u0 u1  Z w  hZ (bwrite_ok u0 u1 hpre))
def bcheck_fun (u0 : List UInt8)  (Z : Fz) (w : World)  (hZ : Z.on w) := f_ (bcheck_walk u0  Z w  hZ (bcheck_ok u0))
def ksum_fun (u0 : Kind) (u1 : List UInt8) (hpre : okKindS u0 ∧ u1.length ≤ 1000000)  (Z : Fz) (w : World)  (hZ : Z.on w) := f_ (ksum_walk u0 u1  Z w  hZ (ksum_ok u0 u1 hpre))
theorem cnext_fun (u0 : Counter) (u1 : Int) (hpre : -1000000 ≤ u0.n ∧ u0.n ≤ 1000000 ∧ 0 ≤ u1 ∧ u1 ≤ 97) (b1 : Nat) (B : Nat) (w0 : World) (Z0 : Fz) (Rr : List Res) (Z : Fz) (w : World) (hM0 : Mem B [] w0 Z0 ((.row b1 [y8 u0.last, i6 u0.n] 42) :: Rr) Z w) (hZ : Z.on w) : Calls Tryz.prog 48 #[pt b1 0, y8 u1] w fun e w' => ∃ (Z' : Fz), e = .returned (.tuple #[y8 (cnextS u0 u1).1, .bool (cnextS u0 u1).2.1]) ∧ Fz.le Z Z' ∧ Mem B [] w0 Z0 ((.row b1 [y8 (cnextS u0 u1).2.2.last, i6 (cnextS u0 u1).2.2.n] 42) :: Rr) Z' w' :=
  (cnext_walk u0 u1 b1 B w0 Z0 Rr Z w hM0 hZ (cnext_ok u0 u1 hpre)).mono fun _ _ ⟨r, h0, he, hk, f0, hm⟩ => by subst hk; exact ⟨h0, he, f0, hm⟩


def cnextF_fun (u0 : FReader) (u1 : Int) (hpre : -1000000 ≤ u0.Reader.c.n ∧ u0.Reader.c.n ≤ 1000000 ∧ 0 ≤ u1 ∧ u1 ≤ 97) (b1 : Nat) (ao2 : Option Addr) (cap3 : Nat) (B : Nat) (w0 : World) (Z0 : Fz) (Rr : List Res) (Z : Fz) (w : World) (hs4 : SlR t8 Z ao2 cap3 u0.f.Data) (hM0 : Mem B [] w0 Z0 ((.row b1 [str u0.Reader.Row, i6 u0.Reader.At, i6 u0.Reader.Code, y8 u0.Reader.c.last, i6 u0.Reader.c.n, i6 u0.f.ID, .bool u0.f.Long, .bool u0.f.Fast, .bool u0.f.Remote, i6 u0.f.Size, .slice ao2 u0.f.Data.length cap3] 46) :: Rr) Z w) (hZ : Z.on w) := fc_ (cnextF_walk u0 u1 b1 ao2 cap3 B w0 Z0 Rr Z w hs4 hM0 hZ (cnextF_ok u0 u1 hpre))
def rbitF_fun (u0 : FReader) (hpre : 0 ≤ u0.Reader.At ∧ u0.Reader.At ≤ (u0.Reader.Row.length : Int) ∧ u0.Reader.Row.length ≤ 1000000) (b1 : Nat) (ao2 : Option Addr) (cap3 : Nat) (B : Nat) (w0 : World) (Z0 : Fz) (Rr : List Res) (Z : Fz) (w : World) (hs4 : SlR t8 Z ao2 cap3 u0.f.Data) (hM0 : Mem B [] w0 Z0 ((.row b1 [str u0.Reader.Row, i6 u0.Reader.At, i6 u0.Reader.Code, y8 u0.Reader.c.last, i6 u0.Reader.c.n, i6 u0.f.ID, .bool u0.f.Long, .bool u0.f.Fast, .bool u0.f.Remote, i6 u0.f.Size, .slice ao2 u0.f.Data.length cap3] 46) :: Rr) Z w) (hZ : Z.on w) := fc_ (rbitF_walk u0 b1 ao2 cap3 B w0 Z0 Rr Z w hs4 hM0 hZ (rbitF_ok u0 hpre))
def scontains_fun (u0 : List Int) (u1 : Int) (ao1 : Option Addr) (cap2 : Nat) (Z : Fz) (w : World) (hs3 : SlR t6 Z ao1 cap2 u0) (hZ : Z.on w) := f_ (scontains_walk u0 u1 ao1 cap2 Z w hs3 hZ (scontains_ok u0 u1))
def sindex_fun (u0 : List Int) (u1 : Int) (ao1 : Option Addr) (cap2 : Nat) (Z : Fz) (w : World) (hs3 : SlR t6 Z ao1 cap2 u0) (hZ : Z.on w) := f_ (sindex_walk u0 u1 ao1 cap2 Z w hs3 hZ (sindex_ok2 u0 u1))
theorem csum_walk (u0 : Int) (u1 : List UInt8)  (Z : Fz) (w : World)  (hZ : Z.on w) {K : ((List UInt8) × Int) → Prop} (hp : csum_vc u0 u1 K) : Calls Tryz.prog 24 #[i6 u0, str u1] w fun e w' => ∃ r : (List UInt8) × Int, e = .returned (.tuple #[str r.1, i6 r.2]) ∧ K r ∧ Below w.heap.size w w' := by
 refine enter0 Tryz.func24 rfl rfl (by kernel_rfl) ?_; intro a0 y; have i := Mem.start w Z hZ
 refine sqB y i [] [] [] ?_; intro a4 z
 refine s_ (sqH ?_); intro af A
 refine s1 z 8 (str u1) ?_; intro a7 B
 refine fc B i (bcheck_fun u1 _ _ i.fz) ?_; intro a9 aB C a
 refine s1 C 6 (i6 (bcheckS u1)) ?_; intro aC D
 apply A
 refine sqB D a [] [] [(11, .bool ((bcheckS u1) != 0))] ?_; intro aD c
 refine c_ c hp (fun _ ag => ?_) fun _ j => ?_
 ·
  refine sqB c a [] [] [(4, str []), (5, i6 (bcheckS u1))] ?_; intro aE ah
  exact r_ (h_ (ra2 ah (.tuple #[str [], i6 (bcheckS u1)]) ⟨([], (bcheckS u1)), rfl, ag, a.below⟩))
 refine k_ (s_ (sqH ?_)); intro ai E
 refine s1 c 13 (i6 u0) ?_; intro aF F
 refine s1 F 14 (.bool (decide (u0 < 0))) ?_; intro aG G
 refine s1 G 15 (.bool (decide (u0 < 0))) ?_; intro aH H
 have I := H.atom ((decide (u0 < 0)) == false) (by kernel_rfl)
 refine gp I 16 0 [] (decide (u0 < 0)) (i6 u0) rfl rfl ?_; intro aI J
 refine gcl J a (.agg #[i6 ckinds.1.Size, y6 ckinds.1.Poly, y6 ckinds.1.From, y6 ckinds.1.End, i6 ckinds.2.1.Size, y6 ckinds.2.1.Poly, y6 ckinds.2.1.From, y6 ckinds.2.1.End, i6 ckinds.2.2.1.Size, y6 ckinds.2.2.1.Poly, y6 ckinds.2.2.1.From, y6 ckinds.2.2.1.End, i6 ckinds.2.2.2.1.Size, y6 ckinds.2.2.2.1.Poly, y6 ckinds.2.2.2.1.From, y6 ckinds.2.2.2.1.End, i6 ckinds.2.2.2.2.Size, y6 ckinds.2.2.2.2.Poly, y6 ckinds.2.2.2.2.From, y6 ckinds.2.2.2.2.End]) 52 #[] (m := 0) (cj := []) (bj := decide (u0 < 0)) rfl rfl (by kernel_rfl) rfl (by kernel_rfl) (by kernel_rfl) (by kernel_rfl) (fun _ => by kernel_rfl) (fun hg => ckinds_fun  _ _ a.fz) ?_; intro aJ aK L d
 refine gp L 18 0 [] (decide (u0 < 0)) (i6 5) rfl rfl ?_; intro aL M
 refine gp M 19 0 [] (decide (u0 < 0)) (.bool (decide (u0 ≥ 5))) rfl rfl ?_; intro aM n
 refine u_ n (.bool ((decide (u0 < 0)) || (decide (u0 ≥ 5)))) (pk_or n (g := []) (m := 0) (b := decide (u0 < 0)) (v := decide (u0 ≥ 5)) rfl (by kernel_rfl) (by kernel_rfl) (by kernel_rfl) rfl) ?_; intro N f
 apply E
 refine c_ f j (fun _ aj => ?_) fun _ al => ?_
 ·
  have O : Fr 30 [] [] N := f.reg
  refine sqB O d [] [] [(4, str []), (5, i6 8)] ?_; intro aN ak
  exact r_ (h_ (ra2 ak (.tuple #[str [], i6 8]) ⟨([], 8), rfl, aj, d.below⟩))
 apply k_
 have P : Fr 30 [] [⟨0, [], i6 u0⟩, ⟨1, [], str u1⟩] N := f.reg
 refine sqH ?_; intro am Q
 refine fc P d (ckinds_fun  _ _ d.fz) ?_; intro aO aP R S
 refine s1 R 22 (i6 u0) ?_; intro aQ p
 obtain ⟨an, ao⟩ := al
 have hix : ∀ x : Int, 0 ≤ x ∧ x < 5 → x = 0 ∨ x = 1 ∨ x = 2 ∨ x = 3 ∨ x = 4 := by intro x hx; omega
 refine u_ p (.agg #[i6 (([ckinds.1.Size, ckinds.2.1.Size, ckinds.2.2.1.Size, ckinds.2.2.2.1.Size, ckinds.2.2.2.2.Size] : List Int).getD u0.toNat 0), y6 (([ckinds.1.Poly, ckinds.2.1.Poly, ckinds.2.2.1.Poly, ckinds.2.2.2.1.Poly, ckinds.2.2.2.2.Poly] : List Int).getD u0.toNat 0), y6 (([ckinds.1.From, ckinds.2.1.From, ckinds.2.2.1.From, ckinds.2.2.2.1.From, ckinds.2.2.2.2.From] : List Int).getD u0.toNat 0), y6 (([ckinds.1.End, ckinds.2.1.End, ckinds.2.2.1.End, ckinds.2.2.2.1.End, ckinds.2.2.2.2.End] : List Int).getD u0.toNat 0)]) ((by generalize u0 = ix at *; rcases hix _ an with rfl | rfl | rfl | rfl | rfl <;> exact p0 p (by kernel_rfl))) ?_; intro aR T
 refine nw T S pb [i6 0, y6 0, y6 0, y6 0] 83 ?_; intro h ap aS q U
 refine sx q U 0 [i6 (([ckinds.1.Size, ckinds.2.1.Size, ckinds.2.2.1.Size, ckinds.2.2.2.1.Size, ckinds.2.2.2.2.Size] : List Int).getD u0.toNat 0), y6 (([ckinds.1.Poly, ckinds.2.1.Poly, ckinds.2.2.1.Poly, ckinds.2.2.2.1.Poly, ckinds.2.2.2.2.Poly] : List Int).getD u0.toNat 0), y6 (([ckinds.1.From, ckinds.2.1.From, ckinds.2.2.1.From, ckinds.2.2.2.1.From, ckinds.2.2.2.2.From] : List Int).getD u0.toNat 0), y6 (([ckinds.1.End, ckinds.2.1.End, ckinds.2.2.1.End, ckinds.2.2.2.1.End, ckinds.2.2.2.2.End] : List Int).getD u0.toNat 0)] 0 ?_; intro aq V
 have W : Mem w.heap.size [] w Z [.row h [i6 (([ckinds.1.Size, ckinds.2.1.Size, ckinds.2.2.1.Size, ckinds.2.2.2.1.Size, ckinds.2.2.2.2.Size] : List Int).getD u0.toNat 0), y6 (([ckinds.1.Poly, ckinds.2.1.Poly, ckinds.2.2.1.Poly, ckinds.2.2.2.1.Poly, ckinds.2.2.2.2.Poly] : List Int).getD u0.toNat 0), y6 (([ckinds.1.From, ckinds.2.1.From, ckinds.2.2.1.From, ckinds.2.2.2.1.From, ckinds.2.2.2.2.From] : List Int).getD u0.toNat 0), y6 (([ckinds.1.End, ckinds.2.1.End, ckinds.2.2.1.End, ckinds.2.2.2.1.End, ckinds.2.2.2.2.End] : List Int).getD u0.toNat 0)] 83] Z aq := V
 apply Q
 have s : Fr 30 [] [⟨1, [], str u1⟩, ⟨7, [], pt h 0⟩] ap := q.reg
 refine sqQH mixed (by kernel_rfl) W ?_; intro ar X
 refine qu_ s (.agg #[i6 (([ckinds.1.Size, ckinds.2.1.Size, ckinds.2.2.1.Size, ckinds.2.2.2.1.Size, ckinds.2.2.2.2.Size] : List Int).getD u0.toNat 0), y6 (([ckinds.1.Poly, ckinds.2.1.Poly, ckinds.2.2.1.Poly, ckinds.2.2.2.1.Poly, ckinds.2.2.2.2.Poly] : List Int).getD u0.toNat 0), y6 (([ckinds.1.From, ckinds.2.1.From, ckinds.2.2.1.From, ckinds.2.2.2.1.From, ckinds.2.2.2.2.From] : List Int).getD u0.toNat 0), y6 (([ckinds.1.End, ckinds.2.1.End, ckinds.2.2.1.End, ckinds.2.2.2.1.End, ckinds.2.2.2.2.End] : List Int).getD u0.toNat 0)]) (fun v81 hC => lda s hC 0 (g := []) (b := h) (off := 0) (k := 4) (cs := [i6 (([ckinds.1.Size, ckinds.2.1.Size, ckinds.2.2.1.Size, ckinds.2.2.2.1.Size, ckinds.2.2.2.2.Size] : List Int).getD u0.toNat 0), y6 (([ckinds.1.Poly, ckinds.2.1.Poly, ckinds.2.2.1.Poly, ckinds.2.2.2.1.Poly, ckinds.2.2.2.2.Poly] : List Int).getD u0.toNat 0), y6 (([ckinds.1.From, ckinds.2.1.From, ckinds.2.2.1.From, ckinds.2.2.2.1.From, ckinds.2.2.2.2.From] : List Int).getD u0.toNat 0), y6 (([ckinds.1.End, ckinds.2.1.End, ckinds.2.2.1.End, ckinds.2.2.2.1.End, ckinds.2.2.2.2.End] : List Int).getD u0.toNat 0)]) (vs := [i6 (([ckinds.1.Size, ckinds.2.1.Size, ckinds.2.2.1.Size, ckinds.2.2.2.1.Size, ckinds.2.2.2.2.Size] : List Int).getD u0.toNat 0), y6 (([ckinds.1.Poly, ckinds.2.1.Poly, ckinds.2.2.1.Poly, ckinds.2.2.2.1.Poly, ckinds.2.2.2.2.Poly] : List Int).getD u0.toNat 0), y6 (([ckinds.1.From, ckinds.2.1.From, ckinds.2.2.1.From, ckinds.2.2.2.1.From, ckinds.2.2.2.2.From] : List Int).getD u0.toNat 0), y6 (([ckinds.1.End, ckinds.2.1.End, ckinds.2.2.1.End, ckinds.2.2.2.1.End, ckinds.2.2.2.2.End] : List Int).getD u0.toNat 0)]) (ty := 83) rfl (by kernel_rfl) (by kernel_rfl) (by kernel_rfl) (by kernel_rfl) (by kernel_rfl) rfl) ?_; intro aT Y
 refine q1 Y 25 (str u1) ?_; intro aU aa
 obtain ⟨au, av⟩ := ao
 refine qcl aa (y6 (ksumS (⟨([ckinds.1.Size, ckinds.2.1.Size, ckinds.2.2.1.Size, ckinds.2.2.2.1.Size, ckinds.2.2.2.2.Size] : List Int).getD u0.toNat 0, ([ckinds.1.Poly, ckinds.2.1.Poly, ckinds.2.2.1.Poly, ckinds.2.2.2.1.Poly, ckinds.2.2.2.2.Poly] : List Int).getD u0.toNat 0, ([ckinds.1.From, ckinds.2.1.From, ckinds.2.2.1.From, ckinds.2.2.2.1.From, ckinds.2.2.2.2.From] : List Int).getD u0.toNat 0, ([ckinds.1.End, ckinds.2.1.End, ckinds.2.2.1.End, ckinds.2.2.2.1.End, ckinds.2.2.2.2.End] : List Int).getD u0.toNat 0⟩ : Kind) u1)) 54 #[.agg #[i6 (([ckinds.1.Size, ckinds.2.1.Size, ckinds.2.2.1.Size, ckinds.2.2.2.1.Size, ckinds.2.2.2.2.Size] : List Int).getD u0.toNat 0), y6 (([ckinds.1.Poly, ckinds.2.1.Poly, ckinds.2.2.1.Poly, ckinds.2.2.2.1.Poly, ckinds.2.2.2.2.Poly] : List Int).getD u0.toNat 0), y6 (([ckinds.1.From, ckinds.2.1.From, ckinds.2.2.1.From, ckinds.2.2.2.1.From, ckinds.2.2.2.2.From] : List Int).getD u0.toNat 0), y6 (([ckinds.1.End, ckinds.2.1.End, ckinds.2.2.1.End, ckinds.2.2.2.1.End, ckinds.2.2.2.2.End] : List Int).getD u0.toNat 0)], str u1] (nog rfl _) rfl (by kernel_rfl) (fun _ => by kernel_rfl) (qfc fun w hC => ksum_fun (⟨([ckinds.1.Size, ckinds.2.1.Size, ckinds.2.2.1.Size, ckinds.2.2.2.1.Size, ckinds.2.2.2.2.Size] : List Int).getD u0.toNat 0, ([ckinds.1.Poly, ckinds.2.1.Poly, ckinds.2.2.1.Poly, ckinds.2.2.2.1.Poly, ckinds.2.2.2.2.Poly] : List Int).getD u0.toNat 0, ([ckinds.1.From, ckinds.2.1.From, ckinds.2.2.1.From, ckinds.2.2.2.1.From, ckinds.2.2.2.2.From] : List Int).getD u0.toNat 0, ([ckinds.1.End, ckinds.2.1.End, ckinds.2.2.1.End, ckinds.2.2.2.1.End, ckinds.2.2.2.2.End] : List Int).getD u0.toNat 0⟩ : Kind) u1 au _ _ hC.fz) ?_; intro aV ab
 refine q1 ab 27 (pt h 0) ?_; intro aW u
 refine ql_ u 0 0 (i6 (([ckinds.1.Size, ckinds.2.1.Size, ckinds.2.2.1.Size, ckinds.2.2.2.1.Size, ckinds.2.2.2.2.Size] : List Int).getD u0.toNat 0)) rfl rfl ?_; intro aX ac
 obtain ⟨aw, ax⟩ := av
 refine qcl ac (str (bwriteS (ksumS (⟨([ckinds.1.Size, ckinds.2.1.Size, ckinds.2.2.1.Size, ckinds.2.2.2.1.Size, ckinds.2.2.2.2.Size] : List Int).getD u0.toNat 0, ([ckinds.1.Poly, ckinds.2.1.Poly, ckinds.2.2.1.Poly, ckinds.2.2.2.1.Poly, ckinds.2.2.2.2.Poly] : List Int).getD u0.toNat 0, ([ckinds.1.From, ckinds.2.1.From, ckinds.2.2.1.From, ckinds.2.2.2.1.From, ckinds.2.2.2.2.From] : List Int).getD u0.toNat 0, ([ckinds.1.End, ckinds.2.1.End, ckinds.2.2.1.End, ckinds.2.2.2.1.End, ckinds.2.2.2.2.End] : List Int).getD u0.toNat 0⟩ : Kind) u1) (([ckinds.1.Size, ckinds.2.1.Size, ckinds.2.2.1.Size, ckinds.2.2.2.1.Size, ckinds.2.2.2.2.Size] : List Int).getD u0.toNat 0))) 53 #[y6 (ksumS (⟨([ckinds.1.Size, ckinds.2.1.Size, ckinds.2.2.1.Size, ckinds.2.2.2.1.Size, ckinds.2.2.2.2.Size] : List Int).getD u0.toNat 0, ([ckinds.1.Poly, ckinds.2.1.Poly, ckinds.2.2.1.Poly, ckinds.2.2.2.1.Poly, ckinds.2.2.2.2.Poly] : List Int).getD u0.toNat 0, ([ckinds.1.From, ckinds.2.1.From, ckinds.2.2.1.From, ckinds.2.2.2.1.From, ckinds.2.2.2.2.From] : List Int).getD u0.toNat 0, ([ckinds.1.End, ckinds.2.1.End, ckinds.2.2.1.End, ckinds.2.2.2.1.End, ckinds.2.2.2.2.End] : List Int).getD u0.toNat 0⟩ : Kind) u1), i6 (([ckinds.1.Size, ckinds.2.1.Size, ckinds.2.2.1.Size, ckinds.2.2.2.1.Size, ckinds.2.2.2.2.Size] : List Int).getD u0.toNat 0)] (nog rfl _) rfl (by kernel_rfl) (fun _ => by kernel_rfl) (qfc fun w hC => bwrite_fun (ksumS (⟨([ckinds.1.Size, ckinds.2.1.Size, ckinds.2.2.1.Size, ckinds.2.2.2.1.Size, ckinds.2.2.2.2.Size] : List Int).getD u0.toNat 0, ([ckinds.1.Poly, ckinds.2.1.Poly, ckinds.2.2.1.Poly, ckinds.2.2.2.1.Poly, ckinds.2.2.2.2.Poly] : List Int).getD u0.toNat 0, ([ckinds.1.From, ckinds.2.1.From, ckinds.2.2.1.From, ckinds.2.2.2.1.From, ckinds.2.2.2.2.From] : List Int).getD u0.toNat 0, ([ckinds.1.End, ckinds.2.1.End, ckinds.2.2.1.End, ckinds.2.2.2.1.End, ckinds.2.2.2.2.End] : List Int).getD u0.toNat 0⟩ : Kind) u1) (([ckinds.1.Size, ckinds.2.1.Size, ckinds.2.2.1.Size, ckinds.2.2.2.1.Size, ckinds.2.2.2.2.Size] : List Int).getD u0.toNat 0) aw _ _ hC.fz) ?_; intro aY ad
 refine q1 ad 4 (str (bwriteS (ksumS (⟨([ckinds.1.Size, ckinds.2.1.Size, ckinds.2.2.1.Size, ckinds.2.2.2.1.Size, ckinds.2.2.2.2.Size] : List Int).getD u0.toNat 0, ([ckinds.1.Poly, ckinds.2.1.Poly, ckinds.2.2.1.Poly, ckinds.2.2.2.1.Poly, ckinds.2.2.2.2.Poly] : List Int).getD u0.toNat 0, ([ckinds.1.From, ckinds.2.1.From, ckinds.2.2.1.From, ckinds.2.2.2.1.From, ckinds.2.2.2.2.From] : List Int).getD u0.toNat 0, ([ckinds.1.End, ckinds.2.1.End, ckinds.2.2.1.End, ckinds.2.2.2.1.End, ckinds.2.2.2.2.End] : List Int).getD u0.toNat 0⟩ : Kind) u1) (([ckinds.1.Size, ckinds.2.1.Size, ckinds.2.2.1.Size, ckinds.2.2.2.1.Size, ckinds.2.2.2.2.Size] : List Int).getD u0.toNat 0))) ?_; intro aZ ae
 refine q1 ae 5 (i6 0) ?_; intro a1 ay
 refine qnl (X _ ?_); intro a2 az
 exact r_ (ra2 ay (.tuple #[str (bwriteS (ksumS (⟨([ckinds.1.Size, ckinds.2.1.Size, ckinds.2.2.1.Size, ckinds.2.2.2.1.Size, ckinds.2.2.2.2.Size] : List Int).getD u0.toNat 0, ([ckinds.1.Poly, ckinds.2.1.Poly, ckinds.2.2.1.Poly, ckinds.2.2.2.1.Poly, ckinds.2.2.2.2.Poly] : List Int).getD u0.toNat 0, ([ckinds.1.From, ckinds.2.1.From, ckinds.2.2.1.From, ckinds.2.2.2.1.From, ckinds.2.2.2.2.From] : List Int).getD u0.toNat 0, ([ckinds.1.End, ckinds.2.1.End, ckinds.2.2.1.End, ckinds.2.2.2.1.End, ckinds.2.2.2.2.End] : List Int).getD u0.toNat 0⟩ : Kind) u1) (([ckinds.1.Size, ckinds.2.1.Size, ckinds.2.2.1.Size, ckinds.2.2.2.1.Size, ckinds.2.2.2.2.Size] : List Int).getD u0.toNat 0)), i6 0]) ⟨((bwriteS (ksumS (⟨([ckinds.1.Size, ckinds.2.1.Size, ckinds.2.2.1.Size, ckinds.2.2.2.1.Size, ckinds.2.2.2.2.Size] : List Int).getD u0.toNat 0, ([ckinds.1.Poly, ckinds.2.1.Poly, ckinds.2.2.1.Poly, ckinds.2.2.2.1.Poly, ckinds.2.2.2.2.Poly] : List Int).getD u0.toNat 0, ([ckinds.1.From, ckinds.2.1.From, ckinds.2.2.1.From, ckinds.2.2.2.1.From, ckinds.2.2.2.2.From] : List Int).getD u0.toNat 0, ([ckinds.1.End, ckinds.2.1.End, ckinds.2.2.1.End, ckinds.2.2.2.1.End, ckinds.2.2.2.2.End] : List Int).getD u0.toNat 0⟩ : Kind) u1) (([ckinds.1.Size, ckinds.2.1.Size, ckinds.2.2.1.Size, ckinds.2.2.2.1.Size, ckinds.2.2.2.2.Size] : List Int).getD u0.toNat 0)), 0), rfl, ax, az.below⟩)

theorem bof_walk (u0 : List Int) (ao1 : Option Addr) (cap2 : Nat) (Z : Fz) (w : World) (hs3 : SlR t8 Z ao1 cap2 u0) (hZ : Z.on w) {K : ((List UInt8) × Int) → Prop} (hp : bof_vc u0 K) : Calls Tryz.prog 57 #[.slice ao1 u0.length cap2] w fun e w' => ∃ r : (List UInt8) × Int, e = .returned (.tuple #[str r.1, i6 r.2]) ∧ K r ∧ Below w.heap.size w w' := by
 refine enter0 Tryz.func57 rfl rfl (by kernel_rfl) ?_; intro a0 u; have g := Mem.start w Z hZ
 have hzB := Go.Sy.zB hZ
 have j := hp (hs3.small)
 refine sqB u g [] [] [] ?_; intro a8 v
 refine s_ (sqB v g [] [] [(9, .bool (decide ((u0.length : Int) > 125)))] ?_); intro aM h
 refine c_ h j (fun _ ae => ?_) fun _ ag => ?_
 ·
  refine sqB h g [] [] [(2, str []), (3, i6 2)] ?_; intro aN af
  exact r_ (h_ (ra2 af (.tuple #[str [], i6 2]) ⟨([], 2), rfl, ae, g.below⟩))
 refine k_ (sqH ?_); intro ah x
 refine nw h g pb [.pointer none, .slice none 0 0] 123 ?_; intro a aO ai y n
 apply x
 refine s_ (sqB y n [] [] [(10, .slice ao1 u0.length cap2), (11, i6 (u0.length : Int)), (12, i6 0)] ?_); intro z A
 apply b_
 have B : Fr 22 [] [⟨4, [], pt a 0⟩, ⟨10, [], .slice ao1 u0.length cap2⟩, ⟨11, [], i6 (u0.length : Int)⟩, ⟨12, [], i6 0⟩] z := A.reg
 have C : Mem w.heap.size [] w Z [.row a [.pointer none, .slice none ([] : List UInt8).length 0] 123, .own tyByte 5 none 0 ([] : List UInt8)] Z ai := n.bldNil 5
 have D : Fr 22 [] [⟨4, [], pt a 0⟩, ⟨10, [], .slice ao1 u0.length cap2⟩, ⟨11, [], i6 (u0.length : Int)⟩, ⟨12, [], i6 0⟩] z := B.reg
 obtain ⟨aj, ak, al, am⟩ := ag
 refine lp (ι := Int × (List UInt8) × Value × (Option Addr) × Nat) (fun s => [⟨4, [], pt a 0⟩, ⟨10, [], .slice ao1 u0.length cap2⟩, ⟨11, [], i6 (u0.length : Int)⟩, ⟨12, [], i6 s.1⟩]) (fun s => [.row a [s.2.2.1, .slice s.2.2.2.1 s.2.1.length s.2.2.2.2] 123, .own tyByte 5 s.2.2.2.1 s.2.2.2.2 s.2.1]) (fun s => Z) (fun s => aj s.1 s.2.1 ∧ (s.2.2.1 = .pointer none ∨ s.2.2.1 = pt a 0)) (fun s => ak s.1 s.2.1) ⟨0, ([] : List UInt8), (.pointer none), none, 0⟩ ⟨al, (.inl rfl)⟩ (by exact D.reg) (by exact C) ?_
 rintro ⟨f, c, an, E, F⟩ ⟨ao, G⟩ ap aq H I
 have l := am f c ao
 refine sqB H I [] [] [(13, .bool (decide (f < (u0.length : Int))))] ?_; intro aP i
 refine s_ (c_ i l (fun _ ar => ?_) fun _ aH => ?_)
 ·
  refine k_ (s_ (b_ (sqH ?_))); intro au L
  obtain ⟨av, M⟩ := ar
  refine ix_ i hs3 f av .i64 5 1 ?_; intro aQ aR aw b aS ax ay az N
  have aA := M b ax
  obtain rfl : aw = ([y8 b] : List Value) := az
  refine z1 N I 15 ay 0 (y8 b) rfl ?_; intro aT O
  refine s1 O 6 (y8 b) ?_; intro aU P
  apply L
  refine rgH ?_; intro aB Q
  refine bt P I 2 [] [] [(17, y6 (wu64 b))] ?_; intro aV R
  obtain ⟨aC, aD⟩ := aA
  refine fc R I (bwrite_fun (wu64 b) 8 aC _ _ I.fz) ?_; intro aW aX S U
  obtain ⟨aE, V⟩ := aD
  refine ck S 84 #[pt a 0, str (bwriteS (wu64 b) 8)] ?_
  refine (Go.Sy.bld_write Tryz.lays166 Tryz.lays166X U hzB G aE).mono ?_; rintro _ aF ⟨p, q, rfl, hm⟩; refine ⟨_, rfl, ?_⟩; intro aY W; have X := hm
  have Y : Mem w.heap.size [] w Z [.row a [pt a 0, .slice p (c ++ (bwriteS (wu64 b) 8)).length q] 123, .own tyByte 5 p q (c ++ (bwriteS (wu64 b) 8))] Z aF := X
  apply Q
  refine j_ (t_ (rgB W Y [] [] [(12, i6 (w64 (f + 1)))] ?_)); intro aZ aG
  exact d_ ⟨⟨w64 (f + 1), c ++ (bwriteS (wu64 b) 8), (pt a 0), p, q⟩, ⟨V.1, (.inr rfl)⟩, V.2, (aG.reg).anyβ _ (by kernel_rfl), Y.kp⟩
 refine x_ (y_ (y_ (z_ (t_ (sqH ?_))))); intro aI aa
 refine ck i 85 #[pt a 0] ?_
 refine (Go.Sy.bld_string Tryz.lays169 Tryz.lays169X I hzB G).mono ?_; rintro _ aJ ⟨rfl, hm⟩; refine ⟨_, rfl, ?_⟩; intro a1 ab; have ac := hm
 have ad : Mem w.heap.size [] w Z [] Z aJ := ac
 refine bt ab ad 2 [] [] [(2, str c), (3, i6 0)] ?_; intro a2 aK
 apply aa
 exact r_ (ra2 aK (.tuple #[str c, i6 0]) ⟨(c, 0), rfl, aH, ad.below⟩)



theorem rtakeF_walk (u0 : FReader) (u1 : Int) (b1 : Nat) (ao2 : Option Addr) (cap3 : Nat) (B : Nat) (w0 : World) (Z0 : Fz) (Rr : List Res) (Z : Fz) (w : World) (hs4 : SlR t8 Z ao2 cap3 u0.f.Data) (hM0 : Mem B [] w0 Z0 ((.row b1 [str u0.Reader.Row, i6 u0.Reader.At, i6 u0.Reader.Code, y8 u0.Reader.c.last, i6 u0.Reader.c.n, i6 u0.f.ID, .bool u0.f.Long, .bool u0.f.Fast, .bool u0.f.Remote, i6 u0.f.Size, .slice ao2 u0.f.Data.length cap3] 46) :: Rr) Z w) (hZ : Z.on w) {K : ((List UInt8) × FReader) → Prop} (hp : rtakeF_vc u0 u1 K) : Calls Tryz.prog 21 #[pt b1 0, i6 u1] w fun e w' => ∃ (r : (List UInt8) × FReader) (ao1001 : Option Addr) (cap1002 : Nat) (Z' : Fz), e = .returned (str r.1) ∧ K r ∧ Fz.le Z Z' ∧ SlR t8 Z' ao1001 cap1002 r.2.f.Data ∧ Mem B [] w0 Z0 ((.row b1 [str r.2.Reader.Row, i6 r.2.Reader.At, i6 r.2.Reader.Code, y8 r.2.Reader.c.last, i6 r.2.Reader.c.n, i6 r.2.f.ID, .bool r.2.f.Long, .bool r.2.f.Fast, .bool r.2.f.Remote, i6 r.2.f.Size, .slice ao1001 r.2.f.Data.length cap1002] 46) :: Rr) Z' w' := by
 refine enter0 Tryz.func21 rfl rfl (by kernel_rfl) ?_; intro a0 aB; have l := Fz.le.refl Z
 have bN := hp (hs4.small)
 refine sqB aB hM0 [] [] [] ?_; intro a7 aC
 refine sqB aC hM0 [] [] [(5, .slice none 0 0)] ?_; intro cJ aD
 refine s_ (sqB aD hM0 [] [] [(10, i6 u1), (11, i6 0)] ?_); intro aE aF
 apply b_
 have aG : Fr 61 [] [⟨0, [], pt b1 0⟩, ⟨5, [], .slice none 0 0⟩, ⟨10, [], i6 u1⟩, ⟨11, [], i6 0⟩] aE := aF.reg
 have aH : Mem B [] w0 Z0 ((.own t8 5 none 0 ([] : List Int)) :: (.row b1 (e46B u0 ao2 cap3) 46) :: Rr) Z w := hM0.addNil t8 5 (by decide)
 have aI : Fr 61 [] [⟨0, [], pt b1 0⟩, ⟨5, [], .slice none ([] : List Int).length 0⟩, ⟨10, [], i6 u1⟩, ⟨11, [], i6 0⟩] aE := aG.reg
 obtain ⟨bO, bP, bQ, bR⟩ := bN
 refine lp (ι := (List Int) × Int × FReader × (Option Addr) × Nat × (Option Addr) × Nat × Fz) (fun s => [⟨0, [], pt b1 0⟩, ⟨5, [], .slice s.2.2.2.1 s.1.length s.2.2.2.2.1⟩, ⟨10, [], i6 u1⟩, ⟨11, [], i6 s.2.1⟩]) (fun s => ((.own t8 5 s.2.2.2.1 s.2.2.2.2.1 s.1) :: (.row b1 [str s.2.2.1.Reader.Row, i6 s.2.2.1.Reader.At, i6 s.2.2.1.Reader.Code, y8 s.2.2.1.Reader.c.last, i6 s.2.2.1.Reader.c.n, i6 s.2.2.1.f.ID, .bool s.2.2.1.f.Long, .bool s.2.2.1.f.Fast, .bool s.2.2.1.f.Remote, i6 s.2.2.1.f.Size, .slice s.2.2.2.2.2.1 s.2.2.1.f.Data.length s.2.2.2.2.2.2.1] 46) :: Rr)) (fun s => s.2.2.2.2.2.2.2) (fun s => bO s.1 s.2.1 s.2.2.1 ∧ SlR t8 s.2.2.2.2.2.2.2 s.2.2.2.2.2.1 s.2.2.2.2.2.2.1 s.2.2.1.f.Data ∧ Fz.le Z s.2.2.2.2.2.2.2) (fun s => bP s.1 s.2.1 s.2.2.1) ⟨([] : List Int), 0, u0, none, 0, ao2, cap3, Z⟩ ⟨bQ, hs4, Fz.le.refl _⟩ (by exact aI.reg) (by exact aH) ?_
 rintro ⟨i, u, k, F, G, Y, aa, al⟩ ⟨bS, o, m⟩ bT bU aJ aK
 have ab := bR i u k bS
 replace l := Fz.le.trans l m
 refine sqB aJ aK [] [] [(12, .bool (decide (u < u1)))] ?_; intro cL P
 refine s_ (c_ P ab (fun _ bV => ?_) fun _ ak => ?_)
 ·
  refine k_ (s_ (b_ (sqH ?_))); intro bW aM
  refine s1 P 13 (pt b1 0) ?_; intro cM aN
  obtain ⟨bX, aO⟩ := bV
  refine ck aN 47 #[pt b1 0] ?_
  obtain ⟨a, bY, aP⟩ := hxq aO
  have j := rbitF_fun k bX b1 Y aa _ _ _ _ _ _ o (aK.perm (pk 1 rfl)) aK.fz; rw [bY] at j; refine j.mono ?_; rintro _ bZ ⟨ac, ad, an, rfl, ae, v, hm⟩; refine ⟨_, rfl, ?_⟩; intro cN aQ; have aR := hm
  replace m := m.mono ae
  replace l := Fz.le.trans l ae
  have N : Mem B [] w0 Z0 ((.row b1 (e46B a.2 ac ad) 46) :: (.own t8 5 F G i) :: Rr) an bZ := aR
  have af := aP (v.small)
  refine s1 aQ 6 (y8 a.1) ?_; intro cO aS
  apply aM
  refine s_ (sqB aS N [0] [] [(19, .bool (a.2.Reader.Code != 0))] ?_); intro cP Q
  refine c_ Q af (fun _ b0 => ?_) fun _ b3 => ?_
  ·
   refine sqB Q N [] [] [(4, str [])] ?_; intro cQ b2
   exact r_ (h_ (i_ (h_ (h_ (i_ (h_ (ra1 b2 (str []) ⟨([], a.2), ac, ad, an, rfl, b0, l, v, N.kp⟩)))))))
  refine k_ (sqH ?_); intro b4 aT
  refine bt Q N 2 [] [] [(20, .slice F i.length G), (21, y8 a.1)] ?_; intro cR aU
  refine nw aU N (fun b => .slice (sm b) 1 1) [y8 a.1] 5 ?_; intro H cS cT aV ar
  obtain ⟨b5, b6⟩ := b3
  refine ap aV ar 2 (T := t8) (xs := i) (ys := [a.1]) (ao := F) (cap := G) (ao2 := (sm H)) (cap2 := 1) (t := 22) (e := 5) (bytes := 1) (nog rfl _) rfl (by kernel_rfl) rfl (by kernel_rfl) (by kernel_rfl) (by kernel_rfl) rfl (Src.row ar 0 rfl (RepAll.one (T := t8) (x := a.1) rfl)) b5 ?_; intro y z cU b7 cV aW aX
  have ag : Mem B [] w0 Z0 ((.row H [y8 a.1] 5) :: (.row b1 (e46B a.2 ac ad) 46) :: (.own t8 5 y z (i ++ [a.1])) :: Rr) an b7 := aX
  refine s1 aW 5 (.slice y (i ++ [a.1]).length z) ?_; intro cW aY
  apply aT
  refine sqH ?_; intro b8 aZ
  refine bt aY ag 4 [] [] [(27, pt b1 3), (28, y8 a.1)] ?_; intro cX a1
  obtain ⟨b9, a2⟩ := b6
  refine ck a1 48 #[pt b1 3, y8 a.1] ?_
  obtain ⟨h, ca, a3⟩ := hxq a2
  have j := cnextF_fun a.2 a.1 b9 b1 ac ad _ _ _ _ _ _ v (ag.perm (pk 1 rfl)) ag.fz; rw [ca] at j; refine j.mono ?_; rintro _ cb ⟨au, av, a4, rfl, R, D, hm⟩; refine ⟨_, rfl, ?_⟩; intro cY a5; have a6 := hm
  replace m := m.mono R
  have I : Mem B [] w0 Z0 ((.row b1 (e46B h.2.2 au av) 46) :: (.row H [y8 a.1] 5) :: (.own t8 5 y z (i ++ [a.1])) :: Rr) a4 cb := a6
  have ah := a3 (D.small)
  refine bt a5 I 5 [] [] [(7, y8 h.1), (8, .bool h.2.1)] ?_; intro cZ a8
  apply aZ
  refine sqB a8 I [] [] [(32, .bool h.2.1)] ?_; intro c0 S
  refine c_ S ah (fun _ cc => ?_) fun _ bK => ?_
  ·
   refine s_ (sqH ?_); intro ce a9
   refine s1 S 33 (pt b1 0) ?_; intro c1 ba
   obtain ⟨cf, bb⟩ := cc
   refine ck ba 47 #[pt b1 0] ?_
   obtain ⟨d, cg, bc⟩ := hxq bb
   have j := rbitF_fun h.2.2 cf b1 au av _ _ _ _ _ _ D I I.fz; rw [cg] at j; refine j.mono ?_; rintro _ ch ⟨U, V, bd, rfl, O, J, hm⟩; refine ⟨_, rfl, ?_⟩; intro c2 be; have bf := hm
   replace m := m.mono O
   have E : Mem B [] w0 Z0 ((.row b1 (e46B d.2 U V) 46) :: (.row H [y8 a.1] 5) :: (.own t8 5 y z (i ++ [a.1])) :: Rr) bd ch := bf
   have ai := bc (J.small)
   refine s1 be 9 (y8 d.1) ?_; intro c3 bg
   apply a9
   refine sqB bg E [0] [] [(44, .bool ((d.2.Reader.Code == 0) && (d.1 != h.1)))] ?_; intro c4 W
   refine c_ W ai (fun _ ci => ?_) fun _ ct => ?_
   ·
    refine rgH ?_; intro cj bh
    refine bt W E 3 [] [] [(47, pt b1 2)] ?_; intro c5 ay
    refine sx ay E 0 [str d.2.Reader.Row, i6 d.2.Reader.At, i6 5, y8 d.2.Reader.c.last, i6 d.2.Reader.c.n, i6 d.2.f.ID, .bool d.2.f.Long, .bool d.2.f.Fast, .bool d.2.f.Remote, i6 d.2.f.Size, .slice U d.2.f.Data.length V] 2 ?_; intro cl bi
    have aj : Mem B [] w0 Z0 ((.row b1 [str d.2.Reader.Row, i6 d.2.Reader.At, i6 5, y8 d.2.Reader.c.last, i6 d.2.Reader.c.n, i6 d.2.f.ID, .bool d.2.f.Long, .bool d.2.f.Fast, .bool d.2.f.Remote, i6 d.2.f.Size, .slice U d.2.f.Data.length V] 46) :: (.row H [y8 a.1] 5) :: (.own t8 5 y z (i ++ [a.1])) :: Rr) bd cl := bi
    apply bh
    refine t_ (rgH ?_); intro cm bj
    refine bt ay aj 4 [] [] [(50, pt b1 3), (51, y8 h.1)] ?_; intro c6 bk
    obtain ⟨cn, bl⟩ := ci
    refine ck bk 48 #[pt b1 3, y8 h.1] ?_
    obtain ⟨p, co, bm⟩ := hxq bl
    have j := cnextF_fun (⟨(⟨d.2.Reader.Row, d.2.Reader.At, 5, d.2.Reader.c⟩ : Reader), d.2.f⟩ : FReader) h.1 cn b1 U V _ _ _ _ _ _ J aj aj.fz; rw [co] at j; refine j.mono ?_; rintro _ cp ⟨bn, bo, bp, rfl, L, bq, hm⟩; refine ⟨_, rfl, ?_⟩; intro cq br; have bs := hm
    replace m := m.mono L
    have bu : Mem B [] w0 Z0 ((.row b1 (e46B p.2.2 bn bo) 46) :: (.row H [y8 a.1] 5) :: (.own t8 5 y z (i ++ [a.1])) :: Rr) bp cp := bs
    have bv := bm (bq.small)
    apply bj
    refine j_ (t_ ?_)
    have bw : Fr 61 [] [⟨0, [], pt b1 0⟩, ⟨5, [], .slice y (i ++ [a.1]).length z⟩, ⟨10, [], i6 u1⟩, ⟨11, [], i6 u⟩] cq := br.reg
    refine rgB bw bu [] [] [(11, i6 (w64 (u + 1)))] ?_; intro c7 cr
    apply d_
    have cs := bu.perm ((pk 2 rfl).trans (lpr.cons _))
    exact ⟨⟨i ++ [a.1], w64 (u + 1), p.2.2, y, z, bn, bo, bp⟩, ⟨bv.1, bq, m⟩, bv.2, (cr.reg).anyβ _ (by kernel_rfl), cs.kp⟩
   refine k_ (rgH ?_); intro cu bx
   refine bt W E 4 [] [] [(50, pt b1 3), (51, y8 h.1)] ?_; intro c8 bz
   obtain ⟨cv, bA⟩ := ct
   refine ck bz 48 #[pt b1 3, y8 h.1] ?_
   obtain ⟨q, cw, bB⟩ := hxq bA
   have j := cnextF_fun d.2 h.1 cv b1 U V _ _ _ _ _ _ J E E.fz; rw [cw] at j; refine j.mono ?_; rintro _ cx ⟨bC, bD, bE, rfl, M, bF, hm⟩; refine ⟨_, rfl, ?_⟩; intro c9 bG; have bH := hm
   replace m := m.mono M
   have bI : Mem B [] w0 Z0 ((.row b1 (e46B q.2.2 bC bD) 46) :: (.row H [y8 a.1] 5) :: (.own t8 5 y z (i ++ [a.1])) :: Rr) bE cx := bH
   have bJ := bB (bF.small)
   apply bx
   refine j_ (t_ (rgB bG bI [] [] [(11, i6 (w64 (u + 1)))] ?_)); intro da cy
   apply d_
   have cz := bI.perm ((pk 2 rfl).trans (lpr.cons _))
   exact ⟨⟨i ++ [a.1], w64 (u + 1), q.2.2, y, z, bC, bD, bE⟩, ⟨bJ.1, bF, m⟩, bJ.2, (cy.reg).anyβ _ (by kernel_rfl), cz.kp⟩
  refine l_ (j_ (t_ (rgB S I [] [] [(11, i6 (w64 (u + 1)))] ?_))); intro db cA
  apply d_
  have cB := I.perm ((pk 2 rfl).trans (lpr.cons _))
  exact ⟨⟨i ++ [a.1], w64 (u + 1), h.2.2, y, z, au, av, a4⟩, ⟨bK.1, D, m⟩, bK.2, (cA.reg).anyβ _ (by kernel_rfl), cB.kp⟩
 refine x_ (y_ (y_ (z_ (t_ (s_ (sqB P aK [1] [] [(58, .bool (k.Reader.Code != 0))] ?_)))))); intro dc X
 refine c_ X ak (fun _ cC => ?_) fun _ cE => ?_
 ·
  refine sqB X aK [] [] [(4, str [])] ?_; intro dd cD
  exact r_ (h_ (ra1 cD (str []) ⟨([], k), Y, aa, al, rfl, cC, l, o, aK.kp⟩))
 refine k_ (sqH ?_); intro cF bL
 refine s1 X 59 (.slice F i.length G) ?_; intro de aA
 refine u_ aA (str (bstr i)) ((by obtain ⟨Z9, df, cG, cH⟩ := aK.lend 0 rfl; exact bstr_op aA (g := []) (e := 5) (ao := F) (cap := G) (xs := i) rfl (by kernel_rfl) (by kernel_rfl) (by kernel_rfl) (by kernel_rfl)  cH cG rfl)) ?_; intro dg bM
 refine s1 bM 4 (str (bstr i)) ?_; intro dh cI
 apply bL
 exact r_ (ra1 cI (str (bstr i)) ⟨(bstr i, k), Y, aa, al, rfl, cE, l, o, aK.kp⟩)

theorem rplainF_walk (u0 : FReader) (u1 : Int) (b1 : Nat) (ao2 : Option Addr) (cap3 : Nat) (B : Nat) (w0 : World) (Z0 : Fz) (Rr : List Res) (Z : Fz) (w : World) (hs4 : SlR t8 Z ao2 cap3 u0.f.Data) (hM0 : Mem B [] w0 Z0 ((.row b1 [str u0.Reader.Row, i6 u0.Reader.At, i6 u0.Reader.Code, y8 u0.Reader.c.last, i6 u0.Reader.c.n, i6 u0.f.ID, .bool u0.f.Long, .bool u0.f.Fast, .bool u0.f.Remote, i6 u0.f.Size, .slice ao2 u0.f.Data.length cap3] 46) :: Rr) Z w) (hZ : Z.on w) {K : ((List UInt8) × FReader) → Prop} (hp : rplainF_vc u0 u1 K) : Calls Tryz.prog 26 #[pt b1 0, i6 u1] w fun e w' => ∃ (r : (List UInt8) × FReader) (ao1001 : Option Addr) (cap1002 : Nat) (Z' : Fz), e = .returned (str r.1) ∧ K r ∧ Fz.le Z Z' ∧ SlR t8 Z' ao1001 cap1002 r.2.f.Data ∧ Mem B [] w0 Z0 ((.row b1 [str r.2.Reader.Row, i6 r.2.Reader.At, i6 r.2.Reader.Code, y8 r.2.Reader.c.last, i6 r.2.Reader.c.n, i6 r.2.f.ID, .bool r.2.f.Long, .bool r.2.f.Fast, .bool r.2.f.Remote, i6 r.2.f.Size, .slice ao1001 r.2.f.Data.length cap1002] 46) :: Rr) Z' w' := by
 refine enter0 Tryz.func26 rfl rfl (by kernel_rfl) ?_; intro a0 P; have j := Fz.le.refl Z
 have ay := hp (hs4.small)
 refine sqB P hM0 [] [] [] ?_; intro a7 Q
 refine sqB Q hM0 [] [] [(5, .slice none 0 0)] ?_; intro aX R
 refine s_ (sqB R hM0 [] [] [(6, i6 u1), (7, i6 0)] ?_); intro S U
 apply b_
 have V : Fr 22 [] [⟨0, [], pt b1 0⟩, ⟨5, [], .slice none 0 0⟩, ⟨6, [], i6 u1⟩, ⟨7, [], i6 0⟩] S := U.reg
 have W : Mem B [] w0 Z0 ((.own t8 5 none 0 ([] : List Int)) :: (.row b1 (e46B u0 ao2 cap3) 46) :: Rr) Z w := hM0.addNil t8 5 (by decide)
 have X : Fr 22 [] [⟨0, [], pt b1 0⟩, ⟨5, [], .slice none ([] : List Int).length 0⟩, ⟨6, [], i6 u1⟩, ⟨7, [], i6 0⟩] S := V.reg
 obtain ⟨az, aA, aB, aC⟩ := ay
 refine lp (ι := (List Int) × Int × FReader × (Option Addr) × Nat × (Option Addr) × Nat × Fz) (fun s => [⟨0, [], pt b1 0⟩, ⟨5, [], .slice s.2.2.2.1 s.1.length s.2.2.2.2.1⟩, ⟨6, [], i6 u1⟩, ⟨7, [], i6 s.2.1⟩]) (fun s => ((.own t8 5 s.2.2.2.1 s.2.2.2.2.1 s.1) :: (.row b1 [str s.2.2.1.Reader.Row, i6 s.2.2.1.Reader.At, i6 s.2.2.1.Reader.Code, y8 s.2.2.1.Reader.c.last, i6 s.2.2.1.Reader.c.n, i6 s.2.2.1.f.ID, .bool s.2.2.1.f.Long, .bool s.2.2.1.f.Fast, .bool s.2.2.1.f.Remote, i6 s.2.2.1.f.Size, .slice s.2.2.2.2.2.1 s.2.2.1.f.Data.length s.2.2.2.2.2.2.1] 46) :: Rr)) (fun s => s.2.2.2.2.2.2.2) (fun s => az s.1 s.2.1 s.2.2.1 ∧ SlR t8 s.2.2.2.2.2.2.2 s.2.2.2.2.2.1 s.2.2.2.2.2.2.1 s.2.2.1.f.Data ∧ Fz.le Z s.2.2.2.2.2.2.2) (fun s => aA s.1 s.2.1 s.2.2.1) ⟨([] : List Int), 0, u0, none, 0, ao2, cap3, Z⟩ ⟨aB, hs4, Fz.le.refl _⟩ (by exact X.reg) (by exact W) ?_
 rintro ⟨h, m, d, k, l, v, y, D⟩ ⟨aD, o, p⟩ aE aF Y aa
 have z := aC h m d aD
 replace j := Fz.le.trans j p
 refine sqB Y aa [] [] [(8, .bool (decide (m < u1)))] ?_; intro aZ q
 refine s_ (c_ q z (fun _ aG => ?_) fun _ C => ?_)
 ·
  refine k_ (s_ (b_ (rgH ?_))); intro aH ad
  refine bt q aa 2 [] [] [(9, .slice k h.length l), (10, pt b1 0)] ?_; intro a1 ae
  obtain ⟨aI, af⟩ := aG
  refine ck ae 47 #[pt b1 0] ?_
  obtain ⟨a, aJ, ag⟩ := hxq af
  have F := rbitF_fun d aI b1 v y _ _ _ _ _ _ o (aa.perm (pk 1 rfl)) aa.fz; rw [aJ] at F; refine F.mono ?_; rintro _ aK ⟨G, H, I, rfl, A, ah, hm⟩; refine ⟨_, rfl, ?_⟩; intro a2 ai; have aj := hm
  replace p := p.mono A
  have ak : Mem B [] w0 Z0 ((.row b1 (e46B a.2 G H) 46) :: (.own t8 5 k l h) :: Rr) I aK := aj
  have aL := ag (ah.small)
  refine nw ai ak (fun b => .slice (sm b) 1 1) [y8 a.1] 5 ?_; intro al a3 a4 am J
  obtain ⟨aM, an⟩ := aL
  refine ap am J 2 (T := t8) (xs := h) (ys := [a.1]) (ao := k) (cap := l) (ao2 := (sm al)) (cap2 := 1) (t := 22) (e := 5) (bytes := 1) (nog rfl _) rfl (by kernel_rfl) rfl (by kernel_rfl) (by kernel_rfl) (by kernel_rfl) rfl (Src.row J 0 rfl (RepAll.one (T := t8) (x := a.1) rfl)) aM ?_; intro L M a5 aN a6 aq ar
  have au : Mem B [] w0 Z0 ((.row al [y8 a.1] 5) :: (.row b1 (e46B a.2 G H) 46) :: (.own t8 5 L M (h ++ [a.1])) :: Rr) I aN := ar
  refine s1 aq 5 (.slice L (h ++ [a.1]).length M) ?_; intro a8 av
  apply ad
  refine j_ (t_ (rgB av au [] [] [(7, i6 (w64 (m + 1)))] ?_)); intro a9 aO
  apply d_
  have aP := au.perm ((pk 2 rfl).trans (((pk 1 rfl).trans (lpr.cons _)).cons _))
  exact ⟨⟨h ++ [a.1], w64 (m + 1), a.2, L, M, G, H, I⟩, ⟨an.1, ah, p⟩, an.2, (aO.reg).anyβ _ (by kernel_rfl), aP.kp⟩
 refine x_ (y_ (y_ (z_ (t_ (s_ (sqB q aa [1] [] [(19, .bool (d.Reader.Code != 0))] ?_)))))); intro ba u
 refine c_ u C (fun _ aQ => ?_) fun _ aS => ?_
 ·
  refine sqB u aa [] [] [(4, str [])] ?_; intro bb aR
  exact r_ (h_ (ra1 aR (str []) ⟨([], d), v, y, D, rfl, aQ, j, o, aa.kp⟩))
 refine k_ (sqH ?_); intro aT aw
 refine s1 u 20 (.slice k h.length l) ?_; intro bc O
 refine u_ O (str (bstr h)) ((by obtain ⟨Z9, bd, aU, aV⟩ := aa.lend 0 rfl; exact bstr_op O (g := []) (e := 5) (ao := k) (cap := l) (xs := h) rfl (by kernel_rfl) (by kernel_rfl) (by kernel_rfl) (by kernel_rfl)  aV aU rfl)) ?_; intro be ax
 refine s1 ax 4 (str (bstr h)) ?_; intro bf aW
 apply aw
 exact r_ (ra1 aW (str (bstr h)) ⟨(bstr h, d), v, y, D, rfl, aS, j, o, aa.kp⟩)

theorem sput_walk (u0 : List UInt8)  (Z : Fz) (w : World)  (hZ : Z.on w) {K : ((List UInt8) × Int) → Prop} (hp : sput_vc u0 K) : Calls Tryz.prog 62 #[str u0] w fun e w' => ∃ r : (List UInt8) × Int, e = .returned (.tuple #[str r.1, i6 r.2]) ∧ K r ∧ Below w.heap.size w w' := by
 refine enter0 Tryz.func62 rfl rfl (by kernel_rfl) ?_; intro a0 Y; have E := Mem.start w Z hZ
 refine sqB Y E [] [] [] ?_; intro a4 aa
 refine s_ (sqH ?_); intro a8 ab
 refine s1 aa 10 (str u0) ?_; intro a7 ac
 refine fc ac E (bcheck_fun u0 _ _ E.fz) ?_; intro a9 bV ad o
 refine s1 ad 4 (i6 (bcheckS u0)) ?_; intro bW ae
 apply ab
 refine sqB ae o [] [] [(13, .bool ((bcheckS u0) != 0))] ?_; intro bX A
 refine c_ A hp (fun _ ba => ?_) fun _ bc => ?_
 ·
  refine sqB A o [] [] [(2, str []), (3, i6 (bcheckS u0))] ?_; intro bY bb
  exact r_ (h_ (ra2 bb (.tuple #[str [], i6 (bcheckS u0)]) ⟨([], (bcheckS u0)), rfl, ba, o.below⟩))
 refine k_ (sqB A o [] [] [(5, .slice none 0 0)] ?_); intro bZ af
 refine sqH ?_; intro bd ag
 refine nw af o pb [y8 0, i6 0] 42 ?_; intro f b0 be ah M
 apply ag
 refine s_ (sqB ah M [] [] [(16, i6 (u0.length : Int)), (17, i6 0)] ?_); intro ai aj
 apply b_
 have ak : Fr 43 [] [⟨0, [], str u0⟩, ⟨5, [], .slice none 0 0⟩, ⟨6, [], pt f 0⟩, ⟨16, [], i6 (u0.length : Int)⟩, ⟨17, [], i6 0⟩] ai := aj.reg
 have al : Mem w.heap.size [] w Z [.own t8 5 none 0 ([] : List Int), .row f [y8 0, i6 0] 42] Z be := M.addNil t8 5 (by decide)
 have am : Fr 43 [] [⟨0, [], str u0⟩, ⟨5, [], .slice none ([] : List Int).length 0⟩, ⟨6, [], pt f 0⟩, ⟨16, [], i6 (u0.length : Int)⟩, ⟨17, [], i6 0⟩] ai := ak.reg
 obtain ⟨bf, bg, bh, bi⟩ := bc
 refine lp (ι := (List Int) × Int × Counter × (Option Addr) × Nat × Fz) (fun s => [⟨0, [], str u0⟩, ⟨5, [], .slice s.2.2.2.1 s.1.length s.2.2.2.2.1⟩, ⟨6, [], pt f 0⟩, ⟨16, [], i6 (u0.length : Int)⟩, ⟨17, [], i6 s.2.1⟩]) (fun s => [.own t8 5 s.2.2.2.1 s.2.2.2.2.1 s.1, .row f [y8 s.2.2.1.last, i6 s.2.2.1.n] 42]) (fun s => s.2.2.2.2.2) (fun s => bf s.1 s.2.1 s.2.2.1 ∧ Fz.le Z s.2.2.2.2.2) (fun s => bg s.1 s.2.1 s.2.2.1) ⟨([] : List Int), 0, (⟨0, 0⟩ : Counter), none, 0, Z⟩ ⟨bh, Fz.le.refl _⟩ (by exact am.reg) (by exact al) ?_
 rintro ⟨c, h, p, u, v, an⟩ ⟨bj, k⟩ bk bl aq ar
 have F := bi c h p bj
 refine sqB aq ar [] [] [(18, .bool (decide (h < (u0.length : Int))))] ?_; intro b2 B
 refine s_ (c_ B F (fun _ bm => ?_) fun _ bQ => ?_)
 ·
  refine k_ (s_ (b_ (sqB B ar [] [] [(7, i6 h)] ?_))); intro b3 av
  refine sqH ?_; intro bn aw
  refine bt av ar 3 [] [] [(20, .slice u c.length v), (21, str u0), (22, i6 h)] ?_; intro b4 ax
  obtain ⟨bo, bp⟩ := bm
  obtain ⟨d, ay⟩ : ∃ q, u0[h.toNat]? = some q := ⟨_, List.getElem?_eq_getElem (by omega)⟩; have bq := bp d ay
  refine si ax .i64 bo.1 ay ?_; intro b5 az
  refine nw az ar (fun b => .slice (sm b) 1 1) [y8 (d.toNat : Int)] 5 ?_; intro C b6 b7 aA O
  obtain ⟨br, bs⟩ := bq
  refine ap aA O 1 (T := t8) (xs := c) (ys := [(d.toNat : Int)]) (ao := u) (cap := v) (ao2 := (sm C)) (cap2 := 1) (t := 22) (e := 5) (bytes := 1) (nog rfl _) rfl (by kernel_rfl) rfl (by kernel_rfl) (by kernel_rfl) (by kernel_rfl) rfl (Src.row O 0 rfl (RepAll.one (T := t8) (x := (d.toNat : Int)) rfl)) br ?_; intro y z b8 bu b9 aB aC
  have G : Mem w.heap.size [] w Z [.row C [y8 (d.toNat : Int)] 5, .own t8 5 y z (c ++ [(d.toNat : Int)]), .row f [y8 p.last, i6 p.n] 42] an bu := aC
  refine s1 aB 5 (.slice y (c ++ [(d.toNat : Int)]).length z) ?_; intro ca aD
  apply aw
  refine sqH ?_; intro bv aE
  refine bt aD G 2 [] [] [(27, str u0), (28, i6 h)] ?_; intro cb aF
  obtain ⟨bw, bx⟩ := bs
  obtain ⟨P, aG⟩ : ∃ q, u0[h.toNat]? = some q := ⟨_, List.getElem?_eq_getElem (by omega)⟩; have bz := bx P aG
  refine si aF .i64 bw.1 aG ?_; intro cc aH
  obtain ⟨bA, aI⟩ := bz
  refine ck aH 48 #[pt f 0, y8 (P.toNat : Int)] ?_
  obtain ⟨a, bB, H⟩ := hxq aI
  have l := cnext_fun p (P.toNat : Int) bA f _ _ _ _ _ _ (G.perm (pk 2 rfl)) G.fz; rw [bB] at l; refine l.mono ?_; rintro _ bC ⟨Q, rfl, aJ, hm⟩; refine ⟨_, rfl, ?_⟩; intro ce aK; have aL := hm
  replace k := k.mono aJ
  have m : Mem w.heap.size [] w Z [.row f [y8 a.2.2.last, i6 a.2.2.n] 42, .row C [y8 (d.toNat : Int)] 5, .own t8 5 y z (c ++ [(d.toNat : Int)])] Q bC := aL
  refine bt aK m 5 [] [] [(8, y8 a.1), (9, .bool a.2.1)] ?_; intro cf aM
  apply aE
  refine sqB aM m [] [] [(33, .bool a.2.1)] ?_; intro cg D
  refine c_ D H (fun _ bD => ?_) fun _ a3 => ?_
  ·
   refine sqH ?_; intro bE aN
   refine bt D m 2 [] [] [(34, .slice y (c ++ [(d.toNat : Int)]).length z), (35, y8 a.1)] ?_; intro ch aO
   refine nw aO m (fun b => .slice (sm b) 1 1) [y8 a.1] 5 ?_; intro S ci cj aP U
   obtain ⟨bF, bG⟩ := bD
   refine ap aP U 3 (T := t8) (xs := c ++ [(d.toNat : Int)]) (ys := [a.1]) (ao := y) (cap := z) (ao2 := (sm S)) (cap2 := 1) (t := 22) (e := 5) (bytes := 1) (nog rfl _) rfl (by kernel_rfl) rfl (by kernel_rfl) (by kernel_rfl) (by kernel_rfl) rfl (Src.row U 0 rfl (RepAll.one (T := t8) (x := a.1) rfl)) bF ?_; intro I J cl bH cm aQ aR
   have V : Mem w.heap.size [] w Z [.row S [y8 a.1] 5, .row f [y8 a.2.2.last, i6 a.2.2.n] 42, .row C [y8 (d.toNat : Int)] 5, .own t8 5 I J ((c ++ [(d.toNat : Int)]) ++ [a.1])] Q bH := aR
   refine s1 aQ 5 (.slice I ((c ++ [(d.toNat : Int)]) ++ [a.1]).length J) ?_; intro cn aS
   apply aN
   refine rgH ?_; intro bI aT
   refine s1 aS 38 (y8 a.1) ?_; intro co aU
   obtain ⟨bJ, aV⟩ := bG
   refine ck aU 48 #[pt f 0, y8 a.1] ?_
   obtain ⟨W, bK, aW⟩ := hxq aV
   have l := cnext_fun a.2.2 a.1 bJ f _ _ _ _ _ _ (V.perm (pk 1 rfl)) V.fz; rw [bK] at l; refine l.mono ?_; rintro _ bL ⟨aX, rfl, aY, hm⟩; refine ⟨_, rfl, ?_⟩; intro cp aZ; have a1 := hm
   replace k := k.mono aY
   have a2 : Mem w.heap.size [] w Z [.row f [y8 W.2.2.last, i6 W.2.2.n] 42, .row S [y8 a.1] 5, .row C [y8 (d.toNat : Int)] 5, .own t8 5 I J ((c ++ [(d.toNat : Int)]) ++ [a.1])] aX bL := a1
   apply aT
   refine j_ (t_ (rgB aZ a2 [] [] [(17, i6 (w64 (h + 1)))] ?_)); intro cq bM
   apply d_
   have bN := a2.perm ((pk 3 rfl).trans (lpr.cons _))
   exact ⟨⟨(c ++ [(d.toNat : Int)]) ++ [a.1], w64 (h + 1), W.2.2, I, J, aX⟩, ⟨aW.1, k⟩, aW.2, (bM.reg).anyβ _ (by kernel_rfl), bN.kp⟩
  refine l_ (j_ (t_ (rgB D m [] [] [(17, i6 (w64 (h + 1)))] ?_))); intro cr bO
  apply d_
  have bP := m.perm ((pk 2 rfl).trans (lpr.cons _))
  exact ⟨⟨c ++ [(d.toNat : Int)], w64 (h + 1), a.2.2, y, z, Q⟩, ⟨a3.1, k⟩, a3.2, (bO.reg).anyβ _ (by kernel_rfl), bP.kp⟩
 refine x_ (y_ (y_ (z_ (t_ (sqH ?_))))); intro bR a5
 refine s1 B 41 (.slice u c.length v) ?_; intro cs X
 refine u_ X (str (bstr c)) ((by obtain ⟨Z9, ct, bS, bT⟩ := ar.lend 0 rfl; exact bstr_op X (g := []) (e := 5) (ao := u) (cap := v) (xs := c) rfl (by kernel_rfl) (by kernel_rfl) (by kernel_rfl) (by kernel_rfl)  bT bS rfl)) ?_; intro cu a6
 refine bt a6 ar 2 [] [] [(2, str (bstr c)), (3, i6 0)] ?_; intro cv bU
 apply a5
 exact r_ (ra2 bU (.tuple #[str (bstr c), i6 0]) ⟨(bstr c, 0), rfl, bQ, ar.below⟩)

theorem sfixed_walk (u0 : List UInt8) (u1 : Int)  (Z : Fz) (w : World)  (hZ : Z.on w) {K : ((List UInt8) × Int) → Prop} (hp : sfixed_vc u0 u1 K) : Calls Tryz.prog 51 #[str u0, y8 u1] w fun e w' => ∃ r : (List UInt8) × Int, e = .returned (.tuple #[str r.1, i6 r.2]) ∧ K r ∧ Below w.heap.size w w' := by
 refine enter0 Tryz.func51 rfl rfl (by kernel_rfl) ?_; intro a0 W; have u := Mem.start w Z hZ
 refine sqB W u [] [] [] ?_; intro a4 X
 refine s_ (sqH ?_); intro a6 Y
 refine s1 X 10 (str u0) ?_; intro a7 aa
 refine fc aa u (bcheck_fun u0 _ _ u.fz) ?_; intro a9 a8 ab h
 refine s1 ab 6 (i6 (bcheckS u0)) ?_; intro bW ac
 apply Y
 refine sqB ac h [] [] [(13, .bool ((bcheckS u0) != 0))] ?_; intro bX m
 refine c_ m hp (fun _ ba => ?_) fun _ v => ?_
 ·
  refine sqB m h [] [] [(4, str []), (5, i6 (bcheckS u0))] ?_; intro bY bb
  exact r_ (h_ (ra2 bb (.tuple #[str [], i6 (bcheckS u0)]) ⟨([], (bcheckS u0)), rfl, ba, h.below⟩))
 refine k_ (s_ (sqB m h [] [] [(20, .bool ((u1 != 48) && (u1 != 49)))] ?_)); intro bZ n
 refine c_ n v (fun _ bc => ?_) fun _ be => ?_
 ·
  refine sqB n h [] [] [(4, str []), (5, i6 3)] ?_; intro b0 bd
  exact r_ (h_ (ra2 bd (.tuple #[str [], i6 3]) ⟨([], 3), rfl, bc, h.below⟩))
 refine k_ (sqB n h [] [] [(7, .slice none 0 0)] ?_); intro b1 ad
 refine sqB ad h [] [] [(8, y8 u1)] ?_; intro b2 ae
 refine s_ (sqB ae h [] [] [(23, i6 (u0.length : Int)), (24, i6 0)] ?_); intro af ag
 apply b_
 have ah : Fr 47 [] [⟨0, [], str u0⟩, ⟨7, [], .slice none 0 0⟩, ⟨8, [], y8 u1⟩, ⟨23, [], i6 (u0.length : Int)⟩, ⟨24, [], i6 0⟩] af := ag.reg
 have ai : Mem w.heap.size [] w Z [.own t8 5 none 0 ([] : List Int)] Z a8 := h.addNil t8 5 (by decide)
 have aj : Fr 47 [] [⟨0, [], str u0⟩, ⟨7, [], .slice none ([] : List Int).length 0⟩, ⟨8, [], y8 u1⟩, ⟨23, [], i6 (u0.length : Int)⟩, ⟨24, [], i6 0⟩] af := ah.reg
 obtain ⟨bf, bg, bh, bi⟩ := be
 refine lp (ι := (List Int) × Int × Int × (Option Addr) × Nat) (fun s => [⟨0, [], str u0⟩, ⟨7, [], .slice s.2.2.2.1 s.1.length s.2.2.2.2⟩, ⟨8, [], y8 s.2.1⟩, ⟨23, [], i6 (u0.length : Int)⟩, ⟨24, [], i6 s.2.2.1⟩]) (fun s => [.own t8 5 s.2.2.2.1 s.2.2.2.2 s.1]) (fun s => Z) (fun s => bf s.1 s.2.1 s.2.2.1) (fun s => bg s.1 s.2.1 s.2.2.1) ⟨([] : List Int), u1, 0, none, 0⟩ bh (by exact aj.reg) (by exact ai) ?_
 rintro ⟨a, d, c, i, j⟩ bj bk bl ak al
 have y := bi a d c bj
 refine sqB ak al [] [] [(25, .bool (decide (c < (u0.length : Int))))] ?_; intro b3 o
 refine s_ (c_ o y (fun _ z => ?_) fun _ bQ => ?_)
 ·
  refine k_ (s_ (b_ (sqB o al [] [] [(9, i6 c)] ?_))); intro b4 an
  refine s_ (sqB an al [] [] [(29, .bool ((c.tmod 4) == 0))] ?_); intro b5 p
  refine c_ p z (fun _ bm => ?_) fun _ bE => ?_
  ·
   refine rgH ?_; intro bn aq
   refine bt p al 3 [] [] [(30, .slice i a.length j), (32, y8 (w8 (97 - d)))] ?_; intro b6 ar
   refine nw ar al (fun b => .slice (sm b) 1 1) [y8 (w8 (97 - d))] 5 ?_; intro G b7 b8 au H
   obtain ⟨bo, bp⟩ := bm
   refine ap au H 1 (T := t8) (xs := a) (ys := [w8 (97 - d)]) (ao := i) (cap := j) (ao2 := (sm G)) (cap2 := 1) (t := 22) (e := 5) (bytes := 1) (nog rfl _) rfl (by kernel_rfl) rfl (by kernel_rfl) (by kernel_rfl) (by kernel_rfl) rfl (Src.row H 0 rfl (RepAll.one (T := t8) (x := (w8 (97 - d))) rfl)) bo ?_; intro A B b9 bq ca av aw
   have I : Mem w.heap.size [] w Z [.row G [y8 (w8 (97 - d))] 5, .own t8 5 A B (a ++ [w8 (97 - d)])] Z bq := aw
   refine s1 av 7 (.slice A (a ++ [w8 (97 - d)]).length B) ?_; intro cb ax
   apply aq
   refine t_ (sqH ?_); intro br ay
   refine bt ax I 3 [] [] [(35, .slice A (a ++ [w8 (97 - d)]).length B), (36, str u0), (37, i6 c)] ?_; intro cc az
   obtain ⟨bs, bu⟩ := bp
   obtain ⟨k, aA⟩ : ∃ q, u0[c.toNat]? = some q := ⟨_, List.getElem?_eq_getElem (by omega)⟩; have bv := bu k aA
   refine si az .i64 bs.1 aA ?_; intro ce aB
   refine nw aB I (fun b => .slice (sm b) 1 1) [y8 (k.toNat : Int)] 5 ?_; intro aC cf cg aD J
   obtain ⟨bw, bx⟩ := bv
   refine ap aD J 2 (T := t8) (xs := a ++ [w8 (97 - d)]) (ys := [(k.toNat : Int)]) (ao := A) (cap := B) (ao2 := (sm aC)) (cap2 := 1) (t := 22) (e := 5) (bytes := 1) (nog rfl _) rfl (by kernel_rfl) rfl (by kernel_rfl) (by kernel_rfl) (by kernel_rfl) rfl (Src.row J 0 rfl (RepAll.one (T := t8) (x := (k.toNat : Int)) rfl)) bw ?_; intro L M ch bz ci aE aF
   have N : Mem w.heap.size [] w Z [.row aC [y8 (k.toNat : Int)] 5, .row G [y8 (w8 (97 - d))] 5, .own t8 5 L M ((a ++ [w8 (97 - d)]) ++ [(k.toNat : Int)])] Z bz := aF
   refine s1 aE 7 (.slice L ((a ++ [w8 (97 - d)]) ++ [(k.toNat : Int)]).length M) ?_; intro cj aG
   apply ay
   refine rgH ?_; intro bA aH
   refine bt aG N 2 [] [] [(41, str u0), (42, i6 c)] ?_; intro ck aI
   obtain ⟨bB, bC⟩ := bx
   obtain ⟨O, aJ⟩ : ∃ q, u0[c.toNat]? = some q := ⟨_, List.getElem?_eq_getElem (by omega)⟩; have aK := bC O aJ
   refine si aI .i64 bB.1 aJ ?_; intro cl aL
   refine s1 aL 8 (y8 (O.toNat : Int)) ?_; intro cm aM
   apply aH
   refine j_ (t_ (rgB aM N [] [] [(24, i6 (w64 (c + 1)))] ?_)); intro cn bD
   exact d_ ⟨⟨(a ++ [w8 (97 - d)]) ++ [(k.toNat : Int)], (O.toNat : Int), w64 (c + 1), L, M⟩, aK.1, aK.2, (bD.reg).anyβ _ (by kernel_rfl), N.kp⟩
  refine k_ (sqH ?_); intro bF aN
  refine bt p al 3 [] [] [(35, .slice i a.length j), (36, str u0), (37, i6 c)] ?_; intro co aO
  obtain ⟨bG, bH⟩ := bE
  obtain ⟨l, aP⟩ : ∃ q, u0[c.toNat]? = some q := ⟨_, List.getElem?_eq_getElem (by omega)⟩; have bI := bH l aP
  refine si aO .i64 bG.1 aP ?_; intro cp aQ
  refine nw aQ al (fun b => .slice (sm b) 1 1) [y8 (l.toNat : Int)] 5 ?_; intro aR cq cr aS P
  obtain ⟨bJ, bK⟩ := bI
  refine ap aS P 1 (T := t8) (xs := a) (ys := [(l.toNat : Int)]) (ao := i) (cap := j) (ao2 := (sm aR)) (cap2 := 1) (t := 22) (e := 5) (bytes := 1) (nog rfl _) rfl (by kernel_rfl) rfl (by kernel_rfl) (by kernel_rfl) (by kernel_rfl) rfl (Src.row P 0 rfl (RepAll.one (T := t8) (x := (l.toNat : Int)) rfl)) bJ ?_; intro Q R cs bL ct aT aU
  have S : Mem w.heap.size [] w Z [.row aR [y8 (l.toNat : Int)] 5, .own t8 5 Q R (a ++ [(l.toNat : Int)])] Z bL := aU
  refine s1 aT 7 (.slice Q (a ++ [(l.toNat : Int)]).length R) ?_; intro cu aV
  apply aN
  refine rgH ?_; intro bM aW
  refine bt aV S 2 [] [] [(41, str u0), (42, i6 c)] ?_; intro cv aX
  obtain ⟨bN, bO⟩ := bK
  obtain ⟨U, aY⟩ : ∃ q, u0[c.toNat]? = some q := ⟨_, List.getElem?_eq_getElem (by omega)⟩; have aZ := bO U aY
  refine si aX .i64 bN.1 aY ?_; intro cw a1
  refine s1 a1 8 (y8 (U.toNat : Int)) ?_; intro cx a2
  apply aW
  refine j_ (t_ (rgB a2 S [] [] [(24, i6 (w64 (c + 1)))] ?_)); intro cy bP
  exact d_ ⟨⟨a ++ [(l.toNat : Int)], (U.toNat : Int), w64 (c + 1), Q, R⟩, aZ.1, aZ.2, (bP.reg).anyβ _ (by kernel_rfl), S.kp⟩
 refine x_ (y_ (y_ (z_ (t_ (sqH ?_))))); intro bR a3
 refine s1 o 45 (.slice i a.length j) ?_; intro cz V
 refine u_ V (str (bstr a)) ((by obtain ⟨Z9, cA, bS, bT⟩ := al.lend 0 rfl; exact bstr_op V (g := []) (e := 5) (ao := i) (cap := j) (xs := a) rfl (by kernel_rfl) (by kernel_rfl) (by kernel_rfl) (by kernel_rfl)  bT bS rfl)) ?_; intro cB a5
 refine bt a5 al 2 [] [] [(4, str (bstr a)), (5, i6 0)] ?_; intro cC bU
 apply a3
 exact r_ (ra2 bU (.tuple #[str (bstr a), i6 0]) ⟨(bstr a, 0), rfl, bQ, al.below⟩)

theorem bbytes_walk (u0 : List UInt8)  (Z : Fz) (w : World)  (hZ : Z.on w) {K : ((List Int) × Int) → Prop} (hp : bbytes_vc u0 K) : Calls Tryz.prog 22 #[str u0] w fun e w' => ∃ (r : (List Int) × Int) (ao1001 : Option Addr) (cap1002 : Nat) (Z' : Fz), e = .returned (.tuple #[.slice ao1001 r.1.length cap1002, i6 r.2]) ∧ K r ∧ Mem w.heap.size [] w Z [.own t8 5 ao1001 cap1002 r.1] Z' w' := by
 refine enter0 Tryz.func22 rfl rfl (by kernel_rfl) ?_; intro a0 E; have n := Mem.start w Z hZ
 refine sqB E n [] [] [] ?_; intro a4 F
 refine s_ (sqH ?_); intro ai G
 refine s1 F 6 (str u0) ?_; intro a7 H
 refine fc H n (bcheck_fun u0 _ _ n.fz) ?_; intro a9 q I c
 refine s1 I 4 (i6 (bcheckS u0)) ?_; intro aR J
 apply G
 refine sqB J c [] [] [(9, .bool ((bcheckS u0) != 0))] ?_; intro aS j
 refine c_ j hp (fun _ aj => ?_) fun _ o => ?_
 ·
  refine sqB j c [] [] [(2, .slice none 0 0), (3, i6 (bcheckS u0))] ?_; intro aT ak
  refine r_ (h_ ?_)
  have al : Mem w.heap.size [] w Z [.own t8 5 none 0 ([] : List Int)] Z q := c.addNil t8 5 (by decide)
  exact ra2 ak (.tuple #[.slice none ([] : List Int).length 0, i6 (bcheckS u0)]) ⟨(([] : List Int), (bcheckS u0)), none, 0, Z, rfl, aj, al.kp⟩
 refine k_ (s_ (sqB j c [] [] [(14, .bool (((u0.length : Int).tmod 8) != 0))] ?_)); intro aU l
 refine c_ l o (fun _ am => ?_) fun _ ar => ?_
 ·
  refine sqB l c [] [] [(2, .slice none 0 0), (3, i6 4)] ?_; intro aV an
  refine r_ (h_ ?_)
  have aq : Mem w.heap.size [] w Z [.own t8 5 none 0 ([] : List Int)] Z q := c.addNil t8 5 (by decide)
  exact ra2 an (.tuple #[.slice none ([] : List Int).length 0, i6 4]) ⟨(([] : List Int), 4), none, 0, Z, rfl, am, aq.kp⟩
 refine k_ (sqB l c [] [] [(5, .slice none 0 0)] ?_); intro L M
 refine s_ (b_ ?_)
 have N : Fr 28 [] [⟨0, [], str u0⟩, ⟨5, [], .slice none 0 0⟩] L := M.reg
 have O : Mem w.heap.size [] w Z [.own t8 5 none 0 ([] : List Int)] Z q := c.addNil t8 5 (by decide)
 have P : Fr 28 [] [⟨0, [], str u0⟩, ⟨5, [], .slice none ([] : List Int).length 0⟩] L := N.reg
 obtain ⟨au, av, aw, ax⟩ := ar
 refine lp (ι := (List UInt8) × (List Int) × (Option Addr) × Nat) (fun s => [⟨0, [], str s.1⟩, ⟨5, [], .slice s.2.2.1 s.2.1.length s.2.2.2⟩]) (fun s => [.own t8 5 s.2.2.1 s.2.2.2 s.2.1]) (fun s => Z) (fun s => au s.1 s.2.1) (fun s => av s.1 s.2.1) ⟨u0, ([] : List Int), none, 0⟩ aw (by exact P.reg) (by exact O) ?_
 rintro ⟨a, d, f, h⟩ ay az aA Q R
 have p := ax a d ay
 refine s_ (sqB Q R [] [] [(17, .bool (decide ((a.length : Int) > 0)))] ?_); intro aW m
 refine c_ m p (fun _ aB => ?_) fun _ aO => ?_
 ·
  refine k_ (b_ (sqH ?_)); intro aC U
  refine bt m R 2 [] [] [(18, .slice f d.length h), (19, str a)] ?_; intro aX z
  obtain ⟨aD, aE⟩ := aB
  refine u_ z (str (a.take (8 : Int).toNat)) (strslH_run z (g := []) (k := .i64) rfl (by kernel_rfl) (by kernel_rfl) (by kernel_rfl) aD rfl) ?_; intro aY V
  obtain ⟨aF, aG⟩ := aE
  refine fc V R (bread_fun (a.take (8 : Int).toNat) aF _ _ R.fz) ?_; intro aZ a1 W X
  refine s1 W 22 (y8 (w8 (breadS (a.take (8 : Int).toNat)))) ?_; intro a2 Y
  refine nw Y X (fun b => .slice (sm b) 1 1) [y8 (w8 (breadS (a.take (8 : Int).toNat)))] 5 ?_; intro aa a3 a5 ab A
  obtain ⟨aH, aI⟩ := aG
  refine ap ab A 1 (T := t8) (xs := d) (ys := [w8 (breadS (a.take (8 : Int).toNat))]) (ao := f) (cap := h) (ao2 := (sm aa)) (cap2 := 1) (t := 22) (e := 5) (bytes := 1) (nog rfl _) rfl (by kernel_rfl) rfl (by kernel_rfl) (by kernel_rfl) (by kernel_rfl) rfl (Src.row A 0 rfl (RepAll.one (T := t8) (x := (w8 (breadS (a.take (8 : Int).toNat)))) rfl)) aH ?_; intro B C a6 aJ a8 ac ad
  have aK : Mem w.heap.size [] w Z [.row aa [y8 (w8 (breadS (a.take (8 : Int).toNat)))] 5, .own t8 5 B C (d ++ [w8 (breadS (a.take (8 : Int).toNat))])] Z aJ := ad
  refine s1 ac 5 (.slice B (d ++ [w8 (breadS (a.take (8 : Int).toNat))]).length C) ?_; intro ba ae
  apply U
  refine rgH ?_; intro aL af
  refine s1 ae 25 (str a) ?_; intro bb D
  obtain ⟨aM, ag⟩ := aI
  refine u_ D (str (a.drop (8 : Int).toNat)) (strslL_run D (g := []) (k := .i64) rfl (by kernel_rfl) (by kernel_rfl) (by kernel_rfl) aM rfl) ?_; intro bc ah
  refine s1 ah 0 (str (a.drop (8 : Int).toNat)) ?_; intro bd aN
  apply af
  exact j_ (d_ ⟨⟨a.drop (8 : Int).toNat, d ++ [w8 (breadS (a.take (8 : Int).toNat))], B, C⟩, ag.1, ag.2, (aN.reg).anyβ _ (by kernel_rfl), aK.kp⟩)
 refine x_ (y_ (y_ (z_ (t_ (sqB m R [] [] [(2, .slice f d.length h), (3, i6 0)] ?_))))); intro be aP
 exact r_ (ra2 aP (.tuple #[.slice f d.length h, i6 0]) ⟨(d, 0), f, h, Z, rfl, aO, R.kp⟩)

theorem beq_walk (u0 : List Int) (u1 : List Int) (ao1 : Option Addr) (cap2 : Nat) (ao4 : Option Addr) (cap5 : Nat) (Z : Fz) (w : World) (hs3 : SlR t8 Z ao1 cap2 u0) (hs6 : SlR t8 Z ao4 cap5 u1) (hZ : Z.on w) {K : Bool → Prop} (hp : beq_vc u0 u1 K) : Calls Tryz.prog 38 #[.slice ao1 u0.length cap2, .slice ao4 u1.length cap5] w fun e w' => ∃ r : Bool, e = .returned (.bool r) ∧ K r ∧ Below w.heap.size w w' := by
 refine enter0 Tryz.func38 rfl rfl (by kernel_rfl) ?_; intro a0 y; have b := Mem.start w Z hZ
 have l := hp (hs3.small) (hs6.small)
 refine sqB y b [] [] [] ?_; intro aD A
 refine s_ (sqB A b [] [] [(10, .bool ((u0.length : Int) != (u1.length : Int)))] ?_); intro aE d
 refine c_ d l (fun _ W => ?_) fun _ Y => ?_
 ·
  refine sqB d b [] [] [(4, .bool false)] ?_; intro aF X
  exact r_ (h_ (ra1 X (.bool false) ⟨false, rfl, W, b.below⟩))
 refine k_ (s_ (sqB d b [] [] [(12, i6 (u0.length : Int)), (13, i6 0)] ?_)); intro B C
 apply b_
 have D : Fr 26 [] [⟨0, [], .slice ao1 u0.length cap2⟩, ⟨1, [], .slice ao4 u1.length cap5⟩, ⟨12, [], i6 (u0.length : Int)⟩, ⟨13, [], i6 0⟩] B := C.reg
 obtain ⟨aa, ab, ac, ad⟩ := Y
 refine lp (ι := Int) (fun s => [⟨0, [], .slice ao1 u0.length cap2⟩, ⟨1, [], .slice ao4 u1.length cap5⟩, ⟨12, [], i6 (u0.length : Int)⟩, ⟨13, [], i6 s⟩]) (fun s => []) (fun s => Z) (fun s => aa s) (fun s => ab s) 0 ac (by exact D.reg) (by exact b) ?_
 rintro a ae af ag F G
 have m := ad a ae
 refine sqB F G [] [] [(14, .bool (decide (a < (u0.length : Int))))] ?_; intro aG f
 refine s_ (c_ f m (fun _ ah => ?_) fun _ aA => ?_)
 ·
  refine k_ (s_ (b_ (sqB f G [] [] [(5, i6 a)] ?_))); intro ai I
  have J : Fr 26 [] [⟨0, [], .slice ao1 u0.length cap2⟩, ⟨1, [], .slice ao4 u1.length cap5⟩, ⟨5, [], i6 a⟩, ⟨12, [], i6 (u0.length : Int)⟩, ⟨13, [], i6 a⟩] ai := I.reg
  refine sqQH mixed (by kernel_rfl) G ?_; intro aj L
  refine q1 J 16 (.slice ao1 u0.length cap2) ?_; intro aH M
  refine q1 M 17 (i6 a) ?_; intro aI N
  obtain ⟨ak, O⟩ := ah
  refine qx_ N hs3 a ak .i64 5 1 ?_; intro aJ aK al h aL am an ao u
  have ap := O h am
  obtain rfl : al = ([y8 h] : List Value) := ao
  refine qz_ u an 0 (y8 h) rfl ?_; intro aM P
  refine q1 P 20 (.slice ao4 u1.length cap5) ?_; intro aN Q
  refine q1 Q 21 (i6 a) ?_; intro aO R
  obtain ⟨aq, S⟩ := ap
  refine qx_ R hs6 a aq .i64 5 1 ?_; intro aP aQ ar i aR au av aw v
  have n := S i au
  obtain rfl : ar = ([y8 i] : List Value) := aw
  refine qz_ v av 0 (y8 i) rfl ?_; intro aS U
  refine q1 U 24 (.bool (h != i)) ?_; intro aT j
  refine qnl (L _ ?_); intro aU o
  refine c_ j n (fun _ ax => ?_) fun _ V => ?_
  ·
   refine sqB j o [] [] [(4, .bool false)] ?_; intro aV ay
   exact r_ (i_ (h_ (h_ (i_ (h_ (ra1 ay (.bool false) ⟨false, rfl, ax, o.below⟩))))))
  refine l_ (j_ (t_ (rgB j o [] [] [(13, i6 (w64 (a + 1)))] ?_))); intro aW az
  exact d_ ⟨w64 (a + 1), V.1, V.2, (az.reg).anyβ _ (by kernel_rfl), o.kp⟩
 refine x_ (y_ (y_ (z_ (t_ (sqB f G [] [] [(4, .bool true)] ?_))))); intro aX aB
 exact r_ (ra1 aB (.bool true) ⟨true, rfl, aA, G.below⟩)

theorem hasprefix0_walk (u0 : List UInt8) (u1 : List UInt8)  (Z : Fz) (w : World)  (hZ : Z.on w) {K : Bool → Prop} (hp : hasprefix0_vc u0 u1 K) : Calls Tryz.prog 63 #[str u0, str u1] w fun e w' => ∃ r : Bool, e = .returned (.bool r) ∧ K r ∧ Below w.heap.size w w' := by
 refine enter0 Tryz.func63 rfl rfl (by kernel_rfl) ?_; intro z j; have a := Mem.start w Z hZ
 refine sqB j a [] [] [] ?_; intro B l
 refine sqH ?_; intro m f
 refine bt l a 6 [] [] [(10, .bool (decide ((u0.length : Int) ≥ (u1.length : Int))))] ?_; intro C h
 refine e_ hp (fun b q => ?_) fun b x => ?_
 ·
  have n := h.reval (d := 10) (c := []) (v := .bool (decide ((u0.length : Int) ≥ (u1.length : Int)))) (by kernel_rfl) (.bool true) (by rw [b])
  refine bt n a 3 [] [11, 12, 13] [(11, str u0), (13, i6 (u1.length : Int))] ?_; intro D i
  obtain ⟨s, t⟩ := q
  refine v_ i (str (u0.take (u1.length : Int).toNat)) (wK i true) (strslH_run i (g := []) (k := .i64) rfl (by kernel_rfl) (by kernel_rfl) (by kernel_rfl) s rfl) ?_; intro E o
  refine bt o a 4 [] [15, 16, 17, 34] [(4, .bool ((u0.take (u1.length : Int).toNat) == u1))] ?_; intro F u
  apply f
  exact r_ (ra1 u (.bool ((u0.take (u1.length : Int).toNat) == u1)) ⟨(u0.take (u1.length : Int).toNat) == u1, rfl, t, a.below⟩)
 have p := h.reval (d := 10) (c := []) (v := .bool (decide ((u0.length : Int) ≥ (u1.length : Int)))) (by kernel_rfl) (.bool false) (by rw [b])
 refine bt p a 8 [] [11, 12, 13, 14, 15, 16, 17] [(4, .bool false)] ?_; intro G y
 apply f
 exact r_ (ra1 y (.bool false) ⟨false, rfl, x, a.below⟩)
def hasprefix0_fun (u0 : List UInt8) (u1 : List UInt8)  (Z : Fz) (w : World)  (hZ : Z.on w) := f_ (hasprefix0_walk u0 u1  Z w  hZ (hasprefix0_ok u0 u1))
theorem hasprefix_walk (u0 : List UInt8) (u1 : List UInt8)  (Z : Fz) (w : World)  (hZ : Z.on w) {K : Bool → Prop} (hp : hasprefix_vc u0 u1 K) : Calls Tryz.prog 29 #[str u0, str u1] w fun e w' => ∃ r : Bool, e = .returned (.bool r) ∧ K r ∧ Below w.heap.size w w' := by
 refine enter0 Tryz.func29 rfl rfl (by kernel_rfl) ?_; intro k b; have a := Mem.start w Z hZ
 refine sqB b a [] [] [] ?_; intro m c
 refine sqH ?_; intro h d
 refine bt c a 2 [] [] [(5, str u0), (6, str u1)] ?_; intro n f
 refine fc f a (hasprefix0_fun u0 u1 _ _ a.fz) ?_; intro o p g i
 refine s1 g 4 (.bool (hasprefix0 u0 u1)) ?_; intro q j
 apply d
 exact r_ (ra1 j (.bool (hasprefix0 u0 u1)) ⟨(hasprefix0 u0 u1), rfl, hp, i.below⟩)
def hasprefix_fun (u0 : List UInt8) (u1 : List UInt8)  (Z : Fz) (w : World)  (hZ : Z.on w) := f_ (hasprefix_walk u0 u1  Z w  hZ (hasprefix_ok u0 u1))
theorem fname_walk (u0 : Frame) (ao1 : Option Addr) (cap2 : Nat) (Z : Fz) (w : World) (hs3 : SlR t8 Z ao1 cap2 u0.Data) (hZ : Z.on w) {K : (List UInt8) → Prop} (hp : fname_vc u0 K) : Calls Tryz.prog 56 #[.agg #[i6 u0.ID, .bool u0.Long, .bool u0.Fast, .bool u0.Remote, i6 u0.Size, .slice ao1 u0.Data.length cap2]] w fun e w' => ∃ r : (List UInt8), e = .returned (str r) ∧ K r ∧ Below w.heap.size w w' := by
 refine enter0 Tryz.func56 rfl rfl (by kernel_rfl) ?_; intro a0 u; have v := Mem.start w Z hZ
 have f := hp (hs3.small)
 refine sqH ?_; intro U x
 refine nw u v pb (e24B u0 ao1 cap2) 24 ?_; intro a a7 ax y c
 refine s1 y 2 (str []) ?_; intro ay z
 apply x
 refine s_ (sqB z c [0] [] [(5, .bool (!u0.Long))] ?_); intro A d
 refine c_ d f (fun _ V => ?_) fun _ ag => ?_
 ·
  have B : Fr 30 [] [⟨1, [], pt a 0⟩] A := d.reg
  refine sqQH mixed (by kernel_rfl) c ?_; intro W C
  refine q1 B 6 (pt a 0) ?_; intro az i
  refine ql_ i 0 0 (i6 u0.ID) rfl rfl ?_; intro aA D
  refine q1 D 8 (y6 (wu64 u0.ID)) ?_; intro aB E
  obtain ⟨X, Y⟩ := V
  refine qcl E (str (bwriteS (wu64 u0.ID) 11)) 53 #[y6 (wu64 u0.ID), i6 11] (nog rfl _) rfl (by kernel_rfl) (fun _ => by kernel_rfl) (qfc fun w hC => bwrite_fun (wu64 u0.ID) 11 X _ _ hC.fz) ?_; intro aC F
  refine q1 F 10 (pt a 3) ?_; intro aD j
  refine ql_ j 0 3 (.bool u0.Remote) rfl rfl ?_; intro aE G
  refine qcl G (str (fbit u0.Remote)) 83 #[.bool u0.Remote] (nog rfl _) rfl (by kernel_rfl) (fun _ => by kernel_rfl) (qfc fun w hC => fbit_fun u0.Remote _ _ hC.fz) ?_; intro aF k
  obtain ⟨aa, ab⟩ := Y
  refine qu_ k (str ((bwriteS (wu64 u0.ID) 11) ++ (fbit u0.Remote))) (fun v47 hC => stradd_run k (g := []) rfl (by kernel_rfl) (by kernel_rfl) aa rfl) ?_; intro aG l
  obtain ⟨ac, ad⟩ := ab
  refine qu_ l (str (((bwriteS (wu64 u0.ID) 11) ++ (fbit u0.Remote)) ++ ([48] : List UInt8))) (fun v52 hC => stradd_run l (g := []) rfl (by kernel_rfl) (by kernel_rfl) ac rfl) ?_; intro aH H
  refine q1 H 2 (str (((bwriteS (wu64 u0.ID) 11) ++ (fbit u0.Remote)) ++ ([48] : List UInt8))) ?_; intro aI ae
  refine qnl (C _ ?_); intro aJ af
  exact r_ (h_ (ra1 ae (str (((bwriteS (wu64 u0.ID) 11) ++ (fbit u0.Remote)) ++ ([48] : List UInt8))) ⟨((bwriteS (wu64 u0.ID) 11) ++ (fbit u0.Remote)) ++ ([48] : List UInt8), rfl, ad, af.below⟩))
 apply k_
 have I : Fr 30 [] [⟨1, [], pt a 0⟩] A := d.reg
 refine sqQH mixed (by kernel_rfl) c ?_; intro ah J
 refine q1 I 15 (pt a 0) ?_; intro aK m
 refine ql_ m 0 0 (i6 u0.ID) rfl rfl ?_; intro aL L
 refine q1 L 17 (i6 (bShr .i64 u0.ID 18)) ?_; intro aM M
 refine q1 M 18 (y6 (wu64 (bShr .i64 u0.ID 18))) ?_; intro aN N
 obtain ⟨ai, aj⟩ := ag
 refine qcl N (str (bwriteS (wu64 (bShr .i64 u0.ID 18)) 11)) 53 #[y6 (wu64 (bShr .i64 u0.ID 18)), i6 11] (nog rfl _) rfl (by kernel_rfl) (fun _ => by kernel_rfl) (qfc fun w hC => bwrite_fun (wu64 (bShr .i64 u0.ID 18)) 11 ai _ _ hC.fz) ?_; intro aO n
 obtain ⟨ak, al⟩ := aj
 refine qu_ n (str ((bwriteS (wu64 (bShr .i64 u0.ID 18)) 11) ++ ([49, 49] : List UInt8))) (fun v82 hC => stradd_run n (g := []) rfl (by kernel_rfl) (by kernel_rfl) ak rfl) ?_; intro aP O
 refine q1 O 21 (pt a 0) ?_; intro aQ o
 refine ql_ o 0 0 (i6 u0.ID) rfl rfl ?_; intro aR P
 refine q1 P 23 (y6 (wu64 u0.ID)) ?_; intro aS Q
 obtain ⟨am, an⟩ := al
 refine qcl Q (str (bwriteS (wu64 u0.ID) 18)) 53 #[y6 (wu64 u0.ID), i6 18] (nog rfl _) rfl (by kernel_rfl) (fun _ => by kernel_rfl) (qfc fun w hC => bwrite_fun (wu64 u0.ID) 18 am _ _ hC.fz) ?_; intro aT p
 obtain ⟨ao, ap⟩ := an
 refine qu_ p (str (((bwriteS (wu64 (bShr .i64 u0.ID 18)) 11) ++ ([49, 49] : List UInt8)) ++ (bwriteS (wu64 u0.ID) 18))) (fun v101 hC => stradd_run p (g := []) rfl (by kernel_rfl) (by kernel_rfl) ao rfl) ?_; intro aU R
 refine q1 R 26 (pt a 3) ?_; intro aV q
 refine ql_ q 0 3 (.bool u0.Remote) rfl rfl ?_; intro aW S
 refine qcl S (str (fbit u0.Remote)) 83 #[.bool u0.Remote] (nog rfl _) rfl (by kernel_rfl) (fun _ => by kernel_rfl) (qfc fun w hC => fbit_fun u0.Remote _ _ hC.fz) ?_; intro aX s
 obtain ⟨aq, ar⟩ := ap
 refine qu_ s (str ((((bwriteS (wu64 (bShr .i64 u0.ID 18)) 11) ++ ([49, 49] : List UInt8)) ++ (bwriteS (wu64 u0.ID) 18)) ++ (fbit u0.Remote))) (fun v115 hC => stradd_run s (g := []) rfl (by kernel_rfl) (by kernel_rfl) aq rfl) ?_; intro aY T
 refine q1 T 2 (str ((((bwriteS (wu64 (bShr .i64 u0.ID 18)) 11) ++ ([49, 49] : List UInt8)) ++ (bwriteS (wu64 u0.ID) 18)) ++ (fbit u0.Remote))) ?_; intro aZ au
 refine qnl (J _ ?_); intro a1 av
 exact r_ (ra1 au (str ((((bwriteS (wu64 (bShr .i64 u0.ID 18)) 11) ++ ([49, 49] : List UInt8)) ++ (bwriteS (wu64 u0.ID) 18)) ++ (fbit u0.Remote))) ⟨(((bwriteS (wu64 (bShr .i64 u0.ID 18)) 11) ++ ([49, 49] : List UInt8)) ++ (bwriteS (wu64 u0.ID) 18)) ++ (fbit u0.Remote), rfl, ar, av.below⟩)

theorem fcheckfr_walk (u0 : Frame) (ao1 : Option Addr) (cap2 : Nat) (Z : Fz) (w : World) (hs3 : SlR t8 Z ao1 cap2 u0.Data) (hZ : Z.on w) {K : Int → Prop} (hp : fcheckfr_vc u0 K) : Calls Tryz.prog 61 #[.agg #[i6 u0.ID, .bool u0.Long, .bool u0.Fast, .bool u0.Remote, i6 u0.Size, .slice ao1 u0.Data.length cap2]] w fun e w' => ∃ r : Int, e = .returned (i6 r) ∧ K r ∧ Below w.heap.size w w' := by
 refine enter0 Tryz.func61 rfl rfl (by kernel_rfl) ?_; intro a0 C; have D := Mem.start w Z hZ
 have k := hp (hs3.small)
 refine sqH ?_; intro V E
 refine nw C D pb (e24B u0 ao1 cap2) 24 ?_; intro l a7 aq F a
 refine s1 F 2 (i6 0) ?_; intro ar G
 apply E
 refine s_ (b_ (sqB G a [0, 0, 0, 0] [] [(3, .bool (((decide (u0.ID < 0)) || ((!u0.Long) && (decide (u0.ID > 2047)))) || (decide (u0.ID > 536870911))))] ?_)); intro au c
 refine c_ c k (fun _ W => ?_) fun _ m => ?_
 ·
  refine sqB c a [] [] [(2, i6 3)] ?_; intro av X
  exact r_ (i_ (h_ (ra1 X (i6 3) ⟨3, rfl, W, a.below⟩)))
 refine sqB c a [0, 0, 0] [] [(22, .bool (u0.Remote && (u0.Fast || (decide ((u0.Data.length : Int) > 0)))))] ?_; intro aw d
 refine c_ d m (fun _ Y => ?_) fun _ n => ?_
 ·
  refine sqB d a [] [] [(2, i6 4)] ?_; intro ax aa
  exact r_ (i_ (h_ (ra1 aa (i6 4) ⟨4, rfl, Y, a.below⟩)))
 refine sqB d a [0, 0, 0, 0] [] [(35, .bool (((decide (u0.Size < 0)) || (decide (u0.Size > 8))) || ((!u0.Remote) && (u0.Size != 0))))] ?_; intro ay f
 refine c_ f n (fun _ ab => ?_) fun _ o => ?_
 ·
  refine sqB f a [] [] [(2, i6 3)] ?_; intro az ac
  exact r_ (i_ (h_ (ra1 ac (i6 3) ⟨3, rfl, ab, a.below⟩)))
 refine sqB f a [0, 0, 0] [] [(54, .bool ((decide ((u0.Data.length : Int) > 64)) || ((!u0.Fast) && (decide ((u0.Data.length : Int) > 8)))))] ?_; intro ad g
 refine c_ g o (fun _ ae => ?_) fun _ p => ?_
 ·
  refine sqB g a [] [] [(2, i6 2)] ?_; intro aA af
  exact r_ (i_ (h_ (ra1 af (i6 2) ⟨2, rfl, ae, a.below⟩)))
 have H : Fr 77 [] [⟨1, [], pt l 0⟩] ad := g.reg
 refine wp_seq (rgS mixed a [(1, true), (2, true), (3, true), (0, false), (4, false), (5, true), (6, true)] [] [0] [.row l (e24B u0 ao1 cap2) 24] ?_)
 intro ag I aB x
 have b := Fz.le.refl Z
 refine cS H 3 [0] [] [(74, i6 (u0.Data.length : Int))] ?_; intro aC J
 refine eS rfl ?_; intro ah L
 refine ck J 20 #[] ?_
 refine (fsizes_fun  _ _ x.fz).mono ?_; rintro _ M ⟨N, O, ai, rfl, hm⟩; refine ⟨_, rfl, ?_⟩; intro aD P; have Q := x.callZ hm; have y := hm.ext.le
 replace b := b.mono y
 have R : Mem w.heap.size [] w Z [.own t6 3 N O fsizes, .row l (e24B u0 ao1 cap2) 24] ai M := Q
 refine nl (qnI (L _ _ (R.cst b [1]) ?_))
 refine eS rfl ?_; intro aj S
 obtain ⟨ak, z, T, al⟩ := R.freeze 0 rfl
 replace b := b.mono z
 have A : Mem w.heap.size [] w Z [.row l (e24B u0 ao1 cap2) 24] ak M := T
 refine fc P A (scontains_fun fsizes (u0.Data.length : Int) N O _ _ al A.fz) ?_; intro aE aF U h
 refine nl (qnI (S _ _ (h.cst b [0]) ?_))
 refine cS U 2 [] [] [(70, .bool (!(scontainsS fsizes (u0.Data.length : Int))))] ?_; intro aG i
 refine nS (I _ _ ?_)
 refine t_ (c_ i p (fun _ am => ?_) fun _ ao => ?_)
 ·
  refine sqB i h [] [] [(2, i6 4)] ?_; intro aH an
  exact r_ (i_ (h_ (ra1 an (i6 4) ⟨4, rfl, am, h.below⟩)))
 refine l_ (j_ (t_ (sqB i h [] [] [(2, i6 0)] ?_))); intro aI ap
 exact r_ (ra1 ap (i6 0) ⟨0, rfl, ao, h.below⟩)
def fcheckfr_fun (u0 : Frame) (ao1 : Option Addr) (cap2 : Nat) (Z : Fz) (w : World) (hs3 : SlR t8 Z ao1 cap2 u0.Data) (hZ : Z.on w) := f_ (fcheckfr_walk u0 ao1 cap2 Z w hs3 hZ (fcheckfr_ok u0))
theorem fcount_walk (u0 : Int)  (Z : Fz) (w : World)  (hZ : Z.on w) {K : (List UInt8) → Prop} (hp : fcount_vc u0 K) : Calls Tryz.prog 49 #[i6 u0] w fun e w' => ∃ r : (List UInt8), e = .returned (str r) ∧ K r ∧ Below w.heap.size w w' := by
 refine enter0 Tryz.func49 rfl rfl (by kernel_rfl) ?_; intro D d; have a := Mem.start w Z hZ
 refine sqB d a [] [] [] ?_; intro F f
 refine sqB f a [] [] [(3, i6 (bXor .i64 (u0.tmod 8) (bShr .i64 (u0.tmod 8) 1)))] ?_; intro G g
 refine sqH ?_; intro s h
 refine bt g a 2 [] [] [(12, y6 (wu64 (bXor .i64 (u0.tmod 8) (bShr .i64 (u0.tmod 8) 1))))] ?_; intro H i
 obtain ⟨t, u⟩ := hp
 refine fc i a (bwrite_fun (wu64 (bXor .i64 (u0.tmod 8) (bShr .i64 (u0.tmod 8) 1))) 3 t _ _ a.fz) ?_; intro I J j b
 refine s1 j 4 (str (bwriteS (wu64 (bXor .i64 (u0.tmod 8) (bShr .i64 (u0.tmod 8) 1))) 3)) ?_; intro L k
 apply h
 refine sqH ?_; intro v l
 refine bt k b 2 [] [] [(14, str (bwriteS (wu64 (bXor .i64 (u0.tmod 8) (bShr .i64 (u0.tmod 8) 1))) 3)), (15, str (bwriteS (wu64 (bXor .i64 (u0.tmod 8) (bShr .i64 (u0.tmod 8) 1))) 3))] ?_; intro M m
 obtain ⟨x, y⟩ := u
 refine fc m b (count1_fun (bwriteS (wu64 (bXor .i64 (u0.tmod 8) (bShr .i64 (u0.tmod 8) 1))) 3) ([49] : List UInt8) x _ _ b.fz) ?_; intro N O n c
 refine bt n c 2 [] [] [(18, .bool (((count1S (bwriteS (wu64 (bXor .i64 (u0.tmod 8) (bShr .i64 (u0.tmod 8) 1))) 3) ([49] : List UInt8)).tmod 2) == 1))] ?_; intro P o
 refine fc o c (fbit_fun (((count1S (bwriteS (wu64 (bXor .i64 (u0.tmod 8) (bShr .i64 (u0.tmod 8) 1))) 3) ([49] : List UInt8)).tmod 2) == 1) _ _ c.fz) ?_; intro Q R p z
 obtain ⟨A, B⟩ := y
 refine sa p A ?_; intro S q
 refine s1 q 2 (str ((bwriteS (wu64 (bXor .i64 (u0.tmod 8) (bShr .i64 (u0.tmod 8) 1))) 3) ++ (fbit (((count1S (bwriteS (wu64 (bXor .i64 (u0.tmod 8) (bShr .i64 (u0.tmod 8) 1))) 3) ([49] : List UInt8)).tmod 2) == 1)))) ?_; intro T C
 apply l
 exact r_ (ra1 C (str ((bwriteS (wu64 (bXor .i64 (u0.tmod 8) (bShr .i64 (u0.tmod 8) 1))) 3) ++ (fbit (((count1S (bwriteS (wu64 (bXor .i64 (u0.tmod 8) (bShr .i64 (u0.tmod 8) 1))) 3) ([49] : List UInt8)).tmod 2) == 1)))) ⟨(bwriteS (wu64 (bXor .i64 (u0.tmod 8) (bShr .i64 (u0.tmod 8) 1))) 3) ++ (fbit (((count1S (bwriteS (wu64 (bXor .i64 (u0.tmod 8) (bShr .i64 (u0.tmod 8) 1))) 3) ([49] : List UInt8)).tmod 2) == 1)), rfl, B, z.below⟩)

end Go.Proofs.YtmnlahbngbigdaaGreatDoor
set_option linter.unusedVariables false
set_option linter.unusedSimpArgs false
set_option linter.defProp false
set_option maxRecDepth 100000
set_option maxHeartbeats 0
namespace Go.Proofs.YtmnlahbngbigdaaGreatDoor
open Go.Sy Go.RowKit
abbrev e24C (X : Frame) (A0 : Option Addr) (C0 : Nat) : List Value := [i6 X.ID, .bool X.Long, .bool X.Fast, .bool X.Remote, i6 X.Size, .slice A0 X.Data.length C0]
def csum_fun (u0 : Int) (u1 : List UInt8)  (Z : Fz) (w : World)  (hZ : Z.on w) := f_ (csum_walk u0 u1  Z w  hZ (csum_ok u0 u1))
def bof_fun (u0 : List Int) (hpre : ∀ x ∈ u0, 0 ≤ x ∧ x ≤ 255) (ao1 : Option Addr) (cap2 : Nat) (Z : Fz) (w : World) (hs3 : SlR t8 Z ao1 cap2 u0) (hZ : Z.on w) := f_ (bof_walk u0 ao1 cap2 Z w hs3 hZ (bof_ok u0 hpre))
def rtakeF_fun (u0 : FReader) (u1 : Int) (hpre : Rok u0.Reader ∧ u1 ≤ 9223372036854775807) (b1 : Nat) (ao2 : Option Addr) (cap3 : Nat) (B : Nat) (w0 : World) (Z0 : Fz) (Rr : List Res) (Z : Fz) (w : World) (hs4 : SlR t8 Z ao2 cap3 u0.f.Data) (hM0 : Mem B [] w0 Z0 ((.row b1 [str u0.Reader.Row, i6 u0.Reader.At, i6 u0.Reader.Code, y8 u0.Reader.c.last, i6 u0.Reader.c.n, i6 u0.f.ID, .bool u0.f.Long, .bool u0.f.Fast, .bool u0.f.Remote, i6 u0.f.Size, .slice ao2 u0.f.Data.length cap3] 46) :: Rr) Z w) (hZ : Z.on w) := fc_ (rtakeF_walk u0 u1 b1 ao2 cap3 B w0 Z0 Rr Z w hs4 hM0 hZ (rtakeF_ok u0 u1 hpre))
theorem rtakeF_funK (u0 : FReader) (u1 : Int) (hpre : Rok u0.Reader ∧ u1 ≤ 9223372036854775807) (b1 : Nat) (ao2 : Option Addr) (cap3 : Nat) (B : Nat) (w0 : World) (Z0 : Fz) (Rr : List Res) (Z : Fz) (w : World) (hs4 : SlR t8 Z ao2 cap3 u0.f.Data) (hM0 : Mem B [] w0 Z0 ((.row b1 [str u0.Reader.Row, i6 u0.Reader.At, i6 u0.Reader.Code, y8 u0.Reader.c.last, i6 u0.Reader.c.n, i6 u0.f.ID, .bool u0.f.Long, .bool u0.f.Fast, .bool u0.f.Remote, i6 u0.f.Size, .slice ao2 u0.f.Data.length cap3] 46) :: Rr) Z w) (hZ : Z.on w) : Calls Tryz.prog 21 #[pt b1 0, i6 u1] w fun e w' => ∃ (ao1001 : Option Addr) (cap1002 : Nat) (Z' : Fz), e = .returned (str (rtakeFS u0 u1).1) ∧ Fz.le Z Z' ∧ SlR t8 Z' ao1001 cap1002 u0.f.Data ∧ Mem B [] w0 Z0 ((.row b1 [str (rtakeFS u0 u1).2.Reader.Row, i6 (rtakeFS u0 u1).2.Reader.At, i6 (rtakeFS u0 u1).2.Reader.Code, y8 (rtakeFS u0 u1).2.Reader.c.last, i6 (rtakeFS u0 u1).2.Reader.c.n, i6 u0.f.ID, .bool u0.f.Long, .bool u0.f.Fast, .bool u0.f.Remote, i6 u0.f.Size, .slice ao1001 u0.f.Data.length cap1002] 46) :: Rr) Z' w' :=
  (rtakeF_walk u0 u1 b1 ao2 cap3 B w0 Z0 Rr Z w hs4 hM0 hZ (rtakeF_ok u0 u1 hpre)).mono fun _ _ ⟨r, h0, h1, h2, he, hk, f0, f1, hm⟩ => by subst hk; have hkp : (rtakeFS u0 u1).2.f = u0.f := rtakeFS_f u0 u1; (try simp only [hkp] at *); exact ⟨h0, h1, h2, he, f0, f1, hm⟩


def rplainF_fun (u0 : FReader) (u1 : Int) (hpre : (0 ≤ u0.Reader.At ∧ u0.Reader.At ≤ (u0.Reader.Row.length : Int) ∧ u0.Reader.Row.length ≤ 1000000) ∧ u1 ≤ 1000000) (b1 : Nat) (ao2 : Option Addr) (cap3 : Nat) (B : Nat) (w0 : World) (Z0 : Fz) (Rr : List Res) (Z : Fz) (w : World) (hs4 : SlR t8 Z ao2 cap3 u0.f.Data) (hM0 : Mem B [] w0 Z0 ((.row b1 [str u0.Reader.Row, i6 u0.Reader.At, i6 u0.Reader.Code, y8 u0.Reader.c.last, i6 u0.Reader.c.n, i6 u0.f.ID, .bool u0.f.Long, .bool u0.f.Fast, .bool u0.f.Remote, i6 u0.f.Size, .slice ao2 u0.f.Data.length cap3] 46) :: Rr) Z w) (hZ : Z.on w) := fc_ (rplainF_walk u0 u1 b1 ao2 cap3 B w0 Z0 Rr Z w hs4 hM0 hZ (rplainF_ok u0 u1 hpre))
theorem rplainF_funK (u0 : FReader) (u1 : Int) (hpre : (0 ≤ u0.Reader.At ∧ u0.Reader.At ≤ (u0.Reader.Row.length : Int) ∧ u0.Reader.Row.length ≤ 1000000) ∧ u1 ≤ 1000000) (b1 : Nat) (ao2 : Option Addr) (cap3 : Nat) (B : Nat) (w0 : World) (Z0 : Fz) (Rr : List Res) (Z : Fz) (w : World) (hs4 : SlR t8 Z ao2 cap3 u0.f.Data) (hM0 : Mem B [] w0 Z0 ((.row b1 [str u0.Reader.Row, i6 u0.Reader.At, i6 u0.Reader.Code, y8 u0.Reader.c.last, i6 u0.Reader.c.n, i6 u0.f.ID, .bool u0.f.Long, .bool u0.f.Fast, .bool u0.f.Remote, i6 u0.f.Size, .slice ao2 u0.f.Data.length cap3] 46) :: Rr) Z w) (hZ : Z.on w) : Calls Tryz.prog 26 #[pt b1 0, i6 u1] w fun e w' => ∃ (ao1001 : Option Addr) (cap1002 : Nat) (Z' : Fz), e = .returned (str (rplainFS u0 u1).1) ∧ Fz.le Z Z' ∧ SlR t8 Z' ao1001 cap1002 u0.f.Data ∧ Mem B [] w0 Z0 ((.row b1 [str (rplainFS u0 u1).2.Reader.Row, i6 (rplainFS u0 u1).2.Reader.At, i6 (rplainFS u0 u1).2.Reader.Code, y8 (rplainFS u0 u1).2.Reader.c.last, i6 (rplainFS u0 u1).2.Reader.c.n, i6 u0.f.ID, .bool u0.f.Long, .bool u0.f.Fast, .bool u0.f.Remote, i6 u0.f.Size, .slice ao1001 u0.f.Data.length cap1002] 46) :: Rr) Z' w' :=
  (rplainF_walk u0 u1 b1 ao2 cap3 B w0 Z0 Rr Z w hs4 hM0 hZ (rplainF_ok u0 u1 hpre)).mono fun _ _ ⟨r, h0, h1, h2, he, hk, f0, f1, hm⟩ => by subst hk; have hkp : (rplainFS u0 u1).2.f = u0.f := rplainFS_f u0 u1; (try simp only [hkp] at *); exact ⟨h0, h1, h2, he, f0, f1, hm⟩

def sput_fun (u0 : List UInt8)  (Z : Fz) (w : World)  (hZ : Z.on w) := f_ (sput_walk u0  Z w  hZ (sput_ok u0))
def sfixed_fun (u0 : List UInt8) (u1 : Int)  (Z : Fz) (w : World)  (hZ : Z.on w) := f_ (sfixed_walk u0 u1  Z w  hZ (sfixed_ok u0 u1))
def bbytes_fun (u0 : List UInt8)  (Z : Fz) (w : World)  (hZ : Z.on w) := fc_ (bbytes_walk u0  Z w  hZ (bbytes_ok u0))
def beq_fun (u0 : List Int) (u1 : List Int) (ao1 : Option Addr) (cap2 : Nat) (ao4 : Option Addr) (cap5 : Nat) (Z : Fz) (w : World) (hs3 : SlR t8 Z ao1 cap2 u0) (hs6 : SlR t8 Z ao4 cap5 u1) (hZ : Z.on w) := f_ (beq_walk u0 u1 ao1 cap2 ao4 cap5 Z w hs3 hs6 hZ (beq_ok u0 u1))
def fname_fun (u0 : Frame) (hpre : 0 ≤ u0.ID ∧ u0.ID ≤ 536870911) (ao1 : Option Addr) (cap2 : Nat) (Z : Fz) (w : World) (hs3 : SlR t8 Z ao1 cap2 u0.Data) (hZ : Z.on w) := f_ (fname_walk u0 ao1 cap2 Z w hs3 hZ (fname_ok u0 hpre))
def fcount_fun (u0 : Int) (hpre : 0 ≤ u0)  (Z : Fz) (w : World)  (hZ : Z.on w) := f_ (fcount_walk u0  Z w  hZ (fcount_ok u0 hpre))
theorem fhead_walk (u0 : Frame) (ao1 : Option Addr) (cap2 : Nat) (Z : Fz) (w : World) (hs3 : SlR t8 Z ao1 cap2 u0.Data) (hZ : Z.on w) {K : (List UInt8) → Prop} (hp : fhead_vc u0 K) : Calls Tryz.prog 25 #[.agg #[i6 u0.ID, .bool u0.Long, .bool u0.Fast, .bool u0.Remote, i6 u0.Size, .slice ao1 u0.Data.length cap2]] w fun e w' => ∃ r : (List UInt8), e = .returned (str r) ∧ K r ∧ Below w.heap.size w w' := by
 refine enter0 Tryz.func25 rfl rfl (by kernel_rfl) ?_; intro a0 L; have M := Mem.start w Z hZ
 have u := hp (hs3.small)
 refine sqH ?_; intro bS N
 refine nw L M pb (e24C u0 ao1 cap2) 24 ?_; intro v a7 dN O c
 refine s1 O 2 (str []) ?_; intro dO P
 apply N
 refine sqB P c [0] [] [(3, i6 u0.Size)] ?_; intro dP Q
 refine s_ (sqB Q c [0] [] [(11, .bool (!u0.Remote))] ?_); intro bT f
 refine c_ f u (fun _ bU => ?_) fun _ cV => ?_
 ·
  have R : Fr 45 [] [⟨1, [], pt v 0⟩] bT := f.reg
  refine rgS mixed c [(1, true), (2, true), (3, true), (0, false), (4, false), (5, true)] [] [0] [.row v (e24C u0 ao1 cap2) 24] ?_
  intro bV S dQ C
  have d := Fz.le.refl Z
  refine cS R 3 [0] [] [(15, i6 (u0.Data.length : Int))] ?_; intro dR T
  refine eS rfl ?_; intro bW U
  refine ck T 20 #[] ?_
  refine (fsizes_fun  _ _ C.fz).mono ?_; rintro _ V ⟨W, X, bX, rfl, hm⟩; refine ⟨_, rfl, ?_⟩; intro dS Y; have aa := C.callZ hm; have D := hm.ext.le
  replace hs3 := hs3.mono D
  replace d := d.mono D
  have ab : Mem w.heap.size [] w Z [.own t6 3 W X fsizes, .row v (e24C u0 ao1 cap2) 24] bX V := aa
  refine nl (qnI (U _ _ (ab.cst d [1]) ?_))
  refine eS rfl ?_; intro bY ac
  obtain ⟨bZ, E, ad, b0⟩ := ab.freeze 0 rfl
  replace hs3 := hs3.mono E
  replace d := d.mono E
  have F : Mem w.heap.size [] w Z [.row v (e24C u0 ao1 cap2) 24] bZ V := ad
  refine fc Y F (sindex_fun fsizes (u0.Data.length : Int) W X _ _ b0 F.fz) ?_; intro dT dU ae g
  refine nl (qnI (ac _ _ (g.cst d [0]) ?_))
  refine cS ae 1 [] [] [(3, i6 (sindexS fsizes (u0.Data.length : Int)))] ?_; intro dV af
  refine nS (S _ _ ?_)
  refine t_ (sqH ?_); intro b1 ag
  refine l2 af g 17 0 0 6 (e24C u0 ao1 cap2) rfl rfl ?_; intro dW ah
  obtain ⟨b2, b3⟩ := bU
  refine fc ah g (fname_fun u0 b2 ao1 cap2 _ _ hs3 g.fz) ?_; intro dX dY ai a
  obtain ⟨b4, x⟩ := b3
  refine sa ai b4 ?_; intro dZ aj
  refine s1 aj 4 (str (([48] : List UInt8) ++ (fnameS u0))) ?_; intro d0 ak
  apply ag
  refine s_ (b_ (sqB ak a [0] [] [(22, .bool u0.Fast)] ?_)); intro d1 h
  refine c_ h x (fun _ b5 => ?_) fun _ y => ?_
  ·
   refine rgH ?_; intro b7 al
   refine s1 h 25 (str (([48] : List UInt8) ++ (fnameS u0))) ?_; intro d2 am
   obtain ⟨b8, b9⟩ := b5
   refine sa am b8 ?_; intro d3 an
   refine s1 an 4 (str ((([48] : List UInt8) ++ (fnameS u0)) ++ ([49, 48, 49, 48] : List UInt8))) ?_; intro d4 ao
   apply al
   refine j_ (t_ (sqH ?_)); intro ca ap
   refine bt ao a 2 [0] [] [(34, .slice ao1 u0.Data.length cap2)] ?_; intro d5 aq
   obtain ⟨cb, cc⟩ := b9
   refine fc aq a (bof_fun u0.Data cb ao1 cap2 _ _ hs3 a.fz) ?_; intro d6 d7 ar i
   refine bt ar i 5 [] [] [(5, str (bofS u0.Data).1)] ?_; intro d8 au
   apply ap
   refine sqH ?_; intro ce av
   refine bt au i 3 [] [] [(38, str ((([48] : List UInt8) ++ (fnameS u0)) ++ ([49, 48, 49, 48] : List UInt8))), (40, y6 (wu64 (sindexS fsizes (u0.Data.length : Int))))] ?_; intro d9 aw
   obtain ⟨cf, cg⟩ := cc
   refine fc aw i (bwrite_fun (wu64 (sindexS fsizes (u0.Data.length : Int))) 4 cf _ _ i.fz) ?_; intro ea eb ax ch
   obtain ⟨ci, cj⟩ := cg
   refine sa ax ci ?_; intro ec ay
   refine s1 ay 43 (str (bofS u0.Data).1) ?_; intro ed az
   obtain ⟨cl, cm⟩ := cj
   refine sa az cl ?_; intro ee aA
   refine s1 aA 2 (str ((((([48] : List UInt8) ++ (fnameS u0)) ++ ([49, 48, 49, 48] : List UInt8)) ++ (bwriteS (wu64 (sindexS fsizes (u0.Data.length : Int))) 4)) ++ (bofS u0.Data).1)) ?_; intro ef cn
   apply av
   exact r_ (ra1 cn (str ((((([48] : List UInt8) ++ (fnameS u0)) ++ ([49, 48, 49, 48] : List UInt8)) ++ (bwriteS (wu64 (sindexS fsizes (u0.Data.length : Int))) 4)) ++ (bofS u0.Data).1)) ⟨(((([48] : List UInt8) ++ (fnameS u0)) ++ ([49, 48, 49, 48] : List UInt8)) ++ (bwriteS (wu64 (sindexS fsizes (u0.Data.length : Int))) 4)) ++ (bofS u0.Data).1, rfl, cm, ch.below⟩)
  refine sqB h a [0] [] [(27, .bool u0.Long)] ?_; intro eg j
  refine c_ j y (fun _ co => ?_) fun _ cE => ?_
  ·
   refine rgH ?_; intro cp aB
   refine s1 j 30 (str (([48] : List UInt8) ++ (fnameS u0))) ?_; intro eh aC
   obtain ⟨cq, cr⟩ := co
   refine sa aC cq ?_; intro ei aD
   refine s1 aD 4 (str ((([48] : List UInt8) ++ (fnameS u0)) ++ ([48, 48] : List UInt8))) ?_; intro ej aE
   apply aB
   refine j_ (t_ (sqH ?_)); intro cs aF
   refine bt aE a 2 [0] [] [(34, .slice ao1 u0.Data.length cap2)] ?_; intro ek aG
   obtain ⟨ct, cu⟩ := cr
   refine fc aG a (bof_fun u0.Data ct ao1 cap2 _ _ hs3 a.fz) ?_; intro el em aH k
   refine bt aH k 5 [] [] [(5, str (bofS u0.Data).1)] ?_; intro en aI
   apply aF
   refine sqH ?_; intro cv aJ
   refine bt aI k 3 [] [] [(38, str ((([48] : List UInt8) ++ (fnameS u0)) ++ ([48, 48] : List UInt8))), (40, y6 (wu64 (sindexS fsizes (u0.Data.length : Int))))] ?_; intro eo aK
   obtain ⟨cw, cx⟩ := cu
   refine fc aK k (bwrite_fun (wu64 (sindexS fsizes (u0.Data.length : Int))) 4 cw _ _ k.fz) ?_; intro ep eq aL cy
   obtain ⟨cz, cA⟩ := cx
   refine sa aL cz ?_; intro er aM
   refine s1 aM 43 (str (bofS u0.Data).1) ?_; intro es aN
   obtain ⟨cB, cC⟩ := cA
   refine sa aN cB ?_; intro et aO
   refine s1 aO 2 (str ((((([48] : List UInt8) ++ (fnameS u0)) ++ ([48, 48] : List UInt8)) ++ (bwriteS (wu64 (sindexS fsizes (u0.Data.length : Int))) 4)) ++ (bofS u0.Data).1)) ?_; intro eu cD
   apply aJ
   exact r_ (ra1 cD (str ((((([48] : List UInt8) ++ (fnameS u0)) ++ ([48, 48] : List UInt8)) ++ (bwriteS (wu64 (sindexS fsizes (u0.Data.length : Int))) 4)) ++ (bofS u0.Data).1)) ⟨(((([48] : List UInt8) ++ (fnameS u0)) ++ ([48, 48] : List UInt8)) ++ (bwriteS (wu64 (sindexS fsizes (u0.Data.length : Int))) 4)) ++ (bofS u0.Data).1, rfl, cC, cy.below⟩)
  refine rgH ?_; intro cF aP
  refine s1 j 20 (str (([48] : List UInt8) ++ (fnameS u0))) ?_; intro ev aQ
  obtain ⟨cG, cH⟩ := cE
  refine sa aQ cG ?_; intro ew aR
  refine s1 aR 4 (str ((([48] : List UInt8) ++ (fnameS u0)) ++ ([48] : List UInt8))) ?_; intro ex aS
  apply aP
  refine j_ (t_ (sqH ?_)); intro cI aT
  refine bt aS a 2 [0] [] [(34, .slice ao1 u0.Data.length cap2)] ?_; intro ey aU
  obtain ⟨cJ, cK⟩ := cH
  refine fc aU a (bof_fun u0.Data cJ ao1 cap2 _ _ hs3 a.fz) ?_; intro ez eA aV l
  refine bt aV l 5 [] [] [(5, str (bofS u0.Data).1)] ?_; intro eB aW
  apply aT
  refine sqH ?_; intro cL aX
  refine bt aW l 3 [] [] [(38, str ((([48] : List UInt8) ++ (fnameS u0)) ++ ([48] : List UInt8))), (40, y6 (wu64 (sindexS fsizes (u0.Data.length : Int))))] ?_; intro eC aY
  obtain ⟨cM, cN⟩ := cK
  refine fc aY l (bwrite_fun (wu64 (sindexS fsizes (u0.Data.length : Int))) 4 cM _ _ l.fz) ?_; intro eD eE aZ cO
  obtain ⟨cP, cQ⟩ := cN
  refine sa aZ cP ?_; intro eF a1
  refine s1 a1 43 (str (bofS u0.Data).1) ?_; intro eG a2
  obtain ⟨cR, cT⟩ := cQ
  refine sa a2 cR ?_; intro eH a3
  refine s1 a3 2 (str ((((([48] : List UInt8) ++ (fnameS u0)) ++ ([48] : List UInt8)) ++ (bwriteS (wu64 (sindexS fsizes (u0.Data.length : Int))) 4)) ++ (bofS u0.Data).1)) ?_; intro eI cU
  apply aX
  exact r_ (ra1 cU (str ((((([48] : List UInt8) ++ (fnameS u0)) ++ ([48] : List UInt8)) ++ (bwriteS (wu64 (sindexS fsizes (u0.Data.length : Int))) 4)) ++ (bofS u0.Data).1)) ⟨(((([48] : List UInt8) ++ (fnameS u0)) ++ ([48] : List UInt8)) ++ (bwriteS (wu64 (sindexS fsizes (u0.Data.length : Int))) 4)) ++ (bofS u0.Data).1, rfl, cT, cO.below⟩)
 refine k_ (sqH ?_); intro cW a4
 refine l2 f c 17 0 0 6 (e24C u0 ao1 cap2) rfl rfl ?_; intro eJ a5
 obtain ⟨cX, cY⟩ := cV
 refine fc a5 c (fname_fun u0 cX ao1 cap2 _ _ hs3 c.fz) ?_; intro eK eL a6 b
 obtain ⟨cZ, z⟩ := cY
 refine sa a6 cZ ?_; intro eM a8
 refine s1 a8 4 (str (([48] : List UInt8) ++ (fnameS u0))) ?_; intro eN a9
 apply a4
 refine s_ (b_ (sqB a9 b [0] [] [(22, .bool u0.Fast)] ?_)); intro eO m
 refine c_ m z (fun _ c0 => ?_) fun _ A => ?_
 ·
  refine rgH ?_; intro c1 ba
  refine s1 m 25 (str (([48] : List UInt8) ++ (fnameS u0))) ?_; intro eP bb
  obtain ⟨c2, c3⟩ := c0
  refine sa bb c2 ?_; intro eQ bc
  refine s1 bc 4 (str ((([48] : List UInt8) ++ (fnameS u0)) ++ ([49, 48, 49, 48] : List UInt8))) ?_; intro eR bd
  apply ba
  refine j_ (t_ (sqH ?_)); intro c4 be
  refine bt bd b 2 [0] [] [(34, .slice ao1 u0.Data.length cap2)] ?_; intro eT bf
  obtain ⟨c5, c6⟩ := c3
  refine fc bf b (bof_fun u0.Data c5 ao1 cap2 _ _ hs3 b.fz) ?_; intro eU eV bg n
  refine bt bg n 5 [] [] [(5, str (bofS u0.Data).1)] ?_; intro eW bh
  apply be
  refine sqH ?_; intro c7 bi
  refine bt bh n 3 [] [] [(38, str ((([48] : List UInt8) ++ (fnameS u0)) ++ ([49, 48, 49, 48] : List UInt8))), (40, y6 (wu64 u0.Size))] ?_; intro eX bj
  obtain ⟨c8, c9⟩ := c6
  refine fc bj n (bwrite_fun (wu64 u0.Size) 4 c8 _ _ n.fz) ?_; intro eY eZ bk da
  obtain ⟨db, dc⟩ := c9
  refine sa bk db ?_; intro e0 bl
  refine s1 bl 43 (str (bofS u0.Data).1) ?_; intro e1 bm
  obtain ⟨dd, de⟩ := dc
  refine sa bm dd ?_; intro e2 bn
  refine s1 bn 2 (str ((((([48] : List UInt8) ++ (fnameS u0)) ++ ([49, 48, 49, 48] : List UInt8)) ++ (bwriteS (wu64 u0.Size) 4)) ++ (bofS u0.Data).1)) ?_; intro e3 df
  apply bi
  exact r_ (ra1 df (str ((((([48] : List UInt8) ++ (fnameS u0)) ++ ([49, 48, 49, 48] : List UInt8)) ++ (bwriteS (wu64 u0.Size) 4)) ++ (bofS u0.Data).1)) ⟨(((([48] : List UInt8) ++ (fnameS u0)) ++ ([49, 48, 49, 48] : List UInt8)) ++ (bwriteS (wu64 u0.Size) 4)) ++ (bofS u0.Data).1, rfl, de, da.below⟩)
 refine sqB m b [0] [] [(27, .bool u0.Long)] ?_; intro e4 o
 refine c_ o A (fun _ dg => ?_) fun _ dx => ?_
 ·
  refine rgH ?_; intro dh bo
  refine s1 o 30 (str (([48] : List UInt8) ++ (fnameS u0))) ?_; intro e5 bp
  obtain ⟨di, dj⟩ := dg
  refine sa bp di ?_; intro e6 bq
  refine s1 bq 4 (str ((([48] : List UInt8) ++ (fnameS u0)) ++ ([48, 48] : List UInt8))) ?_; intro e7 br
  apply bo
  refine j_ (t_ (sqH ?_)); intro dk bs
  refine bt br b 2 [0] [] [(34, .slice ao1 u0.Data.length cap2)] ?_; intro e8 bu
  obtain ⟨dl, dm⟩ := dj
  refine fc bu b (bof_fun u0.Data dl ao1 cap2 _ _ hs3 b.fz) ?_; intro e9 fa bv p
  refine bt bv p 5 [] [] [(5, str (bofS u0.Data).1)] ?_; intro fb bw
  apply bs
  refine sqH ?_; intro dn bx
  refine bt bw p 3 [] [] [(38, str ((([48] : List UInt8) ++ (fnameS u0)) ++ ([48, 48] : List UInt8))), (40, y6 (wu64 u0.Size))] ?_; intro fd bz
  obtain ⟨dp, dq⟩ := dm
  refine fc bz p (bwrite_fun (wu64 u0.Size) 4 dp _ _ p.fz) ?_; intro fe ff bA dr
  obtain ⟨ds, dt⟩ := dq
  refine sa bA ds ?_; intro fg bB
  refine s1 bB 43 (str (bofS u0.Data).1) ?_; intro fh bC
  obtain ⟨du, dv⟩ := dt
  refine sa bC du ?_; intro fi bD
  refine s1 bD 2 (str ((((([48] : List UInt8) ++ (fnameS u0)) ++ ([48, 48] : List UInt8)) ++ (bwriteS (wu64 u0.Size) 4)) ++ (bofS u0.Data).1)) ?_; intro fj dw
  apply bx
  exact r_ (ra1 dw (str ((((([48] : List UInt8) ++ (fnameS u0)) ++ ([48, 48] : List UInt8)) ++ (bwriteS (wu64 u0.Size) 4)) ++ (bofS u0.Data).1)) ⟨(((([48] : List UInt8) ++ (fnameS u0)) ++ ([48, 48] : List UInt8)) ++ (bwriteS (wu64 u0.Size) 4)) ++ (bofS u0.Data).1, rfl, dv, dr.below⟩)
 refine rgH ?_; intro dy bE
 refine s1 o 20 (str (([48] : List UInt8) ++ (fnameS u0))) ?_; intro fk bF
 obtain ⟨dz, dA⟩ := dx
 refine sa bF dz ?_; intro fl bG
 refine s1 bG 4 (str ((([48] : List UInt8) ++ (fnameS u0)) ++ ([48] : List UInt8))) ?_; intro fm bH
 apply bE
 refine j_ (t_ (sqH ?_)); intro dB bI
 refine bt bH b 2 [0] [] [(34, .slice ao1 u0.Data.length cap2)] ?_; intro fn bJ
 obtain ⟨dC, dD⟩ := dA
 refine fc bJ b (bof_fun u0.Data dC ao1 cap2 _ _ hs3 b.fz) ?_; intro fo fp bK q
 refine bt bK q 5 [] [] [(5, str (bofS u0.Data).1)] ?_; intro fq bL
 apply bI
 refine sqH ?_; intro dE bM
 refine bt bL q 3 [] [] [(38, str ((([48] : List UInt8) ++ (fnameS u0)) ++ ([48] : List UInt8))), (40, y6 (wu64 u0.Size))] ?_; intro fr bN
 obtain ⟨dF, dG⟩ := dD
 refine fc bN q (bwrite_fun (wu64 u0.Size) 4 dF _ _ q.fz) ?_; intro fs ft bO dH
 obtain ⟨dI, dJ⟩ := dG
 refine sa bO dI ?_; intro fu bP
 refine s1 bP 43 (str (bofS u0.Data).1) ?_; intro fv bQ
 obtain ⟨dK, dL⟩ := dJ
 refine sa bQ dK ?_; intro fw bR
 refine s1 bR 2 (str ((((([48] : List UInt8) ++ (fnameS u0)) ++ ([48] : List UInt8)) ++ (bwriteS (wu64 u0.Size) 4)) ++ (bofS u0.Data).1)) ?_; intro fx dM
 apply bM
 exact r_ (ra1 dM (str ((((([48] : List UInt8) ++ (fnameS u0)) ++ ([48] : List UInt8)) ++ (bwriteS (wu64 u0.Size) 4)) ++ (bofS u0.Data).1)) ⟨(((([48] : List UInt8) ++ (fnameS u0)) ++ ([48] : List UInt8)) ++ (bwriteS (wu64 u0.Size) 4)) ++ (bofS u0.Data).1, rfl, dL, dH.below⟩)

theorem rSame_walk (u0 : Frame) (u1 : Frame) (ao1 : Option Addr) (cap2 : Nat) (ao4 : Option Addr) (cap5 : Nat) (Z : Fz) (w : World) (hs3 : SlR t8 Z ao1 cap2 u0.Data) (hs6 : SlR t8 Z ao4 cap5 u1.Data) (hZ : Z.on w) {K : Bool → Prop} (hp : rSame_vc u0 u1 K) : Calls Tryz.prog 10 #[.agg #[i6 u0.ID, .bool u0.Long, .bool u0.Fast, .bool u0.Remote, i6 u0.Size, .slice ao1 u0.Data.length cap2], .agg #[i6 u1.ID, .bool u1.Long, .bool u1.Fast, .bool u1.Remote, i6 u1.Size, .slice ao4 u1.Data.length cap5]] w fun e w' => ∃ r : Bool, e = .returned (.bool r) ∧ K r ∧ Below w.heap.size w w' := by
 refine enter0 Tryz.func10 rfl rfl (by kernel_rfl) ?_; intro a0 z; have A := Mem.start w Z hZ
 have ao := hp (hs3.small) (hs6.small)
 refine sqH ?_; intro ap C
 refine nw z A pb (e24C u0 ao1 cap2) 24 ?_; intro c aw ax D E
 refine nw D E pb (e24C u1 ao4 cap5) 24 ?_; intro d ay az F a
 refine s1 F 4 (.bool false) ?_; intro aA G
 apply C
 refine sqH ?_; intro aq H
 refine s1 G 5 (pt c 0) ?_; intro aB I
 refine l1 I a 6 1 0 (i6 u0.ID) rfl rfl ?_; intro aC J
 refine s1 J 7 (pt d 0) ?_; intro aD L
 refine l1 L a 8 0 0 (i6 u1.ID) rfl rfl ?_; intro aE M
 refine s1 M 9 (.bool (u0.ID == u1.ID)) ?_; intro aF N
 refine s1 N 10 (.bool (u0.ID == u1.ID)) ?_; intro aG O
 have P := O.atom ((u0.ID == u1.ID) == true) (by kernel_rfl)
 refine gp P 11 0 [] (u0.ID == u1.ID) (pt c 1) rfl rfl ?_; intro aH f
 refine gd f (.bool u0.Long) (m := 0) (cj := []) (bj := u0.ID == u1.ID) rfl rfl (by kernel_rfl) rfl (by kernel_rfl) (by kernel_rfl) (by kernel_rfl) (fun hg => ld f a 1 (g := [0]) (b := c) (off := 1) (cs := (e24C u0 ao1 cap2)) (ty := 24) rfl (by kernel_rfl) (by kernel_rfl) (by kernel_rfl) (by kernel_rfl) hg) ?_; intro aI Q
 refine gp Q 13 0 [] (u0.ID == u1.ID) (pt d 1) rfl rfl ?_; intro aJ h
 refine gd h (.bool u1.Long) (m := 0) (cj := []) (bj := u0.ID == u1.ID) rfl rfl (by kernel_rfl) rfl (by kernel_rfl) (by kernel_rfl) (by kernel_rfl) (fun hg => ld h a 0 (g := [0]) (b := d) (off := 1) (cs := (e24C u1 ao4 cap5)) (ty := 24) rfl (by kernel_rfl) (by kernel_rfl) (by kernel_rfl) (by kernel_rfl) hg) ?_; intro aK R
 refine gp R 15 0 [] (u0.ID == u1.ID) (.bool (u0.Long == u1.Long)) rfl rfl ?_; intro aL i
 refine u_ i (.bool ((u0.ID == u1.ID) && (u0.Long == u1.Long))) (pk_and i (g := []) (m := 0) (b := u0.ID == u1.ID) (v := u0.Long == u1.Long) rfl (by kernel_rfl) (by kernel_rfl) (by kernel_rfl) rfl) ?_; intro aM S
 refine s1 S 17 (.bool ((u0.ID == u1.ID) && (u0.Long == u1.Long))) ?_; intro aN T
 have U := T.atom (((u0.ID == u1.ID) && (u0.Long == u1.Long)) == true) (by kernel_rfl)
 refine gp U 18 1 [] ((u0.ID == u1.ID) && (u0.Long == u1.Long)) (pt c 2) rfl rfl ?_; intro aO j
 refine gd j (.bool u0.Fast) (m := 1) (cj := []) (bj := (u0.ID == u1.ID) && (u0.Long == u1.Long)) rfl rfl (by kernel_rfl) rfl (by kernel_rfl) (by kernel_rfl) (by kernel_rfl) (fun hg => ld j a 1 (g := [1]) (b := c) (off := 2) (cs := (e24C u0 ao1 cap2)) (ty := 24) rfl (by kernel_rfl) (by kernel_rfl) (by kernel_rfl) (by kernel_rfl) hg) ?_; intro aP V
 refine gp V 20 1 [] ((u0.ID == u1.ID) && (u0.Long == u1.Long)) (pt d 2) rfl rfl ?_; intro aQ k
 refine gd k (.bool u1.Fast) (m := 1) (cj := []) (bj := (u0.ID == u1.ID) && (u0.Long == u1.Long)) rfl rfl (by kernel_rfl) rfl (by kernel_rfl) (by kernel_rfl) (by kernel_rfl) (fun hg => ld k a 0 (g := [1]) (b := d) (off := 2) (cs := (e24C u1 ao4 cap5)) (ty := 24) rfl (by kernel_rfl) (by kernel_rfl) (by kernel_rfl) (by kernel_rfl) hg) ?_; intro aR W
 refine gp W 22 1 [] ((u0.ID == u1.ID) && (u0.Long == u1.Long)) (.bool (u0.Fast == u1.Fast)) rfl rfl ?_; intro aS l
 refine u_ l (.bool (((u0.ID == u1.ID) && (u0.Long == u1.Long)) && (u0.Fast == u1.Fast))) (pk_and l (g := []) (m := 1) (b := (u0.ID == u1.ID) && (u0.Long == u1.Long)) (v := u0.Fast == u1.Fast) rfl (by kernel_rfl) (by kernel_rfl) (by kernel_rfl) rfl) ?_; intro aT X
 refine s1 X 24 (.bool (((u0.ID == u1.ID) && (u0.Long == u1.Long)) && (u0.Fast == u1.Fast))) ?_; intro aU Y
 have aa := Y.atom ((((u0.ID == u1.ID) && (u0.Long == u1.Long)) && (u0.Fast == u1.Fast)) == true) (by kernel_rfl)
 refine gp aa 25 2 [] (((u0.ID == u1.ID) && (u0.Long == u1.Long)) && (u0.Fast == u1.Fast)) (pt c 3) rfl rfl ?_; intro aV n
 refine gd n (.bool u0.Remote) (m := 2) (cj := []) (bj := ((u0.ID == u1.ID) && (u0.Long == u1.Long)) && (u0.Fast == u1.Fast)) rfl rfl (by kernel_rfl) rfl (by kernel_rfl) (by kernel_rfl) (by kernel_rfl) (fun hg => ld n a 1 (g := [2]) (b := c) (off := 3) (cs := (e24C u0 ao1 cap2)) (ty := 24) rfl (by kernel_rfl) (by kernel_rfl) (by kernel_rfl) (by kernel_rfl) hg) ?_; intro aW ab
 refine gp ab 27 2 [] (((u0.ID == u1.ID) && (u0.Long == u1.Long)) && (u0.Fast == u1.Fast)) (pt d 3) rfl rfl ?_; intro aX o
 refine gd o (.bool u1.Remote) (m := 2) (cj := []) (bj := ((u0.ID == u1.ID) && (u0.Long == u1.Long)) && (u0.Fast == u1.Fast)) rfl rfl (by kernel_rfl) rfl (by kernel_rfl) (by kernel_rfl) (by kernel_rfl) (fun hg => ld o a 0 (g := [2]) (b := d) (off := 3) (cs := (e24C u1 ao4 cap5)) (ty := 24) rfl (by kernel_rfl) (by kernel_rfl) (by kernel_rfl) (by kernel_rfl) hg) ?_; intro aY ac
 refine gp ac 29 2 [] (((u0.ID == u1.ID) && (u0.Long == u1.Long)) && (u0.Fast == u1.Fast)) (.bool (u0.Remote == u1.Remote)) rfl rfl ?_; intro aZ p
 refine u_ p (.bool ((((u0.ID == u1.ID) && (u0.Long == u1.Long)) && (u0.Fast == u1.Fast)) && (u0.Remote == u1.Remote))) (pk_and p (g := []) (m := 2) (b := ((u0.ID == u1.ID) && (u0.Long == u1.Long)) && (u0.Fast == u1.Fast)) (v := u0.Remote == u1.Remote) rfl (by kernel_rfl) (by kernel_rfl) (by kernel_rfl) rfl) ?_; intro a1 ad
 refine s1 ad 31 (.bool ((((u0.ID == u1.ID) && (u0.Long == u1.Long)) && (u0.Fast == u1.Fast)) && (u0.Remote == u1.Remote))) ?_; intro a2 ae
 have af := ae.atom (((((u0.ID == u1.ID) && (u0.Long == u1.Long)) && (u0.Fast == u1.Fast)) && (u0.Remote == u1.Remote)) == true) (by kernel_rfl)
 refine gp af 32 3 [] ((((u0.ID == u1.ID) && (u0.Long == u1.Long)) && (u0.Fast == u1.Fast)) && (u0.Remote == u1.Remote)) (pt c 4) rfl rfl ?_; intro a3 q
 refine gd q (i6 u0.Size) (m := 3) (cj := []) (bj := (((u0.ID == u1.ID) && (u0.Long == u1.Long)) && (u0.Fast == u1.Fast)) && (u0.Remote == u1.Remote)) rfl rfl (by kernel_rfl) rfl (by kernel_rfl) (by kernel_rfl) (by kernel_rfl) (fun hg => ld q a 1 (g := [3]) (b := c) (off := 4) (cs := (e24C u0 ao1 cap2)) (ty := 24) rfl (by kernel_rfl) (by kernel_rfl) (by kernel_rfl) (by kernel_rfl) hg) ?_; intro a4 ag
 refine gp ag 34 3 [] ((((u0.ID == u1.ID) && (u0.Long == u1.Long)) && (u0.Fast == u1.Fast)) && (u0.Remote == u1.Remote)) (pt d 4) rfl rfl ?_; intro a5 s
 refine gd s (i6 u1.Size) (m := 3) (cj := []) (bj := (((u0.ID == u1.ID) && (u0.Long == u1.Long)) && (u0.Fast == u1.Fast)) && (u0.Remote == u1.Remote)) rfl rfl (by kernel_rfl) rfl (by kernel_rfl) (by kernel_rfl) (by kernel_rfl) (fun hg => ld s a 0 (g := [3]) (b := d) (off := 4) (cs := (e24C u1 ao4 cap5)) (ty := 24) rfl (by kernel_rfl) (by kernel_rfl) (by kernel_rfl) (by kernel_rfl) hg) ?_; intro a6 ah
 refine gp ah 36 3 [] ((((u0.ID == u1.ID) && (u0.Long == u1.Long)) && (u0.Fast == u1.Fast)) && (u0.Remote == u1.Remote)) (.bool (u0.Size == u1.Size)) rfl rfl ?_; intro a7 t
 refine u_ t (.bool (((((u0.ID == u1.ID) && (u0.Long == u1.Long)) && (u0.Fast == u1.Fast)) && (u0.Remote == u1.Remote)) && (u0.Size == u1.Size))) (pk_and t (g := []) (m := 3) (b := (((u0.ID == u1.ID) && (u0.Long == u1.Long)) && (u0.Fast == u1.Fast)) && (u0.Remote == u1.Remote)) (v := u0.Size == u1.Size) rfl (by kernel_rfl) (by kernel_rfl) (by kernel_rfl) rfl) ?_; intro a8 ai
 refine s1 ai 38 (.bool (((((u0.ID == u1.ID) && (u0.Long == u1.Long)) && (u0.Fast == u1.Fast)) && (u0.Remote == u1.Remote)) && (u0.Size == u1.Size))) ?_; intro a9 aj
 have ak := aj.atom ((((((u0.ID == u1.ID) && (u0.Long == u1.Long)) && (u0.Fast == u1.Fast)) && (u0.Remote == u1.Remote)) && (u0.Size == u1.Size)) == true) (by kernel_rfl)
 refine gp ak 39 4 [] (((((u0.ID == u1.ID) && (u0.Long == u1.Long)) && (u0.Fast == u1.Fast)) && (u0.Remote == u1.Remote)) && (u0.Size == u1.Size)) (pt c 5) rfl rfl ?_; intro ba u
 refine gd u (.slice ao1 u0.Data.length cap2) (m := 4) (cj := []) (bj := ((((u0.ID == u1.ID) && (u0.Long == u1.Long)) && (u0.Fast == u1.Fast)) && (u0.Remote == u1.Remote)) && (u0.Size == u1.Size)) rfl rfl (by kernel_rfl) rfl (by kernel_rfl) (by kernel_rfl) (by kernel_rfl) (fun hg => ld u a 1 (g := [4]) (b := c) (off := 5) (cs := (e24C u0 ao1 cap2)) (ty := 24) rfl (by kernel_rfl) (by kernel_rfl) (by kernel_rfl) (by kernel_rfl) hg) ?_; intro bb al
 refine gp al 41 4 [] (((((u0.ID == u1.ID) && (u0.Long == u1.Long)) && (u0.Fast == u1.Fast)) && (u0.Remote == u1.Remote)) && (u0.Size == u1.Size)) (pt d 5) rfl rfl ?_; intro bc x
 refine gd x (.slice ao4 u1.Data.length cap5) (m := 4) (cj := []) (bj := ((((u0.ID == u1.ID) && (u0.Long == u1.Long)) && (u0.Fast == u1.Fast)) && (u0.Remote == u1.Remote)) && (u0.Size == u1.Size)) rfl rfl (by kernel_rfl) rfl (by kernel_rfl) (by kernel_rfl) (by kernel_rfl) (fun hg => ld x a 0 (g := [4]) (b := d) (off := 5) (cs := (e24C u1 ao4 cap5)) (ty := 24) rfl (by kernel_rfl) (by kernel_rfl) (by kernel_rfl) (by kernel_rfl) hg) ?_; intro bd am
 refine gcl am a (.bool (beqS u0.Data u1.Data)) 38 #[.slice ao1 u0.Data.length cap2, .slice ao4 u1.Data.length cap5] (m := 4) (cj := []) (bj := ((((u0.ID == u1.ID) && (u0.Long == u1.Long)) && (u0.Fast == u1.Fast)) && (u0.Remote == u1.Remote)) && (u0.Size == u1.Size)) rfl rfl (by kernel_rfl) rfl (by kernel_rfl) (by kernel_rfl) (by kernel_rfl) (fun _ => by kernel_rfl) (fun hg => beq_fun u0.Data u1.Data ao1 cap2 ao4 cap5 _ _ hs3 hs6 a.fz) ?_; intro be bf y ar
 refine u_ y (.bool ((((((u0.ID == u1.ID) && (u0.Long == u1.Long)) && (u0.Fast == u1.Fast)) && (u0.Remote == u1.Remote)) && (u0.Size == u1.Size)) && (beqS u0.Data u1.Data))) (pk_and y (g := []) (m := 4) (b := ((((u0.ID == u1.ID) && (u0.Long == u1.Long)) && (u0.Fast == u1.Fast)) && (u0.Remote == u1.Remote)) && (u0.Size == u1.Size)) (v := (beqS u0.Data u1.Data)) rfl (by kernel_rfl) (by kernel_rfl) (by kernel_rfl) rfl) ?_; intro bg an
 refine s1 an 4 (.bool ((((((u0.ID == u1.ID) && (u0.Long == u1.Long)) && (u0.Fast == u1.Fast)) && (u0.Remote == u1.Remote)) && (u0.Size == u1.Size)) && (beqS u0.Data u1.Data))) ?_; intro bh au
 apply H
 exact r_ (ra1 au (.bool ((((((u0.ID == u1.ID) && (u0.Long == u1.Long)) && (u0.Fast == u1.Fast)) && (u0.Remote == u1.Remote)) && (u0.Size == u1.Size)) && (beqS u0.Data u1.Data))) ⟨(((((u0.ID == u1.ID) && (u0.Long == u1.Long)) && (u0.Fast == u1.Fast)) && (u0.Remote == u1.Remote)) && (u0.Size == u1.Size)) && (beqS u0.Data u1.Data), rfl, ao, ar.below⟩)

theorem rfail_walk (u0 : FReader) (u1 : Int) (b1 : Nat) (ao2 : Option Addr) (cap3 : Nat) (B : Nat) (w0 : World) (Z0 : Fz) (Rr : List Res) (Z : Fz) (w : World) (hs4 : SlR t8 Z ao2 cap3 u0.f.Data) (hM0 : Mem B [] w0 Z0 ((.row b1 [str u0.Reader.Row, i6 u0.Reader.At, i6 u0.Reader.Code, y8 u0.Reader.c.last, i6 u0.Reader.c.n, i6 u0.f.ID, .bool u0.f.Long, .bool u0.f.Fast, .bool u0.f.Remote, i6 u0.f.Size, .slice ao2 u0.f.Data.length cap3] 46) :: Rr) Z w) (hZ : Z.on w) {K : FReader → Prop} (hp : rfail_vc u0 u1 K) : Calls Tryz.prog 19 #[pt b1 0, i6 u1] w fun e w' => ∃ (r : FReader) (ao1001 : Option Addr) (cap1002 : Nat) (Z' : Fz), e = .returned (.tuple #[]) ∧ K r ∧ Fz.le Z Z' ∧ SlR t8 Z' ao1001 cap1002 r.f.Data ∧ Mem B [] w0 Z0 ((.row b1 [str r.Reader.Row, i6 r.Reader.At, i6 r.Reader.Code, y8 r.Reader.c.last, i6 r.Reader.c.n, i6 r.f.ID, .bool r.f.Long, .bool r.f.Fast, .bool r.f.Remote, i6 r.f.Size, .slice ao1001 r.f.Data.length cap1002] 46) :: Rr) Z' w' := by
 refine enter0 Tryz.func19 rfl rfl (by kernel_rfl) ?_; intro s h; have i := Fz.le.refl Z
 have b := hp (hs4.small)
 refine sqB h hM0 [0] [] [(9, .bool (u0.Reader.Code == 0))] ?_; intro u a
 refine c_ a b (fun _ l => ?_) fun _ q => ?_
 ·
  refine rgH ?_; intro m j
  refine bt a hM0 5 [] [] [(11, i6 u1), (14, pt b1 2)] ?_; intro x g
  refine sx g hM0 0 [str u0.Reader.Row, i6 u0.Reader.At, i6 u1, y8 u0.Reader.c.last, i6 u0.Reader.c.n, i6 u0.f.ID, .bool u0.f.Long, .bool u0.f.Fast, .bool u0.f.Remote, i6 u0.f.Size, .slice ao2 u0.f.Data.length cap3] 2 ?_; intro o k
  have p : Mem B [] w0 Z0 ((.row b1 [str u0.Reader.Row, i6 u0.Reader.At, i6 u1, y8 u0.Reader.c.last, i6 u0.Reader.c.n, i6 u0.f.ID, .bool u0.f.Long, .bool u0.f.Fast, .bool u0.f.Remote, i6 u0.f.Size, .slice ao2 u0.f.Data.length cap3] 46) :: Rr) Z o := k
  apply j
  refine rN (fn := Tryz.f19) (v := .tuple #[]) g (re0 g (fn := Tryz.f19) rfl) ?_
  exact ⟨(⟨(⟨u0.Reader.Row, u0.Reader.At, u1, u0.Reader.c⟩ : Reader), u0.f⟩ : FReader), ao2, cap3, Z, rfl, l, i, hs4, p.kp⟩
 refine l_ (rN (fn := Tryz.f19) (v := .tuple #[]) a (re0 a (fn := Tryz.f19) rfl) ?_)
 exact ⟨u0, ao2, cap3, Z, rfl, q, i, hs4, hM0.kp⟩

end Go.Proofs.YtmnlahbngbigdaaGreatDoor
set_option linter.unusedVariables false
set_option linter.unusedSimpArgs false
set_option linter.defProp false
set_option maxRecDepth 100000
set_option maxHeartbeats 0
namespace Go.Proofs.YtmnlahbngbigdaaGreatDoor
open Go.Sy Go.RowKit
abbrev e46D (X : FReader) (A0 : Option Addr) (C0 : Nat) : List Value := [str X.Reader.Row, i6 X.Reader.At, i6 X.Reader.Code, y8 X.Reader.c.last, i6 X.Reader.c.n, i6 X.f.ID, .bool X.f.Long, .bool X.f.Fast, .bool X.f.Remote, i6 X.f.Size, .slice A0 X.f.Data.length C0]
def rfail_fun (u0 : FReader) (u1 : Int) (b1 : Nat) (ao2 : Option Addr) (cap3 : Nat) (B : Nat) (w0 : World) (Z0 : Fz) (Rr : List Res) (Z : Fz) (w : World) (hs4 : SlR t8 Z ao2 cap3 u0.f.Data) (hM0 : Mem B [] w0 Z0 ((.row b1 [str u0.Reader.Row, i6 u0.Reader.At, i6 u0.Reader.Code, y8 u0.Reader.c.last, i6 u0.Reader.c.n, i6 u0.f.ID, .bool u0.f.Long, .bool u0.f.Fast, .bool u0.f.Remote, i6 u0.f.Size, .slice ao2 u0.f.Data.length cap3] 46) :: Rr) Z w) (hZ : Z.on w) := fc_ (rfail_walk u0 u1 b1 ao2 cap3 B w0 Z0 Rr Z w hs4 hM0 hZ (rfail_ok u0 u1))
theorem rfail_funK (u0 : FReader) (u1 : Int) (b1 : Nat) (ao2 : Option Addr) (cap3 : Nat) (B : Nat) (w0 : World) (Z0 : Fz) (Rr : List Res) (Z : Fz) (w : World) (hs4 : SlR t8 Z ao2 cap3 u0.f.Data) (hM0 : Mem B [] w0 Z0 ((.row b1 [str u0.Reader.Row, i6 u0.Reader.At, i6 u0.Reader.Code, y8 u0.Reader.c.last, i6 u0.Reader.c.n, i6 u0.f.ID, .bool u0.f.Long, .bool u0.f.Fast, .bool u0.f.Remote, i6 u0.f.Size, .slice ao2 u0.f.Data.length cap3] 46) :: Rr) Z w) (hZ : Z.on w) : Calls Tryz.prog 19 #[pt b1 0, i6 u1] w fun e w' => ∃ (ao1001 : Option Addr) (cap1002 : Nat) (Z' : Fz), e = .returned (.tuple #[]) ∧ Fz.le Z Z' ∧ SlR t8 Z' ao1001 cap1002 u0.f.Data ∧ Mem B [] w0 Z0 ((.row b1 [str (rfailS u0 u1).Reader.Row, i6 (rfailS u0 u1).Reader.At, i6 (rfailS u0 u1).Reader.Code, y8 (rfailS u0 u1).Reader.c.last, i6 (rfailS u0 u1).Reader.c.n, i6 u0.f.ID, .bool u0.f.Long, .bool u0.f.Fast, .bool u0.f.Remote, i6 u0.f.Size, .slice ao1001 u0.f.Data.length cap1002] 46) :: Rr) Z' w' :=
  (rfail_walk u0 u1 b1 ao2 cap3 B w0 Z0 Rr Z w hs4 hM0 hZ (rfail_ok u0 u1)).mono fun _ _ ⟨r, h0, h1, h2, he, hk, f0, f1, hm⟩ => by subst hk; have hkp : (rfailS u0 u1).f = u0.f := rfailS_f u0 u1; (try simp only [hkp] at *); exact ⟨h0, h1, h2, he, f0, f1, hm⟩

theorem rwant_walk (u0 : FReader) (u1 : List UInt8) (b1 : Nat) (ao2 : Option Addr) (cap3 : Nat) (B : Nat) (w0 : World) (Z0 : Fz) (Rr : List Res) (Z : Fz) (w : World) (hs4 : SlR t8 Z ao2 cap3 u0.f.Data) (hM0 : Mem B [] w0 Z0 ((.row b1 [str u0.Reader.Row, i6 u0.Reader.At, i6 u0.Reader.Code, y8 u0.Reader.c.last, i6 u0.Reader.c.n, i6 u0.f.ID, .bool u0.f.Long, .bool u0.f.Fast, .bool u0.f.Remote, i6 u0.f.Size, .slice ao2 u0.f.Data.length cap3] 46) :: Rr) Z w) (hZ : Z.on w) {K : FReader → Prop} (hp : rwant_vc u0 u1 K) : Calls Tryz.prog 45 #[pt b1 0, str u1] w fun e w' => ∃ (r : FReader) (ao1001 : Option Addr) (cap1002 : Nat) (Z' : Fz), e = .returned (.tuple #[]) ∧ K r ∧ Fz.le Z Z' ∧ SlR t8 Z' ao1001 cap1002 r.f.Data ∧ Mem B [] w0 Z0 ((.row b1 [str r.Reader.Row, i6 r.Reader.At, i6 r.Reader.Code, y8 r.Reader.c.last, i6 r.Reader.c.n, i6 r.f.ID, .bool r.f.Long, .bool r.f.Fast, .bool r.f.Remote, i6 r.f.Size, .slice ao1001 r.f.Data.length cap1002] 46) :: Rr) Z' w' := by
 refine enter0 Tryz.func45 rfl rfl (by kernel_rfl) ?_; intro a0 q; have g := Fz.le.refl Z
 have Q := hp (hs4.small)
 refine sqH ?_; intro R s
 refine bt q hM0 3 [] [] [(7, pt b1 0)] ?_; intro ac u
 obtain ⟨S, x⟩ := Q
 refine ck u 21 #[pt b1 0, i6 1] ?_
 obtain ⟨a, T, y⟩ := hxq x
 have d := rtakeF_fun u0 1 S b1 ao2 cap3 _ _ _ _ _ _ hs4 hM0 hM0.fz; rw [T] at d; refine d.mono ?_; rintro _ U ⟨l, m, z, rfl, A, h, hm⟩; refine ⟨_, rfl, ?_⟩; intro ad C; have D := hm
 replace g := Fz.le.trans g A
 have i : Mem B [] w0 Z0 ((.row b1 (e46D a.2 l m) 46) :: Rr) z U := D
 have k := y (h.small)
 refine s1 C 4 (str a.1) ?_; intro ae E
 apply s
 refine sqB E i [0] [40] [(19, .bool ((a.2.Reader.Code == 0) && (a.1 != u1)))] ?_; intro af j
 refine cd j (t := (a.2.Reader.Code == 0) && (a.1 != u1)) (by kernel_rfl) (fun o => ?_) (fun o => ?_)
 · -- yes
  have F := k.1 o
  refine rgH ?_; intro V G
  refine s1 j 20 (pt b1 0) ?_; intro ag H
  refine ck H 19 #[pt b1 0, i6 4] ?_
  obtain ⟨b, W, I⟩ := hxq F
  have d := rfail_fun a.2 4 b1 l m _ _ _ _ _ _ h i i.fz; rw [W] at d; refine d.mono ?_; rintro _ X ⟨J, L, M, rfl, p, N, hm⟩; refine ⟨_, rfl, ?_⟩; intro ah O; have P := hm
  replace g := Fz.le.trans g p
  have Y : Mem B [] w0 Z0 ((.row b1 (e46D b J L) 46) :: Rr) M X := P
  have aa := I (N.small)
  apply G
  refine rN (fn := Tryz.f45) (v := .tuple #[]) O (re0 O (fn := Tryz.f45) rfl) ?_
  exact ⟨b, J, L, M, rfl, aa, g, N, Y.kp⟩
 · -- no
  have ab := k.2 o
  refine l_ (rN (fn := Tryz.f45) (v := .tuple #[]) j (re0 j (fn := Tryz.f45) rfl) ?_)
  exact ⟨a.2, l, m, z, rfl, ab, g, h, i.kp⟩

theorem rnumber_walk (u0 : FReader) (u1 : Int) (b1 : Nat) (ao2 : Option Addr) (cap3 : Nat) (B : Nat) (w0 : World) (Z0 : Fz) (Rr : List Res) (Z : Fz) (w : World) (hs4 : SlR t8 Z ao2 cap3 u0.f.Data) (hM0 : Mem B [] w0 Z0 ((.row b1 [str u0.Reader.Row, i6 u0.Reader.At, i6 u0.Reader.Code, y8 u0.Reader.c.last, i6 u0.Reader.c.n, i6 u0.f.ID, .bool u0.f.Long, .bool u0.f.Fast, .bool u0.f.Remote, i6 u0.f.Size, .slice ao2 u0.f.Data.length cap3] 46) :: Rr) Z w) (hZ : Z.on w) {K : (Int × FReader) → Prop} (hp : rnumber_vc u0 u1 K) : Calls Tryz.prog 18 #[pt b1 0, i6 u1] w fun e w' => ∃ (r : Int × FReader) (ao1001 : Option Addr) (cap1002 : Nat) (Z' : Fz), e = .returned (i6 r.1) ∧ K r ∧ Fz.le Z Z' ∧ SlR t8 Z' ao1001 cap1002 r.2.f.Data ∧ Mem B [] w0 Z0 ((.row b1 [str r.2.Reader.Row, i6 r.2.Reader.At, i6 r.2.Reader.Code, y8 r.2.Reader.c.last, i6 r.2.Reader.c.n, i6 r.2.f.ID, .bool r.2.f.Long, .bool r.2.f.Fast, .bool r.2.f.Remote, i6 r.2.f.Size, .slice ao1001 r.2.f.Data.length cap1002] 46) :: Rr) Z' w' := by
 refine enter0 Tryz.func18 rfl rfl (by kernel_rfl) ?_; intro U p; have g := Fz.le.refl Z
 have H := hp (hs4.small)
 refine sqB p hM0 [] [] [] ?_; intro V q
 refine sqH ?_; intro I s
 refine bt q hM0 4 [] [] [(8, pt b1 0), (9, i6 u1)] ?_; intro W u
 obtain ⟨J, v⟩ := H
 refine ck u 21 #[pt b1 0, i6 u1] ?_
 obtain ⟨a, L, x⟩ := hxq v
 have i := rtakeF_fun u0 u1 J b1 ao2 cap3 _ _ _ _ _ _ hs4 hM0 hM0.fz; rw [L] at i; refine i.mono ?_; rintro _ M ⟨j, k, l, rfl, y, m, hm⟩; refine ⟨_, rfl, ?_⟩; intro X z; have A := hm
 replace g := Fz.le.trans g y
 have b : Mem B [] w0 Z0 ((.row b1 (e46D a.2 j k) 46) :: Rr) l M := A
 have h := x (m.small)
 refine s1 z 5 (str a.1) ?_; intro Y C
 apply s
 refine s_ (sqB C b [0] [] [(16, .bool (a.2.Reader.Code != 0))] ?_); intro aa d
 refine cd d (t := a.2.Reader.Code != 0) (by kernel_rfl) (fun o => ?_) (fun o => ?_)
 · -- yes
  have N := h.1 o
  refine sqB d b [] [] [(4, i6 0)] ?_; intro ab O
  exact r_ (h_ (ra1 O (i6 0) ⟨(0, a.2), j, k, l, rfl, N, g, m, b.kp⟩))
 · -- no
  have P := h.2 o
  refine k_ (sqH ?_); intro Q D
  refine s1 d 17 (str a.1) ?_; intro ac E
  obtain ⟨R, S⟩ := P
  refine fc E b (bread_fun a.1 R _ _ b.fz) ?_; intro ad ae F G
  refine bt F G 2 [] [] [(4, i6 (w64 (breadS a.1)))] ?_; intro af T
  apply D
  exact r_ (ra1 T (i6 (w64 (breadS a.1))) ⟨(w64 (breadS a.1), a.2), j, k, l, rfl, S, g, m, G.kp⟩)

end Go.Proofs.YtmnlahbngbigdaaGreatDoor
set_option linter.unusedVariables false
set_option linter.unusedSimpArgs false
set_option linter.defProp false
namespace Go.Proofs.YtmnlahbngbigdaaGreatDoor
open Go.Sy Go.RowKit
def rwant_fun (u0 : FReader) (u1 : List UInt8) (hpre : Rok u0.Reader) (b1 : Nat) (ao2 : Option Addr) (cap3 : Nat) (B : Nat) (w0 : World) (Z0 : Fz) (Rr : List Res) (Z : Fz) (w : World) (hs4 : SlR t8 Z ao2 cap3 u0.f.Data) (hM0 : Mem B [] w0 Z0 ((.row b1 [str u0.Reader.Row, i6 u0.Reader.At, i6 u0.Reader.Code, y8 u0.Reader.c.last, i6 u0.Reader.c.n, i6 u0.f.ID, .bool u0.f.Long, .bool u0.f.Fast, .bool u0.f.Remote, i6 u0.f.Size, .slice ao2 u0.f.Data.length cap3] 46) :: Rr) Z w) (hZ : Z.on w) := fc_ (rwant_walk u0 u1 b1 ao2 cap3 B w0 Z0 Rr Z w hs4 hM0 hZ (rwant_ok u0 u1 hpre))
theorem rwant_funK (u0 : FReader) (u1 : List UInt8) (hpre : Rok u0.Reader) (b1 : Nat) (ao2 : Option Addr) (cap3 : Nat) (B : Nat) (w0 : World) (Z0 : Fz) (Rr : List Res) (Z : Fz) (w : World) (hs4 : SlR t8 Z ao2 cap3 u0.f.Data) (hM0 : Mem B [] w0 Z0 ((.row b1 [str u0.Reader.Row, i6 u0.Reader.At, i6 u0.Reader.Code, y8 u0.Reader.c.last, i6 u0.Reader.c.n, i6 u0.f.ID, .bool u0.f.Long, .bool u0.f.Fast, .bool u0.f.Remote, i6 u0.f.Size, .slice ao2 u0.f.Data.length cap3] 46) :: Rr) Z w) (hZ : Z.on w) : Calls Tryz.prog 45 #[pt b1 0, str u1] w fun e w' => ∃ (ao1001 : Option Addr) (cap1002 : Nat) (Z' : Fz), e = .returned (.tuple #[]) ∧ Fz.le Z Z' ∧ SlR t8 Z' ao1001 cap1002 u0.f.Data ∧ Mem B [] w0 Z0 ((.row b1 [str (rwantS u0 u1).Reader.Row, i6 (rwantS u0 u1).Reader.At, i6 (rwantS u0 u1).Reader.Code, y8 (rwantS u0 u1).Reader.c.last, i6 (rwantS u0 u1).Reader.c.n, i6 u0.f.ID, .bool u0.f.Long, .bool u0.f.Fast, .bool u0.f.Remote, i6 u0.f.Size, .slice ao1001 u0.f.Data.length cap1002] 46) :: Rr) Z' w' :=
  (rwant_walk u0 u1 b1 ao2 cap3 B w0 Z0 Rr Z w hs4 hM0 hZ (rwant_ok u0 u1 hpre)).mono fun _ _ ⟨r, h0, h1, h2, he, hk, f0, f1, hm⟩ => by subst hk; have hkp : (rwantS u0 u1).f = u0.f := rwantS_f u0 u1; (try simp only [hkp] at *); exact ⟨h0, h1, h2, he, f0, f1, hm⟩

def rnumber_fun (u0 : FReader) (u1 : Int) (hpre : Rok u0.Reader ∧ 0 ≤ u1 ∧ u1 ≤ 62) (b1 : Nat) (ao2 : Option Addr) (cap3 : Nat) (B : Nat) (w0 : World) (Z0 : Fz) (Rr : List Res) (Z : Fz) (w : World) (hs4 : SlR t8 Z ao2 cap3 u0.f.Data) (hM0 : Mem B [] w0 Z0 ((.row b1 [str u0.Reader.Row, i6 u0.Reader.At, i6 u0.Reader.Code, y8 u0.Reader.c.last, i6 u0.Reader.c.n, i6 u0.f.ID, .bool u0.f.Long, .bool u0.f.Fast, .bool u0.f.Remote, i6 u0.f.Size, .slice ao2 u0.f.Data.length cap3] 46) :: Rr) Z w) (hZ : Z.on w) := fc_ (rnumber_walk u0 u1 b1 ao2 cap3 B w0 Z0 Rr Z w hs4 hM0 hZ (rnumber_ok u0 u1 hpre))
theorem rnumber_funK (u0 : FReader) (u1 : Int) (hpre : Rok u0.Reader ∧ 0 ≤ u1 ∧ u1 ≤ 62) (b1 : Nat) (ao2 : Option Addr) (cap3 : Nat) (B : Nat) (w0 : World) (Z0 : Fz) (Rr : List Res) (Z : Fz) (w : World) (hs4 : SlR t8 Z ao2 cap3 u0.f.Data) (hM0 : Mem B [] w0 Z0 ((.row b1 [str u0.Reader.Row, i6 u0.Reader.At, i6 u0.Reader.Code, y8 u0.Reader.c.last, i6 u0.Reader.c.n, i6 u0.f.ID, .bool u0.f.Long, .bool u0.f.Fast, .bool u0.f.Remote, i6 u0.f.Size, .slice ao2 u0.f.Data.length cap3] 46) :: Rr) Z w) (hZ : Z.on w) : Calls Tryz.prog 18 #[pt b1 0, i6 u1] w fun e w' => ∃ (ao1001 : Option Addr) (cap1002 : Nat) (Z' : Fz), e = .returned (i6 (rnumberS u0 u1).1) ∧ Fz.le Z Z' ∧ SlR t8 Z' ao1001 cap1002 u0.f.Data ∧ Mem B [] w0 Z0 ((.row b1 [str (rnumberS u0 u1).2.Reader.Row, i6 (rnumberS u0 u1).2.Reader.At, i6 (rnumberS u0 u1).2.Reader.Code, y8 (rnumberS u0 u1).2.Reader.c.last, i6 (rnumberS u0 u1).2.Reader.c.n, i6 u0.f.ID, .bool u0.f.Long, .bool u0.f.Fast, .bool u0.f.Remote, i6 u0.f.Size, .slice ao1001 u0.f.Data.length cap1002] 46) :: Rr) Z' w' :=
  (rnumber_walk u0 u1 b1 ao2 cap3 B w0 Z0 Rr Z w hs4 hM0 hZ (rnumber_ok u0 u1 hpre)).mono fun _ _ ⟨r, h0, h1, h2, he, hk, f0, f1, hm⟩ => by subst hk; have hkp : (rnumberS u0 u1).2.f = u0.f := rnumberS_f u0 u1; (try simp only [hkp] at *); exact ⟨h0, h1, h2, he, f0, f1, hm⟩

def fhead_fun (u0 : Frame) (hpre : fheadpre u0) (ao1 : Option Addr) (cap2 : Nat) (Z : Fz) (w : World) (hs3 : SlR t8 Z ao1 cap2 u0.Data) (hZ : Z.on w) := f_ (fhead_walk u0 ao1 cap2 Z w hs3 hZ (fhead_ok u0 hpre))
end Go.Proofs.YtmnlahbngbigdaaGreatDoor
set_option linter.unusedVariables false
set_option linter.unusedSimpArgs false
set_option maxRecDepth 100000
set_option maxHeartbeats 0
namespace Go.Proofs.YtmnlahbngbigdaaGreatDoor
open Go.Sy Go.RowKit
abbrev e24EfBits (X : Frame) (A0 : Option Addr) (C0 : Nat) : List Value := [i6 X.ID, .bool X.Long, .bool X.Fast, .bool X.Remote, i6 X.Size, .slice A0 X.Data.length C0]
theorem fBits_walk (u0 : Frame) (ao1 : Option Addr) (cap2 : Nat) (Z : Fz) (w : World) (hs3 : SlR t8 Z ao1 cap2 u0.Data) (hZ : Z.on w) {K : ((List UInt8) × Int) → Prop} (hp : fBits_vc u0 K) : Calls Tryz.prog 28 #[.agg #[i6 u0.ID, .bool u0.Long, .bool u0.Fast, .bool u0.Remote, i6 u0.Size, .slice ao1 u0.Data.length cap2]] w fun e w' => ∃ r : (List UInt8) × Int, e = .returned (.tuple #[str r.1, i6 r.2]) ∧ K r ∧ Below w.heap.size w w' := by
 refine enter0 Tryz.func28 rfl rfl (by kernel_rfl) ?_; intro a0 v; have x := Mem.start w Z hZ
 have k := hp (hs3.small)
 refine sqH ?_; intro aB y
 refine nw v x pb (e24EfBits u0 ao1 cap2) 24 ?_; intro b6 a7 bf z f
 refine bt z f 2 [] [] [] ?_; intro bg A
 apply y
 refine s_ (sqH ?_); intro aC B
 refine l2 A f 17 0 0 6 (e24EfBits u0 ao1 cap2) rfl rfl ?_; intro bh C
 refine fc C f (fcheckfr_fun u0 ao1 cap2 _ _ hs3 f.fz) ?_; intro bi bj D b
 refine s1 D 4 (i6 (fcheckfr u0)) ?_; intro bk E
 apply B
 refine sqB E b [] [] [(20, .bool ((fcheckfr u0) != 0))] ?_; intro bl g
 refine cd g (t := (fcheckfr u0) != 0) (by kernel_rfl) (fun p => ?_) (fun p => ?_)
 · -- yes
  have aD := k.1 p
  refine sqB g b [] [] [(2, str []), (3, i6 (fcheckfr u0))] ?_; intro bm aE
  exact r_ (h_ (ra2 aE (.tuple #[str [], i6 (fcheckfr u0)]) ⟨([], (fcheckfr u0)), rfl, aD, b.below⟩))
 · -- no
  have aF := k.2 p
  refine k_ (sqH ?_); intro aG F
  refine l2 g b 22 0 0 6 (e24EfBits u0 ao1 cap2) rfl rfl ?_; intro bn G
  obtain ⟨aH, l⟩ := aF
  refine fc G b (fhead_fun u0 aH ao1 cap2 _ _ hs3 b.fz) ?_; intro bo bp H c
  refine s1 H 5 (str (fheadS u0)) ?_; intro bq I
  apply F
  refine s_ (sqB I c [0] [] [(26, .bool (!u0.Fast))] ?_); intro br h
  refine cd h (t := !u0.Fast) (by kernel_rfl) (fun s => ?_) (fun s => ?_)
  · -- yes
   have aI := l.1 s
   refine sqH ?_; intro aJ J
   refine s1 h 28 (str (fheadS u0)) ?_; intro bs L
   refine fc L c (csum_fun 0 (fheadS u0) _ _ c.fz) ?_; intro bu bv M i
   refine bt M i 5 [] [] [(6, str (csumS 0 (fheadS u0)).1)] ?_; intro bw N
   apply J
   refine sqH ?_; intro aK O
   refine bt N i 2 [] [] [(33, str (fheadS u0)), (34, str (csumS 0 (fheadS u0)).1)] ?_; intro bx P
   obtain ⟨aL, aM⟩ := aI
   refine sa P aL ?_; intro bz Q
   refine fc Q i (sput_fun ((fheadS u0) ++ (csumS 0 (fheadS u0)).1) _ _ i.fz) ?_; intro bA bB R u
   refine bt R u 5 [] [] [(8, str (sputS ((fheadS u0) ++ (csumS 0 (fheadS u0)).1)).1)] ?_; intro bC S
   apply O
   refine sqH ?_; intro aN T
   refine s1 S 39 (str (sputS ((fheadS u0) ++ (csumS 0 (fheadS u0)).1)).1) ?_; intro bD U
   obtain ⟨aO, aP⟩ := aM
   refine sa U aO ?_; intro bE V
   refine bt V u 2 [] [] [(2, str ((sputS ((fheadS u0) ++ (csumS 0 (fheadS u0)).1)).1 ++ ([49, 49, 49, 49, 49, 49, 49, 49, 49, 49] : List UInt8))), (3, i6 0)] ?_; intro bF aQ
   apply T
   exact r_ (h_ (ra2 aQ (.tuple #[str ((sputS ((fheadS u0) ++ (csumS 0 (fheadS u0)).1)).1 ++ ([49, 49, 49, 49, 49, 49, 49, 49, 49, 49] : List UInt8)), i6 0]) ⟨((sputS ((fheadS u0) ++ (csumS 0 (fheadS u0)).1)).1 ++ ([49, 49, 49, 49, 49, 49, 49, 49, 49, 49] : List UInt8), 0), rfl, aP, u.below⟩))
  · -- no
   have aR := l.2 s
   refine k_ (sqH ?_); intro aS W
   refine s1 h 42 (str (fheadS u0)) ?_; intro bG X
   refine fc X c (sput_fun (fheadS u0) _ _ c.fz) ?_; intro bH bI Y j
   refine bt Y j 5 [] [] [(10, str (sputS (fheadS u0)).1)] ?_; intro bJ aa
   apply W
   refine sqH ?_; intro aT ab
   refine bt aa j 5 [] [] [(50, i6 (w64 (((sputS (fheadS u0)).1.length : Int) - ((fheadS u0).length : Int))))] ?_; intro bK ac
   obtain ⟨aU, aV⟩ := aR
   refine fc ac j (fcount_fun (w64 (((sputS (fheadS u0)).1.length : Int) - ((fheadS u0).length : Int))) aU _ _ j.fz) ?_; intro bL bM ad m
   refine s1 ad 12 (str (fcountS (w64 (((sputS (fheadS u0)).1.length : Int) - ((fheadS u0).length : Int))))) ?_; intro bN ae
   apply ab
   refine sqH ?_; intro aW af
   refine l2 ae m 53 0 0 6 (e24EfBits u0 ao1 cap2) rfl rfl ?_; intro bO ag
   refine fc ag m (fkind_fun u0 ao1 cap2 _ _ hs3 m.fz) ?_; intro bP bQ ah n
   refine bt ah n 2 [] [] [(55, str (sputS (fheadS u0)).1), (56, str (fcountS (w64 (((sputS (fheadS u0)).1.length : Int) - ((fheadS u0).length : Int)))))] ?_; intro bR ai
   obtain ⟨aX, aY⟩ := aV
   refine sa ai aX ?_; intro bS aj
   refine fc aj n (csum_fun (fkind u0) ((sputS (fheadS u0)).1 ++ (fcountS (w64 (((sputS (fheadS u0)).1.length : Int) - ((fheadS u0).length : Int))))) _ _ n.fz) ?_; intro bT bU ak d
   refine bt ak d 5 [] [] [(13, str (csumS (fkind u0) ((sputS (fheadS u0)).1 ++ (fcountS (w64 (((sputS (fheadS u0)).1.length : Int) - ((fheadS u0).length : Int)))))).1)] ?_; intro bV al
   apply af
   refine sqH ?_; intro aZ am
   refine bt al d 2 [] [] [(62, str (fcountS (w64 (((sputS (fheadS u0)).1.length : Int) - ((fheadS u0).length : Int))))), (63, str (csumS (fkind u0) ((sputS (fheadS u0)).1 ++ (fcountS (w64 (((sputS (fheadS u0)).1.length : Int) - ((fheadS u0).length : Int)))))).1)] ?_; intro bW an
   obtain ⟨a1, a2⟩ := aY
   refine sa an a1 ?_; intro bX ao
   refine bt ao d 4 [] [] [(65, str (sputS (fheadS u0)).1), (68, i6 (w64 (((sputS (fheadS u0)).1.length : Int) - 1)))] ?_; intro bY ap
   obtain ⟨a3, a4⟩ := a2
   obtain ⟨a, aq⟩ : ∃ q, (sputS (fheadS u0)).1[(w64 (((sputS (fheadS u0)).1.length : Int) - 1)).toNat]? = some q := ⟨_, List.getElem?_eq_getElem (by omega)⟩; have a5 := a4 a aq
   refine si ap .i64 a3.1 aq ?_; intro bZ ar
   refine fc ar d (sfixed_fun ((fcountS (w64 (((sputS (fheadS u0)).1.length : Int) - ((fheadS u0).length : Int)))) ++ (csumS (fkind u0) ((sputS (fheadS u0)).1 ++ (fcountS (w64 (((sputS (fheadS u0)).1.length : Int) - ((fheadS u0).length : Int)))))).1) (a.toNat : Int) _ _ d.fz) ?_; intro b0 b1 au o
   refine bt au o 5 [] [] [(15, str (sfixedS ((fcountS (w64 (((sputS (fheadS u0)).1.length : Int) - ((fheadS u0).length : Int)))) ++ (csumS (fkind u0) ((sputS (fheadS u0)).1 ++ (fcountS (w64 (((sputS (fheadS u0)).1.length : Int) - ((fheadS u0).length : Int)))))).1) (a.toNat : Int)).1)] ?_; intro a6 av
   apply am
   have aw : Fr 77 [] [⟨10, [], str (sputS (fheadS u0)).1⟩, ⟨15, [], str (sfixedS ((fcountS (w64 (((sputS (fheadS u0)).1.length : Int) - ((fheadS u0).length : Int)))) ++ (csumS (fkind u0) ((sputS (fheadS u0)).1 ++ (fcountS (w64 (((sputS (fheadS u0)).1.length : Int) - ((fheadS u0).length : Int)))))).1) (a.toNat : Int)).1⟩] a6 := av.reg
   refine sqH ?_; intro a8 ax
   refine bt aw o 2 [] [] [(73, str (sputS (fheadS u0)).1), (74, str (sfixedS ((fcountS (w64 (((sputS (fheadS u0)).1.length : Int) - ((fheadS u0).length : Int)))) ++ (csumS (fkind u0) ((sputS (fheadS u0)).1 ++ (fcountS (w64 (((sputS (fheadS u0)).1.length : Int) - ((fheadS u0).length : Int)))))).1) (a.toNat : Int)).1)] ?_; intro b2 ay
   obtain ⟨a9, ba⟩ := a5
   refine sa ay a9 ?_; intro b3 az
   obtain ⟨bb, bc⟩ := ba
   refine sa az bb ?_; intro b4 aA
   refine bt aA o 2 [] [] [(2, str (((sputS (fheadS u0)).1 ++ (sfixedS ((fcountS (w64 (((sputS (fheadS u0)).1.length : Int) - ((fheadS u0).length : Int)))) ++ (csumS (fkind u0) ((sputS (fheadS u0)).1 ++ (fcountS (w64 (((sputS (fheadS u0)).1.length : Int) - ((fheadS u0).length : Int)))))).1) (a.toNat : Int)).1) ++ ([49, 49, 49, 49, 49, 49, 49, 49, 49, 49] : List UInt8))), (3, i6 0)] ?_; intro b5 bd
   apply ax
   exact r_ (ra2 bd (.tuple #[str (((sputS (fheadS u0)).1 ++ (sfixedS ((fcountS (w64 (((sputS (fheadS u0)).1.length : Int) - ((fheadS u0).length : Int)))) ++ (csumS (fkind u0) ((sputS (fheadS u0)).1 ++ (fcountS (w64 (((sputS (fheadS u0)).1.length : Int) - ((fheadS u0).length : Int)))))).1) (a.toNat : Int)).1) ++ ([49, 49, 49, 49, 49, 49, 49, 49, 49, 49] : List UInt8)), i6 0]) ⟨(((sputS (fheadS u0)).1 ++ (sfixedS ((fcountS (w64 (((sputS (fheadS u0)).1.length : Int) - ((fheadS u0).length : Int)))) ++ (csumS (fkind u0) ((sputS (fheadS u0)).1 ++ (fcountS (w64 (((sputS (fheadS u0)).1.length : Int) - ((fheadS u0).length : Int)))))).1) (a.toNat : Int)).1) ++ ([49, 49, 49, 49, 49, 49, 49, 49, 49, 49] : List UInt8), 0), rfl, bc, o.below⟩)

end Go.Proofs.YtmnlahbngbigdaaGreatDoor
set_option linter.unusedVariables false
set_option linter.unusedSimpArgs false
set_option linter.defProp false
namespace Go.Proofs.YtmnlahbngbigdaaGreatDoor
open Go.Sy Go.RowKit
def fBits_fun (u0 : Frame) (hpre : ∀ x ∈ u0.Data, 0 ≤ x ∧ x ≤ 255) (ao1 : Option Addr) (cap2 : Nat) (Z : Fz) (w : World) (hs3 : SlR t8 Z ao1 cap2 u0.Data) (hZ : Z.on w) := f_ (fBits_walk u0 ao1 cap2 Z w hs3 hZ (fBits_ok u0 hpre))
end Go.Proofs.YtmnlahbngbigdaaGreatDoor
set_option linter.unusedVariables false
set_option linter.unusedSimpArgs false
set_option maxRecDepth 100000
set_option maxHeartbeats 0
namespace Go.Proofs.YtmnlahbngbigdaaGreatDoor
open Go.Sy Go.RowKit
abbrev e46Ernames (X : FReader) (A0 : Option Addr) (C0 : Nat) : List Value := [str X.Reader.Row, i6 X.Reader.At, i6 X.Reader.Code, y8 X.Reader.c.last, i6 X.Reader.c.n, i6 X.f.ID, .bool X.f.Long, .bool X.f.Fast, .bool X.f.Remote, i6 X.f.Size, .slice A0 X.f.Data.length C0]
theorem rnames_walk (u0 : FReader) (b1 : Nat) (ao2 : Option Addr) (cap3 : Nat) (B : Nat) (w0 : World) (Z0 : Fz) (Rr : List Res) (Z : Fz) (w : World) (hs4 : SlR t8 Z ao2 cap3 u0.f.Data) (hM0 : Mem B [] w0 Z0 ((.row b1 [str u0.Reader.Row, i6 u0.Reader.At, i6 u0.Reader.Code, y8 u0.Reader.c.last, i6 u0.Reader.c.n, i6 u0.f.ID, .bool u0.f.Long, .bool u0.f.Fast, .bool u0.f.Remote, i6 u0.f.Size, .slice ao2 u0.f.Data.length cap3] 46) :: Rr) Z w) (hZ : Z.on w) {K : FReader → Prop} (hp : rnames_vc u0 K) : Calls Tryz.prog 17 #[pt b1 0] w fun e w' => ∃ (r : FReader) (ao1001 : Option Addr) (cap1002 : Nat) (Z' : Fz), e = .returned (.tuple #[]) ∧ K r ∧ Fz.le Z Z' ∧ SlR t8 Z' ao1001 cap1002 r.f.Data ∧ Mem B [] w0 Z0 ((.row b1 [str r.Reader.Row, i6 r.Reader.At, i6 r.Reader.Code, y8 r.Reader.c.last, i6 r.Reader.c.n, i6 r.f.ID, .bool r.f.Long, .bool r.f.Fast, .bool r.f.Remote, i6 r.f.Size, .slice ao1001 r.f.Data.length cap1002] 46) :: Rr) Z' w' := by
 refine enter0 Tryz.func17 rfl rfl (by kernel_rfl) ?_; intro a0 cu; have k := Fz.le.refl Z
 have eK := hp (hs4.small)
 refine sqH ?_; intro eL cv
 refine s1 cu 3 (pt b1 0) ?_; intro a7 cw
 obtain ⟨eM, cx⟩ := eK
 refine ck cw 45 #[pt b1 0, str ([48] : List UInt8)] ?_
 obtain ⟨ay, eN, cy⟩ := hxq cx
 have m := rwant_fun u0 ([48] : List UInt8) eM b1 ao2 cap3 _ _ _ _ _ _ hs4 hM0 hM0.fz; rw [eN] at m; refine m.mono ?_; rintro _ eO ⟨cz, cA, eP, rfl, cB, az, hm⟩; refine ⟨_, rfl, ?_⟩; intro g0 cC; have cD := hm
 replace k := Fz.le.trans k cB
 have bG : Mem B [] w0 Z0 ((.row b1 (e46Ernames ay cz cA) 46) :: Rr) eP eO := cD
 have eQ := cy (az.small)
 apply cv
 refine sqH ?_; intro eR cE
 refine bt cC bG 2 [] [] [(5, pt b1 0), (6, pt b1 0)] ?_; intro g1 cF
 obtain ⟨eS, cG⟩ := eQ
 refine ck cF 18 #[pt b1 0, i6 11] ?_
 obtain ⟨q, eT, cH⟩ := hxq cG
 have m := rnumber_fun ay 11 eS b1 cz cA _ _ _ _ _ _ az bG bG.fz; rw [eT] at m; refine m.mono ?_; rintro _ eU ⟨bH, bI, cI, rfl, b3, aP, hm⟩; refine ⟨_, rfl, ?_⟩; intro g2 cJ; have cK := hm
 replace k := Fz.le.trans k b3
 have b4 : Mem B [] w0 Z0 ((.row b1 (e46Ernames q.2 bH bI) 46) :: Rr) cI eU := cK
 have eV := cH (aP.small)
 refine bt cJ b4 3 [] [] [(10, pt b1 5)] ?_; intro g3 b5
 refine sx b5 b4 0 [str q.2.Reader.Row, i6 q.2.Reader.At, i6 q.2.Reader.Code, y8 q.2.Reader.c.last, i6 q.2.Reader.c.n, i6 q.1, .bool q.2.f.Long, .bool q.2.f.Fast, .bool q.2.f.Remote, i6 q.2.f.Size, .slice bH q.2.f.Data.length bI] 5 ?_; intro eW cL
 have bJ : Mem B [] w0 Z0 ((.row b1 [str q.2.Reader.Row, i6 q.2.Reader.At, i6 q.2.Reader.Code, y8 q.2.Reader.c.last, i6 q.2.Reader.c.n, i6 q.1, .bool q.2.f.Long, .bool q.2.f.Fast, .bool q.2.f.Remote, i6 q.2.f.Size, .slice bH q.2.f.Data.length bI] 46) :: Rr) cI eW := cL
 apply cE
 refine sqH ?_; intro eX cM
 refine bt b5 bJ 3 [] [] [(13, pt b1 0)] ?_; intro g4 cN
 obtain ⟨eY, cO⟩ := eV
 refine ck cN 21 #[pt b1 0, i6 1] ?_
 obtain ⟨O, eZ, cP⟩ := hxq cO
 have m := rtakeF_fun (⟨q.2.Reader, (⟨q.1, q.2.f.Long, q.2.f.Fast, q.2.f.Remote, q.2.f.Size, q.2.f.Data⟩ : Frame)⟩ : FReader) 1 eY b1 bH bI _ _ _ _ _ _ aP bJ bJ.fz; rw [eZ] at m; refine m.mono ?_; rintro _ e0 ⟨cQ, cR, e1, rfl, bK, a3, hm⟩; refine ⟨_, rfl, ?_⟩; intro g5 cS; have cT := hm
 replace k := Fz.le.trans k bK
 have bx : Mem B [] w0 Z0 ((.row b1 (e46Ernames O.2 cQ cR) 46) :: Rr) e1 e0 := cT
 have e2 := cP (a3.small)
 refine bt cS bx 2 [] [112] [(2, .bool (O.1 == ([49] : List UInt8)))] ?_; intro g6 cU
 apply cM
 refine sqH ?_; intro e3 cV
 refine bt cU bx 4 [] [] [(16, pt b1 0), (19, pt b1 0)] ?_; intro g7 cW
 obtain ⟨e4, cX⟩ := e2
 refine ck cW 21 #[pt b1 0, i6 1] ?_
 obtain ⟨g, e5, cY⟩ := hxq cX
 have m := rtakeF_fun O.2 1 e4 b1 cQ cR _ _ _ _ _ _ a3 bx bx.fz; rw [e5] at m; refine m.mono ?_; rintro _ e6 ⟨a4, a5, aX, rfl, bz, a6, hm⟩; refine ⟨_, rfl, ?_⟩; intro g8 cZ; have c0 := hm
 replace k := Fz.le.trans k bz
 have b6 : Mem B [] w0 Z0 ((.row b1 (e46Ernames g.2 a4 a5) 46) :: Rr) aX e6 := c0
 have e7 := cY (a6.small)
 refine bt cZ b6 4 [] [118] [(21, .bool (g.1 == ([49] : List UInt8))), (24, pt b1 6)] ?_; intro g9 b7
 refine sx b7 b6 0 [str g.2.Reader.Row, i6 g.2.Reader.At, i6 g.2.Reader.Code, y8 g.2.Reader.c.last, i6 g.2.Reader.c.n, i6 g.2.f.ID, .bool (g.1 == ([49] : List UInt8)), .bool g.2.f.Fast, .bool g.2.f.Remote, i6 g.2.f.Size, .slice a4 g.2.f.Data.length a5] 6 ?_; intro e8 c1
 have b8 : Mem B [] w0 Z0 ((.row b1 [str g.2.Reader.Row, i6 g.2.Reader.At, i6 g.2.Reader.Code, y8 g.2.Reader.c.last, i6 g.2.Reader.c.n, i6 g.2.f.ID, .bool (g.1 == ([49] : List UInt8)), .bool g.2.f.Fast, .bool g.2.f.Remote, i6 g.2.f.Size, .slice a4 g.2.f.Data.length a5] 46) :: Rr) aX e8 := c1
 apply cV
 refine sqH ?_; intro e9 c2
 refine bt b7 b8 5 [] [] [(26, .bool (O.1 == ([49] : List UInt8))), (29, pt b1 8)] ?_; intro ha b9
 refine sx b9 b8 0 [str g.2.Reader.Row, i6 g.2.Reader.At, i6 g.2.Reader.Code, y8 g.2.Reader.c.last, i6 g.2.Reader.c.n, i6 g.2.f.ID, .bool (g.1 == ([49] : List UInt8)), .bool g.2.f.Fast, .bool (O.1 == ([49] : List UInt8)), i6 g.2.f.Size, .slice a4 g.2.f.Data.length a5] 8 ?_; intro fa c3
 have aY : Mem B [] w0 Z0 ((.row b1 [str g.2.Reader.Row, i6 g.2.Reader.At, i6 g.2.Reader.Code, y8 g.2.Reader.c.last, i6 g.2.Reader.c.n, i6 g.2.f.ID, .bool (g.1 == ([49] : List UInt8)), .bool g.2.f.Fast, .bool (O.1 == ([49] : List UInt8)), i6 g.2.f.Size, .slice a4 g.2.f.Data.length a5] 46) :: Rr) aX fa := c3
 apply c2
 refine s_ (sqB b9 aY [0] [] [(34, .bool (g.1 == ([49] : List UInt8)))] ?_); intro c4 c5
 have c6 : Fr 97 [] [⟨0, [], pt b1 0⟩, ⟨2, [], .bool (O.1 == ([49] : List UInt8))⟩, ⟨34, [], .bool (g.1 == ([49] : List UInt8))⟩] c4 := c5.reg
 obtain ⟨fb, bL, fc⟩ := e7
 refine wp_then_k fun KJ152 hKJ153 => ?_
 have c7 : ∀ (U : FReader) (bM : Option Addr) (bN : Nat) (bO : Fz), fb U ∧ SlR t8 bO bM bN U.f.Data ∧ Fz.le aX bO → ∀ a1 w1, Fr 97 [] [⟨0, [], pt b1 0⟩] a1 → Mem B [] w0 Z0 ((.row b1 (e46Ernames U bM bN) 46) :: Rr) bO w1 → KJ152 a1 w1 := by
  rintro U bM bN bO ⟨fd, a8, ap⟩ hb hc c8 bP
  refine hKJ153 _ _ ?_
  have fe := fc U fd
  replace k := Fz.le.trans k ap
  refine sqH ?_; intro fg c9
  refine bt c8 bP 4 [] [] [(61, pt b1 0), (64, pt b1 0)] ?_; intro hd da
  obtain ⟨fh, db⟩ := fe
  refine ck da 21 #[pt b1 0, i6 1] ?_
  obtain ⟨j, fi, dc⟩ := hxq db
  have m := rtakeF_fun U 1 fh b1 bM bN _ _ _ _ _ _ a8 bP bP.fz; rw [fi] at m; refine m.mono ?_; rintro _ fj ⟨bh, bi, bl, rfl, a9, aQ, hm⟩; refine ⟨_, rfl, ?_⟩; intro he dd; have de := hm
  replace k := Fz.le.trans k a9
  have ca : Mem B [] w0 Z0 ((.row b1 (e46Ernames j.2 bh bi) 46) :: Rr) bl fj := de
  have bQ := dc (aQ.small)
  refine bt dd ca 4 [] [163] [(66, .bool (j.1 == ([49] : List UInt8))), (69, pt b1 7)] ?_; intro hf cb
  refine sx cb ca 0 [str j.2.Reader.Row, i6 j.2.Reader.At, i6 j.2.Reader.Code, y8 j.2.Reader.c.last, i6 j.2.Reader.c.n, i6 j.2.f.ID, .bool j.2.f.Long, .bool (j.1 == ([49] : List UInt8)), .bool j.2.f.Remote, i6 j.2.f.Size, .slice bh j.2.f.Data.length bi] 7 ?_; intro fk df
  have aA : Mem B [] w0 Z0 ((.row b1 [str j.2.Reader.Row, i6 j.2.Reader.At, i6 j.2.Reader.Code, y8 j.2.Reader.c.last, i6 j.2.Reader.c.n, i6 j.2.f.ID, .bool j.2.f.Long, .bool (j.1 == ([49] : List UInt8)), .bool j.2.f.Remote, i6 j.2.f.Size, .slice bh j.2.f.Data.length bi] 46) :: Rr) bl fk := df
  apply c9
  refine b_ (sqB cb aA [0] [] [(70, .bool (j.1 == ([49] : List UInt8)))] ?_); intro hg bB
  refine c_ bB bQ (fun _ fl => ?_) fun _ bV => ?_
  ·
   refine s_ (sqB bB aA [0] [] [(80, .bool j.2.f.Remote)] ?_); intro dg dh
   have di : Fr 97 [] [⟨0, [], pt b1 0⟩, ⟨80, [], .bool j.2.f.Remote⟩] dg := dh.reg
   obtain ⟨fm, bR, fo⟩ := fl
   refine wp_then_k fun KJ234 hKJ235 => ?_
   have dj : ∀ (b : FReader) (aq : Option Addr) (ar : Nat) (bS : Fz), fm b ∧ SlR t8 bS aq ar b.f.Data ∧ Fz.le bl bS → ∀ a1 w1, Fr 97 [] [⟨0, [], pt b1 0⟩] a1 → Mem B [] w0 Z0 ((.row b1 (e46Ernames b aq ar) 46) :: Rr) bS w1 → KJ234 a1 w1 := by
    rintro b aq ar bS ⟨fp, P, ag⟩ hh hj dk ce
    refine hKJ235 _ _ ?_
    have fq := fo b fp
    replace k := Fz.le.trans k ag
    refine sqH ?_; intro fr dl
    refine s1 dk 83 (pt b1 0) ?_; intro hk dm
    obtain ⟨fs, dn⟩ := fq
    refine ck dm 45 #[pt b1 0, str ([48] : List UInt8)] ?_
    obtain ⟨aB, ft, dp⟩ := hxq dn
    have m := rwant_fun b ([48] : List UInt8) fs b1 aq ar _ _ _ _ _ _ P ce ce.fz; rw [ft] at m; refine m.mono ?_; rintro _ fu ⟨dq, dr, fv, rfl, aL, bv, hm⟩; refine ⟨_, rfl, ?_⟩; intro hl ds; have dt := hm
    replace k := Fz.le.trans k aL
    have cf : Mem B [] w0 Z0 ((.row b1 (e46Ernames aB dq dr) 46) :: Rr) fv fu := dt
    have fw := dp (bv.small)
    apply dl
    refine sqH ?_; intro fx du
    refine s1 ds 85 (pt b1 0) ?_; intro hn dv
    obtain ⟨fy, dw⟩ := fw
    refine ck dv 45 #[pt b1 0, str ([49] : List UInt8)] ?_
    obtain ⟨aC, fA, dx⟩ := hxq dw
    have m := rwant_fun aB ([49] : List UInt8) fy b1 dq dr _ _ _ _ _ _ bv cf cf.fz; rw [fA] at m; refine m.mono ?_; rintro _ fB ⟨dy, dz, fC, rfl, aD, bT, hm⟩; refine ⟨_, rfl, ?_⟩; intro ho dA; have dB := hm
    replace k := Fz.le.trans k aD
    have cg : Mem B [] w0 Z0 ((.row b1 (e46Ernames aC dy dz) 46) :: Rr) fC fB := dB
    have fD := dx (bT.small)
    apply du
    refine rgH ?_; intro fE dC
    refine s1 dA 87 (pt b1 0) ?_; intro hq dD
    obtain ⟨fF, dE⟩ := fD
    refine ck dD 45 #[pt b1 0, str ([48] : List UInt8)] ?_
    obtain ⟨aE, fG, dF⟩ := hxq dE
    have m := rwant_fun aC ([48] : List UInt8) fF b1 dy dz _ _ _ _ _ _ bT cg cg.fz; rw [fG] at m; refine m.mono ?_; rintro _ fH ⟨dG, dH, dI, rfl, au, dJ, hm⟩; refine ⟨_, rfl, ?_⟩; intro hr dK; have dL := hm
    replace k := Fz.le.trans k au
    have fI : Mem B [] w0 Z0 ((.row b1 (e46Ernames aE dG dH) 46) :: Rr) dI fH := dL
    have fJ := dF (dJ.small)
    apply dC
    refine j_ (rN (fn := Tryz.f17) (v := .tuple #[]) dK (re0 dK (fn := Tryz.f17) rfl) ?_)
    exact ⟨aE, dG, dH, dI, rfl, fJ, k, dJ, fI.kp⟩
   have bU := Fz.le.refl bl
   refine c_ di bR (fun _ dM => ?_) fun _ fQ => ?_
   ·
    refine rgH ?_; intro fK dN
    refine s1 di 81 (pt b1 0) ?_; intro ht dO
    refine ck dO 19 #[pt b1 0, i6 4] ?_
    obtain ⟨aF, fL, dP⟩ := hxq dM
    have m := rfail_fun (⟨j.2.Reader, (⟨j.2.f.ID, j.2.f.Long, j.1 == ([49] : List UInt8), j.2.f.Remote, j.2.f.Size, j.2.f.Data⟩ : Frame)⟩ : FReader) 4 b1 bh bi _ _ _ _ _ _ aQ aA aA.fz; rw [fL] at m; refine m.mono ?_; rintro _ fM ⟨dQ, dR, dS, rfl, aR, dT, hm⟩; refine ⟨_, rfl, ?_⟩; intro hu fN; have dU := hm
    replace bU := bU.mono aR
    have fO : Mem B [] w0 Z0 ((.row b1 (e46Ernames aF dQ dR) 46) :: Rr) dS fM := dU
    have fP := dP (dT.small)
    apply dN
    exact d_ (dj aF dQ dR dS ⟨fP, dT, bU⟩ _ _ ((fN.reg).anyβ _ (by kernel_rfl)) (fO.kp))
   exact l_ (d_ (dj (⟨j.2.Reader, (⟨j.2.f.ID, j.2.f.Long, j.1 == ([49] : List UInt8), j.2.f.Remote, j.2.f.Size, j.2.f.Data⟩ : Frame)⟩ : FReader) bh bi bl ⟨fQ, aQ, bU⟩ _ _ ((di.reg).anyβ _ (by kernel_rfl)) (aA.kp)))
  refine sqB bB aA [0] [] [(89, .bool j.2.f.Long)] ?_; intro hv bD
  refine c_ bD bV (fun _ fR => ?_) fun _ fY => ?_
  ·
   refine rgH ?_; intro fS dV
   refine s1 bD 95 (pt b1 0) ?_; intro hw dW
   obtain ⟨fT, dX⟩ := fR
   refine ck dW 45 #[pt b1 0, str ([48] : List UInt8)] ?_
   obtain ⟨aG, fU, dY⟩ := hxq dX
   have m := rwant_fun (⟨j.2.Reader, (⟨j.2.f.ID, j.2.f.Long, j.1 == ([49] : List UInt8), j.2.f.Remote, j.2.f.Size, j.2.f.Data⟩ : Frame)⟩ : FReader) ([48] : List UInt8) fT b1 bh bi _ _ _ _ _ _ aQ aA aA.fz; rw [fU] at m; refine m.mono ?_; rintro _ fV ⟨dZ, d0, d1, rfl, aZ, d2, hm⟩; refine ⟨_, rfl, ?_⟩; intro hx d3; have d4 := hm
   replace k := Fz.le.trans k aZ
   have fW : Mem B [] w0 Z0 ((.row b1 (e46Ernames aG dZ d0) 46) :: Rr) d1 fV := d4
   have fX := dY (d2.small)
   apply dV
   refine j_ (rN (fn := Tryz.f17) (v := .tuple #[]) d3 (re0 d3 (fn := Tryz.f17) rfl) ?_)
   exact ⟨aG, dZ, d0, d1, rfl, fX, k, d2, fW.kp⟩
  refine l_ (j_ (rN (fn := Tryz.f17) (v := .tuple #[]) bD (re0 bD (fn := Tryz.f17) rfl) ?_))
  exact ⟨(⟨j.2.Reader, (⟨j.2.f.ID, j.2.f.Long, j.1 == ([49] : List UInt8), j.2.f.Remote, j.2.f.Size, j.2.f.Data⟩ : Frame)⟩ : FReader), bh, bi, bl, rfl, fY, k, aQ, aA.kp⟩
 have bW := Fz.le.refl aX
 refine c_ c6 bL (fun _ fZ => ?_) fun _ gZ => ?_
 ·
  refine s_ (sqB c6 aY [] [] [(36, .bool (!(O.1 == ([49] : List UInt8))))] ?_); intro d5 d6
  have d7 : Fr 97 [] [⟨0, [], pt b1 0⟩, ⟨36, [], .bool (!(O.1 == ([49] : List UInt8)))⟩] d5 := d6.reg
  obtain ⟨f0, bX, f1⟩ := fZ
  refine wp_then_k fun KJ383 hKJ384 => ?_
  have d8 : ∀ (b : FReader) (aq : Option Addr) (ar : Nat) (bw : Fz), f0 b ∧ SlR t8 bw aq ar b.f.Data ∧ Fz.le aX bw → ∀ a1 w1, Fr 97 [] [⟨0, [], pt b1 0⟩] a1 → Mem B [] w0 Z0 ((.row b1 (e46Ernames b aq ar) 46) :: Rr) bw w1 → KJ383 a1 w1 := by
   rintro b aq ar bw ⟨f2, P, Q⟩ aj hy d9 f3
   refine hKJ384 _ _ ?_
   have f4 := f1 b f2
   have ab := bW.mono Q
   have f5 : Fr 97 [] [⟨0, [], pt b1 0⟩] aj := d9.reg
   obtain ⟨f6, f7⟩ := f4
   refine wp_seq (any_invE mixed [[], [], [1], [2], [3], [4], [5], [], [7], [6, 8], [0, 1, 2, 3, 4, 5, 6, 7, 8, 9], [0, 1, 2, 3, 4, 5, 6, 7, 8, 9, 10], [0, 1, 2, 3, 4, 5, 6, 7, 8, 9, 11], [0, 1, 2, 3, 4, 5, 6, 7, 8, 9, 12]] 14 (fun S a w1 => ∃ (L : Option Addr) (M : Nat) (ak : Value) (bj : Value) (ba : Value) (a2 : Value) (aS : Value) (aM : Value) (av : Value) (aN : Value) (aH : Value) (al : Value) (ah : Value) (ac : Value) (T : Value) (aI : Res) (s : Fz), Fz.le bw s ∧ Fr 97 [] [⟨0, [], pt b1 0⟩, ⟨39, [], ak⟩, ⟨40, [], bj⟩, ⟨41, [], ba⟩, ⟨42, [], a2⟩, ⟨43, [], aS⟩, ⟨44, [], aM⟩, ⟨45, [], av⟩, ⟨46, [], aN⟩, ⟨47, [], aH⟩, ⟨48, [], al⟩, ⟨49, [], ah⟩, ⟨50, [], ac⟩, ⟨51, [], T⟩] a ∧ Mem B [] w0 Z0 (aI :: Rr) s w1 ∧ (S 0 = true → ak = pt b1 0) ∧ (S 1 = true → bj = pt b1 0) ∧ (S 2 = true → ba = pt b1 0) ∧ (S 3 = true → a2 = pt b1 5) ∧ (S 4 = true → aS = pt b1 5) ∧ (S 5 = true → aM = i6 b.f.ID) ∧ (S 6 = true → av = i6 (bShl .i64 b.f.ID 18)) ∧ (S 7 = true → aN = pt b1 0) ∧ (S 8 = true → aH = i6 (rnumberS b 18).1) ∧ (S 9 = true → al = i6 (bOr .i64 (bShl .i64 b.f.ID 18) (rnumberS b 18).1)) ∧ (S 10 = true → ah = pt b1 0) ∧ (S 11 = true → ac = pt b1 5) ∧ (S 12 = true → T = pt b1 5) ∧ (S 8 = false → aI = .row b1 (e46Ernames b aq ar) 46) ∧ (S 8 = true → S 13 = false → aI = .row b1 [str (rnumberS b 18).2.Reader.Row, i6 (rnumberS b 18).2.Reader.At, i6 (rnumberS b 18).2.Reader.Code, y8 (rnumberS b 18).2.Reader.c.last, i6 (rnumberS b 18).2.Reader.c.n, i6 b.f.ID, .bool b.f.Long, .bool b.f.Fast, .bool b.f.Remote, i6 b.f.Size, .slice L b.f.Data.length M] 46) ∧ (S 13 = true → aI = .row b1 [str (rnumberS b 18).2.Reader.Row, i6 (rnumberS b 18).2.Reader.At, i6 (rnumberS b 18).2.Reader.Code, y8 (rnumberS b 18).2.Reader.c.last, i6 (rnumberS b 18).2.Reader.c.n, i6 (bOr .i64 (bShl .i64 b.f.ID 18) (rnumberS b 18).1), .bool b.f.Long, .bool b.f.Fast, .bool b.f.Remote, i6 b.f.Size, .slice L b.f.Data.length M] 46) ∧ (S 8 = true → SlR t8 s L M b.f.Data)) ?h0 ?hs ?hE)
   case h0 =>
    have f8 := f5.any 39
    have f9 := f8.any 40
    have ga := f9.any 41
    have gb := ga.any 42
    have gc := gb.any 43
    have gd := gc.any 44
    have ge := gd.any 45
    have gf := ge.any 46
    have gg := gf.any 47
    have gh := gg.any 48
    have gi := gh.any 49
    have gj := gi.any 50
    have gk := gj.any 51
    have gl := (f3.perm lpr).drew
    exact ⟨none, 0, aj.tmps.getD 39 undef, aj.tmps.getD 40 undef, aj.tmps.getD 41 undef, aj.tmps.getD 42 undef, aj.tmps.getD 43 undef, aj.tmps.getD 44 undef, aj.tmps.getD 45 undef, aj.tmps.getD 46 undef, aj.tmps.getD 47 undef, aj.tmps.getD 48 undef, aj.tmps.getD 49 undef, aj.tmps.getD 50 undef, aj.tmps.getD 51 undef, .row b1 (e46Ernames b aq ar) 46, bw, Fz.le.refl _, gk.reg, gl, ff, ff, ff, ff, ff, ff, ff, ff, ff, ff, ff, ff, ff, kf, ff, ff, ff⟩
   case hs =>
    intro S hcl i o hil hi hSi hpre a w1 hI; refine Go.Sy.hid ?_; intro G hG; obtain ⟨L, M, ak, bj, ba, a2, aS, aM, av, aN, aH, al, ah, ac, T, aI, s, d, hFx, hMx, ad, ae, ai, am, aw, hI⟩ := hI; obtain ⟨aO, aT, af, an, bk, bF, bY, cl, aU, ax, ea, hI⟩ := hI; have ao := hI
    have hcase : i = 0 ∨ i = 1 ∨ i = 2 ∨ i = 3 ∨ i = 4 ∨ i = 5 ∨ i = 6 ∨ i = 7 ∨ i = 8 ∨ i = 9 ∨ i = 10 ∨ i = 11 ∨ i = 12 ∨ i = 13 := by clear hi; omega
    rcases hcase with rfl | rfl | rfl | rfl | rfl | rfl | rfl | rfl | rfl | rfl | rfl | rfl | rfl | rfl
    ·
     obtain rfl := oj hi
     have aJ := hSi
     have I := ngF hcl 10 0 aJ
     have D := ngF hcl 11 0 aJ
     have E := ngF hcl 12 0 aJ
     have u := ngF hcl 13 0 aJ
     refine hG (any_step ?_); intro A J hJ
     refine s1 hFx 39 (pt b1 0) ?_; intro hL gm
     refine nl (qnI (hJ _ _ ?_))
     exact ⟨L, M, pt b1 0, bj, ba, a2, aS, aM, av, aN, aH, al, ah, ac, T, aI, s, d, gm.reg, hMx.perm lpr, kf, ae, ai, am, aw, aO, aT, af, an, bk, (nt I), (nt D), (nt E), aU, ax, (nt u), ao⟩
    ·
     obtain rfl := oj hi
     have N := hSi
     have x := ngF hcl 2 1 N
     have y := ngF hcl 3 2 x
     have z := ngF hcl 4 3 y
     have F := ngF hcl 5 4 z
     have C := ngF hcl 6 5 F
     have H := ngF hcl 9 6 C
     have I := ngF hcl 10 1 N
     have D := ngF hcl 11 1 N
     have E := ngF hcl 12 1 N
     have u := ngF hcl 13 1 N
     refine hG (any_step ?_); intro A J hJ
     refine s1 hFx 40 (pt b1 0) ?_; intro hV gn
     refine nl (qnI (hJ _ _ ?_))
     exact ⟨L, M, ak, pt b1 0, ba, a2, aS, aM, av, aN, aH, al, ah, ac, T, aI, s, d, gn.reg, hMx.perm lpr, ad, kf, (nt x), (nt y), (nt z), (nt F), (nt C), af, an, (nt H), (nt I), (nt D), (nt E), aU, ax, (nt u), ao⟩
    ·
     obtain rfl := oj hi
     have N := hpre 1 (by kernel_rfl)
     have x := hSi
     have y := ngF hcl 3 2 x
     have z := ngF hcl 4 3 y
     have F := ngF hcl 5 4 z
     have C := ngF hcl 6 5 F
     have H := ngF hcl 9 6 C
     have I := ngF hcl 10 2 x
     have D := ngF hcl 11 2 x
     have E := ngF hcl 12 2 x
     have u := ngF hcl 13 2 x
     obtain rfl := ae N
     refine hG (any_step ?_); intro A J hJ
     refine s1 hFx 41 (pt b1 0) ?_; intro h6 go
     refine nl (qnI (hJ _ _ ?_))
     exact ⟨L, M, ak, pt b1 0, pt b1 0, a2, aS, aM, av, aN, aH, al, ah, ac, T, aI, s, d, go.reg, hMx.perm lpr, ad, kf, kf, (nt y), (nt z), (nt F), (nt C), af, an, (nt H), (nt I), (nt D), (nt E), aU, ax, (nt u), ao⟩
    ·
     obtain rfl := oj hi
     have x := hpre 2 (by kernel_rfl)
     have N := hcl 2 1 (by kernel_rfl) x
     have y := hSi
     have z := ngF hcl 4 3 y
     have F := ngF hcl 5 4 z
     have C := ngF hcl 6 5 F
     have H := ngF hcl 9 6 C
     have I := ngF hcl 10 3 y
     have D := ngF hcl 11 3 y
     have E := ngF hcl 12 3 y
     have u := ngF hcl 13 3 y
     obtain rfl := ae N
     obtain rfl := ai x
     refine hG (any_step ?_); intro A J hJ
     refine s1 hFx 42 (pt b1 5) ?_; intro ih gp
     refine nl (qnI (hJ _ _ ?_))
     exact ⟨L, M, ak, pt b1 0, pt b1 0, pt b1 5, aS, aM, av, aN, aH, al, ah, ac, T, aI, s, d, gp.reg, hMx.perm lpr, ad, kf, kf, kf, (nt z), (nt F), (nt C), af, an, (nt H), (nt I), (nt D), (nt E), aU, ax, (nt u), ao⟩
    ·
     obtain rfl := oj hi
     have y := hpre 3 (by kernel_rfl)
     have x := hcl 3 2 (by kernel_rfl) y
     have N := hcl 2 1 (by kernel_rfl) x
     have z := hSi
     have F := ngF hcl 5 4 z
     have C := ngF hcl 6 5 F
     have H := ngF hcl 9 6 C
     have I := ngF hcl 10 4 z
     have D := ngF hcl 11 4 z
     have E := ngF hcl 12 4 z
     have u := ngF hcl 13 4 z
     obtain rfl := ae N
     obtain rfl := ai x
     obtain rfl := am y
     refine hG (any_step ?_); intro A J hJ
     refine s1 hFx 43 (pt b1 5) ?_; intro ir gq
     refine nl (qnI (hJ _ _ ?_))
     exact ⟨L, M, ak, pt b1 0, pt b1 0, pt b1 5, pt b1 5, aM, av, aN, aH, al, ah, ac, T, aI, s, d, gq.reg, hMx.perm lpr, ad, kf, kf, kf, kf, (nt F), (nt C), af, an, (nt H), (nt I), (nt D), (nt E), aU, ax, (nt u), ao⟩
    ·
     obtain rfl := oj hi
     have z := hpre 4 (by kernel_rfl)
     have y := hcl 4 3 (by kernel_rfl) z
     have x := hcl 3 2 (by kernel_rfl) y
     have N := hcl 2 1 (by kernel_rfl) x
     have F := hSi
     have C := ngF hcl 6 5 F
     have H := ngF hcl 9 6 C
     have I := ngF hcl 10 5 F
     have D := ngF hcl 11 5 F
     have E := ngF hcl 12 5 F
     have u := ngF hcl 13 5 F
     rcases Bool.eq_false_or_eq_true (S 8) with l | l
     ·
      have R := hcl 8 7 (by kernel_rfl) l
      obtain rfl := ae N
      obtain rfl := ai x
      obtain rfl := am y
      obtain rfl := aw z
      obtain rfl := af R
      obtain rfl := an l
      obtain rfl := ax l u
      refine hG (any_step ?_); intro A J hJ
      have gr := ao l
      refine l1 hFx hMx 44 0 5 (i6 b.f.ID) rfl rfl ?_; intro iB gs
      refine nl (qnI (hJ _ _ ?_))
      exact ⟨L, M, ak, pt b1 0, pt b1 0, pt b1 5, pt b1 5, i6 b.f.ID, av, pt b1 0, i6 (rnumberS b 18).1, al, ah, ac, T, .row b1 [str (rnumberS b 18).2.Reader.Row, i6 (rnumberS b 18).2.Reader.At, i6 (rnumberS b 18).2.Reader.Code, y8 (rnumberS b 18).2.Reader.c.last, i6 (rnumberS b 18).2.Reader.c.n, i6 b.f.ID, .bool b.f.Long, .bool b.f.Fast, .bool b.f.Remote, i6 b.f.Size, .slice L b.f.Data.length M] 46, s, d, gs.reg, hMx.perm lpr, ad, kf, kf, kf, kf, kf, (nt C), kf, kf, (nt H), (nt I), (nt D), (nt E), (tn l), kf2, (nt u), (fun _ => gr)⟩
     obtain rfl := ae N
     obtain rfl := ai x
     obtain rfl := am y
     obtain rfl := aw z
     obtain rfl := aU l
     refine hG (any_step ?_); intro A J hJ
     refine l1 hFx hMx 44 0 5 (i6 b.f.ID) rfl rfl ?_; intro iK gt
     refine nl (qnI (hJ _ _ ?_))
     exact ⟨L, M, ak, pt b1 0, pt b1 0, pt b1 5, pt b1 5, i6 b.f.ID, av, aN, aH, al, ah, ac, T, .row b1 (e46Ernames b aq ar) 46, s, d, gt.reg, hMx.perm lpr, ad, kf, kf, kf, kf, kf, (nt C), af, (nt l), (nt H), (nt I), (nt D), (nt E), kf, (fun h _ => nt l h), (nt u), (nt l)⟩
    ·
     obtain rfl := oj hi
     have F := hpre 5 (by kernel_rfl)
     have z := hcl 5 4 (by kernel_rfl) F
     have y := hcl 4 3 (by kernel_rfl) z
     have x := hcl 3 2 (by kernel_rfl) y
     have N := hcl 2 1 (by kernel_rfl) x
     have C := hSi
     have H := ngF hcl 9 6 C
     have I := ngF hcl 10 6 C
     have D := ngF hcl 11 6 C
     have E := ngF hcl 12 6 C
     have u := ngF hcl 13 6 C
     obtain rfl := ae N
     obtain rfl := ai x
     obtain rfl := am y
     obtain rfl := aw z
     obtain rfl := aO F
     refine hG (any_step ?_); intro A J hJ
     refine s1 hFx 45 (i6 (bShl .i64 b.f.ID 18)) ?_; intro iT gu
     refine nl (qnI (hJ _ _ ?_))
     exact ⟨L, M, ak, pt b1 0, pt b1 0, pt b1 5, pt b1 5, i6 b.f.ID, i6 (bShl .i64 b.f.ID 18), aN, aH, al, ah, ac, T, aI, s, d, gu.reg, hMx.perm lpr, ad, kf, kf, kf, kf, kf, kf, af, an, (nt H), (nt I), (nt D), (nt E), aU, ax, (nt u), ao⟩
    ·
     obtain rfl := oj hi
     have R := hSi
     have l := ngF hcl 8 7 R
     have H := ngF hcl 9 8 l
     have I := ngF hcl 10 7 R
     have D := ngF hcl 11 7 R
     have E := ngF hcl 12 7 R
     have u := ngF hcl 13 7 R
     obtain rfl := aU l
     refine hG (any_step ?_); intro A J hJ
     refine s1 hFx 46 (pt b1 0) ?_; intro i2 gv
     refine nl (qnI (hJ _ _ ?_))
     exact ⟨L, M, ak, bj, ba, a2, aS, aM, av, pt b1 0, aH, al, ah, ac, T, .row b1 (e46Ernames b aq ar) 46, s, d, gv.reg, hMx.perm lpr, ad, ae, ai, am, aw, aO, aT, kf, (nt l), (nt H), (nt I), (nt D), (nt E), kf, (fun h _ => nt l h), (nt u), (nt l)⟩
    ·
     obtain rfl := oj hi
     have R := hpre 7 (by kernel_rfl)
     have l := hSi
     have H := ngF hcl 9 8 l
     have I := ngF hcl 10 8 l
     have D := ngF hcl 11 8 l
     have E := ngF hcl 12 8 l
     have u := ngF hcl 13 8 l
     obtain rfl := af R
     obtain rfl := aU l
     refine hG (any_step ?_); intro A J hJ
     have hzst := Fz.le.refl s
     have cm := P.mono d
     refine ck hFx 18 #[pt b1 0, i6 18] ?_
     refine (rnumber_funK b 18 f6 b1 aq ar _ _ _ _ _ _ cm hMx hMx.fz).mono ?_; rintro _ gw ⟨cn, co, ei, rfl, aV, gx, hm⟩; refine ⟨_, rfl, ?_⟩; intro i3 gy; have ej := hm
     replace hzst := hzst.mono aV
     have gz : Mem B [] w0 Z0 ((.row b1 [str (rnumberS b 18).2.Reader.Row, i6 (rnumberS b 18).2.Reader.At, i6 (rnumberS b 18).2.Reader.Code, y8 (rnumberS b 18).2.Reader.c.last, i6 (rnumberS b 18).2.Reader.c.n, i6 b.f.ID, .bool b.f.Long, .bool b.f.Fast, .bool b.f.Remote, i6 b.f.Size, .slice cn b.f.Data.length co] 46) :: Rr) ei gw := ej
     refine nl (qnI (hJ _ _ ?_))
     exact ⟨cn, co, ak, bj, ba, a2, aS, aM, av, pt b1 0, i6 (rnumberS b 18).1, al, ah, ac, T, .row b1 [str (rnumberS b 18).2.Reader.Row, i6 (rnumberS b 18).2.Reader.At, i6 (rnumberS b 18).2.Reader.Code, y8 (rnumberS b 18).2.Reader.c.last, i6 (rnumberS b 18).2.Reader.c.n, i6 b.f.ID, .bool b.f.Long, .bool b.f.Fast, .bool b.f.Remote, i6 b.f.Size, .slice cn b.f.Data.length co] 46, ei, d.trans hzst, gy.reg, gz.perm lpr, ad, ae, ai, am, aw, aO, aT, kf, kf, (nt H), (nt I), (nt D), (nt E), nu, kf2, (nt u), (fun _ => gx)⟩
    ·
     obtain rfl := oj hi
     have l := hpre 8 (by kernel_rfl)
     have C := hpre 6 (by kernel_rfl)
     have R := hcl 8 7 (by kernel_rfl) l
     have F := hcl 6 5 (by kernel_rfl) C
     have z := hcl 5 4 (by kernel_rfl) F
     have y := hcl 4 3 (by kernel_rfl) z
     have x := hcl 3 2 (by kernel_rfl) y
     have N := hcl 2 1 (by kernel_rfl) x
     have H := hSi
     have I := ngF hcl 10 9 H
     have D := ngF hcl 11 9 H
     have E := ngF hcl 12 9 H
     have u := ngF hcl 13 9 H
     obtain rfl := ae N
     obtain rfl := ai x
     obtain rfl := am y
     obtain rfl := aw z
     obtain rfl := aO F
     obtain rfl := aT C
     obtain rfl := af R
     obtain rfl := an l
     obtain rfl := ax l u
     refine hG (any_step ?_); intro A J hJ
     have gA := ao l
     refine s1 hFx 48 (i6 (bOr .i64 (bShl .i64 b.f.ID 18) (rnumberS b 18).1)) ?_; intro jd gB
     refine nl (qnI (hJ _ _ ?_))
     exact ⟨L, M, ak, pt b1 0, pt b1 0, pt b1 5, pt b1 5, i6 b.f.ID, i6 (bShl .i64 b.f.ID 18), pt b1 0, i6 (rnumberS b 18).1, i6 (bOr .i64 (bShl .i64 b.f.ID 18) (rnumberS b 18).1), ah, ac, T, .row b1 [str (rnumberS b 18).2.Reader.Row, i6 (rnumberS b 18).2.Reader.At, i6 (rnumberS b 18).2.Reader.Code, y8 (rnumberS b 18).2.Reader.c.last, i6 (rnumberS b 18).2.Reader.c.n, i6 b.f.ID, .bool b.f.Long, .bool b.f.Fast, .bool b.f.Remote, i6 b.f.Size, .slice L b.f.Data.length M] 46, s, d, gB.reg, hMx.perm lpr, ad, kf, kf, kf, kf, kf, kf, kf, kf, kf, (nt I), (nt D), (nt E), (tn l), kf2, (nt u), (fun _ => gA)⟩
    ·
     obtain rfl := oj hi
     have H := hpre 9 (by kernel_rfl)
     have l := hpre 8 (by kernel_rfl)
     have R := hpre 7 (by kernel_rfl)
     have C := hpre 6 (by kernel_rfl)
     have F := hpre 5 (by kernel_rfl)
     have z := hpre 4 (by kernel_rfl)
     have y := hpre 3 (by kernel_rfl)
     have x := hpre 2 (by kernel_rfl)
     have N := hpre 1 (by kernel_rfl)
     have aJ := hpre 0 (by kernel_rfl)
     have I := hSi
     have D := ngF hcl 11 10 I
     have E := ngF hcl 12 11 D
     have u := ngF hcl 13 12 E
     obtain rfl := ad aJ
     obtain rfl := ae N
     obtain rfl := ai x
     obtain rfl := am y
     obtain rfl := aw z
     obtain rfl := aO F
     obtain rfl := aT C
     obtain rfl := af R
     obtain rfl := an l
     obtain rfl := bk H
     obtain rfl := ax l u
     refine hG (any_step ?_); intro A J hJ
     have gC := ao l
     refine s1 hFx 49 (pt b1 0) ?_; intro jm gD
     refine nl (qnI (hJ _ _ ?_))
     exact ⟨L, M, pt b1 0, pt b1 0, pt b1 0, pt b1 5, pt b1 5, i6 b.f.ID, i6 (bShl .i64 b.f.ID 18), pt b1 0, i6 (rnumberS b 18).1, i6 (bOr .i64 (bShl .i64 b.f.ID 18) (rnumberS b 18).1), pt b1 0, ac, T, .row b1 [str (rnumberS b 18).2.Reader.Row, i6 (rnumberS b 18).2.Reader.At, i6 (rnumberS b 18).2.Reader.Code, y8 (rnumberS b 18).2.Reader.c.last, i6 (rnumberS b 18).2.Reader.c.n, i6 b.f.ID, .bool b.f.Long, .bool b.f.Fast, .bool b.f.Remote, i6 b.f.Size, .slice L b.f.Data.length M] 46, s, d, gD.reg, hMx.perm lpr, kf, kf, kf, kf, kf, kf, kf, kf, kf, kf, kf, (nt D), (nt E), (tn l), kf2, (nt u), (fun _ => gC)⟩
    ·
     obtain rfl := oj hi
     have I := hpre 10 (by kernel_rfl)
     have H := hpre 9 (by kernel_rfl)
     have l := hpre 8 (by kernel_rfl)
     have R := hpre 7 (by kernel_rfl)
     have C := hpre 6 (by kernel_rfl)
     have F := hpre 5 (by kernel_rfl)
     have z := hpre 4 (by kernel_rfl)
     have y := hpre 3 (by kernel_rfl)
     have x := hpre 2 (by kernel_rfl)
     have N := hpre 1 (by kernel_rfl)
     have aJ := hpre 0 (by kernel_rfl)
     have D := hSi
     have E := ngF hcl 12 11 D
     have u := ngF hcl 13 12 E
     obtain rfl := ad aJ
     obtain rfl := ae N
     obtain rfl := ai x
     obtain rfl := am y
     obtain rfl := aw z
     obtain rfl := aO F
     obtain rfl := aT C
     obtain rfl := af R
     obtain rfl := an l
     obtain rfl := bk H
     obtain rfl := bF I
     obtain rfl := ax l u
     refine hG (any_step ?_); intro A J hJ
     have gE := ao l
     refine s1 hFx 50 (pt b1 5) ?_; intro jv gF
     refine nl (qnI (hJ _ _ ?_))
     exact ⟨L, M, pt b1 0, pt b1 0, pt b1 0, pt b1 5, pt b1 5, i6 b.f.ID, i6 (bShl .i64 b.f.ID 18), pt b1 0, i6 (rnumberS b 18).1, i6 (bOr .i64 (bShl .i64 b.f.ID 18) (rnumberS b 18).1), pt b1 0, pt b1 5, T, .row b1 [str (rnumberS b 18).2.Reader.Row, i6 (rnumberS b 18).2.Reader.At, i6 (rnumberS b 18).2.Reader.Code, y8 (rnumberS b 18).2.Reader.c.last, i6 (rnumberS b 18).2.Reader.c.n, i6 b.f.ID, .bool b.f.Long, .bool b.f.Fast, .bool b.f.Remote, i6 b.f.Size, .slice L b.f.Data.length M] 46, s, d, gF.reg, hMx.perm lpr, kf, kf, kf, kf, kf, kf, kf, kf, kf, kf, kf, kf, (nt E), (tn l), kf2, (nt u), (fun _ => gE)⟩
    ·
     obtain rfl := oj hi
     have D := hpre 11 (by kernel_rfl)
     have H := hpre 9 (by kernel_rfl)
     have l := hpre 8 (by kernel_rfl)
     have R := hpre 7 (by kernel_rfl)
     have C := hpre 6 (by kernel_rfl)
     have F := hpre 5 (by kernel_rfl)
     have z := hpre 4 (by kernel_rfl)
     have y := hpre 3 (by kernel_rfl)
     have x := hpre 2 (by kernel_rfl)
     have N := hpre 1 (by kernel_rfl)
     have aJ := hpre 0 (by kernel_rfl)
     have I := hcl 11 10 (by kernel_rfl) D
     have E := hSi
     have u := ngF hcl 13 12 E
     obtain rfl := ad aJ
     obtain rfl := ae N
     obtain rfl := ai x
     obtain rfl := am y
     obtain rfl := aw z
     obtain rfl := aO F
     obtain rfl := aT C
     obtain rfl := af R
     obtain rfl := an l
     obtain rfl := bk H
     obtain rfl := bF I
     obtain rfl := bY D
     obtain rfl := ax l u
     refine hG (any_step ?_); intro A J hJ
     have gG := ao l
     refine s1 hFx 51 (pt b1 5) ?_; intro jE gH
     refine nl (qnI (hJ _ _ ?_))
     exact ⟨L, M, pt b1 0, pt b1 0, pt b1 0, pt b1 5, pt b1 5, i6 b.f.ID, i6 (bShl .i64 b.f.ID 18), pt b1 0, i6 (rnumberS b 18).1, i6 (bOr .i64 (bShl .i64 b.f.ID 18) (rnumberS b 18).1), pt b1 0, pt b1 5, pt b1 5, .row b1 [str (rnumberS b 18).2.Reader.Row, i6 (rnumberS b 18).2.Reader.At, i6 (rnumberS b 18).2.Reader.Code, y8 (rnumberS b 18).2.Reader.c.last, i6 (rnumberS b 18).2.Reader.c.n, i6 b.f.ID, .bool b.f.Long, .bool b.f.Fast, .bool b.f.Remote, i6 b.f.Size, .slice L b.f.Data.length M] 46, s, d, gH.reg, hMx.perm lpr, kf, kf, kf, kf, kf, kf, kf, kf, kf, kf, kf, kf, kf, (tn l), kf2, (nt u), (fun _ => gG)⟩
    obtain rfl := oj hi
    have E := hpre 12 (by kernel_rfl)
    have H := hpre 9 (by kernel_rfl)
    have l := hpre 8 (by kernel_rfl)
    have R := hpre 7 (by kernel_rfl)
    have C := hpre 6 (by kernel_rfl)
    have F := hpre 5 (by kernel_rfl)
    have z := hpre 4 (by kernel_rfl)
    have y := hpre 3 (by kernel_rfl)
    have x := hpre 2 (by kernel_rfl)
    have N := hpre 1 (by kernel_rfl)
    have aJ := hpre 0 (by kernel_rfl)
    have D := hcl 12 11 (by kernel_rfl) E
    have I := hcl 11 10 (by kernel_rfl) D
    have u := hSi
    obtain rfl := ad aJ
    obtain rfl := ae N
    obtain rfl := ai x
    obtain rfl := am y
    obtain rfl := aw z
    obtain rfl := aO F
    obtain rfl := aT C
    obtain rfl := af R
    obtain rfl := an l
    obtain rfl := bk H
    obtain rfl := bF I
    obtain rfl := bY D
    obtain rfl := cl E
    obtain rfl := ax l u
    refine hG (any_step ?_); intro A J hJ
    have gI := ao l
    refine sx hFx hMx 0 [str (rnumberS b 18).2.Reader.Row, i6 (rnumberS b 18).2.Reader.At, i6 (rnumberS b 18).2.Reader.Code, y8 (rnumberS b 18).2.Reader.c.last, i6 (rnumberS b 18).2.Reader.c.n, i6 (bOr .i64 (bShl .i64 b.f.ID 18) (rnumberS b 18).1), .bool b.f.Long, .bool b.f.Fast, .bool b.f.Remote, i6 b.f.Size, .slice L b.f.Data.length M] 5 ?_; intro jN gJ
    refine nl (qnI (hJ _ _ ?_))
    exact ⟨L, M, pt b1 0, pt b1 0, pt b1 0, pt b1 5, pt b1 5, i6 b.f.ID, i6 (bShl .i64 b.f.ID 18), pt b1 0, i6 (rnumberS b 18).1, i6 (bOr .i64 (bShl .i64 b.f.ID 18) (rnumberS b 18).1), pt b1 0, pt b1 5, pt b1 5, .row b1 [str (rnumberS b 18).2.Reader.Row, i6 (rnumberS b 18).2.Reader.At, i6 (rnumberS b 18).2.Reader.Code, y8 (rnumberS b 18).2.Reader.c.last, i6 (rnumberS b 18).2.Reader.c.n, i6 (bOr .i64 (bShl .i64 b.f.ID 18) (rnumberS b 18).1), .bool b.f.Long, .bool b.f.Fast, .bool b.f.Remote, i6 b.f.Size, .slice L b.f.Data.length M] 46, s, d, hFx.reg, gJ.perm lpr, kf, kf, kf, kf, kf, kf, kf, kf, kf, kf, kf, kf, kf, (tn l), (fun _ => nu), kf, (fun _ => gI)⟩
   case hE =>
    intro S hS gK jO hI; refine Go.Sy.hid ?_; intro G hG; obtain ⟨L, M, ak, bj, ba, a2, aS, aM, av, aN, aH, al, ah, ac, T, aI, s, d, hFx, hMx, ad, ae, ai, am, aw, hI⟩ := hI; obtain ⟨aO, aT, af, an, bk, bF, bY, cl, aU, ax, ea, hI⟩ := hI; have ao := hI; refine hG ?_
    obtain rfl := ad (hS 0 (by decide))
    obtain rfl := ae (hS 1 (by decide))
    obtain rfl := ai (hS 2 (by decide))
    obtain rfl := am (hS 3 (by decide))
    obtain rfl := aw (hS 4 (by decide))
    obtain rfl := aO (hS 5 (by decide))
    obtain rfl := aT (hS 6 (by decide))
    obtain rfl := af (hS 7 (by decide))
    obtain rfl := an (hS 8 (by decide))
    obtain rfl := bk (hS 9 (by decide))
    obtain rfl := bF (hS 10 (by decide))
    obtain rfl := bY (hS 11 (by decide))
    obtain rfl := cl (hS 12 (by decide))
    obtain rfl := ea (hS 13 (by decide))
    have cp := ab.mono d
    have cq := ao (hS 8 (by decide))
    apply t_
    have er : Fr 97 [] [⟨0, [], pt b1 0⟩] gK := hFx.reg
    refine rgH ?_; intro gL es
    refine bt er hMx 4 [] [] [(52, pt b1 0), (55, pt b1 0)] ?_; intro jP et
    obtain ⟨gM, eu⟩ := f7
    refine ck et 21 #[pt b1 0, i6 1] ?_
    obtain ⟨p, gN, ev⟩ := hxq eu
    have m := rtakeF_fun (⟨(rnumberS b 18).2.Reader, (⟨bOr .i64 (bShl .i64 b.f.ID 18) (rnumberS b 18).1, b.f.Long, b.f.Fast, b.f.Remote, b.f.Size, b.f.Data⟩ : Frame)⟩ : FReader) 1 gM b1 L M _ _ _ _ _ _ cq hMx hMx.fz; rw [gN] at m; refine m.mono ?_; rintro _ gO ⟨bZ, b0, cr, rfl, aW, ew, hm⟩; refine ⟨_, rfl, ?_⟩; intro jQ ex; have ey := hm
    replace cp := cp.mono aW
    have cs : Mem B [] w0 Z0 ((.row b1 (e46Ernames p.2 bZ b0) 46) :: Rr) cr gO := ey
    have gP := ev (ew.small)
    refine bt ex cs 4 [] [154] [(57, .bool (p.1 == ([49] : List UInt8))), (60, pt b1 8)] ?_; intro jR ez
    refine sx ez cs 0 [str p.2.Reader.Row, i6 p.2.Reader.At, i6 p.2.Reader.Code, y8 p.2.Reader.c.last, i6 p.2.Reader.c.n, i6 p.2.f.ID, .bool p.2.f.Long, .bool p.2.f.Fast, .bool (p.1 == ([49] : List UInt8)), i6 p.2.f.Size, .slice bZ p.2.f.Data.length b0] 8 ?_; intro gQ eA
    have gR : Mem B [] w0 Z0 ((.row b1 [str p.2.Reader.Row, i6 p.2.Reader.At, i6 p.2.Reader.Code, y8 p.2.Reader.c.last, i6 p.2.Reader.c.n, i6 p.2.f.ID, .bool p.2.f.Long, .bool p.2.f.Fast, .bool (p.1 == ([49] : List UInt8)), i6 p.2.f.Size, .slice bZ p.2.f.Data.length b0] 46) :: Rr) cr gQ := eA
    apply es
    exact d_ (c7 (⟨p.2.Reader, (⟨p.2.f.ID, p.2.f.Long, p.2.f.Fast, p.1 == ([49] : List UInt8), p.2.f.Size, p.2.f.Data⟩ : Frame)⟩ : FReader) bZ b0 cr ⟨gP, ew, cp⟩ _ _ ((ez.reg).anyβ _ (by kernel_rfl)) (gR.kp))
  have b2 := Fz.le.refl aX
  refine c_ d7 bX (fun _ eB => ?_) fun _ gY => ?_
  ·
   refine rgH ?_; intro gS eC
   refine s1 d7 37 (pt b1 0) ?_; intro jS eD
   refine ck eD 19 #[pt b1 0, i6 4] ?_
   obtain ⟨aK, gT, eE⟩ := hxq eB
   have m := rfail_fun (⟨g.2.Reader, (⟨g.2.f.ID, g.1 == ([49] : List UInt8), g.2.f.Fast, O.1 == ([49] : List UInt8), g.2.f.Size, g.2.f.Data⟩ : Frame)⟩ : FReader) 4 b1 a4 a5 _ _ _ _ _ _ a6 aY aY.fz; rw [gT] at m; refine m.mono ?_; rintro _ gU ⟨eF, eG, eH, rfl, bb, eI, hm⟩; refine ⟨_, rfl, ?_⟩; intro jT gV; have eJ := hm
   replace b2 := b2.mono bb
   have gW : Mem B [] w0 Z0 ((.row b1 (e46Ernames aK eF eG) 46) :: Rr) eH gU := eJ
   have gX := eE (eI.small)
   apply eC
   exact d_ (d8 aK eF eG eH ⟨gX, eI, b2⟩ _ _ ((gV.reg).anyβ _ (by kernel_rfl)) (gW.kp))
  exact l_ (d_ (d8 (⟨g.2.Reader, (⟨g.2.f.ID, g.1 == ([49] : List UInt8), g.2.f.Fast, O.1 == ([49] : List UInt8), g.2.f.Size, g.2.f.Data⟩ : Frame)⟩ : FReader) a4 a5 aX ⟨gY, a6, b2⟩ _ _ ((d7.reg).anyβ _ (by kernel_rfl)) (aY.kp)))
 exact l_ (d_ (c7 (⟨g.2.Reader, (⟨g.2.f.ID, g.1 == ([49] : List UInt8), g.2.f.Fast, O.1 == ([49] : List UInt8), g.2.f.Size, g.2.f.Data⟩ : Frame)⟩ : FReader) a4 a5 aX ⟨gZ, a6, bW⟩ _ _ ((c6.reg).anyβ _ (by kernel_rfl)) (aY.kp)))

end Go.Proofs.YtmnlahbngbigdaaGreatDoor
set_option linter.unusedVariables false
set_option linter.unusedSimpArgs false
set_option maxRecDepth 100000
set_option maxHeartbeats 0
namespace Go.Proofs.YtmnlahbngbigdaaGreatDoor
open Go.Sy Go.RowKit
abbrev e46Erfast (X : FReader) (A0 : Option Addr) (C0 : Nat) : List Value := [str X.Reader.Row, i6 X.Reader.At, i6 X.Reader.Code, y8 X.Reader.c.last, i6 X.Reader.c.n, i6 X.f.ID, .bool X.f.Long, .bool X.f.Fast, .bool X.f.Remote, i6 X.f.Size, .slice A0 X.f.Data.length C0]
theorem rfast_walk (u0 : FReader) (b1 : Nat) (ao2 : Option Addr) (cap3 : Nat) (B : Nat) (w0 : World) (Z0 : Fz) (Rr : List Res) (Z : Fz) (w : World) (hs4 : SlR t8 Z ao2 cap3 u0.f.Data) (hM0 : Mem B [] w0 Z0 ((.row b1 [str u0.Reader.Row, i6 u0.Reader.At, i6 u0.Reader.Code, y8 u0.Reader.c.last, i6 u0.Reader.c.n, i6 u0.f.ID, .bool u0.f.Long, .bool u0.f.Fast, .bool u0.f.Remote, i6 u0.f.Size, .slice ao2 u0.f.Data.length cap3] 46) :: Rr) Z w) (hZ : Z.on w) {K : FReader → Prop} (hp : rfast_vc u0 K) : Calls Tryz.prog 23 #[pt b1 0] w fun e w' => ∃ (r : FReader) (ao1001 : Option Addr) (cap1002 : Nat) (Z' : Fz), e = .returned (.tuple #[]) ∧ K r ∧ Fz.le Z Z' ∧ SlR t8 Z' ao1001 cap1002 r.f.Data ∧ Mem B [] w0 Z0 ((.row b1 [str r.Reader.Row, i6 r.Reader.At, i6 r.Reader.Code, y8 r.Reader.c.last, i6 r.Reader.c.n, i6 r.f.ID, .bool r.f.Long, .bool r.f.Fast, .bool r.f.Remote, i6 r.f.Size, .slice ao1001 r.f.Data.length cap1002] 46) :: Rr) Z' w' := by
 refine enter0 Tryz.func23 rfl rfl (by kernel_rfl) ?_; intro a0 bD; have o := Fz.le.refl Z
 have ak := hp (hs4.small)
 refine s_ (sqB bD hM0 [0] [] [(15, .bool (u0.Reader.Code != 0))] ?_); intro eq ac
 refine c_ ac ak (fun _ er => ?_) fun _ es => ?_
 ·
  refine r_ (h_ (rt (fn := Tryz.f23) (v := .tuple #[]) ac (re0 ac (fn := Tryz.f23) rfl) ?_))
  exact ⟨u0, ao2, cap3, Z, rfl, er, o, hs4, hM0.kp⟩
 apply k_
 have bE : Fr 119 [] [⟨0, [], pt b1 0⟩] eq := ac.reg
 refine sqQH mixed (by kernel_rfl) hM0 ?_; intro et bF
 refine q1 bE 16 (pt b1 0) ?_; intro fX bG
 refine q1 bG 17 (pt b1 0) ?_; intro fY bH
 refine q1 bH 18 (pt b1 0) ?_; intro fZ bI
 refine q1 bI 19 (pt b1 0) ?_; intro f0 bd
 refine ql_ bd 0 0 (str u0.Reader.Row) rfl rfl ?_; intro f1 bJ
 refine q1 bJ 21 (pt b1 0) ?_; intro f2 bK
 refine q1 bK 22 (pt b1 0) ?_; intro f3 bL
 refine q1 bL 23 (pt b1 0) ?_; intro f4 bM
 refine q1 bM 24 (pt b1 1) ?_; intro f5 be
 refine ql_ be 0 1 (i6 u0.Reader.At) rfl rfl ?_; intro f6 bf
 obtain ⟨eu, ev⟩ := es
 refine qu_ bf (str (u0.Reader.Row.take u0.Reader.At.toNat)) (fun v54 hC => strslH_run bf (g := []) (k := .i64) rfl (by kernel_rfl) (by kernel_rfl) (by kernel_rfl) eu rfl) ?_; intro f7 bN
 refine q1 bN 2 (str (u0.Reader.Row.take u0.Reader.At.toNat)) ?_; intro f8 bO
 refine qnl (bF _ ?_); intro f9 al
 refine sqH ?_; intro ew bP
 refine bt bO al 6 [0] [] [(28, i6 ((u0.Reader.Row.take u0.Reader.At.toNat).length : Int)), (32, .agg #[i6 u0.f.ID, .bool u0.f.Long, .bool u0.f.Fast, .bool u0.f.Remote, i6 u0.f.Size, .slice ao2 u0.f.Data.length cap3])] ?_; intro ga bQ
 obtain ⟨ex, ey⟩ := ev
 refine fc bQ al (fhead_fun u0.f ex ao2 cap3 _ _ hs4 al.fz) ?_; intro gb gc bR am
 refine bt bR am 2 [] [] [(35, i6 (w64 (((u0.Reader.Row.take u0.Reader.At.toNat).length : Int) - ((fheadS u0.f).length : Int))))] ?_; intro gd bS
 obtain ⟨ez, eA⟩ := ey
 refine fc bS am (fcount_fun (w64 (((u0.Reader.Row.take u0.Reader.At.toNat).length : Int) - ((fheadS u0.f).length : Int))) ez _ _ am.fz) ?_; intro ge gf bT an
 refine s1 bT 3 (str (fcountS (w64 (((u0.Reader.Row.take u0.Reader.At.toNat).length : Int) - ((fheadS u0.f).length : Int))))) ?_; intro gg bU
 apply bP
 refine sqH ?_; intro eB bV
 refine bt bU an 4 [0] [] [(41, .agg #[i6 u0.f.ID, .bool u0.f.Long, .bool u0.f.Fast, .bool u0.f.Remote, i6 u0.f.Size, .slice ao2 u0.f.Data.length cap3])] ?_; intro gh bW
 refine fc bW an (fkind_fun u0.f ao2 cap3 _ _ hs4 an.fz) ?_; intro gi gj bX ao
 refine bt bX ao 2 [] [] [(43, str (u0.Reader.Row.take u0.Reader.At.toNat)), (44, str (fcountS (w64 (((u0.Reader.Row.take u0.Reader.At.toNat).length : Int) - ((fheadS u0.f).length : Int)))))] ?_; intro gk bY
 obtain ⟨eC, eD⟩ := eA
 refine sa bY eC ?_; intro gl bZ
 refine fc bZ ao (csum_fun (fkind u0.f) ((u0.Reader.Row.take u0.Reader.At.toNat) ++ (fcountS (w64 (((u0.Reader.Row.take u0.Reader.At.toNat).length : Int) - ((fheadS u0.f).length : Int))))) _ _ ao.fz) ?_; intro gm gn b0 T
 refine bt b0 T 5 [] [] [(4, str (csumS (fkind u0.f) ((u0.Reader.Row.take u0.Reader.At.toNat) ++ (fcountS (w64 (((u0.Reader.Row.take u0.Reader.At.toNat).length : Int) - ((fheadS u0.f).length : Int)))))).1)] ?_; intro go b2
 apply bV
 refine sqH ?_; intro eE b3
 refine bt b2 T 2 [] [] [(50, str (fcountS (w64 (((u0.Reader.Row.take u0.Reader.At.toNat).length : Int) - ((fheadS u0.f).length : Int))))), (51, str (csumS (fkind u0.f) ((u0.Reader.Row.take u0.Reader.At.toNat) ++ (fcountS (w64 (((u0.Reader.Row.take u0.Reader.At.toNat).length : Int) - ((fheadS u0.f).length : Int)))))).1)] ?_; intro gp b4
 obtain ⟨eF, eG⟩ := eD
 refine sa b4 eF ?_; intro gq b5
 refine bt b5 T 4 [] [] [(53, str (u0.Reader.Row.take u0.Reader.At.toNat)), (56, i6 (w64 (((u0.Reader.Row.take u0.Reader.At.toNat).length : Int) - 1)))] ?_; intro gr b6
 obtain ⟨eH, eI⟩ := eG
 obtain ⟨j, b7⟩ : ∃ q, (u0.Reader.Row.take u0.Reader.At.toNat)[(w64 (((u0.Reader.Row.take u0.Reader.At.toNat).length : Int) - 1)).toNat]? = some q := ⟨_, List.getElem?_eq_getElem (by omega)⟩; have eJ := eI j b7
 refine si b6 .i64 eH.1 b7 ?_; intro gs b8
 refine fc b8 T (sfixed_fun ((fcountS (w64 (((u0.Reader.Row.take u0.Reader.At.toNat).length : Int) - ((fheadS u0.f).length : Int)))) ++ (csumS (fkind u0.f) ((u0.Reader.Row.take u0.Reader.At.toNat) ++ (fcountS (w64 (((u0.Reader.Row.take u0.Reader.At.toNat).length : Int) - ((fheadS u0.f).length : Int)))))).1) (j.toNat : Int) _ _ T.fz) ?_; intro gt gu b9 ad
 refine bt b9 ad 5 [] [] [(6, str (sfixedS ((fcountS (w64 (((u0.Reader.Row.take u0.Reader.At.toNat).length : Int) - ((fheadS u0.f).length : Int)))) ++ (csumS (fkind u0.f) ((u0.Reader.Row.take u0.Reader.At.toNat) ++ (fcountS (w64 (((u0.Reader.Row.take u0.Reader.At.toNat).length : Int) - ((fheadS u0.f).length : Int)))))).1) (j.toNat : Int)).1)] ?_; intro eK ca
 apply b3
 have cb : Fr 119 [] [⟨0, [], pt b1 0⟩, ⟨2, [], str (u0.Reader.Row.take u0.Reader.At.toNat)⟩, ⟨6, [], str (sfixedS ((fcountS (w64 (((u0.Reader.Row.take u0.Reader.At.toNat).length : Int) - ((fheadS u0.f).length : Int)))) ++ (csumS (fkind u0.f) ((u0.Reader.Row.take u0.Reader.At.toNat) ++ (fcountS (w64 (((u0.Reader.Row.take u0.Reader.At.toNat).length : Int) - ((fheadS u0.f).length : Int)))))).1) (j.toNat : Int)).1⟩] eK := ca.reg
 refine sqH ?_; intro eL cc
 refine bt cb ad 5 [] [] [(63, pt b1 0), (65, i6 ((sfixedS ((fcountS (w64 (((u0.Reader.Row.take u0.Reader.At.toNat).length : Int) - ((fheadS u0.f).length : Int)))) ++ (csumS (fkind u0.f) ((u0.Reader.Row.take u0.Reader.At.toNat) ++ (fcountS (w64 (((u0.Reader.Row.take u0.Reader.At.toNat).length : Int) - ((fheadS u0.f).length : Int)))))).1) (j.toNat : Int)).1.length : Int))] ?_; intro gv ce
 obtain ⟨eM, cf⟩ := eJ
 refine ck ce 26 #[pt b1 0, i6 ((sfixedS ((fcountS (w64 (((u0.Reader.Row.take u0.Reader.At.toNat).length : Int) - ((fheadS u0.f).length : Int)))) ++ (csumS (fkind u0.f) ((u0.Reader.Row.take u0.Reader.At.toNat) ++ (fcountS (w64 (((u0.Reader.Row.take u0.Reader.At.toNat).length : Int) - ((fheadS u0.f).length : Int)))))).1) (j.toNat : Int)).1.length : Int)] ?_
 obtain ⟨h, eN, cg⟩ := hxq cf
 have l := rplainF_fun u0 ((sfixedS ((fcountS (w64 (((u0.Reader.Row.take u0.Reader.At.toNat).length : Int) - ((fheadS u0.f).length : Int)))) ++ (csumS (fkind u0.f) ((u0.Reader.Row.take u0.Reader.At.toNat) ++ (fcountS (w64 (((u0.Reader.Row.take u0.Reader.At.toNat).length : Int) - ((fheadS u0.f).length : Int)))))).1) (j.toNat : Int)).1.length : Int) eM b1 ao2 cap3 _ _ _ _ _ _ hs4 ad ad.fz; rw [eN] at l; refine l.mono ?_; rintro _ eO ⟨ch, ci, bg, rfl, cl, bh, hm⟩; refine ⟨_, rfl, ?_⟩; intro gw cm; have cn := hm
 replace o := Fz.le.trans o cl
 have bi : Mem B [] w0 Z0 ((.row b1 (e46Erfast h.2 ch ci) 46) :: Rr) bg eO := cn
 have eP := cg (bh.small)
 refine s1 cm 8 (str h.1) ?_; intro gx co
 apply cc
 refine s_ (sqB co bi [] [] [(68, i6 (h.1.length : Int)), (69, i6 0)] ?_); intro cp cq
 apply b_
 have cr : Fr 119 [] [⟨0, [], pt b1 0⟩, ⟨2, [], str (u0.Reader.Row.take u0.Reader.At.toNat)⟩, ⟨6, [], str (sfixedS ((fcountS (w64 (((u0.Reader.Row.take u0.Reader.At.toNat).length : Int) - ((fheadS u0.f).length : Int)))) ++ (csumS (fkind u0.f) ((u0.Reader.Row.take u0.Reader.At.toNat) ++ (fcountS (w64 (((u0.Reader.Row.take u0.Reader.At.toNat).length : Int) - ((fheadS u0.f).length : Int)))))).1) (j.toNat : Int)).1⟩, ⟨8, [], str h.1⟩, ⟨68, [], i6 (h.1.length : Int)⟩, ⟨69, [], i6 0⟩] cp := cq.reg
 obtain ⟨eQ, eR, eS, eT⟩ := eP
 refine lp (ι := Int × FReader × (Option Addr) × Nat × Fz) (fun s => [⟨0, [], pt b1 0⟩, ⟨2, [], str (u0.Reader.Row.take u0.Reader.At.toNat)⟩, ⟨6, [], str (sfixedS ((fcountS (w64 (((u0.Reader.Row.take u0.Reader.At.toNat).length : Int) - ((fheadS u0.f).length : Int)))) ++ (csumS (fkind u0.f) ((u0.Reader.Row.take u0.Reader.At.toNat) ++ (fcountS (w64 (((u0.Reader.Row.take u0.Reader.At.toNat).length : Int) - ((fheadS u0.f).length : Int)))))).1) (j.toNat : Int)).1⟩, ⟨8, [], str h.1⟩, ⟨68, [], i6 (h.1.length : Int)⟩, ⟨69, [], i6 s.1⟩]) (fun s => ((.row b1 [str s.2.1.Reader.Row, i6 s.2.1.Reader.At, i6 s.2.1.Reader.Code, y8 s.2.1.Reader.c.last, i6 s.2.1.Reader.c.n, i6 s.2.1.f.ID, .bool s.2.1.f.Long, .bool s.2.1.f.Fast, .bool s.2.1.f.Remote, i6 s.2.1.f.Size, .slice s.2.2.1 s.2.1.f.Data.length s.2.2.2.1] 46) :: Rr)) (fun s => s.2.2.2.2) (fun s => eQ s.1 s.2.1 ∧ SlR t8 s.2.2.2.2 s.2.2.1 s.2.2.2.1 s.2.1.f.Data ∧ Fz.le bg s.2.2.2.2) (fun s => eR s.1 s.2.1) ⟨0, h.2, ch, ci, bg⟩ ⟨eS, bh, Fz.le.refl _⟩ (by exact cr.reg) (by exact bi) ?_
 rintro ⟨a, i, I, J, P⟩ ⟨eU, p, A⟩ eV eW cu cv
 have ap := eT a i eU
 replace o := Fz.le.trans o A
 refine sqB cu cv [] [] [(70, .bool (decide (a < (h.1.length : Int))))] ?_; intro cx ae
 refine s_ (c_ ae ap (fun _ eX => ?_) fun _ bb => ?_)
 ·
  apply k_
  have cy : Fr 119 [] [⟨0, [], pt b1 0⟩, ⟨2, [], str (u0.Reader.Row.take u0.Reader.At.toNat)⟩, ⟨6, [], str (sfixedS ((fcountS (w64 (((u0.Reader.Row.take u0.Reader.At.toNat).length : Int) - ((fheadS u0.f).length : Int)))) ++ (csumS (fkind u0.f) ((u0.Reader.Row.take u0.Reader.At.toNat) ++ (fcountS (w64 (((u0.Reader.Row.take u0.Reader.At.toNat).length : Int) - ((fheadS u0.f).length : Int)))))).1) (j.toNat : Int)).1⟩, ⟨8, [], str h.1⟩, ⟨68, [], i6 (h.1.length : Int)⟩, ⟨69, [], i6 a⟩] cx := ae.reg
  obtain ⟨eY, aq, eZ⟩ := eX
  refine wp_seq_k fun KJ232 hKJ233 => ?_
  have Q : ∀ (u : FReader) (ar : Option Addr) (au : Nat) (af : Fz), eY u ∧ SlR t8 af ar au u.f.Data ∧ Fz.le P af → ∀ a1 w1, Fr 119 [] [⟨0, [], pt b1 0⟩, ⟨2, [], str (u0.Reader.Row.take u0.Reader.At.toNat)⟩, ⟨6, [], str (sfixedS ((fcountS (w64 (((u0.Reader.Row.take u0.Reader.At.toNat).length : Int) - ((fheadS u0.f).length : Int)))) ++ (csumS (fkind u0.f) ((u0.Reader.Row.take u0.Reader.At.toNat) ++ (fcountS (w64 (((u0.Reader.Row.take u0.Reader.At.toNat).length : Int) - ((fheadS u0.f).length : Int)))))).1) (j.toNat : Int)).1⟩, ⟨8, [], str h.1⟩, ⟨68, [], i6 (h.1.length : Int)⟩, ⟨69, [], i6 a⟩] a1 → Mem B [] w0 Z0 ((.row b1 (e46Erfast u ar au) 46) :: Rr) af w1 → KJ232 a1 w1 := by
   rintro u ar au af ⟨e0, e1, ag⟩ gz gA cz cA
   refine hKJ233 _ _ ?_
   have cB := eZ u e0
   have e2 := A.mono ag
   refine rgB cz cA [] [] [(69, i6 (w64 (a + 1)))] ?_; intro gE e3
   exact d_ ⟨⟨w64 (a + 1), u, ar, au, af⟩, ⟨cB.1, e1, e2⟩, cB.2, (e3.reg).anyβ _ (by kernel_rfl), cA.kp⟩
  have z := Fz.le.refl P
  refine b_ (sqB cy cv [] [] [(9, i6 a)] ?_); intro e4 cC
  have cD : Fr 119 [] [⟨0, [], pt b1 0⟩, ⟨2, [], str (u0.Reader.Row.take u0.Reader.At.toNat)⟩, ⟨6, [], str (sfixedS ((fcountS (w64 (((u0.Reader.Row.take u0.Reader.At.toNat).length : Int) - ((fheadS u0.f).length : Int)))) ++ (csumS (fkind u0.f) ((u0.Reader.Row.take u0.Reader.At.toNat) ++ (fcountS (w64 (((u0.Reader.Row.take u0.Reader.At.toNat).length : Int) - ((fheadS u0.f).length : Int)))))).1) (j.toNat : Int)).1⟩, ⟨8, [], str h.1⟩, ⟨9, [], i6 a⟩, ⟨68, [], i6 (h.1.length : Int)⟩, ⟨69, [], i6 a⟩] e4 := cC.reg
  refine sqQH mixed (by kernel_rfl) cv ?_; intro ah L
  refine q1 cD 72 (i6 a) ?_; intro gF cE
  refine q1 cE 73 (i6 (a.tmod 5)) ?_; intro gG cF
  refine q1 cF 74 (.bool ((a.tmod 5) == 0)) ?_; intro gH cG
  refine q1 cG 75 (.bool ((a.tmod 5) == 0)) ?_; intro gI cH
  have bm := cH.atom (((a.tmod 5) == 0) == true) (by kernel_rfl)
  refine qgd bm (i6 a) (m := 0) (cj := []) (bj := (a.tmod 5) == 0) rfl rfl (by kernel_rfl) rfl (by kernel_rfl) (by kernel_rfl) (by kernel_rfl) (fun hg => qat_ok (fun v271 hC => pu bm (g := [0]) (by kernel_rfl) hg)) ?_; intro gJ bn
  refine qgd bn (.bool (decide (a > 0))) (m := 0) (cj := []) (bj := (a.tmod 5) == 0) rfl rfl (by kernel_rfl) rfl (by kernel_rfl) (by kernel_rfl) (by kernel_rfl) (fun hg => qat_ok (fun v274 hC => pu bn (g := [0]) (by kernel_rfl) hg)) ?_; intro gK bo
  refine qu_ bo (.bool (((a.tmod 5) == 0) && (decide (a > 0)))) (fun v277 hC => pk_and bo (g := []) (m := 0) (b := (a.tmod 5) == 0) (v := decide (a > 0)) rfl (by kernel_rfl) (by kernel_rfl) (by kernel_rfl) rfl) ?_; intro gL cI
  refine q1 cI 79 (.bool (((a.tmod 5) == 0) && (decide (a > 0)))) ?_; intro gM cJ
  have bp := cJ.atom ((((a.tmod 5) == 0) && (decide (a > 0))) == true) (by kernel_rfl)
  refine qgd bp (str h.1) (m := 1) (cj := []) (bj := ((a.tmod 5) == 0) && (decide (a > 0))) rfl rfl (by kernel_rfl) rfl (by kernel_rfl) (by kernel_rfl) (by kernel_rfl) (fun hg => qat_ok (fun v284 hC => pu bp (g := [1]) (by kernel_rfl) hg)) ?_; intro gN bq
  refine qgd bq (i6 a) (m := 1) (cj := []) (bj := ((a.tmod 5) == 0) && (decide (a > 0))) rfl rfl (by kernel_rfl) rfl (by kernel_rfl) (by kernel_rfl) (by kernel_rfl) (fun hg => qat_ok (fun v287 hC => pu bq (g := [1]) (by kernel_rfl) hg)) ?_; intro gO av
  refine e_ aq (fun O e5 => ?_) fun O aS => ?_
  ·
   have cK := av.reval (d := 79) (c := []) (v := .bool (((a.tmod 5) == 0) && (decide (a > 0)))) (by kernel_rfl) (.bool true) (by rw [O])
   have cL := cK.setc (d := 80) (c := [1]) (v := str h.1) (by kernel_rfl) (v' := str h.1) (by rw [O]; kernel_rfl)
   have aw := cL.setc (d := 81) (c := [1]) (v := i6 a) (by kernel_rfl) (v' := i6 a) (by rw [O]; kernel_rfl)
   obtain ⟨e6, e7⟩ := e5
   obtain ⟨C, cM⟩ : ∃ q, h.1[a.toNat]? = some q := ⟨_, List.getElem?_eq_getElem (by omega)⟩; have e8 := e7 C cM
   refine qst aw (y8 (C.toNat : Int)) (wK aw true) rfl (by kernel_rfl) (fun v295 hC => stridx_run aw (k := .i64) rfl (by kernel_rfl) (by kernel_rfl) (by kernel_rfl) e6.1 cM) ?_; intro gP ax
   refine qg_ ax true (str h.1) ?_; intro gQ ay
   refine qg_ ay true (i6 a) ?_; intro gR az
   refine qg_ az true (i6 (w64 (a - 1))) ?_; intro gS aA
   obtain ⟨e9, fa⟩ := e8
   obtain ⟨D, cN⟩ : ∃ q, h.1[(w64 (a - 1)).toNat]? = some q := ⟨_, List.getElem?_eq_getElem (by omega)⟩; have aB := fa D cN
   refine qst aA (y8 (D.toNat : Int)) (wK aA true) rfl (by kernel_rfl) (fun v312 hC => stridx_run aA (k := .i64) rfl (by kernel_rfl) (by kernel_rfl) (by kernel_rfl) e9.1 cN) ?_; intro gT aC
   refine qg_ aC true (.bool ((C.toNat : Int) == (D.toNat : Int))) ?_; intro gU cO
   refine q1 cO 88 (.bool ((C.toNat : Int) == (D.toNat : Int))) ?_; intro gV cP
   refine q1 cP 89 (.bool ((C.toNat : Int) == (D.toNat : Int))) ?_; intro gW cQ
   have br := cQ.atom (((C.toNat : Int) == (D.toNat : Int)) == false) (by kernel_rfl)
   refine qgd br (i6 a) (m := 2) (cj := []) (bj := (C.toNat : Int) == (D.toNat : Int)) rfl rfl (by kernel_rfl) rfl (by kernel_rfl) (by kernel_rfl) (by kernel_rfl) (fun hg => qat_ok (fun v330 hC => pu br (g := [2]) (by kernel_rfl) hg)) ?_; intro gX bs
   refine qgd bs (.bool (a == 0)) (m := 2) (cj := []) (bj := (C.toNat : Int) == (D.toNat : Int)) rfl rfl (by kernel_rfl) rfl (by kernel_rfl) (by kernel_rfl) (by kernel_rfl) (fun hg => qat_ok (fun v333 hC => pu bs (g := [2]) (by kernel_rfl) hg)) ?_; intro gY bu
   refine qgd bu (.bool (a == 0)) (m := 2) (cj := []) (bj := (C.toNat : Int) == (D.toNat : Int)) rfl rfl (by kernel_rfl) rfl (by kernel_rfl) (by kernel_rfl) (by kernel_rfl) (fun hg => qat_ok (fun v336 hC => pu bu (g := [2]) (by kernel_rfl) hg)) ?_; intro gZ cR
   have bv := cR.atom ((a == 0) == true) (by kernel_rfl)
   refine qgd bv (str h.1) (m := 3) (cj := [2]) (bj := a == 0) rfl rfl (by kernel_rfl) rfl (by kernel_rfl) (by kernel_rfl) (by kernel_rfl) (fun hg => qat_ok (fun v340 hC => pu bv (g := [3, 2]) (by kernel_rfl) hg)) ?_; intro g0 aD
   refine e_ aB (fun y cS => ?_) fun y aE => ?_
   ·
    have cT := aD.reval (d := 89) (c := []) (v := .bool ((C.toNat : Int) == (D.toNat : Int))) (by kernel_rfl) (.bool true) (by rw [y])
    have cU := cT.setc (d := 90) (c := [2]) (v := i6 a) (by kernel_rfl) (v' := undef) (by rw [y]; kernel_rfl)
    have cV := cU.setc (d := 91) (c := [2]) (v := .bool (a == 0)) (by kernel_rfl) (v' := undef) (by rw [y]; kernel_rfl)
    have cW := cV.setc (d := 92) (c := [2]) (v := .bool (a == 0)) (by kernel_rfl) (v' := undef) (by rw [y]; kernel_rfl)
    have cX := cW.setu (d := 93) (c := [3, 2]) (v := str h.1) (by kernel_rfl) 2 (by kernel_rfl) (by rw [y]; kernel_rfl)
    refine qsku cX rfl rfl (by kernel_rfl) (by kernel_rfl) rfl (by kernel_rfl) ?_; intro g1 cY
    refine qsku cY rfl rfl (by kernel_rfl) (by kernel_rfl) rfl (by kernel_rfl) ?_; intro g2 cZ
    refine qsku cZ rfl rfl (by kernel_rfl) (by kernel_rfl) rfl (by kernel_rfl) ?_; intro g3 c0
    refine qsku c0 rfl rfl (by kernel_rfl) (by kernel_rfl) rfl (by kernel_rfl) ?_; intro g4 c1
    refine qsku c1 rfl rfl (by kernel_rfl) (by kernel_rfl) rfl (by kernel_rfl) ?_; intro g5 c2
    refine qsku c2 rfl rfl (by kernel_rfl) (by kernel_rfl) rfl (by kernel_rfl) ?_; intro g6 c3
    refine qsku c3 rfl rfl (by kernel_rfl) (by kernel_rfl) rfl (by kernel_rfl) ?_; intro g7 c4
    refine qk_ c4 true ?_; intro g8 c5
    refine q1 c5 102 (.bool true) ?_; intro fb bw
    refine qnl (L _ ?_); intro g9 bx
    refine cdT bw (by kernel_rfl) ?_
    have c6 : Fr 119 [] [⟨0, [], pt b1 0⟩, ⟨2, [], str (u0.Reader.Row.take u0.Reader.At.toNat)⟩, ⟨6, [], str (sfixedS ((fcountS (w64 (((u0.Reader.Row.take u0.Reader.At.toNat).length : Int) - ((fheadS u0.f).length : Int)))) ++ (csumS (fkind u0.f) ((u0.Reader.Row.take u0.Reader.At.toNat) ++ (fcountS (w64 (((u0.Reader.Row.take u0.Reader.At.toNat).length : Int) - ((fheadS u0.f).length : Int)))))).1) (j.toNat : Int)).1⟩, ⟨8, [], str h.1⟩, ⟨68, [], i6 (h.1.length : Int)⟩, ⟨69, [], i6 a⟩] fb := bw.reg
    refine rgH ?_; intro fd c7
    refine s1 c6 103 (pt b1 0) ?_; intro ha c8
    refine ck c8 19 #[pt b1 0, i6 5] ?_
    obtain ⟨E, fe, c9⟩ := hxq cS
    have l := rfail_fun i 5 b1 I J _ _ _ _ _ _ p bx bx.fz; rw [fe] at l; refine l.mono ?_; rintro _ ff ⟨da, db, dc, rfl, U, dd, hm⟩; refine ⟨_, rfl, ?_⟩; intro hb fg; have de := hm
    replace z := z.mono U
    have fh : Mem B [] w0 Z0 ((.row b1 (e46Erfast E da db) 46) :: Rr) dc ff := de
    have fi := c9 (dd.small)
    apply c7
    exact j_ (d_ (Q E da db dc ⟨fi, dd, z⟩ _ _ ((fg.reg).anyβ _ (by kernel_rfl)) (fh.kp)))
   have df := aD.reval (d := 89) (c := []) (v := .bool ((C.toNat : Int) == (D.toNat : Int))) (by kernel_rfl) (.bool false) (by rw [y])
   have dg := df.setc (d := 90) (c := [2]) (v := i6 a) (by kernel_rfl) (v' := i6 a) (by rw [y]; kernel_rfl)
   have dh := dg.setc (d := 91) (c := [2]) (v := .bool (a == 0)) (by kernel_rfl) (v' := .bool (a == 0)) (by rw [y]; kernel_rfl)
   have aF := dh.setc (d := 92) (c := [2]) (v := .bool (a == 0)) (by kernel_rfl) (v' := .bool (a == 0)) (by rw [y]; kernel_rfl)
   refine e_ aE (fun R fj => ?_) fun R fy => ?_
   ·
    have di := aF.reval (d := 92) (c := []) (v := .bool (a == 0)) (by kernel_rfl) (.bool true) (by rw [R])
    have aG := di.setc (d := 93) (c := [3, 2]) (v := str h.1) (by kernel_rfl) (v' := str h.1) (by rw [R, y]; kernel_rfl)
    obtain ⟨fk, fl⟩ := fj
    obtain ⟨V, dj⟩ : ∃ q, h.1[(0 : Int).toNat]? = some q := ⟨_, List.getElem?_eq_getElem (by omega)⟩; have fm := fl V dj
    refine qst aG (y8 (V.toNat : Int)) (wK aG true) rfl (by kernel_rfl) (fun v399 hC => stridx_run aG (k := .i64) rfl (by kernel_rfl) (by kernel_rfl) (by kernel_rfl) fk.1 dj) ?_; intro hc aH
    refine qg_ aH true (str (u0.Reader.Row.take u0.Reader.At.toNat)) ?_; intro hd aI
    refine qg_ aI true (str (u0.Reader.Row.take u0.Reader.At.toNat)) ?_; intro he aJ
    refine qg_ aJ true (i6 ((u0.Reader.Row.take u0.Reader.At.toNat).length : Int)) ?_; intro hf aK
    refine qg_ aK true (i6 (w64 (((u0.Reader.Row.take u0.Reader.At.toNat).length : Int) - 1))) ?_; intro hh aL
    obtain ⟨fo, fp⟩ := fm
    obtain ⟨W, dk⟩ : ∃ q, (u0.Reader.Row.take u0.Reader.At.toNat)[(w64 (((u0.Reader.Row.take u0.Reader.At.toNat).length : Int) - 1)).toNat]? = some q := ⟨_, List.getElem?_eq_getElem (by omega)⟩; have aM := fp W dk
    refine qst aL (y8 (W.toNat : Int)) (wK aL true) rfl (by kernel_rfl) (fun v419 hC => stridx_run aL (k := .i64) rfl (by kernel_rfl) (by kernel_rfl) (by kernel_rfl) fo.1 dk) ?_; intro hi aN
    refine qg_ aN true (.bool ((V.toNat : Int) == (W.toNat : Int))) ?_; intro hj aO
    refine qg_ aO false (.bool ((V.toNat : Int) == (W.toNat : Int))) ?_; intro hk dl
    refine q1 dl 102 (.bool ((V.toNat : Int) == (W.toNat : Int))) ?_; intro fq aP
    refine qnl (L _ ?_); intro hl aQ
    refine c_ aP aM (fun _ dm => ?_) fun _ fx => ?_
    ·
     have dn : Fr 119 [] [⟨0, [], pt b1 0⟩, ⟨2, [], str (u0.Reader.Row.take u0.Reader.At.toNat)⟩, ⟨6, [], str (sfixedS ((fcountS (w64 (((u0.Reader.Row.take u0.Reader.At.toNat).length : Int) - ((fheadS u0.f).length : Int)))) ++ (csumS (fkind u0.f) ((u0.Reader.Row.take u0.Reader.At.toNat) ++ (fcountS (w64 (((u0.Reader.Row.take u0.Reader.At.toNat).length : Int) - ((fheadS u0.f).length : Int)))))).1) (j.toNat : Int)).1⟩, ⟨8, [], str h.1⟩, ⟨68, [], i6 (h.1.length : Int)⟩, ⟨69, [], i6 a⟩] fq := aP.reg
     refine rgH ?_; intro fr dp
     refine s1 dn 103 (pt b1 0) ?_; intro hn dq
     refine ck dq 19 #[pt b1 0, i6 5] ?_
     obtain ⟨F, fs, dr⟩ := hxq dm
     have l := rfail_fun i 5 b1 I J _ _ _ _ _ _ p aQ aQ.fz; rw [fs] at l; refine l.mono ?_; rintro _ ft ⟨ds, dt, du, rfl, X, dv, hm⟩; refine ⟨_, rfl, ?_⟩; intro ho fu; have dw := hm
     replace z := z.mono X
     have fv : Mem B [] w0 Z0 ((.row b1 (e46Erfast F ds dt) 46) :: Rr) du ft := dw
     have fw := dr (dv.small)
     apply dp
     exact j_ (d_ (Q F ds dt du ⟨fw, dv, z⟩ _ _ ((fu.reg).anyβ _ (by kernel_rfl)) (fv.kp)))
    exact l_ (j_ (d_ (Q i I J P ⟨fx, p, z⟩ _ _ ((aP.reg).anyβ _ (by kernel_rfl)) (aQ.kp))))
   have dx := aF.reval (d := 92) (c := []) (v := .bool (a == 0)) (by kernel_rfl) (.bool false) (by rw [R])
   have dy := dx.setc (d := 93) (c := [3, 2]) (v := str h.1) (by kernel_rfl) (v' := undef) (by rw [R, y]; kernel_rfl)
   refine qk_ dy false ?_; intro hq dz
   refine qk_ dz false ?_; intro hr dA
   refine qk_ dA false ?_; intro hs dB
   refine qk_ dB false ?_; intro ht dC
   refine qk_ dC false ?_; intro hu dD
   refine qk_ dD false ?_; intro hv dE
   refine qk_ dE false ?_; intro hw aR
   refine qg_ aR false (.bool false) ?_; intro hx dF
   refine q1 dF 102 (.bool false) ?_; intro hy dG
   refine qnl (L _ ?_); intro hz fA
   refine cdF dG (by kernel_rfl) ?_
   exact l_ (j_ (d_ (Q i I J P ⟨fy, p, z⟩ _ _ ((dG.reg).anyβ _ (by kernel_rfl)) (fA.kp))))
  have dH := av.reval (d := 79) (c := []) (v := .bool (((a.tmod 5) == 0) && (decide (a > 0)))) (by kernel_rfl) (.bool false) (by rw [O])
  have dI := dH.setc (d := 80) (c := [1]) (v := str h.1) (by kernel_rfl) (v' := undef) (by rw [O]; kernel_rfl)
  have dJ := dI.setc (d := 81) (c := [1]) (v := i6 a) (by kernel_rfl) (v' := undef) (by rw [O]; kernel_rfl)
  refine qk_ dJ false ?_; intro hA dK
  refine qk_ dK false ?_; intro hB dL
  refine qk_ dL false ?_; intro hD dM
  refine qk_ dM false ?_; intro hE dN
  refine qk_ dN false ?_; intro hF dO
  refine qk_ dO false ?_; intro hG dP
  refine q1 dP 88 (.bool false) ?_; intro hH dQ
  refine q1 dQ 89 (.bool false) ?_; intro hI aT
  refine qg_ aT false (i6 a) ?_; intro hJ aU
  refine qg_ aU false (.bool (a == 0)) ?_; intro hK aV
  refine qg_ aV false (.bool (a == 0)) ?_; intro hL dR
  have bA := dR.atom ((a == 0) == true) (by kernel_rfl)
  refine qgd bA (str h.1) (m := 2) (cj := []) (bj := a == 0) rfl rfl (by kernel_rfl) rfl (by kernel_rfl) (by kernel_rfl) (by kernel_rfl) (fun hg => qat_ok (fun v517 hC => pu bA (g := [2]) (by kernel_rfl) hg)) ?_; intro hM aW
  refine e_ aS (fun S fB => ?_) fun S fP => ?_
  ·
   have dS := aW.reval (d := 92) (c := []) (v := .bool (a == 0)) (by kernel_rfl) (.bool true) (by rw [S])
   have aX := dS.setc (d := 93) (c := [2]) (v := str h.1) (by kernel_rfl) (v' := str h.1) (by rw [S]; kernel_rfl)
   obtain ⟨fC, fD⟩ := fB
   obtain ⟨Y, dT⟩ : ∃ q, h.1[(0 : Int).toNat]? = some q := ⟨_, List.getElem?_eq_getElem (by omega)⟩; have fE := fD Y dT
   refine qst aX (y8 (Y.toNat : Int)) (wK aX true) rfl (by kernel_rfl) (fun v524 hC => stridx_run aX (k := .i64) rfl (by kernel_rfl) (by kernel_rfl) (by kernel_rfl) fC.1 dT) ?_; intro hN aY
   refine qg_ aY true (str (u0.Reader.Row.take u0.Reader.At.toNat)) ?_; intro hO aZ
   refine qg_ aZ true (str (u0.Reader.Row.take u0.Reader.At.toNat)) ?_; intro hP a2
   refine qg_ a2 true (i6 ((u0.Reader.Row.take u0.Reader.At.toNat).length : Int)) ?_; intro hQ a3
   refine qg_ a3 true (i6 (w64 (((u0.Reader.Row.take u0.Reader.At.toNat).length : Int) - 1))) ?_; intro hR a4
   obtain ⟨fF, fG⟩ := fE
   obtain ⟨aa, dU⟩ : ∃ q, (u0.Reader.Row.take u0.Reader.At.toNat)[(w64 (((u0.Reader.Row.take u0.Reader.At.toNat).length : Int) - 1)).toNat]? = some q := ⟨_, List.getElem?_eq_getElem (by omega)⟩; have a5 := fG aa dU
   refine qst a4 (y8 (aa.toNat : Int)) (wK a4 true) rfl (by kernel_rfl) (fun v544 hC => stridx_run a4 (k := .i64) rfl (by kernel_rfl) (by kernel_rfl) (by kernel_rfl) fF.1 dU) ?_; intro hS a6
   refine qg_ a6 true (.bool ((Y.toNat : Int) == (aa.toNat : Int))) ?_; intro hT a7
   refine qg_ a7 false (.bool ((Y.toNat : Int) == (aa.toNat : Int))) ?_; intro hU dV
   refine q1 dV 102 (.bool ((Y.toNat : Int) == (aa.toNat : Int))) ?_; intro fH a8
   refine qnl (L _ ?_); intro hV a9
   refine c_ a8 a5 (fun _ dW => ?_) fun _ fO => ?_
   ·
    have dX : Fr 119 [] [⟨0, [], pt b1 0⟩, ⟨2, [], str (u0.Reader.Row.take u0.Reader.At.toNat)⟩, ⟨6, [], str (sfixedS ((fcountS (w64 (((u0.Reader.Row.take u0.Reader.At.toNat).length : Int) - ((fheadS u0.f).length : Int)))) ++ (csumS (fkind u0.f) ((u0.Reader.Row.take u0.Reader.At.toNat) ++ (fcountS (w64 (((u0.Reader.Row.take u0.Reader.At.toNat).length : Int) - ((fheadS u0.f).length : Int)))))).1) (j.toNat : Int)).1⟩, ⟨8, [], str h.1⟩, ⟨68, [], i6 (h.1.length : Int)⟩, ⟨69, [], i6 a⟩] fH := a8.reg
    refine rgH ?_; intro fI dY
    refine s1 dX 103 (pt b1 0) ?_; intro hW dZ
    refine ck dZ 19 #[pt b1 0, i6 5] ?_
    obtain ⟨G, fJ, d0⟩ := hxq dW
    have l := rfail_fun i 5 b1 I J _ _ _ _ _ _ p a9 a9.fz; rw [fJ] at l; refine l.mono ?_; rintro _ fK ⟨d1, d2, d3, rfl, ab, d4, hm⟩; refine ⟨_, rfl, ?_⟩; intro hX fL; have d5 := hm
    replace z := z.mono ab
    have fM : Mem B [] w0 Z0 ((.row b1 (e46Erfast G d1 d2) 46) :: Rr) d3 fK := d5
    have fN := d0 (d4.small)
    apply dY
    exact j_ (d_ (Q G d1 d2 d3 ⟨fN, d4, z⟩ _ _ ((fL.reg).anyβ _ (by kernel_rfl)) (fM.kp)))
   exact l_ (j_ (d_ (Q i I J P ⟨fO, p, z⟩ _ _ ((a8.reg).anyβ _ (by kernel_rfl)) (a9.kp))))
  have d6 := aW.reval (d := 92) (c := []) (v := .bool (a == 0)) (by kernel_rfl) (.bool false) (by rw [S])
  have d7 := d6.setc (d := 93) (c := [2]) (v := str h.1) (by kernel_rfl) (v' := undef) (by rw [S]; kernel_rfl)
  refine qk_ d7 false ?_; intro hY d8
  refine qk_ d8 false ?_; intro h0 d9
  refine qk_ d9 false ?_; intro h1 ea
  refine qk_ ea false ?_; intro h2 eb
  refine qk_ eb false ?_; intro h3 ec
  refine qk_ ec false ?_; intro h4 ed
  refine qk_ ed false ?_; intro h5 ba
  refine qg_ ba false (.bool false) ?_; intro h6 ee
  refine q1 ee 102 (.bool false) ?_; intro h7 ef
  refine qnl (L _ ?_); intro h8 fQ
  refine cdF ef (by kernel_rfl) ?_
  exact l_ (j_ (d_ (Q i I J P ⟨fP, p, z⟩ _ _ ((ef.reg).anyβ _ (by kernel_rfl)) (fQ.kp))))
 refine x_ (y_ (y_ (z_ (t_ (sqB ae cv [0] [234] [(116, .bool ((i.Reader.Code == 0) && (h.1 != (sfixedS ((fcountS (w64 (((u0.Reader.Row.take u0.Reader.At.toNat).length : Int) - ((fheadS u0.f).length : Int)))) ++ (csumS (fkind u0.f) ((u0.Reader.Row.take u0.Reader.At.toNat) ++ (fcountS (w64 (((u0.Reader.Row.take u0.Reader.At.toNat).length : Int) - ((fheadS u0.f).length : Int)))))).1) (j.toNat : Int)).1)))] ?_))))); intro ia ai
 refine c_ ai bb (fun _ eg => ?_) fun _ fW => ?_
 ·
  refine rgH ?_; intro fR eh
  refine s1 ai 117 (pt b1 0) ?_; intro ib ei
  refine ck ei 19 #[pt b1 0, i6 6] ?_
  obtain ⟨H, fS, ej⟩ := hxq eg
  have l := rfail_fun i 6 b1 I J _ _ _ _ _ _ p cv cv.fz; rw [fS] at l; refine l.mono ?_; rintro _ fT ⟨ek, el, em, rfl, aj, en, hm⟩; refine ⟨_, rfl, ?_⟩; intro ic eo; have ep := hm
  replace o := Fz.le.trans o aj
  have fU : Mem B [] w0 Z0 ((.row b1 (e46Erfast H ek el) 46) :: Rr) em fT := ep
  have fV := ej (en.small)
  apply eh
  refine rN (fn := Tryz.f23) (v := .tuple #[]) eo (re0 eo (fn := Tryz.f23) rfl) ?_
  exact ⟨H, ek, el, em, rfl, fV, o, en, fU.kp⟩
 refine l_ (rN (fn := Tryz.f23) (v := .tuple #[]) ai (re0 ai (fn := Tryz.f23) rfl) ?_)
 exact ⟨i, I, J, P, rfl, fW, o, p, cv.kp⟩

end Go.Proofs.YtmnlahbngbigdaaGreatDoor
set_option linter.unusedVariables false
set_option linter.unusedSimpArgs false
set_option linter.defProp false
namespace Go.Proofs.YtmnlahbngbigdaaGreatDoor
open Go.Sy Go.RowKit
def rnames_fun (u0 : FReader) (hpre : Rok u0.Reader) (b1 : Nat) (ao2 : Option Addr) (cap3 : Nat) (B : Nat) (w0 : World) (Z0 : Fz) (Rr : List Res) (Z : Fz) (w : World) (hs4 : SlR t8 Z ao2 cap3 u0.f.Data) (hM0 : Mem B [] w0 Z0 ((.row b1 [str u0.Reader.Row, i6 u0.Reader.At, i6 u0.Reader.Code, y8 u0.Reader.c.last, i6 u0.Reader.c.n, i6 u0.f.ID, .bool u0.f.Long, .bool u0.f.Fast, .bool u0.f.Remote, i6 u0.f.Size, .slice ao2 u0.f.Data.length cap3] 46) :: Rr) Z w) (hZ : Z.on w) := fc_ (rnames_walk u0 b1 ao2 cap3 B w0 Z0 Rr Z w hs4 hM0 hZ (rnames_ok u0 hpre))
def rfast_fun (u0 : FReader) (hpre : fastpre u0) (b1 : Nat) (ao2 : Option Addr) (cap3 : Nat) (B : Nat) (w0 : World) (Z0 : Fz) (Rr : List Res) (Z : Fz) (w : World) (hs4 : SlR t8 Z ao2 cap3 u0.f.Data) (hM0 : Mem B [] w0 Z0 ((.row b1 [str u0.Reader.Row, i6 u0.Reader.At, i6 u0.Reader.Code, y8 u0.Reader.c.last, i6 u0.Reader.c.n, i6 u0.f.ID, .bool u0.f.Long, .bool u0.f.Fast, .bool u0.f.Remote, i6 u0.f.Size, .slice ao2 u0.f.Data.length cap3] 46) :: Rr) Z w) (hZ : Z.on w) := fc_ (rfast_walk u0 b1 ao2 cap3 B w0 Z0 Rr Z w hs4 hM0 hZ (rfast_ok u0 hpre))
end Go.Proofs.YtmnlahbngbigdaaGreatDoor
set_option linter.unusedVariables false
set_option linter.unusedSimpArgs false
set_option maxRecDepth 100000
set_option maxHeartbeats 0
namespace Go.Proofs.YtmnlahbngbigdaaGreatDoor
open Go.Sy Go.RowKit
abbrev e46FfRead (X : FReader) (A0 : Option Addr) (C0 : Nat) : List Value := [str X.Reader.Row, i6 X.Reader.At, i6 X.Reader.Code, y8 X.Reader.c.last, i6 X.Reader.c.n, i6 X.f.ID, .bool X.f.Long, .bool X.f.Fast, .bool X.f.Remote, i6 X.f.Size, .slice A0 X.f.Data.length C0]
abbrev e24FfRead (X : Frame) (A0 : Option Addr) (C0 : Nat) : List Value := [i6 X.ID, .bool X.Long, .bool X.Fast, .bool X.Remote, i6 X.Size, .slice A0 X.Data.length C0]
theorem fRead_walk (u0 : List UInt8)  (Z : Fz) (w : World)  (hZ : Z.on w) {K : (Frame × Int × Int) → Prop} (hp : fRead_vc u0 K) : Calls Tryz.prog 5 #[str u0] w fun e w' => ∃ (r : Frame × Int × Int) (ao1001 : Option Addr) (cap1002 : Nat) (Z' : Fz), e = .returned (.tuple #[.agg #[i6 r.1.ID, .bool r.1.Long, .bool r.1.Fast, .bool r.1.Remote, i6 r.1.Size, .slice ao1001 r.1.Data.length cap1002], i6 r.2.1, i6 r.2.2]) ∧ K r ∧ SlR t8 Z' ao1001 cap1002 r.1.Data ∧ Mem w.heap.size [] w Z [] Z' w' := by
 refine enter0 Tryz.func5 rfl rfl (by kernel_rfl) ?_; intro a0 bY; have bZ := Mem.start w Z hZ
 refine sqH ?_; intro e2 b0
 refine nw bY bZ pb [i6 0, .bool false, .bool false, .bool false, i6 0, .slice none 0 0] 24 ?_; intro m a3 hd b1 aO
 refine bt b1 aO 2 [] [] [] ?_; intro a9 b3
 apply b0
 refine s_ (sqH ?_); intro e3 b4
 refine s1 b3 13 (str u0) ?_; intro he b5
 refine fc b5 aO (bcheck_fun u0 _ _ aO.fz) ?_; intro hf hg b6 aa
 refine s1 b6 5 (i6 (bcheckS u0)) ?_; intro hh b7
 apply b4
 refine sqB b7 aa [] [] [(16, .bool ((bcheckS u0) != 0))] ?_; intro hi ar
 refine c_ ar hp (fun _ e4 => ?_) fun _ e7 => ?_
 ·
  refine sqH ?_; intro e5 b8
  refine bt ar aa 2 [] [] [(17, .agg #[i6 0, .bool false, .bool false, .bool false, i6 0, .slice none 0 0]), (18, i6 (bcheckS u0))] ?_; intro hj bu
  refine sx bu aa 0 [i6 0, .bool false, .bool false, .bool false, i6 0, .slice none 0 0] 0 ?_; intro e6 bv
  refine bt bu bv 2 [] [] [(3, i6 0), (4, i6 (bcheckS u0))] ?_; intro hk b9
  have ca : Mem w.heap.size [] w Z [.row m [i6 0, .bool false, .bool false, .bool false, i6 0, .slice none 0 0] 24] Z e6 := bv
  apply b8
  refine r_ (h_ (rt (fn := Tryz.f5) (v := .tuple #[.agg #[i6 0, .bool false, .bool false, .bool false, i6 0, .slice none 0 0], i6 0, i6 (bcheckS u0)]) b9 (re3c b9 (fn := Tryz.f5) rfl (ad := ⟨m, 0, none⟩) (by kernel_rfl) (loadVar_run ca 0 (b := m) (k := 6) (vs := [i6 0, .bool false, .bool false, .bool false, i6 0, .slice none 0 0]) (ty := 24) rfl (by kernel_rfl) (by kernel_rfl)) (by kernel_rfl) (by kernel_rfl)) ?_))
  exact ⟨((⟨0, false, false, false, 0, []⟩ : Frame), 0, (bcheckS u0)), none, 0, Z, rfl, e4, (SlR.nil _ _), ca.kp⟩
 refine k_ (sqH ?_); intro e8 cb
 refine bt ar aa 3 [] [] [(21, .agg #[str u0, i6 0, i6 0, y8 0, i6 0, i6 0, .bool false, .bool false, .bool false, i6 0, .slice none 0 0])] ?_; intro hl cc
 refine nw cc aa pb [str u0, i6 0, i6 0, y8 0, i6 0, i6 0, .bool false, .bool false, .bool false, i6 0, .slice none 0 0] 46 ?_; intro i hn ho ce bw
 refine s1 ce 6 (pt i 0) ?_; intro hq cf
 apply cb
 refine sqH ?_; intro e9 cg
 refine s1 cf 23 (pt i 0) ?_; intro hr ch
 obtain ⟨fa, ci⟩ := e7
 refine ck ch 17 #[pt i 0] ?_
 obtain ⟨F, fb, cj⟩ := hxq ci
 have o := rnames_fun (⟨(⟨u0, 0, 0, (⟨0, 0⟩ : Counter)⟩ : Reader), (⟨0, false, false, false, 0, []⟩ : Frame)⟩ : FReader) fa i none 0 _ _ _ _ _ _ (SlR.nil _ _) bw bw.fz; rw [fb] at o; refine o.mono ?_; rintro _ fd ⟨cl, cm, fe, rfl, ff, y, hm⟩; refine ⟨_, rfl, ?_⟩; intro hs cn; have co := hm
 have bx : Mem w.heap.size [] w Z [.row i (e46FfRead F cl cm) 46, .row m [i6 0, .bool false, .bool false, .bool false, i6 0, .slice none 0 0] 24] fe fd := co
 have fg := cj (y.small)
 apply cg
 refine sqH ?_; intro fh cp
 refine s1 cn 25 (pt i 0) ?_; intro ht cq
 obtain ⟨fi, cr⟩ := fg
 refine ck cq 18 #[pt i 0, i6 4] ?_
 obtain ⟨j, fj, ct⟩ := hxq cr
 have o := rnumber_fun F 4 fi i cl cm _ _ _ _ _ _ y bx bx.fz; rw [fj] at o; refine o.mono ?_; rintro _ fk ⟨U, V, al, rfl, cu, u, hm⟩; refine ⟨_, rfl, ?_⟩; intro hu cv; have cw := hm
 have B : Mem w.heap.size [] w Z [.row i (e46FfRead j.2 U V) 46, .row m [i6 0, .bool false, .bool false, .bool false, i6 0, .slice none 0 0] 24] al fk := cw
 have fl := ct (u.small)
 refine s1 cv 7 (i6 j.1) ?_; intro cx cy
 apply cp
 have cz : Fr 158 [] [⟨2, [], pt m 0⟩, ⟨6, [], pt i 0⟩, ⟨7, [], i6 j.1⟩] cx := cy.reg
 obtain ⟨fm, aP, fo⟩ := fl
 refine wp_seq_k fun KJ101 hKJ102 => ?_
 have aQ : ∀ (p : FReader) (W : Option Addr) (X : Nat) (ab : Fz), fm p ∧ SlR t8 ab W X p.f.Data ∧ Fz.le al ab → ∀ a1 w1, Fr 158 [] [⟨2, [], pt m 0⟩, ⟨6, [], pt i 0⟩] a1 → Mem w.heap.size [] w Z [.row i (e46FfRead p W X) 46, .row m [i6 0, .bool false, .bool false, .bool false, i6 0, .slice none 0 0] 24] ab w1 → KJ101 a1 w1 := by
  rintro p W X ab ⟨fp, L, N⟩ hv hw cA M
  refine hKJ102 _ _ ?_
  have fq := fo p fp
  refine s_ (sqB cA M [0] [] [(81, .bool p.f.Fast)] ?_); intro cB cC
  have cD : Fr 158 [] [⟨2, [], pt m 0⟩, ⟨6, [], pt i 0⟩, ⟨81, [], .bool p.f.Fast⟩] cB := cC.reg
  obtain ⟨fr, aR, fs⟩ := fq
  refine wp_then_k fun KJ128 hKJ129 => ?_
  have aS : ∀ (x : FReader) (aT : Option Addr) (aU : Nat) (aV : Fz), fr x ∧ SlR t8 aV aT aU x.f.Data ∧ Fz.le ab aV → ∀ a1 w1, Fr 158 [] [⟨2, [], pt m 0⟩, ⟨6, [], pt i 0⟩] a1 → Mem w.heap.size [] w Z [.row i (e46FfRead x aT aU) 46, .row m [i6 0, .bool false, .bool false, .bool false, i6 0, .slice none 0 0] 24] aV w1 → KJ128 a1 w1 := by
   rintro x aT aU aV ⟨ft, an, O⟩ hx hy cE aW
   refine hKJ129 _ _ ?_
   have fu := fs x ft
   refine sqH ?_; intro fv cF
   refine bt cE aW 3 [] [] [(118, pt i 0)] ?_; intro hz cG
   obtain ⟨fw, cH⟩ := fu
   refine ck cG 26 #[pt i 0, i6 10] ?_
   obtain ⟨a, fx, cI⟩ := hxq cH
   have o := rplainF_fun x 10 fw i aT aU _ _ _ _ _ _ an aW aW.fz; rw [fx] at o; refine o.mono ?_; rintro _ fy ⟨z, A, P, rfl, af, ag, hm⟩; refine ⟨_, rfl, ?_⟩; intro hA cJ; have cK := hm
   have aX : Mem w.heap.size [] w Z [.row i (e46FfRead a.2 z A) 46, .row m [i6 0, .bool false, .bool false, .bool false, i6 0, .slice none 0 0] 24] P fy := cK
   have aY := cI (ag.small)
   refine s1 cJ 12 (str a.1) ?_; intro bA cL
   apply cF
   apply s_
   have aZ : Fr 158 [] [⟨2, [], pt m 0⟩, ⟨6, [], pt i 0⟩, ⟨12, [], str a.1⟩] bA := cL.reg
   refine e_ aY (fun ay fA => ?_) fun ay be => ?_
   ·
    have cM : Fr 158 [] [⟨2, [], pt m 0⟩, ⟨6, [], pt i 0⟩, ⟨12, [], str a.1⟩] bA := aZ.reg
    refine sqQH mixed (by kernel_rfl) aX ?_; intro fB cN
    refine q1 cM 120 (pt i 0) ?_; intro hB cO
    refine q1 cO 121 (pt i 0) ?_; intro hD cP
    refine q1 cP 122 (pt i 0) ?_; intro hE cQ
    refine q1 cQ 123 (pt i 2) ?_; intro hF bB
    refine ql_ bB 0 2 (i6 a.2.Reader.Code) rfl rfl ?_; intro hG cR
    refine q1 cR 125 (.bool (a.2.Reader.Code == 0)) ?_; intro hH cT
    have cU := cT.reval (d := 125) (c := []) (v := .bool (a.2.Reader.Code == 0)) (by kernel_rfl) (.bool true) (by rw [ay])
    refine q1 cU 126 (.bool true) ?_; intro hI a2
    refine qg_ a2 true (str a.1) ?_; intro hJ a4
    obtain ⟨fC, fD⟩ := fA
    refine qst a4 (str (a.1.take (1 : Int).toNat)) (wK a4 true) rfl (by kernel_rfl) (fun v197 hC => strslH_run a4 (g := []) (k := .i64) rfl (by kernel_rfl) (by kernel_rfl) (by kernel_rfl) fC rfl) ?_; intro hK a5
    obtain ⟨fE, fF⟩ := fD
    refine qst a5 (str ((a.1.take (1 : Int).toNat) ++ ([49] : List UInt8))) (wK a5 true) rfl (by kernel_rfl) (fun v202 hC => stradd_run a5 (g := []) rfl (by kernel_rfl) (by kernel_rfl) fE rfl) ?_; intro hL a6
    refine qg_ a6 true (str a.1) ?_; intro hM a7
    obtain ⟨fG, fH⟩ := fF
    refine qst a7 (str (a.1.drop (2 : Int).toNat)) (wK a7 true) rfl (by kernel_rfl) (fun v210 hC => strslL_run a7 (g := []) (k := .i64) rfl (by kernel_rfl) (by kernel_rfl) (by kernel_rfl) fG rfl) ?_; intro hN a8
    obtain ⟨fI, fJ⟩ := fH
    refine qst a8 (str (((a.1.take (1 : Int).toNat) ++ ([49] : List UInt8)) ++ (a.1.drop (2 : Int).toNat))) (wK a8 true) rfl (by kernel_rfl) (fun v215 hC => stradd_run a8 (g := []) rfl (by kernel_rfl) (by kernel_rfl) fI rfl) ?_; intro hO ba
    refine qst ba (.bool ((((a.1.take (1 : Int).toNat) ++ ([49] : List UInt8)) ++ (a.1.drop (2 : Int).toNat)) != ([49, 49, 49, 49, 49, 49, 49, 49, 49, 49] : List UInt8))) (wK ba true) rfl (by kernel_rfl) (fun v220 hC => strcmp_run ba (g := []) (op := .neq) rfl (by kernel_rfl) (by kernel_rfl) (by decide) rfl) ?_; intro hP cV
    refine q1 cV 134 (.bool ((((a.1.take (1 : Int).toNat) ++ ([49] : List UInt8)) ++ (a.1.drop (2 : Int).toNat)) != ([49, 49, 49, 49, 49, 49, 49, 49, 49, 49] : List UInt8))) ?_; intro cW cX
    refine qnl (cN _ ?_); intro hQ az
    have cY : Fr 158 [] [⟨2, [], pt m 0⟩, ⟨6, [], pt i 0⟩, ⟨134, [], .bool ((((a.1.take (1 : Int).toNat) ++ ([49] : List UInt8)) ++ (a.1.drop (2 : Int).toNat)) != ([49, 49, 49, 49, 49, 49, 49, 49, 49, 49] : List UInt8))⟩] cW := cX.reg
    obtain ⟨fK, bb, fL⟩ := fJ
    refine wp_then_k fun KJ233 hKJ234 => ?_
    have cZ : ∀ (h : FReader) (D : Option Addr) (E : Nat) (Q : Fz), fK h ∧ SlR t8 Q D E h.f.Data ∧ Fz.le P Q → ∀ a1 w1, Fr 158 [] [⟨2, [], pt m 0⟩, ⟨6, [], pt i 0⟩] a1 → Mem w.heap.size [] w Z [.row i (e46FfRead h D E) 46, .row m [i6 0, .bool false, .bool false, .bool false, i6 0, .slice none 0 0] 24] Q w1 → KJ233 a1 w1 := by
     rintro h D E Q ⟨fM, fN, Y⟩ hR hS c0 aB
     refine hKJ234 _ _ ?_
     have bc := fL h fM
     refine s_ (sqB c0 aB [0] [] [(142, .bool (h.Reader.Code != 0))] ?_); intro c1 aC
     refine c_ aC bc (fun _ fO => ?_) fun _ fT => ?_
     ·
      have c2 : Fr 158 [] [⟨2, [], pt m 0⟩, ⟨6, [], pt i 0⟩] c1 := aC.reg
      refine wp_seq (rgS mixed aB [(0, true), (1, true), (2, true), (3, true), (4, true), (5, true), (6, false), (7, true), (8, true)] [] [0] [.row i (e46FfRead h D E) 46] ?_)
      intro fP c3 h1 c4
      have fQ := Fz.le.refl Q
      refine cS c2 6 [0] [] [(143, .agg #[i6 0, .bool false, .bool false, .bool false, i6 0, .slice none 0 0]), (148, i6 h.Reader.Code)] ?_; intro h2 bD
      refine eS rfl ?_; intro fR c5
      refine sx bD c4 1 [i6 0, .bool false, .bool false, .bool false, i6 0, .slice none 0 0] 0 ?_; intro fS c6
      have bE : Mem w.heap.size [] w Z [.row i (e46FfRead h D E) 46, .row m [i6 0, .bool false, .bool false, .bool false, i6 0, .slice none 0 0] 24] Q fS := c6
      refine nl (qnI (c5 _ _ (bE.cst fQ [0]) ?_))
      refine cS bD 2 [] [] [(3, i6 0), (4, i6 h.Reader.Code)] ?_; intro h3 c7
      refine nS (c3 _ _ ?_)
      refine t_ (r_ (h_ (rt (fn := Tryz.f5) (v := .tuple #[.agg #[i6 0, .bool false, .bool false, .bool false, i6 0, .slice none 0 0], i6 0, i6 h.Reader.Code]) c7 (re3c c7 (fn := Tryz.f5) rfl (ad := ⟨m, 0, none⟩) (by kernel_rfl) (loadVar_run bE 1 (b := m) (k := 6) (vs := [i6 0, .bool false, .bool false, .bool false, i6 0, .slice none 0 0]) (ty := 24) rfl (by kernel_rfl) (by kernel_rfl)) (by kernel_rfl) (by kernel_rfl)) ?_)))
      exact ⟨((⟨0, false, false, false, 0, []⟩ : Frame), 0, h.Reader.Code), none, 0, Q, rfl, fO, (SlR.nil _ _), bE.kp⟩
     apply k_
     have c8 : Fr 158 [] [⟨2, [], pt m 0⟩, ⟨6, [], pt i 0⟩] c1 := aC.reg
     refine wp_seq (rgS mixed aB [(0, true), (1, true), (2, true), (3, true), (4, true), (5, true), (6, true), (7, true), (8, true), (9, false), (10, true), (11, true)] [] [0] [.row i (e46FfRead h D E) 46] ?_)
     intro fU c9 h4 da
     have fV := Fz.le.refl Q
     refine cS c8 9 [0, 0] [] [(152, .agg (e24FfRead h.f D E).toArray), (157, i6 h.Reader.At)] ?_; intro h5 bF
     refine eS rfl ?_; intro fW db
     refine sx bF da 1 (e24FfRead h.f D E) 0 ?_; intro fX dc
     have bG : Mem w.heap.size [] w Z [.row i (e46FfRead h D E) 46, .row m (e24FfRead h.f D E) 24] Q fX := dc
     refine nl (qnI (db _ _ (bG.cst fV [0]) ?_))
     refine cS bF 2 [] [] [(3, i6 h.Reader.At), (4, i6 0)] ?_; intro h6 dd
     refine nS (c9 _ _ ?_)
     refine t_ (r_ (rt (fn := Tryz.f5) (v := .tuple #[.agg (e24FfRead h.f D E).toArray, i6 h.Reader.At, i6 0]) dd (re3c dd (fn := Tryz.f5) rfl (ad := ⟨m, 0, none⟩) (by kernel_rfl) (loadVar_run bG 1 (b := m) (k := 6) (vs := (e24FfRead h.f D E)) (ty := 24) rfl (by kernel_rfl) (by kernel_rfl)) (by kernel_rfl) (by kernel_rfl)) ?_))
     exact ⟨(h.f, h.Reader.At, 0), D, E, Q, rfl, fT, fN, bG.kp⟩
    have bd := Fz.le.refl P
    refine c_ cY bb (fun _ de => ?_) fun _ f4 => ?_
    ·
     refine rgH ?_; intro fY df
     refine s1 cY 135 (pt i 0) ?_; intro h7 dg
     refine ck dg 19 #[pt i 0, i6 4] ?_
     obtain ⟨G, fZ, dh⟩ := hxq de
     have o := rfail_fun a.2 4 i z A _ _ _ _ _ _ ag az az.fz; rw [fZ] at o; refine o.mono ?_; rintro _ f0 ⟨di, dj, dk, rfl, S, dl, hm⟩; refine ⟨_, rfl, ?_⟩; intro h8 f1; have dm := hm
     replace bd := bd.mono S
     have f2 : Mem w.heap.size [] w Z [.row i (e46FfRead G di dj) 46, .row m [i6 0, .bool false, .bool false, .bool false, i6 0, .slice none 0 0] 24] dk f0 := dm
     have f3 := dh (dl.small)
     apply df
     exact d_ (cZ G di dj dk ⟨f3, dl, bd⟩ _ _ ((f1.reg).anyβ _ (by kernel_rfl)) (f2.kp))
    exact l_ (d_ (cZ a.2 z A P ⟨f4, ag, bd⟩ _ _ ((cY.reg).anyβ _ (by kernel_rfl)) (az.kp)))
   have dn : Fr 158 [] [⟨2, [], pt m 0⟩, ⟨6, [], pt i 0⟩, ⟨12, [], str a.1⟩] bA := aZ.reg
   refine sqQH mixed (by kernel_rfl) aX ?_; intro f6 dp
   refine q1 dn 120 (pt i 0) ?_; intro ia dq
   refine q1 dq 121 (pt i 0) ?_; intro ib dr
   refine q1 dr 122 (pt i 0) ?_; intro ic ds
   refine q1 ds 123 (pt i 2) ?_; intro id bI
   refine ql_ bI 0 2 (i6 a.2.Reader.Code) rfl rfl ?_; intro ie dt
   refine q1 dt 125 (.bool (a.2.Reader.Code == 0)) ?_; intro ig du
   have dv := du.reval (d := 125) (c := []) (v := .bool (a.2.Reader.Code == 0)) (by kernel_rfl) (.bool false) (by rw [ay])
   refine q1 dv 126 (.bool false) ?_; intro ih dw
   refine qk_ dw false ?_; intro ii dx
   refine qk_ dx false ?_; intro ij dy
   refine qk_ dy false ?_; intro ik dz
   refine qk_ dz false ?_; intro il dA
   refine qk_ dA false ?_; intro im dB
   refine qk_ dB false ?_; intro io dC
   refine qk_ dC false ?_; intro ip dD
   refine q1 dD 134 (.bool false) ?_; intro iq bJ
   refine qnl (dp _ ?_); intro ir aD
   refine cdF bJ (by kernel_rfl) ?_
   refine k_ (s_ (sqB bJ aD [0] [] [(142, .bool (a.2.Reader.Code != 0))] ?_)); intro dE aE
   refine c_ aE be (fun _ f7 => ?_) fun _ gc => ?_
   ·
    have dF : Fr 158 [] [⟨2, [], pt m 0⟩, ⟨6, [], pt i 0⟩] dE := aE.reg
    refine wp_seq (rgS mixed aD [(0, true), (1, true), (2, true), (3, true), (4, true), (5, true), (6, false), (7, true), (8, true)] [] [0] [.row i (e46FfRead a.2 z A) 46] ?_)
    intro f8 dG it dH
    have f9 := Fz.le.refl P
    refine cS dF 6 [0] [] [(143, .agg #[i6 0, .bool false, .bool false, .bool false, i6 0, .slice none 0 0]), (148, i6 a.2.Reader.Code)] ?_; intro iu bL
    refine eS rfl ?_; intro ga dI
    refine sx bL dH 1 [i6 0, .bool false, .bool false, .bool false, i6 0, .slice none 0 0] 0 ?_; intro gb dJ
    have bM : Mem w.heap.size [] w Z [.row i (e46FfRead a.2 z A) 46, .row m [i6 0, .bool false, .bool false, .bool false, i6 0, .slice none 0 0] 24] P gb := dJ
    refine nl (qnI (dI _ _ (bM.cst f9 [0]) ?_))
    refine cS bL 2 [] [] [(3, i6 0), (4, i6 a.2.Reader.Code)] ?_; intro iv dK
    refine nS (dG _ _ ?_)
    refine t_ (r_ (h_ (rt (fn := Tryz.f5) (v := .tuple #[.agg #[i6 0, .bool false, .bool false, .bool false, i6 0, .slice none 0 0], i6 0, i6 a.2.Reader.Code]) dK (re3c dK (fn := Tryz.f5) rfl (ad := ⟨m, 0, none⟩) (by kernel_rfl) (loadVar_run bM 1 (b := m) (k := 6) (vs := [i6 0, .bool false, .bool false, .bool false, i6 0, .slice none 0 0]) (ty := 24) rfl (by kernel_rfl) (by kernel_rfl)) (by kernel_rfl) (by kernel_rfl)) ?_)))
    exact ⟨((⟨0, false, false, false, 0, []⟩ : Frame), 0, a.2.Reader.Code), none, 0, P, rfl, f7, (SlR.nil _ _), bM.kp⟩
   apply k_
   have dL : Fr 158 [] [⟨2, [], pt m 0⟩, ⟨6, [], pt i 0⟩] dE := aE.reg
   refine wp_seq (rgS mixed aD [(0, true), (1, true), (2, true), (3, true), (4, true), (5, true), (6, true), (7, true), (8, true), (9, false), (10, true), (11, true)] [] [0] [.row i (e46FfRead a.2 z A) 46] ?_)
   intro gd dM iw dN
   have ge := Fz.le.refl P
   refine cS dL 9 [0, 0] [] [(152, .agg (e24FfRead a.2.f z A).toArray), (157, i6 a.2.Reader.At)] ?_; intro ix bN
   refine eS rfl ?_; intro gf dO
   refine sx bN dN 1 (e24FfRead a.2.f z A) 0 ?_; intro gg dP
   have bO : Mem w.heap.size [] w Z [.row i (e46FfRead a.2 z A) 46, .row m (e24FfRead a.2.f z A) 24] P gg := dP
   refine nl (qnI (dO _ _ (bO.cst ge [0]) ?_))
   refine cS bN 2 [] [] [(3, i6 a.2.Reader.At), (4, i6 0)] ?_; intro iy dQ
   refine nS (dM _ _ ?_)
   refine t_ (r_ (rt (fn := Tryz.f5) (v := .tuple #[.agg (e24FfRead a.2.f z A).toArray, i6 a.2.Reader.At, i6 0]) dQ (re3c dQ (fn := Tryz.f5) rfl (ad := ⟨m, 0, none⟩) (by kernel_rfl) (loadVar_run bO 1 (b := m) (k := 6) (vs := (e24FfRead a.2.f z A)) (ty := 24) rfl (by kernel_rfl) (by kernel_rfl)) (by kernel_rfl) (by kernel_rfl)) ?_))
   exact ⟨(a.2.f, a.2.Reader.At, 0), z, A, P, rfl, gc, ag, bO.kp⟩
  have R := Fz.le.refl ab
  refine c_ cD aR (fun _ gh => ?_) fun _ bf => ?_
  ·
   refine rgH ?_; intro gi dR
   refine s1 cD 82 (pt i 0) ?_; intro iz dS
   obtain ⟨gj, dT⟩ := gh
   refine ck dS 23 #[pt i 0] ?_
   obtain ⟨H, gk, dU⟩ := hxq dT
   have o := rfast_fun p gj i W X _ _ _ _ _ _ L M M.fz; rw [gk] at o; refine o.mono ?_; rintro _ gl ⟨dV, dW, dX, rfl, ao, dY, hm⟩; refine ⟨_, rfl, ?_⟩; intro iA gm; have dZ := hm
   replace R := R.mono ao
   have gn : Mem w.heap.size [] w Z [.row i (e46FfRead H dV dW) 46, .row m [i6 0, .bool false, .bool false, .bool false, i6 0, .slice none 0 0] 24] dX gl := dZ
   have go := dU (dY.small)
   apply dR
   exact d_ (aS H dV dW dX ⟨go, dY, R⟩ _ _ ((gm.reg).anyβ _ (by kernel_rfl)) (gn.kp))
  refine sqB cD M [0] [] [(89, .bool (p.Reader.Code == 0))] ?_; intro iB bg
  refine c_ bg bf (fun _ gp => ?_) fun _ gE => ?_
  ·
   refine sqH ?_; intro gq d0
   refine bt bg M 4 [0] [] [(94, .agg (e24FfRead p.f W X).toArray)] ?_; intro iC d1
   obtain ⟨gr, gs⟩ := gp
   refine fc d1 M (fhead_fun p.f gr W X _ _ L M.fz) ?_; intro iD iE d2 bR
   refine fc d2 bR (csum_fun 0 (fheadS p.f) _ _ bR.fz) ?_; intro iF iG d3 aF
   refine bt d3 aF 5 [] [] [(9, str (csumS 0 (fheadS p.f)).1)] ?_; intro iH d4
   apply d0
   refine sqH ?_; intro gt d5
   refine bt d4 aF 3 [] [] [(101, pt i 0)] ?_; intro iI d6
   obtain ⟨gu, d7⟩ := gs
   refine ck d6 21 #[pt i 0, i6 15] ?_
   obtain ⟨s, gv, d8⟩ := hxq d7
   have o := rtakeF_fun p 15 gu i W X _ _ _ _ _ _ L aF aF.fz; rw [gv] at o; refine o.mono ?_; rintro _ gw ⟨bS, bT, d9, rfl, ap, aG, hm⟩; refine ⟨_, rfl, ?_⟩; intro iJ ea; have eb := hm
   replace R := R.mono ap
   have aH : Mem w.heap.size [] w Z [.row i (e46FfRead s.2 bS bT) 46, .row m [i6 0, .bool false, .bool false, .bool false, i6 0, .slice none 0 0] 24] d9 gw := eb
   have bh := d8 (aG.small)
   refine s1 ea 11 (str s.1) ?_; intro iK ec
   apply d5
   refine sqB ec aH [0] [270] [(113, .bool ((s.2.Reader.Code == 0) && (s.1 != (csumS 0 (fheadS p.f)).1)))] ?_; intro iL bi
   refine c_ bi bh (fun _ ed => ?_) fun _ gD => ?_
   ·
    refine rgH ?_; intro gx ee
    refine s1 bi 114 (pt i 0) ?_; intro iM ef
    refine ck ef 19 #[pt i 0, i6 6] ?_
    obtain ⟨I, gy, eg⟩ := hxq ed
    have o := rfail_fun s.2 6 i bS bT _ _ _ _ _ _ aG aH aH.fz; rw [gy] at o; refine o.mono ?_; rintro _ gz ⟨eh, ei, ej, rfl, ah, ek, hm⟩; refine ⟨_, rfl, ?_⟩; intro iN gA; have el := hm
    replace R := R.mono ah
    have gB : Mem w.heap.size [] w Z [.row i (e46FfRead I eh ei) 46, .row m [i6 0, .bool false, .bool false, .bool false, i6 0, .slice none 0 0] 24] ej gz := el
    have gC := eg (ek.small)
    apply ee
    exact d_ (aS I eh ei ej ⟨gC, ek, R⟩ _ _ ((gA.reg).anyβ _ (by kernel_rfl)) (gB.kp))
   exact l_ (d_ (aS s.2 bS bT d9 ⟨gD, aG, R⟩ _ _ ((bi.reg).anyβ _ (by kernel_rfl)) (aH.kp)))
  exact l_ (d_ (aS p W X ab ⟨gE, L, R⟩ _ _ ((bg.reg).anyβ _ (by kernel_rfl)) (M.kp)))
 have C := Fz.le.refl al
 refine b_ (sqB cz B [0] [] [(46, .bool (j.2.Reader.Code != 0))] ?_); intro iO bj
 refine c_ bj aP (fun _ gF => ?_) fun _ bk => ?_
 ·
  exact l_ (j_ (d_ (aQ j.2 U V al ⟨gF, u, C⟩ _ _ ((bj.reg).anyβ _ (by kernel_rfl)) (B.kp))))
 refine sqB bj B [0] [] [(53, .bool ((!j.2.f.Fast) && (decide (j.1 > 8))))] ?_; intro iP aI
 refine c_ aI bk (fun _ em => ?_) fun _ bm => ?_
 ·
  refine rgH ?_; intro gG en
  refine s1 aI 64 (pt i 0) ?_; intro iQ eo
  refine ck eo 19 #[pt i 0, i6 4] ?_
  obtain ⟨J, gH, ep⟩ := hxq em
  have o := rfail_fun j.2 4 i U V _ _ _ _ _ _ u B B.fz; rw [gH] at o; refine o.mono ?_; rintro _ gI ⟨eq, er, es, rfl, bl, et, hm⟩; refine ⟨_, rfl, ?_⟩; intro iR gJ; have eu := hm
  replace C := C.mono bl
  have gK : Mem w.heap.size [] w Z [.row i (e46FfRead J eq er) 46, .row m [i6 0, .bool false, .bool false, .bool false, i6 0, .slice none 0 0] 24] es gI := eu
  have gL := ep (et.small)
  apply en
  exact j_ (d_ (aQ J eq er es ⟨gL, et, C⟩ _ _ ((gJ.reg).anyβ _ (by kernel_rfl)) (gK.kp)))
 refine sqB aI B [0] [] [(66, .bool j.2.f.Remote)] ?_; intro iS aJ
 refine c_ aJ bm (fun _ gM => ?_) fun _ ey => ?_
 ·
  refine rgH ?_; intro gN ev
  refine bt aJ B 5 [] [] [(73, i6 j.1), (76, pt i 9)] ?_; intro iT ew
  refine sx ew B 0 [str j.2.Reader.Row, i6 j.2.Reader.At, i6 j.2.Reader.Code, y8 j.2.Reader.c.last, i6 j.2.Reader.c.n, i6 j.2.f.ID, .bool j.2.f.Long, .bool j.2.f.Fast, .bool j.2.f.Remote, i6 j.1, .slice U j.2.f.Data.length V] 9 ?_; intro gO ex
  have gP : Mem w.heap.size [] w Z [.row i [str j.2.Reader.Row, i6 j.2.Reader.At, i6 j.2.Reader.Code, y8 j.2.Reader.c.last, i6 j.2.Reader.c.n, i6 j.2.f.ID, .bool j.2.f.Long, .bool j.2.f.Fast, .bool j.2.f.Remote, i6 j.1, .slice U j.2.f.Data.length V] 46, .row m [i6 0, .bool false, .bool false, .bool false, i6 0, .slice none 0 0] 24] al gO := ex
  apply ev
  exact j_ (d_ (aQ (⟨j.2.Reader, (⟨j.2.f.ID, j.2.f.Long, j.2.f.Fast, j.2.f.Remote, j.1, j.2.f.Data⟩ : Frame)⟩ : FReader) U V al ⟨gM, u, C⟩ _ _ ((ew.reg).anyβ _ (by kernel_rfl)) (gP.kp)))
 refine sqH ?_; intro gQ ez
 refine ck aJ 20 #[] ?_
 refine (fsizes_fun  _ _ B.fz).mono ?_; rintro _ gR ⟨gS, aK, gT, rfl, hm⟩; refine ⟨_, rfl, ?_⟩; intro iU eA; have eB := B.callZ hm; have bn := hm.ext.le
 replace u := u.mono bn
 replace C := C.mono bn
 have ai : Mem w.heap.size [] w Z [.own t6 3 gS aK fsizes, .row i (e46FfRead j.2 U V) 46, .row m [i6 0, .bool false, .bool false, .bool false, i6 0, .slice none 0 0] 24] gT gR := eB
 have gU := ey (ai.ownSmall 0 rfl)
 refine s1 eA 28 (i6 j.1) ?_; intro iV eC
 obtain ⟨gV, eD⟩ := gU
 refine ixo eC ai 0 (T := t6) (xs := fsizes) j.1 gV (k := .i64) (e := 3) (bytes := 8) (nog rfl _) rfl (by kernel_rfl) rfl (by kernel_rfl) (by kernel_rfl) rfl (by kernel_rfl) ?_; intro bo iW gW eE
 subst gW
 obtain ⟨aq, gX, gY⟩ := gxq eD (by first | omega | (simp only [List.length_set] at *; omega))
 obtain ⟨gZ, g0, g1⟩ := own_el ai 0 (T := t6) (xs := fsizes) rfl j.1.toNat gX
 obtain rfl : gZ = ([i6 aq] : List Value) := g0
 refine lc1 eE 30 (i6 aq) (g1 0 _ rfl) rfl ?_; intro iX eF
 refine s1 eF 7 (i6 aq) ?_; intro iY eG
 apply ez
 refine sqH ?_; intro g2 eH
 refine bt eG ai 5 [] [] [(33, pt i 0), (35, i6 (w64 (8 * aq)))] ?_; intro iZ eI
 obtain ⟨g3, eJ⟩ := gY
 refine ck eI 21 #[pt i 0, i6 (w64 (8 * aq))] ?_
 obtain ⟨l, g4, eK⟩ := hxq eJ
 have o := rtakeF_fun j.2 (w64 (8 * aq)) g3 i U V _ _ _ _ _ _ u (ai.perm (pk 1 rfl)) ai.fz; rw [g4] at o; refine o.mono ?_; rintro _ g5 ⟨eL, eM, g6, rfl, bp, aL, hm⟩; refine ⟨_, rfl, ?_⟩; intro i0 eN; have eO := hm
 replace C := C.mono bp
 have bq : Mem w.heap.size [] w Z [.row i (e46FfRead l.2 eL eM) 46, .own t6 3 (sm bo) aK fsizes, .row m [i6 0, .bool false, .bool false, .bool false, i6 0, .slice none 0 0] 24] g6 g5 := eO
 have eP := eK (aL.small)
 refine s1 eN 8 (str l.1) ?_; intro i1 eQ
 apply eH
 refine rgH ?_; intro g7 eR
 refine bt eQ bq 2 [] [] [(38, pt i 0), (39, str l.1)] ?_; intro i2 eT
 refine ck eT 22 #[str l.1] ?_
 refine (bbytes_fun l.1 _ _ bq.fz).mono ?_; rintro _ g8 ⟨aj, ak, eU, rfl, hm⟩; refine ⟨_, rfl, ?_⟩; intro i3 eV; have eW := bq.callZ hm; have aM := hm.ext.le
 replace C := C.mono aM
 have br : Mem w.heap.size [] w Z [.own t8 5 aj ak (bbytesS l.1).1, .row i (e46FfRead l.2 eL eM) 46, .own t6 3 (sm bo) aK fsizes, .row m [i6 0, .bool false, .bool false, .bool false, i6 0, .slice none 0 0] 24] eU g8 := eW
 have g9 := eP (br.ownSmall 0 rfl)
 refine bt eV br 6 [] [] [(41, .slice aj (bbytesS l.1).1.length ak), (45, pt i 10)] ?_; intro i4 eX
 refine sx eX br 1 [str l.2.Reader.Row, i6 l.2.Reader.At, i6 l.2.Reader.Code, y8 l.2.Reader.c.last, i6 l.2.Reader.c.n, i6 l.2.f.ID, .bool l.2.f.Long, .bool l.2.f.Fast, .bool l.2.f.Remote, i6 l.2.f.Size, .slice aj (bbytesS l.1).1.length ak] 10 ?_; intro eY eZ
 have ha : Mem w.heap.size [] w Z [.own t8 5 aj ak (bbytesS l.1).1, .row i [str l.2.Reader.Row, i6 l.2.Reader.At, i6 l.2.Reader.Code, y8 l.2.Reader.c.last, i6 l.2.Reader.c.n, i6 l.2.f.ID, .bool l.2.f.Long, .bool l.2.f.Fast, .bool l.2.f.Remote, i6 l.2.f.Size, .slice aj (bbytesS l.1).1.length ak] 46, .own t6 3 (sm bo) aK fsizes, .row m [i6 0, .bool false, .bool false, .bool false, i6 0, .slice none 0 0] 24] eU eY := eZ
 apply eR
 refine j_ (d_ ?_)
 obtain ⟨e0, aN, e1, hb⟩ := ha.freeze 0 rfl
 replace C := C.mono aN
 have hc : Mem w.heap.size [] w Z [.row i [str l.2.Reader.Row, i6 l.2.Reader.At, i6 l.2.Reader.Code, y8 l.2.Reader.c.last, i6 l.2.Reader.c.n, i6 l.2.f.ID, .bool l.2.f.Long, .bool l.2.f.Fast, .bool l.2.f.Remote, i6 l.2.f.Size, .slice aj (bbytesS l.1).1.length ak] 46, .own t6 3 (sm bo) aK fsizes, .row m [i6 0, .bool false, .bool false, .bool false, i6 0, .slice none 0 0] 24] e0 eY := e1
 exact aQ (⟨l.2.Reader, (⟨l.2.f.ID, l.2.f.Long, l.2.f.Fast, l.2.f.Remote, l.2.f.Size, (bbytesS l.1).1⟩ : Frame)⟩ : FReader) aj ak e0 ⟨g9, hb, C⟩ _ _ ((eX.reg).anyβ _ (by kernel_rfl)) (hc.kp)

end Go.Proofs.YtmnlahbngbigdaaGreatDoor
set_option linter.unusedVariables false
set_option linter.unusedSimpArgs false
set_option linter.defProp false
namespace Go.Proofs.YtmnlahbngbigdaaGreatDoor
open Go.Sy Go.RowKit
def fRead_fun (u0 : List UInt8)  (Z : Fz) (w : World)  (hZ : Z.on w) := fc_ (fRead_walk u0  Z w  hZ (fRead_ok u0))
def rSame_fun (u0 : Frame) (u1 : Frame) (ao1 : Option Addr) (cap2 : Nat) (ao4 : Option Addr) (cap5 : Nat) (Z : Fz) (w : World) (hs3 : SlR t8 Z ao1 cap2 u0.Data) (hs6 : SlR t8 Z ao4 cap5 u1.Data) (hZ : Z.on w) := f_ (rSame_walk u0 u1 ao1 cap2 ao4 cap5 Z w hs3 hs6 hZ (rSame_ok u0 u1))
end Go.Proofs.YtmnlahbngbigdaaGreatDoor
