/- Texts put together (pure ones, or walks made by program). -/
import Derived.Test.YtocpdhcjkfmmnaaDoorKr0
import Derived.Test.YtocpdhcjkfmmnaaDoorKr1
import Derived.Test.YtocpdhcjkfmmnaaDoorRows
import Derived.Shelf.Lay
import Derived.Ground.NamesProg
import Derived.Shelf.Strings.Repeat
import Derived.Shelf.Small.Strs
set_option linter.unusedVariables false
set_option linter.unusedSimpArgs false
set_option linter.defProp false
set_option maxRecDepth 100000
set_option maxHeartbeats 0
namespace Go.Proofs.YtocpdhcjkfmmnaaDoor
open Go.Sy Go.RowKit
theorem mixed : Tryd.prog.follows .mixedOrders = true := by kernel_rfl
theorem rdFrame : Rd Tryd.prog 30 tyFrame okFrame := by
  refine ⟨fun enc w fuel cs x h hw => ?_⟩
  have hu : Tryd.prog.underlying 30 = some (.struct _) := Tryd.underlying30
  have hl := rd_len hu h (m := 6) (by kernel_rfl)
  obtain ⟨j, o, p⟩ := rd_field hu h hw 0 rfl (rd_int (P := Tryd.prog) (t := 3) (k := .i64) (by kernel_rfl)) (m := 1) (by kernel_rfl) (off := 0) rfl
  have q : (cs.drop 0).take 1 = [i6 j] := o
  obtain ⟨i, r, s⟩ := rd_field hu h hw 1 rfl (rd_bool (P := Tryd.prog) (t := 4) (by kernel_rfl)) (m := 1) (by kernel_rfl) (off := 1) rfl
  have u : (cs.drop 1).take 1 = [.bool i] := r
  obtain ⟨g, v, y⟩ := rd_field hu h hw 2 rfl (rd_bool (P := Tryd.prog) (t := 4) (by kernel_rfl)) (m := 1) (by kernel_rfl) (off := 2) rfl
  have A : (cs.drop 2).take 1 = [.bool g] := v
  obtain ⟨f, B, C⟩ := rd_field hu h hw 3 rfl (rd_bool (P := Tryd.prog) (t := 4) (by kernel_rfl)) (m := 1) (by kernel_rfl) (off := 3) rfl
  have D : (cs.drop 3).take 1 = [.bool f] := B
  obtain ⟨d, E, F⟩ := rd_field hu h hw 4 rfl (rd_int (P := Tryd.prog) (t := 3) (k := .i64) (by kernel_rfl)) (m := 1) (by kernel_rfl) (off := 4) rfl
  have G : (cs.drop 4).take 1 = [i6 d] := E
  obtain ⟨a, l, H⟩ := rd_field hu h hw 5 rfl (rd_slice (P := Tryd.prog) (t := 28) (e := 5) (bytes := 1) (by kernel_rfl) (rd_int (P := Tryd.prog) (t := 5) (k := .u8) (by kernel_rfl))) (m := 1) (by kernel_rfl) (off := 5) rfl
  obtain ⟨b, c, l, I⟩ := l
  have J : (cs.drop 5).take 1 = [.slice b a.length c] := l
  have z : cs.drop 6 = [] := List.drop_eq_nil_of_le (by omega)
  have K : cs.drop 5 = [.slice b a.length c] := by rw [show cs.drop 5 = (cs.drop 5).take 1 ++ cs.drop 6 from cut_at cs 5 1, J, z]; rfl
  have L : cs.drop 4 = [i6 d, .slice b a.length c] := by rw [show cs.drop 4 = (cs.drop 4).take 1 ++ cs.drop 5 from cut_at cs 4 1, G, K]; rfl
  have M : cs.drop 3 = [.bool f, i6 d, .slice b a.length c] := by rw [show cs.drop 3 = (cs.drop 3).take 1 ++ cs.drop 4 from cut_at cs 3 1, D, L]; rfl
  have N : cs.drop 2 = [.bool g, .bool f, i6 d, .slice b a.length c] := by rw [show cs.drop 2 = (cs.drop 2).take 1 ++ cs.drop 3 from cut_at cs 2 1, A, M]; rfl
  have O : cs.drop 1 = [.bool i, .bool g, .bool f, i6 d, .slice b a.length c] := by rw [show cs.drop 1 = (cs.drop 1).take 1 ++ cs.drop 2 from cut_at cs 1 1, u, N]; rfl
  have n : cs.drop 0 = [i6 j, .bool i, .bool g, .bool f, i6 d, .slice b a.length c] := by rw [show cs.drop 0 = (cs.drop 0).take 1 ++ cs.drop 1 from cut_at cs 0 1, q, O]; rfl
  refine ⟨⟨j, i, g, f, d, a⟩, ?_, p, s, y, C, F, H⟩
  rw [List.drop_zero] at n
  exact ⟨b, c, n, I⟩

theorem bwrite_walk (u0 : Int) (u1 : Int)  (Z : Fz) (w : World)  (hZ : Z.on w) {K : (List UInt8) → Prop} (hp : bwrite_vc u0 u1 K) : Calls Tryd.prog 53 #[y6 u0, i6 u1] w fun e w' => ∃ r : (List UInt8), e = .returned (str r) ∧ K r ∧ Below w.heap.size w w' := by
 refine enter0 Tryd.func53 rfl rfl (by kernel_rfl) ?_; intro a0 q; have l := Mem.start w Z hZ
 refine sqB q l [] [] [] ?_; intro a2 v
 refine sqH ?_; intro V x
 refine s1 v 7 (i6 u1) ?_; intro a5 y
 obtain ⟨ax, W⟩ := hp
 refine mks y l (T := t8) u1 u1 (k := .i64) (k' := .i64) (e := 5) (bytes := 1) (zs := [y8 0]) (z := 0) (by simp only [lim]; omega) (nog rfl _) rfl (by kernel_rfl) rfl (by kernel_rfl) (by kernel_rfl) (by kernel_rfl) (by kernel_rfl) rfl ?_; intro b ay X A B
 have m : Mem w.heap.size [] w Z [.own t8 5 (sm b) u1.toNat (List.replicate u1.toNat (0 : Int))] Z X := B
 refine s1 A 5 (.slice (sm b) (List.replicate u1.toNat (0 : Int)).length u1.toNat) ?_; intro az C
 apply x
 refine s_ (sqB C m [] [] [(9, i6 u1), (10, i6 0)] ?_); intro D E
 apply b_
 have F : Fr 28 [] [⟨0, [], y6 u0⟩, ⟨1, [], i6 u1⟩, ⟨5, [], .slice (sm b) (List.replicate u1.toNat (0 : Int)).length u1.toNat⟩, ⟨9, [], i6 u1⟩, ⟨10, [], i6 0⟩] D := E.reg
 obtain ⟨Y, aa, ab, ac⟩ := W
 refine lp (ι := Int × Int × (List Int)) (fun s => [⟨0, [], y6 s.1⟩, ⟨1, [], i6 u1⟩, ⟨5, [], .slice (sm b) s.2.2.length u1.toNat⟩, ⟨9, [], i6 u1⟩, ⟨10, [], i6 s.2.1⟩]) (fun s => [.own t8 5 (sm b) u1.toNat s.2.2]) (fun s => Z) (fun s => Y s.1 s.2.1 s.2.2) (fun s => aa s.1 s.2.1 s.2.2) ⟨u0, 0, (List.replicate u1.toNat (0 : Int))⟩ ab (by exact F.region (by kernel_rfl) (by kernel_rfl)) (by exact m) ?_
 rintro ⟨d, a, c⟩ ad ae af H I
 have i := ac d a c ad
 refine sqB H I [] [] [(11, .bool (decide (a < u1)))] ?_; intro aA h
 apply s_
 refine cd h (t := decide (a < u1)) (by kernel_rfl) (fun n => ?_) (fun n => ?_)
 · -- yes
  have ag := i.1 n
  refine k_ (s_ (b_ (sqB h I [] [] [(6, i6 a)] ?_))); intro aB L
  refine sqH ?_; intro ah M
  refine bt L I 9 [] [] [(13, .slice (sm b) c.length u1.toNat), (17, i6 (w64 ((w64 (u1 - 1)) - a))), (21, y8 (w8 (48 + (w8 (bAnd .u64 d 1)))))] ?_; intro aC N
  obtain ⟨ai, O⟩ := ag
  refine ixo N I 0 (T := t8) (xs := c) (w64 ((w64 (u1 - 1)) - a)) ai (k := .i64) (e := 5) (bytes := 1) (nog rfl _) rfl (by kernel_rfl) rfl (by kernel_rfl) (by kernel_rfl) rfl (by kernel_rfl) ?_; intro aj ak al j
  obtain rfl : b = aj := by simpa using al
  refine so j I 0 (T := t8) (xs := c) (w64 ((w64 (u1 - 1)) - a)).toNat (w8 (48 + (w8 (bAnd .u64 d 1)))) (u := y8 (w8 (48 + (w8 (bAnd .u64 d 1))))) (nog rfl _) rfl rfl (by kernel_rfl) rfl (by kernel_rfl) rfl (by kernel_rfl) (by first | omega | (simp only [List.length_set] at *; omega)) rfl ?_; intro am P
  have Q : Fr 28 [] [⟨0, [], y6 d⟩, ⟨1, [], i6 u1⟩, ⟨5, [], .slice (sm b) (c.set (w64 ((w64 (u1 - 1)) - a)).toNat (w8 (48 + (w8 (bAnd .u64 d 1))))).length u1.toNat⟩, ⟨6, [], i6 a⟩, ⟨9, [], i6 u1⟩, ⟨10, [], i6 a⟩, ⟨11, [], .bool (decide (a < u1))⟩, ⟨13, [], .slice (sm b) (c.set (w64 ((w64 (u1 - 1)) - a)).toNat (w8 (48 + (w8 (bAnd .u64 d 1))))).length u1.toNat⟩, ⟨17, [], i6 (w64 ((w64 (u1 - 1)) - a))⟩, ⟨21, [], y8 (w8 (48 + (w8 (bAnd .u64 d 1))))⟩, ⟨22, [], .pointer (some ⟨b, (w64 ((w64 (u1 - 1)) - a)).toNat * 1, none⟩)⟩] ak := by (try simp only [List.length_set] at j); (try simp only [List.length_set]); exact j.region (by kernel_rfl) (by kernel_rfl)
  have o : Mem w.heap.size [] w Z [.own t8 5 (sm b) u1.toNat (c.set (w64 ((w64 (u1 - 1)) - a)).toNat (w8 (48 + (w8 (bAnd .u64 d 1)))))] Z am := P
  apply M
  refine rgB Q o [] [] [(0, y6 (bShr .u64 d 1))] ?_; intro aD R
  refine j_ (t_ (rgB R o [] [] [(10, i6 (w64 (a + 1)))] ?_)); intro aE an
  exact d_ ⟨⟨bShr .u64 d 1, w64 (a + 1), c.set (w64 ((w64 (u1 - 1)) - a)).toNat (w8 (48 + (w8 (bAnd .u64 d 1))))⟩, O.1, O.2, (an.region (by kernel_rfl) (by kernel_rfl)).anyβ _ (by kernel_rfl), o.kp⟩
 · -- no
  have ap := i.2 n
  refine x_ (y_ (y_ (z_ (t_ (sqH ?_))))); intro aq S
  refine s1 h 26 (.slice (sm b) c.length u1.toNat) ?_; intro aF p
  refine u_ p (str (bstr c)) ((by obtain ⟨Z9, aG, ar, au⟩ := I.lend 0 rfl; exact bstr_op p (g := []) (e := 5) (ao := (sm b)) (cap := u1.toNat) (xs := c) rfl (by kernel_rfl) (by kernel_rfl) (by kernel_rfl) (by kernel_rfl)  au ar rfl)) ?_; intro aH U
  refine s1 U 4 (str (bstr c)) ?_; intro aI av
  apply S
  exact r_ (ra1 av (str (bstr c)) ⟨bstr c, rfl, ap, I.below⟩)

theorem fsizes_walk   (Z : Fz) (w : World)  (hZ : Z.on w) {K : (List Int) → Prop} (hp : fsizes_vc  K) : Calls Tryd.prog 44 #[] w fun e w' => ∃ (r : (List Int)) (ao1001 : Option Addr) (cap1002 : Nat) (Z' : Fz), e = .returned (.slice ao1001 r.length cap1002) ∧ K r ∧ Mem w.heap.size [] w Z [.own t6 3 ao1001 cap1002 r] Z' w' := by
 refine enter0 Tryd.func44 rfl rfl (by kernel_rfl) ?_; intro n d; have c := Mem.start w Z hZ
 refine sqB d c [] [] [] ?_; intro p f
 refine sqH ?_; intro j g
 refine nw f c (fun b => .slice (sm b) 16 16) [i6 0, i6 1, i6 2, i6 3, i6 4, i6 5, i6 6, i6 7, i6 8, i6 12, i6 16, i6 20, i6 24, i6 32, i6 48, i6 64] 3 ?_; intro a q k h i
 refine s1 h 0 (.slice (sm a) 16 16) ?_; intro s l
 apply g
 apply r_
 have m : Mem w.heap.size [] w Z [.own t6 3 (sm a) 16 ([0, 1, 2, 3, 4, 5, 6, 7, 8, 12, 16, 20, 24, 32, 48, 64] : List Int)] Z k := i.rowOwn (T := t6) (xs := ([0, 1, 2, 3, 4, 5, 6, 7, 8, 12, 16, 20, 24, 32, 48, 64] : List Int)) 0 rfl (by decide) (by show 16 ≤ lim; decide) ((RepAll.one (T := t6) (x := 0) rfl).append ((RepAll.one (T := t6) (x := 1) rfl).append ((RepAll.one (T := t6) (x := 2) rfl).append ((RepAll.one (T := t6) (x := 3) rfl).append ((RepAll.one (T := t6) (x := 4) rfl).append ((RepAll.one (T := t6) (x := 5) rfl).append ((RepAll.one (T := t6) (x := 6) rfl).append ((RepAll.one (T := t6) (x := 7) rfl).append ((RepAll.one (T := t6) (x := 8) rfl).append ((RepAll.one (T := t6) (x := 12) rfl).append ((RepAll.one (T := t6) (x := 16) rfl).append ((RepAll.one (T := t6) (x := 20) rfl).append ((RepAll.one (T := t6) (x := 24) rfl).append ((RepAll.one (T := t6) (x := 32) rfl).append ((RepAll.one (T := t6) (x := 48) rfl).append (RepAll.one (T := t6) (x := 64) rfl))))))))))))))))
 exact ra1 l (.slice (sm a) ([0, 1, 2, 3, 4, 5, 6, 7, 8, 12, 16, 20, 24, 32, 48, 64] : List Int).length 16) ⟨([0, 1, 2, 3, 4, 5, 6, 7, 8, 12, 16, 20, 24, 32, 48, 64] : List Int), (sm a), 16, Z, rfl, hp, m.kp⟩
def fsizes_fun   (Z : Fz) (w : World)  (hZ : Z.on w) := fc_ (fsizes_walk   Z w  hZ (fsizes_ok ))
theorem fbit_walk (u0 : Bool)  (Z : Fz) (w : World)  (hZ : Z.on w) {K : (List UInt8) → Prop} (hp : fbit_vc u0 K) : Calls Tryd.prog 54 #[.bool u0] w fun e w' => ∃ r : (List UInt8), e = .returned (str r) ∧ K r ∧ Below w.heap.size w w' := by
 refine enter0 Tryd.func54 rfl rfl (by kernel_rfl) ?_; intro k d; have a := Mem.start w Z hZ
 refine sqB d a [] [] [] ?_; intro m f
 refine s_ (sqB f a [] [] [(3, .bool u0)] ?_); intro n b
 refine cd b (t := u0) (by kernel_rfl) (fun c => ?_) (fun c => ?_)
 · -- yes
  have g := hp.1 c
  refine sqB b a [] [] [(2, str ([49] : List UInt8))] ?_; intro o h
  exact r_ (h_ (ra1 h (str ([49] : List UInt8)) ⟨([49] : List UInt8), rfl, g, a.below⟩))
 · -- no
  have i := hp.2 c
  refine k_ (sqB b a [] [] [(2, str ([48] : List UInt8))] ?_); intro p j
  exact r_ (ra1 j (str ([48] : List UInt8)) ⟨([48] : List UInt8), rfl, i, a.below⟩)
def fbit_fun (u0 : Bool)  (Z : Fz) (w : World)  (hZ : Z.on w) := f_ (fbit_walk u0  Z w  hZ (fbit_ok u0))
theorem sindex_walk (u0 : List Int) (u1 : Int) (ao1 : Option Addr) (cap2 : Nat) (Z : Fz) (w : World) (hs3 : SlR t6 Z ao1 cap2 u0) (hZ : Z.on w) {K : Int → Prop} (hp : sindex_vc u0 u1 K) : Calls Tryd.prog 46 #[.slice ao1 u0.length cap2, i6 u1] w fun e w' => ∃ r : Int, e = .returned (i6 r) ∧ K r ∧ Below w.heap.size w w' := by
 refine enter0 Tryd.func46 rfl rfl (by kernel_rfl) ?_; intro a0 m; have g := Mem.start w Z hZ
 have G := hp (hs3.small)
 refine sqB m g [] [] [] ?_; intro a6 n
 refine s_ (sqB n g [] [] [(7, i6 (u0.length : Int)), (8, i6 0)] ?_); intro o p
 apply b_
 have q : Fr 19 [] [⟨0, [], .slice ao1 u0.length cap2⟩, ⟨1, [], i6 u1⟩, ⟨7, [], i6 (u0.length : Int)⟩, ⟨8, [], i6 0⟩] o := p.reg
 obtain ⟨H, I, J, L⟩ := G
 refine lp (ι := Int) (fun s => [⟨0, [], .slice ao1 u0.length cap2⟩, ⟨1, [], i6 u1⟩, ⟨7, [], i6 (u0.length : Int)⟩, ⟨8, [], i6 s⟩]) (fun s => []) (fun s => Z) (fun s => H s) (fun s => I s) 0 J (by exact q.region (by kernel_rfl) (by kernel_rfl)) (by exact g) ?_
 rintro a M N O v x
 have h := L a M
 refine sqB v x [] [] [(9, .bool (decide (a < (u0.length : Int))))] ?_; intro ae c
 apply s_
 refine cd c (t := decide (a < (u0.length : Int))) (by kernel_rfl) (fun j => ?_) (fun j => ?_)
 · -- yes
  have P := h.1 j
  refine k_ (s_ (b_ (sqB c x [] [] [(5, i6 a)] ?_))); intro af z
  refine sqH ?_; intro Q A
  refine bt z x 3 [] [] [(11, i6 u1), (12, .slice ao1 u0.length cap2), (13, i6 a)] ?_; intro ag B
  obtain ⟨R, C⟩ := P
  refine ix_ B hs3 a R .i64 3 8 ?_; intro ah ai S d aj U V W D
  have i := C d U
  obtain rfl : S = ([i6 d] : List Value) := W
  refine z1 D x 15 V 0 (i6 d) rfl ?_; intro ak E
  refine s1 E 16 (.bool (u1 == d)) ?_; intro al f
  apply A
  refine cd f (t := u1 == d) (by kernel_rfl) (fun l => ?_) (fun l => ?_)
  · -- yes
   have X := i.1 l
   refine sqB f x [] [] [(4, i6 a)] ?_; intro am Y
   exact r_ (i_ (h_ (h_ (i_ (h_ (ra1 Y (i6 a) ⟨a, rfl, X, x.below⟩))))))
  · -- no
   have F := i.2 l
   refine l_ (j_ (t_ (rgB f x [] [] [(8, i6 (w64 (a + 1)))] ?_))); intro an aa
   exact d_ ⟨w64 (a + 1), F.1, F.2, (aa.region (by kernel_rfl) (by kernel_rfl)).anyβ _ (by kernel_rfl), x.kp⟩
 · -- no
  have ab := h.2 j
  refine x_ (y_ (y_ (z_ (t_ (sqB c x [] [] [(4, i6 (-1))] ?_))))); intro ao ac
  exact r_ (ra1 ac (i6 (-1)) ⟨-1, rfl, ab, x.below⟩)

theorem scontains_walk (u0 : List Int) (u1 : Int) (ao1 : Option Addr) (cap2 : Nat) (Z : Fz) (w : World) (hs3 : SlR t6 Z ao1 cap2 u0) (hZ : Z.on w) {K : Bool → Prop} (hp : scontains_vc u0 u1 K) : Calls Tryd.prog 34 #[.slice ao1 u0.length cap2, i6 u1] w fun e w' => ∃ r : Bool, e = .returned (.bool r) ∧ K r ∧ Below w.heap.size w w' := by
 refine enter0 Tryd.func34 rfl rfl (by kernel_rfl) ?_; intro n c; have a := Mem.start w Z hZ
 have j := hp (hs3.small)
 refine sqB c a [] [] [] ?_; intro p d
 refine sqH ?_; intro k f
 refine bt d a 2 [] [] [(5, .slice ao1 u0.length cap2), (6, i6 u1)] ?_; intro q g
 refine ck g 46 #[.slice ao1 u0.length cap2, i6 u1] ?_
 refine (sindex_walk u0 u1 ao1 cap2 _ _ hs3 a.fz j).mono ?_; rintro _ s ⟨b, rfl, l, hb⟩; refine ⟨_, rfl, ?_⟩; intro t h; have i := a.call hb
 refine bt h i 2 [] [] [(4, .bool (decide (b ≥ 0)))] ?_; intro u m
 apply f
 exact r_ (ra1 m (.bool (decide (b ≥ 0))) ⟨decide (b ≥ 0), rfl, l, i.below⟩)

end Go.Proofs.YtocpdhcjkfmmnaaDoor
set_option linter.unusedVariables false
set_option linter.unusedSimpArgs false
set_option linter.defProp false
set_option maxRecDepth 100000
set_option maxHeartbeats 0
namespace Go.Proofs.YtocpdhcjkfmmnaaDoor
open Go.Sy Go.RowKit
abbrev e30B (X : Frame) (A0 : Option Addr) (C0 : Nat) : List Value := [i6 X.ID, .bool X.Long, .bool X.Fast, .bool X.Remote, i6 X.Size, .slice A0 X.Data.length C0]
def bwrite_fun (u0 : Int) (u1 : Int) (hpre : 0 ≤ u1 ∧ u1 ≤ 64 ∧ 0 ≤ u0 ∧ u0 < 2 ^ 62)  (Z : Fz) (w : World)  (hZ : Z.on w) := f_ (bwrite_walk u0 u1  Z w  hZ (bwrite_ok u0 u1 hpre))
def scontains_fun (u0 : List Int) (u1 : Int) (ao1 : Option Addr) (cap2 : Nat) (Z : Fz) (w : World) (hs3 : SlR t6 Z ao1 cap2 u0) (hZ : Z.on w) := f_ (scontains_walk u0 u1 ao1 cap2 Z w hs3 hZ (scontains_ok u0 u1))
theorem fname_walk (u0 : Frame) (ao1 : Option Addr) (cap2 : Nat) (Z : Fz) (w : World) (hs3 : SlR t8 Z ao1 cap2 u0.Data) (hZ : Z.on w) {K : (List UInt8) → Prop} (hp : fname_vc u0 K) : Calls Tryd.prog 45 #[.agg #[i6 u0.ID, .bool u0.Long, .bool u0.Fast, .bool u0.Remote, i6 u0.Size, .slice ao1 u0.Data.length cap2]] w fun e w' => ∃ r : (List UInt8), e = .returned (str r) ∧ K r ∧ Below w.heap.size w w' := by
 refine enter0 Tryd.func45 rfl rfl (by kernel_rfl) ?_; intro a0 u; have v := Mem.start w Z hZ
 have f := hp (hs3.small)
 refine sqH ?_; intro U x
 refine nw u v pb (e30B u0 ao1 cap2) 30 ?_; intro a a7 ax y c
 refine s1 y 2 (str []) ?_; intro ay z
 apply x
 refine s_ (sqB z c [0] [] [(5, .bool (!u0.Long))] ?_); intro A d
 refine cd d (t := !u0.Long) (by kernel_rfl) (fun h => ?_) (fun h => ?_)
 · -- yes
  have V := f.1 h
  have B : Fr 30 [] [⟨1, [], pt a 0⟩] A := d.reg
  refine sqQH mixed (by kernel_rfl) c ?_; intro W C
  refine q1 B 6 (pt a 0) ?_; intro az i
  refine ql_ i 0 0 (i6 u0.ID) rfl rfl ?_; intro aA D
  refine q1 D 8 (y6 (wu64 u0.ID)) ?_; intro aB E
  obtain ⟨X, Y⟩ := V
  refine qcl E (str (bwriteS (wu64 u0.ID) 11)) 53 #[y6 (wu64 u0.ID), i6 11] (nog rfl _) rfl (by kernel_rfl) (fun _ => by kernel_rfl) (qfc fun w hC => bwrite_fun (wu64 u0.ID) 11 X _ _ hC.fz) ?_; intro aC F
  refine q1 F 10 (pt a 3) ?_; intro aD j
  refine ql_ j 0 3 (.bool u0.Remote) rfl rfl ?_; intro aE G
  refine qcl G (str (fbit u0.Remote)) 54 #[.bool u0.Remote] (nog rfl _) rfl (by kernel_rfl) (fun _ => by kernel_rfl) (qfc fun w hC => fbit_fun u0.Remote _ _ hC.fz) ?_; intro aF k
  obtain ⟨aa, ab⟩ := Y
  refine qu_ k (str ((bwriteS (wu64 u0.ID) 11) ++ (fbit u0.Remote))) (fun v47 hC => stradd_run k (g := []) rfl (by kernel_rfl) (by kernel_rfl) aa rfl) ?_; intro aG l
  obtain ⟨ac, ad⟩ := ab
  refine qu_ l (str (((bwriteS (wu64 u0.ID) 11) ++ (fbit u0.Remote)) ++ ([48] : List UInt8))) (fun v52 hC => stradd_run l (g := []) rfl (by kernel_rfl) (by kernel_rfl) ac rfl) ?_; intro aH H
  refine q1 H 2 (str (((bwriteS (wu64 u0.ID) 11) ++ (fbit u0.Remote)) ++ ([48] : List UInt8))) ?_; intro aI ae
  refine qnl (C _ ?_); intro aJ af
  exact r_ (h_ (ra1 ae (str (((bwriteS (wu64 u0.ID) 11) ++ (fbit u0.Remote)) ++ ([48] : List UInt8))) ⟨((bwriteS (wu64 u0.ID) 11) ++ (fbit u0.Remote)) ++ ([48] : List UInt8), rfl, ad, af.below⟩))
 · -- no
  have ag := f.2 h
  apply k_
  have I : Fr 30 [] [⟨1, [], pt a 0⟩] A := d.reg
  refine sqQH mixed (by kernel_rfl) c ?_; intro ah J
  refine q1 I 15 (pt a 0) ?_; intro aK m
  refine ql_ m 0 0 (i6 u0.ID) rfl rfl ?_; intro aL L
  refine q1 L 17 (i6 (bShr .i64 u0.ID 18)) ?_; intro aM M
  refine q1 M 18 (y6 (wu64 (bShr .i64 u0.ID 18))) ?_; intro aN N
  obtain ⟨ai, aj⟩ := ag
  refine qcl N (str (bwriteS (wu64 (bShr .i64 u0.ID 18)) 11)) 53 #[y6 (wu64 (bShr .i64 u0.ID 18)), i6 11] (nog rfl _) rfl (by kernel_rfl) (fun _ => by kernel_rfl) (qfc fun w hC => bwrite_fun (wu64 (bShr .i64 u0.ID 18)) 11 ai _ _ hC.fz) ?_; intro aO n
  obtain ⟨ak, al⟩ := aj
  refine qu_ n (str ((bwriteS (wu64 (bShr .i64 u0.ID 18)) 11) ++ ([49, 49] : List UInt8))) (fun v82 hC => stradd_run n (g := []) rfl (by kernel_rfl) (by kernel_rfl) ak rfl) ?_; intro aP O
  refine q1 O 21 (pt a 0) ?_; intro aQ o
  refine ql_ o 0 0 (i6 u0.ID) rfl rfl ?_; intro aR P
  refine q1 P 23 (y6 (wu64 u0.ID)) ?_; intro aS Q
  obtain ⟨am, an⟩ := al
  refine qcl Q (str (bwriteS (wu64 u0.ID) 18)) 53 #[y6 (wu64 u0.ID), i6 18] (nog rfl _) rfl (by kernel_rfl) (fun _ => by kernel_rfl) (qfc fun w hC => bwrite_fun (wu64 u0.ID) 18 am _ _ hC.fz) ?_; intro aT p
  obtain ⟨ao, ap⟩ := an
  refine qu_ p (str (((bwriteS (wu64 (bShr .i64 u0.ID 18)) 11) ++ ([49, 49] : List UInt8)) ++ (bwriteS (wu64 u0.ID) 18))) (fun v101 hC => stradd_run p (g := []) rfl (by kernel_rfl) (by kernel_rfl) ao rfl) ?_; intro aU R
  refine q1 R 26 (pt a 3) ?_; intro aV q
  refine ql_ q 0 3 (.bool u0.Remote) rfl rfl ?_; intro aW S
  refine qcl S (str (fbit u0.Remote)) 54 #[.bool u0.Remote] (nog rfl _) rfl (by kernel_rfl) (fun _ => by kernel_rfl) (qfc fun w hC => fbit_fun u0.Remote _ _ hC.fz) ?_; intro aX s
  obtain ⟨aq, ar⟩ := ap
  refine qu_ s (str ((((bwriteS (wu64 (bShr .i64 u0.ID 18)) 11) ++ ([49, 49] : List UInt8)) ++ (bwriteS (wu64 u0.ID) 18)) ++ (fbit u0.Remote))) (fun v115 hC => stradd_run s (g := []) rfl (by kernel_rfl) (by kernel_rfl) aq rfl) ?_; intro aY T
  refine q1 T 2 (str ((((bwriteS (wu64 (bShr .i64 u0.ID 18)) 11) ++ ([49, 49] : List UInt8)) ++ (bwriteS (wu64 u0.ID) 18)) ++ (fbit u0.Remote))) ?_; intro aZ au
  refine qnl (J _ ?_); intro a1 av
  exact r_ (ra1 au (str ((((bwriteS (wu64 (bShr .i64 u0.ID 18)) 11) ++ ([49, 49] : List UInt8)) ++ (bwriteS (wu64 u0.ID) 18)) ++ (fbit u0.Remote))) ⟨(((bwriteS (wu64 (bShr .i64 u0.ID 18)) 11) ++ ([49, 49] : List UInt8)) ++ (bwriteS (wu64 u0.ID) 18)) ++ (fbit u0.Remote), rfl, ar, av.below⟩)

theorem fcheckfr_walk (u0 : Frame) (ao1 : Option Addr) (cap2 : Nat) (Z : Fz) (w : World) (hs3 : SlR t8 Z ao1 cap2 u0.Data) (hZ : Z.on w) {K : Int → Prop} (hp : fcheckfr_vc u0 K) : Calls Tryd.prog 31 #[.agg #[i6 u0.ID, .bool u0.Long, .bool u0.Fast, .bool u0.Remote, i6 u0.Size, .slice ao1 u0.Data.length cap2]] w fun e w' => ∃ r : Int, e = .returned (i6 r) ∧ K r ∧ Below w.heap.size w w' := by
 refine enter0 Tryd.func31 rfl rfl (by kernel_rfl) ?_; intro a0 C; have D := Mem.start w Z hZ
 have k := hp (hs3.small)
 refine sqH ?_; intro V E
 refine nw C D pb (e30B u0 ao1 cap2) 30 ?_; intro l a7 aq F a
 refine s1 F 2 (i6 0) ?_; intro ar G
 apply E
 refine s_ (b_ (sqB G a [0, 0, 0, 0] [] [(3, .bool (((decide (u0.ID < 0)) || ((!u0.Long) && (decide (u0.ID > 2047)))) || (decide (u0.ID > 536870911))))] ?_)); intro au c
 refine cd c (t := ((decide (u0.ID < 0)) || ((!u0.Long) && (decide (u0.ID > 2047)))) || (decide (u0.ID > 536870911))) (by kernel_rfl) (fun q => ?_) (fun q => ?_)
 · -- yes
  have W := k.1 q
  refine sqB c a [] [] [(2, i6 3)] ?_; intro av X
  exact r_ (i_ (h_ (ra1 X (i6 3) ⟨3, rfl, W, a.below⟩)))
 · -- no
  have m := k.2 q
  refine sqB c a [0, 0, 0] [] [(22, .bool (u0.Remote && (u0.Fast || (decide ((u0.Data.length : Int) > 0)))))] ?_; intro aw d
  refine cd d (t := u0.Remote && (u0.Fast || (decide ((u0.Data.length : Int) > 0)))) (by kernel_rfl) (fun s => ?_) (fun s => ?_)
  · -- yes
   have Y := m.1 s
   refine sqB d a [] [] [(2, i6 4)] ?_; intro ax aa
   exact r_ (i_ (h_ (ra1 aa (i6 4) ⟨4, rfl, Y, a.below⟩)))
  · -- no
   have n := m.2 s
   refine sqB d a [0, 0, 0, 0] [] [(35, .bool (((decide (u0.Size < 0)) || (decide (u0.Size > 8))) || ((!u0.Remote) && (u0.Size != 0))))] ?_; intro ay f
   refine cd f (t := ((decide (u0.Size < 0)) || (decide (u0.Size > 8))) || ((!u0.Remote) && (u0.Size != 0))) (by kernel_rfl) (fun u => ?_) (fun u => ?_)
   · -- yes
    have ab := n.1 u
    refine sqB f a [] [] [(2, i6 3)] ?_; intro az ac
    exact r_ (i_ (h_ (ra1 ac (i6 3) ⟨3, rfl, ab, a.below⟩)))
   · -- no
    have o := n.2 u
    refine sqB f a [0, 0, 0] [] [(54, .bool ((decide ((u0.Data.length : Int) > 64)) || ((!u0.Fast) && (decide ((u0.Data.length : Int) > 8)))))] ?_; intro ad g
    refine cd g (t := (decide ((u0.Data.length : Int) > 64)) || ((!u0.Fast) && (decide ((u0.Data.length : Int) > 8)))) (by kernel_rfl) (fun v => ?_) (fun v => ?_)
    · -- yes
     have ae := o.1 v
     refine sqB g a [] [] [(2, i6 2)] ?_; intro aA af
     exact r_ (i_ (h_ (ra1 af (i6 2) ⟨2, rfl, ae, a.below⟩)))
    · -- no
     have p := o.2 v
     have H : Fr 77 [] [⟨1, [], pt l 0⟩] ad := g.reg
     refine wp_seq (rgS mixed a [(1, true), (2, true), (3, true), (0, false), (4, false), (5, true), (6, true)] [] [0] [.row l (e30B u0 ao1 cap2) 30] ?_)
     intro ag I aB x
     have b := Fz.le.refl Z
     refine cS H 3 [0] [] [(74, i6 (u0.Data.length : Int))] ?_; intro aC J
     refine eS rfl ?_; intro ah L
     refine ck J 44 #[] ?_
     refine (fsizes_fun  _ _ x.fz).mono ?_; rintro _ M ⟨N, O, ai, rfl, hm⟩; refine ⟨_, rfl, ?_⟩; intro aD P; have Q := x.callZ hm; have y := hm.ext.le
     replace b := b.mono y
     have R : Mem w.heap.size [] w Z [.own t6 3 N O fsizes, .row l (e30B u0 ao1 cap2) 30] ai M := Q
     refine nl (qnI (L _ _ (R.cst b [1]) ?_))
     refine eS rfl ?_; intro aj S
     obtain ⟨ak, z, T, al⟩ := R.freeze 0 rfl
     replace b := b.mono z
     have A : Mem w.heap.size [] w Z [.row l (e30B u0 ao1 cap2) 30] ak M := T
     refine fc P A (scontains_fun fsizes (u0.Data.length : Int) N O _ _ al A.fz) ?_; intro aE aF U h
     refine nl (qnI (S _ _ (h.cst b [0]) ?_))
     refine cS U 2 [] [] [(70, .bool (!(scontainsS fsizes (u0.Data.length : Int))))] ?_; intro aG i
     refine nS (I _ _ ?_)
     apply t_
     refine cd i (t := !(scontainsS fsizes (u0.Data.length : Int))) (by kernel_rfl) (fun B => ?_) (fun B => ?_)
     · -- yes
      have am := p.1 B
      refine sqB i h [] [] [(2, i6 4)] ?_; intro aH an
      exact r_ (i_ (h_ (ra1 an (i6 4) ⟨4, rfl, am, h.below⟩)))
     · -- no
      have ao := p.2 B
      refine l_ (j_ (t_ (sqB i h [] [] [(2, i6 0)] ?_))); intro aI ap
      exact r_ (ra1 ap (i6 0) ⟨0, rfl, ao, h.below⟩)
def fcheckfr_fun (u0 : Frame) (ao1 : Option Addr) (cap2 : Nat) (Z : Fz) (w : World) (hs3 : SlR t8 Z ao1 cap2 u0.Data) (hZ : Z.on w) := f_ (fcheckfr_walk u0 ao1 cap2 Z w hs3 hZ (fcheckfr_ok u0))
theorem bclone_walk (u0 : List Int) (ao1 : Option Addr) (cap2 : Nat) (Z : Fz) (w : World) (hs3 : SlR t8 Z ao1 cap2 u0) (hZ : Z.on w) {K : (List Int) → Prop} (hp : bclone_vc u0 K) : Calls Tryd.prog 43 #[.slice ao1 u0.length cap2] w fun e w' => ∃ (r : (List Int)) (ao1001 : Option Addr) (cap1002 : Nat) (Z' : Fz), e = .returned (.slice ao1001 r.length cap1002) ∧ K r ∧ Mem w.heap.size [] w Z [.own t8 5 ao1001 cap1002 r] Z' w' := by
 refine enter0 Tryd.func43 rfl rfl (by kernel_rfl) ?_; intro N l; have a := Mem.start w Z hZ
 have m := hp (hs3.small)
 refine sqB l a [] [] [] ?_; intro P n
 refine s_ (sqH ?_); intro A o
 refine s1 n 3 (.slice ao1 u0.length cap2) ?_; intro Q h
 obtain ⟨i, p⟩ : ∃ b, ao1.isNone = b := ⟨_, rfl⟩; have d := m i (by rw [← p]; exact hs3.isNone)
 refine u_ h (.bool i) (re_ (r := .ok (.value (.bool ao1.isNone)) w) (by cases ao1 <;> exact p0 h (by kernel_rfl)) (by rw [p])) ?_; intro R c
 apply o
 refine cd c (t := i) (by kernel_rfl) (fun j => ?_) (fun j => ?_)
 · -- yes
  have B := d.1 j
  refine sqB c a [] [] [(2, .slice none 0 0)] ?_; intro S C
  refine r_ (h_ ?_)
  have D : Mem w.heap.size [] w Z [.own t8 5 none 0 ([] : List Int)] Z w := a.addNil t8 5 (by decide)
  exact ra1 C (.slice none ([] : List Int).length 0) ⟨([] : List Int), none, 0, Z, rfl, B, D.kp⟩
 · -- no
  have E := d.2 j
  refine k_ (sqH ?_); intro F q
  refine nw c a (fun b => .slice (sm b) 0 0) [] 5 ?_; intro s U G u v
  refine s1 u 6 (.slice ao1 u0.length cap2) ?_; intro V x
  have k : Mem w.heap.size [] w Z [.own t8 5 (sm s) 0 ([] : List Int)] Z G := v.rowOwn (T := t8) (xs := ([] : List Int)) 0 rfl (by decide) (by show 0 ≤ lim; decide) (RepAll.nil _ _)
  obtain ⟨H, I⟩ := E
  refine ap x k 0 (T := t8) (xs := ([] : List Int)) (ys := u0) (ao := (sm s)) (cap := 0) (ao2 := ao1) (cap2 := cap2) (t := 28) (e := 5) (bytes := 1) (nog rfl _) rfl (by kernel_rfl) rfl (by kernel_rfl) (by kernel_rfl) (by kernel_rfl) rfl (Src.fz (by decide) k.fz hs3) H ?_; intro f g W J X y z
  have L : Mem w.heap.size [] w Z [.own t8 5 f g (([] : List Int) ++ u0)] Z J := z
  refine s1 y 2 (.slice f (([] : List Int) ++ u0).length g) ?_; intro Y M
  apply q
  exact r_ (ra1 M (.slice f (([] : List Int) ++ u0).length g) ⟨([] : List Int) ++ u0, f, g, Z, rfl, I, L.kp⟩)

end Go.Proofs.YtocpdhcjkfmmnaaDoor
set_option linter.unusedVariables false
set_option linter.unusedSimpArgs false
set_option linter.defProp false
set_option maxRecDepth 100000
set_option maxHeartbeats 0
namespace Go.Proofs.YtocpdhcjkfmmnaaDoor
open Go.Sy Go.RowKit
abbrev e30C (X : Frame) (A0 : Option Addr) (C0 : Nat) : List Value := [i6 X.ID, .bool X.Long, .bool X.Fast, .bool X.Remote, i6 X.Size, .slice A0 X.Data.length C0]
def fname_fun (u0 : Frame) (hpre : 0 ≤ u0.ID ∧ u0.ID ≤ 536870911) (ao1 : Option Addr) (cap2 : Nat) (Z : Fz) (w : World) (hs3 : SlR t8 Z ao1 cap2 u0.Data) (hZ : Z.on w) := f_ (fname_walk u0 ao1 cap2 Z w hs3 hZ (fname_ok u0 hpre))
def bclone_fun (u0 : List Int) (hpre : u0.length ≤ 140737488355328) (ao1 : Option Addr) (cap2 : Nat) (Z : Fz) (w : World) (hs3 : SlR t8 Z ao1 cap2 u0) (hZ : Z.on w) := fc_ (bclone_walk u0 ao1 cap2 Z w hs3 hZ (bclone_ok u0 hpre))
theorem fName_walk (u0 : Frame) (ao1 : Option Addr) (cap2 : Nat) (Z : Fz) (w : World) (hs3 : SlR t8 Z ao1 cap2 u0.Data) (hZ : Z.on w) {K : ((List UInt8) × Int) → Prop} (hp : fName_vc u0 K) : Calls Tryd.prog 32 #[.agg #[i6 u0.ID, .bool u0.Long, .bool u0.Fast, .bool u0.Remote, i6 u0.Size, .slice ao1 u0.Data.length cap2]] w fun e w' => ∃ r : (List UInt8) × Int, e = .returned (.tuple #[str r.1, i6 r.2]) ∧ K r ∧ Below w.heap.size w w' := by
 refine enter0 Tryd.func32 rfl rfl (by kernel_rfl) ?_; intro F g; have h := Mem.start w Z hZ
 have d := hp (hs3.small)
 refine sqH ?_; intro v i
 refine nw g h pb (e30C u0 ao1 cap2) 30 ?_; intro H I J j b
 refine bt j b 2 [] [] [] ?_; intro L k
 apply i
 refine s_ (sqH ?_); intro x l
 refine l2 k b 5 0 0 6 (e30C u0 ao1 cap2) rfl rfl ?_; intro M m
 refine fc m b (fcheckfr_fun u0 ao1 cap2 _ _ hs3 b.fz) ?_; intro N O n a
 refine s1 n 4 (i6 (fcheckfr u0)) ?_; intro P o
 apply l
 refine sqB o a [] [] [(8, .bool ((fcheckfr u0) != 0))] ?_; intro Q c
 refine cd c (t := (fcheckfr u0) != 0) (by kernel_rfl) (fun f => ?_) (fun f => ?_)
 · -- yes
  have y := d.1 f
  refine sqB c a [] [] [(2, str []), (3, i6 (fcheckfr u0))] ?_; intro R z
  exact r_ (h_ (ra2 z (.tuple #[str [], i6 (fcheckfr u0)]) ⟨([], (fcheckfr u0)), rfl, y, a.below⟩))
 · -- no
  have A := d.2 f
  refine k_ (sqH ?_); intro B p
  refine l2 c a 10 0 0 6 (e30C u0 ao1 cap2) rfl rfl ?_; intro S q
  obtain ⟨C, D⟩ := A
  refine fc q a (fname_fun u0 C ao1 cap2 _ _ hs3 a.fz) ?_; intro T U s u
  refine bt s u 2 [] [] [(2, str (fnameS u0)), (3, i6 0)] ?_; intro V E
  apply p
  exact r_ (ra2 E (.tuple #[str (fnameS u0), i6 0]) ⟨((fnameS u0), 0), rfl, D, u.below⟩)

theorem fcopy_walk (u0 : Frame) (ao1 : Option Addr) (cap2 : Nat) (Z : Fz) (w : World) (hs3 : SlR t8 Z ao1 cap2 u0.Data) (hZ : Z.on w) {K : Frame → Prop} (hp : fcopy_vc u0 K) : Calls Tryd.prog 28 #[.agg #[i6 u0.ID, .bool u0.Long, .bool u0.Fast, .bool u0.Remote, i6 u0.Size, .slice ao1 u0.Data.length cap2]] w fun e w' => ∃ (r : Frame) (ao1001 : Option Addr) (cap1002 : Nat) (Z' : Fz), e = .returned (.agg #[i6 r.ID, .bool r.Long, .bool r.Fast, .bool r.Remote, i6 r.Size, .slice ao1001 r.Data.length cap1002]) ∧ K r ∧ SlR t8 Z' ao1001 cap1002 r.Data ∧ Mem w.heap.size [] w Z [] Z' w' := by
 refine enter0 Tryd.func28 rfl rfl (by kernel_rfl) ?_; intro W o; have p := Mem.start w Z hZ
 have M := hp (hs3.small)
 refine sqH ?_; intro N q
 refine nw o p pb (e30C u0 ao1 cap2) 30 ?_; intro f X Y s t
 refine nw s t pb [i6 0, .bool false, .bool false, .bool false, i6 0, .slice none 0 0] 30 ?_; intro d aa ab u h
 apply q
 refine sqH ?_; intro O x
 refine bt u h 2 [1] [] [(4, .slice ao1 u0.Data.length cap2)] ?_; intro ac y
 obtain ⟨P, z⟩ := M
 refine ck y 43 #[.slice ao1 u0.Data.length cap2] ?_
 refine (bclone_fun u0.Data P ao1 cap2 _ _ hs3 h.fz).mono ?_; rintro _ Q ⟨a, c, i, rfl, hm⟩; refine ⟨_, rfl, ?_⟩; intro ae A; have B := h.callZ hm
 have j : Mem w.heap.size [] w Z [.own t8 5 a c (bcloneS u0.Data), .row d [i6 0, .bool false, .bool false, .bool false, i6 0, .slice none 0 0] 30, .row f (e30C u0 ao1 cap2) 30] i Q := B
 have R := z (j.ownSmall 0 rfl)
 refine s1 A 6 (pt f 5) ?_; intro af l
 refine sx l j 2 [i6 u0.ID, .bool u0.Long, .bool u0.Fast, .bool u0.Remote, i6 u0.Size, .slice a (bcloneS u0.Data).length c] 5 ?_; intro S D
 have m : Mem w.heap.size [] w Z [.own t8 5 a c (bcloneS u0.Data), .row d [i6 0, .bool false, .bool false, .bool false, i6 0, .slice none 0 0] 30, .row f [i6 u0.ID, .bool u0.Long, .bool u0.Fast, .bool u0.Remote, i6 u0.Size, .slice a (bcloneS u0.Data).length c] 30] i S := D
 apply x
 refine sqH ?_; intro T E
 refine l2 l m 7 2 0 6 [i6 u0.ID, .bool u0.Long, .bool u0.Fast, .bool u0.Remote, i6 u0.Size, .slice a (bcloneS u0.Data).length c] rfl rfl ?_; intro ag n
 refine sx n m 1 [i6 u0.ID, .bool u0.Long, .bool u0.Fast, .bool u0.Remote, i6 u0.Size, .slice a (bcloneS u0.Data).length c] 0 ?_; intro F G
 have U : Mem w.heap.size [] w Z [.own t8 5 a c (bcloneS u0.Data), .row d [i6 u0.ID, .bool u0.Long, .bool u0.Fast, .bool u0.Remote, i6 u0.Size, .slice a (bcloneS u0.Data).length c] 30, .row f [i6 u0.ID, .bool u0.Long, .bool u0.Fast, .bool u0.Remote, i6 u0.Size, .slice a (bcloneS u0.Data).length c] 30] i F := G
 apply E
 apply r_
 obtain ⟨H, I, J, V⟩ := U.freeze 0 rfl
 have L : Mem w.heap.size [] w Z [.row d [i6 u0.ID, .bool u0.Long, .bool u0.Fast, .bool u0.Remote, i6 u0.Size, .slice a (bcloneS u0.Data).length c] 30, .row f [i6 u0.ID, .bool u0.Long, .bool u0.Fast, .bool u0.Remote, i6 u0.Size, .slice a (bcloneS u0.Data).length c] 30] H F := J
 refine rt (fn := Tryd.f28) (v := .agg #[i6 u0.ID, .bool u0.Long, .bool u0.Fast, .bool u0.Remote, i6 u0.Size, .slice a (bcloneS u0.Data).length c]) n (re1c n (fn := Tryd.f28) rfl (ad := ⟨d, 0, none⟩) (by kernel_rfl) (loadVar_run L 0 (b := d) (k := 6) (vs := [i6 u0.ID, .bool u0.Long, .bool u0.Fast, .bool u0.Remote, i6 u0.Size, .slice a (bcloneS u0.Data).length c]) (ty := 30) rfl (by kernel_rfl) (by kernel_rfl)) ) ?_
 exact ⟨(⟨u0.ID, u0.Long, u0.Fast, u0.Remote, u0.Size, (bcloneS u0.Data)⟩ : Frame), a, c, H, rfl, R, V, L.kp⟩

end Go.Proofs.YtocpdhcjkfmmnaaDoor
set_option linter.unusedVariables false
set_option linter.unusedSimpArgs false
set_option linter.defProp false
set_option maxRecDepth 100000
set_option maxHeartbeats 0
namespace Go.Proofs.YtocpdhcjkfmmnaaDoor
open Go.Sy Go.RowKit
abbrev e30D (X : Frame) (A0 : Option Addr) (C0 : Nat) : List Value := [i6 X.ID, .bool X.Long, .bool X.Fast, .bool X.Remote, i6 X.Size, .slice A0 X.Data.length C0]
def fName_fun (u0 : Frame) (ao1 : Option Addr) (cap2 : Nat) (Z : Fz) (w : World) (hs3 : SlR t8 Z ao1 cap2 u0.Data) (hZ : Z.on w) := f_ (fName_walk u0 ao1 cap2 Z w hs3 hZ (fName_ok u0))
def fcopy_fun (u0 : Frame) (hpre : u0.Data.length ≤ 140737488355328) (ao1 : Option Addr) (cap2 : Nat) (Z : Fz) (w : World) (hs3 : SlR t8 Z ao1 cap2 u0.Data) (hZ : Z.on w) := fc_ (fcopy_walk u0 ao1 cap2 Z w hs3 hZ (fcopy_ok u0 hpre))
theorem plc1_walk (u0 : Frame) (u1 : List UInt8) (ao1 : Option Addr) (cap2 : Nat) (Z : Fz) (w : World) (hs3 : SlR t8 Z ao1 cap2 u0.Data) (hZ : Z.on w) {K : Int → Prop} (hp : plc1_vc u0 u1 K) : Calls Tryd.prog 42 #[.agg #[i6 u0.ID, .bool u0.Long, .bool u0.Fast, .bool u0.Remote, i6 u0.Size, .slice ao1 u0.Data.length cap2], str u1] w fun e w' => ∃ r : Int, e = .returned (i6 r) ∧ K r ∧ Below w.heap.size w w' := by
 refine enter0 Tryd.func42 rfl rfl (by kernel_rfl) ?_; intro y g; have h := Mem.start w Z hZ
 have c := hp (hs3.small)
 refine sqH ?_; intro p i
 refine nw g h pb (e30D u0 ao1 cap2) 30 ?_; intro A B C j d
 refine s1 j 4 (i6 0) ?_; intro D k
 apply i
 refine s_ (sqH ?_); intro q l
 refine l2 k d 8 0 0 6 (e30D u0 ao1 cap2) rfl rfl ?_; intro E m
 refine fc m d (fName_fun u0 ao1 cap2 _ _ hs3 d.fz) ?_; intro F G n a
 refine bt n a 5 [] [] [(5, str (fNameS u0).1)] ?_; intro H o
 apply l
 refine sqB o a [] [29] [(14, .bool (strc .leq (fNameS u0).1 u1))] ?_; intro I b
 refine cd b (t := strc .leq (fNameS u0).1 u1) (by kernel_rfl) (fun f => ?_) (fun f => ?_)
 · -- yes
  have s := c.1 f
  refine sqB b a [] [] [(4, i6 (-1))] ?_; intro J u
  exact r_ (h_ (ra1 u (i6 (-1)) ⟨-1, rfl, s, a.below⟩))
 · -- no
  have v := c.2 f
  refine k_ (sqB b a [] [] [(4, i6 1)] ?_); intro L x
  exact r_ (ra1 x (i6 1) ⟨1, rfl, v, a.below⟩)
def plc1_fun (u0 : Frame) (u1 : List UInt8) (ao1 : Option Addr) (cap2 : Nat) (Z : Fz) (w : World) (hs3 : SlR t8 Z ao1 cap2 u0.Data) (hZ : Z.on w) := f_ (plc1_walk u0 u1 ao1 cap2 Z w hs3 hZ (plc1_ok u0 u1))
theorem qbsf_walk (u0 : List Frame) (u1 : List UInt8) (u2 : Frame → (List UInt8) → Int) (ao1 : Option Addr) (cap2 : Nat) (fid4 : Nat) (caps5 : Array Value) (Z : Fz) (w : World) (hs3 : SlR tyFrame Z ao1 cap2 u0) (hf6 : ∀ (Z1 : Fz) (w1 : World), Z.le Z1 → Z1.on w1 → ∀ (x0 : Frame) (x1 : List UInt8) (xao0 : Option Addr) (xcap0 : Nat), SlR t8 Z1 xao0 xcap0 x0.Data → Calls Tryd.prog fid4 (#[.agg #[i6 x0.ID, .bool x0.Long, .bool x0.Fast, .bool x0.Remote, i6 x0.Size, .slice xao0 x0.Data.length xcap0], str x1] ++ caps5) w1 fun e w2 => e = .returned (i6 (u2 x0 x1)) ∧ Below w1.heap.size w1 w2) (hg7 : ∀ x w, Sem.run Tryd.prog (callFunc fid4 x) w = .ok (.enter fid4 x) w) (hZ : Z.on w) {K : (Int × Bool) → Prop} (hp : qbsf_vc u0 u1 u2 K) : Calls Tryd.prog 41 #[.slice ao1 u0.length cap2, str u1, .func (.func fid4) #[] caps5] w fun e w' => ∃ r : Int × Bool, e = .returned (.tuple #[i6 r.1, .bool r.2]) ∧ K r ∧ Below w.heap.size w w' := by
 refine enter0 Tryd.func41 rfl rfl (by kernel_rfl) ?_; intro a0 M; have j := Mem.start w Z hZ; have N := Fz.le.refl Z
 have av := hp (hs3.small)
 refine sqB M j [] [] [] ?_; intro aW O
 refine sqB O j [] [] [(8, i6 (u0.length : Int))] ?_; intro aX P
 refine sqB P j [] [] [(9, i6 0), (10, i6 (u0.length : Int))] ?_; intro Q R
 refine s_ (b_ ?_)
 have S : Fr 49 [] [⟨0, [], .slice ao1 u0.length cap2⟩, ⟨1, [], str u1⟩, ⟨2, [], .func (.func fid4) #[] caps5⟩, ⟨8, [], i6 (u0.length : Int)⟩, ⟨9, [], i6 0⟩, ⟨10, [], i6 (u0.length : Int)⟩] Q := R.reg
 obtain ⟨aw, ax, ay, az⟩ := av
 refine lp (ι := Int × Int) (fun s => [⟨0, [], .slice ao1 u0.length cap2⟩, ⟨1, [], str u1⟩, ⟨2, [], .func (.func fid4) #[] caps5⟩, ⟨8, [], i6 (u0.length : Int)⟩, ⟨9, [], i6 s.1⟩, ⟨10, [], i6 s.2⟩]) (fun s => []) (fun s => Z) (fun s => aw s.1 s.2) (fun s => ax s.1 s.2) ⟨0, (u0.length : Int)⟩ ay (by exact S.region (by kernel_rfl) (by kernel_rfl)) (by exact j) ?_
 rintro ⟨a, i⟩ aA aB aC V W
 have p := az a i aA
 refine s_ (sqB V W [] [] [(17, .bool (decide (a < i)))] ?_); intro aY l
 refine cd l (t := decide (a < i)) (by kernel_rfl) (fun F => ?_) (fun F => ?_)
 · -- yes
  have aD := p.1 F
  refine k_ (b_ (sqB l W [] [] [(11, i6 (w64 (bShr .u64 (wu64 (w64 (a + i))) 1)))] ?_)); intro aZ Y
  refine sqH ?_; intro aE aa
  refine bt Y W 3 [] [] [(24, .func (.func fid4) #[] caps5), (25, .slice ao1 u0.length cap2), (26, i6 (w64 (bShr .u64 (wu64 (w64 (a + i))) 1)))] ?_; intro a1 ab
  obtain ⟨aF, ac⟩ := aD
  refine ix_ ab hs3 (w64 (bShr .u64 (wu64 (w64 (a + i))) 1)) aF .i64 30 48 ?_; intro a2 a3 a4 f a5 aG aH aI ad
  have ae := ac f aG
  obtain ⟨G, H, rfl, af⟩ := aI
  have q := ae (af.small)
  refine z2 ad W 28 aH 0 6 (e30D f G H) rfl ?_; intro a6 ag
  refine s1 ag 29 (str u1) ?_; intro a7 ah
  have aJ := hf6 _ _ N W.fz f u1 G H af
  refine fcl ah W (i6 (u2 f u1)) fid4 (#[.agg (e30D f G H).toArray, str u1] ++ caps5) (nog rfl _) rfl (by kernel_rfl) ?h1 ?h2 ?_
  case h1 => exact fv_run rfl (by kernel_rfl) (by kernel_rfl) hg7
  case h2 => exact aJ
  intro a8 a9 ai u
  refine s1 ai 31 (.bool (decide ((u2 f u1) < 0))) ?_; intro ba n
  apply aa
  refine cd n (t := decide ((u2 f u1) < 0)) (by kernel_rfl) (fun I => ?_) (fun I => ?_)
  · -- yes
   have aj := q.1 I
   refine rgB n u [] [] [(9, i6 (w64 ((w64 (bShr .u64 (wu64 (w64 (a + i))) 1)) + 1)))] ?_; intro bb aK
   exact j_ (d_ ⟨⟨w64 ((w64 (bShr .u64 (wu64 (w64 (a + i))) 1)) + 1), i⟩, aj.1, aj.2, (aK.region (by kernel_rfl) (by kernel_rfl)).anyβ _ (by kernel_rfl), u.kp⟩)
  · -- no
   have ak := q.2 I
   refine rgB n u [] [] [(10, i6 (w64 (bShr .u64 (wu64 (w64 (a + i))) 1)))] ?_; intro bc aL
   exact j_ (d_ ⟨⟨a, w64 (bShr .u64 (wu64 (w64 (a + i))) 1)⟩, ak.1, ak.2, (aL.region (by kernel_rfl) (by kernel_rfl)).anyβ _ (by kernel_rfl), u.kp⟩)
 · -- no
  have y := p.2 F
  refine x_ (y_ (y_ (z_ (t_ (sqH ?_))))); intro al z
  refine bt l W 5 [] [] [(35, i6 a), (39, .bool (decide (a < (u0.length : Int))))] ?_; intro bd A
  rcases Bool.eq_false_or_eq_true (decide (a < (u0.length : Int))) with o | o
  · -- true
   have aM := y.1 o
   have am := A.reval (d := 39) (c := []) (v := .bool (decide (a < (u0.length : Int)))) (by kernel_rfl) (.bool true) (by rw [o])
   refine bt am W 3 [] [40, 41, 42] [(40, .func (.func fid4) #[] caps5), (41, .slice ao1 u0.length cap2), (42, i6 a)] ?_; intro be J
   obtain ⟨aN, an⟩ := aM
   refine ix J (T := tyFrame) (xs := u0) hs3 a aN (k := .i64) (e := 30) (bytes := 48) (wK J true) rfl (by kernel_rfl) rfl (by kernel_rfl) (by kernel_rfl) (by kernel_rfl) ?_; intro bf bg bh b bi aO aP aQ B
   have ao := an b aO
   obtain ⟨C, D, rfl, ap⟩ := aQ
   have aR := ao (ap.small)
   refine v_ B (.agg (e30D b C D).toArray) (wK B true) (lza B W.fz aP 0 (g := []) (m := 6) (vs := (e30D b C D)) rfl (by kernel_rfl) (by kernel_rfl) (by kernel_rfl) (by kernel_rfl) rfl) ?_; intro bj E
   refine g_ E true (str u1) ?_; intro bk L
   have aS := hf6 _ _ N W.fz b u1 C D ap
   refine fcl L W (i6 (u2 b u1)) fid4 (#[.agg (e30D b C D).toArray, str u1] ++ caps5) (wK L true) rfl (by kernel_rfl) ?h1 ?h2 ?_
   case h1 => exact fv_run rfl (by kernel_rfl) (by kernel_rfl) hg7
   case h2 => exact aS
   intro bl bm aq ar
   refine bt aq ar 4 [] [47, 48] [(6, i6 a), (7, .bool ((u2 b u1) == 0))] ?_; intro bn aT
   apply z
   exact r_ (ra2 aT (.tuple #[i6 a, .bool ((u2 b u1) == 0)]) ⟨(a, (u2 b u1) == 0), rfl, aR, ar.below⟩)
  · -- false
   have aU := y.2 o
   have au := A.reval (d := 39) (c := []) (v := .bool (decide (a < (u0.length : Int)))) (by kernel_rfl) (.bool false) (by rw [o])
   refine bt au W 11 [] [40, 41, 42, 43, 44, 45, 46, 47, 48] [(6, i6 a), (7, .bool false)] ?_; intro bo aV
   apply z
   exact r_ (ra2 aV (.tuple #[i6 a, .bool false]) ⟨(a, false), rfl, aU, W.below⟩)

theorem qownZ_walk (u0 : List Frame) (ao1 : Option Addr) (cap2 : Nat) (Z : Fz) (w : World) (hs3 : SlR tyFrame Z ao1 cap2 u0) (hZ : Z.on w) {K : (List Frame) → Prop} (hp : qownZ_vc u0 K) : Calls Tryd.prog 25 #[.slice ao1 u0.length cap2] w fun e w' => ∃ (r : (List Frame)) (ao1001 : Option Addr) (cap1002 : Nat) (Z' : Fz), e = .returned (.slice ao1001 r.length cap1002) ∧ K r ∧ SlR tyFrame Z' ao1001 cap1002 r ∧ Mem w.heap.size [] w Z [] Z' w' := by
 refine enter0 Tryd.func25 rfl rfl (by kernel_rfl) ?_; intro a0 L; have n := Mem.start w Z hZ
 have aB := hp (hs3.small)
 refine sqB L n [] [] [] ?_; intro a6 M
 refine sqB M n [] [] [(3, .slice none 0 0)] ?_; intro a9 N
 refine s_ (sqB N n [] [] [(6, .slice ao1 u0.length cap2), (7, i6 (u0.length : Int)), (8, i6 0)] ?_); intro O P
 apply b_
 have Q : Fr 19 [] [⟨3, [], .slice none 0 0⟩, ⟨6, [], .slice ao1 u0.length cap2⟩, ⟨7, [], i6 (u0.length : Int)⟩, ⟨8, [], i6 0⟩] O := P.reg
 have R : Mem w.heap.size [] w Z [.own tyFrame 30 none 0 ([] : List Frame)] Z w := n.addNil tyFrame 30 (by decide)
 have S : Fr 19 [] [⟨3, [], .slice none ([] : List Frame).length 0⟩, ⟨6, [], .slice ao1 u0.length cap2⟩, ⟨7, [], i6 (u0.length : Int)⟩, ⟨8, [], i6 0⟩] O := Q.reg
 obtain ⟨aC, aD, aE, aF⟩ := aB
 refine lp (ι := (List Frame) × Int × (Option Addr) × Nat × Fz) (fun s => [⟨3, [], .slice s.2.2.1 s.1.length s.2.2.2.1⟩, ⟨6, [], .slice ao1 u0.length cap2⟩, ⟨7, [], i6 (u0.length : Int)⟩, ⟨8, [], i6 s.2.1⟩]) (fun s => [.own tyFrame 30 s.2.2.1 s.2.2.2.1 s.1]) (fun s => s.2.2.2.2) (fun s => aC s.1 s.2.1 ∧ Fz.le Z s.2.2.2.2) (fun s => aD s.1 s.2.1) ⟨([] : List Frame), 0, none, 0, Z⟩ ⟨aE, Fz.le.refl _⟩ (by exact S.region (by kernel_rfl) (by kernel_rfl)) (by exact R) ?_
 rintro ⟨c, j, d, f, U⟩ ⟨aG, l⟩ aH V W X
 have u := aF c j aG
 have o := hs3.mono l
 refine sqB W X [] [] [(9, .bool (decide (j < (u0.length : Int))))] ?_; intro a2 p
 apply s_
 refine cd p (t := decide (j < (u0.length : Int))) (by kernel_rfl) (fun z => ?_) (fun z => ?_)
 · -- yes
  have aI := u.1 z
  refine k_ (s_ (b_ (sqH ?_))); intro aJ aa
  obtain ⟨aK, ab⟩ := aI
  refine ix_ p o j aK .i64 30 48 ?_; intro a3 a4 a5 a a7 aL A aM ac
  have ad := ab a aL
  obtain ⟨g, h, rfl, v⟩ := aM
  have aN := ad (v.small)
  refine z2 ac X 11 A 0 6 (e30D a g h) rfl ?_; intro a8 ae
  refine nw ae X pb [i6 0, .bool false, .bool false, .bool false, i6 0, .slice none 0 0] 30 ?_; intro B ba bb C af
  refine sx C af 0 (e30D a g h) 0 ?_; intro aO ag
  have y : Mem w.heap.size [] w Z [.row B (e30D a g h) 30, .own tyFrame 30 d f c] U aO := ag
  apply aa
  refine rgH ?_; intro aP ah
  refine bt C y 2 [0] [] [(12, .slice d c.length f), (13, .agg (e30D a g h).toArray)] ?_; intro bc ai
  obtain ⟨aQ, aj⟩ := aN
  refine ck ai 28 #[.agg (e30D a g h).toArray] ?_
  refine (fcopy_fun a aQ g h _ _ v y.fz).mono ?_; rintro _ aR ⟨D, E, F, rfl, ak, hm⟩; refine ⟨_, rfl, ?_⟩; intro bd al; have am := y.callZ hm; have q := hm.ext.le
  replace l := l.mono q
  have an : Mem w.heap.size [] w Z [.row B (e30D a g h) 30, .own tyFrame 30 d f c] F aR := am
  have aS := aj (ak.small)
  refine nw al an (fun b => .slice (sm b) 1 1) (e30D (fcopyS a) D E) 30 ?_; intro aq be bf ar G
  obtain ⟨aT, au⟩ := aS
  refine ap ar G 2 (T := tyFrame) (xs := c) (ys := [(fcopyS a)]) (ao := d) (cap := f) (ao2 := (sm aq)) (cap2 := 1) (t := 22) (e := 30) (bytes := 48) (nog rfl _) rfl (by kernel_rfl) rfl (by kernel_rfl) (by kernel_rfl) (by kernel_rfl) rfl (Src.row G 0 rfl (RepAll.one (T := tyFrame) (x := (fcopyS a)) ⟨D, E, rfl, ak⟩)) aT ?_; intro H I bg aU bh av aw
  have ax : Mem w.heap.size [] w Z [.row aq (e30D (fcopyS a) D E) 30, .row B (e30D a g h) 30, .own tyFrame 30 H I (c ++ [(fcopyS a)])] F aU := aw
  refine s1 av 3 (.slice H (c ++ [(fcopyS a)]).length I) ?_; intro bi ay
  apply ah
  refine j_ (t_ (rgB ay ax [] [] [(8, i6 (w64 (j + 1)))] ?_)); intro bj aV
  exact d_ ⟨⟨c ++ [(fcopyS a)], w64 (j + 1), H, I, F⟩, ⟨au.1, l⟩, au.2, (aV.region (by kernel_rfl) (by kernel_rfl)).anyβ _ (by kernel_rfl), ax.kp⟩
 · -- no
  have aW := u.2 z
  refine x_ (y_ (y_ (z_ (t_ (sqB p X [] [] [(2, .slice d c.length f)] ?_))))); intro bk aX
  apply r_
  obtain ⟨az, J, aA, aY⟩ := X.freeze 0 rfl
  have aZ : Mem w.heap.size [] w Z [] az V := aA
  exact ra1 aX (.slice d c.length f) ⟨c, d, f, az, rfl, aW, aY, aZ.kp⟩

theorem qcheck_walk (u0 : List Frame) (ao1 : Option Addr) (cap2 : Nat) (Z : Fz) (w : World) (hs3 : SlR tyFrame Z ao1 cap2 u0) (hZ : Z.on w) {K : Int → Prop} (hp : qcheck_vc u0 K) : Calls Tryd.prog 15 #[.slice ao1 u0.length cap2] w fun e w' => ∃ r : Int, e = .returned (i6 r) ∧ K r ∧ Below w.heap.size w w' := by
 refine enter0 Tryd.func15 rfl rfl (by kernel_rfl) ?_; intro a0 C; have c := Mem.start w Z hZ
 have n := hp (hs3.small)
 refine sqB C c [] [] [] ?_; intro a6 D
 refine s_ (sqB D c [] [] [(10, .bool (decide ((u0.length : Int) > 16)))] ?_); intro aG g
 refine cd g (t := decide ((u0.length : Int) > 16)) (by kernel_rfl) (fun x => ?_) (fun x => ?_)
 · -- yes
  have ad := n.1 x
  refine sqB g c [] [] [(2, i6 2)] ?_; intro aH ae
  exact r_ (h_ (ra1 ae (i6 2) ⟨2, rfl, ad, c.below⟩))
 · -- no
  have af := n.2 x
  refine k_ (sqB g c [] [] [(3, str [])] ?_); intro aI E
  refine s_ (sqB E c [] [] [(11, .slice ao1 u0.length cap2), (12, i6 (u0.length : Int)), (13, i6 0)] ?_); intro F G
  apply b_
  have H : Fr 30 [] [⟨3, [], str []⟩, ⟨11, [], .slice ao1 u0.length cap2⟩, ⟨12, [], i6 (u0.length : Int)⟩, ⟨13, [], i6 0⟩] F := G.reg
  obtain ⟨ag, ah, ai, aj⟩ := af
  refine lp (ι := (List UInt8) × Int) (fun s => [⟨3, [], str s.1⟩, ⟨11, [], .slice ao1 u0.length cap2⟩, ⟨12, [], i6 (u0.length : Int)⟩, ⟨13, [], i6 s.2⟩]) (fun s => []) (fun s => Z) (fun s => ag s.1 s.2) (fun s => ah s.1 s.2) ⟨[], 0⟩ ai (by exact H.region (by kernel_rfl) (by kernel_rfl)) (by exact c) ?_
  rintro ⟨o, d⟩ ak al am J L
  have p := aj o d ak
  refine sqB J L [] [] [(14, .bool (decide (d < (u0.length : Int))))] ?_; intro aJ h
  apply s_
  refine cd h (t := decide (d < (u0.length : Int))) (by kernel_rfl) (fun y => ?_) (fun y => ?_)
  · -- yes
   have an := p.1 y
   refine k_ (s_ (b_ (sqH ?_))); intro ao N
   obtain ⟨ap, O⟩ := an
   refine ix_ h hs3 d ap .i64 30 48 ?_; intro aK aL aM a aN aq ar au P
   have Q := O a aq
   obtain ⟨i, j, rfl, R⟩ := au
   have q := Q (R.small)
   refine z2 P L 16 ar 0 6 (e30D a i j) rfl ?_; intro aO S
   refine nw S L pb [i6 0, .bool false, .bool false, .bool false, i6 0, .slice none 0 0] 30 ?_; intro av aP aQ z U
   refine sx z U 0 (e30D a i j) 0 ?_; intro aw V
   have u : Mem w.heap.size [] w Z [.row av (e30D a i j) 30] Z aw := V
   apply N
   refine sqH ?_; intro ax W
   refine l2 z u 18 0 0 6 (e30D a i j) rfl rfl ?_; intro aR X
   refine fc X u (fName_fun a i j _ _ R u.fz) ?_; intro aS aT Y b
   refine bt Y b 5 [] [] [(6, str (fNameS a).1), (7, i6 (fNameS a).2)] ?_; intro aU aa
   apply W
   refine s_ (sqB aa b [] [] [(23, .bool ((fNameS a).2 != 0))] ?_); intro aV l
   refine cd l (t := (fNameS a).2 != 0) (by kernel_rfl) (fun A => ?_) (fun A => ?_)
   · -- yes
    have ay := q.1 A
    refine sqB l b [] [] [(2, i6 (fNameS a).2)] ?_; intro aW az
    exact r_ (h_ (i_ (h_ (h_ (i_ (h_ (ra1 az (i6 (fNameS a).2) ⟨(fNameS a).2, rfl, ay, b.below⟩)))))))
   · -- no
    have v := q.2 A
    refine k_ (s_ (sqB l b [] [57] [(27, .bool (Op.bytesLess (fNameS a).1 o))] ?_)); intro aX m
    refine cd m (t := Op.bytesLess (fNameS a).1 o) (by kernel_rfl) (fun B => ?_) (fun B => ?_)
    · -- yes
     have aA := v.1 B
     refine sqB m b [] [] [(2, i6 4)] ?_; intro aY aB
     exact r_ (h_ (i_ (h_ (h_ (i_ (h_ (ra1 aB (i6 4) ⟨4, rfl, aA, b.below⟩)))))))
    · -- no
     have ab := v.2 B
     refine k_ (rgB m b [] [] [(3, str (fNameS a).1)] ?_); intro aZ ac
     refine j_ (t_ (rgB ac b [] [] [(13, i6 (w64 (d + 1)))] ?_)); intro a1 aC
     exact d_ ⟨⟨(fNameS a).1, w64 (d + 1)⟩, ab.1, ab.2, (aC.region (by kernel_rfl) (by kernel_rfl)).anyβ _ (by kernel_rfl), b.kp⟩
  · -- no
   have aD := p.2 y
   refine x_ (y_ (y_ (z_ (t_ (sqB h L [] [] [(2, i6 0)] ?_))))); intro a2 aE
   exact r_ (ra1 aE (i6 0) ⟨0, rfl, aD, L.below⟩)

end Go.Proofs.YtocpdhcjkfmmnaaDoor
set_option linter.unusedVariables false
set_option linter.unusedSimpArgs false
set_option linter.defProp false
set_option maxRecDepth 100000
set_option maxHeartbeats 0
namespace Go.Proofs.YtocpdhcjkfmmnaaDoor
open Go.Sy Go.RowKit
abbrev e30E (X : Frame) (A0 : Option Addr) (C0 : Nat) : List Value := [i6 X.ID, .bool X.Long, .bool X.Fast, .bool X.Remote, i6 X.Size, .slice A0 X.Data.length C0]
def qbsf_fun (u0 : List Frame) (u1 : List UInt8) (u2 : Frame → (List UInt8) → Int) (hpre : u0.Pairwise (fun x y => u2 y u1 < 0 → u2 x u1 < 0)) (ao1 : Option Addr) (cap2 : Nat) (fid4 : Nat) (caps5 : Array Value) (Z : Fz) (w : World) (hs3 : SlR tyFrame Z ao1 cap2 u0) (hf6 : ∀ (Z1 : Fz) (w1 : World), Z.le Z1 → Z1.on w1 → ∀ (x0 : Frame) (x1 : List UInt8) (xao0 : Option Addr) (xcap0 : Nat), SlR t8 Z1 xao0 xcap0 x0.Data → Calls Tryd.prog fid4 (#[.agg #[i6 x0.ID, .bool x0.Long, .bool x0.Fast, .bool x0.Remote, i6 x0.Size, .slice xao0 x0.Data.length xcap0], str x1] ++ caps5) w1 fun e w2 => e = .returned (i6 (u2 x0 x1)) ∧ Below w1.heap.size w1 w2) (hg7 : ∀ x w, Sem.run Tryd.prog (callFunc fid4 x) w = .ok (.enter fid4 x) w) (hZ : Z.on w) := f_ (qbsf_walk u0 u1 u2 ao1 cap2 fid4 caps5 Z w hs3 hf6 hg7 hZ (qbsf_ok u0 u1 u2 hpre))
def qownZ_fun (u0 : List Frame) (hpre : u0.length * 48 ≤ 140737488355328) (ao1 : Option Addr) (cap2 : Nat) (Z : Fz) (w : World) (hs3 : SlR tyFrame Z ao1 cap2 u0) (hZ : Z.on w) := fc_ (qownZ_walk u0 ao1 cap2 Z w hs3 hZ (qownZ_ok u0 hpre))
def qcheck_fun (u0 : List Frame) (ao1 : Option Addr) (cap2 : Nat) (Z : Fz) (w : World) (hs3 : SlR tyFrame Z ao1 cap2 u0) (hZ : Z.on w) := f_ (qcheck_walk u0 ao1 cap2 Z w hs3 hZ (qcheck_ok u0))
theorem qplace_walk (u0 : List Frame) (u1 : Frame) (ao1 : Option Addr) (cap2 : Nat) (ao4 : Option Addr) (cap5 : Nat) (Z : Fz) (w : World) (hs3 : SlR tyFrame Z ao1 cap2 u0) (hs6 : SlR t8 Z ao4 cap5 u1.Data) (hZ : Z.on w) {K : Int → Prop} (hp : qplace_vc u0 u1 K) : Calls Tryd.prog 27 #[.slice ao1 u0.length cap2, .agg #[i6 u1.ID, .bool u1.Long, .bool u1.Fast, .bool u1.Remote, i6 u1.Size, .slice ao4 u1.Data.length cap5]] w fun e w' => ∃ r : Int, e = .returned (i6 r) ∧ K r ∧ Below w.heap.size w w' := by
 refine enter0 Tryd.func27 rfl rfl (by kernel_rfl) ?_; intro B d; have f := Mem.start w Z hZ
 have t := hp (hs3.small) (hs6.small)
 refine sqH ?_; intro u h
 refine nw d f pb (e30E u1 ao4 cap5) 30 ?_; intro D E F i b
 refine s1 i 4 (i6 0) ?_; intro G j
 apply h
 refine sqH ?_; intro v k
 refine l2 j b 10 0 0 6 (e30E u1 ao4 cap5) rfl rfl ?_; intro H l
 refine fc l b (fName_fun u1 ao4 cap5 _ _ hs6 b.fz) ?_; intro I J m a
 refine bt m a 5 [] [] [(5, str (fNameS u1).1)] ?_; intro L n
 apply k
 refine sqH ?_; intro x o
 refine bt n a 2 [] [] [(15, .slice ao1 u0.length cap2), (16, str (fNameS u1).1)] ?_; intro M p
 obtain ⟨y, z⟩ := t
 refine fc p a (qbsf_fun u0 (fNameS u1).1 (fun x0 x1 => plc1 x0 x1 ) y ao1 cap2 42 #[] _ _ hs3 (fun Z1 w1 h1 h2 x0 x1 m0 n0 s0 => plc1_fun x0 x1  m0 n0 Z1 w1 s0 h2) (fun _ _ => by kernel_rfl) a.fz) ?_; intro N O q c
 refine bt q c 5 [] [] [(7, i6 (bsfS u0 (fNameS u1).1 (fun x0 x1 => plc1 x0 x1 )).1)] ?_; intro P s
 apply o
 refine sqB s c [] [] [(4, i6 (bsfS u0 (fNameS u1).1 (fun x0 x1 => plc1 x0 x1 )).1)] ?_; intro Q A
 exact r_ (ra1 A (i6 (bsfS u0 (fNameS u1).1 (fun x0 x1 => plc1 x0 x1 )).1) ⟨(bsfS u0 (fNameS u1).1 (fun x0 x1 => plc1 x0 x1 )).1, rfl, z, c.below⟩)

theorem qtake_walk (u0 : List Frame) (ao1 : Option Addr) (cap2 : Nat) (Z : Fz) (w : World) (hs3 : SlR tyFrame Z ao1 cap2 u0) (hZ : Z.on w) {K : (Frame × (List Frame) × Int) → Prop} (hp : qtake_vc u0 K) : Calls Tryd.prog 14 #[.slice ao1 u0.length cap2] w fun e w' => ∃ (r : Frame × (List Frame) × Int) (ao1001 : Option Addr) (cap1002 : Nat) (ao1004 : Option Addr) (cap1005 : Nat) (Z' : Fz), e = .returned (.tuple #[.agg #[i6 r.1.ID, .bool r.1.Long, .bool r.1.Fast, .bool r.1.Remote, i6 r.1.Size, .slice ao1001 r.1.Data.length cap1002], .slice ao1004 r.2.1.length cap1005, i6 r.2.2]) ∧ K r ∧ SlR t8 Z' ao1001 cap1002 r.1.Data ∧ SlR tyFrame Z' ao1004 cap1005 r.2.1 ∧ Mem w.heap.size [] w Z [] Z' w' := by
 refine enter0 Tryd.func14 rfl rfl (by kernel_rfl) ?_; intro a0 aw; have ax := Mem.start w Z hZ
 have ak := hp (hs3.small)
 refine sqH ?_; intro aZ ay
 refine nw aw ax pb [i6 0, .bool false, .bool false, .bool false, i6 0, .slice none 0 0] 30 ?_; intro l a7 bY az al
 refine bt az al 2 [] [] [] ?_; intro bZ aA
 apply ay
 refine s_ (sqH ?_); intro a1 aB
 refine s1 aA 7 (.slice ao1 u0.length cap2) ?_; intro b0 aC
 refine fc aC al (qcheck_fun u0 ao1 cap2 _ _ hs3 al.fz) ?_; intro b1 b2 aD F
 refine s1 aD 5 (i6 (qcheckS u0)) ?_; intro b3 aE
 apply aB
 refine sqB aE F [] [] [(10, .bool ((qcheckS u0) != 0))] ?_; intro b4 ai
 refine c_ ai ak (fun _ a2 => ?_) fun _ am => ?_
 ·
  refine sqH ?_; intro a3 aF
  refine bt ai F 2 [] [] [(11, .agg #[i6 0, .bool false, .bool false, .bool false, i6 0, .slice none 0 0]), (12, i6 (qcheckS u0))] ?_; intro b5 ao
  refine sx ao F 0 [i6 0, .bool false, .bool false, .bool false, i6 0, .slice none 0 0] 0 ?_; intro a4 ap
  refine bt ao ap 2 [] [] [(3, .slice none 0 0), (4, i6 (qcheckS u0))] ?_; intro b7 aG
  have aH : Mem w.heap.size [] w Z [.row l [i6 0, .bool false, .bool false, .bool false, i6 0, .slice none 0 0] 30] Z a4 := ap
  apply aF
  refine r_ (h_ (rt (fn := Tryd.f14) (v := .tuple #[.agg #[i6 0, .bool false, .bool false, .bool false, i6 0, .slice none 0 0], .slice none 0 0, i6 (qcheckS u0)]) aG (re3c aG (fn := Tryd.f14) rfl (ad := ⟨l, 0, none⟩) (by kernel_rfl) (loadVar_run aH 0 (b := l) (k := 6) (vs := [i6 0, .bool false, .bool false, .bool false, i6 0, .slice none 0 0]) (ty := 30) rfl (by kernel_rfl) (by kernel_rfl)) (by kernel_rfl) (by kernel_rfl)) ?_))
  exact ⟨((⟨0, false, false, false, 0, []⟩ : Frame), [], (qcheckS u0)), none, 0, none, 0, Z, rfl, a2, (SlR.nil _ _), (SlR.nil _ _), aH.kp⟩
 ·
  refine k_ (s_ (sqB ai F [] [] [(15, .bool ((u0.length : Int) == 0))] ?_)); intro b8 aj
  refine c_ aj am (fun _ a5 => ?_) fun _ a9 => ?_
  ·
   refine sqH ?_; intro a6 aI
   refine s1 aj 16 (.agg #[i6 0, .bool false, .bool false, .bool false, i6 0, .slice none 0 0]) ?_; intro b9 ar
   refine sx ar F 0 [i6 0, .bool false, .bool false, .bool false, i6 0, .slice none 0 0] 0 ?_; intro a8 au
   refine bt ar au 2 [] [] [(3, .slice none 0 0), (4, i6 8)] ?_; intro ca aJ
   have aK : Mem w.heap.size [] w Z [.row l [i6 0, .bool false, .bool false, .bool false, i6 0, .slice none 0 0] 30] Z a8 := au
   apply aI
   refine r_ (h_ (rt (fn := Tryd.f14) (v := .tuple #[.agg #[i6 0, .bool false, .bool false, .bool false, i6 0, .slice none 0 0], .slice none 0 0, i6 8]) aJ (re3c aJ (fn := Tryd.f14) rfl (ad := ⟨l, 0, none⟩) (by kernel_rfl) (loadVar_run aK 0 (b := l) (k := 6) (vs := [i6 0, .bool false, .bool false, .bool false, i6 0, .slice none 0 0]) (ty := 30) rfl (by kernel_rfl) (by kernel_rfl)) (by kernel_rfl) (by kernel_rfl)) ?_))
   exact ⟨((⟨0, false, false, false, 0, []⟩ : Frame), [], 8), none, 0, none, 0, Z, rfl, a5, (SlR.nil _ _), (SlR.nil _ _), aK.kp⟩
  ·
   refine k_ (sqH ?_); intro ba aL
   refine s1 aj 17 (.slice ao1 u0.length cap2) ?_; intro cb aM
   obtain ⟨bb, aN⟩ := a9
   refine ck aM 25 #[.slice ao1 u0.length cap2] ?_
   refine (qownZ_fun u0 bb ao1 cap2 _ _ hs3 F.fz).mono ?_; rintro _ bc ⟨q, s, P, rfl, H, hm⟩; refine ⟨_, rfl, ?_⟩; intro cc aO; have aP := F.callZ hm
   have bd : Mem w.heap.size [] w Z [.row l [i6 0, .bool false, .bool false, .bool false, i6 0, .slice none 0 0] 30] P bc := aP
   have be := aN (H.small)
   refine s1 aO 6 (.slice q (ownS u0).length s) ?_; intro Q aR
   apply aL
   have bf : Fr 24 [] [⟨2, [], pt l 0⟩, ⟨6, [], .slice q (ownS u0).length s⟩] Q := aR.reg
   obtain ⟨bg, aS⟩ := be
   obtain ⟨c, bh, bi⟩ := gxq aS (by omega)
   obtain ⟨bj, bk⟩ := bi
   refine wp_seq (any_invE mixed [[], [0], [1], [], [3], [0, 1, 2], [0, 1, 2, 3, 4, 5], [0, 1, 2, 3, 4, 5, 6]] 8 (fun S a w1 => ∃ (u : Nat) (x : Nat) (g : Option Addr) (h : Nat) (m : Option Addr) (n : Nat) (I : Value) (D : Value) (ag : Value) (ab : Value) (R : Value) (U : Value) (L : Value) (ac : Res), Fz.le P P ∧ Fr 24 [] [⟨2, [], pt l 0⟩, ⟨3, [], I⟩, ⟨4, [], D⟩, ⟨6, [], .slice q (ownS u0).length s⟩, ⟨19, [], ag⟩, ⟨20, [], ab⟩, ⟨21, [], R⟩, ⟨22, [], U⟩, ⟨23, [], L⟩] a ∧ Mem w.heap.size [] w Z [ac] P w1 ∧ (S 6 = true → I = .slice m ((ownS u0).drop (1 : Int).toNat).length n) ∧ (S 7 = true → D = i6 0) ∧ (S 0 = true → ag = .slice q (ownS u0).length s) ∧ (S 1 = true → ab = pt u x) ∧ (S 2 = true → R = .agg (e30E c g h).toArray) ∧ (S 3 = true → U = .slice q (ownS u0).length s) ∧ (S 4 = true → L = .slice m ((ownS u0).drop (1 : Int).toNat).length n) ∧ (S 5 = false → ac = .row l [i6 0, .bool false, .bool false, .bool false, i6 0, .slice none 0 0] 30) ∧ (S 5 = true → ac = .row l (e30E c g h) 30) ∧ (S 1 = true → SlR t8 P g h c.Data) ∧ (S 1 = true → PtR P u x (e30E c g h)) ∧ (S 4 = true → SlR tyFrame P m n ((ownS u0).drop (1 : Int).toNat))) ?h0 ?hs ?hE)
   case h0 =>
    have bl := bf.any 3
    have bm := bl.any 4
    have bn := bm.any 19
    have bo := bn.any 20
    have bp := bo.any 21
    have bq := bp.any 22
    have br := bq.any 23
    have bs := (bd.perm lpr).drew
    exact ⟨0, 0, none, 0, none, 0, Q.tmps.getD 3 undef, Q.tmps.getD 4 undef, Q.tmps.getD 19 undef, Q.tmps.getD 20 undef, Q.tmps.getD 21 undef, Q.tmps.getD 22 undef, Q.tmps.getD 23 undef, .row l [i6 0, .bool false, .bool false, .bool false, i6 0, .slice none 0 0] 30, Fz.le.refl _, br.reg, bs, ff, ff, ff, ff, ff, ff, ff, kf, ff, ff, ff, ff⟩
   case hs =>
    intro S hcl i o hil hi hSi hpre a w1 hI; refine Go.Sy.hid ?_; intro G hG; obtain ⟨u, x, g, h, m, n, I, D, ag, ab, R, U, L, ac, d, hFx, hMx, av, aT, M, V, ae, N, W, af, hI⟩ := hI; obtain ⟨ah, X, Y, hI⟩ := hI; have aa := hI
    have hcase : i = 0 ∨ i = 1 ∨ i = 2 ∨ i = 3 ∨ i = 4 ∨ i = 5 ∨ i = 6 ∨ i = 7 := by clear hi; omega
    rcases hcase with rfl | rfl | rfl | rfl | rfl | rfl | rfl | rfl
    ·
     obtain rfl := oj hi
     have z := hSi
     have f := ngF hcl 1 0 z
     have C := ngF hcl 2 1 f
     have p := ngF hcl 5 0 z
     have y := ngF hcl 6 0 z
     have B := ngF hcl 7 0 z
     obtain rfl := af p
     refine hG (any_step ?_); intro A J hJ
     refine s1 hFx 19 (.slice q (ownS u0).length s) ?_; intro cg bu
     refine nl (qnI (hJ _ _ ?_))
     exact ⟨u, x, g, h, m, n, I, D, .slice q (ownS u0).length s, ab, R, U, L, .row l [i6 0, .bool false, .bool false, .bool false, i6 0, .slice none 0 0] 30, d, bu.reg, hMx.perm lpr, (nt y), (nt B), kf, (nt f), (nt C), N, W, kf, (nt p), (nt f), (nt f), aa⟩
    ·
     obtain rfl := oj hi
     have z := hpre 0 (by kernel_rfl)
     have f := hSi
     have C := ngF hcl 2 1 f
     have p := ngF hcl 5 1 f
     have y := ngF hcl 6 1 f
     have B := ngF hcl 7 1 f
     obtain rfl := M z
     obtain rfl := af p
     refine hG (any_step ?_); intro A J hJ
     have bv := H.mono d
     refine ix_ hFx bv (0 : Int) bg .i64 30 48 ?_; intro aU aV ci bw cj bx bz bA bB
     obtain rfl : c = bw := oj (bh.symm.trans bx)
     obtain ⟨bC, bD, rfl, bE⟩ := bA
     refine nl (qnI (hJ _ _ ?_))
     exact ⟨aU, aV, bC, bD, m, n, I, D, .slice q (ownS u0).length s, pt aU aV, R, U, L, .row l [i6 0, .bool false, .bool false, .bool false, i6 0, .slice none 0 0] 30, d, bB.reg, hMx.perm lpr, (nt y), (nt B), kf, kf, (nt C), N, W, kf, (nt p), (fun _ => bE), (fun _ => bz), aa⟩
    ·
     obtain rfl := oj hi
     have f := hpre 1 (by kernel_rfl)
     have z := hcl 1 0 (by kernel_rfl) f
     have C := hSi
     have p := ngF hcl 5 2 C
     have y := ngF hcl 6 2 C
     have B := ngF hcl 7 2 C
     obtain rfl := M z
     obtain rfl := V f
     obtain rfl := af p
     refine hG (any_step ?_); intro A J hJ
     have bF := X f
     have aW := Y f
     refine z2 hFx hMx 21 aW 0 6 (e30E c g h) rfl ?_; intro cn bG
     refine nl (qnI (hJ _ _ ?_))
     exact ⟨u, x, g, h, m, n, I, D, .slice q (ownS u0).length s, pt u x, .agg (e30E c g h).toArray, U, L, .row l [i6 0, .bool false, .bool false, .bool false, i6 0, .slice none 0 0] 30, d, bG.reg, hMx.perm lpr, (nt y), (nt B), kf, kf, kf, N, W, kf, (nt p), (fun _ => bF), (fun _ => aW), aa⟩
    ·
     obtain rfl := oj hi
     have O := hSi
     have E := ngF hcl 4 3 O
     have y := ngF hcl 6 3 O
     have B := ngF hcl 7 3 O
     refine hG (any_step ?_); intro A J hJ
     refine s1 hFx 22 (.slice q (ownS u0).length s) ?_; intro cq bH
     refine nl (qnI (hJ _ _ ?_))
     exact ⟨u, x, g, h, m, n, I, D, ag, ab, R, .slice q (ownS u0).length s, L, ac, d, bH.reg, hMx.perm lpr, (nt y), (nt B), M, V, ae, kf, (nt E), af, ah, X, Y, (nt E)⟩
    ·
     obtain rfl := oj hi
     have O := hpre 3 (by kernel_rfl)
     have E := hSi
     have y := ngF hcl 6 4 E
     have B := ngF hcl 7 4 E
     obtain rfl := N O
     refine hG (any_step ?_); intro A J hJ
     have bI := H.mono d
     refine slL hFx (T := tyFrame) (xs := (ownS u0)) bI (1 : Int) bj (k := .i64) (e := 30) (bytes := 48) (nog rfl _) rfl (by kernel_rfl) rfl (by kernel_rfl) (by kernel_rfl) (by kernel_rfl) ?_; intro aX aY cs ct bJ bK
     refine nl (qnI (hJ _ _ ?_))
     exact ⟨u, x, g, h, aX, aY, I, D, ag, ab, R, .slice q (ownS u0).length s, .slice aX ((ownS u0).drop (1 : Int).toNat).length aY, ac, d, bK.reg, hMx.perm lpr, (nt y), (nt B), M, V, ae, kf, kf, af, ah, X, Y, (fun _ => bJ)⟩
    ·
     obtain rfl := oj hi
     have C := hpre 2 (by kernel_rfl)
     have f := hpre 1 (by kernel_rfl)
     have z := hpre 0 (by kernel_rfl)
     have p := hSi
     have y := ngF hcl 6 5 p
     have B := ngF hcl 7 5 p
     obtain rfl := M z
     obtain rfl := V f
     obtain rfl := ae C
     obtain rfl := af p
     refine hG (any_step ?_); intro A J hJ
     have bL := X f
     have bM := Y f
     refine sx hFx hMx 0 (e30E c g h) 0 ?_; intro cw bN
     refine nl (qnI (hJ _ _ ?_))
     exact ⟨u, x, g, h, m, n, I, D, .slice q (ownS u0).length s, pt u x, .agg (e30E c g h).toArray, U, L, .row l (e30E c g h) 30, d, hFx.reg, bN.perm lpr, (nt y), (nt B), kf, kf, kf, N, W, nu, kf, (fun _ => bL), (fun _ => bM), aa⟩
    ·
     obtain rfl := oj hi
     have p := hpre 5 (by kernel_rfl)
     have E := hpre 4 (by kernel_rfl)
     have O := hpre 3 (by kernel_rfl)
     have C := hpre 2 (by kernel_rfl)
     have f := hpre 1 (by kernel_rfl)
     have z := hpre 0 (by kernel_rfl)
     have y := hSi
     have B := ngF hcl 7 6 y
     obtain rfl := M z
     obtain rfl := V f
     obtain rfl := ae C
     obtain rfl := N O
     obtain rfl := W E
     obtain rfl := ah p
     refine hG (any_step ?_); intro A J hJ
     have bO := X f
     have bP := Y f
     have bQ := aa E
     refine s1 hFx 3 (.slice m ((ownS u0).drop (1 : Int).toNat).length n) ?_; intro cz bR
     refine nl (qnI (hJ _ _ ?_))
     exact ⟨u, x, g, h, m, n, .slice m ((ownS u0).drop (1 : Int).toNat).length n, D, .slice q (ownS u0).length s, pt u x, .agg (e30E c g h).toArray, .slice q (ownS u0).length s, .slice m ((ownS u0).drop (1 : Int).toNat).length n, .row l (e30E c g h) 30, d, bR.reg, hMx.perm lpr, kf, (nt B), kf, kf, kf, kf, kf, (tn p), kf, (fun _ => bO), (fun _ => bP), (fun _ => bQ)⟩
    ·
     obtain rfl := oj hi
     have y := hpre 6 (by kernel_rfl)
     have p := hpre 5 (by kernel_rfl)
     have E := hpre 4 (by kernel_rfl)
     have O := hpre 3 (by kernel_rfl)
     have C := hpre 2 (by kernel_rfl)
     have f := hpre 1 (by kernel_rfl)
     have z := hpre 0 (by kernel_rfl)
     obtain rfl := av y
     obtain rfl := M z
     obtain rfl := V f
     obtain rfl := ae C
     obtain rfl := N O
     obtain rfl := W E
     obtain rfl := ah p
     refine hG (any_step ?_); intro A J hJ
     have bS := X f
     have bT := Y f
     have bU := aa E
     refine s1 hFx 4 (i6 0) ?_; intro cC bV
     refine nl (qnI (hJ _ _ ?_))
     exact ⟨u, x, g, h, m, n, .slice m ((ownS u0).drop (1 : Int).toNat).length n, i6 0, .slice q (ownS u0).length s, pt u x, .agg (e30E c g h).toArray, .slice q (ownS u0).length s, .slice m ((ownS u0).drop (1 : Int).toNat).length n, .row l (e30E c g h) 30, d, bV.reg, hMx.perm lpr, kf, kf, kf, kf, kf, kf, kf, (tn p), kf, (fun _ => bS), (fun _ => bT), (fun _ => bU)⟩
   case hE =>
    intro S hS cD cE hI; refine Go.Sy.hid ?_; intro G hG; obtain ⟨u, x, g, h, m, n, I, D, ag, ab, R, U, L, ac, d, hFx, hMx, av, aT, M, V, ae, N, W, af, hI⟩ := hI; obtain ⟨ah, X, Y, hI⟩ := hI; have aa := hI; refine hG ?_
    obtain rfl := av (hS 6 (by decide))
    obtain rfl := aT (hS 7 (by decide))
    obtain rfl := M (hS 0 (by decide))
    obtain rfl := V (hS 1 (by decide))
    obtain rfl := ae (hS 2 (by decide))
    obtain rfl := N (hS 3 (by decide))
    obtain rfl := W (hS 4 (by decide))
    obtain rfl := ah (hS 5 (by decide))
    have bW := X (hS 1 (by decide))
    have bX := aa (hS 4 (by decide))
    refine t_ (r_ (rt (fn := Tryd.f14) (v := .tuple #[.agg (e30E c g h).toArray, .slice m ((ownS u0).drop (1 : Int).toNat).length n, i6 0]) hFx (re3c hFx (fn := Tryd.f14) rfl (ad := ⟨l, 0, none⟩) (by kernel_rfl) (loadVar_run hMx 0 (b := l) (k := 6) (vs := (e30E c g h)) (ty := 30) rfl (by kernel_rfl) (by kernel_rfl)) (by kernel_rfl) (by kernel_rfl)) ?_))
    exact ⟨(c, (ownS u0).drop (1 : Int).toNat, 0), g, h, m, n, P, rfl, bk, bW, bX, hMx.kp⟩

theorem qown_walk (u0 : List Frame) (ao1 : Option Addr) (cap2 : Nat) (Z : Fz) (w : World) (hs3 : SlR tyFrame Z ao1 cap2 u0) (hZ : Z.on w) {K : (List Frame) → Prop} (hp : qown_vc u0 K) : Calls Tryd.prog 25 #[.slice ao1 u0.length cap2] w fun e w' => ∃ (r : (List Frame)) (ao1001 : Option Addr) (cap1002 : Nat) (Z' : Fz), e = .returned (.slice ao1001 r.length cap1002) ∧ K r ∧ Mem w.heap.size [] w Z [.own tyFrame 30 ao1001 cap1002 r] Z' w' := by
 refine enter0 Tryd.func25 rfl rfl (by kernel_rfl) ?_; intro a0 L; have l := Mem.start w Z hZ
 have ax := hp (hs3.small)
 refine sqB L l [] [] [] ?_; intro a6 M
 refine sqB M l [] [] [(3, .slice none 0 0)] ?_; intro a9 N
 refine s_ (sqB N l [] [] [(6, .slice ao1 u0.length cap2), (7, i6 (u0.length : Int)), (8, i6 0)] ?_); intro O P
 apply b_
 have Q : Fr 19 [] [⟨3, [], .slice none 0 0⟩, ⟨6, [], .slice ao1 u0.length cap2⟩, ⟨7, [], i6 (u0.length : Int)⟩, ⟨8, [], i6 0⟩] O := P.reg
 have R : Mem w.heap.size [] w Z [.own tyFrame 30 none 0 ([] : List Frame)] Z w := l.addNil tyFrame 30 (by decide)
 have S : Fr 19 [] [⟨3, [], .slice none ([] : List Frame).length 0⟩, ⟨6, [], .slice ao1 u0.length cap2⟩, ⟨7, [], i6 (u0.length : Int)⟩, ⟨8, [], i6 0⟩] O := Q.reg
 obtain ⟨ay, az, aA, aB⟩ := ax
 refine lp (ι := (List Frame) × Int × (Option Addr) × Nat × Fz) (fun s => [⟨3, [], .slice s.2.2.1 s.1.length s.2.2.2.1⟩, ⟨6, [], .slice ao1 u0.length cap2⟩, ⟨7, [], i6 (u0.length : Int)⟩, ⟨8, [], i6 s.2.1⟩]) (fun s => [.own tyFrame 30 s.2.2.1 s.2.2.2.1 s.1]) (fun s => s.2.2.2.2) (fun s => ay s.1 s.2.1 ∧ Fz.le Z s.2.2.2.2) (fun s => az s.1 s.2.1) ⟨([] : List Frame), 0, none, 0, Z⟩ ⟨aA, Fz.le.refl _⟩ (by exact S.reg) (by exact R) ?_
 rintro ⟨c, i, d, f, y⟩ ⟨aC, n⟩ aD aE U V
 have q := aB c i aC
 have z := hs3.mono n
 refine sqB U V [] [] [(9, .bool (decide (i < (u0.length : Int))))] ?_; intro aW o
 refine s_ (c_ o q (fun _ aF => ?_) fun _ aT => ?_)
 ·
  refine k_ (s_ (b_ (sqH ?_))); intro aG X
  obtain ⟨aH, Y⟩ := aF
  refine ix_ o z i aH .i64 30 48 ?_; intro aX aY aZ a a1 aI B aJ aa
  have ab := Y a aI
  obtain ⟨g, h, rfl, u⟩ := aJ
  have aK := ab (u.small)
  refine z2 aa V 11 B 0 6 (e30E a g h) rfl ?_; intro a2 ac
  refine nw ac V pb [i6 0, .bool false, .bool false, .bool false, i6 0, .slice none 0 0] 30 ?_; intro C a3 a4 D ad
  refine sx D ad 0 (e30E a g h) 0 ?_; intro aL ae
  have v : Mem w.heap.size [] w Z [.row C (e30E a g h) 30, .own tyFrame 30 d f c] y aL := ae
  apply X
  refine rgH ?_; intro aM af
  refine bt D v 2 [0] [] [(12, .slice d c.length f), (13, .agg (e30E a g h).toArray)] ?_; intro a5 ag
  obtain ⟨aN, ah⟩ := aK
  refine ck ag 28 #[.agg (e30E a g h).toArray] ?_
  refine (fcopy_fun a aN g h _ _ u v.fz).mono ?_; rintro _ aO ⟨E, F, G, rfl, ai, hm⟩; refine ⟨_, rfl, ?_⟩; intro a7 aj; have ak := v.callZ hm; have p := hm.ext.le
  replace n := n.mono p
  have al : Mem w.heap.size [] w Z [.row C (e30E a g h) 30, .own tyFrame 30 d f c] G aO := ak
  have aP := ah (ai.small)
  refine nw aj al (fun b => .slice (sm b) 1 1) (e30E (fcopyS a) E F) 30 ?_; intro am a8 ba an H
  obtain ⟨aQ, aq⟩ := aP
  refine ap an H 2 (T := tyFrame) (xs := c) (ys := [(fcopyS a)]) (ao := d) (cap := f) (ao2 := (sm am)) (cap2 := 1) (t := 22) (e := 30) (bytes := 48) (nog rfl _) rfl (by kernel_rfl) rfl (by kernel_rfl) (by kernel_rfl) (by kernel_rfl) rfl (Src.row H 0 rfl (RepAll.one (T := tyFrame) (x := (fcopyS a)) ⟨E, F, rfl, ai⟩)) aQ ?_; intro I J bb aR bc ar au
  have av : Mem w.heap.size [] w Z [.row am (e30E (fcopyS a) E F) 30, .row C (e30E a g h) 30, .own tyFrame 30 I J (c ++ [(fcopyS a)])] G aR := au
  refine s1 ar 3 (.slice I (c ++ [(fcopyS a)]).length J) ?_; intro bd aw
  apply af
  refine j_ (t_ (rgB aw av [] [] [(8, i6 (w64 (i + 1)))] ?_)); intro be aS
  exact d_ ⟨⟨c ++ [(fcopyS a)], w64 (i + 1), I, J, G⟩, ⟨aq.1, n⟩, aq.2, (aS.reg).anyβ _ (by kernel_rfl), av.kp⟩
 ·
  refine x_ (y_ (y_ (z_ (t_ (sqB o V [] [] [(2, .slice d c.length f)] ?_))))); intro bf aU
  exact r_ (ra1 aU (.slice d c.length f) ⟨c, d, f, y, rfl, aT, V.kp⟩)

theorem finsert_fun (u0 : List Frame) (u1 : Int) (u2 : List Frame) (hpre : (0 ≤ u1 ∧ u1 ≤ (u0.length : Int)) ∧ u2.length = 1 ∧ (u0.length + 1) * 48 ≤ 140737488355328) (ao1 : Option Addr) (cap2 : Nat) (ao3 : Option Addr) (cap4 : Nat) (B : Nat) (w0 : World) (Z0 : Fz) (Rr : List Res) (Z : Fz) (w : World) (hM0 : Mem B [] w0 Z0 ((.own tyFrame 30 ao1 cap2 u0) :: (.own tyFrame 30 ao3 cap4 u2) :: Rr) Z w) (hZ : Z.on w) : Calls Tryd.prog 26 #[.slice ao1 u0.length cap2, .int .i64 u1, .slice ao3 u2.length cap4] w fun e w' => ∃ (ao1001 : Option Addr) (cap1002 : Nat) (Z' : Fz), e = .returned (.slice ao1001 (insS u0 u1 u2).length cap1002) ∧ Fz.le Z Z' ∧ Mem B [] w0 Z0 ((.own tyFrame 30 ao1001 cap1002 (insS u0 u1 u2)) :: Rr) Z' w' := by
  -- by hand
  obtain ⟨⟨hi0, hi1⟩, hl1, hbig⟩ := hpre
  obtain ⟨i, rfl⟩ : ∃ i : Nat, u1 = (i : Int) := ⟨u1.toNat, by omega⟩
  obtain ⟨x, rfl⟩ : ∃ x, u2 = [x] := List.length_eq_one_iff.1 hl1
  have hlim : lim = 140737488355328 := rfl
  have hlec := hM0.ownLec 0 rfl
  refine enter0 Tryd.func26 rfl rfl (by kernel_rfl) ?_; intro a0 hF0
  have e1 : w64 ((i : Int) + 1) = ((i + 1 : Nat) : Int) := by rw [w64_eq _ (by omega)]; omega
  have e2 : w64 ((u0.length : Int) + 1) = ((u0.length + 1 : Nat) : Int) := by rw [w64_eq _ (by omega)]; omega
  refine sqB hF0 hM0 [] [] [] ?_; intro a1 hF1
  refine sqH ?_; intro Q1 hQ1
  refine bt hF1 hM0 2 [] [] [(10, .slice ao1 u0.length cap2), (11, .int .i64 (i : Int))] ?_; intro a2 hF2
  refine slX hF2 (ao := ao1) (n' := u0.length) (cap := cap2) i u0.length 6 (by omega) hlec (e := 30) (bytes := 48) (nog rfl _) rfl (by kernel_rfl) rfl (by kernel_rfl) (by kernel_rfl) (.inr ⟨.i64, _, rfl, by kernel_rfl⟩) (.inl ⟨rfl, rfl⟩) ?_; intro a3 hF3
  refine nlH (hQ1 _ _ ?_)
  refine sqB hF3 hM0 [] [] [(7, .int .i64 1)] ?_; intro a4 hF4
  refine wp_seq ?_
  refine sqB hF4 hM0 [] [] [(16, .bool false)] ?_; intro a5 hF5
  refine cdF hF5 (by kernel_rfl) ?_
  refine wp_skip ?_
  refine thn ?_
  refine sqB hF5 hM0 [] [] [(8, .int .i64 (u0.length : Int))] ?_; intro a6 hF6
  refine wp_seq ?_
  refine sqB hF6 hM0 [] [] [(22, .bool ((i : Int) == (u0.length : Int)))] ?_; intro a7 hF7
  refine cd hF7 (t := (i : Int) == (u0.length : Int)) (by kernel_rfl) (fun h1 => ?_) (fun h1 => ?_)
  · have h1 : i = u0.length := by have := eq_of_beq h1; omega
    refine sqH ?_; intro Q2 hQ2
    refine bt hF7 hM0 2 [] [] [(23, .slice ao1 u0.length cap2), (24, .slice ao3 [x].length cap4)] ?_; intro a8 hF8
    refine ap hF8 hM0 0 (T := tyFrame) (xs := u0) (ys := [x]) (ao := ao1) (cap := cap2) (ao2 := ao3) (cap2 := cap4) (t := 22) (e := 30) (bytes := 48) (nog rfl _) rfl (by kernel_rfl) rfl (by kernel_rfl) (by kernel_rfl) (by kernel_rfl) rfl (Src.own hM0 1 rfl) (by show (u0.length + 1) * 48 ≤ lim; omega) ?_; intro ao9 cap9 a9 w9 hnil9 hF9 hM9
    refine s1 hF9 6 (.slice ao9 (u0 ++ [x]).length cap9) ?_; intro a10 hF10
    refine nlH (hQ2 _ _ ?_)
    refine wp_ret ?_
    refine thr ?_
    have hM10 : Mem B [] w0 Z0 ((.own tyFrame 30 ao9 cap9 (u0 ++ [x])) :: (.own tyFrame 30 ao3 cap4 [x]) :: Rr) Z w9 := hM9
    refine ra1 hF10 (.slice ao9 (u0 ++ [x]).length cap9) ?_
    have hr : insS u0 (i : Int) [x] = u0 ++ [x] := by subst h1; simp [insS]
    rw [hr]
    exact ⟨ao9, cap9, Z, rfl, Fz.le.refl Z, hM10.kp⟩
  · have h1 : i < u0.length := by
      have h1 := h1
      have h3 : ¬ (i : Int) = (u0.length : Int) := by simpa using h1
      omega
    refine wp_skip ?_
    refine thn ?_
    obtain ⟨g, rfl⟩ : ∃ g, ao1 = some ⟨g, 0, none⟩ := by
      rcases own_shape (hM0.res _ List.mem_cons_self) with ⟨_, _, h⟩ | ⟨g, h, _⟩
      · rw [h] at h1; simp at h1
      · exact ⟨g, h⟩
    refine wp_seq ?_
    refine sqB hF7 hM0 [] [] [(31, .bool (decide (w64 ((u0.length : Int) + 1) > (cap2 : Int))))] ?_; intro a8 hF8
    refine cd hF8 (t := decide (w64 ((u0.length : Int) + 1) > (cap2 : Int))) (by kernel_rfl) (fun h2 => ?_) (fun h2 => ?_)
    · have h2 : cap2 < u0.length + 1 := by have := of_decide_eq_true h2; rw [e2] at this; omega
      have e3 : w64 (w64 ((u0.length : Int) + 1) - (i : Int)) = ((u0.length + 1 - i : Nat) : Int) := by rw [e2, w64_eq _ (by omega)]; omega
      refine sqH ?_; intro Q3 hQ3
      refine bt hF8 hM0 2 [] [] [(32, .slice (some ⟨g, 0, none⟩) u0.length cap2), (33, .int .i64 (i : Int))] ?_; intro a9 hF9
      refine slP hF9 hM0 0 (T := tyFrame) (xs := u0) (ao := some ⟨g, 0, none⟩) (cap := cap2) i (by omega) (e := 30) (bytes := 48) (k := .i64) (nog rfl _) rfl (by kernel_rfl) rfl (by kernel_rfl) rfl (by kernel_rfl) (by kernel_rfl) ?_; intro a10 hF10
      refine bt hF10 hM0 5 [] [] [(39, .int .i64 (w64 (w64 ((u0.length : Int) + 1) - (i : Int))))] ?_; intro a11 hF11
      rw [e3] at hF11
      refine apg hF11 hM0 0 (T := tyFrame) (xs := u0) (ao := some ⟨g, 0, none⟩) (cap := cap2) (i : Int) ((u0.length + 1 - i : Nat) : Int) (by omega) (by omega) (by omega) (kx := .i64) (kk := .i64) (t := 22) (t2 := 3) (e := 30) (bytes := 48) (zs := [.int .i64 0, .bool false, .bool false, .bool false, .int .i64 0, .slice none 0 0]) (z := (⟨0, false, false, false, 0, []⟩ : Frame)) (by omega) (nog rfl _) rfl (by kernel_rfl) rfl (by kernel_rfl) (by kernel_rfl) (by kernel_rfl) (by kernel_rfl) (by kernel_rfl) rfl ⟨none, 0, rfl, SlR.nil _ _⟩ ?_; intro g2 cap6 a12 w12 hF12 hM12
      have hyl : (u0.take (i : Int).toNat ++ List.replicate ((u0.length + 1 - i : Nat) : Int).toNat (⟨0, false, false, false, 0, []⟩ : Frame)).length = u0.length + 1 := by
        rw [List.length_append, List.length_take, List.length_replicate, Int.toNat_natCast, Int.toNat_natCast]; omega
      have hyt : (u0.take (i : Int).toNat ++ List.replicate ((u0.length + 1 - i : Nat) : Int).toNat (⟨0, false, false, false, 0, []⟩ : Frame)).take i = u0.take i := by
        rw [Int.toNat_natCast, List.take_append_of_le_length (by rw [List.length_take]; omega), List.take_take, Nat.min_self]
      generalize u0.take (i : Int).toNat ++ List.replicate ((u0.length + 1 - i : Nat) : Int).toNat (⟨0, false, false, false, 0, []⟩ : Frame) = ys at hF12 hM12 hyl hyt
      have hyc := hM12.ownLec 0 rfl
      refine s1 hF12 9 (.slice (some ⟨g2, 0, none⟩) ys.length cap6) ?_; intro a13 hF13
      refine nlH (hQ3 _ _ ?_)
      refine sqH ?_; intro Q4 hQ4
      refine bt hF13 hM12 2 [] [] [(41, .slice (some ⟨g2, 0, none⟩) ys.length cap6), (42, .int .i64 (i : Int))] ?_; intro a14 hF14
      refine u_ hF14 (.slice (some ⟨g2, i * 6, none⟩) (ys.length - i) (cap6 - i)) (slg_run hF14 i ys.length 6 (by omega) hyc (by omega) (e := 30) (bytes := 48) rfl (by kernel_rfl) (by kernel_rfl) (.inr ⟨.i64, _, rfl, by kernel_rfl⟩) (.inl ⟨rfl, rfl⟩)) ?_; intro a15 hF15
      refine bt hF15 hM12 1 [] [] [(44, .slice ao3 [x].length cap4)] ?_; intro a16 hF16
      refine cpy hF16 hM12 0 (T := tyFrame) (xs := ys) (ys := [x]) (ao := some ⟨g2, 0, none⟩) (cap := cap6) (ao1 := some ⟨g2, i * 6, none⟩) (cap1 := cap6 - i) (ao2 := ao3) (cap2 := cap4) (sl := [x].length) i (ys.length - i) (e := 30) (bytes := 48) (nog rfl _) rfl (by kernel_rfl) rfl (by kernel_rfl) (by kernel_rfl) rfl (by kernel_rfl) rfl (Src.own hM12 2 rfl) (by omega) (fun _ => ⟨g2, rfl, rfl⟩) ?_; intro a17 w17 hF17 hM17
      have hm1 : min [x].length (ys.length - i) = 1 := by simp only [List.length_cons, List.length_nil]; omega
      rw [hm1] at hF17 hM17
      have hzl : (ys.take i ++ [x].take 1 ++ ys.drop (i + 1)).length = u0.length + 1 := by
        simp only [List.length_append, List.length_take, List.length_drop, List.length_cons, List.length_nil]; omega
      have hzt : (ys.take i ++ [x].take 1 ++ ys.drop (i + 1)).take (i + 1) = u0.take i ++ [x] := by
        rw [hyt, List.take_left' (by simp only [List.length_append, List.length_take, List.length_cons, List.length_nil]; omega)]; rfl
      generalize ys.take i ++ [x].take 1 ++ ys.drop (i + 1) = zs at hF17 hM17 hzl hzt
      have hM18 : Mem B [] w0 Z0 ((.own tyFrame 30 (some ⟨g2, 0, none⟩) cap6 zs) :: (.own tyFrame 30 (some ⟨g, 0, none⟩) cap2 u0) :: (.own tyFrame 30 ao3 cap4 [x]) :: Rr) Z w17 := hM17
      have hF18 : Fr 95 [] [⟨0, [], .slice (some ⟨g, 0, none⟩) u0.length cap2⟩, ⟨1, [], .int .i64 (i : Int)⟩, ⟨7, [], .int .i64 1⟩, ⟨9, [], .slice (some ⟨g2, 0, none⟩) ys.length cap6⟩] a17 := hF17.reg
      rw [hyl, ← hzl] at hF18
      refine nlH (hQ4 _ _ ?_)
      refine wp_seq (rgS mixed hM18 [(0, true), (1, true), (2, true), (3, true), (4, true), (5, true), (6, true), (7, true), (8, false)] [8] [] [] ?_)
      intro J hJ w19 hM19
      refine cS hF18 4 [] [] [(46, .slice (some ⟨g2, 0, none⟩) zs.length cap6), (49, .int .i64 (w64 ((i : Int) + 1)))] ?_; intro a19 hF19
      rw [e1] at hF19
      refine cst rfl hF19 (.slice (some ⟨g2, (i + 1) * 6, none⟩) (zs.length - (i + 1)) (cap6 - (i + 1))) (nog rfl _) rfl (by kernel_rfl) (fun _ _ => slg_run hF19 (i + 1) zs.length 6 (by omega) (by omega) (by omega) (e := 30) (bytes := 48) rfl (by kernel_rfl) (by kernel_rfl) (.inr ⟨.i64, _, rfl, by kernel_rfl⟩) (.inl ⟨rfl, rfl⟩)) ?_; intro a20 hF20
      refine cS hF20 2 [] [] [(51, .slice (some ⟨g, 0, none⟩) u0.length cap2), (52, .int .i64 (i : Int))] ?_; intro a21 hF21
      refine cst rfl hF21 (.slice (some ⟨g, i * 6, none⟩) (u0.length - i) (cap2 - i)) (nog rfl _) rfl (by kernel_rfl) (fun _ _ => slg_run hF21 i u0.length 6 (by omega) (by omega) (by omega) (e := 30) (bytes := 48) rfl (by kernel_rfl) (by kernel_rfl) (.inr ⟨.i64, _, rfl, by kernel_rfl⟩) (.inl ⟨rfl, rfl⟩)) ?_; intro a22 hF22
      refine eL rfl ?_; intro J2 hJ2
      have hO : OsR tyFrame (some ⟨g, 0, none⟩) i u0.length (some ⟨g, i * 6, none⟩) (cap2 - i) := ⟨by simp, fun _ => ⟨g, rfl, rfl⟩⟩
      refine cpy hF22 hM19 0 (T := tyFrame) (xs := zs) (ys := (u0.take u0.length).drop i) (ao := some ⟨g2, 0, none⟩) (cap := cap6) (ao1 := some ⟨g2, (i + 1) * 6, none⟩) (cap1 := cap6 - (i + 1)) (ao2 := some ⟨g, i * 6, none⟩) (cap2 := cap2 - i) (sl := u0.length - i) (i + 1) (zs.length - (i + 1)) (e := 30) (bytes := 48) (nog rfl _) rfl (by kernel_rfl) rfl (by kernel_rfl) (by kernel_rfl) (by simp) (by kernel_rfl) rfl (Src.os hM19 1 rfl hO (by omega)) (by omega) (fun _ => ⟨g2, rfl, rfl⟩) ?_; intro a23 w23 hF23 hM23
      have hvl : zs.take (i + 1) ++ ((u0.take u0.length).drop i).take (min ((u0.take u0.length).drop i).length (zs.length - (i + 1))) ++ zs.drop (i + 1 + min ((u0.take u0.length).drop i).length (zs.length - (i + 1))) = insS u0 (i : Int) [x] := by
        have h4 : min ((u0.take u0.length).drop i).length (zs.length - (i + 1)) = u0.length - i := by simp only [List.length_drop, List.take_length]; omega
        rw [h4, hzt, List.take_length, show (u0.drop i).take (u0.length - i) = u0.drop i from List.take_of_length_le (by rw [List.length_drop]; omega), show zs.drop (i + 1 + (u0.length - i)) = [] from List.drop_eq_nil_of_le (by omega)]
        simp [insS]
      rw [hvl] at hM23
      have hM24 : Mem B [] w0 Z0 ((.own tyFrame 30 (some ⟨g2, 0, none⟩) cap6 (insS u0 (i : Int) [x])) :: (.own tyFrame 30 (some ⟨g, 0, none⟩) cap2 u0) :: (.own tyFrame 30 ao3 cap4 [x]) :: Rr) Z w23 := hM23
      have hil : zs.length = (insS u0 (i : Int) [x]).length := by
        simp only [insS, List.length_append, List.length_take, List.length_drop, List.length_cons, List.length_nil, Int.toNat_natCast]; omega
      have hF24 : Fr 95 [] [⟨9, [], .slice (some ⟨g2, 0, none⟩) zs.length cap6⟩] a23 := hF23.reg
      rw [hil] at hF24
      refine nl (qnI (hJ2 _ _ ?_))
      refine nS (hJ _ _ ?_)
      refine thn ?_
      refine sqB hF24 hM24 [] [] [(6, .slice (some ⟨g2, 0, none⟩) (insS u0 (i : Int) [x]).length cap6)] ?_; intro a25 hF25
      refine wp_ret ?_
      refine thr ?_
      refine ra1 hF25 (.slice (some ⟨g2, 0, none⟩) (insS u0 (i : Int) [x]).length cap6) ?_
      exact ⟨_, cap6, Z, rfl, Fz.le.refl Z, hM24.kp⟩
    · have h2 : u0.length + 1 ≤ cap2 := by have := of_decide_eq_false h2; rw [e2] at this; omega
      refine wp_skip ?_
      refine thn ?_
      obtain ⟨g3, rfl⟩ : ∃ g, ao3 = some ⟨g, 0, none⟩ := by
        rcases own_shape (hM0.res _ (List.mem_cons_of_mem _ List.mem_cons_self)) with ⟨_, _, h⟩ | ⟨g, h, _⟩
        · cases h
        · exact ⟨g, h⟩
      refine sqH ?_; intro Q3 hQ3
      refine bt hF8 hM0 4 [] [] [(56, .slice (some ⟨g, 0, none⟩) u0.length cap2), (59, .int .i64 (w64 ((u0.length : Int) + 1)))] ?_; intro a9 hF9
      rw [e2] at hF9
      refine u_ hF9 (.slice (some ⟨g, 0, none⟩) (u0.length + 1) cap2) (slh_run hF9 (n' := u0.length) (u0.length + 1) 6 h2 (by omega) (e := 30) (bytes := 48) rfl (by kernel_rfl) (by kernel_rfl) (k := .i64) (by kernel_rfl)) ?_; intro a10 hF10
      refine s1 hF10 0 (.slice (some ⟨g, 0, none⟩) (u0.length + 1) cap2) ?_; intro a11 hF11
      refine nlH (hQ3 _ _ ?_)
      refine wp_seq ?_
      refine sqH ?_; intro Q4 hQ4
      refine bt hF11 hM0 5 [] [] [(61, .slice (some ⟨g3, 0, none⟩) [x].length cap4), (62, .slice (some ⟨g, 0, none⟩) (u0.length + 1) cap2), (65, .int .i64 (w64 ((i : Int) + 1)))] ?_; intro a12 hF12
      rw [e1] at hF12
      refine u_ hF12 (.slice (some ⟨g, (i + 1) * 6, none⟩) (u0.length + 1 - (i + 1)) (cap2 - (i + 1))) (slg_run hF12 (i + 1) (u0.length + 1) 6 (by omega) h2 (by omega) (e := 30) (bytes := 48) rfl (by kernel_rfl) (by kernel_rfl) (.inr ⟨.i64, _, rfl, by kernel_rfl⟩) (.inl ⟨rfl, rfl⟩)) ?_; intro a13 hF13
      refine ovl hF13 hM0 1 0 (T := tyFrame) (T2 := tyFrame) (xs := [x]) (ys := u0) (g := g3) (g2 := g) (cap := cap4) (cap2 := cap2) (e := 30) (e2 := 30) (la := [x].length) (ca := cap4) (lb := u0.length + 1 - (i + 1)) (cb := cap2 - (i + 1)) (off := 0) (off2 := (i + 1) * 6) rfl rfl rfl (by omega) 39 (t := 22) (tR := 4) (bytes := 48) (nog rfl _) rfl (by kernel_rfl) (fun _ => by kernel_rfl) Tryd.func39 (by kernel_rfl) (by kernel_rfl) (by kernel_rfl) rfl (by kernel_rfl) ?_; intro a14 hF14
      refine bt hF14 hM0 1 [] [] [(68, .bool true)] ?_; intro a15 hF15
      refine nlH (hQ4 _ _ ?_)
      refine cdT hF15 (by kernel_rfl) ?_
      refine wp_seq (rgS mixed hM0 [(0, true), (1, true), (2, true), (3, true), (4, true), (5, true), (6, true), (7, true), (8, false)] [8] [] [] ?_)
      intro J hJ w19 hM19
      have hF18 : Fr 95 [] [⟨0, [], .slice (some ⟨g, 0, none⟩) (u0.length + 1) cap2⟩, ⟨1, [], .int .i64 (i : Int)⟩, ⟨2, [], .slice (some ⟨g3, 0, none⟩) [x].length cap4⟩, ⟨7, [], .int .i64 1⟩] a15 := hF15.reg
      refine cS hF18 4 [] [] [(69, .slice (some ⟨g, 0, none⟩) (u0.length + 1) cap2), (72, .int .i64 (w64 ((i : Int) + 1)))] ?_; intro a19 hF19
      rw [e1] at hF19
      refine cst rfl hF19 (.slice (some ⟨g, (i + 1) * 6, none⟩) (u0.length + 1 - (i + 1)) (cap2 - (i + 1))) (nog rfl _) rfl (by kernel_rfl) (fun _ _ => slg_run hF19 (i + 1) (u0.length + 1) 6 (by omega) (by omega) (by omega) (e := 30) (bytes := 48) rfl (by kernel_rfl) (by kernel_rfl) (.inr ⟨.i64, _, rfl, by kernel_rfl⟩) (.inl ⟨rfl, rfl⟩)) ?_; intro a20 hF20
      refine cS hF20 2 [] [] [(74, .slice (some ⟨g, 0, none⟩) (u0.length + 1) cap2), (75, .int .i64 (i : Int))] ?_; intro a21 hF21
      refine cst rfl hF21 (.slice (some ⟨g, i * 6, none⟩) (u0.length + 1 - i) (cap2 - i)) (nog rfl _) rfl (by kernel_rfl) (fun _ _ => slg_run hF21 i (u0.length + 1) 6 (by omega) (by omega) (by omega) (e := 30) (bytes := 48) rfl (by kernel_rfl) (by kernel_rfl) (.inr ⟨.i64, _, rfl, by kernel_rfl⟩) (.inl ⟨rfl, rfl⟩)) ?_; intro a22 hF22
      refine eL rfl ?_; intro J2 hJ2
      refine shO hF22 hM19 0 (T := tyFrame) (xs := u0) (g := g) (cap := cap2) (c1 := cap2 - (i + 1)) (c2 := cap2 - i) (l1 := u0.length + 1 - (i + 1)) (l2 := u0.length + 1 - i) (o1 := (i + 1) * 6) (o2 := i * 6) i h1 (by omega) (by omega) (e := 30) (bytes := 48) (nog rfl _) rfl (by kernel_rfl) rfl (by kernel_rfl) (by kernel_rfl) rfl rfl (by omega) rfl (by kernel_rfl) rfl ?_; intro a23 w23 hF23 hM23
      have hzl : (u0.take (i + 1) ++ u0.drop i).length = u0.length + 1 := by simp only [List.length_append, List.length_take, List.length_drop]; omega
      have hzt : (u0.take (i + 1) ++ u0.drop i).take i = u0.take i := by rw [List.take_append_of_le_length (by rw [List.length_take]; omega), List.take_take, Nat.min_eq_left (by omega)]
      have hzd : (u0.take (i + 1) ++ u0.drop i).drop (i + 1) = u0.drop i := by rw [List.drop_left' (by rw [List.length_take]; omega)]
      generalize u0.take (i + 1) ++ u0.drop i = zs at hM23 hzl hzt hzd
      have hF24 : Fr 95 [] [⟨0, [], .slice (some ⟨g, 0, none⟩) (u0.length + 1) cap2⟩, ⟨1, [], .int .i64 (i : Int)⟩, ⟨2, [], .slice (some ⟨g3, 0, none⟩) [x].length cap4⟩] a23 := hF23.reg
      have hM24 : Mem B [] w0 Z0 ((.own tyFrame 30 (some ⟨g, 0, none⟩) cap2 zs) :: (.own tyFrame 30 (some ⟨g3, 0, none⟩) cap4 [x]) :: Rr) Z w23 := hM23
      rw [← hzl] at hF24
      refine nl (qnI (hJ2 _ _ ?_))
      refine nS (hJ _ _ ?_)
      refine thn ?_
      refine sqH ?_; intro Q5 hQ5
      refine bt hF24 hM24 2 [] [] [(78, .slice (some ⟨g, 0, none⟩) zs.length cap2), (79, .int .i64 (i : Int))] ?_; intro a25 hF25
      refine u_ hF25 (.slice (some ⟨g, i * 6, none⟩) (zs.length - i) (cap2 - i)) (slg_run hF25 i zs.length 6 (by omega) (by omega) (by omega) (e := 30) (bytes := 48) rfl (by kernel_rfl) (by kernel_rfl) (.inr ⟨.i64, _, rfl, by kernel_rfl⟩) (.inl ⟨rfl, rfl⟩)) ?_; intro a26 hF26
      refine bt hF26 hM24 1 [] [] [(81, .slice (some ⟨g3, 0, none⟩) [x].length cap4)] ?_; intro a27 hF27
      refine cpy hF27 hM24 0 (T := tyFrame) (xs := zs) (ys := [x]) (ao := some ⟨g, 0, none⟩) (cap := cap2) (ao1 := some ⟨g, i * 6, none⟩) (cap1 := cap2 - i) (ao2 := some ⟨g3, 0, none⟩) (cap2 := cap4) (sl := [x].length) i (zs.length - i) (e := 30) (bytes := 48) (nog rfl _) rfl (by kernel_rfl) rfl (by kernel_rfl) (by kernel_rfl) rfl (by kernel_rfl) rfl (Src.own hM24 1 rfl) (by omega) (fun _ => ⟨g, rfl, rfl⟩) ?_; intro a28 w28 hF28 hM28
      have hm1 : min [x].length (zs.length - i) = 1 := by simp only [List.length_cons, List.length_nil]; omega
      rw [hm1, hzt, hzd] at hM28
      have hvl : u0.take i ++ [x].take 1 ++ u0.drop i = insS u0 (i : Int) [x] := by simp [insS]
      rw [hvl] at hM28
      have hM29 : Mem B [] w0 Z0 ((.own tyFrame 30 (some ⟨g, 0, none⟩) cap2 (insS u0 (i : Int) [x])) :: (.own tyFrame 30 (some ⟨g3, 0, none⟩) cap4 [x]) :: Rr) Z w28 := hM28
      have hil : zs.length = (insS u0 (i : Int) [x]).length := by
        simp only [insS, List.length_append, List.length_take, List.length_drop, List.length_cons, List.length_nil, Int.toNat_natCast]; omega
      have hF29 : Fr 95 [] [⟨0, [], .slice (some ⟨g, 0, none⟩) zs.length cap2⟩] a28 := hF28.reg
      rw [hil] at hF29
      refine nlH (hQ5 _ _ ?_)
      refine sqB hF29 hM29 [] [] [(6, .slice (some ⟨g, 0, none⟩) (insS u0 (i : Int) [x]).length cap2)] ?_; intro a30 hF30
      refine wp_ret ?_
      refine thr ?_
      refine ra1 hF30 (.slice (some ⟨g, 0, none⟩) (insS u0 (i : Int) [x]).length cap2) ?_
      exact ⟨_, cap2, Z, rfl, Fz.le.refl Z, hM29.kp⟩

end Go.Proofs.YtocpdhcjkfmmnaaDoor
set_option linter.unusedVariables false
set_option linter.unusedSimpArgs false
set_option linter.defProp false
set_option maxRecDepth 100000
set_option maxHeartbeats 0
namespace Go.Proofs.YtocpdhcjkfmmnaaDoor
open Go.Sy Go.RowKit
abbrev e30F (X : Frame) (A0 : Option Addr) (C0 : Nat) : List Value := [i6 X.ID, .bool X.Long, .bool X.Fast, .bool X.Remote, i6 X.Size, .slice A0 X.Data.length C0]
def qplace_fun (u0 : List Frame) (u1 : Frame) (hpre : Qs u0) (ao1 : Option Addr) (cap2 : Nat) (ao4 : Option Addr) (cap5 : Nat) (Z : Fz) (w : World) (hs3 : SlR tyFrame Z ao1 cap2 u0) (hs6 : SlR t8 Z ao4 cap5 u1.Data) (hZ : Z.on w) := f_ (qplace_walk u0 u1 ao1 cap2 ao4 cap5 Z w hs3 hs6 hZ (qplace_ok u0 u1 hpre))
def qown_fun (u0 : List Frame) (hpre : u0.length * 48 ≤ 140737488355328) (ao1 : Option Addr) (cap2 : Nat) (Z : Fz) (w : World) (hs3 : SlR tyFrame Z ao1 cap2 u0) (hZ : Z.on w) := fc_ (qown_walk u0 ao1 cap2 Z w hs3 hZ (qown_ok u0 hpre))
theorem qput_walk (u0 : List Frame) (u1 : Frame) (ao1 : Option Addr) (cap2 : Nat) (ao4 : Option Addr) (cap5 : Nat) (Z : Fz) (w : World) (hs3 : SlR tyFrame Z ao1 cap2 u0) (hs6 : SlR t8 Z ao4 cap5 u1.Data) (hZ : Z.on w) {K : ((List Frame) × Int) → Prop} (hp : qput_vc u0 u1 K) : Calls Tryd.prog 12 #[.slice ao1 u0.length cap2, .agg #[i6 u1.ID, .bool u1.Long, .bool u1.Fast, .bool u1.Remote, i6 u1.Size, .slice ao4 u1.Data.length cap5]] w fun e w' => ∃ (r : (List Frame) × Int) (ao1001 : Option Addr) (cap1002 : Nat) (Z' : Fz), e = .returned (.tuple #[.slice ao1001 r.1.length cap1002, i6 r.2]) ∧ K r ∧ SlR tyFrame Z' ao1001 cap1002 r.1 ∧ Mem w.heap.size [] w Z [] Z' w' := by
 refine enter0 Tryd.func12 rfl rfl (by kernel_rfl) ?_; intro a0 M; have N := Mem.start w Z hZ
 have o := hp (hs3.small) (hs6.small)
 refine sqH ?_; intro aB P
 refine nw M N pb (e30F u1 ao4 cap5) 30 ?_; intro f a9 ba Q p
 refine bt Q p 2 [] [] [] ?_; intro bb R
 apply P
 refine s_ (sqH ?_); intro aC S
 refine s1 R 8 (.slice ao1 u0.length cap2) ?_; intro bc U
 refine fc U p (qcheck_fun u0 ao1 cap2 _ _ hs3 p.fz) ?_; intro bd be V g
 refine s1 V 6 (i6 (qcheckS u0)) ?_; intro bf W
 apply S
 refine sqB W g [] [] [(11, .bool ((qcheckS u0) != 0))] ?_; intro bg h
 refine cd h (t := (qcheckS u0) != 0) (by kernel_rfl) (fun D => ?_) (fun D => ?_)
 · -- yes
  have aD := o.1 D
  refine sqB h g [] [] [(4, .slice none 0 0), (5, i6 (qcheckS u0))] ?_; intro bh aE
  exact r_ (h_ (ra2 aE (.tuple #[.slice none 0 0, i6 (qcheckS u0)]) ⟨([], (qcheckS u0)), none, 0, Z, rfl, aD, (SlR.nil _ _), g.kp⟩))
 · -- no
  have q := o.2 D
  refine k_ (s_ (sqH ?_)); intro aF X
  refine l2 h g 13 0 0 6 (e30F u1 ao4 cap5) rfl rfl ?_; intro bi Y
  refine fc Y g (fcheckfr_fun u1 ao4 cap5 _ _ hs6 g.fz) ?_; intro bj bk aa d
  refine s1 aa 7 (i6 (fcheckfr u1)) ?_; intro bl ab
  apply X
  refine sqB ab d [] [] [(16, .bool ((fcheckfr u1) != 0))] ?_; intro bm i
  refine cd i (t := (fcheckfr u1) != 0) (by kernel_rfl) (fun E => ?_) (fun E => ?_)
  · -- yes
   have aG := q.1 E
   refine sqB i d [] [] [(4, .slice none 0 0), (5, i6 (fcheckfr u1))] ?_; intro bn aH
   exact r_ (h_ (ra2 aH (.tuple #[.slice none 0 0, i6 (fcheckfr u1)]) ⟨([], (fcheckfr u1)), none, 0, Z, rfl, aG, (SlR.nil _ _), d.kp⟩))
  · -- no
   have s := q.2 E
   refine k_ (s_ (sqB i d [] [] [(20, .bool ((u0.length : Int) == 16))] ?_)); intro aI j
   refine cd j (t := (u0.length : Int) == 16) (by kernel_rfl) (fun F => ?_) (fun F => ?_)
   · -- yes
    have aJ := s.1 F
    refine sqB j d [] [] [(4, .slice none 0 0), (5, i6 11)] ?_; intro bo aK
    exact r_ (h_ (ra2 aK (.tuple #[.slice none 0 0, i6 11]) ⟨([], 11), none, 0, Z, rfl, aJ, (SlR.nil _ _), d.kp⟩))
   · -- no
    have aL := s.2 F
    apply k_
    have ac : Fr 30 [] [⟨0, [], .slice ao1 u0.length cap2⟩, ⟨3, [], pt f 0⟩] aI := j.reg
    refine wp_seq (rgS mixed d [(0, true), (2, true), (3, true), (5, true), (1, false), (4, false), (6, false), (7, false), (8, false), (9, true), (10, true)] [] [0] [.row f (e30F u1 ao4 cap5) 30] ?_)
    intro aM ad bp G
    have a := Fz.le.refl Z
    refine cS ac 4 [0, 0] [] [(21, .slice ao1 u0.length cap2), (23, .slice ao1 u0.length cap2), (24, .agg (e30F u1 ao4 cap5).toArray), (26, .agg (e30F u1 ao4 cap5).toArray)] ?_; intro bq ae
    refine eS rfl ?_; intro aN af
    obtain ⟨aO, aP⟩ := aL
    refine ck ae 25 #[.slice ao1 u0.length cap2] ?_
    refine (qown_fun u0 aO ao1 cap2 _ _ hs3 G.fz).mono ?_; rintro _ aQ ⟨k, l, aR, rfl, hm⟩; refine ⟨_, rfl, ?_⟩; intro br ag; have ah := G.callZ hm; have u := hm.ext.le
    replace hs3 := hs3.mono u
    replace hs6 := hs6.mono u
    replace a := a.mono u
    have v : Mem w.heap.size [] w Z [.own tyFrame 30 k l (ownS u0), .row f (e30F u1 ao4 cap5) 30] aR aQ := ah
    refine nl (qnI (af _ _ (v.cst a [1]) ?_))
    refine eS rfl ?_; intro aS ai
    obtain ⟨aT, aU⟩ := aP
    refine fc ag v (qplace_fun u0 u1 aT ao1 cap2 ao4 cap5 _ _ hs3 hs6 v.fz) ?_; intro bs bu aj y
    refine nl (qnI (ai _ _ (y.cst a [1]) ?_))
    refine eS rfl ?_; intro aV ak
    obtain ⟨aW, aX⟩ := aU
    refine ck aj 28 #[.agg (e30F u1 ao4 cap5).toArray] ?_
    refine (fcopy_fun u1 aW ao4 cap5 _ _ hs6 y.fz).mono ?_; rintro _ aY ⟨al, am, an, rfl, m, hm⟩; refine ⟨_, rfl, ?_⟩; intro bv ao; have ap := y.callZ hm; have z := hm.ext.le
    replace a := a.mono z
    have H : Mem w.heap.size [] w Z [.own tyFrame 30 k l (ownS u0), .row f (e30F u1 ao4 cap5) 30] an aY := ap
    refine nl (qnI (ak _ _ (H.cst a [1]) ?_))
    refine eS rfl ?_; intro aZ aq
    refine nw ao H (fun b => .slice (sm b) 1 1) (e30F (fcopyS u1) al am) 30 ?_; intro I bw a1 ar J
    refine nl (qnI (aq _ _ (J.cst a [2]) ?_))
    refine eS rfl ?_; intro a2 au
    have L : Mem w.heap.size [] w Z [.own tyFrame 30 (sm I) 1 ([(fcopyS u1)] : List Frame), .own tyFrame 30 k l (ownS u0), .row f (e30F u1 ao4 cap5) 30] an a1 := J.rowOwn (T := tyFrame) (xs := ([(fcopyS u1)] : List Frame)) 0 rfl (by decide) (by show 1 ≤ lim; decide) (RepAll.one (T := tyFrame) (x := (fcopyS u1)) ⟨al, am, rfl, m⟩)
    obtain ⟨a3, a4⟩ := aX
    refine ck ar 26 #[.slice k (ownS u0).length l, i6 (placeS u0 u1), .slice (sm I) ([(fcopyS u1)] : List Frame).length 1] ?_
    refine (finsert_fun (ownS u0) (placeS u0 u1) ([(fcopyS u1)] : List Frame) a3 k l (sm I) 1 _ _ _ _ _ _ (L.perm ((pk 1 rfl).trans ((List.Perm.refl _).cons _))) L.fz).mono ?_; rintro _ av ⟨A, B, a5, rfl, n, hm⟩; refine ⟨_, rfl, ?_⟩; intro bx aw; have ax := hm
    replace a := a.mono n
    have ay : Mem w.heap.size [] w Z [.own tyFrame 30 A B (insS (ownS u0) (placeS u0 u1) ([(fcopyS u1)] : List Frame)), .row f (e30F u1 ao4 cap5) 30] a5 av := ax
    refine nl (qnI (au _ _ (ay.cst a [1]) ?_))
    refine cS aw 2 [] [] [(4, .slice A (insS (ownS u0) (placeS u0 u1) ([(fcopyS u1)] : List Frame)).length B), (5, i6 0)] ?_; intro bz a6
    refine nS (ad _ _ ?_)
    refine t_ (r_ ?_)
    obtain ⟨az, C, aA, a7⟩ := ay.freeze 0 rfl
    have a8 : Mem w.heap.size [] w Z [.row f (e30F u1 ao4 cap5) 30] az av := aA
    exact ra2 a6 (.tuple #[.slice A (insS (ownS u0) (placeS u0 u1) ([(fcopyS u1)] : List Frame)).length B, i6 0]) ⟨((insS (ownS u0) (placeS u0 u1) ([(fcopyS u1)] : List Frame)), 0), A, B, az, rfl, a4, a7, a8.kp⟩

end Go.Proofs.YtocpdhcjkfmmnaaDoor
set_option linter.unusedVariables false
set_option linter.unusedSimpArgs false
set_option linter.defProp false
set_option maxRecDepth 100000
set_option maxHeartbeats 0
namespace Go.Proofs.YtocpdhcjkfmmnaaDoor
open Go.Sy Go.RowKit
abbrev e30G (X : Frame) (A0 : Option Addr) (C0 : Nat) : List Value := [i6 X.ID, .bool X.Long, .bool X.Fast, .bool X.Remote, i6 X.Size, .slice A0 X.Data.length C0]
def qput_fun (u0 : List Frame) (u1 : Frame) (ao1 : Option Addr) (cap2 : Nat) (ao4 : Option Addr) (cap5 : Nat) (Z : Fz) (w : World) (hs3 : SlR tyFrame Z ao1 cap2 u0) (hs6 : SlR t8 Z ao4 cap5 u1.Data) (hZ : Z.on w) := fc_ (qput_walk u0 u1 ao1 cap2 ao4 cap5 Z w hs3 hs6 hZ (qput_ok u0 u1))
def qtake_fun (u0 : List Frame) (ao1 : Option Addr) (cap2 : Nat) (Z : Fz) (w : World) (hs3 : SlR tyFrame Z ao1 cap2 u0) (hZ : Z.on w) := fe_ (qtake_walk u0 ao1 cap2 Z w hs3 hZ (qtake_ok u0))
theorem queued_walk   (Z : Fz) (w : World)  (hZ : Z.on w) {K : Bool → Prop} (hp : queued_vc  K) : Calls Tryd.prog 8 #[] w fun e w' => ∃ r : Bool, e = .returned (.bool r) ∧ K r ∧ Below w.heap.size w w' := by
 refine enter0 Tryd.func8 rfl rfl (by kernel_rfl) ?_; intro a0 M; have z := Mem.start w Z hZ
 refine sqB M z [] [] [] ?_; intro a2 N
 refine sqH ?_; intro ar O
 refine s1 N 7 (.agg #[i6 5, .bool false, .bool false, .bool false, i6 0, .slice none 0 0]) ?_; intro a5 P
 refine nw P z (fun b => .slice (sm b) 1 1) [i6 5, .bool false, .bool false, .bool false, i6 0, .slice none 0 0] 30 ?_; intro A a8 Q R S
 refine s1 R 9 (.agg #[i6 3, .bool false, .bool false, .bool false, i6 0, .slice none 0 0]) ?_; intro aQ U
 have au : Mem w.heap.size [] w Z [.own tyFrame 30 (sm A) 1 ([(⟨5, false, false, false, 0, []⟩ : Frame)] : List Frame)] Z Q := S.rowOwn (T := tyFrame) (xs := ([(⟨5, false, false, false, 0, []⟩ : Frame)] : List Frame)) 0 rfl (by decide) (by show 1 ≤ lim; decide) (RepAll.one (T := tyFrame) (x := (⟨5, false, false, false, 0, []⟩ : Frame)) ⟨none, 0, rfl, SlR.nil _ _⟩)
 obtain ⟨av, aw, V, h⟩ := au.freeze 0 rfl
 have B : Mem w.heap.size [] w Z [] av Q := V
 refine ck U 12 #[.slice (sm A) ([(⟨5, false, false, false, 0, []⟩ : Frame)] : List Frame).length 1, .agg #[i6 3, .bool false, .bool false, .bool false, i6 0, .slice none 0 0]] ?_
 refine (qput_fun ([(⟨5, false, false, false, 0, []⟩ : Frame)] : List Frame) (⟨3, false, false, false, 0, []⟩ : Frame) (sm A) 1 none 0 _ _ h (SlR.nil _ _) B.fz).mono ?_; rintro _ ax ⟨l, m, ay, rfl, n, hm⟩; refine ⟨_, rfl, ?_⟩; intro aR W; have X := B.callZ hm
 have o : Mem w.heap.size [] w Z [] ay ax := X
 have aa := hp (n.small)
 refine bt W o 5 [] [] [(1, .slice l (putS ([(⟨5, false, false, false, 0, []⟩ : Frame)] : List Frame) (⟨3, false, false, false, 0, []⟩ : Frame)).1.length m), (2, i6 (putS ([(⟨5, false, false, false, 0, []⟩ : Frame)] : List Frame) (⟨3, false, false, false, 0, []⟩ : Frame)).2)] ?_; intro aS ab
 apply O
 refine sqH ?_; intro az ac
 refine s1 ab 14 (.slice l (putS ([(⟨5, false, false, false, 0, []⟩ : Frame)] : List Frame) (⟨3, false, false, false, 0, []⟩ : Frame)).1.length m) ?_; intro aT ad
 refine ck ad 14 #[.slice l (putS ([(⟨5, false, false, false, 0, []⟩ : Frame)] : List Frame) (⟨3, false, false, false, 0, []⟩ : Frame)).1.length m] ?_
 refine (qtake_fun (putS ([(⟨5, false, false, false, 0, []⟩ : Frame)] : List Frame) (⟨3, false, false, false, 0, []⟩ : Frame)).1 l m _ _ n o.fz).mono ?_; rintro _ aA ⟨C, D, E, F, ae, rfl, aB, af, hm⟩; refine ⟨_, rfl, ?_⟩; intro aU ag; have ah := o.callZ hm
 have H : Mem w.heap.size [] w Z [] ae aA := ah
 have p := aa (aB.small) (af.small)
 refine bt ag H 4 [] [] [(16, .agg (e30G ((takeS (putS ([(⟨5, false, false, false, 0, []⟩ : Frame)] : List Frame) (⟨3, false, false, false, 0, []⟩ : Frame)).1).1) C D).toArray), (17, .slice E (takeS (putS ([(⟨5, false, false, false, 0, []⟩ : Frame)] : List Frame) (⟨3, false, false, false, 0, []⟩ : Frame)).1).2.1.length F), (18, i6 (takeS (putS ([(⟨5, false, false, false, 0, []⟩ : Frame)] : List Frame) (⟨3, false, false, false, 0, []⟩ : Frame)).1).2.2)] ?_; intro aV aj
 refine nw aj H pb [i6 0, .bool false, .bool false, .bool false, i6 0, .slice none 0 0] 30 ?_; intro aC aW aX I ak
 refine sx I ak 0 (e30G ((takeS (putS ([(⟨5, false, false, false, 0, []⟩ : Frame)] : List Frame) (⟨3, false, false, false, 0, []⟩ : Frame)).1).1) C D) 0 ?_; intro aD J
 refine bt I J 2 [] [] [(4, .slice E (takeS (putS ([(⟨5, false, false, false, 0, []⟩ : Frame)] : List Frame) (⟨3, false, false, false, 0, []⟩ : Frame)).1).2.1.length F), (5, i6 (takeS (putS ([(⟨5, false, false, false, 0, []⟩ : Frame)] : List Frame) (⟨3, false, false, false, 0, []⟩ : Frame)).1).2.2)] ?_; intro aY al
 have f : Mem w.heap.size [] w Z [.row aC (e30G ((takeS (putS ([(⟨5, false, false, false, 0, []⟩ : Frame)] : List Frame) (⟨3, false, false, false, 0, []⟩ : Frame)).1).1) C D) 30] ae aD := J
 apply ac
 refine sqH ?_; intro am q
 refine bt al f 17 [0] [] [(35, .bool (((((putS ([(⟨5, false, false, false, 0, []⟩ : Frame)] : List Frame) (⟨3, false, false, false, 0, []⟩ : Frame)).2 == 0) && ((takeS (putS ([(⟨5, false, false, false, 0, []⟩ : Frame)] : List Frame) (⟨3, false, false, false, 0, []⟩ : Frame)).1).2.2 == 0)) && ((takeS (putS ([(⟨5, false, false, false, 0, []⟩ : Frame)] : List Frame) (⟨3, false, false, false, 0, []⟩ : Frame)).1).1.ID == 3)) && (((takeS (putS ([(⟨5, false, false, false, 0, []⟩ : Frame)] : List Frame) (⟨3, false, false, false, 0, []⟩ : Frame)).1).2.1.length : Int) == 1)))] ?_; intro aZ s
 rcases Bool.eq_false_or_eq_true (((((putS ([(⟨5, false, false, false, 0, []⟩ : Frame)] : List Frame) (⟨3, false, false, false, 0, []⟩ : Frame)).2 == 0) && ((takeS (putS ([(⟨5, false, false, false, 0, []⟩ : Frame)] : List Frame) (⟨3, false, false, false, 0, []⟩ : Frame)).1).2.2 == 0)) && ((takeS (putS ([(⟨5, false, false, false, 0, []⟩ : Frame)] : List Frame) (⟨3, false, false, false, 0, []⟩ : Frame)).1).1.ID == 3)) && (((takeS (putS ([(⟨5, false, false, false, 0, []⟩ : Frame)] : List Frame) (⟨3, false, false, false, 0, []⟩ : Frame)).1).2.1.length : Int) == 1)) with i | i
 · -- true
  have aE := p.1 i
  have t := s.reval (d := 35) (c := []) (v := .bool (((((putS ([(⟨5, false, false, false, 0, []⟩ : Frame)] : List Frame) (⟨3, false, false, false, 0, []⟩ : Frame)).2 == 0) && ((takeS (putS ([(⟨5, false, false, false, 0, []⟩ : Frame)] : List Frame) (⟨3, false, false, false, 0, []⟩ : Frame)).1).2.2 == 0)) && ((takeS (putS ([(⟨5, false, false, false, 0, []⟩ : Frame)] : List Frame) (⟨3, false, false, false, 0, []⟩ : Frame)).1).1.ID == 3)) && (((takeS (putS ([(⟨5, false, false, false, 0, []⟩ : Frame)] : List Frame) (⟨3, false, false, false, 0, []⟩ : Frame)).1).2.1.length : Int) == 1))) (by kernel_rfl) (.bool true) (by rw [i])
  refine g_ t true (.slice E (takeS (putS ([(⟨5, false, false, false, 0, []⟩ : Frame)] : List Frame) (⟨3, false, false, false, 0, []⟩ : Frame)).1).2.1.length F) ?_; intro a1 L
  obtain ⟨aF, an⟩ := aE
  refine ix L (T := tyFrame) (xs := (takeS (putS ([(⟨5, false, false, false, 0, []⟩ : Frame)] : List Frame) (⟨3, false, false, false, 0, []⟩ : Frame)).1).2.1) af (0 : Int) aF (k := .i64) (e := 30) (bytes := 48) (wK L true) rfl (by kernel_rfl) rfl (by kernel_rfl) (by kernel_rfl) (by kernel_rfl) ?_; intro aG aH a3 j a4 aI aJ aK u
  have ao := an j aI
  obtain ⟨a6, a7, rfl, aL⟩ := aK
  have aM := ao (aL.small)
  refine g_ u true (pt aG aH) ?_; intro a9 y
  refine v_ y (i6 j.ID) (wK y true) (lz y f.fz aJ 0 (g := []) rfl (by kernel_rfl) (by kernel_rfl) (by kernel_rfl) rfl) ?_; intro ba ap
  refine bt ap f 3 [] [40, 41] [(0, .bool (j.ID == 5))] ?_; intro bb aN
  apply q
  exact r_ (ra1 aN (.bool (j.ID == 5)) ⟨j.ID == 5, rfl, aM, f.below⟩)
 · -- false
  have aO := p.2 i
  have aq := s.reval (d := 35) (c := []) (v := .bool (((((putS ([(⟨5, false, false, false, 0, []⟩ : Frame)] : List Frame) (⟨3, false, false, false, 0, []⟩ : Frame)).2 == 0) && ((takeS (putS ([(⟨5, false, false, false, 0, []⟩ : Frame)] : List Frame) (⟨3, false, false, false, 0, []⟩ : Frame)).1).2.2 == 0)) && ((takeS (putS ([(⟨5, false, false, false, 0, []⟩ : Frame)] : List Frame) (⟨3, false, false, false, 0, []⟩ : Frame)).1).1.ID == 3)) && (((takeS (putS ([(⟨5, false, false, false, 0, []⟩ : Frame)] : List Frame) (⟨3, false, false, false, 0, []⟩ : Frame)).1).2.1.length : Int) == 1))) (by kernel_rfl) (.bool false) (by rw [i])
  refine bt aq f 7 [] [36, 37, 38, 39, 40, 41] [(0, .bool false)] ?_; intro bc aP
  apply q
  exact r_ (ra1 aP (.bool false) ⟨false, rfl, aO, f.below⟩)

end Go.Proofs.YtocpdhcjkfmmnaaDoor
namespace Go.Proofs
open Go.Shelf
def Tryd.lays105_ren : Go.Shelf.Ren := ⟨fun | 99 => 57 | 105 => 48 | 165 => 58 | 166 => 59 | 169 => 61 | 170 => 60 | 206 => 70 | 212 => 56 | 240 => 71 | 241 => 72 | 263 => 68 | 264 => 69 | 276 => 79 | 277 => 80 | n => n, fun | 37 => 28 | 46 => 71 | 51 => 95 | 53 => 73 | 70 => 78 | 72 => 80 | 75 => 83 | 76 => 84 | 80 => 87 | 109 => 75 | 127 => 100 | 146 => 96 | 148 => 98 | 164 => 107 | n => n, fun n => n⟩
theorem Tryd.lays105 : Lays.n105 Tryd.prog Tryd.lays105_ren := {
  mixed := by kernel_rfl
  f99 := Tryd.func57.trans (congrArg some (by kernel_rfl))
  f105 := Tryd.func48.trans (congrArg some (by kernel_rfl))
  f165 := Tryd.func58.trans (congrArg some (by kernel_rfl))
  f166 := Tryd.func59.trans (congrArg some (by kernel_rfl))
  f169 := Tryd.func61.trans (congrArg some (by kernel_rfl))
  f170 := Tryd.func60.trans (congrArg some (by kernel_rfl))
  f206 := Tryd.func70.trans (congrArg some (by kernel_rfl))
  f212 := Tryd.func56.trans (congrArg some (by kernel_rfl))
  f240 := Tryd.func71.trans (congrArg some (by kernel_rfl))
  f241 := Tryd.func72.trans (congrArg some (by kernel_rfl))
  f263 := Tryd.func68.trans (congrArg some (by kernel_rfl))
  f264 := Tryd.func69.trans (congrArg some (by kernel_rfl))
  f276 := Tryd.func79.trans (congrArg some (by kernel_rfl))
  f277 := Tryd.func80.trans (congrArg some (by kernel_rfl))
  t0 := Tryd.underlying0
  a0 := Tryd.isAgg0
  z0 := Tryd.sizeOf0
  v0 := Tryd.zeroValue0
  t3 := Tryd.underlying3
  a3 := Tryd.isAgg3
  z3 := Tryd.sizeOf3
  v3 := Tryd.zeroValue3
  t4 := Tryd.underlying4
  a4 := Tryd.isAgg4
  z4 := Tryd.sizeOf4
  v4 := Tryd.zeroValue4
  t5 := Tryd.underlying5
  a5 := Tryd.isAgg5
  z5 := Tryd.sizeOf5
  v5 := Tryd.zeroValue5
  t9 := Tryd.underlying9
  a9 := Tryd.isAgg9
  z9 := Tryd.sizeOf9
  v9 := Tryd.zeroValue9
  t20 := Tryd.underlying20
  a20 := Tryd.isAgg20
  z20 := Tryd.sizeOf20
  v20 := Tryd.zeroValue20
  t37 := Tryd.underlying28
  a37 := Tryd.isAgg28
  z37 := Tryd.sizeOf28
  v37 := Tryd.zeroValue28
  t46 := Tryd.underlying71
  a46 := Tryd.isAgg71
  z46 := Tryd.sizeOf71
  v46 := Tryd.zeroValue71
  t51 := Tryd.underlying95
  a51 := Tryd.isAgg95
  z51 := Tryd.sizeOf95
  v51 := Tryd.zeroValue95
  t53 := Tryd.underlying73
  a53 := Tryd.isAgg73
  z53 := Tryd.sizeOf73
  v53 := Tryd.zeroValue73
  t70 := Tryd.underlying78
  a70 := Tryd.isAgg78
  z70 := Tryd.sizeOf78
  v70 := Tryd.zeroValue78
  t72 := Tryd.underlying80
  a72 := Tryd.isAgg80
  z72 := Tryd.sizeOf80
  v72 := Tryd.zeroValue80
  t75 := Tryd.underlying83
  a75 := Tryd.isAgg83
  z75 := Tryd.sizeOf83
  v75 := Tryd.zeroValue83
  t76 := Tryd.underlying84
  a76 := Tryd.isAgg84
  z76 := Tryd.sizeOf84
  v76 := Tryd.zeroValue84
  t109 := Tryd.underlying75
  a109 := Tryd.isAgg75
  z109 := Tryd.sizeOf75
  v109 := Tryd.zeroValue75
  t127 := Tryd.underlying100
  a127 := Tryd.isAgg100
  z127 := Tryd.sizeOf100
  v127 := Tryd.zeroValue100
  t146 := Tryd.underlying96
  a146 := Tryd.isAgg96
  z146 := Tryd.sizeOf96
  v146 := Tryd.zeroValue96
  t148 := Tryd.underlying98
  a148 := Tryd.isAgg98
  z148 := Tryd.sizeOf98
  v148 := Tryd.zeroValue98
  t164 := Tryd.underlying107
  a164 := Tryd.isAgg107
  z164 := Tryd.sizeOf107
  v164 := Tryd.zeroValue107 }
theorem Tryd.lays105X : Builder.Extra Tryd.prog Tryd.lays105_ren := {
  sizeBuilder := by kernel_rfl
  liesBuilder := by kernel_rfl
  t5 := by kernel_rfl
  a5 := fun w => by kernel_rfl
  z5 := fun w => by kernel_rfl
  v5 := fun w => by kernel_rfl
  infoByte := by kernel_rfl
  cellsByte := by kernel_rfl
  sizeByte := by kernel_rfl
  neB5 := by decide }

end Go.Proofs
set_option linter.unusedVariables false
set_option linter.unusedSimpArgs false
set_option linter.defProp false
set_option maxRecDepth 100000
set_option maxHeartbeats 0
namespace Go.Proofs.YtocpdhcjkfmmnaaDoor
open Go.Sy Go.RowKit
theorem srep_fun (u0 : List UInt8) (u1 : Int) (hpre : 0 ≤ u1 ∧ u1 ≤ 1000000 ∧ (u0.length : Int) * u1 ≤ 140737488355328) (Z : Fz) (w : World) (hZ : Z.on w) : Calls Tryd.prog 48 #[str u0, i6 u1] w fun e w' => e = .returned (str (srepS u0 u1)) ∧ Below w.heap.size w w' := by
  obtain ⟨m, rfl⟩ := Int.eq_ofNat_of_zero_le hpre.1
  have hl : u0.length * m ≤ 140737488355328 := by have := hpre.2.2; rw [← Int.natCast_mul] at this; omega
  have hm : m ≤ 1000000 := by have := hpre.2.1; omega
  have e : ∀ c : Nat, srepS u0 (c : Int) = Lib.repeatL u0 c := by
    intro c
    unfold srepS
    rw [Int.toNat_natCast]
    induction c with
    | zero => rfl
    | succ c ih => rw [List.replicate_succ, List.flatten_cons, ih]; rfl
  rw [e]
  exact Any.strings_Repeat Tryd.lays105 Tryd.lays105X ⟨⟨u0⟩⟩ m w (by omega) hl

theorem tz64_walk (u0 : Int)  (Z : Fz) (w : World) (hg3 : SlR t8 Z (sm 3) 64 deBruijn64) (hZ : Z.on w) {K : Int → Prop} (hp : tz64_vc u0 K) : Calls Tryd.prog 82 #[y6 u0] w fun e w' => ∃ r : Int, e = .returned (i6 r) ∧ K r ∧ Below w.heap.size w w' := by
 refine enter0 Tryd.func82 rfl rfl (by kernel_rfl) ?_; intro B f; have a := Mem.start w Z hZ
 refine sqB f a [] [] [] ?_; intro D g
 refine s_ (sqB g a [] [] [(4, .bool (u0 == 0))] ?_); intro E c
 refine cd c (t := u0 == 0) (by kernel_rfl) (fun d => ?_) (fun d => ?_)
 · -- yes
  have n := hp.1 d
  refine sqB c a [] [] [(2, i6 64)] ?_; intro F o
  exact r_ (h_ (ra1 o (i6 64) ⟨64, rfl, n, a.below⟩))
 · -- no
  have p := hp.2 d
  refine k_ (sqH ?_); intro q h
  refine bt c a 6 [] [] [(10, y6 (bShr .u64 (wu64 ((bAnd .u64 u0 (wu64 (0 - u0))) * 285870213051353865)) 58))] ?_; intro G i
  obtain ⟨s, j⟩ := p
  refine ixG i (T := t8) (xs := deBruijn64) hg3 (bShr .u64 (wu64 ((bAnd .u64 u0 (wu64 (0 - u0))) * 285870213051353865)) 58) 64 rfl s (e := 5) (k := .u64) (nog rfl _) rfl (by kernel_rfl) rfl (by kernel_rfl) (by kernel_rfl) (by kernel_rfl) ?_; intro H I u b J v x y l
  have z := j b v
  obtain rfl : u = ([y8 b] : List Value) := y
  refine z1 l a 12 x 0 (y8 b) rfl ?_; intro L m
  refine bt m a 2 [] [] [(2, i6 (w64 b))] ?_; intro M A
  apply h
  exact r_ (ra1 A (i6 (w64 b)) ⟨w64 b, rfl, z, a.below⟩)

theorem isp2_walk (u0 : Int)  (Z : Fz) (w : World)  (hZ : Z.on w) {K : Bool → Prop} (hp : isp2_vc u0 K) : Calls Tryd.prog 77 #[i6 u0] w fun e w' => ∃ r : Bool, e = .returned (.bool r) ∧ K r ∧ Below w.heap.size w w' := by
 refine enter0 Tryd.func77 rfl rfl (by kernel_rfl) ?_; intro f b; have a := Mem.start w Z hZ
 refine sqB b a [] [] [] ?_; intro h c
 refine sqB c a [] [] [(2, .bool ((bAnd .i64 u0 (w64 (u0 - 1))) == 0))] ?_; intro i d
 exact r_ (ra1 d (.bool ((bAnd .i64 u0 (w64 (u0 - 1))) == 0)) ⟨(bAnd .i64 u0 (w64 (u0 - 1))) == 0, rfl, hp, a.below⟩)
def isp2_fun (u0 : Int)  (Z : Fz) (w : World)  (hZ : Z.on w) := f_ (isp2_walk u0  Z w  hZ (isp2_ok u0))
end Go.Proofs.YtocpdhcjkfmmnaaDoor
set_option linter.unusedVariables false
set_option linter.unusedSimpArgs false
set_option linter.defProp false
set_option maxRecDepth 100000
set_option maxHeartbeats 0
namespace Go.Proofs.YtocpdhcjkfmmnaaDoor
open Go.Sy Go.RowKit
def tz64_fun (u0 : Int) (hpre : u0 = 2)  (Z : Fz) (w : World) (hg3 : SlR t8 Z (sm 3) 64 deBruijn64) (hZ : Z.on w) := f_ (tz64_walk u0  Z w hg3 hZ (tz64_ok u0 hpre))
theorem tz_walk (u0 : Int)  (Z : Fz) (w : World) (hg3 : SlR t8 Z (sm 3) 64 deBruijn64) (hZ : Z.on w) {K : Int → Prop} (hp : tz_vc u0 K) : Calls Tryd.prog 78 #[y6 u0] w fun e w' => ∃ r : Int, e = .returned (i6 r) ∧ K r ∧ Below w.heap.size w w' := by
 refine enter0 Tryd.func78 rfl rfl (by kernel_rfl) ?_; intro m c; have a := Mem.start w Z hZ
 refine sqB c a [] [] [] ?_; intro o b
 refine s_ (cdF b (by kernel_rfl) ?_)
 refine k_ (sqH ?_); intro h d
 refine s1 b 6 (y6 u0) ?_; intro p f
 obtain ⟨i, j⟩ := hp
 refine fc f a (tz64_fun u0 i _ _ hg3 a.fz) ?_; intro q s g k
 refine s1 g 2 (i6 (tz64S u0)) ?_; intro t l
 apply d
 exact r_ (ra1 l (i6 (tz64S u0)) ⟨(tz64S u0), rfl, j, k.below⟩)

theorem fbits_walk (u1 : Int) (u3 : Bool)  (Z : Fz) (w : World) (hg3 : SlR t8 Z (sm 3) 64 deBruijn64) (hZ : Z.on w) {K : ((List Int) × (List UInt8)) → Prop} (hp : fbits_vc u1 u3 K) : Calls Tryd.prog 67 #[.slice none 0 0, y6 u1, i6 2, .bool u3, .bool false] w fun e w' => ∃ (r : (List Int) × (List UInt8)) (ao1001 : Option Addr) (cap1002 : Nat) (Z' : Fz), e = .returned (.tuple #[.slice ao1001 r.1.length cap1002, str r.2]) ∧ K r ∧ Mem w.heap.size [] w Z [.own t8 5 ao1001 cap1002 r.1] Z' w' := by
 refine enter0 Tryd.func67 rfl rfl (by kernel_rfl) ?_; intro a0 aX; have Q := Mem.start w Z hZ
 refine sqB aX Q [] [] [(10, .slice none 0 0), (11, str [])] ?_; intro a4 aY
 refine s_ (sqB aY Q [] [22, 23, 24, 26, 27, 28] [(28, .bool false)] ?_); intro f9 al
 refine cdF al (by kernel_rfl) ?_
 refine k_ (sqH ?_); intro dB aZ
 refine alA (T := t8) al Q 65 (y8 0) 0 104 (nog rfl _) rfl (by kernel_rfl) (by kernel_rfl) rfl (by decide) rfl ?_; intro c ga dC a1 a2
 have p : Mem w.heap.size [] w Z [.own t8 104 (sm c) 65 (List.replicate 65 (0 : Int))] Z dC := a2
 apply aZ
 refine sqB a1 p [] [] [(13, i6 65)] ?_; intro gb a3
 refine s_ (sqB a3 p [] [] [(30, .bool u3)] ?_); intro gc G
 refine c_ G hp (fun z R => ?_) fun z ae => ?_
 ·
  refine rgB G p [] [] [(1, y6 (wu64 (0 - u1)))] ?_; intro gd a5
  refine t_ (s_ (sqH ?_)); intro dD a6
  refine s1 a5 33 (i6 2) ?_; intro ge a7
  refine fc a7 p (isp2_fun 2 _ _ p.fz) ?_; intro gf gg H A
  apply a6
  refine c_ H R (fun _ dE => ?_) fun _ el => ?_
  ·
   refine sqH ?_; intro dF a8
   refine bt H A 2 [] [] [(36, y6 2)] ?_; intro gh a9
   refine ck a9 78 #[y6 2] ?_
   refine (tz_walk 2 _ _ hg3 A.fz dE).mono ?_; rintro _ gi ⟨i, rfl, dG, hb⟩; refine ⟨_, rfl, ?_⟩; intro gj ba; have I := A.call hb
   refine bt ba I 2 [] [] [(14, y6 (wu64 i))] ?_; intro gk bb
   apply a8
   refine sqB bb I [] [] [(15, y6 2)] ?_; intro gl bc
   refine sqB bc I [] [] [(16, y6 (wu64 (2 - 1)))] ?_; intro bd be
   refine s_ (b_ ?_)
   have bf : Fr 102 [] [⟨0, [], .slice none 0 0⟩, ⟨1, [], y6 (wu64 (0 - u1))⟩, ⟨3, [], .bool u3⟩, ⟨4, [], .bool false⟩, ⟨10, [], .slice none 0 0⟩, ⟨11, [], str []⟩, ⟨12, [], pt c 0⟩, ⟨13, [], i6 65⟩, ⟨14, [], y6 (wu64 i)⟩, ⟨15, [], y6 2⟩, ⟨16, [], y6 (wu64 (2 - 1))⟩] bd := be.reg
   obtain ⟨dH, dI, dJ, dK⟩ := dG
   refine lp (ι := Int × Int × (List Int)) (fun s => [⟨0, [], .slice none 0 0⟩, ⟨1, [], y6 s.1⟩, ⟨3, [], .bool u3⟩, ⟨4, [], .bool false⟩, ⟨10, [], .slice none 0 0⟩, ⟨11, [], str []⟩, ⟨12, [], pt c 0⟩, ⟨13, [], i6 s.2.1⟩, ⟨14, [], y6 (wu64 i)⟩, ⟨15, [], y6 2⟩, ⟨16, [], y6 (wu64 (2 - 1))⟩]) (fun s => [.own t8 104 (sm c) 65 s.2.2]) (fun s => Z) (fun s => dH s.1 s.2.1 s.2.2) (fun s => dI s.1 s.2.1 s.2.2) ⟨wu64 (0 - u1), 65, (List.replicate 65 (0 : Int))⟩ dJ (by exact bf.reg) (by exact I) ?_
   rintro ⟨b, a, d⟩ dL dM dN bh bi
   have S := dK b a d dL
   refine s_ (sqB bh bi [] [] [(46, .bool (decide (b ≥ 2)))] ?_); intro gm J
   refine c_ J S (fun _ dO => ?_) fun _ d0 => ?_
   ·
    refine k_ (b_ (sqB J bi [] [] [(13, i6 (w64 (a - 1)))] ?_)); intro gn bk
    refine sqH ?_; intro dP bl
    refine bt bk bi 4 [] [] [(49, i6 (w64 (a - 1))), (52, y6 (bAnd .u64 b (wu64 (2 - 1))))] ?_; intro go bm
    obtain ⟨dQ, dR⟩ := dO
    obtain ⟨C, bn⟩ : ∃ q, ([48, 49, 50, 51, 52, 53, 54, 55, 56, 57, 97, 98, 99, 100, 101, 102, 103, 104, 105, 106, 107, 108, 109, 110, 111, 112, 113, 114, 115, 116, 117, 118, 119, 120, 121, 122] : List UInt8)[(bAnd .u64 b (wu64 (2 - 1))).toNat]? = some q := ⟨_, List.getElem?_eq_getElem (by omega)⟩; have dS := dR C bn
    refine si bm .u64 dQ.1 bn ?_; intro gp bo
    obtain ⟨dT, dU⟩ := dS
    refine ixA (g := c) bo (w64 (a - 1)) 65 1 dT.1 (e := 5) (k := .i64) (nog rfl _) rfl (by kernel_rfl) rfl (by kernel_rfl) (by kernel_rfl) (by kernel_rfl) ?_; intro dV U
    refine so U bi 0 (T := t8) (xs := d) (w64 (a - 1)).toNat (C.toNat : Int) (u := y8 (C.toNat : Int)) (nog rfl _) rfl rfl (by kernel_rfl) rfl (by kernel_rfl) rfl (by kernel_rfl) (by first | omega | (simp only [List.length_set] at *; omega)) rfl ?_; intro dW bp
    have bq : Fr 102 [] [⟨0, [], .slice none 0 0⟩, ⟨1, [], y6 b⟩, ⟨3, [], .bool u3⟩, ⟨4, [], .bool false⟩, ⟨10, [], .slice none 0 0⟩, ⟨11, [], str []⟩, ⟨12, [], pt c 0⟩, ⟨13, [], i6 (w64 (a - 1))⟩, ⟨14, [], y6 (wu64 i)⟩, ⟨15, [], y6 2⟩, ⟨16, [], y6 (wu64 (2 - 1))⟩, ⟨46, [], .bool (decide (b ≥ 2))⟩, ⟨49, [], i6 (w64 (a - 1))⟩, ⟨52, [], y6 (bAnd .u64 b (wu64 (2 - 1)))⟩, ⟨53, [], y8 (C.toNat : Int)⟩, ⟨54, [], .pointer (some ⟨c, (w64 (a - 1)).toNat * 1, none⟩)⟩] dV := by (try simp only [List.length_set] at U); (try simp only [List.length_set]); exact U.reg
    have br : Mem w.heap.size [] w Z [.own t8 104 (sm c) 65 (d.set (w64 (a - 1)).toNat (C.toNat : Int))] Z dW := bp
    apply bl
    refine rgH ?_; intro dX bs
    refine bt bq br 2 [] [] [(55, y6 b), (56, y6 (wu64 i))] ?_; intro gq ap
    obtain ⟨dY, bu⟩ := dU
    refine u_ ap (y6 (bShr .u64 b (wu64 i))) (shr_run ap (g := []) (k' := .u64) rfl (by kernel_rfl) (by kernel_rfl) dY rfl) ?_; intro gr bv
    refine s1 bv 1 (y6 (bShr .u64 b (wu64 i))) ?_; intro gs dZ
    apply bs
    exact j_ (d_ ⟨⟨bShr .u64 b (wu64 i), w64 (a - 1), d.set (w64 (a - 1)).toNat (C.toNat : Int)⟩, bu.1, bu.2, (dZ.reg).anyβ _ (by kernel_rfl), br.kp⟩)
   refine x_ (y_ (y_ (z_ (t_ (sqB J bi [] [] [(13, i6 (w64 (a - 1)))] ?_))))); intro gt bw
   refine rgH ?_; intro d1 bx
   refine bt bw bi 2 [] [] [(60, i6 (w64 (a - 1))), (61, y6 b)] ?_; intro gu bz
   obtain ⟨d2, d3⟩ := d0
   obtain ⟨f, bA⟩ : ∃ q, ([48, 49, 50, 51, 52, 53, 54, 55, 56, 57, 97, 98, 99, 100, 101, 102, 103, 104, 105, 106, 107, 108, 109, 110, 111, 112, 113, 114, 115, 116, 117, 118, 119, 120, 121, 122] : List UInt8)[b.toNat]? = some q := ⟨_, List.getElem?_eq_getElem (by omega)⟩; have d4 := d3 f bA
   refine si bz .u64 d2.1 bA ?_; intro gv bB
   obtain ⟨d5, d6⟩ := d4
   refine ixA (g := c) bB (w64 (a - 1)) 65 1 d5.1 (e := 5) (k := .i64) (nog rfl _) rfl (by kernel_rfl) rfl (by kernel_rfl) (by kernel_rfl) (by kernel_rfl) ?_; intro d7 V
   refine so V bi 0 (T := t8) (xs := d) (w64 (a - 1)).toNat (f.toNat : Int) (u := y8 (f.toNat : Int)) (nog rfl _) rfl rfl (by kernel_rfl) rfl (by kernel_rfl) rfl (by kernel_rfl) (by first | omega | (simp only [List.length_set] at *; omega)) rfl ?_; intro d8 bC
   have bD : Fr 102 [] [⟨0, [], .slice none 0 0⟩, ⟨1, [], y6 b⟩, ⟨3, [], .bool u3⟩, ⟨4, [], .bool false⟩, ⟨10, [], .slice none 0 0⟩, ⟨11, [], str []⟩, ⟨12, [], pt c 0⟩, ⟨13, [], i6 (w64 (a - 1))⟩, ⟨14, [], y6 (wu64 i)⟩, ⟨15, [], y6 2⟩, ⟨16, [], y6 (wu64 (2 - 1))⟩, ⟨46, [], .bool (decide (b ≥ 2))⟩, ⟨60, [], i6 (w64 (a - 1))⟩, ⟨61, [], y6 b⟩, ⟨62, [], y8 (f.toNat : Int)⟩, ⟨63, [], .pointer (some ⟨c, (w64 (a - 1)).toNat * 1, none⟩)⟩] d7 := by (try simp only [List.length_set] at V); (try simp only [List.length_set]); exact V.reg
   have W : Mem w.heap.size [] w Z [.own t8 104 (sm c) 65 (d.set (w64 (a - 1)).toNat (f.toNat : Int))] Z d8 := bC
   apply bx
   refine t_ (s_ (sqB bD W [] [] [(89, .bool u3)] ?_)); intro gw aq
   refine cy aq z ?_
   refine sqB aq W [] [] [(13, i6 (w64 ((w64 (a - 1)) - 1)))] ?_; intro gx bE
   refine rgH ?_; intro d9 bF
   refine s1 bE 92 (i6 (w64 ((w64 (a - 1)) - 1))) ?_; intro gy bG
   obtain ⟨ea, eb⟩ := d6
   refine ixA (g := c) bG (w64 ((w64 (a - 1)) - 1)) 65 1 ea.1 (e := 5) (k := .i64) (nog rfl _) rfl (by kernel_rfl) rfl (by kernel_rfl) (by kernel_rfl) (by kernel_rfl) ?_; intro ec X
   refine so X W 0 (T := t8) (xs := d.set (w64 (a - 1)).toNat (f.toNat : Int)) (w64 ((w64 (a - 1)) - 1)).toNat 45 (u := y8 45) (nog rfl _) rfl rfl (by kernel_rfl) rfl (by kernel_rfl) rfl (by kernel_rfl) (by first | omega | (simp only [List.length_set] at *; omega)) rfl ?_; intro ar bH
   have bI : Fr 102 [] [⟨0, [], .slice none 0 0⟩, ⟨1, [], y6 b⟩, ⟨3, [], .bool u3⟩, ⟨4, [], .bool false⟩, ⟨10, [], .slice none 0 0⟩, ⟨11, [], str []⟩, ⟨12, [], pt c 0⟩, ⟨13, [], i6 (w64 ((w64 (a - 1)) - 1))⟩, ⟨14, [], y6 (wu64 i)⟩, ⟨15, [], y6 2⟩, ⟨16, [], y6 (wu64 (2 - 1))⟩, ⟨46, [], .bool (decide (b ≥ 2))⟩, ⟨60, [], i6 (w64 (a - 1))⟩, ⟨61, [], y6 b⟩, ⟨62, [], y8 (f.toNat : Int)⟩, ⟨63, [], .pointer (some ⟨c, (w64 (a - 1)).toNat * 1, none⟩)⟩, ⟨89, [], .bool u3⟩, ⟨92, [], i6 (w64 ((w64 (a - 1)) - 1))⟩, ⟨93, [], .pointer (some ⟨c, (w64 ((w64 (a - 1)) - 1)).toNat * 1, none⟩)⟩] ec := by (try simp only [List.length_set] at X); (try simp only [List.length_set]); exact X.reg
   have bJ : Mem w.heap.size [] w Z [.own t8 104 (sm c) 65 ((d.set (w64 (a - 1)).toNat (f.toNat : Int)).set (w64 ((w64 (a - 1)) - 1)).toNat 45)] Z ar := bH
   apply bF
   refine t_ (s_ (sqB bI bJ [] [] [(94, .bool false)] ?_)); intro gz au
   refine cdF au (by kernel_rfl) ?_
   refine k_ (sqH ?_); intro ed bK
   refine s1 au 99 (i6 (w64 ((w64 (a - 1)) - 1))) ?_; intro gA bL
   obtain ⟨bM, ee⟩ := eb
   obtain ⟨av, bN, bO, ef⟩ := bJ.freeze 0 rfl
   have aw : Mem w.heap.size [] w Z [] av ar := bO
   refine slA bL (T := t8) (xs := (d.set (w64 (a - 1)).toNat (f.toNat : Int)).set (w64 ((w64 (a - 1)) - 1)).toNat 45) ef 65 (w64 ((w64 (a - 1)) - 1)) bM.2 bM.1 (e := 5) (k := .i64) (nog rfl _) rfl (by kernel_rfl) rfl (by kernel_rfl) (by kernel_rfl) (by kernel_rfl) ?_; intro eg eh gB gC ei ax
   refine u_ ax (str (bstr (((d.set (w64 (a - 1)).toNat (f.toNat : Int)).set (w64 ((w64 (a - 1)) - 1)).toNat 45).drop (w64 ((w64 (a - 1)) - 1)).toNat))) (bstr_op ax (g := []) (e := 5) (ao := eg) (cap := eh) (xs := (((d.set (w64 (a - 1)).toNat (f.toNat : Int)).set (w64 ((w64 (a - 1)) - 1)).toNat 45).drop (w64 ((w64 (a - 1)) - 1)).toNat)) rfl (by kernel_rfl) (by kernel_rfl) (by kernel_rfl) (by kernel_rfl) ei aw.fz rfl) ?_; intro gD bP
   refine s1 bP 11 (str (bstr (((d.set (w64 (a - 1)).toNat (f.toNat : Int)).set (w64 ((w64 (a - 1)) - 1)).toNat 45).drop (w64 ((w64 (a - 1)) - 1)).toNat))) ?_; intro gE ej
   apply bK
   apply r_
   have ek : Mem w.heap.size [] w Z [.own t8 5 none 0 ([] : List Int)] av ar := aw.addNil t8 5 (by decide)
   exact ra2 ej (.tuple #[.slice none ([] : List Int).length 0, str (bstr (((d.set (w64 (a - 1)).toNat (f.toNat : Int)).set (w64 ((w64 (a - 1)) - 1)).toNat 45).drop (w64 ((w64 (a - 1)) - 1)).toNat))]) ⟨(([] : List Int), bstr (((d.set (w64 (a - 1)).toNat (f.toNat : Int)).set (w64 ((w64 (a - 1)) - 1)).toNat 45).drop (w64 ((w64 (a - 1)) - 1)).toNat)), none, 0, av, rfl, ee, ek.kp⟩
  refine sqB H A [] [] [(17, y6 2)] ?_; intro bQ bR
  refine s_ (b_ ?_)
  have bS : Fr 102 [] [⟨0, [], .slice none 0 0⟩, ⟨1, [], y6 (wu64 (0 - u1))⟩, ⟨3, [], .bool u3⟩, ⟨4, [], .bool false⟩, ⟨10, [], .slice none 0 0⟩, ⟨11, [], str []⟩, ⟨12, [], pt c 0⟩, ⟨13, [], i6 65⟩, ⟨17, [], y6 2⟩] bQ := bR.reg
  obtain ⟨em, en, eo, ep⟩ := el
  refine lp (ι := Int × Int × (List Int)) (fun s => [⟨0, [], .slice none 0 0⟩, ⟨1, [], y6 s.1⟩, ⟨3, [], .bool u3⟩, ⟨4, [], .bool false⟩, ⟨10, [], .slice none 0 0⟩, ⟨11, [], str []⟩, ⟨12, [], pt c 0⟩, ⟨13, [], i6 s.2.1⟩, ⟨17, [], y6 2⟩]) (fun s => [.own t8 104 (sm c) 65 s.2.2]) (fun s => Z) (fun s => em s.1 s.2.1 s.2.2) (fun s => en s.1 s.2.1 s.2.2) ⟨wu64 (0 - u1), 65, (List.replicate 65 (0 : Int))⟩ eo (by exact bS.reg) (by exact A) ?_
  rintro ⟨b, a, d⟩ eq er es bU bV
  have Y := ep b a d eq
  refine s_ (sqB bU bV [] [] [(68, .bool (decide (b ≥ 2)))] ?_); intro gF L
  refine c_ L Y (fun _ et => ?_) fun _ eC => ?_
  ·
   refine k_ (b_ (sqB L bV [] [] [(13, i6 (w64 (a - 1)))] ?_)); intro gG bX
   refine sqB bX bV [] [] [(18, y6 (wu64 (b.tdiv 2)))] ?_; intro gH bY
   refine sqH ?_; intro eu bZ
   refine bt bY bV 6 [] [] [(74, i6 (w64 (a - 1))), (79, y6 (wu64 (b - (wu64 ((wu64 (b.tdiv 2)) * 2)))))] ?_; intro gI b0
   obtain ⟨ev, ew⟩ := et
   obtain ⟨D, b1⟩ : ∃ q, ([48, 49, 50, 51, 52, 53, 54, 55, 56, 57, 97, 98, 99, 100, 101, 102, 103, 104, 105, 106, 107, 108, 109, 110, 111, 112, 113, 114, 115, 116, 117, 118, 119, 120, 121, 122] : List UInt8)[(wu64 (b - (wu64 ((wu64 (b.tdiv 2)) * 2)))).toNat]? = some q := ⟨_, List.getElem?_eq_getElem (by omega)⟩; have ex := ew D b1
   refine si b0 .u64 ev.1 b1 ?_; intro gJ b2
   obtain ⟨ey, b3⟩ := ex
   refine ixA (g := c) b2 (w64 (a - 1)) 65 1 ey.1 (e := 5) (k := .i64) (nog rfl _) rfl (by kernel_rfl) rfl (by kernel_rfl) (by kernel_rfl) (by kernel_rfl) ?_; intro ez aa
   refine so aa bV 0 (T := t8) (xs := d) (w64 (a - 1)).toNat (D.toNat : Int) (u := y8 (D.toNat : Int)) (nog rfl _) rfl rfl (by kernel_rfl) rfl (by kernel_rfl) rfl (by kernel_rfl) (by first | omega | (simp only [List.length_set] at *; omega)) rfl ?_; intro eA b4
   have b5 : Fr 102 [] [⟨0, [], .slice none 0 0⟩, ⟨1, [], y6 b⟩, ⟨3, [], .bool u3⟩, ⟨4, [], .bool false⟩, ⟨10, [], .slice none 0 0⟩, ⟨11, [], str []⟩, ⟨12, [], pt c 0⟩, ⟨13, [], i6 (w64 (a - 1))⟩, ⟨17, [], y6 2⟩, ⟨18, [], y6 (wu64 (b.tdiv 2))⟩, ⟨68, [], .bool (decide (b ≥ 2))⟩, ⟨74, [], i6 (w64 (a - 1))⟩, ⟨79, [], y6 (wu64 (b - (wu64 ((wu64 (b.tdiv 2)) * 2))))⟩, ⟨80, [], y8 (D.toNat : Int)⟩, ⟨81, [], .pointer (some ⟨c, (w64 (a - 1)).toNat * 1, none⟩)⟩] ez := by (try simp only [List.length_set] at aa); (try simp only [List.length_set]); exact aa.reg
   have b6 : Mem w.heap.size [] w Z [.own t8 104 (sm c) 65 (d.set (w64 (a - 1)).toNat (D.toNat : Int))] Z eA := b4
   apply bZ
   refine rgB b5 b6 [] [] [(1, y6 (wu64 (b.tdiv 2)))] ?_; intro gK eB
   exact j_ (d_ ⟨⟨wu64 (b.tdiv 2), w64 (a - 1), d.set (w64 (a - 1)).toNat (D.toNat : Int)⟩, b3.1, b3.2, (eB.reg).anyβ _ (by kernel_rfl), b6.kp⟩)
  refine x_ (y_ (y_ (z_ (t_ (sqB L bV [] [] [(13, i6 (w64 (a - 1)))] ?_))))); intro gL b7
  refine rgH ?_; intro eD b8
  refine bt b7 bV 2 [] [] [(85, i6 (w64 (a - 1))), (86, y6 b)] ?_; intro gM b9
  obtain ⟨eE, eF⟩ := eC
  obtain ⟨h, ca⟩ : ∃ q, ([48, 49, 50, 51, 52, 53, 54, 55, 56, 57, 97, 98, 99, 100, 101, 102, 103, 104, 105, 106, 107, 108, 109, 110, 111, 112, 113, 114, 115, 116, 117, 118, 119, 120, 121, 122] : List UInt8)[b.toNat]? = some q := ⟨_, List.getElem?_eq_getElem (by omega)⟩; have eG := eF h ca
  refine si b9 .u64 eE.1 ca ?_; intro gN cb
  obtain ⟨eH, eI⟩ := eG
  refine ixA (g := c) cb (w64 (a - 1)) 65 1 eH.1 (e := 5) (k := .i64) (nog rfl _) rfl (by kernel_rfl) rfl (by kernel_rfl) (by kernel_rfl) (by kernel_rfl) ?_; intro eJ ab
  refine so ab bV 0 (T := t8) (xs := d) (w64 (a - 1)).toNat (h.toNat : Int) (u := y8 (h.toNat : Int)) (nog rfl _) rfl rfl (by kernel_rfl) rfl (by kernel_rfl) rfl (by kernel_rfl) (by first | omega | (simp only [List.length_set] at *; omega)) rfl ?_; intro eK cc
  have ce : Fr 102 [] [⟨0, [], .slice none 0 0⟩, ⟨1, [], y6 b⟩, ⟨3, [], .bool u3⟩, ⟨4, [], .bool false⟩, ⟨10, [], .slice none 0 0⟩, ⟨11, [], str []⟩, ⟨12, [], pt c 0⟩, ⟨13, [], i6 (w64 (a - 1))⟩, ⟨17, [], y6 2⟩, ⟨68, [], .bool (decide (b ≥ 2))⟩, ⟨85, [], i6 (w64 (a - 1))⟩, ⟨86, [], y6 b⟩, ⟨87, [], y8 (h.toNat : Int)⟩, ⟨88, [], .pointer (some ⟨c, (w64 (a - 1)).toNat * 1, none⟩)⟩] eJ := by (try simp only [List.length_set] at ab); (try simp only [List.length_set]); exact ab.reg
  have ac : Mem w.heap.size [] w Z [.own t8 104 (sm c) 65 (d.set (w64 (a - 1)).toNat (h.toNat : Int))] Z eK := cc
  apply b8
  refine t_ (s_ (sqB ce ac [] [] [(89, .bool u3)] ?_)); intro gO az
  refine cy az z ?_
  refine sqB az ac [] [] [(13, i6 (w64 ((w64 (a - 1)) - 1)))] ?_; intro gP cf
  refine rgH ?_; intro eL cg
  refine s1 cf 92 (i6 (w64 ((w64 (a - 1)) - 1))) ?_; intro gQ ch
  obtain ⟨eM, eN⟩ := eI
  refine ixA (g := c) ch (w64 ((w64 (a - 1)) - 1)) 65 1 eM.1 (e := 5) (k := .i64) (nog rfl _) rfl (by kernel_rfl) rfl (by kernel_rfl) (by kernel_rfl) (by kernel_rfl) ?_; intro eO ad
  refine so ad ac 0 (T := t8) (xs := d.set (w64 (a - 1)).toNat (h.toNat : Int)) (w64 ((w64 (a - 1)) - 1)).toNat 45 (u := y8 45) (nog rfl _) rfl rfl (by kernel_rfl) rfl (by kernel_rfl) rfl (by kernel_rfl) (by first | omega | (simp only [List.length_set] at *; omega)) rfl ?_; intro aA ci
  have cj : Fr 102 [] [⟨0, [], .slice none 0 0⟩, ⟨1, [], y6 b⟩, ⟨3, [], .bool u3⟩, ⟨4, [], .bool false⟩, ⟨10, [], .slice none 0 0⟩, ⟨11, [], str []⟩, ⟨12, [], pt c 0⟩, ⟨13, [], i6 (w64 ((w64 (a - 1)) - 1))⟩, ⟨17, [], y6 2⟩, ⟨68, [], .bool (decide (b ≥ 2))⟩, ⟨85, [], i6 (w64 (a - 1))⟩, ⟨86, [], y6 b⟩, ⟨87, [], y8 (h.toNat : Int)⟩, ⟨88, [], .pointer (some ⟨c, (w64 (a - 1)).toNat * 1, none⟩)⟩, ⟨89, [], .bool u3⟩, ⟨92, [], i6 (w64 ((w64 (a - 1)) - 1))⟩, ⟨93, [], .pointer (some ⟨c, (w64 ((w64 (a - 1)) - 1)).toNat * 1, none⟩)⟩] eO := by (try simp only [List.length_set] at ad); (try simp only [List.length_set]); exact ad.reg
  have cl : Mem w.heap.size [] w Z [.own t8 104 (sm c) 65 ((d.set (w64 (a - 1)).toNat (h.toNat : Int)).set (w64 ((w64 (a - 1)) - 1)).toNat 45)] Z aA := ci
  apply cg
  refine t_ (s_ (sqB cj cl [] [] [(94, .bool false)] ?_)); intro gR aB
  refine cdF aB (by kernel_rfl) ?_
  refine k_ (sqH ?_); intro eP cm
  refine s1 aB 99 (i6 (w64 ((w64 (a - 1)) - 1))) ?_; intro gS co
  obtain ⟨cp, eQ⟩ := eN
  obtain ⟨aC, cq, cr, eR⟩ := cl.freeze 0 rfl
  have aD : Mem w.heap.size [] w Z [] aC aA := cr
  refine slA co (T := t8) (xs := (d.set (w64 (a - 1)).toNat (h.toNat : Int)).set (w64 ((w64 (a - 1)) - 1)).toNat 45) eR 65 (w64 ((w64 (a - 1)) - 1)) cp.2 cp.1 (e := 5) (k := .i64) (nog rfl _) rfl (by kernel_rfl) rfl (by kernel_rfl) (by kernel_rfl) (by kernel_rfl) ?_; intro eS eT gT gU eU aE
  refine u_ aE (str (bstr (((d.set (w64 (a - 1)).toNat (h.toNat : Int)).set (w64 ((w64 (a - 1)) - 1)).toNat 45).drop (w64 ((w64 (a - 1)) - 1)).toNat))) (bstr_op aE (g := []) (e := 5) (ao := eS) (cap := eT) (xs := (((d.set (w64 (a - 1)).toNat (h.toNat : Int)).set (w64 ((w64 (a - 1)) - 1)).toNat 45).drop (w64 ((w64 (a - 1)) - 1)).toNat)) rfl (by kernel_rfl) (by kernel_rfl) (by kernel_rfl) (by kernel_rfl) eU aD.fz rfl) ?_; intro gV cs
  refine s1 cs 11 (str (bstr (((d.set (w64 (a - 1)).toNat (h.toNat : Int)).set (w64 ((w64 (a - 1)) - 1)).toNat 45).drop (w64 ((w64 (a - 1)) - 1)).toNat))) ?_; intro gW eV
  apply cm
  apply r_
  have eW : Mem w.heap.size [] w Z [.own t8 5 none 0 ([] : List Int)] aC aA := aD.addNil t8 5 (by decide)
  exact ra2 eV (.tuple #[.slice none ([] : List Int).length 0, str (bstr (((d.set (w64 (a - 1)).toNat (h.toNat : Int)).set (w64 ((w64 (a - 1)) - 1)).toNat 45).drop (w64 ((w64 (a - 1)) - 1)).toNat))]) ⟨(([] : List Int), bstr (((d.set (w64 (a - 1)).toNat (h.toNat : Int)).set (w64 ((w64 (a - 1)) - 1)).toNat 45).drop (w64 ((w64 (a - 1)) - 1)).toNat)), none, 0, aC, rfl, eQ, eW.kp⟩
 refine k_ (s_ (sqH ?_)); intro eX ct
 refine s1 G 33 (i6 2) ?_; intro gX cu
 refine fc cu p (isp2_fun 2 _ _ p.fz) ?_; intro gY gZ M B
 apply ct
 refine c_ M ae (fun _ eY => ?_) fun _ fC => ?_
 ·
  refine sqH ?_; intro eZ cv
  refine bt M B 2 [] [] [(36, y6 2)] ?_; intro g0 cw
  refine ck cw 78 #[y6 2] ?_
  refine (tz_walk 2 _ _ hg3 B.fz eY).mono ?_; rintro _ g1 ⟨j, rfl, e0, hb⟩; refine ⟨_, rfl, ?_⟩; intro g2 cx; have N := B.call hb
  refine bt cx N 2 [] [] [(14, y6 (wu64 j))] ?_; intro g3 cz
  apply cv
  refine sqB cz N [] [] [(15, y6 2)] ?_; intro g4 cA
  refine sqB cA N [] [] [(16, y6 (wu64 (2 - 1)))] ?_; intro cB cC
  refine s_ (b_ ?_)
  have cD : Fr 102 [] [⟨0, [], .slice none 0 0⟩, ⟨1, [], y6 u1⟩, ⟨3, [], .bool u3⟩, ⟨4, [], .bool false⟩, ⟨10, [], .slice none 0 0⟩, ⟨11, [], str []⟩, ⟨12, [], pt c 0⟩, ⟨13, [], i6 65⟩, ⟨14, [], y6 (wu64 j)⟩, ⟨15, [], y6 2⟩, ⟨16, [], y6 (wu64 (2 - 1))⟩] cB := cC.reg
  obtain ⟨e1, e2, e3, e4⟩ := e0
  refine lp (ι := Int × Int × (List Int)) (fun s => [⟨0, [], .slice none 0 0⟩, ⟨1, [], y6 s.1⟩, ⟨3, [], .bool u3⟩, ⟨4, [], .bool false⟩, ⟨10, [], .slice none 0 0⟩, ⟨11, [], str []⟩, ⟨12, [], pt c 0⟩, ⟨13, [], i6 s.2.1⟩, ⟨14, [], y6 (wu64 j)⟩, ⟨15, [], y6 2⟩, ⟨16, [], y6 (wu64 (2 - 1))⟩]) (fun s => [.own t8 104 (sm c) 65 s.2.2]) (fun s => Z) (fun s => e1 s.1 s.2.1 s.2.2) (fun s => e2 s.1 s.2.1 s.2.2) ⟨u1, 65, (List.replicate 65 (0 : Int))⟩ e3 (by exact cD.reg) (by exact N) ?_
  rintro ⟨b, a, d⟩ e5 e6 e7 cF cG
  have af := e4 b a d e5
  refine s_ (sqB cF cG [] [] [(46, .bool (decide (b ≥ 2)))] ?_); intro g5 O
  refine c_ O af (fun _ e8 => ?_) fun _ fl => ?_
  ·
   refine k_ (b_ (sqB O cG [] [] [(13, i6 (w64 (a - 1)))] ?_)); intro g6 cI
   refine sqH ?_; intro e9 cJ
   refine bt cI cG 4 [] [] [(49, i6 (w64 (a - 1))), (52, y6 (bAnd .u64 b (wu64 (2 - 1))))] ?_; intro g7 cK
   obtain ⟨fa, fb⟩ := e8
   obtain ⟨E, cL⟩ : ∃ q, ([48, 49, 50, 51, 52, 53, 54, 55, 56, 57, 97, 98, 99, 100, 101, 102, 103, 104, 105, 106, 107, 108, 109, 110, 111, 112, 113, 114, 115, 116, 117, 118, 119, 120, 121, 122] : List UInt8)[(bAnd .u64 b (wu64 (2 - 1))).toNat]? = some q := ⟨_, List.getElem?_eq_getElem (by omega)⟩; have fd := fb E cL
   refine si cK .u64 fa.1 cL ?_; intro g8 cM
   obtain ⟨fe, ff⟩ := fd
   refine ixA (g := c) cM (w64 (a - 1)) 65 1 fe.1 (e := 5) (k := .i64) (nog rfl _) rfl (by kernel_rfl) rfl (by kernel_rfl) (by kernel_rfl) (by kernel_rfl) ?_; intro fg ag
   refine so ag cG 0 (T := t8) (xs := d) (w64 (a - 1)).toNat (E.toNat : Int) (u := y8 (E.toNat : Int)) (nog rfl _) rfl rfl (by kernel_rfl) rfl (by kernel_rfl) rfl (by kernel_rfl) (by first | omega | (simp only [List.length_set] at *; omega)) rfl ?_; intro fh cN
   have cO : Fr 102 [] [⟨0, [], .slice none 0 0⟩, ⟨1, [], y6 b⟩, ⟨3, [], .bool u3⟩, ⟨4, [], .bool false⟩, ⟨10, [], .slice none 0 0⟩, ⟨11, [], str []⟩, ⟨12, [], pt c 0⟩, ⟨13, [], i6 (w64 (a - 1))⟩, ⟨14, [], y6 (wu64 j)⟩, ⟨15, [], y6 2⟩, ⟨16, [], y6 (wu64 (2 - 1))⟩, ⟨46, [], .bool (decide (b ≥ 2))⟩, ⟨49, [], i6 (w64 (a - 1))⟩, ⟨52, [], y6 (bAnd .u64 b (wu64 (2 - 1)))⟩, ⟨53, [], y8 (E.toNat : Int)⟩, ⟨54, [], .pointer (some ⟨c, (w64 (a - 1)).toNat * 1, none⟩)⟩] fg := by (try simp only [List.length_set] at ag); (try simp only [List.length_set]); exact ag.reg
   have cP : Mem w.heap.size [] w Z [.own t8 104 (sm c) 65 (d.set (w64 (a - 1)).toNat (E.toNat : Int))] Z fh := cN
   apply cJ
   refine rgH ?_; intro fi cQ
   refine bt cO cP 2 [] [] [(55, y6 b), (56, y6 (wu64 j))] ?_; intro g9 aH
   obtain ⟨fj, cR⟩ := ff
   refine u_ aH (y6 (bShr .u64 b (wu64 j))) (shr_run aH (g := []) (k' := .u64) rfl (by kernel_rfl) (by kernel_rfl) fj rfl) ?_; intro ha cS
   refine s1 cS 1 (y6 (bShr .u64 b (wu64 j))) ?_; intro hc fk
   apply cQ
   exact j_ (d_ ⟨⟨bShr .u64 b (wu64 j), w64 (a - 1), d.set (w64 (a - 1)).toNat (E.toNat : Int)⟩, cR.1, cR.2, (fk.reg).anyβ _ (by kernel_rfl), cP.kp⟩)
  refine x_ (y_ (y_ (z_ (t_ (sqB O cG [] [] [(13, i6 (w64 (a - 1)))] ?_))))); intro hd cT
  refine rgH ?_; intro fm cU
  refine bt cT cG 2 [] [] [(60, i6 (w64 (a - 1))), (61, y6 b)] ?_; intro he cV
  obtain ⟨fn, fo⟩ := fl
  obtain ⟨l, cW⟩ : ∃ q, ([48, 49, 50, 51, 52, 53, 54, 55, 56, 57, 97, 98, 99, 100, 101, 102, 103, 104, 105, 106, 107, 108, 109, 110, 111, 112, 113, 114, 115, 116, 117, 118, 119, 120, 121, 122] : List UInt8)[b.toNat]? = some q := ⟨_, List.getElem?_eq_getElem (by omega)⟩; have fp := fo l cW
  refine si cV .u64 fn.1 cW ?_; intro hf cX
  obtain ⟨fq, fr⟩ := fp
  refine ixA (g := c) cX (w64 (a - 1)) 65 1 fq.1 (e := 5) (k := .i64) (nog rfl _) rfl (by kernel_rfl) rfl (by kernel_rfl) (by kernel_rfl) (by kernel_rfl) ?_; intro fs ah
  refine so ah cG 0 (T := t8) (xs := d) (w64 (a - 1)).toNat (l.toNat : Int) (u := y8 (l.toNat : Int)) (nog rfl _) rfl rfl (by kernel_rfl) rfl (by kernel_rfl) rfl (by kernel_rfl) (by first | omega | (simp only [List.length_set] at *; omega)) rfl ?_; intro aI cY
  have cZ : Fr 102 [] [⟨0, [], .slice none 0 0⟩, ⟨1, [], y6 b⟩, ⟨3, [], .bool u3⟩, ⟨4, [], .bool false⟩, ⟨10, [], .slice none 0 0⟩, ⟨11, [], str []⟩, ⟨12, [], pt c 0⟩, ⟨13, [], i6 (w64 (a - 1))⟩, ⟨14, [], y6 (wu64 j)⟩, ⟨15, [], y6 2⟩, ⟨16, [], y6 (wu64 (2 - 1))⟩, ⟨46, [], .bool (decide (b ≥ 2))⟩, ⟨60, [], i6 (w64 (a - 1))⟩, ⟨61, [], y6 b⟩, ⟨62, [], y8 (l.toNat : Int)⟩, ⟨63, [], .pointer (some ⟨c, (w64 (a - 1)).toNat * 1, none⟩)⟩] fs := by (try simp only [List.length_set] at ah); (try simp only [List.length_set]); exact ah.reg
  have aJ : Mem w.heap.size [] w Z [.own t8 104 (sm c) 65 (d.set (w64 (a - 1)).toNat (l.toNat : Int))] Z aI := cY
  apply cU
  refine t_ (s_ (sqB cZ aJ [] [] [(89, .bool u3)] ?_)); intro hg aK
  refine cn aK z ?_
  refine k_ (s_ (sqB aK aJ [] [] [(94, .bool false)] ?_)); intro hh aL
  refine cdF aL (by kernel_rfl) ?_
  refine k_ (sqH ?_); intro ft c0
  refine s1 aL 99 (i6 (w64 (a - 1))) ?_; intro hi c1
  obtain ⟨c2, fu⟩ := fr
  obtain ⟨aM, c3, c4, fv⟩ := aJ.freeze 0 rfl
  have aN : Mem w.heap.size [] w Z [] aM aI := c4
  refine slA c1 (T := t8) (xs := d.set (w64 (a - 1)).toNat (l.toNat : Int)) fv 65 (w64 (a - 1)) c2.2 c2.1 (e := 5) (k := .i64) (nog rfl _) rfl (by kernel_rfl) rfl (by kernel_rfl) (by kernel_rfl) (by kernel_rfl) ?_; intro fw fx hj hk fy aO
  refine u_ aO (str (bstr ((d.set (w64 (a - 1)).toNat (l.toNat : Int)).drop (w64 (a - 1)).toNat))) (bstr_op aO (g := []) (e := 5) (ao := fw) (cap := fx) (xs := ((d.set (w64 (a - 1)).toNat (l.toNat : Int)).drop (w64 (a - 1)).toNat)) rfl (by kernel_rfl) (by kernel_rfl) (by kernel_rfl) (by kernel_rfl) fy aN.fz rfl) ?_; intro hl c5
  refine s1 c5 11 (str (bstr ((d.set (w64 (a - 1)).toNat (l.toNat : Int)).drop (w64 (a - 1)).toNat))) ?_; intro hm fA
  apply c0
  apply r_
  have fB : Mem w.heap.size [] w Z [.own t8 5 none 0 ([] : List Int)] aM aI := aN.addNil t8 5 (by decide)
  exact ra2 fA (.tuple #[.slice none ([] : List Int).length 0, str (bstr ((d.set (w64 (a - 1)).toNat (l.toNat : Int)).drop (w64 (a - 1)).toNat))]) ⟨(([] : List Int), bstr ((d.set (w64 (a - 1)).toNat (l.toNat : Int)).drop (w64 (a - 1)).toNat)), none, 0, aM, rfl, fu, fB.kp⟩
 refine sqB M B [] [] [(17, y6 2)] ?_; intro c6 c7
 refine s_ (b_ ?_)
 have c8 : Fr 102 [] [⟨0, [], .slice none 0 0⟩, ⟨1, [], y6 u1⟩, ⟨3, [], .bool u3⟩, ⟨4, [], .bool false⟩, ⟨10, [], .slice none 0 0⟩, ⟨11, [], str []⟩, ⟨12, [], pt c 0⟩, ⟨13, [], i6 65⟩, ⟨17, [], y6 2⟩] c6 := c7.reg
 obtain ⟨fD, fE, fF, fG⟩ := fC
 refine lp (ι := Int × Int × (List Int)) (fun s => [⟨0, [], .slice none 0 0⟩, ⟨1, [], y6 s.1⟩, ⟨3, [], .bool u3⟩, ⟨4, [], .bool false⟩, ⟨10, [], .slice none 0 0⟩, ⟨11, [], str []⟩, ⟨12, [], pt c 0⟩, ⟨13, [], i6 s.2.1⟩, ⟨17, [], y6 2⟩]) (fun s => [.own t8 104 (sm c) 65 s.2.2]) (fun s => Z) (fun s => fD s.1 s.2.1 s.2.2) (fun s => fE s.1 s.2.1 s.2.2) ⟨u1, 65, (List.replicate 65 (0 : Int))⟩ fF (by exact c8.reg) (by exact B) ?_
 rintro ⟨b, a, d⟩ fH fI fJ da db
 have ai := fG b a d fH
 refine s_ (sqB da db [] [] [(68, .bool (decide (b ≥ 2)))] ?_); intro hn P
 refine c_ P ai (fun _ fK => ?_) fun _ fT => ?_
 ·
  refine k_ (b_ (sqB P db [] [] [(13, i6 (w64 (a - 1)))] ?_)); intro ho dd
  refine sqB dd db [] [] [(18, y6 (wu64 (b.tdiv 2)))] ?_; intro hq de
  refine sqH ?_; intro fL df
  refine bt de db 6 [] [] [(74, i6 (w64 (a - 1))), (79, y6 (wu64 (b - (wu64 ((wu64 (b.tdiv 2)) * 2)))))] ?_; intro hr dg
  obtain ⟨fM, fN⟩ := fK
  obtain ⟨F, dh⟩ : ∃ q, ([48, 49, 50, 51, 52, 53, 54, 55, 56, 57, 97, 98, 99, 100, 101, 102, 103, 104, 105, 106, 107, 108, 109, 110, 111, 112, 113, 114, 115, 116, 117, 118, 119, 120, 121, 122] : List UInt8)[(wu64 (b - (wu64 ((wu64 (b.tdiv 2)) * 2)))).toNat]? = some q := ⟨_, List.getElem?_eq_getElem (by omega)⟩; have fO := fN F dh
  refine si dg .u64 fM.1 dh ?_; intro hs di
  obtain ⟨fP, dj⟩ := fO
  refine ixA (g := c) di (w64 (a - 1)) 65 1 fP.1 (e := 5) (k := .i64) (nog rfl _) rfl (by kernel_rfl) rfl (by kernel_rfl) (by kernel_rfl) (by kernel_rfl) ?_; intro fQ aj
  refine so aj db 0 (T := t8) (xs := d) (w64 (a - 1)).toNat (F.toNat : Int) (u := y8 (F.toNat : Int)) (nog rfl _) rfl rfl (by kernel_rfl) rfl (by kernel_rfl) rfl (by kernel_rfl) (by first | omega | (simp only [List.length_set] at *; omega)) rfl ?_; intro fR dk
  have dl : Fr 102 [] [⟨0, [], .slice none 0 0⟩, ⟨1, [], y6 b⟩, ⟨3, [], .bool u3⟩, ⟨4, [], .bool false⟩, ⟨10, [], .slice none 0 0⟩, ⟨11, [], str []⟩, ⟨12, [], pt c 0⟩, ⟨13, [], i6 (w64 (a - 1))⟩, ⟨17, [], y6 2⟩, ⟨18, [], y6 (wu64 (b.tdiv 2))⟩, ⟨68, [], .bool (decide (b ≥ 2))⟩, ⟨74, [], i6 (w64 (a - 1))⟩, ⟨79, [], y6 (wu64 (b - (wu64 ((wu64 (b.tdiv 2)) * 2))))⟩, ⟨80, [], y8 (F.toNat : Int)⟩, ⟨81, [], .pointer (some ⟨c, (w64 (a - 1)).toNat * 1, none⟩)⟩] fQ := by (try simp only [List.length_set] at aj); (try simp only [List.length_set]); exact aj.reg
  have dm : Mem w.heap.size [] w Z [.own t8 104 (sm c) 65 (d.set (w64 (a - 1)).toNat (F.toNat : Int))] Z fR := dk
  apply df
  refine rgB dl dm [] [] [(1, y6 (wu64 (b.tdiv 2)))] ?_; intro ht fS
  exact j_ (d_ ⟨⟨wu64 (b.tdiv 2), w64 (a - 1), d.set (w64 (a - 1)).toNat (F.toNat : Int)⟩, dj.1, dj.2, (fS.reg).anyβ _ (by kernel_rfl), dm.kp⟩)
 refine x_ (y_ (y_ (z_ (t_ (sqB P db [] [] [(13, i6 (w64 (a - 1)))] ?_))))); intro hu dn
 refine rgH ?_; intro fU dp
 refine bt dn db 2 [] [] [(85, i6 (w64 (a - 1))), (86, y6 b)] ?_; intro hv dq
 obtain ⟨fV, fW⟩ := fT
 obtain ⟨m, dr⟩ : ∃ q, ([48, 49, 50, 51, 52, 53, 54, 55, 56, 57, 97, 98, 99, 100, 101, 102, 103, 104, 105, 106, 107, 108, 109, 110, 111, 112, 113, 114, 115, 116, 117, 118, 119, 120, 121, 122] : List UInt8)[b.toNat]? = some q := ⟨_, List.getElem?_eq_getElem (by omega)⟩; have fX := fW m dr
 refine si dq .u64 fV.1 dr ?_; intro hw ds
 obtain ⟨fY, fZ⟩ := fX
 refine ixA (g := c) ds (w64 (a - 1)) 65 1 fY.1 (e := 5) (k := .i64) (nog rfl _) rfl (by kernel_rfl) rfl (by kernel_rfl) (by kernel_rfl) (by kernel_rfl) ?_; intro f0 ak
 refine so ak db 0 (T := t8) (xs := d) (w64 (a - 1)).toNat (m.toNat : Int) (u := y8 (m.toNat : Int)) (nog rfl _) rfl rfl (by kernel_rfl) rfl (by kernel_rfl) rfl (by kernel_rfl) (by first | omega | (simp only [List.length_set] at *; omega)) rfl ?_; intro aQ dt
 have du : Fr 102 [] [⟨0, [], .slice none 0 0⟩, ⟨1, [], y6 b⟩, ⟨3, [], .bool u3⟩, ⟨4, [], .bool false⟩, ⟨10, [], .slice none 0 0⟩, ⟨11, [], str []⟩, ⟨12, [], pt c 0⟩, ⟨13, [], i6 (w64 (a - 1))⟩, ⟨17, [], y6 2⟩, ⟨68, [], .bool (decide (b ≥ 2))⟩, ⟨85, [], i6 (w64 (a - 1))⟩, ⟨86, [], y6 b⟩, ⟨87, [], y8 (m.toNat : Int)⟩, ⟨88, [], .pointer (some ⟨c, (w64 (a - 1)).toNat * 1, none⟩)⟩] f0 := by (try simp only [List.length_set] at ak); (try simp only [List.length_set]); exact ak.reg
 have aR : Mem w.heap.size [] w Z [.own t8 104 (sm c) 65 (d.set (w64 (a - 1)).toNat (m.toNat : Int))] Z aQ := dt
 apply dp
 refine t_ (s_ (sqB du aR [] [] [(89, .bool u3)] ?_)); intro hx aS
 refine cn aS z ?_
 refine k_ (s_ (sqB aS aR [] [] [(94, .bool false)] ?_)); intro hy aT
 refine cdF aT (by kernel_rfl) ?_
 refine k_ (sqH ?_); intro f1 dv
 refine s1 aT 99 (i6 (w64 (a - 1))) ?_; intro hz dw
 obtain ⟨dx, f2⟩ := fZ
 obtain ⟨aU, dy, dz, f3⟩ := aR.freeze 0 rfl
 have aV : Mem w.heap.size [] w Z [] aU aQ := dz
 refine slA dw (T := t8) (xs := d.set (w64 (a - 1)).toNat (m.toNat : Int)) f3 65 (w64 (a - 1)) dx.2 dx.1 (e := 5) (k := .i64) (nog rfl _) rfl (by kernel_rfl) rfl (by kernel_rfl) (by kernel_rfl) (by kernel_rfl) ?_; intro f4 f5 hA hB f6 aW
 refine u_ aW (str (bstr ((d.set (w64 (a - 1)).toNat (m.toNat : Int)).drop (w64 (a - 1)).toNat))) (bstr_op aW (g := []) (e := 5) (ao := f4) (cap := f5) (xs := ((d.set (w64 (a - 1)).toNat (m.toNat : Int)).drop (w64 (a - 1)).toNat)) rfl (by kernel_rfl) (by kernel_rfl) (by kernel_rfl) (by kernel_rfl) f6 aV.fz rfl) ?_; intro hC dA
 refine s1 dA 11 (str (bstr ((d.set (w64 (a - 1)).toNat (m.toNat : Int)).drop (w64 (a - 1)).toNat))) ?_; intro hD f7
 apply dv
 apply r_
 have f8 : Mem w.heap.size [] w Z [.own t8 5 none 0 ([] : List Int)] aU aQ := aV.addNil t8 5 (by decide)
 exact ra2 f7 (.tuple #[.slice none ([] : List Int).length 0, str (bstr ((d.set (w64 (a - 1)).toNat (m.toNat : Int)).drop (w64 (a - 1)).toNat))]) ⟨(([] : List Int), bstr ((d.set (w64 (a - 1)).toNat (m.toNat : Int)).drop (w64 (a - 1)).toNat)), none, 0, aU, rfl, f2, f8.kp⟩

end Go.Proofs.YtocpdhcjkfmmnaaDoor
set_option linter.unusedVariables false
set_option linter.unusedSimpArgs false
set_option linter.defProp false
set_option maxRecDepth 100000
set_option maxHeartbeats 0
namespace Go.Proofs.YtocpdhcjkfmmnaaDoor
open Go.Sy Go.RowKit
def fbits_fun (u1 : Int) (u3 : Bool) (hpre : u3 = false ∧ 0 ≤ u1 ∧ u1 ≤ 9223372036854775807)  (Z : Fz) (w : World) (hg3 : SlR t8 Z (sm 3) 64 deBruijn64) (hZ : Z.on w) := fc_ (fbits_walk u1 u3  Z w hg3 hZ (fbits_ok u1 u3 hpre))
theorem fint0_walk (u0 : Int)  (Z : Fz) (w : World) (hg3 : SlR t8 Z (sm 3) 64 deBruijn64) (hZ : Z.on w) {K : (List UInt8) → Prop} (hp : fint0_vc u0 K) : Calls Tryd.prog 55 #[i6 u0, i6 2] w fun e w' => ∃ r : (List UInt8), e = .returned (str r) ∧ K r ∧ Below w.heap.size w w' := by
 refine enter0 Tryd.func55 rfl rfl (by kernel_rfl) ?_; intro y d; have a := Mem.start w Z hZ
 refine sqB d a [] [] [] ?_; intro z g
 refine s_ (sqB g a [] [] [(11, .bool false)] ?_); intro A c
 refine cdF c (by kernel_rfl) ?_
 refine k_ (sqH ?_); intro o h
 refine bt c a 5 [] [] [(46, y6 (wu64 u0)), (47, i6 2), (49, .bool (decide (u0 < 0)))] ?_; intro B i
 obtain ⟨p, j⟩ := hp
 refine ck i 67 #[.slice none 0 0, y6 (wu64 u0), i6 2, .bool (decide (u0 < 0)), .bool false] ?_
 refine (fbits_fun (wu64 u0) (decide (u0 < 0)) p _ _ hg3 a.fz).mono ?_; rintro _ q ⟨s, t, u, rfl, hm⟩; refine ⟨_, rfl, ?_⟩; intro C k; have l := a.callZ hm
 have b : Mem w.heap.size [] w Z [.own t8 5 s t (fbitsS (wu64 u0) (decide (u0 < 0))).1] u q := l
 have v := j (b.ownSmall 0 rfl)
 refine bt k b 5 [] [] [(9, str (fbitsS (wu64 u0) (decide (u0 < 0))).2)] ?_; intro D n
 apply h
 refine sqB n b [] [] [(4, str (fbitsS (wu64 u0) (decide (u0 < 0))).2)] ?_; intro E x
 exact r_ (ra1 x (str (fbitsS (wu64 u0) (decide (u0 < 0))).2) ⟨(fbitsS (wu64 u0) (decide (u0 < 0))).2, rfl, v, b.below⟩)

end Go.Proofs.YtocpdhcjkfmmnaaDoor
set_option linter.unusedVariables false
set_option linter.unusedSimpArgs false
set_option linter.defProp false
set_option maxRecDepth 100000
set_option maxHeartbeats 0
namespace Go.Proofs.YtocpdhcjkfmmnaaDoor
open Go.Sy Go.RowKit
def fint0_fun (u0 : Int) (hpre : 0 ≤ u0 ∧ u0 ≤ 9223372036854775807)  (Z : Fz) (w : World) (hg3 : SlR t8 Z (sm 3) 64 deBruijn64) (hZ : Z.on w) := f_ (fint0_walk u0  Z w hg3 hZ (fint_ok u0 hpre))
theorem fint1_walk (u0 : Int)  (Z : Fz) (w : World) (hg3 : SlR t8 Z (sm 3) 64 deBruijn64) (hZ : Z.on w) {K : (List UInt8) → Prop} (hp : fint1_vc u0 K) : Calls Tryd.prog 47 #[i6 u0, i6 2] w fun e w' => ∃ r : (List UInt8), e = .returned (str r) ∧ K r ∧ Below w.heap.size w w' := by
 refine enter0 Tryd.func47 rfl rfl (by kernel_rfl) ?_; intro m b; have a := Mem.start w Z hZ
 refine sqB b a [] [] [] ?_; intro o c
 refine sqH ?_; intro h d
 refine bt c a 2 [] [] [(5, i6 u0), (6, i6 2)] ?_; intro p f
 obtain ⟨i, j⟩ := hp
 refine fc f a (fint0_fun u0 i _ _ hg3 a.fz) ?_; intro q s g k
 refine s1 g 4 (str (fintS u0)) ?_; intro t l
 apply d
 exact r_ (ra1 l (str (fintS u0)) ⟨(fintS u0), rfl, j, k.below⟩)

theorem rrow_walk (u0 : Int) (u1 : Int)  (Z : Fz) (w : World) (hg3 : SlR t8 Z (sm 3) 64 deBruijn64) (hZ : Z.on w) {K : ((List UInt8) × Bool) → Prop} (hp : rrow_vc u0 u1 K) : Calls Tryd.prog 36 #[i6 u0, i6 u1] w fun e w' => ∃ r : (List UInt8) × Bool, e = .returned (.tuple #[str r.1, .bool r.2]) ∧ K r ∧ Below w.heap.size w w' := by
 refine enter0 Tryd.func36 rfl rfl (by kernel_rfl) ?_; intro a0 m; have a := Mem.start w Z hZ
 refine sqB m a [] [] [] ?_; intro a4 n
 refine sqB n a [] [] [(6, str [])] ?_; intro a7 o
 refine s_ (sqB o a [] [] [(8, .bool (decide (u0 > 0)))] ?_); intro af d
 refine cd d (t := decide (u0 > 0)) (by kernel_rfl) (fun j => ?_) (fun j => ?_)
 · -- yes
  have I := hp.1 j
  refine rgH ?_; intro J p
  refine s1 d 9 (i6 u0) ?_; intro ag q
  refine ck q 47 #[i6 u0, i6 2] ?_
  refine (fint1_walk u0 _ _ hg3 a.fz I).mono ?_; rintro _ ah ⟨b, rfl, h, hb⟩; refine ⟨_, rfl, ?_⟩; intro ai s; have c := a.call hb
  refine s1 s 6 (str b) ?_; intro aj u
  apply p
  refine t_ (s_ (sqB u c [] [] [(14, .bool (decide ((b.length : Int) > u1)))] ?_)); intro ak f
  refine cd f (t := decide ((b.length : Int) > u1)) (by kernel_rfl) (fun k => ?_) (fun k => ?_)
  · -- yes
   have L := h.1 k
   refine sqB f c [] [] [(4, str []), (5, .bool false)] ?_; intro al M
   exact r_ (h_ (ra2 M (.tuple #[str [], .bool false]) ⟨([], false), rfl, L, c.below⟩))
  · -- no
   have N := h.2 k
   refine k_ (sqH ?_); intro O v
   refine bt f c 4 [] [] [(18, i6 (w64 (u1 - (b.length : Int))))] ?_; intro am x
   obtain ⟨P, Q⟩ := N
   refine fc x c (srep_fun ([48] : List UInt8) (w64 (u1 - (b.length : Int))) P _ _ c.fz) ?_; intro an ao y z
   refine s1 y 20 (str b) ?_; intro ap A
   obtain ⟨R, S⟩ := Q
   refine sa A R ?_; intro aq B
   refine bt B z 2 [] [] [(4, str ((srepS ([48] : List UInt8) (w64 (u1 - (b.length : Int)))) ++ b)), (5, .bool true)] ?_; intro ar T
   apply v
   exact r_ (ra2 T (.tuple #[str ((srepS ([48] : List UInt8) (w64 (u1 - (b.length : Int)))) ++ b), .bool true]) ⟨((srepS ([48] : List UInt8) (w64 (u1 - (b.length : Int)))) ++ b, true), rfl, S, z.below⟩)
 · -- no
  have i := hp.2 j
  refine k_ (s_ (sqB d a [] [] [(14, .bool (decide (0 > u1)))] ?_)); intro au g
  refine cd g (t := decide (0 > u1)) (by kernel_rfl) (fun l => ?_) (fun l => ?_)
  · -- yes
   have U := i.1 l
   refine sqB g a [] [] [(4, str []), (5, .bool false)] ?_; intro av V
   exact r_ (h_ (ra2 V (.tuple #[str [], .bool false]) ⟨([], false), rfl, U, a.below⟩))
  · -- no
   have W := i.2 l
   refine k_ (sqH ?_); intro X C
   refine bt g a 4 [] [] [(18, i6 (w64 (u1 - 0)))] ?_; intro aw D
   obtain ⟨Y, aa⟩ := W
   refine fc D a (srep_fun ([48] : List UInt8) (w64 (u1 - 0)) Y _ _ a.fz) ?_; intro ax ay E F
   refine s1 E 20 (str []) ?_; intro az G
   obtain ⟨ab, ac⟩ := aa
   refine sa G ab ?_; intro aA H
   refine bt H F 2 [] [] [(4, str ((srepS ([48] : List UInt8) (w64 (u1 - 0))) ++ ([] : List UInt8))), (5, .bool true)] ?_; intro aB ad
   apply C
   exact r_ (ra2 ad (.tuple #[str ((srepS ([48] : List UInt8) (w64 (u1 - 0))) ++ ([] : List UInt8)), .bool true]) ⟨((srepS ([48] : List UInt8) (w64 (u1 - 0))) ++ ([] : List UInt8), true), rfl, ac, F.below⟩)

end Go.Proofs.YtocpdhcjkfmmnaaDoor
set_option linter.unusedVariables false
set_option linter.unusedSimpArgs false
set_option linter.defProp false
namespace Go.Proofs.YtocpdhcjkfmmnaaDoor
open Go.Sy Go.RowKit
def rrow_fun (u0 : Int) (u1 : Int) (hpre : u0 ≤ 9223372036854775807 ∧ u1 ≤ 1000000)  (Z : Fz) (w : World) (hg3 : SlR t8 Z (sm 3) 64 deBruijn64) (hZ : Z.on w) := f_ (rrow_walk u0 u1  Z w hg3 hZ (rrow_ok u0 u1 hpre))
end Go.Proofs.YtocpdhcjkfmmnaaDoor
set_option linter.unusedVariables false
set_option linter.unusedSimpArgs false
namespace Go.Proofs.YtocpdhcjkfmmnaaDoor
open Go.Sy Go.RowKit

end Go.Proofs.YtocpdhcjkfmmnaaDoor
namespace Go.Proofs
open Go.Shelf
def Tryd.lays106_ren : Go.Shelf.Ren := ⟨fun | 106 => 23 | 213 => 38 | 265 => 51 | n => n, fun | 9 => 9 | 3 => 3 | n => n, fun | n => n⟩
theorem Tryd.lays106 : Go.Proofs.Lays.n106 Tryd.prog Tryd.lays106_ren := {
  mixed := by kernel_rfl
  f106 := Tryd.func23.trans (congrArg some (by kernel_rfl))
  f213 := Tryd.func38.trans (congrArg some (by kernel_rfl))
  f265 := Tryd.func51.trans (congrArg some (by kernel_rfl))
  t3 := Tryd.underlying3
  a3 := Tryd.isAgg3
  z3 := Tryd.sizeOf3
  v3 := Tryd.zeroValue3
  t9 := Tryd.underlying9
  a9 := Tryd.isAgg9
  z9 := Tryd.sizeOf9
  v9 := Tryd.zeroValue9 }
end Go.Proofs
set_option linter.unusedVariables false
set_option linter.unusedSimpArgs false
set_option linter.defProp false
set_option maxRecDepth 100000
set_option maxHeartbeats 0
namespace Go.Proofs.YtocpdhcjkfmmnaaDoor
open Go.Sy Go.RowKit
def queued_fun   (Z : Fz) (w : World)  (hZ : Z.on w) := f_ (queued_walk   Z w  hZ (queued_ok ))
theorem scmp_eq : ∀ a b : List UInt8, Lib.compareBytes a b = scmpS a b
  -- by hand
  | [], [] => rfl
  | [], _ :: _ => rfl
  | _ :: _, [] => rfl
  | a :: p, b :: q => by
    rw [Lib.compareBytes, scmpS, scmp_eq p q]

theorem scmp_fun (u0 : List UInt8) (u1 : List UInt8) (Z : Fz) (w : World) (hZ : Z.on w) : Calls Tryd.prog 23 #[str u0, str u1] w fun e w' => e = .returned (i6 (scmpS u0 u1)) ∧ Below w.heap.size w w' := by
  exact (Any.strings_Compare Tryd.lays106 ⟨⟨u0⟩⟩ ⟨⟨u1⟩⟩ w).mono fun _ _ ⟨h1, h2⟩ => ⟨by rw [h1, scmp_eq], h2 ▸ Below.refl _ _⟩

theorem rname_walk (u0 : Frame) (ao1 : Option Addr) (cap2 : Nat) (Z : Fz) (w : World) (hs3 : SlR t8 Z ao1 cap2 u0.Data) (hg3 : SlR t8 Z (sm 3) 64 deBruijn64) (hZ : Z.on w) {K : (List UInt8) → Prop} (hp : rname_vc u0 K) : Calls Tryd.prog 19 #[.agg #[i6 u0.ID, .bool u0.Long, .bool u0.Fast, .bool u0.Remote, i6 u0.Size, .slice ao1 u0.Data.length cap2]] w fun e w' => ∃ r : (List UInt8), e = .returned (str r) ∧ K r ∧ Below w.heap.size w w' := by
 refine enter0 Tryd.func19 rfl rfl (by kernel_rfl) ?_; intro a0 E; have F := Mem.start w Z hZ
 have f := hp (hs3.small)
 refine sqH ?_; intro ax G
 refine nw E F pb [i6 u0.ID, .bool u0.Long, .bool u0.Fast, .bool u0.Remote, i6 u0.Size, .slice ao1 u0.Data.length cap2] 30 ?_; intro b6 a7 bw H a
 refine s1 H 2 (str []) ?_; intro bx I
 apply G
 refine sqB I a [] [] [(3, str ([48] : List UInt8))] ?_; intro bz J
 refine s_ (sqB J a [0] [] [(9, .bool u0.Remote)] ?_); intro bA b
 refine cd b (t := u0.Remote) (by kernel_rfl) (fun j => ?_) (fun j => ?_)
 · -- yes
  have h := f.1 j
  refine rgB b a [] [] [(3, str ([49] : List UInt8))] ?_; intro bB L
  refine t_ (s_ (sqB L a [0] [] [(11, .bool u0.Long)] ?_)); intro bC c
  refine cd c (t := u0.Long) (by kernel_rfl) (fun l => ?_) (fun l => ?_)
  · -- yes
   have ay := h.1 l
   refine sqH ?_; intro az M
   refine bt c a 2 [0] [] [(14, i6 u0.ID)] ?_; intro bD N
   obtain ⟨aA, aB⟩ := ay
   refine fc N a (rrow_fun u0.ID 29 aA _ _ hg3 a.fz) ?_; intro bE bF O m
   refine bt O m 5 [] [] [(4, str (rrowS u0.ID 29).1)] ?_; intro aC P
   apply M
   have Q : Fr 36 [] [⟨3, [], str ([49] : List UInt8)⟩, ⟨4, [], str (rrowS u0.ID 29).1⟩] aC := P.reg
   refine sqQH mixed (by kernel_rfl) m ?_; intro aD R
   refine q1 Q 18 (str (rrowS u0.ID 29).1) ?_; intro bG n
   obtain ⟨aE, aF⟩ := aB
   refine qu_ n (str ((rrowS u0.ID 29).1.take (11 : Int).toNat)) (fun v59 hC => strslH_run n (g := []) (k := .i64) rfl (by kernel_rfl) (by kernel_rfl) (by kernel_rfl) aE rfl) ?_; intro bH o
   obtain ⟨aG, aH⟩ := aF
   refine qu_ o (str (((rrowS u0.ID 29).1.take (11 : Int).toNat) ++ ([49, 49] : List UInt8))) (fun v64 hC => stradd_run o (g := []) rfl (by kernel_rfl) (by kernel_rfl) aG rfl) ?_; intro bI S
   refine q1 S 21 (str (rrowS u0.ID 29).1) ?_; intro bJ p
   obtain ⟨aI, aJ⟩ := aH
   refine qu_ p (str ((rrowS u0.ID 29).1.drop (11 : Int).toNat)) (fun v72 hC => strslL_run p (g := []) (k := .i64) rfl (by kernel_rfl) (by kernel_rfl) (by kernel_rfl) aI rfl) ?_; intro bK q
   obtain ⟨aK, aL⟩ := aJ
   refine qu_ q (str ((((rrowS u0.ID 29).1.take (11 : Int).toNat) ++ ([49, 49] : List UInt8)) ++ ((rrowS u0.ID 29).1.drop (11 : Int).toNat))) (fun v77 hC => stradd_run q (g := []) rfl (by kernel_rfl) (by kernel_rfl) aK rfl) ?_; intro bL T
   refine q1 T 24 (str ([49] : List UInt8)) ?_; intro bM s
   obtain ⟨aM, aN⟩ := aL
   refine qu_ s (str (((((rrowS u0.ID 29).1.take (11 : Int).toNat) ++ ([49, 49] : List UInt8)) ++ ((rrowS u0.ID 29).1.drop (11 : Int).toNat)) ++ ([49] : List UInt8))) (fun v85 hC => stradd_run s (g := []) rfl (by kernel_rfl) (by kernel_rfl) aM rfl) ?_; intro bN U
   refine q1 U 2 (str (((((rrowS u0.ID 29).1.take (11 : Int).toNat) ++ ([49, 49] : List UInt8)) ++ ((rrowS u0.ID 29).1.drop (11 : Int).toNat)) ++ ([49] : List UInt8))) ?_; intro bO aO
   refine qnl (R _ ?_); intro bP aP
   exact r_ (h_ (ra1 aO (str (((((rrowS u0.ID 29).1.take (11 : Int).toNat) ++ ([49, 49] : List UInt8)) ++ ((rrowS u0.ID 29).1.drop (11 : Int).toNat)) ++ ([49] : List UInt8))) ⟨((((rrowS u0.ID 29).1.take (11 : Int).toNat) ++ ([49, 49] : List UInt8)) ++ ((rrowS u0.ID 29).1.drop (11 : Int).toNat)) ++ ([49] : List UInt8), rfl, aN, aP.below⟩))
  · -- no
   have aQ := h.2 l
   refine k_ (sqH ?_); intro aR V
   refine bt c a 2 [0] [] [(28, i6 u0.ID)] ?_; intro bQ W
   obtain ⟨aS, aT⟩ := aQ
   refine fc W a (rrow_fun u0.ID 11 aS _ _ hg3 a.fz) ?_; intro bR bS X u
   refine bt X u 5 [] [] [(6, str (rrowS u0.ID 11).1)] ?_; intro bT Y
   apply V
   refine sqH ?_; intro aU aa
   refine bt Y u 2 [] [] [(32, str (rrowS u0.ID 11).1), (33, str ([49] : List UInt8))] ?_; intro bU ab
   obtain ⟨aV, aW⟩ := aT
   refine sa ab aV ?_; intro bV ac
   obtain ⟨aX, aY⟩ := aW
   refine sa ac aX ?_; intro bW ad
   refine s1 ad 2 (str (((rrowS u0.ID 11).1 ++ ([49] : List UInt8)) ++ ([48] : List UInt8))) ?_; intro bX aZ
   apply aa
   exact r_ (ra1 aZ (str (((rrowS u0.ID 11).1 ++ ([49] : List UInt8)) ++ ([48] : List UInt8))) ⟨((rrowS u0.ID 11).1 ++ ([49] : List UInt8)) ++ ([48] : List UInt8), rfl, aY, u.below⟩)
 · -- no
  have i := f.2 j
  refine k_ (s_ (sqB b a [0] [] [(11, .bool u0.Long)] ?_)); intro bY d
  refine cd d (t := u0.Long) (by kernel_rfl) (fun v => ?_) (fun v => ?_)
  · -- yes
   have a1 := i.1 v
   refine sqH ?_; intro a2 ae
   refine bt d a 2 [0] [] [(14, i6 u0.ID)] ?_; intro bZ af
   obtain ⟨a3, a4⟩ := a1
   refine fc af a (rrow_fun u0.ID 29 a3 _ _ hg3 a.fz) ?_; intro b0 b1 ag x
   refine bt ag x 5 [] [] [(4, str (rrowS u0.ID 29).1)] ?_; intro a5 ah
   apply ae
   have ai : Fr 36 [] [⟨3, [], str ([48] : List UInt8)⟩, ⟨4, [], str (rrowS u0.ID 29).1⟩] a5 := ah.reg
   refine sqQH mixed (by kernel_rfl) x ?_; intro a6 aj
   refine q1 ai 18 (str (rrowS u0.ID 29).1) ?_; intro b2 y
   obtain ⟨a8, a9⟩ := a4
   refine qu_ y (str ((rrowS u0.ID 29).1.take (11 : Int).toNat)) (fun v166 hC => strslH_run y (g := []) (k := .i64) rfl (by kernel_rfl) (by kernel_rfl) (by kernel_rfl) a8 rfl) ?_; intro b3 z
   obtain ⟨ba, bb⟩ := a9
   refine qu_ z (str (((rrowS u0.ID 29).1.take (11 : Int).toNat) ++ ([49, 49] : List UInt8))) (fun v171 hC => stradd_run z (g := []) rfl (by kernel_rfl) (by kernel_rfl) ba rfl) ?_; intro b4 ak
   refine q1 ak 21 (str (rrowS u0.ID 29).1) ?_; intro b5 A
   obtain ⟨bc, bd⟩ := bb
   refine qu_ A (str ((rrowS u0.ID 29).1.drop (11 : Int).toNat)) (fun v179 hC => strslL_run A (g := []) (k := .i64) rfl (by kernel_rfl) (by kernel_rfl) (by kernel_rfl) bc rfl) ?_; intro b7 B
   obtain ⟨be, bf⟩ := bd
   refine qu_ B (str ((((rrowS u0.ID 29).1.take (11 : Int).toNat) ++ ([49, 49] : List UInt8)) ++ ((rrowS u0.ID 29).1.drop (11 : Int).toNat))) (fun v184 hC => stradd_run B (g := []) rfl (by kernel_rfl) (by kernel_rfl) be rfl) ?_; intro b8 al
   refine q1 al 24 (str ([48] : List UInt8)) ?_; intro b9 C
   obtain ⟨bg, bh⟩ := bf
   refine qu_ C (str (((((rrowS u0.ID 29).1.take (11 : Int).toNat) ++ ([49, 49] : List UInt8)) ++ ((rrowS u0.ID 29).1.drop (11 : Int).toNat)) ++ ([48] : List UInt8))) (fun v192 hC => stradd_run C (g := []) rfl (by kernel_rfl) (by kernel_rfl) bg rfl) ?_; intro ca am
   refine q1 am 2 (str (((((rrowS u0.ID 29).1.take (11 : Int).toNat) ++ ([49, 49] : List UInt8)) ++ ((rrowS u0.ID 29).1.drop (11 : Int).toNat)) ++ ([48] : List UInt8))) ?_; intro cb bi
   refine qnl (aj _ ?_); intro cc bj
   exact r_ (h_ (ra1 bi (str (((((rrowS u0.ID 29).1.take (11 : Int).toNat) ++ ([49, 49] : List UInt8)) ++ ((rrowS u0.ID 29).1.drop (11 : Int).toNat)) ++ ([48] : List UInt8))) ⟨((((rrowS u0.ID 29).1.take (11 : Int).toNat) ++ ([49, 49] : List UInt8)) ++ ((rrowS u0.ID 29).1.drop (11 : Int).toNat)) ++ ([48] : List UInt8), rfl, bh, bj.below⟩))
  · -- no
   have bk := i.2 v
   refine k_ (sqH ?_); intro bl an
   refine bt d a 2 [0] [] [(28, i6 u0.ID)] ?_; intro ce ao
   obtain ⟨bm, bn⟩ := bk
   refine fc ao a (rrow_fun u0.ID 11 bm _ _ hg3 a.fz) ?_; intro cf cg ap D
   refine bt ap D 5 [] [] [(6, str (rrowS u0.ID 11).1)] ?_; intro ch aq
   apply an
   refine sqH ?_; intro bo ar
   refine bt aq D 2 [] [] [(32, str (rrowS u0.ID 11).1), (33, str ([48] : List UInt8))] ?_; intro ci au
   obtain ⟨bp, bq⟩ := bn
   refine sa au bp ?_; intro cj av
   obtain ⟨br, bs⟩ := bq
   refine sa av br ?_; intro ck aw
   refine s1 aw 2 (str (((rrowS u0.ID 11).1 ++ ([48] : List UInt8)) ++ ([48] : List UInt8))) ?_; intro cl bu
   apply ar
   exact r_ (ra1 bu (str (((rrowS u0.ID 11).1 ++ ([48] : List UInt8)) ++ ([48] : List UInt8))) ⟨((rrowS u0.ID 11).1 ++ ([48] : List UInt8)) ++ ([48] : List UInt8), rfl, bs, D.below⟩)

theorem beq_walk (u0 : List Int) (u1 : List Int) (ao1 : Option Addr) (cap2 : Nat) (ao4 : Option Addr) (cap5 : Nat) (Z : Fz) (w : World) (hs3 : SlR t8 Z ao1 cap2 u0) (hs6 : SlR t8 Z ao4 cap5 u1) (hZ : Z.on w) {K : Bool → Prop} (hp : beq_vc u0 u1 K) : Calls Tryd.prog 33 #[.slice ao1 u0.length cap2, .slice ao4 u1.length cap5] w fun e w' => ∃ r : Bool, e = .returned (.bool r) ∧ K r ∧ Below w.heap.size w w' := by
 refine enter0 Tryd.func33 rfl rfl (by kernel_rfl) ?_; intro a0 y; have b := Mem.start w Z hZ
 have l := hp (hs3.small) (hs6.small)
 refine sqB y b [] [] [] ?_; intro aD A
 refine s_ (sqB A b [] [] [(10, .bool ((u0.length : Int) != (u1.length : Int)))] ?_); intro aE d
 refine cd d (t := (u0.length : Int) != (u1.length : Int)) (by kernel_rfl) (fun p => ?_) (fun p => ?_)
 · -- yes
  have W := l.1 p
  refine sqB d b [] [] [(4, .bool false)] ?_; intro aF X
  exact r_ (h_ (ra1 X (.bool false) ⟨false, rfl, W, b.below⟩))
 · -- no
  have Y := l.2 p
  refine k_ (s_ (sqB d b [] [] [(12, i6 (u0.length : Int)), (13, i6 0)] ?_)); intro B C
  apply b_
  have D : Fr 26 [] [⟨0, [], .slice ao1 u0.length cap2⟩, ⟨1, [], .slice ao4 u1.length cap5⟩, ⟨12, [], i6 (u0.length : Int)⟩, ⟨13, [], i6 0⟩] B := C.reg
  obtain ⟨aa, ab, ac, ad⟩ := Y
  refine lp (ι := Int) (fun s => [⟨0, [], .slice ao1 u0.length cap2⟩, ⟨1, [], .slice ao4 u1.length cap5⟩, ⟨12, [], i6 (u0.length : Int)⟩, ⟨13, [], i6 s⟩]) (fun s => []) (fun s => Z) (fun s => aa s) (fun s => ab s) 0 ac (by exact D.region (by kernel_rfl) (by kernel_rfl)) (by exact b) ?_
  rintro a ae af ag F G
  have m := ad a ae
  refine sqB F G [] [] [(14, .bool (decide (a < (u0.length : Int))))] ?_; intro aG f
  apply s_
  refine cd f (t := decide (a < (u0.length : Int))) (by kernel_rfl) (fun q => ?_) (fun q => ?_)
  · -- yes
   have ah := m.1 q
   refine k_ (s_ (b_ (sqB f G [] [] [(5, i6 a)] ?_))); intro ai I
   have J : Fr 26 [] [⟨0, [], .slice ao1 u0.length cap2⟩, ⟨1, [], .slice ao4 u1.length cap5⟩, ⟨5, [], i6 a⟩, ⟨12, [], i6 (u0.length : Int)⟩, ⟨13, [], i6 a⟩] ai := I.reg
   refine sqQH mixed (by kernel_rfl) G ?_; intro aj L
   refine q1 J 16 (.slice ao1 u0.length cap2) ?_; intro aH M
   refine q1 M 17 (i6 a) ?_; intro aI N
   obtain ⟨ak, O⟩ := ah
   refine qx_ N hs3 a ak .i64 5 1 ?_; intro aJ aK al h aL am an ao u
   have ap := O h am
   obtain rfl : al = ([y8 h] : List Value) := ao
   refine qz_ u an 0 (y8 h) rfl ?_; intro aM P
   refine q1 P 20 (.slice ao4 u1.length cap5) ?_; intro aN Q
   refine q1 Q 21 (i6 a) ?_; intro aO R
   obtain ⟨aq, S⟩ := ap
   refine qx_ R hs6 a aq .i64 5 1 ?_; intro aP aQ ar i aR au av aw v
   have n := S i au
   obtain rfl : ar = ([y8 i] : List Value) := aw
   refine qz_ v av 0 (y8 i) rfl ?_; intro aS U
   refine q1 U 24 (.bool (h != i)) ?_; intro aT j
   refine qnl (L _ ?_); intro aU o
   refine cd j (t := h != i) (by kernel_rfl) (fun x => ?_) (fun x => ?_)
   · -- yes
    have ax := n.1 x
    refine sqB j o [] [] [(4, .bool false)] ?_; intro aV ay
    exact r_ (i_ (h_ (h_ (i_ (h_ (ra1 ay (.bool false) ⟨false, rfl, ax, o.below⟩))))))
   · -- no
    have V := n.2 x
    refine l_ (j_ (t_ (rgB j o [] [] [(13, i6 (w64 (a + 1)))] ?_))); intro aW az
    exact d_ ⟨w64 (a + 1), V.1, V.2, (az.region (by kernel_rfl) (by kernel_rfl)).anyβ _ (by kernel_rfl), o.kp⟩
  · -- no
   have aA := m.2 q
   refine x_ (y_ (y_ (z_ (t_ (sqB f G [] [] [(4, .bool true)] ?_))))); intro aX aB
   exact r_ (ra1 aB (.bool true) ⟨true, rfl, aA, G.below⟩)

end Go.Proofs.YtocpdhcjkfmmnaaDoor
set_option linter.unusedVariables false
set_option linter.unusedSimpArgs false
set_option linter.defProp false
set_option maxRecDepth 100000
set_option maxHeartbeats 0
namespace Go.Proofs.YtocpdhcjkfmmnaaDoor
open Go.Sy Go.RowKit
abbrev e30Kr (X : Frame) (A0 : Option Addr) (C0 : Nat) : List Value := [i6 X.ID, .bool X.Long, .bool X.Fast, .bool X.Remote, i6 X.Size, .slice A0 X.Data.length C0]
def rname_fun (u0 : Frame) (hpre : fcheckfr u0 = 0) (ao1 : Option Addr) (cap2 : Nat) (Z : Fz) (w : World) (hs3 : SlR t8 Z ao1 cap2 u0.Data) (hg3 : SlR t8 Z (sm 3) 64 deBruijn64) (hZ : Z.on w) := f_ (rname_walk u0 ao1 cap2 Z w hs3 hg3 hZ (rname_ok u0 hpre))
def beq_fun (u0 : List Int) (u1 : List Int) (ao1 : Option Addr) (cap2 : Nat) (ao4 : Option Addr) (cap5 : Nat) (Z : Fz) (w : World) (hs3 : SlR t8 Z ao1 cap2 u0) (hs6 : SlR t8 Z ao4 cap5 u1) (hZ : Z.on w) := f_ (beq_walk u0 u1 ao1 cap2 ao4 cap5 Z w hs3 hs6 hZ (beq_ok u0 u1))
theorem fSame_walk (u0 : Frame) (u1 : Frame) (ao1 : Option Addr) (cap2 : Nat) (ao4 : Option Addr) (cap5 : Nat) (Z : Fz) (w : World) (hs3 : SlR t8 Z ao1 cap2 u0.Data) (hs6 : SlR t8 Z ao4 cap5 u1.Data) (hZ : Z.on w) {K : Bool → Prop} (hp : fSame_vc u0 u1 K) : Calls Tryd.prog 24 #[.agg #[i6 u0.ID, .bool u0.Long, .bool u0.Fast, .bool u0.Remote, i6 u0.Size, .slice ao1 u0.Data.length cap2], .agg #[i6 u1.ID, .bool u1.Long, .bool u1.Fast, .bool u1.Remote, i6 u1.Size, .slice ao4 u1.Data.length cap5]] w fun e w' => ∃ r : Bool, e = .returned (.bool r) ∧ K r ∧ Below w.heap.size w w' := by
 refine enter0 Tryd.func24 rfl rfl (by kernel_rfl) ?_; intro a0 z; have A := Mem.start w Z hZ
 have ao := hp (hs3.small) (hs6.small)
 refine sqH ?_; intro ap C
 refine nw z A pb (e30Kr u0 ao1 cap2) 30 ?_; intro c aw ax D E
 refine nw D E pb (e30Kr u1 ao4 cap5) 30 ?_; intro d ay az F a
 refine s1 F 4 (.bool false) ?_; intro aA G
 apply C
 refine sqH ?_; intro aq H
 refine s1 G 5 (pt c 0) ?_; intro aB I
 refine l1 I a 6 1 0 (i6 u0.ID) rfl rfl ?_; intro aC J
 refine s1 J 7 (pt d 0) ?_; intro aD L
 refine l1 L a 8 0 0 (i6 u1.ID) rfl rfl ?_; intro aE M
 refine s1 M 9 (.bool (u0.ID == u1.ID)) ?_; intro aF N
 refine s1 N 10 (.bool (u0.ID == u1.ID)) ?_; intro aG O
 have P := O.atom ((u0.ID == u1.ID) == true) (by kernel_rfl)
 refine gp P 11 0 [] (u0.ID == u1.ID) (pt c 1) rfl rfl ?_; intro aH f
 refine gd f (.bool u0.Long) (m := 0) (cj := []) (bj := u0.ID == u1.ID) rfl rfl (by kernel_rfl) rfl (by kernel_rfl) (by kernel_rfl) (by kernel_rfl) (fun hg => ld f a 1 (g := [0]) (b := c) (off := 1) (cs := (e30Kr u0 ao1 cap2)) (ty := 30) rfl (by kernel_rfl) (by kernel_rfl) (by kernel_rfl) (by kernel_rfl) hg) ?_; intro aI Q
 refine gp Q 13 0 [] (u0.ID == u1.ID) (pt d 1) rfl rfl ?_; intro aJ h
 refine gd h (.bool u1.Long) (m := 0) (cj := []) (bj := u0.ID == u1.ID) rfl rfl (by kernel_rfl) rfl (by kernel_rfl) (by kernel_rfl) (by kernel_rfl) (fun hg => ld h a 0 (g := [0]) (b := d) (off := 1) (cs := (e30Kr u1 ao4 cap5)) (ty := 30) rfl (by kernel_rfl) (by kernel_rfl) (by kernel_rfl) (by kernel_rfl) hg) ?_; intro aK R
 refine gp R 15 0 [] (u0.ID == u1.ID) (.bool (u0.Long == u1.Long)) rfl rfl ?_; intro aL i
 refine u_ i (.bool ((u0.ID == u1.ID) && (u0.Long == u1.Long))) (pk_and i (g := []) (m := 0) (b := u0.ID == u1.ID) (v := u0.Long == u1.Long) rfl (by kernel_rfl) (by kernel_rfl) (by kernel_rfl) rfl) ?_; intro aM S
 refine s1 S 17 (.bool ((u0.ID == u1.ID) && (u0.Long == u1.Long))) ?_; intro aN T
 have U := T.atom (((u0.ID == u1.ID) && (u0.Long == u1.Long)) == true) (by kernel_rfl)
 refine gp U 18 1 [] ((u0.ID == u1.ID) && (u0.Long == u1.Long)) (pt c 2) rfl rfl ?_; intro aO j
 refine gd j (.bool u0.Fast) (m := 1) (cj := []) (bj := (u0.ID == u1.ID) && (u0.Long == u1.Long)) rfl rfl (by kernel_rfl) rfl (by kernel_rfl) (by kernel_rfl) (by kernel_rfl) (fun hg => ld j a 1 (g := [1]) (b := c) (off := 2) (cs := (e30Kr u0 ao1 cap2)) (ty := 30) rfl (by kernel_rfl) (by kernel_rfl) (by kernel_rfl) (by kernel_rfl) hg) ?_; intro aP V
 refine gp V 20 1 [] ((u0.ID == u1.ID) && (u0.Long == u1.Long)) (pt d 2) rfl rfl ?_; intro aQ k
 refine gd k (.bool u1.Fast) (m := 1) (cj := []) (bj := (u0.ID == u1.ID) && (u0.Long == u1.Long)) rfl rfl (by kernel_rfl) rfl (by kernel_rfl) (by kernel_rfl) (by kernel_rfl) (fun hg => ld k a 0 (g := [1]) (b := d) (off := 2) (cs := (e30Kr u1 ao4 cap5)) (ty := 30) rfl (by kernel_rfl) (by kernel_rfl) (by kernel_rfl) (by kernel_rfl) hg) ?_; intro aR W
 refine gp W 22 1 [] ((u0.ID == u1.ID) && (u0.Long == u1.Long)) (.bool (u0.Fast == u1.Fast)) rfl rfl ?_; intro aS l
 refine u_ l (.bool (((u0.ID == u1.ID) && (u0.Long == u1.Long)) && (u0.Fast == u1.Fast))) (pk_and l (g := []) (m := 1) (b := (u0.ID == u1.ID) && (u0.Long == u1.Long)) (v := u0.Fast == u1.Fast) rfl (by kernel_rfl) (by kernel_rfl) (by kernel_rfl) rfl) ?_; intro aT X
 refine s1 X 24 (.bool (((u0.ID == u1.ID) && (u0.Long == u1.Long)) && (u0.Fast == u1.Fast))) ?_; intro aU Y
 have aa := Y.atom ((((u0.ID == u1.ID) && (u0.Long == u1.Long)) && (u0.Fast == u1.Fast)) == true) (by kernel_rfl)
 refine gp aa 25 2 [] (((u0.ID == u1.ID) && (u0.Long == u1.Long)) && (u0.Fast == u1.Fast)) (pt c 3) rfl rfl ?_; intro aV n
 refine gd n (.bool u0.Remote) (m := 2) (cj := []) (bj := ((u0.ID == u1.ID) && (u0.Long == u1.Long)) && (u0.Fast == u1.Fast)) rfl rfl (by kernel_rfl) rfl (by kernel_rfl) (by kernel_rfl) (by kernel_rfl) (fun hg => ld n a 1 (g := [2]) (b := c) (off := 3) (cs := (e30Kr u0 ao1 cap2)) (ty := 30) rfl (by kernel_rfl) (by kernel_rfl) (by kernel_rfl) (by kernel_rfl) hg) ?_; intro aW ab
 refine gp ab 27 2 [] (((u0.ID == u1.ID) && (u0.Long == u1.Long)) && (u0.Fast == u1.Fast)) (pt d 3) rfl rfl ?_; intro aX o
 refine gd o (.bool u1.Remote) (m := 2) (cj := []) (bj := ((u0.ID == u1.ID) && (u0.Long == u1.Long)) && (u0.Fast == u1.Fast)) rfl rfl (by kernel_rfl) rfl (by kernel_rfl) (by kernel_rfl) (by kernel_rfl) (fun hg => ld o a 0 (g := [2]) (b := d) (off := 3) (cs := (e30Kr u1 ao4 cap5)) (ty := 30) rfl (by kernel_rfl) (by kernel_rfl) (by kernel_rfl) (by kernel_rfl) hg) ?_; intro aY ac
 refine gp ac 29 2 [] (((u0.ID == u1.ID) && (u0.Long == u1.Long)) && (u0.Fast == u1.Fast)) (.bool (u0.Remote == u1.Remote)) rfl rfl ?_; intro aZ p
 refine u_ p (.bool ((((u0.ID == u1.ID) && (u0.Long == u1.Long)) && (u0.Fast == u1.Fast)) && (u0.Remote == u1.Remote))) (pk_and p (g := []) (m := 2) (b := ((u0.ID == u1.ID) && (u0.Long == u1.Long)) && (u0.Fast == u1.Fast)) (v := u0.Remote == u1.Remote) rfl (by kernel_rfl) (by kernel_rfl) (by kernel_rfl) rfl) ?_; intro a1 ad
 refine s1 ad 31 (.bool ((((u0.ID == u1.ID) && (u0.Long == u1.Long)) && (u0.Fast == u1.Fast)) && (u0.Remote == u1.Remote))) ?_; intro a2 ae
 have af := ae.atom (((((u0.ID == u1.ID) && (u0.Long == u1.Long)) && (u0.Fast == u1.Fast)) && (u0.Remote == u1.Remote)) == true) (by kernel_rfl)
 refine gp af 32 3 [] ((((u0.ID == u1.ID) && (u0.Long == u1.Long)) && (u0.Fast == u1.Fast)) && (u0.Remote == u1.Remote)) (pt c 4) rfl rfl ?_; intro a3 q
 refine gd q (i6 u0.Size) (m := 3) (cj := []) (bj := (((u0.ID == u1.ID) && (u0.Long == u1.Long)) && (u0.Fast == u1.Fast)) && (u0.Remote == u1.Remote)) rfl rfl (by kernel_rfl) rfl (by kernel_rfl) (by kernel_rfl) (by kernel_rfl) (fun hg => ld q a 1 (g := [3]) (b := c) (off := 4) (cs := (e30Kr u0 ao1 cap2)) (ty := 30) rfl (by kernel_rfl) (by kernel_rfl) (by kernel_rfl) (by kernel_rfl) hg) ?_; intro a4 ag
 refine gp ag 34 3 [] ((((u0.ID == u1.ID) && (u0.Long == u1.Long)) && (u0.Fast == u1.Fast)) && (u0.Remote == u1.Remote)) (pt d 4) rfl rfl ?_; intro a5 s
 refine gd s (i6 u1.Size) (m := 3) (cj := []) (bj := (((u0.ID == u1.ID) && (u0.Long == u1.Long)) && (u0.Fast == u1.Fast)) && (u0.Remote == u1.Remote)) rfl rfl (by kernel_rfl) rfl (by kernel_rfl) (by kernel_rfl) (by kernel_rfl) (fun hg => ld s a 0 (g := [3]) (b := d) (off := 4) (cs := (e30Kr u1 ao4 cap5)) (ty := 30) rfl (by kernel_rfl) (by kernel_rfl) (by kernel_rfl) (by kernel_rfl) hg) ?_; intro a6 ah
 refine gp ah 36 3 [] ((((u0.ID == u1.ID) && (u0.Long == u1.Long)) && (u0.Fast == u1.Fast)) && (u0.Remote == u1.Remote)) (.bool (u0.Size == u1.Size)) rfl rfl ?_; intro a7 t
 refine u_ t (.bool (((((u0.ID == u1.ID) && (u0.Long == u1.Long)) && (u0.Fast == u1.Fast)) && (u0.Remote == u1.Remote)) && (u0.Size == u1.Size))) (pk_and t (g := []) (m := 3) (b := (((u0.ID == u1.ID) && (u0.Long == u1.Long)) && (u0.Fast == u1.Fast)) && (u0.Remote == u1.Remote)) (v := u0.Size == u1.Size) rfl (by kernel_rfl) (by kernel_rfl) (by kernel_rfl) rfl) ?_; intro a8 ai
 refine s1 ai 38 (.bool (((((u0.ID == u1.ID) && (u0.Long == u1.Long)) && (u0.Fast == u1.Fast)) && (u0.Remote == u1.Remote)) && (u0.Size == u1.Size))) ?_; intro a9 aj
 have ak := aj.atom ((((((u0.ID == u1.ID) && (u0.Long == u1.Long)) && (u0.Fast == u1.Fast)) && (u0.Remote == u1.Remote)) && (u0.Size == u1.Size)) == true) (by kernel_rfl)
 refine gp ak 39 4 [] (((((u0.ID == u1.ID) && (u0.Long == u1.Long)) && (u0.Fast == u1.Fast)) && (u0.Remote == u1.Remote)) && (u0.Size == u1.Size)) (pt c 5) rfl rfl ?_; intro ba u
 refine gd u (.slice ao1 u0.Data.length cap2) (m := 4) (cj := []) (bj := ((((u0.ID == u1.ID) && (u0.Long == u1.Long)) && (u0.Fast == u1.Fast)) && (u0.Remote == u1.Remote)) && (u0.Size == u1.Size)) rfl rfl (by kernel_rfl) rfl (by kernel_rfl) (by kernel_rfl) (by kernel_rfl) (fun hg => ld u a 1 (g := [4]) (b := c) (off := 5) (cs := (e30Kr u0 ao1 cap2)) (ty := 30) rfl (by kernel_rfl) (by kernel_rfl) (by kernel_rfl) (by kernel_rfl) hg) ?_; intro bb al
 refine gp al 41 4 [] (((((u0.ID == u1.ID) && (u0.Long == u1.Long)) && (u0.Fast == u1.Fast)) && (u0.Remote == u1.Remote)) && (u0.Size == u1.Size)) (pt d 5) rfl rfl ?_; intro bc x
 refine gd x (.slice ao4 u1.Data.length cap5) (m := 4) (cj := []) (bj := ((((u0.ID == u1.ID) && (u0.Long == u1.Long)) && (u0.Fast == u1.Fast)) && (u0.Remote == u1.Remote)) && (u0.Size == u1.Size)) rfl rfl (by kernel_rfl) rfl (by kernel_rfl) (by kernel_rfl) (by kernel_rfl) (fun hg => ld x a 0 (g := [4]) (b := d) (off := 5) (cs := (e30Kr u1 ao4 cap5)) (ty := 30) rfl (by kernel_rfl) (by kernel_rfl) (by kernel_rfl) (by kernel_rfl) hg) ?_; intro bd am
 refine gcl am a (.bool (beqS u0.Data u1.Data)) 33 #[.slice ao1 u0.Data.length cap2, .slice ao4 u1.Data.length cap5] (m := 4) (cj := []) (bj := ((((u0.ID == u1.ID) && (u0.Long == u1.Long)) && (u0.Fast == u1.Fast)) && (u0.Remote == u1.Remote)) && (u0.Size == u1.Size)) rfl rfl (by kernel_rfl) rfl (by kernel_rfl) (by kernel_rfl) (by kernel_rfl) (fun _ => by kernel_rfl) (fun hg => beq_fun u0.Data u1.Data ao1 cap2 ao4 cap5 _ _ hs3 hs6 a.fz) ?_; intro be bf y ar
 refine u_ y (.bool ((((((u0.ID == u1.ID) && (u0.Long == u1.Long)) && (u0.Fast == u1.Fast)) && (u0.Remote == u1.Remote)) && (u0.Size == u1.Size)) && (beqS u0.Data u1.Data))) (pk_and y (g := []) (m := 4) (b := ((((u0.ID == u1.ID) && (u0.Long == u1.Long)) && (u0.Fast == u1.Fast)) && (u0.Remote == u1.Remote)) && (u0.Size == u1.Size)) (v := (beqS u0.Data u1.Data)) rfl (by kernel_rfl) (by kernel_rfl) (by kernel_rfl) rfl) ?_; intro bg an
 refine s1 an 4 (.bool ((((((u0.ID == u1.ID) && (u0.Long == u1.Long)) && (u0.Fast == u1.Fast)) && (u0.Remote == u1.Remote)) && (u0.Size == u1.Size)) && (beqS u0.Data u1.Data))) ?_; intro bh au
 apply H
 exact r_ (ra1 au (.bool ((((((u0.ID == u1.ID) && (u0.Long == u1.Long)) && (u0.Fast == u1.Fast)) && (u0.Remote == u1.Remote)) && (u0.Size == u1.Size)) && (beqS u0.Data u1.Data))) ⟨(((((u0.ID == u1.ID) && (u0.Long == u1.Long)) && (u0.Fast == u1.Fast)) && (u0.Remote == u1.Remote)) && (u0.Size == u1.Size)) && (beqS u0.Data u1.Data), rfl, ao, ar.below⟩)

theorem rcl_walk (u0 : Frame) (u1 : Frame) (ao1 : Option Addr) (cap2 : Nat) (ao4 : Option Addr) (cap5 : Nat) (Z : Fz) (w : World) (hs3 : SlR t8 Z ao1 cap2 u0.Data) (hs6 : SlR t8 Z ao4 cap5 u1.Data) (hg3 : SlR t8 Z (sm 3) 64 deBruijn64) (hZ : Z.on w) {K : Int → Prop} (hp : rcl_vc u0 u1 K) : Calls Tryd.prog 22 #[.agg #[i6 u0.ID, .bool u0.Long, .bool u0.Fast, .bool u0.Remote, i6 u0.Size, .slice ao1 u0.Data.length cap2], .agg #[i6 u1.ID, .bool u1.Long, .bool u1.Fast, .bool u1.Remote, i6 u1.Size, .slice ao4 u1.Data.length cap5]] w fun e w' => ∃ r : Int, e = .returned (i6 r) ∧ K r ∧ Below w.heap.size w w' := by
 refine enter0 Tryd.func22 rfl rfl (by kernel_rfl) ?_; intro I d; have f := Mem.start w Z hZ
 have y := hp (hs3.small) (hs6.small)
 refine sqH ?_; intro z i
 refine nw d f pb (e30Kr u0 ao1 cap2) 30 ?_; intro j L M l m
 refine nw l m pb (e30Kr u1 ao4 cap5) 30 ?_; intro n N O o p
 refine s1 o 4 (i6 0) ?_; intro A q
 apply i
 have a : Fr 10 [] [⟨2, [], pt j 0⟩, ⟨3, [], pt n 0⟩] A := q.reg
 refine sqQH mixed (by kernel_rfl) p ?_; intro B s
 refine qu_ a (.agg (e30Kr u0 ao1 cap2).toArray) (fun v24 hC => lda a hC 1 (g := []) (b := j) (off := 0) (k := 6) (cs := (e30Kr u0 ao1 cap2)) (vs := (e30Kr u0 ao1 cap2)) (ty := 30) rfl (by kernel_rfl) (by kernel_rfl) (by kernel_rfl) (by kernel_rfl) (by kernel_rfl) rfl) ?_; intro P t
 obtain ⟨C, D⟩ := y
 refine qcl t (str (fnameS u0)) 19 #[.agg (e30Kr u0 ao1 cap2).toArray] (nog rfl _) rfl (by kernel_rfl) (fun _ => by kernel_rfl) (qfc fun w hC => rname_fun u0 C ao1 cap2 _ _ hs3 hg3 hC.fz) ?_; intro Q c
 refine qu_ c (.agg (e30Kr u1 ao4 cap5).toArray) (fun v32 hC => lda c hC 0 (g := []) (b := n) (off := 0) (k := 6) (cs := (e30Kr u1 ao4 cap5)) (vs := (e30Kr u1 ao4 cap5)) (ty := 30) rfl (by kernel_rfl) (by kernel_rfl) (by kernel_rfl) (by kernel_rfl) (by kernel_rfl) rfl) ?_; intro R u
 obtain ⟨E, F⟩ := D
 refine qcl u (str (fnameS u1)) 19 #[.agg (e30Kr u1 ao4 cap5).toArray] (nog rfl _) rfl (by kernel_rfl) (fun _ => by kernel_rfl) (qfc fun w hC => rname_fun u1 E ao4 cap5 _ _ hs6 hg3 hC.fz) ?_; intro S v
 refine qcl v (i6 (scmpS (fnameS u0) (fnameS u1))) 23 #[str (fnameS u0), str (fnameS u1)] (nog rfl _) rfl (by kernel_rfl) (fun _ => by kernel_rfl) (qfc fun w hC => scmp_fun (fnameS u0) (fnameS u1) _ _ hC.fz) ?_; intro T x
 refine q1 x 4 (i6 (scmpS (fnameS u0) (fnameS u1))) ?_; intro U G
 refine qnl (s _ ?_); intro V H
 exact r_ (ra1 G (i6 (scmpS (fnameS u0) (fnameS u1))) ⟨(scmpS (fnameS u0) (fnameS u1)), rfl, F, H.below⟩)

end Go.Proofs.YtocpdhcjkfmmnaaDoor
set_option linter.unusedVariables false
set_option linter.unusedSimpArgs false
set_option linter.defProp false
set_option maxRecDepth 100000
set_option maxHeartbeats 0
namespace Go.Proofs.YtocpdhcjkfmmnaaDoor
open Go.Sy Go.RowKit
abbrev e30Lr (X : Frame) (A0 : Option Addr) (C0 : Nat) : List Value := [i6 X.ID, .bool X.Long, .bool X.Fast, .bool X.Remote, i6 X.Size, .slice A0 X.Data.length C0]
def fSame_fun (u0 : Frame) (u1 : Frame) (ao1 : Option Addr) (cap2 : Nat) (ao4 : Option Addr) (cap5 : Nat) (Z : Fz) (w : World) (hs3 : SlR t8 Z ao1 cap2 u0.Data) (hs6 : SlR t8 Z ao4 cap5 u1.Data) (hZ : Z.on w) := f_ (fSame_walk u0 u1 ao1 cap2 ao4 cap5 Z w hs3 hs6 hZ (fSame_ok u0 u1))
def rcl_fun (u0 : Frame) (u1 : Frame) (hpre : fcheckfr u0 = 0 ∧ fcheckfr u1 = 0) (ao1 : Option Addr) (cap2 : Nat) (ao4 : Option Addr) (cap5 : Nat) (Z : Fz) (w : World) (hs3 : SlR t8 Z ao1 cap2 u0.Data) (hs6 : SlR t8 Z ao4 cap5 u1.Data) (hg3 : SlR t8 Z (sm 3) 64 deBruijn64) (hZ : Z.on w) := f_ (rcl_walk u0 u1 ao1 cap2 ao4 cap5 Z w hs3 hs6 hg3 hZ (rcl_ok u0 u1 hpre))
theorem sins_walk (u0 : List Frame) (u1 : Int) (u2 : Int) (ao1 : Option Addr) (cap2 : Nat) (B : Nat) (w0 : World) (Z0 : Fz) (Rr : List Res) (Z : Fz) (w : World) (hg3 : SlR t8 Z (sm 3) 64 deBruijn64) (hM0 : Mem B [] w0 Z0 ((.own tyFrame 30 ao1 cap2 u0) :: Rr) Z w) (hZ : Z.on w) {K : (List Frame) → Prop} (hp : sins_vc u0 u1 u2 K) : Calls Tryd.prog 49 #[.slice ao1 u0.length cap2, i6 u1, i6 u2, .func (.func 22) #[] #[]] w fun e w' => ∃ (r : (List Frame)) (Z' : Fz), e = .returned (.tuple #[]) ∧ K r ∧ Fz.le Z Z' ∧ (r.length = u0.length) ∧ Mem B [] w0 Z0 ((.own tyFrame 30 ao1 cap2 r) :: Rr) Z' w' := by
 refine enter0 Tryd.func49 rfl rfl (by kernel_rfl) ?_; intro a0 b9; have z := Fz.le.refl Z
 have de := hp (hM0.ownSmall 0 rfl)
 refine sqB b9 hM0 [] [] [(8, i6 (w64 (u1 + 1)))] ?_; intro a9 ca
 apply b_
 have cb : Fr 53 [] [⟨0, [], .slice ao1 u0.length cap2⟩, ⟨1, [], i6 u1⟩, ⟨2, [], i6 u2⟩, ⟨3, [], .func (.func 22) #[] #[]⟩, ⟨8, [], i6 (w64 (u1 + 1))⟩] a9 := ca.reg
 obtain ⟨df, dg, dh, di⟩ := de
 refine lp (ι := Int × (List Frame)) (fun s => [⟨0, [], .slice ao1 s.2.length cap2⟩, ⟨1, [], i6 u1⟩, ⟨2, [], i6 u2⟩, ⟨3, [], .func (.func 22) #[] #[]⟩, ⟨8, [], i6 s.1⟩]) (fun s => ((.own tyFrame 30 ao1 cap2 s.2) :: Rr)) (fun s => Z) (fun s => df s.1 s.2) (fun s => dg s.1 s.2) ⟨w64 (u1 + 1), u0⟩ dh (by exact cb.reg) (by exact hM0) ?_
 rintro ⟨x8, bC⟩ dj dk dl ce cf
 have bL := di x8 bC dj
 refine s_ (sqB ce cf [] [] [(14, .bool (decide (x8 < u2)))] ?_); intro fK bH
 refine c_ bH bL (fun _ dm => ?_) fun _ fH => ?_
 ·
  refine k_ (s_ (b_ (sqB bH cf [] [] [(9, i6 x8)] ?_))); intro ch ci
  apply b_
  have cj : Fr 53 [] [⟨0, [], .slice ao1 bC.length cap2⟩, ⟨1, [], i6 u1⟩, ⟨2, [], i6 u2⟩, ⟨3, [], .func (.func 22) #[] #[]⟩, ⟨8, [], i6 x8⟩, ⟨9, [], i6 x8⟩] ch := ci.reg
  obtain ⟨dn, dp, dq, dr⟩ := dm
  refine lp (ι := Int × (List Frame)) (fun s => [⟨0, [], .slice ao1 s.2.length cap2⟩, ⟨1, [], i6 u1⟩, ⟨2, [], i6 u2⟩, ⟨3, [], .func (.func 22) #[] #[]⟩, ⟨8, [], i6 x8⟩, ⟨9, [], i6 s.1⟩]) (fun s => ((.own tyFrame 30 ao1 cap2 s.2) :: Rr)) (fun s => Z) (fun s => dn s.1 s.2) (fun s => dp s.1 s.2) ⟨x8, bC⟩ dq (by exact cj.reg) (by exact cf) ?_
  rintro ⟨f, l⟩ ds aq dt cl cm
  have bM := dr f l ds
  apply s_
  have bN : Fr 53 [] [⟨0, [], .slice ao1 l.length cap2⟩, ⟨1, [], i6 u1⟩, ⟨2, [], i6 u2⟩, ⟨3, [], .func (.func 22) #[] #[]⟩, ⟨8, [], i6 x8⟩, ⟨9, [], i6 f⟩] aq := cl.reg
  refine e_ bM (fun bI du => ?_) fun bI cT => ?_
  ·
   have dv : Fr 53 [] [⟨0, [], .slice ao1 l.length cap2⟩, ⟨1, [], i6 u1⟩, ⟨2, [], i6 u2⟩, ⟨3, [], .func (.func 22) #[] #[]⟩, ⟨8, [], i6 x8⟩, ⟨9, [], i6 f⟩] aq := bN.reg
   obtain ⟨dw, co⟩ := du
   obtain ⟨H, dx, dy⟩ := gxq co (by omega)
   obtain ⟨bS, cp⟩ := dy
   obtain ⟨g, bT, dz⟩ := gxq cp (by omega)
   obtain ⟨bU, bO⟩ := dz
   refine wp_seq (any_invE mixed [[], [], [0, 1], [2], [3], [3], [3], [3, 5, 6], [3, 7], [3], [3], [3, 10], [3, 9, 11], [3, 12], [3, 4, 8, 13], [3, 14], [3, 15]] 17 (fun S a w1 => ∃ (am : Nat) (ai : Option Addr) (aj : Nat) (an : Nat) (ak : Option Addr) (al : Nat) (bJ : Value) (bK : Value) (bE : Value) (bD : Value) (aV : Value) (bc : Value) (bd : Value) (a4 : Value) (aW : Value) (be : Value) (bm : Value) (bf : Value) (a5 : Value) (aX : Value) (aL : Value) (av : Value) (au : Value) (bn : Res), Fz.le Z Z ∧ Fr 53 [] [⟨0, [], .slice ao1 l.length cap2⟩, ⟨1, [], i6 u1⟩, ⟨2, [], i6 u2⟩, ⟨3, [], .func (.func 22) #[] #[]⟩, ⟨8, [], i6 x8⟩, ⟨9, [], i6 f⟩, ⟨18, [], bJ⟩, ⟨19, [], bK⟩, ⟨20, [], bE⟩, ⟨21, [], bD⟩, ⟨22, [], aV⟩, ⟨23, [], bc⟩, ⟨24, [], bd⟩, ⟨25, [], a4⟩, ⟨26, [], aW⟩, ⟨27, [], be⟩, ⟨28, [], bm⟩, ⟨29, [], bf⟩, ⟨30, [], a5⟩, ⟨31, [], aX⟩, ⟨32, [], aL⟩, ⟨33, [], av⟩, ⟨34, [], au⟩] a ∧ Mem B [] w0 Z0 (bn :: Rr) Z w1 ∧ (S 0 = true → bJ = i6 f) ∧ (S 1 = true → bK = i6 u1) ∧ (S 2 = true → bE = .bool true) ∧ (S 3 = true → bD = .bool true) ∧ (S 4 = true → aV = .func (.func 22) #[] #[]) ∧ (S 5 = true → bc = .slice ao1 l.length cap2) ∧ (S 6 = true → bd = i6 f) ∧ (S 7 = true → a4 = .pointer (some ⟨am, f.toNat * 6, none⟩)) ∧ (S 8 = true → aW = .agg (e30Lr H ai aj).toArray) ∧ (S 9 = true → be = .slice ao1 l.length cap2) ∧ (S 10 = true → bm = i6 f) ∧ (S 11 = true → bf = i6 (w64 (f - 1))) ∧ (S 12 = true → a5 = .pointer (some ⟨an, (w64 (f - 1)).toNat * 6, none⟩)) ∧ (S 13 = true → aX = .agg (e30Lr g ak al).toArray) ∧ (S 14 = true → aL = i6 (rclS H g)) ∧ (S 15 = true → av = .bool (decide ((rclS H g) < 0))) ∧ (S 16 = true → au = .bool (decide ((rclS H g) < 0))) ∧ (bn = .own tyFrame 30 ao1 cap2 l) ∧ (S 7 = true → ao1 = some ⟨am, 0, none⟩) ∧ (S 8 = true → SlR t8 Z ai aj H.Data) ∧ (S 12 = true → ao1 = some ⟨an, 0, none⟩) ∧ (S 13 = true → SlR t8 Z ak al g.Data)) ?h0 ?hs ?hE)
   case h0 =>
    have dA := dv.any 18
    have dB := dA.any 19
    have dC := dB.any 20
    have dD := dC.any 21
    have dE := dD.any 22
    have dF := dE.any 23
    have dG := dF.any 24
    have dH := dG.any 25
    have dI := dH.any 26
    have dJ := dI.any 27
    have dK := dJ.any 28
    have dL := dK.any 29
    have dM := dL.any 30
    have dN := dM.any 31
    have dO := dN.any 32
    have dP := dO.any 33
    have dQ := dP.any 34
    have dR := (cm.perm lpr).drew
    exact ⟨0, none, 0, 0, none, 0, aq.tmps.getD 18 undef, aq.tmps.getD 19 undef, aq.tmps.getD 20 undef, aq.tmps.getD 21 undef, aq.tmps.getD 22 undef, aq.tmps.getD 23 undef, aq.tmps.getD 24 undef, aq.tmps.getD 25 undef, aq.tmps.getD 26 undef, aq.tmps.getD 27 undef, aq.tmps.getD 28 undef, aq.tmps.getD 29 undef, aq.tmps.getD 30 undef, aq.tmps.getD 31 undef, aq.tmps.getD 32 undef, aq.tmps.getD 33 undef, aq.tmps.getD 34 undef, .own tyFrame 30 ao1 cap2 l, Fz.le.refl _, dQ.reg, dR, ff, ff, ff, ff, ff, ff, ff, ff, ff, ff, ff, ff, ff, ff, ff, ff, ff, rfl, ff, ff, ff, ff⟩
   case hs =>
    intro S hcl i o hil hi hSi hpre a w1 hI; refine Go.Sy.hid ?_; intro G hG; obtain ⟨am, ai, aj, an, ak, al, bJ, bK, bE, bD, aV, bc, bd, a4, aW, be, bm, bf, a5, aX, aL, av, au, bn, I, hI⟩ := hI; obtain ⟨hFx, hMx, aM, aN, a6, bg, bo, bp, bq, bv, bw, br, bs, bu, bx, bz, bP, bV, cq, Q, ab, af, ac, hI⟩ := hI; have ag := hI
    have hcase : i = 0 ∨ i = 1 ∨ i = 2 ∨ i = 3 ∨ i = 4 ∨ i = 5 ∨ i = 6 ∨ i = 7 ∨ i = 8 ∨ i = 9 ∨ i = 10 ∨ i = 11 ∨ i = 12 ∨ i = 13 ∨ i = 14 ∨ i = 15 ∨ i = 16 := by clear hi; omega
    rcases hcase with rfl | rfl | rfl | rfl | rfl | rfl | rfl | rfl | rfl | rfl | rfl | rfl | rfl | rfl | rfl | rfl | rfl
    ·
     obtain rfl := oj hi
     have M := hSi
     have E := ngF hcl 2 0 M
     have m := ngF hcl 3 2 E
     have ao := ngF hcl 4 3 m
     have R := ngF hcl 5 3 m
     have P := ngF hcl 6 3 m
     have F := ngF hcl 7 3 m
     have D := ngF hcl 8 3 m
     have L := ngF hcl 9 3 m
     have U := ngF hcl 10 3 m
     have O := ngF hcl 11 3 m
     have y := ngF hcl 12 3 m
     have C := ngF hcl 13 3 m
     have n := ngF hcl 14 3 m
     have q := ngF hcl 15 3 m
     have x := ngF hcl 16 3 m
     obtain rfl := Q
     refine hG (any_step ?_); intro A J hJ
     refine s1 hFx 18 (i6 f) ?_; intro fM dS
     refine nl (qnI (hJ _ _ ?_))
     exact ⟨am, ai, aj, an, ak, al, i6 f, bK, bE, bD, aV, bc, bd, a4, aW, be, bm, bf, a5, aX, aL, av, au, .own tyFrame 30 ao1 cap2 l, I, dS.reg, hMx.perm lpr, kf, aN, (nt E), (nt m), (nt ao), (nt R), (nt P), (nt F), (nt D), (nt L), (nt U), (nt O), (nt y), (nt C), (nt n), (nt q), (nt x), rfl, (nt F), (nt D), (nt y), (nt C)⟩
    ·
     obtain rfl := oj hi
     have N := hSi
     have E := ngF hcl 2 1 N
     have m := ngF hcl 3 2 E
     have ao := ngF hcl 4 3 m
     have R := ngF hcl 5 3 m
     have P := ngF hcl 6 3 m
     have F := ngF hcl 7 3 m
     have D := ngF hcl 8 3 m
     have L := ngF hcl 9 3 m
     have U := ngF hcl 10 3 m
     have O := ngF hcl 11 3 m
     have y := ngF hcl 12 3 m
     have C := ngF hcl 13 3 m
     have n := ngF hcl 14 3 m
     have q := ngF hcl 15 3 m
     have x := ngF hcl 16 3 m
     obtain rfl := Q
     refine hG (any_step ?_); intro A J hJ
     refine s1 hFx 19 (i6 u1) ?_; intro fO dT
     refine nl (qnI (hJ _ _ ?_))
     exact ⟨am, ai, aj, an, ak, al, bJ, i6 u1, bE, bD, aV, bc, bd, a4, aW, be, bm, bf, a5, aX, aL, av, au, .own tyFrame 30 ao1 cap2 l, I, dT.reg, hMx.perm lpr, aM, kf, (nt E), (nt m), (nt ao), (nt R), (nt P), (nt F), (nt D), (nt L), (nt U), (nt O), (nt y), (nt C), (nt n), (nt q), (nt x), rfl, (nt F), (nt D), (nt y), (nt C)⟩
    ·
     obtain rfl := oj hi
     have N := hpre 1 (by kernel_rfl)
     have M := hpre 0 (by kernel_rfl)
     have E := hSi
     have m := ngF hcl 3 2 E
     have ao := ngF hcl 4 3 m
     have R := ngF hcl 5 3 m
     have P := ngF hcl 6 3 m
     have F := ngF hcl 7 3 m
     have D := ngF hcl 8 3 m
     have L := ngF hcl 9 3 m
     have U := ngF hcl 10 3 m
     have O := ngF hcl 11 3 m
     have y := ngF hcl 12 3 m
     have C := ngF hcl 13 3 m
     have n := ngF hcl 14 3 m
     have q := ngF hcl 15 3 m
     have x := ngF hcl 16 3 m
     obtain rfl := aM M
     obtain rfl := aN N
     obtain rfl := Q
     refine hG (any_step ?_); intro A J hJ
     refine s1 hFx 20 (.bool (decide (f > u1))) ?_; intro fQ cr
     have dU := cr.reval (d := 20) (c := []) (v := .bool (decide (f > u1))) (by kernel_rfl) (.bool true) (by rw [bI])
     refine nl (qnI (hJ _ _ ?_))
     exact ⟨am, ai, aj, an, ak, al, i6 f, i6 u1, .bool true, bD, aV, bc, bd, a4, aW, be, bm, bf, a5, aX, aL, av, au, .own tyFrame 30 ao1 cap2 l, I, dU.reg, hMx.perm lpr, kf, kf, kf, (nt m), (nt ao), (nt R), (nt P), (nt F), (nt D), (nt L), (nt U), (nt O), (nt y), (nt C), (nt n), (nt q), (nt x), rfl, (nt F), (nt D), (nt y), (nt C)⟩
    ·
     obtain rfl := oj hi
     have E := hpre 2 (by kernel_rfl)
     have N := hcl 2 1 (by kernel_rfl) E
     have M := hcl 2 0 (by kernel_rfl) E
     have m := hSi
     have ao := ngF hcl 4 3 m
     have R := ngF hcl 5 3 m
     have P := ngF hcl 6 3 m
     have F := ngF hcl 7 3 m
     have D := ngF hcl 8 3 m
     have L := ngF hcl 9 3 m
     have U := ngF hcl 10 3 m
     have O := ngF hcl 11 3 m
     have y := ngF hcl 12 3 m
     have C := ngF hcl 13 3 m
     have n := ngF hcl 14 3 m
     have q := ngF hcl 15 3 m
     have x := ngF hcl 16 3 m
     obtain rfl := aM M
     obtain rfl := aN N
     obtain rfl := a6 E
     obtain rfl := Q
     refine hG (any_step ?_); intro A J hJ
     refine s1 hFx 21 (.bool true) ?_; intro fS dV
     refine nl (qnI (hJ _ _ ?_))
     exact ⟨am, ai, aj, an, ak, al, i6 f, i6 u1, .bool true, .bool true, aV, bc, bd, a4, aW, be, bm, bf, a5, aX, aL, av, au, .own tyFrame 30 ao1 cap2 l, I, dV.reg, hMx.perm lpr, kf, kf, kf, kf, (nt ao), (nt R), (nt P), (nt F), (nt D), (nt L), (nt U), (nt O), (nt y), (nt C), (nt n), (nt q), (nt x), rfl, (nt F), (nt D), (nt y), (nt C)⟩
    ·
     obtain rfl := oj hi
     have m := hpre 3 (by kernel_rfl)
     have E := hcl 3 2 (by kernel_rfl) m
     have N := hcl 2 1 (by kernel_rfl) E
     have M := hcl 2 0 (by kernel_rfl) E
     have ao := hSi
     have n := ngF hcl 14 4 ao
     have q := ngF hcl 15 14 n
     have x := ngF hcl 16 15 q
     obtain rfl := aM M
     obtain rfl := aN N
     obtain rfl := a6 E
     obtain rfl := bg m
     obtain rfl := Q
     refine hG (any_stepG ?_); intro J hJ
     refine g_ hFx true (.func (.func 22) #[] #[]) ?_; intro fU dW
     refine nl (qnI (hJ _ _ ?_))
     exact ⟨am, ai, aj, an, ak, al, i6 f, i6 u1, .bool true, .bool true, .func (.func 22) #[] #[], bc, bd, a4, aW, be, bm, bf, a5, aX, aL, av, au, .own tyFrame 30 ao1 cap2 l, I, dW.reg, hMx.perm lpr, kf, kf, kf, kf, kf, bp, bq, bv, bw, br, bs, bu, bx, bz, (nt n), (nt q), (nt x), rfl, ab, af, ac, ag⟩
    ·
     obtain rfl := oj hi
     have m := hpre 3 (by kernel_rfl)
     have E := hcl 3 2 (by kernel_rfl) m
     have N := hcl 2 1 (by kernel_rfl) E
     have M := hcl 2 0 (by kernel_rfl) E
     have R := hSi
     have F := ngF hcl 7 5 R
     have D := ngF hcl 8 7 F
     have n := ngF hcl 14 8 D
     have q := ngF hcl 15 14 n
     have x := ngF hcl 16 15 q
     obtain rfl := aM M
     obtain rfl := aN N
     obtain rfl := a6 E
     obtain rfl := bg m
     obtain rfl := Q
     refine hG (any_stepG ?_); intro J hJ
     refine g_ hFx true (.slice ao1 l.length cap2) ?_; intro fW dX
     refine nl (qnI (hJ _ _ ?_))
     exact ⟨am, ai, aj, an, ak, al, i6 f, i6 u1, .bool true, .bool true, aV, .slice ao1 l.length cap2, bd, a4, aW, be, bm, bf, a5, aX, aL, av, au, .own tyFrame 30 ao1 cap2 l, I, dX.reg, hMx.perm lpr, kf, kf, kf, kf, bo, kf, bq, (nt F), (nt D), br, bs, bu, bx, bz, (nt n), (nt q), (nt x), rfl, (nt F), (nt D), ac, ag⟩
    ·
     obtain rfl := oj hi
     have m := hpre 3 (by kernel_rfl)
     have E := hcl 3 2 (by kernel_rfl) m
     have N := hcl 2 1 (by kernel_rfl) E
     have M := hcl 2 0 (by kernel_rfl) E
     have P := hSi
     have F := ngF hcl 7 6 P
     have D := ngF hcl 8 7 F
     have n := ngF hcl 14 8 D
     have q := ngF hcl 15 14 n
     have x := ngF hcl 16 15 q
     obtain rfl := aM M
     obtain rfl := aN N
     obtain rfl := a6 E
     obtain rfl := bg m
     obtain rfl := Q
     refine hG (any_stepG ?_); intro J hJ
     refine g_ hFx true (i6 f) ?_; intro fY dY
     refine nl (qnI (hJ _ _ ?_))
     exact ⟨am, ai, aj, an, ak, al, i6 f, i6 u1, .bool true, .bool true, aV, bc, i6 f, a4, aW, be, bm, bf, a5, aX, aL, av, au, .own tyFrame 30 ao1 cap2 l, I, dY.reg, hMx.perm lpr, kf, kf, kf, kf, bo, bp, kf, (nt F), (nt D), br, bs, bu, bx, bz, (nt n), (nt q), (nt x), rfl, (nt F), (nt D), ac, ag⟩
    ·
     obtain rfl := oj hi
     have P := hpre 6 (by kernel_rfl)
     have R := hpre 5 (by kernel_rfl)
     have m := hpre 3 (by kernel_rfl)
     have E := hcl 3 2 (by kernel_rfl) m
     have N := hcl 2 1 (by kernel_rfl) E
     have M := hcl 2 0 (by kernel_rfl) E
     have F := hSi
     have D := ngF hcl 8 7 F
     have n := ngF hcl 14 8 D
     have q := ngF hcl 15 14 n
     have x := ngF hcl 16 15 q
     obtain rfl := aM M
     obtain rfl := aN N
     obtain rfl := a6 E
     obtain rfl := bg m
     obtain rfl := bp R
     obtain rfl := bq P
     obtain rfl := Q
     refine hG (any_stepG ?_); intro J hJ
     refine ixo hFx hMx 0 (T := tyFrame) (xs := l) f (by simpa only [List.length_set] using dw) (k := .i64) (e := 30) (bytes := 48) (wK hFx true) rfl (by kernel_rfl) rfl (by kernel_rfl) (by kernel_rfl) rfl (by kernel_rfl) ?_; intro cs f0 dZ d0
     refine nl (qnI (hJ _ _ ?_))
     exact ⟨cs, ai, aj, an, ak, al, i6 f, i6 u1, .bool true, .bool true, aV, .slice ao1 l.length cap2, i6 f, .pointer (some ⟨cs, f.toNat * 6, none⟩), aW, be, bm, bf, a5, aX, aL, av, au, .own tyFrame 30 ao1 cap2 l, I, d0.reg, hMx.perm lpr, kf, kf, kf, kf, bo, kf, kf, kf, (nt D), br, bs, bu, bx, bz, (nt n), (nt q), (nt x), rfl, (fun _ => dZ), (nt D), ac, ag⟩
    ·
     obtain rfl := oj hi
     have F := hpre 7 (by kernel_rfl)
     have m := hpre 3 (by kernel_rfl)
     have P := hcl 7 6 (by kernel_rfl) F
     have R := hcl 7 5 (by kernel_rfl) F
     have E := hcl 3 2 (by kernel_rfl) m
     have N := hcl 2 1 (by kernel_rfl) E
     have M := hcl 2 0 (by kernel_rfl) E
     have D := hSi
     have n := ngF hcl 14 8 D
     have q := ngF hcl 15 14 n
     have x := ngF hcl 16 15 q
     obtain rfl := aM M
     obtain rfl := aN N
     obtain rfl := a6 E
     obtain rfl := bg m
     obtain rfl := bp R
     obtain rfl := bq P
     obtain rfl := bv F
     obtain rfl := Q
     refine hG (any_stepG ?_); intro J hJ
     have ct := ab F
     obtain ⟨f2, d1, d2⟩ := own_elx hMx 0 (T := tyFrame) (xs := l) rfl ct f.toNat dx
     obtain ⟨bW, bX, rfl, d3⟩ := d1
     refine lc2 hFx 26 6 (e30Lr H bW bX) d2 rfl ?_ (hw := (wK hFx true)); intro f3 d4
     refine nl (qnI (hJ _ _ ?_))
     exact ⟨am, bW, bX, an, ak, al, i6 f, i6 u1, .bool true, .bool true, aV, .slice ao1 l.length cap2, i6 f, .pointer (some ⟨am, f.toNat * 6, none⟩), .agg (e30Lr H bW bX).toArray, be, bm, bf, a5, aX, aL, av, au, .own tyFrame 30 ao1 cap2 l, I, d4.reg, hMx.perm lpr, kf, kf, kf, kf, bo, kf, kf, kf, kf, br, bs, bu, bx, bz, (nt n), (nt q), (nt x), rfl, (fun _ => ct), (fun _ => d3), ac, ag⟩
    ·
     obtain rfl := oj hi
     have m := hpre 3 (by kernel_rfl)
     have E := hcl 3 2 (by kernel_rfl) m
     have N := hcl 2 1 (by kernel_rfl) E
     have M := hcl 2 0 (by kernel_rfl) E
     have L := hSi
     have y := ngF hcl 12 9 L
     have C := ngF hcl 13 12 y
     have n := ngF hcl 14 13 C
     have q := ngF hcl 15 14 n
     have x := ngF hcl 16 15 q
     obtain rfl := aM M
     obtain rfl := aN N
     obtain rfl := a6 E
     obtain rfl := bg m
     obtain rfl := Q
     refine hG (any_stepG ?_); intro J hJ
     refine g_ hFx true (.slice ao1 l.length cap2) ?_; intro f5 d5
     refine nl (qnI (hJ _ _ ?_))
     exact ⟨am, ai, aj, an, ak, al, i6 f, i6 u1, .bool true, .bool true, aV, bc, bd, a4, aW, .slice ao1 l.length cap2, bm, bf, a5, aX, aL, av, au, .own tyFrame 30 ao1 cap2 l, I, d5.reg, hMx.perm lpr, kf, kf, kf, kf, bo, bp, bq, bv, bw, kf, bs, bu, (nt y), (nt C), (nt n), (nt q), (nt x), rfl, ab, af, (nt y), (nt C)⟩
    ·
     obtain rfl := oj hi
     have m := hpre 3 (by kernel_rfl)
     have E := hcl 3 2 (by kernel_rfl) m
     have N := hcl 2 1 (by kernel_rfl) E
     have M := hcl 2 0 (by kernel_rfl) E
     have U := hSi
     have O := ngF hcl 11 10 U
     have y := ngF hcl 12 11 O
     have C := ngF hcl 13 12 y
     have n := ngF hcl 14 13 C
     have q := ngF hcl 15 14 n
     have x := ngF hcl 16 15 q
     obtain rfl := aM M
     obtain rfl := aN N
     obtain rfl := a6 E
     obtain rfl := bg m
     obtain rfl := Q
     refine hG (any_stepG ?_); intro J hJ
     refine g_ hFx true (i6 f) ?_; intro f7 d6
     refine nl (qnI (hJ _ _ ?_))
     exact ⟨am, ai, aj, an, ak, al, i6 f, i6 u1, .bool true, .bool true, aV, bc, bd, a4, aW, be, i6 f, bf, a5, aX, aL, av, au, .own tyFrame 30 ao1 cap2 l, I, d6.reg, hMx.perm lpr, kf, kf, kf, kf, bo, bp, bq, bv, bw, br, kf, (nt O), (nt y), (nt C), (nt n), (nt q), (nt x), rfl, ab, af, (nt y), (nt C)⟩
    ·
     obtain rfl := oj hi
     have U := hpre 10 (by kernel_rfl)
     have m := hpre 3 (by kernel_rfl)
     have E := hcl 3 2 (by kernel_rfl) m
     have N := hcl 2 1 (by kernel_rfl) E
     have M := hcl 2 0 (by kernel_rfl) E
     have O := hSi
     have y := ngF hcl 12 11 O
     have C := ngF hcl 13 12 y
     have n := ngF hcl 14 13 C
     have q := ngF hcl 15 14 n
     have x := ngF hcl 16 15 q
     obtain rfl := aM M
     obtain rfl := aN N
     obtain rfl := a6 E
     obtain rfl := bg m
     obtain rfl := bs U
     obtain rfl := Q
     refine hG (any_stepG ?_); intro J hJ
     refine g_ hFx true (i6 (w64 (f - 1))) ?_; intro f9 d7
     refine nl (qnI (hJ _ _ ?_))
     exact ⟨am, ai, aj, an, ak, al, i6 f, i6 u1, .bool true, .bool true, aV, bc, bd, a4, aW, be, i6 f, i6 (w64 (f - 1)), a5, aX, aL, av, au, .own tyFrame 30 ao1 cap2 l, I, d7.reg, hMx.perm lpr, kf, kf, kf, kf, bo, bp, bq, bv, bw, br, kf, kf, (nt y), (nt C), (nt n), (nt q), (nt x), rfl, ab, af, (nt y), (nt C)⟩
    ·
     obtain rfl := oj hi
     have O := hpre 11 (by kernel_rfl)
     have L := hpre 9 (by kernel_rfl)
     have m := hpre 3 (by kernel_rfl)
     have U := hcl 11 10 (by kernel_rfl) O
     have E := hcl 3 2 (by kernel_rfl) m
     have N := hcl 2 1 (by kernel_rfl) E
     have M := hcl 2 0 (by kernel_rfl) E
     have y := hSi
     have C := ngF hcl 13 12 y
     have n := ngF hcl 14 13 C
     have q := ngF hcl 15 14 n
     have x := ngF hcl 16 15 q
     obtain rfl := aM M
     obtain rfl := aN N
     obtain rfl := a6 E
     obtain rfl := bg m
     obtain rfl := br L
     obtain rfl := bs U
     obtain rfl := bu O
     obtain rfl := Q
     refine hG (any_stepG ?_); intro J hJ
     refine ixo hFx hMx 0 (T := tyFrame) (xs := l) (w64 (f - 1)) (by simpa only [List.length_set] using bS) (k := .i64) (e := 30) (bytes := 48) (wK hFx true) rfl (by kernel_rfl) rfl (by kernel_rfl) (by kernel_rfl) rfl (by kernel_rfl) ?_; intro cu gb d8 d9
     refine nl (qnI (hJ _ _ ?_))
     exact ⟨am, ai, aj, cu, ak, al, i6 f, i6 u1, .bool true, .bool true, aV, bc, bd, a4, aW, .slice ao1 l.length cap2, i6 f, i6 (w64 (f - 1)), .pointer (some ⟨cu, (w64 (f - 1)).toNat * 6, none⟩), aX, aL, av, au, .own tyFrame 30 ao1 cap2 l, I, d9.reg, hMx.perm lpr, kf, kf, kf, kf, bo, bp, bq, bv, bw, kf, kf, kf, kf, (nt C), (nt n), (nt q), (nt x), rfl, ab, af, (fun _ => d8), (nt C)⟩
    ·
     obtain rfl := oj hi
     have y := hpre 12 (by kernel_rfl)
     have m := hpre 3 (by kernel_rfl)
     have O := hcl 12 11 (by kernel_rfl) y
     have L := hcl 12 9 (by kernel_rfl) y
     have E := hcl 3 2 (by kernel_rfl) m
     have U := hcl 11 10 (by kernel_rfl) O
     have N := hcl 2 1 (by kernel_rfl) E
     have M := hcl 2 0 (by kernel_rfl) E
     have C := hSi
     have n := ngF hcl 14 13 C
     have q := ngF hcl 15 14 n
     have x := ngF hcl 16 15 q
     obtain rfl := aM M
     obtain rfl := aN N
     obtain rfl := a6 E
     obtain rfl := bg m
     obtain rfl := br L
     obtain rfl := bs U
     obtain rfl := bu O
     obtain rfl := bx y
     obtain rfl := Q
     refine hG (any_stepG ?_); intro J hJ
     have cv := ac y
     obtain ⟨gd, ea, eb⟩ := own_elx hMx 0 (T := tyFrame) (xs := l) rfl cv (w64 (f - 1)).toNat bT
     obtain ⟨bY, bZ, rfl, ec⟩ := ea
     refine lc2 hFx 31 6 (e30Lr g bY bZ) eb rfl ?_ (hw := (wK hFx true)); intro ge ed
     refine nl (qnI (hJ _ _ ?_))
     exact ⟨am, ai, aj, an, bY, bZ, i6 f, i6 u1, .bool true, .bool true, aV, bc, bd, a4, aW, .slice ao1 l.length cap2, i6 f, i6 (w64 (f - 1)), .pointer (some ⟨an, (w64 (f - 1)).toNat * 6, none⟩), .agg (e30Lr g bY bZ).toArray, aL, av, au, .own tyFrame 30 ao1 cap2 l, I, ed.reg, hMx.perm lpr, kf, kf, kf, kf, bo, bp, bq, bv, bw, kf, kf, kf, kf, kf, (nt n), (nt q), (nt x), rfl, ab, af, (fun _ => cv), (fun _ => ec)⟩
    ·
     obtain rfl := oj hi
     have C := hpre 13 (by kernel_rfl)
     have D := hpre 8 (by kernel_rfl)
     have ao := hpre 4 (by kernel_rfl)
     have m := hpre 3 (by kernel_rfl)
     have y := hcl 13 12 (by kernel_rfl) C
     have F := hcl 8 7 (by kernel_rfl) D
     have E := hcl 3 2 (by kernel_rfl) m
     have O := hcl 12 11 (by kernel_rfl) y
     have L := hcl 12 9 (by kernel_rfl) y
     have P := hcl 7 6 (by kernel_rfl) F
     have R := hcl 7 5 (by kernel_rfl) F
     have N := hcl 2 1 (by kernel_rfl) E
     have M := hcl 2 0 (by kernel_rfl) E
     have U := hcl 11 10 (by kernel_rfl) O
     have n := hSi
     have q := ngF hcl 15 14 n
     have x := ngF hcl 16 15 q
     obtain rfl := aM M
     obtain rfl := aN N
     obtain rfl := a6 E
     obtain rfl := bg m
     obtain rfl := bo ao
     obtain rfl := bp R
     obtain rfl := bq P
     obtain rfl := bv F
     obtain rfl := bw D
     obtain rfl := br L
     obtain rfl := bs U
     obtain rfl := bu O
     obtain rfl := bx y
     obtain rfl := bz C
     obtain rfl := Q
     refine hG (any_stepG ?_); intro J hJ
     have ee := hg3.mono I
     have ef := ab F
     have cw := af D
     have eg := ac y
     have cx := ag C
     refine fcl hFx hMx (i6 (rclS H g)) 22 #[.agg (e30Lr H ai aj).toArray, .agg (e30Lr g ak al).toArray] (wK hFx true) rfl (by kernel_rfl) (fun _ => by kernel_rfl) (rcl_fun H g bU ai aj ak al _ _ cw cx ee hMx.fz) ?_; intro gf gg eh ei
     refine nl (qnI (hJ _ _ ?_))
     exact ⟨am, ai, aj, an, ak, al, i6 f, i6 u1, .bool true, .bool true, .func (.func 22) #[] #[], .slice ao1 l.length cap2, i6 f, .pointer (some ⟨am, f.toNat * 6, none⟩), .agg (e30Lr H ai aj).toArray, .slice ao1 l.length cap2, i6 f, i6 (w64 (f - 1)), .pointer (some ⟨an, (w64 (f - 1)).toNat * 6, none⟩), .agg (e30Lr g ak al).toArray, i6 (rclS H g), av, au, .own tyFrame 30 ao1 cap2 l, I, eh.reg, ei.perm lpr, kf, kf, kf, kf, kf, kf, kf, kf, kf, kf, kf, kf, kf, kf, kf, (nt q), (nt x), rfl, (fun _ => ef), (fun _ => cw), (fun _ => eg), (fun _ => cx)⟩
    ·
     obtain rfl := oj hi
     have n := hpre 14 (by kernel_rfl)
     have m := hpre 3 (by kernel_rfl)
     have C := hcl 14 13 (by kernel_rfl) n
     have D := hcl 14 8 (by kernel_rfl) n
     have ao := hcl 14 4 (by kernel_rfl) n
     have E := hcl 3 2 (by kernel_rfl) m
     have y := hcl 13 12 (by kernel_rfl) C
     have F := hcl 8 7 (by kernel_rfl) D
     have N := hcl 2 1 (by kernel_rfl) E
     have M := hcl 2 0 (by kernel_rfl) E
     have O := hcl 12 11 (by kernel_rfl) y
     have L := hcl 12 9 (by kernel_rfl) y
     have P := hcl 7 6 (by kernel_rfl) F
     have R := hcl 7 5 (by kernel_rfl) F
     have U := hcl 11 10 (by kernel_rfl) O
     have q := hSi
     have x := ngF hcl 16 15 q
     obtain rfl := aM M
     obtain rfl := aN N
     obtain rfl := a6 E
     obtain rfl := bg m
     obtain rfl := bo ao
     obtain rfl := bp R
     obtain rfl := bq P
     obtain rfl := bv F
     obtain rfl := bw D
     obtain rfl := br L
     obtain rfl := bs U
     obtain rfl := bu O
     obtain rfl := bx y
     obtain rfl := bz C
     obtain rfl := bP n
     obtain rfl := Q
     refine hG (any_stepG ?_); intro J hJ
     have ej := ab F
     have ek := af D
     have el := ac y
     have em := ag C
     refine g_ hFx true (.bool (decide ((rclS H g) < 0))) ?_; intro gi en
     refine nl (qnI (hJ _ _ ?_))
     exact ⟨am, ai, aj, an, ak, al, i6 f, i6 u1, .bool true, .bool true, .func (.func 22) #[] #[], .slice ao1 l.length cap2, i6 f, .pointer (some ⟨am, f.toNat * 6, none⟩), .agg (e30Lr H ai aj).toArray, .slice ao1 l.length cap2, i6 f, i6 (w64 (f - 1)), .pointer (some ⟨an, (w64 (f - 1)).toNat * 6, none⟩), .agg (e30Lr g ak al).toArray, i6 (rclS H g), .bool (decide ((rclS H g) < 0)), au, .own tyFrame 30 ao1 cap2 l, I, en.reg, hMx.perm lpr, kf, kf, kf, kf, kf, kf, kf, kf, kf, kf, kf, kf, kf, kf, kf, kf, (nt x), rfl, (fun _ => ej), (fun _ => ek), (fun _ => el), (fun _ => em)⟩
    obtain rfl := oj hi
    have q := hpre 15 (by kernel_rfl)
    have m := hpre 3 (by kernel_rfl)
    have n := hcl 15 14 (by kernel_rfl) q
    have E := hcl 3 2 (by kernel_rfl) m
    have C := hcl 14 13 (by kernel_rfl) n
    have D := hcl 14 8 (by kernel_rfl) n
    have ao := hcl 14 4 (by kernel_rfl) n
    have N := hcl 2 1 (by kernel_rfl) E
    have M := hcl 2 0 (by kernel_rfl) E
    have y := hcl 13 12 (by kernel_rfl) C
    have F := hcl 8 7 (by kernel_rfl) D
    have O := hcl 12 11 (by kernel_rfl) y
    have L := hcl 12 9 (by kernel_rfl) y
    have P := hcl 7 6 (by kernel_rfl) F
    have R := hcl 7 5 (by kernel_rfl) F
    have U := hcl 11 10 (by kernel_rfl) O
    obtain rfl := aM M
    obtain rfl := aN N
    obtain rfl := a6 E
    obtain rfl := bg m
    obtain rfl := bo ao
    obtain rfl := bp R
    obtain rfl := bq P
    obtain rfl := bv F
    obtain rfl := bw D
    obtain rfl := br L
    obtain rfl := bs U
    obtain rfl := bu O
    obtain rfl := bx y
    obtain rfl := bz C
    obtain rfl := bP n
    obtain rfl := bV q
    obtain rfl := Q
    refine hG (any_step ?_); intro A J hJ
    have eo := ab F
    have ep := af D
    have eq := ac y
    have er := ag C
    refine s1 hFx 34 (.bool (decide ((rclS H g) < 0))) ?_; intro gk es
    refine nl (qnI (hJ _ _ ?_))
    exact ⟨am, ai, aj, an, ak, al, i6 f, i6 u1, .bool true, .bool true, .func (.func 22) #[] #[], .slice ao1 l.length cap2, i6 f, .pointer (some ⟨am, f.toNat * 6, none⟩), .agg (e30Lr H ai aj).toArray, .slice ao1 l.length cap2, i6 f, i6 (w64 (f - 1)), .pointer (some ⟨an, (w64 (f - 1)).toNat * 6, none⟩), .agg (e30Lr g ak al).toArray, i6 (rclS H g), .bool (decide ((rclS H g) < 0)), .bool (decide ((rclS H g) < 0)), .own tyFrame 30 ao1 cap2 l, I, es.reg, hMx.perm lpr, kf, kf, kf, kf, kf, kf, kf, kf, kf, kf, kf, kf, kf, kf, kf, kf, kf, rfl, (fun _ => eo), (fun _ => ep), (fun _ => eq), (fun _ => er)⟩
   case hE =>
    intro S hS aO gl hI; refine Go.Sy.hid ?_; intro G hG; obtain ⟨am, ai, aj, an, ak, al, bJ, bK, bE, bD, aV, bc, bd, a4, aW, be, bm, bf, a5, aX, aL, av, au, bn, I, hI⟩ := hI; obtain ⟨hFx, hMx, aM, aN, a6, bg, bo, bp, bq, bv, bw, br, bs, bu, bx, bz, bP, bV, cq, Q, ab, af, ac, hI⟩ := hI; have ag := hI; refine hG ?_
    obtain rfl := aM (hS 0 (by decide))
    obtain rfl := aN (hS 1 (by decide))
    obtain rfl := a6 (hS 2 (by decide))
    obtain rfl := bg (hS 3 (by decide))
    obtain rfl := bo (hS 4 (by decide))
    obtain rfl := bp (hS 5 (by decide))
    obtain rfl := bq (hS 6 (by decide))
    obtain rfl := bv (hS 7 (by decide))
    obtain rfl := bw (hS 8 (by decide))
    obtain rfl := br (hS 9 (by decide))
    obtain rfl := bs (hS 10 (by decide))
    obtain rfl := bu (hS 11 (by decide))
    obtain rfl := bx (hS 12 (by decide))
    obtain rfl := bz (hS 13 (by decide))
    obtain rfl := bP (hS 14 (by decide))
    obtain rfl := bV (hS 15 (by decide))
    obtain rfl := cq (hS 16 (by decide))
    obtain rfl := Q
    refine t_ (c_ hFx bO (fun _ et => ?_) fun _ cR => ?_)
    ·
     refine k_ (s_ (b_ ?_))
     have eu : Fr 53 [] [⟨0, [], .slice ao1 l.length cap2⟩, ⟨1, [], i6 u1⟩, ⟨2, [], i6 u2⟩, ⟨3, [], .func (.func 22) #[] #[]⟩, ⟨8, [], i6 x8⟩, ⟨9, [], i6 f⟩] aO := hFx.reg
     obtain ⟨ev, cy⟩ := et
     obtain ⟨p, ew, ex⟩ := gxq cy (by omega)
     obtain ⟨bS, cz⟩ := ex
     obtain ⟨g, bT, ey⟩ := gxq cz (by omega)
     obtain ⟨bU, ez⟩ := ey
     obtain ⟨eA, cA⟩ := ez
     refine any_invE mixed [[], [], [], [], [3], [], [], [6], [5, 7], [8], [], [], [10, 11], [12], [0, 1, 5, 6, 7, 8, 9, 13], [0, 1, 5, 6, 7, 8, 9, 13, 14], [0, 1, 2, 3, 4, 5, 6, 7, 8, 9, 10, 11, 12, 13, 14, 15], [0, 1, 2, 3, 4, 5, 6, 7, 8, 9, 10, 11, 12, 13, 14, 15, 16]] 18 (fun S a w1 => ∃ (ad : Nat) (W : Option Addr) (X : Nat) (ae : Nat) (Y : Option Addr) (aa : Nat) (ah : Nat) (ap : Nat) (aY : Value) (aZ : Value) (aB : Value) (aP : Value) (aC : Value) (bh : Value) (bt : Value) (bi : Value) (a7 : Value) (a1 : Value) (bj : Value) (bk : Value) (a8 : Value) (a2 : Value) (aQ : Value) (ar : Value) (bn : Res), Fz.le Z Z ∧ Fr 53 [] [⟨0, [], .slice ao1 l.length cap2⟩, ⟨1, [], i6 u1⟩, ⟨2, [], i6 u2⟩, ⟨3, [], .func (.func 22) #[] #[]⟩, ⟨8, [], i6 x8⟩, ⟨9, [], i6 f⟩, ⟨37, [], aY⟩, ⟨38, [], aZ⟩, ⟨39, [], aB⟩, ⟨40, [], aP⟩, ⟨41, [], aC⟩, ⟨42, [], bh⟩, ⟨43, [], bt⟩, ⟨44, [], bi⟩, ⟨45, [], a7⟩, ⟨46, [], a1⟩, ⟨47, [], bj⟩, ⟨48, [], bk⟩, ⟨49, [], a8⟩, ⟨50, [], a2⟩, ⟨51, [], aQ⟩, ⟨52, [], ar⟩] a ∧ Mem B [] w0 Z0 (bn :: Rr) Z w1 ∧ (S 0 = true → aY = .slice ao1 l.length cap2) ∧ (S 1 = true → aZ = i6 f) ∧ (S 2 = true → aB = .slice ao1 l.length cap2) ∧ (S 3 = true → aP = i6 f) ∧ (S 4 = true → aC = i6 (w64 (f - 1))) ∧ (S 5 = true → bh = .slice ao1 l.length cap2) ∧ (S 6 = true → bt = i6 f) ∧ (S 7 = true → bi = i6 (w64 (f - 1))) ∧ (S 8 = true → a7 = .pointer (some ⟨ad, (w64 (f - 1)).toNat * 6, none⟩)) ∧ (S 9 = true → a1 = .agg (e30Lr p W X).toArray) ∧ (S 10 = true → bj = .slice ao1 l.length cap2) ∧ (S 11 = true → bk = i6 f) ∧ (S 12 = true → a8 = .pointer (some ⟨ae, f.toNat * 6, none⟩)) ∧ (S 13 = true → a2 = .agg (e30Lr g Y aa).toArray) ∧ (S 14 = true → aQ = .pointer (some ⟨ah, f.toNat * 6, none⟩)) ∧ (S 16 = true → ar = .pointer (some ⟨ap, (w64 (f - 1)).toNat * 6, none⟩)) ∧ (S 15 = false → bn = .own tyFrame 30 ao1 cap2 l) ∧ (S 15 = true → S 17 = false → bn = .own tyFrame 30 ao1 cap2 (l.set f.toNat p)) ∧ (S 17 = true → bn = .own tyFrame 30 ao1 cap2 ((l.set f.toNat p).set (w64 (f - 1)).toNat g)) ∧ (S 8 = true → ao1 = some ⟨ad, 0, none⟩) ∧ (S 9 = true → SlR t8 Z W X p.Data) ∧ (S 12 = true → ao1 = some ⟨ae, 0, none⟩) ∧ (S 13 = true → SlR t8 Z Y aa g.Data) ∧ (S 14 = true → ao1 = some ⟨ah, 0, none⟩) ∧ (S 16 = true → ao1 = some ⟨ap, 0, none⟩)) ?h0 ?hs ?hE
     case h0 =>
      have eB := eu.any 37
      have eC := eB.any 38
      have eD := eC.any 39
      have eE := eD.any 40
      have eF := eE.any 41
      have eG := eF.any 42
      have eH := eG.any 43
      have eI := eH.any 44
      have eJ := eI.any 45
      have eK := eJ.any 46
      have eL := eK.any 47
      have eM := eL.any 48
      have eN := eM.any 49
      have eO := eN.any 50
      have eP := eO.any 51
      have eQ := eP.any 52
      have eR := (hMx.perm lpr).drew
      exact ⟨0, none, 0, 0, none, 0, 0, 0, aO.tmps.getD 37 undef, aO.tmps.getD 38 undef, aO.tmps.getD 39 undef, aO.tmps.getD 40 undef, aO.tmps.getD 41 undef, aO.tmps.getD 42 undef, aO.tmps.getD 43 undef, aO.tmps.getD 44 undef, aO.tmps.getD 45 undef, aO.tmps.getD 46 undef, aO.tmps.getD 47 undef, aO.tmps.getD 48 undef, aO.tmps.getD 49 undef, aO.tmps.getD 50 undef, aO.tmps.getD 51 undef, aO.tmps.getD 52 undef, .own tyFrame 30 ao1 cap2 l, Fz.le.refl _, eQ.reg, eR, ff, ff, ff, ff, ff, ff, ff, ff, ff, ff, ff, ff, ff, ff, ff, ff, kf, ff, ff, ff, ff, ff, ff, ff, ff⟩
     case hs =>
      intro S hcl i o hil hi hSi hpre a w1 hI; refine Go.Sy.hid ?_; intro G hG; obtain ⟨ad, W, X, ae, Y, aa, ah, ap, aY, aZ, aB, aP, aC, bh, bt, bi, a7, a1, bj, bk, a8, a2, aQ, ar, bn, hI⟩ := hI; obtain ⟨j, hFx, hMx, aD, aE, aF, aG, aR, aH, aI, aS, ba, bl, aJ, aK, a3, bb, bA, b1, Q, bF, cB, ab, af, ac, hI⟩ := hI; obtain ⟨ag, bB, hI⟩ := hI; have b2 := hI
      have hcase : i = 0 ∨ i = 1 ∨ i = 2 ∨ i = 3 ∨ i = 4 ∨ i = 5 ∨ i = 6 ∨ i = 7 ∨ i = 8 ∨ i = 9 ∨ i = 10 ∨ i = 11 ∨ i = 12 ∨ i = 13 ∨ i = 14 ∨ i = 15 ∨ i = 16 ∨ i = 17 := by clear hi; omega
      rcases hcase with rfl | rfl | rfl | rfl | rfl | rfl | rfl | rfl | rfl | rfl | rfl | rfl | rfl | rfl | rfl | rfl | rfl | rfl
      ·
       obtain rfl := oj hi
       have M := hSi
       have n := ngF hcl 14 0 M
       have q := ngF hcl 15 0 M
       have x := ngF hcl 16 0 M
       have V := ngF hcl 17 0 M
       obtain rfl := Q q
       refine hG (any_step ?_); intro A J hJ
       refine s1 hFx 37 (.slice ao1 l.length cap2) ?_; intro gr eS
       refine nl (qnI (hJ _ _ ?_))
       exact ⟨ad, W, X, ae, Y, aa, ah, ap, .slice ao1 l.length cap2, aZ, aB, aP, aC, bh, bt, bi, a7, a1, bj, bk, a8, a2, aQ, ar, .own tyFrame 30 ao1 cap2 l, j, eS.reg, hMx.perm lpr, kf, aE, aF, aG, aR, aH, aI, aS, ba, bl, aJ, aK, a3, bb, (nt n), (nt x), kf, (fun h _ => nt q h), (nt V), ab, af, ac, ag, (nt n), (nt x)⟩
      ·
       obtain rfl := oj hi
       have N := hSi
       have n := ngF hcl 14 1 N
       have q := ngF hcl 15 1 N
       have x := ngF hcl 16 1 N
       have V := ngF hcl 17 1 N
       obtain rfl := Q q
       refine hG (any_step ?_); intro A J hJ
       refine s1 hFx 38 (i6 f) ?_; intro gx eT
       refine nl (qnI (hJ _ _ ?_))
       exact ⟨ad, W, X, ae, Y, aa, ah, ap, aY, i6 f, aB, aP, aC, bh, bt, bi, a7, a1, bj, bk, a8, a2, aQ, ar, .own tyFrame 30 ao1 cap2 l, j, eT.reg, hMx.perm lpr, aD, kf, aF, aG, aR, aH, aI, aS, ba, bl, aJ, aK, a3, bb, (nt n), (nt x), kf, (fun h _ => nt q h), (nt V), ab, af, ac, ag, (nt n), (nt x)⟩
      ·
       obtain rfl := oj hi
       have E := hSi
       have x := ngF hcl 16 2 E
       have V := ngF hcl 17 2 E
       refine hG (any_step ?_); intro A J hJ
       refine s1 hFx 39 (.slice ao1 l.length cap2) ?_; intro gD eU
       refine nl (qnI (hJ _ _ ?_))
       exact ⟨ad, W, X, ae, Y, aa, ah, ap, aY, aZ, .slice ao1 l.length cap2, aP, aC, bh, bt, bi, a7, a1, bj, bk, a8, a2, aQ, ar, bn, j, eU.reg, hMx.perm lpr, aD, aE, kf, aG, aR, aH, aI, aS, ba, bl, aJ, aK, a3, bb, bA, (nt x), Q, bF, (nt V), ab, af, ac, ag, bB, (nt x)⟩
      ·
       obtain rfl := oj hi
       have m := hSi
       have ao := ngF hcl 4 3 m
       have x := ngF hcl 16 3 m
       have V := ngF hcl 17 3 m
       refine hG (any_step ?_); intro A J hJ
       refine s1 hFx 40 (i6 f) ?_; intro gJ eV
       refine nl (qnI (hJ _ _ ?_))
       exact ⟨ad, W, X, ae, Y, aa, ah, ap, aY, aZ, aB, i6 f, aC, bh, bt, bi, a7, a1, bj, bk, a8, a2, aQ, ar, bn, j, eV.reg, hMx.perm lpr, aD, aE, aF, kf, (nt ao), aH, aI, aS, ba, bl, aJ, aK, a3, bb, bA, (nt x), Q, bF, (nt V), ab, af, ac, ag, bB, (nt x)⟩
      ·
       obtain rfl := oj hi
       have m := hpre 3 (by kernel_rfl)
       have ao := hSi
       have x := ngF hcl 16 4 ao
       have V := ngF hcl 17 4 ao
       obtain rfl := aG m
       refine hG (any_step ?_); intro A J hJ
       refine s1 hFx 41 (i6 (w64 (f - 1))) ?_; intro gP eW
       refine nl (qnI (hJ _ _ ?_))
       exact ⟨ad, W, X, ae, Y, aa, ah, ap, aY, aZ, aB, i6 f, i6 (w64 (f - 1)), bh, bt, bi, a7, a1, bj, bk, a8, a2, aQ, ar, bn, j, eW.reg, hMx.perm lpr, aD, aE, aF, kf, kf, aH, aI, aS, ba, bl, aJ, aK, a3, bb, bA, (nt x), Q, bF, (nt V), ab, af, ac, ag, bB, (nt x)⟩
      ·
       obtain rfl := oj hi
       have R := hSi
       have D := ngF hcl 8 5 R
       have L := ngF hcl 9 8 D
       have n := ngF hcl 14 5 R
       have q := ngF hcl 15 5 R
       have x := ngF hcl 16 5 R
       have V := ngF hcl 17 5 R
       obtain rfl := Q q
       refine hG (any_step ?_); intro A J hJ
       refine s1 hFx 42 (.slice ao1 l.length cap2) ?_; intro gV eX
       refine nl (qnI (hJ _ _ ?_))
       exact ⟨ad, W, X, ae, Y, aa, ah, ap, aY, aZ, aB, aP, aC, .slice ao1 l.length cap2, bt, bi, a7, a1, bj, bk, a8, a2, aQ, ar, .own tyFrame 30 ao1 cap2 l, j, eX.reg, hMx.perm lpr, aD, aE, aF, aG, aR, kf, aI, aS, (nt D), (nt L), aJ, aK, a3, bb, (nt n), (nt x), kf, (fun h _ => nt q h), (nt V), (nt D), (nt L), ac, ag, (nt n), (nt x)⟩
      ·
       obtain rfl := oj hi
       have P := hSi
       have F := ngF hcl 7 6 P
       have D := ngF hcl 8 7 F
       have L := ngF hcl 9 8 D
       have n := ngF hcl 14 6 P
       have q := ngF hcl 15 6 P
       have x := ngF hcl 16 6 P
       have V := ngF hcl 17 6 P
       obtain rfl := Q q
       refine hG (any_step ?_); intro A J hJ
       refine s1 hFx 43 (i6 f) ?_; intro g1 eY
       refine nl (qnI (hJ _ _ ?_))
       exact ⟨ad, W, X, ae, Y, aa, ah, ap, aY, aZ, aB, aP, aC, bh, i6 f, bi, a7, a1, bj, bk, a8, a2, aQ, ar, .own tyFrame 30 ao1 cap2 l, j, eY.reg, hMx.perm lpr, aD, aE, aF, aG, aR, aH, kf, (nt F), (nt D), (nt L), aJ, aK, a3, bb, (nt n), (nt x), kf, (fun h _ => nt q h), (nt V), (nt D), (nt L), ac, ag, (nt n), (nt x)⟩
      ·
       obtain rfl := oj hi
       have P := hpre 6 (by kernel_rfl)
       have F := hSi
       have D := ngF hcl 8 7 F
       have L := ngF hcl 9 8 D
       have n := ngF hcl 14 7 F
       have q := ngF hcl 15 7 F
       have x := ngF hcl 16 7 F
       have V := ngF hcl 17 7 F
       obtain rfl := aI P
       obtain rfl := Q q
       refine hG (any_step ?_); intro A J hJ
       refine s1 hFx 44 (i6 (w64 (f - 1))) ?_; intro g7 eZ
       refine nl (qnI (hJ _ _ ?_))
       exact ⟨ad, W, X, ae, Y, aa, ah, ap, aY, aZ, aB, aP, aC, bh, i6 f, i6 (w64 (f - 1)), a7, a1, bj, bk, a8, a2, aQ, ar, .own tyFrame 30 ao1 cap2 l, j, eZ.reg, hMx.perm lpr, aD, aE, aF, aG, aR, aH, kf, kf, (nt D), (nt L), aJ, aK, a3, bb, (nt n), (nt x), kf, (fun h _ => nt q h), (nt V), (nt D), (nt L), ac, ag, (nt n), (nt x)⟩
      ·
       obtain rfl := oj hi
       have F := hpre 7 (by kernel_rfl)
       have R := hpre 5 (by kernel_rfl)
       have P := hcl 7 6 (by kernel_rfl) F
       have D := hSi
       have L := ngF hcl 9 8 D
       have n := ngF hcl 14 8 D
       have q := ngF hcl 15 8 D
       have x := ngF hcl 16 8 D
       have V := ngF hcl 17 8 D
       obtain rfl := aH R
       obtain rfl := aI P
       obtain rfl := aS F
       obtain rfl := Q q
       refine hG (any_step ?_); intro A J hJ
       refine ixo hFx hMx 0 (T := tyFrame) (xs := l) (w64 (f - 1)) (by simpa only [List.length_set] using ev) (k := .i64) (e := 30) (bytes := 48) (nog rfl _) rfl (by kernel_rfl) rfl (by kernel_rfl) (by kernel_rfl) rfl (by kernel_rfl) ?_; intro cC hd e0 e1
       refine nl (qnI (hJ _ _ ?_))
       exact ⟨cC, W, X, ae, Y, aa, ah, ap, aY, aZ, aB, aP, aC, .slice ao1 l.length cap2, i6 f, i6 (w64 (f - 1)), .pointer (some ⟨cC, (w64 (f - 1)).toNat * 6, none⟩), a1, bj, bk, a8, a2, aQ, ar, .own tyFrame 30 ao1 cap2 l, j, e1.reg, hMx.perm lpr, aD, aE, aF, aG, aR, kf, kf, kf, kf, (nt L), aJ, aK, a3, bb, (nt n), (nt x), kf, (fun h _ => nt q h), (nt V), (fun _ => e0), (nt L), ac, ag, (nt n), (nt x)⟩
      ·
       obtain rfl := oj hi
       have D := hpre 8 (by kernel_rfl)
       have F := hcl 8 7 (by kernel_rfl) D
       have R := hcl 8 5 (by kernel_rfl) D
       have P := hcl 7 6 (by kernel_rfl) F
       have L := hSi
       have n := ngF hcl 14 9 L
       have q := ngF hcl 15 9 L
       have x := ngF hcl 16 9 L
       have V := ngF hcl 17 9 L
       obtain rfl := aH R
       obtain rfl := aI P
       obtain rfl := aS F
       obtain rfl := ba D
       obtain rfl := Q q
       refine hG (any_step ?_); intro A J hJ
       have cD := ab D
       obtain ⟨hk, e2, e3⟩ := own_elx hMx 0 (T := tyFrame) (xs := l) rfl cD (w64 (f - 1)).toNat ew
       obtain ⟨b3, b4, rfl, e4⟩ := e2
       refine lc2 hFx 46 6 (e30Lr p b3 b4) e3 rfl ?_; intro hl e5
       refine nl (qnI (hJ _ _ ?_))
       exact ⟨ad, b3, b4, ae, Y, aa, ah, ap, aY, aZ, aB, aP, aC, .slice ao1 l.length cap2, i6 f, i6 (w64 (f - 1)), .pointer (some ⟨ad, (w64 (f - 1)).toNat * 6, none⟩), .agg (e30Lr p b3 b4).toArray, bj, bk, a8, a2, aQ, ar, .own tyFrame 30 ao1 cap2 l, j, e5.reg, hMx.perm lpr, aD, aE, aF, aG, aR, kf, kf, kf, kf, kf, aJ, aK, a3, bb, (nt n), (nt x), kf, (fun h _ => nt q h), (nt V), (fun _ => cD), (fun _ => e4), ac, ag, (nt n), (nt x)⟩
      ·
       obtain rfl := oj hi
       have U := hSi
       have y := ngF hcl 12 10 U
       have C := ngF hcl 13 12 y
       have n := ngF hcl 14 13 C
       have q := ngF hcl 15 13 C
       have x := ngF hcl 16 10 U
       have V := ngF hcl 17 10 U
       obtain rfl := Q q
       refine hG (any_step ?_); intro A J hJ
       refine s1 hFx 47 (.slice ao1 l.length cap2) ?_; intro ht e6
       refine nl (qnI (hJ _ _ ?_))
       exact ⟨ad, W, X, ae, Y, aa, ah, ap, aY, aZ, aB, aP, aC, bh, bt, bi, a7, a1, .slice ao1 l.length cap2, bk, a8, a2, aQ, ar, .own tyFrame 30 ao1 cap2 l, j, e6.reg, hMx.perm lpr, aD, aE, aF, aG, aR, aH, aI, aS, ba, bl, kf, aK, (nt y), (nt C), (nt n), (nt x), kf, (fun h _ => nt q h), (nt V), ab, af, (nt y), (nt C), (nt n), (nt x)⟩
      ·
       obtain rfl := oj hi
       have O := hSi
       have y := ngF hcl 12 11 O
       have C := ngF hcl 13 12 y
       have n := ngF hcl 14 13 C
       have q := ngF hcl 15 13 C
       have x := ngF hcl 16 11 O
       have V := ngF hcl 17 11 O
       obtain rfl := Q q
       refine hG (any_step ?_); intro A J hJ
       refine s1 hFx 48 (i6 f) ?_; intro hA e7
       refine nl (qnI (hJ _ _ ?_))
       exact ⟨ad, W, X, ae, Y, aa, ah, ap, aY, aZ, aB, aP, aC, bh, bt, bi, a7, a1, bj, i6 f, a8, a2, aQ, ar, .own tyFrame 30 ao1 cap2 l, j, e7.reg, hMx.perm lpr, aD, aE, aF, aG, aR, aH, aI, aS, ba, bl, aJ, kf, (nt y), (nt C), (nt n), (nt x), kf, (fun h _ => nt q h), (nt V), ab, af, (nt y), (nt C), (nt n), (nt x)⟩
      ·
       obtain rfl := oj hi
       have O := hpre 11 (by kernel_rfl)
       have U := hpre 10 (by kernel_rfl)
       have y := hSi
       have C := ngF hcl 13 12 y
       have n := ngF hcl 14 13 C
       have q := ngF hcl 15 13 C
       have x := ngF hcl 16 12 y
       have V := ngF hcl 17 12 y
       obtain rfl := aJ U
       obtain rfl := aK O
       obtain rfl := Q q
       refine hG (any_step ?_); intro A J hJ
       refine ixo hFx hMx 0 (T := tyFrame) (xs := l) f (by simpa only [List.length_set] using bS) (k := .i64) (e := 30) (bytes := 48) (nog rfl _) rfl (by kernel_rfl) rfl (by kernel_rfl) (by kernel_rfl) rfl (by kernel_rfl) ?_; intro cE hK e8 e9
       refine nl (qnI (hJ _ _ ?_))
       exact ⟨ad, W, X, cE, Y, aa, ah, ap, aY, aZ, aB, aP, aC, bh, bt, bi, a7, a1, .slice ao1 l.length cap2, i6 f, .pointer (some ⟨cE, f.toNat * 6, none⟩), a2, aQ, ar, .own tyFrame 30 ao1 cap2 l, j, e9.reg, hMx.perm lpr, aD, aE, aF, aG, aR, aH, aI, aS, ba, bl, kf, kf, kf, (nt C), (nt n), (nt x), kf, (fun h _ => nt q h), (nt V), ab, af, (fun _ => e8), (nt C), (nt n), (nt x)⟩
      ·
       obtain rfl := oj hi
       have y := hpre 12 (by kernel_rfl)
       have O := hcl 12 11 (by kernel_rfl) y
       have U := hcl 12 10 (by kernel_rfl) y
       have C := hSi
       have n := ngF hcl 14 13 C
       have q := ngF hcl 15 13 C
       have x := ngF hcl 16 13 C
       have V := ngF hcl 17 13 C
       obtain rfl := aJ U
       obtain rfl := aK O
       obtain rfl := a3 y
       obtain rfl := Q q
       refine hG (any_step ?_); intro A J hJ
       have cF := ac y
       obtain ⟨hQ, fa, fb⟩ := own_elx hMx 0 (T := tyFrame) (xs := l) rfl cF f.toNat bT
       obtain ⟨b5, b6, rfl, fc⟩ := fa
       refine lc2 hFx 50 6 (e30Lr g b5 b6) fb rfl ?_; intro hR fd
       refine nl (qnI (hJ _ _ ?_))
       exact ⟨ad, W, X, ae, b5, b6, ah, ap, aY, aZ, aB, aP, aC, bh, bt, bi, a7, a1, .slice ao1 l.length cap2, i6 f, .pointer (some ⟨ae, f.toNat * 6, none⟩), .agg (e30Lr g b5 b6).toArray, aQ, ar, .own tyFrame 30 ao1 cap2 l, j, fd.reg, hMx.perm lpr, aD, aE, aF, aG, aR, aH, aI, aS, ba, bl, kf, kf, kf, kf, (nt n), (nt x), kf, (fun h _ => nt q h), (nt V), ab, af, (fun _ => cF), (fun _ => fc), (nt n), (nt x)⟩
      ·
       obtain rfl := oj hi
       have C := hpre 13 (by kernel_rfl)
       have L := hpre 9 (by kernel_rfl)
       have D := hpre 8 (by kernel_rfl)
       have F := hpre 7 (by kernel_rfl)
       have P := hpre 6 (by kernel_rfl)
       have R := hpre 5 (by kernel_rfl)
       have N := hpre 1 (by kernel_rfl)
       have M := hpre 0 (by kernel_rfl)
       have y := hcl 13 12 (by kernel_rfl) C
       have O := hcl 12 11 (by kernel_rfl) y
       have U := hcl 12 10 (by kernel_rfl) y
       have n := hSi
       have q := ngF hcl 15 14 n
       have x := ngF hcl 16 14 n
       have V := ngF hcl 17 14 n
       obtain rfl := aD M
       obtain rfl := aE N
       obtain rfl := aH R
       obtain rfl := aI P
       obtain rfl := aS F
       obtain rfl := ba D
       obtain rfl := bl L
       obtain rfl := aJ U
       obtain rfl := aK O
       obtain rfl := a3 y
       obtain rfl := bb C
       obtain rfl := Q q
       refine hG (any_step ?_); intro A J hJ
       have fe := ab D
       have fg := af L
       have fh := ac y
       have fi := ag C
       refine ixo hFx hMx 0 (T := tyFrame) (xs := l) f (by simpa only [List.length_set] using bU) (k := .i64) (e := 30) (bytes := 48) (nog rfl _) rfl (by kernel_rfl) rfl (by kernel_rfl) (by kernel_rfl) rfl (by kernel_rfl) ?_; intro cG hY fj fk
       refine nl (qnI (hJ _ _ ?_))
       exact ⟨ad, W, X, ae, Y, aa, cG, ap, .slice ao1 l.length cap2, i6 f, aB, aP, aC, .slice ao1 l.length cap2, i6 f, i6 (w64 (f - 1)), .pointer (some ⟨ad, (w64 (f - 1)).toNat * 6, none⟩), .agg (e30Lr p W X).toArray, .slice ao1 l.length cap2, i6 f, .pointer (some ⟨ae, f.toNat * 6, none⟩), .agg (e30Lr g Y aa).toArray, .pointer (some ⟨cG, f.toNat * 6, none⟩), ar, .own tyFrame 30 ao1 cap2 l, j, fk.reg, hMx.perm lpr, kf, kf, aF, aG, aR, kf, kf, kf, kf, kf, kf, kf, kf, kf, kf, (nt x), kf, (fun h _ => nt q h), (nt V), (fun _ => fe), (fun _ => fg), (fun _ => fh), (fun _ => fi), (fun _ => fj), (nt x)⟩
      ·
       obtain rfl := oj hi
       have n := hpre 14 (by kernel_rfl)
       have C := hpre 13 (by kernel_rfl)
       have L := hpre 9 (by kernel_rfl)
       have D := hpre 8 (by kernel_rfl)
       have F := hpre 7 (by kernel_rfl)
       have P := hpre 6 (by kernel_rfl)
       have R := hpre 5 (by kernel_rfl)
       have N := hpre 1 (by kernel_rfl)
       have M := hpre 0 (by kernel_rfl)
       have y := hcl 13 12 (by kernel_rfl) C
       have O := hcl 12 11 (by kernel_rfl) y
       have U := hcl 12 10 (by kernel_rfl) y
       have q := hSi
       have x := ngF hcl 16 15 q
       have V := ngF hcl 17 15 q
       obtain rfl := aD M
       obtain rfl := aE N
       obtain rfl := aH R
       obtain rfl := aI P
       obtain rfl := aS F
       obtain rfl := ba D
       obtain rfl := bl L
       obtain rfl := aJ U
       obtain rfl := aK O
       obtain rfl := a3 y
       obtain rfl := bb C
       obtain rfl := bA n
       obtain rfl := Q q
       refine hG (any_step ?_); intro A J hJ
       have fl := ab D
       have cH := af L
       have fm := ac y
       have fo := ag C
       have cI := bB n
       refine sox hFx hMx 0 cI (T := tyFrame) (xs := l) f.toNat p (u := .agg (e30Lr p W X).toArray) (nog rfl _) rfl rfl (by kernel_rfl) rfl (by kernel_rfl) rfl (by kernel_rfl) (by first | omega | (simp only [List.length_set] at *; omega)) ⟨W, X, rfl, cH⟩ ?_; intro h6 fp
       refine nl (qnI (hJ _ _ ?_))
       exact ⟨ad, W, X, ae, Y, aa, ah, ap, .slice ao1 l.length cap2, i6 f, aB, aP, aC, .slice ao1 l.length cap2, i6 f, i6 (w64 (f - 1)), .pointer (some ⟨ad, (w64 (f - 1)).toNat * 6, none⟩), .agg (e30Lr p W X).toArray, .slice ao1 l.length cap2, i6 f, .pointer (some ⟨ae, f.toNat * 6, none⟩), .agg (e30Lr g Y aa).toArray, .pointer (some ⟨ah, f.toNat * 6, none⟩), ar, .own tyFrame 30 ao1 cap2 (l.set f.toNat p), j, hFx.reg, fp.perm lpr, kf, kf, aF, aG, aR, kf, kf, kf, kf, kf, kf, kf, kf, kf, kf, (nt x), nu, kf2, (nt V), (fun _ => fl), (fun _ => cH), (fun _ => fm), (fun _ => fo), (fun _ => cI), (nt x)⟩
      ·
       obtain rfl := oj hi
       have q := hpre 15 (by kernel_rfl)
       have n := hpre 14 (by kernel_rfl)
       have C := hpre 13 (by kernel_rfl)
       have y := hpre 12 (by kernel_rfl)
       have O := hpre 11 (by kernel_rfl)
       have U := hpre 10 (by kernel_rfl)
       have L := hpre 9 (by kernel_rfl)
       have D := hpre 8 (by kernel_rfl)
       have F := hpre 7 (by kernel_rfl)
       have P := hpre 6 (by kernel_rfl)
       have R := hpre 5 (by kernel_rfl)
       have ao := hpre 4 (by kernel_rfl)
       have m := hpre 3 (by kernel_rfl)
       have E := hpre 2 (by kernel_rfl)
       have N := hpre 1 (by kernel_rfl)
       have M := hpre 0 (by kernel_rfl)
       have x := hSi
       have V := ngF hcl 17 16 x
       obtain rfl := aD M
       obtain rfl := aE N
       obtain rfl := aF E
       obtain rfl := aG m
       obtain rfl := aR ao
       obtain rfl := aH R
       obtain rfl := aI P
       obtain rfl := aS F
       obtain rfl := ba D
       obtain rfl := bl L
       obtain rfl := aJ U
       obtain rfl := aK O
       obtain rfl := a3 y
       obtain rfl := bb C
       obtain rfl := bA n
       obtain rfl := bF q V
       refine hG (any_step ?_); intro A J hJ
       have fq := ab D
       have fr := af L
       have fs := ac y
       have ft := ag C
       have fu := bB n
       have aT : (l.set f.toNat p).length = l.length := by first | assumption | omega | (dsimp only at *; omega) | (simp; try omega)
       have cJ : Fr 53 [] [⟨0, [], .slice ao1 (l.set f.toNat p).length cap2⟩, ⟨1, [], i6 u1⟩, ⟨2, [], i6 u2⟩, ⟨3, [], .func (.func 22) #[] #[]⟩, ⟨8, [], i6 x8⟩, ⟨9, [], i6 f⟩, ⟨37, [], .slice ao1 (l.set f.toNat p).length cap2⟩, ⟨38, [], i6 f⟩, ⟨39, [], .slice ao1 (l.set f.toNat p).length cap2⟩, ⟨40, [], i6 f⟩, ⟨41, [], i6 (w64 (f - 1))⟩, ⟨42, [], .slice ao1 (l.set f.toNat p).length cap2⟩, ⟨43, [], i6 f⟩, ⟨44, [], i6 (w64 (f - 1))⟩, ⟨45, [], .pointer (some ⟨ad, (w64 (f - 1)).toNat * 6, none⟩)⟩, ⟨46, [], .agg (e30Lr p W X).toArray⟩, ⟨47, [], .slice ao1 (l.set f.toNat p).length cap2⟩, ⟨48, [], i6 f⟩, ⟨49, [], .pointer (some ⟨ae, f.toNat * 6, none⟩)⟩, ⟨50, [], .agg (e30Lr g Y aa).toArray⟩, ⟨51, [], .pointer (some ⟨ah, f.toNat * 6, none⟩)⟩, ⟨52, [], ar⟩] a := by rw [aT]; exact hFx.reg
       refine ixo cJ hMx 0 (T := tyFrame) (xs := l.set f.toNat p) (w64 (f - 1)) (by simpa only [List.length_set] using eA) (k := .i64) (e := 30) (bytes := 48) (nog rfl _) rfl (by kernel_rfl) rfl (by kernel_rfl) (by kernel_rfl) rfl (by kernel_rfl) ?_; intro cK ic fv cL
       refine nl (qnI (hJ _ _ ?_))
       rw [aT] at cL
       exact ⟨ad, W, X, ae, Y, aa, ah, cK, .slice ao1 l.length cap2, i6 f, .slice ao1 l.length cap2, i6 f, i6 (w64 (f - 1)), .slice ao1 l.length cap2, i6 f, i6 (w64 (f - 1)), .pointer (some ⟨ad, (w64 (f - 1)).toNat * 6, none⟩), .agg (e30Lr p W X).toArray, .slice ao1 l.length cap2, i6 f, .pointer (some ⟨ae, f.toNat * 6, none⟩), .agg (e30Lr g Y aa).toArray, .pointer (some ⟨ah, f.toNat * 6, none⟩), .pointer (some ⟨cK, (w64 (f - 1)).toNat * 6, none⟩), .own tyFrame 30 ao1 cap2 (l.set f.toNat p), j, cL.reg, hMx.perm lpr, (fun _ => by first | rfl | rw [aT]), (fun _ => by first | rfl | rw [aT]), (fun _ => by first | rfl | rw [aT]), (fun _ => by first | rfl | rw [aT]), (fun _ => by first | rfl | rw [aT]), (fun _ => by first | rfl | rw [aT]), (fun _ => by first | rfl | rw [aT]), (fun _ => by first | rfl | rw [aT]), (fun _ => by first | rfl | rw [aT]), (fun _ => by first | rfl | rw [aT]), (fun _ => by first | rfl | rw [aT]), (fun _ => by first | rfl | rw [aT]), (fun _ => by first | rfl | rw [aT]), (fun _ => by first | rfl | rw [aT]), (fun _ => by first | rfl | rw [aT]), (fun _ => by first | rfl | rw [aT]), (tn q), kf2, (nt V), (fun _ => fq), (fun _ => fr), (fun _ => fs), (fun _ => ft), (fun _ => fu), (fun _ => fv)⟩
      obtain rfl := oj hi
      have x := hpre 16 (by kernel_rfl)
      have q := hpre 15 (by kernel_rfl)
      have n := hpre 14 (by kernel_rfl)
      have C := hpre 13 (by kernel_rfl)
      have y := hpre 12 (by kernel_rfl)
      have O := hpre 11 (by kernel_rfl)
      have U := hpre 10 (by kernel_rfl)
      have L := hpre 9 (by kernel_rfl)
      have D := hpre 8 (by kernel_rfl)
      have F := hpre 7 (by kernel_rfl)
      have P := hpre 6 (by kernel_rfl)
      have R := hpre 5 (by kernel_rfl)
      have ao := hpre 4 (by kernel_rfl)
      have m := hpre 3 (by kernel_rfl)
      have E := hpre 2 (by kernel_rfl)
      have N := hpre 1 (by kernel_rfl)
      have M := hpre 0 (by kernel_rfl)
      have V := hSi
      obtain rfl := aD M
      obtain rfl := aE N
      obtain rfl := aF E
      obtain rfl := aG m
      obtain rfl := aR ao
      obtain rfl := aH R
      obtain rfl := aI P
      obtain rfl := aS F
      obtain rfl := ba D
      obtain rfl := bl L
      obtain rfl := aJ U
      obtain rfl := aK O
      obtain rfl := a3 y
      obtain rfl := bb C
      obtain rfl := bA n
      obtain rfl := b1 x
      obtain rfl := bF q V
      refine hG (any_step ?_); intro A J hJ
      have fw := ab D
      have fx := af L
      have fy := ac y
      have cM := ag C
      have fA := bB n
      have cN := b2 x
      have aU : (l.set f.toNat p).length = l.length := by first | assumption | omega | (dsimp only at *; omega) | (simp; try omega)
      have b7 : Fr 53 [] [⟨0, [], .slice ao1 (l.set f.toNat p).length cap2⟩, ⟨1, [], i6 u1⟩, ⟨2, [], i6 u2⟩, ⟨3, [], .func (.func 22) #[] #[]⟩, ⟨8, [], i6 x8⟩, ⟨9, [], i6 f⟩, ⟨37, [], .slice ao1 (l.set f.toNat p).length cap2⟩, ⟨38, [], i6 f⟩, ⟨39, [], .slice ao1 (l.set f.toNat p).length cap2⟩, ⟨40, [], i6 f⟩, ⟨41, [], i6 (w64 (f - 1))⟩, ⟨42, [], .slice ao1 (l.set f.toNat p).length cap2⟩, ⟨43, [], i6 f⟩, ⟨44, [], i6 (w64 (f - 1))⟩, ⟨45, [], .pointer (some ⟨ad, (w64 (f - 1)).toNat * 6, none⟩)⟩, ⟨46, [], .agg (e30Lr p W X).toArray⟩, ⟨47, [], .slice ao1 (l.set f.toNat p).length cap2⟩, ⟨48, [], i6 f⟩, ⟨49, [], .pointer (some ⟨ae, f.toNat * 6, none⟩)⟩, ⟨50, [], .agg (e30Lr g Y aa).toArray⟩, ⟨51, [], .pointer (some ⟨ah, f.toNat * 6, none⟩)⟩, ⟨52, [], .pointer (some ⟨ap, (w64 (f - 1)).toNat * 6, none⟩)⟩] a := by rw [aU]; exact hFx.reg
      refine sox b7 hMx 0 cN (T := tyFrame) (xs := l.set f.toNat p) (w64 (f - 1)).toNat g (u := .agg (e30Lr g Y aa).toArray) (nog rfl _) rfl rfl (by kernel_rfl) rfl (by kernel_rfl) rfl (by kernel_rfl) (by first | omega | (simp only [List.length_set] at *; omega)) ⟨Y, aa, rfl, cM⟩ ?_; intro ij fB
      refine nl (qnI (hJ _ _ ?_))
      rw [aU] at b7
      exact ⟨ad, W, X, ae, Y, aa, ah, ap, .slice ao1 l.length cap2, i6 f, .slice ao1 l.length cap2, i6 f, i6 (w64 (f - 1)), .slice ao1 l.length cap2, i6 f, i6 (w64 (f - 1)), .pointer (some ⟨ad, (w64 (f - 1)).toNat * 6, none⟩), .agg (e30Lr p W X).toArray, .slice ao1 l.length cap2, i6 f, .pointer (some ⟨ae, f.toNat * 6, none⟩), .agg (e30Lr g Y aa).toArray, .pointer (some ⟨ah, f.toNat * 6, none⟩), .pointer (some ⟨ap, (w64 (f - 1)).toNat * 6, none⟩), .own tyFrame 30 ao1 cap2 ((l.set f.toNat p).set (w64 (f - 1)).toNat g), j, b7.reg, fB.perm lpr, (fun _ => by first | rfl | rw [aU]), (fun _ => by first | rfl | rw [aU]), (fun _ => by first | rfl | rw [aU]), (fun _ => by first | rfl | rw [aU]), (fun _ => by first | rfl | rw [aU]), (fun _ => by first | rfl | rw [aU]), (fun _ => by first | rfl | rw [aU]), (fun _ => by first | rfl | rw [aU]), (fun _ => by first | rfl | rw [aU]), (fun _ => by first | rfl | rw [aU]), (fun _ => by first | rfl | rw [aU]), (fun _ => by first | rfl | rw [aU]), (fun _ => by first | rfl | rw [aU]), (fun _ => by first | rfl | rw [aU]), (fun _ => by first | rfl | rw [aU]), (fun _ => by first | rfl | rw [aU]), (tn q), (fun _ => nu), kf, (fun _ => fw), (fun _ => fx), (fun _ => fy), (fun _ => cM), (fun _ => fA), (fun _ => cN)⟩
     case hE =>
      intro S hS cO ik hI; refine Go.Sy.hid ?_; intro G hG; obtain ⟨ad, W, X, ae, Y, aa, ah, ap, aY, aZ, aB, aP, aC, bh, bt, bi, a7, a1, bj, bk, a8, a2, aQ, ar, bn, hI⟩ := hI; obtain ⟨j, hFx, hMx, aD, aE, aF, aG, aR, aH, aI, aS, ba, bl, aJ, aK, a3, bb, bA, b1, Q, bF, cB, ab, af, ac, hI⟩ := hI; obtain ⟨ag, bB, hI⟩ := hI; refine hG ?_
      obtain rfl := aD (hS 0 (by decide))
      obtain rfl := aE (hS 1 (by decide))
      obtain rfl := aF (hS 2 (by decide))
      obtain rfl := aG (hS 3 (by decide))
      obtain rfl := aR (hS 4 (by decide))
      obtain rfl := aH (hS 5 (by decide))
      obtain rfl := aI (hS 6 (by decide))
      obtain rfl := aS (hS 7 (by decide))
      obtain rfl := ba (hS 8 (by decide))
      obtain rfl := bl (hS 9 (by decide))
      obtain rfl := aJ (hS 10 (by decide))
      obtain rfl := aK (hS 11 (by decide))
      obtain rfl := a3 (hS 12 (by decide))
      obtain rfl := bb (hS 13 (by decide))
      obtain rfl := bA (hS 14 (by decide))
      obtain rfl := b1 (hS 16 (by decide))
      obtain rfl := cB (hS 17 (by decide))
      have fC : ((l.set f.toNat p).set (w64 (f - 1)).toNat g).length = l.length := by first | assumption | omega | (dsimp only at *; omega) | (simp; try omega)
      have cP : Fr 53 [] [⟨0, [], .slice ao1 ((l.set f.toNat p).set (w64 (f - 1)).toNat g).length cap2⟩, ⟨1, [], i6 u1⟩, ⟨2, [], i6 u2⟩, ⟨3, [], .func (.func 22) #[] #[]⟩, ⟨8, [], i6 x8⟩, ⟨9, [], i6 f⟩, ⟨37, [], .slice ao1 ((l.set f.toNat p).set (w64 (f - 1)).toNat g).length cap2⟩, ⟨38, [], i6 f⟩, ⟨39, [], .slice ao1 ((l.set f.toNat p).set (w64 (f - 1)).toNat g).length cap2⟩, ⟨40, [], i6 f⟩, ⟨41, [], i6 (w64 (f - 1))⟩, ⟨42, [], .slice ao1 ((l.set f.toNat p).set (w64 (f - 1)).toNat g).length cap2⟩, ⟨43, [], i6 f⟩, ⟨44, [], i6 (w64 (f - 1))⟩, ⟨45, [], .pointer (some ⟨ad, (w64 (f - 1)).toNat * 6, none⟩)⟩, ⟨46, [], .agg (e30Lr p W X).toArray⟩, ⟨47, [], .slice ao1 ((l.set f.toNat p).set (w64 (f - 1)).toNat g).length cap2⟩, ⟨48, [], i6 f⟩, ⟨49, [], .pointer (some ⟨ae, f.toNat * 6, none⟩)⟩, ⟨50, [], .agg (e30Lr g Y aa).toArray⟩, ⟨51, [], .pointer (some ⟨ah, f.toNat * 6, none⟩)⟩, ⟨52, [], .pointer (some ⟨ap, (w64 (f - 1)).toNat * 6, none⟩)⟩] cO := by rw [fC]; exact hFx.reg
      refine j_ (t_ ?_)
      have cQ : Fr 53 [] [⟨0, [], .slice ao1 ((l.set f.toNat p).set (w64 (f - 1)).toNat g).length cap2⟩, ⟨1, [], i6 u1⟩, ⟨2, [], i6 u2⟩, ⟨3, [], .func (.func 22) #[] #[]⟩, ⟨8, [], i6 x8⟩, ⟨9, [], i6 f⟩] cO := cP.reg
      refine rgB cQ hMx [] [] [(9, i6 (w64 (f - 1)))] ?_; intro iy fD
      exact d_ ⟨⟨w64 (f - 1), (l.set f.toNat p).set (w64 (f - 1)).toNat g⟩, cA.1, cA.2, (fD.reg).anyβ _ (by kernel_rfl), hMx.kp⟩
    refine x_ (y_ (y_ (z_ (j_ (t_ ?_)))))
    have cS : Fr 53 [] [⟨0, [], .slice ao1 l.length cap2⟩, ⟨1, [], i6 u1⟩, ⟨2, [], i6 u2⟩, ⟨3, [], .func (.func 22) #[] #[]⟩, ⟨8, [], i6 x8⟩] aO := hFx.reg
    refine rgB cS hMx [] [] [(8, i6 (w64 (x8 + 1)))] ?_; intro iz fE
    exact d_ ⟨⟨w64 (x8 + 1), l⟩, cR.1, cR.2, (fE.reg).anyβ _ (by kernel_rfl), hMx.kp⟩
  have cU : Fr 53 [] [⟨0, [], .slice ao1 l.length cap2⟩, ⟨1, [], i6 u1⟩, ⟨2, [], i6 u2⟩, ⟨3, [], .func (.func 22) #[] #[]⟩, ⟨8, [], i6 x8⟩, ⟨9, [], i6 f⟩] aq := bN.reg
  refine sqQH mixed (by kernel_rfl) cm ?_; intro fF cV
  refine q1 cU 18 (i6 f) ?_; intro iA cW
  refine q1 cW 19 (i6 u1) ?_; intro iB cX
  refine q1 cX 20 (.bool (decide (f > u1))) ?_; intro iC cY
  have cZ := cY.reval (d := 20) (c := []) (v := .bool (decide (f > u1))) (by kernel_rfl) (.bool false) (by rw [bI])
  refine q1 cZ 21 (.bool false) ?_; intro iD c0
  refine qk_ c0 false ?_; intro iE c1
  refine qk_ c1 false ?_; intro iF c2
  refine qk_ c2 false ?_; intro iG c3
  refine qk_ c3 false ?_; intro iH c4
  refine qk_ c4 false ?_; intro iI c5
  refine qk_ c5 false ?_; intro iJ c6
  refine qk_ c6 false ?_; intro iK c7
  refine qk_ c7 false ?_; intro iL c8
  refine qk_ c8 false ?_; intro iM c9
  refine qk_ c9 false ?_; intro iN da
  refine qk_ da false ?_; intro iO db
  refine qk_ db false ?_; intro iP dc
  refine q1 dc 34 (.bool false) ?_; intro iQ b8
  refine qnl (cV _ ?_); intro iR dd
  refine cdF b8 (by kernel_rfl) ?_
  refine x_ (y_ (y_ (z_ (j_ (t_ (rgB b8 dd [] [] [(8, i6 (w64 (x8 + 1)))] ?_)))))); intro iS fG
  exact d_ ⟨⟨w64 (x8 + 1), l⟩, cT.1, cT.2, (fG.reg).anyβ _ (by kernel_rfl), dd.kp⟩
 refine x_ (y_ (y_ (z_ ?_)))
 obtain ⟨fI, fJ⟩ := fH
 refine rN (fn := Tryd.f49) (v := .tuple #[]) bH (re0 bH (fn := Tryd.f49) rfl) ?_
 exact ⟨bC, Z, rfl, fJ, z, fI, cf.kp⟩

end Go.Proofs.YtocpdhcjkfmmnaaDoor
set_option linter.unusedVariables false
set_option linter.unusedSimpArgs false
set_option maxRecDepth 100000
set_option maxHeartbeats 0
namespace Go.Proofs.YtocpdhcjkfmmnaaDoor
open Go.Sy Go.RowKit
theorem sins_fun (u0 : List Frame) (u1 : Int) (u2 : Int) (hpre : u1 = 0 ∧ u2 = (u0.length : Int) ∧ u0.length ≤ 1000 ∧ ∀ f ∈ u0, fcheckfr f = 0) (ao1 : Option Addr) (cap2 : Nat) (B : Nat) (w0 : World) (Z0 : Fz) (Rr : List Res) (Z : Fz) (w : World) (hg3 : SlR t8 Z (sm 3) 64 deBruijn64) (hM0 : Mem B [] w0 Z0 ((.own tyFrame 30 ao1 cap2 u0) :: Rr) Z w) (hZ : Z.on w) : Calls Tryd.prog 49 #[.slice ao1 u0.length cap2, i6 u1, i6 u2, .func (.func 22) #[] #[]] w fun e w' => ∃ (Z' : Fz), e = .returned (.tuple #[]) ∧ Fz.le Z Z' ∧ ((sinsS u0 u1 u2).length = u0.length) ∧ Mem B [] w0 Z0 ((.own tyFrame 30 ao1 cap2 (sinsS u0 u1 u2)) :: Rr) Z' w' :=
  (sins_walk u0 u1 u2 ao1 cap2 B w0 Z0 Rr Z w hg3 hM0 hZ (sins_ok u0 u1 u2 hpre)).mono fun _ _ ⟨r, h0, he, hk, f0, f1, hm⟩ => by subst hk; exact ⟨h0, he, f0, f1, hm⟩

theorem sstab_walk (u0 : List Frame) (u1 : Int) (ao1 : Option Addr) (cap2 : Nat) (B : Nat) (w0 : World) (Z0 : Fz) (Rr : List Res) (Z : Fz) (w : World) (hg3 : SlR t8 Z (sm 3) 64 deBruijn64) (hM0 : Mem B [] w0 Z0 ((.own tyFrame 30 ao1 cap2 u0) :: Rr) Z w) (hZ : Z.on w) {K : (List Frame) → Prop} (hp : sstab_vc u0 u1 K) : Calls Tryd.prog 37 #[.slice ao1 u0.length cap2, i6 u1, .func (.func 22) #[] #[]] w fun e w' => ∃ (r : (List Frame)) (Z' : Fz), e = .returned (.tuple #[]) ∧ K r ∧ Fz.le Z Z' ∧ (r.length = u0.length) ∧ Mem B [] w0 Z0 ((.own tyFrame 30 ao1 cap2 r) :: Rr) Z' w' := by
 refine enter0 Tryd.func37 rfl rfl (by kernel_rfl) ?_; intro a0 l; have f := Fz.le.refl Z
 have N := hp (hM0.ownSmall 0 rfl)
 refine sqB l hM0 [] [] [(6, i6 20)] ?_; intro a5 m
 refine sqB m hM0 [] [] [(7, i6 0), (8, i6 20)] ?_; intro n o
 refine s_ (b_ ?_)
 have p : Fr 63 [] [⟨0, [], .slice ao1 u0.length cap2⟩, ⟨1, [], i6 u1⟩, ⟨2, [], .func (.func 22) #[] #[]⟩, ⟨6, [], i6 20⟩, ⟨7, [], i6 0⟩, ⟨8, [], i6 20⟩] n := o.reg
 obtain ⟨O, P, Q, R⟩ := N
 refine lp (ι := Int × Int) (fun s => [⟨0, [], .slice ao1 u0.length cap2⟩, ⟨1, [], i6 u1⟩, ⟨2, [], .func (.func 22) #[] #[]⟩, ⟨6, [], i6 20⟩, ⟨7, [], i6 s.1⟩, ⟨8, [], i6 s.2⟩]) (fun s => ((.own tyFrame 30 ao1 cap2 u0) :: Rr)) (fun s => Z) (fun s => O s.1 s.2) (fun s => P s.1 s.2) ⟨0, 20⟩ Q (by exact p.region (by kernel_rfl) (by kernel_rfl)) (by exact hM0) ?_
 rintro ⟨a, b⟩ S T U t u
 have V := R a b S
 refine s_ (sqB t u [] [] [(13, .bool (decide (b ≤ u1)))] ?_); intro aq g
 obtain ⟨W, X⟩ := V
 refine cn g W ?_
 refine x_ (y_ (y_ (z_ (t_ (sqH ?_))))); intro Y y
 refine bt g u 4 [] [] [(23, .slice ao1 u0.length cap2), (24, i6 a), (25, i6 u1), (26, .func (.func 22) #[] #[])] ?_; intro ar z
 obtain ⟨aa, A⟩ := X
 refine ck z 49 #[.slice ao1 u0.length cap2, i6 a, i6 u1, .func (.func 22) #[] #[]] ?_
 refine (sins_fun u0 a u1 aa ao1 cap2 _ _ _ _ _ _ hg3 u u.fz).mono ?_; rintro _ ab ⟨d, rfl, C, ac, hm⟩; refine ⟨_, rfl, ?_⟩; intro h D; have E := hm
 replace f := Fz.le.trans f C
 have F : Fr 63 [] [⟨0, [], .slice ao1 (sinsS u0 a u1).length cap2⟩, ⟨1, [], i6 u1⟩, ⟨2, [], .func (.func 22) #[] #[]⟩, ⟨6, [], i6 20⟩, ⟨7, [], i6 a⟩, ⟨8, [], i6 b⟩, ⟨13, [], .bool (decide (b ≤ u1))⟩, ⟨23, [], .slice ao1 (sinsS u0 a u1).length cap2⟩, ⟨24, [], i6 a⟩, ⟨25, [], i6 u1⟩, ⟨26, [], .func (.func 22) #[] #[]⟩, ⟨27, [], .tuple #[]⟩] h := by rw [ac]; exact D.region (by kernel_rfl) (by kernel_rfl)
 have i : Mem B [] w0 Z0 ((.own tyFrame 30 ao1 cap2 (sinsS u0 a u1)) :: Rr) d ab := E
 have ad := A (i.ownSmall 0 rfl)
 apply y
 apply b_
 have G : Fr 63 [] [⟨0, [], .slice ao1 (sinsS u0 a u1).length cap2⟩, ⟨1, [], i6 u1⟩, ⟨2, [], .func (.func 22) #[] #[]⟩, ⟨6, [], i6 20⟩] h := F.reg
 obtain ⟨ae, af, ag, ah⟩ := ad
 refine lp (ι := Int) (fun s => [⟨0, [], .slice ao1 (sinsS u0 a u1).length cap2⟩, ⟨1, [], i6 u1⟩, ⟨2, [], .func (.func 22) #[] #[]⟩, ⟨6, [], i6 s⟩]) (fun s => ((.own tyFrame 30 ao1 cap2 (sinsS u0 a u1)) :: Rr)) (fun s => d) (fun s => ae s) (fun s => af s) 20 ag (by exact G.region (by kernel_rfl) (by kernel_rfl)) (by exact i) ?_
 rintro j ai aj ak I J
 have al := ah j ai
 refine s_ (sqB I J [] [] [(30, .bool (decide (j < u1)))] ?_); intro au k
 obtain ⟨am, an⟩ := al
 refine cn k am ?_
 refine x_ (y_ (y_ (z_ ?_)))
 obtain ⟨ao, ap⟩ := an
 refine rN (fn := Tryd.f37) (v := .tuple #[]) k (re0 k (fn := Tryd.f37) rfl) ?_
 exact ⟨(sinsS u0 a u1), d, rfl, ap, f, ao, J.kp⟩

end Go.Proofs.YtocpdhcjkfmmnaaDoor
set_option linter.unusedVariables false
set_option linter.unusedSimpArgs false
set_option maxRecDepth 100000
set_option maxHeartbeats 0
namespace Go.Proofs.YtocpdhcjkfmmnaaDoor
open Go.Sy Go.RowKit
theorem sstab_fun (u0 : List Frame) (u1 : Int) (hpre : u1 = (u0.length : Int) ∧ u0.length ≤ 19 ∧ ∀ f ∈ u0, fcheckfr f = 0) (ao1 : Option Addr) (cap2 : Nat) (B : Nat) (w0 : World) (Z0 : Fz) (Rr : List Res) (Z : Fz) (w : World) (hg3 : SlR t8 Z (sm 3) 64 deBruijn64) (hM0 : Mem B [] w0 Z0 ((.own tyFrame 30 ao1 cap2 u0) :: Rr) Z w) (hZ : Z.on w) : Calls Tryd.prog 37 #[.slice ao1 u0.length cap2, i6 u1, .func (.func 22) #[] #[]] w fun e w' => ∃ (Z' : Fz), e = .returned (.tuple #[]) ∧ Fz.le Z Z' ∧ ((sstabS u0 u1).length = u0.length) ∧ Mem B [] w0 Z0 ((.own tyFrame 30 ao1 cap2 (sstabS u0 u1)) :: Rr) Z' w' :=
  (sstab_walk u0 u1 ao1 cap2 B w0 Z0 Rr Z w hg3 hM0 hZ (sstab_ok u0 u1 hpre)).mono fun _ _ ⟨r, h0, he, hk, f0, f1, hm⟩ => by subst hk; exact ⟨h0, he, f0, f1, hm⟩

theorem ssort_walk (u0 : List Frame) (ao1 : Option Addr) (cap2 : Nat) (B : Nat) (w0 : World) (Z0 : Fz) (Rr : List Res) (Z : Fz) (w : World) (hg3 : SlR t8 Z (sm 3) 64 deBruijn64) (hM0 : Mem B [] w0 Z0 ((.own tyFrame 30 ao1 cap2 u0) :: Rr) Z w) (hZ : Z.on w) {K : (List Frame) → Prop} (hp : ssort_vc u0 K) : Calls Tryd.prog 21 #[.slice ao1 u0.length cap2, .func (.func 22) #[] #[]] w fun e w' => ∃ (r : (List Frame)) (Z' : Fz), e = .returned (.tuple #[]) ∧ K r ∧ Fz.le Z Z' ∧ (r.length = u0.length) ∧ Mem B [] w0 Z0 ((.own tyFrame 30 ao1 cap2 r) :: Rr) Z' w' := by
 refine enter0 Tryd.func21 rfl rfl (by kernel_rfl) ?_; intro y b; have a := Fz.le.refl Z
 have m := hp (hM0.ownSmall 0 rfl)
 refine rgH ?_; intro n c
 refine bt b hM0 4 [] [] [(4, .slice ao1 u0.length cap2), (6, i6 (u0.length : Int)), (7, .func (.func 22) #[] #[])] ?_; intro z d
 obtain ⟨o, f⟩ := m
 refine ck d 37 #[.slice ao1 u0.length cap2, i6 (u0.length : Int), .func (.func 22) #[] #[]] ?_
 refine (sstab_fun u0 (u0.length : Int) o ao1 cap2 _ _ _ _ _ _ hg3 hM0 hM0.fz).mono ?_; rintro _ p ⟨g, rfl, h, q, hm⟩; refine ⟨_, rfl, ?_⟩; intro s i; have j := hm
 replace a := Fz.le.trans a h
 have k : Fr 9 [] [⟨0, [], .slice ao1 (sstabS u0 (u0.length : Int)).length cap2⟩, ⟨1, [], .func (.func 22) #[] #[]⟩, ⟨4, [], .slice ao1 (sstabS u0 (u0.length : Int)).length cap2⟩, ⟨6, [], i6 (u0.length : Int)⟩, ⟨7, [], .func (.func 22) #[] #[]⟩, ⟨8, [], .tuple #[]⟩] s := by rw [q]; exact i.region (by kernel_rfl) (by kernel_rfl)
 have l : Mem B [] w0 Z0 ((.own tyFrame 30 ao1 cap2 (sstabS u0 (u0.length : Int))) :: Rr) g p := j
 have t := f (l.ownSmall 0 rfl)
 apply c
 obtain ⟨u, x⟩ := t
 refine rN (fn := Tryd.f21) (v := .tuple #[]) k (re0 k (fn := Tryd.f21) rfl) ?_
 exact ⟨(sstabS u0 (u0.length : Int)), g, rfl, x, a, u, l.kp⟩

end Go.Proofs.YtocpdhcjkfmmnaaDoor
set_option linter.unusedVariables false
set_option linter.unusedSimpArgs false
set_option maxRecDepth 100000
set_option maxHeartbeats 0
namespace Go.Proofs.YtocpdhcjkfmmnaaDoor
open Go.Sy Go.RowKit
abbrev e30Or (X : Frame) (A0 : Option Addr) (C0 : Nat) : List Value := [i6 X.ID, .bool X.Long, .bool X.Fast, .bool X.Remote, i6 X.Size, .slice A0 X.Data.length C0]
theorem ssort_fun (u0 : List Frame) (hpre : u0.length ≤ 19 ∧ ∀ f ∈ u0, fcheckfr f = 0) (ao1 : Option Addr) (cap2 : Nat) (B : Nat) (w0 : World) (Z0 : Fz) (Rr : List Res) (Z : Fz) (w : World) (hg3 : SlR t8 Z (sm 3) 64 deBruijn64) (hM0 : Mem B [] w0 Z0 ((.own tyFrame 30 ao1 cap2 u0) :: Rr) Z w) (hZ : Z.on w) : Calls Tryd.prog 21 #[.slice ao1 u0.length cap2, .func (.func 22) #[] #[]] w fun e w' => ∃ (Z' : Fz), e = .returned (.tuple #[]) ∧ Fz.le Z Z' ∧ ((ssortS u0).length = u0.length) ∧ Mem B [] w0 Z0 ((.own tyFrame 30 ao1 cap2 (ssortS u0)) :: Rr) Z' w' :=
  (ssort_walk u0 ao1 cap2 B w0 Z0 Rr Z w hg3 hM0 hZ (ssort_ok u0 hpre)).mono fun _ _ ⟨r, h0, he, hk, f0, f1, hm⟩ => by subst hk; exact ⟨h0, he, f0, f1, hm⟩

theorem LRow_walk (u0 : List Frame) (ao1 : Option Addr) (cap2 : Nat) (Z : Fz) (w : World) (hs3 : SlR tyFrame Z ao1 cap2 u0) (hg3 : SlR t8 Z (sm 3) 64 deBruijn64) (hZ : Z.on w) {K : Bool → Prop} (hp : LRow_vc u0 K) : Calls Tryd.prog 5 #[.slice ao1 u0.length cap2] w fun e w' => ∃ r : Bool, e = .returned (.bool r) ∧ K r ∧ Below w.heap.size w w' := by
 refine enter0 Tryd.func5 rfl rfl (by kernel_rfl) ?_; intro a0 aU; have M := Mem.start w Z hZ
 have cv := hp (hs3.small)
 refine sqB aU M [] [] [] ?_; intro a6 aV
 refine sqB aV M [] [] [(3, .slice none 0 0)] ?_; intro a9 aW
 refine sqB aW M [] [] [(4, .slice none 0 0)] ?_; intro dq aX
 refine s_ (sqB aX M [] [] [(14, .slice ao1 u0.length cap2), (15, i6 (u0.length : Int)), (16, i6 0)] ?_); intro aY aZ
 apply b_
 have a1 : Fr 75 [] [⟨3, [], .slice none 0 0⟩, ⟨4, [], .slice none 0 0⟩, ⟨14, [], .slice ao1 u0.length cap2⟩, ⟨15, [], i6 (u0.length : Int)⟩, ⟨16, [], i6 0⟩] aY := aZ.reg
 have a2 : Mem w.heap.size [] w Z [.own tyFrame 30 none 0 ([] : List Frame)] Z w := M.addNil tyFrame 30 (by decide)
 have a3 : Fr 75 [] [⟨3, [], .slice none 0 0⟩, ⟨4, [], .slice none ([] : List Frame).length 0⟩, ⟨14, [], .slice ao1 u0.length cap2⟩, ⟨15, [], i6 (u0.length : Int)⟩, ⟨16, [], i6 0⟩] aY := a1.reg
 obtain ⟨cw, cx, cy, cz⟩ := cv
 refine lp (ι := (List Frame) × (List Frame) × Int × (Option Addr) × Nat × (Option Addr) × Nat × Fz) (fun s => [⟨3, [], .slice s.2.2.2.1 s.1.length s.2.2.2.2.1⟩, ⟨4, [], .slice s.2.2.2.2.2.1 s.2.1.length s.2.2.2.2.2.2.1⟩, ⟨14, [], .slice ao1 u0.length cap2⟩, ⟨15, [], i6 (u0.length : Int)⟩, ⟨16, [], i6 s.2.2.1⟩]) (fun s => [.own tyFrame 30 s.2.2.2.2.2.1 s.2.2.2.2.2.2.1 s.2.1]) (fun s => s.2.2.2.2.2.2.2) (fun s => cw s.1 s.2.1 s.2.2.1 ∧ SlR tyFrame s.2.2.2.2.2.2.2 s.2.2.2.1 s.2.2.2.2.1 s.1 ∧ Fz.le Z s.2.2.2.2.2.2.2) (fun s => cx s.1 s.2.1 s.2.2.1) ⟨([] : List Frame), ([] : List Frame), 0, none, 0, none, 0, Z⟩ ⟨cy, (SlR.nil _ _), Fz.le.refl _⟩ (by exact a3.region (by kernel_rfl) (by kernel_rfl)) (by exact a2) ?_
 rintro ⟨h, f, u, l, n, j, i, a4⟩ ⟨cA, B, y⟩ cB cC a5 a7
 have ad := cz h f u cA
 have N := hs3.mono y
 have O := hg3.mono y
 refine sqB a5 a7 [] [] [(17, .bool (decide (u < (u0.length : Int))))] ?_; intro ds Q
 apply s_
 refine cd Q (t := decide (u < (u0.length : Int))) (by kernel_rfl) (fun av => ?_) (fun av => ?_)
 · -- yes
  have cD := ad.1 av
  refine k_ (s_ (b_ (sqH ?_))); intro cE ba
  obtain ⟨cF, bb⟩ := cD
  refine ix_ Q N u cF .i64 30 48 ?_; intro dt du dv c dw cG aw cH bc
  have bd := bb c cG
  obtain ⟨p, q, rfl, R⟩ := cH
  have be := bd (R.small)
  refine z2 bc a7 19 aw 0 6 (e30Or c p q) rfl ?_; intro dx bf
  refine nw bf a7 pb [i6 0, .bool false, .bool false, .bool false, i6 0, .slice none 0 0] 30 ?_; intro ax dy dz ay bg
  refine sx ay bg 0 (e30Or c p q) 0 ?_; intro cI bh
  have ae : Mem w.heap.size [] w Z [.row ax (e30Or c p q) 30, .own tyFrame 30 j i f] a4 cI := bh
  apply ba
  refine sqH ?_; intro cJ bi
  refine bt ay ae 2 [0] [] [(21, .slice l h.length n), (22, .agg (e30Or c p q).toArray)] ?_; intro dA bk
  refine ck bk 12 #[.slice l h.length n, .agg (e30Or c p q).toArray] ?_
  refine (qput_fun h c l n p q _ _ B R ae.fz).mono ?_; rintro _ cK ⟨az, aA, af, rfl, bl, hm⟩; refine ⟨_, rfl, ?_⟩; intro dB bm; have bn := ae.callZ hm; have J := hm.ext.le
  replace B := B.mono J
  replace y := y.mono J
  replace R := R.mono J
  have D : Mem w.heap.size [] w Z [.row ax (e30Or c p q) 30, .own tyFrame 30 j i f] af cK := bn
  have ag := be (bl.small)
  refine bt bm D 5 [] [] [(7, .slice az (putS h c).1.length aA), (8, i6 (putS h c).2)] ?_; intro dC bo
  apply bi
  refine sqB bo D [] [] [(27, .bool ((putS h c).2 == 0))] ?_; intro dD S
  refine cd S (t := (putS h c).2 == 0) (by kernel_rfl) (fun aB => ?_) (fun aB => ?_)
  · -- yes
   have cL := ag.1 aB
   refine sqB S D [] [] [(3, .slice az (putS h c).1.length aA)] ?_; intro dE bp
   refine rgH ?_; intro cM bq
   refine bt bp D 2 [0] [] [(29, .slice j f.length i), (30, .agg (e30Or c p q).toArray)] ?_; intro dF br
   refine nw br D (fun b => .slice (sm b) 1 1) (e30Or c p q) 30 ?_; intro bs dG dH bu aC
   obtain ⟨cN, bv⟩ := cL
   refine ap bu aC 2 (T := tyFrame) (xs := f) (ys := [c]) (ao := j) (cap := i) (ao2 := (sm bs)) (cap2 := 1) (t := 22) (e := 30) (bytes := 48) (nog rfl _) rfl (by kernel_rfl) rfl (by kernel_rfl) (by kernel_rfl) (by kernel_rfl) rfl (Src.row aC 0 rfl (RepAll.one (T := tyFrame) (x := c) ⟨p, q, rfl, R⟩)) cN ?_; intro aD aE dI cO dJ bw bx
   have bz : Mem w.heap.size [] w Z [.row bs (e30Or c p q) 30, .row ax (e30Or c p q) 30, .own tyFrame 30 aD aE (f ++ [c])] af cO := bx
   refine s1 bw 4 (.slice aD (f ++ [c]).length aE) ?_; intro dK bA
   apply bq
   refine j_ (t_ (rgB bA bz [] [] [(16, i6 (w64 (u + 1)))] ?_)); intro dL cP
   exact d_ ⟨⟨(putS h c).1, f ++ [c], w64 (u + 1), az, aA, aD, aE, af⟩, ⟨bv.1, bl, y⟩, bv.2, (cP.region (by kernel_rfl) (by kernel_rfl)).anyβ _ (by kernel_rfl), bz.kp⟩
  · -- no
   have bB := ag.2 aB
   refine l_ (j_ (t_ (rgB S D [] [] [(16, i6 (w64 (u + 1)))] ?_))); intro dM cQ
   exact d_ ⟨⟨h, f, w64 (u + 1), l, n, j, i, af⟩, ⟨bB.1, B, y⟩, bB.2, (cQ.region (by kernel_rfl) (by kernel_rfl)).anyβ _ (by kernel_rfl), D.kp⟩
 · -- no
  have ah := ad.2 av
  refine x_ (y_ (y_ (z_ (t_ (s_ (sqH ?_)))))); intro cR bC
  refine fc Q a7 (queued_fun  _ _ a7.fz) ?_; intro dN dO bD ai
  refine bt bD ai 3 [] [37] [(36, .bool false), (37, .slice l h.length n)] ?_; intro dP aF
  refine fcl aF ai (i6 (qcheckS h)) 15 #[.slice l h.length n] (wK aF false) rfl (by kernel_rfl) (fun _ => by kernel_rfl) (qcheck_fun h l n _ _ B ai.fz) ?_; intro dQ dR bE P
  refine bt bE P 9 [] [39, 40] [(47, .bool (((qcheckS h) != 0) || ((h.length : Int) != (f.length : Int))))] ?_; intro dS U
  apply bC
  refine cd U (t := ((qcheckS h) != 0) || ((h.length : Int) != (f.length : Int))) (by kernel_rfl) (fun aG => ?_) (fun aG => ?_)
  · -- yes
   have cS := ah.1 aG
   refine sqB U P [] [] [(2, .bool false)] ?_; intro dT cT
   exact r_ (h_ (ra1 cT (.bool false) ⟨false, rfl, cS, P.below⟩))
  · -- no
   have cU := ah.2 aG
   refine k_ (sqH ?_); intro cV bF
   refine s1 U 48 (.slice j f.length i) ?_; intro dU bG
   obtain ⟨cW, bH⟩ := cU
   refine ck bG 21 #[.slice j f.length i, .func (.func 22) #[] #[]] ?_
   refine (ssort_fun f cW j i _ _ _ _ _ _ O P P.fz).mono ?_; rintro _ cX ⟨aH, rfl, V, cY, hm⟩; refine ⟨_, rfl, ?_⟩; intro cZ bI; have bJ := hm
   replace B := B.mono V
   have bK : Fr 75 [] [⟨3, [], .slice l h.length n⟩, ⟨4, [], .slice j (ssortS f).length i⟩, ⟨14, [], .slice ao1 u0.length cap2⟩, ⟨15, [], i6 (u0.length : Int)⟩, ⟨16, [], i6 u⟩, ⟨17, [], .bool (decide (u < (u0.length : Int)))⟩, ⟨34, [], .bool true⟩, ⟨36, [], .bool false⟩, ⟨37, [], .slice l h.length n⟩, ⟨38, [], i6 (qcheckS h)⟩, ⟨47, [], .bool (((qcheckS h) != 0) || ((h.length : Int) != (f.length : Int)))⟩, ⟨48, [], .slice j (ssortS f).length i⟩, ⟨49, [], .tuple #[]⟩] cZ := by rw [cY]; exact bI.region (by kernel_rfl) (by kernel_rfl)
   have aj : Mem w.heap.size [] w Z [.own tyFrame 30 j i (ssortS f)] aH cX := bJ
   have c0 := bH (aj.ownSmall 0 rfl)
   apply bF
   refine s_ (sqB bK aj [] [] [(50, .slice j (ssortS f).length i), (51, i6 ((ssortS f).length : Int)), (52, i6 0)] ?_); intro bL bM
   apply b_
   have bN : Fr 75 [] [⟨3, [], .slice l h.length n⟩, ⟨50, [], .slice j (ssortS f).length i⟩, ⟨51, [], i6 ((ssortS f).length : Int)⟩, ⟨52, [], i6 0⟩] bL := bM.reg
   obtain ⟨c1, c2, c3, c4⟩ := c0
   refine lp (ι := (List Frame) × Int × (Option Addr) × Nat × Fz) (fun s => [⟨3, [], .slice s.2.2.1 s.1.length s.2.2.2.1⟩, ⟨50, [], .slice j (ssortS f).length i⟩, ⟨51, [], i6 ((ssortS f).length : Int)⟩, ⟨52, [], i6 s.2.1⟩]) (fun s => [.own tyFrame 30 j i (ssortS f)]) (fun s => s.2.2.2.2) (fun s => c1 s.1 s.2.1 ∧ SlR tyFrame s.2.2.2.2 s.2.2.1 s.2.2.2.1 s.1 ∧ Fz.le aH s.2.2.2.2) (fun s => c2 s.1 s.2.1) ⟨h, 0, l, n, aH⟩ ⟨c3, B, Fz.le.refl _⟩ (by exact bN.region (by kernel_rfl) (by kernel_rfl)) (by exact aj) ?_
   rintro ⟨a, C, ak, al, bP⟩ ⟨c5, aI, E⟩ c6 c7 bQ bR
   have am := c4 a C c5
   refine sqB bQ bR [] [] [(53, .bool (decide (C < ((ssortS f).length : Int))))] ?_; intro dW W
   apply s_
   refine cd W (t := decide (C < ((ssortS f).length : Int))) (by kernel_rfl) (fun aJ => ?_) (fun aJ => ?_)
   · -- yes
    have c8 := am.1 aJ
    refine k_ (s_ (b_ (sqH ?_))); intro c9 bX
    obtain ⟨da, bY⟩ := c8
    refine ixo W bR 0 (T := tyFrame) (xs := (ssortS f)) C da (k := .i64) (e := 30) (bytes := 48) (nog rfl _) rfl (by kernel_rfl) rfl (by kernel_rfl) (by kernel_rfl) rfl (by kernel_rfl) ?_; intro an dX db bZ
    subst db
    obtain ⟨d, dc, b0⟩ := gxq bY (by first | omega | (simp only [List.length_set] at *; omega))
    obtain ⟨dY, dd, de⟩ := own_el bR 0 (T := tyFrame) (xs := (ssortS f)) rfl C.toNat dc
    obtain ⟨z, A, rfl, aq⟩ := dd
    have b1 := b0 (aq.small)
    refine lc2 bZ 55 6 (e30Or d z A) de rfl ?_; intro dZ b2
    refine nw b2 bR pb [i6 0, .bool false, .bool false, .bool false, i6 0, .slice none 0 0] 30 ?_; intro ar d0 d1 aK b3
    refine sx aK b3 0 (e30Or d z A) 0 ?_; intro df b4
    have aL : Mem w.heap.size [] w Z [.row ar (e30Or d z A) 30, .own tyFrame 30 (sm an) i (ssortS f)] bP df := b4
    apply bX
    refine sqH ?_; intro dg b5
    refine s1 aK 57 (.slice ak a.length al) ?_; intro d2 b6
    refine ck b6 14 #[.slice ak a.length al] ?_
    refine (qtake_fun a ak al _ _ aI aL.fz).mono ?_; rintro _ dh ⟨F, G, X, Y, aM, rfl, b7, b8, hm⟩; refine ⟨_, rfl, ?_⟩; intro d3 b9; have ca := aL.callZ hm; have H := hm.ext.le
    replace E := E.mono H
    replace aq := aq.mono H
    have aN : Mem w.heap.size [] w Z [.row ar (e30Or d z A) 30, .own tyFrame 30 (sm an) i (ssortS f)] aM dh := ca
    have au := b1 (b7.small) (b8.small)
    refine bt b9 aN 4 [] [] [(59, .agg (e30Or ((takeS a).1) F G).toArray), (60, .slice X (takeS a).2.1.length Y), (61, i6 (takeS a).2.2)] ?_; intro d4 cc
    refine nw cc aN pb [i6 0, .bool false, .bool false, .bool false, i6 0, .slice none 0 0] 30 ?_; intro ce d5 d6 aO cf
    refine sx aO cf 0 (e30Or ((takeS a).1) F G) 0 ?_; intro di aP
    refine bt aO aP 2 [] [] [(12, .slice X (takeS a).2.1.length Y), (13, i6 (takeS a).2.2)] ?_; intro d7 cg
    have aa : Mem w.heap.size [] w Z [.row ce (e30Or ((takeS a).1) F G) 30, .row ar (e30Or d z A) 30, .own tyFrame 30 (sm an) i (ssortS f)] aM di := aP
    apply b5
    refine s_ (sqH ?_); intro dj ch
    refine s1 cg 62 (i6 (takeS a).2.2) ?_; intro d8 ci
    refine s1 ci 63 (.bool ((takeS a).2.2 != 0)) ?_; intro d9 cl
    refine s1 cl 64 (.bool ((takeS a).2.2 != 0)) ?_; intro ea cm
    have aQ := cm.atom (((takeS a).2.2 != 0) == false) (by kernel_rfl)
    refine gd aQ (.agg (e30Or ((takeS a).1) F G).toArray) (m := 0) (cj := []) (bj := (takeS a).2.2 != 0) rfl rfl (by kernel_rfl) rfl (by kernel_rfl) (by kernel_rfl) (by kernel_rfl) (fun hg => lda aQ aa 0 (g := [0]) (b := ce) (off := 0) (k := 6) (cs := (e30Or ((takeS a).1) F G)) (vs := (e30Or ((takeS a).1) F G)) (ty := 30) rfl (by kernel_rfl) (by kernel_rfl) (by kernel_rfl) (by kernel_rfl) (by kernel_rfl) hg) ?_; intro eb aR
    refine gd aR (.agg (e30Or d z A).toArray) (m := 0) (cj := []) (bj := (takeS a).2.2 != 0) rfl rfl (by kernel_rfl) rfl (by kernel_rfl) (by kernel_rfl) (by kernel_rfl) (fun hg => lda aR aa 1 (g := [0]) (b := ar) (off := 0) (k := 6) (cs := (e30Or d z A)) (vs := (e30Or d z A)) (ty := 30) rfl (by kernel_rfl) (by kernel_rfl) (by kernel_rfl) (by kernel_rfl) (by kernel_rfl) hg) ?_; intro ec cn
    refine gcl cn aa (.bool (sameS (takeS a).1 d)) 24 #[.agg (e30Or ((takeS a).1) F G).toArray, .agg (e30Or d z A).toArray] (m := 0) (cj := []) (bj := (takeS a).2.2 != 0) rfl rfl (by kernel_rfl) rfl (by kernel_rfl) (by kernel_rfl) (by kernel_rfl) (fun _ => by kernel_rfl) (fun hg => fSame_fun (takeS a).1 d F G z A _ _ b7 aq aa.fz) ?_; intro ed ee co ab
    refine gp co 68 0 [] ((takeS a).2.2 != 0) (.bool (!(sameS (takeS a).1 d))) rfl rfl ?_; intro ef aS
    refine u_ aS (.bool (((takeS a).2.2 != 0) || (!(sameS (takeS a).1 d)))) (pk_or aS (g := []) (m := 0) (b := (takeS a).2.2 != 0) (v := !(sameS (takeS a).1 d)) rfl (by kernel_rfl) (by kernel_rfl) (by kernel_rfl) rfl) ?_; intro cp ac
    apply ch
    refine cd ac (t := ((takeS a).2.2 != 0) || (!(sameS (takeS a).1 d))) (by kernel_rfl) (fun aT => ?_) (fun aT => ?_)
    · -- yes
     have dk := au.1 aT
     have cq : Fr 75 [] [] cp := ac.reg
     refine sqB cq ab [] [] [(2, .bool false)] ?_; intro eg dl
     exact r_ (h_ (i_ (h_ (h_ (i_ (h_ (ra1 dl (.bool false) ⟨false, rfl, dk, ab.below⟩)))))))
    · -- no
     have cr := au.2 aT
     apply k_
     have ct : Fr 75 [] [⟨12, [], .slice X (takeS a).2.1.length Y⟩, ⟨50, [], .slice (sm an) (ssortS f).length i⟩, ⟨51, [], i6 ((ssortS f).length : Int)⟩, ⟨52, [], i6 C⟩] cp := ac.reg
     refine rgB ct ab [] [] [(3, .slice X (takeS a).2.1.length Y)] ?_; intro eh cu
     refine j_ (t_ (rgB cu ab [] [] [(52, i6 (w64 (C + 1)))] ?_)); intro ei dm
     exact d_ ⟨⟨(takeS a).2.1, w64 (C + 1), X, Y, aM⟩, ⟨cr.1, b8, E⟩, cr.2, (dm.region (by kernel_rfl) (by kernel_rfl)).anyβ _ (by kernel_rfl), ab.kp⟩
   · -- no
    have dn := am.2 aJ
    refine x_ (y_ (y_ (z_ (t_ (sqB W bR [] [] [(2, .bool ((a.length : Int) == 0))] ?_))))); intro ej dp
    exact r_ (ra1 dp (.bool ((a.length : Int) == 0)) ⟨(a.length : Int) == 0, rfl, dn, bR.below⟩)

end Go.Proofs.YtocpdhcjkfmmnaaDoor
