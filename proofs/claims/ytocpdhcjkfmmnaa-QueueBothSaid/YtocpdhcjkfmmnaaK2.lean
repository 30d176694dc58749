/- Texts put together (pure ones, or walks made by program). -/
import Derived.Test.YtocpdhcjkfmmnaaK0
import Derived.Test.YtocpdhcjkfmmnaaK1
import Derived.Test.YtocpdhcjkfmmnaaRows
set_option linter.unusedVariables false
set_option linter.unusedSimpArgs false
set_option linter.defProp false
set_option maxRecDepth 100000
set_option maxHeartbeats 0
namespace Go.Proofs.Ytocpdhcjkfmmnaa
open Go.Sy Go.RowKit
theorem mixed : Try.prog.follows .mixedOrders = true := by kernel_rfl
theorem rdFrame : Rd Try.prog 33 tyFrame okFrame := by
  refine ⟨fun enc w fuel cs x h hw => ?_⟩
  have hu : Try.prog.underlying 33 = some (.struct _) := Try.underlying33
  have hl := rd_len hu h (m := 6) (by kernel_rfl)
  obtain ⟨j, o, p⟩ := rd_field hu h hw 0 rfl (rd_int (P := Try.prog) (t := 3) (k := .i64) (by kernel_rfl)) (m := 1) (by kernel_rfl) (off := 0) rfl
  have q : (cs.drop 0).take 1 = [i6 j] := o
  obtain ⟨i, r, s⟩ := rd_field hu h hw 1 rfl (rd_bool (P := Try.prog) (t := 4) (by kernel_rfl)) (m := 1) (by kernel_rfl) (off := 1) rfl
  have u : (cs.drop 1).take 1 = [.bool i] := r
  obtain ⟨g, v, y⟩ := rd_field hu h hw 2 rfl (rd_bool (P := Try.prog) (t := 4) (by kernel_rfl)) (m := 1) (by kernel_rfl) (off := 2) rfl
  have A : (cs.drop 2).take 1 = [.bool g] := v
  obtain ⟨f, B, C⟩ := rd_field hu h hw 3 rfl (rd_bool (P := Try.prog) (t := 4) (by kernel_rfl)) (m := 1) (by kernel_rfl) (off := 3) rfl
  have D : (cs.drop 3).take 1 = [.bool f] := B
  obtain ⟨d, E, F⟩ := rd_field hu h hw 4 rfl (rd_int (P := Try.prog) (t := 3) (k := .i64) (by kernel_rfl)) (m := 1) (by kernel_rfl) (off := 4) rfl
  have G : (cs.drop 4).take 1 = [i6 d] := E
  obtain ⟨a, l, H⟩ := rd_field hu h hw 5 rfl (rd_slice (P := Try.prog) (t := 31) (e := 5) (bytes := 1) (by kernel_rfl) (rd_int (P := Try.prog) (t := 5) (k := .u8) (by kernel_rfl))) (m := 1) (by kernel_rfl) (off := 5) rfl
  obtain ⟨b, c, l, I⟩ := l
  have J : (cs.drop 5).take 1 = [.slice b a.length c] := l
  have z : cs.drop 6 = [] := List.drop_eq_nil_of_le (by omega)
  have K : cs.drop 5 = [.slice b a.length c] := by rw [show cs.drop 5 = (cs.drop 5).take 1 ++ cs.drop 6 from cut_at cs 5 1, J, z]; rfl
  have L : cs.drop 4 = [i6 d, .slice b a.length c] := by rw [show cs.drop 4 = (cs.drop 4).take 1 ++ cs.drop 5 from cut_at cs 4 1, G, K]; rfl
  have M : cs.drop 3 = [.bool f, i6 d, .slice b a.length c] := by rw [show cs.drop 3 = (cs.drop 3).take 1 ++ cs.drop 4 from cut_at cs 3 1, D, L]; rfl
  have N : cs.drop 2 = [.bool g, .bool f, i6 d, .slice b a.length c] := by rw [show cs.drop 2 = (cs.drop 2).take 1 ++ cs.drop 3 from cut_at cs 2 1, A, M]; rfl
  have O : cs.drop 1 = [.bool i, .bool g, .bool f, i6 d, .slice b a.length c] := by rw [show cs.drop 1 = (cs.drop 1).take 1 ++ cs.drop 2 from cut_at cs 1 1, u, N]; rfl
  have n : cs.drop 0 = [i6 j, .bool i, .bool g, .bool f, i6 d, .slice b a.length c] := by rw [show cs.drop 0 = (cs.drop 0).take 1 ++ cs.drop 1 from cut_at cs 0 1, q, O]; rfl
  refine ⟨⟨j, i, g, f, d, a⟩, ?_, p, s, y, C, F, H⟩
  rw [List.drop_zero] at n
  exact ⟨b, c, n, I⟩

theorem bwrite_walk (u0 : Int) (u1 : Int)  (Z : Fz) (w : World)  (hZ : Z.on w) {K : (List UInt8) → Prop} (hp : bwrite_vc u0 u1 K) : Calls Try.prog 23 #[y6 u0, i6 u1] w fun e w' => ∃ r : (List UInt8), e = .returned (str r) ∧ K r ∧ Below w.heap.size w w' := by
 refine enter0 Try.func23 rfl rfl (by kernel_rfl) ?_; intro a0 q; have l := Mem.start w Z hZ
 refine sqB q l [] [] [] ?_; intro a2 v
 refine sqH ?_; intro V x
 refine s1 v 7 (i6 u1) ?_; intro a5 y
 obtain ⟨ax, W⟩ := hp
 refine mks y l (T := t8) u1 u1 (k := .i64) (k' := .i64) (e := 5) (bytes := 1) (zs := [y8 0]) (z := 0) (by simp only [lim]; omega) (nog rfl _) rfl (by kernel_rfl) rfl (by kernel_rfl) (by kernel_rfl) (by kernel_rfl) (by kernel_rfl) rfl ?_; intro b ay X A B
 have m : Mem w.heap.size [] w Z [.own t8 5 (sm b) u1.toNat (List.replicate u1.toNat (0 : Int))] Z X := B
 refine s1 A 5 (.slice (sm b) (List.replicate u1.toNat (0 : Int)).length u1.toNat) ?_; intro az C
 apply x
 refine s_ (sqB C m [] [] [(9, i6 u1), (10, i6 0)] ?_); intro D E
 apply b_
 have F : Fr 28 [] [⟨0, [], y6 u0⟩, ⟨1, [], i6 u1⟩, ⟨5, [], .slice (sm b) (List.replicate u1.toNat (0 : Int)).length u1.toNat⟩, ⟨9, [], i6 u1⟩, ⟨10, [], i6 0⟩] D := E.reg
 obtain ⟨Y, aa, ab, ac⟩ := W
 refine lp (ι := Int × Int × (List Int)) (fun s => [⟨0, [], y6 s.1⟩, ⟨1, [], i6 u1⟩, ⟨5, [], .slice (sm b) s.2.2.length u1.toNat⟩, ⟨9, [], i6 u1⟩, ⟨10, [], i6 s.2.1⟩]) (fun s => [.own t8 5 (sm b) u1.toNat s.2.2]) (fun s => Z) (fun s => Y s.1 s.2.1 s.2.2) (fun s => aa s.1 s.2.1 s.2.2) ⟨u0, 0, (List.replicate u1.toNat (0 : Int))⟩ ab (by exact F.region (by kernel_rfl) (by kernel_rfl)) (by exact m) ?_
 rintro ⟨d, a, c⟩ ad ae af H I
 have i := ac d a c ad
 refine sqB H I [] [] [(11, .bool (decide (a < u1)))] ?_; intro aA h
 apply s_
 refine cd h (t := decide (a < u1)) (by kernel_rfl) (fun n => ?_) (fun n => ?_)
 · -- yes
  have ag := i.1 n
  refine k_ (s_ (b_ (sqB h I [] [] [(6, i6 a)] ?_))); intro aB L
  refine sqH ?_; intro ah M
  refine bt L I 9 [] [] [(13, .slice (sm b) c.length u1.toNat), (17, i6 (w64 ((w64 (u1 - 1)) - a))), (21, y8 (w8 (48 + (w8 (bAnd .u64 d 1)))))] ?_; intro aC N
  obtain ⟨ai, O⟩ := ag
  refine ixo N I 0 (T := t8) (xs := c) (w64 ((w64 (u1 - 1)) - a)) ai (k := .i64) (e := 5) (bytes := 1) (nog rfl _) rfl (by kernel_rfl) rfl (by kernel_rfl) (by kernel_rfl) rfl (by kernel_rfl) ?_; intro aj ak al j
  obtain rfl : b = aj := by simpa using al
  refine so j I 0 (T := t8) (xs := c) (w64 ((w64 (u1 - 1)) - a)).toNat (w8 (48 + (w8 (bAnd .u64 d 1)))) (u := y8 (w8 (48 + (w8 (bAnd .u64 d 1))))) (nog rfl _) rfl rfl (by kernel_rfl) rfl (by kernel_rfl) rfl (by kernel_rfl) (by first | omega | (simp only [List.length_set] at *; omega)) rfl ?_; intro am P
  have Q : Fr 28 [] [⟨0, [], y6 d⟩, ⟨1, [], i6 u1⟩, ⟨5, [], .slice (sm b) (c.set (w64 ((w64 (u1 - 1)) - a)).toNat (w8 (48 + (w8 (bAnd .u64 d 1))))).length u1.toNat⟩, ⟨6, [], i6 a⟩, ⟨9, [], i6 u1⟩, ⟨10, [], i6 a⟩, ⟨11, [], .bool (decide (a < u1))⟩, ⟨13, [], .slice (sm b) (c.set (w64 ((w64 (u1 - 1)) - a)).toNat (w8 (48 + (w8 (bAnd .u64 d 1))))).length u1.toNat⟩, ⟨17, [], i6 (w64 ((w64 (u1 - 1)) - a))⟩, ⟨21, [], y8 (w8 (48 + (w8 (bAnd .u64 d 1))))⟩, ⟨22, [], .pointer (some ⟨b, (w64 ((w64 (u1 - 1)) - a)).toNat * 1, none⟩)⟩] ak := by (try simp only [List.length_set] at j); (try simp only [List.length_set]); exact j.region (by kernel_rfl) (by kernel_rfl)
  have o : Mem w.heap.size [] w Z [.own t8 5 (sm b) u1.toNat (c.set (w64 ((w64 (u1 - 1)) - a)).toNat (w8 (48 + (w8 (bAnd .u64 d 1)))))] Z am := P
  apply M
  refine rgB Q o [] [] [(0, y6 (bShr .u64 d 1))] ?_; intro aD R
  refine j_ (t_ (rgB R o [] [] [(10, i6 (w64 (a + 1)))] ?_)); intro aE an
  exact d_ ⟨⟨bShr .u64 d 1, w64 (a + 1), c.set (w64 ((w64 (u1 - 1)) - a)).toNat (w8 (48 + (w8 (bAnd .u64 d 1))))⟩, O.1, O.2, (an.region (by kernel_rfl) (by kernel_rfl)).anyβ _ (by kernel_rfl), o.kp⟩
 · -- no
  have ap := i.2 n
  refine x_ (y_ (y_ (z_ (t_ (sqH ?_))))); intro aq S
  refine s1 h 26 (.slice (sm b) c.length u1.toNat) ?_; intro aF p
  refine u_ p (str (bstr c)) ((by obtain ⟨Z9, aG, ar, au⟩ := I.lend 0 rfl; exact bstr_op p (g := []) (e := 5) (ao := (sm b)) (cap := u1.toNat) (xs := c) rfl (by kernel_rfl) (by kernel_rfl) (by kernel_rfl) (by kernel_rfl)  au ar rfl)) ?_; intro aH U
  refine s1 U 4 (str (bstr c)) ?_; intro aI av
  apply S
  exact r_ (ra1 av (str (bstr c)) ⟨bstr c, rfl, ap, I.below⟩)

theorem fsizes_walk   (Z : Fz) (w : World)  (hZ : Z.on w) {K : (List Int) → Prop} (hp : fsizes_vc  K) : Calls Try.prog 22 #[] w fun e w' => ∃ (r : (List Int)) (ao1001 : Option Addr) (cap1002 : Nat) (Z' : Fz), e = .returned (.slice ao1001 r.length cap1002) ∧ K r ∧ Mem w.heap.size [] w Z [.own t6 3 ao1001 cap1002 r] Z' w' := by
 refine enter0 Try.func22 rfl rfl (by kernel_rfl) ?_; intro n d; have c := Mem.start w Z hZ
 refine sqB d c [] [] [] ?_; intro p f
 refine sqH ?_; intro j g
 refine nw f c (fun b => .slice (sm b) 16 16) [i6 0, i6 1, i6 2, i6 3, i6 4, i6 5, i6 6, i6 7, i6 8, i6 12, i6 16, i6 20, i6 24, i6 32, i6 48, i6 64] 3 ?_; intro a q k h i
 refine s1 h 0 (.slice (sm a) 16 16) ?_; intro s l
 apply g
 apply r_
 have m : Mem w.heap.size [] w Z [.own t6 3 (sm a) 16 ([0, 1, 2, 3, 4, 5, 6, 7, 8, 12, 16, 20, 24, 32, 48, 64] : List Int)] Z k := i.rowOwn (T := t6) (xs := ([0, 1, 2, 3, 4, 5, 6, 7, 8, 12, 16, 20, 24, 32, 48, 64] : List Int)) 0 rfl (by decide) (by show 16 ≤ lim; decide) ((RepAll.one (T := t6) (x := 0) rfl).append ((RepAll.one (T := t6) (x := 1) rfl).append ((RepAll.one (T := t6) (x := 2) rfl).append ((RepAll.one (T := t6) (x := 3) rfl).append ((RepAll.one (T := t6) (x := 4) rfl).append ((RepAll.one (T := t6) (x := 5) rfl).append ((RepAll.one (T := t6) (x := 6) rfl).append ((RepAll.one (T := t6) (x := 7) rfl).append ((RepAll.one (T := t6) (x := 8) rfl).append ((RepAll.one (T := t6) (x := 12) rfl).append ((RepAll.one (T := t6) (x := 16) rfl).append ((RepAll.one (T := t6) (x := 20) rfl).append ((RepAll.one (T := t6) (x := 24) rfl).append ((RepAll.one (T := t6) (x := 32) rfl).append ((RepAll.one (T := t6) (x := 48) rfl).append (RepAll.one (T := t6) (x := 64) rfl))))))))))))))))
 exact ra1 l (.slice (sm a) ([0, 1, 2, 3, 4, 5, 6, 7, 8, 12, 16, 20, 24, 32, 48, 64] : List Int).length 16) ⟨([0, 1, 2, 3, 4, 5, 6, 7, 8, 12, 16, 20, 24, 32, 48, 64] : List Int), (sm a), 16, Z, rfl, hp, m.kp⟩
def fsizes_fun   (Z : Fz) (w : World)  (hZ : Z.on w) := fc_ (fsizes_walk   Z w  hZ (fsizes_ok ))
theorem fbit_walk (u0 : Bool)  (Z : Fz) (w : World)  (hZ : Z.on w) {K : (List UInt8) → Prop} (hp : fbit_vc u0 K) : Calls Try.prog 24 #[.bool u0] w fun e w' => ∃ r : (List UInt8), e = .returned (str r) ∧ K r ∧ Below w.heap.size w w' := by
 refine enter0 Try.func24 rfl rfl (by kernel_rfl) ?_; intro k d; have a := Mem.start w Z hZ
 refine sqB d a [] [] [] ?_; intro m f
 refine s_ (sqB f a [] [] [(3, .bool u0)] ?_); intro n b
 refine cd b (t := u0) (by kernel_rfl) (fun c => ?_) (fun c => ?_)
 · -- yes
  have g := hp.1 c
  refine sqB b a [] [] [(2, str ([49] : List UInt8))] ?_; intro o h
  exact r_ (h_ (ra1 h (str ([49] : List UInt8)) ⟨([49] : List UInt8), rfl, g, a.below⟩))
 · -- no
  have i := hp.2 c
  refine k_ (sqB b a [] [] [(2, str ([48] : List UInt8))] ?_); intro p j
  exact r_ (ra1 j (str ([48] : List UInt8)) ⟨([48] : List UInt8), rfl, i, a.below⟩)
def fbit_fun (u0 : Bool)  (Z : Fz) (w : World)  (hZ : Z.on w) := f_ (fbit_walk u0  Z w  hZ (fbit_ok u0))
theorem sindex_walk (u0 : List Int) (u1 : Int) (ao1 : Option Addr) (cap2 : Nat) (Z : Fz) (w : World) (hs3 : SlR t6 Z ao1 cap2 u0) (hZ : Z.on w) {K : Int → Prop} (hp : sindex_vc u0 u1 K) : Calls Try.prog 26 #[.slice ao1 u0.length cap2, i6 u1] w fun e w' => ∃ r : Int, e = .returned (i6 r) ∧ K r ∧ Below w.heap.size w w' := by
 refine enter0 Try.func26 rfl rfl (by kernel_rfl) ?_; intro a0 m; have g := Mem.start w Z hZ
 have G := hp (hs3.small)
 refine sqB m g [] [] [] ?_; intro a6 n
 refine s_ (sqB n g [] [] [(7, i6 (u0.length : Int)), (8, i6 0)] ?_); intro o p
 apply b_
 have q : Fr 19 [] [⟨0, [], .slice ao1 u0.length cap2⟩, ⟨1, [], i6 u1⟩, ⟨7, [], i6 (u0.length : Int)⟩, ⟨8, [], i6 0⟩] o := p.reg
 obtain ⟨H, I, J, L⟩ := G
 refine lp (ι := Int) (fun s => [⟨0, [], .slice ao1 u0.length cap2⟩, ⟨1, [], i6 u1⟩, ⟨7, [], i6 (u0.length : Int)⟩, ⟨8, [], i6 s⟩]) (fun s => []) (fun s => Z) (fun s => H s) (fun s => I s) 0 J (by exact q.region (by kernel_rfl) (by kernel_rfl)) (by exact g) ?_
 rintro a M N O v x
 have h := L a M
 refine sqB v x [] [] [(9, .bool (decide (a < (u0.length : Int))))] ?_; intro ae c
 apply s_
 refine cd c (t := decide (a < (u0.length : Int))) (by kernel_rfl) (fun j => ?_) (fun j => ?_)
 · -- yes
  have P := h.1 j
  refine k_ (s_ (b_ (sqB c x [] [] [(5, i6 a)] ?_))); intro af z
  refine sqH ?_; intro Q A
  refine bt z x 3 [] [] [(11, i6 u1), (12, .slice ao1 u0.length cap2), (13, i6 a)] ?_; intro ag B
  obtain ⟨R, C⟩ := P
  refine ix_ B hs3 a R .i64 3 8 ?_; intro ah ai S d aj U V W D
  have i := C d U
  obtain rfl : S = ([i6 d] : List Value) := W
  refine z1 D x 15 V 0 (i6 d) rfl ?_; intro ak E
  refine s1 E 16 (.bool (u1 == d)) ?_; intro al f
  apply A
  refine cd f (t := u1 == d) (by kernel_rfl) (fun l => ?_) (fun l => ?_)
  · -- yes
   have X := i.1 l
   refine sqB f x [] [] [(4, i6 a)] ?_; intro am Y
   exact r_ (i_ (h_ (h_ (i_ (h_ (ra1 Y (i6 a) ⟨a, rfl, X, x.below⟩))))))
  · -- no
   have F := i.2 l
   refine l_ (j_ (t_ (rgB f x [] [] [(8, i6 (w64 (a + 1)))] ?_))); intro an aa
   exact d_ ⟨w64 (a + 1), F.1, F.2, (aa.region (by kernel_rfl) (by kernel_rfl)).anyβ _ (by kernel_rfl), x.kp⟩
 · -- no
  have ab := h.2 j
  refine x_ (y_ (y_ (z_ (t_ (sqB c x [] [] [(4, i6 (-1))] ?_))))); intro ao ac
  exact r_ (ra1 ac (i6 (-1)) ⟨-1, rfl, ab, x.below⟩)

theorem scontains_walk (u0 : List Int) (u1 : Int) (ao1 : Option Addr) (cap2 : Nat) (Z : Fz) (w : World) (hs3 : SlR t6 Z ao1 cap2 u0) (hZ : Z.on w) {K : Bool → Prop} (hp : scontains_vc u0 u1 K) : Calls Try.prog 21 #[.slice ao1 u0.length cap2, i6 u1] w fun e w' => ∃ r : Bool, e = .returned (.bool r) ∧ K r ∧ Below w.heap.size w w' := by
 refine enter0 Try.func21 rfl rfl (by kernel_rfl) ?_; intro n c; have a := Mem.start w Z hZ
 have j := hp (hs3.small)
 refine sqB c a [] [] [] ?_; intro p d
 refine sqH ?_; intro k f
 refine bt d a 2 [] [] [(5, .slice ao1 u0.length cap2), (6, i6 u1)] ?_; intro q g
 refine ck g 26 #[.slice ao1 u0.length cap2, i6 u1] ?_
 refine (sindex_walk u0 u1 ao1 cap2 _ _ hs3 a.fz j).mono ?_; rintro _ s ⟨b, rfl, l, hb⟩; refine ⟨_, rfl, ?_⟩; intro t h; have i := a.call hb
 refine bt h i 2 [] [] [(4, .bool (decide (b ≥ 0)))] ?_; intro u m
 apply f
 exact r_ (ra1 m (.bool (decide (b ≥ 0))) ⟨decide (b ≥ 0), rfl, l, i.below⟩)

end Go.Proofs.Ytocpdhcjkfmmnaa
set_option linter.unusedVariables false
set_option linter.unusedSimpArgs false
set_option linter.defProp false
set_option maxRecDepth 100000
set_option maxHeartbeats 0
namespace Go.Proofs.Ytocpdhcjkfmmnaa
open Go.Sy Go.RowKit
abbrev e33B (X : Frame) (A0 : Option Addr) (C0 : Nat) : List Value := [i6 X.ID, .bool X.Long, .bool X.Fast, .bool X.Remote, i6 X.Size, .slice A0 X.Data.length C0]
def bwrite_fun (u0 : Int) (u1 : Int) (hpre : 0 ≤ u1 ∧ u1 ≤ 64 ∧ 0 ≤ u0 ∧ u0 < 2 ^ 62)  (Z : Fz) (w : World)  (hZ : Z.on w) := f_ (bwrite_walk u0 u1  Z w  hZ (bwrite_ok u0 u1 hpre))
def scontains_fun (u0 : List Int) (u1 : Int) (ao1 : Option Addr) (cap2 : Nat) (Z : Fz) (w : World) (hs3 : SlR t6 Z ao1 cap2 u0) (hZ : Z.on w) := f_ (scontains_walk u0 u1 ao1 cap2 Z w hs3 hZ (scontains_ok u0 u1))
theorem fname_walk (u0 : Frame) (ao1 : Option Addr) (cap2 : Nat) (Z : Fz) (w : World) (hs3 : SlR t8 Z ao1 cap2 u0.Data) (hZ : Z.on w) {K : (List UInt8) → Prop} (hp : fname_vc u0 K) : Calls Try.prog 15 #[.agg #[i6 u0.ID, .bool u0.Long, .bool u0.Fast, .bool u0.Remote, i6 u0.Size, .slice ao1 u0.Data.length cap2]] w fun e w' => ∃ r : (List UInt8), e = .returned (str r) ∧ K r ∧ Below w.heap.size w w' := by
 refine enter0 Try.func15 rfl rfl (by kernel_rfl) ?_; intro a0 u; have v := Mem.start w Z hZ
 have f := hp (hs3.small)
 refine sqH ?_; intro U x
 refine nw u v pb (e33B u0 ao1 cap2) 33 ?_; intro a a7 ax y c
 refine s1 y 2 (str []) ?_; intro ay z
 apply x
 refine s_ (sqB z c [0] [] [(5, .bool (!u0.Long))] ?_); intro A d
 refine cd d (t := !u0.Long) (by kernel_rfl) (fun h => ?_) (fun h => ?_)
 · -- yes
  have V := f.1 h
  have B : Fr 30 [] [⟨1, [], pt a 0⟩] A := d.reg
  refine sqQH mixed (by kernel_rfl) c ?_; intro W C
  refine q1 B 6 (pt a 0) ?_; intro az i
  refine ql_ i 0 0 (i6 u0.ID) rfl rfl ?_; intro aA D
  refine q1 D 8 (y6 (wu64 u0.ID)) ?_; intro aB E
  obtain ⟨X, Y⟩ := V
  refine qcl E (str (bwriteS (wu64 u0.ID) 11)) 23 #[y6 (wu64 u0.ID), i6 11] (nog rfl _) rfl (by kernel_rfl) (fun _ => by kernel_rfl) (qfc fun w hC => bwrite_fun (wu64 u0.ID) 11 X _ _ hC.fz) ?_; intro aC F
  refine q1 F 10 (pt a 3) ?_; intro aD j
  refine ql_ j 0 3 (.bool u0.Remote) rfl rfl ?_; intro aE G
  refine qcl G (str (fbit u0.Remote)) 24 #[.bool u0.Remote] (nog rfl _) rfl (by kernel_rfl) (fun _ => by kernel_rfl) (qfc fun w hC => fbit_fun u0.Remote _ _ hC.fz) ?_; intro aF k
  obtain ⟨aa, ab⟩ := Y
  refine qu_ k (str ((bwriteS (wu64 u0.ID) 11) ++ (fbit u0.Remote))) (fun v47 hC => stradd_run k (g := []) rfl (by kernel_rfl) (by kernel_rfl) aa rfl) ?_; intro aG l
  obtain ⟨ac, ad⟩ := ab
  refine qu_ l (str (((bwriteS (wu64 u0.ID) 11) ++ (fbit u0.Remote)) ++ ([48] : List UInt8))) (fun v52 hC => stradd_run l (g := []) rfl (by kernel_rfl) (by kernel_rfl) ac rfl) ?_; intro aH H
  refine q1 H 2 (str (((bwriteS (wu64 u0.ID) 11) ++ (fbit u0.Remote)) ++ ([48] : List UInt8))) ?_; intro aI ae
  refine qnl (C _ ?_); intro aJ af
  exact r_ (h_ (ra1 ae (str (((bwriteS (wu64 u0.ID) 11) ++ (fbit u0.Remote)) ++ ([48] : List UInt8))) ⟨((bwriteS (wu64 u0.ID) 11) ++ (fbit u0.Remote)) ++ ([48] : List UInt8), rfl, ad, af.below⟩))
 · -- no
  have ag := f.2 h
  apply k_
  have I : Fr 30 [] [⟨1, [], pt a 0⟩] A := d.reg
  refine sqQH mixed (by kernel_rfl) c ?_; intro ah J
  refine q1 I 15 (pt a 0) ?_; intro aK m
  refine ql_ m 0 0 (i6 u0.ID) rfl rfl ?_; intro aL L
  refine q1 L 17 (i6 (bShr .i64 u0.ID 18)) ?_; intro aM M
  refine q1 M 18 (y6 (wu64 (bShr .i64 u0.ID 18))) ?_; intro aN N
  obtain ⟨ai, aj⟩ := ag
  refine qcl N (str (bwriteS (wu64 (bShr .i64 u0.ID 18)) 11)) 23 #[y6 (wu64 (bShr .i64 u0.ID 18)), i6 11] (nog rfl _) rfl (by kernel_rfl) (fun _ => by kernel_rfl) (qfc fun w hC => bwrite_fun (wu64 (bShr .i64 u0.ID 18)) 11 ai _ _ hC.fz) ?_; intro aO n
  obtain ⟨ak, al⟩ := aj
  refine qu_ n (str ((bwriteS (wu64 (bShr .i64 u0.ID 18)) 11) ++ ([49, 49] : List UInt8))) (fun v82 hC => stradd_run n (g := []) rfl (by kernel_rfl) (by kernel_rfl) ak rfl) ?_; intro aP O
  refine q1 O 21 (pt a 0) ?_; intro aQ o
  refine ql_ o 0 0 (i6 u0.ID) rfl rfl ?_; intro aR P
  refine q1 P 23 (y6 (wu64 u0.ID)) ?_; intro aS Q
  obtain ⟨am, an⟩ := al
  refine qcl Q (str (bwriteS (wu64 u0.ID) 18)) 23 #[y6 (wu64 u0.ID), i6 18] (nog rfl _) rfl (by kernel_rfl) (fun _ => by kernel_rfl) (qfc fun w hC => bwrite_fun (wu64 u0.ID) 18 am _ _ hC.fz) ?_; intro aT p
  obtain ⟨ao, ap⟩ := an
  refine qu_ p (str (((bwriteS (wu64 (bShr .i64 u0.ID 18)) 11) ++ ([49, 49] : List UInt8)) ++ (bwriteS (wu64 u0.ID) 18))) (fun v101 hC => stradd_run p (g := []) rfl (by kernel_rfl) (by kernel_rfl) ao rfl) ?_; intro aU R
  refine q1 R 26 (pt a 3) ?_; intro aV q
  refine ql_ q 0 3 (.bool u0.Remote) rfl rfl ?_; intro aW S
  refine qcl S (str (fbit u0.Remote)) 24 #[.bool u0.Remote] (nog rfl _) rfl (by kernel_rfl) (fun _ => by kernel_rfl) (qfc fun w hC => fbit_fun u0.Remote _ _ hC.fz) ?_; intro aX s
  obtain ⟨aq, ar⟩ := ap
  refine qu_ s (str ((((bwriteS (wu64 (bShr .i64 u0.ID 18)) 11) ++ ([49, 49] : List UInt8)) ++ (bwriteS (wu64 u0.ID) 18)) ++ (fbit u0.Remote))) (fun v115 hC => stradd_run s (g := []) rfl (by kernel_rfl) (by kernel_rfl) aq rfl) ?_; intro aY T
  refine q1 T 2 (str ((((bwriteS (wu64 (bShr .i64 u0.ID 18)) 11) ++ ([49, 49] : List UInt8)) ++ (bwriteS (wu64 u0.ID) 18)) ++ (fbit u0.Remote))) ?_; intro aZ au
  refine qnl (J _ ?_); intro a1 av
  exact r_ (ra1 au (str ((((bwriteS (wu64 (bShr .i64 u0.ID 18)) 11) ++ ([49, 49] : List UInt8)) ++ (bwriteS (wu64 u0.ID) 18)) ++ (fbit u0.Remote))) ⟨(((bwriteS (wu64 (bShr .i64 u0.ID 18)) 11) ++ ([49, 49] : List UInt8)) ++ (bwriteS (wu64 u0.ID) 18)) ++ (fbit u0.Remote), rfl, ar, av.below⟩)

theorem fcheckfr_walk (u0 : Frame) (ao1 : Option Addr) (cap2 : Nat) (Z : Fz) (w : World) (hs3 : SlR t8 Z ao1 cap2 u0.Data) (hZ : Z.on w) {K : Int → Prop} (hp : fcheckfr_vc u0 K) : Calls Try.prog 14 #[.agg #[i6 u0.ID, .bool u0.Long, .bool u0.Fast, .bool u0.Remote, i6 u0.Size, .slice ao1 u0.Data.length cap2]] w fun e w' => ∃ r : Int, e = .returned (i6 r) ∧ K r ∧ Below w.heap.size w w' := by
 refine enter0 Try.func14 rfl rfl (by kernel_rfl) ?_; intro a0 C; have D := Mem.start w Z hZ
 have k := hp (hs3.small)
 refine sqH ?_; intro V E
 refine nw C D pb (e33B u0 ao1 cap2) 33 ?_; intro l a7 aq F a
 refine s1 F 2 (i6 0) ?_; intro ar G
 apply E
 refine s_ (b_ (sqB G a [0, 0, 0, 0] [] [(3, .bool (((decide (u0.ID < 0)) || ((!u0.Long) && (decide (u0.ID > 2047)))) || (decide (u0.ID > 536870911))))] ?_)); intro au c
 refine cd c (t := ((decide (u0.ID < 0)) || ((!u0.Long) && (decide (u0.ID > 2047)))) || (decide (u0.ID > 536870911))) (by kernel_rfl) (fun q => ?_) (fun q => ?_)
 · -- yes
  have W := k.1 q
  refine sqB c a [] [] [(2, i6 3)] ?_; intro av X
  exact r_ (i_ (h_ (ra1 X (i6 3) ⟨3, rfl, W, a.below⟩)))
 · -- no
  have m := k.2 q
  refine sqB c a [0, 0, 0] [] [(22, .bool (u0.Remote && (u0.Fast || (decide ((u0.Data.length : Int) > 0)))))] ?_; intro aw d
  refine cd d (t := u0.Remote && (u0.Fast || (decide ((u0.Data.length : Int) > 0)))) (by kernel_rfl) (fun s => ?_) (fun s => ?_)
  · -- yes
   have Y := m.1 s
   refine sqB d a [] [] [(2, i6 4)] ?_; intro ax aa
   exact r_ (i_ (h_ (ra1 aa (i6 4) ⟨4, rfl, Y, a.below⟩)))
  · -- no
   have n := m.2 s
   refine sqB d a [0, 0, 0, 0] [] [(35, .bool (((decide (u0.Size < 0)) || (decide (u0.Size > 8))) || ((!u0.Remote) && (u0.Size != 0))))] ?_; intro ay f
   refine cd f (t := ((decide (u0.Size < 0)) || (decide (u0.Size > 8))) || ((!u0.Remote) && (u0.Size != 0))) (by kernel_rfl) (fun u => ?_) (fun u => ?_)
   · -- yes
    have ab := n.1 u
    refine sqB f a [] [] [(2, i6 3)] ?_; intro az ac
    exact r_ (i_ (h_ (ra1 ac (i6 3) ⟨3, rfl, ab, a.below⟩)))
   · -- no
    have o := n.2 u
    refine sqB f a [0, 0, 0] [] [(54, .bool ((decide ((u0.Data.length : Int) > 64)) || ((!u0.Fast) && (decide ((u0.Data.length : Int) > 8)))))] ?_; intro ad g
    refine cd g (t := (decide ((u0.Data.length : Int) > 64)) || ((!u0.Fast) && (decide ((u0.Data.length : Int) > 8)))) (by kernel_rfl) (fun v => ?_) (fun v => ?_)
    · -- yes
     have ae := o.1 v
     refine sqB g a [] [] [(2, i6 2)] ?_; intro aA af
     exact r_ (i_ (h_ (ra1 af (i6 2) ⟨2, rfl, ae, a.below⟩)))
    · -- no
     have p := o.2 v
     have H : Fr 77 [] [⟨1, [], pt l 0⟩] ad := g.reg
     refine wp_seq (rgS mixed a [(1, true), (2, true), (3, true), (0, false), (4, false), (5, true), (6, true)] [] [0] [.row l (e33B u0 ao1 cap2) 33] ?_)
     intro ag I aB x
     have b := Fz.le.refl Z
     refine cS H 3 [0] [] [(74, i6 (u0.Data.length : Int))] ?_; intro aC J
     refine eS rfl ?_; intro ah L
     refine ck J 22 #[] ?_
     refine (fsizes_fun  _ _ x.fz).mono ?_; rintro _ M ⟨N, O, ai, rfl, hm⟩; refine ⟨_, rfl, ?_⟩; intro aD P; have Q := x.callZ hm; have y := hm.ext.le
     replace b := b.mono y
     have R : Mem w.heap.size [] w Z [.own t6 3 N O fsizes, .row l (e33B u0 ao1 cap2) 33] ai M := Q
     refine nl (qnI (L _ _ (R.cst b [1]) ?_))
     refine eS rfl ?_; intro aj S
     obtain ⟨ak, z, T, al⟩ := R.freeze 0 rfl
     replace b := b.mono z
     have A : Mem w.heap.size [] w Z [.row l (e33B u0 ao1 cap2) 33] ak M := T
     refine fc P A (scontains_fun fsizes (u0.Data.length : Int) N O _ _ al A.fz) ?_; intro aE aF U h
     refine nl (qnI (S _ _ (h.cst b [0]) ?_))
     refine cS U 2 [] [] [(70, .bool (!(scontainsS fsizes (u0.Data.length : Int))))] ?_; intro aG i
     refine nS (I _ _ ?_)
     apply t_
     refine cd i (t := !(scontainsS fsizes (u0.Data.length : Int))) (by kernel_rfl) (fun B => ?_) (fun B => ?_)
     · -- yes
      have am := p.1 B
      refine sqB i h [] [] [(2, i6 4)] ?_; intro aH an
      exact r_ (i_ (h_ (ra1 an (i6 4) ⟨4, rfl, am, h.below⟩)))
     · -- no
      have ao := p.2 B
      refine l_ (j_ (t_ (sqB i h [] [] [(2, i6 0)] ?_))); intro aI ap
      exact r_ (ra1 ap (i6 0) ⟨0, rfl, ao, h.below⟩)
def fcheckfr_fun (u0 : Frame) (ao1 : Option Addr) (cap2 : Nat) (Z : Fz) (w : World) (hs3 : SlR t8 Z ao1 cap2 u0.Data) (hZ : Z.on w) := f_ (fcheckfr_walk u0 ao1 cap2 Z w hs3 hZ (fcheckfr_ok u0))
theorem bclone_walk (u0 : List Int) (ao1 : Option Addr) (cap2 : Nat) (Z : Fz) (w : World) (hs3 : SlR t8 Z ao1 cap2 u0) (hZ : Z.on w) {K : (List Int) → Prop} (hp : bclone_vc u0 K) : Calls Try.prog 20 #[.slice ao1 u0.length cap2] w fun e w' => ∃ (r : (List Int)) (ao1001 : Option Addr) (cap1002 : Nat) (Z' : Fz), e = .returned (.slice ao1001 r.length cap1002) ∧ K r ∧ Mem w.heap.size [] w Z [.own t8 5 ao1001 cap1002 r] Z' w' := by
 refine enter0 Try.func20 rfl rfl (by kernel_rfl) ?_; intro N l; have a := Mem.start w Z hZ
 have m := hp (hs3.small)
 refine sqB l a [] [] [] ?_; intro P n
 refine s_ (sqH ?_); intro A o
 refine s1 n 3 (.slice ao1 u0.length cap2) ?_; intro Q h
 obtain ⟨i, p⟩ : ∃ b, ao1.isNone = b := ⟨_, rfl⟩; have d := m i (by rw [← p]; exact hs3.isNone)
 refine u_ h (.bool i) (re_ (r := .ok (.value (.bool ao1.isNone)) w) (by cases ao1 <;> exact p0 h (by kernel_rfl)) (by rw [p])) ?_; intro R c
 apply o
 refine cd c (t := i) (by kernel_rfl) (fun j => ?_) (fun j => ?_)
 · -- yes
  have B := d.1 j
  refine sqB c a [] [] [(2, .slice none 0 0)] ?_; intro S C
  refine r_ (h_ ?_)
  have D : Mem w.heap.size [] w Z [.own t8 5 none 0 ([] : List Int)] Z w := a.addNil t8 5 (by decide)
  exact ra1 C (.slice none ([] : List Int).length 0) ⟨([] : List Int), none, 0, Z, rfl, B, D.kp⟩
 · -- no
  have E := d.2 j
  refine k_ (sqH ?_); intro F q
  refine nw c a (fun b => .slice (sm b) 0 0) [] 5 ?_; intro s U G u v
  refine s1 u 6 (.slice ao1 u0.length cap2) ?_; intro V x
  have k : Mem w.heap.size [] w Z [.own t8 5 (sm s) 0 ([] : List Int)] Z G := v.rowOwn (T := t8) (xs := ([] : List Int)) 0 rfl (by decide) (by show 0 ≤ lim; decide) (RepAll.nil _ _)
  obtain ⟨H, I⟩ := E
  refine ap x k 0 (T := t8) (xs := ([] : List Int)) (ys := u0) (ao := (sm s)) (cap := 0) (ao2 := ao1) (cap2 := cap2) (t := 31) (e := 5) (bytes := 1) (nog rfl _) rfl (by kernel_rfl) rfl (by kernel_rfl) (by kernel_rfl) (by kernel_rfl) rfl (Src.fz (by decide) k.fz hs3) H ?_; intro f g W J X y z
  have L : Mem w.heap.size [] w Z [.own t8 5 f g (([] : List Int) ++ u0)] Z J := z
  refine s1 y 2 (.slice f (([] : List Int) ++ u0).length g) ?_; intro Y M
  apply q
  exact r_ (ra1 M (.slice f (([] : List Int) ++ u0).length g) ⟨([] : List Int) ++ u0, f, g, Z, rfl, I, L.kp⟩)

end Go.Proofs.Ytocpdhcjkfmmnaa
set_option linter.unusedVariables false
set_option linter.unusedSimpArgs false
set_option linter.defProp false
set_option maxRecDepth 100000
set_option maxHeartbeats 0
namespace Go.Proofs.Ytocpdhcjkfmmnaa
open Go.Sy Go.RowKit
abbrev e33C (X : Frame) (A0 : Option Addr) (C0 : Nat) : List Value := [i6 X.ID, .bool X.Long, .bool X.Fast, .bool X.Remote, i6 X.Size, .slice A0 X.Data.length C0]
def fname_fun (u0 : Frame) (hpre : 0 ≤ u0.ID ∧ u0.ID ≤ 536870911) (ao1 : Option Addr) (cap2 : Nat) (Z : Fz) (w : World) (hs3 : SlR t8 Z ao1 cap2 u0.Data) (hZ : Z.on w) := f_ (fname_walk u0 ao1 cap2 Z w hs3 hZ (fname_ok u0 hpre))
def bclone_fun (u0 : List Int) (hpre : u0.length ≤ 140737488355328) (ao1 : Option Addr) (cap2 : Nat) (Z : Fz) (w : World) (hs3 : SlR t8 Z ao1 cap2 u0) (hZ : Z.on w) := fc_ (bclone_walk u0 ao1 cap2 Z w hs3 hZ (bclone_ok u0 hpre))
theorem fName_walk (u0 : Frame) (ao1 : Option Addr) (cap2 : Nat) (Z : Fz) (w : World) (hs3 : SlR t8 Z ao1 cap2 u0.Data) (hZ : Z.on w) {K : ((List UInt8) × Int) → Prop} (hp : fName_vc u0 K) : Calls Try.prog 7 #[.agg #[i6 u0.ID, .bool u0.Long, .bool u0.Fast, .bool u0.Remote, i6 u0.Size, .slice ao1 u0.Data.length cap2]] w fun e w' => ∃ r : (List UInt8) × Int, e = .returned (.tuple #[str r.1, i6 r.2]) ∧ K r ∧ Below w.heap.size w w' := by
 refine enter0 Try.func7 rfl rfl (by kernel_rfl) ?_; intro F g; have h := Mem.start w Z hZ
 have d := hp (hs3.small)
 refine sqH ?_; intro v i
 refine nw g h pb (e33C u0 ao1 cap2) 33 ?_; intro H I J j b
 refine bt j b 2 [] [] [] ?_; intro L k
 apply i
 refine s_ (sqH ?_); intro x l
 refine l2 k b 5 0 0 6 (e33C u0 ao1 cap2) rfl rfl ?_; intro M m
 refine fc m b (fcheckfr_fun u0 ao1 cap2 _ _ hs3 b.fz) ?_; intro N O n a
 refine s1 n 4 (i6 (fcheckfr u0)) ?_; intro P o
 apply l
 refine sqB o a [] [] [(8, .bool ((fcheckfr u0) != 0))] ?_; intro Q c
 refine cd c (t := (fcheckfr u0) != 0) (by kernel_rfl) (fun f => ?_) (fun f => ?_)
 · -- yes
  have y := d.1 f
  refine sqB c a [] [] [(2, str []), (3, i6 (fcheckfr u0))] ?_; intro R z
  exact r_ (h_ (ra2 z (.tuple #[str [], i6 (fcheckfr u0)]) ⟨([], (fcheckfr u0)), rfl, y, a.below⟩))
 · -- no
  have A := d.2 f
  refine k_ (sqH ?_); intro B p
  refine l2 c a 10 0 0 6 (e33C u0 ao1 cap2) rfl rfl ?_; intro S q
  obtain ⟨C, D⟩ := A
  refine fc q a (fname_fun u0 C ao1 cap2 _ _ hs3 a.fz) ?_; intro T U s u
  refine bt s u 2 [] [] [(2, str (fnameS u0)), (3, i6 0)] ?_; intro V E
  apply p
  exact r_ (ra2 E (.tuple #[str (fnameS u0), i6 0]) ⟨((fnameS u0), 0), rfl, D, u.below⟩)

theorem fcopy_walk (u0 : Frame) (ao1 : Option Addr) (cap2 : Nat) (Z : Fz) (w : World) (hs3 : SlR t8 Z ao1 cap2 u0.Data) (hZ : Z.on w) {K : Frame → Prop} (hp : fcopy_vc u0 K) : Calls Try.prog 11 #[.agg #[i6 u0.ID, .bool u0.Long, .bool u0.Fast, .bool u0.Remote, i6 u0.Size, .slice ao1 u0.Data.length cap2]] w fun e w' => ∃ (r : Frame) (ao1001 : Option Addr) (cap1002 : Nat) (Z' : Fz), e = .returned (.agg #[i6 r.ID, .bool r.Long, .bool r.Fast, .bool r.Remote, i6 r.Size, .slice ao1001 r.Data.length cap1002]) ∧ K r ∧ SlR t8 Z' ao1001 cap1002 r.Data ∧ Mem w.heap.size [] w Z [] Z' w' := by
 refine enter0 Try.func11 rfl rfl (by kernel_rfl) ?_; intro W o; have p := Mem.start w Z hZ
 have M := hp (hs3.small)
 refine sqH ?_; intro N q
 refine nw o p pb (e33C u0 ao1 cap2) 33 ?_; intro f X Y s t
 refine nw s t pb [i6 0, .bool false, .bool false, .bool false, i6 0, .slice none 0 0] 33 ?_; intro d aa ab u h
 apply q
 refine sqH ?_; intro O x
 refine bt u h 2 [1] [] [(4, .slice ao1 u0.Data.length cap2)] ?_; intro ac y
 obtain ⟨P, z⟩ := M
 refine ck y 20 #[.slice ao1 u0.Data.length cap2] ?_
 refine (bclone_fun u0.Data P ao1 cap2 _ _ hs3 h.fz).mono ?_; rintro _ Q ⟨a, c, i, rfl, hm⟩; refine ⟨_, rfl, ?_⟩; intro ae A; have B := h.callZ hm
 have j : Mem w.heap.size [] w Z [.own t8 5 a c (bcloneS u0.Data), .row d [i6 0, .bool false, .bool false, .bool false, i6 0, .slice none 0 0] 33, .row f (e33C u0 ao1 cap2) 33] i Q := B
 have R := z (j.ownSmall 0 rfl)
 refine s1 A 6 (pt f 5) ?_; intro af l
 refine sx l j 2 [i6 u0.ID, .bool u0.Long, .bool u0.Fast, .bool u0.Remote, i6 u0.Size, .slice a (bcloneS u0.Data).length c] 5 ?_; intro S D
 have m : Mem w.heap.size [] w Z [.own t8 5 a c (bcloneS u0.Data), .row d [i6 0, .bool false, .bool false, .bool false, i6 0, .slice none 0 0] 33, .row f [i6 u0.ID, .bool u0.Long, .bool u0.Fast, .bool u0.Remote, i6 u0.Size, .slice a (bcloneS u0.Data).length c] 33] i S := D
 apply x
 refine sqH ?_; intro T E
 refine l2 l m 7 2 0 6 [i6 u0.ID, .bool u0.Long, .bool u0.Fast, .bool u0.Remote, i6 u0.Size, .slice a (bcloneS u0.Data).length c] rfl rfl ?_; intro ag n
 refine sx n m 1 [i6 u0.ID, .bool u0.Long, .bool u0.Fast, .bool u0.Remote, i6 u0.Size, .slice a (bcloneS u0.Data).length c] 0 ?_; intro F G
 have U : Mem w.heap.size [] w Z [.own t8 5 a c (bcloneS u0.Data), .row d [i6 u0.ID, .bool u0.Long, .bool u0.Fast, .bool u0.Remote, i6 u0.Size, .slice a (bcloneS u0.Data).length c] 33, .row f [i6 u0.ID, .bool u0.Long, .bool u0.Fast, .bool u0.Remote, i6 u0.Size, .slice a (bcloneS u0.Data).length c] 33] i F := G
 apply E
 apply r_
 obtain ⟨H, I, J, V⟩ := U.freeze 0 rfl
 have L : Mem w.heap.size [] w Z [.row d [i6 u0.ID, .bool u0.Long, .bool u0.Fast, .bool u0.Remote, i6 u0.Size, .slice a (bcloneS u0.Data).length c] 33, .row f [i6 u0.ID, .bool u0.Long, .bool u0.Fast, .bool u0.Remote, i6 u0.Size, .slice a (bcloneS u0.Data).length c] 33] H F := J
 refine rt (fn := Try.f11) (v := .agg #[i6 u0.ID, .bool u0.Long, .bool u0.Fast, .bool u0.Remote, i6 u0.Size, .slice a (bcloneS u0.Data).length c]) n (re1c n (fn := Try.f11) rfl (ad := ⟨d, 0, none⟩) (by kernel_rfl) (loadVar_run L 0 (b := d) (k := 6) (vs := [i6 u0.ID, .bool u0.Long, .bool u0.Fast, .bool u0.Remote, i6 u0.Size, .slice a (bcloneS u0.Data).length c]) (ty := 33) rfl (by kernel_rfl) (by kernel_rfl)) ) ?_
 exact ⟨(⟨u0.ID, u0.Long, u0.Fast, u0.Remote, u0.Size, (bcloneS u0.Data)⟩ : Frame), a, c, H, rfl, R, V, L.kp⟩

end Go.Proofs.Ytocpdhcjkfmmnaa
set_option linter.unusedVariables false
set_option linter.unusedSimpArgs false
set_option linter.defProp false
set_option maxRecDepth 100000
set_option maxHeartbeats 0
namespace Go.Proofs.Ytocpdhcjkfmmnaa
open Go.Sy Go.RowKit
abbrev e33D (X : Frame) (A0 : Option Addr) (C0 : Nat) : List Value := [i6 X.ID, .bool X.Long, .bool X.Fast, .bool X.Remote, i6 X.Size, .slice A0 X.Data.length C0]
def fName_fun (u0 : Frame) (ao1 : Option Addr) (cap2 : Nat) (Z : Fz) (w : World) (hs3 : SlR t8 Z ao1 cap2 u0.Data) (hZ : Z.on w) := f_ (fName_walk u0 ao1 cap2 Z w hs3 hZ (fName_ok u0))
def fcopy_fun (u0 : Frame) (hpre : u0.Data.length ≤ 140737488355328) (ao1 : Option Addr) (cap2 : Nat) (Z : Fz) (w : World) (hs3 : SlR t8 Z ao1 cap2 u0.Data) (hZ : Z.on w) := fc_ (fcopy_walk u0 ao1 cap2 Z w hs3 hZ (fcopy_ok u0 hpre))
theorem plc1_walk (u0 : Frame) (u1 : List UInt8) (ao1 : Option Addr) (cap2 : Nat) (Z : Fz) (w : World) (hs3 : SlR t8 Z ao1 cap2 u0.Data) (hZ : Z.on w) {K : Int → Prop} (hp : plc1_vc u0 u1 K) : Calls Try.prog 19 #[.agg #[i6 u0.ID, .bool u0.Long, .bool u0.Fast, .bool u0.Remote, i6 u0.Size, .slice ao1 u0.Data.length cap2], str u1] w fun e w' => ∃ r : Int, e = .returned (i6 r) ∧ K r ∧ Below w.heap.size w w' := by
 refine enter0 Try.func19 rfl rfl (by kernel_rfl) ?_; intro y g; have h := Mem.start w Z hZ
 have c := hp (hs3.small)
 refine sqH ?_; intro p i
 refine nw g h pb (e33D u0 ao1 cap2) 33 ?_; intro A B C j d
 refine s1 j 4 (i6 0) ?_; intro D k
 apply i
 refine s_ (sqH ?_); intro q l
 refine l2 k d 8 0 0 6 (e33D u0 ao1 cap2) rfl rfl ?_; intro E m
 refine fc m d (fName_fun u0 ao1 cap2 _ _ hs3 d.fz) ?_; intro F G n a
 refine bt n a 5 [] [] [(5, str (fNameS u0).1)] ?_; intro H o
 apply l
 refine sqB o a [] [29] [(14, .bool (strc .leq (fNameS u0).1 u1))] ?_; intro I b
 refine cd b (t := strc .leq (fNameS u0).1 u1) (by kernel_rfl) (fun f => ?_) (fun f => ?_)
 · -- yes
  have s := c.1 f
  refine sqB b a [] [] [(4, i6 (-1))] ?_; intro J u
  exact r_ (h_ (ra1 u (i6 (-1)) ⟨-1, rfl, s, a.below⟩))
 · -- no
  have v := c.2 f
  refine k_ (sqB b a [] [] [(4, i6 1)] ?_); intro L x
  exact r_ (ra1 x (i6 1) ⟨1, rfl, v, a.below⟩)
def plc1_fun (u0 : Frame) (u1 : List UInt8) (ao1 : Option Addr) (cap2 : Nat) (Z : Fz) (w : World) (hs3 : SlR t8 Z ao1 cap2 u0.Data) (hZ : Z.on w) := f_ (plc1_walk u0 u1 ao1 cap2 Z w hs3 hZ (plc1_ok u0 u1))
theorem qbsf_walk (u0 : List Frame) (u1 : List UInt8) (u2 : Frame → (List UInt8) → Int) (ao1 : Option Addr) (cap2 : Nat) (fid4 : Nat) (caps5 : Array Value) (Z : Fz) (w : World) (hs3 : SlR tyFrame Z ao1 cap2 u0) (hf6 : ∀ (Z1 : Fz) (w1 : World), Z.le Z1 → Z1.on w1 → ∀ (x0 : Frame) (x1 : List UInt8) (xao0 : Option Addr) (xcap0 : Nat), SlR t8 Z1 xao0 xcap0 x0.Data → Calls Try.prog fid4 (#[.agg #[i6 x0.ID, .bool x0.Long, .bool x0.Fast, .bool x0.Remote, i6 x0.Size, .slice xao0 x0.Data.length xcap0], str x1] ++ caps5) w1 fun e w2 => e = .returned (i6 (u2 x0 x1)) ∧ Below w1.heap.size w1 w2) (hg7 : ∀ x w, Sem.run Try.prog (callFunc fid4 x) w = .ok (.enter fid4 x) w) (hZ : Z.on w) {K : (Int × Bool) → Prop} (hp : qbsf_vc u0 u1 u2 K) : Calls Try.prog 18 #[.slice ao1 u0.length cap2, str u1, .func (.func fid4) #[] caps5] w fun e w' => ∃ r : Int × Bool, e = .returned (.tuple #[i6 r.1, .bool r.2]) ∧ K r ∧ Below w.heap.size w w' := by
 refine enter0 Try.func18 rfl rfl (by kernel_rfl) ?_; intro a0 M; have j := Mem.start w Z hZ; have N := Fz.le.refl Z
 have av := hp (hs3.small)
 refine sqB M j [] [] [] ?_; intro aW O
 refine sqB O j [] [] [(8, i6 (u0.length : Int))] ?_; intro aX P
 refine sqB P j [] [] [(9, i6 0), (10, i6 (u0.length : Int))] ?_; intro Q R
 refine s_ (b_ ?_)
 have S : Fr 49 [] [⟨0, [], .slice ao1 u0.length cap2⟩, ⟨1, [], str u1⟩, ⟨2, [], .func (.func fid4) #[] caps5⟩, ⟨8, [], i6 (u0.length : Int)⟩, ⟨9, [], i6 0⟩, ⟨10, [], i6 (u0.length : Int)⟩] Q := R.reg
 obtain ⟨aw, ax, ay, az⟩ := av
 refine lp (ι := Int × Int) (fun s => [⟨0, [], .slice ao1 u0.length cap2⟩, ⟨1, [], str u1⟩, ⟨2, [], .func (.func fid4) #[] caps5⟩, ⟨8, [], i6 (u0.length : Int)⟩, ⟨9, [], i6 s.1⟩, ⟨10, [], i6 s.2⟩]) (fun s => []) (fun s => Z) (fun s => aw s.1 s.2) (fun s => ax s.1 s.2) ⟨0, (u0.length : Int)⟩ ay (by exact S.region (by kernel_rfl) (by kernel_rfl)) (by exact j) ?_
 rintro ⟨a, i⟩ aA aB aC V W
 have p := az a i aA
 refine s_ (sqB V W [] [] [(17, .bool (decide (a < i)))] ?_); intro aY l
 refine cd l (t := decide (a < i)) (by kernel_rfl) (fun F => ?_) (fun F => ?_)
 · -- yes
  have aD := p.1 F
  refine k_ (b_ (sqB l W [] [] [(11, i6 (w64 (bShr .u64 (wu64 (w64 (a + i))) 1)))] ?_)); intro aZ Y
  refine sqH ?_; intro aE aa
  refine bt Y W 3 [] [] [(24, .func (.func fid4) #[] caps5), (25, .slice ao1 u0.length cap2), (26, i6 (w64 (bShr .u64 (wu64 (w64 (a + i))) 1)))] ?_; intro a1 ab
  obtain ⟨aF, ac⟩ := aD
  refine ix_ ab hs3 (w64 (bShr .u64 (wu64 (w64 (a + i))) 1)) aF .i64 33 48 ?_; intro a2 a3 a4 f a5 aG aH aI ad
  have ae := ac f aG
  obtain ⟨G, H, rfl, af⟩ := aI
  have q := ae (af.small)
  refine z2 ad W 28 aH 0 6 (e33D f G H) rfl ?_; intro a6 ag
  refine s1 ag 29 (str u1) ?_; intro a7 ah
  have aJ := hf6 _ _ N W.fz f u1 G H af
  refine fcl ah W (i6 (u2 f u1)) fid4 (#[.agg (e33D f G H).toArray, str u1] ++ caps5) (nog rfl _) rfl (by kernel_rfl) ?h1 ?h2 ?_
  case h1 => exact fv_run rfl (by kernel_rfl) (by kernel_rfl) hg7
  case h2 => exact aJ
  intro a8 a9 ai u
  refine s1 ai 31 (.bool (decide ((u2 f u1) < 0))) ?_; intro ba n
  apply aa
  refine cd n (t := decide ((u2 f u1) < 0)) (by kernel_rfl) (fun I => ?_) (fun I => ?_)
  · -- yes
   have aj := q.1 I
   refine rgB n u [] [] [(9, i6 (w64 ((w64 (bShr .u64 (wu64 (w64 (a + i))) 1)) + 1)))] ?_; intro bb aK
   exact j_ (d_ ⟨⟨w64 ((w64 (bShr .u64 (wu64 (w64 (a + i))) 1)) + 1), i⟩, aj.1, aj.2, (aK.region (by kernel_rfl) (by kernel_rfl)).anyβ _ (by kernel_rfl), u.kp⟩)
  · -- no
   have ak := q.2 I
   refine rgB n u [] [] [(10, i6 (w64 (bShr .u64 (wu64 (w64 (a + i))) 1)))] ?_; intro bc aL
   exact j_ (d_ ⟨⟨a, w64 (bShr .u64 (wu64 (w64 (a + i))) 1)⟩, ak.1, ak.2, (aL.region (by kernel_rfl) (by kernel_rfl)).anyβ _ (by kernel_rfl), u.kp⟩)
 · -- no
  have y := p.2 F
  refine x_ (y_ (y_ (z_ (t_ (sqH ?_))))); intro al z
  refine bt l W 5 [] [] [(35, i6 a), (39, .bool (decide (a < (u0.length : Int))))] ?_; intro bd A
  rcases Bool.eq_false_or_eq_true (decide (a < (u0.length : Int))) with o | o
  · -- true
   have aM := y.1 o
   have am := A.reval (d := 39) (c := []) (v := .bool (decide (a < (u0.length : Int)))) (by kernel_rfl) (.bool true) (by rw [o])
   refine bt am W 3 [] [40, 41, 42] [(40, .func (.func fid4) #[] caps5), (41, .slice ao1 u0.length cap2), (42, i6 a)] ?_; intro be J
   obtain ⟨aN, an⟩ := aM
   refine ix J (T := tyFrame) (xs := u0) hs3 a aN (k := .i64) (e := 33) (bytes := 48) (wK J true) rfl (by kernel_rfl) rfl (by kernel_rfl) (by kernel_rfl) (by kernel_rfl) ?_; intro bf bg bh b bi aO aP aQ B
   have ao := an b aO
   obtain ⟨C, D, rfl, ap⟩ := aQ
   have aR := ao (ap.small)
   refine v_ B (.agg (e33D b C D).toArray) (wK B true) (lza B W.fz aP 0 (g := []) (m := 6) (vs := (e33D b C D)) rfl (by kernel_rfl) (by kernel_rfl) (by kernel_rfl) (by kernel_rfl) rfl) ?_; intro bj E
   refine g_ E true (str u1) ?_; intro bk L
   have aS := hf6 _ _ N W.fz b u1 C D ap
   refine fcl L W (i6 (u2 b u1)) fid4 (#[.agg (e33D b C D).toArray, str u1] ++ caps5) (wK L true) rfl (by kernel_rfl) ?h1 ?h2 ?_
   case h1 => exact fv_run rfl (by kernel_rfl) (by kernel_rfl) hg7
   case h2 => exact aS
   intro bl bm aq ar
   refine bt aq ar 4 [] [47, 48] [(6, i6 a), (7, .bool ((u2 b u1) == 0))] ?_; intro bn aT
   apply z
   exact r_ (ra2 aT (.tuple #[i6 a, .bool ((u2 b u1) == 0)]) ⟨(a, (u2 b u1) == 0), rfl, aR, ar.below⟩)
  · -- false
   have aU := y.2 o
   have au := A.reval (d := 39) (c := []) (v := .bool (decide (a < (u0.length : Int)))) (by kernel_rfl) (.bool false) (by rw [o])
   refine bt au W 11 [] [40, 41, 42, 43, 44, 45, 46, 47, 48] [(6, i6 a), (7, .bool false)] ?_; intro bo aV
   apply z
   exact r_ (ra2 aV (.tuple #[i6 a, .bool false]) ⟨(a, false), rfl, aU, W.below⟩)

theorem qownZ_walk (u0 : List Frame) (ao1 : Option Addr) (cap2 : Nat) (Z : Fz) (w : World) (hs3 : SlR tyFrame Z ao1 cap2 u0) (hZ : Z.on w) {K : (List Frame) → Prop} (hp : qownZ_vc u0 K) : Calls Try.prog 8 #[.slice ao1 u0.length cap2] w fun e w' => ∃ (r : (List Frame)) (ao1001 : Option Addr) (cap1002 : Nat) (Z' : Fz), e = .returned (.slice ao1001 r.length cap1002) ∧ K r ∧ SlR tyFrame Z' ao1001 cap1002 r ∧ Mem w.heap.size [] w Z [] Z' w' := by
 refine enter0 Try.func8 rfl rfl (by kernel_rfl) ?_; intro a0 L; have n := Mem.start w Z hZ
 have aB := hp (hs3.small)
 refine sqB L n [] [] [] ?_; intro a6 M
 refine sqB M n [] [] [(3, .slice none 0 0)] ?_; intro a9 N
 refine s_ (sqB N n [] [] [(6, .slice ao1 u0.length cap2), (7, i6 (u0.length : Int)), (8, i6 0)] ?_); intro O P
 apply b_
 have Q : Fr 19 [] [⟨3, [], .slice none 0 0⟩, ⟨6, [], .slice ao1 u0.length cap2⟩, ⟨7, [], i6 (u0.length : Int)⟩, ⟨8, [], i6 0⟩] O := P.reg
 have R : Mem w.heap.size [] w Z [.own tyFrame 33 none 0 ([] : List Frame)] Z w := n.addNil tyFrame 33 (by decide)
 have S : Fr 19 [] [⟨3, [], .slice none ([] : List Frame).length 0⟩, ⟨6, [], .slice ao1 u0.length cap2⟩, ⟨7, [], i6 (u0.length : Int)⟩, ⟨8, [], i6 0⟩] O := Q.reg
 obtain ⟨aC, aD, aE, aF⟩ := aB
 refine lp (ι := (List Frame) × Int × (Option Addr) × Nat × Fz) (fun s => [⟨3, [], .slice s.2.2.1 s.1.length s.2.2.2.1⟩, ⟨6, [], .slice ao1 u0.length cap2⟩, ⟨7, [], i6 (u0.length : Int)⟩, ⟨8, [], i6 s.2.1⟩]) (fun s => [.own tyFrame 33 s.2.2.1 s.2.2.2.1 s.1]) (fun s => s.2.2.2.2) (fun s => aC s.1 s.2.1 ∧ Fz.le Z s.2.2.2.2) (fun s => aD s.1 s.2.1) ⟨([] : List Frame), 0, none, 0, Z⟩ ⟨aE, Fz.le.refl _⟩ (by exact S.region (by kernel_rfl) (by kernel_rfl)) (by exact R) ?_
 rintro ⟨c, j, d, f, U⟩ ⟨aG, l⟩ aH V W X
 have u := aF c j aG
 have o := hs3.mono l
 refine sqB W X [] [] [(9, .bool (decide (j < (u0.length : Int))))] ?_; intro a2 p
 apply s_
 refine cd p (t := decide (j < (u0.length : Int))) (by kernel_rfl) (fun z => ?_) (fun z => ?_)
 · -- yes
  have aI := u.1 z
  refine k_ (s_ (b_ (sqH ?_))); intro aJ aa
  obtain ⟨aK, ab⟩ := aI
  refine ix_ p o j aK .i64 33 48 ?_; intro a3 a4 a5 a a7 aL A aM ac
  have ad := ab a aL
  obtain ⟨g, h, rfl, v⟩ := aM
  have aN := ad (v.small)
  refine z2 ac X 11 A 0 6 (e33D a g h) rfl ?_; intro a8 ae
  refine nw ae X pb [i6 0, .bool false, .bool false, .bool false, i6 0, .slice none 0 0] 33 ?_; intro B ba bb C af
  refine sx C af 0 (e33D a g h) 0 ?_; intro aO ag
  have y : Mem w.heap.size [] w Z [.row B (e33D a g h) 33, .own tyFrame 33 d f c] U aO := ag
  apply aa
  refine rgH ?_; intro aP ah
  refine bt C y 2 [0] [] [(12, .slice d c.length f), (13, .agg (e33D a g h).toArray)] ?_; intro bc ai
  obtain ⟨aQ, aj⟩ := aN
  refine ck ai 11 #[.agg (e33D a g h).toArray] ?_
  refine (fcopy_fun a aQ g h _ _ v y.fz).mono ?_; rintro _ aR ⟨D, E, F, rfl, ak, hm⟩; refine ⟨_, rfl, ?_⟩; intro bd al; have am := y.callZ hm; have q := hm.ext.le
  replace l := l.mono q
  have an : Mem w.heap.size [] w Z [.row B (e33D a g h) 33, .own tyFrame 33 d f c] F aR := am
  have aS := aj (ak.small)
  refine nw al an (fun b => .slice (sm b) 1 1) (e33D (fcopyS a) D E) 33 ?_; intro aq be bf ar G
  obtain ⟨aT, au⟩ := aS
  refine ap ar G 2 (T := tyFrame) (xs := c) (ys := [(fcopyS a)]) (ao := d) (cap := f) (ao2 := (sm aq)) (cap2 := 1) (t := 22) (e := 33) (bytes := 48) (nog rfl _) rfl (by kernel_rfl) rfl (by kernel_rfl) (by kernel_rfl) (by kernel_rfl) rfl (Src.row G 0 rfl (RepAll.one (T := tyFrame) (x := (fcopyS a)) ⟨D, E, rfl, ak⟩)) aT ?_; intro H I bg aU bh av aw
  have ax : Mem w.heap.size [] w Z [.row aq (e33D (fcopyS a) D E) 33, .row B (e33D a g h) 33, .own tyFrame 33 H I (c ++ [(fcopyS a)])] F aU := aw
  refine s1 av 3 (.slice H (c ++ [(fcopyS a)]).length I) ?_; intro bi ay
  apply ah
  refine j_ (t_ (rgB ay ax [] [] [(8, i6 (w64 (j + 1)))] ?_)); intro bj aV
  exact d_ ⟨⟨c ++ [(fcopyS a)], w64 (j + 1), H, I, F⟩, ⟨au.1, l⟩, au.2, (aV.region (by kernel_rfl) (by kernel_rfl)).anyβ _ (by kernel_rfl), ax.kp⟩
 · -- no
  have aW := u.2 z
  refine x_ (y_ (y_ (z_ (t_ (sqB p X [] [] [(2, .slice d c.length f)] ?_))))); intro bk aX
  apply r_
  obtain ⟨az, J, aA, aY⟩ := X.freeze 0 rfl
  have aZ : Mem w.heap.size [] w Z [] az V := aA
  exact ra1 aX (.slice d c.length f) ⟨c, d, f, az, rfl, aW, aY, aZ.kp⟩

theorem qcheck_walk (u0 : List Frame) (ao1 : Option Addr) (cap2 : Nat) (Z : Fz) (w : World) (hs3 : SlR tyFrame Z ao1 cap2 u0) (hZ : Z.on w) {K : Int → Prop} (hp : qcheck_vc u0 K) : Calls Try.prog 6 #[.slice ao1 u0.length cap2] w fun e w' => ∃ r : Int, e = .returned (i6 r) ∧ K r ∧ Below w.heap.size w w' := by
 refine enter0 Try.func6 rfl rfl (by kernel_rfl) ?_; intro a0 C; have c := Mem.start w Z hZ
 have n := hp (hs3.small)
 refine sqB C c [] [] [] ?_; intro a6 D
 refine s_ (sqB D c [] [] [(10, .bool (decide ((u0.length : Int) > 16)))] ?_); intro aG g
 refine cd g (t := decide ((u0.length : Int) > 16)) (by kernel_rfl) (fun x => ?_) (fun x => ?_)
 · -- yes
  have ad := n.1 x
  refine sqB g c [] [] [(2, i6 2)] ?_; intro aH ae
  exact r_ (h_ (ra1 ae (i6 2) ⟨2, rfl, ad, c.below⟩))
 · -- no
  have af := n.2 x
  refine k_ (sqB g c [] [] [(3, str [])] ?_); intro aI E
  refine s_ (sqB E c [] [] [(11, .slice ao1 u0.length cap2), (12, i6 (u0.length : Int)), (13, i6 0)] ?_); intro F G
  apply b_
  have H : Fr 30 [] [⟨3, [], str []⟩, ⟨11, [], .slice ao1 u0.length cap2⟩, ⟨12, [], i6 (u0.length : Int)⟩, ⟨13, [], i6 0⟩] F := G.reg
  obtain ⟨ag, ah, ai, aj⟩ := af
  refine lp (ι := (List UInt8) × Int) (fun s => [⟨3, [], str s.1⟩, ⟨11, [], .slice ao1 u0.length cap2⟩, ⟨12, [], i6 (u0.length : Int)⟩, ⟨13, [], i6 s.2⟩]) (fun s => []) (fun s => Z) (fun s => ag s.1 s.2) (fun s => ah s.1 s.2) ⟨[], 0⟩ ai (by exact H.region (by kernel_rfl) (by kernel_rfl)) (by exact c) ?_
  rintro ⟨o, d⟩ ak al am J L
  have p := aj o d ak
  refine sqB J L [] [] [(14, .bool (decide (d < (u0.length : Int))))] ?_; intro aJ h
  apply s_
  refine cd h (t := decide (d < (u0.length : Int))) (by kernel_rfl) (fun y => ?_) (fun y => ?_)
  · -- yes
   have an := p.1 y
   refine k_ (s_ (b_ (sqH ?_))); intro ao N
   obtain ⟨ap, O⟩ := an
   refine ix_ h hs3 d ap .i64 33 48 ?_; intro aK aL aM a aN aq ar au P
   have Q := O a aq
   obtain ⟨i, j, rfl, R⟩ := au
   have q := Q (R.small)
   refine z2 P L 16 ar 0 6 (e33D a i j) rfl ?_; intro aO S
   refine nw S L pb [i6 0, .bool false, .bool false, .bool false, i6 0, .slice none 0 0] 33 ?_; intro av aP aQ z U
   refine sx z U 0 (e33D a i j) 0 ?_; intro aw V
   have u : Mem w.heap.size [] w Z [.row av (e33D a i j) 33] Z aw := V
   apply N
   refine sqH ?_; intro ax W
   refine l2 z u 18 0 0 6 (e33D a i j) rfl rfl ?_; intro aR X
   refine fc X u (fName_fun a i j _ _ R u.fz) ?_; intro aS aT Y b
   refine bt Y b 5 [] [] [(6, str (fNameS a).1), (7, i6 (fNameS a).2)] ?_; intro aU aa
   apply W
   refine s_ (sqB aa b [] [] [(23, .bool ((fNameS a).2 != 0))] ?_); intro aV l
   refine cd l (t := (fNameS a).2 != 0) (by kernel_rfl) (fun A => ?_) (fun A => ?_)
   · -- yes
    have ay := q.1 A
    refine sqB l b [] [] [(2, i6 (fNameS a).2)] ?_; intro aW az
    exact r_ (h_ (i_ (h_ (h_ (i_ (h_ (ra1 az (i6 (fNameS a).2) ⟨(fNameS a).2, rfl, ay, b.below⟩)))))))
   · -- no
    have v := q.2 A
    refine k_ (s_ (sqB l b [] [57] [(27, .bool (Op.bytesLess (fNameS a).1 o))] ?_)); intro aX m
    refine cd m (t := Op.bytesLess (fNameS a).1 o) (by kernel_rfl) (fun B => ?_) (fun B => ?_)
    · -- yes
     have aA := v.1 B
     refine sqB m b [] [] [(2, i6 4)] ?_; intro aY aB
     exact r_ (h_ (i_ (h_ (h_ (i_ (h_ (ra1 aB (i6 4) ⟨4, rfl, aA, b.below⟩)))))))
    · -- no
     have ab := v.2 B
     refine k_ (rgB m b [] [] [(3, str (fNameS a).1)] ?_); intro aZ ac
     refine j_ (t_ (rgB ac b [] [] [(13, i6 (w64 (d + 1)))] ?_)); intro a1 aC
     exact d_ ⟨⟨(fNameS a).1, w64 (d + 1)⟩, ab.1, ab.2, (aC.region (by kernel_rfl) (by kernel_rfl)).anyβ _ (by kernel_rfl), b.kp⟩
  · -- no
   have aD := p.2 y
   refine x_ (y_ (y_ (z_ (t_ (sqB h L [] [] [(2, i6 0)] ?_))))); intro a2 aE
   exact r_ (ra1 aE (i6 0) ⟨0, rfl, aD, L.below⟩)

end Go.Proofs.Ytocpdhcjkfmmnaa
set_option linter.unusedVariables false
set_option linter.unusedSimpArgs false
set_option linter.defProp false
set_option maxRecDepth 100000
set_option maxHeartbeats 0
namespace Go.Proofs.Ytocpdhcjkfmmnaa
open Go.Sy Go.RowKit
abbrev e33E (X : Frame) (A0 : Option Addr) (C0 : Nat) : List Value := [i6 X.ID, .bool X.Long, .bool X.Fast, .bool X.Remote, i6 X.Size, .slice A0 X.Data.length C0]
def qbsf_fun (u0 : List Frame) (u1 : List UInt8) (u2 : Frame → (List UInt8) → Int) (hpre : u0.Pairwise (fun x y => u2 y u1 < 0 → u2 x u1 < 0)) (ao1 : Option Addr) (cap2 : Nat) (fid4 : Nat) (caps5 : Array Value) (Z : Fz) (w : World) (hs3 : SlR tyFrame Z ao1 cap2 u0) (hf6 : ∀ (Z1 : Fz) (w1 : World), Z.le Z1 → Z1.on w1 → ∀ (x0 : Frame) (x1 : List UInt8) (xao0 : Option Addr) (xcap0 : Nat), SlR t8 Z1 xao0 xcap0 x0.Data → Calls Try.prog fid4 (#[.agg #[i6 x0.ID, .bool x0.Long, .bool x0.Fast, .bool x0.Remote, i6 x0.Size, .slice xao0 x0.Data.length xcap0], str x1] ++ caps5) w1 fun e w2 => e = .returned (i6 (u2 x0 x1)) ∧ Below w1.heap.size w1 w2) (hg7 : ∀ x w, Sem.run Try.prog (callFunc fid4 x) w = .ok (.enter fid4 x) w) (hZ : Z.on w) := f_ (qbsf_walk u0 u1 u2 ao1 cap2 fid4 caps5 Z w hs3 hf6 hg7 hZ (qbsf_ok u0 u1 u2 hpre))
def qownZ_fun (u0 : List Frame) (hpre : u0.length * 48 ≤ 140737488355328) (ao1 : Option Addr) (cap2 : Nat) (Z : Fz) (w : World) (hs3 : SlR tyFrame Z ao1 cap2 u0) (hZ : Z.on w) := fc_ (qownZ_walk u0 ao1 cap2 Z w hs3 hZ (qownZ_ok u0 hpre))
def qcheck_fun (u0 : List Frame) (ao1 : Option Addr) (cap2 : Nat) (Z : Fz) (w : World) (hs3 : SlR tyFrame Z ao1 cap2 u0) (hZ : Z.on w) := f_ (qcheck_walk u0 ao1 cap2 Z w hs3 hZ (qcheck_ok u0))
theorem qplace_walk (u0 : List Frame) (u1 : Frame) (ao1 : Option Addr) (cap2 : Nat) (ao4 : Option Addr) (cap5 : Nat) (Z : Fz) (w : World) (hs3 : SlR tyFrame Z ao1 cap2 u0) (hs6 : SlR t8 Z ao4 cap5 u1.Data) (hZ : Z.on w) {K : Int → Prop} (hp : qplace_vc u0 u1 K) : Calls Try.prog 10 #[.slice ao1 u0.length cap2, .agg #[i6 u1.ID, .bool u1.Long, .bool u1.Fast, .bool u1.Remote, i6 u1.Size, .slice ao4 u1.Data.length cap5]] w fun e w' => ∃ r : Int, e = .returned (i6 r) ∧ K r ∧ Below w.heap.size w w' := by
 refine enter0 Try.func10 rfl rfl (by kernel_rfl) ?_; intro B d; have f := Mem.start w Z hZ
 have t := hp (hs3.small) (hs6.small)
 refine sqH ?_; intro u h
 refine nw d f pb (e33E u1 ao4 cap5) 33 ?_; intro D E F i b
 refine s1 i 4 (i6 0) ?_; intro G j
 apply h
 refine sqH ?_; intro v k
 refine l2 j b 10 0 0 6 (e33E u1 ao4 cap5) rfl rfl ?_; intro H l
 refine fc l b (fName_fun u1 ao4 cap5 _ _ hs6 b.fz) ?_; intro I J m a
 refine bt m a 5 [] [] [(5, str (fNameS u1).1)] ?_; intro L n
 apply k
 refine sqH ?_; intro x o
 refine bt n a 2 [] [] [(15, .slice ao1 u0.length cap2), (16, str (fNameS u1).1)] ?_; intro M p
 obtain ⟨y, z⟩ := t
 refine fc p a (qbsf_fun u0 (fNameS u1).1 (fun x0 x1 => plc1 x0 x1 ) y ao1 cap2 19 #[] _ _ hs3 (fun Z1 w1 h1 h2 x0 x1 m0 n0 s0 => plc1_fun x0 x1  m0 n0 Z1 w1 s0 h2) (fun _ _ => by kernel_rfl) a.fz) ?_; intro N O q c
 refine bt q c 5 [] [] [(7, i6 (bsfS u0 (fNameS u1).1 (fun x0 x1 => plc1 x0 x1 )).1)] ?_; intro P s
 apply o
 refine sqB s c [] [] [(4, i6 (bsfS u0 (fNameS u1).1 (fun x0 x1 => plc1 x0 x1 )).1)] ?_; intro Q A
 exact r_ (ra1 A (i6 (bsfS u0 (fNameS u1).1 (fun x0 x1 => plc1 x0 x1 )).1) ⟨(bsfS u0 (fNameS u1).1 (fun x0 x1 => plc1 x0 x1 )).1, rfl, z, c.below⟩)

theorem qtake_walk (u0 : List Frame) (ao1 : Option Addr) (cap2 : Nat) (Z : Fz) (w : World) (hs3 : SlR tyFrame Z ao1 cap2 u0) (hZ : Z.on w) {K : (Frame × (List Frame) × Int) → Prop} (hp : qtake_vc u0 K) : Calls Try.prog 13 #[.slice ao1 u0.length cap2] w fun e w' => ∃ (r : Frame × (List Frame) × Int) (ao1001 : Option Addr) (cap1002 : Nat) (ao1004 : Option Addr) (cap1005 : Nat) (Z' : Fz), e = .returned (.tuple #[.agg #[i6 r.1.ID, .bool r.1.Long, .bool r.1.Fast, .bool r.1.Remote, i6 r.1.Size, .slice ao1001 r.1.Data.length cap1002], .slice ao1004 r.2.1.length cap1005, i6 r.2.2]) ∧ K r ∧ SlR t8 Z' ao1001 cap1002 r.1.Data ∧ SlR tyFrame Z' ao1004 cap1005 r.2.1 ∧ Mem w.heap.size [] w Z [] Z' w' := by
 refine enter0 Try.func13 rfl rfl (by kernel_rfl) ?_; intro a0 aw; have ax := Mem.start w Z hZ
 have ak := hp (hs3.small)
 refine sqH ?_; intro aZ ay
 refine nw aw ax pb [i6 0, .bool false, .bool false, .bool false, i6 0, .slice none 0 0] 33 ?_; intro l a7 bY az al
 refine bt az al 2 [] [] [] ?_; intro bZ aA
 apply ay
 refine s_ (sqH ?_); intro a1 aB
 refine s1 aA 7 (.slice ao1 u0.length cap2) ?_; intro b0 aC
 refine fc aC al (qcheck_fun u0 ao1 cap2 _ _ hs3 al.fz) ?_; intro b1 b2 aD F
 refine s1 aD 5 (i6 (qcheckS u0)) ?_; intro b3 aE
 apply aB
 refine sqB aE F [] [] [(10, .bool ((qcheckS u0) != 0))] ?_; intro b4 ai
 refine c_ ai ak (fun _ a2 => ?_) fun _ am => ?_
 ·
  refine sqH ?_; intro a3 aF
  refine bt ai F 2 [] [] [(11, .agg #[i6 0, .bool false, .bool false, .bool false, i6 0, .slice none 0 0]), (12, i6 (qcheckS u0))] ?_; intro b5 ao
  refine sx ao F 0 [i6 0, .bool false, .bool false, .bool false, i6 0, .slice none 0 0] 0 ?_; intro a4 ap
  refine bt ao ap 2 [] [] [(3, .slice none 0 0), (4, i6 (qcheckS u0))] ?_; intro b7 aG
  have aH : Mem w.heap.size [] w Z [.row l [i6 0, .bool false, .bool false, .bool false, i6 0, .slice none 0 0] 33] Z a4 := ap
  apply aF
  refine r_ (h_ (rt (fn := Try.f13) (v := .tuple #[.agg #[i6 0, .bool false, .bool false, .bool false, i6 0, .slice none 0 0], .slice none 0 0, i6 (qcheckS u0)]) aG (re3c aG (fn := Try.f13) rfl (ad := ⟨l, 0, none⟩) (by kernel_rfl) (loadVar_run aH 0 (b := l) (k := 6) (vs := [i6 0, .bool false, .bool false, .bool false, i6 0, .slice none 0 0]) (ty := 33) rfl (by kernel_rfl) (by kernel_rfl)) (by kernel_rfl) (by kernel_rfl)) ?_))
  exact ⟨((⟨0, false, false, false, 0, []⟩ : Frame), [], (qcheckS u0)), none, 0, none, 0, Z, rfl, a2, (SlR.nil _ _), (SlR.nil _ _), aH.kp⟩
 ·
  refine k_ (s_ (sqB ai F [] [] [(15, .bool ((u0.length : Int) == 0))] ?_)); intro b8 aj
  refine c_ aj am (fun _ a5 => ?_) fun _ a9 => ?_
  ·
   refine sqH ?_; intro a6 aI
   refine s1 aj 16 (.agg #[i6 0, .bool false, .bool false, .bool false, i6 0, .slice none 0 0]) ?_; intro b9 ar
   refine sx ar F 0 [i6 0, .bool false, .bool false, .bool false, i6 0, .slice none 0 0] 0 ?_; intro a8 au
   refine bt ar au 2 [] [] [(3, .slice none 0 0), (4, i6 8)] ?_; intro ca aJ
   have aK : Mem w.heap.size [] w Z [.row l [i6 0, .bool false, .bool false, .bool false, i6 0, .slice none 0 0] 33] Z a8 := au
   apply aI
   refine r_ (h_ (rt (fn := Try.f13) (v := .tuple #[.agg #[i6 0, .bool false, .bool false, .bool false, i6 0, .slice none 0 0], .slice none 0 0, i6 8]) aJ (re3c aJ (fn := Try.f13) rfl (ad := ⟨l, 0, none⟩) (by kernel_rfl) (loadVar_run aK 0 (b := l) (k := 6) (vs := [i6 0, .bool false, .bool false, .bool false, i6 0, .slice none 0 0]) (ty := 33) rfl (by kernel_rfl) (by kernel_rfl)) (by kernel_rfl) (by kernel_rfl)) ?_))
   exact ⟨((⟨0, false, false, false, 0, []⟩ : Frame), [], 8), none, 0, none, 0, Z, rfl, a5, (SlR.nil _ _), (SlR.nil _ _), aK.kp⟩
  ·
   refine k_ (sqH ?_); intro ba aL
   refine s1 aj 17 (.slice ao1 u0.length cap2) ?_; intro cb aM
   obtain ⟨bb, aN⟩ := a9
   refine ck aM 8 #[.slice ao1 u0.length cap2] ?_
   refine (qownZ_fun u0 bb ao1 cap2 _ _ hs3 F.fz).mono ?_; rintro _ bc ⟨q, s, P, rfl, H, hm⟩; refine ⟨_, rfl, ?_⟩; intro cc aO; have aP := F.callZ hm
   have bd : Mem w.heap.size [] w Z [.row l [i6 0, .bool false, .bool false, .bool false, i6 0, .slice none 0 0] 33] P bc := aP
   have be := aN (H.small)
   refine s1 aO 6 (.slice q (ownS u0).length s) ?_; intro Q aR
   apply aL
   have bf : Fr 24 [] [⟨2, [], pt l 0⟩, ⟨6, [], .slice q (ownS u0).length s⟩] Q := aR.reg
   obtain ⟨bg, aS⟩ := be
   obtain ⟨c, bh, bi⟩ := gxq aS (by omega)
   obtain ⟨bj, bk⟩ := bi
   refine wp_seq (any_invE mixed [[], [0], [1], [], [3], [0, 1, 2], [0, 1, 2, 3, 4, 5], [0, 1, 2, 3, 4, 5, 6]] 8 (fun S a w1 => ∃ (u : Nat) (x : Nat) (g : Option Addr) (h : Nat) (m : Option Addr) (n : Nat) (I : Value) (D : Value) (ag : Value) (ab : Value) (R : Value) (U : Value) (L : Value) (ac : Res), Fz.le P P ∧ Fr 24 [] [⟨2, [], pt l 0⟩, ⟨3, [], I⟩, ⟨4, [], D⟩, ⟨6, [], .slice q (ownS u0).length s⟩, ⟨19, [], ag⟩, ⟨20, [], ab⟩, ⟨21, [], R⟩, ⟨22, [], U⟩, ⟨23, [], L⟩] a ∧ Mem w.heap.size [] w Z [ac] P w1 ∧ (S 6 = true → I = .slice m ((ownS u0).drop (1 : Int).toNat).length n) ∧ (S 7 = true → D = i6 0) ∧ (S 0 = true → ag = .slice q (ownS u0).length s) ∧ (S 1 = true → ab = pt u x) ∧ (S 2 = true → R = .agg (e33E c g h).toArray) ∧ (S 3 = true → U = .slice q (ownS u0).length s) ∧ (S 4 = true → L = .slice m ((ownS u0).drop (1 : Int).toNat).length n) ∧ (S 5 = false → ac = .row l [i6 0, .bool false, .bool false, .bool false, i6 0, .slice none 0 0] 33) ∧ (S 5 = true → ac = .row l (e33E c g h) 33) ∧ (S 1 = true → SlR t8 P g h c.Data) ∧ (S 1 = true → PtR P u x (e33E c g h)) ∧ (S 4 = true → SlR tyFrame P m n ((ownS u0).drop (1 : Int).toNat))) ?h0 ?hs ?hE)
   case h0 =>
    have bl := bf.any 3
    have bm := bl.any 4
    have bn := bm.any 19
    have bo := bn.any 20
    have bp := bo.any 21
    have bq := bp.any 22
    have br := bq.any 23
    have bs := (bd.perm lpr).drew
    exact ⟨0, 0, none, 0, none, 0, Q.tmps.getD 3 undef, Q.tmps.getD 4 undef, Q.tmps.getD 19 undef, Q.tmps.getD 20 undef, Q.tmps.getD 21 undef, Q.tmps.getD 22 undef, Q.tmps.getD 23 undef, .row l [i6 0, .bool false, .bool false, .bool false, i6 0, .slice none 0 0] 33, Fz.le.refl _, br.reg, bs, ff, ff, ff, ff, ff, ff, ff, kf, ff, ff, ff, ff⟩
   case hs =>
    intro S hcl i o hil hi hSi hpre a w1 hI; refine Go.Sy.hid ?_; intro G hG; obtain ⟨u, x, g, h, m, n, I, D, ag, ab, R, U, L, ac, d, hFx, hMx, av, aT, M, V, ae, N, W, af, hI⟩ := hI; obtain ⟨ah, X, Y, hI⟩ := hI; have aa := hI
    have hcase : i = 0 ∨ i = 1 ∨ i = 2 ∨ i = 3 ∨ i = 4 ∨ i = 5 ∨ i = 6 ∨ i = 7 := by clear hi; omega
    rcases hcase with rfl | rfl | rfl | rfl | rfl | rfl | rfl | rfl
    ·
     obtain rfl := oj hi
     have z := hSi
     have f := ngF hcl 1 0 z
     have C := ngF hcl 2 1 f
     have p := ngF hcl 5 0 z
     have y := ngF hcl 6 0 z
     have B := ngF hcl 7 0 z
     obtain rfl := af p
     refine hG (any_step ?_); intro A J hJ
     refine s1 hFx 19 (.slice q (ownS u0).length s) ?_; intro cg bu
     refine nl (qnI (hJ _ _ ?_))
     exact ⟨u, x, g, h, m, n, I, D, .slice q (ownS u0).length s, ab, R, U, L, .row l [i6 0, .bool false, .bool false, .bool false, i6 0, .slice none 0 0] 33, d, bu.reg, hMx.perm lpr, (nt y), (nt B), kf, (nt f), (nt C), N, W, kf, (nt p), (nt f), (nt f), aa⟩
    ·
     obtain rfl := oj hi
     have z := hpre 0 (by kernel_rfl)
     have f := hSi
     have C := ngF hcl 2 1 f
     have p := ngF hcl 5 1 f
     have y := ngF hcl 6 1 f
     have B := ngF hcl 7 1 f
     obtain rfl := M z
     obtain rfl := af p
     refine hG (any_step ?_); intro A J hJ
     have bv := H.mono d
     refine ix_ hFx bv (0 : Int) bg .i64 33 48 ?_; intro aU aV ci bw cj bx bz bA bB
     obtain rfl : c = bw := oj (bh.symm.trans bx)
     obtain ⟨bC, bD, rfl, bE⟩ := bA
     refine nl (qnI (hJ _ _ ?_))
     exact ⟨aU, aV, bC, bD, m, n, I, D, .slice q (ownS u0).length s, pt aU aV, R, U, L, .row l [i6 0, .bool false, .bool false, .bool false, i6 0, .slice none 0 0] 33, d, bB.reg, hMx.perm lpr, (nt y), (nt B), kf, kf, (nt C), N, W, kf, (nt p), (fun _ => bE), (fun _ => bz), aa⟩
    ·
     obtain rfl := oj hi
     have f := hpre 1 (by kernel_rfl)
     have z := hcl 1 0 (by kernel_rfl) f
     have C := hSi
     have p := ngF hcl 5 2 C
     have y := ngF hcl 6 2 C
     have B := ngF hcl 7 2 C
     obtain rfl := M z
     obtain rfl := V f
     obtain rfl := af p
     refine hG (any_step ?_); intro A J hJ
     have bF := X f
     have aW := Y f
     refine z2 hFx hMx 21 aW 0 6 (e33E c g h) rfl ?_; intro cn bG
     refine nl (qnI (hJ _ _ ?_))
     exact ⟨u, x, g, h, m, n, I, D, .slice q (ownS u0).length s, pt u x, .agg (e33E c g h).toArray, U, L, .row l [i6 0, .bool false, .bool false, .bool false, i6 0, .slice none 0 0] 33, d, bG.reg, hMx.perm lpr, (nt y), (nt B), kf, kf, kf, N, W, kf, (nt p), (fun _ => bF), (fun _ => aW), aa⟩
    ·
     obtain rfl := oj hi
     have O := hSi
     have E := ngF hcl 4 3 O
     have y := ngF hcl 6 3 O
     have B := ngF hcl 7 3 O
     refine hG (any_step ?_); intro A J hJ
     refine s1 hFx 22 (.slice q (ownS u0).length s) ?_; intro cq bH
     refine nl (qnI (hJ _ _ ?_))
     exact ⟨u, x, g, h, m, n, I, D, ag, ab, R, .slice q (ownS u0).length s, L, ac, d, bH.reg, hMx.perm lpr, (nt y), (nt B), M, V, ae, kf, (nt E), af, ah, X, Y, (nt E)⟩
    ·
     obtain rfl := oj hi
     have O := hpre 3 (by kernel_rfl)
     have E := hSi
     have y := ngF hcl 6 4 E
     have B := ngF hcl 7 4 E
     obtain rfl := N O
     refine hG (any_step ?_); intro A J hJ
     have bI := H.mono d
     refine slL hFx (T := tyFrame) (xs := (ownS u0)) bI (1 : Int) bj (k := .i64) (e := 33) (bytes := 48) (nog rfl _) rfl (by kernel_rfl) rfl (by kernel_rfl) (by kernel_rfl) (by kernel_rfl) ?_; intro aX aY cs ct bJ bK
     refine nl (qnI (hJ _ _ ?_))
     exact ⟨u, x, g, h, aX, aY, I, D, ag, ab, R, .slice q (ownS u0).length s, .slice aX ((ownS u0).drop (1 : Int).toNat).length aY, ac, d, bK.reg, hMx.perm lpr, (nt y), (nt B), M, V, ae, kf, kf, af, ah, X, Y, (fun _ => bJ)⟩
    ·
     obtain rfl := oj hi
     have C := hpre 2 (by kernel_rfl)
     have f := hpre 1 (by kernel_rfl)
     have z := hpre 0 (by kernel_rfl)
     have p := hSi
     have y := ngF hcl 6 5 p
     have B := ngF hcl 7 5 p
     obtain rfl := M z
     obtain rfl := V f
     obtain rfl := ae C
     obtain rfl := af p
     refine hG (any_step ?_); intro A J hJ
     have bL := X f
     have bM := Y f
     refine sx hFx hMx 0 (e33E c g h) 0 ?_; intro cw bN
     refine nl (qnI (hJ _ _ ?_))
     exact ⟨u, x, g, h, m, n, I, D, .slice q (ownS u0).length s, pt u x, .agg (e33E c g h).toArray, U, L, .row l (e33E c g h) 33, d, hFx.reg, bN.perm lpr, (nt y), (nt B), kf, kf, kf, N, W, nu, kf, (fun _ => bL), (fun _ => bM), aa⟩
    ·
     obtain rfl := oj hi
     have p := hpre 5 (by kernel_rfl)
     have E := hpre 4 (by kernel_rfl)
     have O := hpre 3 (by kernel_rfl)
     have C := hpre 2 (by kernel_rfl)
     have f := hpre 1 (by kernel_rfl)
     have z := hpre 0 (by kernel_rfl)
     have y := hSi
     have B := ngF hcl 7 6 y
     obtain rfl := M z
     obtain rfl := V f
     obtain rfl := ae C
     obtain rfl := N O
     obtain rfl := W E
     obtain rfl := ah p
     refine hG (any_step ?_); intro A J hJ
     have bO := X f
     have bP := Y f
     have bQ := aa E
     refine s1 hFx 3 (.slice m ((ownS u0).drop (1 : Int).toNat).length n) ?_; intro cz bR
     refine nl (qnI (hJ _ _ ?_))
     exact ⟨u, x, g, h, m, n, .slice m ((ownS u0).drop (1 : Int).toNat).length n, D, .slice q (ownS u0).length s, pt u x, .agg (e33E c g h).toArray, .slice q (ownS u0).length s, .slice m ((ownS u0).drop (1 : Int).toNat).length n, .row l (e33E c g h) 33, d, bR.reg, hMx.perm lpr, kf, (nt B), kf, kf, kf, kf, kf, (tn p), kf, (fun _ => bO), (fun _ => bP), (fun _ => bQ)⟩
    ·
     obtain rfl := oj hi
     have y := hpre 6 (by kernel_rfl)
     have p := hpre 5 (by kernel_rfl)
     have E := hpre 4 (by kernel_rfl)
     have O := hpre 3 (by kernel_rfl)
     have C := hpre 2 (by kernel_rfl)
     have f := hpre 1 (by kernel_rfl)
     have z := hpre 0 (by kernel_rfl)
     obtain rfl := av y
     obtain rfl := M z
     obtain rfl := V f
     obtain rfl := ae C
     obtain rfl := N O
     obtain rfl := W E
     obtain rfl := ah p
     refine hG (any_step ?_); intro A J hJ
     have bS := X f
     have bT := Y f
     have bU := aa E
     refine s1 hFx 4 (i6 0) ?_; intro cC bV
     refine nl (qnI (hJ _ _ ?_))
     exact ⟨u, x, g, h, m, n, .slice m ((ownS u0).drop (1 : Int).toNat).length n, i6 0, .slice q (ownS u0).length s, pt u x, .agg (e33E c g h).toArray, .slice q (ownS u0).length s, .slice m ((ownS u0).drop (1 : Int).toNat).length n, .row l (e33E c g h) 33, d, bV.reg, hMx.perm lpr, kf, kf, kf, kf, kf, kf, kf, (tn p), kf, (fun _ => bS), (fun _ => bT), (fun _ => bU)⟩
   case hE =>
    intro S hS cD cE hI; refine Go.Sy.hid ?_; intro G hG; obtain ⟨u, x, g, h, m, n, I, D, ag, ab, R, U, L, ac, d, hFx, hMx, av, aT, M, V, ae, N, W, af, hI⟩ := hI; obtain ⟨ah, X, Y, hI⟩ := hI; have aa := hI; refine hG ?_
    obtain rfl := av (hS 6 (by decide))
    obtain rfl := aT (hS 7 (by decide))
    obtain rfl := M (hS 0 (by decide))
    obtain rfl := V (hS 1 (by decide))
    obtain rfl := ae (hS 2 (by decide))
    obtain rfl := N (hS 3 (by decide))
    obtain rfl := W (hS 4 (by decide))
    obtain rfl := ah (hS 5 (by decide))
    have bW := X (hS 1 (by decide))
    have bX := aa (hS 4 (by decide))
    refine t_ (r_ (rt (fn := Try.f13) (v := .tuple #[.agg (e33E c g h).toArray, .slice m ((ownS u0).drop (1 : Int).toNat).length n, i6 0]) hFx (re3c hFx (fn := Try.f13) rfl (ad := ⟨l, 0, none⟩) (by kernel_rfl) (loadVar_run hMx 0 (b := l) (k := 6) (vs := (e33E c g h)) (ty := 33) rfl (by kernel_rfl) (by kernel_rfl)) (by kernel_rfl) (by kernel_rfl)) ?_))
    exact ⟨(c, (ownS u0).drop (1 : Int).toNat, 0), g, h, m, n, P, rfl, bk, bW, bX, hMx.kp⟩

theorem qown_walk (u0 : List Frame) (ao1 : Option Addr) (cap2 : Nat) (Z : Fz) (w : World) (hs3 : SlR tyFrame Z ao1 cap2 u0) (hZ : Z.on w) {K : (List Frame) → Prop} (hp : qown_vc u0 K) : Calls Try.prog 8 #[.slice ao1 u0.length cap2] w fun e w' => ∃ (r : (List Frame)) (ao1001 : Option Addr) (cap1002 : Nat) (Z' : Fz), e = .returned (.slice ao1001 r.length cap1002) ∧ K r ∧ Mem w.heap.size [] w Z [.own tyFrame 33 ao1001 cap1002 r] Z' w' := by
 refine enter0 Try.func8 rfl rfl (by kernel_rfl) ?_; intro a0 L; have l := Mem.start w Z hZ
 have ax := hp (hs3.small)
 refine sqB L l [] [] [] ?_; intro a6 M
 refine sqB M l [] [] [(3, .slice none 0 0)] ?_; intro a9 N
 refine s_ (sqB N l [] [] [(6, .slice ao1 u0.length cap2), (7, i6 (u0.length : Int)), (8, i6 0)] ?_); intro O P
 apply b_
 have Q : Fr 19 [] [⟨3, [], .slice none 0 0⟩, ⟨6, [], .slice ao1 u0.length cap2⟩, ⟨7, [], i6 (u0.length : Int)⟩, ⟨8, [], i6 0⟩] O := P.reg
 have R : Mem w.heap.size [] w Z [.own tyFrame 33 none 0 ([] : List Frame)] Z w := l.addNil tyFrame 33 (by decide)
 have S : Fr 19 [] [⟨3, [], .slice none ([] : List Frame).length 0⟩, ⟨6, [], .slice ao1 u0.length cap2⟩, ⟨7, [], i6 (u0.length : Int)⟩, ⟨8, [], i6 0⟩] O := Q.reg
 obtain ⟨ay, az, aA, aB⟩ := ax
 refine lp (ι := (List Frame) × Int × (Option Addr) × Nat × Fz) (fun s => [⟨3, [], .slice s.2.2.1 s.1.length s.2.2.2.1⟩, ⟨6, [], .slice ao1 u0.length cap2⟩, ⟨7, [], i6 (u0.length : Int)⟩, ⟨8, [], i6 s.2.1⟩]) (fun s => [.own tyFrame 33 s.2.2.1 s.2.2.2.1 s.1]) (fun s => s.2.2.2.2) (fun s => ay s.1 s.2.1 ∧ Fz.le Z s.2.2.2.2) (fun s => az s.1 s.2.1) ⟨([] : List Frame), 0, none, 0, Z⟩ ⟨aA, Fz.le.refl _⟩ (by exact S.reg) (by exact R) ?_
 rintro ⟨c, i, d, f, y⟩ ⟨aC, n⟩ aD aE U V
 have q := aB c i aC
 have z := hs3.mono n
 refine sqB U V [] [] [(9, .bool (decide (i < (u0.length : Int))))] ?_; intro aW o
 refine s_ (c_ o q (fun _ aF => ?_) fun _ aT => ?_)
 ·
  refine k_ (s_ (b_ (sqH ?_))); intro aG X
  obtain ⟨aH, Y⟩ := aF
  refine ix_ o z i aH .i64 33 48 ?_; intro aX aY aZ a a1 aI B aJ aa
  have ab := Y a aI
  obtain ⟨g, h, rfl, u⟩ := aJ
  have aK := ab (u.small)
  refine z2 aa V 11 B 0 6 (e33E a g h) rfl ?_; intro a2 ac
  refine nw ac V pb [i6 0, .bool false, .bool false, .bool false, i6 0, .slice none 0 0] 33 ?_; intro C a3 a4 D ad
  refine sx D ad 0 (e33E a g h) 0 ?_; intro aL ae
  have v : Mem w.heap.size [] w Z [.row C (e33E a g h) 33, .own tyFrame 33 d f c] y aL := ae
  apply X
  refine rgH ?_; intro aM af
  refine bt D v 2 [0] [] [(12, .slice d c.length f), (13, .agg (e33E a g h).toArray)] ?_; intro a5 ag
  obtain ⟨aN, ah⟩ := aK
  refine ck ag 11 #[.agg (e33E a g h).toArray] ?_
  refine (fcopy_fun a aN g h _ _ u v.fz).mono ?_; rintro _ aO ⟨E, F, G, rfl, ai, hm⟩; refine ⟨_, rfl, ?_⟩; intro a7 aj; have ak := v.callZ hm; have p := hm.ext.le
  replace n := n.mono p
  have al : Mem w.heap.size [] w Z [.row C (e33E a g h) 33, .own tyFrame 33 d f c] G aO := ak
  have aP := ah (ai.small)
  refine nw aj al (fun b => .slice (sm b) 1 1) (e33E (fcopyS a) E F) 33 ?_; intro am a8 ba an H
  obtain ⟨aQ, aq⟩ := aP
  refine ap an H 2 (T := tyFrame) (xs := c) (ys := [(fcopyS a)]) (ao := d) (cap := f) (ao2 := (sm am)) (cap2 := 1) (t := 22) (e := 33) (bytes := 48) (nog rfl _) rfl (by kernel_rfl) rfl (by kernel_rfl) (by kernel_rfl) (by kernel_rfl) rfl (Src.row H 0 rfl (RepAll.one (T := tyFrame) (x := (fcopyS a)) ⟨E, F, rfl, ai⟩)) aQ ?_; intro I J bb aR bc ar au
  have av : Mem w.heap.size [] w Z [.row am (e33E (fcopyS a) E F) 33, .row C (e33E a g h) 33, .own tyFrame 33 I J (c ++ [(fcopyS a)])] G aR := au
  refine s1 ar 3 (.slice I (c ++ [(fcopyS a)]).length J) ?_; intro bd aw
  apply af
  refine j_ (t_ (rgB aw av [] [] [(8, i6 (w64 (i + 1)))] ?_)); intro be aS
  exact d_ ⟨⟨c ++ [(fcopyS a)], w64 (i + 1), I, J, G⟩, ⟨aq.1, n⟩, aq.2, (aS.reg).anyβ _ (by kernel_rfl), av.kp⟩
 ·
  refine x_ (y_ (y_ (z_ (t_ (sqB o V [] [] [(2, .slice d c.length f)] ?_))))); intro bf aU
  exact r_ (ra1 aU (.slice d c.length f) ⟨c, d, f, y, rfl, aT, V.kp⟩)

theorem finsert_fun (u0 : List Frame) (u1 : Int) (u2 : List Frame) (hpre : (0 ≤ u1 ∧ u1 ≤ (u0.length : Int)) ∧ u2.length = 1 ∧ (u0.length + 1) * 48 ≤ 140737488355328) (ao1 : Option Addr) (cap2 : Nat) (ao3 : Option Addr) (cap4 : Nat) (B : Nat) (w0 : World) (Z0 : Fz) (Rr : List Res) (Z : Fz) (w : World) (hM0 : Mem B [] w0 Z0 ((.own tyFrame 33 ao1 cap2 u0) :: (.own tyFrame 33 ao3 cap4 u2) :: Rr) Z w) (hZ : Z.on w) : Calls Try.prog 9 #[.slice ao1 u0.length cap2, .int .i64 u1, .slice ao3 u2.length cap4] w fun e w' => ∃ (ao1001 : Option Addr) (cap1002 : Nat) (Z' : Fz), e = .returned (.slice ao1001 (insS u0 u1 u2).length cap1002) ∧ Fz.le Z Z' ∧ Mem B [] w0 Z0 ((.own tyFrame 33 ao1001 cap1002 (insS u0 u1 u2)) :: Rr) Z' w' := by
  -- by hand
  obtain ⟨⟨hi0, hi1⟩, hl1, hbig⟩ := hpre
  obtain ⟨i, rfl⟩ : ∃ i : Nat, u1 = (i : Int) := ⟨u1.toNat, by omega⟩
  obtain ⟨x, rfl⟩ : ∃ x, u2 = [x] := List.length_eq_one_iff.1 hl1
  have hlim : lim = 140737488355328 := rfl
  have hlec := hM0.ownLec 0 rfl
  refine enter0 Try.func9 rfl rfl (by kernel_rfl) ?_; intro a0 hF0
  have e1 : w64 ((i : Int) + 1) = ((i + 1 : Nat) : Int) := by rw [w64_eq _ (by omega)]; omega
  have e2 : w64 ((u0.length : Int) + 1) = ((u0.length + 1 : Nat) : Int) := by rw [w64_eq _ (by omega)]; omega
  refine sqB hF0 hM0 [] [] [] ?_; intro a1 hF1
  refine sqH ?_; intro Q1 hQ1
  refine bt hF1 hM0 2 [] [] [(10, .slice ao1 u0.length cap2), (11, .int .i64 (i : Int))] ?_; intro a2 hF2
  refine slX hF2 (ao := ao1) (n' := u0.length) (cap := cap2) i u0.length 6 (by omega) hlec (e := 33) (bytes := 48) (nog rfl _) rfl (by kernel_rfl) rfl (by kernel_rfl) (by kernel_rfl) (.inr ⟨.i64, _, rfl, by kernel_rfl⟩) (.inl ⟨rfl, rfl⟩) ?_; intro a3 hF3
  refine nlH (hQ1 _ _ ?_)
  refine sqB hF3 hM0 [] [] [(7, .int .i64 1)] ?_; intro a4 hF4
  refine wp_seq ?_
  refine sqB hF4 hM0 [] [] [(16, .bool false)] ?_; intro a5 hF5
  refine cdF hF5 (by kernel_rfl) ?_
  refine wp_skip ?_
  refine thn ?_
  refine sqB hF5 hM0 [] [] [(8, .int .i64 (u0.length : Int))] ?_; intro a6 hF6
  refine wp_seq ?_
  refine sqB hF6 hM0 [] [] [(22, .bool ((i : Int) == (u0.length : Int)))] ?_; intro a7 hF7
  refine cd hF7 (t := (i : Int) == (u0.length : Int)) (by kernel_rfl) (fun h1 => ?_) (fun h1 => ?_)
  · have h1 : i = u0.length := by have := eq_of_beq h1; omega
    refine sqH ?_; intro Q2 hQ2
    refine bt hF7 hM0 2 [] [] [(23, .slice ao1 u0.length cap2), (24, .slice ao3 [x].length cap4)] ?_; intro a8 hF8
    refine ap hF8 hM0 0 (T := tyFrame) (xs := u0) (ys := [x]) (ao := ao1) (cap := cap2) (ao2 := ao3) (cap2 := cap4) (t := 22) (e := 33) (bytes := 48) (nog rfl _) rfl (by kernel_rfl) rfl (by kernel_rfl) (by kernel_rfl) (by kernel_rfl) rfl (Src.own hM0 1 rfl) (by show (u0.length + 1) * 48 ≤ lim; omega) ?_; intro ao9 cap9 a9 w9 hnil9 hF9 hM9
    refine s1 hF9 6 (.slice ao9 (u0 ++ [x]).length cap9) ?_; intro a10 hF10
    refine nlH (hQ2 _ _ ?_)
    refine wp_ret ?_
    refine thr ?_
    have hM10 : Mem B [] w0 Z0 ((.own tyFrame 33 ao9 cap9 (u0 ++ [x])) :: (.own tyFrame 33 ao3 cap4 [x]) :: Rr) Z w9 := hM9
    refine ra1 hF10 (.slice ao9 (u0 ++ [x]).length cap9) ?_
    have hr : insS u0 (i : Int) [x] = u0 ++ [x] := by subst h1; simp [insS]
    rw [hr]
    exact ⟨ao9, cap9, Z, rfl, Fz.le.refl Z, hM10.kp⟩
  · have h1 : i < u0.length := by
      have h1 := h1
      have h3 : ¬ (i : Int) = (u0.length : Int) := by simpa using h1
      omega
    refine wp_skip ?_
    refine thn ?_
    obtain ⟨g, rfl⟩ : ∃ g, ao1 = some ⟨g, 0, none⟩ := by
      rcases own_shape (hM0.res _ List.mem_cons_self) with ⟨_, _, h⟩ | ⟨g, h, _⟩
      · rw [h] at h1; simp at h1
      · exact ⟨g, h⟩
    refine wp_seq ?_
    refine sqB hF7 hM0 [] [] [(31, .bool (decide (w64 ((u0.length : Int) + 1) > (cap2 : Int))))] ?_; intro a8 hF8
    refine cd hF8 (t := decide (w64 ((u0.length : Int) + 1) > (cap2 : Int))) (by kernel_rfl) (fun h2 => ?_) (fun h2 => ?_)
    · have h2 : cap2 < u0.length + 1 := by have := of_decide_eq_true h2; rw [e2] at this; omega
      have e3 : w64 (w64 ((u0.length : Int) + 1) - (i : Int)) = ((u0.length + 1 - i : Nat) : Int) := by rw [e2, w64_eq _ (by omega)]; omega
      refine sqH ?_; intro Q3 hQ3
      refine bt hF8 hM0 2 [] [] [(32, .slice (some ⟨g, 0, none⟩) u0.length cap2), (33, .int .i64 (i : Int))] ?_; intro a9 hF9
      refine slP hF9 hM0 0 (T := tyFrame) (xs := u0) (ao := some ⟨g, 0, none⟩) (cap := cap2) i (by omega) (e := 33) (bytes := 48) (k := .i64) (nog rfl _) rfl (by kernel_rfl) rfl (by kernel_rfl) rfl (by kernel_rfl) (by kernel_rfl) ?_; intro a10 hF10
      refine bt hF10 hM0 5 [] [] [(39, .int .i64 (w64 (w64 ((u0.length : Int) + 1) - (i : Int))))] ?_; intro a11 hF11
      rw [e3] at hF11
      refine apg hF11 hM0 0 (T := tyFrame) (xs := u0) (ao := some ⟨g, 0, none⟩) (cap := cap2) (i : Int) ((u0.length + 1 - i : Nat) : Int) (by omega) (by omega) (by omega) (kx := .i64) (kk := .i64) (t := 22) (t2 := 3) (e := 33) (bytes := 48) (zs := [.int .i64 0, .bool false, .bool false, .bool false, .int .i64 0, .slice none 0 0]) (z := (⟨0, false, false, false, 0, []⟩ : Frame)) (by omega) (nog rfl _) rfl (by kernel_rfl) rfl (by kernel_rfl) (by kernel_rfl) (by kernel_rfl) (by kernel_rfl) (by kernel_rfl) rfl ⟨none, 0, rfl, SlR.nil _ _⟩ ?_; intro g2 cap6 a12 w12 hF12 hM12
      have hyl : (u0.take (i : Int).toNat ++ List.replicate ((u0.length + 1 - i : Nat) : Int).toNat (⟨0, false, false, false, 0, []⟩ : Frame)).length = u0.length + 1 := by
        rw [List.length_append, List.length_take, List.length_replicate, Int.toNat_natCast, Int.toNat_natCast]; omega
      have hyt : (u0.take (i : Int).toNat ++ List.replicate ((u0.length + 1 - i : Nat) : Int).toNat (⟨0, false, false, false, 0, []⟩ : Frame)).take i = u0.take i := by
        rw [Int.toNat_natCast, List.take_append_of_le_length (by rw [List.length_take]; omega), List.take_take, Nat.min_self]
      generalize u0.take (i : Int).toNat ++ List.replicate ((u0.length + 1 - i : Nat) : Int).toNat (⟨0, false, false, false, 0, []⟩ : Frame) = ys at hF12 hM12 hyl hyt
      have hyc := hM12.ownLec 0 rfl
      refine s1 hF12 9 (.slice (some ⟨g2, 0, none⟩) ys.length cap6) ?_; intro a13 hF13
      refine nlH (hQ3 _ _ ?_)
      refine sqH ?_; intro Q4 hQ4
      refine bt hF13 hM12 2 [] [] [(41, .slice (some ⟨g2, 0, none⟩) ys.length cap6), (42, .int .i64 (i : Int))] ?_; intro a14 hF14
      refine u_ hF14 (.slice (some ⟨g2, i * 6, none⟩) (ys.length - i) (cap6 - i)) (slg_run hF14 i ys.length 6 (by omega) hyc (by omega) (e := 33) (bytes := 48) rfl (by kernel_rfl) (by kernel_rfl) (.inr ⟨.i64, _, rfl, by kernel_rfl⟩) (.inl ⟨rfl, rfl⟩)) ?_; intro a15 hF15
      refine bt hF15 hM12 1 [] [] [(44, .slice ao3 [x].length cap4)] ?_; intro a16 hF16
      refine cpy hF16 hM12 0 (T := tyFrame) (xs := ys) (ys := [x]) (ao := some ⟨g2, 0, none⟩) (cap := cap6) (ao1 := some ⟨g2, i * 6, none⟩) (cap1 := cap6 - i) (ao2 := ao3) (cap2 := cap4) (sl := [x].length) i (ys.length - i) (e := 33) (bytes := 48) (nog rfl _) rfl (by kernel_rfl) rfl (by kernel_rfl) (by kernel_rfl) rfl (by kernel_rfl) rfl (Src.own hM12 2 rfl) (by omega) (fun _ => ⟨g2, rfl, rfl⟩) ?_; intro a17 w17 hF17 hM17
      have hm1 : min [x].length (ys.length - i) = 1 := by simp only [List.length_cons, List.length_nil]; omega
      rw [hm1] at hF17 hM17
      have hzl : (ys.take i ++ [x].take 1 ++ ys.drop (i + 1)).length = u0.length + 1 := by
        simp only [List.length_append, List.length_take, List.length_drop, List.length_cons, List.length_nil]; omega
      have hzt : (ys.take i ++ [x].take 1 ++ ys.drop (i + 1)).take (i + 1) = u0.take i ++ [x] := by
        rw [hyt, List.take_left' (by simp only [List.length_append, List.length_take, List.length_cons, List.length_nil]; omega)]; rfl
      generalize ys.take i ++ [x].take 1 ++ ys.drop (i + 1) = zs at hF17 hM17 hzl hzt
      have hM18 : Mem B [] w0 Z0 ((.own tyFrame 33 (some ⟨g2, 0, none⟩) cap6 zs) :: (.own tyFrame 33 (some ⟨g, 0, none⟩) cap2 u0) :: (.own tyFrame 33 ao3 cap4 [x]) :: Rr) Z w17 := hM17
      have hF18 : Fr 95 [] [⟨0, [], .slice (some ⟨g, 0, none⟩) u0.length cap2⟩, ⟨1, [], .int .i64 (i : Int)⟩, ⟨7, [], .int .i64 1⟩, ⟨9, [], .slice (some ⟨g2, 0, none⟩) ys.length cap6⟩] a17 := hF17.reg
      rw [hyl, ← hzl] at hF18
      refine nlH (hQ4 _ _ ?_)
      refine wp_seq (rgS mixed hM18 [(0, true), (1, true), (2, true), (3, true), (4, true), (5, true), (6, true), (7, true), (8, false)] [8] [] [] ?_)
      intro J hJ w19 hM19
      refine cS hF18 4 [] [] [(46, .slice (some ⟨g2, 0, none⟩) zs.length cap6), (49, .int .i64 (w64 ((i : Int) + 1)))] ?_; intro a19 hF19
      rw [e1] at hF19
      refine cst rfl hF19 (.slice (some ⟨g2, (i + 1) * 6, none⟩) (zs.length - (i + 1)) (cap6 - (i + 1))) (nog rfl _) rfl (by kernel_rfl) (fun _ _ => slg_run hF19 (i + 1) zs.length 6 (by omega) (by omega) (by omega) (e := 33) (bytes := 48) rfl (by kernel_rfl) (by kernel_rfl) (.inr ⟨.i64, _, rfl, by kernel_rfl⟩) (.inl ⟨rfl, rfl⟩)) ?_; intro a20 hF20
      refine cS hF20 2 [] [] [(51, .slice (some ⟨g, 0, none⟩) u0.length cap2), (52, .int .i64 (i : Int))] ?_; intro a21 hF21
      refine cst rfl hF21 (.slice (some ⟨g, i * 6, none⟩) (u0.length - i) (cap2 - i)) (nog rfl _) rfl (by kernel_rfl) (fun _ _ => slg_run hF21 i u0.length 6 (by omega) (by omega) (by omega) (e := 33) (bytes := 48) rfl (by kernel_rfl) (by kernel_rfl) (.inr ⟨.i64, _, rfl, by kernel_rfl⟩) (.inl ⟨rfl, rfl⟩)) ?_; intro a22 hF22
      refine eL rfl ?_; intro J2 hJ2
      have hO : OsR tyFrame (some ⟨g, 0, none⟩) i u0.length (some ⟨g, i * 6, none⟩) (cap2 - i) := ⟨by simp, fun _ => ⟨g, rfl, rfl⟩⟩
      refine cpy hF22 hM19 0 (T := tyFrame) (xs := zs) (ys := (u0.take u0.length).drop i) (ao := some ⟨g2, 0, none⟩) (cap := cap6) (ao1 := some ⟨g2, (i + 1) * 6, none⟩) (cap1 := cap6 - (i + 1)) (ao2 := some ⟨g, i * 6, none⟩) (cap2 := cap2 - i) (sl := u0.length - i) (i + 1) (zs.length - (i + 1)) (e := 33) (bytes := 48) (nog rfl _) rfl (by kernel_rfl) rfl (by kernel_rfl) (by kernel_rfl) (by simp) (by kernel_rfl) rfl (Src.os hM19 1 rfl hO (by omega)) (by omega) (fun _ => ⟨g2, rfl, rfl⟩) ?_; intro a23 w23 hF23 hM23
      have hvl : zs.take (i + 1) ++ ((u0.take u0.length).drop i).take (min ((u0.take u0.length).drop i).length (zs.length - (i + 1))) ++ zs.drop (i + 1 + min ((u0.take u0.length).drop i).length (zs.length - (i + 1))) = insS u0 (i : Int) [x] := by
        have h4 : min ((u0.take u0.length).drop i).length (zs.length - (i + 1)) = u0.length - i := by simp only [List.length_drop, List.take_length]; omega
        rw [h4, hzt, List.take_length, show (u0.drop i).take (u0.length - i) = u0.drop i from List.take_of_length_le (by rw [List.length_drop]; omega), show zs.drop (i + 1 + (u0.length - i)) = [] from List.drop_eq_nil_of_le (by omega)]
        simp [insS]
      rw [hvl] at hM23
      have hM24 : Mem B [] w0 Z0 ((.own tyFrame 33 (some ⟨g2, 0, none⟩) cap6 (insS u0 (i : Int) [x])) :: (.own tyFrame 33 (some ⟨g, 0, none⟩) cap2 u0) :: (.own tyFrame 33 ao3 cap4 [x]) :: Rr) Z w23 := hM23
      have hil : zs.length = (insS u0 (i : Int) [x]).length := by
        simp only [insS, List.length_append, List.length_take, List.length_drop, List.length_cons, List.length_nil, Int.toNat_natCast]; omega
      have hF24 : Fr 95 [] [⟨9, [], .slice (some ⟨g2, 0, none⟩) zs.length cap6⟩] a23 := hF23.reg
      rw [hil] at hF24
      refine nl (qnI (hJ2 _ _ ?_))
      refine nS (hJ _ _ ?_)
      refine thn ?_
      refine sqB hF24 hM24 [] [] [(6, .slice (some ⟨g2, 0, none⟩) (insS u0 (i : Int) [x]).length cap6)] ?_; intro a25 hF25
      refine wp_ret ?_
      refine thr ?_
      refine ra1 hF25 (.slice (some ⟨g2, 0, none⟩) (insS u0 (i : Int) [x]).length cap6) ?_
      exact ⟨_, cap6, Z, rfl, Fz.le.refl Z, hM24.kp⟩
    · have h2 : u0.length + 1 ≤ cap2 := by have := of_decide_eq_false h2; rw [e2] at this; omega
      refine wp_skip ?_
      refine thn ?_
      obtain ⟨g3, rfl⟩ : ∃ g, ao3 = some ⟨g, 0, none⟩ := by
        rcases own_shape (hM0.res _ (List.mem_cons_of_mem _ List.mem_cons_self)) with ⟨_, _, h⟩ | ⟨g, h, _⟩
        · cases h
        · exact ⟨g, h⟩
      refine sqH ?_; intro Q3 hQ3
      refine bt hF8 hM0 4 [] [] [(56, .slice (some ⟨g, 0, none⟩) u0.length cap2), (59, .int .i64 (w64 ((u0.length : Int) + 1)))] ?_; intro a9 hF9
      rw [e2] at hF9
      refine u_ hF9 (.slice (some ⟨g, 0, none⟩) (u0.length + 1) cap2) (slh_run hF9 (n' := u0.length) (u0.length + 1) 6 h2 (by omega) (e := 33) (bytes := 48) rfl (by kernel_rfl) (by kernel_rfl) (k := .i64) (by kernel_rfl)) ?_; intro a10 hF10
      refine s1 hF10 0 (.slice (some ⟨g, 0, none⟩) (u0.length + 1) cap2) ?_; intro a11 hF11
      refine nlH (hQ3 _ _ ?_)
      refine wp_seq ?_
      refine sqH ?_; intro Q4 hQ4
      refine bt hF11 hM0 5 [] [] [(61, .slice (some ⟨g3, 0, none⟩) [x].length cap4), (62, .slice (some ⟨g, 0, none⟩) (u0.length + 1) cap2), (65, .int .i64 (w64 ((i : Int) + 1)))] ?_; intro a12 hF12
      rw [e1] at hF12
      refine u_ hF12 (.slice (some ⟨g, (i + 1) * 6, none⟩) (u0.length + 1 - (i + 1)) (cap2 - (i + 1))) (slg_run hF12 (i + 1) (u0.length + 1) 6 (by omega) h2 (by omega) (e := 33) (bytes := 48) rfl (by kernel_rfl) (by kernel_rfl) (.inr ⟨.i64, _, rfl, by kernel_rfl⟩) (.inl ⟨rfl, rfl⟩)) ?_; intro a13 hF13
      refine ovl hF13 hM0 1 0 (T := tyFrame) (T2 := tyFrame) (xs := [x]) (ys := u0) (g := g3) (g2 := g) (cap := cap4) (cap2 := cap2) (e := 33) (e2 := 33) (la := [x].length) (ca := cap4) (lb := u0.length + 1 - (i + 1)) (cb := cap2 - (i + 1)) (off := 0) (off2 := (i + 1) * 6) rfl rfl rfl (by omega) 16 (t := 22) (tR := 4) (bytes := 48) (nog rfl _) rfl (by kernel_rfl) (fun _ => by kernel_rfl) Try.func16 (by kernel_rfl) (by kernel_rfl) (by kernel_rfl) rfl (by kernel_rfl) ?_; intro a14 hF14
      refine bt hF14 hM0 1 [] [] [(68, .bool true)] ?_; intro a15 hF15
      refine nlH (hQ4 _ _ ?_)
      refine cdT hF15 (by kernel_rfl) ?_
      refine wp_seq (rgS mixed hM0 [(0, true), (1, true), (2, true), (3, true), (4, true), (5, true), (6, true), (7, true), (8, false)] [8] [] [] ?_)
      intro J hJ w19 hM19
      have hF18 : Fr 95 [] [⟨0, [], .slice (some ⟨g, 0, none⟩) (u0.length + 1) cap2⟩, ⟨1, [], .int .i64 (i : Int)⟩, ⟨2, [], .slice (some ⟨g3, 0, none⟩) [x].length cap4⟩, ⟨7, [], .int .i64 1⟩] a15 := hF15.reg
      refine cS hF18 4 [] [] [(69, .slice (some ⟨g, 0, none⟩) (u0.length + 1) cap2), (72, .int .i64 (w64 ((i : Int) + 1)))] ?_; intro a19 hF19
      rw [e1] at hF19
      refine cst rfl hF19 (.slice (some ⟨g, (i + 1) * 6, none⟩) (u0.length + 1 - (i + 1)) (cap2 - (i + 1))) (nog rfl _) rfl (by kernel_rfl) (fun _ _ => slg_run hF19 (i + 1) (u0.length + 1) 6 (by omega) (by omega) (by omega) (e := 33) (bytes := 48) rfl (by kernel_rfl) (by kernel_rfl) (.inr ⟨.i64, _, rfl, by kernel_rfl⟩) (.inl ⟨rfl, rfl⟩)) ?_; intro a20 hF20
      refine cS hF20 2 [] [] [(74, .slice (some ⟨g, 0, none⟩) (u0.length + 1) cap2), (75, .int .i64 (i : Int))] ?_; intro a21 hF21
      refine cst rfl hF21 (.slice (some ⟨g, i * 6, none⟩) (u0.length + 1 - i) (cap2 - i)) (nog rfl _) rfl (by kernel_rfl) (fun _ _ => slg_run hF21 i (u0.length + 1) 6 (by omega) (by omega) (by omega) (e := 33) (bytes := 48) rfl (by kernel_rfl) (by kernel_rfl) (.inr ⟨.i64, _, rfl, by kernel_rfl⟩) (.inl ⟨rfl, rfl⟩)) ?_; intro a22 hF22
      refine eL rfl ?_; intro J2 hJ2
      refine shO hF22 hM19 0 (T := tyFrame) (xs := u0) (g := g) (cap := cap2) (c1 := cap2 - (i + 1)) (c2 := cap2 - i) (l1 := u0.length + 1 - (i + 1)) (l2 := u0.length + 1 - i) (o1 := (i + 1) * 6) (o2 := i * 6) i h1 (by omega) (by omega) (e := 33) (bytes := 48) (nog rfl _) rfl (by kernel_rfl) rfl (by kernel_rfl) (by kernel_rfl) rfl rfl (by omega) rfl (by kernel_rfl) rfl ?_; intro a23 w23 hF23 hM23
      have hzl : (u0.take (i + 1) ++ u0.drop i).length = u0.length + 1 := by simp only [List.length_append, List.length_take, List.length_drop]; omega
      have hzt : (u0.take (i + 1) ++ u0.drop i).take i = u0.take i := by rw [List.take_append_of_le_length (by rw [List.length_take]; omega), List.take_take, Nat.min_eq_left (by omega)]
      have hzd : (u0.take (i + 1) ++ u0.drop i).drop (i + 1) = u0.drop i := by rw [List.drop_left' (by rw [List.length_take]; omega)]
      generalize u0.take (i + 1) ++ u0.drop i = zs at hM23 hzl hzt hzd
      have hF24 : Fr 95 [] [⟨0, [], .slice (some ⟨g, 0, none⟩) (u0.length + 1) cap2⟩, ⟨1, [], .int .i64 (i : Int)⟩, ⟨2, [], .slice (some ⟨g3, 0, none⟩) [x].length cap4⟩] a23 := hF23.reg
      have hM24 : Mem B [] w0 Z0 ((.own tyFrame 33 (some ⟨g, 0, none⟩) cap2 zs) :: (.own tyFrame 33 (some ⟨g3, 0, none⟩) cap4 [x]) :: Rr) Z w23 := hM23
      rw [← hzl] at hF24
      refine nl (qnI (hJ2 _ _ ?_))
      refine nS (hJ _ _ ?_)
      refine thn ?_
      refine sqH ?_; intro Q5 hQ5
      refine bt hF24 hM24 2 [] [] [(78, .slice (some ⟨g, 0, none⟩) zs.length cap2), (79, .int .i64 (i : Int))] ?_; intro a25 hF25
      refine u_ hF25 (.slice (some ⟨g, i * 6, none⟩) (zs.length - i) (cap2 - i)) (slg_run hF25 i zs.length 6 (by omega) (by omega) (by omega) (e := 33) (bytes := 48) rfl (by kernel_rfl) (by kernel_rfl) (.inr ⟨.i64, _, rfl, by kernel_rfl⟩) (.inl ⟨rfl, rfl⟩)) ?_; intro a26 hF26
      refine bt hF26 hM24 1 [] [] [(81, .slice (some ⟨g3, 0, none⟩) [x].length cap4)] ?_; intro a27 hF27
      refine cpy hF27 hM24 0 (T := tyFrame) (xs := zs) (ys := [x]) (ao := some ⟨g, 0, none⟩) (cap := cap2) (ao1 := some ⟨g, i * 6, none⟩) (cap1 := cap2 - i) (ao2 := some ⟨g3, 0, none⟩) (cap2 := cap4) (sl := [x].length) i (zs.length - i) (e := 33) (bytes := 48) (nog rfl _) rfl (by kernel_rfl) rfl (by kernel_rfl) (by kernel_rfl) rfl (by kernel_rfl) rfl (Src.own hM24 1 rfl) (by omega) (fun _ => ⟨g, rfl, rfl⟩) ?_; intro a28 w28 hF28 hM28
      have hm1 : min [x].length (zs.length - i) = 1 := by simp only [List.length_cons, List.length_nil]; omega
      rw [hm1, hzt, hzd] at hM28
      have hvl : u0.take i ++ [x].take 1 ++ u0.drop i = insS u0 (i : Int) [x] := by simp [insS]
      rw [hvl] at hM28
      have hM29 : Mem B [] w0 Z0 ((.own tyFrame 33 (some ⟨g, 0, none⟩) cap2 (insS u0 (i : Int) [x])) :: (.own tyFrame 33 (some ⟨g3, 0, none⟩) cap4 [x]) :: Rr) Z w28 := hM28
      have hil : zs.length = (insS u0 (i : Int) [x]).length := by
        simp only [insS, List.length_append, List.length_take, List.length_drop, List.length_cons, List.length_nil, Int.toNat_natCast]; omega
      have hF29 : Fr 95 [] [⟨0, [], .slice (some ⟨g, 0, none⟩) zs.length cap2⟩] a28 := hF28.reg
      rw [hil] at hF29
      refine nlH (hQ5 _ _ ?_)
      refine sqB hF29 hM29 [] [] [(6, .slice (some ⟨g, 0, none⟩) (insS u0 (i : Int) [x]).length cap2)] ?_; intro a30 hF30
      refine wp_ret ?_
      refine thr ?_
      refine ra1 hF30 (.slice (some ⟨g, 0, none⟩) (insS u0 (i : Int) [x]).length cap2) ?_
      exact ⟨_, cap2, Z, rfl, Fz.le.refl Z, hM29.kp⟩

end Go.Proofs.Ytocpdhcjkfmmnaa
set_option linter.unusedVariables false
set_option linter.unusedSimpArgs false
set_option linter.defProp false
set_option maxRecDepth 100000
set_option maxHeartbeats 0
namespace Go.Proofs.Ytocpdhcjkfmmnaa
open Go.Sy Go.RowKit
abbrev e33F (X : Frame) (A0 : Option Addr) (C0 : Nat) : List Value := [i6 X.ID, .bool X.Long, .bool X.Fast, .bool X.Remote, i6 X.Size, .slice A0 X.Data.length C0]
def qplace_fun (u0 : List Frame) (u1 : Frame) (hpre : Qs u0) (ao1 : Option Addr) (cap2 : Nat) (ao4 : Option Addr) (cap5 : Nat) (Z : Fz) (w : World) (hs3 : SlR tyFrame Z ao1 cap2 u0) (hs6 : SlR t8 Z ao4 cap5 u1.Data) (hZ : Z.on w) := f_ (qplace_walk u0 u1 ao1 cap2 ao4 cap5 Z w hs3 hs6 hZ (qplace_ok u0 u1 hpre))
def qown_fun (u0 : List Frame) (hpre : u0.length * 48 ≤ 140737488355328) (ao1 : Option Addr) (cap2 : Nat) (Z : Fz) (w : World) (hs3 : SlR tyFrame Z ao1 cap2 u0) (hZ : Z.on w) := fc_ (qown_walk u0 ao1 cap2 Z w hs3 hZ (qown_ok u0 hpre))
theorem qput_walk (u0 : List Frame) (u1 : Frame) (ao1 : Option Addr) (cap2 : Nat) (ao4 : Option Addr) (cap5 : Nat) (Z : Fz) (w : World) (hs3 : SlR tyFrame Z ao1 cap2 u0) (hs6 : SlR t8 Z ao4 cap5 u1.Data) (hZ : Z.on w) {K : ((List Frame) × Int) → Prop} (hp : qput_vc u0 u1 K) : Calls Try.prog 12 #[.slice ao1 u0.length cap2, .agg #[i6 u1.ID, .bool u1.Long, .bool u1.Fast, .bool u1.Remote, i6 u1.Size, .slice ao4 u1.Data.length cap5]] w fun e w' => ∃ (r : (List Frame) × Int) (ao1001 : Option Addr) (cap1002 : Nat) (Z' : Fz), e = .returned (.tuple #[.slice ao1001 r.1.length cap1002, i6 r.2]) ∧ K r ∧ Mem w.heap.size [] w Z [.own tyFrame 33 ao1001 cap1002 r.1] Z' w' := by
 refine enter0 Try.func12 rfl rfl (by kernel_rfl) ?_; intro a0 L; have M := Mem.start w Z hZ
 have n := hp (hs3.small) (hs6.small)
 refine sqH ?_; intro az O
 refine nw L M pb (e33F u1 ao4 cap5) 33 ?_; intro d a9 ba P o
 refine bt P o 2 [] [] [] ?_; intro bb Q
 apply O
 refine s_ (sqH ?_); intro aA R
 refine s1 Q 8 (.slice ao1 u0.length cap2) ?_; intro bc S
 refine fc S o (qcheck_fun u0 ao1 cap2 _ _ hs3 o.fz) ?_; intro bd aB U f
 refine s1 U 6 (i6 (qcheckS u0)) ?_; intro be V
 apply R
 refine sqB V f [] [] [(11, .bool ((qcheckS u0) != 0))] ?_; intro bf h
 refine cd h (t := (qcheckS u0) != 0) (by kernel_rfl) (fun B => ?_) (fun B => ?_)
 · -- yes
  have aC := n.1 B
  refine sqB h f [] [] [(4, .slice none 0 0), (5, i6 (qcheckS u0))] ?_; intro bg aD
  refine r_ (h_ ?_)
  have aE : Mem w.heap.size [] w Z [.own tyFrame 33 none 0 ([] : List Frame), .row d (e33F u1 ao4 cap5) 33] Z aB := f.addNil tyFrame 33 (by decide)
  exact ra2 aD (.tuple #[.slice none ([] : List Frame).length 0, i6 (qcheckS u0)]) ⟨(([] : List Frame), (qcheckS u0)), none, 0, Z, rfl, aC, aE.kp⟩
 · -- no
  have p := n.2 B
  refine k_ (s_ (sqH ?_)); intro aF W
  refine l2 h f 13 0 0 6 (e33F u1 ao4 cap5) rfl rfl ?_; intro bh X
  refine fc X f (fcheckfr_fun u1 ao4 cap5 _ _ hs6 f.fz) ?_; intro bi Y aa c
  refine s1 aa 7 (i6 (fcheckfr u1)) ?_; intro bj ab
  apply W
  refine sqB ab c [] [] [(16, .bool ((fcheckfr u1) != 0))] ?_; intro bk i
  refine cd i (t := (fcheckfr u1) != 0) (by kernel_rfl) (fun C => ?_) (fun C => ?_)
  · -- yes
   have aG := p.1 C
   refine sqB i c [] [] [(4, .slice none 0 0), (5, i6 (fcheckfr u1))] ?_; intro bl aH
   refine r_ (h_ ?_)
   have aI : Mem w.heap.size [] w Z [.own tyFrame 33 none 0 ([] : List Frame), .row d (e33F u1 ao4 cap5) 33] Z Y := c.addNil tyFrame 33 (by decide)
   exact ra2 aH (.tuple #[.slice none ([] : List Frame).length 0, i6 (fcheckfr u1)]) ⟨(([] : List Frame), (fcheckfr u1)), none, 0, Z, rfl, aG, aI.kp⟩
  · -- no
   have q := p.2 C
   refine k_ (s_ (sqB i c [] [] [(20, .bool ((u0.length : Int) == 16))] ?_)); intro aJ j
   refine cd j (t := (u0.length : Int) == 16) (by kernel_rfl) (fun D => ?_) (fun D => ?_)
   · -- yes
    have aK := q.1 D
    refine sqB j c [] [] [(4, .slice none 0 0), (5, i6 11)] ?_; intro bm aL
    refine r_ (h_ ?_)
    have aM : Mem w.heap.size [] w Z [.own tyFrame 33 none 0 ([] : List Frame), .row d (e33F u1 ao4 cap5) 33] Z Y := c.addNil tyFrame 33 (by decide)
    exact ra2 aL (.tuple #[.slice none ([] : List Frame).length 0, i6 11]) ⟨(([] : List Frame), 11), none, 0, Z, rfl, aK, aM.kp⟩
   · -- no
    have aN := q.2 D
    apply k_
    have ac : Fr 30 [] [⟨0, [], .slice ao1 u0.length cap2⟩, ⟨3, [], pt d 0⟩] aJ := j.reg
    refine wp_seq (rgS mixed c [(0, true), (2, true), (3, true), (5, true), (1, false), (4, false), (6, false), (7, false), (8, false), (9, true), (10, true)] [] [0] [.row d (e33F u1 ao4 cap5) 33] ?_)
    intro aO ad bn E
    have a := Fz.le.refl Z
    refine cS ac 4 [0, 0] [] [(21, .slice ao1 u0.length cap2), (23, .slice ao1 u0.length cap2), (24, .agg (e33F u1 ao4 cap5).toArray), (26, .agg (e33F u1 ao4 cap5).toArray)] ?_; intro bo ae
    refine eS rfl ?_; intro aP af
    obtain ⟨aQ, aR⟩ := aN
    refine ck ae 8 #[.slice ao1 u0.length cap2] ?_
    refine (qown_fun u0 aQ ao1 cap2 _ _ hs3 E.fz).mono ?_; rintro _ aS ⟨k, l, aT, rfl, hm⟩; refine ⟨_, rfl, ?_⟩; intro bp ag; have ah := E.callZ hm; have s := hm.ext.le
    replace hs3 := hs3.mono s
    replace hs6 := hs6.mono s
    replace a := a.mono s
    have u : Mem w.heap.size [] w Z [.own tyFrame 33 k l (ownS u0), .row d (e33F u1 ao4 cap5) 33] aT aS := ah
    refine nl (qnI (af _ _ (u.cst a [1]) ?_))
    refine eS rfl ?_; intro aU ai
    obtain ⟨aV, aW⟩ := aR
    refine fc ag u (qplace_fun u0 u1 aV ao1 cap2 ao4 cap5 _ _ hs3 hs6 u.fz) ?_; intro bq br aj v
    refine nl (qnI (ai _ _ (v.cst a [1]) ?_))
    refine eS rfl ?_; intro aX ak
    obtain ⟨aY, aZ⟩ := aW
    refine ck aj 11 #[.agg (e33F u1 ao4 cap5).toArray] ?_
    refine (fcopy_fun u1 aY ao4 cap5 _ _ hs6 v.fz).mono ?_; rintro _ a1 ⟨al, am, an, rfl, F, hm⟩; refine ⟨_, rfl, ?_⟩; intro bs ao; have ap := v.callZ hm; have y := hm.ext.le
    replace a := a.mono y
    have G : Mem w.heap.size [] w Z [.own tyFrame 33 k l (ownS u0), .row d (e33F u1 ao4 cap5) 33] an a1 := ap
    refine nl (qnI (ak _ _ (G.cst a [1]) ?_))
    refine eS rfl ?_; intro a2 aq
    refine nw ao G (fun b => .slice (sm b) 1 1) (e33F (fcopyS u1) al am) 33 ?_; intro H bu a3 ar I
    refine nl (qnI (aq _ _ (I.cst a [2]) ?_))
    refine eS rfl ?_; intro a4 au
    have J : Mem w.heap.size [] w Z [.own tyFrame 33 (sm H) 1 ([(fcopyS u1)] : List Frame), .own tyFrame 33 k l (ownS u0), .row d (e33F u1 ao4 cap5) 33] an a3 := I.rowOwn (T := tyFrame) (xs := ([(fcopyS u1)] : List Frame)) 0 rfl (by decide) (by show 1 ≤ lim; decide) (RepAll.one (T := tyFrame) (x := (fcopyS u1)) ⟨al, am, rfl, F⟩)
    obtain ⟨a5, a6⟩ := aZ
    refine ck ar 9 #[.slice k (ownS u0).length l, i6 (placeS u0 u1), .slice (sm H) ([(fcopyS u1)] : List Frame).length 1] ?_
    refine (finsert_fun (ownS u0) (placeS u0 u1) ([(fcopyS u1)] : List Frame) a5 k l (sm H) 1 _ _ _ _ _ _ (J.perm ((pk 1 rfl).trans ((List.Perm.refl _).cons _))) J.fz).mono ?_; rintro _ a7 ⟨z, A, av, rfl, m, hm⟩; refine ⟨_, rfl, ?_⟩; intro bv aw; have ax := hm
    replace a := a.mono m
    have ay : Mem w.heap.size [] w Z [.own tyFrame 33 z A (insS (ownS u0) (placeS u0 u1) ([(fcopyS u1)] : List Frame)), .row d (e33F u1 ao4 cap5) 33] av a7 := ax
    refine nl (qnI (au _ _ (ay.cst a [1]) ?_))
    refine cS aw 2 [] [] [(4, .slice z (insS (ownS u0) (placeS u0 u1) ([(fcopyS u1)] : List Frame)).length A), (5, i6 0)] ?_; intro bw a8
    refine nS (ad _ _ ?_)
    exact t_ (r_ (ra2 a8 (.tuple #[.slice z (insS (ownS u0) (placeS u0 u1) ([(fcopyS u1)] : List Frame)).length A, i6 0]) ⟨((insS (ownS u0) (placeS u0 u1) ([(fcopyS u1)] : List Frame)), 0), z, A, av, rfl, a6, ay.kp⟩))

theorem qmerge_walk (u0 : List Frame) (u1 : List Frame) (ao1 : Option Addr) (cap2 : Nat) (ao4 : Option Addr) (cap5 : Nat) (Z : Fz) (w : World) (hs3 : SlR tyFrame Z ao1 cap2 u0) (hs6 : SlR tyFrame Z ao4 cap5 u1) (hZ : Z.on w) {K : ((List Frame) × Int × Int) → Prop} (hp : qmerge_vc u0 u1 K) : Calls Try.prog 4 #[.slice ao1 u0.length cap2, .slice ao4 u1.length cap5] w fun e w' => ∃ (r : (List Frame) × Int × Int) (ao1001 : Option Addr) (cap1002 : Nat) (Z' : Fz), e = .returned (.tuple #[.slice ao1001 r.1.length cap1002, i6 r.2.1, i6 r.2.2]) ∧ K r ∧ Mem w.heap.size [] w Z [.own tyFrame 33 ao1001 cap1002 r.1] Z' w' := by
 refine enter0 Try.func4 rfl rfl (by kernel_rfl) ?_; intro a0 ah; have I := Mem.start w Z hZ
 have bp := hp (hs3.small) (hs6.small)
 refine sqB ah I [] [] [] ?_; intro co aj
 refine s_ (sqB aj I [] [] [(16, .agg #[.slice ao1 u0.length cap2, .slice ao4 u1.length cap5]), (17, i6 0)] ?_); intro ak al
 apply b_
 have am : Fr 54 [] [⟨0, [], .slice ao1 u0.length cap2⟩, ⟨1, [], .slice ao4 u1.length cap5⟩, ⟨16, [], .agg #[.slice ao1 u0.length cap2, .slice ao4 u1.length cap5]⟩, ⟨17, [], i6 0⟩] ak := al.reg
 obtain ⟨bq, br, bs, bu⟩ := bp
 refine lp (ι := Int) (fun s => [⟨0, [], .slice ao1 u0.length cap2⟩, ⟨1, [], .slice ao4 u1.length cap5⟩, ⟨16, [], .agg #[.slice ao1 u0.length cap2, .slice ao4 u1.length cap5]⟩, ⟨17, [], i6 s⟩]) (fun s => []) (fun s => Z) (fun s => bq s) (fun s => br s) 0 bs (by exact am.region (by kernel_rfl) (by kernel_rfl)) (by exact I) ?_
 rintro d bv bw bx ap aq
 have J := bu d bv
 refine sqB ap aq [] [] [(18, .bool (decide (d < 2)))] ?_; intro cp y
 apply s_
 refine cd y (t := decide (d < 2)) (by kernel_rfl) (fun Q => ?_) (fun Q => ?_)
 · -- yes
  have bz := J.1 Q
  refine k_ (s_ (b_ (sqH ?_))); intro bA au
  obtain ⟨av, L⟩ := bz
  have hix : ∀ x : Int, 0 ≤ x ∧ x < 2 → x = 0 ∨ x = 1 := by intro x hx; omega
  have bB : SlR tyFrame Z (([ao1, ao4] : List (Option Addr)).getD d.toNat none) (([cap2, cap5] : List Nat).getD d.toNat 0) (([u0, u1] : List (List Frame)).getD d.toNat []) := by generalize d = ix at *; rcases hix _ av with rfl | rfl <;> first | exact hs3 | exact hs6
  have hix : ∀ x : Int, 0 ≤ x ∧ x < 2 → x = 0 ∨ x = 1 := by intro x hx; omega
  refine u_ y (.slice (([ao1, ao4] : List (Option Addr)).getD d.toNat none) (([u0, u1] : List (List Frame)).getD d.toNat []).length (([cap2, cap5] : List Nat).getD d.toNat 0)) ((by generalize d = ix at *; rcases hix _ av with rfl | rfl <;> exact p0 y (by kernel_rfl))) ?_; intro cq aw
  refine s1 aw 8 (.slice (([ao1, ao4] : List (Option Addr)).getD d.toNat none) (([u0, u1] : List (List Frame)).getD d.toNat []).length (([cap2, cap5] : List Nat).getD d.toNat 0)) ?_; intro cr ax
  apply au
  refine sqH ?_; intro bC ay
  refine s1 ax 20 (.slice (([ao1, ao4] : List (Option Addr)).getD d.toNat none) (([u0, u1] : List (List Frame)).getD d.toNat []).length (([cap2, cap5] : List Nat).getD d.toNat 0)) ?_; intro cs az
  refine fc az aq (qcheck_fun (([u0, u1] : List (List Frame)).getD d.toNat []) (([ao1, ao4] : List (Option Addr)).getD d.toNat none) (([cap2, cap5] : List Nat).getD d.toNat 0) _ _ bB aq.fz) ?_; intro ct bD aA z
  refine s1 aA 9 (i6 (qcheckS (([u0, u1] : List (List Frame)).getD d.toNat []))) ?_; intro cu aB
  apply ay
  refine sqB aB z [] [] [(23, .bool ((qcheckS (([u0, u1] : List (List Frame)).getD d.toNat [])) != 0))] ?_; intro cv B
  refine cd B (t := (qcheckS (([u0, u1] : List (List Frame)).getD d.toNat [])) != 0) (by kernel_rfl) (fun R => ?_) (fun R => ?_)
  · -- yes
   have bE := L.1 R
   refine sqB B z [] [] [(4, .slice none 0 0), (5, i6 0), (6, i6 (qcheckS (([u0, u1] : List (List Frame)).getD d.toNat [])))] ?_; intro cw bF
   refine r_ (i_ (h_ (h_ (i_ (h_ ?_)))))
   have bG : Mem w.heap.size [] w Z [.own tyFrame 33 none 0 ([] : List Frame)] Z bD := z.addNil tyFrame 33 (by decide)
   exact ra3 bF (.tuple #[.slice none ([] : List Frame).length 0, i6 0, i6 (qcheckS (([u0, u1] : List (List Frame)).getD d.toNat []))]) ⟨(([] : List Frame), 0, (qcheckS (([u0, u1] : List (List Frame)).getD d.toNat []))), none, 0, Z, rfl, bE, bG.kp⟩
  · -- no
   have aC := L.2 R
   refine l_ (j_ (t_ (rgB B z [] [] [(17, i6 (w64 (d + 1)))] ?_))); intro cx bH
   exact d_ ⟨w64 (d + 1), aC.1, aC.2, (bH.region (by kernel_rfl) (by kernel_rfl)).anyβ _ (by kernel_rfl), z.kp⟩
 · -- no
  have bI := J.2 Q
  refine x_ (y_ (y_ (z_ (t_ (sqH ?_))))); intro bJ aD
  refine s1 y 26 (.slice ao1 u0.length cap2) ?_; intro cy aE
  obtain ⟨bK, aF⟩ := bI
  refine ck aE 8 #[.slice ao1 u0.length cap2] ?_
  refine (qown_fun u0 bK ao1 cap2 _ _ hs3 aq.fz).mono ?_; rintro _ bL ⟨C, D, S, rfl, hm⟩; refine ⟨_, rfl, ?_⟩; intro cz aG; have aH := aq.callZ hm; have U := hm.ext.le
  replace hs6 := hs6.mono U
  have M : Mem w.heap.size [] w Z [.own tyFrame 33 C D (ownS u0)] S bL := aH
  have bM := aF (M.ownSmall 0 rfl)
  refine s1 aG 10 (.slice C (ownS u0).length D) ?_; intro cA aI
  apply aD
  refine s_ (sqB aI M [] [] [(28, .slice ao4 u1.length cap5), (29, i6 (u1.length : Int)), (30, i6 0)] ?_); intro aJ aK
  apply b_
  have aL : Fr 54 [] [⟨10, [], .slice C (ownS u0).length D⟩, ⟨28, [], .slice ao4 u1.length cap5⟩, ⟨29, [], i6 (u1.length : Int)⟩, ⟨30, [], i6 0⟩] aJ := aK.reg
  obtain ⟨bN, bO, bP, bQ⟩ := bM
  refine lp (ι := (List Frame) × Int × (Option Addr) × Nat × Fz) (fun s => [⟨10, [], .slice s.2.2.1 s.1.length s.2.2.2.1⟩, ⟨28, [], .slice ao4 u1.length cap5⟩, ⟨29, [], i6 (u1.length : Int)⟩, ⟨30, [], i6 s.2.1⟩]) (fun s => [.own tyFrame 33 s.2.2.1 s.2.2.2.1 s.1]) (fun s => s.2.2.2.2) (fun s => bN s.1 s.2.1 ∧ Fz.le S s.2.2.2.2) (fun s => bO s.1 s.2.1) ⟨(ownS u0), 0, C, D, S⟩ ⟨bP, Fz.le.refl _⟩ (by exact aL.region (by kernel_rfl) (by kernel_rfl)) (by exact M) ?_
  rintro ⟨c, l, f, g, E⟩ ⟨bR, m⟩ bS aN aO aP
  have N := bQ c l bR
  have F := hs6.mono m
  refine sqB aO aP [] [] [(31, .bool (decide (l < (u1.length : Int))))] ?_; intro cC G
  apply s_
  refine cd G (t := decide (l < (u1.length : Int))) (by kernel_rfl) (fun V => ?_) (fun V => ?_)
  · -- yes
   have bT := N.1 V
   refine k_ (s_ (b_ (sqH ?_))); intro bU aR
   obtain ⟨bV, aS⟩ := bT
   refine ix_ G F l bV .i64 33 48 ?_; intro cD cE cF a cG bW H bX aT
   have aU := aS a bW
   obtain ⟨h, i, rfl, u⟩ := bX
   have bY := aU (u.small)
   refine z2 aT aP 33 H 0 6 (e33F a h i) rfl ?_; intro cH aV
   refine nw aV aP pb [i6 0, .bool false, .bool false, .bool false, i6 0, .slice none 0 0] 33 ?_; intro A bZ cI W aW
   refine sx W aW 0 (e33F a h i) 0 ?_; intro b0 aX
   have aY : Mem w.heap.size [] w Z [.row A (e33F a h i) 33, .own tyFrame 33 f g c] E b0 := aX
   apply aR
   have aZ : Fr 54 [] [⟨10, [], .slice f c.length g⟩, ⟨12, [], pt A 0⟩, ⟨28, [], .slice ao4 u1.length cap5⟩, ⟨29, [], i6 (u1.length : Int)⟩, ⟨30, [], i6 l⟩] bZ := W.reg
   refine rgS mixed aY [(0, true), (1, true), (2, true), (4, true), (3, false), (5, false), (6, false), (7, false), (8, true)] [] [0] [.row A (e33F a h i) 33] ?_
   intro b1 a1 cJ X
   have o := Fz.le.refl E
   refine cS aZ 4 [0, 0] [] [(34, .slice f c.length g), (35, .slice f c.length g), (36, .agg (e33F a h i).toArray), (38, .agg (e33F a h i).toArray)] ?_; intro cK a2
   refine eS rfl ?_; intro b2 a3
   obtain ⟨b3, b4⟩ := bY
   refine fc a2 X ((by obtain ⟨Z9, b5, b6, b7⟩ := X.lend 1 rfl; exact qplace_fun c a b3 f g h i _ _ b7 (SlR.mono u b5) b6)) ?_; intro cL cM a4 P
   refine nl (qnI (a3 _ _ (P.cst o [0]) ?_))
   refine eS rfl ?_; intro b8 a5
   obtain ⟨b9, ca⟩ := b4
   refine ck a4 11 #[.agg (e33F a h i).toArray] ?_
   refine (fcopy_fun a b9 h i _ _ u P.fz).mono ?_; rintro _ cb ⟨a6, a7, a8, rfl, Y, hm⟩; refine ⟨_, rfl, ?_⟩; intro cN a9; have ba := P.callZ hm; have v := hm.ext.le
   replace m := m.mono v
   replace o := o.mono v
   have aa : Mem w.heap.size [] w Z [.row A (e33F a h i) 33, .own tyFrame 33 f g c] a8 cb := ba
   refine nl (qnI (a5 _ _ (aa.cst o [0]) ?_))
   refine eS rfl ?_; intro cc bb
   refine nw a9 aa (fun b => .slice (sm b) 1 1) (e33F (fcopyS a) a6 a7) 33 ?_; intro ab cO ce bc ac
   refine nl (qnI (bb _ _ (ac.cst o [1]) ?_))
   refine eS rfl ?_; intro cf bd
   have ad : Mem w.heap.size [] w Z [.own tyFrame 33 (sm ab) 1 ([(fcopyS a)] : List Frame), .row A (e33F a h i) 33, .own tyFrame 33 f g c] a8 ce := ac.rowOwn (T := tyFrame) (xs := ([(fcopyS a)] : List Frame)) 0 rfl (by decide) (by show 1 ≤ lim; decide) (RepAll.one (T := tyFrame) (x := (fcopyS a)) ⟨a6, a7, rfl, Y⟩)
   obtain ⟨cg, be⟩ := ca
   refine ck bc 9 #[.slice f c.length g, i6 (placeS c a), .slice (sm ab) ([(fcopyS a)] : List Frame).length 1] ?_
   refine (finsert_fun c (placeS c a) ([(fcopyS a)] : List Frame) cg f g (sm ab) 1 _ _ _ _ _ _ (ad.perm ((pk 2 rfl).trans ((List.Perm.refl _).cons _))) ad.fz).mono ?_; rintro _ ch ⟨ae, af, bf, rfl, p, hm⟩; refine ⟨_, rfl, ?_⟩; intro cP bg; have bh := hm
   replace m := m.mono p
   replace o := o.mono p
   have ag : Mem w.heap.size [] w Z [.own tyFrame 33 ae af (insS c (placeS c a) ([(fcopyS a)] : List Frame)), .row A (e33F a h i) 33] bf ch := bh
   refine nl (qnI (bd _ _ (ag.cst o [1]) ?_))
   refine cS bg 1 [] [] [(10, .slice ae (insS c (placeS c a) ([(fcopyS a)] : List Frame)).length af)] ?_; intro cQ bi
   refine nS (a1 _ _ ?_)
   refine j_ (t_ (rgB bi ag [] [] [(30, i6 (w64 (l + 1)))] ?_)); intro cR ci
   exact d_ ⟨⟨(insS c (placeS c a) ([(fcopyS a)] : List Frame)), w64 (l + 1), ae, af, bf⟩, ⟨be.1, m⟩, be.2, (ci.region (by kernel_rfl) (by kernel_rfl)).anyβ _ (by kernel_rfl), ag.kp⟩
  · -- no
   have cj := N.2 V
   refine x_ (y_ (y_ (z_ (t_ (sqB G aP [] [] [(13, i6 (max (w64 ((c.length : Int) - 16)) 0))] ?_))))); intro cT bj
   refine sqH ?_; intro cl bk
   refine bt bj aP 5 [] [] [(47, .slice f c.length g), (51, i6 (w64 ((c.length : Int) - (max (w64 ((c.length : Int) - 16)) 0))))] ?_; intro cU bl
   obtain ⟨cV, cm⟩ := cj
   refine slt bl aP 0 (T := tyFrame) (xs := c) (ao := f) (cap := g) (w64 ((c.length : Int) - (max (w64 ((c.length : Int) - 16)) 0))).toNat (by omega) (e := 33) (bytes := 48) (k := .i64) (nog rfl _) rfl (by kernel_rfl) rfl (by kernel_rfl) rfl (by kernel_rfl) (by rw [Int.toNat_of_nonneg (by omega)]; kernel_rfl) ?_; intro cW bm bn
   have bo : Mem w.heap.size [] w Z [.own tyFrame 33 f g (c.take (w64 ((c.length : Int) - (max (w64 ((c.length : Int) - 16)) 0))).toNat)] E aN := bn
   refine bt bm bo 4 [] [] [(4, .slice f (c.take (w64 ((c.length : Int) - (max (w64 ((c.length : Int) - 16)) 0))).toNat).length g), (5, i6 (max (w64 ((c.length : Int) - 16)) 0)), (6, i6 0)] ?_; intro cX cn
   apply bk
   exact r_ (ra3 cn (.tuple #[.slice f (c.take (w64 ((c.length : Int) - (max (w64 ((c.length : Int) - 16)) 0))).toNat).length g, i6 (max (w64 ((c.length : Int) - 16)) 0), i6 0]) ⟨((c.take (w64 ((c.length : Int) - (max (w64 ((c.length : Int) - 16)) 0))).toNat), max (w64 ((c.length : Int) - 16)) 0, 0), f, g, E, rfl, cm, bo.kp⟩)

end Go.Proofs.Ytocpdhcjkfmmnaa
set_option linter.unusedVariables false
set_option linter.unusedSimpArgs false
set_option linter.defProp false
set_option maxRecDepth 100000
set_option maxHeartbeats 0
namespace Go.Proofs.Ytocpdhcjkfmmnaa
open Go.Sy Go.RowKit
abbrev e33G (X : Frame) (A0 : Option Addr) (C0 : Nat) : List Value := [i6 X.ID, .bool X.Long, .bool X.Fast, .bool X.Remote, i6 X.Size, .slice A0 X.Data.length C0]
def qput_fun (u0 : List Frame) (u1 : Frame) (ao1 : Option Addr) (cap2 : Nat) (ao4 : Option Addr) (cap5 : Nat) (Z : Fz) (w : World) (hs3 : SlR tyFrame Z ao1 cap2 u0) (hs6 : SlR t8 Z ao4 cap5 u1.Data) (hZ : Z.on w) := fc_ (qput_walk u0 u1 ao1 cap2 ao4 cap5 Z w hs3 hs6 hZ (qput_ok u0 u1))
def qtake_fun (u0 : List Frame) (ao1 : Option Addr) (cap2 : Nat) (Z : Fz) (w : World) (hs3 : SlR tyFrame Z ao1 cap2 u0) (hZ : Z.on w) := fe_ (qtake_walk u0 ao1 cap2 Z w hs3 hZ (qtake_ok u0))
def qmerge_fun (u0 : List Frame) (u1 : List Frame) (ao1 : Option Addr) (cap2 : Nat) (ao4 : Option Addr) (cap5 : Nat) (Z : Fz) (w : World) (hs3 : SlR tyFrame Z ao1 cap2 u0) (hs6 : SlR tyFrame Z ao4 cap5 u1) (hZ : Z.on w) := fc_ (qmerge_walk u0 u1 ao1 cap2 ao4 cap5 Z w hs3 hs6 hZ (qmerge_ok u0 u1))
theorem queued_walk   (Z : Fz) (w : World)  (hZ : Z.on w) {K : Bool → Prop} (hp : queued_vc  K) : Calls Try.prog 5 #[] w fun e w' => ∃ r : Bool, e = .returned (.bool r) ∧ K r ∧ Below w.heap.size w w' := by
 refine enter0 Try.func5 rfl rfl (by kernel_rfl) ?_; intro a0 N; have u := Mem.start w Z hZ
 refine sqB N u [] [] [] ?_; intro a2 O
 refine sqH ?_; intro ax P
 refine s1 O 7 (.agg #[i6 5, .bool false, .bool false, .bool false, i6 0, .slice none 0 0]) ?_; intro a5 Q
 refine nw Q u (fun b => .slice (sm b) 1 1) [i6 5, .bool false, .bool false, .bool false, i6 0, .slice none 0 0] 33 ?_; intro y a8 R S U
 refine s1 S 9 (.agg #[i6 3, .bool false, .bool false, .bool false, i6 0, .slice none 0 0]) ?_; intro aU V
 have ay : Mem w.heap.size [] w Z [.own tyFrame 33 (sm y) 1 ([(⟨5, false, false, false, 0, []⟩ : Frame)] : List Frame)] Z R := U.rowOwn (T := tyFrame) (xs := ([(⟨5, false, false, false, 0, []⟩ : Frame)] : List Frame)) 0 rfl (by decide) (by show 1 ≤ lim; decide) (RepAll.one (T := tyFrame) (x := (⟨5, false, false, false, 0, []⟩ : Frame)) ⟨none, 0, rfl, SlR.nil _ _⟩)
 obtain ⟨az, aA, W, f⟩ := ay.freeze 0 rfl
 have z : Mem w.heap.size [] w Z [] az R := W
 refine ck V 12 #[.slice (sm y) ([(⟨5, false, false, false, 0, []⟩ : Frame)] : List Frame).length 1, .agg #[i6 3, .bool false, .bool false, .bool false, i6 0, .slice none 0 0]] ?_
 refine (qput_fun ([(⟨5, false, false, false, 0, []⟩ : Frame)] : List Frame) (⟨3, false, false, false, 0, []⟩ : Frame) (sm y) 1 none 0 _ _ f (SlR.nil _ _) z.fz).mono ?_; rintro _ X ⟨i, j, aB, rfl, hm⟩; refine ⟨_, rfl, ?_⟩; intro aV Y; have aa := z.callZ hm
 have A : Mem w.heap.size [] w Z [.own tyFrame 33 i j (putS ([(⟨5, false, false, false, 0, []⟩ : Frame)] : List Frame) (⟨3, false, false, false, 0, []⟩ : Frame)).1] aB X := aa
 have ac := hp (A.ownSmall 0 rfl)
 refine bt Y A 5 [] [] [(1, .slice i (putS ([(⟨5, false, false, false, 0, []⟩ : Frame)] : List Frame) (⟨3, false, false, false, 0, []⟩ : Frame)).1.length j), (2, i6 (putS ([(⟨5, false, false, false, 0, []⟩ : Frame)] : List Frame) (⟨3, false, false, false, 0, []⟩ : Frame)).2)] ?_; intro aW ad
 apply P
 refine sqH ?_; intro aC ae
 refine s1 ad 14 (.slice i (putS ([(⟨5, false, false, false, 0, []⟩ : Frame)] : List Frame) (⟨3, false, false, false, 0, []⟩ : Frame)).1.length j) ?_; intro aX af
 obtain ⟨aD, ag, ah, B⟩ := A.freeze 0 rfl
 have C : Mem w.heap.size [] w Z [] aD X := ah
 refine ck af 13 #[.slice i (putS ([(⟨5, false, false, false, 0, []⟩ : Frame)] : List Frame) (⟨3, false, false, false, 0, []⟩ : Frame)).1.length j] ?_
 refine (qtake_fun (putS ([(⟨5, false, false, false, 0, []⟩ : Frame)] : List Frame) (⟨3, false, false, false, 0, []⟩ : Frame)).1 i j _ _ B C.fz).mono ?_; rintro _ aE ⟨D, E, F, G, ai, rfl, aF, aj, hm⟩; refine ⟨_, rfl, ?_⟩; intro aY ak; have al := C.callZ hm
 have I : Mem w.heap.size [] w Z [] ai aE := al
 have n := ac (aF.small) (aj.small)
 refine bt ak I 4 [] [] [(16, .agg (e33G ((takeS (putS ([(⟨5, false, false, false, 0, []⟩ : Frame)] : List Frame) (⟨3, false, false, false, 0, []⟩ : Frame)).1).1) D E).toArray), (17, .slice F (takeS (putS ([(⟨5, false, false, false, 0, []⟩ : Frame)] : List Frame) (⟨3, false, false, false, 0, []⟩ : Frame)).1).2.1.length G), (18, i6 (takeS (putS ([(⟨5, false, false, false, 0, []⟩ : Frame)] : List Frame) (⟨3, false, false, false, 0, []⟩ : Frame)).1).2.2)] ?_; intro aZ an
 refine nw an I pb [i6 0, .bool false, .bool false, .bool false, i6 0, .slice none 0 0] 33 ?_; intro aG a1 a3 J ao
 refine sx J ao 0 (e33G ((takeS (putS ([(⟨5, false, false, false, 0, []⟩ : Frame)] : List Frame) (⟨3, false, false, false, 0, []⟩ : Frame)).1).1) D E) 0 ?_; intro aH L
 refine bt J L 2 [] [] [(4, .slice F (takeS (putS ([(⟨5, false, false, false, 0, []⟩ : Frame)] : List Frame) (⟨3, false, false, false, 0, []⟩ : Frame)).1).2.1.length G), (5, i6 (takeS (putS ([(⟨5, false, false, false, 0, []⟩ : Frame)] : List Frame) (⟨3, false, false, false, 0, []⟩ : Frame)).1).2.2)] ?_; intro a4 ap
 have h : Mem w.heap.size [] w Z [.row aG (e33G ((takeS (putS ([(⟨5, false, false, false, 0, []⟩ : Frame)] : List Frame) (⟨3, false, false, false, 0, []⟩ : Frame)).1).1) D E) 33] ai aH := L
 apply ae
 refine sqH ?_; intro aq o
 refine bt ap h 17 [0] [] [(35, .bool (((((putS ([(⟨5, false, false, false, 0, []⟩ : Frame)] : List Frame) (⟨3, false, false, false, 0, []⟩ : Frame)).2 == 0) && ((takeS (putS ([(⟨5, false, false, false, 0, []⟩ : Frame)] : List Frame) (⟨3, false, false, false, 0, []⟩ : Frame)).1).2.2 == 0)) && ((takeS (putS ([(⟨5, false, false, false, 0, []⟩ : Frame)] : List Frame) (⟨3, false, false, false, 0, []⟩ : Frame)).1).1.ID == 3)) && (((takeS (putS ([(⟨5, false, false, false, 0, []⟩ : Frame)] : List Frame) (⟨3, false, false, false, 0, []⟩ : Frame)).1).2.1.length : Int) == 1)))] ?_; intro a6 p
 rcases Bool.eq_false_or_eq_true (((((putS ([(⟨5, false, false, false, 0, []⟩ : Frame)] : List Frame) (⟨3, false, false, false, 0, []⟩ : Frame)).2 == 0) && ((takeS (putS ([(⟨5, false, false, false, 0, []⟩ : Frame)] : List Frame) (⟨3, false, false, false, 0, []⟩ : Frame)).1).2.2 == 0)) && ((takeS (putS ([(⟨5, false, false, false, 0, []⟩ : Frame)] : List Frame) (⟨3, false, false, false, 0, []⟩ : Frame)).1).1.ID == 3)) && (((takeS (putS ([(⟨5, false, false, false, 0, []⟩ : Frame)] : List Frame) (⟨3, false, false, false, 0, []⟩ : Frame)).1).2.1.length : Int) == 1)) with l | l
 · -- true
  have aI := n.1 l
  have q := p.reval (d := 35) (c := []) (v := .bool (((((putS ([(⟨5, false, false, false, 0, []⟩ : Frame)] : List Frame) (⟨3, false, false, false, 0, []⟩ : Frame)).2 == 0) && ((takeS (putS ([(⟨5, false, false, false, 0, []⟩ : Frame)] : List Frame) (⟨3, false, false, false, 0, []⟩ : Frame)).1).2.2 == 0)) && ((takeS (putS ([(⟨5, false, false, false, 0, []⟩ : Frame)] : List Frame) (⟨3, false, false, false, 0, []⟩ : Frame)).1).1.ID == 3)) && (((takeS (putS ([(⟨5, false, false, false, 0, []⟩ : Frame)] : List Frame) (⟨3, false, false, false, 0, []⟩ : Frame)).1).2.1.length : Int) == 1))) (by kernel_rfl) (.bool true) (by rw [l])
  refine g_ q true (.slice F (takeS (putS ([(⟨5, false, false, false, 0, []⟩ : Frame)] : List Frame) (⟨3, false, false, false, 0, []⟩ : Frame)).1).2.1.length G) ?_; intro a7 M
  obtain ⟨aJ, ar⟩ := aI
  refine ix M (T := tyFrame) (xs := (takeS (putS ([(⟨5, false, false, false, 0, []⟩ : Frame)] : List Frame) (⟨3, false, false, false, 0, []⟩ : Frame)).1).2.1) aj (0 : Int) aJ (k := .i64) (e := 33) (bytes := 48) (wK M true) rfl (by kernel_rfl) rfl (by kernel_rfl) (by kernel_rfl) (by kernel_rfl) ?_; intro aK aL a9 m ba aM aN aO s
  have au := ar m aM
  obtain ⟨bb, bc, rfl, aP⟩ := aO
  have aQ := au (aP.small)
  refine g_ s true (pt aK aL) ?_; intro bd t
  refine v_ t (i6 m.ID) (wK t true) (lz t h.fz aN 0 (g := []) rfl (by kernel_rfl) (by kernel_rfl) (by kernel_rfl) rfl) ?_; intro be av
  refine bt av h 3 [] [40, 41] [(0, .bool (m.ID == 5))] ?_; intro bf aR
  apply o
  exact r_ (ra1 aR (.bool (m.ID == 5)) ⟨m.ID == 5, rfl, aQ, h.below⟩)
 · -- false
  have aS := n.2 l
  have aw := p.reval (d := 35) (c := []) (v := .bool (((((putS ([(⟨5, false, false, false, 0, []⟩ : Frame)] : List Frame) (⟨3, false, false, false, 0, []⟩ : Frame)).2 == 0) && ((takeS (putS ([(⟨5, false, false, false, 0, []⟩ : Frame)] : List Frame) (⟨3, false, false, false, 0, []⟩ : Frame)).1).2.2 == 0)) && ((takeS (putS ([(⟨5, false, false, false, 0, []⟩ : Frame)] : List Frame) (⟨3, false, false, false, 0, []⟩ : Frame)).1).1.ID == 3)) && (((takeS (putS ([(⟨5, false, false, false, 0, []⟩ : Frame)] : List Frame) (⟨3, false, false, false, 0, []⟩ : Frame)).1).2.1.length : Int) == 1))) (by kernel_rfl) (.bool false) (by rw [l])
  refine bt aw h 7 [] [36, 37, 38, 39, 40, 41] [(0, .bool false)] ?_; intro bg aT
  apply o
  exact r_ (ra1 aT (.bool false) ⟨false, rfl, aS, h.below⟩)

end Go.Proofs.Ytocpdhcjkfmmnaa
set_option linter.unusedVariables false
set_option linter.unusedSimpArgs false
set_option linter.defProp false
set_option maxRecDepth 100000
set_option maxHeartbeats 0
namespace Go.Proofs.Ytocpdhcjkfmmnaa
open Go.Sy Go.RowKit
def queued_fun   (Z : Fz) (w : World)  (hZ : Z.on w) := f_ (queued_walk   Z w  hZ (queued_ok ))
theorem LBoth_walk (u0 : List Frame) (u1 : List Frame) (ao1 : Option Addr) (cap2 : Nat) (ao4 : Option Addr) (cap5 : Nat) (Z : Fz) (w : World) (hs3 : SlR tyFrame Z ao1 cap2 u0) (hs6 : SlR tyFrame Z ao4 cap5 u1) (hZ : Z.on w) {K : Bool → Prop} (hp : LBoth_vc u0 u1 K) : Calls Try.prog 3 #[.slice ao1 u0.length cap2, .slice ao4 u1.length cap5] w fun e w' => ∃ r : Bool, e = .returned (.bool r) ∧ K r ∧ Below w.heap.size w w' := by
 refine enter0 Try.func3 rfl rfl (by kernel_rfl) ?_; intro a0 af; have p := Mem.start w Z hZ
 have ah := hp (hs3.small) (hs6.small)
 refine sqB af p [] [] [] ?_; intro cq ai
 refine sqH ?_; intro bA aj
 refine bt ai p 2 [] [] [(15, .slice ao1 u0.length cap2), (16, .slice ao4 u1.length cap5)] ?_; intro cr ak
 refine ck ak 4 #[.slice ao1 u0.length cap2, .slice ao4 u1.length cap5] ?_
 refine (qmerge_fun u0 u1 ao1 cap2 ao4 cap5 _ _ hs3 hs6 p.fz).mono ?_; rintro _ bB ⟨d, f, bC, rfl, hm⟩; refine ⟨_, rfl, ?_⟩; intro cs al; have am := p.callZ hm; have P := hm.ext.le
 replace hs3 := hs3.mono P
 replace hs6 := hs6.mono P
 have q : Mem w.heap.size [] w Z [.own tyFrame 33 d f (mergeS u0 u1).1] bC bB := am
 have G := ah (q.ownSmall 0 rfl)
 refine bt al q 7 [] [] [(5, .slice d (mergeS u0 u1).1.length f), (6, i6 (mergeS u0 u1).2.1), (7, i6 (mergeS u0 u1).2.2)] ?_; intro ct an
 apply aj
 refine s_ (sqH ?_); intro bD ao
 refine fc an q (queued_fun  _ _ q.fz) ?_; intro cu bE ap u
 refine bt ap u 5 [] [24, 25, 26] [(26, .bool ((mergeS u0 u1).2.2 != 0))] ?_; intro cv y
 apply ao
 refine cd y (t := (mergeS u0 u1).2.2 != 0) (by kernel_rfl) (fun Q => ?_) (fun Q => ?_)
 · -- yes
  have bF := G.1 Q
  refine sqH ?_; intro bG aq
  refine fc y u (queued_fun  _ _ u.fz) ?_; intro cw cx ar bH
  refine s1 ar 4 (.bool true) ?_; intro cy bI
  apply aq
  exact r_ (h_ (ra1 bI (.bool true) ⟨true, rfl, bF, bH.below⟩))
 · -- no
  have H := G.2 Q
  refine k_ (s_ (sqH ?_)); intro bJ au
  refine s1 y 28 (.slice d (mergeS u0 u1).1.length f) ?_; intro cz av
  refine s1 av 29 (i6 ((mergeS u0 u1).1.length : Int)) ?_; intro cA aw
  refine s1 aw 30 (i6 (mergeS u0 u1).2.1) ?_; intro cB ax
  refine s1 ax 31 (i6 (w64 (((mergeS u0 u1).1.length : Int) + (mergeS u0 u1).2.1))) ?_; intro cC ay
  refine s1 ay 32 (.slice ao1 u0.length cap2) ?_; intro cD az
  refine s1 az 33 (i6 (u0.length : Int)) ?_; intro cE aA
  refine s1 aA 34 (.slice ao4 u1.length cap5) ?_; intro cF aB
  refine s1 aB 35 (i6 (u1.length : Int)) ?_; intro cG aC
  refine s1 aC 36 (i6 (w64 ((u0.length : Int) + (u1.length : Int)))) ?_; intro cH aD
  refine s1 aD 37 (.bool ((w64 (((mergeS u0 u1).1.length : Int) + (mergeS u0 u1).2.1)) != (w64 ((u0.length : Int) + (u1.length : Int))))) ?_; intro cI aE
  refine s1 aE 38 (.bool ((w64 (((mergeS u0 u1).1.length : Int) + (mergeS u0 u1).2.1)) != (w64 ((u0.length : Int) + (u1.length : Int))))) ?_; intro cJ aF
  have aG := aF.atom (((w64 (((mergeS u0 u1).1.length : Int) + (mergeS u0 u1).2.1)) != (w64 ((u0.length : Int) + (u1.length : Int)))) == false) (by kernel_rfl)
  refine gp aG 39 0 [] ((w64 (((mergeS u0 u1).1.length : Int) + (mergeS u0 u1).2.1)) != (w64 ((u0.length : Int) + (u1.length : Int)))) (.slice d (mergeS u0 u1).1.length f) rfl rfl ?_; intro cK aH
  obtain ⟨aI, R, aJ, I⟩ := u.freeze 0 rfl
  replace hs3 := hs3.mono R
  replace hs6 := hs6.mono R
  have S : Mem w.heap.size [] w Z [] aI bE := aJ
  refine gcl aH S (i6 (qcheckS (mergeS u0 u1).1)) 6 #[.slice d (mergeS u0 u1).1.length f] (m := 0) (cj := []) (bj := (w64 (((mergeS u0 u1).1.length : Int) + (mergeS u0 u1).2.1)) != (w64 ((u0.length : Int) + (u1.length : Int)))) rfl rfl (by kernel_rfl) rfl (by kernel_rfl) (by kernel_rfl) (by kernel_rfl) (fun _ => by kernel_rfl) (fun hg => qcheck_fun (mergeS u0 u1).1 d f _ _ I S.fz) ?_; intro cL cM aK z
  refine gp aK 41 0 [] ((w64 (((mergeS u0 u1).1.length : Int) + (mergeS u0 u1).2.1)) != (w64 ((u0.length : Int) + (u1.length : Int)))) (.bool ((qcheckS (mergeS u0 u1).1) != 0)) rfl rfl ?_; intro cN U
  refine u_ U (.bool (((w64 (((mergeS u0 u1).1.length : Int) + (mergeS u0 u1).2.1)) != (w64 ((u0.length : Int) + (u1.length : Int)))) || ((qcheckS (mergeS u0 u1).1) != 0))) (pk_or U (g := []) (m := 0) (b := (w64 (((mergeS u0 u1).1.length : Int) + (mergeS u0 u1).2.1)) != (w64 ((u0.length : Int) + (u1.length : Int)))) (v := (qcheckS (mergeS u0 u1).1) != 0) rfl (by kernel_rfl) (by kernel_rfl) (by kernel_rfl) rfl) ?_; intro aL A
  apply au
  refine cd A (t := ((w64 (((mergeS u0 u1).1.length : Int) + (mergeS u0 u1).2.1)) != (w64 ((u0.length : Int) + (u1.length : Int)))) || ((qcheckS (mergeS u0 u1).1) != 0)) (by kernel_rfl) (fun V => ?_) (fun V => ?_)
  · -- yes
   have bK := H.1 V
   have aM : Fr 83 [] [] aL := A.reg
   refine sqB aM z [] [] [(4, .bool false)] ?_; intro cO bL
   exact r_ (h_ (ra1 bL (.bool false) ⟨false, rfl, bK, z.below⟩))
  · -- no
   have bM := H.2 V
   refine k_ (s_ ?_)
   have aN : Fr 83 [] [⟨0, [], .slice ao1 u0.length cap2⟩, ⟨1, [], .slice ao4 u1.length cap5⟩, ⟨5, [], .slice d (mergeS u0 u1).1.length f⟩] aL := A.reg
   refine sqH ?_; intro bN aO
   refine bt aN z 2 [] [] [(43, .slice ao1 u0.length cap2), (44, .slice ao4 u1.length cap5)] ?_; intro cP aP
   refine nw aP z (fun b => .slice (sm b) 2 2) [.slice ao1 u0.length cap2, .slice ao4 u1.length cap5] 22 ?_; intro B cQ aQ aR W
   refine bt aR W 2 [] [] [(46, i6 2), (47, i6 0)] ?_; intro aS aT
   apply aO
   apply b_
   have aU : Fr 83 [] [⟨5, [], .slice d (mergeS u0 u1).1.length f⟩, ⟨45, [], .slice (sm B) 2 2⟩, ⟨46, [], i6 2⟩, ⟨47, [], i6 0⟩] aS := aT.reg
   have bO : Mem w.heap.size [] w Z [.own (tySl tyFrame) 22 (sm B) 2 ([u0, u1] : List (List Frame))] aI aQ := W.rowOwn (T := (tySl tyFrame)) (xs := ([u0, u1] : List (List Frame))) 0 rfl (by decide) (by show 2 ≤ lim; decide) ((RepAll.one (T := (tySl tyFrame)) (x := u0) ⟨ao1, cap2, rfl, hs3⟩).append (RepAll.one (T := (tySl tyFrame)) (x := u1) ⟨ao4, cap5, rfl, hs6⟩))
   obtain ⟨X, J, aV, bP⟩ := bO.freeze 0 rfl
   replace I := I.mono J
   have aW : Mem w.heap.size [] w Z [] X aQ := aV
   have aX : Fr 83 [] [⟨5, [], .slice d (mergeS u0 u1).1.length f⟩, ⟨45, [], .slice (sm B) ([u0, u1] : List (List Frame)).length 2⟩, ⟨46, [], i6 2⟩, ⟨47, [], i6 0⟩] aS := aU.reg
   obtain ⟨bQ, bR, bS, bT⟩ := bM
   refine lp (ι := Int) (fun s => [⟨5, [], .slice d (mergeS u0 u1).1.length f⟩, ⟨45, [], .slice (sm B) ([u0, u1] : List (List Frame)).length 2⟩, ⟨46, [], i6 2⟩, ⟨47, [], i6 s⟩]) (fun s => []) (fun s => X) (fun s => bQ s) (fun s => bR s) 0 bS (by exact aX.region (by kernel_rfl) (by kernel_rfl)) (by exact aW) ?_
   rintro i bU bV bW aY aZ
   have L := bT i bU
   refine sqB aY aZ [] [] [(48, .bool (decide (i < 2)))] ?_; intro cR C
   apply s_
   refine cd C (t := decide (i < 2)) (by kernel_rfl) (fun Y => ?_) (fun Y => ?_)
   · -- yes
    have bX := L.1 Y
    refine k_ (s_ (b_ (sqH ?_))); intro bY a2
    obtain ⟨bZ, a3⟩ := bX
    refine ix_ C bP i bZ .i64 22 24 ?_; intro cS cT cU l cV b0 b1 b2 a4
    have a5 := a3 l b0
    obtain ⟨aa, ab, rfl, a6⟩ := b2
    have M := a5 (a6.small)
    refine z1 a4 aZ 50 b1 0 (.slice aa l.length ab) rfl ?_; intro cW a7
    refine s1 a7 9 (.slice aa l.length ab) ?_; intro cX a8
    apply a2
    refine sqB a8 aZ [] [] [(53, .bool (decide ((l.length : Int) > 0)))] ?_; intro cY D
    refine cd D (t := decide ((l.length : Int) > 0)) (by kernel_rfl) (fun ac => ?_) (fun ac => ?_)
    · -- yes
     have b3 := M.1 ac
     refine sqH ?_; intro b4 a9
     refine s1 D 55 (.slice aa l.length ab) ?_; intro cZ ba
     obtain ⟨b5, bb⟩ := b3
     refine ix_ ba a6 (0 : Int) b5 .i64 33 48 ?_; intro c0 c1 c2 a c3 b6 b7 b8 bc
     have bd := bb a b6
     obtain ⟨be, bf, rfl, bg⟩ := b8
     have N := bd (bg.small)
     refine z2 bc aZ 57 b7 0 6 [i6 a.ID, .bool a.Long, .bool a.Fast, .bool a.Remote, i6 a.Size, .slice be a.Data.length bf] rfl ?_; intro c4 bh
     refine fc bh aZ (fName_fun a be bf _ _ bg aZ.fz) ?_; intro c5 c6 bi j
     refine bt bi j 5 [] [] [(10, str (fNameS a).1), (11, i6 (fNameS a).2)] ?_; intro c7 bk
     apply a9
     refine s_ (sqB bk j [] [] [(63, .bool (((mergeS u0 u1).1.length : Int) == 0))] ?_); intro c8 E
     refine cd E (t := ((mergeS u0 u1).1.length : Int) == 0) (by kernel_rfl) (fun ad => ?_) (fun ad => ?_)
     · -- yes
      have b9 := N.1 ad
      refine sqB E j [] [] [(4, .bool false)] ?_; intro c9 ca
      exact r_ (h_ (i_ (h_ (h_ (i_ (h_ (ra1 ca (.bool false) ⟨false, rfl, b9, j.below⟩)))))))
     · -- no
      have cb := N.2 ad
      refine k_ (sqH ?_); intro cc bl
      refine s1 E 65 (.slice d (mergeS u0 u1).1.length f) ?_; intro da bm
      obtain ⟨ce, bn⟩ := cb
      refine ix_ bm I (0 : Int) ce .i64 33 48 ?_; intro db dc dd c de cf cg ch bo
      have bp := bn c cf
      obtain ⟨bq, br, rfl, bs⟩ := ch
      have O := bp (bs.small)
      refine z2 bo j 67 cg 0 6 [i6 c.ID, .bool c.Long, .bool c.Fast, .bool c.Remote, i6 c.Size, .slice bq c.Data.length br] rfl ?_; intro df bu
      refine fc bu j (fName_fun c bq br _ _ bs j.fz) ?_; intro dg dh bv o
      refine bt bv o 5 [] [] [(12, str (fNameS c).1), (13, i6 (fNameS c).2)] ?_; intro di bw
      apply bl
      refine sqB bw o [] [163] [(81, .bool ((((fNameS a).2 != 0) || ((fNameS c).2 != 0)) || (strc .gtr (fNameS c).1 (fNameS a).1)))] ?_; intro dj F
      refine cd F (t := (((fNameS a).2 != 0) || ((fNameS c).2 != 0)) || (strc .gtr (fNameS c).1 (fNameS a).1)) (by kernel_rfl) (fun ae => ?_) (fun ae => ?_)
      · -- yes
       have ci := O.1 ae
       refine sqB F o [] [] [(4, .bool false)] ?_; intro dk cl
       exact r_ (i_ (h_ (h_ (i_ (h_ (ra1 cl (.bool false) ⟨false, rfl, ci, o.below⟩))))))
      · -- no
       have bx := O.2 ae
       refine l_ (j_ (t_ (rgB F o [] [] [(47, i6 (w64 (i + 1)))] ?_))); intro dl cm
       exact d_ ⟨w64 (i + 1), bx.1, bx.2, (cm.region (by kernel_rfl) (by kernel_rfl)).anyβ _ (by kernel_rfl), o.kp⟩
    · -- no
     have bz := M.2 ac
     refine l_ (j_ (t_ (rgB D aZ [] [] [(47, i6 (w64 (i + 1)))] ?_))); intro dm cn
     exact d_ ⟨w64 (i + 1), bz.1, bz.2, (cn.region (by kernel_rfl) (by kernel_rfl)).anyβ _ (by kernel_rfl), aZ.kp⟩
   · -- no
    have co := L.2 Y
    refine x_ (y_ (y_ (z_ (t_ (sqB C aZ [] [] [(4, .bool true)] ?_))))); intro dn cp
    exact r_ (ra1 cp (.bool true) ⟨true, rfl, co, aZ.below⟩)

end Go.Proofs.Ytocpdhcjkfmmnaa
