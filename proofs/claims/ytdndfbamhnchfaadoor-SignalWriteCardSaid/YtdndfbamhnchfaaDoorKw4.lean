/- Texts put together (pure ones, or walks made by program). -/
import Derived.Test.YtdndfbamhnchfaaDoorKw0
import Derived.Test.YtdndfbamhnchfaaDoorKw1
import Derived.Test.YtdndfbamhnchfaaDoorKw2
import Derived.Test.YtdndfbamhnchfaaDoorKw3
set_option linter.unusedVariables false
set_option linter.unusedSimpArgs false
set_option linter.defProp false
set_option maxRecDepth 100000
set_option maxHeartbeats 0
namespace Go.Proofs.YtdndfbamhnchfaaDoor
open Go.Sy Go.RowKit
abbrev e23Q (X : Signal) : List Value := [str X.Name, i6 X.Start, i6 X.Size, .bool X.Back, .bool X.Signed, i6 X.Mul, i6 X.Div, i6 X.Add, i6 X.Key]
def rplaces_fun (u0 : Signal) (hpre : (0 ≤ u0.Start ∧ u0.Start ≤ 512) ∧ 1 ≤ u0.Size ∧ u0.Size ≤ 40)  (Z : Fz) (w : World)  (hZ : Z.on w) := fc_ (rplaces_walk u0  Z w  hZ (rplaces_ok u0 hpre))
def scontains_fun (u0 : List Int) (u1 : Int) (ao1 : Option Addr) (cap2 : Nat) (Z : Fz) (w : World) (hs3 : SlR t6 Z ao1 cap2 u0) (hZ : Z.on w) := f_ (scontains_walk u0 u1 ao1 cap2 Z w hs3 hZ (scontains_ok u0 u1))
def icontf_fun (u0 : List Int) (u1 : Int → Bool) (ao1 : Option Addr) (cap2 : Nat) (fid4 : Nat) (caps5 : Array Value) (Z : Fz) (w : World) (hs3 : SlR t6 Z ao1 cap2 u0) (hf6 : ∀ (Z1 : Fz) (w1 : World), Z.le Z1 → Z1.on w1 → ∀ (x0 : Int), Calls Tryd.prog fid4 (#[i6 x0] ++ caps5) w1 fun e w2 => e = .returned (.bool (u1 x0)) ∧ Below w1.heap.size w1 w2) (hg7 : ∀ x w, Sem.run Tryd.prog (callFunc fid4 x) w = .ok (.enter fid4 x) w) (hZ : Z.on w) := f_ (icontf_walk u0 u1 ao1 cap2 fid4 caps5 Z w hs3 hf6 hg7 hZ (icontf_ok u0 u1))
theorem risname_walk (u0 : List UInt8)  (Z : Fz) (w : World)  (hZ : Z.on w) {K : Bool → Prop} (hp : risname_vc u0 K) : Calls Tryd.prog 21 #[str u0] w fun e w' => ∃ r : Bool, e = .returned (.bool r) ∧ K r ∧ Below w.heap.size w w' := by
 refine enter0 Tryd.func21 rfl rfl (by kernel_rfl) ?_; intro a0 C; have a := Mem.start w Z hZ
 refine sqB C a [] [] [] ?_; intro a2 D
 refine s_ (sqH ?_); intro y b
 refine bt D a 8 [] [27] [(10, .bool ((u0 == ([] : List UInt8)) || (decide ((u0.length : Int) > 16))))] ?_; intro ap j
 rcases Bool.eq_false_or_eq_true ((u0 == ([] : List UInt8)) || (decide ((u0.length : Int) > 16))) with g | g
 · -- true
  have T := hp.1 g
  have E := j.reval (d := 10) (c := []) (v := .bool ((u0 == ([] : List UInt8)) || (decide ((u0.length : Int) > 16)))) (by kernel_rfl) (.bool true) (by rw [g])
  refine bt E a 9 [] [11, 12, 13, 14, 15, 16, 17, 18, 19] [(19, .bool true)] ?_; intro aq z
  apply b
  refine cdT z (by kernel_rfl) ?_
  refine sqB z a [] [] [(2, .bool false)] ?_; intro ar U
  exact r_ (h_ (ra1 U (.bool false) ⟨false, rfl, T, a.below⟩))
 · -- false
  have V := hp.2 g
  have l := j.reval (d := 10) (c := []) (v := .bool ((u0 == ([] : List UInt8)) || (decide ((u0.length : Int) > 16)))) (by kernel_rfl) (.bool false) (by rw [g])
  refine g_ l false (str u0) ?_; intro au m
  obtain ⟨W, X⟩ := V
  obtain ⟨f, F⟩ : ∃ q, u0[(0 : Int).toNat]? = some q := ⟨_, List.getElem?_eq_getElem (by omega)⟩; have n := X f F
  refine v_ m (y8 (f.toNat : Int)) (wK m false) (stridx_run m (k := .i64) rfl (by kernel_rfl) (by kernel_rfl) (by kernel_rfl) W.1 F) ?_; intro av G
  refine bt G a 2 [] [13, 14] [(14, .bool (decide ((f.toNat : Int) ≥ 48)))] ?_; intro aw o
  rcases Bool.eq_false_or_eq_true (decide ((f.toNat : Int) ≥ 48)) with h | h
  · -- true
   have Y := n.1 h
   have p := o.reval (d := 14) (c := []) (v := .bool (decide ((f.toNat : Int) ≥ 48))) (by kernel_rfl) (.bool true) (by rw [h])
   refine g_ p true (str u0) ?_; intro ax s
   obtain ⟨aa, ab⟩ := Y
   obtain ⟨u, H⟩ : ∃ q, u0[(0 : Int).toNat]? = some q := ⟨_, List.getElem?_eq_getElem (by omega)⟩; have x := ab u H
   refine v_ s (y8 (u.toNat : Int)) (wK s true) (stridx_run s (k := .i64) rfl (by kernel_rfl) (by kernel_rfl) (by kernel_rfl) aa.1 H) ?_; intro ay I
   refine bt I a 3 [] [17, 18, 19] [(19, .bool (decide ((u.toNat : Int) ≤ 57)))] ?_; intro az i
   apply b
   refine cd i (t := decide ((u.toNat : Int) ≤ 57)) (by kernel_rfl) (fun A => ?_) (fun A => ?_)
   · -- yes
    have ac := x.1 A
    refine sqB i a [] [] [(2, .bool false)] ?_; intro aA ad
    exact r_ (h_ (ra1 ad (.bool false) ⟨false, rfl, ac, a.below⟩))
   · -- no
    have ae := x.2 A
    refine k_ (sqH ?_); intro af J
    refine s1 i 20 (str u0) ?_; intro aB L
    obtain ⟨ag, ah⟩ := ae
    refine fc L a (trim_fun u0 ([97, 98, 99, 100, 101, 102, 103, 104, 105, 106, 107, 108, 109, 110, 111, 112, 113, 114, 115, 116, 117, 118, 119, 120, 121, 122, 65, 66, 67, 68, 69, 70, 71, 72, 73, 74, 75, 76, 77, 78, 79, 80, 81, 82, 83, 84, 85, 86, 87, 88, 89, 90, 48, 49, 50, 51, 52, 53, 54, 55, 56, 57] : List UInt8) ag _ _ a.fz) ?_; intro aC aD M N
    refine bt M N 2 [] [45] [(2, .bool ((trimS u0 ([97, 98, 99, 100, 101, 102, 103, 104, 105, 106, 107, 108, 109, 110, 111, 112, 113, 114, 115, 116, 117, 118, 119, 120, 121, 122, 65, 66, 67, 68, 69, 70, 71, 72, 73, 74, 75, 76, 77, 78, 79, 80, 81, 82, 83, 84, 85, 86, 87, 88, 89, 90, 48, 49, 50, 51, 52, 53, 54, 55, 56, 57] : List UInt8)) == ([] : List UInt8)))] ?_; intro aE ai
    apply J
    exact r_ (ra1 ai (.bool ((trimS u0 ([97, 98, 99, 100, 101, 102, 103, 104, 105, 106, 107, 108, 109, 110, 111, 112, 113, 114, 115, 116, 117, 118, 119, 120, 121, 122, 65, 66, 67, 68, 69, 70, 71, 72, 73, 74, 75, 76, 77, 78, 79, 80, 81, 82, 83, 84, 85, 86, 87, 88, 89, 90, 48, 49, 50, 51, 52, 53, 54, 55, 56, 57] : List UInt8)) == ([] : List UInt8))) ⟨(trimS u0 ([97, 98, 99, 100, 101, 102, 103, 104, 105, 106, 107, 108, 109, 110, 111, 112, 113, 114, 115, 116, 117, 118, 119, 120, 121, 122, 65, 66, 67, 68, 69, 70, 71, 72, 73, 74, 75, 76, 77, 78, 79, 80, 81, 82, 83, 84, 85, 86, 87, 88, 89, 90, 48, 49, 50, 51, 52, 53, 54, 55, 56, 57] : List UInt8)) == ([] : List UInt8), rfl, ah, N.below⟩)
  · -- false
   have aj := n.2 h
   have O := o.reval (d := 14) (c := []) (v := .bool (decide ((f.toNat : Int) ≥ 48))) (by kernel_rfl) (.bool false) (by rw [h])
   refine bt O a 5 [] [15, 16, 17, 18, 19] [(19, .bool false)] ?_; intro aF B
   apply b
   refine cdF B (by kernel_rfl) ?_
   refine k_ (sqH ?_); intro ak P
   refine s1 B 20 (str u0) ?_; intro aG Q
   obtain ⟨al, am⟩ := aj
   refine fc Q a (trim_fun u0 ([97, 98, 99, 100, 101, 102, 103, 104, 105, 106, 107, 108, 109, 110, 111, 112, 113, 114, 115, 116, 117, 118, 119, 120, 121, 122, 65, 66, 67, 68, 69, 70, 71, 72, 73, 74, 75, 76, 77, 78, 79, 80, 81, 82, 83, 84, 85, 86, 87, 88, 89, 90, 48, 49, 50, 51, 52, 53, 54, 55, 56, 57] : List UInt8) al _ _ a.fz) ?_; intro aH aI R S
   refine bt R S 2 [] [45] [(2, .bool ((trimS u0 ([97, 98, 99, 100, 101, 102, 103, 104, 105, 106, 107, 108, 109, 110, 111, 112, 113, 114, 115, 116, 117, 118, 119, 120, 121, 122, 65, 66, 67, 68, 69, 70, 71, 72, 73, 74, 75, 76, 77, 78, 79, 80, 81, 82, 83, 84, 85, 86, 87, 88, 89, 90, 48, 49, 50, 51, 52, 53, 54, 55, 56, 57] : List UInt8)) == ([] : List UInt8)))] ?_; intro aJ an
   apply P
   exact r_ (ra1 an (.bool ((trimS u0 ([97, 98, 99, 100, 101, 102, 103, 104, 105, 106, 107, 108, 109, 110, 111, 112, 113, 114, 115, 116, 117, 118, 119, 120, 121, 122, 65, 66, 67, 68, 69, 70, 71, 72, 73, 74, 75, 76, 77, 78, 79, 80, 81, 82, 83, 84, 85, 86, 87, 88, 89, 90, 48, 49, 50, 51, 52, 53, 54, 55, 56, 57] : List UInt8)) == ([] : List UInt8))) ⟨(trimS u0 ([97, 98, 99, 100, 101, 102, 103, 104, 105, 106, 107, 108, 109, 110, 111, 112, 113, 114, 115, 116, 117, 118, 119, 120, 121, 122, 65, 66, 67, 68, 69, 70, 71, 72, 73, 74, 75, 76, 77, 78, 79, 80, 81, 82, 83, 84, 85, 86, 87, 88, 89, 90, 48, 49, 50, 51, 52, 53, 54, 55, 56, 57] : List UInt8)) == ([] : List UInt8), rfl, am, S.below⟩)

theorem rsetraw_walk (u0 : Signal) (u1 : List Int) (u2 : Int) (ao1 : Option Addr) (cap2 : Nat) (Z : Fz) (w : World) (hs3 : SlR t8 Z ao1 cap2 u1) (hZ : Z.on w) {K : (List Int) → Prop} (hp : rsetraw_vc u0 u1 u2 K) : Calls Tryd.prog 17 #[.agg #[str u0.Name, i6 u0.Start, i6 u0.Size, .bool u0.Back, .bool u0.Signed, i6 u0.Mul, i6 u0.Div, i6 u0.Add, i6 u0.Key], .slice ao1 u1.length cap2, i6 u2] w fun e w' => ∃ (r : (List Int)) (ao1001 : Option Addr) (cap1002 : Nat) (Z' : Fz), e = .returned (.slice ao1001 r.length cap1002) ∧ K r ∧ Mem w.heap.size [] w Z [.own t8 5 ao1001 cap1002 r] Z' w' := by
 refine enter0 Tryd.func17 rfl rfl (by kernel_rfl) ?_; intro a0 N; have O := Mem.start w Z hZ
 have a3 := hp (hs3.small)
 refine sqH ?_; intro a4 P
 refine nw N O pb (e23Q u0) 23 ?_; intro n a7 cj Q F
 refine s1 Q 6 (.slice none 0 0) ?_; intro cl R
 apply P
 refine sqH ?_; intro a5 S
 refine s1 R 11 (.slice ao1 u1.length cap2) ?_; intro cm U
 obtain ⟨a6, V⟩ := a3
 refine ck U 12 #[.slice ao1 u1.length cap2] ?_
 refine (bclone_fun u1 a6 ao1 cap2 _ _ hs3 F.fz).mono ?_; rintro _ a8 ⟨h, d, a9, rfl, hm⟩; refine ⟨_, rfl, ?_⟩; intro cn W; have X := F.callZ hm
 have y : Mem w.heap.size [] w Z [.own t8 5 h d (bcloneS u1), .row n (e23Q u0) 23] a9 a8 := X
 have ba := V (y.ownSmall 0 rfl)
 refine s1 W 7 (.slice h (bcloneS u1).length d) ?_; intro co aa
 apply S
 refine s_ (sqH ?_); intro bb ab
 refine l2 aa y 13 1 0 9 (e23Q u0) rfl rfl ?_; intro cp ac
 obtain ⟨bc, ad⟩ := ba
 refine ck ac 25 #[.agg (e23Q u0).toArray] ?_
 refine (rplaces_fun u0 bc _ _ y.fz).mono ?_; rintro _ ae ⟨l, m, bd, rfl, hm⟩; refine ⟨_, rfl, ?_⟩; intro cq af; have ag := y.callZ hm
 have G : Mem w.heap.size [] w Z [.own t6 3 l m (placesS u0), .own t8 5 h d (bcloneS u1), .row n (e23Q u0) 23] bd ae := ag
 have be := ad (G.ownSmall 0 rfl)
 refine bt af G 2 [] [] [(15, i6 ((placesS u0).length : Int)), (16, i6 0)] ?_; intro ai aj
 apply ab
 apply b_
 have ak : Fr 48 [] [⟨2, [], i6 u2⟩, ⟨7, [], .slice h (bcloneS u1).length d⟩, ⟨14, [], .slice l (placesS u0).length m⟩, ⟨15, [], i6 ((placesS u0).length : Int)⟩, ⟨16, [], i6 0⟩] ai := aj.reg
 obtain ⟨o, al, am, bf⟩ := G.freeze 0 rfl
 have an : Mem w.heap.size [] w Z [.own t8 5 h d (bcloneS u1), .row n (e23Q u0) 23] o ae := am
 have ao : Fr 48 [] [⟨2, [], i6 u2⟩, ⟨7, [], .slice h (bcloneS u1).length d⟩, ⟨14, [], .slice l (placesS u0).length m⟩, ⟨15, [], i6 ((placesS u0).length : Int)⟩, ⟨16, [], i6 0⟩] ai := ak.reg
 obtain ⟨bg, bh, bi, bj⟩ := be
 refine lp (ι := Int × (List Int)) (fun s => [⟨2, [], i6 u2⟩, ⟨7, [], .slice h s.2.length d⟩, ⟨14, [], .slice l (placesS u0).length m⟩, ⟨15, [], i6 ((placesS u0).length : Int)⟩, ⟨16, [], i6 s.1⟩]) (fun s => [.own t8 5 h d s.2, .row n (e23Q u0) 23]) (fun s => o) (fun s => bg s.1 s.2) (fun s => bh s.1 s.2) ⟨0, (bcloneS u1)⟩ bi (by exact ao.region (by kernel_rfl) (by kernel_rfl)) (by exact an) ?_
 rintro ⟨b, c⟩ bk bl bm ap aq
 have B := bj b c bk
 refine sqB ap aq [] [] [(17, .bool (decide (b < ((placesS u0).length : Int))))] ?_; intro au z
 apply s_
 refine cd z (t := decide (b < ((placesS u0).length : Int))) (by kernel_rfl) (fun H => ?_) (fun H => ?_)
 · -- yes
  have bn := B.1 H
  apply k_
  have av : Fr 48 [] [⟨2, [], i6 u2⟩, ⟨7, [], .slice h c.length d⟩, ⟨14, [], .slice l (placesS u0).length m⟩, ⟨15, [], i6 ((placesS u0).length : Int)⟩, ⟨16, [], i6 b⟩] au := z.reg
  obtain ⟨bo, bp, bq⟩ := bn
  refine wp_seq_k fun KJ78 hKJ79 => ?_
  have aw : ∀ (q : List Int), bo q → ∀ a1 w1, Fr 48 [] [⟨2, [], i6 u2⟩, ⟨7, [], .slice h q.length d⟩, ⟨14, [], .slice l (placesS u0).length m⟩, ⟨15, [], i6 ((placesS u0).length : Int)⟩, ⟨16, [], i6 b⟩] a1 → Mem w.heap.size [] w Z [.own t8 5 h d q, .row n (e23Q u0) 23] o w1 → KJ78 a1 w1 := by
   rintro q br cr cs ax ay
   refine hKJ79 _ _ ?_
   have az := bq q br
   refine rgB ax ay [] [] [(16, i6 (w64 (b + 1)))] ?_; intro ct bs
   exact d_ ⟨⟨w64 (b + 1), q⟩, az.1, az.2, (bs.region (by kernel_rfl) (by kernel_rfl)).anyβ _ (by kernel_rfl), ay.kp⟩
  refine b_ (sqH ?_); intro bu aA
  refine s1 av 18 (i6 b) ?_; intro cu aB
  obtain ⟨bv, aC⟩ := bp
  refine ix_ aB bf b bv .i64 3 8 ?_; intro aD aE bw a cv bx bz bA aF
  have bB := aC a bx
  obtain rfl : bw = ([i6 a] : List Value) := bA
  refine z1 aF aq 20 bz 0 (i6 a) rfl ?_; intro cw aG
  refine bt aG aq 2 [] [] [(8, i6 b), (9, i6 a)] ?_; intro cx aH
  apply aA
  refine sqH ?_; intro bC aI
  refine bt aH aq 2 [] [] [(22, i6 (a.tmod 8))] ?_; intro cy J
  obtain ⟨bD, bE⟩ := bB
  refine u_ J (y8 (bShl .u8 1 (a.tmod 8))) (shl_run J (g := []) (k' := .i64) rfl (by kernel_rfl) (by kernel_rfl) bD rfl) ?_; intro cz aJ
  refine s1 aJ 10 (y8 (bShl .u8 1 (a.tmod 8))) ?_; intro cA aK
  apply aI
  refine sqH ?_; intro bF aL
  refine bt aK aq 2 [] [] [(24, i6 u2), (25, i6 b)] ?_; intro cB L
  obtain ⟨bG, C⟩ := bE
  refine u_ L (i6 (bShr .i64 u2 b)) (shr_run L (g := []) (k' := .i64) rfl (by kernel_rfl) (by kernel_rfl) bG rfl) ?_; intro cC aM
  refine bt aM aq 2 [] [] [(28, .bool ((bAnd .i64 (bShr .i64 u2 b) 1) == 1))] ?_; intro cD A
  apply aL
  refine cd A (t := (bAnd .i64 (bShr .i64 u2 b) 1) == 1) (by kernel_rfl) (fun M => ?_) (fun M => ?_)
  · -- yes
   have bH := C.1 M
   refine rgH ?_; intro bI aN
   refine bt A aq 3 [] [] [(29, .slice h c.length d), (31, i6 (w64 (a.tdiv 8)))] ?_; intro cE aO
   obtain ⟨bJ, aP⟩ := bH
   refine ixo aO aq 0 (T := t8) (xs := c) (w64 (a.tdiv 8)) bJ (k := .i64) (e := 5) (bytes := 1) (nog rfl _) rfl (by kernel_rfl) rfl (by kernel_rfl) (by kernel_rfl) rfl (by kernel_rfl) ?_; intro v cF bK aQ
   subst bK
   obtain ⟨i, bL, bM⟩ := gxq aP (by first | omega | (simp only [List.length_set] at *; omega))
   obtain ⟨bN, bO, bP⟩ := own_el aq 0 (T := t8) (xs := c) rfl (w64 (a.tdiv 8)).toNat bL
   obtain rfl : bN = ([y8 i] : List Value) := bO
   refine lc1 aQ 33 (y8 i) (bP 0 _ rfl) rfl ?_; intro cG aR
   refine bt aR aq 2 [] [] [(35, y8 (bOr .u8 i (bShl .u8 1 (a.tmod 8))))] ?_; intro cH aS
   obtain ⟨bQ, bR⟩ := bM
   refine ixo aS aq 0 (T := t8) (xs := c) (w64 (a.tdiv 8)) bQ (k := .i64) (e := 5) (bytes := 1) (nog rfl _) rfl (by kernel_rfl) rfl (by kernel_rfl) (by kernel_rfl) rfl (by kernel_rfl) ?_; intro bS bT bU D
   obtain rfl : v = bS := by simpa using bU
   refine so D aq 0 (T := t8) (xs := c) (w64 (a.tdiv 8)).toNat (bOr .u8 i (bShl .u8 1 (a.tmod 8))) (u := y8 (bOr .u8 i (bShl .u8 1 (a.tmod 8)))) (nog rfl _) rfl rfl (by kernel_rfl) rfl (by kernel_rfl) rfl (by kernel_rfl) (by first | omega | (simp only [List.length_set] at *; omega)) rfl ?_; intro bV aT
   have bW : Fr 48 [] [⟨2, [], i6 u2⟩, ⟨7, [], .slice (sm v) (c.set (w64 (a.tdiv 8)).toNat (bOr .u8 i (bShl .u8 1 (a.tmod 8)))).length d⟩, ⟨8, [], i6 b⟩, ⟨9, [], i6 a⟩, ⟨10, [], y8 (bShl .u8 1 (a.tmod 8))⟩, ⟨14, [], .slice l (placesS u0).length m⟩, ⟨15, [], i6 ((placesS u0).length : Int)⟩, ⟨16, [], i6 b⟩, ⟨18, [], i6 b⟩, ⟨19, [], pt aD aE⟩, ⟨20, [], i6 a⟩, ⟨22, [], i6 (a.tmod 8)⟩, ⟨23, [], y8 (bShl .u8 1 (a.tmod 8))⟩, ⟨24, [], i6 u2⟩, ⟨25, [], i6 b⟩, ⟨26, [], i6 (bShr .i64 u2 b)⟩, ⟨28, [], .bool ((bAnd .i64 (bShr .i64 u2 b) 1) == 1)⟩, ⟨29, [], .slice (sm v) (c.set (w64 (a.tdiv 8)).toNat (bOr .u8 i (bShl .u8 1 (a.tmod 8)))).length d⟩, ⟨31, [], i6 (w64 (a.tdiv 8))⟩, ⟨32, [], .pointer (some ⟨v, (w64 (a.tdiv 8)).toNat * 1, none⟩)⟩, ⟨33, [], y8 i⟩, ⟨35, [], y8 (bOr .u8 i (bShl .u8 1 (a.tmod 8)))⟩, ⟨36, [], .pointer (some ⟨v, (w64 (a.tdiv 8)).toNat * 1, none⟩)⟩] bT := by (try simp only [List.length_set] at D); (try simp only [List.length_set]); exact D.region (by kernel_rfl) (by kernel_rfl)
   have bX : Mem w.heap.size [] w Z [.own t8 5 (sm v) d (c.set (w64 (a.tdiv 8)).toNat (bOr .u8 i (bShl .u8 1 (a.tmod 8)))), .row n (e23Q u0) 23] o bV := aT
   apply aN
   exact j_ (d_ (aw (c.set (w64 (a.tdiv 8)).toNat (bOr .u8 i (bShl .u8 1 (a.tmod 8)))) bR _ _ ((bW.region (by kernel_rfl) (by kernel_rfl)).anyβ _ (by kernel_rfl)) (bX.kp)))
  · -- no
   have bY := C.2 M
   refine rgH ?_; intro bZ aU
   refine bt A aq 3 [] [] [(37, .slice h c.length d), (39, i6 (w64 (a.tdiv 8)))] ?_; intro cI aV
   obtain ⟨b0, aW⟩ := bY
   refine ixo aV aq 0 (T := t8) (xs := c) (w64 (a.tdiv 8)) b0 (k := .i64) (e := 5) (bytes := 1) (nog rfl _) rfl (by kernel_rfl) rfl (by kernel_rfl) (by kernel_rfl) rfl (by kernel_rfl) ?_; intro x cJ b1 aX
   subst b1
   obtain ⟨j, b2, b3⟩ := gxq aW (by first | omega | (simp only [List.length_set] at *; omega))
   obtain ⟨b4, b5, b7⟩ := own_el aq 0 (T := t8) (xs := c) rfl (w64 (a.tdiv 8)).toNat b2
   obtain rfl : b4 = ([y8 j] : List Value) := b5
   refine lc1 aX 41 (y8 j) (b7 0 _ rfl) rfl ?_; intro cK aY
   refine bt aY aq 3 [] [] [(44, y8 (bAnd .u8 j (w8 (255 - (bShl .u8 1 (a.tmod 8))))))] ?_; intro cL aZ
   obtain ⟨b8, b9⟩ := b3
   refine ixo aZ aq 0 (T := t8) (xs := c) (w64 (a.tdiv 8)) b8 (k := .i64) (e := 5) (bytes := 1) (nog rfl _) rfl (by kernel_rfl) rfl (by kernel_rfl) (by kernel_rfl) rfl (by kernel_rfl) ?_; intro ca cb cc E
   obtain rfl : x = ca := by simpa using cc
   refine so E aq 0 (T := t8) (xs := c) (w64 (a.tdiv 8)).toNat (bAnd .u8 j (w8 (255 - (bShl .u8 1 (a.tmod 8))))) (u := y8 (bAnd .u8 j (w8 (255 - (bShl .u8 1 (a.tmod 8)))))) (nog rfl _) rfl rfl (by kernel_rfl) rfl (by kernel_rfl) rfl (by kernel_rfl) (by first | omega | (simp only [List.length_set] at *; omega)) rfl ?_; intro ce a2
   have cf : Fr 48 [] [⟨2, [], i6 u2⟩, ⟨7, [], .slice (sm x) (c.set (w64 (a.tdiv 8)).toNat (bAnd .u8 j (w8 (255 - (bShl .u8 1 (a.tmod 8)))))).length d⟩, ⟨8, [], i6 b⟩, ⟨9, [], i6 a⟩, ⟨10, [], y8 (bShl .u8 1 (a.tmod 8))⟩, ⟨14, [], .slice l (placesS u0).length m⟩, ⟨15, [], i6 ((placesS u0).length : Int)⟩, ⟨16, [], i6 b⟩, ⟨18, [], i6 b⟩, ⟨19, [], pt aD aE⟩, ⟨20, [], i6 a⟩, ⟨22, [], i6 (a.tmod 8)⟩, ⟨23, [], y8 (bShl .u8 1 (a.tmod 8))⟩, ⟨24, [], i6 u2⟩, ⟨25, [], i6 b⟩, ⟨26, [], i6 (bShr .i64 u2 b)⟩, ⟨28, [], .bool ((bAnd .i64 (bShr .i64 u2 b) 1) == 1)⟩, ⟨37, [], .slice (sm x) (c.set (w64 (a.tdiv 8)).toNat (bAnd .u8 j (w8 (255 - (bShl .u8 1 (a.tmod 8)))))).length d⟩, ⟨39, [], i6 (w64 (a.tdiv 8))⟩, ⟨40, [], .pointer (some ⟨x, (w64 (a.tdiv 8)).toNat * 1, none⟩)⟩, ⟨41, [], y8 j⟩, ⟨44, [], y8 (bAnd .u8 j (w8 (255 - (bShl .u8 1 (a.tmod 8)))))⟩, ⟨45, [], .pointer (some ⟨x, (w64 (a.tdiv 8)).toNat * 1, none⟩)⟩] cb := by (try simp only [List.length_set] at E); (try simp only [List.length_set]); exact E.region (by kernel_rfl) (by kernel_rfl)
   have cg : Mem w.heap.size [] w Z [.own t8 5 (sm x) d (c.set (w64 (a.tdiv 8)).toNat (bAnd .u8 j (w8 (255 - (bShl .u8 1 (a.tmod 8)))))), .row n (e23Q u0) 23] o ce := a2
   apply aU
   exact j_ (d_ (aw (c.set (w64 (a.tdiv 8)).toNat (bAnd .u8 j (w8 (255 - (bShl .u8 1 (a.tmod 8)))))) b9 _ _ ((cf.region (by kernel_rfl) (by kernel_rfl)).anyβ _ (by kernel_rfl)) (cg.kp)))
 · -- no
  have ch := B.2 H
  refine x_ (y_ (y_ (z_ (t_ (sqB z aq [] [] [(6, .slice h c.length d)] ?_))))); intro cM ci
  exact r_ (ra1 ci (.slice h c.length d) ⟨c, h, d, o, rfl, ch, aq.kp⟩)

end Go.Proofs.YtdndfbamhnchfaaDoor
set_option linter.unusedVariables false
set_option linter.unusedSimpArgs false
set_option linter.defProp false
set_option maxRecDepth 100000
set_option maxHeartbeats 0
namespace Go.Proofs.YtdndfbamhnchfaaDoor
open Go.Sy Go.RowKit
abbrev e23Rr (X : Signal) : List Value := [str X.Name, i6 X.Start, i6 X.Size, .bool X.Back, .bool X.Signed, i6 X.Mul, i6 X.Div, i6 X.Add, i6 X.Key]
def risname_fun (u0 : List UInt8)  (Z : Fz) (w : World)  (hZ : Z.on w) := f_ (risname_walk u0  Z w  hZ (risname_ok u0))
theorem rcheck_walk (u0 : Signal) (u1 : Int)  (Z : Fz) (w : World)  (hZ : Z.on w) {K : Int → Prop} (hp : rcheck_vc u0 u1 K) : Calls Tryd.prog 8 #[.agg #[str u0.Name, i6 u0.Start, i6 u0.Size, .bool u0.Back, .bool u0.Signed, i6 u0.Mul, i6 u0.Div, i6 u0.Add, i6 u0.Key], i6 u1] w fun e w' => ∃ r : Int, e = .returned (i6 r) ∧ K r ∧ Below w.heap.size w w' := by
 refine enter0 Tryd.func8 rfl rfl (by kernel_rfl) ?_; intro a0 af; have ag := Mem.start w Z hZ
 refine sqH ?_; intro bx ah
 refine nw af ag pb (e23Rr u0) 23 ?_; intro a a3 ca ai A
 refine s1 ai 4 (i6 0) ?_; intro a7 aj
 apply ah
 refine s_ (sqH ?_); intro bz ak
 refine bt aj A 2 [0] [] [(9, str u0.Name)] ?_; intro cb al
 refine fc al A (risname_fun u0.Name _ _ A.fz) ?_; intro cc ce am d
 refine s1 am 11 (.bool (!(nameS u0.Name))) ?_; intro cf l
 apply ak
 refine cd l (t := !(nameS u0.Name)) (by kernel_rfl) (fun J => ?_) (fun J => ?_)
 · -- yes
  have bA := hp.1 J
  refine sqB l d [] [] [(4, i6 1)] ?_; intro cg bB
  exact r_ (h_ (ra1 bB (i6 1) ⟨1, rfl, bA, d.below⟩))
 · -- no
  have B := hp.2 J
  refine k_ (sqB l d [] [] [(5, .func (.func 37) #[] #[])] ?_); intro ch an
  refine s_ (sqH ?_); intro bC ao
  refine bt an d 2 [] [] [(12, .func (.func 37) #[] #[]), (13, i6 u1)] ?_; intro ci ap
  refine fc ap d (rin_fun u1 0 64 _ _ d.fz) ?_; intro cl cm aq C
  refine s1 aq 15 (.bool (!(rin u1 0 64))) ?_; intro cn ar
  refine s1 ar 16 (.bool (!(rin u1 0 64))) ?_; intro co au
  have av := au.atom ((!(rin u1 0 64)) == false) (by kernel_rfl)
  refine gp av 17 0 [] (!(rin u1 0 64)) (.func (.func 37) #[] #[]) rfl rfl ?_; intro cp aw
  refine gp aw 18 0 [] (!(rin u1 0 64)) (pt a 2) rfl rfl ?_; intro cq L
  refine gd L (i6 u0.Size) (m := 0) (cj := []) (bj := !(rin u1 0 64)) rfl rfl (by kernel_rfl) rfl (by kernel_rfl) (by kernel_rfl) (by kernel_rfl) (fun hg => ld L C 0 (g := [0]) (b := a) (off := 2) (cs := (e23Rr u0)) (ty := 23) rfl (by kernel_rfl) (by kernel_rfl) (by kernel_rfl) (by kernel_rfl) hg) ?_; intro cr ax
  refine gcl ax C (.bool (rin u0.Size 1 40)) 37 #[i6 u0.Size, i6 1, i6 40] (m := 0) (cj := []) (bj := !(rin u1 0 64)) rfl rfl (by kernel_rfl) rfl (by kernel_rfl) (by kernel_rfl) (by kernel_rfl) (fun _ => by kernel_rfl) (fun hg => rin_fun u0.Size 1 40 _ _ C.fz) ?_; intro ct cu ay n
  refine gp ay 21 0 [] (!(rin u1 0 64)) (.bool (!(rin u0.Size 1 40))) rfl rfl ?_; intro cv M
  refine u_ M (.bool ((!(rin u1 0 64)) || (!(rin u0.Size 1 40)))) (pk_or M (g := []) (m := 0) (b := !(rin u1 0 64)) (v := !(rin u0.Size 1 40)) rfl (by kernel_rfl) (by kernel_rfl) (by kernel_rfl) rfl) ?_; intro cw az
  refine s1 az 23 (.bool ((!(rin u1 0 64)) || (!(rin u0.Size 1 40)))) ?_; intro cx aA
  have aB := aA.atom (((!(rin u1 0 64)) || (!(rin u0.Size 1 40))) == false) (by kernel_rfl)
  refine gp aB 24 1 [] ((!(rin u1 0 64)) || (!(rin u0.Size 1 40))) (pt a 5) rfl rfl ?_; intro cy N
  refine gd N (i6 u0.Mul) (m := 1) (cj := []) (bj := (!(rin u1 0 64)) || (!(rin u0.Size 1 40))) rfl rfl (by kernel_rfl) rfl (by kernel_rfl) (by kernel_rfl) (by kernel_rfl) (fun hg => ld N n 0 (g := [1]) (b := a) (off := 5) (cs := (e23Rr u0)) (ty := 23) rfl (by kernel_rfl) (by kernel_rfl) (by kernel_rfl) (by kernel_rfl) hg) ?_; intro cz aC
  refine gp aC 26 1 [] ((!(rin u1 0 64)) || (!(rin u0.Size 1 40))) (.bool (u0.Mul == 0)) rfl rfl ?_; intro cA O
  refine u_ O (.bool (((!(rin u1 0 64)) || (!(rin u0.Size 1 40))) || (u0.Mul == 0))) (pk_or O (g := []) (m := 1) (b := (!(rin u1 0 64)) || (!(rin u0.Size 1 40))) (v := u0.Mul == 0) rfl (by kernel_rfl) (by kernel_rfl) (by kernel_rfl) rfl) ?_; intro cB aD
  refine s1 aD 28 (.bool (((!(rin u1 0 64)) || (!(rin u0.Size 1 40))) || (u0.Mul == 0))) ?_; intro cC aE
  have aF := aE.atom ((((!(rin u1 0 64)) || (!(rin u0.Size 1 40))) || (u0.Mul == 0)) == false) (by kernel_rfl)
  refine gp aF 29 2 [] (((!(rin u1 0 64)) || (!(rin u0.Size 1 40))) || (u0.Mul == 0)) (.func (.func 37) #[] #[]) rfl rfl ?_; intro cD aG
  refine gp aG 30 2 [] (((!(rin u1 0 64)) || (!(rin u0.Size 1 40))) || (u0.Mul == 0)) (pt a 5) rfl rfl ?_; intro cE P
  refine gd P (i6 u0.Mul) (m := 2) (cj := []) (bj := ((!(rin u1 0 64)) || (!(rin u0.Size 1 40))) || (u0.Mul == 0)) rfl rfl (by kernel_rfl) rfl (by kernel_rfl) (by kernel_rfl) (by kernel_rfl) (fun hg => ld P n 0 (g := [2]) (b := a) (off := 5) (cs := (e23Rr u0)) (ty := 23) rfl (by kernel_rfl) (by kernel_rfl) (by kernel_rfl) (by kernel_rfl) hg) ?_; intro cF aH
  refine gcl aH n (.bool (rin u0.Mul (-1000000) 1000000)) 37 #[i6 u0.Mul, i6 (-1000000), i6 1000000] (m := 2) (cj := []) (bj := ((!(rin u1 0 64)) || (!(rin u0.Size 1 40))) || (u0.Mul == 0)) rfl rfl (by kernel_rfl) rfl (by kernel_rfl) (by kernel_rfl) (by kernel_rfl) (fun _ => by kernel_rfl) (fun hg => rin_fun u0.Mul (-1000000) 1000000 _ _ n.fz) ?_; intro cG cH aI D
  refine gp aI 33 2 [] (((!(rin u1 0 64)) || (!(rin u0.Size 1 40))) || (u0.Mul == 0)) (.bool (!(rin u0.Mul (-1000000) 1000000))) rfl rfl ?_; intro cI Q
  refine u_ Q (.bool ((((!(rin u1 0 64)) || (!(rin u0.Size 1 40))) || (u0.Mul == 0)) || (!(rin u0.Mul (-1000000) 1000000)))) (pk_or Q (g := []) (m := 2) (b := ((!(rin u1 0 64)) || (!(rin u0.Size 1 40))) || (u0.Mul == 0)) (v := !(rin u0.Mul (-1000000) 1000000)) rfl (by kernel_rfl) (by kernel_rfl) (by kernel_rfl) rfl) ?_; intro cJ aJ
  refine s1 aJ 35 (.bool ((((!(rin u1 0 64)) || (!(rin u0.Size 1 40))) || (u0.Mul == 0)) || (!(rin u0.Mul (-1000000) 1000000)))) ?_; intro cK aK
  have aL := aK.atom (((((!(rin u1 0 64)) || (!(rin u0.Size 1 40))) || (u0.Mul == 0)) || (!(rin u0.Mul (-1000000) 1000000))) == false) (by kernel_rfl)
  refine gp aL 36 3 [] ((((!(rin u1 0 64)) || (!(rin u0.Size 1 40))) || (u0.Mul == 0)) || (!(rin u0.Mul (-1000000) 1000000))) (.func (.func 37) #[] #[]) rfl rfl ?_; intro cL aM
  refine gp aM 37 3 [] ((((!(rin u1 0 64)) || (!(rin u0.Size 1 40))) || (u0.Mul == 0)) || (!(rin u0.Mul (-1000000) 1000000))) (pt a 6) rfl rfl ?_; intro cM R
  refine gd R (i6 u0.Div) (m := 3) (cj := []) (bj := (((!(rin u1 0 64)) || (!(rin u0.Size 1 40))) || (u0.Mul == 0)) || (!(rin u0.Mul (-1000000) 1000000))) rfl rfl (by kernel_rfl) rfl (by kernel_rfl) (by kernel_rfl) (by kernel_rfl) (fun hg => ld R D 0 (g := [3]) (b := a) (off := 6) (cs := (e23Rr u0)) (ty := 23) rfl (by kernel_rfl) (by kernel_rfl) (by kernel_rfl) (by kernel_rfl) hg) ?_; intro cN aN
  refine gcl aN D (.bool (rin u0.Div 1 1000000)) 37 #[i6 u0.Div, i6 1, i6 1000000] (m := 3) (cj := []) (bj := (((!(rin u1 0 64)) || (!(rin u0.Size 1 40))) || (u0.Mul == 0)) || (!(rin u0.Mul (-1000000) 1000000))) rfl rfl (by kernel_rfl) rfl (by kernel_rfl) (by kernel_rfl) (by kernel_rfl) (fun _ => by kernel_rfl) (fun hg => rin_fun u0.Div 1 1000000 _ _ D.fz) ?_; intro cO cP aO E
  refine gp aO 40 3 [] ((((!(rin u1 0 64)) || (!(rin u0.Size 1 40))) || (u0.Mul == 0)) || (!(rin u0.Mul (-1000000) 1000000))) (.bool (!(rin u0.Div 1 1000000))) rfl rfl ?_; intro cQ S
  refine u_ S (.bool (((((!(rin u1 0 64)) || (!(rin u0.Size 1 40))) || (u0.Mul == 0)) || (!(rin u0.Mul (-1000000) 1000000))) || (!(rin u0.Div 1 1000000)))) (pk_or S (g := []) (m := 3) (b := (((!(rin u1 0 64)) || (!(rin u0.Size 1 40))) || (u0.Mul == 0)) || (!(rin u0.Mul (-1000000) 1000000))) (v := !(rin u0.Div 1 1000000)) rfl (by kernel_rfl) (by kernel_rfl) (by kernel_rfl) rfl) ?_; intro cR aP
  refine s1 aP 42 (.bool (((((!(rin u1 0 64)) || (!(rin u0.Size 1 40))) || (u0.Mul == 0)) || (!(rin u0.Mul (-1000000) 1000000))) || (!(rin u0.Div 1 1000000)))) ?_; intro cS aQ
  have aR := aQ.atom ((((((!(rin u1 0 64)) || (!(rin u0.Size 1 40))) || (u0.Mul == 0)) || (!(rin u0.Mul (-1000000) 1000000))) || (!(rin u0.Div 1 1000000))) == false) (by kernel_rfl)
  refine gp aR 43 4 [] (((((!(rin u1 0 64)) || (!(rin u0.Size 1 40))) || (u0.Mul == 0)) || (!(rin u0.Mul (-1000000) 1000000))) || (!(rin u0.Div 1 1000000))) (.func (.func 37) #[] #[]) rfl rfl ?_; intro cT aS
  refine gp aS 44 4 [] (((((!(rin u1 0 64)) || (!(rin u0.Size 1 40))) || (u0.Mul == 0)) || (!(rin u0.Mul (-1000000) 1000000))) || (!(rin u0.Div 1 1000000))) (pt a 7) rfl rfl ?_; intro cU U
  refine gd U (i6 u0.Add) (m := 4) (cj := []) (bj := ((((!(rin u1 0 64)) || (!(rin u0.Size 1 40))) || (u0.Mul == 0)) || (!(rin u0.Mul (-1000000) 1000000))) || (!(rin u0.Div 1 1000000))) rfl rfl (by kernel_rfl) rfl (by kernel_rfl) (by kernel_rfl) (by kernel_rfl) (fun hg => ld U E 0 (g := [4]) (b := a) (off := 7) (cs := (e23Rr u0)) (ty := 23) rfl (by kernel_rfl) (by kernel_rfl) (by kernel_rfl) (by kernel_rfl) hg) ?_; intro cV aT
  refine gcl aT E (.bool (rin u0.Add (-1000000) 1000000)) 37 #[i6 u0.Add, i6 (-1000000), i6 1000000] (m := 4) (cj := []) (bj := ((((!(rin u1 0 64)) || (!(rin u0.Size 1 40))) || (u0.Mul == 0)) || (!(rin u0.Mul (-1000000) 1000000))) || (!(rin u0.Div 1 1000000))) rfl rfl (by kernel_rfl) rfl (by kernel_rfl) (by kernel_rfl) (by kernel_rfl) (fun _ => by kernel_rfl) (fun hg => rin_fun u0.Add (-1000000) 1000000 _ _ E.fz) ?_; intro cW cX aU F
  refine gp aU 47 4 [] (((((!(rin u1 0 64)) || (!(rin u0.Size 1 40))) || (u0.Mul == 0)) || (!(rin u0.Mul (-1000000) 1000000))) || (!(rin u0.Div 1 1000000))) (.bool (!(rin u0.Add (-1000000) 1000000))) rfl rfl ?_; intro cY V
  refine u_ V (.bool ((((((!(rin u1 0 64)) || (!(rin u0.Size 1 40))) || (u0.Mul == 0)) || (!(rin u0.Mul (-1000000) 1000000))) || (!(rin u0.Div 1 1000000))) || (!(rin u0.Add (-1000000) 1000000)))) (pk_or V (g := []) (m := 4) (b := ((((!(rin u1 0 64)) || (!(rin u0.Size 1 40))) || (u0.Mul == 0)) || (!(rin u0.Mul (-1000000) 1000000))) || (!(rin u0.Div 1 1000000))) (v := !(rin u0.Add (-1000000) 1000000)) rfl (by kernel_rfl) (by kernel_rfl) (by kernel_rfl) rfl) ?_; intro cZ aV
  refine s1 aV 49 (.bool ((((((!(rin u1 0 64)) || (!(rin u0.Size 1 40))) || (u0.Mul == 0)) || (!(rin u0.Mul (-1000000) 1000000))) || (!(rin u0.Div 1 1000000))) || (!(rin u0.Add (-1000000) 1000000)))) ?_; intro c0 aW
  have aX := aW.atom (((((((!(rin u1 0 64)) || (!(rin u0.Size 1 40))) || (u0.Mul == 0)) || (!(rin u0.Mul (-1000000) 1000000))) || (!(rin u0.Div 1 1000000))) || (!(rin u0.Add (-1000000) 1000000))) == false) (by kernel_rfl)
  refine gp aX 50 5 [] ((((((!(rin u1 0 64)) || (!(rin u0.Size 1 40))) || (u0.Mul == 0)) || (!(rin u0.Mul (-1000000) 1000000))) || (!(rin u0.Div 1 1000000))) || (!(rin u0.Add (-1000000) 1000000))) (.func (.func 37) #[] #[]) rfl rfl ?_; intro c1 aY
  refine gp aY 51 5 [] ((((((!(rin u1 0 64)) || (!(rin u0.Size 1 40))) || (u0.Mul == 0)) || (!(rin u0.Mul (-1000000) 1000000))) || (!(rin u0.Div 1 1000000))) || (!(rin u0.Add (-1000000) 1000000))) (pt a 8) rfl rfl ?_; intro c2 W
  refine gd W (i6 u0.Key) (m := 5) (cj := []) (bj := (((((!(rin u1 0 64)) || (!(rin u0.Size 1 40))) || (u0.Mul == 0)) || (!(rin u0.Mul (-1000000) 1000000))) || (!(rin u0.Div 1 1000000))) || (!(rin u0.Add (-1000000) 1000000))) rfl rfl (by kernel_rfl) rfl (by kernel_rfl) (by kernel_rfl) (by kernel_rfl) (fun hg => ld W F 0 (g := [5]) (b := a) (off := 8) (cs := (e23Rr u0)) (ty := 23) rfl (by kernel_rfl) (by kernel_rfl) (by kernel_rfl) (by kernel_rfl) hg) ?_; intro c3 aZ
  refine gcl aZ F (.bool (rin u0.Key (-1) 255)) 37 #[i6 u0.Key, i6 (-1), i6 255] (m := 5) (cj := []) (bj := (((((!(rin u1 0 64)) || (!(rin u0.Size 1 40))) || (u0.Mul == 0)) || (!(rin u0.Mul (-1000000) 1000000))) || (!(rin u0.Div 1 1000000))) || (!(rin u0.Add (-1000000) 1000000))) rfl rfl (by kernel_rfl) rfl (by kernel_rfl) (by kernel_rfl) (by kernel_rfl) (fun _ => by kernel_rfl) (fun hg => rin_fun u0.Key (-1) 255 _ _ F.fz) ?_; intro c4 c5 a1 h
  refine gp a1 54 5 [] ((((((!(rin u1 0 64)) || (!(rin u0.Size 1 40))) || (u0.Mul == 0)) || (!(rin u0.Mul (-1000000) 1000000))) || (!(rin u0.Div 1 1000000))) || (!(rin u0.Add (-1000000) 1000000))) (.bool (!(rin u0.Key (-1) 255))) rfl rfl ?_; intro c6 X
  refine u_ X (.bool (((((((!(rin u1 0 64)) || (!(rin u0.Size 1 40))) || (u0.Mul == 0)) || (!(rin u0.Mul (-1000000) 1000000))) || (!(rin u0.Div 1 1000000))) || (!(rin u0.Add (-1000000) 1000000))) || (!(rin u0.Key (-1) 255)))) (pk_or X (g := []) (m := 5) (b := (((((!(rin u1 0 64)) || (!(rin u0.Size 1 40))) || (u0.Mul == 0)) || (!(rin u0.Mul (-1000000) 1000000))) || (!(rin u0.Div 1 1000000))) || (!(rin u0.Add (-1000000) 1000000))) (v := !(rin u0.Key (-1) 255)) rfl (by kernel_rfl) (by kernel_rfl) (by kernel_rfl) rfl) ?_; intro a2 o
  apply ao
  refine cd o (t := ((((((!(rin u1 0 64)) || (!(rin u0.Size 1 40))) || (u0.Mul == 0)) || (!(rin u0.Mul (-1000000) 1000000))) || (!(rin u0.Div 1 1000000))) || (!(rin u0.Add (-1000000) 1000000))) || (!(rin u0.Key (-1) 255))) (by kernel_rfl) (fun Y => ?_) (fun Y => ?_)
  · -- yes
   have bD := B.1 Y
   have a4 : Fr 76 [] [] a2 := o.reg
   refine sqB a4 h [] [] [(4, i6 3)] ?_; intro c7 bE
   exact r_ (h_ (ra1 bE (i6 3) ⟨3, rfl, bD, h.below⟩))
  · -- no
   have G := B.2 Y
   refine k_ (s_ ?_)
   have a5 : Fr 76 [] [⟨1, [], i6 u1⟩, ⟨2, [], pt a 0⟩, ⟨5, [], .func (.func 37) #[] #[]⟩] a2 := o.reg
   refine sqH ?_; intro bF a6
   refine bt a5 h 6 [0] [] [(56, .func (.func 37) #[] #[]), (58, i6 u0.Start), (61, i6 (w64 ((w64 (8 * u1)) - 1)))] ?_; intro c8 a8
   refine fc a8 h (rin_fun u0.Start 0 (w64 ((w64 (8 * u1)) - 1)) _ _ h.fz) ?_; intro c9 da a9 i
   refine s1 a9 63 (.bool (!(rin u0.Start 0 (w64 ((w64 (8 * u1)) - 1))))) ?_; intro db p
   apply a6
   refine cd p (t := !(rin u0.Start 0 (w64 ((w64 (8 * u1)) - 1)))) (by kernel_rfl) (fun aa => ?_) (fun aa => ?_)
   · -- yes
    have bG := G.1 aa
    refine sqB p i [] [] [(4, i6 7)] ?_; intro dc bH
    exact r_ (h_ (ra1 bH (i6 7) ⟨7, rfl, bG, i.below⟩))
   · -- no
    have bI := G.2 aa
    refine k_ (s_ (sqH ?_)); intro bJ ba
    refine l2 p i 64 0 0 9 (e23Rr u0) rfl rfl ?_; intro dd bb
    obtain ⟨bK, bc⟩ := bI
    refine ck bb 25 #[.agg (e23Rr u0).toArray] ?_
    refine (rplaces_fun u0 bK _ _ i.fz).mono ?_; rintro _ bd ⟨q, u, bL, rfl, hm⟩; refine ⟨_, rfl, ?_⟩; intro de be; have bf := i.callZ hm
    have ab : Mem w.heap.size [] w Z [.own t6 3 q u (placesS u0), .row a (e23Rr u0) 23] bL bd := bf
    have bN := bc (ab.ownSmall 0 rfl)
    refine bt be ab 2 [] [] [(66, i6 ((placesS u0).length : Int)), (67, i6 0)] ?_; intro bg bh
    apply ba
    apply b_
    have bi : Fr 76 [] [⟨1, [], i6 u1⟩, ⟨65, [], .slice q (placesS u0).length u⟩, ⟨66, [], i6 ((placesS u0).length : Int)⟩, ⟨67, [], i6 0⟩] bg := bh.reg
    obtain ⟨ac, bO, bk, bP⟩ := ab.freeze 0 rfl
    have bl : Mem w.heap.size [] w Z [.row a (e23Rr u0) 23] ac bd := bk
    have bm : Fr 76 [] [⟨1, [], i6 u1⟩, ⟨65, [], .slice q (placesS u0).length u⟩, ⟨66, [], i6 ((placesS u0).length : Int)⟩, ⟨67, [], i6 0⟩] bg := bi.reg
    obtain ⟨bQ, bR, bS, bT⟩ := bN
    refine lp (ι := Int) (fun s => [⟨1, [], i6 u1⟩, ⟨65, [], .slice q (placesS u0).length u⟩, ⟨66, [], i6 ((placesS u0).length : Int)⟩, ⟨67, [], i6 s⟩]) (fun s => [.row a (e23Rr u0) 23]) (fun s => ac) (fun s => bQ s) (fun s => bR s) 0 bS (by exact bm.region (by kernel_rfl) (by kernel_rfl)) (by exact bl) ?_
    rintro f bU bV bW bn bo
    have H := bT f bU
    refine sqB bn bo [] [] [(68, .bool (decide (f < ((placesS u0).length : Int))))] ?_; intro df x
    apply s_
    refine cd x (t := decide (f < ((placesS u0).length : Int))) (by kernel_rfl) (fun ad => ?_) (fun ad => ?_)
    · -- yes
     have bX := H.1 ad
     refine k_ (s_ (b_ (sqH ?_))); intro bY bq
     obtain ⟨bZ, br⟩ := bX
     refine ix_ x bP f bZ .i64 3 8 ?_; intro dg dh b0 j di b1 b3 b4 bs
     have I := br j b1
     obtain rfl : b0 = ([i6 j] : List Value) := b4
     refine z1 bs bo 70 b3 0 (i6 j) rfl ?_; intro dj bu
     refine s1 bu 7 (i6 j) ?_; intro dk bv
     apply bq
     refine sqB bv bo [] [] [(74, .bool (decide (j ≥ (w64 (8 * u1)))))] ?_; intro dl y
     refine cd y (t := decide (j ≥ (w64 (8 * u1)))) (by kernel_rfl) (fun ae => ?_) (fun ae => ?_)
     · -- yes
      have b5 := I.1 ae
      refine sqB y bo [] [] [(4, i6 7)] ?_; intro dm b6
      exact r_ (i_ (h_ (h_ (i_ (h_ (ra1 b6 (i6 7) ⟨7, rfl, b5, bo.below⟩))))))
     · -- no
      have bw := I.2 ae
      refine l_ (j_ (t_ (rgB y bo [] [] [(67, i6 (w64 (f + 1)))] ?_))); intro dn b7
      exact d_ ⟨w64 (f + 1), bw.1, bw.2, (b7.region (by kernel_rfl) (by kernel_rfl)).anyβ _ (by kernel_rfl), bo.kp⟩
    · -- no
     have b8 := H.2 ad
     refine x_ (y_ (y_ (z_ (t_ (sqB x bo [] [] [(4, i6 0)] ?_))))); intro dp b9
     exact r_ (ra1 b9 (i6 0) ⟨0, rfl, b8, bo.below⟩)

end Go.Proofs.YtdndfbamhnchfaaDoor
set_option linter.unusedVariables false
set_option linter.unusedSimpArgs false
set_option maxRecDepth 100000
set_option maxHeartbeats 0
namespace Go.Proofs.YtdndfbamhnchfaaDoor
open Go.Sy Go.RowKit
theorem gtrim_walk (u0 : List Int) (ao1 : Option Addr) (cap2 : Nat) (Z : Fz) (w : World) (hs3 : SlR (tyInt .u32) Z ao1 cap2 u0) (hZ : Z.on w) {K : (List Int) → Prop} (hp : gtrim_vc u0 K) : Calls Tryd.prog 111 #[.slice ao1 u0.length cap2] w fun e w' => ∃ (r : (List Int)) (ao1001 : Option Addr) (cap1002 : Nat) (Z' : Fz), e = .returned (.slice ao1001 r.length cap1002) ∧ K r ∧ SlR (tyInt .u32) Z' ao1001 cap1002 r ∧ Mem w.heap.size [] w Z [] Z' w' := by
 refine enter0 Tryd.func111 rfl rfl (by kernel_rfl) ?_; intro a0 C; have j := Mem.start w Z hZ
 have aa := hp (hs3.small)
 refine sqB C j [] [] [] ?_; intro a6 D
 refine sqB D j [] [] [(3, i6 (u0.length : Int))] ?_; intro E F
 refine s_ (b_ ?_)
 have G : Fr 21 [] [⟨0, [], .slice ao1 u0.length cap2⟩, ⟨3, [], i6 (u0.length : Int)⟩] E := F.reg
 obtain ⟨ab, ac, ad, ae⟩ := aa
 refine lp (ι := Int) (fun s => [⟨0, [], .slice ao1 u0.length cap2⟩, ⟨3, [], i6 s⟩]) (fun s => []) (fun s => Z) (fun s => ab s) (fun s => ac s) (u0.length : Int) ad (by exact G.region (by kernel_rfl) (by kernel_rfl)) (by exact j) ?_
 rintro a af ag ah I J
 have l := ae a af
 refine s_ (sqH ?_); intro M m
 refine bt I J 3 [] [] [(8, .bool (decide (a > 0)))] ?_; intro aE n
 rcases Bool.eq_false_or_eq_true (decide (a > 0)) with f | f
 · -- true
  have ai := l.1 f
  have N := n.reval (d := 8) (c := []) (v := .bool (decide (a > 0))) (by kernel_rfl) (.bool true) (by rw [f])
  refine bt N J 3 [] [9, 10, 11] [(9, .slice ao1 u0.length cap2), (11, i6 (w64 (a - 1)))] ?_; intro aF q
  obtain ⟨aj, O⟩ := ai
  refine ix q (T := (tyInt .u32)) (xs := u0) hs3 (w64 (a - 1)) aj (k := .i64) (e := 109) (bytes := 4) (wK q true) rfl (by kernel_rfl) rfl (by kernel_rfl) (by kernel_rfl) (by kernel_rfl) ?_; intro aG aH ak h aI al am an o
  have p := O h al
  obtain rfl : ak = ([.int .u32 h] : List Value) := an
  refine v_ o (.int .u32 h) (wK o true) (lz o J.fz am 0 (g := []) rfl (by kernel_rfl) (by kernel_rfl) (by kernel_rfl) rfl) ?_; intro aJ P
  refine bt P J 2 [] [14, 15] [(15, .bool (h == 0))] ?_; intro aK i
  apply m
  refine cd i (t := h == 0) (by kernel_rfl) (fun u => ?_) (fun u => ?_)
  · -- yes
   have Q := p.1 u
   refine k_ (b_ (rgB i J [] [] [(3, i6 (w64 (a - 1)))] ?_)); intro aL ao
   exact j_ (d_ ⟨w64 (a - 1), Q.1, Q.2, (ao.region (by kernel_rfl) (by kernel_rfl)).anyβ _ (by kernel_rfl), J.kp⟩)
  · -- no
   have ap := p.2 u
   refine x_ (y_ (y_ (z_ (t_ (sqH ?_))))); intro aq R
   refine bt i J 2 [] [] [(18, .slice ao1 u0.length cap2), (19, i6 a)] ?_; intro aM S
   obtain ⟨ar, au⟩ := ap
   refine slH S (T := (tyInt .u32)) (xs := u0) hs3 a ar (k' := .i64) (e := 109) (bytes := 4) (nog rfl _) rfl (by kernel_rfl) rfl (by kernel_rfl) (by kernel_rfl) (by kernel_rfl) ?_; intro x y aN aO av U
   refine s1 U 2 (.slice x (u0.take a.toNat).length y) ?_; intro aP aw
   apply R
   exact r_ (ra1 aw (.slice x (u0.take a.toNat).length y) ⟨u0.take a.toNat, x, y, Z, rfl, au, av, J.kp⟩)
 · -- false
  have ax := l.2 f
  have V := n.reval (d := 8) (c := []) (v := .bool (decide (a > 0))) (by kernel_rfl) (.bool false) (by rw [f])
  refine bt V J 7 [] [9, 10, 11, 12, 13, 14, 15] [(15, .bool false)] ?_; intro aQ z
  apply m
  refine cdF z (by kernel_rfl) ?_
  refine x_ (y_ (y_ (z_ (t_ (sqH ?_))))); intro ay W
  refine bt z J 2 [] [] [(18, .slice ao1 u0.length cap2), (19, i6 a)] ?_; intro aR X
  obtain ⟨az, aA⟩ := ax
  refine slH X (T := (tyInt .u32)) (xs := u0) hs3 a az (k' := .i64) (e := 109) (bytes := 4) (nog rfl _) rfl (by kernel_rfl) rfl (by kernel_rfl) (by kernel_rfl) (by kernel_rfl) ?_; intro A B aS aT aB Y
  refine s1 Y 2 (.slice A (u0.take a.toNat).length B) ?_; intro aU aC
  apply W
  exact r_ (ra1 aC (.slice A (u0.take a.toNat).length B) ⟨u0.take a.toNat, A, B, Z, rfl, aA, aB, J.kp⟩)

theorem gplain_walk (u0 : List Int) (ao1 : Option Addr) (cap2 : Nat) (Z : Fz) (w : World) (hs3 : SlR (tyInt .u32) Z ao1 cap2 u0) (hZ : Z.on w) {K : Int → Prop} (hp : gplain_vc u0 K) : Calls Tryd.prog 137 #[.slice ao1 u0.length cap2] w fun e w' => ∃ r : Int, e = .returned (y6 r) ∧ K r ∧ Below w.heap.size w w' := by
 refine enter0 Tryd.func137 rfl rfl (by kernel_rfl) ?_; intro a0 p; have a := Mem.start w Z hZ
 have i := hp (hs3.small)
 refine sqB p a [] [] [] ?_; intro a6 q
 refine sqB q a [] [] [(3, y6 0)] ?_; intro a9 s
 refine s_ (sqB s a [] [] [(6, .bool (decide ((u0.length : Int) > 0)))] ?_); intro aw f
 refine cd f (t := decide ((u0.length : Int) > 0)) (by kernel_rfl) (fun m => ?_) (fun m => ?_)
 · -- yes
  have O := i.1 m
  refine rgH ?_; intro P u
  refine s1 f 7 (.slice ao1 u0.length cap2) ?_; intro ax v
  obtain ⟨Q, x⟩ := O
  refine ix_ v hs3 (0 : Int) Q .i64 109 4 ?_; intro ay az R b aA S U V y
  have j := x b S
  obtain rfl : R = ([.int .u32 b] : List Value) := V
  refine z1 y a 9 U 0 (.int .u32 b) rfl ?_; intro aB z
  refine bt z a 2 [] [] [(3, y6 (wu64 b))] ?_; intro aC A
  apply u
  refine t_ (s_ (sqB A a [] [] [(13, .bool (decide ((u0.length : Int) > 1)))] ?_)); intro aD g
  refine cd g (t := decide ((u0.length : Int) > 1)) (by kernel_rfl) (fun n => ?_) (fun n => ?_)
  · -- yes
   have W := j.1 n
   refine rgH ?_; intro X B
   refine bt g a 2 [] [] [(14, y6 (wu64 b)), (15, .slice ao1 u0.length cap2)] ?_; intro aE C
   obtain ⟨Y, D⟩ := W
   refine ix_ C hs3 (1 : Int) Y .i64 109 4 ?_; intro aF aG aa c aH ab ac ad E
   have ae := D c ab
   obtain rfl : aa = ([.int .u32 c] : List Value) := ad
   refine z1 E a 17 ac 0 (.int .u32 c) rfl ?_; intro aI F
   refine bt F a 4 [] [] [(3, y6 (bOr .u64 (wu64 b) (bShl .u64 (wu64 c) 32)))] ?_; intro aJ G
   apply B
   refine t_ (sqB G a [] [] [(2, y6 (bOr .u64 (wu64 b) (bShl .u64 (wu64 c) 32)))] ?_); intro aK af
   exact r_ (ra1 af (y6 (bOr .u64 (wu64 b) (bShl .u64 (wu64 c) 32))) ⟨bOr .u64 (wu64 b) (bShl .u64 (wu64 c) 32), rfl, ae, a.below⟩)
  · -- no
   have ag := j.2 n
   refine k_ (sqB g a [] [] [(2, y6 (wu64 b))] ?_); intro aL ah
   exact r_ (ra1 ah (y6 (wu64 b)) ⟨wu64 b, rfl, ag, a.below⟩)
 · -- no
  have l := i.2 m
  refine k_ (s_ (sqB f a [] [] [(13, .bool (decide ((u0.length : Int) > 1)))] ?_)); intro aM h
  refine cd h (t := decide ((u0.length : Int) > 1)) (by kernel_rfl) (fun o => ?_) (fun o => ?_)
  · -- yes
   have ai := l.1 o
   refine rgH ?_; intro aj H
   refine bt h a 2 [] [] [(14, y6 0), (15, .slice ao1 u0.length cap2)] ?_; intro aN I
   obtain ⟨ak, J⟩ := ai
   refine ix_ I hs3 (1 : Int) ak .i64 109 4 ?_; intro aO aP al d aQ am an ao L
   have ap := J d am
   obtain rfl : al = ([.int .u32 d] : List Value) := ao
   refine z1 L a 17 an 0 (.int .u32 d) rfl ?_; intro aR M
   refine bt M a 4 [] [] [(3, y6 (bOr .u64 0 (bShl .u64 (wu64 d) 32)))] ?_; intro aS N
   apply H
   refine t_ (sqB N a [] [] [(2, y6 (bOr .u64 0 (bShl .u64 (wu64 d) 32)))] ?_); intro aT aq
   exact r_ (ra1 aq (y6 (bOr .u64 0 (bShl .u64 (wu64 d) 32))) ⟨bOr .u64 0 (bShl .u64 (wu64 d) 32), rfl, ap, a.below⟩)
  · -- no
   have ar := l.2 o
   refine k_ (sqB h a [] [] [(2, y6 0)] ?_); intro aU au
   exact r_ (ra1 au (y6 0) ⟨0, rfl, ar, a.below⟩)

theorem gcmp_walk (u0 : List Int) (u1 : List Int) (ao1 : Option Addr) (cap2 : Nat) (ao4 : Option Addr) (cap5 : Nat) (Z : Fz) (w : World) (hs3 : SlR (tyInt .u32) Z ao1 cap2 u0) (hs6 : SlR (tyInt .u32) Z ao4 cap5 u1) (hZ : Z.on w) {K : Int → Prop} (hp : gcmp_vc u0 u1 K) : Calls Tryd.prog 89 #[.slice ao1 u0.length cap2, .slice ao4 u1.length cap5] w fun e w' => ∃ r : Int, e = .returned (i6 r) ∧ K r ∧ Below w.heap.size w w' := by
 refine enter0 Tryd.func89 rfl rfl (by kernel_rfl) ?_; intro a0 J; have b := Mem.start w Z hZ
 have p := hp (hs3.small) (hs6.small)
 refine sqB J b [] [] [] ?_; intro bg M
 refine s_ (sqB M b [] [] [(10, .bool ((u0.length : Int) != (u1.length : Int)))] ?_); intro bh c
 refine cd c (t := (u0.length : Int) != (u1.length : Int)) (by kernel_rfl) (fun A => ?_) (fun A => ?_)
 · -- yes
  have q := p.1 A
  refine s_ (sqB c b [] [] [(15, .bool (decide ((u0.length : Int) < (u1.length : Int))))] ?_); intro bi d
  refine cd d (t := decide ((u0.length : Int) < (u1.length : Int))) (by kernel_rfl) (fun B => ?_) (fun B => ?_)
  · -- yes
   have ar := q.1 B
   refine sqB d b [] [] [(4, i6 (-1))] ?_; intro bj au
   exact r_ (h_ (h_ (ra1 au (i6 (-1)) ⟨-1, rfl, ar, b.below⟩)))
  · -- no
   have av := q.2 B
   refine k_ (sqB d b [] [] [(4, i6 1)] ?_); intro bk aw
   exact r_ (h_ (ra1 aw (i6 1) ⟨1, rfl, av, b.below⟩))
 · -- no
  have ax := p.2 A
  refine k_ (s_ (sqB c b [] [] [(5, i6 (w64 ((u0.length : Int) - 1)))] ?_)); intro N O
  apply b_
  have P : Fr 41 [] [⟨0, [], .slice ao1 u0.length cap2⟩, ⟨1, [], .slice ao4 u1.length cap5⟩, ⟨5, [], i6 (w64 ((u0.length : Int) - 1))⟩] N := O.reg
  obtain ⟨ay, az, aA, aB⟩ := ax
  refine lp (ι := Int) (fun s => [⟨0, [], .slice ao1 u0.length cap2⟩, ⟨1, [], .slice ao4 u1.length cap5⟩, ⟨5, [], i6 s⟩]) (fun s => []) (fun s => Z) (fun s => ay s) (fun s => az s) (w64 ((u0.length : Int) - 1)) aA (by exact P.region (by kernel_rfl) (by kernel_rfl)) (by exact b) ?_
  rintro a aC aD aE R S
  have u := aB a aC
  refine s_ (sqB R S [] [] [(20, .bool (decide (a ≥ 0)))] ?_); intro aF h
  refine cd h (t := decide (a ≥ 0)) (by kernel_rfl) (fun C => ?_) (fun C => ?_)
  · -- yes
   have aG := u.1 C
   refine k_ (s_ (b_ ?_))
   have V : Fr 41 [] [⟨0, [], .slice ao1 u0.length cap2⟩, ⟨1, [], .slice ao4 u1.length cap5⟩, ⟨5, [], i6 a⟩] aF := h.reg
   refine sqQH mixed (by kernel_rfl) S ?_; intro aH W
   refine q1 V 23 (.slice ao1 u0.length cap2) ?_; intro bl X
   refine q1 X 24 (i6 a) ?_; intro bm Y
   obtain ⟨aI, aa⟩ := aG
   refine qx_ Y hs3 a aI .i64 109 4 ?_; intro bn bo aJ i bp aK aL aM D
   have aN := aa i aK
   obtain rfl : aJ = ([.int .u32 i] : List Value) := aM
   refine qz_ D aL 0 (.int .u32 i) rfl ?_; intro bq ab
   refine q1 ab 27 (.slice ao4 u1.length cap5) ?_; intro br ac
   refine q1 ac 28 (i6 a) ?_; intro bs ad
   obtain ⟨aO, ae⟩ := aN
   refine qx_ ad hs6 a aO .i64 109 4 ?_; intro bt bu aP j bv aQ aR aS E
   have v := ae j aQ
   obtain rfl : aP = ([.int .u32 j] : List Value) := aS
   refine qz_ E aR 0 (.int .u32 j) rfl ?_; intro bw af
   refine q1 af 31 (.bool (i != j)) ?_; intro aT l
   refine qnl (W _ ?_); intro bx x
   refine cd l (t := i != j) (by kernel_rfl) (fun F => ?_) (fun F => ?_)
   · -- yes
    have aU := v.1 F
    apply s_
    have ag : Fr 41 [] [⟨0, [], .slice ao1 u0.length cap2⟩, ⟨1, [], .slice ao4 u1.length cap5⟩, ⟨5, [], i6 a⟩] aT := l.reg
    refine sqQH mixed (by kernel_rfl) x ?_; intro aV ah
    refine q1 ag 32 (.slice ao1 u0.length cap2) ?_; intro bz ai
    refine q1 ai 33 (i6 a) ?_; intro bA aj
    obtain ⟨aW, ak⟩ := aU
    refine qx_ aj hs3 a aW .i64 109 4 ?_; intro bB bC aX m bD aY aZ a1 G
    have a2 := ak m aY
    obtain rfl : aX = ([.int .u32 m] : List Value) := a1
    refine qz_ G aZ 0 (.int .u32 m) rfl ?_; intro bE al
    refine q1 al 36 (.slice ao4 u1.length cap5) ?_; intro bF am
    refine q1 am 37 (i6 a) ?_; intro bG an
    obtain ⟨a3, ao⟩ := a2
    refine qx_ an hs6 a a3 .i64 109 4 ?_; intro bH bI a4 n bJ a5 a6 a7 H
    have y := ao n a5
    obtain rfl : a4 = ([.int .u32 n] : List Value) := a7
    refine qz_ H a6 0 (.int .u32 n) rfl ?_; intro bK ap
    refine q1 ap 40 (.bool (decide (m < n))) ?_; intro bL o
    refine qnl (ah _ ?_); intro bM z
    refine cd o (t := decide (m < n)) (by kernel_rfl) (fun I => ?_) (fun I => ?_)
    · -- yes
     have a8 := y.1 I
     refine sqB o z [] [] [(4, i6 (-1))] ?_; intro bN a9
     exact r_ (h_ (i_ (h_ (h_ (i_ (h_ (ra1 a9 (i6 (-1)) ⟨-1, rfl, a8, z.below⟩)))))))
    · -- no
     have ba := y.2 I
     refine k_ (sqB o z [] [] [(4, i6 1)] ?_); intro bO bb
     exact r_ (i_ (h_ (h_ (i_ (h_ (ra1 bb (i6 1) ⟨1, rfl, ba, z.below⟩))))))
   · -- no
    have aq := v.2 F
    refine l_ (j_ (t_ (rgB l x [] [] [(5, i6 (w64 (a - 1)))] ?_))); intro bP bc
    exact d_ ⟨w64 (a - 1), aq.1, aq.2, (bc.region (by kernel_rfl) (by kernel_rfl)).anyβ _ (by kernel_rfl), x.kp⟩
  · -- no
   have bd := u.2 C
   refine x_ (y_ (y_ (z_ (t_ (sqB h S [] [] [(4, i6 0)] ?_))))); intro bQ be
   exact r_ (ra1 be (i6 0) ⟨0, rfl, bd, S.below⟩)

end Go.Proofs.YtdndfbamhnchfaaDoor
set_option linter.unusedVariables false
set_option linter.unusedSimpArgs false
set_option linter.defProp false
set_option maxRecDepth 100000
set_option maxHeartbeats 0
namespace Go.Proofs.YtdndfbamhnchfaaDoor
open Go.Sy Go.RowKit
def gtrim_fun (u0 : List Int) (ao1 : Option Addr) (cap2 : Nat) (Z : Fz) (w : World) (hs3 : SlR (tyInt .u32) Z ao1 cap2 u0) (hZ : Z.on w) := fc_ (gtrim_walk u0 ao1 cap2 Z w hs3 hZ (gtrim_ok u0))
theorem gtwin_walk (u0 : List Int) (ao1 : Option Addr) (cap2 : Nat) (Z : Fz) (w : World) (hs3 : SlR (tyInt .u32) Z ao1 cap2 u0) (hZ : Z.on w) {K : (List Int) → Prop} (hp : gtwin_vc u0 K) : Calls Tryd.prog 88 #[.slice ao1 u0.length cap2] w fun e w' => ∃ (r : (List Int)) (ao1001 : Option Addr) (cap1002 : Nat) (Z' : Fz), e = .returned (.slice ao1001 r.length cap1002) ∧ K r ∧ Mem w.heap.size [] w Z [.own (tyInt .u32) 109 ao1001 cap1002 r] Z' w' := by
 refine enter0 Tryd.func88 rfl rfl (by kernel_rfl) ?_; intro u f; have c := Mem.start w Z hZ
 have l := hp (hs3.small)
 refine sqB f c [] [] [] ?_; intro x g
 refine sqH ?_; intro m h
 refine s1 g 3 (.slice ao1 u0.length cap2) ?_; intro y i
 have d : Mem w.heap.size [] w Z [.own (tyInt .u32) 109 none 0 ([] : List Int)] Z w := c.addNil (tyInt .u32) 109 (by decide)
 obtain ⟨n, o⟩ := l
 refine ap i d 0 (T := (tyInt .u32)) (xs := ([] : List Int)) (ys := u0) (ao := none) (cap := 0) (ao2 := ao1) (cap2 := cap2) (t := 67) (e := 109) (bytes := 4) (nog rfl _) rfl (by kernel_rfl) rfl (by kernel_rfl) (by kernel_rfl) (by kernel_rfl) rfl (Src.fz (by decide) d.fz hs3) n ?_; intro a b z p A j k
 have q : Mem w.heap.size [] w Z [.own (tyInt .u32) 109 a b (([] : List Int) ++ u0)] Z p := k
 refine s1 j 2 (.slice a (([] : List Int) ++ u0).length b) ?_; intro B s
 apply h
 exact r_ (ra1 s (.slice a (([] : List Int) ++ u0).length b) ⟨([] : List Int) ++ u0, a, b, Z, rfl, o, q.kp⟩)

theorem gwords_walk (u0 : Int)  (Z : Fz) (w : World)  (hZ : Z.on w) {K : (List Int) → Prop} (hp : gwords_vc u0 K) : Calls Tryd.prog 110 #[y6 u0] w fun e w' => ∃ (r : (List Int)) (ao1001 : Option Addr) (cap1002 : Nat) (Z' : Fz), e = .returned (.slice ao1001 r.length cap1002) ∧ K r ∧ SlR (tyInt .u32) Z' ao1001 cap1002 r ∧ Mem w.heap.size [] w Z [] Z' w' := by
 refine enter0 Tryd.func110 rfl rfl (by kernel_rfl) ?_; intro H j; have a := Mem.start w Z hZ
 refine sqB j a [] [] [] ?_; intro I k
 refine sqH ?_; intro z l
 refine bt k a 5 [] [] [(4, .int .u32 (wu32 u0)), (7, .int .u32 (wu32 (bShr .u64 u0 32)))] ?_; intro J m
 refine nw m a (fun b => .slice (sm b) 2 2) [.int .u32 (wu32 u0), .int .u32 (wu32 (bShr .u64 u0 32))] 109 ?_; intro d L n o p
 have A : Mem w.heap.size [] w Z [.own (tyInt .u32) 109 (sm d) 2 ([wu32 u0, wu32 (bShr .u64 u0 32)] : List Int)] Z n := p.rowOwn (T := (tyInt .u32)) (xs := ([wu32 u0, wu32 (bShr .u64 u0 32)] : List Int)) 0 rfl (by decide) (by show 2 ≤ lim; decide) ((RepAll.one (T := (tyInt .u32)) (x := wu32 u0) rfl).append (RepAll.one (T := (tyInt .u32)) (x := wu32 (bShr .u64 u0 32)) rfl))
 obtain ⟨B, C, q, f⟩ := A.freeze 0 rfl
 have g : Mem w.heap.size [] w Z [] B n := q
 refine ck o 111 #[.slice (sm d) ([wu32 u0, wu32 (bShr .u64 u0 32)] : List Int).length 2] ?_
 refine (gtrim_fun ([wu32 u0, wu32 (bShr .u64 u0 32)] : List Int) (sm d) 2 _ _ f g.fz).mono ?_; rintro _ D ⟨h, i, s, rfl, t, hm⟩; refine ⟨_, rfl, ?_⟩; intro M u; have v := g.callZ hm
 have E : Mem w.heap.size [] w Z [] s D := v
 have F := hp (t.small)
 refine s1 u 2 (.slice h (gtrimS ([wu32 u0, wu32 (bShr .u64 u0 32)] : List Int)).length i) ?_; intro N G
 apply l
 exact r_ (ra1 G (.slice h (gtrimS ([wu32 u0, wu32 (bShr .u64 u0 32)] : List Int)).length i) ⟨(gtrimS ([wu32 u0, wu32 (bShr .u64 u0 32)] : List Int)), h, i, s, rfl, F, t, E.kp⟩)

theorem gmul_walk (u0 : List Int) (u1 : List Int) (ao1 : Option Addr) (cap2 : Nat) (ao4 : Option Addr) (cap5 : Nat) (Z : Fz) (w : World) (hs3 : SlR (tyInt .u32) Z ao1 cap2 u0) (hs6 : SlR (tyInt .u32) Z ao4 cap5 u1) (hZ : Z.on w) {K : (List Int) → Prop} (hp : gmul_vc u0 u1 K) : Calls Tryd.prog 109 #[.slice ao1 u0.length cap2, .slice ao4 u1.length cap5] w fun e w' => ∃ (r : (List Int)) (ao1001 : Option Addr) (cap1002 : Nat) (Z' : Fz), e = .returned (.slice ao1001 r.length cap1002) ∧ K r ∧ SlR (tyInt .u32) Z' ao1001 cap1002 r ∧ Mem w.heap.size [] w Z [] Z' w' := by
 refine enter0 Tryd.func109 rfl rfl (by kernel_rfl) ?_; intro a0 U; have n := Mem.start w Z hZ
 have A := hp (hs3.small) (hs6.small)
 refine sqB U n [] [] [] ?_; intro ch W
 refine s_ (sqB W n [] [] [(16, .bool (((u0.length : Int) == 0) || ((u1.length : Int) == 0)))] ?_); intro ci q
 refine c_ q A (fun _ a6 => ?_) fun _ a8 => ?_
 ·
  refine sqB q n [] [] [(4, .slice none 0 0)] ?_; intro cj a7
  exact r_ (h_ (ra1 a7 (.slice none 0 0) ⟨[], none, 0, Z, rfl, a6, (SlR.nil _ _), n.kp⟩))
 refine k_ (sqH ?_); intro a9 X
 refine bt q n 5 [] [] [(21, i6 (w64 ((u0.length : Int) + (u1.length : Int))))] ?_; intro cl Y
 obtain ⟨cm, ba⟩ := a8
 refine mks Y n (T := (tyInt .u32)) (w64 ((u0.length : Int) + (u1.length : Int))) (w64 ((u0.length : Int) + (u1.length : Int))) (k := .i64) (k' := .i64) (e := 109) (bytes := 4) (zs := [.int .u32 0]) (z := 0) (by simp only [lim]; omega) (nog rfl _) rfl (by kernel_rfl) rfl (by kernel_rfl) (by kernel_rfl) (by kernel_rfl) (by kernel_rfl) rfl ?_; intro b cn bb aa ab
 have H : Mem w.heap.size [] w Z [.own (tyInt .u32) 109 (sm b) (w64 ((u0.length : Int) + (u1.length : Int))).toNat (List.replicate (w64 ((u0.length : Int) + (u1.length : Int))).toNat (0 : Int))] Z bb := ab
 refine s1 aa 5 (.slice (sm b) (List.replicate (w64 ((u0.length : Int) + (u1.length : Int))).toNat (0 : Int)).length (w64 ((u0.length : Int) + (u1.length : Int))).toNat) ?_; intro co ac
 apply X
 refine s_ (sqB ac H [] [] [(6, i6 0)] ?_); intro ad ae
 apply b_
 have af : Fr 75 [] [⟨0, [], .slice ao1 u0.length cap2⟩, ⟨1, [], .slice ao4 u1.length cap5⟩, ⟨5, [], .slice (sm b) (List.replicate (w64 ((u0.length : Int) + (u1.length : Int))).toNat (0 : Int)).length (w64 ((u0.length : Int) + (u1.length : Int))).toNat⟩, ⟨6, [], i6 0⟩] ad := ae.reg
 obtain ⟨bc, bd, be, bf⟩ := ba
 refine lp (ι := Int × (List Int)) (fun s => [⟨0, [], .slice ao1 u0.length cap2⟩, ⟨1, [], .slice ao4 u1.length cap5⟩, ⟨5, [], .slice (sm b) s.2.length (w64 ((u0.length : Int) + (u1.length : Int))).toNat⟩, ⟨6, [], i6 s.1⟩]) (fun s => [.own (tyInt .u32) 109 (sm b) (w64 ((u0.length : Int) + (u1.length : Int))).toNat s.2]) (fun s => Z) (fun s => bc s.1 s.2) (fun s => bd s.1 s.2) ⟨0, (List.replicate (w64 ((u0.length : Int) + (u1.length : Int))).toNat (0 : Int))⟩ be (by exact af.reg) (by exact H) ?_
 rintro ⟨a, l⟩ bg bh ah ai aj
 have B := bf a l bg
 refine s_ (sqB ai aj [] [] [(26, .bool (decide (a < (u0.length : Int))))] ?_); intro cp v
 refine c_ v B (fun _ bi => ?_) fun _ aX => ?_
 ·
  refine k_ (s_ (b_ (sqB v aj [] [] [(7, y6 0)] ?_))); intro cq al
  refine s_ (sqB al aj [] [] [(8, i6 0)] ?_); intro am an
  apply b_
  have ao : Fr 75 [] [⟨0, [], .slice ao1 u0.length cap2⟩, ⟨1, [], .slice ao4 u1.length cap5⟩, ⟨5, [], .slice (sm b) l.length (w64 ((u0.length : Int) + (u1.length : Int))).toNat⟩, ⟨6, [], i6 a⟩, ⟨7, [], y6 0⟩, ⟨8, [], i6 0⟩] am := an.reg
  obtain ⟨bj, bk, bl, bm⟩ := bi
  refine lp (ι := Int × Int × (List Int)) (fun s => [⟨0, [], .slice ao1 u0.length cap2⟩, ⟨1, [], .slice ao4 u1.length cap5⟩, ⟨5, [], .slice (sm b) s.2.2.length (w64 ((u0.length : Int) + (u1.length : Int))).toNat⟩, ⟨6, [], i6 a⟩, ⟨7, [], y6 s.1⟩, ⟨8, [], i6 s.2.1⟩]) (fun s => [.own (tyInt .u32) 109 (sm b) (w64 ((u0.length : Int) + (u1.length : Int))).toNat s.2.2]) (fun s => Z) (fun s => bj s.1 s.2.1 s.2.2) (fun s => bk s.1 s.2.1 s.2.2) ⟨0, 0, l⟩ bl (by exact ao.reg) (by exact aj) ?_
  rintro ⟨d, c, f⟩ bn bo bp aq ar
  have C := bm d c f bn
  refine s_ (sqB aq ar [] [] [(32, .bool (decide (c < (u1.length : Int))))] ?_); intro bq x
  refine c_ x C (fun _ br => ?_) fun _ b2 => ?_
  ·
   refine k_ (s_ (b_ ?_))
   have av : Fr 75 [] [⟨0, [], .slice ao1 u0.length cap2⟩, ⟨1, [], .slice ao4 u1.length cap5⟩, ⟨5, [], .slice (sm b) f.length (w64 ((u0.length : Int) + (u1.length : Int))).toNat⟩, ⟨6, [], i6 a⟩, ⟨7, [], y6 d⟩, ⟨8, [], i6 c⟩] bq := x.reg
   refine wp_seq (rgS mixed ar [(0, true), (1, true), (2, true), (6, true), (7, true), (12, true), (13, true), (14, true), (15, true), (3, true), (4, true), (5, true), (8, true), (9, true), (10, true), (11, true), (16, false), (17, false), (18, true), (19, true), (20, true), (21, true)] [] [] [] ?_)
   intro bs aw cr m
   have ax := Fz.le.refl Z
   refine cS av 9 [] [] [(35, y6 d), (36, .slice ao1 u0.length cap2), (37, i6 a), (41, .slice ao4 u1.length cap5), (42, i6 c), (47, .slice (sm b) f.length (w64 ((u0.length : Int) + (u1.length : Int))).toNat), (50, i6 (w64 (a + c)))] ?_; intro cs ay
   obtain ⟨bu, az⟩ := br
   refine cix rfl ay (T := (tyInt .u32)) (xs := u0) hs3 a bu (k := .i64) (e := 109) (bytes := 4) (nog rfl _) rfl (by kernel_rfl) rfl (by kernel_rfl) (by kernel_rfl) (by kernel_rfl) ?_; intro bv bw bx h ct bz bA bB L
   have bC := az h bz
   obtain rfl : bx = ([.int .u32 h] : List Value) := bB
   refine cst rfl L (.int .u32 h) (nog rfl _) rfl (by kernel_rfl) (fun v152 hC => lz L hC.fz bA 0 (g := []) rfl (by kernel_rfl) (by kernel_rfl) (by kernel_rfl) rfl) ?_; intro cu aA
   refine cS aA 1 [] [] [(40, y6 (wu64 h))] ?_; intro cv aB
   obtain ⟨bD, aC⟩ := bC
   refine cix rfl aB (T := (tyInt .u32)) (xs := u1) hs6 c bD (k := .i64) (e := 109) (bytes := 4) (nog rfl _) rfl (by kernel_rfl) rfl (by kernel_rfl) (by kernel_rfl) (by kernel_rfl) ?_; intro bE bF bG i cw bH bI bJ M
   have bK := aC i bH
   obtain rfl : bG = ([.int .u32 i] : List Value) := bJ
   refine cst rfl M (.int .u32 i) (nog rfl _) rfl (by kernel_rfl) (fun v170 hC => lz M hC.fz bI 0 (g := []) rfl (by kernel_rfl) (by kernel_rfl) (by kernel_rfl) rfl) ?_; intro cx aD
   refine cS aD 2 [] [] [(46, y6 (wu64 ((wu64 h) * (wu64 i))))] ?_; intro cy aE
   refine eS rfl ?_; intro bL aF
   obtain ⟨bM, aG⟩ := bK
   refine ixo aE m 0 (T := (tyInt .u32)) (xs := f) (w64 (a + c)) bM (k := .i64) (e := 109) (bytes := 4) (nog rfl _) rfl (by kernel_rfl) rfl (by kernel_rfl) (by kernel_rfl) rfl (by kernel_rfl) ?_; intro bN cz bO aH
   obtain rfl : b = bN := by simpa using bO
   refine nl (qnI (aF _ _ (m.cst ax []) ?_))
   refine eS rfl ?_; intro bP aI
   obtain ⟨j, bQ, bR⟩ := gxq aG (by first | omega | (simp only [List.length_set] at *; omega))
   obtain ⟨bS, bT, bU⟩ := own_el m 0 (T := (tyInt .u32)) (xs := f) rfl (w64 (a + c)).toNat bQ
   obtain rfl : bS = ([.int .u32 j] : List Value) := bT
   refine lc1 aH 52 (.int .u32 j) (bU 0 _ rfl) rfl ?_; intro cA aJ
   refine nl (qnI (aI _ _ (m.cst ax []) ?_))
   refine cS aJ 4 [] [] [(7, y6 (wu64 (d + (wu64 ((wu64 ((wu64 h) * (wu64 i))) + (wu64 j))))))] ?_; intro cB aK
   refine nS (aw _ _ ?_)
   refine t_ (sqH ?_); intro bV aL
   refine bt aK m 6 [] [] [(56, .slice (sm b) f.length (w64 ((u0.length : Int) + (u1.length : Int))).toNat), (59, i6 (w64 (a + c))), (61, .int .u32 (wu32 (wu64 (d + (wu64 ((wu64 ((wu64 h) * (wu64 i))) + (wu64 j)))))))] ?_; intro cC aM
   obtain ⟨bW, aN⟩ := bR
   refine ixo aM m 0 (T := (tyInt .u32)) (xs := f) (w64 (a + c)) bW (k := .i64) (e := 109) (bytes := 4) (nog rfl _) rfl (by kernel_rfl) rfl (by kernel_rfl) (by kernel_rfl) rfl (by kernel_rfl) ?_; intro bX bY bZ D
   obtain rfl : b = bX := by simpa using bZ
   refine so D m 0 (T := (tyInt .u32)) (xs := f) (w64 (a + c)).toNat (wu32 (wu64 (d + (wu64 ((wu64 ((wu64 h) * (wu64 i))) + (wu64 j)))))) (u := .int .u32 (wu32 (wu64 (d + (wu64 ((wu64 ((wu64 h) * (wu64 i))) + (wu64 j))))))) (nog rfl _) rfl rfl (by kernel_rfl) rfl (by kernel_rfl) rfl (by kernel_rfl) (by first | omega | (simp only [List.length_set] at *; omega)) rfl ?_; intro b0 aO
   have aP : Fr 75 [] [⟨0, [], .slice ao1 u0.length cap2⟩, ⟨1, [], .slice ao4 u1.length cap5⟩, ⟨5, [], .slice (sm b) (f.set (w64 (a + c)).toNat (wu32 (wu64 (d + (wu64 ((wu64 ((wu64 h) * (wu64 i))) + (wu64 j))))))).length (w64 ((u0.length : Int) + (u1.length : Int))).toNat⟩, ⟨6, [], i6 a⟩, ⟨7, [], y6 (wu64 (d + (wu64 ((wu64 ((wu64 h) * (wu64 i))) + (wu64 j)))))⟩, ⟨8, [], i6 c⟩, ⟨35, [], y6 d⟩, ⟨36, [], .slice ao1 u0.length cap2⟩, ⟨37, [], i6 a⟩, ⟨38, [], pt bv bw⟩, ⟨39, [], .int .u32 h⟩, ⟨40, [], y6 (wu64 h)⟩, ⟨41, [], .slice ao4 u1.length cap5⟩, ⟨42, [], i6 c⟩, ⟨43, [], pt bE bF⟩, ⟨44, [], .int .u32 i⟩, ⟨46, [], y6 (wu64 ((wu64 h) * (wu64 i)))⟩, ⟨47, [], .slice (sm b) (f.set (w64 (a + c)).toNat (wu32 (wu64 (d + (wu64 ((wu64 ((wu64 h) * (wu64 i))) + (wu64 j))))))).length (w64 ((u0.length : Int) + (u1.length : Int))).toNat⟩, ⟨50, [], i6 (w64 (a + c))⟩, ⟨51, [], .pointer (some ⟨b, (w64 (a + c)).toNat * 1, none⟩)⟩, ⟨52, [], .int .u32 j⟩, ⟨56, [], .slice (sm b) (f.set (w64 (a + c)).toNat (wu32 (wu64 (d + (wu64 ((wu64 ((wu64 h) * (wu64 i))) + (wu64 j))))))).length (w64 ((u0.length : Int) + (u1.length : Int))).toNat⟩, ⟨59, [], i6 (w64 (a + c))⟩, ⟨61, [], .int .u32 (wu32 (wu64 (d + (wu64 ((wu64 ((wu64 h) * (wu64 i))) + (wu64 j))))))⟩, ⟨62, [], .pointer (some ⟨b, (w64 (a + c)).toNat * 1, none⟩)⟩] bY := by (try simp only [List.length_set] at D); (try simp only [List.length_set]); exact D.reg
   have N : Mem w.heap.size [] w Z [.own (tyInt .u32) 109 (sm b) (w64 ((u0.length : Int) + (u1.length : Int))).toNat (f.set (w64 (a + c)).toNat (wu32 (wu64 (d + (wu64 ((wu64 ((wu64 h) * (wu64 i))) + (wu64 j)))))))] Z b0 := aO
   apply aL
   refine rgB aP N [] [] [(7, y6 (bShr .u64 (wu64 (d + (wu64 ((wu64 ((wu64 h) * (wu64 i))) + (wu64 j))))) 32))] ?_; intro cD aQ
   refine j_ (t_ (rgB aQ N [] [] [(8, i6 (w64 (c + 1)))] ?_)); intro cE b1
   exact d_ ⟨⟨bShr .u64 (wu64 (d + (wu64 ((wu64 ((wu64 h) * (wu64 i))) + (wu64 j))))) 32, w64 (c + 1), f.set (w64 (a + c)).toNat (wu32 (wu64 (d + (wu64 ((wu64 ((wu64 h) * (wu64 i))) + (wu64 j))))))⟩, aN.1, aN.2, (b1.reg).anyβ _ (by kernel_rfl), N.kp⟩
  refine x_ (y_ (y_ (z_ (t_ (rgH ?_))))); intro b3 aR
  refine bt x ar 7 [] [] [(65, .slice (sm b) f.length (w64 ((u0.length : Int) + (u1.length : Int))).toNat), (69, i6 (w64 (a + (u1.length : Int)))), (71, .int .u32 (wu32 d))] ?_; intro cF aS
  obtain ⟨b4, aT⟩ := b2
  refine ixo aS ar 0 (T := (tyInt .u32)) (xs := f) (w64 (a + (u1.length : Int))) b4 (k := .i64) (e := 109) (bytes := 4) (nog rfl _) rfl (by kernel_rfl) rfl (by kernel_rfl) (by kernel_rfl) rfl (by kernel_rfl) ?_; intro b5 b6 b7 E
  obtain rfl : b = b5 := by simpa using b7
  refine so E ar 0 (T := (tyInt .u32)) (xs := f) (w64 (a + (u1.length : Int))).toNat (wu32 d) (u := .int .u32 (wu32 d)) (nog rfl _) rfl rfl (by kernel_rfl) rfl (by kernel_rfl) rfl (by kernel_rfl) (by first | omega | (simp only [List.length_set] at *; omega)) rfl ?_; intro b8 aU
  have aV : Fr 75 [] [⟨0, [], .slice ao1 u0.length cap2⟩, ⟨1, [], .slice ao4 u1.length cap5⟩, ⟨5, [], .slice (sm b) (f.set (w64 (a + (u1.length : Int))).toNat (wu32 d)).length (w64 ((u0.length : Int) + (u1.length : Int))).toNat⟩, ⟨6, [], i6 a⟩, ⟨7, [], y6 d⟩, ⟨8, [], i6 c⟩, ⟨32, [], .bool (decide (c < (u1.length : Int)))⟩, ⟨65, [], .slice (sm b) (f.set (w64 (a + (u1.length : Int))).toNat (wu32 d)).length (w64 ((u0.length : Int) + (u1.length : Int))).toNat⟩, ⟨69, [], i6 (w64 (a + (u1.length : Int)))⟩, ⟨71, [], .int .u32 (wu32 d)⟩, ⟨72, [], .pointer (some ⟨b, (w64 (a + (u1.length : Int))).toNat * 1, none⟩)⟩] b6 := by (try simp only [List.length_set] at E); (try simp only [List.length_set]); exact E.reg
  have aW : Mem w.heap.size [] w Z [.own (tyInt .u32) 109 (sm b) (w64 ((u0.length : Int) + (u1.length : Int))).toNat (f.set (w64 (a + (u1.length : Int))).toNat (wu32 d))] Z b8 := aU
  apply aR
  refine j_ (t_ (rgB aV aW [] [] [(6, i6 (w64 (a + 1)))] ?_)); intro cG b9
  exact d_ ⟨⟨w64 (a + 1), f.set (w64 (a + (u1.length : Int))).toNat (wu32 d)⟩, aT.1, aT.2, (b9.reg).anyβ _ (by kernel_rfl), aW.kp⟩
 refine x_ (y_ (y_ (z_ (t_ (sqH ?_))))); intro ca aY
 refine s1 v 73 (.slice (sm b) l.length (w64 ((u0.length : Int) + (u1.length : Int))).toNat) ?_; intro cH aZ
 obtain ⟨cb, O, a1, P⟩ := aj.freeze 0 rfl
 have Q : Mem w.heap.size [] w Z [] cb ah := a1
 refine ck aZ 111 #[.slice (sm b) l.length (w64 ((u0.length : Int) + (u1.length : Int))).toNat] ?_
 refine (gtrim_fun l (sm b) (w64 ((u0.length : Int) + (u1.length : Int))).toNat _ _ P Q.fz).mono ?_; rintro _ cc ⟨R, S, a2, rfl, a3, hm⟩; refine ⟨_, rfl, ?_⟩; intro cI a4; have a5 := Q.callZ hm
 have ce : Mem w.heap.size [] w Z [] a2 cc := a5
 have cf := aX (a3.small)
 refine s1 a4 4 (.slice R (gtrimS l).length S) ?_; intro cJ cg
 apply aY
 exact r_ (ra1 cg (.slice R (gtrimS l).length S) ⟨(gtrimS l), R, S, a2, rfl, cf, a3, ce.kp⟩)

theorem gadd_walk (u0 : List Int) (u1 : List Int) (ao1 : Option Addr) (cap2 : Nat) (ao4 : Option Addr) (cap5 : Nat) (Z : Fz) (w : World) (hs3 : SlR (tyInt .u32) Z ao1 cap2 u0) (hs6 : SlR (tyInt .u32) Z ao4 cap5 u1) (hZ : Z.on w) {K : (List Int) → Prop} (hp : gadd_vc u0 u1 K) : Calls Tryd.prog 85 #[.slice ao1 u0.length cap2, .slice ao4 u1.length cap5] w fun e w' => ∃ (r : (List Int)) (ao1001 : Option Addr) (cap1002 : Nat) (Z' : Fz), e = .returned (.slice ao1001 r.length cap1002) ∧ K r ∧ SlR (tyInt .u32) Z' ao1001 cap1002 r ∧ Mem w.heap.size [] w Z [] Z' w' := by
 refine enter0 Tryd.func85 rfl rfl (by kernel_rfl) ?_; intro a0 am; have o := Mem.start w Z hZ
 have B := hp (hs3.small) (hs6.small)
 refine sqB am o [] [] [] ?_; intro d2 ao
 refine s_ (sqB ao o [] [] [(12, .bool (decide ((u0.length : Int) < (u1.length : Int))))] ?_); intro d3 q
 refine c_ q B (fun _ cb => ?_) fun _ c7 => ?_
 ·
  refine rgB q o [] [] [(0, .slice ao4 u1.length cap5), (1, .slice ao1 u0.length cap2)] ?_; intro d4 ap
  refine t_ (sqH ?_); intro cc aq
  refine bt ap o 3 [] [] [(17, i6 (w64 ((u1.length : Int) + 1)))] ?_; intro d5 ar
  obtain ⟨d6, ce⟩ := cb
  refine mks ar o (T := (tyInt .u32)) (w64 ((u1.length : Int) + 1)) (w64 ((u1.length : Int) + 1)) (k := .i64) (k' := .i64) (e := 109) (bytes := 4) (zs := [.int .u32 0]) (z := 0) (by simp only [lim]; omega) (nog rfl _) rfl (by kernel_rfl) rfl (by kernel_rfl) (by kernel_rfl) (by kernel_rfl) (by kernel_rfl) rfl ?_; intro f d7 cf au av
  have C : Mem w.heap.size [] w Z [.own (tyInt .u32) 109 (sm f) (w64 ((u1.length : Int) + 1)).toNat (List.replicate (w64 ((u1.length : Int) + 1)).toNat (0 : Int))] Z cf := av
  refine s1 au 5 (.slice (sm f) (List.replicate (w64 ((u1.length : Int) + 1)).toNat (0 : Int)).length (w64 ((u1.length : Int) + 1)).toNat) ?_; intro d8 aw
  apply aq
  refine sqB aw C [] [] [(6, y6 0)] ?_; intro d9 ax
  refine s_ (sqB ax C [] [] [(7, i6 0)] ?_); intro ay az
  apply b_
  have aA : Fr 58 [] [⟨0, [], .slice ao4 u1.length cap5⟩, ⟨1, [], .slice ao1 u0.length cap2⟩, ⟨5, [], .slice (sm f) (List.replicate (w64 ((u1.length : Int) + 1)).toNat (0 : Int)).length (w64 ((u1.length : Int) + 1)).toNat⟩, ⟨6, [], y6 0⟩, ⟨7, [], i6 0⟩] ay := az.reg
  obtain ⟨cg, ch, ci, cj⟩ := ce
  refine lp (ι := Int × Int × (List Int)) (fun s => [⟨0, [], .slice ao4 u1.length cap5⟩, ⟨1, [], .slice ao1 u0.length cap2⟩, ⟨5, [], .slice (sm f) s.2.2.length (w64 ((u1.length : Int) + 1)).toNat⟩, ⟨6, [], y6 s.1⟩, ⟨7, [], i6 s.2.1⟩]) (fun s => [.own (tyInt .u32) 109 (sm f) (w64 ((u1.length : Int) + 1)).toNat s.2.2]) (fun s => Z) (fun s => cg s.1 s.2.1 s.2.2) (fun s => ch s.1 s.2.1 s.2.2) ⟨0, 0, (List.replicate (w64 ((u1.length : Int) + 1)).toNat (0 : Int))⟩ ci (by exact aA.reg) (by exact C) ?_
  rintro ⟨a, b, g⟩ cl cm cn aC aD
  have D := cj a b g cl
  refine s_ (sqB aC aD [] [] [(22, .bool (decide (b < (u1.length : Int))))] ?_); intro ea v
  refine c_ v D (fun _ co => ?_) fun _ cU => ?_
  ·
   refine k_ (s_ (b_ (sqH ?_))); intro cp aF
   refine bt v aD 3 [] [] [(25, y6 a), (26, .slice ao4 u1.length cap5), (27, i6 b)] ?_; intro eb aG
   obtain ⟨cq, aH⟩ := co
   refine ix_ aG hs6 b cq .i64 109 4 ?_; intro aI aJ cr c ec cs ct cu aK
   have E := aH c cs
   obtain rfl : cr = ([.int .u32 c] : List Value) := cu
   refine z1 aK aD 29 ct 0 (.int .u32 c) rfl ?_; intro ed aL
   refine bt aL aD 3 [] [] [(6, y6 (wu64 (a + (wu64 c))))] ?_; intro ee aM
   apply aF
   refine s_ (sqB aM aD [] [] [(35, .bool (decide (b < (u0.length : Int))))] ?_); intro ef x
   refine c_ x E (fun _ cv => ?_) fun _ cM => ?_
   ·
    refine rgH ?_; intro cw aN
    refine bt x aD 3 [] [] [(36, y6 (wu64 (a + (wu64 c)))), (37, .slice ao1 u0.length cap2), (38, i6 b)] ?_; intro eg aO
    obtain ⟨cx, aP⟩ := cv
    refine ix_ aO hs3 b cx .i64 109 4 ?_; intro cy cz cA m eh cB cC cD aQ
    have cE := aP m cB
    obtain rfl : cA = ([.int .u32 m] : List Value) := cD
    refine z1 aQ aD 40 cC 0 (.int .u32 m) rfl ?_; intro ei aR
    refine bt aR aD 3 [] [] [(6, y6 (wu64 ((wu64 (a + (wu64 c))) + (wu64 m))))] ?_; intro ej aS
    apply aN
    refine t_ (sqH ?_); intro cF aT
    refine bt aS aD 4 [] [] [(43, .slice (sm f) g.length (w64 ((u1.length : Int) + 1)).toNat), (44, i6 b), (46, .int .u32 (wu32 (wu64 ((wu64 (a + (wu64 c))) + (wu64 m)))))] ?_; intro ek aU
    obtain ⟨cG, aV⟩ := cE
    refine ixo aU aD 0 (T := (tyInt .u32)) (xs := g) b cG (k := .i64) (e := 109) (bytes := 4) (nog rfl _) rfl (by kernel_rfl) rfl (by kernel_rfl) (by kernel_rfl) rfl (by kernel_rfl) ?_; intro cH cI cJ F
    obtain rfl : f = cH := by simpa using cJ
    refine so F aD 0 (T := (tyInt .u32)) (xs := g) b.toNat (wu32 (wu64 ((wu64 (a + (wu64 c))) + (wu64 m)))) (u := .int .u32 (wu32 (wu64 ((wu64 (a + (wu64 c))) + (wu64 m))))) (nog rfl _) rfl rfl (by kernel_rfl) rfl (by kernel_rfl) rfl (by kernel_rfl) (by first | omega | (simp only [List.length_set] at *; omega)) rfl ?_; intro cK aW
    have aX : Fr 58 [] [⟨0, [], .slice ao4 u1.length cap5⟩, ⟨1, [], .slice ao1 u0.length cap2⟩, ⟨5, [], .slice (sm f) (g.set b.toNat (wu32 (wu64 ((wu64 (a + (wu64 c))) + (wu64 m))))).length (w64 ((u1.length : Int) + 1)).toNat⟩, ⟨6, [], y6 (wu64 ((wu64 (a + (wu64 c))) + (wu64 m)))⟩, ⟨7, [], i6 b⟩, ⟨22, [], .bool (decide (b < (u1.length : Int)))⟩, ⟨25, [], y6 a⟩, ⟨26, [], .slice ao4 u1.length cap5⟩, ⟨27, [], i6 b⟩, ⟨28, [], pt aI aJ⟩, ⟨29, [], .int .u32 c⟩, ⟨35, [], .bool (decide (b < (u0.length : Int)))⟩, ⟨36, [], y6 (wu64 (a + (wu64 c)))⟩, ⟨37, [], .slice ao1 u0.length cap2⟩, ⟨38, [], i6 b⟩, ⟨39, [], pt cy cz⟩, ⟨40, [], .int .u32 m⟩, ⟨43, [], .slice (sm f) (g.set b.toNat (wu32 (wu64 ((wu64 (a + (wu64 c))) + (wu64 m))))).length (w64 ((u1.length : Int) + 1)).toNat⟩, ⟨44, [], i6 b⟩, ⟨46, [], .int .u32 (wu32 (wu64 ((wu64 (a + (wu64 c))) + (wu64 m))))⟩, ⟨47, [], .pointer (some ⟨f, b.toNat * 1, none⟩)⟩] cI := by (try simp only [List.length_set] at F); (try simp only [List.length_set]); exact F.reg
    have V : Mem w.heap.size [] w Z [.own (tyInt .u32) 109 (sm f) (w64 ((u1.length : Int) + 1)).toNat (g.set b.toNat (wu32 (wu64 ((wu64 (a + (wu64 c))) + (wu64 m)))))] Z cK := aW
    apply aT
    refine rgB aX V [] [] [(6, y6 (bShr .u64 (wu64 ((wu64 (a + (wu64 c))) + (wu64 m))) 32))] ?_; intro el aY
    refine j_ (t_ (rgB aY V [] [] [(7, i6 (w64 (b + 1)))] ?_)); intro em cL
    exact d_ ⟨⟨bShr .u64 (wu64 ((wu64 (a + (wu64 c))) + (wu64 m))) 32, w64 (b + 1), g.set b.toNat (wu32 (wu64 ((wu64 (a + (wu64 c))) + (wu64 m))))⟩, aV.1, aV.2, (cL.reg).anyβ _ (by kernel_rfl), V.kp⟩
   refine k_ (sqH ?_); intro cN aZ
   refine bt x aD 4 [] [] [(43, .slice (sm f) g.length (w64 ((u1.length : Int) + 1)).toNat), (44, i6 b), (46, .int .u32 (wu32 (wu64 (a + (wu64 c)))))] ?_; intro en a1
   obtain ⟨cO, a2⟩ := cM
   refine ixo a1 aD 0 (T := (tyInt .u32)) (xs := g) b cO (k := .i64) (e := 109) (bytes := 4) (nog rfl _) rfl (by kernel_rfl) rfl (by kernel_rfl) (by kernel_rfl) rfl (by kernel_rfl) ?_; intro cP cQ cR G
   obtain rfl : f = cP := by simpa using cR
   refine so G aD 0 (T := (tyInt .u32)) (xs := g) b.toNat (wu32 (wu64 (a + (wu64 c)))) (u := .int .u32 (wu32 (wu64 (a + (wu64 c))))) (nog rfl _) rfl rfl (by kernel_rfl) rfl (by kernel_rfl) rfl (by kernel_rfl) (by first | omega | (simp only [List.length_set] at *; omega)) rfl ?_; intro cS a3
   have a4 : Fr 58 [] [⟨0, [], .slice ao4 u1.length cap5⟩, ⟨1, [], .slice ao1 u0.length cap2⟩, ⟨5, [], .slice (sm f) (g.set b.toNat (wu32 (wu64 (a + (wu64 c))))).length (w64 ((u1.length : Int) + 1)).toNat⟩, ⟨6, [], y6 (wu64 (a + (wu64 c)))⟩, ⟨7, [], i6 b⟩, ⟨22, [], .bool (decide (b < (u1.length : Int)))⟩, ⟨25, [], y6 a⟩, ⟨26, [], .slice ao4 u1.length cap5⟩, ⟨27, [], i6 b⟩, ⟨28, [], pt aI aJ⟩, ⟨29, [], .int .u32 c⟩, ⟨35, [], .bool (decide (b < (u0.length : Int)))⟩, ⟨43, [], .slice (sm f) (g.set b.toNat (wu32 (wu64 (a + (wu64 c))))).length (w64 ((u1.length : Int) + 1)).toNat⟩, ⟨44, [], i6 b⟩, ⟨46, [], .int .u32 (wu32 (wu64 (a + (wu64 c))))⟩, ⟨47, [], .pointer (some ⟨f, b.toNat * 1, none⟩)⟩] cQ := by (try simp only [List.length_set] at G); (try simp only [List.length_set]); exact G.reg
   have W : Mem w.heap.size [] w Z [.own (tyInt .u32) 109 (sm f) (w64 ((u1.length : Int) + 1)).toNat (g.set b.toNat (wu32 (wu64 (a + (wu64 c)))))] Z cS := a3
   apply aZ
   refine rgB a4 W [] [] [(6, y6 (bShr .u64 (wu64 (a + (wu64 c))) 32))] ?_; intro eo a5
   refine j_ (t_ (rgB a5 W [] [] [(7, i6 (w64 (b + 1)))] ?_)); intro ep cT
   exact d_ ⟨⟨bShr .u64 (wu64 (a + (wu64 c))) 32, w64 (b + 1), g.set b.toNat (wu32 (wu64 (a + (wu64 c))))⟩, a2.1, a2.2, (cT.reg).anyβ _ (by kernel_rfl), W.kp⟩
  refine x_ (y_ (y_ (z_ (t_ (sqH ?_))))); intro cV a6
  refine bt v aD 5 [] [] [(50, .slice (sm f) g.length (w64 ((u1.length : Int) + 1)).toNat), (52, i6 (u1.length : Int)), (54, .int .u32 (wu32 a))] ?_; intro eq a7
  obtain ⟨cW, a8⟩ := cU
  refine ixo a7 aD 0 (T := (tyInt .u32)) (xs := g) (u1.length : Int) cW (k := .i64) (e := 109) (bytes := 4) (nog rfl _) rfl (by kernel_rfl) rfl (by kernel_rfl) (by kernel_rfl) rfl (by kernel_rfl) ?_; intro cX cY cZ H
  obtain rfl : f = cX := by simpa using cZ
  refine so H aD 0 (T := (tyInt .u32)) (xs := g) (u1.length : Int).toNat (wu32 a) (u := .int .u32 (wu32 a)) (nog rfl _) rfl rfl (by kernel_rfl) rfl (by kernel_rfl) rfl (by kernel_rfl) (by first | omega | (simp only [List.length_set] at *; omega)) rfl ?_; intro a9 ba
  have bb : Fr 58 [] [⟨0, [], .slice ao4 u1.length cap5⟩, ⟨1, [], .slice ao1 u0.length cap2⟩, ⟨5, [], .slice (sm f) (g.set (u1.length : Int).toNat (wu32 a)).length (w64 ((u1.length : Int) + 1)).toNat⟩, ⟨6, [], y6 a⟩, ⟨7, [], i6 b⟩, ⟨22, [], .bool (decide (b < (u1.length : Int)))⟩, ⟨50, [], .slice (sm f) (g.set (u1.length : Int).toNat (wu32 a)).length (w64 ((u1.length : Int) + 1)).toNat⟩, ⟨52, [], i6 (u1.length : Int)⟩, ⟨54, [], .int .u32 (wu32 a)⟩, ⟨55, [], .pointer (some ⟨f, (u1.length : Int).toNat * 1, none⟩)⟩] cY := by (try simp only [List.length_set] at H); (try simp only [List.length_set]); exact H.reg
  have c0 : Mem w.heap.size [] w Z [.own (tyInt .u32) 109 (sm f) (w64 ((u1.length : Int) + 1)).toNat (g.set (u1.length : Int).toNat (wu32 a))] Z a9 := ba
  apply a6
  refine sqH ?_; intro c1 bc
  refine s1 bb 56 (.slice (sm f) (g.set (u1.length : Int).toNat (wu32 a)).length (w64 ((u1.length : Int) + 1)).toNat) ?_; intro er bd
  obtain ⟨c2, X, be, Y⟩ := c0.freeze 0 rfl
  have aa : Mem w.heap.size [] w Z [] c2 a9 := be
  refine ck bd 111 #[.slice (sm f) (g.set (u1.length : Int).toNat (wu32 a)).length (w64 ((u1.length : Int) + 1)).toNat] ?_
  refine (gtrim_fun (g.set (u1.length : Int).toNat (wu32 a)) (sm f) (w64 ((u1.length : Int) + 1)).toNat _ _ Y aa.fz).mono ?_; rintro _ c3 ⟨ab, ac, bf, rfl, bg, hm⟩; refine ⟨_, rfl, ?_⟩; intro es bh; have bi := aa.callZ hm
  have c4 : Mem w.heap.size [] w Z [] bf c3 := bi
  have c5 := a8 (bg.small)
  refine s1 bh 4 (.slice ab (gtrimS (g.set (u1.length : Int).toNat (wu32 a))).length ac) ?_; intro et c6
  apply bc
  exact r_ (ra1 c6 (.slice ab (gtrimS (g.set (u1.length : Int).toNat (wu32 a))).length ac) ⟨(gtrimS (g.set (u1.length : Int).toNat (wu32 a))), ab, ac, bf, rfl, c5, bg, c4.kp⟩)
 refine k_ (sqH ?_); intro c8 bj
 refine bt q o 3 [] [] [(17, i6 (w64 ((u0.length : Int) + 1)))] ?_; intro eu bk
 obtain ⟨ev, c9⟩ := c7
 refine mks bk o (T := (tyInt .u32)) (w64 ((u0.length : Int) + 1)) (w64 ((u0.length : Int) + 1)) (k := .i64) (k' := .i64) (e := 109) (bytes := 4) (zs := [.int .u32 0]) (z := 0) (by simp only [lim]; omega) (nog rfl _) rfl (by kernel_rfl) rfl (by kernel_rfl) (by kernel_rfl) (by kernel_rfl) (by kernel_rfl) rfl ?_; intro h ew da bl bm
 have J : Mem w.heap.size [] w Z [.own (tyInt .u32) 109 (sm h) (w64 ((u0.length : Int) + 1)).toNat (List.replicate (w64 ((u0.length : Int) + 1)).toNat (0 : Int))] Z da := bm
 refine s1 bl 5 (.slice (sm h) (List.replicate (w64 ((u0.length : Int) + 1)).toNat (0 : Int)).length (w64 ((u0.length : Int) + 1)).toNat) ?_; intro ex bn
 apply bj
 refine sqB bn J [] [] [(6, y6 0)] ?_; intro ey bo
 refine s_ (sqB bo J [] [] [(7, i6 0)] ?_); intro bp bq
 apply b_
 have br : Fr 58 [] [⟨0, [], .slice ao1 u0.length cap2⟩, ⟨1, [], .slice ao4 u1.length cap5⟩, ⟨5, [], .slice (sm h) (List.replicate (w64 ((u0.length : Int) + 1)).toNat (0 : Int)).length (w64 ((u0.length : Int) + 1)).toNat⟩, ⟨6, [], y6 0⟩, ⟨7, [], i6 0⟩] bp := bq.reg
 obtain ⟨db, dc, dd, de⟩ := c9
 refine lp (ι := Int × Int × (List Int)) (fun s => [⟨0, [], .slice ao1 u0.length cap2⟩, ⟨1, [], .slice ao4 u1.length cap5⟩, ⟨5, [], .slice (sm h) s.2.2.length (w64 ((u0.length : Int) + 1)).toNat⟩, ⟨6, [], y6 s.1⟩, ⟨7, [], i6 s.2.1⟩]) (fun s => [.own (tyInt .u32) 109 (sm h) (w64 ((u0.length : Int) + 1)).toNat s.2.2]) (fun s => Z) (fun s => db s.1 s.2.1 s.2.2) (fun s => dc s.1 s.2.1 s.2.2) ⟨0, 0, (List.replicate (w64 ((u0.length : Int) + 1)).toNat (0 : Int))⟩ dd (by exact br.reg) (by exact J) ?_
 rintro ⟨a, b, i⟩ df dg dh bu bv
 have L := de a b i df
 refine s_ (sqB bu bv [] [] [(22, .bool (decide (b < (u0.length : Int))))] ?_); intro ez y
 refine c_ y L (fun _ di => ?_) fun _ dP => ?_
 ·
  refine k_ (s_ (b_ (sqH ?_))); intro dj bx
  refine bt y bv 3 [] [] [(25, y6 a), (26, .slice ao1 u0.length cap2), (27, i6 b)] ?_; intro eA bz
  obtain ⟨dk, bA⟩ := di
  refine ix_ bz hs3 b dk .i64 109 4 ?_; intro bB bC dl d eB dm dn dp bD
  have M := bA d dm
  obtain rfl : dl = ([.int .u32 d] : List Value) := dp
  refine z1 bD bv 29 dn 0 (.int .u32 d) rfl ?_; intro eC bE
  refine bt bE bv 3 [] [] [(6, y6 (wu64 (a + (wu64 d))))] ?_; intro eD bF
  apply bx
  refine s_ (sqB bF bv [] [] [(35, .bool (decide (b < (u1.length : Int))))] ?_); intro eE A
  refine c_ A M (fun _ dq => ?_) fun _ dH => ?_
  ·
   refine rgH ?_; intro dr bG
   refine bt A bv 3 [] [] [(36, y6 (wu64 (a + (wu64 d)))), (37, .slice ao4 u1.length cap5), (38, i6 b)] ?_; intro eF bH
   obtain ⟨ds, bI⟩ := dq
   refine ix_ bH hs6 b ds .i64 109 4 ?_; intro dt du dv n eG dw dx dy bJ
   have dz := bI n dw
   obtain rfl : dv = ([.int .u32 n] : List Value) := dy
   refine z1 bJ bv 40 dx 0 (.int .u32 n) rfl ?_; intro eH bK
   refine bt bK bv 3 [] [] [(6, y6 (wu64 ((wu64 (a + (wu64 d))) + (wu64 n))))] ?_; intro eI bL
   apply bG
   refine t_ (sqH ?_); intro dA bM
   refine bt bL bv 4 [] [] [(43, .slice (sm h) i.length (w64 ((u0.length : Int) + 1)).toNat), (44, i6 b), (46, .int .u32 (wu32 (wu64 ((wu64 (a + (wu64 d))) + (wu64 n)))))] ?_; intro eJ bN
   obtain ⟨dB, bO⟩ := dz
   refine ixo bN bv 0 (T := (tyInt .u32)) (xs := i) b dB (k := .i64) (e := 109) (bytes := 4) (nog rfl _) rfl (by kernel_rfl) rfl (by kernel_rfl) (by kernel_rfl) rfl (by kernel_rfl) ?_; intro dC dD dE N
   obtain rfl : h = dC := by simpa using dE
   refine so N bv 0 (T := (tyInt .u32)) (xs := i) b.toNat (wu32 (wu64 ((wu64 (a + (wu64 d))) + (wu64 n)))) (u := .int .u32 (wu32 (wu64 ((wu64 (a + (wu64 d))) + (wu64 n))))) (nog rfl _) rfl rfl (by kernel_rfl) rfl (by kernel_rfl) rfl (by kernel_rfl) (by first | omega | (simp only [List.length_set] at *; omega)) rfl ?_; intro dF bP
   have bQ : Fr 58 [] [⟨0, [], .slice ao1 u0.length cap2⟩, ⟨1, [], .slice ao4 u1.length cap5⟩, ⟨5, [], .slice (sm h) (i.set b.toNat (wu32 (wu64 ((wu64 (a + (wu64 d))) + (wu64 n))))).length (w64 ((u0.length : Int) + 1)).toNat⟩, ⟨6, [], y6 (wu64 ((wu64 (a + (wu64 d))) + (wu64 n)))⟩, ⟨7, [], i6 b⟩, ⟨22, [], .bool (decide (b < (u0.length : Int)))⟩, ⟨25, [], y6 a⟩, ⟨26, [], .slice ao1 u0.length cap2⟩, ⟨27, [], i6 b⟩, ⟨28, [], pt bB bC⟩, ⟨29, [], .int .u32 d⟩, ⟨35, [], .bool (decide (b < (u1.length : Int)))⟩, ⟨36, [], y6 (wu64 (a + (wu64 d)))⟩, ⟨37, [], .slice ao4 u1.length cap5⟩, ⟨38, [], i6 b⟩, ⟨39, [], pt dt du⟩, ⟨40, [], .int .u32 n⟩, ⟨43, [], .slice (sm h) (i.set b.toNat (wu32 (wu64 ((wu64 (a + (wu64 d))) + (wu64 n))))).length (w64 ((u0.length : Int) + 1)).toNat⟩, ⟨44, [], i6 b⟩, ⟨46, [], .int .u32 (wu32 (wu64 ((wu64 (a + (wu64 d))) + (wu64 n))))⟩, ⟨47, [], .pointer (some ⟨h, b.toNat * 1, none⟩)⟩] dD := by (try simp only [List.length_set] at N); (try simp only [List.length_set]); exact N.reg
   have af : Mem w.heap.size [] w Z [.own (tyInt .u32) 109 (sm h) (w64 ((u0.length : Int) + 1)).toNat (i.set b.toNat (wu32 (wu64 ((wu64 (a + (wu64 d))) + (wu64 n)))))] Z dF := bP
   apply bM
   refine rgB bQ af [] [] [(6, y6 (bShr .u64 (wu64 ((wu64 (a + (wu64 d))) + (wu64 n))) 32))] ?_; intro eK bR
   refine j_ (t_ (rgB bR af [] [] [(7, i6 (w64 (b + 1)))] ?_)); intro eL dG
   exact d_ ⟨⟨bShr .u64 (wu64 ((wu64 (a + (wu64 d))) + (wu64 n))) 32, w64 (b + 1), i.set b.toNat (wu32 (wu64 ((wu64 (a + (wu64 d))) + (wu64 n))))⟩, bO.1, bO.2, (dG.reg).anyβ _ (by kernel_rfl), af.kp⟩
  refine k_ (sqH ?_); intro dI bS
  refine bt A bv 4 [] [] [(43, .slice (sm h) i.length (w64 ((u0.length : Int) + 1)).toNat), (44, i6 b), (46, .int .u32 (wu32 (wu64 (a + (wu64 d)))))] ?_; intro eM bT
  obtain ⟨dJ, bU⟩ := dH
  refine ixo bT bv 0 (T := (tyInt .u32)) (xs := i) b dJ (k := .i64) (e := 109) (bytes := 4) (nog rfl _) rfl (by kernel_rfl) rfl (by kernel_rfl) (by kernel_rfl) rfl (by kernel_rfl) ?_; intro dK dL dM O
  obtain rfl : h = dK := by simpa using dM
  refine so O bv 0 (T := (tyInt .u32)) (xs := i) b.toNat (wu32 (wu64 (a + (wu64 d)))) (u := .int .u32 (wu32 (wu64 (a + (wu64 d))))) (nog rfl _) rfl rfl (by kernel_rfl) rfl (by kernel_rfl) rfl (by kernel_rfl) (by first | omega | (simp only [List.length_set] at *; omega)) rfl ?_; intro dN bV
  have bW : Fr 58 [] [⟨0, [], .slice ao1 u0.length cap2⟩, ⟨1, [], .slice ao4 u1.length cap5⟩, ⟨5, [], .slice (sm h) (i.set b.toNat (wu32 (wu64 (a + (wu64 d))))).length (w64 ((u0.length : Int) + 1)).toNat⟩, ⟨6, [], y6 (wu64 (a + (wu64 d)))⟩, ⟨7, [], i6 b⟩, ⟨22, [], .bool (decide (b < (u0.length : Int)))⟩, ⟨25, [], y6 a⟩, ⟨26, [], .slice ao1 u0.length cap2⟩, ⟨27, [], i6 b⟩, ⟨28, [], pt bB bC⟩, ⟨29, [], .int .u32 d⟩, ⟨35, [], .bool (decide (b < (u1.length : Int)))⟩, ⟨43, [], .slice (sm h) (i.set b.toNat (wu32 (wu64 (a + (wu64 d))))).length (w64 ((u0.length : Int) + 1)).toNat⟩, ⟨44, [], i6 b⟩, ⟨46, [], .int .u32 (wu32 (wu64 (a + (wu64 d))))⟩, ⟨47, [], .pointer (some ⟨h, b.toNat * 1, none⟩)⟩] dL := by (try simp only [List.length_set] at O); (try simp only [List.length_set]); exact O.reg
  have ag : Mem w.heap.size [] w Z [.own (tyInt .u32) 109 (sm h) (w64 ((u0.length : Int) + 1)).toNat (i.set b.toNat (wu32 (wu64 (a + (wu64 d)))))] Z dN := bV
  apply bS
  refine rgB bW ag [] [] [(6, y6 (bShr .u64 (wu64 (a + (wu64 d))) 32))] ?_; intro eN bX
  refine j_ (t_ (rgB bX ag [] [] [(7, i6 (w64 (b + 1)))] ?_)); intro eO dO
  exact d_ ⟨⟨bShr .u64 (wu64 (a + (wu64 d))) 32, w64 (b + 1), i.set b.toNat (wu32 (wu64 (a + (wu64 d))))⟩, bU.1, bU.2, (dO.reg).anyβ _ (by kernel_rfl), ag.kp⟩
 refine x_ (y_ (y_ (z_ (t_ (sqH ?_))))); intro dQ bY
 refine bt y bv 5 [] [] [(50, .slice (sm h) i.length (w64 ((u0.length : Int) + 1)).toNat), (52, i6 (u0.length : Int)), (54, .int .u32 (wu32 a))] ?_; intro eP bZ
 obtain ⟨dR, b0⟩ := dP
 refine ixo bZ bv 0 (T := (tyInt .u32)) (xs := i) (u0.length : Int) dR (k := .i64) (e := 109) (bytes := 4) (nog rfl _) rfl (by kernel_rfl) rfl (by kernel_rfl) (by kernel_rfl) rfl (by kernel_rfl) ?_; intro dS dT dU P
 obtain rfl : h = dS := by simpa using dU
 refine so P bv 0 (T := (tyInt .u32)) (xs := i) (u0.length : Int).toNat (wu32 a) (u := .int .u32 (wu32 a)) (nog rfl _) rfl rfl (by kernel_rfl) rfl (by kernel_rfl) rfl (by kernel_rfl) (by first | omega | (simp only [List.length_set] at *; omega)) rfl ?_; intro b1 b2
 have b3 : Fr 58 [] [⟨0, [], .slice ao1 u0.length cap2⟩, ⟨1, [], .slice ao4 u1.length cap5⟩, ⟨5, [], .slice (sm h) (i.set (u0.length : Int).toNat (wu32 a)).length (w64 ((u0.length : Int) + 1)).toNat⟩, ⟨6, [], y6 a⟩, ⟨7, [], i6 b⟩, ⟨22, [], .bool (decide (b < (u0.length : Int)))⟩, ⟨50, [], .slice (sm h) (i.set (u0.length : Int).toNat (wu32 a)).length (w64 ((u0.length : Int) + 1)).toNat⟩, ⟨52, [], i6 (u0.length : Int)⟩, ⟨54, [], .int .u32 (wu32 a)⟩, ⟨55, [], .pointer (some ⟨h, (u0.length : Int).toNat * 1, none⟩)⟩] dT := by (try simp only [List.length_set] at P); (try simp only [List.length_set]); exact P.reg
 have dV : Mem w.heap.size [] w Z [.own (tyInt .u32) 109 (sm h) (w64 ((u0.length : Int) + 1)).toNat (i.set (u0.length : Int).toNat (wu32 a))] Z b1 := b2
 apply bY
 refine sqH ?_; intro dW b4
 refine s1 b3 56 (.slice (sm h) (i.set (u0.length : Int).toNat (wu32 a)).length (w64 ((u0.length : Int) + 1)).toNat) ?_; intro eQ b5
 obtain ⟨dX, ah, b6, ai⟩ := dV.freeze 0 rfl
 have aj : Mem w.heap.size [] w Z [] dX b1 := b6
 refine ck b5 111 #[.slice (sm h) (i.set (u0.length : Int).toNat (wu32 a)).length (w64 ((u0.length : Int) + 1)).toNat] ?_
 refine (gtrim_fun (i.set (u0.length : Int).toNat (wu32 a)) (sm h) (w64 ((u0.length : Int) + 1)).toNat _ _ ai aj.fz).mono ?_; rintro _ dY ⟨ak, al, b7, rfl, b8, hm⟩; refine ⟨_, rfl, ?_⟩; intro eR b9; have ca := aj.callZ hm
 have dZ : Mem w.heap.size [] w Z [] b7 dY := ca
 have d0 := b0 (b8.small)
 refine s1 b9 4 (.slice ak (gtrimS (i.set (u0.length : Int).toNat (wu32 a))).length al) ?_; intro eS d1
 apply b4
 exact r_ (ra1 d1 (.slice ak (gtrimS (i.set (u0.length : Int).toNat (wu32 a))).length al) ⟨(gtrimS (i.set (u0.length : Int).toNat (wu32 a))), ak, al, b7, rfl, d0, b8, dZ.kp⟩)

theorem gsub_walk (u0 : List Int) (u1 : List Int) (ao1 : Option Addr) (cap2 : Nat) (ao4 : Option Addr) (cap5 : Nat) (Z : Fz) (w : World) (hs3 : SlR (tyInt .u32) Z ao1 cap2 u0) (hs6 : SlR (tyInt .u32) Z ao4 cap5 u1) (hZ : Z.on w) {K : (List Int) → Prop} (hp : gsub_vc u0 u1 K) : Calls Tryd.prog 87 #[.slice ao1 u0.length cap2, .slice ao4 u1.length cap5] w fun e w' => ∃ (r : (List Int)) (ao1001 : Option Addr) (cap1002 : Nat) (Z' : Fz), e = .returned (.slice ao1001 r.length cap1002) ∧ K r ∧ SlR (tyInt .u32) Z' ao1001 cap1002 r ∧ Mem w.heap.size [] w Z [] Z' w' := by
 refine enter0 Tryd.func87 rfl rfl (by kernel_rfl) ?_; intro a0 I; have l := Mem.start w Z hZ
 have aM := hp (hs3.small) (hs6.small)
 refine sqB I l [] [] [] ?_; intro bB L
 refine sqH ?_; intro aN M
 refine bt L l 2 [] [] [(10, i6 (u0.length : Int))] ?_; intro bC N
 obtain ⟨bD, aO⟩ := aM
 refine mks N l (T := (tyInt .u32)) (u0.length : Int) (u0.length : Int) (k := .i64) (k' := .i64) (e := 109) (bytes := 4) (zs := [.int .u32 0]) (z := 0) (by simp only [lim]; omega) (nog rfl _) rfl (by kernel_rfl) rfl (by kernel_rfl) (by kernel_rfl) (by kernel_rfl) (by kernel_rfl) rfl ?_; intro d bE aP O P
 have n : Mem w.heap.size [] w Z [.own (tyInt .u32) 109 (sm d) (u0.length : Int).toNat (List.replicate (u0.length : Int).toNat (0 : Int))] Z aP := P
 refine s1 O 5 (.slice (sm d) (List.replicate (u0.length : Int).toNat (0 : Int)).length (u0.length : Int).toNat) ?_; intro bF Q
 apply M
 refine sqB Q n [] [] [(6, y6 0)] ?_; intro bG R
 refine s_ (sqB R n [] [] [(7, i6 0)] ?_); intro S U
 apply b_
 have V : Fr 45 [] [⟨0, [], .slice ao1 u0.length cap2⟩, ⟨1, [], .slice ao4 u1.length cap5⟩, ⟨5, [], .slice (sm d) (List.replicate (u0.length : Int).toNat (0 : Int)).length (u0.length : Int).toNat⟩, ⟨6, [], y6 0⟩, ⟨7, [], i6 0⟩] S := U.reg
 obtain ⟨aQ, aR, aS, aT⟩ := aO
 refine lp (ι := Int × Int × (List Int)) (fun s => [⟨0, [], .slice ao1 u0.length cap2⟩, ⟨1, [], .slice ao4 u1.length cap5⟩, ⟨5, [], .slice (sm d) s.2.2.length (u0.length : Int).toNat⟩, ⟨6, [], y6 s.1⟩, ⟨7, [], i6 s.2.1⟩]) (fun s => [.own (tyInt .u32) 109 (sm d) (u0.length : Int).toNat s.2.2]) (fun s => Z) (fun s => aQ s.1 s.2.1 s.2.2) (fun s => aR s.1 s.2.1 s.2.2) ⟨0, 0, (List.replicate (u0.length : Int).toNat (0 : Int))⟩ aS (by exact V.reg) (by exact n) ?_
 rintro ⟨c, a, f⟩ aU aV X Y aa
 have o := aT c a f aU
 refine s_ (sqB Y aa [] [] [(15, .bool (decide (a < (u0.length : Int))))] ?_); intro bH i
 refine c_ i o (fun _ aW => ?_) fun _ aE => ?_
 ·
  refine k_ (s_ (b_ (sqH ?_))); intro aX ac
  refine bt i aa 2 [] [] [(18, .slice ao1 u0.length cap2), (19, i6 a)] ?_; intro bI ad
  obtain ⟨aY, ae⟩ := aW
  refine ix_ ad hs3 a aY .i64 109 4 ?_; intro af ag aZ b bJ a1 a2 a3 ah
  have p := ae b a1
  obtain rfl : aZ = ([.int .u32 b] : List Value) := a3
  refine z1 ah aa 21 a2 0 (.int .u32 b) rfl ?_; intro bK ai
  refine bt ai aa 4 [] [] [(8, y6 (wu64 ((wu64 b) - c)))] ?_; intro bL aj
  apply ac
  refine s_ (sqB aj aa [] [] [(28, .bool (decide (a < (u1.length : Int))))] ?_); intro bM j
  refine c_ j p (fun _ a4 => ?_) fun _ bl => ?_
  ·
   refine rgH ?_; intro a5 ak
   refine bt j aa 3 [] [] [(29, y6 (wu64 ((wu64 b) - c))), (30, .slice ao4 u1.length cap5), (31, i6 a)] ?_; intro bN al
   obtain ⟨a6, am⟩ := a4
   refine ix_ al hs6 a a6 .i64 109 4 ?_; intro a7 a8 a9 h bO ba bb bc an
   have bd := am h ba
   obtain rfl : a9 = ([.int .u32 h] : List Value) := bc
   refine z1 an aa 33 bb 0 (.int .u32 h) rfl ?_; intro bP ao
   refine bt ao aa 3 [] [] [(8, y6 (wu64 ((wu64 ((wu64 b) - c)) - (wu64 h))))] ?_; intro bQ ap
   apply ak
   refine t_ (sqH ?_); intro be aq
   refine bt ap aa 4 [] [] [(36, .slice (sm d) f.length (u0.length : Int).toNat), (37, i6 a), (39, .int .u32 (wu32 (wu64 ((wu64 ((wu64 b) - c)) - (wu64 h)))))] ?_; intro bR ar
   obtain ⟨bf, au⟩ := bd
   refine ixo ar aa 0 (T := (tyInt .u32)) (xs := f) a bf (k := .i64) (e := 109) (bytes := 4) (nog rfl _) rfl (by kernel_rfl) rfl (by kernel_rfl) (by kernel_rfl) rfl (by kernel_rfl) ?_; intro bg bh bi q
   obtain rfl : d = bg := by simpa using bi
   refine so q aa 0 (T := (tyInt .u32)) (xs := f) a.toNat (wu32 (wu64 ((wu64 ((wu64 b) - c)) - (wu64 h)))) (u := .int .u32 (wu32 (wu64 ((wu64 ((wu64 b) - c)) - (wu64 h))))) (nog rfl _) rfl rfl (by kernel_rfl) rfl (by kernel_rfl) rfl (by kernel_rfl) (by first | omega | (simp only [List.length_set] at *; omega)) rfl ?_; intro bj av
   have aw : Fr 45 [] [⟨0, [], .slice ao1 u0.length cap2⟩, ⟨1, [], .slice ao4 u1.length cap5⟩, ⟨5, [], .slice (sm d) (f.set a.toNat (wu32 (wu64 ((wu64 ((wu64 b) - c)) - (wu64 h))))).length (u0.length : Int).toNat⟩, ⟨6, [], y6 c⟩, ⟨7, [], i6 a⟩, ⟨8, [], y6 (wu64 ((wu64 ((wu64 b) - c)) - (wu64 h)))⟩, ⟨15, [], .bool (decide (a < (u0.length : Int)))⟩, ⟨18, [], .slice ao1 u0.length cap2⟩, ⟨19, [], i6 a⟩, ⟨20, [], pt af ag⟩, ⟨21, [], .int .u32 b⟩, ⟨28, [], .bool (decide (a < (u1.length : Int)))⟩, ⟨29, [], y6 (wu64 ((wu64 b) - c))⟩, ⟨30, [], .slice ao4 u1.length cap5⟩, ⟨31, [], i6 a⟩, ⟨32, [], pt a7 a8⟩, ⟨33, [], .int .u32 h⟩, ⟨36, [], .slice (sm d) (f.set a.toNat (wu32 (wu64 ((wu64 ((wu64 b) - c)) - (wu64 h))))).length (u0.length : Int).toNat⟩, ⟨37, [], i6 a⟩, ⟨39, [], .int .u32 (wu32 (wu64 ((wu64 ((wu64 b) - c)) - (wu64 h))))⟩, ⟨40, [], .pointer (some ⟨d, a.toNat * 1, none⟩)⟩] bh := by (try simp only [List.length_set] at q); (try simp only [List.length_set]); exact q.reg
   have B : Mem w.heap.size [] w Z [.own (tyInt .u32) 109 (sm d) (u0.length : Int).toNat (f.set a.toNat (wu32 (wu64 ((wu64 ((wu64 b) - c)) - (wu64 h)))))] Z bj := av
   apply aq
   refine rgB aw B [] [] [(6, y6 (bShr .u64 (wu64 ((wu64 ((wu64 b) - c)) - (wu64 h))) 63))] ?_; intro bS ax
   refine j_ (t_ (rgB ax B [] [] [(7, i6 (w64 (a + 1)))] ?_)); intro bT bk
   exact d_ ⟨⟨bShr .u64 (wu64 ((wu64 ((wu64 b) - c)) - (wu64 h))) 63, w64 (a + 1), f.set a.toNat (wu32 (wu64 ((wu64 ((wu64 b) - c)) - (wu64 h))))⟩, au.1, au.2, (bk.reg).anyβ _ (by kernel_rfl), B.kp⟩
  refine k_ (sqH ?_); intro bm ay
  refine bt j aa 4 [] [] [(36, .slice (sm d) f.length (u0.length : Int).toNat), (37, i6 a), (39, .int .u32 (wu32 (wu64 ((wu64 b) - c))))] ?_; intro bU az
  obtain ⟨bn, aA⟩ := bl
  refine ixo az aa 0 (T := (tyInt .u32)) (xs := f) a bn (k := .i64) (e := 109) (bytes := 4) (nog rfl _) rfl (by kernel_rfl) rfl (by kernel_rfl) (by kernel_rfl) rfl (by kernel_rfl) ?_; intro bo bp bq v
  obtain rfl : d = bo := by simpa using bq
  refine so v aa 0 (T := (tyInt .u32)) (xs := f) a.toNat (wu32 (wu64 ((wu64 b) - c))) (u := .int .u32 (wu32 (wu64 ((wu64 b) - c)))) (nog rfl _) rfl rfl (by kernel_rfl) rfl (by kernel_rfl) rfl (by kernel_rfl) (by first | omega | (simp only [List.length_set] at *; omega)) rfl ?_; intro br aB
  have aC : Fr 45 [] [⟨0, [], .slice ao1 u0.length cap2⟩, ⟨1, [], .slice ao4 u1.length cap5⟩, ⟨5, [], .slice (sm d) (f.set a.toNat (wu32 (wu64 ((wu64 b) - c)))).length (u0.length : Int).toNat⟩, ⟨6, [], y6 c⟩, ⟨7, [], i6 a⟩, ⟨8, [], y6 (wu64 ((wu64 b) - c))⟩, ⟨15, [], .bool (decide (a < (u0.length : Int)))⟩, ⟨18, [], .slice ao1 u0.length cap2⟩, ⟨19, [], i6 a⟩, ⟨20, [], pt af ag⟩, ⟨21, [], .int .u32 b⟩, ⟨28, [], .bool (decide (a < (u1.length : Int)))⟩, ⟨36, [], .slice (sm d) (f.set a.toNat (wu32 (wu64 ((wu64 b) - c)))).length (u0.length : Int).toNat⟩, ⟨37, [], i6 a⟩, ⟨39, [], .int .u32 (wu32 (wu64 ((wu64 b) - c)))⟩, ⟨40, [], .pointer (some ⟨d, a.toNat * 1, none⟩)⟩] bp := by (try simp only [List.length_set] at v); (try simp only [List.length_set]); exact v.reg
  have C : Mem w.heap.size [] w Z [.own (tyInt .u32) 109 (sm d) (u0.length : Int).toNat (f.set a.toNat (wu32 (wu64 ((wu64 b) - c))))] Z br := aB
  apply ay
  refine rgB aC C [] [] [(6, y6 (bShr .u64 (wu64 ((wu64 b) - c)) 63))] ?_; intro bV aD
  refine j_ (t_ (rgB aD C [] [] [(7, i6 (w64 (a + 1)))] ?_)); intro bW bs
  exact d_ ⟨⟨bShr .u64 (wu64 ((wu64 b) - c)) 63, w64 (a + 1), f.set a.toNat (wu32 (wu64 ((wu64 b) - c)))⟩, aA.1, aA.2, (bs.reg).anyβ _ (by kernel_rfl), C.kp⟩
 refine x_ (y_ (y_ (z_ (t_ (sqH ?_))))); intro bu aF
 refine s1 i 43 (.slice (sm d) f.length (u0.length : Int).toNat) ?_; intro bX aG
 obtain ⟨bv, D, aH, E⟩ := aa.freeze 0 rfl
 have F : Mem w.heap.size [] w Z [] bv X := aH
 refine ck aG 111 #[.slice (sm d) f.length (u0.length : Int).toNat] ?_
 refine (gtrim_fun f (sm d) (u0.length : Int).toNat _ _ E F.fz).mono ?_; rintro _ bw ⟨G, H, aI, rfl, aJ, hm⟩; refine ⟨_, rfl, ?_⟩; intro bY aK; have aL := F.callZ hm
 have bx : Mem w.heap.size [] w Z [] aI bw := aL
 have bz := aE (aJ.small)
 refine s1 aK 4 (.slice G (gtrimS f).length H) ?_; intro bZ bA
 apply aF
 exact r_ (ra1 bA (.slice G (gtrimS f).length H) ⟨(gtrimS f), G, H, aI, rfl, bz, aJ, bx.kp⟩)

theorem gleft_walk (u0 : List Int) (u1 : Int) (ao1 : Option Addr) (cap2 : Nat) (Z : Fz) (w : World) (hs3 : SlR (tyInt .u32) Z ao1 cap2 u0) (hZ : Z.on w) {K : (List Int) → Prop} (hp : gleft_vc u0 u1 K) : Calls Tryd.prog 84 #[.slice ao1 u0.length cap2, y6 u1] w fun e w' => ∃ (r : (List Int)) (ao1001 : Option Addr) (cap1002 : Nat) (Z' : Fz), e = .returned (.slice ao1001 r.length cap1002) ∧ K r ∧ SlR (tyInt .u32) Z' ao1001 cap1002 r ∧ Mem w.heap.size [] w Z [] Z' w' := by
 refine enter0 Tryd.func84 rfl rfl (by kernel_rfl) ?_; intro a0 I; have j := Mem.start w Z hZ
 have p := hp (hs3.small)
 refine sqB I j [] [] [] ?_; intro a6 J
 refine s_ (sqB J j [] [] [(12, .bool ((u0.length : Int) == 0))] ?_); intro bN m
 refine c_ m p (fun _ aN => ?_) fun _ aP => ?_
 ·
  refine sqB m j [] [] [(4, .slice none 0 0)] ?_; intro bO aO
  exact r_ (h_ (ra1 aO (.slice none 0 0) ⟨[], none, 0, Z, rfl, aN, (SlR.nil _ _), j.kp⟩))
 refine k_ (sqB m j [] [] [(5, i6 (w64 (wu64 (u1.tdiv 32)))), (6, y6 (u1.tmod 32))] ?_); intro bP L
 refine sqH ?_; intro aQ M
 refine bt L j 5 [] [] [(22, i6 (w64 ((w64 ((u0.length : Int) + (w64 (wu64 (u1.tdiv 32))))) + 1)))] ?_; intro bQ N
 obtain ⟨bR, aR⟩ := aP
 refine mks N j (T := (tyInt .u32)) (w64 ((w64 ((u0.length : Int) + (w64 (wu64 (u1.tdiv 32))))) + 1)) (w64 ((w64 ((u0.length : Int) + (w64 (wu64 (u1.tdiv 32))))) + 1)) (k := .i64) (k' := .i64) (e := 109) (bytes := 4) (zs := [.int .u32 0]) (z := 0) (by simp only [lim]; omega) (nog rfl _) rfl (by kernel_rfl) rfl (by kernel_rfl) (by kernel_rfl) (by kernel_rfl) (by kernel_rfl) rfl ?_; intro c bS aS O P
 have A : Mem w.heap.size [] w Z [.own (tyInt .u32) 109 (sm c) (w64 ((w64 ((u0.length : Int) + (w64 (wu64 (u1.tdiv 32))))) + 1)).toNat (List.replicate (w64 ((w64 ((u0.length : Int) + (w64 (wu64 (u1.tdiv 32))))) + 1)).toNat (0 : Int))] Z aS := P
 refine s1 O 7 (.slice (sm c) (List.replicate (w64 ((w64 ((u0.length : Int) + (w64 (wu64 (u1.tdiv 32))))) + 1)).toNat (0 : Int)).length (w64 ((w64 ((u0.length : Int) + (w64 (wu64 (u1.tdiv 32))))) + 1)).toNat) ?_; intro bT Q
 apply M
 refine s_ (sqB Q A [] [] [(8, i6 0)] ?_); intro R S
 apply b_
 have U : Fr 61 [] [⟨0, [], .slice ao1 u0.length cap2⟩, ⟨5, [], i6 (w64 (wu64 (u1.tdiv 32)))⟩, ⟨6, [], y6 (u1.tmod 32)⟩, ⟨7, [], .slice (sm c) (List.replicate (w64 ((w64 ((u0.length : Int) + (w64 (wu64 (u1.tdiv 32))))) + 1)).toNat (0 : Int)).length (w64 ((w64 ((u0.length : Int) + (w64 (wu64 (u1.tdiv 32))))) + 1)).toNat⟩, ⟨8, [], i6 0⟩] R := S.reg
 obtain ⟨aT, aU, aV, aW⟩ := aR
 refine lp (ι := Int × (List Int)) (fun s => [⟨0, [], .slice ao1 u0.length cap2⟩, ⟨5, [], i6 (w64 (wu64 (u1.tdiv 32)))⟩, ⟨6, [], y6 (u1.tmod 32)⟩, ⟨7, [], .slice (sm c) s.2.length (w64 ((w64 ((u0.length : Int) + (w64 (wu64 (u1.tdiv 32))))) + 1)).toNat⟩, ⟨8, [], i6 s.1⟩]) (fun s => [.own (tyInt .u32) 109 (sm c) (w64 ((w64 ((u0.length : Int) + (w64 (wu64 (u1.tdiv 32))))) + 1)).toNat s.2]) (fun s => Z) (fun s => aT s.1 s.2) (fun s => aU s.1 s.2) ⟨0, (List.replicate (w64 ((w64 ((u0.length : Int) + (w64 (wu64 (u1.tdiv 32))))) + 1)).toNat (0 : Int))⟩ aV (by exact U.reg) (by exact A) ?_
 rintro ⟨a, d⟩ aX aY W X Y
 have q := aW a d aX
 refine s_ (sqB X Y [] [] [(27, .bool (decide (a < (u0.length : Int))))] ?_); intro bU n
 refine c_ n q (fun _ aZ => ?_) fun _ aE => ?_
 ·
  refine k_ (s_ (b_ (sqH ?_))); intro a1 ab
  refine bt n Y 2 [] [] [(30, .slice ao1 u0.length cap2), (31, i6 a)] ?_; intro bV ac
  obtain ⟨a2, ad⟩ := aZ
  refine ix_ ac hs3 a a2 .i64 109 4 ?_; intro ae af a3 b bW a4 a5 a7 ag
  have a8 := ad b a4
  obtain rfl : a3 = ([.int .u32 b] : List Value) := a7
  refine z1 ag Y 33 a5 0 (.int .u32 b) rfl ?_; intro bX ah
  refine bt ah Y 2 [] [] [(34, y6 (wu64 b)), (35, y6 (u1.tmod 32))] ?_; intro bY C
  obtain ⟨a9, ba⟩ := a8
  refine u_ C (y6 (bShl .u64 (wu64 b) (u1.tmod 32))) (shl_run C (g := []) (k' := .u64) rfl (by kernel_rfl) (by kernel_rfl) a9 rfl) ?_; intro bZ ai
  refine s1 ai 9 (y6 (bShl .u64 (wu64 b) (u1.tmod 32))) ?_; intro b0 aj
  apply ab
  refine sqH ?_; intro bb ak
  refine bt aj Y 4 [] [] [(37, .slice (sm c) d.length (w64 ((w64 ((u0.length : Int) + (w64 (wu64 (u1.tdiv 32))))) + 1)).toNat), (40, i6 (w64 (a + (w64 (wu64 (u1.tdiv 32))))))] ?_; intro b1 al
  obtain ⟨bc, am⟩ := ba
  refine ixo al Y 0 (T := (tyInt .u32)) (xs := d) (w64 (a + (w64 (wu64 (u1.tdiv 32))))) bc (k := .i64) (e := 109) (bytes := 4) (nog rfl _) rfl (by kernel_rfl) rfl (by kernel_rfl) (by kernel_rfl) rfl (by kernel_rfl) ?_; intro bd b2 be an
  obtain rfl : c = bd := by simpa using be
  obtain ⟨f, bf, bg⟩ := gxq am (by first | omega | (simp only [List.length_set] at *; omega))
  obtain ⟨bh, bi, bj⟩ := own_el Y 0 (T := (tyInt .u32)) (xs := d) rfl (w64 (a + (w64 (wu64 (u1.tdiv 32))))).toNat bf
  obtain rfl : bh = ([.int .u32 f] : List Value) := bi
  refine lc1 an 42 (.int .u32 f) (bj 0 _ rfl) rfl ?_; intro b3 ao
  refine bt ao Y 3 [] [] [(45, .int .u32 (bOr .u32 f (wu32 (bShl .u64 (wu64 b) (u1.tmod 32)))))] ?_; intro b4 ap
  obtain ⟨bk, bl⟩ := bg
  refine ixo ap Y 0 (T := (tyInt .u32)) (xs := d) (w64 (a + (w64 (wu64 (u1.tdiv 32))))) bk (k := .i64) (e := 109) (bytes := 4) (nog rfl _) rfl (by kernel_rfl) rfl (by kernel_rfl) (by kernel_rfl) rfl (by kernel_rfl) ?_; intro bm bn bo v
  obtain rfl : c = bm := by simpa using bo
  refine so v Y 0 (T := (tyInt .u32)) (xs := d) (w64 (a + (w64 (wu64 (u1.tdiv 32))))).toNat (bOr .u32 f (wu32 (bShl .u64 (wu64 b) (u1.tmod 32)))) (u := .int .u32 (bOr .u32 f (wu32 (bShl .u64 (wu64 b) (u1.tmod 32))))) (nog rfl _) rfl rfl (by kernel_rfl) rfl (by kernel_rfl) rfl (by kernel_rfl) (by first | omega | (simp only [List.length_set] at *; omega)) rfl ?_; intro bp aq
  have ar : Fr 61 [] [⟨0, [], .slice ao1 u0.length cap2⟩, ⟨5, [], i6 (w64 (wu64 (u1.tdiv 32)))⟩, ⟨6, [], y6 (u1.tmod 32)⟩, ⟨7, [], .slice (sm c) (d.set (w64 (a + (w64 (wu64 (u1.tdiv 32))))).toNat (bOr .u32 f (wu32 (bShl .u64 (wu64 b) (u1.tmod 32))))).length (w64 ((w64 ((u0.length : Int) + (w64 (wu64 (u1.tdiv 32))))) + 1)).toNat⟩, ⟨8, [], i6 a⟩, ⟨9, [], y6 (bShl .u64 (wu64 b) (u1.tmod 32))⟩, ⟨27, [], .bool (decide (a < (u0.length : Int)))⟩, ⟨30, [], .slice ao1 u0.length cap2⟩, ⟨31, [], i6 a⟩, ⟨32, [], pt ae af⟩, ⟨33, [], .int .u32 b⟩, ⟨34, [], y6 (wu64 b)⟩, ⟨35, [], y6 (u1.tmod 32)⟩, ⟨36, [], y6 (bShl .u64 (wu64 b) (u1.tmod 32))⟩, ⟨37, [], .slice (sm c) (d.set (w64 (a + (w64 (wu64 (u1.tdiv 32))))).toNat (bOr .u32 f (wu32 (bShl .u64 (wu64 b) (u1.tmod 32))))).length (w64 ((w64 ((u0.length : Int) + (w64 (wu64 (u1.tdiv 32))))) + 1)).toNat⟩, ⟨40, [], i6 (w64 (a + (w64 (wu64 (u1.tdiv 32)))))⟩, ⟨41, [], .pointer (some ⟨c, (w64 (a + (w64 (wu64 (u1.tdiv 32))))).toNat * 1, none⟩)⟩, ⟨42, [], .int .u32 f⟩, ⟨45, [], .int .u32 (bOr .u32 f (wu32 (bShl .u64 (wu64 b) (u1.tmod 32))))⟩, ⟨46, [], .pointer (some ⟨c, (w64 (a + (w64 (wu64 (u1.tdiv 32))))).toNat * 1, none⟩)⟩] bn := by (try simp only [List.length_set] at v); (try simp only [List.length_set]); exact v.reg
  have l : Mem w.heap.size [] w Z [.own (tyInt .u32) 109 (sm c) (w64 ((w64 ((u0.length : Int) + (w64 (wu64 (u1.tdiv 32))))) + 1)).toNat (d.set (w64 (a + (w64 (wu64 (u1.tdiv 32))))).toNat (bOr .u32 f (wu32 (bShl .u64 (wu64 b) (u1.tmod 32)))))] Z bp := aq
  apply ak
  refine rgH ?_; intro bq au
  refine bt ar l 5 [] [] [(47, .slice (sm c) (d.set (w64 (a + (w64 (wu64 (u1.tdiv 32))))).toNat (bOr .u32 f (wu32 (bShl .u64 (wu64 b) (u1.tmod 32))))).length (w64 ((w64 ((u0.length : Int) + (w64 (wu64 (u1.tdiv 32))))) + 1)).toNat), (51, i6 (w64 ((w64 (a + (w64 (wu64 (u1.tdiv 32))))) + 1)))] ?_; intro b5 av
  obtain ⟨br, aw⟩ := bl
  refine ixo av l 0 (T := (tyInt .u32)) (xs := d.set (w64 (a + (w64 (wu64 (u1.tdiv 32))))).toNat (bOr .u32 f (wu32 (bShl .u64 (wu64 b) (u1.tmod 32))))) (w64 ((w64 (a + (w64 (wu64 (u1.tdiv 32))))) + 1)) br (k := .i64) (e := 109) (bytes := 4) (nog rfl _) rfl (by kernel_rfl) rfl (by kernel_rfl) (by kernel_rfl) rfl (by kernel_rfl) ?_; intro bs b6 bu ax
  obtain rfl : c = bs := by simpa using bu
  obtain ⟨i, bv, bw⟩ := gxq aw (by first | omega | (simp only [List.length_set] at *; omega))
  obtain ⟨bx, bz, bA⟩ := own_el l 0 (T := (tyInt .u32)) (xs := d.set (w64 (a + (w64 (wu64 (u1.tdiv 32))))).toNat (bOr .u32 f (wu32 (bShl .u64 (wu64 b) (u1.tmod 32))))) rfl (w64 ((w64 (a + (w64 (wu64 (u1.tdiv 32))))) + 1)).toNat bv
  obtain rfl : bx = ([.int .u32 i] : List Value) := bz
  refine lc1 ax 53 (.int .u32 i) (bA 0 _ rfl) rfl ?_; intro b7 ay
  refine bt ay l 4 [] [] [(57, .int .u32 (bOr .u32 i (wu32 (bShr .u64 (bShl .u64 (wu64 b) (u1.tmod 32)) 32))))] ?_; intro b8 az
  obtain ⟨bB, aA⟩ := bw
  refine ixo az l 0 (T := (tyInt .u32)) (xs := d.set (w64 (a + (w64 (wu64 (u1.tdiv 32))))).toNat (bOr .u32 f (wu32 (bShl .u64 (wu64 b) (u1.tmod 32))))) (w64 ((w64 (a + (w64 (wu64 (u1.tdiv 32))))) + 1)) bB (k := .i64) (e := 109) (bytes := 4) (nog rfl _) rfl (by kernel_rfl) rfl (by kernel_rfl) (by kernel_rfl) rfl (by kernel_rfl) ?_; intro bC bD bE x
  obtain rfl : c = bC := by simpa using bE
  refine so x l 0 (T := (tyInt .u32)) (xs := d.set (w64 (a + (w64 (wu64 (u1.tdiv 32))))).toNat (bOr .u32 f (wu32 (bShl .u64 (wu64 b) (u1.tmod 32))))) (w64 ((w64 (a + (w64 (wu64 (u1.tdiv 32))))) + 1)).toNat (bOr .u32 i (wu32 (bShr .u64 (bShl .u64 (wu64 b) (u1.tmod 32)) 32))) (u := .int .u32 (bOr .u32 i (wu32 (bShr .u64 (bShl .u64 (wu64 b) (u1.tmod 32)) 32)))) (nog rfl _) rfl rfl (by kernel_rfl) rfl (by kernel_rfl) rfl (by kernel_rfl) (by first | omega | (simp only [List.length_set] at *; omega)) rfl ?_; intro bF aB
  have aC : Fr 61 [] [⟨0, [], .slice ao1 u0.length cap2⟩, ⟨5, [], i6 (w64 (wu64 (u1.tdiv 32)))⟩, ⟨6, [], y6 (u1.tmod 32)⟩, ⟨7, [], .slice (sm c) ((d.set (w64 (a + (w64 (wu64 (u1.tdiv 32))))).toNat (bOr .u32 f (wu32 (bShl .u64 (wu64 b) (u1.tmod 32))))).set (w64 ((w64 (a + (w64 (wu64 (u1.tdiv 32))))) + 1)).toNat (bOr .u32 i (wu32 (bShr .u64 (bShl .u64 (wu64 b) (u1.tmod 32)) 32)))).length (w64 ((w64 ((u0.length : Int) + (w64 (wu64 (u1.tdiv 32))))) + 1)).toNat⟩, ⟨8, [], i6 a⟩, ⟨9, [], y6 (bShl .u64 (wu64 b) (u1.tmod 32))⟩, ⟨27, [], .bool (decide (a < (u0.length : Int)))⟩, ⟨30, [], .slice ao1 u0.length cap2⟩, ⟨31, [], i6 a⟩, ⟨32, [], pt ae af⟩, ⟨33, [], .int .u32 b⟩, ⟨34, [], y6 (wu64 b)⟩, ⟨35, [], y6 (u1.tmod 32)⟩, ⟨36, [], y6 (bShl .u64 (wu64 b) (u1.tmod 32))⟩, ⟨37, [], .slice (sm c) ((d.set (w64 (a + (w64 (wu64 (u1.tdiv 32))))).toNat (bOr .u32 f (wu32 (bShl .u64 (wu64 b) (u1.tmod 32))))).set (w64 ((w64 (a + (w64 (wu64 (u1.tdiv 32))))) + 1)).toNat (bOr .u32 i (wu32 (bShr .u64 (bShl .u64 (wu64 b) (u1.tmod 32)) 32)))).length (w64 ((w64 ((u0.length : Int) + (w64 (wu64 (u1.tdiv 32))))) + 1)).toNat⟩, ⟨40, [], i6 (w64 (a + (w64 (wu64 (u1.tdiv 32)))))⟩, ⟨41, [], .pointer (some ⟨c, (w64 (a + (w64 (wu64 (u1.tdiv 32))))).toNat * 1, none⟩)⟩, ⟨42, [], .int .u32 f⟩, ⟨45, [], .int .u32 (bOr .u32 f (wu32 (bShl .u64 (wu64 b) (u1.tmod 32))))⟩, ⟨46, [], .pointer (some ⟨c, (w64 (a + (w64 (wu64 (u1.tdiv 32))))).toNat * 1, none⟩)⟩, ⟨47, [], .slice (sm c) ((d.set (w64 (a + (w64 (wu64 (u1.tdiv 32))))).toNat (bOr .u32 f (wu32 (bShl .u64 (wu64 b) (u1.tmod 32))))).set (w64 ((w64 (a + (w64 (wu64 (u1.tdiv 32))))) + 1)).toNat (bOr .u32 i (wu32 (bShr .u64 (bShl .u64 (wu64 b) (u1.tmod 32)) 32)))).length (w64 ((w64 ((u0.length : Int) + (w64 (wu64 (u1.tdiv 32))))) + 1)).toNat⟩, ⟨51, [], i6 (w64 ((w64 (a + (w64 (wu64 (u1.tdiv 32))))) + 1))⟩, ⟨52, [], .pointer (some ⟨c, (w64 ((w64 (a + (w64 (wu64 (u1.tdiv 32))))) + 1)).toNat * 1, none⟩)⟩, ⟨53, [], .int .u32 i⟩, ⟨57, [], .int .u32 (bOr .u32 i (wu32 (bShr .u64 (bShl .u64 (wu64 b) (u1.tmod 32)) 32)))⟩, ⟨58, [], .pointer (some ⟨c, (w64 ((w64 (a + (w64 (wu64 (u1.tdiv 32))))) + 1)).toNat * 1, none⟩)⟩] bD := by (try simp only [List.length_set] at x); (try simp only [List.length_set]); exact x.reg
  have aD : Mem w.heap.size [] w Z [.own (tyInt .u32) 109 (sm c) (w64 ((w64 ((u0.length : Int) + (w64 (wu64 (u1.tdiv 32))))) + 1)).toNat ((d.set (w64 (a + (w64 (wu64 (u1.tdiv 32))))).toNat (bOr .u32 f (wu32 (bShl .u64 (wu64 b) (u1.tmod 32))))).set (w64 ((w64 (a + (w64 (wu64 (u1.tdiv 32))))) + 1)).toNat (bOr .u32 i (wu32 (bShr .u64 (bShl .u64 (wu64 b) (u1.tmod 32)) 32))))] Z bF := aB
  apply au
  refine j_ (t_ (rgB aC aD [] [] [(8, i6 (w64 (a + 1)))] ?_)); intro b9 bG
  exact d_ ⟨⟨w64 (a + 1), (d.set (w64 (a + (w64 (wu64 (u1.tdiv 32))))).toNat (bOr .u32 f (wu32 (bShl .u64 (wu64 b) (u1.tmod 32))))).set (w64 ((w64 (a + (w64 (wu64 (u1.tdiv 32))))) + 1)).toNat (bOr .u32 i (wu32 (bShr .u64 (bShl .u64 (wu64 b) (u1.tmod 32)) 32)))⟩, aA.1, aA.2, (bG.reg).anyβ _ (by kernel_rfl), aD.kp⟩
 refine x_ (y_ (y_ (z_ (t_ (sqH ?_))))); intro bH aF
 refine s1 n 59 (.slice (sm c) d.length (w64 ((w64 ((u0.length : Int) + (w64 (wu64 (u1.tdiv 32))))) + 1)).toNat) ?_; intro ca aG
 obtain ⟨bI, aH, aI, D⟩ := Y.freeze 0 rfl
 have E : Mem w.heap.size [] w Z [] bI W := aI
 refine ck aG 111 #[.slice (sm c) d.length (w64 ((w64 ((u0.length : Int) + (w64 (wu64 (u1.tdiv 32))))) + 1)).toNat] ?_
 refine (gtrim_fun d (sm c) (w64 ((w64 ((u0.length : Int) + (w64 (wu64 (u1.tdiv 32))))) + 1)).toNat _ _ D E.fz).mono ?_; rintro _ bJ ⟨F, G, aJ, rfl, aK, hm⟩; refine ⟨_, rfl, ?_⟩; intro cb aL; have aM := E.callZ hm
 have bK : Mem w.heap.size [] w Z [] aJ bJ := aM
 have bL := aE (aK.small)
 refine s1 aL 4 (.slice F (gtrimS d).length G) ?_; intro cc bM
 apply aF
 exact r_ (ra1 bM (.slice F (gtrimS d).length G) ⟨(gtrimS d), F, G, aJ, rfl, bL, aK, bK.kp⟩)

theorem gright_walk (u0 : List Int) (u1 : Int) (ao1 : Option Addr) (cap2 : Nat) (Z : Fz) (w : World) (hs3 : SlR (tyInt .u32) Z ao1 cap2 u0) (hZ : Z.on w) {K : (List Int) → Prop} (hp : gright_vc u0 u1 K) : Calls Tryd.prog 86 #[.slice ao1 u0.length cap2, y6 u1] w fun e w' => ∃ (r : (List Int)) (ao1001 : Option Addr) (cap1002 : Nat) (Z' : Fz), e = .returned (.slice ao1001 r.length cap1002) ∧ K r ∧ SlR (tyInt .u32) Z' ao1001 cap1002 r ∧ Mem w.heap.size [] w Z [] Z' w' := by
 refine enter0 Tryd.func86 rfl rfl (by kernel_rfl) ?_; intro a0 L; have i := Mem.start w Z hZ
 have o := hp (hs3.small)
 refine sqB L i [] [] [] ?_; intro a6 M
 refine sqB M i [] [] [(5, i6 (w64 (wu64 (u1.tdiv 32)))), (6, y6 (u1.tmod 32))] ?_; intro bM N
 refine s_ (sqB N i [] [] [(18, .bool (decide ((w64 (wu64 (u1.tdiv 32))) ≥ (u0.length : Int))))] ?_); intro bN j
 refine c_ j o (fun _ aQ => ?_) fun _ aS => ?_
 ·
  refine sqB j i [] [] [(4, .slice none 0 0)] ?_; intro bO aR
  exact r_ (h_ (ra1 aR (.slice none 0 0) ⟨[], none, 0, Z, rfl, aQ, (SlR.nil _ _), i.kp⟩))
 refine k_ (sqH ?_); intro aT O
 refine bt j i 4 [] [] [(22, i6 (w64 ((u0.length : Int) - (w64 (wu64 (u1.tdiv 32))))))] ?_; intro bP P
 obtain ⟨bQ, aU⟩ := aS
 refine mks P i (T := (tyInt .u32)) (w64 ((u0.length : Int) - (w64 (wu64 (u1.tdiv 32))))) (w64 ((u0.length : Int) - (w64 (wu64 (u1.tdiv 32))))) (k := .i64) (k' := .i64) (e := 109) (bytes := 4) (zs := [.int .u32 0]) (z := 0) (by simp only [lim]; omega) (nog rfl _) rfl (by kernel_rfl) rfl (by kernel_rfl) (by kernel_rfl) (by kernel_rfl) (by kernel_rfl) rfl ?_; intro d bR aV Q R
 have A : Mem w.heap.size [] w Z [.own (tyInt .u32) 109 (sm d) (w64 ((u0.length : Int) - (w64 (wu64 (u1.tdiv 32))))).toNat (List.replicate (w64 ((u0.length : Int) - (w64 (wu64 (u1.tdiv 32))))).toNat (0 : Int))] Z aV := R
 refine s1 Q 7 (.slice (sm d) (List.replicate (w64 ((u0.length : Int) - (w64 (wu64 (u1.tdiv 32))))).toNat (0 : Int)).length (w64 ((u0.length : Int) - (w64 (wu64 (u1.tdiv 32))))).toNat) ?_; intro bS S
 apply O
 refine s_ (sqB S A [] [] [(8, i6 0)] ?_); intro U V
 apply b_
 have W : Fr 64 [] [⟨0, [], .slice ao1 u0.length cap2⟩, ⟨5, [], i6 (w64 (wu64 (u1.tdiv 32)))⟩, ⟨6, [], y6 (u1.tmod 32)⟩, ⟨7, [], .slice (sm d) (List.replicate (w64 ((u0.length : Int) - (w64 (wu64 (u1.tdiv 32))))).toNat (0 : Int)).length (w64 ((u0.length : Int) - (w64 (wu64 (u1.tdiv 32))))).toNat⟩, ⟨8, [], i6 0⟩] U := V.reg
 obtain ⟨aW, aX, aY, aZ⟩ := aU
 refine lp (ι := Int × (List Int)) (fun s => [⟨0, [], .slice ao1 u0.length cap2⟩, ⟨5, [], i6 (w64 (wu64 (u1.tdiv 32)))⟩, ⟨6, [], y6 (u1.tmod 32)⟩, ⟨7, [], .slice (sm d) s.2.length (w64 ((u0.length : Int) - (w64 (wu64 (u1.tdiv 32))))).toNat⟩, ⟨8, [], i6 s.1⟩]) (fun s => [.own (tyInt .u32) 109 (sm d) (w64 ((u0.length : Int) - (w64 (wu64 (u1.tdiv 32))))).toNat s.2]) (fun s => Z) (fun s => aW s.1 s.2) (fun s => aX s.1 s.2) ⟨0, (List.replicate (w64 ((u0.length : Int) - (w64 (wu64 (u1.tdiv 32))))).toNat (0 : Int))⟩ aY (by exact W.reg) (by exact A) ?_
 rintro ⟨a, c⟩ a1 a2 Y aa ab
 have p := aZ a c a1
 refine s_ (sqB aa ab [] [] [(27, .bool (decide (a < (c.length : Int))))] ?_); intro bT l
 refine c_ l p (fun _ a3 => ?_) fun _ aH => ?_
 ·
  refine k_ (s_ (b_ (sqH ?_))); intro a4 ad
  refine bt l ab 4 [] [] [(30, .slice ao1 u0.length cap2), (33, i6 (w64 (a + (w64 (wu64 (u1.tdiv 32))))))] ?_; intro bU ae
  obtain ⟨a5, af⟩ := a3
  refine ix_ ae hs3 (w64 (a + (w64 (wu64 (u1.tdiv 32))))) a5 .i64 109 4 ?_; intro ag ah a7 b bV a8 a9 ba ai
  have q := af b a8
  obtain rfl : a7 = ([.int .u32 b] : List Value) := ba
  refine z1 ai ab 35 a9 0 (.int .u32 b) rfl ?_; intro bW aj
  refine bt aj ab 2 [] [] [(9, y6 (wu64 b))] ?_; intro bX ak
  apply ad
  refine s_ (sqB ak ab [] [] [(43, .bool (decide ((w64 ((w64 (a + (w64 (wu64 (u1.tdiv 32))))) + 1)) < (u0.length : Int))))] ?_); intro bY m
  refine c_ m q (fun _ bb => ?_) fun _ bv => ?_
  ·
   refine rgH ?_; intro bc al
   refine bt m ab 6 [] [] [(44, y6 (wu64 b)), (45, .slice ao1 u0.length cap2), (49, i6 (w64 ((w64 (a + (w64 (wu64 (u1.tdiv 32))))) + 1)))] ?_; intro bZ am
   obtain ⟨bd, an⟩ := bb
   refine ix_ am hs3 (w64 ((w64 (a + (w64 (wu64 (u1.tdiv 32))))) + 1)) bd .i64 109 4 ?_; intro be bf bg f b0 bh bi bj ao
   have bk := an f bh
   obtain rfl : bg = ([.int .u32 f] : List Value) := bj
   refine z1 ao ab 51 bi 0 (.int .u32 f) rfl ?_; intro b1 ap
   refine bt ap ab 4 [] [] [(9, y6 (bOr .u64 (wu64 b) (bShl .u64 (wu64 f) 32)))] ?_; intro b2 aq
   apply al
   refine t_ (rgH ?_); intro bl ar
   refine bt aq ab 4 [] [] [(55, .slice (sm d) c.length (w64 ((u0.length : Int) - (w64 (wu64 (u1.tdiv 32))))).toNat), (56, i6 a), (57, y6 (bOr .u64 (wu64 b) (bShl .u64 (wu64 f) 32))), (58, y6 (u1.tmod 32))] ?_; intro b3 D
   obtain ⟨bm, bn⟩ := bk
   refine u_ D (y6 (bShr .u64 (bOr .u64 (wu64 b) (bShl .u64 (wu64 f) 32)) (u1.tmod 32))) (shr_run D (g := []) (k' := .u64) rfl (by kernel_rfl) (by kernel_rfl) bm rfl) ?_; intro b4 au
   refine s1 au 60 (.int .u32 (wu32 (bShr .u64 (bOr .u64 (wu64 b) (bShl .u64 (wu64 f) 32)) (u1.tmod 32)))) ?_; intro b5 av
   obtain ⟨bo, aw⟩ := bn
   refine ixo av ab 0 (T := (tyInt .u32)) (xs := c) a bo (k := .i64) (e := 109) (bytes := 4) (nog rfl _) rfl (by kernel_rfl) rfl (by kernel_rfl) (by kernel_rfl) rfl (by kernel_rfl) ?_; intro bp bq br v
   obtain rfl : d = bp := by simpa using br
   refine so v ab 0 (T := (tyInt .u32)) (xs := c) a.toNat (wu32 (bShr .u64 (bOr .u64 (wu64 b) (bShl .u64 (wu64 f) 32)) (u1.tmod 32))) (u := .int .u32 (wu32 (bShr .u64 (bOr .u64 (wu64 b) (bShl .u64 (wu64 f) 32)) (u1.tmod 32)))) (nog rfl _) rfl rfl (by kernel_rfl) rfl (by kernel_rfl) rfl (by kernel_rfl) (by first | omega | (simp only [List.length_set] at *; omega)) rfl ?_; intro bs ax
   have ay : Fr 64 [] [⟨0, [], .slice ao1 u0.length cap2⟩, ⟨5, [], i6 (w64 (wu64 (u1.tdiv 32)))⟩, ⟨6, [], y6 (u1.tmod 32)⟩, ⟨7, [], .slice (sm d) (c.set a.toNat (wu32 (bShr .u64 (bOr .u64 (wu64 b) (bShl .u64 (wu64 f) 32)) (u1.tmod 32)))).length (w64 ((u0.length : Int) - (w64 (wu64 (u1.tdiv 32))))).toNat⟩, ⟨8, [], i6 a⟩, ⟨9, [], y6 (bOr .u64 (wu64 b) (bShl .u64 (wu64 f) 32))⟩, ⟨27, [], .bool (decide (a < (c.length : Int)))⟩, ⟨30, [], .slice ao1 u0.length cap2⟩, ⟨33, [], i6 (w64 (a + (w64 (wu64 (u1.tdiv 32)))))⟩, ⟨34, [], pt ag ah⟩, ⟨35, [], .int .u32 b⟩, ⟨43, [], .bool (decide ((w64 ((w64 (a + (w64 (wu64 (u1.tdiv 32))))) + 1)) < (u0.length : Int)))⟩, ⟨44, [], y6 (wu64 b)⟩, ⟨45, [], .slice ao1 u0.length cap2⟩, ⟨49, [], i6 (w64 ((w64 (a + (w64 (wu64 (u1.tdiv 32))))) + 1))⟩, ⟨50, [], pt be bf⟩, ⟨51, [], .int .u32 f⟩, ⟨55, [], .slice (sm d) (c.set a.toNat (wu32 (bShr .u64 (bOr .u64 (wu64 b) (bShl .u64 (wu64 f) 32)) (u1.tmod 32)))).length (w64 ((u0.length : Int) - (w64 (wu64 (u1.tdiv 32))))).toNat⟩, ⟨56, [], i6 a⟩, ⟨57, [], y6 (bOr .u64 (wu64 b) (bShl .u64 (wu64 f) 32))⟩, ⟨58, [], y6 (u1.tmod 32)⟩, ⟨59, [], y6 (bShr .u64 (bOr .u64 (wu64 b) (bShl .u64 (wu64 f) 32)) (u1.tmod 32))⟩, ⟨60, [], .int .u32 (wu32 (bShr .u64 (bOr .u64 (wu64 b) (bShl .u64 (wu64 f) 32)) (u1.tmod 32)))⟩, ⟨61, [], .pointer (some ⟨d, a.toNat * 1, none⟩)⟩] bq := by (try simp only [List.length_set] at v); (try simp only [List.length_set]); exact v.reg
   have az : Mem w.heap.size [] w Z [.own (tyInt .u32) 109 (sm d) (w64 ((u0.length : Int) - (w64 (wu64 (u1.tdiv 32))))).toNat (c.set a.toNat (wu32 (bShr .u64 (bOr .u64 (wu64 b) (bShl .u64 (wu64 f) 32)) (u1.tmod 32))))] Z bs := ax
   apply ar
   refine j_ (t_ (rgB ay az [] [] [(8, i6 (w64 (a + 1)))] ?_)); intro b6 bu
   exact d_ ⟨⟨w64 (a + 1), c.set a.toNat (wu32 (bShr .u64 (bOr .u64 (wu64 b) (bShl .u64 (wu64 f) 32)) (u1.tmod 32)))⟩, aw.1, aw.2, (bu.reg).anyβ _ (by kernel_rfl), az.kp⟩
  refine k_ (rgH ?_); intro bw aA
  refine bt m ab 4 [] [] [(55, .slice (sm d) c.length (w64 ((u0.length : Int) - (w64 (wu64 (u1.tdiv 32))))).toNat), (56, i6 a), (57, y6 (wu64 b)), (58, y6 (u1.tmod 32))] ?_; intro b7 E
  obtain ⟨bx, bz⟩ := bv
  refine u_ E (y6 (bShr .u64 (wu64 b) (u1.tmod 32))) (shr_run E (g := []) (k' := .u64) rfl (by kernel_rfl) (by kernel_rfl) bx rfl) ?_; intro b8 aB
  refine s1 aB 60 (.int .u32 (wu32 (bShr .u64 (wu64 b) (u1.tmod 32)))) ?_; intro b9 aC
  obtain ⟨bA, aD⟩ := bz
  refine ixo aC ab 0 (T := (tyInt .u32)) (xs := c) a bA (k := .i64) (e := 109) (bytes := 4) (nog rfl _) rfl (by kernel_rfl) rfl (by kernel_rfl) (by kernel_rfl) rfl (by kernel_rfl) ?_; intro bB bC bD x
  obtain rfl : d = bB := by simpa using bD
  refine so x ab 0 (T := (tyInt .u32)) (xs := c) a.toNat (wu32 (bShr .u64 (wu64 b) (u1.tmod 32))) (u := .int .u32 (wu32 (bShr .u64 (wu64 b) (u1.tmod 32)))) (nog rfl _) rfl rfl (by kernel_rfl) rfl (by kernel_rfl) rfl (by kernel_rfl) (by first | omega | (simp only [List.length_set] at *; omega)) rfl ?_; intro bE aE
  have aF : Fr 64 [] [⟨0, [], .slice ao1 u0.length cap2⟩, ⟨5, [], i6 (w64 (wu64 (u1.tdiv 32)))⟩, ⟨6, [], y6 (u1.tmod 32)⟩, ⟨7, [], .slice (sm d) (c.set a.toNat (wu32 (bShr .u64 (wu64 b) (u1.tmod 32)))).length (w64 ((u0.length : Int) - (w64 (wu64 (u1.tdiv 32))))).toNat⟩, ⟨8, [], i6 a⟩, ⟨9, [], y6 (wu64 b)⟩, ⟨27, [], .bool (decide (a < (c.length : Int)))⟩, ⟨30, [], .slice ao1 u0.length cap2⟩, ⟨33, [], i6 (w64 (a + (w64 (wu64 (u1.tdiv 32)))))⟩, ⟨34, [], pt ag ah⟩, ⟨35, [], .int .u32 b⟩, ⟨43, [], .bool (decide ((w64 ((w64 (a + (w64 (wu64 (u1.tdiv 32))))) + 1)) < (u0.length : Int)))⟩, ⟨55, [], .slice (sm d) (c.set a.toNat (wu32 (bShr .u64 (wu64 b) (u1.tmod 32)))).length (w64 ((u0.length : Int) - (w64 (wu64 (u1.tdiv 32))))).toNat⟩, ⟨56, [], i6 a⟩, ⟨57, [], y6 (wu64 b)⟩, ⟨58, [], y6 (u1.tmod 32)⟩, ⟨59, [], y6 (bShr .u64 (wu64 b) (u1.tmod 32))⟩, ⟨60, [], .int .u32 (wu32 (bShr .u64 (wu64 b) (u1.tmod 32)))⟩, ⟨61, [], .pointer (some ⟨d, a.toNat * 1, none⟩)⟩] bC := by (try simp only [List.length_set] at x); (try simp only [List.length_set]); exact x.reg
  have aG : Mem w.heap.size [] w Z [.own (tyInt .u32) 109 (sm d) (w64 ((u0.length : Int) - (w64 (wu64 (u1.tdiv 32))))).toNat (c.set a.toNat (wu32 (bShr .u64 (wu64 b) (u1.tmod 32))))] Z bE := aE
  apply aA
  refine j_ (t_ (rgB aF aG [] [] [(8, i6 (w64 (a + 1)))] ?_)); intro ca bF
  exact d_ ⟨⟨w64 (a + 1), c.set a.toNat (wu32 (bShr .u64 (wu64 b) (u1.tmod 32)))⟩, aD.1, aD.2, (bF.reg).anyβ _ (by kernel_rfl), aG.kp⟩
 refine x_ (y_ (y_ (z_ (t_ (sqH ?_))))); intro bG aI
 refine s1 l 62 (.slice (sm d) c.length (w64 ((u0.length : Int) - (w64 (wu64 (u1.tdiv 32))))).toNat) ?_; intro cb aJ
 obtain ⟨bH, aK, aL, F⟩ := ab.freeze 0 rfl
 have G : Mem w.heap.size [] w Z [] bH Y := aL
 refine ck aJ 111 #[.slice (sm d) c.length (w64 ((u0.length : Int) - (w64 (wu64 (u1.tdiv 32))))).toNat] ?_
 refine (gtrim_fun c (sm d) (w64 ((u0.length : Int) - (w64 (wu64 (u1.tdiv 32))))).toNat _ _ F G.fz).mono ?_; rintro _ bI ⟨H, I, aM, rfl, aN, hm⟩; refine ⟨_, rfl, ?_⟩; intro cc aO; have aP := G.callZ hm
 have bJ : Mem w.heap.size [] w Z [] aM bI := aP
 have bK := aH (aN.small)
 refine s1 aO 4 (.slice H (gtrimS c).length I) ?_; intro ce bL
 apply aI
 exact r_ (ra1 bL (.slice H (gtrimS c).length I) ⟨(gtrimS c), H, I, aM, rfl, bK, aN, bJ.kp⟩)

end Go.Proofs.YtdndfbamhnchfaaDoor
set_option linter.unusedVariables false
set_option linter.unusedSimpArgs false
set_option linter.defProp false
set_option maxRecDepth 100000
set_option maxHeartbeats 0
namespace Go.Proofs.YtdndfbamhnchfaaDoor
open Go.Sy Go.RowKit
abbrev e71Nc (X : BRat) (A0 : Option Addr) (C0 : Nat) (A1 : Option Addr) (C1 : Nat) : List Value := [.bool X.a.neg, .slice A0 X.a.abs.length C0, .bool X.b.neg, .slice A1 X.b.abs.length C1]
def gplain_fun (u0 : List Int) (hpre : wok u0) (ao1 : Option Addr) (cap2 : Nat) (Z : Fz) (w : World) (hs3 : SlR (tyInt .u32) Z ao1 cap2 u0) (hZ : Z.on w) := f_ (gplain_walk u0 ao1 cap2 Z w hs3 hZ (gplain_ok u0 hpre))
def gcmp_fun (u0 : List Int) (u1 : List Int) (hpre : u0.length ≤ 1000 ∧ u1.length ≤ 1000 ∧ u0 = ws (wv u0) ∧ u1 = ws (wv u1)) (ao1 : Option Addr) (cap2 : Nat) (ao4 : Option Addr) (cap5 : Nat) (Z : Fz) (w : World) (hs3 : SlR (tyInt .u32) Z ao1 cap2 u0) (hs6 : SlR (tyInt .u32) Z ao4 cap5 u1) (hZ : Z.on w) := f_ (gcmp_walk u0 u1 ao1 cap2 ao4 cap5 Z w hs3 hs6 hZ (gcmp_ok u0 u1 hpre))
def gtwin_fun (u0 : List Int) (hpre : u0.length ≤ 1000000) (ao1 : Option Addr) (cap2 : Nat) (Z : Fz) (w : World) (hs3 : SlR (tyInt .u32) Z ao1 cap2 u0) (hZ : Z.on w) := fc_ (gtwin_walk u0 ao1 cap2 Z w hs3 hZ (gtwin_ok u0 hpre))
def gwords_fun (u0 : Int) (hpre : 0 ≤ u0 ∧ u0 ≤ 18446744073709551615)  (Z : Fz) (w : World)  (hZ : Z.on w) := fc_ (gwords_walk u0  Z w  hZ (gwords_ok u0 hpre))
def gmul_fun (u0 : List Int) (u1 : List Int) (hpre : wok u0 ∧ wok u1 ∧ u0.length ≤ 1000 ∧ u1.length ≤ 1000) (ao1 : Option Addr) (cap2 : Nat) (ao4 : Option Addr) (cap5 : Nat) (Z : Fz) (w : World) (hs3 : SlR (tyInt .u32) Z ao1 cap2 u0) (hs6 : SlR (tyInt .u32) Z ao4 cap5 u1) (hZ : Z.on w) := fc_ (gmul_walk u0 u1 ao1 cap2 ao4 cap5 Z w hs3 hs6 hZ (gmul_ok u0 u1 hpre))
def gadd_fun (u0 : List Int) (u1 : List Int) (hpre : wok u0 ∧ wok u1 ∧ u0.length ≤ 1000000 ∧ u1.length ≤ 1000000) (ao1 : Option Addr) (cap2 : Nat) (ao4 : Option Addr) (cap5 : Nat) (Z : Fz) (w : World) (hs3 : SlR (tyInt .u32) Z ao1 cap2 u0) (hs6 : SlR (tyInt .u32) Z ao4 cap5 u1) (hZ : Z.on w) := fc_ (gadd_walk u0 u1 ao1 cap2 ao4 cap5 Z w hs3 hs6 hZ (gadd_ok u0 u1 hpre))
def gsub_fun (u0 : List Int) (u1 : List Int) (hpre : wok u0 ∧ wok u1 ∧ u0.length ≤ 1000 ∧ u1.length ≤ u0.length ∧ wv u1 ≤ wv u0) (ao1 : Option Addr) (cap2 : Nat) (ao4 : Option Addr) (cap5 : Nat) (Z : Fz) (w : World) (hs3 : SlR (tyInt .u32) Z ao1 cap2 u0) (hs6 : SlR (tyInt .u32) Z ao4 cap5 u1) (hZ : Z.on w) := fc_ (gsub_walk u0 u1 ao1 cap2 ao4 cap5 Z w hs3 hs6 hZ (gsub_ok u0 u1 hpre))
theorem gdiv_walk (u0 : List Int) (u1 : List Int) (ao1 : Option Addr) (cap2 : Nat) (ao4 : Option Addr) (cap5 : Nat) (Z : Fz) (w : World) (hs3 : SlR (tyInt .u32) Z ao1 cap2 u0) (hs6 : SlR (tyInt .u32) Z ao4 cap5 u1) (hZ : Z.on w) {K : ((List Int) × (List Int)) → Prop} (hp : gdiv_vc u0 u1 K) : Calls Tryd.prog 128 #[.slice ao1 u0.length cap2, .slice ao4 u1.length cap5] w fun e w' => ∃ (r : (List Int) × (List Int)) (ao1001 : Option Addr) (cap1002 : Nat) (ao1004 : Option Addr) (cap1005 : Nat) (Z' : Fz), e = .returned (.tuple #[.slice ao1001 r.1.length cap1002, .slice ao1004 r.2.length cap1005]) ∧ K r ∧ SlR (tyInt .u32) Z' ao1001 cap1002 r.1 ∧ SlR (tyInt .u32) Z' ao1004 cap1005 r.2 ∧ Mem w.heap.size [] w Z [] Z' w' := by
 refine enter0 Tryd.func128 rfl rfl (by kernel_rfl) ?_; intro a0 G; have c := Mem.start w Z hZ
 have an := hp (hs3.small) (hs6.small)
 refine sqB G c [] [] [] ?_; intro a2 I
 refine s_ (sqB I c [] [] [(30, .bool ((u1.length : Int) == 0))] ?_); intro a3 n
 obtain ⟨ao, ap⟩ := an
 refine cn n ao ?_
 refine k_ (s_ (sqH ?_)); intro aq J
 refine bt n c 2 [] [] [(31, .slice ao1 u0.length cap2), (32, .slice ao4 u1.length cap5)] ?_; intro a4 L
 obtain ⟨ar, i⟩ := ap
 refine fc L c (gcmp_fun u0 u1 ar ao1 cap2 ao4 cap5 _ _ hs3 hs6 c.fz) ?_; intro a5 a6 M b
 refine s1 M 34 (.bool (decide ((gcmpS u0 u1) < 0))) ?_; intro a7 f
 apply J
 refine c_ f i (fun _ au => ?_) fun _ aC => ?_
 ·
  refine sqH ?_; intro av N
  refine s1 f 35 (.slice ao1 u0.length cap2) ?_; intro a8 O
  obtain ⟨aw, P⟩ := au
  refine ck O 88 #[.slice ao1 u0.length cap2] ?_
  refine (gtwin_fun u0 aw ao1 cap2 _ _ hs3 b.fz).mono ?_; rintro _ Q ⟨j, k, ax, rfl, hm⟩; refine ⟨_, rfl, ?_⟩; intro a9 R; have S := b.callZ hm
  have q : Mem w.heap.size [] w Z [.own (tyInt .u32) 109 j k (gtwinS u0)] ax Q := S
  have ay := P (q.ownSmall 0 rfl)
  refine bt R q 2 [] [] [(4, .slice none 0 0), (5, .slice j (gtwinS u0).length k)] ?_; intro ba az
  apply N
  refine r_ (h_ ?_)
  obtain ⟨T, s, U, aA⟩ := q.freeze 0 rfl
  have aB : Mem w.heap.size [] w Z [] T Q := U
  exact ra2 az (.tuple #[.slice none 0 0, .slice j (gtwinS u0).length k]) ⟨([], (gtwinS u0)), none, 0, j, k, T, rfl, ay, (SlR.nil _ _), aA, aB.kp⟩
 refine k_ (s_ (sqB f b [] [] [(39, .bool (decide ((u0.length : Int) ≤ 2)))] ?_)); intro bb u
 obtain ⟨aD, aE⟩ := aC
 refine cy u aD ?_
 refine sqH ?_; intro aF V
 refine s1 u 40 (.slice ao1 u0.length cap2) ?_; intro bc W
 obtain ⟨aG, aH⟩ := aE
 refine fc W b (gplain_fun u0 aG ao1 cap2 _ _ hs3 b.fz) ?_; intro bd be X v
 refine s1 X 42 (.slice ao4 u1.length cap5) ?_; intro bf Y
 obtain ⟨aI, aJ⟩ := aH
 refine fc Y v (gplain_fun u1 aI ao4 cap5 _ _ hs6 v.fz) ?_; intro bg bh aa x
 refine bt aa x 2 [] [] [(6, y6 (gplainS u0)), (7, y6 (gplainS u1))] ?_; intro aK ab
 apply V
 have ac : Fr 273 [] [⟨6, [], y6 (gplainS u0)⟩, ⟨7, [], y6 (gplainS u1)⟩] aK := ab.reg
 refine wp_seq (rgS mixed x [(0, true), (1, true), (4, true), (5, true), (2, true), (6, true), (3, false), (7, false), (8, true), (9, true)] [] [] [] ?_)
 intro aL ad bi y
 have d := Fz.le.refl Z
 refine cS ac 4 [] [] [(44, y6 (gplainS u0)), (45, y6 (gplainS u1)), (48, y6 (gplainS u0)), (49, y6 (gplainS u1))] ?_; intro bj z
 obtain ⟨aM, aN⟩ := aJ
 refine cst rfl z (y6 (wu64 ((gplainS u0).tdiv (gplainS u1)))) (nog rfl _) rfl (by kernel_rfl) (fun v108 hC => quo_run z (g := []) rfl (by kernel_rfl) (by kernel_rfl) aM rfl) ?_; intro bk A
 obtain ⟨aO, aP⟩ := aN
 refine cst rfl A (y6 ((gplainS u0).tmod (gplainS u1))) (nog rfl _) rfl (by kernel_rfl) (fun v113 hC => rem_run A (g := []) rfl (by kernel_rfl) (by kernel_rfl) aO rfl) ?_; intro bl ae
 refine eS rfl ?_; intro aQ af
 obtain ⟨aR, aS⟩ := aP
 refine ck ae 110 #[y6 (wu64 ((gplainS u0).tdiv (gplainS u1)))] ?_
 refine (gwords_fun (wu64 ((gplainS u0).tdiv (gplainS u1))) aR _ _ y.fz).mono ?_; rintro _ aT ⟨B, C, aU, rfl, D, hm⟩; refine ⟨_, rfl, ?_⟩; intro bm ag; have ah := y.callZ hm; have l := hm.ext.le
 replace d := d.mono l
 have m : Mem w.heap.size [] w Z [] aU aT := ah
 refine nl (qnI (af _ _ (m.cst d []) ?_))
 refine eS rfl ?_; intro aV ai
 obtain ⟨aW, aX⟩ := aS
 refine ck ag 110 #[y6 ((gplainS u0).tmod (gplainS u1))] ?_
 refine (gwords_fun ((gplainS u0).tmod (gplainS u1)) aW _ _ m.fz).mono ?_; rintro _ aY ⟨E, F, aj, rfl, aZ, hm⟩; refine ⟨_, rfl, ?_⟩; intro bn ak; have al := m.callZ hm; have h := hm.ext.le
 replace d := d.mono h
 replace D := D.mono h
 have am : Mem w.heap.size [] w Z [] aj aY := al
 refine nl (qnI (ai _ _ (am.cst d []) ?_))
 refine cS ak 2 [] [] [(4, .slice B (gwordsS (wu64 ((gplainS u0).tdiv (gplainS u1)))).length C), (5, .slice E (gwordsS ((gplainS u0).tmod (gplainS u1))).length F)] ?_; intro bo a1
 refine nS (ad _ _ ?_)
 exact t_ (r_ (h_ (ra2 a1 (.tuple #[.slice B (gwordsS (wu64 ((gplainS u0).tdiv (gplainS u1)))).length C, .slice E (gwordsS ((gplainS u0).tmod (gplainS u1))).length F]) ⟨((gwordsS (wu64 ((gplainS u0).tdiv (gplainS u1)))), (gwordsS ((gplainS u0).tmod (gplainS u1)))), B, C, E, F, aj, rfl, aX, D, aZ, am.kp⟩)))

theorem gcom_walk (u0 : List Int) (u1 : List Int) (ao1 : Option Addr) (cap2 : Nat) (ao4 : Option Addr) (cap5 : Nat) (Z : Fz) (w : World) (hs3 : SlR (tyInt .u32) Z ao1 cap2 u0) (hs6 : SlR (tyInt .u32) Z ao4 cap5 u1) (hZ : Z.on w) {K : (List Int) → Prop} (hp : gcom_vc u0 u1 K) : Calls Tryd.prog 127 #[.slice ao1 u0.length cap2, .slice ao4 u1.length cap5] w fun e w' => ∃ (r : (List Int)) (ao1001 : Option Addr) (cap1002 : Nat) (Z' : Fz), e = .returned (.slice ao1001 r.length cap1002) ∧ K r ∧ SlR (tyInt .u32) Z' ao1001 cap1002 r ∧ Mem w.heap.size [] w Z [] Z' w' := by
 refine enter0 Tryd.func127 rfl rfl (by kernel_rfl) ?_; intro a0 H; have q := Mem.start w Z hZ
 have av := hp (hs3.small) (hs6.small)
 refine sqB H q [] [] [] ?_; intro L M
 refine s_ (b_ ?_)
 have N : Fr 49 [] [⟨0, [], .slice ao1 u0.length cap2⟩, ⟨1, [], .slice ao4 u1.length cap5⟩] L := M.reg
 obtain ⟨aw, ax, ay, az⟩ := av
 refine lp (ι := (List Int) × (List Int) × (Option Addr) × Nat × (Option Addr) × Nat) (fun s => [⟨0, [], .slice s.2.2.1 s.1.length s.2.2.2.1⟩, ⟨1, [], .slice s.2.2.2.2.1 s.2.1.length s.2.2.2.2.2⟩]) (fun s => []) (fun s => Z) (fun s => aw s.1 s.2.1 ∧ SlR (tyInt .u32) Z s.2.2.1 s.2.2.2.1 s.1 ∧ SlR (tyInt .u32) Z s.2.2.2.2.1 s.2.2.2.2.2 s.2.1) (fun s => ax s.1 s.2.1) ⟨u0, u1, ao1, cap2, ao4, cap5⟩ ⟨ay, hs3, hs6⟩ (by exact N.reg) (by exact q) ?_
 rintro ⟨b, d, h, i, u, v⟩ ⟨aA, n, x⟩ aB aC P Q
 have aD := az b d aA
 refine s_ (sqB P Q [] [] [(13, .bool (decide ((d.length : Int) > 2)))] ?_); intro ba y
 obtain ⟨aE, o⟩ := aD
 refine cn y aE ?_
 refine x_ (y_ (y_ (z_ (t_ (s_ (sqB y Q [] [] [(24, .bool ((d.length : Int) == 0))] ?_)))))); intro bb k
 refine c_ k o (fun _ aF => ?_) fun _ aH => ?_
 ·
  refine sqB k Q [] [] [(4, .slice h b.length i)] ?_; intro bc aG
  exact r_ (h_ (ra1 aG (.slice h b.length i) ⟨b, h, i, Z, rfl, aF, n, Q.kp⟩))
 refine k_ (s_ (sqB k Q [] [] [(28, .bool (decide ((b.length : Int) > 2)))] ?_)); intro bd A
 obtain ⟨aI, aJ⟩ := aH
 refine cn A aI ?_
 refine k_ (sqH ?_); intro aK S
 refine s1 A 37 (.slice h b.length i) ?_; intro be T
 obtain ⟨aL, aM⟩ := aJ
 refine fc T Q (gplain_fun b aL h i _ _ n Q.fz) ?_; intro bf bg U B
 refine s1 U 39 (.slice u d.length v) ?_; intro bh V
 obtain ⟨aN, aO⟩ := aM
 refine fc V B (gplain_fun d aN u v _ _ x B.fz) ?_; intro bi bj W C
 refine bt W C 2 [] [] [(9, y6 (gplainS b)), (10, y6 (gplainS d))] ?_; intro X Y
 apply S
 refine s_ (b_ ?_)
 have aa : Fr 49 [] [⟨9, [], y6 (gplainS b)⟩, ⟨10, [], y6 (gplainS d)⟩] X := Y.reg
 obtain ⟨aP, aQ, aR, aS⟩ := aO
 refine lp (ι := Int × Int) (fun s => [⟨9, [], y6 s.1⟩, ⟨10, [], y6 s.2⟩]) (fun s => []) (fun s => Z) (fun s => aP s.1 s.2) (fun s => aQ s.1 s.2) ⟨(gplainS b), (gplainS d)⟩ aR (by exact aa.reg) (by exact C) ?_
 rintro ⟨a, c⟩ aT aU aV ac ad
 have p := aS a c aT
 refine s_ (sqB ac ad [] [] [(42, .bool (decide (c > 0)))] ?_); intro aW l
 refine c_ l p (fun _ aX => ?_) fun _ a3 => ?_
 ·
  refine k_ (b_ ?_)
  have af : Fr 49 [] [⟨9, [], y6 a⟩, ⟨10, [], y6 c⟩] aW := l.reg
  refine qrgH mixed (by kernel_rfl) ad ?_; intro aY ag
  refine q1 af 43 (y6 c) ?_; intro bk ah
  refine q1 ah 44 (y6 a) ?_; intro bl ai
  refine q1 ai 45 (y6 c) ?_; intro bm E
  obtain ⟨aZ, aj⟩ := aX
  refine qu_ E (y6 (a.tmod c)) (fun v114 hC => rem_run E (g := []) rfl (by kernel_rfl) (by kernel_rfl) aZ rfl) ?_; intro bn ak
  refine q1 ak 9 (y6 c) ?_; intro bo al
  refine q1 al 10 (y6 (a.tmod c)) ?_; intro bp a1
  refine qnl (ag _ ?_); intro bq a2
  exact j_ (d_ ⟨⟨c, a.tmod c⟩, aj.1, aj.2, (a1.reg).anyβ _ (by kernel_rfl), a2.kp⟩)
 refine x_ (y_ (y_ (z_ (t_ (sqH ?_))))); intro a4 am
 refine s1 l 47 (y6 a) ?_; intro br an
 obtain ⟨a5, ao⟩ := a3
 refine ck an 110 #[y6 a] ?_
 refine (gwords_fun a a5 _ _ ad.fz).mono ?_; rintro _ a6 ⟨F, G, ap, rfl, aq, hm⟩; refine ⟨_, rfl, ?_⟩; intro bs ar; have au := ad.callZ hm
 have a7 : Mem w.heap.size [] w Z [] ap a6 := au
 have a8 := ao (aq.small)
 refine s1 ar 4 (.slice F (gwordsS a).length G) ?_; intro bu a9
 apply am
 exact r_ (ra1 a9 (.slice F (gwordsS a).length G) ⟨(gwordsS a), F, G, ap, rfl, a8, aq, a7.kp⟩)

theorem gsum_walk (u0 : Bool) (u1 : List Int) (u2 : Bool) (u3 : List Int) (ao1 : Option Addr) (cap2 : Nat) (ao4 : Option Addr) (cap5 : Nat) (Z : Fz) (w : World) (hs3 : SlR (tyInt .u32) Z ao1 cap2 u1) (hs6 : SlR (tyInt .u32) Z ao4 cap5 u3) (hZ : Z.on w) {K : (Bool × (List Int)) → Prop} (hp : gsum_vc u0 u1 u2 u3 K) : Calls Tryd.prog 108 #[.bool u0, .slice ao1 u1.length cap2, .bool u2, .slice ao4 u3.length cap5] w fun e w' => ∃ (r : Bool × (List Int)) (ao1001 : Option Addr) (cap1002 : Nat) (Z' : Fz), e = .returned (.tuple #[.bool r.1, .slice ao1001 r.2.length cap1002]) ∧ K r ∧ SlR (tyInt .u32) Z' ao1001 cap1002 r.2 ∧ Mem w.heap.size [] w Z [] Z' w' := by
 refine enter0 Tryd.func108 rfl rfl (by kernel_rfl) ?_; intro a0 v; have a := Mem.start w Z hZ
 have g := hp (hs3.small) (hs6.small)
 refine sqB v a [] [] [] ?_; intro az y
 refine s_ (sqB y a [] [] [(12, .bool (u0 == u2))] ?_); intro aA d
 refine c_ d g (fun _ ac => ?_) fun _ ai => ?_
 ·
  refine sqH ?_; intro ad z
  refine bt d a 3 [] [] [(13, .bool u0), (14, .slice ao1 u1.length cap2), (15, .slice ao4 u3.length cap5)] ?_; intro aB A
  obtain ⟨ae, B⟩ := ac
  refine ck A 85 #[.slice ao1 u1.length cap2, .slice ao4 u3.length cap5] ?_
  refine (gadd_fun u1 u3 ae ao1 cap2 ao4 cap5 _ _ hs3 hs6 a.fz).mono ?_; rintro _ af ⟨j, k, C, rfl, D, hm⟩; refine ⟨_, rfl, ?_⟩; intro aC E; have F := a.callZ hm
  have G : Mem w.heap.size [] w Z [] C af := F
  have ag := B (D.small)
  refine bt E G 2 [] [] [(8, .bool u0), (9, .slice j (gaddS u1 u3).length k)] ?_; intro aD ah
  apply z
  exact r_ (h_ (ra2 ah (.tuple #[.bool u0, .slice j (gaddS u1 u3).length k]) ⟨(u0, (gaddS u1 u3)), j, k, C, rfl, ag, D, G.kp⟩))
 refine k_ (s_ (sqH ?_)); intro aj H
 refine bt d a 2 [] [] [(17, .slice ao1 u1.length cap2), (18, .slice ao4 u3.length cap5)] ?_; intro aE I
 obtain ⟨ak, h⟩ := ai
 refine fc I a (gcmp_fun u1 u3 ak ao1 cap2 ao4 cap5 _ _ hs3 hs6 a.fz) ?_; intro aF aG J b
 refine s1 J 20 (.bool (decide ((gcmpS u1 u3) ≥ 0))) ?_; intro aH f
 apply H
 refine c_ f h (fun _ al => ?_) fun _ ar => ?_
 ·
  refine sqH ?_; intro am L
  refine bt f b 3 [] [] [(21, .bool u0), (22, .slice ao1 u1.length cap2), (23, .slice ao4 u3.length cap5)] ?_; intro aI M
  obtain ⟨an, N⟩ := al
  refine ck M 87 #[.slice ao1 u1.length cap2, .slice ao4 u3.length cap5] ?_
  refine (gsub_fun u1 u3 an ao1 cap2 ao4 cap5 _ _ hs3 hs6 b.fz).mono ?_; rintro _ ao ⟨n, o, O, rfl, P, hm⟩; refine ⟨_, rfl, ?_⟩; intro aJ Q; have R := b.callZ hm
  have S : Mem w.heap.size [] w Z [] O ao := R
  have ap := N (P.small)
  refine bt Q S 2 [] [] [(8, .bool u0), (9, .slice n (gsubS u1 u3).length o)] ?_; intro aK aq
  apply L
  exact r_ (h_ (ra2 aq (.tuple #[.bool u0, .slice n (gsubS u1 u3).length o]) ⟨(u0, (gsubS u1 u3)), n, o, O, rfl, ap, P, S.kp⟩))
 refine k_ (sqH ?_); intro au T
 refine bt f b 3 [] [] [(25, .bool u2), (26, .slice ao4 u3.length cap5), (27, .slice ao1 u1.length cap2)] ?_; intro aL U
 obtain ⟨av, V⟩ := ar
 refine ck U 87 #[.slice ao4 u3.length cap5, .slice ao1 u1.length cap2] ?_
 refine (gsub_fun u3 u1 av ao4 cap5 ao1 cap2 _ _ hs6 hs3 b.fz).mono ?_; rintro _ aw ⟨q, s, W, rfl, X, hm⟩; refine ⟨_, rfl, ?_⟩; intro aM Y; have aa := b.callZ hm
 have ab : Mem w.heap.size [] w Z [] W aw := aa
 have ax := V (X.small)
 refine bt Y ab 2 [] [] [(8, .bool u2), (9, .slice q (gsubS u3 u1).length s)] ?_; intro aN ay
 apply T
 exact r_ (ra2 ay (.tuple #[.bool u2, .slice q (gsubS u3 u1).length s]) ⟨(u2, (gsubS u3 u1)), q, s, W, rfl, ax, X, ab.kp⟩)

def gleft_fun (u0 : List Int) (u1 : Int) (hpre : wok u0 ∧ u0.length ≤ 1000 ∧ 0 ≤ u1 ∧ u1 ≤ 100000) (ao1 : Option Addr) (cap2 : Nat) (Z : Fz) (w : World) (hs3 : SlR (tyInt .u32) Z ao1 cap2 u0) (hZ : Z.on w) := fc_ (gleft_walk u0 u1 ao1 cap2 Z w hs3 hZ (gleft_ok u0 u1 hpre))
def gright_fun (u0 : List Int) (u1 : Int) (hpre : wok u0 ∧ u0.length ≤ 1000 ∧ 0 ≤ u1 ∧ u1 ≤ 31) (ao1 : Option Addr) (cap2 : Nat) (Z : Fz) (w : World) (hs3 : SlR (tyInt .u32) Z ao1 cap2 u0) (hZ : Z.on w) := fc_ (gright_walk u0 u1 ao1 cap2 Z w hs3 hZ (gright_ok u0 u1 hpre))
theorem ggive_walk (u0 : BInt) (u1 : Bool) (u2 : List Int) (b1 : Nat) (ao2 : Option Addr) (cap3 : Nat) (ao5 : Option Addr) (cap6 : Nat) (B : Nat) (w0 : World) (Z0 : Fz) (Rr : List Res) (Z : Fz) (w : World) (hs4 : SlR (tyInt .u32) Z ao2 cap3 u0.abs) (hs7 : SlR (tyInt .u32) Z ao5 cap6 u2) (hM0 : Mem B [] w0 Z0 ((.row b1 [.bool u0.neg, .slice ao2 u0.abs.length cap3] 69) :: Rr) Z w) (hZ : Z.on w) {K : BInt → Prop} (hp : ggive_vc u0 u1 u2 K) : Calls Tryd.prog 83 #[pt b1 0, .bool u1, .slice ao5 u2.length cap6] w fun e w' => ∃ (r : BInt) (ao1001 : Option Addr) (cap1002 : Nat) (Z' : Fz), e = .returned (pt b1 0) ∧ K r ∧ Fz.le Z Z' ∧ SlR (tyInt .u32) Z' ao1001 cap1002 r.abs ∧ Mem B [] w0 Z0 ((.row b1 [.bool r.neg, .slice ao1001 r.abs.length cap1002] 69) :: Rr) Z' w' := by
 refine enter0 Tryd.func83 rfl rfl (by kernel_rfl) ?_; intro u d; have m := Fz.le.refl Z
 have n := hp (hs4.small) (hs7.small)
 refine sqB d hM0 [] [] [] ?_; intro v g
 refine sqH ?_; intro o h
 refine bt g hM0 4 [] [] [(8, .slice ao5 u2.length cap6), (10, pt b1 1)] ?_; intro x a
 refine sx a hM0 0 [.bool u0.neg, .slice ao5 u2.length cap6] 1 ?_; intro p i
 have b : Mem B [] w0 Z0 ((.row b1 [.bool u0.neg, .slice ao5 u2.length cap6] 69) :: Rr) Z p := i
 apply h
 refine sqH ?_; intro q j
 refine bt a b 9 [] [] [(17, .bool (u1 && (decide ((u2.length : Int) > 0)))), (19, pt b1 0)] ?_; intro y c
 refine sx c b 0 [.bool (u1 && (decide ((u2.length : Int) > 0))), .slice ao5 u2.length cap6] 0 ?_; intro s k
 have l : Mem B [] w0 Z0 ((.row b1 [.bool (u1 && (decide ((u2.length : Int) > 0))), .slice ao5 u2.length cap6] 69) :: Rr) Z s := k
 apply j
 refine sqB c l [] [] [(6, pt b1 0)] ?_; intro z t
 exact r_ (ra1 t (pt b1 0) ⟨(⟨u1 && (decide ((u2.length : Int) > 0)), u2⟩ : BInt), ao5, cap6, Z, rfl, n, m, hs7, l.kp⟩)
def ggive_fun (u0 : BInt) (u1 : Bool) (u2 : List Int) (b1 : Nat) (ao2 : Option Addr) (cap3 : Nat) (ao5 : Option Addr) (cap6 : Nat) (B : Nat) (w0 : World) (Z0 : Fz) (Rr : List Res) (Z : Fz) (w : World) (hs4 : SlR (tyInt .u32) Z ao2 cap3 u0.abs) (hs7 : SlR (tyInt .u32) Z ao5 cap6 u2) (hM0 : Mem B [] w0 Z0 ((.row b1 [.bool u0.neg, .slice ao2 u0.abs.length cap3] 69) :: Rr) Z w) (hZ : Z.on w) := fc_ (ggive_walk u0 u1 u2 b1 ao2 cap3 ao5 cap6 B w0 Z0 Rr Z w hs4 hs7 hM0 hZ (ggive_ok u0 u1 u2))
theorem ggiveA_walk (u0 : BRat) (u1 : Bool) (u2 : List Int) (b1 : Nat) (ao2 : Option Addr) (cap3 : Nat) (ao5 : Option Addr) (cap6 : Nat) (ao8 : Option Addr) (cap9 : Nat) (B : Nat) (w0 : World) (Z0 : Fz) (Rr : List Res) (Z : Fz) (w : World) (hs4 : SlR (tyInt .u32) Z ao2 cap3 u0.a.abs) (hs7 : SlR (tyInt .u32) Z ao5 cap6 u0.b.abs) (hs10 : SlR (tyInt .u32) Z ao8 cap9 u2) (hM0 : Mem B [] w0 Z0 ((.row b1 [.bool u0.a.neg, .slice ao2 u0.a.abs.length cap3, .bool u0.b.neg, .slice ao5 u0.b.abs.length cap6] 71) :: Rr) Z w) (hZ : Z.on w) {K : BRat → Prop} (hp : ggiveA_vc u0 u1 u2 K) : Calls Tryd.prog 83 #[pt b1 0, .bool u1, .slice ao8 u2.length cap9] w fun e w' => ∃ (r : BRat) (ao1001 : Option Addr) (cap1002 : Nat) (ao1004 : Option Addr) (cap1005 : Nat) (Z' : Fz), e = .returned (pt b1 0) ∧ K r ∧ Fz.le Z Z' ∧ SlR (tyInt .u32) Z' ao1001 cap1002 r.a.abs ∧ SlR (tyInt .u32) Z' ao1004 cap1005 r.b.abs ∧ Mem B [] w0 Z0 ((.row b1 [.bool r.a.neg, .slice ao1001 r.a.abs.length cap1002, .bool r.b.neg, .slice ao1004 r.b.abs.length cap1005] 71) :: Rr) Z' w' := by
 refine enter0 Tryd.func83 rfl rfl (by kernel_rfl) ?_; intro y g; have p := Fz.le.refl Z
 have q := hp (hs4.small) (hs7.small) (hs10.small)
 refine sqB g hM0 [] [] [] ?_; intro z j
 refine sqH ?_; intro s k
 refine bt j hM0 4 [] [] [(8, .slice ao8 u2.length cap9), (10, pt b1 1)] ?_; intro A c
 refine sx c hM0 0 [.bool u0.a.neg, .slice ao8 u2.length cap9, .bool u0.b.neg, .slice ao5 u0.b.abs.length cap6] 1 ?_; intro t l
 have d : Mem B [] w0 Z0 ((.row b1 [.bool u0.a.neg, .slice ao8 u2.length cap9, .bool u0.b.neg, .slice ao5 u0.b.abs.length cap6] 71) :: Rr) Z t := l
 apply k
 refine sqH ?_; intro u m
 refine bt c d 9 [] [] [(17, .bool (u1 && (decide ((u2.length : Int) > 0)))), (19, pt b1 0)] ?_; intro C f
 refine sx f d 0 [.bool (u1 && (decide ((u2.length : Int) > 0))), .slice ao8 u2.length cap9, .bool u0.b.neg, .slice ao5 u0.b.abs.length cap6] 0 ?_; intro v n
 have o : Mem B [] w0 Z0 ((.row b1 [.bool (u1 && (decide ((u2.length : Int) > 0))), .slice ao8 u2.length cap9, .bool u0.b.neg, .slice ao5 u0.b.abs.length cap6] 71) :: Rr) Z v := n
 apply m
 refine sqB f o [] [] [(6, pt b1 0)] ?_; intro D x
 exact r_ (ra1 x (pt b1 0) ⟨(⟨(⟨u1 && (decide ((u2.length : Int) > 0)), u2⟩ : BInt), u0.b⟩ : BRat), ao8, cap9, ao5, cap6, Z, rfl, q, p, hs10, hs7, o.kp⟩)
def ggiveA_fun (u0 : BRat) (u1 : Bool) (u2 : List Int) (b1 : Nat) (ao2 : Option Addr) (cap3 : Nat) (ao5 : Option Addr) (cap6 : Nat) (ao8 : Option Addr) (cap9 : Nat) (B : Nat) (w0 : World) (Z0 : Fz) (Rr : List Res) (Z : Fz) (w : World) (hs4 : SlR (tyInt .u32) Z ao2 cap3 u0.a.abs) (hs7 : SlR (tyInt .u32) Z ao5 cap6 u0.b.abs) (hs10 : SlR (tyInt .u32) Z ao8 cap9 u2) (hM0 : Mem B [] w0 Z0 ((.row b1 [.bool u0.a.neg, .slice ao2 u0.a.abs.length cap3, .bool u0.b.neg, .slice ao5 u0.b.abs.length cap6] 71) :: Rr) Z w) (hZ : Z.on w) := fe_ (ggiveA_walk u0 u1 u2 b1 ao2 cap3 ao5 cap6 ao8 cap9 B w0 Z0 Rr Z w hs4 hs7 hs10 hM0 hZ (ggiveA_ok u0 u1 u2))
theorem ggiveB_walk (u0 : BRat) (u1 : Bool) (u2 : List Int) (b1 : Nat) (ao2 : Option Addr) (cap3 : Nat) (ao5 : Option Addr) (cap6 : Nat) (ao8 : Option Addr) (cap9 : Nat) (B : Nat) (w0 : World) (Z0 : Fz) (Rr : List Res) (Z : Fz) (w : World) (hs4 : SlR (tyInt .u32) Z ao2 cap3 u0.a.abs) (hs7 : SlR (tyInt .u32) Z ao5 cap6 u0.b.abs) (hs10 : SlR (tyInt .u32) Z ao8 cap9 u2) (hM0 : Mem B [] w0 Z0 ((.row b1 [.bool u0.a.neg, .slice ao2 u0.a.abs.length cap3, .bool u0.b.neg, .slice ao5 u0.b.abs.length cap6] 71) :: Rr) Z w) (hZ : Z.on w) {K : BRat → Prop} (hp : ggiveB_vc u0 u1 u2 K) : Calls Tryd.prog 83 #[pt b1 2, .bool u1, .slice ao8 u2.length cap9] w fun e w' => ∃ (r : BRat) (ao1001 : Option Addr) (cap1002 : Nat) (ao1004 : Option Addr) (cap1005 : Nat) (Z' : Fz), e = .returned (pt b1 2) ∧ K r ∧ Fz.le Z Z' ∧ SlR (tyInt .u32) Z' ao1001 cap1002 r.a.abs ∧ SlR (tyInt .u32) Z' ao1004 cap1005 r.b.abs ∧ Mem B [] w0 Z0 ((.row b1 [.bool r.a.neg, .slice ao1001 r.a.abs.length cap1002, .bool r.b.neg, .slice ao1004 r.b.abs.length cap1005] 71) :: Rr) Z' w' := by
 refine enter0 Tryd.func83 rfl rfl (by kernel_rfl) ?_; intro y g; have p := Fz.le.refl Z
 have q := hp (hs4.small) (hs7.small) (hs10.small)
 refine sqB g hM0 [] [] [] ?_; intro z j
 refine sqH ?_; intro s k
 refine bt j hM0 4 [] [] [(8, .slice ao8 u2.length cap9), (10, pt b1 3)] ?_; intro A c
 refine sx c hM0 0 [.bool u0.a.neg, .slice ao2 u0.a.abs.length cap3, .bool u0.b.neg, .slice ao8 u2.length cap9] 3 ?_; intro t l
 have d : Mem B [] w0 Z0 ((.row b1 [.bool u0.a.neg, .slice ao2 u0.a.abs.length cap3, .bool u0.b.neg, .slice ao8 u2.length cap9] 71) :: Rr) Z t := l
 apply k
 refine sqH ?_; intro u m
 refine bt c d 9 [] [] [(17, .bool (u1 && (decide ((u2.length : Int) > 0)))), (19, pt b1 2)] ?_; intro C f
 refine sx f d 0 [.bool u0.a.neg, .slice ao2 u0.a.abs.length cap3, .bool (u1 && (decide ((u2.length : Int) > 0))), .slice ao8 u2.length cap9] 2 ?_; intro v n
 have o : Mem B [] w0 Z0 ((.row b1 [.bool u0.a.neg, .slice ao2 u0.a.abs.length cap3, .bool (u1 && (decide ((u2.length : Int) > 0))), .slice ao8 u2.length cap9] 71) :: Rr) Z v := n
 apply m
 refine sqB f o [] [] [(6, pt b1 2)] ?_; intro D x
 exact r_ (ra1 x (pt b1 2) ⟨(⟨u0.a, (⟨u1 && (decide ((u2.length : Int) > 0)), u2⟩ : BInt)⟩ : BRat), ao2, cap3, ao8, cap9, Z, rfl, q, p, hs4, hs10, o.kp⟩)
def ggiveB_fun (u0 : BRat) (u1 : Bool) (u2 : List Int) (b1 : Nat) (ao2 : Option Addr) (cap3 : Nat) (ao5 : Option Addr) (cap6 : Nat) (ao8 : Option Addr) (cap9 : Nat) (B : Nat) (w0 : World) (Z0 : Fz) (Rr : List Res) (Z : Fz) (w : World) (hs4 : SlR (tyInt .u32) Z ao2 cap3 u0.a.abs) (hs7 : SlR (tyInt .u32) Z ao5 cap6 u0.b.abs) (hs10 : SlR (tyInt .u32) Z ao8 cap9 u2) (hM0 : Mem B [] w0 Z0 ((.row b1 [.bool u0.a.neg, .slice ao2 u0.a.abs.length cap3, .bool u0.b.neg, .slice ao5 u0.b.abs.length cap6] 71) :: Rr) Z w) (hZ : Z.on w) := fe_ (ggiveB_walk u0 u1 u2 b1 ao2 cap3 ao5 cap6 ao8 cap9 B w0 Z0 Rr Z w hs4 hs7 hs10 hM0 hZ (ggiveB_ok u0 u1 u2))
theorem gnew_walk (u0 : Int)  (Z : Fz) (w : World)  (hZ : Z.on w) {K : BInt → Prop} (hp : gnew_vc u0 K) : Calls Tryd.prog 52 #[i6 u0] w fun e w' => ∃ (r : BInt) (b1001 : Nat) (ao1002 : Option Addr) (cap1003 : Nat) (Z' : Fz), e = .returned (pt b1001 0) ∧ K r ∧ SlR (tyInt .u32) Z' ao1002 cap1003 r.abs ∧ Mem w.heap.size [] w Z [.row b1001 [.bool r.neg, .slice ao1002 r.abs.length cap1003] 69] Z' w' := by
 refine enter0 Tryd.func52 rfl rfl (by kernel_rfl) ?_; intro a0 z; have l := Mem.start w Z hZ
 refine sqB z l [] [] [] ?_; intro a2 A
 refine sqH ?_; intro B i
 refine nw A l pb [.bool false, .slice none 0 0] 69 ?_; intro a a6 aP C b
 refine s1 C 4 (i6 u0) ?_; intro aQ m
 refine ck m 82 #[pt a 0, i6 u0] ?_
 refine enter0 Tryd.func82 rfl rfl (by kernel_rfl) ?_; intro au D
 have E : Fr 18 [] [⟨0, [], pt a 0⟩, ⟨1, [], i6 u0⟩] au := D.reg
 refine sqB E b [] [] [] ?_; intro aR F
 refine sqB F b [] [] [(5, y6 (wu64 u0))] ?_; intro aS G
 refine s_ (sqB G b [] [] [(9, .bool (decide (u0 < 0)))] ?_); intro aT f
 refine c_ f hp (fun _ av => ?_) fun _ aF => ?_
 ·
  refine rgB f b [] [] [(5, y6 (wu64 (0 - (wu64 u0))))] ?_; intro aU H
  refine t_ (sqH ?_); intro aw I
  refine bt H b 4 [] [] [(12, pt a 0), (14, .bool (decide (u0 < 0))), (15, y6 (wu64 (0 - (wu64 u0))))] ?_; intro aV J
  obtain ⟨ax, L⟩ := av
  refine ck J 110 #[y6 (wu64 (0 - (wu64 u0)))] ?_
  refine (gwords_fun (wu64 (0 - (wu64 u0))) ax _ _ b.fz).mono ?_; rintro _ ay ⟨M, N, az, rfl, j, hm⟩; refine ⟨_, rfl, ?_⟩; intro aW O; have P := b.callZ hm
  have o : Mem w.heap.size [] w Z [.row a [.bool false, .slice none 0 0] 69] az ay := P
  have Q := L (j.small)
  refine ck O 83 #[pt a 0, .bool (decide (u0 < 0)), .slice M (gwordsS (wu64 (0 - (wu64 u0)))).length N] ?_
  obtain ⟨g, aB, R⟩ := hxq Q
  have d := ggive_fun (⟨false, []⟩ : BInt) (decide (u0 < 0)) (gwordsS (wu64 (0 - (wu64 u0)))) a none 0 M N _ _ _ _ _ _ (SlR.nil _ _) j o o.fz; rw [aB] at d; refine d.mono ?_; rintro _ S ⟨p, q, s, rfl, T, U, hm⟩; refine ⟨_, rfl, ?_⟩; intro aX V; have W := hm
  have X : Mem w.heap.size [] w Z [.row a [.bool g.neg, .slice p g.abs.length q] 69] s S := W
  have aC := R (U.small)
  refine s1 V 4 (pt a 0) ?_; intro aY Y
  apply I
  refine r_ (ra1 Y (pt a 0) ?_)
  refine ⟨_, rfl, ?_⟩; intro aZ aa
  refine s1 aa 2 (pt a 0) ?_; intro a1 aD
  have aE : Mem w.heap.size [] w Z [.row a [.bool g.neg, .slice p g.abs.length q] 69] s S := X
  apply i
  exact r_ (ra1 aD (pt a 0) ⟨g, a, p, q, s, rfl, aC, U, aE.kp⟩)
 refine k_ (sqH ?_); intro aG ab
 refine bt f b 4 [] [] [(12, pt a 0), (14, .bool (decide (u0 < 0))), (15, y6 (wu64 u0))] ?_; intro a3 ac
 obtain ⟨aH, ad⟩ := aF
 refine ck ac 110 #[y6 (wu64 u0)] ?_
 refine (gwords_fun (wu64 u0) aH _ _ b.fz).mono ?_; rintro _ aI ⟨ae, af, aJ, rfl, k, hm⟩; refine ⟨_, rfl, ?_⟩; intro a4 ag; have ah := b.callZ hm
 have u : Mem w.heap.size [] w Z [.row a [.bool false, .slice none 0 0] 69] aJ aI := ah
 have ai := ad (k.small)
 refine ck ag 83 #[pt a 0, .bool (decide (u0 < 0)), .slice ae (gwordsS (wu64 u0)).length af] ?_
 obtain ⟨h, aL, aj⟩ := hxq ai
 have d := ggive_fun (⟨false, []⟩ : BInt) (decide (u0 < 0)) (gwordsS (wu64 u0)) a none 0 ae af _ _ _ _ _ _ (SlR.nil _ _) k u u.fz; rw [aL] at d; refine d.mono ?_; rintro _ ak ⟨v, x, y, rfl, al, am, hm⟩; refine ⟨_, rfl, ?_⟩; intro a5 an; have ao := hm
 have ap : Mem w.heap.size [] w Z [.row a [.bool h.neg, .slice v h.abs.length x] 69] y ak := ao
 have aM := aj (am.small)
 refine s1 an 4 (pt a 0) ?_; intro a7 aq
 apply ab
 refine r_ (ra1 aq (pt a 0) ?_)
 refine ⟨_, rfl, ?_⟩; intro a8 ar
 refine s1 ar 2 (pt a 0) ?_; intro a9 aN
 have aO : Mem w.heap.size [] w Z [.row a [.bool h.neg, .slice v h.abs.length x] 69] y ak := ap
 apply i
 exact r_ (ra1 aN (pt a 0) ⟨h, a, v, x, y, rfl, aM, am, aO.kp⟩)

theorem rden_walk (u0 : BRat) (b1 : Nat) (ao2 : Option Addr) (cap3 : Nat) (ao5 : Option Addr) (cap6 : Nat) (B : Nat) (w0 : World) (Z0 : Fz) (Rr : List Res) (Z : Fz) (w : World) (hs4 : SlR (tyInt .u32) Z ao2 cap3 u0.a.abs) (hs7 : SlR (tyInt .u32) Z ao5 cap6 u0.b.abs) (hM0 : Mem B [] w0 Z0 ((.row b1 [.bool u0.a.neg, .slice ao2 u0.a.abs.length cap3, .bool u0.b.neg, .slice ao5 u0.b.abs.length cap6] 71) :: Rr) Z w) (hZ : Z.on w) {K : BRat → Prop} (hp : rden_vc u0 K) : Calls Tryd.prog 78 #[pt b1 0] w fun e w' => ∃ (r : BRat) (ao1001 : Option Addr) (cap1002 : Nat) (ao1004 : Option Addr) (cap1005 : Nat) (Z' : Fz), e = .returned (pt b1 2) ∧ K r ∧ Fz.le Z Z' ∧ SlR (tyInt .u32) Z' ao1001 cap1002 r.a.abs ∧ SlR (tyInt .u32) Z' ao1004 cap1005 r.b.abs ∧ Mem B [] w0 Z0 ((.row b1 [.bool r.a.neg, .slice ao1001 r.a.abs.length cap1002, .bool r.b.neg, .slice ao1004 r.b.abs.length cap1005] 71) :: Rr) Z' w' := by
 refine enter0 Tryd.func78 rfl rfl (by kernel_rfl) ?_; intro m d; have h := Fz.le.refl Z
 have i := hp (hs4.small) (hs7.small)
 refine sqB d hM0 [] [] [] ?_; intro n g
 refine s_ (sqB g hM0 [0] [] [(9, .bool ((u0.b.abs.length : Int) == 0))] ?_); intro o c
 obtain ⟨j, k⟩ := i
 refine cn c j ?_
 refine k_ (sqB c hM0 [] [] [(2, pt b1 2)] ?_); intro p l
 exact r_ (ra1 l (pt b1 2) ⟨u0, ao2, cap3, ao5, cap6, Z, rfl, k, h, hs4, hs7, hM0.kp⟩)

theorem gnegA_walk (u0 : BRat) (b1 : Nat) (ao2 : Option Addr) (cap3 : Nat) (ao5 : Option Addr) (cap6 : Nat) (B : Nat) (w0 : World) (Z0 : Fz) (Rr : List Res) (Z : Fz) (w : World) (hs4 : SlR (tyInt .u32) Z ao2 cap3 u0.a.abs) (hs7 : SlR (tyInt .u32) Z ao5 cap6 u0.b.abs) (hM0 : Mem B [] w0 Z0 ((.row b1 [.bool u0.a.neg, .slice ao2 u0.a.abs.length cap3, .bool u0.b.neg, .slice ao5 u0.b.abs.length cap6] 71) :: Rr) Z w) (hZ : Z.on w) {K : BRat → Prop} (hp : gnegA_vc u0 K) : Calls Tryd.prog 55 #[pt b1 0, pt b1 0] w fun e w' => ∃ (r : BRat) (ao1001 : Option Addr) (cap1002 : Nat) (ao1004 : Option Addr) (cap1005 : Nat) (Z' : Fz), e = .returned (pt b1 0) ∧ K r ∧ Fz.le Z Z' ∧ SlR (tyInt .u32) Z' ao1001 cap1002 r.a.abs ∧ SlR (tyInt .u32) Z' ao1004 cap1005 r.b.abs ∧ Mem B [] w0 Z0 ((.row b1 [.bool r.a.neg, .slice ao1001 r.a.abs.length cap1002, .bool r.b.neg, .slice ao1004 r.b.abs.length cap1005] 71) :: Rr) Z' w' := by
 refine enter0 Tryd.func55 rfl rfl (by kernel_rfl) ?_; intro a0 n; have c := Fz.le.refl Z
 have M := hp (hs4.small) (hs7.small)
 refine sqB n hM0 [] [] [] ?_; intro N p
 have q : Fr 17 [] [⟨0, [], pt b1 0⟩, ⟨1, [], pt b1 0⟩] N := p.reg
 refine wp_seq (rgS mixed hM0 [(0, true), (1, true), (2, true), (3, true), (4, true), (5, true), (6, true), (7, true), (8, true), (9, true), (10, false), (11, false), (12, false)] [11, 12] [0] [.row b1 (e71Nc u0 ao2 cap3 ao5 cap6) 71] ?_)
 intro O s ac i
 have d := Fz.le.refl Z
 refine cS q 10 [0, 0] [] [(5, pt b1 0), (10, .bool (!u0.a.neg)), (14, .slice ao2 u0.a.abs.length cap3)] ?_; intro ad t
 refine eS rfl ?_; intro P u
 obtain ⟨Q, R⟩ := M
 refine ck t 88 #[.slice ao2 u0.a.abs.length cap3] ?_
 refine (gtwin_fun u0.a.abs Q ao2 cap3 _ _ hs4 i.fz).mono ?_; rintro _ v ⟨j, k, S, rfl, hm⟩; refine ⟨_, rfl, ?_⟩; intro ae x; have y := i.callZ hm; have g := hm.ext.le
 replace hs4 := hs4.mono g
 replace hs7 := hs7.mono g
 replace d := d.mono g
 replace c := Fz.le.trans c g
 have z : Mem B [] w0 Z0 ((.own (tyInt .u32) 109 j k (gtwinS u0.a.abs)) :: (.row b1 (e71Nc u0 ao2 cap3 ao5 cap6) 71) :: Rr) S v := y
 refine nl (qnI (u _ _ (z.cst d [1]) ?_))
 refine eL rfl ?_; intro T A
 obtain ⟨U, h, C, l⟩ := z.freeze 0 rfl
 replace hs4 := hs4.mono h
 replace hs7 := hs7.mono h
 replace c := Fz.le.trans c h
 have m : Mem B [] w0 Z0 ((.row b1 (e71Nc u0 ao2 cap3 ao5 cap6) 71) :: Rr) U v := C
 refine ck x 83 #[pt b1 0, .bool (!u0.a.neg), .slice j (gtwinS u0.a.abs).length k] ?_
 refine (ggiveA_fun u0 (!u0.a.neg) (gtwinS u0.a.abs) b1 ao2 cap3 ao5 cap6 j k _ _ _ _ _ _ hs4 hs7 l m m.fz).mono ?_; rintro _ V ⟨D, E, F, G, H, rfl, f, W, X, hm⟩; refine ⟨_, rfl, ?_⟩; intro af I; have J := hm
 replace c := Fz.le.trans c f
 have Y : Mem B [] w0 Z0 ((.row b1 (e71Nc (ggiveA u0 (!u0.a.neg) (gtwinS u0.a.abs)) D E F G) 71) :: Rr) H V := J
 refine nl (qnI (A _ _ ?_))
 refine eL rfl ?_; intro aa L
 refine s1 I 4 (pt b1 0) ?_; intro ag ab
 refine nl (qnI (L _ _ ?_))
 refine nS (s _ _ ?_)
 exact t_ (r_ (ra1 ab (pt b1 0) ⟨(ggiveA u0 (!u0.a.neg) (gtwinS u0.a.abs)), D, E, F, G, H, rfl, R, c, W, X, Y.kp⟩))

theorem gnegB_walk (u0 : BRat) (b1 : Nat) (ao2 : Option Addr) (cap3 : Nat) (ao5 : Option Addr) (cap6 : Nat) (B : Nat) (w0 : World) (Z0 : Fz) (Rr : List Res) (Z : Fz) (w : World) (hs4 : SlR (tyInt .u32) Z ao2 cap3 u0.a.abs) (hs7 : SlR (tyInt .u32) Z ao5 cap6 u0.b.abs) (hM0 : Mem B [] w0 Z0 ((.row b1 [.bool u0.a.neg, .slice ao2 u0.a.abs.length cap3, .bool u0.b.neg, .slice ao5 u0.b.abs.length cap6] 71) :: Rr) Z w) (hZ : Z.on w) {K : BRat → Prop} (hp : gnegB_vc u0 K) : Calls Tryd.prog 55 #[pt b1 2, pt b1 2] w fun e w' => ∃ (r : BRat) (ao1001 : Option Addr) (cap1002 : Nat) (ao1004 : Option Addr) (cap1005 : Nat) (Z' : Fz), e = .returned (pt b1 2) ∧ K r ∧ Fz.le Z Z' ∧ SlR (tyInt .u32) Z' ao1001 cap1002 r.a.abs ∧ SlR (tyInt .u32) Z' ao1004 cap1005 r.b.abs ∧ Mem B [] w0 Z0 ((.row b1 [.bool r.a.neg, .slice ao1001 r.a.abs.length cap1002, .bool r.b.neg, .slice ao1004 r.b.abs.length cap1005] 71) :: Rr) Z' w' := by
 refine enter0 Tryd.func55 rfl rfl (by kernel_rfl) ?_; intro a0 n; have c := Fz.le.refl Z
 have M := hp (hs4.small) (hs7.small)
 refine sqB n hM0 [] [] [] ?_; intro N p
 have q : Fr 17 [] [⟨0, [], pt b1 2⟩, ⟨1, [], pt b1 2⟩] N := p.reg
 refine wp_seq (rgS mixed hM0 [(0, true), (1, true), (2, true), (3, true), (4, true), (5, true), (6, true), (7, true), (8, true), (9, true), (10, false), (11, false), (12, false)] [11, 12] [0] [.row b1 (e71Nc u0 ao2 cap3 ao5 cap6) 71] ?_)
 intro O s ac i
 have d := Fz.le.refl Z
 refine cS q 10 [0, 0] [] [(5, pt b1 2), (10, .bool (!u0.b.neg)), (14, .slice ao5 u0.b.abs.length cap6)] ?_; intro ad t
 refine eS rfl ?_; intro P u
 obtain ⟨Q, R⟩ := M
 refine ck t 88 #[.slice ao5 u0.b.abs.length cap6] ?_
 refine (gtwin_fun u0.b.abs Q ao5 cap6 _ _ hs7 i.fz).mono ?_; rintro _ v ⟨j, k, S, rfl, hm⟩; refine ⟨_, rfl, ?_⟩; intro ae x; have y := i.callZ hm; have g := hm.ext.le
 replace hs4 := hs4.mono g
 replace hs7 := hs7.mono g
 replace d := d.mono g
 replace c := Fz.le.trans c g
 have z : Mem B [] w0 Z0 ((.own (tyInt .u32) 109 j k (gtwinS u0.b.abs)) :: (.row b1 (e71Nc u0 ao2 cap3 ao5 cap6) 71) :: Rr) S v := y
 refine nl (qnI (u _ _ (z.cst d [1]) ?_))
 refine eL rfl ?_; intro T A
 obtain ⟨U, h, C, l⟩ := z.freeze 0 rfl
 replace hs4 := hs4.mono h
 replace hs7 := hs7.mono h
 replace c := Fz.le.trans c h
 have m : Mem B [] w0 Z0 ((.row b1 (e71Nc u0 ao2 cap3 ao5 cap6) 71) :: Rr) U v := C
 refine ck x 83 #[pt b1 2, .bool (!u0.b.neg), .slice j (gtwinS u0.b.abs).length k] ?_
 refine (ggiveB_fun u0 (!u0.b.neg) (gtwinS u0.b.abs) b1 ao2 cap3 ao5 cap6 j k _ _ _ _ _ _ hs4 hs7 l m m.fz).mono ?_; rintro _ V ⟨D, E, F, G, H, rfl, f, W, X, hm⟩; refine ⟨_, rfl, ?_⟩; intro af I; have J := hm
 replace c := Fz.le.trans c f
 have Y : Mem B [] w0 Z0 ((.row b1 (e71Nc (ggiveB u0 (!u0.b.neg) (gtwinS u0.b.abs)) D E F G) 71) :: Rr) H V := J
 refine nl (qnI (A _ _ ?_))
 refine eL rfl ?_; intro aa L
 refine s1 I 4 (pt b1 2) ?_; intro ag ab
 refine nl (qnI (L _ _ ?_))
 refine nS (s _ _ ?_)
 exact t_ (r_ (ra1 ab (pt b1 2) ⟨(ggiveB u0 (!u0.b.neg) (gtwinS u0.b.abs)), D, E, F, G, H, rfl, R, c, W, X, Y.kp⟩))

end Go.Proofs.YtdndfbamhnchfaaDoor
set_option linter.unusedVariables false
set_option linter.unusedSimpArgs false
set_option linter.defProp false
set_option maxRecDepth 100000
set_option maxHeartbeats 0
namespace Go.Proofs.YtdndfbamhnchfaaDoor
open Go.Sy Go.RowKit
abbrev e71Nd (X : BRat) (A0 : Option Addr) (C0 : Nat) (A1 : Option Addr) (C1 : Nat) : List Value := [.bool X.a.neg, .slice A0 X.a.abs.length C0, .bool X.b.neg, .slice A1 X.b.abs.length C1]
def gdiv_fun (u0 : List Int) (u1 : List Int) (hpre : u0 = ws (wv u0) ∧ u1 = ws (wv u1) ∧ wv u0 < 18446744073709551616 ∧ wv u1 < 18446744073709551616 ∧ 0 < wv u1) (ao1 : Option Addr) (cap2 : Nat) (ao4 : Option Addr) (cap5 : Nat) (Z : Fz) (w : World) (hs3 : SlR (tyInt .u32) Z ao1 cap2 u0) (hs6 : SlR (tyInt .u32) Z ao4 cap5 u1) (hZ : Z.on w) := fe_ (gdiv_walk u0 u1 ao1 cap2 ao4 cap5 Z w hs3 hs6 hZ (gdiv_ok u0 u1 hpre))
def gcom_fun (u0 : List Int) (u1 : List Int) (hpre : u0 = ws (wv u0) ∧ u1 = ws (wv u1) ∧ wv u0 < 18446744073709551616 ∧ wv u1 < 18446744073709551616) (ao1 : Option Addr) (cap2 : Nat) (ao4 : Option Addr) (cap5 : Nat) (Z : Fz) (w : World) (hs3 : SlR (tyInt .u32) Z ao1 cap2 u0) (hs6 : SlR (tyInt .u32) Z ao4 cap5 u1) (hZ : Z.on w) := fc_ (gcom_walk u0 u1 ao1 cap2 ao4 cap5 Z w hs3 hs6 hZ (gcom_ok u0 u1 hpre))
def gsum_fun (u0 : Bool) (u1 : List Int) (u2 : Bool) (u3 : List Int) (hpre : u1 = ws (wv u1) ∧ u3 = ws (wv u3) ∧ wv u1 < 18446744073709551616 ∧ wv u3 < 18446744073709551616) (ao1 : Option Addr) (cap2 : Nat) (ao4 : Option Addr) (cap5 : Nat) (Z : Fz) (w : World) (hs3 : SlR (tyInt .u32) Z ao1 cap2 u1) (hs6 : SlR (tyInt .u32) Z ao4 cap5 u3) (hZ : Z.on w) := fc_ (gsum_walk u0 u1 u2 u3 ao1 cap2 ao4 cap5 Z w hs3 hs6 hZ (gsum_ok u0 u1 u2 u3 hpre))
theorem gnew_fun (u0 : Int) (hpre : -9223372036854775808 ≤ u0 ∧ u0 ≤ 9223372036854775807)  (Z : Fz) (w : World)  (hZ : Z.on w) : Calls Tryd.prog 52 #[i6 u0] w fun e w' => ∃ (b1001 : Nat) (ao1002 : Option Addr) (cap1003 : Nat) (Z' : Fz), e = .returned (pt b1001 0) ∧ SlR (tyInt .u32) Z' ao1002 cap1003 (bz u0).abs ∧ Mem w.heap.size [] w Z [.row b1001 [.bool (bz u0).neg, .slice ao1002 (bz u0).abs.length cap1003] 69] Z' w' :=
  (gnew_walk u0  Z w  hZ (gnew_ok u0 hpre)).mono fun _ _ ⟨r, h0, h1, h2, h3, he, hk, f0, hm⟩ => by subst hk; exact ⟨h0, h1, h2, h3, he, f0, hm⟩

def rden_fun (u0 : BRat) (hpre : u0.b.abs ≠ []) (b1 : Nat) (ao2 : Option Addr) (cap3 : Nat) (ao5 : Option Addr) (cap6 : Nat) (B : Nat) (w0 : World) (Z0 : Fz) (Rr : List Res) (Z : Fz) (w : World) (hs4 : SlR (tyInt .u32) Z ao2 cap3 u0.a.abs) (hs7 : SlR (tyInt .u32) Z ao5 cap6 u0.b.abs) (hM0 : Mem B [] w0 Z0 ((.row b1 [.bool u0.a.neg, .slice ao2 u0.a.abs.length cap3, .bool u0.b.neg, .slice ao5 u0.b.abs.length cap6] 71) :: Rr) Z w) (hZ : Z.on w) := fe_ (rden_walk u0 b1 ao2 cap3 ao5 cap6 B w0 Z0 Rr Z w hs4 hs7 hM0 hZ (rden_ok u0 hpre))
def gnegA_fun (u0 : BRat) (hpre : u0.a.abs.length ≤ 1000000) (b1 : Nat) (ao2 : Option Addr) (cap3 : Nat) (ao5 : Option Addr) (cap6 : Nat) (B : Nat) (w0 : World) (Z0 : Fz) (Rr : List Res) (Z : Fz) (w : World) (hs4 : SlR (tyInt .u32) Z ao2 cap3 u0.a.abs) (hs7 : SlR (tyInt .u32) Z ao5 cap6 u0.b.abs) (hM0 : Mem B [] w0 Z0 ((.row b1 [.bool u0.a.neg, .slice ao2 u0.a.abs.length cap3, .bool u0.b.neg, .slice ao5 u0.b.abs.length cap6] 71) :: Rr) Z w) (hZ : Z.on w) := fe_ (gnegA_walk u0 b1 ao2 cap3 ao5 cap6 B w0 Z0 Rr Z w hs4 hs7 hM0 hZ (gnegA_ok u0 hpre))
def gnegB_fun (u0 : BRat) (hpre : u0.b.abs.length ≤ 1000000) (b1 : Nat) (ao2 : Option Addr) (cap3 : Nat) (ao5 : Option Addr) (cap6 : Nat) (B : Nat) (w0 : World) (Z0 : Fz) (Rr : List Res) (Z : Fz) (w : World) (hs4 : SlR (tyInt .u32) Z ao2 cap3 u0.a.abs) (hs7 : SlR (tyInt .u32) Z ao5 cap6 u0.b.abs) (hM0 : Mem B [] w0 Z0 ((.row b1 [.bool u0.a.neg, .slice ao2 u0.a.abs.length cap3, .bool u0.b.neg, .slice ao5 u0.b.abs.length cap6] 71) :: Rr) Z w) (hZ : Z.on w) := fe_ (gnegB_walk u0 b1 ao2 cap3 ao5 cap6 B w0 Z0 Rr Z w hs4 hs7 hM0 hZ (gnegB_ok u0 hpre))
theorem gmulAB_walk (u0 : BInt) (u1 : BRat) (u2 : BRat) (b1 : Nat) (ao2 : Option Addr) (cap3 : Nat) (b5 : Nat) (ao6 : Option Addr) (cap7 : Nat) (ao9 : Option Addr) (cap10 : Nat) (b12 : Nat) (ao13 : Option Addr) (cap14 : Nat) (ao16 : Option Addr) (cap17 : Nat) (B : Nat) (w0 : World) (Z0 : Fz) (Rr : List Res) (Z : Fz) (w : World) (hs4 : SlR (tyInt .u32) Z ao2 cap3 u0.abs) (hs8 : SlR (tyInt .u32) Z ao6 cap7 u1.a.abs) (hs11 : SlR (tyInt .u32) Z ao9 cap10 u1.b.abs) (hs15 : SlR (tyInt .u32) Z ao13 cap14 u2.a.abs) (hs18 : SlR (tyInt .u32) Z ao16 cap17 u2.b.abs) (hM0 : Mem B [] w0 Z0 ((.row b1 [.bool u0.neg, .slice ao2 u0.abs.length cap3] 69) :: (.row b5 [.bool u1.a.neg, .slice ao6 u1.a.abs.length cap7, .bool u1.b.neg, .slice ao9 u1.b.abs.length cap10] 71) :: (.row b12 [.bool u2.a.neg, .slice ao13 u2.a.abs.length cap14, .bool u2.b.neg, .slice ao16 u2.b.abs.length cap17] 71) :: Rr) Z w) (hZ : Z.on w) {K : (BInt × BRat × BRat) → Prop} (hp : gmulAB_vc u0 u1 u2 K) : Calls Tryd.prog 77 #[pt b1 0, pt b5 0, pt b12 2] w fun e w' => ∃ (r : BInt × BRat × BRat) (ao1001 : Option Addr) (cap1002 : Nat) (ao1004 : Option Addr) (cap1005 : Nat) (ao1007 : Option Addr) (cap1008 : Nat) (ao1010 : Option Addr) (cap1011 : Nat) (ao1013 : Option Addr) (cap1014 : Nat) (Z' : Fz), e = .returned (pt b1 0) ∧ K r ∧ Fz.le Z Z' ∧ SlR (tyInt .u32) Z' ao1001 cap1002 r.1.abs ∧ SlR (tyInt .u32) Z' ao1004 cap1005 r.2.1.a.abs ∧ SlR (tyInt .u32) Z' ao1007 cap1008 r.2.1.b.abs ∧ SlR (tyInt .u32) Z' ao1010 cap1011 r.2.2.a.abs ∧ SlR (tyInt .u32) Z' ao1013 cap1014 r.2.2.b.abs ∧ Mem B [] w0 Z0 ((.row b1 [.bool r.1.neg, .slice ao1001 r.1.abs.length cap1002] 69) :: (.row b5 [.bool r.2.1.a.neg, .slice ao1004 r.2.1.a.abs.length cap1005, .bool r.2.1.b.neg, .slice ao1007 r.2.1.b.abs.length cap1008] 71) :: (.row b12 [.bool r.2.2.a.neg, .slice ao1010 r.2.2.a.abs.length cap1011, .bool r.2.2.b.neg, .slice ao1013 r.2.2.b.abs.length cap1014] 71) :: Rr) Z' w' := by
 refine enter0 Tryd.func77 rfl rfl (by kernel_rfl) ?_; intro V k; have g := Fz.le.refl Z
 have I := hp (hs4.small) (hs8.small) (hs11.small) (hs15.small) (hs18.small)
 refine sqB k hM0 [] [] [] ?_; intro J p
 have q : Fr 27 [] [⟨0, [], pt b1 0⟩, ⟨1, [], pt b5 0⟩, ⟨2, [], pt b12 2⟩] J := p.reg
 refine wp_seq (rgS mixed hM0 [(0, true), (1, true), (2, true), (3, true), (4, true), (5, true), (6, true), (7, true), (8, true), (9, true), (10, true), (11, true), (12, true), (13, true), (14, true), (15, true), (16, true), (17, true), (18, false), (19, false), (20, true)] [] [1, 2] [.row b5 (e71Nd u1 ao6 cap7 ao9 cap10) 71, .row b12 (e71Nd u2 ao13 cap14 ao16 cap17) 71] ?_)
 intro L s W i
 have f := Fz.le.refl Z
 refine cS q 18 [0, 1, 0, 1] [] [(7, pt b1 0), (16, .bool (u1.a.neg != u2.b.neg)), (20, .slice ao6 u1.a.abs.length cap7), (24, .slice ao16 u2.b.abs.length cap17)] ?_; intro X t
 refine eS rfl ?_; intro M u
 obtain ⟨N, O⟩ := I
 refine ck t 109 #[.slice ao6 u1.a.abs.length cap7, .slice ao16 u2.b.abs.length cap17] ?_
 refine (gmul_fun u1.a.abs u2.b.abs N ao6 cap7 ao16 cap17 _ _ hs8 hs18 i.fz).mono ?_; rintro _ P ⟨v, x, Q, rfl, j, hm⟩; refine ⟨_, rfl, ?_⟩; intro Y y; have z := i.callZ hm; have d := hm.ext.le
 replace hs4 := hs4.mono d
 replace hs8 := hs8.mono d
 replace hs11 := hs11.mono d
 replace hs15 := hs15.mono d
 replace hs18 := hs18.mono d
 replace f := f.mono d
 replace g := Fz.le.trans g d
 have h : Mem B [] w0 Z0 ((.row b1 [.bool u0.neg, .slice ao2 u0.abs.length cap3] 69) :: (.row b5 (e71Nd u1 ao6 cap7 ao9 cap10) 71) :: (.row b12 (e71Nd u2 ao13 cap14 ao16 cap17) 71) :: Rr) Q P := z
 refine nl (qnI (u _ _ (h.cst f [1, 2]) ?_))
 refine eS rfl ?_; intro R A
 refine ck y 83 #[pt b1 0, .bool (u1.a.neg != u2.b.neg), .slice v (gmulS u1.a.abs u2.b.abs).length x] ?_
 refine (ggive_fun u0 (u1.a.neg != u2.b.neg) (gmulS u1.a.abs u2.b.abs) b1 ao2 cap3 v x _ _ _ _ _ _ hs4 j h h.fz).mono ?_; rintro _ S ⟨C, D, E, rfl, c, T, hm⟩; refine ⟨_, rfl, ?_⟩; intro aa F; have G := hm
 replace hs8 := hs8.mono c
 replace hs11 := hs11.mono c
 replace hs15 := hs15.mono c
 replace hs18 := hs18.mono c
 replace f := f.mono c
 replace g := Fz.le.trans g c
 have H : Mem B [] w0 Z0 ((.row b1 [.bool (ggive u0 (u1.a.neg != u2.b.neg) (gmulS u1.a.abs u2.b.abs)).neg, .slice C (ggive u0 (u1.a.neg != u2.b.neg) (gmulS u1.a.abs u2.b.abs)).abs.length D] 69) :: (.row b5 (e71Nd u1 ao6 cap7 ao9 cap10) 71) :: (.row b12 (e71Nd u2 ao13 cap14 ao16 cap17) 71) :: Rr) E S := G
 refine nl (qnI (A _ _ (H.cst f [1, 2]) ?_))
 refine cS F 1 [] [] [(6, pt b1 0)] ?_; intro ab U
 refine nS (s _ _ ?_)
 exact t_ (r_ (ra1 U (pt b1 0) ⟨((ggive u0 (u1.a.neg != u2.b.neg) (gmulS u1.a.abs u2.b.abs)), u1, u2), C, D, ao6, cap7, ao9, cap10, ao13, cap14, ao16, cap17, E, rfl, O, g, T, hs8, hs11, hs15, hs18, H.kp⟩))

theorem gmulBA_walk (u0 : BInt) (u1 : BRat) (u2 : BRat) (b1 : Nat) (ao2 : Option Addr) (cap3 : Nat) (b5 : Nat) (ao6 : Option Addr) (cap7 : Nat) (ao9 : Option Addr) (cap10 : Nat) (b12 : Nat) (ao13 : Option Addr) (cap14 : Nat) (ao16 : Option Addr) (cap17 : Nat) (B : Nat) (w0 : World) (Z0 : Fz) (Rr : List Res) (Z : Fz) (w : World) (hs4 : SlR (tyInt .u32) Z ao2 cap3 u0.abs) (hs8 : SlR (tyInt .u32) Z ao6 cap7 u1.a.abs) (hs11 : SlR (tyInt .u32) Z ao9 cap10 u1.b.abs) (hs15 : SlR (tyInt .u32) Z ao13 cap14 u2.a.abs) (hs18 : SlR (tyInt .u32) Z ao16 cap17 u2.b.abs) (hM0 : Mem B [] w0 Z0 ((.row b1 [.bool u0.neg, .slice ao2 u0.abs.length cap3] 69) :: (.row b5 [.bool u1.a.neg, .slice ao6 u1.a.abs.length cap7, .bool u1.b.neg, .slice ao9 u1.b.abs.length cap10] 71) :: (.row b12 [.bool u2.a.neg, .slice ao13 u2.a.abs.length cap14, .bool u2.b.neg, .slice ao16 u2.b.abs.length cap17] 71) :: Rr) Z w) (hZ : Z.on w) {K : (BInt × BRat × BRat) → Prop} (hp : gmulBA_vc u0 u1 u2 K) : Calls Tryd.prog 77 #[pt b1 0, pt b5 2, pt b12 0] w fun e w' => ∃ (r : BInt × BRat × BRat) (ao1001 : Option Addr) (cap1002 : Nat) (ao1004 : Option Addr) (cap1005 : Nat) (ao1007 : Option Addr) (cap1008 : Nat) (ao1010 : Option Addr) (cap1011 : Nat) (ao1013 : Option Addr) (cap1014 : Nat) (Z' : Fz), e = .returned (pt b1 0) ∧ K r ∧ Fz.le Z Z' ∧ SlR (tyInt .u32) Z' ao1001 cap1002 r.1.abs ∧ SlR (tyInt .u32) Z' ao1004 cap1005 r.2.1.a.abs ∧ SlR (tyInt .u32) Z' ao1007 cap1008 r.2.1.b.abs ∧ SlR (tyInt .u32) Z' ao1010 cap1011 r.2.2.a.abs ∧ SlR (tyInt .u32) Z' ao1013 cap1014 r.2.2.b.abs ∧ Mem B [] w0 Z0 ((.row b1 [.bool r.1.neg, .slice ao1001 r.1.abs.length cap1002] 69) :: (.row b5 [.bool r.2.1.a.neg, .slice ao1004 r.2.1.a.abs.length cap1005, .bool r.2.1.b.neg, .slice ao1007 r.2.1.b.abs.length cap1008] 71) :: (.row b12 [.bool r.2.2.a.neg, .slice ao1010 r.2.2.a.abs.length cap1011, .bool r.2.2.b.neg, .slice ao1013 r.2.2.b.abs.length cap1014] 71) :: Rr) Z' w' := by
 refine enter0 Tryd.func77 rfl rfl (by kernel_rfl) ?_; intro V k; have g := Fz.le.refl Z
 have I := hp (hs4.small) (hs8.small) (hs11.small) (hs15.small) (hs18.small)
 refine sqB k hM0 [] [] [] ?_; intro J p
 have q : Fr 27 [] [⟨0, [], pt b1 0⟩, ⟨1, [], pt b5 2⟩, ⟨2, [], pt b12 0⟩] J := p.reg
 refine wp_seq (rgS mixed hM0 [(0, true), (1, true), (2, true), (3, true), (4, true), (5, true), (6, true), (7, true), (8, true), (9, true), (10, true), (11, true), (12, true), (13, true), (14, true), (15, true), (16, true), (17, true), (18, false), (19, false), (20, true)] [] [1, 2] [.row b5 (e71Nd u1 ao6 cap7 ao9 cap10) 71, .row b12 (e71Nd u2 ao13 cap14 ao16 cap17) 71] ?_)
 intro L s W i
 have f := Fz.le.refl Z
 refine cS q 18 [0, 1, 0, 1] [] [(7, pt b1 0), (16, .bool (u1.b.neg != u2.a.neg)), (20, .slice ao9 u1.b.abs.length cap10), (24, .slice ao13 u2.a.abs.length cap14)] ?_; intro X t
 refine eS rfl ?_; intro M u
 obtain ⟨N, O⟩ := I
 refine ck t 109 #[.slice ao9 u1.b.abs.length cap10, .slice ao13 u2.a.abs.length cap14] ?_
 refine (gmul_fun u1.b.abs u2.a.abs N ao9 cap10 ao13 cap14 _ _ hs11 hs15 i.fz).mono ?_; rintro _ P ⟨v, x, Q, rfl, j, hm⟩; refine ⟨_, rfl, ?_⟩; intro Y y; have z := i.callZ hm; have d := hm.ext.le
 replace hs4 := hs4.mono d
 replace hs8 := hs8.mono d
 replace hs11 := hs11.mono d
 replace hs15 := hs15.mono d
 replace hs18 := hs18.mono d
 replace f := f.mono d
 replace g := Fz.le.trans g d
 have h : Mem B [] w0 Z0 ((.row b1 [.bool u0.neg, .slice ao2 u0.abs.length cap3] 69) :: (.row b5 (e71Nd u1 ao6 cap7 ao9 cap10) 71) :: (.row b12 (e71Nd u2 ao13 cap14 ao16 cap17) 71) :: Rr) Q P := z
 refine nl (qnI (u _ _ (h.cst f [1, 2]) ?_))
 refine eS rfl ?_; intro R A
 refine ck y 83 #[pt b1 0, .bool (u1.b.neg != u2.a.neg), .slice v (gmulS u1.b.abs u2.a.abs).length x] ?_
 refine (ggive_fun u0 (u1.b.neg != u2.a.neg) (gmulS u1.b.abs u2.a.abs) b1 ao2 cap3 v x _ _ _ _ _ _ hs4 j h h.fz).mono ?_; rintro _ S ⟨C, D, E, rfl, c, T, hm⟩; refine ⟨_, rfl, ?_⟩; intro aa F; have G := hm
 replace hs8 := hs8.mono c
 replace hs11 := hs11.mono c
 replace hs15 := hs15.mono c
 replace hs18 := hs18.mono c
 replace f := f.mono c
 replace g := Fz.le.trans g c
 have H : Mem B [] w0 Z0 ((.row b1 [.bool (ggive u0 (u1.b.neg != u2.a.neg) (gmulS u1.b.abs u2.a.abs)).neg, .slice C (ggive u0 (u1.b.neg != u2.a.neg) (gmulS u1.b.abs u2.a.abs)).abs.length D] 69) :: (.row b5 (e71Nd u1 ao6 cap7 ao9 cap10) 71) :: (.row b12 (e71Nd u2 ao13 cap14 ao16 cap17) 71) :: Rr) E S := G
 refine nl (qnI (A _ _ (H.cst f [1, 2]) ?_))
 refine cS F 1 [] [] [(6, pt b1 0)] ?_; intro ab U
 refine nS (s _ _ ?_)
 exact t_ (r_ (ra1 U (pt b1 0) ⟨((ggive u0 (u1.b.neg != u2.a.neg) (gmulS u1.b.abs u2.a.abs)), u1, u2), C, D, ao6, cap7, ao9, cap10, ao13, cap14, ao16, cap17, E, rfl, O, g, T, hs8, hs11, hs15, hs18, H.kp⟩))

theorem gmulAA_walk (u0 : BInt) (u1 : BRat) (u2 : BRat) (b1 : Nat) (ao2 : Option Addr) (cap3 : Nat) (b5 : Nat) (ao6 : Option Addr) (cap7 : Nat) (ao9 : Option Addr) (cap10 : Nat) (b12 : Nat) (ao13 : Option Addr) (cap14 : Nat) (ao16 : Option Addr) (cap17 : Nat) (B : Nat) (w0 : World) (Z0 : Fz) (Rr : List Res) (Z : Fz) (w : World) (hs4 : SlR (tyInt .u32) Z ao2 cap3 u0.abs) (hs8 : SlR (tyInt .u32) Z ao6 cap7 u1.a.abs) (hs11 : SlR (tyInt .u32) Z ao9 cap10 u1.b.abs) (hs15 : SlR (tyInt .u32) Z ao13 cap14 u2.a.abs) (hs18 : SlR (tyInt .u32) Z ao16 cap17 u2.b.abs) (hM0 : Mem B [] w0 Z0 ((.row b1 [.bool u0.neg, .slice ao2 u0.abs.length cap3] 69) :: (.row b5 [.bool u1.a.neg, .slice ao6 u1.a.abs.length cap7, .bool u1.b.neg, .slice ao9 u1.b.abs.length cap10] 71) :: (.row b12 [.bool u2.a.neg, .slice ao13 u2.a.abs.length cap14, .bool u2.b.neg, .slice ao16 u2.b.abs.length cap17] 71) :: Rr) Z w) (hZ : Z.on w) {K : (BInt × BRat × BRat) → Prop} (hp : gmulAA_vc u0 u1 u2 K) : Calls Tryd.prog 77 #[pt b1 0, pt b5 0, pt b12 0] w fun e w' => ∃ (r : BInt × BRat × BRat) (ao1001 : Option Addr) (cap1002 : Nat) (ao1004 : Option Addr) (cap1005 : Nat) (ao1007 : Option Addr) (cap1008 : Nat) (ao1010 : Option Addr) (cap1011 : Nat) (ao1013 : Option Addr) (cap1014 : Nat) (Z' : Fz), e = .returned (pt b1 0) ∧ K r ∧ Fz.le Z Z' ∧ SlR (tyInt .u32) Z' ao1001 cap1002 r.1.abs ∧ SlR (tyInt .u32) Z' ao1004 cap1005 r.2.1.a.abs ∧ SlR (tyInt .u32) Z' ao1007 cap1008 r.2.1.b.abs ∧ SlR (tyInt .u32) Z' ao1010 cap1011 r.2.2.a.abs ∧ SlR (tyInt .u32) Z' ao1013 cap1014 r.2.2.b.abs ∧ Mem B [] w0 Z0 ((.row b1 [.bool r.1.neg, .slice ao1001 r.1.abs.length cap1002] 69) :: (.row b5 [.bool r.2.1.a.neg, .slice ao1004 r.2.1.a.abs.length cap1005, .bool r.2.1.b.neg, .slice ao1007 r.2.1.b.abs.length cap1008] 71) :: (.row b12 [.bool r.2.2.a.neg, .slice ao1010 r.2.2.a.abs.length cap1011, .bool r.2.2.b.neg, .slice ao1013 r.2.2.b.abs.length cap1014] 71) :: Rr) Z' w' := by
 refine enter0 Tryd.func77 rfl rfl (by kernel_rfl) ?_; intro V k; have g := Fz.le.refl Z
 have I := hp (hs4.small) (hs8.small) (hs11.small) (hs15.small) (hs18.small)
 refine sqB k hM0 [] [] [] ?_; intro J p
 have q : Fr 27 [] [⟨0, [], pt b1 0⟩, ⟨1, [], pt b5 0⟩, ⟨2, [], pt b12 0⟩] J := p.reg
 refine wp_seq (rgS mixed hM0 [(0, true), (1, true), (2, true), (3, true), (4, true), (5, true), (6, true), (7, true), (8, true), (9, true), (10, true), (11, true), (12, true), (13, true), (14, true), (15, true), (16, true), (17, true), (18, false), (19, false), (20, true)] [] [1, 2] [.row b5 (e71Nd u1 ao6 cap7 ao9 cap10) 71, .row b12 (e71Nd u2 ao13 cap14 ao16 cap17) 71] ?_)
 intro L s W i
 have f := Fz.le.refl Z
 refine cS q 18 [0, 1, 0, 1] [] [(7, pt b1 0), (16, .bool (u1.a.neg != u2.a.neg)), (20, .slice ao6 u1.a.abs.length cap7), (24, .slice ao13 u2.a.abs.length cap14)] ?_; intro X t
 refine eS rfl ?_; intro M u
 obtain ⟨N, O⟩ := I
 refine ck t 109 #[.slice ao6 u1.a.abs.length cap7, .slice ao13 u2.a.abs.length cap14] ?_
 refine (gmul_fun u1.a.abs u2.a.abs N ao6 cap7 ao13 cap14 _ _ hs8 hs15 i.fz).mono ?_; rintro _ P ⟨v, x, Q, rfl, j, hm⟩; refine ⟨_, rfl, ?_⟩; intro Y y; have z := i.callZ hm; have d := hm.ext.le
 replace hs4 := hs4.mono d
 replace hs8 := hs8.mono d
 replace hs11 := hs11.mono d
 replace hs15 := hs15.mono d
 replace hs18 := hs18.mono d
 replace f := f.mono d
 replace g := Fz.le.trans g d
 have h : Mem B [] w0 Z0 ((.row b1 [.bool u0.neg, .slice ao2 u0.abs.length cap3] 69) :: (.row b5 (e71Nd u1 ao6 cap7 ao9 cap10) 71) :: (.row b12 (e71Nd u2 ao13 cap14 ao16 cap17) 71) :: Rr) Q P := z
 refine nl (qnI (u _ _ (h.cst f [1, 2]) ?_))
 refine eS rfl ?_; intro R A
 refine ck y 83 #[pt b1 0, .bool (u1.a.neg != u2.a.neg), .slice v (gmulS u1.a.abs u2.a.abs).length x] ?_
 refine (ggive_fun u0 (u1.a.neg != u2.a.neg) (gmulS u1.a.abs u2.a.abs) b1 ao2 cap3 v x _ _ _ _ _ _ hs4 j h h.fz).mono ?_; rintro _ S ⟨C, D, E, rfl, c, T, hm⟩; refine ⟨_, rfl, ?_⟩; intro aa F; have G := hm
 replace hs8 := hs8.mono c
 replace hs11 := hs11.mono c
 replace hs15 := hs15.mono c
 replace hs18 := hs18.mono c
 replace f := f.mono c
 replace g := Fz.le.trans g c
 have H : Mem B [] w0 Z0 ((.row b1 [.bool (ggive u0 (u1.a.neg != u2.a.neg) (gmulS u1.a.abs u2.a.abs)).neg, .slice C (ggive u0 (u1.a.neg != u2.a.neg) (gmulS u1.a.abs u2.a.abs)).abs.length D] 69) :: (.row b5 (e71Nd u1 ao6 cap7 ao9 cap10) 71) :: (.row b12 (e71Nd u2 ao13 cap14 ao16 cap17) 71) :: Rr) E S := G
 refine nl (qnI (A _ _ (H.cst f [1, 2]) ?_))
 refine cS F 1 [] [] [(6, pt b1 0)] ?_; intro ab U
 refine nS (s _ _ ?_)
 exact t_ (r_ (ra1 U (pt b1 0) ⟨((ggive u0 (u1.a.neg != u2.a.neg) (gmulS u1.a.abs u2.a.abs)), u1, u2), C, D, ao6, cap7, ao9, cap10, ao13, cap14, ao16, cap17, E, rfl, O, g, T, hs8, hs11, hs15, hs18, H.kp⟩))

theorem gmulBB_walk (u0 : BInt) (u1 : BRat) (u2 : BRat) (b1 : Nat) (ao2 : Option Addr) (cap3 : Nat) (b5 : Nat) (ao6 : Option Addr) (cap7 : Nat) (ao9 : Option Addr) (cap10 : Nat) (b12 : Nat) (ao13 : Option Addr) (cap14 : Nat) (ao16 : Option Addr) (cap17 : Nat) (B : Nat) (w0 : World) (Z0 : Fz) (Rr : List Res) (Z : Fz) (w : World) (hs4 : SlR (tyInt .u32) Z ao2 cap3 u0.abs) (hs8 : SlR (tyInt .u32) Z ao6 cap7 u1.a.abs) (hs11 : SlR (tyInt .u32) Z ao9 cap10 u1.b.abs) (hs15 : SlR (tyInt .u32) Z ao13 cap14 u2.a.abs) (hs18 : SlR (tyInt .u32) Z ao16 cap17 u2.b.abs) (hM0 : Mem B [] w0 Z0 ((.row b1 [.bool u0.neg, .slice ao2 u0.abs.length cap3] 69) :: (.row b5 [.bool u1.a.neg, .slice ao6 u1.a.abs.length cap7, .bool u1.b.neg, .slice ao9 u1.b.abs.length cap10] 71) :: (.row b12 [.bool u2.a.neg, .slice ao13 u2.a.abs.length cap14, .bool u2.b.neg, .slice ao16 u2.b.abs.length cap17] 71) :: Rr) Z w) (hZ : Z.on w) {K : (BInt × BRat × BRat) → Prop} (hp : gmulBB_vc u0 u1 u2 K) : Calls Tryd.prog 77 #[pt b1 0, pt b5 2, pt b12 2] w fun e w' => ∃ (r : BInt × BRat × BRat) (ao1001 : Option Addr) (cap1002 : Nat) (ao1004 : Option Addr) (cap1005 : Nat) (ao1007 : Option Addr) (cap1008 : Nat) (ao1010 : Option Addr) (cap1011 : Nat) (ao1013 : Option Addr) (cap1014 : Nat) (Z' : Fz), e = .returned (pt b1 0) ∧ K r ∧ Fz.le Z Z' ∧ SlR (tyInt .u32) Z' ao1001 cap1002 r.1.abs ∧ SlR (tyInt .u32) Z' ao1004 cap1005 r.2.1.a.abs ∧ SlR (tyInt .u32) Z' ao1007 cap1008 r.2.1.b.abs ∧ SlR (tyInt .u32) Z' ao1010 cap1011 r.2.2.a.abs ∧ SlR (tyInt .u32) Z' ao1013 cap1014 r.2.2.b.abs ∧ Mem B [] w0 Z0 ((.row b1 [.bool r.1.neg, .slice ao1001 r.1.abs.length cap1002] 69) :: (.row b5 [.bool r.2.1.a.neg, .slice ao1004 r.2.1.a.abs.length cap1005, .bool r.2.1.b.neg, .slice ao1007 r.2.1.b.abs.length cap1008] 71) :: (.row b12 [.bool r.2.2.a.neg, .slice ao1010 r.2.2.a.abs.length cap1011, .bool r.2.2.b.neg, .slice ao1013 r.2.2.b.abs.length cap1014] 71) :: Rr) Z' w' := by
 refine enter0 Tryd.func77 rfl rfl (by kernel_rfl) ?_; intro V k; have g := Fz.le.refl Z
 have I := hp (hs4.small) (hs8.small) (hs11.small) (hs15.small) (hs18.small)
 refine sqB k hM0 [] [] [] ?_; intro J p
 have q : Fr 27 [] [⟨0, [], pt b1 0⟩, ⟨1, [], pt b5 2⟩, ⟨2, [], pt b12 2⟩] J := p.reg
 refine wp_seq (rgS mixed hM0 [(0, true), (1, true), (2, true), (3, true), (4, true), (5, true), (6, true), (7, true), (8, true), (9, true), (10, true), (11, true), (12, true), (13, true), (14, true), (15, true), (16, true), (17, true), (18, false), (19, false), (20, true)] [] [1, 2] [.row b5 (e71Nd u1 ao6 cap7 ao9 cap10) 71, .row b12 (e71Nd u2 ao13 cap14 ao16 cap17) 71] ?_)
 intro L s W i
 have f := Fz.le.refl Z
 refine cS q 18 [0, 1, 0, 1] [] [(7, pt b1 0), (16, .bool (u1.b.neg != u2.b.neg)), (20, .slice ao9 u1.b.abs.length cap10), (24, .slice ao16 u2.b.abs.length cap17)] ?_; intro X t
 refine eS rfl ?_; intro M u
 obtain ⟨N, O⟩ := I
 refine ck t 109 #[.slice ao9 u1.b.abs.length cap10, .slice ao16 u2.b.abs.length cap17] ?_
 refine (gmul_fun u1.b.abs u2.b.abs N ao9 cap10 ao16 cap17 _ _ hs11 hs18 i.fz).mono ?_; rintro _ P ⟨v, x, Q, rfl, j, hm⟩; refine ⟨_, rfl, ?_⟩; intro Y y; have z := i.callZ hm; have d := hm.ext.le
 replace hs4 := hs4.mono d
 replace hs8 := hs8.mono d
 replace hs11 := hs11.mono d
 replace hs15 := hs15.mono d
 replace hs18 := hs18.mono d
 replace f := f.mono d
 replace g := Fz.le.trans g d
 have h : Mem B [] w0 Z0 ((.row b1 [.bool u0.neg, .slice ao2 u0.abs.length cap3] 69) :: (.row b5 (e71Nd u1 ao6 cap7 ao9 cap10) 71) :: (.row b12 (e71Nd u2 ao13 cap14 ao16 cap17) 71) :: Rr) Q P := z
 refine nl (qnI (u _ _ (h.cst f [1, 2]) ?_))
 refine eS rfl ?_; intro R A
 refine ck y 83 #[pt b1 0, .bool (u1.b.neg != u2.b.neg), .slice v (gmulS u1.b.abs u2.b.abs).length x] ?_
 refine (ggive_fun u0 (u1.b.neg != u2.b.neg) (gmulS u1.b.abs u2.b.abs) b1 ao2 cap3 v x _ _ _ _ _ _ hs4 j h h.fz).mono ?_; rintro _ S ⟨C, D, E, rfl, c, T, hm⟩; refine ⟨_, rfl, ?_⟩; intro aa F; have G := hm
 replace hs8 := hs8.mono c
 replace hs11 := hs11.mono c
 replace hs15 := hs15.mono c
 replace hs18 := hs18.mono c
 replace f := f.mono c
 replace g := Fz.le.trans g c
 have H : Mem B [] w0 Z0 ((.row b1 [.bool (ggive u0 (u1.b.neg != u2.b.neg) (gmulS u1.b.abs u2.b.abs)).neg, .slice C (ggive u0 (u1.b.neg != u2.b.neg) (gmulS u1.b.abs u2.b.abs)).abs.length D] 69) :: (.row b5 (e71Nd u1 ao6 cap7 ao9 cap10) 71) :: (.row b12 (e71Nd u2 ao13 cap14 ao16 cap17) 71) :: Rr) E S := G
 refine nl (qnI (A _ _ (H.cst f [1, 2]) ?_))
 refine cS F 1 [] [] [(6, pt b1 0)] ?_; intro ab U
 refine nS (s _ _ ?_)
 exact t_ (r_ (ra1 U (pt b1 0) ⟨((ggive u0 (u1.b.neg != u2.b.neg) (gmulS u1.b.abs u2.b.abs)), u1, u2), C, D, ao6, cap7, ao9, cap10, ao13, cap14, ao16, cap17, E, rfl, O, g, T, hs8, hs11, hs15, hs18, H.kp⟩))

theorem gaddI_walk (u0 : BInt) (u1 : BInt) (u2 : BInt) (b1 : Nat) (ao2 : Option Addr) (cap3 : Nat) (b5 : Nat) (ao6 : Option Addr) (cap7 : Nat) (b9 : Nat) (ao10 : Option Addr) (cap11 : Nat) (B : Nat) (w0 : World) (Z0 : Fz) (Rr : List Res) (Z : Fz) (w : World) (hs4 : SlR (tyInt .u32) Z ao2 cap3 u0.abs) (hs8 : SlR (tyInt .u32) Z ao6 cap7 u1.abs) (hs12 : SlR (tyInt .u32) Z ao10 cap11 u2.abs) (hM0 : Mem B [] w0 Z0 ((.row b1 [.bool u0.neg, .slice ao2 u0.abs.length cap3] 69) :: (.row b5 [.bool u1.neg, .slice ao6 u1.abs.length cap7] 69) :: (.row b9 [.bool u2.neg, .slice ao10 u2.abs.length cap11] 69) :: Rr) Z w) (hZ : Z.on w) {K : (BInt × BInt × BInt) → Prop} (hp : gaddI_vc u0 u1 u2 K) : Calls Tryd.prog 76 #[pt b1 0, pt b5 0, pt b9 0] w fun e w' => ∃ (r : BInt × BInt × BInt) (ao1001 : Option Addr) (cap1002 : Nat) (ao1004 : Option Addr) (cap1005 : Nat) (ao1007 : Option Addr) (cap1008 : Nat) (Z' : Fz), e = .returned (pt b1 0) ∧ K r ∧ Fz.le Z Z' ∧ SlR (tyInt .u32) Z' ao1001 cap1002 r.1.abs ∧ SlR (tyInt .u32) Z' ao1004 cap1005 r.2.1.abs ∧ SlR (tyInt .u32) Z' ao1007 cap1008 r.2.2.abs ∧ Mem B [] w0 Z0 ((.row b1 [.bool r.1.neg, .slice ao1001 r.1.abs.length cap1002] 69) :: (.row b5 [.bool r.2.1.neg, .slice ao1004 r.2.1.abs.length cap1005] 69) :: (.row b9 [.bool r.2.2.neg, .slice ao1007 r.2.2.abs.length cap1008] 69) :: Rr) Z' w' := by
 refine enter0 Tryd.func76 rfl rfl (by kernel_rfl) ?_; intro S k; have c := Fz.le.refl Z
 have F := hp (hs4.small) (hs8.small) (hs12.small)
 refine sqB k hM0 [] [] [] ?_; intro G n
 have o : Fr 28 [] [⟨0, [], pt b1 0⟩, ⟨1, [], pt b5 0⟩, ⟨2, [], pt b9 0⟩] G := n.reg
 refine wp_seq (rgS mixed hM0 [(0, true), (1, true), (2, true), (3, true), (4, true), (5, true), (6, true), (7, true), (8, true), (9, true), (10, true), (11, true), (12, true), (13, true), (14, true), (15, true), (16, true), (17, false), (18, true), (19, true), (20, false), (21, true)] [] [1, 2] [.row b5 [.bool u1.neg, .slice ao6 u1.abs.length cap7] 69, .row b9 [.bool u2.neg, .slice ao10 u2.abs.length cap11] 69] ?_)
 intro H p T g
 have a := Fz.le.refl Z
 refine cS o 17 [0, 0, 1, 1] [] [(7, pt b1 0), (11, .bool u1.neg), (15, .slice ao6 u1.abs.length cap7), (19, .bool u2.neg), (23, .slice ao10 u2.abs.length cap11)] ?_; intro U q
 refine eS rfl ?_; intro I s
 obtain ⟨J, L⟩ := F
 refine ck q 108 #[.bool u1.neg, .slice ao6 u1.abs.length cap7, .bool u2.neg, .slice ao10 u2.abs.length cap11] ?_
 refine (gsum_fun u1.neg u1.abs u2.neg u2.abs J ao6 cap7 ao10 cap11 _ _ hs8 hs12 g.fz).mono ?_; rintro _ M ⟨h, i, N, rfl, j, hm⟩; refine ⟨_, rfl, ?_⟩; intro V t; have u := g.callZ hm; have d := hm.ext.le
 replace hs4 := hs4.mono d
 replace hs8 := hs8.mono d
 replace hs12 := hs12.mono d
 replace a := a.mono d
 replace c := Fz.le.trans c d
 have f : Mem B [] w0 Z0 ((.row b1 [.bool u0.neg, .slice ao2 u0.abs.length cap3] 69) :: (.row b5 [.bool u1.neg, .slice ao6 u1.abs.length cap7] 69) :: (.row b9 [.bool u2.neg, .slice ao10 u2.abs.length cap11] 69) :: Rr) N M := u
 refine nl (qnI (s _ _ (f.cst a [1, 2]) ?_))
 refine cS t 2 [] [] [(25, .bool (gsumS u1.neg u1.abs u2.neg u2.abs).1), (26, .slice h (gsumS u1.neg u1.abs u2.neg u2.abs).2.length i)] ?_; intro W v
 refine eS rfl ?_; intro O x
 refine ck v 83 #[pt b1 0, .bool (gsumS u1.neg u1.abs u2.neg u2.abs).1, .slice h (gsumS u1.neg u1.abs u2.neg u2.abs).2.length i] ?_
 refine (ggive_fun u0 (gsumS u1.neg u1.abs u2.neg u2.abs).1 (gsumS u1.neg u1.abs u2.neg u2.abs).2 b1 ao2 cap3 h i _ _ _ _ _ _ hs4 j f f.fz).mono ?_; rintro _ P ⟨y, z, A, rfl, b, Q, hm⟩; refine ⟨_, rfl, ?_⟩; intro X C; have D := hm
 replace hs8 := hs8.mono b
 replace hs12 := hs12.mono b
 replace a := a.mono b
 replace c := Fz.le.trans c b
 have E : Mem B [] w0 Z0 ((.row b1 [.bool (ggive u0 (gsumS u1.neg u1.abs u2.neg u2.abs).1 (gsumS u1.neg u1.abs u2.neg u2.abs).2).neg, .slice y (ggive u0 (gsumS u1.neg u1.abs u2.neg u2.abs).1 (gsumS u1.neg u1.abs u2.neg u2.abs).2).abs.length z] 69) :: (.row b5 [.bool u1.neg, .slice ao6 u1.abs.length cap7] 69) :: (.row b9 [.bool u2.neg, .slice ao10 u2.abs.length cap11] 69) :: Rr) A P := D
 refine nl (qnI (x _ _ (E.cst a [1, 2]) ?_))
 refine cS C 1 [] [] [(6, pt b1 0)] ?_; intro Y R
 refine nS (p _ _ ?_)
 exact t_ (r_ (ra1 R (pt b1 0) ⟨((ggive u0 (gsumS u1.neg u1.abs u2.neg u2.abs).1 (gsumS u1.neg u1.abs u2.neg u2.abs).2), u1, u2), y, z, ao6, cap7, ao10, cap11, A, rfl, L, c, Q, hs8, hs12, E.kp⟩))

theorem rnorm_walk (u0 : BRat) (b1 : Nat) (ao2 : Option Addr) (cap3 : Nat) (ao5 : Option Addr) (cap6 : Nat) (B : Nat) (w0 : World) (Z0 : Fz) (Rr : List Res) (Z : Fz) (w : World) (hs4 : SlR (tyInt .u32) Z ao2 cap3 u0.a.abs) (hs7 : SlR (tyInt .u32) Z ao5 cap6 u0.b.abs) (hM0 : Mem B [] w0 Z0 ((.row b1 [.bool u0.a.neg, .slice ao2 u0.a.abs.length cap3, .bool u0.b.neg, .slice ao5 u0.b.abs.length cap6] 71) :: Rr) Z w) (hZ : Z.on w) {K : BRat → Prop} (hp : rnorm_vc u0 K) : Calls Tryd.prog 107 #[pt b1 0] w fun e w' => ∃ (r : BRat) (ao1001 : Option Addr) (cap1002 : Nat) (ao1004 : Option Addr) (cap1005 : Nat) (Z' : Fz), e = .returned (pt b1 0) ∧ K r ∧ Fz.le Z Z' ∧ SlR (tyInt .u32) Z' ao1001 cap1002 r.a.abs ∧ SlR (tyInt .u32) Z' ao1004 cap1005 r.b.abs ∧ Mem B [] w0 Z0 ((.row b1 [.bool r.a.neg, .slice ao1001 r.a.abs.length cap1002, .bool r.b.neg, .slice ao1004 r.b.abs.length cap1005] 71) :: Rr) Z' w' := by
 refine enter0 Tryd.func107 rfl rfl (by kernel_rfl) ?_; intro a0 b3; have j := Fz.le.refl Z
 have eO := hp (hs4.small) (hs7.small)
 refine sqB b3 hM0 [] [] [] ?_; intro gW b5
 refine s_ (sqB b5 hM0 [0] [] [(14, .bool ((u0.b.abs.length : Int) == 0))] ?_); intro gX bi
 obtain ⟨eP, eQ⟩ := eO
 refine cn bi eP ?_
 refine k_ (s_ (sqB bi hM0 [0] [] [(23, .bool u0.b.neg)] ?_)); intro bj b6
 have b7 : Fr 120 [] [⟨0, [], pt b1 0⟩, ⟨23, [], .bool u0.b.neg⟩] bj := b6.reg
 obtain ⟨eR, aK, eT⟩ := eQ
 refine wp_then_k fun KJ47 hKJ48 => ?_
 have b8 : ∀ (f : BRat) (l : Option Addr) (m : Nat) (h : Option Addr) (i : Nat) (O : Fz), eR f ∧ SlR (tyInt .u32) O l m f.a.abs ∧ SlR (tyInt .u32) O h i f.b.abs ∧ Fz.le Z O → ∀ a1 w1, Fr 120 [] [⟨0, [], pt b1 0⟩] a1 → Mem B [] w0 Z0 ((.row b1 (e71Nd f l m h i) 71) :: Rr) O w1 → KJ47 a1 w1 := by
  rintro f l m h i O ⟨eU, o, n, p⟩ gY gZ b9 u
  refine hKJ48 _ _ ?_
  have aL := eT f eU
  replace j := Fz.le.trans j p
  refine s_ (sqB b9 u [0] [] [(44, .bool ((f.a.abs.length : Int) == 0))] ?_); intro g0 aj
  refine c_ aj aL (fun _ eV => ?_) fun _ aN => ?_
  ·
   refine sqH ?_; intro eW ca
   refine bt aj u 3 [] [] [(47, pt b1 2)] ?_; intro g1 cb
   refine ck cb 82 #[pt b1 2, i6 1] ?_
   refine enter0 Tryd.func82 rfl rfl (by kernel_rfl) ?_; intro eX cc
   have ce : Fr 18 [] [⟨0, [], pt b1 2⟩, ⟨1, [], i6 1⟩] eX := cc.reg
   refine sqB ce u [] [] [] ?_; intro g2 cf
   refine sqB cf u [] [] [(5, y6 1)] ?_; intro g3 cg
   refine s_ (sqB cg u [] [] [(9, .bool false)] ?_); intro g4 bl
   refine cdF bl (by kernel_rfl) ?_
   refine k_ (sqH ?_); intro eY ch
   refine bt bl u 4 [] [] [(12, pt b1 2), (14, .bool false), (15, y6 1)] ?_; intro g5 ci
   obtain ⟨eZ, cj⟩ := eV
   refine ck ci 110 #[y6 1] ?_
   refine (gwords_fun 1 eZ _ _ u.fz).mono ?_; rintro _ e0 ⟨cl, cm, e1, rfl, aM, hm⟩; refine ⟨_, rfl, ?_⟩; intro g6 co; have cp := u.callZ hm; have ag := hm.ext.le
   replace o := o.mono ag
   replace n := n.mono ag
   replace j := Fz.le.trans j ag
   have bm : Mem B [] w0 Z0 ((.row b1 (e71Nd f l m h i) 71) :: Rr) e1 e0 := cp
   have cq := cj (aM.small)
   refine ck co 83 #[pt b1 2, .bool false, .slice cl (gwordsS 1).length cm] ?_
   obtain ⟨L, e2, cr⟩ := hxq cq
   have h9 := ggiveB_fun f false (gwordsS 1) b1 l m h i cl cm _ _ _ _ _ _ o n aM bm bm.fz; rw [e2] at h9; refine h9.mono ?_; rintro _ cs ⟨bn, bo, bp, bq, br, rfl, S, ct, cu, hm⟩; refine ⟨_, rfl, ?_⟩; intro g7 cv; have cw := hm
   replace j := Fz.le.trans j S
   have cx : Mem B [] w0 Z0 ((.row b1 (e71Nd L bn bo bp bq) 71) :: Rr) br cs := cw
   have e3 := cr (ct.small) (cu.small)
   refine s1 cv 4 (pt b1 2) ?_; intro g8 cz
   apply ch
   refine r_ (ra1 cz (pt b1 2) ?_)
   refine ⟨_, rfl, ?_⟩; intro g9 cA
   have cB : Mem B [] w0 Z0 ((.row b1 (e71Nd L bn bo bp bq) 71) :: Rr) br cs := cx
   apply ca
   refine sqB cA cB [] [] [(2, pt b1 0)] ?_; intro ha e4
   exact r_ (h_ (ra1 e4 (pt b1 0) ⟨L, bn, bo, bp, bq, br, rfl, e3, j, ct, cu, cB.kp⟩))
  refine k_ (s_ (sqH ?_)); intro cC aO
  refine bt aj u 8 [0] [] [(57, .bool ((f.b.abs.length : Int) == 1))] ?_; intro hb aP
  refine e_ aN (fun ak e5 => ?_) fun ak fW => ?_
  ·
   have cD := aP.reval (d := 57) (c := []) (v := .bool ((f.b.abs.length : Int) == 1)) (by kernel_rfl) (.bool true) (by rw [ak])
   refine bt cD u 5 [0] [58, 59, 60, 61, 62] [(62, .slice h f.b.abs.length i)] ?_; intro hc bs
   obtain ⟨e6, cE⟩ := e5
   refine ix bs (T := (tyInt .u32)) (xs := f.b.abs) n (0 : Int) e6 (k := .i64) (e := 109) (bytes := 4) (wK bs true) rfl (by kernel_rfl) rfl (by kernel_rfl) (by kernel_rfl) (by kernel_rfl) ?_; intro hd he e7 al hf e8 G e9 aQ
   have aR := cE al e8
   obtain rfl : e7 = ([.int .u32 al] : List Value) := e9
   refine v_ aQ (.int .u32 al) (wK aQ true) (lz aQ u.fz G 0 (g := []) rfl (by kernel_rfl) (by kernel_rfl) (by kernel_rfl) rfl) ?_; intro hg cF
   refine bt cF u 2 [] [65, 66] [(66, .bool (al == 1))] ?_; intro fa am
   apply aO
   refine c_ am aR (fun _ fb => ?_) fun _ fd => ?_
   ·
    refine sqB am u [] [] [(2, pt b1 0)] ?_; intro hh fc
    exact r_ (h_ (ra1 fc (pt b1 0) ⟨f, l, m, h, i, O, rfl, fb, j, o, n, u.kp⟩))
   apply k_
   have cG : Fr 120 [] [⟨0, [], pt b1 0⟩] fa := am.reg
   refine wp_seq (rgS mixed u [(0, true), (1, true), (2, true), (3, true), (4, true), (5, true), (6, true), (7, true), (8, true), (9, true), (10, false), (11, true)] [] [0] [.row b1 (e71Nd f l m h i) 71] ?_)
   intro fe cH hi bv
   have bw := Fz.le.refl O
   refine cS cG 10 [0, 0] [] [(72, .slice l f.a.abs.length m), (77, .slice h f.b.abs.length i)] ?_; intro hj cI
   refine eS rfl ?_; intro ff cJ
   obtain ⟨fg, aS⟩ := fd
   refine ck cI 127 #[.slice l f.a.abs.length m, .slice h f.b.abs.length i] ?_
   refine (gcom_fun f.a.abs f.b.abs fg l m h i _ _ o n bv.fz).mono ?_; rintro _ fh ⟨z, A, cK, rfl, E, hm⟩; refine ⟨_, rfl, ?_⟩; intro hk cL; have cM := bv.callZ hm; have P := hm.ext.le
   replace o := o.mono P
   replace n := n.mono P
   replace bw := bw.mono P
   replace j := Fz.le.trans j P
   have x : Mem B [] w0 Z0 ((.row b1 (e71Nd f l m h i) 71) :: Rr) cK fh := cM
   refine nl (qnI (cJ _ _ (x.cst bw [0]) ?_))
   refine cS cL 1 [] [] [(3, .slice z (gcomS f.a.abs f.b.abs).length A)] ?_; intro hl cN
   refine nS (cH _ _ ?_)
   refine t_ (s_ (sqH ?_)); intro cO aT
   refine bt cN x 4 [] [] [(82, .bool (((gcomS f.a.abs f.b.abs).length : Int) == 1))] ?_; intro hn aU
   refine e_ aS (fun an fi => ?_) fun an fG => ?_
   ·
    have aV := aU.reval (d := 82) (c := []) (v := .bool (((gcomS f.a.abs f.b.abs).length : Int) == 1)) (by kernel_rfl) (.bool true) (by rw [an])
    refine g_ aV true (.slice z (gcomS f.a.abs f.b.abs).length A) ?_; intro ho bx
    obtain ⟨fj, cP⟩ := fi
    refine ix bx (T := (tyInt .u32)) (xs := (gcomS f.a.abs f.b.abs)) E (0 : Int) fj (k := .i64) (e := 109) (bytes := 4) (wK bx true) rfl (by kernel_rfl) rfl (by kernel_rfl) (by kernel_rfl) (by kernel_rfl) ?_; intro hq hr fk ao hs fl ap fm aW
    have aX := cP ao fl
    obtain rfl : fk = ([.int .u32 ao] : List Value) := fm
    refine v_ aW (.int .u32 ao) (wK aW true) (lz aW x.fz ap 0 (g := []) rfl (by kernel_rfl) (by kernel_rfl) (by kernel_rfl) rfl) ?_; intro ht cQ
    refine bt cQ x 2 [] [86, 87] [(87, .bool (ao == 1))] ?_; intro hu aq
    apply aT
    refine c_ aq aX (fun _ fn => ?_) fun _ fp => ?_
    ·
     refine sqB aq x [] [] [(2, pt b1 0)] ?_; intro hv fo
     exact r_ (h_ (ra1 fo (pt b1 0) ⟨f, l, m, h, i, cK, rfl, fn, j, o, n, x.kp⟩))
    refine k_ (sqH ?_); intro fq cR
    refine bt aq x 6 [0] [] [(94, .slice l f.a.abs.length m), (95, .slice z (gcomS f.a.abs f.b.abs).length A)] ?_; intro hw cT
    obtain ⟨fr, cU⟩ := fp
    refine ck cT 128 #[.slice l f.a.abs.length m, .slice z (gcomS f.a.abs f.b.abs).length A] ?_
    refine (gdiv_fun f.a.abs (gcomS f.a.abs f.b.abs) fr l m z A _ _ o E x.fz).mono ?_; rintro _ fs ⟨U, V, hx, hy, ft, rfl, aY, bA, hm⟩; refine ⟨_, rfl, ?_⟩; intro hz cV; have cW := x.callZ hm; have M := hm.ext.le
    replace n := n.mono M
    replace E := E.mono M
    replace j := Fz.le.trans j M
    have ar : Mem B [] w0 Z0 ((.row b1 (e71Nd f l m h i) 71) :: Rr) ft fs := cW
    have fu := cU (aY.small) (bA.small)
    refine bt cV ar 5 [] [] [(4, .slice U (gdivS f.a.abs (gcomS f.a.abs f.b.abs)).1.length V)] ?_; intro hA cY
    apply cR
    refine sqH ?_; intro fv cZ
    refine bt cY ar 6 [0] [] [(104, .slice h f.b.abs.length i), (105, .slice z (gcomS f.a.abs f.b.abs).length A)] ?_; intro hB c0
    obtain ⟨fw, c1⟩ := fu
    refine ck c0 128 #[.slice h f.b.abs.length i, .slice z (gcomS f.a.abs f.b.abs).length A] ?_
    refine (gdiv_fun f.b.abs (gcomS f.a.abs f.b.abs) fw h i z A _ _ n E ar.fz).mono ?_; rintro _ fx ⟨au, av, hC, hD, aZ, rfl, c2, fy, hm⟩; refine ⟨_, rfl, ?_⟩; intro hE c3; have c4 := ar.callZ hm; have H := hm.ext.le
    replace aY := aY.mono H
    replace j := Fz.le.trans j H
    have a2 : Mem B [] w0 Z0 ((.row b1 (e71Nd f l m h i) 71) :: Rr) aZ fx := c4
    have fA := c1 (c2.small) (fy.small)
    refine bt c3 a2 5 [] [] [(6, .slice au (gdivS f.b.abs (gcomS f.a.abs f.b.abs)).1.length av)] ?_; intro hF c6
    apply cZ
    refine sqH ?_; intro fB c7
    refine bt c6 a2 5 [] [] [(110, .slice U (gdivS f.a.abs (gcomS f.a.abs f.b.abs)).1.length V), (113, pt b1 1)] ?_; intro hG bB
    refine sx bB a2 0 [.bool f.a.neg, .slice U (gdivS f.a.abs (gcomS f.a.abs f.b.abs)).1.length V, .bool f.b.neg, .slice h f.b.abs.length i] 1 ?_; intro fC c8
    have bC : Mem B [] w0 Z0 ((.row b1 [.bool f.a.neg, .slice U (gdivS f.a.abs (gcomS f.a.abs f.b.abs)).1.length V, .bool f.b.neg, .slice h f.b.abs.length i] 71) :: Rr) aZ fC := c8
    apply c7
    refine sqH ?_; intro fD c9
    refine bt bB bC 5 [] [] [(115, .slice au (gdivS f.b.abs (gcomS f.a.abs f.b.abs)).1.length av), (118, pt b1 3)] ?_; intro hH bD
    refine sx bD bC 0 [.bool f.a.neg, .slice U (gdivS f.a.abs (gcomS f.a.abs f.b.abs)).1.length V, .bool f.b.neg, .slice au (gdivS f.b.abs (gcomS f.a.abs f.b.abs)).1.length av] 3 ?_; intro fE da
    have db : Mem B [] w0 Z0 ((.row b1 [.bool f.a.neg, .slice U (gdivS f.a.abs (gcomS f.a.abs f.b.abs)).1.length V, .bool f.b.neg, .slice au (gdivS f.b.abs (gcomS f.a.abs f.b.abs)).1.length av] 71) :: Rr) aZ fE := da
    apply c9
    refine sqB bD db [] [] [(2, pt b1 0)] ?_; intro hI fF
    exact r_ (ra1 fF (pt b1 0) ⟨(⟨(⟨f.a.neg, (gdivS f.a.abs (gcomS f.a.abs f.b.abs)).1⟩ : BInt), (⟨f.b.neg, (gdivS f.b.abs (gcomS f.a.abs f.b.abs)).1⟩ : BInt)⟩ : BRat), U, V, au, av, aZ, rfl, fA, j, aY, c2, db.kp⟩)
   have dc := aU.reval (d := 82) (c := []) (v := .bool (((gcomS f.a.abs f.b.abs).length : Int) == 1)) (by kernel_rfl) (.bool false) (by rw [an])
   refine bt dc x 5 [] [83, 84, 85, 86, 87] [(87, .bool false)] ?_; intro hJ bE
   apply aT
   refine cdF bE (by kernel_rfl) ?_
   refine k_ (sqH ?_); intro fH dd
   refine bt bE x 6 [0] [] [(94, .slice l f.a.abs.length m), (95, .slice z (gcomS f.a.abs f.b.abs).length A)] ?_; intro hK de
   obtain ⟨fI, df⟩ := fG
   refine ck de 128 #[.slice l f.a.abs.length m, .slice z (gcomS f.a.abs f.b.abs).length A] ?_
   refine (gdiv_fun f.a.abs (gcomS f.a.abs f.b.abs) fI l m z A _ _ o E x.fz).mono ?_; rintro _ fJ ⟨W, X, hL, hM, fK, rfl, a3, bF, hm⟩; refine ⟨_, rfl, ?_⟩; intro hN dg; have dh := x.callZ hm; have Q := hm.ext.le
   replace n := n.mono Q
   replace E := E.mono Q
   replace j := Fz.le.trans j Q
   have aw : Mem B [] w0 Z0 ((.row b1 (e71Nd f l m h i) 71) :: Rr) fK fJ := dh
   have fL := df (a3.small) (bF.small)
   refine bt dg aw 5 [] [] [(4, .slice W (gdivS f.a.abs (gcomS f.a.abs f.b.abs)).1.length X)] ?_; intro hO dj
   apply dd
   refine sqH ?_; intro fM dk
   refine bt dj aw 6 [0] [] [(104, .slice h f.b.abs.length i), (105, .slice z (gcomS f.a.abs f.b.abs).length A)] ?_; intro hP dl
   obtain ⟨fN, dm⟩ := fL
   refine ck dl 128 #[.slice h f.b.abs.length i, .slice z (gcomS f.a.abs f.b.abs).length A] ?_
   refine (gdiv_fun f.b.abs (gcomS f.a.abs f.b.abs) fN h i z A _ _ n E aw.fz).mono ?_; rintro _ fO ⟨ax, ay, hQ, hR, a4, rfl, dn, fP, hm⟩; refine ⟨_, rfl, ?_⟩; intro hS dp; have dq := aw.callZ hm; have I := hm.ext.le
   replace a3 := a3.mono I
   replace j := Fz.le.trans j I
   have a5 : Mem B [] w0 Z0 ((.row b1 (e71Nd f l m h i) 71) :: Rr) a4 fO := dq
   have fQ := dm (dn.small) (fP.small)
   refine bt dp a5 5 [] [] [(6, .slice ax (gdivS f.b.abs (gcomS f.a.abs f.b.abs)).1.length ay)] ?_; intro hT ds
   apply dk
   refine sqH ?_; intro fR dt
   refine bt ds a5 5 [] [] [(110, .slice W (gdivS f.a.abs (gcomS f.a.abs f.b.abs)).1.length X), (113, pt b1 1)] ?_; intro hU bG
   refine sx bG a5 0 [.bool f.a.neg, .slice W (gdivS f.a.abs (gcomS f.a.abs f.b.abs)).1.length X, .bool f.b.neg, .slice h f.b.abs.length i] 1 ?_; intro fS du
   have bH : Mem B [] w0 Z0 ((.row b1 [.bool f.a.neg, .slice W (gdivS f.a.abs (gcomS f.a.abs f.b.abs)).1.length X, .bool f.b.neg, .slice h f.b.abs.length i] 71) :: Rr) a4 fS := du
   apply dt
   refine sqH ?_; intro fT dv
   refine bt bG bH 5 [] [] [(115, .slice ax (gdivS f.b.abs (gcomS f.a.abs f.b.abs)).1.length ay), (118, pt b1 3)] ?_; intro hV bI
   refine sx bI bH 0 [.bool f.a.neg, .slice W (gdivS f.a.abs (gcomS f.a.abs f.b.abs)).1.length X, .bool f.b.neg, .slice ax (gdivS f.b.abs (gcomS f.a.abs f.b.abs)).1.length ay] 3 ?_; intro fU dw
   have dx : Mem B [] w0 Z0 ((.row b1 [.bool f.a.neg, .slice W (gdivS f.a.abs (gcomS f.a.abs f.b.abs)).1.length X, .bool f.b.neg, .slice ax (gdivS f.b.abs (gcomS f.a.abs f.b.abs)).1.length ay] 71) :: Rr) a4 fU := dw
   apply dv
   refine sqB bI dx [] [] [(2, pt b1 0)] ?_; intro hW fV
   exact r_ (ra1 fV (pt b1 0) ⟨(⟨(⟨f.a.neg, (gdivS f.a.abs (gcomS f.a.abs f.b.abs)).1⟩ : BInt), (⟨f.b.neg, (gdivS f.b.abs (gcomS f.a.abs f.b.abs)).1⟩ : BInt)⟩ : BRat), W, X, ax, ay, a4, rfl, fQ, j, a3, dn, dx.kp⟩)
  have dy := aP.reval (d := 57) (c := []) (v := .bool ((f.b.abs.length : Int) == 1)) (by kernel_rfl) (.bool false) (by rw [ak])
  refine bt dy u 9 [] [58, 59, 60, 61, 62, 63, 64, 65, 66] [(66, .bool false)] ?_; intro fX bJ
  apply aO
  refine cdF bJ (by kernel_rfl) ?_
  apply k_
  have dz : Fr 120 [] [⟨0, [], pt b1 0⟩] fX := bJ.reg
  refine wp_seq (rgS mixed u [(0, true), (1, true), (2, true), (3, true), (4, true), (5, true), (6, true), (7, true), (8, true), (9, true), (10, false), (11, true)] [] [0] [.row b1 (e71Nd f l m h i) 71] ?_)
  intro fY dA hX bK
  have bL := Fz.le.refl O
  refine cS dz 10 [0, 0] [] [(72, .slice l f.a.abs.length m), (77, .slice h f.b.abs.length i)] ?_; intro hY dB
  refine eS rfl ?_; intro fZ dC
  obtain ⟨f0, a6⟩ := fW
  refine ck dB 127 #[.slice l f.a.abs.length m, .slice h f.b.abs.length i] ?_
  refine (gcom_fun f.a.abs f.b.abs f0 l m h i _ _ o n bK.fz).mono ?_; rintro _ f1 ⟨C, D, dD, rfl, F, hm⟩; refine ⟨_, rfl, ?_⟩; intro h0 dE; have dF := bK.callZ hm; have Y := hm.ext.le
  replace o := o.mono Y
  replace n := n.mono Y
  replace bL := bL.mono Y
  replace j := Fz.le.trans j Y
  have y : Mem B [] w0 Z0 ((.row b1 (e71Nd f l m h i) 71) :: Rr) dD f1 := dF
  refine nl (qnI (dC _ _ (y.cst bL [0]) ?_))
  refine cS dE 1 [] [] [(3, .slice C (gcomS f.a.abs f.b.abs).length D)] ?_; intro h1 dG
  refine nS (dA _ _ ?_)
  refine t_ (s_ (sqH ?_)); intro dH a7
  refine bt dG y 4 [] [] [(82, .bool (((gcomS f.a.abs f.b.abs).length : Int) == 1))] ?_; intro h2 a8
  refine e_ a6 (fun az f2 => ?_) fun az gp => ?_
  ·
   have a9 := a8.reval (d := 82) (c := []) (v := .bool (((gcomS f.a.abs f.b.abs).length : Int) == 1)) (by kernel_rfl) (.bool true) (by rw [az])
   refine g_ a9 true (.slice C (gcomS f.a.abs f.b.abs).length D) ?_; intro h3 bM
   obtain ⟨f3, dI⟩ := f2
   refine ix bM (T := (tyInt .u32)) (xs := (gcomS f.a.abs f.b.abs)) F (0 : Int) f3 (k := .i64) (e := 109) (bytes := 4) (wK bM true) rfl (by kernel_rfl) rfl (by kernel_rfl) (by kernel_rfl) (by kernel_rfl) ?_; intro h4 h5 f4 aA h6 f5 aB f6 ba
   have bb := dI aA f5
   obtain rfl : f4 = ([.int .u32 aA] : List Value) := f6
   refine v_ ba (.int .u32 aA) (wK ba true) (lz ba y.fz aB 0 (g := []) rfl (by kernel_rfl) (by kernel_rfl) (by kernel_rfl) rfl) ?_; intro h7 dJ
   refine bt dJ y 2 [] [86, 87] [(87, .bool (aA == 1))] ?_; intro h8 aC
   apply a7
   refine c_ aC bb (fun _ f7 => ?_) fun _ f9 => ?_
   ·
    refine sqB aC y [] [] [(2, pt b1 0)] ?_; intro ia f8
    exact r_ (h_ (ra1 f8 (pt b1 0) ⟨f, l, m, h, i, dD, rfl, f7, j, o, n, y.kp⟩))
   refine k_ (sqH ?_); intro ga dK
   refine bt aC y 6 [0] [] [(94, .slice l f.a.abs.length m), (95, .slice C (gcomS f.a.abs f.b.abs).length D)] ?_; intro ib dL
   obtain ⟨gb, dM⟩ := f9
   refine ck dL 128 #[.slice l f.a.abs.length m, .slice C (gcomS f.a.abs f.b.abs).length D] ?_
   refine (gdiv_fun f.a.abs (gcomS f.a.abs f.b.abs) gb l m C D _ _ o F y.fz).mono ?_; rintro _ gc ⟨aa, ab, ic, id, gd, rfl, bc, bO, hm⟩; refine ⟨_, rfl, ?_⟩; intro ie dN; have dO := y.callZ hm; have R := hm.ext.le
   replace n := n.mono R
   replace F := F.mono R
   replace j := Fz.le.trans j R
   have aD : Mem B [] w0 Z0 ((.row b1 (e71Nd f l m h i) 71) :: Rr) gd gc := dO
   have ge := dM (bc.small) (bO.small)
   refine bt dN aD 5 [] [] [(4, .slice aa (gdivS f.a.abs (gcomS f.a.abs f.b.abs)).1.length ab)] ?_; intro ig dQ
   apply dK
   refine sqH ?_; intro gf dR
   refine bt dQ aD 6 [0] [] [(104, .slice h f.b.abs.length i), (105, .slice C (gcomS f.a.abs f.b.abs).length D)] ?_; intro ih dS
   obtain ⟨gg, dT⟩ := ge
   refine ck dS 128 #[.slice h f.b.abs.length i, .slice C (gcomS f.a.abs f.b.abs).length D] ?_
   refine (gdiv_fun f.b.abs (gcomS f.a.abs f.b.abs) gg h i C D _ _ n F aD.fz).mono ?_; rintro _ gh ⟨aE, aF, ii, ij, bd, rfl, dU, gi, hm⟩; refine ⟨_, rfl, ?_⟩; intro ik dV; have dW := aD.callZ hm; have J := hm.ext.le
   replace bc := bc.mono J
   replace j := Fz.le.trans j J
   have be : Mem B [] w0 Z0 ((.row b1 (e71Nd f l m h i) 71) :: Rr) bd gh := dW
   have gj := dT (dU.small) (gi.small)
   refine bt dV be 5 [] [] [(6, .slice aE (gdivS f.b.abs (gcomS f.a.abs f.b.abs)).1.length aF)] ?_; intro il dY
   apply dR
   refine sqH ?_; intro gk dZ
   refine bt dY be 5 [] [] [(110, .slice aa (gdivS f.a.abs (gcomS f.a.abs f.b.abs)).1.length ab), (113, pt b1 1)] ?_; intro im bP
   refine sx bP be 0 [.bool f.a.neg, .slice aa (gdivS f.a.abs (gcomS f.a.abs f.b.abs)).1.length ab, .bool f.b.neg, .slice h f.b.abs.length i] 1 ?_; intro gl d0
   have bQ : Mem B [] w0 Z0 ((.row b1 [.bool f.a.neg, .slice aa (gdivS f.a.abs (gcomS f.a.abs f.b.abs)).1.length ab, .bool f.b.neg, .slice h f.b.abs.length i] 71) :: Rr) bd gl := d0
   apply dZ
   refine sqH ?_; intro gm d1
   refine bt bP bQ 5 [] [] [(115, .slice aE (gdivS f.b.abs (gcomS f.a.abs f.b.abs)).1.length aF), (118, pt b1 3)] ?_; intro io bR
   refine sx bR bQ 0 [.bool f.a.neg, .slice aa (gdivS f.a.abs (gcomS f.a.abs f.b.abs)).1.length ab, .bool f.b.neg, .slice aE (gdivS f.b.abs (gcomS f.a.abs f.b.abs)).1.length aF] 3 ?_; intro gn d2
   have d3 : Mem B [] w0 Z0 ((.row b1 [.bool f.a.neg, .slice aa (gdivS f.a.abs (gcomS f.a.abs f.b.abs)).1.length ab, .bool f.b.neg, .slice aE (gdivS f.b.abs (gcomS f.a.abs f.b.abs)).1.length aF] 71) :: Rr) bd gn := d2
   apply d1
   refine sqB bR d3 [] [] [(2, pt b1 0)] ?_; intro ip go
   exact r_ (ra1 go (pt b1 0) ⟨(⟨(⟨f.a.neg, (gdivS f.a.abs (gcomS f.a.abs f.b.abs)).1⟩ : BInt), (⟨f.b.neg, (gdivS f.b.abs (gcomS f.a.abs f.b.abs)).1⟩ : BInt)⟩ : BRat), aa, ab, aE, aF, bd, rfl, gj, j, bc, dU, d3.kp⟩)
  have d4 := a8.reval (d := 82) (c := []) (v := .bool (((gcomS f.a.abs f.b.abs).length : Int) == 1)) (by kernel_rfl) (.bool false) (by rw [az])
  refine bt d4 y 5 [] [83, 84, 85, 86, 87] [(87, .bool false)] ?_; intro iq bS
  apply a7
  refine cdF bS (by kernel_rfl) ?_
  refine k_ (sqH ?_); intro gq d5
  refine bt bS y 6 [0] [] [(94, .slice l f.a.abs.length m), (95, .slice C (gcomS f.a.abs f.b.abs).length D)] ?_; intro ir d6
  obtain ⟨gr, d7⟩ := gp
  refine ck d6 128 #[.slice l f.a.abs.length m, .slice C (gcomS f.a.abs f.b.abs).length D] ?_
  refine (gdiv_fun f.a.abs (gcomS f.a.abs f.b.abs) gr l m C D _ _ o F y.fz).mono ?_; rintro _ gs ⟨ac, ad, it, iu, gt, rfl, bf, bT, hm⟩; refine ⟨_, rfl, ?_⟩; intro iv d8; have d9 := y.callZ hm; have ae := hm.ext.le
  replace n := n.mono ae
  replace F := F.mono ae
  replace j := Fz.le.trans j ae
  have aG : Mem B [] w0 Z0 ((.row b1 (e71Nd f l m h i) 71) :: Rr) gt gs := d9
  have gu := d7 (bf.small) (bT.small)
  refine bt d8 aG 5 [] [] [(4, .slice ac (gdivS f.a.abs (gcomS f.a.abs f.b.abs)).1.length ad)] ?_; intro iw eb
  apply d5
  refine sqH ?_; intro gv ec
  refine bt eb aG 6 [0] [] [(104, .slice h f.b.abs.length i), (105, .slice C (gcomS f.a.abs f.b.abs).length D)] ?_; intro iy ed
  obtain ⟨gw, ee⟩ := gu
  refine ck ed 128 #[.slice h f.b.abs.length i, .slice C (gcomS f.a.abs f.b.abs).length D] ?_
  refine (gdiv_fun f.b.abs (gcomS f.a.abs f.b.abs) gw h i C D _ _ n F aG.fz).mono ?_; rintro _ gx ⟨aH, aI, iz, iA, bg, rfl, ef, gy, hm⟩; refine ⟨_, rfl, ?_⟩; intro iB eg; have eh := aG.callZ hm; have N := hm.ext.le
  replace bf := bf.mono N
  replace j := Fz.le.trans j N
  have bh : Mem B [] w0 Z0 ((.row b1 (e71Nd f l m h i) 71) :: Rr) bg gx := eh
  have gz := ee (ef.small) (gy.small)
  refine bt eg bh 5 [] [] [(6, .slice aH (gdivS f.b.abs (gcomS f.a.abs f.b.abs)).1.length aI)] ?_; intro iC ej
  apply ec
  refine sqH ?_; intro gA ek
  refine bt ej bh 5 [] [] [(110, .slice ac (gdivS f.a.abs (gcomS f.a.abs f.b.abs)).1.length ad), (113, pt b1 1)] ?_; intro iD bU
  refine sx bU bh 0 [.bool f.a.neg, .slice ac (gdivS f.a.abs (gcomS f.a.abs f.b.abs)).1.length ad, .bool f.b.neg, .slice h f.b.abs.length i] 1 ?_; intro gB el
  have bV : Mem B [] w0 Z0 ((.row b1 [.bool f.a.neg, .slice ac (gdivS f.a.abs (gcomS f.a.abs f.b.abs)).1.length ad, .bool f.b.neg, .slice h f.b.abs.length i] 71) :: Rr) bg gB := el
  apply ek
  refine sqH ?_; intro gC em
  refine bt bU bV 5 [] [] [(115, .slice aH (gdivS f.b.abs (gcomS f.a.abs f.b.abs)).1.length aI), (118, pt b1 3)] ?_; intro iE bW
  refine sx bW bV 0 [.bool f.a.neg, .slice ac (gdivS f.a.abs (gcomS f.a.abs f.b.abs)).1.length ad, .bool f.b.neg, .slice aH (gdivS f.b.abs (gcomS f.a.abs f.b.abs)).1.length aI] 3 ?_; intro gD en
  have eo : Mem B [] w0 Z0 ((.row b1 [.bool f.a.neg, .slice ac (gdivS f.a.abs (gcomS f.a.abs f.b.abs)).1.length ad, .bool f.b.neg, .slice aH (gdivS f.b.abs (gcomS f.a.abs f.b.abs)).1.length aI] 71) :: Rr) bg gD := en
  apply em
  refine sqB bW eo [] [] [(2, pt b1 0)] ?_; intro iF gE
  exact r_ (ra1 gE (pt b1 0) ⟨(⟨(⟨f.a.neg, (gdivS f.a.abs (gcomS f.a.abs f.b.abs)).1⟩ : BInt), (⟨f.b.neg, (gdivS f.b.abs (gcomS f.a.abs f.b.abs)).1⟩ : BInt)⟩ : BRat), ac, ad, aH, aI, bg, rfl, gz, j, bf, ef, eo.kp⟩)
 have ah := Fz.le.refl Z
 refine c_ b7 aK (fun _ gF => ?_) fun _ gV => ?_
 ·
  have ep : Fr 120 [] [⟨0, [], pt b1 0⟩] bj := b7.reg
  refine wp_seq (rgS mixed hM0 [(0, true), (1, true), (2, true), (3, true), (4, true), (5, true), (6, false)] [6] [] [] ?_)
  intro gG eq iG bY
  refine cS ep 6 [] [] [(26, pt b1 0), (29, pt b1 0)] ?_; intro iH es
  refine eL rfl ?_; intro gH et
  obtain ⟨gI, gJ⟩ := gF
  refine ck es 55 #[pt b1 0, pt b1 0] ?_
  refine (gnegA_fun u0 gI b1 ao2 cap3 ao5 cap6 _ _ _ _ _ _ hs4 hs7 bY bY.fz).mono ?_; rintro _ gK ⟨eu, ev, ew, ex, ey, rfl, aJ, bZ, b0, hm⟩; refine ⟨_, rfl, ?_⟩; intro gL ez; have eA := hm
  replace ah := ah.mono aJ
  have eB : Mem B [] w0 Z0 ((.row b1 (e71Nd (gnegAS u0) eu ev ew ex) 71) :: Rr) ey gK := eA
  refine nl (qnI (et _ _ ?_))
  refine nS (eq _ _ ?_)
  apply t_
  have eC : Fr 120 [] [⟨0, [], pt b1 0⟩] gL := ez.reg
  refine rgS mixed eB [(0, true), (1, true), (2, true), (3, true), (4, true), (5, true), (6, false)] [6] [] [] ?_
  intro gM eD iI b2
  refine cS eC 6 [] [] [(33, pt b1 2), (36, pt b1 2)] ?_; intro iJ eF
  refine eL rfl ?_; intro gN eG
  obtain ⟨gO, gP⟩ := gJ
  refine ck eF 55 #[pt b1 2, pt b1 2] ?_
  refine (gnegB_fun (gnegAS u0) gO b1 eu ev ew ex _ _ _ _ _ _ bZ b0 b2 b2.fz).mono ?_; rintro _ gQ ⟨eH, eI, eJ, eK, eM, rfl, af, gR, gS, hm⟩; refine ⟨_, rfl, ?_⟩; intro iK gT; have eN := hm
  replace ah := ah.mono af
  have gU : Mem B [] w0 Z0 ((.row b1 (e71Nd (gnegBS (gnegAS u0)) eH eI eJ eK) 71) :: Rr) eM gQ := eN
  refine nl (qnI (eG _ _ ?_))
  refine nS (eD _ _ ?_)
  exact d_ (b8 (gnegBS (gnegAS u0)) eH eI eJ eK eM ⟨gP, gR, gS, ah⟩ _ _ ((gT.reg).anyβ _ (by kernel_rfl)) (gU.kp))
 exact l_ (d_ (b8 u0 ao2 cap3 ao5 cap6 Z ⟨gV, hs4, hs7, ah⟩ _ _ ((b7.reg).anyβ _ (by kernel_rfl)) (hM0.kp)))

theorem rnum_walk (u0 : BRat) (b1 : Nat) (ao2 : Option Addr) (cap3 : Nat) (ao5 : Option Addr) (cap6 : Nat) (B : Nat) (w0 : World) (Z0 : Fz) (Rr : List Res) (Z : Fz) (w : World) (hs4 : SlR (tyInt .u32) Z ao2 cap3 u0.a.abs) (hs7 : SlR (tyInt .u32) Z ao5 cap6 u0.b.abs) (hM0 : Mem B [] w0 Z0 ((.row b1 [.bool u0.a.neg, .slice ao2 u0.a.abs.length cap3, .bool u0.b.neg, .slice ao5 u0.b.abs.length cap6] 71) :: Rr) Z w) (hZ : Z.on w) {K : BRat → Prop} (hp : rnum_vc u0 K) : Calls Tryd.prog 42 #[pt b1 0] w fun e w' => ∃ (r : BRat) (ao1001 : Option Addr) (cap1002 : Nat) (ao1004 : Option Addr) (cap1005 : Nat) (Z' : Fz), e = .returned (pt b1 0) ∧ K r ∧ Fz.le Z Z' ∧ SlR (tyInt .u32) Z' ao1001 cap1002 r.a.abs ∧ SlR (tyInt .u32) Z' ao1004 cap1005 r.b.abs ∧ Mem B [] w0 Z0 ((.row b1 [.bool r.a.neg, .slice ao1001 r.a.abs.length cap1002, .bool r.b.neg, .slice ao1004 r.b.abs.length cap1005] 71) :: Rr) Z' w' := by
 refine enter0 Tryd.func42 rfl rfl (by kernel_rfl) ?_; intro j c; have g := Fz.le.refl Z
 have h := hp (hs4.small) (hs7.small)
 refine sqB c hM0 [] [] [] ?_; intro k f
 refine sqB f hM0 [] [] [(2, pt b1 0)] ?_; intro l i
 exact r_ (ra1 i (pt b1 0) ⟨u0, ao2, cap3, ao5, cap6, Z, rfl, h, g, hs4, hs7, hM0.kp⟩)

theorem gi64_walk (u0 : BInt) (b1 : Nat) (ao2 : Option Addr) (cap3 : Nat) (B : Nat) (w0 : World) (Z0 : Fz) (Rr : List Res) (Z : Fz) (w : World) (hs4 : SlR (tyInt .u32) Z ao2 cap3 u0.abs) (hM0 : Mem B [] w0 Z0 ((.row b1 [.bool u0.neg, .slice ao2 u0.abs.length cap3] 69) :: Rr) Z w) (hZ : Z.on w) {K : (Int × BInt) → Prop} (hp : gi64_vc u0 K) : Calls Tryd.prog 43 #[pt b1 0] w fun e w' => ∃ (r : Int × BInt) (ao1001 : Option Addr) (cap1002 : Nat) (Z' : Fz), e = .returned (i6 r.1) ∧ K r ∧ Fz.le Z Z' ∧ SlR (tyInt .u32) Z' ao1001 cap1002 r.2.abs ∧ Mem B [] w0 Z0 ((.row b1 [.bool r.2.neg, .slice ao1001 r.2.abs.length cap1002] 69) :: Rr) Z' w' := by
 refine enter0 Tryd.func43 rfl rfl (by kernel_rfl) ?_; intro a0 N; have d := Fz.le.refl Z
 have v := hp (hs4.small)
 refine sqB N hM0 [] [] [] ?_; intro a7 O
 refine sqH ?_; intro x f
 refine s1 O 4 (pt b1 0) ?_; intro bj l
 refine ck l 79 #[pt b1 0] ?_
 refine enter0 Tryd.func79 rfl rfl (by kernel_rfl) ?_; intro aF P
 have Q : Fr 34 [] [⟨0, [], pt b1 0⟩] aF := P.reg
 refine sqB Q hM0 [] [] [] ?_; intro bk R
 refine sqB R hM0 [] [] [(3, y6 0)] ?_; intro bl S
 refine s_ (sqB S hM0 [0] [] [(9, .bool (decide ((u0.abs.length : Int) > 0)))] ?_); intro bm m
 refine c_ m v (fun _ aG => ?_) fun _ C => ?_
 ·
  refine rgH ?_; intro aH U
  refine bt m hM0 4 [0] [] [(13, .slice ao2 u0.abs.length cap3)] ?_; intro bn V
  obtain ⟨aI, W⟩ := aG
  refine ix_ V hs4 (0 : Int) aI .i64 109 4 ?_; intro bo bp aJ a bq aK aL aM X
  have y := W a aK
  obtain rfl : aJ = ([.int .u32 a] : List Value) := aM
  refine z1 X hM0 15 aL 0 (.int .u32 a) rfl ?_; intro br Y
  refine bt Y hM0 2 [] [] [(3, y6 (wu64 a))] ?_; intro bs aa
  apply U
  refine t_ (s_ (sqB aa hM0 [0] [] [(22, .bool (decide ((u0.abs.length : Int) > 1)))] ?_)); intro bu n
  refine c_ n y (fun _ aN => ?_) fun _ A => ?_
  ·
   refine rgH ?_; intro aO ab
   refine bt n hM0 5 [0] [] [(23, y6 (wu64 a)), (27, .slice ao2 u0.abs.length cap3)] ?_; intro bv ac
   obtain ⟨aP, ad⟩ := aN
   refine ix_ ac hs4 (1 : Int) aP .i64 109 4 ?_; intro bw bx aQ b bz aR aS aT ae
   have z := ad b aR
   obtain rfl : aQ = ([.int .u32 b] : List Value) := aT
   refine z1 ae hM0 29 aS 0 (.int .u32 b) rfl ?_; intro bA af
   refine bt af hM0 4 [] [] [(3, y6 (bOr .u64 (wu64 a) (bShl .u64 (wu64 b) 32)))] ?_; intro bB ag
   apply ab
   refine t_ (sqB ag hM0 [] [] [(2, y6 (bOr .u64 (wu64 a) (bShl .u64 (wu64 b) 32)))] ?_); intro bC ah
   refine r_ (ra1 ah (y6 (bOr .u64 (wu64 a) (bShl .u64 (wu64 b) 32))) ?_)
   refine ⟨_, rfl, ?_⟩; intro bD ai
   refine bt ai hM0 2 [] [] [(3, i6 (w64 (bOr .u64 (wu64 a) (bShl .u64 (wu64 b) 32))))] ?_; intro bE aj
   have g : Mem B [] w0 Z0 ((.row b1 [.bool u0.neg, .slice ao2 u0.abs.length cap3] 69) :: Rr) Z w := hM0
   apply f
   refine s_ (sqB aj g [0] [] [(10, .bool u0.neg)] ?_); intro bF o
   refine c_ o z (fun _ aU => ?_) fun _ aW => ?_
   ·
    refine rgB o g [] [] [(3, i6 (w64 (0 - (w64 (bOr .u64 (wu64 a) (bShl .u64 (wu64 b) 32))))))] ?_; intro bG ak
    refine t_ (sqB ak g [] [] [(2, i6 (w64 (0 - (w64 (bOr .u64 (wu64 a) (bShl .u64 (wu64 b) 32))))))] ?_); intro bH aV
    exact r_ (ra1 aV (i6 (w64 (0 - (w64 (bOr .u64 (wu64 a) (bShl .u64 (wu64 b) 32)))))) ⟨(w64 (0 - (w64 (bOr .u64 (wu64 a) (bShl .u64 (wu64 b) 32)))), u0), ao2, cap3, Z, rfl, aU, d, hs4, g.kp⟩)
   refine k_ (sqB o g [] [] [(2, i6 (w64 (bOr .u64 (wu64 a) (bShl .u64 (wu64 b) 32))))] ?_); intro bI aX
   exact r_ (ra1 aX (i6 (w64 (bOr .u64 (wu64 a) (bShl .u64 (wu64 b) 32)))) ⟨(w64 (bOr .u64 (wu64 a) (bShl .u64 (wu64 b) 32)), u0), ao2, cap3, Z, rfl, aW, d, hs4, g.kp⟩)
  refine k_ (sqB n hM0 [] [] [(2, y6 (wu64 a))] ?_); intro bJ al
  refine r_ (ra1 al (y6 (wu64 a)) ?_)
  refine ⟨_, rfl, ?_⟩; intro bK am
  refine bt am hM0 2 [] [] [(3, i6 (w64 (wu64 a)))] ?_; intro bL an
  have h : Mem B [] w0 Z0 ((.row b1 [.bool u0.neg, .slice ao2 u0.abs.length cap3] 69) :: Rr) Z w := hM0
  apply f
  refine s_ (sqB an h [0] [] [(10, .bool u0.neg)] ?_); intro bM p
  refine c_ p A (fun _ aY => ?_) fun _ a1 => ?_
  ·
   refine rgB p h [] [] [(3, i6 (w64 (0 - (w64 (wu64 a)))))] ?_; intro bN ao
   refine t_ (sqB ao h [] [] [(2, i6 (w64 (0 - (w64 (wu64 a)))))] ?_); intro bO aZ
   exact r_ (ra1 aZ (i6 (w64 (0 - (w64 (wu64 a))))) ⟨(w64 (0 - (w64 (wu64 a))), u0), ao2, cap3, Z, rfl, aY, d, hs4, h.kp⟩)
  refine k_ (sqB p h [] [] [(2, i6 (w64 (wu64 a)))] ?_); intro bP a2
  exact r_ (ra1 a2 (i6 (w64 (wu64 a))) ⟨(w64 (wu64 a), u0), ao2, cap3, Z, rfl, a1, d, hs4, h.kp⟩)
 refine k_ (s_ (sqB m hM0 [0] [] [(22, .bool (decide ((u0.abs.length : Int) > 1)))] ?_)); intro bQ q
 refine c_ q C (fun _ a3 => ?_) fun _ E => ?_
 ·
  refine rgH ?_; intro a4 ap
  refine bt q hM0 5 [0] [] [(23, y6 0), (27, .slice ao2 u0.abs.length cap3)] ?_; intro bR aq
  obtain ⟨a5, ar⟩ := a3
  refine ix_ aq hs4 (1 : Int) a5 .i64 109 4 ?_; intro bS bT a6 c bU a8 a9 ba au
  have D := ar c a8
  obtain rfl : a6 = ([.int .u32 c] : List Value) := ba
  refine z1 au hM0 29 a9 0 (.int .u32 c) rfl ?_; intro bV av
  refine bt av hM0 4 [] [] [(3, y6 (bOr .u64 0 (bShl .u64 (wu64 c) 32)))] ?_; intro bW aw
  apply ap
  refine t_ (sqB aw hM0 [] [] [(2, y6 (bOr .u64 0 (bShl .u64 (wu64 c) 32)))] ?_); intro bX ax
  refine r_ (ra1 ax (y6 (bOr .u64 0 (bShl .u64 (wu64 c) 32))) ?_)
  refine ⟨_, rfl, ?_⟩; intro bY ay
  refine bt ay hM0 2 [] [] [(3, i6 (w64 (bOr .u64 0 (bShl .u64 (wu64 c) 32))))] ?_; intro bZ az
  have i : Mem B [] w0 Z0 ((.row b1 [.bool u0.neg, .slice ao2 u0.abs.length cap3] 69) :: Rr) Z w := hM0
  apply f
  refine s_ (sqB az i [0] [] [(10, .bool u0.neg)] ?_); intro b0 s
  refine c_ s D (fun _ bb => ?_) fun _ bd => ?_
  ·
   refine rgB s i [] [] [(3, i6 (w64 (0 - (w64 (bOr .u64 0 (bShl .u64 (wu64 c) 32))))))] ?_; intro b2 aA
   refine t_ (sqB aA i [] [] [(2, i6 (w64 (0 - (w64 (bOr .u64 0 (bShl .u64 (wu64 c) 32))))))] ?_); intro b3 bc
   exact r_ (ra1 bc (i6 (w64 (0 - (w64 (bOr .u64 0 (bShl .u64 (wu64 c) 32)))))) ⟨(w64 (0 - (w64 (bOr .u64 0 (bShl .u64 (wu64 c) 32)))), u0), ao2, cap3, Z, rfl, bb, d, hs4, i.kp⟩)
  refine k_ (sqB s i [] [] [(2, i6 (w64 (bOr .u64 0 (bShl .u64 (wu64 c) 32))))] ?_); intro b4 be
  exact r_ (ra1 be (i6 (w64 (bOr .u64 0 (bShl .u64 (wu64 c) 32)))) ⟨(w64 (bOr .u64 0 (bShl .u64 (wu64 c) 32)), u0), ao2, cap3, Z, rfl, bd, d, hs4, i.kp⟩)
 refine k_ (sqB q hM0 [] [] [(2, y6 0)] ?_); intro b5 aB
 refine r_ (ra1 aB (y6 0) ?_)
 refine ⟨_, rfl, ?_⟩; intro b6 aC
 refine bt aC hM0 2 [] [] [(3, i6 0)] ?_; intro b7 aD
 have j : Mem B [] w0 Z0 ((.row b1 [.bool u0.neg, .slice ao2 u0.abs.length cap3] 69) :: Rr) Z w := hM0
 apply f
 refine s_ (sqB aD j [0] [] [(10, .bool u0.neg)] ?_); intro b8 u
 refine c_ u E (fun _ bf => ?_) fun _ bh => ?_
 ·
  refine rgB u j [] [] [(3, i6 0)] ?_; intro b9 aE
  refine t_ (sqB aE j [] [] [(2, i6 0)] ?_); intro ca bg
  exact r_ (ra1 bg (i6 0) ⟨(0, u0), ao2, cap3, Z, rfl, bf, d, hs4, j.kp⟩)
 refine k_ (sqB u j [] [] [(2, i6 0)] ?_); intro cb bi
 exact r_ (ra1 bi (i6 0) ⟨(0, u0), ao2, cap3, Z, rfl, bh, d, hs4, j.kp⟩)

theorem gi64A_walk (u0 : BRat) (b1 : Nat) (ao2 : Option Addr) (cap3 : Nat) (ao5 : Option Addr) (cap6 : Nat) (B : Nat) (w0 : World) (Z0 : Fz) (Rr : List Res) (Z : Fz) (w : World) (hs4 : SlR (tyInt .u32) Z ao2 cap3 u0.a.abs) (hs7 : SlR (tyInt .u32) Z ao5 cap6 u0.b.abs) (hM0 : Mem B [] w0 Z0 ((.row b1 [.bool u0.a.neg, .slice ao2 u0.a.abs.length cap3, .bool u0.b.neg, .slice ao5 u0.b.abs.length cap6] 71) :: Rr) Z w) (hZ : Z.on w) {K : (Int × BRat) → Prop} (hp : gi64A_vc u0 K) : Calls Tryd.prog 43 #[pt b1 0] w fun e w' => ∃ (r : Int × BRat) (ao1001 : Option Addr) (cap1002 : Nat) (ao1004 : Option Addr) (cap1005 : Nat) (Z' : Fz), e = .returned (i6 r.1) ∧ K r ∧ Fz.le Z Z' ∧ SlR (tyInt .u32) Z' ao1001 cap1002 r.2.a.abs ∧ SlR (tyInt .u32) Z' ao1004 cap1005 r.2.b.abs ∧ Mem B [] w0 Z0 ((.row b1 [.bool r.2.a.neg, .slice ao1001 r.2.a.abs.length cap1002, .bool r.2.b.neg, .slice ao1004 r.2.b.abs.length cap1005] 71) :: Rr) Z' w' := by
 refine enter0 Tryd.func43 rfl rfl (by kernel_rfl) ?_; intro a0 P; have g := Fz.le.refl Z
 have y := hp (hs4.small) (hs7.small)
 refine sqB P hM0 [] [] [] ?_; intro bl R
 refine sqH ?_; intro z h
 refine s1 R 4 (pt b1 0) ?_; intro bm n
 refine ck n 79 #[pt b1 0] ?_
 refine enter0 Tryd.func79 rfl rfl (by kernel_rfl) ?_; intro aI S
 have U : Fr 34 [] [⟨0, [], pt b1 0⟩] aI := S.reg
 refine sqB U hM0 [] [] [] ?_; intro bn V
 refine sqB V hM0 [] [] [(3, y6 0)] ?_; intro bo W
 refine s_ (sqB W hM0 [0] [] [(9, .bool (decide ((u0.a.abs.length : Int) > 0)))] ?_); intro bp o
 refine c_ o y (fun _ aJ => ?_) fun _ E => ?_
 ·
  refine rgH ?_; intro aK X
  refine bt o hM0 4 [0] [] [(13, .slice ao2 u0.a.abs.length cap3)] ?_; intro bq Y
  obtain ⟨aL, aa⟩ := aJ
  refine ix_ Y hs4 (0 : Int) aL .i64 109 4 ?_; intro br bs aM c bu aN aO aP ab
  have A := aa c aN
  obtain rfl : aM = ([.int .u32 c] : List Value) := aP
  refine z1 ab hM0 15 aO 0 (.int .u32 c) rfl ?_; intro bv ac
  refine bt ac hM0 2 [] [] [(3, y6 (wu64 c))] ?_; intro bw ad
  apply X
  refine t_ (s_ (sqB ad hM0 [0] [] [(22, .bool (decide ((u0.a.abs.length : Int) > 1)))] ?_)); intro bx p
  refine c_ p A (fun _ aQ => ?_) fun _ D => ?_
  ·
   refine rgH ?_; intro aR ae
   refine bt p hM0 5 [0] [] [(23, y6 (wu64 c)), (27, .slice ao2 u0.a.abs.length cap3)] ?_; intro bz af
   obtain ⟨aS, ag⟩ := aQ
   refine ix_ af hs4 (1 : Int) aS .i64 109 4 ?_; intro bA bB aT d bC aU aV aW ah
   have C := ag d aU
   obtain rfl : aT = ([.int .u32 d] : List Value) := aW
   refine z1 ah hM0 29 aV 0 (.int .u32 d) rfl ?_; intro bD ai
   refine bt ai hM0 4 [] [] [(3, y6 (bOr .u64 (wu64 c) (bShl .u64 (wu64 d) 32)))] ?_; intro bE aj
   apply ae
   refine t_ (sqB aj hM0 [] [] [(2, y6 (bOr .u64 (wu64 c) (bShl .u64 (wu64 d) 32)))] ?_); intro bF ak
   refine r_ (ra1 ak (y6 (bOr .u64 (wu64 c) (bShl .u64 (wu64 d) 32))) ?_)
   refine ⟨_, rfl, ?_⟩; intro bG al
   refine bt al hM0 2 [] [] [(3, i6 (w64 (bOr .u64 (wu64 c) (bShl .u64 (wu64 d) 32))))] ?_; intro bH am
   have i : Mem B [] w0 Z0 ((.row b1 (e71Nd u0 ao2 cap3 ao5 cap6) 71) :: Rr) Z w := hM0
   apply h
   refine s_ (sqB am i [0] [] [(10, .bool u0.a.neg)] ?_); intro bI q
   refine c_ q C (fun _ aX => ?_) fun _ aZ => ?_
   ·
    refine rgB q i [] [] [(3, i6 (w64 (0 - (w64 (bOr .u64 (wu64 c) (bShl .u64 (wu64 d) 32))))))] ?_; intro bJ an
    refine t_ (sqB an i [] [] [(2, i6 (w64 (0 - (w64 (bOr .u64 (wu64 c) (bShl .u64 (wu64 d) 32))))))] ?_); intro bK aY
    exact r_ (ra1 aY (i6 (w64 (0 - (w64 (bOr .u64 (wu64 c) (bShl .u64 (wu64 d) 32)))))) ⟨(w64 (0 - (w64 (bOr .u64 (wu64 c) (bShl .u64 (wu64 d) 32)))), u0), ao2, cap3, ao5, cap6, Z, rfl, aX, g, hs4, hs7, i.kp⟩)
   refine k_ (sqB q i [] [] [(2, i6 (w64 (bOr .u64 (wu64 c) (bShl .u64 (wu64 d) 32))))] ?_); intro bL a1
   exact r_ (ra1 a1 (i6 (w64 (bOr .u64 (wu64 c) (bShl .u64 (wu64 d) 32)))) ⟨(w64 (bOr .u64 (wu64 c) (bShl .u64 (wu64 d) 32)), u0), ao2, cap3, ao5, cap6, Z, rfl, aZ, g, hs4, hs7, i.kp⟩)
  refine k_ (sqB p hM0 [] [] [(2, y6 (wu64 c))] ?_); intro bM ao
  refine r_ (ra1 ao (y6 (wu64 c)) ?_)
  refine ⟨_, rfl, ?_⟩; intro bN ap
  refine bt ap hM0 2 [] [] [(3, i6 (w64 (wu64 c)))] ?_; intro bO aq
  have j : Mem B [] w0 Z0 ((.row b1 (e71Nd u0 ao2 cap3 ao5 cap6) 71) :: Rr) Z w := hM0
  apply h
  refine s_ (sqB aq j [0] [] [(10, .bool u0.a.neg)] ?_); intro bP s
  refine c_ s D (fun _ a2 => ?_) fun _ a4 => ?_
  ·
   refine rgB s j [] [] [(3, i6 (w64 (0 - (w64 (wu64 c)))))] ?_; intro bQ ar
   refine t_ (sqB ar j [] [] [(2, i6 (w64 (0 - (w64 (wu64 c)))))] ?_); intro bR a3
   exact r_ (ra1 a3 (i6 (w64 (0 - (w64 (wu64 c))))) ⟨(w64 (0 - (w64 (wu64 c))), u0), ao2, cap3, ao5, cap6, Z, rfl, a2, g, hs4, hs7, j.kp⟩)
  refine k_ (sqB s j [] [] [(2, i6 (w64 (wu64 c)))] ?_); intro bS a5
  exact r_ (ra1 a5 (i6 (w64 (wu64 c))) ⟨(w64 (wu64 c), u0), ao2, cap3, ao5, cap6, Z, rfl, a4, g, hs4, hs7, j.kp⟩)
 refine k_ (s_ (sqB o hM0 [0] [] [(22, .bool (decide ((u0.a.abs.length : Int) > 1)))] ?_)); intro bT u
 refine c_ u E (fun _ a6 => ?_) fun _ G => ?_
 ·
  refine rgH ?_; intro a7 au
  refine bt u hM0 5 [0] [] [(23, y6 0), (27, .slice ao2 u0.a.abs.length cap3)] ?_; intro bU av
  obtain ⟨a8, aw⟩ := a6
  refine ix_ av hs4 (1 : Int) a8 .i64 109 4 ?_; intro bV bW a9 f bX ba bb bc ax
  have F := aw f ba
  obtain rfl : a9 = ([.int .u32 f] : List Value) := bc
  refine z1 ax hM0 29 bb 0 (.int .u32 f) rfl ?_; intro bY ay
  refine bt ay hM0 4 [] [] [(3, y6 (bOr .u64 0 (bShl .u64 (wu64 f) 32)))] ?_; intro bZ az
  apply au
  refine t_ (sqB az hM0 [] [] [(2, y6 (bOr .u64 0 (bShl .u64 (wu64 f) 32)))] ?_); intro b0 aA
  refine r_ (ra1 aA (y6 (bOr .u64 0 (bShl .u64 (wu64 f) 32))) ?_)
  refine ⟨_, rfl, ?_⟩; intro b2 aB
  refine bt aB hM0 2 [] [] [(3, i6 (w64 (bOr .u64 0 (bShl .u64 (wu64 f) 32))))] ?_; intro b3 aC
  have l : Mem B [] w0 Z0 ((.row b1 (e71Nd u0 ao2 cap3 ao5 cap6) 71) :: Rr) Z w := hM0
  apply h
  refine s_ (sqB aC l [0] [] [(10, .bool u0.a.neg)] ?_); intro b4 v
  refine c_ v F (fun _ bd => ?_) fun _ bf => ?_
  ·
   refine rgB v l [] [] [(3, i6 (w64 (0 - (w64 (bOr .u64 0 (bShl .u64 (wu64 f) 32))))))] ?_; intro b5 aD
   refine t_ (sqB aD l [] [] [(2, i6 (w64 (0 - (w64 (bOr .u64 0 (bShl .u64 (wu64 f) 32))))))] ?_); intro b6 be
   exact r_ (ra1 be (i6 (w64 (0 - (w64 (bOr .u64 0 (bShl .u64 (wu64 f) 32)))))) ⟨(w64 (0 - (w64 (bOr .u64 0 (bShl .u64 (wu64 f) 32)))), u0), ao2, cap3, ao5, cap6, Z, rfl, bd, g, hs4, hs7, l.kp⟩)
  refine k_ (sqB v l [] [] [(2, i6 (w64 (bOr .u64 0 (bShl .u64 (wu64 f) 32))))] ?_); intro b7 bg
  exact r_ (ra1 bg (i6 (w64 (bOr .u64 0 (bShl .u64 (wu64 f) 32)))) ⟨(w64 (bOr .u64 0 (bShl .u64 (wu64 f) 32)), u0), ao2, cap3, ao5, cap6, Z, rfl, bf, g, hs4, hs7, l.kp⟩)
 refine k_ (sqB u hM0 [] [] [(2, y6 0)] ?_); intro b8 aE
 refine r_ (ra1 aE (y6 0) ?_)
 refine ⟨_, rfl, ?_⟩; intro b9 aF
 refine bt aF hM0 2 [] [] [(3, i6 0)] ?_; intro ca aG
 have m : Mem B [] w0 Z0 ((.row b1 (e71Nd u0 ao2 cap3 ao5 cap6) 71) :: Rr) Z w := hM0
 apply h
 refine s_ (sqB aG m [0] [] [(10, .bool u0.a.neg)] ?_); intro cb x
 refine c_ x G (fun _ bh => ?_) fun _ bj => ?_
 ·
  refine rgB x m [] [] [(3, i6 0)] ?_; intro cc aH
  refine t_ (sqB aH m [] [] [(2, i6 0)] ?_); intro ce bi
  exact r_ (ra1 bi (i6 0) ⟨(0, u0), ao2, cap3, ao5, cap6, Z, rfl, bh, g, hs4, hs7, m.kp⟩)
 refine k_ (sqB x m [] [] [(2, i6 0)] ?_); intro cf bk
 exact r_ (ra1 bk (i6 0) ⟨(0, u0), ao2, cap3, ao5, cap6, Z, rfl, bj, g, hs4, hs7, m.kp⟩)

theorem gsubI_walk (u0 : BInt) (u1 : BInt) (u2 : BInt) (b1 : Nat) (ao2 : Option Addr) (cap3 : Nat) (b5 : Nat) (ao6 : Option Addr) (cap7 : Nat) (b9 : Nat) (ao10 : Option Addr) (cap11 : Nat) (B : Nat) (w0 : World) (Z0 : Fz) (Rr : List Res) (Z : Fz) (w : World) (hs4 : SlR (tyInt .u32) Z ao2 cap3 u0.abs) (hs8 : SlR (tyInt .u32) Z ao6 cap7 u1.abs) (hs12 : SlR (tyInt .u32) Z ao10 cap11 u2.abs) (hM0 : Mem B [] w0 Z0 ((.row b1 [.bool u0.neg, .slice ao2 u0.abs.length cap3] 69) :: (.row b5 [.bool u1.neg, .slice ao6 u1.abs.length cap7] 69) :: (.row b9 [.bool u2.neg, .slice ao10 u2.abs.length cap11] 69) :: Rr) Z w) (hZ : Z.on w) {K : (BInt × BInt × BInt) → Prop} (hp : gsubI_vc u0 u1 u2 K) : Calls Tryd.prog 81 #[pt b1 0, pt b5 0, pt b9 0] w fun e w' => ∃ (r : BInt × BInt × BInt) (ao1001 : Option Addr) (cap1002 : Nat) (ao1004 : Option Addr) (cap1005 : Nat) (ao1007 : Option Addr) (cap1008 : Nat) (Z' : Fz), e = .returned (pt b1 0) ∧ K r ∧ Fz.le Z Z' ∧ SlR (tyInt .u32) Z' ao1001 cap1002 r.1.abs ∧ SlR (tyInt .u32) Z' ao1004 cap1005 r.2.1.abs ∧ SlR (tyInt .u32) Z' ao1007 cap1008 r.2.2.abs ∧ Mem B [] w0 Z0 ((.row b1 [.bool r.1.neg, .slice ao1001 r.1.abs.length cap1002] 69) :: (.row b5 [.bool r.2.1.neg, .slice ao1004 r.2.1.abs.length cap1005] 69) :: (.row b9 [.bool r.2.2.neg, .slice ao1007 r.2.2.abs.length cap1008] 69) :: Rr) Z' w' := by
 refine enter0 Tryd.func81 rfl rfl (by kernel_rfl) ?_; intro S k; have c := Fz.le.refl Z
 have F := hp (hs4.small) (hs8.small) (hs12.small)
 refine sqB k hM0 [] [] [] ?_; intro G n
 have o : Fr 29 [] [⟨0, [], pt b1 0⟩, ⟨1, [], pt b5 0⟩, ⟨2, [], pt b9 0⟩] G := n.reg
 refine wp_seq (rgS mixed hM0 [(0, true), (1, true), (2, true), (3, true), (4, true), (5, true), (6, true), (7, true), (8, true), (9, true), (10, true), (11, true), (12, true), (13, true), (14, true), (15, true), (16, true), (17, true), (18, false), (19, true), (20, true), (21, false), (22, true)] [] [1, 2] [.row b5 [.bool u1.neg, .slice ao6 u1.abs.length cap7] 69, .row b9 [.bool u2.neg, .slice ao10 u2.abs.length cap11] 69] ?_)
 intro H p T g
 have a := Fz.le.refl Z
 refine cS o 18 [0, 0, 1, 1] [] [(7, pt b1 0), (11, .bool u1.neg), (15, .slice ao6 u1.abs.length cap7), (20, .bool (!u2.neg)), (24, .slice ao10 u2.abs.length cap11)] ?_; intro U q
 refine eS rfl ?_; intro I s
 obtain ⟨J, L⟩ := F
 refine ck q 108 #[.bool u1.neg, .slice ao6 u1.abs.length cap7, .bool (!u2.neg), .slice ao10 u2.abs.length cap11] ?_
 refine (gsum_fun u1.neg u1.abs (!u2.neg) u2.abs J ao6 cap7 ao10 cap11 _ _ hs8 hs12 g.fz).mono ?_; rintro _ M ⟨h, i, N, rfl, j, hm⟩; refine ⟨_, rfl, ?_⟩; intro V t; have u := g.callZ hm; have d := hm.ext.le
 replace hs4 := hs4.mono d
 replace hs8 := hs8.mono d
 replace hs12 := hs12.mono d
 replace a := a.mono d
 replace c := Fz.le.trans c d
 have f : Mem B [] w0 Z0 ((.row b1 [.bool u0.neg, .slice ao2 u0.abs.length cap3] 69) :: (.row b5 [.bool u1.neg, .slice ao6 u1.abs.length cap7] 69) :: (.row b9 [.bool u2.neg, .slice ao10 u2.abs.length cap11] 69) :: Rr) N M := u
 refine nl (qnI (s _ _ (f.cst a [1, 2]) ?_))
 refine cS t 2 [] [] [(26, .bool (gsumS u1.neg u1.abs (!u2.neg) u2.abs).1), (27, .slice h (gsumS u1.neg u1.abs (!u2.neg) u2.abs).2.length i)] ?_; intro W v
 refine eS rfl ?_; intro O x
 refine ck v 83 #[pt b1 0, .bool (gsumS u1.neg u1.abs (!u2.neg) u2.abs).1, .slice h (gsumS u1.neg u1.abs (!u2.neg) u2.abs).2.length i] ?_
 refine (ggive_fun u0 (gsumS u1.neg u1.abs (!u2.neg) u2.abs).1 (gsumS u1.neg u1.abs (!u2.neg) u2.abs).2 b1 ao2 cap3 h i _ _ _ _ _ _ hs4 j f f.fz).mono ?_; rintro _ P ⟨y, z, A, rfl, b, Q, hm⟩; refine ⟨_, rfl, ?_⟩; intro X C; have D := hm
 replace hs8 := hs8.mono b
 replace hs12 := hs12.mono b
 replace a := a.mono b
 replace c := Fz.le.trans c b
 have E : Mem B [] w0 Z0 ((.row b1 [.bool (ggive u0 (gsumS u1.neg u1.abs (!u2.neg) u2.abs).1 (gsumS u1.neg u1.abs (!u2.neg) u2.abs).2).neg, .slice y (ggive u0 (gsumS u1.neg u1.abs (!u2.neg) u2.abs).1 (gsumS u1.neg u1.abs (!u2.neg) u2.abs).2).abs.length z] 69) :: (.row b5 [.bool u1.neg, .slice ao6 u1.abs.length cap7] 69) :: (.row b9 [.bool u2.neg, .slice ao10 u2.abs.length cap11] 69) :: Rr) A P := D
 refine nl (qnI (x _ _ (E.cst a [1, 2]) ?_))
 refine cS C 1 [] [] [(6, pt b1 0)] ?_; intro Y R
 refine nS (p _ _ ?_)
 exact t_ (r_ (ra1 R (pt b1 0) ⟨((ggive u0 (gsumS u1.neg u1.abs (!u2.neg) u2.abs).1 (gsumS u1.neg u1.abs (!u2.neg) u2.abs).2), u1, u2), y, z, ao6, cap7, ao10, cap11, A, rfl, L, c, Q, hs8, hs12, E.kp⟩))

theorem gcmpA_walk (u0 : BRat) (u1 : BInt) (b1 : Nat) (ao2 : Option Addr) (cap3 : Nat) (ao5 : Option Addr) (cap6 : Nat) (b8 : Nat) (ao9 : Option Addr) (cap10 : Nat) (B : Nat) (w0 : World) (Z0 : Fz) (Rr : List Res) (Z : Fz) (w : World) (hs4 : SlR (tyInt .u32) Z ao2 cap3 u0.a.abs) (hs7 : SlR (tyInt .u32) Z ao5 cap6 u0.b.abs) (hs11 : SlR (tyInt .u32) Z ao9 cap10 u1.abs) (hM0 : Mem B [] w0 Z0 ((.row b1 [.bool u0.a.neg, .slice ao2 u0.a.abs.length cap3, .bool u0.b.neg, .slice ao5 u0.b.abs.length cap6] 71) :: (.row b8 [.bool u1.neg, .slice ao9 u1.abs.length cap10] 69) :: Rr) Z w) (hZ : Z.on w) {K : (Int × BRat × BInt) → Prop} (hp : gcmpA_vc u0 u1 K) : Calls Tryd.prog 56 #[pt b1 0, pt b8 0] w fun e w' => ∃ (r : Int × BRat × BInt) (ao1001 : Option Addr) (cap1002 : Nat) (ao1004 : Option Addr) (cap1005 : Nat) (ao1007 : Option Addr) (cap1008 : Nat) (Z' : Fz), e = .returned (i6 r.1) ∧ K r ∧ Fz.le Z Z' ∧ SlR (tyInt .u32) Z' ao1001 cap1002 r.2.1.a.abs ∧ SlR (tyInt .u32) Z' ao1004 cap1005 r.2.1.b.abs ∧ SlR (tyInt .u32) Z' ao1007 cap1008 r.2.2.abs ∧ Mem B [] w0 Z0 ((.row b1 [.bool r.2.1.a.neg, .slice ao1001 r.2.1.a.abs.length cap1002, .bool r.2.1.b.neg, .slice ao1004 r.2.1.b.abs.length cap1005] 71) :: (.row b8 [.bool r.2.2.neg, .slice ao1007 r.2.2.abs.length cap1008] 69) :: Rr) Z' w' := by
 refine enter0 Tryd.func56 rfl rfl (by kernel_rfl) ?_; intro a0 x; have j := Fz.le.refl Z
 have k := hp (hs4.small) (hs7.small) (hs11.small)
 refine sqB x hM0 [] [] [] ?_; intro V A
 apply s_
 have C : Fr 35 [] [⟨0, [], pt b1 0⟩, ⟨1, [], pt b8 0⟩] V := A.reg
 refine sqQH mixed (by kernel_rfl) hM0 ?_; intro W D
 refine q1 C 6 (pt b1 0) ?_; intro ak E
 refine q1 E 7 (pt b1 0) ?_; intro al F
 refine q1 F 8 (pt b1 0) ?_; intro am n
 refine ql_ n 0 0 (.bool u0.a.neg) rfl rfl ?_; intro an G
 refine q1 G 10 (pt b8 0) ?_; intro ao H
 refine q1 H 11 (pt b8 0) ?_; intro ap I
 refine q1 I 12 (pt b8 0) ?_; intro aq o
 refine ql_ o 1 0 (.bool u1.neg) rfl rfl ?_; intro ar J
 refine q1 J 14 (.bool (u0.a.neg != u1.neg)) ?_; intro X d
 refine qnl (D _ ?_); intro au c
 refine c_ d k (fun _ l => ?_) fun _ ad => ?_
 ·
  refine s_ (sqB d c [0] [] [(18, .bool u0.a.neg)] ?_); intro av f
  refine c_ f l (fun _ Y => ?_) fun _ ab => ?_
  ·
   refine sqB f c [] [] [(4, i6 (-1))] ?_; intro aw aa
   exact r_ (h_ (h_ (ra1 aa (i6 (-1)) ⟨(-1, u0, u1), ao2, cap3, ao5, cap6, ao9, cap10, Z, rfl, Y, j, hs4, hs7, hs11, c.kp⟩)))
  refine k_ (sqB f c [] [] [(4, i6 1)] ?_); intro ax ac
  exact r_ (h_ (ra1 ac (i6 1) ⟨(1, u0, u1), ao2, cap3, ao5, cap6, ao9, cap10, Z, rfl, ab, j, hs4, hs7, hs11, c.kp⟩))
 apply k_
 have L : Fr 35 [] [⟨0, [], pt b1 0⟩, ⟨1, [], pt b8 0⟩] X := d.reg
 refine sqQH mixed (by kernel_rfl) c ?_; intro ae M
 refine q1 L 19 (pt b1 0) ?_; intro ay N
 refine q1 N 20 (pt b1 0) ?_; intro az O
 refine q1 O 21 (pt b1 1) ?_; intro aA s
 refine ql_ s 0 1 (.slice ao2 u0.a.abs.length cap3) rfl rfl ?_; intro aB P
 refine q1 P 23 (pt b8 0) ?_; intro aC Q
 refine q1 Q 24 (pt b8 0) ?_; intro aD R
 refine q1 R 25 (pt b8 1) ?_; intro aE u
 refine ql_ u 1 1 (.slice ao9 u1.abs.length cap10) rfl rfl ?_; intro aF S
 obtain ⟨af, m⟩ := ad
 refine qcl S (i6 (gcmpS u0.a.abs u1.abs)) 89 #[.slice ao2 u0.a.abs.length cap3, .slice ao9 u1.abs.length cap10] (nog rfl _) rfl (by kernel_rfl) (fun _ => by kernel_rfl) (qfc fun w hC => gcmp_fun u0.a.abs u1.abs af ao2 cap3 ao9 cap10 _ _ hs4 hs11 hC.fz) ?_; intro aG T
 refine q1 T 5 (i6 (gcmpS u0.a.abs u1.abs)) ?_; intro aH U
 refine qnl (M _ ?_); intro aI h
 refine s_ (sqB U h [0] [] [(31, .bool u0.a.neg)] ?_); intro aJ i
 refine c_ i m (fun _ ag => ?_) fun _ ai => ?_
 ·
  refine sqB i h [] [] [(4, i6 (w64 (0 - (gcmpS u0.a.abs u1.abs))))] ?_; intro aK ah
  exact r_ (h_ (ra1 ah (i6 (w64 (0 - (gcmpS u0.a.abs u1.abs)))) ⟨(w64 (0 - (gcmpS u0.a.abs u1.abs)), u0, u1), ao2, cap3, ao5, cap6, ao9, cap10, Z, rfl, ag, j, hs4, hs7, hs11, h.kp⟩))
 refine k_ (sqB i h [] [] [(4, i6 (gcmpS u0.a.abs u1.abs))] ?_); intro aL aj
 exact r_ (ra1 aj (i6 (gcmpS u0.a.abs u1.abs)) ⟨((gcmpS u0.a.abs u1.abs), u0, u1), ao2, cap3, ao5, cap6, ao9, cap10, Z, rfl, ai, j, hs4, hs7, hs11, h.kp⟩)

theorem gcmpB_walk (u0 : BRat) (u1 : BInt) (b1 : Nat) (ao2 : Option Addr) (cap3 : Nat) (ao5 : Option Addr) (cap6 : Nat) (b8 : Nat) (ao9 : Option Addr) (cap10 : Nat) (B : Nat) (w0 : World) (Z0 : Fz) (Rr : List Res) (Z : Fz) (w : World) (hs4 : SlR (tyInt .u32) Z ao2 cap3 u0.a.abs) (hs7 : SlR (tyInt .u32) Z ao5 cap6 u0.b.abs) (hs11 : SlR (tyInt .u32) Z ao9 cap10 u1.abs) (hM0 : Mem B [] w0 Z0 ((.row b1 [.bool u0.a.neg, .slice ao2 u0.a.abs.length cap3, .bool u0.b.neg, .slice ao5 u0.b.abs.length cap6] 71) :: (.row b8 [.bool u1.neg, .slice ao9 u1.abs.length cap10] 69) :: Rr) Z w) (hZ : Z.on w) {K : (Int × BRat × BInt) → Prop} (hp : gcmpB_vc u0 u1 K) : Calls Tryd.prog 56 #[pt b1 2, pt b8 0] w fun e w' => ∃ (r : Int × BRat × BInt) (ao1001 : Option Addr) (cap1002 : Nat) (ao1004 : Option Addr) (cap1005 : Nat) (ao1007 : Option Addr) (cap1008 : Nat) (Z' : Fz), e = .returned (i6 r.1) ∧ K r ∧ Fz.le Z Z' ∧ SlR (tyInt .u32) Z' ao1001 cap1002 r.2.1.a.abs ∧ SlR (tyInt .u32) Z' ao1004 cap1005 r.2.1.b.abs ∧ SlR (tyInt .u32) Z' ao1007 cap1008 r.2.2.abs ∧ Mem B [] w0 Z0 ((.row b1 [.bool r.2.1.a.neg, .slice ao1001 r.2.1.a.abs.length cap1002, .bool r.2.1.b.neg, .slice ao1004 r.2.1.b.abs.length cap1005] 71) :: (.row b8 [.bool r.2.2.neg, .slice ao1007 r.2.2.abs.length cap1008] 69) :: Rr) Z' w' := by
 refine enter0 Tryd.func56 rfl rfl (by kernel_rfl) ?_; intro a0 x; have j := Fz.le.refl Z
 have k := hp (hs4.small) (hs7.small) (hs11.small)
 refine sqB x hM0 [] [] [] ?_; intro V A
 apply s_
 have C : Fr 35 [] [⟨0, [], pt b1 2⟩, ⟨1, [], pt b8 0⟩] V := A.reg
 refine sqQH mixed (by kernel_rfl) hM0 ?_; intro W D
 refine q1 C 6 (pt b1 2) ?_; intro ak E
 refine q1 E 7 (pt b1 2) ?_; intro al F
 refine q1 F 8 (pt b1 2) ?_; intro am n
 refine ql_ n 0 2 (.bool u0.b.neg) rfl rfl ?_; intro an G
 refine q1 G 10 (pt b8 0) ?_; intro ao H
 refine q1 H 11 (pt b8 0) ?_; intro ap I
 refine q1 I 12 (pt b8 0) ?_; intro aq o
 refine ql_ o 1 0 (.bool u1.neg) rfl rfl ?_; intro ar J
 refine q1 J 14 (.bool (u0.b.neg != u1.neg)) ?_; intro X d
 refine qnl (D _ ?_); intro au c
 refine c_ d k (fun _ l => ?_) fun _ ad => ?_
 ·
  refine s_ (sqB d c [0] [] [(18, .bool u0.b.neg)] ?_); intro av f
  refine c_ f l (fun _ Y => ?_) fun _ ab => ?_
  ·
   refine sqB f c [] [] [(4, i6 (-1))] ?_; intro aw aa
   exact r_ (h_ (h_ (ra1 aa (i6 (-1)) ⟨(-1, u0, u1), ao2, cap3, ao5, cap6, ao9, cap10, Z, rfl, Y, j, hs4, hs7, hs11, c.kp⟩)))
  refine k_ (sqB f c [] [] [(4, i6 1)] ?_); intro ax ac
  exact r_ (h_ (ra1 ac (i6 1) ⟨(1, u0, u1), ao2, cap3, ao5, cap6, ao9, cap10, Z, rfl, ab, j, hs4, hs7, hs11, c.kp⟩))
 apply k_
 have L : Fr 35 [] [⟨0, [], pt b1 2⟩, ⟨1, [], pt b8 0⟩] X := d.reg
 refine sqQH mixed (by kernel_rfl) c ?_; intro ae M
 refine q1 L 19 (pt b1 2) ?_; intro ay N
 refine q1 N 20 (pt b1 2) ?_; intro az O
 refine q1 O 21 (pt b1 3) ?_; intro aA s
 refine ql_ s 0 3 (.slice ao5 u0.b.abs.length cap6) rfl rfl ?_; intro aB P
 refine q1 P 23 (pt b8 0) ?_; intro aC Q
 refine q1 Q 24 (pt b8 0) ?_; intro aD R
 refine q1 R 25 (pt b8 1) ?_; intro aE u
 refine ql_ u 1 1 (.slice ao9 u1.abs.length cap10) rfl rfl ?_; intro aF S
 obtain ⟨af, m⟩ := ad
 refine qcl S (i6 (gcmpS u0.b.abs u1.abs)) 89 #[.slice ao5 u0.b.abs.length cap6, .slice ao9 u1.abs.length cap10] (nog rfl _) rfl (by kernel_rfl) (fun _ => by kernel_rfl) (qfc fun w hC => gcmp_fun u0.b.abs u1.abs af ao5 cap6 ao9 cap10 _ _ hs7 hs11 hC.fz) ?_; intro aG T
 refine q1 T 5 (i6 (gcmpS u0.b.abs u1.abs)) ?_; intro aH U
 refine qnl (M _ ?_); intro aI h
 refine s_ (sqB U h [0] [] [(31, .bool u0.b.neg)] ?_); intro aJ i
 refine c_ i m (fun _ ag => ?_) fun _ ai => ?_
 ·
  refine sqB i h [] [] [(4, i6 (w64 (0 - (gcmpS u0.b.abs u1.abs))))] ?_; intro aK ah
  exact r_ (h_ (ra1 ah (i6 (w64 (0 - (gcmpS u0.b.abs u1.abs)))) ⟨(w64 (0 - (gcmpS u0.b.abs u1.abs)), u0, u1), ao2, cap3, ao5, cap6, ao9, cap10, Z, rfl, ag, j, hs4, hs7, hs11, h.kp⟩))
 refine k_ (sqB i h [] [] [(4, i6 (gcmpS u0.b.abs u1.abs))] ?_); intro aL aj
 exact r_ (ra1 aj (i6 (gcmpS u0.b.abs u1.abs)) ⟨((gcmpS u0.b.abs u1.abs), u0, u1), ao2, cap3, ao5, cap6, ao9, cap10, Z, rfl, ai, j, hs4, hs7, hs11, h.kp⟩)

theorem glshI_walk (u0 : BInt) (u1 : BInt) (u2 : Int) (b1 : Nat) (ao2 : Option Addr) (cap3 : Nat) (b5 : Nat) (ao6 : Option Addr) (cap7 : Nat) (B : Nat) (w0 : World) (Z0 : Fz) (Rr : List Res) (Z : Fz) (w : World) (hs4 : SlR (tyInt .u32) Z ao2 cap3 u0.abs) (hs8 : SlR (tyInt .u32) Z ao6 cap7 u1.abs) (hM0 : Mem B [] w0 Z0 ((.row b1 [.bool u0.neg, .slice ao2 u0.abs.length cap3] 69) :: (.row b5 [.bool u1.neg, .slice ao6 u1.abs.length cap7] 69) :: Rr) Z w) (hZ : Z.on w) {K : (BInt × BInt) → Prop} (hp : glshI_vc u0 u1 u2 K) : Calls Tryd.prog 53 #[pt b1 0, pt b5 0, y6 u2] w fun e w' => ∃ (r : BInt × BInt) (ao1001 : Option Addr) (cap1002 : Nat) (ao1004 : Option Addr) (cap1005 : Nat) (Z' : Fz), e = .returned (pt b1 0) ∧ K r ∧ Fz.le Z Z' ∧ SlR (tyInt .u32) Z' ao1001 cap1002 r.1.abs ∧ SlR (tyInt .u32) Z' ao1004 cap1005 r.2.abs ∧ Mem B [] w0 Z0 ((.row b1 [.bool r.1.neg, .slice ao1001 r.1.abs.length cap1002] 69) :: (.row b5 [.bool r.2.neg, .slice ao1004 r.2.abs.length cap1005] 69) :: Rr) Z' w' := by
 refine enter0 Tryd.func53 rfl rfl (by kernel_rfl) ?_; intro Q i; have b := Fz.le.refl Z
 have D := hp (hs4.small) (hs8.small)
 refine sqB i hM0 [] [] [] ?_; intro E k
 have l : Fr 19 [] [⟨0, [], pt b1 0⟩, ⟨1, [], pt b5 0⟩, ⟨2, [], y6 u2⟩] E := k.reg
 refine wp_seq (rgS mixed hM0 [(0, true), (1, true), (2, true), (3, true), (4, true), (5, true), (6, true), (7, true), (8, true), (9, true), (10, false), (11, false), (12, true)] [] [1] [.row b5 [.bool u1.neg, .slice ao6 u1.abs.length cap7] 69] ?_)
 intro F m R g
 have a := Fz.le.refl Z
 refine cS l 10 [0, 0] [] [(7, pt b1 0), (11, .bool u1.neg), (15, .slice ao6 u1.abs.length cap7), (16, y6 u2)] ?_; intro S n
 refine eS rfl ?_; intro G o
 obtain ⟨H, I⟩ := D
 refine ck n 84 #[.slice ao6 u1.abs.length cap7, y6 u2] ?_
 refine (gleft_fun u1.abs u2 H ao6 cap7 _ _ hs8 g.fz).mono ?_; rintro _ J ⟨p, q, L, rfl, h, hm⟩; refine ⟨_, rfl, ?_⟩; intro T s; have t := g.callZ hm; have d := hm.ext.le
 replace hs4 := hs4.mono d
 replace hs8 := hs8.mono d
 replace a := a.mono d
 replace b := Fz.le.trans b d
 have f : Mem B [] w0 Z0 ((.row b1 [.bool u0.neg, .slice ao2 u0.abs.length cap3] 69) :: (.row b5 [.bool u1.neg, .slice ao6 u1.abs.length cap7] 69) :: Rr) L J := t
 refine nl (qnI (o _ _ (f.cst a [1]) ?_))
 refine eS rfl ?_; intro M u
 refine ck s 83 #[pt b1 0, .bool u1.neg, .slice p (gleftS u1.abs u2).length q] ?_
 refine (ggive_fun u0 u1.neg (gleftS u1.abs u2) b1 ao2 cap3 p q _ _ _ _ _ _ hs4 h f f.fz).mono ?_; rintro _ N ⟨v, x, y, rfl, c, O, hm⟩; refine ⟨_, rfl, ?_⟩; intro U z; have A := hm
 replace hs8 := hs8.mono c
 replace a := a.mono c
 replace b := Fz.le.trans b c
 have C : Mem B [] w0 Z0 ((.row b1 [.bool (ggive u0 u1.neg (gleftS u1.abs u2)).neg, .slice v (ggive u0 u1.neg (gleftS u1.abs u2)).abs.length x] 69) :: (.row b5 [.bool u1.neg, .slice ao6 u1.abs.length cap7] 69) :: Rr) y N := A
 refine nl (qnI (u _ _ (C.cst a [1]) ?_))
 refine cS z 1 [] [] [(6, pt b1 0)] ?_; intro V P
 refine nS (m _ _ ?_)
 exact t_ (r_ (ra1 P (pt b1 0) ⟨((ggive u0 u1.neg (gleftS u1.abs u2)), u1), v, x, ao6, cap7, y, rfl, I, b, O, hs8, C.kp⟩))

theorem grshI_walk (u0 : BInt) (u2 : Int) (b1 : Nat) (ao2 : Option Addr) (cap3 : Nat) (B : Nat) (w0 : World) (Z0 : Fz) (Rr : List Res) (Z : Fz) (w : World) (hs4 : SlR (tyInt .u32) Z ao2 cap3 u0.abs) (hM0 : Mem B [] w0 Z0 ((.row b1 [.bool u0.neg, .slice ao2 u0.abs.length cap3] 69) :: Rr) Z w) (hZ : Z.on w) {K : BInt → Prop} (hp : grshI_vc u0 u2 K) : Calls Tryd.prog 54 #[pt b1 0, pt b1 0, y6 u2] w fun e w' => ∃ (r : BInt) (ao1001 : Option Addr) (cap1002 : Nat) (Z' : Fz), e = .returned (pt b1 0) ∧ K r ∧ Fz.le Z Z' ∧ SlR (tyInt .u32) Z' ao1001 cap1002 r.abs ∧ Mem B [] w0 Z0 ((.row b1 [.bool r.neg, .slice ao1001 r.abs.length cap1002] 69) :: Rr) Z' w' := by
 refine enter0 Tryd.func54 rfl rfl (by kernel_rfl) ?_; intro Q i; have a := Fz.le.refl Z
 have D := hp (hs4.small)
 refine sqB i hM0 [] [] [] ?_; intro R j
 refine s_ (sqB j hM0 [0] [] [(10, .bool u0.neg)] ?_); intro S c
 obtain ⟨E, F⟩ := D
 refine cn c E ?_
 refine k_ (sqH ?_); intro G k
 refine bt c hM0 6 [0] [] [(23, pt b1 0), (27, .slice ao2 u0.abs.length cap3), (28, y6 u2)] ?_; intro T l
 obtain ⟨H, m⟩ := F
 refine ck l 86 #[.slice ao2 u0.abs.length cap3, y6 u2] ?_
 refine (gright_fun u0.abs u2 H ao2 cap3 _ _ hs4 hM0.fz).mono ?_; rintro _ I ⟨n, o, J, rfl, b, hm⟩; refine ⟨_, rfl, ?_⟩; intro U p; have q := hM0.callZ hm; have s := hm.ext.le
 replace hs4 := hs4.mono s
 replace a := Fz.le.trans a s
 have d : Mem B [] w0 Z0 ((.row b1 [.bool u0.neg, .slice ao2 u0.abs.length cap3] 69) :: Rr) J I := q
 have t := m (b.small)
 refine ck p 83 #[pt b1 0, .bool false, .slice n (grightS u0.abs u2).length o] ?_
 obtain ⟨f, L, u⟩ := hxq t
 have g := ggive_fun u0 false (grightS u0.abs u2) b1 ao2 cap3 n o _ _ _ _ _ _ hs4 b d d.fz; rw [L] at g; refine g.mono ?_; rintro _ M ⟨v, x, y, rfl, h, z, hm⟩; refine ⟨_, rfl, ?_⟩; intro V A; have C := hm
 replace a := Fz.le.trans a h
 have N : Mem B [] w0 Z0 ((.row b1 [.bool f.neg, .slice v f.abs.length x] 69) :: Rr) y M := C
 have O := u (z.small)
 refine s1 A 6 (pt b1 0) ?_; intro W P
 apply k
 exact r_ (ra1 P (pt b1 0) ⟨f, v, x, y, rfl, O, a, z, N.kp⟩)

theorem gnegI_walk (u0 : BInt) (u1 : BInt) (b1 : Nat) (ao2 : Option Addr) (cap3 : Nat) (b5 : Nat) (ao6 : Option Addr) (cap7 : Nat) (B : Nat) (w0 : World) (Z0 : Fz) (Rr : List Res) (Z : Fz) (w : World) (hs4 : SlR (tyInt .u32) Z ao2 cap3 u0.abs) (hs8 : SlR (tyInt .u32) Z ao6 cap7 u1.abs) (hM0 : Mem B [] w0 Z0 ((.row b1 [.bool u0.neg, .slice ao2 u0.abs.length cap3] 69) :: (.row b5 [.bool u1.neg, .slice ao6 u1.abs.length cap7] 69) :: Rr) Z w) (hZ : Z.on w) {K : (BInt × BInt) → Prop} (hp : gnegI_vc u0 u1 K) : Calls Tryd.prog 55 #[pt b1 0, pt b5 0] w fun e w' => ∃ (r : BInt × BInt) (ao1001 : Option Addr) (cap1002 : Nat) (ao1004 : Option Addr) (cap1005 : Nat) (Z' : Fz), e = .returned (pt b1 0) ∧ K r ∧ Fz.le Z Z' ∧ SlR (tyInt .u32) Z' ao1001 cap1002 r.1.abs ∧ SlR (tyInt .u32) Z' ao1004 cap1005 r.2.abs ∧ Mem B [] w0 Z0 ((.row b1 [.bool r.1.neg, .slice ao1001 r.1.abs.length cap1002] 69) :: (.row b5 [.bool r.2.neg, .slice ao1004 r.2.abs.length cap1005] 69) :: Rr) Z' w' := by
 refine enter0 Tryd.func55 rfl rfl (by kernel_rfl) ?_; intro U l; have b := Fz.le.refl Z
 have H := hp (hs4.small) (hs8.small)
 refine sqB l hM0 [] [] [] ?_; intro I n
 have o : Fr 17 [] [⟨0, [], pt b1 0⟩, ⟨1, [], pt b5 0⟩] I := n.reg
 refine wp_seq (rgS mixed hM0 [(0, true), (1, true), (2, true), (3, true), (4, true), (5, true), (6, true), (7, true), (8, true), (9, true), (10, false), (11, false), (12, true)] [] [1] [.row b5 [.bool u1.neg, .slice ao6 u1.abs.length cap7] 69] ?_)
 intro J p V g
 have a := Fz.le.refl Z
 refine cS o 10 [0, 0] [] [(5, pt b1 0), (10, .bool (!u1.neg)), (14, .slice ao6 u1.abs.length cap7)] ?_; intro W q
 refine eS rfl ?_; intro L s
 obtain ⟨M, N⟩ := H
 refine ck q 88 #[.slice ao6 u1.abs.length cap7] ?_
 refine (gtwin_fun u1.abs M ao6 cap7 _ _ hs8 g.fz).mono ?_; rintro _ t ⟨h, i, O, rfl, hm⟩; refine ⟨_, rfl, ?_⟩; intro X u; have v := g.callZ hm; have d := hm.ext.le
 replace hs4 := hs4.mono d
 replace hs8 := hs8.mono d
 replace a := a.mono d
 replace b := Fz.le.trans b d
 have x : Mem B [] w0 Z0 ((.own (tyInt .u32) 109 h i (gtwinS u1.abs)) :: (.row b1 [.bool u0.neg, .slice ao2 u0.abs.length cap3] 69) :: (.row b5 [.bool u1.neg, .slice ao6 u1.abs.length cap7] 69) :: Rr) O t := v
 refine nl (qnI (s _ _ (x.cst a [2]) ?_))
 refine eS rfl ?_; intro P y
 obtain ⟨Q, f, z, j⟩ := x.freeze 0 rfl
 replace hs4 := hs4.mono f
 replace hs8 := hs8.mono f
 replace a := a.mono f
 replace b := Fz.le.trans b f
 have k : Mem B [] w0 Z0 ((.row b1 [.bool u0.neg, .slice ao2 u0.abs.length cap3] 69) :: (.row b5 [.bool u1.neg, .slice ao6 u1.abs.length cap7] 69) :: Rr) Q t := z
 refine ck u 83 #[pt b1 0, .bool (!u1.neg), .slice h (gtwinS u1.abs).length i] ?_
 refine (ggive_fun u0 (!u1.neg) (gtwinS u1.abs) b1 ao2 cap3 h i _ _ _ _ _ _ hs4 j k k.fz).mono ?_; rintro _ R ⟨A, C, D, rfl, c, S, hm⟩; refine ⟨_, rfl, ?_⟩; intro Y E; have F := hm
 replace hs8 := hs8.mono c
 replace a := a.mono c
 replace b := Fz.le.trans b c
 have G : Mem B [] w0 Z0 ((.row b1 [.bool (ggive u0 (!u1.neg) (gtwinS u1.abs)).neg, .slice A (ggive u0 (!u1.neg) (gtwinS u1.abs)).abs.length C] 69) :: (.row b5 [.bool u1.neg, .slice ao6 u1.abs.length cap7] 69) :: Rr) D R := F
 refine nl (qnI (y _ _ (G.cst a [1]) ?_))
 refine cS E 1 [] [] [(4, pt b1 0)] ?_; intro aa T
 refine nS (p _ _ ?_)
 exact t_ (r_ (ra1 T (pt b1 0) ⟨((ggive u0 (!u1.neg) (gtwinS u1.abs)), u1), A, C, ao6, cap7, D, rfl, N, b, S, hs8, G.kp⟩))

end Go.Proofs.YtdndfbamhnchfaaDoor
