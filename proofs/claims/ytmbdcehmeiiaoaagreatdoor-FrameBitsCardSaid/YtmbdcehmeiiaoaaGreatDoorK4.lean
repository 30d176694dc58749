/- Texts put together (pure ones, or walks made by program). -/
import Derived.Test.YtmbdcehmeiiaoaaGreatDoorCore
import Derived.Test.YtmbdcehmeiiaoaaGreatDoorK1
import Derived.Test.YtmbdcehmeiiaoaaGreatDoorK2
import Derived.Test.YtmbdcehmeiiaoaaGreatDoorK3
import Derived.Shelf.Lay
import Derived.Ground.NamesProg
import Derived.Shelf.Strings.Builder1
set_option linter.unusedVariables false
set_option linter.unusedSimpArgs false
set_option maxRecDepth 100000
set_option maxHeartbeats 0
namespace Go.Proofs.YtmbdcehmeiiaoaaGreatDoor
open Go.Sy Go.RowKit
theorem tz64_fun (u0 : Int) (hpre : u0 = 2)  (Z : Fz) (w : World) (hg5 : SlR t8 Z (sm 5) 64 deBruijn64) (hZ : Z.on w) : Calls Tryz.prog 150 #[y6 u0] w fun e w' => e = .returned (i6 (tz64S u0)) ∧ Below w.heap.size w w' :=
  (tz64_walk u0  Z w hg5 hZ (tz64_ok u0 hpre)).mono fun _ _ ⟨r, he, hk, hb⟩ => ⟨by subst hk; exact he, hb⟩

theorem tz_walk (u0 : Int)  (Z : Fz) (w : World) (hg5 : SlR t8 Z (sm 5) 64 deBruijn64) (hZ : Z.on w) {K : Int → Prop} (hp : tz_vc u0 K) : Calls Tryz.prog 145 #[y6 u0] w fun e w' => ∃ r : Int, e = .returned (i6 r) ∧ K r ∧ Below w.heap.size w w' := by
 refine enter0 Tryz.func145 rfl rfl (by kernel_rfl) ?_; intro m c; have a := Mem.start w Z hZ; have n := Fz.le.refl Z
 refine sqB c a [] [] [] ?_; intro o b; clear c
 refine wp_seq ?_
 refine cdF b (by kernel_rfl) ?_
 refine wp_skip ?_
 refine thn ?_
 refine sqH ?_; intro h d
 refine s1 b 6 (y6 u0) ?_; intro p f; clear b
 obtain ⟨i, j⟩ := hp
 refine fc f a (tz64_fun u0 i _ _ hg5 a.fz) ?_; intro q s g k; clear f a
 refine s1 g 2 (i6 (tz64S u0)) ?_; intro t l; clear g
 refine nlH (d _ _ ?_); clear d h
 refine wp_ret ?_
 refine ra1 l (i6 (tz64S u0)) ?_
 exact ⟨(tz64S u0), rfl, j, k.below⟩

theorem fbits_walk (u1 : Int) (u3 : Bool)  (Z : Fz) (w : World) (hg5 : SlR t8 Z (sm 5) 64 deBruijn64) (hZ : Z.on w) {K : ((List Int) × (List UInt8)) → Prop} (hp : fbits_vc u1 u3 K) : Calls Tryz.prog 131 #[.slice none 0 0, y6 u1, i6 2, .bool u3, .bool false] w fun e w' => ∃ (r : (List Int) × (List UInt8)) (ao1001 : Option Addr) (cap1002 : Nat) (Z' : Fz), e = .returned (.tuple #[.slice ao1001 r.1.length cap1002, str r.2]) ∧ K r ∧ Mem w.heap.size [] w Z [.own t8 5 ao1001 cap1002 r.1] Z' w' := by
 refine enter0 Tryz.func131 rfl rfl (by kernel_rfl) ?_; intro a0 aX; have Q := Mem.start w Z hZ; have y := Fz.le.refl Z
 refine sqB aX Q [] [] [(10, .slice none 0 0), (11, str [])] ?_; intro a4 aY; clear aX
 refine wp_seq ?_
 refine sqB aY Q [] [22, 23, 24, 26, 27, 28] [(28, .bool false)] ?_; intro f9 al; clear aY
 refine cdF al (by kernel_rfl) ?_
 refine wp_skip ?_
 refine thn ?_
 refine sqH ?_; intro dB aZ
 refine alA (T := t8) al Q 65 (y8 0) 0 174 (nog rfl _) rfl (by kernel_rfl) (by kernel_rfl) rfl (by decide) rfl ?_; intro c ga dC a1 a2; clear al Q
 have p : Mem w.heap.size [] w Z [.own t8 174 (sm c) 65 (List.replicate 65 (0 : Int))] Z dC := a2; clear a2
 refine nlH (aZ _ _ ?_); clear aZ dB
 refine sqB a1 p [] [] [(13, i6 65)] ?_; intro gb a3; clear a1
 refine wp_seq ?_
 refine sqB a3 p [] [] [(30, .bool u3)] ?_; intro gc G; clear a3
 refine cd G (t := u3) (by kernel_rfl) (fun z => ?_) (fun z => ?_)
 ·
  have R := hp.1 z; clear hp
  refine rgB G p [] [] [(1, y6 (wu64 (0 - u1)))] ?_; intro gd a5; clear G
  refine thn ?_
  refine wp_seq ?_
  refine sqH ?_; intro dD a6
  refine s1 a5 33 (i6 2) ?_; intro ge a7; clear a5
  refine fc a7 p (isp2_fun 2 _ _ p.fz) ?_; intro gf gg H A; clear a7 p
  refine nlH (a6 _ _ ?_); clear a6 dD
  refine cd H (t := (isp2 2)) (by kernel_rfl) (fun am => ?_) (fun am => ?_)
  ·
   have dE := R.1 am; clear R
   refine sqH ?_; intro dF a8
   refine bt H A 2 [] [] [(36, y6 2)] ?_; intro gh a9; clear H
   refine ck a9 145 #[y6 2] ?_
   refine (tz_walk 2 _ _ hg5 A.fz dE).mono ?_; rintro _ gi ⟨i, rfl, dG, hb⟩; refine ⟨_, rfl, ?_⟩; intro gj ba; have I := A.call hb; clear hb A a9
   refine bt ba I 2 [] [] [(14, y6 (wu64 i))] ?_; intro gk bb; clear ba
   refine nlH (a8 _ _ ?_); clear a8 dF
   refine sqB bb I [] [] [(15, y6 2)] ?_; intro gl bc; clear bb
   refine sqB bc I [] [] [(16, y6 (wu64 (2 - 1)))] ?_; intro bd be; clear bc
   refine wp_seq ?_
   refine wp_block ?_
   have bf : Fr 102 [] [⟨0, [], .slice none 0 0⟩, ⟨1, [], y6 (wu64 (0 - u1))⟩, ⟨3, [], .bool u3⟩, ⟨4, [], .bool false⟩, ⟨10, [], .slice none 0 0⟩, ⟨11, [], str []⟩, ⟨12, [], pt c 0⟩, ⟨13, [], i6 65⟩, ⟨14, [], y6 (wu64 i)⟩, ⟨15, [], y6 2⟩, ⟨16, [], y6 (wu64 (2 - 1))⟩] bd := be.reg; clear be
   have bg : Fr 102 [] [⟨0, [], .slice none 0 0⟩, ⟨1, [], y6 (wu64 (0 - u1))⟩, ⟨3, [], .bool u3⟩, ⟨4, [], .bool false⟩, ⟨10, [], .slice none 0 0⟩, ⟨11, [], str []⟩, ⟨12, [], pt c 0⟩, ⟨13, [], i6 65⟩, ⟨14, [], y6 (wu64 i)⟩, ⟨15, [], y6 2⟩, ⟨16, [], y6 (wu64 (2 - 1))⟩] bd := bf.reg; clear bf
   obtain ⟨dH, dI, dJ, dK⟩ := dG
   refine lp (ι := Int × Int × (List Int)) (fun (s : Int × Int × (List Int)) => [⟨0, [], .slice none 0 0⟩, ⟨1, [], y6 s.1⟩, ⟨3, [], .bool u3⟩, ⟨4, [], .bool false⟩, ⟨10, [], .slice none 0 0⟩, ⟨11, [], str []⟩, ⟨12, [], pt c 0⟩, ⟨13, [], i6 s.2.1⟩, ⟨14, [], y6 (wu64 i)⟩, ⟨15, [], y6 2⟩, ⟨16, [], y6 (wu64 (2 - 1))⟩]) (fun (s : Int × Int × (List Int)) => [.own t8 174 (sm c) 65 s.2.2]) (fun (s : Int × Int × (List Int)) => Z) (fun (s : Int × Int × (List Int)) => dH s.1 s.2.1 s.2.2) (fun (s : Int × Int × (List Int)) => dI s.1 s.2.1 s.2.2) ⟨wu64 (0 - u1), 65, (List.replicate 65 (0 : Int))⟩ dJ (by exact bg.reg) (by exact I) ?_
   rintro ⟨b, a, d⟩ dL dM dN bh bi
   have bj : Fr 102 [] [⟨0, [], .slice none 0 0⟩, ⟨1, [], y6 b⟩, ⟨3, [], .bool u3⟩, ⟨4, [], .bool false⟩, ⟨10, [], .slice none 0 0⟩, ⟨11, [], str []⟩, ⟨12, [], pt c 0⟩, ⟨13, [], i6 a⟩, ⟨14, [], y6 (wu64 i)⟩, ⟨15, [], y6 2⟩, ⟨16, [], y6 (wu64 (2 - 1))⟩] dM := bh; clear bh bg
   have v : Mem w.heap.size [] w Z [.own t8 174 (sm c) 65 d] Z dN := bi; clear bi I
   have S := dK b a d dL
   refine wp_seq ?_
   refine sqB bj v [] [] [(46, .bool (decide (b ≥ 2)))] ?_; intro gm J; clear bj
   refine cd J (t := decide (b ≥ 2)) (by kernel_rfl) (fun an => ?_) (fun an => ?_)
   ·
    have dO := S.1 an; clear S
    refine wp_skip ?_
    refine thn ?_
    refine wp_block ?_
    refine sqB J v [] [] [(13, i6 (w64 (a - 1)))] ?_; intro gn bk; clear J
    refine sqH ?_; intro dP bl
    refine bt bk v 4 [] [] [(49, i6 (w64 (a - 1))), (52, y6 (bAnd .u64 b (wu64 (2 - 1))))] ?_; intro go bm; clear bk
    obtain ⟨dQ, dR⟩ := dO
    obtain ⟨C, bn⟩ : ∃ q, ([48, 49, 50, 51, 52, 53, 54, 55, 56, 57, 97, 98, 99, 100, 101, 102, 103, 104, 105, 106, 107, 108, 109, 110, 111, 112, 113, 114, 115, 116, 117, 118, 119, 120, 121, 122] : List UInt8)[(bAnd .u64 b (wu64 (2 - 1))).toNat]? = some q := ⟨_, List.getElem?_eq_getElem (by omega)⟩; have dS := dR C bn
    refine si bm .u64 dQ.1 bn ?_; intro gp bo; clear bm
    obtain ⟨dT, dU⟩ := dS
    refine ixA (g := c) bo (w64 (a - 1)) 65 1 dT.1 (e := 5) (k := .i64) (nog rfl _) rfl (by kernel_rfl) rfl (by kernel_rfl) (by kernel_rfl) (by kernel_rfl) ?_; intro dV U; clear bo
    refine so U v 0 (T := t8) (xs := d) (w64 (a - 1)).toNat (C.toNat : Int) (u := y8 (C.toNat : Int)) (nog rfl _) rfl rfl (by kernel_rfl) rfl (by kernel_rfl) rfl (by kernel_rfl) (by first | omega | (simp only [List.length_set] at *; omega)) rfl ?_; intro dW bp; clear v
    have bq : Fr 102 [] [⟨0, [], .slice none 0 0⟩, ⟨1, [], y6 b⟩, ⟨3, [], .bool u3⟩, ⟨4, [], .bool false⟩, ⟨10, [], .slice none 0 0⟩, ⟨11, [], str []⟩, ⟨12, [], pt c 0⟩, ⟨13, [], i6 (w64 (a - 1))⟩, ⟨14, [], y6 (wu64 i)⟩, ⟨15, [], y6 2⟩, ⟨16, [], y6 (wu64 (2 - 1))⟩, ⟨46, [], .bool (decide (b ≥ 2))⟩, ⟨49, [], i6 (w64 (a - 1))⟩, ⟨52, [], y6 (bAnd .u64 b (wu64 (2 - 1)))⟩, ⟨53, [], y8 (C.toNat : Int)⟩, ⟨54, [], .pointer (some ⟨c, (w64 (a - 1)).toNat * 1, none⟩)⟩] dV := by (try simp only [List.length_set] at U); (try simp only [List.length_set]); exact U.reg
    clear U
    have br : Mem w.heap.size [] w Z [.own t8 174 (sm c) 65 (d.set (w64 (a - 1)).toNat (C.toNat : Int))] Z dW := bp; clear bp
    refine nlH (bl _ _ ?_); clear bl dP
    refine rgH ?_; intro dX bs
    refine bt bq br 2 [] [] [(55, y6 b), (56, y6 (wu64 i))] ?_; intro gq ap; clear bq
    obtain ⟨dY, bu⟩ := dU
    refine st ap (y6 (bShr .u64 b (wu64 i))) (nog rfl _) rfl (by kernel_rfl) (shr_run ap (g := []) (k' := .u64) rfl (by kernel_rfl) (by kernel_rfl) dY rfl) ?_; intro gr bv; clear ap
    refine s1 bv 1 (y6 (bShr .u64 b (wu64 i))) ?_; intro gs dZ; clear bv
    refine nlH (bs _ _ ?_); clear bs dX
    refine ibn ?_
    refine rd ?_
    exact ⟨⟨bShr .u64 b (wu64 i), w64 (a - 1), d.set (w64 (a - 1)).toNat (C.toNat : Int)⟩, bu.1, bu.2, (dZ.reg).anyβ _ (by kernel_rfl), br.keep (List.Sublist.cons_cons _ (List.Sublist.slnil))⟩
   have d0 := S.2 an; clear S
   refine wp_exit ?_
   refine thx ?_
   refine thx ?_
   refine ibx ?_
   refine thn ?_
   refine sqB J v [] [] [(13, i6 (w64 (a - 1)))] ?_; intro gt bw; clear J
   refine rgH ?_; intro d1 bx
   refine bt bw v 2 [] [] [(60, i6 (w64 (a - 1))), (61, y6 b)] ?_; intro gu bz; clear bw
   obtain ⟨d2, d3⟩ := d0
   obtain ⟨f, bA⟩ : ∃ q, ([48, 49, 50, 51, 52, 53, 54, 55, 56, 57, 97, 98, 99, 100, 101, 102, 103, 104, 105, 106, 107, 108, 109, 110, 111, 112, 113, 114, 115, 116, 117, 118, 119, 120, 121, 122] : List UInt8)[b.toNat]? = some q := ⟨_, List.getElem?_eq_getElem (by omega)⟩; have d4 := d3 f bA
   refine si bz .u64 d2.1 bA ?_; intro gv bB; clear bz
   obtain ⟨d5, d6⟩ := d4
   refine ixA (g := c) bB (w64 (a - 1)) 65 1 d5.1 (e := 5) (k := .i64) (nog rfl _) rfl (by kernel_rfl) rfl (by kernel_rfl) (by kernel_rfl) (by kernel_rfl) ?_; intro d7 V; clear bB
   refine so V v 0 (T := t8) (xs := d) (w64 (a - 1)).toNat (f.toNat : Int) (u := y8 (f.toNat : Int)) (nog rfl _) rfl rfl (by kernel_rfl) rfl (by kernel_rfl) rfl (by kernel_rfl) (by first | omega | (simp only [List.length_set] at *; omega)) rfl ?_; intro d8 bC; clear v
   have bD : Fr 102 [] [⟨0, [], .slice none 0 0⟩, ⟨1, [], y6 b⟩, ⟨3, [], .bool u3⟩, ⟨4, [], .bool false⟩, ⟨10, [], .slice none 0 0⟩, ⟨11, [], str []⟩, ⟨12, [], pt c 0⟩, ⟨13, [], i6 (w64 (a - 1))⟩, ⟨14, [], y6 (wu64 i)⟩, ⟨15, [], y6 2⟩, ⟨16, [], y6 (wu64 (2 - 1))⟩, ⟨46, [], .bool (decide (b ≥ 2))⟩, ⟨60, [], i6 (w64 (a - 1))⟩, ⟨61, [], y6 b⟩, ⟨62, [], y8 (f.toNat : Int)⟩, ⟨63, [], .pointer (some ⟨c, (w64 (a - 1)).toNat * 1, none⟩)⟩] d7 := by (try simp only [List.length_set] at V); (try simp only [List.length_set]); exact V.reg
   clear V
   have W : Mem w.heap.size [] w Z [.own t8 174 (sm c) 65 (d.set (w64 (a - 1)).toNat (f.toNat : Int))] Z d8 := bC; clear bC
   refine nlH (bx _ _ ?_); clear bx d1
   refine thn ?_
   refine wp_seq ?_
   refine sqB bD W [] [] [(89, .bool u3)] ?_; intro gw aq; clear bD
   refine cy aq z ?_
   refine sqB aq W [] [] [(13, i6 (w64 ((w64 (a - 1)) - 1)))] ?_; intro gx bE; clear aq
   refine rgH ?_; intro d9 bF
   refine s1 bE 92 (i6 (w64 ((w64 (a - 1)) - 1))) ?_; intro gy bG; clear bE
   obtain ⟨ea, eb⟩ := d6
   refine ixA (g := c) bG (w64 ((w64 (a - 1)) - 1)) 65 1 ea.1 (e := 5) (k := .i64) (nog rfl _) rfl (by kernel_rfl) rfl (by kernel_rfl) (by kernel_rfl) (by kernel_rfl) ?_; intro ec X; clear bG
   refine so X W 0 (T := t8) (xs := d.set (w64 (a - 1)).toNat (f.toNat : Int)) (w64 ((w64 (a - 1)) - 1)).toNat 45 (u := y8 45) (nog rfl _) rfl rfl (by kernel_rfl) rfl (by kernel_rfl) rfl (by kernel_rfl) (by first | omega | (simp only [List.length_set] at *; omega)) rfl ?_; intro ar bH; clear W
   have bI : Fr 102 [] [⟨0, [], .slice none 0 0⟩, ⟨1, [], y6 b⟩, ⟨3, [], .bool u3⟩, ⟨4, [], .bool false⟩, ⟨10, [], .slice none 0 0⟩, ⟨11, [], str []⟩, ⟨12, [], pt c 0⟩, ⟨13, [], i6 (w64 ((w64 (a - 1)) - 1))⟩, ⟨14, [], y6 (wu64 i)⟩, ⟨15, [], y6 2⟩, ⟨16, [], y6 (wu64 (2 - 1))⟩, ⟨46, [], .bool (decide (b ≥ 2))⟩, ⟨60, [], i6 (w64 (a - 1))⟩, ⟨61, [], y6 b⟩, ⟨62, [], y8 (f.toNat : Int)⟩, ⟨63, [], .pointer (some ⟨c, (w64 (a - 1)).toNat * 1, none⟩)⟩, ⟨89, [], .bool u3⟩, ⟨92, [], i6 (w64 ((w64 (a - 1)) - 1))⟩, ⟨93, [], .pointer (some ⟨c, (w64 ((w64 (a - 1)) - 1)).toNat * 1, none⟩)⟩] ec := by (try simp only [List.length_set] at X); (try simp only [List.length_set]); exact X.reg
   clear X
   have bJ : Mem w.heap.size [] w Z [.own t8 174 (sm c) 65 ((d.set (w64 (a - 1)).toNat (f.toNat : Int)).set (w64 ((w64 (a - 1)) - 1)).toNat 45)] Z ar := bH; clear bH
   refine nlH (bF _ _ ?_); clear bF d9
   refine thn ?_
   refine wp_seq ?_
   refine sqB bI bJ [] [] [(94, .bool false)] ?_; intro gz au; clear bI
   refine cdF au (by kernel_rfl) ?_
   refine wp_skip ?_
   refine thn ?_
   refine sqH ?_; intro ed bK
   refine s1 au 99 (i6 (w64 ((w64 (a - 1)) - 1))) ?_; intro gA bL; clear au
   obtain ⟨bM, ee⟩ := eb
   obtain ⟨av, bN, bO, ef⟩ := bJ.freeze 0 rfl
   replace hg5 := hg5.mono bN
   replace y := Fz.le.trans y bN
   have aw : Mem w.heap.size [] w Z [] av ar := bO; clear bO
   refine slA bL (T := t8) (xs := (d.set (w64 (a - 1)).toNat (f.toNat : Int)).set (w64 ((w64 (a - 1)) - 1)).toNat 45) ef 65 (w64 ((w64 (a - 1)) - 1)) bM.2 bM.1 (e := 5) (k := .i64) (nog rfl _) rfl (by kernel_rfl) rfl (by kernel_rfl) (by kernel_rfl) (by kernel_rfl) ?_; intro eg eh gB gC ei ax; clear bL
   refine st ax (str (bstr (((d.set (w64 (a - 1)).toNat (f.toNat : Int)).set (w64 ((w64 (a - 1)) - 1)).toNat 45).drop (w64 ((w64 (a - 1)) - 1)).toNat))) (nog rfl _) rfl (by kernel_rfl) (bstr_op ax (g := []) (e := 5) (ao := eg) (cap := eh) (xs := (((d.set (w64 (a - 1)).toNat (f.toNat : Int)).set (w64 ((w64 (a - 1)) - 1)).toNat 45).drop (w64 ((w64 (a - 1)) - 1)).toNat)) rfl (by kernel_rfl) (by kernel_rfl) (by kernel_rfl) (by kernel_rfl) ei aw.fz rfl) ?_; intro gD bP; clear ax
   refine s1 bP 11 (str (bstr (((d.set (w64 (a - 1)).toNat (f.toNat : Int)).set (w64 ((w64 (a - 1)) - 1)).toNat 45).drop (w64 ((w64 (a - 1)) - 1)).toNat))) ?_; intro gE ej; clear bP
   refine nlH (bK _ _ ?_); clear bK ed
   refine wp_ret ?_
   have ek : Mem w.heap.size [] w Z [.own t8 5 none 0 ([] : List Int)] av ar := aw.addNil t8 5 (by decide); clear aw
   refine ra2 ej (.tuple #[.slice none ([] : List Int).length 0, str (bstr (((d.set (w64 (a - 1)).toNat (f.toNat : Int)).set (w64 ((w64 (a - 1)) - 1)).toNat 45).drop (w64 ((w64 (a - 1)) - 1)).toNat))]) ?_
   exact ⟨(([] : List Int), bstr (((d.set (w64 (a - 1)).toNat (f.toNat : Int)).set (w64 ((w64 (a - 1)) - 1)).toNat 45).drop (w64 ((w64 (a - 1)) - 1)).toNat)), none, 0, av, rfl, ee, ek.keep (List.Sublist.cons_cons _ (List.Sublist.slnil))⟩
  have el := R.2 am; clear R
  refine sqB H A [] [] [(17, y6 2)] ?_; intro bQ bR; clear H
  refine wp_seq ?_
  refine wp_block ?_
  have bS : Fr 102 [] [⟨0, [], .slice none 0 0⟩, ⟨1, [], y6 (wu64 (0 - u1))⟩, ⟨3, [], .bool u3⟩, ⟨4, [], .bool false⟩, ⟨10, [], .slice none 0 0⟩, ⟨11, [], str []⟩, ⟨12, [], pt c 0⟩, ⟨13, [], i6 65⟩, ⟨17, [], y6 2⟩] bQ := bR.reg; clear bR
  have bT : Fr 102 [] [⟨0, [], .slice none 0 0⟩, ⟨1, [], y6 (wu64 (0 - u1))⟩, ⟨3, [], .bool u3⟩, ⟨4, [], .bool false⟩, ⟨10, [], .slice none 0 0⟩, ⟨11, [], str []⟩, ⟨12, [], pt c 0⟩, ⟨13, [], i6 65⟩, ⟨17, [], y6 2⟩] bQ := bS.reg; clear bS
  obtain ⟨em, en, eo, ep⟩ := el
  refine lp (ι := Int × Int × (List Int)) (fun (s : Int × Int × (List Int)) => [⟨0, [], .slice none 0 0⟩, ⟨1, [], y6 s.1⟩, ⟨3, [], .bool u3⟩, ⟨4, [], .bool false⟩, ⟨10, [], .slice none 0 0⟩, ⟨11, [], str []⟩, ⟨12, [], pt c 0⟩, ⟨13, [], i6 s.2.1⟩, ⟨17, [], y6 2⟩]) (fun (s : Int × Int × (List Int)) => [.own t8 174 (sm c) 65 s.2.2]) (fun (s : Int × Int × (List Int)) => Z) (fun (s : Int × Int × (List Int)) => em s.1 s.2.1 s.2.2) (fun (s : Int × Int × (List Int)) => en s.1 s.2.1 s.2.2) ⟨wu64 (0 - u1), 65, (List.replicate 65 (0 : Int))⟩ eo (by exact bT.reg) (by exact A) ?_
  rintro ⟨b, a, d⟩ eq er es bU bV
  have bW : Fr 102 [] [⟨0, [], .slice none 0 0⟩, ⟨1, [], y6 b⟩, ⟨3, [], .bool u3⟩, ⟨4, [], .bool false⟩, ⟨10, [], .slice none 0 0⟩, ⟨11, [], str []⟩, ⟨12, [], pt c 0⟩, ⟨13, [], i6 a⟩, ⟨17, [], y6 2⟩] er := bU; clear bU bT
  have n : Mem w.heap.size [] w Z [.own t8 174 (sm c) 65 d] Z es := bV; clear bV A
  have Y := ep b a d eq
  refine wp_seq ?_
  refine sqB bW n [] [] [(68, .bool (decide (b ≥ 2)))] ?_; intro gF L; clear bW
  refine cd L (t := decide (b ≥ 2)) (by kernel_rfl) (fun ay => ?_) (fun ay => ?_)
  ·
   have et := Y.1 ay; clear Y
   refine wp_skip ?_
   refine thn ?_
   refine wp_block ?_
   refine sqB L n [] [] [(13, i6 (w64 (a - 1)))] ?_; intro gG bX; clear L
   refine sqB bX n [] [] [(18, y6 (wu64 (b.tdiv 2)))] ?_; intro gH bY; clear bX
   refine sqH ?_; intro eu bZ
   refine bt bY n 6 [] [] [(74, i6 (w64 (a - 1))), (79, y6 (wu64 (b - (wu64 ((wu64 (b.tdiv 2)) * 2)))))] ?_; intro gI b0; clear bY
   obtain ⟨ev, ew⟩ := et
   obtain ⟨D, b1⟩ : ∃ q, ([48, 49, 50, 51, 52, 53, 54, 55, 56, 57, 97, 98, 99, 100, 101, 102, 103, 104, 105, 106, 107, 108, 109, 110, 111, 112, 113, 114, 115, 116, 117, 118, 119, 120, 121, 122] : List UInt8)[(wu64 (b - (wu64 ((wu64 (b.tdiv 2)) * 2)))).toNat]? = some q := ⟨_, List.getElem?_eq_getElem (by omega)⟩; have ex := ew D b1
   refine si b0 .u64 ev.1 b1 ?_; intro gJ b2; clear b0
   obtain ⟨ey, b3⟩ := ex
   refine ixA (g := c) b2 (w64 (a - 1)) 65 1 ey.1 (e := 5) (k := .i64) (nog rfl _) rfl (by kernel_rfl) rfl (by kernel_rfl) (by kernel_rfl) (by kernel_rfl) ?_; intro ez aa; clear b2
   refine so aa n 0 (T := t8) (xs := d) (w64 (a - 1)).toNat (D.toNat : Int) (u := y8 (D.toNat : Int)) (nog rfl _) rfl rfl (by kernel_rfl) rfl (by kernel_rfl) rfl (by kernel_rfl) (by first | omega | (simp only [List.length_set] at *; omega)) rfl ?_; intro eA b4; clear n
   have b5 : Fr 102 [] [⟨0, [], .slice none 0 0⟩, ⟨1, [], y6 b⟩, ⟨3, [], .bool u3⟩, ⟨4, [], .bool false⟩, ⟨10, [], .slice none 0 0⟩, ⟨11, [], str []⟩, ⟨12, [], pt c 0⟩, ⟨13, [], i6 (w64 (a - 1))⟩, ⟨17, [], y6 2⟩, ⟨18, [], y6 (wu64 (b.tdiv 2))⟩, ⟨68, [], .bool (decide (b ≥ 2))⟩, ⟨74, [], i6 (w64 (a - 1))⟩, ⟨79, [], y6 (wu64 (b - (wu64 ((wu64 (b.tdiv 2)) * 2))))⟩, ⟨80, [], y8 (D.toNat : Int)⟩, ⟨81, [], .pointer (some ⟨c, (w64 (a - 1)).toNat * 1, none⟩)⟩] ez := by (try simp only [List.length_set] at aa); (try simp only [List.length_set]); exact aa.reg
   clear aa
   have b6 : Mem w.heap.size [] w Z [.own t8 174 (sm c) 65 (d.set (w64 (a - 1)).toNat (D.toNat : Int))] Z eA := b4; clear b4
   refine nlH (bZ _ _ ?_); clear bZ eu
   refine rgB b5 b6 [] [] [(1, y6 (wu64 (b.tdiv 2)))] ?_; intro gK eB; clear b5
   refine ibn ?_
   refine rd ?_
   exact ⟨⟨wu64 (b.tdiv 2), w64 (a - 1), d.set (w64 (a - 1)).toNat (D.toNat : Int)⟩, b3.1, b3.2, (eB.reg).anyβ _ (by kernel_rfl), b6.keep (List.Sublist.cons_cons _ (List.Sublist.slnil))⟩
  have eC := Y.2 ay; clear Y
  refine wp_exit ?_
  refine thx ?_
  refine thx ?_
  refine ibx ?_
  refine thn ?_
  refine sqB L n [] [] [(13, i6 (w64 (a - 1)))] ?_; intro gL b7; clear L
  refine rgH ?_; intro eD b8
  refine bt b7 n 2 [] [] [(85, i6 (w64 (a - 1))), (86, y6 b)] ?_; intro gM b9; clear b7
  obtain ⟨eE, eF⟩ := eC
  obtain ⟨h, ca⟩ : ∃ q, ([48, 49, 50, 51, 52, 53, 54, 55, 56, 57, 97, 98, 99, 100, 101, 102, 103, 104, 105, 106, 107, 108, 109, 110, 111, 112, 113, 114, 115, 116, 117, 118, 119, 120, 121, 122] : List UInt8)[b.toNat]? = some q := ⟨_, List.getElem?_eq_getElem (by omega)⟩; have eG := eF h ca
  refine si b9 .u64 eE.1 ca ?_; intro gN cb; clear b9
  obtain ⟨eH, eI⟩ := eG
  refine ixA (g := c) cb (w64 (a - 1)) 65 1 eH.1 (e := 5) (k := .i64) (nog rfl _) rfl (by kernel_rfl) rfl (by kernel_rfl) (by kernel_rfl) (by kernel_rfl) ?_; intro eJ ab; clear cb
  refine so ab n 0 (T := t8) (xs := d) (w64 (a - 1)).toNat (h.toNat : Int) (u := y8 (h.toNat : Int)) (nog rfl _) rfl rfl (by kernel_rfl) rfl (by kernel_rfl) rfl (by kernel_rfl) (by first | omega | (simp only [List.length_set] at *; omega)) rfl ?_; intro eK cc; clear n
  have ce : Fr 102 [] [⟨0, [], .slice none 0 0⟩, ⟨1, [], y6 b⟩, ⟨3, [], .bool u3⟩, ⟨4, [], .bool false⟩, ⟨10, [], .slice none 0 0⟩, ⟨11, [], str []⟩, ⟨12, [], pt c 0⟩, ⟨13, [], i6 (w64 (a - 1))⟩, ⟨17, [], y6 2⟩, ⟨68, [], .bool (decide (b ≥ 2))⟩, ⟨85, [], i6 (w64 (a - 1))⟩, ⟨86, [], y6 b⟩, ⟨87, [], y8 (h.toNat : Int)⟩, ⟨88, [], .pointer (some ⟨c, (w64 (a - 1)).toNat * 1, none⟩)⟩] eJ := by (try simp only [List.length_set] at ab); (try simp only [List.length_set]); exact ab.reg
  clear ab
  have ac : Mem w.heap.size [] w Z [.own t8 174 (sm c) 65 (d.set (w64 (a - 1)).toNat (h.toNat : Int))] Z eK := cc; clear cc
  refine nlH (b8 _ _ ?_); clear b8 eD
  refine thn ?_
  refine wp_seq ?_
  refine sqB ce ac [] [] [(89, .bool u3)] ?_; intro gO az; clear ce
  refine cy az z ?_
  refine sqB az ac [] [] [(13, i6 (w64 ((w64 (a - 1)) - 1)))] ?_; intro gP cf; clear az
  refine rgH ?_; intro eL cg
  refine s1 cf 92 (i6 (w64 ((w64 (a - 1)) - 1))) ?_; intro gQ ch; clear cf
  obtain ⟨eM, eN⟩ := eI
  refine ixA (g := c) ch (w64 ((w64 (a - 1)) - 1)) 65 1 eM.1 (e := 5) (k := .i64) (nog rfl _) rfl (by kernel_rfl) rfl (by kernel_rfl) (by kernel_rfl) (by kernel_rfl) ?_; intro eO ad; clear ch
  refine so ad ac 0 (T := t8) (xs := d.set (w64 (a - 1)).toNat (h.toNat : Int)) (w64 ((w64 (a - 1)) - 1)).toNat 45 (u := y8 45) (nog rfl _) rfl rfl (by kernel_rfl) rfl (by kernel_rfl) rfl (by kernel_rfl) (by first | omega | (simp only [List.length_set] at *; omega)) rfl ?_; intro aA ci; clear ac
  have cj : Fr 102 [] [⟨0, [], .slice none 0 0⟩, ⟨1, [], y6 b⟩, ⟨3, [], .bool u3⟩, ⟨4, [], .bool false⟩, ⟨10, [], .slice none 0 0⟩, ⟨11, [], str []⟩, ⟨12, [], pt c 0⟩, ⟨13, [], i6 (w64 ((w64 (a - 1)) - 1))⟩, ⟨17, [], y6 2⟩, ⟨68, [], .bool (decide (b ≥ 2))⟩, ⟨85, [], i6 (w64 (a - 1))⟩, ⟨86, [], y6 b⟩, ⟨87, [], y8 (h.toNat : Int)⟩, ⟨88, [], .pointer (some ⟨c, (w64 (a - 1)).toNat * 1, none⟩)⟩, ⟨89, [], .bool u3⟩, ⟨92, [], i6 (w64 ((w64 (a - 1)) - 1))⟩, ⟨93, [], .pointer (some ⟨c, (w64 ((w64 (a - 1)) - 1)).toNat * 1, none⟩)⟩] eO := by (try simp only [List.length_set] at ad); (try simp only [List.length_set]); exact ad.reg
  clear ad
  have cl : Mem w.heap.size [] w Z [.own t8 174 (sm c) 65 ((d.set (w64 (a - 1)).toNat (h.toNat : Int)).set (w64 ((w64 (a - 1)) - 1)).toNat 45)] Z aA := ci; clear ci
  refine nlH (cg _ _ ?_); clear cg eL
  refine thn ?_
  refine wp_seq ?_
  refine sqB cj cl [] [] [(94, .bool false)] ?_; intro gR aB; clear cj
  refine cdF aB (by kernel_rfl) ?_
  refine wp_skip ?_
  refine thn ?_
  refine sqH ?_; intro eP cm
  refine s1 aB 99 (i6 (w64 ((w64 (a - 1)) - 1))) ?_; intro gS co; clear aB
  obtain ⟨cp, eQ⟩ := eN
  obtain ⟨aC, cq, cr, eR⟩ := cl.freeze 0 rfl
  replace hg5 := hg5.mono cq
  replace y := Fz.le.trans y cq
  have aD : Mem w.heap.size [] w Z [] aC aA := cr; clear cr
  refine slA co (T := t8) (xs := (d.set (w64 (a - 1)).toNat (h.toNat : Int)).set (w64 ((w64 (a - 1)) - 1)).toNat 45) eR 65 (w64 ((w64 (a - 1)) - 1)) cp.2 cp.1 (e := 5) (k := .i64) (nog rfl _) rfl (by kernel_rfl) rfl (by kernel_rfl) (by kernel_rfl) (by kernel_rfl) ?_; intro eS eT gT gU eU aE; clear co
  refine st aE (str (bstr (((d.set (w64 (a - 1)).toNat (h.toNat : Int)).set (w64 ((w64 (a - 1)) - 1)).toNat 45).drop (w64 ((w64 (a - 1)) - 1)).toNat))) (nog rfl _) rfl (by kernel_rfl) (bstr_op aE (g := []) (e := 5) (ao := eS) (cap := eT) (xs := (((d.set (w64 (a - 1)).toNat (h.toNat : Int)).set (w64 ((w64 (a - 1)) - 1)).toNat 45).drop (w64 ((w64 (a - 1)) - 1)).toNat)) rfl (by kernel_rfl) (by kernel_rfl) (by kernel_rfl) (by kernel_rfl) eU aD.fz rfl) ?_; intro gV cs; clear aE
  refine s1 cs 11 (str (bstr (((d.set (w64 (a - 1)).toNat (h.toNat : Int)).set (w64 ((w64 (a - 1)) - 1)).toNat 45).drop (w64 ((w64 (a - 1)) - 1)).toNat))) ?_; intro gW eV; clear cs
  refine nlH (cm _ _ ?_); clear cm eP
  refine wp_ret ?_
  have eW : Mem w.heap.size [] w Z [.own t8 5 none 0 ([] : List Int)] aC aA := aD.addNil t8 5 (by decide); clear aD
  refine ra2 eV (.tuple #[.slice none ([] : List Int).length 0, str (bstr (((d.set (w64 (a - 1)).toNat (h.toNat : Int)).set (w64 ((w64 (a - 1)) - 1)).toNat 45).drop (w64 ((w64 (a - 1)) - 1)).toNat))]) ?_
  exact ⟨(([] : List Int), bstr (((d.set (w64 (a - 1)).toNat (h.toNat : Int)).set (w64 ((w64 (a - 1)) - 1)).toNat 45).drop (w64 ((w64 (a - 1)) - 1)).toNat)), none, 0, aC, rfl, eQ, eW.keep (List.Sublist.cons_cons _ (List.Sublist.slnil))⟩
 have ae := hp.2 z; clear hp
 refine wp_skip ?_
 refine thn ?_
 refine wp_seq ?_
 refine sqH ?_; intro eX ct
 refine s1 G 33 (i6 2) ?_; intro gX cu; clear G
 refine fc cu p (isp2_fun 2 _ _ p.fz) ?_; intro gY gZ M B; clear cu p
 refine nlH (ct _ _ ?_); clear ct eX
 refine cd M (t := (isp2 2)) (by kernel_rfl) (fun aF => ?_) (fun aF => ?_)
 ·
  have eY := ae.1 aF; clear ae
  refine sqH ?_; intro eZ cv
  refine bt M B 2 [] [] [(36, y6 2)] ?_; intro g0 cw; clear M
  refine ck cw 145 #[y6 2] ?_
  refine (tz_walk 2 _ _ hg5 B.fz eY).mono ?_; rintro _ g1 ⟨j, rfl, e0, hb⟩; refine ⟨_, rfl, ?_⟩; intro g2 cx; have N := B.call hb; clear hb B cw
  refine bt cx N 2 [] [] [(14, y6 (wu64 j))] ?_; intro g3 cz; clear cx
  refine nlH (cv _ _ ?_); clear cv eZ
  refine sqB cz N [] [] [(15, y6 2)] ?_; intro g4 cA; clear cz
  refine sqB cA N [] [] [(16, y6 (wu64 (2 - 1)))] ?_; intro cB cC; clear cA
  refine wp_seq ?_
  refine wp_block ?_
  have cD : Fr 102 [] [⟨0, [], .slice none 0 0⟩, ⟨1, [], y6 u1⟩, ⟨3, [], .bool u3⟩, ⟨4, [], .bool false⟩, ⟨10, [], .slice none 0 0⟩, ⟨11, [], str []⟩, ⟨12, [], pt c 0⟩, ⟨13, [], i6 65⟩, ⟨14, [], y6 (wu64 j)⟩, ⟨15, [], y6 2⟩, ⟨16, [], y6 (wu64 (2 - 1))⟩] cB := cC.reg; clear cC
  have cE : Fr 102 [] [⟨0, [], .slice none 0 0⟩, ⟨1, [], y6 u1⟩, ⟨3, [], .bool u3⟩, ⟨4, [], .bool false⟩, ⟨10, [], .slice none 0 0⟩, ⟨11, [], str []⟩, ⟨12, [], pt c 0⟩, ⟨13, [], i6 65⟩, ⟨14, [], y6 (wu64 j)⟩, ⟨15, [], y6 2⟩, ⟨16, [], y6 (wu64 (2 - 1))⟩] cB := cD.reg; clear cD
  obtain ⟨e1, e2, e3, e4⟩ := e0
  refine lp (ι := Int × Int × (List Int)) (fun (s : Int × Int × (List Int)) => [⟨0, [], .slice none 0 0⟩, ⟨1, [], y6 s.1⟩, ⟨3, [], .bool u3⟩, ⟨4, [], .bool false⟩, ⟨10, [], .slice none 0 0⟩, ⟨11, [], str []⟩, ⟨12, [], pt c 0⟩, ⟨13, [], i6 s.2.1⟩, ⟨14, [], y6 (wu64 j)⟩, ⟨15, [], y6 2⟩, ⟨16, [], y6 (wu64 (2 - 1))⟩]) (fun (s : Int × Int × (List Int)) => [.own t8 174 (sm c) 65 s.2.2]) (fun (s : Int × Int × (List Int)) => Z) (fun (s : Int × Int × (List Int)) => e1 s.1 s.2.1 s.2.2) (fun (s : Int × Int × (List Int)) => e2 s.1 s.2.1 s.2.2) ⟨u1, 65, (List.replicate 65 (0 : Int))⟩ e3 (by exact cE.reg) (by exact N) ?_
  rintro ⟨b, a, d⟩ e5 e6 e7 cF cG
  have cH : Fr 102 [] [⟨0, [], .slice none 0 0⟩, ⟨1, [], y6 b⟩, ⟨3, [], .bool u3⟩, ⟨4, [], .bool false⟩, ⟨10, [], .slice none 0 0⟩, ⟨11, [], str []⟩, ⟨12, [], pt c 0⟩, ⟨13, [], i6 a⟩, ⟨14, [], y6 (wu64 j)⟩, ⟨15, [], y6 2⟩, ⟨16, [], y6 (wu64 (2 - 1))⟩] e6 := cF; clear cF cE
  have x : Mem w.heap.size [] w Z [.own t8 174 (sm c) 65 d] Z e7 := cG; clear cG N
  have af := e4 b a d e5
  refine wp_seq ?_
  refine sqB cH x [] [] [(46, .bool (decide (b ≥ 2)))] ?_; intro g5 O; clear cH
  refine cd O (t := decide (b ≥ 2)) (by kernel_rfl) (fun aG => ?_) (fun aG => ?_)
  ·
   have e8 := af.1 aG; clear af
   refine wp_skip ?_
   refine thn ?_
   refine wp_block ?_
   refine sqB O x [] [] [(13, i6 (w64 (a - 1)))] ?_; intro g6 cI; clear O
   refine sqH ?_; intro e9 cJ
   refine bt cI x 4 [] [] [(49, i6 (w64 (a - 1))), (52, y6 (bAnd .u64 b (wu64 (2 - 1))))] ?_; intro g7 cK; clear cI
   obtain ⟨fa, fb⟩ := e8
   obtain ⟨E, cL⟩ : ∃ q, ([48, 49, 50, 51, 52, 53, 54, 55, 56, 57, 97, 98, 99, 100, 101, 102, 103, 104, 105, 106, 107, 108, 109, 110, 111, 112, 113, 114, 115, 116, 117, 118, 119, 120, 121, 122] : List UInt8)[(bAnd .u64 b (wu64 (2 - 1))).toNat]? = some q := ⟨_, List.getElem?_eq_getElem (by omega)⟩; have fd := fb E cL
   refine si cK .u64 fa.1 cL ?_; intro g8 cM; clear cK
   obtain ⟨fe, ff⟩ := fd
   refine ixA (g := c) cM (w64 (a - 1)) 65 1 fe.1 (e := 5) (k := .i64) (nog rfl _) rfl (by kernel_rfl) rfl (by kernel_rfl) (by kernel_rfl) (by kernel_rfl) ?_; intro fg ag; clear cM
   refine so ag x 0 (T := t8) (xs := d) (w64 (a - 1)).toNat (E.toNat : Int) (u := y8 (E.toNat : Int)) (nog rfl _) rfl rfl (by kernel_rfl) rfl (by kernel_rfl) rfl (by kernel_rfl) (by first | omega | (simp only [List.length_set] at *; omega)) rfl ?_; intro fh cN; clear x
   have cO : Fr 102 [] [⟨0, [], .slice none 0 0⟩, ⟨1, [], y6 b⟩, ⟨3, [], .bool u3⟩, ⟨4, [], .bool false⟩, ⟨10, [], .slice none 0 0⟩, ⟨11, [], str []⟩, ⟨12, [], pt c 0⟩, ⟨13, [], i6 (w64 (a - 1))⟩, ⟨14, [], y6 (wu64 j)⟩, ⟨15, [], y6 2⟩, ⟨16, [], y6 (wu64 (2 - 1))⟩, ⟨46, [], .bool (decide (b ≥ 2))⟩, ⟨49, [], i6 (w64 (a - 1))⟩, ⟨52, [], y6 (bAnd .u64 b (wu64 (2 - 1)))⟩, ⟨53, [], y8 (E.toNat : Int)⟩, ⟨54, [], .pointer (some ⟨c, (w64 (a - 1)).toNat * 1, none⟩)⟩] fg := by (try simp only [List.length_set] at ag); (try simp only [List.length_set]); exact ag.reg
   clear ag
   have cP : Mem w.heap.size [] w Z [.own t8 174 (sm c) 65 (d.set (w64 (a - 1)).toNat (E.toNat : Int))] Z fh := cN; clear cN
   refine nlH (cJ _ _ ?_); clear cJ e9
   refine rgH ?_; intro fi cQ
   refine bt cO cP 2 [] [] [(55, y6 b), (56, y6 (wu64 j))] ?_; intro g9 aH; clear cO
   obtain ⟨fj, cR⟩ := ff
   refine st aH (y6 (bShr .u64 b (wu64 j))) (nog rfl _) rfl (by kernel_rfl) (shr_run aH (g := []) (k' := .u64) rfl (by kernel_rfl) (by kernel_rfl) fj rfl) ?_; intro ha cS; clear aH
   refine s1 cS 1 (y6 (bShr .u64 b (wu64 j))) ?_; intro hc fk; clear cS
   refine nlH (cQ _ _ ?_); clear cQ fi
   refine ibn ?_
   refine rd ?_
   exact ⟨⟨bShr .u64 b (wu64 j), w64 (a - 1), d.set (w64 (a - 1)).toNat (E.toNat : Int)⟩, cR.1, cR.2, (fk.reg).anyβ _ (by kernel_rfl), cP.keep (List.Sublist.cons_cons _ (List.Sublist.slnil))⟩
  have fl := af.2 aG; clear af
  refine wp_exit ?_
  refine thx ?_
  refine thx ?_
  refine ibx ?_
  refine thn ?_
  refine sqB O x [] [] [(13, i6 (w64 (a - 1)))] ?_; intro hd cT; clear O
  refine rgH ?_; intro fm cU
  refine bt cT x 2 [] [] [(60, i6 (w64 (a - 1))), (61, y6 b)] ?_; intro he cV; clear cT
  obtain ⟨fn, fo⟩ := fl
  obtain ⟨l, cW⟩ : ∃ q, ([48, 49, 50, 51, 52, 53, 54, 55, 56, 57, 97, 98, 99, 100, 101, 102, 103, 104, 105, 106, 107, 108, 109, 110, 111, 112, 113, 114, 115, 116, 117, 118, 119, 120, 121, 122] : List UInt8)[b.toNat]? = some q := ⟨_, List.getElem?_eq_getElem (by omega)⟩; have fp := fo l cW
  refine si cV .u64 fn.1 cW ?_; intro hf cX; clear cV
  obtain ⟨fq, fr⟩ := fp
  refine ixA (g := c) cX (w64 (a - 1)) 65 1 fq.1 (e := 5) (k := .i64) (nog rfl _) rfl (by kernel_rfl) rfl (by kernel_rfl) (by kernel_rfl) (by kernel_rfl) ?_; intro fs ah; clear cX
  refine so ah x 0 (T := t8) (xs := d) (w64 (a - 1)).toNat (l.toNat : Int) (u := y8 (l.toNat : Int)) (nog rfl _) rfl rfl (by kernel_rfl) rfl (by kernel_rfl) rfl (by kernel_rfl) (by first | omega | (simp only [List.length_set] at *; omega)) rfl ?_; intro aI cY; clear x
  have cZ : Fr 102 [] [⟨0, [], .slice none 0 0⟩, ⟨1, [], y6 b⟩, ⟨3, [], .bool u3⟩, ⟨4, [], .bool false⟩, ⟨10, [], .slice none 0 0⟩, ⟨11, [], str []⟩, ⟨12, [], pt c 0⟩, ⟨13, [], i6 (w64 (a - 1))⟩, ⟨14, [], y6 (wu64 j)⟩, ⟨15, [], y6 2⟩, ⟨16, [], y6 (wu64 (2 - 1))⟩, ⟨46, [], .bool (decide (b ≥ 2))⟩, ⟨60, [], i6 (w64 (a - 1))⟩, ⟨61, [], y6 b⟩, ⟨62, [], y8 (l.toNat : Int)⟩, ⟨63, [], .pointer (some ⟨c, (w64 (a - 1)).toNat * 1, none⟩)⟩] fs := by (try simp only [List.length_set] at ah); (try simp only [List.length_set]); exact ah.reg
  clear ah
  have aJ : Mem w.heap.size [] w Z [.own t8 174 (sm c) 65 (d.set (w64 (a - 1)).toNat (l.toNat : Int))] Z aI := cY; clear cY
  refine nlH (cU _ _ ?_); clear cU fm
  refine thn ?_
  refine wp_seq ?_
  refine sqB cZ aJ [] [] [(89, .bool u3)] ?_; intro hg aK; clear cZ
  refine cn aK z ?_
  refine wp_skip ?_
  refine thn ?_
  refine wp_seq ?_
  refine sqB aK aJ [] [] [(94, .bool false)] ?_; intro hh aL; clear aK
  refine cdF aL (by kernel_rfl) ?_
  refine wp_skip ?_
  refine thn ?_
  refine sqH ?_; intro ft c0
  refine s1 aL 99 (i6 (w64 (a - 1))) ?_; intro hi c1; clear aL
  obtain ⟨c2, fu⟩ := fr
  obtain ⟨aM, c3, c4, fv⟩ := aJ.freeze 0 rfl
  replace hg5 := hg5.mono c3
  replace y := Fz.le.trans y c3
  have aN : Mem w.heap.size [] w Z [] aM aI := c4; clear c4
  refine slA c1 (T := t8) (xs := d.set (w64 (a - 1)).toNat (l.toNat : Int)) fv 65 (w64 (a - 1)) c2.2 c2.1 (e := 5) (k := .i64) (nog rfl _) rfl (by kernel_rfl) rfl (by kernel_rfl) (by kernel_rfl) (by kernel_rfl) ?_; intro fw fx hj hk fy aO; clear c1
  refine st aO (str (bstr ((d.set (w64 (a - 1)).toNat (l.toNat : Int)).drop (w64 (a - 1)).toNat))) (nog rfl _) rfl (by kernel_rfl) (bstr_op aO (g := []) (e := 5) (ao := fw) (cap := fx) (xs := ((d.set (w64 (a - 1)).toNat (l.toNat : Int)).drop (w64 (a - 1)).toNat)) rfl (by kernel_rfl) (by kernel_rfl) (by kernel_rfl) (by kernel_rfl) fy aN.fz rfl) ?_; intro hl c5; clear aO
  refine s1 c5 11 (str (bstr ((d.set (w64 (a - 1)).toNat (l.toNat : Int)).drop (w64 (a - 1)).toNat))) ?_; intro hm fA; clear c5
  refine nlH (c0 _ _ ?_); clear c0 ft
  refine wp_ret ?_
  have fB : Mem w.heap.size [] w Z [.own t8 5 none 0 ([] : List Int)] aM aI := aN.addNil t8 5 (by decide); clear aN
  refine ra2 fA (.tuple #[.slice none ([] : List Int).length 0, str (bstr ((d.set (w64 (a - 1)).toNat (l.toNat : Int)).drop (w64 (a - 1)).toNat))]) ?_
  exact ⟨(([] : List Int), bstr ((d.set (w64 (a - 1)).toNat (l.toNat : Int)).drop (w64 (a - 1)).toNat)), none, 0, aM, rfl, fu, fB.keep (List.Sublist.cons_cons _ (List.Sublist.slnil))⟩
 have fC := ae.2 aF; clear ae
 refine sqB M B [] [] [(17, y6 2)] ?_; intro c6 c7; clear M
 refine wp_seq ?_
 refine wp_block ?_
 have c8 : Fr 102 [] [⟨0, [], .slice none 0 0⟩, ⟨1, [], y6 u1⟩, ⟨3, [], .bool u3⟩, ⟨4, [], .bool false⟩, ⟨10, [], .slice none 0 0⟩, ⟨11, [], str []⟩, ⟨12, [], pt c 0⟩, ⟨13, [], i6 65⟩, ⟨17, [], y6 2⟩] c6 := c7.reg; clear c7
 have c9 : Fr 102 [] [⟨0, [], .slice none 0 0⟩, ⟨1, [], y6 u1⟩, ⟨3, [], .bool u3⟩, ⟨4, [], .bool false⟩, ⟨10, [], .slice none 0 0⟩, ⟨11, [], str []⟩, ⟨12, [], pt c 0⟩, ⟨13, [], i6 65⟩, ⟨17, [], y6 2⟩] c6 := c8.reg; clear c8
 obtain ⟨fD, fE, fF, fG⟩ := fC
 refine lp (ι := Int × Int × (List Int)) (fun (s : Int × Int × (List Int)) => [⟨0, [], .slice none 0 0⟩, ⟨1, [], y6 s.1⟩, ⟨3, [], .bool u3⟩, ⟨4, [], .bool false⟩, ⟨10, [], .slice none 0 0⟩, ⟨11, [], str []⟩, ⟨12, [], pt c 0⟩, ⟨13, [], i6 s.2.1⟩, ⟨17, [], y6 2⟩]) (fun (s : Int × Int × (List Int)) => [.own t8 174 (sm c) 65 s.2.2]) (fun (s : Int × Int × (List Int)) => Z) (fun (s : Int × Int × (List Int)) => fD s.1 s.2.1 s.2.2) (fun (s : Int × Int × (List Int)) => fE s.1 s.2.1 s.2.2) ⟨u1, 65, (List.replicate 65 (0 : Int))⟩ fF (by exact c9.reg) (by exact B) ?_
 rintro ⟨b, a, d⟩ fH fI fJ da db
 have dc : Fr 102 [] [⟨0, [], .slice none 0 0⟩, ⟨1, [], y6 b⟩, ⟨3, [], .bool u3⟩, ⟨4, [], .bool false⟩, ⟨10, [], .slice none 0 0⟩, ⟨11, [], str []⟩, ⟨12, [], pt c 0⟩, ⟨13, [], i6 a⟩, ⟨17, [], y6 2⟩] fI := da; clear da c9
 have o : Mem w.heap.size [] w Z [.own t8 174 (sm c) 65 d] Z fJ := db; clear db B
 have ai := fG b a d fH
 refine wp_seq ?_
 refine sqB dc o [] [] [(68, .bool (decide (b ≥ 2)))] ?_; intro hn P; clear dc
 refine cd P (t := decide (b ≥ 2)) (by kernel_rfl) (fun aP => ?_) (fun aP => ?_)
 ·
  have fK := ai.1 aP; clear ai
  refine wp_skip ?_
  refine thn ?_
  refine wp_block ?_
  refine sqB P o [] [] [(13, i6 (w64 (a - 1)))] ?_; intro ho dd; clear P
  refine sqB dd o [] [] [(18, y6 (wu64 (b.tdiv 2)))] ?_; intro hq de; clear dd
  refine sqH ?_; intro fL df
  refine bt de o 6 [] [] [(74, i6 (w64 (a - 1))), (79, y6 (wu64 (b - (wu64 ((wu64 (b.tdiv 2)) * 2)))))] ?_; intro hr dg; clear de
  obtain ⟨fM, fN⟩ := fK
  obtain ⟨F, dh⟩ : ∃ q, ([48, 49, 50, 51, 52, 53, 54, 55, 56, 57, 97, 98, 99, 100, 101, 102, 103, 104, 105, 106, 107, 108, 109, 110, 111, 112, 113, 114, 115, 116, 117, 118, 119, 120, 121, 122] : List UInt8)[(wu64 (b - (wu64 ((wu64 (b.tdiv 2)) * 2)))).toNat]? = some q := ⟨_, List.getElem?_eq_getElem (by omega)⟩; have fO := fN F dh
  refine si dg .u64 fM.1 dh ?_; intro hs di; clear dg
  obtain ⟨fP, dj⟩ := fO
  refine ixA (g := c) di (w64 (a - 1)) 65 1 fP.1 (e := 5) (k := .i64) (nog rfl _) rfl (by kernel_rfl) rfl (by kernel_rfl) (by kernel_rfl) (by kernel_rfl) ?_; intro fQ aj; clear di
  refine so aj o 0 (T := t8) (xs := d) (w64 (a - 1)).toNat (F.toNat : Int) (u := y8 (F.toNat : Int)) (nog rfl _) rfl rfl (by kernel_rfl) rfl (by kernel_rfl) rfl (by kernel_rfl) (by first | omega | (simp only [List.length_set] at *; omega)) rfl ?_; intro fR dk; clear o
  have dl : Fr 102 [] [⟨0, [], .slice none 0 0⟩, ⟨1, [], y6 b⟩, ⟨3, [], .bool u3⟩, ⟨4, [], .bool false⟩, ⟨10, [], .slice none 0 0⟩, ⟨11, [], str []⟩, ⟨12, [], pt c 0⟩, ⟨13, [], i6 (w64 (a - 1))⟩, ⟨17, [], y6 2⟩, ⟨18, [], y6 (wu64 (b.tdiv 2))⟩, ⟨68, [], .bool (decide (b ≥ 2))⟩, ⟨74, [], i6 (w64 (a - 1))⟩, ⟨79, [], y6 (wu64 (b - (wu64 ((wu64 (b.tdiv 2)) * 2))))⟩, ⟨80, [], y8 (F.toNat : Int)⟩, ⟨81, [], .pointer (some ⟨c, (w64 (a - 1)).toNat * 1, none⟩)⟩] fQ := by (try simp only [List.length_set] at aj); (try simp only [List.length_set]); exact aj.reg
  clear aj
  have dm : Mem w.heap.size [] w Z [.own t8 174 (sm c) 65 (d.set (w64 (a - 1)).toNat (F.toNat : Int))] Z fR := dk; clear dk
  refine nlH (df _ _ ?_); clear df fL
  refine rgB dl dm [] [] [(1, y6 (wu64 (b.tdiv 2)))] ?_; intro ht fS; clear dl
  refine ibn ?_
  refine rd ?_
  exact ⟨⟨wu64 (b.tdiv 2), w64 (a - 1), d.set (w64 (a - 1)).toNat (F.toNat : Int)⟩, dj.1, dj.2, (fS.reg).anyβ _ (by kernel_rfl), dm.keep (List.Sublist.cons_cons _ (List.Sublist.slnil))⟩
 have fT := ai.2 aP; clear ai
 refine wp_exit ?_
 refine thx ?_
 refine thx ?_
 refine ibx ?_
 refine thn ?_
 refine sqB P o [] [] [(13, i6 (w64 (a - 1)))] ?_; intro hu dn; clear P
 refine rgH ?_; intro fU dp
 refine bt dn o 2 [] [] [(85, i6 (w64 (a - 1))), (86, y6 b)] ?_; intro hv dq; clear dn
 obtain ⟨fV, fW⟩ := fT
 obtain ⟨m, dr⟩ : ∃ q, ([48, 49, 50, 51, 52, 53, 54, 55, 56, 57, 97, 98, 99, 100, 101, 102, 103, 104, 105, 106, 107, 108, 109, 110, 111, 112, 113, 114, 115, 116, 117, 118, 119, 120, 121, 122] : List UInt8)[b.toNat]? = some q := ⟨_, List.getElem?_eq_getElem (by omega)⟩; have fX := fW m dr
 refine si dq .u64 fV.1 dr ?_; intro hw ds; clear dq
 obtain ⟨fY, fZ⟩ := fX
 refine ixA (g := c) ds (w64 (a - 1)) 65 1 fY.1 (e := 5) (k := .i64) (nog rfl _) rfl (by kernel_rfl) rfl (by kernel_rfl) (by kernel_rfl) (by kernel_rfl) ?_; intro f0 ak; clear ds
 refine so ak o 0 (T := t8) (xs := d) (w64 (a - 1)).toNat (m.toNat : Int) (u := y8 (m.toNat : Int)) (nog rfl _) rfl rfl (by kernel_rfl) rfl (by kernel_rfl) rfl (by kernel_rfl) (by first | omega | (simp only [List.length_set] at *; omega)) rfl ?_; intro aQ dt; clear o
 have du : Fr 102 [] [⟨0, [], .slice none 0 0⟩, ⟨1, [], y6 b⟩, ⟨3, [], .bool u3⟩, ⟨4, [], .bool false⟩, ⟨10, [], .slice none 0 0⟩, ⟨11, [], str []⟩, ⟨12, [], pt c 0⟩, ⟨13, [], i6 (w64 (a - 1))⟩, ⟨17, [], y6 2⟩, ⟨68, [], .bool (decide (b ≥ 2))⟩, ⟨85, [], i6 (w64 (a - 1))⟩, ⟨86, [], y6 b⟩, ⟨87, [], y8 (m.toNat : Int)⟩, ⟨88, [], .pointer (some ⟨c, (w64 (a - 1)).toNat * 1, none⟩)⟩] f0 := by (try simp only [List.length_set] at ak); (try simp only [List.length_set]); exact ak.reg
 clear ak
 have aR : Mem w.heap.size [] w Z [.own t8 174 (sm c) 65 (d.set (w64 (a - 1)).toNat (m.toNat : Int))] Z aQ := dt; clear dt
 refine nlH (dp _ _ ?_); clear dp fU
 refine thn ?_
 refine wp_seq ?_
 refine sqB du aR [] [] [(89, .bool u3)] ?_; intro hx aS; clear du
 refine cn aS z ?_
 refine wp_skip ?_
 refine thn ?_
 refine wp_seq ?_
 refine sqB aS aR [] [] [(94, .bool false)] ?_; intro hy aT; clear aS
 refine cdF aT (by kernel_rfl) ?_
 refine wp_skip ?_
 refine thn ?_
 refine sqH ?_; intro f1 dv
 refine s1 aT 99 (i6 (w64 (a - 1))) ?_; intro hz dw; clear aT
 obtain ⟨dx, f2⟩ := fZ
 obtain ⟨aU, dy, dz, f3⟩ := aR.freeze 0 rfl
 replace hg5 := hg5.mono dy
 replace y := Fz.le.trans y dy
 have aV : Mem w.heap.size [] w Z [] aU aQ := dz; clear dz
 refine slA dw (T := t8) (xs := d.set (w64 (a - 1)).toNat (m.toNat : Int)) f3 65 (w64 (a - 1)) dx.2 dx.1 (e := 5) (k := .i64) (nog rfl _) rfl (by kernel_rfl) rfl (by kernel_rfl) (by kernel_rfl) (by kernel_rfl) ?_; intro f4 f5 hA hB f6 aW; clear dw
 refine st aW (str (bstr ((d.set (w64 (a - 1)).toNat (m.toNat : Int)).drop (w64 (a - 1)).toNat))) (nog rfl _) rfl (by kernel_rfl) (bstr_op aW (g := []) (e := 5) (ao := f4) (cap := f5) (xs := ((d.set (w64 (a - 1)).toNat (m.toNat : Int)).drop (w64 (a - 1)).toNat)) rfl (by kernel_rfl) (by kernel_rfl) (by kernel_rfl) (by kernel_rfl) f6 aV.fz rfl) ?_; intro hC dA; clear aW
 refine s1 dA 11 (str (bstr ((d.set (w64 (a - 1)).toNat (m.toNat : Int)).drop (w64 (a - 1)).toNat))) ?_; intro hD f7; clear dA
 refine nlH (dv _ _ ?_); clear dv f1
 refine wp_ret ?_
 have f8 : Mem w.heap.size [] w Z [.own t8 5 none 0 ([] : List Int)] aU aQ := aV.addNil t8 5 (by decide); clear aV
 refine ra2 f7 (.tuple #[.slice none ([] : List Int).length 0, str (bstr ((d.set (w64 (a - 1)).toNat (m.toNat : Int)).drop (w64 (a - 1)).toNat))]) ?_
 exact ⟨(([] : List Int), bstr ((d.set (w64 (a - 1)).toNat (m.toNat : Int)).drop (w64 (a - 1)).toNat)), none, 0, aU, rfl, f2, f8.keep (List.Sublist.cons_cons _ (List.Sublist.slnil))⟩

end Go.Proofs.YtmbdcehmeiiaoaaGreatDoor
set_option linter.unusedVariables false
set_option linter.unusedSimpArgs false
set_option maxRecDepth 100000
set_option maxHeartbeats 0
namespace Go.Proofs.YtmbdcehmeiiaoaaGreatDoor
open Go.Sy Go.RowKit
theorem fbits_fun (u1 : Int) (u3 : Bool) (hpre : u3 = false ∧ 0 ≤ u1 ∧ u1 ≤ 9223372036854775807)  (Z : Fz) (w : World) (hg5 : SlR t8 Z (sm 5) 64 deBruijn64) (hZ : Z.on w) : Calls Tryz.prog 131 #[.slice none 0 0, y6 u1, i6 2, .bool u3, .bool false] w fun e w' => ∃ (ao1001 : Option Addr) (cap1002 : Nat) (Z' : Fz), e = .returned (.tuple #[.slice ao1001 (fbitsS u1 u3).1.length cap1002, str (fbitsS u1 u3).2]) ∧ Mem w.heap.size [] w Z [.own t8 5 ao1001 cap1002 (fbitsS u1 u3).1] Z' w' :=
  (fbits_walk u1 u3  Z w hg5 hZ (fbits_ok u1 u3 hpre)).mono fun _ _ ⟨r, h0, h1, h2, he, hk, hm⟩ => by subst hk; exact ⟨h0, h1, h2, he, hm⟩

theorem fint0_walk (u0 : Int)  (Z : Fz) (w : World) (hg5 : SlR t8 Z (sm 5) 64 deBruijn64) (hZ : Z.on w) {K : (List UInt8) → Prop} (hp : fint0_vc u0 K) : Calls Tryz.prog 110 #[i6 u0, i6 2] w fun e w' => ∃ r : (List UInt8), e = .returned (str r) ∧ K r ∧ Below w.heap.size w w' := by
 refine enter0 Tryz.func110 rfl rfl (by kernel_rfl) ?_; intro y d; have a := Mem.start w Z hZ; have f := Fz.le.refl Z
 refine sqB d a [] [] [] ?_; intro z g; clear d
 refine wp_seq ?_
 refine sqB g a [] [] [(11, .bool false)] ?_; intro A c; clear g
 refine cdF c (by kernel_rfl) ?_
 refine wp_skip ?_
 refine thn ?_
 refine sqH ?_; intro o h
 refine bt c a 5 [] [] [(46, y6 (wu64 u0)), (47, i6 2), (49, .bool (decide (u0 < 0)))] ?_; intro B i; clear c
 obtain ⟨p, j⟩ := hp
 refine ck i 131 #[.slice none 0 0, y6 (wu64 u0), i6 2, .bool (decide (u0 < 0)), .bool false] ?_
 refine (fbits_fun (wu64 u0) (decide (u0 < 0)) p _ _ hg5 a.fz).mono ?_; rintro _ q ⟨s, t, u, rfl, hm⟩; refine ⟨_, rfl, ?_⟩; intro C k; have l := a.callZ hm; have m := hm.ext.le; clear hm a i
 replace hg5 := hg5.mono m
 replace f := Fz.le.trans f m
 have b : Mem w.heap.size [] w Z [.own t8 5 s t ((fbitsS (wu64 u0) (decide (u0 < 0))).1)] u q := l; clear l
 have v := j (b.ownSmall 0 rfl); clear j
 refine bt k b 5 [] [] [(9, str ((fbitsS (wu64 u0) (decide (u0 < 0))).2))] ?_; intro D n; clear k
 refine nlH (h _ _ ?_); clear h o
 refine sqB n b [] [] [(4, str ((fbitsS (wu64 u0) (decide (u0 < 0))).2))] ?_; intro E x; clear n
 refine wp_ret ?_
 refine ra1 x (str ((fbitsS (wu64 u0) (decide (u0 < 0))).2)) ?_
 exact ⟨(fbitsS (wu64 u0) (decide (u0 < 0))).2, rfl, v, b.below⟩

end Go.Proofs.YtmbdcehmeiiaoaaGreatDoor
set_option linter.unusedVariables false
set_option linter.unusedSimpArgs false
set_option maxRecDepth 100000
set_option maxHeartbeats 0
namespace Go.Proofs.YtmbdcehmeiiaoaaGreatDoor
open Go.Sy Go.RowKit
theorem fint0_fun (u0 : Int) (hpre : 0 ≤ u0 ∧ u0 ≤ 9223372036854775807)  (Z : Fz) (w : World) (hg5 : SlR t8 Z (sm 5) 64 deBruijn64) (hZ : Z.on w) : Calls Tryz.prog 110 #[i6 u0, i6 2] w fun e w' => e = .returned (str (fintS u0)) ∧ Below w.heap.size w w' :=
  (fint0_walk u0  Z w hg5 hZ (fint_ok u0 hpre)).mono fun _ _ ⟨r, he, hk, hb⟩ => ⟨by subst hk; exact he, hb⟩

theorem fint1_walk (u0 : Int)  (Z : Fz) (w : World) (hg5 : SlR t8 Z (sm 5) 64 deBruijn64) (hZ : Z.on w) {K : (List UInt8) → Prop} (hp : fint1_vc u0 K) : Calls Tryz.prog 88 #[i6 u0, i6 2] w fun e w' => ∃ r : (List UInt8), e = .returned (str r) ∧ K r ∧ Below w.heap.size w w' := by
 refine enter0 Tryz.func88 rfl rfl (by kernel_rfl) ?_; intro m b; have a := Mem.start w Z hZ; have n := Fz.le.refl Z
 refine sqB b a [] [] [] ?_; intro o c; clear b
 refine sqH ?_; intro h d
 refine bt c a 2 [] [] [(5, i6 u0), (6, i6 2)] ?_; intro p f; clear c
 obtain ⟨i, j⟩ := hp
 refine fc f a (fint0_fun u0 i _ _ hg5 a.fz) ?_; intro q s g k; clear f a
 refine s1 g 4 (str (fintS u0)) ?_; intro t l; clear g
 refine nlH (d _ _ ?_); clear d h
 refine wp_ret ?_
 refine ra1 l (str (fintS u0)) ?_
 exact ⟨(fintS u0), rfl, j, k.below⟩

theorem rrow_walk (u0 : Int) (u1 : Int)  (Z : Fz) (w : World) (hg5 : SlR t8 Z (sm 5) 64 deBruijn64) (hZ : Z.on w) {K : ((List UInt8) × Bool) → Prop} (hp : rrow_vc u0 u1 K) : Calls Tryz.prog 59 #[i6 u0, i6 u1] w fun e w' => ∃ r : (List UInt8) × Bool, e = .returned (.tuple #[str r.1, .bool r.2]) ∧ K r ∧ Below w.heap.size w w' := by
 refine enter0 Tryz.func59 rfl rfl (by kernel_rfl) ?_; intro a0 m; have a := Mem.start w Z hZ; have ae := Fz.le.refl Z
 refine sqB m a [] [] [] ?_; intro a4 n; clear m
 refine sqB n a [] [] [(6, str [])] ?_; intro a7 o; clear n
 refine wp_seq ?_
 refine sqB o a [] [] [(8, .bool (decide (u0 > 0)))] ?_; intro af d; clear o
 refine cd d (t := decide (u0 > 0)) (by kernel_rfl) (fun j => ?_) (fun j => ?_)
 · -- yes
  have I := hp.1 j; clear hp
  refine rgH ?_; intro J p
  refine s1 d 9 (i6 u0) ?_; intro ag q; clear d
  refine ck q 88 #[i6 u0, i6 2] ?_
  refine (fint1_walk u0 _ _ hg5 a.fz I).mono ?_; rintro _ ah ⟨b, rfl, h, hb⟩; refine ⟨_, rfl, ?_⟩; intro ai s; have c := a.call hb; clear hb a q
  refine s1 s 6 (str b) ?_; intro aj u; clear s
  refine nlH (p _ _ ?_); clear p J
  refine thn ?_
  refine wp_seq ?_
  refine sqB u c [] [] [(14, .bool (decide ((b.length : Int) > u1)))] ?_; intro ak f; clear u
  refine cd f (t := decide ((b.length : Int) > u1)) (by kernel_rfl) (fun k => ?_) (fun k => ?_)
  · -- yes
   have L := h.1 k; clear h
   refine sqB f c [] [] [(4, str []), (5, .bool false)] ?_; intro al M; clear f
   refine wp_ret ?_
   refine thr ?_
   refine ra2 M (.tuple #[str [], .bool false]) ?_
   exact ⟨([], false), rfl, L, c.below⟩
  · -- no
   have N := h.2 k; clear h
   refine wp_skip ?_
   refine thn ?_
   refine sqH ?_; intro O v
   refine bt f c 4 [] [] [(18, i6 (w64 (u1 - (b.length : Int))))] ?_; intro am x; clear f
   obtain ⟨P, Q⟩ := N
   refine fc x c (srep_fun ([48] : List UInt8) (w64 (u1 - (b.length : Int))) P _ _ c.fz) ?_; intro an ao y z; clear x c
   refine s1 y 20 (str b) ?_; intro ap A; clear y
   obtain ⟨R, S⟩ := Q
   refine sa A R ?_; intro aq B; clear A
   refine bt B z 2 [] [] [(4, str ((srepS ([48] : List UInt8) (w64 (u1 - (b.length : Int)))) ++ b)), (5, .bool true)] ?_; intro ar T; clear B
   refine nlH (v _ _ ?_); clear v O
   refine wp_ret ?_
   refine ra2 T (.tuple #[str ((srepS ([48] : List UInt8) (w64 (u1 - (b.length : Int)))) ++ b), .bool true]) ?_
   exact ⟨((srepS ([48] : List UInt8) (w64 (u1 - (b.length : Int)))) ++ b, true), rfl, S, z.below⟩
 · -- no
  have i := hp.2 j; clear hp
  refine wp_skip ?_
  refine thn ?_
  refine wp_seq ?_
  refine sqB d a [] [] [(14, .bool (decide (0 > u1)))] ?_; intro au g; clear d
  refine cd g (t := decide (0 > u1)) (by kernel_rfl) (fun l => ?_) (fun l => ?_)
  · -- yes
   have U := i.1 l; clear i
   refine sqB g a [] [] [(4, str []), (5, .bool false)] ?_; intro av V; clear g
   refine wp_ret ?_
   refine thr ?_
   refine ra2 V (.tuple #[str [], .bool false]) ?_
   exact ⟨([], false), rfl, U, a.below⟩
  · -- no
   have W := i.2 l; clear i
   refine wp_skip ?_
   refine thn ?_
   refine sqH ?_; intro X C
   refine bt g a 4 [] [] [(18, i6 (w64 (u1 - 0)))] ?_; intro aw D; clear g
   obtain ⟨Y, aa⟩ := W
   refine fc D a (srep_fun ([48] : List UInt8) (w64 (u1 - 0)) Y _ _ a.fz) ?_; intro ax ay E F; clear D a
   refine s1 E 20 (str []) ?_; intro az G; clear E
   obtain ⟨ab, ac⟩ := aa
   refine sa G ab ?_; intro aA H; clear G
   refine bt H F 2 [] [] [(4, str ((srepS ([48] : List UInt8) (w64 (u1 - 0))) ++ ([] : List UInt8))), (5, .bool true)] ?_; intro aB ad; clear H
   refine nlH (C _ _ ?_); clear C X
   refine wp_ret ?_
   refine ra2 ad (.tuple #[str ((srepS ([48] : List UInt8) (w64 (u1 - 0))) ++ ([] : List UInt8)), .bool true]) ?_
   exact ⟨((srepS ([48] : List UInt8) (w64 (u1 - 0))) ++ ([] : List UInt8), true), rfl, ac, F.below⟩

end Go.Proofs.YtmbdcehmeiiaoaaGreatDoor
set_option linter.unusedVariables false
set_option linter.unusedSimpArgs false
namespace Go.Proofs.YtmbdcehmeiiaoaaGreatDoor
open Go.Sy Go.RowKit
theorem rrow_fun (u0 : Int) (u1 : Int) (hpre : u0 ≤ 9223372036854775807 ∧ u1 ≤ 1000000)  (Z : Fz) (w : World) (hg5 : SlR t8 Z (sm 5) 64 deBruijn64) (hZ : Z.on w) : Calls Tryz.prog 59 #[i6 u0, i6 u1] w fun e w' => e = .returned (.tuple #[str ((rrowS u0 u1).1), .bool ((rrowS u0 u1).2)]) ∧ Below w.heap.size w w' :=
  (rrow_walk u0 u1  Z w hg5 hZ (rrow_ok u0 u1 hpre)).mono fun _ _ ⟨r, he, hk, hb⟩ => ⟨by subst hk; exact he, hb⟩

end Go.Proofs.YtmbdcehmeiiaoaaGreatDoor
set_option linter.unusedVariables false
set_option linter.unusedSimpArgs false
set_option maxRecDepth 100000
set_option maxHeartbeats 0
namespace Go.Proofs.YtmbdcehmeiiaoaaGreatDoor
open Go.Sy Go.RowKit
theorem gnew_fun (u0 : Int) (hpre : 0 ≤ u0 ∧ u0 ≤ 9223372036854775807)  (Z : Fz) (w : World)  (hZ : Z.on w) : Calls Tryz.prog 81 #[i6 u0] w fun e w' => ∃ (b1001 : Nat) (ao1002 : Option Addr) (cap1003 : Nat) (Z' : Fz), e = .returned (pt b1001 0) ∧ SlR (tyInt .u32) Z' ao1002 cap1003 (gnewS u0).abs ∧ Mem w.heap.size [] w Z [.row b1001 [.bool (gnewS u0).neg, .slice ao1002 (gnewS u0).abs.length cap1003] 117] Z' w' :=
  (gnew_walk u0  Z w  hZ (gnew_ok u0 hpre)).mono fun _ _ ⟨r, h0, h1, h2, h3, he, hk, f0, hm⟩ => by subst hk; exact ⟨h0, h1, h2, h3, he, f0, hm⟩

theorem rvalue_fun (u0 : List UInt8) (hpre : isRow u0 = true ∧ u0.length ≤ 1000)  (Z : Fz) (w : World)  (hZ : Z.on w) : Calls Tryz.prog 79 #[str u0] w fun e w' => ∃ (b1001 : Nat) (ao1002 : Option Addr) (cap1003 : Nat) (Z' : Fz), e = .returned (pt b1001 0) ∧ SlR (tyInt .u32) Z' ao1002 cap1003 (rvalueS u0).abs ∧ Mem w.heap.size [] w Z [.row b1001 [.bool (rvalueS u0).neg, .slice ao1002 (rvalueS u0).abs.length cap1003] 117] Z' w' :=
  (rvalue_walk u0  Z w  hZ (rvalue_ok u0 hpre)).mono fun _ _ ⟨r, h0, h1, h2, h3, he, hk, f0, hm⟩ => by subst hk; exact ⟨h0, h1, h2, h3, he, f0, hm⟩

theorem rsumof_walk (u0 : Int) (u1 : List UInt8)  (Z : Fz) (w : World) (hg5 : SlR t8 Z (sm 5) 64 deBruijn64) (hZ : Z.on w) {K : (List UInt8) → Prop} (hp : rsumof_vc u0 u1 K) : Calls Tryz.prog 49 #[i6 u0, str u1] w fun e w' => ∃ r : (List UInt8), e = .returned (str r) ∧ K r ∧ Below w.heap.size w w' := by
 refine enter0 Tryz.func49 rfl rfl (by kernel_rfl) ?_; intro a0 b7; have bH := Mem.start w Z hZ; have c := Fz.le.refl Z
 refine sqB b7 bH [] [] [] ?_; intro a2 b8; clear b7
 refine sqH ?_; intro eK b9
 refine nw b8 bH (fun b => .slice (sm b) 5 5) [i6 15, i6 17, i6 21, i6 8, i6 16] 3 ?_; intro b5 a6 ca cb cc; clear b8 bH
 refine s1 cb 15 (i6 u0) ?_; intro gX ce; clear cb
 have eL : Mem w.heap.size [] w Z [.own t6 3 (sm b5) 5 ([15, 17, 21, 8, 16] : List Int)] Z ca := cc.rowOwn (T := t6) (xs := ([15, 17, 21, 8, 16] : List Int)) 0 rfl (by decide) (by show 5 ≤ lim; decide) ((RepAll.one (T := t6) (x := 15) rfl).append ((RepAll.one (T := t6) (x := 17) rfl).append ((RepAll.one (T := t6) (x := 21) rfl).append ((RepAll.one (T := t6) (x := 8) rfl).append (RepAll.one (T := t6) (x := 16) rfl))))); clear cc
 obtain ⟨cf, cg, ch, o⟩ := eL.freeze 0 rfl
 replace hg5 := hg5.mono cg
 replace c := Fz.le.trans c cg
 have bI : Mem w.heap.size [] w Z [] cf ca := ch; clear ch
 obtain ⟨eM, ci⟩ := hp
 refine ix ce (T := t6) (xs := ([15, 17, 21, 8, 16] : List Int)) o u0 eM (k := .i64) (e := 3) (bytes := 8) (nog rfl _) rfl (by kernel_rfl) rfl (by kernel_rfl) (by kernel_rfl) (by kernel_rfl) ?_; intro gY gZ eN g g0 eO p eP cj; clear ce
 have eQ := ci g eO; clear ci
 obtain rfl : eN = ([i6 g] : List Value) := eP
 refine z1 cj bI 17 p 0 (i6 g) rfl ?_; intro g1 cl; clear cj
 refine s1 cl 5 (i6 g) ?_; intro g2 cm; clear cl
 refine nlH (b9 _ _ ?_); clear b9 eK
 refine sqH ?_; intro eR cn
 refine nw cm bI (fun b => .slice (sm b) 5 5) [i6 17817, i6 92251, i6 1058969, i6 47, i6 4129] 2 ?_; intro eS g3 co cp cq; clear cm bI
 refine s1 cp 19 (i6 u0) ?_; intro g4 cr; clear cp
 have eT : Mem w.heap.size [] w Z [.own t6 2 (sm eS) 5 ([17817, 92251, 1058969, 47, 4129] : List Int)] cf co := cq.rowOwn (T := t6) (xs := ([17817, 92251, 1058969, 47, 4129] : List Int)) 0 rfl (by decide) (by show 5 ≤ lim; decide) ((RepAll.one (T := t6) (x := 17817) rfl).append ((RepAll.one (T := t6) (x := 92251) rfl).append ((RepAll.one (T := t6) (x := 1058969) rfl).append ((RepAll.one (T := t6) (x := 47) rfl).append (RepAll.one (T := t6) (x := 4129) rfl))))); clear cq
 obtain ⟨cs, bl, ct, z⟩ := eT.freeze 0 rfl
 replace hg5 := hg5.mono bl
 replace o := o.mono bl
 replace p := p.mono bl
 replace c := Fz.le.trans c bl
 have bJ : Mem w.heap.size [] w Z [] cs co := ct; clear ct
 obtain ⟨eU, cu⟩ := eQ
 refine ix cr (T := t6) (xs := ([17817, 92251, 1058969, 47, 4129] : List Int)) z u0 eU (k := .i64) (e := 2) (bytes := 8) (nog rfl _) rfl (by kernel_rfl) rfl (by kernel_rfl) (by kernel_rfl) (by kernel_rfl) ?_; intro g5 g6 eV S g7 eW A eX cv; clear cr
 have eY := cu S eW; clear cu
 obtain rfl : eV = ([i6 S] : List Value) := eX
 refine z1 cv bJ 21 A 0 (i6 S) rfl ?_; intro g8 cw; clear cv
 refine s1 cw 6 (i6 S) ?_; intro g9 cx; clear cw
 refine nlH (cn _ _ ?_); clear cn eR
 refine sqH ?_; intro eZ cy
 refine nw cx bJ (fun b => .slice (sm b) 5 5) [i6 0, i6 65536, i6 1048576, i6 255, i6 65535] 2 ?_; intro e0 ha cz cA cB; clear cx bJ
 refine s1 cA 23 (i6 u0) ?_; intro hb cC; clear cA
 have e1 : Mem w.heap.size [] w Z [.own t6 2 (sm e0) 5 ([0, 65536, 1048576, 255, 65535] : List Int)] cs cz := cB.rowOwn (T := t6) (xs := ([0, 65536, 1048576, 255, 65535] : List Int)) 0 rfl (by decide) (by show 5 ≤ lim; decide) ((RepAll.one (T := t6) (x := 0) rfl).append ((RepAll.one (T := t6) (x := 65536) rfl).append ((RepAll.one (T := t6) (x := 1048576) rfl).append ((RepAll.one (T := t6) (x := 255) rfl).append (RepAll.one (T := t6) (x := 65535) rfl))))); clear cB
 obtain ⟨cD, aK, cE, C⟩ := e1.freeze 0 rfl
 replace hg5 := hg5.mono aK
 replace o := o.mono aK
 replace p := p.mono aK
 replace z := z.mono aK
 replace A := A.mono aK
 replace c := Fz.le.trans c aK
 have bK : Mem w.heap.size [] w Z [] cD cz := cE; clear cE
 obtain ⟨e2, cF⟩ := eY
 refine ix cC (T := t6) (xs := ([0, 65536, 1048576, 255, 65535] : List Int)) C u0 e2 (k := .i64) (e := 2) (bytes := 8) (nog rfl _) rfl (by kernel_rfl) rfl (by kernel_rfl) (by kernel_rfl) (by kernel_rfl) ?_; intro hc hd e3 W he e4 D e5 cG; clear cC
 have e6 := cF W e4; clear cF
 obtain rfl : e3 = ([i6 W] : List Value) := e5
 refine z1 cG bK 25 D 0 (i6 W) rfl ?_; intro hf cH; clear cG
 refine s1 cH 7 (i6 W) ?_; intro hg cI; clear cH
 refine nlH (cy _ _ ?_); clear cy eZ
 refine sqH ?_; intro e7 cJ
 refine nw cI bK (fun b => .slice (sm b) 5 5) [i6 0, i6 0, i6 0, i6 255, i6 0] 2 ?_; intro e8 hh cK cL cM; clear cI bK
 refine s1 cL 27 (i6 u0) ?_; intro hi cN; clear cL
 have e9 : Mem w.heap.size [] w Z [.own t6 2 (sm e8) 5 ([0, 0, 0, 255, 0] : List Int)] cD cK := cM.rowOwn (T := t6) (xs := ([0, 0, 0, 255, 0] : List Int)) 0 rfl (by decide) (by show 5 ≤ lim; decide) ((RepAll.one (T := t6) (x := 0) rfl).append ((RepAll.one (T := t6) (x := 0) rfl).append ((RepAll.one (T := t6) (x := 0) rfl).append ((RepAll.one (T := t6) (x := 255) rfl).append (RepAll.one (T := t6) (x := 0) rfl))))); clear cM
 obtain ⟨fa, ag, cO, F⟩ := e9.freeze 0 rfl
 replace hg5 := hg5.mono ag
 replace o := o.mono ag
 replace p := p.mono ag
 replace z := z.mono ag
 replace A := A.mono ag
 replace C := C.mono ag
 replace D := D.mono ag
 replace c := Fz.le.trans c ag
 have bm : Mem w.heap.size [] w Z [] fa cK := cO; clear cO
 obtain ⟨fb, cP⟩ := e6
 refine ix cN (T := t6) (xs := ([0, 0, 0, 255, 0] : List Int)) F u0 fb (k := .i64) (e := 2) (bytes := 8) (nog rfl _) rfl (by kernel_rfl) rfl (by kernel_rfl) (by kernel_rfl) (by kernel_rfl) ?_; intro hj hk fd E hl fe G ff cQ; clear cN
 have fg := cP E fe; clear cP
 obtain rfl : fd = ([i6 E] : List Value) := ff
 refine z1 cQ bm 29 G 0 (i6 E) rfl ?_; intro hn cR; clear cQ
 refine s1 cR 8 (i6 E) ?_; intro ho cS; clear cR
 refine nlH (cJ _ _ ?_); clear cJ e7
 refine sqH ?_; intro fh cT
 refine s1 cS 30 (str u1) ?_; intro hq cU; clear cS
 obtain ⟨fi, fj⟩ := fg
 refine ck cU 79 #[str u1] ?_
 refine (rvalue_fun u1 fi _ _ bm.fz).mono ?_; rintro _ fk ⟨a, cV, cW, fl, rfl, J, hm⟩; refine ⟨_, rfl, ?_⟩; intro hr cX; have cY := bm.callZ hm; have X := hm.ext.le; clear hm bm cU
 replace hg5 := hg5.mono X
 replace o := o.mono X
 replace p := p.mono X
 replace z := z.mono X
 replace A := A.mono X
 replace C := C.mono X
 replace D := D.mono X
 replace F := F.mono X
 replace G := G.mono X
 replace c := Fz.le.trans c X
 have bn : Mem w.heap.size [] w Z [.row a [.bool ((rvalueS u1).neg), .slice cV ((rvalueS u1).abs).length cW] 117] fl fk := cY; clear cY
 refine s1 cX 9 (pt a 0) ?_; intro hs cZ; clear cX
 refine nlH (cT _ _ ?_); clear cT fh
 refine sqH ?_; intro fm c0
 refine bt cZ bn 4 [] [] [(32, pt a 0), (33, pt a 0), (35, y6 (wu64 g))] ?_; intro ht c1; clear cZ
 obtain ⟨fn, c2⟩ := fj
 refine ck c1 80 #[pt a 0, pt a 0, y6 (wu64 g)] ?_
 obtain ⟨aD, fo, c3⟩ := hxq c2; clear c2
 have d := glshA_fun (rvalueS u1) (wu64 g) fn a cV cW _ _ _ _ _ _ J bn bn.fz; rw [fo] at d; refine d.mono ?_; clear d; rintro _ fp ⟨bo, bp, fq, rfl, U, L, hm⟩; refine ⟨_, rfl, ?_⟩; intro hu c4; have c5 := hm; clear hm bn c1
 replace hg5 := hg5.mono U
 replace o := o.mono U
 replace p := p.mono U
 replace z := z.mono U
 replace A := A.mono U
 replace C := C.mono U
 replace D := D.mono U
 replace F := F.mono U
 replace G := G.mono U
 replace J := J.mono U
 replace c := Fz.le.trans c U
 have bL : Mem w.heap.size [] w Z [.row a [.bool aD.neg, .slice bo aD.abs.length bp] 117] fq fp := c5; clear c5
 have fr := c3 (L.small); clear c3
 refine nlH (c0 _ _ ?_); clear c0 fm
 refine sqH ?_; intro fs c6
 refine s1 c4 37 (i6 W) ?_; intro hv c7; clear c4
 obtain ⟨ft, fu⟩ := fr
 refine ck c7 81 #[i6 W] ?_
 refine (gnew_fun W ft _ _ bL.fz).mono ?_; rintro _ fv ⟨q, c8, c9, fw, rfl, V, hm⟩; refine ⟨_, rfl, ?_⟩; intro hw da; have db := bL.callZ hm; have Q := hm.ext.le; clear hm bL c7
 replace hg5 := hg5.mono Q
 replace o := o.mono Q
 replace p := p.mono Q
 replace z := z.mono Q
 replace A := A.mono Q
 replace C := C.mono Q
 replace D := D.mono Q
 replace F := F.mono Q
 replace G := G.mono Q
 replace J := J.mono Q
 replace L := L.mono Q
 replace c := Fz.le.trans c Q
 have bq : Mem w.heap.size [] w Z [.row q [.bool ((gnewS W).neg), .slice c8 ((gnewS W).abs).length c9] 117, .row a [.bool aD.neg, .slice bo aD.abs.length bp] 117] fw fv := db; clear db
 refine s1 da 10 (pt q 0) ?_; intro hx dc; clear da
 refine nlH (c6 _ _ ?_); clear c6 fs
 refine sqH ?_; intro fx dd
 refine bt dc bq 7 [] [] [(39, pt a 0), (40, pt a 0), (41, pt q 0), (42, pt q 0), (45, y6 (wu64 (u1.length : Int)))] ?_; intro hy de; clear dc
 obtain ⟨fy, df⟩ := fu
 refine ck de 80 #[pt q 0, pt q 0, y6 (wu64 (u1.length : Int))] ?_
 obtain ⟨bM, fA, dg⟩ := hxq df; clear df
 have d := glshA_fun (gnewS W) (wu64 (u1.length : Int)) fy q c8 c9 _ _ _ _ _ _ V bq bq.fz; rw [fA] at d; refine d.mono ?_; clear d; rintro _ fB ⟨dh, di, fC, rfl, N, Y, hm⟩; refine ⟨_, rfl, ?_⟩; intro hz dj; have dk := hm; clear hm bq de
 replace hg5 := hg5.mono N
 replace o := o.mono N
 replace p := p.mono N
 replace z := z.mono N
 replace A := A.mono N
 replace C := C.mono N
 replace D := D.mono N
 replace F := F.mono N
 replace G := G.mono N
 replace J := J.mono N
 replace L := L.mono N
 replace V := V.mono N
 replace c := Fz.le.trans c N
 have bN : Mem w.heap.size [] w Z [.row q [.bool bM.neg, .slice dh bM.abs.length di] 117, .row a [.bool aD.neg, .slice bo aD.abs.length bp] 117] fC fB := dk; clear dk
 have fD := dg (Y.small); clear dg
 obtain ⟨fE, dl⟩ := fD
 refine ck dj 82 #[pt a 0, pt a 0, pt q 0] ?_
 obtain ⟨f, fF, dm⟩ := hxq dl; clear dl
 have d := gxor_fun aD bM fE a bo bp q dh di _ _ _ _ _ _ L Y (bN.perm ((pk 1 rfl).trans ((List.Perm.refl _).cons _))) bN.fz; rw [fF] at d; refine d.mono ?_; clear d; rintro _ fG ⟨br, bs, O, P, fH, rfl, M, ah, aE, hm⟩; refine ⟨_, rfl, ?_⟩; intro fI dn; have dp := hm; clear hm bN dj
 replace hg5 := hg5.mono M
 replace o := o.mono M
 replace p := p.mono M
 replace z := z.mono M
 replace A := A.mono M
 replace C := C.mono M
 replace D := D.mono M
 replace F := F.mono M
 replace G := G.mono M
 replace J := J.mono M
 replace L := L.mono M
 replace V := V.mono M
 replace Y := Y.mono M
 replace c := Fz.le.trans c M
 have bO : Mem w.heap.size [] w Z [.row a [.bool f.1.neg, .slice br f.1.abs.length bs] 117, .row q [.bool f.2.neg, .slice O f.2.abs.length P] 117] fH fG := dp; clear dp
 have dq := dm (ah.small); clear dm
 have fJ := dq (aE.small); clear dq
 refine nlH (dd _ _ ?_); clear dd fx
 have dr : Fr 83 [] [⟨5, [], i6 g⟩, ⟨6, [], i6 S⟩, ⟨8, [], i6 E⟩, ⟨9, [], pt a 0⟩] fI := dn.region (by kernel_rfl) (by kernel_rfl); clear dn
 refine sqH ?_; intro fK ds
 refine s1 dr 48 (i6 S) ?_; intro hA dt; clear dr
 obtain ⟨fL, fM⟩ := fJ
 refine ck dt 81 #[i6 S] ?_
 refine (gnew_fun S fL _ _ bO.fz).mono ?_; rintro _ fN ⟨i, du, dv, fO, rfl, ba, hm⟩; refine ⟨_, rfl, ?_⟩; intro hB dw; have dx := bO.callZ hm; have I := hm.ext.le; clear hm bO dt
 replace hg5 := hg5.mono I
 replace o := o.mono I
 replace p := p.mono I
 replace z := z.mono I
 replace A := A.mono I
 replace C := C.mono I
 replace D := D.mono I
 replace F := F.mono I
 replace G := G.mono I
 replace J := J.mono I
 replace L := L.mono I
 replace V := V.mono I
 replace Y := Y.mono I
 replace ah := ah.mono I
 replace aE := aE.mono I
 replace c := Fz.le.trans c I
 have bu : Mem w.heap.size [] w Z [.row i [.bool ((gnewS S).neg), .slice du ((gnewS S).abs).length dv] 117, .row a [.bool f.1.neg, .slice br f.1.abs.length bs] 117, .row q [.bool f.2.neg, .slice O f.2.abs.length P] 117] fO fN := dx; clear dx
 refine s1 dw 11 (pt i 0) ?_; intro hC dy; clear dw
 refine nlH (ds _ _ ?_); clear ds fK
 refine sqH ?_; intro fP dz
 refine bt dy bu 3 [] [] [(50, pt i 0), (51, pt i 0), (52, i6 g)] ?_; intro hD dA; clear dy
 obtain ⟨fQ, dB⟩ := fM
 refine ck dA 83 #[pt i 0, pt i 0, i6 g, y6 1] ?_
 obtain ⟨bP, fR, dC⟩ := hxq dB; clear dB
 have d := gsetbit_fun (gnewS S) g 1 fQ i du dv _ _ _ _ _ _ ba bu bu.fz; rw [fR] at d; refine d.mono ?_; clear d; rintro _ fS ⟨dD, dE, bb, rfl, H, bv, hm⟩; refine ⟨_, rfl, ?_⟩; intro bw dF; have dG := hm; clear hm bu dA
 replace hg5 := hg5.mono H
 replace o := o.mono H
 replace p := p.mono H
 replace z := z.mono H
 replace A := A.mono H
 replace C := C.mono H
 replace D := D.mono H
 replace F := F.mono H
 replace G := G.mono H
 replace J := J.mono H
 replace L := L.mono H
 replace V := V.mono H
 replace Y := Y.mono H
 replace ah := ah.mono H
 replace aE := aE.mono H
 replace ba := ba.mono H
 replace c := Fz.le.trans c H
 have bQ : Mem w.heap.size [] w Z [.row i [.bool bP.neg, .slice dD bP.abs.length dE] 117, .row a [.bool f.1.neg, .slice br f.1.abs.length bs] 117, .row q [.bool f.2.neg, .slice O f.2.abs.length P] 117] bb fS := dG; clear dG
 have fT := dC (bv.small); clear dC
 refine nlH (dz _ _ ?_); clear dz fP
 have dH : Fr 83 [] [⟨5, [], i6 g⟩, ⟨8, [], i6 E⟩, ⟨9, [], pt a 0⟩, ⟨11, [], pt i 0⟩] bw := dF.region (by kernel_rfl) (by kernel_rfl); clear dF
 have bR : Fr 83 [] [⟨5, [], i6 g⟩, ⟨8, [], i6 E⟩, ⟨9, [], pt a 0⟩, ⟨11, [], pt i 0⟩] bw := dH.region (by kernel_rfl) (by kernel_rfl); clear dH
 obtain ⟨fU, fV, fW⟩ := fT
 refine wp_seq_k fun KJ287 hKJ288 => ?_
 have fX : ∀ (R : BInt) (ab : BInt) (aL : Option Addr) (aM : Nat) (bc : Option Addr) (bd : Nat) (be : Fz), fU R ab ∧ SlR (tyInt .u32) be aL aM R.abs ∧ SlR (tyInt .u32) be bc bd ab.abs ∧ Fz.le bb be → ∀ a1 w1, Fr 83 [] [⟨5, [], i6 g⟩, ⟨8, [], i6 E⟩, ⟨9, [], pt a 0⟩] a1 → Mem w.heap.size [] w Z [.row i [.bool R.neg, .slice aL R.abs.length aM] 117, .row a [.bool ab.neg, .slice bc ab.abs.length bd] 117, .row q [.bool f.2.neg, .slice O f.2.abs.length P] 117] be w1 → KJ287 a1 w1 := by
  rintro R ab aL aM bc bd be ⟨fY, aN, aF, l⟩ hE hF dI bx; clear bR bQ
  refine hKJ288 _ _ ?_; clear hKJ288
  have fZ := fW R ab fY
  replace c := Fz.le.trans c l
  have aG := hg5.mono l
  have aO := o.mono l
  have aP := p.mono l
  have aQ := z.mono l
  have aR := A.mono l
  have aS := C.mono l
  have aT := D.mono l
  have aU := F.mono l
  have aV := G.mono l
  have aW := J.mono l
  have aX := L.mono l
  have aY := V.mono l
  have aZ := Y.mono l
  have a3 := ah.mono l
  have a4 := aE.mono l
  have a5 := ba.mono l
  have a7 := bv.mono l
  refine sqH ?_; intro f0 dJ
  refine bt dI bx 3 [] [] [(70, pt a 0), (71, pt a 0), (72, i6 E)] ?_; intro hG dK; clear dI
  obtain ⟨f1, f2⟩ := fZ
  refine ck dK 81 #[i6 E] ?_
  refine (gnew_fun E f1 _ _ bx.fz).mono ?_; rintro _ f3 ⟨bf, dL, dM, f4, rfl, bg, hm⟩; refine ⟨_, rfl, ?_⟩; intro hH dN; have dO := bx.callZ hm; have B := hm.ext.le; clear hm bx dK
  replace aG := aG.mono B
  replace aO := aO.mono B
  replace aP := aP.mono B
  replace aQ := aQ.mono B
  replace aR := aR.mono B
  replace aS := aS.mono B
  replace aT := aT.mono B
  replace aU := aU.mono B
  replace aV := aV.mono B
  replace aW := aW.mono B
  replace aX := aX.mono B
  replace aY := aY.mono B
  replace aZ := aZ.mono B
  replace a3 := a3.mono B
  replace a4 := a4.mono B
  replace a5 := a5.mono B
  replace a7 := a7.mono B
  replace aN := aN.mono B
  replace aF := aF.mono B
  replace l := l.mono B
  replace c := Fz.le.trans c B
  have bS : Mem w.heap.size [] w Z [.row bf [.bool ((gnewS E).neg), .slice dL ((gnewS E).abs).length dM] 117, .row i [.bool R.neg, .slice aL R.abs.length aM] 117, .row a [.bool ab.neg, .slice bc ab.abs.length bd] 117, .row q [.bool f.2.neg, .slice O f.2.abs.length P] 117] f4 f3 := dO; clear dO
  obtain ⟨f5, dP⟩ := f2
  refine ck dN 82 #[pt a 0, pt a 0, pt bf 0] ?_
  obtain ⟨aH, f6, dQ⟩ := hxq dP; clear dP
  have d := gxor_fun ab (gnewS E) f5 a bc bd bf dL dM _ _ _ _ _ _ aF bg (bS.perm ((pk 2 rfl).trans ((List.Perm.refl _).cons _))) bS.fz; rw [f6] at d; refine d.mono ?_; clear d; rintro _ f7 ⟨dR, dS, dT, dU, f8, rfl, v, bz, bT, hm⟩; refine ⟨_, rfl, ?_⟩; intro hI dV; have dW := hm; clear hm bS dN
  replace aG := aG.mono v
  replace aO := aO.mono v
  replace aP := aP.mono v
  replace aQ := aQ.mono v
  replace aR := aR.mono v
  replace aS := aS.mono v
  replace aT := aT.mono v
  replace aU := aU.mono v
  replace aV := aV.mono v
  replace aW := aW.mono v
  replace aX := aX.mono v
  replace aY := aY.mono v
  replace aZ := aZ.mono v
  replace a3 := a3.mono v
  replace a4 := a4.mono v
  replace a5 := a5.mono v
  replace a7 := a7.mono v
  replace aN := aN.mono v
  replace aF := aF.mono v
  replace l := l.mono v
  replace bg := bg.mono v
  replace c := Fz.le.trans c v
  have bU : Mem w.heap.size [] w Z [.row a [.bool aH.1.neg, .slice dR aH.1.abs.length dS] 117, .row bf [.bool aH.2.neg, .slice dT aH.2.abs.length dU] 117, .row i [.bool R.neg, .slice aL R.abs.length aM] 117, .row q [.bool f.2.neg, .slice O f.2.abs.length P] 117] f8 f7 := dW; clear dW
  have dX := dQ (bz.small); clear dQ
  have f9 := dX (bT.small); clear dX
  refine nlH (dJ _ _ ?_); clear dJ f0
  refine sqH ?_; intro ga dY
  refine s1 dV 76 (pt a 0) ?_; intro hJ dZ; clear dV
  obtain ⟨gb, d0⟩ := f9
  refine ck dZ 85 #[pt a 0] ?_
  obtain ⟨aI, gc, d1⟩ := hxq d0; clear d0
  have d := gint64_fun aH.1 gb a dR dS _ _ _ _ _ _ bz bU bU.fz; rw [gc] at d; refine d.mono ?_; clear d; rintro _ gd ⟨ge, gf, gg, rfl, m, gh, hm⟩; refine ⟨_, rfl, ?_⟩; intro hK d2; have d3 := hm; clear hm bU dZ
  replace aG := aG.mono m
  replace aO := aO.mono m
  replace aP := aP.mono m
  replace aQ := aQ.mono m
  replace aR := aR.mono m
  replace aS := aS.mono m
  replace aT := aT.mono m
  replace aU := aU.mono m
  replace aV := aV.mono m
  replace aW := aW.mono m
  replace aX := aX.mono m
  replace aY := aY.mono m
  replace aZ := aZ.mono m
  replace a3 := a3.mono m
  replace a4 := a4.mono m
  replace a5 := a5.mono m
  replace a7 := a7.mono m
  replace aN := aN.mono m
  replace aF := aF.mono m
  replace l := l.mono m
  replace bg := bg.mono m
  replace bz := bz.mono m
  replace bT := bT.mono m
  replace c := Fz.le.trans c m
  have bV : Mem w.heap.size [] w Z [.row a [.bool aI.2.neg, .slice ge aI.2.abs.length gf] 117, .row bf [.bool aH.2.neg, .slice dT aH.2.abs.length dU] 117, .row i [.bool R.neg, .slice aL R.abs.length aM] 117, .row q [.bool f.2.neg, .slice O f.2.abs.length P] 117] gg gd := d3; clear d3
  have gi := d1 (gh.small); clear d1
  refine s1 d2 78 (i6 g) ?_; intro hL d4; clear d2
  obtain ⟨gj, gk⟩ := gi
  refine fc d4 bV (rrow_fun aI.1 g gj _ _ aG bV.fz) ?_; intro hM hN d5 bW; clear d4 bV
  refine bt d5 bW 5 [] [] [(12, str ((rrowS aI.1 g).1))] ?_; intro hO d6; clear d5
  refine nlH (dY _ _ ?_); clear dY ga
  refine sqB d6 bW [] [] [(4, str ((rrowS aI.1 g).1))] ?_; intro hP gl; clear d6
  refine wp_ret ?_
  refine ra1 gl (str ((rrowS aI.1 g).1)) ?_
  exact ⟨(rrowS aI.1 g).1, rfl, gk, bW.below⟩
 have gm := Fz.le.refl bb
 refine wp_block ?_
 have d7 : Fr 83 [] [⟨5, [], i6 g⟩, ⟨8, [], i6 E⟩, ⟨9, [], pt a 0⟩, ⟨11, [], pt i 0⟩] bw := bR.region (by kernel_rfl) (by kernel_rfl); clear bR
 have d8 : Fr 83 [] [⟨5, [], i6 g⟩, ⟨8, [], i6 E⟩, ⟨9, [], pt a 0⟩, ⟨11, [], pt i 0⟩] bw := d7.region (by kernel_rfl) (by kernel_rfl); clear d7
 obtain ⟨gn, go, gp, gq⟩ := fV
 have hQ := c
 refine lp (ι := BInt × BInt × (Option Addr) × Nat × (Option Addr) × Nat × Fz) (fun (s : BInt × BInt × (Option Addr) × Nat × (Option Addr) × Nat × Fz) => [⟨5, [], i6 g⟩, ⟨8, [], i6 E⟩, ⟨9, [], pt a 0⟩, ⟨11, [], pt i 0⟩]) (fun (s : BInt × BInt × (Option Addr) × Nat × (Option Addr) × Nat × Fz) => [.row i [.bool s.1.neg, .slice s.2.2.1 s.1.abs.length s.2.2.2.1] 117, .row a [.bool s.2.1.neg, .slice s.2.2.2.2.1 s.2.1.abs.length s.2.2.2.2.2.1] 117, .row q [.bool f.2.neg, .slice O f.2.abs.length P] 117]) (fun (s : BInt × BInt × (Option Addr) × Nat × (Option Addr) × Nat × Fz) => s.2.2.2.2.2.2) (fun (s : BInt × BInt × (Option Addr) × Nat × (Option Addr) × Nat × Fz) => gn s.1 s.2.1 ∧ SlR (tyInt .u32) s.2.2.2.2.2.2 s.2.2.1 s.2.2.2.1 s.1.abs ∧ SlR (tyInt .u32) s.2.2.2.2.2.2 s.2.2.2.2.1 s.2.2.2.2.2.1 s.2.1.abs ∧ Fz.le bb s.2.2.2.2.2.2) (fun (s : BInt × BInt × (Option Addr) × Nat × (Option Addr) × Nat × Fz) => go s.1 s.2.1) ⟨bP, f.1, dD, dE, br, bs, bb⟩ ⟨gp, bv, ah, Fz.le.refl _⟩ (by exact d8.region (by kernel_rfl) (by kernel_rfl)) (by exact bQ) ?_
 rintro ⟨ac, bA, bh, bi, d9, ea, gr⟩ ⟨gs, aa, ad, h⟩ gt gu eb ec
 have ed : Fr 83 [] [⟨5, [], i6 g⟩, ⟨8, [], i6 E⟩, ⟨9, [], pt a 0⟩, ⟨11, [], pt i 0⟩] gt := eb; clear eb d8
 have bX : Mem w.heap.size [] w Z [.row i [.bool ac.neg, .slice bh ac.abs.length bi] 117, .row a [.bool bA.neg, .slice d9 bA.abs.length ea] 117, .row q [.bool f.2.neg, .slice O f.2.abs.length P] 117] gr gu := ec; clear ec bQ
 have gv := gq ac bA gs
 replace c := Fz.le.trans c h
 have ai := hg5.mono h
 have aj := o.mono h
 have ak := p.mono h
 have al := z.mono h
 have am := A.mono h
 have an := C.mono h
 have ao := D.mono h
 have ap := F.mono h
 have aq := G.mono h
 have ar := J.mono h
 have au := L.mono h
 have av := V.mono h
 have aw := Y.mono h
 have ax := ah.mono h
 have ay := aE.mono h
 have az := ba.mono h
 have aA := bv.mono h
 have ae := gm.mono h
 refine wp_seq ?_
 refine sqH ?_; intro gw ee
 refine s1 ed 54 (pt a 0) ?_; intro hR ef; clear ed
 obtain ⟨gx, eg⟩ := gv
 refine ck ef 84 #[pt a 0] ?_
 obtain ⟨a8, gy, eh⟩ := hxq eg; clear eg
 have d := gblen_fun bA gx a d9 ea _ _ _ _ _ _ ad (bX.perm (pk 1 rfl)) bX.fz; rw [gy] at d; refine d.mono ?_; clear d; rintro _ gz ⟨bY, bZ, ei, rfl, y, af, hm⟩; refine ⟨_, rfl, ?_⟩; intro hS ej; have ek := hm; clear hm bX ef
 replace ai := ai.mono y
 replace aj := aj.mono y
 replace ak := ak.mono y
 replace al := al.mono y
 replace am := am.mono y
 replace an := an.mono y
 replace ao := ao.mono y
 replace ap := ap.mono y
 replace aq := aq.mono y
 replace ar := ar.mono y
 replace au := au.mono y
 replace av := av.mono y
 replace aw := aw.mono y
 replace ax := ax.mono y
 replace ay := ay.mono y
 replace az := az.mono y
 replace aA := aA.mono y
 replace ae := ae.mono y
 replace aa := aa.mono y
 replace ad := ad.mono y
 replace h := h.mono y
 replace c := Fz.le.trans c y
 have bj : Mem w.heap.size [] w Z [.row a [.bool a8.2.neg, .slice bY a8.2.abs.length bZ] 117, .row i [.bool ac.neg, .slice bh ac.abs.length bi] 117, .row q [.bool f.2.neg, .slice O f.2.abs.length P] 117] ei gz := ek; clear ek
 have bB := eh (af.small); clear eh
 refine bt ej bj 2 [] [] [(57, .bool (decide (a8.1 > g)))] ?_; intro hT bC; clear ej
 refine nlH (ee _ _ ?_); clear ee gw
 refine cd bC (t := decide (a8.1 > g)) (by kernel_rfl) (fun b0 => ?_) (fun b0 => ?_)
 · -- yes
  have gA := bB.1 b0; clear bB
  refine wp_skip ?_
  refine thn ?_
  refine wp_block ?_
  refine rgH ?_; intro gB el
  refine bt bC bj 2 [] [] [(58, pt a 0), (59, pt a 0)] ?_; intro hU em; clear bC
  refine nw em bj pb [.bool false, .slice none 0 0] 117 ?_; intro aJ hV hW en bD; clear em bj
  refine bt en bD 2 [] [] [(61, pt i 0), (62, pt a 0)] ?_; intro hX eo; clear en
  obtain ⟨gC, ep⟩ := gA
  refine ck eo 84 #[pt a 0] ?_
  obtain ⟨aB, gD, eq⟩ := hxq ep; clear ep
  have d := gblen_fun a8.2 gC a bY bZ _ _ _ _ _ _ af (bD.perm (pk 1 rfl)) bD.fz; rw [gD] at d; refine d.mono ?_; clear d; rintro _ gE ⟨b1, b2, gF, rfl, u, a9, hm⟩; refine ⟨_, rfl, ?_⟩; intro hY er; have es := hm; clear hm bD eo
  replace ai := ai.mono u
  replace aj := aj.mono u
  replace ak := ak.mono u
  replace al := al.mono u
  replace am := am.mono u
  replace an := an.mono u
  replace ao := ao.mono u
  replace ap := ap.mono u
  replace aq := aq.mono u
  replace ar := ar.mono u
  replace au := au.mono u
  replace av := av.mono u
  replace aw := aw.mono u
  replace ax := ax.mono u
  replace ay := ay.mono u
  replace az := az.mono u
  replace aA := aA.mono u
  replace ae := ae.mono u
  replace aa := aa.mono u
  replace ad := ad.mono u
  replace h := h.mono u
  replace af := af.mono u
  replace c := Fz.le.trans c u
  have bE : Mem w.heap.size [] w Z [.row a [.bool aB.2.neg, .slice b1 aB.2.abs.length b2] 117, .row aJ [.bool false, .slice none 0 0] 117, .row i [.bool ac.neg, .slice bh ac.abs.length bi] 117, .row q [.bool f.2.neg, .slice O f.2.abs.length P] 117] gF gE := es; clear es
  have gG := eq (a9.small); clear eq
  refine bt er bE 4 [] [] [(67, y6 (wu64 (w64 ((w64 (aB.1 - g)) - 1))))] ?_; intro h0 et; clear er
  obtain ⟨gH, eu⟩ := gG
  refine ck et 80 #[pt aJ 0, pt i 0, y6 (wu64 (w64 ((w64 (aB.1 - g)) - 1)))] ?_
  obtain ⟨aC, gI, ev⟩ := hxq eu; clear eu
  have d := glsh_fun (⟨false, []⟩ : BInt) ac (wu64 (w64 ((w64 (aB.1 - g)) - 1))) gH aJ none 0 i bh bi _ _ _ _ _ _ (SlR.nil _ _) aa (bE.perm ((pk 1 rfl).trans (((pk 1 rfl).trans ((List.Perm.refl _).cons _)).cons _))) bE.fz; rw [gI] at d; refine d.mono ?_; clear d; rintro _ gJ ⟨ew, ex, b3, b4, gK, rfl, n, bF, bG, hm⟩; refine ⟨_, rfl, ?_⟩; intro h1 ey; have ez := hm; clear hm bE et
  replace ai := ai.mono n
  replace aj := aj.mono n
  replace ak := ak.mono n
  replace al := al.mono n
  replace am := am.mono n
  replace an := an.mono n
  replace ao := ao.mono n
  replace ap := ap.mono n
  replace aq := aq.mono n
  replace ar := ar.mono n
  replace au := au.mono n
  replace av := av.mono n
  replace aw := aw.mono n
  replace ax := ax.mono n
  replace ay := ay.mono n
  replace az := az.mono n
  replace aA := aA.mono n
  replace ae := ae.mono n
  replace aa := aa.mono n
  replace ad := ad.mono n
  replace h := h.mono n
  replace af := af.mono n
  replace a9 := a9.mono n
  replace c := Fz.le.trans c n
  have b6 : Mem w.heap.size [] w Z [.row aJ [.bool aC.1.neg, .slice ew aC.1.abs.length ex] 117, .row i [.bool aC.2.neg, .slice b3 aC.2.abs.length b4] 117, .row a [.bool aB.2.neg, .slice b1 aB.2.abs.length b2] 117, .row q [.bool f.2.neg, .slice O f.2.abs.length P] 117] gK gJ := ez; clear ez
  have eA := ev (bF.small); clear ev
  have gL := eA (bG.small); clear eA
  obtain ⟨gM, eB⟩ := gL
  refine ck ey 82 #[pt a 0, pt a 0, pt aJ 0] ?_
  obtain ⟨bk, gN, eC⟩ := hxq eB; clear eB
  have d := gxor_fun aB.2 aC.1 gM a b1 b2 aJ ew ex _ _ _ _ _ _ a9 bF (b6.perm ((pk 2 rfl).trans ((List.Perm.refl _).cons _))) b6.fz; rw [gN] at d; refine d.mono ?_; clear d; rintro _ gO ⟨eD, eE, gP, gQ, eF, rfl, j, eG, gR, hm⟩; refine ⟨_, rfl, ?_⟩; intro h2 gS; have eH := hm; clear hm b6 ey
  replace ai := ai.mono j
  replace aj := aj.mono j
  replace ak := ak.mono j
  replace al := al.mono j
  replace am := am.mono j
  replace an := an.mono j
  replace ao := ao.mono j
  replace ap := ap.mono j
  replace aq := aq.mono j
  replace ar := ar.mono j
  replace au := au.mono j
  replace av := av.mono j
  replace aw := aw.mono j
  replace ax := ax.mono j
  replace ay := ay.mono j
  replace az := az.mono j
  replace aA := aA.mono j
  replace ae := ae.mono j
  replace aa := aa.mono j
  replace ad := ad.mono j
  replace h := h.mono j
  replace af := af.mono j
  replace a9 := a9.mono j
  replace bF := bF.mono j
  replace bG := bG.mono j
  replace c := Fz.le.trans c j
  have gT : Mem w.heap.size [] w Z [.row a [.bool bk.1.neg, .slice eD bk.1.abs.length eE] 117, .row aJ [.bool bk.2.neg, .slice gP bk.2.abs.length gQ] 117, .row i [.bool aC.2.neg, .slice b3 aC.2.abs.length b4] 117, .row q [.bool f.2.neg, .slice O f.2.abs.length P] 117] eF gO := eH; clear eH
  have eI := eC (eG.small); clear eC
  have eJ := eI (gR.small); clear eI
  refine nlH (el _ _ ?_); clear el gB
  refine ibn ?_
  refine rd ?_
  have gU := gT.perm ((pk 2 rfl).trans ((((pk 1 rfl).trans ((List.Perm.refl _).cons _)).cons _).cons _))
  exact ⟨⟨aC.2, bk.1, b3, b4, eD, eE, eF⟩, ⟨eJ.1, bG, eG, h⟩, eJ.2, (gS.region (by kernel_rfl) (by kernel_rfl)).anyβ _ (by kernel_rfl), gU.keep (List.Sublist.cons_cons _ (List.Sublist.cons_cons _ (List.Sublist.cons_cons _ (List.Sublist.cons _ (List.Sublist.slnil)))))⟩
 · -- no
  have gV := bB.2 b0; clear bB
  refine wp_exit ?_
  refine thx ?_
  refine thx ?_
  refine ibx ?_
  refine rd ?_
  have gW := bj.perm ((pk 1 rfl).trans ((List.Perm.refl _).cons _))
  exact fX ac a8.2 bh bi bY bZ ei ⟨gV, aa, af, ae⟩ _ _ ((bC.region (by kernel_rfl) (by kernel_rfl)).anyβ _ (by kernel_rfl)) (gW.keep (List.Sublist.cons_cons _ (List.Sublist.cons_cons _ (List.Sublist.cons_cons _ (List.Sublist.slnil)))))

end Go.Proofs.YtmbdcehmeiiaoaaGreatDoor
set_option linter.unusedVariables false
set_option linter.unusedSimpArgs false
namespace Go.Proofs.YtmbdcehmeiiaoaaGreatDoor
open Go.Sy Go.RowKit
theorem rsumof_fun (u0 : Int) (u1 : List UInt8) (hpre : (0 ≤ u0 ∧ u0 < 5) ∧ isRow u1 = true ∧ u1.length ≤ 1000)  (Z : Fz) (w : World) (hg5 : SlR t8 Z (sm 5) 64 deBruijn64) (hZ : Z.on w) : Calls Tryz.prog 49 #[i6 u0, str u1] w fun e w' => e = .returned (str (sumR u0 u1)) ∧ Below w.heap.size w w' :=
  (rsumof_walk u0 u1  Z w hg5 hZ (rsumof_ok u0 u1 hpre)).mono fun _ _ ⟨r, he, hk, hb⟩ => ⟨by subst hk; exact he, hb⟩

end Go.Proofs.YtmbdcehmeiiaoaaGreatDoor
namespace Go.Sy
open Go.Proofs Go.Shelf Go.RowKit
variable {P : Program} {ρ : Ren} {B b : Nat} {w0 : World} {Z : Fz} {w w' : World} {T e : TypeId} {ao : Option Addr} {cap : Nat} {p : Value}
theorem repBytes {Z : Fz} {cells : List Value} {xs : List UInt8} (h : RepAll tyByte Z cells xs) : cells = Lib.byteCells xs := by
  have hl : cells.length = xs.length * 1 := h.1
  apply List.ext_getElem?
  intro i
  unfold Lib.byteCells
  rw [List.getElem?_map]
  rcases Nat.lt_or_ge i xs.length with hi | hi
  · have hx : xs[i]? = some xs[i] := List.getElem?_eq_getElem hi
    have hr : ((cells.drop (i * 1)).take 1) = [.int .u8 (xs[i].toNat : Int)] := h.2 i _ hx
    rw [hx, Nat.mul_one] at *
    have := congrArg (fun l => l[0]?) hr
    simpa using this
  · rw [List.getElem?_eq_none (by omega), List.getElem?_eq_none hi]
    rfl
theorem bytesRep (Z : Fz) (xs : List UInt8) : RepAll tyByte Z (Lib.byteCells xs) xs := by
  refine ⟨by simp [Lib.byteCells, tyByte], fun i x hx => ?_⟩
  show ((Lib.byteCells xs).drop (i * 1)).take 1 = [.int .u8 (x.toNat : Int)]
  have hi := (List.getElem?_eq_some_iff.1 hx).1
  unfold Lib.byteCells
  rw [Nat.mul_one, List.drop_eq_getElem_cons (by simpa using hi)]
  have hx2 : xs[i] = x := (List.getElem?_eq_some_iff.1 hx).2
  simp [hx2]
/-- The memory of a call that has one builder and nothing else of its own. -/
abbrev BldR (b : Nat) (p : Value) (T e : TypeId) (ao : Option Addr) (cap : Nat) (xs : List UInt8) : List Res := [.row b [p, .slice ao xs.length cap] T, .own tyByte e ao cap xs]
theorem bld_is {xs : List UInt8} (hM : Mem B [] w0 Z (BldR b p T e ao cap xs) Z w) (hp : p = .pointer none ∨ p = .pointer (some ⟨b, 0, none⟩)) : Lib.IsBuilder T e B b (Lib.byteCells xs) w := by
  have h1 := hM.res (.row b [p, .slice ao xs.length cap] T) (by simp)
  have h2 := hM.res (.own tyByte e ao cap xs) (by simp)
  obtain ⟨_, _, cells, ho, hr⟩ := h2
  have hc := repBytes hr
  subst hc
  have hl : (Lib.byteCells xs).length = xs.length := Lib.byteCells_length xs
  have hB : B ≤ b := h1.1.elim id (by simp)
  have hn : (Value.slice ao xs.length cap).ownBlock ≠ some b := by
    have hnd := (List.pairwise_cons.1 hM.nd).1 (.own tyByte e ao cap xs) (by simp) b rfl
    cases ao with
    | none => simp [Value.ownBlock]
    | some ad => simpa [Value.ownBlock, Res.foot] using hnd
  have hA : Lib.BuilderAt T e B b p (Lib.byteCells xs) w := ⟨hB, _, h1.2, by rw [hl]; exact ho, hn⟩
  rcases hp with rfl | rfl
  · exact .inl hA
  · exact .inr hA
theorem bld_back {R : List Res} {ys : List UInt8} (hM : Mem B [] w0 Z R Z w) (hZB : ∀ k o, Z k = some o → k < B) (hA : Lib.BuilderAt T e B b (.pointer (some ⟨b, 0, none⟩)) (Lib.byteCells ys) w') (hb : Below B w w') (hl : ys.length ≤ lim) :
    ∃ ao cap, Mem B [] w0 Z (BldR b (.pointer (some ⟨b, 0, none⟩)) T e ao cap ys) Z w' := by
  obtain ⟨hBb, v, hv, ho, hne⟩ := hA
  rw [Lib.byteCells_length] at ho
  have hshape : ∃ ao cap, v = .slice ao ys.length cap := by
    rcases ho.2 with ⟨e1, e2⟩ | ⟨g, c, cur, e1, _⟩
    · exact ⟨none, 0, by rw [e1, e2]⟩
    · exact ⟨_, c, e1⟩
  obtain ⟨ao, cap, rfl⟩ := hshape
  have hsz := hb.size
  have hbase : B ≤ w'.heap.size := Nat.le_trans hM.base hsz
  have hfb : ∀ k, (Res.own tyByte e ao cap ys).foot = some k → B ≤ k ∧ k ≠ b := by
    intro k hk
    cases ao with
    | none => simp [Res.foot] at hk
    | some ad =>
      simp only [Res.foot, Option.map_some, Option.some.injEq] at hk
      subst hk
      refine ⟨(World.ownsRow.lt ho ad.block rfl).1, fun hc => hne ?_⟩
      rw [← hc]
      rfl
  refine ⟨ao, cap, ⟨hM.kept.os ▸ hb.os, hM.kept.tape ▸ hb.tape, hM.kept.output ▸ hb.output, Nat.le_trans hM.kept.size hsz, fun k hk hU => (hb.block k hk).trans (hM.kept.block k hk hU)⟩, hbase, ?_, ?_, fun k o hk => by rw [hb.block k (hZB k o hk)]; exact hM.fz k o hk, hM.ext, ?_⟩
  · intro r hr
    rcases List.mem_cons.1 hr with rfl | hr
    · exact ⟨.inl hBb, hv⟩
    · rcases List.mem_cons.1 hr with rfl | hr
      · exact ⟨Nat.one_pos, hl, _, ho, bytesRep Z ys⟩
      · cases hr
  · refine List.Pairwise.cons (fun s hs k hk hc => ?_) (List.Pairwise.cons (by simp) List.Pairwise.nil)
    simp only [List.mem_cons, List.not_mem_nil, or_false] at hs
    subst hs
    have hkb : k = b := by simpa [Res.foot, eq_comm] using hk
    exact (hfb k hc).2 hkb
  · intro r hr k hk
    have hBk : B ≤ k := by
      rcases List.mem_cons.1 hr with rfl | hr
      · have : k = b := by simpa [Res.foot, eq_comm] using hk
        omega
      · rcases List.mem_cons.1 hr with rfl | hr
        · exact (hfb k hk).1
        · cases hr
    cases hz : Z k with
    | none => rfl
    | some o => have := hZB k o hz; omega
theorem Mem.bldNil (hM : Mem B [] w0 Z [.row b [p, .slice none 0 0] T] Z w) (e : TypeId) : Mem B [] w0 Z (BldR b p T e none 0 []) Z w :=
  ((hM.addNil tyByte e Nat.one_pos).perm (List.Perm.swap _ _ _))
theorem bld_write (L : Lays.n166 P ρ) (X : Builder.Extra P ρ) {xs s : List UInt8} (hM : Mem B [] w0 Z (BldR b p (ρ.t 72) (ρ.t 5) ao cap xs) Z w) (hZB : ∀ k o, Z k = some o → k < B) (hp : p = .pointer none ∨ p = .pointer (some ⟨b, 0, none⟩)) (hl : xs.length + s.length ≤ 140737488355328) :
    Calls P (ρ.f 166) #[.pointer (some ⟨b, 0, none⟩), str s] w fun e w' => ∃ ao' cap', e = .returned (.tuple #[.int .i64 (s.length : Int), .nilIface]) ∧ Mem B [] w0 Z (BldR b (.pointer (some ⟨b, 0, none⟩)) (ρ.t 72) (ρ.t 5) ao' cap' (xs ++ s)) Z w' := by
  refine (Any.Builder_WriteString L X B b _ ⟨⟨s⟩⟩ w (bld_is hM hp) (by rw [Lib.byteCells_length]; exact hl) hM.base).mono fun e1 w1 ⟨he, hA, hb⟩ => ?_
  have e2 : Lib.byteCells xs ++ Lib.strCells ⟨⟨s⟩⟩ = Lib.byteCells (xs ++ s) := by simp [Lib.byteCells, Lib.strCells]
  rw [e2] at hA
  obtain ⟨ao', cap', h⟩ := bld_back hM hZB hA hb (by rw [List.length_append]; exact hl)
  exact ⟨ao', cap', he, h⟩
theorem bld_string (L : Lays.n169 P ρ) (X : Builder.Extra P ρ) {xs : List UInt8} (hM : Mem B [] w0 Z (BldR b p (ρ.t 72) (ρ.t 5) ao cap xs) Z w) (hZB : ∀ k o, Z k = some o → k < B) (hp : p = .pointer none ∨ p = .pointer (some ⟨b, 0, none⟩)) :
    Calls P (ρ.f 169) #[.pointer (some ⟨b, 0, none⟩)] w fun e w' => e = .returned (str xs) ∧ Mem B [] w0 Z [] Z w' := by
  refine (Any.Builder_String_any L X B b xs w (bld_is hM hp) hM.base).mono fun e1 w1 ⟨he, hb⟩ => ⟨he, ?_⟩
  exact ⟨⟨hM.kept.os ▸ hb.os, hM.kept.tape ▸ hb.tape, hM.kept.output ▸ hb.output, Nat.le_trans hM.kept.size hb.size, fun k hk hU => (hb.block k hk).trans (hM.kept.block k hk hU)⟩, Nat.le_trans hM.base hb.size, by simp, List.Pairwise.nil, fun k o hk => by rw [hb.block k (hZB k o hk)]; exact hM.fz k o hk, hM.ext, by simp⟩
theorem zB {w : World} (h : Z.on w) : ∀ k o, Z k = some o → k < w.heap.size := fun k o hk => lt_of_get (h k o hk)
end Go.Sy
namespace Go.Proofs
open Go.Shelf
def Tryz.lays166_ren : Go.Shelf.Ren := ⟨fun | 166 => 98 | 240 => 118 | 276 => 138 | n => n, fun | 37 => 22 | 70 => 131 | 72 => 133 | 75 => 135 | 80 => 73 | 164 => 169 | n => n, fun n => n⟩
theorem Tryz.lays166 : Lays.n166 Tryz.prog Tryz.lays166_ren where
  mixed := by kernel_rfl
  f166 := Tryz.func98.trans (congrArg some (by kernel_rfl))
  f240 := Tryz.func118.trans (congrArg some (by kernel_rfl))
  f276 := Tryz.func138.trans (congrArg some (by kernel_rfl))
  t0 := Tryz.underlying0
  a0 := Tryz.isAgg0
  z0 := Tryz.sizeOf0
  v0 := Tryz.zeroValue0
  t3 := Tryz.underlying3
  a3 := Tryz.isAgg3
  z3 := Tryz.sizeOf3
  v3 := Tryz.zeroValue3
  t4 := Tryz.underlying4
  a4 := Tryz.isAgg4
  z4 := Tryz.sizeOf4
  v4 := Tryz.zeroValue4
  t9 := Tryz.underlying9
  a9 := Tryz.isAgg9
  z9 := Tryz.sizeOf9
  v9 := Tryz.zeroValue9
  t20 := Tryz.underlying20
  a20 := Tryz.isAgg20
  z20 := Tryz.sizeOf20
  v20 := Tryz.zeroValue20
  t37 := Tryz.underlying22
  a37 := Tryz.isAgg22
  z37 := Tryz.sizeOf22
  v37 := Tryz.zeroValue22
  t70 := Tryz.underlying131
  a70 := Tryz.isAgg131
  z70 := Tryz.sizeOf131
  v70 := Tryz.zeroValue131
  t72 := Tryz.underlying133
  a72 := Tryz.isAgg133
  z72 := Tryz.sizeOf133
  v72 := Tryz.zeroValue133
  t75 := Tryz.underlying135
  a75 := Tryz.isAgg135
  z75 := Tryz.sizeOf135
  v75 := Tryz.zeroValue135
  t164 := Tryz.underlying169
  a164 := Tryz.isAgg169
  z164 := Tryz.sizeOf169
  v164 := Tryz.zeroValue169
theorem Tryz.lays166X : Builder.Extra Tryz.prog Tryz.lays166_ren where
  sizeBuilder := by kernel_rfl
  liesBuilder := by kernel_rfl
  t5 := by kernel_rfl
  a5 := fun w => by kernel_rfl
  z5 := fun w => by kernel_rfl
  v5 := fun w => by kernel_rfl
  infoByte := by kernel_rfl
  cellsByte := by kernel_rfl
  sizeByte := by kernel_rfl
  neB5 := by decide

def Tryz.lays169_ren : Go.Shelf.Ren := ⟨fun | 169 => 99 | n => n, fun | 37 => 22 | 70 => 131 | 72 => 133 | 127 => 155 | n => n, fun n => n⟩
theorem Tryz.lays169 : Lays.n169 Tryz.prog Tryz.lays169_ren where
  mixed := by kernel_rfl
  f169 := Tryz.func99.trans (congrArg some (by kernel_rfl))
  t0 := Tryz.underlying0
  a0 := Tryz.isAgg0
  z0 := Tryz.sizeOf0
  v0 := Tryz.zeroValue0
  t3 := Tryz.underlying3
  a3 := Tryz.isAgg3
  z3 := Tryz.sizeOf3
  v3 := Tryz.zeroValue3
  t9 := Tryz.underlying9
  a9 := Tryz.isAgg9
  z9 := Tryz.sizeOf9
  v9 := Tryz.zeroValue9
  t37 := Tryz.underlying22
  a37 := Tryz.isAgg22
  z37 := Tryz.sizeOf22
  v37 := Tryz.zeroValue22
  t70 := Tryz.underlying131
  a70 := Tryz.isAgg131
  z70 := Tryz.sizeOf131
  v70 := Tryz.zeroValue131
  t72 := Tryz.underlying133
  a72 := Tryz.isAgg133
  z72 := Tryz.sizeOf133
  v72 := Tryz.zeroValue133
  t127 := Tryz.underlying155
  a127 := Tryz.isAgg155
  z127 := Tryz.sizeOf155
  v127 := Tryz.zeroValue155
theorem Tryz.lays169X : Builder.Extra Tryz.prog Tryz.lays169_ren where
  sizeBuilder := by kernel_rfl
  liesBuilder := by kernel_rfl
  t5 := by kernel_rfl
  a5 := fun w => by kernel_rfl
  z5 := fun w => by kernel_rfl
  v5 := fun w => by kernel_rfl
  infoByte := by kernel_rfl
  cellsByte := by kernel_rfl
  sizeByte := by kernel_rfl
  neB5 := by decide

end Go.Proofs
set_option linter.unusedVariables false
set_option linter.unusedSimpArgs false
set_option maxRecDepth 100000
set_option maxHeartbeats 0
namespace Go.Proofs.YtmbdcehmeiiaoaaGreatDoor
open Go.Sy Go.RowKit
theorem bread_walk (u0 : List UInt8)  (Z : Fz) (w : World)  (hZ : Z.on w) {K : Int → Prop} (hp : bread_vc u0 K) : Calls Tryz.prog 67 #[str u0] w fun e w' => ∃ r : Int, e = .returned (y6 r) ∧ K r ∧ Below w.heap.size w w' := by
 refine enter0 Tryz.func67 rfl rfl (by kernel_rfl) ?_; intro U j; have d := Mem.start w Z hZ; have V := Fz.le.refl Z
 refine sqB j d [] [] [] ?_; intro W k; clear j
 refine sqB k d [] [] [(3, y6 0)] ?_; intro X l; clear k
 refine wp_seq ?_
 refine sqB l d [] [] [(6, i6 (u0.length : Int)), (7, i6 0)] ?_; intro m n; clear l
 refine wp_block ?_
 have o : Fr 20 [] [⟨0, [], str u0⟩, ⟨3, [], y6 0⟩, ⟨6, [], i6 (u0.length : Int)⟩, ⟨7, [], i6 0⟩] m := n.reg; clear n
 have p : Fr 20 [] [⟨0, [], str u0⟩, ⟨3, [], y6 0⟩, ⟨6, [], i6 (u0.length : Int)⟩, ⟨7, [], i6 0⟩] m := o.reg; clear o
 obtain ⟨F, G, H, I⟩ := hp
 refine lp (ι := Int × Int) (fun (s : Int × Int) => [⟨0, [], str u0⟩, ⟨3, [], y6 s.1⟩, ⟨6, [], i6 (u0.length : Int)⟩, ⟨7, [], i6 s.2⟩]) (fun (s : Int × Int) => []) (fun (s : Int × Int) => Z) (fun (s : Int × Int) => F s.1 s.2) (fun (s : Int × Int) => G s.1 s.2) ⟨0, 0⟩ H (by exact p.reg) (by exact d) ?_
 rintro ⟨b, a⟩ J L M u v
 have x : Fr 20 [] [⟨0, [], str u0⟩, ⟨3, [], y6 b⟩, ⟨6, [], i6 (u0.length : Int)⟩, ⟨7, [], i6 a⟩] L := u; clear u p
 have c : Mem w.heap.size [] w Z [] Z M := v; clear v d
 have g := I b a J
 refine sqB x c [] [] [(8, .bool (decide (a < (u0.length : Int))))] ?_; intro Y f; clear x
 refine wp_seq ?_
 refine cd f (t := decide (a < (u0.length : Int))) (by kernel_rfl) (fun h => ?_) (fun h => ?_)
 ·
  have N := g.1 h; clear g
  refine wp_skip ?_
  refine thn ?_
  refine wp_seq ?_
  refine wp_block ?_
  refine sqB f c [] [] [(4, i6 a)] ?_; intro aa y; clear f
  refine rgH ?_; intro O z
  refine bt y c 4 [] [] [(11, y6 (bShl .u64 b 1)), (12, str u0), (13, i6 a)] ?_; intro ab A; clear y
  obtain ⟨P, Q⟩ := N
  obtain ⟨i, B⟩ : ∃ q, u0[a.toNat]? = some q := ⟨_, List.getElem?_eq_getElem (by omega)⟩; have C := Q i B
  refine si A .i64 P.1 B ?_; intro ac D; clear A
  refine bt D c 4 [] [] [(3, y6 (bOr .u64 (bShl .u64 b 1) (wu64 (w8 ((i.toNat : Int) - 48)))))] ?_; intro ad E; clear D
  refine nlH (z _ _ ?_); clear z O
  refine ibn ?_
  refine thn ?_
  refine rgB E c [] [] [(7, i6 (w64 (a + 1)))] ?_; intro ae R; clear E
  refine rd ?_
  exact ⟨⟨bOr .u64 (bShl .u64 b 1) (wu64 (w8 ((i.toNat : Int) - 48))), w64 (a + 1)⟩, C.1, C.2, (R.reg).anyβ _ (by kernel_rfl), c.keep (List.Sublist.slnil)⟩
 have S := g.2 h; clear g
 refine wp_exit ?_
 refine thx ?_
 refine thx ?_
 refine ibx ?_
 refine thn ?_
 refine sqB f c [] [] [(2, y6 b)] ?_; intro af T; clear f
 refine wp_ret ?_
 refine ra1 T (y6 b) ?_
 exact ⟨b, rfl, S, c.below⟩

theorem bwrite_walk (u0 : Int) (u1 : Int)  (Z : Fz) (w : World)  (hZ : Z.on w) {K : (List UInt8) → Prop} (hp : bwrite_vc u0 u1 K) : Calls Tryz.prog 71 #[y6 u0, i6 u1] w fun e w' => ∃ r : (List UInt8), e = .returned (str r) ∧ K r ∧ Below w.heap.size w w' := by
 refine enter0 Tryz.func71 rfl rfl (by kernel_rfl) ?_; intro a0 q; have l := Mem.start w Z hZ; have ay := Fz.le.refl Z
 refine sqB q l [] [] [] ?_; intro a2 v; clear q
 refine sqH ?_; intro aa x
 refine s1 v 7 (i6 u1) ?_; intro a5 y; clear v
 obtain ⟨az, ab⟩ := hp
 refine mks y l (T := t8) u1 u1 (k := .i64) (k' := .i64) (e := 5) (bytes := 1) (zs := [y8 0]) (z := 0) (by simp only [lim]; omega) (nog rfl _) rfl (by kernel_rfl) rfl (by kernel_rfl) (by kernel_rfl) (by kernel_rfl) (by kernel_rfl) rfl ?_; intro b aA ac A B; clear y l
 have m : Mem w.heap.size [] w Z [.own t8 5 (sm b) u1.toNat (List.replicate u1.toNat (0 : Int))] Z ac := B; clear B
 refine s1 A 5 (.slice (sm b) (List.replicate u1.toNat (0 : Int)).length u1.toNat) ?_; intro aB C; clear A
 refine nlH (x _ _ ?_); clear x aa
 refine wp_seq ?_
 refine sqB C m [] [] [(9, i6 u1), (10, i6 0)] ?_; intro D E; clear C
 refine wp_block ?_
 have F : Fr 28 [] [⟨0, [], y6 u0⟩, ⟨1, [], i6 u1⟩, ⟨5, [], .slice (sm b) (List.replicate u1.toNat (0 : Int)).length u1.toNat⟩, ⟨9, [], i6 u1⟩, ⟨10, [], i6 0⟩] D := E.reg; clear E
 have G : Fr 28 [] [⟨0, [], y6 u0⟩, ⟨1, [], i6 u1⟩, ⟨5, [], .slice (sm b) (List.replicate u1.toNat (0 : Int)).length u1.toNat⟩, ⟨9, [], i6 u1⟩, ⟨10, [], i6 0⟩] D := F.reg; clear F
 obtain ⟨ad, ae, af, ag⟩ := ab
 refine lp (ι := Int × Int × (List Int)) (fun (s : Int × Int × (List Int)) => [⟨0, [], y6 s.1⟩, ⟨1, [], i6 u1⟩, ⟨5, [], .slice (sm b) s.2.2.length u1.toNat⟩, ⟨9, [], i6 u1⟩, ⟨10, [], i6 s.2.1⟩]) (fun (s : Int × Int × (List Int)) => [.own t8 5 (sm b) u1.toNat s.2.2]) (fun (s : Int × Int × (List Int)) => Z) (fun (s : Int × Int × (List Int)) => ad s.1 s.2.1 s.2.2) (fun (s : Int × Int × (List Int)) => ae s.1 s.2.1 s.2.2) ⟨u0, 0, (List.replicate u1.toNat (0 : Int))⟩ af (by exact G.reg) (by exact m) ?_
 rintro ⟨d, a, c⟩ ah ai H I J
 have L : Fr 28 [] [⟨0, [], y6 d⟩, ⟨1, [], i6 u1⟩, ⟨5, [], .slice (sm b) c.length u1.toNat⟩, ⟨9, [], i6 u1⟩, ⟨10, [], i6 a⟩] ai := I; clear I G
 have f : Mem w.heap.size [] w Z [.own t8 5 (sm b) u1.toNat c] Z H := J; clear J m
 have i := ag d a c ah
 refine sqB L f [] [] [(11, .bool (decide (a < u1)))] ?_; intro aC h; clear L
 refine wp_seq ?_
 refine cd h (t := decide (a < u1)) (by kernel_rfl) (fun n => ?_) (fun n => ?_)
 ·
  have aj := i.1 n; clear i
  refine wp_skip ?_
  refine thn ?_
  refine wp_seq ?_
  refine wp_block ?_
  refine sqB h f [] [] [(6, i6 a)] ?_; intro aD M; clear h
  refine sqH ?_; intro ak N
  refine bt M f 9 [] [] [(13, .slice (sm b) c.length u1.toNat), (17, i6 (w64 ((w64 (u1 - 1)) - a))), (21, y8 (w8 (48 + (w8 (bAnd .u64 d 1)))))] ?_; intro aE O; clear M
  obtain ⟨al, P⟩ := aj
  refine ixo O f 0 (T := t8) (xs := c) (w64 ((w64 (u1 - 1)) - a)) al (k := .i64) (e := 5) (bytes := 1) (nog rfl _) rfl (by kernel_rfl) rfl (by kernel_rfl) (by kernel_rfl) rfl (by kernel_rfl) ?_; intro am Q an R; clear O
  obtain rfl : b = am := by simpa using an
  have j : Fr 28 [] [⟨0, [], y6 d⟩, ⟨1, [], i6 u1⟩, ⟨5, [], .slice (sm b) c.length u1.toNat⟩, ⟨6, [], i6 a⟩, ⟨9, [], i6 u1⟩, ⟨10, [], i6 a⟩, ⟨11, [], .bool (decide (a < u1))⟩, ⟨13, [], .slice (sm b) c.length u1.toNat⟩, ⟨17, [], i6 (w64 ((w64 (u1 - 1)) - a))⟩, ⟨21, [], y8 (w8 (48 + (w8 (bAnd .u64 d 1))))⟩, ⟨22, [], .pointer (some ⟨b, (w64 ((w64 (u1 - 1)) - a)).toNat * 1, none⟩)⟩] Q := R.reg; clear R
  have S : Mem w.heap.size [] w Z [.own t8 5 (sm b) u1.toNat c] Z H := f; clear f
  refine so j S 0 (T := t8) (xs := c) (w64 ((w64 (u1 - 1)) - a)).toNat (w8 (48 + (w8 (bAnd .u64 d 1)))) (u := y8 (w8 (48 + (w8 (bAnd .u64 d 1))))) (nog rfl _) rfl rfl (by kernel_rfl) rfl (by kernel_rfl) rfl (by kernel_rfl) (by first | omega | (simp only [List.length_set] at *; omega)) rfl ?_; intro ap U; clear S
  have V : Fr 28 [] [⟨0, [], y6 d⟩, ⟨1, [], i6 u1⟩, ⟨5, [], .slice (sm b) (c.set (w64 ((w64 (u1 - 1)) - a)).toNat (w8 (48 + (w8 (bAnd .u64 d 1))))).length u1.toNat⟩, ⟨6, [], i6 a⟩, ⟨9, [], i6 u1⟩, ⟨10, [], i6 a⟩, ⟨11, [], .bool (decide (a < u1))⟩, ⟨13, [], .slice (sm b) (c.set (w64 ((w64 (u1 - 1)) - a)).toNat (w8 (48 + (w8 (bAnd .u64 d 1))))).length u1.toNat⟩, ⟨17, [], i6 (w64 ((w64 (u1 - 1)) - a))⟩, ⟨21, [], y8 (w8 (48 + (w8 (bAnd .u64 d 1))))⟩, ⟨22, [], .pointer (some ⟨b, (w64 ((w64 (u1 - 1)) - a)).toNat * 1, none⟩)⟩] Q := by (try simp only [List.length_set] at j); (try simp only [List.length_set]); exact j.reg
  clear j
  have o : Mem w.heap.size [] w Z [.own t8 5 (sm b) u1.toNat (c.set (w64 ((w64 (u1 - 1)) - a)).toNat (w8 (48 + (w8 (bAnd .u64 d 1)))))] Z ap := U; clear U
  refine nlH (N _ _ ?_); clear N ak
  refine rgB V o [] [] [(0, y6 (bShr .u64 d 1))] ?_; intro aF W; clear V
  refine ibn ?_
  refine thn ?_
  refine rgB W o [] [] [(10, i6 (w64 (a + 1)))] ?_; intro aG aq; clear W
  refine rd ?_
  exact ⟨⟨bShr .u64 d 1, w64 (a + 1), c.set (w64 ((w64 (u1 - 1)) - a)).toNat (w8 (48 + (w8 (bAnd .u64 d 1))))⟩, P.1, P.2, (aq.reg).anyβ _ (by kernel_rfl), o.keep (List.Sublist.cons_cons _ (List.Sublist.slnil))⟩
 have ar := i.2 n; clear i
 refine wp_exit ?_
 refine thx ?_
 refine thx ?_
 refine ibx ?_
 refine thn ?_
 refine sqH ?_; intro au X
 refine s1 h 26 (.slice (sm b) c.length u1.toNat) ?_; intro aH p; clear h
 refine st p (str (bstr c)) (nog rfl _) rfl (by kernel_rfl) ((by obtain ⟨Z9, aI, av, aw⟩ := f.lend 0 rfl; exact bstr_op p (g := []) (e := 5) (ao := (sm b)) (cap := u1.toNat) (xs := c) rfl (by kernel_rfl) (by kernel_rfl) (by kernel_rfl) (by kernel_rfl)  aw av rfl)) ?_; intro aJ Y; clear p
 refine s1 Y 4 (str (bstr c)) ?_; intro aK ax; clear Y
 refine nlH (X _ _ ?_); clear X au
 refine wp_ret ?_
 refine ra1 ax (str (bstr c)) ?_
 exact ⟨bstr c, rfl, ar, f.below⟩

theorem bcheck_walk (u0 : List UInt8)  (Z : Fz) (w : World)  (hZ : Z.on w) {K : Int → Prop} (hp : bcheck_vc u0 K) : Calls Tryz.prog 31 #[str u0] w fun e w' => ∃ r : Int, e = .returned (i6 r) ∧ K r ∧ Below w.heap.size w w' := by
 refine enter0 Tryz.func31 rfl rfl (by kernel_rfl) ?_; intro z i; have a := Mem.start w Z hZ; have A := Fz.le.refl Z
 refine sqB i a [] [] [] ?_; intro B j; clear i
 refine wp_seq ?_
 refine sqB j a [] [] [(5, .bool (decide ((u0.length : Int) > 1000)))] ?_; intro C b; clear j
 refine cd b (t := decide ((u0.length : Int) > 1000)) (by kernel_rfl) (fun g => ?_) (fun g => ?_)
 ·
  have n := hp.1 g; clear hp
  refine sqB b a [] [] [(2, i6 2)] ?_; intro D o; clear b
  refine wp_ret ?_
  refine thr ?_
  refine ra1 o (i6 2) ?_
  exact ⟨2, rfl, n, a.below⟩
 have p := hp.2 g; clear hp
 refine wp_skip ?_
 refine thn ?_
 refine wp_seq ?_
 refine sqH ?_; intro q k
 refine s1 b 6 (str u0) ?_; intro E l; clear b
 obtain ⟨s, d⟩ := p
 refine fc l a (trim_fun u0 ([48, 49] : List UInt8) s _ _ a.fz) ?_; intro F G m f; clear l a
 refine sc m .neq (.bool ((trimS u0 ([48, 49] : List UInt8)) != ([] : List UInt8))) ?_; intro H c; clear m
 refine nlH (k _ _ ?_); clear k q
 refine cd c (t := (trimS u0 ([48, 49] : List UInt8)) != ([] : List UInt8)) (by kernel_rfl) (fun h => ?_) (fun h => ?_)
 ·
  have u := d.1 h; clear d
  refine sqB c f [] [] [(2, i6 4)] ?_; intro I v; clear c
  refine wp_ret ?_
  refine thr ?_
  refine ra1 v (i6 4) ?_
  exact ⟨4, rfl, u, f.below⟩
 have x := d.2 h; clear d
 refine wp_skip ?_
 refine thn ?_
 refine sqB c f [] [] [(2, i6 0)] ?_; intro J y; clear c
 refine wp_ret ?_
 refine ra1 y (i6 0) ?_
 exact ⟨0, rfl, x, f.below⟩

theorem smost_walk (u0 : Int)  (Z : Fz) (w : World)  (hZ : Z.on w) {K : (Int × Int) → Prop} (hp : smost_vc u0 K) : Calls Tryz.prog 62 #[i6 u0] w fun e w' => ∃ r : Int × Int, e = .returned (.tuple #[i6 r.1, i6 r.2]) ∧ K r ∧ Below w.heap.size w w' := by
 refine enter0 Tryz.func62 rfl rfl (by kernel_rfl) ?_; intro p h; have a := Mem.start w Z hZ; have q := Fz.le.refl Z
 refine sqB h a [] [] [] ?_; intro s i; clear h
 refine wp_seq ?_
 refine sqB i a [] [] [(9, .bool ((decide (u0 < 0)) || (decide (u0 > 1000))))] ?_; intro u b; clear i
 refine cd b (t := (decide (u0 < 0)) || (decide (u0 > 1000))) (by kernel_rfl) (fun f => ?_) (fun f => ?_)
 ·
  have j := hp.1 f; clear hp
  refine sqB b a [] [] [(2, i6 0), (3, i6 3)] ?_; intro v k; clear b
  refine wp_ret ?_
  refine thr ?_
  refine ra2 k (.tuple #[i6 0, i6 3]) ?_
  exact ⟨(0, 3), rfl, j, a.below⟩
 have d := hp.2 f; clear hp
 refine wp_skip ?_
 refine thn ?_
 refine wp_seq ?_
 refine sqB b a [] [] [(11, .bool (u0 == 0))] ?_; intro x c; clear b
 refine cd c (t := u0 == 0) (by kernel_rfl) (fun g => ?_) (fun g => ?_)
 ·
  have l := d.1 g; clear d
  refine sqB c a [] [] [(2, i6 0), (3, i6 0)] ?_; intro y m; clear c
  refine wp_ret ?_
  refine thr ?_
  refine ra2 m (.tuple #[i6 0, i6 0]) ?_
  exact ⟨(0, 0), rfl, l, a.below⟩
 have n := d.2 g; clear d
 refine wp_skip ?_
 refine thn ?_
 refine sqB c a [] [] [(2, i6 (w64 (u0 + (w64 ((w64 (u0 - 1)).tdiv 4))))), (3, i6 0)] ?_; intro z o; clear c
 refine wp_ret ?_
 refine ra2 o (.tuple #[i6 (w64 (u0 + (w64 ((w64 (u0 - 1)).tdiv 4)))), i6 0]) ?_
 exact ⟨(w64 (u0 + (w64 ((w64 (u0 - 1)).tdiv 4))), 0), rfl, n, a.below⟩
theorem smost_fun (u0 : Int)  (Z : Fz) (w : World)  (hZ : Z.on w) : Calls Tryz.prog 62 #[i6 u0] w fun e w' => e = .returned (.tuple #[i6 ((smost u0).1), i6 ((smost u0).2)]) ∧ Below w.heap.size w w' :=
  (smost_walk u0  Z w  hZ (smost_ok u0)).mono fun _ _ ⟨r, he, hk, hb⟩ => ⟨by subst hk; exact he, hb⟩

theorem ckinds_walk   (Z : Fz) (w : World)  (hZ : Z.on w) {K : (Kind × Kind × Kind × Kind × Kind) → Prop} (hp : ckinds_vc  K) : Calls Tryz.prog 70 #[] w fun e w' => ∃ r : (Kind × Kind × Kind × Kind × Kind), e = .returned (.agg #[i6 r.1.Size, y6 r.1.Poly, y6 r.1.From, y6 r.1.End, i6 r.2.1.Size, y6 r.2.1.Poly, y6 r.2.1.From, y6 r.2.1.End, i6 r.2.2.1.Size, y6 r.2.2.1.Poly, y6 r.2.2.1.From, y6 r.2.2.1.End, i6 r.2.2.2.1.Size, y6 r.2.2.2.1.Poly, y6 r.2.2.2.1.From, y6 r.2.2.2.1.End, i6 r.2.2.2.2.Size, y6 r.2.2.2.2.Poly, y6 r.2.2.2.2.From, y6 r.2.2.2.2.End]) ∧ K r ∧ Below w.heap.size w w' := by
 refine enter0 Tryz.func70 rfl rfl (by kernel_rfl) ?_; intro q f; have g := Mem.start w Z hZ; have s := Fz.le.refl Z
 refine sqH ?_; intro n h
 refine nw f g pb [i6 0, y6 0, y6 0, y6 0, i6 0, y6 0, y6 0, y6 0, i6 0, y6 0, y6 0, y6 0, i6 0, y6 0, y6 0, y6 0, i6 0, y6 0, y6 0, y6 0] 101 ?_; intro a t u i c; clear f g
 refine nlH (h _ _ ?_); clear h n
 refine sqH ?_; intro o j
 refine bt i c 6 [] [] [(6, .agg #[i6 15, y6 17817, y6 0, y6 0, i6 17, y6 92251, y6 65536, y6 0, i6 21, y6 1058969, y6 1048576, y6 0, i6 8, y6 47, y6 255, y6 255, i6 16, y6 4129, y6 65535, y6 0])] ?_; intro x d; clear i
 refine sx d c 0 [i6 15, y6 17817, y6 0, y6 0, i6 17, y6 92251, y6 65536, y6 0, i6 21, y6 1058969, y6 1048576, y6 0, i6 8, y6 47, y6 255, y6 255, i6 16, y6 4129, y6 65535, y6 0] 0 ?_; intro p l; clear c
 have m : Mem w.heap.size [] w Z [.row a [i6 15, y6 17817, y6 0, y6 0, i6 17, y6 92251, y6 65536, y6 0, i6 21, y6 1058969, y6 1048576, y6 0, i6 8, y6 47, y6 255, y6 255, i6 16, y6 4129, y6 65535, y6 0] 101] Z p := l; clear l
 refine nlH (j _ _ ?_); clear j o
 refine wp_ret ?_
 refine rt (fn := Tryz.f70) (v := .agg #[i6 15, y6 17817, y6 0, y6 0, i6 17, y6 92251, y6 65536, y6 0, i6 21, y6 1058969, y6 1048576, y6 0, i6 8, y6 47, y6 255, y6 255, i6 16, y6 4129, y6 65535, y6 0]) d (re1c d (fn := Tryz.f70) rfl (ad := ⟨a, 0, none⟩) (by kernel_rfl) (loadVar_run m 0 (b := a) (k := 20) (vs := [i6 15, y6 17817, y6 0, y6 0, i6 17, y6 92251, y6 65536, y6 0, i6 21, y6 1058969, y6 1048576, y6 0, i6 8, y6 47, y6 255, y6 255, i6 16, y6 4129, y6 65535, y6 0]) (ty := 101) rfl (by kernel_rfl) (by kernel_rfl)) ) ?_
 exact ⟨((⟨15, 17817, 0, 0⟩ : Kind), (⟨17, 92251, 65536, 0⟩ : Kind), (⟨21, 1058969, 1048576, 0⟩ : Kind), (⟨8, 47, 255, 255⟩ : Kind), (⟨16, 4129, 65535, 0⟩ : Kind)), rfl, hp, m.below⟩
theorem ckinds_fun   (Z : Fz) (w : World)  (hZ : Z.on w) : Calls Tryz.prog 70 #[] w fun e w' => e = .returned (.agg #[i6 ckinds.1.Size, y6 ckinds.1.Poly, y6 ckinds.1.From, y6 ckinds.1.End, i6 ckinds.2.1.Size, y6 ckinds.2.1.Poly, y6 ckinds.2.1.From, y6 ckinds.2.1.End, i6 ckinds.2.2.1.Size, y6 ckinds.2.2.1.Poly, y6 ckinds.2.2.1.From, y6 ckinds.2.2.1.End, i6 ckinds.2.2.2.1.Size, y6 ckinds.2.2.2.1.Poly, y6 ckinds.2.2.2.1.From, y6 ckinds.2.2.2.1.End, i6 ckinds.2.2.2.2.Size, y6 ckinds.2.2.2.2.Poly, y6 ckinds.2.2.2.2.From, y6 ckinds.2.2.2.2.End]) ∧ Below w.heap.size w w' :=
  (ckinds_walk   Z w  hZ (ckinds_ok )).mono fun _ _ ⟨r, he, hk, hb⟩ => ⟨by subst hk; exact he, hb⟩

theorem csize_walk (u0 : Int)  (Z : Fz) (w : World)  (hZ : Z.on w) {K : (Int × Int) → Prop} (hp : csize_vc u0 K) : Calls Tryz.prog 63 #[i6 u0] w fun e w' => ∃ r : Int × Int, e = .returned (.tuple #[i6 r.1, i6 r.2]) ∧ K r ∧ Below w.heap.size w w' := by
 refine enter0 Tryz.func63 rfl rfl (by kernel_rfl) ?_; intro P j; have d := Mem.start w Z hZ; have Q := Fz.le.refl Z
 refine sqB j d [] [] [] ?_; intro R k; clear j
 refine wp_seq ?_
 refine sqH ?_; intro G l
 refine s1 k 4 (i6 u0) ?_; intro S n; clear k
 refine s1 n 5 (.bool (decide (u0 < 0))) ?_; intro T o; clear n
 refine s1 o 6 (.bool (decide (u0 < 0))) ?_; intro U p; clear o
 have q := p.atom ((decide (u0 < 0)) == false) (by kernel_rfl); clear p
 refine gp q 7 0 [] (decide (u0 < 0)) (i6 u0) rfl rfl ?_; intro V s; clear q
 refine gcl s d (.agg #[i6 ckinds.1.Size, y6 ckinds.1.Poly, y6 ckinds.1.From, y6 ckinds.1.End, i6 ckinds.2.1.Size, y6 ckinds.2.1.Poly, y6 ckinds.2.1.From, y6 ckinds.2.1.End, i6 ckinds.2.2.1.Size, y6 ckinds.2.2.1.Poly, y6 ckinds.2.2.1.From, y6 ckinds.2.2.1.End, i6 ckinds.2.2.2.1.Size, y6 ckinds.2.2.2.1.Poly, y6 ckinds.2.2.2.1.From, y6 ckinds.2.2.2.1.End, i6 ckinds.2.2.2.2.Size, y6 ckinds.2.2.2.2.Poly, y6 ckinds.2.2.2.2.From, y6 ckinds.2.2.2.2.End]) 70 #[] (m := 0) (cj := []) (bj := decide (u0 < 0)) rfl rfl (by kernel_rfl) rfl (by kernel_rfl) (by kernel_rfl) (by kernel_rfl) (fun _ => by kernel_rfl) (fun hg => ckinds_fun  _ _ d.fz) ?_; intro W X u a; clear s d
 refine gp u 9 0 [] (decide (u0 < 0)) (i6 5) rfl rfl ?_; intro Y y; clear u
 refine gp y 10 0 [] (decide (u0 < 0)) (.bool (decide (u0 ≥ 5))) rfl rfl ?_; intro aa f; clear y
 refine st f (.bool ((decide (u0 < 0)) || (decide (u0 ≥ 5)))) (nog rfl _) rfl (by kernel_rfl) (pk_or f (g := []) (m := 0) (b := decide (u0 < 0)) (v := decide (u0 ≥ 5)) rfl (by kernel_rfl) (by kernel_rfl) (by kernel_rfl) rfl) ?_; intro z c; clear f
 refine nlH (l _ _ ?_); clear l G
 refine cd c (t := (decide (u0 < 0)) || (decide (u0 ≥ 5))) (by kernel_rfl) (fun h => ?_) (fun h => ?_)
 ·
  have H := hp.1 h; clear hp
  have A : Fr 16 [] [] z := c.reg; clear c
  refine sqB A a [] [] [(2, i6 0), (3, i6 8)] ?_; intro ab I; clear A
  refine wp_ret ?_
  refine thr ?_
  refine ra2 I (.tuple #[i6 0, i6 8]) ?_
  exact ⟨(0, 8), rfl, H, a.below⟩
 have J := hp.2 h; clear hp
 refine wp_skip ?_
 refine thn ?_
 have B : Fr 16 [] [⟨0, [], i6 u0⟩] z := c.reg; clear c
 refine sqH ?_; intro L C
 refine fc B a (ckinds_fun  _ _ a.fz) ?_; intro ac ad D E; clear B a
 refine s1 D 13 (i6 u0) ?_; intro ae i; clear D
 obtain ⟨M, N⟩ := J
 have hix : ∀ x : Int, 0 ≤ x ∧ x < 5 → x = 0 ∨ x = 1 ∨ x = 2 ∨ x = 3 ∨ x = 4 := by intro x hx; omega
 refine st i (.agg #[i6 (([ckinds.1.Size, ckinds.2.1.Size, ckinds.2.2.1.Size, ckinds.2.2.2.1.Size, ckinds.2.2.2.2.Size] : List Int).getD u0.toNat 0), y6 (([ckinds.1.Poly, ckinds.2.1.Poly, ckinds.2.2.1.Poly, ckinds.2.2.2.1.Poly, ckinds.2.2.2.2.Poly] : List Int).getD u0.toNat 0), y6 (([ckinds.1.From, ckinds.2.1.From, ckinds.2.2.1.From, ckinds.2.2.2.1.From, ckinds.2.2.2.2.From] : List Int).getD u0.toNat 0), y6 (([ckinds.1.End, ckinds.2.1.End, ckinds.2.2.1.End, ckinds.2.2.2.1.End, ckinds.2.2.2.2.End] : List Int).getD u0.toNat 0)]) (nog rfl _) rfl (by kernel_rfl) ((by generalize u0 = ix at *; rcases hix _ M with rfl | rfl | rfl | rfl | rfl <;> exact p0 i (by kernel_rfl))) ?_; intro af F; clear i
 refine bt F E 3 [] [] [(2, i6 (([ckinds.1.Size, ckinds.2.1.Size, ckinds.2.2.1.Size, ckinds.2.2.2.1.Size, ckinds.2.2.2.2.Size] : List Int).getD u0.toNat 0)), (3, i6 0)] ?_; intro ag O; clear F
 refine nlH (C _ _ ?_); clear C L
 refine wp_ret ?_
 refine ra2 O (.tuple #[i6 (([ckinds.1.Size, ckinds.2.1.Size, ckinds.2.2.1.Size, ckinds.2.2.2.1.Size, ckinds.2.2.2.2.Size] : List Int).getD u0.toNat 0), i6 0]) ?_
 exact ⟨(([ckinds.1.Size, ckinds.2.1.Size, ckinds.2.2.1.Size, ckinds.2.2.2.1.Size, ckinds.2.2.2.2.Size] : List Int).getD u0.toNat 0, 0), rfl, N, E.below⟩
theorem csize_fun (u0 : Int)  (Z : Fz) (w : World)  (hZ : Z.on w) : Calls Tryz.prog 63 #[i6 u0] w fun e w' => e = .returned (.tuple #[i6 ((csize u0).1), i6 ((csize u0).2)]) ∧ Below w.heap.size w w' :=
  (csize_walk u0  Z w  hZ (csize_ok u0)).mono fun _ _ ⟨r, he, hk, hb⟩ => ⟨by subst hk; exact he, hb⟩

theorem ksum_walk (u0 : Kind) (u1 : List UInt8)  (Z : Fz) (w : World)  (hZ : Z.on w) {K : Int → Prop} (hp : ksum_vc u0 u1 K) : Calls Tryz.prog 72 #[.agg #[i6 u0.Size, y6 u0.Poly, y6 u0.From, y6 u0.End], str u1] w fun e w' => ∃ r : Int, e = .returned (y6 r) ∧ K r ∧ Below w.heap.size w w' := by
 refine enter0 Tryz.func72 rfl rfl (by kernel_rfl) ?_; intro a0 p; have u := Mem.start w Z hZ; have ap := Fz.le.refl Z
 refine sqH ?_; intro V v
 refine nw p u pb [i6 u0.Size, y6 u0.Poly, y6 u0.From, y6 u0.End] 100 ?_; intro d a3 aq x f; clear p u
 refine s1 x 4 (y6 0) ?_; intro a7 y; clear x
 refine nlH (v _ _ ?_); clear v V
 refine sqB y f [0] [] [(5, y6 u0.From)] ?_; intro ar z; clear y
 refine sqH ?_; intro W A
 refine bt z f 3 [0] [] [(13, i6 (w64 (u0.Size - 1)))] ?_; intro au m; clear z
 obtain ⟨X, Y⟩ := hp
 refine st m (y6 (bShl .u64 1 (w64 (u0.Size - 1)))) (nog rfl _) rfl (by kernel_rfl) (shl_run m (g := []) (k' := .i64) rfl (by kernel_rfl) (by kernel_rfl) X rfl) ?_; intro av B; clear m
 refine s1 B 6 (y6 (bShl .u64 1 (w64 (u0.Size - 1)))) ?_; intro aw C; clear B
 refine nlH (A _ _ ?_); clear A W
 refine wp_seq ?_
 refine sqB C f [] [] [(16, i6 (u1.length : Int)), (17, i6 0)] ?_; intro D E; clear C
 refine wp_block ?_
 have F : Fr 45 [] [⟨1, [], str u1⟩, ⟨2, [], pt d 0⟩, ⟨5, [], y6 u0.From⟩, ⟨6, [], y6 (bShl .u64 1 (w64 (u0.Size - 1)))⟩, ⟨16, [], i6 (u1.length : Int)⟩, ⟨17, [], i6 0⟩] D := E.reg; clear E
 have G : Fr 45 [] [⟨1, [], str u1⟩, ⟨2, [], pt d 0⟩, ⟨5, [], y6 u0.From⟩, ⟨6, [], y6 (bShl .u64 1 (w64 (u0.Size - 1)))⟩, ⟨16, [], i6 (u1.length : Int)⟩, ⟨17, [], i6 0⟩] D := F.reg; clear F
 obtain ⟨aa, ab, ac, ad⟩ := Y
 refine lp (ι := Int × Int) (fun (s : Int × Int) => [⟨1, [], str u1⟩, ⟨2, [], pt d 0⟩, ⟨5, [], y6 s.1⟩, ⟨6, [], y6 (bShl .u64 1 (w64 (u0.Size - 1)))⟩, ⟨16, [], i6 (u1.length : Int)⟩, ⟨17, [], i6 s.2⟩]) (fun (s : Int × Int) => [.row d [i6 u0.Size, y6 u0.Poly, y6 u0.From, y6 u0.End] 100]) (fun (s : Int × Int) => Z) (fun (s : Int × Int) => aa s.1 s.2) (fun (s : Int × Int) => ab s.1 s.2) ⟨u0.From, 0⟩ ac (by exact G.reg) (by exact f) ?_
 rintro ⟨a, c⟩ ae af ag H I
 have J : Fr 45 [] [⟨1, [], str u1⟩, ⟨2, [], pt d 0⟩, ⟨5, [], y6 a⟩, ⟨6, [], y6 (bShl .u64 1 (w64 (u0.Size - 1)))⟩, ⟨16, [], i6 (u1.length : Int)⟩, ⟨17, [], i6 c⟩] af := H; clear H G
 have b : Mem w.heap.size [] w Z [.row d [i6 u0.Size, y6 u0.Poly, y6 u0.From, y6 u0.End] 100] Z ag := I; clear I f
 have j := ad a c ae
 refine sqB J b [] [] [(18, .bool (decide (c < (u1.length : Int))))] ?_; intro ax h; clear J
 refine wp_seq ?_
 refine cd h (t := decide (c < (u1.length : Int))) (by kernel_rfl) (fun n => ?_) (fun n => ?_)
 ·
  have ah := j.1 n; clear j
  refine wp_skip ?_
  refine thn ?_
  refine wp_seq ?_
  refine wp_block ?_
  refine sqB h b [] [] [(7, i6 c)] ?_; intro ay L; clear h
  refine sqH ?_; intro ai M
  refine bt L b 6 [] [] [(23, .bool ((bAnd .u64 a (bShl .u64 1 (w64 (u0.Size - 1)))) != 0)), (24, str u1), (25, i6 c)] ?_; intro az N; clear L
  obtain ⟨aj, ak⟩ := ah
  obtain ⟨k, O⟩ : ∃ q, u1[c.toNat]? = some q := ⟨_, List.getElem?_eq_getElem (by omega)⟩; have l := ak k O
  refine si N .i64 aj.1 O ?_; intro aA P; clear N
  refine bt P b 3 [] [] [(8, .bool (((bAnd .u64 a (bShl .u64 1 (w64 (u0.Size - 1)))) != 0) != ((k.toNat : Int) == 49)))] ?_; intro aB Q; clear P
  refine nlH (M _ _ ?_); clear M ai
  refine sqB Q b [] [] [(5, y6 (bAnd .u64 (bShl .u64 a 1) (wu64 ((bShl .u64 (bShl .u64 1 (w64 (u0.Size - 1))) 1) - 1))))] ?_; intro aC R; clear Q
  refine sqB R b [] [] [(35, .bool (((bAnd .u64 a (bShl .u64 1 (w64 (u0.Size - 1)))) != 0) != ((k.toNat : Int) == 49)))] ?_; intro aD i; clear R
  refine cd i (t := ((bAnd .u64 a (bShl .u64 1 (w64 (u0.Size - 1)))) != 0) != ((k.toNat : Int) == 49)) (by kernel_rfl) (fun o => ?_) (fun o => ?_)
  ·
   have S := l.1 o; clear l
   refine rgB i b [0] [] [(5, y6 (bXor .u64 (bAnd .u64 (bShl .u64 a 1) (wu64 ((bShl .u64 (bShl .u64 1 (w64 (u0.Size - 1))) 1) - 1))) u0.Poly))] ?_; intro aE T; clear i
   refine ibn ?_
   refine thn ?_
   refine rgB T b [] [] [(17, i6 (w64 (c + 1)))] ?_; intro aF al; clear T
   refine rd ?_
   exact ⟨⟨bXor .u64 (bAnd .u64 (bShl .u64 a 1) (wu64 ((bShl .u64 (bShl .u64 1 (w64 (u0.Size - 1))) 1) - 1))) u0.Poly, w64 (c + 1)⟩, S.1, S.2, (al.reg).anyβ _ (by kernel_rfl), b.keep (List.Sublist.cons_cons _ (List.Sublist.slnil))⟩
  have U := l.2 o; clear l
  refine wp_skip ?_
  refine ibn ?_
  refine thn ?_
  refine rgB i b [] [] [(17, i6 (w64 (c + 1)))] ?_; intro aG am; clear i
  refine rd ?_
  exact ⟨⟨bAnd .u64 (bShl .u64 a 1) (wu64 ((bShl .u64 (bShl .u64 1 (w64 (u0.Size - 1))) 1) - 1)), w64 (c + 1)⟩, U.1, U.2, (am.reg).anyβ _ (by kernel_rfl), b.keep (List.Sublist.cons_cons _ (List.Sublist.slnil))⟩
 have an := j.2 n; clear j
 refine wp_exit ?_
 refine thx ?_
 refine thx ?_
 refine ibx ?_
 refine thn ?_
 refine sqB h b [0] [] [(4, y6 (bXor .u64 a u0.End))] ?_; intro aH ao; clear h
 refine wp_ret ?_
 refine ra1 ao (y6 (bXor .u64 a u0.End)) ?_
 exact ⟨bXor .u64 a u0.End, rfl, an, b.below⟩

theorem cnext_walk (u0 : Counter) (u1 : Int) (b1 : Nat) (B : Nat) (w0 : World) (Z0 : Fz) (Rr : List Res) (Z : Fz) (w : World) (hM0 : Mem B [] w0 Z0 ((.row b1 [y8 u0.last, i6 u0.n] 57) :: Rr) Z w) (hZ : Z.on w) {K : (Int × Bool × Counter) → Prop} (hp : cnext_vc u0 u1 K) : Calls Tryz.prog 69 #[pt b1 0, y8 u1] w fun e w' => ∃ (r : Int × Bool × Counter) (Z' : Fz), e = .returned (.tuple #[y8 r.1, .bool r.2.1]) ∧ K r ∧ Fz.le Z Z' ∧ Mem B [] w0 Z0 ((.row b1 [y8 r.2.2.last, i6 r.2.2.n] 57) :: Rr) Z' w' := by
 refine enter0 Tryz.func69 rfl rfl (by kernel_rfl) ?_; intro a0 l; have m := Fz.le.refl Z
 refine sqB l hM0 [] [] [] ?_; intro a5 o; clear l
 refine wp_seq ?_
 refine sqB o hM0 [0] [] [(11, .bool (u1 == u0.last))] ?_; intro ah a; clear o
 refine cd a (t := u1 == u0.last) (by kernel_rfl) (fun c => ?_) (fun c => ?_)
 ·
  have S := hp.1 c; clear hp
  refine rgH ?_; intro T p
  refine bt a hM0 7 [0] [] [(16, i6 (w64 (u0.n + 1))), (18, pt b1 1)] ?_; intro U d; clear a
  refine sx d hM0 0 [y8 u0.last, i6 (w64 (u0.n + 1))] 1 ?_; intro V q; clear hM0
  have s : Mem B [] w0 Z0 ((.row b1 [y8 u0.last, i6 (w64 (u0.n + 1))] 57) :: Rr) Z V := q; clear q
  refine nlH (p _ _ ?_); clear p T
  refine thn ?_
  have u : Fr 33 [] [⟨0, [], pt b1 0⟩, ⟨1, [], y8 u1⟩] U := d.reg; clear d
  refine sqQH mixed (by kernel_rfl) s ?_; intro W v
  refine q1 u 26 (y8 u1) ?_; intro ai x; clear u
  refine q1 x 27 (y8 (w8 (97 - u1))) ?_; intro aj y; clear x
  refine q1 y 28 (pt b1 0) ?_; intro ak z; clear y
  refine q1 z 29 (pt b1 0) ?_; intro al A; clear z
  refine q1 A 30 (pt b1 1) ?_; intro am f; clear A
  refine qst f (i6 (w64 (u0.n + 1))) (nog rfl _) rfl (by kernel_rfl) (fun v57 hC => ld f hC 0 (g := []) (b := b1) (off := 1) (cs := [y8 u0.last, i6 (w64 (u0.n + 1))]) (ty := 57) rfl (by kernel_rfl) (by kernel_rfl) (by kernel_rfl) (by kernel_rfl) rfl) ?_; intro an C; clear f
  refine q1 C 32 (.bool ((w64 (u0.n + 1)) == 5)) ?_; intro ao D; clear C
  refine q1 D 4 (y8 (w8 (97 - u1))) ?_; intro ap E; clear D
  refine q1 E 5 (.bool ((w64 (u0.n + 1)) == 5)) ?_; intro aq X; clear E
  refine qnl (v _ ?_); clear v W; intro ar Y; clear s
  refine wp_ret ?_
  refine ra2 X (.tuple #[y8 (w8 (97 - u1)), .bool ((w64 (u0.n + 1)) == 5)]) ?_
  exact ⟨(w8 (97 - u1), (w64 (u0.n + 1)) == 5, (⟨u0.last, w64 (u0.n + 1)⟩ : Counter)), Z, rfl, S, m, Y.keep (List.Sublist.cons_cons _ (List.Sublist.refl _))⟩
 have aa := hp.2 c; clear hp
 refine rgH ?_; intro ab F
 refine bt a hM0 5 [] [] [(20, pt b1 0), (21, y8 u1), (23, pt b1 0)] ?_; intro au h; clear a
 refine sx h hM0 0 [y8 u1, i6 u0.n] 0 ?_; intro av i; clear hM0
 refine bt h i 2 [] [] [(25, pt b1 1)] ?_; intro ac j; clear h
 refine sx j i 0 [y8 u1, i6 1] 1 ?_; intro ad G; clear i
 have H : Mem B [] w0 Z0 ((.row b1 [y8 u1, i6 1] 57) :: Rr) Z ad := G; clear G
 refine nlH (F _ _ ?_); clear F ab
 refine thn ?_
 have I : Fr 33 [] [⟨0, [], pt b1 0⟩, ⟨1, [], y8 u1⟩] ac := j.reg; clear j
 refine sqQH mixed (by kernel_rfl) H ?_; intro ae J
 refine q1 I 26 (y8 u1) ?_; intro aw L; clear I
 refine q1 L 27 (y8 (w8 (97 - u1))) ?_; intro ax M; clear L
 refine q1 M 28 (pt b1 0) ?_; intro ay N; clear M
 refine q1 N 29 (pt b1 0) ?_; intro az O; clear N
 refine q1 O 30 (pt b1 1) ?_; intro aA k; clear O
 refine qst k (i6 1) (nog rfl _) rfl (by kernel_rfl) (fun v109 hC => ld k hC 0 (g := []) (b := b1) (off := 1) (cs := [y8 u1, i6 1]) (ty := 57) rfl (by kernel_rfl) (by kernel_rfl) (by kernel_rfl) (by kernel_rfl) rfl) ?_; intro aB P; clear k
 refine q1 P 32 (.bool false) ?_; intro aC Q; clear P
 refine q1 Q 4 (y8 (w8 (97 - u1))) ?_; intro aD R; clear Q
 refine q1 R 5 (.bool false) ?_; intro aE af; clear R
 refine qnl (J _ ?_); clear J ae; intro aF ag; clear H
 refine wp_ret ?_
 refine ra2 af (.tuple #[y8 (w8 (97 - u1)), .bool false]) ?_
 exact ⟨(w8 (97 - u1), false, (⟨u1, 1⟩ : Counter)), Z, rfl, aa, m, ag.keep (List.Sublist.cons_cons _ (List.Sublist.refl _))⟩



theorem cnextF_walk (u0 : FReader) (u1 : Int) (b1 : Nat) (ao2 : Option Addr) (cap3 : Nat) (B : Nat) (w0 : World) (Z0 : Fz) (Rr : List Res) (Z : Fz) (w : World) (hs4 : SlR t8 Z ao2 cap3 u0.f.Data) (hM0 : Mem B [] w0 Z0 ((.row b1 [str u0.Reader.Row, i6 u0.Reader.At, i6 u0.Reader.Code, y8 u0.Reader.c.last, i6 u0.Reader.c.n, i6 u0.f.ID, .bool u0.f.Long, .bool u0.f.Fast, .bool u0.f.Remote, i6 u0.f.Size, .slice ao2 u0.f.Data.length cap3] 61) :: Rr) Z w) (hZ : Z.on w) {K : (Int × Bool × FReader) → Prop} (hp : cnextF_vc u0 u1 K) : Calls Tryz.prog 69 #[pt b1 3, y8 u1] w fun e w' => ∃ (r : Int × Bool × FReader) (ao1001 : Option Addr) (cap1002 : Nat) (Z' : Fz), e = .returned (.tuple #[y8 r.1, .bool r.2.1]) ∧ K r ∧ Fz.le Z Z' ∧ SlR t8 Z' ao1001 cap1002 r.2.2.f.Data ∧ Mem B [] w0 Z0 ((.row b1 [str r.2.2.Reader.Row, i6 r.2.2.Reader.At, i6 r.2.2.Reader.Code, y8 r.2.2.Reader.c.last, i6 r.2.2.Reader.c.n, i6 r.2.2.f.ID, .bool r.2.2.f.Long, .bool r.2.2.f.Fast, .bool r.2.2.f.Remote, i6 r.2.2.f.Size, .slice ao1001 r.2.2.f.Data.length cap1002] 61) :: Rr) Z' w' := by
 refine enter0 Tryz.func69 rfl rfl (by kernel_rfl) ?_; intro a0 p; have q := Fz.le.refl Z
 have d := hp (hs4.small); clear hp
 refine sqB p hM0 [] [] [] ?_; intro a9 s; clear p
 refine wp_seq ?_
 refine sqB s hM0 [0] [] [(11, .bool (u1 == u0.Reader.c.last))] ?_; intro ak a; clear s
 refine cd a (t := u1 == u0.Reader.c.last) (by kernel_rfl) (fun h => ?_) (fun h => ?_)
 ·
  have V := d.1 h; clear d
  refine rgH ?_; intro W u
  refine bt a hM0 7 [0] [] [(16, i6 (w64 (u0.Reader.c.n + 1))), (18, pt b1 4)] ?_; intro X i; clear a
  refine sx i hM0 0 [str u0.Reader.Row, i6 u0.Reader.At, i6 u0.Reader.Code, y8 u0.Reader.c.last, i6 (w64 (u0.Reader.c.n + 1)), i6 u0.f.ID, .bool u0.f.Long, .bool u0.f.Fast, .bool u0.f.Remote, i6 u0.f.Size, .slice ao2 u0.f.Data.length cap3] 4 ?_; intro Y v; clear hM0
  have x : Mem B [] w0 Z0 ((.row b1 [str u0.Reader.Row, i6 u0.Reader.At, i6 u0.Reader.Code, y8 u0.Reader.c.last, i6 (w64 (u0.Reader.c.n + 1)), i6 u0.f.ID, .bool u0.f.Long, .bool u0.f.Fast, .bool u0.f.Remote, i6 u0.f.Size, .slice ao2 u0.f.Data.length cap3] 61) :: Rr) Z Y := v; clear v
  refine nlH (u _ _ ?_); clear u W
  refine thn ?_
  have y : Fr 33 [] [⟨0, [], pt b1 3⟩, ⟨1, [], y8 u1⟩] X := i.reg; clear i
  refine sqQH mixed (by kernel_rfl) x ?_; intro aa z
  refine q1 y 26 (y8 u1) ?_; intro al A; clear y
  refine q1 A 27 (y8 (w8 (97 - u1))) ?_; intro am C; clear A
  refine q1 C 28 (pt b1 3) ?_; intro an D; clear C
  refine q1 D 29 (pt b1 3) ?_; intro ao E; clear D
  refine q1 E 30 (pt b1 4) ?_; intro ap j; clear E
  refine qst j (i6 (w64 (u0.Reader.c.n + 1))) (nog rfl _) rfl (by kernel_rfl) (fun v61 hC => ld j hC 0 (g := []) (b := b1) (off := 4) (cs := [str u0.Reader.Row, i6 u0.Reader.At, i6 u0.Reader.Code, y8 u0.Reader.c.last, i6 (w64 (u0.Reader.c.n + 1)), i6 u0.f.ID, .bool u0.f.Long, .bool u0.f.Fast, .bool u0.f.Remote, i6 u0.f.Size, .slice ao2 u0.f.Data.length cap3]) (ty := 61) rfl (by kernel_rfl) (by kernel_rfl) (by kernel_rfl) (by kernel_rfl) rfl) ?_; intro aq F; clear j
  refine q1 F 32 (.bool ((w64 (u0.Reader.c.n + 1)) == 5)) ?_; intro ar G; clear F
  refine q1 G 4 (y8 (w8 (97 - u1))) ?_; intro au H; clear G
  refine q1 H 5 (.bool ((w64 (u0.Reader.c.n + 1)) == 5)) ?_; intro av ab; clear H
  refine qnl (z _ ?_); clear z aa; intro aw ac; clear x
  refine wp_ret ?_
  refine ra2 ab (.tuple #[y8 (w8 (97 - u1)), .bool ((w64 (u0.Reader.c.n + 1)) == 5)]) ?_
  exact ⟨(w8 (97 - u1), (w64 (u0.Reader.c.n + 1)) == 5, (⟨(⟨u0.Reader.Row, u0.Reader.At, u0.Reader.Code, (⟨u0.Reader.c.last, w64 (u0.Reader.c.n + 1)⟩ : Counter)⟩ : Reader), u0.f⟩ : FReader)), ao2, cap3, Z, rfl, V, q, hs4, ac.keep (List.Sublist.cons_cons _ (List.Sublist.refl _))⟩
 have ad := d.2 h; clear d
 refine rgH ?_; intro ae I
 refine bt a hM0 5 [] [] [(20, pt b1 3), (21, y8 u1), (23, pt b1 3)] ?_; intro ax k; clear a
 refine sx k hM0 0 [str u0.Reader.Row, i6 u0.Reader.At, i6 u0.Reader.Code, y8 u1, i6 u0.Reader.c.n, i6 u0.f.ID, .bool u0.f.Long, .bool u0.f.Fast, .bool u0.f.Remote, i6 u0.f.Size, .slice ao2 u0.f.Data.length cap3] 3 ?_; intro ay l; clear hM0
 refine bt k l 2 [] [] [(25, pt b1 4)] ?_; intro af m; clear k
 refine sx m l 0 [str u0.Reader.Row, i6 u0.Reader.At, i6 u0.Reader.Code, y8 u1, i6 1, i6 u0.f.ID, .bool u0.f.Long, .bool u0.f.Fast, .bool u0.f.Remote, i6 u0.f.Size, .slice ao2 u0.f.Data.length cap3] 4 ?_; intro ag J; clear l
 have L : Mem B [] w0 Z0 ((.row b1 [str u0.Reader.Row, i6 u0.Reader.At, i6 u0.Reader.Code, y8 u1, i6 1, i6 u0.f.ID, .bool u0.f.Long, .bool u0.f.Fast, .bool u0.f.Remote, i6 u0.f.Size, .slice ao2 u0.f.Data.length cap3] 61) :: Rr) Z ag := J; clear J
 refine nlH (I _ _ ?_); clear I ae
 refine thn ?_
 have M : Fr 33 [] [⟨0, [], pt b1 3⟩, ⟨1, [], y8 u1⟩] af := m.reg; clear m
 refine sqQH mixed (by kernel_rfl) L ?_; intro ah N
 refine q1 M 26 (y8 u1) ?_; intro az O; clear M
 refine q1 O 27 (y8 (w8 (97 - u1))) ?_; intro aA P; clear O
 refine q1 P 28 (pt b1 3) ?_; intro aB Q; clear P
 refine q1 Q 29 (pt b1 3) ?_; intro aC R; clear Q
 refine q1 R 30 (pt b1 4) ?_; intro aD o; clear R
 refine qst o (i6 1) (nog rfl _) rfl (by kernel_rfl) (fun v113 hC => ld o hC 0 (g := []) (b := b1) (off := 4) (cs := [str u0.Reader.Row, i6 u0.Reader.At, i6 u0.Reader.Code, y8 u1, i6 1, i6 u0.f.ID, .bool u0.f.Long, .bool u0.f.Fast, .bool u0.f.Remote, i6 u0.f.Size, .slice ao2 u0.f.Data.length cap3]) (ty := 61) rfl (by kernel_rfl) (by kernel_rfl) (by kernel_rfl) (by kernel_rfl) rfl) ?_; intro aE S; clear o
 refine q1 S 32 (.bool false) ?_; intro aF T; clear S
 refine q1 T 4 (y8 (w8 (97 - u1))) ?_; intro aG U; clear T
 refine q1 U 5 (.bool false) ?_; intro aH ai; clear U
 refine qnl (N _ ?_); clear N ah; intro aI aj; clear L
 refine wp_ret ?_
 refine ra2 ai (.tuple #[y8 (w8 (97 - u1)), .bool false]) ?_
 exact ⟨(w8 (97 - u1), false, (⟨(⟨u0.Reader.Row, u0.Reader.At, u0.Reader.Code, (⟨u1, 1⟩ : Counter)⟩ : Reader), u0.f⟩ : FReader)), ao2, cap3, Z, rfl, ad, q, hs4, aj.keep (List.Sublist.cons_cons _ (List.Sublist.refl _))⟩

theorem rbitF_walk (u0 : FReader) (b1 : Nat) (ao2 : Option Addr) (cap3 : Nat) (B : Nat) (w0 : World) (Z0 : Fz) (Rr : List Res) (Z : Fz) (w : World) (hs4 : SlR t8 Z ao2 cap3 u0.f.Data) (hM0 : Mem B [] w0 Z0 ((.row b1 [str u0.Reader.Row, i6 u0.Reader.At, i6 u0.Reader.Code, y8 u0.Reader.c.last, i6 u0.Reader.c.n, i6 u0.f.ID, .bool u0.f.Long, .bool u0.f.Fast, .bool u0.f.Remote, i6 u0.f.Size, .slice ao2 u0.f.Data.length cap3] 61) :: Rr) Z w) (hZ : Z.on w) {K : (Int × FReader) → Prop} (hp : rbitF_vc u0 K) : Calls Tryz.prog 68 #[pt b1 0] w fun e w' => ∃ (r : Int × FReader) (ao1001 : Option Addr) (cap1002 : Nat) (Z' : Fz), e = .returned (y8 r.1) ∧ K r ∧ Fz.le Z Z' ∧ SlR t8 Z' ao1001 cap1002 r.2.f.Data ∧ Mem B [] w0 Z0 ((.row b1 [str r.2.Reader.Row, i6 r.2.Reader.At, i6 r.2.Reader.Code, y8 r.2.Reader.c.last, i6 r.2.Reader.c.n, i6 r.2.f.ID, .bool r.2.f.Long, .bool r.2.f.Fast, .bool r.2.f.Remote, i6 r.2.f.Size, .slice ao1001 r.2.f.Data.length cap1002] 61) :: Rr) Z' w' := by
 refine enter0 Tryz.func68 rfl rfl (by kernel_rfl) ?_; intro a0 C; have m := Fz.le.refl Z
 have j := hp (hs4.small); clear hp
 refine sqB C hM0 [] [] [] ?_; intro a7 D; clear C
 refine wp_seq ?_
 refine sqB D hM0 [0] [] [(7, .bool (u0.Reader.Code != 0))] ?_; intro af d; clear D
 refine cd d (t := u0.Reader.Code != 0) (by kernel_rfl) (fun o => ?_) (fun o => ?_)
 ·
  have ag := j.1 o; clear j
  refine sqB d hM0 [] [] [(2, y8 48)] ?_; intro az ah; clear d
  refine wp_ret ?_
  refine thr ?_
  refine ra1 ah (y8 48) ?_
  exact ⟨(48, u0), ao2, cap3, Z, rfl, ag, m, hs4, hM0.keep (List.Sublist.cons_cons _ (List.Sublist.refl _))⟩
 have l := j.2 o; clear j
 refine wp_skip ?_
 refine thn ?_
 refine wp_seq ?_
 have E : Fr 38 [] [⟨0, [], pt b1 0⟩] af := d.reg; clear d
 refine sqQH mixed (by kernel_rfl) hM0 ?_; intro ai F
 refine q1 E 8 (pt b1 0) ?_; intro aA G; clear E
 refine q1 G 9 (pt b1 0) ?_; intro aB H; clear G
 refine q1 H 10 (pt b1 1) ?_; intro aC p; clear H
 refine qst p (i6 u0.Reader.At) (nog rfl _) rfl (by kernel_rfl) (fun v37 hC => ld p hC 0 (g := []) (b := b1) (off := 1) (cs := [str u0.Reader.Row, i6 u0.Reader.At, i6 u0.Reader.Code, y8 u0.Reader.c.last, i6 u0.Reader.c.n, i6 u0.f.ID, .bool u0.f.Long, .bool u0.f.Fast, .bool u0.f.Remote, i6 u0.f.Size, .slice ao2 u0.f.Data.length cap3]) (ty := 61) rfl (by kernel_rfl) (by kernel_rfl) (by kernel_rfl) (by kernel_rfl) rfl) ?_; intro aD I; clear p
 refine q1 I 12 (pt b1 0) ?_; intro aE J; clear I
 refine q1 J 13 (pt b1 0) ?_; intro aF L; clear J
 refine q1 L 14 (pt b1 0) ?_; intro aG s; clear L
 refine qst s (str u0.Reader.Row) (nog rfl _) rfl (by kernel_rfl) (fun v49 hC => ld s hC 0 (g := []) (b := b1) (off := 0) (cs := [str u0.Reader.Row, i6 u0.Reader.At, i6 u0.Reader.Code, y8 u0.Reader.c.last, i6 u0.Reader.c.n, i6 u0.f.ID, .bool u0.f.Long, .bool u0.f.Fast, .bool u0.f.Remote, i6 u0.f.Size, .slice ao2 u0.f.Data.length cap3]) (ty := 61) rfl (by kernel_rfl) (by kernel_rfl) (by kernel_rfl) (by kernel_rfl) rfl) ?_; intro aH M; clear s
 refine q1 M 16 (i6 (u0.Reader.Row.length : Int)) ?_; intro aI N; clear M
 refine q1 N 17 (.bool (u0.Reader.At == (u0.Reader.Row.length : Int))) ?_; intro aJ h; clear N
 refine qnl (F _ ?_); clear F ai; intro aK a; clear hM0
 refine cd h (t := u0.Reader.At == (u0.Reader.Row.length : Int)) (by kernel_rfl) (fun u => ?_) (fun u => ?_)
 ·
  have aj := l.1 u; clear l
  refine sqH ?_; intro ak O
  refine bt h a 3 [] [] [(20, pt b1 2)] ?_; intro aL v; clear h
  refine sx v a 0 [str u0.Reader.Row, i6 u0.Reader.At, i6 7, y8 u0.Reader.c.last, i6 u0.Reader.c.n, i6 u0.f.ID, .bool u0.f.Long, .bool u0.f.Fast, .bool u0.f.Remote, i6 u0.f.Size, .slice ao2 u0.f.Data.length cap3] 2 ?_; intro al P; clear a
  have Q : Mem B [] w0 Z0 ((.row b1 [str u0.Reader.Row, i6 u0.Reader.At, i6 7, y8 u0.Reader.c.last, i6 u0.Reader.c.n, i6 u0.f.ID, .bool u0.f.Long, .bool u0.f.Fast, .bool u0.f.Remote, i6 u0.f.Size, .slice ao2 u0.f.Data.length cap3] 61) :: Rr) Z al := P; clear P
  refine nlH (O _ _ ?_); clear O ak
  refine sqB v Q [] [] [(2, y8 48)] ?_; intro aM am; clear v
  refine wp_ret ?_
  refine thr ?_
  refine ra1 am (y8 48) ?_
  exact ⟨(48, (⟨(⟨u0.Reader.Row, u0.Reader.At, 7, u0.Reader.c⟩ : Reader), u0.f⟩ : FReader)), ao2, cap3, Z, rfl, aj, m, hs4, Q.keep (List.Sublist.cons_cons _ (List.Sublist.refl _))⟩
 have an := l.2 u; clear l
 refine wp_skip ?_
 refine thn ?_
 refine sqH ?_; intro ao R
 refine bt h a 7 [0] [] [(25, i6 (w64 (u0.Reader.At + 1))), (27, pt b1 1)] ?_; intro ap x; clear h
 refine sx x a 0 [str u0.Reader.Row, i6 (w64 (u0.Reader.At + 1)), i6 u0.Reader.Code, y8 u0.Reader.c.last, i6 u0.Reader.c.n, i6 u0.f.ID, .bool u0.f.Long, .bool u0.f.Fast, .bool u0.f.Remote, i6 u0.f.Size, .slice ao2 u0.f.Data.length cap3] 1 ?_; intro aq S; clear a
 have T : Mem B [] w0 Z0 ((.row b1 [str u0.Reader.Row, i6 (w64 (u0.Reader.At + 1)), i6 u0.Reader.Code, y8 u0.Reader.c.last, i6 u0.Reader.c.n, i6 u0.f.ID, .bool u0.f.Long, .bool u0.f.Fast, .bool u0.f.Remote, i6 u0.f.Size, .slice ao2 u0.f.Data.length cap3] 61) :: Rr) Z aq := S; clear S
 refine nlH (R _ _ ?_); clear R ao
 have U : Fr 38 [] [⟨0, [], pt b1 0⟩] ap := x.reg; clear x
 refine sqQH mixed (by kernel_rfl) T ?_; intro ar V
 refine q1 U 28 (pt b1 0) ?_; intro aN W; clear U
 refine q1 W 29 (pt b1 0) ?_; intro aO X; clear W
 refine q1 X 30 (pt b1 0) ?_; intro aP y; clear X
 refine qst y (str u0.Reader.Row) (nog rfl _) rfl (by kernel_rfl) (fun v105 hC => ld y hC 0 (g := []) (b := b1) (off := 0) (cs := [str u0.Reader.Row, i6 (w64 (u0.Reader.At + 1)), i6 u0.Reader.Code, y8 u0.Reader.c.last, i6 u0.Reader.c.n, i6 u0.f.ID, .bool u0.f.Long, .bool u0.f.Fast, .bool u0.f.Remote, i6 u0.f.Size, .slice ao2 u0.f.Data.length cap3]) (ty := 61) rfl (by kernel_rfl) (by kernel_rfl) (by kernel_rfl) (by kernel_rfl) rfl) ?_; intro aQ Y; clear y
 refine q1 Y 32 (pt b1 0) ?_; intro aR aa; clear Y
 refine q1 aa 33 (pt b1 0) ?_; intro aS ab; clear aa
 refine q1 ab 34 (pt b1 1) ?_; intro aT z; clear ab
 refine qst z (i6 (w64 (u0.Reader.At + 1))) (nog rfl _) rfl (by kernel_rfl) (fun v117 hC => ld z hC 0 (g := []) (b := b1) (off := 1) (cs := [str u0.Reader.Row, i6 (w64 (u0.Reader.At + 1)), i6 u0.Reader.Code, y8 u0.Reader.c.last, i6 u0.Reader.c.n, i6 u0.f.ID, .bool u0.f.Long, .bool u0.f.Fast, .bool u0.f.Remote, i6 u0.f.Size, .slice ao2 u0.f.Data.length cap3]) (ty := 61) rfl (by kernel_rfl) (by kernel_rfl) (by kernel_rfl) (by kernel_rfl) rfl) ?_; intro aU ac; clear z
 refine q1 ac 36 (i6 (w64 ((w64 (u0.Reader.At + 1)) - 1))) ?_; intro aV A; clear ac
 obtain ⟨au, av⟩ := an
 obtain ⟨i, ad⟩ : ∃ q, u0.Reader.Row[(w64 ((w64 (u0.Reader.At + 1)) - 1)).toNat]? = some q := ⟨_, List.getElem?_eq_getElem (by omega)⟩; have aw := av i ad
 refine qst A (y8 (i.toNat : Int)) (nog rfl _) rfl (by kernel_rfl) (fun v123 hC => stridx_run A (k := .i64) rfl (by kernel_rfl) (by kernel_rfl) (by kernel_rfl) au.1 ad) ?_; intro aW ae; clear A
 refine q1 ae 2 (y8 (i.toNat : Int)) ?_; intro aX ax; clear ae
 refine qnl (V _ ?_); clear V ar; intro aY ay; clear T
 refine wp_ret ?_
 refine ra1 ax (y8 (i.toNat : Int)) ?_
 exact ⟨((i.toNat : Int), (⟨(⟨u0.Reader.Row, w64 (u0.Reader.At + 1), u0.Reader.Code, u0.Reader.c⟩ : Reader), u0.f⟩ : FReader)), ao2, cap3, Z, rfl, aw, m, hs4, ay.keep (List.Sublist.cons_cons _ (List.Sublist.refl _))⟩

theorem fsizes_walk   (Z : Fz) (w : World)  (hZ : Z.on w) {K : (List Int) → Prop} (hp : fsizes_vc  K) : Calls Tryz.prog 35 #[] w fun e w' => ∃ (r : (List Int)) (ao1001 : Option Addr) (cap1002 : Nat) (Z' : Fz), e = .returned (.slice ao1001 r.length cap1002) ∧ K r ∧ Mem w.heap.size [] w Z [.own t6 3 ao1001 cap1002 r] Z' w' := by
 refine enter0 Tryz.func35 rfl rfl (by kernel_rfl) ?_; intro n d; have c := Mem.start w Z hZ; have o := Fz.le.refl Z
 refine sqB d c [] [] [] ?_; intro p f; clear d
 refine sqH ?_; intro j g
 refine nw f c (fun b => .slice (sm b) 16 16) [i6 0, i6 1, i6 2, i6 3, i6 4, i6 5, i6 6, i6 7, i6 8, i6 12, i6 16, i6 20, i6 24, i6 32, i6 48, i6 64] 3 ?_; intro a q k h i; clear f c
 refine s1 h 0 (.slice (sm a) 16 16) ?_; intro s l; clear h
 refine nlH (g _ _ ?_); clear g j
 refine wp_ret ?_
 have m : Mem w.heap.size [] w Z [.own t6 3 (sm a) 16 ([0, 1, 2, 3, 4, 5, 6, 7, 8, 12, 16, 20, 24, 32, 48, 64] : List Int)] Z k := i.rowOwn (T := t6) (xs := ([0, 1, 2, 3, 4, 5, 6, 7, 8, 12, 16, 20, 24, 32, 48, 64] : List Int)) 0 rfl (by decide) (by show 16 ≤ lim; decide) ((RepAll.one (T := t6) (x := 0) rfl).append ((RepAll.one (T := t6) (x := 1) rfl).append ((RepAll.one (T := t6) (x := 2) rfl).append ((RepAll.one (T := t6) (x := 3) rfl).append ((RepAll.one (T := t6) (x := 4) rfl).append ((RepAll.one (T := t6) (x := 5) rfl).append ((RepAll.one (T := t6) (x := 6) rfl).append ((RepAll.one (T := t6) (x := 7) rfl).append ((RepAll.one (T := t6) (x := 8) rfl).append ((RepAll.one (T := t6) (x := 12) rfl).append ((RepAll.one (T := t6) (x := 16) rfl).append ((RepAll.one (T := t6) (x := 20) rfl).append ((RepAll.one (T := t6) (x := 24) rfl).append ((RepAll.one (T := t6) (x := 32) rfl).append ((RepAll.one (T := t6) (x := 48) rfl).append (RepAll.one (T := t6) (x := 64) rfl)))))))))))))))); clear i
 refine ra1 l (.slice (sm a) ([0, 1, 2, 3, 4, 5, 6, 7, 8, 12, 16, 20, 24, 32, 48, 64] : List Int).length 16) ?_
 exact ⟨([0, 1, 2, 3, 4, 5, 6, 7, 8, 12, 16, 20, 24, 32, 48, 64] : List Int), (sm a), 16, Z, rfl, hp, m.keep (List.Sublist.cons_cons _ (List.Sublist.slnil))⟩
theorem fsizes_fun   (Z : Fz) (w : World)  (hZ : Z.on w) : Calls Tryz.prog 35 #[] w fun e w' => ∃ (ao1001 : Option Addr) (cap1002 : Nat) (Z' : Fz), e = .returned (.slice ao1001 fsizes.length cap1002) ∧ Mem w.heap.size [] w Z [.own t6 3 ao1001 cap1002 fsizes] Z' w' :=
  (fsizes_walk   Z w  hZ (fsizes_ok )).mono fun _ _ ⟨r, h0, h1, h2, he, hk, hm⟩ => by subst hk; exact ⟨h0, h1, h2, he, hm⟩

theorem fbit_walk (u0 : Bool)  (Z : Fz) (w : World)  (hZ : Z.on w) {K : (List UInt8) → Prop} (hp : fbit_vc u0 K) : Calls Tryz.prog 87 #[.bool u0] w fun e w' => ∃ r : (List UInt8), e = .returned (str r) ∧ K r ∧ Below w.heap.size w w' := by
 refine enter0 Tryz.func87 rfl rfl (by kernel_rfl) ?_; intro k d; have a := Mem.start w Z hZ; have l := Fz.le.refl Z
 refine sqB d a [] [] [] ?_; intro m f; clear d
 refine wp_seq ?_
 refine sqB f a [] [] [(3, .bool u0)] ?_; intro n b; clear f
 refine cd b (t := u0) (by kernel_rfl) (fun c => ?_) (fun c => ?_)
 ·
  have g := hp.1 c; clear hp
  refine sqB b a [] [] [(2, str ([49] : List UInt8))] ?_; intro o h; clear b
  refine wp_ret ?_
  refine thr ?_
  refine ra1 h (str ([49] : List UInt8)) ?_
  exact ⟨([49] : List UInt8), rfl, g, a.below⟩
 have i := hp.2 c; clear hp
 refine wp_skip ?_
 refine thn ?_
 refine sqB b a [] [] [(2, str ([48] : List UInt8))] ?_; intro p j; clear b
 refine wp_ret ?_
 refine ra1 j (str ([48] : List UInt8)) ?_
 exact ⟨([48] : List UInt8), rfl, i, a.below⟩
theorem fbit_fun (u0 : Bool)  (Z : Fz) (w : World)  (hZ : Z.on w) : Calls Tryz.prog 87 #[.bool u0] w fun e w' => e = .returned (str (fbit u0)) ∧ Below w.heap.size w w' :=
  (fbit_walk u0  Z w  hZ (fbit_ok u0)).mono fun _ _ ⟨r, he, hk, hb⟩ => ⟨by subst hk; exact he, hb⟩

theorem fkind_walk (u0 : Frame) (ao1 : Option Addr) (cap2 : Nat) (Z : Fz) (w : World) (hs3 : SlR t8 Z ao1 cap2 u0.Data) (hZ : Z.on w) {K : Int → Prop} (hp : fkind_vc u0 K) : Calls Tryz.prog 56 #[.agg #[i6 u0.ID, .bool u0.Long, .bool u0.Fast, .bool u0.Remote, i6 u0.Size, .slice ao1 u0.Data.length cap2]] w fun e w' => ∃ r : Int, e = .returned (i6 r) ∧ K r ∧ Below w.heap.size w w' := by
 refine enter0 Tryz.func56 rfl rfl (by kernel_rfl) ?_; intro x i; have j := Mem.start w Z hZ; have y := Fz.le.refl Z
 have d := hp (hs3.small); clear hp
 refine sqH ?_; intro n k
 refine nw i j pb [i6 u0.ID, .bool u0.Long, .bool u0.Fast, .bool u0.Remote, i6 u0.Size, .slice ao1 u0.Data.length cap2] 24 ?_; intro z A B l a; clear i j
 refine s1 l 2 (i6 0) ?_; intro C m; clear l
 refine nlH (k _ _ ?_); clear k n
 refine wp_seq ?_
 refine wp_block ?_
 refine sqB m a [0] [] [(3, .bool (!u0.Fast))] ?_; intro D b; clear m
 refine cd b (t := !u0.Fast) (by kernel_rfl) (fun g => ?_) (fun g => ?_)
 ·
  have o := d.1 g; clear d
  refine sqB b a [] [] [(2, i6 0)] ?_; intro E p; clear b
  refine wp_ret ?_
  refine ibr ?_
  refine thr ?_
  refine ra1 p (i6 0) ?_
  exact ⟨0, rfl, o, a.below⟩
 have f := d.2 g; clear d
 refine sqB b a [0] [] [(7, .bool (decide ((u0.Data.length : Int) ≤ 16)))] ?_; intro F c; clear b
 refine cd c (t := decide ((u0.Data.length : Int) ≤ 16)) (by kernel_rfl) (fun h => ?_) (fun h => ?_)
 ·
  have q := f.1 h; clear f
  refine sqB c a [] [] [(2, i6 1)] ?_; intro G s; clear c
  refine wp_ret ?_
  refine ibr ?_
  refine thr ?_
  refine ra1 s (i6 1) ?_
  exact ⟨1, rfl, q, a.below⟩
 have u := f.2 h; clear f
 refine wp_skip ?_
 refine ibn ?_
 refine thn ?_
 refine sqB c a [] [] [(2, i6 2)] ?_; intro H v; clear c
 refine wp_ret ?_
 refine ra1 v (i6 2) ?_
 exact ⟨2, rfl, u, a.below⟩
theorem fkind_fun (u0 : Frame) (ao1 : Option Addr) (cap2 : Nat) (Z : Fz) (w : World) (hs3 : SlR t8 Z ao1 cap2 u0.Data) (hZ : Z.on w) : Calls Tryz.prog 56 #[.agg #[i6 u0.ID, .bool u0.Long, .bool u0.Fast, .bool u0.Remote, i6 u0.Size, .slice ao1 u0.Data.length cap2]] w fun e w' => e = .returned (i6 (fkind u0)) ∧ Below w.heap.size w w' :=
  (fkind_walk u0 ao1 cap2 Z w hs3 hZ (fkind_ok u0)).mono fun _ _ ⟨r, he, hk, hb⟩ => ⟨by subst hk; exact he, hb⟩

theorem sindex_walk (u0 : List Int) (u1 : Int) (ao1 : Option Addr) (cap2 : Nat) (Z : Fz) (w : World) (hs3 : SlR t6 Z ao1 cap2 u0) (hZ : Z.on w) {K : Int → Prop} (hp : sindex_vc u0 u1 K) : Calls Tryz.prog 27 #[.slice ao1 u0.length cap2, i6 u1] w fun e w' => ∃ r : Int, e = .returned (i6 r) ∧ K r ∧ Below w.heap.size w w' := by
 refine enter0 Tryz.func27 rfl rfl (by kernel_rfl) ?_; intro a0 m; have g := Mem.start w Z hZ; have ad := Fz.le.refl Z
 have G := hp (hs3.small); clear hp
 refine sqB m g [] [] [] ?_; intro a6 n; clear m
 refine wp_seq ?_
 refine sqB n g [] [] [(7, i6 (u0.length : Int)), (8, i6 0)] ?_; intro o p; clear n
 refine wp_block ?_
 have q : Fr 19 [] [⟨0, [], .slice ao1 u0.length cap2⟩, ⟨1, [], i6 u1⟩, ⟨7, [], i6 (u0.length : Int)⟩, ⟨8, [], i6 0⟩] o := p.reg; clear p
 have u : Fr 19 [] [⟨0, [], .slice ao1 u0.length cap2⟩, ⟨1, [], i6 u1⟩, ⟨7, [], i6 (u0.length : Int)⟩, ⟨8, [], i6 0⟩] o := q.reg; clear q
 obtain ⟨H, I, J, L⟩ := G
 refine lp (ι := Int) (fun (s : Int) => [⟨0, [], .slice ao1 u0.length cap2⟩, ⟨1, [], i6 u1⟩, ⟨7, [], i6 (u0.length : Int)⟩, ⟨8, [], i6 s⟩]) (fun (s : Int) => []) (fun (s : Int) => Z) (fun (s : Int) => H s) (fun (s : Int) => I s) 0 J (by exact u.reg) (by exact g) ?_
 rintro a M N O v x
 have y : Fr 19 [] [⟨0, [], .slice ao1 u0.length cap2⟩, ⟨1, [], i6 u1⟩, ⟨7, [], i6 (u0.length : Int)⟩, ⟨8, [], i6 a⟩] N := v; clear v u
 have b : Mem w.heap.size [] w Z [] Z O := x; clear x g
 have h := L a M
 refine sqB y b [] [] [(9, .bool (decide (a < (u0.length : Int))))] ?_; intro ae c; clear y
 refine wp_seq ?_
 refine cd c (t := decide (a < (u0.length : Int))) (by kernel_rfl) (fun j => ?_) (fun j => ?_)
 ·
  have P := h.1 j; clear h
  refine wp_skip ?_
  refine thn ?_
  refine wp_seq ?_
  refine wp_block ?_
  refine sqB c b [] [] [(5, i6 a)] ?_; intro af z; clear c
  refine sqH ?_; intro Q A
  refine bt z b 3 [] [] [(11, i6 u1), (12, .slice ao1 u0.length cap2), (13, i6 a)] ?_; intro ag B; clear z
  obtain ⟨R, C⟩ := P
  refine ix B (T := t6) (xs := u0) hs3 a R (k := .i64) (e := 3) (bytes := 8) (nog rfl _) rfl (by kernel_rfl) rfl (by kernel_rfl) (by kernel_rfl) (by kernel_rfl) ?_; intro ah ai S d aj U V W D; clear B
  have i := C d U; clear C
  obtain rfl : S = ([i6 d] : List Value) := W
  refine z1 D b 15 V 0 (i6 d) rfl ?_; intro ak E; clear D
  refine s1 E 16 (.bool (u1 == d)) ?_; intro al f; clear E
  refine nlH (A _ _ ?_); clear A Q
  refine cd f (t := u1 == d) (by kernel_rfl) (fun l => ?_) (fun l => ?_)
  ·
   have X := i.1 l; clear i
   refine sqB f b [] [] [(4, i6 a)] ?_; intro am Y; clear f
   refine wp_ret ?_
   refine ibr ?_
   refine thr ?_
   refine thr ?_
   refine ibr ?_
   refine thr ?_
   refine ra1 Y (i6 a) ?_
   exact ⟨a, rfl, X, b.below⟩
  have F := i.2 l; clear i
  refine wp_skip ?_
  refine ibn ?_
  refine thn ?_
  refine rgB f b [] [] [(8, i6 (w64 (a + 1)))] ?_; intro an aa; clear f
  refine rd ?_
  exact ⟨w64 (a + 1), F.1, F.2, (aa.reg).anyβ _ (by kernel_rfl), b.keep (List.Sublist.slnil)⟩
 have ab := h.2 j; clear h
 refine wp_exit ?_
 refine thx ?_
 refine thx ?_
 refine ibx ?_
 refine thn ?_
 refine sqB c b [] [] [(4, i6 (-1))] ?_; intro ao ac; clear c
 refine wp_ret ?_
 refine ra1 ac (i6 (-1)) ?_
 exact ⟨-1, rfl, ab, b.below⟩

theorem scontains_walk (u0 : List Int) (u1 : Int) (ao1 : Option Addr) (cap2 : Nat) (Z : Fz) (w : World) (hs3 : SlR t6 Z ao1 cap2 u0) (hZ : Z.on w) {K : Bool → Prop} (hp : scontains_vc u0 u1 K) : Calls Tryz.prog 58 #[.slice ao1 u0.length cap2, i6 u1] w fun e w' => ∃ r : Bool, e = .returned (.bool r) ∧ K r ∧ Below w.heap.size w w' := by
 refine enter0 Tryz.func58 rfl rfl (by kernel_rfl) ?_; intro n c; have a := Mem.start w Z hZ; have o := Fz.le.refl Z
 have j := hp (hs3.small); clear hp
 refine sqB c a [] [] [] ?_; intro p d; clear c
 refine sqH ?_; intro k f
 refine bt d a 2 [] [] [(5, .slice ao1 u0.length cap2), (6, i6 u1)] ?_; intro q g; clear d
 refine ck g 27 #[.slice ao1 u0.length cap2, i6 u1] ?_
 refine (sindex_walk u0 u1 ao1 cap2 _ _ hs3 a.fz j).mono ?_; rintro _ s ⟨b, rfl, l, hb⟩; refine ⟨_, rfl, ?_⟩; intro t h; have i := a.call hb; clear hb a g
 refine bt h i 2 [] [] [(4, .bool (decide (b ≥ 0)))] ?_; intro u m; clear h
 refine nlH (f _ _ ?_); clear f k
 refine wp_ret ?_
 refine ra1 m (.bool (decide (b ≥ 0))) ?_
 exact ⟨decide (b ≥ 0), rfl, l, i.below⟩

end Go.Proofs.YtmbdcehmeiiaoaaGreatDoor
set_option linter.unusedVariables false
set_option linter.unusedSimpArgs false
set_option maxRecDepth 100000
set_option maxHeartbeats 0
namespace Go.Proofs.YtmbdcehmeiiaoaaGreatDoor
open Go.Sy Go.RowKit
theorem bread_fun (u0 : List UInt8) (hpre : u0.length ≤ 62 ∧ isRow u0 = true)  (Z : Fz) (w : World)  (hZ : Z.on w) : Calls Tryz.prog 67 #[str u0] w fun e w' => e = .returned (y6 (breadS u0)) ∧ Below w.heap.size w w' :=
  (bread_walk u0  Z w  hZ (bread_ok u0 hpre)).mono fun _ _ ⟨r, he, hk, hb⟩ => ⟨by subst hk; exact he, hb⟩

theorem bwrite_fun (u0 : Int) (u1 : Int) (hpre : 0 ≤ u1 ∧ u1 ≤ 64 ∧ 0 ≤ u0 ∧ u0 < 2 ^ 62)  (Z : Fz) (w : World)  (hZ : Z.on w) : Calls Tryz.prog 71 #[y6 u0, i6 u1] w fun e w' => e = .returned (str (bwriteS u0 u1)) ∧ Below w.heap.size w w' :=
  (bwrite_walk u0 u1  Z w  hZ (bwrite_ok u0 u1 hpre)).mono fun _ _ ⟨r, he, hk, hb⟩ => ⟨by subst hk; exact he, hb⟩

theorem bcheck_fun (u0 : List UInt8)  (Z : Fz) (w : World)  (hZ : Z.on w) : Calls Tryz.prog 31 #[str u0] w fun e w' => e = .returned (i6 (bcheckS u0)) ∧ Below w.heap.size w w' :=
  (bcheck_walk u0  Z w  hZ (bcheck_ok u0)).mono fun _ _ ⟨r, he, hk, hb⟩ => ⟨by subst hk; exact he, hb⟩

theorem ksum_fun (u0 : Kind) (u1 : List UInt8) (hpre : okKindS u0 ∧ u1.length ≤ 1000000)  (Z : Fz) (w : World)  (hZ : Z.on w) : Calls Tryz.prog 72 #[.agg #[i6 u0.Size, y6 u0.Poly, y6 u0.From, y6 u0.End], str u1] w fun e w' => e = .returned (y6 (ksumS u0 u1)) ∧ Below w.heap.size w w' :=
  (ksum_walk u0 u1  Z w  hZ (ksum_ok u0 u1 hpre)).mono fun _ _ ⟨r, he, hk, hb⟩ => ⟨by subst hk; exact he, hb⟩

theorem cnext_fun (u0 : Counter) (u1 : Int) (hpre : -1000000 ≤ u0.n ∧ u0.n ≤ 1000000 ∧ 0 ≤ u1 ∧ u1 ≤ 97) (b1 : Nat) (B : Nat) (w0 : World) (Z0 : Fz) (Rr : List Res) (Z : Fz) (w : World) (hM0 : Mem B [] w0 Z0 ((.row b1 [y8 u0.last, i6 u0.n] 57) :: Rr) Z w) (hZ : Z.on w) : Calls Tryz.prog 69 #[pt b1 0, y8 u1] w fun e w' => ∃ (Z' : Fz), e = .returned (.tuple #[y8 (cnextS u0 u1).1, .bool (cnextS u0 u1).2.1]) ∧ Fz.le Z Z' ∧ Mem B [] w0 Z0 ((.row b1 [y8 (cnextS u0 u1).2.2.last, i6 (cnextS u0 u1).2.2.n] 57) :: Rr) Z' w' :=
  (cnext_walk u0 u1 b1 B w0 Z0 Rr Z w hM0 hZ (cnext_ok u0 u1 hpre)).mono fun _ _ ⟨r, h0, he, hk, f0, hm⟩ => by subst hk; exact ⟨h0, he, f0, hm⟩


theorem cnextF_fun (u0 : FReader) (u1 : Int) (hpre : -1000000 ≤ u0.Reader.c.n ∧ u0.Reader.c.n ≤ 1000000 ∧ 0 ≤ u1 ∧ u1 ≤ 97) (b1 : Nat) (ao2 : Option Addr) (cap3 : Nat) (B : Nat) (w0 : World) (Z0 : Fz) (Rr : List Res) (Z : Fz) (w : World) (hs4 : SlR t8 Z ao2 cap3 u0.f.Data) (hM0 : Mem B [] w0 Z0 ((.row b1 [str u0.Reader.Row, i6 u0.Reader.At, i6 u0.Reader.Code, y8 u0.Reader.c.last, i6 u0.Reader.c.n, i6 u0.f.ID, .bool u0.f.Long, .bool u0.f.Fast, .bool u0.f.Remote, i6 u0.f.Size, .slice ao2 u0.f.Data.length cap3] 61) :: Rr) Z w) (hZ : Z.on w) : Calls Tryz.prog 69 #[pt b1 3, y8 u1] w fun e w' => ∃ (ao1001 : Option Addr) (cap1002 : Nat) (Z' : Fz), e = .returned (.tuple #[y8 (cnextFS u0 u1).1, .bool (cnextFS u0 u1).2.1]) ∧ Fz.le Z Z' ∧ SlR t8 Z' ao1001 cap1002 (cnextFS u0 u1).2.2.f.Data ∧ Mem B [] w0 Z0 ((.row b1 [str (cnextFS u0 u1).2.2.Reader.Row, i6 (cnextFS u0 u1).2.2.Reader.At, i6 (cnextFS u0 u1).2.2.Reader.Code, y8 (cnextFS u0 u1).2.2.Reader.c.last, i6 (cnextFS u0 u1).2.2.Reader.c.n, i6 (cnextFS u0 u1).2.2.f.ID, .bool (cnextFS u0 u1).2.2.f.Long, .bool (cnextFS u0 u1).2.2.f.Fast, .bool (cnextFS u0 u1).2.2.f.Remote, i6 (cnextFS u0 u1).2.2.f.Size, .slice ao1001 (cnextFS u0 u1).2.2.f.Data.length cap1002] 61) :: Rr) Z' w' :=
  (cnextF_walk u0 u1 b1 ao2 cap3 B w0 Z0 Rr Z w hs4 hM0 hZ (cnextF_ok u0 u1 hpre)).mono fun _ _ ⟨r, h0, h1, h2, he, hk, f0, f1, hm⟩ => by subst hk; exact ⟨h0, h1, h2, he, f0, f1, hm⟩


theorem rbitF_fun (u0 : FReader) (hpre : 0 ≤ u0.Reader.At ∧ u0.Reader.At ≤ (u0.Reader.Row.length : Int) ∧ u0.Reader.Row.length ≤ 1000000) (b1 : Nat) (ao2 : Option Addr) (cap3 : Nat) (B : Nat) (w0 : World) (Z0 : Fz) (Rr : List Res) (Z : Fz) (w : World) (hs4 : SlR t8 Z ao2 cap3 u0.f.Data) (hM0 : Mem B [] w0 Z0 ((.row b1 [str u0.Reader.Row, i6 u0.Reader.At, i6 u0.Reader.Code, y8 u0.Reader.c.last, i6 u0.Reader.c.n, i6 u0.f.ID, .bool u0.f.Long, .bool u0.f.Fast, .bool u0.f.Remote, i6 u0.f.Size, .slice ao2 u0.f.Data.length cap3] 61) :: Rr) Z w) (hZ : Z.on w) : Calls Tryz.prog 68 #[pt b1 0] w fun e w' => ∃ (ao1001 : Option Addr) (cap1002 : Nat) (Z' : Fz), e = .returned (y8 (rbitFS u0).1) ∧ Fz.le Z Z' ∧ SlR t8 Z' ao1001 cap1002 (rbitFS u0).2.f.Data ∧ Mem B [] w0 Z0 ((.row b1 [str (rbitFS u0).2.Reader.Row, i6 (rbitFS u0).2.Reader.At, i6 (rbitFS u0).2.Reader.Code, y8 (rbitFS u0).2.Reader.c.last, i6 (rbitFS u0).2.Reader.c.n, i6 (rbitFS u0).2.f.ID, .bool (rbitFS u0).2.f.Long, .bool (rbitFS u0).2.f.Fast, .bool (rbitFS u0).2.f.Remote, i6 (rbitFS u0).2.f.Size, .slice ao1001 (rbitFS u0).2.f.Data.length cap1002] 61) :: Rr) Z' w' :=
  (rbitF_walk u0 b1 ao2 cap3 B w0 Z0 Rr Z w hs4 hM0 hZ (rbitF_ok u0 hpre)).mono fun _ _ ⟨r, h0, h1, h2, he, hk, f0, f1, hm⟩ => by subst hk; exact ⟨h0, h1, h2, he, f0, f1, hm⟩

theorem scontains_fun (u0 : List Int) (u1 : Int) (ao1 : Option Addr) (cap2 : Nat) (Z : Fz) (w : World) (hs3 : SlR t6 Z ao1 cap2 u0) (hZ : Z.on w) : Calls Tryz.prog 58 #[.slice ao1 u0.length cap2, i6 u1] w fun e w' => e = .returned (.bool (scontainsS u0 u1)) ∧ Below w.heap.size w w' :=
  (scontains_walk u0 u1 ao1 cap2 Z w hs3 hZ (scontains_ok u0 u1)).mono fun _ _ ⟨r, he, hk, hb⟩ => ⟨by subst hk; exact he, hb⟩

theorem sindex_fun (u0 : List Int) (u1 : Int) (ao1 : Option Addr) (cap2 : Nat) (Z : Fz) (w : World) (hs3 : SlR t6 Z ao1 cap2 u0) (hZ : Z.on w) : Calls Tryz.prog 27 #[.slice ao1 u0.length cap2, i6 u1] w fun e w' => e = .returned (i6 (sindexS u0 u1)) ∧ Below w.heap.size w w' :=
  (sindex_walk u0 u1 ao1 cap2 Z w hs3 hZ (sindex_ok2 u0 u1)).mono fun _ _ ⟨r, he, hk, hb⟩ => ⟨by subst hk; exact he, hb⟩

theorem csum_walk (u0 : Int) (u1 : List UInt8)  (Z : Fz) (w : World)  (hZ : Z.on w) {K : ((List UInt8) × Int) → Prop} (hp : csum_vc u0 u1 K) : Calls Tryz.prog 39 #[i6 u0, str u1] w fun e w' => ∃ r : (List UInt8) × Int, e = .returned (.tuple #[str r.1, i6 r.2]) ∧ K r ∧ Below w.heap.size w w' := by
 refine enter0 Tryz.func39 rfl rfl (by kernel_rfl) ?_; intro a0 y; have i := Mem.start w Z hZ; have aA := Fz.le.refl Z
 refine sqB y i [] [] [] ?_; intro a4 z; clear y
 refine wp_seq ?_
 refine sqH ?_; intro af A
 refine s1 z 8 (str u1) ?_; intro a7 B; clear z
 refine fc B i (bcheck_fun u1 _ _ i.fz) ?_; intro a9 aB C a; clear B i
 refine s1 C 6 (i6 (bcheckS u1)) ?_; intro aC D; clear C
 refine nlH (A _ _ ?_); clear A af
 refine sqB D a [] [] [(11, .bool ((bcheckS u1) != 0))] ?_; intro aD c; clear D
 refine cd c (t := (bcheckS u1) != 0) (by kernel_rfl) (fun l => ?_) (fun l => ?_)
 ·
  have ag := hp.1 l; clear hp
  refine sqB c a [] [] [(4, str []), (5, i6 (bcheckS u1))] ?_; intro aE ah; clear c
  refine wp_ret ?_
  refine thr ?_
  refine ra2 ah (.tuple #[str [], i6 (bcheckS u1)]) ?_
  exact ⟨([], (bcheckS u1)), rfl, ag, a.below⟩
 have j := hp.2 l; clear hp
 refine wp_skip ?_
 refine thn ?_
 refine wp_seq ?_
 refine sqH ?_; intro ai E
 refine s1 c 13 (i6 u0) ?_; intro aF F; clear c
 refine s1 F 14 (.bool (decide (u0 < 0))) ?_; intro aG G; clear F
 refine s1 G 15 (.bool (decide (u0 < 0))) ?_; intro aH H; clear G
 have I := H.atom ((decide (u0 < 0)) == false) (by kernel_rfl); clear H
 refine gp I 16 0 [] (decide (u0 < 0)) (i6 u0) rfl rfl ?_; intro aI J; clear I
 refine gcl J a (.agg #[i6 ckinds.1.Size, y6 ckinds.1.Poly, y6 ckinds.1.From, y6 ckinds.1.End, i6 ckinds.2.1.Size, y6 ckinds.2.1.Poly, y6 ckinds.2.1.From, y6 ckinds.2.1.End, i6 ckinds.2.2.1.Size, y6 ckinds.2.2.1.Poly, y6 ckinds.2.2.1.From, y6 ckinds.2.2.1.End, i6 ckinds.2.2.2.1.Size, y6 ckinds.2.2.2.1.Poly, y6 ckinds.2.2.2.1.From, y6 ckinds.2.2.2.1.End, i6 ckinds.2.2.2.2.Size, y6 ckinds.2.2.2.2.Poly, y6 ckinds.2.2.2.2.From, y6 ckinds.2.2.2.2.End]) 70 #[] (m := 0) (cj := []) (bj := decide (u0 < 0)) rfl rfl (by kernel_rfl) rfl (by kernel_rfl) (by kernel_rfl) (by kernel_rfl) (fun _ => by kernel_rfl) (fun hg => ckinds_fun  _ _ a.fz) ?_; intro aJ aK L d; clear J a
 refine gp L 18 0 [] (decide (u0 < 0)) (i6 5) rfl rfl ?_; intro aL M; clear L
 refine gp M 19 0 [] (decide (u0 < 0)) (.bool (decide (u0 ≥ 5))) rfl rfl ?_; intro aM n; clear M
 refine st n (.bool ((decide (u0 < 0)) || (decide (u0 ≥ 5)))) (nog rfl _) rfl (by kernel_rfl) (pk_or n (g := []) (m := 0) (b := decide (u0 < 0)) (v := decide (u0 ≥ 5)) rfl (by kernel_rfl) (by kernel_rfl) (by kernel_rfl) rfl) ?_; intro N f; clear n
 refine nlH (E _ _ ?_); clear E ai
 refine cd f (t := (decide (u0 < 0)) || (decide (u0 ≥ 5))) (by kernel_rfl) (fun o => ?_) (fun o => ?_)
 ·
  have aj := j.1 o; clear j
  have O : Fr 30 [] [] N := f.reg; clear f
  refine sqB O d [] [] [(4, str []), (5, i6 8)] ?_; intro aN ak; clear O
  refine wp_ret ?_
  refine thr ?_
  refine ra2 ak (.tuple #[str [], i6 8]) ?_
  exact ⟨([], 8), rfl, aj, d.below⟩
 have al := j.2 o; clear j
 refine wp_skip ?_
 refine thn ?_
 have P : Fr 30 [] [⟨0, [], i6 u0⟩, ⟨1, [], str u1⟩] N := f.reg; clear f
 refine sqH ?_; intro am Q
 refine fc P d (ckinds_fun  _ _ d.fz) ?_; intro aO aP R S; clear P d
 refine s1 R 22 (i6 u0) ?_; intro aQ p; clear R
 obtain ⟨an, ao⟩ := al
 have hix : ∀ x : Int, 0 ≤ x ∧ x < 5 → x = 0 ∨ x = 1 ∨ x = 2 ∨ x = 3 ∨ x = 4 := by intro x hx; omega
 refine st p (.agg #[i6 (([ckinds.1.Size, ckinds.2.1.Size, ckinds.2.2.1.Size, ckinds.2.2.2.1.Size, ckinds.2.2.2.2.Size] : List Int).getD u0.toNat 0), y6 (([ckinds.1.Poly, ckinds.2.1.Poly, ckinds.2.2.1.Poly, ckinds.2.2.2.1.Poly, ckinds.2.2.2.2.Poly] : List Int).getD u0.toNat 0), y6 (([ckinds.1.From, ckinds.2.1.From, ckinds.2.2.1.From, ckinds.2.2.2.1.From, ckinds.2.2.2.2.From] : List Int).getD u0.toNat 0), y6 (([ckinds.1.End, ckinds.2.1.End, ckinds.2.2.1.End, ckinds.2.2.2.1.End, ckinds.2.2.2.2.End] : List Int).getD u0.toNat 0)]) (nog rfl _) rfl (by kernel_rfl) ((by generalize u0 = ix at *; rcases hix _ an with rfl | rfl | rfl | rfl | rfl <;> exact p0 p (by kernel_rfl))) ?_; intro aR T; clear p
 refine nw T S pb [i6 0, y6 0, y6 0, y6 0] 100 ?_; intro h ap aS q U; clear T S
 refine sx q U 0 [i6 (([ckinds.1.Size, ckinds.2.1.Size, ckinds.2.2.1.Size, ckinds.2.2.2.1.Size, ckinds.2.2.2.2.Size] : List Int).getD u0.toNat 0), y6 (([ckinds.1.Poly, ckinds.2.1.Poly, ckinds.2.2.1.Poly, ckinds.2.2.2.1.Poly, ckinds.2.2.2.2.Poly] : List Int).getD u0.toNat 0), y6 (([ckinds.1.From, ckinds.2.1.From, ckinds.2.2.1.From, ckinds.2.2.2.1.From, ckinds.2.2.2.2.From] : List Int).getD u0.toNat 0), y6 (([ckinds.1.End, ckinds.2.1.End, ckinds.2.2.1.End, ckinds.2.2.2.1.End, ckinds.2.2.2.2.End] : List Int).getD u0.toNat 0)] 0 ?_; intro aq V; clear U
 have W : Mem w.heap.size [] w Z [.row h [i6 (([ckinds.1.Size, ckinds.2.1.Size, ckinds.2.2.1.Size, ckinds.2.2.2.1.Size, ckinds.2.2.2.2.Size] : List Int).getD u0.toNat 0), y6 (([ckinds.1.Poly, ckinds.2.1.Poly, ckinds.2.2.1.Poly, ckinds.2.2.2.1.Poly, ckinds.2.2.2.2.Poly] : List Int).getD u0.toNat 0), y6 (([ckinds.1.From, ckinds.2.1.From, ckinds.2.2.1.From, ckinds.2.2.2.1.From, ckinds.2.2.2.2.From] : List Int).getD u0.toNat 0), y6 (([ckinds.1.End, ckinds.2.1.End, ckinds.2.2.1.End, ckinds.2.2.2.1.End, ckinds.2.2.2.2.End] : List Int).getD u0.toNat 0)] 100] Z aq := V; clear V
 refine nlH (Q _ _ ?_); clear Q am
 have s : Fr 30 [] [⟨1, [], str u1⟩, ⟨7, [], pt h 0⟩] ap := q.reg; clear q
 refine sqQH mixed (by kernel_rfl) W ?_; intro ar X
 refine qst s (.agg #[i6 (([ckinds.1.Size, ckinds.2.1.Size, ckinds.2.2.1.Size, ckinds.2.2.2.1.Size, ckinds.2.2.2.2.Size] : List Int).getD u0.toNat 0), y6 (([ckinds.1.Poly, ckinds.2.1.Poly, ckinds.2.2.1.Poly, ckinds.2.2.2.1.Poly, ckinds.2.2.2.2.Poly] : List Int).getD u0.toNat 0), y6 (([ckinds.1.From, ckinds.2.1.From, ckinds.2.2.1.From, ckinds.2.2.2.1.From, ckinds.2.2.2.2.From] : List Int).getD u0.toNat 0), y6 (([ckinds.1.End, ckinds.2.1.End, ckinds.2.2.1.End, ckinds.2.2.2.1.End, ckinds.2.2.2.2.End] : List Int).getD u0.toNat 0)]) (nog rfl _) rfl (by kernel_rfl) (fun v81 hC => lda s hC 0 (g := []) (b := h) (off := 0) (k := 4) (cs := [i6 (([ckinds.1.Size, ckinds.2.1.Size, ckinds.2.2.1.Size, ckinds.2.2.2.1.Size, ckinds.2.2.2.2.Size] : List Int).getD u0.toNat 0), y6 (([ckinds.1.Poly, ckinds.2.1.Poly, ckinds.2.2.1.Poly, ckinds.2.2.2.1.Poly, ckinds.2.2.2.2.Poly] : List Int).getD u0.toNat 0), y6 (([ckinds.1.From, ckinds.2.1.From, ckinds.2.2.1.From, ckinds.2.2.2.1.From, ckinds.2.2.2.2.From] : List Int).getD u0.toNat 0), y6 (([ckinds.1.End, ckinds.2.1.End, ckinds.2.2.1.End, ckinds.2.2.2.1.End, ckinds.2.2.2.2.End] : List Int).getD u0.toNat 0)]) (vs := [i6 (([ckinds.1.Size, ckinds.2.1.Size, ckinds.2.2.1.Size, ckinds.2.2.2.1.Size, ckinds.2.2.2.2.Size] : List Int).getD u0.toNat 0), y6 (([ckinds.1.Poly, ckinds.2.1.Poly, ckinds.2.2.1.Poly, ckinds.2.2.2.1.Poly, ckinds.2.2.2.2.Poly] : List Int).getD u0.toNat 0), y6 (([ckinds.1.From, ckinds.2.1.From, ckinds.2.2.1.From, ckinds.2.2.2.1.From, ckinds.2.2.2.2.From] : List Int).getD u0.toNat 0), y6 (([ckinds.1.End, ckinds.2.1.End, ckinds.2.2.1.End, ckinds.2.2.2.1.End, ckinds.2.2.2.2.End] : List Int).getD u0.toNat 0)]) (ty := 100) rfl (by kernel_rfl) (by kernel_rfl) (by kernel_rfl) (by kernel_rfl) (by kernel_rfl) rfl) ?_; intro aT Y; clear s
 refine q1 Y 25 (str u1) ?_; intro aU aa; clear Y
 obtain ⟨au, av⟩ := ao
 refine qcl aa (y6 (ksumS (⟨([ckinds.1.Size, ckinds.2.1.Size, ckinds.2.2.1.Size, ckinds.2.2.2.1.Size, ckinds.2.2.2.2.Size] : List Int).getD u0.toNat 0, ([ckinds.1.Poly, ckinds.2.1.Poly, ckinds.2.2.1.Poly, ckinds.2.2.2.1.Poly, ckinds.2.2.2.2.Poly] : List Int).getD u0.toNat 0, ([ckinds.1.From, ckinds.2.1.From, ckinds.2.2.1.From, ckinds.2.2.2.1.From, ckinds.2.2.2.2.From] : List Int).getD u0.toNat 0, ([ckinds.1.End, ckinds.2.1.End, ckinds.2.2.1.End, ckinds.2.2.2.1.End, ckinds.2.2.2.2.End] : List Int).getD u0.toNat 0⟩ : Kind) u1)) 72 #[.agg #[i6 (([ckinds.1.Size, ckinds.2.1.Size, ckinds.2.2.1.Size, ckinds.2.2.2.1.Size, ckinds.2.2.2.2.Size] : List Int).getD u0.toNat 0), y6 (([ckinds.1.Poly, ckinds.2.1.Poly, ckinds.2.2.1.Poly, ckinds.2.2.2.1.Poly, ckinds.2.2.2.2.Poly] : List Int).getD u0.toNat 0), y6 (([ckinds.1.From, ckinds.2.1.From, ckinds.2.2.1.From, ckinds.2.2.2.1.From, ckinds.2.2.2.2.From] : List Int).getD u0.toNat 0), y6 (([ckinds.1.End, ckinds.2.1.End, ckinds.2.2.1.End, ckinds.2.2.2.1.End, ckinds.2.2.2.2.End] : List Int).getD u0.toNat 0)], str u1] (nog rfl _) rfl (by kernel_rfl) (fun _ => by kernel_rfl) (qfc fun w hC => ksum_fun (⟨([ckinds.1.Size, ckinds.2.1.Size, ckinds.2.2.1.Size, ckinds.2.2.2.1.Size, ckinds.2.2.2.2.Size] : List Int).getD u0.toNat 0, ([ckinds.1.Poly, ckinds.2.1.Poly, ckinds.2.2.1.Poly, ckinds.2.2.2.1.Poly, ckinds.2.2.2.2.Poly] : List Int).getD u0.toNat 0, ([ckinds.1.From, ckinds.2.1.From, ckinds.2.2.1.From, ckinds.2.2.2.1.From, ckinds.2.2.2.2.From] : List Int).getD u0.toNat 0, ([ckinds.1.End, ckinds.2.1.End, ckinds.2.2.1.End, ckinds.2.2.2.1.End, ckinds.2.2.2.2.End] : List Int).getD u0.toNat 0⟩ : Kind) u1 au _ _ hC.fz) ?_; intro aV ab; clear aa
 refine q1 ab 27 (pt h 0) ?_; intro aW u; clear ab
 refine qst u (i6 (([ckinds.1.Size, ckinds.2.1.Size, ckinds.2.2.1.Size, ckinds.2.2.2.1.Size, ckinds.2.2.2.2.Size] : List Int).getD u0.toNat 0)) (nog rfl _) rfl (by kernel_rfl) (fun v95 hC => ld u hC 0 (g := []) (b := h) (off := 0) (cs := [i6 (([ckinds.1.Size, ckinds.2.1.Size, ckinds.2.2.1.Size, ckinds.2.2.2.1.Size, ckinds.2.2.2.2.Size] : List Int).getD u0.toNat 0), y6 (([ckinds.1.Poly, ckinds.2.1.Poly, ckinds.2.2.1.Poly, ckinds.2.2.2.1.Poly, ckinds.2.2.2.2.Poly] : List Int).getD u0.toNat 0), y6 (([ckinds.1.From, ckinds.2.1.From, ckinds.2.2.1.From, ckinds.2.2.2.1.From, ckinds.2.2.2.2.From] : List Int).getD u0.toNat 0), y6 (([ckinds.1.End, ckinds.2.1.End, ckinds.2.2.1.End, ckinds.2.2.2.1.End, ckinds.2.2.2.2.End] : List Int).getD u0.toNat 0)]) (ty := 100) rfl (by kernel_rfl) (by kernel_rfl) (by kernel_rfl) (by kernel_rfl) rfl) ?_; intro aX ac; clear u
 obtain ⟨aw, ax⟩ := av
 refine qcl ac (str (bwriteS (ksumS (⟨([ckinds.1.Size, ckinds.2.1.Size, ckinds.2.2.1.Size, ckinds.2.2.2.1.Size, ckinds.2.2.2.2.Size] : List Int).getD u0.toNat 0, ([ckinds.1.Poly, ckinds.2.1.Poly, ckinds.2.2.1.Poly, ckinds.2.2.2.1.Poly, ckinds.2.2.2.2.Poly] : List Int).getD u0.toNat 0, ([ckinds.1.From, ckinds.2.1.From, ckinds.2.2.1.From, ckinds.2.2.2.1.From, ckinds.2.2.2.2.From] : List Int).getD u0.toNat 0, ([ckinds.1.End, ckinds.2.1.End, ckinds.2.2.1.End, ckinds.2.2.2.1.End, ckinds.2.2.2.2.End] : List Int).getD u0.toNat 0⟩ : Kind) u1) (([ckinds.1.Size, ckinds.2.1.Size, ckinds.2.2.1.Size, ckinds.2.2.2.1.Size, ckinds.2.2.2.2.Size] : List Int).getD u0.toNat 0))) 71 #[y6 (ksumS (⟨([ckinds.1.Size, ckinds.2.1.Size, ckinds.2.2.1.Size, ckinds.2.2.2.1.Size, ckinds.2.2.2.2.Size] : List Int).getD u0.toNat 0, ([ckinds.1.Poly, ckinds.2.1.Poly, ckinds.2.2.1.Poly, ckinds.2.2.2.1.Poly, ckinds.2.2.2.2.Poly] : List Int).getD u0.toNat 0, ([ckinds.1.From, ckinds.2.1.From, ckinds.2.2.1.From, ckinds.2.2.2.1.From, ckinds.2.2.2.2.From] : List Int).getD u0.toNat 0, ([ckinds.1.End, ckinds.2.1.End, ckinds.2.2.1.End, ckinds.2.2.2.1.End, ckinds.2.2.2.2.End] : List Int).getD u0.toNat 0⟩ : Kind) u1), i6 (([ckinds.1.Size, ckinds.2.1.Size, ckinds.2.2.1.Size, ckinds.2.2.2.1.Size, ckinds.2.2.2.2.Size] : List Int).getD u0.toNat 0)] (nog rfl _) rfl (by kernel_rfl) (fun _ => by kernel_rfl) (qfc fun w hC => bwrite_fun (ksumS (⟨([ckinds.1.Size, ckinds.2.1.Size, ckinds.2.2.1.Size, ckinds.2.2.2.1.Size, ckinds.2.2.2.2.Size] : List Int).getD u0.toNat 0, ([ckinds.1.Poly, ckinds.2.1.Poly, ckinds.2.2.1.Poly, ckinds.2.2.2.1.Poly, ckinds.2.2.2.2.Poly] : List Int).getD u0.toNat 0, ([ckinds.1.From, ckinds.2.1.From, ckinds.2.2.1.From, ckinds.2.2.2.1.From, ckinds.2.2.2.2.From] : List Int).getD u0.toNat 0, ([ckinds.1.End, ckinds.2.1.End, ckinds.2.2.1.End, ckinds.2.2.2.1.End, ckinds.2.2.2.2.End] : List Int).getD u0.toNat 0⟩ : Kind) u1) (([ckinds.1.Size, ckinds.2.1.Size, ckinds.2.2.1.Size, ckinds.2.2.2.1.Size, ckinds.2.2.2.2.Size] : List Int).getD u0.toNat 0) aw _ _ hC.fz) ?_; intro aY ad; clear ac
 refine q1 ad 4 (str (bwriteS (ksumS (⟨([ckinds.1.Size, ckinds.2.1.Size, ckinds.2.2.1.Size, ckinds.2.2.2.1.Size, ckinds.2.2.2.2.Size] : List Int).getD u0.toNat 0, ([ckinds.1.Poly, ckinds.2.1.Poly, ckinds.2.2.1.Poly, ckinds.2.2.2.1.Poly, ckinds.2.2.2.2.Poly] : List Int).getD u0.toNat 0, ([ckinds.1.From, ckinds.2.1.From, ckinds.2.2.1.From, ckinds.2.2.2.1.From, ckinds.2.2.2.2.From] : List Int).getD u0.toNat 0, ([ckinds.1.End, ckinds.2.1.End, ckinds.2.2.1.End, ckinds.2.2.2.1.End, ckinds.2.2.2.2.End] : List Int).getD u0.toNat 0⟩ : Kind) u1) (([ckinds.1.Size, ckinds.2.1.Size, ckinds.2.2.1.Size, ckinds.2.2.2.1.Size, ckinds.2.2.2.2.Size] : List Int).getD u0.toNat 0))) ?_; intro aZ ae; clear ad
 refine q1 ae 5 (i6 0) ?_; intro a1 ay; clear ae
 refine qnl (X _ ?_); clear X ar; intro a2 az; clear W
 refine wp_ret ?_
 refine ra2 ay (.tuple #[str (bwriteS (ksumS (⟨([ckinds.1.Size, ckinds.2.1.Size, ckinds.2.2.1.Size, ckinds.2.2.2.1.Size, ckinds.2.2.2.2.Size] : List Int).getD u0.toNat 0, ([ckinds.1.Poly, ckinds.2.1.Poly, ckinds.2.2.1.Poly, ckinds.2.2.2.1.Poly, ckinds.2.2.2.2.Poly] : List Int).getD u0.toNat 0, ([ckinds.1.From, ckinds.2.1.From, ckinds.2.2.1.From, ckinds.2.2.2.1.From, ckinds.2.2.2.2.From] : List Int).getD u0.toNat 0, ([ckinds.1.End, ckinds.2.1.End, ckinds.2.2.1.End, ckinds.2.2.2.1.End, ckinds.2.2.2.2.End] : List Int).getD u0.toNat 0⟩ : Kind) u1) (([ckinds.1.Size, ckinds.2.1.Size, ckinds.2.2.1.Size, ckinds.2.2.2.1.Size, ckinds.2.2.2.2.Size] : List Int).getD u0.toNat 0)), i6 0]) ?_
 exact ⟨((bwriteS (ksumS (⟨([ckinds.1.Size, ckinds.2.1.Size, ckinds.2.2.1.Size, ckinds.2.2.2.1.Size, ckinds.2.2.2.2.Size] : List Int).getD u0.toNat 0, ([ckinds.1.Poly, ckinds.2.1.Poly, ckinds.2.2.1.Poly, ckinds.2.2.2.1.Poly, ckinds.2.2.2.2.Poly] : List Int).getD u0.toNat 0, ([ckinds.1.From, ckinds.2.1.From, ckinds.2.2.1.From, ckinds.2.2.2.1.From, ckinds.2.2.2.2.From] : List Int).getD u0.toNat 0, ([ckinds.1.End, ckinds.2.1.End, ckinds.2.2.1.End, ckinds.2.2.2.1.End, ckinds.2.2.2.2.End] : List Int).getD u0.toNat 0⟩ : Kind) u1) (([ckinds.1.Size, ckinds.2.1.Size, ckinds.2.2.1.Size, ckinds.2.2.2.1.Size, ckinds.2.2.2.2.Size] : List Int).getD u0.toNat 0)), 0), rfl, ax, az.below⟩

theorem bof_walk (u0 : List Int) (ao1 : Option Addr) (cap2 : Nat) (Z : Fz) (w : World) (hs3 : SlR t8 Z ao1 cap2 u0) (hZ : Z.on w) {K : ((List UInt8) × Int) → Prop} (hp : bof_vc u0 K) : Calls Tryz.prog 73 #[.slice ao1 u0.length cap2] w fun e w' => ∃ r : (List UInt8) × Int, e = .returned (.tuple #[str r.1, i6 r.2]) ∧ K r ∧ Below w.heap.size w w' := by
 refine enter0 Tryz.func73 rfl rfl (by kernel_rfl) ?_; intro a0 u; have g := Mem.start w Z hZ; have aL := Fz.le.refl Z
 have hzB := Go.Sy.zB hZ
 have j := hp (hs3.small); clear hp
 refine sqB u g [] [] [] ?_; intro a8 v; clear u
 refine wp_seq ?_
 refine sqB v g [] [] [(9, .bool (decide ((u0.length : Int) > 125)))] ?_; intro aM h; clear v
 refine cd h (t := decide ((u0.length : Int) > 125)) (by kernel_rfl) (fun m => ?_) (fun m => ?_)
 ·
  have ae := j.1 m; clear j
  refine sqB h g [] [] [(2, str []), (3, i6 2)] ?_; intro aN af; clear h
  refine wp_ret ?_
  refine thr ?_
  refine ra2 af (.tuple #[str [], i6 2]) ?_
  exact ⟨([], 2), rfl, ae, g.below⟩
 have ag := j.2 m; clear j
 refine wp_skip ?_
 refine thn ?_
 refine sqH ?_; intro ah x
 refine nw h g pb [.pointer none, .slice none 0 0] 133 ?_; intro a aO ai y n; clear h g
 refine nlH (x _ _ ?_); clear x ah
 refine wp_seq ?_
 refine sqB y n [] [] [(10, .slice ao1 u0.length cap2), (11, i6 (u0.length : Int)), (12, i6 0)] ?_; intro z A; clear y
 refine wp_block ?_
 have B : Fr 22 [] [⟨4, [], pt a 0⟩, ⟨10, [], .slice ao1 u0.length cap2⟩, ⟨11, [], i6 (u0.length : Int)⟩, ⟨12, [], i6 0⟩] z := A.reg; clear A
 have C : Mem w.heap.size [] w Z [.row a [.pointer none, .slice none ([] : List UInt8).length 0] 133, .own tyByte 5 none 0 ([] : List UInt8)] Z ai := n.bldNil 5; clear n
 have D : Fr 22 [] [⟨4, [], pt a 0⟩, ⟨10, [], .slice ao1 u0.length cap2⟩, ⟨11, [], i6 (u0.length : Int)⟩, ⟨12, [], i6 0⟩] z := B.reg; clear B
 obtain ⟨aj, ak, al, am⟩ := ag
 refine lp (ι := Int × (List UInt8) × Value × (Option Addr) × Nat) (fun (s : Int × (List UInt8) × Value × (Option Addr) × Nat) => [⟨4, [], pt a 0⟩, ⟨10, [], .slice ao1 u0.length cap2⟩, ⟨11, [], i6 (u0.length : Int)⟩, ⟨12, [], i6 s.1⟩]) (fun (s : Int × (List UInt8) × Value × (Option Addr) × Nat) => [.row a [s.2.2.1, .slice s.2.2.2.1 s.2.1.length s.2.2.2.2] 133, .own tyByte 5 s.2.2.2.1 s.2.2.2.2 s.2.1]) (fun (s : Int × (List UInt8) × Value × (Option Addr) × Nat) => Z) (fun (s : Int × (List UInt8) × Value × (Option Addr) × Nat) => aj s.1 s.2.1 ∧ (s.2.2.1 = .pointer none ∨ s.2.2.1 = pt a 0)) (fun (s : Int × (List UInt8) × Value × (Option Addr) × Nat) => ak s.1 s.2.1) ⟨0, ([] : List UInt8), (.pointer none), none, 0⟩ ⟨al, (.inl rfl)⟩ (by exact D.reg) (by exact C) ?_
 rintro ⟨f, c, an, E, F⟩ ⟨ao, G⟩ ap aq H I
 have J : Fr 22 [] [⟨4, [], pt a 0⟩, ⟨10, [], .slice ao1 u0.length cap2⟩, ⟨11, [], i6 (u0.length : Int)⟩, ⟨12, [], i6 f⟩] ap := H; clear H D
 have d : Mem w.heap.size [] w Z [.row a [an, .slice E c.length F] 133, .own tyByte 5 E F c] Z aq := I; clear I C
 have l := am f c ao
 refine sqB J d [] [] [(13, .bool (decide (f < (u0.length : Int))))] ?_; intro aP i; clear J
 refine wp_seq ?_
 refine cd i (t := decide (f < (u0.length : Int))) (by kernel_rfl) (fun o => ?_) (fun o => ?_)
 ·
  have ar := l.1 o; clear l
  refine wp_skip ?_
  refine thn ?_
  refine wp_seq ?_
  refine wp_block ?_
  refine sqH ?_; intro au L
  obtain ⟨av, M⟩ := ar
  refine ix i (T := t8) (xs := u0) hs3 f av (k := .i64) (e := 5) (bytes := 1) (nog rfl _) rfl (by kernel_rfl) rfl (by kernel_rfl) (by kernel_rfl) (by kernel_rfl) ?_; intro aQ aR aw b aS ax ay az N; clear i
  have aA := M b ax; clear M
  obtain rfl : aw = ([y8 b] : List Value) := az
  refine z1 N d 15 ay 0 (y8 b) rfl ?_; intro aT O; clear N
  refine s1 O 6 (y8 b) ?_; intro aU P; clear O
  refine nlH (L _ _ ?_); clear L au
  refine rgH ?_; intro aB Q
  refine bt P d 2 [] [] [(17, y6 (wu64 b))] ?_; intro aV R; clear P
  obtain ⟨aC, aD⟩ := aA
  refine fc R d (bwrite_fun (wu64 b) 8 aC _ _ d.fz) ?_; intro aW aX S U; clear R d
  obtain ⟨aE, V⟩ := aD
  refine ck S 98 #[pt a 0, str (bwriteS (wu64 b) 8)] ?_
  refine (Go.Sy.bld_write Tryz.lays166 Tryz.lays166X U hzB G aE).mono ?_; rintro _ aF ⟨p, q, rfl, hm⟩; refine ⟨_, rfl, ?_⟩; intro aY W; have X := hm; clear hm U S
  have Y : Mem w.heap.size [] w Z [.row a [pt a 0, .slice p (c ++ (bwriteS (wu64 b) 8)).length q] 133, .own tyByte 5 p q (c ++ (bwriteS (wu64 b) 8))] Z aF := X; clear X
  refine nlH (Q _ _ ?_); clear Q aB
  refine ibn ?_
  refine thn ?_
  refine rgB W Y [] [] [(12, i6 (w64 (f + 1)))] ?_; intro aZ aG; clear W
  refine rd ?_
  exact ⟨⟨w64 (f + 1), c ++ (bwriteS (wu64 b) 8), (pt a 0), p, q⟩, ⟨V.1, (.inr rfl)⟩, V.2, (aG.reg).anyβ _ (by kernel_rfl), Y.keep (List.Sublist.cons_cons _ (List.Sublist.cons_cons _ (List.Sublist.slnil)))⟩
 have aH := l.2 o; clear l
 refine wp_exit ?_
 refine thx ?_
 refine thx ?_
 refine ibx ?_
 refine thn ?_
 refine sqH ?_; intro aI aa
 refine ck i 99 #[pt a 0] ?_
 refine (Go.Sy.bld_string Tryz.lays169 Tryz.lays169X d hzB G).mono ?_; rintro _ aJ ⟨rfl, hm⟩; refine ⟨_, rfl, ?_⟩; intro a1 ab; have ac := hm; clear hm d i
 have ad : Mem w.heap.size [] w Z [] Z aJ := ac; clear ac
 refine bt ab ad 2 [] [] [(2, str c), (3, i6 0)] ?_; intro a2 aK; clear ab
 refine nlH (aa _ _ ?_); clear aa aI
 refine wp_ret ?_
 refine ra2 aK (.tuple #[str c, i6 0]) ?_
 exact ⟨(c, 0), rfl, aH, ad.below⟩



theorem rtakeF_walk (u0 : FReader) (u1 : Int) (b1 : Nat) (ao2 : Option Addr) (cap3 : Nat) (B : Nat) (w0 : World) (Z0 : Fz) (Rr : List Res) (Z : Fz) (w : World) (hs4 : SlR t8 Z ao2 cap3 u0.f.Data) (hM0 : Mem B [] w0 Z0 ((.row b1 [str u0.Reader.Row, i6 u0.Reader.At, i6 u0.Reader.Code, y8 u0.Reader.c.last, i6 u0.Reader.c.n, i6 u0.f.ID, .bool u0.f.Long, .bool u0.f.Fast, .bool u0.f.Remote, i6 u0.f.Size, .slice ao2 u0.f.Data.length cap3] 61) :: Rr) Z w) (hZ : Z.on w) {K : ((List UInt8) × FReader) → Prop} (hp : rtakeF_vc u0 u1 K) : Calls Tryz.prog 36 #[pt b1 0, i6 u1] w fun e w' => ∃ (r : (List UInt8) × FReader) (ao1001 : Option Addr) (cap1002 : Nat) (Z' : Fz), e = .returned (str r.1) ∧ K r ∧ Fz.le Z Z' ∧ SlR t8 Z' ao1001 cap1002 r.2.f.Data ∧ Mem B [] w0 Z0 ((.row b1 [str r.2.Reader.Row, i6 r.2.Reader.At, i6 r.2.Reader.Code, y8 r.2.Reader.c.last, i6 r.2.Reader.c.n, i6 r.2.f.ID, .bool r.2.f.Long, .bool r.2.f.Fast, .bool r.2.f.Remote, i6 r.2.f.Size, .slice ao1001 r.2.f.Data.length cap1002] 61) :: Rr) Z' w' := by
 refine enter0 Tryz.func36 rfl rfl (by kernel_rfl) ?_; intro a0 aB; have l := Fz.le.refl Z
 have bN := hp (hs4.small); clear hp
 refine sqB aB hM0 [] [] [] ?_; intro a7 aC; clear aB
 refine sqB aC hM0 [] [] [(5, .slice none 0 0)] ?_; intro cJ aD; clear aC
 refine wp_seq ?_
 refine sqB aD hM0 [] [] [(10, i6 u1), (11, i6 0)] ?_; intro aE aF; clear aD
 refine wp_block ?_
 have aG : Fr 61 [] [⟨0, [], pt b1 0⟩, ⟨5, [], .slice none 0 0⟩, ⟨10, [], i6 u1⟩, ⟨11, [], i6 0⟩] aE := aF.reg; clear aF
 have aH : Mem B [] w0 Z0 ((.own t8 5 none 0 ([] : List Int)) :: (.row b1 [str u0.Reader.Row, i6 u0.Reader.At, i6 u0.Reader.Code, y8 u0.Reader.c.last, i6 u0.Reader.c.n, i6 u0.f.ID, .bool u0.f.Long, .bool u0.f.Fast, .bool u0.f.Remote, i6 u0.f.Size, .slice ao2 u0.f.Data.length cap3] 61) :: Rr) Z w := hM0.addNil t8 5 (by decide); clear hM0
 have aI : Fr 61 [] [⟨0, [], pt b1 0⟩, ⟨5, [], .slice none ([] : List Int).length 0⟩, ⟨10, [], i6 u1⟩, ⟨11, [], i6 0⟩] aE := aG.reg; clear aG
 obtain ⟨bO, bP, bQ, bR⟩ := bN
 have cK := l
 refine lp (ι := (List Int) × Int × FReader × (Option Addr) × Nat × (Option Addr) × Nat × Fz) (fun (s : (List Int) × Int × FReader × (Option Addr) × Nat × (Option Addr) × Nat × Fz) => [⟨0, [], pt b1 0⟩, ⟨5, [], .slice s.2.2.2.1 s.1.length s.2.2.2.2.1⟩, ⟨10, [], i6 u1⟩, ⟨11, [], i6 s.2.1⟩]) (fun (s : (List Int) × Int × FReader × (Option Addr) × Nat × (Option Addr) × Nat × Fz) => ((.own t8 5 s.2.2.2.1 s.2.2.2.2.1 s.1) :: (.row b1 [str s.2.2.1.Reader.Row, i6 s.2.2.1.Reader.At, i6 s.2.2.1.Reader.Code, y8 s.2.2.1.Reader.c.last, i6 s.2.2.1.Reader.c.n, i6 s.2.2.1.f.ID, .bool s.2.2.1.f.Long, .bool s.2.2.1.f.Fast, .bool s.2.2.1.f.Remote, i6 s.2.2.1.f.Size, .slice s.2.2.2.2.2.1 s.2.2.1.f.Data.length s.2.2.2.2.2.2.1] 61) :: Rr)) (fun (s : (List Int) × Int × FReader × (Option Addr) × Nat × (Option Addr) × Nat × Fz) => s.2.2.2.2.2.2.2) (fun (s : (List Int) × Int × FReader × (Option Addr) × Nat × (Option Addr) × Nat × Fz) => bO s.1 s.2.1 s.2.2.1 ∧ SlR t8 s.2.2.2.2.2.2.2 s.2.2.2.2.2.1 s.2.2.2.2.2.2.1 s.2.2.1.f.Data ∧ Fz.le Z s.2.2.2.2.2.2.2) (fun (s : (List Int) × Int × FReader × (Option Addr) × Nat × (Option Addr) × Nat × Fz) => bP s.1 s.2.1 s.2.2.1) ⟨([] : List Int), 0, u0, none, 0, ao2, cap3, Z⟩ ⟨bQ, hs4, Fz.le.refl _⟩ (by exact aI.reg) (by exact aH) ?_
 rintro ⟨i, u, k, F, G, Y, aa, al⟩ ⟨bS, o, m⟩ bT bU aJ aK
 have aL : Fr 61 [] [⟨0, [], pt b1 0⟩, ⟨5, [], .slice F i.length G⟩, ⟨10, [], i6 u1⟩, ⟨11, [], i6 u⟩] bT := aJ; clear aJ aI
 have C : Mem B [] w0 Z0 ((.own t8 5 F G i) :: (.row b1 [str k.Reader.Row, i6 k.Reader.At, i6 k.Reader.Code, y8 k.Reader.c.last, i6 k.Reader.c.n, i6 k.f.ID, .bool k.f.Long, .bool k.f.Fast, .bool k.f.Remote, i6 k.f.Size, .slice Y k.f.Data.length aa] 61) :: Rr) al bU := aK; clear aK aH
 have ab := bR i u k bS
 replace l := Fz.le.trans l m
 have A := hs4.mono m
 refine sqB aL C [] [] [(12, .bool (decide (u < u1)))] ?_; intro cL P; clear aL
 refine wp_seq ?_
 refine cd P (t := decide (u < u1)) (by kernel_rfl) (fun am => ?_) (fun am => ?_)
 ·
  have bV := ab.1 am; clear ab
  refine wp_skip ?_
  refine thn ?_
  refine wp_seq ?_
  refine wp_block ?_
  refine sqH ?_; intro bW aM
  refine s1 P 13 (pt b1 0) ?_; intro cM aN; clear P
  obtain ⟨bX, aO⟩ := bV
  refine ck aN 68 #[pt b1 0] ?_
  obtain ⟨a, bY, aP⟩ := hxq aO; clear aO
  have j := rbitF_fun k bX b1 Y aa _ _ _ _ _ _ o (C.perm (pk 1 rfl)) C.fz; rw [bY] at j; refine j.mono ?_; clear j; rintro _ bZ ⟨ac, ad, an, rfl, ae, v, hm⟩; refine ⟨_, rfl, ?_⟩; intro cN aQ; have aR := hm; clear hm C aN
  replace A := A.mono ae
  replace o := o.mono ae
  replace m := m.mono ae
  replace l := Fz.le.trans l ae
  have N : Mem B [] w0 Z0 ((.row b1 [str a.2.Reader.Row, i6 a.2.Reader.At, i6 a.2.Reader.Code, y8 a.2.Reader.c.last, i6 a.2.Reader.c.n, i6 a.2.f.ID, .bool a.2.f.Long, .bool a.2.f.Fast, .bool a.2.f.Remote, i6 a.2.f.Size, .slice ac a.2.f.Data.length ad] 61) :: (.own t8 5 F G i) :: Rr) an bZ := aR; clear aR
  have af := aP (v.small); clear aP
  refine s1 aQ 6 (y8 a.1) ?_; intro cO aS; clear aQ
  refine nlH (aM _ _ ?_); clear aM bW
  refine wp_seq ?_
  refine sqB aS N [0] [] [(19, .bool (a.2.Reader.Code != 0))] ?_; intro cP Q; clear aS
  refine cd Q (t := a.2.Reader.Code != 0) (by kernel_rfl) (fun aq => ?_) (fun aq => ?_)
  ·
   have b0 := af.1 aq; clear af
   refine sqB Q N [] [] [(4, str [])] ?_; intro cQ b2; clear Q
   refine wp_ret ?_
   refine thr ?_
   refine ibr ?_
   refine thr ?_
   refine thr ?_
   refine ibr ?_
   refine thr ?_
   refine ra1 b2 (str []) ?_
   exact ⟨([], a.2), ac, ad, an, rfl, b0, l, v, N.keep (List.Sublist.cons_cons _ (List.Sublist.cons _ (List.Sublist.refl _)))⟩
  have b3 := af.2 aq; clear af
  refine wp_skip ?_
  refine thn ?_
  refine sqH ?_; intro b4 aT
  refine bt Q N 2 [] [] [(20, .slice F i.length G), (21, y8 a.1)] ?_; intro cR aU; clear Q
  refine nw aU N (fun b => .slice (sm b) 1 1) [y8 a.1] 5 ?_; intro H cS cT aV ar; clear aU N
  obtain ⟨b5, b6⟩ := b3
  refine ap aV ar 2 (T := t8) (xs := i) (ys := [a.1]) (ao := F) (cap := G) (ao2 := (sm H)) (cap2 := 1) (t := 22) (e := 5) (bytes := 1) (nog rfl _) rfl (by kernel_rfl) rfl (by kernel_rfl) (by kernel_rfl) (by kernel_rfl) rfl (Src.row ar 0 rfl (RepAll.one (T := t8) (x := a.1) rfl)) b5 ?_; intro y z cU b7 cV aW aX; clear aV ar
  have ag : Mem B [] w0 Z0 ((.row H [y8 a.1] 5) :: (.row b1 [str a.2.Reader.Row, i6 a.2.Reader.At, i6 a.2.Reader.Code, y8 a.2.Reader.c.last, i6 a.2.Reader.c.n, i6 a.2.f.ID, .bool a.2.f.Long, .bool a.2.f.Fast, .bool a.2.f.Remote, i6 a.2.f.Size, .slice ac a.2.f.Data.length ad] 61) :: (.own t8 5 y z (i ++ [a.1])) :: Rr) an b7 := aX; clear aX
  refine s1 aW 5 (.slice y (i ++ [a.1]).length z) ?_; intro cW aY; clear aW
  refine nlH (aT _ _ ?_); clear aT b4
  refine sqH ?_; intro b8 aZ
  refine bt aY ag 4 [] [] [(27, pt b1 3), (28, y8 a.1)] ?_; intro cX a1; clear aY
  obtain ⟨b9, a2⟩ := b6
  refine ck a1 69 #[pt b1 3, y8 a.1] ?_
  obtain ⟨h, ca, a3⟩ := hxq a2; clear a2
  have j := cnextF_fun a.2 a.1 b9 b1 ac ad _ _ _ _ _ _ v (ag.perm (pk 1 rfl)) ag.fz; rw [ca] at j; refine j.mono ?_; clear j; rintro _ cb ⟨au, av, a4, rfl, R, D, hm⟩; refine ⟨_, rfl, ?_⟩; intro cY a5; have a6 := hm; clear hm ag a1
  replace A := A.mono R
  replace o := o.mono R
  replace m := m.mono R
  replace v := v.mono R
  replace l := Fz.le.trans l R
  have I : Mem B [] w0 Z0 ((.row b1 [str h.2.2.Reader.Row, i6 h.2.2.Reader.At, i6 h.2.2.Reader.Code, y8 h.2.2.Reader.c.last, i6 h.2.2.Reader.c.n, i6 h.2.2.f.ID, .bool h.2.2.f.Long, .bool h.2.2.f.Fast, .bool h.2.2.f.Remote, i6 h.2.2.f.Size, .slice au h.2.2.f.Data.length av] 61) :: (.row H [y8 a.1] 5) :: (.own t8 5 y z (i ++ [a.1])) :: Rr) a4 cb := a6; clear a6
  have ah := a3 (D.small); clear a3
  refine bt a5 I 5 [] [] [(7, y8 h.1), (8, .bool h.2.1)] ?_; intro cZ a8; clear a5
  refine nlH (aZ _ _ ?_); clear aZ b8
  refine sqB a8 I [] [] [(32, .bool h.2.1)] ?_; intro c0 S; clear a8
  refine cd S (t := h.2.1) (by kernel_rfl) (fun aw => ?_) (fun aw => ?_)
  ·
   have cc := ah.1 aw; clear ah
   refine wp_seq ?_
   refine sqH ?_; intro ce a9
   refine s1 S 33 (pt b1 0) ?_; intro c1 ba; clear S
   obtain ⟨cf, bb⟩ := cc
   refine ck ba 68 #[pt b1 0] ?_
   obtain ⟨d, cg, bc⟩ := hxq bb; clear bb
   have j := rbitF_fun h.2.2 cf b1 au av _ _ _ _ _ _ D I I.fz; rw [cg] at j; refine j.mono ?_; clear j; rintro _ ch ⟨U, V, bd, rfl, O, J, hm⟩; refine ⟨_, rfl, ?_⟩; intro c2 be; have bf := hm; clear hm I ba
   replace A := A.mono O
   replace o := o.mono O
   replace m := m.mono O
   replace v := v.mono O
   replace D := D.mono O
   replace l := Fz.le.trans l O
   have E : Mem B [] w0 Z0 ((.row b1 [str d.2.Reader.Row, i6 d.2.Reader.At, i6 d.2.Reader.Code, y8 d.2.Reader.c.last, i6 d.2.Reader.c.n, i6 d.2.f.ID, .bool d.2.f.Long, .bool d.2.f.Fast, .bool d.2.f.Remote, i6 d.2.f.Size, .slice U d.2.f.Data.length V] 61) :: (.row H [y8 a.1] 5) :: (.own t8 5 y z (i ++ [a.1])) :: Rr) bd ch := bf; clear bf
   have ai := bc (J.small); clear bc
   refine s1 be 9 (y8 d.1) ?_; intro c3 bg; clear be
   refine nlH (a9 _ _ ?_); clear a9 ce
   refine sqB bg E [0] [] [(44, .bool ((d.2.Reader.Code == 0) && (d.1 != h.1)))] ?_; intro c4 W; clear bg
   refine cd W (t := (d.2.Reader.Code == 0) && (d.1 != h.1)) (by kernel_rfl) (fun ax => ?_) (fun ax => ?_)
   ·
    have ci := ai.1 ax; clear ai
    refine rgH ?_; intro cj bh
    refine bt W E 3 [] [] [(47, pt b1 2)] ?_; intro c5 ay; clear W
    refine sx ay E 0 [str d.2.Reader.Row, i6 d.2.Reader.At, i6 5, y8 d.2.Reader.c.last, i6 d.2.Reader.c.n, i6 d.2.f.ID, .bool d.2.f.Long, .bool d.2.f.Fast, .bool d.2.f.Remote, i6 d.2.f.Size, .slice U d.2.f.Data.length V] 2 ?_; intro cl bi; clear E
    have aj : Mem B [] w0 Z0 ((.row b1 [str d.2.Reader.Row, i6 d.2.Reader.At, i6 5, y8 d.2.Reader.c.last, i6 d.2.Reader.c.n, i6 d.2.f.ID, .bool d.2.f.Long, .bool d.2.f.Fast, .bool d.2.f.Remote, i6 d.2.f.Size, .slice U d.2.f.Data.length V] 61) :: (.row H [y8 a.1] 5) :: (.own t8 5 y z (i ++ [a.1])) :: Rr) bd cl := bi; clear bi
    refine nlH (bh _ _ ?_); clear bh cj
    refine thn ?_
    refine rgH ?_; intro cm bj
    refine bt ay aj 4 [] [] [(50, pt b1 3), (51, y8 h.1)] ?_; intro c6 bk; clear ay
    obtain ⟨cn, bl⟩ := ci
    refine ck bk 69 #[pt b1 3, y8 h.1] ?_
    obtain ⟨p, co, bm⟩ := hxq bl; clear bl
    have j := cnextF_fun (⟨(⟨d.2.Reader.Row, d.2.Reader.At, 5, d.2.Reader.c⟩ : Reader), d.2.f⟩ : FReader) h.1 cn b1 U V _ _ _ _ _ _ J aj aj.fz; rw [co] at j; refine j.mono ?_; clear j; rintro _ cp ⟨bn, bo, bp, rfl, L, bq, hm⟩; refine ⟨_, rfl, ?_⟩; intro cq br; have bs := hm; clear hm aj bk
    replace A := A.mono L
    replace o := o.mono L
    replace m := m.mono L
    replace v := v.mono L
    replace D := D.mono L
    replace J := J.mono L
    replace l := Fz.le.trans l L
    have bu : Mem B [] w0 Z0 ((.row b1 [str p.2.2.Reader.Row, i6 p.2.2.Reader.At, i6 p.2.2.Reader.Code, y8 p.2.2.Reader.c.last, i6 p.2.2.Reader.c.n, i6 p.2.2.f.ID, .bool p.2.2.f.Long, .bool p.2.2.f.Fast, .bool p.2.2.f.Remote, i6 p.2.2.f.Size, .slice bn p.2.2.f.Data.length bo] 61) :: (.row H [y8 a.1] 5) :: (.own t8 5 y z (i ++ [a.1])) :: Rr) bp cp := bs; clear bs
    have bv := bm (bq.small); clear bm
    refine nlH (bj _ _ ?_); clear bj cm
    refine ibn ?_
    refine thn ?_
    have bw : Fr 61 [] [⟨0, [], pt b1 0⟩, ⟨5, [], .slice y (i ++ [a.1]).length z⟩, ⟨10, [], i6 u1⟩, ⟨11, [], i6 u⟩] cq := br.reg; clear br
    refine rgB bw bu [] [] [(11, i6 (w64 (u + 1)))] ?_; intro c7 cr; clear bw
    refine rd ?_
    have cs := bu.perm ((pk 2 rfl).trans (lpr.cons _))
    exact ⟨⟨i ++ [a.1], w64 (u + 1), p.2.2, y, z, bn, bo, bp⟩, ⟨bv.1, bq, m⟩, bv.2, (cr.reg).anyβ _ (by kernel_rfl), cs.keep (List.Sublist.cons_cons _ (List.Sublist.cons_cons _ (List.Sublist.cons _ (List.Sublist.refl _))))⟩
   have ct := ai.2 ax; clear ai
   refine wp_skip ?_
   refine thn ?_
   refine rgH ?_; intro cu bx
   refine bt W E 4 [] [] [(50, pt b1 3), (51, y8 h.1)] ?_; intro c8 bz; clear W
   obtain ⟨cv, bA⟩ := ct
   refine ck bz 69 #[pt b1 3, y8 h.1] ?_
   obtain ⟨q, cw, bB⟩ := hxq bA; clear bA
   have j := cnextF_fun d.2 h.1 cv b1 U V _ _ _ _ _ _ J E E.fz; rw [cw] at j; refine j.mono ?_; clear j; rintro _ cx ⟨bC, bD, bE, rfl, M, bF, hm⟩; refine ⟨_, rfl, ?_⟩; intro c9 bG; have bH := hm; clear hm E bz
   replace A := A.mono M
   replace o := o.mono M
   replace m := m.mono M
   replace v := v.mono M
   replace D := D.mono M
   replace J := J.mono M
   replace l := Fz.le.trans l M
   have bI : Mem B [] w0 Z0 ((.row b1 [str q.2.2.Reader.Row, i6 q.2.2.Reader.At, i6 q.2.2.Reader.Code, y8 q.2.2.Reader.c.last, i6 q.2.2.Reader.c.n, i6 q.2.2.f.ID, .bool q.2.2.f.Long, .bool q.2.2.f.Fast, .bool q.2.2.f.Remote, i6 q.2.2.f.Size, .slice bC q.2.2.f.Data.length bD] 61) :: (.row H [y8 a.1] 5) :: (.own t8 5 y z (i ++ [a.1])) :: Rr) bE cx := bH; clear bH
   have bJ := bB (bF.small); clear bB
   refine nlH (bx _ _ ?_); clear bx cu
   refine ibn ?_
   refine thn ?_
   refine rgB bG bI [] [] [(11, i6 (w64 (u + 1)))] ?_; intro da cy; clear bG
   refine rd ?_
   have cz := bI.perm ((pk 2 rfl).trans (lpr.cons _))
   exact ⟨⟨i ++ [a.1], w64 (u + 1), q.2.2, y, z, bC, bD, bE⟩, ⟨bJ.1, bF, m⟩, bJ.2, (cy.reg).anyβ _ (by kernel_rfl), cz.keep (List.Sublist.cons_cons _ (List.Sublist.cons_cons _ (List.Sublist.cons _ (List.Sublist.refl _))))⟩
  have bK := ah.2 aw; clear ah
  refine wp_skip ?_
  refine ibn ?_
  refine thn ?_
  refine rgB S I [] [] [(11, i6 (w64 (u + 1)))] ?_; intro db cA; clear S
  refine rd ?_
  have cB := I.perm ((pk 2 rfl).trans (lpr.cons _))
  exact ⟨⟨i ++ [a.1], w64 (u + 1), h.2.2, y, z, au, av, a4⟩, ⟨bK.1, D, m⟩, bK.2, (cA.reg).anyβ _ (by kernel_rfl), cB.keep (List.Sublist.cons_cons _ (List.Sublist.cons_cons _ (List.Sublist.cons _ (List.Sublist.refl _))))⟩
 have ak := ab.2 am; clear ab
 refine wp_exit ?_
 refine thx ?_
 refine thx ?_
 refine ibx ?_
 refine thn ?_
 refine wp_seq ?_
 refine sqB P C [1] [] [(58, .bool (k.Reader.Code != 0))] ?_; intro dc X; clear P
 refine cd X (t := k.Reader.Code != 0) (by kernel_rfl) (fun az => ?_) (fun az => ?_)
 ·
  have cC := ak.1 az; clear ak
  refine sqB X C [] [] [(4, str [])] ?_; intro dd cD; clear X
  refine wp_ret ?_
  refine thr ?_
  refine ra1 cD (str []) ?_
  exact ⟨([], k), Y, aa, al, rfl, cC, l, o, C.keep (List.Sublist.cons _ (List.Sublist.cons_cons _ (List.Sublist.refl _)))⟩
 have cE := ak.2 az; clear ak
 refine wp_skip ?_
 refine thn ?_
 refine sqH ?_; intro cF bL
 refine s1 X 59 (.slice F i.length G) ?_; intro de aA; clear X
 refine st aA (str (bstr i)) (nog rfl _) rfl (by kernel_rfl) ((by obtain ⟨Z9, df, cG, cH⟩ := C.lend 0 rfl; exact bstr_op aA (g := []) (e := 5) (ao := F) (cap := G) (xs := i) rfl (by kernel_rfl) (by kernel_rfl) (by kernel_rfl) (by kernel_rfl)  cH cG rfl)) ?_; intro dg bM; clear aA
 refine s1 bM 4 (str (bstr i)) ?_; intro dh cI; clear bM
 refine nlH (bL _ _ ?_); clear bL cF
 refine wp_ret ?_
 refine ra1 cI (str (bstr i)) ?_
 exact ⟨(bstr i, k), Y, aa, al, rfl, cE, l, o, C.keep (List.Sublist.cons _ (List.Sublist.cons_cons _ (List.Sublist.refl _)))⟩

theorem rplainF_walk (u0 : FReader) (u1 : Int) (b1 : Nat) (ao2 : Option Addr) (cap3 : Nat) (B : Nat) (w0 : World) (Z0 : Fz) (Rr : List Res) (Z : Fz) (w : World) (hs4 : SlR t8 Z ao2 cap3 u0.f.Data) (hM0 : Mem B [] w0 Z0 ((.row b1 [str u0.Reader.Row, i6 u0.Reader.At, i6 u0.Reader.Code, y8 u0.Reader.c.last, i6 u0.Reader.c.n, i6 u0.f.ID, .bool u0.f.Long, .bool u0.f.Fast, .bool u0.f.Remote, i6 u0.f.Size, .slice ao2 u0.f.Data.length cap3] 61) :: Rr) Z w) (hZ : Z.on w) {K : ((List UInt8) × FReader) → Prop} (hp : rplainF_vc u0 u1 K) : Calls Tryz.prog 41 #[pt b1 0, i6 u1] w fun e w' => ∃ (r : (List UInt8) × FReader) (ao1001 : Option Addr) (cap1002 : Nat) (Z' : Fz), e = .returned (str r.1) ∧ K r ∧ Fz.le Z Z' ∧ SlR t8 Z' ao1001 cap1002 r.2.f.Data ∧ Mem B [] w0 Z0 ((.row b1 [str r.2.Reader.Row, i6 r.2.Reader.At, i6 r.2.Reader.Code, y8 r.2.Reader.c.last, i6 r.2.Reader.c.n, i6 r.2.f.ID, .bool r.2.f.Long, .bool r.2.f.Fast, .bool r.2.f.Remote, i6 r.2.f.Size, .slice ao1001 r.2.f.Data.length cap1002] 61) :: Rr) Z' w' := by
 refine enter0 Tryz.func41 rfl rfl (by kernel_rfl) ?_; intro a0 P; have j := Fz.le.refl Z
 have ay := hp (hs4.small); clear hp
 refine sqB P hM0 [] [] [] ?_; intro a7 Q; clear P
 refine sqB Q hM0 [] [] [(5, .slice none 0 0)] ?_; intro aX R; clear Q
 refine wp_seq ?_
 refine sqB R hM0 [] [] [(6, i6 u1), (7, i6 0)] ?_; intro S U; clear R
 refine wp_block ?_
 have V : Fr 22 [] [⟨0, [], pt b1 0⟩, ⟨5, [], .slice none 0 0⟩, ⟨6, [], i6 u1⟩, ⟨7, [], i6 0⟩] S := U.reg; clear U
 have W : Mem B [] w0 Z0 ((.own t8 5 none 0 ([] : List Int)) :: (.row b1 [str u0.Reader.Row, i6 u0.Reader.At, i6 u0.Reader.Code, y8 u0.Reader.c.last, i6 u0.Reader.c.n, i6 u0.f.ID, .bool u0.f.Long, .bool u0.f.Fast, .bool u0.f.Remote, i6 u0.f.Size, .slice ao2 u0.f.Data.length cap3] 61) :: Rr) Z w := hM0.addNil t8 5 (by decide); clear hM0
 have X : Fr 22 [] [⟨0, [], pt b1 0⟩, ⟨5, [], .slice none ([] : List Int).length 0⟩, ⟨6, [], i6 u1⟩, ⟨7, [], i6 0⟩] S := V.reg; clear V
 obtain ⟨az, aA, aB, aC⟩ := ay
 have aY := j
 refine lp (ι := (List Int) × Int × FReader × (Option Addr) × Nat × (Option Addr) × Nat × Fz) (fun (s : (List Int) × Int × FReader × (Option Addr) × Nat × (Option Addr) × Nat × Fz) => [⟨0, [], pt b1 0⟩, ⟨5, [], .slice s.2.2.2.1 s.1.length s.2.2.2.2.1⟩, ⟨6, [], i6 u1⟩, ⟨7, [], i6 s.2.1⟩]) (fun (s : (List Int) × Int × FReader × (Option Addr) × Nat × (Option Addr) × Nat × Fz) => ((.own t8 5 s.2.2.2.1 s.2.2.2.2.1 s.1) :: (.row b1 [str s.2.2.1.Reader.Row, i6 s.2.2.1.Reader.At, i6 s.2.2.1.Reader.Code, y8 s.2.2.1.Reader.c.last, i6 s.2.2.1.Reader.c.n, i6 s.2.2.1.f.ID, .bool s.2.2.1.f.Long, .bool s.2.2.1.f.Fast, .bool s.2.2.1.f.Remote, i6 s.2.2.1.f.Size, .slice s.2.2.2.2.2.1 s.2.2.1.f.Data.length s.2.2.2.2.2.2.1] 61) :: Rr)) (fun (s : (List Int) × Int × FReader × (Option Addr) × Nat × (Option Addr) × Nat × Fz) => s.2.2.2.2.2.2.2) (fun (s : (List Int) × Int × FReader × (Option Addr) × Nat × (Option Addr) × Nat × Fz) => az s.1 s.2.1 s.2.2.1 ∧ SlR t8 s.2.2.2.2.2.2.2 s.2.2.2.2.2.1 s.2.2.2.2.2.2.1 s.2.2.1.f.Data ∧ Fz.le Z s.2.2.2.2.2.2.2) (fun (s : (List Int) × Int × FReader × (Option Addr) × Nat × (Option Addr) × Nat × Fz) => aA s.1 s.2.1 s.2.2.1) ⟨([] : List Int), 0, u0, none, 0, ao2, cap3, Z⟩ ⟨aB, hs4, Fz.le.refl _⟩ (by exact X.reg) (by exact W) ?_
 rintro ⟨h, m, d, k, l, v, y, D⟩ ⟨aD, o, p⟩ aE aF Y aa
 have ab : Fr 22 [] [⟨0, [], pt b1 0⟩, ⟨5, [], .slice k h.length l⟩, ⟨6, [], i6 u1⟩, ⟨7, [], i6 m⟩] aE := Y; clear Y X
 have i : Mem B [] w0 Z0 ((.own t8 5 k l h) :: (.row b1 [str d.Reader.Row, i6 d.Reader.At, i6 d.Reader.Code, y8 d.Reader.c.last, i6 d.Reader.c.n, i6 d.f.ID, .bool d.f.Long, .bool d.f.Fast, .bool d.f.Remote, i6 d.f.Size, .slice v d.f.Data.length y] 61) :: Rr) D aF := aa; clear aa W
 have z := aC h m d aD
 replace j := Fz.le.trans j p
 have ac := hs4.mono p
 refine sqB ab i [] [] [(8, .bool (decide (m < u1)))] ?_; intro aZ q; clear ab
 refine wp_seq ?_
 refine cd q (t := decide (m < u1)) (by kernel_rfl) (fun E => ?_) (fun E => ?_)
 ·
  have aG := z.1 E; clear z
  refine wp_skip ?_
  refine thn ?_
  refine wp_seq ?_
  refine wp_block ?_
  refine rgH ?_; intro aH ad
  refine bt q i 2 [] [] [(9, .slice k h.length l), (10, pt b1 0)] ?_; intro a1 ae; clear q
  obtain ⟨aI, af⟩ := aG
  refine ck ae 68 #[pt b1 0] ?_
  obtain ⟨a, aJ, ag⟩ := hxq af; clear af
  have F := rbitF_fun d aI b1 v y _ _ _ _ _ _ o (i.perm (pk 1 rfl)) i.fz; rw [aJ] at F; refine F.mono ?_; clear F; rintro _ aK ⟨G, H, I, rfl, A, ah, hm⟩; refine ⟨_, rfl, ?_⟩; intro a2 ai; have aj := hm; clear hm i ae
  replace ac := ac.mono A
  replace o := o.mono A
  replace p := p.mono A
  replace j := Fz.le.trans j A
  have ak : Mem B [] w0 Z0 ((.row b1 [str a.2.Reader.Row, i6 a.2.Reader.At, i6 a.2.Reader.Code, y8 a.2.Reader.c.last, i6 a.2.Reader.c.n, i6 a.2.f.ID, .bool a.2.f.Long, .bool a.2.f.Fast, .bool a.2.f.Remote, i6 a.2.f.Size, .slice G a.2.f.Data.length H] 61) :: (.own t8 5 k l h) :: Rr) I aK := aj; clear aj
  have aL := ag (ah.small); clear ag
  refine nw ai ak (fun b => .slice (sm b) 1 1) [y8 a.1] 5 ?_; intro al a3 a4 am J; clear ai ak
  obtain ⟨aM, an⟩ := aL
  refine ap am J 2 (T := t8) (xs := h) (ys := [a.1]) (ao := k) (cap := l) (ao2 := (sm al)) (cap2 := 1) (t := 22) (e := 5) (bytes := 1) (nog rfl _) rfl (by kernel_rfl) rfl (by kernel_rfl) (by kernel_rfl) (by kernel_rfl) rfl (Src.row J 0 rfl (RepAll.one (T := t8) (x := a.1) rfl)) aM ?_; intro L M a5 aN a6 aq ar; clear am J
  have au : Mem B [] w0 Z0 ((.row al [y8 a.1] 5) :: (.row b1 [str a.2.Reader.Row, i6 a.2.Reader.At, i6 a.2.Reader.Code, y8 a.2.Reader.c.last, i6 a.2.Reader.c.n, i6 a.2.f.ID, .bool a.2.f.Long, .bool a.2.f.Fast, .bool a.2.f.Remote, i6 a.2.f.Size, .slice G a.2.f.Data.length H] 61) :: (.own t8 5 L M (h ++ [a.1])) :: Rr) I aN := ar; clear ar
  refine s1 aq 5 (.slice L (h ++ [a.1]).length M) ?_; intro a8 av; clear aq
  refine nlH (ad _ _ ?_); clear ad aH
  refine ibn ?_
  refine thn ?_
  refine rgB av au [] [] [(7, i6 (w64 (m + 1)))] ?_; intro a9 aO; clear av
  refine rd ?_
  have aP := au.perm ((pk 2 rfl).trans (((pk 1 rfl).trans (lpr.cons _)).cons _))
  exact ⟨⟨h ++ [a.1], w64 (m + 1), a.2, L, M, G, H, I⟩, ⟨an.1, ah, p⟩, an.2, (aO.reg).anyβ _ (by kernel_rfl), aP.keep (List.Sublist.cons_cons _ (List.Sublist.cons_cons _ (List.Sublist.cons _ (List.Sublist.refl _))))⟩
 have C := z.2 E; clear z
 refine wp_exit ?_
 refine thx ?_
 refine thx ?_
 refine ibx ?_
 refine thn ?_
 refine wp_seq ?_
 refine sqB q i [1] [] [(19, .bool (d.Reader.Code != 0))] ?_; intro ba u; clear q
 refine cd u (t := d.Reader.Code != 0) (by kernel_rfl) (fun N => ?_) (fun N => ?_)
 ·
  have aQ := C.1 N; clear C
  refine sqB u i [] [] [(4, str [])] ?_; intro bb aR; clear u
  refine wp_ret ?_
  refine thr ?_
  refine ra1 aR (str []) ?_
  exact ⟨([], d), v, y, D, rfl, aQ, j, o, i.keep (List.Sublist.cons _ (List.Sublist.cons_cons _ (List.Sublist.refl _)))⟩
 have aS := C.2 N; clear C
 refine wp_skip ?_
 refine thn ?_
 refine sqH ?_; intro aT aw
 refine s1 u 20 (.slice k h.length l) ?_; intro bc O; clear u
 refine st O (str (bstr h)) (nog rfl _) rfl (by kernel_rfl) ((by obtain ⟨Z9, bd, aU, aV⟩ := i.lend 0 rfl; exact bstr_op O (g := []) (e := 5) (ao := k) (cap := l) (xs := h) rfl (by kernel_rfl) (by kernel_rfl) (by kernel_rfl) (by kernel_rfl)  aV aU rfl)) ?_; intro be ax; clear O
 refine s1 ax 4 (str (bstr h)) ?_; intro bf aW; clear ax
 refine nlH (aw _ _ ?_); clear aw aT
 refine wp_ret ?_
 refine ra1 aW (str (bstr h)) ?_
 exact ⟨(bstr h, d), v, y, D, rfl, aS, j, o, i.keep (List.Sublist.cons _ (List.Sublist.cons_cons _ (List.Sublist.refl _)))⟩

theorem sput_walk (u0 : List UInt8)  (Z : Fz) (w : World)  (hZ : Z.on w) {K : ((List UInt8) × Int) → Prop} (hp : sput_vc u0 K) : Calls Tryz.prog 54 #[str u0] w fun e w' => ∃ r : (List UInt8) × Int, e = .returned (.tuple #[str r.1, i6 r.2]) ∧ K r ∧ Below w.heap.size w w' := by
 refine enter0 Tryz.func54 rfl rfl (by kernel_rfl) ?_; intro a0 Y; have E := Mem.start w Z hZ; have j := Fz.le.refl Z
 refine sqB Y E [] [] [] ?_; intro a4 aa; clear Y
 refine wp_seq ?_
 refine sqH ?_; intro a8 ab
 refine s1 aa 10 (str u0) ?_; intro a7 ac; clear aa
 refine fc ac E (bcheck_fun u0 _ _ E.fz) ?_; intro a9 bV ad o; clear ac E
 refine s1 ad 4 (i6 (bcheckS u0)) ?_; intro bW ae; clear ad
 refine nlH (ab _ _ ?_); clear ab a8
 refine sqB ae o [] [] [(13, .bool ((bcheckS u0) != 0))] ?_; intro bX A; clear ae
 refine cd A (t := (bcheckS u0) != 0) (by kernel_rfl) (fun L => ?_) (fun L => ?_)
 ·
  have ba := hp.1 L; clear hp
  refine sqB A o [] [] [(2, str []), (3, i6 (bcheckS u0))] ?_; intro bY bb; clear A
  refine wp_ret ?_
  refine thr ?_
  refine ra2 bb (.tuple #[str [], i6 (bcheckS u0)]) ?_
  exact ⟨([], (bcheckS u0)), rfl, ba, o.below⟩
 have bc := hp.2 L; clear hp
 refine wp_skip ?_
 refine thn ?_
 refine sqB A o [] [] [(5, .slice none 0 0)] ?_; intro bZ af; clear A
 refine sqH ?_; intro bd ag
 refine nw af o pb [y8 0, i6 0] 57 ?_; intro f b0 be ah M; clear af o
 refine nlH (ag _ _ ?_); clear ag bd
 refine wp_seq ?_
 refine sqB ah M [] [] [(16, i6 (u0.length : Int)), (17, i6 0)] ?_; intro ai aj; clear ah
 refine wp_block ?_
 have ak : Fr 43 [] [⟨0, [], str u0⟩, ⟨5, [], .slice none 0 0⟩, ⟨6, [], pt f 0⟩, ⟨16, [], i6 (u0.length : Int)⟩, ⟨17, [], i6 0⟩] ai := aj.reg; clear aj
 have al : Mem w.heap.size [] w Z [.own t8 5 none 0 ([] : List Int), .row f [y8 0, i6 0] 57] Z be := M.addNil t8 5 (by decide); clear M
 have am : Fr 43 [] [⟨0, [], str u0⟩, ⟨5, [], .slice none ([] : List Int).length 0⟩, ⟨6, [], pt f 0⟩, ⟨16, [], i6 (u0.length : Int)⟩, ⟨17, [], i6 0⟩] ai := ak.reg; clear ak
 obtain ⟨bf, bg, bh, bi⟩ := bc
 have b1 := j
 refine lp (ι := (List Int) × Int × Counter × (Option Addr) × Nat × Fz) (fun (s : (List Int) × Int × Counter × (Option Addr) × Nat × Fz) => [⟨0, [], str u0⟩, ⟨5, [], .slice s.2.2.2.1 s.1.length s.2.2.2.2.1⟩, ⟨6, [], pt f 0⟩, ⟨16, [], i6 (u0.length : Int)⟩, ⟨17, [], i6 s.2.1⟩]) (fun (s : (List Int) × Int × Counter × (Option Addr) × Nat × Fz) => [.own t8 5 s.2.2.2.1 s.2.2.2.2.1 s.1, .row f [y8 s.2.2.1.last, i6 s.2.2.1.n] 57]) (fun (s : (List Int) × Int × Counter × (Option Addr) × Nat × Fz) => s.2.2.2.2.2) (fun (s : (List Int) × Int × Counter × (Option Addr) × Nat × Fz) => bf s.1 s.2.1 s.2.2.1 ∧ Fz.le Z s.2.2.2.2.2) (fun (s : (List Int) × Int × Counter × (Option Addr) × Nat × Fz) => bg s.1 s.2.1 s.2.2.1) ⟨([] : List Int), 0, (⟨0, 0⟩ : Counter), none, 0, Z⟩ ⟨bh, Fz.le.refl _⟩ (by exact am.reg) (by exact al) ?_
 rintro ⟨c, h, p, u, v, an⟩ ⟨bj, k⟩ bk bl aq ar
 have au : Fr 43 [] [⟨0, [], str u0⟩, ⟨5, [], .slice u c.length v⟩, ⟨6, [], pt f 0⟩, ⟨16, [], i6 (u0.length : Int)⟩, ⟨17, [], i6 h⟩] bk := aq; clear aq am
 have i : Mem w.heap.size [] w Z [.own t8 5 u v c, .row f [y8 p.last, i6 p.n] 57] an bl := ar; clear ar al
 have F := bi c h p bj
 replace j := Fz.le.trans j k
 refine sqB au i [] [] [(18, .bool (decide (h < (u0.length : Int))))] ?_; intro b2 B; clear au
 refine wp_seq ?_
 refine cd B (t := decide (h < (u0.length : Int))) (by kernel_rfl) (fun N => ?_) (fun N => ?_)
 ·
  have bm := F.1 N; clear F
  refine wp_skip ?_
  refine thn ?_
  refine wp_seq ?_
  refine wp_block ?_
  refine sqB B i [] [] [(7, i6 h)] ?_; intro b3 av; clear B
  refine sqH ?_; intro bn aw
  refine bt av i 3 [] [] [(20, .slice u c.length v), (21, str u0), (22, i6 h)] ?_; intro b4 ax; clear av
  obtain ⟨bo, bp⟩ := bm
  obtain ⟨d, ay⟩ : ∃ q, u0[h.toNat]? = some q := ⟨_, List.getElem?_eq_getElem (by omega)⟩; have bq := bp d ay
  refine si ax .i64 bo.1 ay ?_; intro b5 az; clear ax
  refine nw az i (fun b => .slice (sm b) 1 1) [y8 (d.toNat : Int)] 5 ?_; intro C b6 b7 aA O; clear az i
  obtain ⟨br, bs⟩ := bq
  refine ap aA O 1 (T := t8) (xs := c) (ys := [(d.toNat : Int)]) (ao := u) (cap := v) (ao2 := (sm C)) (cap2 := 1) (t := 22) (e := 5) (bytes := 1) (nog rfl _) rfl (by kernel_rfl) rfl (by kernel_rfl) (by kernel_rfl) (by kernel_rfl) rfl (Src.row O 0 rfl (RepAll.one (T := t8) (x := (d.toNat : Int)) rfl)) br ?_; intro y z b8 bu b9 aB aC; clear aA O
  have G : Mem w.heap.size [] w Z [.row C [y8 (d.toNat : Int)] 5, .own t8 5 y z (c ++ [(d.toNat : Int)]), .row f [y8 p.last, i6 p.n] 57] an bu := aC; clear aC
  refine s1 aB 5 (.slice y (c ++ [(d.toNat : Int)]).length z) ?_; intro ca aD; clear aB
  refine nlH (aw _ _ ?_); clear aw bn
  refine sqH ?_; intro bv aE
  refine bt aD G 2 [] [] [(27, str u0), (28, i6 h)] ?_; intro cb aF; clear aD
  obtain ⟨bw, bx⟩ := bs
  obtain ⟨P, aG⟩ : ∃ q, u0[h.toNat]? = some q := ⟨_, List.getElem?_eq_getElem (by omega)⟩; have bz := bx P aG
  refine si aF .i64 bw.1 aG ?_; intro cc aH; clear aF
  obtain ⟨bA, aI⟩ := bz
  refine ck aH 69 #[pt f 0, y8 (P.toNat : Int)] ?_
  obtain ⟨a, bB, H⟩ := hxq aI; clear aI
  have l := cnext_fun p (P.toNat : Int) bA f _ _ _ _ _ _ (G.perm (pk 2 rfl)) G.fz; rw [bB] at l; refine l.mono ?_; clear l; rintro _ bC ⟨Q, rfl, aJ, hm⟩; refine ⟨_, rfl, ?_⟩; intro ce aK; have aL := hm; clear hm G aH
  replace k := k.mono aJ
  replace j := Fz.le.trans j aJ
  have m : Mem w.heap.size [] w Z [.row f [y8 a.2.2.last, i6 a.2.2.n] 57, .row C [y8 (d.toNat : Int)] 5, .own t8 5 y z (c ++ [(d.toNat : Int)])] Q bC := aL; clear aL
  refine bt aK m 5 [] [] [(8, y8 a.1), (9, .bool a.2.1)] ?_; intro cf aM; clear aK
  refine nlH (aE _ _ ?_); clear aE bv
  refine sqB aM m [] [] [(33, .bool a.2.1)] ?_; intro cg D; clear aM
  refine cd D (t := a.2.1) (by kernel_rfl) (fun R => ?_) (fun R => ?_)
  ·
   have bD := H.1 R; clear H
   refine sqH ?_; intro bE aN
   refine bt D m 2 [] [] [(34, .slice y (c ++ [(d.toNat : Int)]).length z), (35, y8 a.1)] ?_; intro ch aO; clear D
   refine nw aO m (fun b => .slice (sm b) 1 1) [y8 a.1] 5 ?_; intro S ci cj aP U; clear aO m
   obtain ⟨bF, bG⟩ := bD
   refine ap aP U 3 (T := t8) (xs := c ++ [(d.toNat : Int)]) (ys := [a.1]) (ao := y) (cap := z) (ao2 := (sm S)) (cap2 := 1) (t := 22) (e := 5) (bytes := 1) (nog rfl _) rfl (by kernel_rfl) rfl (by kernel_rfl) (by kernel_rfl) (by kernel_rfl) rfl (Src.row U 0 rfl (RepAll.one (T := t8) (x := a.1) rfl)) bF ?_; intro I J cl bH cm aQ aR; clear aP U
   have V : Mem w.heap.size [] w Z [.row S [y8 a.1] 5, .row f [y8 a.2.2.last, i6 a.2.2.n] 57, .row C [y8 (d.toNat : Int)] 5, .own t8 5 I J ((c ++ [(d.toNat : Int)]) ++ [a.1])] Q bH := aR; clear aR
   refine s1 aQ 5 (.slice I ((c ++ [(d.toNat : Int)]) ++ [a.1]).length J) ?_; intro cn aS; clear aQ
   refine nlH (aN _ _ ?_); clear aN bE
   refine rgH ?_; intro bI aT
   refine s1 aS 38 (y8 a.1) ?_; intro co aU; clear aS
   obtain ⟨bJ, aV⟩ := bG
   refine ck aU 69 #[pt f 0, y8 a.1] ?_
   obtain ⟨W, bK, aW⟩ := hxq aV; clear aV
   have l := cnext_fun a.2.2 a.1 bJ f _ _ _ _ _ _ (V.perm (pk 1 rfl)) V.fz; rw [bK] at l; refine l.mono ?_; clear l; rintro _ bL ⟨aX, rfl, aY, hm⟩; refine ⟨_, rfl, ?_⟩; intro cp aZ; have a1 := hm; clear hm V aU
   replace k := k.mono aY
   replace j := Fz.le.trans j aY
   have a2 : Mem w.heap.size [] w Z [.row f [y8 W.2.2.last, i6 W.2.2.n] 57, .row S [y8 a.1] 5, .row C [y8 (d.toNat : Int)] 5, .own t8 5 I J ((c ++ [(d.toNat : Int)]) ++ [a.1])] aX bL := a1; clear a1
   refine nlH (aT _ _ ?_); clear aT bI
   refine ibn ?_
   refine thn ?_
   refine rgB aZ a2 [] [] [(17, i6 (w64 (h + 1)))] ?_; intro cq bM; clear aZ
   refine rd ?_
   have bN := a2.perm ((pk 3 rfl).trans (lpr.cons _))
   exact ⟨⟨(c ++ [(d.toNat : Int)]) ++ [a.1], w64 (h + 1), W.2.2, I, J, aX⟩, ⟨aW.1, k⟩, aW.2, (bM.reg).anyβ _ (by kernel_rfl), bN.keep (List.Sublist.cons_cons _ (List.Sublist.cons_cons _ (List.Sublist.cons _ (List.Sublist.cons _ (List.Sublist.slnil)))))⟩
  have a3 := H.2 R; clear H
  refine wp_skip ?_
  refine ibn ?_
  refine thn ?_
  refine rgB D m [] [] [(17, i6 (w64 (h + 1)))] ?_; intro cr bO; clear D
  refine rd ?_
  have bP := m.perm ((pk 2 rfl).trans (lpr.cons _))
  exact ⟨⟨c ++ [(d.toNat : Int)], w64 (h + 1), a.2.2, y, z, Q⟩, ⟨a3.1, k⟩, a3.2, (bO.reg).anyβ _ (by kernel_rfl), bP.keep (List.Sublist.cons_cons _ (List.Sublist.cons_cons _ (List.Sublist.cons _ (List.Sublist.slnil))))⟩
 have bQ := F.2 N; clear F
 refine wp_exit ?_
 refine thx ?_
 refine thx ?_
 refine ibx ?_
 refine thn ?_
 refine sqH ?_; intro bR a5
 refine s1 B 41 (.slice u c.length v) ?_; intro cs X; clear B
 refine st X (str (bstr c)) (nog rfl _) rfl (by kernel_rfl) ((by obtain ⟨Z9, ct, bS, bT⟩ := i.lend 0 rfl; exact bstr_op X (g := []) (e := 5) (ao := u) (cap := v) (xs := c) rfl (by kernel_rfl) (by kernel_rfl) (by kernel_rfl) (by kernel_rfl)  bT bS rfl)) ?_; intro cu a6; clear X
 refine bt a6 i 2 [] [] [(2, str (bstr c)), (3, i6 0)] ?_; intro cv bU; clear a6
 refine nlH (a5 _ _ ?_); clear a5 bR
 refine wp_ret ?_
 refine ra2 bU (.tuple #[str (bstr c), i6 0]) ?_
 exact ⟨(bstr c, 0), rfl, bQ, i.below⟩

theorem sfixed_walk (u0 : List UInt8) (u1 : Int)  (Z : Fz) (w : World)  (hZ : Z.on w) {K : ((List UInt8) × Int) → Prop} (hp : sfixed_vc u0 u1 K) : Calls Tryz.prog 57 #[str u0, y8 u1] w fun e w' => ∃ r : (List UInt8) × Int, e = .returned (.tuple #[str r.1, i6 r.2]) ∧ K r ∧ Below w.heap.size w w' := by
 refine enter0 Tryz.func57 rfl rfl (by kernel_rfl) ?_; intro a0 W; have u := Mem.start w Z hZ; have bV := Fz.le.refl Z
 refine sqB W u [] [] [] ?_; intro a4 X; clear W
 refine wp_seq ?_
 refine sqH ?_; intro a6 Y
 refine s1 X 10 (str u0) ?_; intro a7 aa; clear X
 refine fc aa u (bcheck_fun u0 _ _ u.fz) ?_; intro a9 a8 ab h; clear aa u
 refine s1 ab 6 (i6 (bcheckS u0)) ?_; intro bW ac; clear ab
 refine nlH (Y _ _ ?_); clear Y a6
 refine sqB ac h [] [] [(13, .bool ((bcheckS u0) != 0))] ?_; intro bX m; clear ac
 refine cd m (t := (bcheckS u0) != 0) (by kernel_rfl) (fun C => ?_) (fun C => ?_)
 ·
  have ba := hp.1 C; clear hp
  refine sqB m h [] [] [(4, str []), (5, i6 (bcheckS u0))] ?_; intro bY bb; clear m
  refine wp_ret ?_
  refine thr ?_
  refine ra2 bb (.tuple #[str [], i6 (bcheckS u0)]) ?_
  exact ⟨([], (bcheckS u0)), rfl, ba, h.below⟩
 have v := hp.2 C; clear hp
 refine wp_skip ?_
 refine thn ?_
 refine wp_seq ?_
 refine sqB m h [] [] [(20, .bool ((u1 != 48) && (u1 != 49)))] ?_; intro bZ n; clear m
 refine cd n (t := (u1 != 48) && (u1 != 49)) (by kernel_rfl) (fun D => ?_) (fun D => ?_)
 ·
  have bc := v.1 D; clear v
  refine sqB n h [] [] [(4, str []), (5, i6 3)] ?_; intro b0 bd; clear n
  refine wp_ret ?_
  refine thr ?_
  refine ra2 bd (.tuple #[str [], i6 3]) ?_
  exact ⟨([], 3), rfl, bc, h.below⟩
 have be := v.2 D; clear v
 refine wp_skip ?_
 refine thn ?_
 refine sqB n h [] [] [(7, .slice none 0 0)] ?_; intro b1 ad; clear n
 refine sqB ad h [] [] [(8, y8 u1)] ?_; intro b2 ae; clear ad
 refine wp_seq ?_
 refine sqB ae h [] [] [(23, i6 (u0.length : Int)), (24, i6 0)] ?_; intro af ag; clear ae
 refine wp_block ?_
 have ah : Fr 47 [] [⟨0, [], str u0⟩, ⟨7, [], .slice none 0 0⟩, ⟨8, [], y8 u1⟩, ⟨23, [], i6 (u0.length : Int)⟩, ⟨24, [], i6 0⟩] af := ag.reg; clear ag
 have ai : Mem w.heap.size [] w Z [.own t8 5 none 0 ([] : List Int)] Z a8 := h.addNil t8 5 (by decide); clear h
 have aj : Fr 47 [] [⟨0, [], str u0⟩, ⟨7, [], .slice none ([] : List Int).length 0⟩, ⟨8, [], y8 u1⟩, ⟨23, [], i6 (u0.length : Int)⟩, ⟨24, [], i6 0⟩] af := ah.reg; clear ah
 obtain ⟨bf, bg, bh, bi⟩ := be
 refine lp (ι := (List Int) × Int × Int × (Option Addr) × Nat) (fun (s : (List Int) × Int × Int × (Option Addr) × Nat) => [⟨0, [], str u0⟩, ⟨7, [], .slice s.2.2.2.1 s.1.length s.2.2.2.2⟩, ⟨8, [], y8 s.2.1⟩, ⟨23, [], i6 (u0.length : Int)⟩, ⟨24, [], i6 s.2.2.1⟩]) (fun (s : (List Int) × Int × Int × (Option Addr) × Nat) => [.own t8 5 s.2.2.2.1 s.2.2.2.2 s.1]) (fun (s : (List Int) × Int × Int × (Option Addr) × Nat) => Z) (fun (s : (List Int) × Int × Int × (Option Addr) × Nat) => bf s.1 s.2.1 s.2.2.1) (fun (s : (List Int) × Int × Int × (Option Addr) × Nat) => bg s.1 s.2.1 s.2.2.1) ⟨([] : List Int), u1, 0, none, 0⟩ bh (by exact aj.reg) (by exact ai) ?_
 rintro ⟨a, d, c, i, j⟩ bj bk bl ak al
 have am : Fr 47 [] [⟨0, [], str u0⟩, ⟨7, [], .slice i a.length j⟩, ⟨8, [], y8 d⟩, ⟨23, [], i6 (u0.length : Int)⟩, ⟨24, [], i6 c⟩] bk := ak; clear ak aj
 have f : Mem w.heap.size [] w Z [.own t8 5 i j a] Z bl := al; clear al ai
 have y := bi a d c bj
 refine sqB am f [] [] [(25, .bool (decide (c < (u0.length : Int))))] ?_; intro b3 o; clear am
 refine wp_seq ?_
 refine cd o (t := decide (c < (u0.length : Int))) (by kernel_rfl) (fun E => ?_) (fun E => ?_)
 ·
  have z := y.1 E; clear y
  refine wp_skip ?_
  refine thn ?_
  refine wp_seq ?_
  refine wp_block ?_
  refine sqB o f [] [] [(9, i6 c)] ?_; intro b4 an; clear o
  refine wp_seq ?_
  refine sqB an f [] [] [(29, .bool ((c.tmod 4) == 0))] ?_; intro b5 p; clear an
  refine cd p (t := (c.tmod 4) == 0) (by kernel_rfl) (fun F => ?_) (fun F => ?_)
  ·
   have bm := z.1 F; clear z
   refine rgH ?_; intro bn aq
   refine bt p f 3 [] [] [(30, .slice i a.length j), (32, y8 (w8 (97 - d)))] ?_; intro b6 ar; clear p
   refine nw ar f (fun b => .slice (sm b) 1 1) [y8 (w8 (97 - d))] 5 ?_; intro G b7 b8 au H; clear ar f
   obtain ⟨bo, bp⟩ := bm
   refine ap au H 1 (T := t8) (xs := a) (ys := [w8 (97 - d)]) (ao := i) (cap := j) (ao2 := (sm G)) (cap2 := 1) (t := 22) (e := 5) (bytes := 1) (nog rfl _) rfl (by kernel_rfl) rfl (by kernel_rfl) (by kernel_rfl) (by kernel_rfl) rfl (Src.row H 0 rfl (RepAll.one (T := t8) (x := (w8 (97 - d))) rfl)) bo ?_; intro A B b9 bq ca av aw; clear au H
   have I : Mem w.heap.size [] w Z [.row G [y8 (w8 (97 - d))] 5, .own t8 5 A B (a ++ [w8 (97 - d)])] Z bq := aw; clear aw
   refine s1 av 7 (.slice A (a ++ [w8 (97 - d)]).length B) ?_; intro cb ax; clear av
   refine nlH (aq _ _ ?_); clear aq bn
   refine thn ?_
   refine sqH ?_; intro br ay
   refine bt ax I 3 [] [] [(35, .slice A (a ++ [w8 (97 - d)]).length B), (36, str u0), (37, i6 c)] ?_; intro cc az; clear ax
   obtain ⟨bs, bu⟩ := bp
   obtain ⟨k, aA⟩ : ∃ q, u0[c.toNat]? = some q := ⟨_, List.getElem?_eq_getElem (by omega)⟩; have bv := bu k aA
   refine si az .i64 bs.1 aA ?_; intro ce aB; clear az
   refine nw aB I (fun b => .slice (sm b) 1 1) [y8 (k.toNat : Int)] 5 ?_; intro aC cf cg aD J; clear aB I
   obtain ⟨bw, bx⟩ := bv
   refine ap aD J 2 (T := t8) (xs := a ++ [w8 (97 - d)]) (ys := [(k.toNat : Int)]) (ao := A) (cap := B) (ao2 := (sm aC)) (cap2 := 1) (t := 22) (e := 5) (bytes := 1) (nog rfl _) rfl (by kernel_rfl) rfl (by kernel_rfl) (by kernel_rfl) (by kernel_rfl) rfl (Src.row J 0 rfl (RepAll.one (T := t8) (x := (k.toNat : Int)) rfl)) bw ?_; intro L M ch bz ci aE aF; clear aD J
   have N : Mem w.heap.size [] w Z [.row aC [y8 (k.toNat : Int)] 5, .row G [y8 (w8 (97 - d))] 5, .own t8 5 L M ((a ++ [w8 (97 - d)]) ++ [(k.toNat : Int)])] Z bz := aF; clear aF
   refine s1 aE 7 (.slice L ((a ++ [w8 (97 - d)]) ++ [(k.toNat : Int)]).length M) ?_; intro cj aG; clear aE
   refine nlH (ay _ _ ?_); clear ay br
   refine rgH ?_; intro bA aH
   refine bt aG N 2 [] [] [(41, str u0), (42, i6 c)] ?_; intro ck aI; clear aG
   obtain ⟨bB, bC⟩ := bx
   obtain ⟨O, aJ⟩ : ∃ q, u0[c.toNat]? = some q := ⟨_, List.getElem?_eq_getElem (by omega)⟩; have aK := bC O aJ
   refine si aI .i64 bB.1 aJ ?_; intro cl aL; clear aI
   refine s1 aL 8 (y8 (O.toNat : Int)) ?_; intro cm aM; clear aL
   refine nlH (aH _ _ ?_); clear aH bA
   refine ibn ?_
   refine thn ?_
   refine rgB aM N [] [] [(24, i6 (w64 (c + 1)))] ?_; intro cn bD; clear aM
   refine rd ?_
   exact ⟨⟨(a ++ [w8 (97 - d)]) ++ [(k.toNat : Int)], (O.toNat : Int), w64 (c + 1), L, M⟩, aK.1, aK.2, (bD.reg).anyβ _ (by kernel_rfl), N.keep (List.Sublist.cons _ (List.Sublist.cons _ (List.Sublist.cons_cons _ (List.Sublist.slnil))))⟩
  have bE := z.2 F; clear z
  refine wp_skip ?_
  refine thn ?_
  refine sqH ?_; intro bF aN
  refine bt p f 3 [] [] [(35, .slice i a.length j), (36, str u0), (37, i6 c)] ?_; intro co aO; clear p
  obtain ⟨bG, bH⟩ := bE
  obtain ⟨l, aP⟩ : ∃ q, u0[c.toNat]? = some q := ⟨_, List.getElem?_eq_getElem (by omega)⟩; have bI := bH l aP
  refine si aO .i64 bG.1 aP ?_; intro cp aQ; clear aO
  refine nw aQ f (fun b => .slice (sm b) 1 1) [y8 (l.toNat : Int)] 5 ?_; intro aR cq cr aS P; clear aQ f
  obtain ⟨bJ, bK⟩ := bI
  refine ap aS P 1 (T := t8) (xs := a) (ys := [(l.toNat : Int)]) (ao := i) (cap := j) (ao2 := (sm aR)) (cap2 := 1) (t := 22) (e := 5) (bytes := 1) (nog rfl _) rfl (by kernel_rfl) rfl (by kernel_rfl) (by kernel_rfl) (by kernel_rfl) rfl (Src.row P 0 rfl (RepAll.one (T := t8) (x := (l.toNat : Int)) rfl)) bJ ?_; intro Q R cs bL ct aT aU; clear aS P
  have S : Mem w.heap.size [] w Z [.row aR [y8 (l.toNat : Int)] 5, .own t8 5 Q R (a ++ [(l.toNat : Int)])] Z bL := aU; clear aU
  refine s1 aT 7 (.slice Q (a ++ [(l.toNat : Int)]).length R) ?_; intro cu aV; clear aT
  refine nlH (aN _ _ ?_); clear aN bF
  refine rgH ?_; intro bM aW
  refine bt aV S 2 [] [] [(41, str u0), (42, i6 c)] ?_; intro cv aX; clear aV
  obtain ⟨bN, bO⟩ := bK
  obtain ⟨U, aY⟩ : ∃ q, u0[c.toNat]? = some q := ⟨_, List.getElem?_eq_getElem (by omega)⟩; have aZ := bO U aY
  refine si aX .i64 bN.1 aY ?_; intro cw a1; clear aX
  refine s1 a1 8 (y8 (U.toNat : Int)) ?_; intro cx a2; clear a1
  refine nlH (aW _ _ ?_); clear aW bM
  refine ibn ?_
  refine thn ?_
  refine rgB a2 S [] [] [(24, i6 (w64 (c + 1)))] ?_; intro cy bP; clear a2
  refine rd ?_
  exact ⟨⟨a ++ [(l.toNat : Int)], (U.toNat : Int), w64 (c + 1), Q, R⟩, aZ.1, aZ.2, (bP.reg).anyβ _ (by kernel_rfl), S.keep (List.Sublist.cons _ (List.Sublist.cons_cons _ (List.Sublist.slnil)))⟩
 have bQ := y.2 E; clear y
 refine wp_exit ?_
 refine thx ?_
 refine thx ?_
 refine ibx ?_
 refine thn ?_
 refine sqH ?_; intro bR a3
 refine s1 o 45 (.slice i a.length j) ?_; intro cz V; clear o
 refine st V (str (bstr a)) (nog rfl _) rfl (by kernel_rfl) ((by obtain ⟨Z9, cA, bS, bT⟩ := f.lend 0 rfl; exact bstr_op V (g := []) (e := 5) (ao := i) (cap := j) (xs := a) rfl (by kernel_rfl) (by kernel_rfl) (by kernel_rfl) (by kernel_rfl)  bT bS rfl)) ?_; intro cB a5; clear V
 refine bt a5 f 2 [] [] [(4, str (bstr a)), (5, i6 0)] ?_; intro cC bU; clear a5
 refine nlH (a3 _ _ ?_); clear a3 bR
 refine wp_ret ?_
 refine ra2 bU (.tuple #[str (bstr a), i6 0]) ?_
 exact ⟨(bstr a, 0), rfl, bQ, f.below⟩

theorem bbytes_walk (u0 : List UInt8)  (Z : Fz) (w : World)  (hZ : Z.on w) {K : ((List Int) × Int) → Prop} (hp : bbytes_vc u0 K) : Calls Tryz.prog 37 #[str u0] w fun e w' => ∃ (r : (List Int) × Int) (ao1001 : Option Addr) (cap1002 : Nat) (Z' : Fz), e = .returned (.tuple #[.slice ao1001 r.1.length cap1002, i6 r.2]) ∧ K r ∧ Mem w.heap.size [] w Z [.own t8 5 ao1001 cap1002 r.1] Z' w' := by
 refine enter0 Tryz.func37 rfl rfl (by kernel_rfl) ?_; intro a0 E; have n := Mem.start w Z hZ; have aQ := Fz.le.refl Z
 refine sqB E n [] [] [] ?_; intro a4 F; clear E
 refine wp_seq ?_
 refine sqH ?_; intro ai G
 refine s1 F 6 (str u0) ?_; intro a7 H; clear F
 refine fc H n (bcheck_fun u0 _ _ n.fz) ?_; intro a9 q I c; clear H n
 refine s1 I 4 (i6 (bcheckS u0)) ?_; intro aR J; clear I
 refine nlH (G _ _ ?_); clear G ai
 refine sqB J c [] [] [(9, .bool ((bcheckS u0) != 0))] ?_; intro aS j; clear J
 refine cd j (t := (bcheckS u0) != 0) (by kernel_rfl) (fun u => ?_) (fun u => ?_)
 ·
  have aj := hp.1 u; clear hp
  refine sqB j c [] [] [(2, .slice none 0 0), (3, i6 (bcheckS u0))] ?_; intro aT ak; clear j
  refine wp_ret ?_
  refine thr ?_
  have al : Mem w.heap.size [] w Z [.own t8 5 none 0 ([] : List Int)] Z q := c.addNil t8 5 (by decide); clear c
  refine ra2 ak (.tuple #[.slice none ([] : List Int).length 0, i6 (bcheckS u0)]) ?_
  exact ⟨(([] : List Int), (bcheckS u0)), none, 0, Z, rfl, aj, al.keep (List.Sublist.cons_cons _ (List.Sublist.slnil))⟩
 have o := hp.2 u; clear hp
 refine wp_skip ?_
 refine thn ?_
 refine wp_seq ?_
 refine sqB j c [] [] [(14, .bool (((u0.length : Int).tmod 8) != 0))] ?_; intro aU l; clear j
 refine cd l (t := ((u0.length : Int).tmod 8) != 0) (by kernel_rfl) (fun v => ?_) (fun v => ?_)
 ·
  have am := o.1 v; clear o
  refine sqB l c [] [] [(2, .slice none 0 0), (3, i6 4)] ?_; intro aV an; clear l
  refine wp_ret ?_
  refine thr ?_
  have aq : Mem w.heap.size [] w Z [.own t8 5 none 0 ([] : List Int)] Z q := c.addNil t8 5 (by decide); clear c
  refine ra2 an (.tuple #[.slice none ([] : List Int).length 0, i6 4]) ?_
  exact ⟨(([] : List Int), 4), none, 0, Z, rfl, am, aq.keep (List.Sublist.cons_cons _ (List.Sublist.slnil))⟩
 have ar := o.2 v; clear o
 refine wp_skip ?_
 refine thn ?_
 refine sqB l c [] [] [(5, .slice none 0 0)] ?_; intro L M; clear l
 refine wp_seq ?_
 refine wp_block ?_
 have N : Fr 28 [] [⟨0, [], str u0⟩, ⟨5, [], .slice none 0 0⟩] L := M.reg; clear M
 have O : Mem w.heap.size [] w Z [.own t8 5 none 0 ([] : List Int)] Z q := c.addNil t8 5 (by decide); clear c
 have P : Fr 28 [] [⟨0, [], str u0⟩, ⟨5, [], .slice none ([] : List Int).length 0⟩] L := N.reg; clear N
 obtain ⟨au, av, aw, ax⟩ := ar
 refine lp (ι := (List UInt8) × (List Int) × (Option Addr) × Nat) (fun (s : (List UInt8) × (List Int) × (Option Addr) × Nat) => [⟨0, [], str s.1⟩, ⟨5, [], .slice s.2.2.1 s.2.1.length s.2.2.2⟩]) (fun (s : (List UInt8) × (List Int) × (Option Addr) × Nat) => [.own t8 5 s.2.2.1 s.2.2.2 s.2.1]) (fun (s : (List UInt8) × (List Int) × (Option Addr) × Nat) => Z) (fun (s : (List UInt8) × (List Int) × (Option Addr) × Nat) => au s.1 s.2.1) (fun (s : (List UInt8) × (List Int) × (Option Addr) × Nat) => av s.1 s.2.1) ⟨u0, ([] : List Int), none, 0⟩ aw (by exact P.reg) (by exact O) ?_
 rintro ⟨a, d, f, h⟩ ay az aA Q R
 have S : Fr 28 [] [⟨0, [], str a⟩, ⟨5, [], .slice f d.length h⟩] az := Q; clear Q P
 have i : Mem w.heap.size [] w Z [.own t8 5 f h d] Z aA := R; clear R O
 have p := ax a d ay
 refine wp_seq ?_
 refine sqB S i [] [] [(17, .bool (decide ((a.length : Int) > 0)))] ?_; intro aW m; clear S
 refine cd m (t := decide ((a.length : Int) > 0)) (by kernel_rfl) (fun y => ?_) (fun y => ?_)
 ·
  have aB := p.1 y; clear p
  refine wp_skip ?_
  refine thn ?_
  refine wp_block ?_
  refine sqH ?_; intro aC U
  refine bt m i 2 [] [] [(18, .slice f d.length h), (19, str a)] ?_; intro aX z; clear m
  obtain ⟨aD, aE⟩ := aB
  refine st z (str (a.take (8 : Int).toNat)) (nog rfl _) rfl (by kernel_rfl) (strslH_run z (g := []) (k := .i64) rfl (by kernel_rfl) (by kernel_rfl) (by kernel_rfl) aD rfl) ?_; intro aY V; clear z
  obtain ⟨aF, aG⟩ := aE
  refine fc V i (bread_fun (a.take (8 : Int).toNat) aF _ _ i.fz) ?_; intro aZ a1 W X; clear V i
  refine s1 W 22 (y8 (w8 (breadS (a.take (8 : Int).toNat)))) ?_; intro a2 Y; clear W
  refine nw Y X (fun b => .slice (sm b) 1 1) [y8 (w8 (breadS (a.take (8 : Int).toNat)))] 5 ?_; intro aa a3 a5 ab A; clear Y X
  obtain ⟨aH, aI⟩ := aG
  refine ap ab A 1 (T := t8) (xs := d) (ys := [w8 (breadS (a.take (8 : Int).toNat))]) (ao := f) (cap := h) (ao2 := (sm aa)) (cap2 := 1) (t := 22) (e := 5) (bytes := 1) (nog rfl _) rfl (by kernel_rfl) rfl (by kernel_rfl) (by kernel_rfl) (by kernel_rfl) rfl (Src.row A 0 rfl (RepAll.one (T := t8) (x := (w8 (breadS (a.take (8 : Int).toNat)))) rfl)) aH ?_; intro B C a6 aJ a8 ac ad; clear ab A
  have aK : Mem w.heap.size [] w Z [.row aa [y8 (w8 (breadS (a.take (8 : Int).toNat)))] 5, .own t8 5 B C (d ++ [w8 (breadS (a.take (8 : Int).toNat))])] Z aJ := ad; clear ad
  refine s1 ac 5 (.slice B (d ++ [w8 (breadS (a.take (8 : Int).toNat))]).length C) ?_; intro ba ae; clear ac
  refine nlH (U _ _ ?_); clear U aC
  refine rgH ?_; intro aL af
  refine s1 ae 25 (str a) ?_; intro bb D; clear ae
  obtain ⟨aM, ag⟩ := aI
  refine st D (str (a.drop (8 : Int).toNat)) (nog rfl _) rfl (by kernel_rfl) (strslL_run D (g := []) (k := .i64) rfl (by kernel_rfl) (by kernel_rfl) (by kernel_rfl) aM rfl) ?_; intro bc ah; clear D
  refine s1 ah 0 (str (a.drop (8 : Int).toNat)) ?_; intro bd aN; clear ah
  refine nlH (af _ _ ?_); clear af aL
  refine ibn ?_
  refine rd ?_
  exact ⟨⟨a.drop (8 : Int).toNat, d ++ [w8 (breadS (a.take (8 : Int).toNat))], B, C⟩, ag.1, ag.2, (aN.reg).anyβ _ (by kernel_rfl), aK.keep (List.Sublist.cons _ (List.Sublist.cons_cons _ (List.Sublist.slnil)))⟩
 have aO := p.2 y; clear p
 refine wp_exit ?_
 refine thx ?_
 refine thx ?_
 refine ibx ?_
 refine thn ?_
 refine sqB m i [] [] [(2, .slice f d.length h), (3, i6 0)] ?_; intro be aP; clear m
 refine wp_ret ?_
 refine ra2 aP (.tuple #[.slice f d.length h, i6 0]) ?_
 exact ⟨(d, 0), f, h, Z, rfl, aO, i.keep (List.Sublist.cons_cons _ (List.Sublist.slnil))⟩

theorem beq_walk (u0 : List Int) (u1 : List Int) (ao1 : Option Addr) (cap2 : Nat) (ao4 : Option Addr) (cap5 : Nat) (Z : Fz) (w : World) (hs3 : SlR t8 Z ao1 cap2 u0) (hs6 : SlR t8 Z ao4 cap5 u1) (hZ : Z.on w) {K : Bool → Prop} (hp : beq_vc u0 u1 K) : Calls Tryz.prog 52 #[.slice ao1 u0.length cap2, .slice ao4 u1.length cap5] w fun e w' => ∃ r : Bool, e = .returned (.bool r) ∧ K r ∧ Below w.heap.size w w' := by
 refine enter0 Tryz.func52 rfl rfl (by kernel_rfl) ?_; intro a0 y; have b := Mem.start w Z hZ; have aC := Fz.le.refl Z
 have z := hp (hs3.small); clear hp
 have l := z (hs6.small); clear z
 refine sqB y b [] [] [] ?_; intro aD A; clear y
 refine wp_seq ?_
 refine sqB A b [] [] [(10, .bool ((u0.length : Int) != (u1.length : Int)))] ?_; intro aE d; clear A
 refine cd d (t := (u0.length : Int) != (u1.length : Int)) (by kernel_rfl) (fun p => ?_) (fun p => ?_)
 ·
  have W := l.1 p; clear l
  refine sqB d b [] [] [(4, .bool false)] ?_; intro aF X; clear d
  refine wp_ret ?_
  refine thr ?_
  refine ra1 X (.bool false) ?_
  exact ⟨false, rfl, W, b.below⟩
 have Y := l.2 p; clear l
 refine wp_skip ?_
 refine thn ?_
 refine wp_seq ?_
 refine sqB d b [] [] [(12, i6 (u0.length : Int)), (13, i6 0)] ?_; intro B C; clear d
 refine wp_block ?_
 have D : Fr 26 [] [⟨0, [], .slice ao1 u0.length cap2⟩, ⟨1, [], .slice ao4 u1.length cap5⟩, ⟨12, [], i6 (u0.length : Int)⟩, ⟨13, [], i6 0⟩] B := C.reg; clear C
 have E : Fr 26 [] [⟨0, [], .slice ao1 u0.length cap2⟩, ⟨1, [], .slice ao4 u1.length cap5⟩, ⟨12, [], i6 (u0.length : Int)⟩, ⟨13, [], i6 0⟩] B := D.reg; clear D
 obtain ⟨aa, ab, ac, ad⟩ := Y
 refine lp (ι := Int) (fun (s : Int) => [⟨0, [], .slice ao1 u0.length cap2⟩, ⟨1, [], .slice ao4 u1.length cap5⟩, ⟨12, [], i6 (u0.length : Int)⟩, ⟨13, [], i6 s⟩]) (fun (s : Int) => []) (fun (s : Int) => Z) (fun (s : Int) => aa s) (fun (s : Int) => ab s) 0 ac (by exact E.reg) (by exact b) ?_
 rintro a ae af ag F G
 have H : Fr 26 [] [⟨0, [], .slice ao1 u0.length cap2⟩, ⟨1, [], .slice ao4 u1.length cap5⟩, ⟨12, [], i6 (u0.length : Int)⟩, ⟨13, [], i6 a⟩] af := F; clear F E
 have c : Mem w.heap.size [] w Z [] Z ag := G; clear G b
 have m := ad a ae
 refine sqB H c [] [] [(14, .bool (decide (a < (u0.length : Int))))] ?_; intro aG f; clear H
 refine wp_seq ?_
 refine cd f (t := decide (a < (u0.length : Int))) (by kernel_rfl) (fun q => ?_) (fun q => ?_)
 ·
  have ah := m.1 q; clear m
  refine wp_skip ?_
  refine thn ?_
  refine wp_seq ?_
  refine wp_block ?_
  refine sqB f c [] [] [(5, i6 a)] ?_; intro ai I; clear f
  have J : Fr 26 [] [⟨0, [], .slice ao1 u0.length cap2⟩, ⟨1, [], .slice ao4 u1.length cap5⟩, ⟨5, [], i6 a⟩, ⟨12, [], i6 (u0.length : Int)⟩, ⟨13, [], i6 a⟩] ai := I.reg; clear I
  refine sqQH mixed (by kernel_rfl) c ?_; intro aj L
  refine q1 J 16 (.slice ao1 u0.length cap2) ?_; intro aH M; clear J
  refine q1 M 17 (i6 a) ?_; intro aI N; clear M
  obtain ⟨ak, O⟩ := ah
  refine qix N (T := t8) (xs := u0) hs3 a ak (k := .i64) (e := 5) (bytes := 1) (nog rfl _) rfl (by kernel_rfl) rfl (by kernel_rfl) (by kernel_rfl) (by kernel_rfl) ?_; intro aJ aK al h aL am an ao u; clear N
  have ap := O h am; clear O
  obtain rfl : al = ([y8 h] : List Value) := ao
  refine qst u (y8 h) (nog rfl _) rfl (by kernel_rfl) (fun v81 hC => lz u hC.fz an 0 (g := []) rfl (by kernel_rfl) (by kernel_rfl) (by kernel_rfl) rfl) ?_; intro aM P; clear u
  refine q1 P 20 (.slice ao4 u1.length cap5) ?_; intro aN Q; clear P
  refine q1 Q 21 (i6 a) ?_; intro aO R; clear Q
  obtain ⟨aq, S⟩ := ap
  refine qix R (T := t8) (xs := u1) hs6 a aq (k := .i64) (e := 5) (bytes := 1) (nog rfl _) rfl (by kernel_rfl) rfl (by kernel_rfl) (by kernel_rfl) (by kernel_rfl) ?_; intro aP aQ ar i aR au av aw v; clear R
  have n := S i au; clear S
  obtain rfl : ar = ([y8 i] : List Value) := aw
  refine qst v (y8 i) (nog rfl _) rfl (by kernel_rfl) (fun v103 hC => lz v hC.fz av 0 (g := []) rfl (by kernel_rfl) (by kernel_rfl) (by kernel_rfl) rfl) ?_; intro aS U; clear v
  refine q1 U 24 (.bool (h != i)) ?_; intro aT j; clear U
  refine qnl (L _ ?_); clear L aj; intro aU o; clear c
  refine cd j (t := h != i) (by kernel_rfl) (fun x => ?_) (fun x => ?_)
  ·
   have ax := n.1 x; clear n
   refine sqB j o [] [] [(4, .bool false)] ?_; intro aV ay; clear j
   refine wp_ret ?_
   refine ibr ?_
   refine thr ?_
   refine thr ?_
   refine ibr ?_
   refine thr ?_
   refine ra1 ay (.bool false) ?_
   exact ⟨false, rfl, ax, o.below⟩
  have V := n.2 x; clear n
  refine wp_skip ?_
  refine ibn ?_
  refine thn ?_
  refine rgB j o [] [] [(13, i6 (w64 (a + 1)))] ?_; intro aW az; clear j
  refine rd ?_
  exact ⟨w64 (a + 1), V.1, V.2, (az.reg).anyβ _ (by kernel_rfl), o.keep (List.Sublist.slnil)⟩
 have aA := m.2 q; clear m
 refine wp_exit ?_
 refine thx ?_
 refine thx ?_
 refine ibx ?_
 refine thn ?_
 refine sqB f c [] [] [(4, .bool true)] ?_; intro aX aB; clear f
 refine wp_ret ?_
 refine ra1 aB (.bool true) ?_
 exact ⟨true, rfl, aA, c.below⟩

theorem hasprefix0_walk (u0 : List UInt8) (u1 : List UInt8)  (Z : Fz) (w : World)  (hZ : Z.on w) {K : Bool → Prop} (hp : hasprefix0_vc u0 u1 K) : Calls Tryz.prog 77 #[str u0, str u1] w fun e w' => ∃ r : Bool, e = .returned (.bool r) ∧ K r ∧ Below w.heap.size w w' := by
 refine enter0 Tryz.func77 rfl rfl (by kernel_rfl) ?_; intro A l; have a := Mem.start w Z hZ; have B := Fz.le.refl Z
 refine sqB l a [] [] [] ?_; intro C m; clear l
 refine sqH ?_; intro n h
 refine bt m a 6 [] [] [(10, .bool (decide ((u0.length : Int) ≥ (u1.length : Int))))] ?_; intro D i; clear m
 rcases Bool.eq_false_or_eq_true (decide ((u0.length : Int) ≥ (u1.length : Int))) with f | f
 ·
  have s := hp.1 f; clear hp
  have o := i.reval (d := 10) (c := []) (v := .bool (decide ((u0.length : Int) ≥ (u1.length : Int)))) (by kernel_rfl) (.bool true) (by rw [f]); clear i
  refine bt o a 3 [] [11, 12, 13] [(11, str u0), (13, i6 (u1.length : Int))] ?_; intro E j; clear o
  obtain ⟨t, u⟩ := s
  refine st j (str (u0.take (u1.length : Int).toNat)) (by rw [wanted_of j (b := true) rfl rfl (by kernel_rfl) (by kernel_rfl)]; rfl) rfl (by kernel_rfl) (strslH_run j (g := []) (k := .i64) rfl (by kernel_rfl) (by kernel_rfl) (by kernel_rfl) t rfl) ?_; intro F p; clear j
  refine bt p a 4 [] [15, 16, 17, 34] [(4, .bool ((u0.take (u1.length : Int).toNat) == u1))] ?_; intro G x; clear p
  refine nlH (h _ _ ?_); clear h n
  refine wp_ret ?_
  refine ra1 x (.bool ((u0.take (u1.length : Int).toNat) == u1)) ?_
  exact ⟨(u0.take (u1.length : Int).toNat) == u1, rfl, u, a.below⟩
 have y := hp.2 f; clear hp
 have q := i.reval (d := 10) (c := []) (v := .bool (decide ((u0.length : Int) ≥ (u1.length : Int)))) (by kernel_rfl) (.bool false) (by rw [f]); clear i
 refine bt q a 8 [] [11, 12, 13, 14, 15, 16, 17] [(4, .bool false)] ?_; intro H z; clear q
 refine nlH (h _ _ ?_); clear h n
 refine wp_ret ?_
 refine ra1 z (.bool false) ?_
 exact ⟨false, rfl, y, a.below⟩
theorem hasprefix0_fun (u0 : List UInt8) (u1 : List UInt8)  (Z : Fz) (w : World)  (hZ : Z.on w) : Calls Tryz.prog 77 #[str u0, str u1] w fun e w' => e = .returned (.bool (hasprefix0 u0 u1)) ∧ Below w.heap.size w w' :=
  (hasprefix0_walk u0 u1  Z w  hZ (hasprefix0_ok u0 u1)).mono fun _ _ ⟨r, he, hk, hb⟩ => ⟨by subst hk; exact he, hb⟩

theorem hasprefix_walk (u0 : List UInt8) (u1 : List UInt8)  (Z : Fz) (w : World)  (hZ : Z.on w) {K : Bool → Prop} (hp : hasprefix_vc u0 u1 K) : Calls Tryz.prog 43 #[str u0, str u1] w fun e w' => ∃ r : Bool, e = .returned (.bool r) ∧ K r ∧ Below w.heap.size w w' := by
 refine enter0 Tryz.func43 rfl rfl (by kernel_rfl) ?_; intro k b; have a := Mem.start w Z hZ; have l := Fz.le.refl Z
 refine sqB b a [] [] [] ?_; intro m c; clear b
 refine sqH ?_; intro h d
 refine bt c a 2 [] [] [(5, str u0), (6, str u1)] ?_; intro n f; clear c
 refine fc f a (hasprefix0_fun u0 u1 _ _ a.fz) ?_; intro o p g i; clear f a
 refine s1 g 4 (.bool (hasprefix0 u0 u1)) ?_; intro q j; clear g
 refine nlH (d _ _ ?_); clear d h
 refine wp_ret ?_
 refine ra1 j (.bool (hasprefix0 u0 u1)) ?_
 exact ⟨(hasprefix0 u0 u1), rfl, hp, i.below⟩
theorem hasprefix_fun (u0 : List UInt8) (u1 : List UInt8)  (Z : Fz) (w : World)  (hZ : Z.on w) : Calls Tryz.prog 43 #[str u0, str u1] w fun e w' => e = .returned (.bool (hasprefix u0 u1)) ∧ Below w.heap.size w w' :=
  (hasprefix_walk u0 u1  Z w  hZ (hasprefix_ok u0 u1)).mono fun _ _ ⟨r, he, hk, hb⟩ => ⟨by subst hk; exact he, hb⟩

theorem fname_walk (u0 : Frame) (ao1 : Option Addr) (cap2 : Nat) (Z : Fz) (w : World) (hs3 : SlR t8 Z ao1 cap2 u0.Data) (hZ : Z.on w) {K : (List UInt8) → Prop} (hp : fname_vc u0 K) : Calls Tryz.prog 53 #[.agg #[i6 u0.ID, .bool u0.Long, .bool u0.Fast, .bool u0.Remote, i6 u0.Size, .slice ao1 u0.Data.length cap2]] w fun e w' => ∃ r : (List UInt8), e = .returned (str r) ∧ K r ∧ Below w.heap.size w w' := by
 refine enter0 Tryz.func53 rfl rfl (by kernel_rfl) ?_; intro a0 u; have v := Mem.start w Z hZ; have aw := Fz.le.refl Z
 have f := hp (hs3.small); clear hp
 refine sqH ?_; intro U x
 refine nw u v pb [i6 u0.ID, .bool u0.Long, .bool u0.Fast, .bool u0.Remote, i6 u0.Size, .slice ao1 u0.Data.length cap2] 24 ?_; intro a a7 ax y c; clear u v
 refine s1 y 2 (str []) ?_; intro ay z; clear y
 refine nlH (x _ _ ?_); clear x U
 refine wp_seq ?_
 refine sqB z c [0] [] [(5, .bool (!u0.Long))] ?_; intro A d; clear z
 refine cd d (t := !u0.Long) (by kernel_rfl) (fun h => ?_) (fun h => ?_)
 ·
  have V := f.1 h; clear f
  have B : Fr 30 [] [⟨1, [], pt a 0⟩] A := d.reg; clear d
  refine sqQH mixed (by kernel_rfl) c ?_; intro W C
  refine q1 B 6 (pt a 0) ?_; intro az i; clear B
  refine qst i (i6 u0.ID) (nog rfl _) rfl (by kernel_rfl) (fun v27 hC => ld i hC 0 (g := []) (b := a) (off := 0) (cs := [i6 u0.ID, .bool u0.Long, .bool u0.Fast, .bool u0.Remote, i6 u0.Size, .slice ao1 u0.Data.length cap2]) (ty := 24) rfl (by kernel_rfl) (by kernel_rfl) (by kernel_rfl) (by kernel_rfl) rfl) ?_; intro aA D; clear i
  refine q1 D 8 (y6 (wu64 u0.ID)) ?_; intro aB E; clear D
  obtain ⟨X, Y⟩ := V
  refine qcl E (str (bwriteS (wu64 u0.ID) 11)) 71 #[y6 (wu64 u0.ID), i6 11] (nog rfl _) rfl (by kernel_rfl) (fun _ => by kernel_rfl) (qfc fun w hC => bwrite_fun (wu64 u0.ID) 11 X _ _ hC.fz) ?_; intro aC F; clear E
  refine q1 F 10 (pt a 3) ?_; intro aD j; clear F
  refine qst j (.bool u0.Remote) (nog rfl _) rfl (by kernel_rfl) (fun v41 hC => ld j hC 0 (g := []) (b := a) (off := 3) (cs := [i6 u0.ID, .bool u0.Long, .bool u0.Fast, .bool u0.Remote, i6 u0.Size, .slice ao1 u0.Data.length cap2]) (ty := 24) rfl (by kernel_rfl) (by kernel_rfl) (by kernel_rfl) (by kernel_rfl) rfl) ?_; intro aE G; clear j
  refine qcl G (str (fbit u0.Remote)) 87 #[.bool u0.Remote] (nog rfl _) rfl (by kernel_rfl) (fun _ => by kernel_rfl) (qfc fun w hC => fbit_fun u0.Remote _ _ hC.fz) ?_; intro aF k; clear G
  obtain ⟨aa, ab⟩ := Y
  refine qst k (str ((bwriteS (wu64 u0.ID) 11) ++ (fbit u0.Remote))) (nog rfl _) rfl (by kernel_rfl) (fun v47 hC => stradd_run k (g := []) rfl (by kernel_rfl) (by kernel_rfl) aa rfl) ?_; intro aG l; clear k
  obtain ⟨ac, ad⟩ := ab
  refine qst l (str (((bwriteS (wu64 u0.ID) 11) ++ (fbit u0.Remote)) ++ ([48] : List UInt8))) (nog rfl _) rfl (by kernel_rfl) (fun v52 hC => stradd_run l (g := []) rfl (by kernel_rfl) (by kernel_rfl) ac rfl) ?_; intro aH H; clear l
  refine q1 H 2 (str (((bwriteS (wu64 u0.ID) 11) ++ (fbit u0.Remote)) ++ ([48] : List UInt8))) ?_; intro aI ae; clear H
  refine qnl (C _ ?_); clear C W; intro aJ af; clear c
  refine wp_ret ?_
  refine thr ?_
  refine ra1 ae (str (((bwriteS (wu64 u0.ID) 11) ++ (fbit u0.Remote)) ++ ([48] : List UInt8))) ?_
  exact ⟨((bwriteS (wu64 u0.ID) 11) ++ (fbit u0.Remote)) ++ ([48] : List UInt8), rfl, ad, af.below⟩
 have ag := f.2 h; clear f
 refine wp_skip ?_
 refine thn ?_
 have I : Fr 30 [] [⟨1, [], pt a 0⟩] A := d.reg; clear d
 refine sqQH mixed (by kernel_rfl) c ?_; intro ah J
 refine q1 I 15 (pt a 0) ?_; intro aK m; clear I
 refine qst m (i6 u0.ID) (nog rfl _) rfl (by kernel_rfl) (fun v68 hC => ld m hC 0 (g := []) (b := a) (off := 0) (cs := [i6 u0.ID, .bool u0.Long, .bool u0.Fast, .bool u0.Remote, i6 u0.Size, .slice ao1 u0.Data.length cap2]) (ty := 24) rfl (by kernel_rfl) (by kernel_rfl) (by kernel_rfl) (by kernel_rfl) rfl) ?_; intro aL L; clear m
 refine q1 L 17 (i6 (bShr .i64 u0.ID 18)) ?_; intro aM M; clear L
 refine q1 M 18 (y6 (wu64 (bShr .i64 u0.ID 18))) ?_; intro aN N; clear M
 obtain ⟨ai, aj⟩ := ag
 refine qcl N (str (bwriteS (wu64 (bShr .i64 u0.ID 18)) 11)) 71 #[y6 (wu64 (bShr .i64 u0.ID 18)), i6 11] (nog rfl _) rfl (by kernel_rfl) (fun _ => by kernel_rfl) (qfc fun w hC => bwrite_fun (wu64 (bShr .i64 u0.ID 18)) 11 ai _ _ hC.fz) ?_; intro aO n; clear N
 obtain ⟨ak, al⟩ := aj
 refine qst n (str ((bwriteS (wu64 (bShr .i64 u0.ID 18)) 11) ++ ([49, 49] : List UInt8))) (nog rfl _) rfl (by kernel_rfl) (fun v82 hC => stradd_run n (g := []) rfl (by kernel_rfl) (by kernel_rfl) ak rfl) ?_; intro aP O; clear n
 refine q1 O 21 (pt a 0) ?_; intro aQ o; clear O
 refine qst o (i6 u0.ID) (nog rfl _) rfl (by kernel_rfl) (fun v90 hC => ld o hC 0 (g := []) (b := a) (off := 0) (cs := [i6 u0.ID, .bool u0.Long, .bool u0.Fast, .bool u0.Remote, i6 u0.Size, .slice ao1 u0.Data.length cap2]) (ty := 24) rfl (by kernel_rfl) (by kernel_rfl) (by kernel_rfl) (by kernel_rfl) rfl) ?_; intro aR P; clear o
 refine q1 P 23 (y6 (wu64 u0.ID)) ?_; intro aS Q; clear P
 obtain ⟨am, an⟩ := al
 refine qcl Q (str (bwriteS (wu64 u0.ID) 18)) 71 #[y6 (wu64 u0.ID), i6 18] (nog rfl _) rfl (by kernel_rfl) (fun _ => by kernel_rfl) (qfc fun w hC => bwrite_fun (wu64 u0.ID) 18 am _ _ hC.fz) ?_; intro aT p; clear Q
 obtain ⟨ao, ap⟩ := an
 refine qst p (str (((bwriteS (wu64 (bShr .i64 u0.ID 18)) 11) ++ ([49, 49] : List UInt8)) ++ (bwriteS (wu64 u0.ID) 18))) (nog rfl _) rfl (by kernel_rfl) (fun v101 hC => stradd_run p (g := []) rfl (by kernel_rfl) (by kernel_rfl) ao rfl) ?_; intro aU R; clear p
 refine q1 R 26 (pt a 3) ?_; intro aV q; clear R
 refine qst q (.bool u0.Remote) (nog rfl _) rfl (by kernel_rfl) (fun v109 hC => ld q hC 0 (g := []) (b := a) (off := 3) (cs := [i6 u0.ID, .bool u0.Long, .bool u0.Fast, .bool u0.Remote, i6 u0.Size, .slice ao1 u0.Data.length cap2]) (ty := 24) rfl (by kernel_rfl) (by kernel_rfl) (by kernel_rfl) (by kernel_rfl) rfl) ?_; intro aW S; clear q
 refine qcl S (str (fbit u0.Remote)) 87 #[.bool u0.Remote] (nog rfl _) rfl (by kernel_rfl) (fun _ => by kernel_rfl) (qfc fun w hC => fbit_fun u0.Remote _ _ hC.fz) ?_; intro aX s; clear S
 obtain ⟨aq, ar⟩ := ap
 refine qst s (str ((((bwriteS (wu64 (bShr .i64 u0.ID 18)) 11) ++ ([49, 49] : List UInt8)) ++ (bwriteS (wu64 u0.ID) 18)) ++ (fbit u0.Remote))) (nog rfl _) rfl (by kernel_rfl) (fun v115 hC => stradd_run s (g := []) rfl (by kernel_rfl) (by kernel_rfl) aq rfl) ?_; intro aY T; clear s
 refine q1 T 2 (str ((((bwriteS (wu64 (bShr .i64 u0.ID 18)) 11) ++ ([49, 49] : List UInt8)) ++ (bwriteS (wu64 u0.ID) 18)) ++ (fbit u0.Remote))) ?_; intro aZ au; clear T
 refine qnl (J _ ?_); clear J ah; intro a1 av; clear c
 refine wp_ret ?_
 refine ra1 au (str ((((bwriteS (wu64 (bShr .i64 u0.ID 18)) 11) ++ ([49, 49] : List UInt8)) ++ (bwriteS (wu64 u0.ID) 18)) ++ (fbit u0.Remote))) ?_
 exact ⟨(((bwriteS (wu64 (bShr .i64 u0.ID 18)) 11) ++ ([49, 49] : List UInt8)) ++ (bwriteS (wu64 u0.ID) 18)) ++ (fbit u0.Remote), rfl, ar, av.below⟩

theorem fcheckfr_walk (u0 : Frame) (ao1 : Option Addr) (cap2 : Nat) (Z : Fz) (w : World) (hs3 : SlR t8 Z ao1 cap2 u0.Data) (hZ : Z.on w) {K : Int → Prop} (hp : fcheckfr_vc u0 K) : Calls Tryz.prog 18 #[.agg #[i6 u0.ID, .bool u0.Long, .bool u0.Fast, .bool u0.Remote, i6 u0.Size, .slice ao1 u0.Data.length cap2]] w fun e w' => ∃ r : Int, e = .returned (i6 r) ∧ K r ∧ Below w.heap.size w w' := by
 refine enter0 Tryz.func18 rfl rfl (by kernel_rfl) ?_; intro a0 C; have D := Mem.start w Z hZ; have j := Fz.le.refl Z
 have k := hp (hs3.small); clear hp
 refine sqH ?_; intro V E
 refine nw C D pb [i6 u0.ID, .bool u0.Long, .bool u0.Fast, .bool u0.Remote, i6 u0.Size, .slice ao1 u0.Data.length cap2] 24 ?_; intro l a7 aq F a; clear C D
 refine s1 F 2 (i6 0) ?_; intro ar G; clear F
 refine nlH (E _ _ ?_); clear E V
 refine wp_seq ?_
 refine wp_block ?_
 refine sqB G a [0, 0, 0, 0] [] [(3, .bool (((decide (u0.ID < 0)) || ((!u0.Long) && (decide (u0.ID > 2047)))) || (decide (u0.ID > 536870911))))] ?_; intro au c; clear G
 refine cd c (t := ((decide (u0.ID < 0)) || ((!u0.Long) && (decide (u0.ID > 2047)))) || (decide (u0.ID > 536870911))) (by kernel_rfl) (fun q => ?_) (fun q => ?_)
 ·
  have W := k.1 q; clear k
  refine sqB c a [] [] [(2, i6 3)] ?_; intro av X; clear c
  refine wp_ret ?_
  refine ibr ?_
  refine thr ?_
  refine ra1 X (i6 3) ?_
  exact ⟨3, rfl, W, a.below⟩
 have m := k.2 q; clear k
 refine sqB c a [0, 0, 0] [] [(22, .bool (u0.Remote && (u0.Fast || (decide ((u0.Data.length : Int) > 0)))))] ?_; intro aw d; clear c
 refine cd d (t := u0.Remote && (u0.Fast || (decide ((u0.Data.length : Int) > 0)))) (by kernel_rfl) (fun s => ?_) (fun s => ?_)
 ·
  have Y := m.1 s; clear m
  refine sqB d a [] [] [(2, i6 4)] ?_; intro ax aa; clear d
  refine wp_ret ?_
  refine ibr ?_
  refine thr ?_
  refine ra1 aa (i6 4) ?_
  exact ⟨4, rfl, Y, a.below⟩
 have n := m.2 s; clear m
 refine sqB d a [0, 0, 0, 0] [] [(35, .bool (((decide (u0.Size < 0)) || (decide (u0.Size > 8))) || ((!u0.Remote) && (u0.Size != 0))))] ?_; intro ay f; clear d
 refine cd f (t := ((decide (u0.Size < 0)) || (decide (u0.Size > 8))) || ((!u0.Remote) && (u0.Size != 0))) (by kernel_rfl) (fun u => ?_) (fun u => ?_)
 ·
  have ab := n.1 u; clear n
  refine sqB f a [] [] [(2, i6 3)] ?_; intro az ac; clear f
  refine wp_ret ?_
  refine ibr ?_
  refine thr ?_
  refine ra1 ac (i6 3) ?_
  exact ⟨3, rfl, ab, a.below⟩
 have o := n.2 u; clear n
 refine sqB f a [0, 0, 0] [] [(54, .bool ((decide ((u0.Data.length : Int) > 64)) || ((!u0.Fast) && (decide ((u0.Data.length : Int) > 8)))))] ?_; intro ad g; clear f
 refine cd g (t := (decide ((u0.Data.length : Int) > 64)) || ((!u0.Fast) && (decide ((u0.Data.length : Int) > 8)))) (by kernel_rfl) (fun v => ?_) (fun v => ?_)
 ·
  have ae := o.1 v; clear o
  refine sqB g a [] [] [(2, i6 2)] ?_; intro aA af; clear g
  refine wp_ret ?_
  refine ibr ?_
  refine thr ?_
  refine ra1 af (i6 2) ?_
  exact ⟨2, rfl, ae, a.below⟩
 have p := o.2 v; clear o
 have H : Fr 77 [] [⟨1, [], pt l 0⟩] ad := g.reg; clear g
 refine wp_seq (rgS mixed a [(1, true), (2, true), (3, true), (0, false), (4, false), (5, true), (6, true)] [0] [.row l [i6 u0.ID, .bool u0.Long, .bool u0.Fast, .bool u0.Remote, i6 u0.Size, .slice ao1 u0.Data.length cap2] 24] ?_)
 intro ag I aB x; clear a
 have b := Fz.le.refl Z
 refine cS H 3 [0] [] [(74, i6 (u0.Data.length : Int))] ?_; intro aC J; clear H
 refine eS rfl ?_; intro ah L
 refine ck J 35 #[] ?_
 refine (fsizes_fun  _ _ x.fz).mono ?_; rintro _ M ⟨N, O, ai, rfl, hm⟩; refine ⟨_, rfl, ?_⟩; intro aD P; have Q := x.callZ hm; have y := hm.ext.le; clear hm x J
 replace hs3 := hs3.mono y
 replace b := b.mono y
 replace j := Fz.le.trans j y
 have R : Mem w.heap.size [] w Z [.own t6 3 N O fsizes, .row l [i6 u0.ID, .bool u0.Long, .bool u0.Fast, .bool u0.Remote, i6 u0.Size, .slice ao1 u0.Data.length cap2] 24] ai M := Q; clear Q
 refine nl (qnI (L _ _ (R.cst b [1]) ?_)); clear L ah
 refine eS rfl ?_; intro aj S
 obtain ⟨ak, z, T, al⟩ := R.freeze 0 rfl
 replace hs3 := hs3.mono z
 replace b := b.mono z
 replace j := Fz.le.trans j z
 have A : Mem w.heap.size [] w Z [.row l [i6 u0.ID, .bool u0.Long, .bool u0.Fast, .bool u0.Remote, i6 u0.Size, .slice ao1 u0.Data.length cap2] 24] ak M := T; clear T
 refine fc P A (scontains_fun fsizes (u0.Data.length : Int) N O _ _ al A.fz) ?_; intro aE aF U h; clear P A
 refine nl (qnI (S _ _ (h.cst b [0]) ?_)); clear S aj
 refine cS U 2 [] [] [(70, .bool (!(scontainsS fsizes (u0.Data.length : Int))))] ?_; intro aG i; clear U
 refine nS (I _ _ ?_); clear I ag
 refine thn ?_
 refine cd i (t := !(scontainsS fsizes (u0.Data.length : Int))) (by kernel_rfl) (fun B => ?_) (fun B => ?_)
 ·
  have am := p.1 B; clear p
  refine sqB i h [] [] [(2, i6 4)] ?_; intro aH an; clear i
  refine wp_ret ?_
  refine ibr ?_
  refine thr ?_
  refine ra1 an (i6 4) ?_
  exact ⟨4, rfl, am, h.below⟩
 have ao := p.2 B; clear p
 refine wp_skip ?_
 refine ibn ?_
 refine thn ?_
 refine sqB i h [] [] [(2, i6 0)] ?_; intro aI ap; clear i
 refine wp_ret ?_
 refine ra1 ap (i6 0) ?_
 exact ⟨0, rfl, ao, h.below⟩
theorem fcheckfr_fun (u0 : Frame) (ao1 : Option Addr) (cap2 : Nat) (Z : Fz) (w : World) (hs3 : SlR t8 Z ao1 cap2 u0.Data) (hZ : Z.on w) : Calls Tryz.prog 18 #[.agg #[i6 u0.ID, .bool u0.Long, .bool u0.Fast, .bool u0.Remote, i6 u0.Size, .slice ao1 u0.Data.length cap2]] w fun e w' => e = .returned (i6 (fcheckfr u0)) ∧ Below w.heap.size w w' :=
  (fcheckfr_walk u0 ao1 cap2 Z w hs3 hZ (fcheckfr_ok u0)).mono fun _ _ ⟨r, he, hk, hb⟩ => ⟨by subst hk; exact he, hb⟩

theorem fcount_walk (u0 : Int)  (Z : Fz) (w : World)  (hZ : Z.on w) {K : (List UInt8) → Prop} (hp : fcount_vc u0 K) : Calls Tryz.prog 55 #[i6 u0] w fun e w' => ∃ r : (List UInt8), e = .returned (str r) ∧ K r ∧ Below w.heap.size w w' := by
 refine enter0 Tryz.func55 rfl rfl (by kernel_rfl) ?_; intro D d; have a := Mem.start w Z hZ; have E := Fz.le.refl Z
 refine sqB d a [] [] [] ?_; intro F f; clear d
 refine sqB f a [] [] [(3, i6 (bXor .i64 (u0.tmod 8) (bShr .i64 (u0.tmod 8) 1)))] ?_; intro G g; clear f
 refine sqH ?_; intro s h
 refine bt g a 2 [] [] [(12, y6 (wu64 (bXor .i64 (u0.tmod 8) (bShr .i64 (u0.tmod 8) 1))))] ?_; intro H i; clear g
 obtain ⟨t, u⟩ := hp
 refine fc i a (bwrite_fun (wu64 (bXor .i64 (u0.tmod 8) (bShr .i64 (u0.tmod 8) 1))) 3 t _ _ a.fz) ?_; intro I J j b; clear i a
 refine s1 j 4 (str (bwriteS (wu64 (bXor .i64 (u0.tmod 8) (bShr .i64 (u0.tmod 8) 1))) 3)) ?_; intro L k; clear j
 refine nlH (h _ _ ?_); clear h s
 refine sqH ?_; intro v l
 refine bt k b 2 [] [] [(14, str (bwriteS (wu64 (bXor .i64 (u0.tmod 8) (bShr .i64 (u0.tmod 8) 1))) 3)), (15, str (bwriteS (wu64 (bXor .i64 (u0.tmod 8) (bShr .i64 (u0.tmod 8) 1))) 3))] ?_; intro M m; clear k
 obtain ⟨x, y⟩ := u
 refine fc m b (count1_fun (bwriteS (wu64 (bXor .i64 (u0.tmod 8) (bShr .i64 (u0.tmod 8) 1))) 3) ([49] : List UInt8) x _ _ b.fz) ?_; intro N O n c; clear m b
 refine bt n c 2 [] [] [(18, .bool (((count1S (bwriteS (wu64 (bXor .i64 (u0.tmod 8) (bShr .i64 (u0.tmod 8) 1))) 3) ([49] : List UInt8)).tmod 2) == 1))] ?_; intro P o; clear n
 refine fc o c (fbit_fun (((count1S (bwriteS (wu64 (bXor .i64 (u0.tmod 8) (bShr .i64 (u0.tmod 8) 1))) 3) ([49] : List UInt8)).tmod 2) == 1) _ _ c.fz) ?_; intro Q R p z; clear o c
 obtain ⟨A, B⟩ := y
 refine sa p A ?_; intro S q; clear p
 refine s1 q 2 (str ((bwriteS (wu64 (bXor .i64 (u0.tmod 8) (bShr .i64 (u0.tmod 8) 1))) 3) ++ (fbit (((count1S (bwriteS (wu64 (bXor .i64 (u0.tmod 8) (bShr .i64 (u0.tmod 8) 1))) 3) ([49] : List UInt8)).tmod 2) == 1)))) ?_; intro T C; clear q
 refine nlH (l _ _ ?_); clear l v
 refine wp_ret ?_
 refine ra1 C (str ((bwriteS (wu64 (bXor .i64 (u0.tmod 8) (bShr .i64 (u0.tmod 8) 1))) 3) ++ (fbit (((count1S (bwriteS (wu64 (bXor .i64 (u0.tmod 8) (bShr .i64 (u0.tmod 8) 1))) 3) ([49] : List UInt8)).tmod 2) == 1)))) ?_
 exact ⟨(bwriteS (wu64 (bXor .i64 (u0.tmod 8) (bShr .i64 (u0.tmod 8) 1))) 3) ++ (fbit (((count1S (bwriteS (wu64 (bXor .i64 (u0.tmod 8) (bShr .i64 (u0.tmod 8) 1))) 3) ([49] : List UInt8)).tmod 2) == 1)), rfl, B, z.below⟩

end Go.Proofs.YtmbdcehmeiiaoaaGreatDoor
