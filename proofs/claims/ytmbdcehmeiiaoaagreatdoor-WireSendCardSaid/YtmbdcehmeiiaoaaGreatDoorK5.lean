/- Texts put together (pure ones, or walks made by program). -/
import Derived.Test.YtmbdcehmeiiaoaaGreatDoorCore
import Derived.Test.YtmbdcehmeiiaoaaGreatDoorK1
import Derived.Test.YtmbdcehmeiiaoaaGreatDoorK2
import Derived.Test.YtmbdcehmeiiaoaaGreatDoorK3
import Derived.Test.YtmbdcehmeiiaoaaGreatDoorK4
set_option linter.unusedVariables false
set_option linter.unusedSimpArgs false
set_option maxRecDepth 100000
set_option maxHeartbeats 0
namespace Go.Proofs.YtmbdcehmeiiaoaaGreatDoor
open Go.Sy Go.RowKit
theorem rother_walk (u0 : Int)  (Z : Fz) (w : World)  (hZ : Z.on w) {K : Int → Prop} (hp : rother_vc u0 K) : Calls Tryz.prog 30 #[y8 u0] w fun e w' => ∃ r : Int, e = .returned (y8 r) ∧ K r ∧ Below w.heap.size w w' := by
 refine enter0 Tryz.func30 rfl rfl (by kernel_rfl) ?_; intro k d; have a := Mem.start w Z hZ; have l := Fz.le.refl Z
 refine sqB d a [] [] [] ?_; intro m f; clear d
 refine wp_seq ?_
 refine sqB f a [] [] [(4, .bool (u0 == 48))] ?_; intro n b; clear f
 refine cd b (t := u0 == 48) (by kernel_rfl) (fun c => ?_) (fun c => ?_)
 · -- yes
  have g := hp.1 c; clear hp
  refine sqB b a [] [] [(2, y8 49)] ?_; intro o h; clear b
  refine wp_ret ?_
  refine thr ?_
  refine ra1 h (y8 49) ?_
  exact ⟨49, rfl, g, a.below⟩
 · -- no
  have i := hp.2 c; clear hp
  refine wp_skip ?_
  refine thn ?_
  refine sqB b a [] [] [(2, y8 48)] ?_; intro p j; clear b
  refine wp_ret ?_
  refine ra1 j (y8 48) ?_
  exact ⟨48, rfl, i, a.below⟩
theorem rother_fun (u0 : Int)  (Z : Fz) (w : World)  (hZ : Z.on w) : Calls Tryz.prog 30 #[y8 u0] w fun e w' => e = .returned (y8 (rother u0)) ∧ Below w.heap.size w w' :=
  (rother_walk u0  Z w  hZ (rother_ok u0)).mono fun _ _ ⟨r, he, hk, hb⟩ => ⟨by subst hk; exact he, hb⟩

theorem rsame_walk (u0 : List UInt8)  (Z : Fz) (w : World)  (hZ : Z.on w) {K : Bool → Prop} (hp : rsame_vc u0 K) : Calls Tryz.prog 78 #[str u0] w fun e w' => ∃ r : Bool, e = .returned (.bool r) ∧ K r ∧ Below w.heap.size w w' := by
 refine enter0 Tryz.func78 rfl rfl (by kernel_rfl) ?_; intro s c; have a := Mem.start w Z hZ; have t := Fz.le.refl Z
 refine sqB c a [] [] [] ?_; intro u d; clear c
 refine sqH ?_; intro l f
 refine bt d a 2 [] [] [(3, str u0), (4, str u0)] ?_; intro v b; clear d
 obtain ⟨m, n⟩ := hp
 refine st b (str (u0.take (1 : Int).toNat)) (nog rfl _) rfl (by kernel_rfl) (strslH_run b (g := []) (k := .i64) rfl (by kernel_rfl) (by kernel_rfl) (by kernel_rfl) m rfl) ?_; intro x h; clear b
 obtain ⟨o, p⟩ := n
 refine fc h a (count1_fun u0 (u0.take (1 : Int).toNat) o _ _ a.fz) ?_; intro y z i j; clear h a
 refine bt i j 4 [] [] [(2, .bool ((count1S u0 (u0.take (1 : Int).toNat)) == (u0.length : Int)))] ?_; intro A q; clear i
 refine nlH (f _ _ ?_); clear f l
 refine wp_ret ?_
 refine ra1 q (.bool ((count1S u0 (u0.take (1 : Int).toNat)) == (u0.length : Int))) ?_
 exact ⟨(count1S u0 (u0.take (1 : Int).toNat)) == (u0.length : Int), rfl, p, j.below⟩

theorem fixbits_walk (u0 : List UInt8) (u1 : Int)  (Z : Fz) (w : World)  (hZ : Z.on w) {K : (List UInt8) → Prop} (hp : fixbits_vc u0 u1 K) : Calls Tryz.prog 86 #[str u0, y8 u1] w fun e w' => ∃ r : (List UInt8), e = .returned (str r) ∧ K r ∧ Below w.heap.size w w' := by
 refine enter0 Tryz.func86 rfl rfl (by kernel_rfl) ?_; intro a0 E; have i := Mem.start w Z hZ; have j := Fz.le.refl Z
 refine sqB E i [] [] [] ?_; intro a2 F; clear E
 refine sqB F i [] [] [(5, str [])] ?_; intro a5 G; clear F
 refine wp_seq ?_
 refine sqB G i [] [] [(6, i6 0)] ?_; intro H I; clear G
 refine wp_block ?_
 have J : Fr 34 [] [⟨0, [], str u0⟩, ⟨1, [], y8 u1⟩, ⟨5, [], str []⟩, ⟨6, [], i6 0⟩] H := I.region (by kernel_rfl) (by kernel_rfl); clear I
 have L : Fr 34 [] [⟨0, [], str u0⟩, ⟨1, [], y8 u1⟩, ⟨5, [], str []⟩, ⟨6, [], i6 0⟩] H := J.region (by kernel_rfl) (by kernel_rfl); clear J
 obtain ⟨ap, aq, ar, au⟩ := hp
 have aU := j
 refine lp (ι := Int × (List UInt8) × Int × Fz) (fun s => [⟨0, [], str u0⟩, ⟨1, [], y8 s.1⟩, ⟨5, [], str s.2.1⟩, ⟨6, [], i6 s.2.2.1⟩]) (fun s => []) (fun s => s.2.2.2) (fun s => ap s.1 s.2.1 s.2.2.1 ∧ Fz.le Z s.2.2.2) (fun s => aq s.1 s.2.1 s.2.2.1) ⟨u1, [], 0, Z⟩ ⟨ar, Fz.le.refl _⟩ (by exact L.region (by kernel_rfl) (by kernel_rfl)) (by exact i) ?_
 rintro ⟨c, d, a, p⟩ ⟨av, n⟩ aw ax M N
 have O : Fr 34 [] [⟨0, [], str u0⟩, ⟨1, [], y8 c⟩, ⟨5, [], str d⟩, ⟨6, [], i6 a⟩] aw := M; clear M L
 have l : Mem w.heap.size [] w Z [] p ax := N; clear N i
 have o := au c d a av
 replace j := Fz.le.trans j n
 refine wp_seq ?_
 refine sqB O l [] [] [(10, .bool (decide (a < (u0.length : Int))))] ?_; intro ay m; clear O
 refine cd m (t := decide (a < (u0.length : Int))) (by kernel_rfl) (fun u => ?_) (fun u => ?_)
 · -- yes
  have az := o.1 u; clear o
  refine wp_skip ?_
  refine thn ?_
  refine wp_seq ?_
  refine wp_block ?_
  have P : Fr 34 [] [⟨0, [], str u0⟩, ⟨1, [], y8 c⟩, ⟨5, [], str d⟩, ⟨6, [], i6 a⟩] ay := m.region (by kernel_rfl) (by kernel_rfl); clear m
  refine wp_seq (rgS mixed l [(0, true), (1, true), (5, true), (6, true), (7, true), (8, true), (9, true), (10, true), (11, true), (12, true), (2, false), (3, false), (4, false), (13, false), (14, false), (15, true)] [] [] [] ?_)
  intro aA Q aV v; clear l
  have f := Fz.le.refl p
  refine cS P 9 [] [] [(13, str d), (14, y8 c), (18, str u0), (19, i6 a), (24, i6 (min (w64 (a + 4)) (u0.length : Int)))] ?_; intro aW y; clear P
  obtain ⟨aB, aC⟩ := az
  refine cst rfl y (str ((u0.take (min (w64 (a + 4)) (u0.length : Int)).toNat).drop a.toNat)) (nog rfl _) rfl (by kernel_rfl) (fun v58 hC => strslI_run y (g := []) (k := .i64) (k' := .i64) rfl (by kernel_rfl) (by kernel_rfl) (by kernel_rfl) (by kernel_rfl) aB rfl) ?_; intro aX R; clear y
  refine eS rfl ?_; intro aD S
  refine fc R v (rother_fun c _ _ v.fz) ?_; intro aY aZ U z; clear R v
  refine nl (qnI (S _ _ (z.cst f []) ?_)); clear S aD
  refine eS rfl ?_; intro aE V
  refine nw U z (fun b => .slice (sm b) 1 1) [y8 (rother c)] 5 ?_; intro W a1 X A B; clear U z
  refine nl (qnI (V _ _ (B.cst f []) ?_)); clear V aE
  refine eS rfl ?_; intro aF Y
  have aG : Mem w.heap.size [] w Z [.own t8 5 (sm W) 1 ([(rother c)] : List Int)] p X := B.rowOwn (T := t8) (xs := ([(rother c)] : List Int)) 0 rfl (by decide) (by show 1 ≤ lim; decide) (RepAll.one (T := t8) (x := (rother c)) rfl); clear B
  obtain ⟨aa, C, ab, aH⟩ := aG.freeze 0 rfl
  replace n := n.mono C
  replace f := f.mono C
  replace j := Fz.le.trans j C
  have h : Mem w.heap.size [] w Z [] aa X := ab; clear ab
  refine st A (str (bstr ([(rother c)] : List Int))) (nog rfl _) rfl (by kernel_rfl) (bstr_op A (g := []) (e := 5) (ao := (sm W)) (cap := 1) (xs := ([(rother c)] : List Int)) rfl (by kernel_rfl) (by kernel_rfl) (by kernel_rfl) (by kernel_rfl) aH h.fz rfl) ?_; intro a3 ac; clear A
  refine nl (qnI (Y _ _ (h.cst f []) ?_)); clear Y aF
  refine eS rfl ?_; intro aI ad
  obtain ⟨aJ, aK⟩ := aC
  refine sa ac aJ ?_; intro a4 ae; clear ac
  refine nl (qnI (ad _ _ (h.cst f []) ?_)); clear ad aI
  refine eS rfl ?_; intro aL af
  obtain ⟨aM, aN⟩ := aK
  refine sa ae aM ?_; intro a6 ag; clear ae
  refine nl (qnI (af _ _ (h.cst f []) ?_)); clear af aL
  refine cS ag 1 [] [] [(5, str (d ++ ((bstr ([(rother c)] : List Int)) ++ ((u0.take (min (w64 (a + 4)) (u0.length : Int)).toNat).drop a.toNat))))] ?_; intro a7 ah; clear ag
  refine nS (Q _ _ ?_); clear Q aA
  refine thn ?_
  refine rgH ?_; intro aO ai
  refine bt ah h 4 [] [] [(28, str (d ++ ((bstr ([(rother c)] : List Int)) ++ ((u0.take (min (w64 (a + 4)) (u0.length : Int)).toNat).drop a.toNat)))), (31, i6 (w64 (((d ++ ((bstr ([(rother c)] : List Int)) ++ ((u0.take (min (w64 (a + 4)) (u0.length : Int)).toNat).drop a.toNat))).length : Int) - 1)))] ?_; intro a9 aj; clear ah
  obtain ⟨aP, aQ⟩ := aN
  obtain ⟨D, ak⟩ : ∃ q, (d ++ ((bstr ([(rother c)] : List Int)) ++ ((u0.take (min (w64 (a + 4)) (u0.length : Int)).toNat).drop a.toNat)))[(w64 (((d ++ ((bstr ([(rother c)] : List Int)) ++ ((u0.take (min (w64 (a + 4)) (u0.length : Int)).toNat).drop a.toNat))).length : Int) - 1)).toNat]? = some q := ⟨_, List.getElem?_eq_getElem (by omega)⟩; have al := aQ D ak
  refine si aj .i64 aP.1 ak ?_; intro ba am; clear aj
  refine s1 am 1 (y8 (D.toNat : Int)) ?_; intro bb an; clear am
  refine nlH (ai _ _ ?_); clear ai aO
  refine ibn ?_
  refine thn ?_
  refine rgB an h [] [] [(6, i6 (w64 (a + 4)))] ?_; intro bc aR; clear an
  refine rd ?_
  exact ⟨⟨(D.toNat : Int), d ++ ((bstr ([(rother c)] : List Int)) ++ ((u0.take (min (w64 (a + 4)) (u0.length : Int)).toNat).drop a.toNat)), w64 (a + 4), aa⟩, ⟨al.1, n⟩, al.2, (aR.region (by kernel_rfl) (by kernel_rfl)).anyβ _ (by kernel_rfl), h.keep (List.Sublist.slnil)⟩
 · -- no
  have aS := o.2 u; clear o
  refine wp_exit ?_
  refine thx ?_
  refine thx ?_
  refine ibx ?_
  refine thn ?_
  refine sqB m l [] [] [(4, str d)] ?_; intro bd aT; clear m
  refine wp_ret ?_
  refine ra1 aT (str d) ?_
  exact ⟨d, rfl, aS, l.below⟩

end Go.Proofs.YtmbdcehmeiiaoaaGreatDoor
set_option linter.unusedVariables false
set_option linter.unusedSimpArgs false
set_option maxRecDepth 100000
set_option maxHeartbeats 0
namespace Go.Proofs.YtmbdcehmeiiaoaaGreatDoor
open Go.Sy Go.RowKit
theorem rsame_fun (u0 : List UInt8) (hpre : 0 < u0.length ∧ u0.length ≤ 1000)  (Z : Fz) (w : World)  (hZ : Z.on w) : Calls Tryz.prog 78 #[str u0] w fun e w' => e = .returned (.bool (rsameS u0)) ∧ Below w.heap.size w w' :=
  (rsame_walk u0  Z w  hZ (rsame_ok u0 hpre)).mono fun _ _ ⟨r, he, hk, hb⟩ => ⟨by subst hk; exact he, hb⟩

theorem fixbits_fun (u0 : List UInt8) (u1 : Int) (hpre : isRow u0 = true ∧ u0.length ≤ 1000 ∧ (u1 = 48 ∨ u1 = 49))  (Z : Fz) (w : World)  (hZ : Z.on w) : Calls Tryz.prog 86 #[str u0, y8 u1] w fun e w' => e = .returned (str (fixbitsS u0 u1)) ∧ Below w.heap.size w w' :=
  (fixbits_walk u0 u1  Z w  hZ (fixbits_ok u0 u1 hpre)).mono fun _ _ ⟨r, he, hk, hb⟩ => ⟨by subst hk; exact he, hb⟩

theorem putbits_walk (u0 : List UInt8)  (Z : Fz) (w : World)  (hZ : Z.on w) {K : (List UInt8) → Prop} (hp : putbits_vc u0 K) : Calls Tryz.prog 61 #[str u0] w fun e w' => ∃ r : (List UInt8), e = .returned (str r) ∧ K r ∧ Below w.heap.size w w' := by
 refine enter0 Tryz.func61 rfl rfl (by kernel_rfl) ?_; intro a0 W; have m := Mem.start w Z hZ; have n := Fz.le.refl Z
 refine sqB W m [] [] [] ?_; intro a2 X; clear W
 refine sqB X m [] [] [(3, str [])] ?_; intro a5 Y; clear X
 refine wp_seq ?_
 refine sqB Y m [] [] [(7, i6 (u0.length : Int)), (8, i6 0)] ?_; intro aa ab; clear Y
 refine wp_block ?_
 have ac : Fr 45 [] [⟨0, [], str u0⟩, ⟨3, [], str []⟩, ⟨7, [], i6 (u0.length : Int)⟩, ⟨8, [], i6 0⟩] aa := ab.region (by kernel_rfl) (by kernel_rfl); clear ab
 have ad : Fr 45 [] [⟨0, [], str u0⟩, ⟨3, [], str []⟩, ⟨7, [], i6 (u0.length : Int)⟩, ⟨8, [], i6 0⟩] aa := ac.region (by kernel_rfl) (by kernel_rfl); clear ac
 obtain ⟨a8, a9, ba, bb⟩ := hp
 have bH := n
 refine lp (ι := (List UInt8) × Int × Fz) (fun s => [⟨0, [], str u0⟩, ⟨3, [], str s.1⟩, ⟨7, [], i6 (u0.length : Int)⟩, ⟨8, [], i6 s.2.1⟩]) (fun s => []) (fun s => s.2.2) (fun s => a8 s.1 s.2.1 ∧ Fz.le Z s.2.2) (fun s => a9 s.1 s.2.1) ⟨[], 0, Z⟩ ⟨ba, Fz.le.refl _⟩ (by exact ad.region (by kernel_rfl) (by kernel_rfl)) (by exact m) ?_
 rintro ⟨f, a, y⟩ ⟨bc, j⟩ bd be ae af
 have ag : Fr 45 [] [⟨0, [], str u0⟩, ⟨3, [], str f⟩, ⟨7, [], i6 (u0.length : Int)⟩, ⟨8, [], i6 a⟩] bd := ae; clear ae ad
 have h : Mem w.heap.size [] w Z [] y be := af; clear af m
 have z := bb f a bc
 replace n := Fz.le.trans n j
 refine sqB ag h [] [] [(9, .bool (decide (a < (u0.length : Int))))] ?_; intro bI o; clear ag
 refine wp_seq ?_
 refine cd o (t := decide (a < (u0.length : Int))) (by kernel_rfl) (fun N => ?_) (fun N => ?_)
 · -- yes
  have bf := z.1 N; clear z
  refine wp_skip ?_
  refine thn ?_
  refine wp_seq ?_
  refine wp_block ?_
  refine sqB o h [] [] [(4, i6 a)] ?_; intro bJ ah; clear o
  refine sqH ?_; intro bg ai
  refine bt ah h 5 [] [] [(11, str f), (12, str u0), (13, i6 a), (15, i6 (w64 (a + 1)))] ?_; intro bK O; clear ah
  obtain ⟨bh, bi⟩ := bf
  refine st O (str ((u0.take (w64 (a + 1)).toNat).drop a.toNat)) (nog rfl _) rfl (by kernel_rfl) (strslI_run O (g := []) (k := .i64) (k' := .i64) rfl (by kernel_rfl) (by kernel_rfl) (by kernel_rfl) (by kernel_rfl) bh rfl) ?_; intro bL aj; clear O
  obtain ⟨bj, A⟩ := bi
  refine sa aj bj ?_; intro bM ak; clear aj
  refine s1 ak 3 (str (f ++ ((u0.take (w64 (a + 1)).toNat).drop a.toNat))) ?_; intro bN al; clear ak
  refine nlH (ai _ _ ?_); clear ai bg
  refine sqB al h [] [] [(5, i6 ((f ++ ((u0.take (w64 (a + 1)).toNat).drop a.toNat)).length : Int))] ?_; intro P am; clear al
  have B : Fr 45 [] [⟨0, [], str u0⟩, ⟨3, [], str (f ++ ((u0.take (w64 (a + 1)).toNat).drop a.toNat))⟩, ⟨5, [], i6 ((f ++ ((u0.take (w64 (a + 1)).toNat).drop a.toNat)).length : Int)⟩, ⟨7, [], i6 (u0.length : Int)⟩, ⟨8, [], i6 a⟩] P := am.region (by kernel_rfl) (by kernel_rfl); clear am
  rcases Bool.eq_false_or_eq_true (decide (((f ++ ((u0.take (w64 (a + 1)).toNat).drop a.toNat)).length : Int) ≥ 5)) with p | p
  · -- true
   have bk := A.1 p; clear A
   have an : Fr 45 [] [⟨0, [], str u0⟩, ⟨3, [], str (f ++ ((u0.take (w64 (a + 1)).toNat).drop a.toNat))⟩, ⟨5, [], i6 ((f ++ ((u0.take (w64 (a + 1)).toNat).drop a.toNat)).length : Int)⟩, ⟨7, [], i6 (u0.length : Int)⟩, ⟨8, [], i6 a⟩] P := B.region (by kernel_rfl) (by kernel_rfl); clear B
   refine sqQH mixed (by kernel_rfl) h ?_; intro bl ap
   refine q1 an 20 (i6 ((f ++ ((u0.take (w64 (a + 1)).toNat).drop a.toNat)).length : Int)) ?_; intro bO aq; clear an
   refine q1 aq 21 (.bool (decide (((f ++ ((u0.take (w64 (a + 1)).toNat).drop a.toNat)).length : Int) ≥ 5))) ?_; intro bP ar; clear aq
   have au := ar.reval (d := 21) (c := []) (v := .bool (decide (((f ++ ((u0.take (w64 (a + 1)).toNat).drop a.toNat)).length : Int) ≥ 5))) (by kernel_rfl) (.bool true) (by rw [p]); clear ar
   refine q1 au 22 (.bool true) ?_; intro bQ C; clear au
   refine qst C (str (f ++ ((u0.take (w64 (a + 1)).toNat).drop a.toNat))) (by rw [wanted_of C (b := true) rfl rfl (by kernel_rfl) (by kernel_rfl)]; rfl) rfl (by kernel_rfl) (fun v81 hC => p0 C (by kernel_rfl)) ?_; intro bR D; clear C
   refine qst D (i6 ((f ++ ((u0.take (w64 (a + 1)).toNat).drop a.toNat)).length : Int)) (by rw [wanted_of D (b := true) rfl rfl (by kernel_rfl) (by kernel_rfl)]; rfl) rfl (by kernel_rfl) (fun v84 hC => p0 D (by kernel_rfl)) ?_; intro bS E; clear D
   refine qst E (i6 (w64 (((f ++ ((u0.take (w64 (a + 1)).toNat).drop a.toNat)).length : Int) - 5))) (by rw [wanted_of E (b := true) rfl rfl (by kernel_rfl) (by kernel_rfl)]; rfl) rfl (by kernel_rfl) (fun v87 hC => p0 E (by kernel_rfl)) ?_; intro bT F; clear E
   obtain ⟨bm, bn⟩ := bk
   refine qst F (str ((f ++ ((u0.take (w64 (a + 1)).toNat).drop a.toNat)).drop (w64 (((f ++ ((u0.take (w64 (a + 1)).toNat).drop a.toNat)).length : Int) - 5)).toNat)) (by rw [wanted_of F (b := true) rfl rfl (by kernel_rfl) (by kernel_rfl)]; rfl) rfl (by kernel_rfl) (fun v90 hC => strslL_run F (g := []) (k := .i64) rfl (by kernel_rfl) (by kernel_rfl) (by kernel_rfl) bm rfl) ?_; intro bU G; clear F
   refine qst G (str (f ++ ((u0.take (w64 (a + 1)).toNat).drop a.toNat))) (by rw [wanted_of G (b := true) rfl rfl (by kernel_rfl) (by kernel_rfl)]; rfl) rfl (by kernel_rfl) (fun v95 hC => p0 G (by kernel_rfl)) ?_; intro bV H; clear G
   refine qst H (i6 ((f ++ ((u0.take (w64 (a + 1)).toNat).drop a.toNat)).length : Int)) (by rw [wanted_of H (b := true) rfl rfl (by kernel_rfl) (by kernel_rfl)]; rfl) rfl (by kernel_rfl) (fun v98 hC => p0 H (by kernel_rfl)) ?_; intro bW I; clear H
   refine qst I (i6 (w64 (((f ++ ((u0.take (w64 (a + 1)).toNat).drop a.toNat)).length : Int) - 1))) (by rw [wanted_of I (b := true) rfl rfl (by kernel_rfl) (by kernel_rfl)]; rfl) rfl (by kernel_rfl) (fun v101 hC => p0 I (by kernel_rfl)) ?_; intro bX J; clear I
   obtain ⟨bo, bp⟩ := bn
   refine qst J (str ((f ++ ((u0.take (w64 (a + 1)).toNat).drop a.toNat)).drop (w64 (((f ++ ((u0.take (w64 (a + 1)).toNat).drop a.toNat)).length : Int) - 1)).toNat)) (by rw [wanted_of J (b := true) rfl rfl (by kernel_rfl) (by kernel_rfl)]; rfl) rfl (by kernel_rfl) (fun v104 hC => strslL_run J (g := []) (k := .i64) rfl (by kernel_rfl) (by kernel_rfl) (by kernel_rfl) bo rfl) ?_; intro bY Q; clear J
   obtain ⟨bq, L⟩ := bp
   refine qcl Q (i6 (count1S ((f ++ ((u0.take (w64 (a + 1)).toNat).drop a.toNat)).drop (w64 (((f ++ ((u0.take (w64 (a + 1)).toNat).drop a.toNat)).length : Int) - 5)).toNat) ((f ++ ((u0.take (w64 (a + 1)).toNat).drop a.toNat)).drop (w64 (((f ++ ((u0.take (w64 (a + 1)).toNat).drop a.toNat)).length : Int) - 1)).toNat))) 42 #[str ((f ++ ((u0.take (w64 (a + 1)).toNat).drop a.toNat)).drop (w64 (((f ++ ((u0.take (w64 (a + 1)).toNat).drop a.toNat)).length : Int) - 5)).toNat), str ((f ++ ((u0.take (w64 (a + 1)).toNat).drop a.toNat)).drop (w64 (((f ++ ((u0.take (w64 (a + 1)).toNat).drop a.toNat)).length : Int) - 1)).toNat)] (by rw [wanted_of Q (b := true) rfl rfl (by kernel_rfl) (by kernel_rfl)]; rfl) rfl (by kernel_rfl) (fun _ => by kernel_rfl) (qfc fun w hC => count1_fun ((f ++ ((u0.take (w64 (a + 1)).toNat).drop a.toNat)).drop (w64 (((f ++ ((u0.take (w64 (a + 1)).toNat).drop a.toNat)).length : Int) - 5)).toNat) ((f ++ ((u0.take (w64 (a + 1)).toNat).drop a.toNat)).drop (w64 (((f ++ ((u0.take (w64 (a + 1)).toNat).drop a.toNat)).length : Int) - 1)).toNat) bq _ _ hC.fz) ?_; intro bZ M; clear Q
   refine qst M (.bool ((count1S ((f ++ ((u0.take (w64 (a + 1)).toNat).drop a.toNat)).drop (w64 (((f ++ ((u0.take (w64 (a + 1)).toNat).drop a.toNat)).length : Int) - 5)).toNat) ((f ++ ((u0.take (w64 (a + 1)).toNat).drop a.toNat)).drop (w64 (((f ++ ((u0.take (w64 (a + 1)).toNat).drop a.toNat)).length : Int) - 1)).toNat)) == 5)) (by rw [wanted_of M (b := true) rfl rfl (by kernel_rfl) (by kernel_rfl)]; rfl) rfl (by kernel_rfl) (fun v114 hC => p0 M (by kernel_rfl)) ?_; intro b0 av; clear M
   refine q1 av 33 (.bool ((count1S ((f ++ ((u0.take (w64 (a + 1)).toNat).drop a.toNat)).drop (w64 (((f ++ ((u0.take (w64 (a + 1)).toNat).drop a.toNat)).length : Int) - 5)).toNat) ((f ++ ((u0.take (w64 (a + 1)).toNat).drop a.toNat)).drop (w64 (((f ++ ((u0.take (w64 (a + 1)).toNat).drop a.toNat)).length : Int) - 1)).toNat)) == 5)) ?_; intro b1 u; clear av
   refine qnl (ap _ ?_); clear ap bl; intro b2 l; clear h
   refine cd u (t := (count1S ((f ++ ((u0.take (w64 (a + 1)).toNat).drop a.toNat)).drop (w64 (((f ++ ((u0.take (w64 (a + 1)).toNat).drop a.toNat)).length : Int) - 5)).toNat) ((f ++ ((u0.take (w64 (a + 1)).toNat).drop a.toNat)).drop (w64 (((f ++ ((u0.take (w64 (a + 1)).toNat).drop a.toNat)).length : Int) - 1)).toNat)) == 5) (by kernel_rfl) (fun R => ?_) (fun R => ?_)
   · -- yes
    have br := L.1 R; clear L
    refine rgH ?_; intro bs aw
    refine bt u l 4 [] [] [(34, str (f ++ ((u0.take (w64 (a + 1)).toNat).drop a.toNat))), (35, str (f ++ ((u0.take (w64 (a + 1)).toNat).drop a.toNat))), (37, i6 (w64 (((f ++ ((u0.take (w64 (a + 1)).toNat).drop a.toNat)).length : Int) - 1)))] ?_; intro b3 ax; clear u
    obtain ⟨bu, bv⟩ := br
    obtain ⟨i, ay⟩ : ∃ q, (f ++ ((u0.take (w64 (a + 1)).toNat).drop a.toNat))[(w64 (((f ++ ((u0.take (w64 (a + 1)).toNat).drop a.toNat)).length : Int) - 1)).toNat]? = some q := ⟨_, List.getElem?_eq_getElem (by omega)⟩; have bw := bv i ay
    refine si ax .i64 bu.1 ay ?_; intro b4 az; clear ax
    refine fc az l (rother_fun (i.toNat : Int) _ _ l.fz) ?_; intro b5 b6 aA aB; clear az l
    refine nw aA aB (fun b => .slice (sm b) 1 1) [y8 (rother (i.toNat : Int))] 5 ?_; intro aC b7 aD S aE; clear aA aB
    have bx : Mem w.heap.size [] w Z [.own t8 5 (sm aC) 1 ([(rother (i.toNat : Int))] : List Int)] y aD := aE.rowOwn (T := t8) (xs := ([(rother (i.toNat : Int))] : List Int)) 0 rfl (by decide) (by show 1 ≤ lim; decide) (RepAll.one (T := t8) (x := (rother (i.toNat : Int))) rfl); clear aE
    obtain ⟨aF, aG, aH, bz⟩ := bx.freeze 0 rfl
    replace j := j.mono aG
    replace n := Fz.le.trans n aG
    have U : Mem w.heap.size [] w Z [] aF aD := aH; clear aH
    refine st S (str (bstr ([(rother (i.toNat : Int))] : List Int))) (nog rfl _) rfl (by kernel_rfl) (bstr_op S (g := []) (e := 5) (ao := (sm aC)) (cap := 1) (xs := ([(rother (i.toNat : Int))] : List Int)) rfl (by kernel_rfl) (by kernel_rfl) (by kernel_rfl) (by kernel_rfl) bz U.fz rfl) ?_; intro b8 aI; clear S
    obtain ⟨bA, aJ⟩ := bw
    refine sa aI bA ?_; intro b9 aK; clear aI
    refine s1 aK 3 (str ((f ++ ((u0.take (w64 (a + 1)).toNat).drop a.toNat)) ++ (bstr ([(rother (i.toNat : Int))] : List Int)))) ?_; intro ca aL; clear aK
    refine nlH (aw _ _ ?_); clear aw bs
    refine ibn ?_
    refine thn ?_
    refine rgB aL U [] [] [(8, i6 (w64 (a + 1)))] ?_; intro cb bB; clear aL
    refine rd ?_
    exact ⟨⟨(f ++ ((u0.take (w64 (a + 1)).toNat).drop a.toNat)) ++ (bstr ([(rother (i.toNat : Int))] : List Int)), w64 (a + 1), aF⟩, ⟨aJ.1, j⟩, aJ.2, (bB.region (by kernel_rfl) (by kernel_rfl)).anyβ _ (by kernel_rfl), U.keep (List.Sublist.slnil)⟩
   · -- no
    have aM := L.2 R; clear L
    refine wp_skip ?_
    refine ibn ?_
    refine thn ?_
    refine rgB u l [] [] [(8, i6 (w64 (a + 1)))] ?_; intro cc bC; clear u
    refine rd ?_
    exact ⟨⟨f ++ ((u0.take (w64 (a + 1)).toNat).drop a.toNat), w64 (a + 1), y⟩, ⟨aM.1, j⟩, aM.2, (bC.region (by kernel_rfl) (by kernel_rfl)).anyβ _ (by kernel_rfl), l.keep (List.Sublist.slnil)⟩
  · -- false
   have aN := A.2 p; clear A
   have aO : Fr 45 [] [⟨0, [], str u0⟩, ⟨3, [], str (f ++ ((u0.take (w64 (a + 1)).toNat).drop a.toNat))⟩, ⟨5, [], i6 ((f ++ ((u0.take (w64 (a + 1)).toNat).drop a.toNat)).length : Int)⟩, ⟨7, [], i6 (u0.length : Int)⟩, ⟨8, [], i6 a⟩] P := B.region (by kernel_rfl) (by kernel_rfl); clear B
   refine sqQH mixed (by kernel_rfl) h ?_; intro bD aP
   refine q1 aO 20 (i6 ((f ++ ((u0.take (w64 (a + 1)).toNat).drop a.toNat)).length : Int)) ?_; intro ce aQ; clear aO
   refine q1 aQ 21 (.bool (decide (((f ++ ((u0.take (w64 (a + 1)).toNat).drop a.toNat)).length : Int) ≥ 5))) ?_; intro cf aR; clear aQ
   have aS := aR.reval (d := 21) (c := []) (v := .bool (decide (((f ++ ((u0.take (w64 (a + 1)).toNat).drop a.toNat)).length : Int) ≥ 5))) (by kernel_rfl) (.bool false) (by rw [p]); clear aR
   refine q1 aS 22 (.bool false) ?_; intro cg aT; clear aS
   refine qsk aT (b := false) rfl rfl (by kernel_rfl) (by kernel_rfl) rfl rfl (by kernel_rfl) ?_; intro ch aU; clear aT
   refine qsk aU (b := false) rfl rfl (by kernel_rfl) (by kernel_rfl) rfl rfl (by kernel_rfl) ?_; intro ci aV; clear aU
   refine qsk aV (b := false) rfl rfl (by kernel_rfl) (by kernel_rfl) rfl rfl (by kernel_rfl) ?_; intro cj aW; clear aV
   refine qsk aW (b := false) rfl rfl (by kernel_rfl) (by kernel_rfl) rfl rfl (by kernel_rfl) ?_; intro ck aX; clear aW
   refine qsk aX (b := false) rfl rfl (by kernel_rfl) (by kernel_rfl) rfl rfl (by kernel_rfl) ?_; intro cl aY; clear aX
   refine qsk aY (b := false) rfl rfl (by kernel_rfl) (by kernel_rfl) rfl rfl (by kernel_rfl) ?_; intro cm aZ; clear aY
   refine qsk aZ (b := false) rfl rfl (by kernel_rfl) (by kernel_rfl) rfl rfl (by kernel_rfl) ?_; intro cn a1; clear aZ
   refine qsk a1 (b := false) rfl rfl (by kernel_rfl) (by kernel_rfl) rfl rfl (by kernel_rfl) ?_; intro co a3; clear a1
   refine qsk a3 (b := false) rfl rfl (by kernel_rfl) (by kernel_rfl) rfl rfl (by kernel_rfl) ?_; intro cp a4; clear a3
   refine qsk a4 (b := false) rfl rfl (by kernel_rfl) (by kernel_rfl) rfl rfl (by kernel_rfl) ?_; intro cq a6; clear a4
   refine q1 a6 33 (.bool false) ?_; intro cr V; clear a6
   refine qnl (aP _ ?_); clear aP bD; intro cs a7; clear h
   refine cdF V (by kernel_rfl) ?_
   refine wp_skip ?_
   refine ibn ?_
   refine thn ?_
   refine rgB V a7 [] [] [(8, i6 (w64 (a + 1)))] ?_; intro ct bE; clear V
   refine rd ?_
   exact ⟨⟨f ++ ((u0.take (w64 (a + 1)).toNat).drop a.toNat), w64 (a + 1), y⟩, ⟨aN.1, j⟩, aN.2, (bE.region (by kernel_rfl) (by kernel_rfl)).anyβ _ (by kernel_rfl), a7.keep (List.Sublist.slnil)⟩
 · -- no
  have bF := z.2 N; clear z
  refine wp_exit ?_
  refine thx ?_
  refine thx ?_
  refine ibx ?_
  refine thn ?_
  refine sqB o h [] [] [(2, str f)] ?_; intro cu bG; clear o
  refine wp_ret ?_
  refine ra1 bG (str f) ?_
  exact ⟨f, rfl, bF, h.below⟩

theorem takebits_walk (u0 : List UInt8) (u1 : Int)  (Z : Fz) (w : World)  (hZ : Z.on w) {K : ((List UInt8) × Int × Int) → Prop} (hp : takebits_vc u0 u1 K) : Calls Tryz.prog 45 #[str u0, i6 u1] w fun e w' => ∃ r : (List UInt8) × Int × Int, e = .returned (.tuple #[str r.1, i6 r.2.1, i6 r.2.2]) ∧ K r ∧ Below w.heap.size w w' := by
 refine enter0 Tryz.func45 rfl rfl (by kernel_rfl) ?_; intro a0 T; have j := Mem.start w Z hZ; have bc := Fz.le.refl Z
 refine sqB T j [] [] [] ?_; intro a6 U; clear T
 refine sqB U j [] [] [(7, str [])] ?_; intro a9 V; clear U
 refine sqB V j [] [] [(8, i6 0)] ?_; intro W X; clear V
 refine wp_seq ?_
 refine wp_block ?_
 have Y : Fr 52 [] [⟨0, [], str u0⟩, ⟨1, [], i6 u1⟩, ⟨7, [], str []⟩, ⟨8, [], i6 0⟩] W := X.region (by kernel_rfl) (by kernel_rfl); clear X
 have aa : Fr 52 [] [⟨0, [], str u0⟩, ⟨1, [], i6 u1⟩, ⟨7, [], str []⟩, ⟨8, [], i6 0⟩] W := Y.region (by kernel_rfl) (by kernel_rfl); clear Y
 obtain ⟨aC, aD, aE, aF⟩ := hp
 refine lp (ι := (List UInt8) × Int) (fun s => [⟨0, [], str u0⟩, ⟨1, [], i6 u1⟩, ⟨7, [], str s.1⟩, ⟨8, [], i6 s.2⟩]) (fun s => []) (fun s => Z) (fun s => aC s.1 s.2) (fun s => aD s.1 s.2) ⟨[], 0⟩ aE (by exact aa.region (by kernel_rfl) (by kernel_rfl)) (by exact j) ?_
 rintro ⟨h, a⟩ aG aH aI ab ac
 have ad : Fr 52 [] [⟨0, [], str u0⟩, ⟨1, [], i6 u1⟩, ⟨7, [], str h⟩, ⟨8, [], i6 a⟩] aH := ab; clear ab aa
 have f : Mem w.heap.size [] w Z [] Z aI := ac; clear ac j
 have u := aF h a aG
 refine wp_seq ?_
 refine sqB ad f [] [] [(12, .bool (decide ((h.length : Int) < u1)))] ?_; intro bd l; clear ad
 refine cd l (t := decide ((h.length : Int) < u1)) (by kernel_rfl) (fun J => ?_) (fun J => ?_)
 · -- yes
  have x := u.1 J; clear u
  refine wp_skip ?_
  refine thn ?_
  refine wp_block ?_
  refine wp_seq ?_
  refine sqB l f [] [] [(16, .bool (a == (u0.length : Int)))] ?_; intro be m; clear l
  refine cd m (t := a == (u0.length : Int)) (by kernel_rfl) (fun L => ?_) (fun L => ?_)
  · -- yes
   have aJ := x.1 L; clear x
   refine sqB m f [] [] [(4, str []), (5, i6 0), (6, i6 7)] ?_; intro bf aK; clear m
   refine wp_ret ?_
   refine thr ?_
   refine ibr ?_
   refine thr ?_
   refine ibr ?_
   refine thr ?_
   refine ra3 aK (.tuple #[str [], i6 0, i6 7]) ?_
   exact ⟨([], 0, 7), rfl, aJ, f.below⟩
  · -- no
   have aL := x.2 L; clear x
   refine wp_skip ?_
   refine thn ?_
   refine sqH ?_; intro aM ae
   refine bt m f 5 [] [] [(17, str h), (18, str u0), (19, i6 a), (21, i6 (w64 (a + 1)))] ?_; intro bg M; clear m
   obtain ⟨aN, aO⟩ := aL
   refine st M (str ((u0.take (w64 (a + 1)).toNat).drop a.toNat)) (nog rfl _) rfl (by kernel_rfl) (strslI_run M (g := []) (k := .i64) (k' := .i64) rfl (by kernel_rfl) (by kernel_rfl) (by kernel_rfl) (by kernel_rfl) aN rfl) ?_; intro bh af; clear M
   obtain ⟨aP, y⟩ := aO
   refine sa af aP ?_; intro bi ag; clear af
   refine s1 ag 7 (str (h ++ ((u0.take (w64 (a + 1)).toNat).drop a.toNat))) ?_; intro bj ah; clear ag
   refine nlH (ae _ _ ?_); clear ae aM
   refine sqB ah f [] [] [(8, i6 (w64 (a + 1)))] ?_; intro bk ai; clear ah
   refine sqH ?_; intro aj z
   refine bt ai f 3 [] [] [(28, .bool (decide ((w64 (a + 1)) ≥ 5)))] ?_; intro bl A; clear ai
   rcases Bool.eq_false_or_eq_true (decide ((w64 (a + 1)) ≥ 5)) with n | n
   · -- true
    have aQ := y.1 n; clear y
    have ak := A.reval (d := 28) (c := []) (v := .bool (decide ((w64 (a + 1)) ≥ 5))) (by kernel_rfl) (.bool true) (by rw [n]); clear A
    refine bt ak f 4 [] [29, 30, 31, 32] [(29, str u0), (31, i6 (w64 ((w64 (a + 1)) - 5))), (32, i6 (w64 (a + 1)))] ?_; intro bm B; clear ak
    obtain ⟨aR, aS⟩ := aQ
    refine st B (str ((u0.take (w64 (a + 1)).toNat).drop (w64 ((w64 (a + 1)) - 5)).toNat)) (by rw [wanted_of B (b := true) rfl rfl (by kernel_rfl) (by kernel_rfl)]; rfl) rfl (by kernel_rfl) (strslI_run B (g := []) (k := .i64) (k' := .i64) rfl (by kernel_rfl) (by kernel_rfl) (by kernel_rfl) (by kernel_rfl) aR rfl) ?_; intro bn N; clear B
    obtain ⟨aT, C⟩ := aS
    refine fcl N f (.bool (rsameS ((u0.take (w64 (a + 1)).toNat).drop (w64 ((w64 (a + 1)) - 5)).toNat))) 78 #[str ((u0.take (w64 (a + 1)).toNat).drop (w64 ((w64 (a + 1)) - 5)).toNat)] (by rw [wanted_of N (b := true) rfl rfl (by kernel_rfl) (by kernel_rfl)]; rfl) rfl (by kernel_rfl) (fun _ => by kernel_rfl) (rsame_fun ((u0.take (w64 (a + 1)).toNat).drop (w64 ((w64 (a + 1)) - 5)).toNat) aT _ _ f.fz) ?_; intro bo bp al i; clear N f
    refine s1 al 35 (.bool (rsameS ((u0.take (w64 (a + 1)).toNat).drop (w64 ((w64 (a + 1)) - 5)).toNat))) ?_; intro bq D; clear al
    refine nlH (z _ _ ?_); clear z aj
    refine cd D (t := (rsameS ((u0.take (w64 (a + 1)).toNat).drop (w64 ((w64 (a + 1)) - 5)).toNat))) (by kernel_rfl) (fun O => ?_) (fun O => ?_)
    · -- yes
     have E := C.1 O; clear C
     refine wp_seq ?_
     refine sqB D i [] [] [(39, .bool ((w64 (a + 1)) == (u0.length : Int)))] ?_; intro aU o; clear D
     refine cd o (t := (w64 (a + 1)) == (u0.length : Int)) (by kernel_rfl) (fun P => ?_) (fun P => ?_)
     · -- yes
      have aV := E.1 P; clear E
      refine sqB o i [] [] [(4, str []), (5, i6 0), (6, i6 7)] ?_; intro br aW; clear o
      refine wp_ret ?_
      refine thr ?_
      refine ibr ?_
      refine thr ?_
      refine ibr ?_
      refine thr ?_
      refine ra3 aW (.tuple #[str [], i6 0, i6 7]) ?_
      exact ⟨([], 0, 7), rfl, aV, i.below⟩
     · -- no
      have aX := E.2 P; clear E
      refine wp_skip ?_
      refine thn ?_
      refine wp_seq ?_
      have am : Fr 52 [] [⟨0, [], str u0⟩, ⟨1, [], i6 u1⟩, ⟨7, [], str (h ++ ((u0.take (w64 (a + 1)).toNat).drop a.toNat))⟩, ⟨8, [], i6 (w64 (a + 1))⟩] aU := o.region (by kernel_rfl) (by kernel_rfl); clear o
      refine sqQH mixed (by kernel_rfl) i ?_; intro aY an
      refine q1 am 40 (str u0) ?_; intro bs ao; clear am
      refine q1 ao 41 (i6 (w64 (a + 1))) ?_; intro bu Q; clear ao
      obtain ⟨aZ, a1⟩ := aX
      obtain ⟨F, ap⟩ : ∃ q, u0[(w64 (a + 1)).toNat]? = some q := ⟨_, List.getElem?_eq_getElem (by omega)⟩; have a2 := a1 F ap
      refine qst Q (y8 (F.toNat : Int)) (nog rfl _) rfl (by kernel_rfl) (fun v145 hC => stridx_run Q (k := .i64) rfl (by kernel_rfl) (by kernel_rfl) (by kernel_rfl) aZ.1 ap) ?_; intro bv aq; clear Q
      refine q1 aq 43 (str u0) ?_; intro bw ar; clear aq
      refine q1 ar 44 (i6 (w64 (a + 1))) ?_; intro bx au; clear ar
      refine q1 au 45 (i6 (w64 ((w64 (a + 1)) - 1))) ?_; intro bz R; clear au
      obtain ⟨a3, a4⟩ := a2
      obtain ⟨G, av⟩ : ∃ q, u0[(w64 ((w64 (a + 1)) - 1)).toNat]? = some q := ⟨_, List.getElem?_eq_getElem (by omega)⟩; have H := a4 G av
      refine qst R (y8 (G.toNat : Int)) (nog rfl _) rfl (by kernel_rfl) (fun v162 hC => stridx_run R (k := .i64) rfl (by kernel_rfl) (by kernel_rfl) (by kernel_rfl) a3.1 av) ?_; intro bA aw; clear R
      refine q1 aw 47 (.bool ((F.toNat : Int) == (G.toNat : Int))) ?_; intro bB p; clear aw
      refine qnl (an _ ?_); clear an aY; intro bC I; clear i
      refine cd p (t := (F.toNat : Int) == (G.toNat : Int)) (by kernel_rfl) (fun S => ?_) (fun S => ?_)
      · -- yes
       have a5 := H.1 S; clear H
       refine sqB p I [] [] [(4, str []), (5, i6 0), (6, i6 5)] ?_; intro bD a7; clear p
       refine wp_ret ?_
       refine thr ?_
       refine ibr ?_
       refine thr ?_
       refine ibr ?_
       refine thr ?_
       refine ra3 a7 (.tuple #[str [], i6 0, i6 5]) ?_
       exact ⟨([], 0, 5), rfl, a5, I.below⟩
      · -- no
       have ax := H.2 S; clear H
       refine wp_skip ?_
       refine thn ?_
       refine rgB p I [] [] [(8, i6 (w64 ((w64 (a + 1)) + 1)))] ?_; intro bE a8; clear p
       refine ibn ?_
       refine rd ?_
       exact ⟨⟨h ++ ((u0.take (w64 (a + 1)).toNat).drop a.toNat), w64 ((w64 (a + 1)) + 1)⟩, ax.1, ax.2, (a8.region (by kernel_rfl) (by kernel_rfl)).anyβ _ (by kernel_rfl), I.keep (List.Sublist.slnil)⟩
    · -- no
     have ay := C.2 O; clear C
     refine wp_skip ?_
     refine ibn ?_
     refine rd ?_
     exact ⟨⟨h ++ ((u0.take (w64 (a + 1)).toNat).drop a.toNat), w64 (a + 1)⟩, ay.1, ay.2, (D.region (by kernel_rfl) (by kernel_rfl)).anyβ _ (by kernel_rfl), i.keep (List.Sublist.slnil)⟩
   · -- false
    have az := y.2 n; clear y
    have aA := A.reval (d := 28) (c := []) (v := .bool (decide ((w64 (a + 1)) ≥ 5))) (by kernel_rfl) (.bool false) (by rw [n]); clear A
    refine bt aA f 7 [] [29, 30, 31, 32, 33, 34, 35] [(35, .bool false)] ?_; intro bF aB; clear aA
    refine nlH (z _ _ ?_); clear z aj
    refine cdF aB (by kernel_rfl) ?_
    refine wp_skip ?_
    refine ibn ?_
    refine rd ?_
    exact ⟨⟨h ++ ((u0.take (w64 (a + 1)).toNat).drop a.toNat), w64 (a + 1)⟩, az.1, az.2, (aB.region (by kernel_rfl) (by kernel_rfl)).anyβ _ (by kernel_rfl), f.keep (List.Sublist.slnil)⟩
 · -- no
  have ba := u.2 J; clear u
  refine wp_exit ?_
  refine thx ?_
  refine thx ?_
  refine ibx ?_
  refine thn ?_
  refine sqB l f [] [] [(4, str h), (5, i6 a), (6, i6 0)] ?_; intro bG bb; clear l
  refine wp_ret ?_
  refine ra3 bb (.tuple #[str h, i6 a, i6 0]) ?_
  exact ⟨(h, a, 0), rfl, ba, f.below⟩

end Go.Proofs.YtmbdcehmeiiaoaaGreatDoor
set_option linter.unusedVariables false
set_option linter.unusedSimpArgs false
set_option maxRecDepth 100000
set_option maxHeartbeats 0
namespace Go.Proofs.YtmbdcehmeiiaoaaGreatDoor
open Go.Sy Go.RowKit
theorem putbits_fun (u0 : List UInt8) (hpre : isRow u0 = true ∧ u0.length ≤ 1000)  (Z : Fz) (w : World)  (hZ : Z.on w) : Calls Tryz.prog 61 #[str u0] w fun e w' => e = .returned (str (putbitsS u0)) ∧ Below w.heap.size w w' :=
  (putbits_walk u0  Z w  hZ (putbits_ok u0 hpre)).mono fun _ _ ⟨r, he, hk, hb⟩ => ⟨by subst hk; exact he, hb⟩

theorem takebits_fun (u0 : List UInt8) (u1 : Int) (hpre : isRow u0 = true ∧ u0.length ≤ 1000 ∧ 0 ≤ u1 ∧ u1 ≤ 1000)  (Z : Fz) (w : World)  (hZ : Z.on w) : Calls Tryz.prog 45 #[str u0, i6 u1] w fun e w' => e = .returned (.tuple #[str (takebitsS u0 u1).1, i6 (takebitsS u0 u1).2.1, i6 (takebitsS u0 u1).2.2]) ∧ Below w.heap.size w w' :=
  (takebits_walk u0 u1  Z w  hZ (takebits_ok u0 u1 hpre)).mono fun _ _ ⟨r, he, hk, hb⟩ => ⟨by subst hk; exact he, hb⟩

theorem rfastend_walk (u0 : List UInt8) (u1 : List UInt8) (u2 : Int)  (Z : Fz) (w : World) (hg5 : SlR t8 Z (sm 5) 64 deBruijn64) (hZ : Z.on w) {K : (List UInt8) → Prop} (hp : rfastend_vc u0 u1 u2 K) : Calls Tryz.prog 51 #[str u0, str u1, i6 u2] w fun e w' => ∃ r : (List UInt8), e = .returned (str r) ∧ K r ∧ Below w.heap.size w w' := by
 refine enter0 Tryz.func51 rfl rfl (by kernel_rfl) ?_; intro a0 z; have j := Mem.start w Z hZ; have A := Fz.le.refl Z
 refine sqB z j [] [] [] ?_; intro a2 B; clear z
 refine sqH ?_; intro av C
 refine nw B j (fun b => .slice (sm b) 8 8) [str ([48, 48, 48, 48] : List UInt8), str ([48, 48, 49, 49] : List UInt8), str ([48, 49, 49, 48] : List UInt8), str ([48, 49, 48, 49] : List UInt8), str ([49, 49, 48, 48] : List UInt8), str ([49, 49, 49, 49] : List UInt8), str ([49, 48, 49, 48] : List UInt8), str ([49, 48, 48, 49] : List UInt8)] 9 ?_; intro l a6 D E m; clear B j
 refine s1 E 7 (.slice (sm l) 8 8) ?_; intro be F; clear E
 refine nlH (C _ _ ?_); clear C av
 refine sqH ?_; intro aw G
 refine bt F m 7 [] [] [(11, .slice (sm l) 8 8), (17, i6 ((w64 ((u1.length : Int) - (u0.length : Int))).tmod 8))] ?_; intro bf H; clear F
 have ax : Mem w.heap.size [] w Z [.own tyStr 9 (sm l) 8 ([([48, 48, 48, 48] : List UInt8), ([48, 48, 49, 49] : List UInt8), ([48, 49, 49, 48] : List UInt8), ([48, 49, 48, 49] : List UInt8), ([49, 49, 48, 48] : List UInt8), ([49, 49, 49, 49] : List UInt8), ([49, 48, 49, 48] : List UInt8), ([49, 48, 48, 49] : List UInt8)] : List (List UInt8))] Z D := m.rowOwn (T := tyStr) (xs := ([([48, 48, 48, 48] : List UInt8), ([48, 48, 49, 49] : List UInt8), ([48, 49, 49, 48] : List UInt8), ([48, 49, 48, 49] : List UInt8), ([49, 49, 48, 48] : List UInt8), ([49, 49, 49, 49] : List UInt8), ([49, 48, 49, 48] : List UInt8), ([49, 48, 48, 49] : List UInt8)] : List (List UInt8))) 0 rfl (by decide) (by show 8 ≤ lim; decide) ((RepAll.one (T := tyStr) (x := ([48, 48, 48, 48] : List UInt8)) rfl).append ((RepAll.one (T := tyStr) (x := ([48, 48, 49, 49] : List UInt8)) rfl).append ((RepAll.one (T := tyStr) (x := ([48, 49, 49, 48] : List UInt8)) rfl).append ((RepAll.one (T := tyStr) (x := ([48, 49, 48, 49] : List UInt8)) rfl).append ((RepAll.one (T := tyStr) (x := ([49, 49, 48, 48] : List UInt8)) rfl).append ((RepAll.one (T := tyStr) (x := ([49, 49, 49, 49] : List UInt8)) rfl).append ((RepAll.one (T := tyStr) (x := ([49, 48, 49, 48] : List UInt8)) rfl).append (RepAll.one (T := tyStr) (x := ([49, 48, 48, 49] : List UInt8)) rfl)))))))); clear m
 obtain ⟨ay, I, J, az⟩ := ax.freeze 0 rfl
 replace hg5 := hg5.mono I
 replace A := Fz.le.trans A I
 have c : Mem w.heap.size [] w Z [] ay D := J; clear J
 obtain ⟨aA, L⟩ := hp
 refine ix H (T := tyStr) (xs := ([([48, 48, 48, 48] : List UInt8), ([48, 48, 49, 49] : List UInt8), ([48, 49, 49, 48] : List UInt8), ([48, 49, 48, 49] : List UInt8), ([49, 49, 48, 48] : List UInt8), ([49, 49, 49, 49] : List UInt8), ([49, 48, 49, 48] : List UInt8), ([49, 48, 48, 49] : List UInt8)] : List (List UInt8))) az ((w64 ((u1.length : Int) - (u0.length : Int))).tmod 8) aA (k := .i64) (e := 9) (bytes := 16) (nog rfl _) rfl (by kernel_rfl) rfl (by kernel_rfl) (by kernel_rfl) (by kernel_rfl) ?_; intro bg bh aB a bi aC aD aE M; clear H
 have i := L a aC; clear L
 obtain rfl : aB = ([str a] : List Value) := aE
 refine z1 M c 19 aD 0 (str a) rfl ?_; intro bj N; clear M
 refine s1 N 8 (str a) ?_; intro bk O; clear N
 refine nlH (G _ _ ?_); clear G aw
 refine sqB O c [] [] [(9, i6 1)] ?_; intro bl P; clear O
 refine wp_seq ?_
 refine sqB P c [] [] [(21, .bool (decide (u2 > 16)))] ?_; intro aF h; clear P
 refine cd h (t := decide (u2 > 16)) (by kernel_rfl) (fun n => ?_) (fun n => ?_)
 · -- yes
  have aG := i.1 n; clear i
  refine rgB h c [] [] [(9, i6 2)] ?_; intro aH Q; clear h
  refine thn ?_
  have R : Fr 35 [] [⟨1, [], str u1⟩, ⟨8, [], str a⟩, ⟨9, [], i6 2⟩] aH := Q.region (by kernel_rfl) (by kernel_rfl); clear Q
  refine sqQH mixed (by kernel_rfl) c ?_; intro aI S
  refine q1 R 22 (str a) ?_; intro bm U; clear R
  refine q1 U 23 (i6 2) ?_; intro bn V; clear U
  refine q1 V 24 (str u1) ?_; intro bo W; clear V
  refine q1 W 25 (str a) ?_; intro bp o; clear W
  obtain ⟨aJ, aK⟩ := aG
  refine qst o (str (u1 ++ a)) (nog rfl _) rfl (by kernel_rfl) (fun v76 hC => stradd_run o (g := []) rfl (by kernel_rfl) (by kernel_rfl) aJ rfl) ?_; intro bq X; clear o
  obtain ⟨aL, aM⟩ := aK
  refine qcl X (str (sumR 2 (u1 ++ a))) 49 #[i6 2, str (u1 ++ a)] (nog rfl _) rfl (by kernel_rfl) (fun _ => by kernel_rfl) (qfc fun w hC => rsumof_fun 2 (u1 ++ a) aL _ _ hg5 hC.fz) ?_; intro br p; clear X
  obtain ⟨aN, aO⟩ := aM
  refine qst p (str (a ++ (sumR 2 (u1 ++ a)))) (nog rfl _) rfl (by kernel_rfl) (fun v86 hC => stradd_run p (g := []) rfl (by kernel_rfl) (by kernel_rfl) aN rfl) ?_; intro bs Y; clear p
  refine q1 Y 29 (str u1) ?_; intro bu aa; clear Y
  refine q1 aa 30 (str u1) ?_; intro bv ab; clear aa
  refine q1 ab 31 (i6 (u1.length : Int)) ?_; intro bw ac; clear ab
  refine q1 ac 32 (i6 (w64 ((u1.length : Int) - 1))) ?_; intro bx s; clear ac
  obtain ⟨aP, aQ⟩ := aO
  obtain ⟨d, ad⟩ : ∃ q, u1[(w64 ((u1.length : Int) - 1)).toNat]? = some q := ⟨_, List.getElem?_eq_getElem (by omega)⟩; have aR := aQ d ad
  refine qst s (y8 (d.toNat : Int)) (nog rfl _) rfl (by kernel_rfl) (fun v103 hC => stridx_run s (k := .i64) rfl (by kernel_rfl) (by kernel_rfl) (by kernel_rfl) aP.1 ad) ?_; intro bz ae; clear s
  obtain ⟨aS, aT⟩ := aR
  refine qcl ae (str (fixbitsS (a ++ (sumR 2 (u1 ++ a))) (d.toNat : Int))) 86 #[str (a ++ (sumR 2 (u1 ++ a))), y8 (d.toNat : Int)] (nog rfl _) rfl (by kernel_rfl) (fun _ => by kernel_rfl) (qfc fun w hC => fixbits_fun (a ++ (sumR 2 (u1 ++ a))) (d.toNat : Int) aS _ _ hC.fz) ?_; intro bA af; clear ae
  refine q1 af 6 (str (fixbitsS (a ++ (sumR 2 (u1 ++ a))) (d.toNat : Int))) ?_; intro bB aU; clear af
  refine qnl (S _ ?_); clear S aI; intro bC aV; clear c
  refine wp_ret ?_
  refine ra1 aU (str (fixbitsS (a ++ (sumR 2 (u1 ++ a))) (d.toNat : Int))) ?_
  exact ⟨(fixbitsS (a ++ (sumR 2 (u1 ++ a))) (d.toNat : Int)), rfl, aT, aV.below⟩
 · -- no
  have aW := i.2 n; clear i
  refine wp_skip ?_
  refine thn ?_
  have ag : Fr 35 [] [⟨1, [], str u1⟩, ⟨8, [], str a⟩, ⟨9, [], i6 1⟩] aF := h.region (by kernel_rfl) (by kernel_rfl); clear h
  refine sqQH mixed (by kernel_rfl) c ?_; intro aX ah
  refine q1 ag 22 (str a) ?_; intro bD ai; clear ag
  refine q1 ai 23 (i6 1) ?_; intro bE aj; clear ai
  refine q1 aj 24 (str u1) ?_; intro bF ak; clear aj
  refine q1 ak 25 (str a) ?_; intro bG u; clear ak
  obtain ⟨aY, aZ⟩ := aW
  refine qst u (str (u1 ++ a)) (nog rfl _) rfl (by kernel_rfl) (fun v136 hC => stradd_run u (g := []) rfl (by kernel_rfl) (by kernel_rfl) aY rfl) ?_; intro bH al; clear u
  obtain ⟨a1, a3⟩ := aZ
  refine qcl al (str (sumR 1 (u1 ++ a))) 49 #[i6 1, str (u1 ++ a)] (nog rfl _) rfl (by kernel_rfl) (fun _ => by kernel_rfl) (qfc fun w hC => rsumof_fun 1 (u1 ++ a) a1 _ _ hg5 hC.fz) ?_; intro bI v; clear al
  obtain ⟨a4, a5⟩ := a3
  refine qst v (str (a ++ (sumR 1 (u1 ++ a)))) (nog rfl _) rfl (by kernel_rfl) (fun v146 hC => stradd_run v (g := []) rfl (by kernel_rfl) (by kernel_rfl) a4 rfl) ?_; intro bJ am; clear v
  refine q1 am 29 (str u1) ?_; intro bK an; clear am
  refine q1 an 30 (str u1) ?_; intro bL ao; clear an
  refine q1 ao 31 (i6 (u1.length : Int)) ?_; intro bM ap; clear ao
  refine q1 ap 32 (i6 (w64 ((u1.length : Int) - 1))) ?_; intro bN y; clear ap
  obtain ⟨a7, a8⟩ := a5
  obtain ⟨f, aq⟩ : ∃ q, u1[(w64 ((u1.length : Int) - 1)).toNat]? = some q := ⟨_, List.getElem?_eq_getElem (by omega)⟩; have a9 := a8 f aq
  refine qst y (y8 (f.toNat : Int)) (nog rfl _) rfl (by kernel_rfl) (fun v163 hC => stridx_run y (k := .i64) rfl (by kernel_rfl) (by kernel_rfl) (by kernel_rfl) a7.1 aq) ?_; intro bO ar; clear y
  obtain ⟨ba, bb⟩ := a9
  refine qcl ar (str (fixbitsS (a ++ (sumR 1 (u1 ++ a))) (f.toNat : Int))) 86 #[str (a ++ (sumR 1 (u1 ++ a))), y8 (f.toNat : Int)] (nog rfl _) rfl (by kernel_rfl) (fun _ => by kernel_rfl) (qfc fun w hC => fixbits_fun (a ++ (sumR 1 (u1 ++ a))) (f.toNat : Int) ba _ _ hC.fz) ?_; intro bP au; clear ar
  refine q1 au 6 (str (fixbitsS (a ++ (sumR 1 (u1 ++ a))) (f.toNat : Int))) ?_; intro bQ bc; clear au
  refine qnl (ah _ ?_); clear ah aX; intro bR bd; clear c
  refine wp_ret ?_
  refine ra1 bc (str (fixbitsS (a ++ (sumR 1 (u1 ++ a))) (f.toNat : Int))) ?_
  exact ⟨(fixbitsS (a ++ (sumR 1 (u1 ++ a))) (f.toNat : Int)), rfl, bb, bd.below⟩

end Go.Proofs.YtmbdcehmeiiaoaaGreatDoor
set_option linter.unusedVariables false
set_option linter.unusedSimpArgs false
set_option maxRecDepth 100000
set_option maxHeartbeats 0
namespace Go.Proofs.YtmbdcehmeiiaoaaGreatDoor
open Go.Sy Go.RowKit
theorem rfastend_fun (u0 : List UInt8) (u1 : List UInt8) (u2 : Int) (hpre : rfpre u0 u1 u2)  (Z : Fz) (w : World) (hg5 : SlR t8 Z (sm 5) 64 deBruijn64) (hZ : Z.on w) : Calls Tryz.prog 51 #[str u0, str u1, i6 u2] w fun e w' => e = .returned (str (rfastendS u0 u1 u2)) ∧ Below w.heap.size w w' :=
  (rfastend_walk u0 u1 u2  Z w hg5 hZ (rfastend_ok u0 u1 u2 hpre)).mono fun _ _ ⟨r, he, hk, hb⟩ => ⟨by subst hk; exact he, hb⟩

theorem rbitsof_walk (u0 : Frame) (ao1 : Option Addr) (cap2 : Nat) (Z : Fz) (w : World) (hs3 : SlR t8 Z ao1 cap2 u0.Data) (hg5 : SlR t8 Z (sm 5) 64 deBruijn64) (hZ : Z.on w) {K : (List UInt8) → Prop} (hp : rbitsof_vc u0 K) : Calls Tryz.prog 21 #[.agg #[i6 u0.ID, .bool u0.Long, .bool u0.Fast, .bool u0.Remote, i6 u0.Size, .slice ao1 u0.Data.length cap2]] w fun e w' => ∃ r : (List UInt8), e = .returned (str r) ∧ K r ∧ Below w.heap.size w w' := by
 refine enter0 Tryz.func21 rfl rfl (by kernel_rfl) ?_; intro a0 i; have j := Mem.start w Z hZ; have ao := Fz.le.refl Z
 have J := hp (hs3.small); clear hp
 refine sqH ?_; intro L k
 refine nw i j pb [i6 u0.ID, .bool u0.Long, .bool u0.Fast, .bool u0.Remote, i6 u0.Size, .slice ao1 u0.Data.length cap2] 24 ?_; intro b6 a7 ap l c; clear i j
 refine s1 l 2 (str []) ?_; intro aq m; clear l
 refine nlH (k _ _ ?_); clear k L
 refine sqH ?_; intro M n
 refine l2 m c 5 0 0 6 [i6 u0.ID, .bool u0.Long, .bool u0.Fast, .bool u0.Remote, i6 u0.Size, .slice ao1 u0.Data.length cap2] rfl rfl ?_; intro ar o; clear m
 obtain ⟨N, d⟩ := J
 refine fc o c (rhead_fun u0 N ao1 cap2 _ _ hs3 hg5 c.fz) ?_; intro au av p a; clear o c
 refine s1 p 3 (str (fheadS u0)) ?_; intro aw q; clear p
 refine nlH (n _ _ ?_); clear n M
 refine wp_seq ?_
 refine sqB q a [0] [] [(9, .bool (!u0.Fast))] ?_; intro ax b; clear q
 refine cd b (t := !u0.Fast) (by kernel_rfl) (fun g => ?_) (fun g => ?_)
 · -- yes
  have O := d.1 g; clear d
  refine sqH ?_; intro P s
  refine bt b a 2 [] [] [(10, str (fheadS u0)), (11, str (fheadS u0))] ?_; intro ay u; clear b
  obtain ⟨Q, R⟩ := O
  refine fc u a (rsumof_fun 0 (fheadS u0) Q _ _ hg5 a.fz) ?_; intro az aA v h; clear u a
  obtain ⟨S, T⟩ := R
  refine sa v S ?_; intro aB x; clear v
  obtain ⟨U, V⟩ := T
  refine fc x h (putbits_fun ((fheadS u0) ++ (sumR 0 (fheadS u0))) U _ _ h.fz) ?_; intro aC aD y W; clear x h
  obtain ⟨X, Y⟩ := V
  refine sa y X ?_; intro aE z; clear y
  refine s1 z 2 (str ((putbitsS ((fheadS u0) ++ (sumR 0 (fheadS u0)))) ++ ([49, 49, 49, 49, 49, 49, 49, 49, 49, 49] : List UInt8))) ?_; intro aF aa; clear z
  refine nlH (s _ _ ?_); clear s P
  refine wp_ret ?_
  refine thr ?_
  refine ra1 aa (str ((putbitsS ((fheadS u0) ++ (sumR 0 (fheadS u0)))) ++ ([49, 49, 49, 49, 49, 49, 49, 49, 49, 49] : List UInt8))) ?_
  exact ⟨(putbitsS ((fheadS u0) ++ (sumR 0 (fheadS u0)))) ++ ([49, 49, 49, 49, 49, 49, 49, 49, 49, 49] : List UInt8), rfl, Y, W.below⟩
 · -- no
  have ab := d.2 g; clear d
  refine wp_skip ?_
  refine thn ?_
  refine sqH ?_; intro ac A
  refine s1 b 16 (str (fheadS u0)) ?_; intro aG B; clear b
  obtain ⟨ad, ae⟩ := ab
  refine fc B a (putbits_fun (fheadS u0) ad _ _ a.fz) ?_; intro aH aI C f; clear B a
  refine s1 C 4 (str (putbitsS (fheadS u0))) ?_; intro aJ D; clear C
  refine nlH (A _ _ ?_); clear A ac
  refine sqH ?_; intro af E
  refine bt D f 6 [0] [] [(18, str (putbitsS (fheadS u0))), (19, str (fheadS u0)), (20, str (putbitsS (fheadS u0))), (23, i6 (u0.Data.length : Int))] ?_; intro aK F; clear D
  obtain ⟨ag, ah⟩ := ae
  refine fc F f (rfastend_fun (fheadS u0) (putbitsS (fheadS u0)) (u0.Data.length : Int) ag _ _ hg5 f.fz) ?_; intro aL aM G ai; clear F f
  obtain ⟨aj, ak⟩ := ah
  refine sa G aj ?_; intro aN H; clear G
  obtain ⟨al, am⟩ := ak
  refine sa H al ?_; intro aO I; clear H
  refine s1 I 2 (str (((putbitsS (fheadS u0)) ++ (rfastendS (fheadS u0) (putbitsS (fheadS u0)) (u0.Data.length : Int))) ++ ([49, 49, 49, 49, 49, 49, 49, 49, 49, 49] : List UInt8))) ?_; intro aP an; clear I
  refine nlH (E _ _ ?_); clear E af
  refine wp_ret ?_
  refine ra1 an (str (((putbitsS (fheadS u0)) ++ (rfastendS (fheadS u0) (putbitsS (fheadS u0)) (u0.Data.length : Int))) ++ ([49, 49, 49, 49, 49, 49, 49, 49, 49, 49] : List UInt8))) ?_
  exact ⟨((putbitsS (fheadS u0)) ++ (rfastendS (fheadS u0) (putbitsS (fheadS u0)) (u0.Data.length : Int))) ++ ([49, 49, 49, 49, 49, 49, 49, 49, 49, 49] : List UInt8), rfl, am, ai.below⟩

end Go.Proofs.YtmbdcehmeiiaoaaGreatDoor
set_option linter.unusedVariables false
set_option linter.unusedSimpArgs false
namespace Go.Proofs.YtmbdcehmeiiaoaaGreatDoor
open Go.Sy Go.RowKit
theorem rbitsof_fun (u0 : Frame) (hpre : fcheckfr u0 = 0 ∧ ∀ x ∈ u0.Data, 0 ≤ x ∧ x ≤ 255) (ao1 : Option Addr) (cap2 : Nat) (Z : Fz) (w : World) (hs3 : SlR t8 Z ao1 cap2 u0.Data) (hg5 : SlR t8 Z (sm 5) 64 deBruijn64) (hZ : Z.on w) : Calls Tryz.prog 21 #[.agg #[i6 u0.ID, .bool u0.Long, .bool u0.Fast, .bool u0.Remote, i6 u0.Size, .slice ao1 u0.Data.length cap2]] w fun e w' => e = .returned (str (rbitsofS u0)) ∧ Below w.heap.size w w' :=
  (rbitsof_walk u0 ao1 cap2 Z w hs3 hg5 hZ (rbitsof_ok u0 hpre)).mono fun _ _ ⟨r, he, hk, hb⟩ => ⟨by subst hk; exact he, hb⟩

end Go.Proofs.YtmbdcehmeiiaoaaGreatDoor
set_option linter.unusedVariables false
set_option linter.unusedSimpArgs false
set_option maxRecDepth 100000
set_option maxHeartbeats 0
namespace Go.Proofs.YtmbdcehmeiiaoaaGreatDoor
open Go.Sy Go.RowKit
theorem smin_walk (u0 : List (List UInt8)) (ao1 : Option Addr) (cap2 : Nat) (Z : Fz) (w : World) (hs3 : SlR tyStr Z ao1 cap2 u0) (hZ : Z.on w) {K : (List UInt8) → Prop} (hp : smin_vc u0 K) : Calls Tryz.prog 26 #[.slice ao1 u0.length cap2] w fun e w' => ∃ r : (List UInt8), e = .returned (str r) ∧ K r ∧ Below w.heap.size w w' := by
 refine enter0 Tryz.func26 rfl rfl (by kernel_rfl) ?_; intro a0 q; have f := Mem.start w Z hZ; have av := Fz.le.refl Z
 have j := hp (hs3.small); clear hp
 refine sqB q f [] [] [] ?_; intro a6 u; clear q
 refine wp_seq ?_
 refine sqB u f [] [] [(7, .bool (decide ((u0.length : Int) < 1)))] ?_; intro aw m; clear u
 refine cd m (t := decide ((u0.length : Int) < 1)) (by kernel_rfl) (fun n => ?_) (fun n => ?_)
 · -- yes
  have R := j.1 n; clear j
  exact False.elim R
 · -- no
  have S := j.2 n; clear j
  refine wp_skip ?_
  refine thn ?_
  refine sqH ?_; intro U v
  refine s1 m 9 (.slice ao1 u0.length cap2) ?_; intro ax x; clear m
  obtain ⟨V, y⟩ := S
  refine ix x (T := tyStr) (xs := u0) hs3 (0 : Int) V (k := .i64) (e := 9) (bytes := 16) (nog rfl _) rfl (by kernel_rfl) rfl (by kernel_rfl) (by kernel_rfl) (by kernel_rfl) ?_; intro ay az W c aA X Y aa z; clear x
  have ab := y c X; clear y
  obtain rfl : W = ([str c] : List Value) := aa
  refine z1 z f 11 Y 0 (str c) rfl ?_; intro aB A; clear z
  refine s1 A 3 (str c) ?_; intro aC B; clear A
  refine nlH (v _ _ ?_); clear v U
  refine wp_seq ?_
  refine sqB B f [] [] [(4, i6 1)] ?_; intro C D; clear B
  refine wp_block ?_
  have E : Fr 25 [] [⟨0, [], .slice ao1 u0.length cap2⟩, ⟨3, [], str c⟩, ⟨4, [], i6 1⟩] C := D.region (by kernel_rfl) (by kernel_rfl); clear D
  have F : Fr 25 [] [⟨0, [], .slice ao1 u0.length cap2⟩, ⟨3, [], str c⟩, ⟨4, [], i6 1⟩] C := E.region (by kernel_rfl) (by kernel_rfl); clear E
  obtain ⟨ac, ad, ae, af⟩ := ab
  refine lp (ι := (List UInt8) × Int) (fun s => [⟨0, [], .slice ao1 u0.length cap2⟩, ⟨3, [], str s.1⟩, ⟨4, [], i6 s.2⟩]) (fun s => []) (fun s => Z) (fun s => ac s.1 s.2) (fun s => ad s.1 s.2) ⟨c, 1⟩ ae (by exact F.region (by kernel_rfl) (by kernel_rfl)) (by exact f) ?_
  rintro ⟨a, b⟩ ag ah ai G H
  have I : Fr 25 [] [⟨0, [], .slice ao1 u0.length cap2⟩, ⟨3, [], str a⟩, ⟨4, [], i6 b⟩] ah := G; clear G F
  have d : Mem w.heap.size [] w Z [] Z ai := H; clear H f
  have l := af a b ag
  refine wp_seq ?_
  refine sqB I d [] [] [(15, .bool (decide (b < (u0.length : Int))))] ?_; intro aD i; clear I
  refine cd i (t := decide (b < (u0.length : Int))) (by kernel_rfl) (fun o => ?_) (fun o => ?_)
  · -- yes
   have aj := l.1 o; clear l
   refine wp_skip ?_
   refine thn ?_
   refine wp_seq ?_
   refine wp_block ?_
   refine rgH ?_; intro ak J
   refine bt i d 3 [] [] [(18, str a), (19, .slice ao1 u0.length cap2), (20, i6 b)] ?_; intro aE L; clear i
   obtain ⟨al, M⟩ := aj
   refine ix L (T := tyStr) (xs := u0) hs3 b al (k := .i64) (e := 9) (bytes := 16) (nog rfl _) rfl (by kernel_rfl) rfl (by kernel_rfl) (by kernel_rfl) (by kernel_rfl) ?_; intro aF aG am h aH an ao ap N; clear L
   have O := M h an; clear M
   obtain rfl : am = ([str h] : List Value) := ap
   refine z1 N d 22 ao 0 (str h) rfl ?_; intro aI p; clear N
   refine st p (str (smin2 a h)) (nog rfl _) rfl (by kernel_rfl) (strmin_run p (g := []) rfl (by kernel_rfl) (by kernel_rfl) rfl) ?_; intro aJ P; clear p
   refine s1 P 3 (str (smin2 a h)) ?_; intro aK Q; clear P
   refine nlH (J _ _ ?_); clear J ak
   refine ibn ?_
   refine thn ?_
   refine rgB Q d [] [] [(4, i6 (w64 (b + 1)))] ?_; intro aL aq; clear Q
   refine rd ?_
   exact ⟨⟨smin2 a h, w64 (b + 1)⟩, O.1, O.2, (aq.region (by kernel_rfl) (by kernel_rfl)).anyβ _ (by kernel_rfl), d.keep (List.Sublist.slnil)⟩
  · -- no
   have ar := l.2 o; clear l
   refine wp_exit ?_
   refine thx ?_
   refine thx ?_
   refine ibx ?_
   refine thn ?_
   refine sqB i d [] [] [(2, str a)] ?_; intro aM au; clear i
   refine wp_ret ?_
   refine ra1 au (str a) ?_
   exact ⟨a, rfl, ar, d.below⟩

end Go.Proofs.YtmbdcehmeiiaoaaGreatDoor
set_option linter.unusedVariables false
set_option linter.unusedSimpArgs false
set_option maxRecDepth 100000
set_option maxHeartbeats 0
namespace Go.Proofs.YtmbdcehmeiiaoaaGreatDoor
open Go.Sy Go.RowKit
abbrev e61D (X : FReader) (A0 : Option Addr) (C0 : Nat) : List Value := [str X.Reader.Row, i6 X.Reader.At, i6 X.Reader.Code, y8 X.Reader.c.last, i6 X.Reader.c.n, i6 X.f.ID, .bool X.f.Long, .bool X.f.Fast, .bool X.f.Remote, i6 X.f.Size, .slice A0 X.f.Data.length C0]
theorem rfail_fun (u0 : FReader) (u1 : Int) (b1 : Nat) (ao2 : Option Addr) (cap3 : Nat) (B : Nat) (w0 : World) (Z0 : Fz) (Rr : List Res) (Z : Fz) (w : World) (hs4 : SlR t8 Z ao2 cap3 u0.f.Data) (hM0 : Mem B [] w0 Z0 ((.row b1 [str u0.Reader.Row, i6 u0.Reader.At, i6 u0.Reader.Code, y8 u0.Reader.c.last, i6 u0.Reader.c.n, i6 u0.f.ID, .bool u0.f.Long, .bool u0.f.Fast, .bool u0.f.Remote, i6 u0.f.Size, .slice ao2 u0.f.Data.length cap3] 61) :: Rr) Z w) (hZ : Z.on w) : Calls Tryz.prog 34 #[pt b1 0, i6 u1] w fun e w' => ∃ (ao1001 : Option Addr) (cap1002 : Nat) (Z' : Fz), e = .returned (.tuple #[]) ∧ Fz.le Z Z' ∧ SlR t8 Z' ao1001 cap1002 (rfailS u0 u1).f.Data ∧ Mem B [] w0 Z0 ((.row b1 [str (rfailS u0 u1).Reader.Row, i6 (rfailS u0 u1).Reader.At, i6 (rfailS u0 u1).Reader.Code, y8 (rfailS u0 u1).Reader.c.last, i6 (rfailS u0 u1).Reader.c.n, i6 (rfailS u0 u1).f.ID, .bool (rfailS u0 u1).f.Long, .bool (rfailS u0 u1).f.Fast, .bool (rfailS u0 u1).f.Remote, i6 (rfailS u0 u1).f.Size, .slice ao1001 (rfailS u0 u1).f.Data.length cap1002] 61) :: Rr) Z' w' :=
  (rfail_walk u0 u1 b1 ao2 cap3 B w0 Z0 Rr Z w hs4 hM0 hZ (rfail_ok u0 u1)).mono fun _ _ ⟨r, h0, h1, h2, he, hk, f0, f1, hm⟩ => by subst hk; exact ⟨h0, h1, h2, he, f0, f1, hm⟩
theorem rfail_funK (u0 : FReader) (u1 : Int) (b1 : Nat) (ao2 : Option Addr) (cap3 : Nat) (B : Nat) (w0 : World) (Z0 : Fz) (Rr : List Res) (Z : Fz) (w : World) (hs4 : SlR t8 Z ao2 cap3 u0.f.Data) (hM0 : Mem B [] w0 Z0 ((.row b1 [str u0.Reader.Row, i6 u0.Reader.At, i6 u0.Reader.Code, y8 u0.Reader.c.last, i6 u0.Reader.c.n, i6 u0.f.ID, .bool u0.f.Long, .bool u0.f.Fast, .bool u0.f.Remote, i6 u0.f.Size, .slice ao2 u0.f.Data.length cap3] 61) :: Rr) Z w) (hZ : Z.on w) : Calls Tryz.prog 34 #[pt b1 0, i6 u1] w fun e w' => ∃ (ao1001 : Option Addr) (cap1002 : Nat) (Z' : Fz), e = .returned (.tuple #[]) ∧ Fz.le Z Z' ∧ SlR t8 Z' ao1001 cap1002 u0.f.Data ∧ Mem B [] w0 Z0 ((.row b1 [str (rfailS u0 u1).Reader.Row, i6 (rfailS u0 u1).Reader.At, i6 (rfailS u0 u1).Reader.Code, y8 (rfailS u0 u1).Reader.c.last, i6 (rfailS u0 u1).Reader.c.n, i6 u0.f.ID, .bool u0.f.Long, .bool u0.f.Fast, .bool u0.f.Remote, i6 u0.f.Size, .slice ao1001 u0.f.Data.length cap1002] 61) :: Rr) Z' w' :=
  (rfail_walk u0 u1 b1 ao2 cap3 B w0 Z0 Rr Z w hs4 hM0 hZ (rfail_ok u0 u1)).mono fun _ _ ⟨r, h0, h1, h2, he, hk, f0, f1, hm⟩ => by subst hk; have hkp : (rfailS u0 u1).f = u0.f := rfailS_f u0 u1; (try simp only [hkp] at *); exact ⟨h0, h1, h2, he, f0, f1, hm⟩

theorem rwant_walk (u0 : FReader) (u1 : List UInt8) (b1 : Nat) (ao2 : Option Addr) (cap3 : Nat) (B : Nat) (w0 : World) (Z0 : Fz) (Rr : List Res) (Z : Fz) (w : World) (hs4 : SlR t8 Z ao2 cap3 u0.f.Data) (hM0 : Mem B [] w0 Z0 ((.row b1 [str u0.Reader.Row, i6 u0.Reader.At, i6 u0.Reader.Code, y8 u0.Reader.c.last, i6 u0.Reader.c.n, i6 u0.f.ID, .bool u0.f.Long, .bool u0.f.Fast, .bool u0.f.Remote, i6 u0.f.Size, .slice ao2 u0.f.Data.length cap3] 61) :: Rr) Z w) (hZ : Z.on w) {K : FReader → Prop} (hp : rwant_vc u0 u1 K) : Calls Tryz.prog 66 #[pt b1 0, str u1] w fun e w' => ∃ (r : FReader) (ao1001 : Option Addr) (cap1002 : Nat) (Z' : Fz), e = .returned (.tuple #[]) ∧ K r ∧ Fz.le Z Z' ∧ SlR t8 Z' ao1001 cap1002 r.f.Data ∧ Mem B [] w0 Z0 ((.row b1 [str r.Reader.Row, i6 r.Reader.At, i6 r.Reader.Code, y8 r.Reader.c.last, i6 r.Reader.c.n, i6 r.f.ID, .bool r.f.Long, .bool r.f.Fast, .bool r.f.Remote, i6 r.f.Size, .slice ao1001 r.f.Data.length cap1002] 61) :: Rr) Z' w' := by
 refine enter0 Tryz.func66 rfl rfl (by kernel_rfl) ?_; intro a0 q; have g := Fz.le.refl Z
 have Q := hp (hs4.small); clear hp
 refine sqH ?_; intro R s
 refine bt q hM0 3 [] [] [(7, pt b1 0)] ?_; intro ac u; clear q
 obtain ⟨S, x⟩ := Q
 refine ck u 36 #[pt b1 0, i6 1] ?_
 obtain ⟨a, T, y⟩ := hxq x; clear x
 have d := rtakeF_fun u0 1 S b1 ao2 cap3 _ _ _ _ _ _ hs4 hM0 hM0.fz; rw [T] at d; refine d.mono ?_; clear d; rintro _ U ⟨l, m, z, rfl, A, h, hm⟩; refine ⟨_, rfl, ?_⟩; intro ad C; have D := hm; clear hm hM0 u
 replace hs4 := hs4.mono A
 replace g := Fz.le.trans g A
 have i : Mem B [] w0 Z0 ((.row b1 (e61D a.2 l m) 61) :: Rr) z U := D; clear D
 have k := y (h.small); clear y
 refine s1 C 4 (str a.1) ?_; intro ae E; clear C
 refine nlH (s _ _ ?_); clear s R
 refine sqB E i [0] [40] [(19, .bool ((a.2.Reader.Code == 0) && (a.1 != u1)))] ?_; intro af j; clear E
 refine cd j (t := (a.2.Reader.Code == 0) && (a.1 != u1)) (by kernel_rfl) (fun o => ?_) (fun o => ?_)
 · -- yes
  have F := k.1 o; clear k
  refine rgH ?_; intro V G
  refine s1 j 20 (pt b1 0) ?_; intro ag H; clear j
  refine ck H 34 #[pt b1 0, i6 4] ?_
  obtain ⟨b, W, I⟩ := hxq F; clear F
  have d := rfail_fun a.2 4 b1 l m _ _ _ _ _ _ h i i.fz; rw [W] at d; refine d.mono ?_; clear d; rintro _ X ⟨J, L, M, rfl, p, N, hm⟩; refine ⟨_, rfl, ?_⟩; intro ah O; have P := hm; clear hm i H
  replace hs4 := hs4.mono p
  replace h := h.mono p
  replace g := Fz.le.trans g p
  have Y : Mem B [] w0 Z0 ((.row b1 (e61D b J L) 61) :: Rr) M X := P; clear P
  have aa := I (N.small); clear I
  refine nlH (G _ _ ?_); clear G V
  refine rN (fn := Tryz.f66) (v := .tuple #[]) O (re0 O (fn := Tryz.f66) rfl) ?_
  exact ⟨b, J, L, M, rfl, aa, g, N, Y.keep (List.Sublist.cons_cons _ (List.Sublist.refl _))⟩
 · -- no
  have ab := k.2 o; clear k
  refine wp_skip ?_
  refine rN (fn := Tryz.f66) (v := .tuple #[]) j (re0 j (fn := Tryz.f66) rfl) ?_
  exact ⟨a.2, l, m, z, rfl, ab, g, h, i.keep (List.Sublist.cons_cons _ (List.Sublist.refl _))⟩

theorem rnumber_walk (u0 : FReader) (u1 : Int) (b1 : Nat) (ao2 : Option Addr) (cap3 : Nat) (B : Nat) (w0 : World) (Z0 : Fz) (Rr : List Res) (Z : Fz) (w : World) (hs4 : SlR t8 Z ao2 cap3 u0.f.Data) (hM0 : Mem B [] w0 Z0 ((.row b1 [str u0.Reader.Row, i6 u0.Reader.At, i6 u0.Reader.Code, y8 u0.Reader.c.last, i6 u0.Reader.c.n, i6 u0.f.ID, .bool u0.f.Long, .bool u0.f.Fast, .bool u0.f.Remote, i6 u0.f.Size, .slice ao2 u0.f.Data.length cap3] 61) :: Rr) Z w) (hZ : Z.on w) {K : (Int × FReader) → Prop} (hp : rnumber_vc u0 u1 K) : Calls Tryz.prog 33 #[pt b1 0, i6 u1] w fun e w' => ∃ (r : Int × FReader) (ao1001 : Option Addr) (cap1002 : Nat) (Z' : Fz), e = .returned (i6 r.1) ∧ K r ∧ Fz.le Z Z' ∧ SlR t8 Z' ao1001 cap1002 r.2.f.Data ∧ Mem B [] w0 Z0 ((.row b1 [str r.2.Reader.Row, i6 r.2.Reader.At, i6 r.2.Reader.Code, y8 r.2.Reader.c.last, i6 r.2.Reader.c.n, i6 r.2.f.ID, .bool r.2.f.Long, .bool r.2.f.Fast, .bool r.2.f.Remote, i6 r.2.f.Size, .slice ao1001 r.2.f.Data.length cap1002] 61) :: Rr) Z' w' := by
 refine enter0 Tryz.func33 rfl rfl (by kernel_rfl) ?_; intro U p; have g := Fz.le.refl Z
 have H := hp (hs4.small); clear hp
 refine sqB p hM0 [] [] [] ?_; intro V q; clear p
 refine sqH ?_; intro I s
 refine bt q hM0 4 [] [] [(8, pt b1 0), (9, i6 u1)] ?_; intro W u; clear q
 obtain ⟨J, v⟩ := H
 refine ck u 36 #[pt b1 0, i6 u1] ?_
 obtain ⟨a, L, x⟩ := hxq v; clear v
 have i := rtakeF_fun u0 u1 J b1 ao2 cap3 _ _ _ _ _ _ hs4 hM0 hM0.fz; rw [L] at i; refine i.mono ?_; clear i; rintro _ M ⟨j, k, l, rfl, y, m, hm⟩; refine ⟨_, rfl, ?_⟩; intro X z; have A := hm; clear hm hM0 u
 replace hs4 := hs4.mono y
 replace g := Fz.le.trans g y
 have b : Mem B [] w0 Z0 ((.row b1 (e61D a.2 j k) 61) :: Rr) l M := A; clear A
 have h := x (m.small); clear x
 refine s1 z 5 (str a.1) ?_; intro Y C; clear z
 refine nlH (s _ _ ?_); clear s I
 refine wp_seq ?_
 refine sqB C b [0] [] [(16, .bool (a.2.Reader.Code != 0))] ?_; intro aa d; clear C
 refine cd d (t := a.2.Reader.Code != 0) (by kernel_rfl) (fun o => ?_) (fun o => ?_)
 · -- yes
  have N := h.1 o; clear h
  refine sqB d b [] [] [(4, i6 0)] ?_; intro ab O; clear d
  refine wp_ret ?_
  refine thr ?_
  refine ra1 O (i6 0) ?_
  exact ⟨(0, a.2), j, k, l, rfl, N, g, m, b.keep (List.Sublist.cons_cons _ (List.Sublist.refl _))⟩
 · -- no
  have P := h.2 o; clear h
  refine wp_skip ?_
  refine thn ?_
  refine sqH ?_; intro Q D
  refine s1 d 17 (str a.1) ?_; intro ac E; clear d
  obtain ⟨R, S⟩ := P
  refine fc E b (bread_fun a.1 R _ _ b.fz) ?_; intro ad ae F G; clear E b
  refine bt F G 2 [] [] [(4, i6 (w64 (breadS a.1)))] ?_; intro af T; clear F
  refine nlH (D _ _ ?_); clear D Q
  refine wp_ret ?_
  refine ra1 T (i6 (w64 (breadS a.1))) ?_
  exact ⟨(w64 (breadS a.1), a.2), j, k, l, rfl, S, g, m, G.keep (List.Sublist.cons_cons _ (List.Sublist.refl _))⟩

end Go.Proofs.YtmbdcehmeiiaoaaGreatDoor
set_option linter.unusedVariables false
set_option linter.unusedSimpArgs false
namespace Go.Proofs.YtmbdcehmeiiaoaaGreatDoor
open Go.Sy Go.RowKit
theorem rwant_fun (u0 : FReader) (u1 : List UInt8) (hpre : Rok u0.Reader) (b1 : Nat) (ao2 : Option Addr) (cap3 : Nat) (B : Nat) (w0 : World) (Z0 : Fz) (Rr : List Res) (Z : Fz) (w : World) (hs4 : SlR t8 Z ao2 cap3 u0.f.Data) (hM0 : Mem B [] w0 Z0 ((.row b1 [str u0.Reader.Row, i6 u0.Reader.At, i6 u0.Reader.Code, y8 u0.Reader.c.last, i6 u0.Reader.c.n, i6 u0.f.ID, .bool u0.f.Long, .bool u0.f.Fast, .bool u0.f.Remote, i6 u0.f.Size, .slice ao2 u0.f.Data.length cap3] 61) :: Rr) Z w) (hZ : Z.on w) : Calls Tryz.prog 66 #[pt b1 0, str u1] w fun e w' => ∃ (ao1001 : Option Addr) (cap1002 : Nat) (Z' : Fz), e = .returned (.tuple #[]) ∧ Fz.le Z Z' ∧ SlR t8 Z' ao1001 cap1002 (rwantS u0 u1).f.Data ∧ Mem B [] w0 Z0 ((.row b1 [str (rwantS u0 u1).Reader.Row, i6 (rwantS u0 u1).Reader.At, i6 (rwantS u0 u1).Reader.Code, y8 (rwantS u0 u1).Reader.c.last, i6 (rwantS u0 u1).Reader.c.n, i6 (rwantS u0 u1).f.ID, .bool (rwantS u0 u1).f.Long, .bool (rwantS u0 u1).f.Fast, .bool (rwantS u0 u1).f.Remote, i6 (rwantS u0 u1).f.Size, .slice ao1001 (rwantS u0 u1).f.Data.length cap1002] 61) :: Rr) Z' w' :=
  (rwant_walk u0 u1 b1 ao2 cap3 B w0 Z0 Rr Z w hs4 hM0 hZ (rwant_ok u0 u1 hpre)).mono fun _ _ ⟨r, h0, h1, h2, he, hk, f0, f1, hm⟩ => by subst hk; exact ⟨h0, h1, h2, he, f0, f1, hm⟩
theorem rwant_funK (u0 : FReader) (u1 : List UInt8) (hpre : Rok u0.Reader) (b1 : Nat) (ao2 : Option Addr) (cap3 : Nat) (B : Nat) (w0 : World) (Z0 : Fz) (Rr : List Res) (Z : Fz) (w : World) (hs4 : SlR t8 Z ao2 cap3 u0.f.Data) (hM0 : Mem B [] w0 Z0 ((.row b1 [str u0.Reader.Row, i6 u0.Reader.At, i6 u0.Reader.Code, y8 u0.Reader.c.last, i6 u0.Reader.c.n, i6 u0.f.ID, .bool u0.f.Long, .bool u0.f.Fast, .bool u0.f.Remote, i6 u0.f.Size, .slice ao2 u0.f.Data.length cap3] 61) :: Rr) Z w) (hZ : Z.on w) : Calls Tryz.prog 66 #[pt b1 0, str u1] w fun e w' => ∃ (ao1001 : Option Addr) (cap1002 : Nat) (Z' : Fz), e = .returned (.tuple #[]) ∧ Fz.le Z Z' ∧ SlR t8 Z' ao1001 cap1002 u0.f.Data ∧ Mem B [] w0 Z0 ((.row b1 [str (rwantS u0 u1).Reader.Row, i6 (rwantS u0 u1).Reader.At, i6 (rwantS u0 u1).Reader.Code, y8 (rwantS u0 u1).Reader.c.last, i6 (rwantS u0 u1).Reader.c.n, i6 u0.f.ID, .bool u0.f.Long, .bool u0.f.Fast, .bool u0.f.Remote, i6 u0.f.Size, .slice ao1001 u0.f.Data.length cap1002] 61) :: Rr) Z' w' :=
  (rwant_walk u0 u1 b1 ao2 cap3 B w0 Z0 Rr Z w hs4 hM0 hZ (rwant_ok u0 u1 hpre)).mono fun _ _ ⟨r, h0, h1, h2, he, hk, f0, f1, hm⟩ => by subst hk; have hkp : (rwantS u0 u1).f = u0.f := rwantS_f u0 u1; (try simp only [hkp] at *); exact ⟨h0, h1, h2, he, f0, f1, hm⟩

theorem rnumber_fun (u0 : FReader) (u1 : Int) (hpre : Rok u0.Reader ∧ 0 ≤ u1 ∧ u1 ≤ 62) (b1 : Nat) (ao2 : Option Addr) (cap3 : Nat) (B : Nat) (w0 : World) (Z0 : Fz) (Rr : List Res) (Z : Fz) (w : World) (hs4 : SlR t8 Z ao2 cap3 u0.f.Data) (hM0 : Mem B [] w0 Z0 ((.row b1 [str u0.Reader.Row, i6 u0.Reader.At, i6 u0.Reader.Code, y8 u0.Reader.c.last, i6 u0.Reader.c.n, i6 u0.f.ID, .bool u0.f.Long, .bool u0.f.Fast, .bool u0.f.Remote, i6 u0.f.Size, .slice ao2 u0.f.Data.length cap3] 61) :: Rr) Z w) (hZ : Z.on w) : Calls Tryz.prog 33 #[pt b1 0, i6 u1] w fun e w' => ∃ (ao1001 : Option Addr) (cap1002 : Nat) (Z' : Fz), e = .returned (i6 (rnumberS u0 u1).1) ∧ Fz.le Z Z' ∧ SlR t8 Z' ao1001 cap1002 (rnumberS u0 u1).2.f.Data ∧ Mem B [] w0 Z0 ((.row b1 [str (rnumberS u0 u1).2.Reader.Row, i6 (rnumberS u0 u1).2.Reader.At, i6 (rnumberS u0 u1).2.Reader.Code, y8 (rnumberS u0 u1).2.Reader.c.last, i6 (rnumberS u0 u1).2.Reader.c.n, i6 (rnumberS u0 u1).2.f.ID, .bool (rnumberS u0 u1).2.f.Long, .bool (rnumberS u0 u1).2.f.Fast, .bool (rnumberS u0 u1).2.f.Remote, i6 (rnumberS u0 u1).2.f.Size, .slice ao1001 (rnumberS u0 u1).2.f.Data.length cap1002] 61) :: Rr) Z' w' :=
  (rnumber_walk u0 u1 b1 ao2 cap3 B w0 Z0 Rr Z w hs4 hM0 hZ (rnumber_ok u0 u1 hpre)).mono fun _ _ ⟨r, h0, h1, h2, he, hk, f0, f1, hm⟩ => by subst hk; exact ⟨h0, h1, h2, he, f0, f1, hm⟩
theorem rnumber_funK (u0 : FReader) (u1 : Int) (hpre : Rok u0.Reader ∧ 0 ≤ u1 ∧ u1 ≤ 62) (b1 : Nat) (ao2 : Option Addr) (cap3 : Nat) (B : Nat) (w0 : World) (Z0 : Fz) (Rr : List Res) (Z : Fz) (w : World) (hs4 : SlR t8 Z ao2 cap3 u0.f.Data) (hM0 : Mem B [] w0 Z0 ((.row b1 [str u0.Reader.Row, i6 u0.Reader.At, i6 u0.Reader.Code, y8 u0.Reader.c.last, i6 u0.Reader.c.n, i6 u0.f.ID, .bool u0.f.Long, .bool u0.f.Fast, .bool u0.f.Remote, i6 u0.f.Size, .slice ao2 u0.f.Data.length cap3] 61) :: Rr) Z w) (hZ : Z.on w) : Calls Tryz.prog 33 #[pt b1 0, i6 u1] w fun e w' => ∃ (ao1001 : Option Addr) (cap1002 : Nat) (Z' : Fz), e = .returned (i6 (rnumberS u0 u1).1) ∧ Fz.le Z Z' ∧ SlR t8 Z' ao1001 cap1002 u0.f.Data ∧ Mem B [] w0 Z0 ((.row b1 [str (rnumberS u0 u1).2.Reader.Row, i6 (rnumberS u0 u1).2.Reader.At, i6 (rnumberS u0 u1).2.Reader.Code, y8 (rnumberS u0 u1).2.Reader.c.last, i6 (rnumberS u0 u1).2.Reader.c.n, i6 u0.f.ID, .bool u0.f.Long, .bool u0.f.Fast, .bool u0.f.Remote, i6 u0.f.Size, .slice ao1001 u0.f.Data.length cap1002] 61) :: Rr) Z' w' :=
  (rnumber_walk u0 u1 b1 ao2 cap3 B w0 Z0 Rr Z w hs4 hM0 hZ (rnumber_ok u0 u1 hpre)).mono fun _ _ ⟨r, h0, h1, h2, he, hk, f0, f1, hm⟩ => by subst hk; have hkp : (rnumberS u0 u1).2.f = u0.f := rnumberS_f u0 u1; (try simp only [hkp] at *); exact ⟨h0, h1, h2, he, f0, f1, hm⟩

theorem fhead_fun (u0 : Frame) (hpre : fheadpre u0) (ao1 : Option Addr) (cap2 : Nat) (Z : Fz) (w : World) (hs3 : SlR t8 Z ao1 cap2 u0.Data) (hZ : Z.on w) : Calls Tryz.prog 40 #[.agg #[i6 u0.ID, .bool u0.Long, .bool u0.Fast, .bool u0.Remote, i6 u0.Size, .slice ao1 u0.Data.length cap2]] w fun e w' => e = .returned (str (fheadS u0)) ∧ Below w.heap.size w w' :=
  (fhead_walk u0 ao1 cap2 Z w hs3 hZ (fhead_ok u0 hpre)).mono fun _ _ ⟨r, he, hk, hb⟩ => ⟨by subst hk; exact he, hb⟩

theorem fName_fun (u0 : Frame) (ao1 : Option Addr) (cap2 : Nat) (Z : Fz) (w : World) (hs3 : SlR t8 Z ao1 cap2 u0.Data) (hZ : Z.on w) : Calls Tryz.prog 15 #[.agg #[i6 u0.ID, .bool u0.Long, .bool u0.Fast, .bool u0.Remote, i6 u0.Size, .slice ao1 u0.Data.length cap2]] w fun e w' => e = .returned (.tuple #[str (fNameS u0).1, i6 (fNameS u0).2]) ∧ Below w.heap.size w w' :=
  (fName_walk u0 ao1 cap2 Z w hs3 hZ (fName_ok u0)).mono fun _ _ ⟨r, he, hk, hb⟩ => ⟨by subst hk; exact he, hb⟩

end Go.Proofs.YtmbdcehmeiiaoaaGreatDoor
set_option linter.unusedVariables false
set_option linter.unusedSimpArgs false
set_option maxRecDepth 100000
set_option maxHeartbeats 0
namespace Go.Proofs.YtmbdcehmeiiaoaaGreatDoor
open Go.Sy Go.RowKit
abbrev e24EfBits (X : Frame) (A0 : Option Addr) (C0 : Nat) : List Value := [i6 X.ID, .bool X.Long, .bool X.Fast, .bool X.Remote, i6 X.Size, .slice A0 X.Data.length C0]
theorem fBits_walk (u0 : Frame) (ao1 : Option Addr) (cap2 : Nat) (Z : Fz) (w : World) (hs3 : SlR t8 Z ao1 cap2 u0.Data) (hZ : Z.on w) {K : ((List UInt8) × Int) → Prop} (hp : fBits_vc u0 K) : Calls Tryz.prog 16 #[.agg #[i6 u0.ID, .bool u0.Long, .bool u0.Fast, .bool u0.Remote, i6 u0.Size, .slice ao1 u0.Data.length cap2]] w fun e w' => ∃ r : (List UInt8) × Int, e = .returned (.tuple #[str r.1, i6 r.2]) ∧ K r ∧ Below w.heap.size w w' := by
 refine enter0 Tryz.func16 rfl rfl (by kernel_rfl) ?_; intro a0 v; have x := Mem.start w Z hZ; have be := Fz.le.refl Z
 have k := hp (hs3.small); clear hp
 refine sqH ?_; intro aB y
 refine nw v x pb (e24EfBits u0 ao1 cap2) 24 ?_; intro b6 a7 bf z f; clear v x
 refine bt z f 2 [] [] [] ?_; intro bg A; clear z
 refine nlH (y _ _ ?_); clear y aB
 refine wp_seq ?_
 refine sqH ?_; intro aC B
 refine l2 A f 17 0 0 6 (e24EfBits u0 ao1 cap2) rfl rfl ?_; intro bh C; clear A
 refine fc C f (fcheckfr_fun u0 ao1 cap2 _ _ hs3 f.fz) ?_; intro bi bj D b; clear C f
 refine s1 D 4 (i6 (fcheckfr u0)) ?_; intro bk E; clear D
 refine nlH (B _ _ ?_); clear B aC
 refine sqB E b [] [] [(20, .bool ((fcheckfr u0) != 0))] ?_; intro bl g; clear E
 refine cd g (t := (fcheckfr u0) != 0) (by kernel_rfl) (fun p => ?_) (fun p => ?_)
 · -- yes
  have aD := k.1 p; clear k
  refine sqB g b [] [] [(2, str []), (3, i6 (fcheckfr u0))] ?_; intro bm aE; clear g
  refine wp_ret ?_
  refine thr ?_
  refine ra2 aE (.tuple #[str [], i6 (fcheckfr u0)]) ?_
  exact ⟨([], (fcheckfr u0)), rfl, aD, b.below⟩
 · -- no
  have aF := k.2 p; clear k
  refine wp_skip ?_
  refine thn ?_
  refine sqH ?_; intro aG F
  refine l2 g b 22 0 0 6 (e24EfBits u0 ao1 cap2) rfl rfl ?_; intro bn G; clear g
  obtain ⟨aH, l⟩ := aF
  refine fc G b (fhead_fun u0 aH ao1 cap2 _ _ hs3 b.fz) ?_; intro bo bp H c; clear G b
  refine s1 H 5 (str (fheadS u0)) ?_; intro bq I; clear H
  refine nlH (F _ _ ?_); clear F aG
  refine wp_seq ?_
  refine sqB I c [0] [] [(26, .bool (!u0.Fast))] ?_; intro br h; clear I
  refine cd h (t := !u0.Fast) (by kernel_rfl) (fun s => ?_) (fun s => ?_)
  · -- yes
   have aI := l.1 s; clear l
   refine sqH ?_; intro aJ J
   refine s1 h 28 (str (fheadS u0)) ?_; intro bs L; clear h
   refine fc L c (csum_fun 0 (fheadS u0) _ _ c.fz) ?_; intro bu bv M i; clear L c
   refine bt M i 5 [] [] [(6, str (csumS 0 (fheadS u0)).1)] ?_; intro bw N; clear M
   refine nlH (J _ _ ?_); clear J aJ
   refine sqH ?_; intro aK O
   refine bt N i 2 [] [] [(33, str (fheadS u0)), (34, str (csumS 0 (fheadS u0)).1)] ?_; intro bx P; clear N
   obtain ⟨aL, aM⟩ := aI
   refine sa P aL ?_; intro bz Q; clear P
   refine fc Q i (sput_fun ((fheadS u0) ++ (csumS 0 (fheadS u0)).1) _ _ i.fz) ?_; intro bA bB R u; clear Q i
   refine bt R u 5 [] [] [(8, str (sputS ((fheadS u0) ++ (csumS 0 (fheadS u0)).1)).1)] ?_; intro bC S; clear R
   refine nlH (O _ _ ?_); clear O aK
   refine sqH ?_; intro aN T
   refine s1 S 39 (str (sputS ((fheadS u0) ++ (csumS 0 (fheadS u0)).1)).1) ?_; intro bD U; clear S
   obtain ⟨aO, aP⟩ := aM
   refine sa U aO ?_; intro bE V; clear U
   refine bt V u 2 [] [] [(2, str ((sputS ((fheadS u0) ++ (csumS 0 (fheadS u0)).1)).1 ++ ([49, 49, 49, 49, 49, 49, 49, 49, 49, 49] : List UInt8))), (3, i6 0)] ?_; intro bF aQ; clear V
   refine nlH (T _ _ ?_); clear T aN
   refine wp_ret ?_
   refine thr ?_
   refine ra2 aQ (.tuple #[str ((sputS ((fheadS u0) ++ (csumS 0 (fheadS u0)).1)).1 ++ ([49, 49, 49, 49, 49, 49, 49, 49, 49, 49] : List UInt8)), i6 0]) ?_
   exact ⟨((sputS ((fheadS u0) ++ (csumS 0 (fheadS u0)).1)).1 ++ ([49, 49, 49, 49, 49, 49, 49, 49, 49, 49] : List UInt8), 0), rfl, aP, u.below⟩
  · -- no
   have aR := l.2 s; clear l
   refine wp_skip ?_
   refine thn ?_
   refine sqH ?_; intro aS W
   refine s1 h 42 (str (fheadS u0)) ?_; intro bG X; clear h
   refine fc X c (sput_fun (fheadS u0) _ _ c.fz) ?_; intro bH bI Y j; clear X c
   refine bt Y j 5 [] [] [(10, str (sputS (fheadS u0)).1)] ?_; intro bJ aa; clear Y
   refine nlH (W _ _ ?_); clear W aS
   refine sqH ?_; intro aT ab
   refine bt aa j 5 [] [] [(50, i6 (w64 (((sputS (fheadS u0)).1.length : Int) - ((fheadS u0).length : Int))))] ?_; intro bK ac; clear aa
   obtain ⟨aU, aV⟩ := aR
   refine fc ac j (fcount_fun (w64 (((sputS (fheadS u0)).1.length : Int) - ((fheadS u0).length : Int))) aU _ _ j.fz) ?_; intro bL bM ad m; clear ac j
   refine s1 ad 12 (str (fcountS (w64 (((sputS (fheadS u0)).1.length : Int) - ((fheadS u0).length : Int))))) ?_; intro bN ae; clear ad
   refine nlH (ab _ _ ?_); clear ab aT
   refine sqH ?_; intro aW af
   refine l2 ae m 53 0 0 6 (e24EfBits u0 ao1 cap2) rfl rfl ?_; intro bO ag; clear ae
   refine fc ag m (fkind_fun u0 ao1 cap2 _ _ hs3 m.fz) ?_; intro bP bQ ah n; clear ag m
   refine bt ah n 2 [] [] [(55, str (sputS (fheadS u0)).1), (56, str (fcountS (w64 (((sputS (fheadS u0)).1.length : Int) - ((fheadS u0).length : Int)))))] ?_; intro bR ai; clear ah
   obtain ⟨aX, aY⟩ := aV
   refine sa ai aX ?_; intro bS aj; clear ai
   refine fc aj n (csum_fun (fkind u0) ((sputS (fheadS u0)).1 ++ (fcountS (w64 (((sputS (fheadS u0)).1.length : Int) - ((fheadS u0).length : Int))))) _ _ n.fz) ?_; intro bT bU ak d; clear aj n
   refine bt ak d 5 [] [] [(13, str (csumS (fkind u0) ((sputS (fheadS u0)).1 ++ (fcountS (w64 (((sputS (fheadS u0)).1.length : Int) - ((fheadS u0).length : Int)))))).1)] ?_; intro bV al; clear ak
   refine nlH (af _ _ ?_); clear af aW
   refine sqH ?_; intro aZ am
   refine bt al d 2 [] [] [(62, str (fcountS (w64 (((sputS (fheadS u0)).1.length : Int) - ((fheadS u0).length : Int))))), (63, str (csumS (fkind u0) ((sputS (fheadS u0)).1 ++ (fcountS (w64 (((sputS (fheadS u0)).1.length : Int) - ((fheadS u0).length : Int)))))).1)] ?_; intro bW an; clear al
   obtain ⟨a1, a2⟩ := aY
   refine sa an a1 ?_; intro bX ao; clear an
   refine bt ao d 4 [] [] [(65, str (sputS (fheadS u0)).1), (68, i6 (w64 (((sputS (fheadS u0)).1.length : Int) - 1)))] ?_; intro bY ap; clear ao
   obtain ⟨a3, a4⟩ := a2
   obtain ⟨a, aq⟩ : ∃ q, (sputS (fheadS u0)).1[(w64 (((sputS (fheadS u0)).1.length : Int) - 1)).toNat]? = some q := ⟨_, List.getElem?_eq_getElem (by omega)⟩; have a5 := a4 a aq
   refine si ap .i64 a3.1 aq ?_; intro bZ ar; clear ap
   refine fc ar d (sfixed_fun ((fcountS (w64 (((sputS (fheadS u0)).1.length : Int) - ((fheadS u0).length : Int)))) ++ (csumS (fkind u0) ((sputS (fheadS u0)).1 ++ (fcountS (w64 (((sputS (fheadS u0)).1.length : Int) - ((fheadS u0).length : Int)))))).1) (a.toNat : Int) _ _ d.fz) ?_; intro b0 b1 au o; clear ar d
   refine bt au o 5 [] [] [(15, str (sfixedS ((fcountS (w64 (((sputS (fheadS u0)).1.length : Int) - ((fheadS u0).length : Int)))) ++ (csumS (fkind u0) ((sputS (fheadS u0)).1 ++ (fcountS (w64 (((sputS (fheadS u0)).1.length : Int) - ((fheadS u0).length : Int)))))).1) (a.toNat : Int)).1)] ?_; intro a6 av; clear au
   refine nlH (am _ _ ?_); clear am aZ
   have aw : Fr 77 [] [⟨10, [], str (sputS (fheadS u0)).1⟩, ⟨15, [], str (sfixedS ((fcountS (w64 (((sputS (fheadS u0)).1.length : Int) - ((fheadS u0).length : Int)))) ++ (csumS (fkind u0) ((sputS (fheadS u0)).1 ++ (fcountS (w64 (((sputS (fheadS u0)).1.length : Int) - ((fheadS u0).length : Int)))))).1) (a.toNat : Int)).1⟩] a6 := av.region (by kernel_rfl) (by kernel_rfl); clear av
   refine sqH ?_; intro a8 ax
   refine bt aw o 2 [] [] [(73, str (sputS (fheadS u0)).1), (74, str (sfixedS ((fcountS (w64 (((sputS (fheadS u0)).1.length : Int) - ((fheadS u0).length : Int)))) ++ (csumS (fkind u0) ((sputS (fheadS u0)).1 ++ (fcountS (w64 (((sputS (fheadS u0)).1.length : Int) - ((fheadS u0).length : Int)))))).1) (a.toNat : Int)).1)] ?_; intro b2 ay; clear aw
   obtain ⟨a9, ba⟩ := a5
   refine sa ay a9 ?_; intro b3 az; clear ay
   obtain ⟨bb, bc⟩ := ba
   refine sa az bb ?_; intro b4 aA; clear az
   refine bt aA o 2 [] [] [(2, str (((sputS (fheadS u0)).1 ++ (sfixedS ((fcountS (w64 (((sputS (fheadS u0)).1.length : Int) - ((fheadS u0).length : Int)))) ++ (csumS (fkind u0) ((sputS (fheadS u0)).1 ++ (fcountS (w64 (((sputS (fheadS u0)).1.length : Int) - ((fheadS u0).length : Int)))))).1) (a.toNat : Int)).1) ++ ([49, 49, 49, 49, 49, 49, 49, 49, 49, 49] : List UInt8))), (3, i6 0)] ?_; intro b5 bd; clear aA
   refine nlH (ax _ _ ?_); clear ax a8
   refine wp_ret ?_
   refine ra2 bd (.tuple #[str (((sputS (fheadS u0)).1 ++ (sfixedS ((fcountS (w64 (((sputS (fheadS u0)).1.length : Int) - ((fheadS u0).length : Int)))) ++ (csumS (fkind u0) ((sputS (fheadS u0)).1 ++ (fcountS (w64 (((sputS (fheadS u0)).1.length : Int) - ((fheadS u0).length : Int)))))).1) (a.toNat : Int)).1) ++ ([49, 49, 49, 49, 49, 49, 49, 49, 49, 49] : List UInt8)), i6 0]) ?_
   exact ⟨(((sputS (fheadS u0)).1 ++ (sfixedS ((fcountS (w64 (((sputS (fheadS u0)).1.length : Int) - ((fheadS u0).length : Int)))) ++ (csumS (fkind u0) ((sputS (fheadS u0)).1 ++ (fcountS (w64 (((sputS (fheadS u0)).1.length : Int) - ((fheadS u0).length : Int)))))).1) (a.toNat : Int)).1) ++ ([49, 49, 49, 49, 49, 49, 49, 49, 49, 49] : List UInt8), 0), rfl, bc, o.below⟩

end Go.Proofs.YtmbdcehmeiiaoaaGreatDoor
set_option linter.unusedVariables false
set_option linter.unusedSimpArgs false
namespace Go.Proofs.YtmbdcehmeiiaoaaGreatDoor
open Go.Sy Go.RowKit
theorem fBits_fun (u0 : Frame) (hpre : ∀ x ∈ u0.Data, 0 ≤ x ∧ x ≤ 255) (ao1 : Option Addr) (cap2 : Nat) (Z : Fz) (w : World) (hs3 : SlR t8 Z ao1 cap2 u0.Data) (hZ : Z.on w) : Calls Tryz.prog 16 #[.agg #[i6 u0.ID, .bool u0.Long, .bool u0.Fast, .bool u0.Remote, i6 u0.Size, .slice ao1 u0.Data.length cap2]] w fun e w' => e = .returned (.tuple #[str (BitsS u0).1, i6 (BitsS u0).2]) ∧ Below w.heap.size w w' :=
  (fBits_walk u0 ao1 cap2 Z w hs3 hZ (fBits_ok u0 hpre)).mono fun _ _ ⟨r, he, hk, hb⟩ => ⟨by subst hk; exact he, hb⟩

end Go.Proofs.YtmbdcehmeiiaoaaGreatDoor
set_option linter.unusedVariables false
set_option linter.unusedSimpArgs false
set_option maxRecDepth 100000
set_option maxHeartbeats 0
namespace Go.Proofs.YtmbdcehmeiiaoaaGreatDoor
open Go.Sy Go.RowKit
abbrev e24Wa (X : Frame) (A0 : Option Addr) (C0 : Nat) : List Value := [i6 X.ID, .bool X.Long, .bool X.Fast, .bool X.Remote, i6 X.Size, .slice A0 X.Data.length C0]
theorem wsend_walk (u0 : List Frame) (ao1 : Option Addr) (cap2 : Nat) (Z : Fz) (w : World) (hs3 : SlR tyFrame Z ao1 cap2 u0) (hZ : Z.on w) {K : ((List UInt8) × Int × (List Int) × Int) → Prop} (hp : wsend_vc u0 K) : Calls Tryz.prog 24 #[.slice ao1 u0.length cap2] w fun e w' => ∃ (r : (List UInt8) × Int × (List Int) × Int) (ao1001 : Option Addr) (cap1002 : Nat) (Z' : Fz), e = .returned (.tuple #[str r.1, i6 r.2.1, .slice ao1001 r.2.2.1.length cap1002, i6 r.2.2.2]) ∧ K r ∧ Mem w.heap.size [] w Z [.own t6 3 ao1001 cap1002 r.2.2.1] Z' w' := by
 refine enter0 Tryz.func24 rfl rfl (by kernel_rfl) ?_; intro a0 cf; have M := Mem.start w Z hZ; have it := Fz.le.refl Z
 have aR := hp (hs3.small); clear hp
 refine sqB cf M [] [] [(4, .slice none 0 0)] ?_; intro iu cg; clear cf
 refine wp_seq ?_
 refine sqB cg M [] [] [(24, .bool (decide ((u0.length : Int) > 6)))] ?_; intro iv az; clear cg
 refine cd az (t := decide ((u0.length : Int) > 6)) (by kernel_rfl) (fun bp => ?_) (fun bp => ?_)
 ·
  have fk := aR.1 bp; clear aR
  refine sqB az M [] [] [(2, str []), (3, i6 0), (4, .slice none 0 0), (5, i6 2)] ?_; intro iw ch; clear az
  refine wp_ret ?_
  refine thr ?_
  have fl : Mem w.heap.size [] w Z [.own t6 3 none 0 ([] : List Int)] Z w := M.addNil t6 3 (by decide); clear M
  refine rt (fn := Tryz.f24) (v := .tuple #[str [], i6 0, .slice none ([] : List Int).length 0, i6 2]) ch (re4 ch (fn := Tryz.f24) rfl (by kernel_rfl) (by kernel_rfl) (by kernel_rfl) (by kernel_rfl)) ?_
  exact ⟨([], 0, ([] : List Int), 2), none, 0, Z, rfl, fk, fl.keep (List.Sublist.cons_cons _ (List.Sublist.slnil))⟩
 have aS := aR.2 bp; clear aR
 refine wp_skip ?_
 refine thn ?_
 refine wp_seq ?_
 refine sqB az M [] [] [(27, .bool ((u0.length : Int) == 0))] ?_; intro iy aA; clear az
 refine cd aA (t := (u0.length : Int) == 0) (by kernel_rfl) (fun bq => ?_) (fun bq => ?_)
 ·
  have fm := aS.1 bq; clear aS
  refine sqB aA M [] [] [(2, str []), (3, i6 0), (4, .slice none 0 0), (5, i6 8)] ?_; intro iz ci; clear aA
  refine wp_ret ?_
  refine thr ?_
  have fo : Mem w.heap.size [] w Z [.own t6 3 none 0 ([] : List Int)] Z w := M.addNil t6 3 (by decide); clear M
  refine rt (fn := Tryz.f24) (v := .tuple #[str [], i6 0, .slice none ([] : List Int).length 0, i6 8]) ci (re4 ci (fn := Tryz.f24) rfl (by kernel_rfl) (by kernel_rfl) (by kernel_rfl) (by kernel_rfl)) ?_
  exact ⟨([], 0, ([] : List Int), 8), none, 0, Z, rfl, fm, fo.keep (List.Sublist.cons_cons _ (List.Sublist.slnil))⟩
 have fp := aS.2 bq; clear aS
 refine wp_skip ?_
 refine thn ?_
 refine sqB aA M [] [] [(6, .slice none 0 0)] ?_; intro iA cj; clear aA
 refine sqB cj M [] [] [(7, i6 0)] ?_; intro iB ck; clear cj
 refine wp_seq ?_
 refine sqB ck M [] [] [(28, .slice ao1 u0.length cap2), (29, i6 (u0.length : Int)), (30, i6 0)] ?_; intro cl cm; clear ck
 refine wp_block ?_
 have cn : Fr 149 [] [⟨4, [], .slice none 0 0⟩, ⟨6, [], .slice none 0 0⟩, ⟨7, [], i6 0⟩, ⟨28, [], .slice ao1 u0.length cap2⟩, ⟨29, [], i6 (u0.length : Int)⟩, ⟨30, [], i6 0⟩] cl := cm.reg; clear cm
 have co : Mem w.heap.size [] w Z [.own tySender 89 none 0 ([] : List Sender)] Z w := M.addNil tySender 89 (by decide); clear M
 have cp : Fr 149 [] [⟨4, [], .slice none 0 0⟩, ⟨6, [], .slice none ([] : List Sender).length 0⟩, ⟨7, [], i6 0⟩, ⟨28, [], .slice ao1 u0.length cap2⟩, ⟨29, [], i6 (u0.length : Int)⟩, ⟨30, [], i6 0⟩] cl := cn.reg; clear cn
 obtain ⟨fq, fr, fs, ft⟩ := fp
 refine lp (ι := (List Sender) × Int × Int × (Option Addr) × Nat) (fun s => [⟨4, [], .slice none 0 0⟩, ⟨6, [], .slice s.2.2.2.1 s.1.length s.2.2.2.2⟩, ⟨7, [], i6 s.2.1⟩, ⟨28, [], .slice ao1 u0.length cap2⟩, ⟨29, [], i6 (u0.length : Int)⟩, ⟨30, [], i6 s.2.2.1⟩]) (fun s => [.own tySender 89 s.2.2.2.1 s.2.2.2.2 s.1]) (fun s => Z) (fun s => fq s.1 s.2.1 s.2.2.1) (fun s => fr s.1 s.2.1 s.2.2.1) ⟨([] : List Sender), 0, 0, none, 0⟩ fs (by exact cp.reg) (by exact co) ?_
 rintro ⟨N, z, ag, i, f⟩ fu fv fw cq cr
 have cs : Fr 149 [] [⟨4, [], .slice none 0 0⟩, ⟨6, [], .slice i N.length f⟩, ⟨7, [], i6 z⟩, ⟨28, [], .slice ao1 u0.length cap2⟩, ⟨29, [], i6 (u0.length : Int)⟩, ⟨30, [], i6 ag⟩] fv := cq; clear cq cp
 have aq : Mem w.heap.size [] w Z [.own tySender 89 i f N] Z fw := cr; clear cr co
 have aT := ft N z ag fu
 refine sqB cs aq [] [] [(31, .bool (decide (ag < (u0.length : Int))))] ?_; intro iC aB; clear cs
 refine wp_seq ?_
 refine cd aB (t := decide (ag < (u0.length : Int))) (by kernel_rfl) (fun br => ?_) (fun br => ?_)
 ·
  have fx := aT.1 br; clear aT
  refine wp_skip ?_
  refine thn ?_
  refine wp_seq ?_
  refine wp_block ?_
  refine sqH ?_; intro fy ct
  obtain ⟨fA, cu⟩ := fx
  refine ix aB (T := tyFrame) (xs := u0) hs3 ag fA (k := .i64) (e := 24) (bytes := 48) (nog rfl _) rfl (by kernel_rfl) rfl (by kernel_rfl) (by kernel_rfl) (by kernel_rfl) ?_; intro iD iE iF l iG fB fC fD cv; clear aB
  have cw := cu l fB; clear cu
  obtain ⟨ah, ai, rfl, cx⟩ := fD
  have fE := cw (cx.small); clear cw
  refine z2 cv aq 33 fC 0 6 (e24Wa l ah ai) rfl ?_; intro iH cy; clear cv
  refine nw cy aq pb [i6 0, .bool false, .bool false, .bool false, i6 0, .slice none 0 0] 24 ?_; intro bs iI iJ bu cz; clear cy aq
  refine sx bu cz 0 (e24Wa l ah ai) 0 ?_; intro fF cA; clear cz
  have aU : Mem w.heap.size [] w Z [.row bs (e24Wa l ah ai) 24, .own tySender 89 i f N] Z fF := cA; clear cA
  refine nlH (ct _ _ ?_); clear ct fy
  refine sqH ?_; intro fG cB
  refine l2 bu aU 35 0 0 6 (e24Wa l ah ai) rfl rfl ?_; intro iK cC; clear bu
  obtain ⟨fH, aV⟩ := fE
  refine fc cC aU (fBits_fun l fH ah ai _ _ cx aU.fz) ?_; intro iL fI cD aa; clear cC aU
  refine bt cD aa 5 [] [] [(10, str (BitsS l).1), (11, i6 (BitsS l).2)] ?_; intro iM cE; clear cD
  refine nlH (cB _ _ ?_); clear cB fG
  refine wp_seq ?_
  refine sqB cE aa [] [] [(40, .bool ((BitsS l).2 != 0))] ?_; intro iN aC; clear cE
  refine cd aC (t := (BitsS l).2 != 0) (by kernel_rfl) (fun bv => ?_) (fun bv => ?_)
  ·
   have fJ := aV.1 bv; clear aV
   refine sqB aC aa [] [] [(2, str []), (3, i6 0), (4, .slice none 0 0), (5, i6 (BitsS l).2)] ?_; intro iO cF; clear aC
   refine wp_ret ?_
   refine thr ?_
   refine ibr ?_
   refine thr ?_
   refine thr ?_
   refine ibr ?_
   refine thr ?_
   have fK : Mem w.heap.size [] w Z [.own t6 3 none 0 ([] : List Int), .row bs (e24Wa l ah ai) 24, .own tySender 89 i f N] Z fI := aa.addNil t6 3 (by decide); clear aa
   refine rt (fn := Tryz.f24) (v := .tuple #[str [], i6 0, .slice none ([] : List Int).length 0, i6 (BitsS l).2]) cF (re4 cF (fn := Tryz.f24) rfl (by kernel_rfl) (by kernel_rfl) (by kernel_rfl) (by kernel_rfl)) ?_
   exact ⟨([], 0, ([] : List Int), (BitsS l).2), none, 0, Z, rfl, fJ, fK.keep (List.Sublist.cons_cons _ (List.Sublist.cons _ (List.Sublist.cons _ (List.Sublist.slnil))))⟩
  have fL := aV.2 bv; clear aV
  refine wp_skip ?_
  refine thn ?_
  refine sqH ?_; intro fM cG
  refine bt aC aa 3 [] [] [(42, .slice i N.length f), (44, .agg #[str (BitsS l).1, i6 (-1)])] ?_; intro iP cH; clear aC
  refine nw cH aa (fun b => .slice (sm b) 1 1) [str (BitsS l).1, i6 (-1)] 89 ?_; intro cI iQ iR cJ bw; clear cH aa
  obtain ⟨fN, cK⟩ := fL
  refine ap cJ bw 2 (T := tySender) (xs := N) (ys := [(⟨(BitsS l).1, -1⟩ : Sender)]) (ao := i) (cap := f) (ao2 := (sm cI)) (cap2 := 1) (t := 87) (e := 89) (bytes := 24) (nog rfl _) rfl (by kernel_rfl) rfl (by kernel_rfl) (by kernel_rfl) (by kernel_rfl) rfl (Src.row bw 0 rfl (RepAll.one (T := tySender) (x := (⟨(BitsS l).1, -1⟩ : Sender)) rfl)) fN ?_; intro bx bz iS fO iT cL cM; clear cJ bw
  have bA : Mem w.heap.size [] w Z [.row cI [str (BitsS l).1, i6 (-1)] 89, .row bs (e24Wa l ah ai) 24, .own tySender 89 bx bz (N ++ [(⟨(BitsS l).1, -1⟩ : Sender)])] Z fO := cM; clear cM
  refine s1 cL 6 (.slice bx (N ++ [(⟨(BitsS l).1, -1⟩ : Sender)]).length bz) ?_; intro iU cN; clear cL
  refine nlH (cG _ _ ?_); clear cG fM
  refine rgB cN bA [] [] [(7, i6 (max z ((BitsS l).1.length : Int)))] ?_; intro iV cO; clear cN
  refine ibn ?_
  refine thn ?_
  refine rgB cO bA [] [] [(30, i6 (w64 (ag + 1)))] ?_; intro iW fP; clear cO
  refine rd ?_
  exact ⟨⟨N ++ [(⟨(BitsS l).1, -1⟩ : Sender)], max z ((BitsS l).1.length : Int), w64 (ag + 1), bx, bz⟩, cK.1, cK.2, (fP.reg).anyβ _ (by kernel_rfl), bA.keep (List.Sublist.cons _ (List.Sublist.cons _ (List.Sublist.cons_cons _ (List.Sublist.slnil))))⟩
 have fQ := aT.2 br; clear aT
 refine wp_exit ?_
 refine thx ?_
 refine thx ?_
 refine ibx ?_
 refine thn ?_
 refine sqH ?_; intro fR cP
 refine nw aB aq (fun b => .slice (sm b) 0 0) [] 5 ?_; intro aD iX fS cQ bB; clear aB aq
 refine s1 cQ 12 (.slice (sm aD) 0 0) ?_; intro iY cR; clear cQ
 refine nlH (cP _ _ ?_); clear cP fR
 refine wp_seq ?_
 refine sqB cR bB [] [] [(53, i6 z), (54, i6 0)] ?_; intro cS cT; clear cR
 refine wp_block ?_
 have cU : Fr 149 [] [⟨4, [], .slice none 0 0⟩, ⟨6, [], .slice i N.length f⟩, ⟨12, [], .slice (sm aD) 0 0⟩, ⟨53, [], i6 z⟩, ⟨54, [], i6 0⟩] cS := cT.reg; clear cT
 have cV : Mem w.heap.size [] w Z [.own t8 5 (sm aD) 0 ([] : List Int), .own tySender 89 i f N] Z fS := bB.rowOwn (T := t8) (xs := ([] : List Int)) 0 rfl (by decide) (by show 0 ≤ lim; decide) (RepAll.nil _ _); clear bB
 have cW : Fr 149 [] [⟨4, [], .slice none 0 0⟩, ⟨6, [], .slice i N.length f⟩, ⟨12, [], .slice (sm aD) ([] : List Int).length 0⟩, ⟨53, [], i6 z⟩, ⟨54, [], i6 0⟩] cS := cU.reg; clear cU
 obtain ⟨fT, fU, fV, fW⟩ := fQ
 refine lp (ι := (List Int) × Int × (List Sender) × (Option Addr) × Nat) (fun s => [⟨4, [], .slice none 0 0⟩, ⟨6, [], .slice i s.2.2.1.length f⟩, ⟨12, [], .slice s.2.2.2.1 s.1.length s.2.2.2.2⟩, ⟨53, [], i6 z⟩, ⟨54, [], i6 s.2.1⟩]) (fun s => [.own t8 5 s.2.2.2.1 s.2.2.2.2 s.1, .own tySender 89 i f s.2.2.1]) (fun s => Z) (fun s => fT s.1 s.2.1 s.2.2.1) (fun s => fU s.1 s.2.1 s.2.2.1) ⟨([] : List Int), 0, N, (sm aD), 0⟩ fV (by exact cW.reg) (by exact cV) ?_
 rintro ⟨h, j, a, m, n⟩ fX fY cX cY cZ
 have c0 : Fr 149 [] [⟨4, [], .slice none 0 0⟩, ⟨6, [], .slice i a.length f⟩, ⟨12, [], .slice m h.length n⟩, ⟨53, [], i6 z⟩, ⟨54, [], i6 j⟩] fY := cY; clear cY cW
 have R : Mem w.heap.size [] w Z [.own t8 5 m n h, .own tySender 89 i f a] Z cX := cZ; clear cZ cV
 have aW := fW h j a fX
 refine sqB c0 R [] [] [(55, .bool (decide (j < z)))] ?_; intro c1 aE; clear c0
 refine wp_seq ?_
 refine cd aE (t := decide (j < z)) (by kernel_rfl) (fun bC => ?_) (fun bC => ?_)
 ·
  have fZ := aW.1 bC; clear aW
  refine wp_skip ?_
  refine thn ?_
  have c2 : Fr 149 [] [⟨4, [], .slice none 0 0⟩, ⟨6, [], .slice i a.length f⟩, ⟨12, [], .slice m h.length n⟩, ⟨53, [], i6 z⟩, ⟨54, [], i6 j⟩] c1 := aE.reg; clear aE
  have bD : Fr 149 [] [⟨4, [], .slice none 0 0⟩, ⟨6, [], .slice i a.length f⟩, ⟨12, [], .slice m h.length n⟩, ⟨53, [], i6 z⟩, ⟨54, [], i6 j⟩] c1 := c2.reg; clear c2
  obtain ⟨f0, f1, f2⟩ := fZ
  refine wp_seq_k fun KJ232 hKJ233 => ?_
  have f3 : ∀ (ar : List Int) (au : List Sender) (aX : Option Addr) (aY : Nat), f0 ar au → ∀ a1 w1, Fr 149 [] [⟨4, [], .slice none 0 0⟩, ⟨6, [], .slice i au.length f⟩, ⟨12, [], .slice aX ar.length aY⟩, ⟨53, [], i6 z⟩, ⟨54, [], i6 j⟩] a1 → Mem w.heap.size [] w Z [.own t8 5 aX aY ar, .own tySender 89 i f au] Z w1 → KJ232 a1 w1 := by
   rintro ar au aX aY f4 iZ i0 c3 c4; clear bD R
   refine hKJ233 _ _ ?_; clear hKJ233
   have c5 := f2 ar au f4
   refine rgB c3 c4 [] [] [(54, i6 (w64 (j + 1)))] ?_; intro i1 f5; clear c3
   refine rd ?_
   exact ⟨⟨ar, w64 (j + 1), au, aX, aY⟩, c5.1, c5.2, (f5.reg).anyβ _ (by kernel_rfl), c4.keep (List.Sublist.cons_cons _ (List.Sublist.cons_cons _ (List.Sublist.slnil)))⟩
  refine wp_block ?_
  refine sqB bD R [] [] [(13, i6 j)] ?_; intro i2 c6; clear bD
  refine sqB c6 R [] [] [(14, y8 49), (15, .bool false)] ?_; intro i3 c7; clear c6
  refine wp_seq ?_
  refine sqB c7 R [] [] [(57, .slice i a.length f), (58, i6 (a.length : Int)), (59, i6 0)] ?_; intro c8 c9; clear c7
  refine wp_block ?_
  have da : Fr 149 [] [⟨4, [], .slice none 0 0⟩, ⟨6, [], .slice i a.length f⟩, ⟨12, [], .slice m h.length n⟩, ⟨13, [], i6 j⟩, ⟨14, [], y8 49⟩, ⟨15, [], .bool false⟩, ⟨53, [], i6 z⟩, ⟨54, [], i6 j⟩, ⟨57, [], .slice i a.length f⟩, ⟨58, [], i6 (a.length : Int)⟩, ⟨59, [], i6 0⟩] c8 := c9.reg; clear c9
  have db : Fr 149 [] [⟨4, [], .slice none 0 0⟩, ⟨6, [], .slice i a.length f⟩, ⟨12, [], .slice m h.length n⟩, ⟨13, [], i6 j⟩, ⟨14, [], y8 49⟩, ⟨15, [], .bool false⟩, ⟨53, [], i6 z⟩, ⟨54, [], i6 j⟩, ⟨57, [], .slice i a.length f⟩, ⟨58, [], i6 (a.length : Int)⟩, ⟨59, [], i6 0⟩] c8 := da.reg; clear da
  obtain ⟨f6, f7, f8, f9⟩ := f1
  refine lp (ι := Int × Bool × Int) (fun s => [⟨4, [], .slice none 0 0⟩, ⟨6, [], .slice i a.length f⟩, ⟨12, [], .slice m h.length n⟩, ⟨13, [], i6 j⟩, ⟨14, [], y8 s.1⟩, ⟨15, [], .bool s.2.1⟩, ⟨53, [], i6 z⟩, ⟨54, [], i6 j⟩, ⟨57, [], .slice i a.length f⟩, ⟨58, [], i6 (a.length : Int)⟩, ⟨59, [], i6 s.2.2⟩]) (fun s => [.own t8 5 m n h, .own tySender 89 i f a]) (fun s => Z) (fun s => f6 s.1 s.2.1 s.2.2) (fun s => f7 s.1 s.2.1 s.2.2) ⟨49, false, 0⟩ f8 (by exact db.reg) (by exact R) ?_
  rintro ⟨o, aj, S⟩ ga gb dc dd de
  have df : Fr 149 [] [⟨4, [], .slice none 0 0⟩, ⟨6, [], .slice i a.length f⟩, ⟨12, [], .slice m h.length n⟩, ⟨13, [], i6 j⟩, ⟨14, [], y8 o⟩, ⟨15, [], .bool aj⟩, ⟨53, [], i6 z⟩, ⟨54, [], i6 j⟩, ⟨57, [], .slice i a.length f⟩, ⟨58, [], i6 (a.length : Int)⟩, ⟨59, [], i6 S⟩] gb := dd; clear dd db
  have O : Mem w.heap.size [] w Z [.own t8 5 m n h, .own tySender 89 i f a] Z dc := de; clear de R
  have aZ := f9 o aj S ga
  refine sqB df O [] [] [(60, .bool (decide (S < (a.length : Int))))] ?_; intro dg aF; clear df
  refine wp_seq ?_
  refine cd aF (t := decide (S < (a.length : Int))) (by kernel_rfl) (fun bE => ?_) (fun bE => ?_)
  ·
   have gc := aZ.1 bE; clear aZ
   refine wp_skip ?_
   refine thn ?_
   have dh : Fr 149 [] [⟨4, [], .slice none 0 0⟩, ⟨6, [], .slice i a.length f⟩, ⟨12, [], .slice m h.length n⟩, ⟨13, [], i6 j⟩, ⟨14, [], y8 o⟩, ⟨15, [], .bool aj⟩, ⟨53, [], i6 z⟩, ⟨54, [], i6 j⟩, ⟨57, [], .slice i a.length f⟩, ⟨58, [], i6 (a.length : Int)⟩, ⟨59, [], i6 S⟩] dg := aF.reg; clear aF
   have bF : Fr 149 [] [⟨4, [], .slice none 0 0⟩, ⟨6, [], .slice i a.length f⟩, ⟨12, [], .slice m h.length n⟩, ⟨13, [], i6 j⟩, ⟨14, [], y8 o⟩, ⟨15, [], .bool aj⟩, ⟨53, [], i6 z⟩, ⟨54, [], i6 j⟩, ⟨57, [], .slice i a.length f⟩, ⟨58, [], i6 (a.length : Int)⟩, ⟨59, [], i6 S⟩] dg := dh.reg; clear dh
   obtain ⟨gd, ge, gf⟩ := gc
   refine wp_seq_k fun KJ287 hKJ288 => ?_
   have di : ∀ (aG : Int) (aH : Bool), gd aG aH → ∀ a1 w1, Fr 149 [] [⟨4, [], .slice none 0 0⟩, ⟨6, [], .slice i a.length f⟩, ⟨12, [], .slice m h.length n⟩, ⟨13, [], i6 j⟩, ⟨14, [], y8 aG⟩, ⟨15, [], .bool aH⟩, ⟨53, [], i6 z⟩, ⟨54, [], i6 j⟩, ⟨57, [], .slice i a.length f⟩, ⟨58, [], i6 (a.length : Int)⟩, ⟨59, [], i6 S⟩] a1 → Mem w.heap.size [] w Z [.own t8 5 m n h, .own tySender 89 i f a] Z w1 → KJ287 a1 w1 := by
    rintro aG aH gg i4 i5 dj dk; clear bF O
    refine hKJ288 _ _ ?_; clear hKJ288
    have dl := gf aG aH gg
    refine rgB dj dk [] [] [(59, i6 (w64 (S + 1)))] ?_; intro i7 gh; clear dj
    refine rd ?_
    exact ⟨⟨aG, aH, w64 (S + 1)⟩, dl.1, dl.2, (gh.reg).anyβ _ (by kernel_rfl), dk.keep (List.Sublist.cons_cons _ (List.Sublist.cons_cons _ (List.Sublist.slnil)))⟩
   refine wp_block ?_
   refine sqH ?_; intro gi dm
   obtain ⟨gj, dn⟩ := ge
   refine ixo bF O 1 (T := tySender) (xs := a) S gj (k := .i64) (e := 89) (bytes := 24) (nog rfl _) rfl (by kernel_rfl) rfl (by kernel_rfl) (by kernel_rfl) rfl (by kernel_rfl) ?_; intro gk i8 gl dp; clear bF
   subst gl
   obtain ⟨P, gm, a2⟩ := gxq dn (by first | omega | (simp only [List.length_set] at *; omega)); clear dn
   obtain ⟨gn, go, gp⟩ := own_el O 1 (T := tySender) (xs := a) rfl S.toNat gm
   obtain rfl : gn = ([str P.row, i6 P.lost] : List Value) := go
   refine lc2 dp 62 2 [str P.row, i6 P.lost] gp rfl ?_; intro i9 dq; clear dp
   refine nw dq O pb [str [], i6 0] 89 ?_; intro gq ja jb bG dr; clear dq O
   refine sx bG dr 0 [str P.row, i6 P.lost] 0 ?_; intro gr ds; clear dr
   have aI : Mem w.heap.size [] w Z [.row gq [str P.row, i6 P.lost] 89, .own t8 5 m n h, .own tySender 89 (sm gk) f a] Z gr := ds; clear ds
   refine nlH (dm _ _ ?_); clear dm gi
   refine sqB bG aI [0, 0] [] [(72, .bool ((decide (P.lost < 0)) && (decide (j < (P.row.length : Int)))))] ?_; intro jc a3; clear bG
   refine cd a3 (t := (decide (P.lost < 0)) && (decide (j < (P.row.length : Int)))) (by kernel_rfl) (fun bH => ?_) (fun bH => ?_)
   ·
    have gs := a2.1 bH; clear a2
    refine rgH ?_; intro gt dt
    refine bt a3 aI 4 [0] [] [(73, y8 o), (75, str P.row), (76, i6 j)] ?_; intro jd du; clear a3
    obtain ⟨gu, gv⟩ := gs
    obtain ⟨bI, dv⟩ : ∃ q, P.row[j.toNat]? = some q := ⟨_, List.getElem?_eq_getElem (by omega)⟩; have gw := gv bI dv
    refine si du .i64 gu.1 dv ?_; intro je dw; clear du
    refine bt dw aI 3 [] [] [(14, y8 (min o (bI.toNat : Int))), (15, .bool true)] ?_; intro jf gx; clear dw
    refine nlH (dt _ _ ?_); clear dt gt
    refine ibn ?_
    refine rd ?_
    exact di (min o (bI.toNat : Int)) true gw _ _ ((gx.reg).anyβ _ (by kernel_rfl)) (aI.keep (List.Sublist.cons _ (List.Sublist.cons_cons _ (List.Sublist.cons_cons _ (List.Sublist.slnil)))))
   have gy := a2.2 bH; clear a2
   refine wp_skip ?_
   refine ibn ?_
   refine rd ?_
   exact di o aj gy _ _ ((a3.reg).anyβ _ (by kernel_rfl)) (aI.keep (List.Sublist.cons _ (List.Sublist.cons_cons _ (List.Sublist.cons_cons _ (List.Sublist.slnil)))))
  have a4 := aZ.2 bE; clear aZ
  refine wp_exit ?_
  refine thx ?_
  refine thx ?_
  refine ibx ?_
  refine thn ?_
  refine wp_seq ?_
  refine sqB aF O [] [] [(81, .bool (!aj))] ?_; intro jg aJ; clear aF
  refine cd aJ (t := !aj) (by kernel_rfl) (fun bJ => ?_) (fun bJ => ?_)
  ·
   have gz := a4.1 bJ; clear a4
   refine wp_exit ?_
   refine thx ?_
   refine ibo (by decide) ?_
   refine thx ?_
   refine thx ?_
   refine ibx ?_
   refine thn ?_
   refine sqB aJ O [] [] [(3, i6 (-1))] ?_; intro jh dx; clear aJ
   refine wp_seq ?_
   refine sqB dx O [] [] [(124, .slice i a.length f), (125, i6 (a.length : Int)), (126, i6 0)] ?_; intro dy dz; clear dx
   refine wp_block ?_
   have dA : Fr 149 [] [⟨3, [], i6 (-1)⟩, ⟨4, [], .slice none 0 0⟩, ⟨12, [], .slice m h.length n⟩, ⟨124, [], .slice i a.length f⟩, ⟨125, [], i6 (a.length : Int)⟩, ⟨126, [], i6 0⟩] dy := dz.reg; clear dz
   have dB : Mem w.heap.size [] w Z [.own t6 3 none 0 ([] : List Int), .own t8 5 m n h, .own tySender 89 i f a] Z dc := O.addNil t6 3 (by decide); clear O
   have dC : Fr 149 [] [⟨3, [], i6 (-1)⟩, ⟨4, [], .slice none ([] : List Int).length 0⟩, ⟨12, [], .slice m h.length n⟩, ⟨124, [], .slice i a.length f⟩, ⟨125, [], i6 (a.length : Int)⟩, ⟨126, [], i6 0⟩] dy := dA.reg; clear dA
   obtain ⟨gA, gB, gC, gD⟩ := gz
   refine lp (ι := Int × (List Int) × Int × (Option Addr) × Nat) (fun s => [⟨3, [], i6 s.1⟩, ⟨4, [], .slice s.2.2.2.1 s.2.1.length s.2.2.2.2⟩, ⟨12, [], .slice m h.length n⟩, ⟨124, [], .slice i a.length f⟩, ⟨125, [], i6 (a.length : Int)⟩, ⟨126, [], i6 s.2.2.1⟩]) (fun s => [.own t6 3 s.2.2.2.1 s.2.2.2.2 s.2.1, .own t8 5 m n h, .own tySender 89 i f a]) (fun s => Z) (fun s => gA s.1 s.2.1 s.2.2.1) (fun s => gB s.1 s.2.1 s.2.2.1) ⟨-1, ([] : List Int), 0, none, 0⟩ gC (by exact dC.reg) (by exact dB) ?_
   rintro ⟨G, A, p, D, E⟩ gE gF gG dD dE
   have dF : Fr 149 [] [⟨3, [], i6 G⟩, ⟨4, [], .slice D A.length E⟩, ⟨12, [], .slice m h.length n⟩, ⟨124, [], .slice i a.length f⟩, ⟨125, [], i6 (a.length : Int)⟩, ⟨126, [], i6 p⟩] gF := dD; clear dD dC
   have ab : Mem w.heap.size [] w Z [.own t6 3 D E A, .own t8 5 m n h, .own tySender 89 i f a] Z gG := dE; clear dE dB
   have a5 := gD G A p gE
   refine sqB dF ab [] [] [(127, .bool (decide (p < (a.length : Int))))] ?_; intro ji aK; clear dF
   refine wp_seq ?_
   refine cd aK (t := decide (p < (a.length : Int))) (by kernel_rfl) (fun bK => ?_) (fun bK => ?_)
   ·
    have gH := a5.1 bK; clear a5
    refine wp_skip ?_
    refine thn ?_
    refine wp_seq ?_
    refine wp_block ?_
    refine sqH ?_; intro gI dG
    refine s1 aK 128 (i6 p) ?_; intro jj dH; clear aK
    obtain ⟨gJ, dI⟩ := gH
    refine ixo dH ab 2 (T := tySender) (xs := a) p gJ (k := .i64) (e := 89) (bytes := 24) (nog rfl _) rfl (by kernel_rfl) rfl (by kernel_rfl) (by kernel_rfl) rfl (by kernel_rfl) ?_; intro ak jk gK dJ; clear dH
    subst gK
    obtain ⟨B, gL, gM⟩ := gxq dI (by first | omega | (simp only [List.length_set] at *; omega)); clear dI
    obtain ⟨gN, gO, gP⟩ := own_el ab 2 (T := tySender) (xs := a) rfl p.toNat gL
    obtain rfl : gN = ([str B.row, i6 B.lost] : List Value) := gO
    refine lc2 dJ 130 2 [str B.row, i6 B.lost] gP rfl ?_; intro jl dK; clear dJ
    refine nw dK ab pb [str [], i6 0] 89 ?_; intro al jm jn dL dM; clear dK ab
    refine s1 dL 20 (i6 p) ?_; intro dN bL; clear dL
    refine sx bL dM 0 [str B.row, i6 B.lost] 0 ?_; intro dO dP; clear dM
    have X : Mem w.heap.size [] w Z [.row al [str B.row, i6 B.lost] 89, .own t6 3 D E A, .own t8 5 m n h, .own tySender 89 (sm ak) f a] Z dO := dP; clear dP
    refine nlH (dG _ _ ?_); clear dG gI
    have dQ : Fr 149 [] [⟨3, [], i6 G⟩, ⟨4, [], .slice D A.length E⟩, ⟨12, [], .slice m h.length n⟩, ⟨20, [], i6 p⟩, ⟨21, [], pt al 0⟩, ⟨124, [], .slice (sm ak) a.length f⟩, ⟨125, [], i6 (a.length : Int)⟩, ⟨126, [], i6 p⟩] dN := bL.reg; clear bL
    have bM : Fr 149 [] [⟨3, [], i6 G⟩, ⟨4, [], .slice D A.length E⟩, ⟨12, [], .slice m h.length n⟩, ⟨20, [], i6 p⟩, ⟨21, [], pt al 0⟩, ⟨124, [], .slice (sm ak) a.length f⟩, ⟨125, [], i6 (a.length : Int)⟩, ⟨126, [], i6 p⟩] dN := dQ.reg; clear dQ
    obtain ⟨gQ, a6, gR⟩ := gM
    refine wp_seq_k fun KJ441 hKJ442 => ?_
    have dR : ∀ (U : Int) (H : List Int) (V : Option Addr) (W : Nat), gQ U H → ∀ a1 w1, Fr 149 [] [⟨3, [], i6 U⟩, ⟨4, [], .slice V H.length W⟩, ⟨12, [], .slice m h.length n⟩, ⟨21, [], pt al 0⟩, ⟨124, [], .slice (sm ak) a.length f⟩, ⟨125, [], i6 (a.length : Int)⟩, ⟨126, [], i6 p⟩] a1 → Mem w.heap.size [] w Z [.row al [str B.row, i6 B.lost] 89, .own t6 3 V W H, .own t8 5 m n h, .own tySender 89 (sm ak) f a] Z w1 → KJ441 a1 w1 := by
     rintro U H V W gS jo jp dS bN; clear bM X
     refine hKJ442 _ _ ?_; clear hKJ442
     have gT := gR U H gS
     refine rgH ?_; intro gU dT
     refine bt dS bN 3 [0] [] [(139, .slice V H.length W), (141, i6 B.lost)] ?_; intro jq dU; clear dS
     refine nw dU bN (fun b => .slice (sm b) 1 1) [i6 B.lost] 3 ?_; intro dV jr js dW bO; clear dU bN
     obtain ⟨gV, dX⟩ := gT
     refine ap dW bO 2 (T := t6) (xs := H) (ys := [B.lost]) (ao := V) (cap := W) (ao2 := (sm dV)) (cap2 := 1) (t := 43) (e := 3) (bytes := 8) (nog rfl _) rfl (by kernel_rfl) rfl (by kernel_rfl) (by kernel_rfl) (by kernel_rfl) rfl (Src.row bO 0 rfl (RepAll.one (T := t6) (x := B.lost) rfl)) gV ?_; intro bP bQ jt gW ju dY dZ; clear dW bO
     have d0 : Mem w.heap.size [] w Z [.row dV [i6 B.lost] 3, .row al [str B.row, i6 B.lost] 89, .own t6 3 bP bQ (H ++ [B.lost]), .own t8 5 m n h, .own tySender 89 (sm ak) f a] Z gW := dZ; clear dZ
     refine s1 dY 4 (.slice bP (H ++ [B.lost]).length bQ) ?_; intro jv d1; clear dY
     refine nlH (dT _ _ ?_); clear dT gU
     refine ibn ?_
     refine thn ?_
     refine rgB d1 d0 [] [] [(126, i6 (w64 (p + 1)))] ?_; intro jw gX; clear d1
     refine rd ?_
     exact ⟨⟨U, H ++ [B.lost], w64 (p + 1), bP, bQ⟩, dX.1, dX.2, (gX.reg).anyβ _ (by kernel_rfl), d0.keep (List.Sublist.cons _ (List.Sublist.cons _ (List.Sublist.cons_cons _ (List.Sublist.cons_cons _ (List.Sublist.cons_cons _ (List.Sublist.slnil))))))⟩
    refine wp_block ?_
    refine sqB bM X [0] [] [(132, .bool (decide (B.lost ≥ 0)))] ?_; intro jx a7; clear bM
    refine cd a7 (t := decide (B.lost ≥ 0)) (by kernel_rfl) (fun bR => ?_) (fun bR => ?_)
    ·
     have gY := a6.1 bR; clear a6
     refine wp_skip ?_
     refine ibn ?_
     refine rd ?_
     exact dR G A D E gY _ _ ((a7.reg).anyβ _ (by kernel_rfl)) (X.keep (List.Sublist.cons_cons _ (List.Sublist.cons_cons _ (List.Sublist.cons_cons _ (List.Sublist.cons_cons _ (List.Sublist.slnil))))))
    have a8 := a6.2 bR; clear a6
    refine sqB a7 X [] [] [(136, .bool (decide (G ≥ 0)))] ?_; intro jy aL; clear a7
    refine cd aL (t := decide (G ≥ 0)) (by kernel_rfl) (fun bS => ?_) (fun bS => ?_)
    ·
     have gZ := a8.1 bS; clear a8
     refine sqB aL X [] [] [(2, str []), (3, i6 0), (4, .slice none 0 0), (5, i6 9)] ?_; intro jz d2; clear aL
     refine wp_ret ?_
     refine ibr ?_
     refine thr ?_
     refine ibr ?_
     refine thr ?_
     refine thr ?_
     refine ibr ?_
     refine thr ?_
     have g0 : Mem w.heap.size [] w Z [.own t6 3 none 0 ([] : List Int), .row al [str B.row, i6 B.lost] 89, .own t6 3 D E A, .own t8 5 m n h, .own tySender 89 (sm ak) f a] Z dO := X.addNil t6 3 (by decide); clear X
     refine rt (fn := Tryz.f24) (v := .tuple #[str [], i6 0, .slice none ([] : List Int).length 0, i6 9]) d2 (re4 d2 (fn := Tryz.f24) rfl (by kernel_rfl) (by kernel_rfl) (by kernel_rfl) (by kernel_rfl)) ?_
     exact ⟨([], 0, ([] : List Int), 9), none, 0, Z, rfl, gZ, g0.keep (List.Sublist.cons_cons _ (List.Sublist.cons _ (List.Sublist.cons _ (List.Sublist.cons _ (List.Sublist.cons _ (List.Sublist.slnil))))))⟩
    have g1 := a8.2 bS; clear a8
    refine rgB aL X [] [] [(3, i6 p)] ?_; intro jA g2; clear aL
    refine ibn ?_
    refine rd ?_
    exact dR p A D E g1 _ _ ((g2.reg).anyβ _ (by kernel_rfl)) (X.keep (List.Sublist.cons_cons _ (List.Sublist.cons_cons _ (List.Sublist.cons_cons _ (List.Sublist.cons_cons _ (List.Sublist.slnil))))))
   have g3 := a5.2 bK; clear a5
   refine wp_exit ?_
   refine thx ?_
   refine thx ?_
   refine ibx ?_
   refine thn ?_
   refine sqH ?_; intro g4 d3
   refine s1 aK 145 (.slice m h.length n) ?_; intro jB bT; clear aK
   refine st bT (str (bstr h)) (nog rfl _) rfl (by kernel_rfl) ((by obtain ⟨Z9, g5, bU, bV⟩ := ab.lend 1 rfl; exact bstr_op bT (g := []) (e := 5) (ao := m) (cap := n) (xs := h) rfl (by kernel_rfl) (by kernel_rfl) (by kernel_rfl) (by kernel_rfl)  bV bU rfl)) ?_; intro jC d4; clear bT
   refine bt d4 ab 6 [] [] [(2, str (bstr h)), (3, i6 G), (4, .slice D A.length E), (5, i6 0)] ?_; intro jD d5; clear d4
   refine nlH (d3 _ _ ?_); clear d3 g4
   refine wp_ret ?_
   refine rt (fn := Tryz.f24) (v := .tuple #[str (bstr h), i6 G, .slice D A.length E, i6 0]) d5 (re4 d5 (fn := Tryz.f24) rfl (by kernel_rfl) (by kernel_rfl) (by kernel_rfl) (by kernel_rfl)) ?_
   exact ⟨(bstr h, G, A, 0), D, E, Z, rfl, g3, ab.keep (List.Sublist.cons_cons _ (List.Sublist.cons _ (List.Sublist.cons _ (List.Sublist.slnil))))⟩
  have g6 := a4.2 bJ; clear a4
  refine wp_skip ?_
  refine thn ?_
  refine sqH ?_; intro g7 d6
  refine bt aJ O 2 [] [] [(82, .slice m h.length n), (83, y8 o)] ?_; intro jE d7; clear aJ
  refine nw d7 O (fun b => .slice (sm b) 1 1) [y8 o] 5 ?_; intro av jF jG d8 bW; clear d7 O
  obtain ⟨g8, g9⟩ := g6
  refine ap d8 bW 1 (T := t8) (xs := h) (ys := [o]) (ao := m) (cap := n) (ao2 := (sm av)) (cap2 := 1) (t := 22) (e := 5) (bytes := 1) (nog rfl _) rfl (by kernel_rfl) rfl (by kernel_rfl) (by kernel_rfl) (by kernel_rfl) rfl (Src.row bW 0 rfl (RepAll.one (T := t8) (x := o) rfl)) g8 ?_; intro J L jH ha jI d9 ea; clear d8 bW
  have bX : Mem w.heap.size [] w Z [.row av [y8 o] 5, .own t8 5 J L (h ++ [o]), .own tySender 89 i f a] Z ha := ea; clear ea
  refine s1 d9 12 (.slice J (h ++ [o]).length L) ?_; intro jJ eb; clear d9
  refine nlH (d6 _ _ ?_); clear d6 g7
  refine sqB eb bX [] [] [(87, i6 (a.length : Int)), (88, i6 0)] ?_; intro ec ed; clear eb
  refine wp_block ?_
  have ee : Fr 149 [] [⟨4, [], .slice none 0 0⟩, ⟨6, [], .slice i a.length f⟩, ⟨12, [], .slice J (h ++ [o]).length L⟩, ⟨13, [], i6 j⟩, ⟨14, [], y8 o⟩, ⟨53, [], i6 z⟩, ⟨54, [], i6 j⟩, ⟨87, [], i6 (a.length : Int)⟩, ⟨88, [], i6 0⟩] ec := ed.reg; clear ed
  have ef : Fr 149 [] [⟨4, [], .slice none 0 0⟩, ⟨6, [], .slice i a.length f⟩, ⟨12, [], .slice J (h ++ [o]).length L⟩, ⟨13, [], i6 j⟩, ⟨14, [], y8 o⟩, ⟨53, [], i6 z⟩, ⟨54, [], i6 j⟩, ⟨87, [], i6 (a.length : Int)⟩, ⟨88, [], i6 0⟩] ec := ee.reg; clear ee
  obtain ⟨hb, hc, hd, he⟩ := g9
  refine lp (ι := Int × (List Sender)) (fun s => [⟨4, [], .slice none 0 0⟩, ⟨6, [], .slice i s.2.length f⟩, ⟨12, [], .slice J (h ++ [o]).length L⟩, ⟨13, [], i6 j⟩, ⟨14, [], y8 o⟩, ⟨53, [], i6 z⟩, ⟨54, [], i6 j⟩, ⟨87, [], i6 (a.length : Int)⟩, ⟨88, [], i6 s.1⟩]) (fun s => [.row av [y8 o] 5, .own t8 5 J L (h ++ [o]), .own tySender 89 i f s.2]) (fun s => Z) (fun s => hb s.1 s.2) (fun s => hc s.1 s.2) ⟨0, a⟩ hd (by exact ef.reg) (by exact bX) ?_
  rintro ⟨y, I⟩ hf hg hh eg eh
  have ei : Fr 149 [] [⟨4, [], .slice none 0 0⟩, ⟨6, [], .slice i I.length f⟩, ⟨12, [], .slice J (h ++ [o]).length L⟩, ⟨13, [], i6 j⟩, ⟨14, [], y8 o⟩, ⟨53, [], i6 z⟩, ⟨54, [], i6 j⟩, ⟨87, [], i6 (a.length : Int)⟩, ⟨88, [], i6 y⟩] hg := eg; clear eg ef
  have F : Mem w.heap.size [] w Z [.row av [y8 o] 5, .own t8 5 J L (h ++ [o]), .own tySender 89 i f I] Z hh := eh; clear eh bX
  have a9 := he y I hf
  refine sqB ei F [] [] [(89, .bool (decide (y < (a.length : Int))))] ?_; intro ej ba; clear ei
  refine wp_seq ?_
  refine cd ba (t := decide (y < (a.length : Int))) (by kernel_rfl) (fun bY => ?_) (fun bY => ?_)
  ·
   have hi := a9.1 bY; clear a9
   refine wp_skip ?_
   refine thn ?_
   have ek : Fr 149 [] [⟨4, [], .slice none 0 0⟩, ⟨6, [], .slice i I.length f⟩, ⟨12, [], .slice J (h ++ [o]).length L⟩, ⟨13, [], i6 j⟩, ⟨14, [], y8 o⟩, ⟨53, [], i6 z⟩, ⟨54, [], i6 j⟩, ⟨87, [], i6 (a.length : Int)⟩, ⟨88, [], i6 y⟩] ej := ba.reg; clear ba
   have bZ : Fr 149 [] [⟨4, [], .slice none 0 0⟩, ⟨6, [], .slice i I.length f⟩, ⟨12, [], .slice J (h ++ [o]).length L⟩, ⟨13, [], i6 j⟩, ⟨14, [], y8 o⟩, ⟨53, [], i6 z⟩, ⟨54, [], i6 j⟩, ⟨87, [], i6 (a.length : Int)⟩, ⟨88, [], i6 y⟩] ej := ek.reg; clear ek
   obtain ⟨hj, hk, hl⟩ := hi
   refine wp_seq_k fun KJ588 hKJ589 => ?_
   have bb : ∀ (aw : List Sender), hj aw → ∀ a1 w1, Fr 149 [] [⟨4, [], .slice none 0 0⟩, ⟨6, [], .slice i aw.length f⟩, ⟨12, [], .slice J (h ++ [o]).length L⟩, ⟨13, [], i6 j⟩, ⟨14, [], y8 o⟩, ⟨53, [], i6 z⟩, ⟨54, [], i6 j⟩, ⟨87, [], i6 (a.length : Int)⟩, ⟨88, [], i6 y⟩] a1 → Mem w.heap.size [] w Z [.row av [y8 o] 5, .own t8 5 J L (h ++ [o]), .own tySender 89 i f aw] Z w1 → KJ588 a1 w1 := by
    rintro aw hm jK jL el em; clear bZ F
    refine hKJ589 _ _ ?_; clear hKJ589
    have en := hl aw hm
    refine rgB el em [] [] [(88, i6 (w64 (y + 1)))] ?_; intro jM hn; clear el
    refine rd ?_
    exact ⟨⟨w64 (y + 1), aw⟩, en.1, en.2, (hn.reg).anyβ _ (by kernel_rfl), em.keep (List.Sublist.cons_cons _ (List.Sublist.cons_cons _ (List.Sublist.cons_cons _ (List.Sublist.slnil))))⟩
   refine wp_block ?_
   refine sqB bZ F [] [] [(18, i6 y)] ?_; intro jN eo; clear bZ
   refine sqH ?_; intro ho ep
   refine bt eo F 2 [] [] [(91, .slice i I.length f), (92, i6 y)] ?_; intro jO eq; clear eo
   obtain ⟨hq, er⟩ := hk
   refine ixo eq F 2 (T := tySender) (xs := I) y hq (k := .i64) (e := 89) (bytes := 24) (nog rfl _) rfl (by kernel_rfl) rfl (by kernel_rfl) (by kernel_rfl) rfl (by kernel_rfl) ?_; intro Q jP hr es; clear eq
   subst hr
   refine s1 es 19 (.pointer (some ⟨Q, y.toNat * 2, none⟩)) ?_; intro jQ et; clear es
   refine nlH (ep _ _ ?_); clear ep ho
   refine sqH ?_; intro b0 ax
   refine bt et F 3 [] [] [(96, .pointer (some ⟨Q, y.toNat * 2 + 1, none⟩))] ?_; intro jR eu; clear et
   obtain ⟨ac, hs, bc⟩ := gxq er (by first | omega | (simp only [List.length_set] at *; omega)); clear er
   obtain ⟨ht, hu, hv⟩ := own_el F 2 (T := tySender) (xs := I) rfl y.toNat hs
   obtain rfl : ht = ([str ac.row, i6 ac.lost] : List Value) := hu
   refine lc1 eu 97 (i6 ac.lost) (hv 1 _ rfl) rfl ?_; intro jS ev; clear eu
   refine bt ev F 2 [] [] [(99, .bool (decide (ac.lost < 0)))] ?_; intro jT bd; clear ev
   rcases Bool.eq_false_or_eq_true (decide (ac.lost < 0)) with aM | aM
   ·
    have ew := bc.1 aM; clear bc
    have ex := bd.reval (d := 99) (c := []) (v := .bool (decide (ac.lost < 0))) (by kernel_rfl) (.bool true) (by rw [aM]); clear bd
    refine bt ex F 4 [] [100, 101, 102, 103] [(100, i6 j), (103, .pointer (some ⟨Q, y.toNat * 2 + 0, none⟩))] ?_; intro jU b1; clear ex
    obtain ⟨ad, hx, be⟩ := gxq ew (by first | omega | (simp only [List.length_set] at *; omega)); clear ew
    obtain ⟨hy, hz, hA⟩ := own_el F 2 (T := tySender) (xs := I) rfl y.toNat hx
    obtain rfl : hy = ([str ad.row, i6 ad.lost] : List Value) := hz
    refine lc1 b1 104 (str ad.row) (hA 0 _ rfl) rfl ?_ (hw := (by rw [wanted_of b1 (b := true) rfl rfl (by kernel_rfl) (by kernel_rfl)]; rfl)); intro jV ey; clear b1
    refine bt ey F 4 [] [105, 106, 107] [(108, .bool (decide (j < (ad.row.length : Int))))] ?_; intro jW bf; clear ey
    rcases Bool.eq_false_or_eq_true (decide (j < (ad.row.length : Int))) with aN | aN
    ·
     have ez := be.1 aN; clear be
     have eA := bf.reval (d := 108) (c := []) (v := .bool (decide (j < (ad.row.length : Int)))) (by kernel_rfl) (.bool true) (by rw [aN]); clear bf
     refine bt eA F 3 [] [109, 110, 111] [(111, .pointer (some ⟨Q, y.toNat * 2 + 0, none⟩))] ?_; intro jX b2; clear eA
     obtain ⟨aO, hB, hC⟩ := gxq ez (by first | omega | (simp only [List.length_set] at *; omega)); clear ez
     obtain ⟨hD, hE, hF⟩ := own_el F 2 (T := tySender) (xs := I) rfl y.toNat hB
     obtain rfl : hD = ([str aO.row, i6 aO.lost] : List Value) := hE
     refine lc1 b2 112 (str aO.row) (hF 0 _ rfl) rfl ?_ (hw := (by rw [wanted_of b2 (b := true) rfl rfl (by kernel_rfl) (by kernel_rfl)]; rfl)); intro jY bg; clear b2
     refine st bg (i6 j) (by rw [wanted_of bg (b := true) rfl rfl (by kernel_rfl) (by kernel_rfl)]; rfl) rfl (by kernel_rfl) (p0 bg (by kernel_rfl)) ?_; intro jZ bh; clear bg
     obtain ⟨hG, hH⟩ := hC
     obtain ⟨ay, eB⟩ : ∃ q, aO.row[j.toNat]? = some q := ⟨_, List.getElem?_eq_getElem (by omega)⟩; have bi := hH ay eB
     refine st bh (y8 (ay.toNat : Int)) (by rw [wanted_of bh (b := true) rfl rfl (by kernel_rfl) (by kernel_rfl)]; rfl) rfl (by kernel_rfl) (stridx_run bh (k := .i64) rfl (by kernel_rfl) (by kernel_rfl) (by kernel_rfl) hG.1 eB) ?_; intro j0 eC; clear bh
     refine bt eC F 3 [] [115, 116, 117] [(117, .bool ((ay.toNat : Int) != o))] ?_; intro j1 bj; clear eC
     refine nlH (ax _ _ ?_); clear ax b0
     refine cd bj (t := (ay.toNat : Int) != o) (by kernel_rfl) (fun b3 => ?_) (fun b3 => ?_)
     ·
      have eD := bi.1 b3; clear bi
      refine rgH ?_; intro hI eE
      refine bt bj F 4 [] [] [(119, i6 j), (121, .pointer (some ⟨Q, y.toNat * 2 + 1, none⟩))] ?_; intro hJ bk; clear bj
      obtain ⟨ae, hK, hL⟩ := gxq eD (by first | omega | (simp only [List.length_set] at *; omega)); clear eD
      refine soP bk F 2 (T := tySender) (xs := I) y.toNat 1 ae (⟨ae.row, j⟩ : Sender) hK (u := i6 j) (nog rfl _) rfl rfl (by kernel_rfl) rfl (by kernel_rfl) rfl (by kernel_rfl) (by kernel_rfl) (by kernel_rfl) (fun cs9 hT9 => by obtain rfl : cs9 = ([str ae.row, i6 ae.lost] : List Value) := hT9; exact rfl) ?_; intro hM eF; clear F
      have hN : Fr 149 [] [⟨4, [], .slice none 0 0⟩, ⟨6, [], .slice (sm Q) (I.set y.toNat (⟨ae.row, j⟩ : Sender)).length f⟩, ⟨12, [], .slice J (h ++ [o]).length L⟩, ⟨13, [], i6 j⟩, ⟨14, [], y8 o⟩, ⟨18, [], i6 y⟩, ⟨19, [], .pointer (some ⟨Q, y.toNat * 2, none⟩)⟩, ⟨53, [], i6 z⟩, ⟨54, [], i6 j⟩, ⟨87, [], i6 (a.length : Int)⟩, ⟨88, [], i6 y⟩, ⟨91, [], .slice (sm Q) (I.set y.toNat (⟨ae.row, j⟩ : Sender)).length f⟩, ⟨92, [], i6 y⟩, ⟨93, [], .pointer (some ⟨Q, y.toNat * 2, none⟩)⟩, ⟨96, [], .pointer (some ⟨Q, y.toNat * 2 + 1, none⟩)⟩, ⟨97, [], i6 ac.lost⟩, ⟨99, [], .bool true⟩, ⟨100, [], i6 j⟩, ⟨103, [], .pointer (some ⟨Q, y.toNat * 2 + 0, none⟩)⟩, ⟨104, [], str ad.row⟩, ⟨108, [], .bool true⟩, ⟨111, [], .pointer (some ⟨Q, y.toNat * 2 + 0, none⟩)⟩, ⟨112, [], str aO.row⟩, ⟨113, [], i6 j⟩, ⟨114, [], y8 (ay.toNat : Int)⟩, ⟨117, [], .bool ((ay.toNat : Int) != o)⟩, ⟨119, [], i6 j⟩, ⟨121, [], .pointer (some ⟨Q, y.toNat * 2 + 1, none⟩)⟩] hJ := by (try simp only [List.length_set] at bk); (try simp only [List.length_set]); exact bk.reg
      clear bk
      have hO : Mem w.heap.size [] w Z [.row av [y8 o] 5, .own t8 5 J L (h ++ [o]), .own tySender 89 (sm Q) f (I.set y.toNat (⟨ae.row, j⟩ : Sender))] Z hM := eF; clear eF
      refine nlH (eE _ _ ?_); clear eE hI
      refine ibn ?_
      refine rd ?_
      exact bb (I.set y.toNat (⟨ae.row, j⟩ : Sender)) hL _ _ ((hN.reg).anyβ _ (by kernel_rfl)) (hO.keep (List.Sublist.cons_cons _ (List.Sublist.cons_cons _ (List.Sublist.cons_cons _ (List.Sublist.slnil)))))
     have hP := bi.2 b3; clear bi
     refine wp_skip ?_
     refine ibn ?_
     refine rd ?_
     exact bb I hP _ _ ((bj.reg).anyβ _ (by kernel_rfl)) (F.keep (List.Sublist.cons_cons _ (List.Sublist.cons_cons _ (List.Sublist.cons_cons _ (List.Sublist.slnil)))))
    have hQ := be.2 aN; clear be
    have eG := bf.reval (d := 108) (c := []) (v := .bool (decide (j < (ad.row.length : Int)))) (by kernel_rfl) (.bool false) (by rw [aN]); clear bf
    refine bt eG F 9 [] [109, 110, 111, 112, 113, 114, 115, 116, 117] [(117, .bool false)] ?_; intro j2 eH; clear eG
    refine nlH (ax _ _ ?_); clear ax b0
    refine cdF eH (by kernel_rfl) ?_
    refine wp_skip ?_
    refine ibn ?_
    refine rd ?_
    exact bb I hQ _ _ ((eH.reg).anyβ _ (by kernel_rfl)) (F.keep (List.Sublist.cons_cons _ (List.Sublist.cons_cons _ (List.Sublist.cons_cons _ (List.Sublist.slnil)))))
   have hR := bc.2 aM; clear bc
   have eI := bd.reval (d := 99) (c := []) (v := .bool (decide (ac.lost < 0))) (by kernel_rfl) (.bool false) (by rw [aM]); clear bd
   refine bt eI F 18 [] [100, 101, 102, 103, 104, 105, 106, 107, 109, 110, 111, 112, 113, 114, 115, 116, 117] [(117, .bool false)] ?_; intro j3 eJ; clear eI
   refine nlH (ax _ _ ?_); clear ax b0
   refine cdF eJ (by kernel_rfl) ?_
   refine wp_skip ?_
   refine ibn ?_
   refine rd ?_
   exact bb I hR _ _ ((eJ.reg).anyβ _ (by kernel_rfl)) (F.keep (List.Sublist.cons_cons _ (List.Sublist.cons_cons _ (List.Sublist.cons_cons _ (List.Sublist.slnil)))))
  have hS := a9.2 bY; clear a9
  refine wp_exit ?_
  refine thx ?_
  refine thx ?_
  refine ibx ?_
  refine ibn ?_
  refine rd ?_
  exact f3 (h ++ [o]) I J L hS _ _ ((ba.reg).anyβ _ (by kernel_rfl)) (F.keep (List.Sublist.cons _ (List.Sublist.cons_cons _ (List.Sublist.cons_cons _ (List.Sublist.slnil)))))
 have hT := aW.2 bC; clear aW
 refine wp_exit ?_
 refine thx ?_
 refine thx ?_
 refine ibx ?_
 refine thn ?_
 refine sqB aE R [] [] [(3, i6 (-1))] ?_; intro j4 eK; clear aE
 refine wp_seq ?_
 refine sqB eK R [] [] [(124, .slice i a.length f), (125, i6 (a.length : Int)), (126, i6 0)] ?_; intro eL eM; clear eK
 refine wp_block ?_
 have eN : Fr 149 [] [⟨3, [], i6 (-1)⟩, ⟨4, [], .slice none 0 0⟩, ⟨12, [], .slice m h.length n⟩, ⟨124, [], .slice i a.length f⟩, ⟨125, [], i6 (a.length : Int)⟩, ⟨126, [], i6 0⟩] eL := eM.reg; clear eM
 have eO : Mem w.heap.size [] w Z [.own t6 3 none 0 ([] : List Int), .own t8 5 m n h, .own tySender 89 i f a] Z cX := R.addNil t6 3 (by decide); clear R
 have eP : Fr 149 [] [⟨3, [], i6 (-1)⟩, ⟨4, [], .slice none ([] : List Int).length 0⟩, ⟨12, [], .slice m h.length n⟩, ⟨124, [], .slice i a.length f⟩, ⟨125, [], i6 (a.length : Int)⟩, ⟨126, [], i6 0⟩] eL := eN.reg; clear eN
 obtain ⟨hU, hV, hW, hX⟩ := hT
 refine lp (ι := Int × (List Int) × Int × (Option Addr) × Nat) (fun s => [⟨3, [], i6 s.1⟩, ⟨4, [], .slice s.2.2.2.1 s.2.1.length s.2.2.2.2⟩, ⟨12, [], .slice m h.length n⟩, ⟨124, [], .slice i a.length f⟩, ⟨125, [], i6 (a.length : Int)⟩, ⟨126, [], i6 s.2.2.1⟩]) (fun s => [.own t6 3 s.2.2.2.1 s.2.2.2.2 s.2.1, .own t8 5 m n h, .own tySender 89 i f a]) (fun s => Z) (fun s => hU s.1 s.2.1 s.2.2.1) (fun s => hV s.1 s.2.1 s.2.2.1) ⟨-1, ([] : List Int), 0, none, 0⟩ hW (by exact eP.reg) (by exact eO) ?_
 rintro ⟨G, A, p, D, E⟩ hY h0 h1 eQ eR
 have eS : Fr 149 [] [⟨3, [], i6 G⟩, ⟨4, [], .slice D A.length E⟩, ⟨12, [], .slice m h.length n⟩, ⟨124, [], .slice i a.length f⟩, ⟨125, [], i6 (a.length : Int)⟩, ⟨126, [], i6 p⟩] h0 := eQ; clear eQ eP
 have af : Mem w.heap.size [] w Z [.own t6 3 D E A, .own t8 5 m n h, .own tySender 89 i f a] Z h1 := eR; clear eR eO
 have bl := hX G A p hY
 refine sqB eS af [] [] [(127, .bool (decide (p < (a.length : Int))))] ?_; intro j5 aP; clear eS
 refine wp_seq ?_
 refine cd aP (t := decide (p < (a.length : Int))) (by kernel_rfl) (fun b4 => ?_) (fun b4 => ?_)
 ·
  have h2 := bl.1 b4; clear bl
  refine wp_skip ?_
  refine thn ?_
  refine wp_seq ?_
  refine wp_block ?_
  refine sqH ?_; intro h3 eT
  refine s1 aP 128 (i6 p) ?_; intro j6 eU; clear aP
  obtain ⟨h4, eV⟩ := h2
  refine ixo eU af 2 (T := tySender) (xs := a) p h4 (k := .i64) (e := 89) (bytes := 24) (nog rfl _) rfl (by kernel_rfl) rfl (by kernel_rfl) (by kernel_rfl) rfl (by kernel_rfl) ?_; intro am j7 h5 eW; clear eU
  subst h5
  obtain ⟨C, h6, h7⟩ := gxq eV (by first | omega | (simp only [List.length_set] at *; omega)); clear eV
  obtain ⟨h8, h9, ia⟩ := own_el af 2 (T := tySender) (xs := a) rfl p.toNat h6
  obtain rfl : h8 = ([str C.row, i6 C.lost] : List Value) := h9
  refine lc2 eW 130 2 [str C.row, i6 C.lost] ia rfl ?_; intro j8 eX; clear eW
  refine nw eX af pb [str [], i6 0] 89 ?_; intro an j9 ka eY eZ; clear eX af
  refine s1 eY 20 (i6 p) ?_; intro e0 b5; clear eY
  refine sx b5 eZ 0 [str C.row, i6 C.lost] 0 ?_; intro e1 e2; clear eZ
  have Y : Mem w.heap.size [] w Z [.row an [str C.row, i6 C.lost] 89, .own t6 3 D E A, .own t8 5 m n h, .own tySender 89 (sm am) f a] Z e1 := e2; clear e2
  refine nlH (eT _ _ ?_); clear eT h3
  have e3 : Fr 149 [] [⟨3, [], i6 G⟩, ⟨4, [], .slice D A.length E⟩, ⟨12, [], .slice m h.length n⟩, ⟨20, [], i6 p⟩, ⟨21, [], pt an 0⟩, ⟨124, [], .slice (sm am) a.length f⟩, ⟨125, [], i6 (a.length : Int)⟩, ⟨126, [], i6 p⟩] e0 := b5.reg; clear b5
  have b6 : Fr 149 [] [⟨3, [], i6 G⟩, ⟨4, [], .slice D A.length E⟩, ⟨12, [], .slice m h.length n⟩, ⟨20, [], i6 p⟩, ⟨21, [], pt an 0⟩, ⟨124, [], .slice (sm am) a.length f⟩, ⟨125, [], i6 (a.length : Int)⟩, ⟨126, [], i6 p⟩] e0 := e3.reg; clear e3
  obtain ⟨ib, bm, ic⟩ := h7
  refine wp_seq_k fun KJ839 hKJ840 => ?_
  have e4 : ∀ (U : Int) (H : List Int) (V : Option Addr) (W : Nat), ib U H → ∀ a1 w1, Fr 149 [] [⟨3, [], i6 U⟩, ⟨4, [], .slice V H.length W⟩, ⟨12, [], .slice m h.length n⟩, ⟨21, [], pt an 0⟩, ⟨124, [], .slice (sm am) a.length f⟩, ⟨125, [], i6 (a.length : Int)⟩, ⟨126, [], i6 p⟩] a1 → Mem w.heap.size [] w Z [.row an [str C.row, i6 C.lost] 89, .own t6 3 V W H, .own t8 5 m n h, .own tySender 89 (sm am) f a] Z w1 → KJ839 a1 w1 := by
   rintro U H V W id kb kc e5 b7; clear b6 Y
   refine hKJ840 _ _ ?_; clear hKJ840
   have ie := ic U H id
   refine rgH ?_; intro ig e6
   refine bt e5 b7 3 [0] [] [(139, .slice V H.length W), (141, i6 C.lost)] ?_; intro kd e7; clear e5
   refine nw e7 b7 (fun b => .slice (sm b) 1 1) [i6 C.lost] 3 ?_; intro e8 ke kf e9 b8; clear e7 b7
   obtain ⟨ih, fa⟩ := ie
   refine ap e9 b8 2 (T := t6) (xs := H) (ys := [C.lost]) (ao := V) (cap := W) (ao2 := (sm e8)) (cap2 := 1) (t := 43) (e := 3) (bytes := 8) (nog rfl _) rfl (by kernel_rfl) rfl (by kernel_rfl) (by kernel_rfl) (by kernel_rfl) rfl (Src.row b8 0 rfl (RepAll.one (T := t6) (x := C.lost) rfl)) ih ?_; intro b9 ca kg ii kh fb fd; clear e9 b8
   have fe : Mem w.heap.size [] w Z [.row e8 [i6 C.lost] 3, .row an [str C.row, i6 C.lost] 89, .own t6 3 b9 ca (H ++ [C.lost]), .own t8 5 m n h, .own tySender 89 (sm am) f a] Z ii := fd; clear fd
   refine s1 fb 4 (.slice b9 (H ++ [C.lost]).length ca) ?_; intro ki ff; clear fb
   refine nlH (e6 _ _ ?_); clear e6 ig
   refine ibn ?_
   refine thn ?_
   refine rgB ff fe [] [] [(126, i6 (w64 (p + 1)))] ?_; intro kj ij; clear ff
   refine rd ?_
   exact ⟨⟨U, H ++ [C.lost], w64 (p + 1), b9, ca⟩, fa.1, fa.2, (ij.reg).anyβ _ (by kernel_rfl), fe.keep (List.Sublist.cons _ (List.Sublist.cons _ (List.Sublist.cons_cons _ (List.Sublist.cons_cons _ (List.Sublist.cons_cons _ (List.Sublist.slnil))))))⟩
  refine wp_block ?_
  refine sqB b6 Y [0] [] [(132, .bool (decide (C.lost ≥ 0)))] ?_; intro kk bn; clear b6
  refine cd bn (t := decide (C.lost ≥ 0)) (by kernel_rfl) (fun cb => ?_) (fun cb => ?_)
  ·
   have ik := bm.1 cb; clear bm
   refine wp_skip ?_
   refine ibn ?_
   refine rd ?_
   exact e4 G A D E ik _ _ ((bn.reg).anyβ _ (by kernel_rfl)) (Y.keep (List.Sublist.cons_cons _ (List.Sublist.cons_cons _ (List.Sublist.cons_cons _ (List.Sublist.cons_cons _ (List.Sublist.slnil))))))
  have bo := bm.2 cb; clear bm
  refine sqB bn Y [] [] [(136, .bool (decide (G ≥ 0)))] ?_; intro kl aQ; clear bn
  refine cd aQ (t := decide (G ≥ 0)) (by kernel_rfl) (fun cc => ?_) (fun cc => ?_)
  ·
   have il := bo.1 cc; clear bo
   refine sqB aQ Y [] [] [(2, str []), (3, i6 0), (4, .slice none 0 0), (5, i6 9)] ?_; intro km fg; clear aQ
   refine wp_ret ?_
   refine ibr ?_
   refine thr ?_
   refine ibr ?_
   refine thr ?_
   refine thr ?_
   refine ibr ?_
   refine thr ?_
   have im : Mem w.heap.size [] w Z [.own t6 3 none 0 ([] : List Int), .row an [str C.row, i6 C.lost] 89, .own t6 3 D E A, .own t8 5 m n h, .own tySender 89 (sm am) f a] Z e1 := Y.addNil t6 3 (by decide); clear Y
   refine rt (fn := Tryz.f24) (v := .tuple #[str [], i6 0, .slice none ([] : List Int).length 0, i6 9]) fg (re4 fg (fn := Tryz.f24) rfl (by kernel_rfl) (by kernel_rfl) (by kernel_rfl) (by kernel_rfl)) ?_
   exact ⟨([], 0, ([] : List Int), 9), none, 0, Z, rfl, il, im.keep (List.Sublist.cons_cons _ (List.Sublist.cons _ (List.Sublist.cons _ (List.Sublist.cons _ (List.Sublist.cons _ (List.Sublist.slnil))))))⟩
  have io := bo.2 cc; clear bo
  refine rgB aQ Y [] [] [(3, i6 p)] ?_; intro kn ip; clear aQ
  refine ibn ?_
  refine rd ?_
  exact e4 p A D E io _ _ ((ip.reg).anyβ _ (by kernel_rfl)) (Y.keep (List.Sublist.cons_cons _ (List.Sublist.cons_cons _ (List.Sublist.cons_cons _ (List.Sublist.cons_cons _ (List.Sublist.slnil))))))
 have iq := bl.2 b4; clear bl
 refine wp_exit ?_
 refine thx ?_
 refine thx ?_
 refine ibx ?_
 refine thn ?_
 refine sqH ?_; intro ir fh
 refine s1 aP 145 (.slice m h.length n) ?_; intro ko ce; clear aP
 refine st ce (str (bstr h)) (nog rfl _) rfl (by kernel_rfl) ((by obtain ⟨Z9, g5, bU, bV⟩ := af.lend 1 rfl; exact bstr_op ce (g := []) (e := 5) (ao := m) (cap := n) (xs := h) rfl (by kernel_rfl) (by kernel_rfl) (by kernel_rfl) (by kernel_rfl)  bV bU rfl)) ?_; intro kp fi; clear ce
 refine bt fi af 6 [] [] [(2, str (bstr h)), (3, i6 G), (4, .slice D A.length E), (5, i6 0)] ?_; intro kq fj; clear fi
 refine nlH (fh _ _ ?_); clear fh ir
 refine wp_ret ?_
 refine rt (fn := Tryz.f24) (v := .tuple #[str (bstr h), i6 G, .slice D A.length E, i6 0]) fj (re4 fj (fn := Tryz.f24) rfl (by kernel_rfl) (by kernel_rfl) (by kernel_rfl) (by kernel_rfl)) ?_
 exact ⟨(bstr h, G, A, 0), D, E, Z, rfl, iq, af.keep (List.Sublist.cons_cons _ (List.Sublist.cons _ (List.Sublist.cons _ (List.Sublist.slnil))))⟩

theorem ieq_walk (u0 : List Int) (u1 : List Int) (ao1 : Option Addr) (cap2 : Nat) (ao4 : Option Addr) (cap5 : Nat) (Z : Fz) (w : World) (hs3 : SlR t6 Z ao1 cap2 u0) (hs6 : SlR t6 Z ao4 cap5 u1) (hZ : Z.on w) {K : Bool → Prop} (hp : ieq_vc u0 u1 K) : Calls Tryz.prog 28 #[.slice ao1 u0.length cap2, .slice ao4 u1.length cap5] w fun e w' => ∃ r : Bool, e = .returned (.bool r) ∧ K r ∧ Below w.heap.size w w' := by
 refine enter0 Tryz.func28 rfl rfl (by kernel_rfl) ?_; intro a0 y; have b := Mem.start w Z hZ; have aC := Fz.le.refl Z
 have z := hp (hs3.small); clear hp
 have l := z (hs6.small); clear z
 refine sqB y b [] [] [] ?_; intro aD A; clear y
 refine wp_seq ?_
 refine sqB A b [] [] [(10, .bool ((u0.length : Int) != (u1.length : Int)))] ?_; intro aE d; clear A
 refine cd d (t := (u0.length : Int) != (u1.length : Int)) (by kernel_rfl) (fun p => ?_) (fun p => ?_)
 ·
  have W := l.1 p; clear l
  refine sqB d b [] [] [(4, .bool false)] ?_; intro aF X; clear d
  refine wp_ret ?_
  refine thr ?_
  refine ra1 X (.bool false) ?_
  exact ⟨false, rfl, W, b.below⟩
 have Y := l.2 p; clear l
 refine wp_skip ?_
 refine thn ?_
 refine wp_seq ?_
 refine sqB d b [] [] [(12, i6 (u0.length : Int)), (13, i6 0)] ?_; intro B C; clear d
 refine wp_block ?_
 have D : Fr 26 [] [⟨0, [], .slice ao1 u0.length cap2⟩, ⟨1, [], .slice ao4 u1.length cap5⟩, ⟨12, [], i6 (u0.length : Int)⟩, ⟨13, [], i6 0⟩] B := C.reg; clear C
 have E : Fr 26 [] [⟨0, [], .slice ao1 u0.length cap2⟩, ⟨1, [], .slice ao4 u1.length cap5⟩, ⟨12, [], i6 (u0.length : Int)⟩, ⟨13, [], i6 0⟩] B := D.reg; clear D
 obtain ⟨aa, ab, ac, ad⟩ := Y
 refine lp (ι := Int) (fun s => [⟨0, [], .slice ao1 u0.length cap2⟩, ⟨1, [], .slice ao4 u1.length cap5⟩, ⟨12, [], i6 (u0.length : Int)⟩, ⟨13, [], i6 s⟩]) (fun s => []) (fun s => Z) (fun s => aa s) (fun s => ab s) 0 ac (by exact E.reg) (by exact b) ?_
 rintro a ae af ag F G
 have H : Fr 26 [] [⟨0, [], .slice ao1 u0.length cap2⟩, ⟨1, [], .slice ao4 u1.length cap5⟩, ⟨12, [], i6 (u0.length : Int)⟩, ⟨13, [], i6 a⟩] af := F; clear F E
 have c : Mem w.heap.size [] w Z [] Z ag := G; clear G b
 have m := ad a ae
 refine sqB H c [] [] [(14, .bool (decide (a < (u0.length : Int))))] ?_; intro aG f; clear H
 refine wp_seq ?_
 refine cd f (t := decide (a < (u0.length : Int))) (by kernel_rfl) (fun q => ?_) (fun q => ?_)
 ·
  have ah := m.1 q; clear m
  refine wp_skip ?_
  refine thn ?_
  refine wp_seq ?_
  refine wp_block ?_
  refine sqB f c [] [] [(5, i6 a)] ?_; intro ai I; clear f
  have J : Fr 26 [] [⟨0, [], .slice ao1 u0.length cap2⟩, ⟨1, [], .slice ao4 u1.length cap5⟩, ⟨5, [], i6 a⟩, ⟨12, [], i6 (u0.length : Int)⟩, ⟨13, [], i6 a⟩] ai := I.reg; clear I
  refine sqQH mixed (by kernel_rfl) c ?_; intro aj L
  refine q1 J 16 (.slice ao1 u0.length cap2) ?_; intro aH M; clear J
  refine q1 M 17 (i6 a) ?_; intro aI N; clear M
  obtain ⟨ak, O⟩ := ah
  refine qix N (T := t6) (xs := u0) hs3 a ak (k := .i64) (e := 3) (bytes := 8) (nog rfl _) rfl (by kernel_rfl) rfl (by kernel_rfl) (by kernel_rfl) (by kernel_rfl) ?_; intro aJ aK al h aL am an ao u; clear N
  have ap := O h am; clear O
  obtain rfl : al = ([i6 h] : List Value) := ao
  refine qst u (i6 h) (nog rfl _) rfl (by kernel_rfl) (fun v81 hC => lz u hC.fz an 0 (g := []) rfl (by kernel_rfl) (by kernel_rfl) (by kernel_rfl) rfl) ?_; intro aM P; clear u
  refine q1 P 20 (.slice ao4 u1.length cap5) ?_; intro aN Q; clear P
  refine q1 Q 21 (i6 a) ?_; intro aO R; clear Q
  obtain ⟨aq, S⟩ := ap
  refine qix R (T := t6) (xs := u1) hs6 a aq (k := .i64) (e := 3) (bytes := 8) (nog rfl _) rfl (by kernel_rfl) rfl (by kernel_rfl) (by kernel_rfl) (by kernel_rfl) ?_; intro aP aQ ar i aR au av aw v; clear R
  have n := S i au; clear S
  obtain rfl : ar = ([i6 i] : List Value) := aw
  refine qst v (i6 i) (nog rfl _) rfl (by kernel_rfl) (fun v103 hC => lz v hC.fz av 0 (g := []) rfl (by kernel_rfl) (by kernel_rfl) (by kernel_rfl) rfl) ?_; intro aS U; clear v
  refine q1 U 24 (.bool (h != i)) ?_; intro aT j; clear U
  refine qnl (L _ ?_); clear L aj; intro aU o; clear c
  refine cd j (t := h != i) (by kernel_rfl) (fun x => ?_) (fun x => ?_)
  ·
   have ax := n.1 x; clear n
   refine sqB j o [] [] [(4, .bool false)] ?_; intro aV ay; clear j
   refine wp_ret ?_
   refine ibr ?_
   refine thr ?_
   refine thr ?_
   refine ibr ?_
   refine thr ?_
   refine ra1 ay (.bool false) ?_
   exact ⟨false, rfl, ax, o.below⟩
  have V := n.2 x; clear n
  refine wp_skip ?_
  refine ibn ?_
  refine thn ?_
  refine rgB j o [] [] [(13, i6 (w64 (a + 1)))] ?_; intro aW az; clear j
  refine rd ?_
  exact ⟨w64 (a + 1), V.1, V.2, (az.reg).anyβ _ (by kernel_rfl), o.keep (List.Sublist.slnil)⟩
 have aA := m.2 q; clear m
 refine wp_exit ?_
 refine thx ?_
 refine thx ?_
 refine ibx ?_
 refine thn ?_
 refine sqB f c [] [] [(4, .bool true)] ?_; intro aX aB; clear f
 refine wp_ret ?_
 refine ra1 aB (.bool true) ?_
 exact ⟨true, rfl, aA, c.below⟩

end Go.Proofs.YtmbdcehmeiiaoaaGreatDoor
set_option linter.unusedVariables false
set_option linter.unusedSimpArgs false
set_option maxRecDepth 100000
set_option maxHeartbeats 0
namespace Go.Proofs.YtmbdcehmeiiaoaaGreatDoor
open Go.Sy Go.RowKit
theorem wsend_fun (u0 : List Frame) (hpre : ∀ f ∈ u0, ∀ x ∈ f.Data, 0 ≤ x ∧ x ≤ 255) (ao1 : Option Addr) (cap2 : Nat) (Z : Fz) (w : World) (hs3 : SlR tyFrame Z ao1 cap2 u0) (hZ : Z.on w) : Calls Tryz.prog 24 #[.slice ao1 u0.length cap2] w fun e w' => ∃ (ao1001 : Option Addr) (cap1002 : Nat) (Z' : Fz), e = .returned (.tuple #[str (sendS u0).1, i6 (sendS u0).2.1, .slice ao1001 (sendS u0).2.2.1.length cap1002, i6 (sendS u0).2.2.2]) ∧ Mem w.heap.size [] w Z [.own t6 3 ao1001 cap1002 (sendS u0).2.2.1] Z' w' :=
  (wsend_walk u0 ao1 cap2 Z w hs3 hZ (wsend_ok u0 hpre)).mono fun _ _ ⟨r, h0, h1, h2, he, hk, hm⟩ => by subst hk; exact ⟨h0, h1, h2, he, hm⟩

theorem ieq_fun (u0 : List Int) (u1 : List Int) (ao1 : Option Addr) (cap2 : Nat) (ao4 : Option Addr) (cap5 : Nat) (Z : Fz) (w : World) (hs3 : SlR t6 Z ao1 cap2 u0) (hs6 : SlR t6 Z ao4 cap5 u1) (hZ : Z.on w) : Calls Tryz.prog 28 #[.slice ao1 u0.length cap2, .slice ao4 u1.length cap5] w fun e w' => e = .returned (.bool (ieqS u0 u1)) ∧ Below w.heap.size w w' :=
  (ieq_walk u0 u1 ao1 cap2 ao4 cap5 Z w hs3 hs6 hZ (ieq_ok u0 u1)).mono fun _ _ ⟨r, he, hk, hb⟩ => ⟨by subst hk; exact he, hb⟩

theorem wired_walk   (Z : Fz) (w : World)  (hZ : Z.on w) {K : Bool → Prop} (hp : wired_vc  K) : Calls Tryz.prog 25 #[] w fun e w' => ∃ r : Bool, e = .returned (.bool r) ∧ K r ∧ Below w.heap.size w w' := by
 refine enter0 Tryz.func25 rfl rfl (by kernel_rfl) ?_; intro a0 D; have l := Mem.start w Z hZ; have a := Fz.le.refl Z
 refine sqB D l [] [] [] ?_; intro a2 E; clear D
 refine sqH ?_; intro ag F
 refine bt E l 2 [] [] [(8, .agg #[i6 6, .bool false, .bool false, .bool false, i6 0, .slice none 0 0]), (9, .agg #[i6 5, .bool false, .bool false, .bool false, i6 0, .slice none 0 0])] ?_; intro a7 G; clear E
 refine nw G l (fun b => .slice (sm b) 2 2) [i6 6, .bool false, .bool false, .bool false, i6 0, .slice none 0 0, i6 5, .bool false, .bool false, .bool false, i6 0, .slice none 0 0] 24 ?_; intro s aA H I J; clear G l
 have ah : Mem w.heap.size [] w Z [.own tyFrame 24 (sm s) 2 ([(⟨6, false, false, false, 0, []⟩ : Frame), (⟨5, false, false, false, 0, []⟩ : Frame)] : List Frame)] Z H := J.rowOwn (T := tyFrame) (xs := ([(⟨6, false, false, false, 0, []⟩ : Frame), (⟨5, false, false, false, 0, []⟩ : Frame)] : List Frame)) 0 rfl (by decide) (by show 2 ≤ lim; decide) ((RepAll.one (T := tyFrame) (x := (⟨6, false, false, false, 0, []⟩ : Frame)) ⟨none, 0, rfl, SlR.nil _ _⟩).append (RepAll.one (T := tyFrame) (x := (⟨5, false, false, false, 0, []⟩ : Frame)) ⟨none, 0, rfl, SlR.nil _ _⟩)); clear J
 obtain ⟨ai, aj, L, f⟩ := ah.freeze 0 rfl
 replace a := Fz.le.trans a aj
 have t : Mem w.heap.size [] w Z [] ai H := L; clear L
 obtain ⟨ak, M⟩ := hp
 refine ck I 24 #[.slice (sm s) ([(⟨6, false, false, false, 0, []⟩ : Frame), (⟨5, false, false, false, 0, []⟩ : Frame)] : List Frame).length 2] ?_
 refine (wsend_fun ([(⟨6, false, false, false, 0, []⟩ : Frame), (⟨5, false, false, false, 0, []⟩ : Frame)] : List Frame) ak (sm s) 2 _ _ f t.fz).mono ?_; rintro _ al ⟨h, i, am, rfl, hm⟩; refine ⟨_, rfl, ?_⟩; intro aB N; have O := t.callZ hm; have P := hm.ext.le; clear hm t I
 replace f := f.mono P
 replace a := Fz.le.trans a P
 have j : Mem w.heap.size [] w Z [.own t6 3 h i (sendS ([(⟨6, false, false, false, 0, []⟩ : Frame), (⟨5, false, false, false, 0, []⟩ : Frame)] : List Frame)).2.2.1] am al := O; clear O
 have an := M (j.ownSmall 0 rfl); clear M
 refine bt N j 9 [] [] [(1, str (sendS ([(⟨6, false, false, false, 0, []⟩ : Frame), (⟨5, false, false, false, 0, []⟩ : Frame)] : List Frame)).1), (2, i6 (sendS ([(⟨6, false, false, false, 0, []⟩ : Frame), (⟨5, false, false, false, 0, []⟩ : Frame)] : List Frame)).2.1), (3, .slice h (sendS ([(⟨6, false, false, false, 0, []⟩ : Frame), (⟨5, false, false, false, 0, []⟩ : Frame)] : List Frame)).2.2.1.length i), (4, i6 (sendS ([(⟨6, false, false, false, 0, []⟩ : Frame), (⟨5, false, false, false, 0, []⟩ : Frame)] : List Frame)).2.2.2)] ?_; intro aC Q; clear N
 refine nlH (F _ _ ?_); clear F ag
 refine sqH ?_; intro ao R
 refine s1 Q 17 (.agg #[i6 5, .bool false, .bool false, .bool false, i6 0, .slice none 0 0]) ?_; intro aD S; clear Q
 obtain ⟨ap, m⟩ := an
 refine fc S j (fBits_fun (⟨5, false, false, false, 0, []⟩ : Frame) ap none 0 _ _ (SlR.nil _ _) j.fz) ?_; intro aE aF U g; clear S j
 refine bt U g 5 [] [] [(5, str (BitsS (⟨5, false, false, false, 0, []⟩ : Frame)).1), (6, i6 (BitsS (⟨5, false, false, false, 0, []⟩ : Frame)).2)] ?_; intro aG V; clear U
 refine nlH (R _ _ ?_); clear R ao
 refine sqH ?_; intro W n
 refine bt V g 16 [] [71] [(36, .bool (((((sendS ([(⟨6, false, false, false, 0, []⟩ : Frame), (⟨5, false, false, false, 0, []⟩ : Frame)] : List Frame)).2.2.2 == 0) && ((BitsS (⟨5, false, false, false, 0, []⟩ : Frame)).2 == 0)) && ((sendS ([(⟨6, false, false, false, 0, []⟩ : Frame), (⟨5, false, false, false, 0, []⟩ : Frame)] : List Frame)).1 == (BitsS (⟨5, false, false, false, 0, []⟩ : Frame)).1)) && ((sendS ([(⟨6, false, false, false, 0, []⟩ : Frame), (⟨5, false, false, false, 0, []⟩ : Frame)] : List Frame)).2.1 == 1)))] ?_; intro aH o; clear V
 rcases Bool.eq_false_or_eq_true (((((sendS ([(⟨6, false, false, false, 0, []⟩ : Frame), (⟨5, false, false, false, 0, []⟩ : Frame)] : List Frame)).2.2.2 == 0) && ((BitsS (⟨5, false, false, false, 0, []⟩ : Frame)).2 == 0)) && ((sendS ([(⟨6, false, false, false, 0, []⟩ : Frame), (⟨5, false, false, false, 0, []⟩ : Frame)] : List Frame)).1 == (BitsS (⟨5, false, false, false, 0, []⟩ : Frame)).1)) && ((sendS ([(⟨6, false, false, false, 0, []⟩ : Frame), (⟨5, false, false, false, 0, []⟩ : Frame)] : List Frame)).2.1 == 1)) with k | k
 · -- true
  have aq := m.1 k; clear m
  have p := o.reval (d := 36) (c := []) (v := .bool (((((sendS ([(⟨6, false, false, false, 0, []⟩ : Frame), (⟨5, false, false, false, 0, []⟩ : Frame)] : List Frame)).2.2.2 == 0) && ((BitsS (⟨5, false, false, false, 0, []⟩ : Frame)).2 == 0)) && ((sendS ([(⟨6, false, false, false, 0, []⟩ : Frame), (⟨5, false, false, false, 0, []⟩ : Frame)] : List Frame)).1 == (BitsS (⟨5, false, false, false, 0, []⟩ : Frame)).1)) && ((sendS ([(⟨6, false, false, false, 0, []⟩ : Frame), (⟨5, false, false, false, 0, []⟩ : Frame)] : List Frame)).2.1 == 1))) (by kernel_rfl) (.bool true) (by rw [k]); clear o
  refine st p (.slice h (sendS ([(⟨6, false, false, false, 0, []⟩ : Frame), (⟨5, false, false, false, 0, []⟩ : Frame)] : List Frame)).2.2.1.length i) (by rw [wanted_of p (b := true) rfl rfl (by kernel_rfl) (by kernel_rfl)]; rfl) rfl (by kernel_rfl) (p0 p (by kernel_rfl)) ?_; intro aI u; clear p
  refine sn u g (fun b => .slice (sm b) 2 2) [i6 11, i6 (-1)] 3 (by rw [wanted_of u (b := true) rfl rfl (by kernel_rfl) (by kernel_rfl)]; rfl) rfl (by kernel_rfl) (by kernel_rfl) ?_; intro q aJ y z ar; clear u g
  obtain ⟨X, Y, aa, A⟩ := ar.freeze 1 rfl
  replace f := f.mono Y
  replace a := Fz.le.trans a Y
  have ab : Mem w.heap.size [] w Z [.row q [i6 11, i6 (-1)] 3] X y := aa; clear aa
  have au : Mem w.heap.size [] w Z [.own t6 3 (sm q) 2 ([11, -1] : List Int)] X y := ab.rowOwn (T := t6) (xs := ([11, -1] : List Int)) 0 rfl (by decide) (by show 2 ≤ lim; decide) ((RepAll.one (T := t6) (x := 11) rfl).append (RepAll.one (T := t6) (x := -1) rfl)); clear ab
  obtain ⟨av, B, ac, aw⟩ := au.freeze 0 rfl
  replace f := f.mono B
  replace A := A.mono B
  replace a := Fz.le.trans a B
  have C : Mem w.heap.size [] w Z [] av y := ac; clear ac
  refine fcl z C (.bool (ieqS (sendS ([(⟨6, false, false, false, 0, []⟩ : Frame), (⟨5, false, false, false, 0, []⟩ : Frame)] : List Frame)).2.2.1 ([11, -1] : List Int))) 28 #[.slice h (sendS ([(⟨6, false, false, false, 0, []⟩ : Frame), (⟨5, false, false, false, 0, []⟩ : Frame)] : List Frame)).2.2.1.length i, .slice (sm q) ([11, -1] : List Int).length 2] (by rw [wanted_of z (b := true) rfl rfl (by kernel_rfl) (by kernel_rfl)]; rfl) rfl (by kernel_rfl) (fun _ => by kernel_rfl) (ieq_fun (sendS ([(⟨6, false, false, false, 0, []⟩ : Frame), (⟨5, false, false, false, 0, []⟩ : Frame)] : List Frame)).2.2.1 ([11, -1] : List Int) h i (sm q) 2 _ _ A aw C.fz) ?_; intro aK aL ad ae; clear z C
  refine bt ad ae 2 [] [40] [(0, .bool (ieqS (sendS ([(⟨6, false, false, false, 0, []⟩ : Frame), (⟨5, false, false, false, 0, []⟩ : Frame)] : List Frame)).2.2.1 ([11, -1] : List Int)))] ?_; intro aM ax; clear ad
  refine nlH (n _ _ ?_); clear n W
  refine wp_ret ?_
  refine ra1 ax (.bool (ieqS (sendS ([(⟨6, false, false, false, 0, []⟩ : Frame), (⟨5, false, false, false, 0, []⟩ : Frame)] : List Frame)).2.2.1 ([11, -1] : List Int))) ?_
  exact ⟨(ieqS (sendS ([(⟨6, false, false, false, 0, []⟩ : Frame), (⟨5, false, false, false, 0, []⟩ : Frame)] : List Frame)).2.2.1 ([11, -1] : List Int)), rfl, aq, ae.below⟩
 · -- false
  have ay := m.2 k; clear m
  have af := o.reval (d := 36) (c := []) (v := .bool (((((sendS ([(⟨6, false, false, false, 0, []⟩ : Frame), (⟨5, false, false, false, 0, []⟩ : Frame)] : List Frame)).2.2.2 == 0) && ((BitsS (⟨5, false, false, false, 0, []⟩ : Frame)).2 == 0)) && ((sendS ([(⟨6, false, false, false, 0, []⟩ : Frame), (⟨5, false, false, false, 0, []⟩ : Frame)] : List Frame)).1 == (BitsS (⟨5, false, false, false, 0, []⟩ : Frame)).1)) && ((sendS ([(⟨6, false, false, false, 0, []⟩ : Frame), (⟨5, false, false, false, 0, []⟩ : Frame)] : List Frame)).2.1 == 1))) (by kernel_rfl) (.bool false) (by rw [k]); clear o
  refine bt af g 5 [] [37, 38, 39, 40] [(0, .bool false)] ?_; intro aN az; clear af
  refine nlH (n _ _ ?_); clear n W
  refine wp_ret ?_
  refine ra1 az (.bool false) ?_
  exact ⟨false, rfl, ay, g.below⟩

end Go.Proofs.YtmbdcehmeiiaoaaGreatDoor
set_option linter.unusedVariables false
set_option linter.unusedSimpArgs false
namespace Go.Proofs.YtmbdcehmeiiaoaaGreatDoor
open Go.Sy Go.RowKit
theorem wired_fun   (Z : Fz) (w : World)  (hZ : Z.on w) : Calls Tryz.prog 25 #[] w fun e w' => e = .returned (.bool true) ∧ Below w.heap.size w w' :=
  (wired_walk   Z w  hZ (wired_ok )).mono fun _ _ ⟨r, he, hk, hb⟩ => ⟨by subst hk; exact he, hb⟩

end Go.Proofs.YtmbdcehmeiiaoaaGreatDoor
set_option linter.unusedVariables false
set_option linter.unusedSimpArgs false
set_option maxRecDepth 100000
set_option maxHeartbeats 0
namespace Go.Proofs.YtmbdcehmeiiaoaaGreatDoor
open Go.Sy Go.RowKit
abbrev e24We (X : Frame) (A0 : Option Addr) (C0 : Nat) : List Value := [i6 X.ID, .bool X.Long, .bool X.Fast, .bool X.Remote, i6 X.Size, .slice A0 X.Data.length C0]
theorem smin_fun (u0 : List (List UInt8)) (hpre : 0 < u0.length) (ao1 : Option Addr) (cap2 : Nat) (Z : Fz) (w : World) (hs3 : SlR tyStr Z ao1 cap2 u0) (hZ : Z.on w) : Calls Tryz.prog 26 #[.slice ao1 u0.length cap2] w fun e w' => e = .returned (str (minR u0)) ∧ Below w.heap.size w w' :=
  (smin_walk u0 ao1 cap2 Z w hs3 hZ (smin_ok u0 hpre)).mono fun _ _ ⟨r, he, hk, hb⟩ => ⟨by subst hk; exact he, hb⟩

theorem LSend_walk (u0 : List Frame) (ao1 : Option Addr) (cap2 : Nat) (Z : Fz) (w : World) (hs3 : SlR tyFrame Z ao1 cap2 u0) (hg5 : SlR t8 Z (sm 5) 64 deBruijn64) (hZ : Z.on w) {K : Bool → Prop} (hp : LSend_vc u0 K) : Calls Tryz.prog 6 #[.slice ao1 u0.length cap2] w fun e w' => ∃ r : Bool, e = .returned (.bool r) ∧ K r ∧ Below w.heap.size w w' := by
 refine enter0 Tryz.func6 rfl rfl (by kernel_rfl) ?_; intro a0 bN; have ay := Mem.start w Z hZ; have U := Fz.le.refl Z
 have d0 := hp (hs3.small); clear hp
 refine sqB bN ay [] [] [] ?_; intro a6 bO; clear bN
 refine sqH ?_; intro d1 bP
 refine s1 bO 19 (.slice ao1 u0.length cap2) ?_; intro a9 bQ; clear bO
 obtain ⟨d2, bR⟩ := d0
 refine ck bQ 24 #[.slice ao1 u0.length cap2] ?_
 refine (wsend_fun u0 d2 ao1 cap2 _ _ hs3 ay.fz).mono ?_; rintro _ d3 ⟨a, c, J, rfl, hm⟩; refine ⟨_, rfl, ?_⟩; intro gh bS; have bT := ay.callZ hm; have a4 := hm.ext.le; clear hm ay bQ
 replace hs3 := hs3.mono a4
 replace hg5 := hg5.mono a4
 replace U := Fz.le.trans U a4
 have I : Mem w.heap.size [] w Z [.own t6 3 a c (sendS u0).2.2.1] J d3 := bT; clear bT
 have d4 := bR (I.ownSmall 0 rfl); clear bR
 refine bt bS I 9 [] [] [(3, str (sendS u0).1), (4, i6 (sendS u0).2.1), (5, .slice a (sendS u0).2.2.1.length c), (6, i6 (sendS u0).2.2.2)] ?_; intro gi bU; clear bS
 refine nlH (bP _ _ ?_); clear bP d1
 refine sqB bU I [] [] [(7, i6 0)] ?_; intro gj bV; clear bU
 refine wp_seq ?_
 refine sqB bV I [] [] [(27, .bool (decide ((u0.length : Int) > 6)))] ?_; intro bW bX; clear bV
 have bY : Fr 149 [] [⟨0, [], .slice ao1 u0.length cap2⟩, ⟨3, [], str (sendS u0).1⟩, ⟨4, [], i6 (sendS u0).2.1⟩, ⟨5, [], .slice a (sendS u0).2.2.1.length c⟩, ⟨6, [], i6 (sendS u0).2.2.2⟩, ⟨7, [], i6 0⟩, ⟨27, [], .bool (decide ((u0.length : Int) > 6))⟩] bW := bX.reg; clear bX
 have Y : Fr 149 [] [⟨0, [], .slice ao1 u0.length cap2⟩, ⟨3, [], str (sendS u0).1⟩, ⟨4, [], i6 (sendS u0).2.1⟩, ⟨5, [], .slice a (sendS u0).2.2.1.length c⟩, ⟨6, [], i6 (sendS u0).2.2.2⟩, ⟨7, [], i6 0⟩, ⟨27, [], .bool (decide ((u0.length : Int) > 6))⟩] bW := bY.reg; clear bY
 obtain ⟨d5, az, d6⟩ := d4
 refine wp_then_k fun KJ56 hKJ57 => ?_
 have a5 : ∀ (M : Int), d5 M → ∀ a1 w1, Fr 149 [] [⟨0, [], .slice ao1 u0.length cap2⟩, ⟨3, [], str (sendS u0).1⟩, ⟨4, [], i6 (sendS u0).2.1⟩, ⟨5, [], .slice a (sendS u0).2.2.1.length c⟩, ⟨6, [], i6 (sendS u0).2.2.2⟩, ⟨7, [], i6 M⟩] a1 → Mem w.heap.size [] w Z [.own t6 3 a c (sendS u0).2.2.1] J w1 → KJ56 a1 w1 := by
  rintro M d7 gk d8 bZ ah; clear Y I
  refine hKJ57 _ _ ?_; clear hKJ57
  have d9 := d6 M d7
  refine sqB bZ ah [] [] [(8, .slice none 0 0)] ?_; intro gl b0; clear bZ
  refine wp_seq ?_
  refine sqB b0 ah [] [] [(31, .slice ao1 u0.length cap2), (32, i6 (u0.length : Int)), (33, i6 0)] ?_; intro aA b1; clear b0
  have b2 : Fr 149 [] [⟨3, [], str (sendS u0).1⟩, ⟨4, [], i6 (sendS u0).2.1⟩, ⟨5, [], .slice a (sendS u0).2.2.1.length c⟩, ⟨6, [], i6 (sendS u0).2.2.2⟩, ⟨7, [], i6 M⟩, ⟨8, [], .slice none 0 0⟩, ⟨31, [], .slice ao1 u0.length cap2⟩, ⟨32, [], i6 (u0.length : Int)⟩, ⟨33, [], i6 0⟩] aA := b1.reg; clear b1
  have a7 : Fr 149 [] [⟨3, [], str (sendS u0).1⟩, ⟨4, [], i6 (sendS u0).2.1⟩, ⟨5, [], .slice a (sendS u0).2.2.1.length c⟩, ⟨6, [], i6 (sendS u0).2.2.2⟩, ⟨7, [], i6 M⟩, ⟨8, [], .slice none 0 0⟩, ⟨31, [], .slice ao1 u0.length cap2⟩, ⟨32, [], i6 (u0.length : Int)⟩, ⟨33, [], i6 0⟩] aA := b2.reg; clear b2
  obtain ⟨ea, eb, ec⟩ := d9
  refine wp_then_k fun KJ80 hKJ81 => ?_
  have ed : ∀ (N : Int) (f : List (List UInt8)) (p : Option Addr) (u : Nat), ea N f → ∀ a1 w1, Fr 149 [] [⟨3, [], str (sendS u0).1⟩, ⟨4, [], i6 (sendS u0).2.1⟩, ⟨5, [], .slice a (sendS u0).2.2.1.length c⟩, ⟨6, [], i6 (sendS u0).2.2.2⟩, ⟨7, [], i6 N⟩, ⟨8, [], .slice p f.length u⟩] a1 → Mem w.heap.size [] w Z [.own tyStr 9 p u f, .own t6 3 a c (sendS u0).2.2.1] J w1 → KJ80 a1 w1 := by
   rintro N f p u ee gm gn b3 a8; clear a7 ah
   refine hKJ81 _ _ ?_; clear hKJ81
   have aB := ec N f ee
   refine wp_seq ?_
   refine sqH ?_; intro ef b4
   refine fc b3 a8 (wired_fun  _ _ a8.fz) ?_; intro go eg b5 ai; clear b3 a8
   refine bt b5 ai 5 [] [52, 53, 54] [(54, .bool (N != 0))] ?_; intro gq aj; clear b5
   refine nlH (b4 _ _ ?_); clear b4 ef
   refine cd aj (t := N != 0) (by kernel_rfl) (fun ba => ?_) (fun ba => ?_)
   ·
    have eh := aB.1 ba; clear aB
    refine sqH ?_; intro ei b6
    refine fc aj ai (wired_fun  _ _ ai.fz) ?_; intro gr gs b7 b8; clear aj ai
    refine bt b7 b8 19 [] [57, 58, 59, 60, 212] [(2, .bool (((((sendS u0).2.2.2 == N) && ((sendS u0).1 == ([] : List UInt8))) && ((sendS u0).2.1 == 0)) && (((sendS u0).2.2.1.length : Int) == 0)))] ?_; intro gt ej; clear b7
    refine nlH (b6 _ _ ?_); clear b6 ei
    refine wp_ret ?_
    refine thr ?_
    refine ra1 ej (.bool (((((sendS u0).2.2.2 == N) && ((sendS u0).1 == ([] : List UInt8))) && ((sendS u0).2.1 == 0)) && (((sendS u0).2.2.1.length : Int) == 0))) ?_
    exact ⟨((((sendS u0).2.2.2 == N) && ((sendS u0).1 == ([] : List UInt8))) && ((sendS u0).2.1 == 0)) && (((sendS u0).2.2.1.length : Int) == 0), rfl, eh, b8.below⟩
   have ek := aB.2 ba; clear aB
   refine wp_skip ?_
   refine thn ?_
   refine sqH ?_; intro el b9
   refine s1 aj 74 (.slice p f.length u) ?_; intro gu ca; clear aj
   obtain ⟨L, bb, cb, aa⟩ := ai.freeze 0 rfl
   replace hs3 := hs3.mono bb
   replace hg5 := hg5.mono bb
   replace U := Fz.le.trans U bb
   have bc : Mem w.heap.size [] w Z [.own t6 3 a c (sendS u0).2.2.1] L eg := cb; clear cb
   obtain ⟨em, en⟩ := ek
   refine fc ca bc (smin_fun f em p u _ _ aa bc.fz) ?_; intro gv eo cc ab; clear ca bc
   refine s1 cc 11 (str (minR f)) ?_; intro gw ce; clear cc
   refine nlH (b9 _ _ ?_); clear b9 el
   refine sqB ce ab [] [] [(12, .slice none 0 0)] ?_; intro gx cf; clear ce
   refine sqB cf ab [] [] [(13, i6 0)] ?_; intro gy cg; clear cf
   refine wp_seq ?_
   refine sqB cg ab [] [] [(76, .slice p f.length u), (77, i6 (f.length : Int)), (78, i6 0)] ?_; intro aC ch; clear cg
   have ci : Fr 149 [] [⟨3, [], str (sendS u0).1⟩, ⟨4, [], i6 (sendS u0).2.1⟩, ⟨5, [], .slice a (sendS u0).2.2.1.length c⟩, ⟨6, [], i6 (sendS u0).2.2.2⟩, ⟨11, [], str (minR f)⟩, ⟨12, [], .slice none 0 0⟩, ⟨13, [], i6 0⟩, ⟨76, [], .slice p f.length u⟩, ⟨77, [], i6 (f.length : Int)⟩, ⟨78, [], i6 0⟩] aC := ch.reg; clear ch
   have bd : Fr 149 [] [⟨3, [], str (sendS u0).1⟩, ⟨4, [], i6 (sendS u0).2.1⟩, ⟨5, [], .slice a (sendS u0).2.2.1.length c⟩, ⟨6, [], i6 (sendS u0).2.2.2⟩, ⟨11, [], str (minR f)⟩, ⟨12, [], .slice none 0 0⟩, ⟨13, [], i6 0⟩, ⟨76, [], .slice p f.length u⟩, ⟨77, [], i6 (f.length : Int)⟩, ⟨78, [], i6 0⟩] aC := ci.reg; clear ci
   obtain ⟨ep, eq, er⟩ := en
   refine wp_then_k fun KJ187 hKJ188 => ?_
   have es : ∀ (n : List UInt8) (h : List Int) (ac : Int) (O : Option Addr) (P : Nat), ep n h ac → ∀ a1 w1, Fr 149 [] [⟨3, [], str (sendS u0).1⟩, ⟨4, [], i6 (sendS u0).2.1⟩, ⟨5, [], .slice a (sendS u0).2.2.1.length c⟩, ⟨6, [], i6 (sendS u0).2.2.2⟩, ⟨11, [], str n⟩, ⟨12, [], .slice O h.length P⟩, ⟨13, [], i6 ac⟩] a1 → Mem w.heap.size [] w Z [.own t6 3 O P h, .own t6 3 a c (sendS u0).2.2.1] L w1 → KJ187 a1 w1 := by
    rintro n h ac O P et gz eu cl aD; clear bd ab
    refine hKJ188 _ _ ?_; clear hKJ188
    have aE := er n h ac et
    refine wp_seq ?_
    refine sqB cl aD [] [] [(115, .bool (decide (ac > 1)))] ?_; intro gA ak; clear cl
    refine cd ak (t := decide (ac > 1)) (by kernel_rfl) (fun be => ?_) (fun be => ?_)
    ·
     have ev := aE.1 be; clear aE
     refine sqB ak aD [] [269] [(2, .bool (((((sendS u0).2.2.2 == 9) && ((sendS u0).1 == ([] : List UInt8))) && ((sendS u0).2.1 == 0)) && (((sendS u0).2.2.1.length : Int) == 0)))] ?_; intro gB ew; clear ak
     refine wp_ret ?_
     refine thr ?_
     refine ra1 ew (.bool (((((sendS u0).2.2.2 == 9) && ((sendS u0).1 == ([] : List UInt8))) && ((sendS u0).2.1 == 0)) && (((sendS u0).2.2.1.length : Int) == 0))) ?_
     exact ⟨((((sendS u0).2.2.2 == 9) && ((sendS u0).1 == ([] : List UInt8))) && ((sendS u0).2.1 == 0)) && (((sendS u0).2.2.1.length : Int) == 0), rfl, ev, aD.below⟩
    have ex := aE.2 be; clear aE
    refine wp_skip ?_
    refine thn ?_
    refine sqH ?_; intro ey cm
    refine s1 ak 131 (i6 (sendS u0).2.2.2) ?_; intro gC cn; clear ak
    refine s1 cn 132 (.bool ((sendS u0).2.2.2 == 0)) ?_; intro gD co; clear cn
    refine s1 co 133 (.bool ((sendS u0).2.2.2 == 0)) ?_; intro gE cp; clear co
    have cq := cp.atom (((sendS u0).2.2.2 == 0) == true) (by kernel_rfl); clear cp
    refine gp cq 134 0 [] ((sendS u0).2.2.2 == 0) (str (sendS u0).1) rfl rfl ?_; intro gF cr; clear cq
    refine gp cr 135 0 [] ((sendS u0).2.2.2 == 0) (str n) rfl rfl ?_; intro gG bf; clear cr
    refine gd bf (.bool ((sendS u0).1 == n)) (m := 0) (cj := []) (bj := (sendS u0).2.2.2 == 0) rfl rfl (by kernel_rfl) rfl (by kernel_rfl) (by kernel_rfl) (by kernel_rfl) (fun hg => strcmp_run bf (g := [0]) (op := .eql) rfl (by kernel_rfl) (by kernel_rfl) (by decide) hg) ?_; intro gH bg; clear bf
    refine st bg (.bool (((sendS u0).2.2.2 == 0) && ((sendS u0).1 == n))) (nog rfl _) rfl (by kernel_rfl) (pk_and bg (g := []) (m := 0) (b := (sendS u0).2.2.2 == 0) (v := (sendS u0).1 == n) rfl (by kernel_rfl) (by kernel_rfl) (by kernel_rfl) rfl) ?_; intro gI cs; clear bg
    refine s1 cs 138 (.bool (((sendS u0).2.2.2 == 0) && ((sendS u0).1 == n))) ?_; intro gJ ct; clear cs
    have cu := ct.atom ((((sendS u0).2.2.2 == 0) && ((sendS u0).1 == n)) == true) (by kernel_rfl); clear ct
    refine gp cu 139 1 [] (((sendS u0).2.2.2 == 0) && ((sendS u0).1 == n)) (i6 (sendS u0).2.1) rfl rfl ?_; intro gK cv; clear cu
    refine gp cv 140 1 [] (((sendS u0).2.2.2 == 0) && ((sendS u0).1 == n)) (.slice O h.length P) rfl rfl ?_; intro gL cw; clear cv
    obtain ⟨ez, aF, cx, aG⟩ := aD.freeze 0 rfl
    replace hs3 := hs3.mono aF
    replace hg5 := hg5.mono aF
    replace aa := aa.mono aF
    replace U := Fz.le.trans U aF
    have bh : Mem w.heap.size [] w Z [.own t6 3 a c (sendS u0).2.2.1] ez eu := cx; clear cx
    refine gcl cw bh (i6 (sindexS h (-1))) 27 #[.slice O h.length P, i6 (-1)] (m := 1) (cj := []) (bj := ((sendS u0).2.2.2 == 0) && ((sendS u0).1 == n)) rfl rfl (by kernel_rfl) rfl (by kernel_rfl) (by kernel_rfl) (by kernel_rfl) (fun _ => by kernel_rfl) (fun hg => sindex_fun h (-1) O P _ _ aG bh.fz) ?_; intro gM eA cy eB; clear cw bh
    refine gp cy 142 1 [] (((sendS u0).2.2.2 == 0) && ((sendS u0).1 == n)) (.bool ((sendS u0).2.1 == (sindexS h (-1)))) rfl rfl ?_; intro gN bi; clear cy
    refine st bi (.bool ((((sendS u0).2.2.2 == 0) && ((sendS u0).1 == n)) && ((sendS u0).2.1 == (sindexS h (-1))))) (nog rfl _) rfl (by kernel_rfl) (pk_and bi (g := []) (m := 1) (b := ((sendS u0).2.2.2 == 0) && ((sendS u0).1 == n)) (v := (sendS u0).2.1 == (sindexS h (-1))) rfl (by kernel_rfl) (by kernel_rfl) (by kernel_rfl) rfl) ?_; intro gO cz; clear bi
    refine s1 cz 144 (.bool ((((sendS u0).2.2.2 == 0) && ((sendS u0).1 == n)) && ((sendS u0).2.1 == (sindexS h (-1))))) ?_; intro gP cA; clear cz
    have cB := cA.atom (((((sendS u0).2.2.2 == 0) && ((sendS u0).1 == n)) && ((sendS u0).2.1 == (sindexS h (-1)))) == true) (by kernel_rfl); clear cA
    refine gp cB 145 2 [] ((((sendS u0).2.2.2 == 0) && ((sendS u0).1 == n)) && ((sendS u0).2.1 == (sindexS h (-1)))) (.slice a (sendS u0).2.2.1.length c) rfl rfl ?_; intro gQ cC; clear cB
    refine gp cC 146 2 [] ((((sendS u0).2.2.2 == 0) && ((sendS u0).1 == n)) && ((sendS u0).2.1 == (sindexS h (-1)))) (.slice O h.length P) rfl rfl ?_; intro gR cD; clear cC
    obtain ⟨eC, al, cE, eD⟩ := eB.freeze 0 rfl
    replace hs3 := hs3.mono al
    replace hg5 := hg5.mono al
    replace aa := aa.mono al
    replace aG := aG.mono al
    replace U := Fz.le.trans U al
    have bk : Mem w.heap.size [] w Z [] eC eA := cE; clear cE
    refine gcl cD bk (.bool (ieqS (sendS u0).2.2.1 h)) 28 #[.slice a (sendS u0).2.2.1.length c, .slice O h.length P] (m := 2) (cj := []) (bj := (((sendS u0).2.2.2 == 0) && ((sendS u0).1 == n)) && ((sendS u0).2.1 == (sindexS h (-1)))) rfl rfl (by kernel_rfl) rfl (by kernel_rfl) (by kernel_rfl) (by kernel_rfl) (fun _ => by kernel_rfl) (fun hg => ieq_fun (sendS u0).2.2.1 h a c O P _ _ eD aG bk.fz) ?_; intro gS gT bl eE; clear cD bk
    refine st bl (.bool (((((sendS u0).2.2.2 == 0) && ((sendS u0).1 == n)) && ((sendS u0).2.1 == (sindexS h (-1)))) && (ieqS (sendS u0).2.2.1 h))) (nog rfl _) rfl (by kernel_rfl) (pk_and bl (g := []) (m := 2) (b := (((sendS u0).2.2.2 == 0) && ((sendS u0).1 == n)) && ((sendS u0).2.1 == (sindexS h (-1)))) (v := (ieqS (sendS u0).2.2.1 h)) rfl (by kernel_rfl) (by kernel_rfl) (by kernel_rfl) rfl) ?_; intro gU cF; clear bl
    refine s1 cF 2 (.bool (((((sendS u0).2.2.2 == 0) && ((sendS u0).1 == n)) && ((sendS u0).2.1 == (sindexS h (-1)))) && (ieqS (sendS u0).2.2.1 h))) ?_; intro gV eF; clear cF
    refine nlH (cm _ _ ?_); clear cm ey
    refine wp_ret ?_
    refine ra1 eF (.bool (((((sendS u0).2.2.2 == 0) && ((sendS u0).1 == n)) && ((sendS u0).2.1 == (sindexS h (-1)))) && (ieqS (sendS u0).2.2.1 h))) ?_
    exact ⟨((((sendS u0).2.2.2 == 0) && ((sendS u0).1 == n)) && ((sendS u0).2.1 == (sindexS h (-1)))) && (ieqS (sendS u0).2.2.1 h), rfl, ex, eE.below⟩
   refine wp_block ?_
   have cG : Fr 149 [] [⟨3, [], str (sendS u0).1⟩, ⟨4, [], i6 (sendS u0).2.1⟩, ⟨5, [], .slice a (sendS u0).2.2.1.length c⟩, ⟨6, [], i6 (sendS u0).2.2.2⟩, ⟨11, [], str (minR f)⟩, ⟨12, [], .slice none 0 0⟩, ⟨13, [], i6 0⟩, ⟨76, [], .slice p f.length u⟩, ⟨77, [], i6 (f.length : Int)⟩, ⟨78, [], i6 0⟩] aC := bd.reg; clear bd
   have cH : Mem w.heap.size [] w Z [.own t6 3 none 0 ([] : List Int), .own t6 3 a c (sendS u0).2.2.1] L eo := ab.addNil t6 3 (by decide); clear ab
   have cI : Fr 149 [] [⟨3, [], str (sendS u0).1⟩, ⟨4, [], i6 (sendS u0).2.1⟩, ⟨5, [], .slice a (sendS u0).2.2.1.length c⟩, ⟨6, [], i6 (sendS u0).2.2.2⟩, ⟨11, [], str (minR f)⟩, ⟨12, [], .slice none ([] : List Int).length 0⟩, ⟨13, [], i6 0⟩, ⟨76, [], .slice p f.length u⟩, ⟨77, [], i6 (f.length : Int)⟩, ⟨78, [], i6 0⟩] aC := cG.reg; clear cG
   obtain ⟨eG, eH, eI, eJ⟩ := eq
   refine lp (ι := (List UInt8) × (List Int) × Int × Int × (Option Addr) × Nat) (fun s => [⟨3, [], str (sendS u0).1⟩, ⟨4, [], i6 (sendS u0).2.1⟩, ⟨5, [], .slice a (sendS u0).2.2.1.length c⟩, ⟨6, [], i6 (sendS u0).2.2.2⟩, ⟨11, [], str s.1⟩, ⟨12, [], .slice s.2.2.2.2.1 s.2.1.length s.2.2.2.2.2⟩, ⟨13, [], i6 s.2.2.1⟩, ⟨76, [], .slice p f.length u⟩, ⟨77, [], i6 (f.length : Int)⟩, ⟨78, [], i6 s.2.2.2.1⟩]) (fun s => [.own t6 3 s.2.2.2.2.1 s.2.2.2.2.2 s.2.1, .own t6 3 a c (sendS u0).2.2.1]) (fun s => L) (fun s => eG s.1 s.2.1 s.2.2.1 s.2.2.2.1) (fun s => eH s.1 s.2.1 s.2.2.1 s.2.2.2.1) ⟨(minR f), ([] : List Int), 0, 0, none, 0⟩ eI (by exact cI.reg) (by exact cH) ?_
   rintro ⟨l, o, B, i, y, z⟩ eK eL eM cJ cK
   have cL : Fr 149 [] [⟨3, [], str (sendS u0).1⟩, ⟨4, [], i6 (sendS u0).2.1⟩, ⟨5, [], .slice a (sendS u0).2.2.1.length c⟩, ⟨6, [], i6 (sendS u0).2.2.2⟩, ⟨11, [], str l⟩, ⟨12, [], .slice y o.length z⟩, ⟨13, [], i6 B⟩, ⟨76, [], .slice p f.length u⟩, ⟨77, [], i6 (f.length : Int)⟩, ⟨78, [], i6 i⟩] eL := cJ; clear cJ cI
   have Q : Mem w.heap.size [] w Z [.own t6 3 y z o, .own t6 3 a c (sendS u0).2.2.1] L eM := cK; clear cK cH
   have aH := eJ l o B i eK
   refine sqB cL Q [] [] [(79, .bool (decide (i < (f.length : Int))))] ?_; intro gW aI; clear cL
   refine wp_seq ?_
   refine cd aI (t := decide (i < (f.length : Int))) (by kernel_rfl) (fun bm => ?_) (fun bm => ?_)
   ·
    have eN := aH.1 bm; clear aH
    refine wp_skip ?_
    refine thn ?_
    refine wp_seq ?_
    refine wp_block ?_
    refine sqH ?_; intro eO cM
    refine s1 aI 80 (i6 i) ?_; intro gX cN; clear aI
    obtain ⟨eP, cO⟩ := eN
    refine ix cN (T := tyStr) (xs := f) aa i eP (k := .i64) (e := 9) (bytes := 16) (nog rfl _) rfl (by kernel_rfl) rfl (by kernel_rfl) (by kernel_rfl) (by kernel_rfl) ?_; intro gY gZ eQ j g0 eR eS eT cP; clear cN
    have eU := cO j eR; clear cO
    obtain rfl : eQ = ([str j] : List Value) := eT
    refine z1 cP Q 82 eS 0 (str j) rfl ?_; intro g1 cQ; clear cP
    refine bt cQ Q 2 [] [] [(14, i6 i), (15, str j)] ?_; intro g2 cR; clear cQ
    refine nlH (cM _ _ ?_); clear cM eO
    refine sqB cR Q [] [] [(16, i6 (-1))] ?_; intro g3 cS; clear cR
    refine wp_seq ?_
    refine sqB cS Q [] [] [(87, i6 (min (j.length : Int) (l.length : Int))), (88, i6 0)] ?_; intro aJ cT; clear cS
    have cU : Fr 149 [] [⟨3, [], str (sendS u0).1⟩, ⟨4, [], i6 (sendS u0).2.1⟩, ⟨5, [], .slice a (sendS u0).2.2.1.length c⟩, ⟨6, [], i6 (sendS u0).2.2.2⟩, ⟨11, [], str l⟩, ⟨12, [], .slice y o.length z⟩, ⟨13, [], i6 B⟩, ⟨14, [], i6 i⟩, ⟨15, [], str j⟩, ⟨16, [], i6 (-1)⟩, ⟨76, [], .slice p f.length u⟩, ⟨77, [], i6 (f.length : Int)⟩, ⟨78, [], i6 i⟩, ⟨87, [], i6 (min (j.length : Int) (l.length : Int))⟩, ⟨88, [], i6 0⟩] aJ := cT.reg; clear cT
    have bn : Fr 149 [] [⟨3, [], str (sendS u0).1⟩, ⟨4, [], i6 (sendS u0).2.1⟩, ⟨5, [], .slice a (sendS u0).2.2.1.length c⟩, ⟨6, [], i6 (sendS u0).2.2.2⟩, ⟨11, [], str l⟩, ⟨12, [], .slice y o.length z⟩, ⟨13, [], i6 B⟩, ⟨14, [], i6 i⟩, ⟨15, [], str j⟩, ⟨16, [], i6 (-1)⟩, ⟨76, [], .slice p f.length u⟩, ⟨77, [], i6 (f.length : Int)⟩, ⟨78, [], i6 i⟩, ⟨87, [], i6 (min (j.length : Int) (l.length : Int))⟩, ⟨88, [], i6 0⟩] aJ := cU.reg; clear cU
    obtain ⟨eV, eW, eX⟩ := eU
    refine wp_then_k fun KJ358 hKJ359 => ?_
    have cV : ∀ (A : Int), eV A → ∀ a1 w1, Fr 149 [] [⟨3, [], str (sendS u0).1⟩, ⟨4, [], i6 (sendS u0).2.1⟩, ⟨5, [], .slice a (sendS u0).2.2.1.length c⟩, ⟨6, [], i6 (sendS u0).2.2.2⟩, ⟨11, [], str l⟩, ⟨12, [], .slice y o.length z⟩, ⟨13, [], i6 B⟩, ⟨14, [], i6 i⟩, ⟨15, [], str j⟩, ⟨16, [], i6 A⟩, ⟨76, [], .slice p f.length u⟩, ⟨77, [], i6 (f.length : Int)⟩, ⟨78, [], i6 i⟩] a1 → Mem w.heap.size [] w Z [.own t6 3 y z o, .own t6 3 a c (sendS u0).2.2.1] L w1 → KJ358 a1 w1 := by
     rintro A eY g4 g5 cW V; clear bn Q
     refine hKJ359 _ _ ?_; clear hKJ359
     have eZ := eX A eY
     refine wp_seq ?_
     refine sqB cW V [] [] [(101, .bool (decide (A < 0)))] ?_; intro cX cY; clear cW
     have cZ : Fr 149 [] [⟨3, [], str (sendS u0).1⟩, ⟨4, [], i6 (sendS u0).2.1⟩, ⟨5, [], .slice a (sendS u0).2.2.1.length c⟩, ⟨6, [], i6 (sendS u0).2.2.2⟩, ⟨11, [], str l⟩, ⟨12, [], .slice y o.length z⟩, ⟨13, [], i6 B⟩, ⟨14, [], i6 i⟩, ⟨15, [], str j⟩, ⟨16, [], i6 A⟩, ⟨76, [], .slice p f.length u⟩, ⟨77, [], i6 (f.length : Int)⟩, ⟨78, [], i6 i⟩, ⟨101, [], .bool (decide (A < 0))⟩] cX := cY.reg; clear cY
     have am : Fr 149 [] [⟨3, [], str (sendS u0).1⟩, ⟨4, [], i6 (sendS u0).2.1⟩, ⟨5, [], .slice a (sendS u0).2.2.1.length c⟩, ⟨6, [], i6 (sendS u0).2.2.2⟩, ⟨11, [], str l⟩, ⟨12, [], .slice y o.length z⟩, ⟨13, [], i6 B⟩, ⟨14, [], i6 i⟩, ⟨15, [], str j⟩, ⟨16, [], i6 A⟩, ⟨76, [], .slice p f.length u⟩, ⟨77, [], i6 (f.length : Int)⟩, ⟨78, [], i6 i⟩, ⟨101, [], .bool (decide (A < 0))⟩] cX := cZ.reg; clear cZ
     obtain ⟨e0, aK, e1⟩ := eZ
     refine wp_then_k fun KJ377 hKJ378 => ?_
     have bo : ∀ (an : List UInt8) (aq : Int), e0 an aq → ∀ a1 w1, Fr 149 [] [⟨3, [], str (sendS u0).1⟩, ⟨4, [], i6 (sendS u0).2.1⟩, ⟨5, [], .slice a (sendS u0).2.2.1.length c⟩, ⟨6, [], i6 (sendS u0).2.2.2⟩, ⟨11, [], str an⟩, ⟨12, [], .slice y o.length z⟩, ⟨13, [], i6 aq⟩, ⟨14, [], i6 i⟩, ⟨16, [], i6 A⟩, ⟨76, [], .slice p f.length u⟩, ⟨77, [], i6 (f.length : Int)⟩, ⟨78, [], i6 i⟩] a1 → Mem w.heap.size [] w Z [.own t6 3 y z o, .own t6 3 a c (sendS u0).2.2.1] L w1 → KJ377 a1 w1 := by
      rintro an aq e2 g6 g7 c0 bp; clear am V
      refine hKJ378 _ _ ?_; clear hKJ378
      have e3 := e1 an aq e2
      refine sqH ?_; intro e4 c1
      refine bt c0 bp 2 [] [] [(108, .slice y o.length z), (109, i6 A)] ?_; intro g8 c2; clear c0
      refine nw c2 bp (fun b => .slice (sm b) 1 1) [i6 A] 3 ?_; intro c3 g9 ha c4 bq; clear c2 bp
      obtain ⟨e5, c5⟩ := e3
      refine ap c4 bq 1 (T := t6) (xs := o) (ys := [A]) (ao := y) (cap := z) (ao2 := (sm c3)) (cap2 := 1) (t := 43) (e := 3) (bytes := 8) (nog rfl _) rfl (by kernel_rfl) rfl (by kernel_rfl) (by kernel_rfl) (by kernel_rfl) rfl (Src.row bq 0 rfl (RepAll.one (T := t6) (x := A) rfl)) e5 ?_; intro br bs hb e6 hc c6 c7; clear c4 bq
      have bu : Mem w.heap.size [] w Z [.row c3 [i6 A] 3, .own t6 3 br bs (o ++ [A]), .own t6 3 a c (sendS u0).2.2.1] L e6 := c7; clear c7
      refine s1 c6 12 (.slice br (o ++ [A]).length bs) ?_; intro hd c8; clear c6
      refine nlH (c1 _ _ ?_); clear c1 e4
      refine rgB c8 bu [] [] [] ?_; intro he c9; clear c8
      refine ibn ?_
      refine thn ?_
      refine rgB c9 bu [] [] [(78, i6 (w64 (i + 1)))] ?_; intro hf e7; clear c9
      refine rd ?_
      exact ⟨⟨an, o ++ [A], aq, w64 (i + 1), br, bs⟩, c5.1, c5.2, (e7.reg).anyβ _ (by kernel_rfl), bu.keep (List.Sublist.cons _ (List.Sublist.cons_cons _ (List.Sublist.cons_cons _ (List.Sublist.slnil))))⟩
     refine cd am (t := decide (A < 0)) (by kernel_rfl) (fun bv => ?_) (fun bv => ?_)
     ·
      have aL := aK.1 bv; clear aK
      refine sqB am V [] [] [(13, i6 (w64 (B + 1)))] ?_; intro hh da; clear am
      refine sqB da V [] [255] [(106, .bool (j == l))] ?_; intro hi aM; clear da
      refine cd aM (t := j == l) (by kernel_rfl) (fun bw => ?_) (fun bw => ?_)
      ·
       have e8 := aL.1 bw; clear aL
       refine rgB aM V [] [] [(11, str j)] ?_; intro hj e9; clear aM
       refine rd ?_
       exact bo j (w64 (B + 1)) e8 _ _ ((e9.reg).anyβ _ (by kernel_rfl)) (V.keep (List.Sublist.cons_cons _ (List.Sublist.cons_cons _ (List.Sublist.slnil))))
      have fa := aL.2 bw; clear aL
      refine wp_skip ?_
      refine rd ?_
      exact bo l (w64 (B + 1)) fa _ _ ((aM.reg).anyβ _ (by kernel_rfl)) (V.keep (List.Sublist.cons_cons _ (List.Sublist.cons_cons _ (List.Sublist.slnil))))
     have fb := aK.2 bv; clear aK
     refine wp_skip ?_
     refine rd ?_
     exact bo l B fb _ _ ((am.reg).anyβ _ (by kernel_rfl)) (V.keep (List.Sublist.cons_cons _ (List.Sublist.cons_cons _ (List.Sublist.slnil))))
    refine wp_block ?_
    have db : Fr 149 [] [⟨3, [], str (sendS u0).1⟩, ⟨4, [], i6 (sendS u0).2.1⟩, ⟨5, [], .slice a (sendS u0).2.2.1.length c⟩, ⟨6, [], i6 (sendS u0).2.2.2⟩, ⟨11, [], str l⟩, ⟨12, [], .slice y o.length z⟩, ⟨13, [], i6 B⟩, ⟨14, [], i6 i⟩, ⟨15, [], str j⟩, ⟨16, [], i6 (-1)⟩, ⟨76, [], .slice p f.length u⟩, ⟨77, [], i6 (f.length : Int)⟩, ⟨78, [], i6 i⟩, ⟨87, [], i6 (min (j.length : Int) (l.length : Int))⟩, ⟨88, [], i6 0⟩] aJ := bn.reg; clear bn
    have dc : Fr 149 [] [⟨3, [], str (sendS u0).1⟩, ⟨4, [], i6 (sendS u0).2.1⟩, ⟨5, [], .slice a (sendS u0).2.2.1.length c⟩, ⟨6, [], i6 (sendS u0).2.2.2⟩, ⟨11, [], str l⟩, ⟨12, [], .slice y o.length z⟩, ⟨13, [], i6 B⟩, ⟨14, [], i6 i⟩, ⟨15, [], str j⟩, ⟨16, [], i6 (-1)⟩, ⟨76, [], .slice p f.length u⟩, ⟨77, [], i6 (f.length : Int)⟩, ⟨78, [], i6 i⟩, ⟨87, [], i6 (min (j.length : Int) (l.length : Int))⟩, ⟨88, [], i6 0⟩] aJ := db.reg; clear db
    obtain ⟨fd, fe, ff, fg⟩ := eW
    refine lp (ι := Int × Int) (fun s => [⟨3, [], str (sendS u0).1⟩, ⟨4, [], i6 (sendS u0).2.1⟩, ⟨5, [], .slice a (sendS u0).2.2.1.length c⟩, ⟨6, [], i6 (sendS u0).2.2.2⟩, ⟨11, [], str l⟩, ⟨12, [], .slice y o.length z⟩, ⟨13, [], i6 B⟩, ⟨14, [], i6 i⟩, ⟨15, [], str j⟩, ⟨16, [], i6 s.1⟩, ⟨76, [], .slice p f.length u⟩, ⟨77, [], i6 (f.length : Int)⟩, ⟨78, [], i6 i⟩, ⟨87, [], i6 (min (j.length : Int) (l.length : Int))⟩, ⟨88, [], i6 s.2⟩]) (fun s => [.own t6 3 y z o, .own t6 3 a c (sendS u0).2.2.1]) (fun s => L) (fun s => fd s.1 s.2) (fun s => fe s.1 s.2) ⟨-1, 0⟩ ff (by exact dc.reg) (by exact Q) ?_
    rintro ⟨ar, D⟩ fh fi fj dd de
    have df : Fr 149 [] [⟨3, [], str (sendS u0).1⟩, ⟨4, [], i6 (sendS u0).2.1⟩, ⟨5, [], .slice a (sendS u0).2.2.1.length c⟩, ⟨6, [], i6 (sendS u0).2.2.2⟩, ⟨11, [], str l⟩, ⟨12, [], .slice y o.length z⟩, ⟨13, [], i6 B⟩, ⟨14, [], i6 i⟩, ⟨15, [], str j⟩, ⟨16, [], i6 ar⟩, ⟨76, [], .slice p f.length u⟩, ⟨77, [], i6 (f.length : Int)⟩, ⟨78, [], i6 i⟩, ⟨87, [], i6 (min (j.length : Int) (l.length : Int))⟩, ⟨88, [], i6 D⟩] fi := dd; clear dd dc
    have au : Mem w.heap.size [] w Z [.own t6 3 y z o, .own t6 3 a c (sendS u0).2.2.1] L fj := de; clear de Q
    have aN := fg ar D fh
    refine sqB df au [] [] [(89, .bool (decide (D < (min (j.length : Int) (l.length : Int)))))] ?_; intro hk aO; clear df
    refine wp_seq ?_
    refine cd aO (t := decide (D < (min (j.length : Int) (l.length : Int)))) (by kernel_rfl) (fun bx => ?_) (fun bx => ?_)
    ·
     have fk := aN.1 bx; clear aN
     refine wp_skip ?_
     refine thn ?_
     refine wp_seq ?_
     refine wp_block ?_
     refine sqB aO au [] [] [(17, i6 D)] ?_; intro fl dg; clear aO
     have dh : Fr 149 [] [⟨3, [], str (sendS u0).1⟩, ⟨4, [], i6 (sendS u0).2.1⟩, ⟨5, [], .slice a (sendS u0).2.2.1.length c⟩, ⟨6, [], i6 (sendS u0).2.2.2⟩, ⟨11, [], str l⟩, ⟨12, [], .slice y o.length z⟩, ⟨13, [], i6 B⟩, ⟨14, [], i6 i⟩, ⟨15, [], str j⟩, ⟨16, [], i6 ar⟩, ⟨17, [], i6 D⟩, ⟨76, [], .slice p f.length u⟩, ⟨77, [], i6 (f.length : Int)⟩, ⟨78, [], i6 i⟩, ⟨87, [], i6 (min (j.length : Int) (l.length : Int))⟩, ⟨88, [], i6 D⟩] fl := dg.reg; clear dg
     refine sqQH mixed (by kernel_rfl) au ?_; intro fm di
     refine q1 dh 91 (str j) ?_; intro hl dj; clear dh
     refine q1 dj 92 (i6 D) ?_; intro hn bz; clear dj
     obtain ⟨fn, fo⟩ := fk
     obtain ⟨aP, dk⟩ : ∃ q, j[D.toNat]? = some q := ⟨_, List.getElem?_eq_getElem (by omega)⟩; have fp := fo aP dk
     refine qst bz (y8 (aP.toNat : Int)) (nog rfl _) rfl (by kernel_rfl) (fun v473 hC => stridx_run bz (k := .i64) rfl (by kernel_rfl) (by kernel_rfl) (by kernel_rfl) fn.1 dk) ?_; intro ho dl; clear bz
     refine q1 dl 94 (str l) ?_; intro hq dm; clear dl
     refine q1 dm 95 (i6 D) ?_; intro hr bA; clear dm
     obtain ⟨fq, fr⟩ := fp
     obtain ⟨aQ, dn⟩ : ∃ q, l[D.toNat]? = some q := ⟨_, List.getElem?_eq_getElem (by omega)⟩; have aR := fr aQ dn
     refine qst bA (y8 (aQ.toNat : Int)) (nog rfl _) rfl (by kernel_rfl) (fun v487 hC => stridx_run bA (k := .i64) rfl (by kernel_rfl) (by kernel_rfl) (by kernel_rfl) fq.1 dn) ?_; intro hs dp; clear bA
     refine q1 dp 97 (.bool ((aP.toNat : Int) != (aQ.toNat : Int))) ?_; intro ht av; clear dp
     refine qnl (di _ ?_); clear di fm; intro hu aS; clear au
     refine cd av (t := (aP.toNat : Int) != (aQ.toNat : Int)) (by kernel_rfl) (fun bB => ?_) (fun bB => ?_)
     ·
      have fs := aR.1 bB; clear aR
      refine sqB av aS [] [] [(16, i6 D)] ?_; intro hv ft; clear av
      refine wp_exit ?_
      refine ibo (by decide) ?_
      refine thx ?_
      refine thx ?_
      refine ibx ?_
      refine rd ?_
      exact cV D fs _ _ ((ft.reg).anyβ _ (by kernel_rfl)) (aS.keep (List.Sublist.cons_cons _ (List.Sublist.cons_cons _ (List.Sublist.slnil))))
     have dq := aR.2 bB; clear aR
     refine wp_skip ?_
     refine ibn ?_
     refine thn ?_
     refine rgB av aS [] [] [(88, i6 (w64 (D + 1)))] ?_; intro hw fu; clear av
     refine rd ?_
     exact ⟨⟨ar, w64 (D + 1)⟩, dq.1, dq.2, (fu.reg).anyβ _ (by kernel_rfl), aS.keep (List.Sublist.cons_cons _ (List.Sublist.cons_cons _ (List.Sublist.slnil)))⟩
    have fv := aN.2 bx; clear aN
    refine wp_exit ?_
    refine thx ?_
    refine thx ?_
    refine ibx ?_
    refine rd ?_
    exact cV ar fv _ _ ((aO.reg).anyβ _ (by kernel_rfl)) (au.keep (List.Sublist.cons_cons _ (List.Sublist.cons_cons _ (List.Sublist.slnil))))
   have fw := aH.2 bm; clear aH
   refine wp_exit ?_
   refine thx ?_
   refine thx ?_
   refine ibx ?_
   refine rd ?_
   exact es l o B y z fw _ _ ((aI.reg).anyβ _ (by kernel_rfl)) (Q.keep (List.Sublist.cons_cons _ (List.Sublist.cons_cons _ (List.Sublist.slnil))))
  refine wp_block ?_
  have dr : Fr 149 [] [⟨3, [], str (sendS u0).1⟩, ⟨4, [], i6 (sendS u0).2.1⟩, ⟨5, [], .slice a (sendS u0).2.2.1.length c⟩, ⟨6, [], i6 (sendS u0).2.2.2⟩, ⟨7, [], i6 M⟩, ⟨8, [], .slice none 0 0⟩, ⟨31, [], .slice ao1 u0.length cap2⟩, ⟨32, [], i6 (u0.length : Int)⟩, ⟨33, [], i6 0⟩] aA := a7.reg; clear a7
  have ds : Mem w.heap.size [] w Z [.own tyStr 9 none 0 ([] : List (List UInt8)), .own t6 3 a c (sendS u0).2.2.1] J d8 := ah.addNil tyStr 9 (by decide); clear ah
  have dt : Fr 149 [] [⟨3, [], str (sendS u0).1⟩, ⟨4, [], i6 (sendS u0).2.1⟩, ⟨5, [], .slice a (sendS u0).2.2.1.length c⟩, ⟨6, [], i6 (sendS u0).2.2.2⟩, ⟨7, [], i6 M⟩, ⟨8, [], .slice none ([] : List (List UInt8)).length 0⟩, ⟨31, [], .slice ao1 u0.length cap2⟩, ⟨32, [], i6 (u0.length : Int)⟩, ⟨33, [], i6 0⟩] aA := dr.reg; clear dr
  obtain ⟨fx, fy, fA, fB⟩ := eb
  refine lp (ι := Int × (List (List UInt8)) × Int × (Option Addr) × Nat) (fun s => [⟨3, [], str (sendS u0).1⟩, ⟨4, [], i6 (sendS u0).2.1⟩, ⟨5, [], .slice a (sendS u0).2.2.1.length c⟩, ⟨6, [], i6 (sendS u0).2.2.2⟩, ⟨7, [], i6 s.1⟩, ⟨8, [], .slice s.2.2.2.1 s.2.1.length s.2.2.2.2⟩, ⟨31, [], .slice ao1 u0.length cap2⟩, ⟨32, [], i6 (u0.length : Int)⟩, ⟨33, [], i6 s.2.2.1⟩]) (fun s => [.own tyStr 9 s.2.2.2.1 s.2.2.2.2 s.2.1, .own t6 3 a c (sendS u0).2.2.1]) (fun s => J) (fun s => fx s.1 s.2.1 s.2.2.1) (fun s => fy s.1 s.2.1 s.2.2.1) ⟨M, ([] : List (List UInt8)), 0, none, 0⟩ fA (by exact dt.reg) (by exact ds) ?_
  rintro ⟨H, C, E, F, G⟩ fC fD fE du dv
  have dw : Fr 149 [] [⟨3, [], str (sendS u0).1⟩, ⟨4, [], i6 (sendS u0).2.1⟩, ⟨5, [], .slice a (sendS u0).2.2.1.length c⟩, ⟨6, [], i6 (sendS u0).2.2.2⟩, ⟨7, [], i6 H⟩, ⟨8, [], .slice F C.length G⟩, ⟨31, [], .slice ao1 u0.length cap2⟩, ⟨32, [], i6 (u0.length : Int)⟩, ⟨33, [], i6 E⟩] fD := du; clear du dt
  have ad : Mem w.heap.size [] w Z [.own tyStr 9 F G C, .own t6 3 a c (sendS u0).2.2.1] J fE := dv; clear dv ds
  have aT := fB H C E fC
  refine sqB dw ad [] [] [(34, .bool (decide (E < (u0.length : Int))))] ?_; intro dx aU; clear dw
  refine wp_seq ?_
  refine cd aU (t := decide (E < (u0.length : Int))) (by kernel_rfl) (fun bC => ?_) (fun bC => ?_)
  ·
   have fF := aT.1 bC; clear aT
   refine wp_skip ?_
   refine thn ?_
   have dy : Fr 149 [] [⟨3, [], str (sendS u0).1⟩, ⟨4, [], i6 (sendS u0).2.1⟩, ⟨5, [], .slice a (sendS u0).2.2.1.length c⟩, ⟨6, [], i6 (sendS u0).2.2.2⟩, ⟨7, [], i6 H⟩, ⟨8, [], .slice F C.length G⟩, ⟨31, [], .slice ao1 u0.length cap2⟩, ⟨32, [], i6 (u0.length : Int)⟩, ⟨33, [], i6 E⟩] dx := aU.reg; clear aU
   have bD : Fr 149 [] [⟨3, [], str (sendS u0).1⟩, ⟨4, [], i6 (sendS u0).2.1⟩, ⟨5, [], .slice a (sendS u0).2.2.1.length c⟩, ⟨6, [], i6 (sendS u0).2.2.2⟩, ⟨7, [], i6 H⟩, ⟨8, [], .slice F C.length G⟩, ⟨31, [], .slice ao1 u0.length cap2⟩, ⟨32, [], i6 (u0.length : Int)⟩, ⟨33, [], i6 E⟩] dx := dy.reg; clear dy
   obtain ⟨fG, fH, fI⟩ := fF
   refine wp_seq_k fun KJ540 hKJ541 => ?_
   have dz : ∀ (aw : Int) (ae : List (List UInt8)) (aV : Option Addr) (aW : Nat), fG aw ae → ∀ a1 w1, Fr 149 [] [⟨3, [], str (sendS u0).1⟩, ⟨4, [], i6 (sendS u0).2.1⟩, ⟨5, [], .slice a (sendS u0).2.2.1.length c⟩, ⟨6, [], i6 (sendS u0).2.2.2⟩, ⟨7, [], i6 aw⟩, ⟨8, [], .slice aV ae.length aW⟩, ⟨31, [], .slice ao1 u0.length cap2⟩, ⟨32, [], i6 (u0.length : Int)⟩, ⟨33, [], i6 E⟩] a1 → Mem w.heap.size [] w Z [.own tyStr 9 aV aW ae, .own t6 3 a c (sendS u0).2.2.1] J w1 → KJ540 a1 w1 := by
    rintro aw ae aV aW fJ hx hy dA dB; clear bD ad
    refine hKJ541 _ _ ?_; clear hKJ541
    have dC := fI aw ae fJ
    refine rgB dA dB [] [] [(33, i6 (w64 (E + 1)))] ?_; intro hz fK; clear dA
    refine rd ?_
    exact ⟨⟨aw, ae, w64 (E + 1), aV, aW⟩, dC.1, dC.2, (fK.reg).anyβ _ (by kernel_rfl), dB.keep (List.Sublist.cons_cons _ (List.Sublist.cons_cons _ (List.Sublist.slnil)))⟩
   refine wp_block ?_
   refine sqH ?_; intro fL dD
   obtain ⟨fM, dE⟩ := fH
   refine ix bD (T := tyFrame) (xs := u0) hs3 E fM (k := .i64) (e := 24) (bytes := 48) (nog rfl _) rfl (by kernel_rfl) rfl (by kernel_rfl) (by kernel_rfl) (by kernel_rfl) ?_; intro hA hB hD d hE fN fO fP dF; clear bD
   have dG := dE d fN; clear dE
   obtain ⟨R, S, rfl, bE⟩ := fP
   have fQ := dG (bE.small); clear dG
   refine z2 dF ad 36 fO 0 6 (e24We d R S) rfl ?_; intro hF dH; clear dF
   refine nw dH ad pb [i6 0, .bool false, .bool false, .bool false, i6 0, .slice none 0 0] 24 ?_; intro af hG hH bF dI; clear dH ad
   refine sx bF dI 0 (e24We d R S) 0 ?_; intro fR dJ; clear dI
   have X : Mem w.heap.size [] w Z [.row af (e24We d R S) 24, .own tyStr 9 F G C, .own t6 3 a c (sendS u0).2.2.1] J fR := dJ; clear dJ
   refine nlH (dD _ _ ?_); clear dD fL
   refine wp_seq ?_
   refine sqB bF X [] [] [(38, .bool (H == 0))] ?_; intro dK dL; clear bF
   have dM : Fr 149 [] [⟨3, [], str (sendS u0).1⟩, ⟨4, [], i6 (sendS u0).2.1⟩, ⟨5, [], .slice a (sendS u0).2.2.1.length c⟩, ⟨6, [], i6 (sendS u0).2.2.2⟩, ⟨7, [], i6 H⟩, ⟨8, [], .slice F C.length G⟩, ⟨10, [], pt af 0⟩, ⟨31, [], .slice ao1 u0.length cap2⟩, ⟨32, [], i6 (u0.length : Int)⟩, ⟨33, [], i6 E⟩, ⟨38, [], .bool (H == 0)⟩] dK := dL.reg; clear dL
   have ax : Fr 149 [] [⟨3, [], str (sendS u0).1⟩, ⟨4, [], i6 (sendS u0).2.1⟩, ⟨5, [], .slice a (sendS u0).2.2.1.length c⟩, ⟨6, [], i6 (sendS u0).2.2.2⟩, ⟨7, [], i6 H⟩, ⟨8, [], .slice F C.length G⟩, ⟨10, [], pt af 0⟩, ⟨31, [], .slice ao1 u0.length cap2⟩, ⟨32, [], i6 (u0.length : Int)⟩, ⟨33, [], i6 E⟩, ⟨38, [], .bool (H == 0)⟩] dK := dM.reg; clear dM
   obtain ⟨fS, aX, fT⟩ := fQ
   refine wp_then_k fun KJ591 hKJ592 => ?_
   have dN : ∀ (W : Int), fS W → ∀ a1 w1, Fr 149 [] [⟨3, [], str (sendS u0).1⟩, ⟨4, [], i6 (sendS u0).2.1⟩, ⟨5, [], .slice a (sendS u0).2.2.1.length c⟩, ⟨6, [], i6 (sendS u0).2.2.2⟩, ⟨7, [], i6 W⟩, ⟨8, [], .slice F C.length G⟩, ⟨10, [], pt af 0⟩, ⟨31, [], .slice ao1 u0.length cap2⟩, ⟨32, [], i6 (u0.length : Int)⟩, ⟨33, [], i6 E⟩] a1 → Mem w.heap.size [] w Z [.row af (e24We d R S) 24, .own tyStr 9 F G C, .own t6 3 a c (sendS u0).2.2.1] J w1 → KJ591 a1 w1 := by
    rintro W fU hI hJ dO ag; clear ax X
    refine hKJ592 _ _ ?_; clear hKJ592
    have aY := fT W fU
    refine sqB dO ag [] [] [(42, .bool (W == 0))] ?_; intro hK aZ; clear dO
    refine cd aZ (t := W == 0) (by kernel_rfl) (fun bG => ?_) (fun bG => ?_)
    ·
     have fV := aY.1 bG; clear aY
     refine rgH ?_; intro fW dP
     refine bt aZ ag 2 [0] [] [(43, .slice F C.length G), (44, .agg (e24We d R S).toArray)] ?_; intro hL dQ; clear aZ
     obtain ⟨fX, fY⟩ := fV
     refine fc dQ ag (rbitsof_fun d fX R S _ _ bE hg5 ag.fz) ?_; intro hM hN dR dS; clear dQ ag
     refine nw dR dS (fun b => .slice (sm b) 1 1) [str (rbitsofS d)] 9 ?_; intro dT hO hP dU bH; clear dR dS
     obtain ⟨fZ, f0⟩ := fY
     refine ap dU bH 2 (T := tyStr) (xs := C) (ys := [(rbitsofS d)]) (ao := F) (cap := G) (ao2 := (sm dT)) (cap2 := 1) (t := 46) (e := 9) (bytes := 16) (nog rfl _) rfl (by kernel_rfl) rfl (by kernel_rfl) (by kernel_rfl) (by kernel_rfl) rfl (Src.row bH 0 rfl (RepAll.one (T := tyStr) (x := (rbitsofS d)) rfl)) fZ ?_; intro bI bJ hQ f1 hR dV dW; clear dU bH
     have f2 : Mem w.heap.size [] w Z [.row dT [str (rbitsofS d)] 9, .row af (e24We d R S) 24, .own tyStr 9 bI bJ (C ++ [(rbitsofS d)]), .own t6 3 a c (sendS u0).2.2.1] J f1 := dW; clear dW
     refine s1 dV 8 (.slice bI (C ++ [(rbitsofS d)]).length bJ) ?_; intro hS f3; clear dV
     refine nlH (dP _ _ ?_); clear dP fW
     refine ibn ?_
     refine rd ?_
     exact dz W (C ++ [(rbitsofS d)]) bI bJ f0 _ _ ((f3.reg).anyβ _ (by kernel_rfl)) (f2.keep (List.Sublist.cons _ (List.Sublist.cons _ (List.Sublist.cons_cons _ (List.Sublist.cons_cons _ (List.Sublist.slnil))))))
    have f4 := aY.2 bG; clear aY
    refine wp_skip ?_
    refine ibn ?_
    refine rd ?_
    exact dz W C F G f4 _ _ ((aZ.reg).anyβ _ (by kernel_rfl)) (ag.keep (List.Sublist.cons _ (List.Sublist.cons_cons _ (List.Sublist.cons_cons _ (List.Sublist.slnil)))))
   refine cd ax (t := H == 0) (by kernel_rfl) (fun bK => ?_) (fun bK => ?_)
   ·
    have f5 := aX.1 bK; clear aX
    refine rgH ?_; intro f6 dX
    refine l2 ax X 39 0 0 6 (e24We d R S) rfl rfl ?_; intro hT dY; clear ax
    refine fc dY X (rcheckfr_fun d R S _ _ bE X.fz) ?_; intro hU hV dZ f7; clear dY X
    refine s1 dZ 7 (i6 (fcheckfr d)) ?_; intro hW f8; clear dZ
    refine nlH (dX _ _ ?_); clear dX f6
    refine rd ?_
    exact dN (fcheckfr d) f5 _ _ ((f8.reg).anyβ _ (by kernel_rfl)) (f7.keep (List.Sublist.cons_cons _ (List.Sublist.cons_cons _ (List.Sublist.cons_cons _ (List.Sublist.slnil)))))
   have f9 := aX.2 bK; clear aX
   refine wp_skip ?_
   refine rd ?_
   exact dN H f9 _ _ ((ax.reg).anyβ _ (by kernel_rfl)) (X.keep (List.Sublist.cons_cons _ (List.Sublist.cons_cons _ (List.Sublist.cons_cons _ (List.Sublist.slnil)))))
  have ga := aT.2 bC; clear aT
  refine wp_exit ?_
  refine thx ?_
  refine thx ?_
  refine ibx ?_
  refine rd ?_
  exact ed H C F G ga _ _ ((aU.reg).anyβ _ (by kernel_rfl)) (ad.keep (List.Sublist.cons_cons _ (List.Sublist.cons_cons _ (List.Sublist.slnil))))
 refine cd Y (t := decide ((u0.length : Int) > 6)) (by kernel_rfl) (fun bL => ?_) (fun bL => ?_)
 ·
  have gb := az.1 bL; clear az
  refine rgB Y I [] [] [(7, i6 2)] ?_; intro hX gc; clear Y
  refine rd ?_
  exact a5 2 gb _ _ ((gc.reg).anyβ _ (by kernel_rfl)) (I.keep (List.Sublist.cons_cons _ (List.Sublist.slnil)))
 have a2 := az.2 bL; clear az
 refine sqB Y I [] [] [(30, .bool ((u0.length : Int) == 0))] ?_; intro hY a3; clear Y
 refine cd a3 (t := (u0.length : Int) == 0) (by kernel_rfl) (fun bM => ?_) (fun bM => ?_)
 ·
  have ge := a2.1 bM; clear a2
  refine rgB a3 I [] [] [(7, i6 8)] ?_; intro h0 gf; clear a3
  refine rd ?_
  exact a5 8 ge _ _ ((gf.reg).anyβ _ (by kernel_rfl)) (I.keep (List.Sublist.cons_cons _ (List.Sublist.slnil)))
 have gg := a2.2 bM; clear a2
 refine wp_skip ?_
 refine rd ?_
 exact a5 0 gg _ _ ((a3.reg).anyβ _ (by kernel_rfl)) (I.keep (List.Sublist.cons_cons _ (List.Sublist.slnil)))

end Go.Proofs.YtmbdcehmeiiaoaaGreatDoor
