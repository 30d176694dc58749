/- Texts put together (pure ones, or walks made by program). -/
import Derived.Test.YtginlmgkimfjmaaDoorKw0
import Derived.Test.YtginlmgkimfjmaaDoorKw1
import Derived.Test.YtginlmgkimfjmaaDoorKw2
set_option linter.unusedVariables false
set_option linter.unusedSimpArgs false
set_option maxRecDepth 100000
set_option maxHeartbeats 0
namespace Go.Proofs.YtginlmgkimfjmaaDoor
open Go.Sy Go.RowKit
abbrev e32XSa (X : Task) : List Value := [i6 X.ID, i6 X.Bytes, i6 X.Every, i6 X.Late, i6 X.Jitter]
theorem delayed_fun   (Z : Fz) (w : World)  (hZ : Z.on w) : Calls Tryd.prog 8 #[] w fun e w' => e = .returned (.bool true) ∧ Below w.heap.size w w' :=
  (delayed_walk   Z w  hZ (delayed_ok )).mono fun _ _ ⟨r, he, hk, hb⟩ => ⟨by subst hk; exact he, hb⟩

theorem rlong_fun (u0 : Bool) (u1 : Bool) (u2 : Int) (hpre : 0 ≤ u2 ∧ u2 ≤ 64 ∧ fcheckfr (lframe u0 u1 u2) = 0)  (Z : Fz) (w : World) (hg3 : SlR t8 Z (sm 3) 64 deBruijn64) (hZ : Z.on w) : Calls Tryd.prog 21 #[.bool u0, .bool u1, i6 u2] w fun e w' => e = .returned (i6 (rlongS u0 u1 u2)) ∧ Below w.heap.size w w' :=
  (rlong_walk u0 u1 u2  Z w hg3 hZ (rlong_ok u0 u1 u2 hpre)).mono fun _ _ ⟨r, he, hk, hb⟩ => ⟨by subst hk; exact he, hb⟩

theorem ctin_walk (u0 : Int) (u1 : Int) (u2 : Int)  (Z : Fz) (w : World)  (hZ : Z.on w) {K : Bool → Prop} (hp : ctin_vc u0 u1 u2 K) : Calls Tryd.prog 18 #[i6 u0, i6 u1, i6 u2] w fun e w' => ∃ r : Bool, e = .returned (.bool r) ∧ K r ∧ Below w.heap.size w w' := by
 refine enter0 Tryd.func18 rfl rfl (by kernel_rfl) ?_; intro f b; have a := Mem.start w Z hZ; have g := Fz.le.refl Z
 refine sqB b a [] [] [] ?_; intro h c; clear b
 refine sqB c a [] [] [(6, .bool ((decide (u0 ≥ u1)) && (decide (u0 ≤ u2))))] ?_; intro i d; clear c
 refine wp_ret ?_
 refine ra1 d (.bool ((decide (u0 ≥ u1)) && (decide (u0 ≤ u2)))) ?_
 exact ⟨(decide (u0 ≥ u1)) && (decide (u0 ≤ u2)), rfl, hp, a.below⟩
theorem ctin_fun (u0 : Int) (u1 : Int) (u2 : Int)  (Z : Fz) (w : World)  (hZ : Z.on w) : Calls Tryd.prog 18 #[i6 u0, i6 u1, i6 u2] w fun e w' => e = .returned (.bool (ctin u0 u1 u2)) ∧ Below w.heap.size w w' :=
  (ctin_walk u0 u1 u2  Z w  hZ (ctin_ok u0 u1 u2)).mono fun _ _ ⟨r, he, hk, hb⟩ => ⟨by subst hk; exact he, hb⟩

theorem ltakes_walk (u0 : Task)  (Z : Fz) (w : World) (hg3 : SlR t8 Z (sm 3) 64 deBruijn64) (hZ : Z.on w) {K : Int → Prop} (hp : ltakes_vc u0 K) : Calls Tryd.prog 10 #[.agg #[i6 u0.ID, i6 u0.Bytes, i6 u0.Every, i6 u0.Late, i6 u0.Jitter]] w fun e w' => ∃ r : Int, e = .returned (i6 r) ∧ K r ∧ Below w.heap.size w w' := by
 refine enter0 Tryd.func10 rfl rfl (by kernel_rfl) ?_; intro q b; have c := Mem.start w Z hZ; have s := Fz.le.refl Z
 refine sqH ?_; intro l d
 refine nw b c pb (e32XSa u0) 32 ?_; intro t u v f a; clear b c
 refine s1 f 2 (i6 0) ?_; intro x g; clear f
 refine nlH (d _ _ ?_); clear d l
 refine sqH ?_; intro m h
 refine bt g a 2 [0] [] [(4, i6 u0.Bytes)] ?_; intro y i; clear g
 obtain ⟨n, o⟩ := hp
 refine fc i a (rlong_fun false false u0.Bytes n _ _ hg3 a.fz) ?_; intro z A j k; clear i a
 refine bt j k 2 [] [] [(2, i6 (w64 ((rlongS false false u0.Bytes) + 3)))] ?_; intro B p; clear j
 refine nlH (h _ _ ?_); clear h m
 refine wp_ret ?_
 refine ra1 p (i6 (w64 ((rlongS false false u0.Bytes) + 3))) ?_
 exact ⟨w64 ((rlongS false false u0.Bytes) + 3), rfl, o, k.below⟩

theorem wup_walk (u0 : Int) (u1 : Int)  (Z : Fz) (w : World)  (hZ : Z.on w) {K : Int → Prop} (hp : wup_vc u0 u1 K) : Calls Tryd.prog 11 #[i6 u0, i6 u1] w fun e w' => ∃ r : Int, e = .returned (i6 r) ∧ K r ∧ Below w.heap.size w w' := by
 refine enter0 Tryd.func11 rfl rfl (by kernel_rfl) ?_; intro m c; have a := Mem.start w Z hZ; have n := Fz.le.refl Z
 refine sqB c a [] [] [] ?_; intro o d; clear c
 refine sqH ?_; intro i f
 refine bt d a 5 [] [] [(8, i6 (w64 ((w64 (u0 + u1)) - 1))), (9, i6 u1)] ?_; intro p b; clear d
 obtain ⟨j, k⟩ := hp
 refine st b (i6 (w64 ((w64 ((w64 (u0 + u1)) - 1)).tdiv u1))) (nog rfl _) rfl (by kernel_rfl) (quo_run b (g := []) rfl (by kernel_rfl) (by kernel_rfl) j rfl) ?_; intro q h; clear b
 refine s1 h 4 (i6 (w64 ((w64 ((w64 (u0 + u1)) - 1)).tdiv u1))) ?_; intro s l; clear h
 refine nlH (f _ _ ?_); clear f i
 refine wp_ret ?_
 refine ra1 l (i6 (w64 ((w64 ((w64 (u0 + u1)) - 1)).tdiv u1))) ?_
 exact ⟨w64 ((w64 ((w64 (u0 + u1)) - 1)).tdiv u1), rfl, k, a.below⟩

theorem dload_walk (u0 : List Task) (ao1 : Option Addr) (cap2 : Nat) (Z : Fz) (w : World) (hs3 : SlR tyTask Z ao1 cap2 u0) (hZ : Z.on w) {K : (Int × Int) → Prop} (hp : dload_vc u0 K) : Calls Tryd.prog 5 #[.slice ao1 u0.length cap2] w fun e w' => ∃ r : Int × Int, e = .returned (.tuple #[i6 r.1, i6 r.2]) ∧ K r ∧ Below w.heap.size w w' := by
 refine enter0 Tryd.func5 rfl rfl (by kernel_rfl) ?_; intro a0 A; have m := Mem.start w Z hZ; have aN := Fz.le.refl Z
 have n := hp (hs3.small); clear hp
 refine sqB A m [] [] [] ?_; intro a8 B; clear A
 refine wp_seq ?_
 refine sqH ?_; intro al C
 refine s1 B 8 (.slice ao1 u0.length cap2) ?_; intro aO D; clear B
 refine fc D m (dcheck_fun u0 ao1 cap2 _ _ hs3 m.fz) ?_; intro aP aQ E f; clear D m
 refine s1 E 4 (i6 (dcheckS u0)) ?_; intro aR F; clear E
 refine nlH (C _ _ ?_); clear C al
 refine sqB F f [] [] [(11, .bool ((dcheckS u0) != 0))] ?_; intro aS j; clear F
 refine cd j (t := (dcheckS u0) != 0) (by kernel_rfl) (fun p => ?_) (fun p => ?_)
 · -- yes
  have am := n.1 p; clear n
  refine sqB j f [] [] [(2, i6 0), (3, i6 (dcheckS u0))] ?_; intro aT an; clear j
  refine wp_ret ?_
  refine thr ?_
  refine ra2 an (.tuple #[i6 0, i6 (dcheckS u0)]) ?_
  exact ⟨(0, (dcheckS u0)), rfl, am, f.below⟩
 · -- no
  have ao := n.2 p; clear n
  refine wp_skip ?_
  refine thn ?_
  refine sqB j f [] [] [(5, i6 0)] ?_; intro aU G; clear j
  refine wp_seq ?_
  refine sqB G f [] [] [(13, .slice ao1 u0.length cap2), (14, i6 (u0.length : Int)), (15, i6 0)] ?_; intro H I; clear G
  refine wp_block ?_
  have J : Fr 33 [] [⟨5, [], i6 0⟩, ⟨13, [], .slice ao1 u0.length cap2⟩, ⟨14, [], i6 (u0.length : Int)⟩, ⟨15, [], i6 0⟩] H := I.region (by kernel_rfl) (by kernel_rfl); clear I
  have L : Fr 33 [] [⟨5, [], i6 0⟩, ⟨13, [], .slice ao1 u0.length cap2⟩, ⟨14, [], i6 (u0.length : Int)⟩, ⟨15, [], i6 0⟩] H := J.region (by kernel_rfl) (by kernel_rfl); clear J
  obtain ⟨ap, aq, ar, au⟩ := ao
  refine lp (ι := Int × Int) (fun s => [⟨5, [], i6 s.1⟩, ⟨13, [], .slice ao1 u0.length cap2⟩, ⟨14, [], i6 (u0.length : Int)⟩, ⟨15, [], i6 s.2⟩]) (fun s => []) (fun s => Z) (fun s => ap s.1 s.2) (fun s => aq s.1 s.2) ⟨0, 0⟩ ar (by exact L.region (by kernel_rfl) (by kernel_rfl)) (by exact f) ?_
  rintro ⟨c, d⟩ av aw ax M N
  have O : Fr 33 [] [⟨5, [], i6 c⟩, ⟨13, [], .slice ao1 u0.length cap2⟩, ⟨14, [], i6 (u0.length : Int)⟩, ⟨15, [], i6 d⟩] aw := M; clear M L
  have i : Mem w.heap.size [] w Z [] Z ax := N; clear N f
  have o := au c d av
  refine sqB O i [] [] [(16, .bool (decide (d < (u0.length : Int))))] ?_; intro aV l; clear O
  refine wp_seq ?_
  refine cd l (t := decide (d < (u0.length : Int))) (by kernel_rfl) (fun q => ?_) (fun q => ?_)
  · -- yes
   have ay := o.1 q; clear o
   refine wp_skip ?_
   refine thn ?_
   refine wp_seq ?_
   refine wp_block ?_
   refine sqH ?_; intro az P
   obtain ⟨aA, Q⟩ := ay
   refine ix l (T := tyTask) (xs := u0) hs3 d aA (k := .i64) (e := 32) (bytes := 40) (nog rfl _) rfl (by kernel_rfl) rfl (by kernel_rfl) (by kernel_rfl) (by kernel_rfl) ?_; intro aW aX aB a aY aC aD aE R; clear l
   have aF := Q a aC; clear Q
   obtain rfl : aB = ((e32XSa a) : List Value) := aE
   refine z2 R i 18 aD 0 5 (e32XSa a) rfl ?_; intro aZ S; clear R
   refine nw S i pb [i6 0, i6 0, i6 0, i6 0, i6 0] 32 ?_; intro h aG a1 u U; clear S i
   refine sx u U 0 (e32XSa a) 0 ?_; intro aH V; clear U
   have W : Mem w.heap.size [] w Z [.row h (e32XSa a) 32] Z aH := V; clear V
   refine nlH (P _ _ ?_); clear P az
   have X : Fr 33 [] [⟨5, [], i6 c⟩, ⟨7, [], pt h 0⟩, ⟨13, [], .slice ao1 u0.length cap2⟩, ⟨14, [], i6 (u0.length : Int)⟩, ⟨15, [], i6 d⟩] aG := u.region (by kernel_rfl) (by kernel_rfl); clear u
   refine qrgH mixed (by kernel_rfl) W ?_; intro aI Y
   refine q1 X 19 (i6 c) ?_; intro a2 v; clear X
   refine qst v (.agg (e32XSa a).toArray) (nog rfl _) rfl (by kernel_rfl) (fun v91 hC => lda v hC 0 (g := []) (b := h) (off := 0) (k := 5) (cs := (e32XSa a)) (vs := (e32XSa a)) (ty := 32) rfl (by kernel_rfl) (by kernel_rfl) (by kernel_rfl) (by kernel_rfl) (by kernel_rfl) rfl) ?_; intro a3 aa; clear v
   refine qcl aa (i6 (dlongS a)) 16 #[.agg (e32XSa a).toArray] (nog rfl _) rfl (by kernel_rfl) (fun _ => by kernel_rfl) (qfc fun w hC => dlong_fun a _ _ hC.fz) ?_; intro a4 ab; clear aa
   refine q1 ab 22 (i6 (w64 (1000000 * (dlongS a)))) ?_; intro a5 ac; clear ab
   refine q1 ac 23 (pt h 2) ?_; intro a6 x; clear ac
   refine qst x (i6 a.Every) (nog rfl _) rfl (by kernel_rfl) (fun v103 hC => ld x hC 0 (g := []) (b := h) (off := 2) (cs := (e32XSa a)) (ty := 32) rfl (by kernel_rfl) (by kernel_rfl) (by kernel_rfl) (by kernel_rfl) rfl) ?_; intro a7 ad; clear x
   refine q1 ad 25 (i6 (w64 ((w64 (1000000 * (dlongS a))) + a.Every))) ?_; intro a9 ae; clear ad
   refine q1 ae 26 (i6 (w64 ((w64 ((w64 (1000000 * (dlongS a))) + a.Every)) - 1))) ?_; intro ba af; clear ae
   refine q1 af 27 (pt h 2) ?_; intro bb y; clear af
   refine qst y (i6 a.Every) (nog rfl _) rfl (by kernel_rfl) (fun v115 hC => ld y hC 0 (g := []) (b := h) (off := 2) (cs := (e32XSa a)) (ty := 32) rfl (by kernel_rfl) (by kernel_rfl) (by kernel_rfl) (by kernel_rfl) rfl) ?_; intro bc z; clear y
   obtain ⟨aJ, ag⟩ := aF
   refine qst z (i6 (w64 ((w64 ((w64 ((w64 (1000000 * (dlongS a))) + a.Every)) - 1)).tdiv a.Every))) (nog rfl _) rfl (by kernel_rfl) (fun v118 hC => quo_run z (g := []) rfl (by kernel_rfl) (by kernel_rfl) aJ rfl) ?_; intro bd ah; clear z
   refine q1 ah 30 (i6 (w64 (c + (w64 ((w64 ((w64 ((w64 (1000000 * (dlongS a))) + a.Every)) - 1)).tdiv a.Every))))) ?_; intro be ai; clear ah
   refine q1 ai 5 (i6 (w64 (c + (w64 ((w64 ((w64 ((w64 (1000000 * (dlongS a))) + a.Every)) - 1)).tdiv a.Every))))) ?_; intro bf aj; clear ai
   refine qnl (Y _ ?_); clear Y aI; intro bg ak; clear W
   refine ibn ?_
   refine thn ?_
   refine rgB aj ak [] [] [(15, i6 (w64 (d + 1)))] ?_; intro bh aK; clear aj
   refine rd ?_
   exact ⟨⟨w64 (c + (w64 ((w64 ((w64 ((w64 (1000000 * (dlongS a))) + a.Every)) - 1)).tdiv a.Every))), w64 (d + 1)⟩, ag.1, ag.2, (aK.region (by kernel_rfl) (by kernel_rfl)).anyβ _ (by kernel_rfl), ak.keep (List.Sublist.cons _ (List.Sublist.slnil))⟩
  · -- no
   have aL := o.2 q; clear o
   refine wp_exit ?_
   refine thx ?_
   refine thx ?_
   refine ibx ?_
   refine thn ?_
   refine sqB l i [] [] [(2, i6 c), (3, i6 0)] ?_; intro bi aM; clear l
   refine wp_ret ?_
   refine ra2 aM (.tuple #[i6 c, i6 0]) ?_
   exact ⟨(c, 0), rfl, aL, i.below⟩

end Go.Proofs.YtginlmgkimfjmaaDoor
set_option linter.unusedVariables false
set_option linter.unusedSimpArgs false
set_option maxRecDepth 100000
set_option maxHeartbeats 0
namespace Go.Proofs.YtginlmgkimfjmaaDoor
open Go.Sy Go.RowKit
abbrev e32XSb (X : Task) : List Value := [i6 X.ID, i6 X.Bytes, i6 X.Every, i6 X.Late, i6 X.Jitter]
theorem ltakes_fun (u0 : Task) (hpre : 0 ≤ u0.Bytes ∧ u0.Bytes ≤ 8)  (Z : Fz) (w : World) (hg3 : SlR t8 Z (sm 3) 64 deBruijn64) (hZ : Z.on w) : Calls Tryd.prog 10 #[.agg #[i6 u0.ID, i6 u0.Bytes, i6 u0.Every, i6 u0.Late, i6 u0.Jitter]] w fun e w' => e = .returned (i6 (ltakesS u0)) ∧ Below w.heap.size w w' :=
  (ltakes_walk u0  Z w hg3 hZ (ltakes_ok u0 hpre)).mono fun _ _ ⟨r, he, hk, hb⟩ => ⟨by subst hk; exact he, hb⟩

theorem wup_fun (u0 : Int) (u1 : Int) (hpre : u1 ≠ 0)  (Z : Fz) (w : World)  (hZ : Z.on w) : Calls Tryd.prog 11 #[i6 u0, i6 u1] w fun e w' => e = .returned (i6 (wupS u0 u1)) ∧ Below w.heap.size w w' :=
  (wup_walk u0 u1  Z w  hZ (wup_ok u0 u1 hpre)).mono fun _ _ ⟨r, he, hk, hb⟩ => ⟨by subst hk; exact he, hb⟩

theorem dload_fun (u0 : List Task) (ao1 : Option Addr) (cap2 : Nat) (Z : Fz) (w : World) (hs3 : SlR tyTask Z ao1 cap2 u0) (hZ : Z.on w) : Calls Tryd.prog 5 #[.slice ao1 u0.length cap2] w fun e w' => e = .returned (.tuple #[i6 (loadS u0).1, i6 (loadS u0).2]) ∧ Below w.heap.size w w' :=
  (dload_walk u0 ao1 cap2 Z w hs3 hZ (dload_ok u0)).mono fun _ _ ⟨r, he, hk, hb⟩ => ⟨by subst hk; exact he, hb⟩

theorem chkT_walk (u0 : List Task) (ao1 : Option Addr) (cap2 : Nat) (Z : Fz) (w : World) (hs3 : SlR tyTask Z ao1 cap2 u0) (hZ : Z.on w) {K : Int → Prop} (hp : chkT_vc u0 K) : Calls Tryd.prog 7 #[.slice ao1 u0.length cap2] w fun e w' => ∃ r : Int, e = .returned (i6 r) ∧ K r ∧ Below w.heap.size w w' := by
 refine enter0 Tryd.func7 rfl rfl (by kernel_rfl) ?_; intro a0 am; have j := Mem.start w Z hZ; have ct := Fz.le.refl Z
 have y := hp (hs3.small); clear hp
 refine sqB am j [] [] [] ?_; intro a6 an; clear am
 refine wp_seq ?_
 refine sqB an j [] [] [(8, .bool (decide ((u0.length : Int) > 20)))] ?_; intro cu o; clear an
 refine cd o (t := decide ((u0.length : Int) > 20)) (by kernel_rfl) (fun U => ?_) (fun U => ?_)
 · -- yes
  have bJ := y.1 U; clear y
  refine sqB o j [] [] [(2, i6 2)] ?_; intro cv bK; clear o
  refine wp_ret ?_
  refine thr ?_
  refine ra1 bK (i6 2) ?_
  exact ⟨2, rfl, bJ, j.below⟩
 · -- no
  have bL := y.2 U; clear y
  refine wp_skip ?_
  refine thn ?_
  refine sqB o j [] [] [(3, .func (.func 18) #[] #[])] ?_; intro cw ao; clear o
  refine wp_seq ?_
  refine sqB ao j [] [] [(9, .slice ao1 u0.length cap2), (10, i6 (u0.length : Int)), (11, i6 0)] ?_; intro ap aq; clear ao
  refine wp_block ?_
  have ar : Fr 66 [] [⟨0, [], .slice ao1 u0.length cap2⟩, ⟨3, [], .func (.func 18) #[] #[]⟩, ⟨9, [], .slice ao1 u0.length cap2⟩, ⟨10, [], i6 (u0.length : Int)⟩, ⟨11, [], i6 0⟩] ap := aq.region (by kernel_rfl) (by kernel_rfl); clear aq
  have au : Fr 66 [] [⟨0, [], .slice ao1 u0.length cap2⟩, ⟨3, [], .func (.func 18) #[] #[]⟩, ⟨9, [], .slice ao1 u0.length cap2⟩, ⟨10, [], i6 (u0.length : Int)⟩, ⟨11, [], i6 0⟩] ap := ar.region (by kernel_rfl) (by kernel_rfl); clear ar
  obtain ⟨bM, bN, bO, bP⟩ := bL
  refine lp (ι := Int) (fun s => [⟨0, [], .slice ao1 u0.length cap2⟩, ⟨3, [], .func (.func 18) #[] #[]⟩, ⟨9, [], .slice ao1 u0.length cap2⟩, ⟨10, [], i6 (u0.length : Int)⟩, ⟨11, [], i6 s⟩]) (fun s => []) (fun s => Z) (fun s => bM s) (fun s => bN s) 0 bO (by exact au.region (by kernel_rfl) (by kernel_rfl)) (by exact j) ?_
  rintro f bQ bR bS av aw
  have ax : Fr 66 [] [⟨0, [], .slice ao1 u0.length cap2⟩, ⟨3, [], .func (.func 18) #[] #[]⟩, ⟨9, [], .slice ao1 u0.length cap2⟩, ⟨10, [], i6 (u0.length : Int)⟩, ⟨11, [], i6 f⟩] bR := av; clear av au
  have l : Mem w.heap.size [] w Z [] Z bS := aw; clear aw j
  have z := bP f bQ
  refine sqB ax l [] [] [(12, .bool (decide (f < (u0.length : Int))))] ?_; intro ay p; clear ax
  refine wp_seq ?_
  refine cd p (t := decide (f < (u0.length : Int))) (by kernel_rfl) (fun V => ?_) (fun V => ?_)
  · -- yes
   have bT := z.1 V; clear z
   refine wp_skip ?_
   refine thn ?_
   have az : Fr 66 [] [⟨0, [], .slice ao1 u0.length cap2⟩, ⟨3, [], .func (.func 18) #[] #[]⟩, ⟨9, [], .slice ao1 u0.length cap2⟩, ⟨10, [], i6 (u0.length : Int)⟩, ⟨11, [], i6 f⟩] ay := p.region (by kernel_rfl) (by kernel_rfl); clear p
   have W : Fr 66 [] [⟨0, [], .slice ao1 u0.length cap2⟩, ⟨3, [], .func (.func 18) #[] #[]⟩, ⟨9, [], .slice ao1 u0.length cap2⟩, ⟨10, [], i6 (u0.length : Int)⟩, ⟨11, [], i6 f⟩] ay := az.region (by kernel_rfl) (by kernel_rfl); clear az
   obtain ⟨bU, bV, bW⟩ := bT
   refine wp_seq_k fun KJ55 hKJ56 => ?_
   have aA : ∀ (_u : Unit), bU → ∀ a1 w1, Fr 66 [] [⟨0, [], .slice ao1 u0.length cap2⟩, ⟨3, [], .func (.func 18) #[] #[]⟩, ⟨9, [], .slice ao1 u0.length cap2⟩, ⟨10, [], i6 (u0.length : Int)⟩, ⟨11, [], i6 f⟩] a1 → Mem w.heap.size [] w Z [] Z w1 → KJ55 a1 w1 := by
    rintro _u bX cx cy aB aC; clear W l
    refine hKJ56 _ _ ?_; clear hKJ56
    have aD := bW  bX
    refine rgB aB aC [] [] [(11, i6 (w64 (f + 1)))] ?_; intro cz bY; clear aB
    refine rd ?_
    exact ⟨w64 (f + 1), aD.1, aD.2, (bY.region (by kernel_rfl) (by kernel_rfl)).anyβ _ (by kernel_rfl), aC.keep (List.Sublist.slnil)⟩
   refine wp_block ?_
   refine sqH ?_; intro bZ aE
   refine s1 W 13 (i6 f) ?_; intro cA aF; clear W
   obtain ⟨b0, aG⟩ := bV
   refine ix aF (T := tyTask) (xs := u0) hs3 f b0 (k := .i64) (e := 32) (bytes := 40) (nog rfl _) rfl (by kernel_rfl) rfl (by kernel_rfl) (by kernel_rfl) (by kernel_rfl) ?_; intro cB cC b1 a cD b2 b3 b4 aH; clear aF
   have A := aG a b2; clear aG
   obtain rfl : b1 = ((e32XSb a) : List Value) := b4
   refine z2 aH l 15 b3 0 5 (e32XSb a) rfl ?_; intro cE aI; clear aH
   refine nw aI l pb [i6 0, i6 0, i6 0, i6 0, i6 0] 32 ?_; intro h cF cG aJ aK; clear aI l
   refine s1 aJ 4 (i6 f) ?_; intro cH X; clear aJ
   refine sx X aK 0 (e32XSb a) 0 ?_; intro b5 aL; clear aK
   have B : Mem w.heap.size [] w Z [.row h (e32XSb a) 32] Z b5 := aL; clear aL
   refine nlH (aE _ _ ?_); clear aE bZ
   refine wp_seq ?_
   refine sqH ?_; intro b6 aM
   refine bt X B 3 [0] [] [(16, .func (.func 18) #[] #[]), (18, i6 a.ID)] ?_; intro cI aN; clear X
   refine fc aN B (ctin_fun a.ID 0 2047 _ _ B.fz) ?_; intro cJ cK aO C; clear aN B
   refine s1 aO 20 (.bool (!(ctin a.ID 0 2047))) ?_; intro cL aP; clear aO
   refine s1 aP 21 (.bool (!(ctin a.ID 0 2047))) ?_; intro cM aQ; clear aP
   have aR := aQ.atom ((!(ctin a.ID 0 2047)) == false) (by kernel_rfl); clear aQ
   refine gp aR 22 0 [] (!(ctin a.ID 0 2047)) (.func (.func 18) #[] #[]) rfl rfl ?_; intro cN aS; clear aR
   refine gp aS 23 0 [] (!(ctin a.ID 0 2047)) (pt h 2) rfl rfl ?_; intro cO Y; clear aS
   refine gd Y (i6 a.Every) (m := 0) (cj := []) (bj := !(ctin a.ID 0 2047)) rfl rfl (by kernel_rfl) rfl (by kernel_rfl) (by kernel_rfl) (by kernel_rfl) (fun hg => ld Y C 0 (g := [0]) (b := h) (off := 2) (cs := (e32XSb a)) (ty := 32) rfl (by kernel_rfl) (by kernel_rfl) (by kernel_rfl) (by kernel_rfl) hg) ?_; intro cP aT; clear Y
   refine gcl aT C (.bool (ctin a.Every 1 1000000)) 18 #[i6 a.Every, i6 1, i6 1000000] (m := 0) (cj := []) (bj := !(ctin a.ID 0 2047)) rfl rfl (by kernel_rfl) rfl (by kernel_rfl) (by kernel_rfl) (by kernel_rfl) (fun _ => by kernel_rfl) (fun hg => ctin_fun a.Every 1 1000000 _ _ C.fz) ?_; intro cQ cR aU D; clear aT C
   refine gp aU 26 0 [] (!(ctin a.ID 0 2047)) (.bool (!(ctin a.Every 1 1000000))) rfl rfl ?_; intro cS aa; clear aU
   refine st aa (.bool ((!(ctin a.ID 0 2047)) || (!(ctin a.Every 1 1000000)))) (nog rfl _) rfl (by kernel_rfl) (pk_or aa (g := []) (m := 0) (b := !(ctin a.ID 0 2047)) (v := !(ctin a.Every 1 1000000)) rfl (by kernel_rfl) (by kernel_rfl) (by kernel_rfl) rfl) ?_; intro cT aV; clear aa
   refine s1 aV 28 (.bool ((!(ctin a.ID 0 2047)) || (!(ctin a.Every 1 1000000)))) ?_; intro cU aW; clear aV
   have aX := aW.atom (((!(ctin a.ID 0 2047)) || (!(ctin a.Every 1 1000000))) == false) (by kernel_rfl); clear aW
   refine gp aX 29 1 [] ((!(ctin a.ID 0 2047)) || (!(ctin a.Every 1 1000000))) (.func (.func 18) #[] #[]) rfl rfl ?_; intro cV aY; clear aX
   refine gp aY 30 1 [] ((!(ctin a.ID 0 2047)) || (!(ctin a.Every 1 1000000))) (pt h 3) rfl rfl ?_; intro cW ab; clear aY
   refine gd ab (i6 a.Late) (m := 1) (cj := []) (bj := (!(ctin a.ID 0 2047)) || (!(ctin a.Every 1 1000000))) rfl rfl (by kernel_rfl) rfl (by kernel_rfl) (by kernel_rfl) (by kernel_rfl) (fun hg => ld ab D 0 (g := [1]) (b := h) (off := 3) (cs := (e32XSb a)) (ty := 32) rfl (by kernel_rfl) (by kernel_rfl) (by kernel_rfl) (by kernel_rfl) hg) ?_; intro cX aZ; clear ab
   refine gcl aZ D (.bool (ctin a.Late 0 1000000)) 18 #[i6 a.Late, i6 0, i6 1000000] (m := 1) (cj := []) (bj := (!(ctin a.ID 0 2047)) || (!(ctin a.Every 1 1000000))) rfl rfl (by kernel_rfl) rfl (by kernel_rfl) (by kernel_rfl) (by kernel_rfl) (fun _ => by kernel_rfl) (fun hg => ctin_fun a.Late 0 1000000 _ _ D.fz) ?_; intro cY cZ a2 q; clear aZ D
   refine gp a2 33 1 [] ((!(ctin a.ID 0 2047)) || (!(ctin a.Every 1 1000000))) (.bool (!(ctin a.Late 0 1000000))) rfl rfl ?_; intro c0 ac; clear a2
   refine st ac (.bool (((!(ctin a.ID 0 2047)) || (!(ctin a.Every 1 1000000))) || (!(ctin a.Late 0 1000000)))) (nog rfl _) rfl (by kernel_rfl) (pk_or ac (g := []) (m := 1) (b := (!(ctin a.ID 0 2047)) || (!(ctin a.Every 1 1000000))) (v := !(ctin a.Late 0 1000000)) rfl (by kernel_rfl) (by kernel_rfl) (by kernel_rfl) rfl) ?_; intro c1 a3; clear ac
   refine s1 a3 35 (.bool (((!(ctin a.ID 0 2047)) || (!(ctin a.Every 1 1000000))) || (!(ctin a.Late 0 1000000)))) ?_; intro c2 a4; clear a3
   have a5 := a4.atom ((((!(ctin a.ID 0 2047)) || (!(ctin a.Every 1 1000000))) || (!(ctin a.Late 0 1000000))) == false) (by kernel_rfl); clear a4
   refine gp a5 36 2 [] (((!(ctin a.ID 0 2047)) || (!(ctin a.Every 1 1000000))) || (!(ctin a.Late 0 1000000))) (.func (.func 18) #[] #[]) rfl rfl ?_; intro c3 a7; clear a5
   refine gp a7 37 2 [] (((!(ctin a.ID 0 2047)) || (!(ctin a.Every 1 1000000))) || (!(ctin a.Late 0 1000000))) (pt h 4) rfl rfl ?_; intro c4 ad; clear a7
   refine gd ad (i6 a.Jitter) (m := 2) (cj := []) (bj := ((!(ctin a.ID 0 2047)) || (!(ctin a.Every 1 1000000))) || (!(ctin a.Late 0 1000000))) rfl rfl (by kernel_rfl) rfl (by kernel_rfl) (by kernel_rfl) (by kernel_rfl) (fun hg => ld ad q 0 (g := [2]) (b := h) (off := 4) (cs := (e32XSb a)) (ty := 32) rfl (by kernel_rfl) (by kernel_rfl) (by kernel_rfl) (by kernel_rfl) hg) ?_; intro c5 a8; clear ad
   refine gp a8 39 2 [] (((!(ctin a.ID 0 2047)) || (!(ctin a.Every 1 1000000))) || (!(ctin a.Late 0 1000000))) (pt h 2) rfl rfl ?_; intro c6 ae; clear a8
   refine gd ae (i6 a.Every) (m := 2) (cj := []) (bj := ((!(ctin a.ID 0 2047)) || (!(ctin a.Every 1 1000000))) || (!(ctin a.Late 0 1000000))) rfl rfl (by kernel_rfl) rfl (by kernel_rfl) (by kernel_rfl) (by kernel_rfl) (fun hg => ld ae q 0 (g := [2]) (b := h) (off := 2) (cs := (e32XSb a)) (ty := 32) rfl (by kernel_rfl) (by kernel_rfl) (by kernel_rfl) (by kernel_rfl) hg) ?_; intro c7 a9; clear ae
   refine gp a9 41 2 [] (((!(ctin a.ID 0 2047)) || (!(ctin a.Every 1 1000000))) || (!(ctin a.Late 0 1000000))) (i6 (w64 (a.Every - 1))) rfl rfl ?_; intro c8 ba; clear a9
   refine gcl ba q (.bool (ctin a.Jitter 0 (w64 (a.Every - 1)))) 18 #[i6 a.Jitter, i6 0, i6 (w64 (a.Every - 1))] (m := 2) (cj := []) (bj := ((!(ctin a.ID 0 2047)) || (!(ctin a.Every 1 1000000))) || (!(ctin a.Late 0 1000000))) rfl rfl (by kernel_rfl) rfl (by kernel_rfl) (by kernel_rfl) (by kernel_rfl) (fun _ => by kernel_rfl) (fun hg => ctin_fun a.Jitter 0 (w64 (a.Every - 1)) _ _ q.fz) ?_; intro c9 da bb E; clear ba q
   refine gp bb 43 2 [] (((!(ctin a.ID 0 2047)) || (!(ctin a.Every 1 1000000))) || (!(ctin a.Late 0 1000000))) (.bool (!(ctin a.Jitter 0 (w64 (a.Every - 1))))) rfl rfl ?_; intro db af; clear bb
   refine st af (.bool ((((!(ctin a.ID 0 2047)) || (!(ctin a.Every 1 1000000))) || (!(ctin a.Late 0 1000000))) || (!(ctin a.Jitter 0 (w64 (a.Every - 1)))))) (nog rfl _) rfl (by kernel_rfl) (pk_or af (g := []) (m := 2) (b := ((!(ctin a.ID 0 2047)) || (!(ctin a.Every 1 1000000))) || (!(ctin a.Late 0 1000000))) (v := !(ctin a.Jitter 0 (w64 (a.Every - 1)))) rfl (by kernel_rfl) (by kernel_rfl) (by kernel_rfl) rfl) ?_; intro dc bc; clear af
   refine s1 bc 45 (.bool ((((!(ctin a.ID 0 2047)) || (!(ctin a.Every 1 1000000))) || (!(ctin a.Late 0 1000000))) || (!(ctin a.Jitter 0 (w64 (a.Every - 1)))))) ?_; intro dd bd; clear bc
   have be := bd.atom (((((!(ctin a.ID 0 2047)) || (!(ctin a.Every 1 1000000))) || (!(ctin a.Late 0 1000000))) || (!(ctin a.Jitter 0 (w64 (a.Every - 1))))) == false) (by kernel_rfl); clear bd
   refine gp be 46 3 [] ((((!(ctin a.ID 0 2047)) || (!(ctin a.Every 1 1000000))) || (!(ctin a.Late 0 1000000))) || (!(ctin a.Jitter 0 (w64 (a.Every - 1))))) (.func (.func 18) #[] #[]) rfl rfl ?_; intro de bf; clear be
   refine gp bf 47 3 [] ((((!(ctin a.ID 0 2047)) || (!(ctin a.Every 1 1000000))) || (!(ctin a.Late 0 1000000))) || (!(ctin a.Jitter 0 (w64 (a.Every - 1))))) (pt h 1) rfl rfl ?_; intro df ag; clear bf
   refine gd ag (i6 a.Bytes) (m := 3) (cj := []) (bj := (((!(ctin a.ID 0 2047)) || (!(ctin a.Every 1 1000000))) || (!(ctin a.Late 0 1000000))) || (!(ctin a.Jitter 0 (w64 (a.Every - 1))))) rfl rfl (by kernel_rfl) rfl (by kernel_rfl) (by kernel_rfl) (by kernel_rfl) (fun hg => ld ag E 0 (g := [3]) (b := h) (off := 1) (cs := (e32XSb a)) (ty := 32) rfl (by kernel_rfl) (by kernel_rfl) (by kernel_rfl) (by kernel_rfl) hg) ?_; intro dg bg; clear ag
   refine gcl bg E (.bool (ctin a.Bytes 0 8)) 18 #[i6 a.Bytes, i6 0, i6 8] (m := 3) (cj := []) (bj := (((!(ctin a.ID 0 2047)) || (!(ctin a.Every 1 1000000))) || (!(ctin a.Late 0 1000000))) || (!(ctin a.Jitter 0 (w64 (a.Every - 1))))) rfl rfl (by kernel_rfl) rfl (by kernel_rfl) (by kernel_rfl) (by kernel_rfl) (fun _ => by kernel_rfl) (fun hg => ctin_fun a.Bytes 0 8 _ _ E.fz) ?_; intro dh di bh n; clear bg E
   refine gp bh 50 3 [] ((((!(ctin a.ID 0 2047)) || (!(ctin a.Every 1 1000000))) || (!(ctin a.Late 0 1000000))) || (!(ctin a.Jitter 0 (w64 (a.Every - 1))))) (.bool (!(ctin a.Bytes 0 8))) rfl rfl ?_; intro dj ah; clear bh
   refine st ah (.bool (((((!(ctin a.ID 0 2047)) || (!(ctin a.Every 1 1000000))) || (!(ctin a.Late 0 1000000))) || (!(ctin a.Jitter 0 (w64 (a.Every - 1))))) || (!(ctin a.Bytes 0 8)))) (nog rfl _) rfl (by kernel_rfl) (pk_or ah (g := []) (m := 3) (b := (((!(ctin a.ID 0 2047)) || (!(ctin a.Every 1 1000000))) || (!(ctin a.Late 0 1000000))) || (!(ctin a.Jitter 0 (w64 (a.Every - 1))))) (v := !(ctin a.Bytes 0 8)) rfl (by kernel_rfl) (by kernel_rfl) (by kernel_rfl) rfl) ?_; intro F u; clear ah
   refine nlH (aM _ _ ?_); clear aM b6
   refine cd u (t := ((((!(ctin a.ID 0 2047)) || (!(ctin a.Every 1 1000000))) || (!(ctin a.Late 0 1000000))) || (!(ctin a.Jitter 0 (w64 (a.Every - 1))))) || (!(ctin a.Bytes 0 8))) (by kernel_rfl) (fun ai => ?_) (fun ai => ?_)
   · -- yes
    have b7 := A.1 ai; clear A
    have bi : Fr 66 [] [] F := u.region (by kernel_rfl) (by kernel_rfl); clear u
    refine sqB bi n [] [] [(2, i6 3)] ?_; intro dk b8; clear bi
    refine wp_ret ?_
    refine thr ?_
    refine ibr ?_
    refine thr ?_
    refine thr ?_
    refine ibr ?_
    refine thr ?_
    refine ra1 b8 (i6 3) ?_
    exact ⟨3, rfl, b7, n.below⟩
   · -- no
    have G := A.2 ai; clear A
    refine wp_skip ?_
    refine thn ?_
    have H : Fr 66 [] [⟨0, [], .slice ao1 u0.length cap2⟩, ⟨3, [], .func (.func 18) #[] #[]⟩, ⟨4, [], i6 f⟩, ⟨5, [], pt h 0⟩, ⟨9, [], .slice ao1 u0.length cap2⟩, ⟨10, [], i6 (u0.length : Int)⟩, ⟨11, [], i6 f⟩] F := u.region (by kernel_rfl) (by kernel_rfl); clear u
    rcases Bool.eq_false_or_eq_true (decide (f > 0)) with x | x
    · -- true
     have b9 := G.1 x; clear G
     have bk : Fr 66 [] [⟨0, [], .slice ao1 u0.length cap2⟩, ⟨3, [], .func (.func 18) #[] #[]⟩, ⟨4, [], i6 f⟩, ⟨5, [], pt h 0⟩, ⟨9, [], .slice ao1 u0.length cap2⟩, ⟨10, [], i6 (u0.length : Int)⟩, ⟨11, [], i6 f⟩] F := H.region (by kernel_rfl) (by kernel_rfl); clear H
     refine sqQH mixed (by kernel_rfl) n ?_; intro ca bl
     refine q1 bk 52 (i6 f) ?_; intro dl bm; clear bk
     refine q1 bm 53 (.bool (decide (f > 0))) ?_; intro dm bn; clear bm
     have bo := bn.reval (d := 53) (c := []) (v := .bool (decide (f > 0))) (by kernel_rfl) (.bool true) (by rw [x]); clear bn
     refine q1 bo 54 (.bool true) ?_; intro dn I; clear bo
     refine qst I (pt h 0) (by rw [wanted_of I (b := true) rfl rfl (by kernel_rfl) (by kernel_rfl)]; rfl) rfl (by kernel_rfl) (fun v205 hC => p0 I (by kernel_rfl)) ?_; intro dp J; clear I
     refine qst J (i6 a.ID) (by rw [wanted_of J (b := true) rfl rfl (by kernel_rfl) (by kernel_rfl)]; rfl) rfl (by kernel_rfl) (fun v208 hC => ld J hC 0 (g := []) (b := h) (off := 0) (cs := (e32XSb a)) (ty := 32) rfl (by kernel_rfl) (by kernel_rfl) (by kernel_rfl) (by kernel_rfl) rfl) ?_; intro dq L; clear J
     refine qst L (.slice ao1 u0.length cap2) (by rw [wanted_of L (b := true) rfl rfl (by kernel_rfl) (by kernel_rfl)]; rfl) rfl (by kernel_rfl) (fun v211 hC => p0 L (by kernel_rfl)) ?_; intro dr M; clear L
     refine qst M (i6 f) (by rw [wanted_of M (b := true) rfl rfl (by kernel_rfl) (by kernel_rfl)]; rfl) rfl (by kernel_rfl) (fun v214 hC => p0 M (by kernel_rfl)) ?_; intro ds N; clear M
     refine qst N (i6 (w64 (f - 1))) (by rw [wanted_of N (b := true) rfl rfl (by kernel_rfl) (by kernel_rfl)]; rfl) rfl (by kernel_rfl) (fun v217 hC => p0 N (by kernel_rfl)) ?_; intro dt aj; clear N
     obtain ⟨cb, bp⟩ := b9
     refine qix aj (T := tyTask) (xs := u0) hs3 (w64 (f - 1)) cb (k := .i64) (e := 32) (bytes := 40) (by rw [wanted_of aj (b := true) rfl rfl (by kernel_rfl) (by kernel_rfl)]; rfl) rfl (by kernel_rfl) rfl (by kernel_rfl) (by kernel_rfl) (by kernel_rfl) ?_; intro cc ce cf i du cg ch ci O; clear aj
     have P := bp i cg; clear bp
     obtain rfl : cf = ((e32XSb i) : List Value) := ci
     refine qst O (pt cc ce) (by rw [wanted_of O (b := true) rfl rfl (by kernel_rfl) (by kernel_rfl)]; rfl) rfl (by kernel_rfl) (fun v233 hC => p0 O (by kernel_rfl)) ?_; intro dv Q; clear O
     refine qst Q (i6 i.ID) (by rw [wanted_of Q (b := true) rfl rfl (by kernel_rfl) (by kernel_rfl)]; rfl) rfl (by kernel_rfl) (fun v236 hC => lz Q hC.fz ch 0 (g := []) rfl (by kernel_rfl) (by kernel_rfl) (by kernel_rfl) rfl) ?_; intro dw R; clear Q
     refine qst R (.bool (decide (a.ID ≤ i.ID))) (by rw [wanted_of R (b := true) rfl rfl (by kernel_rfl) (by kernel_rfl)]; rfl) rfl (by kernel_rfl) (fun v239 hC => p0 R (by kernel_rfl)) ?_; intro dx bq; clear R
     refine q1 bq 64 (.bool (decide (a.ID ≤ i.ID))) ?_; intro dy S; clear bq
     refine qnl (bl _ ?_); clear bl ca; intro dz ak; clear n
     refine cd S (t := decide (a.ID ≤ i.ID)) (by kernel_rfl) (fun al => ?_) (fun al => ?_)
     · -- yes
      have ck := P.1 al; clear P
      refine sqB S ak [] [] [(2, i6 4)] ?_; intro dA cl; clear S
      refine wp_ret ?_
      refine ibr ?_
      refine thr ?_
      refine thr ?_
      refine ibr ?_
      refine thr ?_
      refine ra1 cl (i6 4) ?_
      exact ⟨4, rfl, ck, ak.below⟩
     · -- no
      have cm := P.2 al; clear P
      refine wp_skip ?_
      refine ibn ?_
      refine rd ?_
      exact aA () cm _ _ ((S.region (by kernel_rfl) (by kernel_rfl)).anyβ _ (by kernel_rfl)) (ak.keep (List.Sublist.cons _ (List.Sublist.slnil)))
    · -- false
     have cn := G.2 x; clear G
     have br : Fr 66 [] [⟨0, [], .slice ao1 u0.length cap2⟩, ⟨3, [], .func (.func 18) #[] #[]⟩, ⟨4, [], i6 f⟩, ⟨5, [], pt h 0⟩, ⟨9, [], .slice ao1 u0.length cap2⟩, ⟨10, [], i6 (u0.length : Int)⟩, ⟨11, [], i6 f⟩] F := H.region (by kernel_rfl) (by kernel_rfl); clear H
     refine sqQH mixed (by kernel_rfl) n ?_; intro co bs
     refine q1 br 52 (i6 f) ?_; intro dB bu; clear br
     refine q1 bu 53 (.bool (decide (f > 0))) ?_; intro dC bv; clear bu
     have bw := bv.reval (d := 53) (c := []) (v := .bool (decide (f > 0))) (by kernel_rfl) (.bool false) (by rw [x]); clear bv
     refine q1 bw 54 (.bool false) ?_; intro dD bx; clear bw
     refine qsk bx (b := false) rfl rfl (by kernel_rfl) (by kernel_rfl) rfl rfl (by kernel_rfl) ?_; intro dE bz; clear bx
     refine qsk bz (b := false) rfl rfl (by kernel_rfl) (by kernel_rfl) rfl rfl (by kernel_rfl) ?_; intro dF bA; clear bz
     refine qsk bA (b := false) rfl rfl (by kernel_rfl) (by kernel_rfl) rfl rfl (by kernel_rfl) ?_; intro dG bB; clear bA
     refine qsk bB (b := false) rfl rfl (by kernel_rfl) (by kernel_rfl) rfl rfl (by kernel_rfl) ?_; intro dH bC; clear bB
     refine qsk bC (b := false) rfl rfl (by kernel_rfl) (by kernel_rfl) rfl rfl (by kernel_rfl) ?_; intro dI bD; clear bC
     refine qsk bD (b := false) rfl rfl (by kernel_rfl) (by kernel_rfl) rfl rfl (by kernel_rfl) ?_; intro dJ bE; clear bD
     refine qsk bE (b := false) rfl rfl (by kernel_rfl) (by kernel_rfl) rfl rfl (by kernel_rfl) ?_; intro dK bF; clear bE
     refine qsk bF (b := false) rfl rfl (by kernel_rfl) (by kernel_rfl) rfl rfl (by kernel_rfl) ?_; intro dL bG; clear bF
     refine qsk bG (b := false) rfl rfl (by kernel_rfl) (by kernel_rfl) rfl rfl (by kernel_rfl) ?_; intro dM bH; clear bG
     refine q1 bH 64 (.bool false) ?_; intro dN bI; clear bH
     refine qnl (bs _ ?_); clear bs co; intro dO cp; clear n
     refine cdF bI (by kernel_rfl) ?_
     refine wp_skip ?_
     refine ibn ?_
     refine rd ?_
     exact aA () cn _ _ ((bI.region (by kernel_rfl) (by kernel_rfl)).anyβ _ (by kernel_rfl)) (cp.keep (List.Sublist.cons _ (List.Sublist.slnil)))
  · -- no
   have cq := z.2 V; clear z
   refine wp_exit ?_
   refine thx ?_
   refine thx ?_
   refine ibx ?_
   refine thn ?_
   refine sqB p l [] [] [(2, i6 0)] ?_; intro dP cr; clear p
   refine wp_ret ?_
   refine ra1 cr (i6 0) ?_
   exact ⟨0, rfl, cq, l.below⟩

end Go.Proofs.YtginlmgkimfjmaaDoor
set_option linter.unusedVariables false
set_option linter.unusedSimpArgs false
set_option maxRecDepth 100000
set_option maxHeartbeats 0
namespace Go.Proofs.YtginlmgkimfjmaaDoor
open Go.Sy Go.RowKit
abbrev e32XSc (X : Task) : List Value := [i6 X.ID, i6 X.Bytes, i6 X.Every, i6 X.Late, i6 X.Jitter]
theorem chkT_fun (u0 : List Task) (ao1 : Option Addr) (cap2 : Nat) (Z : Fz) (w : World) (hs3 : SlR tyTask Z ao1 cap2 u0) (hZ : Z.on w) : Calls Tryd.prog 7 #[.slice ao1 u0.length cap2] w fun e w' => e = .returned (i6 (dcheckS u0)) ∧ Below w.heap.size w w' :=
  (chkT_walk u0 ao1 cap2 Z w hs3 hZ (chkT_ok u0)).mono fun _ _ ⟨r, he, hk, hb⟩ => ⟨by subst hk; exact he, hb⟩

theorem LWorst_walk (u0 : List Task) (ao1 : Option Addr) (cap2 : Nat) (Z : Fz) (w : World) (hs3 : SlR tyTask Z ao1 cap2 u0) (hg3 : SlR t8 Z (sm 3) 64 deBruijn64) (hZ : Z.on w) {K : Bool → Prop} (hp : LWorst_vc u0 K) : Calls Tryd.prog 3 #[.slice ao1 u0.length cap2] w fun e w' => ∃ r : Bool, e = .returned (.bool r) ∧ K r ∧ Below w.heap.size w w' := by
 refine enter0 Tryd.func3 rfl rfl (by kernel_rfl) ?_; intro a0 b4; have az := Mem.start w Z hZ; have aA := Fz.le.refl Z
 have b5 := hp (hs3.small); clear hp
 refine sqB b4 az [] [] [] ?_; intro a6 b6; clear b4
 refine sqH ?_; intro fD b7
 refine s1 b6 29 (.slice ao1 u0.length cap2) ?_; intro a9 b8; clear b6
 refine fc b8 az (dload_fun u0 ao1 cap2 _ _ hs3 az.fz) ?_; intro jr js b9 aB; clear b8 az
 refine bt b9 aB 5 [] [] [(3, i6 (loadS u0).1), (4, i6 (loadS u0).2)] ?_; intro jt ca; clear b9
 refine nlH (b7 _ _ ?_); clear b7 fD
 refine sqH ?_; intro fE cb
 refine s1 ca 34 (.slice ao1 u0.length cap2) ?_; intro ju cc; clear ca
 refine ck cc 6 #[.slice ao1 u0.length cap2] ?_
 refine (dWorst_fun u0 ao1 cap2 _ _ hs3 aB.fz).mono ?_; rintro _ fF ⟨l, n, ag, rfl, hm⟩; refine ⟨_, rfl, ?_⟩; intro jv ce; have cf := aB.callZ hm; have bd := hm.ext.le; clear hm aB cc
 replace hs3 := hs3.mono bd
 replace hg3 := hg3.mono bd
 replace aA := Fz.le.trans aA bd
 have ah : Mem w.heap.size [] w Z [.own tyStop 36 l n (WorstS u0).1] ag fF := cf; clear cf
 have aC := b5 (ah.ownSmall 0 rfl); clear b5
 refine bt ce ah 5 [] [] [(5, .slice l (WorstS u0).1.length n), (6, i6 (WorstS u0).2)] ?_; intro jw cg; clear ce
 refine nlH (cb _ _ ?_); clear cb fE
 refine sqH ?_; intro fG ch
 refine s1 cg 38 (.slice ao1 u0.length cap2) ?_; intro jx ci; clear cg
 refine fc ci ah (chkT_fun u0 ao1 cap2 _ _ hs3 ah.fz) ?_; intro jy jz cl be; clear ci ah
 refine s1 cl 7 (i6 (dcheckS u0)) ?_; intro jA cm; clear cl
 refine nlH (ch _ _ ?_); clear ch fG
 refine wp_seq ?_
 refine sqH ?_; intro fH cn
 refine fc cm be (delayed_fun  _ _ be.fz) ?_; intro jB jC co aD; clear cm be
 refine bt co aD 3 [] [43] [(42, .bool false), (43, .slice ao1 u0.length cap2)] ?_; intro jD bf; clear co
 refine fcl bf aD (i6 (dcheckS u0)) 9 #[.slice ao1 u0.length cap2] (by rw [wanted_of bf (b := false) rfl rfl (by kernel_rfl) (by kernel_rfl)]; rfl) rfl (by kernel_rfl) (fun _ => by kernel_rfl) (dcheck_fun u0 ao1 cap2 _ _ hs3 aD.fz) ?_; intro jE jF cp D; clear bf aD
 refine bt cp D 3 [] [45, 46, 47] [(47, .bool ((dcheckS u0) != (dcheckS u0)))] ?_; intro jG ai; clear cp
 refine nlH (cn _ _ ?_); clear cn fH
 refine cd ai (t := (dcheckS u0) != (dcheckS u0)) (by kernel_rfl) (fun bg => ?_) (fun bg => ?_)
 ·
  have fI := aC.1 bg; clear aC
  refine sqB ai D [] [] [(2, .bool false)] ?_; intro jH fJ; clear ai
  refine wp_ret ?_
  refine thr ?_
  refine ra1 fJ (.bool false) ?_
  exact ⟨false, rfl, fI, D.below⟩
 have aE := aC.2 bg; clear aC
 refine wp_skip ?_
 refine thn ?_
 refine wp_seq ?_
 refine sqB ai D [] [] [(49, .bool ((dcheckS u0) != 0))] ?_; intro jI aj; clear ai
 refine cd aj (t := (dcheckS u0) != 0) (by kernel_rfl) (fun bh => ?_) (fun bh => ?_)
 ·
  have fK := aE.1 bh; clear aE
  refine sqB aj D [] [] [(2, .bool (((((loadS u0).2 == (dcheckS u0)) && ((WorstS u0).2 == (dcheckS u0))) && ((loadS u0).1 == 0)) && (((WorstS u0).1.length : Int) == 0)))] ?_; intro jJ fL; clear aj
  refine wp_ret ?_
  refine thr ?_
  refine ra1 fL (.bool (((((loadS u0).2 == (dcheckS u0)) && ((WorstS u0).2 == (dcheckS u0))) && ((loadS u0).1 == 0)) && (((WorstS u0).1.length : Int) == 0))) ?_
  exact ⟨((((loadS u0).2 == (dcheckS u0)) && ((WorstS u0).2 == (dcheckS u0))) && ((loadS u0).1 == 0)) && (((WorstS u0).1.length : Int) == 0), rfl, fK, D.below⟩
 have fM := aE.2 bh; clear aE
 refine wp_skip ?_
 refine thn ?_
 refine sqB aj D [] [] [(8, i6 0)] ?_; intro jK cq; clear aj
 refine wp_seq ?_
 refine sqB cq D [] [] [(67, .slice ao1 u0.length cap2), (68, i6 (u0.length : Int)), (69, i6 0)] ?_; intro aF cr; clear cq
 have ct : Fr 245 [] [⟨0, [], .slice ao1 u0.length cap2⟩, ⟨3, [], i6 (loadS u0).1⟩, ⟨4, [], i6 (loadS u0).2⟩, ⟨5, [], .slice l (WorstS u0).1.length n⟩, ⟨6, [], i6 (WorstS u0).2⟩, ⟨8, [], i6 0⟩, ⟨67, [], .slice ao1 u0.length cap2⟩, ⟨68, [], i6 (u0.length : Int)⟩, ⟨69, [], i6 0⟩] aF := cr.reg; clear cr
 have bi : Fr 245 [] [⟨0, [], .slice ao1 u0.length cap2⟩, ⟨3, [], i6 (loadS u0).1⟩, ⟨4, [], i6 (loadS u0).2⟩, ⟨5, [], .slice l (WorstS u0).1.length n⟩, ⟨6, [], i6 (WorstS u0).2⟩, ⟨8, [], i6 0⟩, ⟨67, [], .slice ao1 u0.length cap2⟩, ⟨68, [], i6 (u0.length : Int)⟩, ⟨69, [], i6 0⟩] aF := ct.reg; clear ct
 obtain ⟨fN, fO, fP⟩ := fM
 refine wp_then_k fun KJ147 hKJ148 => ?_
 have fQ : ∀ (Y : Int), fN Y → ∀ a1 w1, Fr 245 [] [⟨0, [], .slice ao1 u0.length cap2⟩, ⟨3, [], i6 (loadS u0).1⟩, ⟨4, [], i6 (loadS u0).2⟩, ⟨5, [], .slice l (WorstS u0).1.length n⟩, ⟨6, [], i6 (WorstS u0).2⟩, ⟨8, [], i6 Y⟩] a1 → Mem w.heap.size [] w Z [.own tyStop 36 l n (WorstS u0).1] ag w1 → KJ147 a1 w1 := by
  rintro Y fR jL fS cu ak; clear bi D
  refine hKJ148 _ _ ?_; clear hKJ148
  have aG := fP Y fR
  refine wp_seq ?_
  refine sqB cu ak [] [] [(103, .bool (((((loadS u0).2 != 0) || ((loadS u0).1 != Y)) || ((WorstS u0).2 != 0)) || (((WorstS u0).1.length : Int) != (u0.length : Int))))] ?_; intro jM al; clear cu
  refine cd al (t := ((((loadS u0).2 != 0) || ((loadS u0).1 != Y)) || ((WorstS u0).2 != 0)) || (((WorstS u0).1.length : Int) != (u0.length : Int))) (by kernel_rfl) (fun bk => ?_) (fun bk => ?_)
  ·
   have fT := aG.1 bk; clear aG
   refine sqB al ak [] [] [(2, .bool false)] ?_; intro jN fU; clear al
   refine wp_ret ?_
   refine thr ?_
   refine ra1 fU (.bool false) ?_
   exact ⟨false, rfl, fT, ak.below⟩
  have fV := aG.2 bk; clear aG
  refine wp_skip ?_
  refine thn ?_
  refine wp_seq ?_
  refine sqB al ak [] [] [(104, .slice ao1 u0.length cap2), (105, i6 (u0.length : Int)), (106, i6 0)] ?_; intro aH cv; clear al
  have cw : Fr 245 [] [⟨0, [], .slice ao1 u0.length cap2⟩, ⟨5, [], .slice l (WorstS u0).1.length n⟩, ⟨104, [], .slice ao1 u0.length cap2⟩, ⟨105, [], i6 (u0.length : Int)⟩, ⟨106, [], i6 0⟩] aH := cv.reg; clear cv
  obtain ⟨x, bl, cx, fW⟩ := ak.freeze 0 rfl
  replace hs3 := hs3.mono bl
  replace hg3 := hg3.mono bl
  replace aA := Fz.le.trans aA bl
  have bm : Mem w.heap.size [] w Z [] x fS := cx; clear cx
  have bn : Fr 245 [] [⟨0, [], .slice ao1 u0.length cap2⟩, ⟨5, [], .slice l (WorstS u0).1.length n⟩, ⟨104, [], .slice ao1 u0.length cap2⟩, ⟨105, [], i6 (u0.length : Int)⟩, ⟨106, [], i6 0⟩] aH := cw.reg; clear cw
  obtain ⟨fX, fY, fZ⟩ := fV
  refine wp_then_k fun KJ219 hKJ220 => ?_
  have f0 : ∀ (_u : Unit), fX → ∀ a1 w1, Fr 245 [] [] a1 → Mem w.heap.size [] w Z [] x w1 → KJ219 a1 w1 := by
   rintro _u f1 jO jP cy cz; clear bn bm
   refine hKJ220 _ _ ?_; clear hKJ220
   have f2 := fZ  f1
   refine sqB cy cz [] [] [(2, .bool true)] ?_; intro jQ f3; clear cy
   refine wp_ret ?_
   refine ra1 f3 (.bool true) ?_
   exact ⟨true, rfl, f2, cz.below⟩
  refine wp_block ?_
  have cA : Fr 245 [] [⟨0, [], .slice ao1 u0.length cap2⟩, ⟨5, [], .slice l (WorstS u0).1.length n⟩, ⟨104, [], .slice ao1 u0.length cap2⟩, ⟨105, [], i6 (u0.length : Int)⟩, ⟨106, [], i6 0⟩] aH := bn.reg; clear bn
  have cB : Fr 245 [] [⟨0, [], .slice ao1 u0.length cap2⟩, ⟨5, [], .slice l (WorstS u0).1.length n⟩, ⟨104, [], .slice ao1 u0.length cap2⟩, ⟨105, [], i6 (u0.length : Int)⟩, ⟨106, [], i6 0⟩] aH := cA.reg; clear cA
  obtain ⟨f4, f5, f6, f7⟩ := fY
  refine lp (ι := Int) (fun s => [⟨0, [], .slice ao1 u0.length cap2⟩, ⟨5, [], .slice l (WorstS u0).1.length n⟩, ⟨104, [], .slice ao1 u0.length cap2⟩, ⟨105, [], i6 (u0.length : Int)⟩, ⟨106, [], i6 s⟩]) (fun s => []) (fun s => x) (fun s => f4 s) (fun s => f5 s) 0 f6 (by exact cB.reg) (by exact bm) ?_
  rintro c f8 f9 ga cC cD
  have cE : Fr 245 [] [⟨0, [], .slice ao1 u0.length cap2⟩, ⟨5, [], .slice l (WorstS u0).1.length n⟩, ⟨104, [], .slice ao1 u0.length cap2⟩, ⟨105, [], i6 (u0.length : Int)⟩, ⟨106, [], i6 c⟩] f9 := cC; clear cC cB
  have am : Mem w.heap.size [] w Z [] x ga := cD; clear cD bm
  have aI := f7 c f8
  refine sqB cE am [] [] [(107, .bool (decide (c < (u0.length : Int))))] ?_; intro jR aJ; clear cE
  refine wp_seq ?_
  refine cd aJ (t := decide (c < (u0.length : Int))) (by kernel_rfl) (fun bo => ?_) (fun bo => ?_)
  ·
   have gb := aI.1 bo; clear aI
   refine wp_skip ?_
   refine thn ?_
   refine wp_seq ?_
   refine wp_block ?_
   refine sqH ?_; intro gc cF
   refine s1 aJ 108 (i6 c) ?_; intro jS cG; clear aJ
   obtain ⟨gd, cH⟩ := gb
   refine ix cG (T := tyTask) (xs := u0) hs3 c gd (k := .i64) (e := 32) (bytes := 40) (nog rfl _) rfl (by kernel_rfl) rfl (by kernel_rfl) (by kernel_rfl) (by kernel_rfl) ?_; intro jT jU ge a jV gf gg gh cI; clear cG
   have gi := cH a gf; clear cH
   obtain rfl : ge = ((e32XSc a) : List Value) := gh
   refine z2 cI am 110 gg 0 5 (e32XSc a) rfl ?_; intro jW cJ; clear cI
   refine nw cJ am pb [i6 0, i6 0, i6 0, i6 0, i6 0] 32 ?_; intro i jX jY cK cL; clear cJ am
   refine s1 cK 11 (i6 c) ?_; intro jZ bp; clear cK
   refine sx bp cL 0 (e32XSc a) 0 ?_; intro gj cM; clear cL
   have aa : Mem w.heap.size [] w Z [.row i (e32XSc a) 32] x gj := cM; clear cM
   refine nlH (cF _ _ ?_); clear cF gc
   refine sqB bp aa [] [] [(13, i6 0)] ?_; intro j0 cN; clear bp
   refine wp_seq ?_
   refine sqH ?_; intro gk cO
   refine bt cN aa 3 [] [] [(111, .slice ao1 u0.length cap2), (113, i6 (w64 (c + 1)))] ?_; intro j1 cP; clear cN
   obtain ⟨gl, gm⟩ := gi
   refine slL cP (T := tyTask) (xs := u0) hs3 (w64 (c + 1)) gl (k := .i64) (e := 32) (bytes := 40) (nog rfl _) rfl (by kernel_rfl) rfl (by kernel_rfl) (by kernel_rfl) (by kernel_rfl) ?_; intro ab ac j2 j3 gn cQ; clear cP
   refine bt cQ aa 2 [] [] [(115, i6 ((u0.drop (w64 (c + 1)).toNat).length : Int)), (116, i6 0)] ?_; intro aK cR; clear cQ
   refine nlH (cO _ _ ?_); clear cO gk
   have cS : Fr 245 [] [⟨0, [], .slice ao1 u0.length cap2⟩, ⟨5, [], .slice l (WorstS u0).1.length n⟩, ⟨11, [], i6 c⟩, ⟨12, [], pt i 0⟩, ⟨13, [], i6 0⟩, ⟨104, [], .slice ao1 u0.length cap2⟩, ⟨105, [], i6 (u0.length : Int)⟩, ⟨106, [], i6 c⟩, ⟨114, [], .slice ab (u0.drop (w64 (c + 1)).toNat).length ac⟩, ⟨115, [], i6 ((u0.drop (w64 (c + 1)).toNat).length : Int)⟩, ⟨116, [], i6 0⟩] aK := cR.reg; clear cR
   have bq : Fr 245 [] [⟨0, [], .slice ao1 u0.length cap2⟩, ⟨5, [], .slice l (WorstS u0).1.length n⟩, ⟨11, [], i6 c⟩, ⟨12, [], pt i 0⟩, ⟨13, [], i6 0⟩, ⟨104, [], .slice ao1 u0.length cap2⟩, ⟨105, [], i6 (u0.length : Int)⟩, ⟨106, [], i6 c⟩, ⟨114, [], .slice ab (u0.drop (w64 (c + 1)).toNat).length ac⟩, ⟨115, [], i6 ((u0.drop (w64 (c + 1)).toNat).length : Int)⟩, ⟨116, [], i6 0⟩] aK := cS.reg; clear cS
   obtain ⟨go, gp, gq⟩ := gm
   refine wp_then_k fun KJ304 hKJ305 => ?_
   have gr : ∀ (j : Int), go j → ∀ a1 w1, Fr 245 [] [⟨0, [], .slice ao1 u0.length cap2⟩, ⟨5, [], .slice l (WorstS u0).1.length n⟩, ⟨11, [], i6 c⟩, ⟨12, [], pt i 0⟩, ⟨13, [], i6 j⟩, ⟨104, [], .slice ao1 u0.length cap2⟩, ⟨105, [], i6 (u0.length : Int)⟩, ⟨106, [], i6 c⟩] a1 → Mem w.heap.size [] w Z [.row i (e32XSc a) 32] x w1 → KJ304 a1 w1 := by
    rintro j gs j4 j5 cT aL; clear bq aa
    refine hKJ305 _ _ ?_; clear hKJ305
    have gt := gq j gs
    refine sqH ?_; intro gu cU
    refine l2 cT aL 125 0 0 5 (e32XSc a) rfl rfl ?_; intro j6 cV; clear cT
    obtain ⟨gv, gw⟩ := gt
    refine fc cV aL (ltakes_fun a gv _ _ hg3 aL.fz) ?_; intro j7 j8 cW an; clear cV aL
    refine s1 cW 16 (i6 (ltakesS a)) ?_; intro j9 cX; clear cW
    refine nlH (cU _ _ ?_); clear cU gu
    refine sqB cX an [] [] [(17, .func (.func 11) #[] #[])] ?_; intro ka cY; clear cX
    refine sqB cY an [] [] [(18, i6 (w64 (j + (ltakesS a))))] ?_; intro aM cZ; clear cY
    have c0 : Fr 245 [] [⟨0, [], .slice ao1 u0.length cap2⟩, ⟨5, [], .slice l (WorstS u0).1.length n⟩, ⟨11, [], i6 c⟩, ⟨12, [], pt i 0⟩, ⟨13, [], i6 j⟩, ⟨16, [], i6 (ltakesS a)⟩, ⟨17, [], .func (.func 11) #[] #[]⟩, ⟨18, [], i6 (w64 (j + (ltakesS a)))⟩, ⟨104, [], .slice ao1 u0.length cap2⟩, ⟨105, [], i6 (u0.length : Int)⟩, ⟨106, [], i6 c⟩] aM := cZ.reg; clear cZ
    have br : Fr 245 [] [⟨0, [], .slice ao1 u0.length cap2⟩, ⟨5, [], .slice l (WorstS u0).1.length n⟩, ⟨11, [], i6 c⟩, ⟨12, [], pt i 0⟩, ⟨13, [], i6 j⟩, ⟨16, [], i6 (ltakesS a)⟩, ⟨17, [], .func (.func 11) #[] #[]⟩, ⟨18, [], i6 (w64 (j + (ltakesS a)))⟩, ⟨104, [], .slice ao1 u0.length cap2⟩, ⟨105, [], i6 (u0.length : Int)⟩, ⟨106, [], i6 c⟩] aM := c0.reg; clear c0
    obtain ⟨gx, gy, gz⟩ := gw
    refine wp_seq_k fun KJ341 hKJ342 => ?_
    have gA : ∀ (q : Int), gx q → ∀ a1 w1, Fr 245 [] [⟨0, [], .slice ao1 u0.length cap2⟩, ⟨5, [], .slice l (WorstS u0).1.length n⟩, ⟨11, [], i6 c⟩, ⟨12, [], pt i 0⟩, ⟨13, [], i6 j⟩, ⟨16, [], i6 (ltakesS a)⟩, ⟨17, [], .func (.func 11) #[] #[]⟩, ⟨18, [], i6 q⟩, ⟨104, [], .slice ao1 u0.length cap2⟩, ⟨105, [], i6 (u0.length : Int)⟩, ⟨106, [], i6 c⟩] a1 → Mem w.heap.size [] w Z [.row i (e32XSc a) 32] x w1 → KJ341 a1 w1 := by
     rintro q gB kb kc c1 E; clear br an
     refine hKJ342 _ _ ?_; clear hKJ342
     have gC := gz q gB
     refine sqB c1 E [] [] [(22, i6 (-1))] ?_; intro kd c2; clear c1
     refine wp_seq ?_
     refine sqB c2 E [] [] [(164, .bool (decide (q ≤ 200000)))] ?_; intro c3 c4; clear c2
     have c5 : Fr 245 [] [⟨0, [], .slice ao1 u0.length cap2⟩, ⟨5, [], .slice l (WorstS u0).1.length n⟩, ⟨11, [], i6 c⟩, ⟨12, [], pt i 0⟩, ⟨13, [], i6 j⟩, ⟨16, [], i6 (ltakesS a)⟩, ⟨17, [], .func (.func 11) #[] #[]⟩, ⟨18, [], i6 q⟩, ⟨22, [], i6 (-1)⟩, ⟨104, [], .slice ao1 u0.length cap2⟩, ⟨105, [], i6 (u0.length : Int)⟩, ⟨106, [], i6 c⟩, ⟨164, [], .bool (decide (q ≤ 200000))⟩] c3 := c4.reg; clear c4
     have ao : Fr 245 [] [⟨0, [], .slice ao1 u0.length cap2⟩, ⟨5, [], .slice l (WorstS u0).1.length n⟩, ⟨11, [], i6 c⟩, ⟨12, [], pt i 0⟩, ⟨13, [], i6 j⟩, ⟨16, [], i6 (ltakesS a)⟩, ⟨17, [], .func (.func 11) #[] #[]⟩, ⟨18, [], i6 q⟩, ⟨22, [], i6 (-1)⟩, ⟨104, [], .slice ao1 u0.length cap2⟩, ⟨105, [], i6 (u0.length : Int)⟩, ⟨106, [], i6 c⟩, ⟨164, [], .bool (decide (q ≤ 200000))⟩] c3 := c5.reg; clear c5
     obtain ⟨gD, aN, gE⟩ := gC
     refine wp_then_k fun KJ363 hKJ364 => ?_
     have c6 : ∀ (p : Int), gD p → ∀ a1 w1, Fr 245 [] [⟨0, [], .slice ao1 u0.length cap2⟩, ⟨5, [], .slice l (WorstS u0).1.length n⟩, ⟨11, [], i6 c⟩, ⟨12, [], pt i 0⟩, ⟨22, [], i6 p⟩, ⟨104, [], .slice ao1 u0.length cap2⟩, ⟨105, [], i6 (u0.length : Int)⟩, ⟨106, [], i6 c⟩] a1 → Mem w.heap.size [] w Z [.row i (e32XSc a) 32] x w1 → KJ363 a1 w1 := by
      rintro p gF gG ke c7 c8; clear ao E
      refine hKJ364 _ _ ?_; clear hKJ364
      have gH := gE p gF
      have c9 : Fr 245 [] [⟨0, [], .slice ao1 u0.length cap2⟩, ⟨5, [], .slice l (WorstS u0).1.length n⟩, ⟨11, [], i6 c⟩, ⟨12, [], pt i 0⟩, ⟨22, [], i6 p⟩, ⟨104, [], .slice ao1 u0.length cap2⟩, ⟨105, [], i6 (u0.length : Int)⟩, ⟨106, [], i6 c⟩] gG := c7.reg; clear c7
      refine sqQH mixed (by kernel_rfl) c8 ?_; intro gI da
      refine q1 c9 229 (.slice l (WorstS u0).1.length n) ?_; intro kf db; clear c9
      refine q1 db 230 (i6 c) ?_; intro kg dc; clear db
      obtain ⟨gJ, dd⟩ := gH
      refine qix dc (T := tyStop) (xs := (WorstS u0).1) fW c gJ (k := .i64) (e := 36) (bytes := 16) (nog rfl _) rfl (by kernel_rfl) rfl (by kernel_rfl) (by kernel_rfl) (by kernel_rfl) ?_; intro kh ki gK B kj gL gM gN bs; clear dc
      have aO := dd B gL; clear dd
      obtain rfl : gK = ([i6 B.Wait, .bool B.Fits] : List Value) := gN
      refine qst bs (.agg #[i6 B.Wait, .bool B.Fits]) (nog rfl _) rfl (by kernel_rfl) (fun v393 hC => lza bs hC.fz gM 0 (g := []) (m := 2) (vs := [i6 B.Wait, .bool B.Fits]) rfl (by kernel_rfl) (by kernel_rfl) (by kernel_rfl) (by kernel_rfl) rfl) ?_; intro kk de; clear bs
      refine q1 de 233 (i6 p) ?_; intro kl df; clear de
      refine q1 df 234 (i6 p) ?_; intro km dg; clear df
      refine q1 dg 235 (.bool (decide (p ≥ 0))) ?_; intro kn dh; clear dg
      refine q1 dh 236 (.bool (decide (p ≥ 0))) ?_; intro ko di; clear dh
      have bu := di.atom ((decide (p ≥ 0)) == true) (by kernel_rfl); clear di
      refine qgd bu (i6 p) (m := 0) (cj := []) (bj := decide (p ≥ 0)) rfl rfl (by kernel_rfl) rfl (by kernel_rfl) (by kernel_rfl) (by kernel_rfl) (fun hg => qat_ok (fun v409 hC => pu bu (g := [0]) (by kernel_rfl) hg)) ?_; intro kp bv; clear bu
      refine qgd bv (pt i 3) (m := 0) (cj := []) (bj := decide (p ≥ 0)) rfl rfl (by kernel_rfl) rfl (by kernel_rfl) (by kernel_rfl) (by kernel_rfl) (fun hg => qat_ok (fun v412 hC => pu bv (g := [0]) (by kernel_rfl) hg)) ?_; intro kq bw; clear bv
      refine qgd bw (i6 a.Late) (m := 0) (cj := []) (bj := decide (p ≥ 0)) rfl rfl (by kernel_rfl) rfl (by kernel_rfl) (by kernel_rfl) (by kernel_rfl) (fun hg => qat_ok (fun v415 hC => ld bw hC 0 (g := [0]) (b := i) (off := 3) (cs := (e32XSc a)) (ty := 32) rfl (by kernel_rfl) (by kernel_rfl) (by kernel_rfl) (by kernel_rfl) hg)) ?_; intro kr bx; clear bw
      refine qgd bx (.bool (decide (p ≤ a.Late))) (m := 0) (cj := []) (bj := decide (p ≥ 0)) rfl rfl (by kernel_rfl) rfl (by kernel_rfl) (by kernel_rfl) (by kernel_rfl) (fun hg => qat_ok (fun v418 hC => pu bx (g := [0]) (by kernel_rfl) hg)) ?_; intro ks bz; clear bx
      refine qst bz (.bool ((decide (p ≥ 0)) && (decide (p ≤ a.Late)))) (nog rfl _) rfl (by kernel_rfl) (fun v421 hC => pk_and bz (g := []) (m := 0) (b := decide (p ≥ 0)) (v := decide (p ≤ a.Late)) rfl (by kernel_rfl) (by kernel_rfl) (by kernel_rfl) rfl) ?_; intro kt dj; clear bz
      refine q1 dj 242 (.agg #[i6 p, .bool ((decide (p ≥ 0)) && (decide (p ≤ a.Late)))]) ?_; intro ku bA; clear dj
      refine qst bA (.bool (!((B.Wait == p) && ((B.Fits == ((decide (p ≥ 0)) && (decide (p ≤ a.Late)))) && true)))) (nog rfl _) rfl (by kernel_rfl) (fun v427 hC => nes_run bA (g := []) (xs := #[i6 B.Wait, .bool B.Fits]) (ys := #[i6 p, .bool ((decide (p ≥ 0)) && (decide (p ≤ a.Late)))]) (b := (B.Wait == p) && ((B.Fits == ((decide (p ≥ 0)) && (decide (p ≤ a.Late)))) && true)) rfl (by kernel_rfl) (by kernel_rfl) (by kernel_rfl) (by kernel_rfl) rfl) ?_; intro dk ap; clear bA
      refine qnl (da _ ?_); clear da gI; intro kv aP; clear c8
      refine cd ap (t := !((B.Wait == p) && ((B.Fits == ((decide (p ≥ 0)) && (decide (p ≤ a.Late)))) && true))) (by kernel_rfl) (fun bB => ?_) (fun bB => ?_)
      ·
       have gO := aO.1 bB; clear aO
       have dl : Fr 245 [] [] dk := ap.reg; clear ap
       refine sqB dl aP [] [] [(2, .bool false)] ?_; intro kw gP; clear dl
       refine wp_ret ?_
       refine ibr ?_
       refine thr ?_
       refine thr ?_
       refine ibr ?_
       refine thr ?_
       refine ra1 gP (.bool false) ?_
       exact ⟨false, rfl, gO, aP.below⟩
      have dm := aO.2 bB; clear aO
      refine wp_skip ?_
      refine ibn ?_
      refine thn ?_
      have dn : Fr 245 [] [⟨0, [], .slice ao1 u0.length cap2⟩, ⟨5, [], .slice l (WorstS u0).1.length n⟩, ⟨104, [], .slice ao1 u0.length cap2⟩, ⟨105, [], i6 (u0.length : Int)⟩, ⟨106, [], i6 c⟩] dk := ap.reg; clear ap
      refine rgB dn aP [] [] [(106, i6 (w64 (c + 1)))] ?_; intro kx gQ; clear dn
      refine rd ?_
      exact ⟨w64 (c + 1), dm.1, dm.2, (gQ.reg).anyβ _ (by kernel_rfl), aP.keep (List.Sublist.cons _ (List.Sublist.slnil))⟩
     refine cd ao (t := decide (q ≤ 200000)) (by kernel_rfl) (fun bC => ?_) (fun bC => ?_)
     ·
      have gR := aN.1 bC; clear aN
      refine sqB ao E [] [] [(23, i6 j)] ?_; intro ky dp; clear ao
      refine sqB dp E [] [] [(24, i6 0)] ?_; intro dq dr; clear dp
      refine wp_block ?_
      have ds : Fr 245 [] [⟨0, [], .slice ao1 u0.length cap2⟩, ⟨5, [], .slice l (WorstS u0).1.length n⟩, ⟨11, [], i6 c⟩, ⟨12, [], pt i 0⟩, ⟨13, [], i6 j⟩, ⟨16, [], i6 (ltakesS a)⟩, ⟨17, [], .func (.func 11) #[] #[]⟩, ⟨18, [], i6 q⟩, ⟨22, [], i6 (-1)⟩, ⟨23, [], i6 j⟩, ⟨24, [], i6 0⟩, ⟨104, [], .slice ao1 u0.length cap2⟩, ⟨105, [], i6 (u0.length : Int)⟩, ⟨106, [], i6 c⟩] dq := dr.reg; clear dr
      have dt : Fr 245 [] [⟨0, [], .slice ao1 u0.length cap2⟩, ⟨5, [], .slice l (WorstS u0).1.length n⟩, ⟨11, [], i6 c⟩, ⟨12, [], pt i 0⟩, ⟨13, [], i6 j⟩, ⟨16, [], i6 (ltakesS a)⟩, ⟨17, [], .func (.func 11) #[] #[]⟩, ⟨18, [], i6 q⟩, ⟨22, [], i6 (-1)⟩, ⟨23, [], i6 j⟩, ⟨24, [], i6 0⟩, ⟨104, [], .slice ao1 u0.length cap2⟩, ⟨105, [], i6 (u0.length : Int)⟩, ⟨106, [], i6 c⟩] dq := ds.reg; clear ds
      obtain ⟨gS, gT, gU, gV⟩ := gR
      refine lp (ι := Int × Int × Int) (fun s => [⟨0, [], .slice ao1 u0.length cap2⟩, ⟨5, [], .slice l (WorstS u0).1.length n⟩, ⟨11, [], i6 c⟩, ⟨12, [], pt i 0⟩, ⟨13, [], i6 j⟩, ⟨16, [], i6 (ltakesS a)⟩, ⟨17, [], .func (.func 11) #[] #[]⟩, ⟨18, [], i6 q⟩, ⟨22, [], i6 s.1⟩, ⟨23, [], i6 s.2.1⟩, ⟨24, [], i6 s.2.2⟩, ⟨104, [], .slice ao1 u0.length cap2⟩, ⟨105, [], i6 (u0.length : Int)⟩, ⟨106, [], i6 c⟩]) (fun s => [.row i (e32XSc a) 32]) (fun s => x) (fun s => gS s.1 s.2.1 s.2.2) (fun s => gT s.1 s.2.1 s.2.2) ⟨-1, j, 0⟩ gU (by exact dt.reg) (by exact E) ?_
      rintro ⟨A, F, o⟩ gW gX gY du dv
      have dw : Fr 245 [] [⟨0, [], .slice ao1 u0.length cap2⟩, ⟨5, [], .slice l (WorstS u0).1.length n⟩, ⟨11, [], i6 c⟩, ⟨12, [], pt i 0⟩, ⟨13, [], i6 j⟩, ⟨16, [], i6 (ltakesS a)⟩, ⟨17, [], .func (.func 11) #[] #[]⟩, ⟨18, [], i6 q⟩, ⟨22, [], i6 A⟩, ⟨23, [], i6 F⟩, ⟨24, [], i6 o⟩, ⟨104, [], .slice ao1 u0.length cap2⟩, ⟨105, [], i6 (u0.length : Int)⟩, ⟨106, [], i6 c⟩] gX := du; clear du dt
      have aQ : Mem w.heap.size [] w Z [.row i (e32XSc a) 32] x gY := dv; clear dv E
      have gZ := gV A F o gW
      refine wp_seq ?_
      refine sqH ?_; intro g0 dx
      refine bt dw aQ 8 [0, 0] [] [(166, i6 o), (167, .func (.func 11) #[] #[]), (171, i6 (w64 (q + a.Jitter))), (173, i6 a.Every)] ?_; intro kz dy; clear dw
      obtain ⟨g1, aR⟩ := gZ
      refine fc dy aQ (wup_fun (w64 (q + a.Jitter)) a.Every g1 _ _ aQ.fz) ?_; intro kA kB dz aq; clear dy aQ
      refine s1 dz 175 (.bool (decide (o < (wupS (w64 (q + a.Jitter)) a.Every)))) ?_; intro kC aS; clear dz
      refine nlH (dx _ _ ?_); clear dx g0
      refine cd aS (t := decide (o < (wupS (w64 (q + a.Jitter)) a.Every))) (by kernel_rfl) (fun bD => ?_) (fun bD => ?_)
      ·
       have g2 := aR.1 bD; clear aR
       refine wp_skip ?_
       refine thn ?_
       refine wp_seq ?_
       refine wp_block ?_
       refine sqB aS aq [] [] [(23, i6 (max F (w64 (j + (w64 (o * (ltakesS a)))))))] ?_; intro aT dA; clear aS
       have dB : Fr 245 [] [⟨0, [], .slice ao1 u0.length cap2⟩, ⟨5, [], .slice l (WorstS u0).1.length n⟩, ⟨11, [], i6 c⟩, ⟨12, [], pt i 0⟩, ⟨13, [], i6 j⟩, ⟨16, [], i6 (ltakesS a)⟩, ⟨17, [], .func (.func 11) #[] #[]⟩, ⟨18, [], i6 q⟩, ⟨22, [], i6 A⟩, ⟨23, [], i6 (max F (w64 (j + (w64 (o * (ltakesS a))))))⟩, ⟨24, [], i6 o⟩, ⟨104, [], .slice ao1 u0.length cap2⟩, ⟨105, [], i6 (u0.length : Int)⟩, ⟨106, [], i6 c⟩] aT := dA.reg; clear dA
       have bE : Fr 245 [] [⟨0, [], .slice ao1 u0.length cap2⟩, ⟨5, [], .slice l (WorstS u0).1.length n⟩, ⟨11, [], i6 c⟩, ⟨12, [], pt i 0⟩, ⟨13, [], i6 j⟩, ⟨16, [], i6 (ltakesS a)⟩, ⟨17, [], .func (.func 11) #[] #[]⟩, ⟨18, [], i6 q⟩, ⟨22, [], i6 A⟩, ⟨23, [], i6 (max F (w64 (j + (w64 (o * (ltakesS a))))))⟩, ⟨24, [], i6 o⟩, ⟨104, [], .slice ao1 u0.length cap2⟩, ⟨105, [], i6 (u0.length : Int)⟩, ⟨106, [], i6 c⟩] aT := dB.reg; clear dB
       obtain ⟨g3, g4, g5⟩ := g2
       refine wp_seq_k fun KJ518 hKJ519 => ?_
       have g6 : ∀ (O : Int), g3 O → ∀ a1 w1, Fr 245 [] [⟨0, [], .slice ao1 u0.length cap2⟩, ⟨5, [], .slice l (WorstS u0).1.length n⟩, ⟨11, [], i6 c⟩, ⟨12, [], pt i 0⟩, ⟨13, [], i6 j⟩, ⟨16, [], i6 (ltakesS a)⟩, ⟨17, [], .func (.func 11) #[] #[]⟩, ⟨18, [], i6 q⟩, ⟨22, [], i6 A⟩, ⟨23, [], i6 O⟩, ⟨24, [], i6 o⟩, ⟨104, [], .slice ao1 u0.length cap2⟩, ⟨105, [], i6 (u0.length : Int)⟩, ⟨106, [], i6 c⟩] a1 → Mem w.heap.size [] w Z [.row i (e32XSc a) 32] x w1 → KJ518 a1 w1 := by
        rintro O g7 kD kE dC bF; clear bE aq
        refine hKJ519 _ _ ?_; clear hKJ519
        have dD := g5 O g7
        refine rgB dC bF [0, 0] [] [(22, i6 (max A (w64 ((w64 ((w64 (a.Jitter + O)) - (w64 (o * a.Every)))) + (ltakesS a)))))] ?_; intro kF dE; clear dC
        refine ibn ?_
        refine thn ?_
        refine rgB dE bF [] [] [(24, i6 (w64 (o + 1)))] ?_; intro kG g8; clear dE
        refine rd ?_
        exact ⟨⟨max A (w64 ((w64 ((w64 (a.Jitter + O)) - (w64 (o * a.Every)))) + (ltakesS a))), O, w64 (o + 1)⟩, dD.1, dD.2, (g8.reg).anyβ _ (by kernel_rfl), bF.keep (List.Sublist.cons_cons _ (List.Sublist.slnil))⟩
       refine wp_block ?_
       have dF : Fr 245 [] [⟨0, [], .slice ao1 u0.length cap2⟩, ⟨5, [], .slice l (WorstS u0).1.length n⟩, ⟨11, [], i6 c⟩, ⟨12, [], pt i 0⟩, ⟨13, [], i6 j⟩, ⟨16, [], i6 (ltakesS a)⟩, ⟨17, [], .func (.func 11) #[] #[]⟩, ⟨18, [], i6 q⟩, ⟨22, [], i6 A⟩, ⟨23, [], i6 (max F (w64 (j + (w64 (o * (ltakesS a))))))⟩, ⟨24, [], i6 o⟩, ⟨104, [], .slice ao1 u0.length cap2⟩, ⟨105, [], i6 (u0.length : Int)⟩, ⟨106, [], i6 c⟩] aT := bE.reg; clear bE
       have dG : Fr 245 [] [⟨0, [], .slice ao1 u0.length cap2⟩, ⟨5, [], .slice l (WorstS u0).1.length n⟩, ⟨11, [], i6 c⟩, ⟨12, [], pt i 0⟩, ⟨13, [], i6 j⟩, ⟨16, [], i6 (ltakesS a)⟩, ⟨17, [], .func (.func 11) #[] #[]⟩, ⟨18, [], i6 q⟩, ⟨22, [], i6 A⟩, ⟨23, [], i6 (max F (w64 (j + (w64 (o * (ltakesS a))))))⟩, ⟨24, [], i6 o⟩, ⟨104, [], .slice ao1 u0.length cap2⟩, ⟨105, [], i6 (u0.length : Int)⟩, ⟨106, [], i6 c⟩] aT := dF.reg; clear dF
       obtain ⟨g9, ha, hb, hc⟩ := g4
       refine lp (ι := Int) (fun s => [⟨0, [], .slice ao1 u0.length cap2⟩, ⟨5, [], .slice l (WorstS u0).1.length n⟩, ⟨11, [], i6 c⟩, ⟨12, [], pt i 0⟩, ⟨13, [], i6 j⟩, ⟨16, [], i6 (ltakesS a)⟩, ⟨17, [], .func (.func 11) #[] #[]⟩, ⟨18, [], i6 q⟩, ⟨22, [], i6 A⟩, ⟨23, [], i6 s⟩, ⟨24, [], i6 o⟩, ⟨104, [], .slice ao1 u0.length cap2⟩, ⟨105, [], i6 (u0.length : Int)⟩, ⟨106, [], i6 c⟩]) (fun s => [.row i (e32XSc a) 32]) (fun s => x) (fun s => g9 s) (fun s => ha s) (max F (w64 (j + (w64 (o * (ltakesS a)))))) hb (by exact dG.reg) (by exact aq) ?_
       rintro y hd he hf dH dI
       have dJ : Fr 245 [] [⟨0, [], .slice ao1 u0.length cap2⟩, ⟨5, [], .slice l (WorstS u0).1.length n⟩, ⟨11, [], i6 c⟩, ⟨12, [], pt i 0⟩, ⟨13, [], i6 j⟩, ⟨16, [], i6 (ltakesS a)⟩, ⟨17, [], .func (.func 11) #[] #[]⟩, ⟨18, [], i6 q⟩, ⟨22, [], i6 A⟩, ⟨23, [], i6 y⟩, ⟨24, [], i6 o⟩, ⟨104, [], .slice ao1 u0.length cap2⟩, ⟨105, [], i6 (u0.length : Int)⟩, ⟨106, [], i6 c⟩] he := dH; clear dH dG
       have ad : Mem w.heap.size [] w Z [.row i (e32XSc a) 32] x hf := dI; clear dI aq
       have hh := hc y hd
       refine wp_block ?_
       refine sqB dJ ad [] [] [(25, i6 (w64 (j + (w64 (o * (ltakesS a))))))] ?_; intro kH dK; clear dJ
       refine wp_seq ?_
       refine sqH ?_; intro hi dL
       refine bt dK ad 2 [] [] [(190, .slice ao1 u0.length cap2), (191, i6 c)] ?_; intro kI dM; clear dK
       obtain ⟨hj, hk⟩ := hh
       refine slH dM (T := tyTask) (xs := u0) hs3 c hj (k' := .i64) (e := 32) (bytes := 40) (nog rfl _) rfl (by kernel_rfl) rfl (by kernel_rfl) (by kernel_rfl) (by kernel_rfl) ?_; intro P Q kJ kK hl dN; clear dM
       refine bt dN ad 2 [] [] [(193, i6 ((u0.take c.toNat).length : Int)), (194, i6 0)] ?_; intro aU dO; clear dN
       refine nlH (dL _ _ ?_); clear dL hi
       have dP : Fr 245 [] [⟨0, [], .slice ao1 u0.length cap2⟩, ⟨5, [], .slice l (WorstS u0).1.length n⟩, ⟨11, [], i6 c⟩, ⟨12, [], pt i 0⟩, ⟨13, [], i6 j⟩, ⟨16, [], i6 (ltakesS a)⟩, ⟨17, [], .func (.func 11) #[] #[]⟩, ⟨18, [], i6 q⟩, ⟨22, [], i6 A⟩, ⟨23, [], i6 y⟩, ⟨24, [], i6 o⟩, ⟨25, [], i6 (w64 (j + (w64 (o * (ltakesS a)))))⟩, ⟨104, [], .slice ao1 u0.length cap2⟩, ⟨105, [], i6 (u0.length : Int)⟩, ⟨106, [], i6 c⟩, ⟨192, [], .slice P (u0.take c.toNat).length Q⟩, ⟨193, [], i6 ((u0.take c.toNat).length : Int)⟩, ⟨194, [], i6 0⟩] aU := dO.reg; clear dO
       have bG : Fr 245 [] [⟨0, [], .slice ao1 u0.length cap2⟩, ⟨5, [], .slice l (WorstS u0).1.length n⟩, ⟨11, [], i6 c⟩, ⟨12, [], pt i 0⟩, ⟨13, [], i6 j⟩, ⟨16, [], i6 (ltakesS a)⟩, ⟨17, [], .func (.func 11) #[] #[]⟩, ⟨18, [], i6 q⟩, ⟨22, [], i6 A⟩, ⟨23, [], i6 y⟩, ⟨24, [], i6 o⟩, ⟨25, [], i6 (w64 (j + (w64 (o * (ltakesS a)))))⟩, ⟨104, [], .slice ao1 u0.length cap2⟩, ⟨105, [], i6 (u0.length : Int)⟩, ⟨106, [], i6 c⟩, ⟨192, [], .slice P (u0.take c.toNat).length Q⟩, ⟨193, [], i6 ((u0.take c.toNat).length : Int)⟩, ⟨194, [], i6 0⟩] aU := dP.reg; clear dP
       obtain ⟨hn, ho, hq⟩ := hk
       refine wp_then_k fun KJ612 hKJ613 => ?_
       have hr : ∀ (G : Int), hn G → ∀ a1 w1, Fr 245 [] [⟨0, [], .slice ao1 u0.length cap2⟩, ⟨5, [], .slice l (WorstS u0).1.length n⟩, ⟨11, [], i6 c⟩, ⟨12, [], pt i 0⟩, ⟨13, [], i6 j⟩, ⟨16, [], i6 (ltakesS a)⟩, ⟨17, [], .func (.func 11) #[] #[]⟩, ⟨18, [], i6 q⟩, ⟨22, [], i6 A⟩, ⟨23, [], i6 y⟩, ⟨24, [], i6 o⟩, ⟨25, [], i6 G⟩, ⟨104, [], .slice ao1 u0.length cap2⟩, ⟨105, [], i6 (u0.length : Int)⟩, ⟨106, [], i6 c⟩] a1 → Mem w.heap.size [] w Z [.row i (e32XSc a) 32] x w1 → KJ612 a1 w1 := by
        rintro G hs kL kM dQ aV; clear bG ad
        refine hKJ613 _ _ ?_; clear hKJ613
        have aW := hq G hs
        refine wp_seq ?_
        refine sqB dQ aV [] [] [(214, .bool (G == y))] ?_; intro kN aX; clear dQ
        refine cd aX (t := G == y) (by kernel_rfl) (fun bH => ?_) (fun bH => ?_)
        ·
         have ht := aW.1 bH; clear aW
         refine wp_exit ?_
         refine thx ?_
         refine ibo (by decide) ?_
         refine thx ?_
         refine ibx ?_
         refine rd ?_
         exact g6 y ht _ _ ((aX.reg).anyβ _ (by kernel_rfl)) (aV.keep (List.Sublist.cons_cons _ (List.Sublist.slnil)))
        have dR := aW.2 bH; clear aW
        refine wp_skip ?_
        refine thn ?_
        refine rgB aX aV [] [] [(23, i6 G)] ?_; intro kO hu; clear aX
        refine ibn ?_
        refine rd ?_
        exact ⟨G, dR.1, dR.2, (hu.reg).anyβ _ (by kernel_rfl), aV.keep (List.Sublist.cons_cons _ (List.Sublist.slnil))⟩
       refine wp_block ?_
       have dS : Fr 245 [] [⟨0, [], .slice ao1 u0.length cap2⟩, ⟨5, [], .slice l (WorstS u0).1.length n⟩, ⟨11, [], i6 c⟩, ⟨12, [], pt i 0⟩, ⟨13, [], i6 j⟩, ⟨16, [], i6 (ltakesS a)⟩, ⟨17, [], .func (.func 11) #[] #[]⟩, ⟨18, [], i6 q⟩, ⟨22, [], i6 A⟩, ⟨23, [], i6 y⟩, ⟨24, [], i6 o⟩, ⟨25, [], i6 (w64 (j + (w64 (o * (ltakesS a)))))⟩, ⟨104, [], .slice ao1 u0.length cap2⟩, ⟨105, [], i6 (u0.length : Int)⟩, ⟨106, [], i6 c⟩, ⟨192, [], .slice P (u0.take c.toNat).length Q⟩, ⟨193, [], i6 ((u0.take c.toNat).length : Int)⟩, ⟨194, [], i6 0⟩] aU := bG.reg; clear bG
       have dT : Fr 245 [] [⟨0, [], .slice ao1 u0.length cap2⟩, ⟨5, [], .slice l (WorstS u0).1.length n⟩, ⟨11, [], i6 c⟩, ⟨12, [], pt i 0⟩, ⟨13, [], i6 j⟩, ⟨16, [], i6 (ltakesS a)⟩, ⟨17, [], .func (.func 11) #[] #[]⟩, ⟨18, [], i6 q⟩, ⟨22, [], i6 A⟩, ⟨23, [], i6 y⟩, ⟨24, [], i6 o⟩, ⟨25, [], i6 (w64 (j + (w64 (o * (ltakesS a)))))⟩, ⟨104, [], .slice ao1 u0.length cap2⟩, ⟨105, [], i6 (u0.length : Int)⟩, ⟨106, [], i6 c⟩, ⟨192, [], .slice P (u0.take c.toNat).length Q⟩, ⟨193, [], i6 ((u0.take c.toNat).length : Int)⟩, ⟨194, [], i6 0⟩] aU := dS.reg; clear dS
       obtain ⟨hv, hw, hx, hy⟩ := ho
       refine lp (ι := Int × Int) (fun s => [⟨0, [], .slice ao1 u0.length cap2⟩, ⟨5, [], .slice l (WorstS u0).1.length n⟩, ⟨11, [], i6 c⟩, ⟨12, [], pt i 0⟩, ⟨13, [], i6 j⟩, ⟨16, [], i6 (ltakesS a)⟩, ⟨17, [], .func (.func 11) #[] #[]⟩, ⟨18, [], i6 q⟩, ⟨22, [], i6 A⟩, ⟨23, [], i6 y⟩, ⟨24, [], i6 o⟩, ⟨25, [], i6 s.1⟩, ⟨104, [], .slice ao1 u0.length cap2⟩, ⟨105, [], i6 (u0.length : Int)⟩, ⟨106, [], i6 c⟩, ⟨192, [], .slice P (u0.take c.toNat).length Q⟩, ⟨193, [], i6 ((u0.take c.toNat).length : Int)⟩, ⟨194, [], i6 s.2⟩]) (fun s => [.row i (e32XSc a) 32]) (fun s => x) (fun s => hv s.1 s.2) (fun s => hw s.1 s.2) ⟨w64 (j + (w64 (o * (ltakesS a)))), 0⟩ hx (by exact dT.reg) (by exact ad) ?_
       rintro ⟨H, I⟩ hz hA hB dU dV
       have dW : Fr 245 [] [⟨0, [], .slice ao1 u0.length cap2⟩, ⟨5, [], .slice l (WorstS u0).1.length n⟩, ⟨11, [], i6 c⟩, ⟨12, [], pt i 0⟩, ⟨13, [], i6 j⟩, ⟨16, [], i6 (ltakesS a)⟩, ⟨17, [], .func (.func 11) #[] #[]⟩, ⟨18, [], i6 q⟩, ⟨22, [], i6 A⟩, ⟨23, [], i6 y⟩, ⟨24, [], i6 o⟩, ⟨25, [], i6 H⟩, ⟨104, [], .slice ao1 u0.length cap2⟩, ⟨105, [], i6 (u0.length : Int)⟩, ⟨106, [], i6 c⟩, ⟨192, [], .slice P (u0.take c.toNat).length Q⟩, ⟨193, [], i6 ((u0.take c.toNat).length : Int)⟩, ⟨194, [], i6 I⟩] hA := dU; clear dU dT
       have ar : Mem w.heap.size [] w Z [.row i (e32XSc a) 32] x hB := dV; clear dV ad
       have aY := hy H I hz
       refine sqB dW ar [] [] [(195, .bool (decide (I < ((u0.take c.toNat).length : Int))))] ?_; intro kP aZ; clear dW
       refine wp_seq ?_
       refine cd aZ (t := decide (I < ((u0.take c.toNat).length : Int))) (by kernel_rfl) (fun bI => ?_) (fun bI => ?_)
       ·
        have hD := aY.1 bI; clear aY
        refine wp_skip ?_
        refine thn ?_
        refine wp_seq ?_
        refine wp_block ?_
        refine sqH ?_; intro hE dX
        obtain ⟨hF, dY⟩ := hD
        refine ix aZ (T := tyTask) (xs := u0.take c.toNat) hl I hF (k := .i64) (e := 32) (bytes := 40) (nog rfl _) rfl (by kernel_rfl) rfl (by kernel_rfl) (by kernel_rfl) (by kernel_rfl) ?_; intro kQ kR hG f kS hH hI hJ dZ; clear aZ
        have hK := dY f hH; clear dY
        obtain rfl : hG = ((e32XSc f) : List Value) := hJ
        refine z2 dZ ar 197 hI 0 5 (e32XSc f) rfl ?_; intro kT d0; clear dZ
        refine nw d0 ar pb [i6 0, i6 0, i6 0, i6 0, i6 0] 32 ?_; intro R hL kU bJ d1; clear d0 ar
        refine sx bJ d1 0 (e32XSc f) 0 ?_; intro hM d2; clear d1
        have d3 : Mem w.heap.size [] w Z [.row R (e32XSc f) 32, .row i (e32XSc a) 32] x hM := d2; clear d2
        refine nlH (dX _ _ ?_); clear dX hE
        have d4 : Fr 245 [] [⟨0, [], .slice ao1 u0.length cap2⟩, ⟨5, [], .slice l (WorstS u0).1.length n⟩, ⟨11, [], i6 c⟩, ⟨12, [], pt i 0⟩, ⟨13, [], i6 j⟩, ⟨16, [], i6 (ltakesS a)⟩, ⟨17, [], .func (.func 11) #[] #[]⟩, ⟨18, [], i6 q⟩, ⟨22, [], i6 A⟩, ⟨23, [], i6 y⟩, ⟨24, [], i6 o⟩, ⟨25, [], i6 H⟩, ⟨27, [], pt R 0⟩, ⟨104, [], .slice ao1 u0.length cap2⟩, ⟨105, [], i6 (u0.length : Int)⟩, ⟨106, [], i6 c⟩, ⟨192, [], .slice P (u0.take c.toNat).length Q⟩, ⟨193, [], i6 ((u0.take c.toNat).length : Int)⟩, ⟨194, [], i6 I⟩] hL := bJ.reg; clear bJ
        refine qrgH mixed (by kernel_rfl) d3 ?_; intro hN d5
        refine q1 d4 198 (i6 H) ?_; intro kV d6; clear d4
        refine q1 d6 199 (i6 y) ?_; intro kW d7; clear d6
        refine q1 d7 200 (pt R 4) ?_; intro kX bK; clear d7
        refine qst bK (i6 f.Jitter) (nog rfl _) rfl (by kernel_rfl) (fun v689 hC => ld bK hC 0 (g := []) (b := R) (off := 4) (cs := (e32XSc f)) (ty := 32) rfl (by kernel_rfl) (by kernel_rfl) (by kernel_rfl) (by kernel_rfl) rfl) ?_; intro kY d8; clear bK
        refine q1 d8 202 (i6 (w64 (y + f.Jitter))) ?_; intro kZ d9; clear d8
        refine q1 d9 203 (pt R 2) ?_; intro k0 bL; clear d9
        refine qst bL (i6 f.Every) (nog rfl _) rfl (by kernel_rfl) (fun v698 hC => ld bL hC 0 (g := []) (b := R) (off := 2) (cs := (e32XSc f)) (ty := 32) rfl (by kernel_rfl) (by kernel_rfl) (by kernel_rfl) (by kernel_rfl) rfl) ?_; intro k1 bM; clear bL
        obtain ⟨hO, hP⟩ := hK
        refine qst bM (i6 (w64 ((w64 (y + f.Jitter)).tdiv f.Every))) (nog rfl _) rfl (by kernel_rfl) (fun v701 hC => quo_run bM (g := []) rfl (by kernel_rfl) (by kernel_rfl) hO rfl) ?_; intro k2 ea; clear bM
        refine q1 ea 206 (i6 (w64 ((w64 ((w64 (y + f.Jitter)).tdiv f.Every)) + 1))) ?_; intro k3 bN; clear ea
        refine qst bN (.agg (e32XSc f).toArray) (nog rfl _) rfl (by kernel_rfl) (fun v709 hC => lda bN hC 0 (g := []) (b := R) (off := 0) (k := 5) (cs := (e32XSc f)) (vs := (e32XSc f)) (ty := 32) rfl (by kernel_rfl) (by kernel_rfl) (by kernel_rfl) (by kernel_rfl) (by kernel_rfl) rfl) ?_; intro k4 eb; clear bN
        obtain ⟨hQ, ec⟩ := hP
        refine qcl eb (i6 (ltakesS f)) 10 #[.agg (e32XSc f).toArray] (nog rfl _) rfl (by kernel_rfl) (fun _ => by kernel_rfl) (qfc fun w hC => ltakes_fun f hQ _ _ hg3 hC.fz) ?_; intro k5 ed; clear eb
        refine q1 ed 209 (i6 (w64 ((w64 ((w64 ((w64 (y + f.Jitter)).tdiv f.Every)) + 1)) * (ltakesS f)))) ?_; intro k6 ee; clear ed
        refine q1 ee 210 (i6 (w64 (H + (w64 ((w64 ((w64 ((w64 (y + f.Jitter)).tdiv f.Every)) + 1)) * (ltakesS f)))))) ?_; intro k7 ef; clear ee
        refine q1 ef 25 (i6 (w64 (H + (w64 ((w64 ((w64 ((w64 (y + f.Jitter)).tdiv f.Every)) + 1)) * (ltakesS f)))))) ?_; intro k8 eg; clear ef
        refine qnl (d5 _ ?_); clear d5 hN; intro k9 eh; clear d3
        refine ibn ?_
        refine thn ?_
        refine rgB eg eh [] [] [(194, i6 (w64 (I + 1)))] ?_; intro la hR; clear eg
        refine rd ?_
        exact ⟨⟨w64 (H + (w64 ((w64 ((w64 ((w64 (y + f.Jitter)).tdiv f.Every)) + 1)) * (ltakesS f)))), w64 (I + 1)⟩, ec.1, ec.2, (hR.reg).anyβ _ (by kernel_rfl), eh.keep (List.Sublist.cons _ (List.Sublist.cons_cons _ (List.Sublist.slnil)))⟩
       have hS := aY.2 bI; clear aY
       refine wp_exit ?_
       refine thx ?_
       refine thx ?_
       refine ibx ?_
       refine rd ?_
       exact hr H hS _ _ ((aZ.reg).anyβ _ (by kernel_rfl)) (ar.keep (List.Sublist.cons_cons _ (List.Sublist.slnil)))
      have hT := aR.2 bD; clear aR
      refine wp_exit ?_
      refine thx ?_
      refine thx ?_
      refine ibx ?_
      refine rd ?_
      exact c6 A hT _ _ ((aS.reg).anyβ _ (by kernel_rfl)) (aq.keep (List.Sublist.cons_cons _ (List.Sublist.slnil)))
     have hU := aN.2 bC; clear aN
     refine wp_skip ?_
     refine rd ?_
     exact c6 (-1) hU _ _ ((ao.reg).anyβ _ (by kernel_rfl)) (E.keep (List.Sublist.cons_cons _ (List.Sublist.slnil)))
    refine wp_block ?_
    have ei : Fr 245 [] [⟨0, [], .slice ao1 u0.length cap2⟩, ⟨5, [], .slice l (WorstS u0).1.length n⟩, ⟨11, [], i6 c⟩, ⟨12, [], pt i 0⟩, ⟨13, [], i6 j⟩, ⟨16, [], i6 (ltakesS a)⟩, ⟨17, [], .func (.func 11) #[] #[]⟩, ⟨18, [], i6 (w64 (j + (ltakesS a)))⟩, ⟨104, [], .slice ao1 u0.length cap2⟩, ⟨105, [], i6 (u0.length : Int)⟩, ⟨106, [], i6 c⟩] aM := br.reg; clear br
    have ej : Fr 245 [] [⟨0, [], .slice ao1 u0.length cap2⟩, ⟨5, [], .slice l (WorstS u0).1.length n⟩, ⟨11, [], i6 c⟩, ⟨12, [], pt i 0⟩, ⟨13, [], i6 j⟩, ⟨16, [], i6 (ltakesS a)⟩, ⟨17, [], .func (.func 11) #[] #[]⟩, ⟨18, [], i6 (w64 (j + (ltakesS a)))⟩, ⟨104, [], .slice ao1 u0.length cap2⟩, ⟨105, [], i6 (u0.length : Int)⟩, ⟨106, [], i6 c⟩] aM := ei.reg; clear ei
    obtain ⟨hV, hW, hX, hY⟩ := gy
    refine lp (ι := Int) (fun s => [⟨0, [], .slice ao1 u0.length cap2⟩, ⟨5, [], .slice l (WorstS u0).1.length n⟩, ⟨11, [], i6 c⟩, ⟨12, [], pt i 0⟩, ⟨13, [], i6 j⟩, ⟨16, [], i6 (ltakesS a)⟩, ⟨17, [], .func (.func 11) #[] #[]⟩, ⟨18, [], i6 s⟩, ⟨104, [], .slice ao1 u0.length cap2⟩, ⟨105, [], i6 (u0.length : Int)⟩, ⟨106, [], i6 c⟩]) (fun s => [.row i (e32XSc a) 32]) (fun s => x) (fun s => hV s) (fun s => hW s) (w64 (j + (ltakesS a))) hX (by exact ej.reg) (by exact an) ?_
    rintro z h0 h1 h2 ek el
    have em : Fr 245 [] [⟨0, [], .slice ao1 u0.length cap2⟩, ⟨5, [], .slice l (WorstS u0).1.length n⟩, ⟨11, [], i6 c⟩, ⟨12, [], pt i 0⟩, ⟨13, [], i6 j⟩, ⟨16, [], i6 (ltakesS a)⟩, ⟨17, [], .func (.func 11) #[] #[]⟩, ⟨18, [], i6 z⟩, ⟨104, [], .slice ao1 u0.length cap2⟩, ⟨105, [], i6 (u0.length : Int)⟩, ⟨106, [], i6 c⟩] h1 := ek; clear ek ej
    have ae : Mem w.heap.size [] w Z [.row i (e32XSc a) 32] x h2 := el; clear el an
    have h3 := hY z h0
    refine wp_block ?_
    refine sqB em ae [] [] [(19, i6 j)] ?_; intro lb en; clear em
    refine wp_seq ?_
    refine sqH ?_; intro h4 eo
    refine bt en ae 3 [] [] [(131, .slice ao1 u0.length cap2), (133, i6 (w64 (c + 1)))] ?_; intro lc ep; clear en
    obtain ⟨h5, h6⟩ := h3
    refine slH ep (T := tyTask) (xs := u0) hs3 (w64 (c + 1)) h5 (k' := .i64) (e := 32) (bytes := 40) (nog rfl _) rfl (by kernel_rfl) rfl (by kernel_rfl) (by kernel_rfl) (by kernel_rfl) ?_; intro S U lf lg h7 eq; clear ep
    refine bt eq ae 2 [] [] [(135, i6 ((u0.take (w64 (c + 1)).toNat).length : Int)), (136, i6 0)] ?_; intro a2 er; clear eq
    refine nlH (eo _ _ ?_); clear eo h4
    have es : Fr 245 [] [⟨0, [], .slice ao1 u0.length cap2⟩, ⟨5, [], .slice l (WorstS u0).1.length n⟩, ⟨11, [], i6 c⟩, ⟨12, [], pt i 0⟩, ⟨13, [], i6 j⟩, ⟨16, [], i6 (ltakesS a)⟩, ⟨17, [], .func (.func 11) #[] #[]⟩, ⟨18, [], i6 z⟩, ⟨19, [], i6 j⟩, ⟨104, [], .slice ao1 u0.length cap2⟩, ⟨105, [], i6 (u0.length : Int)⟩, ⟨106, [], i6 c⟩, ⟨134, [], .slice S (u0.take (w64 (c + 1)).toNat).length U⟩, ⟨135, [], i6 ((u0.take (w64 (c + 1)).toNat).length : Int)⟩, ⟨136, [], i6 0⟩] a2 := er.reg; clear er
    have bO : Fr 245 [] [⟨0, [], .slice ao1 u0.length cap2⟩, ⟨5, [], .slice l (WorstS u0).1.length n⟩, ⟨11, [], i6 c⟩, ⟨12, [], pt i 0⟩, ⟨13, [], i6 j⟩, ⟨16, [], i6 (ltakesS a)⟩, ⟨17, [], .func (.func 11) #[] #[]⟩, ⟨18, [], i6 z⟩, ⟨19, [], i6 j⟩, ⟨104, [], .slice ao1 u0.length cap2⟩, ⟨105, [], i6 (u0.length : Int)⟩, ⟨106, [], i6 c⟩, ⟨134, [], .slice S (u0.take (w64 (c + 1)).toNat).length U⟩, ⟨135, [], i6 ((u0.take (w64 (c + 1)).toNat).length : Int)⟩, ⟨136, [], i6 0⟩] a2 := es.reg; clear es
    obtain ⟨h8, h9, ia⟩ := h6
    refine wp_then_k fun KJ779 hKJ780 => ?_
    have ib : ∀ (C : Int), h8 C → ∀ a1 w1, Fr 245 [] [⟨0, [], .slice ao1 u0.length cap2⟩, ⟨5, [], .slice l (WorstS u0).1.length n⟩, ⟨11, [], i6 c⟩, ⟨12, [], pt i 0⟩, ⟨13, [], i6 j⟩, ⟨16, [], i6 (ltakesS a)⟩, ⟨17, [], .func (.func 11) #[] #[]⟩, ⟨18, [], i6 z⟩, ⟨19, [], i6 C⟩, ⟨104, [], .slice ao1 u0.length cap2⟩, ⟨105, [], i6 (u0.length : Int)⟩, ⟨106, [], i6 c⟩] a1 → Mem w.heap.size [] w Z [.row i (e32XSc a) 32] x w1 → KJ779 a1 w1 := by
     rintro C ic lh li et au; clear bO ae
     refine hKJ780 _ _ ?_; clear hKJ780
     have a3 := ia C ic
     refine wp_seq ?_
     refine sqB et au [] [] [(160, .bool ((C == z) || (decide (C > 200000))))] ?_; intro lj av; clear et
     refine cd av (t := (C == z) || (decide (C > 200000))) (by kernel_rfl) (fun bP => ?_) (fun bP => ?_)
     ·
      have id := a3.1 bP; clear a3
      refine sqB av au [] [] [(18, i6 C)] ?_; intro lk ie; clear av
      refine wp_exit ?_
      refine thx ?_
      refine ibo (by decide) ?_
      refine thx ?_
      refine ibx ?_
      refine rd ?_
      exact gA C id _ _ ((ie.reg).anyβ _ (by kernel_rfl)) (au.keep (List.Sublist.cons_cons _ (List.Sublist.slnil)))
     have eu := a3.2 bP; clear a3
     refine wp_skip ?_
     refine thn ?_
     refine rgB av au [] [] [(18, i6 C)] ?_; intro ll ig; clear av
     refine ibn ?_
     refine rd ?_
     exact ⟨C, eu.1, eu.2, (ig.reg).anyβ _ (by kernel_rfl), au.keep (List.Sublist.cons_cons _ (List.Sublist.slnil))⟩
    refine wp_block ?_
    have ev : Fr 245 [] [⟨0, [], .slice ao1 u0.length cap2⟩, ⟨5, [], .slice l (WorstS u0).1.length n⟩, ⟨11, [], i6 c⟩, ⟨12, [], pt i 0⟩, ⟨13, [], i6 j⟩, ⟨16, [], i6 (ltakesS a)⟩, ⟨17, [], .func (.func 11) #[] #[]⟩, ⟨18, [], i6 z⟩, ⟨19, [], i6 j⟩, ⟨104, [], .slice ao1 u0.length cap2⟩, ⟨105, [], i6 (u0.length : Int)⟩, ⟨106, [], i6 c⟩, ⟨134, [], .slice S (u0.take (w64 (c + 1)).toNat).length U⟩, ⟨135, [], i6 ((u0.take (w64 (c + 1)).toNat).length : Int)⟩, ⟨136, [], i6 0⟩] a2 := bO.reg; clear bO
    have ew : Fr 245 [] [⟨0, [], .slice ao1 u0.length cap2⟩, ⟨5, [], .slice l (WorstS u0).1.length n⟩, ⟨11, [], i6 c⟩, ⟨12, [], pt i 0⟩, ⟨13, [], i6 j⟩, ⟨16, [], i6 (ltakesS a)⟩, ⟨17, [], .func (.func 11) #[] #[]⟩, ⟨18, [], i6 z⟩, ⟨19, [], i6 j⟩, ⟨104, [], .slice ao1 u0.length cap2⟩, ⟨105, [], i6 (u0.length : Int)⟩, ⟨106, [], i6 c⟩, ⟨134, [], .slice S (u0.take (w64 (c + 1)).toNat).length U⟩, ⟨135, [], i6 ((u0.take (w64 (c + 1)).toNat).length : Int)⟩, ⟨136, [], i6 0⟩] a2 := ev.reg; clear ev
    obtain ⟨ih, ii, ij, ik⟩ := h9
    refine lp (ι := Int × Int) (fun s => [⟨0, [], .slice ao1 u0.length cap2⟩, ⟨5, [], .slice l (WorstS u0).1.length n⟩, ⟨11, [], i6 c⟩, ⟨12, [], pt i 0⟩, ⟨13, [], i6 j⟩, ⟨16, [], i6 (ltakesS a)⟩, ⟨17, [], .func (.func 11) #[] #[]⟩, ⟨18, [], i6 z⟩, ⟨19, [], i6 s.1⟩, ⟨104, [], .slice ao1 u0.length cap2⟩, ⟨105, [], i6 (u0.length : Int)⟩, ⟨106, [], i6 c⟩, ⟨134, [], .slice S (u0.take (w64 (c + 1)).toNat).length U⟩, ⟨135, [], i6 ((u0.take (w64 (c + 1)).toNat).length : Int)⟩, ⟨136, [], i6 s.2⟩]) (fun s => [.row i (e32XSc a) 32]) (fun s => x) (fun s => ih s.1 s.2) (fun s => ii s.1 s.2) ⟨j, 0⟩ ij (by exact ew.reg) (by exact ae) ?_
    rintro ⟨J, L⟩ il im io ex ey
    have ez : Fr 245 [] [⟨0, [], .slice ao1 u0.length cap2⟩, ⟨5, [], .slice l (WorstS u0).1.length n⟩, ⟨11, [], i6 c⟩, ⟨12, [], pt i 0⟩, ⟨13, [], i6 j⟩, ⟨16, [], i6 (ltakesS a)⟩, ⟨17, [], .func (.func 11) #[] #[]⟩, ⟨18, [], i6 z⟩, ⟨19, [], i6 J⟩, ⟨104, [], .slice ao1 u0.length cap2⟩, ⟨105, [], i6 (u0.length : Int)⟩, ⟨106, [], i6 c⟩, ⟨134, [], .slice S (u0.take (w64 (c + 1)).toNat).length U⟩, ⟨135, [], i6 ((u0.take (w64 (c + 1)).toNat).length : Int)⟩, ⟨136, [], i6 L⟩] im := ex; clear ex ew
    have aw : Mem w.heap.size [] w Z [.row i (e32XSc a) 32] x io := ey; clear ey ae
    have a4 := ik J L il
    refine sqB ez aw [] [] [(137, .bool (decide (L < ((u0.take (w64 (c + 1)).toNat).length : Int))))] ?_; intro lm a5; clear ez
    refine wp_seq ?_
    refine cd a5 (t := decide (L < ((u0.take (w64 (c + 1)).toNat).length : Int))) (by kernel_rfl) (fun bQ => ?_) (fun bQ => ?_)
    ·
     have ip := a4.1 bQ; clear a4
     refine wp_skip ?_
     refine thn ?_
     refine wp_seq ?_
     refine wp_block ?_
     refine sqH ?_; intro iq eA
     obtain ⟨ir, eB⟩ := ip
     refine ix a5 (T := tyTask) (xs := u0.take (w64 (c + 1)).toNat) h7 L ir (k := .i64) (e := 32) (bytes := 40) (nog rfl _) rfl (by kernel_rfl) rfl (by kernel_rfl) (by kernel_rfl) (by kernel_rfl) ?_; intro ln lo it d lq iu iv iw eC; clear a5
     have iy := eB d iu; clear eB
     obtain rfl : it = ((e32XSc d) : List Value) := iw
     refine z2 eC aw 139 iv 0 5 (e32XSc d) rfl ?_; intro lr eD; clear eC
     refine nw eD aw pb [i6 0, i6 0, i6 0, i6 0, i6 0] 32 ?_; intro V iz ls bR eE; clear eD aw
     refine sx bR eE 0 (e32XSc d) 0 ?_; intro iA eF; clear eE
     have eG : Mem w.heap.size [] w Z [.row V (e32XSc d) 32, .row i (e32XSc a) 32] x iA := eF; clear eF
     refine nlH (eA _ _ ?_); clear eA iq
     have eH : Fr 245 [] [⟨0, [], .slice ao1 u0.length cap2⟩, ⟨5, [], .slice l (WorstS u0).1.length n⟩, ⟨11, [], i6 c⟩, ⟨12, [], pt i 0⟩, ⟨13, [], i6 j⟩, ⟨16, [], i6 (ltakesS a)⟩, ⟨17, [], .func (.func 11) #[] #[]⟩, ⟨18, [], i6 z⟩, ⟨19, [], i6 J⟩, ⟨21, [], pt V 0⟩, ⟨104, [], .slice ao1 u0.length cap2⟩, ⟨105, [], i6 (u0.length : Int)⟩, ⟨106, [], i6 c⟩, ⟨134, [], .slice S (u0.take (w64 (c + 1)).toNat).length U⟩, ⟨135, [], i6 ((u0.take (w64 (c + 1)).toNat).length : Int)⟩, ⟨136, [], i6 L⟩] iz := bR.reg; clear bR
     refine qrgH mixed (by kernel_rfl) eG ?_; intro iB eI
     refine q1 eH 140 (i6 J) ?_; intro lt eJ; clear eH
     refine q1 eJ 141 (.func (.func 11) #[] #[]) ?_; intro lu eK; clear eJ
     refine q1 eK 142 (i6 z) ?_; intro lv eL; clear eK
     refine q1 eL 143 (pt V 4) ?_; intro lw bS; clear eL
     refine qst bS (i6 d.Jitter) (nog rfl _) rfl (by kernel_rfl) (fun v873 hC => ld bS hC 0 (g := []) (b := V) (off := 4) (cs := (e32XSc d)) (ty := 32) rfl (by kernel_rfl) (by kernel_rfl) (by kernel_rfl) (by kernel_rfl) rfl) ?_; intro lx eM; clear bS
     refine q1 eM 145 (i6 (w64 (z + d.Jitter))) ?_; intro ly eN; clear eM
     refine q1 eN 146 (pt V 2) ?_; intro lz bT; clear eN
     refine qst bT (i6 d.Every) (nog rfl _) rfl (by kernel_rfl) (fun v882 hC => ld bT hC 0 (g := []) (b := V) (off := 2) (cs := (e32XSc d)) (ty := 32) rfl (by kernel_rfl) (by kernel_rfl) (by kernel_rfl) (by kernel_rfl) rfl) ?_; intro lA eO; clear bT
     obtain ⟨iC, iD⟩ := iy
     refine qcl eO (i6 (wupS (w64 (z + d.Jitter)) d.Every)) 11 #[i6 (w64 (z + d.Jitter)), i6 d.Every] (nog rfl _) rfl (by kernel_rfl) (fun _ => by kernel_rfl) (qfc fun w hC => wup_fun (w64 (z + d.Jitter)) d.Every iC _ _ hC.fz) ?_; intro lB bU; clear eO
     refine qst bU (.agg (e32XSc d).toArray) (nog rfl _) rfl (by kernel_rfl) (fun v890 hC => lda bU hC 0 (g := []) (b := V) (off := 0) (k := 5) (cs := (e32XSc d)) (vs := (e32XSc d)) (ty := 32) rfl (by kernel_rfl) (by kernel_rfl) (by kernel_rfl) (by kernel_rfl) (by kernel_rfl) rfl) ?_; intro lC eP; clear bU
     obtain ⟨iE, eQ⟩ := iD
     refine qcl eP (i6 (ltakesS d)) 10 #[.agg (e32XSc d).toArray] (nog rfl _) rfl (by kernel_rfl) (fun _ => by kernel_rfl) (qfc fun w hC => ltakes_fun d iE _ _ hg3 hC.fz) ?_; intro lD eR; clear eP
     refine q1 eR 151 (i6 (w64 ((wupS (w64 (z + d.Jitter)) d.Every) * (ltakesS d)))) ?_; intro lE eS; clear eR
     refine q1 eS 152 (i6 (w64 (J + (w64 ((wupS (w64 (z + d.Jitter)) d.Every) * (ltakesS d)))))) ?_; intro lF eT; clear eS
     refine q1 eT 19 (i6 (w64 (J + (w64 ((wupS (w64 (z + d.Jitter)) d.Every) * (ltakesS d)))))) ?_; intro lG eU; clear eT
     refine qnl (eI _ ?_); clear eI iB; intro lH eV; clear eG
     refine ibn ?_
     refine thn ?_
     refine rgB eU eV [] [] [(136, i6 (w64 (L + 1)))] ?_; intro lI iF; clear eU
     refine rd ?_
     exact ⟨⟨w64 (J + (w64 ((wupS (w64 (z + d.Jitter)) d.Every) * (ltakesS d)))), w64 (L + 1)⟩, eQ.1, eQ.2, (iF.reg).anyβ _ (by kernel_rfl), eV.keep (List.Sublist.cons _ (List.Sublist.cons_cons _ (List.Sublist.slnil)))⟩
    have iG := a4.2 bQ; clear a4
    refine wp_exit ?_
    refine thx ?_
    refine thx ?_
    refine ibx ?_
    refine rd ?_
    exact ib J iG _ _ ((a5.reg).anyβ _ (by kernel_rfl)) (aw.keep (List.Sublist.cons_cons _ (List.Sublist.slnil)))
   refine wp_block ?_
   have eW : Fr 245 [] [⟨0, [], .slice ao1 u0.length cap2⟩, ⟨5, [], .slice l (WorstS u0).1.length n⟩, ⟨11, [], i6 c⟩, ⟨12, [], pt i 0⟩, ⟨13, [], i6 0⟩, ⟨104, [], .slice ao1 u0.length cap2⟩, ⟨105, [], i6 (u0.length : Int)⟩, ⟨106, [], i6 c⟩, ⟨114, [], .slice ab (u0.drop (w64 (c + 1)).toNat).length ac⟩, ⟨115, [], i6 ((u0.drop (w64 (c + 1)).toNat).length : Int)⟩, ⟨116, [], i6 0⟩] aK := bq.reg; clear bq
   have eX : Fr 245 [] [⟨0, [], .slice ao1 u0.length cap2⟩, ⟨5, [], .slice l (WorstS u0).1.length n⟩, ⟨11, [], i6 c⟩, ⟨12, [], pt i 0⟩, ⟨13, [], i6 0⟩, ⟨104, [], .slice ao1 u0.length cap2⟩, ⟨105, [], i6 (u0.length : Int)⟩, ⟨106, [], i6 c⟩, ⟨114, [], .slice ab (u0.drop (w64 (c + 1)).toNat).length ac⟩, ⟨115, [], i6 ((u0.drop (w64 (c + 1)).toNat).length : Int)⟩, ⟨116, [], i6 0⟩] aK := eW.reg; clear eW
   obtain ⟨iH, iI, iJ, iK⟩ := gp
   refine lp (ι := Int × Int) (fun s => [⟨0, [], .slice ao1 u0.length cap2⟩, ⟨5, [], .slice l (WorstS u0).1.length n⟩, ⟨11, [], i6 c⟩, ⟨12, [], pt i 0⟩, ⟨13, [], i6 s.1⟩, ⟨104, [], .slice ao1 u0.length cap2⟩, ⟨105, [], i6 (u0.length : Int)⟩, ⟨106, [], i6 c⟩, ⟨114, [], .slice ab (u0.drop (w64 (c + 1)).toNat).length ac⟩, ⟨115, [], i6 ((u0.drop (w64 (c + 1)).toNat).length : Int)⟩, ⟨116, [], i6 s.2⟩]) (fun s => [.row i (e32XSc a) 32]) (fun s => x) (fun s => iH s.1 s.2) (fun s => iI s.1 s.2) ⟨0, 0⟩ iJ (by exact eX.reg) (by exact aa) ?_
   rintro ⟨af, W⟩ iL iM iN eY eZ
   have e0 : Fr 245 [] [⟨0, [], .slice ao1 u0.length cap2⟩, ⟨5, [], .slice l (WorstS u0).1.length n⟩, ⟨11, [], i6 c⟩, ⟨12, [], pt i 0⟩, ⟨13, [], i6 af⟩, ⟨104, [], .slice ao1 u0.length cap2⟩, ⟨105, [], i6 (u0.length : Int)⟩, ⟨106, [], i6 c⟩, ⟨114, [], .slice ab (u0.drop (w64 (c + 1)).toNat).length ac⟩, ⟨115, [], i6 ((u0.drop (w64 (c + 1)).toNat).length : Int)⟩, ⟨116, [], i6 W⟩] iM := eY; clear eY eX
   have ax : Mem w.heap.size [] w Z [.row i (e32XSc a) 32] x iN := eZ; clear eZ aa
   have a7 := iK af W iL
   refine sqB e0 ax [] [] [(117, .bool (decide (W < ((u0.drop (w64 (c + 1)).toNat).length : Int))))] ?_; intro lJ a8; clear e0
   refine wp_seq ?_
   refine cd a8 (t := decide (W < ((u0.drop (w64 (c + 1)).toNat).length : Int))) (by kernel_rfl) (fun bV => ?_) (fun bV => ?_)
   ·
    have iO := a7.1 bV; clear a7
    refine wp_skip ?_
    refine thn ?_
    refine wp_seq ?_
    refine wp_block ?_
    refine sqH ?_; intro iP e1
    obtain ⟨iQ, e2⟩ := iO
    refine ix a8 (T := tyTask) (xs := u0.drop (w64 (c + 1)).toNat) gn W iQ (k := .i64) (e := 32) (bytes := 40) (nog rfl _) rfl (by kernel_rfl) rfl (by kernel_rfl) (by kernel_rfl) (by kernel_rfl) ?_; intro lK lL iR u lM iS iT iU e3; clear a8
    have iV := e2 u iS; clear e2
    obtain rfl : iR = ((e32XSc u) : List Value) := iU
    refine z2 e3 ax 119 iT 0 5 (e32XSc u) rfl ?_; intro lN e4; clear e3
    refine nw e4 ax pb [i6 0, i6 0, i6 0, i6 0, i6 0] 32 ?_; intro iW lO lP bW e5; clear e4 ax
    refine sx bW e5 0 (e32XSc u) 0 ?_; intro iX e6; clear e5
    have ba : Mem w.heap.size [] w Z [.row iW (e32XSc u) 32, .row i (e32XSc a) 32] x iX := e6; clear e6
    refine nlH (e1 _ _ ?_); clear e1 iP
    refine rgH ?_; intro iY e7
    refine bt bW ba 2 [0] [] [(120, i6 af), (121, .agg (e32XSc u).toArray)] ?_; intro lQ e8; clear bW
    obtain ⟨iZ, e9⟩ := iV
    refine fc e8 ba (ltakes_fun u iZ _ _ hg3 ba.fz) ?_; intro lR lS fa bX; clear e8 ba
    refine bt fa bX 2 [] [] [(13, i6 (max af (ltakesS u)))] ?_; intro lT fb; clear fa
    refine nlH (e7 _ _ ?_); clear e7 iY
    refine ibn ?_
    refine thn ?_
    refine rgB fb bX [] [] [(116, i6 (w64 (W + 1)))] ?_; intro lU i0; clear fb
    refine rd ?_
    exact ⟨⟨max af (ltakesS u), w64 (W + 1)⟩, e9.1, e9.2, (i0.reg).anyβ _ (by kernel_rfl), bX.keep (List.Sublist.cons _ (List.Sublist.cons_cons _ (List.Sublist.slnil)))⟩
   have i1 := a7.2 bV; clear a7
   refine wp_exit ?_
   refine thx ?_
   refine thx ?_
   refine ibx ?_
   refine rd ?_
   exact gr af i1 _ _ ((a8.reg).anyβ _ (by kernel_rfl)) (ax.keep (List.Sublist.cons_cons _ (List.Sublist.slnil)))
  have i2 := aI.2 bo; clear aI
  refine wp_exit ?_
  refine thx ?_
  refine thx ?_
  refine ibx ?_
  refine rd ?_
  exact f0 () i2 _ _ ((aJ.reg).anyβ _ (by kernel_rfl)) (am.keep (List.Sublist.slnil))
 refine wp_block ?_
 have fd : Fr 245 [] [⟨0, [], .slice ao1 u0.length cap2⟩, ⟨3, [], i6 (loadS u0).1⟩, ⟨4, [], i6 (loadS u0).2⟩, ⟨5, [], .slice l (WorstS u0).1.length n⟩, ⟨6, [], i6 (WorstS u0).2⟩, ⟨8, [], i6 0⟩, ⟨67, [], .slice ao1 u0.length cap2⟩, ⟨68, [], i6 (u0.length : Int)⟩, ⟨69, [], i6 0⟩] aF := bi.reg; clear bi
 have fe : Fr 245 [] [⟨0, [], .slice ao1 u0.length cap2⟩, ⟨3, [], i6 (loadS u0).1⟩, ⟨4, [], i6 (loadS u0).2⟩, ⟨5, [], .slice l (WorstS u0).1.length n⟩, ⟨6, [], i6 (WorstS u0).2⟩, ⟨8, [], i6 0⟩, ⟨67, [], .slice ao1 u0.length cap2⟩, ⟨68, [], i6 (u0.length : Int)⟩, ⟨69, [], i6 0⟩] aF := fd.reg; clear fd
 obtain ⟨i3, i4, i5, i7⟩ := fO
 refine lp (ι := Int × Int) (fun s => [⟨0, [], .slice ao1 u0.length cap2⟩, ⟨3, [], i6 (loadS u0).1⟩, ⟨4, [], i6 (loadS u0).2⟩, ⟨5, [], .slice l (WorstS u0).1.length n⟩, ⟨6, [], i6 (WorstS u0).2⟩, ⟨8, [], i6 s.1⟩, ⟨67, [], .slice ao1 u0.length cap2⟩, ⟨68, [], i6 (u0.length : Int)⟩, ⟨69, [], i6 s.2⟩]) (fun s => [.own tyStop 36 l n (WorstS u0).1]) (fun s => ag) (fun s => i3 s.1 s.2) (fun s => i4 s.1 s.2) ⟨0, 0⟩ i5 (by exact fe.reg) (by exact D) ?_
 rintro ⟨M, N⟩ i8 i9 ja ff fg
 have fh : Fr 245 [] [⟨0, [], .slice ao1 u0.length cap2⟩, ⟨3, [], i6 (loadS u0).1⟩, ⟨4, [], i6 (loadS u0).2⟩, ⟨5, [], .slice l (WorstS u0).1.length n⟩, ⟨6, [], i6 (WorstS u0).2⟩, ⟨8, [], i6 M⟩, ⟨67, [], .slice ao1 u0.length cap2⟩, ⟨68, [], i6 (u0.length : Int)⟩, ⟨69, [], i6 N⟩] i9 := ff; clear ff fe
 have ay : Mem w.heap.size [] w Z [.own tyStop 36 l n (WorstS u0).1] ag ja := fg; clear fg D
 have bb := i7 M N i8
 refine sqB fh ay [] [] [(70, .bool (decide (N < (u0.length : Int))))] ?_; intro lV bc; clear fh
 refine wp_seq ?_
 refine cd bc (t := decide (N < (u0.length : Int))) (by kernel_rfl) (fun bY => ?_) (fun bY => ?_)
 ·
  have jb := bb.1 bY; clear bb
  refine wp_skip ?_
  refine thn ?_
  refine wp_seq ?_
  refine wp_block ?_
  refine sqH ?_; intro jc fi
  obtain ⟨jd, fj⟩ := jb
  refine ix bc (T := tyTask) (xs := u0) hs3 N jd (k := .i64) (e := 32) (bytes := 40) (nog rfl _) rfl (by kernel_rfl) rfl (by kernel_rfl) (by kernel_rfl) (by kernel_rfl) ?_; intro lW lX je h lY jf jg jh fk; clear bc
  have ji := fj h jf; clear fj
  obtain rfl : je = ((e32XSc h) : List Value) := jh
  refine z2 fk ay 72 jg 0 5 (e32XSc h) rfl ?_; intro lZ fl; clear fk
  refine nw fl ay pb [i6 0, i6 0, i6 0, i6 0, i6 0] 32 ?_; intro X jj l0 bZ fm; clear fl ay
  refine sx bZ fm 0 (e32XSc h) 0 ?_; intro jk fn; clear fm
  have fo : Mem w.heap.size [] w Z [.row X (e32XSc h) 32, .own tyStop 36 l n (WorstS u0).1] ag jk := fn; clear fn
  refine nlH (fi _ _ ?_); clear fi jc
  have fp : Fr 245 [] [⟨0, [], .slice ao1 u0.length cap2⟩, ⟨3, [], i6 (loadS u0).1⟩, ⟨4, [], i6 (loadS u0).2⟩, ⟨5, [], .slice l (WorstS u0).1.length n⟩, ⟨6, [], i6 (WorstS u0).2⟩, ⟨8, [], i6 M⟩, ⟨10, [], pt X 0⟩, ⟨67, [], .slice ao1 u0.length cap2⟩, ⟨68, [], i6 (u0.length : Int)⟩, ⟨69, [], i6 N⟩] jj := bZ.reg; clear bZ
  refine qrgH mixed (by kernel_rfl) fo ?_; intro jl fq
  refine q1 fp 73 (i6 M) ?_; intro l1 b0; clear fp
  refine qst b0 (.agg (e32XSc h).toArray) (nog rfl _) rfl (by kernel_rfl) (fun v1026 hC => lda b0 hC 0 (g := []) (b := X) (off := 0) (k := 5) (cs := (e32XSc h)) (vs := (e32XSc h)) (ty := 32) rfl (by kernel_rfl) (by kernel_rfl) (by kernel_rfl) (by kernel_rfl) (by kernel_rfl) rfl) ?_; intro l3 fr; clear b0
  obtain ⟨jm, jn⟩ := ji
  refine qcl fr (i6 (ltakesS h)) 10 #[.agg (e32XSc h).toArray] (nog rfl _) rfl (by kernel_rfl) (fun _ => by kernel_rfl) (qfc fun w hC => ltakes_fun h jm _ _ hg3 hC.fz) ?_; intro l4 fs; clear fr
  refine q1 fs 76 (i6 (w64 ((ltakesS h) * 1000000))) ?_; intro l5 ft; clear fs
  refine q1 ft 77 (pt X 2) ?_; intro l6 b1; clear ft
  refine qst b1 (i6 h.Every) (nog rfl _) rfl (by kernel_rfl) (fun v1040 hC => ld b1 hC 0 (g := []) (b := X) (off := 2) (cs := (e32XSc h)) (ty := 32) rfl (by kernel_rfl) (by kernel_rfl) (by kernel_rfl) (by kernel_rfl) rfl) ?_; intro l7 fu; clear b1
  refine q1 fu 79 (i6 (w64 ((w64 ((ltakesS h) * 1000000)) + h.Every))) ?_; intro l8 fv; clear fu
  refine q1 fv 80 (i6 (w64 ((w64 ((w64 ((ltakesS h) * 1000000)) + h.Every)) - 1))) ?_; intro l9 fw; clear fv
  refine q1 fw 81 (pt X 2) ?_; intro ma b2; clear fw
  refine qst b2 (i6 h.Every) (nog rfl _) rfl (by kernel_rfl) (fun v1052 hC => ld b2 hC 0 (g := []) (b := X) (off := 2) (cs := (e32XSc h)) (ty := 32) rfl (by kernel_rfl) (by kernel_rfl) (by kernel_rfl) (by kernel_rfl) rfl) ?_; intro mb b3; clear b2
  obtain ⟨jo, fx⟩ := jn
  refine qst b3 (i6 (w64 ((w64 ((w64 ((w64 ((ltakesS h) * 1000000)) + h.Every)) - 1)).tdiv h.Every))) (nog rfl _) rfl (by kernel_rfl) (fun v1055 hC => quo_run b3 (g := []) rfl (by kernel_rfl) (by kernel_rfl) jo rfl) ?_; intro mc fy; clear b3
  refine q1 fy 84 (i6 (w64 (M + (w64 ((w64 ((w64 ((w64 ((ltakesS h) * 1000000)) + h.Every)) - 1)).tdiv h.Every))))) ?_; intro md fA; clear fy
  refine q1 fA 8 (i6 (w64 (M + (w64 ((w64 ((w64 ((w64 ((ltakesS h) * 1000000)) + h.Every)) - 1)).tdiv h.Every))))) ?_; intro me fB; clear fA
  refine qnl (fq _ ?_); clear fq jl; intro mf fC; clear fo
  refine ibn ?_
  refine thn ?_
  refine rgB fB fC [] [] [(69, i6 (w64 (N + 1)))] ?_; intro mg jp; clear fB
  refine rd ?_
  exact ⟨⟨w64 (M + (w64 ((w64 ((w64 ((w64 ((ltakesS h) * 1000000)) + h.Every)) - 1)).tdiv h.Every))), w64 (N + 1)⟩, fx.1, fx.2, (jp.reg).anyβ _ (by kernel_rfl), fC.keep (List.Sublist.cons _ (List.Sublist.cons_cons _ (List.Sublist.slnil)))⟩
 have jq := bb.2 bY; clear bb
 refine wp_exit ?_
 refine thx ?_
 refine thx ?_
 refine ibx ?_
 refine rd ?_
 exact fQ M jq _ _ ((bc.reg).anyβ _ (by kernel_rfl)) (ay.keep (List.Sublist.cons_cons _ (List.Sublist.slnil)))

end Go.Proofs.YtginlmgkimfjmaaDoor
