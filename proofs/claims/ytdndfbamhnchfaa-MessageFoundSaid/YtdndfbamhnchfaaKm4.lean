/- Texts put together (pure ones, or walks made by program). -/
import Derived.Test.YtdndfbamhnchfaaKm0
import Derived.Test.YtdndfbamhnchfaaKm1
import Derived.Test.YtdndfbamhnchfaaKm2
import Derived.Test.YtdndfbamhnchfaaKm3
set_option linter.unusedVariables false
set_option linter.unusedSimpArgs false
set_option maxRecDepth 100000
set_option maxHeartbeats 0
namespace Go.Proofs.Ytdndfbamhnchfaa
open Go.Sy Go.RowKit
abbrev e53Mh (X : Frame) (A0 : Option Addr) (C0 : Nat) : List Value := [i6 X.ID, .bool X.Long, .bool X.Fast, .bool X.Remote, i6 X.Size, .slice A0 X.Data.length C0]
abbrev e51Mh (X : Message) (A0 : Option Addr) (C0 : Nat) : List Value := [i6 X.ID, .bool X.Long, str X.Name, i6 X.Size, i6 X.Chooser, .slice A0 X.Signals.length C0]
theorem mfind_fun (u0 : List Message) (u1 : Frame) (ao1 : Option Addr) (cap2 : Nat) (ao4 : Option Addr) (cap5 : Nat) (Z : Fz) (w : World) (hs3 : SlR tyMessage Z ao1 cap2 u0) (hs6 : SlR t8 Z ao4 cap5 u1.Data) (hZ : Z.on w) : Calls Try.prog 22 #[.slice ao1 u0.length cap2, .agg #[i6 u1.ID, .bool u1.Long, .bool u1.Fast, .bool u1.Remote, i6 u1.Size, .slice ao4 u1.Data.length cap5]] w fun e w' => e = .returned (.tuple #[i6 (mfindS u0 u1).1, i6 (mfindS u0 u1).2]) ∧ Below w.heap.size w w' :=
  (mfind_walk u0 u1 ao1 cap2 ao4 cap5 Z w hs3 hs6 hZ (mfind_ok u0 u1)).mono fun _ _ ⟨r, he, hk, hb⟩ => ⟨by subst hk; exact he, hb⟩

theorem LFound_walk (u0 : List Message) (u1 : Frame) (ao1 : Option Addr) (cap2 : Nat) (ao4 : Option Addr) (cap5 : Nat) (Z : Fz) (w : World) (hs3 : SlR tyMessage Z ao1 cap2 u0) (hs6 : SlR t8 Z ao4 cap5 u1.Data) (hZ : Z.on w) {K : Bool → Prop} (hp : LFound_vc u0 u1 K) : Calls Try.prog 6 #[.slice ao1 u0.length cap2, .agg #[i6 u1.ID, .bool u1.Long, .bool u1.Fast, .bool u1.Remote, i6 u1.Size, .slice ao4 u1.Data.length cap5]] w fun e w' => ∃ r : Bool, e = .returned (.bool r) ∧ K r ∧ Below w.heap.size w w' := by
 refine enter0 Try.func6 rfl rfl (by kernel_rfl) ?_; intro a0 az; have aA := Mem.start w Z hZ; have de := Fz.le.refl Z
 have aB := hp (hs3.small); clear hp
 have A := aB (hs6.small); clear aB
 refine sqH ?_; intro cn aC
 refine nw az aA pb (e53Mh u1 ao4 cap5) 53 ?_; intro j df dg aD B; clear az aA
 refine s1 aD 4 (.bool false) ?_; intro dh aE; clear aD
 refine nlH (aC _ _ ?_); clear aC cn
 refine sqH ?_; intro co aF
 refine bt aE B 2 [0] [] [(11, .slice ao1 u0.length cap2), (12, .agg (e53Mh u1 ao4 cap5).toArray)] ?_; intro di aG; clear aE
 refine fc aG B (mfind_fun u0 u1 ao1 cap2 ao4 cap5 _ _ hs3 hs6 B.fz) ?_; intro dj dk aH C; clear aG B
 refine bt aH C 5 [] [] [(5, i6 (mfindS u0 u1).1), (6, i6 (mfindS u0 u1).2)] ?_; intro dl aI; clear aH
 refine nlH (aF _ _ ?_); clear aF co
 refine wp_seq ?_
 refine sqH ?_; intro cp aJ
 refine fc aI C (meant_fun  _ _ C.fz) ?_; intro dm dn aK q; clear aI C
 refine bt aK q 5 [] [19, 20, 21] [(21, .bool ((mfindS u0 u1).2 != 0))] ?_; intro dp x; clear aK
 refine nlH (aJ _ _ ?_); clear aJ cp
 refine cd x (t := (mfindS u0 u1).2 != 0) (by kernel_rfl) (fun ab => ?_) (fun ab => ?_)
 · -- yes
  have cq := A.1 ab; clear A
  refine sqH ?_; intro cr aL
  refine fc x q (meant_fun  _ _ q.fz) ?_; intro dq dr aM ct; clear x q
  refine s1 aM 4 (.bool true) ?_; intro ds cu; clear aM
  refine nlH (aL _ _ ?_); clear aL cr
  refine wp_ret ?_
  refine thr ?_
  refine ra1 cu (.bool true) ?_
  exact ⟨true, rfl, cq, ct.below⟩
 · -- no
  have cv := A.2 ab; clear A
  refine wp_skip ?_
  refine thn ?_
  refine sqB x q [] [] [(7, i6 0)] ?_; intro dt aN; clear x
  refine wp_seq ?_
  refine sqB aN q [] [] [(23, .slice ao1 u0.length cap2), (24, i6 (u0.length : Int)), (25, i6 0)] ?_; intro aO aP; clear aN
  refine wp_block ?_
  have aQ : Fr 73 [] [⟨0, [], .slice ao1 u0.length cap2⟩, ⟨3, [], pt j 0⟩, ⟨5, [], i6 (mfindS u0 u1).1⟩, ⟨7, [], i6 0⟩, ⟨23, [], .slice ao1 u0.length cap2⟩, ⟨24, [], i6 (u0.length : Int)⟩, ⟨25, [], i6 0⟩] aO := aP.region (by kernel_rfl) (by kernel_rfl); clear aP
  have aR : Fr 73 [] [⟨0, [], .slice ao1 u0.length cap2⟩, ⟨3, [], pt j 0⟩, ⟨5, [], i6 (mfindS u0 u1).1⟩, ⟨7, [], i6 0⟩, ⟨23, [], .slice ao1 u0.length cap2⟩, ⟨24, [], i6 (u0.length : Int)⟩, ⟨25, [], i6 0⟩] aO := aQ.region (by kernel_rfl) (by kernel_rfl); clear aQ
  obtain ⟨cw, cx, cy, cz⟩ := cv
  refine lp (ι := Int × Int) (fun s => [⟨0, [], .slice ao1 u0.length cap2⟩, ⟨3, [], pt j 0⟩, ⟨5, [], i6 (mfindS u0 u1).1⟩, ⟨7, [], i6 s.1⟩, ⟨23, [], .slice ao1 u0.length cap2⟩, ⟨24, [], i6 (u0.length : Int)⟩, ⟨25, [], i6 s.2⟩]) (fun s => [.row j (e53Mh u1 ao4 cap5) 53]) (fun s => Z) (fun s => cw s.1 s.2) (fun s => cx s.1 s.2) ⟨0, 0⟩ cy (by exact aR.region (by kernel_rfl) (by kernel_rfl)) (by exact q) ?_
  rintro ⟨a, l⟩ cA cB cC aS aT
  have aU : Fr 73 [] [⟨0, [], .slice ao1 u0.length cap2⟩, ⟨3, [], pt j 0⟩, ⟨5, [], i6 (mfindS u0 u1).1⟩, ⟨7, [], i6 a⟩, ⟨23, [], .slice ao1 u0.length cap2⟩, ⟨24, [], i6 (u0.length : Int)⟩, ⟨25, [], i6 l⟩] cB := aS; clear aS aR
  have n : Mem w.heap.size [] w Z [.row j (e53Mh u1 ao4 cap5) 53] Z cC := aT; clear aT q
  have D := cz a l cA
  refine sqB aU n [] [] [(26, .bool (decide (l < (u0.length : Int))))] ?_; intro ac y; clear aU
  refine wp_seq ?_
  refine cd y (t := decide (l < (u0.length : Int))) (by kernel_rfl) (fun ad => ?_) (fun ad => ?_)
  · -- yes
   have cD := D.1 ad; clear D
   refine wp_skip ?_
   refine thn ?_
   have aV : Fr 73 [] [⟨0, [], .slice ao1 u0.length cap2⟩, ⟨3, [], pt j 0⟩, ⟨5, [], i6 (mfindS u0 u1).1⟩, ⟨7, [], i6 a⟩, ⟨23, [], .slice ao1 u0.length cap2⟩, ⟨24, [], i6 (u0.length : Int)⟩, ⟨25, [], i6 l⟩] ac := y.region (by kernel_rfl) (by kernel_rfl); clear y
   have ae : Fr 73 [] [⟨0, [], .slice ao1 u0.length cap2⟩, ⟨3, [], pt j 0⟩, ⟨5, [], i6 (mfindS u0 u1).1⟩, ⟨7, [], i6 a⟩, ⟨23, [], .slice ao1 u0.length cap2⟩, ⟨24, [], i6 (u0.length : Int)⟩, ⟨25, [], i6 l⟩] ac := aV.region (by kernel_rfl) (by kernel_rfl); clear aV
   obtain ⟨cE, cF, cG⟩ := cD
   refine wp_seq_k fun KJ95 hKJ96 => ?_
   have aW : ∀ (z : Int), cE z → ∀ a1 w1, Fr 73 [] [⟨0, [], .slice ao1 u0.length cap2⟩, ⟨3, [], pt j 0⟩, ⟨5, [], i6 (mfindS u0 u1).1⟩, ⟨7, [], i6 z⟩, ⟨23, [], .slice ao1 u0.length cap2⟩, ⟨24, [], i6 (u0.length : Int)⟩, ⟨25, [], i6 l⟩] a1 → Mem w.heap.size [] w Z [.row j (e53Mh u1 ao4 cap5) 53] Z w1 → KJ95 a1 w1 := by
    rintro z cH du dv aX aY; clear ae n
    refine hKJ96 _ _ ?_; clear hKJ96
    have aZ := cG z cH
    refine rgB aX aY [] [] [(25, i6 (w64 (l + 1)))] ?_; intro dw cI; clear aX
    refine rd ?_
    exact ⟨⟨z, w64 (l + 1)⟩, aZ.1, aZ.2, (cI.region (by kernel_rfl) (by kernel_rfl)).anyβ _ (by kernel_rfl), aY.keep (List.Sublist.cons_cons _ (List.Sublist.slnil))⟩
   refine wp_block ?_
   refine sqH ?_; intro cJ a2
   obtain ⟨cK, a3⟩ := cF
   refine ix ae (T := tyMessage) (xs := u0) hs3 l cK (k := .i64) (e := 51) (bytes := 72) (nog rfl _) rfl (by kernel_rfl) rfl (by kernel_rfl) (by kernel_rfl) (by kernel_rfl) ?_; intro dx dy dz h dA cL cM cN a4; clear ae
   have a5 := a3 h cL; clear a3
   obtain ⟨af, ag, rfl, cO⟩ := cN
   have E := a5 (cO.small); clear a5
   refine z2 a4 n 28 cM 0 6 (e51Mh h af ag) rfl ?_; intro dB a6; clear a4
   refine nw a6 n pb [i6 0, .bool false, str [], i6 0, i6 0, .slice none 0 0] 51 ?_; intro cP dC dD ah a7; clear a6 n
   refine sx ah a7 0 (e51Mh h af ag) 0 ?_; intro cQ a8; clear a7
   have F : Mem w.heap.size [] w Z [.row cP (e51Mh h af ag) 51, .row j (e53Mh u1 ao4 cap5) 53] Z cQ := a8; clear a8
   refine nlH (a2 _ _ ?_); clear a2 cJ
   refine sqB ah F [0, 1, 0, 1] [] [(40, .bool ((h.ID == u1.ID) && (h.Long == u1.Long)))] ?_; intro dE G; clear ah
   refine cd G (t := (h.ID == u1.ID) && (h.Long == u1.Long)) (by kernel_rfl) (fun ai => ?_) (fun ai => ?_)
   · -- yes
    have cR := E.1 ai; clear E
    refine rgB G F [] [] [(7, i6 (w64 (a + 1)))] ?_; intro dF cS; clear G
    refine ibn ?_
    refine rd ?_
    exact aW (w64 (a + 1)) cR _ _ ((cS.region (by kernel_rfl) (by kernel_rfl)).anyβ _ (by kernel_rfl)) (F.keep (List.Sublist.cons _ (List.Sublist.cons_cons _ (List.Sublist.slnil))))
   · -- no
    have cT := E.2 ai; clear E
    refine wp_skip ?_
    refine ibn ?_
    refine rd ?_
    exact aW a cT _ _ ((G.region (by kernel_rfl) (by kernel_rfl)).anyβ _ (by kernel_rfl)) (F.keep (List.Sublist.cons _ (List.Sublist.cons_cons _ (List.Sublist.slnil))))
  · -- no
   have H := D.2 ad; clear D
   refine wp_exit ?_
   refine thx ?_
   refine thx ?_
   refine ibx ?_
   refine thn ?_
   have a9 : Fr 73 [] [⟨0, [], .slice ao1 u0.length cap2⟩, ⟨3, [], pt j 0⟩, ⟨5, [], i6 (mfindS u0 u1).1⟩, ⟨7, [], i6 a⟩] ac := y.region (by kernel_rfl) (by kernel_rfl); clear y
   refine sqQH mixed (by kernel_rfl) n ?_; intro I u
   refine q1 a9 44 (i6 (mfindS u0 u1).1) ?_; intro dG ba; clear a9
   refine q1 ba 45 (.bool (decide ((mfindS u0 u1).1 ≥ 0))) ?_; intro dH bb; clear ba
   refine q1 bb 46 (i6 a) ?_; intro dI bc; clear bb
   refine q1 bc 47 (.bool (a == 1)) ?_; intro dJ bd; clear bc
   refine q1 bd 48 (.bool ((decide ((mfindS u0 u1).1 ≥ 0)) == (a == 1))) ?_; intro dK be; clear bd
   refine q1 be 49 (.bool ((decide ((mfindS u0 u1).1 ≥ 0)) == (a == 1))) ?_; intro dL bf; clear be
   have aj := bf.atom (((decide ((mfindS u0 u1).1 ≥ 0)) == (a == 1)) == true) (by kernel_rfl); clear bf
   refine qgd aj (i6 a) (m := 0) (cj := []) (bj := (decide ((mfindS u0 u1).1 ≥ 0)) == (a == 1)) rfl rfl (by kernel_rfl) rfl (by kernel_rfl) (by kernel_rfl) (by kernel_rfl) (fun hg => qat_ok (fun v194 hC => pu aj (g := [0]) (by kernel_rfl) hg)) ?_; intro dM ak; clear aj
   refine qgd ak (.bool (decide (a ≤ 1))) (m := 0) (cj := []) (bj := (decide ((mfindS u0 u1).1 ≥ 0)) == (a == 1)) rfl rfl (by kernel_rfl) rfl (by kernel_rfl) (by kernel_rfl) (by kernel_rfl) (fun hg => qat_ok (fun v197 hC => pu ak (g := [0]) (by kernel_rfl) hg)) ?_; intro dN al; clear ak
   refine qst al (.bool (((decide ((mfindS u0 u1).1 ≥ 0)) == (a == 1)) && (decide (a ≤ 1)))) (nog rfl _) rfl (by kernel_rfl) (fun v200 hC => pk_and al (g := []) (m := 0) (b := (decide ((mfindS u0 u1).1 ≥ 0)) == (a == 1)) (v := decide (a ≤ 1)) rfl (by kernel_rfl) (by kernel_rfl) (by kernel_rfl) rfl) ?_; intro dO bg; clear al
   refine q1 bg 53 (.bool (((decide ((mfindS u0 u1).1 ≥ 0)) == (a == 1)) && (decide (a ≤ 1)))) ?_; intro dP bh; clear bg
   have am := bh.atom ((((decide ((mfindS u0 u1).1 ≥ 0)) == (a == 1)) && (decide (a ≤ 1))) == true) (by kernel_rfl); clear bh
   refine qgd am (i6 (mfindS u0 u1).1) (m := 1) (cj := []) (bj := ((decide ((mfindS u0 u1).1 ≥ 0)) == (a == 1)) && (decide (a ≤ 1))) rfl rfl (by kernel_rfl) rfl (by kernel_rfl) (by kernel_rfl) (by kernel_rfl) (fun hg => qat_ok (fun v207 hC => pu am (g := [1]) (by kernel_rfl) hg)) ?_; intro dQ an; clear am
   refine qgd an (.bool (decide ((mfindS u0 u1).1 < 0))) (m := 1) (cj := []) (bj := ((decide ((mfindS u0 u1).1 ≥ 0)) == (a == 1)) && (decide (a ≤ 1))) rfl rfl (by kernel_rfl) rfl (by kernel_rfl) (by kernel_rfl) (by kernel_rfl) (fun hg => qat_ok (fun v210 hC => pu an (g := [1]) (by kernel_rfl) hg)) ?_; intro dR ao; clear an
   refine qgd ao (.bool (decide ((mfindS u0 u1).1 < 0))) (m := 1) (cj := []) (bj := ((decide ((mfindS u0 u1).1 ≥ 0)) == (a == 1)) && (decide (a ≤ 1))) rfl rfl (by kernel_rfl) rfl (by kernel_rfl) (by kernel_rfl) (by kernel_rfl) (fun hg => qat_ok (fun v213 hC => pu ao (g := [1]) (by kernel_rfl) hg)) ?_; intro dS bi; clear ao
   have ap := bi.atom ((decide ((mfindS u0 u1).1 < 0)) == false) (by kernel_rfl); clear bi
   refine qgd ap (i6 (mfindS u0 u1).1) (m := 2) (cj := [1]) (bj := decide ((mfindS u0 u1).1 < 0)) rfl rfl (by kernel_rfl) rfl (by kernel_rfl) (by kernel_rfl) (by kernel_rfl) (fun hg => qat_ok (fun v217 hC => pu ap (g := [2, 1]) (by kernel_rfl) hg)) ?_; intro dT aq; clear ap
   refine qgd aq (.slice ao1 u0.length cap2) (m := 2) (cj := [1]) (bj := decide ((mfindS u0 u1).1 < 0)) rfl rfl (by kernel_rfl) rfl (by kernel_rfl) (by kernel_rfl) (by kernel_rfl) (fun hg => qat_ok (fun v220 hC => pu aq (g := [2, 1]) (by kernel_rfl) hg)) ?_; intro dU ar; clear aq
   refine qgd ar (i6 (u0.length : Int)) (m := 2) (cj := [1]) (bj := decide ((mfindS u0 u1).1 < 0)) rfl rfl (by kernel_rfl) rfl (by kernel_rfl) (by kernel_rfl) (by kernel_rfl) (fun hg => qat_ok (fun v223 hC => pu ar (g := [2, 1]) (by kernel_rfl) hg)) ?_; intro dV au; clear ar
   refine qgd au (.bool (decide ((mfindS u0 u1).1 < (u0.length : Int)))) (m := 2) (cj := [1]) (bj := decide ((mfindS u0 u1).1 < 0)) rfl rfl (by kernel_rfl) rfl (by kernel_rfl) (by kernel_rfl) (by kernel_rfl) (fun hg => qat_ok (fun v226 hC => pu au (g := [2, 1]) (by kernel_rfl) hg)) ?_; intro dW av; clear au
   refine qgd av (.bool (decide ((mfindS u0 u1).1 < (u0.length : Int)))) (m := 2) (cj := [1]) (bj := decide ((mfindS u0 u1).1 < 0)) rfl rfl (by kernel_rfl) rfl (by kernel_rfl) (by kernel_rfl) (by kernel_rfl) (fun hg => qat_ok (fun v229 hC => pu av (g := [2, 1]) (by kernel_rfl) hg)) ?_; intro dX bk; clear av
   have aw := bk.atom ((decide ((mfindS u0 u1).1 < (u0.length : Int))) == true) (by kernel_rfl); clear bk
   refine qgd aw (.slice ao1 u0.length cap2) (m := 3) (cj := [2, 1]) (bj := decide ((mfindS u0 u1).1 < (u0.length : Int))) rfl rfl (by kernel_rfl) rfl (by kernel_rfl) (by kernel_rfl) (by kernel_rfl) (fun hg => qat_ok (fun v233 hC => pu aw (g := [3, 2, 1]) (by kernel_rfl) hg)) ?_; intro dY ax; clear aw
   refine qgd ax (i6 (mfindS u0 u1).1) (m := 3) (cj := [2, 1]) (bj := decide ((mfindS u0 u1).1 < (u0.length : Int))) rfl rfl (by kernel_rfl) rfl (by kernel_rfl) (by kernel_rfl) (by kernel_rfl) (fun hg => qat_ok (fun v236 hC => pu ax (g := [3, 2, 1]) (by kernel_rfl) hg)) ?_; intro dZ J; clear ax
   rcases Bool.eq_false_or_eq_true (((decide ((mfindS u0 u1).1 ≥ 0)) == (a == 1)) && (decide (a ≤ 1))) with f | f
   · -- true
    have L := H.1 f; clear H
    have bl := J.reval (d := 53) (c := []) (v := .bool (((decide ((mfindS u0 u1).1 ≥ 0)) == (a == 1)) && (decide (a ≤ 1)))) (by kernel_rfl) (.bool true) (by rw [f]); clear J
    have bm := bl.setc (d := 54) (c := [1]) (v := i6 (mfindS u0 u1).1) (by kernel_rfl) (v' := i6 (mfindS u0 u1).1) (by rw [f]; kernel_rfl); clear bl
    have bn := bm.setc (d := 55) (c := [1]) (v := .bool (decide ((mfindS u0 u1).1 < 0))) (by kernel_rfl) (v' := .bool (decide ((mfindS u0 u1).1 < 0))) (by rw [f]; kernel_rfl); clear bm
    have M := bn.setc (d := 56) (c := [1]) (v := .bool (decide ((mfindS u0 u1).1 < 0))) (by kernel_rfl) (v' := .bool (decide ((mfindS u0 u1).1 < 0))) (by rw [f]; kernel_rfl); clear bn
    rcases Bool.eq_false_or_eq_true (decide ((mfindS u0 u1).1 < 0)) with i | i
    · -- true
     have cU := L.1 i; clear L
     have bo := M.reval (d := 56) (c := []) (v := .bool (decide ((mfindS u0 u1).1 < 0))) (by kernel_rfl) (.bool true) (by rw [i]); clear M
     have bp := bo.setc (d := 57) (c := [2, 1]) (v := i6 (mfindS u0 u1).1) (by kernel_rfl) (v' := undef) (by rw [i, f]; kernel_rfl); clear bo
     have bq := bp.setc (d := 58) (c := [2, 1]) (v := .slice ao1 u0.length cap2) (by kernel_rfl) (v' := undef) (by rw [i, f]; kernel_rfl); clear bp
     have br := bq.setc (d := 59) (c := [2, 1]) (v := i6 (u0.length : Int)) (by kernel_rfl) (v' := undef) (by rw [i, f]; kernel_rfl); clear bq
     have bs := br.setc (d := 60) (c := [2, 1]) (v := .bool (decide ((mfindS u0 u1).1 < (u0.length : Int)))) (by kernel_rfl) (v' := undef) (by rw [i, f]; kernel_rfl); clear br
     have bu := bs.setc (d := 61) (c := [2, 1]) (v := .bool (decide ((mfindS u0 u1).1 < (u0.length : Int)))) (by kernel_rfl) (v' := undef) (by rw [i, f]; kernel_rfl); clear bs
     have bv := bu.setu (d := 62) (c := [3, 2, 1]) (v := .slice ao1 u0.length cap2) (by kernel_rfl) 2 (by kernel_rfl) (by rw [i]; kernel_rfl); clear bu
     have bw := bv.setu (d := 63) (c := [3, 2, 1]) (v := i6 (mfindS u0 u1).1) (by kernel_rfl) 2 (by kernel_rfl) (by rw [i]; kernel_rfl); clear bv
     refine qsku bw rfl rfl (by kernel_rfl) (by kernel_rfl) rfl (by kernel_rfl) ?_; intro d0 bx; clear bw
     refine qsku bx rfl rfl (by kernel_rfl) (by kernel_rfl) rfl (by kernel_rfl) ?_; intro d1 bz; clear bx
     refine qsku bz rfl rfl (by kernel_rfl) (by kernel_rfl) rfl (by kernel_rfl) ?_; intro d2 bA; clear bz
     refine qsku bA rfl rfl (by kernel_rfl) (by kernel_rfl) rfl (by kernel_rfl) ?_; intro d3 bB; clear bA
     refine qsku bB rfl rfl (by kernel_rfl) (by kernel_rfl) rfl (by kernel_rfl) ?_; intro d4 bC; clear bB
     refine qsku bC rfl rfl (by kernel_rfl) (by kernel_rfl) rfl (by kernel_rfl) ?_; intro d5 bD; clear bC
     refine qsk bD (b := true) rfl rfl (by kernel_rfl) (by kernel_rfl) rfl rfl (by kernel_rfl) ?_; intro d6 N; clear bD
     refine qst N (.bool true) (by rw [wanted_of N (b := true) rfl rfl (by kernel_rfl) (by kernel_rfl)]; rfl) rfl (by kernel_rfl) (fun v269 hC => p0 N (by kernel_rfl)) ?_; intro d7 bE; clear N
     refine q1 bE 72 (.bool true) ?_; intro d8 bF; clear bE
     refine q1 bF 4 (.bool true) ?_; intro d9 cV; clear bF
     refine qnl (u _ ?_); clear u I; intro ea cW; clear n
     refine wp_ret ?_
     refine ra1 cV (.bool true) ?_
     exact ⟨true, rfl, cU, cW.below⟩
    · -- false
     have O := L.2 i; clear L
     have bG := M.reval (d := 56) (c := []) (v := .bool (decide ((mfindS u0 u1).1 < 0))) (by kernel_rfl) (.bool false) (by rw [i]); clear M
     have bH := bG.setc (d := 57) (c := [2, 1]) (v := i6 (mfindS u0 u1).1) (by kernel_rfl) (v' := i6 (mfindS u0 u1).1) (by rw [i, f]; kernel_rfl); clear bG
     have bI := bH.setc (d := 58) (c := [2, 1]) (v := .slice ao1 u0.length cap2) (by kernel_rfl) (v' := .slice ao1 u0.length cap2) (by rw [i, f]; kernel_rfl); clear bH
     have bJ := bI.setc (d := 59) (c := [2, 1]) (v := i6 (u0.length : Int)) (by kernel_rfl) (v' := i6 (u0.length : Int)) (by rw [i, f]; kernel_rfl); clear bI
     have bK := bJ.setc (d := 60) (c := [2, 1]) (v := .bool (decide ((mfindS u0 u1).1 < (u0.length : Int)))) (by kernel_rfl) (v' := .bool (decide ((mfindS u0 u1).1 < (u0.length : Int)))) (by rw [i, f]; kernel_rfl); clear bJ
     have P := bK.setc (d := 61) (c := [2, 1]) (v := .bool (decide ((mfindS u0 u1).1 < (u0.length : Int)))) (by kernel_rfl) (v' := .bool (decide ((mfindS u0 u1).1 < (u0.length : Int)))) (by rw [i, f]; kernel_rfl); clear bK
     rcases Bool.eq_false_or_eq_true (decide ((mfindS u0 u1).1 < (u0.length : Int))) with o | o
     · -- true
      have cX := O.1 o; clear O
      have bL := P.reval (d := 61) (c := []) (v := .bool (decide ((mfindS u0 u1).1 < (u0.length : Int)))) (by kernel_rfl) (.bool true) (by rw [o]); clear P
      have bM := bL.setc (d := 62) (c := [3, 2, 1]) (v := .slice ao1 u0.length cap2) (by kernel_rfl) (v' := .slice ao1 u0.length cap2) (by rw [o, i, f]; kernel_rfl); clear bL
      have ay := bM.setc (d := 63) (c := [3, 2, 1]) (v := i6 (mfindS u0 u1).1) (by kernel_rfl) (v' := i6 (mfindS u0 u1).1) (by rw [o, i, f]; kernel_rfl); clear bM
      obtain ⟨cY, bN⟩ := cX
      refine qix ay (T := tyMessage) (xs := u0) hs3 (mfindS u0 u1).1 cY (k := .i64) (e := 51) (bytes := 72) (by rw [wanted_of ay (b := true) rfl rfl (by kernel_rfl) (by kernel_rfl)]; rfl) rfl (by kernel_rfl) rfl (by kernel_rfl) (by kernel_rfl) (by kernel_rfl) ?_; intro cZ c0 eb p ec c1 c2 c3 Q; clear ay
      have bO := bN p c1; clear bN
      obtain ⟨ed, ee, rfl, c4⟩ := c3
      have c5 := bO (c4.small); clear bO
      refine qst Q (pt cZ c0) (by rw [wanted_of Q (b := true) rfl rfl (by kernel_rfl) (by kernel_rfl)]; rfl) rfl (by kernel_rfl) (fun v309 hC => p0 Q (by kernel_rfl)) ?_; intro ef R; clear Q
      refine qst R (i6 p.ID) (by rw [wanted_of R (b := true) rfl rfl (by kernel_rfl) (by kernel_rfl)]; rfl) rfl (by kernel_rfl) (fun v312 hC => lz R hC.fz c2 0 (g := []) rfl (by kernel_rfl) (by kernel_rfl) (by kernel_rfl) rfl) ?_; intro eg S; clear R
      refine qst S (pt j 0) (by rw [wanted_of S (b := true) rfl rfl (by kernel_rfl) (by kernel_rfl)]; rfl) rfl (by kernel_rfl) (fun v315 hC => p0 S (by kernel_rfl)) ?_; intro eh U; clear S
      refine qst U (i6 u1.ID) (by rw [wanted_of U (b := true) rfl rfl (by kernel_rfl) (by kernel_rfl)]; rfl) rfl (by kernel_rfl) (fun v318 hC => ld U hC 0 (g := []) (b := j) (off := 0) (cs := (e53Mh u1 ao4 cap5)) (ty := 53) rfl (by kernel_rfl) (by kernel_rfl) (by kernel_rfl) (by kernel_rfl) rfl) ?_; intro ei V; clear U
      refine qst V (.bool (p.ID == u1.ID)) (by rw [wanted_of V (b := true) rfl rfl (by kernel_rfl) (by kernel_rfl)]; rfl) rfl (by kernel_rfl) (fun v321 hC => p0 V (by kernel_rfl)) ?_; intro ej W; clear V
      refine qst W (.bool (p.ID == u1.ID)) (by rw [wanted_of W (b := false) rfl rfl (by kernel_rfl) (by kernel_rfl)]; rfl) rfl (by kernel_rfl) (fun v324 hC => p0 W (by kernel_rfl)) ?_; intro ek X; clear W
      refine qst X (.bool (p.ID == u1.ID)) (by rw [wanted_of X (b := true) rfl rfl (by kernel_rfl) (by kernel_rfl)]; rfl) rfl (by kernel_rfl) (fun v327 hC => p0 X (by kernel_rfl)) ?_; intro el bP; clear X
      refine q1 bP 72 (.bool (p.ID == u1.ID)) ?_; intro em bQ; clear bP
      refine q1 bQ 4 (.bool (p.ID == u1.ID)) ?_; intro en c6; clear bQ
      refine qnl (u _ ?_); clear u I; intro eo c7; clear n
      refine wp_ret ?_
      refine ra1 c6 (.bool (p.ID == u1.ID)) ?_
      exact ⟨p.ID == u1.ID, rfl, c5, c7.below⟩
     · -- false
      have c8 := O.2 o; clear O
      have bR := P.reval (d := 61) (c := []) (v := .bool (decide ((mfindS u0 u1).1 < (u0.length : Int)))) (by kernel_rfl) (.bool false) (by rw [o]); clear P
      have bS := bR.setc (d := 62) (c := [3, 2, 1]) (v := .slice ao1 u0.length cap2) (by kernel_rfl) (v' := undef) (by rw [o, i, f]; kernel_rfl); clear bR
      have bT := bS.setc (d := 63) (c := [3, 2, 1]) (v := i6 (mfindS u0 u1).1) (by kernel_rfl) (v' := undef) (by rw [o, i, f]; kernel_rfl); clear bS
      refine qsk bT (b := false) rfl rfl (by kernel_rfl) (by kernel_rfl) rfl rfl (by kernel_rfl) ?_; intro ep bU; clear bT
      refine qsk bU (b := false) rfl rfl (by kernel_rfl) (by kernel_rfl) rfl rfl (by kernel_rfl) ?_; intro eq bV; clear bU
      refine qsk bV (b := false) rfl rfl (by kernel_rfl) (by kernel_rfl) rfl rfl (by kernel_rfl) ?_; intro er bW; clear bV
      refine qsk bW (b := false) rfl rfl (by kernel_rfl) (by kernel_rfl) rfl rfl (by kernel_rfl) ?_; intro es bX; clear bW
      refine qsk bX (b := false) rfl rfl (by kernel_rfl) (by kernel_rfl) rfl rfl (by kernel_rfl) ?_; intro et bY; clear bX
      refine qsk bY (b := false) rfl rfl (by kernel_rfl) (by kernel_rfl) rfl rfl (by kernel_rfl) ?_; intro eu Y; clear bY
      refine qst Y (.bool false) (by rw [wanted_of Y (b := false) rfl rfl (by kernel_rfl) (by kernel_rfl)]; rfl) rfl (by kernel_rfl) (fun v354 hC => p0 Y (by kernel_rfl)) ?_; intro ev aa; clear Y
      refine qst aa (.bool false) (by rw [wanted_of aa (b := true) rfl rfl (by kernel_rfl) (by kernel_rfl)]; rfl) rfl (by kernel_rfl) (fun v357 hC => p0 aa (by kernel_rfl)) ?_; intro ew bZ; clear aa
      refine q1 bZ 72 (.bool false) ?_; intro ex b0; clear bZ
      refine q1 b0 4 (.bool false) ?_; intro ey c9; clear b0
      refine qnl (u _ ?_); clear u I; intro ez da; clear n
      refine wp_ret ?_
      refine ra1 c9 (.bool false) ?_
      exact ⟨false, rfl, c8, da.below⟩
   · -- false
    have db := H.2 f; clear H
    have b1 := J.reval (d := 53) (c := []) (v := .bool (((decide ((mfindS u0 u1).1 ≥ 0)) == (a == 1)) && (decide (a ≤ 1)))) (by kernel_rfl) (.bool false) (by rw [f]); clear J
    have b2 := b1.setc (d := 54) (c := [1]) (v := i6 (mfindS u0 u1).1) (by kernel_rfl) (v' := undef) (by rw [f]; kernel_rfl); clear b1
    have b3 := b2.setc (d := 55) (c := [1]) (v := .bool (decide ((mfindS u0 u1).1 < 0))) (by kernel_rfl) (v' := undef) (by rw [f]; kernel_rfl); clear b2
    have b4 := b3.setc (d := 56) (c := [1]) (v := .bool (decide ((mfindS u0 u1).1 < 0))) (by kernel_rfl) (v' := undef) (by rw [f]; kernel_rfl); clear b3
    have b5 := b4.setu (d := 57) (c := [2, 1]) (v := i6 (mfindS u0 u1).1) (by kernel_rfl) 1 (by kernel_rfl) (by rw [f]; kernel_rfl); clear b4
    have b6 := b5.setu (d := 58) (c := [2, 1]) (v := .slice ao1 u0.length cap2) (by kernel_rfl) 1 (by kernel_rfl) (by rw [f]; kernel_rfl); clear b5
    have b7 := b6.setu (d := 59) (c := [2, 1]) (v := i6 (u0.length : Int)) (by kernel_rfl) 1 (by kernel_rfl) (by rw [f]; kernel_rfl); clear b6
    have b8 := b7.setu (d := 60) (c := [2, 1]) (v := .bool (decide ((mfindS u0 u1).1 < (u0.length : Int)))) (by kernel_rfl) 1 (by kernel_rfl) (by rw [f]; kernel_rfl); clear b7
    have b9 := b8.setu (d := 61) (c := [2, 1]) (v := .bool (decide ((mfindS u0 u1).1 < (u0.length : Int)))) (by kernel_rfl) 1 (by kernel_rfl) (by rw [f]; kernel_rfl); clear b8
    have ca := b9.setu (d := 62) (c := [3, 2, 1]) (v := .slice ao1 u0.length cap2) (by kernel_rfl) 1 (by kernel_rfl) (by rw [f]; kernel_rfl); clear b9
    have cb := ca.setu (d := 63) (c := [3, 2, 1]) (v := i6 (mfindS u0 u1).1) (by kernel_rfl) 1 (by kernel_rfl) (by rw [f]; kernel_rfl); clear ca
    refine qsku cb rfl rfl (by kernel_rfl) (by kernel_rfl) rfl (by kernel_rfl) ?_; intro eA cc; clear cb
    refine qsku cc rfl rfl (by kernel_rfl) (by kernel_rfl) rfl (by kernel_rfl) ?_; intro eB ce; clear cc
    refine qsku ce rfl rfl (by kernel_rfl) (by kernel_rfl) rfl (by kernel_rfl) ?_; intro eC cf; clear ce
    refine qsku cf rfl rfl (by kernel_rfl) (by kernel_rfl) rfl (by kernel_rfl) ?_; intro eD cg; clear cf
    refine qsku cg rfl rfl (by kernel_rfl) (by kernel_rfl) rfl (by kernel_rfl) ?_; intro eE ch; clear cg
    refine qsku ch rfl rfl (by kernel_rfl) (by kernel_rfl) rfl (by kernel_rfl) ?_; intro eF ci; clear ch
    refine qsku ci rfl rfl (by kernel_rfl) (by kernel_rfl) rfl (by kernel_rfl) ?_; intro eG ck; clear ci
    refine qsk ck (b := false) rfl rfl (by kernel_rfl) (by kernel_rfl) rfl rfl (by kernel_rfl) ?_; intro eH cl; clear ck
    refine q1 cl 72 (.bool false) ?_; intro eI cm; clear cl
    refine q1 cm 4 (.bool false) ?_; intro eJ dc; clear cm
    refine qnl (u _ ?_); clear u I; intro eK dd; clear n
    refine wp_ret ?_
    refine ra1 dc (.bool false) ?_
    exact ⟨false, rfl, db, dd.below⟩

end Go.Proofs.Ytdndfbamhnchfaa
