/- Texts put together (pure ones, or walks made by program). -/
import Derived.Test.YtginlmgkimfjmaaKo0
import Derived.Test.YtginlmgkimfjmaaKo1
import Derived.Test.YtginlmgkimfjmaaKo2
import Derived.Test.YtginlmgkimfjmaaKo3
set_option linter.unusedVariables false
set_option linter.unusedSimpArgs false
set_option maxRecDepth 100000
set_option maxHeartbeats 0
namespace Go.Proofs.Ytginlmgkimfjmaa
open Go.Sy Go.RowKit
abbrev e34Dr (X : Task) : List Value := [i6 X.ID, i6 X.Bytes, i6 X.Every, i6 X.Late, i6 X.Jitter]
abbrev e110Dr (X : Job) : List Value := [i6 X.task, i6 X.from_, i6 X.asked]
theorem ssort_fun (u0 : List Job) (u1 : Job → Job → Int) (hpre : ssortPre u0 u1) (ao1 : Option Addr) (cap2 : Nat) (fid3 : Nat) (caps4 : Array Value) (B : Nat) (w0 : World) (Z0 : Fz) (Rr : List Res) (Z : Fz) (w : World) (hf5 : ∀ (Z1 : Fz) (w1 : World), Z.le Z1 → Z1.on w1 → ∀ (x0 : Job) (x1 : Job), Calls Try.prog fid3 (#[.agg #[i6 x0.task, i6 x0.from_, i6 x0.asked], .agg #[i6 x1.task, i6 x1.from_, i6 x1.asked]] ++ caps4) w1 fun e w2 => e = .returned (i6 (u1 x0 x1)) ∧ Below w1.heap.size w1 w2) (hg6 : ∀ x w, Sem.run Try.prog (callFunc fid3 x) w = .ok (.enter fid3 x) w) (hM0 : Mem B [] w0 Z0 ((.own tyJob 110 ao1 cap2 u0) :: Rr) Z w) (hZ : Z.on w) : Calls Try.prog 51 #[.slice ao1 u0.length cap2, .func (.func fid3) #[] caps4] w fun e w' => ∃ (Z' : Fz), e = .returned (.tuple #[]) ∧ Fz.le Z Z' ∧ ((ssortS u0 u1).length = u0.length) ∧ Mem B [] w0 Z0 ((.own tyJob 110 ao1 cap2 (ssortS u0 u1)) :: Rr) Z' w' :=
  (ssort_walk u0 u1 ao1 cap2 fid3 caps4 B w0 Z0 Rr Z w hf5 hg6 hM0 hZ (ssort_ok u0 u1 hpre)).mono fun _ _ ⟨r, h0, he, hk, f0, f1, hm⟩ => by subst hk; exact ⟨h0, he, f0, f1, hm⟩

theorem splay_walk (u0 : List Task) (u1 : List Int) (u2 : List Int) (u3 : Int) (ao1 : Option Addr) (cap2 : Nat) (ao4 : Option Addr) (cap5 : Nat) (ao7 : Option Addr) (cap8 : Nat) (Z : Fz) (w : World) (hs3 : SlR tyTask Z ao1 cap2 u0) (hs6 : SlR t6 Z ao4 cap5 u1) (hs9 : SlR t6 Z ao7 cap8 u2) (hZ : Z.on w) {K : ((List Slot) × Int) → Prop} (hp : splay_vc u0 u1 u2 u3 K) : Calls Try.prog 18 #[.slice ao1 u0.length cap2, .slice ao4 u1.length cap5, .slice ao7 u2.length cap8, i6 u3] w fun e w' => ∃ (r : (List Slot) × Int) (ao1001 : Option Addr) (cap1002 : Nat) (Z' : Fz), e = .returned (.tuple #[.slice ao1001 r.1.length cap1002, i6 r.2]) ∧ K r ∧ Mem w.heap.size [] w Z [.own tySlot 48 ao1001 cap1002 r.1] Z' w' := by
 refine enter0 Try.func18 rfl rfl (by kernel_rfl) ?_; intro a0 cQ; have a2 := Mem.start w Z hZ; have W := Fz.le.refl Z
 have cR := hp (hs3.small); clear hp
 have cT := cR (hs6.small); clear cR
 have a3 := cT (hs9.small); clear cT
 refine sqB cQ a2 [] [] [] ?_; intro l7 cU; clear cQ
 refine wp_seq ?_
 refine sqH ?_; intro hb cV
 refine s1 cU 28 (.slice ao1 u0.length cap2) ?_; intro l8 cW; clear cU
 refine fc cW a2 (dcheck_fun u0 ao1 cap2 _ _ hs3 a2.fz) ?_; intro l9 bU cX P; clear cW a2
 refine s1 cX 10 (i6 (dcheckS u0)) ?_; intro ma cY; clear cX
 refine nlH (cV _ _ ?_); clear cV hb
 refine sqB cY P [] [] [(31, .bool ((dcheckS u0) != 0))] ?_; intro mb aG; clear cY
 refine cd aG (t := (dcheckS u0) != 0) (by kernel_rfl) (fun bV => ?_) (fun bV => ?_)
 ·
  have hc := a3.1 bV; clear a3
  refine sqB aG P [] [] [(8, .slice none 0 0), (9, i6 (dcheckS u0))] ?_; intro mc hd; clear aG
  refine wp_ret ?_
  refine thr ?_
  have he : Mem w.heap.size [] w Z [.own tySlot 48 none 0 ([] : List Slot)] Z bU := P.addNil tySlot 48 (by decide); clear P
  refine ra2 hd (.tuple #[.slice none ([] : List Slot).length 0, i6 (dcheckS u0)]) ?_
  exact ⟨(([] : List Slot), (dcheckS u0)), none, 0, Z, rfl, hc, he.keep (List.Sublist.cons_cons _ (List.Sublist.slnil))⟩
 have a4 := a3.2 bV; clear a3
 refine wp_skip ?_
 refine thn ?_
 refine wp_seq ?_
 refine sqB aG P [] [] [(50, .bool (((((u1.length : Int) != (u0.length : Int)) || (decide ((u2.length : Int) > 1000))) || (decide (u3 < 0))) || (decide (u3 > 1000000))))] ?_; intro md aH; clear aG
 refine cd aH (t := ((((u1.length : Int) != (u0.length : Int)) || (decide ((u2.length : Int) > 1000))) || (decide (u3 < 0))) || (decide (u3 > 1000000))) (by kernel_rfl) (fun bW => ?_) (fun bW => ?_)
 ·
  have hf := a4.1 bW; clear a4
  refine sqB aH P [] [] [(8, .slice none 0 0), (9, i6 2)] ?_; intro me hg; clear aH
  refine wp_ret ?_
  refine thr ?_
  have hh : Mem w.heap.size [] w Z [.own tySlot 48 none 0 ([] : List Slot)] Z bU := P.addNil tySlot 48 (by decide); clear P
  refine ra2 hg (.tuple #[.slice none ([] : List Slot).length 0, i6 2]) ?_
  exact ⟨(([] : List Slot), 2), none, 0, Z, rfl, hf, hh.keep (List.Sublist.cons_cons _ (List.Sublist.slnil))⟩
 have hi := a4.2 bW; clear a4
 refine wp_skip ?_
 refine thn ?_
 refine sqB aH P [] [] [(11, .slice none 0 0)] ?_; intro mf cZ; clear aH
 refine sqB cZ P [] [] [(12, i6 0)] ?_; intro mg c0; clear cZ
 refine wp_seq ?_
 refine sqB c0 P [] [] [(51, .slice ao1 u0.length cap2), (52, i6 (u0.length : Int)), (53, i6 0)] ?_; intro c1 c2; clear c0
 refine wp_block ?_
 have c3 : Fr 189 [] [⟨0, [], .slice ao1 u0.length cap2⟩, ⟨1, [], .slice ao4 u1.length cap5⟩, ⟨2, [], .slice ao7 u2.length cap8⟩, ⟨3, [], i6 u3⟩, ⟨11, [], .slice none 0 0⟩, ⟨12, [], i6 0⟩, ⟨51, [], .slice ao1 u0.length cap2⟩, ⟨52, [], i6 (u0.length : Int)⟩, ⟨53, [], i6 0⟩] c1 := c2.reg; clear c2
 have c4 : Mem w.heap.size [] w Z [.own tyJob 110 none 0 ([] : List Job)] Z bU := P.addNil tyJob 110 (by decide); clear P
 have c5 : Fr 189 [] [⟨0, [], .slice ao1 u0.length cap2⟩, ⟨1, [], .slice ao4 u1.length cap5⟩, ⟨2, [], .slice ao7 u2.length cap8⟩, ⟨3, [], i6 u3⟩, ⟨11, [], .slice none ([] : List Job).length 0⟩, ⟨12, [], i6 0⟩, ⟨51, [], .slice ao1 u0.length cap2⟩, ⟨52, [], i6 (u0.length : Int)⟩, ⟨53, [], i6 0⟩] c1 := c3.reg; clear c3
 obtain ⟨hj, hk, hl, hn⟩ := hi
 refine lp (ι := (List Job) × Int × Int × (Option Addr) × Nat) (fun s => [⟨0, [], .slice ao1 u0.length cap2⟩, ⟨1, [], .slice ao4 u1.length cap5⟩, ⟨2, [], .slice ao7 u2.length cap8⟩, ⟨3, [], i6 u3⟩, ⟨11, [], .slice s.2.2.2.1 s.1.length s.2.2.2.2⟩, ⟨12, [], i6 s.2.1⟩, ⟨51, [], .slice ao1 u0.length cap2⟩, ⟨52, [], i6 (u0.length : Int)⟩, ⟨53, [], i6 s.2.2.1⟩]) (fun s => [.own tyJob 110 s.2.2.2.1 s.2.2.2.2 s.1]) (fun s => Z) (fun s => hj s.1 s.2.1 s.2.2.1) (fun s => hk s.1 s.2.1 s.2.2.1) ⟨([] : List Job), 0, 0, none, 0⟩ hl (by exact c5.reg) (by exact c4) ?_
 rintro ⟨G, ae, j, H, I⟩ ho hq hr c6 c7
 have c8 : Fr 189 [] [⟨0, [], .slice ao1 u0.length cap2⟩, ⟨1, [], .slice ao4 u1.length cap5⟩, ⟨2, [], .slice ao7 u2.length cap8⟩, ⟨3, [], i6 u3⟩, ⟨11, [], .slice H G.length I⟩, ⟨12, [], i6 ae⟩, ⟨51, [], .slice ao1 u0.length cap2⟩, ⟨52, [], i6 (u0.length : Int)⟩, ⟨53, [], i6 j⟩] hq := c6; clear c6 c5
 have af : Mem w.heap.size [] w Z [.own tyJob 110 H I G] Z hr := c7; clear c7 c4
 have a5 := hn G ae j ho
 refine sqB c8 af [] [] [(54, .bool (decide (j < (u0.length : Int))))] ?_; intro c9 aI; clear c8
 refine wp_seq ?_
 refine cd aI (t := decide (j < (u0.length : Int))) (by kernel_rfl) (fun bX => ?_) (fun bX => ?_)
 ·
  have hs := a5.1 bX; clear a5
  refine wp_skip ?_
  refine thn ?_
  have da : Fr 189 [] [⟨0, [], .slice ao1 u0.length cap2⟩, ⟨1, [], .slice ao4 u1.length cap5⟩, ⟨2, [], .slice ao7 u2.length cap8⟩, ⟨3, [], i6 u3⟩, ⟨11, [], .slice H G.length I⟩, ⟨12, [], i6 ae⟩, ⟨51, [], .slice ao1 u0.length cap2⟩, ⟨52, [], i6 (u0.length : Int)⟩, ⟨53, [], i6 j⟩] c9 := aI.reg; clear aI
  have bY : Fr 189 [] [⟨0, [], .slice ao1 u0.length cap2⟩, ⟨1, [], .slice ao4 u1.length cap5⟩, ⟨2, [], .slice ao7 u2.length cap8⟩, ⟨3, [], i6 u3⟩, ⟨11, [], .slice H G.length I⟩, ⟨12, [], i6 ae⟩, ⟨51, [], .slice ao1 u0.length cap2⟩, ⟨52, [], i6 (u0.length : Int)⟩, ⟨53, [], i6 j⟩] c9 := da.reg; clear da
  obtain ⟨ht, hu, hv⟩ := hs
  refine wp_seq_k fun KJ130 hKJ131 => ?_
  have hw : ∀ (a : List Job) (aJ : Int) (ad : Option Addr) (l : Nat), ht a aJ → ∀ a1 w1, Fr 189 [] [⟨0, [], .slice ao1 u0.length cap2⟩, ⟨1, [], .slice ao4 u1.length cap5⟩, ⟨2, [], .slice ao7 u2.length cap8⟩, ⟨3, [], i6 u3⟩, ⟨11, [], .slice ad a.length l⟩, ⟨12, [], i6 aJ⟩, ⟨51, [], .slice ao1 u0.length cap2⟩, ⟨52, [], i6 (u0.length : Int)⟩, ⟨53, [], i6 j⟩] a1 → Mem w.heap.size [] w Z [.own tyJob 110 ad l a] Z w1 → KJ130 a1 w1 := by
   rintro a aJ ad l hx mh mi db dc; clear bY af
   refine hKJ131 _ _ ?_; clear hKJ131
   have dd := hv a aJ hx
   refine rgB db dc [] [] [(53, i6 (w64 (j + 1)))] ?_; intro mj hy; clear db
   refine rd ?_
   exact ⟨⟨a, aJ, w64 (j + 1), ad, l⟩, dd.1, dd.2, (hy.reg).anyβ _ (by kernel_rfl), dc.keep (List.Sublist.cons_cons _ (List.Sublist.slnil))⟩
  refine wp_block ?_
  refine sqH ?_; intro hz de
  refine s1 bY 55 (i6 j) ?_; intro mk df; clear bY
  obtain ⟨hA, dg⟩ := hu
  refine ix df (T := tyTask) (xs := u0) hs3 j hA (k := .i64) (e := 34) (bytes := 40) (nog rfl _) rfl (by kernel_rfl) rfl (by kernel_rfl) (by kernel_rfl) (by kernel_rfl) ?_; intro ml mm hB f mn hD hE hF dh; clear df
  have hG := dg f hD; clear dg
  obtain rfl : hB = ((e34Dr f) : List Value) := hF
  refine z2 dh af 57 hE 0 5 (e34Dr f) rfl ?_; intro mo di; clear dh
  refine nw di af pb [i6 0, i6 0, i6 0, i6 0, i6 0] 34 ?_; intro J mp mq dj dk; clear di af
  refine s1 dj 13 (i6 j) ?_; intro mr bZ; clear dj
  refine sx bZ dk 0 (e34Dr f) 0 ?_; intro b0 dl; clear dk
  have N : Mem w.heap.size [] w Z [.row J (e34Dr f) 34, .own tyJob 110 H I G] Z b0 := dl; clear dl
  refine nlH (de _ _ ?_); clear de hz
  refine wp_seq ?_
  refine sqH ?_; intro dm a6
  refine bt bZ N 2 [] [] [(58, .slice ao4 u1.length cap5), (59, i6 j)] ?_; intro ms dn; clear bZ
  obtain ⟨hH, dp⟩ := hG
  refine ix dn (T := t6) (xs := u1) hs6 j hH (k := .i64) (e := 3) (bytes := 8) (nog rfl _) rfl (by kernel_rfl) rfl (by kernel_rfl) (by kernel_rfl) (by kernel_rfl) ?_; intro mt mu hI aj mv hJ hK hL dq; clear dn
  have a7 := dp aj hJ; clear dp
  obtain rfl : hI = ([i6 aj] : List Value) := hL
  refine z1 dq N 61 hK 0 (i6 aj) rfl ?_; intro mw dr; clear dq
  refine bt dr N 2 [] [] [(63, .bool (decide (aj < 0)))] ?_; intro mx a8; clear dr
  rcases Bool.eq_false_or_eq_true (decide (aj < 0)) with aK | aK
  ·
   have hM := a7.1 aK; clear a7
   have ds := a8.reval (d := 63) (c := []) (v := .bool (decide (aj < 0))) (by kernel_rfl) (.bool true) (by rw [aK]); clear a8
   refine bt ds N 6 [] [64, 65, 66, 67, 68, 69] [(69, .bool true)] ?_; intro my b1; clear ds
   refine nlH (a6 _ _ ?_); clear a6 dm
   refine cdT b1 (by kernel_rfl) ?_
   refine sqB b1 N [] [] [(8, .slice none 0 0), (9, i6 3)] ?_; intro mz hN; clear b1
   refine wp_ret ?_
   refine thr ?_
   refine ibr ?_
   refine thr ?_
   refine thr ?_
   refine ibr ?_
   refine thr ?_
   have hO : Mem w.heap.size [] w Z [.own tySlot 48 none 0 ([] : List Slot), .row J (e34Dr f) 34, .own tyJob 110 H I G] Z b0 := N.addNil tySlot 48 (by decide); clear N
   refine ra2 hN (.tuple #[.slice none ([] : List Slot).length 0, i6 3]) ?_
   exact ⟨(([] : List Slot), 3), none, 0, Z, rfl, hM, hO.keep (List.Sublist.cons_cons _ (List.Sublist.cons _ (List.Sublist.cons _ (List.Sublist.slnil))))⟩
  have hP := a7.2 aK; clear a7
  have dt := a8.reval (d := 63) (c := []) (v := .bool (decide (aj < 0))) (by kernel_rfl) (.bool false) (by rw [aK]); clear a8
  refine bt dt N 2 [] [64, 65] [(64, .slice ao4 u1.length cap5), (65, i6 j)] ?_; intro mA b2; clear dt
  obtain ⟨hQ, du⟩ := hP
  refine ix b2 (T := t6) (xs := u1) hs6 j hQ (k := .i64) (e := 3) (bytes := 8) (by rw [wanted_of b2 (b := false) rfl rfl (by kernel_rfl) (by kernel_rfl)]; rfl) rfl (by kernel_rfl) rfl (by kernel_rfl) (by kernel_rfl) (by kernel_rfl) ?_; intro mB mC hR aL mD hS hT hU a9; clear b2
  have ba := du aL hS; clear du
  obtain rfl : hR = ([i6 aL] : List Value) := hU
  refine st a9 (i6 aL) (by rw [wanted_of a9 (b := false) rfl rfl (by kernel_rfl) (by kernel_rfl)]; rfl) rfl (by kernel_rfl) (lz a9 N.fz hT 0 (g := []) rfl (by kernel_rfl) (by kernel_rfl) (by kernel_rfl) rfl) ?_; intro mE dv; clear a9
  refine bt dv N 2 [] [68, 69] [(69, .bool (decide (aL > 1000000)))] ?_; intro mF aM; clear dv
  refine nlH (a6 _ _ ?_); clear a6 dm
  refine cd aM (t := decide (aL > 1000000)) (by kernel_rfl) (fun b3 => ?_) (fun b3 => ?_)
  ·
   have hV := ba.1 b3; clear ba
   refine sqB aM N [] [] [(8, .slice none 0 0), (9, i6 3)] ?_; intro mG hW; clear aM
   refine wp_ret ?_
   refine thr ?_
   refine ibr ?_
   refine thr ?_
   refine thr ?_
   refine ibr ?_
   refine thr ?_
   have hX : Mem w.heap.size [] w Z [.own tySlot 48 none 0 ([] : List Slot), .row J (e34Dr f) 34, .own tyJob 110 H I G] Z b0 := N.addNil tySlot 48 (by decide); clear N
   refine ra2 hW (.tuple #[.slice none ([] : List Slot).length 0, i6 3]) ?_
   exact ⟨(([] : List Slot), 3), none, 0, Z, rfl, hV, hX.keep (List.Sublist.cons_cons _ (List.Sublist.cons _ (List.Sublist.cons _ (List.Sublist.slnil))))⟩
  have hY := ba.2 b3; clear ba
  refine wp_skip ?_
  refine thn ?_
  refine sqH ?_; intro h0 dw
  refine bt aM N 2 [] [] [(70, .slice ao4 u1.length cap5), (71, i6 j)] ?_; intro mH dx; clear aM
  obtain ⟨h3, dy⟩ := hY
  refine ix dx (T := t6) (xs := u1) hs6 j h3 (k := .i64) (e := 3) (bytes := 8) (nog rfl _) rfl (by kernel_rfl) rfl (by kernel_rfl) (by kernel_rfl) (by kernel_rfl) ?_; intro mI mJ h4 ak mK h5 h6 h7 dz; clear dx
  have h8 := dy ak h5; clear dy
  obtain rfl : h4 = ([i6 ak] : List Value) := h7
  refine z1 dz N 73 h6 0 (i6 ak) rfl ?_; intro mL dA; clear dz
  refine s1 dA 15 (i6 ak) ?_; intro dB dC; clear dA
  refine nlH (dw _ _ ?_); clear dw h0
  refine wp_block ?_
  have dD : Fr 189 [] [⟨0, [], .slice ao1 u0.length cap2⟩, ⟨1, [], .slice ao4 u1.length cap5⟩, ⟨2, [], .slice ao7 u2.length cap8⟩, ⟨3, [], i6 u3⟩, ⟨11, [], .slice H G.length I⟩, ⟨12, [], i6 ae⟩, ⟨13, [], i6 j⟩, ⟨14, [], pt J 0⟩, ⟨15, [], i6 ak⟩, ⟨51, [], .slice ao1 u0.length cap2⟩, ⟨52, [], i6 (u0.length : Int)⟩, ⟨53, [], i6 j⟩] dB := dC.reg; clear dC
  have dE : Fr 189 [] [⟨0, [], .slice ao1 u0.length cap2⟩, ⟨1, [], .slice ao4 u1.length cap5⟩, ⟨2, [], .slice ao7 u2.length cap8⟩, ⟨3, [], i6 u3⟩, ⟨11, [], .slice H G.length I⟩, ⟨12, [], i6 ae⟩, ⟨13, [], i6 j⟩, ⟨14, [], pt J 0⟩, ⟨15, [], i6 ak⟩, ⟨51, [], .slice ao1 u0.length cap2⟩, ⟨52, [], i6 (u0.length : Int)⟩, ⟨53, [], i6 j⟩] dB := dD.reg; clear dD
  obtain ⟨h9, ia, ib, ic⟩ := h8
  refine lp (ι := (List Job) × Int × Int × (Option Addr) × Nat) (fun s => [⟨0, [], .slice ao1 u0.length cap2⟩, ⟨1, [], .slice ao4 u1.length cap5⟩, ⟨2, [], .slice ao7 u2.length cap8⟩, ⟨3, [], i6 u3⟩, ⟨11, [], .slice s.2.2.2.1 s.1.length s.2.2.2.2⟩, ⟨12, [], i6 s.2.1⟩, ⟨13, [], i6 j⟩, ⟨14, [], pt J 0⟩, ⟨15, [], i6 s.2.2.1⟩, ⟨51, [], .slice ao1 u0.length cap2⟩, ⟨52, [], i6 (u0.length : Int)⟩, ⟨53, [], i6 j⟩]) (fun s => [.row J (e34Dr f) 34, .own tyJob 110 s.2.2.2.1 s.2.2.2.2 s.1]) (fun s => Z) (fun s => h9 s.1 s.2.1 s.2.2.1) (fun s => ia s.1 s.2.1 s.2.2.1) ⟨G, ae, ak, H, I⟩ ib (by exact dE.reg) (by exact N) ?_
  rintro ⟨E, S, h, Q, R⟩ id ie ig dF dG
  have dH : Fr 189 [] [⟨0, [], .slice ao1 u0.length cap2⟩, ⟨1, [], .slice ao4 u1.length cap5⟩, ⟨2, [], .slice ao7 u2.length cap8⟩, ⟨3, [], i6 u3⟩, ⟨11, [], .slice Q E.length R⟩, ⟨12, [], i6 S⟩, ⟨13, [], i6 j⟩, ⟨14, [], pt J 0⟩, ⟨15, [], i6 h⟩, ⟨51, [], .slice ao1 u0.length cap2⟩, ⟨52, [], i6 (u0.length : Int)⟩, ⟨53, [], i6 j⟩] ie := dF; clear dF dE
  have aq : Mem w.heap.size [] w Z [.row J (e34Dr f) 34, .own tyJob 110 Q R E] Z ig := dG; clear dG N
  have bb := ic E S h id
  refine wp_seq ?_
  refine sqB dH aq [] [] [(76, .bool (decide (h < u3)))] ?_; intro dI bc; clear dH
  refine cd bc (t := decide (h < u3)) (by kernel_rfl) (fun b4 => ?_) (fun b4 => ?_)
  ·
   have ih := bb.1 b4; clear bb
   refine wp_skip ?_
   refine thn ?_
   have dJ : Fr 189 [] [⟨0, [], .slice ao1 u0.length cap2⟩, ⟨1, [], .slice ao4 u1.length cap5⟩, ⟨2, [], .slice ao7 u2.length cap8⟩, ⟨3, [], i6 u3⟩, ⟨11, [], .slice Q E.length R⟩, ⟨12, [], i6 S⟩, ⟨13, [], i6 j⟩, ⟨14, [], pt J 0⟩, ⟨15, [], i6 h⟩, ⟨51, [], .slice ao1 u0.length cap2⟩, ⟨52, [], i6 (u0.length : Int)⟩, ⟨53, [], i6 j⟩] dI := bc.reg; clear bc
   have b5 : Fr 189 [] [⟨0, [], .slice ao1 u0.length cap2⟩, ⟨1, [], .slice ao4 u1.length cap5⟩, ⟨2, [], .slice ao7 u2.length cap8⟩, ⟨3, [], i6 u3⟩, ⟨11, [], .slice Q E.length R⟩, ⟨12, [], i6 S⟩, ⟨13, [], i6 j⟩, ⟨14, [], pt J 0⟩, ⟨15, [], i6 h⟩, ⟨51, [], .slice ao1 u0.length cap2⟩, ⟨52, [], i6 (u0.length : Int)⟩, ⟨53, [], i6 j⟩] dI := dJ.reg; clear dJ
   obtain ⟨ii, bd, ij⟩ := ih
   refine wp_seq_k fun KJ297 hKJ298 => ?_
   have dK : ∀ (ar : List Job) (aN : Int) (be : Option Addr) (bf : Nat), ii ar aN → ∀ a1 w1, Fr 189 [] [⟨0, [], .slice ao1 u0.length cap2⟩, ⟨1, [], .slice ao4 u1.length cap5⟩, ⟨2, [], .slice ao7 u2.length cap8⟩, ⟨3, [], i6 u3⟩, ⟨11, [], .slice be ar.length bf⟩, ⟨12, [], i6 aN⟩, ⟨13, [], i6 j⟩, ⟨14, [], pt J 0⟩, ⟨15, [], i6 h⟩, ⟨51, [], .slice ao1 u0.length cap2⟩, ⟨52, [], i6 (u0.length : Int)⟩, ⟨53, [], i6 j⟩] a1 → Mem w.heap.size [] w Z [.row J (e34Dr f) 34, .own tyJob 110 be bf ar] Z w1 → KJ297 a1 w1 := by
    rintro ar aN be bf ik mM mN dL dM; clear b5 aq
    refine hKJ298 _ _ ?_; clear hKJ298
    have dN := ij ar aN ik
    refine rgB dL dM [0] [] [(15, i6 (w64 (h + f.Every)))] ?_; intro mO il; clear dL
    refine rd ?_
    exact ⟨⟨ar, aN, w64 (h + f.Every), be, bf⟩, dN.1, dN.2, (il.reg).anyβ _ (by kernel_rfl), dM.keep (List.Sublist.cons_cons _ (List.Sublist.cons_cons _ (List.Sublist.slnil)))⟩
   refine wp_block ?_
   refine sqH ?_; intro im dO
   refine bt b5 aq 4 [] [] [(84, .agg #[i6 j, i6 h, i6 h])] ?_; intro mP dP; clear b5
   refine nw dP aq pb [i6 0, i6 0, i6 0] 110 ?_; intro ac mQ mR b6 dQ; clear dP aq
   refine sx b6 dQ 0 [i6 j, i6 h, i6 h] 0 ?_; intro dR dS; clear dQ
   have U : Mem w.heap.size [] w Z [.row ac [i6 j, i6 h, i6 h] 110, .row J (e34Dr f) 34, .own tyJob 110 Q R E] Z dR := dS; clear dS
   refine nlH (dO _ _ ?_); clear dO im
   refine wp_seq ?_
   refine sqB b6 U [1] [] [(92, .bool ((decide ((u2.length : Int) > 0)) && (decide (f.Jitter > 0))))] ?_; intro mS aO; clear b6
   refine cd aO (t := (decide ((u2.length : Int) > 0)) && (decide (f.Jitter > 0))) (by kernel_rfl) (fun b7 => ?_) (fun b7 => ?_)
   ·
    have io := bd.1 b7; clear bd
    refine sqH ?_; intro ip dT
    refine bt aO U 4 [] [] [(93, .slice ao7 u2.length cap8), (94, i6 S), (96, i6 (u2.length : Int))] ?_; intro mT b8; clear aO
    obtain ⟨iq, ir⟩ := io
    refine st b8 (i6 (S.tmod (u2.length : Int))) (nog rfl _) rfl (by kernel_rfl) (rem_run b8 (g := []) rfl (by kernel_rfl) (by kernel_rfl) iq rfl) ?_; intro mU dU; clear b8
    obtain ⟨it, dV⟩ := ir
    refine ix dU (T := t6) (xs := u2) hs9 (S.tmod (u2.length : Int)) it (k := .i64) (e := 3) (bytes := 8) (nog rfl _) rfl (by kernel_rfl) rfl (by kernel_rfl) (by kernel_rfl) (by kernel_rfl) ?_; intro mV mW iu F mX iv iw iy dW; clear dU
    have bg := dV F iv; clear dV
    obtain rfl : iu = ([i6 F] : List Value) := iy
    refine z1 dW U 99 iw 0 (i6 F) rfl ?_; intro mY dX; clear dW
    refine s1 dX 17 (i6 F) ?_; intro mZ dY; clear dX
    refine nlH (dT _ _ ?_); clear dT ip
    refine wp_seq ?_
    refine sqB dY U [] [] [(101, .bool (decide (F < 0)))] ?_; intro iz aP; clear dY
    refine cd aP (t := decide (F < 0)) (by kernel_rfl) (fun b9 => ?_) (fun b9 => ?_)
    ·
     have iA := bg.1 b9; clear bg
     refine sqB aP U [] [] [(8, .slice none 0 0), (9, i6 3)] ?_; intro m0 iB; clear aP
     refine wp_ret ?_
     refine thr ?_
     refine thr ?_
     refine ibr ?_
     refine thr ?_
     refine thr ?_
     refine ibr ?_
     refine ibr ?_
     refine thr ?_
     refine thr ?_
     refine ibr ?_
     refine thr ?_
     have iC : Mem w.heap.size [] w Z [.own tySlot 48 none 0 ([] : List Slot), .row ac [i6 j, i6 h, i6 h] 110, .row J (e34Dr f) 34, .own tyJob 110 Q R E] Z dR := U.addNil tySlot 48 (by decide); clear U
     refine ra2 iB (.tuple #[.slice none ([] : List Slot).length 0, i6 3]) ?_
     exact ⟨(([] : List Slot), 3), none, 0, Z, rfl, iA, iC.keep (List.Sublist.cons_cons _ (List.Sublist.cons _ (List.Sublist.cons _ (List.Sublist.cons _ (List.Sublist.slnil)))))⟩
    have iD := bg.2 b9; clear bg
    refine wp_skip ?_
    refine thn ?_
    have dZ : Fr 189 [] [⟨0, [], .slice ao1 u0.length cap2⟩, ⟨1, [], .slice ao4 u1.length cap5⟩, ⟨2, [], .slice ao7 u2.length cap8⟩, ⟨3, [], i6 u3⟩, ⟨11, [], .slice Q E.length R⟩, ⟨12, [], i6 S⟩, ⟨13, [], i6 j⟩, ⟨14, [], pt J 0⟩, ⟨15, [], i6 h⟩, ⟨16, [], pt ac 0⟩, ⟨17, [], i6 F⟩, ⟨51, [], .slice ao1 u0.length cap2⟩, ⟨52, [], i6 (u0.length : Int)⟩, ⟨53, [], i6 j⟩] iz := aP.reg; clear aP
    refine wp_seq (rgS mixed U [(0, true), (1, true), (2, true), (3, true), (4, true), (5, true), (6, true), (7, true), (8, true), (9, false)] [9] [0, 1] [.row ac [i6 j, i6 h, i6 h] 110, .row J (e34Dr f) 34] ?_)
    intro iE d0 m1 d1; clear U
    have m2 := Fz.le.refl Z
    refine cS dZ 6 [0, 1] [] [(103, i6 h), (104, i6 F), (107, i6 (w64 (f.Jitter + 1)))] ?_; intro m3 ca; clear dZ
    obtain ⟨iF, iG⟩ := iD
    refine cst rfl ca (i6 (F.tmod (w64 (f.Jitter + 1)))) (nog rfl _) rfl (by kernel_rfl) (fun v414 hC => rem_run ca (g := []) rfl (by kernel_rfl) (by kernel_rfl) iF rfl) ?_; intro m4 d2; clear ca
    refine cS d2 2 [] [] [(109, i6 (w64 (h + (F.tmod (w64 (f.Jitter + 1)))))), (110, pt ac 2)] ?_; intro m5 cb; clear d2
    refine eL rfl ?_; intro iH d3
    refine sx cb d1 0 [i6 j, i6 h, i6 (w64 (h + (F.tmod (w64 (f.Jitter + 1)))))] 2 ?_; intro iI d4; clear d1
    have bh : Mem w.heap.size [] w Z [.row ac [i6 j, i6 h, i6 (w64 (h + (F.tmod (w64 (f.Jitter + 1)))))] 110, .row J (e34Dr f) 34, .own tyJob 110 Q R E] Z iI := d4; clear d4
    refine nl (qnI (d3 _ _ ?_)); clear d3 iH
    refine nS (d0 _ _ ?_); clear d0 iE
    refine thn ?_
    refine rgB cb bh [] [] [(12, i6 (w64 (S + 1)))] ?_; intro m6 d5; clear cb
    refine thn ?_
    refine sqH ?_; intro iJ d6
    refine bt d5 bh 2 [0] [] [(113, .slice Q E.length R), (114, .agg #[i6 j, i6 h, i6 (w64 (h + (F.tmod (w64 (f.Jitter + 1)))))])] ?_; intro m7 d7; clear d5
    refine nw d7 bh (fun b => .slice (sm b) 1 1) [i6 j, i6 h, i6 (w64 (h + (F.tmod (w64 (f.Jitter + 1)))))] 110 ?_; intro cc m8 m9 d8 ce; clear d7 bh
    obtain ⟨iK, bi⟩ := iG
    refine ap d8 ce 3 (T := tyJob) (xs := E) (ys := [(⟨j, h, w64 (h + (F.tmod (w64 (f.Jitter + 1))))⟩ : Job)]) (ao := Q) (cap := R) (ao2 := (sm cc)) (cap2 := 1) (t := 108) (e := 110) (bytes := 24) (nog rfl _) rfl (by kernel_rfl) rfl (by kernel_rfl) (by kernel_rfl) (by kernel_rfl) rfl (Src.row ce 0 rfl (RepAll.one (T := tyJob) (x := (⟨j, h, w64 (h + (F.tmod (w64 (f.Jitter + 1))))⟩ : Job)) rfl)) iK ?_; intro bj bk na d9 nb ea eb; clear d8 ce
    have aQ : Mem w.heap.size [] w Z [.row cc [i6 j, i6 h, i6 (w64 (h + (F.tmod (w64 (f.Jitter + 1)))))] 110, .row ac [i6 j, i6 h, i6 (w64 (h + (F.tmod (w64 (f.Jitter + 1)))))] 110, .row J (e34Dr f) 34, .own tyJob 110 bj bk (E ++ [(⟨j, h, w64 (h + (F.tmod (w64 (f.Jitter + 1))))⟩ : Job)])] Z d9 := eb; clear eb
    refine s1 ea 11 (.slice bj (E ++ [(⟨j, h, w64 (h + (F.tmod (w64 (f.Jitter + 1))))⟩ : Job)]).length bk) ?_; intro nc ec; clear ea
    refine nlH (d6 _ _ ?_); clear d6 iJ
    refine sqB ec aQ [] [] [(119, .bool (decide (((E ++ [(⟨j, h, w64 (h + (F.tmod (w64 (f.Jitter + 1))))⟩ : Job)]).length : Int) > 1000)))] ?_; intro nd bl; clear ec
    refine cd bl (t := decide (((E ++ [(⟨j, h, w64 (h + (F.tmod (w64 (f.Jitter + 1))))⟩ : Job)]).length : Int) > 1000)) (by kernel_rfl) (fun cf => ?_) (fun cf => ?_)
    ·
     have iL := bi.1 cf; clear bi
     refine sqB bl aQ [] [] [(8, .slice none 0 0), (9, i6 2)] ?_; intro ne iM; clear bl
     refine wp_ret ?_
     refine ibr ?_
     refine thr ?_
     refine thr ?_
     refine ibr ?_
     refine ibr ?_
     refine thr ?_
     refine thr ?_
     refine ibr ?_
     refine thr ?_
     have iN : Mem w.heap.size [] w Z [.own tySlot 48 none 0 ([] : List Slot), .row cc [i6 j, i6 h, i6 (w64 (h + (F.tmod (w64 (f.Jitter + 1)))))] 110, .row ac [i6 j, i6 h, i6 (w64 (h + (F.tmod (w64 (f.Jitter + 1)))))] 110, .row J (e34Dr f) 34, .own tyJob 110 bj bk (E ++ [(⟨j, h, w64 (h + (F.tmod (w64 (f.Jitter + 1))))⟩ : Job)])] Z d9 := aQ.addNil tySlot 48 (by decide); clear aQ
     refine ra2 iM (.tuple #[.slice none ([] : List Slot).length 0, i6 2]) ?_
     exact ⟨(([] : List Slot), 2), none, 0, Z, rfl, iL, iN.keep (List.Sublist.cons_cons _ (List.Sublist.cons _ (List.Sublist.cons _ (List.Sublist.cons _ (List.Sublist.cons _ (List.Sublist.slnil))))))⟩
    have iO := bi.2 cf; clear bi
    refine wp_skip ?_
    refine ibn ?_
    refine rd ?_
    exact dK (E ++ [(⟨j, h, w64 (h + (F.tmod (w64 (f.Jitter + 1))))⟩ : Job)]) (w64 (S + 1)) bj bk iO _ _ ((bl.reg).anyβ _ (by kernel_rfl)) (aQ.keep (List.Sublist.cons _ (List.Sublist.cons _ (List.Sublist.cons_cons _ (List.Sublist.cons_cons _ (List.Sublist.slnil))))))
   have iP := bd.2 b7; clear bd
   refine wp_skip ?_
   refine thn ?_
   refine sqH ?_; intro iQ ed
   refine bt aO U 2 [0] [] [(113, .slice Q E.length R), (114, .agg #[i6 j, i6 h, i6 h])] ?_; intro nf ee; clear aO
   refine nw ee U (fun b => .slice (sm b) 1 1) [i6 j, i6 h, i6 h] 110 ?_; intro cg ng nh ef ch; clear ee U
   obtain ⟨iR, bm⟩ := iP
   refine ap ef ch 3 (T := tyJob) (xs := E) (ys := [(⟨j, h, h⟩ : Job)]) (ao := Q) (cap := R) (ao2 := (sm cg)) (cap2 := 1) (t := 108) (e := 110) (bytes := 24) (nog rfl _) rfl (by kernel_rfl) rfl (by kernel_rfl) (by kernel_rfl) (by kernel_rfl) rfl (Src.row ch 0 rfl (RepAll.one (T := tyJob) (x := (⟨j, h, h⟩ : Job)) rfl)) iR ?_; intro bn bo ni eg nj eh ei; clear ef ch
   have aR : Mem w.heap.size [] w Z [.row cg [i6 j, i6 h, i6 h] 110, .row ac [i6 j, i6 h, i6 h] 110, .row J (e34Dr f) 34, .own tyJob 110 bn bo (E ++ [(⟨j, h, h⟩ : Job)])] Z eg := ei; clear ei
   refine s1 eh 11 (.slice bn (E ++ [(⟨j, h, h⟩ : Job)]).length bo) ?_; intro nk ej; clear eh
   refine nlH (ed _ _ ?_); clear ed iQ
   refine sqB ej aR [] [] [(119, .bool (decide (((E ++ [(⟨j, h, h⟩ : Job)]).length : Int) > 1000)))] ?_; intro nm bp; clear ej
   refine cd bp (t := decide (((E ++ [(⟨j, h, h⟩ : Job)]).length : Int) > 1000)) (by kernel_rfl) (fun ci => ?_) (fun ci => ?_)
   ·
    have iS := bm.1 ci; clear bm
    refine sqB bp aR [] [] [(8, .slice none 0 0), (9, i6 2)] ?_; intro nn iT; clear bp
    refine wp_ret ?_
    refine ibr ?_
    refine thr ?_
    refine thr ?_
    refine ibr ?_
    refine ibr ?_
    refine thr ?_
    refine thr ?_
    refine ibr ?_
    refine thr ?_
    have iU : Mem w.heap.size [] w Z [.own tySlot 48 none 0 ([] : List Slot), .row cg [i6 j, i6 h, i6 h] 110, .row ac [i6 j, i6 h, i6 h] 110, .row J (e34Dr f) 34, .own tyJob 110 bn bo (E ++ [(⟨j, h, h⟩ : Job)])] Z eg := aR.addNil tySlot 48 (by decide); clear aR
    refine ra2 iT (.tuple #[.slice none ([] : List Slot).length 0, i6 2]) ?_
    exact ⟨(([] : List Slot), 2), none, 0, Z, rfl, iS, iU.keep (List.Sublist.cons_cons _ (List.Sublist.cons _ (List.Sublist.cons _ (List.Sublist.cons _ (List.Sublist.cons _ (List.Sublist.slnil))))))⟩
   have iV := bm.2 ci; clear bm
   refine wp_skip ?_
   refine ibn ?_
   refine rd ?_
   exact dK (E ++ [(⟨j, h, h⟩ : Job)]) S bn bo iV _ _ ((bp.reg).anyβ _ (by kernel_rfl)) (aR.keep (List.Sublist.cons _ (List.Sublist.cons _ (List.Sublist.cons_cons _ (List.Sublist.cons_cons _ (List.Sublist.slnil))))))
  have iW := bb.2 b4; clear bb
  refine wp_exit ?_
  refine thx ?_
  refine thx ?_
  refine ibx ?_
  refine ibn ?_
  refine rd ?_
  exact hw E S Q R iW _ _ ((bc.reg).anyβ _ (by kernel_rfl)) (aq.keep (List.Sublist.cons _ (List.Sublist.cons_cons _ (List.Sublist.slnil))))
 have iX := a5.2 bX; clear a5
 refine wp_exit ?_
 refine thx ?_
 refine thx ?_
 refine ibx ?_
 refine thn ?_
 refine sqH ?_; intro iY ek
 refine s1 aI 121 (.slice H G.length I) ?_; intro no el; clear aI
 obtain ⟨iZ, em⟩ := iX
 refine ck el 51 #[.slice H G.length I, .func (.func 52) #[] #[]] ?_
 refine (ssort_fun G (fun x0 x1 => cmpj x0 x1 ) iZ H I 52 #[] _ _ _ _ _ _ (fun Z1 w1 h1 h2 x0 x1 => cmpj_fun x0 x1  Z1 w1 h2) (fun _ _ => by kernel_rfl) af af.fz).mono ?_; rintro _ i0 ⟨al, rfl, bq, i1, hm⟩; refine ⟨_, rfl, ?_⟩; intro i2 en; have eo := hm; clear hm af el
 replace hs3 := hs3.mono bq
 replace hs6 := hs6.mono bq
 replace hs9 := hs9.mono bq
 replace W := Fz.le.trans W bq
 have ep : Fr 189 [] [⟨0, [], .slice ao1 u0.length cap2⟩, ⟨1, [], .slice ao4 u1.length cap5⟩, ⟨2, [], .slice ao7 u2.length cap8⟩, ⟨3, [], i6 u3⟩, ⟨11, [], .slice H (ssortS G (fun x0 x1 => cmpj x0 x1 )).length I⟩, ⟨12, [], i6 ae⟩, ⟨51, [], .slice ao1 u0.length cap2⟩, ⟨52, [], i6 (u0.length : Int)⟩, ⟨53, [], i6 j⟩, ⟨54, [], .bool (decide (j < (u0.length : Int)))⟩, ⟨121, [], .slice H (ssortS G (fun x0 x1 => cmpj x0 x1 )).length I⟩, ⟨122, [], .tuple #[]⟩] i2 := by rw [i1]; exact en.reg
 clear en
 have br : Mem w.heap.size [] w Z [.own tyJob 110 H I (ssortS G (fun x0 x1 => cmpj x0 x1 ))] al i0 := eo; clear eo
 have i3 := em (br.ownSmall 0 rfl); clear em
 refine nlH (ek _ _ ?_); clear ek iY
 refine sqB ep br [] [] [(18, .slice none 0 0)] ?_; intro np eq; clear ep
 refine sqH ?_; intro i4 er
 refine nw eq br pb [i6 0] 3 ?_; intro i nq nr cj es; clear eq br
 refine sx cj es 0 [i6 0] 0 ?_; intro et eu; clear es
 have bs : Mem w.heap.size [] w Z [.row i [i6 0] 3, .own tyJob 110 H I (ssortS G (fun x0 x1 => cmpj x0 x1 ))] al et := eu; clear eu
 refine nlH (er _ _ ?_); clear er i4
 refine sqB cj bs [] [] [(20, .func (.func 53) #[] #[pt i 0])] ?_; intro bu ev; clear cj
 have ew : Fr 189 [] [⟨0, [], .slice ao1 u0.length cap2⟩, ⟨11, [], .slice H (ssortS G (fun x0 x1 => cmpj x0 x1 )).length I⟩, ⟨18, [], .slice none 0 0⟩, ⟨19, [], pt i 0⟩, ⟨20, [], .func (.func 53) #[] #[pt i 0]⟩] bu := ev.reg; clear ev
 have cl : Fr 189 [] [⟨0, [], .slice ao1 u0.length cap2⟩, ⟨11, [], .slice H (ssortS G (fun x0 x1 => cmpj x0 x1 )).length I⟩, ⟨18, [], .slice none 0 0⟩, ⟨19, [], pt i 0⟩, ⟨20, [], .func (.func 53) #[] #[pt i 0]⟩] bu := ew.reg; clear ew
 obtain ⟨i5, i7, i8⟩ := i3
 refine wp_seq_k fun KJ550 hKJ551 => ?_
 have i9 : ∀ (ag : List Slot) (bv : Int) (au : Option Addr) (av : Nat) (bw : Fz), i5 ag bv ∧ Fz.le al bw → ∀ a1 w1, Fr 189 [] [⟨18, [], .slice au ag.length av⟩] a1 → Mem w.heap.size [] w Z [.own tySlot 48 au av ag, .row i [i6 bv] 3] bw w1 → KJ550 a1 w1 := by
  rintro ag bv au av bw ⟨ja, bx⟩ ns nt ex ey; clear cl bs
  refine hKJ551 _ _ ?_; clear hKJ551
  have jb := i8 ag bv ja
  replace W := Fz.le.trans W bx
  have nu := hs3.mono bx
  have nv := hs6.mono bx
  have nx := hs9.mono bx
  refine sqB ex ey [] [] [(8, .slice au ag.length av), (9, i6 0)] ?_; intro ny jc; clear ex
  refine wp_ret ?_
  refine ra2 jc (.tuple #[.slice au ag.length av, i6 0]) ?_
  exact ⟨(ag, 0), au, av, bw, rfl, jb, ey.keep (List.Sublist.cons_cons _ (List.Sublist.cons _ (List.Sublist.slnil)))⟩
 have jd := Fz.le.refl al
 refine wp_block ?_
 have ez : Fr 189 [] [⟨0, [], .slice ao1 u0.length cap2⟩, ⟨11, [], .slice H (ssortS G (fun x0 x1 => cmpj x0 x1 )).length I⟩, ⟨18, [], .slice none 0 0⟩, ⟨19, [], pt i 0⟩, ⟨20, [], .func (.func 53) #[] #[pt i 0]⟩] bu := cl.reg; clear cl
 have eA : Mem w.heap.size [] w Z [.own tySlot 48 none 0 ([] : List Slot), .row i [i6 0] 3, .own tyJob 110 H I (ssortS G (fun x0 x1 => cmpj x0 x1 ))] al et := bs.addNil tySlot 48 (by decide); clear bs
 have eB : Fr 189 [] [⟨0, [], .slice ao1 u0.length cap2⟩, ⟨11, [], .slice H (ssortS G (fun x0 x1 => cmpj x0 x1 )).length I⟩, ⟨18, [], .slice none ([] : List Slot).length 0⟩, ⟨19, [], pt i 0⟩, ⟨20, [], .func (.func 53) #[] #[pt i 0]⟩] bu := ez.reg; clear ez
 obtain ⟨je, jf, jg, jh⟩ := i7
 have nz := W
 refine lp (ι := (List Job) × (List Slot) × Int × (Option Addr) × Nat × (Option Addr) × Nat × Fz) (fun s => [⟨0, [], .slice ao1 u0.length cap2⟩, ⟨11, [], .slice s.2.2.2.1 s.1.length s.2.2.2.2.1⟩, ⟨18, [], .slice s.2.2.2.2.2.1 s.2.1.length s.2.2.2.2.2.2.1⟩, ⟨19, [], pt i 0⟩, ⟨20, [], .func (.func 53) #[] #[pt i 0]⟩]) (fun s => [.own tySlot 48 s.2.2.2.2.2.1 s.2.2.2.2.2.2.1 s.2.1, .row i [i6 s.2.2.1] 3, .own tyJob 110 s.2.2.2.1 s.2.2.2.2.1 s.1]) (fun s => s.2.2.2.2.2.2.2) (fun s => je s.1 s.2.1 s.2.2.1 ∧ Fz.le al s.2.2.2.2.2.2.2) (fun s => jf s.1 s.2.1 s.2.2.1) ⟨(ssortS G (fun x0 x1 => cmpj x0 x1 )), ([] : List Slot), 0, H, I, none, 0, al⟩ ⟨jg, Fz.le.refl _⟩ (by exact eB.reg) (by exact eA) ?_
 rintro ⟨a, y, q, ad, l, z, A, O⟩ ⟨ji, X⟩ jj jk eC eD
 have eE : Fr 189 [] [⟨0, [], .slice ao1 u0.length cap2⟩, ⟨11, [], .slice ad a.length l⟩, ⟨18, [], .slice z y.length A⟩, ⟨19, [], pt i 0⟩, ⟨20, [], .func (.func 53) #[] #[pt i 0]⟩] jj := eC; clear eC eB
 have bz : Mem w.heap.size [] w Z [.own tySlot 48 z A y, .row i [i6 q] 3, .own tyJob 110 ad l a] O jk := eD; clear eD eA
 have bA := jh a y q ji
 replace W := Fz.le.trans W X
 have aw := hs3.mono X
 have bB := hs6.mono X
 have bC := hs9.mono X
 have aS := jd.mono X
 refine wp_seq ?_
 refine sqB eE bz [] [] [(126, .bool (decide ((a.length : Int) > 0)))] ?_; intro jl bD; clear eE
 refine cd bD (t := decide ((a.length : Int) > 0)) (by kernel_rfl) (fun cm => ?_) (fun cm => ?_)
 ·
  have jm := bA.1 cm; clear bA
  refine wp_skip ?_
  refine thn ?_
  refine wp_block ?_
  refine wp_seq ?_
  have eF : Fr 189 [] [⟨0, [], .slice ao1 u0.length cap2⟩, ⟨11, [], .slice ad a.length l⟩, ⟨18, [], .slice z y.length A⟩, ⟨19, [], pt i 0⟩, ⟨20, [], .func (.func 53) #[] #[pt i 0]⟩] jl := bD.reg; clear bD
  refine wp_seq (rgS mixed bz [(0, true), (4, true), (1, false), (2, true), (3, false), (5, true)] [] [1] [.row i [i6 q] 3] ?_)
  intro jn eG nA V; clear bz
  have eH := Fz.le.refl O
  refine cS eF 2 [0] [] [(127, .slice ad a.length l), (131, i6 q)] ?_; intro nB eI; clear eF
  refine eS rfl ?_; intro jo eJ
  obtain ⟨jp, eK⟩ := jm
  refine ixo eI V 2 (T := tyJob) (xs := a) (0 : Int) jp (k := .i64) (e := 110) (bytes := 24) (nog rfl _) rfl (by kernel_rfl) rfl (by kernel_rfl) (by kernel_rfl) rfl (by kernel_rfl) ?_; intro m nC jq eM; clear eI
  subst jq
  refine nl (qnI (eJ _ _ (V.cst eH [1]) ?_)); clear eJ jo
  refine cS eM 1 [] [] [(129, .pointer (some ⟨m, (0 : Int).toNat * 3 + 2, none⟩))] ?_; intro nD eN; clear eM
  refine eS rfl ?_; intro jr eO
  obtain ⟨ax, js, bE⟩ := gxq eK (by first | omega | (simp only [List.length_set] at *; omega)); clear eK
  obtain ⟨jt, ju, jv⟩ := own_el V 2 (T := tyJob) (xs := a) rfl (0 : Int).toNat js
  obtain rfl : jt = ((e110Dr ax) : List Value) := ju
  refine lc1 eN 130 (i6 ax.asked) (jv 2 _ rfl) rfl ?_; intro nE eP; clear eN
  refine nl (qnI (eO _ _ (V.cst eH [1]) ?_)); clear eO jr
  refine cS eP 1 [] [] [(132, .bool (decide (ax.asked > q)))] ?_; intro nF aT; clear eP
  refine nS (eG _ _ ?_); clear eG jn
  refine thn ?_
  refine cd aT (t := decide (ax.asked > q)) (by kernel_rfl) (fun cn => ?_) (fun cn => ?_)
  ·
   have jw := bE.1 cn; clear bE
   refine rgH ?_; intro jx eQ
   refine s1 aT 133 (.slice (sm m) a.length l) ?_; intro nG eR; clear aT
   obtain ⟨jy, eT⟩ := jw
   refine ixo eR V 2 (T := tyJob) (xs := a) (0 : Int) jy (k := .i64) (e := 110) (bytes := 24) (nog rfl _) rfl (by kernel_rfl) rfl (by kernel_rfl) (by kernel_rfl) rfl (by kernel_rfl) ?_; intro jz nH jA eU; clear eR
   obtain rfl : m = jz := by simpa using jA
   refine s1 eU 135 (.pointer (some ⟨m, (0 : Int).toNat * 3 + 2, none⟩)) ?_; intro nI eV; clear eU
   obtain ⟨u, jB, jC⟩ := gxq eT (by first | omega | (simp only [List.length_set] at *; omega)); clear eT
   obtain ⟨jD, jE, jF⟩ := own_el V 2 (T := tyJob) (xs := a) rfl (0 : Int).toNat jB
   obtain rfl : jD = ((e110Dr u) : List Value) := jE
   refine lc1 eV 136 (i6 u.asked) (jF 2 _ rfl) rfl ?_; intro nJ co; clear eV
   refine sx co V 1 [i6 u.asked] 0 ?_; intro jG eW; clear V
   have bF : Mem w.heap.size [] w Z [.own tySlot 48 z A y, .row i [i6 u.asked] 3, .own tyJob 110 (sm m) l a] O jG := eW; clear eW
   refine nlH (eQ _ _ ?_); clear eQ jx
   refine thn ?_
   refine sqB co bF [] [] [(21, i6 0)] ?_; intro nK eX; clear co
   refine wp_seq ?_
   refine sqB eX bF [] [] [(137, .slice (sm m) a.length l), (138, i6 (a.length : Int)), (139, i6 0)] ?_; intro eY eZ; clear eX
   refine wp_block ?_
   have e0 : Fr 189 [] [⟨0, [], .slice ao1 u0.length cap2⟩, ⟨11, [], .slice (sm m) a.length l⟩, ⟨18, [], .slice z y.length A⟩, ⟨19, [], pt i 0⟩, ⟨20, [], .func (.func 53) #[] #[pt i 0]⟩, ⟨21, [], i6 0⟩, ⟨137, [], .slice (sm m) a.length l⟩, ⟨138, [], i6 (a.length : Int)⟩, ⟨139, [], i6 0⟩] eY := eZ.reg; clear eZ
   have e1 : Fr 189 [] [⟨0, [], .slice ao1 u0.length cap2⟩, ⟨11, [], .slice (sm m) a.length l⟩, ⟨18, [], .slice z y.length A⟩, ⟨19, [], pt i 0⟩, ⟨20, [], .func (.func 53) #[] #[pt i 0]⟩, ⟨21, [], i6 0⟩, ⟨137, [], .slice (sm m) a.length l⟩, ⟨138, [], i6 (a.length : Int)⟩, ⟨139, [], i6 0⟩] eY := e0.reg; clear e0
   obtain ⟨jH, jI, jJ, jK⟩ := jC
   refine lp (ι := Int × Int) (fun s => [⟨0, [], .slice ao1 u0.length cap2⟩, ⟨11, [], .slice (sm m) a.length l⟩, ⟨18, [], .slice z y.length A⟩, ⟨19, [], pt i 0⟩, ⟨20, [], .func (.func 53) #[] #[pt i 0]⟩, ⟨21, [], i6 s.1⟩, ⟨137, [], .slice (sm m) a.length l⟩, ⟨138, [], i6 (a.length : Int)⟩, ⟨139, [], i6 s.2⟩]) (fun s => [.own tySlot 48 z A y, .row i [i6 u.asked] 3, .own tyJob 110 (sm m) l a]) (fun s => O) (fun s => jH s.1 s.2) (fun s => jI s.1 s.2) ⟨0, 0⟩ jJ (by exact e1.reg) (by exact bF) ?_
   rintro ⟨n, B⟩ jL jM jN e2 e3
   have e4 : Fr 189 [] [⟨0, [], .slice ao1 u0.length cap2⟩, ⟨11, [], .slice (sm m) a.length l⟩, ⟨18, [], .slice z y.length A⟩, ⟨19, [], pt i 0⟩, ⟨20, [], .func (.func 53) #[] #[pt i 0]⟩, ⟨21, [], i6 n⟩, ⟨137, [], .slice (sm m) a.length l⟩, ⟨138, [], i6 (a.length : Int)⟩, ⟨139, [], i6 B⟩] jM := e2; clear e2 e1
   have Y : Mem w.heap.size [] w Z [.own tySlot 48 z A y, .row i [i6 u.asked] 3, .own tyJob 110 (sm m) l a] O jN := e3; clear e3 bF
   have bG := jK n B jL
   refine sqB e4 Y [] [] [(140, .bool (decide (B < (a.length : Int))))] ?_; intro e5 aU; clear e4
   refine wp_seq ?_
   refine cd aU (t := decide (B < (a.length : Int))) (by kernel_rfl) (fun cp => ?_) (fun cp => ?_)
   ·
    have jO := bG.1 cp; clear bG
    refine wp_skip ?_
    refine thn ?_
    have e6 : Fr 189 [] [⟨0, [], .slice ao1 u0.length cap2⟩, ⟨11, [], .slice (sm m) a.length l⟩, ⟨18, [], .slice z y.length A⟩, ⟨19, [], pt i 0⟩, ⟨20, [], .func (.func 53) #[] #[pt i 0]⟩, ⟨21, [], i6 n⟩, ⟨137, [], .slice (sm m) a.length l⟩, ⟨138, [], i6 (a.length : Int)⟩, ⟨139, [], i6 B⟩] e5 := aU.reg; clear aU
    have cq : Fr 189 [] [⟨0, [], .slice ao1 u0.length cap2⟩, ⟨11, [], .slice (sm m) a.length l⟩, ⟨18, [], .slice z y.length A⟩, ⟨19, [], pt i 0⟩, ⟨20, [], .func (.func 53) #[] #[pt i 0]⟩, ⟨21, [], i6 n⟩, ⟨137, [], .slice (sm m) a.length l⟩, ⟨138, [], i6 (a.length : Int)⟩, ⟨139, [], i6 B⟩] e5 := e6.reg; clear e6
    obtain ⟨jP, jQ, jR⟩ := jO
    refine wp_seq_k fun KJ685 hKJ686 => ?_
    have e7 : ∀ (aa : Int), jP aa → ∀ a1 w1, Fr 189 [] [⟨0, [], .slice ao1 u0.length cap2⟩, ⟨11, [], .slice (sm m) a.length l⟩, ⟨18, [], .slice z y.length A⟩, ⟨19, [], pt i 0⟩, ⟨20, [], .func (.func 53) #[] #[pt i 0]⟩, ⟨21, [], i6 aa⟩, ⟨137, [], .slice (sm m) a.length l⟩, ⟨138, [], i6 (a.length : Int)⟩, ⟨139, [], i6 B⟩] a1 → Mem w.heap.size [] w Z [.own tySlot 48 z A y, .row i [i6 u.asked] 3, .own tyJob 110 (sm m) l a] O w1 → KJ685 a1 w1 := by
     rintro aa jS nL nM e8 e9; clear cq Y
     refine hKJ686 _ _ ?_; clear hKJ686
     have fa := jR aa jS
     refine rgB e8 e9 [] [] [(139, i6 (w64 (B + 1)))] ?_; intro nN jT; clear e8
     refine rd ?_
     exact ⟨⟨aa, w64 (B + 1)⟩, fa.1, fa.2, (jT.reg).anyβ _ (by kernel_rfl), e9.keep (List.Sublist.cons_cons _ (List.Sublist.cons_cons _ (List.Sublist.cons_cons _ (List.Sublist.slnil))))⟩
    refine wp_block ?_
    refine sqH ?_; intro jU fb
    refine s1 cq 141 (i6 B) ?_; intro nO fd; clear cq
    obtain ⟨jV, fe⟩ := jQ
    refine ixo fd Y 2 (T := tyJob) (xs := a) B jV (k := .i64) (e := 110) (bytes := 24) (nog rfl _) rfl (by kernel_rfl) rfl (by kernel_rfl) (by kernel_rfl) rfl (by kernel_rfl) ?_; intro jW nP jX ff; clear fd
    obtain rfl : m = jW := by simpa using jX
    obtain ⟨L, jY, jZ⟩ := gxq fe (by first | omega | (simp only [List.length_set] at *; omega)); clear fe
    obtain ⟨j0, j1, j2⟩ := own_el Y 2 (T := tyJob) (xs := a) rfl B.toNat jY
    obtain rfl : j0 = ((e110Dr L) : List Value) := j1
    refine lc2 ff 143 3 (e110Dr L) j2 rfl ?_; intro nQ fg; clear ff
    refine nw fg Y pb [i6 0, i6 0, i6 0] 110 ?_; intro cr nR nT fh fi; clear fg Y
    refine s1 fh 22 (i6 B) ?_; intro j3 cs; clear fh
    refine sx cs fi 0 (e110Dr L) 0 ?_; intro j4 fj; clear fi
    have fk : Mem w.heap.size [] w Z [.row cr (e110Dr L) 110, .own tySlot 48 z A y, .row i [i6 u.asked] 3, .own tyJob 110 (sm m) l a] O j4 := fj; clear fj
    refine nlH (fb _ _ ?_); clear fb jU
    have fl : Fr 189 [] [⟨0, [], .slice ao1 u0.length cap2⟩, ⟨11, [], .slice (sm m) a.length l⟩, ⟨18, [], .slice z y.length A⟩, ⟨19, [], pt i 0⟩, ⟨20, [], .func (.func 53) #[] #[pt i 0]⟩, ⟨21, [], i6 n⟩, ⟨22, [], i6 B⟩, ⟨23, [], pt cr 0⟩, ⟨137, [], .slice (sm m) a.length l⟩, ⟨138, [], i6 (a.length : Int)⟩, ⟨139, [], i6 B⟩] j3 := cs.reg; clear cs
    refine wp_seq (rgS mixed fk [(0, true), (1, true), (2, true), (3, true), (4, false), (5, false), (6, false)] [6] [0] [.row cr (e110Dr L) 110] ?_)
    intro j5 fm nU am; clear fk
    have fn := Fz.le.refl O
    refine cS fl 4 [0] [] [(144, .func (.func 53) #[] #[pt i 0]), (145, .agg (e110Dr L).toArray), (146, .slice (sm m) a.length l), (147, i6 n)] ?_; intro nV fo; clear fl
    refine eS rfl ?_; intro j6 fp
    obtain ⟨j7, fq⟩ := jZ
    refine ixo fo am 3 (T := tyJob) (xs := a) n j7 (k := .i64) (e := 110) (bytes := 24) (nog rfl _) rfl (by kernel_rfl) rfl (by kernel_rfl) (by kernel_rfl) rfl (by kernel_rfl) ?_; intro j8 nW j9 fr; clear fo
    obtain rfl : m = j8 := by simpa using j9
    refine nl (qnI (fp _ _ (am.cst fn [0]) ?_)); clear fp j6
    refine eS rfl ?_; intro ka fs
    obtain ⟨ah, kb, bH⟩ := gxq fq (by first | omega | (simp only [List.length_set] at *; omega)); clear fq
    obtain ⟨kc, kd, ke⟩ := own_el am 3 (T := tyJob) (xs := a) rfl n.toNat kb
    obtain rfl : kc = ((e110Dr ah) : List Value) := kd
    refine lc2 fr 149 3 (e110Dr ah) ke rfl ?_; intro nX ft; clear fr
    refine nl (qnI (fs _ _ (am.cst fn [0]) ?_)); clear fs ka
    refine eL rfl ?_; intro kf fu
    refine fc ft am ((by obtain ⟨Z9, kg, ct, kh⟩ := am.lendRow 2 rfl; exact ahead_fun L ah u.asked i 0 _ _ kh ct)) ?_; intro nY nZ bI cu; clear ft am
    refine nl (qnI (fu _ _ ?_)); clear fu kf
    refine nS (fm _ _ ?_); clear fm j5
    refine thn ?_
    refine cd bI (t := (ahead L ah u.asked)) (by kernel_rfl) (fun cv => ?_) (fun cv => ?_)
    ·
     have ki := bH.1 cv; clear bH
     refine rgB bI cu [] [] [(21, i6 B)] ?_; intro n0 kj; clear bI
     refine ibn ?_
     refine rd ?_
     exact e7 B ki _ _ ((kj.reg).anyβ _ (by kernel_rfl)) (cu.keep (List.Sublist.cons _ (List.Sublist.cons_cons _ (List.Sublist.cons_cons _ (List.Sublist.cons_cons _ (List.Sublist.slnil))))))
    have kk := bH.2 cv; clear bH
    refine wp_skip ?_
    refine ibn ?_
    refine rd ?_
    exact e7 n kk _ _ ((bI.reg).anyβ _ (by kernel_rfl)) (cu.keep (List.Sublist.cons _ (List.Sublist.cons_cons _ (List.Sublist.cons_cons _ (List.Sublist.cons_cons _ (List.Sublist.slnil))))))
   have kl := bG.2 cp; clear bG
   refine wp_exit ?_
   refine thx ?_
   refine thx ?_
   refine ibx ?_
   refine thn ?_
   refine sqH ?_; intro km fv
   refine bt aU Y 2 [] [] [(153, .slice (sm m) a.length l), (154, i6 n)] ?_; intro n1 fw; clear aU
   obtain ⟨kn, fx⟩ := kl
   refine ixo fw Y 2 (T := tyJob) (xs := a) n kn (k := .i64) (e := 110) (bytes := 24) (nog rfl _) rfl (by kernel_rfl) rfl (by kernel_rfl) (by kernel_rfl) rfl (by kernel_rfl) ?_; intro ko n2 kp fy; clear fw
   obtain rfl : m = ko := by simpa using kp
   obtain ⟨o, kq, kr⟩ := gxq fx (by first | omega | (simp only [List.length_set] at *; omega)); clear fx
   obtain ⟨ks, kt, ku⟩ := own_el Y 2 (T := tyJob) (xs := a) rfl n.toNat kq
   obtain rfl : ks = ((e110Dr o) : List Value) := kt
   refine lc2 fy 156 3 (e110Dr o) ku rfl ?_; intro n3 fA; clear fy
   refine nw fA Y pb [i6 0, i6 0, i6 0] 110 ?_; intro aV n4 n5 cw fB; clear fA Y
   refine sx cw fB 0 (e110Dr o) 0 ?_; intro kv fC; clear fB
   have bJ : Mem w.heap.size [] w Z [.row aV (e110Dr o) 110, .own tySlot 48 z A y, .row i [i6 u.asked] 3, .own tyJob 110 (sm m) l a] O kv := fC; clear fC
   refine nlH (fv _ _ ?_); clear fv km
   refine sqH ?_; intro kw fD
   refine bt cw bJ 4 [] [] [(157, .slice (sm m) a.length l), (158, i6 n), (160, i6 (w64 (n + 1)))] ?_; intro n6 fE; clear cw
   obtain ⟨kx, fF⟩ := kr
   refine ck fE 54 #[.slice (sm m) a.length l, i6 n, i6 (w64 (n + 1))] ?_
   refine (sdel_fun a n (w64 (n + 1)) kx (sm m) l _ _ _ _ _ _ (bJ.perm (pk 3 rfl)) bJ.fz).mono ?_; rintro _ ky ⟨ay, az, aW, rfl, aA, hm⟩; refine ⟨_, rfl, ?_⟩; intro n7 fG; have fH := hm; clear hm bJ fE
   replace aw := aw.mono aA
   replace bB := bB.mono aA
   replace bC := bC.mono aA
   replace aS := aS.mono aA
   replace X := X.mono aA
   replace W := Fz.le.trans W aA
   have aB : Mem w.heap.size [] w Z [.own tyJob 110 ay az (sdelS a n (w64 (n + 1))), .row aV (e110Dr o) 110, .own tySlot 48 z A y, .row i [i6 u.asked] 3] aW ky := fH; clear fH
   have kz := fF (aB.ownSmall 0 rfl); clear fF
   refine s1 fG 11 (.slice ay (sdelS a n (w64 (n + 1))).length az) ?_; intro n8 fI; clear fG
   refine nlH (fD _ _ ?_); clear fD kw
   refine sqH ?_; intro kA fJ
   refine bt fI aB 3 [1] [] [(163, .slice ao1 u0.length cap2), (165, i6 o.task)] ?_; intro n9 fK; clear fI
   obtain ⟨kB, fL⟩ := kz
   refine ix fK (T := tyTask) (xs := u0) aw o.task kB (k := .i64) (e := 34) (bytes := 40) (nog rfl _) rfl (by kernel_rfl) rfl (by kernel_rfl) (by kernel_rfl) (by kernel_rfl) ?_; intro kC kD kE C oa kF kG kH fM; clear fK
   have kI := fL C kF; clear fL
   obtain rfl : kE = ((e34Dr C) : List Value) := kH
   refine s1 fM 167 (.pointer (some ⟨kC, kD + 1, none⟩)) ?_; intro ob fN; clear fM
   refine z1 fN aB 168 kG 1 (i6 C.Bytes) rfl ?_; intro oc fO; clear fN
   refine fc fO aB (flongest_fun false false C.Bytes _ _ aB.fz) ?_; intro od oe fP bK; clear fO aB
   refine bt fP bK 5 [] [] [(25, i6 (flongestS false false C.Bytes).1)] ?_; intro og fQ; clear fP
   refine nlH (fJ _ _ ?_); clear fJ kA
   refine sqH ?_; intro kJ fR
   refine bt fQ bK 10 [1, 1, 3, 3] [] [(181, .agg #[i6 o.task, i6 o.from_, i6 u.asked, i6 (w64 ((w64 (u.asked + (flongestS false false C.Bytes).1)) + 3))])] ?_; intro oh fS; clear fQ
   refine nw fS bK pb [i6 0, i6 0, i6 0, i6 0] 48 ?_; intro cx oi oj cy fT; clear fS bK
   refine sx cy fT 0 [i6 o.task, i6 o.from_, i6 u.asked, i6 (w64 ((w64 (u.asked + (flongestS false false C.Bytes).1)) + 3))] 0 ?_; intro kK fU; clear fT
   have cz : Mem w.heap.size [] w Z [.row cx [i6 o.task, i6 o.from_, i6 u.asked, i6 (w64 ((w64 (u.asked + (flongestS false false C.Bytes).1)) + 3))] 48, .own tyJob 110 ay az (sdelS a n (w64 (n + 1))), .row aV (e110Dr o) 110, .own tySlot 48 z A y, .row i [i6 u.asked] 3] aW kK := fU; clear fU
   refine nlH (fR _ _ ?_); clear fR kJ
   refine sqH ?_; intro kL fV
   refine bt cy cz 2 [0] [] [(182, .slice z y.length A), (183, .agg #[i6 o.task, i6 o.from_, i6 u.asked, i6 (w64 ((w64 (u.asked + (flongestS false false C.Bytes).1)) + 3))])] ?_; intro ok fW; clear cy
   refine nw fW cz (fun b => .slice (sm b) 1 1) [i6 o.task, i6 o.from_, i6 u.asked, i6 (w64 ((w64 (u.asked + (flongestS false false C.Bytes).1)) + 3))] 48 ?_; intro cA ol om fX cB; clear fW cz
   obtain ⟨kM, fY⟩ := kI
   refine ap fX cB 4 (T := tySlot) (xs := y) (ys := [(⟨o.task, o.from_, u.asked, w64 ((w64 (u.asked + (flongestS false false C.Bytes).1)) + 3)⟩ : Slot)]) (ao := z) (cap := A) (ao2 := (sm cA)) (cap2 := 1) (t := 43) (e := 48) (bytes := 32) (nog rfl _) rfl (by kernel_rfl) rfl (by kernel_rfl) (by kernel_rfl) (by kernel_rfl) rfl (Src.row cB 0 rfl (RepAll.one (T := tySlot) (x := (⟨o.task, o.from_, u.asked, w64 ((w64 (u.asked + (flongestS false false C.Bytes).1)) + 3)⟩ : Slot)) rfl)) kM ?_; intro bL bM oo kN op fZ f0; clear fX cB
   have cC : Mem w.heap.size [] w Z [.row cA [i6 o.task, i6 o.from_, i6 u.asked, i6 (w64 ((w64 (u.asked + (flongestS false false C.Bytes).1)) + 3))] 48, .row cx [i6 o.task, i6 o.from_, i6 u.asked, i6 (w64 ((w64 (u.asked + (flongestS false false C.Bytes).1)) + 3))] 48, .own tyJob 110 ay az (sdelS a n (w64 (n + 1))), .row aV (e110Dr o) 110, .own tySlot 48 bL bM (y ++ [(⟨o.task, o.from_, u.asked, w64 ((w64 (u.asked + (flongestS false false C.Bytes).1)) + 3)⟩ : Slot)]), .row i [i6 u.asked] 3] aW kN := f0; clear f0
   refine s1 fZ 18 (.slice bL (y ++ [(⟨o.task, o.from_, u.asked, w64 ((w64 (u.asked + (flongestS false false C.Bytes).1)) + 3)⟩ : Slot)]).length bM) ?_; intro oq f1; clear fZ
   refine nlH (fV _ _ ?_); clear fV kL
   refine rgH ?_; intro kO f2
   refine bt f1 cC 2 [1] [] [(187, i6 (w64 ((w64 (u.asked + (flongestS false false C.Bytes).1)) + 3)))] ?_; intro or f3; clear f1
   refine sx f3 cC 5 [i6 (w64 ((w64 (u.asked + (flongestS false false C.Bytes).1)) + 3))] 0 ?_; intro kP f4; clear cC
   have kQ : Mem w.heap.size [] w Z [.row cA [i6 o.task, i6 o.from_, i6 u.asked, i6 (w64 ((w64 (u.asked + (flongestS false false C.Bytes).1)) + 3))] 48, .row cx [i6 o.task, i6 o.from_, i6 u.asked, i6 (w64 ((w64 (u.asked + (flongestS false false C.Bytes).1)) + 3))] 48, .own tyJob 110 ay az (sdelS a n (w64 (n + 1))), .row aV (e110Dr o) 110, .own tySlot 48 bL bM (y ++ [(⟨o.task, o.from_, u.asked, w64 ((w64 (u.asked + (flongestS false false C.Bytes).1)) + 3)⟩ : Slot)]), .row i [i6 (w64 ((w64 (u.asked + (flongestS false false C.Bytes).1)) + 3))] 3] aW kP := f4; clear f4
   refine nlH (f2 _ _ ?_); clear f2 kO
   refine ibn ?_
   refine rd ?_
   have kR := kQ.perm ((pk 4 rfl).trans (((pk 4 rfl).trans (((pk 2 rfl).trans (lpr.cons _)).cons _)).cons _))
   exact ⟨⟨(sdelS a n (w64 (n + 1))), y ++ [(⟨o.task, o.from_, u.asked, w64 ((w64 (u.asked + (flongestS false false C.Bytes).1)) + 3)⟩ : Slot)], w64 ((w64 (u.asked + (flongestS false false C.Bytes).1)) + 3), ay, az, bL, bM, aW⟩, ⟨fY.1, X⟩, fY.2, (f3.reg).anyβ _ (by kernel_rfl), kR.keep (List.Sublist.cons_cons _ (List.Sublist.cons_cons _ (List.Sublist.cons_cons _ (List.Sublist.cons _ (List.Sublist.cons _ (List.Sublist.cons _ (List.Sublist.slnil)))))))⟩
  have kS := bE.2 cn; clear bE
  refine wp_skip ?_
  refine thn ?_
  refine sqB aT V [] [] [(21, i6 0)] ?_; intro os f5; clear aT
  refine wp_seq ?_
  refine sqB f5 V [] [] [(137, .slice (sm m) a.length l), (138, i6 (a.length : Int)), (139, i6 0)] ?_; intro f6 f7; clear f5
  refine wp_block ?_
  have f8 : Fr 189 [] [⟨0, [], .slice ao1 u0.length cap2⟩, ⟨11, [], .slice (sm m) a.length l⟩, ⟨18, [], .slice z y.length A⟩, ⟨19, [], pt i 0⟩, ⟨20, [], .func (.func 53) #[] #[pt i 0]⟩, ⟨21, [], i6 0⟩, ⟨137, [], .slice (sm m) a.length l⟩, ⟨138, [], i6 (a.length : Int)⟩, ⟨139, [], i6 0⟩] f6 := f7.reg; clear f7
  have f9 : Fr 189 [] [⟨0, [], .slice ao1 u0.length cap2⟩, ⟨11, [], .slice (sm m) a.length l⟩, ⟨18, [], .slice z y.length A⟩, ⟨19, [], pt i 0⟩, ⟨20, [], .func (.func 53) #[] #[pt i 0]⟩, ⟨21, [], i6 0⟩, ⟨137, [], .slice (sm m) a.length l⟩, ⟨138, [], i6 (a.length : Int)⟩, ⟨139, [], i6 0⟩] f6 := f8.reg; clear f8
  obtain ⟨kT, kU, kV, kW⟩ := kS
  refine lp (ι := Int × Int) (fun s => [⟨0, [], .slice ao1 u0.length cap2⟩, ⟨11, [], .slice (sm m) a.length l⟩, ⟨18, [], .slice z y.length A⟩, ⟨19, [], pt i 0⟩, ⟨20, [], .func (.func 53) #[] #[pt i 0]⟩, ⟨21, [], i6 s.1⟩, ⟨137, [], .slice (sm m) a.length l⟩, ⟨138, [], i6 (a.length : Int)⟩, ⟨139, [], i6 s.2⟩]) (fun s => [.own tySlot 48 z A y, .row i [i6 q] 3, .own tyJob 110 (sm m) l a]) (fun s => O) (fun s => kT s.1 s.2) (fun s => kU s.1 s.2) ⟨0, 0⟩ kV (by exact f9.reg) (by exact V) ?_
  rintro ⟨n, B⟩ kX kY kZ ga gb
  have gc : Fr 189 [] [⟨0, [], .slice ao1 u0.length cap2⟩, ⟨11, [], .slice (sm m) a.length l⟩, ⟨18, [], .slice z y.length A⟩, ⟨19, [], pt i 0⟩, ⟨20, [], .func (.func 53) #[] #[pt i 0]⟩, ⟨21, [], i6 n⟩, ⟨137, [], .slice (sm m) a.length l⟩, ⟨138, [], i6 (a.length : Int)⟩, ⟨139, [], i6 B⟩] kY := ga; clear ga f9
  have ab : Mem w.heap.size [] w Z [.own tySlot 48 z A y, .row i [i6 q] 3, .own tyJob 110 (sm m) l a] O kZ := gb; clear gb V
  have bN := kW n B kX
  refine sqB gc ab [] [] [(140, .bool (decide (B < (a.length : Int))))] ?_; intro gd aX; clear gc
  refine wp_seq ?_
  refine cd aX (t := decide (B < (a.length : Int))) (by kernel_rfl) (fun cD => ?_) (fun cD => ?_)
  ·
   have k0 := bN.1 cD; clear bN
   refine wp_skip ?_
   refine thn ?_
   have ge : Fr 189 [] [⟨0, [], .slice ao1 u0.length cap2⟩, ⟨11, [], .slice (sm m) a.length l⟩, ⟨18, [], .slice z y.length A⟩, ⟨19, [], pt i 0⟩, ⟨20, [], .func (.func 53) #[] #[pt i 0]⟩, ⟨21, [], i6 n⟩, ⟨137, [], .slice (sm m) a.length l⟩, ⟨138, [], i6 (a.length : Int)⟩, ⟨139, [], i6 B⟩] gd := aX.reg; clear aX
   have cE : Fr 189 [] [⟨0, [], .slice ao1 u0.length cap2⟩, ⟨11, [], .slice (sm m) a.length l⟩, ⟨18, [], .slice z y.length A⟩, ⟨19, [], pt i 0⟩, ⟨20, [], .func (.func 53) #[] #[pt i 0]⟩, ⟨21, [], i6 n⟩, ⟨137, [], .slice (sm m) a.length l⟩, ⟨138, [], i6 (a.length : Int)⟩, ⟨139, [], i6 B⟩] gd := ge.reg; clear ge
   obtain ⟨k1, k2, k3⟩ := k0
   refine wp_seq_k fun KJ952 hKJ953 => ?_
   have gf : ∀ (aa : Int), k1 aa → ∀ a1 w1, Fr 189 [] [⟨0, [], .slice ao1 u0.length cap2⟩, ⟨11, [], .slice (sm m) a.length l⟩, ⟨18, [], .slice z y.length A⟩, ⟨19, [], pt i 0⟩, ⟨20, [], .func (.func 53) #[] #[pt i 0]⟩, ⟨21, [], i6 aa⟩, ⟨137, [], .slice (sm m) a.length l⟩, ⟨138, [], i6 (a.length : Int)⟩, ⟨139, [], i6 B⟩] a1 → Mem w.heap.size [] w Z [.own tySlot 48 z A y, .row i [i6 q] 3, .own tyJob 110 (sm m) l a] O w1 → KJ952 a1 w1 := by
    rintro aa k4 ot ou gg gh; clear cE ab
    refine hKJ953 _ _ ?_; clear hKJ953
    have gi := k3 aa k4
    refine rgB gg gh [] [] [(139, i6 (w64 (B + 1)))] ?_; intro ov k5; clear gg
    refine rd ?_
    exact ⟨⟨aa, w64 (B + 1)⟩, gi.1, gi.2, (k5.reg).anyβ _ (by kernel_rfl), gh.keep (List.Sublist.cons_cons _ (List.Sublist.cons_cons _ (List.Sublist.cons_cons _ (List.Sublist.slnil))))⟩
   refine wp_block ?_
   refine sqH ?_; intro k6 gj
   refine s1 cE 141 (i6 B) ?_; intro ow gk; clear cE
   obtain ⟨k7, gl⟩ := k2
   refine ixo gk ab 2 (T := tyJob) (xs := a) B k7 (k := .i64) (e := 110) (bytes := 24) (nog rfl _) rfl (by kernel_rfl) rfl (by kernel_rfl) (by kernel_rfl) rfl (by kernel_rfl) ?_; intro k8 ox k9 gm; clear gk
   obtain rfl : m = k8 := by simpa using k9
   obtain ⟨M, la, lb⟩ := gxq gl (by first | omega | (simp only [List.length_set] at *; omega)); clear gl
   obtain ⟨lc, ld, lf⟩ := own_el ab 2 (T := tyJob) (xs := a) rfl B.toNat la
   obtain rfl : lc = ((e110Dr M) : List Value) := ld
   refine lc2 gm 143 3 (e110Dr M) lf rfl ?_; intro oy gn; clear gm
   refine nw gn ab pb [i6 0, i6 0, i6 0] 110 ?_; intro cF oz oA go gp; clear gn ab
   refine s1 go 22 (i6 B) ?_; intro lg cG; clear go
   refine sx cG gp 0 (e110Dr M) 0 ?_; intro lh gq; clear gp
   have gr : Mem w.heap.size [] w Z [.row cF (e110Dr M) 110, .own tySlot 48 z A y, .row i [i6 q] 3, .own tyJob 110 (sm m) l a] O lh := gq; clear gq
   refine nlH (gj _ _ ?_); clear gj k6
   have gs : Fr 189 [] [⟨0, [], .slice ao1 u0.length cap2⟩, ⟨11, [], .slice (sm m) a.length l⟩, ⟨18, [], .slice z y.length A⟩, ⟨19, [], pt i 0⟩, ⟨20, [], .func (.func 53) #[] #[pt i 0]⟩, ⟨21, [], i6 n⟩, ⟨22, [], i6 B⟩, ⟨23, [], pt cF 0⟩, ⟨137, [], .slice (sm m) a.length l⟩, ⟨138, [], i6 (a.length : Int)⟩, ⟨139, [], i6 B⟩] lg := cG.reg; clear cG
   refine wp_seq (rgS mixed gr [(0, true), (1, true), (2, true), (3, true), (4, false), (5, false), (6, false)] [6] [0] [.row cF (e110Dr M) 110] ?_)
   intro li gt oB an; clear gr
   have gu := Fz.le.refl O
   refine cS gs 4 [0] [] [(144, .func (.func 53) #[] #[pt i 0]), (145, .agg (e110Dr M).toArray), (146, .slice (sm m) a.length l), (147, i6 n)] ?_; intro oC gv; clear gs
   refine eS rfl ?_; intro lj gw
   obtain ⟨lk, gx⟩ := lb
   refine ixo gv an 3 (T := tyJob) (xs := a) n lk (k := .i64) (e := 110) (bytes := 24) (nog rfl _) rfl (by kernel_rfl) rfl (by kernel_rfl) (by kernel_rfl) rfl (by kernel_rfl) ?_; intro ll oD lm gy; clear gv
   obtain rfl : m = ll := by simpa using lm
   refine nl (qnI (gw _ _ (an.cst gu [0]) ?_)); clear gw lj
   refine eS rfl ?_; intro ln gz
   obtain ⟨ai, lo, bO⟩ := gxq gx (by first | omega | (simp only [List.length_set] at *; omega)); clear gx
   obtain ⟨lq, lr, ls⟩ := own_el an 3 (T := tyJob) (xs := a) rfl n.toNat lo
   obtain rfl : lq = ((e110Dr ai) : List Value) := lr
   refine lc2 gy 149 3 (e110Dr ai) ls rfl ?_; intro oE gA; clear gy
   refine nl (qnI (gz _ _ (an.cst gu [0]) ?_)); clear gz ln
   refine eL rfl ?_; intro lt gB
   refine fc gA an ((by obtain ⟨Z9, kg, ct, lu⟩ := an.lendRow 2 rfl; exact ahead_fun M ai q i 0 _ _ lu ct)) ?_; intro oF oG bP cH; clear gA an
   refine nl (qnI (gB _ _ ?_)); clear gB lt
   refine nS (gt _ _ ?_); clear gt li
   refine thn ?_
   refine cd bP (t := (ahead M ai q)) (by kernel_rfl) (fun cI => ?_) (fun cI => ?_)
   ·
    have lv := bO.1 cI; clear bO
    refine rgB bP cH [] [] [(21, i6 B)] ?_; intro oH lw; clear bP
    refine ibn ?_
    refine rd ?_
    exact gf B lv _ _ ((lw.reg).anyβ _ (by kernel_rfl)) (cH.keep (List.Sublist.cons _ (List.Sublist.cons_cons _ (List.Sublist.cons_cons _ (List.Sublist.cons_cons _ (List.Sublist.slnil))))))
   have lx := bO.2 cI; clear bO
   refine wp_skip ?_
   refine ibn ?_
   refine rd ?_
   exact gf n lx _ _ ((bP.reg).anyβ _ (by kernel_rfl)) (cH.keep (List.Sublist.cons _ (List.Sublist.cons_cons _ (List.Sublist.cons_cons _ (List.Sublist.cons_cons _ (List.Sublist.slnil))))))
  have ly := bN.2 cD; clear bN
  refine wp_exit ?_
  refine thx ?_
  refine thx ?_
  refine ibx ?_
  refine thn ?_
  refine sqH ?_; intro lA gC
  refine bt aX ab 2 [] [] [(153, .slice (sm m) a.length l), (154, i6 n)] ?_; intro oI gD; clear aX
  obtain ⟨lB, gE⟩ := ly
  refine ixo gD ab 2 (T := tyJob) (xs := a) n lB (k := .i64) (e := 110) (bytes := 24) (nog rfl _) rfl (by kernel_rfl) rfl (by kernel_rfl) (by kernel_rfl) rfl (by kernel_rfl) ?_; intro lC oJ lD gF; clear gD
  obtain rfl : m = lC := by simpa using lD
  obtain ⟨p, lE, lF⟩ := gxq gE (by first | omega | (simp only [List.length_set] at *; omega)); clear gE
  obtain ⟨lG, lH, lI⟩ := own_el ab 2 (T := tyJob) (xs := a) rfl n.toNat lE
  obtain rfl : lG = ((e110Dr p) : List Value) := lH
  refine lc2 gF 156 3 (e110Dr p) lI rfl ?_; intro oK gG; clear gF
  refine nw gG ab pb [i6 0, i6 0, i6 0] 110 ?_; intro aY oL oM cJ gH; clear gG ab
  refine sx cJ gH 0 (e110Dr p) 0 ?_; intro lJ gI; clear gH
  have bQ : Mem w.heap.size [] w Z [.row aY (e110Dr p) 110, .own tySlot 48 z A y, .row i [i6 q] 3, .own tyJob 110 (sm m) l a] O lJ := gI; clear gI
  refine nlH (gC _ _ ?_); clear gC lA
  refine sqH ?_; intro lK gJ
  refine bt cJ bQ 4 [] [] [(157, .slice (sm m) a.length l), (158, i6 n), (160, i6 (w64 (n + 1)))] ?_; intro oN gK; clear cJ
  obtain ⟨lL, gL⟩ := lF
  refine ck gK 54 #[.slice (sm m) a.length l, i6 n, i6 (w64 (n + 1))] ?_
  refine (sdel_fun a n (w64 (n + 1)) lL (sm m) l _ _ _ _ _ _ (bQ.perm (pk 3 rfl)) bQ.fz).mono ?_; rintro _ lM ⟨aC, aD, aZ, rfl, aE, hm⟩; refine ⟨_, rfl, ?_⟩; intro oO gM; have gN := hm; clear hm bQ gK
  replace aw := aw.mono aE
  replace bB := bB.mono aE
  replace bC := bC.mono aE
  replace aS := aS.mono aE
  replace X := X.mono aE
  replace W := Fz.le.trans W aE
  have aF : Mem w.heap.size [] w Z [.own tyJob 110 aC aD (sdelS a n (w64 (n + 1))), .row aY (e110Dr p) 110, .own tySlot 48 z A y, .row i [i6 q] 3] aZ lM := gN; clear gN
  have lN := gL (aF.ownSmall 0 rfl); clear gL
  refine s1 gM 11 (.slice aC (sdelS a n (w64 (n + 1))).length aD) ?_; intro oP gO; clear gM
  refine nlH (gJ _ _ ?_); clear gJ lK
  refine sqH ?_; intro lO gP
  refine bt gO aF 3 [1] [] [(163, .slice ao1 u0.length cap2), (165, i6 p.task)] ?_; intro oQ gQ; clear gO
  obtain ⟨lP, gR⟩ := lN
  refine ix gQ (T := tyTask) (xs := u0) aw p.task lP (k := .i64) (e := 34) (bytes := 40) (nog rfl _) rfl (by kernel_rfl) rfl (by kernel_rfl) (by kernel_rfl) (by kernel_rfl) ?_; intro lQ lR lS D oR lT lU lV gS; clear gQ
  have lW := gR D lT; clear gR
  obtain rfl : lS = ((e34Dr D) : List Value) := lV
  refine s1 gS 167 (.pointer (some ⟨lQ, lR + 1, none⟩)) ?_; intro oS gT; clear gS
  refine z1 gT aF 168 lU 1 (i6 D.Bytes) rfl ?_; intro oT gU; clear gT
  refine fc gU aF (flongest_fun false false D.Bytes _ _ aF.fz) ?_; intro oU oV gV bR; clear gU aF
  refine bt gV bR 5 [] [] [(25, i6 (flongestS false false D.Bytes).1)] ?_; intro oW gW; clear gV
  refine nlH (gP _ _ ?_); clear gP lO
  refine sqH ?_; intro lX gX
  refine bt gW bR 10 [1, 1, 3, 3] [] [(181, .agg #[i6 p.task, i6 p.from_, i6 q, i6 (w64 ((w64 (q + (flongestS false false D.Bytes).1)) + 3))])] ?_; intro oX gY; clear gW
  refine nw gY bR pb [i6 0, i6 0, i6 0, i6 0] 48 ?_; intro cK oY oZ cL gZ; clear gY bR
  refine sx cL gZ 0 [i6 p.task, i6 p.from_, i6 q, i6 (w64 ((w64 (q + (flongestS false false D.Bytes).1)) + 3))] 0 ?_; intro lY g0; clear gZ
  have cM : Mem w.heap.size [] w Z [.row cK [i6 p.task, i6 p.from_, i6 q, i6 (w64 ((w64 (q + (flongestS false false D.Bytes).1)) + 3))] 48, .own tyJob 110 aC aD (sdelS a n (w64 (n + 1))), .row aY (e110Dr p) 110, .own tySlot 48 z A y, .row i [i6 q] 3] aZ lY := g0; clear g0
  refine nlH (gX _ _ ?_); clear gX lX
  refine sqH ?_; intro lZ g1
  refine bt cL cM 2 [0] [] [(182, .slice z y.length A), (183, .agg #[i6 p.task, i6 p.from_, i6 q, i6 (w64 ((w64 (q + (flongestS false false D.Bytes).1)) + 3))])] ?_; intro o0 g2; clear cL
  refine nw g2 cM (fun b => .slice (sm b) 1 1) [i6 p.task, i6 p.from_, i6 q, i6 (w64 ((w64 (q + (flongestS false false D.Bytes).1)) + 3))] 48 ?_; intro cN o1 o2 g3 cO; clear g2 cM
  obtain ⟨l0, g4⟩ := lW
  refine ap g3 cO 4 (T := tySlot) (xs := y) (ys := [(⟨p.task, p.from_, q, w64 ((w64 (q + (flongestS false false D.Bytes).1)) + 3)⟩ : Slot)]) (ao := z) (cap := A) (ao2 := (sm cN)) (cap2 := 1) (t := 43) (e := 48) (bytes := 32) (nog rfl _) rfl (by kernel_rfl) rfl (by kernel_rfl) (by kernel_rfl) (by kernel_rfl) rfl (Src.row cO 0 rfl (RepAll.one (T := tySlot) (x := (⟨p.task, p.from_, q, w64 ((w64 (q + (flongestS false false D.Bytes).1)) + 3)⟩ : Slot)) rfl)) l0 ?_; intro bS bT o3 l1 o4 g5 g6; clear g3 cO
  have cP : Mem w.heap.size [] w Z [.row cN [i6 p.task, i6 p.from_, i6 q, i6 (w64 ((w64 (q + (flongestS false false D.Bytes).1)) + 3))] 48, .row cK [i6 p.task, i6 p.from_, i6 q, i6 (w64 ((w64 (q + (flongestS false false D.Bytes).1)) + 3))] 48, .own tyJob 110 aC aD (sdelS a n (w64 (n + 1))), .row aY (e110Dr p) 110, .own tySlot 48 bS bT (y ++ [(⟨p.task, p.from_, q, w64 ((w64 (q + (flongestS false false D.Bytes).1)) + 3)⟩ : Slot)]), .row i [i6 q] 3] aZ l1 := g6; clear g6
  refine s1 g5 18 (.slice bS (y ++ [(⟨p.task, p.from_, q, w64 ((w64 (q + (flongestS false false D.Bytes).1)) + 3)⟩ : Slot)]).length bT) ?_; intro o5 g7; clear g5
  refine nlH (g1 _ _ ?_); clear g1 lZ
  refine rgH ?_; intro l2 g8
  refine bt g7 cP 2 [1] [] [(187, i6 (w64 ((w64 (q + (flongestS false false D.Bytes).1)) + 3)))] ?_; intro o6 g9; clear g7
  refine sx g9 cP 5 [i6 (w64 ((w64 (q + (flongestS false false D.Bytes).1)) + 3))] 0 ?_; intro l3 ha; clear cP
  have l4 : Mem w.heap.size [] w Z [.row cN [i6 p.task, i6 p.from_, i6 q, i6 (w64 ((w64 (q + (flongestS false false D.Bytes).1)) + 3))] 48, .row cK [i6 p.task, i6 p.from_, i6 q, i6 (w64 ((w64 (q + (flongestS false false D.Bytes).1)) + 3))] 48, .own tyJob 110 aC aD (sdelS a n (w64 (n + 1))), .row aY (e110Dr p) 110, .own tySlot 48 bS bT (y ++ [(⟨p.task, p.from_, q, w64 ((w64 (q + (flongestS false false D.Bytes).1)) + 3)⟩ : Slot)]), .row i [i6 (w64 ((w64 (q + (flongestS false false D.Bytes).1)) + 3))] 3] aZ l3 := ha; clear ha
  refine nlH (g8 _ _ ?_); clear g8 l2
  refine ibn ?_
  refine rd ?_
  have l5 := l4.perm ((pk 4 rfl).trans (((pk 4 rfl).trans (((pk 2 rfl).trans (lpr.cons _)).cons _)).cons _))
  exact ⟨⟨(sdelS a n (w64 (n + 1))), y ++ [(⟨p.task, p.from_, q, w64 ((w64 (q + (flongestS false false D.Bytes).1)) + 3)⟩ : Slot)], w64 ((w64 (q + (flongestS false false D.Bytes).1)) + 3), aC, aD, bS, bT, aZ⟩, ⟨g4.1, X⟩, g4.2, (g9.reg).anyβ _ (by kernel_rfl), l5.keep (List.Sublist.cons_cons _ (List.Sublist.cons_cons _ (List.Sublist.cons_cons _ (List.Sublist.cons _ (List.Sublist.cons _ (List.Sublist.cons _ (List.Sublist.slnil)))))))⟩
 have l6 := bA.2 cm; clear bA
 refine wp_exit ?_
 refine thx ?_
 refine thx ?_
 refine ibx ?_
 refine rd ?_
 exact i9 y q z A O ⟨l6, aS⟩ _ _ ((bD.reg).anyβ _ (by kernel_rfl)) (bz.keep (List.Sublist.cons_cons _ (List.Sublist.cons_cons _ (List.Sublist.cons _ (List.Sublist.slnil)))))

end Go.Proofs.Ytginlmgkimfjmaa
set_option linter.unusedVariables false
set_option linter.unusedSimpArgs false
set_option maxRecDepth 100000
set_option maxHeartbeats 0
namespace Go.Proofs.Ytginlmgkimfjmaa
open Go.Sy Go.RowKit
abbrev e48Oa (X : Slot) : List Value := [i6 X.Task, i6 X.Asked, i6 X.From, i6 X.End]
theorem splay_fun (u0 : List Task) (u1 : List Int) (u2 : List Int) (u3 : Int) (ao1 : Option Addr) (cap2 : Nat) (ao4 : Option Addr) (cap5 : Nat) (ao7 : Option Addr) (cap8 : Nat) (Z : Fz) (w : World) (hs3 : SlR tyTask Z ao1 cap2 u0) (hs6 : SlR t6 Z ao4 cap5 u1) (hs9 : SlR t6 Z ao7 cap8 u2) (hZ : Z.on w) : Calls Try.prog 18 #[.slice ao1 u0.length cap2, .slice ao4 u1.length cap5, .slice ao7 u2.length cap8, i6 u3] w fun e w' => ∃ (ao1001 : Option Addr) (cap1002 : Nat) (Z' : Fz), e = .returned (.tuple #[.slice ao1001 (playS u0 u1 u2 u3).1.length cap1002, i6 (playS u0 u1 u2 u3).2]) ∧ Mem w.heap.size [] w Z [.own tySlot 48 ao1001 cap1002 (playS u0 u1 u2 u3).1] Z' w' :=
  (splay_walk u0 u1 u2 u3 ao1 cap2 ao4 cap5 ao7 cap8 Z w hs3 hs6 hs9 hZ (splay_ok u0 u1 u2 u3)).mono fun _ _ ⟨r, h0, h1, h2, he, hk, hm⟩ => by subst hk; exact ⟨h0, h1, h2, he, hm⟩

theorem sleq_walk (u0 : List Slot) (u1 : List Slot) (ao1 : Option Addr) (cap2 : Nat) (ao4 : Option Addr) (cap5 : Nat) (Z : Fz) (w : World) (hs3 : SlR tySlot Z ao1 cap2 u0) (hs6 : SlR tySlot Z ao4 cap5 u1) (hZ : Z.on w) {K : Bool → Prop} (hp : sleq_vc u0 u1 K) : Calls Try.prog 56 #[.slice ao1 u0.length cap2, .slice ao4 u1.length cap5] w fun e w' => ∃ r : Bool, e = .returned (.bool r) ∧ K r ∧ Below w.heap.size w w' := by
 refine enter0 Try.func56 rfl rfl (by kernel_rfl) ?_; intro a0 B; have f := Mem.start w Z hZ; have aE := Fz.le.refl Z
 have C := hp (hs3.small); clear hp
 have n := C (hs6.small); clear C
 refine sqB B f [] [] [] ?_; intro aF D; clear B
 refine wp_seq ?_
 refine sqB D f [] [] [(10, .bool ((u0.length : Int) != (u1.length : Int)))] ?_; intro aG i; clear D
 refine cd i (t := (u0.length : Int) != (u1.length : Int)) (by kernel_rfl) (fun u => ?_) (fun u => ?_)
 · -- yes
  have Y := n.1 u; clear n
  refine sqB i f [] [] [(4, .bool false)] ?_; intro aH aa; clear i
  refine wp_ret ?_
  refine thr ?_
  refine ra1 aa (.bool false) ?_
  exact ⟨false, rfl, Y, f.below⟩
 · -- no
  have ab := n.2 u; clear n
  refine wp_skip ?_
  refine thn ?_
  refine wp_seq ?_
  refine sqB i f [] [] [(12, i6 (u0.length : Int)), (13, i6 0)] ?_; intro E F; clear i
  refine wp_block ?_
  have G : Fr 26 [] [⟨0, [], .slice ao1 u0.length cap2⟩, ⟨1, [], .slice ao4 u1.length cap5⟩, ⟨12, [], i6 (u0.length : Int)⟩, ⟨13, [], i6 0⟩] E := F.region (by kernel_rfl) (by kernel_rfl); clear F
  have H : Fr 26 [] [⟨0, [], .slice ao1 u0.length cap2⟩, ⟨1, [], .slice ao4 u1.length cap5⟩, ⟨12, [], i6 (u0.length : Int)⟩, ⟨13, [], i6 0⟩] E := G.region (by kernel_rfl) (by kernel_rfl); clear G
  obtain ⟨ac, ad, ae, af⟩ := ab
  refine lp (ι := Int) (fun s => [⟨0, [], .slice ao1 u0.length cap2⟩, ⟨1, [], .slice ao4 u1.length cap5⟩, ⟨12, [], i6 (u0.length : Int)⟩, ⟨13, [], i6 s⟩]) (fun s => []) (fun s => Z) (fun s => ac s) (fun s => ad s) 0 ae (by exact H.region (by kernel_rfl) (by kernel_rfl)) (by exact f) ?_
  rintro d ag ah ai I J
  have L : Fr 26 [] [⟨0, [], .slice ao1 u0.length cap2⟩, ⟨1, [], .slice ao4 u1.length cap5⟩, ⟨12, [], i6 (u0.length : Int)⟩, ⟨13, [], i6 d⟩] ah := I; clear I H
  have h : Mem w.heap.size [] w Z [] Z ai := J; clear J f
  have o := af d ag
  refine sqB L h [] [] [(14, .bool (decide (d < (u0.length : Int))))] ?_; intro aI j; clear L
  refine wp_seq ?_
  refine cd j (t := decide (d < (u0.length : Int))) (by kernel_rfl) (fun v => ?_) (fun v => ?_)
  · -- yes
   have aj := o.1 v; clear o
   refine wp_skip ?_
   refine thn ?_
   refine wp_seq ?_
   refine wp_block ?_
   refine sqB j h [] [] [(5, i6 d)] ?_; intro ak M; clear j
   have N : Fr 26 [] [⟨0, [], .slice ao1 u0.length cap2⟩, ⟨1, [], .slice ao4 u1.length cap5⟩, ⟨5, [], i6 d⟩, ⟨12, [], i6 (u0.length : Int)⟩, ⟨13, [], i6 d⟩] ak := M.region (by kernel_rfl) (by kernel_rfl); clear M
   refine sqQH mixed (by kernel_rfl) h ?_; intro al O
   refine q1 N 16 (.slice ao1 u0.length cap2) ?_; intro aJ P; clear N
   refine q1 P 17 (i6 d) ?_; intro aK Q; clear P
   obtain ⟨am, R⟩ := aj
   refine qix Q (T := tySlot) (xs := u0) hs3 d am (k := .i64) (e := 48) (bytes := 32) (nog rfl _) rfl (by kernel_rfl) rfl (by kernel_rfl) (by kernel_rfl) (by kernel_rfl) ?_; intro aL aM an a aN ao ap aq x; clear Q
   have ar := R a ao; clear R
   obtain rfl : an = ((e48Oa a) : List Value) := aq
   refine qst x (.agg (e48Oa a).toArray) (nog rfl _) rfl (by kernel_rfl) (fun v81 hC => lza x hC.fz ap 0 (g := []) (m := 4) (vs := (e48Oa a)) rfl (by kernel_rfl) (by kernel_rfl) (by kernel_rfl) (by kernel_rfl) rfl) ?_; intro aO S; clear x
   refine q1 S 20 (.slice ao4 u1.length cap5) ?_; intro aP U; clear S
   refine q1 U 21 (i6 d) ?_; intro aQ V; clear U
   obtain ⟨au, W⟩ := ar
   refine qix V (T := tySlot) (xs := u1) hs6 d au (k := .i64) (e := 48) (bytes := 32) (nog rfl _) rfl (by kernel_rfl) rfl (by kernel_rfl) (by kernel_rfl) (by kernel_rfl) ?_; intro aR aS av c aT aw ax ay y; clear V
   have p := W c aw; clear W
   obtain rfl : av = ((e48Oa c) : List Value) := ay
   refine qst y (.agg (e48Oa c).toArray) (nog rfl _) rfl (by kernel_rfl) (fun v103 hC => lza y hC.fz ax 0 (g := []) (m := 4) (vs := (e48Oa c)) rfl (by kernel_rfl) (by kernel_rfl) (by kernel_rfl) (by kernel_rfl) rfl) ?_; intro aU z; clear y
   refine qst z (.bool (!((a.Task == c.Task) && ((a.Asked == c.Asked) && ((a.From == c.From) && ((a.End == c.End) && true)))))) (nog rfl _) rfl (by kernel_rfl) (fun v106 hC => nes_run z (g := []) (xs := (e48Oa a).toArray) (ys := (e48Oa c).toArray) (b := (a.Task == c.Task) && ((a.Asked == c.Asked) && ((a.From == c.From) && ((a.End == c.End) && true)))) rfl (by kernel_rfl) (by kernel_rfl) (by kernel_rfl) (by kernel_rfl) rfl) ?_; intro aV l; clear z
   refine qnl (O _ ?_); clear O al; intro aW q; clear h
   refine cd l (t := !((a.Task == c.Task) && ((a.Asked == c.Asked) && ((a.From == c.From) && ((a.End == c.End) && true))))) (by kernel_rfl) (fun A => ?_) (fun A => ?_)
   · -- yes
    have az := p.1 A; clear p
    refine sqB l q [] [] [(4, .bool false)] ?_; intro aX aA; clear l
    refine wp_ret ?_
    refine ibr ?_
    refine thr ?_
    refine thr ?_
    refine ibr ?_
    refine thr ?_
    refine ra1 aA (.bool false) ?_
    exact ⟨false, rfl, az, q.below⟩
   · -- no
    have X := p.2 A; clear p
    refine wp_skip ?_
    refine ibn ?_
    refine thn ?_
    refine rgB l q [] [] [(13, i6 (w64 (d + 1)))] ?_; intro aY aB; clear l
    refine rd ?_
    exact ⟨w64 (d + 1), X.1, X.2, (aB.region (by kernel_rfl) (by kernel_rfl)).anyβ _ (by kernel_rfl), q.keep (List.Sublist.slnil)⟩
  · -- no
   have aC := o.2 v; clear o
   refine wp_exit ?_
   refine thx ?_
   refine thx ?_
   refine ibx ?_
   refine thn ?_
   refine sqB j h [] [] [(4, .bool true)] ?_; intro aZ aD; clear j
   refine wp_ret ?_
   refine ra1 aD (.bool true) ?_
   exact ⟨true, rfl, aC, h.below⟩

end Go.Proofs.Ytginlmgkimfjmaa
set_option linter.unusedVariables false
set_option linter.unusedSimpArgs false
set_option maxRecDepth 100000
set_option maxHeartbeats 0
namespace Go.Proofs.Ytginlmgkimfjmaa
open Go.Sy Go.RowKit
theorem sleq_fun (u0 : List Slot) (u1 : List Slot) (ao1 : Option Addr) (cap2 : Nat) (ao4 : Option Addr) (cap5 : Nat) (Z : Fz) (w : World) (hs3 : SlR tySlot Z ao1 cap2 u0) (hs6 : SlR tySlot Z ao4 cap5 u1) (hZ : Z.on w) : Calls Try.prog 56 #[.slice ao1 u0.length cap2, .slice ao4 u1.length cap5] w fun e w' => e = .returned (.bool (sleqS u0 u1)) ∧ Below w.heap.size w w' :=
  (sleq_walk u0 u1 ao1 cap2 ao4 cap5 Z w hs3 hs6 hZ (sleq_ok u0 u1)).mono fun _ _ ⟨r, he, hk, hb⟩ => ⟨by subst hk; exact he, hb⟩

theorem played_walk   (Z : Fz) (w : World)  (hZ : Z.on w) {K : Bool → Prop} (hp : played_vc  K) : Calls Try.prog 19 #[] w fun e w' => ∃ r : Bool, e = .returned (.bool r) ∧ K r ∧ Below w.heap.size w w' := by
 refine enter0 Try.func19 rfl rfl (by kernel_rfl) ?_; intro a0 I; have l := Mem.start w Z hZ; have a := Fz.le.refl Z
 refine sqB I l [] [] [] ?_; intro a2 J; clear I
 refine sqH ?_; intro aj L
 refine ck J 49 #[] ?_
 refine (dtasks_fun  _ _ l.fz).mono ?_; rintro _ ak ⟨t, u, al, rfl, hm⟩; refine ⟨_, rfl, ?_⟩; intro a6 M; have N := l.callZ hm; have am := hm.ext.le; clear hm l J
 replace a := Fz.le.trans a am
 have y : Mem w.heap.size [] w Z [.own tyTask 34 t u tasksS] al ak := N; clear N
 have O := hp (y.ownSmall 0 rfl); clear hp
 refine nw M y (fun b => .slice (sm b) 2 2) [i6 5, i6 5] 3 ?_; intro m aD z P an; clear M y
 obtain ⟨Q, ao, R, f⟩ := an.freeze 1 rfl
 replace a := Fz.le.trans a ao
 have S : Mem w.heap.size [] w Z [.row m [i6 5, i6 5] 3] Q z := R; clear R
 have ap : Mem w.heap.size [] w Z [.own t6 3 (sm m) 2 ([5, 5] : List Int)] Q z := S.rowOwn (T := t6) (xs := ([5, 5] : List Int)) 0 rfl (by decide) (by show 2 ≤ lim; decide) ((RepAll.one (T := t6) (x := 5) rfl).append (RepAll.one (T := t6) (x := 5) rfl)); clear S
 obtain ⟨aq, U, V, h⟩ := ap.freeze 0 rfl
 replace f := f.mono U
 replace a := Fz.le.trans a U
 have A : Mem w.heap.size [] w Z [] aq z := V; clear V
 refine ck P 18 #[.slice t tasksS.length u, .slice (sm m) ([5, 5] : List Int).length 2, .slice none 0 0, i6 100] ?_
 refine (splay_fun tasksS ([5, 5] : List Int) [] 100 t u (sm m) 2 none 0 _ _ f h (SlR.nil _ _) A.fz).mono ?_; rintro _ ar ⟨i, j, au, rfl, hm⟩; refine ⟨_, rfl, ?_⟩; intro aE W; have X := A.callZ hm; have B := hm.ext.le; clear hm A P
 replace f := f.mono B
 replace h := h.mono B
 replace a := Fz.le.trans a B
 have g : Mem w.heap.size [] w Z [.own tySlot 48 i j (playS tasksS ([5, 5] : List Int) [] 100).1] au ar := X; clear X
 have n := O (g.ownSmall 0 rfl); clear O
 refine bt W g 5 [] [] [(1, .slice i (playS tasksS ([5, 5] : List Int) [] 100).1.length j), (2, i6 (playS tasksS ([5, 5] : List Int) [] 100).2)] ?_; intro aF Y; clear W
 refine nlH (L _ _ ?_); clear L aj
 refine sqH ?_; intro aa o
 refine bt Y g 3 [] [] [(11, .bool ((playS tasksS ([5, 5] : List Int) [] 100).2 == 0))] ?_; intro aG p; clear Y
 rcases Bool.eq_false_or_eq_true ((playS tasksS ([5, 5] : List Int) [] 100).2 == 0) with k | k
 · -- true
  have av := n.1 k; clear n
  have ab := p.reval (d := 11) (c := []) (v := .bool ((playS tasksS ([5, 5] : List Int) [] 100).2 == 0)) (by kernel_rfl) (.bool true) (by rw [k]); clear p
  refine bt ab g 3 [] [12, 13, 14] [(12, .slice i (playS tasksS ([5, 5] : List Int) [] 100).1.length j), (13, .agg #[i6 0, i6 5, i6 5, i6 140]), (14, .agg #[i6 1, i6 5, i6 140, i6 275])] ?_; intro aH C; clear ab
  refine sn C g (fun b => .slice (sm b) 2 2) [i6 0, i6 5, i6 5, i6 140, i6 1, i6 5, i6 140, i6 275] 48 (by rw [wanted_of C (b := true) rfl rfl (by kernel_rfl) (by kernel_rfl)]; rfl) rfl (by kernel_rfl) (by kernel_rfl) ?_; intro q aI D E aw; clear C g
  obtain ⟨ac, F, ad, G⟩ := aw.freeze 1 rfl
  replace f := f.mono F
  replace h := h.mono F
  replace a := Fz.le.trans a F
  have ae : Mem w.heap.size [] w Z [.row q [i6 0, i6 5, i6 5, i6 140, i6 1, i6 5, i6 140, i6 275] 48] ac D := ad; clear ad
  have ax : Mem w.heap.size [] w Z [.own tySlot 48 (sm q) 2 ([(⟨0, 5, 5, 140⟩ : Slot), (⟨1, 5, 140, 275⟩ : Slot)] : List Slot)] ac D := ae.rowOwn (T := tySlot) (xs := ([(⟨0, 5, 5, 140⟩ : Slot), (⟨1, 5, 140, 275⟩ : Slot)] : List Slot)) 0 rfl (by decide) (by show 2 ≤ lim; decide) ((RepAll.one (T := tySlot) (x := (⟨0, 5, 5, 140⟩ : Slot)) rfl).append (RepAll.one (T := tySlot) (x := (⟨1, 5, 140, 275⟩ : Slot)) rfl)); clear ae
  obtain ⟨ay, s, af, az⟩ := ax.freeze 0 rfl
  replace f := f.mono s
  replace h := h.mono s
  replace G := G.mono s
  replace a := Fz.le.trans a s
  have H : Mem w.heap.size [] w Z [] ay D := af; clear af
  refine fcl E H (.bool (sleqS (playS tasksS ([5, 5] : List Int) [] 100).1 ([(⟨0, 5, 5, 140⟩ : Slot), (⟨1, 5, 140, 275⟩ : Slot)] : List Slot))) 56 #[.slice i (playS tasksS ([5, 5] : List Int) [] 100).1.length j, .slice (sm q) ([(⟨0, 5, 5, 140⟩ : Slot), (⟨1, 5, 140, 275⟩ : Slot)] : List Slot).length 2] (by rw [wanted_of E (b := true) rfl rfl (by kernel_rfl) (by kernel_rfl)]; rfl) rfl (by kernel_rfl) (fun _ => by kernel_rfl) (sleq_fun (playS tasksS ([5, 5] : List Int) [] 100).1 ([(⟨0, 5, 5, 140⟩ : Slot), (⟨1, 5, 140, 275⟩ : Slot)] : List Slot) i j (sm q) 2 _ _ G az H.fz) ?_; intro aJ aK ag ah; clear E H
  refine bt ag ah 2 [] [17] [(0, .bool (sleqS (playS tasksS ([5, 5] : List Int) [] 100).1 ([(⟨0, 5, 5, 140⟩ : Slot), (⟨1, 5, 140, 275⟩ : Slot)] : List Slot)))] ?_; intro aL aA; clear ag
  refine nlH (o _ _ ?_); clear o aa
  refine wp_ret ?_
  refine ra1 aA (.bool (sleqS (playS tasksS ([5, 5] : List Int) [] 100).1 ([(⟨0, 5, 5, 140⟩ : Slot), (⟨1, 5, 140, 275⟩ : Slot)] : List Slot))) ?_
  exact ⟨(sleqS (playS tasksS ([5, 5] : List Int) [] 100).1 ([(⟨0, 5, 5, 140⟩ : Slot), (⟨1, 5, 140, 275⟩ : Slot)] : List Slot)), rfl, av, ah.below⟩
 · -- false
  have aB := n.2 k; clear n
  have ai := p.reval (d := 11) (c := []) (v := .bool ((playS tasksS ([5, 5] : List Int) [] 100).2 == 0)) (by kernel_rfl) (.bool false) (by rw [k]); clear p
  refine bt ai g 7 [] [12, 13, 14, 15, 16, 17] [(0, .bool false)] ?_; intro aM aC; clear ai
  refine nlH (o _ _ ?_); clear o aa
  refine wp_ret ?_
  refine ra1 aC (.bool false) ?_
  exact ⟨false, rfl, aB, g.below⟩

end Go.Proofs.Ytginlmgkimfjmaa
set_option linter.unusedVariables false
set_option linter.unusedSimpArgs false
set_option maxRecDepth 100000
set_option maxHeartbeats 0
namespace Go.Proofs.Ytginlmgkimfjmaa
open Go.Sy Go.RowKit
abbrev e34Oc (X : Task) : List Value := [i6 X.ID, i6 X.Bytes, i6 X.Every, i6 X.Late, i6 X.Jitter]
abbrev e48Oc (X : Slot) : List Value := [i6 X.Task, i6 X.Asked, i6 X.From, i6 X.End]
theorem played_fun   (Z : Fz) (w : World)  (hZ : Z.on w) : Calls Try.prog 19 #[] w fun e w' => e = .returned (.bool true) ∧ Below w.heap.size w w' :=
  (played_walk   Z w  hZ (played_ok )).mono fun _ _ ⟨r, he, hk, hb⟩ => ⟨by subst hk; exact he, hb⟩

theorem LOne_walk (u0 : List Task) (u1 : List Int) (u2 : List Int) (u3 : Int) (ao1 : Option Addr) (cap2 : Nat) (ao4 : Option Addr) (cap5 : Nat) (ao7 : Option Addr) (cap8 : Nat) (Z : Fz) (w : World) (hs3 : SlR tyTask Z ao1 cap2 u0) (hs6 : SlR t6 Z ao4 cap5 u1) (hs9 : SlR t6 Z ao7 cap8 u2) (hZ : Z.on w) {K : Bool → Prop} (hp : LOne_vc u0 u1 u2 u3 K) : Calls Try.prog 5 #[.slice ao1 u0.length cap2, .slice ao4 u1.length cap5, .slice ao7 u2.length cap8, i6 u3] w fun e w' => ∃ r : Bool, e = .returned (.bool r) ∧ K r ∧ Below w.heap.size w w' := by
 refine enter0 Try.func5 rfl rfl (by kernel_rfl) ?_; intro a0 ak; have z := Mem.start w Z hZ; have al := Fz.le.refl Z
 have am := hp (hs3.small); clear hp
 have an := am (hs6.small); clear am
 have ao := an (hs9.small); clear an
 refine sqB ak z [] [] [] ?_; intro c0 ap; clear ak
 refine sqH ?_; intro bH aq
 refine bt ap z 4 [] [] [(22, .slice ao1 u0.length cap2), (23, .slice ao4 u1.length cap5), (24, .slice ao7 u2.length cap8), (25, i6 u3)] ?_; intro c1 ar; clear ap
 refine ck ar 18 #[.slice ao1 u0.length cap2, .slice ao4 u1.length cap5, .slice ao7 u2.length cap8, i6 u3] ?_
 refine (splay_fun u0 u1 u2 u3 ao1 cap2 ao4 cap5 ao7 cap8 _ _ hs3 hs6 hs9 z.fz).mono ?_; rintro _ bI ⟨d, b, i, rfl, hm⟩; refine ⟨_, rfl, ?_⟩; intro c2 au; have av := z.callZ hm; have J := hm.ext.le; clear hm z ar
 replace hs3 := hs3.mono J
 replace hs6 := hs6.mono J
 replace hs9 := hs9.mono J
 replace al := Fz.le.trans al J
 have A : Mem w.heap.size [] w Z [.own tySlot 48 d b (playS u0 u1 u2 u3).1] i bI := av; clear av
 have L := ao (A.ownSmall 0 rfl); clear ao
 refine bt au A 5 [] [] [(9, .slice d (playS u0 u1 u2 u3).1.length b), (10, i6 (playS u0 u1 u2 u3).2)] ?_; intro c3 aw; clear au
 refine nlH (aq _ _ ?_); clear aq bH
 refine wp_seq ?_
 refine sqH ?_; intro bJ ax
 refine fc aw A (played_fun  _ _ A.fz) ?_; intro c4 c5 ay p; clear aw A
 refine bt ay p 5 [] [32, 33, 34] [(34, .bool ((playS u0 u1 u2 u3).2 != 0))] ?_; intro c6 B; clear ay
 refine nlH (ax _ _ ?_); clear ax bJ
 refine cd B (t := (playS u0 u1 u2 u3).2 != 0) (by kernel_rfl) (fun X => ?_) (fun X => ?_)
 · -- yes
  have bK := L.1 X; clear L
  refine sqH ?_; intro bL az
  refine fc B p (played_fun  _ _ p.fz) ?_; intro c7 c8 aA bM; clear B p
  refine s1 aA 8 (.bool true) ?_; intro c9 bN; clear aA
  refine nlH (az _ _ ?_); clear az bL
  refine wp_ret ?_
  refine thr ?_
  refine ra1 bN (.bool true) ?_
  exact ⟨true, rfl, bK, bM.below⟩
 · -- no
  have bO := L.2 X; clear L
  refine wp_skip ?_
  refine thn ?_
  refine sqB B p [] [] [(11, i6 0)] ?_; intro da aB; clear B
  refine sqH ?_; intro bP aC
  refine mkm aB p (fun x : Int => i6 x) (fun x : Int => i6 x) (t := 46) (nog rfl _) rfl (by kernel_rfl) rfl ?_; intro f db bQ aD aE; clear aB p
  have Y : Mem w.heap.size [] w Z [.map (fun x : Int => i6 x) (fun x : Int => i6 x) f ([] : List (Int × Int)), .own tySlot 48 d b (playS u0 u1 u2 u3).1] i bQ := aE; clear aE
  refine s1 aD 12 (.map (some f)) ?_; intro dc aF; clear aD
  refine nlH (aC _ _ ?_); clear aC bP
  refine wp_seq ?_
  refine sqB aF Y [] [] [(37, .slice d (playS u0 u1 u2 u3).1.length b), (38, i6 ((playS u0 u1 u2 u3).1.length : Int)), (39, i6 0)] ?_; intro aG aH; clear aF
  refine wp_block ?_
  have aI : Fr 108 [] [⟨0, [], .slice ao1 u0.length cap2⟩, ⟨1, [], .slice ao4 u1.length cap5⟩, ⟨3, [], i6 u3⟩, ⟨9, [], .slice d (playS u0 u1 u2 u3).1.length b⟩, ⟨11, [], i6 0⟩, ⟨12, [], .map (some f)⟩, ⟨37, [], .slice d (playS u0 u1 u2 u3).1.length b⟩, ⟨38, [], i6 ((playS u0 u1 u2 u3).1.length : Int)⟩, ⟨39, [], i6 0⟩] aG := aH.region (by kernel_rfl) (by kernel_rfl); clear aH
  have aJ : Fr 108 [] [⟨0, [], .slice ao1 u0.length cap2⟩, ⟨1, [], .slice ao4 u1.length cap5⟩, ⟨3, [], i6 u3⟩, ⟨9, [], .slice d (playS u0 u1 u2 u3).1.length b⟩, ⟨11, [], i6 0⟩, ⟨12, [], .map (some f)⟩, ⟨37, [], .slice d (playS u0 u1 u2 u3).1.length b⟩, ⟨38, [], i6 ((playS u0 u1 u2 u3).1.length : Int)⟩, ⟨39, [], i6 0⟩] aG := aI.region (by kernel_rfl) (by kernel_rfl); clear aI
  obtain ⟨bR, bS, bT, bU⟩ := bO
  refine lp (ι := Int × Int × (List (Int × Int))) (fun s => [⟨0, [], .slice ao1 u0.length cap2⟩, ⟨1, [], .slice ao4 u1.length cap5⟩, ⟨3, [], i6 u3⟩, ⟨9, [], .slice d (playS u0 u1 u2 u3).1.length b⟩, ⟨11, [], i6 s.1⟩, ⟨12, [], .map (some f)⟩, ⟨37, [], .slice d (playS u0 u1 u2 u3).1.length b⟩, ⟨38, [], i6 ((playS u0 u1 u2 u3).1.length : Int)⟩, ⟨39, [], i6 s.2.1⟩]) (fun s => [.map (fun x : Int => i6 x) (fun x : Int => i6 x) f s.2.2, .own tySlot 48 d b (playS u0 u1 u2 u3).1]) (fun s => i) (fun s => bR s.1 s.2.1 s.2.2) (fun s => bS s.1 s.2.1 s.2.2) ⟨0, 0, ([] : List (Int × Int))⟩ bT (by exact aJ.region (by kernel_rfl) (by kernel_rfl)) (by exact Y) ?_
  rintro ⟨M, n, g⟩ bV bW bX aK aL
  have aM : Fr 108 [] [⟨0, [], .slice ao1 u0.length cap2⟩, ⟨1, [], .slice ao4 u1.length cap5⟩, ⟨3, [], i6 u3⟩, ⟨9, [], .slice d (playS u0 u1 u2 u3).1.length b⟩, ⟨11, [], i6 M⟩, ⟨12, [], .map (some f)⟩, ⟨37, [], .slice d (playS u0 u1 u2 u3).1.length b⟩, ⟨38, [], i6 ((playS u0 u1 u2 u3).1.length : Int)⟩, ⟨39, [], i6 n⟩] bW := aK; clear aK aJ
  have o : Mem w.heap.size [] w Z [.map (fun x : Int => i6 x) (fun x : Int => i6 x) f g, .own tySlot 48 d b (playS u0 u1 u2 u3).1] i bX := aL; clear aL Y
  have N := bU M n g bV
  refine sqB aM o [] [] [(40, .bool (decide (n < ((playS u0 u1 u2 u3).1.length : Int))))] ?_; intro dd C; clear aM
  refine wp_seq ?_
  refine cd C (t := decide (n < ((playS u0 u1 u2 u3).1.length : Int))) (by kernel_rfl) (fun aa => ?_) (fun aa => ?_)
  · -- yes
   have bY := N.1 aa; clear N
   refine wp_skip ?_
   refine thn ?_
   refine wp_seq ?_
   refine wp_block ?_
   refine sqH ?_; intro bZ aN
   obtain ⟨b0, aO⟩ := bY
   refine ixo C o 1 (T := tySlot) (xs := (playS u0 u1 u2 u3).1) n b0 (k := .i64) (e := 48) (bytes := 32) (nog rfl _) rfl (by kernel_rfl) rfl (by kernel_rfl) (by kernel_rfl) rfl (by kernel_rfl) ?_; intro O de b1 aP; clear C
   subst b1
   obtain ⟨a, b2, P⟩ := gxq aO (by first | omega | (simp only [List.length_set] at *; omega)); clear aO
   obtain ⟨b3, b4, b5⟩ := own_el o 1 (T := tySlot) (xs := (playS u0 u1 u2 u3).1) rfl n.toNat b2
   obtain rfl : b3 = ((e48Oc a) : List Value) := b4
   refine lc2 aP 42 4 (e48Oc a) b5 rfl ?_; intro df aQ; clear aP
   refine nw aQ o pb [i6 0, i6 0, i6 0, i6 0] 48 ?_; intro Q dg dh ab aR; clear aQ o
   refine sx ab aR 0 (e48Oc a) 0 ?_; intro b6 aS; clear aR
   have j : Mem w.heap.size [] w Z [.row Q (e48Oc a) 48, .map (fun x : Int => i6 x) (fun x : Int => i6 x) f g, .own tySlot 48 (sm O) b (playS u0 u1 u2 u3).1] i b6 := aS; clear aS
   refine nlH (aN _ _ ?_); clear aN bZ
   refine wp_seq ?_
   refine sqB ab j [0, 0, 0, 0, 0] [] [(60, .bool (((decide (a.From < M)) || (decide (a.Asked > a.From))) || (decide (a.End ≤ a.From))))] ?_; intro di D; clear ab
   refine cd D (t := ((decide (a.From < M)) || (decide (a.Asked > a.From))) || (decide (a.End ≤ a.From))) (by kernel_rfl) (fun ac => ?_) (fun ac => ?_)
   · -- yes
    have b7 := P.1 ac; clear P
    refine sqB D j [] [] [(8, .bool false)] ?_; intro dj b8; clear D
    refine wp_ret ?_
    refine thr ?_
    refine ibr ?_
    refine thr ?_
    refine thr ?_
    refine ibr ?_
    refine thr ?_
    refine ra1 b8 (.bool false) ?_
    exact ⟨false, rfl, b7, j.below⟩
   · -- no
    have R := P.2 ac; clear P
    refine wp_skip ?_
    refine thn ?_
    refine wp_seq ?_
    refine sqH ?_; intro b9 aT
    refine bt D j 3 [0] [] [(62, .map (some f)), (64, i6 a.Task)] ?_; intro dk aU; clear D
    refine lkO aU j 1 (m := g) a.Task (0 : Int) (t := 46) (kt := 3) (et := 3) (nog rfl _) rfl (by kernel_rfl) rfl (by kernel_rfl) (by kernel_rfl) rfl (MKey.int (k := .i64) (by kernel_rfl)) (by kernel_rfl) (by kernel_rfl) ?_; intro dl aV; clear aU
    refine bt aV j 5 [] [] [(15, i6 ((mget g a.Task).getD (0 : Int))), (16, .bool (mget g a.Task).isSome)] ?_; intro dm aW; clear aV
    refine nlH (aT _ _ ?_); clear aT b9
    refine sqB aW j [0] [] [(74, .bool ((mget g a.Task).isSome && (decide (a.Asked ≤ ((mget g a.Task).getD (0 : Int))))))] ?_; intro ca E; clear aW
    refine cd E (t := (mget g a.Task).isSome && (decide (a.Asked ≤ ((mget g a.Task).getD (0 : Int))))) (by kernel_rfl) (fun ad => ?_) (fun ad => ?_)
    · -- yes
     have cb := R.1 ad; clear R
     refine sqB E j [] [] [(8, .bool false)] ?_; intro dn cc; clear E
     refine wp_ret ?_
     refine thr ?_
     refine ibr ?_
     refine thr ?_
     refine thr ?_
     refine ibr ?_
     refine thr ?_
     refine ra1 cc (.bool false) ?_
     exact ⟨false, rfl, cb, j.below⟩
    · -- no
     have aX := R.2 ad; clear R
     refine wp_skip ?_
     refine thn ?_
     have aY : Fr 108 [] [⟨0, [], .slice ao1 u0.length cap2⟩, ⟨1, [], .slice ao4 u1.length cap5⟩, ⟨3, [], i6 u3⟩, ⟨9, [], .slice (sm O) (playS u0 u1 u2 u3).1.length b⟩, ⟨12, [], .map (some f)⟩, ⟨14, [], pt Q 0⟩, ⟨37, [], .slice (sm O) (playS u0 u1 u2 u3).1.length b⟩, ⟨38, [], i6 ((playS u0 u1 u2 u3).1.length : Int)⟩, ⟨39, [], i6 n⟩] ca := E.region (by kernel_rfl) (by kernel_rfl); clear E
     refine rgS mixed j [(0, true), (1, true), (2, true), (3, true), (4, true), (5, true), (6, true), (7, false), (8, true)] [] [0] [.row Q (e48Oc a) 48] ?_
     intro ce aZ dp a2; clear j
     have cf := Fz.le.refl i
     refine cS aY 7 [0, 0, 0] [] [(75, .map (some f)), (77, i6 a.Task), (79, i6 a.Asked), (81, i6 a.End)] ?_; intro dq ae; clear aY
     refine eS rfl ?_; intro cg a3
     refine mup ae a2 1 (m := g) a.Task a.Asked (t := 46) (kt := 3) (et := 3) (nog rfl _) rfl rfl (by kernel_rfl) (by kernel_rfl) (by kernel_rfl) rfl (MKey.int (k := .i64) (by kernel_rfl)) (by kernel_rfl) ?_; intro ch a4; clear a2
     have af : Mem w.heap.size [] w Z [.row Q (e48Oc a) 48, .map (fun x : Int => i6 x) (fun x : Int => i6 x) f (mput g a.Task a.Asked), .own tySlot 48 (sm O) b (playS u0 u1 u2 u3).1] i ch := a4; clear a4
     refine nl (qnI (a3 _ _ (af.cst cf [0]) ?_)); clear a3 cg
     refine cS ae 1 [] [] [(11, i6 a.End)] ?_; intro dr a5; clear ae
     refine nS (aZ _ _ ?_); clear aZ ce
     refine ibn ?_
     refine thn ?_
     refine rgB a5 af [] [] [(39, i6 (w64 (n + 1)))] ?_; intro ds ci; clear a5
     refine rd ?_
     exact ⟨⟨a.End, w64 (n + 1), mput g a.Task a.Asked⟩, aX.1, aX.2, (ci.region (by kernel_rfl) (by kernel_rfl)).anyβ _ (by kernel_rfl), af.keep (List.Sublist.cons _ (List.Sublist.cons_cons _ (List.Sublist.cons_cons _ (List.Sublist.slnil))))⟩
  · -- no
   have cj := N.2 aa; clear N
   refine wp_exit ?_
   refine thx ?_
   refine thx ?_
   refine ibx ?_
   refine thn ?_
   refine sqB C o [] [] [(17, i6 0)] ?_; intro dt a6; clear C
   refine wp_seq ?_
   refine sqB a6 o [] [] [(83, .slice ao1 u0.length cap2), (84, i6 (u0.length : Int)), (85, i6 0)] ?_; intro a7 a8; clear a6
   refine wp_block ?_
   have a9 : Fr 108 [] [⟨1, [], .slice ao4 u1.length cap5⟩, ⟨3, [], i6 u3⟩, ⟨9, [], .slice d (playS u0 u1 u2 u3).1.length b⟩, ⟨17, [], i6 0⟩, ⟨83, [], .slice ao1 u0.length cap2⟩, ⟨84, [], i6 (u0.length : Int)⟩, ⟨85, [], i6 0⟩] a7 := a8.region (by kernel_rfl) (by kernel_rfl); clear a8
   have ba : Fr 108 [] [⟨1, [], .slice ao4 u1.length cap5⟩, ⟨3, [], i6 u3⟩, ⟨9, [], .slice d (playS u0 u1 u2 u3).1.length b⟩, ⟨17, [], i6 0⟩, ⟨83, [], .slice ao1 u0.length cap2⟩, ⟨84, [], i6 (u0.length : Int)⟩, ⟨85, [], i6 0⟩] a7 := a9.region (by kernel_rfl) (by kernel_rfl); clear a9
   obtain ⟨cl, cm, cn, co⟩ := cj
   refine lp (ι := Int × Int) (fun s => [⟨1, [], .slice ao4 u1.length cap5⟩, ⟨3, [], i6 u3⟩, ⟨9, [], .slice d (playS u0 u1 u2 u3).1.length b⟩, ⟨17, [], i6 s.1⟩, ⟨83, [], .slice ao1 u0.length cap2⟩, ⟨84, [], i6 (u0.length : Int)⟩, ⟨85, [], i6 s.2⟩]) (fun s => [.map (fun x : Int => i6 x) (fun x : Int => i6 x) f g, .own tySlot 48 d b (playS u0 u1 u2 u3).1]) (fun s => i) (fun s => cl s.1 s.2) (fun s => cm s.1 s.2) ⟨0, 0⟩ cn (by exact ba.region (by kernel_rfl) (by kernel_rfl)) (by exact o) ?_
   rintro ⟨l, h⟩ cp cq cr bb bc
   have bd : Fr 108 [] [⟨1, [], .slice ao4 u1.length cap5⟩, ⟨3, [], i6 u3⟩, ⟨9, [], .slice d (playS u0 u1 u2 u3).1.length b⟩, ⟨17, [], i6 l⟩, ⟨83, [], .slice ao1 u0.length cap2⟩, ⟨84, [], i6 (u0.length : Int)⟩, ⟨85, [], i6 h⟩] cq := bb; clear bb ba
   have q : Mem w.heap.size [] w Z [.map (fun x : Int => i6 x) (fun x : Int => i6 x) f g, .own tySlot 48 d b (playS u0 u1 u2 u3).1] i cr := bc; clear bc o
   have S := co l h cp
   refine sqB bd q [] [] [(86, .bool (decide (h < (u0.length : Int))))] ?_; intro be F; clear bd
   refine wp_seq ?_
   refine cd F (t := decide (h < (u0.length : Int))) (by kernel_rfl) (fun ag => ?_) (fun ag => ?_)
   · -- yes
    have cs := S.1 ag; clear S
    refine wp_skip ?_
    refine thn ?_
    have bf : Fr 108 [] [⟨1, [], .slice ao4 u1.length cap5⟩, ⟨3, [], i6 u3⟩, ⟨9, [], .slice d (playS u0 u1 u2 u3).1.length b⟩, ⟨17, [], i6 l⟩, ⟨83, [], .slice ao1 u0.length cap2⟩, ⟨84, [], i6 (u0.length : Int)⟩, ⟨85, [], i6 h⟩] be := F.region (by kernel_rfl) (by kernel_rfl); clear F
    have ah : Fr 108 [] [⟨1, [], .slice ao4 u1.length cap5⟩, ⟨3, [], i6 u3⟩, ⟨9, [], .slice d (playS u0 u1 u2 u3).1.length b⟩, ⟨17, [], i6 l⟩, ⟨83, [], .slice ao1 u0.length cap2⟩, ⟨84, [], i6 (u0.length : Int)⟩, ⟨85, [], i6 h⟩] be := bf.region (by kernel_rfl) (by kernel_rfl); clear bf
    obtain ⟨ct, cu, cv⟩ := cs
    refine wp_seq_k fun KJ282 hKJ283 => ?_
    have cw : ∀ (G : Int), ct G → ∀ a1 w1, Fr 108 [] [⟨1, [], .slice ao4 u1.length cap5⟩, ⟨3, [], i6 u3⟩, ⟨9, [], .slice d (playS u0 u1 u2 u3).1.length b⟩, ⟨17, [], i6 G⟩, ⟨83, [], .slice ao1 u0.length cap2⟩, ⟨84, [], i6 (u0.length : Int)⟩, ⟨85, [], i6 h⟩] a1 → Mem w.heap.size [] w Z [.map (fun x : Int => i6 x) (fun x : Int => i6 x) f g, .own tySlot 48 d b (playS u0 u1 u2 u3).1] i w1 → KJ282 a1 w1 := by
     rintro G cx du dv bg bh; clear ah q
     refine hKJ283 _ _ ?_; clear hKJ283
     have bi := cv G cx
     refine rgB bg bh [] [] [(85, i6 (w64 (h + 1)))] ?_; intro dw cy; clear bg
     refine rd ?_
     exact ⟨⟨G, w64 (h + 1)⟩, bi.1, bi.2, (cy.region (by kernel_rfl) (by kernel_rfl)).anyβ _ (by kernel_rfl), bh.keep (List.Sublist.cons_cons _ (List.Sublist.cons_cons _ (List.Sublist.slnil)))⟩
    refine wp_block ?_
    refine sqH ?_; intro cz bj
    refine s1 ah 87 (i6 h) ?_; intro dx bk; clear ah
    obtain ⟨cA, bl⟩ := cu
    refine ix bk (T := tyTask) (xs := u0) hs3 h cA (k := .i64) (e := 34) (bytes := 40) (nog rfl _) rfl (by kernel_rfl) rfl (by kernel_rfl) (by kernel_rfl) (by kernel_rfl) ?_; intro dy dz cB c dA cC cD cE bm; clear bk
    have cF := bl c cC; clear bl
    obtain rfl : cB = ((e34Oc c) : List Value) := cE
    refine z2 bm q 89 cD 0 5 (e34Oc c) rfl ?_; intro dB bn; clear bm
    refine nw bn q pb [i6 0, i6 0, i6 0, i6 0, i6 0] 34 ?_; intro u dC dD bo bp; clear bn q
    refine s1 bo 18 (i6 h) ?_; intro dE ai; clear bo
    refine sx ai bp 0 (e34Oc c) 0 ?_; intro cG bq; clear bp
    have U : Mem w.heap.size [] w Z [.row u (e34Oc c) 34, .map (fun x : Int => i6 x) (fun x : Int => i6 x) f g, .own tySlot 48 d b (playS u0 u1 u2 u3).1] i cG := bq; clear bq
    refine nlH (bj _ _ ?_); clear bj cz
    refine sqH ?_; intro cH br
    refine bt ai U 2 [] [] [(90, .slice ao4 u1.length cap5), (91, i6 h)] ?_; intro dF bs; clear ai
    obtain ⟨cI, bu⟩ := cF
    refine ix bs (T := t6) (xs := u1) hs6 h cI (k := .i64) (e := 3) (bytes := 8) (nog rfl _) rfl (by kernel_rfl) rfl (by kernel_rfl) (by kernel_rfl) (by kernel_rfl) ?_; intro dG dH cJ v dI cK cL cM bv; clear bs
    have cN := bu v cK; clear bu
    obtain rfl : cJ = ([i6 v] : List Value) := cM
    refine z1 bv U 93 cL 0 (i6 v) rfl ?_; intro dJ bw; clear bv
    refine s1 bw 20 (i6 v) ?_; intro bx bz; clear bw
    refine nlH (br _ _ ?_); clear br cH
    refine wp_block ?_
    have bA : Fr 108 [] [⟨1, [], .slice ao4 u1.length cap5⟩, ⟨3, [], i6 u3⟩, ⟨9, [], .slice d (playS u0 u1 u2 u3).1.length b⟩, ⟨17, [], i6 l⟩, ⟨19, [], pt u 0⟩, ⟨20, [], i6 v⟩, ⟨83, [], .slice ao1 u0.length cap2⟩, ⟨84, [], i6 (u0.length : Int)⟩, ⟨85, [], i6 h⟩] bx := bz.region (by kernel_rfl) (by kernel_rfl); clear bz
    have bB : Fr 108 [] [⟨1, [], .slice ao4 u1.length cap5⟩, ⟨3, [], i6 u3⟩, ⟨9, [], .slice d (playS u0 u1 u2 u3).1.length b⟩, ⟨17, [], i6 l⟩, ⟨19, [], pt u 0⟩, ⟨20, [], i6 v⟩, ⟨83, [], .slice ao1 u0.length cap2⟩, ⟨84, [], i6 (u0.length : Int)⟩, ⟨85, [], i6 h⟩] bx := bA.region (by kernel_rfl) (by kernel_rfl); clear bA
    obtain ⟨cO, cP, cQ, cR⟩ := cN
    refine lp (ι := Int × Int) (fun s => [⟨1, [], .slice ao4 u1.length cap5⟩, ⟨3, [], i6 u3⟩, ⟨9, [], .slice d (playS u0 u1 u2 u3).1.length b⟩, ⟨17, [], i6 s.1⟩, ⟨19, [], pt u 0⟩, ⟨20, [], i6 s.2⟩, ⟨83, [], .slice ao1 u0.length cap2⟩, ⟨84, [], i6 (u0.length : Int)⟩, ⟨85, [], i6 h⟩]) (fun s => [.row u (e34Oc c) 34, .map (fun x : Int => i6 x) (fun x : Int => i6 x) f g, .own tySlot 48 d b (playS u0 u1 u2 u3).1]) (fun s => i) (fun s => cO s.1 s.2) (fun s => cP s.1 s.2) ⟨l, v⟩ cQ (by exact bB.region (by kernel_rfl) (by kernel_rfl)) (by exact U) ?_
    rintro ⟨H, y⟩ cT cU cV bC bD
    have bE : Fr 108 [] [⟨1, [], .slice ao4 u1.length cap5⟩, ⟨3, [], i6 u3⟩, ⟨9, [], .slice d (playS u0 u1 u2 u3).1.length b⟩, ⟨17, [], i6 H⟩, ⟨19, [], pt u 0⟩, ⟨20, [], i6 y⟩, ⟨83, [], .slice ao1 u0.length cap2⟩, ⟨84, [], i6 (u0.length : Int)⟩, ⟨85, [], i6 h⟩] cU := bC; clear bC bB
    have I : Mem w.heap.size [] w Z [.row u (e34Oc c) 34, .map (fun x : Int => i6 x) (fun x : Int => i6 x) f g, .own tySlot 48 d b (playS u0 u1 u2 u3).1] i cV := bD; clear bD U
    have V := cR H y cT
    refine wp_seq ?_
    refine sqB bE I [] [] [(96, .bool (decide (y < u3)))] ?_; intro dK W; clear bE
    refine cd W (t := decide (y < u3)) (by kernel_rfl) (fun aj => ?_) (fun aj => ?_)
    · -- yes
     have bF := V.1 aj; clear V
     refine wp_skip ?_
     refine thn ?_
     refine wp_seq ?_
     refine wp_block ?_
     refine rgB W I [] [] [(17, i6 (w64 (H + 1)))] ?_; intro dL bG; clear W
     refine ibn ?_
     refine thn ?_
     refine rgB bG I [0] [] [(20, i6 (w64 (y + c.Every)))] ?_; intro dM cW; clear bG
     refine rd ?_
     exact ⟨⟨w64 (H + 1), w64 (y + c.Every)⟩, bF.1, bF.2, (cW.region (by kernel_rfl) (by kernel_rfl)).anyβ _ (by kernel_rfl), I.keep (List.Sublist.cons_cons _ (List.Sublist.cons_cons _ (List.Sublist.cons_cons _ (List.Sublist.slnil))))⟩
    · -- no
     have cX := V.2 aj; clear V
     refine wp_exit ?_
     refine thx ?_
     refine thx ?_
     refine ibx ?_
     refine ibn ?_
     refine rd ?_
     exact cw H cX _ _ ((W.region (by kernel_rfl) (by kernel_rfl)).anyβ _ (by kernel_rfl)) (I.keep (List.Sublist.cons _ (List.Sublist.cons_cons _ (List.Sublist.cons_cons _ (List.Sublist.slnil)))))
   · -- no
    have cY := S.2 ag; clear S
    refine wp_exit ?_
    refine thx ?_
    refine thx ?_
    refine ibx ?_
    refine thn ?_
    refine sqB F q [] [] [(8, .bool (l == ((playS u0 u1 u2 u3).1.length : Int)))] ?_; intro dN cZ; clear F
    refine wp_ret ?_
    refine ra1 cZ (.bool (l == ((playS u0 u1 u2 u3).1.length : Int))) ?_
    exact ⟨l == ((playS u0 u1 u2 u3).1.length : Int), rfl, cY, q.below⟩

end Go.Proofs.Ytginlmgkimfjmaa
