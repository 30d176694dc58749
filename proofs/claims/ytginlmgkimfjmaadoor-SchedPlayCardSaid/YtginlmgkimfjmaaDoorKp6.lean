/- Texts put together (pure ones, or walks made by program). -/
import Derived.Test.YtginlmgkimfjmaaDoorKp0
import Derived.Test.YtginlmgkimfjmaaDoorKp1
import Derived.Test.YtginlmgkimfjmaaDoorKp2
import Derived.Test.YtginlmgkimfjmaaDoorKp3
import Derived.Test.YtginlmgkimfjmaaDoorKp4
import Derived.Test.YtginlmgkimfjmaaDoorKp5
set_option linter.unusedVariables false
set_option linter.unusedSimpArgs false
set_option maxRecDepth 100000
set_option maxHeartbeats 0
namespace Go.Proofs.YtginlmgkimfjmaaDoor
open Go.Sy Go.RowKit
abbrev e32Dr (X : Task) : List Value := [i6 X.ID, i6 X.Bytes, i6 X.Every, i6 X.Late, i6 X.Jitter]
abbrev e57Dr (X : Job) : List Value := [i6 X.task, i6 X.from_, i6 X.asked]
theorem ssort_fun (u0 : List Job) (u1 : Job → Job → Int) (hpre : ssortPre u0 u1) (ao1 : Option Addr) (cap2 : Nat) (fid3 : Nat) (caps4 : Array Value) (B : Nat) (w0 : World) (Z0 : Fz) (Rr : List Res) (Z : Fz) (w : World) (hf5 : ∀ (Z1 : Fz) (w1 : World), Z.le Z1 → Z1.on w1 → ∀ (x0 : Job) (x1 : Job), Calls Tryd.prog fid3 (#[.agg #[i6 x0.task, i6 x0.from_, i6 x0.asked], .agg #[i6 x1.task, i6 x1.from_, i6 x1.asked]] ++ caps4) w1 fun e w2 => e = .returned (i6 (u1 x0 x1)) ∧ Below w1.heap.size w1 w2) (hg6 : ∀ x w, Sem.run Tryd.prog (callFunc fid3 x) w = .ok (.enter fid3 x) w) (hM0 : Mem B [] w0 Z0 ((.own tyJob 57 ao1 cap2 u0) :: Rr) Z w) (hZ : Z.on w) : Calls Tryd.prog 22 #[.slice ao1 u0.length cap2, .func (.func fid3) #[] caps4] w fun e w' => ∃ (Z' : Fz), e = .returned (.tuple #[]) ∧ Fz.le Z Z' ∧ ((ssortS u0 u1).length = u0.length) ∧ Mem B [] w0 Z0 ((.own tyJob 57 ao1 cap2 (ssortS u0 u1)) :: Rr) Z' w' :=
  (ssort_walk u0 u1 ao1 cap2 fid3 caps4 B w0 Z0 Rr Z w hf5 hg6 hM0 hZ (ssort_ok u0 u1 hpre)).mono fun _ _ ⟨r, h0, he, hk, f0, f1, hm⟩ => by subst hk; exact ⟨h0, he, f0, f1, hm⟩

theorem splay_walk (u0 : List Task) (u1 : List Int) (u2 : List Int) (u3 : Int) (ao1 : Option Addr) (cap2 : Nat) (ao4 : Option Addr) (cap5 : Nat) (ao7 : Option Addr) (cap8 : Nat) (Z : Fz) (w : World) (hs3 : SlR tyTask Z ao1 cap2 u0) (hs6 : SlR t6 Z ao4 cap5 u1) (hs9 : SlR t6 Z ao7 cap8 u2) (hZ : Z.on w) {K : ((List Slot) × Int) → Prop} (hp : splay_vc u0 u1 u2 u3 K) : Calls Tryd.prog 12 #[.slice ao1 u0.length cap2, .slice ao4 u1.length cap5, .slice ao7 u2.length cap8, i6 u3] w fun e w' => ∃ (r : (List Slot) × Int) (ao1001 : Option Addr) (cap1002 : Nat) (Z' : Fz), e = .returned (.tuple #[.slice ao1001 r.1.length cap1002, i6 r.2]) ∧ K r ∧ Mem w.heap.size [] w Z [.own tySlot 47 ao1001 cap1002 r.1] Z' w' := by
 refine enter0 Tryd.func12 rfl rfl (by kernel_rfl) ?_; intro a0 cQ; have a2 := Mem.start w Z hZ; have W := Fz.le.refl Z
 have cR := hp (hs3.small); clear hp
 have cT := cR (hs6.small); clear cR
 have a3 := cT (hs9.small); clear cT
 refine sqB cQ a2 [] [] [] ?_; intro l7 cU; clear cQ
 refine wp_seq ?_
 refine sqH ?_; intro hb cV
 refine s1 cU 28 (.slice ao1 u0.length cap2) ?_; intro l8 cW; clear cU
 refine fc cW a2 (dcheck_fun u0 ao1 cap2 _ _ hs3 a2.fz) ?_; intro l9 bU cX P; clear cW a2
 refine s1 cX 10 (i6 (dcheckS u0)) ?_; intro ma cY; clear cX
 refine nlH (cV _ _ ?_); clear cV hb
 refine sqB cY P [] [] [(31, .bool ((dcheckS u0) != 0))] ?_; intro mb aG; clear cY
 refine cd aG (t := (dcheckS u0) != 0) (by kernel_rfl) (fun bV => ?_) (fun bV => ?_)
 ·
  have hc := a3.1 bV; clear a3
  refine sqB aG P [] [] [(8, .slice none 0 0), (9, i6 (dcheckS u0))] ?_; intro mc hd; clear aG
  refine wp_ret ?_
  refine thr ?_
  have he : Mem w.heap.size [] w Z [.own tySlot 47 none 0 ([] : List Slot)] Z bU := P.addNil tySlot 47 (by decide); clear P
  refine ra2 hd (.tuple #[.slice none ([] : List Slot).length 0, i6 (dcheckS u0)]) ?_
  exact ⟨(([] : List Slot), (dcheckS u0)), none, 0, Z, rfl, hc, he.keep (List.Sublist.cons_cons _ (List.Sublist.slnil))⟩
 have a4 := a3.2 bV; clear a3
 refine wp_skip ?_
 refine thn ?_
 refine wp_seq ?_
 refine sqB aG P [] [] [(50, .bool (((((u1.length : Int) != (u0.length : Int)) || (decide ((u2.length : Int) > 1000))) || (decide (u3 < 0))) || (decide (u3 > 1000000))))] ?_; intro md aH; clear aG
 refine cd aH (t := ((((u1.length : Int) != (u0.length : Int)) || (decide ((u2.length : Int) > 1000))) || (decide (u3 < 0))) || (decide (u3 > 1000000))) (by kernel_rfl) (fun bW => ?_) (fun bW => ?_)
 ·
  have hf := a4.1 bW; clear a4
  refine sqB aH P [] [] [(8, .slice none 0 0), (9, i6 2)] ?_; intro me hg; clear aH
  refine wp_ret ?_
  refine thr ?_
  have hh : Mem w.heap.size [] w Z [.own tySlot 47 none 0 ([] : List Slot)] Z bU := P.addNil tySlot 47 (by decide); clear P
  refine ra2 hg (.tuple #[.slice none ([] : List Slot).length 0, i6 2]) ?_
  exact ⟨(([] : List Slot), 2), none, 0, Z, rfl, hf, hh.keep (List.Sublist.cons_cons _ (List.Sublist.slnil))⟩
 have hi := a4.2 bW; clear a4
 refine wp_skip ?_
 refine thn ?_
 refine sqB aH P [] [] [(11, .slice none 0 0)] ?_; intro mf cZ; clear aH
 refine sqB cZ P [] [] [(12, i6 0)] ?_; intro mg c0; clear cZ
 refine wp_seq ?_
 refine sqB c0 P [] [] [(51, .slice ao1 u0.length cap2), (52, i6 (u0.length : Int)), (53, i6 0)] ?_; intro c1 c2; clear c0
 refine wp_block ?_
 have c3 : Fr 189 [] [⟨0, [], .slice ao1 u0.length cap2⟩, ⟨1, [], .slice ao4 u1.length cap5⟩, ⟨2, [], .slice ao7 u2.length cap8⟩, ⟨3, [], i6 u3⟩, ⟨11, [], .slice none 0 0⟩, ⟨12, [], i6 0⟩, ⟨51, [], .slice ao1 u0.length cap2⟩, ⟨52, [], i6 (u0.length : Int)⟩, ⟨53, [], i6 0⟩] c1 := c2.reg; clear c2
 have c4 : Mem w.heap.size [] w Z [.own tyJob 57 none 0 ([] : List Job)] Z bU := P.addNil tyJob 57 (by decide); clear P
 have c5 : Fr 189 [] [⟨0, [], .slice ao1 u0.length cap2⟩, ⟨1, [], .slice ao4 u1.length cap5⟩, ⟨2, [], .slice ao7 u2.length cap8⟩, ⟨3, [], i6 u3⟩, ⟨11, [], .slice none ([] : List Job).length 0⟩, ⟨12, [], i6 0⟩, ⟨51, [], .slice ao1 u0.length cap2⟩, ⟨52, [], i6 (u0.length : Int)⟩, ⟨53, [], i6 0⟩] c1 := c3.reg; clear c3
 obtain ⟨hj, hk, hl, hn⟩ := hi
 refine lp (ι := (List Job) × Int × Int × (Option Addr) × Nat) (fun s => [⟨0, [], .slice ao1 u0.length cap2⟩, ⟨1, [], .slice ao4 u1.length cap5⟩, ⟨2, [], .slice ao7 u2.length cap8⟩, ⟨3, [], i6 u3⟩, ⟨11, [], .slice s.2.2.2.1 s.1.length s.2.2.2.2⟩, ⟨12, [], i6 s.2.1⟩, ⟨51, [], .slice ao1 u0.length cap2⟩, ⟨52, [], i6 (u0.length : Int)⟩, ⟨53, [], i6 s.2.2.1⟩]) (fun s => [.own tyJob 57 s.2.2.2.1 s.2.2.2.2 s.1]) (fun s => Z) (fun s => hj s.1 s.2.1 s.2.2.1) (fun s => hk s.1 s.2.1 s.2.2.1) ⟨([] : List Job), 0, 0, none, 0⟩ hl (by exact c5.reg) (by exact c4) ?_
 rintro ⟨G, ae, j, H, I⟩ ho hq hr c6 c7
 have c8 : Fr 189 [] [⟨0, [], .slice ao1 u0.length cap2⟩, ⟨1, [], .slice ao4 u1.length cap5⟩, ⟨2, [], .slice ao7 u2.length cap8⟩, ⟨3, [], i6 u3⟩, ⟨11, [], .slice H G.length I⟩, ⟨12, [], i6 ae⟩, ⟨51, [], .slice ao1 u0.length cap2⟩, ⟨52, [], i6 (u0.length : Int)⟩, ⟨53, [], i6 j⟩] hq := c6; clear c6 c5
 have af : Mem w.heap.size [] w Z [.own tyJob 57 H I G] Z hr := c7; clear c7 c4
 have a5 := hn G ae j ho
 refine sqB c8 af [] [] [(54, .bool (decide (j < (u0.length : Int))))] ?_; intro c9 aI; clear c8
 refine wp_seq ?_
 refine cd aI (t := decide (j < (u0.length : Int))) (by kernel_rfl) (fun bX => ?_) (fun bX => ?_)
 ·
  have hs := a5.1 bX; clear a5
  refine wp_skip ?_
  refine thn ?_
  have da : Fr 189 [] [⟨0, [], .slice ao1 u0.length cap2⟩, ⟨1, [], .slice ao4 u1.length cap5⟩, ⟨2, [], .slice ao7 u2.length cap8⟩, ⟨3, [], i6 u3⟩, ⟨11, [], .slice H G.length I⟩, ⟨12, [], i6 ae⟩, ⟨51, [], .slice ao1 u0.length cap2⟩, ⟨52, [], i6 (u0.length : Int)⟩, ⟨53, [], i6 j⟩] c9 := aI.reg; clear aI
  have bY : Fr 189 [] [⟨0, [], .slice ao1 u0.length cap2⟩, ⟨1, [], .slice ao4 u1.length cap5⟩, ⟨2, [], .slice ao7 u2.length cap8⟩, ⟨3, [], i6 u3⟩, ⟨11, [], .slice H G.length I⟩, ⟨12, [], i6 ae⟩, ⟨51, [], .slice ao1 u0.length cap2⟩, ⟨52, [], i6 (u0.length : Int)⟩, ⟨53, [], i6 j⟩] c9 := da.reg; clear da
  obtain ⟨ht, hu, hv⟩ := hs
  refine wp_seq_k fun KJ130 hKJ131 => ?_
  have hw : ∀ (a : List Job) (aJ : Int) (ad : Option Addr) (l : Nat), ht a aJ → ∀ a1 w1, Fr 189 [] [⟨0, [], .slice ao1 u0.length cap2⟩, ⟨1, [], .slice ao4 u1.length cap5⟩, ⟨2, [], .slice ao7 u2.length cap8⟩, ⟨3, [], i6 u3⟩, ⟨11, [], .slice ad a.length l⟩, ⟨12, [], i6 aJ⟩, ⟨51, [], .slice ao1 u0.length cap2⟩, ⟨52, [], i6 (u0.length : Int)⟩, ⟨53, [], i6 j⟩] a1 → Mem w.heap.size [] w Z [.own tyJob 57 ad l a] Z w1 → KJ130 a1 w1 := by
   rintro a aJ ad l hx mh mi db dc; clear bY af
   refine hKJ131 _ _ ?_; clear hKJ131
   have dd := hv a aJ hx
   refine rgB db dc [] [] [(53, i6 (w64 (j + 1)))] ?_; intro mj hy; clear db
   refine rd ?_
   exact ⟨⟨a, aJ, w64 (j + 1), ad, l⟩, dd.1, dd.2, (hy.reg).anyβ _ (by kernel_rfl), dc.keep (List.Sublist.cons_cons _ (List.Sublist.slnil))⟩
  refine wp_block ?_
  refine sqH ?_; intro hz de
  refine s1 bY 55 (i6 j) ?_; intro mk df; clear bY
  obtain ⟨hA, dg⟩ := hu
  refine ix df (T := tyTask) (xs := u0) hs3 j hA (k := .i64) (e := 32) (bytes := 40) (nog rfl _) rfl (by kernel_rfl) rfl (by kernel_rfl) (by kernel_rfl) (by kernel_rfl) ?_; intro ml mm hB f mn hD hE hF dh; clear df
  have hG := dg f hD; clear dg
  obtain rfl : hB = ((e32Dr f) : List Value) := hF
  refine z2 dh af 57 hE 0 5 (e32Dr f) rfl ?_; intro mo di; clear dh
  refine nw di af pb [i6 0, i6 0, i6 0, i6 0, i6 0] 32 ?_; intro J mp mq dj dk; clear di af
  refine s1 dj 13 (i6 j) ?_; intro mr bZ; clear dj
  refine sx bZ dk 0 (e32Dr f) 0 ?_; intro b0 dl; clear dk
  have N : Mem w.heap.size [] w Z [.row J (e32Dr f) 32, .own tyJob 57 H I G] Z b0 := dl; clear dl
  refine nlH (de _ _ ?_); clear de hz
  refine wp_seq ?_
  refine sqH ?_; intro dm a6
  refine bt bZ N 2 [] [] [(58, .slice ao4 u1.length cap5), (59, i6 j)] ?_; intro ms dn; clear bZ
  obtain ⟨hH, dp⟩ := hG
  refine ix dn (T := t6) (xs := u1) hs6 j hH (k := .i64) (e := 3) (bytes := 8) (nog rfl _) rfl (by kernel_rfl) rfl (by kernel_rfl) (by kernel_rfl) (by kernel_rfl) ?_; intro mt mu hI aj mv hJ hK hL dq; clear dn
  have a7 := dp aj hJ; clear dp
  obtain rfl : hI = ([i6 aj] : List Value) := hL
  refine z1 dq N 61 hK 0 (i6 aj) rfl ?_; intro mw dr; clear dq
  refine bt dr N 2 [] [] [(63, .bool (decide (aj < 0)))] ?_; intro mx a8; clear dr
  rcases Bool.eq_false_or_eq_true (decide (aj < 0)) with aK | aK
  ·
   have hM := a7.1 aK; clear a7
   have ds := a8.reval (d := 63) (c := []) (v := .bool (decide (aj < 0))) (by kernel_rfl) (.bool true) (by rw [aK]); clear a8
   refine bt ds N 6 [] [64, 65, 66, 67, 68, 69] [(69, .bool true)] ?_; intro my b1; clear ds
   refine nlH (a6 _ _ ?_); clear a6 dm
   refine cdT b1 (by kernel_rfl) ?_
   refine sqB b1 N [] [] [(8, .slice none 0 0), (9, i6 3)] ?_; intro mz hN; clear b1
   refine wp_ret ?_
   refine thr ?_
   refine ibr ?_
   refine thr ?_
   refine thr ?_
   refine ibr ?_
   refine thr ?_
   have hO : Mem w.heap.size [] w Z [.own tySlot 47 none 0 ([] : List Slot), .row J (e32Dr f) 32, .own tyJob 57 H I G] Z b0 := N.addNil tySlot 47 (by decide); clear N
   refine ra2 hN (.tuple #[.slice none ([] : List Slot).length 0, i6 3]) ?_
   exact ⟨(([] : List Slot), 3), none, 0, Z, rfl, hM, hO.keep (List.Sublist.cons_cons _ (List.Sublist.cons _ (List.Sublist.cons _ (List.Sublist.slnil))))⟩
  have hP := a7.2 aK; clear a7
  have dt := a8.reval (d := 63) (c := []) (v := .bool (decide (aj < 0))) (by kernel_rfl) (.bool false) (by rw [aK]); clear a8
  refine bt dt N 2 [] [64, 65] [(64, .slice ao4 u1.length cap5), (65, i6 j)] ?_; intro mA b2; clear dt
  obtain ⟨hQ, du⟩ := hP
  refine ix b2 (T := t6) (xs := u1) hs6 j hQ (k := .i64) (e := 3) (bytes := 8) (by rw [wanted_of b2 (b := false) rfl rfl (by kernel_rfl) (by kernel_rfl)]; rfl) rfl (by kernel_rfl) rfl (by kernel_rfl) (by kernel_rfl) (by kernel_rfl) ?_; intro mB mC hR aL mD hS hT hU a9; clear b2
  have ba := du aL hS; clear du
  obtain rfl : hR = ([i6 aL] : List Value) := hU
  refine st a9 (i6 aL) (by rw [wanted_of a9 (b := false) rfl rfl (by kernel_rfl) (by kernel_rfl)]; rfl) rfl (by kernel_rfl) (lz a9 N.fz hT 0 (g := []) rfl (by kernel_rfl) (by kernel_rfl) (by kernel_rfl) rfl) ?_; intro mE dv; clear a9
  refine bt dv N 2 [] [68, 69] [(69, .bool (decide (aL > 1000000)))] ?_; intro mF aM; clear dv
  refine nlH (a6 _ _ ?_); clear a6 dm
  refine cd aM (t := decide (aL > 1000000)) (by kernel_rfl) (fun b3 => ?_) (fun b3 => ?_)
  ·
   have hV := ba.1 b3; clear ba
   refine sqB aM N [] [] [(8, .slice none 0 0), (9, i6 3)] ?_; intro mG hW; clear aM
   refine wp_ret ?_
   refine thr ?_
   refine ibr ?_
   refine thr ?_
   refine thr ?_
   refine ibr ?_
   refine thr ?_
   have hX : Mem w.heap.size [] w Z [.own tySlot 47 none 0 ([] : List Slot), .row J (e32Dr f) 32, .own tyJob 57 H I G] Z b0 := N.addNil tySlot 47 (by decide); clear N
   refine ra2 hW (.tuple #[.slice none ([] : List Slot).length 0, i6 3]) ?_
   exact ⟨(([] : List Slot), 3), none, 0, Z, rfl, hV, hX.keep (List.Sublist.cons_cons _ (List.Sublist.cons _ (List.Sublist.cons _ (List.Sublist.slnil))))⟩
  have hY := ba.2 b3; clear ba
  refine wp_skip ?_
  refine thn ?_
  refine sqH ?_; intro h0 dw
  refine bt aM N 2 [] [] [(70, .slice ao4 u1.length cap5), (71, i6 j)] ?_; intro mH dx; clear aM
  obtain ⟨h3, dy⟩ := hY
  refine ix dx (T := t6) (xs := u1) hs6 j h3 (k := .i64) (e := 3) (bytes := 8) (nog rfl _) rfl (by kernel_rfl) rfl (by kernel_rfl) (by kernel_rfl) (by kernel_rfl) ?_; intro mI mJ h4 ak mK h5 h6 h7 dz; clear dx
  have h8 := dy ak h5; clear dy
  obtain rfl : h4 = ([i6 ak] : List Value) := h7
  refine z1 dz N 73 h6 0 (i6 ak) rfl ?_; intro mL dA; clear dz
  refine s1 dA 15 (i6 ak) ?_; intro dB dC; clear dA
  refine nlH (dw _ _ ?_); clear dw h0
  refine wp_block ?_
  have dD : Fr 189 [] [⟨0, [], .slice ao1 u0.length cap2⟩, ⟨1, [], .slice ao4 u1.length cap5⟩, ⟨2, [], .slice ao7 u2.length cap8⟩, ⟨3, [], i6 u3⟩, ⟨11, [], .slice H G.length I⟩, ⟨12, [], i6 ae⟩, ⟨13, [], i6 j⟩, ⟨14, [], pt J 0⟩, ⟨15, [], i6 ak⟩, ⟨51, [], .slice ao1 u0.length cap2⟩, ⟨52, [], i6 (u0.length : Int)⟩, ⟨53, [], i6 j⟩] dB := dC.reg; clear dC
  have dE : Fr 189 [] [⟨0, [], .slice ao1 u0.length cap2⟩, ⟨1, [], .slice ao4 u1.length cap5⟩, ⟨2, [], .slice ao7 u2.length cap8⟩, ⟨3, [], i6 u3⟩, ⟨11, [], .slice H G.length I⟩, ⟨12, [], i6 ae⟩, ⟨13, [], i6 j⟩, ⟨14, [], pt J 0⟩, ⟨15, [], i6 ak⟩, ⟨51, [], .slice ao1 u0.length cap2⟩, ⟨52, [], i6 (u0.length : Int)⟩, ⟨53, [], i6 j⟩] dB := dD.reg; clear dD
  obtain ⟨h9, ia, ib, ic⟩ := h8
  refine lp (ι := (List Job) × Int × Int × (Option Addr) × Nat) (fun s => [⟨0, [], .slice ao1 u0.length cap2⟩, ⟨1, [], .slice ao4 u1.length cap5⟩, ⟨2, [], .slice ao7 u2.length cap8⟩, ⟨3, [], i6 u3⟩, ⟨11, [], .slice s.2.2.2.1 s.1.length s.2.2.2.2⟩, ⟨12, [], i6 s.2.1⟩, ⟨13, [], i6 j⟩, ⟨14, [], pt J 0⟩, ⟨15, [], i6 s.2.2.1⟩, ⟨51, [], .slice ao1 u0.length cap2⟩, ⟨52, [], i6 (u0.length : Int)⟩, ⟨53, [], i6 j⟩]) (fun s => [.row J (e32Dr f) 32, .own tyJob 57 s.2.2.2.1 s.2.2.2.2 s.1]) (fun s => Z) (fun s => h9 s.1 s.2.1 s.2.2.1) (fun s => ia s.1 s.2.1 s.2.2.1) ⟨G, ae, ak, H, I⟩ ib (by exact dE.reg) (by exact N) ?_
  rintro ⟨E, S, h, Q, R⟩ id ie ig dF dG
  have dH : Fr 189 [] [⟨0, [], .slice ao1 u0.length cap2⟩, ⟨1, [], .slice ao4 u1.length cap5⟩, ⟨2, [], .slice ao7 u2.length cap8⟩, ⟨3, [], i6 u3⟩, ⟨11, [], .slice Q E.length R⟩, ⟨12, [], i6 S⟩, ⟨13, [], i6 j⟩, ⟨14, [], pt J 0⟩, ⟨15, [], i6 h⟩, ⟨51, [], .slice ao1 u0.length cap2⟩, ⟨52, [], i6 (u0.length : Int)⟩, ⟨53, [], i6 j⟩] ie := dF; clear dF dE
  have aq : Mem w.heap.size [] w Z [.row J (e32Dr f) 32, .own tyJob 57 Q R E] Z ig := dG; clear dG N
  have bb := ic E S h id
  refine wp_seq ?_
  refine sqB dH aq [] [] [(76, .bool (decide (h < u3)))] ?_; intro dI bc; clear dH
  refine cd bc (t := decide (h < u3)) (by kernel_rfl) (fun b4 => ?_) (fun b4 => ?_)
  ·
   have ih := bb.1 b4; clear bb
   refine wp_skip ?_
   refine thn ?_
   have dJ : Fr 189 [] [⟨0, [], .slice ao1 u0.length cap2⟩, ⟨1, [], .slice ao4 u1.length cap5⟩, ⟨2, [], .slice ao7 u2.length cap8⟩, ⟨3, [], i6 u3⟩, ⟨11, [], .slice Q E.length R⟩, ⟨12, [], i6 S⟩, ⟨13, [], i6 j⟩, ⟨14, [], pt J 0⟩, ⟨15, [], i6 h⟩, ⟨51, [], .slice ao1 u0.length cap2⟩, ⟨52, [], i6 (u0.length : Int)⟩, ⟨53, [], i6 j⟩] dI := bc.reg; clear bc
   have b5 : Fr 189 [] [⟨0, [], .slice ao1 u0.length cap2⟩, ⟨1, [], .slice ao4 u1.length cap5⟩, ⟨2, [], .slice ao7 u2.length cap8⟩, ⟨3, [], i6 u3⟩, ⟨11, [], .slice Q E.length R⟩, ⟨12, [], i6 S⟩, ⟨13, [], i6 j⟩, ⟨14, [], pt J 0⟩, ⟨15, [], i6 h⟩, ⟨51, [], .slice ao1 u0.length cap2⟩, ⟨52, [], i6 (u0.length : Int)⟩, ⟨53, [], i6 j⟩] dI := dJ.reg; clear dJ
   obtain ⟨ii, bd, ij⟩ := ih
   refine wp_seq_k fun KJ297 hKJ298 => ?_
   have dK : ∀ (ar : List Job) (aN : Int) (be : Option Addr) (bf : Nat), ii ar aN → ∀ a1 w1, Fr 189 [] [⟨0, [], .slice ao1 u0.length cap2⟩, ⟨1, [], .slice ao4 u1.length cap5⟩, ⟨2, [], .slice ao7 u2.length cap8⟩, ⟨3, [], i6 u3⟩, ⟨11, [], .slice be ar.length bf⟩, ⟨12, [], i6 aN⟩, ⟨13, [], i6 j⟩, ⟨14, [], pt J 0⟩, ⟨15, [], i6 h⟩, ⟨51, [], .slice ao1 u0.length cap2⟩, ⟨52, [], i6 (u0.length : Int)⟩, ⟨53, [], i6 j⟩] a1 → Mem w.heap.size [] w Z [.row J (e32Dr f) 32, .own tyJob 57 be bf ar] Z w1 → KJ297 a1 w1 := by
    rintro ar aN be bf ik mM mN dL dM; clear b5 aq
    refine hKJ298 _ _ ?_; clear hKJ298
    have dN := ij ar aN ik
    refine rgB dL dM [0] [] [(15, i6 (w64 (h + f.Every)))] ?_; intro mO il; clear dL
    refine rd ?_
    exact ⟨⟨ar, aN, w64 (h + f.Every), be, bf⟩, dN.1, dN.2, (il.reg).anyβ _ (by kernel_rfl), dM.keep (List.Sublist.cons_cons _ (List.Sublist.cons_cons _ (List.Sublist.slnil)))⟩
   refine wp_block ?_
   refine sqH ?_; intro im dO
   refine bt b5 aq 4 [] [] [(84, .agg #[i6 j, i6 h, i6 h])] ?_; intro mP dP; clear b5
   refine nw dP aq pb [i6 0, i6 0, i6 0] 57 ?_; intro ac mQ mR b6 dQ; clear dP aq
   refine sx b6 dQ 0 [i6 j, i6 h, i6 h] 0 ?_; intro dR dS; clear dQ
   have U : Mem w.heap.size [] w Z [.row ac [i6 j, i6 h, i6 h] 57, .row J (e32Dr f) 32, .own tyJob 57 Q R E] Z dR := dS; clear dS
   refine nlH (dO _ _ ?_); clear dO im
   refine wp_seq ?_
   refine sqB b6 U [1] [] [(92, .bool ((decide ((u2.length : Int) > 0)) && (decide (f.Jitter > 0))))] ?_; intro mS aO; clear b6
   refine cd aO (t := (decide ((u2.length : Int) > 0)) && (decide (f.Jitter > 0))) (by kernel_rfl) (fun b7 => ?_) (fun b7 => ?_)
   ·
    have io := bd.1 b7; clear bd
    refine sqH ?_; intro ip dT
    refine bt aO U 4 [] [] [(93, .slice ao7 u2.length cap8), (94, i6 S), (96, i6 (u2.length : Int))] ?_; intro mT b8; clear aO
    obtain ⟨iq, ir⟩ := io
    refine st b8 (i6 (S.tmod (u2.length : Int))) (nog rfl _) rfl (by kernel_rfl) (rem_run b8 (g := []) rfl (by kernel_rfl) (by kernel_rfl) iq rfl) ?_; intro mU dU; clear b8
    obtain ⟨it, dV⟩ := ir
    refine ix dU (T := t6) (xs := u2) hs9 (S.tmod (u2.length : Int)) it (k := .i64) (e := 3) (bytes := 8) (nog rfl _) rfl (by kernel_rfl) rfl (by kernel_rfl) (by kernel_rfl) (by kernel_rfl) ?_; intro mV mW iu F mX iv iw iy dW; clear dU
    have bg := dV F iv; clear dV
    obtain rfl : iu = ([i6 F] : List Value) := iy
    refine z1 dW U 99 iw 0 (i6 F) rfl ?_; intro mY dX; clear dW
    refine s1 dX 17 (i6 F) ?_; intro mZ dY; clear dX
    refine nlH (dT _ _ ?_); clear dT ip
    refine wp_seq ?_
    refine sqB dY U [] [] [(101, .bool (decide (F < 0)))] ?_; intro iz aP; clear dY
    refine cd aP (t := decide (F < 0)) (by kernel_rfl) (fun b9 => ?_) (fun b9 => ?_)
    ·
     have iA := bg.1 b9; clear bg
     refine sqB aP U [] [] [(8, .slice none 0 0), (9, i6 3)] ?_; intro m0 iB; clear aP
     refine wp_ret ?_
     refine thr ?_
     refine thr ?_
     refine ibr ?_
     refine thr ?_
     refine thr ?_
     refine ibr ?_
     refine ibr ?_
     refine thr ?_
     refine thr ?_
     refine ibr ?_
     refine thr ?_
     have iC : Mem w.heap.size [] w Z [.own tySlot 47 none 0 ([] : List Slot), .row ac [i6 j, i6 h, i6 h] 57, .row J (e32Dr f) 32, .own tyJob 57 Q R E] Z dR := U.addNil tySlot 47 (by decide); clear U
     refine ra2 iB (.tuple #[.slice none ([] : List Slot).length 0, i6 3]) ?_
     exact ⟨(([] : List Slot), 3), none, 0, Z, rfl, iA, iC.keep (List.Sublist.cons_cons _ (List.Sublist.cons _ (List.Sublist.cons _ (List.Sublist.cons _ (List.Sublist.slnil)))))⟩
    have iD := bg.2 b9; clear bg
    refine wp_skip ?_
    refine thn ?_
    have dZ : Fr 189 [] [⟨0, [], .slice ao1 u0.length cap2⟩, ⟨1, [], .slice ao4 u1.length cap5⟩, ⟨2, [], .slice ao7 u2.length cap8⟩, ⟨3, [], i6 u3⟩, ⟨11, [], .slice Q E.length R⟩, ⟨12, [], i6 S⟩, ⟨13, [], i6 j⟩, ⟨14, [], pt J 0⟩, ⟨15, [], i6 h⟩, ⟨16, [], pt ac 0⟩, ⟨17, [], i6 F⟩, ⟨51, [], .slice ao1 u0.length cap2⟩, ⟨52, [], i6 (u0.length : Int)⟩, ⟨53, [], i6 j⟩] iz := aP.reg; clear aP
    refine wp_seq (rgS mixed U [(0, true), (1, true), (2, true), (3, true), (4, true), (5, true), (6, true), (7, true), (8, true), (9, false)] [9] [0, 1] [.row ac [i6 j, i6 h, i6 h] 57, .row J (e32Dr f) 32] ?_)
    intro iE d0 m1 d1; clear U
    have m2 := Fz.le.refl Z
    refine cS dZ 6 [0, 1] [] [(103, i6 h), (104, i6 F), (107, i6 (w64 (f.Jitter + 1)))] ?_; intro m3 ca; clear dZ
    obtain ⟨iF, iG⟩ := iD
    refine cst rfl ca (i6 (F.tmod (w64 (f.Jitter + 1)))) (nog rfl _) rfl (by kernel_rfl) (fun v414 hC => rem_run ca (g := []) rfl (by kernel_rfl) (by kernel_rfl) iF rfl) ?_; intro m4 d2; clear ca
    refine cS d2 2 [] [] [(109, i6 (w64 (h + (F.tmod (w64 (f.Jitter + 1)))))), (110, pt ac 2)] ?_; intro m5 cb; clear d2
    refine eL rfl ?_; intro iH d3
    refine sx cb d1 0 [i6 j, i6 h, i6 (w64 (h + (F.tmod (w64 (f.Jitter + 1)))))] 2 ?_; intro iI d4; clear d1
    have bh : Mem w.heap.size [] w Z [.row ac [i6 j, i6 h, i6 (w64 (h + (F.tmod (w64 (f.Jitter + 1)))))] 57, .row J (e32Dr f) 32, .own tyJob 57 Q R E] Z iI := d4; clear d4
    refine nl (qnI (d3 _ _ ?_)); clear d3 iH
    refine nS (d0 _ _ ?_); clear d0 iE
    refine thn ?_
    refine rgB cb bh [] [] [(12, i6 (w64 (S + 1)))] ?_; intro m6 d5; clear cb
    refine thn ?_
    refine sqH ?_; intro iJ d6
    refine bt d5 bh 2 [0] [] [(113, .slice Q E.length R), (114, .agg #[i6 j, i6 h, i6 (w64 (h + (F.tmod (w64 (f.Jitter + 1)))))])] ?_; intro m7 d7; clear d5
    refine nw d7 bh (fun b => .slice (sm b) 1 1) [i6 j, i6 h, i6 (w64 (h + (F.tmod (w64 (f.Jitter + 1)))))] 57 ?_; intro cc m8 m9 d8 ce; clear d7 bh
    obtain ⟨iK, bi⟩ := iG
    refine ap d8 ce 3 (T := tyJob) (xs := E) (ys := [(⟨j, h, w64 (h + (F.tmod (w64 (f.Jitter + 1))))⟩ : Job)]) (ao := Q) (cap := R) (ao2 := (sm cc)) (cap2 := 1) (t := 55) (e := 57) (bytes := 24) (nog rfl _) rfl (by kernel_rfl) rfl (by kernel_rfl) (by kernel_rfl) (by kernel_rfl) rfl (Src.row ce 0 rfl (RepAll.one (T := tyJob) (x := (⟨j, h, w64 (h + (F.tmod (w64 (f.Jitter + 1))))⟩ : Job)) rfl)) iK ?_; intro bj bk na d9 nb ea eb; clear d8 ce
    have aQ : Mem w.heap.size [] w Z [.row cc [i6 j, i6 h, i6 (w64 (h + (F.tmod (w64 (f.Jitter + 1)))))] 57, .row ac [i6 j, i6 h, i6 (w64 (h + (F.tmod (w64 (f.Jitter + 1)))))] 57, .row J (e32Dr f) 32, .own tyJob 57 bj bk (E ++ [(⟨j, h, w64 (h + (F.tmod (w64 (f.Jitter + 1))))⟩ : Job)])] Z d9 := eb; clear eb
    refine s1 ea 11 (.slice bj (E ++ [(⟨j, h, w64 (h + (F.tmod (w64 (f.Jitter + 1))))⟩ : Job)]).length bk) ?_; intro nc ec; clear ea
    refine nlH (d6 _ _ ?_); clear d6 iJ
    refine sqB ec aQ [] [] [(119, .bool (decide (((E ++ [(⟨j, h, w64 (h + (F.tmod (w64 (f.Jitter + 1))))⟩ : Job)]).length : Int) > 1000)))] ?_; intro nd bl; clear ec
    refine cd bl (t := decide (((E ++ [(⟨j, h, w64 (h + (F.tmod (w64 (f.Jitter + 1))))⟩ : Job)]).length : Int) > 1000)) (by kernel_rfl) (fun cf => ?_) (fun cf => ?_)
    ·
     have iL := bi.1 cf; clear bi
     refine sqB bl aQ [] [] [(8, .slice none 0 0), (9, i6 2)] ?_; intro ne iM; clear bl
     refine wp_ret ?_
     refine ibr ?_
     refine thr ?_
     refine thr ?_
     refine ibr ?_
     refine ibr ?_
     refine thr ?_
     refine thr ?_
     refine ibr ?_
     refine thr ?_
     have iN : Mem w.heap.size [] w Z [.own tySlot 47 none 0 ([] : List Slot), .row cc [i6 j, i6 h, i6 (w64 (h + (F.tmod (w64 (f.Jitter + 1)))))] 57, .row ac [i6 j, i6 h, i6 (w64 (h + (F.tmod (w64 (f.Jitter + 1)))))] 57, .row J (e32Dr f) 32, .own tyJob 57 bj bk (E ++ [(⟨j, h, w64 (h + (F.tmod (w64 (f.Jitter + 1))))⟩ : Job)])] Z d9 := aQ.addNil tySlot 47 (by decide); clear aQ
     refine ra2 iM (.tuple #[.slice none ([] : List Slot).length 0, i6 2]) ?_
     exact ⟨(([] : List Slot), 2), none, 0, Z, rfl, iL, iN.keep (List.Sublist.cons_cons _ (List.Sublist.cons _ (List.Sublist.cons _ (List.Sublist.cons _ (List.Sublist.cons _ (List.Sublist.slnil))))))⟩
    have iO := bi.2 cf; clear bi
    refine wp_skip ?_
    refine ibn ?_
    refine rd ?_
    exact dK (E ++ [(⟨j, h, w64 (h + (F.tmod (w64 (f.Jitter + 1))))⟩ : Job)]) (w64 (S + 1)) bj bk iO _ _ ((bl.reg).anyβ _ (by kernel_rfl)) (aQ.keep (List.Sublist.cons _ (List.Sublist.cons _ (List.Sublist.cons_cons _ (List.Sublist.cons_cons _ (List.Sublist.slnil))))))
   have iP := bd.2 b7; clear bd
   refine wp_skip ?_
   refine thn ?_
   refine sqH ?_; intro iQ ed
   refine bt aO U 2 [0] [] [(113, .slice Q E.length R), (114, .agg #[i6 j, i6 h, i6 h])] ?_; intro nf ee; clear aO
   refine nw ee U (fun b => .slice (sm b) 1 1) [i6 j, i6 h, i6 h] 57 ?_; intro cg ng nh ef ch; clear ee U
   obtain ⟨iR, bm⟩ := iP
   refine ap ef ch 3 (T := tyJob) (xs := E) (ys := [(⟨j, h, h⟩ : Job)]) (ao := Q) (cap := R) (ao2 := (sm cg)) (cap2 := 1) (t := 55) (e := 57) (bytes := 24) (nog rfl _) rfl (by kernel_rfl) rfl (by kernel_rfl) (by kernel_rfl) (by kernel_rfl) rfl (Src.row ch 0 rfl (RepAll.one (T := tyJob) (x := (⟨j, h, h⟩ : Job)) rfl)) iR ?_; intro bn bo ni eg nj eh ei; clear ef ch
   have aR : Mem w.heap.size [] w Z [.row cg [i6 j, i6 h, i6 h] 57, .row ac [i6 j, i6 h, i6 h] 57, .row J (e32Dr f) 32, .own tyJob 57 bn bo (E ++ [(⟨j, h, h⟩ : Job)])] Z eg := ei; clear ei
   refine s1 eh 11 (.slice bn (E ++ [(⟨j, h, h⟩ : Job)]).length bo) ?_; intro nk ej; clear eh
   refine nlH (ed _ _ ?_); clear ed iQ
   refine sqB ej aR [] [] [(119, .bool (decide (((E ++ [(⟨j, h, h⟩ : Job)]).length : Int) > 1000)))] ?_; intro nm bp; clear ej
   refine cd bp (t := decide (((E ++ [(⟨j, h, h⟩ : Job)]).length : Int) > 1000)) (by kernel_rfl) (fun ci => ?_) (fun ci => ?_)
   ·
    have iS := bm.1 ci; clear bm
    refine sqB bp aR [] [] [(8, .slice none 0 0), (9, i6 2)] ?_; intro nn iT; clear bp
    refine wp_ret ?_
    refine ibr ?_
    refine thr ?_
    refine thr ?_
    refine ibr ?_
    refine ibr ?_
    refine thr ?_
    refine thr ?_
    refine ibr ?_
    refine thr ?_
    have iU : Mem w.heap.size [] w Z [.own tySlot 47 none 0 ([] : List Slot), .row cg [i6 j, i6 h, i6 h] 57, .row ac [i6 j, i6 h, i6 h] 57, .row J (e32Dr f) 32, .own tyJob 57 bn bo (E ++ [(⟨j, h, h⟩ : Job)])] Z eg := aR.addNil tySlot 47 (by decide); clear aR
    refine ra2 iT (.tuple #[.slice none ([] : List Slot).length 0, i6 2]) ?_
    exact ⟨(([] : List Slot), 2), none, 0, Z, rfl, iS, iU.keep (List.Sublist.cons_cons _ (List.Sublist.cons _ (List.Sublist.cons _ (List.Sublist.cons _ (List.Sublist.cons _ (List.Sublist.slnil))))))⟩
   have iV := bm.2 ci; clear bm
   refine wp_skip ?_
   refine ibn ?_
   refine rd ?_
   exact dK (E ++ [(⟨j, h, h⟩ : Job)]) S bn bo iV _ _ ((bp.reg).anyβ _ (by kernel_rfl)) (aR.keep (List.Sublist.cons _ (List.Sublist.cons _ (List.Sublist.cons_cons _ (List.Sublist.cons_cons _ (List.Sublist.slnil))))))
  have iW := bb.2 b4; clear bb
  refine wp_exit ?_
  refine thx ?_
  refine thx ?_
  refine ibx ?_
  refine ibn ?_
  refine rd ?_
  exact hw E S Q R iW _ _ ((bc.reg).anyβ _ (by kernel_rfl)) (aq.keep (List.Sublist.cons _ (List.Sublist.cons_cons _ (List.Sublist.slnil))))
 have iX := a5.2 bX; clear a5
 refine wp_exit ?_
 refine thx ?_
 refine thx ?_
 refine ibx ?_
 refine thn ?_
 refine sqH ?_; intro iY ek
 refine s1 aI 121 (.slice H G.length I) ?_; intro no el; clear aI
 obtain ⟨iZ, em⟩ := iX
 refine ck el 22 #[.slice H G.length I, .func (.func 23) #[] #[]] ?_
 refine (ssort_fun G (fun x0 x1 => cmpj x0 x1 ) iZ H I 23 #[] _ _ _ _ _ _ (fun Z1 w1 h1 h2 x0 x1 => cmpj_fun x0 x1  Z1 w1 h2) (fun _ _ => by kernel_rfl) af af.fz).mono ?_; rintro _ i0 ⟨al, rfl, bq, i1, hm⟩; refine ⟨_, rfl, ?_⟩; intro i2 en; have eo := hm; clear hm af el
 replace hs3 := hs3.mono bq
 replace hs6 := hs6.mono bq
 replace hs9 := hs9.mono bq
 replace W := Fz.le.trans W bq
 have ep : Fr 189 [] [⟨0, [], .slice ao1 u0.length cap2⟩, ⟨1, [], .slice ao4 u1.length cap5⟩, ⟨2, [], .slice ao7 u2.length cap8⟩, ⟨3, [], i6 u3⟩, ⟨11, [], .slice H (ssortS G (fun x0 x1 => cmpj x0 x1 )).length I⟩, ⟨12, [], i6 ae⟩, ⟨51, [], .slice ao1 u0.length cap2⟩, ⟨52, [], i6 (u0.length : Int)⟩, ⟨53, [], i6 j⟩, ⟨54, [], .bool (decide (j < (u0.length : Int)))⟩, ⟨121, [], .slice H (ssortS G (fun x0 x1 => cmpj x0 x1 )).length I⟩, ⟨122, [], .tuple #[]⟩] i2 := by rw [i1]; exact en.reg
 clear en
 have br : Mem w.heap.size [] w Z [.own tyJob 57 H I (ssortS G (fun x0 x1 => cmpj x0 x1 ))] al i0 := eo; clear eo
 have i3 := em (br.ownSmall 0 rfl); clear em
 refine nlH (ek _ _ ?_); clear ek iY
 refine sqB ep br [] [] [(18, .slice none 0 0)] ?_; intro np eq; clear ep
 refine sqH ?_; intro i4 er
 refine nw eq br pb [i6 0] 3 ?_; intro i nq nr cj es; clear eq br
 refine sx cj es 0 [i6 0] 0 ?_; intro et eu; clear es
 have bs : Mem w.heap.size [] w Z [.row i [i6 0] 3, .own tyJob 57 H I (ssortS G (fun x0 x1 => cmpj x0 x1 ))] al et := eu; clear eu
 refine nlH (er _ _ ?_); clear er i4
 refine sqB cj bs [] [] [(20, .func (.func 24) #[] #[pt i 0])] ?_; intro bu ev; clear cj
 have ew : Fr 189 [] [⟨0, [], .slice ao1 u0.length cap2⟩, ⟨11, [], .slice H (ssortS G (fun x0 x1 => cmpj x0 x1 )).length I⟩, ⟨18, [], .slice none 0 0⟩, ⟨19, [], pt i 0⟩, ⟨20, [], .func (.func 24) #[] #[pt i 0]⟩] bu := ev.reg; clear ev
 have cl : Fr 189 [] [⟨0, [], .slice ao1 u0.length cap2⟩, ⟨11, [], .slice H (ssortS G (fun x0 x1 => cmpj x0 x1 )).length I⟩, ⟨18, [], .slice none 0 0⟩, ⟨19, [], pt i 0⟩, ⟨20, [], .func (.func 24) #[] #[pt i 0]⟩] bu := ew.reg; clear ew
 obtain ⟨i5, i7, i8⟩ := i3
 refine wp_seq_k fun KJ550 hKJ551 => ?_
 have i9 : ∀ (ag : List Slot) (bv : Int) (au : Option Addr) (av : Nat) (bw : Fz), i5 ag bv ∧ Fz.le al bw → ∀ a1 w1, Fr 189 [] [⟨18, [], .slice au ag.length av⟩] a1 → Mem w.heap.size [] w Z [.own tySlot 47 au av ag, .row i [i6 bv] 3] bw w1 → KJ550 a1 w1 := by
  rintro ag bv au av bw ⟨ja, bx⟩ ns nt ex ey; clear cl bs
  refine hKJ551 _ _ ?_; clear hKJ551
  have jb := i8 ag bv ja
  replace W := Fz.le.trans W bx
  have nu := hs3.mono bx
  have nv := hs6.mono bx
  have nx := hs9.mono bx
  refine sqB ex ey [] [] [(8, .slice au ag.length av), (9, i6 0)] ?_; intro ny jc; clear ex
  refine wp_ret ?_
  refine ra2 jc (.tuple #[.slice au ag.length av, i6 0]) ?_
  exact ⟨(ag, 0), au, av, bw, rfl, jb, ey.keep (List.Sublist.cons_cons _ (List.Sublist.cons _ (List.Sublist.slnil)))⟩
 have jd := Fz.le.refl al
 refine wp_block ?_
 have ez : Fr 189 [] [⟨0, [], .slice ao1 u0.length cap2⟩, ⟨11, [], .slice H (ssortS G (fun x0 x1 => cmpj x0 x1 )).length I⟩, ⟨18, [], .slice none 0 0⟩, ⟨19, [], pt i 0⟩, ⟨20, [], .func (.func 24) #[] #[pt i 0]⟩] bu := cl.reg; clear cl
 have eA : Mem w.heap.size [] w Z [.own tySlot 47 none 0 ([] : List Slot), .row i [i6 0] 3, .own tyJob 57 H I (ssortS G (fun x0 x1 => cmpj x0 x1 ))] al et := bs.addNil tySlot 47 (by decide); clear bs
 have eB : Fr 189 [] [⟨0, [], .slice ao1 u0.length cap2⟩, ⟨11, [], .slice H (ssortS G (fun x0 x1 => cmpj x0 x1 )).length I⟩, ⟨18, [], .slice none ([] : List Slot).length 0⟩, ⟨19, [], pt i 0⟩, ⟨20, [], .func (.func 24) #[] #[pt i 0]⟩] bu := ez.reg; clear ez
 obtain ⟨je, jf, jg, jh⟩ := i7
 have nz := W
 refine lp (ι := (List Job) × (List Slot) × Int × (Option Addr) × Nat × (Option Addr) × Nat × Fz) (fun s => [⟨0, [], .slice ao1 u0.length cap2⟩, ⟨11, [], .slice s.2.2.2.1 s.1.length s.2.2.2.2.1⟩, ⟨18, [], .slice s.2.2.2.2.2.1 s.2.1.length s.2.2.2.2.2.2.1⟩, ⟨19, [], pt i 0⟩, ⟨20, [], .func (.func 24) #[] #[pt i 0]⟩]) (fun s => [.own tySlot 47 s.2.2.2.2.2.1 s.2.2.2.2.2.2.1 s.2.1, .row i [i6 s.2.2.1] 3, .own tyJob 57 s.2.2.2.1 s.2.2.2.2.1 s.1]) (fun s => s.2.2.2.2.2.2.2) (fun s => je s.1 s.2.1 s.2.2.1 ∧ Fz.le al s.2.2.2.2.2.2.2) (fun s => jf s.1 s.2.1 s.2.2.1) ⟨(ssortS G (fun x0 x1 => cmpj x0 x1 )), ([] : List Slot), 0, H, I, none, 0, al⟩ ⟨jg, Fz.le.refl _⟩ (by exact eB.reg) (by exact eA) ?_
 rintro ⟨a, y, q, ad, l, z, A, O⟩ ⟨ji, X⟩ jj jk eC eD
 have eE : Fr 189 [] [⟨0, [], .slice ao1 u0.length cap2⟩, ⟨11, [], .slice ad a.length l⟩, ⟨18, [], .slice z y.length A⟩, ⟨19, [], pt i 0⟩, ⟨20, [], .func (.func 24) #[] #[pt i 0]⟩] jj := eC; clear eC eB
 have bz : Mem w.heap.size [] w Z [.own tySlot 47 z A y, .row i [i6 q] 3, .own tyJob 57 ad l a] O jk := eD; clear eD eA
 have bA := jh a y q ji
 replace W := Fz.le.trans W X
 have aw := hs3.mono X
 have bB := hs6.mono X
 have bC := hs9.mono X
 have aS := jd.mono X
 refine wp_seq ?_
 refine sqB eE bz [] [] [(126, .bool (decide ((a.length : Int) > 0)))] ?_; intro jl bD; clear eE
 refine cd bD (t := decide ((a.length : Int) > 0)) (by kernel_rfl) (fun cm => ?_) (fun cm => ?_)
 ·
  have jm := bA.1 cm; clear bA
  refine wp_skip ?_
  refine thn ?_
  refine wp_block ?_
  refine wp_seq ?_
  have eF : Fr 189 [] [⟨0, [], .slice ao1 u0.length cap2⟩, ⟨11, [], .slice ad a.length l⟩, ⟨18, [], .slice z y.length A⟩, ⟨19, [], pt i 0⟩, ⟨20, [], .func (.func 24) #[] #[pt i 0]⟩] jl := bD.reg; clear bD
  refine wp_seq (rgS mixed bz [(0, true), (4, true), (1, false), (2, true), (3, false), (5, true)] [] [1] [.row i [i6 q] 3] ?_)
  intro jn eG nA V; clear bz
  have eH := Fz.le.refl O
  refine cS eF 2 [0] [] [(127, .slice ad a.length l), (131, i6 q)] ?_; intro nB eI; clear eF
  refine eS rfl ?_; intro jo eJ
  obtain ⟨jp, eK⟩ := jm
  refine ixo eI V 2 (T := tyJob) (xs := a) (0 : Int) jp (k := .i64) (e := 57) (bytes := 24) (nog rfl _) rfl (by kernel_rfl) rfl (by kernel_rfl) (by kernel_rfl) rfl (by kernel_rfl) ?_; intro m nC jq eM; clear eI
  subst jq
  refine nl (qnI (eJ _ _ (V.cst eH [1]) ?_)); clear eJ jo
  refine cS eM 1 [] [] [(129, .pointer (some ⟨m, (0 : Int).toNat * 3 + 2, none⟩))] ?_; intro nD eN; clear eM
  refine eS rfl ?_; intro jr eO
  obtain ⟨ax, js, bE⟩ := gxq eK (by first | omega | (simp only [List.length_set] at *; omega)); clear eK
  obtain ⟨jt, ju, jv⟩ := own_el V 2 (T := tyJob) (xs := a) rfl (0 : Int).toNat js
  obtain rfl : jt = ((e57Dr ax) : List Value) := ju
  refine lc1 eN 130 (i6 ax.asked) (jv 2 _ rfl) rfl ?_; intro nE eP; clear eN
  refine nl (qnI (eO _ _ (V.cst eH [1]) ?_)); clear eO jr
  refine cS eP 1 [] [] [(132, .bool (decide (ax.asked > q)))] ?_; intro nF aT; clear eP
  refine nS (eG _ _ ?_); clear eG jn
  refine thn ?_
  refine cd aT (t := decide (ax.asked > q)) (by kernel_rfl) (fun cn => ?_) (fun cn => ?_)
  ·
   have jw := bE.1 cn; clear bE
   refine rgH ?_; intro jx eQ
   refine s1 aT 133 (.slice (sm m) a.length l) ?_; intro nG eR; clear aT
   obtain ⟨jy, eT⟩ := jw
   refine ixo eR V 2 (T := tyJob) (xs := a) (0 : Int) jy (k := .i64) (e := 57) (bytes := 24) (nog rfl _) rfl (by kernel_rfl) rfl (by kernel_rfl) (by kernel_rfl) rfl (by kernel_rfl) ?_; intro jz nH jA eU; clear eR
   obtain rfl : m = jz := by simpa using jA
   refine s1 eU 135 (.pointer (some ⟨m, (0 : Int).toNat * 3 + 2, none⟩)) ?_; intro nI eV; clear eU
   obtain ⟨u, jB, jC⟩ := gxq eT (by first | omega | (simp only [List.length_set] at *; omega)); clear eT
   obtain ⟨jD, jE, jF⟩ := own_el V 2 (T := tyJob) (xs := a) rfl (0 : Int).toNat jB
   obtain rfl : jD = ((e57Dr u) : List Value) := jE
   refine lc1 eV 136 (i6 u.asked) (jF 2 _ rfl) rfl ?_; intro nJ co; clear eV
   refine sx co V 1 [i6 u.asked] 0 ?_; intro jG eW; clear V
   have bF : Mem w.heap.size [] w Z [.own tySlot 47 z A y, .row i [i6 u.asked] 3, .own tyJob 57 (sm m) l a] O jG := eW; clear eW
   refine nlH (eQ _ _ ?_); clear eQ jx
   refine thn ?_
   refine sqB co bF [] [] [(21, i6 0)] ?_; intro nK eX; clear co
   refine wp_seq ?_
   refine sqB eX bF [] [] [(137, .slice (sm m) a.length l), (138, i6 (a.length : Int)), (139, i6 0)] ?_; intro eY eZ; clear eX
   refine wp_block ?_
   have e0 : Fr 189 [] [⟨0, [], .slice ao1 u0.length cap2⟩, ⟨11, [], .slice (sm m) a.length l⟩, ⟨18, [], .slice z y.length A⟩, ⟨19, [], pt i 0⟩, ⟨20, [], .func (.func 24) #[] #[pt i 0]⟩, ⟨21, [], i6 0⟩, ⟨137, [], .slice (sm m) a.length l⟩, ⟨138, [], i6 (a.length : Int)⟩, ⟨139, [], i6 0⟩] eY := eZ.reg; clear eZ
   have e1 : Fr 189 [] [⟨0, [], .slice ao1 u0.length cap2⟩, ⟨11, [], .slice (sm m) a.length l⟩, ⟨18, [], .slice z y.length A⟩, ⟨19, [], pt i 0⟩, ⟨20, [], .func (.func 24) #[] #[pt i 0]⟩, ⟨21, [], i6 0⟩, ⟨137, [], .slice (sm m) a.length l⟩, ⟨138, [], i6 (a.length : Int)⟩, ⟨139, [], i6 0⟩] eY := e0.reg; clear e0
   obtain ⟨jH, jI, jJ, jK⟩ := jC
   refine lp (ι := Int × Int) (fun s => [⟨0, [], .slice ao1 u0.length cap2⟩, ⟨11, [], .slice (sm m) a.length l⟩, ⟨18, [], .slice z y.length A⟩, ⟨19, [], pt i 0⟩, ⟨20, [], .func (.func 24) #[] #[pt i 0]⟩, ⟨21, [], i6 s.1⟩, ⟨137, [], .slice (sm m) a.length l⟩, ⟨138, [], i6 (a.length : Int)⟩, ⟨139, [], i6 s.2⟩]) (fun s => [.own tySlot 47 z A y, .row i [i6 u.asked] 3, .own tyJob 57 (sm m) l a]) (fun s => O) (fun s => jH s.1 s.2) (fun s => jI s.1 s.2) ⟨0, 0⟩ jJ (by exact e1.reg) (by exact bF) ?_
   rintro ⟨n, B⟩ jL jM jN e2 e3
   have e4 : Fr 189 [] [⟨0, [], .slice ao1 u0.length cap2⟩, ⟨11, [], .slice (sm m) a.length l⟩, ⟨18, [], .slice z y.length A⟩, ⟨19, [], pt i 0⟩, ⟨20, [], .func (.func 24) #[] #[pt i 0]⟩, ⟨21, [], i6 n⟩, ⟨137, [], .slice (sm m) a.length l⟩, ⟨138, [], i6 (a.length : Int)⟩, ⟨139, [], i6 B⟩] jM := e2; clear e2 e1
   have Y : Mem w.heap.size [] w Z [.own tySlot 47 z A y, .row i [i6 u.asked] 3, .own tyJob 57 (sm m) l a] O jN := e3; clear e3 bF
   have bG := jK n B jL
   refine sqB e4 Y [] [] [(140, .bool (decide (B < (a.length : Int))))] ?_; intro e5 aU; clear e4
   refine wp_seq ?_
   refine cd aU (t := decide (B < (a.length : Int))) (by kernel_rfl) (fun cp => ?_) (fun cp => ?_)
   ·
    have jO := bG.1 cp; clear bG
    refine wp_skip ?_
    refine thn ?_
    have e6 : Fr 189 [] [⟨0, [], .slice ao1 u0.length cap2⟩, ⟨11, [], .slice (sm m) a.length l⟩, ⟨18, [], .slice z y.length A⟩, ⟨19, [], pt i 0⟩, ⟨20, [], .func (.func 24) #[] #[pt i 0]⟩, ⟨21, [], i6 n⟩, ⟨137, [], .slice (sm m) a.length l⟩, ⟨138, [], i6 (a.length : Int)⟩, ⟨139, [], i6 B⟩] e5 := aU.reg; clear aU
    have cq : Fr 189 [] [⟨0, [], .slice ao1 u0.length cap2⟩, ⟨11, [], .slice (sm m) a.length l⟩, ⟨18, [], .slice z y.length A⟩, ⟨19, [], pt i 0⟩, ⟨20, [], .func (.func 24) #[] #[pt i 0]⟩, ⟨21, [], i6 n⟩, ⟨137, [], .slice (sm m) a.length l⟩, ⟨138, [], i6 (a.length : Int)⟩, ⟨139, [], i6 B⟩] e5 := e6.reg; clear e6
    obtain ⟨jP, jQ, jR⟩ := jO
    refine wp_seq_k fun KJ685 hKJ686 => ?_
    have e7 : ∀ (aa : Int), jP aa → ∀ a1 w1, Fr 189 [] [⟨0, [], .slice ao1 u0.length cap2⟩, ⟨11, [], .slice (sm m) a.length l⟩, ⟨18, [], .slice z y.length A⟩, ⟨19, [], pt i 0⟩, ⟨20, [], .func (.func 24) #[] #[pt i 0]⟩, ⟨21, [], i6 aa⟩, ⟨137, [], .slice (sm m) a.length l⟩, ⟨138, [], i6 (a.length : Int)⟩, ⟨139, [], i6 B⟩] a1 → Mem w.heap.size [] w Z [.own tySlot 47 z A y, .row i [i6 u.asked] 3, .own tyJob 57 (sm m) l a] O w1 → KJ685 a1 w1 := by
     rintro aa jS nL nM e8 e9; clear cq Y
     refine hKJ686 _ _ ?_; clear hKJ686
     have fa := jR aa jS
     refine rgB e8 e9 [] [] [(139, i6 (w64 (B + 1)))] ?_; intro nN jT; clear e8
     refine rd ?_
     exact ⟨⟨aa, w64 (B + 1)⟩, fa.1, fa.2, (jT.reg).anyβ _ (by kernel_rfl), e9.keep (List.Sublist.cons_cons _ (List.Sublist.cons_cons _ (List.Sublist.cons_cons _ (List.Sublist.slnil))))⟩
    refine wp_block ?_
    refine sqH ?_; intro jU fb
    refine s1 cq 141 (i6 B) ?_; intro nO fd; clear cq
    obtain ⟨jV, fe⟩ := jQ
    refine ixo fd Y 2 (T := tyJob) (xs := a) B jV (k := .i64) (e := 57) (bytes := 24) (nog rfl _) rfl (by kernel_rfl) rfl (by kernel_rfl) (by kernel_rfl) rfl (by kernel_rfl) ?_; intro jW nP jX ff; clear fd
    obtain rfl : m = jW := by simpa using jX
    obtain ⟨L, jY, jZ⟩ := gxq fe (by first | omega | (simp only [List.length_set] at *; omega)); clear fe
    obtain ⟨j0, j1, j2⟩ := own_el Y 2 (T := tyJob) (xs := a) rfl B.toNat jY
    obtain rfl : j0 = ((e57Dr L) : List Value) := j1
    refine lc2 ff 143 3 (e57Dr L) j2 rfl ?_; intro nQ fg; clear ff
    refine nw fg Y pb [i6 0, i6 0, i6 0] 57 ?_; intro cr nR nT fh fi; clear fg Y
    refine s1 fh 22 (i6 B) ?_; intro j3 cs; clear fh
    refine sx cs fi 0 (e57Dr L) 0 ?_; intro j4 fj; clear fi
    have fk : Mem w.heap.size [] w Z [.row cr (e57Dr L) 57, .own tySlot 47 z A y, .row i [i6 u.asked] 3, .own tyJob 57 (sm m) l a] O j4 := fj; clear fj
    refine nlH (fb _ _ ?_); clear fb jU
    have fl : Fr 189 [] [⟨0, [], .slice ao1 u0.length cap2⟩, ⟨11, [], .slice (sm m) a.length l⟩, ⟨18, [], .slice z y.length A⟩, ⟨19, [], pt i 0⟩, ⟨20, [], .func (.func 24) #[] #[pt i 0]⟩, ⟨21, [], i6 n⟩, ⟨22, [], i6 B⟩, ⟨23, [], pt cr 0⟩, ⟨137, [], .slice (sm m) a.length l⟩, ⟨138, [], i6 (a.length : Int)⟩, ⟨139, [], i6 B⟩] j3 := cs.reg; clear cs
    refine wp_seq (rgS mixed fk [(0, true), (1, true), (2, true), (3, true), (4, false), (5, false), (6, false)] [6] [0] [.row cr (e57Dr L) 57] ?_)
    intro j5 fm nU am; clear fk
    have fn := Fz.le.refl O
    refine cS fl 4 [0] [] [(144, .func (.func 24) #[] #[pt i 0]), (145, .agg (e57Dr L).toArray), (146, .slice (sm m) a.length l), (147, i6 n)] ?_; intro nV fo; clear fl
    refine eS rfl ?_; intro j6 fp
    obtain ⟨j7, fq⟩ := jZ
    refine ixo fo am 3 (T := tyJob) (xs := a) n j7 (k := .i64) (e := 57) (bytes := 24) (nog rfl _) rfl (by kernel_rfl) rfl (by kernel_rfl) (by kernel_rfl) rfl (by kernel_rfl) ?_; intro j8 nW j9 fr; clear fo
    obtain rfl : m = j8 := by simpa using j9
    refine nl (qnI (fp _ _ (am.cst fn [0]) ?_)); clear fp j6
    refine eS rfl ?_; intro ka fs
    obtain ⟨ah, kb, bH⟩ := gxq fq (by first | omega | (simp only [List.length_set] at *; omega)); clear fq
    obtain ⟨kc, kd, ke⟩ := own_el am 3 (T := tyJob) (xs := a) rfl n.toNat kb
    obtain rfl : kc = ((e57Dr ah) : List Value) := kd
    refine lc2 fr 149 3 (e57Dr ah) ke rfl ?_; intro nX ft; clear fr
    refine nl (qnI (fs _ _ (am.cst fn [0]) ?_)); clear fs ka
    refine eL rfl ?_; intro kf fu
    refine fc ft am ((by obtain ⟨Z9, kg, ct, kh⟩ := am.lendRow 2 rfl; exact ahead_fun L ah u.asked i 0 _ _ kh ct)) ?_; intro nY nZ bI cu; clear ft am
    refine nl (qnI (fu _ _ ?_)); clear fu kf
    refine nS (fm _ _ ?_); clear fm j5
    refine thn ?_
    refine cd bI (t := (ahead L ah u.asked)) (by kernel_rfl) (fun cv => ?_) (fun cv => ?_)
    ·
     have ki := bH.1 cv; clear bH
     refine rgB bI cu [] [] [(21, i6 B)] ?_; intro n0 kj; clear bI
     refine ibn ?_
     refine rd ?_
     exact e7 B ki _ _ ((kj.reg).anyβ _ (by kernel_rfl)) (cu.keep (List.Sublist.cons _ (List.Sublist.cons_cons _ (List.Sublist.cons_cons _ (List.Sublist.cons_cons _ (List.Sublist.slnil))))))
    have kk := bH.2 cv; clear bH
    refine wp_skip ?_
    refine ibn ?_
    refine rd ?_
    exact e7 n kk _ _ ((bI.reg).anyβ _ (by kernel_rfl)) (cu.keep (List.Sublist.cons _ (List.Sublist.cons_cons _ (List.Sublist.cons_cons _ (List.Sublist.cons_cons _ (List.Sublist.slnil))))))
   have kl := bG.2 cp; clear bG
   refine wp_exit ?_
   refine thx ?_
   refine thx ?_
   refine ibx ?_
   refine thn ?_
   refine sqH ?_; intro km fv
   refine bt aU Y 2 [] [] [(153, .slice (sm m) a.length l), (154, i6 n)] ?_; intro n1 fw; clear aU
   obtain ⟨kn, fx⟩ := kl
   refine ixo fw Y 2 (T := tyJob) (xs := a) n kn (k := .i64) (e := 57) (bytes := 24) (nog rfl _) rfl (by kernel_rfl) rfl (by kernel_rfl) (by kernel_rfl) rfl (by kernel_rfl) ?_; intro ko n2 kp fy; clear fw
   obtain rfl : m = ko := by simpa using kp
   obtain ⟨o, kq, kr⟩ := gxq fx (by first | omega | (simp only [List.length_set] at *; omega)); clear fx
   obtain ⟨ks, kt, ku⟩ := own_el Y 2 (T := tyJob) (xs := a) rfl n.toNat kq
   obtain rfl : ks = ((e57Dr o) : List Value) := kt
   refine lc2 fy 156 3 (e57Dr o) ku rfl ?_; intro n3 fA; clear fy
   refine nw fA Y pb [i6 0, i6 0, i6 0] 57 ?_; intro aV n4 n5 cw fB; clear fA Y
   refine sx cw fB 0 (e57Dr o) 0 ?_; intro kv fC; clear fB
   have bJ : Mem w.heap.size [] w Z [.row aV (e57Dr o) 57, .own tySlot 47 z A y, .row i [i6 u.asked] 3, .own tyJob 57 (sm m) l a] O kv := fC; clear fC
   refine nlH (fv _ _ ?_); clear fv km
   refine sqH ?_; intro kw fD
   refine bt cw bJ 4 [] [] [(157, .slice (sm m) a.length l), (158, i6 n), (160, i6 (w64 (n + 1)))] ?_; intro n6 fE; clear cw
   obtain ⟨kx, fF⟩ := kr
   refine ck fE 25 #[.slice (sm m) a.length l, i6 n, i6 (w64 (n + 1))] ?_
   refine (sdel_fun a n (w64 (n + 1)) kx (sm m) l _ _ _ _ _ _ (bJ.perm (pk 3 rfl)) bJ.fz).mono ?_; rintro _ ky ⟨ay, az, aW, rfl, aA, hm⟩; refine ⟨_, rfl, ?_⟩; intro n7 fG; have fH := hm; clear hm bJ fE
   replace aw := aw.mono aA
   replace bB := bB.mono aA
   replace bC := bC.mono aA
   replace aS := aS.mono aA
   replace X := X.mono aA
   replace W := Fz.le.trans W aA
   have aB : Mem w.heap.size [] w Z [.own tyJob 57 ay az (sdelS a n (w64 (n + 1))), .row aV (e57Dr o) 57, .own tySlot 47 z A y, .row i [i6 u.asked] 3] aW ky := fH; clear fH
   have kz := fF (aB.ownSmall 0 rfl); clear fF
   refine s1 fG 11 (.slice ay (sdelS a n (w64 (n + 1))).length az) ?_; intro n8 fI; clear fG
   refine nlH (fD _ _ ?_); clear fD kw
   refine sqH ?_; intro kA fJ
   refine bt fI aB 3 [1] [] [(163, .slice ao1 u0.length cap2), (165, i6 o.task)] ?_; intro n9 fK; clear fI
   obtain ⟨kB, fL⟩ := kz
   refine ix fK (T := tyTask) (xs := u0) aw o.task kB (k := .i64) (e := 32) (bytes := 40) (nog rfl _) rfl (by kernel_rfl) rfl (by kernel_rfl) (by kernel_rfl) (by kernel_rfl) ?_; intro kC kD kE C oa kF kG kH fM; clear fK
   have kI := fL C kF; clear fL
   obtain rfl : kE = ((e32Dr C) : List Value) := kH
   refine s1 fM 167 (.pointer (some ⟨kC, kD + 1, none⟩)) ?_; intro ob fN; clear fM
   refine z1 fN aB 168 kG 1 (i6 C.Bytes) rfl ?_; intro oc fO; clear fN
   refine fc fO aB (flongest_fun false false C.Bytes _ _ aB.fz) ?_; intro od oe fP bK; clear fO aB
   refine bt fP bK 5 [] [] [(25, i6 (flongestS false false C.Bytes).1)] ?_; intro og fQ; clear fP
   refine nlH (fJ _ _ ?_); clear fJ kA
   refine sqH ?_; intro kJ fR
   refine bt fQ bK 10 [1, 1, 3, 3] [] [(181, .agg #[i6 o.task, i6 o.from_, i6 u.asked, i6 (w64 ((w64 (u.asked + (flongestS false false C.Bytes).1)) + 3))])] ?_; intro oh fS; clear fQ
   refine nw fS bK pb [i6 0, i6 0, i6 0, i6 0] 47 ?_; intro cx oi oj cy fT; clear fS bK
   refine sx cy fT 0 [i6 o.task, i6 o.from_, i6 u.asked, i6 (w64 ((w64 (u.asked + (flongestS false false C.Bytes).1)) + 3))] 0 ?_; intro kK fU; clear fT
   have cz : Mem w.heap.size [] w Z [.row cx [i6 o.task, i6 o.from_, i6 u.asked, i6 (w64 ((w64 (u.asked + (flongestS false false C.Bytes).1)) + 3))] 47, .own tyJob 57 ay az (sdelS a n (w64 (n + 1))), .row aV (e57Dr o) 57, .own tySlot 47 z A y, .row i [i6 u.asked] 3] aW kK := fU; clear fU
   refine nlH (fR _ _ ?_); clear fR kJ
   refine sqH ?_; intro kL fV
   refine bt cy cz 2 [0] [] [(182, .slice z y.length A), (183, .agg #[i6 o.task, i6 o.from_, i6 u.asked, i6 (w64 ((w64 (u.asked + (flongestS false false C.Bytes).1)) + 3))])] ?_; intro ok fW; clear cy
   refine nw fW cz (fun b => .slice (sm b) 1 1) [i6 o.task, i6 o.from_, i6 u.asked, i6 (w64 ((w64 (u.asked + (flongestS false false C.Bytes).1)) + 3))] 47 ?_; intro cA ol om fX cB; clear fW cz
   obtain ⟨kM, fY⟩ := kI
   refine ap fX cB 4 (T := tySlot) (xs := y) (ys := [(⟨o.task, o.from_, u.asked, w64 ((w64 (u.asked + (flongestS false false C.Bytes).1)) + 3)⟩ : Slot)]) (ao := z) (cap := A) (ao2 := (sm cA)) (cap2 := 1) (t := 39) (e := 47) (bytes := 32) (nog rfl _) rfl (by kernel_rfl) rfl (by kernel_rfl) (by kernel_rfl) (by kernel_rfl) rfl (Src.row cB 0 rfl (RepAll.one (T := tySlot) (x := (⟨o.task, o.from_, u.asked, w64 ((w64 (u.asked + (flongestS false false C.Bytes).1)) + 3)⟩ : Slot)) rfl)) kM ?_; intro bL bM oo kN op fZ f0; clear fX cB
   have cC : Mem w.heap.size [] w Z [.row cA [i6 o.task, i6 o.from_, i6 u.asked, i6 (w64 ((w64 (u.asked + (flongestS false false C.Bytes).1)) + 3))] 47, .row cx [i6 o.task, i6 o.from_, i6 u.asked, i6 (w64 ((w64 (u.asked + (flongestS false false C.Bytes).1)) + 3))] 47, .own tyJob 57 ay az (sdelS a n (w64 (n + 1))), .row aV (e57Dr o) 57, .own tySlot 47 bL bM (y ++ [(⟨o.task, o.from_, u.asked, w64 ((w64 (u.asked + (flongestS false false C.Bytes).1)) + 3)⟩ : Slot)]), .row i [i6 u.asked] 3] aW kN := f0; clear f0
   refine s1 fZ 18 (.slice bL (y ++ [(⟨o.task, o.from_, u.asked, w64 ((w64 (u.asked + (flongestS false false C.Bytes).1)) + 3)⟩ : Slot)]).length bM) ?_; intro oq f1; clear fZ
   refine nlH (fV _ _ ?_); clear fV kL
   refine rgH ?_; intro kO f2
   refine bt f1 cC 2 [1] [] [(187, i6 (w64 ((w64 (u.asked + (flongestS false false C.Bytes).1)) + 3)))] ?_; intro or f3; clear f1
   refine sx f3 cC 5 [i6 (w64 ((w64 (u.asked + (flongestS false false C.Bytes).1)) + 3))] 0 ?_; intro kP f4; clear cC
   have kQ : Mem w.heap.size [] w Z [.row cA [i6 o.task, i6 o.from_, i6 u.asked, i6 (w64 ((w64 (u.asked + (flongestS false false C.Bytes).1)) + 3))] 47, .row cx [i6 o.task, i6 o.from_, i6 u.asked, i6 (w64 ((w64 (u.asked + (flongestS false false C.Bytes).1)) + 3))] 47, .own tyJob 57 ay az (sdelS a n (w64 (n + 1))), .row aV (e57Dr o) 57, .own tySlot 47 bL bM (y ++ [(⟨o.task, o.from_, u.asked, w64 ((w64 (u.asked + (flongestS false false C.Bytes).1)) + 3)⟩ : Slot)]), .row i [i6 (w64 ((w64 (u.asked + (flongestS false false C.Bytes).1)) + 3))] 3] aW kP := f4; clear f4
   refine nlH (f2 _ _ ?_); clear f2 kO
   refine ibn ?_
   refine rd ?_
   have kR := kQ.perm ((pk 4 rfl).trans (((pk 4 rfl).trans (((pk 2 rfl).trans (lpr.cons _)).cons _)).cons _))
   exact ⟨⟨(sdelS a n (w64 (n + 1))), y ++ [(⟨o.task, o.from_, u.asked, w64 ((w64 (u.asked + (flongestS false false C.Bytes).1)) + 3)⟩ : Slot)], w64 ((w64 (u.asked + (flongestS false false C.Bytes).1)) + 3), ay, az, bL, bM, aW⟩, ⟨fY.1, X⟩, fY.2, (f3.reg).anyβ _ (by kernel_rfl), kR.keep (List.Sublist.cons_cons _ (List.Sublist.cons_cons _ (List.Sublist.cons_cons _ (List.Sublist.cons _ (List.Sublist.cons _ (List.Sublist.cons _ (List.Sublist.slnil)))))))⟩
  have kS := bE.2 cn; clear bE
  refine wp_skip ?_
  refine thn ?_
  refine sqB aT V [] [] [(21, i6 0)] ?_; intro os f5; clear aT
  refine wp_seq ?_
  refine sqB f5 V [] [] [(137, .slice (sm m) a.length l), (138, i6 (a.length : Int)), (139, i6 0)] ?_; intro f6 f7; clear f5
  refine wp_block ?_
  have f8 : Fr 189 [] [⟨0, [], .slice ao1 u0.length cap2⟩, ⟨11, [], .slice (sm m) a.length l⟩, ⟨18, [], .slice z y.length A⟩, ⟨19, [], pt i 0⟩, ⟨20, [], .func (.func 24) #[] #[pt i 0]⟩, ⟨21, [], i6 0⟩, ⟨137, [], .slice (sm m) a.length l⟩, ⟨138, [], i6 (a.length : Int)⟩, ⟨139, [], i6 0⟩] f6 := f7.reg; clear f7
  have f9 : Fr 189 [] [⟨0, [], .slice ao1 u0.length cap2⟩, ⟨11, [], .slice (sm m) a.length l⟩, ⟨18, [], .slice z y.length A⟩, ⟨19, [], pt i 0⟩, ⟨20, [], .func (.func 24) #[] #[pt i 0]⟩, ⟨21, [], i6 0⟩, ⟨137, [], .slice (sm m) a.length l⟩, ⟨138, [], i6 (a.length : Int)⟩, ⟨139, [], i6 0⟩] f6 := f8.reg; clear f8
  obtain ⟨kT, kU, kV, kW⟩ := kS
  refine lp (ι := Int × Int) (fun s => [⟨0, [], .slice ao1 u0.length cap2⟩, ⟨11, [], .slice (sm m) a.length l⟩, ⟨18, [], .slice z y.length A⟩, ⟨19, [], pt i 0⟩, ⟨20, [], .func (.func 24) #[] #[pt i 0]⟩, ⟨21, [], i6 s.1⟩, ⟨137, [], .slice (sm m) a.length l⟩, ⟨138, [], i6 (a.length : Int)⟩, ⟨139, [], i6 s.2⟩]) (fun s => [.own tySlot 47 z A y, .row i [i6 q] 3, .own tyJob 57 (sm m) l a]) (fun s => O) (fun s => kT s.1 s.2) (fun s => kU s.1 s.2) ⟨0, 0⟩ kV (by exact f9.reg) (by exact V) ?_
  rintro ⟨n, B⟩ kX kY kZ ga gb
  have gc : Fr 189 [] [⟨0, [], .slice ao1 u0.length cap2⟩, ⟨11, [], .slice (sm m) a.length l⟩, ⟨18, [], .slice z y.length A⟩, ⟨19, [], pt i 0⟩, ⟨20, [], .func (.func 24) #[] #[pt i 0]⟩, ⟨21, [], i6 n⟩, ⟨137, [], .slice (sm m) a.length l⟩, ⟨138, [], i6 (a.length : Int)⟩, ⟨139, [], i6 B⟩] kY := ga; clear ga f9
  have ab : Mem w.heap.size [] w Z [.own tySlot 47 z A y, .row i [i6 q] 3, .own tyJob 57 (sm m) l a] O kZ := gb; clear gb V
  have bN := kW n B kX
  refine sqB gc ab [] [] [(140, .bool (decide (B < (a.length : Int))))] ?_; intro gd aX; clear gc
  refine wp_seq ?_
  refine cd aX (t := decide (B < (a.length : Int))) (by kernel_rfl) (fun cD => ?_) (fun cD => ?_)
  ·
   have k0 := bN.1 cD; clear bN
   refine wp_skip ?_
   refine thn ?_
   have ge : Fr 189 [] [⟨0, [], .slice ao1 u0.length cap2⟩, ⟨11, [], .slice (sm m) a.length l⟩, ⟨18, [], .slice z y.length A⟩, ⟨19, [], pt i 0⟩, ⟨20, [], .func (.func 24) #[] #[pt i 0]⟩, ⟨21, [], i6 n⟩, ⟨137, [], .slice (sm m) a.length l⟩, ⟨138, [], i6 (a.length : Int)⟩, ⟨139, [], i6 B⟩] gd := aX.reg; clear aX
   have cE : Fr 189 [] [⟨0, [], .slice ao1 u0.length cap2⟩, ⟨11, [], .slice (sm m) a.length l⟩, ⟨18, [], .slice z y.length A⟩, ⟨19, [], pt i 0⟩, ⟨20, [], .func (.func 24) #[] #[pt i 0]⟩, ⟨21, [], i6 n⟩, ⟨137, [], .slice (sm m) a.length l⟩, ⟨138, [], i6 (a.length : Int)⟩, ⟨139, [], i6 B⟩] gd := ge.reg; clear ge
   obtain ⟨k1, k2, k3⟩ := k0
   refine wp_seq_k fun KJ952 hKJ953 => ?_
   have gf : ∀ (aa : Int), k1 aa → ∀ a1 w1, Fr 189 [] [⟨0, [], .slice ao1 u0.length cap2⟩, ⟨11, [], .slice (sm m) a.length l⟩, ⟨18, [], .slice z y.length A⟩, ⟨19, [], pt i 0⟩, ⟨20, [], .func (.func 24) #[] #[pt i 0]⟩, ⟨21, [], i6 aa⟩, ⟨137, [], .slice (sm m) a.length l⟩, ⟨138, [], i6 (a.length : Int)⟩, ⟨139, [], i6 B⟩] a1 → Mem w.heap.size [] w Z [.own tySlot 47 z A y, .row i [i6 q] 3, .own tyJob 57 (sm m) l a] O w1 → KJ952 a1 w1 := by
    rintro aa k4 ot ou gg gh; clear cE ab
    refine hKJ953 _ _ ?_; clear hKJ953
    have gi := k3 aa k4
    refine rgB gg gh [] [] [(139, i6 (w64 (B + 1)))] ?_; intro ov k5; clear gg
    refine rd ?_
    exact ⟨⟨aa, w64 (B + 1)⟩, gi.1, gi.2, (k5.reg).anyβ _ (by kernel_rfl), gh.keep (List.Sublist.cons_cons _ (List.Sublist.cons_cons _ (List.Sublist.cons_cons _ (List.Sublist.slnil))))⟩
   refine wp_block ?_
   refine sqH ?_; intro k6 gj
   refine s1 cE 141 (i6 B) ?_; intro ow gk; clear cE
   obtain ⟨k7, gl⟩ := k2
   refine ixo gk ab 2 (T := tyJob) (xs := a) B k7 (k := .i64) (e := 57) (bytes := 24) (nog rfl _) rfl (by kernel_rfl) rfl (by kernel_rfl) (by kernel_rfl) rfl (by kernel_rfl) ?_; intro k8 ox k9 gm; clear gk
   obtain rfl : m = k8 := by simpa using k9
   obtain ⟨M, la, lb⟩ := gxq gl (by first | omega | (simp only [List.length_set] at *; omega)); clear gl
   obtain ⟨lc, ld, lf⟩ := own_el ab 2 (T := tyJob) (xs := a) rfl B.toNat la
   obtain rfl : lc = ((e57Dr M) : List Value) := ld
   refine lc2 gm 143 3 (e57Dr M) lf rfl ?_; intro oy gn; clear gm
   refine nw gn ab pb [i6 0, i6 0, i6 0] 57 ?_; intro cF oz oA go gp; clear gn ab
   refine s1 go 22 (i6 B) ?_; intro lg cG; clear go
   refine sx cG gp 0 (e57Dr M) 0 ?_; intro lh gq; clear gp
   have gr : Mem w.heap.size [] w Z [.row cF (e57Dr M) 57, .own tySlot 47 z A y, .row i [i6 q] 3, .own tyJob 57 (sm m) l a] O lh := gq; clear gq
   refine nlH (gj _ _ ?_); clear gj k6
   have gs : Fr 189 [] [⟨0, [], .slice ao1 u0.length cap2⟩, ⟨11, [], .slice (sm m) a.length l⟩, ⟨18, [], .slice z y.length A⟩, ⟨19, [], pt i 0⟩, ⟨20, [], .func (.func 24) #[] #[pt i 0]⟩, ⟨21, [], i6 n⟩, ⟨22, [], i6 B⟩, ⟨23, [], pt cF 0⟩, ⟨137, [], .slice (sm m) a.length l⟩, ⟨138, [], i6 (a.length : Int)⟩, ⟨139, [], i6 B⟩] lg := cG.reg; clear cG
   refine wp_seq (rgS mixed gr [(0, true), (1, true), (2, true), (3, true), (4, false), (5, false), (6, false)] [6] [0] [.row cF (e57Dr M) 57] ?_)
   intro li gt oB an; clear gr
   have gu := Fz.le.refl O
   refine cS gs 4 [0] [] [(144, .func (.func 24) #[] #[pt i 0]), (145, .agg (e57Dr M).toArray), (146, .slice (sm m) a.length l), (147, i6 n)] ?_; intro oC gv; clear gs
   refine eS rfl ?_; intro lj gw
   obtain ⟨lk, gx⟩ := lb
   refine ixo gv an 3 (T := tyJob) (xs := a) n lk (k := .i64) (e := 57) (bytes := 24) (nog rfl _) rfl (by kernel_rfl) rfl (by kernel_rfl) (by kernel_rfl) rfl (by kernel_rfl) ?_; intro ll oD lm gy; clear gv
   obtain rfl : m = ll := by simpa using lm
   refine nl (qnI (gw _ _ (an.cst gu [0]) ?_)); clear gw lj
   refine eS rfl ?_; intro ln gz
   obtain ⟨ai, lo, bO⟩ := gxq gx (by first | omega | (simp only [List.length_set] at *; omega)); clear gx
   obtain ⟨lq, lr, ls⟩ := own_el an 3 (T := tyJob) (xs := a) rfl n.toNat lo
   obtain rfl : lq = ((e57Dr ai) : List Value) := lr
   refine lc2 gy 149 3 (e57Dr ai) ls rfl ?_; intro oE gA; clear gy
   refine nl (qnI (gz _ _ (an.cst gu [0]) ?_)); clear gz ln
   refine eL rfl ?_; intro lt gB
   refine fc gA an ((by obtain ⟨Z9, kg, ct, lu⟩ := an.lendRow 2 rfl; exact ahead_fun M ai q i 0 _ _ lu ct)) ?_; intro oF oG bP cH; clear gA an
   refine nl (qnI (gB _ _ ?_)); clear gB lt
   refine nS (gt _ _ ?_); clear gt li
   refine thn ?_
   refine cd bP (t := (ahead M ai q)) (by kernel_rfl) (fun cI => ?_) (fun cI => ?_)
   ·
    have lv := bO.1 cI; clear bO
    refine rgB bP cH [] [] [(21, i6 B)] ?_; intro oH lw; clear bP
    refine ibn ?_
    refine rd ?_
    exact gf B lv _ _ ((lw.reg).anyβ _ (by kernel_rfl)) (cH.keep (List.Sublist.cons _ (List.Sublist.cons_cons _ (List.Sublist.cons_cons _ (List.Sublist.cons_cons _ (List.Sublist.slnil))))))
   have lx := bO.2 cI; clear bO
   refine wp_skip ?_
   refine ibn ?_
   refine rd ?_
   exact gf n lx _ _ ((bP.reg).anyβ _ (by kernel_rfl)) (cH.keep (List.Sublist.cons _ (List.Sublist.cons_cons _ (List.Sublist.cons_cons _ (List.Sublist.cons_cons _ (List.Sublist.slnil))))))
  have ly := bN.2 cD; clear bN
  refine wp_exit ?_
  refine thx ?_
  refine thx ?_
  refine ibx ?_
  refine thn ?_
  refine sqH ?_; intro lA gC
  refine bt aX ab 2 [] [] [(153, .slice (sm m) a.length l), (154, i6 n)] ?_; intro oI gD; clear aX
  obtain ⟨lB, gE⟩ := ly
  refine ixo gD ab 2 (T := tyJob) (xs := a) n lB (k := .i64) (e := 57) (bytes := 24) (nog rfl _) rfl (by kernel_rfl) rfl (by kernel_rfl) (by kernel_rfl) rfl (by kernel_rfl) ?_; intro lC oJ lD gF; clear gD
  obtain rfl : m = lC := by simpa using lD
  obtain ⟨p, lE, lF⟩ := gxq gE (by first | omega | (simp only [List.length_set] at *; omega)); clear gE
  obtain ⟨lG, lH, lI⟩ := own_el ab 2 (T := tyJob) (xs := a) rfl n.toNat lE
  obtain rfl : lG = ((e57Dr p) : List Value) := lH
  refine lc2 gF 156 3 (e57Dr p) lI rfl ?_; intro oK gG; clear gF
  refine nw gG ab pb [i6 0, i6 0, i6 0] 57 ?_; intro aY oL oM cJ gH; clear gG ab
  refine sx cJ gH 0 (e57Dr p) 0 ?_; intro lJ gI; clear gH
  have bQ : Mem w.heap.size [] w Z [.row aY (e57Dr p) 57, .own tySlot 47 z A y, .row i [i6 q] 3, .own tyJob 57 (sm m) l a] O lJ := gI; clear gI
  refine nlH (gC _ _ ?_); clear gC lA
  refine sqH ?_; intro lK gJ
  refine bt cJ bQ 4 [] [] [(157, .slice (sm m) a.length l), (158, i6 n), (160, i6 (w64 (n + 1)))] ?_; intro oN gK; clear cJ
  obtain ⟨lL, gL⟩ := lF
  refine ck gK 25 #[.slice (sm m) a.length l, i6 n, i6 (w64 (n + 1))] ?_
  refine (sdel_fun a n (w64 (n + 1)) lL (sm m) l _ _ _ _ _ _ (bQ.perm (pk 3 rfl)) bQ.fz).mono ?_; rintro _ lM ⟨aC, aD, aZ, rfl, aE, hm⟩; refine ⟨_, rfl, ?_⟩; intro oO gM; have gN := hm; clear hm bQ gK
  replace aw := aw.mono aE
  replace bB := bB.mono aE
  replace bC := bC.mono aE
  replace aS := aS.mono aE
  replace X := X.mono aE
  replace W := Fz.le.trans W aE
  have aF : Mem w.heap.size [] w Z [.own tyJob 57 aC aD (sdelS a n (w64 (n + 1))), .row aY (e57Dr p) 57, .own tySlot 47 z A y, .row i [i6 q] 3] aZ lM := gN; clear gN
  have lN := gL (aF.ownSmall 0 rfl); clear gL
  refine s1 gM 11 (.slice aC (sdelS a n (w64 (n + 1))).length aD) ?_; intro oP gO; clear gM
  refine nlH (gJ _ _ ?_); clear gJ lK
  refine sqH ?_; intro lO gP
  refine bt gO aF 3 [1] [] [(163, .slice ao1 u0.length cap2), (165, i6 p.task)] ?_; intro oQ gQ; clear gO
  obtain ⟨lP, gR⟩ := lN
  refine ix gQ (T := tyTask) (xs := u0) aw p.task lP (k := .i64) (e := 32) (bytes := 40) (nog rfl _) rfl (by kernel_rfl) rfl (by kernel_rfl) (by kernel_rfl) (by kernel_rfl) ?_; intro lQ lR lS D oR lT lU lV gS; clear gQ
  have lW := gR D lT; clear gR
  obtain rfl : lS = ((e32Dr D) : List Value) := lV
  refine s1 gS 167 (.pointer (some ⟨lQ, lR + 1, none⟩)) ?_; intro oS gT; clear gS
  refine z1 gT aF 168 lU 1 (i6 D.Bytes) rfl ?_; intro oT gU; clear gT
  refine fc gU aF (flongest_fun false false D.Bytes _ _ aF.fz) ?_; intro oU oV gV bR; clear gU aF
  refine bt gV bR 5 [] [] [(25, i6 (flongestS false false D.Bytes).1)] ?_; intro oW gW; clear gV
  refine nlH (gP _ _ ?_); clear gP lO
  refine sqH ?_; intro lX gX
  refine bt gW bR 10 [1, 1, 3, 3] [] [(181, .agg #[i6 p.task, i6 p.from_, i6 q, i6 (w64 ((w64 (q + (flongestS false false D.Bytes).1)) + 3))])] ?_; intro oX gY; clear gW
  refine nw gY bR pb [i6 0, i6 0, i6 0, i6 0] 47 ?_; intro cK oY oZ cL gZ; clear gY bR
  refine sx cL gZ 0 [i6 p.task, i6 p.from_, i6 q, i6 (w64 ((w64 (q + (flongestS false false D.Bytes).1)) + 3))] 0 ?_; intro lY g0; clear gZ
  have cM : Mem w.heap.size [] w Z [.row cK [i6 p.task, i6 p.from_, i6 q, i6 (w64 ((w64 (q + (flongestS false false D.Bytes).1)) + 3))] 47, .own tyJob 57 aC aD (sdelS a n (w64 (n + 1))), .row aY (e57Dr p) 57, .own tySlot 47 z A y, .row i [i6 q] 3] aZ lY := g0; clear g0
  refine nlH (gX _ _ ?_); clear gX lX
  refine sqH ?_; intro lZ g1
  refine bt cL cM 2 [0] [] [(182, .slice z y.length A), (183, .agg #[i6 p.task, i6 p.from_, i6 q, i6 (w64 ((w64 (q + (flongestS false false D.Bytes).1)) + 3))])] ?_; intro o0 g2; clear cL
  refine nw g2 cM (fun b => .slice (sm b) 1 1) [i6 p.task, i6 p.from_, i6 q, i6 (w64 ((w64 (q + (flongestS false false D.Bytes).1)) + 3))] 47 ?_; intro cN o1 o2 g3 cO; clear g2 cM
  obtain ⟨l0, g4⟩ := lW
  refine ap g3 cO 4 (T := tySlot) (xs := y) (ys := [(⟨p.task, p.from_, q, w64 ((w64 (q + (flongestS false false D.Bytes).1)) + 3)⟩ : Slot)]) (ao := z) (cap := A) (ao2 := (sm cN)) (cap2 := 1) (t := 39) (e := 47) (bytes := 32) (nog rfl _) rfl (by kernel_rfl) rfl (by kernel_rfl) (by kernel_rfl) (by kernel_rfl) rfl (Src.row cO 0 rfl (RepAll.one (T := tySlot) (x := (⟨p.task, p.from_, q, w64 ((w64 (q + (flongestS false false D.Bytes).1)) + 3)⟩ : Slot)) rfl)) l0 ?_; intro bS bT o3 l1 o4 g5 g6; clear g3 cO
  have cP : Mem w.heap.size [] w Z [.row cN [i6 p.task, i6 p.from_, i6 q, i6 (w64 ((w64 (q + (flongestS false false D.Bytes).1)) + 3))] 47, .row cK [i6 p.task, i6 p.from_, i6 q, i6 (w64 ((w64 (q + (flongestS false false D.Bytes).1)) + 3))] 47, .own tyJob 57 aC aD (sdelS a n (w64 (n + 1))), .row aY (e57Dr p) 57, .own tySlot 47 bS bT (y ++ [(⟨p.task, p.from_, q, w64 ((w64 (q + (flongestS false false D.Bytes).1)) + 3)⟩ : Slot)]), .row i [i6 q] 3] aZ l1 := g6; clear g6
  refine s1 g5 18 (.slice bS (y ++ [(⟨p.task, p.from_, q, w64 ((w64 (q + (flongestS false false D.Bytes).1)) + 3)⟩ : Slot)]).length bT) ?_; intro o5 g7; clear g5
  refine nlH (g1 _ _ ?_); clear g1 lZ
  refine rgH ?_; intro l2 g8
  refine bt g7 cP 2 [1] [] [(187, i6 (w64 ((w64 (q + (flongestS false false D.Bytes).1)) + 3)))] ?_; intro o6 g9; clear g7
  refine sx g9 cP 5 [i6 (w64 ((w64 (q + (flongestS false false D.Bytes).1)) + 3))] 0 ?_; intro l3 ha; clear cP
  have l4 : Mem w.heap.size [] w Z [.row cN [i6 p.task, i6 p.from_, i6 q, i6 (w64 ((w64 (q + (flongestS false false D.Bytes).1)) + 3))] 47, .row cK [i6 p.task, i6 p.from_, i6 q, i6 (w64 ((w64 (q + (flongestS false false D.Bytes).1)) + 3))] 47, .own tyJob 57 aC aD (sdelS a n (w64 (n + 1))), .row aY (e57Dr p) 57, .own tySlot 47 bS bT (y ++ [(⟨p.task, p.from_, q, w64 ((w64 (q + (flongestS false false D.Bytes).1)) + 3)⟩ : Slot)]), .row i [i6 (w64 ((w64 (q + (flongestS false false D.Bytes).1)) + 3))] 3] aZ l3 := ha; clear ha
  refine nlH (g8 _ _ ?_); clear g8 l2
  refine ibn ?_
  refine rd ?_
  have l5 := l4.perm ((pk 4 rfl).trans (((pk 4 rfl).trans (((pk 2 rfl).trans (lpr.cons _)).cons _)).cons _))
  exact ⟨⟨(sdelS a n (w64 (n + 1))), y ++ [(⟨p.task, p.from_, q, w64 ((w64 (q + (flongestS false false D.Bytes).1)) + 3)⟩ : Slot)], w64 ((w64 (q + (flongestS false false D.Bytes).1)) + 3), aC, aD, bS, bT, aZ⟩, ⟨g4.1, X⟩, g4.2, (g9.reg).anyβ _ (by kernel_rfl), l5.keep (List.Sublist.cons_cons _ (List.Sublist.cons_cons _ (List.Sublist.cons_cons _ (List.Sublist.cons _ (List.Sublist.cons _ (List.Sublist.cons _ (List.Sublist.slnil)))))))⟩
 have l6 := bA.2 cm; clear bA
 refine wp_exit ?_
 refine thx ?_
 refine thx ?_
 refine ibx ?_
 refine rd ?_
 exact i9 y q z A O ⟨l6, aS⟩ _ _ ((bD.reg).anyβ _ (by kernel_rfl)) (bz.keep (List.Sublist.cons_cons _ (List.Sublist.cons_cons _ (List.Sublist.cons _ (List.Sublist.slnil)))))

end Go.Proofs.YtginlmgkimfjmaaDoor
set_option linter.unusedVariables false
set_option linter.unusedSimpArgs false
set_option maxRecDepth 100000
set_option maxHeartbeats 0
namespace Go.Proofs.YtginlmgkimfjmaaDoor
open Go.Sy Go.RowKit
abbrev e47Sa (X : Slot) : List Value := [i6 X.Task, i6 X.Asked, i6 X.From, i6 X.End]
theorem splay_fun (u0 : List Task) (u1 : List Int) (u2 : List Int) (u3 : Int) (ao1 : Option Addr) (cap2 : Nat) (ao4 : Option Addr) (cap5 : Nat) (ao7 : Option Addr) (cap8 : Nat) (Z : Fz) (w : World) (hs3 : SlR tyTask Z ao1 cap2 u0) (hs6 : SlR t6 Z ao4 cap5 u1) (hs9 : SlR t6 Z ao7 cap8 u2) (hZ : Z.on w) : Calls Tryd.prog 12 #[.slice ao1 u0.length cap2, .slice ao4 u1.length cap5, .slice ao7 u2.length cap8, i6 u3] w fun e w' => ∃ (ao1001 : Option Addr) (cap1002 : Nat) (Z' : Fz), e = .returned (.tuple #[.slice ao1001 (playS u0 u1 u2 u3).1.length cap1002, i6 (playS u0 u1 u2 u3).2]) ∧ Mem w.heap.size [] w Z [.own tySlot 47 ao1001 cap1002 (playS u0 u1 u2 u3).1] Z' w' :=
  (splay_walk u0 u1 u2 u3 ao1 cap2 ao4 cap5 ao7 cap8 Z w hs3 hs6 hs9 hZ (splay_ok u0 u1 u2 u3)).mono fun _ _ ⟨r, h0, h1, h2, he, hk, hm⟩ => by subst hk; exact ⟨h0, h1, h2, he, hm⟩

theorem rlong_fun (u0 : Bool) (u1 : Bool) (u2 : Int) (hpre : 0 ≤ u2 ∧ u2 ≤ 64 ∧ fcheckfr (lframe u0 u1 u2) = 0)  (Z : Fz) (w : World) (hg3 : SlR t8 Z (sm 3) 64 deBruijn64) (hZ : Z.on w) : Calls Tryd.prog 21 #[.bool u0, .bool u1, i6 u2] w fun e w' => e = .returned (i6 (rlongS u0 u1 u2)) ∧ Below w.heap.size w w' :=
  (rlong_walk u0 u1 u2  Z w hg3 hZ (rlong_ok u0 u1 u2 hpre)).mono fun _ _ ⟨r, he, hk, hb⟩ => ⟨by subst hk; exact he, hb⟩

theorem ctin_walk (u0 : Int) (u1 : Int) (u2 : Int)  (Z : Fz) (w : World)  (hZ : Z.on w) {K : Bool → Prop} (hp : ctin_vc u0 u1 u2 K) : Calls Tryd.prog 18 #[i6 u0, i6 u1, i6 u2] w fun e w' => ∃ r : Bool, e = .returned (.bool r) ∧ K r ∧ Below w.heap.size w w' := by
 refine enter0 Tryd.func18 rfl rfl (by kernel_rfl) ?_; intro f b; have a := Mem.start w Z hZ; have g := Fz.le.refl Z
 refine sqB b a [] [] [] ?_; intro h c; clear b
 refine sqB c a [] [] [(6, .bool ((decide (u0 ≥ u1)) && (decide (u0 ≤ u2))))] ?_; intro i d; clear c
 refine wp_ret ?_
 refine ra1 d (.bool ((decide (u0 ≥ u1)) && (decide (u0 ≤ u2)))) ?_
 exact ⟨(decide (u0 ≥ u1)) && (decide (u0 ≤ u2)), rfl, hp, a.below⟩
theorem ctin_fun (u0 : Int) (u1 : Int) (u2 : Int)  (Z : Fz) (w : World)  (hZ : Z.on w) : Calls Tryd.prog 18 #[i6 u0, i6 u1, i6 u2] w fun e w' => e = .returned (.bool (ctin u0 u1 u2)) ∧ Below w.heap.size w w' :=
  (ctin_walk u0 u1 u2  Z w  hZ (ctin_ok u0 u1 u2)).mono fun _ _ ⟨r, he, hk, hb⟩ => ⟨by subst hk; exact he, hb⟩

theorem sleq_walk (u0 : List Slot) (u1 : List Slot) (ao1 : Option Addr) (cap2 : Nat) (ao4 : Option Addr) (cap5 : Nat) (Z : Fz) (w : World) (hs3 : SlR tySlot Z ao1 cap2 u0) (hs6 : SlR tySlot Z ao4 cap5 u1) (hZ : Z.on w) {K : Bool → Prop} (hp : sleq_vc u0 u1 K) : Calls Tryd.prog 15 #[.slice ao1 u0.length cap2, .slice ao4 u1.length cap5] w fun e w' => ∃ r : Bool, e = .returned (.bool r) ∧ K r ∧ Below w.heap.size w w' := by
 refine enter0 Tryd.func15 rfl rfl (by kernel_rfl) ?_; intro a0 B; have f := Mem.start w Z hZ; have aE := Fz.le.refl Z
 have C := hp (hs3.small); clear hp
 have n := C (hs6.small); clear C
 refine sqB B f [] [] [] ?_; intro aF D; clear B
 refine wp_seq ?_
 refine sqB D f [] [] [(10, .bool ((u0.length : Int) != (u1.length : Int)))] ?_; intro aG i; clear D
 refine cd i (t := (u0.length : Int) != (u1.length : Int)) (by kernel_rfl) (fun u => ?_) (fun u => ?_)
 · -- yes
  have Y := n.1 u; clear n
  refine sqB i f [] [] [(4, .bool false)] ?_; intro aH aa; clear i
  refine wp_ret ?_
  refine thr ?_
  refine ra1 aa (.bool false) ?_
  exact ⟨false, rfl, Y, f.below⟩
 · -- no
  have ab := n.2 u; clear n
  refine wp_skip ?_
  refine thn ?_
  refine wp_seq ?_
  refine sqB i f [] [] [(12, i6 (u0.length : Int)), (13, i6 0)] ?_; intro E F; clear i
  refine wp_block ?_
  have G : Fr 26 [] [⟨0, [], .slice ao1 u0.length cap2⟩, ⟨1, [], .slice ao4 u1.length cap5⟩, ⟨12, [], i6 (u0.length : Int)⟩, ⟨13, [], i6 0⟩] E := F.region (by kernel_rfl) (by kernel_rfl); clear F
  have H : Fr 26 [] [⟨0, [], .slice ao1 u0.length cap2⟩, ⟨1, [], .slice ao4 u1.length cap5⟩, ⟨12, [], i6 (u0.length : Int)⟩, ⟨13, [], i6 0⟩] E := G.region (by kernel_rfl) (by kernel_rfl); clear G
  obtain ⟨ac, ad, ae, af⟩ := ab
  refine lp (ι := Int) (fun s => [⟨0, [], .slice ao1 u0.length cap2⟩, ⟨1, [], .slice ao4 u1.length cap5⟩, ⟨12, [], i6 (u0.length : Int)⟩, ⟨13, [], i6 s⟩]) (fun s => []) (fun s => Z) (fun s => ac s) (fun s => ad s) 0 ae (by exact H.region (by kernel_rfl) (by kernel_rfl)) (by exact f) ?_
  rintro d ag ah ai I J
  have L : Fr 26 [] [⟨0, [], .slice ao1 u0.length cap2⟩, ⟨1, [], .slice ao4 u1.length cap5⟩, ⟨12, [], i6 (u0.length : Int)⟩, ⟨13, [], i6 d⟩] ah := I; clear I H
  have h : Mem w.heap.size [] w Z [] Z ai := J; clear J f
  have o := af d ag
  refine sqB L h [] [] [(14, .bool (decide (d < (u0.length : Int))))] ?_; intro aI j; clear L
  refine wp_seq ?_
  refine cd j (t := decide (d < (u0.length : Int))) (by kernel_rfl) (fun v => ?_) (fun v => ?_)
  · -- yes
   have aj := o.1 v; clear o
   refine wp_skip ?_
   refine thn ?_
   refine wp_seq ?_
   refine wp_block ?_
   refine sqB j h [] [] [(5, i6 d)] ?_; intro ak M; clear j
   have N : Fr 26 [] [⟨0, [], .slice ao1 u0.length cap2⟩, ⟨1, [], .slice ao4 u1.length cap5⟩, ⟨5, [], i6 d⟩, ⟨12, [], i6 (u0.length : Int)⟩, ⟨13, [], i6 d⟩] ak := M.region (by kernel_rfl) (by kernel_rfl); clear M
   refine sqQH mixed (by kernel_rfl) h ?_; intro al O
   refine q1 N 16 (.slice ao1 u0.length cap2) ?_; intro aJ P; clear N
   refine q1 P 17 (i6 d) ?_; intro aK Q; clear P
   obtain ⟨am, R⟩ := aj
   refine qix Q (T := tySlot) (xs := u0) hs3 d am (k := .i64) (e := 47) (bytes := 32) (nog rfl _) rfl (by kernel_rfl) rfl (by kernel_rfl) (by kernel_rfl) (by kernel_rfl) ?_; intro aL aM an a aN ao ap aq x; clear Q
   have ar := R a ao; clear R
   obtain rfl : an = ((e47Sa a) : List Value) := aq
   refine qst x (.agg (e47Sa a).toArray) (nog rfl _) rfl (by kernel_rfl) (fun v81 hC => lza x hC.fz ap 0 (g := []) (m := 4) (vs := (e47Sa a)) rfl (by kernel_rfl) (by kernel_rfl) (by kernel_rfl) (by kernel_rfl) rfl) ?_; intro aO S; clear x
   refine q1 S 20 (.slice ao4 u1.length cap5) ?_; intro aP U; clear S
   refine q1 U 21 (i6 d) ?_; intro aQ V; clear U
   obtain ⟨au, W⟩ := ar
   refine qix V (T := tySlot) (xs := u1) hs6 d au (k := .i64) (e := 47) (bytes := 32) (nog rfl _) rfl (by kernel_rfl) rfl (by kernel_rfl) (by kernel_rfl) (by kernel_rfl) ?_; intro aR aS av c aT aw ax ay y; clear V
   have p := W c aw; clear W
   obtain rfl : av = ((e47Sa c) : List Value) := ay
   refine qst y (.agg (e47Sa c).toArray) (nog rfl _) rfl (by kernel_rfl) (fun v103 hC => lza y hC.fz ax 0 (g := []) (m := 4) (vs := (e47Sa c)) rfl (by kernel_rfl) (by kernel_rfl) (by kernel_rfl) (by kernel_rfl) rfl) ?_; intro aU z; clear y
   refine qst z (.bool (!((a.Task == c.Task) && ((a.Asked == c.Asked) && ((a.From == c.From) && ((a.End == c.End) && true)))))) (nog rfl _) rfl (by kernel_rfl) (fun v106 hC => nes_run z (g := []) (xs := (e47Sa a).toArray) (ys := (e47Sa c).toArray) (b := (a.Task == c.Task) && ((a.Asked == c.Asked) && ((a.From == c.From) && ((a.End == c.End) && true)))) rfl (by kernel_rfl) (by kernel_rfl) (by kernel_rfl) (by kernel_rfl) rfl) ?_; intro aV l; clear z
   refine qnl (O _ ?_); clear O al; intro aW q; clear h
   refine cd l (t := !((a.Task == c.Task) && ((a.Asked == c.Asked) && ((a.From == c.From) && ((a.End == c.End) && true))))) (by kernel_rfl) (fun A => ?_) (fun A => ?_)
   · -- yes
    have az := p.1 A; clear p
    refine sqB l q [] [] [(4, .bool false)] ?_; intro aX aA; clear l
    refine wp_ret ?_
    refine ibr ?_
    refine thr ?_
    refine thr ?_
    refine ibr ?_
    refine thr ?_
    refine ra1 aA (.bool false) ?_
    exact ⟨false, rfl, az, q.below⟩
   · -- no
    have X := p.2 A; clear p
    refine wp_skip ?_
    refine ibn ?_
    refine thn ?_
    refine rgB l q [] [] [(13, i6 (w64 (d + 1)))] ?_; intro aY aB; clear l
    refine rd ?_
    exact ⟨w64 (d + 1), X.1, X.2, (aB.region (by kernel_rfl) (by kernel_rfl)).anyβ _ (by kernel_rfl), q.keep (List.Sublist.slnil)⟩
  · -- no
   have aC := o.2 v; clear o
   refine wp_exit ?_
   refine thx ?_
   refine thx ?_
   refine ibx ?_
   refine thn ?_
   refine sqB j h [] [] [(4, .bool true)] ?_; intro aZ aD; clear j
   refine wp_ret ?_
   refine ra1 aD (.bool true) ?_
   exact ⟨true, rfl, aC, h.below⟩

theorem ltakes_walk (u0 : Task)  (Z : Fz) (w : World) (hg3 : SlR t8 Z (sm 3) 64 deBruijn64) (hZ : Z.on w) {K : Int → Prop} (hp : ltakes_vc u0 K) : Calls Tryd.prog 10 #[.agg #[i6 u0.ID, i6 u0.Bytes, i6 u0.Every, i6 u0.Late, i6 u0.Jitter]] w fun e w' => ∃ r : Int, e = .returned (i6 r) ∧ K r ∧ Below w.heap.size w w' := by
 refine enter0 Tryd.func10 rfl rfl (by kernel_rfl) ?_; intro q b; have c := Mem.start w Z hZ; have s := Fz.le.refl Z
 refine sqH ?_; intro l d
 refine nw b c pb [i6 u0.ID, i6 u0.Bytes, i6 u0.Every, i6 u0.Late, i6 u0.Jitter] 32 ?_; intro t u v f a; clear b c
 refine s1 f 2 (i6 0) ?_; intro x g; clear f
 refine nlH (d _ _ ?_); clear d l
 refine sqH ?_; intro m h
 refine bt g a 2 [0] [] [(4, i6 u0.Bytes)] ?_; intro y i; clear g
 obtain ⟨n, o⟩ := hp
 refine fc i a (rlong_fun false false u0.Bytes n _ _ hg3 a.fz) ?_; intro z A j k; clear i a
 refine bt j k 2 [] [] [(2, i6 (w64 ((rlongS false false u0.Bytes) + 3)))] ?_; intro B p; clear j
 refine nlH (h _ _ ?_); clear h m
 refine wp_ret ?_
 refine ra1 p (i6 (w64 ((rlongS false false u0.Bytes) + 3))) ?_
 exact ⟨w64 ((rlongS false false u0.Bytes) + 3), rfl, o, k.below⟩

theorem adel_walk (u0 : List Ask) (u1 : Int) (u2 : Int) (ao1 : Option Addr) (cap2 : Nat) (B : Nat) (w0 : World) (Z0 : Fz) (Rr : List Res) (Z : Fz) (w : World) (hM0 : Mem B [] w0 Z0 ((.own tyAsk 44 ao1 cap2 u0) :: Rr) Z w) (hZ : Z.on w) {K : (List Ask) → Prop} (hp : adel_vc u0 u1 u2 K) : Calls Tryd.prog 14 #[.slice ao1 u0.length cap2, i6 u1, i6 u2] w fun e w' => ∃ (r : (List Ask)) (ao1001 : Option Addr) (cap1002 : Nat) (Z' : Fz), e = .returned (.slice ao1001 r.length cap1002) ∧ K r ∧ Fz.le Z Z' ∧ Mem B [] w0 Z0 ((.own tyAsk 44 ao1001 cap1002 r) :: Rr) Z' w' := by
 refine enter0 Tryd.func14 rfl rfl (by kernel_rfl) ?_; intro a0 X; have d := Fz.le.refl Z
 have aR := hM0.ownLec 0 rfl
 have ak := hp (hM0.ownSmall 0 rfl); clear hp
 refine sqB X hM0 [] [] [] ?_; intro a5 Y; clear X
 refine sqH ?_; intro al aa
 refine bt Y hM0 5 [] [] [(8, .slice ao1 u0.length cap2), (9, i6 u1), (10, i6 u2), (12, i6 (u0.length : Int))] ?_; intro aS ab; clear Y
 obtain ⟨aT, Q⟩ := ak
 refine sl3 ab (ao := ao1) (n' := u0.length) (cap := cap2) u1 u2 (u0.length : Int) (by have := hM0.ownLec 0 rfl; omega) (sz := 3) (e := 44) (bytes := 24) (k1 := .i64) (k2 := .i64) (k3 := .i64) (nog rfl _) rfl (by kernel_rfl) rfl (by kernel_rfl) (by kernel_rfl) (by kernel_rfl) (by kernel_rfl) (by kernel_rfl) ?_; intro aU aV ac; clear ab
 refine nlH (aa _ _ ?_); clear aa al
 refine wp_seq ?_
 refine sqB ac hM0 [] [] [(16, .bool (u1 == u2))] ?_; intro aW N; clear ac
 refine cd N (t := u1 == u2) (by kernel_rfl) (fun R => ?_) (fun R => ?_)
 · -- yes
  have am := Q.1 R; clear Q
  refine sqB N hM0 [] [] [(6, .slice ao1 u0.length cap2)] ?_; intro aX an; clear N
  refine wp_ret ?_
  refine thr ?_
  refine ra1 an (.slice ao1 u0.length cap2) ?_
  exact ⟨u0, ao1, cap2, Z, rfl, am, d, hM0.keep (List.Sublist.cons_cons _ (List.Sublist.refl _))⟩
 · -- no
  have ap := Q.2 R; clear Q
  refine wp_skip ?_
  refine thn ?_
  refine sqB N hM0 [] [] [(7, i6 (u0.length : Int))] ?_; intro v ad; clear N
  have aq : Fr 33 [] [⟨0, [], .slice ao1 u0.length cap2⟩, ⟨1, [], i6 u1⟩, ⟨2, [], i6 u2⟩, ⟨7, [], i6 (u0.length : Int)⟩] v := ad.region (by kernel_rfl) (by kernel_rfl); clear ad
  obtain ⟨aY, ar⟩ := ap
  obtain ⟨aZ, au⟩ := ar
  obtain ⟨a1, av⟩ := au
  refine wp_seq (any_invE mixed [[], [], [0, 1], [], [], [3, 4], [2, 5], [0, 1, 2, 3, 4, 5, 6]] 8 (fun S a w1 => ∃ (O : Value) (x : Value) (y : Value) (l : Value) (z : Value) (C : Value) (m : Value) (j : Value) (P : Res), Fz.le Z Z ∧ Fr 33 [] [⟨0, [], O⟩, ⟨1, [], i6 u1⟩, ⟨2, [], i6 u2⟩, ⟨7, [], i6 (u0.length : Int)⟩, ⟨20, [], x⟩, ⟨21, [], y⟩, ⟨22, [], l⟩, ⟨23, [], z⟩, ⟨24, [], C⟩, ⟨25, [], m⟩, ⟨26, [], j⟩] a ∧ Mem B [] w0 Z0 (P :: Rr) Z w1 ∧ (S 7 = true → O = .slice ao1 (u0.take u1.toNat ++ u0.drop u2.toNat).length cap2) ∧ (S 7 = false → O = .slice ao1 u0.length cap2) ∧ (S 0 = true → x = .slice ao1 u0.length cap2) ∧ (S 1 = true → y = i6 u1) ∧ (S 2 = true → l = .slice ao1 u1.toNat cap2) ∧ (S 3 = true → z = .slice ao1 u0.length cap2) ∧ (S 4 = true → C = i6 u2) ∧ (S 5 = true → m = .slice (if cap2 = u2.toNat then ao1 else ao1.map (·.add (u2.toNat * 3))) (u0.length - u2.toNat) (cap2 - u2.toNat)) ∧ (S 6 = true → j = .slice ao1 (u0.take u1.toNat ++ u0.drop u2.toNat).length cap2) ∧ (S 6 = false → P = .own tyAsk 44 ao1 cap2 u0) ∧ (S 6 = true → P = .own tyAsk 44 ao1 cap2 (u0.take u1.toNat ++ u0.drop u2.toNat))) ?h0 ?hs ?hE)
  case h0 =>
   have aw := aq.any 20
   have ax := aw.any 21
   have ay := ax.any 22
   have az := ay.any 23
   have aA := az.any 24
   have aB := aA.any 25
   have aC := aB.any 26
   have aD := (hM0.perm (List.Perm.refl _)).drew
   exact ⟨.slice ao1 u0.length cap2, v.tmps.getD 20 undef, v.tmps.getD 21 undef, v.tmps.getD 22 undef, v.tmps.getD 23 undef, v.tmps.getD 24 undef, v.tmps.getD 25 undef, v.tmps.getD 26 undef, .own tyAsk 44 ao1 cap2 u0, Fz.le.refl _, aC.region (by kernel_rfl) (by kernel_rfl), aD, ff, kf, ff, ff, ff, ff, ff, ff, ff, kf, ff⟩
  case hs =>
   intro S hcl i o hil hi hSi hpre a w1 hI; refine Go.Sy.hid ?_; intro G hG; obtain ⟨O, hI⟩ := hI; obtain ⟨x, hI⟩ := hI; obtain ⟨y, hI⟩ := hI; obtain ⟨l, hI⟩ := hI; obtain ⟨z, hI⟩ := hI; obtain ⟨C, hI⟩ := hI; obtain ⟨m, hI⟩ := hI; obtain ⟨j, hI⟩ := hI; obtain ⟨P, hI⟩ := hI; obtain ⟨f, hI⟩ := hI; obtain ⟨hFx, hI⟩ := hI; obtain ⟨hMx, hI⟩ := hI; obtain ⟨ae, hI⟩ := hI; obtain ⟨n, hI⟩ := hI; obtain ⟨p, hI⟩ := hI; obtain ⟨q, hI⟩ := hI; obtain ⟨L, hI⟩ := hI; obtain ⟨s, hI⟩ := hI; obtain ⟨u, hI⟩ := hI; obtain ⟨M, hI⟩ := hI; obtain ⟨U, hI⟩ := hI; obtain ⟨D, hI⟩ := hI; have V := hI; clear hI
   have hcase : i = 0 ∨ i = 1 ∨ i = 2 ∨ i = 3 ∨ i = 4 ∨ i = 5 ∨ i = 6 ∨ i = 7 := by clear hi; omega
   rcases hcase with rfl | rfl | rfl | rfl | rfl | rfl | rfl | rfl
   · -- 0: move
    obtain rfl := Option.some.inj hi
    have E := hSi
    have g := negF hcl 2 0 (by kernel_rfl) E
    have b := negF hcl 6 2 (by kernel_rfl) g
    have c := negF hcl 7 0 (by kernel_rfl) E
    obtain rfl := n c
    obtain rfl := D b
    refine hG (any_step ?_); clear hG G; intro A J hJ
    have d := Fz.le.trans d f
    refine s1 hFx 20 (.slice ao1 u0.length cap2) ?_; intro a2 aE; clear hFx
    refine nl (qnI (hJ _ _ ?_)); clear hJ J
    exact ⟨.slice ao1 u0.length cap2, .slice ao1 u0.length cap2, y, l, z, C, m, j, .own tyAsk 44 ao1 cap2 u0, f, aE.region (by kernel_rfl) (by kernel_rfl), hMx.perm (List.Perm.refl _), (nt c), kf, kf, q, (nt g), s, u, M, (nt b), kf, (nt b)⟩
   · -- 1: move
    obtain rfl := Option.some.inj hi
    have F := hSi
    have g := negF hcl 2 1 (by kernel_rfl) F
    have b := negF hcl 6 2 (by kernel_rfl) g
    have c := negF hcl 7 1 (by kernel_rfl) F
    obtain rfl := n c
    obtain rfl := D b
    refine hG (any_step ?_); clear hG G; intro A J hJ
    have d := Fz.le.trans d f
    refine s1 hFx 21 (i6 u1) ?_; intro a3 aF; clear hFx
    refine nl (qnI (hJ _ _ ?_)); clear hJ J
    exact ⟨.slice ao1 u0.length cap2, x, i6 u1, l, z, C, m, j, .own tyAsk 44 ao1 cap2 u0, f, aF.region (by kernel_rfl) (by kernel_rfl), hMx.perm (List.Perm.refl _), (nt c), kf, p, kf, (nt g), s, u, M, (nt b), kf, (nt b)⟩
   · -- 2: slice
    obtain rfl := Option.some.inj hi
    have F := hpre 1 (by kernel_rfl)
    have E := hpre 0 (by kernel_rfl)
    have g := hSi
    have b := negF hcl 6 2 (by kernel_rfl) g
    have c := negF hcl 7 2 (by kernel_rfl) g
    obtain rfl := n c
    obtain rfl := p E
    obtain rfl := q F
    obtain rfl := D b
    refine hG (any_step ?_); clear hG G; intro A J hJ
    have d := Fz.le.trans d f
    refine slP hFx hMx 0 (T := tyAsk) (xs := u0) (ao := ao1) (cap := cap2) u1.toNat (by omega) (e := 44) (bytes := 24) (k := .i64) (nog rfl _) rfl (by kernel_rfl) rfl (by kernel_rfl) rfl (by kernel_rfl) (by rw [Int.toNat_of_nonneg (by omega)]; kernel_rfl) ?_; intro a4 aG; clear hFx
    refine nl (qnI (hJ _ _ ?_)); clear hJ J
    exact ⟨.slice ao1 u0.length cap2, .slice ao1 u0.length cap2, i6 u1, .slice ao1 u1.toNat cap2, z, C, m, j, .own tyAsk 44 ao1 cap2 u0, f, aG.region (by kernel_rfl) (by kernel_rfl), hMx.perm (List.Perm.refl _), (nt c), kf, kf, kf, kf, s, u, M, (nt b), kf, (nt b)⟩
   · -- 3: move
    obtain rfl := Option.some.inj hi
    have H := hSi
    have h := negF hcl 5 3 (by kernel_rfl) H
    have b := negF hcl 6 5 (by kernel_rfl) h
    have c := negF hcl 7 3 (by kernel_rfl) H
    obtain rfl := n c
    obtain rfl := D b
    refine hG (any_step ?_); clear hG G; intro A J hJ
    have d := Fz.le.trans d f
    refine s1 hFx 23 (.slice ao1 u0.length cap2) ?_; intro a6 aH; clear hFx
    refine nl (qnI (hJ _ _ ?_)); clear hJ J
    exact ⟨.slice ao1 u0.length cap2, x, y, l, .slice ao1 u0.length cap2, C, m, j, .own tyAsk 44 ao1 cap2 u0, f, aH.region (by kernel_rfl) (by kernel_rfl), hMx.perm (List.Perm.refl _), (nt c), kf, p, q, L, kf, u, (nt h), (nt b), kf, (nt b)⟩
   · -- 4: move
    obtain rfl := Option.some.inj hi
    have I := hSi
    have h := negF hcl 5 4 (by kernel_rfl) I
    have b := negF hcl 6 5 (by kernel_rfl) h
    have c := negF hcl 7 4 (by kernel_rfl) I
    obtain rfl := n c
    obtain rfl := D b
    refine hG (any_step ?_); clear hG G; intro A J hJ
    have d := Fz.le.trans d f
    refine s1 hFx 24 (i6 u2) ?_; intro a7 aI; clear hFx
    refine nl (qnI (hJ _ _ ?_)); clear hJ J
    exact ⟨.slice ao1 u0.length cap2, x, y, l, z, i6 u2, m, j, .own tyAsk 44 ao1 cap2 u0, f, aI.region (by kernel_rfl) (by kernel_rfl), hMx.perm (List.Perm.refl _), (nt c), kf, p, q, L, s, kf, (nt h), (nt b), kf, (nt b)⟩
   · -- 5: slice
    obtain rfl := Option.some.inj hi
    have I := hpre 4 (by kernel_rfl)
    have H := hpre 3 (by kernel_rfl)
    have h := hSi
    have b := negF hcl 6 5 (by kernel_rfl) h
    have c := negF hcl 7 5 (by kernel_rfl) h
    obtain rfl := n c
    obtain rfl := s H
    obtain rfl := u I
    obtain rfl := D b
    refine hG (any_step ?_); clear hG G; intro A J hJ
    have d := Fz.le.trans d f
    refine slX hFx (ao := ao1) (n' := u0.length) (cap := cap2) u2.toNat u0.length 3 (by omega) (hMx.ownLec 0 rfl) (e := 44) (bytes := 24) (nog rfl _) rfl (by kernel_rfl) rfl (by kernel_rfl) (by kernel_rfl) (.inr ⟨.i64, _, rfl, by rw [Int.toNat_of_nonneg (by omega)]; kernel_rfl⟩) (.inl ⟨rfl, rfl⟩) ?_; intro a8 aJ; clear hFx
    refine nl (qnI (hJ _ _ ?_)); clear hJ J
    exact ⟨.slice ao1 u0.length cap2, x, y, l, .slice ao1 u0.length cap2, i6 u2, .slice (if cap2 = u2.toNat then ao1 else ao1.map (·.add (u2.toNat * 3))) (u0.length - u2.toNat) (cap2 - u2.toNat), j, .own tyAsk 44 ao1 cap2 u0, f, aJ.region (by kernel_rfl) (by kernel_rfl), hMx.perm (List.Perm.refl _), (nt c), kf, p, q, L, kf, kf, kf, (nt b), kf, (nt b)⟩
   · -- 6: call
    obtain rfl := Option.some.inj hi
    have h := hpre 5 (by kernel_rfl)
    have g := hpre 2 (by kernel_rfl)
    have I := hcl 5 4 (by kernel_rfl) h
    have H := hcl 5 3 (by kernel_rfl) h
    have F := hcl 2 1 (by kernel_rfl) g
    have E := hcl 2 0 (by kernel_rfl) g
    have b := hSi
    have c := negF hcl 7 6 (by kernel_rfl) b
    obtain rfl := n c
    obtain rfl := p E
    obtain rfl := q F
    obtain rfl := L g
    obtain rfl := s H
    obtain rfl := u I
    obtain rfl := M h
    obtain rfl := D b
    refine hG (any_step ?_); clear hG G; intro A J hJ
    have d := Fz.le.trans d f
    refine apD hFx hMx 0 (T := tyAsk) (xs := u0) (ao := ao1) (cap := cap2) u1.toNat u2.toNat (by omega) (t := 42) (e := 44) (bytes := 24) (nog rfl _) rfl (by kernel_rfl) rfl (by kernel_rfl) (by kernel_rfl) (by kernel_rfl) rfl ?_; intro a9 ba aK aL; clear hFx hMx
    refine nl (qnI (hJ _ _ ?_)); clear hJ J
    exact ⟨.slice ao1 u0.length cap2, .slice ao1 u0.length cap2, i6 u1, .slice ao1 u1.toNat cap2, .slice ao1 u0.length cap2, i6 u2, .slice (if cap2 = u2.toNat then ao1 else ao1.map (·.add (u2.toNat * 3))) (u0.length - u2.toNat) (cap2 - u2.toNat), .slice ao1 (u0.take u1.toNat ++ u0.drop u2.toNat).length cap2, .own tyAsk 44 ao1 cap2 (u0.take u1.toNat ++ u0.drop u2.toNat), f, aK.region (by kernel_rfl) (by kernel_rfl), aL.perm (List.Perm.refl _), (nt c), kf, kf, kf, kf, kf, kf, kf, kf, nu, kf⟩
   · -- 7: assign
    obtain rfl := Option.some.inj hi
    have b := hpre 6 (by kernel_rfl)
    have h := hpre 5 (by kernel_rfl)
    have I := hpre 4 (by kernel_rfl)
    have H := hpre 3 (by kernel_rfl)
    have g := hpre 2 (by kernel_rfl)
    have F := hpre 1 (by kernel_rfl)
    have E := hpre 0 (by kernel_rfl)
    have c := hSi
    obtain rfl := n c
    obtain rfl := p E
    obtain rfl := q F
    obtain rfl := L g
    obtain rfl := s H
    obtain rfl := u I
    obtain rfl := M h
    obtain rfl := U b
    obtain rfl := V b
    refine hG (any_step ?_); clear hG G; intro A J hJ
    have d := Fz.le.trans d f
    refine s1 hFx 0 (.slice ao1 (u0.take u1.toNat ++ u0.drop u2.toNat).length cap2) ?_; intro bb aM; clear hFx
    refine nl (qnI (hJ _ _ ?_)); clear hJ J
    exact ⟨.slice ao1 (u0.take u1.toNat ++ u0.drop u2.toNat).length cap2, .slice ao1 u0.length cap2, i6 u1, .slice ao1 u1.toNat cap2, .slice ao1 u0.length cap2, i6 u2, .slice (if cap2 = u2.toNat then ao1 else ao1.map (·.add (u2.toNat * 3))) (u0.length - u2.toNat) (cap2 - u2.toNat), .slice ao1 (u0.take u1.toNat ++ u0.drop u2.toNat).length cap2, .own tyAsk 44 ao1 cap2 (u0.take u1.toNat ++ u0.drop u2.toNat), f, aM.region (by kernel_rfl) (by kernel_rfl), hMx.perm (List.Perm.refl _), kf, nu, kf, kf, kf, kf, kf, kf, kf, (tn b), kf⟩
  case hE =>
   intro S hS aN bc hI; refine Go.Sy.hid ?_; intro G hG; obtain ⟨O, hI⟩ := hI; obtain ⟨x, hI⟩ := hI; obtain ⟨y, hI⟩ := hI; obtain ⟨l, hI⟩ := hI; obtain ⟨z, hI⟩ := hI; obtain ⟨C, hI⟩ := hI; obtain ⟨m, hI⟩ := hI; obtain ⟨j, hI⟩ := hI; obtain ⟨P, hI⟩ := hI; obtain ⟨f, hI⟩ := hI; obtain ⟨hFx, hI⟩ := hI; obtain ⟨hMx, hI⟩ := hI; obtain ⟨ae, hI⟩ := hI; obtain ⟨n, hI⟩ := hI; obtain ⟨p, hI⟩ := hI; obtain ⟨q, hI⟩ := hI; obtain ⟨L, hI⟩ := hI; obtain ⟨s, hI⟩ := hI; obtain ⟨u, hI⟩ := hI; obtain ⟨M, hI⟩ := hI; obtain ⟨U, hI⟩ := hI; obtain ⟨D, hI⟩ := hI; have V := hI; clear hI; refine hG ?_; clear hG G
   obtain rfl := ae (hS 7 (by decide))
   obtain rfl := p (hS 0 (by decide))
   obtain rfl := q (hS 1 (by decide))
   obtain rfl := L (hS 2 (by decide))
   obtain rfl := s (hS 3 (by decide))
   obtain rfl := u (hS 4 (by decide))
   obtain rfl := M (hS 5 (by decide))
   obtain rfl := U (hS 6 (by decide))
   obtain rfl := V (hS 6 (by decide))
   have d := Fz.le.trans d f
   refine thn ?_
   have af : Fr 33 [] [⟨0, [], .slice ao1 (u0.take u1.toNat ++ u0.drop u2.toNat).length cap2⟩, ⟨7, [], i6 (u0.length : Int)⟩] aN := hFx.region (by kernel_rfl) (by kernel_rfl); clear hFx
   refine sqH ?_; intro aO ag
   refine bt af hMx 4 [] [] [(27, .slice ao1 (u0.take u1.toNat ++ u0.drop u2.toNat).length cap2), (29, i6 ((u0.take u1.toNat ++ u0.drop u2.toNat).length : Int)), (30, i6 (u0.length : Int))] ?_; intro bd ah; clear af
   refine slX ah (ao := ao1) (n' := (u0.take u1.toNat ++ u0.drop u2.toNat).length) (cap := cap2) (u0.take u1.toNat ++ u0.drop u2.toNat).length u0.length 3 (by first | omega | (simp only [List.length_append, List.length_take, List.length_drop]; omega)) (by omega) (e := 44) (bytes := 24) (nog rfl _) rfl (by kernel_rfl) rfl (by kernel_rfl) (by kernel_rfl) (.inr ⟨.i64, _, rfl, by kernel_rfl⟩) (.inr ⟨.i64, _, rfl, by kernel_rfl⟩) ?_; intro be W; clear ah
   refine clrO W hMx 0 (T := tyAsk) (xs := (u0.take u1.toNat ++ u0.drop u2.toNat)) (ao := ao1) (cap := cap2) u0.length (by refine ⟨?_, ?_⟩ <;> first | omega | (simp only [List.length_append, List.length_take, List.length_drop]; omega)) (e := 44) (bytes := 24) (zs := [i6 0, i6 0, i6 0]) (nog rfl _) rfl rfl (by kernel_rfl) (by kernel_rfl) rfl (by kernel_rfl) (by kernel_rfl) ?_; intro aP ai; clear hMx
   have aj : Mem B [] w0 Z0 ((.own tyAsk 44 ao1 cap2 (u0.take u1.toNat ++ u0.drop u2.toNat)) :: Rr) Z aP := ai; clear ai
   refine nlH (ag _ _ ?_); clear ag aO
   refine sqB W aj [] [] [(6, .slice ao1 (u0.take u1.toNat ++ u0.drop u2.toNat).length cap2)] ?_; intro bf aQ; clear W
   refine wp_ret ?_
   refine ra1 aQ (.slice ao1 (u0.take u1.toNat ++ u0.drop u2.toNat).length cap2) ?_
   exact ⟨(u0.take u1.toNat ++ u0.drop u2.toNat), ao1, cap2, Z, rfl, av, d, aj.keep (List.Sublist.cons_cons _ (List.Sublist.refl _))⟩

end Go.Proofs.YtginlmgkimfjmaaDoor
set_option linter.unusedVariables false
set_option linter.unusedSimpArgs false
set_option maxRecDepth 100000
set_option maxHeartbeats 0
namespace Go.Proofs.YtginlmgkimfjmaaDoor
open Go.Sy Go.RowKit
abbrev e32Sb (X : Task) : List Value := [i6 X.ID, i6 X.Bytes, i6 X.Every, i6 X.Late, i6 X.Jitter]
theorem sleq_fun (u0 : List Slot) (u1 : List Slot) (ao1 : Option Addr) (cap2 : Nat) (ao4 : Option Addr) (cap5 : Nat) (Z : Fz) (w : World) (hs3 : SlR tySlot Z ao1 cap2 u0) (hs6 : SlR tySlot Z ao4 cap5 u1) (hZ : Z.on w) : Calls Tryd.prog 15 #[.slice ao1 u0.length cap2, .slice ao4 u1.length cap5] w fun e w' => e = .returned (.bool (sleqS u0 u1)) ∧ Below w.heap.size w w' :=
  (sleq_walk u0 u1 ao1 cap2 ao4 cap5 Z w hs3 hs6 hZ (sleq_ok u0 u1)).mono fun _ _ ⟨r, he, hk, hb⟩ => ⟨by subst hk; exact he, hb⟩

theorem ltakes_fun (u0 : Task) (hpre : 0 ≤ u0.Bytes ∧ u0.Bytes ≤ 8)  (Z : Fz) (w : World) (hg3 : SlR t8 Z (sm 3) 64 deBruijn64) (hZ : Z.on w) : Calls Tryd.prog 10 #[.agg #[i6 u0.ID, i6 u0.Bytes, i6 u0.Every, i6 u0.Late, i6 u0.Jitter]] w fun e w' => e = .returned (i6 (ltakesS u0)) ∧ Below w.heap.size w w' :=
  (ltakes_walk u0  Z w hg3 hZ (ltakes_ok u0 hpre)).mono fun _ _ ⟨r, he, hk, hb⟩ => ⟨by subst hk; exact he, hb⟩

theorem adel_fun (u0 : List Ask) (u1 : Int) (u2 : Int) (hpre : 0 ≤ u1 ∧ u1 ≤ u2 ∧ u2 ≤ (u0.length : Int)) (ao1 : Option Addr) (cap2 : Nat) (B : Nat) (w0 : World) (Z0 : Fz) (Rr : List Res) (Z : Fz) (w : World) (hM0 : Mem B [] w0 Z0 ((.own tyAsk 44 ao1 cap2 u0) :: Rr) Z w) (hZ : Z.on w) : Calls Tryd.prog 14 #[.slice ao1 u0.length cap2, i6 u1, i6 u2] w fun e w' => ∃ (ao1001 : Option Addr) (cap1002 : Nat) (Z' : Fz), e = .returned (.slice ao1001 (adelS u0 u1 u2).length cap1002) ∧ Fz.le Z Z' ∧ Mem B [] w0 Z0 ((.own tyAsk 44 ao1001 cap1002 (adelS u0 u1 u2)) :: Rr) Z' w' :=
  (adel_walk u0 u1 u2 ao1 cap2 B w0 Z0 Rr Z w hM0 hZ (adel_ok u0 u1 u2 hpre)).mono fun _ _ ⟨r, h0, h1, h2, he, hk, f0, hm⟩ => by subst hk; exact ⟨h0, h1, h2, he, f0, hm⟩

theorem chkT_walk (u0 : List Task) (ao1 : Option Addr) (cap2 : Nat) (Z : Fz) (w : World) (hs3 : SlR tyTask Z ao1 cap2 u0) (hZ : Z.on w) {K : Int → Prop} (hp : chkT_vc u0 K) : Calls Tryd.prog 7 #[.slice ao1 u0.length cap2] w fun e w' => ∃ r : Int, e = .returned (i6 r) ∧ K r ∧ Below w.heap.size w w' := by
 refine enter0 Tryd.func7 rfl rfl (by kernel_rfl) ?_; intro a0 am; have j := Mem.start w Z hZ; have ct := Fz.le.refl Z
 have y := hp (hs3.small); clear hp
 refine sqB am j [] [] [] ?_; intro a6 an; clear am
 refine wp_seq ?_
 refine sqB an j [] [] [(8, .bool (decide ((u0.length : Int) > 20)))] ?_; intro cu o; clear an
 refine cd o (t := decide ((u0.length : Int) > 20)) (by kernel_rfl) (fun U => ?_) (fun U => ?_)
 · -- yes
  have bJ := y.1 U; clear y
  refine sqB o j [] [] [(2, i6 2)] ?_; intro cv bK; clear o
  refine wp_ret ?_
  refine thr ?_
  refine ra1 bK (i6 2) ?_
  exact ⟨2, rfl, bJ, j.below⟩
 · -- no
  have bL := y.2 U; clear y
  refine wp_skip ?_
  refine thn ?_
  refine sqB o j [] [] [(3, .func (.func 18) #[] #[])] ?_; intro cw ao; clear o
  refine wp_seq ?_
  refine sqB ao j [] [] [(9, .slice ao1 u0.length cap2), (10, i6 (u0.length : Int)), (11, i6 0)] ?_; intro ap aq; clear ao
  refine wp_block ?_
  have ar : Fr 66 [] [⟨0, [], .slice ao1 u0.length cap2⟩, ⟨3, [], .func (.func 18) #[] #[]⟩, ⟨9, [], .slice ao1 u0.length cap2⟩, ⟨10, [], i6 (u0.length : Int)⟩, ⟨11, [], i6 0⟩] ap := aq.region (by kernel_rfl) (by kernel_rfl); clear aq
  have au : Fr 66 [] [⟨0, [], .slice ao1 u0.length cap2⟩, ⟨3, [], .func (.func 18) #[] #[]⟩, ⟨9, [], .slice ao1 u0.length cap2⟩, ⟨10, [], i6 (u0.length : Int)⟩, ⟨11, [], i6 0⟩] ap := ar.region (by kernel_rfl) (by kernel_rfl); clear ar
  obtain ⟨bM, bN, bO, bP⟩ := bL
  refine lp (ι := Int) (fun s => [⟨0, [], .slice ao1 u0.length cap2⟩, ⟨3, [], .func (.func 18) #[] #[]⟩, ⟨9, [], .slice ao1 u0.length cap2⟩, ⟨10, [], i6 (u0.length : Int)⟩, ⟨11, [], i6 s⟩]) (fun s => []) (fun s => Z) (fun s => bM s) (fun s => bN s) 0 bO (by exact au.region (by kernel_rfl) (by kernel_rfl)) (by exact j) ?_
  rintro f bQ bR bS av aw
  have ax : Fr 66 [] [⟨0, [], .slice ao1 u0.length cap2⟩, ⟨3, [], .func (.func 18) #[] #[]⟩, ⟨9, [], .slice ao1 u0.length cap2⟩, ⟨10, [], i6 (u0.length : Int)⟩, ⟨11, [], i6 f⟩] bR := av; clear av au
  have l : Mem w.heap.size [] w Z [] Z bS := aw; clear aw j
  have z := bP f bQ
  refine sqB ax l [] [] [(12, .bool (decide (f < (u0.length : Int))))] ?_; intro ay p; clear ax
  refine wp_seq ?_
  refine cd p (t := decide (f < (u0.length : Int))) (by kernel_rfl) (fun V => ?_) (fun V => ?_)
  · -- yes
   have bT := z.1 V; clear z
   refine wp_skip ?_
   refine thn ?_
   have az : Fr 66 [] [⟨0, [], .slice ao1 u0.length cap2⟩, ⟨3, [], .func (.func 18) #[] #[]⟩, ⟨9, [], .slice ao1 u0.length cap2⟩, ⟨10, [], i6 (u0.length : Int)⟩, ⟨11, [], i6 f⟩] ay := p.region (by kernel_rfl) (by kernel_rfl); clear p
   have W : Fr 66 [] [⟨0, [], .slice ao1 u0.length cap2⟩, ⟨3, [], .func (.func 18) #[] #[]⟩, ⟨9, [], .slice ao1 u0.length cap2⟩, ⟨10, [], i6 (u0.length : Int)⟩, ⟨11, [], i6 f⟩] ay := az.region (by kernel_rfl) (by kernel_rfl); clear az
   obtain ⟨bU, bV, bW⟩ := bT
   refine wp_seq_k fun KJ55 hKJ56 => ?_
   have aA : ∀ (_u : Unit), bU → ∀ a1 w1, Fr 66 [] [⟨0, [], .slice ao1 u0.length cap2⟩, ⟨3, [], .func (.func 18) #[] #[]⟩, ⟨9, [], .slice ao1 u0.length cap2⟩, ⟨10, [], i6 (u0.length : Int)⟩, ⟨11, [], i6 f⟩] a1 → Mem w.heap.size [] w Z [] Z w1 → KJ55 a1 w1 := by
    rintro _u bX cx cy aB aC; clear W l
    refine hKJ56 _ _ ?_; clear hKJ56
    have aD := bW  bX
    refine rgB aB aC [] [] [(11, i6 (w64 (f + 1)))] ?_; intro cz bY; clear aB
    refine rd ?_
    exact ⟨w64 (f + 1), aD.1, aD.2, (bY.region (by kernel_rfl) (by kernel_rfl)).anyβ _ (by kernel_rfl), aC.keep (List.Sublist.slnil)⟩
   refine wp_block ?_
   refine sqH ?_; intro bZ aE
   refine s1 W 13 (i6 f) ?_; intro cA aF; clear W
   obtain ⟨b0, aG⟩ := bV
   refine ix aF (T := tyTask) (xs := u0) hs3 f b0 (k := .i64) (e := 32) (bytes := 40) (nog rfl _) rfl (by kernel_rfl) rfl (by kernel_rfl) (by kernel_rfl) (by kernel_rfl) ?_; intro cB cC b1 a cD b2 b3 b4 aH; clear aF
   have A := aG a b2; clear aG
   obtain rfl : b1 = ((e32Sb a) : List Value) := b4
   refine z2 aH l 15 b3 0 5 (e32Sb a) rfl ?_; intro cE aI; clear aH
   refine nw aI l pb [i6 0, i6 0, i6 0, i6 0, i6 0] 32 ?_; intro h cF cG aJ aK; clear aI l
   refine s1 aJ 4 (i6 f) ?_; intro cH X; clear aJ
   refine sx X aK 0 (e32Sb a) 0 ?_; intro b5 aL; clear aK
   have B : Mem w.heap.size [] w Z [.row h (e32Sb a) 32] Z b5 := aL; clear aL
   refine nlH (aE _ _ ?_); clear aE bZ
   refine wp_seq ?_
   refine sqH ?_; intro b6 aM
   refine bt X B 3 [0] [] [(16, .func (.func 18) #[] #[]), (18, i6 a.ID)] ?_; intro cI aN; clear X
   refine fc aN B (ctin_fun a.ID 0 2047 _ _ B.fz) ?_; intro cJ cK aO C; clear aN B
   refine s1 aO 20 (.bool (!(ctin a.ID 0 2047))) ?_; intro cL aP; clear aO
   refine s1 aP 21 (.bool (!(ctin a.ID 0 2047))) ?_; intro cM aQ; clear aP
   have aR := aQ.atom ((!(ctin a.ID 0 2047)) == false) (by kernel_rfl); clear aQ
   refine gp aR 22 0 [] (!(ctin a.ID 0 2047)) (.func (.func 18) #[] #[]) rfl rfl ?_; intro cN aS; clear aR
   refine gp aS 23 0 [] (!(ctin a.ID 0 2047)) (pt h 2) rfl rfl ?_; intro cO Y; clear aS
   refine gd Y (i6 a.Every) (m := 0) (cj := []) (bj := !(ctin a.ID 0 2047)) rfl rfl (by kernel_rfl) rfl (by kernel_rfl) (by kernel_rfl) (by kernel_rfl) (fun hg => ld Y C 0 (g := [0]) (b := h) (off := 2) (cs := (e32Sb a)) (ty := 32) rfl (by kernel_rfl) (by kernel_rfl) (by kernel_rfl) (by kernel_rfl) hg) ?_; intro cP aT; clear Y
   refine gcl aT C (.bool (ctin a.Every 1 1000000)) 18 #[i6 a.Every, i6 1, i6 1000000] (m := 0) (cj := []) (bj := !(ctin a.ID 0 2047)) rfl rfl (by kernel_rfl) rfl (by kernel_rfl) (by kernel_rfl) (by kernel_rfl) (fun _ => by kernel_rfl) (fun hg => ctin_fun a.Every 1 1000000 _ _ C.fz) ?_; intro cQ cR aU D; clear aT C
   refine gp aU 26 0 [] (!(ctin a.ID 0 2047)) (.bool (!(ctin a.Every 1 1000000))) rfl rfl ?_; intro cS aa; clear aU
   refine st aa (.bool ((!(ctin a.ID 0 2047)) || (!(ctin a.Every 1 1000000)))) (nog rfl _) rfl (by kernel_rfl) (pk_or aa (g := []) (m := 0) (b := !(ctin a.ID 0 2047)) (v := !(ctin a.Every 1 1000000)) rfl (by kernel_rfl) (by kernel_rfl) (by kernel_rfl) rfl) ?_; intro cT aV; clear aa
   refine s1 aV 28 (.bool ((!(ctin a.ID 0 2047)) || (!(ctin a.Every 1 1000000)))) ?_; intro cU aW; clear aV
   have aX := aW.atom (((!(ctin a.ID 0 2047)) || (!(ctin a.Every 1 1000000))) == false) (by kernel_rfl); clear aW
   refine gp aX 29 1 [] ((!(ctin a.ID 0 2047)) || (!(ctin a.Every 1 1000000))) (.func (.func 18) #[] #[]) rfl rfl ?_; intro cV aY; clear aX
   refine gp aY 30 1 [] ((!(ctin a.ID 0 2047)) || (!(ctin a.Every 1 1000000))) (pt h 3) rfl rfl ?_; intro cW ab; clear aY
   refine gd ab (i6 a.Late) (m := 1) (cj := []) (bj := (!(ctin a.ID 0 2047)) || (!(ctin a.Every 1 1000000))) rfl rfl (by kernel_rfl) rfl (by kernel_rfl) (by kernel_rfl) (by kernel_rfl) (fun hg => ld ab D 0 (g := [1]) (b := h) (off := 3) (cs := (e32Sb a)) (ty := 32) rfl (by kernel_rfl) (by kernel_rfl) (by kernel_rfl) (by kernel_rfl) hg) ?_; intro cX aZ; clear ab
   refine gcl aZ D (.bool (ctin a.Late 0 1000000)) 18 #[i6 a.Late, i6 0, i6 1000000] (m := 1) (cj := []) (bj := (!(ctin a.ID 0 2047)) || (!(ctin a.Every 1 1000000))) rfl rfl (by kernel_rfl) rfl (by kernel_rfl) (by kernel_rfl) (by kernel_rfl) (fun _ => by kernel_rfl) (fun hg => ctin_fun a.Late 0 1000000 _ _ D.fz) ?_; intro cY cZ a2 q; clear aZ D
   refine gp a2 33 1 [] ((!(ctin a.ID 0 2047)) || (!(ctin a.Every 1 1000000))) (.bool (!(ctin a.Late 0 1000000))) rfl rfl ?_; intro c0 ac; clear a2
   refine st ac (.bool (((!(ctin a.ID 0 2047)) || (!(ctin a.Every 1 1000000))) || (!(ctin a.Late 0 1000000)))) (nog rfl _) rfl (by kernel_rfl) (pk_or ac (g := []) (m := 1) (b := (!(ctin a.ID 0 2047)) || (!(ctin a.Every 1 1000000))) (v := !(ctin a.Late 0 1000000)) rfl (by kernel_rfl) (by kernel_rfl) (by kernel_rfl) rfl) ?_; intro c1 a3; clear ac
   refine s1 a3 35 (.bool (((!(ctin a.ID 0 2047)) || (!(ctin a.Every 1 1000000))) || (!(ctin a.Late 0 1000000)))) ?_; intro c2 a4; clear a3
   have a5 := a4.atom ((((!(ctin a.ID 0 2047)) || (!(ctin a.Every 1 1000000))) || (!(ctin a.Late 0 1000000))) == false) (by kernel_rfl); clear a4
   refine gp a5 36 2 [] (((!(ctin a.ID 0 2047)) || (!(ctin a.Every 1 1000000))) || (!(ctin a.Late 0 1000000))) (.func (.func 18) #[] #[]) rfl rfl ?_; intro c3 a7; clear a5
   refine gp a7 37 2 [] (((!(ctin a.ID 0 2047)) || (!(ctin a.Every 1 1000000))) || (!(ctin a.Late 0 1000000))) (pt h 4) rfl rfl ?_; intro c4 ad; clear a7
   refine gd ad (i6 a.Jitter) (m := 2) (cj := []) (bj := ((!(ctin a.ID 0 2047)) || (!(ctin a.Every 1 1000000))) || (!(ctin a.Late 0 1000000))) rfl rfl (by kernel_rfl) rfl (by kernel_rfl) (by kernel_rfl) (by kernel_rfl) (fun hg => ld ad q 0 (g := [2]) (b := h) (off := 4) (cs := (e32Sb a)) (ty := 32) rfl (by kernel_rfl) (by kernel_rfl) (by kernel_rfl) (by kernel_rfl) hg) ?_; intro c5 a8; clear ad
   refine gp a8 39 2 [] (((!(ctin a.ID 0 2047)) || (!(ctin a.Every 1 1000000))) || (!(ctin a.Late 0 1000000))) (pt h 2) rfl rfl ?_; intro c6 ae; clear a8
   refine gd ae (i6 a.Every) (m := 2) (cj := []) (bj := ((!(ctin a.ID 0 2047)) || (!(ctin a.Every 1 1000000))) || (!(ctin a.Late 0 1000000))) rfl rfl (by kernel_rfl) rfl (by kernel_rfl) (by kernel_rfl) (by kernel_rfl) (fun hg => ld ae q 0 (g := [2]) (b := h) (off := 2) (cs := (e32Sb a)) (ty := 32) rfl (by kernel_rfl) (by kernel_rfl) (by kernel_rfl) (by kernel_rfl) hg) ?_; intro c7 a9; clear ae
   refine gp a9 41 2 [] (((!(ctin a.ID 0 2047)) || (!(ctin a.Every 1 1000000))) || (!(ctin a.Late 0 1000000))) (i6 (w64 (a.Every - 1))) rfl rfl ?_; intro c8 ba; clear a9
   refine gcl ba q (.bool (ctin a.Jitter 0 (w64 (a.Every - 1)))) 18 #[i6 a.Jitter, i6 0, i6 (w64 (a.Every - 1))] (m := 2) (cj := []) (bj := ((!(ctin a.ID 0 2047)) || (!(ctin a.Every 1 1000000))) || (!(ctin a.Late 0 1000000))) rfl rfl (by kernel_rfl) rfl (by kernel_rfl) (by kernel_rfl) (by kernel_rfl) (fun _ => by kernel_rfl) (fun hg => ctin_fun a.Jitter 0 (w64 (a.Every - 1)) _ _ q.fz) ?_; intro c9 da bb E; clear ba q
   refine gp bb 43 2 [] (((!(ctin a.ID 0 2047)) || (!(ctin a.Every 1 1000000))) || (!(ctin a.Late 0 1000000))) (.bool (!(ctin a.Jitter 0 (w64 (a.Every - 1))))) rfl rfl ?_; intro db af; clear bb
   refine st af (.bool ((((!(ctin a.ID 0 2047)) || (!(ctin a.Every 1 1000000))) || (!(ctin a.Late 0 1000000))) || (!(ctin a.Jitter 0 (w64 (a.Every - 1)))))) (nog rfl _) rfl (by kernel_rfl) (pk_or af (g := []) (m := 2) (b := ((!(ctin a.ID 0 2047)) || (!(ctin a.Every 1 1000000))) || (!(ctin a.Late 0 1000000))) (v := !(ctin a.Jitter 0 (w64 (a.Every - 1)))) rfl (by kernel_rfl) (by kernel_rfl) (by kernel_rfl) rfl) ?_; intro dc bc; clear af
   refine s1 bc 45 (.bool ((((!(ctin a.ID 0 2047)) || (!(ctin a.Every 1 1000000))) || (!(ctin a.Late 0 1000000))) || (!(ctin a.Jitter 0 (w64 (a.Every - 1)))))) ?_; intro dd bd; clear bc
   have be := bd.atom (((((!(ctin a.ID 0 2047)) || (!(ctin a.Every 1 1000000))) || (!(ctin a.Late 0 1000000))) || (!(ctin a.Jitter 0 (w64 (a.Every - 1))))) == false) (by kernel_rfl); clear bd
   refine gp be 46 3 [] ((((!(ctin a.ID 0 2047)) || (!(ctin a.Every 1 1000000))) || (!(ctin a.Late 0 1000000))) || (!(ctin a.Jitter 0 (w64 (a.Every - 1))))) (.func (.func 18) #[] #[]) rfl rfl ?_; intro de bf; clear be
   refine gp bf 47 3 [] ((((!(ctin a.ID 0 2047)) || (!(ctin a.Every 1 1000000))) || (!(ctin a.Late 0 1000000))) || (!(ctin a.Jitter 0 (w64 (a.Every - 1))))) (pt h 1) rfl rfl ?_; intro df ag; clear bf
   refine gd ag (i6 a.Bytes) (m := 3) (cj := []) (bj := (((!(ctin a.ID 0 2047)) || (!(ctin a.Every 1 1000000))) || (!(ctin a.Late 0 1000000))) || (!(ctin a.Jitter 0 (w64 (a.Every - 1))))) rfl rfl (by kernel_rfl) rfl (by kernel_rfl) (by kernel_rfl) (by kernel_rfl) (fun hg => ld ag E 0 (g := [3]) (b := h) (off := 1) (cs := (e32Sb a)) (ty := 32) rfl (by kernel_rfl) (by kernel_rfl) (by kernel_rfl) (by kernel_rfl) hg) ?_; intro dg bg; clear ag
   refine gcl bg E (.bool (ctin a.Bytes 0 8)) 18 #[i6 a.Bytes, i6 0, i6 8] (m := 3) (cj := []) (bj := (((!(ctin a.ID 0 2047)) || (!(ctin a.Every 1 1000000))) || (!(ctin a.Late 0 1000000))) || (!(ctin a.Jitter 0 (w64 (a.Every - 1))))) rfl rfl (by kernel_rfl) rfl (by kernel_rfl) (by kernel_rfl) (by kernel_rfl) (fun _ => by kernel_rfl) (fun hg => ctin_fun a.Bytes 0 8 _ _ E.fz) ?_; intro dh di bh n; clear bg E
   refine gp bh 50 3 [] ((((!(ctin a.ID 0 2047)) || (!(ctin a.Every 1 1000000))) || (!(ctin a.Late 0 1000000))) || (!(ctin a.Jitter 0 (w64 (a.Every - 1))))) (.bool (!(ctin a.Bytes 0 8))) rfl rfl ?_; intro dj ah; clear bh
   refine st ah (.bool (((((!(ctin a.ID 0 2047)) || (!(ctin a.Every 1 1000000))) || (!(ctin a.Late 0 1000000))) || (!(ctin a.Jitter 0 (w64 (a.Every - 1))))) || (!(ctin a.Bytes 0 8)))) (nog rfl _) rfl (by kernel_rfl) (pk_or ah (g := []) (m := 3) (b := (((!(ctin a.ID 0 2047)) || (!(ctin a.Every 1 1000000))) || (!(ctin a.Late 0 1000000))) || (!(ctin a.Jitter 0 (w64 (a.Every - 1))))) (v := !(ctin a.Bytes 0 8)) rfl (by kernel_rfl) (by kernel_rfl) (by kernel_rfl) rfl) ?_; intro F u; clear ah
   refine nlH (aM _ _ ?_); clear aM b6
   refine cd u (t := ((((!(ctin a.ID 0 2047)) || (!(ctin a.Every 1 1000000))) || (!(ctin a.Late 0 1000000))) || (!(ctin a.Jitter 0 (w64 (a.Every - 1))))) || (!(ctin a.Bytes 0 8))) (by kernel_rfl) (fun ai => ?_) (fun ai => ?_)
   · -- yes
    have b7 := A.1 ai; clear A
    have bi : Fr 66 [] [] F := u.region (by kernel_rfl) (by kernel_rfl); clear u
    refine sqB bi n [] [] [(2, i6 3)] ?_; intro dk b8; clear bi
    refine wp_ret ?_
    refine thr ?_
    refine ibr ?_
    refine thr ?_
    refine thr ?_
    refine ibr ?_
    refine thr ?_
    refine ra1 b8 (i6 3) ?_
    exact ⟨3, rfl, b7, n.below⟩
   · -- no
    have G := A.2 ai; clear A
    refine wp_skip ?_
    refine thn ?_
    have H : Fr 66 [] [⟨0, [], .slice ao1 u0.length cap2⟩, ⟨3, [], .func (.func 18) #[] #[]⟩, ⟨4, [], i6 f⟩, ⟨5, [], pt h 0⟩, ⟨9, [], .slice ao1 u0.length cap2⟩, ⟨10, [], i6 (u0.length : Int)⟩, ⟨11, [], i6 f⟩] F := u.region (by kernel_rfl) (by kernel_rfl); clear u
    rcases Bool.eq_false_or_eq_true (decide (f > 0)) with x | x
    · -- true
     have b9 := G.1 x; clear G
     have bk : Fr 66 [] [⟨0, [], .slice ao1 u0.length cap2⟩, ⟨3, [], .func (.func 18) #[] #[]⟩, ⟨4, [], i6 f⟩, ⟨5, [], pt h 0⟩, ⟨9, [], .slice ao1 u0.length cap2⟩, ⟨10, [], i6 (u0.length : Int)⟩, ⟨11, [], i6 f⟩] F := H.region (by kernel_rfl) (by kernel_rfl); clear H
     refine sqQH mixed (by kernel_rfl) n ?_; intro ca bl
     refine q1 bk 52 (i6 f) ?_; intro dl bm; clear bk
     refine q1 bm 53 (.bool (decide (f > 0))) ?_; intro dm bn; clear bm
     have bo := bn.reval (d := 53) (c := []) (v := .bool (decide (f > 0))) (by kernel_rfl) (.bool true) (by rw [x]); clear bn
     refine q1 bo 54 (.bool true) ?_; intro dn I; clear bo
     refine qst I (pt h 0) (by rw [wanted_of I (b := true) rfl rfl (by kernel_rfl) (by kernel_rfl)]; rfl) rfl (by kernel_rfl) (fun v205 hC => p0 I (by kernel_rfl)) ?_; intro dp J; clear I
     refine qst J (i6 a.ID) (by rw [wanted_of J (b := true) rfl rfl (by kernel_rfl) (by kernel_rfl)]; rfl) rfl (by kernel_rfl) (fun v208 hC => ld J hC 0 (g := []) (b := h) (off := 0) (cs := (e32Sb a)) (ty := 32) rfl (by kernel_rfl) (by kernel_rfl) (by kernel_rfl) (by kernel_rfl) rfl) ?_; intro dq L; clear J
     refine qst L (.slice ao1 u0.length cap2) (by rw [wanted_of L (b := true) rfl rfl (by kernel_rfl) (by kernel_rfl)]; rfl) rfl (by kernel_rfl) (fun v211 hC => p0 L (by kernel_rfl)) ?_; intro dr M; clear L
     refine qst M (i6 f) (by rw [wanted_of M (b := true) rfl rfl (by kernel_rfl) (by kernel_rfl)]; rfl) rfl (by kernel_rfl) (fun v214 hC => p0 M (by kernel_rfl)) ?_; intro ds N; clear M
     refine qst N (i6 (w64 (f - 1))) (by rw [wanted_of N (b := true) rfl rfl (by kernel_rfl) (by kernel_rfl)]; rfl) rfl (by kernel_rfl) (fun v217 hC => p0 N (by kernel_rfl)) ?_; intro dt aj; clear N
     obtain ⟨cb, bp⟩ := b9
     refine qix aj (T := tyTask) (xs := u0) hs3 (w64 (f - 1)) cb (k := .i64) (e := 32) (bytes := 40) (by rw [wanted_of aj (b := true) rfl rfl (by kernel_rfl) (by kernel_rfl)]; rfl) rfl (by kernel_rfl) rfl (by kernel_rfl) (by kernel_rfl) (by kernel_rfl) ?_; intro cc ce cf i du cg ch ci O; clear aj
     have P := bp i cg; clear bp
     obtain rfl : cf = ((e32Sb i) : List Value) := ci
     refine qst O (pt cc ce) (by rw [wanted_of O (b := true) rfl rfl (by kernel_rfl) (by kernel_rfl)]; rfl) rfl (by kernel_rfl) (fun v233 hC => p0 O (by kernel_rfl)) ?_; intro dv Q; clear O
     refine qst Q (i6 i.ID) (by rw [wanted_of Q (b := true) rfl rfl (by kernel_rfl) (by kernel_rfl)]; rfl) rfl (by kernel_rfl) (fun v236 hC => lz Q hC.fz ch 0 (g := []) rfl (by kernel_rfl) (by kernel_rfl) (by kernel_rfl) rfl) ?_; intro dw R; clear Q
     refine qst R (.bool (decide (a.ID ≤ i.ID))) (by rw [wanted_of R (b := true) rfl rfl (by kernel_rfl) (by kernel_rfl)]; rfl) rfl (by kernel_rfl) (fun v239 hC => p0 R (by kernel_rfl)) ?_; intro dx bq; clear R
     refine q1 bq 64 (.bool (decide (a.ID ≤ i.ID))) ?_; intro dy S; clear bq
     refine qnl (bl _ ?_); clear bl ca; intro dz ak; clear n
     refine cd S (t := decide (a.ID ≤ i.ID)) (by kernel_rfl) (fun al => ?_) (fun al => ?_)
     · -- yes
      have ck := P.1 al; clear P
      refine sqB S ak [] [] [(2, i6 4)] ?_; intro dA cl; clear S
      refine wp_ret ?_
      refine ibr ?_
      refine thr ?_
      refine thr ?_
      refine ibr ?_
      refine thr ?_
      refine ra1 cl (i6 4) ?_
      exact ⟨4, rfl, ck, ak.below⟩
     · -- no
      have cm := P.2 al; clear P
      refine wp_skip ?_
      refine ibn ?_
      refine rd ?_
      exact aA () cm _ _ ((S.region (by kernel_rfl) (by kernel_rfl)).anyβ _ (by kernel_rfl)) (ak.keep (List.Sublist.cons _ (List.Sublist.slnil)))
    · -- false
     have cn := G.2 x; clear G
     have br : Fr 66 [] [⟨0, [], .slice ao1 u0.length cap2⟩, ⟨3, [], .func (.func 18) #[] #[]⟩, ⟨4, [], i6 f⟩, ⟨5, [], pt h 0⟩, ⟨9, [], .slice ao1 u0.length cap2⟩, ⟨10, [], i6 (u0.length : Int)⟩, ⟨11, [], i6 f⟩] F := H.region (by kernel_rfl) (by kernel_rfl); clear H
     refine sqQH mixed (by kernel_rfl) n ?_; intro co bs
     refine q1 br 52 (i6 f) ?_; intro dB bu; clear br
     refine q1 bu 53 (.bool (decide (f > 0))) ?_; intro dC bv; clear bu
     have bw := bv.reval (d := 53) (c := []) (v := .bool (decide (f > 0))) (by kernel_rfl) (.bool false) (by rw [x]); clear bv
     refine q1 bw 54 (.bool false) ?_; intro dD bx; clear bw
     refine qsk bx (b := false) rfl rfl (by kernel_rfl) (by kernel_rfl) rfl rfl (by kernel_rfl) ?_; intro dE bz; clear bx
     refine qsk bz (b := false) rfl rfl (by kernel_rfl) (by kernel_rfl) rfl rfl (by kernel_rfl) ?_; intro dF bA; clear bz
     refine qsk bA (b := false) rfl rfl (by kernel_rfl) (by kernel_rfl) rfl rfl (by kernel_rfl) ?_; intro dG bB; clear bA
     refine qsk bB (b := false) rfl rfl (by kernel_rfl) (by kernel_rfl) rfl rfl (by kernel_rfl) ?_; intro dH bC; clear bB
     refine qsk bC (b := false) rfl rfl (by kernel_rfl) (by kernel_rfl) rfl rfl (by kernel_rfl) ?_; intro dI bD; clear bC
     refine qsk bD (b := false) rfl rfl (by kernel_rfl) (by kernel_rfl) rfl rfl (by kernel_rfl) ?_; intro dJ bE; clear bD
     refine qsk bE (b := false) rfl rfl (by kernel_rfl) (by kernel_rfl) rfl rfl (by kernel_rfl) ?_; intro dK bF; clear bE
     refine qsk bF (b := false) rfl rfl (by kernel_rfl) (by kernel_rfl) rfl rfl (by kernel_rfl) ?_; intro dL bG; clear bF
     refine qsk bG (b := false) rfl rfl (by kernel_rfl) (by kernel_rfl) rfl rfl (by kernel_rfl) ?_; intro dM bH; clear bG
     refine q1 bH 64 (.bool false) ?_; intro dN bI; clear bH
     refine qnl (bs _ ?_); clear bs co; intro dO cp; clear n
     refine cdF bI (by kernel_rfl) ?_
     refine wp_skip ?_
     refine ibn ?_
     refine rd ?_
     exact aA () cn _ _ ((bI.region (by kernel_rfl) (by kernel_rfl)).anyβ _ (by kernel_rfl)) (cp.keep (List.Sublist.cons _ (List.Sublist.slnil)))
  · -- no
   have cq := z.2 V; clear z
   refine wp_exit ?_
   refine thx ?_
   refine thx ?_
   refine ibx ?_
   refine thn ?_
   refine sqB p l [] [] [(2, i6 0)] ?_; intro dP cr; clear p
   refine wp_ret ?_
   refine ra1 cr (i6 0) ?_
   exact ⟨0, rfl, cq, l.below⟩

theorem played_walk   (Z : Fz) (w : World)  (hZ : Z.on w) {K : Bool → Prop} (hp : played_vc  K) : Calls Tryd.prog 13 #[] w fun e w' => ∃ r : Bool, e = .returned (.bool r) ∧ K r ∧ Below w.heap.size w w' := by
 refine enter0 Tryd.func13 rfl rfl (by kernel_rfl) ?_; intro a0 I; have l := Mem.start w Z hZ; have a := Fz.le.refl Z
 refine sqB I l [] [] [] ?_; intro a2 J; clear I
 refine sqH ?_; intro aj L
 refine ck J 19 #[] ?_
 refine (dtasks_fun  _ _ l.fz).mono ?_; rintro _ ak ⟨t, u, al, rfl, hm⟩; refine ⟨_, rfl, ?_⟩; intro a6 M; have N := l.callZ hm; have am := hm.ext.le; clear hm l J
 replace a := Fz.le.trans a am
 have y : Mem w.heap.size [] w Z [.own tyTask 32 t u tasksS] al ak := N; clear N
 have O := hp (y.ownSmall 0 rfl); clear hp
 refine nw M y (fun b => .slice (sm b) 2 2) [i6 5, i6 5] 3 ?_; intro m aD z P an; clear M y
 obtain ⟨Q, ao, R, f⟩ := an.freeze 1 rfl
 replace a := Fz.le.trans a ao
 have S : Mem w.heap.size [] w Z [.row m [i6 5, i6 5] 3] Q z := R; clear R
 have ap : Mem w.heap.size [] w Z [.own t6 3 (sm m) 2 ([5, 5] : List Int)] Q z := S.rowOwn (T := t6) (xs := ([5, 5] : List Int)) 0 rfl (by decide) (by show 2 ≤ lim; decide) ((RepAll.one (T := t6) (x := 5) rfl).append (RepAll.one (T := t6) (x := 5) rfl)); clear S
 obtain ⟨aq, U, V, h⟩ := ap.freeze 0 rfl
 replace f := f.mono U
 replace a := Fz.le.trans a U
 have A : Mem w.heap.size [] w Z [] aq z := V; clear V
 refine ck P 12 #[.slice t tasksS.length u, .slice (sm m) ([5, 5] : List Int).length 2, .slice none 0 0, i6 100] ?_
 refine (splay_fun tasksS ([5, 5] : List Int) [] 100 t u (sm m) 2 none 0 _ _ f h (SlR.nil _ _) A.fz).mono ?_; rintro _ ar ⟨i, j, au, rfl, hm⟩; refine ⟨_, rfl, ?_⟩; intro aE W; have X := A.callZ hm; have B := hm.ext.le; clear hm A P
 replace f := f.mono B
 replace h := h.mono B
 replace a := Fz.le.trans a B
 have g : Mem w.heap.size [] w Z [.own tySlot 47 i j (playS tasksS ([5, 5] : List Int) [] 100).1] au ar := X; clear X
 have n := O (g.ownSmall 0 rfl); clear O
 refine bt W g 5 [] [] [(1, .slice i (playS tasksS ([5, 5] : List Int) [] 100).1.length j), (2, i6 (playS tasksS ([5, 5] : List Int) [] 100).2)] ?_; intro aF Y; clear W
 refine nlH (L _ _ ?_); clear L aj
 refine sqH ?_; intro aa o
 refine bt Y g 3 [] [] [(11, .bool ((playS tasksS ([5, 5] : List Int) [] 100).2 == 0))] ?_; intro aG p; clear Y
 rcases Bool.eq_false_or_eq_true ((playS tasksS ([5, 5] : List Int) [] 100).2 == 0) with k | k
 · -- true
  have av := n.1 k; clear n
  have ab := p.reval (d := 11) (c := []) (v := .bool ((playS tasksS ([5, 5] : List Int) [] 100).2 == 0)) (by kernel_rfl) (.bool true) (by rw [k]); clear p
  refine bt ab g 3 [] [12, 13, 14] [(12, .slice i (playS tasksS ([5, 5] : List Int) [] 100).1.length j), (13, .agg #[i6 0, i6 5, i6 5, i6 140]), (14, .agg #[i6 1, i6 5, i6 140, i6 275])] ?_; intro aH C; clear ab
  refine sn C g (fun b => .slice (sm b) 2 2) [i6 0, i6 5, i6 5, i6 140, i6 1, i6 5, i6 140, i6 275] 47 (by rw [wanted_of C (b := true) rfl rfl (by kernel_rfl) (by kernel_rfl)]; rfl) rfl (by kernel_rfl) (by kernel_rfl) ?_; intro q aI D E aw; clear C g
  obtain ⟨ac, F, ad, G⟩ := aw.freeze 1 rfl
  replace f := f.mono F
  replace h := h.mono F
  replace a := Fz.le.trans a F
  have ae : Mem w.heap.size [] w Z [.row q [i6 0, i6 5, i6 5, i6 140, i6 1, i6 5, i6 140, i6 275] 47] ac D := ad; clear ad
  have ax : Mem w.heap.size [] w Z [.own tySlot 47 (sm q) 2 ([(⟨0, 5, 5, 140⟩ : Slot), (⟨1, 5, 140, 275⟩ : Slot)] : List Slot)] ac D := ae.rowOwn (T := tySlot) (xs := ([(⟨0, 5, 5, 140⟩ : Slot), (⟨1, 5, 140, 275⟩ : Slot)] : List Slot)) 0 rfl (by decide) (by show 2 ≤ lim; decide) ((RepAll.one (T := tySlot) (x := (⟨0, 5, 5, 140⟩ : Slot)) rfl).append (RepAll.one (T := tySlot) (x := (⟨1, 5, 140, 275⟩ : Slot)) rfl)); clear ae
  obtain ⟨ay, s, af, az⟩ := ax.freeze 0 rfl
  replace f := f.mono s
  replace h := h.mono s
  replace G := G.mono s
  replace a := Fz.le.trans a s
  have H : Mem w.heap.size [] w Z [] ay D := af; clear af
  refine fcl E H (.bool (sleqS (playS tasksS ([5, 5] : List Int) [] 100).1 ([(⟨0, 5, 5, 140⟩ : Slot), (⟨1, 5, 140, 275⟩ : Slot)] : List Slot))) 15 #[.slice i (playS tasksS ([5, 5] : List Int) [] 100).1.length j, .slice (sm q) ([(⟨0, 5, 5, 140⟩ : Slot), (⟨1, 5, 140, 275⟩ : Slot)] : List Slot).length 2] (by rw [wanted_of E (b := true) rfl rfl (by kernel_rfl) (by kernel_rfl)]; rfl) rfl (by kernel_rfl) (fun _ => by kernel_rfl) (sleq_fun (playS tasksS ([5, 5] : List Int) [] 100).1 ([(⟨0, 5, 5, 140⟩ : Slot), (⟨1, 5, 140, 275⟩ : Slot)] : List Slot) i j (sm q) 2 _ _ G az H.fz) ?_; intro aJ aK ag ah; clear E H
  refine bt ag ah 2 [] [17] [(0, .bool (sleqS (playS tasksS ([5, 5] : List Int) [] 100).1 ([(⟨0, 5, 5, 140⟩ : Slot), (⟨1, 5, 140, 275⟩ : Slot)] : List Slot)))] ?_; intro aL aA; clear ag
  refine nlH (o _ _ ?_); clear o aa
  refine wp_ret ?_
  refine ra1 aA (.bool (sleqS (playS tasksS ([5, 5] : List Int) [] 100).1 ([(⟨0, 5, 5, 140⟩ : Slot), (⟨1, 5, 140, 275⟩ : Slot)] : List Slot))) ?_
  exact ⟨(sleqS (playS tasksS ([5, 5] : List Int) [] 100).1 ([(⟨0, 5, 5, 140⟩ : Slot), (⟨1, 5, 140, 275⟩ : Slot)] : List Slot)), rfl, av, ah.below⟩
 · -- false
  have aB := n.2 k; clear n
  have ai := p.reval (d := 11) (c := []) (v := .bool ((playS tasksS ([5, 5] : List Int) [] 100).2 == 0)) (by kernel_rfl) (.bool false) (by rw [k]); clear p
  refine bt ai g 7 [] [12, 13, 14, 15, 16, 17] [(0, .bool false)] ?_; intro aM aC; clear ai
  refine nlH (o _ _ ?_); clear o aa
  refine wp_ret ?_
  refine ra1 aC (.bool false) ?_
  exact ⟨false, rfl, aB, g.below⟩

end Go.Proofs.YtginlmgkimfjmaaDoor
set_option linter.unusedVariables false
set_option linter.unusedSimpArgs false
set_option maxRecDepth 100000
set_option maxHeartbeats 0
namespace Go.Proofs.YtginlmgkimfjmaaDoor
open Go.Sy Go.RowKit
abbrev e32Sc (X : Task) : List Value := [i6 X.ID, i6 X.Bytes, i6 X.Every, i6 X.Late, i6 X.Jitter]
abbrev e44Sc (X : Ask) : List Value := [i6 X.task, i6 X.due, i6 X.at_]
theorem chkT_fun (u0 : List Task) (ao1 : Option Addr) (cap2 : Nat) (Z : Fz) (w : World) (hs3 : SlR tyTask Z ao1 cap2 u0) (hZ : Z.on w) : Calls Tryd.prog 7 #[.slice ao1 u0.length cap2] w fun e w' => e = .returned (i6 (dcheckS u0)) ∧ Below w.heap.size w w' :=
  (chkT_walk u0 ao1 cap2 Z w hs3 hZ (chkT_ok u0)).mono fun _ _ ⟨r, he, hk, hb⟩ => ⟨by subst hk; exact he, hb⟩

theorem played_fun   (Z : Fz) (w : World)  (hZ : Z.on w) : Calls Tryd.prog 13 #[] w fun e w' => e = .returned (.bool true) ∧ Below w.heap.size w w' :=
  (played_walk   Z w  hZ (played_ok )).mono fun _ _ ⟨r, he, hk, hb⟩ => ⟨by subst hk; exact he, hb⟩

theorem LPlay_walk (u0 : List Task) (u1 : List Int) (u2 : List Int) (u3 : Int) (ao1 : Option Addr) (cap2 : Nat) (ao4 : Option Addr) (cap5 : Nat) (ao7 : Option Addr) (cap8 : Nat) (Z : Fz) (w : World) (hs3 : SlR tyTask Z ao1 cap2 u0) (hs6 : SlR t6 Z ao4 cap5 u1) (hs9 : SlR t6 Z ao7 cap8 u2) (hg3 : SlR t8 Z (sm 3) 64 deBruijn64) (hZ : Z.on w) {K : Bool → Prop} (hp : LPlay_vc u0 u1 u2 u3 K) : Calls Tryd.prog 4 #[.slice ao1 u0.length cap2, .slice ao4 u1.length cap5, .slice ao7 u2.length cap8, i6 u3] w fun e w' => ∃ r : Bool, e = .returned (.bool r) ∧ K r ∧ Below w.heap.size w w' := by
 refine enter0 Tryd.func4 rfl rfl (by kernel_rfl) ?_; intro a0 dD; have aX := Mem.start w Z hZ; have X := Fz.le.refl Z
 have dE := hp (hs3.small); clear hp
 have dF := dE (hs6.small); clear dE
 have dG := dF (hs9.small); clear dF
 refine sqB dD aX [] [] [] ?_; intro nX dH; clear dD
 refine sqH ?_; intro it dI
 refine bt dH aX 4 [] [] [(28, .slice ao1 u0.length cap2), (29, .slice ao4 u1.length cap5), (30, .slice ao7 u2.length cap8), (31, i6 u3)] ?_; intro nY dJ; clear dH
 refine ck dJ 12 #[.slice ao1 u0.length cap2, .slice ao4 u1.length cap5, .slice ao7 u2.length cap8, i6 u3] ?_
 refine (splay_fun u0 u1 u2 u3 ao1 cap2 ao4 cap5 ao7 cap8 _ _ hs3 hs6 hs9 aX.fz).mono ?_; rintro _ iu ⟨i, j, M, rfl, hm⟩; refine ⟨_, rfl, ?_⟩; intro nZ dK; have dL := aX.callZ hm; have aY := hm.ext.le; clear hm aX dJ
 replace hs3 := hs3.mono aY
 replace hs6 := hs6.mono aY
 replace hs9 := hs9.mono aY
 replace hg3 := hg3.mono aY
 replace X := Fz.le.trans X aY
 have aZ : Mem w.heap.size [] w Z [.own tySlot 47 i j (playS u0 u1 u2 u3).1] M iu := dL; clear dL
 have iv := dG (aZ.ownSmall 0 rfl); clear dG
 refine bt dK aZ 5 [] [] [(9, .slice i (playS u0 u1 u2 u3).1.length j), (10, i6 (playS u0 u1 u2 u3).2)] ?_; intro n0 dM; clear dK
 refine nlH (dI _ _ ?_); clear dI it
 refine sqH ?_; intro iw dN
 refine s1 dM 35 (.slice ao1 u0.length cap2) ?_; intro n1 dO; clear dM
 refine fc dO aZ (chkT_fun u0 ao1 cap2 _ _ hs3 aZ.fz) ?_; intro n2 n3 dP a2; clear dO aZ
 refine s1 dP 11 (i6 (dcheckS u0)) ?_; intro n4 dQ; clear dP
 refine nlH (dN _ _ ?_); clear dN iw
 refine wp_seq ?_
 refine sqB dQ a2 [] [] [(58, .bool (((dcheckS u0) == 0) && (((((u1.length : Int) != (u0.length : Int)) || (decide ((u2.length : Int) > 1000))) || (decide (u3 < 0))) || (decide (u3 > 1000000)))))] ?_; intro dR dS; clear dQ
 have dT : Fr 268 [] [⟨0, [], .slice ao1 u0.length cap2⟩, ⟨1, [], .slice ao4 u1.length cap5⟩, ⟨2, [], .slice ao7 u2.length cap8⟩, ⟨3, [], i6 u3⟩, ⟨9, [], .slice i (playS u0 u1 u2 u3).1.length j⟩, ⟨10, [], i6 (playS u0 u1 u2 u3).2⟩, ⟨11, [], i6 (dcheckS u0)⟩, ⟨58, [], .bool (((dcheckS u0) == 0) && (((((u1.length : Int) != (u0.length : Int)) || (decide ((u2.length : Int) > 1000))) || (decide (u3 < 0))) || (decide (u3 > 1000000))))⟩] dR := dS.reg; clear dS
 have a3 : Fr 268 [] [⟨0, [], .slice ao1 u0.length cap2⟩, ⟨1, [], .slice ao4 u1.length cap5⟩, ⟨2, [], .slice ao7 u2.length cap8⟩, ⟨3, [], i6 u3⟩, ⟨9, [], .slice i (playS u0 u1 u2 u3).1.length j⟩, ⟨10, [], i6 (playS u0 u1 u2 u3).2⟩, ⟨11, [], i6 (dcheckS u0)⟩, ⟨58, [], .bool (((dcheckS u0) == 0) && (((((u1.length : Int) != (u0.length : Int)) || (decide ((u2.length : Int) > 1000))) || (decide (u3 < 0))) || (decide (u3 > 1000000))))⟩] dR := dT.reg; clear dT
 obtain ⟨iy, bs, iz⟩ := iv
 refine wp_then_k fun KJ108 hKJ109 => ?_
 have dU : ∀ (am : Int), iy am → ∀ a1 w1, Fr 268 [] [⟨0, [], .slice ao1 u0.length cap2⟩, ⟨1, [], .slice ao4 u1.length cap5⟩, ⟨2, [], .slice ao7 u2.length cap8⟩, ⟨3, [], i6 u3⟩, ⟨9, [], .slice i (playS u0 u1 u2 u3).1.length j⟩, ⟨10, [], i6 (playS u0 u1 u2 u3).2⟩, ⟨11, [], i6 am⟩] a1 → Mem w.heap.size [] w Z [.own tySlot 47 i j (playS u0 u1 u2 u3).1] M w1 → KJ108 a1 w1 := by
  rintro am iA n5 iB dV aP; clear a3 a2
  refine hKJ109 _ _ ?_; clear hKJ109
  have iC := iz am iA
  refine sqB dV aP [] [] [(12, .slice none 0 0)] ?_; intro n6 dW; clear dV
  refine sqB dW aP [] [] [(13, i6 0)] ?_; intro n7 dX; clear dW
  refine wp_seq ?_
  refine sqB dX aP [] [] [(14, i6 0)] ?_; intro bu dY; clear dX
  have dZ : Fr 268 [] [⟨0, [], .slice ao1 u0.length cap2⟩, ⟨1, [], .slice ao4 u1.length cap5⟩, ⟨2, [], .slice ao7 u2.length cap8⟩, ⟨3, [], i6 u3⟩, ⟨9, [], .slice i (playS u0 u1 u2 u3).1.length j⟩, ⟨10, [], i6 (playS u0 u1 u2 u3).2⟩, ⟨11, [], i6 am⟩, ⟨12, [], .slice none 0 0⟩, ⟨13, [], i6 0⟩, ⟨14, [], i6 0⟩] bu := dY.reg; clear dY
  have cw : Fr 268 [] [⟨0, [], .slice ao1 u0.length cap2⟩, ⟨1, [], .slice ao4 u1.length cap5⟩, ⟨2, [], .slice ao7 u2.length cap8⟩, ⟨3, [], i6 u3⟩, ⟨9, [], .slice i (playS u0 u1 u2 u3).1.length j⟩, ⟨10, [], i6 (playS u0 u1 u2 u3).2⟩, ⟨11, [], i6 am⟩, ⟨12, [], .slice none 0 0⟩, ⟨13, [], i6 0⟩, ⟨14, [], i6 0⟩] bu := dZ.reg; clear dZ
  obtain ⟨iD, iE, iF⟩ := iC
  refine wp_then_k fun KJ131 hKJ132 => ?_
  have iG : ∀ (an : Int) (ag : List Ask) (aq : Option Addr) (ar : Nat), iD an ag → ∀ a1 w1, Fr 268 [] [⟨0, [], .slice ao1 u0.length cap2⟩, ⟨9, [], .slice i (playS u0 u1 u2 u3).1.length j⟩, ⟨10, [], i6 (playS u0 u1 u2 u3).2⟩, ⟨11, [], i6 an⟩, ⟨12, [], .slice aq ag.length ar⟩] a1 → Mem w.heap.size [] w Z [.own tyAsk 44 aq ar ag, .own tySlot 47 i j (playS u0 u1 u2 u3).1] M w1 → KJ131 a1 w1 := by
   rintro an ag aq ar iH n8 n9 d0 cx; clear cw aP
   refine hKJ132 _ _ ?_; clear hKJ132
   have bv := iF an ag iH
   refine wp_seq ?_
   refine sqH ?_; intro iI d1
   refine fc d0 cx (played_fun  _ _ cx.fz) ?_; intro oa iJ d2 au; clear d0 cx
   refine bt d2 au 5 [] [145, 146, 147] [(147, .bool (an != 0))] ?_; intro ob a4; clear d2
   refine nlH (d1 _ _ ?_); clear d1 iI
   refine cd a4 (t := an != 0) (by kernel_rfl) (fun cy => ?_) (fun cy => ?_)
   ·
    have iK := bv.1 cy; clear bv
    refine sqH ?_; intro iL d3
    refine fc a4 au (played_fun  _ _ au.fz) ?_; intro oc od d4 d5; clear a4 au
    refine bt d4 d5 11 [] [150, 151, 152, 153] [(8, .bool (((playS u0 u1 u2 u3).2 == an) && (((playS u0 u1 u2 u3).1.length : Int) == 0)))] ?_; intro oe iM; clear d4
    refine nlH (d3 _ _ ?_); clear d3 iL
    refine wp_ret ?_
    refine thr ?_
    refine ra1 iM (.bool (((playS u0 u1 u2 u3).2 == an) && (((playS u0 u1 u2 u3).1.length : Int) == 0))) ?_
    exact ⟨((playS u0 u1 u2 u3).2 == an) && (((playS u0 u1 u2 u3).1.length : Int) == 0), rfl, iK, d5.below⟩
   have iN := bv.2 cy; clear bv
   refine wp_skip ?_
   refine thn ?_
   refine sqB a4 au [] [] [(18, .slice none 0 0)] ?_; intro og d6; clear a4
   refine sqB d6 au [] [] [(19, i6 0)] ?_; intro bw d7; clear d6
   have d8 : Fr 268 [] [⟨0, [], .slice ao1 u0.length cap2⟩, ⟨9, [], .slice i (playS u0 u1 u2 u3).1.length j⟩, ⟨10, [], i6 (playS u0 u1 u2 u3).2⟩, ⟨12, [], .slice aq ag.length ar⟩, ⟨18, [], .slice none 0 0⟩, ⟨19, [], i6 0⟩] bw := d7.reg; clear d7
   have cz : Fr 268 [] [⟨0, [], .slice ao1 u0.length cap2⟩, ⟨9, [], .slice i (playS u0 u1 u2 u3).1.length j⟩, ⟨10, [], i6 (playS u0 u1 u2 u3).2⟩, ⟨12, [], .slice aq ag.length ar⟩, ⟨18, [], .slice none 0 0⟩, ⟨19, [], i6 0⟩] bw := d8.reg; clear d8
   obtain ⟨iO, iP, iQ⟩ := iN
   refine wp_seq_k fun KJ197 hKJ198 => ?_
   have iR : ∀ (U : List Slot) (aD : Option Addr) (aE : Nat) (cA : Fz), iO U ∧ Fz.le M cA → ∀ a1 w1, Fr 268 [] [⟨9, [], .slice i (playS u0 u1 u2 u3).1.length j⟩, ⟨10, [], i6 (playS u0 u1 u2 u3).2⟩, ⟨18, [], .slice aD U.length aE⟩] a1 → Mem w.heap.size [] w Z [.own tySlot 47 aD aE U, .own tySlot 47 i j (playS u0 u1 u2 u3).1] cA w1 → KJ197 a1 w1 := by
    rintro U aD aE cA ⟨iS, av⟩ oh d9 ea iT; clear cz au
    refine hKJ198 _ _ ?_; clear hKJ198
    have iU := iQ U iS
    replace X := Fz.le.trans X av
    have bx := hs3.mono av
    have bz := hs6.mono av
    have bA := hs9.mono av
    have bB := hg3.mono av
    refine sqH ?_; intro iV eb
    refine s1 ea 261 (i6 (playS u0 u1 u2 u3).2) ?_; intro oi ec; clear ea
    refine s1 ec 262 (.bool ((playS u0 u1 u2 u3).2 == 0)) ?_; intro oj ed; clear ec
    refine s1 ed 263 (.bool ((playS u0 u1 u2 u3).2 == 0)) ?_; intro ok ee; clear ed
    have ef := ee.atom (((playS u0 u1 u2 u3).2 == 0) == true) (by kernel_rfl); clear ee
    refine gp ef 264 0 [] ((playS u0 u1 u2 u3).2 == 0) (.slice i (playS u0 u1 u2 u3).1.length j) rfl rfl ?_; intro ol eg; clear ef
    refine gp eg 265 0 [] ((playS u0 u1 u2 u3).2 == 0) (.slice aD U.length aE) rfl rfl ?_; intro om eh; clear eg
    obtain ⟨iW, aQ, ei, cB⟩ := iT.freeze 1 rfl
    replace bx := bx.mono aQ
    replace bz := bz.mono aQ
    replace bA := bA.mono aQ
    replace bB := bB.mono aQ
    replace av := av.mono aQ
    replace X := Fz.le.trans X aQ
    have iX : Mem w.heap.size [] w Z [.own tySlot 47 aD aE U] iW d9 := ei; clear ei
    obtain ⟨iY, aF, ej, iZ⟩ := iX.freeze 0 rfl
    replace bx := bx.mono aF
    replace bz := bz.mono aF
    replace bA := bA.mono aF
    replace bB := bB.mono aF
    replace av := av.mono aF
    replace cB := cB.mono aF
    replace X := Fz.le.trans X aF
    have cC : Mem w.heap.size [] w Z [] iY d9 := ej; clear ej
    refine gcl eh cC (.bool (sleqS (playS u0 u1 u2 u3).1 U)) 15 #[.slice i (playS u0 u1 u2 u3).1.length j, .slice aD U.length aE] (m := 0) (cj := []) (bj := (playS u0 u1 u2 u3).2 == 0) rfl rfl (by kernel_rfl) rfl (by kernel_rfl) (by kernel_rfl) (by kernel_rfl) (fun _ => by kernel_rfl) (fun hg => sleq_fun (playS u0 u1 u2 u3).1 U i j aD aE _ _ cB iZ cC.fz) ?_; intro oo op cD i0; clear eh cC
    refine st cD (.bool (((playS u0 u1 u2 u3).2 == 0) && (sleqS (playS u0 u1 u2 u3).1 U))) (nog rfl _) rfl (by kernel_rfl) (pk_and cD (g := []) (m := 0) (b := (playS u0 u1 u2 u3).2 == 0) (v := (sleqS (playS u0 u1 u2 u3).1 U)) rfl (by kernel_rfl) (by kernel_rfl) (by kernel_rfl) rfl) ?_; intro oq ek; clear cD
    refine s1 ek 8 (.bool (((playS u0 u1 u2 u3).2 == 0) && (sleqS (playS u0 u1 u2 u3).1 U))) ?_; intro or i1; clear ek
    refine nlH (eb _ _ ?_); clear eb iV
    refine wp_ret ?_
    refine ra1 i1 (.bool (((playS u0 u1 u2 u3).2 == 0) && (sleqS (playS u0 u1 u2 u3).1 U))) ?_
    exact ⟨((playS u0 u1 u2 u3).2 == 0) && (sleqS (playS u0 u1 u2 u3).1 U), rfl, iU, i0.below⟩
   have i2 := Fz.le.refl M
   refine wp_block ?_
   have el : Fr 268 [] [⟨0, [], .slice ao1 u0.length cap2⟩, ⟨9, [], .slice i (playS u0 u1 u2 u3).1.length j⟩, ⟨10, [], i6 (playS u0 u1 u2 u3).2⟩, ⟨12, [], .slice aq ag.length ar⟩, ⟨18, [], .slice none 0 0⟩, ⟨19, [], i6 0⟩] bw := cz.reg; clear cz
   have em : Mem w.heap.size [] w Z [.own tySlot 47 none 0 ([] : List Slot), .own tyAsk 44 aq ar ag, .own tySlot 47 i j (playS u0 u1 u2 u3).1] M iJ := au.addNil tySlot 47 (by decide); clear au
   have en : Fr 268 [] [⟨0, [], .slice ao1 u0.length cap2⟩, ⟨9, [], .slice i (playS u0 u1 u2 u3).1.length j⟩, ⟨10, [], i6 (playS u0 u1 u2 u3).2⟩, ⟨12, [], .slice aq ag.length ar⟩, ⟨18, [], .slice none ([] : List Slot).length 0⟩, ⟨19, [], i6 0⟩] bw := el.reg; clear el
   obtain ⟨i3, i4, i5, i7⟩ := iP
   have os := X
   refine lp (ι := (List Ask) × (List Slot) × Int × (Option Addr) × Nat × (Option Addr) × Nat × Fz) (fun s => [⟨0, [], .slice ao1 u0.length cap2⟩, ⟨9, [], .slice i (playS u0 u1 u2 u3).1.length j⟩, ⟨10, [], i6 (playS u0 u1 u2 u3).2⟩, ⟨12, [], .slice s.2.2.2.1 s.1.length s.2.2.2.2.1⟩, ⟨18, [], .slice s.2.2.2.2.2.1 s.2.1.length s.2.2.2.2.2.2.1⟩, ⟨19, [], i6 s.2.2.1⟩]) (fun s => [.own tySlot 47 s.2.2.2.2.2.1 s.2.2.2.2.2.2.1 s.2.1, .own tyAsk 44 s.2.2.2.1 s.2.2.2.2.1 s.1, .own tySlot 47 i j (playS u0 u1 u2 u3).1]) (fun s => s.2.2.2.2.2.2.2) (fun s => i3 s.1 s.2.1 s.2.2.1 ∧ Fz.le M s.2.2.2.2.2.2.2) (fun s => i4 s.1 s.2.1 s.2.2.1) ⟨ag, ([] : List Slot), 0, aq, ar, none, 0, M⟩ ⟨i5, Fz.le.refl _⟩ (by exact en.reg) (by exact em) ?_
   rintro ⟨a, B, q, P, l, D, E, ae⟩ ⟨i8, aw⟩ i9 ja eo ep
   have eq : Fr 268 [] [⟨0, [], .slice ao1 u0.length cap2⟩, ⟨9, [], .slice i (playS u0 u1 u2 u3).1.length j⟩, ⟨10, [], i6 (playS u0 u1 u2 u3).2⟩, ⟨12, [], .slice P a.length l⟩, ⟨18, [], .slice D B.length E⟩, ⟨19, [], i6 q⟩] i9 := eo; clear eo en
   have az : Mem w.heap.size [] w Z [.own tySlot 47 D E B, .own tyAsk 44 P l a, .own tySlot 47 i j (playS u0 u1 u2 u3).1] ae ja := ep; clear ep em
   have bC := i7 a B q i8
   replace X := Fz.le.trans X aw
   have bD := hs3.mono aw
   have er := hs6.mono aw
   have es := hs9.mono aw
   have bE := hg3.mono aw
   have cE := i2.mono aw
   refine wp_seq ?_
   refine sqB eq az [] [] [(161, .bool (decide ((a.length : Int) > 0)))] ?_; intro ot bF; clear eq
   refine cd bF (t := decide ((a.length : Int) > 0)) (by kernel_rfl) (fun cF => ?_) (fun cF => ?_)
   ·
    have jb := bC.1 cF; clear bC
    refine wp_skip ?_
    refine thn ?_
    refine wp_block ?_
    refine sqH ?_; intro jc et
    refine s1 bF 162 (.slice P a.length l) ?_; intro ou eu; clear bF
    obtain ⟨jd, ev⟩ := jb
    refine ixo eu az 1 (T := tyAsk) (xs := a) (0 : Int) jd (k := .i64) (e := 44) (bytes := 24) (nog rfl _) rfl (by kernel_rfl) rfl (by kernel_rfl) (by kernel_rfl) rfl (by kernel_rfl) ?_; intro p ov je ew; clear eu
    subst je
    refine s1 ew 164 (.pointer (some ⟨p, (0 : Int).toNat * 3 + 2, none⟩)) ?_; intro ow ex; clear ew
    obtain ⟨aj, jf, jg⟩ := gxq ev (by first | omega | (simp only [List.length_set] at *; omega)); clear ev
    obtain ⟨jh, ji, jj⟩ := own_el az 1 (T := tyAsk) (xs := a) rfl (0 : Int).toNat jf
    obtain rfl : jh = ((e44Sc aj) : List Value) := ji
    refine lc1 ex 165 (i6 aj.at_) (jj 2 _ rfl) rfl ?_; intro ox ey; clear ex
    refine s1 ey 20 (i6 aj.at_) ?_; intro oy ez; clear ey
    refine nlH (et _ _ ?_); clear et jc
    refine wp_seq ?_
    refine sqB ez az [] [] [(166, .slice (sm p) a.length l), (167, i6 (a.length : Int)), (168, i6 0)] ?_; intro bG eA; clear ez
    have eB : Fr 268 [] [⟨0, [], .slice ao1 u0.length cap2⟩, ⟨9, [], .slice i (playS u0 u1 u2 u3).1.length j⟩, ⟨10, [], i6 (playS u0 u1 u2 u3).2⟩, ⟨12, [], .slice (sm p) a.length l⟩, ⟨18, [], .slice D B.length E⟩, ⟨19, [], i6 q⟩, ⟨20, [], i6 aj.at_⟩, ⟨166, [], .slice (sm p) a.length l⟩, ⟨167, [], i6 (a.length : Int)⟩, ⟨168, [], i6 0⟩] bG := eA.reg; clear eA
    have cG : Fr 268 [] [⟨0, [], .slice ao1 u0.length cap2⟩, ⟨9, [], .slice i (playS u0 u1 u2 u3).1.length j⟩, ⟨10, [], i6 (playS u0 u1 u2 u3).2⟩, ⟨12, [], .slice (sm p) a.length l⟩, ⟨18, [], .slice D B.length E⟩, ⟨19, [], i6 q⟩, ⟨20, [], i6 aj.at_⟩, ⟨166, [], .slice (sm p) a.length l⟩, ⟨167, [], i6 (a.length : Int)⟩, ⟨168, [], i6 0⟩] bG := eB.reg; clear eB
    obtain ⟨jk, jl, jm⟩ := jg
    refine wp_then_k fun KJ303 hKJ304 => ?_
    have jn : ∀ (y : Int), jk y → ∀ a1 w1, Fr 268 [] [⟨0, [], .slice ao1 u0.length cap2⟩, ⟨9, [], .slice i (playS u0 u1 u2 u3).1.length j⟩, ⟨10, [], i6 (playS u0 u1 u2 u3).2⟩, ⟨12, [], .slice (sm p) a.length l⟩, ⟨18, [], .slice D B.length E⟩, ⟨19, [], i6 q⟩, ⟨20, [], i6 y⟩] a1 → Mem w.heap.size [] w Z [.own tySlot 47 D E B, .own tyAsk 44 (sm p) l a, .own tySlot 47 i j (playS u0 u1 u2 u3).1] ae w1 → KJ303 a1 w1 := by
     rintro y jo oz oA eC aR; clear cG az
     refine hKJ304 _ _ ?_; clear hKJ304
     have jp := jm y jo
     refine sqB eC aR [] [] [(19, i6 (max q y))] ?_; intro oB eD; clear eC
     refine sqB eD aR [] [] [(23, i6 (-1))] ?_; intro oC eE; clear eD
     refine wp_seq ?_
     refine sqB eE aR [] [] [(180, .slice (sm p) a.length l), (181, i6 (a.length : Int)), (182, i6 0)] ?_; intro bH eF; clear eE
     have eG : Fr 268 [] [⟨0, [], .slice ao1 u0.length cap2⟩, ⟨9, [], .slice i (playS u0 u1 u2 u3).1.length j⟩, ⟨10, [], i6 (playS u0 u1 u2 u3).2⟩, ⟨12, [], .slice (sm p) a.length l⟩, ⟨18, [], .slice D B.length E⟩, ⟨19, [], i6 (max q y)⟩, ⟨23, [], i6 (-1)⟩, ⟨180, [], .slice (sm p) a.length l⟩, ⟨181, [], i6 (a.length : Int)⟩, ⟨182, [], i6 0⟩] bH := eF.reg; clear eF
     have cH : Fr 268 [] [⟨0, [], .slice ao1 u0.length cap2⟩, ⟨9, [], .slice i (playS u0 u1 u2 u3).1.length j⟩, ⟨10, [], i6 (playS u0 u1 u2 u3).2⟩, ⟨12, [], .slice (sm p) a.length l⟩, ⟨18, [], .slice D B.length E⟩, ⟨19, [], i6 (max q y)⟩, ⟨23, [], i6 (-1)⟩, ⟨180, [], .slice (sm p) a.length l⟩, ⟨181, [], i6 (a.length : Int)⟩, ⟨182, [], i6 0⟩] bH := eG.reg; clear eG
     obtain ⟨jq, jr, js⟩ := jp
     refine wp_then_k fun KJ336 hKJ337 => ?_
     have jt : ∀ (N : Int), jq N → ∀ a1 w1, Fr 268 [] [⟨0, [], .slice ao1 u0.length cap2⟩, ⟨9, [], .slice i (playS u0 u1 u2 u3).1.length j⟩, ⟨10, [], i6 (playS u0 u1 u2 u3).2⟩, ⟨12, [], .slice (sm p) a.length l⟩, ⟨18, [], .slice D B.length E⟩, ⟨19, [], i6 (max q y)⟩, ⟨23, [], i6 N⟩] a1 → Mem w.heap.size [] w Z [.own tySlot 47 D E B, .own tyAsk 44 (sm p) l a, .own tySlot 47 i j (playS u0 u1 u2 u3).1] ae w1 → KJ336 a1 w1 := by
      rintro N ju oD oE eH a5; clear cH aR
      refine hKJ337 _ _ ?_; clear hKJ337
      have jv := js N ju
      refine sqH ?_; intro jw eI
      refine bt eH a5 2 [] [] [(227, .slice (sm p) a.length l), (228, i6 N)] ?_; intro oF eJ; clear eH
      obtain ⟨jx, eK⟩ := jv
      refine ixo eJ a5 1 (T := tyAsk) (xs := a) N jx (k := .i64) (e := 44) (bytes := 24) (nog rfl _) rfl (by kernel_rfl) rfl (by kernel_rfl) (by kernel_rfl) rfl (by kernel_rfl) ?_; intro jy oG jz eL; clear eJ
      obtain rfl : p = jy := by simpa using jz
      obtain ⟨u, jA, jB⟩ := gxq eK (by first | omega | (simp only [List.length_set] at *; omega)); clear eK
      obtain ⟨jC, jD, jE⟩ := own_el a5 1 (T := tyAsk) (xs := a) rfl N.toNat jA
      obtain rfl : jC = ((e44Sc u) : List Value) := jD
      refine lc2 eL 230 3 (e44Sc u) jE rfl ?_; intro oH eM; clear eL
      refine nw eM a5 pb [i6 0, i6 0, i6 0] 44 ?_; intro a6 oI oJ cI eN; clear eM a5
      refine sx cI eN 0 (e44Sc u) 0 ?_; intro jF eO; clear eN
      have bI : Mem w.heap.size [] w Z [.row a6 (e44Sc u) 44, .own tySlot 47 D E B, .own tyAsk 44 (sm p) l a, .own tySlot 47 i j (playS u0 u1 u2 u3).1] ae jF := eO; clear eO
      refine nlH (eI _ _ ?_); clear eI jw
      refine sqH ?_; intro jG eP
      refine bt cI bI 4 [] [] [(231, .slice (sm p) a.length l), (232, i6 N), (234, i6 (w64 (N + 1)))] ?_; intro oK eQ; clear cI
      obtain ⟨jH, eR⟩ := jB
      refine ck eQ 14 #[.slice (sm p) a.length l, i6 N, i6 (w64 (N + 1))] ?_
      refine (adel_fun a N (w64 (N + 1)) jH (sm p) l _ _ _ _ _ _ (bI.perm (pk 2 rfl)) bI.fz).mono ?_; rintro _ jI ⟨a7, a8, bJ, rfl, aG, hm⟩; refine ⟨_, rfl, ?_⟩; intro oL eT; have eU := hm; clear hm bI eQ
      replace bD := bD.mono aG
      replace er := er.mono aG
      replace es := es.mono aG
      replace bE := bE.mono aG
      replace cE := cE.mono aG
      replace aw := aw.mono aG
      replace X := Fz.le.trans X aG
      have cJ : Mem w.heap.size [] w Z [.own tyAsk 44 a7 a8 (adelS a N (w64 (N + 1))), .row a6 (e44Sc u) 44, .own tySlot 47 D E B, .own tySlot 47 i j (playS u0 u1 u2 u3).1] bJ jI := eU; clear eU
      have jJ := eR (cJ.ownSmall 0 rfl); clear eR
      refine s1 eT 12 (.slice a7 (adelS a N (w64 (N + 1))).length a8) ?_; intro jK eV; clear eT
      refine nlH (eP _ _ ?_); clear eP jG
      have eW : Fr 268 [] [⟨0, [], .slice ao1 u0.length cap2⟩, ⟨9, [], .slice i (playS u0 u1 u2 u3).1.length j⟩, ⟨10, [], i6 (playS u0 u1 u2 u3).2⟩, ⟨12, [], .slice a7 (adelS a N (w64 (N + 1))).length a8⟩, ⟨18, [], .slice D B.length E⟩, ⟨19, [], i6 (max q y)⟩, ⟨26, [], pt a6 0⟩] jK := eV.reg; clear eV
      refine wp_seq (rgS mixed cJ [(0, true), (1, true), (2, true), (3, true), (4, true), (5, true), (6, true), (7, true), (8, true), (9, true), (10, true), (11, true), (12, false), (13, true), (14, true), (15, false), (16, false), (17, true)] [] [1] [.row a6 (e44Sc u) 44] ?_)
      intro jL eX oM cK; clear cJ
      have cL := Fz.le.refl bJ
      refine cS eW 10 [0, 0, 0] [] [(236, .slice D B.length E), (238, i6 u.task), (240, i6 u.due), (241, i6 (max q y)), (242, i6 (max q y)), (243, .slice ao1 u0.length cap2), (245, i6 u.task)] ?_; intro oN eY; clear eW
      obtain ⟨jM, eZ⟩ := jJ
      refine cix rfl eY (T := tyTask) (xs := u0) bD u.task jM (k := .i64) (e := 32) (bytes := 40) (nog rfl _) rfl (by kernel_rfl) rfl (by kernel_rfl) (by kernel_rfl) (by kernel_rfl) ?_; intro oO oP jN J oQ jO jP jQ cM; clear eY
      have jR := eZ J jO; clear eZ
      obtain rfl : jN = ((e32Sc J) : List Value) := jQ
      refine cst rfl cM (.agg (e32Sc J).toArray) (nog rfl _) rfl (by kernel_rfl) (fun v433 hC => lza cM hC.fz jP 0 (g := []) (m := 5) (vs := (e32Sc J)) rfl (by kernel_rfl) (by kernel_rfl) (by kernel_rfl) (by kernel_rfl) rfl) ?_; intro oR e0; clear cM
      refine eS rfl ?_; intro jS e1
      obtain ⟨jT, jU⟩ := jR
      refine fc e0 cK (ltakes_fun J jT _ _ bE cK.fz) ?_; intro oS oT e2 cN; clear e0 cK
      refine nl (qnI (e1 _ _ (cN.cst cL [1]) ?_)); clear e1 jS
      refine cS e2 2 [] [] [(250, .agg #[i6 u.task, i6 u.due, i6 (max q y), i6 (w64 ((max q y) + (ltakesS J)))])] ?_; intro oU e3; clear e2
      refine eS rfl ?_; intro jV e4
      refine nw e3 cN (fun b => .slice (sm b) 1 1) [i6 u.task, i6 u.due, i6 (max q y), i6 (w64 ((max q y) + (ltakesS J)))] 47 ?_; intro e5 oV oW e6 bK; clear e3 cN
      refine nl (qnI (e4 _ _ (bK.cst cL [2]) ?_)); clear e4 jV
      refine eS rfl ?_; intro jW e7
      obtain ⟨jX, jY⟩ := jU
      refine ap e6 bK 3 (T := tySlot) (xs := B) (ys := [(⟨u.task, u.due, max q y, w64 ((max q y) + (ltakesS J))⟩ : Slot)]) (ao := D) (cap := E) (ao2 := (sm e5)) (cap2 := 1) (t := 39) (e := 47) (bytes := 32) (nog rfl _) rfl (by kernel_rfl) rfl (by kernel_rfl) (by kernel_rfl) (by kernel_rfl) rfl (Src.row bK 0 rfl (RepAll.one (T := tySlot) (x := (⟨u.task, u.due, max q y, w64 ((max q y) + (ltakesS J))⟩ : Slot)) rfl)) jX ?_; intro cO cP oX jZ oY e8 e9; clear e6 bK
      have aS : Mem w.heap.size [] w Z [.row e5 [i6 u.task, i6 u.due, i6 (max q y), i6 (w64 ((max q y) + (ltakesS J)))] 47, .own tyAsk 44 a7 a8 (adelS a N (w64 (N + 1))), .row a6 (e44Sc u) 44, .own tySlot 47 cO cP (B ++ [(⟨u.task, u.due, max q y, w64 ((max q y) + (ltakesS J))⟩ : Slot)]), .own tySlot 47 i j (playS u0 u1 u2 u3).1] bJ jZ := e9; clear e9
      refine nl (qnI (e7 _ _ (aS.cst cL [2]) ?_)); clear e7 jW
      refine cS e8 1 [] [] [(18, .slice cO (B ++ [(⟨u.task, u.due, max q y, w64 ((max q y) + (ltakesS J))⟩ : Slot)]).length cP)] ?_; intro oZ fa; clear e8
      refine nS (eX _ _ ?_); clear eX jL
      refine thn ?_
      refine rgH ?_; intro j0 fb
      refine bt fa aS 4 [2] [] [(253, i6 (max q y)), (254, .slice ao1 u0.length cap2), (256, i6 u.task)] ?_; intro o0 fd; clear fa
      obtain ⟨j1, fe⟩ := jY
      refine ix fd (T := tyTask) (xs := u0) bD u.task j1 (k := .i64) (e := 32) (bytes := 40) (nog rfl _) rfl (by kernel_rfl) rfl (by kernel_rfl) (by kernel_rfl) (by kernel_rfl) ?_; intro o1 o2 j2 V o3 j3 j4 j5 ff; clear fd
      have j6 := fe V j3; clear fe
      obtain rfl : j2 = ((e32Sc V) : List Value) := j5
      refine z2 ff aS 258 j4 0 5 (e32Sc V) rfl ?_; intro o4 fg; clear ff
      obtain ⟨j7, fh⟩ := j6
      refine fc fg aS (ltakes_fun V j7 _ _ bE aS.fz) ?_; intro o5 o6 fi fj; clear fg aS
      refine bt fi fj 2 [] [] [(19, i6 (w64 ((max q y) + (ltakesS V))))] ?_; intro o7 j8; clear fi
      refine nlH (fb _ _ ?_); clear fb j0
      refine ibn ?_
      refine rd ?_
      have j9 := fj.perm ((pk 3 rfl).trans (((pk 1 rfl).trans (((pk 2 rfl).trans (lpr.cons _)).cons _)).cons _))
      exact ⟨⟨(adelS a N (w64 (N + 1))), B ++ [(⟨u.task, u.due, max q y, w64 ((max q y) + (ltakesS J))⟩ : Slot)], w64 ((max q y) + (ltakesS V)), a7, a8, cO, cP, bJ⟩, ⟨fh.1, aw⟩, fh.2, (j8.reg).anyβ _ (by kernel_rfl), j9.keep (List.Sublist.cons_cons _ (List.Sublist.cons_cons _ (List.Sublist.cons_cons _ (List.Sublist.cons _ (List.Sublist.cons _ (List.Sublist.slnil))))))⟩
     refine wp_block ?_
     have fk : Fr 268 [] [⟨0, [], .slice ao1 u0.length cap2⟩, ⟨9, [], .slice i (playS u0 u1 u2 u3).1.length j⟩, ⟨10, [], i6 (playS u0 u1 u2 u3).2⟩, ⟨12, [], .slice (sm p) a.length l⟩, ⟨18, [], .slice D B.length E⟩, ⟨19, [], i6 (max q y)⟩, ⟨23, [], i6 (-1)⟩, ⟨180, [], .slice (sm p) a.length l⟩, ⟨181, [], i6 (a.length : Int)⟩, ⟨182, [], i6 0⟩] bH := cH.reg; clear cH
     have fl : Fr 268 [] [⟨0, [], .slice ao1 u0.length cap2⟩, ⟨9, [], .slice i (playS u0 u1 u2 u3).1.length j⟩, ⟨10, [], i6 (playS u0 u1 u2 u3).2⟩, ⟨12, [], .slice (sm p) a.length l⟩, ⟨18, [], .slice D B.length E⟩, ⟨19, [], i6 (max q y)⟩, ⟨23, [], i6 (-1)⟩, ⟨180, [], .slice (sm p) a.length l⟩, ⟨181, [], i6 (a.length : Int)⟩, ⟨182, [], i6 0⟩] bH := fk.reg; clear fk
     obtain ⟨ka, kb, kc, kd⟩ := jr
     refine lp (ι := Int × Int) (fun s => [⟨0, [], .slice ao1 u0.length cap2⟩, ⟨9, [], .slice i (playS u0 u1 u2 u3).1.length j⟩, ⟨10, [], i6 (playS u0 u1 u2 u3).2⟩, ⟨12, [], .slice (sm p) a.length l⟩, ⟨18, [], .slice D B.length E⟩, ⟨19, [], i6 (max q y)⟩, ⟨23, [], i6 s.1⟩, ⟨180, [], .slice (sm p) a.length l⟩, ⟨181, [], i6 (a.length : Int)⟩, ⟨182, [], i6 s.2⟩]) (fun s => [.own tySlot 47 D E B, .own tyAsk 44 (sm p) l a, .own tySlot 47 i j (playS u0 u1 u2 u3).1]) (fun s => ae) (fun s => ka s.1 s.2) (fun s => kb s.1 s.2) ⟨-1, 0⟩ kc (by exact fl.reg) (by exact aR) ?_
     rintro ⟨L, O⟩ ke kf kg fm fn
     have fo : Fr 268 [] [⟨0, [], .slice ao1 u0.length cap2⟩, ⟨9, [], .slice i (playS u0 u1 u2 u3).1.length j⟩, ⟨10, [], i6 (playS u0 u1 u2 u3).2⟩, ⟨12, [], .slice (sm p) a.length l⟩, ⟨18, [], .slice D B.length E⟩, ⟨19, [], i6 (max q y)⟩, ⟨23, [], i6 L⟩, ⟨180, [], .slice (sm p) a.length l⟩, ⟨181, [], i6 (a.length : Int)⟩, ⟨182, [], i6 O⟩] kf := fm; clear fm fl
     have aH : Mem w.heap.size [] w Z [.own tySlot 47 D E B, .own tyAsk 44 (sm p) l a, .own tySlot 47 i j (playS u0 u1 u2 u3).1] ae kg := fn; clear fn aR
     have bL := kd L O ke
     refine sqB fo aH [] [] [(183, .bool (decide (O < (a.length : Int))))] ?_; intro fp bM; clear fo
     refine wp_seq ?_
     refine cd bM (t := decide (O < (a.length : Int))) (by kernel_rfl) (fun cQ => ?_) (fun cQ => ?_)
     ·
      have kh := bL.1 cQ; clear bL
      refine wp_skip ?_
      refine thn ?_
      have fq : Fr 268 [] [⟨0, [], .slice ao1 u0.length cap2⟩, ⟨9, [], .slice i (playS u0 u1 u2 u3).1.length j⟩, ⟨10, [], i6 (playS u0 u1 u2 u3).2⟩, ⟨12, [], .slice (sm p) a.length l⟩, ⟨18, [], .slice D B.length E⟩, ⟨19, [], i6 (max q y)⟩, ⟨23, [], i6 L⟩, ⟨180, [], .slice (sm p) a.length l⟩, ⟨181, [], i6 (a.length : Int)⟩, ⟨182, [], i6 O⟩] fp := bM.reg; clear bM
      have cR : Fr 268 [] [⟨0, [], .slice ao1 u0.length cap2⟩, ⟨9, [], .slice i (playS u0 u1 u2 u3).1.length j⟩, ⟨10, [], i6 (playS u0 u1 u2 u3).2⟩, ⟨12, [], .slice (sm p) a.length l⟩, ⟨18, [], .slice D B.length E⟩, ⟨19, [], i6 (max q y)⟩, ⟨23, [], i6 L⟩, ⟨180, [], .slice (sm p) a.length l⟩, ⟨181, [], i6 (a.length : Int)⟩, ⟨182, [], i6 O⟩] fp := fq.reg; clear fq
      obtain ⟨ki, kj, kk⟩ := kh
      refine wp_seq_k fun KJ524 hKJ525 => ?_
      have aT : ∀ (a9 : Int), ki a9 → ∀ a1 w1, Fr 268 [] [⟨0, [], .slice ao1 u0.length cap2⟩, ⟨9, [], .slice i (playS u0 u1 u2 u3).1.length j⟩, ⟨10, [], i6 (playS u0 u1 u2 u3).2⟩, ⟨12, [], .slice (sm p) a.length l⟩, ⟨18, [], .slice D B.length E⟩, ⟨19, [], i6 (max q y)⟩, ⟨23, [], i6 a9⟩, ⟨180, [], .slice (sm p) a.length l⟩, ⟨181, [], i6 (a.length : Int)⟩, ⟨182, [], i6 O⟩] a1 → Mem w.heap.size [] w Z [.own tySlot 47 D E B, .own tyAsk 44 (sm p) l a, .own tySlot 47 i j (playS u0 u1 u2 u3).1] ae w1 → KJ524 a1 w1 := by
       rintro a9 kl o8 o9 fr fs; clear cR aH
       refine hKJ525 _ _ ?_; clear hKJ525
       have ft := kk a9 kl
       refine rgB fr fs [] [] [(182, i6 (w64 (O + 1)))] ?_; intro pa km; clear fr
       refine rd ?_
       exact ⟨⟨a9, w64 (O + 1)⟩, ft.1, ft.2, (km.reg).anyβ _ (by kernel_rfl), fs.keep (List.Sublist.cons_cons _ (List.Sublist.cons_cons _ (List.Sublist.cons_cons _ (List.Sublist.slnil))))⟩
      refine wp_block ?_
      refine sqH ?_; intro kn fu
      refine s1 cR 184 (i6 O) ?_; intro pc fv; clear cR
      obtain ⟨ko, fw⟩ := kj
      refine ixo fv aH 1 (T := tyAsk) (xs := a) O ko (k := .i64) (e := 44) (bytes := 24) (nog rfl _) rfl (by kernel_rfl) rfl (by kernel_rfl) (by kernel_rfl) rfl (by kernel_rfl) ?_; intro kp pd kq fx; clear fv
      obtain rfl : p = kp := by simpa using kq
      obtain ⟨F, kr, bN⟩ := gxq fw (by first | omega | (simp only [List.length_set] at *; omega)); clear fw
      obtain ⟨ks, kt, ku⟩ := own_el aH 1 (T := tyAsk) (xs := a) rfl O.toNat kr
      obtain rfl : ks = ((e44Sc F) : List Value) := kt
      refine lc2 fx 186 3 (e44Sc F) ku rfl ?_; intro pe fy; clear fx
      refine nw fy aH pb [i6 0, i6 0, i6 0] 44 ?_; intro cT pf pg fA fB; clear fy aH
      refine s1 fA 24 (i6 O) ?_; intro kv cU; clear fA
      refine sx cU fB 0 (e44Sc F) 0 ?_; intro kw fC; clear fB
      have fD : Mem w.heap.size [] w Z [.row cT (e44Sc F) 44, .own tySlot 47 D E B, .own tyAsk 44 (sm p) l a, .own tySlot 47 i j (playS u0 u1 u2 u3).1] ae kw := fC; clear fC
      refine nlH (fu _ _ ?_); clear fu kn
      have fE : Fr 268 [] [⟨0, [], .slice ao1 u0.length cap2⟩, ⟨9, [], .slice i (playS u0 u1 u2 u3).1.length j⟩, ⟨10, [], i6 (playS u0 u1 u2 u3).2⟩, ⟨12, [], .slice (sm p) a.length l⟩, ⟨18, [], .slice D B.length E⟩, ⟨19, [], i6 (max q y)⟩, ⟨23, [], i6 L⟩, ⟨24, [], i6 O⟩, ⟨25, [], pt cT 0⟩, ⟨180, [], .slice (sm p) a.length l⟩, ⟨181, [], i6 (a.length : Int)⟩, ⟨182, [], i6 O⟩] kv := cU.reg; clear cU
      refine wp_seq (rgS mixed fD [(0, true), (1, true), (2, true), (3, true), (4, true), (5, true), (6, true), (7, true), (8, true), (9, true), (10, true), (11, true), (12, true), (13, true), (14, true), (15, true), (16, true), (17, true), (18, true), (19, true), (20, true), (21, true), (22, true), (23, true), (24, true), (25, true), (26, true), (27, true), (28, true), (29, true), (30, true), (31, true), (32, true), (33, true), (34, true), (35, true), (36, true), (37, true)] [] [0, 2] [.row cT (e44Sc F) 44, .own tyAsk 44 (sm p) l a] ?_)
      intro ba ak ph af; clear fD
      refine cS fE 5 [0] [] [(191, .bool (decide (F.at_ ≤ (max q y))))] ?_; intro pi bO; clear fE
      rcases Bool.eq_false_or_eq_true (decide (F.at_ ≤ (max q y))) with bb | bb
      ·
       have bP := bN.1 bb; clear bN
       have fF := bO.reval (d := 191) (c := []) (v := .bool (decide (F.at_ ≤ (max q y)))) (by kernel_rfl) (.bool true) (by rw [bb]); clear bO
       refine cS fF 3 [] [192, 193, 194] [(194, .bool (decide (L < 0)))] ?_; intro pj bQ; clear fF
       rcases Bool.eq_false_or_eq_true (decide (L < 0)) with bc | bc
       ·
        have kx := bP.1 bc; clear bP
        have fG := bQ.reval (d := 194) (c := []) (v := .bool (decide (L < 0))) (by kernel_rfl) (.bool true) (by rw [bc]); clear bQ
        refine cS fG 30 [] [195, 196, 197, 198, 199, 200, 201, 202, 203, 204, 205, 206, 207, 208, 209, 210, 211, 212, 213, 214, 215, 216, 217, 218, 219, 220, 221, 222, 223, 224] [(224, .bool true)] ?_; intro pl cV; clear fG
        refine nS (ak _ _ ?_); clear ak ba
        refine thn ?_
        refine cdT cV (by kernel_rfl) ?_
        refine rgB cV af [] [] [(23, i6 O)] ?_; intro pm ky; clear cV
        refine ibn ?_
        refine rd ?_
        exact aT O kx _ _ ((ky.reg).anyβ _ (by kernel_rfl)) (af.keep (List.Sublist.cons _ (List.Sublist.cons_cons _ (List.Sublist.cons_cons _ (List.Sublist.cons_cons _ (List.Sublist.slnil))))))
       have kz := bP.2 bc; clear bP
       have fH := bQ.reval (d := 194) (c := []) (v := .bool (decide (L < 0))) (by kernel_rfl) (.bool false) (by rw [bc]); clear bQ
       refine cS fH 4 [0] [195, 196, 197, 198] [(196, i6 F.task), (197, .slice (sm p) a.length l), (198, i6 L)] ?_; intro pn cW; clear fH
       obtain ⟨kA, fI⟩ := kz
       refine cixo rfl cW af 2 (T := tyAsk) (xs := a) L kA (k := .i64) (e := 44) (bytes := 24) (by rw [wanted_of cW (b := false) rfl rfl (by kernel_rfl) (by kernel_rfl)]; rfl) rfl (by kernel_rfl) rfl (by kernel_rfl) (by kernel_rfl) rfl (by kernel_rfl) ?_; intro kB po kC fJ; clear cW
       obtain rfl : p = kB := by simpa using kC
       refine cS fJ 1 [] [200] [(200, .pointer (some ⟨p, L.toNat * 3 + 0, none⟩))] ?_; intro pp cX; clear fJ
       obtain ⟨aA, kD, bR⟩ := gxq fI (by first | omega | (simp only [List.length_set] at *; omega)); clear fI
       refine clo1 rfl cX 1 (T := tyAsk) (xs := a) rfl L.toNat 0 kD (e44Sc aA) (fun _ h => h) (i6 aA.task) rfl (by rw [wanted_of cX (b := false) rfl rfl (by kernel_rfl) (by kernel_rfl)]; rfl) rfl (by kernel_rfl) rfl (by kernel_rfl) (by kernel_rfl) ?_; intro pq fK; clear cX
       refine cS fK 3 [] [202, 203, 204] [(204, .bool (decide (F.task < aA.task)))] ?_; intro pr bS; clear fK
       rcases Bool.eq_false_or_eq_true (decide (F.task < aA.task)) with bd | bd
       ·
        have kE := bR.1 bd; clear bR
        have fL := bS.reval (d := 204) (c := []) (v := .bool (decide (F.task < aA.task))) (by kernel_rfl) (.bool true) (by rw [bd]); clear bS
        refine cS fL 20 [] [205, 206, 207, 208, 209, 210, 211, 212, 213, 214, 215, 216, 217, 218, 219, 220, 221, 222, 223, 224] [(224, .bool true)] ?_; intro ps cY; clear fL
        refine nS (ak _ _ ?_); clear ak ba
        refine thn ?_
        refine cdT cY (by kernel_rfl) ?_
        refine rgB cY af [] [] [(23, i6 O)] ?_; intro pu kF; clear cY
        refine ibn ?_
        refine rd ?_
        exact aT O kE _ _ ((kF.reg).anyβ _ (by kernel_rfl)) (af.keep (List.Sublist.cons _ (List.Sublist.cons_cons _ (List.Sublist.cons_cons _ (List.Sublist.cons_cons _ (List.Sublist.slnil))))))
       have kG := bR.2 bd; clear bR
       have fM := bS.reval (d := 204) (c := []) (v := .bool (decide (F.task < aA.task))) (by kernel_rfl) (.bool false) (by rw [bd]); clear bS
       refine cS fM 4 [0] [205, 206, 207, 208] [(206, i6 F.task), (207, .slice (sm p) a.length l), (208, i6 L)] ?_; intro pv cZ; clear fM
       obtain ⟨kH, fN⟩ := kG
       refine cixo rfl cZ af 2 (T := tyAsk) (xs := a) L kH (k := .i64) (e := 44) (bytes := 24) (by rw [wanted_of cZ (b := false) rfl rfl (by kernel_rfl) (by kernel_rfl)]; rfl) rfl (by kernel_rfl) rfl (by kernel_rfl) (by kernel_rfl) rfl (by kernel_rfl) ?_; intro kI pw kJ fO; clear cZ
       obtain rfl : p = kI := by simpa using kJ
       refine cS fO 1 [] [210] [(210, .pointer (some ⟨p, L.toNat * 3 + 0, none⟩))] ?_; intro px c0; clear fO
       obtain ⟨aB, kK, bT⟩ := gxq fN (by first | omega | (simp only [List.length_set] at *; omega)); clear fN
       refine clo1 rfl c0 1 (T := tyAsk) (xs := a) rfl L.toNat 0 kK (e44Sc aB) (fun _ h => h) (i6 aB.task) rfl (by rw [wanted_of c0 (b := false) rfl rfl (by kernel_rfl) (by kernel_rfl)]; rfl) rfl (by kernel_rfl) rfl (by kernel_rfl) (by kernel_rfl) ?_; intro py fP; clear c0
       refine cS fP 2 [] [212, 213] [(213, .bool (F.task == aB.task))] ?_; intro pz bU; clear fP
       rcases Bool.eq_false_or_eq_true (F.task == aB.task) with be | be
       ·
        have kL := bT.1 be; clear bT
        have fQ := bU.reval (d := 213) (c := []) (v := .bool (F.task == aB.task)) (by kernel_rfl) (.bool true) (by rw [be]); clear bU
        refine cS fQ 4 [0] [214, 215, 216, 217] [(215, i6 F.due), (216, .slice (sm p) a.length l), (217, i6 L)] ?_; intro pA c1; clear fQ
        obtain ⟨kM, fR⟩ := kL
        refine cixo rfl c1 af 2 (T := tyAsk) (xs := a) L kM (k := .i64) (e := 44) (bytes := 24) (by rw [wanted_of c1 (b := true) rfl rfl (by kernel_rfl) (by kernel_rfl)]; rfl) rfl (by kernel_rfl) rfl (by kernel_rfl) (by kernel_rfl) rfl (by kernel_rfl) ?_; intro kN pB kO fS; clear c1
        obtain rfl : p = kN := by simpa using kO
        refine cS fS 1 [] [219] [(219, .pointer (some ⟨p, L.toNat * 3 + 1, none⟩))] ?_; intro pC c2; clear fS
        obtain ⟨aU, kP, bV⟩ := gxq fR (by first | omega | (simp only [List.length_set] at *; omega)); clear fR
        refine clo1 rfl c2 1 (T := tyAsk) (xs := a) rfl L.toNat 1 kP (e44Sc aU) (fun _ h => h) (i6 aU.due) rfl (by rw [wanted_of c2 (b := true) rfl rfl (by kernel_rfl) (by kernel_rfl)]; rfl) rfl (by kernel_rfl) rfl (by kernel_rfl) (by kernel_rfl) ?_; intro pD fT; clear c2
        refine cS fT 4 [] [221, 222, 223, 224] [(224, .bool (decide (F.due < aU.due)))] ?_; intro pE bW; clear fT
        refine nS (ak _ _ ?_); clear ak ba
        refine thn ?_
        refine cd bW (t := decide (F.due < aU.due)) (by kernel_rfl) (fun c3 => ?_) (fun c3 => ?_)
        ·
         have kQ := bV.1 c3; clear bV
         refine rgB bW af [] [] [(23, i6 O)] ?_; intro pF kR; clear bW
         refine ibn ?_
         refine rd ?_
         exact aT O kQ _ _ ((kR.reg).anyβ _ (by kernel_rfl)) (af.keep (List.Sublist.cons _ (List.Sublist.cons_cons _ (List.Sublist.cons_cons _ (List.Sublist.cons_cons _ (List.Sublist.slnil))))))
        have kS := bV.2 c3; clear bV
        refine wp_skip ?_
        refine ibn ?_
        refine rd ?_
        exact aT L kS _ _ ((bW.reg).anyβ _ (by kernel_rfl)) (af.keep (List.Sublist.cons _ (List.Sublist.cons_cons _ (List.Sublist.cons_cons _ (List.Sublist.cons_cons _ (List.Sublist.slnil))))))
       have kT := bT.2 be; clear bT
       have fU := bU.reval (d := 213) (c := []) (v := .bool (F.task == aB.task)) (by kernel_rfl) (.bool false) (by rw [be]); clear bU
       refine cS fU 11 [] [214, 215, 216, 217, 218, 219, 220, 221, 222, 223, 224] [(224, .bool false)] ?_; intro pG fV; clear fU
       refine nS (ak _ _ ?_); clear ak ba
       refine thn ?_
       refine cdF fV (by kernel_rfl) ?_
       refine wp_skip ?_
       refine ibn ?_
       refine rd ?_
       exact aT L kT _ _ ((fV.reg).anyβ _ (by kernel_rfl)) (af.keep (List.Sublist.cons _ (List.Sublist.cons_cons _ (List.Sublist.cons_cons _ (List.Sublist.cons_cons _ (List.Sublist.slnil))))))
      have kU := bN.2 bb; clear bN
      have fW := bO.reval (d := 191) (c := []) (v := .bool (decide (F.at_ ≤ (max q y)))) (by kernel_rfl) (.bool false) (by rw [bb]); clear bO
      refine cS fW 33 [] [192, 193, 194, 195, 196, 197, 198, 199, 200, 201, 202, 203, 204, 205, 206, 207, 208, 209, 210, 211, 212, 213, 214, 215, 216, 217, 218, 219, 220, 221, 222, 223, 224] [(224, .bool false)] ?_; intro pH fX; clear fW
      refine nS (ak _ _ ?_); clear ak ba
      refine thn ?_
      refine cdF fX (by kernel_rfl) ?_
      refine wp_skip ?_
      refine ibn ?_
      refine rd ?_
      exact aT L kU _ _ ((fX.reg).anyβ _ (by kernel_rfl)) (af.keep (List.Sublist.cons _ (List.Sublist.cons_cons _ (List.Sublist.cons_cons _ (List.Sublist.cons_cons _ (List.Sublist.slnil))))))
     have kV := bL.2 cQ; clear bL
     refine wp_exit ?_
     refine thx ?_
     refine thx ?_
     refine ibx ?_
     refine rd ?_
     exact jt L kV _ _ ((bM.reg).anyβ _ (by kernel_rfl)) (aH.keep (List.Sublist.cons_cons _ (List.Sublist.cons_cons _ (List.Sublist.cons_cons _ (List.Sublist.slnil)))))
    refine wp_block ?_
    have fY : Fr 268 [] [⟨0, [], .slice ao1 u0.length cap2⟩, ⟨9, [], .slice i (playS u0 u1 u2 u3).1.length j⟩, ⟨10, [], i6 (playS u0 u1 u2 u3).2⟩, ⟨12, [], .slice (sm p) a.length l⟩, ⟨18, [], .slice D B.length E⟩, ⟨19, [], i6 q⟩, ⟨20, [], i6 aj.at_⟩, ⟨166, [], .slice (sm p) a.length l⟩, ⟨167, [], i6 (a.length : Int)⟩, ⟨168, [], i6 0⟩] bG := cG.reg; clear cG
    have fZ : Fr 268 [] [⟨0, [], .slice ao1 u0.length cap2⟩, ⟨9, [], .slice i (playS u0 u1 u2 u3).1.length j⟩, ⟨10, [], i6 (playS u0 u1 u2 u3).2⟩, ⟨12, [], .slice (sm p) a.length l⟩, ⟨18, [], .slice D B.length E⟩, ⟨19, [], i6 q⟩, ⟨20, [], i6 aj.at_⟩, ⟨166, [], .slice (sm p) a.length l⟩, ⟨167, [], i6 (a.length : Int)⟩, ⟨168, [], i6 0⟩] bG := fY.reg; clear fY
    obtain ⟨kW, kX, kY, kZ⟩ := jl
    refine lp (ι := Int × Int) (fun s => [⟨0, [], .slice ao1 u0.length cap2⟩, ⟨9, [], .slice i (playS u0 u1 u2 u3).1.length j⟩, ⟨10, [], i6 (playS u0 u1 u2 u3).2⟩, ⟨12, [], .slice (sm p) a.length l⟩, ⟨18, [], .slice D B.length E⟩, ⟨19, [], i6 q⟩, ⟨20, [], i6 s.1⟩, ⟨166, [], .slice (sm p) a.length l⟩, ⟨167, [], i6 (a.length : Int)⟩, ⟨168, [], i6 s.2⟩]) (fun s => [.own tySlot 47 D E B, .own tyAsk 44 (sm p) l a, .own tySlot 47 i j (playS u0 u1 u2 u3).1]) (fun s => ae) (fun s => kW s.1 s.2) (fun s => kX s.1 s.2) ⟨aj.at_, 0⟩ kY (by exact fZ.reg) (by exact az) ?_
    rintro ⟨bf, aC⟩ k0 k1 k2 f0 f1
    have f2 : Fr 268 [] [⟨0, [], .slice ao1 u0.length cap2⟩, ⟨9, [], .slice i (playS u0 u1 u2 u3).1.length j⟩, ⟨10, [], i6 (playS u0 u1 u2 u3).2⟩, ⟨12, [], .slice (sm p) a.length l⟩, ⟨18, [], .slice D B.length E⟩, ⟨19, [], i6 q⟩, ⟨20, [], i6 bf⟩, ⟨166, [], .slice (sm p) a.length l⟩, ⟨167, [], i6 (a.length : Int)⟩, ⟨168, [], i6 aC⟩] k1 := f0; clear f0 fZ
    have aV : Mem w.heap.size [] w Z [.own tySlot 47 D E B, .own tyAsk 44 (sm p) l a, .own tySlot 47 i j (playS u0 u1 u2 u3).1] ae k2 := f1; clear f1 az
    have bX := kZ bf aC k0
    refine sqB f2 aV [] [] [(169, .bool (decide (aC < (a.length : Int))))] ?_; intro pI bY; clear f2
    refine wp_seq ?_
    refine cd bY (t := decide (aC < (a.length : Int))) (by kernel_rfl) (fun c4 => ?_) (fun c4 => ?_)
    ·
     have k3 := bX.1 c4; clear bX
     refine wp_skip ?_
     refine thn ?_
     refine wp_seq ?_
     refine wp_block ?_
     refine sqH ?_; intro k4 f3
     obtain ⟨k5, f4⟩ := k3
     refine ixo bY aV 1 (T := tyAsk) (xs := a) aC k5 (k := .i64) (e := 44) (bytes := 24) (nog rfl _) rfl (by kernel_rfl) rfl (by kernel_rfl) (by kernel_rfl) rfl (by kernel_rfl) ?_; intro k6 pJ k7 f5; clear bY
     obtain rfl : p = k6 := by simpa using k7
     obtain ⟨W, k8, f6⟩ := gxq f4 (by first | omega | (simp only [List.length_set] at *; omega)); clear f4
     obtain ⟨k9, la, lb⟩ := own_el aV 1 (T := tyAsk) (xs := a) rfl aC.toNat k8
     obtain rfl : k9 = ((e44Sc W) : List Value) := la
     refine lc2 f5 171 3 (e44Sc W) lb rfl ?_; intro pK f7; clear f5
     refine nw f7 aV pb [i6 0, i6 0, i6 0] 44 ?_; intro lc pL pM c5 f8; clear f7 aV
     refine sx c5 f8 0 (e44Sc W) 0 ?_; intro lf f9; clear f8
     have c6 : Mem w.heap.size [] w Z [.row lc (e44Sc W) 44, .own tySlot 47 D E B, .own tyAsk 44 (sm p) l a, .own tySlot 47 i j (playS u0 u1 u2 u3).1] ae lf := f9; clear f9
     refine nlH (f3 _ _ ?_); clear f3 k4
     refine rgB c5 c6 [0] [] [(20, i6 (min bf W.at_))] ?_; intro pN ga; clear c5
     refine ibn ?_
     refine thn ?_
     refine rgB ga c6 [] [] [(168, i6 (w64 (aC + 1)))] ?_; intro pO lg; clear ga
     refine rd ?_
     exact ⟨⟨min bf W.at_, w64 (aC + 1)⟩, f6.1, f6.2, (lg.reg).anyβ _ (by kernel_rfl), c6.keep (List.Sublist.cons _ (List.Sublist.cons_cons _ (List.Sublist.cons_cons _ (List.Sublist.cons_cons _ (List.Sublist.slnil)))))⟩
    have lh := bX.2 c4; clear bX
    refine wp_exit ?_
    refine thx ?_
    refine thx ?_
    refine ibx ?_
    refine rd ?_
    exact jn bf lh _ _ ((bY.reg).anyβ _ (by kernel_rfl)) (aV.keep (List.Sublist.cons_cons _ (List.Sublist.cons_cons _ (List.Sublist.cons_cons _ (List.Sublist.slnil)))))
   have li := bC.2 cF; clear bC
   refine wp_exit ?_
   refine thx ?_
   refine thx ?_
   refine ibx ?_
   refine rd ?_
   exact iR B D E ae ⟨li, cE⟩ _ _ ((bF.reg).anyβ _ (by kernel_rfl)) (az.keep (List.Sublist.cons_cons _ (List.Sublist.cons _ (List.Sublist.cons_cons _ (List.Sublist.slnil)))))
  refine wp_block ?_
  have gb : Fr 268 [] [⟨0, [], .slice ao1 u0.length cap2⟩, ⟨1, [], .slice ao4 u1.length cap5⟩, ⟨2, [], .slice ao7 u2.length cap8⟩, ⟨3, [], i6 u3⟩, ⟨9, [], .slice i (playS u0 u1 u2 u3).1.length j⟩, ⟨10, [], i6 (playS u0 u1 u2 u3).2⟩, ⟨11, [], i6 am⟩, ⟨12, [], .slice none 0 0⟩, ⟨13, [], i6 0⟩, ⟨14, [], i6 0⟩] bu := cw.reg; clear cw
  have gc : Mem w.heap.size [] w Z [.own tyAsk 44 none 0 ([] : List Ask), .own tySlot 47 i j (playS u0 u1 u2 u3).1] M iB := aP.addNil tyAsk 44 (by decide); clear aP
  have gd : Fr 268 [] [⟨0, [], .slice ao1 u0.length cap2⟩, ⟨1, [], .slice ao4 u1.length cap5⟩, ⟨2, [], .slice ao7 u2.length cap8⟩, ⟨3, [], i6 u3⟩, ⟨9, [], .slice i (playS u0 u1 u2 u3).1.length j⟩, ⟨10, [], i6 (playS u0 u1 u2 u3).2⟩, ⟨11, [], i6 am⟩, ⟨12, [], .slice none ([] : List Ask).length 0⟩, ⟨13, [], i6 0⟩, ⟨14, [], i6 0⟩] bu := gb.reg; clear gb
  obtain ⟨lj, lk, ll, lm⟩ := iE
  refine lp (ι := Int × (List Ask) × Int × Int × (Option Addr) × Nat) (fun s => [⟨0, [], .slice ao1 u0.length cap2⟩, ⟨1, [], .slice ao4 u1.length cap5⟩, ⟨2, [], .slice ao7 u2.length cap8⟩, ⟨3, [], i6 u3⟩, ⟨9, [], .slice i (playS u0 u1 u2 u3).1.length j⟩, ⟨10, [], i6 (playS u0 u1 u2 u3).2⟩, ⟨11, [], i6 s.1⟩, ⟨12, [], .slice s.2.2.2.2.1 s.2.1.length s.2.2.2.2.2⟩, ⟨13, [], i6 s.2.2.1⟩, ⟨14, [], i6 s.2.2.2.1⟩]) (fun s => [.own tyAsk 44 s.2.2.2.2.1 s.2.2.2.2.2 s.2.1, .own tySlot 47 i j (playS u0 u1 u2 u3).1]) (fun s => M) (fun s => lj s.1 s.2.1 s.2.2.1 s.2.2.2.1) (fun s => lk s.1 s.2.1 s.2.2.1 s.2.2.2.1) ⟨am, ([] : List Ask), 0, 0, none, 0⟩ ll (by exact gd.reg) (by exact gc) ?_
  rintro ⟨al, a, Y, o, P, l⟩ ln lo lq ge gf
  have gg : Fr 268 [] [⟨0, [], .slice ao1 u0.length cap2⟩, ⟨1, [], .slice ao4 u1.length cap5⟩, ⟨2, [], .slice ao7 u2.length cap8⟩, ⟨3, [], i6 u3⟩, ⟨9, [], .slice i (playS u0 u1 u2 u3).1.length j⟩, ⟨10, [], i6 (playS u0 u1 u2 u3).2⟩, ⟨11, [], i6 al⟩, ⟨12, [], .slice P a.length l⟩, ⟨13, [], i6 Y⟩, ⟨14, [], i6 o⟩] lo := ge; clear ge gd
  have aI : Mem w.heap.size [] w Z [.own tyAsk 44 P l a, .own tySlot 47 i j (playS u0 u1 u2 u3).1] M lq := gf; clear gf gc
  have bZ := lm al a Y o ln
  refine wp_seq ?_
  refine sqB gg aI [] [] [(66, .bool ((al == 0) && (decide (o < (u0.length : Int)))))] ?_; intro gh b0; clear gg
  refine cd b0 (t := (al == 0) && (decide (o < (u0.length : Int)))) (by kernel_rfl) (fun c7 => ?_) (fun c7 => ?_)
  ·
   have lr := bZ.1 c7; clear bZ
   refine wp_skip ?_
   refine thn ?_
   have gi : Fr 268 [] [⟨0, [], .slice ao1 u0.length cap2⟩, ⟨1, [], .slice ao4 u1.length cap5⟩, ⟨2, [], .slice ao7 u2.length cap8⟩, ⟨3, [], i6 u3⟩, ⟨9, [], .slice i (playS u0 u1 u2 u3).1.length j⟩, ⟨10, [], i6 (playS u0 u1 u2 u3).2⟩, ⟨11, [], i6 al⟩, ⟨12, [], .slice P a.length l⟩, ⟨13, [], i6 Y⟩, ⟨14, [], i6 o⟩] gh := b0.reg; clear b0
   have c8 : Fr 268 [] [⟨0, [], .slice ao1 u0.length cap2⟩, ⟨1, [], .slice ao4 u1.length cap5⟩, ⟨2, [], .slice ao7 u2.length cap8⟩, ⟨3, [], i6 u3⟩, ⟨9, [], .slice i (playS u0 u1 u2 u3).1.length j⟩, ⟨10, [], i6 (playS u0 u1 u2 u3).2⟩, ⟨11, [], i6 al⟩, ⟨12, [], .slice P a.length l⟩, ⟨13, [], i6 Y⟩, ⟨14, [], i6 o⟩] gh := gi.reg; clear gi
   obtain ⟨ls, lt, lu⟩ := lr
   refine wp_seq_k fun KJ1002 hKJ1003 => ?_
   have b1 : ∀ (bg : Int) (aW : List Ask) (bh : Int) (b2 : Option Addr) (b3 : Nat), ls bg aW bh → ∀ a1 w1, Fr 268 [] [⟨0, [], .slice ao1 u0.length cap2⟩, ⟨1, [], .slice ao4 u1.length cap5⟩, ⟨2, [], .slice ao7 u2.length cap8⟩, ⟨3, [], i6 u3⟩, ⟨9, [], .slice i (playS u0 u1 u2 u3).1.length j⟩, ⟨10, [], i6 (playS u0 u1 u2 u3).2⟩, ⟨11, [], i6 bg⟩, ⟨12, [], .slice b2 aW.length b3⟩, ⟨13, [], i6 bh⟩, ⟨14, [], i6 o⟩] a1 → Mem w.heap.size [] w Z [.own tyAsk 44 b2 b3 aW, .own tySlot 47 i j (playS u0 u1 u2 u3).1] M w1 → KJ1002 a1 w1 := by
    rintro bg aW bh b2 b3 lv pP pQ gj gk; clear c8 aI
    refine hKJ1003 _ _ ?_; clear hKJ1003
    have gl := lu bg aW bh lv
    refine rgB gj gk [] [] [(14, i6 (w64 (o + 1)))] ?_; intro pR lw; clear gj
    refine rd ?_
    exact ⟨⟨bg, aW, bh, w64 (o + 1), b2, b3⟩, gl.1, gl.2, (lw.reg).anyβ _ (by kernel_rfl), gk.keep (List.Sublist.cons_cons _ (List.Sublist.cons_cons _ (List.Sublist.slnil)))⟩
   refine wp_block ?_
   refine sqH ?_; intro lx gm
   refine bt c8 aI 2 [] [] [(69, .slice ao1 u0.length cap2), (70, i6 o)] ?_; intro pS gn; clear c8
   obtain ⟨ly, go⟩ := lt
   refine ix gn (T := tyTask) (xs := u0) hs3 o ly (k := .i64) (e := 32) (bytes := 40) (nog rfl _) rfl (by kernel_rfl) rfl (by kernel_rfl) (by kernel_rfl) (by kernel_rfl) ?_; intro pT pU lA f pV lB lC lD gq; clear gn
   have lE := go f lB; clear go
   obtain rfl : lA = ((e32Sc f) : List Value) := lD
   refine z2 gq aI 72 lC 0 5 (e32Sc f) rfl ?_; intro pW gr; clear gq
   refine nw gr aI pb [i6 0, i6 0, i6 0, i6 0, i6 0] 32 ?_; intro z pX pY c9 gs; clear gr aI
   refine sx c9 gs 0 (e32Sc f) 0 ?_; intro lF gt; clear gs
   have S : Mem w.heap.size [] w Z [.row z (e32Sc f) 32, .own tyAsk 44 P l a, .own tySlot 47 i j (playS u0 u1 u2 u3).1] M lF := gt; clear gt
   refine nlH (gm _ _ ?_); clear gm lx
   refine wp_seq ?_
   refine sqH ?_; intro gu b4
   refine bt c9 S 2 [] [] [(73, .slice ao4 u1.length cap5), (74, i6 o)] ?_; intro pZ gv; clear c9
   obtain ⟨lG, gw⟩ := lE
   refine ix gv (T := t6) (xs := u1) hs6 o lG (k := .i64) (e := 3) (bytes := 8) (nog rfl _) rfl (by kernel_rfl) rfl (by kernel_rfl) (by kernel_rfl) (by kernel_rfl) ?_; intro p0 p1 lH aJ p2 lI lJ lK gx; clear gv
   have b5 := gw aJ lI; clear gw
   obtain rfl : lH = ([i6 aJ] : List Value) := lK
   refine z1 gx S 76 lJ 0 (i6 aJ) rfl ?_; intro p3 gy; clear gx
   refine bt gy S 2 [] [] [(78, .bool (decide (aJ < 0)))] ?_; intro p4 b6; clear gy
   rcases Bool.eq_false_or_eq_true (decide (aJ < 0)) with bi | bi
   ·
    have lL := b5.1 bi; clear b5
    have gz := b6.reval (d := 78) (c := []) (v := .bool (decide (aJ < 0))) (by kernel_rfl) (.bool true) (by rw [bi]); clear b6
    refine bt gz S 6 [] [79, 80, 81, 82, 83, 84] [(84, .bool true)] ?_; intro p5 da; clear gz
    refine nlH (b4 _ _ ?_); clear b4 gu
    refine cdT da (by kernel_rfl) ?_
    refine rgB da S [] [] [(11, i6 3)] ?_; intro p6 gA; clear da
    refine thn ?_
    refine sqH ?_; intro lM gB
    refine bt gA S 2 [] [] [(85, .slice ao4 u1.length cap5), (86, i6 o)] ?_; intro p7 gC; clear gA
    obtain ⟨lN, gD⟩ := lL
    refine ix gC (T := t6) (xs := u1) hs6 o lN (k := .i64) (e := 3) (bytes := 8) (nog rfl _) rfl (by kernel_rfl) rfl (by kernel_rfl) (by kernel_rfl) (by kernel_rfl) ?_; intro p8 p9 lO aK qa lP lQ lR gE; clear gC
    have lS := gD aK lP; clear gD
    obtain rfl : lO = ([i6 aK] : List Value) := lR
    refine z1 gE S 88 lQ 0 (i6 aK) rfl ?_; intro qb gF; clear gE
    refine s1 gF 16 (i6 aK) ?_; intro gG gH; clear gF
    refine nlH (gB _ _ ?_); clear gB lM
    refine wp_block ?_
    have gI : Fr 268 [] [⟨0, [], .slice ao1 u0.length cap2⟩, ⟨1, [], .slice ao4 u1.length cap5⟩, ⟨2, [], .slice ao7 u2.length cap8⟩, ⟨3, [], i6 u3⟩, ⟨9, [], .slice i (playS u0 u1 u2 u3).1.length j⟩, ⟨10, [], i6 (playS u0 u1 u2 u3).2⟩, ⟨11, [], i6 3⟩, ⟨12, [], .slice P a.length l⟩, ⟨13, [], i6 Y⟩, ⟨14, [], i6 o⟩, ⟨15, [], pt z 0⟩, ⟨16, [], i6 aK⟩] gG := gH.reg; clear gH
    have gJ : Fr 268 [] [⟨0, [], .slice ao1 u0.length cap2⟩, ⟨1, [], .slice ao4 u1.length cap5⟩, ⟨2, [], .slice ao7 u2.length cap8⟩, ⟨3, [], i6 u3⟩, ⟨9, [], .slice i (playS u0 u1 u2 u3).1.length j⟩, ⟨10, [], i6 (playS u0 u1 u2 u3).2⟩, ⟨11, [], i6 3⟩, ⟨12, [], .slice P a.length l⟩, ⟨13, [], i6 Y⟩, ⟨14, [], i6 o⟩, ⟨15, [], pt z 0⟩, ⟨16, [], i6 aK⟩] gG := gI.reg; clear gI
    obtain ⟨lT, lU, lV, lW⟩ := lS
    refine lp (ι := Int × (List Ask) × Int × Int × (Option Addr) × Nat) (fun s => [⟨0, [], .slice ao1 u0.length cap2⟩, ⟨1, [], .slice ao4 u1.length cap5⟩, ⟨2, [], .slice ao7 u2.length cap8⟩, ⟨3, [], i6 u3⟩, ⟨9, [], .slice i (playS u0 u1 u2 u3).1.length j⟩, ⟨10, [], i6 (playS u0 u1 u2 u3).2⟩, ⟨11, [], i6 s.1⟩, ⟨12, [], .slice s.2.2.2.2.1 s.2.1.length s.2.2.2.2.2⟩, ⟨13, [], i6 s.2.2.1⟩, ⟨14, [], i6 o⟩, ⟨15, [], pt z 0⟩, ⟨16, [], i6 s.2.2.2.1⟩]) (fun s => [.row z (e32Sc f) 32, .own tyAsk 44 s.2.2.2.2.1 s.2.2.2.2.2 s.2.1, .own tySlot 47 i j (playS u0 u1 u2 u3).1]) (fun s => M) (fun s => lT s.1 s.2.1 s.2.2.1 s.2.2.2.1) (fun s => lU s.1 s.2.1 s.2.2.1 s.2.2.2.1) ⟨3, a, Y, aK, P, l⟩ lV (by exact gJ.reg) (by exact S) ?_
    rintro ⟨Q, A, C, n, H, I⟩ lX lY lZ gK gL
    have gM : Fr 268 [] [⟨0, [], .slice ao1 u0.length cap2⟩, ⟨1, [], .slice ao4 u1.length cap5⟩, ⟨2, [], .slice ao7 u2.length cap8⟩, ⟨3, [], i6 u3⟩, ⟨9, [], .slice i (playS u0 u1 u2 u3).1.length j⟩, ⟨10, [], i6 (playS u0 u1 u2 u3).2⟩, ⟨11, [], i6 Q⟩, ⟨12, [], .slice H A.length I⟩, ⟨13, [], i6 C⟩, ⟨14, [], i6 o⟩, ⟨15, [], pt z 0⟩, ⟨16, [], i6 n⟩] lY := gK; clear gK gJ
    have aa : Mem w.heap.size [] w Z [.row z (e32Sc f) 32, .own tyAsk 44 H I A, .own tySlot 47 i j (playS u0 u1 u2 u3).1] M lZ := gL; clear gL S
    have b7 := lW Q A C n lX
    refine wp_seq ?_
    refine sqB gM aa [] [] [(95, .bool ((Q == 0) && (decide (n < u3))))] ?_; intro gN b8; clear gM
    refine cd b8 (t := (Q == 0) && (decide (n < u3))) (by kernel_rfl) (fun db => ?_) (fun db => ?_)
    ·
     have l0 := b7.1 db; clear b7
     refine wp_skip ?_
     refine thn ?_
     have gO : Fr 268 [] [⟨0, [], .slice ao1 u0.length cap2⟩, ⟨1, [], .slice ao4 u1.length cap5⟩, ⟨2, [], .slice ao7 u2.length cap8⟩, ⟨3, [], i6 u3⟩, ⟨9, [], .slice i (playS u0 u1 u2 u3).1.length j⟩, ⟨10, [], i6 (playS u0 u1 u2 u3).2⟩, ⟨11, [], i6 Q⟩, ⟨12, [], .slice H A.length I⟩, ⟨13, [], i6 C⟩, ⟨14, [], i6 o⟩, ⟨15, [], pt z 0⟩, ⟨16, [], i6 n⟩] gN := b8.reg; clear b8
     have dc : Fr 268 [] [⟨0, [], .slice ao1 u0.length cap2⟩, ⟨1, [], .slice ao4 u1.length cap5⟩, ⟨2, [], .slice ao7 u2.length cap8⟩, ⟨3, [], i6 u3⟩, ⟨9, [], .slice i (playS u0 u1 u2 u3).1.length j⟩, ⟨10, [], i6 (playS u0 u1 u2 u3).2⟩, ⟨11, [], i6 Q⟩, ⟨12, [], .slice H A.length I⟩, ⟨13, [], i6 C⟩, ⟨14, [], i6 o⟩, ⟨15, [], pt z 0⟩, ⟨16, [], i6 n⟩] gN := gO.reg; clear gO
     obtain ⟨l1, l2, l3⟩ := l0
     refine wp_seq_k fun KJ1144 hKJ1145 => ?_
     have gP : ∀ (R : Int) (ab : List Ask) (ah : Int) (ax : Option Addr) (ay : Nat), l1 R ab ah → ∀ a1 w1, Fr 268 [] [⟨0, [], .slice ao1 u0.length cap2⟩, ⟨1, [], .slice ao4 u1.length cap5⟩, ⟨2, [], .slice ao7 u2.length cap8⟩, ⟨3, [], i6 u3⟩, ⟨9, [], .slice i (playS u0 u1 u2 u3).1.length j⟩, ⟨10, [], i6 (playS u0 u1 u2 u3).2⟩, ⟨11, [], i6 R⟩, ⟨12, [], .slice ax ab.length ay⟩, ⟨13, [], i6 ah⟩, ⟨14, [], i6 o⟩, ⟨15, [], pt z 0⟩, ⟨16, [], i6 n⟩] a1 → Mem w.heap.size [] w Z [.row z (e32Sc f) 32, .own tyAsk 44 ax ay ab, .own tySlot 47 i j (playS u0 u1 u2 u3).1] M w1 → KJ1144 a1 w1 := by
      rintro R ab ah ax ay l4 qc qd gQ gR; clear dc aa
      refine hKJ1145 _ _ ?_; clear hKJ1145
      have gS := l3 R ab ah l4
      refine rgB gQ gR [0] [] [(16, i6 (w64 (n + f.Every)))] ?_; intro qe l5; clear gQ
      refine rd ?_
      exact ⟨⟨R, ab, ah, w64 (n + f.Every), ax, ay⟩, gS.1, gS.2, (l5.reg).anyβ _ (by kernel_rfl), gR.keep (List.Sublist.cons_cons _ (List.Sublist.cons_cons _ (List.Sublist.cons_cons _ (List.Sublist.slnil))))⟩
     refine wp_block ?_
     refine sqB dc aa [] [] [(17, i6 n)] ?_; intro qf gT; clear dc
     refine wp_seq ?_
     refine sqB gT aa [0] [] [(108, .bool ((decide (f.Jitter > 0)) && (decide ((u2.length : Int) > 0))))] ?_; intro gU gV; clear gT
     have gW : Fr 268 [] [⟨0, [], .slice ao1 u0.length cap2⟩, ⟨1, [], .slice ao4 u1.length cap5⟩, ⟨2, [], .slice ao7 u2.length cap8⟩, ⟨3, [], i6 u3⟩, ⟨9, [], .slice i (playS u0 u1 u2 u3).1.length j⟩, ⟨10, [], i6 (playS u0 u1 u2 u3).2⟩, ⟨11, [], i6 Q⟩, ⟨12, [], .slice H A.length I⟩, ⟨13, [], i6 C⟩, ⟨14, [], i6 o⟩, ⟨15, [], pt z 0⟩, ⟨16, [], i6 n⟩, ⟨17, [], i6 n⟩, ⟨108, [], .bool ((decide (f.Jitter > 0)) && (decide ((u2.length : Int) > 0)))⟩] gU := gV.reg; clear gV
     have bk : Fr 268 [] [⟨0, [], .slice ao1 u0.length cap2⟩, ⟨1, [], .slice ao4 u1.length cap5⟩, ⟨2, [], .slice ao7 u2.length cap8⟩, ⟨3, [], i6 u3⟩, ⟨9, [], .slice i (playS u0 u1 u2 u3).1.length j⟩, ⟨10, [], i6 (playS u0 u1 u2 u3).2⟩, ⟨11, [], i6 Q⟩, ⟨12, [], .slice H A.length I⟩, ⟨13, [], i6 C⟩, ⟨14, [], i6 o⟩, ⟨15, [], pt z 0⟩, ⟨16, [], i6 n⟩, ⟨17, [], i6 n⟩, ⟨108, [], .bool ((decide (f.Jitter > 0)) && (decide ((u2.length : Int) > 0)))⟩] gU := gW.reg; clear gW
     obtain ⟨l6, b9, l7⟩ := l2
     refine wp_then_k fun KJ1192 hKJ1193 => ?_
     have gX : ∀ (ai : Int) (ac : Int) (G : Int), l6 ai ac G → ∀ a1 w1, Fr 268 [] [⟨0, [], .slice ao1 u0.length cap2⟩, ⟨1, [], .slice ao4 u1.length cap5⟩, ⟨2, [], .slice ao7 u2.length cap8⟩, ⟨3, [], i6 u3⟩, ⟨9, [], .slice i (playS u0 u1 u2 u3).1.length j⟩, ⟨10, [], i6 (playS u0 u1 u2 u3).2⟩, ⟨11, [], i6 ai⟩, ⟨12, [], .slice H A.length I⟩, ⟨13, [], i6 ac⟩, ⟨14, [], i6 o⟩, ⟨15, [], pt z 0⟩, ⟨16, [], i6 n⟩, ⟨17, [], i6 G⟩] a1 → Mem w.heap.size [] w Z [.row z (e32Sc f) 32, .own tyAsk 44 H I A, .own tySlot 47 i j (playS u0 u1 u2 u3).1] M w1 → KJ1192 a1 w1 := by
      rintro ai ac G l8 qg qh gY dd; clear bk aa
      refine hKJ1193 _ _ ?_; clear hKJ1193
      have l9 := l7 ai ac G l8
      refine sqH ?_; intro ma gZ
      refine bt gY dd 5 [] [] [(132, .slice H A.length I), (136, .agg #[i6 o, i6 n, i6 G])] ?_; intro qi g0; clear gY
      refine nw g0 dd (fun b => .slice (sm b) 1 1) [i6 o, i6 n, i6 G] 44 ?_; intro g1 qj qk g2 de; clear g0 dd
      obtain ⟨mb, ca⟩ := l9
      refine ap g2 de 2 (T := tyAsk) (xs := A) (ys := [(⟨o, n, G⟩ : Ask)]) (ao := H) (cap := I) (ao2 := (sm g1)) (cap2 := 1) (t := 42) (e := 44) (bytes := 24) (nog rfl _) rfl (by kernel_rfl) rfl (by kernel_rfl) (by kernel_rfl) (by kernel_rfl) rfl (Src.row de 0 rfl (RepAll.one (T := tyAsk) (x := (⟨o, n, G⟩ : Ask)) rfl)) mb ?_; intro cb cc ql mc qm g3 g4; clear g2 de
      have ce : Mem w.heap.size [] w Z [.row g1 [i6 o, i6 n, i6 G] 44, .row z (e32Sc f) 32, .own tyAsk 44 cb cc (A ++ [(⟨o, n, G⟩ : Ask)]), .own tySlot 47 i j (playS u0 u1 u2 u3).1] M mc := g4; clear g4
      refine s1 g3 12 (.slice cb (A ++ [(⟨o, n, G⟩ : Ask)]).length cc) ?_; intro qn g5; clear g3
      refine nlH (gZ _ _ ?_); clear gZ ma
      refine sqB g5 ce [] [] [(141, .bool (decide (((A ++ [(⟨o, n, G⟩ : Ask)]).length : Int) > 1000)))] ?_; intro qo cf; clear g5
      refine cd cf (t := decide (((A ++ [(⟨o, n, G⟩ : Ask)]).length : Int) > 1000)) (by kernel_rfl) (fun df => ?_) (fun df => ?_)
      ·
       have md := ca.1 df; clear ca
       refine rgB cf ce [] [] [(11, i6 2)] ?_; intro qp me; clear cf
       refine ibn ?_
       refine rd ?_
       exact gP 2 (A ++ [(⟨o, n, G⟩ : Ask)]) ac cb cc md _ _ ((me.reg).anyβ _ (by kernel_rfl)) (ce.keep (List.Sublist.cons _ (List.Sublist.cons_cons _ (List.Sublist.cons_cons _ (List.Sublist.cons_cons _ (List.Sublist.slnil))))))
      have mf := ca.2 df; clear ca
      refine wp_skip ?_
      refine ibn ?_
      refine rd ?_
      exact gP ai (A ++ [(⟨o, n, G⟩ : Ask)]) ac cb cc mf _ _ ((cf.reg).anyβ _ (by kernel_rfl)) (ce.keep (List.Sublist.cons _ (List.Sublist.cons_cons _ (List.Sublist.cons_cons _ (List.Sublist.cons_cons _ (List.Sublist.slnil))))))
     refine cd bk (t := (decide (f.Jitter > 0)) && (decide ((u2.length : Int) > 0))) (by kernel_rfl) (fun dg => ?_) (fun dg => ?_)
     ·
      have mg := b9.1 dg; clear b9
      refine wp_seq ?_
      refine sqH ?_; intro mh g6
      refine bt bk aa 4 [] [] [(109, .slice ao7 u2.length cap8), (110, i6 C), (112, i6 (u2.length : Int))] ?_; intro qq dh; clear bk
      obtain ⟨mi, mj⟩ := mg
      refine st dh (i6 (C.tmod (u2.length : Int))) (nog rfl _) rfl (by kernel_rfl) (rem_run dh (g := []) rfl (by kernel_rfl) (by kernel_rfl) mi rfl) ?_; intro qr g7; clear dh
      obtain ⟨mk, g8⟩ := mj
      refine ix g7 (T := t6) (xs := u2) hs9 (C.tmod (u2.length : Int)) mk (k := .i64) (e := 3) (bytes := 8) (nog rfl _) rfl (by kernel_rfl) rfl (by kernel_rfl) (by kernel_rfl) (by kernel_rfl) ?_; intro qs qt ml bl qu mm mn mo g9; clear g7
      have cg := g8 bl mm; clear g8
      obtain rfl : ml = ([i6 bl] : List Value) := mo
      refine z1 g9 aa 115 mn 0 (i6 bl) rfl ?_; intro qv ha; clear g9
      refine s1 ha 116 (.bool (decide (bl < 0))) ?_; intro mp bm; clear ha
      refine nlH (g6 _ _ ?_); clear g6 mh
      refine cd bm (t := decide (bl < 0)) (by kernel_rfl) (fun di => ?_) (fun di => ?_)
      ·
       have mq := cg.1 di; clear cg
       refine sqB bm aa [] [] [(11, i6 3)] ?_; intro qw mr; clear bm
       refine wp_exit ?_
       refine thx ?_
       refine thx ?_
       refine ibo (by decide) ?_
       refine thx ?_
       refine thx ?_
       refine ibx ?_
       refine ibn ?_
       refine rd ?_
       exact b1 3 A C H I mq _ _ ((mr.reg).anyβ _ (by kernel_rfl)) (aa.keep (List.Sublist.cons _ (List.Sublist.cons_cons _ (List.Sublist.cons_cons _ (List.Sublist.slnil)))))
      have ms := cg.2 di; clear cg
      refine wp_skip ?_
      refine thn ?_
      have hb : Fr 268 [] [⟨0, [], .slice ao1 u0.length cap2⟩, ⟨1, [], .slice ao4 u1.length cap5⟩, ⟨2, [], .slice ao7 u2.length cap8⟩, ⟨3, [], i6 u3⟩, ⟨9, [], .slice i (playS u0 u1 u2 u3).1.length j⟩, ⟨10, [], i6 (playS u0 u1 u2 u3).2⟩, ⟨11, [], i6 Q⟩, ⟨12, [], .slice H A.length I⟩, ⟨13, [], i6 C⟩, ⟨14, [], i6 o⟩, ⟨15, [], pt z 0⟩, ⟨16, [], i6 n⟩, ⟨17, [], i6 n⟩] mp := bm.reg; clear bm
      refine sqQH mixed (by kernel_rfl) aa ?_; intro mt hc
      refine q1 hb 117 (i6 n) ?_; intro qx hd; clear hb
      refine q1 hd 118 (.slice ao7 u2.length cap8) ?_; intro qy he; clear hd
      refine q1 he 119 (i6 C) ?_; intro qz hf; clear he
      refine q1 hf 120 (.slice ao7 u2.length cap8) ?_; intro qA hh; clear hf
      refine q1 hh 121 (i6 (u2.length : Int)) ?_; intro qB dj; clear hh
      obtain ⟨mu, mv⟩ := ms
      refine qst dj (i6 (C.tmod (u2.length : Int))) (nog rfl _) rfl (by kernel_rfl) (fun v1296 hC => rem_run dj (g := []) rfl (by kernel_rfl) (by kernel_rfl) mu rfl) ?_; intro qC hi; clear dj
      obtain ⟨mw, hj⟩ := mv
      refine qix hi (T := t6) (xs := u2) hs9 (C.tmod (u2.length : Int)) mw (k := .i64) (e := 3) (bytes := 8) (nog rfl _) rfl (by kernel_rfl) rfl (by kernel_rfl) (by kernel_rfl) (by kernel_rfl) ?_; intro qD qE mx aL qF my mz mA dk; clear hi
      have mB := hj aL my; clear hj
      obtain rfl : mx = ([i6 aL] : List Value) := mA
      refine qst dk (i6 aL) (nog rfl _) rfl (by kernel_rfl) (fun v1314 hC => lz dk hC.fz mz 0 (g := []) rfl (by kernel_rfl) (by kernel_rfl) (by kernel_rfl) rfl) ?_; intro qG hk; clear dk
      refine q1 hk 125 (pt z 4) ?_; intro qH dl; clear hk
      refine qst dl (i6 f.Jitter) (nog rfl _) rfl (by kernel_rfl) (fun v1320 hC => ld dl hC 0 (g := []) (b := z) (off := 4) (cs := (e32Sc f)) (ty := 32) rfl (by kernel_rfl) (by kernel_rfl) (by kernel_rfl) (by kernel_rfl) rfl) ?_; intro qI hl; clear dl
      refine q1 hl 127 (i6 (w64 (f.Jitter + 1))) ?_; intro qJ dm; clear hl
      obtain ⟨mC, mD⟩ := mB
      refine qst dm (i6 (aL.tmod (w64 (f.Jitter + 1)))) (nog rfl _) rfl (by kernel_rfl) (fun v1326 hC => rem_run dm (g := []) rfl (by kernel_rfl) (by kernel_rfl) mC rfl) ?_; intro qK hn; clear dm
      refine q1 hn 129 (i6 (w64 (n + (aL.tmod (w64 (f.Jitter + 1)))))) ?_; intro qL ho; clear hn
      refine q1 ho 17 (i6 (w64 (n + (aL.tmod (w64 (f.Jitter + 1)))))) ?_; intro qM hq; clear ho
      refine qnl (hc _ ?_); clear hc mt; intro qN hr; clear aa
      refine rgB hq hr [] [] [(13, i6 (w64 (C + 1)))] ?_; intro qO mE; clear hq
      refine rd ?_
      exact gX Q (w64 (C + 1)) (w64 (n + (aL.tmod (w64 (f.Jitter + 1))))) mD _ _ ((mE.reg).anyβ _ (by kernel_rfl)) (hr.keep (List.Sublist.cons_cons _ (List.Sublist.cons_cons _ (List.Sublist.cons_cons _ (List.Sublist.slnil)))))
     have mF := b9.2 dg; clear b9
     refine wp_skip ?_
     refine rd ?_
     exact gX Q C n mF _ _ ((bk.reg).anyβ _ (by kernel_rfl)) (aa.keep (List.Sublist.cons_cons _ (List.Sublist.cons_cons _ (List.Sublist.cons_cons _ (List.Sublist.slnil)))))
    have mG := b7.2 db; clear b7
    refine wp_exit ?_
    refine thx ?_
    refine thx ?_
    refine ibx ?_
    refine ibn ?_
    refine rd ?_
    exact b1 Q A C H I mG _ _ ((b8.reg).anyβ _ (by kernel_rfl)) (aa.keep (List.Sublist.cons _ (List.Sublist.cons_cons _ (List.Sublist.cons_cons _ (List.Sublist.slnil)))))
   have mH := b5.2 bi; clear b5
   have hs := b6.reval (d := 78) (c := []) (v := .bool (decide (aJ < 0))) (by kernel_rfl) (.bool false) (by rw [bi]); clear b6
   refine bt hs S 2 [] [79, 80] [(79, .slice ao4 u1.length cap5), (80, i6 o)] ?_; intro qP dn; clear hs
   obtain ⟨mI, ht⟩ := mH
   refine ix dn (T := t6) (xs := u1) hs6 o mI (k := .i64) (e := 3) (bytes := 8) (by rw [wanted_of dn (b := false) rfl rfl (by kernel_rfl) (by kernel_rfl)]; rfl) rfl (by kernel_rfl) rfl (by kernel_rfl) (by kernel_rfl) (by kernel_rfl) ?_; intro qQ qR mJ aM qS mK mL mM ch; clear dn
   have mN := ht aM mK; clear ht
   obtain rfl : mJ = ([i6 aM] : List Value) := mM
   refine st ch (i6 aM) (by rw [wanted_of ch (b := false) rfl rfl (by kernel_rfl) (by kernel_rfl)]; rfl) rfl (by kernel_rfl) (lz ch S.fz mL 0 (g := []) rfl (by kernel_rfl) (by kernel_rfl) (by kernel_rfl) rfl) ?_; intro qT hu; clear ch
   refine bt hu S 2 [] [83, 84] [(84, .bool (decide (aM > 1000000)))] ?_; intro hv hw; clear hu
   refine nlH (b4 _ _ ?_); clear b4 gu
   have hx : Fr 268 [] [⟨0, [], .slice ao1 u0.length cap2⟩, ⟨1, [], .slice ao4 u1.length cap5⟩, ⟨2, [], .slice ao7 u2.length cap8⟩, ⟨3, [], i6 u3⟩, ⟨9, [], .slice i (playS u0 u1 u2 u3).1.length j⟩, ⟨10, [], i6 (playS u0 u1 u2 u3).2⟩, ⟨11, [], i6 al⟩, ⟨12, [], .slice P a.length l⟩, ⟨13, [], i6 Y⟩, ⟨14, [], i6 o⟩, ⟨15, [], pt z 0⟩, ⟨84, [], .bool (decide (aM > 1000000))⟩] hv := hw.reg; clear hw
   have bn : Fr 268 [] [⟨0, [], .slice ao1 u0.length cap2⟩, ⟨1, [], .slice ao4 u1.length cap5⟩, ⟨2, [], .slice ao7 u2.length cap8⟩, ⟨3, [], i6 u3⟩, ⟨9, [], .slice i (playS u0 u1 u2 u3).1.length j⟩, ⟨10, [], i6 (playS u0 u1 u2 u3).2⟩, ⟨11, [], i6 al⟩, ⟨12, [], .slice P a.length l⟩, ⟨13, [], i6 Y⟩, ⟨14, [], i6 o⟩, ⟨15, [], pt z 0⟩, ⟨84, [], .bool (decide (aM > 1000000))⟩] hv := hx.reg; clear hx
   obtain ⟨mO, ci, mP⟩ := mN
   refine wp_then_k fun KJ1377 hKJ1378 => ?_
   have hy : ∀ (Q : Int), mO Q → ∀ a1 w1, Fr 268 [] [⟨0, [], .slice ao1 u0.length cap2⟩, ⟨1, [], .slice ao4 u1.length cap5⟩, ⟨2, [], .slice ao7 u2.length cap8⟩, ⟨3, [], i6 u3⟩, ⟨9, [], .slice i (playS u0 u1 u2 u3).1.length j⟩, ⟨10, [], i6 (playS u0 u1 u2 u3).2⟩, ⟨11, [], i6 Q⟩, ⟨12, [], .slice P a.length l⟩, ⟨13, [], i6 Y⟩, ⟨14, [], i6 o⟩, ⟨15, [], pt z 0⟩] a1 → Mem w.heap.size [] w Z [.row z (e32Sc f) 32, .own tyAsk 44 P l a, .own tySlot 47 i j (playS u0 u1 u2 u3).1] M w1 → KJ1377 a1 w1 := by
    rintro Q mQ qU qV hz cl; clear bn S
    refine hKJ1378 _ _ ?_; clear hKJ1378
    have mR := mP Q mQ
    refine sqH ?_; intro mS hA
    refine bt hz cl 2 [] [] [(85, .slice ao4 u1.length cap5), (86, i6 o)] ?_; intro qW hB; clear hz
    obtain ⟨mT, hD⟩ := mR
    refine ix hB (T := t6) (xs := u1) hs6 o mT (k := .i64) (e := 3) (bytes := 8) (nog rfl _) rfl (by kernel_rfl) rfl (by kernel_rfl) (by kernel_rfl) (by kernel_rfl) ?_; intro qX qY mU aN qZ mV mW mX hE; clear hB
    have mY := hD aN mV; clear hD
    obtain rfl : mU = ([i6 aN] : List Value) := mX
    refine z1 hE cl 88 mW 0 (i6 aN) rfl ?_; intro q0 hF; clear hE
    refine s1 hF 16 (i6 aN) ?_; intro hG hH; clear hF
    refine nlH (hA _ _ ?_); clear hA mS
    refine wp_block ?_
    have hI : Fr 268 [] [⟨0, [], .slice ao1 u0.length cap2⟩, ⟨1, [], .slice ao4 u1.length cap5⟩, ⟨2, [], .slice ao7 u2.length cap8⟩, ⟨3, [], i6 u3⟩, ⟨9, [], .slice i (playS u0 u1 u2 u3).1.length j⟩, ⟨10, [], i6 (playS u0 u1 u2 u3).2⟩, ⟨11, [], i6 Q⟩, ⟨12, [], .slice P a.length l⟩, ⟨13, [], i6 Y⟩, ⟨14, [], i6 o⟩, ⟨15, [], pt z 0⟩, ⟨16, [], i6 aN⟩] hG := hH.reg; clear hH
    have hJ : Fr 268 [] [⟨0, [], .slice ao1 u0.length cap2⟩, ⟨1, [], .slice ao4 u1.length cap5⟩, ⟨2, [], .slice ao7 u2.length cap8⟩, ⟨3, [], i6 u3⟩, ⟨9, [], .slice i (playS u0 u1 u2 u3).1.length j⟩, ⟨10, [], i6 (playS u0 u1 u2 u3).2⟩, ⟨11, [], i6 Q⟩, ⟨12, [], .slice P a.length l⟩, ⟨13, [], i6 Y⟩, ⟨14, [], i6 o⟩, ⟨15, [], pt z 0⟩, ⟨16, [], i6 aN⟩] hG := hI.reg; clear hI
    obtain ⟨mZ, m0, m1, m2⟩ := mY
    refine lp (ι := Int × (List Ask) × Int × Int × (Option Addr) × Nat) (fun s => [⟨0, [], .slice ao1 u0.length cap2⟩, ⟨1, [], .slice ao4 u1.length cap5⟩, ⟨2, [], .slice ao7 u2.length cap8⟩, ⟨3, [], i6 u3⟩, ⟨9, [], .slice i (playS u0 u1 u2 u3).1.length j⟩, ⟨10, [], i6 (playS u0 u1 u2 u3).2⟩, ⟨11, [], i6 s.1⟩, ⟨12, [], .slice s.2.2.2.2.1 s.2.1.length s.2.2.2.2.2⟩, ⟨13, [], i6 s.2.2.1⟩, ⟨14, [], i6 o⟩, ⟨15, [], pt z 0⟩, ⟨16, [], i6 s.2.2.2.1⟩]) (fun s => [.row z (e32Sc f) 32, .own tyAsk 44 s.2.2.2.2.1 s.2.2.2.2.2 s.2.1, .own tySlot 47 i j (playS u0 u1 u2 u3).1]) (fun s => M) (fun s => mZ s.1 s.2.1 s.2.2.1 s.2.2.2.1) (fun s => m0 s.1 s.2.1 s.2.2.1 s.2.2.2.1) ⟨Q, a, Y, aN, P, l⟩ m1 (by exact hJ.reg) (by exact cl) ?_
    rintro ⟨R, A, C, n, H, I⟩ m3 m4 m5 hK hL
    have hM : Fr 268 [] [⟨0, [], .slice ao1 u0.length cap2⟩, ⟨1, [], .slice ao4 u1.length cap5⟩, ⟨2, [], .slice ao7 u2.length cap8⟩, ⟨3, [], i6 u3⟩, ⟨9, [], .slice i (playS u0 u1 u2 u3).1.length j⟩, ⟨10, [], i6 (playS u0 u1 u2 u3).2⟩, ⟨11, [], i6 R⟩, ⟨12, [], .slice H A.length I⟩, ⟨13, [], i6 C⟩, ⟨14, [], i6 o⟩, ⟨15, [], pt z 0⟩, ⟨16, [], i6 n⟩] m4 := hK; clear hK hJ
    have ad : Mem w.heap.size [] w Z [.row z (e32Sc f) 32, .own tyAsk 44 H I A, .own tySlot 47 i j (playS u0 u1 u2 u3).1] M m5 := hL; clear hL cl
    have cm := m2 R A C n m3
    refine wp_seq ?_
    refine sqB hM ad [] [] [(95, .bool ((R == 0) && (decide (n < u3))))] ?_; intro hN cn; clear hM
    refine cd cn (t := (R == 0) && (decide (n < u3))) (by kernel_rfl) (fun dp => ?_) (fun dp => ?_)
    ·
     have m6 := cm.1 dp; clear cm
     refine wp_skip ?_
     refine thn ?_
     have hO : Fr 268 [] [⟨0, [], .slice ao1 u0.length cap2⟩, ⟨1, [], .slice ao4 u1.length cap5⟩, ⟨2, [], .slice ao7 u2.length cap8⟩, ⟨3, [], i6 u3⟩, ⟨9, [], .slice i (playS u0 u1 u2 u3).1.length j⟩, ⟨10, [], i6 (playS u0 u1 u2 u3).2⟩, ⟨11, [], i6 R⟩, ⟨12, [], .slice H A.length I⟩, ⟨13, [], i6 C⟩, ⟨14, [], i6 o⟩, ⟨15, [], pt z 0⟩, ⟨16, [], i6 n⟩] hN := cn.reg; clear cn
     have dq : Fr 268 [] [⟨0, [], .slice ao1 u0.length cap2⟩, ⟨1, [], .slice ao4 u1.length cap5⟩, ⟨2, [], .slice ao7 u2.length cap8⟩, ⟨3, [], i6 u3⟩, ⟨9, [], .slice i (playS u0 u1 u2 u3).1.length j⟩, ⟨10, [], i6 (playS u0 u1 u2 u3).2⟩, ⟨11, [], i6 R⟩, ⟨12, [], .slice H A.length I⟩, ⟨13, [], i6 C⟩, ⟨14, [], i6 o⟩, ⟨15, [], pt z 0⟩, ⟨16, [], i6 n⟩] hN := hO.reg; clear hO
     obtain ⟨m7, m8, m9⟩ := m6
     refine wp_seq_k fun KJ1444 hKJ1445 => ?_
     have hP : ∀ (ai : Int) (ab : List Ask) (ah : Int) (ax : Option Addr) (ay : Nat), m7 ai ab ah → ∀ a1 w1, Fr 268 [] [⟨0, [], .slice ao1 u0.length cap2⟩, ⟨1, [], .slice ao4 u1.length cap5⟩, ⟨2, [], .slice ao7 u2.length cap8⟩, ⟨3, [], i6 u3⟩, ⟨9, [], .slice i (playS u0 u1 u2 u3).1.length j⟩, ⟨10, [], i6 (playS u0 u1 u2 u3).2⟩, ⟨11, [], i6 ai⟩, ⟨12, [], .slice ax ab.length ay⟩, ⟨13, [], i6 ah⟩, ⟨14, [], i6 o⟩, ⟨15, [], pt z 0⟩, ⟨16, [], i6 n⟩] a1 → Mem w.heap.size [] w Z [.row z (e32Sc f) 32, .own tyAsk 44 ax ay ab, .own tySlot 47 i j (playS u0 u1 u2 u3).1] M w1 → KJ1444 a1 w1 := by
      rintro ai ab ah ax ay na q2 q3 hQ hR; clear dq ad
      refine hKJ1445 _ _ ?_; clear hKJ1445
      have hS := m9 ai ab ah na
      refine rgB hQ hR [0] [] [(16, i6 (w64 (n + f.Every)))] ?_; intro q4 nb; clear hQ
      refine rd ?_
      exact ⟨⟨ai, ab, ah, w64 (n + f.Every), ax, ay⟩, hS.1, hS.2, (nb.reg).anyβ _ (by kernel_rfl), hR.keep (List.Sublist.cons_cons _ (List.Sublist.cons_cons _ (List.Sublist.cons_cons _ (List.Sublist.slnil))))⟩
     refine wp_block ?_
     refine sqB dq ad [] [] [(17, i6 n)] ?_; intro q5 hT; clear dq
     refine wp_seq ?_
     refine sqB hT ad [0] [] [(108, .bool ((decide (f.Jitter > 0)) && (decide ((u2.length : Int) > 0))))] ?_; intro hU hV; clear hT
     have hW : Fr 268 [] [⟨0, [], .slice ao1 u0.length cap2⟩, ⟨1, [], .slice ao4 u1.length cap5⟩, ⟨2, [], .slice ao7 u2.length cap8⟩, ⟨3, [], i6 u3⟩, ⟨9, [], .slice i (playS u0 u1 u2 u3).1.length j⟩, ⟨10, [], i6 (playS u0 u1 u2 u3).2⟩, ⟨11, [], i6 R⟩, ⟨12, [], .slice H A.length I⟩, ⟨13, [], i6 C⟩, ⟨14, [], i6 o⟩, ⟨15, [], pt z 0⟩, ⟨16, [], i6 n⟩, ⟨17, [], i6 n⟩, ⟨108, [], .bool ((decide (f.Jitter > 0)) && (decide ((u2.length : Int) > 0)))⟩] hU := hV.reg; clear hV
     have bo : Fr 268 [] [⟨0, [], .slice ao1 u0.length cap2⟩, ⟨1, [], .slice ao4 u1.length cap5⟩, ⟨2, [], .slice ao7 u2.length cap8⟩, ⟨3, [], i6 u3⟩, ⟨9, [], .slice i (playS u0 u1 u2 u3).1.length j⟩, ⟨10, [], i6 (playS u0 u1 u2 u3).2⟩, ⟨11, [], i6 R⟩, ⟨12, [], .slice H A.length I⟩, ⟨13, [], i6 C⟩, ⟨14, [], i6 o⟩, ⟨15, [], pt z 0⟩, ⟨16, [], i6 n⟩, ⟨17, [], i6 n⟩, ⟨108, [], .bool ((decide (f.Jitter > 0)) && (decide ((u2.length : Int) > 0)))⟩] hU := hW.reg; clear hW
     obtain ⟨nc, co, nd⟩ := m8
     refine wp_then_k fun KJ1492 hKJ1493 => ?_
     have hX : ∀ (bp : Int) (ac : Int) (G : Int), nc bp ac G → ∀ a1 w1, Fr 268 [] [⟨0, [], .slice ao1 u0.length cap2⟩, ⟨1, [], .slice ao4 u1.length cap5⟩, ⟨2, [], .slice ao7 u2.length cap8⟩, ⟨3, [], i6 u3⟩, ⟨9, [], .slice i (playS u0 u1 u2 u3).1.length j⟩, ⟨10, [], i6 (playS u0 u1 u2 u3).2⟩, ⟨11, [], i6 bp⟩, ⟨12, [], .slice H A.length I⟩, ⟨13, [], i6 ac⟩, ⟨14, [], i6 o⟩, ⟨15, [], pt z 0⟩, ⟨16, [], i6 n⟩, ⟨17, [], i6 G⟩] a1 → Mem w.heap.size [] w Z [.row z (e32Sc f) 32, .own tyAsk 44 H I A, .own tySlot 47 i j (playS u0 u1 u2 u3).1] M w1 → KJ1492 a1 w1 := by
      rintro bp ac G ne q6 q7 hY dr; clear bo ad
      refine hKJ1493 _ _ ?_; clear hKJ1493
      have nf := nd bp ac G ne
      refine sqH ?_; intro ng h0
      refine bt hY dr 5 [] [] [(132, .slice H A.length I), (136, .agg #[i6 o, i6 n, i6 G])] ?_; intro q8 h1; clear hY
      refine nw h1 dr (fun b => .slice (sm b) 1 1) [i6 o, i6 n, i6 G] 44 ?_; intro h2 q9 ra h3 ds; clear h1 dr
      obtain ⟨nh, cp⟩ := nf
      refine ap h3 ds 2 (T := tyAsk) (xs := A) (ys := [(⟨o, n, G⟩ : Ask)]) (ao := H) (cap := I) (ao2 := (sm h2)) (cap2 := 1) (t := 42) (e := 44) (bytes := 24) (nog rfl _) rfl (by kernel_rfl) rfl (by kernel_rfl) (by kernel_rfl) (by kernel_rfl) rfl (Src.row ds 0 rfl (RepAll.one (T := tyAsk) (x := (⟨o, n, G⟩ : Ask)) rfl)) nh ?_; intro cq cr rb ni rc h4 h5; clear h3 ds
      have ct : Mem w.heap.size [] w Z [.row h2 [i6 o, i6 n, i6 G] 44, .row z (e32Sc f) 32, .own tyAsk 44 cq cr (A ++ [(⟨o, n, G⟩ : Ask)]), .own tySlot 47 i j (playS u0 u1 u2 u3).1] M ni := h5; clear h5
      refine s1 h4 12 (.slice cq (A ++ [(⟨o, n, G⟩ : Ask)]).length cr) ?_; intro re h6; clear h4
      refine nlH (h0 _ _ ?_); clear h0 ng
      refine sqB h6 ct [] [] [(141, .bool (decide (((A ++ [(⟨o, n, G⟩ : Ask)]).length : Int) > 1000)))] ?_; intro rf cu; clear h6
      refine cd cu (t := decide (((A ++ [(⟨o, n, G⟩ : Ask)]).length : Int) > 1000)) (by kernel_rfl) (fun dt => ?_) (fun dt => ?_)
      ·
       have nj := cp.1 dt; clear cp
       refine rgB cu ct [] [] [(11, i6 2)] ?_; intro rg nk; clear cu
       refine ibn ?_
       refine rd ?_
       exact hP 2 (A ++ [(⟨o, n, G⟩ : Ask)]) ac cq cr nj _ _ ((nk.reg).anyβ _ (by kernel_rfl)) (ct.keep (List.Sublist.cons _ (List.Sublist.cons_cons _ (List.Sublist.cons_cons _ (List.Sublist.cons_cons _ (List.Sublist.slnil))))))
      have nm := cp.2 dt; clear cp
      refine wp_skip ?_
      refine ibn ?_
      refine rd ?_
      exact hP bp (A ++ [(⟨o, n, G⟩ : Ask)]) ac cq cr nm _ _ ((cu.reg).anyβ _ (by kernel_rfl)) (ct.keep (List.Sublist.cons _ (List.Sublist.cons_cons _ (List.Sublist.cons_cons _ (List.Sublist.cons_cons _ (List.Sublist.slnil))))))
     refine cd bo (t := (decide (f.Jitter > 0)) && (decide ((u2.length : Int) > 0))) (by kernel_rfl) (fun du => ?_) (fun du => ?_)
     ·
      have nn := co.1 du; clear co
      refine wp_seq ?_
      refine sqH ?_; intro no h7
      refine bt bo ad 4 [] [] [(109, .slice ao7 u2.length cap8), (110, i6 C), (112, i6 (u2.length : Int))] ?_; intro rh dv; clear bo
      obtain ⟨np, nq⟩ := nn
      refine st dv (i6 (C.tmod (u2.length : Int))) (nog rfl _) rfl (by kernel_rfl) (rem_run dv (g := []) rfl (by kernel_rfl) (by kernel_rfl) np rfl) ?_; intro ri h8; clear dv
      obtain ⟨nr, h9⟩ := nq
      refine ix h8 (T := t6) (xs := u2) hs9 (C.tmod (u2.length : Int)) nr (k := .i64) (e := 3) (bytes := 8) (nog rfl _) rfl (by kernel_rfl) rfl (by kernel_rfl) (by kernel_rfl) (by kernel_rfl) ?_; intro rj rk ns bq rl nt nu nv ia; clear h8
      have cv := h9 bq nt; clear h9
      obtain rfl : ns = ([i6 bq] : List Value) := nv
      refine z1 ia ad 115 nu 0 (i6 bq) rfl ?_; intro rm ib; clear ia
      refine s1 ib 116 (.bool (decide (bq < 0))) ?_; intro nx br; clear ib
      refine nlH (h7 _ _ ?_); clear h7 no
      refine cd br (t := decide (bq < 0)) (by kernel_rfl) (fun dw => ?_) (fun dw => ?_)
      ·
       have ny := cv.1 dw; clear cv
       refine sqB br ad [] [] [(11, i6 3)] ?_; intro rn nz; clear br
       refine wp_exit ?_
       refine thx ?_
       refine thx ?_
       refine ibo (by decide) ?_
       refine thx ?_
       refine thx ?_
       refine ibx ?_
       refine ibn ?_
       refine rd ?_
       exact b1 3 A C H I ny _ _ ((nz.reg).anyβ _ (by kernel_rfl)) (ad.keep (List.Sublist.cons _ (List.Sublist.cons_cons _ (List.Sublist.cons_cons _ (List.Sublist.slnil)))))
      have nA := cv.2 dw; clear cv
      refine wp_skip ?_
      refine thn ?_
      have ic : Fr 268 [] [⟨0, [], .slice ao1 u0.length cap2⟩, ⟨1, [], .slice ao4 u1.length cap5⟩, ⟨2, [], .slice ao7 u2.length cap8⟩, ⟨3, [], i6 u3⟩, ⟨9, [], .slice i (playS u0 u1 u2 u3).1.length j⟩, ⟨10, [], i6 (playS u0 u1 u2 u3).2⟩, ⟨11, [], i6 R⟩, ⟨12, [], .slice H A.length I⟩, ⟨13, [], i6 C⟩, ⟨14, [], i6 o⟩, ⟨15, [], pt z 0⟩, ⟨16, [], i6 n⟩, ⟨17, [], i6 n⟩] nx := br.reg; clear br
      refine sqQH mixed (by kernel_rfl) ad ?_; intro nB id
      refine q1 ic 117 (i6 n) ?_; intro ro ie; clear ic
      refine q1 ie 118 (.slice ao7 u2.length cap8) ?_; intro rp ig; clear ie
      refine q1 ig 119 (i6 C) ?_; intro rq ih; clear ig
      refine q1 ih 120 (.slice ao7 u2.length cap8) ?_; intro rr ii; clear ih
      refine q1 ii 121 (i6 (u2.length : Int)) ?_; intro rs dx; clear ii
      obtain ⟨nC, nD⟩ := nA
      refine qst dx (i6 (C.tmod (u2.length : Int))) (nog rfl _) rfl (by kernel_rfl) (fun v1596 hC => rem_run dx (g := []) rfl (by kernel_rfl) (by kernel_rfl) nC rfl) ?_; intro rt ij; clear dx
      obtain ⟨nE, ik⟩ := nD
      refine qix ij (T := t6) (xs := u2) hs9 (C.tmod (u2.length : Int)) nE (k := .i64) (e := 3) (bytes := 8) (nog rfl _) rfl (by kernel_rfl) rfl (by kernel_rfl) (by kernel_rfl) (by kernel_rfl) ?_; intro ru rv nF aO rx nG nH nI dy; clear ij
      have nJ := ik aO nG; clear ik
      obtain rfl : nF = ([i6 aO] : List Value) := nI
      refine qst dy (i6 aO) (nog rfl _) rfl (by kernel_rfl) (fun v1614 hC => lz dy hC.fz nH 0 (g := []) rfl (by kernel_rfl) (by kernel_rfl) (by kernel_rfl) rfl) ?_; intro ry il; clear dy
      refine q1 il 125 (pt z 4) ?_; intro rz dz; clear il
      refine qst dz (i6 f.Jitter) (nog rfl _) rfl (by kernel_rfl) (fun v1620 hC => ld dz hC 0 (g := []) (b := z) (off := 4) (cs := (e32Sc f)) (ty := 32) rfl (by kernel_rfl) (by kernel_rfl) (by kernel_rfl) (by kernel_rfl) rfl) ?_; intro rA im; clear dz
      refine q1 im 127 (i6 (w64 (f.Jitter + 1))) ?_; intro rB dA; clear im
      obtain ⟨nK, nL⟩ := nJ
      refine qst dA (i6 (aO.tmod (w64 (f.Jitter + 1)))) (nog rfl _) rfl (by kernel_rfl) (fun v1626 hC => rem_run dA (g := []) rfl (by kernel_rfl) (by kernel_rfl) nK rfl) ?_; intro rC io; clear dA
      refine q1 io 129 (i6 (w64 (n + (aO.tmod (w64 (f.Jitter + 1)))))) ?_; intro rD ip; clear io
      refine q1 ip 17 (i6 (w64 (n + (aO.tmod (w64 (f.Jitter + 1)))))) ?_; intro rE iq; clear ip
      refine qnl (id _ ?_); clear id nB; intro rF ir; clear ad
      refine rgB iq ir [] [] [(13, i6 (w64 (C + 1)))] ?_; intro rG nM; clear iq
      refine rd ?_
      exact hX R (w64 (C + 1)) (w64 (n + (aO.tmod (w64 (f.Jitter + 1))))) nL _ _ ((nM.reg).anyβ _ (by kernel_rfl)) (ir.keep (List.Sublist.cons_cons _ (List.Sublist.cons_cons _ (List.Sublist.cons_cons _ (List.Sublist.slnil)))))
     have nN := co.2 du; clear co
     refine wp_skip ?_
     refine rd ?_
     exact hX R C n nN _ _ ((bo.reg).anyβ _ (by kernel_rfl)) (ad.keep (List.Sublist.cons_cons _ (List.Sublist.cons_cons _ (List.Sublist.cons_cons _ (List.Sublist.slnil)))))
    have nO := cm.2 dp; clear cm
    refine wp_exit ?_
    refine thx ?_
    refine thx ?_
    refine ibx ?_
    refine ibn ?_
    refine rd ?_
    exact b1 R A C H I nO _ _ ((cn.reg).anyβ _ (by kernel_rfl)) (ad.keep (List.Sublist.cons _ (List.Sublist.cons_cons _ (List.Sublist.cons_cons _ (List.Sublist.slnil)))))
   refine cd bn (t := decide (aM > 1000000)) (by kernel_rfl) (fun dB => ?_) (fun dB => ?_)
   ·
    have nP := ci.1 dB; clear ci
    refine rgB bn S [] [] [(11, i6 3)] ?_; intro rH nQ; clear bn
    refine rd ?_
    exact hy 3 nP _ _ ((nQ.reg).anyβ _ (by kernel_rfl)) (S.keep (List.Sublist.cons_cons _ (List.Sublist.cons_cons _ (List.Sublist.cons_cons _ (List.Sublist.slnil)))))
   have nR := ci.2 dB; clear ci
   refine wp_skip ?_
   refine rd ?_
   exact hy al nR _ _ ((bn.reg).anyβ _ (by kernel_rfl)) (S.keep (List.Sublist.cons_cons _ (List.Sublist.cons_cons _ (List.Sublist.cons_cons _ (List.Sublist.slnil)))))
  have nT := bZ.2 c7; clear bZ
  refine wp_exit ?_
  refine thx ?_
  refine thx ?_
  refine ibx ?_
  refine rd ?_
  exact iG al a P l nT _ _ ((b0.reg).anyβ _ (by kernel_rfl)) (aI.keep (List.Sublist.cons_cons _ (List.Sublist.cons_cons _ (List.Sublist.slnil))))
 refine cd a3 (t := ((dcheckS u0) == 0) && (((((u1.length : Int) != (u0.length : Int)) || (decide ((u2.length : Int) > 1000))) || (decide (u3 < 0))) || (decide (u3 > 1000000)))) (by kernel_rfl) (fun dC => ?_) (fun dC => ?_)
 ·
  have nU := bs.1 dC; clear bs
  refine rgB a3 a2 [] [] [(11, i6 2)] ?_; intro rI nV; clear a3
  refine rd ?_
  exact dU 2 nU _ _ ((nV.reg).anyβ _ (by kernel_rfl)) (a2.keep (List.Sublist.cons_cons _ (List.Sublist.slnil)))
 have nW := bs.2 dC; clear bs
 refine wp_skip ?_
 refine rd ?_
 exact dU (dcheckS u0) nW _ _ ((a3.reg).anyβ _ (by kernel_rfl)) (a2.keep (List.Sublist.cons_cons _ (List.Sublist.slnil)))

end Go.Proofs.YtginlmgkimfjmaaDoor
