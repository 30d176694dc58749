/- Texts put together (pure ones, or walks made by program). -/
import Derived.Test.YtginlmgkimfjmaaKb0
import Derived.Test.YtginlmgkimfjmaaKb1
import Derived.Test.YtginlmgkimfjmaaKb2
import Derived.Test.YtginlmgkimfjmaaKb3
set_option linter.unusedVariables false
set_option linter.unusedSimpArgs false
set_option maxRecDepth 100000
set_option maxHeartbeats 0
namespace Go.Proofs.Ytginlmgkimfjmaa
open Go.Sy Go.RowKit
abbrev e110Dm (X : Job) : List Value := [i6 X.task, i6 X.from_, i6 X.asked]
theorem dWorst_fun (u0 : List Task) (ao1 : Option Addr) (cap2 : Nat) (Z : Fz) (w : World) (hs3 : SlR tyTask Z ao1 cap2 u0) (hZ : Z.on w) : Calls Try.prog 15 #[.slice ao1 u0.length cap2] w fun e w' => ∃ (ao1001 : Option Addr) (cap1002 : Nat) (Z' : Fz), e = .returned (.tuple #[.slice ao1001 (WorstS u0).1.length cap1002, i6 (WorstS u0).2]) ∧ Mem w.heap.size [] w Z [.own tyStop 40 ao1001 cap1002 (WorstS u0).1] Z' w' :=
  (dWorst_walk u0 ao1 cap2 Z w hs3 hZ (dWorst_ok u0)).mono fun _ _ ⟨r, h0, h1, h2, he, hk, hm⟩ => by subst hk; exact ⟨h0, h1, h2, he, hm⟩

theorem sins_walk (u0 : List Job) (u1 : Int) (u2 : Int) (u3 : Job → Job → Int) (ao1 : Option Addr) (cap2 : Nat) (fid3 : Nat) (caps4 : Array Value) (B : Nat) (w0 : World) (Z0 : Fz) (Rr : List Res) (Z : Fz) (w : World) (hf5 : ∀ (Z1 : Fz) (w1 : World), Z.le Z1 → Z1.on w1 → ∀ (x0 : Job) (x1 : Job), Calls Try.prog fid3 (#[.agg #[i6 x0.task, i6 x0.from_, i6 x0.asked], .agg #[i6 x1.task, i6 x1.from_, i6 x1.asked]] ++ caps4) w1 fun e w2 => e = .returned (i6 (u3 x0 x1)) ∧ Below w1.heap.size w1 w2) (hg6 : ∀ x w, Sem.run Try.prog (callFunc fid3 x) w = .ok (.enter fid3 x) w) (hM0 : Mem B [] w0 Z0 ((.own tyJob 110 ao1 cap2 u0) :: Rr) Z w) (hZ : Z.on w) {K : (List Job) → Prop} (hp : sins_vc u0 u1 u2 u3 K) : Calls Try.prog 111 #[.slice ao1 u0.length cap2, i6 u1, i6 u2, .func (.func fid3) #[] caps4] w fun e w' => ∃ (r : (List Job)) (Z' : Fz), e = .returned (.tuple #[]) ∧ K r ∧ Fz.le Z Z' ∧ (r.length = u0.length) ∧ Mem B [] w0 Z0 ((.own tyJob 110 ao1 cap2 r) :: Rr) Z' w' := by
 refine enter0 Try.func111 rfl rfl (by kernel_rfl) ?_; intro a0 bN; have y := Fz.le.refl Z
 have cP := hp (hM0.ownSmall 0 rfl); clear hp
 refine sqB bN hM0 [] [] [(8, i6 (w64 (u1 + 1)))] ?_; intro bO bP; clear bN
 refine wp_block ?_
 have bQ : Fr 53 [] [⟨0, [], .slice ao1 u0.length cap2⟩, ⟨1, [], i6 u1⟩, ⟨2, [], i6 u2⟩, ⟨3, [], .func (.func fid3) #[] caps4⟩, ⟨8, [], i6 (w64 (u1 + 1))⟩] bO := bP.reg; clear bP
 have bR : Fr 53 [] [⟨0, [], .slice ao1 u0.length cap2⟩, ⟨1, [], i6 u1⟩, ⟨2, [], i6 u2⟩, ⟨3, [], .func (.func fid3) #[] caps4⟩, ⟨8, [], i6 (w64 (u1 + 1))⟩] bO := bQ.reg; clear bQ
 obtain ⟨cQ, cR, cS, cT⟩ := cP
 refine lp (ι := Int × (List Job)) (fun s => [⟨0, [], .slice ao1 s.2.length cap2⟩, ⟨1, [], i6 u1⟩, ⟨2, [], i6 u2⟩, ⟨3, [], .func (.func fid3) #[] caps4⟩, ⟨8, [], i6 s.1⟩]) (fun s => ((.own tyJob 110 ao1 cap2 s.2) :: Rr)) (fun s => Z) (fun s => cQ s.1 s.2) (fun s => cR s.1 s.2) ⟨w64 (u1 + 1), u0⟩ cS (by exact bR.reg) (by exact hM0) ?_
 rintro ⟨x8, bo⟩ cU cV cW bS bT
 have bU : Fr 53 [] [⟨0, [], .slice ao1 bo.length cap2⟩, ⟨1, [], i6 u1⟩, ⟨2, [], i6 u2⟩, ⟨3, [], .func (.func fid3) #[] caps4⟩, ⟨8, [], i6 x8⟩] cV := bS; clear bS bR
 have bs : Mem B [] w0 Z0 ((.own tyJob 110 ao1 cap2 bo) :: Rr) Z cW := bT; clear bT hM0
 have bx := cT x8 bo cU
 refine wp_seq ?_
 refine sqB bU bs [] [] [(14, .bool (decide (x8 < u2)))] ?_; intro e8 bt; clear bU
 refine cd bt (t := decide (x8 < u2)) (by kernel_rfl) (fun bD => ?_) (fun bD => ?_)
 ·
  have cX := bx.1 bD; clear bx
  refine wp_skip ?_
  refine thn ?_
  refine wp_seq ?_
  refine wp_block ?_
  refine sqB bt bs [] [] [(9, i6 x8)] ?_; intro bV bW; clear bt
  refine wp_block ?_
  have bX : Fr 53 [] [⟨0, [], .slice ao1 bo.length cap2⟩, ⟨1, [], i6 u1⟩, ⟨2, [], i6 u2⟩, ⟨3, [], .func (.func fid3) #[] caps4⟩, ⟨8, [], i6 x8⟩, ⟨9, [], i6 x8⟩] bV := bW.reg; clear bW
  have bY : Fr 53 [] [⟨0, [], .slice ao1 bo.length cap2⟩, ⟨1, [], i6 u1⟩, ⟨2, [], i6 u2⟩, ⟨3, [], .func (.func fid3) #[] caps4⟩, ⟨8, [], i6 x8⟩, ⟨9, [], i6 x8⟩] bV := bX.reg; clear bX
  obtain ⟨cY, cZ, c0, c1⟩ := cX
  refine lp (ι := Int × (List Job)) (fun s => [⟨0, [], .slice ao1 s.2.length cap2⟩, ⟨1, [], i6 u1⟩, ⟨2, [], i6 u2⟩, ⟨3, [], .func (.func fid3) #[] caps4⟩, ⟨8, [], i6 x8⟩, ⟨9, [], i6 s.1⟩]) (fun s => ((.own tyJob 110 ao1 cap2 s.2) :: Rr)) (fun s => Z) (fun s => cY s.1 s.2) (fun s => cZ s.1 s.2) ⟨x8, bo⟩ c0 (by exact bY.reg) (by exact bs) ?_
  rintro ⟨f, g⟩ c2 ah c3 bZ b0
  have b1 : Fr 53 [] [⟨0, [], .slice ao1 g.length cap2⟩, ⟨1, [], i6 u1⟩, ⟨2, [], i6 u2⟩, ⟨3, [], .func (.func fid3) #[] caps4⟩, ⟨8, [], i6 x8⟩, ⟨9, [], i6 f⟩] ah := bZ; clear bZ bY
  have bE : Mem B [] w0 Z0 ((.own tyJob 110 ao1 cap2 g) :: Rr) Z c3 := b0; clear b0 bs
  have bz := c1 f g c2
  refine wp_seq ?_
  have bA : Fr 53 [] [⟨0, [], .slice ao1 g.length cap2⟩, ⟨1, [], i6 u1⟩, ⟨2, [], i6 u2⟩, ⟨3, [], .func (.func fid3) #[] caps4⟩, ⟨8, [], i6 x8⟩, ⟨9, [], i6 f⟩] ah := b1.reg; clear b1
  rcases Bool.eq_false_or_eq_true (decide (f > u1)) with bu | bu
  ·
   have c4 := bz.1 bu; clear bz
   have c5 : Fr 53 [] [⟨0, [], .slice ao1 g.length cap2⟩, ⟨1, [], i6 u1⟩, ⟨2, [], i6 u2⟩, ⟨3, [], .func (.func fid3) #[] caps4⟩, ⟨8, [], i6 x8⟩, ⟨9, [], i6 f⟩] ah := bA.reg; clear bA
   obtain ⟨c6, b2⟩ := c4
   obtain ⟨P, c7, c8⟩ := gxq b2 (by omega); clear b2
   obtain ⟨bF, b3⟩ := c8
   obtain ⟨n, bG, bB⟩ := gxq b3 (by omega); clear b3
   refine wp_seq (any_invE mixed [[], [], [0, 1], [2], [3], [3], [3], [3, 5, 6], [3, 7], [3], [3], [3, 10], [3, 9, 11], [3, 12], [3, 4, 8, 13], [3, 14], [3, 15]] 17 (fun S a w1 => ∃ (ad : Nat) (ae : Nat) (bv : Value) (bw : Value) (bq : Value) (bp : Value) (aJ : Value) (aY : Value) (aZ : Value) (aR : Value) (aK : Value) (a1 : Value) (a9 : Value) (a2 : Value) (aS : Value) (aL : Value) (az : Value) (ak : Value) (aj : Value) (ba : Res), Fz.le Z Z ∧ Fr 53 [] [⟨0, [], .slice ao1 g.length cap2⟩, ⟨1, [], i6 u1⟩, ⟨2, [], i6 u2⟩, ⟨3, [], .func (.func fid3) #[] caps4⟩, ⟨8, [], i6 x8⟩, ⟨9, [], i6 f⟩, ⟨18, [], bv⟩, ⟨19, [], bw⟩, ⟨20, [], bq⟩, ⟨21, [], bp⟩, ⟨22, [], aJ⟩, ⟨23, [], aY⟩, ⟨24, [], aZ⟩, ⟨25, [], aR⟩, ⟨26, [], aK⟩, ⟨27, [], a1⟩, ⟨28, [], a9⟩, ⟨29, [], a2⟩, ⟨30, [], aS⟩, ⟨31, [], aL⟩, ⟨32, [], az⟩, ⟨33, [], ak⟩, ⟨34, [], aj⟩] a ∧ Mem B [] w0 Z0 (ba :: Rr) Z w1 ∧ (S 0 = true → bv = i6 f) ∧ (S 1 = true → bw = i6 u1) ∧ (S 2 = true → bq = .bool true) ∧ (S 3 = true → bp = .bool true) ∧ (S 4 = true → aJ = .func (.func fid3) #[] caps4) ∧ (S 5 = true → aY = .slice ao1 g.length cap2) ∧ (S 6 = true → aZ = i6 f) ∧ (S 7 = true → aR = .pointer (some ⟨ad, f.toNat * 3, none⟩)) ∧ (S 8 = true → aK = .agg (e110Dm P).toArray) ∧ (S 9 = true → a1 = .slice ao1 g.length cap2) ∧ (S 10 = true → a9 = i6 f) ∧ (S 11 = true → a2 = i6 (w64 (f - 1))) ∧ (S 12 = true → aS = .pointer (some ⟨ae, (w64 (f - 1)).toNat * 3, none⟩)) ∧ (S 13 = true → aL = .agg (e110Dm n).toArray) ∧ (S 14 = true → az = i6 (u3 P n)) ∧ (S 15 = true → ak = .bool (decide ((u3 P n) < 0))) ∧ (S 16 = true → aj = .bool (decide ((u3 P n) < 0))) ∧ (ba = .own tyJob 110 ao1 cap2 g) ∧ (S 7 = true → ao1 = some ⟨ad, 0, none⟩) ∧ (S 12 = true → ao1 = some ⟨ae, 0, none⟩)) ?h0 ?hs ?hE)
   case h0 =>
    have c9 := c5.any 18
    have da := c9.any 19
    have db := da.any 20
    have dc := db.any 21
    have dd := dc.any 22
    have de := dd.any 23
    have df := de.any 24
    have dg := df.any 25
    have dh := dg.any 26
    have di := dh.any 27
    have dj := di.any 28
    have dk := dj.any 29
    have dl := dk.any 30
    have dm := dl.any 31
    have dn := dm.any 32
    have dp := dn.any 33
    have dq := dp.any 34
    have dr := (bE.perm lpr).drew
    exact ⟨0, 0, ah.tmps.getD 18 undef, ah.tmps.getD 19 undef, ah.tmps.getD 20 undef, ah.tmps.getD 21 undef, ah.tmps.getD 22 undef, ah.tmps.getD 23 undef, ah.tmps.getD 24 undef, ah.tmps.getD 25 undef, ah.tmps.getD 26 undef, ah.tmps.getD 27 undef, ah.tmps.getD 28 undef, ah.tmps.getD 29 undef, ah.tmps.getD 30 undef, ah.tmps.getD 31 undef, ah.tmps.getD 32 undef, ah.tmps.getD 33 undef, ah.tmps.getD 34 undef, .own tyJob 110 ao1 cap2 g, Fz.le.refl _, dq.reg, dr, ff, ff, ff, ff, ff, ff, ff, ff, ff, ff, ff, ff, ff, ff, ff, ff, ff, rfl, ff, ff⟩
   case hs =>
    intro S hcl i o hil hi hSi hpre a w1 hI; refine Go.Sy.hid ?_; intro G hG; obtain ⟨ad, ae, bv, bw, bq, bp, aJ, aY, aZ, aR, aK, a1, a9, a2, aS, aL, az, ak, aj, ba, V, hFx, hMx, aA, aB, aT, a3, bb, bc, bd, bi, bj, be, bf, bh, bk, bl, bC, bH, b4, Q, X, hI⟩ := hI; have Y := hI; clear hI
    have hcase : i = 0 ∨ i = 1 ∨ i = 2 ∨ i = 3 ∨ i = 4 ∨ i = 5 ∨ i = 6 ∨ i = 7 ∨ i = 8 ∨ i = 9 ∨ i = 10 ∨ i = 11 ∨ i = 12 ∨ i = 13 ∨ i = 14 ∨ i = 15 ∨ i = 16 := by clear hi; omega
    rcases hcase with rfl | rfl | rfl | rfl | rfl | rfl | rfl | rfl | rfl | rfl | rfl | rfl | rfl | rfl | rfl | rfl | rfl
    ·
     obtain rfl := oj hi
     have I := hSi
     have C := ngF hcl 2 0 I
     have j := ngF hcl 3 2 C
     have af := ngF hcl 4 3 j
     have R := ngF hcl 5 3 j
     have O := ngF hcl 6 3 j
     have D := ngF hcl 7 3 j
     have F := ngF hcl 8 3 j
     have N := ngF hcl 9 3 j
     have U := ngF hcl 10 3 j
     have M := ngF hcl 11 3 j
     have q := ngF hcl 12 3 j
     have H := ngF hcl 13 3 j
     have l := ngF hcl 14 3 j
     have m := ngF hcl 15 3 j
     have p := ngF hcl 16 3 j
     obtain rfl := Q
     refine hG (any_step ?_); clear hG G; intro A J hJ
     have y := Fz.le.trans y V
     refine s1 hFx 18 (i6 f) ?_; intro e9 ds; clear hFx
     refine nl (qnI (hJ _ _ ?_)); clear hJ J
     exact ⟨ad, ae, i6 f, bw, bq, bp, aJ, aY, aZ, aR, aK, a1, a9, a2, aS, aL, az, ak, aj, .own tyJob 110 ao1 cap2 g, V, ds.reg, hMx.perm lpr, kf, aB, (nt C), (nt j), (nt af), (nt R), (nt O), (nt D), (nt F), (nt N), (nt U), (nt M), (nt q), (nt H), (nt l), (nt m), (nt p), rfl, (nt D), (nt q)⟩
    ·
     obtain rfl := oj hi
     have L := hSi
     have C := ngF hcl 2 1 L
     have j := ngF hcl 3 2 C
     have af := ngF hcl 4 3 j
     have R := ngF hcl 5 3 j
     have O := ngF hcl 6 3 j
     have D := ngF hcl 7 3 j
     have F := ngF hcl 8 3 j
     have N := ngF hcl 9 3 j
     have U := ngF hcl 10 3 j
     have M := ngF hcl 11 3 j
     have q := ngF hcl 12 3 j
     have H := ngF hcl 13 3 j
     have l := ngF hcl 14 3 j
     have m := ngF hcl 15 3 j
     have p := ngF hcl 16 3 j
     obtain rfl := Q
     refine hG (any_step ?_); clear hG G; intro A J hJ
     have y := Fz.le.trans y V
     refine s1 hFx 19 (i6 u1) ?_; intro fa dt; clear hFx
     refine nl (qnI (hJ _ _ ?_)); clear hJ J
     exact ⟨ad, ae, bv, i6 u1, bq, bp, aJ, aY, aZ, aR, aK, a1, a9, a2, aS, aL, az, ak, aj, .own tyJob 110 ao1 cap2 g, V, dt.reg, hMx.perm lpr, aA, kf, (nt C), (nt j), (nt af), (nt R), (nt O), (nt D), (nt F), (nt N), (nt U), (nt M), (nt q), (nt H), (nt l), (nt m), (nt p), rfl, (nt D), (nt q)⟩
    ·
     obtain rfl := oj hi
     have L := hpre 1 (by kernel_rfl)
     have I := hpre 0 (by kernel_rfl)
     have C := hSi
     have j := ngF hcl 3 2 C
     have af := ngF hcl 4 3 j
     have R := ngF hcl 5 3 j
     have O := ngF hcl 6 3 j
     have D := ngF hcl 7 3 j
     have F := ngF hcl 8 3 j
     have N := ngF hcl 9 3 j
     have U := ngF hcl 10 3 j
     have M := ngF hcl 11 3 j
     have q := ngF hcl 12 3 j
     have H := ngF hcl 13 3 j
     have l := ngF hcl 14 3 j
     have m := ngF hcl 15 3 j
     have p := ngF hcl 16 3 j
     obtain rfl := aA I
     obtain rfl := aB L
     obtain rfl := Q
     refine hG (any_step ?_); clear hG G; intro A J hJ
     have y := Fz.le.trans y V
     refine s1 hFx 20 (.bool (decide (f > u1))) ?_; intro fb b5; clear hFx
     have du := b5.reval (d := 20) (c := []) (v := .bool (decide (f > u1))) (by kernel_rfl) (.bool true) (by rw [bu]); clear b5
     refine nl (qnI (hJ _ _ ?_)); clear hJ J
     exact ⟨ad, ae, i6 f, i6 u1, .bool true, bp, aJ, aY, aZ, aR, aK, a1, a9, a2, aS, aL, az, ak, aj, .own tyJob 110 ao1 cap2 g, V, du.reg, hMx.perm lpr, kf, kf, kf, (nt j), (nt af), (nt R), (nt O), (nt D), (nt F), (nt N), (nt U), (nt M), (nt q), (nt H), (nt l), (nt m), (nt p), rfl, (nt D), (nt q)⟩
    ·
     obtain rfl := oj hi
     have C := hpre 2 (by kernel_rfl)
     have L := hcl 2 1 (by kernel_rfl) C
     have I := hcl 2 0 (by kernel_rfl) C
     have j := hSi
     have af := ngF hcl 4 3 j
     have R := ngF hcl 5 3 j
     have O := ngF hcl 6 3 j
     have D := ngF hcl 7 3 j
     have F := ngF hcl 8 3 j
     have N := ngF hcl 9 3 j
     have U := ngF hcl 10 3 j
     have M := ngF hcl 11 3 j
     have q := ngF hcl 12 3 j
     have H := ngF hcl 13 3 j
     have l := ngF hcl 14 3 j
     have m := ngF hcl 15 3 j
     have p := ngF hcl 16 3 j
     obtain rfl := aA I
     obtain rfl := aB L
     obtain rfl := aT C
     obtain rfl := Q
     refine hG (any_step ?_); clear hG G; intro A J hJ
     have y := Fz.le.trans y V
     refine s1 hFx 21 (.bool true) ?_; intro fc dv; clear hFx
     refine nl (qnI (hJ _ _ ?_)); clear hJ J
     exact ⟨ad, ae, i6 f, i6 u1, .bool true, .bool true, aJ, aY, aZ, aR, aK, a1, a9, a2, aS, aL, az, ak, aj, .own tyJob 110 ao1 cap2 g, V, dv.reg, hMx.perm lpr, kf, kf, kf, kf, (nt af), (nt R), (nt O), (nt D), (nt F), (nt N), (nt U), (nt M), (nt q), (nt H), (nt l), (nt m), (nt p), rfl, (nt D), (nt q)⟩
    ·
     obtain rfl := oj hi
     have j := hpre 3 (by kernel_rfl)
     have C := hcl 3 2 (by kernel_rfl) j
     have L := hcl 2 1 (by kernel_rfl) C
     have I := hcl 2 0 (by kernel_rfl) C
     have af := hSi
     have l := ngF hcl 14 4 af
     have m := ngF hcl 15 14 l
     have p := ngF hcl 16 15 m
     obtain rfl := aA I
     obtain rfl := aB L
     obtain rfl := aT C
     obtain rfl := a3 j
     obtain rfl := Q
     refine hG (any_stepG ?_); clear hG G; intro J hJ
     have y := Fz.le.trans y V
     refine st hFx (.func (.func fid3) #[] caps4) (by rw [wanted_of hFx (b := true) rfl rfl (by kernel_rfl) (by kernel_rfl)]; rfl) rfl (by kernel_rfl) (p0 hFx (by kernel_rfl)) ?_; intro fd dw; clear hFx
     refine nl (qnI (hJ _ _ ?_)); clear hJ J
     exact ⟨ad, ae, i6 f, i6 u1, .bool true, .bool true, .func (.func fid3) #[] caps4, aY, aZ, aR, aK, a1, a9, a2, aS, aL, az, ak, aj, .own tyJob 110 ao1 cap2 g, V, dw.reg, hMx.perm lpr, kf, kf, kf, kf, kf, bc, bd, bi, bj, be, bf, bh, bk, bl, (nt l), (nt m), (nt p), rfl, X, Y⟩
    ·
     obtain rfl := oj hi
     have j := hpre 3 (by kernel_rfl)
     have C := hcl 3 2 (by kernel_rfl) j
     have L := hcl 2 1 (by kernel_rfl) C
     have I := hcl 2 0 (by kernel_rfl) C
     have R := hSi
     have D := ngF hcl 7 5 R
     have F := ngF hcl 8 7 D
     have l := ngF hcl 14 8 F
     have m := ngF hcl 15 14 l
     have p := ngF hcl 16 15 m
     obtain rfl := aA I
     obtain rfl := aB L
     obtain rfl := aT C
     obtain rfl := a3 j
     obtain rfl := Q
     refine hG (any_stepG ?_); clear hG G; intro J hJ
     have y := Fz.le.trans y V
     refine st hFx (.slice ao1 g.length cap2) (by rw [wanted_of hFx (b := true) rfl rfl (by kernel_rfl) (by kernel_rfl)]; rfl) rfl (by kernel_rfl) (p0 hFx (by kernel_rfl)) ?_; intro fe dx; clear hFx
     refine nl (qnI (hJ _ _ ?_)); clear hJ J
     exact ⟨ad, ae, i6 f, i6 u1, .bool true, .bool true, aJ, .slice ao1 g.length cap2, aZ, aR, aK, a1, a9, a2, aS, aL, az, ak, aj, .own tyJob 110 ao1 cap2 g, V, dx.reg, hMx.perm lpr, kf, kf, kf, kf, bb, kf, bd, (nt D), (nt F), be, bf, bh, bk, bl, (nt l), (nt m), (nt p), rfl, (nt D), Y⟩
    ·
     obtain rfl := oj hi
     have j := hpre 3 (by kernel_rfl)
     have C := hcl 3 2 (by kernel_rfl) j
     have L := hcl 2 1 (by kernel_rfl) C
     have I := hcl 2 0 (by kernel_rfl) C
     have O := hSi
     have D := ngF hcl 7 6 O
     have F := ngF hcl 8 7 D
     have l := ngF hcl 14 8 F
     have m := ngF hcl 15 14 l
     have p := ngF hcl 16 15 m
     obtain rfl := aA I
     obtain rfl := aB L
     obtain rfl := aT C
     obtain rfl := a3 j
     obtain rfl := Q
     refine hG (any_stepG ?_); clear hG G; intro J hJ
     have y := Fz.le.trans y V
     refine st hFx (i6 f) (by rw [wanted_of hFx (b := true) rfl rfl (by kernel_rfl) (by kernel_rfl)]; rfl) rfl (by kernel_rfl) (p0 hFx (by kernel_rfl)) ?_; intro fg dy; clear hFx
     refine nl (qnI (hJ _ _ ?_)); clear hJ J
     exact ⟨ad, ae, i6 f, i6 u1, .bool true, .bool true, aJ, aY, i6 f, aR, aK, a1, a9, a2, aS, aL, az, ak, aj, .own tyJob 110 ao1 cap2 g, V, dy.reg, hMx.perm lpr, kf, kf, kf, kf, bb, bc, kf, (nt D), (nt F), be, bf, bh, bk, bl, (nt l), (nt m), (nt p), rfl, (nt D), Y⟩
    ·
     obtain rfl := oj hi
     have O := hpre 6 (by kernel_rfl)
     have R := hpre 5 (by kernel_rfl)
     have j := hpre 3 (by kernel_rfl)
     have C := hcl 3 2 (by kernel_rfl) j
     have L := hcl 2 1 (by kernel_rfl) C
     have I := hcl 2 0 (by kernel_rfl) C
     have D := hSi
     have F := ngF hcl 8 7 D
     have l := ngF hcl 14 8 F
     have m := ngF hcl 15 14 l
     have p := ngF hcl 16 15 m
     obtain rfl := aA I
     obtain rfl := aB L
     obtain rfl := aT C
     obtain rfl := a3 j
     obtain rfl := bc R
     obtain rfl := bd O
     obtain rfl := Q
     refine hG (any_stepG ?_); clear hG G; intro J hJ
     have y := Fz.le.trans y V
     refine ixo hFx hMx 0 (T := tyJob) (xs := g) f (by simpa only [List.length_set] using c6) (k := .i64) (e := 110) (bytes := 24) (by rw [wanted_of hFx (b := true) rfl rfl (by kernel_rfl) (by kernel_rfl)]; rfl) rfl (by kernel_rfl) rfl (by kernel_rfl) (by kernel_rfl) rfl (by kernel_rfl) ?_; intro b6 fh dz dA; clear hFx
     refine nl (qnI (hJ _ _ ?_)); clear hJ J
     exact ⟨b6, ae, i6 f, i6 u1, .bool true, .bool true, aJ, .slice ao1 g.length cap2, i6 f, .pointer (some ⟨b6, f.toNat * 3, none⟩), aK, a1, a9, a2, aS, aL, az, ak, aj, .own tyJob 110 ao1 cap2 g, V, dA.reg, hMx.perm lpr, kf, kf, kf, kf, bb, kf, kf, kf, (nt F), be, bf, bh, bk, bl, (nt l), (nt m), (nt p), rfl, (fun _ => dz), Y⟩
    ·
     obtain rfl := oj hi
     have D := hpre 7 (by kernel_rfl)
     have j := hpre 3 (by kernel_rfl)
     have O := hcl 7 6 (by kernel_rfl) D
     have R := hcl 7 5 (by kernel_rfl) D
     have C := hcl 3 2 (by kernel_rfl) j
     have L := hcl 2 1 (by kernel_rfl) C
     have I := hcl 2 0 (by kernel_rfl) C
     have F := hSi
     have l := ngF hcl 14 8 F
     have m := ngF hcl 15 14 l
     have p := ngF hcl 16 15 m
     obtain rfl := aA I
     obtain rfl := aB L
     obtain rfl := aT C
     obtain rfl := a3 j
     obtain rfl := bc R
     obtain rfl := bd O
     obtain rfl := bi D
     obtain rfl := Q
     refine hG (any_stepG ?_); clear hG G; intro J hJ
     have y := Fz.le.trans y V
     have b7 := X D
     obtain ⟨dB, dC, dD⟩ := own_elx hMx 0 (T := tyJob) (xs := g) rfl b7 f.toNat c7
     obtain rfl : dB = ((e110Dm P) : List Value) := dC
     refine lc2 hFx 26 3 (e110Dm P) dD rfl ?_ (hw := (by rw [wanted_of hFx (b := true) rfl rfl (by kernel_rfl) (by kernel_rfl)]; rfl)); intro fi dE; clear hFx
     refine nl (qnI (hJ _ _ ?_)); clear hJ J
     exact ⟨ad, ae, i6 f, i6 u1, .bool true, .bool true, aJ, .slice ao1 g.length cap2, i6 f, .pointer (some ⟨ad, f.toNat * 3, none⟩), .agg (e110Dm P).toArray, a1, a9, a2, aS, aL, az, ak, aj, .own tyJob 110 ao1 cap2 g, V, dE.reg, hMx.perm lpr, kf, kf, kf, kf, bb, kf, kf, kf, kf, be, bf, bh, bk, bl, (nt l), (nt m), (nt p), rfl, (fun _ => b7), Y⟩
    ·
     obtain rfl := oj hi
     have j := hpre 3 (by kernel_rfl)
     have C := hcl 3 2 (by kernel_rfl) j
     have L := hcl 2 1 (by kernel_rfl) C
     have I := hcl 2 0 (by kernel_rfl) C
     have N := hSi
     have q := ngF hcl 12 9 N
     have H := ngF hcl 13 12 q
     have l := ngF hcl 14 13 H
     have m := ngF hcl 15 14 l
     have p := ngF hcl 16 15 m
     obtain rfl := aA I
     obtain rfl := aB L
     obtain rfl := aT C
     obtain rfl := a3 j
     obtain rfl := Q
     refine hG (any_stepG ?_); clear hG G; intro J hJ
     have y := Fz.le.trans y V
     refine st hFx (.slice ao1 g.length cap2) (by rw [wanted_of hFx (b := true) rfl rfl (by kernel_rfl) (by kernel_rfl)]; rfl) rfl (by kernel_rfl) (p0 hFx (by kernel_rfl)) ?_; intro fj dF; clear hFx
     refine nl (qnI (hJ _ _ ?_)); clear hJ J
     exact ⟨ad, ae, i6 f, i6 u1, .bool true, .bool true, aJ, aY, aZ, aR, aK, .slice ao1 g.length cap2, a9, a2, aS, aL, az, ak, aj, .own tyJob 110 ao1 cap2 g, V, dF.reg, hMx.perm lpr, kf, kf, kf, kf, bb, bc, bd, bi, bj, kf, bf, bh, (nt q), (nt H), (nt l), (nt m), (nt p), rfl, X, (nt q)⟩
    ·
     obtain rfl := oj hi
     have j := hpre 3 (by kernel_rfl)
     have C := hcl 3 2 (by kernel_rfl) j
     have L := hcl 2 1 (by kernel_rfl) C
     have I := hcl 2 0 (by kernel_rfl) C
     have U := hSi
     have M := ngF hcl 11 10 U
     have q := ngF hcl 12 11 M
     have H := ngF hcl 13 12 q
     have l := ngF hcl 14 13 H
     have m := ngF hcl 15 14 l
     have p := ngF hcl 16 15 m
     obtain rfl := aA I
     obtain rfl := aB L
     obtain rfl := aT C
     obtain rfl := a3 j
     obtain rfl := Q
     refine hG (any_stepG ?_); clear hG G; intro J hJ
     have y := Fz.le.trans y V
     refine st hFx (i6 f) (by rw [wanted_of hFx (b := true) rfl rfl (by kernel_rfl) (by kernel_rfl)]; rfl) rfl (by kernel_rfl) (p0 hFx (by kernel_rfl)) ?_; intro fk dG; clear hFx
     refine nl (qnI (hJ _ _ ?_)); clear hJ J
     exact ⟨ad, ae, i6 f, i6 u1, .bool true, .bool true, aJ, aY, aZ, aR, aK, a1, i6 f, a2, aS, aL, az, ak, aj, .own tyJob 110 ao1 cap2 g, V, dG.reg, hMx.perm lpr, kf, kf, kf, kf, bb, bc, bd, bi, bj, be, kf, (nt M), (nt q), (nt H), (nt l), (nt m), (nt p), rfl, X, (nt q)⟩
    ·
     obtain rfl := oj hi
     have U := hpre 10 (by kernel_rfl)
     have j := hpre 3 (by kernel_rfl)
     have C := hcl 3 2 (by kernel_rfl) j
     have L := hcl 2 1 (by kernel_rfl) C
     have I := hcl 2 0 (by kernel_rfl) C
     have M := hSi
     have q := ngF hcl 12 11 M
     have H := ngF hcl 13 12 q
     have l := ngF hcl 14 13 H
     have m := ngF hcl 15 14 l
     have p := ngF hcl 16 15 m
     obtain rfl := aA I
     obtain rfl := aB L
     obtain rfl := aT C
     obtain rfl := a3 j
     obtain rfl := bf U
     obtain rfl := Q
     refine hG (any_stepG ?_); clear hG G; intro J hJ
     have y := Fz.le.trans y V
     refine st hFx (i6 (w64 (f - 1))) (by rw [wanted_of hFx (b := true) rfl rfl (by kernel_rfl) (by kernel_rfl)]; rfl) rfl (by kernel_rfl) (p0 hFx (by kernel_rfl)) ?_; intro fl dH; clear hFx
     refine nl (qnI (hJ _ _ ?_)); clear hJ J
     exact ⟨ad, ae, i6 f, i6 u1, .bool true, .bool true, aJ, aY, aZ, aR, aK, a1, i6 f, i6 (w64 (f - 1)), aS, aL, az, ak, aj, .own tyJob 110 ao1 cap2 g, V, dH.reg, hMx.perm lpr, kf, kf, kf, kf, bb, bc, bd, bi, bj, be, kf, kf, (nt q), (nt H), (nt l), (nt m), (nt p), rfl, X, (nt q)⟩
    ·
     obtain rfl := oj hi
     have M := hpre 11 (by kernel_rfl)
     have N := hpre 9 (by kernel_rfl)
     have j := hpre 3 (by kernel_rfl)
     have U := hcl 11 10 (by kernel_rfl) M
     have C := hcl 3 2 (by kernel_rfl) j
     have L := hcl 2 1 (by kernel_rfl) C
     have I := hcl 2 0 (by kernel_rfl) C
     have q := hSi
     have H := ngF hcl 13 12 q
     have l := ngF hcl 14 13 H
     have m := ngF hcl 15 14 l
     have p := ngF hcl 16 15 m
     obtain rfl := aA I
     obtain rfl := aB L
     obtain rfl := aT C
     obtain rfl := a3 j
     obtain rfl := be N
     obtain rfl := bf U
     obtain rfl := bh M
     obtain rfl := Q
     refine hG (any_stepG ?_); clear hG G; intro J hJ
     have y := Fz.le.trans y V
     refine ixo hFx hMx 0 (T := tyJob) (xs := g) (w64 (f - 1)) (by simpa only [List.length_set] using bF) (k := .i64) (e := 110) (bytes := 24) (by rw [wanted_of hFx (b := true) rfl rfl (by kernel_rfl) (by kernel_rfl)]; rfl) rfl (by kernel_rfl) rfl (by kernel_rfl) (by kernel_rfl) rfl (by kernel_rfl) ?_; intro b8 fm dI dJ; clear hFx
     refine nl (qnI (hJ _ _ ?_)); clear hJ J
     exact ⟨ad, b8, i6 f, i6 u1, .bool true, .bool true, aJ, aY, aZ, aR, aK, .slice ao1 g.length cap2, i6 f, i6 (w64 (f - 1)), .pointer (some ⟨b8, (w64 (f - 1)).toNat * 3, none⟩), aL, az, ak, aj, .own tyJob 110 ao1 cap2 g, V, dJ.reg, hMx.perm lpr, kf, kf, kf, kf, bb, bc, bd, bi, bj, kf, kf, kf, kf, (nt H), (nt l), (nt m), (nt p), rfl, X, (fun _ => dI)⟩
    ·
     obtain rfl := oj hi
     have q := hpre 12 (by kernel_rfl)
     have j := hpre 3 (by kernel_rfl)
     have M := hcl 12 11 (by kernel_rfl) q
     have N := hcl 12 9 (by kernel_rfl) q
     have C := hcl 3 2 (by kernel_rfl) j
     have U := hcl 11 10 (by kernel_rfl) M
     have L := hcl 2 1 (by kernel_rfl) C
     have I := hcl 2 0 (by kernel_rfl) C
     have H := hSi
     have l := ngF hcl 14 13 H
     have m := ngF hcl 15 14 l
     have p := ngF hcl 16 15 m
     obtain rfl := aA I
     obtain rfl := aB L
     obtain rfl := aT C
     obtain rfl := a3 j
     obtain rfl := be N
     obtain rfl := bf U
     obtain rfl := bh M
     obtain rfl := bk q
     obtain rfl := Q
     refine hG (any_stepG ?_); clear hG G; intro J hJ
     have y := Fz.le.trans y V
     have b9 := Y q
     obtain ⟨dK, dL, dM⟩ := own_elx hMx 0 (T := tyJob) (xs := g) rfl b9 (w64 (f - 1)).toNat bG
     obtain rfl : dK = ((e110Dm n) : List Value) := dL
     refine lc2 hFx 31 3 (e110Dm n) dM rfl ?_ (hw := (by rw [wanted_of hFx (b := true) rfl rfl (by kernel_rfl) (by kernel_rfl)]; rfl)); intro fo dN; clear hFx
     refine nl (qnI (hJ _ _ ?_)); clear hJ J
     exact ⟨ad, ae, i6 f, i6 u1, .bool true, .bool true, aJ, aY, aZ, aR, aK, .slice ao1 g.length cap2, i6 f, i6 (w64 (f - 1)), .pointer (some ⟨ae, (w64 (f - 1)).toNat * 3, none⟩), .agg (e110Dm n).toArray, az, ak, aj, .own tyJob 110 ao1 cap2 g, V, dN.reg, hMx.perm lpr, kf, kf, kf, kf, bb, bc, bd, bi, bj, kf, kf, kf, kf, kf, (nt l), (nt m), (nt p), rfl, X, (fun _ => b9)⟩
    ·
     obtain rfl := oj hi
     have H := hpre 13 (by kernel_rfl)
     have F := hpre 8 (by kernel_rfl)
     have af := hpre 4 (by kernel_rfl)
     have j := hpre 3 (by kernel_rfl)
     have q := hcl 13 12 (by kernel_rfl) H
     have D := hcl 8 7 (by kernel_rfl) F
     have C := hcl 3 2 (by kernel_rfl) j
     have M := hcl 12 11 (by kernel_rfl) q
     have N := hcl 12 9 (by kernel_rfl) q
     have O := hcl 7 6 (by kernel_rfl) D
     have R := hcl 7 5 (by kernel_rfl) D
     have L := hcl 2 1 (by kernel_rfl) C
     have I := hcl 2 0 (by kernel_rfl) C
     have U := hcl 11 10 (by kernel_rfl) M
     have l := hSi
     have m := ngF hcl 15 14 l
     have p := ngF hcl 16 15 m
     obtain rfl := aA I
     obtain rfl := aB L
     obtain rfl := aT C
     obtain rfl := a3 j
     obtain rfl := bb af
     obtain rfl := bc R
     obtain rfl := bd O
     obtain rfl := bi D
     obtain rfl := bj F
     obtain rfl := be N
     obtain rfl := bf U
     obtain rfl := bh M
     obtain rfl := bk q
     obtain rfl := bl H
     obtain rfl := Q
     refine hG (any_stepG ?_); clear hG G; intro J hJ
     have y := Fz.le.trans y V
     have dO := X D
     have dP := Y q
     have dQ := hf5 _ _ y hMx.fz P n
     refine fcl hFx hMx (i6 (u3 P n)) fid3 (#[.agg (e110Dm P).toArray, .agg (e110Dm n).toArray] ++ caps4) (by rw [wanted_of hFx (b := true) rfl rfl (by kernel_rfl) (by kernel_rfl)]; rfl) rfl (by kernel_rfl) ?h1 ?h2 ?_
     case h1 => exact fv_run rfl (by kernel_rfl) (by kernel_rfl) hg6
     case h2 => exact dQ
     intro fp fq dR dS; clear hFx hMx
     refine nl (qnI (hJ _ _ ?_)); clear hJ J
     exact ⟨ad, ae, i6 f, i6 u1, .bool true, .bool true, .func (.func fid3) #[] caps4, .slice ao1 g.length cap2, i6 f, .pointer (some ⟨ad, f.toNat * 3, none⟩), .agg (e110Dm P).toArray, .slice ao1 g.length cap2, i6 f, i6 (w64 (f - 1)), .pointer (some ⟨ae, (w64 (f - 1)).toNat * 3, none⟩), .agg (e110Dm n).toArray, i6 (u3 P n), ak, aj, .own tyJob 110 ao1 cap2 g, V, dR.reg, dS.perm lpr, kf, kf, kf, kf, kf, kf, kf, kf, kf, kf, kf, kf, kf, kf, kf, (nt m), (nt p), rfl, (fun _ => dO), (fun _ => dP)⟩
    ·
     obtain rfl := oj hi
     have l := hpre 14 (by kernel_rfl)
     have j := hpre 3 (by kernel_rfl)
     have H := hcl 14 13 (by kernel_rfl) l
     have F := hcl 14 8 (by kernel_rfl) l
     have af := hcl 14 4 (by kernel_rfl) l
     have C := hcl 3 2 (by kernel_rfl) j
     have q := hcl 13 12 (by kernel_rfl) H
     have D := hcl 8 7 (by kernel_rfl) F
     have L := hcl 2 1 (by kernel_rfl) C
     have I := hcl 2 0 (by kernel_rfl) C
     have M := hcl 12 11 (by kernel_rfl) q
     have N := hcl 12 9 (by kernel_rfl) q
     have O := hcl 7 6 (by kernel_rfl) D
     have R := hcl 7 5 (by kernel_rfl) D
     have U := hcl 11 10 (by kernel_rfl) M
     have m := hSi
     have p := ngF hcl 16 15 m
     obtain rfl := aA I
     obtain rfl := aB L
     obtain rfl := aT C
     obtain rfl := a3 j
     obtain rfl := bb af
     obtain rfl := bc R
     obtain rfl := bd O
     obtain rfl := bi D
     obtain rfl := bj F
     obtain rfl := be N
     obtain rfl := bf U
     obtain rfl := bh M
     obtain rfl := bk q
     obtain rfl := bl H
     obtain rfl := bC l
     obtain rfl := Q
     refine hG (any_stepG ?_); clear hG G; intro J hJ
     have y := Fz.le.trans y V
     have dT := X D
     have dU := Y q
     refine st hFx (.bool (decide ((u3 P n) < 0))) (by rw [wanted_of hFx (b := true) rfl rfl (by kernel_rfl) (by kernel_rfl)]; rfl) rfl (by kernel_rfl) (p0 hFx (by kernel_rfl)) ?_; intro fr dV; clear hFx
     refine nl (qnI (hJ _ _ ?_)); clear hJ J
     exact ⟨ad, ae, i6 f, i6 u1, .bool true, .bool true, .func (.func fid3) #[] caps4, .slice ao1 g.length cap2, i6 f, .pointer (some ⟨ad, f.toNat * 3, none⟩), .agg (e110Dm P).toArray, .slice ao1 g.length cap2, i6 f, i6 (w64 (f - 1)), .pointer (some ⟨ae, (w64 (f - 1)).toNat * 3, none⟩), .agg (e110Dm n).toArray, i6 (u3 P n), .bool (decide ((u3 P n) < 0)), aj, .own tyJob 110 ao1 cap2 g, V, dV.reg, hMx.perm lpr, kf, kf, kf, kf, kf, kf, kf, kf, kf, kf, kf, kf, kf, kf, kf, kf, (nt p), rfl, (fun _ => dT), (fun _ => dU)⟩
    obtain rfl := oj hi
    have m := hpre 15 (by kernel_rfl)
    have j := hpre 3 (by kernel_rfl)
    have l := hcl 15 14 (by kernel_rfl) m
    have C := hcl 3 2 (by kernel_rfl) j
    have H := hcl 14 13 (by kernel_rfl) l
    have F := hcl 14 8 (by kernel_rfl) l
    have af := hcl 14 4 (by kernel_rfl) l
    have L := hcl 2 1 (by kernel_rfl) C
    have I := hcl 2 0 (by kernel_rfl) C
    have q := hcl 13 12 (by kernel_rfl) H
    have D := hcl 8 7 (by kernel_rfl) F
    have M := hcl 12 11 (by kernel_rfl) q
    have N := hcl 12 9 (by kernel_rfl) q
    have O := hcl 7 6 (by kernel_rfl) D
    have R := hcl 7 5 (by kernel_rfl) D
    have U := hcl 11 10 (by kernel_rfl) M
    have p := hSi
    obtain rfl := aA I
    obtain rfl := aB L
    obtain rfl := aT C
    obtain rfl := a3 j
    obtain rfl := bb af
    obtain rfl := bc R
    obtain rfl := bd O
    obtain rfl := bi D
    obtain rfl := bj F
    obtain rfl := be N
    obtain rfl := bf U
    obtain rfl := bh M
    obtain rfl := bk q
    obtain rfl := bl H
    obtain rfl := bC l
    obtain rfl := bH m
    obtain rfl := Q
    refine hG (any_step ?_); clear hG G; intro A J hJ
    have y := Fz.le.trans y V
    have dW := X D
    have dX := Y q
    refine s1 hFx 34 (.bool (decide ((u3 P n) < 0))) ?_; intro fs dY; clear hFx
    refine nl (qnI (hJ _ _ ?_)); clear hJ J
    exact ⟨ad, ae, i6 f, i6 u1, .bool true, .bool true, .func (.func fid3) #[] caps4, .slice ao1 g.length cap2, i6 f, .pointer (some ⟨ad, f.toNat * 3, none⟩), .agg (e110Dm P).toArray, .slice ao1 g.length cap2, i6 f, i6 (w64 (f - 1)), .pointer (some ⟨ae, (w64 (f - 1)).toNat * 3, none⟩), .agg (e110Dm n).toArray, i6 (u3 P n), .bool (decide ((u3 P n) < 0)), .bool (decide ((u3 P n) < 0)), .own tyJob 110 ao1 cap2 g, V, dY.reg, hMx.perm lpr, kf, kf, kf, kf, kf, kf, kf, kf, kf, kf, kf, kf, kf, kf, kf, kf, kf, rfl, (fun _ => dW), (fun _ => dX)⟩
   case hE =>
    intro S hS aC ft hI; refine Go.Sy.hid ?_; intro G hG; obtain ⟨ad, ae, bv, bw, bq, bp, aJ, aY, aZ, aR, aK, a1, a9, a2, aS, aL, az, ak, aj, ba, V, hFx, hMx, aA, aB, aT, a3, bb, bc, bd, bi, bj, be, bf, bh, bk, bl, bC, bH, b4, Q, X, hI⟩ := hI; have Y := hI; clear hI; refine hG ?_; clear hG G
    obtain rfl := aA (hS 0 (by decide))
    obtain rfl := aB (hS 1 (by decide))
    obtain rfl := aT (hS 2 (by decide))
    obtain rfl := a3 (hS 3 (by decide))
    obtain rfl := bb (hS 4 (by decide))
    obtain rfl := bc (hS 5 (by decide))
    obtain rfl := bd (hS 6 (by decide))
    obtain rfl := bi (hS 7 (by decide))
    obtain rfl := bj (hS 8 (by decide))
    obtain rfl := be (hS 9 (by decide))
    obtain rfl := bf (hS 10 (by decide))
    obtain rfl := bh (hS 11 (by decide))
    obtain rfl := bk (hS 12 (by decide))
    obtain rfl := bl (hS 13 (by decide))
    obtain rfl := bC (hS 14 (by decide))
    obtain rfl := bH (hS 15 (by decide))
    obtain rfl := b4 (hS 16 (by decide))
    obtain rfl := Q
    have y := Fz.le.trans y V
    have al := X (hS 7 (by decide))
    have am := Y (hS 12 (by decide))
    refine thn ?_
    refine cd hFx (t := decide ((u3 P n) < 0)) (by kernel_rfl) (fun bI => ?_) (fun bI => ?_)
    ·
     have dZ := bB.1 bI; clear bB
     refine wp_skip ?_
     refine thn ?_
     refine wp_seq ?_
     refine wp_block ?_
     have d0 : Fr 53 [] [⟨0, [], .slice ao1 g.length cap2⟩, ⟨1, [], i6 u1⟩, ⟨2, [], i6 u2⟩, ⟨3, [], .func (.func fid3) #[] caps4⟩, ⟨8, [], i6 x8⟩, ⟨9, [], i6 f⟩] aC := hFx.reg; clear hFx
     obtain ⟨d1, ca⟩ := dZ
     obtain ⟨E, d2, d3⟩ := gxq ca (by omega); clear ca
     obtain ⟨bF, cb⟩ := d3
     obtain ⟨n, bG, d4⟩ := gxq cb (by omega); clear cb
     obtain ⟨d5, d6⟩ := d4
     obtain ⟨d7, cc⟩ := d6
     refine any_invE mixed [[], [], [], [], [3], [], [], [6], [5, 7], [8], [], [], [10, 11], [12], [0, 1, 5, 6, 7, 8, 9, 13], [0, 1, 5, 6, 7, 8, 9, 13, 14], [0, 1, 2, 3, 4, 5, 6, 7, 8, 9, 10, 11, 12, 13, 14, 15], [0, 1, 2, 3, 4, 5, 6, 7, 8, 9, 10, 11, 12, 13, 14, 15, 16]] 18 (fun S a w1 => ∃ (aa : Nat) (ab : Nat) (ac : Nat) (ag : Nat) (aM : Value) (aN : Value) (an : Value) (aD : Value) (ao : Value) (a4 : Value) (bg : Value) (a5 : Value) (aU : Value) (aO : Value) (a6 : Value) (a7 : Value) (aV : Value) (aP : Value) (aE : Value) (ai : Value) (ba : Res), Fz.le Z Z ∧ Fr 53 [] [⟨0, [], .slice ao1 g.length cap2⟩, ⟨1, [], i6 u1⟩, ⟨2, [], i6 u2⟩, ⟨3, [], .func (.func fid3) #[] caps4⟩, ⟨8, [], i6 x8⟩, ⟨9, [], i6 f⟩, ⟨37, [], aM⟩, ⟨38, [], aN⟩, ⟨39, [], an⟩, ⟨40, [], aD⟩, ⟨41, [], ao⟩, ⟨42, [], a4⟩, ⟨43, [], bg⟩, ⟨44, [], a5⟩, ⟨45, [], aU⟩, ⟨46, [], aO⟩, ⟨47, [], a6⟩, ⟨48, [], a7⟩, ⟨49, [], aV⟩, ⟨50, [], aP⟩, ⟨51, [], aE⟩, ⟨52, [], ai⟩] a ∧ Mem B [] w0 Z0 (ba :: Rr) Z w1 ∧ (S 0 = true → aM = .slice ao1 g.length cap2) ∧ (S 1 = true → aN = i6 f) ∧ (S 2 = true → an = .slice ao1 g.length cap2) ∧ (S 3 = true → aD = i6 f) ∧ (S 4 = true → ao = i6 (w64 (f - 1))) ∧ (S 5 = true → a4 = .slice ao1 g.length cap2) ∧ (S 6 = true → bg = i6 f) ∧ (S 7 = true → a5 = i6 (w64 (f - 1))) ∧ (S 8 = true → aU = .pointer (some ⟨aa, (w64 (f - 1)).toNat * 3, none⟩)) ∧ (S 9 = true → aO = .agg (e110Dm E).toArray) ∧ (S 10 = true → a6 = .slice ao1 g.length cap2) ∧ (S 11 = true → a7 = i6 f) ∧ (S 12 = true → aV = .pointer (some ⟨ab, f.toNat * 3, none⟩)) ∧ (S 13 = true → aP = .agg (e110Dm n).toArray) ∧ (S 14 = true → aE = .pointer (some ⟨ac, f.toNat * 3, none⟩)) ∧ (S 16 = true → ai = .pointer (some ⟨ag, (w64 (f - 1)).toNat * 3, none⟩)) ∧ (S 15 = false → ba = .own tyJob 110 ao1 cap2 g) ∧ (S 15 = true → S 17 = false → ba = .own tyJob 110 ao1 cap2 (g.set f.toNat E)) ∧ (S 17 = true → ba = .own tyJob 110 ao1 cap2 ((g.set f.toNat E).set (w64 (f - 1)).toNat n)) ∧ (S 8 = true → ao1 = some ⟨aa, 0, none⟩) ∧ (S 12 = true → ao1 = some ⟨ab, 0, none⟩) ∧ (S 14 = true → ao1 = some ⟨ac, 0, none⟩) ∧ (S 16 = true → ao1 = some ⟨ag, 0, none⟩)) ?h0 ?hs ?hE
     case h0 =>
      have d8 := d0.any 37
      have d9 := d8.any 38
      have ea := d9.any 39
      have eb := ea.any 40
      have ec := eb.any 41
      have ed := ec.any 42
      have ee := ed.any 43
      have ef := ee.any 44
      have eg := ef.any 45
      have eh := eg.any 46
      have ei := eh.any 47
      have ej := ei.any 48
      have ek := ej.any 49
      have el := ek.any 50
      have em := el.any 51
      have en := em.any 52
      have eo := (hMx.perm lpr).drew
      exact ⟨0, 0, 0, 0, aC.tmps.getD 37 undef, aC.tmps.getD 38 undef, aC.tmps.getD 39 undef, aC.tmps.getD 40 undef, aC.tmps.getD 41 undef, aC.tmps.getD 42 undef, aC.tmps.getD 43 undef, aC.tmps.getD 44 undef, aC.tmps.getD 45 undef, aC.tmps.getD 46 undef, aC.tmps.getD 47 undef, aC.tmps.getD 48 undef, aC.tmps.getD 49 undef, aC.tmps.getD 50 undef, aC.tmps.getD 51 undef, aC.tmps.getD 52 undef, .own tyJob 110 ao1 cap2 g, Fz.le.refl _, en.reg, eo, ff, ff, ff, ff, ff, ff, ff, ff, ff, ff, ff, ff, ff, ff, ff, ff, kf, ff, ff, ff, ff, ff, ff⟩
     case hs =>
      intro S hcl i o hil hi hSi hpre a w1 hI; refine Go.Sy.hid ?_; intro G hG; obtain ⟨aa, ab, ac, ag, aM, aN, an, aD, ao, a4, bg, a5, aU, aO, a6, a7, aV, aP, aE, ai, ba, z, hFx, hMx, ap, aq, ar, au, aF, av, aw, aG, aW, a8, ax, ay, aQ, aX, bm, bJ, Q, br, ce, X, Y, bn, hI⟩ := hI; have bK := hI; clear hI
      have hcase : i = 0 ∨ i = 1 ∨ i = 2 ∨ i = 3 ∨ i = 4 ∨ i = 5 ∨ i = 6 ∨ i = 7 ∨ i = 8 ∨ i = 9 ∨ i = 10 ∨ i = 11 ∨ i = 12 ∨ i = 13 ∨ i = 14 ∨ i = 15 ∨ i = 16 ∨ i = 17 := by clear hi; omega
      rcases hcase with rfl | rfl | rfl | rfl | rfl | rfl | rfl | rfl | rfl | rfl | rfl | rfl | rfl | rfl | rfl | rfl | rfl | rfl
      ·
       obtain rfl := oj hi
       have I := hSi
       have l := ngF hcl 14 0 I
       have m := ngF hcl 15 0 I
       have p := ngF hcl 16 0 I
       have W := ngF hcl 17 0 I
       obtain rfl := Q m
       refine hG (any_step ?_); clear hG G; intro A J hJ
       have y := Fz.le.trans y z
       have fu := al.mono z
       have fv := am.mono z
       refine s1 hFx 37 (.slice ao1 g.length cap2) ?_; intro fw ep; clear hFx
       refine nl (qnI (hJ _ _ ?_)); clear hJ J
       exact ⟨aa, ab, ac, ag, .slice ao1 g.length cap2, aN, an, aD, ao, a4, bg, a5, aU, aO, a6, a7, aV, aP, aE, ai, .own tyJob 110 ao1 cap2 g, z, ep.reg, hMx.perm lpr, kf, aq, ar, au, aF, av, aw, aG, aW, a8, ax, ay, aQ, aX, (nt l), (nt p), kf, (fun h _ => nt m h), (nt W), X, Y, (nt l), (nt p)⟩
      ·
       obtain rfl := oj hi
       have L := hSi
       have l := ngF hcl 14 1 L
       have m := ngF hcl 15 1 L
       have p := ngF hcl 16 1 L
       have W := ngF hcl 17 1 L
       obtain rfl := Q m
       refine hG (any_step ?_); clear hG G; intro A J hJ
       have y := Fz.le.trans y z
       have fx := al.mono z
       have fy := am.mono z
       refine s1 hFx 38 (i6 f) ?_; intro fA eq; clear hFx
       refine nl (qnI (hJ _ _ ?_)); clear hJ J
       exact ⟨aa, ab, ac, ag, aM, i6 f, an, aD, ao, a4, bg, a5, aU, aO, a6, a7, aV, aP, aE, ai, .own tyJob 110 ao1 cap2 g, z, eq.reg, hMx.perm lpr, ap, kf, ar, au, aF, av, aw, aG, aW, a8, ax, ay, aQ, aX, (nt l), (nt p), kf, (fun h _ => nt m h), (nt W), X, Y, (nt l), (nt p)⟩
      ·
       obtain rfl := oj hi
       have C := hSi
       have p := ngF hcl 16 2 C
       have W := ngF hcl 17 2 C
       refine hG (any_step ?_); clear hG G; intro A J hJ
       have y := Fz.le.trans y z
       have fB := al.mono z
       have fC := am.mono z
       refine s1 hFx 39 (.slice ao1 g.length cap2) ?_; intro fD er; clear hFx
       refine nl (qnI (hJ _ _ ?_)); clear hJ J
       exact ⟨aa, ab, ac, ag, aM, aN, .slice ao1 g.length cap2, aD, ao, a4, bg, a5, aU, aO, a6, a7, aV, aP, aE, ai, ba, z, er.reg, hMx.perm lpr, ap, aq, kf, au, aF, av, aw, aG, aW, a8, ax, ay, aQ, aX, bm, (nt p), Q, br, (nt W), X, Y, bn, (nt p)⟩
      ·
       obtain rfl := oj hi
       have j := hSi
       have af := ngF hcl 4 3 j
       have p := ngF hcl 16 3 j
       have W := ngF hcl 17 3 j
       refine hG (any_step ?_); clear hG G; intro A J hJ
       have y := Fz.le.trans y z
       have fE := al.mono z
       have fF := am.mono z
       refine s1 hFx 40 (i6 f) ?_; intro fG es; clear hFx
       refine nl (qnI (hJ _ _ ?_)); clear hJ J
       exact ⟨aa, ab, ac, ag, aM, aN, an, i6 f, ao, a4, bg, a5, aU, aO, a6, a7, aV, aP, aE, ai, ba, z, es.reg, hMx.perm lpr, ap, aq, ar, kf, (nt af), av, aw, aG, aW, a8, ax, ay, aQ, aX, bm, (nt p), Q, br, (nt W), X, Y, bn, (nt p)⟩
      ·
       obtain rfl := oj hi
       have j := hpre 3 (by kernel_rfl)
       have af := hSi
       have p := ngF hcl 16 4 af
       have W := ngF hcl 17 4 af
       obtain rfl := au j
       refine hG (any_step ?_); clear hG G; intro A J hJ
       have y := Fz.le.trans y z
       have fH := al.mono z
       have fI := am.mono z
       refine s1 hFx 41 (i6 (w64 (f - 1))) ?_; intro fJ et; clear hFx
       refine nl (qnI (hJ _ _ ?_)); clear hJ J
       exact ⟨aa, ab, ac, ag, aM, aN, an, i6 f, i6 (w64 (f - 1)), a4, bg, a5, aU, aO, a6, a7, aV, aP, aE, ai, ba, z, et.reg, hMx.perm lpr, ap, aq, ar, kf, kf, av, aw, aG, aW, a8, ax, ay, aQ, aX, bm, (nt p), Q, br, (nt W), X, Y, bn, (nt p)⟩
      ·
       obtain rfl := oj hi
       have R := hSi
       have F := ngF hcl 8 5 R
       have N := ngF hcl 9 8 F
       have l := ngF hcl 14 5 R
       have m := ngF hcl 15 5 R
       have p := ngF hcl 16 5 R
       have W := ngF hcl 17 5 R
       obtain rfl := Q m
       refine hG (any_step ?_); clear hG G; intro A J hJ
       have y := Fz.le.trans y z
       have fK := al.mono z
       have fL := am.mono z
       refine s1 hFx 42 (.slice ao1 g.length cap2) ?_; intro fM eu; clear hFx
       refine nl (qnI (hJ _ _ ?_)); clear hJ J
       exact ⟨aa, ab, ac, ag, aM, aN, an, aD, ao, .slice ao1 g.length cap2, bg, a5, aU, aO, a6, a7, aV, aP, aE, ai, .own tyJob 110 ao1 cap2 g, z, eu.reg, hMx.perm lpr, ap, aq, ar, au, aF, kf, aw, aG, (nt F), (nt N), ax, ay, aQ, aX, (nt l), (nt p), kf, (fun h _ => nt m h), (nt W), (nt F), Y, (nt l), (nt p)⟩
      ·
       obtain rfl := oj hi
       have O := hSi
       have D := ngF hcl 7 6 O
       have F := ngF hcl 8 7 D
       have N := ngF hcl 9 8 F
       have l := ngF hcl 14 6 O
       have m := ngF hcl 15 6 O
       have p := ngF hcl 16 6 O
       have W := ngF hcl 17 6 O
       obtain rfl := Q m
       refine hG (any_step ?_); clear hG G; intro A J hJ
       have y := Fz.le.trans y z
       have fN := al.mono z
       have fO := am.mono z
       refine s1 hFx 43 (i6 f) ?_; intro fP ev; clear hFx
       refine nl (qnI (hJ _ _ ?_)); clear hJ J
       exact ⟨aa, ab, ac, ag, aM, aN, an, aD, ao, a4, i6 f, a5, aU, aO, a6, a7, aV, aP, aE, ai, .own tyJob 110 ao1 cap2 g, z, ev.reg, hMx.perm lpr, ap, aq, ar, au, aF, av, kf, (nt D), (nt F), (nt N), ax, ay, aQ, aX, (nt l), (nt p), kf, (fun h _ => nt m h), (nt W), (nt F), Y, (nt l), (nt p)⟩
      ·
       obtain rfl := oj hi
       have O := hpre 6 (by kernel_rfl)
       have D := hSi
       have F := ngF hcl 8 7 D
       have N := ngF hcl 9 8 F
       have l := ngF hcl 14 7 D
       have m := ngF hcl 15 7 D
       have p := ngF hcl 16 7 D
       have W := ngF hcl 17 7 D
       obtain rfl := aw O
       obtain rfl := Q m
       refine hG (any_step ?_); clear hG G; intro A J hJ
       have y := Fz.le.trans y z
       have fQ := al.mono z
       have fR := am.mono z
       refine s1 hFx 44 (i6 (w64 (f - 1))) ?_; intro fS ew; clear hFx
       refine nl (qnI (hJ _ _ ?_)); clear hJ J
       exact ⟨aa, ab, ac, ag, aM, aN, an, aD, ao, a4, i6 f, i6 (w64 (f - 1)), aU, aO, a6, a7, aV, aP, aE, ai, .own tyJob 110 ao1 cap2 g, z, ew.reg, hMx.perm lpr, ap, aq, ar, au, aF, av, kf, kf, (nt F), (nt N), ax, ay, aQ, aX, (nt l), (nt p), kf, (fun h _ => nt m h), (nt W), (nt F), Y, (nt l), (nt p)⟩
      ·
       obtain rfl := oj hi
       have D := hpre 7 (by kernel_rfl)
       have R := hpre 5 (by kernel_rfl)
       have O := hcl 7 6 (by kernel_rfl) D
       have F := hSi
       have N := ngF hcl 9 8 F
       have l := ngF hcl 14 8 F
       have m := ngF hcl 15 8 F
       have p := ngF hcl 16 8 F
       have W := ngF hcl 17 8 F
       obtain rfl := av R
       obtain rfl := aw O
       obtain rfl := aG D
       obtain rfl := Q m
       refine hG (any_step ?_); clear hG G; intro A J hJ
       have y := Fz.le.trans y z
       have fT := al.mono z
       have fU := am.mono z
       refine ixo hFx hMx 0 (T := tyJob) (xs := g) (w64 (f - 1)) (by simpa only [List.length_set] using d1) (k := .i64) (e := 110) (bytes := 24) (nog rfl _) rfl (by kernel_rfl) rfl (by kernel_rfl) (by kernel_rfl) rfl (by kernel_rfl) ?_; intro cf fV ex ey; clear hFx
       refine nl (qnI (hJ _ _ ?_)); clear hJ J
       exact ⟨cf, ab, ac, ag, aM, aN, an, aD, ao, .slice ao1 g.length cap2, i6 f, i6 (w64 (f - 1)), .pointer (some ⟨cf, (w64 (f - 1)).toNat * 3, none⟩), aO, a6, a7, aV, aP, aE, ai, .own tyJob 110 ao1 cap2 g, z, ey.reg, hMx.perm lpr, ap, aq, ar, au, aF, kf, kf, kf, kf, (nt N), ax, ay, aQ, aX, (nt l), (nt p), kf, (fun h _ => nt m h), (nt W), (fun _ => ex), Y, (nt l), (nt p)⟩
      ·
       obtain rfl := oj hi
       have F := hpre 8 (by kernel_rfl)
       have D := hcl 8 7 (by kernel_rfl) F
       have R := hcl 8 5 (by kernel_rfl) F
       have O := hcl 7 6 (by kernel_rfl) D
       have N := hSi
       have l := ngF hcl 14 9 N
       have m := ngF hcl 15 9 N
       have p := ngF hcl 16 9 N
       have W := ngF hcl 17 9 N
       obtain rfl := av R
       obtain rfl := aw O
       obtain rfl := aG D
       obtain rfl := aW F
       obtain rfl := Q m
       refine hG (any_step ?_); clear hG G; intro A J hJ
       have y := Fz.le.trans y z
       have fW := al.mono z
       have fX := am.mono z
       have cg := X F
       obtain ⟨ez, eA, eB⟩ := own_elx hMx 0 (T := tyJob) (xs := g) rfl cg (w64 (f - 1)).toNat d2
       obtain rfl : ez = ((e110Dm E) : List Value) := eA
       refine lc2 hFx 46 3 (e110Dm E) eB rfl ?_; intro fY eC; clear hFx
       refine nl (qnI (hJ _ _ ?_)); clear hJ J
       exact ⟨aa, ab, ac, ag, aM, aN, an, aD, ao, .slice ao1 g.length cap2, i6 f, i6 (w64 (f - 1)), .pointer (some ⟨aa, (w64 (f - 1)).toNat * 3, none⟩), .agg (e110Dm E).toArray, a6, a7, aV, aP, aE, ai, .own tyJob 110 ao1 cap2 g, z, eC.reg, hMx.perm lpr, ap, aq, ar, au, aF, kf, kf, kf, kf, kf, ax, ay, aQ, aX, (nt l), (nt p), kf, (fun h _ => nt m h), (nt W), (fun _ => cg), Y, (nt l), (nt p)⟩
      ·
       obtain rfl := oj hi
       have U := hSi
       have q := ngF hcl 12 10 U
       have H := ngF hcl 13 12 q
       have l := ngF hcl 14 13 H
       have m := ngF hcl 15 13 H
       have p := ngF hcl 16 10 U
       have W := ngF hcl 17 10 U
       obtain rfl := Q m
       refine hG (any_step ?_); clear hG G; intro A J hJ
       have y := Fz.le.trans y z
       have fZ := al.mono z
       have f0 := am.mono z
       refine s1 hFx 47 (.slice ao1 g.length cap2) ?_; intro f1 eD; clear hFx
       refine nl (qnI (hJ _ _ ?_)); clear hJ J
       exact ⟨aa, ab, ac, ag, aM, aN, an, aD, ao, a4, bg, a5, aU, aO, .slice ao1 g.length cap2, a7, aV, aP, aE, ai, .own tyJob 110 ao1 cap2 g, z, eD.reg, hMx.perm lpr, ap, aq, ar, au, aF, av, aw, aG, aW, a8, kf, ay, (nt q), (nt H), (nt l), (nt p), kf, (fun h _ => nt m h), (nt W), X, (nt q), (nt l), (nt p)⟩
      ·
       obtain rfl := oj hi
       have M := hSi
       have q := ngF hcl 12 11 M
       have H := ngF hcl 13 12 q
       have l := ngF hcl 14 13 H
       have m := ngF hcl 15 13 H
       have p := ngF hcl 16 11 M
       have W := ngF hcl 17 11 M
       obtain rfl := Q m
       refine hG (any_step ?_); clear hG G; intro A J hJ
       have y := Fz.le.trans y z
       have f2 := al.mono z
       have f3 := am.mono z
       refine s1 hFx 48 (i6 f) ?_; intro f4 eE; clear hFx
       refine nl (qnI (hJ _ _ ?_)); clear hJ J
       exact ⟨aa, ab, ac, ag, aM, aN, an, aD, ao, a4, bg, a5, aU, aO, a6, i6 f, aV, aP, aE, ai, .own tyJob 110 ao1 cap2 g, z, eE.reg, hMx.perm lpr, ap, aq, ar, au, aF, av, aw, aG, aW, a8, ax, kf, (nt q), (nt H), (nt l), (nt p), kf, (fun h _ => nt m h), (nt W), X, (nt q), (nt l), (nt p)⟩
      ·
       obtain rfl := oj hi
       have M := hpre 11 (by kernel_rfl)
       have U := hpre 10 (by kernel_rfl)
       have q := hSi
       have H := ngF hcl 13 12 q
       have l := ngF hcl 14 13 H
       have m := ngF hcl 15 13 H
       have p := ngF hcl 16 12 q
       have W := ngF hcl 17 12 q
       obtain rfl := ax U
       obtain rfl := ay M
       obtain rfl := Q m
       refine hG (any_step ?_); clear hG G; intro A J hJ
       have y := Fz.le.trans y z
       have f5 := al.mono z
       have f6 := am.mono z
       refine ixo hFx hMx 0 (T := tyJob) (xs := g) f (by simpa only [List.length_set] using bF) (k := .i64) (e := 110) (bytes := 24) (nog rfl _) rfl (by kernel_rfl) rfl (by kernel_rfl) (by kernel_rfl) rfl (by kernel_rfl) ?_; intro ch f7 eF eG; clear hFx
       refine nl (qnI (hJ _ _ ?_)); clear hJ J
       exact ⟨aa, ch, ac, ag, aM, aN, an, aD, ao, a4, bg, a5, aU, aO, .slice ao1 g.length cap2, i6 f, .pointer (some ⟨ch, f.toNat * 3, none⟩), aP, aE, ai, .own tyJob 110 ao1 cap2 g, z, eG.reg, hMx.perm lpr, ap, aq, ar, au, aF, av, aw, aG, aW, a8, kf, kf, kf, (nt H), (nt l), (nt p), kf, (fun h _ => nt m h), (nt W), X, (fun _ => eF), (nt l), (nt p)⟩
      ·
       obtain rfl := oj hi
       have q := hpre 12 (by kernel_rfl)
       have M := hcl 12 11 (by kernel_rfl) q
       have U := hcl 12 10 (by kernel_rfl) q
       have H := hSi
       have l := ngF hcl 14 13 H
       have m := ngF hcl 15 13 H
       have p := ngF hcl 16 13 H
       have W := ngF hcl 17 13 H
       obtain rfl := ax U
       obtain rfl := ay M
       obtain rfl := aQ q
       obtain rfl := Q m
       refine hG (any_step ?_); clear hG G; intro A J hJ
       have y := Fz.le.trans y z
       have f8 := al.mono z
       have f9 := am.mono z
       have ci := Y q
       obtain ⟨eH, eI, eJ⟩ := own_elx hMx 0 (T := tyJob) (xs := g) rfl ci f.toNat bG
       obtain rfl : eH = ((e110Dm n) : List Value) := eI
       refine lc2 hFx 50 3 (e110Dm n) eJ rfl ?_; intro ga eK; clear hFx
       refine nl (qnI (hJ _ _ ?_)); clear hJ J
       exact ⟨aa, ab, ac, ag, aM, aN, an, aD, ao, a4, bg, a5, aU, aO, .slice ao1 g.length cap2, i6 f, .pointer (some ⟨ab, f.toNat * 3, none⟩), .agg (e110Dm n).toArray, aE, ai, .own tyJob 110 ao1 cap2 g, z, eK.reg, hMx.perm lpr, ap, aq, ar, au, aF, av, aw, aG, aW, a8, kf, kf, kf, kf, (nt l), (nt p), kf, (fun h _ => nt m h), (nt W), X, (fun _ => ci), (nt l), (nt p)⟩
      ·
       obtain rfl := oj hi
       have H := hpre 13 (by kernel_rfl)
       have N := hpre 9 (by kernel_rfl)
       have F := hpre 8 (by kernel_rfl)
       have D := hpre 7 (by kernel_rfl)
       have O := hpre 6 (by kernel_rfl)
       have R := hpre 5 (by kernel_rfl)
       have L := hpre 1 (by kernel_rfl)
       have I := hpre 0 (by kernel_rfl)
       have q := hcl 13 12 (by kernel_rfl) H
       have M := hcl 12 11 (by kernel_rfl) q
       have U := hcl 12 10 (by kernel_rfl) q
       have l := hSi
       have m := ngF hcl 15 14 l
       have p := ngF hcl 16 14 l
       have W := ngF hcl 17 14 l
       obtain rfl := ap I
       obtain rfl := aq L
       obtain rfl := av R
       obtain rfl := aw O
       obtain rfl := aG D
       obtain rfl := aW F
       obtain rfl := a8 N
       obtain rfl := ax U
       obtain rfl := ay M
       obtain rfl := aQ q
       obtain rfl := aX H
       obtain rfl := Q m
       refine hG (any_step ?_); clear hG G; intro A J hJ
       have y := Fz.le.trans y z
       have gb := al.mono z
       have gc := am.mono z
       have eL := X F
       have eM := Y q
       refine ixo hFx hMx 0 (T := tyJob) (xs := g) f (by simpa only [List.length_set] using d5) (k := .i64) (e := 110) (bytes := 24) (nog rfl _) rfl (by kernel_rfl) rfl (by kernel_rfl) (by kernel_rfl) rfl (by kernel_rfl) ?_; intro cj gd eN eO; clear hFx
       refine nl (qnI (hJ _ _ ?_)); clear hJ J
       exact ⟨aa, ab, cj, ag, .slice ao1 g.length cap2, i6 f, an, aD, ao, .slice ao1 g.length cap2, i6 f, i6 (w64 (f - 1)), .pointer (some ⟨aa, (w64 (f - 1)).toNat * 3, none⟩), .agg (e110Dm E).toArray, .slice ao1 g.length cap2, i6 f, .pointer (some ⟨ab, f.toNat * 3, none⟩), .agg (e110Dm n).toArray, .pointer (some ⟨cj, f.toNat * 3, none⟩), ai, .own tyJob 110 ao1 cap2 g, z, eO.reg, hMx.perm lpr, kf, kf, ar, au, aF, kf, kf, kf, kf, kf, kf, kf, kf, kf, kf, (nt p), kf, (fun h _ => nt m h), (nt W), (fun _ => eL), (fun _ => eM), (fun _ => eN), (nt p)⟩
      ·
       obtain rfl := oj hi
       have l := hpre 14 (by kernel_rfl)
       have H := hpre 13 (by kernel_rfl)
       have N := hpre 9 (by kernel_rfl)
       have F := hpre 8 (by kernel_rfl)
       have D := hpre 7 (by kernel_rfl)
       have O := hpre 6 (by kernel_rfl)
       have R := hpre 5 (by kernel_rfl)
       have L := hpre 1 (by kernel_rfl)
       have I := hpre 0 (by kernel_rfl)
       have q := hcl 13 12 (by kernel_rfl) H
       have M := hcl 12 11 (by kernel_rfl) q
       have U := hcl 12 10 (by kernel_rfl) q
       have m := hSi
       have p := ngF hcl 16 15 m
       have W := ngF hcl 17 15 m
       obtain rfl := ap I
       obtain rfl := aq L
       obtain rfl := av R
       obtain rfl := aw O
       obtain rfl := aG D
       obtain rfl := aW F
       obtain rfl := a8 N
       obtain rfl := ax U
       obtain rfl := ay M
       obtain rfl := aQ q
       obtain rfl := aX H
       obtain rfl := bm l
       obtain rfl := Q m
       refine hG (any_step ?_); clear hG G; intro A J hJ
       have y := Fz.le.trans y z
       have ge := al.mono z
       have gf := am.mono z
       have eP := X F
       have eQ := Y q
       have ck := bn l
       refine sox hFx hMx 0 ck (T := tyJob) (xs := g) f.toNat E (u := .agg (e110Dm E).toArray) (nog rfl _) rfl rfl (by kernel_rfl) rfl (by kernel_rfl) rfl (by kernel_rfl) (by first | omega | (simp only [List.length_set] at *; omega)) rfl ?_; intro gg eR; clear hMx
       refine nl (qnI (hJ _ _ ?_)); clear hJ J
       exact ⟨aa, ab, ac, ag, .slice ao1 g.length cap2, i6 f, an, aD, ao, .slice ao1 g.length cap2, i6 f, i6 (w64 (f - 1)), .pointer (some ⟨aa, (w64 (f - 1)).toNat * 3, none⟩), .agg (e110Dm E).toArray, .slice ao1 g.length cap2, i6 f, .pointer (some ⟨ab, f.toNat * 3, none⟩), .agg (e110Dm n).toArray, .pointer (some ⟨ac, f.toNat * 3, none⟩), ai, .own tyJob 110 ao1 cap2 (g.set f.toNat E), z, hFx.reg, eR.perm lpr, kf, kf, ar, au, aF, kf, kf, kf, kf, kf, kf, kf, kf, kf, kf, (nt p), nu, kf2, (nt W), (fun _ => eP), (fun _ => eQ), (fun _ => ck), (nt p)⟩
      ·
       obtain rfl := oj hi
       have m := hpre 15 (by kernel_rfl)
       have l := hpre 14 (by kernel_rfl)
       have H := hpre 13 (by kernel_rfl)
       have q := hpre 12 (by kernel_rfl)
       have M := hpre 11 (by kernel_rfl)
       have U := hpre 10 (by kernel_rfl)
       have N := hpre 9 (by kernel_rfl)
       have F := hpre 8 (by kernel_rfl)
       have D := hpre 7 (by kernel_rfl)
       have O := hpre 6 (by kernel_rfl)
       have R := hpre 5 (by kernel_rfl)
       have af := hpre 4 (by kernel_rfl)
       have j := hpre 3 (by kernel_rfl)
       have C := hpre 2 (by kernel_rfl)
       have L := hpre 1 (by kernel_rfl)
       have I := hpre 0 (by kernel_rfl)
       have p := hSi
       have W := ngF hcl 17 16 p
       obtain rfl := ap I
       obtain rfl := aq L
       obtain rfl := ar C
       obtain rfl := au j
       obtain rfl := aF af
       obtain rfl := av R
       obtain rfl := aw O
       obtain rfl := aG D
       obtain rfl := aW F
       obtain rfl := a8 N
       obtain rfl := ax U
       obtain rfl := ay M
       obtain rfl := aQ q
       obtain rfl := aX H
       obtain rfl := bm l
       obtain rfl := br m W
       refine hG (any_step ?_); clear hG G; intro A J hJ
       have y := Fz.le.trans y z
       have gh := al.mono z
       have gi := am.mono z
       have eS := X F
       have eT := Y q
       have eU := bn l
       have aH : (g.set f.toNat E).length = g.length := by simp; try omega
       have cl : Fr 53 [] [⟨0, [], .slice ao1 (g.set f.toNat E).length cap2⟩, ⟨1, [], i6 u1⟩, ⟨2, [], i6 u2⟩, ⟨3, [], .func (.func fid3) #[] caps4⟩, ⟨8, [], i6 x8⟩, ⟨9, [], i6 f⟩, ⟨37, [], .slice ao1 (g.set f.toNat E).length cap2⟩, ⟨38, [], i6 f⟩, ⟨39, [], .slice ao1 (g.set f.toNat E).length cap2⟩, ⟨40, [], i6 f⟩, ⟨41, [], i6 (w64 (f - 1))⟩, ⟨42, [], .slice ao1 (g.set f.toNat E).length cap2⟩, ⟨43, [], i6 f⟩, ⟨44, [], i6 (w64 (f - 1))⟩, ⟨45, [], .pointer (some ⟨aa, (w64 (f - 1)).toNat * 3, none⟩)⟩, ⟨46, [], .agg (e110Dm E).toArray⟩, ⟨47, [], .slice ao1 (g.set f.toNat E).length cap2⟩, ⟨48, [], i6 f⟩, ⟨49, [], .pointer (some ⟨ab, f.toNat * 3, none⟩)⟩, ⟨50, [], .agg (e110Dm n).toArray⟩, ⟨51, [], .pointer (some ⟨ac, f.toNat * 3, none⟩)⟩, ⟨52, [], ai⟩] a := by rw [aH]; exact hFx.reg
       clear hFx
       refine ixo cl hMx 0 (T := tyJob) (xs := g.set f.toNat E) (w64 (f - 1)) (by simpa only [List.length_set] using d7) (k := .i64) (e := 110) (bytes := 24) (nog rfl _) rfl (by kernel_rfl) rfl (by kernel_rfl) (by kernel_rfl) rfl (by kernel_rfl) ?_; intro cm gj eV cn; clear cl
       refine nl (qnI (hJ _ _ ?_)); clear hJ J
       rw [aH] at cn
       exact ⟨aa, ab, ac, cm, .slice ao1 g.length cap2, i6 f, .slice ao1 g.length cap2, i6 f, i6 (w64 (f - 1)), .slice ao1 g.length cap2, i6 f, i6 (w64 (f - 1)), .pointer (some ⟨aa, (w64 (f - 1)).toNat * 3, none⟩), .agg (e110Dm E).toArray, .slice ao1 g.length cap2, i6 f, .pointer (some ⟨ab, f.toNat * 3, none⟩), .agg (e110Dm n).toArray, .pointer (some ⟨ac, f.toNat * 3, none⟩), .pointer (some ⟨cm, (w64 (f - 1)).toNat * 3, none⟩), .own tyJob 110 ao1 cap2 (g.set f.toNat E), z, cn.reg, hMx.perm lpr, (fun _ => by first | rfl | rw [aH]), (fun _ => by first | rfl | rw [aH]), (fun _ => by first | rfl | rw [aH]), (fun _ => by first | rfl | rw [aH]), (fun _ => by first | rfl | rw [aH]), (fun _ => by first | rfl | rw [aH]), (fun _ => by first | rfl | rw [aH]), (fun _ => by first | rfl | rw [aH]), (fun _ => by first | rfl | rw [aH]), (fun _ => by first | rfl | rw [aH]), (fun _ => by first | rfl | rw [aH]), (fun _ => by first | rfl | rw [aH]), (fun _ => by first | rfl | rw [aH]), (fun _ => by first | rfl | rw [aH]), (fun _ => by first | rfl | rw [aH]), (fun _ => by first | rfl | rw [aH]), (tn m), kf2, (nt W), (fun _ => eS), (fun _ => eT), (fun _ => eU), (fun _ => eV)⟩
      obtain rfl := oj hi
      have p := hpre 16 (by kernel_rfl)
      have m := hpre 15 (by kernel_rfl)
      have l := hpre 14 (by kernel_rfl)
      have H := hpre 13 (by kernel_rfl)
      have q := hpre 12 (by kernel_rfl)
      have M := hpre 11 (by kernel_rfl)
      have U := hpre 10 (by kernel_rfl)
      have N := hpre 9 (by kernel_rfl)
      have F := hpre 8 (by kernel_rfl)
      have D := hpre 7 (by kernel_rfl)
      have O := hpre 6 (by kernel_rfl)
      have R := hpre 5 (by kernel_rfl)
      have af := hpre 4 (by kernel_rfl)
      have j := hpre 3 (by kernel_rfl)
      have C := hpre 2 (by kernel_rfl)
      have L := hpre 1 (by kernel_rfl)
      have I := hpre 0 (by kernel_rfl)
      have W := hSi
      obtain rfl := ap I
      obtain rfl := aq L
      obtain rfl := ar C
      obtain rfl := au j
      obtain rfl := aF af
      obtain rfl := av R
      obtain rfl := aw O
      obtain rfl := aG D
      obtain rfl := aW F
      obtain rfl := a8 N
      obtain rfl := ax U
      obtain rfl := ay M
      obtain rfl := aQ q
      obtain rfl := aX H
      obtain rfl := bm l
      obtain rfl := bJ p
      obtain rfl := br m W
      refine hG (any_step ?_); clear hG G; intro A J hJ
      have y := Fz.le.trans y z
      have gk := al.mono z
      have gl := am.mono z
      have eW := X F
      have eX := Y q
      have eY := bn l
      have co := bK p
      have aI : (g.set f.toNat E).length = g.length := by simp; try omega
      have bL : Fr 53 [] [⟨0, [], .slice ao1 (g.set f.toNat E).length cap2⟩, ⟨1, [], i6 u1⟩, ⟨2, [], i6 u2⟩, ⟨3, [], .func (.func fid3) #[] caps4⟩, ⟨8, [], i6 x8⟩, ⟨9, [], i6 f⟩, ⟨37, [], .slice ao1 (g.set f.toNat E).length cap2⟩, ⟨38, [], i6 f⟩, ⟨39, [], .slice ao1 (g.set f.toNat E).length cap2⟩, ⟨40, [], i6 f⟩, ⟨41, [], i6 (w64 (f - 1))⟩, ⟨42, [], .slice ao1 (g.set f.toNat E).length cap2⟩, ⟨43, [], i6 f⟩, ⟨44, [], i6 (w64 (f - 1))⟩, ⟨45, [], .pointer (some ⟨aa, (w64 (f - 1)).toNat * 3, none⟩)⟩, ⟨46, [], .agg (e110Dm E).toArray⟩, ⟨47, [], .slice ao1 (g.set f.toNat E).length cap2⟩, ⟨48, [], i6 f⟩, ⟨49, [], .pointer (some ⟨ab, f.toNat * 3, none⟩)⟩, ⟨50, [], .agg (e110Dm n).toArray⟩, ⟨51, [], .pointer (some ⟨ac, f.toNat * 3, none⟩)⟩, ⟨52, [], .pointer (some ⟨ag, (w64 (f - 1)).toNat * 3, none⟩)⟩] a := by rw [aI]; exact hFx.reg
      clear hFx
      refine sox bL hMx 0 co (T := tyJob) (xs := g.set f.toNat E) (w64 (f - 1)).toNat n (u := .agg (e110Dm n).toArray) (nog rfl _) rfl rfl (by kernel_rfl) rfl (by kernel_rfl) rfl (by kernel_rfl) (by first | omega | (simp only [List.length_set] at *; omega)) rfl ?_; intro gm eZ; clear hMx
      refine nl (qnI (hJ _ _ ?_)); clear hJ J
      rw [aI] at bL
      exact ⟨aa, ab, ac, ag, .slice ao1 g.length cap2, i6 f, .slice ao1 g.length cap2, i6 f, i6 (w64 (f - 1)), .slice ao1 g.length cap2, i6 f, i6 (w64 (f - 1)), .pointer (some ⟨aa, (w64 (f - 1)).toNat * 3, none⟩), .agg (e110Dm E).toArray, .slice ao1 g.length cap2, i6 f, .pointer (some ⟨ab, f.toNat * 3, none⟩), .agg (e110Dm n).toArray, .pointer (some ⟨ac, f.toNat * 3, none⟩), .pointer (some ⟨ag, (w64 (f - 1)).toNat * 3, none⟩), .own tyJob 110 ao1 cap2 ((g.set f.toNat E).set (w64 (f - 1)).toNat n), z, bL.reg, eZ.perm lpr, (fun _ => by first | rfl | rw [aI]), (fun _ => by first | rfl | rw [aI]), (fun _ => by first | rfl | rw [aI]), (fun _ => by first | rfl | rw [aI]), (fun _ => by first | rfl | rw [aI]), (fun _ => by first | rfl | rw [aI]), (fun _ => by first | rfl | rw [aI]), (fun _ => by first | rfl | rw [aI]), (fun _ => by first | rfl | rw [aI]), (fun _ => by first | rfl | rw [aI]), (fun _ => by first | rfl | rw [aI]), (fun _ => by first | rfl | rw [aI]), (fun _ => by first | rfl | rw [aI]), (fun _ => by first | rfl | rw [aI]), (fun _ => by first | rfl | rw [aI]), (fun _ => by first | rfl | rw [aI]), (tn m), (fun _ => nu), kf, (fun _ => eW), (fun _ => eX), (fun _ => eY), (fun _ => co)⟩
     case hE =>
      intro S hS cp gn hI; refine Go.Sy.hid ?_; intro G hG; obtain ⟨aa, ab, ac, ag, aM, aN, an, aD, ao, a4, bg, a5, aU, aO, a6, a7, aV, aP, aE, ai, ba, z, hFx, hMx, ap, aq, ar, au, aF, av, aw, aG, aW, a8, ax, ay, aQ, aX, bm, bJ, Q, br, ce, X, Y, bn, hI⟩ := hI; have bK := hI; clear hI; refine hG ?_; clear hG G
      obtain rfl := ap (hS 0 (by decide))
      obtain rfl := aq (hS 1 (by decide))
      obtain rfl := ar (hS 2 (by decide))
      obtain rfl := au (hS 3 (by decide))
      obtain rfl := aF (hS 4 (by decide))
      obtain rfl := av (hS 5 (by decide))
      obtain rfl := aw (hS 6 (by decide))
      obtain rfl := aG (hS 7 (by decide))
      obtain rfl := aW (hS 8 (by decide))
      obtain rfl := a8 (hS 9 (by decide))
      obtain rfl := ax (hS 10 (by decide))
      obtain rfl := ay (hS 11 (by decide))
      obtain rfl := aQ (hS 12 (by decide))
      obtain rfl := aX (hS 13 (by decide))
      obtain rfl := bm (hS 14 (by decide))
      obtain rfl := bJ (hS 16 (by decide))
      obtain rfl := ce (hS 17 (by decide))
      have y := Fz.le.trans y z
      have go := al.mono z
      have gp := am.mono z
      have gq := X (hS 8 (by decide))
      have gr := Y (hS 12 (by decide))
      have gs := bn (hS 14 (by decide))
      have gt := bK (hS 16 (by decide))
      have e0 : ((g.set f.toNat E).set (w64 (f - 1)).toNat n).length = g.length := by simp; try omega
      have cq : Fr 53 [] [⟨0, [], .slice ao1 ((g.set f.toNat E).set (w64 (f - 1)).toNat n).length cap2⟩, ⟨1, [], i6 u1⟩, ⟨2, [], i6 u2⟩, ⟨3, [], .func (.func fid3) #[] caps4⟩, ⟨8, [], i6 x8⟩, ⟨9, [], i6 f⟩, ⟨37, [], .slice ao1 ((g.set f.toNat E).set (w64 (f - 1)).toNat n).length cap2⟩, ⟨38, [], i6 f⟩, ⟨39, [], .slice ao1 ((g.set f.toNat E).set (w64 (f - 1)).toNat n).length cap2⟩, ⟨40, [], i6 f⟩, ⟨41, [], i6 (w64 (f - 1))⟩, ⟨42, [], .slice ao1 ((g.set f.toNat E).set (w64 (f - 1)).toNat n).length cap2⟩, ⟨43, [], i6 f⟩, ⟨44, [], i6 (w64 (f - 1))⟩, ⟨45, [], .pointer (some ⟨aa, (w64 (f - 1)).toNat * 3, none⟩)⟩, ⟨46, [], .agg (e110Dm E).toArray⟩, ⟨47, [], .slice ao1 ((g.set f.toNat E).set (w64 (f - 1)).toNat n).length cap2⟩, ⟨48, [], i6 f⟩, ⟨49, [], .pointer (some ⟨ab, f.toNat * 3, none⟩)⟩, ⟨50, [], .agg (e110Dm n).toArray⟩, ⟨51, [], .pointer (some ⟨ac, f.toNat * 3, none⟩)⟩, ⟨52, [], .pointer (some ⟨ag, (w64 (f - 1)).toNat * 3, none⟩)⟩] cp := by rw [e0]; exact hFx.reg
      clear hFx
      refine ibn ?_
      refine thn ?_
      have cr : Fr 53 [] [⟨0, [], .slice ao1 ((g.set f.toNat E).set (w64 (f - 1)).toNat n).length cap2⟩, ⟨1, [], i6 u1⟩, ⟨2, [], i6 u2⟩, ⟨3, [], .func (.func fid3) #[] caps4⟩, ⟨8, [], i6 x8⟩, ⟨9, [], i6 f⟩] cp := cq.reg; clear cq
      refine rgB cr hMx [] [] [(9, i6 (w64 (f - 1)))] ?_; intro gu e1; clear cr
      refine rd ?_
      exact ⟨⟨w64 (f - 1), (g.set f.toNat E).set (w64 (f - 1)).toNat n⟩, cc.1, cc.2, (e1.reg).anyβ _ (by kernel_rfl), hMx.keep (List.Sublist.cons_cons _ (List.Sublist.refl _))⟩
    have cs := bB.2 bI; clear bB
    refine wp_exit ?_
    refine thx ?_
    refine thx ?_
    refine ibx ?_
    refine ibn ?_
    refine thn ?_
    have ct : Fr 53 [] [⟨0, [], .slice ao1 g.length cap2⟩, ⟨1, [], i6 u1⟩, ⟨2, [], i6 u2⟩, ⟨3, [], .func (.func fid3) #[] caps4⟩, ⟨8, [], i6 x8⟩] aC := hFx.reg; clear hFx
    refine rgB ct hMx [] [] [(8, i6 (w64 (x8 + 1)))] ?_; intro gv e2; clear ct
    refine rd ?_
    exact ⟨⟨w64 (x8 + 1), g⟩, cs.1, cs.2, (e2.reg).anyβ _ (by kernel_rfl), hMx.keep (List.Sublist.cons_cons _ (List.Sublist.refl _))⟩
  have cu := bz.2 bu; clear bz
  have cv : Fr 53 [] [⟨0, [], .slice ao1 g.length cap2⟩, ⟨1, [], i6 u1⟩, ⟨2, [], i6 u2⟩, ⟨3, [], .func (.func fid3) #[] caps4⟩, ⟨8, [], i6 x8⟩, ⟨9, [], i6 f⟩] ah := bA.reg; clear bA
  refine sqQH mixed (by kernel_rfl) bE ?_; intro e3 cw
  refine q1 cv 18 (i6 f) ?_; intro gw cx; clear cv
  refine q1 cx 19 (i6 u1) ?_; intro gx cy; clear cx
  refine q1 cy 20 (.bool (decide (f > u1))) ?_; intro gy cz; clear cy
  have cA := cz.reval (d := 20) (c := []) (v := .bool (decide (f > u1))) (by kernel_rfl) (.bool false) (by rw [bu]); clear cz
  refine q1 cA 21 (.bool false) ?_; intro gz cB; clear cA
  refine qsk cB (b := false) rfl rfl (by kernel_rfl) (by kernel_rfl) rfl rfl (by kernel_rfl) ?_; intro gA cC; clear cB
  refine qsk cC (b := false) rfl rfl (by kernel_rfl) (by kernel_rfl) rfl rfl (by kernel_rfl) ?_; intro gB cD; clear cC
  refine qsk cD (b := false) rfl rfl (by kernel_rfl) (by kernel_rfl) rfl rfl (by kernel_rfl) ?_; intro gC cE; clear cD
  refine qsk cE (b := false) rfl rfl (by kernel_rfl) (by kernel_rfl) rfl rfl (by kernel_rfl) ?_; intro gD cF; clear cE
  refine qsk cF (b := false) rfl rfl (by kernel_rfl) (by kernel_rfl) rfl rfl (by kernel_rfl) ?_; intro gE cG; clear cF
  refine qsk cG (b := false) rfl rfl (by kernel_rfl) (by kernel_rfl) rfl rfl (by kernel_rfl) ?_; intro gF cH; clear cG
  refine qsk cH (b := false) rfl rfl (by kernel_rfl) (by kernel_rfl) rfl rfl (by kernel_rfl) ?_; intro gG cI; clear cH
  refine qsk cI (b := false) rfl rfl (by kernel_rfl) (by kernel_rfl) rfl rfl (by kernel_rfl) ?_; intro gH cJ; clear cI
  refine qsk cJ (b := false) rfl rfl (by kernel_rfl) (by kernel_rfl) rfl rfl (by kernel_rfl) ?_; intro gI cK; clear cJ
  refine qsk cK (b := false) rfl rfl (by kernel_rfl) (by kernel_rfl) rfl rfl (by kernel_rfl) ?_; intro gJ cL; clear cK
  refine qsk cL (b := false) rfl rfl (by kernel_rfl) (by kernel_rfl) rfl rfl (by kernel_rfl) ?_; intro gK cM; clear cL
  refine qsk cM (b := false) rfl rfl (by kernel_rfl) (by kernel_rfl) rfl rfl (by kernel_rfl) ?_; intro gL cN; clear cM
  refine q1 cN 34 (.bool false) ?_; intro gM bM; clear cN
  refine qnl (cw _ ?_); clear cw e3; intro gN cO; clear bE
  refine cdF bM (by kernel_rfl) ?_
  refine wp_exit ?_
  refine thx ?_
  refine thx ?_
  refine ibx ?_
  refine ibn ?_
  refine thn ?_
  refine rgB bM cO [] [] [(8, i6 (w64 (x8 + 1)))] ?_; intro gO e4; clear bM
  refine rd ?_
  exact ⟨⟨w64 (x8 + 1), g⟩, cu.1, cu.2, (e4.reg).anyβ _ (by kernel_rfl), cO.keep (List.Sublist.cons_cons _ (List.Sublist.refl _))⟩
 have e5 := bx.2 bD; clear bx
 refine wp_exit ?_
 refine thx ?_
 refine thx ?_
 refine ibx ?_
 obtain ⟨e6, e7⟩ := e5
 refine rN (fn := Try.f111) (v := .tuple #[]) bt (re0 bt (fn := Try.f111) rfl) ?_
 exact ⟨bo, Z, rfl, e7, y, e6, bs.keep (List.Sublist.cons_cons _ (List.Sublist.refl _))⟩

theorem sswap_walk (u0 : List Job) (u1 : Int) (u2 : Int) (u3 : Int) (u4 : Job → Job → Int) (ao1 : Option Addr) (cap2 : Nat) (fid3 : Nat) (caps4 : Array Value) (B : Nat) (w0 : World) (Z0 : Fz) (Rr : List Res) (Z : Fz) (w : World) (hf5 : ∀ (Z1 : Fz) (w1 : World), Z.le Z1 → Z1.on w1 → ∀ (x0 : Job) (x1 : Job), Calls Try.prog fid3 (#[.agg #[i6 x0.task, i6 x0.from_, i6 x0.asked], .agg #[i6 x1.task, i6 x1.from_, i6 x1.asked]] ++ caps4) w1 fun e w2 => e = .returned (i6 (u4 x0 x1)) ∧ Below w1.heap.size w1 w2) (hg6 : ∀ x w, Sem.run Try.prog (callFunc fid3 x) w = .ok (.enter fid3 x) w) (hM0 : Mem B [] w0 Z0 ((.own tyJob 110 ao1 cap2 u0) :: Rr) Z w) (hZ : Z.on w) {K : (List Job) → Prop} (hp : sswap_vc u0 u1 u2 u3 u4 K) : Calls Try.prog 134 #[.slice ao1 u0.length cap2, i6 u1, i6 u2, i6 u3, .func (.func fid3) #[] caps4] w fun e w' => ∃ (r : (List Job)) (Z' : Fz), e = .returned (.tuple #[]) ∧ K r ∧ Fz.le Z Z' ∧ (r.length = u0.length) ∧ Mem B [] w0 Z0 ((.own tyJob 110 ao1 cap2 r) :: Rr) Z' w' := by
 refine enter0 Try.func134 rfl rfl (by kernel_rfl) ?_; intro a0 be; have l := Fz.le.refl Z
 have bD := hp (hM0.ownSmall 0 rfl); clear hp
 refine sqB be hM0 [] [] [(10, i6 0)] ?_; intro a9 bf; clear be
 refine wp_block ?_
 have bg : Fr 38 [] [⟨0, [], .slice ao1 u0.length cap2⟩, ⟨1, [], i6 u1⟩, ⟨2, [], i6 u2⟩, ⟨3, [], i6 u3⟩, ⟨10, [], i6 0⟩] a9 := bf.reg; clear bf
 have bh : Fr 38 [] [⟨0, [], .slice ao1 u0.length cap2⟩, ⟨1, [], i6 u1⟩, ⟨2, [], i6 u2⟩, ⟨3, [], i6 u3⟩, ⟨10, [], i6 0⟩] a9 := bg.reg; clear bg
 obtain ⟨bE, bF, bG, bH⟩ := bD
 refine lp (ι := Int × (List Job)) (fun s => [⟨0, [], .slice ao1 s.2.length cap2⟩, ⟨1, [], i6 u1⟩, ⟨2, [], i6 u2⟩, ⟨3, [], i6 u3⟩, ⟨10, [], i6 s.1⟩]) (fun s => ((.own tyJob 110 ao1 cap2 s.2) :: Rr)) (fun s => Z) (fun s => bE s.1 s.2) (fun s => bF s.1 s.2) ⟨0, u0⟩ bG (by exact bh.reg) (by exact hM0) ?_
 rintro ⟨b, c⟩ bI bJ bK bi bj
 have bk : Fr 38 [] [⟨0, [], .slice ao1 c.length cap2⟩, ⟨1, [], i6 u1⟩, ⟨2, [], i6 u2⟩, ⟨3, [], i6 u3⟩, ⟨10, [], i6 b⟩] bJ := bi; clear bi bh
 have a8 : Mem B [] w0 Z0 ((.own tyJob 110 ao1 cap2 c) :: Rr) Z bK := bj; clear bj hM0
 have a7 := bH b c bI
 refine wp_seq ?_
 refine sqB bk a8 [] [] [(13, .bool (decide (b < u3)))] ?_; intro ai a6; clear bk
 refine cd a6 (t := decide (b < u3)) (by kernel_rfl) (fun ba => ?_) (fun ba => ?_)
 ·
  have bL := a7.1 ba; clear a7
  refine wp_skip ?_
  refine thn ?_
  refine wp_seq ?_
  refine wp_block ?_
  have bM : Fr 38 [] [⟨0, [], .slice ao1 c.length cap2⟩, ⟨1, [], i6 u1⟩, ⟨2, [], i6 u2⟩, ⟨3, [], i6 u3⟩, ⟨10, [], i6 b⟩] ai := a6.reg; clear a6
  obtain ⟨bN, bl⟩ := bL
  obtain ⟨f, bO, bP⟩ := gxq bl (by omega); clear bl
  obtain ⟨bQ, bm⟩ := bP
  obtain ⟨p, bR, bS⟩ := gxq bm (by omega); clear bm
  obtain ⟨bT, bU⟩ := bS
  obtain ⟨bV, bn⟩ := bU
  refine any_invE mixed [[], [], [], [1, 2], [], [], [], [5, 6], [], [], [], [9, 10], [8, 11], [12], [], [], [], [15, 16], [14, 17], [18], [0, 1, 2, 3, 8, 9, 10, 11, 12, 13, 19], [0, 1, 2, 3, 8, 9, 10, 11, 12, 13, 19, 20], [0, 1, 2, 3, 4, 5, 6, 7, 8, 9, 10, 11, 12, 13, 14, 15, 16, 17, 18, 19, 20, 21], [0, 1, 2, 3, 4, 5, 6, 7, 8, 9, 10, 11, 12, 13, 14, 15, 16, 17, 18, 19, 20, 21, 22]] 24 (fun S a w1 => ∃ (z : Nat) (C : Nat) (E : Nat) (F : Nat) (aj : Value) (au : Value) (av : Value) (ak : Value) (M : Value) (ad : Value) (ae : Value) (N : Value) (az : Value) (aH : Value) (aI : Value) (aA : Value) (aw : Value) (al : Value) (aB : Value) (aJ : Value) (aK : Value) (aC : Value) (ax : Value) (am : Value) (af : Value) (I : Value) (aX : Res), Fz.le Z Z ∧ Fr 38 [] [⟨0, [], .slice ao1 c.length cap2⟩, ⟨1, [], i6 u1⟩, ⟨2, [], i6 u2⟩, ⟨3, [], i6 u3⟩, ⟨10, [], i6 b⟩, ⟨16, [], aj⟩, ⟨17, [], au⟩, ⟨18, [], av⟩, ⟨19, [], ak⟩, ⟨20, [], M⟩, ⟨21, [], ad⟩, ⟨22, [], ae⟩, ⟨23, [], N⟩, ⟨24, [], az⟩, ⟨25, [], aH⟩, ⟨26, [], aI⟩, ⟨27, [], aA⟩, ⟨28, [], aw⟩, ⟨29, [], al⟩, ⟨30, [], aB⟩, ⟨31, [], aJ⟩, ⟨32, [], aK⟩, ⟨33, [], aC⟩, ⟨34, [], ax⟩, ⟨35, [], am⟩, ⟨36, [], af⟩, ⟨37, [], I⟩] a ∧ Mem B [] w0 Z0 (aX :: Rr) Z w1 ∧ (S 0 = true → aj = .slice ao1 c.length cap2) ∧ (S 1 = true → au = i6 u1) ∧ (S 2 = true → av = i6 b) ∧ (S 3 = true → ak = i6 (w64 (u1 + b))) ∧ (S 4 = true → M = .slice ao1 c.length cap2) ∧ (S 5 = true → ad = i6 u2) ∧ (S 6 = true → ae = i6 b) ∧ (S 7 = true → N = i6 (w64 (u2 + b))) ∧ (S 8 = true → az = .slice ao1 c.length cap2) ∧ (S 9 = true → aH = i6 u2) ∧ (S 10 = true → aI = i6 b) ∧ (S 11 = true → aA = i6 (w64 (u2 + b))) ∧ (S 12 = true → aw = .pointer (some ⟨z, (w64 (u2 + b)).toNat * 3, none⟩)) ∧ (S 13 = true → al = .agg (e110Dm f).toArray) ∧ (S 14 = true → aB = .slice ao1 c.length cap2) ∧ (S 15 = true → aJ = i6 u1) ∧ (S 16 = true → aK = i6 b) ∧ (S 17 = true → aC = i6 (w64 (u1 + b))) ∧ (S 18 = true → ax = .pointer (some ⟨C, (w64 (u1 + b)).toNat * 3, none⟩)) ∧ (S 19 = true → am = .agg (e110Dm p).toArray) ∧ (S 20 = true → af = .pointer (some ⟨E, (w64 (u1 + b)).toNat * 3, none⟩)) ∧ (S 22 = true → I = .pointer (some ⟨F, (w64 (u2 + b)).toNat * 3, none⟩)) ∧ (S 21 = false → aX = .own tyJob 110 ao1 cap2 c) ∧ (S 21 = true → S 23 = false → aX = .own tyJob 110 ao1 cap2 (c.set (w64 (u1 + b)).toNat f)) ∧ (S 23 = true → aX = .own tyJob 110 ao1 cap2 ((c.set (w64 (u1 + b)).toNat f).set (w64 (u2 + b)).toNat p)) ∧ (S 12 = true → ao1 = some ⟨z, 0, none⟩) ∧ (S 18 = true → ao1 = some ⟨C, 0, none⟩) ∧ (S 20 = true → ao1 = some ⟨E, 0, none⟩) ∧ (S 22 = true → ao1 = some ⟨F, 0, none⟩)) ?h0 ?hs ?hE
  case h0 =>
   have bW := bM.any 16
   have bX := bW.any 17
   have bY := bX.any 18
   have bZ := bY.any 19
   have b0 := bZ.any 20
   have b1 := b0.any 21
   have b2 := b1.any 22
   have b3 := b2.any 23
   have b4 := b3.any 24
   have b5 := b4.any 25
   have b6 := b5.any 26
   have b7 := b6.any 27
   have b8 := b7.any 28
   have b9 := b8.any 29
   have ca := b9.any 30
   have cb := ca.any 31
   have cc := cb.any 32
   have ce := cc.any 33
   have cf := ce.any 34
   have cg := cf.any 35
   have ch := cg.any 36
   have ci := ch.any 37
   have cj := (a8.perm lpr).drew
   exact ⟨0, 0, 0, 0, ai.tmps.getD 16 undef, ai.tmps.getD 17 undef, ai.tmps.getD 18 undef, ai.tmps.getD 19 undef, ai.tmps.getD 20 undef, ai.tmps.getD 21 undef, ai.tmps.getD 22 undef, ai.tmps.getD 23 undef, ai.tmps.getD 24 undef, ai.tmps.getD 25 undef, ai.tmps.getD 26 undef, ai.tmps.getD 27 undef, ai.tmps.getD 28 undef, ai.tmps.getD 29 undef, ai.tmps.getD 30 undef, ai.tmps.getD 31 undef, ai.tmps.getD 32 undef, ai.tmps.getD 33 undef, ai.tmps.getD 34 undef, ai.tmps.getD 35 undef, ai.tmps.getD 36 undef, ai.tmps.getD 37 undef, .own tyJob 110 ao1 cap2 c, Fz.le.refl _, ci.reg, cj, ff, ff, ff, ff, ff, ff, ff, ff, ff, ff, ff, ff, ff, ff, ff, ff, ff, ff, ff, ff, ff, ff, kf, ff, ff, ff, ff, ff, ff⟩
  case hs =>
   intro S hcl i o hil hi hSi hpre a w1 hI; refine Go.Sy.hid ?_; intro G hG; obtain ⟨z, C, E, F, aj, au, av, ak, M, ad, ae, N, az, aH, aI, aA, aw, al, aB, aJ, aK, aC, ax, am, af, I, aX, m, hFx, hMx, O, P, Q, an, R, U, V, ao, W, X, Y, ap, aD, aL, aa, ab, ac, aq, aE, aM, aZ, bb, ar, a4, bo, aF, aG, a1, hI⟩ := hI; have bc := hI; clear hI
   have hcase : i = 0 ∨ i = 1 ∨ i = 2 ∨ i = 3 ∨ i = 4 ∨ i = 5 ∨ i = 6 ∨ i = 7 ∨ i = 8 ∨ i = 9 ∨ i = 10 ∨ i = 11 ∨ i = 12 ∨ i = 13 ∨ i = 14 ∨ i = 15 ∨ i = 16 ∨ i = 17 ∨ i = 18 ∨ i = 19 ∨ i = 20 ∨ i = 21 ∨ i = 22 ∨ i = 23 := by clear hi; omega
   rcases hcase with rfl | rfl | rfl | rfl | rfl | rfl | rfl | rfl | rfl | rfl | rfl | rfl | rfl | rfl | rfl | rfl | rfl | rfl | rfl | rfl | rfl | rfl | rfl | rfl
   ·
    obtain rfl := oj hi
    have aW := hSi
    have g := ngF hcl 20 0 aW
    have j := ngF hcl 21 0 aW
    have d := ngF hcl 22 0 aW
    have n := ngF hcl 23 0 aW
    obtain rfl := ar j
    refine hG (any_step ?_); clear hG G; intro A J hJ
    have l := Fz.le.trans l m
    refine s1 hFx 16 (.slice ao1 c.length cap2) ?_; intro c6 ck; clear hFx
    refine nl (qnI (hJ _ _ ?_)); clear hJ J
    exact ⟨z, C, E, F, .slice ao1 c.length cap2, au, av, ak, M, ad, ae, N, az, aH, aI, aA, aw, al, aB, aJ, aK, aC, ax, am, af, I, .own tyJob 110 ao1 cap2 c, m, ck.reg, hMx.perm lpr, kf, P, Q, an, R, U, V, ao, W, X, Y, ap, aD, aL, aa, ab, ac, aq, aE, aM, (nt g), (nt d), kf, (fun h _ => nt j h), (nt n), aF, aG, (nt g), (nt d)⟩
   ·
    obtain rfl := oj hi
    have aT := hSi
    have aS := ngF hcl 3 1 aT
    have g := ngF hcl 20 1 aT
    have j := ngF hcl 21 1 aT
    have d := ngF hcl 22 1 aT
    have n := ngF hcl 23 1 aT
    obtain rfl := ar j
    refine hG (any_step ?_); clear hG G; intro A J hJ
    have l := Fz.le.trans l m
    refine s1 hFx 17 (i6 u1) ?_; intro c7 cl; clear hFx
    refine nl (qnI (hJ _ _ ?_)); clear hJ J
    exact ⟨z, C, E, F, aj, i6 u1, av, ak, M, ad, ae, N, az, aH, aI, aA, aw, al, aB, aJ, aK, aC, ax, am, af, I, .own tyJob 110 ao1 cap2 c, m, cl.reg, hMx.perm lpr, O, kf, Q, (nt aS), R, U, V, ao, W, X, Y, ap, aD, aL, aa, ab, ac, aq, aE, aM, (nt g), (nt d), kf, (fun h _ => nt j h), (nt n), aF, aG, (nt g), (nt d)⟩
   ·
    obtain rfl := oj hi
    have aU := hSi
    have aS := ngF hcl 3 2 aU
    have g := ngF hcl 20 2 aU
    have j := ngF hcl 21 2 aU
    have d := ngF hcl 22 2 aU
    have n := ngF hcl 23 2 aU
    obtain rfl := ar j
    refine hG (any_step ?_); clear hG G; intro A J hJ
    have l := Fz.le.trans l m
    refine s1 hFx 18 (i6 b) ?_; intro c8 cm; clear hFx
    refine nl (qnI (hJ _ _ ?_)); clear hJ J
    exact ⟨z, C, E, F, aj, au, i6 b, ak, M, ad, ae, N, az, aH, aI, aA, aw, al, aB, aJ, aK, aC, ax, am, af, I, .own tyJob 110 ao1 cap2 c, m, cm.reg, hMx.perm lpr, O, P, kf, (nt aS), R, U, V, ao, W, X, Y, ap, aD, aL, aa, ab, ac, aq, aE, aM, (nt g), (nt d), kf, (fun h _ => nt j h), (nt n), aF, aG, (nt g), (nt d)⟩
   ·
    obtain rfl := oj hi
    have aU := hpre 2 (by kernel_rfl)
    have aT := hpre 1 (by kernel_rfl)
    have aS := hSi
    have g := ngF hcl 20 3 aS
    have j := ngF hcl 21 3 aS
    have d := ngF hcl 22 3 aS
    have n := ngF hcl 23 3 aS
    obtain rfl := P aT
    obtain rfl := Q aU
    obtain rfl := ar j
    refine hG (any_step ?_); clear hG G; intro A J hJ
    have l := Fz.le.trans l m
    refine s1 hFx 19 (i6 (w64 (u1 + b))) ?_; intro c9 cn; clear hFx
    refine nl (qnI (hJ _ _ ?_)); clear hJ J
    exact ⟨z, C, E, F, aj, i6 u1, i6 b, i6 (w64 (u1 + b)), M, ad, ae, N, az, aH, aI, aA, aw, al, aB, aJ, aK, aC, ax, am, af, I, .own tyJob 110 ao1 cap2 c, m, cn.reg, hMx.perm lpr, O, kf, kf, kf, R, U, V, ao, W, X, Y, ap, aD, aL, aa, ab, ac, aq, aE, aM, (nt g), (nt d), kf, (fun h _ => nt j h), (nt n), aF, aG, (nt g), (nt d)⟩
   ·
    obtain rfl := oj hi
    have a5 := hSi
    have d := ngF hcl 22 4 a5
    have n := ngF hcl 23 4 a5
    refine hG (any_step ?_); clear hG G; intro A J hJ
    have l := Fz.le.trans l m
    refine s1 hFx 20 (.slice ao1 c.length cap2) ?_; intro da co; clear hFx
    refine nl (qnI (hJ _ _ ?_)); clear hJ J
    exact ⟨z, C, E, F, aj, au, av, ak, .slice ao1 c.length cap2, ad, ae, N, az, aH, aI, aA, aw, al, aB, aJ, aK, aC, ax, am, af, I, aX, m, co.reg, hMx.perm lpr, O, P, Q, an, kf, U, V, ao, W, X, Y, ap, aD, aL, aa, ab, ac, aq, aE, aM, aZ, (nt d), ar, a4, (nt n), aF, aG, a1, (nt d)⟩
   ·
    obtain rfl := oj hi
    have a2 := hSi
    have aY := ngF hcl 7 5 a2
    have d := ngF hcl 22 5 a2
    have n := ngF hcl 23 5 a2
    refine hG (any_step ?_); clear hG G; intro A J hJ
    have l := Fz.le.trans l m
    refine s1 hFx 21 (i6 u2) ?_; intro db cp; clear hFx
    refine nl (qnI (hJ _ _ ?_)); clear hJ J
    exact ⟨z, C, E, F, aj, au, av, ak, M, i6 u2, ae, N, az, aH, aI, aA, aw, al, aB, aJ, aK, aC, ax, am, af, I, aX, m, cp.reg, hMx.perm lpr, O, P, Q, an, R, kf, V, (nt aY), W, X, Y, ap, aD, aL, aa, ab, ac, aq, aE, aM, aZ, (nt d), ar, a4, (nt n), aF, aG, a1, (nt d)⟩
   ·
    obtain rfl := oj hi
    have a3 := hSi
    have aY := ngF hcl 7 6 a3
    have d := ngF hcl 22 6 a3
    have n := ngF hcl 23 6 a3
    refine hG (any_step ?_); clear hG G; intro A J hJ
    have l := Fz.le.trans l m
    refine s1 hFx 22 (i6 b) ?_; intro dc cq; clear hFx
    refine nl (qnI (hJ _ _ ?_)); clear hJ J
    exact ⟨z, C, E, F, aj, au, av, ak, M, ad, i6 b, N, az, aH, aI, aA, aw, al, aB, aJ, aK, aC, ax, am, af, I, aX, m, cq.reg, hMx.perm lpr, O, P, Q, an, R, U, kf, (nt aY), W, X, Y, ap, aD, aL, aa, ab, ac, aq, aE, aM, aZ, (nt d), ar, a4, (nt n), aF, aG, a1, (nt d)⟩
   ·
    obtain rfl := oj hi
    have a3 := hpre 6 (by kernel_rfl)
    have a2 := hpre 5 (by kernel_rfl)
    have aY := hSi
    have d := ngF hcl 22 7 aY
    have n := ngF hcl 23 7 aY
    obtain rfl := U a2
    obtain rfl := V a3
    refine hG (any_step ?_); clear hG G; intro A J hJ
    have l := Fz.le.trans l m
    refine s1 hFx 23 (i6 (w64 (u2 + b))) ?_; intro dd cr; clear hFx
    refine nl (qnI (hJ _ _ ?_)); clear hJ J
    exact ⟨z, C, E, F, aj, au, av, ak, M, i6 u2, i6 b, i6 (w64 (u2 + b)), az, aH, aI, aA, aw, al, aB, aJ, aK, aC, ax, am, af, I, aX, m, cr.reg, hMx.perm lpr, O, P, Q, an, R, kf, kf, kf, W, X, Y, ap, aD, aL, aa, ab, ac, aq, aE, aM, aZ, (nt d), ar, a4, (nt n), aF, aG, a1, (nt d)⟩
   ·
    obtain rfl := oj hi
    have aP := hSi
    have y := ngF hcl 12 8 aP
    have ay := ngF hcl 13 12 y
    have g := ngF hcl 20 8 aP
    have j := ngF hcl 21 8 aP
    have d := ngF hcl 22 8 aP
    have n := ngF hcl 23 8 aP
    obtain rfl := ar j
    refine hG (any_step ?_); clear hG G; intro A J hJ
    have l := Fz.le.trans l m
    refine s1 hFx 24 (.slice ao1 c.length cap2) ?_; intro de cs; clear hFx
    refine nl (qnI (hJ _ _ ?_)); clear hJ J
    exact ⟨z, C, E, F, aj, au, av, ak, M, ad, ae, N, .slice ao1 c.length cap2, aH, aI, aA, aw, al, aB, aJ, aK, aC, ax, am, af, I, .own tyJob 110 ao1 cap2 c, m, cs.reg, hMx.perm lpr, O, P, Q, an, R, U, V, ao, kf, X, Y, ap, (nt y), (nt ay), aa, ab, ac, aq, aE, aM, (nt g), (nt d), kf, (fun h _ => nt j h), (nt n), (nt y), aG, (nt g), (nt d)⟩
   ·
    obtain rfl := oj hi
    have aN := hSi
    have L := ngF hcl 11 9 aN
    have y := ngF hcl 12 11 L
    have ay := ngF hcl 13 12 y
    have g := ngF hcl 20 9 aN
    have j := ngF hcl 21 9 aN
    have d := ngF hcl 22 9 aN
    have n := ngF hcl 23 9 aN
    obtain rfl := ar j
    refine hG (any_step ?_); clear hG G; intro A J hJ
    have l := Fz.le.trans l m
    refine s1 hFx 25 (i6 u2) ?_; intro df ct; clear hFx
    refine nl (qnI (hJ _ _ ?_)); clear hJ J
    exact ⟨z, C, E, F, aj, au, av, ak, M, ad, ae, N, az, i6 u2, aI, aA, aw, al, aB, aJ, aK, aC, ax, am, af, I, .own tyJob 110 ao1 cap2 c, m, ct.reg, hMx.perm lpr, O, P, Q, an, R, U, V, ao, W, kf, Y, (nt L), (nt y), (nt ay), aa, ab, ac, aq, aE, aM, (nt g), (nt d), kf, (fun h _ => nt j h), (nt n), (nt y), aG, (nt g), (nt d)⟩
   ·
    obtain rfl := oj hi
    have aO := hSi
    have L := ngF hcl 11 10 aO
    have y := ngF hcl 12 11 L
    have ay := ngF hcl 13 12 y
    have g := ngF hcl 20 10 aO
    have j := ngF hcl 21 10 aO
    have d := ngF hcl 22 10 aO
    have n := ngF hcl 23 10 aO
    obtain rfl := ar j
    refine hG (any_step ?_); clear hG G; intro A J hJ
    have l := Fz.le.trans l m
    refine s1 hFx 26 (i6 b) ?_; intro dg cu; clear hFx
    refine nl (qnI (hJ _ _ ?_)); clear hJ J
    exact ⟨z, C, E, F, aj, au, av, ak, M, ad, ae, N, az, aH, i6 b, aA, aw, al, aB, aJ, aK, aC, ax, am, af, I, .own tyJob 110 ao1 cap2 c, m, cu.reg, hMx.perm lpr, O, P, Q, an, R, U, V, ao, W, X, kf, (nt L), (nt y), (nt ay), aa, ab, ac, aq, aE, aM, (nt g), (nt d), kf, (fun h _ => nt j h), (nt n), (nt y), aG, (nt g), (nt d)⟩
   ·
    obtain rfl := oj hi
    have aO := hpre 10 (by kernel_rfl)
    have aN := hpre 9 (by kernel_rfl)
    have L := hSi
    have y := ngF hcl 12 11 L
    have ay := ngF hcl 13 12 y
    have g := ngF hcl 20 11 L
    have j := ngF hcl 21 11 L
    have d := ngF hcl 22 11 L
    have n := ngF hcl 23 11 L
    obtain rfl := X aN
    obtain rfl := Y aO
    obtain rfl := ar j
    refine hG (any_step ?_); clear hG G; intro A J hJ
    have l := Fz.le.trans l m
    refine s1 hFx 27 (i6 (w64 (u2 + b))) ?_; intro dh cv; clear hFx
    refine nl (qnI (hJ _ _ ?_)); clear hJ J
    exact ⟨z, C, E, F, aj, au, av, ak, M, ad, ae, N, az, i6 u2, i6 b, i6 (w64 (u2 + b)), aw, al, aB, aJ, aK, aC, ax, am, af, I, .own tyJob 110 ao1 cap2 c, m, cv.reg, hMx.perm lpr, O, P, Q, an, R, U, V, ao, W, kf, kf, kf, (nt y), (nt ay), aa, ab, ac, aq, aE, aM, (nt g), (nt d), kf, (fun h _ => nt j h), (nt n), (nt y), aG, (nt g), (nt d)⟩
   ·
    obtain rfl := oj hi
    have L := hpre 11 (by kernel_rfl)
    have aP := hpre 8 (by kernel_rfl)
    have aO := hcl 11 10 (by kernel_rfl) L
    have aN := hcl 11 9 (by kernel_rfl) L
    have y := hSi
    have ay := ngF hcl 13 12 y
    have g := ngF hcl 20 12 y
    have j := ngF hcl 21 12 y
    have d := ngF hcl 22 12 y
    have n := ngF hcl 23 12 y
    obtain rfl := W aP
    obtain rfl := X aN
    obtain rfl := Y aO
    obtain rfl := ap L
    obtain rfl := ar j
    refine hG (any_step ?_); clear hG G; intro A J hJ
    have l := Fz.le.trans l m
    refine ixo hFx hMx 0 (T := tyJob) (xs := c) (w64 (u2 + b)) (by simpa only [List.length_set] using bN) (k := .i64) (e := 110) (bytes := 24) (nog rfl _) rfl (by kernel_rfl) rfl (by kernel_rfl) (by kernel_rfl) rfl (by kernel_rfl) ?_; intro bp di cw cx; clear hFx
    refine nl (qnI (hJ _ _ ?_)); clear hJ J
    exact ⟨bp, C, E, F, aj, au, av, ak, M, ad, ae, N, .slice ao1 c.length cap2, i6 u2, i6 b, i6 (w64 (u2 + b)), .pointer (some ⟨bp, (w64 (u2 + b)).toNat * 3, none⟩), al, aB, aJ, aK, aC, ax, am, af, I, .own tyJob 110 ao1 cap2 c, m, cx.reg, hMx.perm lpr, O, P, Q, an, R, U, V, ao, kf, kf, kf, kf, kf, (nt ay), aa, ab, ac, aq, aE, aM, (nt g), (nt d), kf, (fun h _ => nt j h), (nt n), (fun _ => cw), aG, (nt g), (nt d)⟩
   ·
    obtain rfl := oj hi
    have y := hpre 12 (by kernel_rfl)
    have L := hcl 12 11 (by kernel_rfl) y
    have aP := hcl 12 8 (by kernel_rfl) y
    have aO := hcl 11 10 (by kernel_rfl) L
    have aN := hcl 11 9 (by kernel_rfl) L
    have ay := hSi
    have g := ngF hcl 20 13 ay
    have j := ngF hcl 21 13 ay
    have d := ngF hcl 22 13 ay
    have n := ngF hcl 23 13 ay
    obtain rfl := W aP
    obtain rfl := X aN
    obtain rfl := Y aO
    obtain rfl := ap L
    obtain rfl := aD y
    obtain rfl := ar j
    refine hG (any_step ?_); clear hG G; intro A J hJ
    have l := Fz.le.trans l m
    have bq := aF y
    obtain ⟨cy, cz, cA⟩ := own_elx hMx 0 (T := tyJob) (xs := c) rfl bq (w64 (u2 + b)).toNat bO
    obtain rfl : cy = ((e110Dm f) : List Value) := cz
    refine lc2 hFx 29 3 (e110Dm f) cA rfl ?_; intro dj cB; clear hFx
    refine nl (qnI (hJ _ _ ?_)); clear hJ J
    exact ⟨z, C, E, F, aj, au, av, ak, M, ad, ae, N, .slice ao1 c.length cap2, i6 u2, i6 b, i6 (w64 (u2 + b)), .pointer (some ⟨z, (w64 (u2 + b)).toNat * 3, none⟩), .agg (e110Dm f).toArray, aB, aJ, aK, aC, ax, am, af, I, .own tyJob 110 ao1 cap2 c, m, cB.reg, hMx.perm lpr, O, P, Q, an, R, U, V, ao, kf, kf, kf, kf, kf, kf, aa, ab, ac, aq, aE, aM, (nt g), (nt d), kf, (fun h _ => nt j h), (nt n), (fun _ => bq), aG, (nt g), (nt d)⟩
   ·
    obtain rfl := oj hi
    have aV := hSi
    have q := ngF hcl 18 14 aV
    have D := ngF hcl 19 18 q
    have g := ngF hcl 20 19 D
    have j := ngF hcl 21 19 D
    have d := ngF hcl 22 14 aV
    have n := ngF hcl 23 14 aV
    obtain rfl := ar j
    refine hG (any_step ?_); clear hG G; intro A J hJ
    have l := Fz.le.trans l m
    refine s1 hFx 30 (.slice ao1 c.length cap2) ?_; intro dk cC; clear hFx
    refine nl (qnI (hJ _ _ ?_)); clear hJ J
    exact ⟨z, C, E, F, aj, au, av, ak, M, ad, ae, N, az, aH, aI, aA, aw, al, .slice ao1 c.length cap2, aJ, aK, aC, ax, am, af, I, .own tyJob 110 ao1 cap2 c, m, cC.reg, hMx.perm lpr, O, P, Q, an, R, U, V, ao, W, X, Y, ap, aD, aL, kf, ab, ac, aq, (nt q), (nt D), (nt g), (nt d), kf, (fun h _ => nt j h), (nt n), aF, (nt q), (nt g), (nt d)⟩
   ·
    obtain rfl := oj hi
    have aQ := hSi
    have H := ngF hcl 17 15 aQ
    have q := ngF hcl 18 17 H
    have D := ngF hcl 19 18 q
    have g := ngF hcl 20 19 D
    have j := ngF hcl 21 19 D
    have d := ngF hcl 22 15 aQ
    have n := ngF hcl 23 15 aQ
    obtain rfl := ar j
    refine hG (any_step ?_); clear hG G; intro A J hJ
    have l := Fz.le.trans l m
    refine s1 hFx 31 (i6 u1) ?_; intro dl cD; clear hFx
    refine nl (qnI (hJ _ _ ?_)); clear hJ J
    exact ⟨z, C, E, F, aj, au, av, ak, M, ad, ae, N, az, aH, aI, aA, aw, al, aB, i6 u1, aK, aC, ax, am, af, I, .own tyJob 110 ao1 cap2 c, m, cD.reg, hMx.perm lpr, O, P, Q, an, R, U, V, ao, W, X, Y, ap, aD, aL, aa, kf, ac, (nt H), (nt q), (nt D), (nt g), (nt d), kf, (fun h _ => nt j h), (nt n), aF, (nt q), (nt g), (nt d)⟩
   ·
    obtain rfl := oj hi
    have aR := hSi
    have H := ngF hcl 17 16 aR
    have q := ngF hcl 18 17 H
    have D := ngF hcl 19 18 q
    have g := ngF hcl 20 19 D
    have j := ngF hcl 21 19 D
    have d := ngF hcl 22 16 aR
    have n := ngF hcl 23 16 aR
    obtain rfl := ar j
    refine hG (any_step ?_); clear hG G; intro A J hJ
    have l := Fz.le.trans l m
    refine s1 hFx 32 (i6 b) ?_; intro dm cE; clear hFx
    refine nl (qnI (hJ _ _ ?_)); clear hJ J
    exact ⟨z, C, E, F, aj, au, av, ak, M, ad, ae, N, az, aH, aI, aA, aw, al, aB, aJ, i6 b, aC, ax, am, af, I, .own tyJob 110 ao1 cap2 c, m, cE.reg, hMx.perm lpr, O, P, Q, an, R, U, V, ao, W, X, Y, ap, aD, aL, aa, ab, kf, (nt H), (nt q), (nt D), (nt g), (nt d), kf, (fun h _ => nt j h), (nt n), aF, (nt q), (nt g), (nt d)⟩
   ·
    obtain rfl := oj hi
    have aR := hpre 16 (by kernel_rfl)
    have aQ := hpre 15 (by kernel_rfl)
    have H := hSi
    have q := ngF hcl 18 17 H
    have D := ngF hcl 19 18 q
    have g := ngF hcl 20 19 D
    have j := ngF hcl 21 19 D
    have d := ngF hcl 22 17 H
    have n := ngF hcl 23 17 H
    obtain rfl := ab aQ
    obtain rfl := ac aR
    obtain rfl := ar j
    refine hG (any_step ?_); clear hG G; intro A J hJ
    have l := Fz.le.trans l m
    refine s1 hFx 33 (i6 (w64 (u1 + b))) ?_; intro dn cF; clear hFx
    refine nl (qnI (hJ _ _ ?_)); clear hJ J
    exact ⟨z, C, E, F, aj, au, av, ak, M, ad, ae, N, az, aH, aI, aA, aw, al, aB, i6 u1, i6 b, i6 (w64 (u1 + b)), ax, am, af, I, .own tyJob 110 ao1 cap2 c, m, cF.reg, hMx.perm lpr, O, P, Q, an, R, U, V, ao, W, X, Y, ap, aD, aL, aa, kf, kf, kf, (nt q), (nt D), (nt g), (nt d), kf, (fun h _ => nt j h), (nt n), aF, (nt q), (nt g), (nt d)⟩
   ·
    obtain rfl := oj hi
    have H := hpre 17 (by kernel_rfl)
    have aV := hpre 14 (by kernel_rfl)
    have aR := hcl 17 16 (by kernel_rfl) H
    have aQ := hcl 17 15 (by kernel_rfl) H
    have q := hSi
    have D := ngF hcl 19 18 q
    have g := ngF hcl 20 19 D
    have j := ngF hcl 21 19 D
    have d := ngF hcl 22 18 q
    have n := ngF hcl 23 18 q
    obtain rfl := aa aV
    obtain rfl := ab aQ
    obtain rfl := ac aR
    obtain rfl := aq H
    obtain rfl := ar j
    refine hG (any_step ?_); clear hG G; intro A J hJ
    have l := Fz.le.trans l m
    refine ixo hFx hMx 0 (T := tyJob) (xs := c) (w64 (u1 + b)) (by simpa only [List.length_set] using bQ) (k := .i64) (e := 110) (bytes := 24) (nog rfl _) rfl (by kernel_rfl) rfl (by kernel_rfl) (by kernel_rfl) rfl (by kernel_rfl) ?_; intro br dp cG cH; clear hFx
    refine nl (qnI (hJ _ _ ?_)); clear hJ J
    exact ⟨z, br, E, F, aj, au, av, ak, M, ad, ae, N, az, aH, aI, aA, aw, al, .slice ao1 c.length cap2, i6 u1, i6 b, i6 (w64 (u1 + b)), .pointer (some ⟨br, (w64 (u1 + b)).toNat * 3, none⟩), am, af, I, .own tyJob 110 ao1 cap2 c, m, cH.reg, hMx.perm lpr, O, P, Q, an, R, U, V, ao, W, X, Y, ap, aD, aL, kf, kf, kf, kf, kf, (nt D), (nt g), (nt d), kf, (fun h _ => nt j h), (nt n), aF, (fun _ => cG), (nt g), (nt d)⟩
   ·
    obtain rfl := oj hi
    have q := hpre 18 (by kernel_rfl)
    have H := hcl 18 17 (by kernel_rfl) q
    have aV := hcl 18 14 (by kernel_rfl) q
    have aR := hcl 17 16 (by kernel_rfl) H
    have aQ := hcl 17 15 (by kernel_rfl) H
    have D := hSi
    have g := ngF hcl 20 19 D
    have j := ngF hcl 21 19 D
    have d := ngF hcl 22 19 D
    have n := ngF hcl 23 19 D
    obtain rfl := aa aV
    obtain rfl := ab aQ
    obtain rfl := ac aR
    obtain rfl := aq H
    obtain rfl := aE q
    obtain rfl := ar j
    refine hG (any_step ?_); clear hG G; intro A J hJ
    have l := Fz.le.trans l m
    have bs := aG q
    obtain ⟨cI, cJ, cK⟩ := own_elx hMx 0 (T := tyJob) (xs := c) rfl bs (w64 (u1 + b)).toNat bR
    obtain rfl : cI = ((e110Dm p) : List Value) := cJ
    refine lc2 hFx 35 3 (e110Dm p) cK rfl ?_; intro dq cL; clear hFx
    refine nl (qnI (hJ _ _ ?_)); clear hJ J
    exact ⟨z, C, E, F, aj, au, av, ak, M, ad, ae, N, az, aH, aI, aA, aw, al, .slice ao1 c.length cap2, i6 u1, i6 b, i6 (w64 (u1 + b)), .pointer (some ⟨C, (w64 (u1 + b)).toNat * 3, none⟩), .agg (e110Dm p).toArray, af, I, .own tyJob 110 ao1 cap2 c, m, cL.reg, hMx.perm lpr, O, P, Q, an, R, U, V, ao, W, X, Y, ap, aD, aL, kf, kf, kf, kf, kf, kf, (nt g), (nt d), kf, (fun h _ => nt j h), (nt n), aF, (fun _ => bs), (nt g), (nt d)⟩
   ·
    obtain rfl := oj hi
    have D := hpre 19 (by kernel_rfl)
    have ay := hpre 13 (by kernel_rfl)
    have y := hpre 12 (by kernel_rfl)
    have L := hpre 11 (by kernel_rfl)
    have aO := hpre 10 (by kernel_rfl)
    have aN := hpre 9 (by kernel_rfl)
    have aP := hpre 8 (by kernel_rfl)
    have aS := hpre 3 (by kernel_rfl)
    have aU := hpre 2 (by kernel_rfl)
    have aT := hpre 1 (by kernel_rfl)
    have aW := hpre 0 (by kernel_rfl)
    have q := hcl 19 18 (by kernel_rfl) D
    have H := hcl 18 17 (by kernel_rfl) q
    have aV := hcl 18 14 (by kernel_rfl) q
    have aR := hcl 17 16 (by kernel_rfl) H
    have aQ := hcl 17 15 (by kernel_rfl) H
    have g := hSi
    have j := ngF hcl 21 20 g
    have d := ngF hcl 22 20 g
    have n := ngF hcl 23 20 g
    obtain rfl := O aW
    obtain rfl := P aT
    obtain rfl := Q aU
    obtain rfl := an aS
    obtain rfl := W aP
    obtain rfl := X aN
    obtain rfl := Y aO
    obtain rfl := ap L
    obtain rfl := aD y
    obtain rfl := aL ay
    obtain rfl := aa aV
    obtain rfl := ab aQ
    obtain rfl := ac aR
    obtain rfl := aq H
    obtain rfl := aE q
    obtain rfl := aM D
    obtain rfl := ar j
    refine hG (any_step ?_); clear hG G; intro A J hJ
    have l := Fz.le.trans l m
    have cM := aF y
    have cN := aG q
    refine ixo hFx hMx 0 (T := tyJob) (xs := c) (w64 (u1 + b)) (by simpa only [List.length_set] using bT) (k := .i64) (e := 110) (bytes := 24) (nog rfl _) rfl (by kernel_rfl) rfl (by kernel_rfl) (by kernel_rfl) rfl (by kernel_rfl) ?_; intro bt dr cO cP; clear hFx
    refine nl (qnI (hJ _ _ ?_)); clear hJ J
    exact ⟨z, C, bt, F, .slice ao1 c.length cap2, i6 u1, i6 b, i6 (w64 (u1 + b)), M, ad, ae, N, .slice ao1 c.length cap2, i6 u2, i6 b, i6 (w64 (u2 + b)), .pointer (some ⟨z, (w64 (u2 + b)).toNat * 3, none⟩), .agg (e110Dm f).toArray, .slice ao1 c.length cap2, i6 u1, i6 b, i6 (w64 (u1 + b)), .pointer (some ⟨C, (w64 (u1 + b)).toNat * 3, none⟩), .agg (e110Dm p).toArray, .pointer (some ⟨bt, (w64 (u1 + b)).toNat * 3, none⟩), I, .own tyJob 110 ao1 cap2 c, m, cP.reg, hMx.perm lpr, kf, kf, kf, kf, R, U, V, ao, kf, kf, kf, kf, kf, kf, kf, kf, kf, kf, kf, kf, kf, (nt d), kf, (fun h _ => nt j h), (nt n), (fun _ => cM), (fun _ => cN), (fun _ => cO), (nt d)⟩
   ·
    obtain rfl := oj hi
    have g := hpre 20 (by kernel_rfl)
    have D := hpre 19 (by kernel_rfl)
    have ay := hpre 13 (by kernel_rfl)
    have y := hpre 12 (by kernel_rfl)
    have L := hpre 11 (by kernel_rfl)
    have aO := hpre 10 (by kernel_rfl)
    have aN := hpre 9 (by kernel_rfl)
    have aP := hpre 8 (by kernel_rfl)
    have aS := hpre 3 (by kernel_rfl)
    have aU := hpre 2 (by kernel_rfl)
    have aT := hpre 1 (by kernel_rfl)
    have aW := hpre 0 (by kernel_rfl)
    have q := hcl 19 18 (by kernel_rfl) D
    have H := hcl 18 17 (by kernel_rfl) q
    have aV := hcl 18 14 (by kernel_rfl) q
    have aR := hcl 17 16 (by kernel_rfl) H
    have aQ := hcl 17 15 (by kernel_rfl) H
    have j := hSi
    have d := ngF hcl 22 21 j
    have n := ngF hcl 23 21 j
    obtain rfl := O aW
    obtain rfl := P aT
    obtain rfl := Q aU
    obtain rfl := an aS
    obtain rfl := W aP
    obtain rfl := X aN
    obtain rfl := Y aO
    obtain rfl := ap L
    obtain rfl := aD y
    obtain rfl := aL ay
    obtain rfl := aa aV
    obtain rfl := ab aQ
    obtain rfl := ac aR
    obtain rfl := aq H
    obtain rfl := aE q
    obtain rfl := aM D
    obtain rfl := aZ g
    obtain rfl := ar j
    refine hG (any_step ?_); clear hG G; intro A J hJ
    have l := Fz.le.trans l m
    have cQ := aF y
    have cR := aG q
    have bu := a1 g
    refine sox hFx hMx 0 bu (T := tyJob) (xs := c) (w64 (u1 + b)).toNat f (u := .agg (e110Dm f).toArray) (nog rfl _) rfl rfl (by kernel_rfl) rfl (by kernel_rfl) rfl (by kernel_rfl) (by first | omega | (simp only [List.length_set] at *; omega)) rfl ?_; intro ds cS; clear hMx
    refine nl (qnI (hJ _ _ ?_)); clear hJ J
    exact ⟨z, C, E, F, .slice ao1 c.length cap2, i6 u1, i6 b, i6 (w64 (u1 + b)), M, ad, ae, N, .slice ao1 c.length cap2, i6 u2, i6 b, i6 (w64 (u2 + b)), .pointer (some ⟨z, (w64 (u2 + b)).toNat * 3, none⟩), .agg (e110Dm f).toArray, .slice ao1 c.length cap2, i6 u1, i6 b, i6 (w64 (u1 + b)), .pointer (some ⟨C, (w64 (u1 + b)).toNat * 3, none⟩), .agg (e110Dm p).toArray, .pointer (some ⟨E, (w64 (u1 + b)).toNat * 3, none⟩), I, .own tyJob 110 ao1 cap2 (c.set (w64 (u1 + b)).toNat f), m, hFx.reg, cS.perm lpr, kf, kf, kf, kf, R, U, V, ao, kf, kf, kf, kf, kf, kf, kf, kf, kf, kf, kf, kf, kf, (nt d), nu, kf2, (nt n), (fun _ => cQ), (fun _ => cR), (fun _ => bu), (nt d)⟩
   ·
    obtain rfl := oj hi
    have j := hpre 21 (by kernel_rfl)
    have g := hpre 20 (by kernel_rfl)
    have D := hpre 19 (by kernel_rfl)
    have q := hpre 18 (by kernel_rfl)
    have H := hpre 17 (by kernel_rfl)
    have aR := hpre 16 (by kernel_rfl)
    have aQ := hpre 15 (by kernel_rfl)
    have aV := hpre 14 (by kernel_rfl)
    have ay := hpre 13 (by kernel_rfl)
    have y := hpre 12 (by kernel_rfl)
    have L := hpre 11 (by kernel_rfl)
    have aO := hpre 10 (by kernel_rfl)
    have aN := hpre 9 (by kernel_rfl)
    have aP := hpre 8 (by kernel_rfl)
    have aY := hpre 7 (by kernel_rfl)
    have a3 := hpre 6 (by kernel_rfl)
    have a2 := hpre 5 (by kernel_rfl)
    have a5 := hpre 4 (by kernel_rfl)
    have aS := hpre 3 (by kernel_rfl)
    have aU := hpre 2 (by kernel_rfl)
    have aT := hpre 1 (by kernel_rfl)
    have aW := hpre 0 (by kernel_rfl)
    have d := hSi
    have n := ngF hcl 23 22 d
    obtain rfl := O aW
    obtain rfl := P aT
    obtain rfl := Q aU
    obtain rfl := an aS
    obtain rfl := R a5
    obtain rfl := U a2
    obtain rfl := V a3
    obtain rfl := ao aY
    obtain rfl := W aP
    obtain rfl := X aN
    obtain rfl := Y aO
    obtain rfl := ap L
    obtain rfl := aD y
    obtain rfl := aL ay
    obtain rfl := aa aV
    obtain rfl := ab aQ
    obtain rfl := ac aR
    obtain rfl := aq H
    obtain rfl := aE q
    obtain rfl := aM D
    obtain rfl := aZ g
    obtain rfl := a4 j n
    refine hG (any_step ?_); clear hG G; intro A J hJ
    have l := Fz.le.trans l m
    have cT := aF y
    have cU := aG q
    have cV := a1 g
    have ag : (c.set (w64 (u1 + b)).toNat f).length = c.length := by simp; try omega
    have bv : Fr 38 [] [⟨0, [], .slice ao1 (c.set (w64 (u1 + b)).toNat f).length cap2⟩, ⟨1, [], i6 u1⟩, ⟨2, [], i6 u2⟩, ⟨3, [], i6 u3⟩, ⟨10, [], i6 b⟩, ⟨16, [], .slice ao1 (c.set (w64 (u1 + b)).toNat f).length cap2⟩, ⟨17, [], i6 u1⟩, ⟨18, [], i6 b⟩, ⟨19, [], i6 (w64 (u1 + b))⟩, ⟨20, [], .slice ao1 (c.set (w64 (u1 + b)).toNat f).length cap2⟩, ⟨21, [], i6 u2⟩, ⟨22, [], i6 b⟩, ⟨23, [], i6 (w64 (u2 + b))⟩, ⟨24, [], .slice ao1 (c.set (w64 (u1 + b)).toNat f).length cap2⟩, ⟨25, [], i6 u2⟩, ⟨26, [], i6 b⟩, ⟨27, [], i6 (w64 (u2 + b))⟩, ⟨28, [], .pointer (some ⟨z, (w64 (u2 + b)).toNat * 3, none⟩)⟩, ⟨29, [], .agg (e110Dm f).toArray⟩, ⟨30, [], .slice ao1 (c.set (w64 (u1 + b)).toNat f).length cap2⟩, ⟨31, [], i6 u1⟩, ⟨32, [], i6 b⟩, ⟨33, [], i6 (w64 (u1 + b))⟩, ⟨34, [], .pointer (some ⟨C, (w64 (u1 + b)).toNat * 3, none⟩)⟩, ⟨35, [], .agg (e110Dm p).toArray⟩, ⟨36, [], .pointer (some ⟨E, (w64 (u1 + b)).toNat * 3, none⟩)⟩, ⟨37, [], I⟩] a := by rw [ag]; exact hFx.reg
    clear hFx
    refine ixo bv hMx 0 (T := tyJob) (xs := c.set (w64 (u1 + b)).toNat f) (w64 (u2 + b)) (by simpa only [List.length_set] using bV) (k := .i64) (e := 110) (bytes := 24) (nog rfl _) rfl (by kernel_rfl) rfl (by kernel_rfl) (by kernel_rfl) rfl (by kernel_rfl) ?_; intro bw dt cW bx; clear bv
    refine nl (qnI (hJ _ _ ?_)); clear hJ J
    rw [ag] at bx
    exact ⟨z, C, E, bw, .slice ao1 c.length cap2, i6 u1, i6 b, i6 (w64 (u1 + b)), .slice ao1 c.length cap2, i6 u2, i6 b, i6 (w64 (u2 + b)), .slice ao1 c.length cap2, i6 u2, i6 b, i6 (w64 (u2 + b)), .pointer (some ⟨z, (w64 (u2 + b)).toNat * 3, none⟩), .agg (e110Dm f).toArray, .slice ao1 c.length cap2, i6 u1, i6 b, i6 (w64 (u1 + b)), .pointer (some ⟨C, (w64 (u1 + b)).toNat * 3, none⟩), .agg (e110Dm p).toArray, .pointer (some ⟨E, (w64 (u1 + b)).toNat * 3, none⟩), .pointer (some ⟨bw, (w64 (u2 + b)).toNat * 3, none⟩), .own tyJob 110 ao1 cap2 (c.set (w64 (u1 + b)).toNat f), m, bx.reg, hMx.perm lpr, (fun _ => by first | rfl | rw [ag]), (fun _ => by first | rfl | rw [ag]), (fun _ => by first | rfl | rw [ag]), (fun _ => by first | rfl | rw [ag]), (fun _ => by first | rfl | rw [ag]), (fun _ => by first | rfl | rw [ag]), (fun _ => by first | rfl | rw [ag]), (fun _ => by first | rfl | rw [ag]), (fun _ => by first | rfl | rw [ag]), (fun _ => by first | rfl | rw [ag]), (fun _ => by first | rfl | rw [ag]), (fun _ => by first | rfl | rw [ag]), (fun _ => by first | rfl | rw [ag]), (fun _ => by first | rfl | rw [ag]), (fun _ => by first | rfl | rw [ag]), (fun _ => by first | rfl | rw [ag]), (fun _ => by first | rfl | rw [ag]), (fun _ => by first | rfl | rw [ag]), (fun _ => by first | rfl | rw [ag]), (fun _ => by first | rfl | rw [ag]), (fun _ => by first | rfl | rw [ag]), (fun _ => by first | rfl | rw [ag]), (tn j), kf2, (nt n), (fun _ => cT), (fun _ => cU), (fun _ => cV), (fun _ => cW)⟩
   obtain rfl := oj hi
   have d := hpre 22 (by kernel_rfl)
   have j := hpre 21 (by kernel_rfl)
   have g := hpre 20 (by kernel_rfl)
   have D := hpre 19 (by kernel_rfl)
   have q := hpre 18 (by kernel_rfl)
   have H := hpre 17 (by kernel_rfl)
   have aR := hpre 16 (by kernel_rfl)
   have aQ := hpre 15 (by kernel_rfl)
   have aV := hpre 14 (by kernel_rfl)
   have ay := hpre 13 (by kernel_rfl)
   have y := hpre 12 (by kernel_rfl)
   have L := hpre 11 (by kernel_rfl)
   have aO := hpre 10 (by kernel_rfl)
   have aN := hpre 9 (by kernel_rfl)
   have aP := hpre 8 (by kernel_rfl)
   have aY := hpre 7 (by kernel_rfl)
   have a3 := hpre 6 (by kernel_rfl)
   have a2 := hpre 5 (by kernel_rfl)
   have a5 := hpre 4 (by kernel_rfl)
   have aS := hpre 3 (by kernel_rfl)
   have aU := hpre 2 (by kernel_rfl)
   have aT := hpre 1 (by kernel_rfl)
   have aW := hpre 0 (by kernel_rfl)
   have n := hSi
   obtain rfl := O aW
   obtain rfl := P aT
   obtain rfl := Q aU
   obtain rfl := an aS
   obtain rfl := R a5
   obtain rfl := U a2
   obtain rfl := V a3
   obtain rfl := ao aY
   obtain rfl := W aP
   obtain rfl := X aN
   obtain rfl := Y aO
   obtain rfl := ap L
   obtain rfl := aD y
   obtain rfl := aL ay
   obtain rfl := aa aV
   obtain rfl := ab aQ
   obtain rfl := ac aR
   obtain rfl := aq H
   obtain rfl := aE q
   obtain rfl := aM D
   obtain rfl := aZ g
   obtain rfl := bb d
   obtain rfl := a4 j n
   refine hG (any_step ?_); clear hG G; intro A J hJ
   have l := Fz.le.trans l m
   have cX := aF y
   have cY := aG q
   have cZ := a1 g
   have bz := bc d
   have ah : (c.set (w64 (u1 + b)).toNat f).length = c.length := by simp; try omega
   have bd : Fr 38 [] [⟨0, [], .slice ao1 (c.set (w64 (u1 + b)).toNat f).length cap2⟩, ⟨1, [], i6 u1⟩, ⟨2, [], i6 u2⟩, ⟨3, [], i6 u3⟩, ⟨10, [], i6 b⟩, ⟨16, [], .slice ao1 (c.set (w64 (u1 + b)).toNat f).length cap2⟩, ⟨17, [], i6 u1⟩, ⟨18, [], i6 b⟩, ⟨19, [], i6 (w64 (u1 + b))⟩, ⟨20, [], .slice ao1 (c.set (w64 (u1 + b)).toNat f).length cap2⟩, ⟨21, [], i6 u2⟩, ⟨22, [], i6 b⟩, ⟨23, [], i6 (w64 (u2 + b))⟩, ⟨24, [], .slice ao1 (c.set (w64 (u1 + b)).toNat f).length cap2⟩, ⟨25, [], i6 u2⟩, ⟨26, [], i6 b⟩, ⟨27, [], i6 (w64 (u2 + b))⟩, ⟨28, [], .pointer (some ⟨z, (w64 (u2 + b)).toNat * 3, none⟩)⟩, ⟨29, [], .agg (e110Dm f).toArray⟩, ⟨30, [], .slice ao1 (c.set (w64 (u1 + b)).toNat f).length cap2⟩, ⟨31, [], i6 u1⟩, ⟨32, [], i6 b⟩, ⟨33, [], i6 (w64 (u1 + b))⟩, ⟨34, [], .pointer (some ⟨C, (w64 (u1 + b)).toNat * 3, none⟩)⟩, ⟨35, [], .agg (e110Dm p).toArray⟩, ⟨36, [], .pointer (some ⟨E, (w64 (u1 + b)).toNat * 3, none⟩)⟩, ⟨37, [], .pointer (some ⟨F, (w64 (u2 + b)).toNat * 3, none⟩)⟩] a := by rw [ah]; exact hFx.reg
   clear hFx
   refine sox bd hMx 0 bz (T := tyJob) (xs := c.set (w64 (u1 + b)).toNat f) (w64 (u2 + b)).toNat p (u := .agg (e110Dm p).toArray) (nog rfl _) rfl rfl (by kernel_rfl) rfl (by kernel_rfl) rfl (by kernel_rfl) (by first | omega | (simp only [List.length_set] at *; omega)) rfl ?_; intro du c0; clear hMx
   refine nl (qnI (hJ _ _ ?_)); clear hJ J
   rw [ah] at bd
   exact ⟨z, C, E, F, .slice ao1 c.length cap2, i6 u1, i6 b, i6 (w64 (u1 + b)), .slice ao1 c.length cap2, i6 u2, i6 b, i6 (w64 (u2 + b)), .slice ao1 c.length cap2, i6 u2, i6 b, i6 (w64 (u2 + b)), .pointer (some ⟨z, (w64 (u2 + b)).toNat * 3, none⟩), .agg (e110Dm f).toArray, .slice ao1 c.length cap2, i6 u1, i6 b, i6 (w64 (u1 + b)), .pointer (some ⟨C, (w64 (u1 + b)).toNat * 3, none⟩), .agg (e110Dm p).toArray, .pointer (some ⟨E, (w64 (u1 + b)).toNat * 3, none⟩), .pointer (some ⟨F, (w64 (u2 + b)).toNat * 3, none⟩), .own tyJob 110 ao1 cap2 ((c.set (w64 (u1 + b)).toNat f).set (w64 (u2 + b)).toNat p), m, bd.reg, c0.perm lpr, (fun _ => by first | rfl | rw [ah]), (fun _ => by first | rfl | rw [ah]), (fun _ => by first | rfl | rw [ah]), (fun _ => by first | rfl | rw [ah]), (fun _ => by first | rfl | rw [ah]), (fun _ => by first | rfl | rw [ah]), (fun _ => by first | rfl | rw [ah]), (fun _ => by first | rfl | rw [ah]), (fun _ => by first | rfl | rw [ah]), (fun _ => by first | rfl | rw [ah]), (fun _ => by first | rfl | rw [ah]), (fun _ => by first | rfl | rw [ah]), (fun _ => by first | rfl | rw [ah]), (fun _ => by first | rfl | rw [ah]), (fun _ => by first | rfl | rw [ah]), (fun _ => by first | rfl | rw [ah]), (fun _ => by first | rfl | rw [ah]), (fun _ => by first | rfl | rw [ah]), (fun _ => by first | rfl | rw [ah]), (fun _ => by first | rfl | rw [ah]), (fun _ => by first | rfl | rw [ah]), (fun _ => by first | rfl | rw [ah]), (tn j), (fun _ => nu), kf, (fun _ => cX), (fun _ => cY), (fun _ => cZ), (fun _ => bz)⟩
  case hE =>
   intro S hS bA dv hI; refine Go.Sy.hid ?_; intro G hG; obtain ⟨z, C, E, F, aj, au, av, ak, M, ad, ae, N, az, aH, aI, aA, aw, al, aB, aJ, aK, aC, ax, am, af, I, aX, m, hFx, hMx, O, P, Q, an, R, U, V, ao, W, X, Y, ap, aD, aL, aa, ab, ac, aq, aE, aM, aZ, bb, ar, a4, bo, aF, aG, a1, hI⟩ := hI; have bc := hI; clear hI; refine hG ?_; clear hG G
   obtain rfl := O (hS 0 (by decide))
   obtain rfl := P (hS 1 (by decide))
   obtain rfl := Q (hS 2 (by decide))
   obtain rfl := an (hS 3 (by decide))
   obtain rfl := R (hS 4 (by decide))
   obtain rfl := U (hS 5 (by decide))
   obtain rfl := V (hS 6 (by decide))
   obtain rfl := ao (hS 7 (by decide))
   obtain rfl := W (hS 8 (by decide))
   obtain rfl := X (hS 9 (by decide))
   obtain rfl := Y (hS 10 (by decide))
   obtain rfl := ap (hS 11 (by decide))
   obtain rfl := aD (hS 12 (by decide))
   obtain rfl := aL (hS 13 (by decide))
   obtain rfl := aa (hS 14 (by decide))
   obtain rfl := ab (hS 15 (by decide))
   obtain rfl := ac (hS 16 (by decide))
   obtain rfl := aq (hS 17 (by decide))
   obtain rfl := aE (hS 18 (by decide))
   obtain rfl := aM (hS 19 (by decide))
   obtain rfl := aZ (hS 20 (by decide))
   obtain rfl := bb (hS 22 (by decide))
   obtain rfl := bo (hS 23 (by decide))
   have l := Fz.le.trans l m
   have dw := aF (hS 12 (by decide))
   have dx := aG (hS 18 (by decide))
   have dy := a1 (hS 20 (by decide))
   have dz := bc (hS 22 (by decide))
   have c1 : ((c.set (w64 (u1 + b)).toNat f).set (w64 (u2 + b)).toNat p).length = c.length := by simp; try omega
   have bB : Fr 38 [] [⟨0, [], .slice ao1 ((c.set (w64 (u1 + b)).toNat f).set (w64 (u2 + b)).toNat p).length cap2⟩, ⟨1, [], i6 u1⟩, ⟨2, [], i6 u2⟩, ⟨3, [], i6 u3⟩, ⟨10, [], i6 b⟩, ⟨16, [], .slice ao1 ((c.set (w64 (u1 + b)).toNat f).set (w64 (u2 + b)).toNat p).length cap2⟩, ⟨17, [], i6 u1⟩, ⟨18, [], i6 b⟩, ⟨19, [], i6 (w64 (u1 + b))⟩, ⟨20, [], .slice ao1 ((c.set (w64 (u1 + b)).toNat f).set (w64 (u2 + b)).toNat p).length cap2⟩, ⟨21, [], i6 u2⟩, ⟨22, [], i6 b⟩, ⟨23, [], i6 (w64 (u2 + b))⟩, ⟨24, [], .slice ao1 ((c.set (w64 (u1 + b)).toNat f).set (w64 (u2 + b)).toNat p).length cap2⟩, ⟨25, [], i6 u2⟩, ⟨26, [], i6 b⟩, ⟨27, [], i6 (w64 (u2 + b))⟩, ⟨28, [], .pointer (some ⟨z, (w64 (u2 + b)).toNat * 3, none⟩)⟩, ⟨29, [], .agg (e110Dm f).toArray⟩, ⟨30, [], .slice ao1 ((c.set (w64 (u1 + b)).toNat f).set (w64 (u2 + b)).toNat p).length cap2⟩, ⟨31, [], i6 u1⟩, ⟨32, [], i6 b⟩, ⟨33, [], i6 (w64 (u1 + b))⟩, ⟨34, [], .pointer (some ⟨C, (w64 (u1 + b)).toNat * 3, none⟩)⟩, ⟨35, [], .agg (e110Dm p).toArray⟩, ⟨36, [], .pointer (some ⟨E, (w64 (u1 + b)).toNat * 3, none⟩)⟩, ⟨37, [], .pointer (some ⟨F, (w64 (u2 + b)).toNat * 3, none⟩)⟩] bA := by rw [c1]; exact hFx.reg
   clear hFx
   refine ibn ?_
   refine thn ?_
   have bC : Fr 38 [] [⟨0, [], .slice ao1 ((c.set (w64 (u1 + b)).toNat f).set (w64 (u2 + b)).toNat p).length cap2⟩, ⟨1, [], i6 u1⟩, ⟨2, [], i6 u2⟩, ⟨3, [], i6 u3⟩, ⟨10, [], i6 b⟩] bA := bB.reg; clear bB
   refine rgB bC hMx [] [] [(10, i6 (w64 (b + 1)))] ?_; intro dA c2; clear bC
   refine rd ?_
   exact ⟨⟨w64 (b + 1), (c.set (w64 (u1 + b)).toNat f).set (w64 (u2 + b)).toNat p⟩, bn.1, bn.2, (c2.reg).anyβ _ (by kernel_rfl), hMx.keep (List.Sublist.cons_cons _ (List.Sublist.refl _))⟩
 have c3 := a7.2 ba; clear a7
 refine wp_exit ?_
 refine thx ?_
 refine thx ?_
 refine ibx ?_
 obtain ⟨c4, c5⟩ := c3
 refine rN (fn := Try.f134) (v := .tuple #[]) a6 (re0 a6 (fn := Try.f134) rfl) ?_
 exact ⟨c, Z, rfl, c5, l, c4, a8.keep (List.Sublist.cons_cons _ (List.Sublist.refl _))⟩

theorem srot_walk (u0 : List Job) (u1 : Int) (u2 : Int) (u3 : Int) (u4 : Job → Job → Int) (ao1 : Option Addr) (cap2 : Nat) (fid3 : Nat) (caps4 : Array Value) (B : Nat) (w0 : World) (Z0 : Fz) (Rr : List Res) (Z : Fz) (w : World) (hf5 : ∀ (Z1 : Fz) (w1 : World), Z.le Z1 → Z1.on w1 → ∀ (x0 : Job) (x1 : Job), Calls Try.prog fid3 (#[.agg #[i6 x0.task, i6 x0.from_, i6 x0.asked], .agg #[i6 x1.task, i6 x1.from_, i6 x1.asked]] ++ caps4) w1 fun e w2 => e = .returned (i6 (u4 x0 x1)) ∧ Below w1.heap.size w1 w2) (hg6 : ∀ x w, Sem.run Try.prog (callFunc fid3 x) w = .ok (.enter fid3 x) w) (hM0 : Mem B [] w0 Z0 ((.own tyJob 110 ao1 cap2 u0) :: Rr) Z w) (hZ : Z.on w) {K : (List Job) → Prop} (hp : srot_vc u0 u1 u2 u3 u4 K) : Calls Try.prog 126 #[.slice ao1 u0.length cap2, i6 u1, i6 u2, i6 u3, .func (.func fid3) #[] caps4] w fun e w' => ∃ (r : (List Job)) (Z' : Fz), e = .returned (.tuple #[]) ∧ K r ∧ Fz.le Z Z' ∧ (r.length = u0.length) ∧ Mem B [] w0 Z0 ((.own tyJob 110 ao1 cap2 r) :: Rr) Z' w' := by
 refine enter0 Try.func126 rfl rfl (by kernel_rfl) ?_; intro a0 y; have d := Fz.le.refl Z
 have al := hp (hM0.ownSmall 0 rfl); clear hp
 refine sqB y hM0 [] [] [(10, i6 (w64 (u2 - u1)))] ?_; intro aQ z; clear y
 refine sqB z hM0 [] [] [(11, i6 (w64 (u3 - u2)))] ?_; intro A C; clear z
 refine wp_seq ?_
 refine wp_block ?_
 have D : Fr 58 [] [⟨0, [], .slice ao1 u0.length cap2⟩, ⟨2, [], i6 u2⟩, ⟨4, [], .func (.func fid3) #[] caps4⟩, ⟨10, [], i6 (w64 (u2 - u1))⟩, ⟨11, [], i6 (w64 (u3 - u2))⟩] A := C.reg; clear C
 have E : Fr 58 [] [⟨0, [], .slice ao1 u0.length cap2⟩, ⟨2, [], i6 u2⟩, ⟨4, [], .func (.func fid3) #[] caps4⟩, ⟨10, [], i6 (w64 (u2 - u1))⟩, ⟨11, [], i6 (w64 (u3 - u2))⟩] A := D.reg; clear D
 obtain ⟨am, an, ao, ap⟩ := al
 have aR := d
 refine lp (ι := Int × Int × (List Job) × Fz) (fun s => [⟨0, [], .slice ao1 s.2.2.1.length cap2⟩, ⟨2, [], i6 u2⟩, ⟨4, [], .func (.func fid3) #[] caps4⟩, ⟨10, [], i6 s.1⟩, ⟨11, [], i6 s.2.1⟩]) (fun s => ((.own tyJob 110 ao1 cap2 s.2.2.1) :: Rr)) (fun s => s.2.2.2) (fun s => am s.1 s.2.1 s.2.2.1 ∧ Fz.le Z s.2.2.2) (fun s => an s.1 s.2.1 s.2.2.1) ⟨w64 (u2 - u1), w64 (u3 - u2), u0, Z⟩ ⟨ao, Fz.le.refl _⟩ (by exact E.reg) (by exact hM0) ?_
 rintro ⟨a, b, f, aq⟩ ⟨ar, g⟩ au av F G
 have H : Fr 58 [] [⟨0, [], .slice ao1 f.length cap2⟩, ⟨2, [], i6 u2⟩, ⟨4, [], .func (.func fid3) #[] caps4⟩, ⟨10, [], i6 a⟩, ⟨11, [], i6 b⟩] au := F; clear F E
 have c : Mem B [] w0 Z0 ((.own tyJob 110 ao1 cap2 f) :: Rr) aq av := G; clear G hM0
 have j := ap a b f ar
 replace d := Fz.le.trans d g
 refine wp_seq ?_
 refine sqB H c [] [] [(20, .bool (a != b))] ?_; intro aS h; clear H
 refine cd h (t := a != b) (by kernel_rfl) (fun o => ?_) (fun o => ?_)
 ·
  have k := j.1 o; clear j
  refine wp_skip ?_
  refine thn ?_
  refine wp_block ?_
  refine sqB h c [] [] [(23, .bool (decide (a > b)))] ?_; intro aT i; clear h
  refine cd i (t := decide (a > b)) (by kernel_rfl) (fun p => ?_) (fun p => ?_)
  ·
   have aw := k.1 p; clear k
   refine sqH ?_; intro ax I
   refine bt i c 7 [] [] [(24, .slice ao1 f.length cap2), (27, i6 (w64 (u2 - a))), (28, i6 u2), (29, i6 b), (30, .func (.func fid3) #[] caps4)] ?_; intro aU J; clear i
   refine ck J 134 #[.slice ao1 f.length cap2, i6 (w64 (u2 - a)), i6 u2, i6 b, .func (.func fid3) #[] caps4] ?_
   refine (sswap_walk f (w64 (u2 - a)) u2 b u4 ao1 cap2 fid3 caps4 _ _ _ _ _ _ (fun Z1 w1 h1 h2 => hf5 Z1 w1 (d.trans h1) h2) hg6 c c.fz aw).mono ?_; rintro _ ay ⟨l, L, rfl, M, N, az, hm⟩; refine ⟨_, rfl, ?_⟩; intro aA O; have P := hm; clear hm c J
   replace g := g.mono N
   replace d := Fz.le.trans d N
   have Q : Fr 58 [] [⟨0, [], .slice ao1 l.length cap2⟩, ⟨2, [], i6 u2⟩, ⟨4, [], .func (.func fid3) #[] caps4⟩, ⟨10, [], i6 a⟩, ⟨11, [], i6 b⟩, ⟨20, [], .bool (a != b)⟩, ⟨23, [], .bool (decide (a > b))⟩, ⟨24, [], .slice ao1 l.length cap2⟩, ⟨27, [], i6 (w64 (u2 - a))⟩, ⟨28, [], i6 u2⟩, ⟨29, [], i6 b⟩, ⟨30, [], .func (.func fid3) #[] caps4⟩, ⟨31, [], .tuple #[]⟩] aA := by rw [az]; exact O.reg
   clear O
   have q : Mem B [] w0 Z0 ((.own tyJob 110 ao1 cap2 l) :: Rr) L ay := P; clear P
   have R := M (q.ownSmall 0 rfl); clear M
   refine nlH (I _ _ ?_); clear I ax
   refine rgB Q q [] [] [(10, i6 (w64 (a - b)))] ?_; intro aV aB; clear Q
   refine ibn ?_
   refine rd ?_
   exact ⟨⟨w64 (a - b), b, l, L⟩, ⟨R.1, g⟩, R.2, (aB.reg).anyβ _ (by kernel_rfl), q.keep (List.Sublist.cons_cons _ (List.Sublist.refl _))⟩
  have aC := k.2 p; clear k
  refine sqH ?_; intro aD S
  refine bt i c 11 [] [] [(35, .slice ao1 f.length cap2), (38, i6 (w64 (u2 - a))), (43, i6 (w64 ((w64 (u2 + b)) - a))), (44, i6 a), (45, .func (.func fid3) #[] caps4)] ?_; intro aW T; clear i
  refine ck T 134 #[.slice ao1 f.length cap2, i6 (w64 (u2 - a)), i6 (w64 ((w64 (u2 + b)) - a)), i6 a, .func (.func fid3) #[] caps4] ?_
  refine (sswap_walk f (w64 (u2 - a)) (w64 ((w64 (u2 + b)) - a)) a u4 ao1 cap2 fid3 caps4 _ _ _ _ _ _ (fun Z1 w1 h1 h2 => hf5 Z1 w1 (d.trans h1) h2) hg6 c c.fz aC).mono ?_; rintro _ aE ⟨m, U, rfl, V, W, aF, hm⟩; refine ⟨_, rfl, ?_⟩; intro aG X; have Y := hm; clear hm c T
  replace g := g.mono W
  replace d := Fz.le.trans d W
  have aa : Fr 58 [] [⟨0, [], .slice ao1 m.length cap2⟩, ⟨2, [], i6 u2⟩, ⟨4, [], .func (.func fid3) #[] caps4⟩, ⟨10, [], i6 a⟩, ⟨11, [], i6 b⟩, ⟨20, [], .bool (a != b)⟩, ⟨23, [], .bool (decide (a > b))⟩, ⟨35, [], .slice ao1 m.length cap2⟩, ⟨38, [], i6 (w64 (u2 - a))⟩, ⟨43, [], i6 (w64 ((w64 (u2 + b)) - a))⟩, ⟨44, [], i6 a⟩, ⟨45, [], .func (.func fid3) #[] caps4⟩, ⟨46, [], .tuple #[]⟩] aG := by rw [aF]; exact X.reg
  clear X
  have u : Mem B [] w0 Z0 ((.own tyJob 110 ao1 cap2 m) :: Rr) U aE := Y; clear Y
  have ab := V (u.ownSmall 0 rfl); clear V
  refine nlH (S _ _ ?_); clear S aD
  refine rgB aa u [] [] [(11, i6 (w64 (b - a)))] ?_; intro aX aH; clear aa
  refine ibn ?_
  refine rd ?_
  exact ⟨⟨a, w64 (b - a), m, U⟩, ⟨ab.1, g⟩, ab.2, (aH.reg).anyβ _ (by kernel_rfl), u.keep (List.Sublist.cons_cons _ (List.Sublist.refl _))⟩
 have aI := j.2 o; clear j
 refine wp_exit ?_
 refine thx ?_
 refine thx ?_
 refine ibx ?_
 refine thn ?_
 refine rgH ?_; intro aJ ac
 refine bt h c 7 [] [] [(50, .slice ao1 f.length cap2), (53, i6 (w64 (u2 - a))), (54, i6 u2), (55, i6 a), (56, .func (.func fid3) #[] caps4)] ?_; intro aY ad; clear h
 refine ck ad 134 #[.slice ao1 f.length cap2, i6 (w64 (u2 - a)), i6 u2, i6 a, .func (.func fid3) #[] caps4] ?_
 refine (sswap_walk f (w64 (u2 - a)) u2 a u4 ao1 cap2 fid3 caps4 _ _ _ _ _ _ (fun Z1 w1 h1 h2 => hf5 Z1 w1 (d.trans h1) h2) hg6 c c.fz aI).mono ?_; rintro _ aK ⟨n, ae, rfl, af, ag, aL, hm⟩; refine ⟨_, rfl, ?_⟩; intro aM ah; have ai := hm; clear hm c ad
 replace g := g.mono ag
 replace d := Fz.le.trans d ag
 have aj : Fr 58 [] [⟨0, [], .slice ao1 n.length cap2⟩, ⟨2, [], i6 u2⟩, ⟨4, [], .func (.func fid3) #[] caps4⟩, ⟨10, [], i6 a⟩, ⟨11, [], i6 b⟩, ⟨20, [], .bool (a != b)⟩, ⟨50, [], .slice ao1 n.length cap2⟩, ⟨53, [], i6 (w64 (u2 - a))⟩, ⟨54, [], i6 u2⟩, ⟨55, [], i6 a⟩, ⟨56, [], .func (.func fid3) #[] caps4⟩, ⟨57, [], .tuple #[]⟩] aM := by rw [aL]; exact ah.reg
 clear ah
 have ak : Mem B [] w0 Z0 ((.own tyJob 110 ao1 cap2 n) :: Rr) ae aK := ai; clear ai
 have aN := af (ak.ownSmall 0 rfl); clear af
 refine nlH (ac _ _ ?_); clear ac aJ
 obtain ⟨aO, aP⟩ := aN
 refine rN (fn := Try.f126) (v := .tuple #[]) aj (re0 aj (fn := Try.f126) rfl) ?_
 exact ⟨n, ae, rfl, aP, d, aO, ak.keep (List.Sublist.cons_cons _ (List.Sublist.refl _))⟩

end Go.Proofs.Ytginlmgkimfjmaa
