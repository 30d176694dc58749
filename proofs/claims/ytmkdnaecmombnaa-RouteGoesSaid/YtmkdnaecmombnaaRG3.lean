/- Texts put together (pure ones, or walks made by program). -/
import Derived.Test.YtmkdnaecmombnaaRG0
import Derived.Test.YtmkdnaecmombnaaRG1
import Derived.Test.YtmkdnaecmombnaaRG2
set_option linter.unusedVariables false
set_option linter.unusedSimpArgs false
set_option maxRecDepth 100000
set_option maxHeartbeats 0
namespace Go.Proofs.Ytmkdnaecmombnaa
open Go.Sy Go.RowKit
abbrev e42E (X : Line) (A0 : Option Addr) (C0 : Nat) : List Value := [i6 X.Time, i6 X.Bus, i6 X.F.ID, .bool X.F.Long, .bool X.F.Fast, .bool X.F.Remote, i6 X.F.Size, .slice A0 X.F.Data.length C0]
theorem go1_all : ∀ (n : Nat) (u0 : Int) (u1 : Frame) (u2 : List Key) (u3 : Bool) (u4 : List (Key × Bool)) (u5 : Bool) (u6 : Int) (u7 : Gate) (u8 : List Line), goMu u0 u1 u2 u3 u4 u5 u6 u7 u8 < n → goPre u0 u1 u2 u3 u4 u5 u6 u7 u8 → ∀ (ao1 : Option Addr) (cap2 : Nat) (ao4 : Option Addr) (cap5 : Nat) (b7 : Nat) (cb8 co9 : Nat) (mb10 : Nat) (b12 : Nat) (b13 : Nat) (cb20 co21 : Nat) (ao14 : Option Addr) (cap15 : Nat) (ao17 : Option Addr) (cap18 : Nat) (b23 : Nat) (ao24 : Option Addr) (cap25 : Nat) (cb26 co27 : Nat) (B : Nat) (w0 : World) (Z0 : Fz) (Rr : List Res) (Z : Fz) (w : World) (hs3 : SlR t8 Z ao1 cap2 u1.Data) (hs6 : SlR tyKey Z ao4 cap5 u2) (hP11 : PtR Z cb8 co9 [.map (some mb10)]) (hP22 : PtR Z cb20 co21 [.slice ao14 u7.Routes.length cap15, .slice ao17 u7.Last.length cap18]) (hs16 : SlR tyRoute Z ao14 cap15 u7.Routes) (hs19 : SlR t6 Z ao17 cap18 u7.Last) (hP28 : PtR Z cb26 co27 [.func (.func 28) #[] #[pt b7 0, pt cb8 co9, pt b12 0, pt b13 0, pt cb20 co21, pt b23 0, pt cb26 co27]]) (hM0 : Mem B [] w0 Z0 ((.row b7 [.bool u3] 4) :: (.map (fun x : Key => .agg #[i6 x.bus, i6 x.id, .bool x.long]) (fun x : Bool => .bool x) mb10 u4) :: (.row b12 [.bool u5] 4) :: (.row b13 [i6 u6] 3) :: (.row b23 [.slice ao24 u8.length cap25] 31) :: (.own tyLine 42 ao24 cap25 u8) :: Rr) Z w) (hZ : Z.on w), Calls Try.prog 28 #[i6 u0, .agg #[i6 u1.ID, .bool u1.Long, .bool u1.Fast, .bool u1.Remote, i6 u1.Size, .slice ao1 u1.Data.length cap2], .slice ao4 u2.length cap5, pt b7 0, pt cb8 co9, pt b12 0, pt b13 0, pt cb20 co21, pt b23 0, pt cb26 co27] w fun e w' => ∃ (ao1001 : Option Addr) (cap1002 : Nat) (Z' : Fz), e = .returned (.tuple #[]) ∧ Fz.le Z Z' ∧ Mem B [] w0 Z0 ((.row b7 [.bool (goS u0 u1 u2 u3 u4 u5 u6 u7 u8).1] 4) :: (.row b12 [.bool (goS u0 u1 u2 u3 u4 u5 u6 u7 u8).2.1] 4) :: (.row b13 [i6 (goS u0 u1 u2 u3 u4 u5 u6 u7 u8).2.2.1] 3) :: (.map (fun x : Key => .agg #[i6 x.bus, i6 x.id, .bool x.long]) (fun x : Bool => .bool x) mb10 (goS u0 u1 u2 u3 u4 u5 u6 u7 u8).2.2.2.1) :: (.row b23 [.slice ao1001 (goS u0 u1 u2 u3 u4 u5 u6 u7 u8).2.2.2.2.length cap1002] 31) :: (.own tyLine 42 ao1001 cap1002 (goS u0 u1 u2 u3 u4 u5 u6 u7 u8).2.2.2.2) :: Rr) Z' w' := by
  intro n
  induction n with
  | zero => intro u0 u1 u2 u3 u4 u5 u6 u7 u8 h; exact absurd h (Nat.not_lt_zero _)
  | succ n ih =>
    intro u0 u1 u2 u3 u4 u5 u6 u7 u8 h hpre ao1 cap2 ao4 cap5 b7 cb8 co9 mb10 b12 b13 cb20 co21 ao14 cap15 ao17 cap18 b23 ao24 cap25 cb26 co27 B w0 Z0 Rr Z w hs3 hs6 hP11 hP22 hs16 hs19 hP28 hM0 hZ
    exact (go1_walk u0 u1 u2 u3 u4 u5 u6 u7 u8 ao1 cap2 ao4 cap5 b7 cb8 co9 mb10 b12 b13 cb20 co21 ao14 cap15 ao17 cap18 b23 ao24 cap25 cb26 co27 B w0 Z0 Rr Z w hs3 hs6 hP11 hP22 hs16 hs19 hP28 hM0 hZ (fun u0' u1' u2' u3' u4' u5' u6' u7' u8' hc => ih u0' u1' u2' u3' u4' u5' u6' u7' u8' (by omega) hc.2) (go1_ok u0 u1 u2 u3 u4 u5 u6 u7 u8 hpre)).mono fun _ _ ⟨r, h0, h1, h2, he, hk, f0, hm⟩ => by subst hk; exact ⟨h0, h1, h2, he, f0, hm⟩
theorem go1_fun (u0 : Int) (u1 : Frame) (u2 : List Key) (u3 : Bool) (u4 : List (Key × Bool)) (u5 : Bool) (u6 : Int) (u7 : Gate) (u8 : List Line) (hpre : goPre u0 u1 u2 u3 u4 u5 u6 u7 u8) : ∀ (ao1 : Option Addr) (cap2 : Nat) (ao4 : Option Addr) (cap5 : Nat) (b7 : Nat) (cb8 co9 : Nat) (mb10 : Nat) (b12 : Nat) (b13 : Nat) (cb20 co21 : Nat) (ao14 : Option Addr) (cap15 : Nat) (ao17 : Option Addr) (cap18 : Nat) (b23 : Nat) (ao24 : Option Addr) (cap25 : Nat) (cb26 co27 : Nat) (B : Nat) (w0 : World) (Z0 : Fz) (Rr : List Res) (Z : Fz) (w : World) (hs3 : SlR t8 Z ao1 cap2 u1.Data) (hs6 : SlR tyKey Z ao4 cap5 u2) (hP11 : PtR Z cb8 co9 [.map (some mb10)]) (hP22 : PtR Z cb20 co21 [.slice ao14 u7.Routes.length cap15, .slice ao17 u7.Last.length cap18]) (hs16 : SlR tyRoute Z ao14 cap15 u7.Routes) (hs19 : SlR t6 Z ao17 cap18 u7.Last) (hP28 : PtR Z cb26 co27 [.func (.func 28) #[] #[pt b7 0, pt cb8 co9, pt b12 0, pt b13 0, pt cb20 co21, pt b23 0, pt cb26 co27]]) (hM0 : Mem B [] w0 Z0 ((.row b7 [.bool u3] 4) :: (.map (fun x : Key => .agg #[i6 x.bus, i6 x.id, .bool x.long]) (fun x : Bool => .bool x) mb10 u4) :: (.row b12 [.bool u5] 4) :: (.row b13 [i6 u6] 3) :: (.row b23 [.slice ao24 u8.length cap25] 31) :: (.own tyLine 42 ao24 cap25 u8) :: Rr) Z w) (hZ : Z.on w), Calls Try.prog 28 #[i6 u0, .agg #[i6 u1.ID, .bool u1.Long, .bool u1.Fast, .bool u1.Remote, i6 u1.Size, .slice ao1 u1.Data.length cap2], .slice ao4 u2.length cap5, pt b7 0, pt cb8 co9, pt b12 0, pt b13 0, pt cb20 co21, pt b23 0, pt cb26 co27] w fun e w' => ∃ (ao1001 : Option Addr) (cap1002 : Nat) (Z' : Fz), e = .returned (.tuple #[]) ∧ Fz.le Z Z' ∧ Mem B [] w0 Z0 ((.row b7 [.bool (goS u0 u1 u2 u3 u4 u5 u6 u7 u8).1] 4) :: (.row b12 [.bool (goS u0 u1 u2 u3 u4 u5 u6 u7 u8).2.1] 4) :: (.row b13 [i6 (goS u0 u1 u2 u3 u4 u5 u6 u7 u8).2.2.1] 3) :: (.map (fun x : Key => .agg #[i6 x.bus, i6 x.id, .bool x.long]) (fun x : Bool => .bool x) mb10 (goS u0 u1 u2 u3 u4 u5 u6 u7 u8).2.2.2.1) :: (.row b23 [.slice ao1001 (goS u0 u1 u2 u3 u4 u5 u6 u7 u8).2.2.2.2.length cap1002] 31) :: (.own tyLine 42 ao1001 cap1002 (goS u0 u1 u2 u3 u4 u5 u6 u7 u8).2.2.2.2) :: Rr) Z' w' := go1_all _ u0 u1 u2 u3 u4 u5 u6 u7 u8 (Nat.lt_succ_self _) hpre

theorem sins_walk (u0 : List Line) (u1 : Int) (u2 : Int) (u3 : Line → Line → Int) (ao1 : Option Addr) (cap2 : Nat) (fid3 : Nat) (caps4 : Array Value) (B : Nat) (w0 : World) (Z0 : Fz) (Rr : List Res) (Z : Fz) (w : World) (hf5 : ∀ (Z1 : Fz) (w1 : World), Z.le Z1 → Z1.on w1 → ∀ (x0 : Line) (x1 : Line) (xao0 : Option Addr) (xcap0 : Nat) (xao1 : Option Addr) (xcap1 : Nat), SlR t8 Z1 xao0 xcap0 x0.F.Data → SlR t8 Z1 xao1 xcap1 x1.F.Data → Calls Try.prog fid3 (#[.agg #[i6 x0.Time, i6 x0.Bus, i6 x0.F.ID, .bool x0.F.Long, .bool x0.F.Fast, .bool x0.F.Remote, i6 x0.F.Size, .slice xao0 x0.F.Data.length xcap0], .agg #[i6 x1.Time, i6 x1.Bus, i6 x1.F.ID, .bool x1.F.Long, .bool x1.F.Fast, .bool x1.F.Remote, i6 x1.F.Size, .slice xao1 x1.F.Data.length xcap1]] ++ caps4) w1 fun e w2 => e = .returned (i6 (u3 x0 x1)) ∧ Below w1.heap.size w1 w2) (hg6 : ∀ x w, Sem.run Try.prog (callFunc fid3 x) w = .ok (.enter fid3 x) w) (hM0 : Mem B [] w0 Z0 ((.own tyLine 42 ao1 cap2 u0) :: Rr) Z w) (hZ : Z.on w) {K : (List Line) → Prop} (hp : sins_vc u0 u1 u2 u3 K) : Calls Try.prog 81 #[.slice ao1 u0.length cap2, i6 u1, i6 u2, .func (.func fid3) #[] caps4] w fun e w' => ∃ (r : (List Line)) (Z' : Fz), e = .returned (.tuple #[]) ∧ K r ∧ Fz.le Z Z' ∧ (r.length = u0.length) ∧ Mem B [] w0 Z0 ((.own tyLine 42 ao1 cap2 r) :: Rr) Z' w' := by
 refine enter0 Try.func81 rfl rfl (by kernel_rfl) ?_; intro a0 b8; have C := Fz.le.refl Z
 have de := hp (hM0.ownSmall 0 rfl)
 refine sqB b8 hM0 [] [] [(8, i6 (w64 (u1 + 1)))] ?_; intro b9 ca
 apply b_
 have cb : Fr 53 [] [⟨0, [], .slice ao1 u0.length cap2⟩, ⟨1, [], i6 u1⟩, ⟨2, [], i6 u2⟩, ⟨3, [], .func (.func fid3) #[] caps4⟩, ⟨8, [], i6 (w64 (u1 + 1))⟩] b9 := ca.reg
 obtain ⟨df, dg, dh, di⟩ := de
 refine lp (ι := Int × (List Line)) (fun s => [⟨0, [], .slice ao1 s.2.length cap2⟩, ⟨1, [], i6 u1⟩, ⟨2, [], i6 u2⟩, ⟨3, [], .func (.func fid3) #[] caps4⟩, ⟨8, [], i6 s.1⟩]) (fun s => ((.own tyLine 42 ao1 cap2 s.2) :: Rr)) (fun s => Z) (fun s => df s.1 s.2) (fun s => dg s.1 s.2) ⟨w64 (u1 + 1), u0⟩ dh (by exact cb.reg) (by exact hM0) ?_
 rintro ⟨x8, bC⟩ dj dk dl ce cf
 have bL := di x8 bC dj
 refine s_ (sqB ce cf [] [] [(14, .bool (decide (x8 < u2)))] ?_); intro fK bH
 refine c_ bH bL (fun _ dm => ?_) fun _ fH => ?_
 ·
  refine k_ (s_ (b_ (sqB bH cf [] [] [(9, i6 x8)] ?_))); intro ch ci
  apply b_
  have cj : Fr 53 [] [⟨0, [], .slice ao1 bC.length cap2⟩, ⟨1, [], i6 u1⟩, ⟨2, [], i6 u2⟩, ⟨3, [], .func (.func fid3) #[] caps4⟩, ⟨8, [], i6 x8⟩, ⟨9, [], i6 x8⟩] ch := ci.reg
  obtain ⟨dn, dp, dq, dr⟩ := dm
  refine lp (ι := Int × (List Line)) (fun s => [⟨0, [], .slice ao1 s.2.length cap2⟩, ⟨1, [], i6 u1⟩, ⟨2, [], i6 u2⟩, ⟨3, [], .func (.func fid3) #[] caps4⟩, ⟨8, [], i6 x8⟩, ⟨9, [], i6 s.1⟩]) (fun s => ((.own tyLine 42 ao1 cap2 s.2) :: Rr)) (fun s => Z) (fun s => dn s.1 s.2) (fun s => dp s.1 s.2) ⟨x8, bC⟩ dq (by exact cj.reg) (by exact cf) ?_
  rintro ⟨f, j⟩ ds au dt cl cm
  have bM := dr f j ds
  apply s_
  have bN : Fr 53 [] [⟨0, [], .slice ao1 j.length cap2⟩, ⟨1, [], i6 u1⟩, ⟨2, [], i6 u2⟩, ⟨3, [], .func (.func fid3) #[] caps4⟩, ⟨8, [], i6 x8⟩, ⟨9, [], i6 f⟩] au := cl.reg
  refine e_ bM (fun bI du => ?_) fun bI cT => ?_
  ·
   have dv : Fr 53 [] [⟨0, [], .slice ao1 j.length cap2⟩, ⟨1, [], i6 u1⟩, ⟨2, [], i6 u2⟩, ⟨3, [], .func (.func fid3) #[] caps4⟩, ⟨8, [], i6 x8⟩, ⟨9, [], i6 f⟩] au := bN.reg
   obtain ⟨dw, co⟩ := du
   obtain ⟨H, dx, dy⟩ := gxq co (by omega)
   obtain ⟨bS, cp⟩ := dy
   obtain ⟨g, bT, bO⟩ := gxq cp (by omega)
   refine wp_seq (any_invE mixed [[], [], [0, 1], [2], [3], [3], [3], [3, 5, 6], [3, 7], [3], [3], [3, 10], [3, 9, 11], [3, 12], [3, 4, 8, 13], [3, 14], [3, 15]] 17 (fun S a w1 => ∃ (ao : Nat) (ak : Option Addr) (al : Nat) (ap : Nat) (am : Option Addr) (an : Nat) (bJ : Value) (bK : Value) (bE : Value) (bD : Value) (aW : Value) (bc : Value) (bd : Value) (a5 : Value) (aX : Value) (be : Value) (bm : Value) (bf : Value) (a6 : Value) (aY : Value) (aM : Value) (ax : Value) (aw : Value) (bn : Res), Fz.le Z Z ∧ Fr 53 [] [⟨0, [], .slice ao1 j.length cap2⟩, ⟨1, [], i6 u1⟩, ⟨2, [], i6 u2⟩, ⟨3, [], .func (.func fid3) #[] caps4⟩, ⟨8, [], i6 x8⟩, ⟨9, [], i6 f⟩, ⟨18, [], bJ⟩, ⟨19, [], bK⟩, ⟨20, [], bE⟩, ⟨21, [], bD⟩, ⟨22, [], aW⟩, ⟨23, [], bc⟩, ⟨24, [], bd⟩, ⟨25, [], a5⟩, ⟨26, [], aX⟩, ⟨27, [], be⟩, ⟨28, [], bm⟩, ⟨29, [], bf⟩, ⟨30, [], a6⟩, ⟨31, [], aY⟩, ⟨32, [], aM⟩, ⟨33, [], ax⟩, ⟨34, [], aw⟩] a ∧ Mem B [] w0 Z0 (bn :: Rr) Z w1 ∧ (S 0 = true → bJ = i6 f) ∧ (S 1 = true → bK = i6 u1) ∧ (S 2 = true → bE = .bool true) ∧ (S 3 = true → bD = .bool true) ∧ (S 4 = true → aW = .func (.func fid3) #[] caps4) ∧ (S 5 = true → bc = .slice ao1 j.length cap2) ∧ (S 6 = true → bd = i6 f) ∧ (S 7 = true → a5 = .pointer (some ⟨ao, f.toNat * 8, none⟩)) ∧ (S 8 = true → aX = .agg (e42E H ak al).toArray) ∧ (S 9 = true → be = .slice ao1 j.length cap2) ∧ (S 10 = true → bm = i6 f) ∧ (S 11 = true → bf = i6 (w64 (f - 1))) ∧ (S 12 = true → a6 = .pointer (some ⟨ap, (w64 (f - 1)).toNat * 8, none⟩)) ∧ (S 13 = true → aY = .agg (e42E g am an).toArray) ∧ (S 14 = true → aM = i6 (u3 H g)) ∧ (S 15 = true → ax = .bool (decide ((u3 H g) < 0))) ∧ (S 16 = true → aw = .bool (decide ((u3 H g) < 0))) ∧ (bn = .own tyLine 42 ao1 cap2 j) ∧ (S 7 = true → ao1 = some ⟨ao, 0, none⟩) ∧ (S 8 = true → SlR t8 Z ak al H.F.Data) ∧ (S 12 = true → ao1 = some ⟨ap, 0, none⟩) ∧ (S 13 = true → SlR t8 Z am an g.F.Data)) ?h0 ?hs ?hE)
   case h0 =>
    have dz := dv.any 18
    have dA := dz.any 19
    have dB := dA.any 20
    have dC := dB.any 21
    have dD := dC.any 22
    have dE := dD.any 23
    have dF := dE.any 24
    have dG := dF.any 25
    have dH := dG.any 26
    have dI := dH.any 27
    have dJ := dI.any 28
    have dK := dJ.any 29
    have dL := dK.any 30
    have dM := dL.any 31
    have dN := dM.any 32
    have dO := dN.any 33
    have dP := dO.any 34
    have dQ := (cm.perm lpr).drew
    exact ⟨0, none, 0, 0, none, 0, au.tmps.getD 18 undef, au.tmps.getD 19 undef, au.tmps.getD 20 undef, au.tmps.getD 21 undef, au.tmps.getD 22 undef, au.tmps.getD 23 undef, au.tmps.getD 24 undef, au.tmps.getD 25 undef, au.tmps.getD 26 undef, au.tmps.getD 27 undef, au.tmps.getD 28 undef, au.tmps.getD 29 undef, au.tmps.getD 30 undef, au.tmps.getD 31 undef, au.tmps.getD 32 undef, au.tmps.getD 33 undef, au.tmps.getD 34 undef, .own tyLine 42 ao1 cap2 j, Fz.le.refl _, dP.reg, dQ, ff, ff, ff, ff, ff, ff, ff, ff, ff, ff, ff, ff, ff, ff, ff, ff, ff, rfl, ff, ff, ff, ff⟩
   case hs =>
    intro S hcl i o hil hi hSi hpre a w1 hI; refine Go.Sy.hid ?_; intro G hG; obtain ⟨ao, ak, al, ap, am, an, bJ, bK, bE, bD, aW, bc, bd, a5, aX, be, bm, bf, a6, aY, aM, ax, aw, bn, W, hI⟩ := hI; obtain ⟨hFx, hMx, aN, aO, a7, bg, bo, bp, bq, bv, bw, br, bs, bu, bx, bz, bP, bU, cq, R, ad, ah, ae, hI⟩ := hI; have ai := hI
    have hcase : i = 0 ∨ i = 1 ∨ i = 2 ∨ i = 3 ∨ i = 4 ∨ i = 5 ∨ i = 6 ∨ i = 7 ∨ i = 8 ∨ i = 9 ∨ i = 10 ∨ i = 11 ∨ i = 12 ∨ i = 13 ∨ i = 14 ∨ i = 15 ∨ i = 16 := by clear hi; omega
    rcases hcase with rfl | rfl | rfl | rfl | rfl | rfl | rfl | rfl | rfl | rfl | rfl | rfl | rfl | rfl | rfl | rfl | rfl
    ·
     obtain rfl := oj hi
     have N := hSi
     have I := ngF hcl 2 0 N
     have n := ngF hcl 3 2 I
     have aq := ngF hcl 4 3 n
     have U := ngF hcl 5 3 n
     have Q := ngF hcl 6 3 n
     have L := ngF hcl 7 3 n
     have E := ngF hcl 8 3 n
     have M := ngF hcl 9 3 n
     have V := ngF hcl 10 3 n
     have P := ngF hcl 11 3 n
     have z := ngF hcl 12 3 n
     have D := ngF hcl 13 3 n
     have p := ngF hcl 14 3 n
     have q := ngF hcl 15 3 n
     have y := ngF hcl 16 3 n
     obtain rfl := R
     refine hG (any_step ?_); intro A J hJ
     refine s1 hFx 18 (i6 f) ?_; intro fL dR
     refine nl (qnI (hJ _ _ ?_))
     exact ⟨ao, ak, al, ap, am, an, i6 f, bK, bE, bD, aW, bc, bd, a5, aX, be, bm, bf, a6, aY, aM, ax, aw, .own tyLine 42 ao1 cap2 j, W, dR.reg, hMx.perm lpr, kf, aO, (nt I), (nt n), (nt aq), (nt U), (nt Q), (nt L), (nt E), (nt M), (nt V), (nt P), (nt z), (nt D), (nt p), (nt q), (nt y), rfl, (nt L), (nt E), (nt z), (nt D)⟩
    ·
     obtain rfl := oj hi
     have O := hSi
     have I := ngF hcl 2 1 O
     have n := ngF hcl 3 2 I
     have aq := ngF hcl 4 3 n
     have U := ngF hcl 5 3 n
     have Q := ngF hcl 6 3 n
     have L := ngF hcl 7 3 n
     have E := ngF hcl 8 3 n
     have M := ngF hcl 9 3 n
     have V := ngF hcl 10 3 n
     have P := ngF hcl 11 3 n
     have z := ngF hcl 12 3 n
     have D := ngF hcl 13 3 n
     have p := ngF hcl 14 3 n
     have q := ngF hcl 15 3 n
     have y := ngF hcl 16 3 n
     obtain rfl := R
     refine hG (any_step ?_); intro A J hJ
     refine s1 hFx 19 (i6 u1) ?_; intro fM dS
     refine nl (qnI (hJ _ _ ?_))
     exact ⟨ao, ak, al, ap, am, an, bJ, i6 u1, bE, bD, aW, bc, bd, a5, aX, be, bm, bf, a6, aY, aM, ax, aw, .own tyLine 42 ao1 cap2 j, W, dS.reg, hMx.perm lpr, aN, kf, (nt I), (nt n), (nt aq), (nt U), (nt Q), (nt L), (nt E), (nt M), (nt V), (nt P), (nt z), (nt D), (nt p), (nt q), (nt y), rfl, (nt L), (nt E), (nt z), (nt D)⟩
    ·
     obtain rfl := oj hi
     have O := hpre 1 (by kernel_rfl)
     have N := hpre 0 (by kernel_rfl)
     have I := hSi
     have n := ngF hcl 3 2 I
     have aq := ngF hcl 4 3 n
     have U := ngF hcl 5 3 n
     have Q := ngF hcl 6 3 n
     have L := ngF hcl 7 3 n
     have E := ngF hcl 8 3 n
     have M := ngF hcl 9 3 n
     have V := ngF hcl 10 3 n
     have P := ngF hcl 11 3 n
     have z := ngF hcl 12 3 n
     have D := ngF hcl 13 3 n
     have p := ngF hcl 14 3 n
     have q := ngF hcl 15 3 n
     have y := ngF hcl 16 3 n
     obtain rfl := aN N
     obtain rfl := aO O
     obtain rfl := R
     refine hG (any_step ?_); intro A J hJ
     refine s1 hFx 20 (.bool (decide (f > u1))) ?_; intro fN cr
     have dT := cr.reval (d := 20) (c := []) (v := .bool (decide (f > u1))) (by kernel_rfl) (.bool true) (by rw [bI])
     refine nl (qnI (hJ _ _ ?_))
     exact ⟨ao, ak, al, ap, am, an, i6 f, i6 u1, .bool true, bD, aW, bc, bd, a5, aX, be, bm, bf, a6, aY, aM, ax, aw, .own tyLine 42 ao1 cap2 j, W, dT.reg, hMx.perm lpr, kf, kf, kf, (nt n), (nt aq), (nt U), (nt Q), (nt L), (nt E), (nt M), (nt V), (nt P), (nt z), (nt D), (nt p), (nt q), (nt y), rfl, (nt L), (nt E), (nt z), (nt D)⟩
    ·
     obtain rfl := oj hi
     have I := hpre 2 (by kernel_rfl)
     have O := hcl 2 1 (by kernel_rfl) I
     have N := hcl 2 0 (by kernel_rfl) I
     have n := hSi
     have aq := ngF hcl 4 3 n
     have U := ngF hcl 5 3 n
     have Q := ngF hcl 6 3 n
     have L := ngF hcl 7 3 n
     have E := ngF hcl 8 3 n
     have M := ngF hcl 9 3 n
     have V := ngF hcl 10 3 n
     have P := ngF hcl 11 3 n
     have z := ngF hcl 12 3 n
     have D := ngF hcl 13 3 n
     have p := ngF hcl 14 3 n
     have q := ngF hcl 15 3 n
     have y := ngF hcl 16 3 n
     obtain rfl := aN N
     obtain rfl := aO O
     obtain rfl := a7 I
     obtain rfl := R
     refine hG (any_step ?_); intro A J hJ
     refine s1 hFx 21 (.bool true) ?_; intro fO dU
     refine nl (qnI (hJ _ _ ?_))
     exact ⟨ao, ak, al, ap, am, an, i6 f, i6 u1, .bool true, .bool true, aW, bc, bd, a5, aX, be, bm, bf, a6, aY, aM, ax, aw, .own tyLine 42 ao1 cap2 j, W, dU.reg, hMx.perm lpr, kf, kf, kf, kf, (nt aq), (nt U), (nt Q), (nt L), (nt E), (nt M), (nt V), (nt P), (nt z), (nt D), (nt p), (nt q), (nt y), rfl, (nt L), (nt E), (nt z), (nt D)⟩
    ·
     obtain rfl := oj hi
     have n := hpre 3 (by kernel_rfl)
     have I := hcl 3 2 (by kernel_rfl) n
     have O := hcl 2 1 (by kernel_rfl) I
     have N := hcl 2 0 (by kernel_rfl) I
     have aq := hSi
     have p := ngF hcl 14 4 aq
     have q := ngF hcl 15 14 p
     have y := ngF hcl 16 15 q
     obtain rfl := aN N
     obtain rfl := aO O
     obtain rfl := a7 I
     obtain rfl := bg n
     obtain rfl := R
     refine hG (any_stepG ?_); intro J hJ
     refine g_ hFx true (.func (.func fid3) #[] caps4) ?_; intro fP dV
     refine nl (qnI (hJ _ _ ?_))
     exact ⟨ao, ak, al, ap, am, an, i6 f, i6 u1, .bool true, .bool true, .func (.func fid3) #[] caps4, bc, bd, a5, aX, be, bm, bf, a6, aY, aM, ax, aw, .own tyLine 42 ao1 cap2 j, W, dV.reg, hMx.perm lpr, kf, kf, kf, kf, kf, bp, bq, bv, bw, br, bs, bu, bx, bz, (nt p), (nt q), (nt y), rfl, ad, ah, ae, ai⟩
    ·
     obtain rfl := oj hi
     have n := hpre 3 (by kernel_rfl)
     have I := hcl 3 2 (by kernel_rfl) n
     have O := hcl 2 1 (by kernel_rfl) I
     have N := hcl 2 0 (by kernel_rfl) I
     have U := hSi
     have L := ngF hcl 7 5 U
     have E := ngF hcl 8 7 L
     have p := ngF hcl 14 8 E
     have q := ngF hcl 15 14 p
     have y := ngF hcl 16 15 q
     obtain rfl := aN N
     obtain rfl := aO O
     obtain rfl := a7 I
     obtain rfl := bg n
     obtain rfl := R
     refine hG (any_stepG ?_); intro J hJ
     refine g_ hFx true (.slice ao1 j.length cap2) ?_; intro fQ dW
     refine nl (qnI (hJ _ _ ?_))
     exact ⟨ao, ak, al, ap, am, an, i6 f, i6 u1, .bool true, .bool true, aW, .slice ao1 j.length cap2, bd, a5, aX, be, bm, bf, a6, aY, aM, ax, aw, .own tyLine 42 ao1 cap2 j, W, dW.reg, hMx.perm lpr, kf, kf, kf, kf, bo, kf, bq, (nt L), (nt E), br, bs, bu, bx, bz, (nt p), (nt q), (nt y), rfl, (nt L), (nt E), ae, ai⟩
    ·
     obtain rfl := oj hi
     have n := hpre 3 (by kernel_rfl)
     have I := hcl 3 2 (by kernel_rfl) n
     have O := hcl 2 1 (by kernel_rfl) I
     have N := hcl 2 0 (by kernel_rfl) I
     have Q := hSi
     have L := ngF hcl 7 6 Q
     have E := ngF hcl 8 7 L
     have p := ngF hcl 14 8 E
     have q := ngF hcl 15 14 p
     have y := ngF hcl 16 15 q
     obtain rfl := aN N
     obtain rfl := aO O
     obtain rfl := a7 I
     obtain rfl := bg n
     obtain rfl := R
     refine hG (any_stepG ?_); intro J hJ
     refine g_ hFx true (i6 f) ?_; intro fR dX
     refine nl (qnI (hJ _ _ ?_))
     exact ⟨ao, ak, al, ap, am, an, i6 f, i6 u1, .bool true, .bool true, aW, bc, i6 f, a5, aX, be, bm, bf, a6, aY, aM, ax, aw, .own tyLine 42 ao1 cap2 j, W, dX.reg, hMx.perm lpr, kf, kf, kf, kf, bo, bp, kf, (nt L), (nt E), br, bs, bu, bx, bz, (nt p), (nt q), (nt y), rfl, (nt L), (nt E), ae, ai⟩
    ·
     obtain rfl := oj hi
     have Q := hpre 6 (by kernel_rfl)
     have U := hpre 5 (by kernel_rfl)
     have n := hpre 3 (by kernel_rfl)
     have I := hcl 3 2 (by kernel_rfl) n
     have O := hcl 2 1 (by kernel_rfl) I
     have N := hcl 2 0 (by kernel_rfl) I
     have L := hSi
     have E := ngF hcl 8 7 L
     have p := ngF hcl 14 8 E
     have q := ngF hcl 15 14 p
     have y := ngF hcl 16 15 q
     obtain rfl := aN N
     obtain rfl := aO O
     obtain rfl := a7 I
     obtain rfl := bg n
     obtain rfl := bp U
     obtain rfl := bq Q
     obtain rfl := R
     refine hG (any_stepG ?_); intro J hJ
     refine ixo hFx hMx 0 (T := tyLine) (xs := j) f (by simpa only [List.length_set] using dw) (k := .i64) (e := 42) (bytes := 64) (wK hFx true) rfl (by kernel_rfl) rfl (by kernel_rfl) (by kernel_rfl) rfl (by kernel_rfl) ?_; intro cs fS dY dZ
     refine nl (qnI (hJ _ _ ?_))
     exact ⟨cs, ak, al, ap, am, an, i6 f, i6 u1, .bool true, .bool true, aW, .slice ao1 j.length cap2, i6 f, .pointer (some ⟨cs, f.toNat * 8, none⟩), aX, be, bm, bf, a6, aY, aM, ax, aw, .own tyLine 42 ao1 cap2 j, W, dZ.reg, hMx.perm lpr, kf, kf, kf, kf, bo, kf, kf, kf, (nt E), br, bs, bu, bx, bz, (nt p), (nt q), (nt y), rfl, (fun _ => dY), (nt E), ae, ai⟩
    ·
     obtain rfl := oj hi
     have L := hpre 7 (by kernel_rfl)
     have n := hpre 3 (by kernel_rfl)
     have Q := hcl 7 6 (by kernel_rfl) L
     have U := hcl 7 5 (by kernel_rfl) L
     have I := hcl 3 2 (by kernel_rfl) n
     have O := hcl 2 1 (by kernel_rfl) I
     have N := hcl 2 0 (by kernel_rfl) I
     have E := hSi
     have p := ngF hcl 14 8 E
     have q := ngF hcl 15 14 p
     have y := ngF hcl 16 15 q
     obtain rfl := aN N
     obtain rfl := aO O
     obtain rfl := a7 I
     obtain rfl := bg n
     obtain rfl := bp U
     obtain rfl := bq Q
     obtain rfl := bv L
     obtain rfl := R
     refine hG (any_stepG ?_); intro J hJ
     have ct := ad L
     obtain ⟨fT, d0, d1⟩ := own_elx hMx 0 (T := tyLine) (xs := j) rfl ct f.toNat dx
     obtain ⟨bV, bW, rfl, d2⟩ := d0
     refine lc2 hFx 26 8 (e42E H bV bW) d1 rfl ?_ (hw := (wK hFx true)); intro fU d3
     refine nl (qnI (hJ _ _ ?_))
     exact ⟨ao, bV, bW, ap, am, an, i6 f, i6 u1, .bool true, .bool true, aW, .slice ao1 j.length cap2, i6 f, .pointer (some ⟨ao, f.toNat * 8, none⟩), .agg (e42E H bV bW).toArray, be, bm, bf, a6, aY, aM, ax, aw, .own tyLine 42 ao1 cap2 j, W, d3.reg, hMx.perm lpr, kf, kf, kf, kf, bo, kf, kf, kf, kf, br, bs, bu, bx, bz, (nt p), (nt q), (nt y), rfl, (fun _ => ct), (fun _ => d2), ae, ai⟩
    ·
     obtain rfl := oj hi
     have n := hpre 3 (by kernel_rfl)
     have I := hcl 3 2 (by kernel_rfl) n
     have O := hcl 2 1 (by kernel_rfl) I
     have N := hcl 2 0 (by kernel_rfl) I
     have M := hSi
     have z := ngF hcl 12 9 M
     have D := ngF hcl 13 12 z
     have p := ngF hcl 14 13 D
     have q := ngF hcl 15 14 p
     have y := ngF hcl 16 15 q
     obtain rfl := aN N
     obtain rfl := aO O
     obtain rfl := a7 I
     obtain rfl := bg n
     obtain rfl := R
     refine hG (any_stepG ?_); intro J hJ
     refine g_ hFx true (.slice ao1 j.length cap2) ?_; intro fV d4
     refine nl (qnI (hJ _ _ ?_))
     exact ⟨ao, ak, al, ap, am, an, i6 f, i6 u1, .bool true, .bool true, aW, bc, bd, a5, aX, .slice ao1 j.length cap2, bm, bf, a6, aY, aM, ax, aw, .own tyLine 42 ao1 cap2 j, W, d4.reg, hMx.perm lpr, kf, kf, kf, kf, bo, bp, bq, bv, bw, kf, bs, bu, (nt z), (nt D), (nt p), (nt q), (nt y), rfl, ad, ah, (nt z), (nt D)⟩
    ·
     obtain rfl := oj hi
     have n := hpre 3 (by kernel_rfl)
     have I := hcl 3 2 (by kernel_rfl) n
     have O := hcl 2 1 (by kernel_rfl) I
     have N := hcl 2 0 (by kernel_rfl) I
     have V := hSi
     have P := ngF hcl 11 10 V
     have z := ngF hcl 12 11 P
     have D := ngF hcl 13 12 z
     have p := ngF hcl 14 13 D
     have q := ngF hcl 15 14 p
     have y := ngF hcl 16 15 q
     obtain rfl := aN N
     obtain rfl := aO O
     obtain rfl := a7 I
     obtain rfl := bg n
     obtain rfl := R
     refine hG (any_stepG ?_); intro J hJ
     refine g_ hFx true (i6 f) ?_; intro fW d5
     refine nl (qnI (hJ _ _ ?_))
     exact ⟨ao, ak, al, ap, am, an, i6 f, i6 u1, .bool true, .bool true, aW, bc, bd, a5, aX, be, i6 f, bf, a6, aY, aM, ax, aw, .own tyLine 42 ao1 cap2 j, W, d5.reg, hMx.perm lpr, kf, kf, kf, kf, bo, bp, bq, bv, bw, br, kf, (nt P), (nt z), (nt D), (nt p), (nt q), (nt y), rfl, ad, ah, (nt z), (nt D)⟩
    ·
     obtain rfl := oj hi
     have V := hpre 10 (by kernel_rfl)
     have n := hpre 3 (by kernel_rfl)
     have I := hcl 3 2 (by kernel_rfl) n
     have O := hcl 2 1 (by kernel_rfl) I
     have N := hcl 2 0 (by kernel_rfl) I
     have P := hSi
     have z := ngF hcl 12 11 P
     have D := ngF hcl 13 12 z
     have p := ngF hcl 14 13 D
     have q := ngF hcl 15 14 p
     have y := ngF hcl 16 15 q
     obtain rfl := aN N
     obtain rfl := aO O
     obtain rfl := a7 I
     obtain rfl := bg n
     obtain rfl := bs V
     obtain rfl := R
     refine hG (any_stepG ?_); intro J hJ
     refine g_ hFx true (i6 (w64 (f - 1))) ?_; intro fX d6
     refine nl (qnI (hJ _ _ ?_))
     exact ⟨ao, ak, al, ap, am, an, i6 f, i6 u1, .bool true, .bool true, aW, bc, bd, a5, aX, be, i6 f, i6 (w64 (f - 1)), a6, aY, aM, ax, aw, .own tyLine 42 ao1 cap2 j, W, d6.reg, hMx.perm lpr, kf, kf, kf, kf, bo, bp, bq, bv, bw, br, kf, kf, (nt z), (nt D), (nt p), (nt q), (nt y), rfl, ad, ah, (nt z), (nt D)⟩
    ·
     obtain rfl := oj hi
     have P := hpre 11 (by kernel_rfl)
     have M := hpre 9 (by kernel_rfl)
     have n := hpre 3 (by kernel_rfl)
     have V := hcl 11 10 (by kernel_rfl) P
     have I := hcl 3 2 (by kernel_rfl) n
     have O := hcl 2 1 (by kernel_rfl) I
     have N := hcl 2 0 (by kernel_rfl) I
     have z := hSi
     have D := ngF hcl 13 12 z
     have p := ngF hcl 14 13 D
     have q := ngF hcl 15 14 p
     have y := ngF hcl 16 15 q
     obtain rfl := aN N
     obtain rfl := aO O
     obtain rfl := a7 I
     obtain rfl := bg n
     obtain rfl := br M
     obtain rfl := bs V
     obtain rfl := bu P
     obtain rfl := R
     refine hG (any_stepG ?_); intro J hJ
     refine ixo hFx hMx 0 (T := tyLine) (xs := j) (w64 (f - 1)) (by simpa only [List.length_set] using bS) (k := .i64) (e := 42) (bytes := 64) (wK hFx true) rfl (by kernel_rfl) rfl (by kernel_rfl) (by kernel_rfl) rfl (by kernel_rfl) ?_; intro cu fY d7 d8
     refine nl (qnI (hJ _ _ ?_))
     exact ⟨ao, ak, al, cu, am, an, i6 f, i6 u1, .bool true, .bool true, aW, bc, bd, a5, aX, .slice ao1 j.length cap2, i6 f, i6 (w64 (f - 1)), .pointer (some ⟨cu, (w64 (f - 1)).toNat * 8, none⟩), aY, aM, ax, aw, .own tyLine 42 ao1 cap2 j, W, d8.reg, hMx.perm lpr, kf, kf, kf, kf, bo, bp, bq, bv, bw, kf, kf, kf, kf, (nt D), (nt p), (nt q), (nt y), rfl, ad, ah, (fun _ => d7), (nt D)⟩
    ·
     obtain rfl := oj hi
     have z := hpre 12 (by kernel_rfl)
     have n := hpre 3 (by kernel_rfl)
     have P := hcl 12 11 (by kernel_rfl) z
     have M := hcl 12 9 (by kernel_rfl) z
     have I := hcl 3 2 (by kernel_rfl) n
     have V := hcl 11 10 (by kernel_rfl) P
     have O := hcl 2 1 (by kernel_rfl) I
     have N := hcl 2 0 (by kernel_rfl) I
     have D := hSi
     have p := ngF hcl 14 13 D
     have q := ngF hcl 15 14 p
     have y := ngF hcl 16 15 q
     obtain rfl := aN N
     obtain rfl := aO O
     obtain rfl := a7 I
     obtain rfl := bg n
     obtain rfl := br M
     obtain rfl := bs V
     obtain rfl := bu P
     obtain rfl := bx z
     obtain rfl := R
     refine hG (any_stepG ?_); intro J hJ
     have cv := ae z
     obtain ⟨fZ, d9, ea⟩ := own_elx hMx 0 (T := tyLine) (xs := j) rfl cv (w64 (f - 1)).toNat bT
     obtain ⟨bX, bY, rfl, eb⟩ := d9
     refine lc2 hFx 31 8 (e42E g bX bY) ea rfl ?_ (hw := (wK hFx true)); intro f0 ec
     refine nl (qnI (hJ _ _ ?_))
     exact ⟨ao, ak, al, ap, bX, bY, i6 f, i6 u1, .bool true, .bool true, aW, bc, bd, a5, aX, .slice ao1 j.length cap2, i6 f, i6 (w64 (f - 1)), .pointer (some ⟨ap, (w64 (f - 1)).toNat * 8, none⟩), .agg (e42E g bX bY).toArray, aM, ax, aw, .own tyLine 42 ao1 cap2 j, W, ec.reg, hMx.perm lpr, kf, kf, kf, kf, bo, bp, bq, bv, bw, kf, kf, kf, kf, kf, (nt p), (nt q), (nt y), rfl, ad, ah, (fun _ => cv), (fun _ => eb)⟩
    ·
     obtain rfl := oj hi
     have D := hpre 13 (by kernel_rfl)
     have E := hpre 8 (by kernel_rfl)
     have aq := hpre 4 (by kernel_rfl)
     have n := hpre 3 (by kernel_rfl)
     have z := hcl 13 12 (by kernel_rfl) D
     have L := hcl 8 7 (by kernel_rfl) E
     have I := hcl 3 2 (by kernel_rfl) n
     have P := hcl 12 11 (by kernel_rfl) z
     have M := hcl 12 9 (by kernel_rfl) z
     have Q := hcl 7 6 (by kernel_rfl) L
     have U := hcl 7 5 (by kernel_rfl) L
     have O := hcl 2 1 (by kernel_rfl) I
     have N := hcl 2 0 (by kernel_rfl) I
     have V := hcl 11 10 (by kernel_rfl) P
     have p := hSi
     have q := ngF hcl 15 14 p
     have y := ngF hcl 16 15 q
     obtain rfl := aN N
     obtain rfl := aO O
     obtain rfl := a7 I
     obtain rfl := bg n
     obtain rfl := bo aq
     obtain rfl := bp U
     obtain rfl := bq Q
     obtain rfl := bv L
     obtain rfl := bw E
     obtain rfl := br M
     obtain rfl := bs V
     obtain rfl := bu P
     obtain rfl := bx z
     obtain rfl := bz D
     obtain rfl := R
     refine hG (any_stepG ?_); intro J hJ
     have C := Fz.le.trans C W
     have ed := ad L
     have cw := ah E
     have ee := ae z
     have cx := ai D
     have ef := hf5 _ _ C hMx.fz H g ak al am an cw cx
     refine fcl hFx hMx (i6 (u3 H g)) fid3 (#[.agg (e42E H ak al).toArray, .agg (e42E g am an).toArray] ++ caps4) (wK hFx true) rfl (by kernel_rfl) ?h1 ?h2 ?_
     case h1 => exact fv_run rfl (by kernel_rfl) (by kernel_rfl) hg6
     case h2 => exact ef
     intro f1 f2 eg eh
     refine nl (qnI (hJ _ _ ?_))
     exact ⟨ao, ak, al, ap, am, an, i6 f, i6 u1, .bool true, .bool true, .func (.func fid3) #[] caps4, .slice ao1 j.length cap2, i6 f, .pointer (some ⟨ao, f.toNat * 8, none⟩), .agg (e42E H ak al).toArray, .slice ao1 j.length cap2, i6 f, i6 (w64 (f - 1)), .pointer (some ⟨ap, (w64 (f - 1)).toNat * 8, none⟩), .agg (e42E g am an).toArray, i6 (u3 H g), ax, aw, .own tyLine 42 ao1 cap2 j, W, eg.reg, eh.perm lpr, kf, kf, kf, kf, kf, kf, kf, kf, kf, kf, kf, kf, kf, kf, kf, (nt q), (nt y), rfl, (fun _ => ed), (fun _ => cw), (fun _ => ee), (fun _ => cx)⟩
    ·
     obtain rfl := oj hi
     have p := hpre 14 (by kernel_rfl)
     have n := hpre 3 (by kernel_rfl)
     have D := hcl 14 13 (by kernel_rfl) p
     have E := hcl 14 8 (by kernel_rfl) p
     have aq := hcl 14 4 (by kernel_rfl) p
     have I := hcl 3 2 (by kernel_rfl) n
     have z := hcl 13 12 (by kernel_rfl) D
     have L := hcl 8 7 (by kernel_rfl) E
     have O := hcl 2 1 (by kernel_rfl) I
     have N := hcl 2 0 (by kernel_rfl) I
     have P := hcl 12 11 (by kernel_rfl) z
     have M := hcl 12 9 (by kernel_rfl) z
     have Q := hcl 7 6 (by kernel_rfl) L
     have U := hcl 7 5 (by kernel_rfl) L
     have V := hcl 11 10 (by kernel_rfl) P
     have q := hSi
     have y := ngF hcl 16 15 q
     obtain rfl := aN N
     obtain rfl := aO O
     obtain rfl := a7 I
     obtain rfl := bg n
     obtain rfl := bo aq
     obtain rfl := bp U
     obtain rfl := bq Q
     obtain rfl := bv L
     obtain rfl := bw E
     obtain rfl := br M
     obtain rfl := bs V
     obtain rfl := bu P
     obtain rfl := bx z
     obtain rfl := bz D
     obtain rfl := bP p
     obtain rfl := R
     refine hG (any_stepG ?_); intro J hJ
     have ei := ad L
     have ej := ah E
     have ek := ae z
     have el := ai D
     refine g_ hFx true (.bool (decide ((u3 H g) < 0))) ?_; intro f3 em
     refine nl (qnI (hJ _ _ ?_))
     exact ⟨ao, ak, al, ap, am, an, i6 f, i6 u1, .bool true, .bool true, .func (.func fid3) #[] caps4, .slice ao1 j.length cap2, i6 f, .pointer (some ⟨ao, f.toNat * 8, none⟩), .agg (e42E H ak al).toArray, .slice ao1 j.length cap2, i6 f, i6 (w64 (f - 1)), .pointer (some ⟨ap, (w64 (f - 1)).toNat * 8, none⟩), .agg (e42E g am an).toArray, i6 (u3 H g), .bool (decide ((u3 H g) < 0)), aw, .own tyLine 42 ao1 cap2 j, W, em.reg, hMx.perm lpr, kf, kf, kf, kf, kf, kf, kf, kf, kf, kf, kf, kf, kf, kf, kf, kf, (nt y), rfl, (fun _ => ei), (fun _ => ej), (fun _ => ek), (fun _ => el)⟩
    obtain rfl := oj hi
    have q := hpre 15 (by kernel_rfl)
    have n := hpre 3 (by kernel_rfl)
    have p := hcl 15 14 (by kernel_rfl) q
    have I := hcl 3 2 (by kernel_rfl) n
    have D := hcl 14 13 (by kernel_rfl) p
    have E := hcl 14 8 (by kernel_rfl) p
    have aq := hcl 14 4 (by kernel_rfl) p
    have O := hcl 2 1 (by kernel_rfl) I
    have N := hcl 2 0 (by kernel_rfl) I
    have z := hcl 13 12 (by kernel_rfl) D
    have L := hcl 8 7 (by kernel_rfl) E
    have P := hcl 12 11 (by kernel_rfl) z
    have M := hcl 12 9 (by kernel_rfl) z
    have Q := hcl 7 6 (by kernel_rfl) L
    have U := hcl 7 5 (by kernel_rfl) L
    have V := hcl 11 10 (by kernel_rfl) P
    obtain rfl := aN N
    obtain rfl := aO O
    obtain rfl := a7 I
    obtain rfl := bg n
    obtain rfl := bo aq
    obtain rfl := bp U
    obtain rfl := bq Q
    obtain rfl := bv L
    obtain rfl := bw E
    obtain rfl := br M
    obtain rfl := bs V
    obtain rfl := bu P
    obtain rfl := bx z
    obtain rfl := bz D
    obtain rfl := bP p
    obtain rfl := bU q
    obtain rfl := R
    refine hG (any_step ?_); intro A J hJ
    have en := ad L
    have eo := ah E
    have ep := ae z
    have eq := ai D
    refine s1 hFx 34 (.bool (decide ((u3 H g) < 0))) ?_; intro f4 er
    refine nl (qnI (hJ _ _ ?_))
    exact ⟨ao, ak, al, ap, am, an, i6 f, i6 u1, .bool true, .bool true, .func (.func fid3) #[] caps4, .slice ao1 j.length cap2, i6 f, .pointer (some ⟨ao, f.toNat * 8, none⟩), .agg (e42E H ak al).toArray, .slice ao1 j.length cap2, i6 f, i6 (w64 (f - 1)), .pointer (some ⟨ap, (w64 (f - 1)).toNat * 8, none⟩), .agg (e42E g am an).toArray, i6 (u3 H g), .bool (decide ((u3 H g) < 0)), .bool (decide ((u3 H g) < 0)), .own tyLine 42 ao1 cap2 j, W, er.reg, hMx.perm lpr, kf, kf, kf, kf, kf, kf, kf, kf, kf, kf, kf, kf, kf, kf, kf, kf, kf, rfl, (fun _ => en), (fun _ => eo), (fun _ => ep), (fun _ => eq)⟩
   case hE =>
    intro S hS aP f5 hI; refine Go.Sy.hid ?_; intro G hG; obtain ⟨ao, ak, al, ap, am, an, bJ, bK, bE, bD, aW, bc, bd, a5, aX, be, bm, bf, a6, aY, aM, ax, aw, bn, W, hI⟩ := hI; obtain ⟨hFx, hMx, aN, aO, a7, bg, bo, bp, bq, bv, bw, br, bs, bu, bx, bz, bP, bU, cq, R, ad, ah, ae, hI⟩ := hI; have ai := hI; refine hG ?_
    obtain rfl := aN (hS 0 (by decide))
    obtain rfl := aO (hS 1 (by decide))
    obtain rfl := a7 (hS 2 (by decide))
    obtain rfl := bg (hS 3 (by decide))
    obtain rfl := bo (hS 4 (by decide))
    obtain rfl := bp (hS 5 (by decide))
    obtain rfl := bq (hS 6 (by decide))
    obtain rfl := bv (hS 7 (by decide))
    obtain rfl := bw (hS 8 (by decide))
    obtain rfl := br (hS 9 (by decide))
    obtain rfl := bs (hS 10 (by decide))
    obtain rfl := bu (hS 11 (by decide))
    obtain rfl := bx (hS 12 (by decide))
    obtain rfl := bz (hS 13 (by decide))
    obtain rfl := bP (hS 14 (by decide))
    obtain rfl := bU (hS 15 (by decide))
    obtain rfl := cq (hS 16 (by decide))
    obtain rfl := R
    refine t_ (c_ hFx bO (fun _ es => ?_) fun _ cR => ?_)
    ·
     refine k_ (s_ (b_ ?_))
     have et : Fr 53 [] [⟨0, [], .slice ao1 j.length cap2⟩, ⟨1, [], i6 u1⟩, ⟨2, [], i6 u2⟩, ⟨3, [], .func (.func fid3) #[] caps4⟩, ⟨8, [], i6 x8⟩, ⟨9, [], i6 f⟩] aP := hFx.reg
     obtain ⟨eu, cy⟩ := es
     obtain ⟨l, ev, ew⟩ := gxq cy (by omega)
     obtain ⟨bS, cz⟩ := ew
     obtain ⟨g, bT, ex⟩ := gxq cz (by omega)
     obtain ⟨ey, ez⟩ := ex
     obtain ⟨eA, cA⟩ := ez
     refine any_invE mixed [[], [], [], [], [3], [], [], [6], [5, 7], [8], [], [], [10, 11], [12], [0, 1, 5, 6, 7, 8, 9, 13], [0, 1, 5, 6, 7, 8, 9, 13, 14], [0, 1, 2, 3, 4, 5, 6, 7, 8, 9, 10, 11, 12, 13, 14, 15], [0, 1, 2, 3, 4, 5, 6, 7, 8, 9, 10, 11, 12, 13, 14, 15, 16]] 18 (fun S a w1 => ∃ (af : Nat) (Y : Option Addr) (aa : Nat) (ag : Nat) (ab : Option Addr) (ac : Nat) (aj : Nat) (ar : Nat) (aZ : Value) (a1 : Value) (aC : Value) (aQ : Value) (aD : Value) (bh : Value) (bt : Value) (bi : Value) (a8 : Value) (a2 : Value) (bj : Value) (bk : Value) (a9 : Value) (a3 : Value) (aR : Value) (av : Value) (bn : Res), Fz.le Z Z ∧ Fr 53 [] [⟨0, [], .slice ao1 j.length cap2⟩, ⟨1, [], i6 u1⟩, ⟨2, [], i6 u2⟩, ⟨3, [], .func (.func fid3) #[] caps4⟩, ⟨8, [], i6 x8⟩, ⟨9, [], i6 f⟩, ⟨37, [], aZ⟩, ⟨38, [], a1⟩, ⟨39, [], aC⟩, ⟨40, [], aQ⟩, ⟨41, [], aD⟩, ⟨42, [], bh⟩, ⟨43, [], bt⟩, ⟨44, [], bi⟩, ⟨45, [], a8⟩, ⟨46, [], a2⟩, ⟨47, [], bj⟩, ⟨48, [], bk⟩, ⟨49, [], a9⟩, ⟨50, [], a3⟩, ⟨51, [], aR⟩, ⟨52, [], av⟩] a ∧ Mem B [] w0 Z0 (bn :: Rr) Z w1 ∧ (S 0 = true → aZ = .slice ao1 j.length cap2) ∧ (S 1 = true → a1 = i6 f) ∧ (S 2 = true → aC = .slice ao1 j.length cap2) ∧ (S 3 = true → aQ = i6 f) ∧ (S 4 = true → aD = i6 (w64 (f - 1))) ∧ (S 5 = true → bh = .slice ao1 j.length cap2) ∧ (S 6 = true → bt = i6 f) ∧ (S 7 = true → bi = i6 (w64 (f - 1))) ∧ (S 8 = true → a8 = .pointer (some ⟨af, (w64 (f - 1)).toNat * 8, none⟩)) ∧ (S 9 = true → a2 = .agg (e42E l Y aa).toArray) ∧ (S 10 = true → bj = .slice ao1 j.length cap2) ∧ (S 11 = true → bk = i6 f) ∧ (S 12 = true → a9 = .pointer (some ⟨ag, f.toNat * 8, none⟩)) ∧ (S 13 = true → a3 = .agg (e42E g ab ac).toArray) ∧ (S 14 = true → aR = .pointer (some ⟨aj, f.toNat * 8, none⟩)) ∧ (S 16 = true → av = .pointer (some ⟨ar, (w64 (f - 1)).toNat * 8, none⟩)) ∧ (S 15 = false → bn = .own tyLine 42 ao1 cap2 j) ∧ (S 15 = true → S 17 = false → bn = .own tyLine 42 ao1 cap2 (j.set f.toNat l)) ∧ (S 17 = true → bn = .own tyLine 42 ao1 cap2 ((j.set f.toNat l).set (w64 (f - 1)).toNat g)) ∧ (S 8 = true → ao1 = some ⟨af, 0, none⟩) ∧ (S 9 = true → SlR t8 Z Y aa l.F.Data) ∧ (S 12 = true → ao1 = some ⟨ag, 0, none⟩) ∧ (S 13 = true → SlR t8 Z ab ac g.F.Data) ∧ (S 14 = true → ao1 = some ⟨aj, 0, none⟩) ∧ (S 16 = true → ao1 = some ⟨ar, 0, none⟩)) ?h0 ?hs ?hE
     case h0 =>
      have eB := et.any 37
      have eC := eB.any 38
      have eD := eC.any 39
      have eE := eD.any 40
      have eF := eE.any 41
      have eG := eF.any 42
      have eH := eG.any 43
      have eI := eH.any 44
      have eJ := eI.any 45
      have eK := eJ.any 46
      have eL := eK.any 47
      have eM := eL.any 48
      have eN := eM.any 49
      have eO := eN.any 50
      have eP := eO.any 51
      have eQ := eP.any 52
      have eR := (hMx.perm lpr).drew
      exact ⟨0, none, 0, 0, none, 0, 0, 0, aP.tmps.getD 37 undef, aP.tmps.getD 38 undef, aP.tmps.getD 39 undef, aP.tmps.getD 40 undef, aP.tmps.getD 41 undef, aP.tmps.getD 42 undef, aP.tmps.getD 43 undef, aP.tmps.getD 44 undef, aP.tmps.getD 45 undef, aP.tmps.getD 46 undef, aP.tmps.getD 47 undef, aP.tmps.getD 48 undef, aP.tmps.getD 49 undef, aP.tmps.getD 50 undef, aP.tmps.getD 51 undef, aP.tmps.getD 52 undef, .own tyLine 42 ao1 cap2 j, Fz.le.refl _, eQ.reg, eR, ff, ff, ff, ff, ff, ff, ff, ff, ff, ff, ff, ff, ff, ff, ff, ff, kf, ff, ff, ff, ff, ff, ff, ff, ff⟩
     case hs =>
      intro S hcl i o hil hi hSi hpre a w1 hI; refine Go.Sy.hid ?_; intro G hG; obtain ⟨af, Y, aa, ag, ab, ac, aj, ar, aZ, a1, aC, aQ, aD, bh, bt, bi, a8, a2, bj, bk, a9, a3, aR, av, bn, hI⟩ := hI; obtain ⟨m, hFx, hMx, aE, aF, aG, aH, aS, aI, aJ, aT, ba, bl, aK, aL, a4, bb, bA, b0, R, bF, cB, ad, ah, ae, hI⟩ := hI; obtain ⟨ai, bB, hI⟩ := hI; have b1 := hI
      have hcase : i = 0 ∨ i = 1 ∨ i = 2 ∨ i = 3 ∨ i = 4 ∨ i = 5 ∨ i = 6 ∨ i = 7 ∨ i = 8 ∨ i = 9 ∨ i = 10 ∨ i = 11 ∨ i = 12 ∨ i = 13 ∨ i = 14 ∨ i = 15 ∨ i = 16 ∨ i = 17 := by clear hi; omega
      rcases hcase with rfl | rfl | rfl | rfl | rfl | rfl | rfl | rfl | rfl | rfl | rfl | rfl | rfl | rfl | rfl | rfl | rfl | rfl
      ·
       obtain rfl := oj hi
       have N := hSi
       have p := ngF hcl 14 0 N
       have q := ngF hcl 15 0 N
       have y := ngF hcl 16 0 N
       have X := ngF hcl 17 0 N
       obtain rfl := R q
       refine hG (any_step ?_); intro A J hJ
       refine s1 hFx 37 (.slice ao1 j.length cap2) ?_; intro ga eS
       refine nl (qnI (hJ _ _ ?_))
       exact ⟨af, Y, aa, ag, ab, ac, aj, ar, .slice ao1 j.length cap2, a1, aC, aQ, aD, bh, bt, bi, a8, a2, bj, bk, a9, a3, aR, av, .own tyLine 42 ao1 cap2 j, m, eS.reg, hMx.perm lpr, kf, aF, aG, aH, aS, aI, aJ, aT, ba, bl, aK, aL, a4, bb, (nt p), (nt y), kf, (fun h _ => nt q h), (nt X), ad, ah, ae, ai, (nt p), (nt y)⟩
      ·
       obtain rfl := oj hi
       have O := hSi
       have p := ngF hcl 14 1 O
       have q := ngF hcl 15 1 O
       have y := ngF hcl 16 1 O
       have X := ngF hcl 17 1 O
       obtain rfl := R q
       refine hG (any_step ?_); intro A J hJ
       refine s1 hFx 38 (i6 f) ?_; intro gf eT
       refine nl (qnI (hJ _ _ ?_))
       exact ⟨af, Y, aa, ag, ab, ac, aj, ar, aZ, i6 f, aC, aQ, aD, bh, bt, bi, a8, a2, bj, bk, a9, a3, aR, av, .own tyLine 42 ao1 cap2 j, m, eT.reg, hMx.perm lpr, aE, kf, aG, aH, aS, aI, aJ, aT, ba, bl, aK, aL, a4, bb, (nt p), (nt y), kf, (fun h _ => nt q h), (nt X), ad, ah, ae, ai, (nt p), (nt y)⟩
      ·
       obtain rfl := oj hi
       have I := hSi
       have y := ngF hcl 16 2 I
       have X := ngF hcl 17 2 I
       refine hG (any_step ?_); intro A J hJ
       refine s1 hFx 39 (.slice ao1 j.length cap2) ?_; intro gk eU
       refine nl (qnI (hJ _ _ ?_))
       exact ⟨af, Y, aa, ag, ab, ac, aj, ar, aZ, a1, .slice ao1 j.length cap2, aQ, aD, bh, bt, bi, a8, a2, bj, bk, a9, a3, aR, av, bn, m, eU.reg, hMx.perm lpr, aE, aF, kf, aH, aS, aI, aJ, aT, ba, bl, aK, aL, a4, bb, bA, (nt y), R, bF, (nt X), ad, ah, ae, ai, bB, (nt y)⟩
      ·
       obtain rfl := oj hi
       have n := hSi
       have aq := ngF hcl 4 3 n
       have y := ngF hcl 16 3 n
       have X := ngF hcl 17 3 n
       refine hG (any_step ?_); intro A J hJ
       refine s1 hFx 40 (i6 f) ?_; intro gp eV
       refine nl (qnI (hJ _ _ ?_))
       exact ⟨af, Y, aa, ag, ab, ac, aj, ar, aZ, a1, aC, i6 f, aD, bh, bt, bi, a8, a2, bj, bk, a9, a3, aR, av, bn, m, eV.reg, hMx.perm lpr, aE, aF, aG, kf, (nt aq), aI, aJ, aT, ba, bl, aK, aL, a4, bb, bA, (nt y), R, bF, (nt X), ad, ah, ae, ai, bB, (nt y)⟩
      ·
       obtain rfl := oj hi
       have n := hpre 3 (by kernel_rfl)
       have aq := hSi
       have y := ngF hcl 16 4 aq
       have X := ngF hcl 17 4 aq
       obtain rfl := aH n
       refine hG (any_step ?_); intro A J hJ
       refine s1 hFx 41 (i6 (w64 (f - 1))) ?_; intro gu eW
       refine nl (qnI (hJ _ _ ?_))
       exact ⟨af, Y, aa, ag, ab, ac, aj, ar, aZ, a1, aC, i6 f, i6 (w64 (f - 1)), bh, bt, bi, a8, a2, bj, bk, a9, a3, aR, av, bn, m, eW.reg, hMx.perm lpr, aE, aF, aG, kf, kf, aI, aJ, aT, ba, bl, aK, aL, a4, bb, bA, (nt y), R, bF, (nt X), ad, ah, ae, ai, bB, (nt y)⟩
      ·
       obtain rfl := oj hi
       have U := hSi
       have E := ngF hcl 8 5 U
       have M := ngF hcl 9 8 E
       have p := ngF hcl 14 5 U
       have q := ngF hcl 15 5 U
       have y := ngF hcl 16 5 U
       have X := ngF hcl 17 5 U
       obtain rfl := R q
       refine hG (any_step ?_); intro A J hJ
       refine s1 hFx 42 (.slice ao1 j.length cap2) ?_; intro gz eX
       refine nl (qnI (hJ _ _ ?_))
       exact ⟨af, Y, aa, ag, ab, ac, aj, ar, aZ, a1, aC, aQ, aD, .slice ao1 j.length cap2, bt, bi, a8, a2, bj, bk, a9, a3, aR, av, .own tyLine 42 ao1 cap2 j, m, eX.reg, hMx.perm lpr, aE, aF, aG, aH, aS, kf, aJ, aT, (nt E), (nt M), aK, aL, a4, bb, (nt p), (nt y), kf, (fun h _ => nt q h), (nt X), (nt E), (nt M), ae, ai, (nt p), (nt y)⟩
      ·
       obtain rfl := oj hi
       have Q := hSi
       have L := ngF hcl 7 6 Q
       have E := ngF hcl 8 7 L
       have M := ngF hcl 9 8 E
       have p := ngF hcl 14 6 Q
       have q := ngF hcl 15 6 Q
       have y := ngF hcl 16 6 Q
       have X := ngF hcl 17 6 Q
       obtain rfl := R q
       refine hG (any_step ?_); intro A J hJ
       refine s1 hFx 43 (i6 f) ?_; intro gE eY
       refine nl (qnI (hJ _ _ ?_))
       exact ⟨af, Y, aa, ag, ab, ac, aj, ar, aZ, a1, aC, aQ, aD, bh, i6 f, bi, a8, a2, bj, bk, a9, a3, aR, av, .own tyLine 42 ao1 cap2 j, m, eY.reg, hMx.perm lpr, aE, aF, aG, aH, aS, aI, kf, (nt L), (nt E), (nt M), aK, aL, a4, bb, (nt p), (nt y), kf, (fun h _ => nt q h), (nt X), (nt E), (nt M), ae, ai, (nt p), (nt y)⟩
      ·
       obtain rfl := oj hi
       have Q := hpre 6 (by kernel_rfl)
       have L := hSi
       have E := ngF hcl 8 7 L
       have M := ngF hcl 9 8 E
       have p := ngF hcl 14 7 L
       have q := ngF hcl 15 7 L
       have y := ngF hcl 16 7 L
       have X := ngF hcl 17 7 L
       obtain rfl := aJ Q
       obtain rfl := R q
       refine hG (any_step ?_); intro A J hJ
       refine s1 hFx 44 (i6 (w64 (f - 1))) ?_; intro gJ eZ
       refine nl (qnI (hJ _ _ ?_))
       exact ⟨af, Y, aa, ag, ab, ac, aj, ar, aZ, a1, aC, aQ, aD, bh, i6 f, i6 (w64 (f - 1)), a8, a2, bj, bk, a9, a3, aR, av, .own tyLine 42 ao1 cap2 j, m, eZ.reg, hMx.perm lpr, aE, aF, aG, aH, aS, aI, kf, kf, (nt E), (nt M), aK, aL, a4, bb, (nt p), (nt y), kf, (fun h _ => nt q h), (nt X), (nt E), (nt M), ae, ai, (nt p), (nt y)⟩
      ·
       obtain rfl := oj hi
       have L := hpre 7 (by kernel_rfl)
       have U := hpre 5 (by kernel_rfl)
       have Q := hcl 7 6 (by kernel_rfl) L
       have E := hSi
       have M := ngF hcl 9 8 E
       have p := ngF hcl 14 8 E
       have q := ngF hcl 15 8 E
       have y := ngF hcl 16 8 E
       have X := ngF hcl 17 8 E
       obtain rfl := aI U
       obtain rfl := aJ Q
       obtain rfl := aT L
       obtain rfl := R q
       refine hG (any_step ?_); intro A J hJ
       refine ixo hFx hMx 0 (T := tyLine) (xs := j) (w64 (f - 1)) (by simpa only [List.length_set] using eu) (k := .i64) (e := 42) (bytes := 64) (nog rfl _) rfl (by kernel_rfl) rfl (by kernel_rfl) (by kernel_rfl) rfl (by kernel_rfl) ?_; intro cC gO e0 e1
       refine nl (qnI (hJ _ _ ?_))
       exact ⟨cC, Y, aa, ag, ab, ac, aj, ar, aZ, a1, aC, aQ, aD, .slice ao1 j.length cap2, i6 f, i6 (w64 (f - 1)), .pointer (some ⟨cC, (w64 (f - 1)).toNat * 8, none⟩), a2, bj, bk, a9, a3, aR, av, .own tyLine 42 ao1 cap2 j, m, e1.reg, hMx.perm lpr, aE, aF, aG, aH, aS, kf, kf, kf, kf, (nt M), aK, aL, a4, bb, (nt p), (nt y), kf, (fun h _ => nt q h), (nt X), (fun _ => e0), (nt M), ae, ai, (nt p), (nt y)⟩
      ·
       obtain rfl := oj hi
       have E := hpre 8 (by kernel_rfl)
       have L := hcl 8 7 (by kernel_rfl) E
       have U := hcl 8 5 (by kernel_rfl) E
       have Q := hcl 7 6 (by kernel_rfl) L
       have M := hSi
       have p := ngF hcl 14 9 M
       have q := ngF hcl 15 9 M
       have y := ngF hcl 16 9 M
       have X := ngF hcl 17 9 M
       obtain rfl := aI U
       obtain rfl := aJ Q
       obtain rfl := aT L
       obtain rfl := ba E
       obtain rfl := R q
       refine hG (any_step ?_); intro A J hJ
       have cD := ad E
       obtain ⟨gT, e2, e3⟩ := own_elx hMx 0 (T := tyLine) (xs := j) rfl cD (w64 (f - 1)).toNat ev
       obtain ⟨b2, b3, rfl, e4⟩ := e2
       refine lc2 hFx 46 8 (e42E l b2 b3) e3 rfl ?_; intro gU e5
       refine nl (qnI (hJ _ _ ?_))
       exact ⟨af, b2, b3, ag, ab, ac, aj, ar, aZ, a1, aC, aQ, aD, .slice ao1 j.length cap2, i6 f, i6 (w64 (f - 1)), .pointer (some ⟨af, (w64 (f - 1)).toNat * 8, none⟩), .agg (e42E l b2 b3).toArray, bj, bk, a9, a3, aR, av, .own tyLine 42 ao1 cap2 j, m, e5.reg, hMx.perm lpr, aE, aF, aG, aH, aS, kf, kf, kf, kf, kf, aK, aL, a4, bb, (nt p), (nt y), kf, (fun h _ => nt q h), (nt X), (fun _ => cD), (fun _ => e4), ae, ai, (nt p), (nt y)⟩
      ·
       obtain rfl := oj hi
       have V := hSi
       have z := ngF hcl 12 10 V
       have D := ngF hcl 13 12 z
       have p := ngF hcl 14 13 D
       have q := ngF hcl 15 13 D
       have y := ngF hcl 16 10 V
       have X := ngF hcl 17 10 V
       obtain rfl := R q
       refine hG (any_step ?_); intro A J hJ
       refine s1 hFx 47 (.slice ao1 j.length cap2) ?_; intro gZ e6
       refine nl (qnI (hJ _ _ ?_))
       exact ⟨af, Y, aa, ag, ab, ac, aj, ar, aZ, a1, aC, aQ, aD, bh, bt, bi, a8, a2, .slice ao1 j.length cap2, bk, a9, a3, aR, av, .own tyLine 42 ao1 cap2 j, m, e6.reg, hMx.perm lpr, aE, aF, aG, aH, aS, aI, aJ, aT, ba, bl, kf, aL, (nt z), (nt D), (nt p), (nt y), kf, (fun h _ => nt q h), (nt X), ad, ah, (nt z), (nt D), (nt p), (nt y)⟩
      ·
       obtain rfl := oj hi
       have P := hSi
       have z := ngF hcl 12 11 P
       have D := ngF hcl 13 12 z
       have p := ngF hcl 14 13 D
       have q := ngF hcl 15 13 D
       have y := ngF hcl 16 11 P
       have X := ngF hcl 17 11 P
       obtain rfl := R q
       refine hG (any_step ?_); intro A J hJ
       refine s1 hFx 48 (i6 f) ?_; intro g4 e7
       refine nl (qnI (hJ _ _ ?_))
       exact ⟨af, Y, aa, ag, ab, ac, aj, ar, aZ, a1, aC, aQ, aD, bh, bt, bi, a8, a2, bj, i6 f, a9, a3, aR, av, .own tyLine 42 ao1 cap2 j, m, e7.reg, hMx.perm lpr, aE, aF, aG, aH, aS, aI, aJ, aT, ba, bl, aK, kf, (nt z), (nt D), (nt p), (nt y), kf, (fun h _ => nt q h), (nt X), ad, ah, (nt z), (nt D), (nt p), (nt y)⟩
      ·
       obtain rfl := oj hi
       have P := hpre 11 (by kernel_rfl)
       have V := hpre 10 (by kernel_rfl)
       have z := hSi
       have D := ngF hcl 13 12 z
       have p := ngF hcl 14 13 D
       have q := ngF hcl 15 13 D
       have y := ngF hcl 16 12 z
       have X := ngF hcl 17 12 z
       obtain rfl := aK V
       obtain rfl := aL P
       obtain rfl := R q
       refine hG (any_step ?_); intro A J hJ
       refine ixo hFx hMx 0 (T := tyLine) (xs := j) f (by simpa only [List.length_set] using bS) (k := .i64) (e := 42) (bytes := 64) (nog rfl _) rfl (by kernel_rfl) rfl (by kernel_rfl) (by kernel_rfl) rfl (by kernel_rfl) ?_; intro cE g9 e8 e9
       refine nl (qnI (hJ _ _ ?_))
       exact ⟨af, Y, aa, cE, ab, ac, aj, ar, aZ, a1, aC, aQ, aD, bh, bt, bi, a8, a2, .slice ao1 j.length cap2, i6 f, .pointer (some ⟨cE, f.toNat * 8, none⟩), a3, aR, av, .own tyLine 42 ao1 cap2 j, m, e9.reg, hMx.perm lpr, aE, aF, aG, aH, aS, aI, aJ, aT, ba, bl, kf, kf, kf, (nt D), (nt p), (nt y), kf, (fun h _ => nt q h), (nt X), ad, ah, (fun _ => e8), (nt D), (nt p), (nt y)⟩
      ·
       obtain rfl := oj hi
       have z := hpre 12 (by kernel_rfl)
       have P := hcl 12 11 (by kernel_rfl) z
       have V := hcl 12 10 (by kernel_rfl) z
       have D := hSi
       have p := ngF hcl 14 13 D
       have q := ngF hcl 15 13 D
       have y := ngF hcl 16 13 D
       have X := ngF hcl 17 13 D
       obtain rfl := aK V
       obtain rfl := aL P
       obtain rfl := a4 z
       obtain rfl := R q
       refine hG (any_step ?_); intro A J hJ
       have cF := ae z
       obtain ⟨he, fa, fb⟩ := own_elx hMx 0 (T := tyLine) (xs := j) rfl cF f.toNat bT
       obtain ⟨b4, b5, rfl, fc⟩ := fa
       refine lc2 hFx 50 8 (e42E g b4 b5) fb rfl ?_; intro hf fd
       refine nl (qnI (hJ _ _ ?_))
       exact ⟨af, Y, aa, ag, b4, b5, aj, ar, aZ, a1, aC, aQ, aD, bh, bt, bi, a8, a2, .slice ao1 j.length cap2, i6 f, .pointer (some ⟨ag, f.toNat * 8, none⟩), .agg (e42E g b4 b5).toArray, aR, av, .own tyLine 42 ao1 cap2 j, m, fd.reg, hMx.perm lpr, aE, aF, aG, aH, aS, aI, aJ, aT, ba, bl, kf, kf, kf, kf, (nt p), (nt y), kf, (fun h _ => nt q h), (nt X), ad, ah, (fun _ => cF), (fun _ => fc), (nt p), (nt y)⟩
      ·
       obtain rfl := oj hi
       have D := hpre 13 (by kernel_rfl)
       have M := hpre 9 (by kernel_rfl)
       have E := hpre 8 (by kernel_rfl)
       have L := hpre 7 (by kernel_rfl)
       have Q := hpre 6 (by kernel_rfl)
       have U := hpre 5 (by kernel_rfl)
       have O := hpre 1 (by kernel_rfl)
       have N := hpre 0 (by kernel_rfl)
       have z := hcl 13 12 (by kernel_rfl) D
       have P := hcl 12 11 (by kernel_rfl) z
       have V := hcl 12 10 (by kernel_rfl) z
       have p := hSi
       have q := ngF hcl 15 14 p
       have y := ngF hcl 16 14 p
       have X := ngF hcl 17 14 p
       obtain rfl := aE N
       obtain rfl := aF O
       obtain rfl := aI U
       obtain rfl := aJ Q
       obtain rfl := aT L
       obtain rfl := ba E
       obtain rfl := bl M
       obtain rfl := aK V
       obtain rfl := aL P
       obtain rfl := a4 z
       obtain rfl := bb D
       obtain rfl := R q
       refine hG (any_step ?_); intro A J hJ
       have fe := ad E
       have fg := ah M
       have fh := ae z
       have fi := ai D
       refine ixo hFx hMx 0 (T := tyLine) (xs := j) f (by simpa only [List.length_set] using ey) (k := .i64) (e := 42) (bytes := 64) (nog rfl _) rfl (by kernel_rfl) rfl (by kernel_rfl) (by kernel_rfl) rfl (by kernel_rfl) ?_; intro cG hl fj fk
       refine nl (qnI (hJ _ _ ?_))
       exact ⟨af, Y, aa, ag, ab, ac, cG, ar, .slice ao1 j.length cap2, i6 f, aC, aQ, aD, .slice ao1 j.length cap2, i6 f, i6 (w64 (f - 1)), .pointer (some ⟨af, (w64 (f - 1)).toNat * 8, none⟩), .agg (e42E l Y aa).toArray, .slice ao1 j.length cap2, i6 f, .pointer (some ⟨ag, f.toNat * 8, none⟩), .agg (e42E g ab ac).toArray, .pointer (some ⟨cG, f.toNat * 8, none⟩), av, .own tyLine 42 ao1 cap2 j, m, fk.reg, hMx.perm lpr, kf, kf, aG, aH, aS, kf, kf, kf, kf, kf, kf, kf, kf, kf, kf, (nt y), kf, (fun h _ => nt q h), (nt X), (fun _ => fe), (fun _ => fg), (fun _ => fh), (fun _ => fi), (fun _ => fj), (nt y)⟩
      ·
       obtain rfl := oj hi
       have p := hpre 14 (by kernel_rfl)
       have D := hpre 13 (by kernel_rfl)
       have M := hpre 9 (by kernel_rfl)
       have E := hpre 8 (by kernel_rfl)
       have L := hpre 7 (by kernel_rfl)
       have Q := hpre 6 (by kernel_rfl)
       have U := hpre 5 (by kernel_rfl)
       have O := hpre 1 (by kernel_rfl)
       have N := hpre 0 (by kernel_rfl)
       have z := hcl 13 12 (by kernel_rfl) D
       have P := hcl 12 11 (by kernel_rfl) z
       have V := hcl 12 10 (by kernel_rfl) z
       have q := hSi
       have y := ngF hcl 16 15 q
       have X := ngF hcl 17 15 q
       obtain rfl := aE N
       obtain rfl := aF O
       obtain rfl := aI U
       obtain rfl := aJ Q
       obtain rfl := aT L
       obtain rfl := ba E
       obtain rfl := bl M
       obtain rfl := aK V
       obtain rfl := aL P
       obtain rfl := a4 z
       obtain rfl := bb D
       obtain rfl := bA p
       obtain rfl := R q
       refine hG (any_step ?_); intro A J hJ
       have fl := ad E
       have cH := ah M
       have fm := ae z
       have fo := ai D
       have cI := bB p
       refine sox hFx hMx 0 cI (T := tyLine) (xs := j) f.toNat l (u := .agg (e42E l Y aa).toArray) (nog rfl _) rfl rfl (by kernel_rfl) rfl (by kernel_rfl) rfl (by kernel_rfl) (by first | omega | (simp only [List.length_set] at *; omega)) ⟨Y, aa, rfl, cH⟩ ?_; intro hr fp
       refine nl (qnI (hJ _ _ ?_))
       exact ⟨af, Y, aa, ag, ab, ac, aj, ar, .slice ao1 j.length cap2, i6 f, aC, aQ, aD, .slice ao1 j.length cap2, i6 f, i6 (w64 (f - 1)), .pointer (some ⟨af, (w64 (f - 1)).toNat * 8, none⟩), .agg (e42E l Y aa).toArray, .slice ao1 j.length cap2, i6 f, .pointer (some ⟨ag, f.toNat * 8, none⟩), .agg (e42E g ab ac).toArray, .pointer (some ⟨aj, f.toNat * 8, none⟩), av, .own tyLine 42 ao1 cap2 (j.set f.toNat l), m, hFx.reg, fp.perm lpr, kf, kf, aG, aH, aS, kf, kf, kf, kf, kf, kf, kf, kf, kf, kf, (nt y), nu, kf2, (nt X), (fun _ => fl), (fun _ => cH), (fun _ => fm), (fun _ => fo), (fun _ => cI), (nt y)⟩
      ·
       obtain rfl := oj hi
       have q := hpre 15 (by kernel_rfl)
       have p := hpre 14 (by kernel_rfl)
       have D := hpre 13 (by kernel_rfl)
       have z := hpre 12 (by kernel_rfl)
       have P := hpre 11 (by kernel_rfl)
       have V := hpre 10 (by kernel_rfl)
       have M := hpre 9 (by kernel_rfl)
       have E := hpre 8 (by kernel_rfl)
       have L := hpre 7 (by kernel_rfl)
       have Q := hpre 6 (by kernel_rfl)
       have U := hpre 5 (by kernel_rfl)
       have aq := hpre 4 (by kernel_rfl)
       have n := hpre 3 (by kernel_rfl)
       have I := hpre 2 (by kernel_rfl)
       have O := hpre 1 (by kernel_rfl)
       have N := hpre 0 (by kernel_rfl)
       have y := hSi
       have X := ngF hcl 17 16 y
       obtain rfl := aE N
       obtain rfl := aF O
       obtain rfl := aG I
       obtain rfl := aH n
       obtain rfl := aS aq
       obtain rfl := aI U
       obtain rfl := aJ Q
       obtain rfl := aT L
       obtain rfl := ba E
       obtain rfl := bl M
       obtain rfl := aK V
       obtain rfl := aL P
       obtain rfl := a4 z
       obtain rfl := bb D
       obtain rfl := bA p
       obtain rfl := bF q X
       refine hG (any_step ?_); intro A J hJ
       have fq := ad E
       have fr := ah M
       have fs := ae z
       have ft := ai D
       have fu := bB p
       have aU : (j.set f.toNat l).length = j.length := by first | assumption | omega | (dsimp only at *; omega) | (simp; try omega)
       have cJ : Fr 53 [] [⟨0, [], .slice ao1 (j.set f.toNat l).length cap2⟩, ⟨1, [], i6 u1⟩, ⟨2, [], i6 u2⟩, ⟨3, [], .func (.func fid3) #[] caps4⟩, ⟨8, [], i6 x8⟩, ⟨9, [], i6 f⟩, ⟨37, [], .slice ao1 (j.set f.toNat l).length cap2⟩, ⟨38, [], i6 f⟩, ⟨39, [], .slice ao1 (j.set f.toNat l).length cap2⟩, ⟨40, [], i6 f⟩, ⟨41, [], i6 (w64 (f - 1))⟩, ⟨42, [], .slice ao1 (j.set f.toNat l).length cap2⟩, ⟨43, [], i6 f⟩, ⟨44, [], i6 (w64 (f - 1))⟩, ⟨45, [], .pointer (some ⟨af, (w64 (f - 1)).toNat * 8, none⟩)⟩, ⟨46, [], .agg (e42E l Y aa).toArray⟩, ⟨47, [], .slice ao1 (j.set f.toNat l).length cap2⟩, ⟨48, [], i6 f⟩, ⟨49, [], .pointer (some ⟨ag, f.toNat * 8, none⟩)⟩, ⟨50, [], .agg (e42E g ab ac).toArray⟩, ⟨51, [], .pointer (some ⟨aj, f.toNat * 8, none⟩)⟩, ⟨52, [], av⟩] a := by rw [aU]; exact hFx.reg
       refine ixo cJ hMx 0 (T := tyLine) (xs := j.set f.toNat l) (w64 (f - 1)) (by simpa only [List.length_set] using eA) (k := .i64) (e := 42) (bytes := 64) (nog rfl _) rfl (by kernel_rfl) rfl (by kernel_rfl) (by kernel_rfl) rfl (by kernel_rfl) ?_; intro cK hy fv cL
       refine nl (qnI (hJ _ _ ?_))
       rw [aU] at cL
       exact ⟨af, Y, aa, ag, ab, ac, aj, cK, .slice ao1 j.length cap2, i6 f, .slice ao1 j.length cap2, i6 f, i6 (w64 (f - 1)), .slice ao1 j.length cap2, i6 f, i6 (w64 (f - 1)), .pointer (some ⟨af, (w64 (f - 1)).toNat * 8, none⟩), .agg (e42E l Y aa).toArray, .slice ao1 j.length cap2, i6 f, .pointer (some ⟨ag, f.toNat * 8, none⟩), .agg (e42E g ab ac).toArray, .pointer (some ⟨aj, f.toNat * 8, none⟩), .pointer (some ⟨cK, (w64 (f - 1)).toNat * 8, none⟩), .own tyLine 42 ao1 cap2 (j.set f.toNat l), m, cL.reg, hMx.perm lpr, (fun _ => by first | rfl | rw [aU]), (fun _ => by first | rfl | rw [aU]), (fun _ => by first | rfl | rw [aU]), (fun _ => by first | rfl | rw [aU]), (fun _ => by first | rfl | rw [aU]), (fun _ => by first | rfl | rw [aU]), (fun _ => by first | rfl | rw [aU]), (fun _ => by first | rfl | rw [aU]), (fun _ => by first | rfl | rw [aU]), (fun _ => by first | rfl | rw [aU]), (fun _ => by first | rfl | rw [aU]), (fun _ => by first | rfl | rw [aU]), (fun _ => by first | rfl | rw [aU]), (fun _ => by first | rfl | rw [aU]), (fun _ => by first | rfl | rw [aU]), (fun _ => by first | rfl | rw [aU]), (tn q), kf2, (nt X), (fun _ => fq), (fun _ => fr), (fun _ => fs), (fun _ => ft), (fun _ => fu), (fun _ => fv)⟩
      obtain rfl := oj hi
      have y := hpre 16 (by kernel_rfl)
      have q := hpre 15 (by kernel_rfl)
      have p := hpre 14 (by kernel_rfl)
      have D := hpre 13 (by kernel_rfl)
      have z := hpre 12 (by kernel_rfl)
      have P := hpre 11 (by kernel_rfl)
      have V := hpre 10 (by kernel_rfl)
      have M := hpre 9 (by kernel_rfl)
      have E := hpre 8 (by kernel_rfl)
      have L := hpre 7 (by kernel_rfl)
      have Q := hpre 6 (by kernel_rfl)
      have U := hpre 5 (by kernel_rfl)
      have aq := hpre 4 (by kernel_rfl)
      have n := hpre 3 (by kernel_rfl)
      have I := hpre 2 (by kernel_rfl)
      have O := hpre 1 (by kernel_rfl)
      have N := hpre 0 (by kernel_rfl)
      have X := hSi
      obtain rfl := aE N
      obtain rfl := aF O
      obtain rfl := aG I
      obtain rfl := aH n
      obtain rfl := aS aq
      obtain rfl := aI U
      obtain rfl := aJ Q
      obtain rfl := aT L
      obtain rfl := ba E
      obtain rfl := bl M
      obtain rfl := aK V
      obtain rfl := aL P
      obtain rfl := a4 z
      obtain rfl := bb D
      obtain rfl := bA p
      obtain rfl := b0 y
      obtain rfl := bF q X
      refine hG (any_step ?_); intro A J hJ
      have fw := ad E
      have fx := ah M
      have fy := ae z
      have cM := ai D
      have fA := bB p
      have cN := b1 y
      have aV : (j.set f.toNat l).length = j.length := by first | assumption | omega | (dsimp only at *; omega) | (simp; try omega)
      have b6 : Fr 53 [] [⟨0, [], .slice ao1 (j.set f.toNat l).length cap2⟩, ⟨1, [], i6 u1⟩, ⟨2, [], i6 u2⟩, ⟨3, [], .func (.func fid3) #[] caps4⟩, ⟨8, [], i6 x8⟩, ⟨9, [], i6 f⟩, ⟨37, [], .slice ao1 (j.set f.toNat l).length cap2⟩, ⟨38, [], i6 f⟩, ⟨39, [], .slice ao1 (j.set f.toNat l).length cap2⟩, ⟨40, [], i6 f⟩, ⟨41, [], i6 (w64 (f - 1))⟩, ⟨42, [], .slice ao1 (j.set f.toNat l).length cap2⟩, ⟨43, [], i6 f⟩, ⟨44, [], i6 (w64 (f - 1))⟩, ⟨45, [], .pointer (some ⟨af, (w64 (f - 1)).toNat * 8, none⟩)⟩, ⟨46, [], .agg (e42E l Y aa).toArray⟩, ⟨47, [], .slice ao1 (j.set f.toNat l).length cap2⟩, ⟨48, [], i6 f⟩, ⟨49, [], .pointer (some ⟨ag, f.toNat * 8, none⟩)⟩, ⟨50, [], .agg (e42E g ab ac).toArray⟩, ⟨51, [], .pointer (some ⟨aj, f.toNat * 8, none⟩)⟩, ⟨52, [], .pointer (some ⟨ar, (w64 (f - 1)).toNat * 8, none⟩)⟩] a := by rw [aV]; exact hFx.reg
      refine sox b6 hMx 0 cN (T := tyLine) (xs := j.set f.toNat l) (w64 (f - 1)).toNat g (u := .agg (e42E g ab ac).toArray) (nog rfl _) rfl rfl (by kernel_rfl) rfl (by kernel_rfl) rfl (by kernel_rfl) (by first | omega | (simp only [List.length_set] at *; omega)) ⟨ab, ac, rfl, cM⟩ ?_; intro hD fB
      refine nl (qnI (hJ _ _ ?_))
      rw [aV] at b6
      exact ⟨af, Y, aa, ag, ab, ac, aj, ar, .slice ao1 j.length cap2, i6 f, .slice ao1 j.length cap2, i6 f, i6 (w64 (f - 1)), .slice ao1 j.length cap2, i6 f, i6 (w64 (f - 1)), .pointer (some ⟨af, (w64 (f - 1)).toNat * 8, none⟩), .agg (e42E l Y aa).toArray, .slice ao1 j.length cap2, i6 f, .pointer (some ⟨ag, f.toNat * 8, none⟩), .agg (e42E g ab ac).toArray, .pointer (some ⟨aj, f.toNat * 8, none⟩), .pointer (some ⟨ar, (w64 (f - 1)).toNat * 8, none⟩), .own tyLine 42 ao1 cap2 ((j.set f.toNat l).set (w64 (f - 1)).toNat g), m, b6.reg, fB.perm lpr, (fun _ => by first | rfl | rw [aV]), (fun _ => by first | rfl | rw [aV]), (fun _ => by first | rfl | rw [aV]), (fun _ => by first | rfl | rw [aV]), (fun _ => by first | rfl | rw [aV]), (fun _ => by first | rfl | rw [aV]), (fun _ => by first | rfl | rw [aV]), (fun _ => by first | rfl | rw [aV]), (fun _ => by first | rfl | rw [aV]), (fun _ => by first | rfl | rw [aV]), (fun _ => by first | rfl | rw [aV]), (fun _ => by first | rfl | rw [aV]), (fun _ => by first | rfl | rw [aV]), (fun _ => by first | rfl | rw [aV]), (fun _ => by first | rfl | rw [aV]), (fun _ => by first | rfl | rw [aV]), (tn q), (fun _ => nu), kf, (fun _ => fw), (fun _ => fx), (fun _ => fy), (fun _ => cM), (fun _ => fA), (fun _ => cN)⟩
     case hE =>
      intro S hS cO hF hI; refine Go.Sy.hid ?_; intro G hG; obtain ⟨af, Y, aa, ag, ab, ac, aj, ar, aZ, a1, aC, aQ, aD, bh, bt, bi, a8, a2, bj, bk, a9, a3, aR, av, bn, hI⟩ := hI; obtain ⟨m, hFx, hMx, aE, aF, aG, aH, aS, aI, aJ, aT, ba, bl, aK, aL, a4, bb, bA, b0, R, bF, cB, ad, ah, ae, hI⟩ := hI; obtain ⟨ai, bB, hI⟩ := hI; refine hG ?_
      obtain rfl := aE (hS 0 (by decide))
      obtain rfl := aF (hS 1 (by decide))
      obtain rfl := aG (hS 2 (by decide))
      obtain rfl := aH (hS 3 (by decide))
      obtain rfl := aS (hS 4 (by decide))
      obtain rfl := aI (hS 5 (by decide))
      obtain rfl := aJ (hS 6 (by decide))
      obtain rfl := aT (hS 7 (by decide))
      obtain rfl := ba (hS 8 (by decide))
      obtain rfl := bl (hS 9 (by decide))
      obtain rfl := aK (hS 10 (by decide))
      obtain rfl := aL (hS 11 (by decide))
      obtain rfl := a4 (hS 12 (by decide))
      obtain rfl := bb (hS 13 (by decide))
      obtain rfl := bA (hS 14 (by decide))
      obtain rfl := b0 (hS 16 (by decide))
      obtain rfl := cB (hS 17 (by decide))
      have fC : ((j.set f.toNat l).set (w64 (f - 1)).toNat g).length = j.length := by first | assumption | omega | (dsimp only at *; omega) | (simp; try omega)
      have cP : Fr 53 [] [⟨0, [], .slice ao1 ((j.set f.toNat l).set (w64 (f - 1)).toNat g).length cap2⟩, ⟨1, [], i6 u1⟩, ⟨2, [], i6 u2⟩, ⟨3, [], .func (.func fid3) #[] caps4⟩, ⟨8, [], i6 x8⟩, ⟨9, [], i6 f⟩, ⟨37, [], .slice ao1 ((j.set f.toNat l).set (w64 (f - 1)).toNat g).length cap2⟩, ⟨38, [], i6 f⟩, ⟨39, [], .slice ao1 ((j.set f.toNat l).set (w64 (f - 1)).toNat g).length cap2⟩, ⟨40, [], i6 f⟩, ⟨41, [], i6 (w64 (f - 1))⟩, ⟨42, [], .slice ao1 ((j.set f.toNat l).set (w64 (f - 1)).toNat g).length cap2⟩, ⟨43, [], i6 f⟩, ⟨44, [], i6 (w64 (f - 1))⟩, ⟨45, [], .pointer (some ⟨af, (w64 (f - 1)).toNat * 8, none⟩)⟩, ⟨46, [], .agg (e42E l Y aa).toArray⟩, ⟨47, [], .slice ao1 ((j.set f.toNat l).set (w64 (f - 1)).toNat g).length cap2⟩, ⟨48, [], i6 f⟩, ⟨49, [], .pointer (some ⟨ag, f.toNat * 8, none⟩)⟩, ⟨50, [], .agg (e42E g ab ac).toArray⟩, ⟨51, [], .pointer (some ⟨aj, f.toNat * 8, none⟩)⟩, ⟨52, [], .pointer (some ⟨ar, (w64 (f - 1)).toNat * 8, none⟩)⟩] cO := by rw [fC]; exact hFx.reg
      refine j_ (t_ ?_)
      have cQ : Fr 53 [] [⟨0, [], .slice ao1 ((j.set f.toNat l).set (w64 (f - 1)).toNat g).length cap2⟩, ⟨1, [], i6 u1⟩, ⟨2, [], i6 u2⟩, ⟨3, [], .func (.func fid3) #[] caps4⟩, ⟨8, [], i6 x8⟩, ⟨9, [], i6 f⟩] cO := cP.reg
      refine rgB cQ hMx [] [] [(9, i6 (w64 (f - 1)))] ?_; intro hU fD
      exact d_ ⟨⟨w64 (f - 1), (j.set f.toNat l).set (w64 (f - 1)).toNat g⟩, cA.1, cA.2, (fD.reg).anyβ _ (by kernel_rfl), hMx.kp⟩
    refine x_ (y_ (y_ (z_ (j_ (t_ ?_)))))
    have cS : Fr 53 [] [⟨0, [], .slice ao1 j.length cap2⟩, ⟨1, [], i6 u1⟩, ⟨2, [], i6 u2⟩, ⟨3, [], .func (.func fid3) #[] caps4⟩, ⟨8, [], i6 x8⟩] aP := hFx.reg
    refine rgB cS hMx [] [] [(8, i6 (w64 (x8 + 1)))] ?_; intro hV fE
    exact d_ ⟨⟨w64 (x8 + 1), j⟩, cR.1, cR.2, (fE.reg).anyβ _ (by kernel_rfl), hMx.kp⟩
  have cU : Fr 53 [] [⟨0, [], .slice ao1 j.length cap2⟩, ⟨1, [], i6 u1⟩, ⟨2, [], i6 u2⟩, ⟨3, [], .func (.func fid3) #[] caps4⟩, ⟨8, [], i6 x8⟩, ⟨9, [], i6 f⟩] au := bN.reg
  refine sqQH mixed (by kernel_rfl) cm ?_; intro fF cV
  refine q1 cU 18 (i6 f) ?_; intro hW cW
  refine q1 cW 19 (i6 u1) ?_; intro hX cX
  refine q1 cX 20 (.bool (decide (f > u1))) ?_; intro hY cY
  have cZ := cY.reval (d := 20) (c := []) (v := .bool (decide (f > u1))) (by kernel_rfl) (.bool false) (by rw [bI])
  refine q1 cZ 21 (.bool false) ?_; intro h3 c0
  refine qk_ c0 false ?_; intro h4 c1
  refine qk_ c1 false ?_; intro h5 c2
  refine qk_ c2 false ?_; intro h6 c3
  refine qk_ c3 false ?_; intro h7 c4
  refine qk_ c4 false ?_; intro h8 c5
  refine qk_ c5 false ?_; intro h9 c6
  refine qk_ c6 false ?_; intro ia c7
  refine qk_ c7 false ?_; intro ib c8
  refine qk_ c8 false ?_; intro ic c9
  refine qk_ c9 false ?_; intro id da
  refine qk_ da false ?_; intro ie db
  refine qk_ db false ?_; intro ig dc
  refine q1 dc 34 (.bool false) ?_; intro ih b7
  refine qnl (cV _ ?_); intro ii dd
  refine cdF b7 (by kernel_rfl) ?_
  refine x_ (y_ (y_ (z_ (j_ (t_ (rgB b7 dd [] [] [(8, i6 (w64 (x8 + 1)))] ?_)))))); intro ij fG
  exact d_ ⟨⟨w64 (x8 + 1), j⟩, cT.1, cT.2, (fG.reg).anyβ _ (by kernel_rfl), dd.kp⟩
 refine x_ (y_ (y_ (z_ ?_)))
 obtain ⟨fI, fJ⟩ := fH
 refine rN (fn := Try.f81) (v := .tuple #[]) bH (re0 bH (fn := Try.f81) rfl) ?_
 exact ⟨bC, Z, rfl, fJ, C, fI, cf.kp⟩

theorem sswap_walk (u0 : List Line) (u1 : Int) (u2 : Int) (u3 : Int) (u4 : Line → Line → Int) (ao1 : Option Addr) (cap2 : Nat) (fid3 : Nat) (caps4 : Array Value) (B : Nat) (w0 : World) (Z0 : Fz) (Rr : List Res) (Z : Fz) (w : World) (hf5 : ∀ (Z1 : Fz) (w1 : World), Z.le Z1 → Z1.on w1 → ∀ (x0 : Line) (x1 : Line) (xao0 : Option Addr) (xcap0 : Nat) (xao1 : Option Addr) (xcap1 : Nat), SlR t8 Z1 xao0 xcap0 x0.F.Data → SlR t8 Z1 xao1 xcap1 x1.F.Data → Calls Try.prog fid3 (#[.agg #[i6 x0.Time, i6 x0.Bus, i6 x0.F.ID, .bool x0.F.Long, .bool x0.F.Fast, .bool x0.F.Remote, i6 x0.F.Size, .slice xao0 x0.F.Data.length xcap0], .agg #[i6 x1.Time, i6 x1.Bus, i6 x1.F.ID, .bool x1.F.Long, .bool x1.F.Fast, .bool x1.F.Remote, i6 x1.F.Size, .slice xao1 x1.F.Data.length xcap1]] ++ caps4) w1 fun e w2 => e = .returned (i6 (u4 x0 x1)) ∧ Below w1.heap.size w1 w2) (hg6 : ∀ x w, Sem.run Try.prog (callFunc fid3 x) w = .ok (.enter fid3 x) w) (hM0 : Mem B [] w0 Z0 ((.own tyLine 42 ao1 cap2 u0) :: Rr) Z w) (hZ : Z.on w) {K : (List Line) → Prop} (hp : sswap_vc u0 u1 u2 u3 u4 K) : Calls Try.prog 85 #[.slice ao1 u0.length cap2, i6 u1, i6 u2, i6 u3, .func (.func fid3) #[] caps4] w fun e w' => ∃ (r : (List Line)) (Z' : Fz), e = .returned (.tuple #[]) ∧ K r ∧ Fz.le Z Z' ∧ (r.length = u0.length) ∧ Mem B [] w0 Z0 ((.own tyLine 42 ao1 cap2 r) :: Rr) Z' w' := by
 refine enter0 Try.func85 rfl rfl (by kernel_rfl) ?_; intro a0 bp; have m := Fz.le.refl Z
 have bQ := hp (hM0.ownSmall 0 rfl)
 refine sqB bp hM0 [] [] [(10, i6 0)] ?_; intro a9 bq
 apply b_
 have br : Fr 38 [] [⟨0, [], .slice ao1 u0.length cap2⟩, ⟨1, [], i6 u1⟩, ⟨2, [], i6 u2⟩, ⟨3, [], i6 u3⟩, ⟨10, [], i6 0⟩] a9 := bq.reg
 obtain ⟨bR, bS, bT, bU⟩ := bQ
 refine lp (ι := Int × (List Line)) (fun s => [⟨0, [], .slice ao1 s.2.length cap2⟩, ⟨1, [], i6 u1⟩, ⟨2, [], i6 u2⟩, ⟨3, [], i6 u3⟩, ⟨10, [], i6 s.1⟩]) (fun s => ((.own tyLine 42 ao1 cap2 s.2) :: Rr)) (fun s => Z) (fun s => bR s.1 s.2) (fun s => bS s.1 s.2) ⟨0, u0⟩ bT (by exact br.reg) (by exact hM0) ?_
 rintro ⟨b, f⟩ bV bW bX bt bu
 have bf := bU b f bV
 refine s_ (sqB bt bu [] [] [(13, .bool (decide (b < u3)))] ?_); intro ao be
 refine c_ be bf (fun _ bY => ?_) fun _ dm => ?_
 ·
  refine k_ (s_ (b_ ?_))
  have bZ : Fr 38 [] [⟨0, [], .slice ao1 f.length cap2⟩, ⟨1, [], i6 u1⟩, ⟨2, [], i6 u2⟩, ⟨3, [], i6 u3⟩, ⟨10, [], i6 b⟩] ao := be.reg
  obtain ⟨b0, bw⟩ := bY
  obtain ⟨c, b1, b2⟩ := gxq bw (by omega)
  obtain ⟨b3, bx⟩ := b2
  obtain ⟨d, b4, b5⟩ := gxq bx (by omega)
  obtain ⟨b6, b7⟩ := b5
  obtain ⟨b8, bz⟩ := b7
  refine any_invE mixed [[], [], [], [1, 2], [], [], [], [5, 6], [], [], [], [9, 10], [8, 11], [12], [], [], [], [15, 16], [14, 17], [18], [0, 1, 2, 3, 8, 9, 10, 11, 12, 13, 19], [0, 1, 2, 3, 8, 9, 10, 11, 12, 13, 19, 20], [0, 1, 2, 3, 4, 5, 6, 7, 8, 9, 10, 11, 12, 13, 14, 15, 16, 17, 18, 19, 20, 21], [0, 1, 2, 3, 4, 5, 6, 7, 8, 9, 10, 11, 12, 13, 14, 15, 16, 17, 18, 19, 20, 21, 22]] 24 (fun S a w1 => ∃ (I : Nat) (C : Option Addr) (D : Nat) (L : Nat) (E : Option Addr) (H : Nat) (M : Nat) (O : Nat) (ap : Value) (aA : Value) (aB : Value) (aq : Value) (U : Value) (aj : Value) (ak : Value) (V : Value) (aE : Value) (aM : Value) (aN : Value) (aF : Value) (aC : Value) (ar : Value) (aG : Value) (aO : Value) (aP : Value) (aH : Value) (aD : Value) (au : Value) (al : Value) (Q : Value) (a5 : Res), Fz.le Z Z ∧ Fr 38 [] [⟨0, [], .slice ao1 f.length cap2⟩, ⟨1, [], i6 u1⟩, ⟨2, [], i6 u2⟩, ⟨3, [], i6 u3⟩, ⟨10, [], i6 b⟩, ⟨16, [], ap⟩, ⟨17, [], aA⟩, ⟨18, [], aB⟩, ⟨19, [], aq⟩, ⟨20, [], U⟩, ⟨21, [], aj⟩, ⟨22, [], ak⟩, ⟨23, [], V⟩, ⟨24, [], aE⟩, ⟨25, [], aM⟩, ⟨26, [], aN⟩, ⟨27, [], aF⟩, ⟨28, [], aC⟩, ⟨29, [], ar⟩, ⟨30, [], aG⟩, ⟨31, [], aO⟩, ⟨32, [], aP⟩, ⟨33, [], aH⟩, ⟨34, [], aD⟩, ⟨35, [], au⟩, ⟨36, [], al⟩, ⟨37, [], Q⟩] a ∧ Mem B [] w0 Z0 (a5 :: Rr) Z w1 ∧ (S 0 = true → ap = .slice ao1 f.length cap2) ∧ (S 1 = true → aA = i6 u1) ∧ (S 2 = true → aB = i6 b) ∧ (S 3 = true → aq = i6 (w64 (u1 + b))) ∧ (S 4 = true → U = .slice ao1 f.length cap2) ∧ (S 5 = true → aj = i6 u2) ∧ (S 6 = true → ak = i6 b) ∧ (S 7 = true → V = i6 (w64 (u2 + b))) ∧ (S 8 = true → aE = .slice ao1 f.length cap2) ∧ (S 9 = true → aM = i6 u2) ∧ (S 10 = true → aN = i6 b) ∧ (S 11 = true → aF = i6 (w64 (u2 + b))) ∧ (S 12 = true → aC = .pointer (some ⟨I, (w64 (u2 + b)).toNat * 8, none⟩)) ∧ (S 13 = true → ar = .agg (e42E c C D).toArray) ∧ (S 14 = true → aG = .slice ao1 f.length cap2) ∧ (S 15 = true → aO = i6 u1) ∧ (S 16 = true → aP = i6 b) ∧ (S 17 = true → aH = i6 (w64 (u1 + b))) ∧ (S 18 = true → aD = .pointer (some ⟨L, (w64 (u1 + b)).toNat * 8, none⟩)) ∧ (S 19 = true → au = .agg (e42E d E H).toArray) ∧ (S 20 = true → al = .pointer (some ⟨M, (w64 (u1 + b)).toNat * 8, none⟩)) ∧ (S 22 = true → Q = .pointer (some ⟨O, (w64 (u2 + b)).toNat * 8, none⟩)) ∧ (S 21 = false → a5 = .own tyLine 42 ao1 cap2 f) ∧ (S 21 = true → S 23 = false → a5 = .own tyLine 42 ao1 cap2 (f.set (w64 (u1 + b)).toNat c)) ∧ (S 23 = true → a5 = .own tyLine 42 ao1 cap2 ((f.set (w64 (u1 + b)).toNat c).set (w64 (u2 + b)).toNat d)) ∧ (S 12 = true → ao1 = some ⟨I, 0, none⟩) ∧ (S 13 = true → SlR t8 Z C D c.F.Data) ∧ (S 18 = true → ao1 = some ⟨L, 0, none⟩) ∧ (S 19 = true → SlR t8 Z E H d.F.Data) ∧ (S 20 = true → ao1 = some ⟨M, 0, none⟩) ∧ (S 22 = true → ao1 = some ⟨O, 0, none⟩)) ?h0 ?hs ?hE
  case h0 =>
   have b9 := bZ.any 16
   have ca := b9.any 17
   have cb := ca.any 18
   have cc := cb.any 19
   have ce := cc.any 20
   have cf := ce.any 21
   have cg := cf.any 22
   have ch := cg.any 23
   have ci := ch.any 24
   have cj := ci.any 25
   have ck := cj.any 26
   have cl := ck.any 27
   have cm := cl.any 28
   have cn := cm.any 29
   have co := cn.any 30
   have cp := co.any 31
   have cq := cp.any 32
   have cr := cq.any 33
   have cs := cr.any 34
   have ct := cs.any 35
   have cu := ct.any 36
   have cv := cu.any 37
   have cw := (bu.perm lpr).drew
   exact ⟨0, none, 0, 0, none, 0, 0, 0, ao.tmps.getD 16 undef, ao.tmps.getD 17 undef, ao.tmps.getD 18 undef, ao.tmps.getD 19 undef, ao.tmps.getD 20 undef, ao.tmps.getD 21 undef, ao.tmps.getD 22 undef, ao.tmps.getD 23 undef, ao.tmps.getD 24 undef, ao.tmps.getD 25 undef, ao.tmps.getD 26 undef, ao.tmps.getD 27 undef, ao.tmps.getD 28 undef, ao.tmps.getD 29 undef, ao.tmps.getD 30 undef, ao.tmps.getD 31 undef, ao.tmps.getD 32 undef, ao.tmps.getD 33 undef, ao.tmps.getD 34 undef, ao.tmps.getD 35 undef, ao.tmps.getD 36 undef, ao.tmps.getD 37 undef, .own tyLine 42 ao1 cap2 f, Fz.le.refl _, cv.reg, cw, ff, ff, ff, ff, ff, ff, ff, ff, ff, ff, ff, ff, ff, ff, ff, ff, ff, ff, ff, ff, ff, ff, kf, ff, ff, ff, ff, ff, ff, ff, ff⟩
  case hs =>
   intro S hcl i o hil hi hSi hpre a w1 hI; refine Go.Sy.hid ?_; intro G hG; obtain ⟨I, C, D, L, E, H, M, O, ap, aA, aB, aq, U, aj, ak, V, aE, aM, aN, aF, aC, ar, aG, aO, aP, hI⟩ := hI; obtain ⟨aH, aD, au, al, Q, a5, n, hFx, hMx, W, X, Y, av, aa, ab, ac, aw, ad, ae, af, ax, aI, aQ, ag, ah, hI⟩ := hI; obtain ⟨ai, ay, aJ, aR, a7, bi, az, bc, bA, aK, aS, aL, aT, a8, hI⟩ := hI; have bj := hI
   have hcase : i = 0 ∨ i = 1 ∨ i = 2 ∨ i = 3 ∨ i = 4 ∨ i = 5 ∨ i = 6 ∨ i = 7 ∨ i = 8 ∨ i = 9 ∨ i = 10 ∨ i = 11 ∨ i = 12 ∨ i = 13 ∨ i = 14 ∨ i = 15 ∨ i = 16 ∨ i = 17 ∨ i = 18 ∨ i = 19 ∨ i = 20 ∨ i = 21 ∨ i = 22 ∨ i = 23 := by clear hi; omega
   rcases hcase with rfl | rfl | rfl | rfl | rfl | rfl | rfl | rfl | rfl | rfl | rfl | rfl | rfl | rfl | rfl | rfl | rfl | rfl | rfl | rfl | rfl | rfl | rfl | rfl
   ·
    obtain rfl := oj hi
    have a4 := hSi
    have j := ngF hcl 20 0 a4
    have l := ngF hcl 21 0 a4
    have g := ngF hcl 22 0 a4
    have p := ngF hcl 23 0 a4
    obtain rfl := az l
    refine hG (any_step ?_); intro A J hJ
    refine s1 hFx 16 (.slice ao1 f.length cap2) ?_; intro dq cx
    refine nl (qnI (hJ _ _ ?_))
    exact ⟨I, C, D, L, E, H, M, O, .slice ao1 f.length cap2, aA, aB, aq, U, aj, ak, V, aE, aM, aN, aF, aC, ar, aG, aO, aP, aH, aD, au, al, Q, .own tyLine 42 ao1 cap2 f, n, cx.reg, hMx.perm lpr, kf, X, Y, av, aa, ab, ac, aw, ad, ae, af, ax, aI, aQ, ag, ah, ai, ay, aJ, aR, (nt j), (nt g), kf, (fun h _ => nt l h), (nt p), aK, aS, aL, aT, (nt j), (nt g)⟩
   ·
    obtain rfl := oj hi
    have a1 := hSi
    have aZ := ngF hcl 3 1 a1
    have j := ngF hcl 20 1 a1
    have l := ngF hcl 21 1 a1
    have g := ngF hcl 22 1 a1
    have p := ngF hcl 23 1 a1
    obtain rfl := az l
    refine hG (any_step ?_); intro A J hJ
    refine s1 hFx 17 (i6 u1) ?_; intro dr cy
    refine nl (qnI (hJ _ _ ?_))
    exact ⟨I, C, D, L, E, H, M, O, ap, i6 u1, aB, aq, U, aj, ak, V, aE, aM, aN, aF, aC, ar, aG, aO, aP, aH, aD, au, al, Q, .own tyLine 42 ao1 cap2 f, n, cy.reg, hMx.perm lpr, W, kf, Y, (nt aZ), aa, ab, ac, aw, ad, ae, af, ax, aI, aQ, ag, ah, ai, ay, aJ, aR, (nt j), (nt g), kf, (fun h _ => nt l h), (nt p), aK, aS, aL, aT, (nt j), (nt g)⟩
   ·
    obtain rfl := oj hi
    have a2 := hSi
    have aZ := ngF hcl 3 2 a2
    have j := ngF hcl 20 2 a2
    have l := ngF hcl 21 2 a2
    have g := ngF hcl 22 2 a2
    have p := ngF hcl 23 2 a2
    obtain rfl := az l
    refine hG (any_step ?_); intro A J hJ
    refine s1 hFx 18 (i6 b) ?_; intro ds cz
    refine nl (qnI (hJ _ _ ?_))
    exact ⟨I, C, D, L, E, H, M, O, ap, aA, i6 b, aq, U, aj, ak, V, aE, aM, aN, aF, aC, ar, aG, aO, aP, aH, aD, au, al, Q, .own tyLine 42 ao1 cap2 f, n, cz.reg, hMx.perm lpr, W, X, kf, (nt aZ), aa, ab, ac, aw, ad, ae, af, ax, aI, aQ, ag, ah, ai, ay, aJ, aR, (nt j), (nt g), kf, (fun h _ => nt l h), (nt p), aK, aS, aL, aT, (nt j), (nt g)⟩
   ·
    obtain rfl := oj hi
    have a2 := hpre 2 (by kernel_rfl)
    have a1 := hpre 1 (by kernel_rfl)
    have aZ := hSi
    have j := ngF hcl 20 3 aZ
    have l := ngF hcl 21 3 aZ
    have g := ngF hcl 22 3 aZ
    have p := ngF hcl 23 3 aZ
    obtain rfl := X a1
    obtain rfl := Y a2
    obtain rfl := az l
    refine hG (any_step ?_); intro A J hJ
    refine s1 hFx 19 (i6 (w64 (u1 + b))) ?_; intro dt cA
    refine nl (qnI (hJ _ _ ?_))
    exact ⟨I, C, D, L, E, H, M, O, ap, i6 u1, i6 b, i6 (w64 (u1 + b)), U, aj, ak, V, aE, aM, aN, aF, aC, ar, aG, aO, aP, aH, aD, au, al, Q, .own tyLine 42 ao1 cap2 f, n, cA.reg, hMx.perm lpr, W, kf, kf, kf, aa, ab, ac, aw, ad, ae, af, ax, aI, aQ, ag, ah, ai, ay, aJ, aR, (nt j), (nt g), kf, (fun h _ => nt l h), (nt p), aK, aS, aL, aT, (nt j), (nt g)⟩
   ·
    obtain rfl := oj hi
    have bd := hSi
    have g := ngF hcl 22 4 bd
    have p := ngF hcl 23 4 bd
    refine hG (any_step ?_); intro A J hJ
    refine s1 hFx 20 (.slice ao1 f.length cap2) ?_; intro du cB
    refine nl (qnI (hJ _ _ ?_))
    exact ⟨I, C, D, L, E, H, M, O, ap, aA, aB, aq, .slice ao1 f.length cap2, aj, ak, V, aE, aM, aN, aF, aC, ar, aG, aO, aP, aH, aD, au, al, Q, a5, n, cB.reg, hMx.perm lpr, W, X, Y, av, kf, ab, ac, aw, ad, ae, af, ax, aI, aQ, ag, ah, ai, ay, aJ, aR, a7, (nt g), az, bc, (nt p), aK, aS, aL, aT, a8, (nt g)⟩
   ·
    obtain rfl := oj hi
    have ba := hSi
    have a6 := ngF hcl 7 5 ba
    have g := ngF hcl 22 5 ba
    have p := ngF hcl 23 5 ba
    refine hG (any_step ?_); intro A J hJ
    refine s1 hFx 21 (i6 u2) ?_; intro dv cC
    refine nl (qnI (hJ _ _ ?_))
    exact ⟨I, C, D, L, E, H, M, O, ap, aA, aB, aq, U, i6 u2, ak, V, aE, aM, aN, aF, aC, ar, aG, aO, aP, aH, aD, au, al, Q, a5, n, cC.reg, hMx.perm lpr, W, X, Y, av, aa, kf, ac, (nt a6), ad, ae, af, ax, aI, aQ, ag, ah, ai, ay, aJ, aR, a7, (nt g), az, bc, (nt p), aK, aS, aL, aT, a8, (nt g)⟩
   ·
    obtain rfl := oj hi
    have bb := hSi
    have a6 := ngF hcl 7 6 bb
    have g := ngF hcl 22 6 bb
    have p := ngF hcl 23 6 bb
    refine hG (any_step ?_); intro A J hJ
    refine s1 hFx 22 (i6 b) ?_; intro dw cD
    refine nl (qnI (hJ _ _ ?_))
    exact ⟨I, C, D, L, E, H, M, O, ap, aA, aB, aq, U, aj, i6 b, V, aE, aM, aN, aF, aC, ar, aG, aO, aP, aH, aD, au, al, Q, a5, n, cD.reg, hMx.perm lpr, W, X, Y, av, aa, ab, kf, (nt a6), ad, ae, af, ax, aI, aQ, ag, ah, ai, ay, aJ, aR, a7, (nt g), az, bc, (nt p), aK, aS, aL, aT, a8, (nt g)⟩
   ·
    obtain rfl := oj hi
    have bb := hpre 6 (by kernel_rfl)
    have ba := hpre 5 (by kernel_rfl)
    have a6 := hSi
    have g := ngF hcl 22 7 a6
    have p := ngF hcl 23 7 a6
    obtain rfl := ab ba
    obtain rfl := ac bb
    refine hG (any_step ?_); intro A J hJ
    refine s1 hFx 23 (i6 (w64 (u2 + b))) ?_; intro dx cE
    refine nl (qnI (hJ _ _ ?_))
    exact ⟨I, C, D, L, E, H, M, O, ap, aA, aB, aq, U, i6 u2, i6 b, i6 (w64 (u2 + b)), aE, aM, aN, aF, aC, ar, aG, aO, aP, aH, aD, au, al, Q, a5, n, cE.reg, hMx.perm lpr, W, X, Y, av, aa, kf, kf, kf, ad, ae, af, ax, aI, aQ, ag, ah, ai, ay, aJ, aR, a7, (nt g), az, bc, (nt p), aK, aS, aL, aT, a8, (nt g)⟩
   ·
    obtain rfl := oj hi
    have aW := hSi
    have z := ngF hcl 12 8 aW
    have N := ngF hcl 13 12 z
    have j := ngF hcl 20 8 aW
    have l := ngF hcl 21 8 aW
    have g := ngF hcl 22 8 aW
    have p := ngF hcl 23 8 aW
    obtain rfl := az l
    refine hG (any_step ?_); intro A J hJ
    refine s1 hFx 24 (.slice ao1 f.length cap2) ?_; intro dy cF
    refine nl (qnI (hJ _ _ ?_))
    exact ⟨I, C, D, L, E, H, M, O, ap, aA, aB, aq, U, aj, ak, V, .slice ao1 f.length cap2, aM, aN, aF, aC, ar, aG, aO, aP, aH, aD, au, al, Q, .own tyLine 42 ao1 cap2 f, n, cF.reg, hMx.perm lpr, W, X, Y, av, aa, ab, ac, aw, kf, ae, af, ax, (nt z), (nt N), ag, ah, ai, ay, aJ, aR, (nt j), (nt g), kf, (fun h _ => nt l h), (nt p), (nt z), (nt N), aL, aT, (nt j), (nt g)⟩
   ·
    obtain rfl := oj hi
    have aU := hSi
    have R := ngF hcl 11 9 aU
    have z := ngF hcl 12 11 R
    have N := ngF hcl 13 12 z
    have j := ngF hcl 20 9 aU
    have l := ngF hcl 21 9 aU
    have g := ngF hcl 22 9 aU
    have p := ngF hcl 23 9 aU
    obtain rfl := az l
    refine hG (any_step ?_); intro A J hJ
    refine s1 hFx 25 (i6 u2) ?_; intro dz cG
    refine nl (qnI (hJ _ _ ?_))
    exact ⟨I, C, D, L, E, H, M, O, ap, aA, aB, aq, U, aj, ak, V, aE, i6 u2, aN, aF, aC, ar, aG, aO, aP, aH, aD, au, al, Q, .own tyLine 42 ao1 cap2 f, n, cG.reg, hMx.perm lpr, W, X, Y, av, aa, ab, ac, aw, ad, kf, af, (nt R), (nt z), (nt N), ag, ah, ai, ay, aJ, aR, (nt j), (nt g), kf, (fun h _ => nt l h), (nt p), (nt z), (nt N), aL, aT, (nt j), (nt g)⟩
   ·
    obtain rfl := oj hi
    have aV := hSi
    have R := ngF hcl 11 10 aV
    have z := ngF hcl 12 11 R
    have N := ngF hcl 13 12 z
    have j := ngF hcl 20 10 aV
    have l := ngF hcl 21 10 aV
    have g := ngF hcl 22 10 aV
    have p := ngF hcl 23 10 aV
    obtain rfl := az l
    refine hG (any_step ?_); intro A J hJ
    refine s1 hFx 26 (i6 b) ?_; intro dA cH
    refine nl (qnI (hJ _ _ ?_))
    exact ⟨I, C, D, L, E, H, M, O, ap, aA, aB, aq, U, aj, ak, V, aE, aM, i6 b, aF, aC, ar, aG, aO, aP, aH, aD, au, al, Q, .own tyLine 42 ao1 cap2 f, n, cH.reg, hMx.perm lpr, W, X, Y, av, aa, ab, ac, aw, ad, ae, kf, (nt R), (nt z), (nt N), ag, ah, ai, ay, aJ, aR, (nt j), (nt g), kf, (fun h _ => nt l h), (nt p), (nt z), (nt N), aL, aT, (nt j), (nt g)⟩
   ·
    obtain rfl := oj hi
    have aV := hpre 10 (by kernel_rfl)
    have aU := hpre 9 (by kernel_rfl)
    have R := hSi
    have z := ngF hcl 12 11 R
    have N := ngF hcl 13 12 z
    have j := ngF hcl 20 11 R
    have l := ngF hcl 21 11 R
    have g := ngF hcl 22 11 R
    have p := ngF hcl 23 11 R
    obtain rfl := ae aU
    obtain rfl := af aV
    obtain rfl := az l
    refine hG (any_step ?_); intro A J hJ
    refine s1 hFx 27 (i6 (w64 (u2 + b))) ?_; intro dB cI
    refine nl (qnI (hJ _ _ ?_))
    exact ⟨I, C, D, L, E, H, M, O, ap, aA, aB, aq, U, aj, ak, V, aE, i6 u2, i6 b, i6 (w64 (u2 + b)), aC, ar, aG, aO, aP, aH, aD, au, al, Q, .own tyLine 42 ao1 cap2 f, n, cI.reg, hMx.perm lpr, W, X, Y, av, aa, ab, ac, aw, ad, kf, kf, kf, (nt z), (nt N), ag, ah, ai, ay, aJ, aR, (nt j), (nt g), kf, (fun h _ => nt l h), (nt p), (nt z), (nt N), aL, aT, (nt j), (nt g)⟩
   ·
    obtain rfl := oj hi
    have R := hpre 11 (by kernel_rfl)
    have aW := hpre 8 (by kernel_rfl)
    have aV := hcl 11 10 (by kernel_rfl) R
    have aU := hcl 11 9 (by kernel_rfl) R
    have z := hSi
    have N := ngF hcl 13 12 z
    have j := ngF hcl 20 12 z
    have l := ngF hcl 21 12 z
    have g := ngF hcl 22 12 z
    have p := ngF hcl 23 12 z
    obtain rfl := ad aW
    obtain rfl := ae aU
    obtain rfl := af aV
    obtain rfl := ax R
    obtain rfl := az l
    refine hG (any_step ?_); intro A J hJ
    refine ixo hFx hMx 0 (T := tyLine) (xs := f) (w64 (u2 + b)) (by simpa only [List.length_set] using b0) (k := .i64) (e := 42) (bytes := 64) (nog rfl _) rfl (by kernel_rfl) rfl (by kernel_rfl) (by kernel_rfl) rfl (by kernel_rfl) ?_; intro bB dC cJ cK
    refine nl (qnI (hJ _ _ ?_))
    exact ⟨bB, C, D, L, E, H, M, O, ap, aA, aB, aq, U, aj, ak, V, .slice ao1 f.length cap2, i6 u2, i6 b, i6 (w64 (u2 + b)), .pointer (some ⟨bB, (w64 (u2 + b)).toNat * 8, none⟩), ar, aG, aO, aP, aH, aD, au, al, Q, .own tyLine 42 ao1 cap2 f, n, cK.reg, hMx.perm lpr, W, X, Y, av, aa, ab, ac, aw, kf, kf, kf, kf, kf, (nt N), ag, ah, ai, ay, aJ, aR, (nt j), (nt g), kf, (fun h _ => nt l h), (nt p), (fun _ => cJ), (nt N), aL, aT, (nt j), (nt g)⟩
   ·
    obtain rfl := oj hi
    have z := hpre 12 (by kernel_rfl)
    have R := hcl 12 11 (by kernel_rfl) z
    have aW := hcl 12 8 (by kernel_rfl) z
    have aV := hcl 11 10 (by kernel_rfl) R
    have aU := hcl 11 9 (by kernel_rfl) R
    have N := hSi
    have j := ngF hcl 20 13 N
    have l := ngF hcl 21 13 N
    have g := ngF hcl 22 13 N
    have p := ngF hcl 23 13 N
    obtain rfl := ad aW
    obtain rfl := ae aU
    obtain rfl := af aV
    obtain rfl := ax R
    obtain rfl := aI z
    obtain rfl := az l
    refine hG (any_step ?_); intro A J hJ
    have bC := aK z
    obtain ⟨dD, cL, cM⟩ := own_elx hMx 0 (T := tyLine) (xs := f) rfl bC (w64 (u2 + b)).toNat b1
    obtain ⟨bk, bl, rfl, cN⟩ := cL
    refine lc2 hFx 29 8 (e42E c bk bl) cM rfl ?_; intro dE cO
    refine nl (qnI (hJ _ _ ?_))
    exact ⟨I, bk, bl, L, E, H, M, O, ap, aA, aB, aq, U, aj, ak, V, .slice ao1 f.length cap2, i6 u2, i6 b, i6 (w64 (u2 + b)), .pointer (some ⟨I, (w64 (u2 + b)).toNat * 8, none⟩), .agg (e42E c bk bl).toArray, aG, aO, aP, aH, aD, au, al, Q, .own tyLine 42 ao1 cap2 f, n, cO.reg, hMx.perm lpr, W, X, Y, av, aa, ab, ac, aw, kf, kf, kf, kf, kf, kf, ag, ah, ai, ay, aJ, aR, (nt j), (nt g), kf, (fun h _ => nt l h), (nt p), (fun _ => bC), (fun _ => cN), aL, aT, (nt j), (nt g)⟩
   ·
    obtain rfl := oj hi
    have a3 := hSi
    have y := ngF hcl 18 14 a3
    have q := ngF hcl 19 18 y
    have j := ngF hcl 20 19 q
    have l := ngF hcl 21 19 q
    have g := ngF hcl 22 14 a3
    have p := ngF hcl 23 14 a3
    obtain rfl := az l
    refine hG (any_step ?_); intro A J hJ
    refine s1 hFx 30 (.slice ao1 f.length cap2) ?_; intro dF cP
    refine nl (qnI (hJ _ _ ?_))
    exact ⟨I, C, D, L, E, H, M, O, ap, aA, aB, aq, U, aj, ak, V, aE, aM, aN, aF, aC, ar, .slice ao1 f.length cap2, aO, aP, aH, aD, au, al, Q, .own tyLine 42 ao1 cap2 f, n, cP.reg, hMx.perm lpr, W, X, Y, av, aa, ab, ac, aw, ad, ae, af, ax, aI, aQ, kf, ah, ai, ay, (nt y), (nt q), (nt j), (nt g), kf, (fun h _ => nt l h), (nt p), aK, aS, (nt y), (nt q), (nt j), (nt g)⟩
   ·
    obtain rfl := oj hi
    have aX := hSi
    have P := ngF hcl 17 15 aX
    have y := ngF hcl 18 17 P
    have q := ngF hcl 19 18 y
    have j := ngF hcl 20 19 q
    have l := ngF hcl 21 19 q
    have g := ngF hcl 22 15 aX
    have p := ngF hcl 23 15 aX
    obtain rfl := az l
    refine hG (any_step ?_); intro A J hJ
    refine s1 hFx 31 (i6 u1) ?_; intro dG cQ
    refine nl (qnI (hJ _ _ ?_))
    exact ⟨I, C, D, L, E, H, M, O, ap, aA, aB, aq, U, aj, ak, V, aE, aM, aN, aF, aC, ar, aG, i6 u1, aP, aH, aD, au, al, Q, .own tyLine 42 ao1 cap2 f, n, cQ.reg, hMx.perm lpr, W, X, Y, av, aa, ab, ac, aw, ad, ae, af, ax, aI, aQ, ag, kf, ai, (nt P), (nt y), (nt q), (nt j), (nt g), kf, (fun h _ => nt l h), (nt p), aK, aS, (nt y), (nt q), (nt j), (nt g)⟩
   ·
    obtain rfl := oj hi
    have aY := hSi
    have P := ngF hcl 17 16 aY
    have y := ngF hcl 18 17 P
    have q := ngF hcl 19 18 y
    have j := ngF hcl 20 19 q
    have l := ngF hcl 21 19 q
    have g := ngF hcl 22 16 aY
    have p := ngF hcl 23 16 aY
    obtain rfl := az l
    refine hG (any_step ?_); intro A J hJ
    refine s1 hFx 32 (i6 b) ?_; intro dH cR
    refine nl (qnI (hJ _ _ ?_))
    exact ⟨I, C, D, L, E, H, M, O, ap, aA, aB, aq, U, aj, ak, V, aE, aM, aN, aF, aC, ar, aG, aO, i6 b, aH, aD, au, al, Q, .own tyLine 42 ao1 cap2 f, n, cR.reg, hMx.perm lpr, W, X, Y, av, aa, ab, ac, aw, ad, ae, af, ax, aI, aQ, ag, ah, kf, (nt P), (nt y), (nt q), (nt j), (nt g), kf, (fun h _ => nt l h), (nt p), aK, aS, (nt y), (nt q), (nt j), (nt g)⟩
   ·
    obtain rfl := oj hi
    have aY := hpre 16 (by kernel_rfl)
    have aX := hpre 15 (by kernel_rfl)
    have P := hSi
    have y := ngF hcl 18 17 P
    have q := ngF hcl 19 18 y
    have j := ngF hcl 20 19 q
    have l := ngF hcl 21 19 q
    have g := ngF hcl 22 17 P
    have p := ngF hcl 23 17 P
    obtain rfl := ah aX
    obtain rfl := ai aY
    obtain rfl := az l
    refine hG (any_step ?_); intro A J hJ
    refine s1 hFx 33 (i6 (w64 (u1 + b))) ?_; intro dI cS
    refine nl (qnI (hJ _ _ ?_))
    exact ⟨I, C, D, L, E, H, M, O, ap, aA, aB, aq, U, aj, ak, V, aE, aM, aN, aF, aC, ar, aG, i6 u1, i6 b, i6 (w64 (u1 + b)), aD, au, al, Q, .own tyLine 42 ao1 cap2 f, n, cS.reg, hMx.perm lpr, W, X, Y, av, aa, ab, ac, aw, ad, ae, af, ax, aI, aQ, ag, kf, kf, kf, (nt y), (nt q), (nt j), (nt g), kf, (fun h _ => nt l h), (nt p), aK, aS, (nt y), (nt q), (nt j), (nt g)⟩
   ·
    obtain rfl := oj hi
    have P := hpre 17 (by kernel_rfl)
    have a3 := hpre 14 (by kernel_rfl)
    have aY := hcl 17 16 (by kernel_rfl) P
    have aX := hcl 17 15 (by kernel_rfl) P
    have y := hSi
    have q := ngF hcl 19 18 y
    have j := ngF hcl 20 19 q
    have l := ngF hcl 21 19 q
    have g := ngF hcl 22 18 y
    have p := ngF hcl 23 18 y
    obtain rfl := ag a3
    obtain rfl := ah aX
    obtain rfl := ai aY
    obtain rfl := ay P
    obtain rfl := az l
    refine hG (any_step ?_); intro A J hJ
    refine ixo hFx hMx 0 (T := tyLine) (xs := f) (w64 (u1 + b)) (by simpa only [List.length_set] using b3) (k := .i64) (e := 42) (bytes := 64) (nog rfl _) rfl (by kernel_rfl) rfl (by kernel_rfl) (by kernel_rfl) rfl (by kernel_rfl) ?_; intro bD dJ cT cU
    refine nl (qnI (hJ _ _ ?_))
    exact ⟨I, C, D, bD, E, H, M, O, ap, aA, aB, aq, U, aj, ak, V, aE, aM, aN, aF, aC, ar, .slice ao1 f.length cap2, i6 u1, i6 b, i6 (w64 (u1 + b)), .pointer (some ⟨bD, (w64 (u1 + b)).toNat * 8, none⟩), au, al, Q, .own tyLine 42 ao1 cap2 f, n, cU.reg, hMx.perm lpr, W, X, Y, av, aa, ab, ac, aw, ad, ae, af, ax, aI, aQ, kf, kf, kf, kf, kf, (nt q), (nt j), (nt g), kf, (fun h _ => nt l h), (nt p), aK, aS, (fun _ => cT), (nt q), (nt j), (nt g)⟩
   ·
    obtain rfl := oj hi
    have y := hpre 18 (by kernel_rfl)
    have P := hcl 18 17 (by kernel_rfl) y
    have a3 := hcl 18 14 (by kernel_rfl) y
    have aY := hcl 17 16 (by kernel_rfl) P
    have aX := hcl 17 15 (by kernel_rfl) P
    have q := hSi
    have j := ngF hcl 20 19 q
    have l := ngF hcl 21 19 q
    have g := ngF hcl 22 19 q
    have p := ngF hcl 23 19 q
    obtain rfl := ag a3
    obtain rfl := ah aX
    obtain rfl := ai aY
    obtain rfl := ay P
    obtain rfl := aJ y
    obtain rfl := az l
    refine hG (any_step ?_); intro A J hJ
    have bE := aL y
    obtain ⟨dK, cV, cW⟩ := own_elx hMx 0 (T := tyLine) (xs := f) rfl bE (w64 (u1 + b)).toNat b4
    obtain ⟨bm, bn, rfl, cX⟩ := cV
    refine lc2 hFx 35 8 (e42E d bm bn) cW rfl ?_; intro dL cY
    refine nl (qnI (hJ _ _ ?_))
    exact ⟨I, C, D, L, bm, bn, M, O, ap, aA, aB, aq, U, aj, ak, V, aE, aM, aN, aF, aC, ar, .slice ao1 f.length cap2, i6 u1, i6 b, i6 (w64 (u1 + b)), .pointer (some ⟨L, (w64 (u1 + b)).toNat * 8, none⟩), .agg (e42E d bm bn).toArray, al, Q, .own tyLine 42 ao1 cap2 f, n, cY.reg, hMx.perm lpr, W, X, Y, av, aa, ab, ac, aw, ad, ae, af, ax, aI, aQ, kf, kf, kf, kf, kf, kf, (nt j), (nt g), kf, (fun h _ => nt l h), (nt p), aK, aS, (fun _ => bE), (fun _ => cX), (nt j), (nt g)⟩
   ·
    obtain rfl := oj hi
    have q := hpre 19 (by kernel_rfl)
    have N := hpre 13 (by kernel_rfl)
    have z := hpre 12 (by kernel_rfl)
    have R := hpre 11 (by kernel_rfl)
    have aV := hpre 10 (by kernel_rfl)
    have aU := hpre 9 (by kernel_rfl)
    have aW := hpre 8 (by kernel_rfl)
    have aZ := hpre 3 (by kernel_rfl)
    have a2 := hpre 2 (by kernel_rfl)
    have a1 := hpre 1 (by kernel_rfl)
    have a4 := hpre 0 (by kernel_rfl)
    have y := hcl 19 18 (by kernel_rfl) q
    have P := hcl 18 17 (by kernel_rfl) y
    have a3 := hcl 18 14 (by kernel_rfl) y
    have aY := hcl 17 16 (by kernel_rfl) P
    have aX := hcl 17 15 (by kernel_rfl) P
    have j := hSi
    have l := ngF hcl 21 20 j
    have g := ngF hcl 22 20 j
    have p := ngF hcl 23 20 j
    obtain rfl := W a4
    obtain rfl := X a1
    obtain rfl := Y a2
    obtain rfl := av aZ
    obtain rfl := ad aW
    obtain rfl := ae aU
    obtain rfl := af aV
    obtain rfl := ax R
    obtain rfl := aI z
    obtain rfl := aQ N
    obtain rfl := ag a3
    obtain rfl := ah aX
    obtain rfl := ai aY
    obtain rfl := ay P
    obtain rfl := aJ y
    obtain rfl := aR q
    obtain rfl := az l
    refine hG (any_step ?_); intro A J hJ
    have cZ := aK z
    have c0 := aS N
    have c1 := aL y
    have c2 := aT q
    refine ixo hFx hMx 0 (T := tyLine) (xs := f) (w64 (u1 + b)) (by simpa only [List.length_set] using b6) (k := .i64) (e := 42) (bytes := 64) (nog rfl _) rfl (by kernel_rfl) rfl (by kernel_rfl) (by kernel_rfl) rfl (by kernel_rfl) ?_; intro bF dM c3 c4
    refine nl (qnI (hJ _ _ ?_))
    exact ⟨I, C, D, L, E, H, bF, O, .slice ao1 f.length cap2, i6 u1, i6 b, i6 (w64 (u1 + b)), U, aj, ak, V, .slice ao1 f.length cap2, i6 u2, i6 b, i6 (w64 (u2 + b)), .pointer (some ⟨I, (w64 (u2 + b)).toNat * 8, none⟩), .agg (e42E c C D).toArray, .slice ao1 f.length cap2, i6 u1, i6 b, i6 (w64 (u1 + b)), .pointer (some ⟨L, (w64 (u1 + b)).toNat * 8, none⟩), .agg (e42E d E H).toArray, .pointer (some ⟨bF, (w64 (u1 + b)).toNat * 8, none⟩), Q, .own tyLine 42 ao1 cap2 f, n, c4.reg, hMx.perm lpr, kf, kf, kf, kf, aa, ab, ac, aw, kf, kf, kf, kf, kf, kf, kf, kf, kf, kf, kf, kf, kf, (nt g), kf, (fun h _ => nt l h), (nt p), (fun _ => cZ), (fun _ => c0), (fun _ => c1), (fun _ => c2), (fun _ => c3), (nt g)⟩
   ·
    obtain rfl := oj hi
    have j := hpre 20 (by kernel_rfl)
    have q := hpre 19 (by kernel_rfl)
    have N := hpre 13 (by kernel_rfl)
    have z := hpre 12 (by kernel_rfl)
    have R := hpre 11 (by kernel_rfl)
    have aV := hpre 10 (by kernel_rfl)
    have aU := hpre 9 (by kernel_rfl)
    have aW := hpre 8 (by kernel_rfl)
    have aZ := hpre 3 (by kernel_rfl)
    have a2 := hpre 2 (by kernel_rfl)
    have a1 := hpre 1 (by kernel_rfl)
    have a4 := hpre 0 (by kernel_rfl)
    have y := hcl 19 18 (by kernel_rfl) q
    have P := hcl 18 17 (by kernel_rfl) y
    have a3 := hcl 18 14 (by kernel_rfl) y
    have aY := hcl 17 16 (by kernel_rfl) P
    have aX := hcl 17 15 (by kernel_rfl) P
    have l := hSi
    have g := ngF hcl 22 21 l
    have p := ngF hcl 23 21 l
    obtain rfl := W a4
    obtain rfl := X a1
    obtain rfl := Y a2
    obtain rfl := av aZ
    obtain rfl := ad aW
    obtain rfl := ae aU
    obtain rfl := af aV
    obtain rfl := ax R
    obtain rfl := aI z
    obtain rfl := aQ N
    obtain rfl := ag a3
    obtain rfl := ah aX
    obtain rfl := ai aY
    obtain rfl := ay P
    obtain rfl := aJ y
    obtain rfl := aR q
    obtain rfl := a7 j
    obtain rfl := az l
    refine hG (any_step ?_); intro A J hJ
    have c5 := aK z
    have bG := aS N
    have c6 := aL y
    have c7 := aT q
    have bH := a8 j
    refine sox hFx hMx 0 bH (T := tyLine) (xs := f) (w64 (u1 + b)).toNat c (u := .agg (e42E c C D).toArray) (nog rfl _) rfl rfl (by kernel_rfl) rfl (by kernel_rfl) rfl (by kernel_rfl) (by first | omega | (simp only [List.length_set] at *; omega)) ⟨C, D, rfl, bG⟩ ?_; intro dN c8
    refine nl (qnI (hJ _ _ ?_))
    exact ⟨I, C, D, L, E, H, M, O, .slice ao1 f.length cap2, i6 u1, i6 b, i6 (w64 (u1 + b)), U, aj, ak, V, .slice ao1 f.length cap2, i6 u2, i6 b, i6 (w64 (u2 + b)), .pointer (some ⟨I, (w64 (u2 + b)).toNat * 8, none⟩), .agg (e42E c C D).toArray, .slice ao1 f.length cap2, i6 u1, i6 b, i6 (w64 (u1 + b)), .pointer (some ⟨L, (w64 (u1 + b)).toNat * 8, none⟩), .agg (e42E d E H).toArray, .pointer (some ⟨M, (w64 (u1 + b)).toNat * 8, none⟩), Q, .own tyLine 42 ao1 cap2 (f.set (w64 (u1 + b)).toNat c), n, hFx.reg, c8.perm lpr, kf, kf, kf, kf, aa, ab, ac, aw, kf, kf, kf, kf, kf, kf, kf, kf, kf, kf, kf, kf, kf, (nt g), nu, kf2, (nt p), (fun _ => c5), (fun _ => bG), (fun _ => c6), (fun _ => c7), (fun _ => bH), (nt g)⟩
   ·
    obtain rfl := oj hi
    have l := hpre 21 (by kernel_rfl)
    have j := hpre 20 (by kernel_rfl)
    have q := hpre 19 (by kernel_rfl)
    have y := hpre 18 (by kernel_rfl)
    have P := hpre 17 (by kernel_rfl)
    have aY := hpre 16 (by kernel_rfl)
    have aX := hpre 15 (by kernel_rfl)
    have a3 := hpre 14 (by kernel_rfl)
    have N := hpre 13 (by kernel_rfl)
    have z := hpre 12 (by kernel_rfl)
    have R := hpre 11 (by kernel_rfl)
    have aV := hpre 10 (by kernel_rfl)
    have aU := hpre 9 (by kernel_rfl)
    have aW := hpre 8 (by kernel_rfl)
    have a6 := hpre 7 (by kernel_rfl)
    have bb := hpre 6 (by kernel_rfl)
    have ba := hpre 5 (by kernel_rfl)
    have bd := hpre 4 (by kernel_rfl)
    have aZ := hpre 3 (by kernel_rfl)
    have a2 := hpre 2 (by kernel_rfl)
    have a1 := hpre 1 (by kernel_rfl)
    have a4 := hpre 0 (by kernel_rfl)
    have g := hSi
    have p := ngF hcl 23 22 g
    obtain rfl := W a4
    obtain rfl := X a1
    obtain rfl := Y a2
    obtain rfl := av aZ
    obtain rfl := aa bd
    obtain rfl := ab ba
    obtain rfl := ac bb
    obtain rfl := aw a6
    obtain rfl := ad aW
    obtain rfl := ae aU
    obtain rfl := af aV
    obtain rfl := ax R
    obtain rfl := aI z
    obtain rfl := aQ N
    obtain rfl := ag a3
    obtain rfl := ah aX
    obtain rfl := ai aY
    obtain rfl := ay P
    obtain rfl := aJ y
    obtain rfl := aR q
    obtain rfl := a7 j
    obtain rfl := bc l p
    refine hG (any_step ?_); intro A J hJ
    have c9 := aK z
    have da := aS N
    have db := aL y
    have dc := aT q
    have dd := a8 j
    have am : (f.set (w64 (u1 + b)).toNat c).length = f.length := by first | assumption | omega | (dsimp only at *; omega) | (simp; try omega)
    have bI : Fr 38 [] [⟨0, [], .slice ao1 (f.set (w64 (u1 + b)).toNat c).length cap2⟩, ⟨1, [], i6 u1⟩, ⟨2, [], i6 u2⟩, ⟨3, [], i6 u3⟩, ⟨10, [], i6 b⟩, ⟨16, [], .slice ao1 (f.set (w64 (u1 + b)).toNat c).length cap2⟩, ⟨17, [], i6 u1⟩, ⟨18, [], i6 b⟩, ⟨19, [], i6 (w64 (u1 + b))⟩, ⟨20, [], .slice ao1 (f.set (w64 (u1 + b)).toNat c).length cap2⟩, ⟨21, [], i6 u2⟩, ⟨22, [], i6 b⟩, ⟨23, [], i6 (w64 (u2 + b))⟩, ⟨24, [], .slice ao1 (f.set (w64 (u1 + b)).toNat c).length cap2⟩, ⟨25, [], i6 u2⟩, ⟨26, [], i6 b⟩, ⟨27, [], i6 (w64 (u2 + b))⟩, ⟨28, [], .pointer (some ⟨I, (w64 (u2 + b)).toNat * 8, none⟩)⟩, ⟨29, [], .agg (e42E c C D).toArray⟩, ⟨30, [], .slice ao1 (f.set (w64 (u1 + b)).toNat c).length cap2⟩, ⟨31, [], i6 u1⟩, ⟨32, [], i6 b⟩, ⟨33, [], i6 (w64 (u1 + b))⟩, ⟨34, [], .pointer (some ⟨L, (w64 (u1 + b)).toNat * 8, none⟩)⟩, ⟨35, [], .agg (e42E d E H).toArray⟩, ⟨36, [], .pointer (some ⟨M, (w64 (u1 + b)).toNat * 8, none⟩)⟩, ⟨37, [], Q⟩] a := by rw [am]; exact hFx.reg
    refine ixo bI hMx 0 (T := tyLine) (xs := f.set (w64 (u1 + b)).toNat c) (w64 (u2 + b)) (by simpa only [List.length_set] using b8) (k := .i64) (e := 42) (bytes := 64) (nog rfl _) rfl (by kernel_rfl) rfl (by kernel_rfl) (by kernel_rfl) rfl (by kernel_rfl) ?_; intro bJ dO de bK
    refine nl (qnI (hJ _ _ ?_))
    rw [am] at bK
    exact ⟨I, C, D, L, E, H, M, bJ, .slice ao1 f.length cap2, i6 u1, i6 b, i6 (w64 (u1 + b)), .slice ao1 f.length cap2, i6 u2, i6 b, i6 (w64 (u2 + b)), .slice ao1 f.length cap2, i6 u2, i6 b, i6 (w64 (u2 + b)), .pointer (some ⟨I, (w64 (u2 + b)).toNat * 8, none⟩), .agg (e42E c C D).toArray, .slice ao1 f.length cap2, i6 u1, i6 b, i6 (w64 (u1 + b)), .pointer (some ⟨L, (w64 (u1 + b)).toNat * 8, none⟩), .agg (e42E d E H).toArray, .pointer (some ⟨M, (w64 (u1 + b)).toNat * 8, none⟩), .pointer (some ⟨bJ, (w64 (u2 + b)).toNat * 8, none⟩), .own tyLine 42 ao1 cap2 (f.set (w64 (u1 + b)).toNat c), n, bK.reg, hMx.perm lpr, (fun _ => by first | rfl | rw [am]), (fun _ => by first | rfl | rw [am]), (fun _ => by first | rfl | rw [am]), (fun _ => by first | rfl | rw [am]), (fun _ => by first | rfl | rw [am]), (fun _ => by first | rfl | rw [am]), (fun _ => by first | rfl | rw [am]), (fun _ => by first | rfl | rw [am]), (fun _ => by first | rfl | rw [am]), (fun _ => by first | rfl | rw [am]), (fun _ => by first | rfl | rw [am]), (fun _ => by first | rfl | rw [am]), (fun _ => by first | rfl | rw [am]), (fun _ => by first | rfl | rw [am]), (fun _ => by first | rfl | rw [am]), (fun _ => by first | rfl | rw [am]), (fun _ => by first | rfl | rw [am]), (fun _ => by first | rfl | rw [am]), (fun _ => by first | rfl | rw [am]), (fun _ => by first | rfl | rw [am]), (fun _ => by first | rfl | rw [am]), (fun _ => by first | rfl | rw [am]), (tn l), kf2, (nt p), (fun _ => c9), (fun _ => da), (fun _ => db), (fun _ => dc), (fun _ => dd), (fun _ => de)⟩
   obtain rfl := oj hi
   have g := hpre 22 (by kernel_rfl)
   have l := hpre 21 (by kernel_rfl)
   have j := hpre 20 (by kernel_rfl)
   have q := hpre 19 (by kernel_rfl)
   have y := hpre 18 (by kernel_rfl)
   have P := hpre 17 (by kernel_rfl)
   have aY := hpre 16 (by kernel_rfl)
   have aX := hpre 15 (by kernel_rfl)
   have a3 := hpre 14 (by kernel_rfl)
   have N := hpre 13 (by kernel_rfl)
   have z := hpre 12 (by kernel_rfl)
   have R := hpre 11 (by kernel_rfl)
   have aV := hpre 10 (by kernel_rfl)
   have aU := hpre 9 (by kernel_rfl)
   have aW := hpre 8 (by kernel_rfl)
   have a6 := hpre 7 (by kernel_rfl)
   have bb := hpre 6 (by kernel_rfl)
   have ba := hpre 5 (by kernel_rfl)
   have bd := hpre 4 (by kernel_rfl)
   have aZ := hpre 3 (by kernel_rfl)
   have a2 := hpre 2 (by kernel_rfl)
   have a1 := hpre 1 (by kernel_rfl)
   have a4 := hpre 0 (by kernel_rfl)
   have p := hSi
   obtain rfl := W a4
   obtain rfl := X a1
   obtain rfl := Y a2
   obtain rfl := av aZ
   obtain rfl := aa bd
   obtain rfl := ab ba
   obtain rfl := ac bb
   obtain rfl := aw a6
   obtain rfl := ad aW
   obtain rfl := ae aU
   obtain rfl := af aV
   obtain rfl := ax R
   obtain rfl := aI z
   obtain rfl := aQ N
   obtain rfl := ag a3
   obtain rfl := ah aX
   obtain rfl := ai aY
   obtain rfl := ay P
   obtain rfl := aJ y
   obtain rfl := aR q
   obtain rfl := a7 j
   obtain rfl := bi g
   obtain rfl := bc l p
   refine hG (any_step ?_); intro A J hJ
   have df := aK z
   have dg := aS N
   have dh := aL y
   have bL := aT q
   have di := a8 j
   have bM := bj g
   have an : (f.set (w64 (u1 + b)).toNat c).length = f.length := by first | assumption | omega | (dsimp only at *; omega) | (simp; try omega)
   have bo : Fr 38 [] [⟨0, [], .slice ao1 (f.set (w64 (u1 + b)).toNat c).length cap2⟩, ⟨1, [], i6 u1⟩, ⟨2, [], i6 u2⟩, ⟨3, [], i6 u3⟩, ⟨10, [], i6 b⟩, ⟨16, [], .slice ao1 (f.set (w64 (u1 + b)).toNat c).length cap2⟩, ⟨17, [], i6 u1⟩, ⟨18, [], i6 b⟩, ⟨19, [], i6 (w64 (u1 + b))⟩, ⟨20, [], .slice ao1 (f.set (w64 (u1 + b)).toNat c).length cap2⟩, ⟨21, [], i6 u2⟩, ⟨22, [], i6 b⟩, ⟨23, [], i6 (w64 (u2 + b))⟩, ⟨24, [], .slice ao1 (f.set (w64 (u1 + b)).toNat c).length cap2⟩, ⟨25, [], i6 u2⟩, ⟨26, [], i6 b⟩, ⟨27, [], i6 (w64 (u2 + b))⟩, ⟨28, [], .pointer (some ⟨I, (w64 (u2 + b)).toNat * 8, none⟩)⟩, ⟨29, [], .agg (e42E c C D).toArray⟩, ⟨30, [], .slice ao1 (f.set (w64 (u1 + b)).toNat c).length cap2⟩, ⟨31, [], i6 u1⟩, ⟨32, [], i6 b⟩, ⟨33, [], i6 (w64 (u1 + b))⟩, ⟨34, [], .pointer (some ⟨L, (w64 (u1 + b)).toNat * 8, none⟩)⟩, ⟨35, [], .agg (e42E d E H).toArray⟩, ⟨36, [], .pointer (some ⟨M, (w64 (u1 + b)).toNat * 8, none⟩)⟩, ⟨37, [], .pointer (some ⟨O, (w64 (u2 + b)).toNat * 8, none⟩)⟩] a := by rw [an]; exact hFx.reg
   refine sox bo hMx 0 bM (T := tyLine) (xs := f.set (w64 (u1 + b)).toNat c) (w64 (u2 + b)).toNat d (u := .agg (e42E d E H).toArray) (nog rfl _) rfl rfl (by kernel_rfl) rfl (by kernel_rfl) rfl (by kernel_rfl) (by first | omega | (simp only [List.length_set] at *; omega)) ⟨E, H, rfl, bL⟩ ?_; intro dP dj
   refine nl (qnI (hJ _ _ ?_))
   rw [an] at bo
   exact ⟨I, C, D, L, E, H, M, O, .slice ao1 f.length cap2, i6 u1, i6 b, i6 (w64 (u1 + b)), .slice ao1 f.length cap2, i6 u2, i6 b, i6 (w64 (u2 + b)), .slice ao1 f.length cap2, i6 u2, i6 b, i6 (w64 (u2 + b)), .pointer (some ⟨I, (w64 (u2 + b)).toNat * 8, none⟩), .agg (e42E c C D).toArray, .slice ao1 f.length cap2, i6 u1, i6 b, i6 (w64 (u1 + b)), .pointer (some ⟨L, (w64 (u1 + b)).toNat * 8, none⟩), .agg (e42E d E H).toArray, .pointer (some ⟨M, (w64 (u1 + b)).toNat * 8, none⟩), .pointer (some ⟨O, (w64 (u2 + b)).toNat * 8, none⟩), .own tyLine 42 ao1 cap2 ((f.set (w64 (u1 + b)).toNat c).set (w64 (u2 + b)).toNat d), n, bo.reg, dj.perm lpr, (fun _ => by first | rfl | rw [an]), (fun _ => by first | rfl | rw [an]), (fun _ => by first | rfl | rw [an]), (fun _ => by first | rfl | rw [an]), (fun _ => by first | rfl | rw [an]), (fun _ => by first | rfl | rw [an]), (fun _ => by first | rfl | rw [an]), (fun _ => by first | rfl | rw [an]), (fun _ => by first | rfl | rw [an]), (fun _ => by first | rfl | rw [an]), (fun _ => by first | rfl | rw [an]), (fun _ => by first | rfl | rw [an]), (fun _ => by first | rfl | rw [an]), (fun _ => by first | rfl | rw [an]), (fun _ => by first | rfl | rw [an]), (fun _ => by first | rfl | rw [an]), (fun _ => by first | rfl | rw [an]), (fun _ => by first | rfl | rw [an]), (fun _ => by first | rfl | rw [an]), (fun _ => by first | rfl | rw [an]), (fun _ => by first | rfl | rw [an]), (fun _ => by first | rfl | rw [an]), (tn l), (fun _ => nu), kf, (fun _ => df), (fun _ => dg), (fun _ => dh), (fun _ => bL), (fun _ => di), (fun _ => bM)⟩
  case hE =>
   intro S hS bN dQ hI; refine Go.Sy.hid ?_; intro G hG; obtain ⟨I, C, D, L, E, H, M, O, ap, aA, aB, aq, U, aj, ak, V, aE, aM, aN, aF, aC, ar, aG, aO, aP, hI⟩ := hI; obtain ⟨aH, aD, au, al, Q, a5, n, hFx, hMx, W, X, Y, av, aa, ab, ac, aw, ad, ae, af, ax, aI, aQ, ag, ah, hI⟩ := hI; obtain ⟨ai, ay, aJ, aR, a7, bi, az, bc, bA, aK, aS, aL, aT, a8, hI⟩ := hI; refine hG ?_
   obtain rfl := W (hS 0 (by decide))
   obtain rfl := X (hS 1 (by decide))
   obtain rfl := Y (hS 2 (by decide))
   obtain rfl := av (hS 3 (by decide))
   obtain rfl := aa (hS 4 (by decide))
   obtain rfl := ab (hS 5 (by decide))
   obtain rfl := ac (hS 6 (by decide))
   obtain rfl := aw (hS 7 (by decide))
   obtain rfl := ad (hS 8 (by decide))
   obtain rfl := ae (hS 9 (by decide))
   obtain rfl := af (hS 10 (by decide))
   obtain rfl := ax (hS 11 (by decide))
   obtain rfl := aI (hS 12 (by decide))
   obtain rfl := aQ (hS 13 (by decide))
   obtain rfl := ag (hS 14 (by decide))
   obtain rfl := ah (hS 15 (by decide))
   obtain rfl := ai (hS 16 (by decide))
   obtain rfl := ay (hS 17 (by decide))
   obtain rfl := aJ (hS 18 (by decide))
   obtain rfl := aR (hS 19 (by decide))
   obtain rfl := a7 (hS 20 (by decide))
   obtain rfl := bi (hS 22 (by decide))
   obtain rfl := bA (hS 23 (by decide))
   have dk : ((f.set (w64 (u1 + b)).toNat c).set (w64 (u2 + b)).toNat d).length = f.length := by first | assumption | omega | (dsimp only at *; omega) | (simp; try omega)
   have bO : Fr 38 [] [⟨0, [], .slice ao1 ((f.set (w64 (u1 + b)).toNat c).set (w64 (u2 + b)).toNat d).length cap2⟩, ⟨1, [], i6 u1⟩, ⟨2, [], i6 u2⟩, ⟨3, [], i6 u3⟩, ⟨10, [], i6 b⟩, ⟨16, [], .slice ao1 ((f.set (w64 (u1 + b)).toNat c).set (w64 (u2 + b)).toNat d).length cap2⟩, ⟨17, [], i6 u1⟩, ⟨18, [], i6 b⟩, ⟨19, [], i6 (w64 (u1 + b))⟩, ⟨20, [], .slice ao1 ((f.set (w64 (u1 + b)).toNat c).set (w64 (u2 + b)).toNat d).length cap2⟩, ⟨21, [], i6 u2⟩, ⟨22, [], i6 b⟩, ⟨23, [], i6 (w64 (u2 + b))⟩, ⟨24, [], .slice ao1 ((f.set (w64 (u1 + b)).toNat c).set (w64 (u2 + b)).toNat d).length cap2⟩, ⟨25, [], i6 u2⟩, ⟨26, [], i6 b⟩, ⟨27, [], i6 (w64 (u2 + b))⟩, ⟨28, [], .pointer (some ⟨I, (w64 (u2 + b)).toNat * 8, none⟩)⟩, ⟨29, [], .agg (e42E c C D).toArray⟩, ⟨30, [], .slice ao1 ((f.set (w64 (u1 + b)).toNat c).set (w64 (u2 + b)).toNat d).length cap2⟩, ⟨31, [], i6 u1⟩, ⟨32, [], i6 b⟩, ⟨33, [], i6 (w64 (u1 + b))⟩, ⟨34, [], .pointer (some ⟨L, (w64 (u1 + b)).toNat * 8, none⟩)⟩, ⟨35, [], .agg (e42E d E H).toArray⟩, ⟨36, [], .pointer (some ⟨M, (w64 (u1 + b)).toNat * 8, none⟩)⟩, ⟨37, [], .pointer (some ⟨O, (w64 (u2 + b)).toNat * 8, none⟩)⟩] bN := by rw [dk]; exact hFx.reg
   refine j_ (t_ ?_)
   have bP : Fr 38 [] [⟨0, [], .slice ao1 ((f.set (w64 (u1 + b)).toNat c).set (w64 (u2 + b)).toNat d).length cap2⟩, ⟨1, [], i6 u1⟩, ⟨2, [], i6 u2⟩, ⟨3, [], i6 u3⟩, ⟨10, [], i6 b⟩] bN := bO.reg
   refine rgB bP hMx [] [] [(10, i6 (w64 (b + 1)))] ?_; intro dX dl
   exact d_ ⟨⟨w64 (b + 1), (f.set (w64 (u1 + b)).toNat c).set (w64 (u2 + b)).toNat d⟩, bz.1, bz.2, (dl.reg).anyβ _ (by kernel_rfl), hMx.kp⟩
 refine x_ (y_ (y_ (z_ ?_)))
 obtain ⟨dn, dp⟩ := dm
 refine rN (fn := Try.f85) (v := .tuple #[]) be (re0 be (fn := Try.f85) rfl) ?_
 exact ⟨f, Z, rfl, dp, m, dn, bu.kp⟩

theorem srot_walk (u0 : List Line) (u1 : Int) (u2 : Int) (u3 : Int) (u4 : Line → Line → Int) (ao1 : Option Addr) (cap2 : Nat) (fid3 : Nat) (caps4 : Array Value) (B : Nat) (w0 : World) (Z0 : Fz) (Rr : List Res) (Z : Fz) (w : World) (hf5 : ∀ (Z1 : Fz) (w1 : World), Z.le Z1 → Z1.on w1 → ∀ (x0 : Line) (x1 : Line) (xao0 : Option Addr) (xcap0 : Nat) (xao1 : Option Addr) (xcap1 : Nat), SlR t8 Z1 xao0 xcap0 x0.F.Data → SlR t8 Z1 xao1 xcap1 x1.F.Data → Calls Try.prog fid3 (#[.agg #[i6 x0.Time, i6 x0.Bus, i6 x0.F.ID, .bool x0.F.Long, .bool x0.F.Fast, .bool x0.F.Remote, i6 x0.F.Size, .slice xao0 x0.F.Data.length xcap0], .agg #[i6 x1.Time, i6 x1.Bus, i6 x1.F.ID, .bool x1.F.Long, .bool x1.F.Fast, .bool x1.F.Remote, i6 x1.F.Size, .slice xao1 x1.F.Data.length xcap1]] ++ caps4) w1 fun e w2 => e = .returned (i6 (u4 x0 x1)) ∧ Below w1.heap.size w1 w2) (hg6 : ∀ x w, Sem.run Try.prog (callFunc fid3 x) w = .ok (.enter fid3 x) w) (hM0 : Mem B [] w0 Z0 ((.own tyLine 42 ao1 cap2 u0) :: Rr) Z w) (hZ : Z.on w) {K : (List Line) → Prop} (hp : srot_vc u0 u1 u2 u3 u4 K) : Calls Try.prog 84 #[.slice ao1 u0.length cap2, i6 u1, i6 u2, i6 u3, .func (.func fid3) #[] caps4] w fun e w' => ∃ (r : (List Line)) (Z' : Fz), e = .returned (.tuple #[]) ∧ K r ∧ Fz.le Z Z' ∧ (r.length = u0.length) ∧ Mem B [] w0 Z0 ((.own tyLine 42 ao1 cap2 r) :: Rr) Z' w' := by
 refine enter0 Try.func84 rfl rfl (by kernel_rfl) ?_; intro a0 y; have d := Fz.le.refl Z
 have am := hp (hM0.ownSmall 0 rfl)
 refine sqB y hM0 [] [] [(10, i6 (w64 (u2 - u1)))] ?_; intro aR z
 refine sqB z hM0 [] [] [(11, i6 (w64 (u3 - u2)))] ?_; intro A C
 refine s_ (b_ ?_)
 have D : Fr 58 [] [⟨0, [], .slice ao1 u0.length cap2⟩, ⟨2, [], i6 u2⟩, ⟨4, [], .func (.func fid3) #[] caps4⟩, ⟨10, [], i6 (w64 (u2 - u1))⟩, ⟨11, [], i6 (w64 (u3 - u2))⟩] A := C.reg
 obtain ⟨an, ao, ap, aq⟩ := am
 refine lp (ι := Int × Int × (List Line) × Fz) (fun s => [⟨0, [], .slice ao1 s.2.2.1.length cap2⟩, ⟨2, [], i6 u2⟩, ⟨4, [], .func (.func fid3) #[] caps4⟩, ⟨10, [], i6 s.1⟩, ⟨11, [], i6 s.2.1⟩]) (fun s => ((.own tyLine 42 ao1 cap2 s.2.2.1) :: Rr)) (fun s => s.2.2.2) (fun s => an s.1 s.2.1 s.2.2.1 ∧ Fz.le Z s.2.2.2) (fun s => ao s.1 s.2.1 s.2.2.1) ⟨w64 (u2 - u1), w64 (u3 - u2), u0, Z⟩ ⟨ap, Fz.le.refl _⟩ (by exact D.reg) (by exact hM0) ?_
 rintro ⟨a, b, f, ar⟩ ⟨au, g⟩ av aw G H
 have j := aq a b f au
 replace d := Fz.le.trans d g
 refine s_ (sqB G H [] [] [(20, .bool (a != b))] ?_); intro aT h
 refine c_ h j (fun _ k => ?_) fun _ aJ => ?_
 ·
  refine k_ (b_ (sqB h H [] [] [(23, .bool (decide (a > b)))] ?_)); intro aU i
  refine c_ i k (fun _ ax => ?_) fun _ aD => ?_
  ·
   refine sqH ?_; intro ay J
   refine bt i H 7 [] [] [(24, .slice ao1 f.length cap2), (27, i6 (w64 (u2 - a))), (28, i6 u2), (29, i6 b), (30, .func (.func fid3) #[] caps4)] ?_; intro aV L
   refine ck L 85 #[.slice ao1 f.length cap2, i6 (w64 (u2 - a)), i6 u2, i6 b, .func (.func fid3) #[] caps4] ?_
   refine (sswap_walk f (w64 (u2 - a)) u2 b u4 ao1 cap2 fid3 caps4 _ _ _ _ _ _ (fun Z1 w1 h1 h2 => hf5 Z1 w1 (d.trans h1) h2) hg6 H H.fz ax).mono ?_; rintro _ az ⟨l, M, rfl, N, O, aA, hm⟩; refine ⟨_, rfl, ?_⟩; intro aB P; have Q := hm
   replace g := g.mono O
   have R : Fr 58 [] [⟨0, [], .slice ao1 l.length cap2⟩, ⟨2, [], i6 u2⟩, ⟨4, [], .func (.func fid3) #[] caps4⟩, ⟨10, [], i6 a⟩, ⟨11, [], i6 b⟩, ⟨20, [], .bool (a != b)⟩, ⟨23, [], .bool (decide (a > b))⟩, ⟨24, [], .slice ao1 l.length cap2⟩, ⟨27, [], i6 (w64 (u2 - a))⟩, ⟨28, [], i6 u2⟩, ⟨29, [], i6 b⟩, ⟨30, [], .func (.func fid3) #[] caps4⟩, ⟨31, [], .tuple #[]⟩] aB := by rw [aA]; exact P.reg
   have q : Mem B [] w0 Z0 ((.own tyLine 42 ao1 cap2 l) :: Rr) M az := Q
   have S := N (q.ownSmall 0 rfl)
   apply J
   refine rgB R q [] [] [(10, i6 (w64 (a - b)))] ?_; intro aW aC
   exact j_ (d_ ⟨⟨w64 (a - b), b, l, M⟩, ⟨S.1, g⟩, S.2, (aC.reg).anyβ _ (by kernel_rfl), q.kp⟩)
  refine sqH ?_; intro aE T
  refine bt i H 11 [] [] [(35, .slice ao1 f.length cap2), (38, i6 (w64 (u2 - a))), (43, i6 (w64 ((w64 (u2 + b)) - a))), (44, i6 a), (45, .func (.func fid3) #[] caps4)] ?_; intro aX U
  refine ck U 85 #[.slice ao1 f.length cap2, i6 (w64 (u2 - a)), i6 (w64 ((w64 (u2 + b)) - a)), i6 a, .func (.func fid3) #[] caps4] ?_
  refine (sswap_walk f (w64 (u2 - a)) (w64 ((w64 (u2 + b)) - a)) a u4 ao1 cap2 fid3 caps4 _ _ _ _ _ _ (fun Z1 w1 h1 h2 => hf5 Z1 w1 (d.trans h1) h2) hg6 H H.fz aD).mono ?_; rintro _ aF ⟨m, V, rfl, W, X, aG, hm⟩; refine ⟨_, rfl, ?_⟩; intro aH Y; have aa := hm
  replace g := g.mono X
  have ab : Fr 58 [] [⟨0, [], .slice ao1 m.length cap2⟩, ⟨2, [], i6 u2⟩, ⟨4, [], .func (.func fid3) #[] caps4⟩, ⟨10, [], i6 a⟩, ⟨11, [], i6 b⟩, ⟨20, [], .bool (a != b)⟩, ⟨23, [], .bool (decide (a > b))⟩, ⟨35, [], .slice ao1 m.length cap2⟩, ⟨38, [], i6 (w64 (u2 - a))⟩, ⟨43, [], i6 (w64 ((w64 (u2 + b)) - a))⟩, ⟨44, [], i6 a⟩, ⟨45, [], .func (.func fid3) #[] caps4⟩, ⟨46, [], .tuple #[]⟩] aH := by rw [aG]; exact Y.reg
  have u : Mem B [] w0 Z0 ((.own tyLine 42 ao1 cap2 m) :: Rr) V aF := aa
  have ac := W (u.ownSmall 0 rfl)
  apply T
  refine rgB ab u [] [] [(11, i6 (w64 (b - a)))] ?_; intro aY aI
  exact j_ (d_ ⟨⟨a, w64 (b - a), m, V⟩, ⟨ac.1, g⟩, ac.2, (aI.reg).anyβ _ (by kernel_rfl), u.kp⟩)
 refine x_ (y_ (y_ (z_ (t_ (rgH ?_))))); intro aK ad
 refine bt h H 7 [] [] [(50, .slice ao1 f.length cap2), (53, i6 (w64 (u2 - a))), (54, i6 u2), (55, i6 a), (56, .func (.func fid3) #[] caps4)] ?_; intro aZ ae
 refine ck ae 85 #[.slice ao1 f.length cap2, i6 (w64 (u2 - a)), i6 u2, i6 a, .func (.func fid3) #[] caps4] ?_
 refine (sswap_walk f (w64 (u2 - a)) u2 a u4 ao1 cap2 fid3 caps4 _ _ _ _ _ _ (fun Z1 w1 h1 h2 => hf5 Z1 w1 (d.trans h1) h2) hg6 H H.fz aJ).mono ?_; rintro _ aL ⟨n, af, rfl, ag, ah, aM, hm⟩; refine ⟨_, rfl, ?_⟩; intro aN ai; have aj := hm
 replace d := Fz.le.trans d ah
 have ak : Fr 58 [] [⟨0, [], .slice ao1 n.length cap2⟩, ⟨2, [], i6 u2⟩, ⟨4, [], .func (.func fid3) #[] caps4⟩, ⟨10, [], i6 a⟩, ⟨11, [], i6 b⟩, ⟨20, [], .bool (a != b)⟩, ⟨50, [], .slice ao1 n.length cap2⟩, ⟨53, [], i6 (w64 (u2 - a))⟩, ⟨54, [], i6 u2⟩, ⟨55, [], i6 a⟩, ⟨56, [], .func (.func fid3) #[] caps4⟩, ⟨57, [], .tuple #[]⟩] aN := by rw [aM]; exact ai.reg
 have al : Mem B [] w0 Z0 ((.own tyLine 42 ao1 cap2 n) :: Rr) af aL := aj
 have aO := ag (al.ownSmall 0 rfl)
 apply ad
 obtain ⟨aP, aQ⟩ := aO
 refine rN (fn := Try.f84) (v := .tuple #[]) ak (re0 ak (fn := Try.f84) rfl) ?_
 exact ⟨n, af, rfl, aQ, d, aP, al.kp⟩

theorem lcomp_walk (u0 : List Line) (u1 : Line → Line → Bool) (ao1 : Option Addr) (cap2 : Nat) (fid3 : Nat) (caps4 : Array Value) (B : Nat) (w0 : World) (Z0 : Fz) (Rr : List Res) (Z : Fz) (w : World) (hf5 : ∀ (Z1 : Fz) (w1 : World), Z.le Z1 → Z1.on w1 → ∀ (x0 : Line) (x1 : Line) (xao0 : Option Addr) (xcap0 : Nat) (xao1 : Option Addr) (xcap1 : Nat), SlR t8 Z1 xao0 xcap0 x0.F.Data → SlR t8 Z1 xao1 xcap1 x1.F.Data → Calls Try.prog fid3 (#[.agg #[i6 x0.Time, i6 x0.Bus, i6 x0.F.ID, .bool x0.F.Long, .bool x0.F.Fast, .bool x0.F.Remote, i6 x0.F.Size, .slice xao0 x0.F.Data.length xcap0], .agg #[i6 x1.Time, i6 x1.Bus, i6 x1.F.ID, .bool x1.F.Long, .bool x1.F.Fast, .bool x1.F.Remote, i6 x1.F.Size, .slice xao1 x1.F.Data.length xcap1]] ++ caps4) w1 fun e w2 => e = .returned (.bool (u1 x0 x1)) ∧ Below w1.heap.size w1 w2) (hg6 : ∀ x w, Sem.run Try.prog (callFunc fid3 x) w = .ok (.enter fid3 x) w) (hM0 : Mem B [] w0 Z0 ((.own tyLine 42 ao1 cap2 u0) :: Rr) Z w) (hZ : Z.on w) {K : (List Line) → Prop} (hp : lcomp_vc u0 u1 K) : Calls Try.prog 56 #[.slice ao1 u0.length cap2, .func (.func fid3) #[] caps4] w fun e w' => ∃ (r : (List Line)) (ao1001 : Option Addr) (cap1002 : Nat) (Z' : Fz), e = .returned (.slice ao1001 r.length cap1002) ∧ K r ∧ Fz.le Z Z' ∧ Mem B [] w0 Z0 ((.own tyLine 42 ao1001 cap1002 r) :: Rr) Z' w' := by
 refine enter0 Try.func56 rfl rfl (by kernel_rfl) ?_; intro a0 bP; have h := Fz.le.refl Z
 have bi := hp (hM0.ownSmall 0 rfl)
 refine sqB bP hM0 [] [] [] ?_; intro a9 bQ
 refine s_ (sqB bQ hM0 [] [] [(10, .bool (decide ((u0.length : Int) < 2)))] ?_); intro e0 bf
 refine c_ bf bi (fun _ cR => ?_) fun _ cT => ?_
 ·
  refine sqB bf hM0 [] [] [(4, .slice ao1 u0.length cap2)] ?_; intro e1 cS
  exact r_ (h_ (ra1 cS (.slice ao1 u0.length cap2) ⟨u0, ao1, cap2, Z, rfl, cR, h, hM0.kp⟩))
 refine k_ (s_ (sqB bf hM0 [] [] [(5, i6 1)] ?_)); intro bR bS
 apply b_
 have bT : Fr 66 [] [⟨0, [], .slice ao1 u0.length cap2⟩, ⟨1, [], .func (.func fid3) #[] caps4⟩, ⟨5, [], i6 1⟩] bR := bS.reg
 obtain ⟨cU, cV, cW, cX⟩ := cT
 refine lp (ι := Int) (fun s => [⟨0, [], .slice ao1 u0.length cap2⟩, ⟨1, [], .func (.func fid3) #[] caps4⟩, ⟨5, [], i6 s⟩]) (fun s => ((.own tyLine 42 ao1 cap2 u0) :: Rr)) (fun s => Z) (fun s => cU s) (fun s => cV s) 1 cW (by exact bT.reg) (by exact hM0) ?_
 rintro f cY cZ c0 bV bW
 have bk := cX f cY
 refine s_ (sqB bV bW [] [] [(15, .bool (decide (f < (u0.length : Int))))] ?_); intro aF bg
 refine c_ bg bk (fun _ c1 => ?_) fun _ eY => ?_
 ·
  refine k_ (s_ (b_ ?_))
  have c2 : Fr 66 [] [⟨0, [], .slice ao1 u0.length cap2⟩, ⟨1, [], .func (.func fid3) #[] caps4⟩, ⟨5, [], i6 f⟩] aF := bg.reg
  obtain ⟨bv, bY⟩ := c1
  obtain ⟨b, bw, c3⟩ := gxq bY (by omega)
  obtain ⟨bx, bZ⟩ := c3
  obtain ⟨c, bz, bl⟩ := gxq bZ (by omega)
  refine wp_seq (any_invE mixed [[], [], [], [1, 2], [3], [], [], [6], [5, 7], [8], [0, 4, 9]] 11 (fun S a w1 => ∃ (ag : Nat) (Y : Option Addr) (aa : Nat) (ah : Nat) (ab : Option Addr) (ac : Nat) (al : Value) (aQ : Value) (aR : Value) (aG : Value) (am : Value) (aS : Value) (a1 : Value) (aT : Value) (aH : Value) (an : Value) (aj : Value) (a6 : Res), Fz.le Z Z ∧ Fr 66 [] [⟨0, [], .slice ao1 u0.length cap2⟩, ⟨1, [], .func (.func fid3) #[] caps4⟩, ⟨5, [], i6 f⟩, ⟨18, [], al⟩, ⟨19, [], aQ⟩, ⟨20, [], aR⟩, ⟨21, [], aG⟩, ⟨22, [], am⟩, ⟨23, [], aS⟩, ⟨24, [], a1⟩, ⟨25, [], aT⟩, ⟨26, [], aH⟩, ⟨27, [], an⟩, ⟨28, [], aj⟩] a ∧ Mem B [] w0 Z0 (a6 :: Rr) Z w1 ∧ (S 0 = true → al = .func (.func fid3) #[] caps4) ∧ (S 1 = true → aQ = .slice ao1 u0.length cap2) ∧ (S 2 = true → aR = i6 f) ∧ (S 3 = true → aG = .pointer (some ⟨ag, f.toNat * 8, none⟩)) ∧ (S 4 = true → am = .agg (e42E b Y aa).toArray) ∧ (S 5 = true → aS = .slice ao1 u0.length cap2) ∧ (S 6 = true → a1 = i6 f) ∧ (S 7 = true → aT = i6 (w64 (f - 1))) ∧ (S 8 = true → aH = .pointer (some ⟨ah, (w64 (f - 1)).toNat * 8, none⟩)) ∧ (S 9 = true → an = .agg (e42E c ab ac).toArray) ∧ (S 10 = true → aj = .bool (u1 b c)) ∧ (a6 = .own tyLine 42 ao1 cap2 u0) ∧ (S 3 = true → ao1 = some ⟨ag, 0, none⟩) ∧ (S 4 = true → SlR t8 Z Y aa b.F.Data) ∧ (S 8 = true → ao1 = some ⟨ah, 0, none⟩) ∧ (S 9 = true → SlR t8 Z ab ac c.F.Data)) ?h0 ?hs ?hE)
  case h0 =>
   have c4 := c2.any 18
   have c5 := c4.any 19
   have c6 := c5.any 20
   have c7 := c6.any 21
   have c8 := c7.any 22
   have c9 := c8.any 23
   have da := c9.any 24
   have db := da.any 25
   have dc := db.any 26
   have dd := dc.any 27
   have de := dd.any 28
   have df := (bW.perm lpr).drew
   exact ⟨0, none, 0, 0, none, 0, aF.tmps.getD 18 undef, aF.tmps.getD 19 undef, aF.tmps.getD 20 undef, aF.tmps.getD 21 undef, aF.tmps.getD 22 undef, aF.tmps.getD 23 undef, aF.tmps.getD 24 undef, aF.tmps.getD 25 undef, aF.tmps.getD 26 undef, aF.tmps.getD 27 undef, aF.tmps.getD 28 undef, .own tyLine 42 ao1 cap2 u0, Fz.le.refl _, de.reg, df, ff, ff, ff, ff, ff, ff, ff, ff, ff, ff, ff, rfl, ff, ff, ff, ff⟩
  case hs =>
   intro S hcl i o hil hi hSi hpre a w1 hI; refine Go.Sy.hid ?_; intro G hG; obtain ⟨ag, Y, aa, ah, ab, ac, al, aQ, aR, aG, am, aS, a1, aT, aH, an, aj, a6, H, hFx, hMx, aI, aJ, aK, a2, hI⟩ := hI; obtain ⟨a7, aL, aM, aU, a8, bc, b0, C, I, N, O, hI⟩ := hI; have V := hI
   have hcase : i = 0 ∨ i = 1 ∨ i = 2 ∨ i = 3 ∨ i = 4 ∨ i = 5 ∨ i = 6 ∨ i = 7 ∨ i = 8 ∨ i = 9 ∨ i = 10 := by clear hi; omega
   rcases hcase with rfl | rfl | rfl | rfl | rfl | rfl | rfl | rfl | rfl | rfl | rfl
   ·
    obtain rfl := oj hi
    have ba := hSi
    have g := ngF hcl 10 0 ba
    obtain rfl := C
    refine hG (any_step ?_); intro A J hJ
    refine s1 hFx 18 (.func (.func fid3) #[] caps4) ?_; intro e2 dg
    refine nl (qnI (hJ _ _ ?_))
    exact ⟨ag, Y, aa, ah, ab, ac, .func (.func fid3) #[] caps4, aQ, aR, aG, am, aS, a1, aT, aH, an, aj, .own tyLine 42 ao1 cap2 u0, H, dg.reg, hMx.perm lpr, kf, aJ, aK, a2, a7, aL, aM, aU, a8, bc, (nt g), rfl, I, N, O, V⟩
   ·
    obtain rfl := oj hi
    have ad := hSi
    have p := ngF hcl 3 1 ad
    have q := ngF hcl 4 3 p
    have g := ngF hcl 10 4 q
    obtain rfl := C
    refine hG (any_step ?_); intro A J hJ
    refine s1 hFx 19 (.slice ao1 u0.length cap2) ?_; intro e3 dh
    refine nl (qnI (hJ _ _ ?_))
    exact ⟨ag, Y, aa, ah, ab, ac, al, .slice ao1 u0.length cap2, aR, aG, am, aS, a1, aT, aH, an, aj, .own tyLine 42 ao1 cap2 u0, H, dh.reg, hMx.perm lpr, aI, kf, aK, (nt p), (nt q), aL, aM, aU, a8, bc, (nt g), rfl, (nt p), (nt q), O, V⟩
   ·
    obtain rfl := oj hi
    have ae := hSi
    have p := ngF hcl 3 2 ae
    have q := ngF hcl 4 3 p
    have g := ngF hcl 10 4 q
    obtain rfl := C
    refine hG (any_step ?_); intro A J hJ
    refine s1 hFx 20 (i6 f) ?_; intro e4 di
    refine nl (qnI (hJ _ _ ?_))
    exact ⟨ag, Y, aa, ah, ab, ac, al, aQ, i6 f, aG, am, aS, a1, aT, aH, an, aj, .own tyLine 42 ao1 cap2 u0, H, di.reg, hMx.perm lpr, aI, aJ, kf, (nt p), (nt q), aL, aM, aU, a8, bc, (nt g), rfl, (nt p), (nt q), O, V⟩
   ·
    obtain rfl := oj hi
    have ae := hpre 2 (by kernel_rfl)
    have ad := hpre 1 (by kernel_rfl)
    have p := hSi
    have q := ngF hcl 4 3 p
    have g := ngF hcl 10 4 q
    obtain rfl := aJ ad
    obtain rfl := aK ae
    obtain rfl := C
    refine hG (any_step ?_); intro A J hJ
    refine ixo hFx hMx 0 (T := tyLine) (xs := u0) f (by simpa only [List.length_set] using bv) (k := .i64) (e := 42) (bytes := 64) (nog rfl _) rfl (by kernel_rfl) rfl (by kernel_rfl) (by kernel_rfl) rfl (by kernel_rfl) ?_; intro b1 e5 dj dk
    refine nl (qnI (hJ _ _ ?_))
    exact ⟨b1, Y, aa, ah, ab, ac, al, .slice ao1 u0.length cap2, i6 f, .pointer (some ⟨b1, f.toNat * 8, none⟩), am, aS, a1, aT, aH, an, aj, .own tyLine 42 ao1 cap2 u0, H, dk.reg, hMx.perm lpr, aI, kf, kf, kf, (nt q), aL, aM, aU, a8, bc, (nt g), rfl, (fun _ => dj), (nt q), O, V⟩
   ·
    obtain rfl := oj hi
    have p := hpre 3 (by kernel_rfl)
    have ae := hcl 3 2 (by kernel_rfl) p
    have ad := hcl 3 1 (by kernel_rfl) p
    have q := hSi
    have g := ngF hcl 10 4 q
    obtain rfl := aJ ad
    obtain rfl := aK ae
    obtain rfl := a2 p
    obtain rfl := C
    refine hG (any_step ?_); intro A J hJ
    have b2 := I p
    obtain ⟨e6, dl, dm⟩ := own_elx hMx 0 (T := tyLine) (xs := u0) rfl b2 f.toNat bw
    obtain ⟨bA, bB, rfl, dn⟩ := dl
    refine lc2 hFx 22 8 (e42E b bA bB) dm rfl ?_; intro e7 dp
    refine nl (qnI (hJ _ _ ?_))
    exact ⟨ag, bA, bB, ah, ab, ac, al, .slice ao1 u0.length cap2, i6 f, .pointer (some ⟨ag, f.toNat * 8, none⟩), .agg (e42E b bA bB).toArray, aS, a1, aT, aH, an, aj, .own tyLine 42 ao1 cap2 u0, H, dp.reg, hMx.perm lpr, aI, kf, kf, kf, kf, aL, aM, aU, a8, bc, (nt g), rfl, (fun _ => b2), (fun _ => dn), O, V⟩
   ·
    obtain rfl := oj hi
    have af := hSi
    have l := ngF hcl 8 5 af
    have n := ngF hcl 9 8 l
    have g := ngF hcl 10 9 n
    obtain rfl := C
    refine hG (any_step ?_); intro A J hJ
    refine s1 hFx 23 (.slice ao1 u0.length cap2) ?_; intro e8 dq
    refine nl (qnI (hJ _ _ ?_))
    exact ⟨ag, Y, aa, ah, ab, ac, al, aQ, aR, aG, am, .slice ao1 u0.length cap2, a1, aT, aH, an, aj, .own tyLine 42 ao1 cap2 u0, H, dq.reg, hMx.perm lpr, aI, aJ, aK, a2, a7, kf, aM, aU, (nt l), (nt n), (nt g), rfl, I, N, (nt l), (nt n)⟩
   ·
    obtain rfl := oj hi
    have M := hSi
    have v := ngF hcl 7 6 M
    have l := ngF hcl 8 7 v
    have n := ngF hcl 9 8 l
    have g := ngF hcl 10 9 n
    obtain rfl := C
    refine hG (any_step ?_); intro A J hJ
    refine s1 hFx 24 (i6 f) ?_; intro e9 dr
    refine nl (qnI (hJ _ _ ?_))
    exact ⟨ag, Y, aa, ah, ab, ac, al, aQ, aR, aG, am, aS, i6 f, aT, aH, an, aj, .own tyLine 42 ao1 cap2 u0, H, dr.reg, hMx.perm lpr, aI, aJ, aK, a2, a7, aL, kf, (nt v), (nt l), (nt n), (nt g), rfl, I, N, (nt l), (nt n)⟩
   ·
    obtain rfl := oj hi
    have M := hpre 6 (by kernel_rfl)
    have v := hSi
    have l := ngF hcl 8 7 v
    have n := ngF hcl 9 8 l
    have g := ngF hcl 10 9 n
    obtain rfl := aM M
    obtain rfl := C
    refine hG (any_step ?_); intro A J hJ
    refine s1 hFx 25 (i6 (w64 (f - 1))) ?_; intro fa ds
    refine nl (qnI (hJ _ _ ?_))
    exact ⟨ag, Y, aa, ah, ab, ac, al, aQ, aR, aG, am, aS, i6 f, i6 (w64 (f - 1)), aH, an, aj, .own tyLine 42 ao1 cap2 u0, H, ds.reg, hMx.perm lpr, aI, aJ, aK, a2, a7, aL, kf, kf, (nt l), (nt n), (nt g), rfl, I, N, (nt l), (nt n)⟩
   ·
    obtain rfl := oj hi
    have v := hpre 7 (by kernel_rfl)
    have af := hpre 5 (by kernel_rfl)
    have M := hcl 7 6 (by kernel_rfl) v
    have l := hSi
    have n := ngF hcl 9 8 l
    have g := ngF hcl 10 9 n
    obtain rfl := aL af
    obtain rfl := aM M
    obtain rfl := aU v
    obtain rfl := C
    refine hG (any_step ?_); intro A J hJ
    refine ixo hFx hMx 0 (T := tyLine) (xs := u0) (w64 (f - 1)) (by simpa only [List.length_set] using bx) (k := .i64) (e := 42) (bytes := 64) (nog rfl _) rfl (by kernel_rfl) rfl (by kernel_rfl) (by kernel_rfl) rfl (by kernel_rfl) ?_; intro b3 fb dt du
    refine nl (qnI (hJ _ _ ?_))
    exact ⟨ag, Y, aa, b3, ab, ac, al, aQ, aR, aG, am, .slice ao1 u0.length cap2, i6 f, i6 (w64 (f - 1)), .pointer (some ⟨b3, (w64 (f - 1)).toNat * 8, none⟩), an, aj, .own tyLine 42 ao1 cap2 u0, H, du.reg, hMx.perm lpr, aI, aJ, aK, a2, a7, kf, kf, kf, kf, (nt n), (nt g), rfl, I, N, (fun _ => dt), (nt n)⟩
   ·
    obtain rfl := oj hi
    have l := hpre 8 (by kernel_rfl)
    have v := hcl 8 7 (by kernel_rfl) l
    have af := hcl 8 5 (by kernel_rfl) l
    have M := hcl 7 6 (by kernel_rfl) v
    have n := hSi
    have g := ngF hcl 10 9 n
    obtain rfl := aL af
    obtain rfl := aM M
    obtain rfl := aU v
    obtain rfl := a8 l
    obtain rfl := C
    refine hG (any_step ?_); intro A J hJ
    have b4 := O l
    obtain ⟨fc, dv, dw⟩ := own_elx hMx 0 (T := tyLine) (xs := u0) rfl b4 (w64 (f - 1)).toNat bz
    obtain ⟨bC, bD, rfl, dx⟩ := dv
    refine lc2 hFx 27 8 (e42E c bC bD) dw rfl ?_; intro fd dy
    refine nl (qnI (hJ _ _ ?_))
    exact ⟨ag, Y, aa, ah, bC, bD, al, aQ, aR, aG, am, .slice ao1 u0.length cap2, i6 f, i6 (w64 (f - 1)), .pointer (some ⟨ah, (w64 (f - 1)).toNat * 8, none⟩), .agg (e42E c bC bD).toArray, aj, .own tyLine 42 ao1 cap2 u0, H, dy.reg, hMx.perm lpr, aI, aJ, aK, a2, a7, kf, kf, kf, kf, kf, (nt g), rfl, I, N, (fun _ => b4), (fun _ => dx)⟩
   obtain rfl := oj hi
   have n := hpre 9 (by kernel_rfl)
   have q := hpre 4 (by kernel_rfl)
   have ba := hpre 0 (by kernel_rfl)
   have l := hcl 9 8 (by kernel_rfl) n
   have p := hcl 4 3 (by kernel_rfl) q
   have v := hcl 8 7 (by kernel_rfl) l
   have af := hcl 8 5 (by kernel_rfl) l
   have ae := hcl 3 2 (by kernel_rfl) p
   have ad := hcl 3 1 (by kernel_rfl) p
   have M := hcl 7 6 (by kernel_rfl) v
   obtain rfl := aI ba
   obtain rfl := aJ ad
   obtain rfl := aK ae
   obtain rfl := a2 p
   obtain rfl := a7 q
   obtain rfl := aL af
   obtain rfl := aM M
   obtain rfl := aU v
   obtain rfl := a8 l
   obtain rfl := bc n
   obtain rfl := C
   refine hG (any_step ?_); intro A J hJ
   have h := Fz.le.trans h H
   have dz := I p
   have b5 := N q
   have dA := O l
   have b6 := V n
   have dB := hf5 _ _ h hMx.fz b c Y aa ab ac b5 b6
   refine fcl hFx hMx (.bool (u1 b c)) fid3 (#[.agg (e42E b Y aa).toArray, .agg (e42E c ab ac).toArray] ++ caps4) (nog rfl _) rfl (by kernel_rfl) ?h1 ?h2 ?_
   case h1 => exact fv_run rfl (by kernel_rfl) (by kernel_rfl) hg6
   case h2 => exact dB
   intro fe fg dC dD
   refine nl (qnI (hJ _ _ ?_))
   exact ⟨ag, Y, aa, ah, ab, ac, .func (.func fid3) #[] caps4, .slice ao1 u0.length cap2, i6 f, .pointer (some ⟨ag, f.toNat * 8, none⟩), .agg (e42E b Y aa).toArray, .slice ao1 u0.length cap2, i6 f, i6 (w64 (f - 1)), .pointer (some ⟨ah, (w64 (f - 1)).toNat * 8, none⟩), .agg (e42E c ab ac).toArray, .bool (u1 b c), .own tyLine 42 ao1 cap2 u0, H, dC.reg, dD.perm lpr, kf, kf, kf, kf, kf, kf, kf, kf, kf, kf, kf, rfl, (fun _ => dz), (fun _ => b5), (fun _ => dA), (fun _ => b6)⟩
  case hE =>
   intro S hS b7 fh hI; refine Go.Sy.hid ?_; intro G hG; obtain ⟨ag, Y, aa, ah, ab, ac, al, aQ, aR, aG, am, aS, a1, aT, aH, an, aj, a6, H, hFx, hMx, aI, aJ, aK, a2, hI⟩ := hI; obtain ⟨a7, aL, aM, aU, a8, bc, b0, C, I, N, O, hI⟩ := hI; have V := hI; refine hG ?_
   obtain rfl := aI (hS 0 (by decide))
   obtain rfl := aJ (hS 1 (by decide))
   obtain rfl := aK (hS 2 (by decide))
   obtain rfl := a2 (hS 3 (by decide))
   obtain rfl := a7 (hS 4 (by decide))
   obtain rfl := aL (hS 5 (by decide))
   obtain rfl := aM (hS 6 (by decide))
   obtain rfl := aU (hS 7 (by decide))
   obtain rfl := a8 (hS 8 (by decide))
   obtain rfl := bc (hS 9 (by decide))
   obtain rfl := b0 (hS 10 (by decide))
   obtain rfl := C
   have h := Fz.le.trans h H
   refine t_ (c_ hFx bl (fun _ dE => ?_) fun _ cP => ?_)
   ·
    have b8 : Fr 66 [] [⟨0, [], .slice ao1 u0.length cap2⟩, ⟨1, [], .func (.func fid3) #[] caps4⟩, ⟨5, [], i6 f⟩] b7 := hFx.reg
    refine sqH ?_; intro dF b9
    refine bt b8 hMx 2 [] [] [(29, .slice ao1 u0.length cap2), (30, i6 f)] ?_; intro fi ca
    obtain ⟨fj, dG⟩ := dE
    refine slo ca hMx 0 (T := tyLine) (xs := u0) (ao := ao1) (cap := cap2) f.toNat u0.length (by omega) (e := 42) (bytes := 64) (nog rfl _) rfl (by kernel_rfl) rfl (by kernel_rfl) rfl (by kernel_rfl) (.inr ⟨.i64, _, rfl, by rw [Int.toNat_of_nonneg (by omega)]; kernel_rfl⟩) (.inl ⟨rfl, rfl⟩) ?_; intro D E fk av cb
    refine s1 cb 6 (.slice D (u0.length - f.toNat) E) ?_; intro fl cc
    apply b9
    refine s_ (sqB cc hMx [] [] [(7, i6 1)] ?_); intro ce cf
    apply b_
    have cg : Fr 66 [] [⟨0, [], .slice ao1 u0.length cap2⟩, ⟨1, [], .func (.func fid3) #[] caps4⟩, ⟨5, [], i6 f⟩, ⟨6, [], .slice D (u0.length - f.toNat) E⟩, ⟨7, [], i6 1⟩] ce := cf.reg
    obtain ⟨dH, dI, dJ, dK⟩ := dG
    refine lp (ι := Int × Int × (List Line)) (fun s => [⟨0, [], .slice ao1 s.2.2.length cap2⟩, ⟨1, [], .func (.func fid3) #[] caps4⟩, ⟨5, [], i6 s.1⟩, ⟨6, [], .slice D (u0.length - f.toNat) E⟩, ⟨7, [], i6 s.2.1⟩]) (fun s => ((.own tyLine 42 ao1 cap2 s.2.2) :: Rr)) (fun s => Z) (fun s => dH s.1 s.2.1 s.2.2) (fun s => dI s.1 s.2.1 s.2.2) ⟨f, 1, u0⟩ dJ (by exact cg.reg) (by exact hMx) ?_
    rintro ⟨y, j, m⟩ dL dM dN ci cj
    have bm := dK y j m dL
    refine s_ (sqB ci cj [] [] [(35, .bool (decide (j < ((u0.length - f.toNat : Nat) : Int))))] ?_); intro aw bh
    refine c_ bh bm (fun _ dO => ?_) fun _ eP => ?_
    ·
     refine k_ (s_ (b_ ?_))
     have dP : Fr 66 [] [⟨0, [], .slice ao1 m.length cap2⟩, ⟨1, [], .func (.func fid3) #[] caps4⟩, ⟨5, [], i6 y⟩, ⟨6, [], .slice D (u0.length - f.toNat) E⟩, ⟨7, [], i6 j⟩] aw := bh.reg
     obtain ⟨bv, cl⟩ := dO
     obtain ⟨b, bw, dQ⟩ := gxq cl (by omega)
     obtain ⟨bx, cm⟩ := dQ
     obtain ⟨c, bz, bn⟩ := gxq cm (by omega)
     refine wp_seq (any_invE mixed [[], [], [], [1, 2], [3], [], [], [6], [5, 7], [8], [0, 4, 9], [10]] 12 (fun S a w1 => ∃ (W : Nat) (P : Option Addr) (Q : Nat) (X : Nat) (R : Option Addr) (U : Nat) (ax : Value) (aV : Value) (aW : Value) (aN : Value) (ay : Value) (aX : Value) (a3 : Value) (aY : Value) (aO : Value) (az : Value) (ak : Value) (ai : Value) (a6 : Res), Fz.le Z Z ∧ Fr 66 [] [⟨0, [], .slice ao1 m.length cap2⟩, ⟨1, [], .func (.func fid3) #[] caps4⟩, ⟨5, [], i6 y⟩, ⟨6, [], .slice D (u0.length - f.toNat) E⟩, ⟨7, [], i6 j⟩, ⟨38, [], ax⟩, ⟨39, [], aV⟩, ⟨40, [], aW⟩, ⟨41, [], aN⟩, ⟨42, [], ay⟩, ⟨43, [], aX⟩, ⟨44, [], a3⟩, ⟨45, [], aY⟩, ⟨46, [], aO⟩, ⟨47, [], az⟩, ⟨48, [], ak⟩, ⟨49, [], ai⟩] a ∧ Mem B [] w0 Z0 (a6 :: Rr) Z w1 ∧ (S 0 = true → ax = .func (.func fid3) #[] caps4) ∧ (S 1 = true → aV = .slice D (u0.length - f.toNat) E) ∧ (S 2 = true → aW = i6 j) ∧ (S 3 = true → aN = .pointer (some ⟨W, ((f.toNat + j.toNat : Nat) : Int).toNat * 8, none⟩)) ∧ (S 4 = true → ay = .agg (e42E b P Q).toArray) ∧ (S 5 = true → aX = .slice D (u0.length - f.toNat) E) ∧ (S 6 = true → a3 = i6 j) ∧ (S 7 = true → aY = i6 (w64 (j - 1))) ∧ (S 8 = true → aO = .pointer (some ⟨X, ((f.toNat + (w64 (j - 1)).toNat : Nat) : Int).toNat * 8, none⟩)) ∧ (S 9 = true → az = .agg (e42E c R U).toArray) ∧ (S 10 = true → ak = .bool (u1 b c)) ∧ (S 11 = true → ai = .bool (!(u1 b c))) ∧ (a6 = .own tyLine 42 ao1 cap2 m) ∧ (S 3 = true → ao1 = some ⟨W, 0, none⟩) ∧ (S 4 = true → SlR t8 Z P Q b.F.Data) ∧ (S 8 = true → ao1 = some ⟨X, 0, none⟩) ∧ (S 9 = true → SlR t8 Z R U c.F.Data)) ?h0 ?hs ?hE)
     case h0 =>
      have dR := dP.any 38
      have dS := dR.any 39
      have dT := dS.any 40
      have dU := dT.any 41
      have dV := dU.any 42
      have dW := dV.any 43
      have dX := dW.any 44
      have dY := dX.any 45
      have dZ := dY.any 46
      have d0 := dZ.any 47
      have d1 := d0.any 48
      have d2 := d1.any 49
      have d3 := (cj.perm lpr).drew
      exact ⟨0, none, 0, 0, none, 0, aw.tmps.getD 38 undef, aw.tmps.getD 39 undef, aw.tmps.getD 40 undef, aw.tmps.getD 41 undef, aw.tmps.getD 42 undef, aw.tmps.getD 43 undef, aw.tmps.getD 44 undef, aw.tmps.getD 45 undef, aw.tmps.getD 46 undef, aw.tmps.getD 47 undef, aw.tmps.getD 48 undef, aw.tmps.getD 49 undef, .own tyLine 42 ao1 cap2 m, Fz.le.refl _, d2.reg, d3, ff, ff, ff, ff, ff, ff, ff, ff, ff, ff, ff, ff, rfl, ff, ff, ff, ff⟩
     case hs =>
      intro S hcl i o hil hi hSi hpre a w1 hI; refine Go.Sy.hid ?_; intro G hG; obtain ⟨W, P, Q, X, R, U, ax, aV, aW, aN, ay, aX, a3, aY, aO, az, ak, ai, a6, d, hFx, hMx, aA, aB, aC, hI⟩ := hI; obtain ⟨aZ, a4, aD, aE, aP, a5, bb, bG, cn, C, I, N, O, hI⟩ := hI; have V := hI
      have hcase : i = 0 ∨ i = 1 ∨ i = 2 ∨ i = 3 ∨ i = 4 ∨ i = 5 ∨ i = 6 ∨ i = 7 ∨ i = 8 ∨ i = 9 ∨ i = 10 ∨ i = 11 := by clear hi; omega
      rcases hcase with rfl | rfl | rfl | rfl | rfl | rfl | rfl | rfl | rfl | rfl | rfl | rfl
      ·
       obtain rfl := oj hi
       have ba := hSi
       have g := ngF hcl 10 0 ba
       have L := ngF hcl 11 10 g
       obtain rfl := C
       refine hG (any_step ?_); intro A J hJ
       refine s1 hFx 38 (.func (.func fid3) #[] caps4) ?_; intro fr d4
       refine nl (qnI (hJ _ _ ?_))
       exact ⟨W, P, Q, X, R, U, .func (.func fid3) #[] caps4, aV, aW, aN, ay, aX, a3, aY, aO, az, ak, ai, .own tyLine 42 ao1 cap2 m, d, d4.reg, hMx.perm lpr, kf, aB, aC, aZ, a4, aD, aE, aP, a5, bb, (nt g), (nt L), rfl, I, N, O, V⟩
      ·
       obtain rfl := oj hi
       have ad := hSi
       have p := ngF hcl 3 1 ad
       have q := ngF hcl 4 3 p
       have g := ngF hcl 10 4 q
       have L := ngF hcl 11 10 g
       obtain rfl := C
       refine hG (any_step ?_); intro A J hJ
       refine s1 hFx 39 (.slice D (u0.length - f.toNat) E) ?_; intro fx d5
       refine nl (qnI (hJ _ _ ?_))
       exact ⟨W, P, Q, X, R, U, ax, .slice D (u0.length - f.toNat) E, aW, aN, ay, aX, a3, aY, aO, az, ak, ai, .own tyLine 42 ao1 cap2 m, d, d5.reg, hMx.perm lpr, aA, kf, aC, (nt p), (nt q), aD, aE, aP, a5, bb, (nt g), (nt L), rfl, (nt p), (nt q), O, V⟩
      ·
       obtain rfl := oj hi
       have ae := hSi
       have p := ngF hcl 3 2 ae
       have q := ngF hcl 4 3 p
       have g := ngF hcl 10 4 q
       have L := ngF hcl 11 10 g
       obtain rfl := C
       refine hG (any_step ?_); intro A J hJ
       refine s1 hFx 40 (i6 j) ?_; intro fE d6
       refine nl (qnI (hJ _ _ ?_))
       exact ⟨W, P, Q, X, R, U, ax, aV, i6 j, aN, ay, aX, a3, aY, aO, az, ak, ai, .own tyLine 42 ao1 cap2 m, d, d6.reg, hMx.perm lpr, aA, aB, kf, (nt p), (nt q), aD, aE, aP, a5, bb, (nt g), (nt L), rfl, (nt p), (nt q), O, V⟩
      ·
       obtain rfl := oj hi
       have ae := hpre 2 (by kernel_rfl)
       have ad := hpre 1 (by kernel_rfl)
       have p := hSi
       have q := ngF hcl 4 3 p
       have g := ngF hcl 10 4 q
       have L := ngF hcl 11 10 g
       obtain rfl := aB ad
       obtain rfl := aC ae
       obtain rfl := C
       refine hG (any_step ?_); intro A J hJ
       have d7 := av.mono d
       refine ixos hFx hMx 0 (T := tyLine) (xs := m) (ht := u0.length) d7 j (by simpa only [List.length_set] using bv) (k := .i64) (e := 42) (bytes := 64) (nog rfl _) rfl (by kernel_rfl) rfl (by kernel_rfl) (by kernel_rfl) rfl (by kernel_rfl) ?_; intro co fJ d8 d9
       refine nl (qnI (hJ _ _ ?_))
       exact ⟨co, P, Q, X, R, U, ax, .slice D (u0.length - f.toNat) E, i6 j, .pointer (some ⟨co, ((f.toNat + j.toNat : Nat) : Int).toNat * 8, none⟩), ay, aX, a3, aY, aO, az, ak, ai, .own tyLine 42 ao1 cap2 m, d, d9.reg, hMx.perm lpr, aA, kf, kf, kf, (nt q), aD, aE, aP, a5, bb, (nt g), (nt L), rfl, (fun _ => d8), (nt q), O, V⟩
      ·
       obtain rfl := oj hi
       have p := hpre 3 (by kernel_rfl)
       have ae := hcl 3 2 (by kernel_rfl) p
       have ad := hcl 3 1 (by kernel_rfl) p
       have q := hSi
       have g := ngF hcl 10 4 q
       have L := ngF hcl 11 10 g
       obtain rfl := aB ad
       obtain rfl := aC ae
       obtain rfl := aZ p
       obtain rfl := C
       refine hG (any_step ?_); intro A J hJ
       have cp := I p
       obtain ⟨fP, ea, eb⟩ := own_elx hMx 0 (T := tyLine) (xs := m) rfl cp ((f.toNat + j.toNat : Nat) : Int).toNat bw
       obtain ⟨bH, bI, rfl, ec⟩ := ea
       refine lc2 hFx 42 8 (e42E b bH bI) eb rfl ?_; intro fQ ed
       refine nl (qnI (hJ _ _ ?_))
       exact ⟨W, bH, bI, X, R, U, ax, .slice D (u0.length - f.toNat) E, i6 j, .pointer (some ⟨W, ((f.toNat + j.toNat : Nat) : Int).toNat * 8, none⟩), .agg (e42E b bH bI).toArray, aX, a3, aY, aO, az, ak, ai, .own tyLine 42 ao1 cap2 m, d, ed.reg, hMx.perm lpr, aA, kf, kf, kf, kf, aD, aE, aP, a5, bb, (nt g), (nt L), rfl, (fun _ => cp), (fun _ => ec), O, V⟩
      ·
       obtain rfl := oj hi
       have af := hSi
       have l := ngF hcl 8 5 af
       have n := ngF hcl 9 8 l
       have g := ngF hcl 10 9 n
       have L := ngF hcl 11 10 g
       obtain rfl := C
       refine hG (any_step ?_); intro A J hJ
       refine s1 hFx 43 (.slice D (u0.length - f.toNat) E) ?_; intro fW ee
       refine nl (qnI (hJ _ _ ?_))
       exact ⟨W, P, Q, X, R, U, ax, aV, aW, aN, ay, .slice D (u0.length - f.toNat) E, a3, aY, aO, az, ak, ai, .own tyLine 42 ao1 cap2 m, d, ee.reg, hMx.perm lpr, aA, aB, aC, aZ, a4, kf, aE, aP, (nt l), (nt n), (nt g), (nt L), rfl, I, N, (nt l), (nt n)⟩
      ·
       obtain rfl := oj hi
       have M := hSi
       have v := ngF hcl 7 6 M
       have l := ngF hcl 8 7 v
       have n := ngF hcl 9 8 l
       have g := ngF hcl 10 9 n
       have L := ngF hcl 11 10 g
       obtain rfl := C
       refine hG (any_step ?_); intro A J hJ
       refine s1 hFx 44 (i6 j) ?_; intro f2 ef
       refine nl (qnI (hJ _ _ ?_))
       exact ⟨W, P, Q, X, R, U, ax, aV, aW, aN, ay, aX, i6 j, aY, aO, az, ak, ai, .own tyLine 42 ao1 cap2 m, d, ef.reg, hMx.perm lpr, aA, aB, aC, aZ, a4, aD, kf, (nt v), (nt l), (nt n), (nt g), (nt L), rfl, I, N, (nt l), (nt n)⟩
      ·
       obtain rfl := oj hi
       have M := hpre 6 (by kernel_rfl)
       have v := hSi
       have l := ngF hcl 8 7 v
       have n := ngF hcl 9 8 l
       have g := ngF hcl 10 9 n
       have L := ngF hcl 11 10 g
       obtain rfl := aE M
       obtain rfl := C
       refine hG (any_step ?_); intro A J hJ
       refine s1 hFx 45 (i6 (w64 (j - 1))) ?_; intro f8 eg
       refine nl (qnI (hJ _ _ ?_))
       exact ⟨W, P, Q, X, R, U, ax, aV, aW, aN, ay, aX, i6 j, i6 (w64 (j - 1)), aO, az, ak, ai, .own tyLine 42 ao1 cap2 m, d, eg.reg, hMx.perm lpr, aA, aB, aC, aZ, a4, aD, kf, kf, (nt l), (nt n), (nt g), (nt L), rfl, I, N, (nt l), (nt n)⟩
      ·
       obtain rfl := oj hi
       have v := hpre 7 (by kernel_rfl)
       have af := hpre 5 (by kernel_rfl)
       have M := hcl 7 6 (by kernel_rfl) v
       have l := hSi
       have n := ngF hcl 9 8 l
       have g := ngF hcl 10 9 n
       have L := ngF hcl 11 10 g
       obtain rfl := aD af
       obtain rfl := aE M
       obtain rfl := aP v
       obtain rfl := C
       refine hG (any_step ?_); intro A J hJ
       have eh := av.mono d
       refine ixos hFx hMx 0 (T := tyLine) (xs := m) (ht := u0.length) eh (w64 (j - 1)) (by simpa only [List.length_set] using bx) (k := .i64) (e := 42) (bytes := 64) (nog rfl _) rfl (by kernel_rfl) rfl (by kernel_rfl) (by kernel_rfl) rfl (by kernel_rfl) ?_; intro cq gd ei ej
       refine nl (qnI (hJ _ _ ?_))
       exact ⟨W, P, Q, cq, R, U, ax, aV, aW, aN, ay, .slice D (u0.length - f.toNat) E, i6 j, i6 (w64 (j - 1)), .pointer (some ⟨cq, ((f.toNat + (w64 (j - 1)).toNat : Nat) : Int).toNat * 8, none⟩), az, ak, ai, .own tyLine 42 ao1 cap2 m, d, ej.reg, hMx.perm lpr, aA, aB, aC, aZ, a4, kf, kf, kf, kf, (nt n), (nt g), (nt L), rfl, I, N, (fun _ => ei), (nt n)⟩
      ·
       obtain rfl := oj hi
       have l := hpre 8 (by kernel_rfl)
       have v := hcl 8 7 (by kernel_rfl) l
       have af := hcl 8 5 (by kernel_rfl) l
       have M := hcl 7 6 (by kernel_rfl) v
       have n := hSi
       have g := ngF hcl 10 9 n
       have L := ngF hcl 11 10 g
       obtain rfl := aD af
       obtain rfl := aE M
       obtain rfl := aP v
       obtain rfl := a5 l
       obtain rfl := C
       refine hG (any_step ?_); intro A J hJ
       have cr := O l
       obtain ⟨gj, ek, el⟩ := own_elx hMx 0 (T := tyLine) (xs := m) rfl cr ((f.toNat + (w64 (j - 1)).toNat : Nat) : Int).toNat bz
       obtain ⟨bJ, bK, rfl, em⟩ := ek
       refine lc2 hFx 47 8 (e42E c bJ bK) el rfl ?_; intro gk en
       refine nl (qnI (hJ _ _ ?_))
       exact ⟨W, P, Q, X, bJ, bK, ax, aV, aW, aN, ay, .slice D (u0.length - f.toNat) E, i6 j, i6 (w64 (j - 1)), .pointer (some ⟨X, ((f.toNat + (w64 (j - 1)).toNat : Nat) : Int).toNat * 8, none⟩), .agg (e42E c bJ bK).toArray, ak, ai, .own tyLine 42 ao1 cap2 m, d, en.reg, hMx.perm lpr, aA, aB, aC, aZ, a4, kf, kf, kf, kf, kf, (nt g), (nt L), rfl, I, N, (fun _ => cr), (fun _ => em)⟩
      ·
       obtain rfl := oj hi
       have n := hpre 9 (by kernel_rfl)
       have q := hpre 4 (by kernel_rfl)
       have ba := hpre 0 (by kernel_rfl)
       have l := hcl 9 8 (by kernel_rfl) n
       have p := hcl 4 3 (by kernel_rfl) q
       have v := hcl 8 7 (by kernel_rfl) l
       have af := hcl 8 5 (by kernel_rfl) l
       have ae := hcl 3 2 (by kernel_rfl) p
       have ad := hcl 3 1 (by kernel_rfl) p
       have M := hcl 7 6 (by kernel_rfl) v
       have g := hSi
       have L := ngF hcl 11 10 g
       obtain rfl := aA ba
       obtain rfl := aB ad
       obtain rfl := aC ae
       obtain rfl := aZ p
       obtain rfl := a4 q
       obtain rfl := aD af
       obtain rfl := aE M
       obtain rfl := aP v
       obtain rfl := a5 l
       obtain rfl := bb n
       obtain rfl := C
       refine hG (any_step ?_); intro A J hJ
       have h := Fz.le.trans h d
       have eo := I p
       have cs := N q
       have ep := O l
       have ct := V n
       have eq := hf5 _ _ h hMx.fz b c P Q R U cs ct
       refine fcl hFx hMx (.bool (u1 b c)) fid3 (#[.agg (e42E b P Q).toArray, .agg (e42E c R U).toArray] ++ caps4) (nog rfl _) rfl (by kernel_rfl) ?h1 ?h2 ?_
       case h1 => exact fv_run rfl (by kernel_rfl) (by kernel_rfl) hg6
       case h2 => exact eq
       intro gq gr er es
       refine nl (qnI (hJ _ _ ?_))
       exact ⟨W, P, Q, X, R, U, .func (.func fid3) #[] caps4, .slice D (u0.length - f.toNat) E, i6 j, .pointer (some ⟨W, ((f.toNat + j.toNat : Nat) : Int).toNat * 8, none⟩), .agg (e42E b P Q).toArray, .slice D (u0.length - f.toNat) E, i6 j, i6 (w64 (j - 1)), .pointer (some ⟨X, ((f.toNat + (w64 (j - 1)).toNat : Nat) : Int).toNat * 8, none⟩), .agg (e42E c R U).toArray, .bool (u1 b c), ai, .own tyLine 42 ao1 cap2 m, d, er.reg, es.perm lpr, kf, kf, kf, kf, kf, kf, kf, kf, kf, kf, kf, (nt L), rfl, (fun _ => eo), (fun _ => cs), (fun _ => ep), (fun _ => ct)⟩
      obtain rfl := oj hi
      have g := hpre 10 (by kernel_rfl)
      have n := hcl 10 9 (by kernel_rfl) g
      have q := hcl 10 4 (by kernel_rfl) g
      have ba := hcl 10 0 (by kernel_rfl) g
      have l := hcl 9 8 (by kernel_rfl) n
      have p := hcl 4 3 (by kernel_rfl) q
      have v := hcl 8 7 (by kernel_rfl) l
      have af := hcl 8 5 (by kernel_rfl) l
      have ae := hcl 3 2 (by kernel_rfl) p
      have ad := hcl 3 1 (by kernel_rfl) p
      have M := hcl 7 6 (by kernel_rfl) v
      obtain rfl := aA ba
      obtain rfl := aB ad
      obtain rfl := aC ae
      obtain rfl := aZ p
      obtain rfl := a4 q
      obtain rfl := aD af
      obtain rfl := aE M
      obtain rfl := aP v
      obtain rfl := a5 l
      obtain rfl := bb n
      obtain rfl := bG g
      obtain rfl := C
      refine hG (any_step ?_); intro A J hJ
      have et := I p
      have eu := N q
      have ev := O l
      have ew := V n
      refine s1 hFx 49 (.bool (!(u1 b c))) ?_; intro gx ex
      refine nl (qnI (hJ _ _ ?_))
      exact ⟨W, P, Q, X, R, U, .func (.func fid3) #[] caps4, .slice D (u0.length - f.toNat) E, i6 j, .pointer (some ⟨W, ((f.toNat + j.toNat : Nat) : Int).toNat * 8, none⟩), .agg (e42E b P Q).toArray, .slice D (u0.length - f.toNat) E, i6 j, i6 (w64 (j - 1)), .pointer (some ⟨X, ((f.toNat + (w64 (j - 1)).toNat : Nat) : Int).toNat * 8, none⟩), .agg (e42E c R U).toArray, .bool (u1 b c), .bool (!(u1 b c)), .own tyLine 42 ao1 cap2 m, d, ex.reg, hMx.perm lpr, kf, kf, kf, kf, kf, kf, kf, kf, kf, kf, kf, kf, rfl, (fun _ => et), (fun _ => eu), (fun _ => ev), (fun _ => ew)⟩
     case hE =>
      intro S hS cu ey hI; refine Go.Sy.hid ?_; intro G hG; obtain ⟨W, P, Q, X, R, U, ax, aV, aW, aN, ay, aX, a3, aY, aO, az, ak, ai, a6, d, hFx, hMx, aA, aB, aC, hI⟩ := hI; obtain ⟨aZ, a4, aD, aE, aP, a5, bb, bG, cn, C, I, N, O, hI⟩ := hI; refine hG ?_
      obtain rfl := aA (hS 0 (by decide))
      obtain rfl := aB (hS 1 (by decide))
      obtain rfl := aC (hS 2 (by decide))
      obtain rfl := aZ (hS 3 (by decide))
      obtain rfl := a4 (hS 4 (by decide))
      obtain rfl := aD (hS 5 (by decide))
      obtain rfl := aE (hS 6 (by decide))
      obtain rfl := aP (hS 7 (by decide))
      obtain rfl := a5 (hS 8 (by decide))
      obtain rfl := bb (hS 9 (by decide))
      obtain rfl := bG (hS 10 (by decide))
      obtain rfl := cn (hS 11 (by decide))
      obtain rfl := C
      have ez := av.mono d
      refine t_ (c_ hFx bn (fun _ eA => ?_) fun _ cH => ?_)
      ·
       have cv : Fr 66 [] [⟨0, [], .slice ao1 m.length cap2⟩, ⟨1, [], .func (.func fid3) #[] caps4⟩, ⟨5, [], i6 y⟩, ⟨6, [], .slice D (u0.length - f.toNat) E⟩, ⟨7, [], i6 j⟩] cu := hFx.reg
       refine sqH ?_; intro eB cw
       refine bt cv hMx 4 [] [] [(50, .slice ao1 m.length cap2), (51, i6 y), (52, .slice D (u0.length - f.toNat) E), (53, i6 j)] ?_; intro gG cx
       obtain ⟨eC, cy⟩ := eA
       refine ixos cx hMx 0 (T := tyLine) (xs := m) (ht := u0.length) ez j eC (k := .i64) (e := 42) (bytes := 64) (nog rfl _) rfl (by kernel_rfl) rfl (by kernel_rfl) (by kernel_rfl) rfl (by kernel_rfl) ?_; intro be gH eD cz
       subst eD
       have bo : Mem B [] w0 Z0 ((.own tyLine 42 (sm be) cap2 m) :: Rr) Z ey := hMx
       obtain ⟨z, eE, cA⟩ := gxq cy (by first | omega | (simp only [List.length_set] at *; omega))
       obtain ⟨gI, eF, eG⟩ := own_el bo 0 (T := tyLine) (xs := m) rfl ((f.toNat + j.toNat : Nat) : Int).toNat eE
       obtain ⟨bp, bq, rfl, cB⟩ := eF
       have eH := cA (cB.small)
       refine lc2 cz 55 8 (e42E z bp bq) eG rfl ?_; intro gJ cC
       obtain ⟨eI, cD⟩ := eH
       refine ixo cC bo 0 (T := tyLine) (xs := m) y eI (k := .i64) (e := 42) (bytes := 64) (nog rfl _) rfl (by kernel_rfl) rfl (by kernel_rfl) (by kernel_rfl) rfl (by kernel_rfl) ?_; intro eJ eK eL br
       obtain rfl : be = eJ := by simpa using eL
       refine so br bo 0 (T := tyLine) (xs := m) y.toNat z (u := .agg (e42E z bp bq).toArray) (nog rfl _) rfl rfl (by kernel_rfl) rfl (by kernel_rfl) rfl (by kernel_rfl) (by first | omega | (simp only [List.length_set] at *; omega)) ⟨bp, bq, rfl, cB⟩ ?_; intro eM cE
       have cF : Fr 66 [] [⟨0, [], .slice (sm be) (m.set y.toNat z).length cap2⟩, ⟨1, [], .func (.func fid3) #[] caps4⟩, ⟨5, [], i6 y⟩, ⟨6, [], .slice D (u0.length - f.toNat) E⟩, ⟨7, [], i6 j⟩, ⟨50, [], .slice (sm be) (m.set y.toNat z).length cap2⟩, ⟨51, [], i6 y⟩, ⟨52, [], .slice D (u0.length - f.toNat) E⟩, ⟨53, [], i6 j⟩, ⟨54, [], .pointer (some ⟨be, ((f.toNat + j.toNat : Nat) : Int).toNat * 8, none⟩)⟩, ⟨55, [], .agg (e42E z bp bq).toArray⟩, ⟨56, [], .pointer (some ⟨be, y.toNat * 8, none⟩)⟩] eK := by (try simp only [List.length_set] at br); (try simp only [List.length_set]); exact br.reg
       have bM : Mem B [] w0 Z0 ((.own tyLine 42 (sm be) cap2 (m.set y.toNat z)) :: Rr) Z eM := cE
       apply cw
       refine rgB cF bM [] [] [(5, i6 (w64 (y + 1)))] ?_; intro gK cG
       refine j_ (t_ (rgB cG bM [] [] [(7, i6 (w64 (j + 1)))] ?_)); intro gL eN
       exact d_ ⟨⟨w64 (y + 1), w64 (j + 1), m.set y.toNat z⟩, cD.1, cD.2, (eN.reg).anyβ _ (by kernel_rfl), bM.kp⟩
      refine l_ (j_ (t_ ?_))
      have cI : Fr 66 [] [⟨0, [], .slice ao1 m.length cap2⟩, ⟨1, [], .func (.func fid3) #[] caps4⟩, ⟨5, [], i6 y⟩, ⟨6, [], .slice D (u0.length - f.toNat) E⟩, ⟨7, [], i6 j⟩] cu := hFx.reg
      refine rgB cI hMx [] [] [(7, i6 (w64 (j + 1)))] ?_; intro gM eO
      exact d_ ⟨⟨y, w64 (j + 1), m⟩, cH.1, cH.2, (eO.reg).anyβ _ (by kernel_rfl), hMx.kp⟩
    refine x_ (y_ (y_ (z_ (t_ (sqH ?_))))); intro eQ cJ
    refine bt bh cj 2 [] [] [(59, .slice ao1 m.length cap2), (60, i6 y)] ?_; intro gN cK
    obtain ⟨gO, eR⟩ := eP
    refine slX cK (ao := ao1) (n' := m.length) (cap := cap2) y.toNat m.length 8 (by omega) (cj.ownLec 0 rfl) (e := 42) (bytes := 64) (nog rfl _) rfl (by kernel_rfl) rfl (by kernel_rfl) (by kernel_rfl) (.inr ⟨.i64, _, rfl, by rw [Int.toNat_of_nonneg (by omega)]; kernel_rfl⟩) (.inl ⟨rfl, rfl⟩) ?_; intro gP bN
    refine clrT bN cj 0 (T := tyLine) (xs := m) (ao := ao1) (cap := cap2) y.toNat m.length ⟨by omega, by omega, cj.ownLec 0 rfl⟩ (e := 42) (bytes := 64) (zs := [i6 0, i6 0, i6 0, .bool false, .bool false, .bool false, i6 0, .slice none 0 0]) (nog rfl _) rfl rfl (by kernel_rfl) (by kernel_rfl) rfl (by kernel_rfl) (by kernel_rfl) ?_; intro eS cL
    have bO : Mem B [] w0 Z0 ((.own tyLine 42 ao1 cap2 (m.take y.toNat)) :: Rr) Z eS := cL
    apply cJ
    refine sqH ?_; intro eT cM
    refine bt bN bO 2 [] [] [(62, .slice ao1 m.length cap2), (63, i6 y)] ?_; intro gQ cN
    obtain ⟨eU, eV⟩ := eR
    refine slW cN bO 0 (T := tyLine) (ys := (m.take y.toNat)) (ao := ao1) (cap := cap2) (n' := m.length) y eU (e := 42) (bytes := 64) (k := .i64) (nog rfl _) rfl (by kernel_rfl) rfl (by kernel_rfl) rfl (by kernel_rfl) (by kernel_rfl) ?_; intro gR cO
    refine s1 cO 4 (.slice ao1 (m.take y.toNat).length cap2) ?_; intro gS eW
    apply cM
    exact r_ (i_ (h_ (h_ (i_ (h_ (ra1 eW (.slice ao1 (m.take y.toNat).length cap2) ⟨(m.take y.toNat), ao1, cap2, Z, rfl, eV, h, bO.kp⟩))))))
   refine l_ (j_ (t_ ?_))
   have cQ : Fr 66 [] [⟨0, [], .slice ao1 u0.length cap2⟩, ⟨1, [], .func (.func fid3) #[] caps4⟩, ⟨5, [], i6 f⟩] b7 := hFx.reg
   refine rgB cQ hMx [] [] [(5, i6 (w64 (f + 1)))] ?_; intro gT eX
   exact d_ ⟨w64 (f + 1), cP.1, cP.2, (eX.reg).anyβ _ (by kernel_rfl), hMx.kp⟩
 refine x_ (y_ (y_ (z_ (t_ (sqB bg bW [] [] [(4, .slice ao1 u0.length cap2)] ?_))))); intro gU eZ
 exact r_ (ra1 eZ (.slice ao1 u0.length cap2) ⟨u0, ao1, cap2, Z, rfl, eY, h, bW.kp⟩)

end Go.Proofs.Ytmkdnaecmombnaa
