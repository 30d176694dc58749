/- Texts put together (pure ones, or walks made by program). -/
import Derived.Test.YtdndfbamhnchfaaDoorKc0
import Derived.Test.YtdndfbamhnchfaaDoorKc1
import Derived.Test.YtdndfbamhnchfaaDoorKc2
import Derived.Test.YtdndfbamhnchfaaDoorKc3
import Derived.Shelf.Lay
import Derived.Ground.NamesProg
import Derived.Shelf.Strings.SlTrimAscii
namespace Go.Proofs
open Go.Shelf
def Tryd.lays160_ren : Go.Shelf.Ren := ⟨fun | 160 => 60 | 232 => 92 | 231 => 91 | 227 => 93 | 234 => 95 | 233 => 94 | 236 => 97 | 235 => 96 | 228 => 112 | 271 => 115 | 151 => 114 | 197 => 113 | 120 => 131 | 152 => 130 | 260 => 129 | 137 => 140 | 119 => 141 | 224 => 142 | 225 => 143 | 217 => 145 | 266 => 146 | n => n, fun | 9 => 9 | 4 => 4 | 3 => 3 | 5 => 5 | 117 => 115 | 116 => 114 | 0 => 0 | 124 => 118 | 21 => 21 | 105 => 133 | 46 => 84 | 119 => 159 | 139 => 162 | 138 => 161 | n => n, fun | 3 => 0 | 4 => 1 | n => n⟩
theorem Tryd.lays160 : Go.Proofs.Lays.n160 Tryd.prog Tryd.lays160_ren := {
  mixed := by kernel_rfl
  f119 := Tryd.func141.trans (congrArg some (by kernel_rfl))
  f120 := Tryd.func131.trans (congrArg some (by kernel_rfl))
  f137 := Tryd.func140.trans (congrArg some (by kernel_rfl))
  f151 := Tryd.func114.trans (congrArg some (by kernel_rfl))
  f152 := Tryd.func130.trans (congrArg some (by kernel_rfl))
  f160 := Tryd.func60.trans (congrArg some (by kernel_rfl))
  f197 := Tryd.func113.trans (congrArg some (by kernel_rfl))
  f217 := Tryd.func145.trans (congrArg some (by kernel_rfl))
  f224 := Tryd.func142.trans (congrArg some (by kernel_rfl))
  f225 := Tryd.func143.trans (congrArg some (by kernel_rfl))
  f227 := Tryd.func93.trans (congrArg some (by kernel_rfl))
  f228 := Tryd.func112.trans (congrArg some (by kernel_rfl))
  f231 := Tryd.func91.trans (congrArg some (by kernel_rfl))
  f232 := Tryd.func92.trans (congrArg some (by kernel_rfl))
  f233 := Tryd.func94.trans (congrArg some (by kernel_rfl))
  f234 := Tryd.func95.trans (congrArg some (by kernel_rfl))
  f235 := Tryd.func96.trans (congrArg some (by kernel_rfl))
  f236 := Tryd.func97.trans (congrArg some (by kernel_rfl))
  f260 := Tryd.func129.trans (congrArg some (by kernel_rfl))
  f266 := Tryd.func146.trans (congrArg some (by kernel_rfl))
  f271 := Tryd.func115.trans (congrArg some (by kernel_rfl))
  t0 := Tryd.underlying0
  a0 := Tryd.isAgg0
  z0 := Tryd.sizeOf0
  v0 := Tryd.zeroValue0
  t3 := Tryd.underlying3
  a3 := Tryd.isAgg3
  z3 := Tryd.sizeOf3
  v3 := Tryd.zeroValue3
  t4 := Tryd.underlying4
  a4 := Tryd.isAgg4
  z4 := Tryd.sizeOf4
  v4 := Tryd.zeroValue4
  t5 := Tryd.underlying5
  a5 := Tryd.isAgg5
  z5 := Tryd.sizeOf5
  v5 := Tryd.zeroValue5
  t9 := Tryd.underlying9
  a9 := Tryd.isAgg9
  z9 := Tryd.sizeOf9
  v9 := Tryd.zeroValue9
  t21 := Tryd.underlying21
  a21 := Tryd.isAgg21
  z21 := Tryd.sizeOf21
  v21 := Tryd.zeroValue21
  t46 := Tryd.underlying84
  a46 := Tryd.isAgg84
  z46 := Tryd.sizeOf84
  v46 := Tryd.zeroValue84
  t105 := Tryd.underlying133
  a105 := Tryd.isAgg133
  z105 := Tryd.sizeOf133
  v105 := Tryd.zeroValue133
  t116 := Tryd.underlying114
  a116 := Tryd.isAgg114
  z116 := Tryd.sizeOf114
  t117 := Tryd.underlying115
  a117 := Tryd.isAgg115
  z117 := Tryd.sizeOf115
  v117 := Tryd.zeroValue115
  t119 := Tryd.underlying159
  a119 := Tryd.isAgg159
  z119 := Tryd.sizeOf159
  t124 := Tryd.underlying118
  a124 := Tryd.isAgg118
  z124 := Tryd.sizeOf118
  v124 := Tryd.zeroValue118
  t138 := Tryd.underlying161
  a138 := Tryd.isAgg161
  z138 := Tryd.sizeOf161
  v138 := Tryd.zeroValue161
  t139 := Tryd.underlying162
  a139 := Tryd.isAgg162
  z139 := Tryd.sizeOf162
  v139 := Tryd.zeroValue162
  g3 := by kernel_rfl
  g4 := by kernel_rfl }
end Go.Proofs
set_option linter.unusedVariables false
set_option linter.unusedSimpArgs false
set_option maxRecDepth 100000
set_option maxHeartbeats 0
namespace Go.Proofs.YtdndfbamhnchfaaDoor
open Go.Sy Go.RowKit
abbrev e23P (X : Signal) : List Value := [str X.Name, i6 X.Start, i6 X.Size, .bool X.Back, .bool X.Signed, i6 X.Mul, i6 X.Div, i6 X.Add, i6 X.Key]
theorem iidxf_walk (u0 : List Int) (u1 : Int → Bool) (ao1 : Option Addr) (cap2 : Nat) (fid4 : Nat) (caps5 : Array Value) (Z : Fz) (w : World) (hs3 : SlR t6 Z ao1 cap2 u0) (hf6 : ∀ (Z1 : Fz) (w1 : World), Z.le Z1 → Z1.on w1 → ∀ (x0 : Int), Calls Tryd.prog fid4 (#[i6 x0] ++ caps5) w1 fun e w2 => e = .returned (.bool (u1 x0)) ∧ Below w1.heap.size w1 w2) (hg7 : ∀ x w, Sem.run Tryd.prog (callFunc fid4 x) w = .ok (.enter fid4 x) w) (hZ : Z.on w) {K : Int → Prop} (hp : iidxf_vc u0 u1 K) : Calls Tryd.prog 101 #[.slice ao1 u0.length cap2, .func (.func fid4) #[] caps5] w fun e w' => ∃ r : Int, e = .returned (i6 r) ∧ K r ∧ Below w.heap.size w w' := by
 refine enter0 Tryd.func101 rfl rfl (by kernel_rfl) ?_; intro a0 n; have g := Mem.start w Z hZ; have I := Fz.le.refl Z
 have J := hp (hs3.small); clear hp
 refine sqB n g [] [] [] ?_; intro ah o; clear n
 refine wp_seq ?_
 refine sqB o g [] [] [(7, i6 (u0.length : Int)), (8, i6 0)] ?_; intro p q; clear o
 refine wp_block ?_
 have u : Fr 19 [] [⟨0, [], .slice ao1 u0.length cap2⟩, ⟨1, [], .func (.func fid4) #[] caps5⟩, ⟨7, [], i6 (u0.length : Int)⟩, ⟨8, [], i6 0⟩] p := q.region (by kernel_rfl) (by kernel_rfl); clear q
 have v : Fr 19 [] [⟨0, [], .slice ao1 u0.length cap2⟩, ⟨1, [], .func (.func fid4) #[] caps5⟩, ⟨7, [], i6 (u0.length : Int)⟩, ⟨8, [], i6 0⟩] p := u.region (by kernel_rfl) (by kernel_rfl); clear u
 obtain ⟨L, M, N, O⟩ := J
 refine lp (ι := Int) (fun s => [⟨0, [], .slice ao1 u0.length cap2⟩, ⟨1, [], .func (.func fid4) #[] caps5⟩, ⟨7, [], i6 (u0.length : Int)⟩, ⟨8, [], i6 s⟩]) (fun s => []) (fun s => Z) (fun s => L s) (fun s => M s) 0 N (by exact v.region (by kernel_rfl) (by kernel_rfl)) (by exact g) ?_
 rintro a P Q R y z
 have A : Fr 19 [] [⟨0, [], .slice ao1 u0.length cap2⟩, ⟨1, [], .func (.func fid4) #[] caps5⟩, ⟨7, [], i6 (u0.length : Int)⟩, ⟨8, [], i6 a⟩] Q := y; clear y v
 have b : Mem w.heap.size [] w Z [] Z R := z; clear z g
 have h := O a P
 refine sqB A b [] [] [(9, .bool (decide (a < (u0.length : Int))))] ?_; intro ai d; clear A
 refine wp_seq ?_
 refine cd d (t := decide (a < (u0.length : Int))) (by kernel_rfl) (fun l => ?_) (fun l => ?_)
 · -- yes
  have S := h.1 l; clear h
  refine wp_skip ?_
  refine thn ?_
  refine wp_seq ?_
  refine wp_block ?_
  refine sqB d b [] [] [(5, i6 a)] ?_; intro aj B; clear d
  refine sqH ?_; intro U C
  refine bt B b 3 [] [] [(11, .func (.func fid4) #[] caps5), (12, .slice ao1 u0.length cap2), (13, i6 a)] ?_; intro ak D; clear B
  obtain ⟨V, E⟩ := S
  refine ix D (T := t6) (xs := u0) hs3 a V (k := .i64) (e := 3) (bytes := 8) (nog rfl _) rfl (by kernel_rfl) rfl (by kernel_rfl) (by kernel_rfl) (by kernel_rfl) ?_; intro al am W c an X Y aa F; clear D
  have i := E c X; clear E
  obtain rfl : W = ([i6 c] : List Value) := aa
  refine z1 F b 15 Y 0 (i6 c) rfl ?_; intro ao G; clear F
  have ab := hf6 _ _ I b.fz c
  refine fcl G b (.bool (u1 c)) fid4 (#[i6 c] ++ caps5) (nog rfl _) rfl (by kernel_rfl) ?h1 ?h2 ?_
  case h1 => exact fv_run rfl (by kernel_rfl) (by kernel_rfl) hg7
  case h2 => exact ab
  intro ap aq f j; clear G b
  refine nlH (C _ _ ?_); clear C U
  refine cd f (t := (u1 c)) (by kernel_rfl) (fun m => ?_) (fun m => ?_)
  · -- yes
   have ac := i.1 m; clear i
   refine sqB f j [] [] [(4, i6 a)] ?_; intro ar ad; clear f
   refine wp_ret ?_
   refine ibr ?_
   refine thr ?_
   refine thr ?_
   refine ibr ?_
   refine thr ?_
   refine ra1 ad (i6 a) ?_
   exact ⟨a, rfl, ac, j.below⟩
  · -- no
   have H := i.2 m; clear i
   refine wp_skip ?_
   refine ibn ?_
   refine thn ?_
   refine rgB f j [] [] [(8, i6 (w64 (a + 1)))] ?_; intro au ae; clear f
   refine rd ?_
   exact ⟨w64 (a + 1), H.1, H.2, (ae.region (by kernel_rfl) (by kernel_rfl)).anyβ _ (by kernel_rfl), j.keep (List.Sublist.slnil)⟩
 · -- no
  have af := h.2 l; clear h
  refine wp_exit ?_
  refine thx ?_
  refine thx ?_
  refine ibx ?_
  refine thn ?_
  refine sqB d b [] [] [(4, i6 (-1))] ?_; intro av ag; clear d
  refine wp_ret ?_
  refine ra1 ag (i6 (-1)) ?_
  exact ⟨-1, rfl, af, b.below⟩

theorem icontf_walk (u0 : List Int) (u1 : Int → Bool) (ao1 : Option Addr) (cap2 : Nat) (fid4 : Nat) (caps5 : Array Value) (Z : Fz) (w : World) (hs3 : SlR t6 Z ao1 cap2 u0) (hf6 : ∀ (Z1 : Fz) (w1 : World), Z.le Z1 → Z1.on w1 → ∀ (x0 : Int), Calls Tryd.prog fid4 (#[i6 x0] ++ caps5) w1 fun e w2 => e = .returned (.bool (u1 x0)) ∧ Below w1.heap.size w1 w2) (hg7 : ∀ x w, Sem.run Tryd.prog (callFunc fid4 x) w = .ok (.enter fid4 x) w) (hZ : Z.on w) {K : Bool → Prop} (hp : icontf_vc u0 u1 K) : Calls Tryd.prog 63 #[.slice ao1 u0.length cap2, .func (.func fid4) #[] caps5] w fun e w' => ∃ r : Bool, e = .returned (.bool r) ∧ K r ∧ Below w.heap.size w w' := by
 refine enter0 Tryd.func63 rfl rfl (by kernel_rfl) ?_; intro o c; have a := Mem.start w Z hZ; have j := Fz.le.refl Z
 have k := hp (hs3.small); clear hp
 refine sqB c a [] [] [] ?_; intro p d; clear c
 refine sqH ?_; intro l f
 refine bt d a 2 [] [] [(5, .slice ao1 u0.length cap2), (6, .func (.func fid4) #[] caps5)] ?_; intro q g; clear d
 refine ck g 101 #[.slice ao1 u0.length cap2, .func (.func fid4) #[] caps5] ?_
 refine (iidxf_walk u0 u1 ao1 cap2 fid4 caps5 _ _ hs3 (fun Z1 w1 h1 h2 => hf6 Z1 w1 (j.trans h1) h2) hg7 a.fz k).mono ?_; rintro _ s ⟨b, rfl, m, hb⟩; refine ⟨_, rfl, ?_⟩; intro t h; have i := a.call hb; clear hb a g
 refine bt h i 2 [] [] [(4, .bool (decide (b ≥ 0)))] ?_; intro u n; clear h
 refine nlH (f _ _ ?_); clear f l
 refine wp_ret ?_
 refine ra1 n (.bool (decide (b ≥ 0))) ?_
 exact ⟨decide (b ≥ 0), rfl, m, i.below⟩

theorem rplaces_walk (u0 : Signal)  (Z : Fz) (w : World)  (hZ : Z.on w) {K : (List Int) → Prop} (hp : rplaces_vc u0 K) : Calls Tryd.prog 25 #[.agg #[str u0.Name, i6 u0.Start, i6 u0.Size, .bool u0.Back, .bool u0.Signed, i6 u0.Mul, i6 u0.Div, i6 u0.Add, i6 u0.Key]] w fun e w' => ∃ (r : (List Int)) (ao1001 : Option Addr) (cap1002 : Nat) (Z' : Fz), e = .returned (.slice ao1001 r.length cap1002) ∧ K r ∧ Mem w.heap.size [] w Z [.own t6 3 ao1001 cap1002 r] Z' w' := by
 refine enter0 Tryd.func25 rfl rfl (by kernel_rfl) ?_; intro a0 C; have D := Mem.start w Z hZ; have bb := Fz.le.refl Z
 refine sqH ?_; intro av E
 refine nw C D pb (e23P u0) 23 ?_; intro f a3 bc F x; clear C D
 refine s1 F 2 (.slice none 0 0) ?_; intro a7 G; clear F
 refine nlH (E _ _ ?_); clear E av
 refine sqH ?_; intro aw H
 refine bt G x 2 [0] [] [(9, i6 u0.Size)] ?_; intro bd I; clear G
 obtain ⟨be, n⟩ := hp
 refine mks I x (T := t6) u0.Size u0.Size (k := .i64) (k' := .i64) (e := 3) (bytes := 8) (zs := [i6 0]) (z := 0) (by simp only [lim]; omega) (nog rfl _) rfl (by kernel_rfl) rfl (by kernel_rfl) (by kernel_rfl) (by kernel_rfl) (by kernel_rfl) rfl ?_; intro b bf ax J L; clear I x
 have h : Mem w.heap.size [] w Z [.own t6 3 (sm b) u0.Size.toNat (List.replicate u0.Size.toNat (0 : Int)), .row f (e23P u0) 23] Z ax := L; clear L
 refine s1 J 3 (.slice (sm b) (List.replicate u0.Size.toNat (0 : Int)).length u0.Size.toNat) ?_; intro bg M; clear J
 refine nlH (H _ _ ?_); clear H aw
 refine wp_seq ?_
 refine sqB M h [1] [] [(13, .bool (!u0.Back))] ?_; intro bh j; clear M
 refine cd j (t := !u0.Back) (by kernel_rfl) (fun y => ?_) (fun y => ?_)
 · -- yes
  have ay := n.1 y; clear n
  refine wp_seq ?_
  refine sqB j h [] [] [(15, i6 ((List.replicate u0.Size.toNat (0 : Int)).length : Int)), (16, i6 0)] ?_; intro N O; clear j
  refine wp_block ?_
  have P : Fr 61 [] [⟨1, [], pt f 0⟩, ⟨3, [], .slice (sm b) (List.replicate u0.Size.toNat (0 : Int)).length u0.Size.toNat⟩, ⟨15, [], i6 ((List.replicate u0.Size.toNat (0 : Int)).length : Int)⟩, ⟨16, [], i6 0⟩] N := O.region (by kernel_rfl) (by kernel_rfl); clear O
  have Q : Fr 61 [] [⟨1, [], pt f 0⟩, ⟨3, [], .slice (sm b) (List.replicate u0.Size.toNat (0 : Int)).length u0.Size.toNat⟩, ⟨15, [], i6 ((List.replicate u0.Size.toNat (0 : Int)).length : Int)⟩, ⟨16, [], i6 0⟩] N := P.region (by kernel_rfl) (by kernel_rfl); clear P
  obtain ⟨az, aA, aB, aC⟩ := ay
  refine lp (ι := Int × (List Int)) (fun s => [⟨1, [], pt f 0⟩, ⟨3, [], .slice (sm b) s.2.length u0.Size.toNat⟩, ⟨15, [], i6 ((List.replicate u0.Size.toNat (0 : Int)).length : Int)⟩, ⟨16, [], i6 s.1⟩]) (fun s => [.own t6 3 (sm b) u0.Size.toNat s.2, .row f (e23P u0) 23]) (fun s => Z) (fun s => az s.1 s.2) (fun s => aA s.1 s.2) ⟨0, (List.replicate u0.Size.toNat (0 : Int))⟩ aB (by exact Q.region (by kernel_rfl) (by kernel_rfl)) (by exact h) ?_
  rintro ⟨c, d⟩ aD aE aF R S
  have U : Fr 61 [] [⟨1, [], pt f 0⟩, ⟨3, [], .slice (sm b) d.length u0.Size.toNat⟩, ⟨15, [], i6 ((List.replicate u0.Size.toNat (0 : Int)).length : Int)⟩, ⟨16, [], i6 c⟩] aE := R; clear R Q
  have i : Mem w.heap.size [] w Z [.own t6 3 (sm b) u0.Size.toNat d, .row f (e23P u0) 23] Z aF := S; clear S h
  have o := aC c d aD
  refine sqB U i [] [] [(17, .bool (decide (c < ((List.replicate u0.Size.toNat (0 : Int)).length : Int))))] ?_; intro bi l; clear U
  refine wp_seq ?_
  refine cd l (t := decide (c < ((List.replicate u0.Size.toNat (0 : Int)).length : Int))) (by kernel_rfl) (fun A => ?_) (fun A => ?_)
  · -- yes
   have aG := o.1 A; clear o
   refine wp_skip ?_
   refine thn ?_
   refine wp_seq ?_
   refine wp_block ?_
   refine sqB l i [] [] [(4, i6 c)] ?_; intro bj V; clear l
   refine rgH ?_; intro aH W
   refine bt V i 6 [1] [] [(19, .slice (sm b) d.length u0.Size.toNat), (20, i6 c), (24, i6 (w64 (u0.Start + c)))] ?_; intro bk X; clear V
   obtain ⟨aI, Y⟩ := aG
   refine ixo X i 0 (T := t6) (xs := d) c aI (k := .i64) (e := 3) (bytes := 8) (nog rfl _) rfl (by kernel_rfl) rfl (by kernel_rfl) (by kernel_rfl) rfl (by kernel_rfl) ?_; intro aJ aK aL p; clear X
   obtain rfl : b = aJ := by simpa using aL
   refine so p i 0 (T := t6) (xs := d) c.toNat (w64 (u0.Start + c)) (u := i6 (w64 (u0.Start + c))) (nog rfl _) rfl rfl (by kernel_rfl) rfl (by kernel_rfl) rfl (by kernel_rfl) (by first | omega | (simp only [List.length_set] at *; omega)) rfl ?_; intro aM aa; clear i
   have ab : Fr 61 [] [⟨1, [], pt f 0⟩, ⟨3, [], .slice (sm b) (d.set c.toNat (w64 (u0.Start + c))).length u0.Size.toNat⟩, ⟨4, [], i6 c⟩, ⟨15, [], i6 ((List.replicate u0.Size.toNat (0 : Int)).length : Int)⟩, ⟨16, [], i6 c⟩, ⟨17, [], .bool (decide (c < ((List.replicate u0.Size.toNat (0 : Int)).length : Int)))⟩, ⟨19, [], .slice (sm b) (d.set c.toNat (w64 (u0.Start + c))).length u0.Size.toNat⟩, ⟨20, [], i6 c⟩, ⟨24, [], i6 (w64 (u0.Start + c))⟩, ⟨25, [], .pointer (some ⟨b, c.toNat * 1, none⟩)⟩] aK := by (try simp only [List.length_set] at p); (try simp only [List.length_set]); exact p.region (by kernel_rfl) (by kernel_rfl)
   clear p
   have ac : Mem w.heap.size [] w Z [.own t6 3 (sm b) u0.Size.toNat (d.set c.toNat (w64 (u0.Start + c))), .row f (e23P u0) 23] Z aM := aa; clear aa
   refine nlH (W _ _ ?_); clear W aH
   refine ibn ?_
   refine thn ?_
   refine rgB ab ac [] [] [(16, i6 (w64 (c + 1)))] ?_; intro bl aN; clear ab
   refine rd ?_
   exact ⟨⟨w64 (c + 1), d.set c.toNat (w64 (u0.Start + c))⟩, Y.1, Y.2, (aN.region (by kernel_rfl) (by kernel_rfl)).anyβ _ (by kernel_rfl), ac.keep (List.Sublist.cons_cons _ (List.Sublist.cons_cons _ (List.Sublist.slnil)))⟩
  · -- no
   have aO := o.2 A; clear o
   refine wp_exit ?_
   refine thx ?_
   refine thx ?_
   refine ibx ?_
   refine thn ?_
   refine sqB l i [] [] [(2, .slice (sm b) d.length u0.Size.toNat)] ?_; intro bm aP; clear l
   refine wp_ret ?_
   refine thr ?_
   refine ra1 aP (.slice (sm b) d.length u0.Size.toNat) ?_
   exact ⟨d, (sm b), u0.Size.toNat, Z, rfl, aO, i.keep (List.Sublist.cons_cons _ (List.Sublist.cons _ (List.Sublist.slnil)))⟩
 · -- no
  have aQ := n.2 y; clear n
  refine wp_skip ?_
  refine thn ?_
  refine sqB j h [1, 1] [] [(5, i6 (w64 ((w64 ((w64 ((w64 (u0.Start.tdiv 8)) * 8)) + 7)) - (u0.Start.tmod 8))))] ?_; intro bn ad; clear j
  refine wp_seq ?_
  refine sqB ad h [] [] [(38, i6 ((List.replicate u0.Size.toNat (0 : Int)).length : Int)), (39, i6 0)] ?_; intro ae af; clear ad
  refine wp_block ?_
  have ag : Fr 61 [] [⟨1, [], pt f 0⟩, ⟨3, [], .slice (sm b) (List.replicate u0.Size.toNat (0 : Int)).length u0.Size.toNat⟩, ⟨5, [], i6 (w64 ((w64 ((w64 ((w64 (u0.Start.tdiv 8)) * 8)) + 7)) - (u0.Start.tmod 8)))⟩, ⟨38, [], i6 ((List.replicate u0.Size.toNat (0 : Int)).length : Int)⟩, ⟨39, [], i6 0⟩] ae := af.region (by kernel_rfl) (by kernel_rfl); clear af
  have ah : Fr 61 [] [⟨1, [], pt f 0⟩, ⟨3, [], .slice (sm b) (List.replicate u0.Size.toNat (0 : Int)).length u0.Size.toNat⟩, ⟨5, [], i6 (w64 ((w64 ((w64 ((w64 (u0.Start.tdiv 8)) * 8)) + 7)) - (u0.Start.tmod 8)))⟩, ⟨38, [], i6 ((List.replicate u0.Size.toNat (0 : Int)).length : Int)⟩, ⟨39, [], i6 0⟩] ae := ag.region (by kernel_rfl) (by kernel_rfl); clear ag
  obtain ⟨aR, aS, aT, aU⟩ := aQ
  refine lp (ι := Int × (List Int)) (fun s => [⟨1, [], pt f 0⟩, ⟨3, [], .slice (sm b) s.2.length u0.Size.toNat⟩, ⟨5, [], i6 (w64 ((w64 ((w64 ((w64 (u0.Start.tdiv 8)) * 8)) + 7)) - (u0.Start.tmod 8)))⟩, ⟨38, [], i6 ((List.replicate u0.Size.toNat (0 : Int)).length : Int)⟩, ⟨39, [], i6 s.1⟩]) (fun s => [.own t6 3 (sm b) u0.Size.toNat s.2, .row f (e23P u0) 23]) (fun s => Z) (fun s => aR s.1 s.2) (fun s => aS s.1 s.2) ⟨0, (List.replicate u0.Size.toNat (0 : Int))⟩ aT (by exact ah.region (by kernel_rfl) (by kernel_rfl)) (by exact h) ?_
  rintro ⟨a, d⟩ aV aW aX ai aj
  have ak : Fr 61 [] [⟨1, [], pt f 0⟩, ⟨3, [], .slice (sm b) d.length u0.Size.toNat⟩, ⟨5, [], i6 (w64 ((w64 ((w64 ((w64 (u0.Start.tdiv 8)) * 8)) + 7)) - (u0.Start.tmod 8)))⟩, ⟨38, [], i6 ((List.replicate u0.Size.toNat (0 : Int)).length : Int)⟩, ⟨39, [], i6 a⟩] aW := ai; clear ai ah
  have g : Mem w.heap.size [] w Z [.own t6 3 (sm b) u0.Size.toNat d, .row f (e23P u0) 23] Z aX := aj; clear aj h
  have q := aU a d aV
  refine sqB ak g [] [] [(40, .bool (decide (a < ((List.replicate u0.Size.toNat (0 : Int)).length : Int))))] ?_; intro bo m; clear ak
  refine wp_seq ?_
  refine cd m (t := decide (a < ((List.replicate u0.Size.toNat (0 : Int)).length : Int))) (by kernel_rfl) (fun B => ?_) (fun B => ?_)
  · -- yes
   have aY := q.1 B; clear q
   refine wp_skip ?_
   refine thn ?_
   refine wp_seq ?_
   refine wp_block ?_
   refine sqB m g [] [] [(6, i6 a)] ?_; intro bp al; clear m
   refine sqB al g [1] [] [(7, i6 (w64 ((w64 ((w64 ((w64 ((w64 ((w64 ((w64 (u0.Start.tdiv 8)) * 8)) + 7)) - (u0.Start.tmod 8))) + u0.Size)) - 1)) - a)))] ?_; intro bq am; clear al
   refine rgH ?_; intro aZ an
   refine bt am g 9 [] [] [(49, .slice (sm b) d.length u0.Size.toNat), (50, i6 a), (57, i6 (w64 ((w64 ((w64 ((w64 ((w64 ((w64 ((w64 ((w64 ((w64 ((w64 ((w64 (u0.Start.tdiv 8)) * 8)) + 7)) - (u0.Start.tmod 8))) + u0.Size)) - 1)) - a)).tdiv 8)) * 8)) + 7)) - ((w64 ((w64 ((w64 ((w64 ((w64 ((w64 ((w64 (u0.Start.tdiv 8)) * 8)) + 7)) - (u0.Start.tmod 8))) + u0.Size)) - 1)) - a)).tmod 8))))] ?_; intro br ao; clear am
   obtain ⟨a1, ap⟩ := aY
   refine ixo ao g 0 (T := t6) (xs := d) a a1 (k := .i64) (e := 3) (bytes := 8) (nog rfl _) rfl (by kernel_rfl) rfl (by kernel_rfl) (by kernel_rfl) rfl (by kernel_rfl) ?_; intro a2 a4 a5 v; clear ao
   obtain rfl : b = a2 := by simpa using a5
   refine so v g 0 (T := t6) (xs := d) a.toNat (w64 ((w64 ((w64 ((w64 ((w64 ((w64 ((w64 ((w64 ((w64 ((w64 ((w64 (u0.Start.tdiv 8)) * 8)) + 7)) - (u0.Start.tmod 8))) + u0.Size)) - 1)) - a)).tdiv 8)) * 8)) + 7)) - ((w64 ((w64 ((w64 ((w64 ((w64 ((w64 ((w64 (u0.Start.tdiv 8)) * 8)) + 7)) - (u0.Start.tmod 8))) + u0.Size)) - 1)) - a)).tmod 8))) (u := i6 (w64 ((w64 ((w64 ((w64 ((w64 ((w64 ((w64 ((w64 ((w64 ((w64 ((w64 (u0.Start.tdiv 8)) * 8)) + 7)) - (u0.Start.tmod 8))) + u0.Size)) - 1)) - a)).tdiv 8)) * 8)) + 7)) - ((w64 ((w64 ((w64 ((w64 ((w64 ((w64 ((w64 (u0.Start.tdiv 8)) * 8)) + 7)) - (u0.Start.tmod 8))) + u0.Size)) - 1)) - a)).tmod 8)))) (nog rfl _) rfl rfl (by kernel_rfl) rfl (by kernel_rfl) rfl (by kernel_rfl) (by first | omega | (simp only [List.length_set] at *; omega)) rfl ?_; intro a6 aq; clear g
   have ar : Fr 61 [] [⟨1, [], pt f 0⟩, ⟨3, [], .slice (sm b) (d.set a.toNat (w64 ((w64 ((w64 ((w64 ((w64 ((w64 ((w64 ((w64 ((w64 ((w64 ((w64 (u0.Start.tdiv 8)) * 8)) + 7)) - (u0.Start.tmod 8))) + u0.Size)) - 1)) - a)).tdiv 8)) * 8)) + 7)) - ((w64 ((w64 ((w64 ((w64 ((w64 ((w64 ((w64 (u0.Start.tdiv 8)) * 8)) + 7)) - (u0.Start.tmod 8))) + u0.Size)) - 1)) - a)).tmod 8)))).length u0.Size.toNat⟩, ⟨5, [], i6 (w64 ((w64 ((w64 ((w64 (u0.Start.tdiv 8)) * 8)) + 7)) - (u0.Start.tmod 8)))⟩, ⟨6, [], i6 a⟩, ⟨7, [], i6 (w64 ((w64 ((w64 ((w64 ((w64 ((w64 ((w64 (u0.Start.tdiv 8)) * 8)) + 7)) - (u0.Start.tmod 8))) + u0.Size)) - 1)) - a))⟩, ⟨38, [], i6 ((List.replicate u0.Size.toNat (0 : Int)).length : Int)⟩, ⟨39, [], i6 a⟩, ⟨40, [], .bool (decide (a < ((List.replicate u0.Size.toNat (0 : Int)).length : Int)))⟩, ⟨49, [], .slice (sm b) (d.set a.toNat (w64 ((w64 ((w64 ((w64 ((w64 ((w64 ((w64 ((w64 ((w64 ((w64 ((w64 (u0.Start.tdiv 8)) * 8)) + 7)) - (u0.Start.tmod 8))) + u0.Size)) - 1)) - a)).tdiv 8)) * 8)) + 7)) - ((w64 ((w64 ((w64 ((w64 ((w64 ((w64 ((w64 (u0.Start.tdiv 8)) * 8)) + 7)) - (u0.Start.tmod 8))) + u0.Size)) - 1)) - a)).tmod 8)))).length u0.Size.toNat⟩, ⟨50, [], i6 a⟩, ⟨57, [], i6 (w64 ((w64 ((w64 ((w64 ((w64 ((w64 ((w64 ((w64 ((w64 ((w64 ((w64 (u0.Start.tdiv 8)) * 8)) + 7)) - (u0.Start.tmod 8))) + u0.Size)) - 1)) - a)).tdiv 8)) * 8)) + 7)) - ((w64 ((w64 ((w64 ((w64 ((w64 ((w64 ((w64 (u0.Start.tdiv 8)) * 8)) + 7)) - (u0.Start.tmod 8))) + u0.Size)) - 1)) - a)).tmod 8)))⟩, ⟨58, [], .pointer (some ⟨b, a.toNat * 1, none⟩)⟩] a4 := by (try simp only [List.length_set] at v); (try simp only [List.length_set]); exact v.region (by kernel_rfl) (by kernel_rfl)
   clear v
   have au : Mem w.heap.size [] w Z [.own t6 3 (sm b) u0.Size.toNat (d.set a.toNat (w64 ((w64 ((w64 ((w64 ((w64 ((w64 ((w64 ((w64 ((w64 ((w64 ((w64 (u0.Start.tdiv 8)) * 8)) + 7)) - (u0.Start.tmod 8))) + u0.Size)) - 1)) - a)).tdiv 8)) * 8)) + 7)) - ((w64 ((w64 ((w64 ((w64 ((w64 ((w64 ((w64 (u0.Start.tdiv 8)) * 8)) + 7)) - (u0.Start.tmod 8))) + u0.Size)) - 1)) - a)).tmod 8)))), .row f (e23P u0) 23] Z a6 := aq; clear aq
   refine nlH (an _ _ ?_); clear an aZ
   refine ibn ?_
   refine thn ?_
   refine rgB ar au [] [] [(39, i6 (w64 (a + 1)))] ?_; intro bs a8; clear ar
   refine rd ?_
   exact ⟨⟨w64 (a + 1), d.set a.toNat (w64 ((w64 ((w64 ((w64 ((w64 ((w64 ((w64 ((w64 ((w64 ((w64 ((w64 (u0.Start.tdiv 8)) * 8)) + 7)) - (u0.Start.tmod 8))) + u0.Size)) - 1)) - a)).tdiv 8)) * 8)) + 7)) - ((w64 ((w64 ((w64 ((w64 ((w64 ((w64 ((w64 (u0.Start.tdiv 8)) * 8)) + 7)) - (u0.Start.tmod 8))) + u0.Size)) - 1)) - a)).tmod 8)))⟩, ap.1, ap.2, (a8.region (by kernel_rfl) (by kernel_rfl)).anyβ _ (by kernel_rfl), au.keep (List.Sublist.cons_cons _ (List.Sublist.cons_cons _ (List.Sublist.slnil)))⟩
  · -- no
   have a9 := q.2 B; clear q
   refine wp_exit ?_
   refine thx ?_
   refine thx ?_
   refine ibx ?_
   refine thn ?_
   refine sqB m g [] [] [(2, .slice (sm b) d.length u0.Size.toNat)] ?_; intro bu ba; clear m
   refine wp_ret ?_
   refine ra1 ba (.slice (sm b) d.length u0.Size.toNat) ?_
   exact ⟨d, (sm b), u0.Size.toNat, Z, rfl, a9, g.keep (List.Sublist.cons_cons _ (List.Sublist.cons _ (List.Sublist.slnil)))⟩

theorem rin_walk (u0 : Int) (u1 : Int) (u2 : Int)  (Z : Fz) (w : World)  (hZ : Z.on w) {K : Bool → Prop} (hp : rin_vc u0 u1 u2 K) : Calls Tryd.prog 37 #[i6 u0, i6 u1, i6 u2] w fun e w' => ∃ r : Bool, e = .returned (.bool r) ∧ K r ∧ Below w.heap.size w w' := by
 refine enter0 Tryd.func37 rfl rfl (by kernel_rfl) ?_; intro f b; have a := Mem.start w Z hZ; have g := Fz.le.refl Z
 refine sqB b a [] [] [] ?_; intro h c; clear b
 refine sqB c a [] [] [(6, .bool ((decide (u0 ≥ u1)) && (decide (u0 ≤ u2))))] ?_; intro i d; clear c
 refine wp_ret ?_
 refine ra1 d (.bool ((decide (u0 ≥ u1)) && (decide (u0 ≤ u2)))) ?_
 exact ⟨(decide (u0 ≥ u1)) && (decide (u0 ≤ u2)), rfl, hp, a.below⟩
theorem rin_fun (u0 : Int) (u1 : Int) (u2 : Int)  (Z : Fz) (w : World)  (hZ : Z.on w) : Calls Tryd.prog 37 #[i6 u0, i6 u1, i6 u2] w fun e w' => e = .returned (.bool (rin u0 u1 u2)) ∧ Below w.heap.size w w' :=
  (rin_walk u0 u1 u2  Z w  hZ (rin_ok u0 u1 u2)).mono fun _ _ ⟨r, he, hk, hb⟩ => ⟨by subst hk; exact he, hb⟩

theorem trim_fun (u0 : List UInt8) (u1 : List UInt8) (hpre : u0.length ≤ 9223372036854775807 ∧ u1.length < 4294967281 ∧ u1.all (fun b => decide (b.toNat < 128)) = true) (Z : Fz) (w : World) (hZ : Z.on w) : Calls Tryd.prog 60 #[str u0, str u1] w fun e w' => e = .returned (str (trimS u0 u1)) ∧ Below w.heap.size w w' := by
  have h := Any.strings_Trim_laid Tryd.lays160 (by kernel_rfl) ⟨⟨u0⟩⟩ ⟨⟨u1⟩⟩ w (by show u0.length ≤ _; exact hpre.1) (by show u1.length < _; exact hpre.2.1) (ascii_of_all hpre.2.2)
  exact h

end Go.Proofs.YtdndfbamhnchfaaDoor
set_option linter.unusedVariables false
set_option linter.unusedSimpArgs false
set_option maxRecDepth 100000
set_option maxHeartbeats 0
namespace Go.Proofs.YtdndfbamhnchfaaDoor
open Go.Sy Go.RowKit
theorem rplaces_fun (u0 : Signal) (hpre : (0 ≤ u0.Start ∧ u0.Start ≤ 512) ∧ 1 ≤ u0.Size ∧ u0.Size ≤ 40)  (Z : Fz) (w : World)  (hZ : Z.on w) : Calls Tryd.prog 25 #[.agg #[str u0.Name, i6 u0.Start, i6 u0.Size, .bool u0.Back, .bool u0.Signed, i6 u0.Mul, i6 u0.Div, i6 u0.Add, i6 u0.Key]] w fun e w' => ∃ (ao1001 : Option Addr) (cap1002 : Nat) (Z' : Fz), e = .returned (.slice ao1001 (placesS u0).length cap1002) ∧ Mem w.heap.size [] w Z [.own t6 3 ao1001 cap1002 (placesS u0)] Z' w' :=
  (rplaces_walk u0  Z w  hZ (rplaces_ok u0 hpre)).mono fun _ _ ⟨r, h0, h1, h2, he, hk, hm⟩ => by subst hk; exact ⟨h0, h1, h2, he, hm⟩

theorem icontf_fun (u0 : List Int) (u1 : Int → Bool) (ao1 : Option Addr) (cap2 : Nat) (fid4 : Nat) (caps5 : Array Value) (Z : Fz) (w : World) (hs3 : SlR t6 Z ao1 cap2 u0) (hf6 : ∀ (Z1 : Fz) (w1 : World), Z.le Z1 → Z1.on w1 → ∀ (x0 : Int), Calls Tryd.prog fid4 (#[i6 x0] ++ caps5) w1 fun e w2 => e = .returned (.bool (u1 x0)) ∧ Below w1.heap.size w1 w2) (hg7 : ∀ x w, Sem.run Tryd.prog (callFunc fid4 x) w = .ok (.enter fid4 x) w) (hZ : Z.on w) : Calls Tryd.prog 63 #[.slice ao1 u0.length cap2, .func (.func fid4) #[] caps5] w fun e w' => e = .returned (.bool (icontfS u0 u1)) ∧ Below w.heap.size w w' :=
  (icontf_walk u0 u1 ao1 cap2 fid4 caps5 Z w hs3 hf6 hg7 hZ (icontf_ok u0 u1)).mono fun _ _ ⟨r, he, hk, hb⟩ => ⟨by subst hk; exact he, hb⟩

theorem risname_walk (u0 : List UInt8)  (Z : Fz) (w : World)  (hZ : Z.on w) {K : Bool → Prop} (hp : risname_vc u0 K) : Calls Tryd.prog 21 #[str u0] w fun e w' => ∃ r : Bool, e = .returned (.bool r) ∧ K r ∧ Below w.heap.size w w' := by
 refine enter0 Tryd.func21 rfl rfl (by kernel_rfl) ?_; intro a0 D; have a := Mem.start w Z hZ; have ap := Fz.le.refl Z
 refine sqB D a [] [] [] ?_; intro a2 E; clear D
 refine wp_seq ?_
 refine sqH ?_; intro z f
 refine bt E a 8 [] [27] [(10, .bool ((u0 == ([] : List UInt8)) || (decide ((u0.length : Int) > 16))))] ?_; intro aq l; clear E
 rcases Bool.eq_false_or_eq_true ((u0 == ([] : List UInt8)) || (decide ((u0.length : Int) > 16))) with h | h
 · -- true
  have U := hp.1 h; clear hp
  have F := l.reval (d := 10) (c := []) (v := .bool ((u0 == ([] : List UInt8)) || (decide ((u0.length : Int) > 16)))) (by kernel_rfl) (.bool true) (by rw [h]); clear l
  refine bt F a 9 [] [11, 12, 13, 14, 15, 16, 17, 18, 19] [(19, .bool true)] ?_; intro ar A; clear F
  refine nlH (f _ _ ?_); clear f z
  refine cdT A (by kernel_rfl) ?_
  refine sqB A a [] [] [(2, .bool false)] ?_; intro au V; clear A
  refine wp_ret ?_
  refine thr ?_
  refine ra1 V (.bool false) ?_
  exact ⟨false, rfl, U, a.below⟩
 · -- false
  have W := hp.2 h; clear hp
  have m := l.reval (d := 10) (c := []) (v := .bool ((u0 == ([] : List UInt8)) || (decide ((u0.length : Int) > 16)))) (by kernel_rfl) (.bool false) (by rw [h]); clear l
  refine st m (str u0) (by rw [wanted_of m (b := false) rfl rfl (by kernel_rfl) (by kernel_rfl)]; rfl) rfl (by kernel_rfl) (p0 m (by kernel_rfl)) ?_; intro av n; clear m
  obtain ⟨X, Y⟩ := W
  obtain ⟨g, G⟩ : ∃ q, u0[(0 : Int).toNat]? = some q := ⟨_, List.getElem?_eq_getElem (by omega)⟩; have o := Y g G
  refine st n (y8 (g.toNat : Int)) (by rw [wanted_of n (b := false) rfl rfl (by kernel_rfl) (by kernel_rfl)]; rfl) rfl (by kernel_rfl) (stridx_run n (k := .i64) rfl (by kernel_rfl) (by kernel_rfl) (by kernel_rfl) X.1 G) ?_; intro aw H; clear n
  refine bt H a 2 [] [13, 14] [(14, .bool (decide ((g.toNat : Int) ≥ 48)))] ?_; intro ax p; clear H
  rcases Bool.eq_false_or_eq_true (decide ((g.toNat : Int) ≥ 48)) with i | i
  · -- true
   have aa := o.1 i; clear o
   have s := p.reval (d := 14) (c := []) (v := .bool (decide ((g.toNat : Int) ≥ 48))) (by kernel_rfl) (.bool true) (by rw [i]); clear p
   refine st s (str u0) (by rw [wanted_of s (b := true) rfl rfl (by kernel_rfl) (by kernel_rfl)]; rfl) rfl (by kernel_rfl) (p0 s (by kernel_rfl)) ?_; intro ay u; clear s
   obtain ⟨ab, ac⟩ := aa
   obtain ⟨x, I⟩ : ∃ q, u0[(0 : Int).toNat]? = some q := ⟨_, List.getElem?_eq_getElem (by omega)⟩; have y := ac x I
   refine st u (y8 (x.toNat : Int)) (by rw [wanted_of u (b := true) rfl rfl (by kernel_rfl) (by kernel_rfl)]; rfl) rfl (by kernel_rfl) (stridx_run u (k := .i64) rfl (by kernel_rfl) (by kernel_rfl) (by kernel_rfl) ab.1 I) ?_; intro az J; clear u
   refine bt J a 3 [] [17, 18, 19] [(19, .bool (decide ((x.toNat : Int) ≤ 57)))] ?_; intro aA j; clear J
   refine nlH (f _ _ ?_); clear f z
   refine cd j (t := decide ((x.toNat : Int) ≤ 57)) (by kernel_rfl) (fun B => ?_) (fun B => ?_)
   · -- yes
    have ad := y.1 B; clear y
    refine sqB j a [] [] [(2, .bool false)] ?_; intro aB ae; clear j
    refine wp_ret ?_
    refine thr ?_
    refine ra1 ae (.bool false) ?_
    exact ⟨false, rfl, ad, a.below⟩
   · -- no
    have af := y.2 B; clear y
    refine wp_skip ?_
    refine thn ?_
    refine sqH ?_; intro ag L
    refine s1 j 20 (str u0) ?_; intro aC M; clear j
    obtain ⟨ah, ai⟩ := af
    refine fc M a (trim_fun u0 ([97, 98, 99, 100, 101, 102, 103, 104, 105, 106, 107, 108, 109, 110, 111, 112, 113, 114, 115, 116, 117, 118, 119, 120, 121, 122, 65, 66, 67, 68, 69, 70, 71, 72, 73, 74, 75, 76, 77, 78, 79, 80, 81, 82, 83, 84, 85, 86, 87, 88, 89, 90, 48, 49, 50, 51, 52, 53, 54, 55, 56, 57] : List UInt8) ah _ _ a.fz) ?_; intro aD aE N O; clear M a
    refine bt N O 2 [] [45] [(2, .bool ((trimS u0 ([97, 98, 99, 100, 101, 102, 103, 104, 105, 106, 107, 108, 109, 110, 111, 112, 113, 114, 115, 116, 117, 118, 119, 120, 121, 122, 65, 66, 67, 68, 69, 70, 71, 72, 73, 74, 75, 76, 77, 78, 79, 80, 81, 82, 83, 84, 85, 86, 87, 88, 89, 90, 48, 49, 50, 51, 52, 53, 54, 55, 56, 57] : List UInt8)) == ([] : List UInt8)))] ?_; intro aF aj; clear N
    refine nlH (L _ _ ?_); clear L ag
    refine wp_ret ?_
    refine ra1 aj (.bool ((trimS u0 ([97, 98, 99, 100, 101, 102, 103, 104, 105, 106, 107, 108, 109, 110, 111, 112, 113, 114, 115, 116, 117, 118, 119, 120, 121, 122, 65, 66, 67, 68, 69, 70, 71, 72, 73, 74, 75, 76, 77, 78, 79, 80, 81, 82, 83, 84, 85, 86, 87, 88, 89, 90, 48, 49, 50, 51, 52, 53, 54, 55, 56, 57] : List UInt8)) == ([] : List UInt8))) ?_
    exact ⟨(trimS u0 ([97, 98, 99, 100, 101, 102, 103, 104, 105, 106, 107, 108, 109, 110, 111, 112, 113, 114, 115, 116, 117, 118, 119, 120, 121, 122, 65, 66, 67, 68, 69, 70, 71, 72, 73, 74, 75, 76, 77, 78, 79, 80, 81, 82, 83, 84, 85, 86, 87, 88, 89, 90, 48, 49, 50, 51, 52, 53, 54, 55, 56, 57] : List UInt8)) == ([] : List UInt8), rfl, ai, O.below⟩
  · -- false
   have ak := o.2 i; clear o
   have P := p.reval (d := 14) (c := []) (v := .bool (decide ((g.toNat : Int) ≥ 48))) (by kernel_rfl) (.bool false) (by rw [i]); clear p
   refine bt P a 5 [] [15, 16, 17, 18, 19] [(19, .bool false)] ?_; intro aG C; clear P
   refine nlH (f _ _ ?_); clear f z
   refine cdF C (by kernel_rfl) ?_
   refine wp_skip ?_
   refine thn ?_
   refine sqH ?_; intro al Q
   refine s1 C 20 (str u0) ?_; intro aH R; clear C
   obtain ⟨am, an⟩ := ak
   refine fc R a (trim_fun u0 ([97, 98, 99, 100, 101, 102, 103, 104, 105, 106, 107, 108, 109, 110, 111, 112, 113, 114, 115, 116, 117, 118, 119, 120, 121, 122, 65, 66, 67, 68, 69, 70, 71, 72, 73, 74, 75, 76, 77, 78, 79, 80, 81, 82, 83, 84, 85, 86, 87, 88, 89, 90, 48, 49, 50, 51, 52, 53, 54, 55, 56, 57] : List UInt8) am _ _ a.fz) ?_; intro aI aJ S T; clear R a
   refine bt S T 2 [] [45] [(2, .bool ((trimS u0 ([97, 98, 99, 100, 101, 102, 103, 104, 105, 106, 107, 108, 109, 110, 111, 112, 113, 114, 115, 116, 117, 118, 119, 120, 121, 122, 65, 66, 67, 68, 69, 70, 71, 72, 73, 74, 75, 76, 77, 78, 79, 80, 81, 82, 83, 84, 85, 86, 87, 88, 89, 90, 48, 49, 50, 51, 52, 53, 54, 55, 56, 57] : List UInt8)) == ([] : List UInt8)))] ?_; intro aK ao; clear S
   refine nlH (Q _ _ ?_); clear Q al
   refine wp_ret ?_
   refine ra1 ao (.bool ((trimS u0 ([97, 98, 99, 100, 101, 102, 103, 104, 105, 106, 107, 108, 109, 110, 111, 112, 113, 114, 115, 116, 117, 118, 119, 120, 121, 122, 65, 66, 67, 68, 69, 70, 71, 72, 73, 74, 75, 76, 77, 78, 79, 80, 81, 82, 83, 84, 85, 86, 87, 88, 89, 90, 48, 49, 50, 51, 52, 53, 54, 55, 56, 57] : List UInt8)) == ([] : List UInt8))) ?_
   exact ⟨(trimS u0 ([97, 98, 99, 100, 101, 102, 103, 104, 105, 106, 107, 108, 109, 110, 111, 112, 113, 114, 115, 116, 117, 118, 119, 120, 121, 122, 65, 66, 67, 68, 69, 70, 71, 72, 73, 74, 75, 76, 77, 78, 79, 80, 81, 82, 83, 84, 85, 86, 87, 88, 89, 90, 48, 49, 50, 51, 52, 53, 54, 55, 56, 57] : List UInt8)) == ([] : List UInt8), rfl, an, T.below⟩

theorem rov1_walk (u0 : Int) (u1 : List Int) (cb4 co5 : Nat) (ao1 : Option Addr) (cap2 : Nat) (Z : Fz) (w : World) (hP6 : PtR Z cb4 co5 [.slice ao1 u1.length cap2]) (hs3 : SlR t6 Z ao1 cap2 u1) (hZ : Z.on w) {K : Bool → Prop} (hp : rov1_vc u0 u1 K) : Calls Tryd.prog 64 #[i6 u0, pt cb4 co5] w fun e w' => ∃ r : Bool, e = .returned (.bool r) ∧ K r ∧ Below w.heap.size w w' := by
 refine enter0 Tryd.func64 rfl rfl (by kernel_rfl) ?_; intro l b; have a := Mem.start w Z hZ; have m := Fz.le.refl Z
 refine sqB b a [] [] [] ?_; intro n c; clear b
 refine sqH ?_; intro i d
 refine z1 c a 4 hP6 0 (.slice ao1 u1.length cap2) rfl ?_; intro o f; clear c
 refine s1 f 5 (i6 u0) ?_; intro p g; clear f
 refine fc g a (scontains_fun u1 u0 ao1 cap2 _ _ hs3 a.fz) ?_; intro q s h j; clear g a
 refine s1 h 3 (.bool (scontainsS u1 u0)) ?_; intro t k; clear h
 refine nlH (d _ _ ?_); clear d i
 refine wp_ret ?_
 refine ra1 k (.bool (scontainsS u1 u0)) ?_
 exact ⟨(scontainsS u1 u0), rfl, hp, j.below⟩
theorem rov1_fun (u0 : Int) (u1 : List Int) (cb4 co5 : Nat) (ao1 : Option Addr) (cap2 : Nat) (Z : Fz) (w : World) (hP6 : PtR Z cb4 co5 [.slice ao1 u1.length cap2]) (hs3 : SlR t6 Z ao1 cap2 u1) (hZ : Z.on w) : Calls Tryd.prog 64 #[i6 u0, pt cb4 co5] w fun e w' => e = .returned (.bool (rov1 u0 u1)) ∧ Below w.heap.size w w' :=
  (rov1_walk u0 u1 cb4 co5 ao1 cap2 Z w hP6 hs3 hZ (rov1_ok u0 u1)).mono fun _ _ ⟨r, he, hk, hb⟩ => ⟨by subst hk; exact he, hb⟩

end Go.Proofs.YtdndfbamhnchfaaDoor
set_option linter.unusedVariables false
set_option linter.unusedSimpArgs false
set_option maxRecDepth 100000
set_option maxHeartbeats 0
namespace Go.Proofs.YtdndfbamhnchfaaDoor
open Go.Sy Go.RowKit
abbrev e23Mr (X : Signal) : List Value := [str X.Name, i6 X.Start, i6 X.Size, .bool X.Back, .bool X.Signed, i6 X.Mul, i6 X.Div, i6 X.Add, i6 X.Key]
abbrev e53Mr (X : Frame) (A0 : Option Addr) (C0 : Nat) : List Value := [i6 X.ID, .bool X.Long, .bool X.Fast, .bool X.Remote, i6 X.Size, .slice A0 X.Data.length C0]
theorem risname_fun (u0 : List UInt8)  (Z : Fz) (w : World)  (hZ : Z.on w) : Calls Tryd.prog 21 #[str u0] w fun e w' => e = .returned (.bool (nameS u0)) ∧ Below w.heap.size w w' :=
  (risname_walk u0  Z w  hZ (risname_ok u0)).mono fun _ _ ⟨r, he, hk, hb⟩ => ⟨by subst hk; exact he, hb⟩

theorem rcheck_walk (u0 : Signal) (u1 : Int)  (Z : Fz) (w : World)  (hZ : Z.on w) {K : Int → Prop} (hp : rcheck_vc u0 u1 K) : Calls Tryd.prog 8 #[.agg #[str u0.Name, i6 u0.Start, i6 u0.Size, .bool u0.Back, .bool u0.Signed, i6 u0.Mul, i6 u0.Div, i6 u0.Add, i6 u0.Key], i6 u1] w fun e w' => ∃ r : Int, e = .returned (i6 r) ∧ K r ∧ Below w.heap.size w w' := by
 refine enter0 Tryd.func8 rfl rfl (by kernel_rfl) ?_; intro a0 af; have ag := Mem.start w Z hZ; have z := Fz.le.refl Z
 refine sqH ?_; intro bx ah
 refine nw af ag pb (e23Mr u0) 23 ?_; intro a a3 ca ai A; clear af ag
 refine s1 ai 4 (i6 0) ?_; intro a7 aj; clear ai
 refine nlH (ah _ _ ?_); clear ah bx
 refine wp_seq ?_
 refine sqH ?_; intro bz ak
 refine bt aj A 2 [0] [] [(9, str u0.Name)] ?_; intro cb al; clear aj
 refine fc al A (risname_fun u0.Name _ _ A.fz) ?_; intro cc ce am d; clear al A
 refine s1 am 11 (.bool (!(nameS u0.Name))) ?_; intro cf l; clear am
 refine nlH (ak _ _ ?_); clear ak bz
 refine cd l (t := !(nameS u0.Name)) (by kernel_rfl) (fun J => ?_) (fun J => ?_)
 · -- yes
  have bA := hp.1 J; clear hp
  refine sqB l d [] [] [(4, i6 1)] ?_; intro cg bB; clear l
  refine wp_ret ?_
  refine thr ?_
  refine ra1 bB (i6 1) ?_
  exact ⟨1, rfl, bA, d.below⟩
 · -- no
  have B := hp.2 J; clear hp
  refine wp_skip ?_
  refine thn ?_
  refine sqB l d [] [] [(5, .func (.func 37) #[] #[])] ?_; intro ch an; clear l
  refine wp_seq ?_
  refine sqH ?_; intro bC ao
  refine bt an d 2 [] [] [(12, .func (.func 37) #[] #[]), (13, i6 u1)] ?_; intro ci ap; clear an
  refine fc ap d (rin_fun u1 0 64 _ _ d.fz) ?_; intro cl cm aq C; clear ap d
  refine s1 aq 15 (.bool (!(rin u1 0 64))) ?_; intro cn ar; clear aq
  refine s1 ar 16 (.bool (!(rin u1 0 64))) ?_; intro co au; clear ar
  have av := au.atom ((!(rin u1 0 64)) == false) (by kernel_rfl); clear au
  refine gp av 17 0 [] (!(rin u1 0 64)) (.func (.func 37) #[] #[]) rfl rfl ?_; intro cp aw; clear av
  refine gp aw 18 0 [] (!(rin u1 0 64)) (pt a 2) rfl rfl ?_; intro cq L; clear aw
  refine gd L (i6 u0.Size) (m := 0) (cj := []) (bj := !(rin u1 0 64)) rfl rfl (by kernel_rfl) rfl (by kernel_rfl) (by kernel_rfl) (by kernel_rfl) (fun hg => ld L C 0 (g := [0]) (b := a) (off := 2) (cs := (e23Mr u0)) (ty := 23) rfl (by kernel_rfl) (by kernel_rfl) (by kernel_rfl) (by kernel_rfl) hg) ?_; intro cr ax; clear L
  refine gcl ax C (.bool (rin u0.Size 1 40)) 37 #[i6 u0.Size, i6 1, i6 40] (m := 0) (cj := []) (bj := !(rin u1 0 64)) rfl rfl (by kernel_rfl) rfl (by kernel_rfl) (by kernel_rfl) (by kernel_rfl) (fun _ => by kernel_rfl) (fun hg => rin_fun u0.Size 1 40 _ _ C.fz) ?_; intro ct cu ay n; clear ax C
  refine gp ay 21 0 [] (!(rin u1 0 64)) (.bool (!(rin u0.Size 1 40))) rfl rfl ?_; intro cv M; clear ay
  refine st M (.bool ((!(rin u1 0 64)) || (!(rin u0.Size 1 40)))) (nog rfl _) rfl (by kernel_rfl) (pk_or M (g := []) (m := 0) (b := !(rin u1 0 64)) (v := !(rin u0.Size 1 40)) rfl (by kernel_rfl) (by kernel_rfl) (by kernel_rfl) rfl) ?_; intro cw az; clear M
  refine s1 az 23 (.bool ((!(rin u1 0 64)) || (!(rin u0.Size 1 40)))) ?_; intro cx aA; clear az
  have aB := aA.atom (((!(rin u1 0 64)) || (!(rin u0.Size 1 40))) == false) (by kernel_rfl); clear aA
  refine gp aB 24 1 [] ((!(rin u1 0 64)) || (!(rin u0.Size 1 40))) (pt a 5) rfl rfl ?_; intro cy N; clear aB
  refine gd N (i6 u0.Mul) (m := 1) (cj := []) (bj := (!(rin u1 0 64)) || (!(rin u0.Size 1 40))) rfl rfl (by kernel_rfl) rfl (by kernel_rfl) (by kernel_rfl) (by kernel_rfl) (fun hg => ld N n 0 (g := [1]) (b := a) (off := 5) (cs := (e23Mr u0)) (ty := 23) rfl (by kernel_rfl) (by kernel_rfl) (by kernel_rfl) (by kernel_rfl) hg) ?_; intro cz aC; clear N
  refine gp aC 26 1 [] ((!(rin u1 0 64)) || (!(rin u0.Size 1 40))) (.bool (u0.Mul == 0)) rfl rfl ?_; intro cA O; clear aC
  refine st O (.bool (((!(rin u1 0 64)) || (!(rin u0.Size 1 40))) || (u0.Mul == 0))) (nog rfl _) rfl (by kernel_rfl) (pk_or O (g := []) (m := 1) (b := (!(rin u1 0 64)) || (!(rin u0.Size 1 40))) (v := u0.Mul == 0) rfl (by kernel_rfl) (by kernel_rfl) (by kernel_rfl) rfl) ?_; intro cB aD; clear O
  refine s1 aD 28 (.bool (((!(rin u1 0 64)) || (!(rin u0.Size 1 40))) || (u0.Mul == 0))) ?_; intro cC aE; clear aD
  have aF := aE.atom ((((!(rin u1 0 64)) || (!(rin u0.Size 1 40))) || (u0.Mul == 0)) == false) (by kernel_rfl); clear aE
  refine gp aF 29 2 [] (((!(rin u1 0 64)) || (!(rin u0.Size 1 40))) || (u0.Mul == 0)) (.func (.func 37) #[] #[]) rfl rfl ?_; intro cD aG; clear aF
  refine gp aG 30 2 [] (((!(rin u1 0 64)) || (!(rin u0.Size 1 40))) || (u0.Mul == 0)) (pt a 5) rfl rfl ?_; intro cE P; clear aG
  refine gd P (i6 u0.Mul) (m := 2) (cj := []) (bj := ((!(rin u1 0 64)) || (!(rin u0.Size 1 40))) || (u0.Mul == 0)) rfl rfl (by kernel_rfl) rfl (by kernel_rfl) (by kernel_rfl) (by kernel_rfl) (fun hg => ld P n 0 (g := [2]) (b := a) (off := 5) (cs := (e23Mr u0)) (ty := 23) rfl (by kernel_rfl) (by kernel_rfl) (by kernel_rfl) (by kernel_rfl) hg) ?_; intro cF aH; clear P
  refine gcl aH n (.bool (rin u0.Mul (-1000000) 1000000)) 37 #[i6 u0.Mul, i6 (-1000000), i6 1000000] (m := 2) (cj := []) (bj := ((!(rin u1 0 64)) || (!(rin u0.Size 1 40))) || (u0.Mul == 0)) rfl rfl (by kernel_rfl) rfl (by kernel_rfl) (by kernel_rfl) (by kernel_rfl) (fun _ => by kernel_rfl) (fun hg => rin_fun u0.Mul (-1000000) 1000000 _ _ n.fz) ?_; intro cG cH aI D; clear aH n
  refine gp aI 33 2 [] (((!(rin u1 0 64)) || (!(rin u0.Size 1 40))) || (u0.Mul == 0)) (.bool (!(rin u0.Mul (-1000000) 1000000))) rfl rfl ?_; intro cI Q; clear aI
  refine st Q (.bool ((((!(rin u1 0 64)) || (!(rin u0.Size 1 40))) || (u0.Mul == 0)) || (!(rin u0.Mul (-1000000) 1000000)))) (nog rfl _) rfl (by kernel_rfl) (pk_or Q (g := []) (m := 2) (b := ((!(rin u1 0 64)) || (!(rin u0.Size 1 40))) || (u0.Mul == 0)) (v := !(rin u0.Mul (-1000000) 1000000)) rfl (by kernel_rfl) (by kernel_rfl) (by kernel_rfl) rfl) ?_; intro cJ aJ; clear Q
  refine s1 aJ 35 (.bool ((((!(rin u1 0 64)) || (!(rin u0.Size 1 40))) || (u0.Mul == 0)) || (!(rin u0.Mul (-1000000) 1000000)))) ?_; intro cK aK; clear aJ
  have aL := aK.atom (((((!(rin u1 0 64)) || (!(rin u0.Size 1 40))) || (u0.Mul == 0)) || (!(rin u0.Mul (-1000000) 1000000))) == false) (by kernel_rfl); clear aK
  refine gp aL 36 3 [] ((((!(rin u1 0 64)) || (!(rin u0.Size 1 40))) || (u0.Mul == 0)) || (!(rin u0.Mul (-1000000) 1000000))) (.func (.func 37) #[] #[]) rfl rfl ?_; intro cL aM; clear aL
  refine gp aM 37 3 [] ((((!(rin u1 0 64)) || (!(rin u0.Size 1 40))) || (u0.Mul == 0)) || (!(rin u0.Mul (-1000000) 1000000))) (pt a 6) rfl rfl ?_; intro cM R; clear aM
  refine gd R (i6 u0.Div) (m := 3) (cj := []) (bj := (((!(rin u1 0 64)) || (!(rin u0.Size 1 40))) || (u0.Mul == 0)) || (!(rin u0.Mul (-1000000) 1000000))) rfl rfl (by kernel_rfl) rfl (by kernel_rfl) (by kernel_rfl) (by kernel_rfl) (fun hg => ld R D 0 (g := [3]) (b := a) (off := 6) (cs := (e23Mr u0)) (ty := 23) rfl (by kernel_rfl) (by kernel_rfl) (by kernel_rfl) (by kernel_rfl) hg) ?_; intro cN aN; clear R
  refine gcl aN D (.bool (rin u0.Div 1 1000000)) 37 #[i6 u0.Div, i6 1, i6 1000000] (m := 3) (cj := []) (bj := (((!(rin u1 0 64)) || (!(rin u0.Size 1 40))) || (u0.Mul == 0)) || (!(rin u0.Mul (-1000000) 1000000))) rfl rfl (by kernel_rfl) rfl (by kernel_rfl) (by kernel_rfl) (by kernel_rfl) (fun _ => by kernel_rfl) (fun hg => rin_fun u0.Div 1 1000000 _ _ D.fz) ?_; intro cO cP aO E; clear aN D
  refine gp aO 40 3 [] ((((!(rin u1 0 64)) || (!(rin u0.Size 1 40))) || (u0.Mul == 0)) || (!(rin u0.Mul (-1000000) 1000000))) (.bool (!(rin u0.Div 1 1000000))) rfl rfl ?_; intro cQ S; clear aO
  refine st S (.bool (((((!(rin u1 0 64)) || (!(rin u0.Size 1 40))) || (u0.Mul == 0)) || (!(rin u0.Mul (-1000000) 1000000))) || (!(rin u0.Div 1 1000000)))) (nog rfl _) rfl (by kernel_rfl) (pk_or S (g := []) (m := 3) (b := (((!(rin u1 0 64)) || (!(rin u0.Size 1 40))) || (u0.Mul == 0)) || (!(rin u0.Mul (-1000000) 1000000))) (v := !(rin u0.Div 1 1000000)) rfl (by kernel_rfl) (by kernel_rfl) (by kernel_rfl) rfl) ?_; intro cR aP; clear S
  refine s1 aP 42 (.bool (((((!(rin u1 0 64)) || (!(rin u0.Size 1 40))) || (u0.Mul == 0)) || (!(rin u0.Mul (-1000000) 1000000))) || (!(rin u0.Div 1 1000000)))) ?_; intro cS aQ; clear aP
  have aR := aQ.atom ((((((!(rin u1 0 64)) || (!(rin u0.Size 1 40))) || (u0.Mul == 0)) || (!(rin u0.Mul (-1000000) 1000000))) || (!(rin u0.Div 1 1000000))) == false) (by kernel_rfl); clear aQ
  refine gp aR 43 4 [] (((((!(rin u1 0 64)) || (!(rin u0.Size 1 40))) || (u0.Mul == 0)) || (!(rin u0.Mul (-1000000) 1000000))) || (!(rin u0.Div 1 1000000))) (.func (.func 37) #[] #[]) rfl rfl ?_; intro cT aS; clear aR
  refine gp aS 44 4 [] (((((!(rin u1 0 64)) || (!(rin u0.Size 1 40))) || (u0.Mul == 0)) || (!(rin u0.Mul (-1000000) 1000000))) || (!(rin u0.Div 1 1000000))) (pt a 7) rfl rfl ?_; intro cU U; clear aS
  refine gd U (i6 u0.Add) (m := 4) (cj := []) (bj := ((((!(rin u1 0 64)) || (!(rin u0.Size 1 40))) || (u0.Mul == 0)) || (!(rin u0.Mul (-1000000) 1000000))) || (!(rin u0.Div 1 1000000))) rfl rfl (by kernel_rfl) rfl (by kernel_rfl) (by kernel_rfl) (by kernel_rfl) (fun hg => ld U E 0 (g := [4]) (b := a) (off := 7) (cs := (e23Mr u0)) (ty := 23) rfl (by kernel_rfl) (by kernel_rfl) (by kernel_rfl) (by kernel_rfl) hg) ?_; intro cV aT; clear U
  refine gcl aT E (.bool (rin u0.Add (-1000000) 1000000)) 37 #[i6 u0.Add, i6 (-1000000), i6 1000000] (m := 4) (cj := []) (bj := ((((!(rin u1 0 64)) || (!(rin u0.Size 1 40))) || (u0.Mul == 0)) || (!(rin u0.Mul (-1000000) 1000000))) || (!(rin u0.Div 1 1000000))) rfl rfl (by kernel_rfl) rfl (by kernel_rfl) (by kernel_rfl) (by kernel_rfl) (fun _ => by kernel_rfl) (fun hg => rin_fun u0.Add (-1000000) 1000000 _ _ E.fz) ?_; intro cW cX aU F; clear aT E
  refine gp aU 47 4 [] (((((!(rin u1 0 64)) || (!(rin u0.Size 1 40))) || (u0.Mul == 0)) || (!(rin u0.Mul (-1000000) 1000000))) || (!(rin u0.Div 1 1000000))) (.bool (!(rin u0.Add (-1000000) 1000000))) rfl rfl ?_; intro cY V; clear aU
  refine st V (.bool ((((((!(rin u1 0 64)) || (!(rin u0.Size 1 40))) || (u0.Mul == 0)) || (!(rin u0.Mul (-1000000) 1000000))) || (!(rin u0.Div 1 1000000))) || (!(rin u0.Add (-1000000) 1000000)))) (nog rfl _) rfl (by kernel_rfl) (pk_or V (g := []) (m := 4) (b := ((((!(rin u1 0 64)) || (!(rin u0.Size 1 40))) || (u0.Mul == 0)) || (!(rin u0.Mul (-1000000) 1000000))) || (!(rin u0.Div 1 1000000))) (v := !(rin u0.Add (-1000000) 1000000)) rfl (by kernel_rfl) (by kernel_rfl) (by kernel_rfl) rfl) ?_; intro cZ aV; clear V
  refine s1 aV 49 (.bool ((((((!(rin u1 0 64)) || (!(rin u0.Size 1 40))) || (u0.Mul == 0)) || (!(rin u0.Mul (-1000000) 1000000))) || (!(rin u0.Div 1 1000000))) || (!(rin u0.Add (-1000000) 1000000)))) ?_; intro c0 aW; clear aV
  have aX := aW.atom (((((((!(rin u1 0 64)) || (!(rin u0.Size 1 40))) || (u0.Mul == 0)) || (!(rin u0.Mul (-1000000) 1000000))) || (!(rin u0.Div 1 1000000))) || (!(rin u0.Add (-1000000) 1000000))) == false) (by kernel_rfl); clear aW
  refine gp aX 50 5 [] ((((((!(rin u1 0 64)) || (!(rin u0.Size 1 40))) || (u0.Mul == 0)) || (!(rin u0.Mul (-1000000) 1000000))) || (!(rin u0.Div 1 1000000))) || (!(rin u0.Add (-1000000) 1000000))) (.func (.func 37) #[] #[]) rfl rfl ?_; intro c1 aY; clear aX
  refine gp aY 51 5 [] ((((((!(rin u1 0 64)) || (!(rin u0.Size 1 40))) || (u0.Mul == 0)) || (!(rin u0.Mul (-1000000) 1000000))) || (!(rin u0.Div 1 1000000))) || (!(rin u0.Add (-1000000) 1000000))) (pt a 8) rfl rfl ?_; intro c2 W; clear aY
  refine gd W (i6 u0.Key) (m := 5) (cj := []) (bj := (((((!(rin u1 0 64)) || (!(rin u0.Size 1 40))) || (u0.Mul == 0)) || (!(rin u0.Mul (-1000000) 1000000))) || (!(rin u0.Div 1 1000000))) || (!(rin u0.Add (-1000000) 1000000))) rfl rfl (by kernel_rfl) rfl (by kernel_rfl) (by kernel_rfl) (by kernel_rfl) (fun hg => ld W F 0 (g := [5]) (b := a) (off := 8) (cs := (e23Mr u0)) (ty := 23) rfl (by kernel_rfl) (by kernel_rfl) (by kernel_rfl) (by kernel_rfl) hg) ?_; intro c3 aZ; clear W
  refine gcl aZ F (.bool (rin u0.Key (-1) 255)) 37 #[i6 u0.Key, i6 (-1), i6 255] (m := 5) (cj := []) (bj := (((((!(rin u1 0 64)) || (!(rin u0.Size 1 40))) || (u0.Mul == 0)) || (!(rin u0.Mul (-1000000) 1000000))) || (!(rin u0.Div 1 1000000))) || (!(rin u0.Add (-1000000) 1000000))) rfl rfl (by kernel_rfl) rfl (by kernel_rfl) (by kernel_rfl) (by kernel_rfl) (fun _ => by kernel_rfl) (fun hg => rin_fun u0.Key (-1) 255 _ _ F.fz) ?_; intro c4 c5 a1 h; clear aZ F
  refine gp a1 54 5 [] ((((((!(rin u1 0 64)) || (!(rin u0.Size 1 40))) || (u0.Mul == 0)) || (!(rin u0.Mul (-1000000) 1000000))) || (!(rin u0.Div 1 1000000))) || (!(rin u0.Add (-1000000) 1000000))) (.bool (!(rin u0.Key (-1) 255))) rfl rfl ?_; intro c6 X; clear a1
  refine st X (.bool (((((((!(rin u1 0 64)) || (!(rin u0.Size 1 40))) || (u0.Mul == 0)) || (!(rin u0.Mul (-1000000) 1000000))) || (!(rin u0.Div 1 1000000))) || (!(rin u0.Add (-1000000) 1000000))) || (!(rin u0.Key (-1) 255)))) (nog rfl _) rfl (by kernel_rfl) (pk_or X (g := []) (m := 5) (b := (((((!(rin u1 0 64)) || (!(rin u0.Size 1 40))) || (u0.Mul == 0)) || (!(rin u0.Mul (-1000000) 1000000))) || (!(rin u0.Div 1 1000000))) || (!(rin u0.Add (-1000000) 1000000))) (v := !(rin u0.Key (-1) 255)) rfl (by kernel_rfl) (by kernel_rfl) (by kernel_rfl) rfl) ?_; intro a2 o; clear X
  refine nlH (ao _ _ ?_); clear ao bC
  refine cd o (t := ((((((!(rin u1 0 64)) || (!(rin u0.Size 1 40))) || (u0.Mul == 0)) || (!(rin u0.Mul (-1000000) 1000000))) || (!(rin u0.Div 1 1000000))) || (!(rin u0.Add (-1000000) 1000000))) || (!(rin u0.Key (-1) 255))) (by kernel_rfl) (fun Y => ?_) (fun Y => ?_)
  · -- yes
   have bD := B.1 Y; clear B
   have a4 : Fr 76 [] [] a2 := o.region (by kernel_rfl) (by kernel_rfl); clear o
   refine sqB a4 h [] [] [(4, i6 3)] ?_; intro c7 bE; clear a4
   refine wp_ret ?_
   refine thr ?_
   refine ra1 bE (i6 3) ?_
   exact ⟨3, rfl, bD, h.below⟩
  · -- no
   have G := B.2 Y; clear B
   refine wp_skip ?_
   refine thn ?_
   refine wp_seq ?_
   have a5 : Fr 76 [] [⟨1, [], i6 u1⟩, ⟨2, [], pt a 0⟩, ⟨5, [], .func (.func 37) #[] #[]⟩] a2 := o.region (by kernel_rfl) (by kernel_rfl); clear o
   refine sqH ?_; intro bF a6
   refine bt a5 h 6 [0] [] [(56, .func (.func 37) #[] #[]), (58, i6 u0.Start), (61, i6 (w64 ((w64 (8 * u1)) - 1)))] ?_; intro c8 a8; clear a5
   refine fc a8 h (rin_fun u0.Start 0 (w64 ((w64 (8 * u1)) - 1)) _ _ h.fz) ?_; intro c9 da a9 i; clear a8 h
   refine s1 a9 63 (.bool (!(rin u0.Start 0 (w64 ((w64 (8 * u1)) - 1))))) ?_; intro db p; clear a9
   refine nlH (a6 _ _ ?_); clear a6 bF
   refine cd p (t := !(rin u0.Start 0 (w64 ((w64 (8 * u1)) - 1)))) (by kernel_rfl) (fun aa => ?_) (fun aa => ?_)
   · -- yes
    have bG := G.1 aa; clear G
    refine sqB p i [] [] [(4, i6 7)] ?_; intro dc bH; clear p
    refine wp_ret ?_
    refine thr ?_
    refine ra1 bH (i6 7) ?_
    exact ⟨7, rfl, bG, i.below⟩
   · -- no
    have bI := G.2 aa; clear G
    refine wp_skip ?_
    refine thn ?_
    refine wp_seq ?_
    refine sqH ?_; intro bJ ba
    refine l2 p i 64 0 0 9 (e23Mr u0) rfl rfl ?_; intro dd bb; clear p
    obtain ⟨bK, bc⟩ := bI
    refine ck bb 25 #[.agg (e23Mr u0).toArray] ?_
    refine (rplaces_fun u0 bK _ _ i.fz).mono ?_; rintro _ bd ⟨q, u, bL, rfl, hm⟩; refine ⟨_, rfl, ?_⟩; intro de be; have bf := i.callZ hm; have bM := hm.ext.le; clear hm i bb
    replace z := Fz.le.trans z bM
    have ab : Mem w.heap.size [] w Z [.own t6 3 q u (placesS u0), .row a (e23Mr u0) 23] bL bd := bf; clear bf
    have bN := bc (ab.ownSmall 0 rfl); clear bc
    refine bt be ab 2 [] [] [(66, i6 ((placesS u0).length : Int)), (67, i6 0)] ?_; intro bg bh; clear be
    refine nlH (ba _ _ ?_); clear ba bJ
    refine wp_block ?_
    have bi : Fr 76 [] [⟨1, [], i6 u1⟩, ⟨65, [], .slice q (placesS u0).length u⟩, ⟨66, [], i6 ((placesS u0).length : Int)⟩, ⟨67, [], i6 0⟩] bg := bh.region (by kernel_rfl) (by kernel_rfl); clear bh
    obtain ⟨ac, bO, bk, bP⟩ := ab.freeze 0 rfl
    replace z := Fz.le.trans z bO
    have bl : Mem w.heap.size [] w Z [.row a (e23Mr u0) 23] ac bd := bk; clear bk
    have bm : Fr 76 [] [⟨1, [], i6 u1⟩, ⟨65, [], .slice q (placesS u0).length u⟩, ⟨66, [], i6 ((placesS u0).length : Int)⟩, ⟨67, [], i6 0⟩] bg := bi.region (by kernel_rfl) (by kernel_rfl); clear bi
    obtain ⟨bQ, bR, bS, bT⟩ := bN
    refine lp (ι := Int) (fun s => [⟨1, [], i6 u1⟩, ⟨65, [], .slice q (placesS u0).length u⟩, ⟨66, [], i6 ((placesS u0).length : Int)⟩, ⟨67, [], i6 s⟩]) (fun s => [.row a (e23Mr u0) 23]) (fun s => ac) (fun s => bQ s) (fun s => bR s) 0 bS (by exact bm.region (by kernel_rfl) (by kernel_rfl)) (by exact bl) ?_
    rintro f bU bV bW bn bo
    have bp : Fr 76 [] [⟨1, [], i6 u1⟩, ⟨65, [], .slice q (placesS u0).length u⟩, ⟨66, [], i6 ((placesS u0).length : Int)⟩, ⟨67, [], i6 f⟩] bV := bn; clear bn bm
    have c : Mem w.heap.size [] w Z [.row a (e23Mr u0) 23] ac bW := bo; clear bo bl
    have H := bT f bU
    refine sqB bp c [] [] [(68, .bool (decide (f < ((placesS u0).length : Int))))] ?_; intro df x; clear bp
    refine wp_seq ?_
    refine cd x (t := decide (f < ((placesS u0).length : Int))) (by kernel_rfl) (fun ad => ?_) (fun ad => ?_)
    · -- yes
     have bX := H.1 ad; clear H
     refine wp_skip ?_
     refine thn ?_
     refine wp_seq ?_
     refine wp_block ?_
     refine sqH ?_; intro bY bq
     obtain ⟨bZ, br⟩ := bX
     refine ix x (T := t6) (xs := (placesS u0)) bP f bZ (k := .i64) (e := 3) (bytes := 8) (nog rfl _) rfl (by kernel_rfl) rfl (by kernel_rfl) (by kernel_rfl) (by kernel_rfl) ?_; intro dg dh b0 j di b1 b3 b4 bs; clear x
     have I := br j b1; clear br
     obtain rfl : b0 = ([i6 j] : List Value) := b4
     refine z1 bs c 70 b3 0 (i6 j) rfl ?_; intro dj bu; clear bs
     refine s1 bu 7 (i6 j) ?_; intro dk bv; clear bu
     refine nlH (bq _ _ ?_); clear bq bY
     refine sqB bv c [] [] [(74, .bool (decide (j ≥ (w64 (8 * u1)))))] ?_; intro dl y; clear bv
     refine cd y (t := decide (j ≥ (w64 (8 * u1)))) (by kernel_rfl) (fun ae => ?_) (fun ae => ?_)
     · -- yes
      have b5 := I.1 ae; clear I
      refine sqB y c [] [] [(4, i6 7)] ?_; intro dm b6; clear y
      refine wp_ret ?_
      refine ibr ?_
      refine thr ?_
      refine thr ?_
      refine ibr ?_
      refine thr ?_
      refine ra1 b6 (i6 7) ?_
      exact ⟨7, rfl, b5, c.below⟩
     · -- no
      have bw := I.2 ae; clear I
      refine wp_skip ?_
      refine ibn ?_
      refine thn ?_
      refine rgB y c [] [] [(67, i6 (w64 (f + 1)))] ?_; intro dn b7; clear y
      refine rd ?_
      exact ⟨w64 (f + 1), bw.1, bw.2, (b7.region (by kernel_rfl) (by kernel_rfl)).anyβ _ (by kernel_rfl), c.keep (List.Sublist.cons_cons _ (List.Sublist.slnil))⟩
    · -- no
     have b8 := H.2 ad; clear H
     refine wp_exit ?_
     refine thx ?_
     refine thx ?_
     refine ibx ?_
     refine thn ?_
     refine sqB x c [] [] [(4, i6 0)] ?_; intro dp b9; clear x
     refine wp_ret ?_
     refine ra1 b9 (i6 0) ?_
     exact ⟨0, rfl, b8, c.below⟩

theorem rover_walk (u0 : Signal) (u1 : Signal)  (Z : Fz) (w : World)  (hZ : Z.on w) {K : Bool → Prop} (hp : rover_vc u0 u1 K) : Calls Tryd.prog 23 #[.agg #[str u0.Name, i6 u0.Start, i6 u0.Size, .bool u0.Back, .bool u0.Signed, i6 u0.Mul, i6 u0.Div, i6 u0.Add, i6 u0.Key], .agg #[str u1.Name, i6 u1.Start, i6 u1.Size, .bool u1.Back, .bool u1.Signed, i6 u1.Mul, i6 u1.Div, i6 u1.Add, i6 u1.Key]] w fun e w' => ∃ r : Bool, e = .returned (.bool r) ∧ K r ∧ Below w.heap.size w w' := by
 refine enter0 Tryd.func23 rfl rfl (by kernel_rfl) ?_; intro a0 q; have s := Mem.start w Z hZ; have a := Fz.le.refl Z
 refine sqH ?_; intro W t
 refine nw q s pb (e23Mr u0) 23 ?_; intro f a3 au u v; clear q s
 refine nw u v pb (e23Mr u1) 23 ?_; intro g a8 av x i; clear u v
 refine s1 x 4 (.bool false) ?_; intro aw y; clear x
 refine nlH (t _ _ ?_); clear t W
 refine sqH ?_; intro X z
 refine l2 y i 6 0 0 9 (e23Mr u1) rfl rfl ?_; intro ax A; clear y
 obtain ⟨Y, B⟩ := hp
 refine ck A 25 #[.agg (e23Mr u1).toArray] ?_
 refine (rplaces_fun u1 Y _ _ i.fz).mono ?_; rintro _ aa ⟨b, c, C, rfl, hm⟩; refine ⟨_, rfl, ?_⟩; intro ay D; have E := i.callZ hm; have ab := hm.ext.le; clear hm i A
 replace a := Fz.le.trans a ab
 have l : Mem w.heap.size [] w Z [.own t6 3 b c (placesS u1), .row g (e23Mr u1) 23, .row f (e23Mr u0) 23] C aa := E; clear E
 have ac := B (l.ownSmall 0 rfl); clear B
 refine nw D l pb [.slice none 0 0] 43 ?_; intro d az aA m F; clear D l
 refine sx m F 0 [.slice b (placesS u1).length c] 0 ?_; intro ad G; clear F
 have j : Mem w.heap.size [] w Z [.row d [.slice b (placesS u1).length c] 43, .own t6 3 b c (placesS u1), .row g (e23Mr u1) 23, .row f (e23Mr u0) 23] C ad := G; clear G
 refine nlH (z _ _ ?_); clear z X
 refine sqH ?_; intro ae H
 refine l2 m j 8 3 0 9 (e23Mr u0) rfl rfl ?_; intro aB I; clear m
 obtain ⟨af, J⟩ := ac
 refine ck I 25 #[.agg (e23Mr u0).toArray] ?_
 refine (rplaces_fun u0 af _ _ j.fz).mono ?_; rintro _ k ⟨L, M, ag, rfl, hm⟩; refine ⟨_, rfl, ?_⟩; intro aC N; have O := j.callZ hm; have ah := hm.ext.le; clear hm j I
 replace a := Fz.le.trans a ah
 have P : Mem w.heap.size [] w Z [.own t6 3 L M (placesS u0), .row d [.slice b (placesS u1).length c] 43, .own t6 3 b c (placesS u1), .row g (e23Mr u1) 23, .row f (e23Mr u0) 23] ag k := O; clear O
 have ai := J (P.ownSmall 0 rfl); clear J
 refine s1 N 10 (.func (.func 64) #[] #[pt d 0]) ?_; intro aD Q; clear N
 obtain ⟨aj, ak, R, h⟩ := P.freeze 0 rfl
 replace a := Fz.le.trans a ak
 have al : Mem w.heap.size [] w Z [.row d [.slice b (placesS u1).length c] 43, .own t6 3 b c (placesS u1), .row g (e23Mr u1) 23, .row f (e23Mr u0) 23] aj k := R; clear R
 obtain ⟨am, S, T, n⟩ := al.freeze 1 rfl
 replace h := h.mono S
 replace a := Fz.le.trans a S
 have an : Mem w.heap.size [] w Z [.row d [.slice b (placesS u1).length c] 43, .row g (e23Mr u1) 23, .row f (e23Mr u0) 23] am k := T; clear T
 obtain ⟨ao, o, U, ap⟩ := an.freezeRow 0 rfl
 replace h := h.mono o
 replace n := n.mono o
 replace a := Fz.le.trans a o
 have p : Mem w.heap.size [] w Z [.row g (e23Mr u1) 23, .row f (e23Mr u0) 23] ao k := U; clear U
 refine fc Q p (icontf_fun (placesS u0) (fun x0 => rov1 x0 (placesS u1)) L M 64 #[pt d 0] _ _ h (fun Z1 w1 h1 h2 x0 => rov1_fun x0 (placesS u1) d 0 b c Z1 w1 (ap.mono h1) (SlR.mono n h1) h2) (fun _ _ => by kernel_rfl) p.fz) ?_; intro aE aF V aq; clear Q p
 refine s1 V 4 (.bool (icontfS (placesS u0) (fun x0 => rov1 x0 (placesS u1)))) ?_; intro aG ar; clear V
 refine nlH (H _ _ ?_); clear H ae
 refine wp_ret ?_
 refine ra1 ar (.bool (icontfS (placesS u0) (fun x0 => rov1 x0 (placesS u1)))) ?_
 exact ⟨(icontfS (placesS u0) (fun x0 => rov1 x0 (placesS u1))), rfl, ai, aq.below⟩

theorem rsizes_walk   (Z : Fz) (w : World)  (hZ : Z.on w) {K : (List Int) → Prop} (hp : rsizes_vc  K) : Calls Tryd.prog 74 #[] w fun e w' => ∃ (r : (List Int)) (ao1001 : Option Addr) (cap1002 : Nat) (Z' : Fz), e = .returned (.slice ao1001 r.length cap1002) ∧ K r ∧ Mem w.heap.size [] w Z [.own t6 3 ao1001 cap1002 r] Z' w' := by
 refine enter0 Tryd.func74 rfl rfl (by kernel_rfl) ?_; intro n d; have c := Mem.start w Z hZ; have o := Fz.le.refl Z
 refine sqB d c [] [] [] ?_; intro p f; clear d
 refine sqH ?_; intro j g
 refine nw f c (fun b => .slice (sm b) 16 16) [i6 0, i6 1, i6 2, i6 3, i6 4, i6 5, i6 6, i6 7, i6 8, i6 12, i6 16, i6 20, i6 24, i6 32, i6 48, i6 64] 3 ?_; intro a q k h i; clear f c
 refine s1 h 0 (.slice (sm a) 16 16) ?_; intro s l; clear h
 refine nlH (g _ _ ?_); clear g j
 refine wp_ret ?_
 have m : Mem w.heap.size [] w Z [.own t6 3 (sm a) 16 ([0, 1, 2, 3, 4, 5, 6, 7, 8, 12, 16, 20, 24, 32, 48, 64] : List Int)] Z k := i.rowOwn (T := t6) (xs := ([0, 1, 2, 3, 4, 5, 6, 7, 8, 12, 16, 20, 24, 32, 48, 64] : List Int)) 0 rfl (by decide) (by show 16 ≤ lim; decide) ((RepAll.one (T := t6) (x := 0) rfl).append ((RepAll.one (T := t6) (x := 1) rfl).append ((RepAll.one (T := t6) (x := 2) rfl).append ((RepAll.one (T := t6) (x := 3) rfl).append ((RepAll.one (T := t6) (x := 4) rfl).append ((RepAll.one (T := t6) (x := 5) rfl).append ((RepAll.one (T := t6) (x := 6) rfl).append ((RepAll.one (T := t6) (x := 7) rfl).append ((RepAll.one (T := t6) (x := 8) rfl).append ((RepAll.one (T := t6) (x := 12) rfl).append ((RepAll.one (T := t6) (x := 16) rfl).append ((RepAll.one (T := t6) (x := 20) rfl).append ((RepAll.one (T := t6) (x := 24) rfl).append ((RepAll.one (T := t6) (x := 32) rfl).append ((RepAll.one (T := t6) (x := 48) rfl).append (RepAll.one (T := t6) (x := 64) rfl)))))))))))))))); clear i
 refine ra1 l (.slice (sm a) ([0, 1, 2, 3, 4, 5, 6, 7, 8, 12, 16, 20, 24, 32, 48, 64] : List Int).length 16) ?_
 exact ⟨([0, 1, 2, 3, 4, 5, 6, 7, 8, 12, 16, 20, 24, 32, 48, 64] : List Int), (sm a), 16, Z, rfl, hp, m.keep (List.Sublist.cons_cons _ (List.Sublist.slnil))⟩
theorem rsizes_fun   (Z : Fz) (w : World)  (hZ : Z.on w) : Calls Tryd.prog 74 #[] w fun e w' => ∃ (ao1001 : Option Addr) (cap1002 : Nat) (Z' : Fz), e = .returned (.slice ao1001 rsizes.length cap1002) ∧ Mem w.heap.size [] w Z [.own t6 3 ao1001 cap1002 rsizes] Z' w' :=
  (rsizes_walk   Z w  hZ (rsizes_ok )).mono fun _ _ ⟨r, h0, h1, h2, he, hk, hm⟩ => by subst hk; exact ⟨h0, h1, h2, he, hm⟩

theorem rcheckfr_walk (u0 : Frame) (ao1 : Option Addr) (cap2 : Nat) (Z : Fz) (w : World) (hs3 : SlR t8 Z ao1 cap2 u0.Data) (hZ : Z.on w) {K : Int → Prop} (hp : rcheckfr_vc u0 K) : Calls Tryd.prog 32 #[.agg #[i6 u0.ID, .bool u0.Long, .bool u0.Fast, .bool u0.Remote, i6 u0.Size, .slice ao1 u0.Data.length cap2]] w fun e w' => ∃ r : Int, e = .returned (i6 r) ∧ K r ∧ Below w.heap.size w w' := by
 refine enter0 Tryd.func32 rfl rfl (by kernel_rfl) ?_; intro a0 ac; have ad := Mem.start w Z hZ; have b := Fz.le.refl Z
 have v := hp (hs3.small); clear hp
 refine sqH ?_; intro aL ae
 refine nw ac ad pb (e53Mr u0 ao1 cap2) 53 ?_; intro c a7 bq af a; clear ac ad
 refine s1 af 2 (i6 0) ?_; intro br ag; clear af
 refine nlH (ae _ _ ?_); clear ae aL
 refine sqB ag a [] [] [(3, i6 2047)] ?_; intro bs ah; clear ag
 refine wp_seq ?_
 refine sqB ah a [0] [] [(5, .bool u0.Long)] ?_; intro bt g; clear ah
 refine cd g (t := u0.Long) (by kernel_rfl) (fun H => ?_) (fun H => ?_)
 · -- yes
  have x := v.1 H; clear v
  refine rgB g a [] [] [(3, i6 536870911)] ?_; intro bu ai; clear g
  refine thn ?_
  refine wp_seq ?_
  refine sqB ai a [0, 0] [] [(14, .bool ((decide (u0.ID < 0)) || (decide (u0.ID > 536870911))))] ?_; intro bv h; clear ai
  refine cd h (t := (decide (u0.ID < 0)) || (decide (u0.ID > 536870911))) (by kernel_rfl) (fun I => ?_) (fun I => ?_)
  · -- yes
   have aM := x.1 I; clear x
   refine sqB h a [] [] [(2, i6 3)] ?_; intro bw aN; clear h
   refine wp_ret ?_
   refine thr ?_
   refine ra1 aN (i6 3) ?_
   exact ⟨3, rfl, aM, a.below⟩
  · -- no
   have y := x.2 I; clear x
   refine wp_skip ?_
   refine thn ?_
   refine wp_seq ?_
   refine sqB h a [0, 0, 0] [] [(26, .bool (u0.Remote && (u0.Fast || ((u0.Data.length : Int) != 0))))] ?_; intro bx i; clear h
   refine cd i (t := u0.Remote && (u0.Fast || ((u0.Data.length : Int) != 0))) (by kernel_rfl) (fun J => ?_) (fun J => ?_)
   · -- yes
    have aO := y.1 J; clear y
    refine sqB i a [] [] [(2, i6 4)] ?_; intro bz aP; clear i
    refine wp_ret ?_
    refine thr ?_
    refine ra1 aP (i6 4) ?_
    exact ⟨4, rfl, aO, a.below⟩
   · -- no
    have z := y.2 J; clear y
    refine wp_skip ?_
    refine thn ?_
    refine wp_seq ?_
    refine sqB i a [0, 0, 0, 0] [] [(44, .bool (((decide (u0.Size < 0)) || (decide (u0.Size > 8))) || ((decide (u0.Size > 0)) && (!u0.Remote))))] ?_; intro bA j; clear i
    refine cd j (t := ((decide (u0.Size < 0)) || (decide (u0.Size > 8))) || ((decide (u0.Size > 0)) && (!u0.Remote))) (by kernel_rfl) (fun L => ?_) (fun L => ?_)
    · -- yes
     have aQ := z.1 L; clear z
     refine sqB j a [] [] [(2, i6 3)] ?_; intro bB aR; clear j
     refine wp_ret ?_
     refine thr ?_
     refine ra1 aR (i6 3) ?_
     exact ⟨3, rfl, aQ, a.below⟩
    · -- no
     have A := z.2 L; clear z
     refine wp_skip ?_
     refine thn ?_
     refine wp_seq ?_
     refine sqB j a [0, 0, 0] [] [(59, .bool ((decide ((u0.Data.length : Int) > 64)) || ((decide ((u0.Data.length : Int) > 8)) && (!u0.Fast))))] ?_; intro aS k; clear j
     refine cd k (t := (decide ((u0.Data.length : Int) > 64)) || ((decide ((u0.Data.length : Int) > 8)) && (!u0.Fast))) (by kernel_rfl) (fun M => ?_) (fun M => ?_)
     · -- yes
      have aT := A.1 M; clear A
      refine sqB k a [] [] [(2, i6 2)] ?_; intro bC aU; clear k
      refine wp_ret ?_
      refine thr ?_
      refine ra1 aU (i6 2) ?_
      exact ⟨2, rfl, aT, a.below⟩
     · -- no
      have B := A.2 M; clear A
      refine wp_skip ?_
      refine thn ?_
      refine wp_seq ?_
      have aj : Fr 66 [] [⟨1, [], pt c 0⟩] aS := k.region (by kernel_rfl) (by kernel_rfl); clear k
      refine wp_seq (rgS mixed a [(1, true), (2, true), (3, true), (0, false), (4, false), (5, true)] [] [0] [.row c (e53Mr u0 ao1 cap2) 53] ?_)
      intro aV ak bD N; clear a
      have d := Fz.le.refl Z
      refine cS aj 3 [0] [] [(63, i6 (u0.Data.length : Int))] ?_; intro bE al; clear aj
      refine eS rfl ?_; intro aW am
      refine ck al 74 #[] ?_
      refine (rsizes_fun  _ _ N.fz).mono ?_; rintro _ an ⟨ao, ap, aX, rfl, hm⟩; refine ⟨_, rfl, ?_⟩; intro bF aq; have ar := N.callZ hm; have O := hm.ext.le; clear hm N al
      replace hs3 := hs3.mono O
      replace d := d.mono O
      replace b := Fz.le.trans b O
      have au : Mem w.heap.size [] w Z [.own t6 3 ao ap rsizes, .row c (e53Mr u0 ao1 cap2) 53] aX an := ar; clear ar
      refine nl (qnI (am _ _ (au.cst d [1]) ?_)); clear am aW
      refine eS rfl ?_; intro aY av
      obtain ⟨aZ, P, aw, a1⟩ := au.freeze 0 rfl
      replace hs3 := hs3.mono P
      replace d := d.mono P
      replace b := Fz.le.trans b P
      have Q : Mem w.heap.size [] w Z [.row c (e53Mr u0 ao1 cap2) 53] aZ an := aw; clear aw
      refine fc aq Q (scontains_fun rsizes (u0.Data.length : Int) ao ap _ _ a1 Q.fz) ?_; intro bG bH ax l; clear aq Q
      refine nl (qnI (av _ _ (l.cst d [0]) ?_)); clear av aY
      refine cS ax 1 [] [] [(65, .bool (!(scontainsS rsizes (u0.Data.length : Int))))] ?_; intro bI m; clear ax
      refine nS (ak _ _ ?_); clear ak aV
      refine thn ?_
      refine cd m (t := !(scontainsS rsizes (u0.Data.length : Int))) (by kernel_rfl) (fun R => ?_) (fun R => ?_)
      · -- yes
       have a2 := B.1 R; clear B
       refine sqB m l [] [] [(2, i6 4)] ?_; intro bJ a3; clear m
       refine wp_ret ?_
       refine thr ?_
       refine ra1 a3 (i6 4) ?_
       exact ⟨4, rfl, a2, l.below⟩
      · -- no
       have a4 := B.2 R; clear B
       refine wp_skip ?_
       refine thn ?_
       refine sqB m l [] [] [(2, i6 0)] ?_; intro bK a5; clear m
       refine wp_ret ?_
       refine ra1 a5 (i6 0) ?_
       exact ⟨0, rfl, a4, l.below⟩
 · -- no
  have C := v.2 H; clear v
  refine wp_skip ?_
  refine thn ?_
  refine wp_seq ?_
  refine sqB g a [0, 0] [] [(14, .bool ((decide (u0.ID < 0)) || (decide (u0.ID > 2047))))] ?_; intro bL n; clear g
  refine cd n (t := (decide (u0.ID < 0)) || (decide (u0.ID > 2047))) (by kernel_rfl) (fun S => ?_) (fun S => ?_)
  · -- yes
   have a6 := C.1 S; clear C
   refine sqB n a [] [] [(2, i6 3)] ?_; intro bM a8; clear n
   refine wp_ret ?_
   refine thr ?_
   refine ra1 a8 (i6 3) ?_
   exact ⟨3, rfl, a6, a.below⟩
  · -- no
   have D := C.2 S; clear C
   refine wp_skip ?_
   refine thn ?_
   refine wp_seq ?_
   refine sqB n a [0, 0, 0] [] [(26, .bool (u0.Remote && (u0.Fast || ((u0.Data.length : Int) != 0))))] ?_; intro bN o; clear n
   refine cd o (t := u0.Remote && (u0.Fast || ((u0.Data.length : Int) != 0))) (by kernel_rfl) (fun T => ?_) (fun T => ?_)
   · -- yes
    have a9 := D.1 T; clear D
    refine sqB o a [] [] [(2, i6 4)] ?_; intro bO ba; clear o
    refine wp_ret ?_
    refine thr ?_
    refine ra1 ba (i6 4) ?_
    exact ⟨4, rfl, a9, a.below⟩
   · -- no
    have E := D.2 T; clear D
    refine wp_skip ?_
    refine thn ?_
    refine wp_seq ?_
    refine sqB o a [0, 0, 0, 0] [] [(44, .bool (((decide (u0.Size < 0)) || (decide (u0.Size > 8))) || ((decide (u0.Size > 0)) && (!u0.Remote))))] ?_; intro bP p; clear o
    refine cd p (t := ((decide (u0.Size < 0)) || (decide (u0.Size > 8))) || ((decide (u0.Size > 0)) && (!u0.Remote))) (by kernel_rfl) (fun U => ?_) (fun U => ?_)
    · -- yes
     have bb := E.1 U; clear E
     refine sqB p a [] [] [(2, i6 3)] ?_; intro bQ bc; clear p
     refine wp_ret ?_
     refine thr ?_
     refine ra1 bc (i6 3) ?_
     exact ⟨3, rfl, bb, a.below⟩
    · -- no
     have F := E.2 U; clear E
     refine wp_skip ?_
     refine thn ?_
     refine wp_seq ?_
     refine sqB p a [0, 0, 0] [] [(59, .bool ((decide ((u0.Data.length : Int) > 64)) || ((decide ((u0.Data.length : Int) > 8)) && (!u0.Fast))))] ?_; intro bd q; clear p
     refine cd q (t := (decide ((u0.Data.length : Int) > 64)) || ((decide ((u0.Data.length : Int) > 8)) && (!u0.Fast))) (by kernel_rfl) (fun V => ?_) (fun V => ?_)
     · -- yes
      have be := F.1 V; clear F
      refine sqB q a [] [] [(2, i6 2)] ?_; intro bR bf; clear q
      refine wp_ret ?_
      refine thr ?_
      refine ra1 bf (i6 2) ?_
      exact ⟨2, rfl, be, a.below⟩
     · -- no
      have G := F.2 V; clear F
      refine wp_skip ?_
      refine thn ?_
      refine wp_seq ?_
      have ay : Fr 66 [] [⟨1, [], pt c 0⟩] bd := q.region (by kernel_rfl) (by kernel_rfl); clear q
      refine wp_seq (rgS mixed a [(1, true), (2, true), (3, true), (0, false), (4, false), (5, true)] [] [0] [.row c (e53Mr u0 ao1 cap2) 53] ?_)
      intro bg az bS W; clear a
      have f := Fz.le.refl Z
      refine cS ay 3 [0] [] [(63, i6 (u0.Data.length : Int))] ?_; intro bT aA; clear ay
      refine eS rfl ?_; intro bh aB
      refine ck aA 74 #[] ?_
      refine (rsizes_fun  _ _ W.fz).mono ?_; rintro _ aC ⟨aD, aE, bi, rfl, hm⟩; refine ⟨_, rfl, ?_⟩; intro bU aF; have aG := W.callZ hm; have X := hm.ext.le; clear hm W aA
      replace hs3 := hs3.mono X
      replace f := f.mono X
      replace b := Fz.le.trans b X
      have aH : Mem w.heap.size [] w Z [.own t6 3 aD aE rsizes, .row c (e53Mr u0 ao1 cap2) 53] bi aC := aG; clear aG
      refine nl (qnI (aB _ _ (aH.cst f [1]) ?_)); clear aB bh
      refine eS rfl ?_; intro bj aI
      obtain ⟨bk, Y, aJ, bl⟩ := aH.freeze 0 rfl
      replace hs3 := hs3.mono Y
      replace f := f.mono Y
      replace b := Fz.le.trans b Y
      have aa : Mem w.heap.size [] w Z [.row c (e53Mr u0 ao1 cap2) 53] bk aC := aJ; clear aJ
      refine fc aF aa (scontains_fun rsizes (u0.Data.length : Int) aD aE _ _ bl aa.fz) ?_; intro bV bW aK s; clear aF aa
      refine nl (qnI (aI _ _ (s.cst f [0]) ?_)); clear aI bj
      refine cS aK 1 [] [] [(65, .bool (!(scontainsS rsizes (u0.Data.length : Int))))] ?_; intro bX u; clear aK
      refine nS (az _ _ ?_); clear az bg
      refine thn ?_
      refine cd u (t := !(scontainsS rsizes (u0.Data.length : Int))) (by kernel_rfl) (fun ab => ?_) (fun ab => ?_)
      · -- yes
       have bm := G.1 ab; clear G
       refine sqB u s [] [] [(2, i6 4)] ?_; intro bY bn; clear u
       refine wp_ret ?_
       refine thr ?_
       refine ra1 bn (i6 4) ?_
       exact ⟨4, rfl, bm, s.below⟩
      · -- no
       have bo := G.2 ab; clear G
       refine wp_skip ?_
       refine thn ?_
       refine sqB u s [] [] [(2, i6 0)] ?_; intro bZ bp; clear u
       refine wp_ret ?_
       refine ra1 bp (i6 0) ?_
       exact ⟨0, rfl, bo, s.below⟩

end Go.Proofs.YtdndfbamhnchfaaDoor
set_option linter.unusedVariables false
set_option linter.unusedSimpArgs false
set_option maxRecDepth 100000
set_option maxHeartbeats 0
namespace Go.Proofs.YtdndfbamhnchfaaDoor
open Go.Sy Go.RowKit
abbrev e23Ms (X : Signal) : List Value := [str X.Name, i6 X.Start, i6 X.Size, .bool X.Back, .bool X.Signed, i6 X.Mul, i6 X.Div, i6 X.Add, i6 X.Key]
abbrev e56Ms (X : Message) (A0 : Option Addr) (C0 : Nat) : List Value := [i6 X.ID, .bool X.Long, str X.Name, i6 X.Size, i6 X.Chooser, .slice A0 X.Signals.length C0]
theorem rcheck_fun (u0 : Signal) (u1 : Int)  (Z : Fz) (w : World)  (hZ : Z.on w) : Calls Tryd.prog 8 #[.agg #[str u0.Name, i6 u0.Start, i6 u0.Size, .bool u0.Back, .bool u0.Signed, i6 u0.Mul, i6 u0.Div, i6 u0.Add, i6 u0.Key], i6 u1] w fun e w' => e = .returned (i6 (checkS u0 u1)) ∧ Below w.heap.size w w' :=
  (rcheck_walk u0 u1  Z w  hZ (rcheck_ok u0 u1)).mono fun _ _ ⟨r, he, hk, hb⟩ => ⟨by subst hk; exact he, hb⟩

theorem rover_fun (u0 : Signal) (u1 : Signal) (hpre : ((0 ≤ u0.Start ∧ u0.Start ≤ 512) ∧ 1 ≤ u0.Size ∧ u0.Size ≤ 40) ∧ (0 ≤ u1.Start ∧ u1.Start ≤ 512) ∧ 1 ≤ u1.Size ∧ u1.Size ≤ 40)  (Z : Fz) (w : World)  (hZ : Z.on w) : Calls Tryd.prog 23 #[.agg #[str u0.Name, i6 u0.Start, i6 u0.Size, .bool u0.Back, .bool u0.Signed, i6 u0.Mul, i6 u0.Div, i6 u0.Add, i6 u0.Key], .agg #[str u1.Name, i6 u1.Start, i6 u1.Size, .bool u1.Back, .bool u1.Signed, i6 u1.Mul, i6 u1.Div, i6 u1.Add, i6 u1.Key]] w fun e w' => e = .returned (.bool (roverS u0 u1)) ∧ Below w.heap.size w w' :=
  (rover_walk u0 u1  Z w  hZ (rover_ok u0 u1 hpre)).mono fun _ _ ⟨r, he, hk, hb⟩ => ⟨by subst hk; exact he, hb⟩

theorem rcheckfr_fun (u0 : Frame) (ao1 : Option Addr) (cap2 : Nat) (Z : Fz) (w : World) (hs3 : SlR t8 Z ao1 cap2 u0.Data) (hZ : Z.on w) : Calls Tryd.prog 32 #[.agg #[i6 u0.ID, .bool u0.Long, .bool u0.Fast, .bool u0.Remote, i6 u0.Size, .slice ao1 u0.Data.length cap2]] w fun e w' => e = .returned (i6 (fcheckfr u0)) ∧ Below w.heap.size w w' :=
  (rcheckfr_walk u0 ao1 cap2 Z w hs3 hZ (rcheckfr_ok u0)).mono fun _ _ ⟨r, he, hk, hb⟩ => ⟨by subst hk; exact he, hb⟩

theorem rcheckm_walk (u0 : Message) (ao1 : Option Addr) (cap2 : Nat) (Z : Fz) (w : World) (hs3 : SlR tySignal Z ao1 cap2 u0.Signals) (hZ : Z.on w) {K : Int → Prop} (hp : rcheckm_vc u0 K) : Calls Tryd.prog 27 #[.agg #[i6 u0.ID, .bool u0.Long, str u0.Name, i6 u0.Size, i6 u0.Chooser, .slice ao1 u0.Signals.length cap2]] w fun e w' => ∃ r : Int, e = .returned (i6 r) ∧ K r ∧ Below w.heap.size w w' := by
 refine enter0 Tryd.func27 rfl rfl (by kernel_rfl) ?_; intro a0 a2; have a3 := Mem.start w Z hZ; have eS := Fz.le.refl Z
 have aa := hp (hs3.small); clear hp
 refine sqH ?_; intro cL a4
 refine nw a2 a3 pb (e56Ms u0 ao1 cap2) 56 ?_; intro m a7 eT a5 ab; clear a2 a3
 refine s1 a5 2 (i6 0) ?_; intro eU a6; clear a5
 refine nlH (a4 _ _ ?_); clear a4 cL
 refine wp_seq ?_
 refine sqH ?_; intro cM a8
 refine bt a6 ab 2 [0] [] [(14, str u0.Name)] ?_; intro eV a9; clear a6
 refine fc a9 ab (risname_fun u0.Name _ _ ab.fz) ?_; intro eW eX ba C; clear a9 ab
 refine s1 ba 16 (.bool (!(nameS u0.Name))) ?_; intro eY G; clear ba
 refine nlH (a8 _ _ ?_); clear a8 cM
 refine cd G (t := !(nameS u0.Name)) (by kernel_rfl) (fun aA => ?_) (fun aA => ?_)
 · -- yes
  have cN := aa.1 aA; clear aa
  refine sqB G C [] [] [(2, i6 1)] ?_; intro eZ cO; clear G
  refine wp_ret ?_
  refine thr ?_
  refine ra1 cO (i6 1) ?_
  exact ⟨1, rfl, cN, C.below⟩
 · -- no
  have ac := aa.2 aA; clear aa
  refine wp_skip ?_
  refine thn ?_
  refine wp_seq ?_
  refine sqH ?_; intro cP bb
  refine bt G C 5 [0, 0] [] [(21, .agg #[i6 u0.ID, .bool u0.Long, .bool false, .bool false, i6 0, .slice none 0 0])] ?_; intro e0 bc; clear G
  refine fc bc C (rcheckfr_fun (⟨u0.ID, u0.Long, false, false, 0, []⟩ : Frame) none 0 _ _ (SlR.nil _ _) C.fz) ?_; intro e1 e2 bd p; clear bc C
  refine s1 bd 3 (i6 (fcheckfr (⟨u0.ID, u0.Long, false, false, 0, []⟩ : Frame))) ?_; intro e3 be; clear bd
  refine nlH (bb _ _ ?_); clear bb cP
  refine sqB be p [] [] [(24, .bool ((fcheckfr (⟨u0.ID, u0.Long, false, false, 0, []⟩ : Frame)) != 0))] ?_; intro e4 H; clear be
  refine cd H (t := (fcheckfr (⟨u0.ID, u0.Long, false, false, 0, []⟩ : Frame)) != 0) (by kernel_rfl) (fun aB => ?_) (fun aB => ?_)
  · -- yes
   have cQ := ac.1 aB; clear ac
   refine sqB H p [] [] [(2, i6 (fcheckfr (⟨u0.ID, u0.Long, false, false, 0, []⟩ : Frame)))] ?_; intro e5 cR; clear H
   refine wp_ret ?_
   refine thr ?_
   refine ra1 cR (i6 (fcheckfr (⟨u0.ID, u0.Long, false, false, 0, []⟩ : Frame))) ?_
   exact ⟨(fcheckfr (⟨u0.ID, u0.Long, false, false, 0, []⟩ : Frame)), rfl, cQ, p.below⟩
  · -- no
   have ad := ac.2 aB; clear ac
   refine wp_skip ?_
   refine thn ?_
   refine wp_seq ?_
   refine sqB H p [0, 0] [] [(33, .bool ((decide (u0.Size < 0)) || (decide (u0.Size > 8))))] ?_; intro e6 I; clear H
   refine cd I (t := (decide (u0.Size < 0)) || (decide (u0.Size > 8))) (by kernel_rfl) (fun aC => ?_) (fun aC => ?_)
   · -- yes
    have cS := ad.1 aC; clear ad
    refine sqB I p [] [] [(2, i6 3)] ?_; intro e7 cT; clear I
    refine wp_ret ?_
    refine thr ?_
    refine ra1 cT (i6 3) ?_
    exact ⟨3, rfl, cS, p.below⟩
   · -- no
    have ae := ad.2 aC; clear ad
    refine wp_skip ?_
    refine thn ?_
    refine wp_seq ?_
    refine sqB I p [0] [] [(37, .bool (decide ((u0.Signals.length : Int) > 16)))] ?_; intro e8 J; clear I
    refine cd J (t := decide ((u0.Signals.length : Int) > 16)) (by kernel_rfl) (fun aD => ?_) (fun aD => ?_)
    · -- yes
     have cU := ae.1 aD; clear ae
     refine sqB J p [] [] [(2, i6 2)] ?_; intro e9 cV; clear J
     refine wp_ret ?_
     refine thr ?_
     refine ra1 cV (i6 2) ?_
     exact ⟨2, rfl, cU, p.below⟩
    · -- no
     have cW := ae.2 aD; clear ae
     refine wp_skip ?_
     refine thn ?_
     refine wp_seq ?_
     refine sqB J p [0] [] [(39, .slice ao1 u0.Signals.length cap2), (40, i6 (u0.Signals.length : Int)), (41, i6 0)] ?_; intro bf bg; clear J
     refine wp_block ?_
     have bh : Fr 138 [] [⟨1, [], pt m 0⟩, ⟨39, [], .slice ao1 u0.Signals.length cap2⟩, ⟨40, [], i6 (u0.Signals.length : Int)⟩, ⟨41, [], i6 0⟩] bf := bg.region (by kernel_rfl) (by kernel_rfl); clear bg
     have bi : Fr 138 [] [⟨1, [], pt m 0⟩, ⟨39, [], .slice ao1 u0.Signals.length cap2⟩, ⟨40, [], i6 (u0.Signals.length : Int)⟩, ⟨41, [], i6 0⟩] bf := bh.region (by kernel_rfl) (by kernel_rfl); clear bh
     obtain ⟨cX, cY, cZ, c0⟩ := cW
     refine lp (ι := Int) (fun s => [⟨1, [], pt m 0⟩, ⟨39, [], .slice ao1 u0.Signals.length cap2⟩, ⟨40, [], i6 (u0.Signals.length : Int)⟩, ⟨41, [], i6 s⟩]) (fun s => [.row m (e56Ms u0 ao1 cap2) 56]) (fun s => Z) (fun s => cX s) (fun s => cY s) 0 cZ (by exact bi.region (by kernel_rfl) (by kernel_rfl)) (by exact p) ?_
     rintro i c1 c2 c3 bj bk
     have bl : Fr 138 [] [⟨1, [], pt m 0⟩, ⟨39, [], .slice ao1 u0.Signals.length cap2⟩, ⟨40, [], i6 (u0.Signals.length : Int)⟩, ⟨41, [], i6 i⟩] c2 := bj; clear bj bi
     have n : Mem w.heap.size [] w Z [.row m (e56Ms u0 ao1 cap2) 56] Z c3 := bk; clear bk p
     have af := c0 i c1
     refine sqB bl n [] [] [(42, .bool (decide (i < (u0.Signals.length : Int))))] ?_; intro bm L; clear bl
     refine wp_seq ?_
     refine cd L (t := decide (i < (u0.Signals.length : Int))) (by kernel_rfl) (fun aE => ?_) (fun aE => ?_)
     · -- yes
      have c4 := af.1 aE; clear af
      refine wp_skip ?_
      refine thn ?_
      have bn : Fr 138 [] [⟨1, [], pt m 0⟩, ⟨39, [], .slice ao1 u0.Signals.length cap2⟩, ⟨40, [], i6 (u0.Signals.length : Int)⟩, ⟨41, [], i6 i⟩] bm := L.region (by kernel_rfl) (by kernel_rfl); clear L
      have aF : Fr 138 [] [⟨1, [], pt m 0⟩, ⟨39, [], .slice ao1 u0.Signals.length cap2⟩, ⟨40, [], i6 (u0.Signals.length : Int)⟩, ⟨41, [], i6 i⟩] bm := bn.region (by kernel_rfl) (by kernel_rfl); clear bn
      obtain ⟨c5, c6, c7⟩ := c4
      refine wp_seq_k fun KJ132 hKJ133 => ?_
      have c8 : ∀ (_u : Unit), c5 → ∀ a1 w1, Fr 138 [] [⟨1, [], pt m 0⟩, ⟨39, [], .slice ao1 u0.Signals.length cap2⟩, ⟨40, [], i6 (u0.Signals.length : Int)⟩, ⟨41, [], i6 i⟩] a1 → Mem w.heap.size [] w Z [.row m (e56Ms u0 ao1 cap2) 56] Z w1 → KJ132 a1 w1 := by
       rintro _u c9 fa fb bo bp; clear aF n
       refine hKJ133 _ _ ?_; clear hKJ133
       have bq := c7  c9
       refine rgB bo bp [] [] [(41, i6 (w64 (i + 1)))] ?_; intro fd da; clear bo
       refine rd ?_
       exact ⟨w64 (i + 1), bq.1, bq.2, (da.region (by kernel_rfl) (by kernel_rfl)).anyβ _ (by kernel_rfl), bp.keep (List.Sublist.cons_cons _ (List.Sublist.slnil))⟩
      refine wp_block ?_
      refine sqH ?_; intro db br
      refine s1 aF 43 (i6 i) ?_; intro fe bs; clear aF
      obtain ⟨dc, bu⟩ := c6
      refine ix bs (T := tySignal) (xs := u0.Signals) hs3 i dc (k := .i64) (e := 23) (bytes := 72) (nog rfl _) rfl (by kernel_rfl) rfl (by kernel_rfl) (by kernel_rfl) (by kernel_rfl) ?_; intro ff fg dd a fh de df dg bv; clear bs
      have ag := bu a de; clear bu
      obtain rfl : dd = ((e23Ms a) : List Value) := dg
      refine z2 bv n 45 df 0 9 (e23Ms a) rfl ?_; intro fi bw; clear bv
      refine nw bw n pb [str [], i6 0, i6 0, .bool false, .bool false, i6 0, i6 0, i6 0, i6 0] 23 ?_; intro q fj fk bx bz; clear bw n
      refine s1 bx 4 (i6 i) ?_; intro fl aG; clear bx
      refine sx aG bz 0 (e23Ms a) 0 ?_; intro dh bA; clear bz
      have ah : Mem w.heap.size [] w Z [.row q (e23Ms a) 23, .row m (e56Ms u0 ao1 cap2) 56] Z dh := bA; clear bA
      refine nlH (br _ _ ?_); clear br db
      refine wp_seq ?_
      refine sqH ?_; intro di bB
      refine bt aG ah 3 [0, 1] [] [(46, .agg (e23Ms a).toArray), (48, i6 u0.Size)] ?_; intro fm bC; clear aG
      refine fc bC ah (rcheck_fun a u0.Size _ _ ah.fz) ?_; intro fn fo bD z; clear bC ah
      refine s1 bD 6 (i6 (checkS a u0.Size)) ?_; intro fp bE; clear bD
      refine nlH (bB _ _ ?_); clear bB di
      refine sqB bE z [] [] [(51, .bool ((checkS a u0.Size) != 0))] ?_; intro fq M; clear bE
      refine cd M (t := (checkS a u0.Size) != 0) (by kernel_rfl) (fun aH => ?_) (fun aH => ?_)
      · -- yes
       have dj := ag.1 aH; clear ag
       refine sqB M z [] [] [(2, i6 (checkS a u0.Size))] ?_; intro fr dk; clear M
       refine wp_ret ?_
       refine thr ?_
       refine ibr ?_
       refine thr ?_
       refine thr ?_
       refine ibr ?_
       refine thr ?_
       refine ra1 dk (i6 (checkS a u0.Size)) ?_
       exact ⟨(checkS a u0.Size), rfl, dj, z.below⟩
      · -- no
       have dl := ag.2 aH; clear ag
       refine wp_skip ?_
       refine thn ?_
       refine sqH ?_; intro dm bF
       refine bt M z 3 [1] [] [(54, .slice ao1 u0.Signals.length cap2), (55, i6 i)] ?_; intro fs bG; clear M
       obtain ⟨dn, dp⟩ := dl
       refine slH bG (T := tySignal) (xs := u0.Signals) hs3 i dn (k' := .i64) (e := 23) (bytes := 72) (nog rfl _) rfl (by kernel_rfl) rfl (by kernel_rfl) (by kernel_rfl) (by kernel_rfl) ?_; intro A B ft fu dq bH; clear bG
       refine bt bH z 2 [] [] [(57, i6 ((u0.Signals.take i.toNat).length : Int)), (58, i6 0)] ?_; intro bI bJ; clear bH
       refine nlH (bF _ _ ?_); clear bF dm
       refine wp_block ?_
       have bK : Fr 138 [] [⟨1, [], pt m 0⟩, ⟨5, [], pt q 0⟩, ⟨39, [], .slice ao1 u0.Signals.length cap2⟩, ⟨40, [], i6 (u0.Signals.length : Int)⟩, ⟨41, [], i6 i⟩, ⟨56, [], .slice A (u0.Signals.take i.toNat).length B⟩, ⟨57, [], i6 ((u0.Signals.take i.toNat).length : Int)⟩, ⟨58, [], i6 0⟩] bI := bJ.region (by kernel_rfl) (by kernel_rfl); clear bJ
       have bL : Fr 138 [] [⟨1, [], pt m 0⟩, ⟨5, [], pt q 0⟩, ⟨39, [], .slice ao1 u0.Signals.length cap2⟩, ⟨40, [], i6 (u0.Signals.length : Int)⟩, ⟨41, [], i6 i⟩, ⟨56, [], .slice A (u0.Signals.take i.toNat).length B⟩, ⟨57, [], i6 ((u0.Signals.take i.toNat).length : Int)⟩, ⟨58, [], i6 0⟩] bI := bK.region (by kernel_rfl) (by kernel_rfl); clear bK
       obtain ⟨dr, ds, dt, du⟩ := dp
       refine lp (ι := Int) (fun s => [⟨1, [], pt m 0⟩, ⟨5, [], pt q 0⟩, ⟨39, [], .slice ao1 u0.Signals.length cap2⟩, ⟨40, [], i6 (u0.Signals.length : Int)⟩, ⟨41, [], i6 i⟩, ⟨56, [], .slice A (u0.Signals.take i.toNat).length B⟩, ⟨57, [], i6 ((u0.Signals.take i.toNat).length : Int)⟩, ⟨58, [], i6 s⟩]) (fun s => [.row q (e23Ms a) 23, .row m (e56Ms u0 ao1 cap2) 56]) (fun s => Z) (fun s => dr s) (fun s => ds s) 0 dt (by exact bL.region (by kernel_rfl) (by kernel_rfl)) (by exact z) ?_
       rintro u dv dw dx bM bN
       have bO : Fr 138 [] [⟨1, [], pt m 0⟩, ⟨5, [], pt q 0⟩, ⟨39, [], .slice ao1 u0.Signals.length cap2⟩, ⟨40, [], i6 (u0.Signals.length : Int)⟩, ⟨41, [], i6 i⟩, ⟨56, [], .slice A (u0.Signals.take i.toNat).length B⟩, ⟨57, [], i6 ((u0.Signals.take i.toNat).length : Int)⟩, ⟨58, [], i6 u⟩] dw := bM; clear bM bL
       have D : Mem w.heap.size [] w Z [.row q (e23Ms a) 23, .row m (e56Ms u0 ao1 cap2) 56] Z dx := bN; clear bN z
       have ai := du u dv
       refine sqB bO D [] [] [(59, .bool (decide (u < ((u0.Signals.take i.toNat).length : Int))))] ?_; intro bP aj; clear bO
       refine wp_seq ?_
       refine cd aj (t := decide (u < ((u0.Signals.take i.toNat).length : Int))) (by kernel_rfl) (fun aI => ?_) (fun aI => ?_)
       · -- yes
        have dy := ai.1 aI; clear ai
        refine wp_skip ?_
        refine thn ?_
        have bQ : Fr 138 [] [⟨1, [], pt m 0⟩, ⟨5, [], pt q 0⟩, ⟨39, [], .slice ao1 u0.Signals.length cap2⟩, ⟨40, [], i6 (u0.Signals.length : Int)⟩, ⟨41, [], i6 i⟩, ⟨56, [], .slice A (u0.Signals.take i.toNat).length B⟩, ⟨57, [], i6 ((u0.Signals.take i.toNat).length : Int)⟩, ⟨58, [], i6 u⟩] bP := aj.region (by kernel_rfl) (by kernel_rfl); clear aj
        have aJ : Fr 138 [] [⟨1, [], pt m 0⟩, ⟨5, [], pt q 0⟩, ⟨39, [], .slice ao1 u0.Signals.length cap2⟩, ⟨40, [], i6 (u0.Signals.length : Int)⟩, ⟨41, [], i6 i⟩, ⟨56, [], .slice A (u0.Signals.take i.toNat).length B⟩, ⟨57, [], i6 ((u0.Signals.take i.toNat).length : Int)⟩, ⟨58, [], i6 u⟩] bP := bQ.region (by kernel_rfl) (by kernel_rfl); clear bQ
        obtain ⟨dz, dA, dB⟩ := dy
        refine wp_seq_k fun KJ242 hKJ243 => ?_
        have bR : ∀ (_u : Unit), dz → ∀ a1 w1, Fr 138 [] [⟨1, [], pt m 0⟩, ⟨5, [], pt q 0⟩, ⟨39, [], .slice ao1 u0.Signals.length cap2⟩, ⟨40, [], i6 (u0.Signals.length : Int)⟩, ⟨41, [], i6 i⟩, ⟨56, [], .slice A (u0.Signals.take i.toNat).length B⟩, ⟨57, [], i6 ((u0.Signals.take i.toNat).length : Int)⟩, ⟨58, [], i6 u⟩] a1 → Mem w.heap.size [] w Z [.row q (e23Ms a) 23, .row m (e56Ms u0 ao1 cap2) 56] Z w1 → KJ242 a1 w1 := by
         rintro _u dC fv fw bS bT; clear aJ D
         refine hKJ243 _ _ ?_; clear hKJ243
         have bU := dB  dC
         refine rgB bS bT [] [] [(58, i6 (w64 (u + 1)))] ?_; intro fx dD; clear bS
         refine rd ?_
         exact ⟨w64 (u + 1), bU.1, bU.2, (dD.region (by kernel_rfl) (by kernel_rfl)).anyβ _ (by kernel_rfl), bT.keep (List.Sublist.cons_cons _ (List.Sublist.cons_cons _ (List.Sublist.slnil)))⟩
        refine wp_block ?_
        refine sqH ?_; intro dE bV
        obtain ⟨dF, bW⟩ := dA
        refine ix aJ (T := tySignal) (xs := u0.Signals.take i.toNat) dq u dF (k := .i64) (e := 23) (bytes := 72) (nog rfl _) rfl (by kernel_rfl) rfl (by kernel_rfl) (by kernel_rfl) (by kernel_rfl) ?_; intro fy fA dG h fB dH dI dJ bX; clear aJ
        have ak := bW h dH; clear bW
        obtain rfl : dG = ((e23Ms h) : List Value) := dJ
        refine z2 bX D 61 dI 0 9 (e23Ms h) rfl ?_; intro fC bY; clear bX
        refine nw bY D pb [str [], i6 0, i6 0, .bool false, .bool false, i6 0, i6 0, i6 0, i6 0] 23 ?_; intro dK fD fE aK bZ; clear bY D
        refine sx aK bZ 0 (e23Ms h) 0 ?_; intro dL b0; clear bZ
        have x : Mem w.heap.size [] w Z [.row dK (e23Ms h) 23, .row q (e23Ms a) 23, .row m (e56Ms u0 ao1 cap2) 56] Z dL := b0; clear b0
        refine nlH (bV _ _ ?_); clear bV dE
        refine wp_seq ?_
        refine sqB aK x [1, 0] [204] [(66, .bool (a.Name == h.Name))] ?_; intro fF N; clear aK
        refine cd N (t := a.Name == h.Name) (by kernel_rfl) (fun aL => ?_) (fun aL => ?_)
        · -- yes
         have dM := ak.1 aL; clear ak
         refine sqB N x [] [] [(2, i6 9)] ?_; intro fG dN; clear N
         refine wp_ret ?_
         refine thr ?_
         refine ibr ?_
         refine thr ?_
         refine thr ?_
         refine ibr ?_
         refine ibr ?_
         refine thr ?_
         refine thr ?_
         refine ibr ?_
         refine thr ?_
         refine ra1 dN (i6 9) ?_
         exact ⟨9, rfl, dM, x.below⟩
        · -- no
         have al := ak.2 aL; clear ak
         refine wp_skip ?_
         refine thn ?_
         refine sqH ?_; intro b1 am
         refine bt N x 17 [1, 0, 1, 0] [] [(83, .bool (!(((decide (a.Key ≥ 0)) && (decide (h.Key ≥ 0))) && (a.Key != h.Key))))] ?_; intro fH an; clear N
         rcases Bool.eq_false_or_eq_true (!(((decide (a.Key ≥ 0)) && (decide (h.Key ≥ 0))) && (a.Key != h.Key))) with O | O
         · -- true
          have dO := al.1 O; clear al
          have b2 := an.reval (d := 83) (c := []) (v := .bool (!(((decide (a.Key ≥ 0)) && (decide (h.Key ≥ 0))) && (a.Key != h.Key)))) (by kernel_rfl) (.bool true) (by rw [O]); clear an
          refine bt b2 x 2 [1, 0] [84, 85] [(84, .agg (e23Ms a).toArray), (85, .agg (e23Ms h).toArray)] ?_; intro fI aM; clear b2
          obtain ⟨dP, ao⟩ := dO
          refine fcl aM x (.bool (roverS a h)) 23 #[.agg (e23Ms a).toArray, .agg (e23Ms h).toArray] (by rw [wanted_of aM (b := true) rfl rfl (by kernel_rfl) (by kernel_rfl)]; rfl) rfl (by kernel_rfl) (fun _ => by kernel_rfl) (rover_fun a h dP _ _ x.fz) ?_; intro fJ fK b3 aN; clear aM x
          refine s1 b3 87 (.bool (roverS a h)) ?_; intro fL ap; clear b3
          refine nlH (am _ _ ?_); clear am b1
          refine cd ap (t := (roverS a h)) (by kernel_rfl) (fun aO => ?_) (fun aO => ?_)
          · -- yes
           have dQ := ao.1 aO; clear ao
           refine sqB ap aN [] [] [(2, i6 10)] ?_; intro fM dR; clear ap
           refine wp_ret ?_
           refine ibr ?_
           refine thr ?_
           refine thr ?_
           refine ibr ?_
           refine ibr ?_
           refine thr ?_
           refine thr ?_
           refine ibr ?_
           refine thr ?_
           refine ra1 dR (i6 10) ?_
           exact ⟨10, rfl, dQ, aN.below⟩
          · -- no
           have dS := ao.2 aO; clear ao
           refine wp_skip ?_
           refine ibn ?_
           refine rd ?_
           exact bR () dS _ _ ((ap.region (by kernel_rfl) (by kernel_rfl)).anyβ _ (by kernel_rfl)) (aN.keep (List.Sublist.cons _ (List.Sublist.cons_cons _ (List.Sublist.cons_cons _ (List.Sublist.slnil)))))
         · -- false
          have dT := al.2 O; clear al
          have b4 := an.reval (d := 83) (c := []) (v := .bool (!(((decide (a.Key ≥ 0)) && (decide (h.Key ≥ 0))) && (a.Key != h.Key)))) (by kernel_rfl) (.bool false) (by rw [O]); clear an
          refine bt b4 x 4 [] [84, 85, 86, 87] [(87, .bool false)] ?_; intro fN b5; clear b4
          refine nlH (am _ _ ?_); clear am b1
          refine cdF b5 (by kernel_rfl) ?_
          refine wp_skip ?_
          refine ibn ?_
          refine rd ?_
          exact bR () dT _ _ ((b5.region (by kernel_rfl) (by kernel_rfl)).anyβ _ (by kernel_rfl)) (x.keep (List.Sublist.cons _ (List.Sublist.cons_cons _ (List.Sublist.cons_cons _ (List.Sublist.slnil)))))
       · -- no
        have dU := ai.2 aI; clear ai
        refine wp_exit ?_
        refine thx ?_
        refine thx ?_
        refine ibx ?_
        refine ibn ?_
        refine rd ?_
        exact c8 () dU _ _ ((aj.region (by kernel_rfl) (by kernel_rfl)).anyβ _ (by kernel_rfl)) (D.keep (List.Sublist.cons _ (List.Sublist.cons_cons _ (List.Sublist.slnil))))
     · -- no
      have aq := af.2 aE; clear af
      refine wp_exit ?_
      refine thx ?_
      refine thx ?_
      refine ibx ?_
      refine thn ?_
      refine wp_seq ?_
      refine sqB L n [0, 0, 0] [] [(100, .bool ((decide (u0.Chooser < (-1))) || (decide (u0.Chooser ≥ (u0.Signals.length : Int)))))] ?_; intro fO P; clear L
      refine cd P (t := (decide (u0.Chooser < (-1))) || (decide (u0.Chooser ≥ (u0.Signals.length : Int)))) (by kernel_rfl) (fun aP => ?_) (fun aP => ?_)
      · -- yes
       have dV := aq.1 aP; clear aq
       refine sqB P n [] [] [(2, i6 8)] ?_; intro fP dW; clear P
       refine wp_ret ?_
       refine thr ?_
       refine ra1 dW (i6 8) ?_
       exact ⟨8, rfl, dV, n.below⟩
      · -- no
       have ar := aq.2 aP; clear aq
       refine wp_skip ?_
       refine thn ?_
       refine sqB P n [] [] [(9, i6 (-1))] ?_; intro fQ b7; clear P
       refine wp_seq ?_
       refine sqB b7 n [0] [] [(103, .bool (decide (u0.Chooser ≥ 0)))] ?_; intro fR Q; clear b7
       refine cd Q (t := decide (u0.Chooser ≥ 0)) (by kernel_rfl) (fun aQ => ?_) (fun aQ => ?_)
       · -- yes
        have dX := ar.1 aQ; clear ar
        refine sqH ?_; intro dY b8
        refine bt Q n 4 [0, 0] [] [(105, .slice ao1 u0.Signals.length cap2), (107, i6 u0.Chooser)] ?_; intro fS b9; clear Q
        obtain ⟨dZ, ca⟩ := dX
        refine ix b9 (T := tySignal) (xs := u0.Signals) hs3 u0.Chooser dZ (k := .i64) (e := 23) (bytes := 72) (nog rfl _) rfl (by kernel_rfl) rfl (by kernel_rfl) (by kernel_rfl) (by kernel_rfl) ?_; intro fT fU d0 f fV d1 d2 d3 cb; clear b9
        have au := ca f d1; clear ca
        obtain rfl : d0 = ((e23Ms f) : List Value) := d3
        refine z2 cb n 109 d2 0 9 (e23Ms f) rfl ?_; intro fW cc; clear cb
        refine nw cc n pb [str [], i6 0, i6 0, .bool false, .bool false, i6 0, i6 0, i6 0, i6 0] 23 ?_; intro av fX fY aR ce; clear cc n
        refine sx aR ce 0 (e23Ms f) 0 ?_; intro d4 cf; clear ce
        have y : Mem w.heap.size [] w Z [.row av (e23Ms f) 23, .row m (e56Ms u0 ao1 cap2) 56] Z d4 := cf; clear cf
        refine nlH (b8 _ _ ?_); clear b8 dY
        refine wp_seq ?_
        refine sqB aR y [0, 0, 0] [] [(121, .bool ((f.Signed || (f.Key != (-1))) || (decide (f.Size > 8))))] ?_; intro fZ R; clear aR
        refine cd R (t := (f.Signed || (f.Key != (-1))) || (decide (f.Size > 8))) (by kernel_rfl) (fun aS => ?_) (fun aS => ?_)
        · -- yes
         have d5 := au.1 aS; clear au
         refine sqB R y [] [] [(2, i6 4)] ?_; intro f0 d6; clear R
         refine wp_ret ?_
         refine thr ?_
         refine thr ?_
         refine ra1 d6 (i6 4) ?_
         exact ⟨4, rfl, d5, y.below⟩
        · -- no
         have d7 := au.2 aS; clear au
         refine wp_skip ?_
         refine thn ?_
         refine rgH ?_; intro d8 cg
         refine bt R y 2 [0] [] [(123, i6 f.Size)] ?_; intro f1 aT; clear R
         obtain ⟨d9, ea⟩ := d7
         refine st aT (i6 (bShl .i64 1 f.Size)) (nog rfl _) rfl (by kernel_rfl) (shl_run aT (g := []) (k' := .i64) rfl (by kernel_rfl) (by kernel_rfl) d9 rfl) ?_; intro f2 ch; clear aT
         refine bt ch y 2 [] [] [(9, i6 (w64 ((bShl .i64 1 f.Size) - 1)))] ?_; intro f3 ci; clear ch
         refine nlH (cg _ _ ?_); clear cg d8
         refine thn ?_
         refine wp_seq ?_
         refine sqB ci y [1] [] [(127, .slice ao1 u0.Signals.length cap2), (128, i6 (u0.Signals.length : Int)), (129, i6 0)] ?_; intro cj ck; clear ci
         refine wp_block ?_
         have cl : Fr 138 [] [⟨9, [], i6 (w64 ((bShl .i64 1 f.Size) - 1))⟩, ⟨127, [], .slice ao1 u0.Signals.length cap2⟩, ⟨128, [], i6 (u0.Signals.length : Int)⟩, ⟨129, [], i6 0⟩] cj := ck.region (by kernel_rfl) (by kernel_rfl); clear ck
         have cm : Fr 138 [] [⟨9, [], i6 (w64 ((bShl .i64 1 f.Size) - 1))⟩, ⟨127, [], .slice ao1 u0.Signals.length cap2⟩, ⟨128, [], i6 (u0.Signals.length : Int)⟩, ⟨129, [], i6 0⟩] cj := cl.region (by kernel_rfl) (by kernel_rfl); clear cl
         obtain ⟨eb, ec, ed, ee⟩ := ea
         refine lp (ι := Int) (fun s => [⟨9, [], i6 (w64 ((bShl .i64 1 f.Size) - 1))⟩, ⟨127, [], .slice ao1 u0.Signals.length cap2⟩, ⟨128, [], i6 (u0.Signals.length : Int)⟩, ⟨129, [], i6 s⟩]) (fun s => [.row av (e23Ms f) 23, .row m (e56Ms u0 ao1 cap2) 56]) (fun s => Z) (fun s => eb s) (fun s => ec s) 0 ed (by exact cm.region (by kernel_rfl) (by kernel_rfl)) (by exact y) ?_
         rintro o ef eg eh cn co
         have cp : Fr 138 [] [⟨9, [], i6 (w64 ((bShl .i64 1 f.Size) - 1))⟩, ⟨127, [], .slice ao1 u0.Signals.length cap2⟩, ⟨128, [], i6 (u0.Signals.length : Int)⟩, ⟨129, [], i6 o⟩] eg := cn; clear cn cm
         have E : Mem w.heap.size [] w Z [.row av (e23Ms f) 23, .row m (e56Ms u0 ao1 cap2) 56] Z eh := co; clear co y
         have aw := ee o ef
         refine sqB cp E [] [] [(130, .bool (decide (o < (u0.Signals.length : Int))))] ?_; intro f4 S; clear cp
         refine wp_seq ?_
         refine cd S (t := decide (o < (u0.Signals.length : Int))) (by kernel_rfl) (fun aU => ?_) (fun aU => ?_)
         · -- yes
          have ei := aw.1 aU; clear aw
          refine wp_skip ?_
          refine thn ?_
          refine wp_seq ?_
          refine wp_block ?_
          refine sqH ?_; intro ej cq
          obtain ⟨ek, cr⟩ := ei
          refine ix S (T := tySignal) (xs := u0.Signals) hs3 o ek (k := .i64) (e := 23) (bytes := 72) (nog rfl _) rfl (by kernel_rfl) rfl (by kernel_rfl) (by kernel_rfl) (by kernel_rfl) ?_; intro f5 f6 el j f7 em en eo cs; clear S
          have ax := cr j em; clear cr
          obtain rfl : el = ((e23Ms j) : List Value) := eo
          refine z2 cs E 132 en 0 9 (e23Ms j) rfl ?_; intro f8 ct; clear cs
          refine nw ct E pb [str [], i6 0, i6 0, .bool false, .bool false, i6 0, i6 0, i6 0, i6 0] 23 ?_; intro ep f9 ga aV cu; clear ct E
          refine sx aV cu 0 (e23Ms j) 0 ?_; intro eq cv; clear cu
          have U : Mem w.heap.size [] w Z [.row ep (e23Ms j) 23, .row av (e23Ms f) 23, .row m (e56Ms u0 ao1 cap2) 56] Z eq := cv; clear cv
          refine nlH (cq _ _ ?_); clear cq ej
          refine sqB aV U [0] [] [(136, .bool (decide (j.Key > (w64 ((bShl .i64 1 f.Size) - 1)))))] ?_; intro gb V; clear aV
          refine cd V (t := decide (j.Key > (w64 ((bShl .i64 1 f.Size) - 1)))) (by kernel_rfl) (fun aW => ?_) (fun aW => ?_)
          · -- yes
           have er := ax.1 aW; clear ax
           refine sqB V U [] [] [(2, i6 4)] ?_; intro gc es; clear V
           refine wp_ret ?_
           refine ibr ?_
           refine thr ?_
           refine thr ?_
           refine ibr ?_
           refine thr ?_
           refine ra1 es (i6 4) ?_
           exact ⟨4, rfl, er, U.below⟩
          · -- no
           have cw := ax.2 aW; clear ax
           refine wp_skip ?_
           refine ibn ?_
           refine thn ?_
           refine rgB V U [] [] [(129, i6 (w64 (o + 1)))] ?_; intro gd et; clear V
           refine rd ?_
           exact ⟨w64 (o + 1), cw.1, cw.2, (et.region (by kernel_rfl) (by kernel_rfl)).anyβ _ (by kernel_rfl), U.keep (List.Sublist.cons _ (List.Sublist.cons_cons _ (List.Sublist.cons_cons _ (List.Sublist.slnil))))⟩
         · -- no
          have eu := aw.2 aU; clear aw
          refine wp_exit ?_
          refine thx ?_
          refine thx ?_
          refine ibx ?_
          refine thn ?_
          refine sqB S E [] [] [(2, i6 0)] ?_; intro ge ev; clear S
          refine wp_ret ?_
          refine ra1 ev (i6 0) ?_
          exact ⟨0, rfl, eu, E.below⟩
       · -- no
        have ew := ar.2 aQ; clear ar
        refine wp_skip ?_
        refine thn ?_
        refine wp_seq ?_
        refine sqB Q n [0] [] [(127, .slice ao1 u0.Signals.length cap2), (128, i6 (u0.Signals.length : Int)), (129, i6 0)] ?_; intro cx cy; clear Q
        refine wp_block ?_
        have cz : Fr 138 [] [⟨9, [], i6 (-1)⟩, ⟨127, [], .slice ao1 u0.Signals.length cap2⟩, ⟨128, [], i6 (u0.Signals.length : Int)⟩, ⟨129, [], i6 0⟩] cx := cy.region (by kernel_rfl) (by kernel_rfl); clear cy
        have cA : Fr 138 [] [⟨9, [], i6 (-1)⟩, ⟨127, [], .slice ao1 u0.Signals.length cap2⟩, ⟨128, [], i6 (u0.Signals.length : Int)⟩, ⟨129, [], i6 0⟩] cx := cz.region (by kernel_rfl) (by kernel_rfl); clear cz
        obtain ⟨ex, ey, ez, eA⟩ := ew
        refine lp (ι := Int) (fun s => [⟨9, [], i6 (-1)⟩, ⟨127, [], .slice ao1 u0.Signals.length cap2⟩, ⟨128, [], i6 (u0.Signals.length : Int)⟩, ⟨129, [], i6 s⟩]) (fun s => [.row m (e56Ms u0 ao1 cap2) 56]) (fun s => Z) (fun s => ex s) (fun s => ey s) 0 ez (by exact cA.region (by kernel_rfl) (by kernel_rfl)) (by exact n) ?_
        rintro o eB eC eD cB cC
        have cD : Fr 138 [] [⟨9, [], i6 (-1)⟩, ⟨127, [], .slice ao1 u0.Signals.length cap2⟩, ⟨128, [], i6 (u0.Signals.length : Int)⟩, ⟨129, [], i6 o⟩] eC := cB; clear cB cA
        have F : Mem w.heap.size [] w Z [.row m (e56Ms u0 ao1 cap2) 56] Z eD := cC; clear cC n
        have ay := eA o eB
        refine sqB cD F [] [] [(130, .bool (decide (o < (u0.Signals.length : Int))))] ?_; intro gf W; clear cD
        refine wp_seq ?_
        refine cd W (t := decide (o < (u0.Signals.length : Int))) (by kernel_rfl) (fun aX => ?_) (fun aX => ?_)
        · -- yes
         have eE := ay.1 aX; clear ay
         refine wp_skip ?_
         refine thn ?_
         refine wp_seq ?_
         refine wp_block ?_
         refine sqH ?_; intro eF cE
         obtain ⟨eG, cF⟩ := eE
         refine ix W (T := tySignal) (xs := u0.Signals) hs3 o eG (k := .i64) (e := 23) (bytes := 72) (nog rfl _) rfl (by kernel_rfl) rfl (by kernel_rfl) (by kernel_rfl) (by kernel_rfl) ?_; intro gg gh eH l gi eI eJ eK cG; clear W
         have az := cF l eI; clear cF
         obtain rfl : eH = ((e23Ms l) : List Value) := eK
         refine z2 cG F 132 eJ 0 9 (e23Ms l) rfl ?_; intro gj cH; clear cG
         refine nw cH F pb [str [], i6 0, i6 0, .bool false, .bool false, i6 0, i6 0, i6 0, i6 0] 23 ?_; intro eL gk gl aY cI; clear cH F
         refine sx aY cI 0 (e23Ms l) 0 ?_; intro eM cJ; clear cI
         have X : Mem w.heap.size [] w Z [.row eL (e23Ms l) 23, .row m (e56Ms u0 ao1 cap2) 56] Z eM := cJ; clear cJ
         refine nlH (cE _ _ ?_); clear cE eF
         refine sqB aY X [0] [] [(136, .bool (decide (l.Key > (-1))))] ?_; intro gm Y; clear aY
         refine cd Y (t := decide (l.Key > (-1))) (by kernel_rfl) (fun aZ => ?_) (fun aZ => ?_)
         · -- yes
          have eN := az.1 aZ; clear az
          refine sqB Y X [] [] [(2, i6 4)] ?_; intro gn eO; clear Y
          refine wp_ret ?_
          refine ibr ?_
          refine thr ?_
          refine thr ?_
          refine ibr ?_
          refine thr ?_
          refine ra1 eO (i6 4) ?_
          exact ⟨4, rfl, eN, X.below⟩
         · -- no
          have cK := az.2 aZ; clear az
          refine wp_skip ?_
          refine ibn ?_
          refine thn ?_
          refine rgB Y X [] [] [(129, i6 (w64 (o + 1)))] ?_; intro go eP; clear Y
          refine rd ?_
          exact ⟨w64 (o + 1), cK.1, cK.2, (eP.region (by kernel_rfl) (by kernel_rfl)).anyβ _ (by kernel_rfl), X.keep (List.Sublist.cons _ (List.Sublist.cons_cons _ (List.Sublist.slnil)))⟩
        · -- no
         have eQ := ay.2 aX; clear ay
         refine wp_exit ?_
         refine thx ?_
         refine thx ?_
         refine ibx ?_
         refine thn ?_
         refine sqB W F [] [] [(2, i6 0)] ?_; intro gp eR; clear W
         refine wp_ret ?_
         refine ra1 eR (i6 0) ?_
         exact ⟨0, rfl, eQ, F.below⟩

end Go.Proofs.YtdndfbamhnchfaaDoor
set_option linter.unusedVariables false
set_option linter.unusedSimpArgs false
set_option maxRecDepth 100000
set_option maxHeartbeats 0
namespace Go.Proofs.YtdndfbamhnchfaaDoor
open Go.Sy Go.RowKit
abbrev e56Mt (X : Message) (A0 : Option Addr) (C0 : Nat) : List Value := [i6 X.ID, .bool X.Long, str X.Name, i6 X.Size, i6 X.Chooser, .slice A0 X.Signals.length C0]
theorem rcheckm_fun (u0 : Message) (ao1 : Option Addr) (cap2 : Nat) (Z : Fz) (w : World) (hs3 : SlR tySignal Z ao1 cap2 u0.Signals) (hZ : Z.on w) : Calls Tryd.prog 27 #[.agg #[i6 u0.ID, .bool u0.Long, str u0.Name, i6 u0.Size, i6 u0.Chooser, .slice ao1 u0.Signals.length cap2]] w fun e w' => e = .returned (i6 (mcheckS u0)) ∧ Below w.heap.size w w' :=
  (rcheckm_walk u0 ao1 cap2 Z w hs3 hZ (rcheckm_ok u0)).mono fun _ _ ⟨r, he, hk, hb⟩ => ⟨by subst hk; exact he, hb⟩

theorem rcheckl_walk (u0 : List Message) (ao1 : Option Addr) (cap2 : Nat) (Z : Fz) (w : World) (hs3 : SlR tyMessage Z ao1 cap2 u0) (hZ : Z.on w) {K : Int → Prop} (hp : rcheckl_vc u0 K) : Calls Tryd.prog 29 #[.slice ao1 u0.length cap2] w fun e w' => ∃ r : Int, e = .returned (i6 r) ∧ K r ∧ Below w.heap.size w w' := by
 refine enter0 Tryd.func29 rfl rfl (by kernel_rfl) ?_; intro a0 Q; have h := Mem.start w Z hZ; have bK := Fz.le.refl Z
 have v := hp (hs3.small); clear hp
 refine sqB Q h [] [] [] ?_; intro a6 R; clear Q
 refine wp_seq ?_
 refine sqB R h [] [] [(10, .bool (decide ((u0.length : Int) > 20)))] ?_; intro bL m; clear R
 refine cd m (t := decide ((u0.length : Int) > 20)) (by kernel_rfl) (fun F => ?_) (fun F => ?_)
 · -- yes
  have aO := v.1 F; clear v
  refine sqB m h [] [] [(2, i6 2)] ?_; intro bM aP; clear m
  refine wp_ret ?_
  refine thr ?_
  refine ra1 aP (i6 2) ?_
  exact ⟨2, rfl, aO, h.below⟩
 · -- no
  have aQ := v.2 F; clear v
  refine wp_skip ?_
  refine thn ?_
  refine wp_seq ?_
  refine sqB m h [] [] [(11, .slice ao1 u0.length cap2), (12, i6 (u0.length : Int)), (13, i6 0)] ?_; intro S U; clear m
  refine wp_block ?_
  have V : Fr 52 [] [⟨0, [], .slice ao1 u0.length cap2⟩, ⟨11, [], .slice ao1 u0.length cap2⟩, ⟨12, [], i6 (u0.length : Int)⟩, ⟨13, [], i6 0⟩] S := U.region (by kernel_rfl) (by kernel_rfl); clear U
  have W : Fr 52 [] [⟨0, [], .slice ao1 u0.length cap2⟩, ⟨11, [], .slice ao1 u0.length cap2⟩, ⟨12, [], i6 (u0.length : Int)⟩, ⟨13, [], i6 0⟩] S := V.region (by kernel_rfl) (by kernel_rfl); clear V
  obtain ⟨aR, aS, aT, aU⟩ := aQ
  refine lp (ι := Int) (fun s => [⟨0, [], .slice ao1 u0.length cap2⟩, ⟨11, [], .slice ao1 u0.length cap2⟩, ⟨12, [], i6 (u0.length : Int)⟩, ⟨13, [], i6 s⟩]) (fun s => []) (fun s => Z) (fun s => aR s) (fun s => aS s) 0 aT (by exact W.region (by kernel_rfl) (by kernel_rfl)) (by exact h) ?_
  rintro b aV aW aX X Y
  have aa : Fr 52 [] [⟨0, [], .slice ao1 u0.length cap2⟩, ⟨11, [], .slice ao1 u0.length cap2⟩, ⟨12, [], i6 (u0.length : Int)⟩, ⟨13, [], i6 b⟩] aW := X; clear X W
  have i : Mem w.heap.size [] w Z [] Z aX := Y; clear Y h
  have x := aU b aV
  refine sqB aa i [] [] [(14, .bool (decide (b < (u0.length : Int))))] ?_; intro ab n; clear aa
  refine wp_seq ?_
  refine cd n (t := decide (b < (u0.length : Int))) (by kernel_rfl) (fun G => ?_) (fun G => ?_)
  · -- yes
   have aY := x.1 G; clear x
   refine wp_skip ?_
   refine thn ?_
   have ac : Fr 52 [] [⟨0, [], .slice ao1 u0.length cap2⟩, ⟨11, [], .slice ao1 u0.length cap2⟩, ⟨12, [], i6 (u0.length : Int)⟩, ⟨13, [], i6 b⟩] ab := n.region (by kernel_rfl) (by kernel_rfl); clear n
   have H : Fr 52 [] [⟨0, [], .slice ao1 u0.length cap2⟩, ⟨11, [], .slice ao1 u0.length cap2⟩, ⟨12, [], i6 (u0.length : Int)⟩, ⟨13, [], i6 b⟩] ab := ac.region (by kernel_rfl) (by kernel_rfl); clear ac
   obtain ⟨aZ, a2, a3⟩ := aY
   refine wp_seq_k fun KJ52 hKJ53 => ?_
   have a4 : ∀ (_u : Unit), aZ → ∀ a1 w1, Fr 52 [] [⟨0, [], .slice ao1 u0.length cap2⟩, ⟨11, [], .slice ao1 u0.length cap2⟩, ⟨12, [], i6 (u0.length : Int)⟩, ⟨13, [], i6 b⟩] a1 → Mem w.heap.size [] w Z [] Z w1 → KJ52 a1 w1 := by
    rintro _u a5 bN bO ad ae; clear H i
    refine hKJ53 _ _ ?_; clear hKJ53
    have af := a3  a5
    refine rgB ad ae [] [] [(13, i6 (w64 (b + 1)))] ?_; intro bP a7; clear ad
    refine rd ?_
    exact ⟨w64 (b + 1), af.1, af.2, (a7.region (by kernel_rfl) (by kernel_rfl)).anyβ _ (by kernel_rfl), ae.keep (List.Sublist.slnil)⟩
   refine wp_block ?_
   refine sqH ?_; intro a8 ag
   refine s1 H 15 (i6 b) ?_; intro bQ ah; clear H
   obtain ⟨a9, ai⟩ := a2
   refine ix ah (T := tyMessage) (xs := u0) hs3 b a9 (k := .i64) (e := 56) (bytes := 72) (nog rfl _) rfl (by kernel_rfl) rfl (by kernel_rfl) (by kernel_rfl) (by kernel_rfl) ?_; intro bR bS bT a bU ba bb bc aj; clear ah
   have ak := ai a ba; clear ai
   obtain ⟨d, f, rfl, al⟩ := bc
   have y := ak (al.small); clear ak
   refine z2 aj i 17 bb 0 6 (e56Mt a d f) rfl ?_; intro bV am; clear aj
   refine nw am i pb [i6 0, .bool false, str [], i6 0, i6 0, .slice none 0 0] 56 ?_; intro g bW bX an ao; clear am i
   refine s1 an 3 (i6 b) ?_; intro bY I; clear an
   refine sx I ao 0 (e56Mt a d f) 0 ?_; intro bd ap; clear ao
   have z : Mem w.heap.size [] w Z [.row g (e56Mt a d f) 56] Z bd := ap; clear ap
   refine nlH (ag _ _ ?_); clear ag a8
   refine wp_seq ?_
   refine sqH ?_; intro be aq
   refine l2 I z 18 0 0 6 (e56Mt a d f) rfl rfl ?_; intro bZ ar; clear I
   refine fc ar z (rcheckm_fun a d f _ _ al z.fz) ?_; intro b0 b1 au j; clear ar z
   refine s1 au 5 (i6 (mcheckS a)) ?_; intro b2 av; clear au
   refine nlH (aq _ _ ?_); clear aq be
   refine sqB av j [] [] [(21, .bool ((mcheckS a) != 0))] ?_; intro b3 o; clear av
   refine cd o (t := (mcheckS a) != 0) (by kernel_rfl) (fun J => ?_) (fun J => ?_)
   · -- yes
    have bf := y.1 J; clear y
    refine sqB o j [] [] [(2, i6 (mcheckS a))] ?_; intro b4 bg; clear o
    refine wp_ret ?_
    refine thr ?_
    refine ibr ?_
    refine thr ?_
    refine thr ?_
    refine ibr ?_
    refine thr ?_
    refine ra1 bg (i6 (mcheckS a)) ?_
    exact ⟨(mcheckS a), rfl, bf, j.below⟩
   · -- no
    have bh := y.2 J; clear y
    refine wp_skip ?_
    refine thn ?_
    refine sqH ?_; intro bi aw
    refine bt o j 2 [] [] [(23, .slice ao1 u0.length cap2), (24, i6 b)] ?_; intro b5 ax; clear o
    obtain ⟨bj, bk⟩ := bh
    refine slH ax (T := tyMessage) (xs := u0) hs3 b bj (k' := .i64) (e := 56) (bytes := 72) (nog rfl _) rfl (by kernel_rfl) rfl (by kernel_rfl) (by kernel_rfl) (by kernel_rfl) ?_; intro A B b6 b7 bl ay; clear ax
    refine bt ay j 2 [] [] [(26, i6 ((u0.take b.toNat).length : Int)), (27, i6 0)] ?_; intro az aA; clear ay
    refine nlH (aw _ _ ?_); clear aw bi
    refine wp_block ?_
    have aB : Fr 52 [] [⟨0, [], .slice ao1 u0.length cap2⟩, ⟨4, [], pt g 0⟩, ⟨11, [], .slice ao1 u0.length cap2⟩, ⟨12, [], i6 (u0.length : Int)⟩, ⟨13, [], i6 b⟩, ⟨25, [], .slice A (u0.take b.toNat).length B⟩, ⟨26, [], i6 ((u0.take b.toNat).length : Int)⟩, ⟨27, [], i6 0⟩] az := aA.region (by kernel_rfl) (by kernel_rfl); clear aA
    have aC : Fr 52 [] [⟨0, [], .slice ao1 u0.length cap2⟩, ⟨4, [], pt g 0⟩, ⟨11, [], .slice ao1 u0.length cap2⟩, ⟨12, [], i6 (u0.length : Int)⟩, ⟨13, [], i6 b⟩, ⟨25, [], .slice A (u0.take b.toNat).length B⟩, ⟨26, [], i6 ((u0.take b.toNat).length : Int)⟩, ⟨27, [], i6 0⟩] az := aB.region (by kernel_rfl) (by kernel_rfl); clear aB
    obtain ⟨bm, bn, bo, bp⟩ := bk
    refine lp (ι := Int) (fun s => [⟨0, [], .slice ao1 u0.length cap2⟩, ⟨4, [], pt g 0⟩, ⟨11, [], .slice ao1 u0.length cap2⟩, ⟨12, [], i6 (u0.length : Int)⟩, ⟨13, [], i6 b⟩, ⟨25, [], .slice A (u0.take b.toNat).length B⟩, ⟨26, [], i6 ((u0.take b.toNat).length : Int)⟩, ⟨27, [], i6 s⟩]) (fun s => [.row g (e56Mt a d f) 56]) (fun s => Z) (fun s => bm s) (fun s => bn s) 0 bo (by exact aC.region (by kernel_rfl) (by kernel_rfl)) (by exact j) ?_
    rintro l bq br bs aD aE
    have aF : Fr 52 [] [⟨0, [], .slice ao1 u0.length cap2⟩, ⟨4, [], pt g 0⟩, ⟨11, [], .slice ao1 u0.length cap2⟩, ⟨12, [], i6 (u0.length : Int)⟩, ⟨13, [], i6 b⟩, ⟨25, [], .slice A (u0.take b.toNat).length B⟩, ⟨26, [], i6 ((u0.take b.toNat).length : Int)⟩, ⟨27, [], i6 l⟩] br := aD; clear aD aC
    have p : Mem w.heap.size [] w Z [.row g (e56Mt a d f) 56] Z bs := aE; clear aE j
    have C := bp l bq
    refine sqB aF p [] [] [(28, .bool (decide (l < ((u0.take b.toNat).length : Int))))] ?_; intro b8 D; clear aF
    refine wp_seq ?_
    refine cd D (t := decide (l < ((u0.take b.toNat).length : Int))) (by kernel_rfl) (fun L => ?_) (fun L => ?_)
    · -- yes
     have bu := C.1 L; clear C
     refine wp_skip ?_
     refine thn ?_
     refine wp_seq ?_
     refine wp_block ?_
     refine sqH ?_; intro bv aG
     obtain ⟨bw, aH⟩ := bu
     refine ix D (T := tyMessage) (xs := u0.take b.toNat) bl l bw (k := .i64) (e := 56) (bytes := 72) (nog rfl _) rfl (by kernel_rfl) rfl (by kernel_rfl) (by kernel_rfl) (by kernel_rfl) ?_; intro b9 ca cb c cc bx bz bA aI; clear D
     have aJ := aH c bx; clear aH
     obtain ⟨M, N, rfl, bB⟩ := bA
     have E := aJ (bB.small); clear aJ
     refine z2 aI p 30 bz 0 6 (e56Mt c M N) rfl ?_; intro ce aK; clear aI
     refine nw aK p pb [i6 0, .bool false, str [], i6 0, i6 0, .slice none 0 0] 56 ?_; intro bC cf cg O aL; clear aK p
     refine sx O aL 0 (e56Mt c M N) 0 ?_; intro bD aM; clear aL
     have q : Mem w.heap.size [] w Z [.row bC (e56Mt c M N) 56, .row g (e56Mt a d f) 56] Z bD := aM; clear aM
     refine nlH (aG _ _ ?_); clear aG bv
     refine sqB O q [0, 1, 0, 1, 0, 1] [87] [(49, .bool ((c.Name == a.Name) || ((c.ID == a.ID) && (c.Long == a.Long))))] ?_; intro ch u; clear O
     refine cd u (t := (c.Name == a.Name) || ((c.ID == a.ID) && (c.Long == a.Long))) (by kernel_rfl) (fun P => ?_) (fun P => ?_)
     · -- yes
      have bE := E.1 P; clear E
      refine sqB u q [] [] [(2, i6 9)] ?_; intro ci bF; clear u
      refine wp_ret ?_
      refine ibr ?_
      refine thr ?_
      refine thr ?_
      refine ibr ?_
      refine ibr ?_
      refine thr ?_
      refine thr ?_
      refine ibr ?_
      refine thr ?_
      refine ra1 bF (i6 9) ?_
      exact ⟨9, rfl, bE, q.below⟩
     · -- no
      have aN := E.2 P; clear E
      refine wp_skip ?_
      refine ibn ?_
      refine thn ?_
      refine rgB u q [] [] [(27, i6 (w64 (l + 1)))] ?_; intro cj bG; clear u
      refine rd ?_
      exact ⟨w64 (l + 1), aN.1, aN.2, (bG.region (by kernel_rfl) (by kernel_rfl)).anyβ _ (by kernel_rfl), q.keep (List.Sublist.cons _ (List.Sublist.cons_cons _ (List.Sublist.slnil)))⟩
    · -- no
     have bH := C.2 L; clear C
     refine wp_exit ?_
     refine thx ?_
     refine thx ?_
     refine ibx ?_
     refine ibn ?_
     refine rd ?_
     exact a4 () bH _ _ ((D.region (by kernel_rfl) (by kernel_rfl)).anyβ _ (by kernel_rfl)) (p.keep (List.Sublist.cons _ (List.Sublist.slnil)))
  · -- no
   have bI := x.2 G; clear x
   refine wp_exit ?_
   refine thx ?_
   refine thx ?_
   refine ibx ?_
   refine thn ?_
   refine sqB n i [] [] [(2, i6 0)] ?_; intro ck bJ; clear n
   refine wp_ret ?_
   refine ra1 bJ (i6 0) ?_
   exact ⟨0, rfl, bI, i.below⟩

end Go.Proofs.YtdndfbamhnchfaaDoor
set_option linter.unusedVariables false
set_option linter.unusedSimpArgs false
set_option maxRecDepth 100000
set_option maxHeartbeats 0
namespace Go.Proofs.YtdndfbamhnchfaaDoor
open Go.Sy Go.RowKit
abbrev e53Mu (X : Frame) (A0 : Option Addr) (C0 : Nat) : List Value := [i6 X.ID, .bool X.Long, .bool X.Fast, .bool X.Remote, i6 X.Size, .slice A0 X.Data.length C0]
abbrev e56Mu (X : Message) (A0 : Option Addr) (C0 : Nat) : List Value := [i6 X.ID, .bool X.Long, str X.Name, i6 X.Size, i6 X.Chooser, .slice A0 X.Signals.length C0]
theorem rcheckl_fun (u0 : List Message) (ao1 : Option Addr) (cap2 : Nat) (Z : Fz) (w : World) (hs3 : SlR tyMessage Z ao1 cap2 u0) (hZ : Z.on w) : Calls Tryd.prog 29 #[.slice ao1 u0.length cap2] w fun e w' => e = .returned (i6 (mchallS u0)) ∧ Below w.heap.size w w' :=
  (rcheckl_walk u0 ao1 cap2 Z w hs3 hZ (rcheckl_ok u0)).mono fun _ _ ⟨r, he, hk, hb⟩ => ⟨by subst hk; exact he, hb⟩

theorem mfind_fun (u0 : List Message) (u1 : Frame) (ao1 : Option Addr) (cap2 : Nat) (ao4 : Option Addr) (cap5 : Nat) (Z : Fz) (w : World) (hs3 : SlR tyMessage Z ao1 cap2 u0) (hs6 : SlR t8 Z ao4 cap5 u1.Data) (hZ : Z.on w) : Calls Tryd.prog 28 #[.slice ao1 u0.length cap2, .agg #[i6 u1.ID, .bool u1.Long, .bool u1.Fast, .bool u1.Remote, i6 u1.Size, .slice ao4 u1.Data.length cap5]] w fun e w' => e = .returned (.tuple #[i6 (mfindS u0 u1).1, i6 (mfindS u0 u1).2]) ∧ Below w.heap.size w w' :=
  (mfind_walk u0 u1 ao1 cap2 ao4 cap5 Z w hs3 hs6 hZ (mfind_ok u0 u1)).mono fun _ _ ⟨r, he, hk, hb⟩ => ⟨by subst hk; exact he, hb⟩

theorem LCheck1_walk (u0 : Message) (u1 : Frame) (ao1 : Option Addr) (cap2 : Nat) (cb7 co8 : Nat) (ao4 : Option Addr) (cap5 : Nat) (Z : Fz) (w : World) (hs3 : SlR tySignal Z ao1 cap2 u0.Signals) (hP9 : PtR Z cb7 co8 [i6 u1.ID, .bool u1.Long, .bool u1.Fast, .bool u1.Remote, i6 u1.Size, .slice ao4 u1.Data.length cap5]) (hs6 : SlR t8 Z ao4 cap5 u1.Data) (hZ : Z.on w) {K : Bool → Prop} (hp : LCheck1_vc u0 u1 K) : Calls Tryd.prog 34 #[.agg #[i6 u0.ID, .bool u0.Long, str u0.Name, i6 u0.Size, i6 u0.Chooser, .slice ao1 u0.Signals.length cap2], pt cb7 co8] w fun e w' => ∃ r : Bool, e = .returned (.bool r) ∧ K r ∧ Below w.heap.size w w' := by
 refine enter0 Tryd.func34 rfl rfl (by kernel_rfl) ?_; intro E h; have i := Mem.start w Z hZ; have F := Fz.le.refl Z
 have A := hp (hs3.small); clear hp
 refine sqH ?_; intro B j
 refine nw h i pb (e56Mu u0 ao1 cap2) 56 ?_; intro k G H l a; clear h i
 refine s1 l 3 (.bool false) ?_; intro I n; clear l
 refine nlH (j _ _ ?_); clear j B
 refine sqH ?_; intro C o
 refine bt n a 3 [0] [] [(5, i6 u0.ID), (6, pt cb7 co8)] ?_; intro J p; clear n
 refine z1 p a 7 hP9 0 (i6 u1.ID) rfl ?_; intro L q; clear p
 refine s1 q 8 (.bool (u0.ID == u1.ID)) ?_; intro M s; clear q
 refine s1 s 9 (.bool (u0.ID == u1.ID)) ?_; intro N t; clear s
 have u := t.atom ((u0.ID == u1.ID) == true) (by kernel_rfl); clear t
 refine gp u 10 0 [] (u0.ID == u1.ID) (pt k 1) rfl rfl ?_; intro O c; clear u
 refine gd c (.bool u0.Long) (m := 0) (cj := []) (bj := u0.ID == u1.ID) rfl rfl (by kernel_rfl) rfl (by kernel_rfl) (by kernel_rfl) (by kernel_rfl) (fun hg => ld c a 0 (g := [0]) (b := k) (off := 1) (cs := (e56Mu u0 ao1 cap2)) (ty := 56) rfl (by kernel_rfl) (by kernel_rfl) (by kernel_rfl) (by kernel_rfl) hg) ?_; intro P x; clear c
 refine gp x 12 0 [] (u0.ID == u1.ID) (.pointer (some ⟨cb7, co8 + 1, none⟩)) rfl rfl ?_; intro Q d; clear x
 refine gd d (.bool u1.Long) (m := 0) (cj := []) (bj := u0.ID == u1.ID) rfl rfl (by kernel_rfl) rfl (by kernel_rfl) (by kernel_rfl) (by kernel_rfl) (fun hg => lz d a.fz hP9 1 (g := [0]) rfl (by kernel_rfl) (by kernel_rfl) (by kernel_rfl) hg) ?_; intro R y; clear d
 refine gp y 14 0 [] (u0.ID == u1.ID) (.bool (u0.Long == u1.Long)) rfl rfl ?_; intro S f; clear y
 refine st f (.bool ((u0.ID == u1.ID) && (u0.Long == u1.Long))) (nog rfl _) rfl (by kernel_rfl) (pk_and f (g := []) (m := 0) (b := u0.ID == u1.ID) (v := u0.Long == u1.Long) rfl (by kernel_rfl) (by kernel_rfl) (by kernel_rfl) rfl) ?_; intro T z; clear f
 refine s1 z 3 (.bool ((u0.ID == u1.ID) && (u0.Long == u1.Long))) ?_; intro U D; clear z
 refine nlH (o _ _ ?_); clear o C
 refine wp_ret ?_
 refine ra1 D (.bool ((u0.ID == u1.ID) && (u0.Long == u1.Long))) ?_
 exact ⟨(u0.ID == u1.ID) && (u0.Long == u1.Long), rfl, A, a.below⟩
theorem LCheck1_fun (u0 : Message) (u1 : Frame) (ao1 : Option Addr) (cap2 : Nat) (cb7 co8 : Nat) (ao4 : Option Addr) (cap5 : Nat) (Z : Fz) (w : World) (hs3 : SlR tySignal Z ao1 cap2 u0.Signals) (hP9 : PtR Z cb7 co8 [i6 u1.ID, .bool u1.Long, .bool u1.Fast, .bool u1.Remote, i6 u1.Size, .slice ao4 u1.Data.length cap5]) (hs6 : SlR t8 Z ao4 cap5 u1.Data) (hZ : Z.on w) : Calls Tryd.prog 34 #[.agg #[i6 u0.ID, .bool u0.Long, str u0.Name, i6 u0.Size, i6 u0.Chooser, .slice ao1 u0.Signals.length cap2], pt cb7 co8] w fun e w' => e = .returned (.bool (LCheck1 u0 u1)) ∧ Below w.heap.size w w' :=
  (LCheck1_walk u0 u1 ao1 cap2 cb7 co8 ao4 cap5 Z w hs3 hP9 hs6 hZ (LCheck1_ok u0 u1)).mono fun _ _ ⟨r, he, hk, hb⟩ => ⟨by subst hk; exact he, hb⟩

theorem LCheck_walk (u0 : List Message) (u1 : Frame) (ao1 : Option Addr) (cap2 : Nat) (ao4 : Option Addr) (cap5 : Nat) (Z : Fz) (w : World) (hs3 : SlR tyMessage Z ao1 cap2 u0) (hs6 : SlR t8 Z ao4 cap5 u1.Data) (hZ : Z.on w) {K : Bool → Prop} (hp : LCheck_vc u0 u1 K) : Calls Tryd.prog 6 #[.slice ao1 u0.length cap2, .agg #[i6 u1.ID, .bool u1.Long, .bool u1.Fast, .bool u1.Remote, i6 u1.Size, .slice ao4 u1.Data.length cap5]] w fun e w' => ∃ r : Bool, e = .returned (.bool r) ∧ K r ∧ Below w.heap.size w w' := by
 refine enter0 Tryd.func6 rfl rfl (by kernel_rfl) ?_; intro a0 af; have ag := Mem.start w Z hZ; have x := Fz.le.refl Z
 have ah := hp (hs3.small); clear hp
 have bk := ah (hs6.small); clear ah
 refine sqH ?_; intro bl ai
 refine nw af ag pb (e53Mu u1 ao4 cap5) 53 ?_; intro c b5 b6 aj J; clear af ag
 refine s1 aj 4 (.bool false) ?_; intro b7 ak; clear aj
 refine nlH (ai _ _ ?_); clear ai bl
 refine wp_seq ?_
 refine sqB ak J [] [] [(10, .slice ao1 u0.length cap2), (11, i6 (u0.length : Int)), (12, i6 0)] ?_; intro al am; clear ak
 refine wp_block ?_
 have an : Fr 60 [] [⟨0, [], .slice ao1 u0.length cap2⟩, ⟨3, [], pt c 0⟩, ⟨10, [], .slice ao1 u0.length cap2⟩, ⟨11, [], i6 (u0.length : Int)⟩, ⟨12, [], i6 0⟩] al := am.region (by kernel_rfl) (by kernel_rfl); clear am
 have ao : Fr 60 [] [⟨0, [], .slice ao1 u0.length cap2⟩, ⟨3, [], pt c 0⟩, ⟨10, [], .slice ao1 u0.length cap2⟩, ⟨11, [], i6 (u0.length : Int)⟩, ⟨12, [], i6 0⟩] al := an.region (by kernel_rfl) (by kernel_rfl); clear an
 obtain ⟨bm, bn, bo, bp⟩ := bk
 refine lp (ι := Int) (fun s => [⟨0, [], .slice ao1 u0.length cap2⟩, ⟨3, [], pt c 0⟩, ⟨10, [], .slice ao1 u0.length cap2⟩, ⟨11, [], i6 (u0.length : Int)⟩, ⟨12, [], i6 s⟩]) (fun s => [.row c (e53Mu u1 ao4 cap5) 53]) (fun s => Z) (fun s => bm s) (fun s => bn s) 0 bo (by exact ao.region (by kernel_rfl) (by kernel_rfl)) (by exact J) ?_
 rintro i bq br bs ap aq
 have ar : Fr 60 [] [⟨0, [], .slice ao1 u0.length cap2⟩, ⟨3, [], pt c 0⟩, ⟨10, [], .slice ao1 u0.length cap2⟩, ⟨11, [], i6 (u0.length : Int)⟩, ⟨12, [], i6 i⟩] br := ap; clear ap ao
 have j : Mem w.heap.size [] w Z [.row c (e53Mu u1 ao4 cap5) 53] Z bs := aq; clear aq J
 have y := bp i bq
 refine sqB ar j [] [] [(13, .bool (decide (i < (u0.length : Int))))] ?_; intro b8 l; clear ar
 refine wp_seq ?_
 refine cd l (t := decide (i < (u0.length : Int))) (by kernel_rfl) (fun L => ?_) (fun L => ?_)
 · -- yes
  have bu := y.1 L; clear y
  refine wp_skip ?_
  refine thn ?_
  refine wp_seq ?_
  refine wp_block ?_
  refine sqH ?_; intro bv au
  obtain ⟨bw, av⟩ := bu
  refine ix l (T := tyMessage) (xs := u0) hs3 i bw (k := .i64) (e := 56) (bytes := 72) (nog rfl _) rfl (by kernel_rfl) rfl (by kernel_rfl) (by kernel_rfl) (by kernel_rfl) ?_; intro b9 ca cb a cc bx bz bA aw; clear l
  have ax := av a bx; clear av
  obtain ⟨d, f, rfl, M⟩ := bA
  have z := ax (M.small); clear ax
  refine z2 aw j 15 bz 0 6 (e56Mu a d f) rfl ?_; intro ce ay; clear aw
  refine nw ay j pb [i6 0, .bool false, str [], i6 0, i6 0, .slice none 0 0] 56 ?_; intro A bB cf N az; clear ay j
  refine sx N az 0 (e56Mu a d f) 0 ?_; intro bC aA; clear az
  have aB : Mem w.heap.size [] w Z [.row A (e56Mu a d f) 56, .row c (e53Mu u1 ao4 cap5) 53] Z bC := aA; clear aA
  refine nlH (au _ _ ?_); clear au bv
  have O : Fr 60 [] [⟨0, [], .slice ao1 u0.length cap2⟩, ⟨3, [], pt c 0⟩, ⟨6, [], pt A 0⟩, ⟨10, [], .slice ao1 u0.length cap2⟩, ⟨11, [], i6 (u0.length : Int)⟩, ⟨12, [], i6 i⟩] bB := N.region (by kernel_rfl) (by kernel_rfl); clear N
  refine sqQH mixed (by kernel_rfl) aB ?_; intro bD aC
  refine qst O (.agg (e56Mu a d f).toArray) (nog rfl _) rfl (by kernel_rfl) (fun v72 hC => lda O hC 0 (g := []) (b := A) (off := 0) (k := 6) (cs := (e56Mu a d f)) (vs := (e56Mu a d f)) (ty := 56) rfl (by kernel_rfl) (by kernel_rfl) (by kernel_rfl) (by kernel_rfl) (by kernel_rfl) rfl) ?_; intro cg aD; clear O
  refine qcl aD (i6 (mcheckS a)) 26 #[.agg (e56Mu a d f).toArray] (nog rfl _) rfl (by kernel_rfl) (fun _ => by kernel_rfl) (qfc fun w hC => mcheck_fun a d f _ _ M hC.fz) ?_; intro ch P; clear aD
  refine qst P (.agg (e56Mu a d f).toArray) (nog rfl _) rfl (by kernel_rfl) (fun v78 hC => lda P hC 0 (g := []) (b := A) (off := 0) (k := 6) (cs := (e56Mu a d f)) (vs := (e56Mu a d f)) (ty := 56) rfl (by kernel_rfl) (by kernel_rfl) (by kernel_rfl) (by kernel_rfl) (by kernel_rfl) rfl) ?_; intro ci aE; clear P
  refine qcl aE (i6 (mcheckS a)) 27 #[.agg (e56Mu a d f).toArray] (nog rfl _) rfl (by kernel_rfl) (fun _ => by kernel_rfl) (qfc fun w hC => rcheckm_fun a d f _ _ M hC.fz) ?_; intro ck aF; clear aE
  refine q1 aF 20 (.bool ((mcheckS a) != (mcheckS a))) ?_; intro cl n; clear aF
  refine qnl (aC _ ?_); clear aC bD; intro cm B; clear aB
  refine cd n (t := (mcheckS a) != (mcheckS a)) (by kernel_rfl) (fun Q => ?_) (fun Q => ?_)
  · -- yes
   have bE := z.1 Q; clear z
   refine sqB n B [] [] [(4, .bool false)] ?_; intro cn bF; clear n
   refine wp_ret ?_
   refine ibr ?_
   refine thr ?_
   refine thr ?_
   refine ibr ?_
   refine thr ?_
   refine ra1 bF (.bool false) ?_
   exact ⟨false, rfl, bE, B.below⟩
  · -- no
   have aG := z.2 Q; clear z
   refine wp_skip ?_
   refine ibn ?_
   refine thn ?_
   refine rgB n B [] [] [(12, i6 (w64 (i + 1)))] ?_; intro co bG; clear n
   refine rd ?_
   exact ⟨w64 (i + 1), aG.1, aG.2, (bG.region (by kernel_rfl) (by kernel_rfl)).anyβ _ (by kernel_rfl), B.keep (List.Sublist.cons _ (List.Sublist.cons_cons _ (List.Sublist.slnil)))⟩
 · -- no
  have C := y.2 L; clear y
  refine wp_exit ?_
  refine thx ?_
  refine thx ?_
  refine ibx ?_
  refine thn ?_
  refine sqH ?_; intro bH aH
  refine bt l j 2 [0] [] [(23, .slice ao1 u0.length cap2), (24, .agg (e53Mu u1 ao4 cap5).toArray)] ?_; intro cp aI; clear l
  refine fc aI j (mfind_fun u0 u1 ao1 cap2 ao4 cap5 _ _ hs3 hs6 j.fz) ?_; intro cq cr aJ D; clear aI j
  refine bt aJ D 5 [] [] [(7, i6 (mfindS u0 u1).1), (8, i6 (mfindS u0 u1).2)] ?_; intro ct aK; clear aJ
  refine nlH (aH _ _ ?_); clear aH bH
  refine sqH ?_; intro bI aL
  refine s1 aK 28 (.slice ao1 u0.length cap2) ?_; intro cu aM; clear aK
  refine fc aM D (rcheckl_fun u0 ao1 cap2 _ _ hs3 D.fz) ?_; intro cv cw aN R; clear aM D
  refine s1 aN 9 (i6 (mchallS u0)) ?_; intro cx aO; clear aN
  refine nlH (aL _ _ ?_); clear aL bI
  refine wp_seq ?_
  refine sqH ?_; intro bJ aP
  refine fc aO R (meant_fun  _ _ R.fz) ?_; intro cy cz aQ E; clear aO R
  refine bt aQ E 3 [] [33] [(32, .bool false), (33, .slice ao1 u0.length cap2)] ?_; intro cA S; clear aQ
  refine fcl S E (i6 (mchallS u0)) 31 #[.slice ao1 u0.length cap2] (by rw [wanted_of S (b := false) rfl rfl (by kernel_rfl) (by kernel_rfl)]; rfl) rfl (by kernel_rfl) (fun _ => by kernel_rfl) (mchall_fun u0 ao1 cap2 _ _ hs3 E.fz) ?_; intro cB bK aR h; clear S E
  refine bt aR h 3 [] [35, 36, 37] [(37, .bool ((mchallS u0) != (mchallS u0)))] ?_; intro cC o; clear aR
  refine nlH (aP _ _ ?_); clear aP bJ
  refine cd o (t := (mchallS u0) != (mchallS u0)) (by kernel_rfl) (fun U => ?_) (fun U => ?_)
  · -- yes
   have bL := C.1 U; clear C
   refine sqB o h [] [] [(4, .bool false)] ?_; intro cD bM; clear o
   refine wp_ret ?_
   refine thr ?_
   refine ra1 bM (.bool false) ?_
   exact ⟨false, rfl, bL, h.below⟩
  · -- no
   have F := C.2 U; clear C
   refine wp_skip ?_
   refine thn ?_
   refine wp_seq ?_
   refine sqB o h [] [] [(39, .bool ((mchallS u0) == 0))] ?_; intro cE p; clear o
   refine cd p (t := (mchallS u0) == 0) (by kernel_rfl) (fun V => ?_) (fun V => ?_)
   · -- yes
    have G := F.1 V; clear F
    refine rgH ?_; intro bN aS
    refine l2 p h 40 0 0 6 (e53Mu u1 ao4 cap5) rfl rfl ?_; intro cF aT; clear p
    refine fc aT h (rcheckfr_fun u1 ao4 cap5 _ _ hs6 h.fz) ?_; intro cG bO aU H; clear aT h
    refine s1 aU 9 (i6 (fcheckfr u1)) ?_; intro cH aV; clear aU
    refine nlH (aS _ _ ?_); clear aS bN
    refine thn ?_
    refine wp_seq ?_
    refine sqB aV H [] [] [(43, .bool ((fcheckfr u1) != 0))] ?_; intro cI q; clear aV
    refine cd q (t := (fcheckfr u1) != 0) (by kernel_rfl) (fun W => ?_) (fun W => ?_)
    · -- yes
     have bP := G.1 W; clear G
     refine sqB q H [] [] [(4, .bool (((mfindS u0 u1).2 == (fcheckfr u1)) && ((mfindS u0 u1).1 == 0)))] ?_; intro cJ bQ; clear q
     refine wp_ret ?_
     refine thr ?_
     refine ra1 bQ (.bool (((mfindS u0 u1).2 == (fcheckfr u1)) && ((mfindS u0 u1).1 == 0))) ?_
     exact ⟨((mfindS u0 u1).2 == (fcheckfr u1)) && ((mfindS u0 u1).1 == 0), rfl, bP, H.below⟩
    · -- no
     have bR := G.2 W; clear G
     refine wp_skip ?_
     refine thn ?_
     refine sqH ?_; intro bS aW
     refine s1 q 51 (i6 (mfindS u0 u1).2) ?_; intro cK aX; clear q
     refine s1 aX 52 (.bool ((mfindS u0 u1).2 == 0)) ?_; intro cL aY; clear aX
     refine s1 aY 53 (.bool ((mfindS u0 u1).2 == 0)) ?_; intro cM aZ; clear aY
     have a1 := aZ.atom (((mfindS u0 u1).2 == 0) == true) (by kernel_rfl); clear aZ
     refine gp a1 54 0 [] ((mfindS u0 u1).2 == 0) (i6 (mfindS u0 u1).1) rfl rfl ?_; intro cN a2; clear a1
     refine gp a2 55 0 [] ((mfindS u0 u1).2 == 0) (.slice ao1 u0.length cap2) rfl rfl ?_; intro cO a3; clear a2
     refine gp a3 56 0 [] ((mfindS u0 u1).2 == 0) (.func (.func 34) #[] #[pt c 0]) rfl rfl ?_; intro cP a4; clear a3
     obtain ⟨bT, X, a5, bU⟩ := H.freezeRow 0 rfl
     replace hs3 := hs3.mono X
     replace hs6 := hs6.mono X
     replace x := Fz.le.trans x X
     have Y : Mem w.heap.size [] w Z [] bT bO := a5; clear a5
     refine gcl a4 Y (i6 (midxfS u0 (fun x0 => LCheck1 x0 u1))) 33 #[.slice ao1 u0.length cap2, .func (.func 34) #[] #[pt c 0]] (m := 0) (cj := []) (bj := (mfindS u0 u1).2 == 0) rfl rfl (by kernel_rfl) rfl (by kernel_rfl) (by kernel_rfl) (by kernel_rfl) (fun _ => by kernel_rfl) (fun hg => midxf_fun u0 (fun x0 => LCheck1 x0 u1) ao1 cap2 34 #[pt c 0] _ _ hs3 (fun Z1 w1 h1 h2 x0 m0 n0 s0 => LCheck1_fun x0 u1 m0 n0 c 0 ao4 cap5 Z1 w1 s0 (bU.mono h1) (SlR.mono hs6 h1) h2) (fun _ _ => by kernel_rfl) Y.fz) ?_; intro cQ cR a6 bV; clear a4 Y
     refine gp a6 58 0 [] ((mfindS u0 u1).2 == 0) (.bool ((mfindS u0 u1).1 == (midxfS u0 (fun x0 => LCheck1 x0 u1)))) rfl rfl ?_; intro cS aa; clear a6
     refine st aa (.bool (((mfindS u0 u1).2 == 0) && ((mfindS u0 u1).1 == (midxfS u0 (fun x0 => LCheck1 x0 u1))))) (nog rfl _) rfl (by kernel_rfl) (pk_and aa (g := []) (m := 0) (b := (mfindS u0 u1).2 == 0) (v := (mfindS u0 u1).1 == (midxfS u0 (fun x0 => LCheck1 x0 u1))) rfl (by kernel_rfl) (by kernel_rfl) (by kernel_rfl) rfl) ?_; intro cT a7; clear aa
     refine s1 a7 4 (.bool (((mfindS u0 u1).2 == 0) && ((mfindS u0 u1).1 == (midxfS u0 (fun x0 => LCheck1 x0 u1))))) ?_; intro cU bW; clear a7
     refine nlH (aW _ _ ?_); clear aW bS
     refine wp_ret ?_
     refine ra1 bW (.bool (((mfindS u0 u1).2 == 0) && ((mfindS u0 u1).1 == (midxfS u0 (fun x0 => LCheck1 x0 u1))))) ?_
     exact ⟨((mfindS u0 u1).2 == 0) && ((mfindS u0 u1).1 == (midxfS u0 (fun x0 => LCheck1 x0 u1))), rfl, bR, bV.below⟩
   · -- no
    have I := F.2 V; clear F
    refine wp_skip ?_
    refine thn ?_
    refine wp_seq ?_
    refine sqB p h [] [] [(43, .bool ((mchallS u0) != 0))] ?_; intro cV u; clear p
    refine cd u (t := (mchallS u0) != 0) (by kernel_rfl) (fun ab => ?_) (fun ab => ?_)
    · -- yes
     have bX := I.1 ab; clear I
     refine sqB u h [] [] [(4, .bool (((mfindS u0 u1).2 == (mchallS u0)) && ((mfindS u0 u1).1 == 0)))] ?_; intro cW bY; clear u
     refine wp_ret ?_
     refine thr ?_
     refine ra1 bY (.bool (((mfindS u0 u1).2 == (mchallS u0)) && ((mfindS u0 u1).1 == 0))) ?_
     exact ⟨((mfindS u0 u1).2 == (mchallS u0)) && ((mfindS u0 u1).1 == 0), rfl, bX, h.below⟩
    · -- no
     have bZ := I.2 ab; clear I
     refine wp_skip ?_
     refine thn ?_
     refine sqH ?_; intro b0 a8
     refine s1 u 51 (i6 (mfindS u0 u1).2) ?_; intro cX a9; clear u
     refine s1 a9 52 (.bool ((mfindS u0 u1).2 == 0)) ?_; intro cY ba; clear a9
     refine s1 ba 53 (.bool ((mfindS u0 u1).2 == 0)) ?_; intro cZ bb; clear ba
     have bc := bb.atom (((mfindS u0 u1).2 == 0) == true) (by kernel_rfl); clear bb
     refine gp bc 54 0 [] ((mfindS u0 u1).2 == 0) (i6 (mfindS u0 u1).1) rfl rfl ?_; intro c0 bd; clear bc
     refine gp bd 55 0 [] ((mfindS u0 u1).2 == 0) (.slice ao1 u0.length cap2) rfl rfl ?_; intro c1 be; clear bd
     refine gp be 56 0 [] ((mfindS u0 u1).2 == 0) (.func (.func 34) #[] #[pt c 0]) rfl rfl ?_; intro c2 bf; clear be
     obtain ⟨b1, ac, bg, b2⟩ := h.freezeRow 0 rfl
     replace hs3 := hs3.mono ac
     replace hs6 := hs6.mono ac
     replace x := Fz.le.trans x ac
     have ad : Mem w.heap.size [] w Z [] b1 bK := bg; clear bg
     refine gcl bf ad (i6 (midxfS u0 (fun x0 => LCheck1 x0 u1))) 33 #[.slice ao1 u0.length cap2, .func (.func 34) #[] #[pt c 0]] (m := 0) (cj := []) (bj := (mfindS u0 u1).2 == 0) rfl rfl (by kernel_rfl) rfl (by kernel_rfl) (by kernel_rfl) (by kernel_rfl) (fun _ => by kernel_rfl) (fun hg => midxf_fun u0 (fun x0 => LCheck1 x0 u1) ao1 cap2 34 #[pt c 0] _ _ hs3 (fun Z1 w1 h1 h2 x0 m0 n0 s0 => LCheck1_fun x0 u1 m0 n0 c 0 ao4 cap5 Z1 w1 s0 (b2.mono h1) (SlR.mono hs6 h1) h2) (fun _ _ => by kernel_rfl) ad.fz) ?_; intro c3 c4 bh b3; clear bf ad
     refine gp bh 58 0 [] ((mfindS u0 u1).2 == 0) (.bool ((mfindS u0 u1).1 == (midxfS u0 (fun x0 => LCheck1 x0 u1)))) rfl rfl ?_; intro c5 ae; clear bh
     refine st ae (.bool (((mfindS u0 u1).2 == 0) && ((mfindS u0 u1).1 == (midxfS u0 (fun x0 => LCheck1 x0 u1))))) (nog rfl _) rfl (by kernel_rfl) (pk_and ae (g := []) (m := 0) (b := (mfindS u0 u1).2 == 0) (v := (mfindS u0 u1).1 == (midxfS u0 (fun x0 => LCheck1 x0 u1))) rfl (by kernel_rfl) (by kernel_rfl) (by kernel_rfl) rfl) ?_; intro c6 bi; clear ae
     refine s1 bi 4 (.bool (((mfindS u0 u1).2 == 0) && ((mfindS u0 u1).1 == (midxfS u0 (fun x0 => LCheck1 x0 u1))))) ?_; intro c7 b4; clear bi
     refine nlH (a8 _ _ ?_); clear a8 b0
     refine wp_ret ?_
     refine ra1 b4 (.bool (((mfindS u0 u1).2 == 0) && ((mfindS u0 u1).1 == (midxfS u0 (fun x0 => LCheck1 x0 u1))))) ?_
     exact ⟨((mfindS u0 u1).2 == 0) && ((mfindS u0 u1).1 == (midxfS u0 (fun x0 => LCheck1 x0 u1))), rfl, bZ, b3.below⟩

end Go.Proofs.YtdndfbamhnchfaaDoor
