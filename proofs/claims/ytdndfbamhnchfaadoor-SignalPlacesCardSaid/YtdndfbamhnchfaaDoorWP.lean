/- The walks, made by program: each call does what its pure predicate says. -/
import Derived.Test.YtdndfbamhnchfaaDoorPP
import Derived.Test.YtdndfbamhnchfaaDoorWG
import Derived.Shelf.Lay
import Derived.Ground.NamesProg
import Derived.Shelf.Strings.SlTrimAscii
namespace Go.Proofs
open Go.Shelf
def Tryd.lays160_ren : Go.Shelf.Ren := ⟨fun | 160 => 60 | 232 => 92 | 231 => 91 | 227 => 93 | 234 => 95 | 233 => 94 | 236 => 97 | 235 => 96 | 228 => 112 | 271 => 115 | 151 => 114 | 197 => 113 | 120 => 131 | 152 => 130 | 260 => 129 | 137 => 140 | 119 => 141 | 224 => 142 | 225 => 143 | 217 => 145 | 266 => 146 | n => n, fun | 9 => 9 | 4 => 4 | 3 => 3 | 5 => 5 | 117 => 115 | 116 => 114 | 0 => 0 | 124 => 118 | 21 => 21 | 105 => 133 | 46 => 84 | 119 => 159 | 139 => 162 | 138 => 161 | n => n, fun | 3 => 0 | 4 => 1 | n => n⟩
theorem Tryd.lays160 : Go.Proofs.Lays.n160 Tryd.prog Tryd.lays160_ren := {
  mixed := by kernel_rfl
  f119 := Tryd.func141.trans (congrArg some (by kernel_rfl))
  f120 := Tryd.func131.trans (congrArg some (by kernel_rfl))
  f137 := Tryd.func140.trans (congrArg some (by kernel_rfl))
  f151 := Tryd.func114.trans (congrArg some (by kernel_rfl))
  f152 := Tryd.func130.trans (congrArg some (by kernel_rfl))
  f160 := Tryd.func60.trans (congrArg some (by kernel_rfl))
  f197 := Tryd.func113.trans (congrArg some (by kernel_rfl))
  f217 := Tryd.func145.trans (congrArg some (by kernel_rfl))
  f224 := Tryd.func142.trans (congrArg some (by kernel_rfl))
  f225 := Tryd.func143.trans (congrArg some (by kernel_rfl))
  f227 := Tryd.func93.trans (congrArg some (by kernel_rfl))
  f228 := Tryd.func112.trans (congrArg some (by kernel_rfl))
  f231 := Tryd.func91.trans (congrArg some (by kernel_rfl))
  f232 := Tryd.func92.trans (congrArg some (by kernel_rfl))
  f233 := Tryd.func94.trans (congrArg some (by kernel_rfl))
  f234 := Tryd.func95.trans (congrArg some (by kernel_rfl))
  f235 := Tryd.func96.trans (congrArg some (by kernel_rfl))
  f236 := Tryd.func97.trans (congrArg some (by kernel_rfl))
  f260 := Tryd.func129.trans (congrArg some (by kernel_rfl))
  f266 := Tryd.func146.trans (congrArg some (by kernel_rfl))
  f271 := Tryd.func115.trans (congrArg some (by kernel_rfl))
  t0 := Tryd.underlying0
  a0 := Tryd.isAgg0
  z0 := Tryd.sizeOf0
  v0 := Tryd.zeroValue0
  t3 := Tryd.underlying3
  a3 := Tryd.isAgg3
  z3 := Tryd.sizeOf3
  v3 := Tryd.zeroValue3
  t4 := Tryd.underlying4
  a4 := Tryd.isAgg4
  z4 := Tryd.sizeOf4
  v4 := Tryd.zeroValue4
  t5 := Tryd.underlying5
  a5 := Tryd.isAgg5
  z5 := Tryd.sizeOf5
  v5 := Tryd.zeroValue5
  t9 := Tryd.underlying9
  a9 := Tryd.isAgg9
  z9 := Tryd.sizeOf9
  v9 := Tryd.zeroValue9
  t21 := Tryd.underlying21
  a21 := Tryd.isAgg21
  z21 := Tryd.sizeOf21
  v21 := Tryd.zeroValue21
  t46 := Tryd.underlying84
  a46 := Tryd.isAgg84
  z46 := Tryd.sizeOf84
  v46 := Tryd.zeroValue84
  t105 := Tryd.underlying133
  a105 := Tryd.isAgg133
  z105 := Tryd.sizeOf133
  v105 := Tryd.zeroValue133
  t116 := Tryd.underlying114
  a116 := Tryd.isAgg114
  z116 := Tryd.sizeOf114
  t117 := Tryd.underlying115
  a117 := Tryd.isAgg115
  z117 := Tryd.sizeOf115
  v117 := Tryd.zeroValue115
  t119 := Tryd.underlying159
  a119 := Tryd.isAgg159
  z119 := Tryd.sizeOf159
  t124 := Tryd.underlying118
  a124 := Tryd.isAgg118
  z124 := Tryd.sizeOf118
  v124 := Tryd.zeroValue118
  t138 := Tryd.underlying161
  a138 := Tryd.isAgg161
  z138 := Tryd.sizeOf161
  v138 := Tryd.zeroValue161
  t139 := Tryd.underlying162
  a139 := Tryd.isAgg162
  z139 := Tryd.sizeOf162
  v139 := Tryd.zeroValue162
  g3 := by kernel_rfl
  g4 := by kernel_rfl }
end Go.Proofs
set_option linter.unusedVariables false
set_option linter.unusedSimpArgs false
namespace Go.Proofs.YtdndfbamhnchfaaDoor
open Go.Sy Go.RowKit
set_option maxRecDepth 100000 in
set_option maxHeartbeats 0 in
theorem sindex_walk (u0 : List Int) (u1 : Int) (ao1 : Option Addr) (cap2 : Nat) (Z : Fz) (w : World) (hs3 : SlR (tyInt .i64) Z ao1 cap2 u0) (hZ : Z.on w) {K : Int → Prop} (hp : sindex_vc u0 u1 K) : Calls Tryd.prog 102 #[.slice ao1 u0.length cap2, .int .i64 u1] w fun e w' => ∃ r : Int, e = .returned (.int .i64 r) ∧ K r ∧ Below w.heap.size w w' := by
 refine enter0 Tryd.func102 rfl rfl (by kernel_rfl) ?_; intro a0 hF0; have hM0 := Mem.start w Z hZ; have hle0 := Fz.le.refl Z
 have hp4 := hp (hs3.small); clear hp
 refine sqH ?_; intro hQ5Q hQ5
 refine s1 hF0 4 (.int .i64 0) ?_; intro a6 hF7; clear hF0
 refine nlH (hQ5 _ _ ?_); clear hQ5 hQ5Q
 refine wp_seq ?_
 refine sqH ?_; intro hQ8Q hQ8
 refine s1 hF7 6 (.slice ao1 u0.length cap2) ?_; intro a9 hF10; clear hF7
 refine s1 hF10 7 (.int .i64 (u0.length : Int)) ?_; intro a11 hF12; clear hF10
 refine s1 hF12 8 (.int .i64 0) ?_; intro a13 hF14; clear hF12
 refine nlH (hQ8 _ _ ?_); clear hQ8 hQ8Q
 refine wp_block ?_
 have hF15 : Fr 19 [] [⟨0, [], .slice ao1 u0.length cap2⟩, ⟨1, [], .int .i64 u1⟩, ⟨7, [], .int .i64 (u0.length : Int)⟩, ⟨8, [], .int .i64 0⟩] a13 := hF14.region (by kernel_rfl) (by kernel_rfl); clear hF14
 have hF17 : Fr 19 [] [⟨0, [], .slice ao1 u0.length cap2⟩, ⟨1, [], .int .i64 u1⟩, ⟨7, [], .int .i64 (u0.length : Int)⟩, ⟨8, [], .int .i64 0⟩] a13 := hF15.region (by kernel_rfl) (by kernel_rfl); clear hF15
 obtain ⟨inv16, mu16, hI20, hr19⟩ := hp4
 refine lp (ι := Int) (fun (s : Int) => [⟨0, [], .slice ao1 u0.length cap2⟩, ⟨1, [], .int .i64 u1⟩, ⟨7, [], .int .i64 (u0.length : Int)⟩, ⟨8, [], .int .i64 s⟩]) (fun (s : Int) => []) (fun (s : Int) => Z) (fun (s : Int) => inv16 s) (fun (s : Int) => mu16 s) 0 hI20 (by exact hF17.region (by kernel_rfl) (by kernel_rfl)) (by exact hM0) ?_
 rintro x8 hI18 a22 wd23 hF24 hM25
 have hF26 : Fr 19 [] [⟨0, [], .slice ao1 u0.length cap2⟩, ⟨1, [], .int .i64 u1⟩, ⟨7, [], .int .i64 (u0.length : Int)⟩, ⟨8, [], .int .i64 x8⟩] a22 := hF24; clear hF24 hF17
 have hM27 : Mem w.heap.size [] w Z [] Z wd23 := hM25; clear hM25 hM0
 have hp28 := hr19 x8 hI18
 refine sqH ?_; intro hQ29Q hQ29
 refine s1 hF26 9 (.bool (decide (x8 < (u0.length : Int)))) ?_; intro a30 hF31; clear hF26
 refine nlH (hQ29 _ _ ?_); clear hQ29 hQ29Q
 refine wp_seq ?_
 refine cd hF31 (t := decide (x8 < (u0.length : Int))) (by kernel_rfl) (fun hb32 => ?_) (fun hb32 => ?_)
 · -- yes
  have hp33 := hp28.1 hb32; clear hp28
  refine wp_skip ?_
  refine thn ?_
  refine wp_seq ?_
  refine wp_block ?_
  refine sqH ?_; intro hQ34Q hQ34
  refine s1 hF31 10 (.int .i64 x8) ?_; intro a35 hF36; clear hF31
  refine s1 hF36 5 (.int .i64 x8) ?_; intro a37 hF38; clear hF36
  refine nlH (hQ34 _ _ ?_); clear hQ34 hQ34Q
  refine sqH ?_; intro hQ39Q hQ39
  refine s1 hF38 11 (.int .i64 u1) ?_; intro a40 hF41; clear hF38
  refine s1 hF41 12 (.slice ao1 u0.length cap2) ?_; intro a42 hF43; clear hF41
  refine s1 hF43 13 (.int .i64 x8) ?_; intro a44 hF45; clear hF43
  have hc46 := hp33.1; have hp47 := hp33.2; clear hp33
  refine ix hF45 (T := (tyInt .i64)) (xs := u0) hs3 x8 hc46 (k := .i64) (e := 3) (bytes := 8) (nog rfl _) rfl (by kernel_rfl) rfl (by kernel_rfl) (by kernel_rfl) (by kernel_rfl) ?_; intro b48 off49 cs50 q51 a55 hq52 hP53 hT54 hF56; clear hF45
  have hp57 := hp47 q51 hq52; clear hp47
  obtain rfl : cs50 = ([.int .i64 q51] : List Value) := hT54
  refine z1 hF56 hM27 15 hP53 0 (.int .i64 q51) rfl ?_; intro a58 hF59; clear hF56
  refine s1 hF59 16 (.bool (u1 == q51)) ?_; intro a60 hF61; clear hF59
  refine nlH (hQ39 _ _ ?_); clear hQ39 hQ39Q
  refine cd hF61 (t := u1 == q51) (by kernel_rfl) (fun hb62 => ?_) (fun hb62 => ?_)
  · -- yes
   have hp63 := hp57.1 hb62; clear hp57
   refine sqH ?_; intro hQ64Q hQ64
   refine s1 hF61 17 (.int .i64 x8) ?_; intro a65 hF66; clear hF61
   refine s1 hF66 4 (.int .i64 x8) ?_; intro a67 hF68; clear hF66
   refine nlH (hQ64 _ _ ?_); clear hQ64 hQ64Q
   refine wp_ret ?_
   refine ibr ?_
   refine thr ?_
   refine thr ?_
   refine ibr ?_
   refine thr ?_
   refine rt (fn := Tryd.f102) (v := .int .i64 x8) hF68 (re1 hF68 (fn := Tryd.f102) rfl (by kernel_rfl)) ?_
   exact ⟨x8, rfl, hp63, hM27.below⟩
  · -- no
   have hp69 := hp57.2 hb62; clear hp57
   refine wp_skip ?_
   refine ibn ?_
   refine thn ?_
   refine rgH ?_; intro hQ70Q hQ70
   refine s1 hF61 18 (.int .i64 (w64 (x8 + 1))) ?_; intro a71 hF72; clear hF61
   refine s1 hF72 8 (.int .i64 (w64 (x8 + 1))) ?_; intro a73 hF74; clear hF72
   refine nlH (hQ70 _ _ ?_); clear hQ70 hQ70Q
   refine rd ?_
   exact ⟨w64 (x8 + 1), hp69.1, hp69.2, (hF74.region (by kernel_rfl) (by kernel_rfl)).anyβ _ (by kernel_rfl), hM27.keep (List.Sublist.slnil)⟩
 · -- no
  have hp75 := hp28.2 hb32; clear hp28
  refine wp_exit ?_
  refine thx ?_
  refine thx ?_
  refine ibx ?_
  refine thn ?_
  refine sqH ?_; intro hQ76Q hQ76
  refine s1 hF31 4 (.int .i64 (-1)) ?_; intro a77 hF78; clear hF31
  refine nlH (hQ76 _ _ ?_); clear hQ76 hQ76Q
  refine wp_ret ?_
  refine rt (fn := Tryd.f102) (v := .int .i64 (-1)) hF78 (re1 hF78 (fn := Tryd.f102) rfl (by kernel_rfl)) ?_
  exact ⟨-1, rfl, hp75, hM27.below⟩

set_option maxRecDepth 100000 in
set_option maxHeartbeats 0 in
theorem scontains_walk (u0 : List Int) (u1 : Int) (ao1 : Option Addr) (cap2 : Nat) (Z : Fz) (w : World) (hs3 : SlR (tyInt .i64) Z ao1 cap2 u0) (hZ : Z.on w) {K : Bool → Prop} (hp : scontains_vc u0 u1 K) : Calls Tryd.prog 65 #[.slice ao1 u0.length cap2, .int .i64 u1] w fun e w' => ∃ r : Bool, e = .returned (.bool r) ∧ K r ∧ Below w.heap.size w w' := by
 refine enter0 Tryd.func65 rfl rfl (by kernel_rfl) ?_; intro a0 hF0; have hM0 := Mem.start w Z hZ; have hle0 := Fz.le.refl Z
 have hp4 := hp (hs3.small); clear hp
 refine sqH ?_; intro hQ5Q hQ5
 refine s1 hF0 4 (.bool false) ?_; intro a6 hF7; clear hF0
 refine nlH (hQ5 _ _ ?_); clear hQ5 hQ5Q
 refine sqH ?_; intro hQ8Q hQ8
 refine s1 hF7 5 (.slice ao1 u0.length cap2) ?_; intro a9 hF10; clear hF7
 refine s1 hF10 6 (.int .i64 u1) ?_; intro a11 hF12; clear hF10
 refine cl hF12 102 #[.slice ao1 u0.length cap2, .int .i64 u1] (nog rfl _) rfl (by kernel_rfl) (by kernel_rfl) ?_
 refine (sindex_walk u0 u1 ao1 cap2 _ _ hs3 hM0.fz hp4).mono ?_; rintro _ wd14 ⟨r13, rfl, hp18, hb⟩; refine ⟨_, rfl, ?_⟩; intro a15 hF16; have hM17 := hM0.call hb; clear hb hM0 hF12
 refine s1 hF16 8 (.bool (decide (r13 ≥ 0))) ?_; intro a19 hF20; clear hF16
 refine s1 hF20 4 (.bool (decide (r13 ≥ 0))) ?_; intro a21 hF22; clear hF20
 refine nlH (hQ8 _ _ ?_); clear hQ8 hQ8Q
 refine wp_ret ?_
 refine rt (fn := Tryd.f65) (v := .bool (decide (r13 ≥ 0))) hF22 (re1 hF22 (fn := Tryd.f65) rfl (by kernel_rfl)) ?_
 exact ⟨decide (r13 ≥ 0), rfl, hp18, hM17.below⟩

set_option maxRecDepth 100000 in
set_option maxHeartbeats 0 in
theorem iidxf_walk (u0 : List Int) (u1 : Int → Bool) (ao1 : Option Addr) (cap2 : Nat) (fid4 : Nat) (caps5 : Array Value) (Z : Fz) (w : World) (hs3 : SlR (tyInt .i64) Z ao1 cap2 u0) (hf6 : ∀ (Z1 : Fz) (w1 : World), Z.le Z1 → Z1.on w1 → ∀ (x0 : Int), Calls Tryd.prog fid4 (#[.int .i64 x0] ++ caps5) w1 fun e w2 => e = .returned (.bool (u1 x0)) ∧ Below w1.heap.size w1 w2) (hg7 : ∀ x w, Sem.run Tryd.prog (callFunc fid4 x) w = .ok (.enter fid4 x) w) (hZ : Z.on w) {K : Int → Prop} (hp : iidxf_vc u0 u1 K) : Calls Tryd.prog 101 #[.slice ao1 u0.length cap2, .func (.func fid4) #[] caps5] w fun e w' => ∃ r : Int, e = .returned (.int .i64 r) ∧ K r ∧ Below w.heap.size w w' := by
 refine enter0 Tryd.func101 rfl rfl (by kernel_rfl) ?_; intro a0 hF0; have hM0 := Mem.start w Z hZ; have hle0 := Fz.le.refl Z
 have hp8 := hp (hs3.small); clear hp
 refine sqH ?_; intro hQ9Q hQ9
 refine s1 hF0 4 (.int .i64 0) ?_; intro a10 hF11; clear hF0
 refine nlH (hQ9 _ _ ?_); clear hQ9 hQ9Q
 refine wp_seq ?_
 refine sqH ?_; intro hQ12Q hQ12
 refine s1 hF11 6 (.slice ao1 u0.length cap2) ?_; intro a13 hF14; clear hF11
 refine s1 hF14 7 (.int .i64 (u0.length : Int)) ?_; intro a15 hF16; clear hF14
 refine s1 hF16 8 (.int .i64 0) ?_; intro a17 hF18; clear hF16
 refine nlH (hQ12 _ _ ?_); clear hQ12 hQ12Q
 refine wp_block ?_
 have hF19 : Fr 19 [] [⟨0, [], .slice ao1 u0.length cap2⟩, ⟨1, [], .func (.func fid4) #[] caps5⟩, ⟨7, [], .int .i64 (u0.length : Int)⟩, ⟨8, [], .int .i64 0⟩] a17 := hF18.region (by kernel_rfl) (by kernel_rfl); clear hF18
 have hF21 : Fr 19 [] [⟨0, [], .slice ao1 u0.length cap2⟩, ⟨1, [], .func (.func fid4) #[] caps5⟩, ⟨7, [], .int .i64 (u0.length : Int)⟩, ⟨8, [], .int .i64 0⟩] a17 := hF19.region (by kernel_rfl) (by kernel_rfl); clear hF19
 obtain ⟨inv20, mu20, hI24, hr23⟩ := hp8
 refine lp (ι := Int) (fun (s : Int) => [⟨0, [], .slice ao1 u0.length cap2⟩, ⟨1, [], .func (.func fid4) #[] caps5⟩, ⟨7, [], .int .i64 (u0.length : Int)⟩, ⟨8, [], .int .i64 s⟩]) (fun (s : Int) => []) (fun (s : Int) => Z) (fun (s : Int) => inv20 s) (fun (s : Int) => mu20 s) 0 hI24 (by exact hF21.region (by kernel_rfl) (by kernel_rfl)) (by exact hM0) ?_
 rintro x8 hI22 a26 wd27 hF28 hM29
 have hF30 : Fr 19 [] [⟨0, [], .slice ao1 u0.length cap2⟩, ⟨1, [], .func (.func fid4) #[] caps5⟩, ⟨7, [], .int .i64 (u0.length : Int)⟩, ⟨8, [], .int .i64 x8⟩] a26 := hF28; clear hF28 hF21
 have hM31 : Mem w.heap.size [] w Z [] Z wd27 := hM29; clear hM29 hM0
 have hp32 := hr23 x8 hI22
 refine sqH ?_; intro hQ33Q hQ33
 refine s1 hF30 9 (.bool (decide (x8 < (u0.length : Int)))) ?_; intro a34 hF35; clear hF30
 refine nlH (hQ33 _ _ ?_); clear hQ33 hQ33Q
 refine wp_seq ?_
 refine cd hF35 (t := decide (x8 < (u0.length : Int))) (by kernel_rfl) (fun hb36 => ?_) (fun hb36 => ?_)
 · -- yes
  have hp37 := hp32.1 hb36; clear hp32
  refine wp_skip ?_
  refine thn ?_
  refine wp_seq ?_
  refine wp_block ?_
  refine sqH ?_; intro hQ38Q hQ38
  refine s1 hF35 10 (.int .i64 x8) ?_; intro a39 hF40; clear hF35
  refine s1 hF40 5 (.int .i64 x8) ?_; intro a41 hF42; clear hF40
  refine nlH (hQ38 _ _ ?_); clear hQ38 hQ38Q
  refine sqH ?_; intro hQ43Q hQ43
  refine s1 hF42 11 (.func (.func fid4) #[] caps5) ?_; intro a44 hF45; clear hF42
  refine s1 hF45 12 (.slice ao1 u0.length cap2) ?_; intro a46 hF47; clear hF45
  refine s1 hF47 13 (.int .i64 x8) ?_; intro a48 hF49; clear hF47
  have hc50 := hp37.1; have hp51 := hp37.2; clear hp37
  refine ix hF49 (T := (tyInt .i64)) (xs := u0) hs3 x8 hc50 (k := .i64) (e := 3) (bytes := 8) (nog rfl _) rfl (by kernel_rfl) rfl (by kernel_rfl) (by kernel_rfl) (by kernel_rfl) ?_; intro b52 off53 cs54 q55 a59 hq56 hP57 hT58 hF60; clear hF49
  have hp61 := hp51 q55 hq56; clear hp51
  obtain rfl : cs54 = ([.int .i64 q55] : List Value) := hT58
  refine z1 hF60 hM31 15 hP57 0 (.int .i64 q55) rfl ?_; intro a62 hF63; clear hF60
  have hc68 := hf6 _ _ hle0 hM31.fz q55
  refine fcl hF63 hM31 (.bool (u1 q55)) fid4 (#[.int .i64 q55] ++ caps5) (nog rfl _) rfl (by kernel_rfl) ?h1 ?h2 ?_
  case h1 => exact fv_run rfl (by kernel_rfl) (by kernel_rfl) hg7
  case h2 => exact hc68
  intro a64 wd66 hF65 hM67; clear hF63 hM31
  refine nlH (hQ43 _ _ ?_); clear hQ43 hQ43Q
  refine cd hF65 (t := (u1 q55)) (by kernel_rfl) (fun hb69 => ?_) (fun hb69 => ?_)
  · -- yes
   have hp70 := hp61.1 hb69; clear hp61
   refine sqH ?_; intro hQ71Q hQ71
   refine s1 hF65 17 (.int .i64 x8) ?_; intro a72 hF73; clear hF65
   refine s1 hF73 4 (.int .i64 x8) ?_; intro a74 hF75; clear hF73
   refine nlH (hQ71 _ _ ?_); clear hQ71 hQ71Q
   refine wp_ret ?_
   refine ibr ?_
   refine thr ?_
   refine thr ?_
   refine ibr ?_
   refine thr ?_
   refine rt (fn := Tryd.f101) (v := .int .i64 x8) hF75 (re1 hF75 (fn := Tryd.f101) rfl (by kernel_rfl)) ?_
   exact ⟨x8, rfl, hp70, hM67.below⟩
  · -- no
   have hp76 := hp61.2 hb69; clear hp61
   refine wp_skip ?_
   refine ibn ?_
   refine thn ?_
   refine rgH ?_; intro hQ77Q hQ77
   refine s1 hF65 18 (.int .i64 (w64 (x8 + 1))) ?_; intro a78 hF79; clear hF65
   refine s1 hF79 8 (.int .i64 (w64 (x8 + 1))) ?_; intro a80 hF81; clear hF79
   refine nlH (hQ77 _ _ ?_); clear hQ77 hQ77Q
   refine rd ?_
   exact ⟨w64 (x8 + 1), hp76.1, hp76.2, (hF81.region (by kernel_rfl) (by kernel_rfl)).anyβ _ (by kernel_rfl), hM67.keep (List.Sublist.slnil)⟩
 · -- no
  have hp82 := hp32.2 hb36; clear hp32
  refine wp_exit ?_
  refine thx ?_
  refine thx ?_
  refine ibx ?_
  refine thn ?_
  refine sqH ?_; intro hQ83Q hQ83
  refine s1 hF35 4 (.int .i64 (-1)) ?_; intro a84 hF85; clear hF35
  refine nlH (hQ83 _ _ ?_); clear hQ83 hQ83Q
  refine wp_ret ?_
  refine rt (fn := Tryd.f101) (v := .int .i64 (-1)) hF85 (re1 hF85 (fn := Tryd.f101) rfl (by kernel_rfl)) ?_
  exact ⟨-1, rfl, hp82, hM31.below⟩

set_option maxRecDepth 100000 in
set_option maxHeartbeats 0 in
theorem icontf_walk (u0 : List Int) (u1 : Int → Bool) (ao1 : Option Addr) (cap2 : Nat) (fid4 : Nat) (caps5 : Array Value) (Z : Fz) (w : World) (hs3 : SlR (tyInt .i64) Z ao1 cap2 u0) (hf6 : ∀ (Z1 : Fz) (w1 : World), Z.le Z1 → Z1.on w1 → ∀ (x0 : Int), Calls Tryd.prog fid4 (#[.int .i64 x0] ++ caps5) w1 fun e w2 => e = .returned (.bool (u1 x0)) ∧ Below w1.heap.size w1 w2) (hg7 : ∀ x w, Sem.run Tryd.prog (callFunc fid4 x) w = .ok (.enter fid4 x) w) (hZ : Z.on w) {K : Bool → Prop} (hp : icontf_vc u0 u1 K) : Calls Tryd.prog 63 #[.slice ao1 u0.length cap2, .func (.func fid4) #[] caps5] w fun e w' => ∃ r : Bool, e = .returned (.bool r) ∧ K r ∧ Below w.heap.size w w' := by
 refine enter0 Tryd.func63 rfl rfl (by kernel_rfl) ?_; intro a0 hF0; have hM0 := Mem.start w Z hZ; have hle0 := Fz.le.refl Z
 have hp8 := hp (hs3.small); clear hp
 refine sqH ?_; intro hQ9Q hQ9
 refine s1 hF0 4 (.bool false) ?_; intro a10 hF11; clear hF0
 refine nlH (hQ9 _ _ ?_); clear hQ9 hQ9Q
 refine sqH ?_; intro hQ12Q hQ12
 refine s1 hF11 5 (.slice ao1 u0.length cap2) ?_; intro a13 hF14; clear hF11
 refine s1 hF14 6 (.func (.func fid4) #[] caps5) ?_; intro a15 hF16; clear hF14
 refine cl hF16 101 #[.slice ao1 u0.length cap2, .func (.func fid4) #[] caps5] (nog rfl _) rfl (by kernel_rfl) (by kernel_rfl) ?_
 refine (iidxf_walk u0 u1 ao1 cap2 fid4 caps5 _ _ hs3 (fun Z1 w1 h1 h2 => hf6 Z1 w1 (hle0.trans h1) h2) hg7 hM0.fz hp8).mono ?_; rintro _ wd18 ⟨r17, rfl, hp22, hb⟩; refine ⟨_, rfl, ?_⟩; intro a19 hF20; have hM21 := hM0.call hb; clear hb hM0 hF16
 refine s1 hF20 8 (.bool (decide (r17 ≥ 0))) ?_; intro a23 hF24; clear hF20
 refine s1 hF24 4 (.bool (decide (r17 ≥ 0))) ?_; intro a25 hF26; clear hF24
 refine nlH (hQ12 _ _ ?_); clear hQ12 hQ12Q
 refine wp_ret ?_
 refine rt (fn := Tryd.f63) (v := .bool (decide (r17 ≥ 0))) hF26 (re1 hF26 (fn := Tryd.f63) rfl (by kernel_rfl)) ?_
 exact ⟨decide (r17 ≥ 0), rfl, hp22, hM21.below⟩

set_option maxRecDepth 100000 in
set_option maxHeartbeats 0 in
theorem rplaces_walk (u0 : Signal)  (Z : Fz) (w : World)  (hZ : Z.on w) {K : (List Int) → Prop} (hp : rplaces_vc u0 K) : Calls Tryd.prog 25 #[.agg #[str u0.Name, .int .i64 u0.Start, .int .i64 u0.Size, .bool u0.Back, .bool u0.Signed, .int .i64 u0.Mul, .int .i64 u0.Div, .int .i64 u0.Add, .int .i64 u0.Key]] w fun e w' => ∃ (r : (List Int)) (ao1001 : Option Addr) (cap1002 : Nat) (Z' : Fz), e = .returned (.slice ao1001 r.length cap1002) ∧ K r ∧ Mem w.heap.size [] w Z [.own (tyInt .i64) 3 ao1001 cap1002 r] Z' w' := by
 refine enter0 Tryd.func25 rfl rfl (by kernel_rfl) ?_; intro a0 hF0; have hM0 := Mem.start w Z hZ; have hle0 := Fz.le.refl Z
 refine sqH ?_; intro hQ1Q hQ1
 refine sn hF0 hM0 (fun b => .pointer (some ⟨b, 0, none⟩)) [str u0.Name, .int .i64 u0.Start, .int .i64 u0.Size, .bool u0.Back, .bool u0.Signed, .int .i64 u0.Mul, .int .i64 u0.Div, .int .i64 u0.Add, .int .i64 u0.Key] 23 (nog rfl _) rfl (by kernel_rfl) (by kernel_rfl) ?_; intro b2 a3 wd5 hF4 hM6; clear hF0 hM0
 refine s1 hF4 2 (.slice none 0 0) ?_; intro a7 hF8; clear hF4
 refine nlH (hQ1 _ _ ?_); clear hQ1 hQ1Q
 refine sqH ?_; intro hQ9Q hQ9
 refine s1 hF8 8 (.pointer (some ⟨b2, 2, none⟩)) ?_; intro a10 hF11; clear hF8
 refine l1 hF11 hM6 9 0 2 (.int .i64 u0.Size) rfl rfl ?_; intro a12 hF13; clear hF11
 have hc14 := hp.1; have hp15 := hp.2; clear hp
 refine mks hF13 hM6 (T := (tyInt .i64)) u0.Size u0.Size (k := .i64) (k' := .i64) (e := 3) (bytes := 8) (zs := [.int .i64 0]) (z := 0) (by simp only [lim]; omega) (nog rfl _) rfl (by kernel_rfl) rfl (by kernel_rfl) (by kernel_rfl) (by kernel_rfl) (by kernel_rfl) rfl ?_; intro g16 a19 wd17 hF20 hM18; clear hF13 hM6
 have hM21 : Mem w.heap.size [] w Z [.own (tyInt .i64) 3 (some ⟨g16, 0, none⟩) u0.Size.toNat (List.replicate u0.Size.toNat (0 : Int)), .row b2 [str u0.Name, .int .i64 u0.Start, .int .i64 u0.Size, .bool u0.Back, .bool u0.Signed, .int .i64 u0.Mul, .int .i64 u0.Div, .int .i64 u0.Add, .int .i64 u0.Key] 23] Z wd17 := hM18; clear hM18
 refine s1 hF20 3 (.slice (some ⟨g16, 0, none⟩) (List.replicate u0.Size.toNat (0 : Int)).length u0.Size.toNat) ?_; intro a22 hF23; clear hF20
 refine nlH (hQ9 _ _ ?_); clear hQ9 hQ9Q
 refine wp_seq ?_
 refine sqH ?_; intro hQ24Q hQ24
 refine s1 hF23 11 (.pointer (some ⟨b2, 3, none⟩)) ?_; intro a25 hF26; clear hF23
 refine l1 hF26 hM21 12 1 3 (.bool u0.Back) rfl rfl ?_; intro a27 hF28; clear hF26
 refine s1 hF28 13 (.bool (!u0.Back)) ?_; intro a29 hF30; clear hF28
 refine nlH (hQ24 _ _ ?_); clear hQ24 hQ24Q
 refine cd hF30 (t := !u0.Back) (by kernel_rfl) (fun hb31 => ?_) (fun hb31 => ?_)
 · -- yes
  have hp32 := hp15.1 hb31; clear hp15
  refine wp_seq ?_
  refine sqH ?_; intro hQ33Q hQ33
  refine s1 hF30 14 (.slice (some ⟨g16, 0, none⟩) (List.replicate u0.Size.toNat (0 : Int)).length u0.Size.toNat) ?_; intro a34 hF35; clear hF30
  refine s1 hF35 15 (.int .i64 ((List.replicate u0.Size.toNat (0 : Int)).length : Int)) ?_; intro a36 hF37; clear hF35
  refine s1 hF37 16 (.int .i64 0) ?_; intro a38 hF39; clear hF37
  refine nlH (hQ33 _ _ ?_); clear hQ33 hQ33Q
  refine wp_block ?_
  have hF40 : Fr 61 [] [⟨1, [], .pointer (some ⟨b2, 0, none⟩)⟩, ⟨3, [], .slice (some ⟨g16, 0, none⟩) (List.replicate u0.Size.toNat (0 : Int)).length u0.Size.toNat⟩, ⟨15, [], .int .i64 ((List.replicate u0.Size.toNat (0 : Int)).length : Int)⟩, ⟨16, [], .int .i64 0⟩] a38 := hF39.region (by kernel_rfl) (by kernel_rfl); clear hF39
  have hF42 : Fr 61 [] [⟨1, [], .pointer (some ⟨b2, 0, none⟩)⟩, ⟨3, [], .slice (some ⟨g16, 0, none⟩) (List.replicate u0.Size.toNat (0 : Int)).length u0.Size.toNat⟩, ⟨15, [], .int .i64 ((List.replicate u0.Size.toNat (0 : Int)).length : Int)⟩, ⟨16, [], .int .i64 0⟩] a38 := hF40.region (by kernel_rfl) (by kernel_rfl); clear hF40
  obtain ⟨inv41, mu41, hI45, hr44⟩ := hp32
  refine lp (ι := Int × (List Int)) (fun (s : Int × (List Int)) => [⟨1, [], .pointer (some ⟨b2, 0, none⟩)⟩, ⟨3, [], .slice (some ⟨g16, 0, none⟩) s.2.length u0.Size.toNat⟩, ⟨15, [], .int .i64 ((List.replicate u0.Size.toNat (0 : Int)).length : Int)⟩, ⟨16, [], .int .i64 s.1⟩]) (fun (s : Int × (List Int)) => [.own (tyInt .i64) 3 (some ⟨g16, 0, none⟩) u0.Size.toNat s.2, .row b2 [str u0.Name, .int .i64 u0.Start, .int .i64 u0.Size, .bool u0.Back, .bool u0.Signed, .int .i64 u0.Mul, .int .i64 u0.Div, .int .i64 u0.Add, .int .i64 u0.Key] 23]) (fun (s : Int × (List Int)) => Z) (fun (s : Int × (List Int)) => inv41 s.1 s.2) (fun (s : Int × (List Int)) => mu41 s.1 s.2) ⟨0, (List.replicate u0.Size.toNat (0 : Int))⟩ hI45 (by exact hF42.region (by kernel_rfl) (by kernel_rfl)) (by exact hM21) ?_
  rintro ⟨x16, zg160⟩ hI43 a47 wd48 hF49 hM50
  have hF51 : Fr 61 [] [⟨1, [], .pointer (some ⟨b2, 0, none⟩)⟩, ⟨3, [], .slice (some ⟨g16, 0, none⟩) zg160.length u0.Size.toNat⟩, ⟨15, [], .int .i64 ((List.replicate u0.Size.toNat (0 : Int)).length : Int)⟩, ⟨16, [], .int .i64 x16⟩] a47 := hF49; clear hF49 hF42
  have hM52 : Mem w.heap.size [] w Z [.own (tyInt .i64) 3 (some ⟨g16, 0, none⟩) u0.Size.toNat zg160, .row b2 [str u0.Name, .int .i64 u0.Start, .int .i64 u0.Size, .bool u0.Back, .bool u0.Signed, .int .i64 u0.Mul, .int .i64 u0.Div, .int .i64 u0.Add, .int .i64 u0.Key] 23] Z wd48 := hM50; clear hM50 hM21
  have hp53 := hr44 x16 zg160 hI43
  refine sqH ?_; intro hQ54Q hQ54
  refine s1 hF51 17 (.bool (decide (x16 < ((List.replicate u0.Size.toNat (0 : Int)).length : Int)))) ?_; intro a55 hF56; clear hF51
  refine nlH (hQ54 _ _ ?_); clear hQ54 hQ54Q
  refine wp_seq ?_
  refine cd hF56 (t := decide (x16 < ((List.replicate u0.Size.toNat (0 : Int)).length : Int))) (by kernel_rfl) (fun hb57 => ?_) (fun hb57 => ?_)
  · -- yes
   have hp58 := hp53.1 hb57; clear hp53
   refine wp_skip ?_
   refine thn ?_
   refine wp_seq ?_
   refine wp_block ?_
   refine sqH ?_; intro hQ59Q hQ59
   refine s1 hF56 18 (.int .i64 x16) ?_; intro a60 hF61; clear hF56
   refine s1 hF61 4 (.int .i64 x16) ?_; intro a62 hF63; clear hF61
   refine nlH (hQ59 _ _ ?_); clear hQ59 hQ59Q
   refine rgH ?_; intro hQ64Q hQ64
   refine s1 hF63 19 (.slice (some ⟨g16, 0, none⟩) zg160.length u0.Size.toNat) ?_; intro a65 hF66; clear hF63
   refine s1 hF66 20 (.int .i64 x16) ?_; intro a67 hF68; clear hF66
   refine s1 hF68 21 (.pointer (some ⟨b2, 1, none⟩)) ?_; intro a69 hF70; clear hF68
   refine l1 hF70 hM52 22 1 1 (.int .i64 u0.Start) rfl rfl ?_; intro a71 hF72; clear hF70
   refine s1 hF72 23 (.int .i64 x16) ?_; intro a73 hF74; clear hF72
   refine s1 hF74 24 (.int .i64 (w64 (u0.Start + x16))) ?_; intro a75 hF76; clear hF74
   have hc77 := hp58.1; have hp78 := hp58.2; clear hp58
   refine ixo hF76 hM52 0 (T := (tyInt .i64)) (xs := zg160) x16 hc77 (k := .i64) (e := 3) (bytes := 8) (nog rfl _) rfl (by kernel_rfl) rfl (by kernel_rfl) (by kernel_rfl) rfl (by kernel_rfl) ?_; intro g79 a81 hg80 hF82; clear hF76
   obtain rfl : g16 = g79 := by simpa using hg80
   have hF83 : Fr 61 [] [⟨1, [], .pointer (some ⟨b2, 0, none⟩)⟩, ⟨3, [], .slice (some ⟨g16, 0, none⟩) zg160.length u0.Size.toNat⟩, ⟨4, [], .int .i64 x16⟩, ⟨15, [], .int .i64 ((List.replicate u0.Size.toNat (0 : Int)).length : Int)⟩, ⟨16, [], .int .i64 x16⟩, ⟨17, [], .bool (decide (x16 < ((List.replicate u0.Size.toNat (0 : Int)).length : Int)))⟩, ⟨18, [], .int .i64 x16⟩, ⟨19, [], .slice (some ⟨g16, 0, none⟩) zg160.length u0.Size.toNat⟩, ⟨20, [], .int .i64 x16⟩, ⟨21, [], .pointer (some ⟨b2, 1, none⟩)⟩, ⟨22, [], .int .i64 u0.Start⟩, ⟨23, [], .int .i64 x16⟩, ⟨24, [], .int .i64 (w64 (u0.Start + x16))⟩, ⟨25, [], .pointer (some ⟨g16, x16.toNat * 1, none⟩)⟩] a81 := hF82.region (by kernel_rfl) (by kernel_rfl); clear hF82
   have hM84 : Mem w.heap.size [] w Z [.own (tyInt .i64) 3 (some ⟨g16, 0, none⟩) u0.Size.toNat zg160, .row b2 [str u0.Name, .int .i64 u0.Start, .int .i64 u0.Size, .bool u0.Back, .bool u0.Signed, .int .i64 u0.Mul, .int .i64 u0.Div, .int .i64 u0.Add, .int .i64 u0.Key] 23] Z wd48 := hM52; clear hM52
   refine so hF83 hM84 0 (T := (tyInt .i64)) (xs := zg160) x16.toNat (w64 (u0.Start + x16)) (u := .int .i64 (w64 (u0.Start + x16))) (nog rfl _) rfl rfl (by kernel_rfl) rfl (by kernel_rfl) rfl (by kernel_rfl) (by first | omega | (simp only [List.length_set] at *; omega)) rfl ?_; intro wd85 hM86; clear hM84
   have hF87 : Fr 61 [] [⟨1, [], .pointer (some ⟨b2, 0, none⟩)⟩, ⟨3, [], .slice (some ⟨g16, 0, none⟩) (zg160.set x16.toNat (w64 (u0.Start + x16))).length u0.Size.toNat⟩, ⟨4, [], .int .i64 x16⟩, ⟨15, [], .int .i64 ((List.replicate u0.Size.toNat (0 : Int)).length : Int)⟩, ⟨16, [], .int .i64 x16⟩, ⟨17, [], .bool (decide (x16 < ((List.replicate u0.Size.toNat (0 : Int)).length : Int)))⟩, ⟨18, [], .int .i64 x16⟩, ⟨19, [], .slice (some ⟨g16, 0, none⟩) (zg160.set x16.toNat (w64 (u0.Start + x16))).length u0.Size.toNat⟩, ⟨20, [], .int .i64 x16⟩, ⟨21, [], .pointer (some ⟨b2, 1, none⟩)⟩, ⟨22, [], .int .i64 u0.Start⟩, ⟨23, [], .int .i64 x16⟩, ⟨24, [], .int .i64 (w64 (u0.Start + x16))⟩, ⟨25, [], .pointer (some ⟨g16, x16.toNat * 1, none⟩)⟩] a81 := by (try simp only [List.length_set] at hF83); (try simp only [List.length_set]); exact hF83.region (by kernel_rfl) (by kernel_rfl)
   clear hF83
   have hM88 : Mem w.heap.size [] w Z [.own (tyInt .i64) 3 (some ⟨g16, 0, none⟩) u0.Size.toNat (zg160.set x16.toNat (w64 (u0.Start + x16))), .row b2 [str u0.Name, .int .i64 u0.Start, .int .i64 u0.Size, .bool u0.Back, .bool u0.Signed, .int .i64 u0.Mul, .int .i64 u0.Div, .int .i64 u0.Add, .int .i64 u0.Key] 23] Z wd85 := hM86; clear hM86
   refine nlH (hQ64 _ _ ?_); clear hQ64 hQ64Q
   refine ibn ?_
   refine thn ?_
   refine rgH ?_; intro hQ89Q hQ89
   refine s1 hF87 26 (.int .i64 (w64 (x16 + 1))) ?_; intro a90 hF91; clear hF87
   refine s1 hF91 16 (.int .i64 (w64 (x16 + 1))) ?_; intro a92 hF93; clear hF91
   refine nlH (hQ89 _ _ ?_); clear hQ89 hQ89Q
   refine rd ?_
   exact ⟨⟨w64 (x16 + 1), zg160.set x16.toNat (w64 (u0.Start + x16))⟩, hp78.1, hp78.2, (hF93.region (by kernel_rfl) (by kernel_rfl)).anyβ _ (by kernel_rfl), hM88.keep (List.Sublist.cons_cons _ (List.Sublist.cons_cons _ (List.Sublist.slnil)))⟩
  · -- no
   have hp94 := hp53.2 hb57; clear hp53
   refine wp_exit ?_
   refine thx ?_
   refine thx ?_
   refine ibx ?_
   refine thn ?_
   refine sqH ?_; intro hQ95Q hQ95
   refine s1 hF56 27 (.slice (some ⟨g16, 0, none⟩) zg160.length u0.Size.toNat) ?_; intro a96 hF97; clear hF56
   refine s1 hF97 2 (.slice (some ⟨g16, 0, none⟩) zg160.length u0.Size.toNat) ?_; intro a98 hF99; clear hF97
   refine nlH (hQ95 _ _ ?_); clear hQ95 hQ95Q
   refine wp_ret ?_
   refine thr ?_
   refine rt (fn := Tryd.f25) (v := .slice (some ⟨g16, 0, none⟩) zg160.length u0.Size.toNat) hF99 (re1 hF99 (fn := Tryd.f25) rfl (by kernel_rfl)) ?_
   exact ⟨zg160, (some ⟨g16, 0, none⟩), u0.Size.toNat, Z, rfl, hp94, hM52.keep (List.Sublist.cons_cons _ (List.Sublist.cons _ (List.Sublist.slnil)))⟩
 · -- no
  have hp100 := hp15.2 hb31; clear hp15
  refine wp_skip ?_
  refine thn ?_
  refine sqH ?_; intro hQ101Q hQ101
  refine s1 hF30 28 (.pointer (some ⟨b2, 1, none⟩)) ?_; intro a102 hF103; clear hF30
  refine l1 hF103 hM21 29 1 1 (.int .i64 u0.Start) rfl rfl ?_; intro a104 hF105; clear hF103
  refine s1 hF105 30 (.int .i64 (w64 (u0.Start.tdiv 8))) ?_; intro a106 hF107; clear hF105
  refine s1 hF107 31 (.int .i64 (w64 ((w64 (u0.Start.tdiv 8)) * 8))) ?_; intro a108 hF109; clear hF107
  refine s1 hF109 32 (.int .i64 (w64 ((w64 ((w64 (u0.Start.tdiv 8)) * 8)) + 7))) ?_; intro a110 hF111; clear hF109
  refine s1 hF111 33 (.pointer (some ⟨b2, 1, none⟩)) ?_; intro a112 hF113; clear hF111
  refine l1 hF113 hM21 34 1 1 (.int .i64 u0.Start) rfl rfl ?_; intro a114 hF115; clear hF113
  refine s1 hF115 35 (.int .i64 (u0.Start.tmod 8)) ?_; intro a116 hF117; clear hF115
  refine s1 hF117 36 (.int .i64 (w64 ((w64 ((w64 ((w64 (u0.Start.tdiv 8)) * 8)) + 7)) - (u0.Start.tmod 8)))) ?_; intro a118 hF119; clear hF117
  refine s1 hF119 5 (.int .i64 (w64 ((w64 ((w64 ((w64 (u0.Start.tdiv 8)) * 8)) + 7)) - (u0.Start.tmod 8)))) ?_; intro a120 hF121; clear hF119
  refine nlH (hQ101 _ _ ?_); clear hQ101 hQ101Q
  refine wp_seq ?_
  have hF122 : Fr 61 [] [⟨1, [], .pointer (some ⟨b2, 0, none⟩)⟩, ⟨3, [], .slice (some ⟨g16, 0, none⟩) (List.replicate u0.Size.toNat (0 : Int)).length u0.Size.toNat⟩, ⟨5, [], .int .i64 (w64 ((w64 ((w64 ((w64 (u0.Start.tdiv 8)) * 8)) + 7)) - (u0.Start.tmod 8)))⟩] a120 := hF121.region (by kernel_rfl) (by kernel_rfl); clear hF121
  refine sqH ?_; intro hQ123Q hQ123
  refine s1 hF122 37 (.slice (some ⟨g16, 0, none⟩) (List.replicate u0.Size.toNat (0 : Int)).length u0.Size.toNat) ?_; intro a124 hF125; clear hF122
  refine s1 hF125 38 (.int .i64 ((List.replicate u0.Size.toNat (0 : Int)).length : Int)) ?_; intro a126 hF127; clear hF125
  refine s1 hF127 39 (.int .i64 0) ?_; intro a128 hF129; clear hF127
  refine nlH (hQ123 _ _ ?_); clear hQ123 hQ123Q
  refine wp_block ?_
  have hF130 : Fr 61 [] [⟨1, [], .pointer (some ⟨b2, 0, none⟩)⟩, ⟨3, [], .slice (some ⟨g16, 0, none⟩) (List.replicate u0.Size.toNat (0 : Int)).length u0.Size.toNat⟩, ⟨5, [], .int .i64 (w64 ((w64 ((w64 ((w64 (u0.Start.tdiv 8)) * 8)) + 7)) - (u0.Start.tmod 8)))⟩, ⟨38, [], .int .i64 ((List.replicate u0.Size.toNat (0 : Int)).length : Int)⟩, ⟨39, [], .int .i64 0⟩] a128 := hF129.region (by kernel_rfl) (by kernel_rfl); clear hF129
  have hF132 : Fr 61 [] [⟨1, [], .pointer (some ⟨b2, 0, none⟩)⟩, ⟨3, [], .slice (some ⟨g16, 0, none⟩) (List.replicate u0.Size.toNat (0 : Int)).length u0.Size.toNat⟩, ⟨5, [], .int .i64 (w64 ((w64 ((w64 ((w64 (u0.Start.tdiv 8)) * 8)) + 7)) - (u0.Start.tmod 8)))⟩, ⟨38, [], .int .i64 ((List.replicate u0.Size.toNat (0 : Int)).length : Int)⟩, ⟨39, [], .int .i64 0⟩] a128 := hF130.region (by kernel_rfl) (by kernel_rfl); clear hF130
  obtain ⟨inv131, mu131, hI135, hr134⟩ := hp100
  refine lp (ι := Int × (List Int)) (fun (s : Int × (List Int)) => [⟨1, [], .pointer (some ⟨b2, 0, none⟩)⟩, ⟨3, [], .slice (some ⟨g16, 0, none⟩) s.2.length u0.Size.toNat⟩, ⟨5, [], .int .i64 (w64 ((w64 ((w64 ((w64 (u0.Start.tdiv 8)) * 8)) + 7)) - (u0.Start.tmod 8)))⟩, ⟨38, [], .int .i64 ((List.replicate u0.Size.toNat (0 : Int)).length : Int)⟩, ⟨39, [], .int .i64 s.1⟩]) (fun (s : Int × (List Int)) => [.own (tyInt .i64) 3 (some ⟨g16, 0, none⟩) u0.Size.toNat s.2, .row b2 [str u0.Name, .int .i64 u0.Start, .int .i64 u0.Size, .bool u0.Back, .bool u0.Signed, .int .i64 u0.Mul, .int .i64 u0.Div, .int .i64 u0.Add, .int .i64 u0.Key] 23]) (fun (s : Int × (List Int)) => Z) (fun (s : Int × (List Int)) => inv131 s.1 s.2) (fun (s : Int × (List Int)) => mu131 s.1 s.2) ⟨0, (List.replicate u0.Size.toNat (0 : Int))⟩ hI135 (by exact hF132.region (by kernel_rfl) (by kernel_rfl)) (by exact hM21) ?_
  rintro ⟨x39, zg160⟩ hI133 a137 wd138 hF139 hM140
  have hF141 : Fr 61 [] [⟨1, [], .pointer (some ⟨b2, 0, none⟩)⟩, ⟨3, [], .slice (some ⟨g16, 0, none⟩) zg160.length u0.Size.toNat⟩, ⟨5, [], .int .i64 (w64 ((w64 ((w64 ((w64 (u0.Start.tdiv 8)) * 8)) + 7)) - (u0.Start.tmod 8)))⟩, ⟨38, [], .int .i64 ((List.replicate u0.Size.toNat (0 : Int)).length : Int)⟩, ⟨39, [], .int .i64 x39⟩] a137 := hF139; clear hF139 hF132
  have hM142 : Mem w.heap.size [] w Z [.own (tyInt .i64) 3 (some ⟨g16, 0, none⟩) u0.Size.toNat zg160, .row b2 [str u0.Name, .int .i64 u0.Start, .int .i64 u0.Size, .bool u0.Back, .bool u0.Signed, .int .i64 u0.Mul, .int .i64 u0.Div, .int .i64 u0.Add, .int .i64 u0.Key] 23] Z wd138 := hM140; clear hM140 hM21
  have hp143 := hr134 x39 zg160 hI133
  refine sqH ?_; intro hQ144Q hQ144
  refine s1 hF141 40 (.bool (decide (x39 < ((List.replicate u0.Size.toNat (0 : Int)).length : Int)))) ?_; intro a145 hF146; clear hF141
  refine nlH (hQ144 _ _ ?_); clear hQ144 hQ144Q
  refine wp_seq ?_
  refine cd hF146 (t := decide (x39 < ((List.replicate u0.Size.toNat (0 : Int)).length : Int))) (by kernel_rfl) (fun hb147 => ?_) (fun hb147 => ?_)
  · -- yes
   have hp148 := hp143.1 hb147; clear hp143
   refine wp_skip ?_
   refine thn ?_
   refine wp_seq ?_
   refine wp_block ?_
   refine sqH ?_; intro hQ149Q hQ149
   refine s1 hF146 41 (.int .i64 x39) ?_; intro a150 hF151; clear hF146
   refine s1 hF151 6 (.int .i64 x39) ?_; intro a152 hF153; clear hF151
   refine nlH (hQ149 _ _ ?_); clear hQ149 hQ149Q
   refine sqH ?_; intro hQ154Q hQ154
   refine s1 hF153 42 (.int .i64 (w64 ((w64 ((w64 ((w64 (u0.Start.tdiv 8)) * 8)) + 7)) - (u0.Start.tmod 8)))) ?_; intro a155 hF156; clear hF153
   refine s1 hF156 43 (.pointer (some ⟨b2, 2, none⟩)) ?_; intro a157 hF158; clear hF156
   refine l1 hF158 hM142 44 1 2 (.int .i64 u0.Size) rfl rfl ?_; intro a159 hF160; clear hF158
   refine s1 hF160 45 (.int .i64 (w64 ((w64 ((w64 ((w64 ((w64 (u0.Start.tdiv 8)) * 8)) + 7)) - (u0.Start.tmod 8))) + u0.Size))) ?_; intro a161 hF162; clear hF160
   refine s1 hF162 46 (.int .i64 (w64 ((w64 ((w64 ((w64 ((w64 ((w64 (u0.Start.tdiv 8)) * 8)) + 7)) - (u0.Start.tmod 8))) + u0.Size)) - 1))) ?_; intro a163 hF164; clear hF162
   refine s1 hF164 47 (.int .i64 x39) ?_; intro a165 hF166; clear hF164
   refine s1 hF166 48 (.int .i64 (w64 ((w64 ((w64 ((w64 ((w64 ((w64 ((w64 (u0.Start.tdiv 8)) * 8)) + 7)) - (u0.Start.tmod 8))) + u0.Size)) - 1)) - x39))) ?_; intro a167 hF168; clear hF166
   refine s1 hF168 7 (.int .i64 (w64 ((w64 ((w64 ((w64 ((w64 ((w64 ((w64 (u0.Start.tdiv 8)) * 8)) + 7)) - (u0.Start.tmod 8))) + u0.Size)) - 1)) - x39))) ?_; intro a169 hF170; clear hF168
   refine nlH (hQ154 _ _ ?_); clear hQ154 hQ154Q
   refine rgH ?_; intro hQ171Q hQ171
   refine s1 hF170 49 (.slice (some ⟨g16, 0, none⟩) zg160.length u0.Size.toNat) ?_; intro a172 hF173; clear hF170
   refine s1 hF173 50 (.int .i64 x39) ?_; intro a174 hF175; clear hF173
   refine s1 hF175 51 (.int .i64 (w64 ((w64 ((w64 ((w64 ((w64 ((w64 ((w64 (u0.Start.tdiv 8)) * 8)) + 7)) - (u0.Start.tmod 8))) + u0.Size)) - 1)) - x39))) ?_; intro a176 hF177; clear hF175
   refine s1 hF177 52 (.int .i64 (w64 ((w64 ((w64 ((w64 ((w64 ((w64 ((w64 ((w64 (u0.Start.tdiv 8)) * 8)) + 7)) - (u0.Start.tmod 8))) + u0.Size)) - 1)) - x39)).tdiv 8))) ?_; intro a178 hF179; clear hF177
   refine s1 hF179 53 (.int .i64 (w64 ((w64 ((w64 ((w64 ((w64 ((w64 ((w64 ((w64 ((w64 (u0.Start.tdiv 8)) * 8)) + 7)) - (u0.Start.tmod 8))) + u0.Size)) - 1)) - x39)).tdiv 8)) * 8))) ?_; intro a180 hF181; clear hF179
   refine s1 hF181 54 (.int .i64 (w64 ((w64 ((w64 ((w64 ((w64 ((w64 ((w64 ((w64 ((w64 ((w64 (u0.Start.tdiv 8)) * 8)) + 7)) - (u0.Start.tmod 8))) + u0.Size)) - 1)) - x39)).tdiv 8)) * 8)) + 7))) ?_; intro a182 hF183; clear hF181
   refine s1 hF183 55 (.int .i64 (w64 ((w64 ((w64 ((w64 ((w64 ((w64 ((w64 (u0.Start.tdiv 8)) * 8)) + 7)) - (u0.Start.tmod 8))) + u0.Size)) - 1)) - x39))) ?_; intro a184 hF185; clear hF183
   refine s1 hF185 56 (.int .i64 ((w64 ((w64 ((w64 ((w64 ((w64 ((w64 ((w64 (u0.Start.tdiv 8)) * 8)) + 7)) - (u0.Start.tmod 8))) + u0.Size)) - 1)) - x39)).tmod 8)) ?_; intro a186 hF187; clear hF185
   refine s1 hF187 57 (.int .i64 (w64 ((w64 ((w64 ((w64 ((w64 ((w64 ((w64 ((w64 ((w64 ((w64 ((w64 (u0.Start.tdiv 8)) * 8)) + 7)) - (u0.Start.tmod 8))) + u0.Size)) - 1)) - x39)).tdiv 8)) * 8)) + 7)) - ((w64 ((w64 ((w64 ((w64 ((w64 ((w64 ((w64 (u0.Start.tdiv 8)) * 8)) + 7)) - (u0.Start.tmod 8))) + u0.Size)) - 1)) - x39)).tmod 8)))) ?_; intro a188 hF189; clear hF187
   have hc190 := hp148.1; have hp191 := hp148.2; clear hp148
   refine ixo hF189 hM142 0 (T := (tyInt .i64)) (xs := zg160) x39 hc190 (k := .i64) (e := 3) (bytes := 8) (nog rfl _) rfl (by kernel_rfl) rfl (by kernel_rfl) (by kernel_rfl) rfl (by kernel_rfl) ?_; intro g192 a194 hg193 hF195; clear hF189
   obtain rfl : g16 = g192 := by simpa using hg193
   have hF196 : Fr 61 [] [⟨1, [], .pointer (some ⟨b2, 0, none⟩)⟩, ⟨3, [], .slice (some ⟨g16, 0, none⟩) zg160.length u0.Size.toNat⟩, ⟨5, [], .int .i64 (w64 ((w64 ((w64 ((w64 (u0.Start.tdiv 8)) * 8)) + 7)) - (u0.Start.tmod 8)))⟩, ⟨6, [], .int .i64 x39⟩, ⟨7, [], .int .i64 (w64 ((w64 ((w64 ((w64 ((w64 ((w64 ((w64 (u0.Start.tdiv 8)) * 8)) + 7)) - (u0.Start.tmod 8))) + u0.Size)) - 1)) - x39))⟩, ⟨38, [], .int .i64 ((List.replicate u0.Size.toNat (0 : Int)).length : Int)⟩, ⟨39, [], .int .i64 x39⟩, ⟨40, [], .bool (decide (x39 < ((List.replicate u0.Size.toNat (0 : Int)).length : Int)))⟩, ⟨41, [], .int .i64 x39⟩, ⟨42, [], .int .i64 (w64 ((w64 ((w64 ((w64 (u0.Start.tdiv 8)) * 8)) + 7)) - (u0.Start.tmod 8)))⟩, ⟨43, [], .pointer (some ⟨b2, 2, none⟩)⟩, ⟨44, [], .int .i64 u0.Size⟩, ⟨45, [], .int .i64 (w64 ((w64 ((w64 ((w64 ((w64 (u0.Start.tdiv 8)) * 8)) + 7)) - (u0.Start.tmod 8))) + u0.Size))⟩, ⟨46, [], .int .i64 (w64 ((w64 ((w64 ((w64 ((w64 ((w64 (u0.Start.tdiv 8)) * 8)) + 7)) - (u0.Start.tmod 8))) + u0.Size)) - 1))⟩, ⟨47, [], .int .i64 x39⟩, ⟨48, [], .int .i64 (w64 ((w64 ((w64 ((w64 ((w64 ((w64 ((w64 (u0.Start.tdiv 8)) * 8)) + 7)) - (u0.Start.tmod 8))) + u0.Size)) - 1)) - x39))⟩, ⟨49, [], .slice (some ⟨g16, 0, none⟩) zg160.length u0.Size.toNat⟩, ⟨50, [], .int .i64 x39⟩, ⟨51, [], .int .i64 (w64 ((w64 ((w64 ((w64 ((w64 ((w64 ((w64 (u0.Start.tdiv 8)) * 8)) + 7)) - (u0.Start.tmod 8))) + u0.Size)) - 1)) - x39))⟩, ⟨52, [], .int .i64 (w64 ((w64 ((w64 ((w64 ((w64 ((w64 ((w64 ((w64 (u0.Start.tdiv 8)) * 8)) + 7)) - (u0.Start.tmod 8))) + u0.Size)) - 1)) - x39)).tdiv 8))⟩, ⟨53, [], .int .i64 (w64 ((w64 ((w64 ((w64 ((w64 ((w64 ((w64 ((w64 ((w64 (u0.Start.tdiv 8)) * 8)) + 7)) - (u0.Start.tmod 8))) + u0.Size)) - 1)) - x39)).tdiv 8)) * 8))⟩, ⟨54, [], .int .i64 (w64 ((w64 ((w64 ((w64 ((w64 ((w64 ((w64 ((w64 ((w64 ((w64 (u0.Start.tdiv 8)) * 8)) + 7)) - (u0.Start.tmod 8))) + u0.Size)) - 1)) - x39)).tdiv 8)) * 8)) + 7))⟩, ⟨55, [], .int .i64 (w64 ((w64 ((w64 ((w64 ((w64 ((w64 ((w64 (u0.Start.tdiv 8)) * 8)) + 7)) - (u0.Start.tmod 8))) + u0.Size)) - 1)) - x39))⟩, ⟨56, [], .int .i64 ((w64 ((w64 ((w64 ((w64 ((w64 ((w64 ((w64 (u0.Start.tdiv 8)) * 8)) + 7)) - (u0.Start.tmod 8))) + u0.Size)) - 1)) - x39)).tmod 8)⟩, ⟨57, [], .int .i64 (w64 ((w64 ((w64 ((w64 ((w64 ((w64 ((w64 ((w64 ((w64 ((w64 ((w64 (u0.Start.tdiv 8)) * 8)) + 7)) - (u0.Start.tmod 8))) + u0.Size)) - 1)) - x39)).tdiv 8)) * 8)) + 7)) - ((w64 ((w64 ((w64 ((w64 ((w64 ((w64 ((w64 (u0.Start.tdiv 8)) * 8)) + 7)) - (u0.Start.tmod 8))) + u0.Size)) - 1)) - x39)).tmod 8)))⟩, ⟨58, [], .pointer (some ⟨g16, x39.toNat * 1, none⟩)⟩] a194 := hF195.region (by kernel_rfl) (by kernel_rfl); clear hF195
   have hM197 : Mem w.heap.size [] w Z [.own (tyInt .i64) 3 (some ⟨g16, 0, none⟩) u0.Size.toNat zg160, .row b2 [str u0.Name, .int .i64 u0.Start, .int .i64 u0.Size, .bool u0.Back, .bool u0.Signed, .int .i64 u0.Mul, .int .i64 u0.Div, .int .i64 u0.Add, .int .i64 u0.Key] 23] Z wd138 := hM142; clear hM142
   refine so hF196 hM197 0 (T := (tyInt .i64)) (xs := zg160) x39.toNat (w64 ((w64 ((w64 ((w64 ((w64 ((w64 ((w64 ((w64 ((w64 ((w64 ((w64 (u0.Start.tdiv 8)) * 8)) + 7)) - (u0.Start.tmod 8))) + u0.Size)) - 1)) - x39)).tdiv 8)) * 8)) + 7)) - ((w64 ((w64 ((w64 ((w64 ((w64 ((w64 ((w64 (u0.Start.tdiv 8)) * 8)) + 7)) - (u0.Start.tmod 8))) + u0.Size)) - 1)) - x39)).tmod 8))) (u := .int .i64 (w64 ((w64 ((w64 ((w64 ((w64 ((w64 ((w64 ((w64 ((w64 ((w64 ((w64 (u0.Start.tdiv 8)) * 8)) + 7)) - (u0.Start.tmod 8))) + u0.Size)) - 1)) - x39)).tdiv 8)) * 8)) + 7)) - ((w64 ((w64 ((w64 ((w64 ((w64 ((w64 ((w64 (u0.Start.tdiv 8)) * 8)) + 7)) - (u0.Start.tmod 8))) + u0.Size)) - 1)) - x39)).tmod 8)))) (nog rfl _) rfl rfl (by kernel_rfl) rfl (by kernel_rfl) rfl (by kernel_rfl) (by first | omega | (simp only [List.length_set] at *; omega)) rfl ?_; intro wd198 hM199; clear hM197
   have hF200 : Fr 61 [] [⟨1, [], .pointer (some ⟨b2, 0, none⟩)⟩, ⟨3, [], .slice (some ⟨g16, 0, none⟩) (zg160.set x39.toNat (w64 ((w64 ((w64 ((w64 ((w64 ((w64 ((w64 ((w64 ((w64 ((w64 ((w64 (u0.Start.tdiv 8)) * 8)) + 7)) - (u0.Start.tmod 8))) + u0.Size)) - 1)) - x39)).tdiv 8)) * 8)) + 7)) - ((w64 ((w64 ((w64 ((w64 ((w64 ((w64 ((w64 (u0.Start.tdiv 8)) * 8)) + 7)) - (u0.Start.tmod 8))) + u0.Size)) - 1)) - x39)).tmod 8)))).length u0.Size.toNat⟩, ⟨5, [], .int .i64 (w64 ((w64 ((w64 ((w64 (u0.Start.tdiv 8)) * 8)) + 7)) - (u0.Start.tmod 8)))⟩, ⟨6, [], .int .i64 x39⟩, ⟨7, [], .int .i64 (w64 ((w64 ((w64 ((w64 ((w64 ((w64 ((w64 (u0.Start.tdiv 8)) * 8)) + 7)) - (u0.Start.tmod 8))) + u0.Size)) - 1)) - x39))⟩, ⟨38, [], .int .i64 ((List.replicate u0.Size.toNat (0 : Int)).length : Int)⟩, ⟨39, [], .int .i64 x39⟩, ⟨40, [], .bool (decide (x39 < ((List.replicate u0.Size.toNat (0 : Int)).length : Int)))⟩, ⟨41, [], .int .i64 x39⟩, ⟨42, [], .int .i64 (w64 ((w64 ((w64 ((w64 (u0.Start.tdiv 8)) * 8)) + 7)) - (u0.Start.tmod 8)))⟩, ⟨43, [], .pointer (some ⟨b2, 2, none⟩)⟩, ⟨44, [], .int .i64 u0.Size⟩, ⟨45, [], .int .i64 (w64 ((w64 ((w64 ((w64 ((w64 (u0.Start.tdiv 8)) * 8)) + 7)) - (u0.Start.tmod 8))) + u0.Size))⟩, ⟨46, [], .int .i64 (w64 ((w64 ((w64 ((w64 ((w64 ((w64 (u0.Start.tdiv 8)) * 8)) + 7)) - (u0.Start.tmod 8))) + u0.Size)) - 1))⟩, ⟨47, [], .int .i64 x39⟩, ⟨48, [], .int .i64 (w64 ((w64 ((w64 ((w64 ((w64 ((w64 ((w64 (u0.Start.tdiv 8)) * 8)) + 7)) - (u0.Start.tmod 8))) + u0.Size)) - 1)) - x39))⟩, ⟨49, [], .slice (some ⟨g16, 0, none⟩) (zg160.set x39.toNat (w64 ((w64 ((w64 ((w64 ((w64 ((w64 ((w64 ((w64 ((w64 ((w64 ((w64 (u0.Start.tdiv 8)) * 8)) + 7)) - (u0.Start.tmod 8))) + u0.Size)) - 1)) - x39)).tdiv 8)) * 8)) + 7)) - ((w64 ((w64 ((w64 ((w64 ((w64 ((w64 ((w64 (u0.Start.tdiv 8)) * 8)) + 7)) - (u0.Start.tmod 8))) + u0.Size)) - 1)) - x39)).tmod 8)))).length u0.Size.toNat⟩, ⟨50, [], .int .i64 x39⟩, ⟨51, [], .int .i64 (w64 ((w64 ((w64 ((w64 ((w64 ((w64 ((w64 (u0.Start.tdiv 8)) * 8)) + 7)) - (u0.Start.tmod 8))) + u0.Size)) - 1)) - x39))⟩, ⟨52, [], .int .i64 (w64 ((w64 ((w64 ((w64 ((w64 ((w64 ((w64 ((w64 (u0.Start.tdiv 8)) * 8)) + 7)) - (u0.Start.tmod 8))) + u0.Size)) - 1)) - x39)).tdiv 8))⟩, ⟨53, [], .int .i64 (w64 ((w64 ((w64 ((w64 ((w64 ((w64 ((w64 ((w64 ((w64 (u0.Start.tdiv 8)) * 8)) + 7)) - (u0.Start.tmod 8))) + u0.Size)) - 1)) - x39)).tdiv 8)) * 8))⟩, ⟨54, [], .int .i64 (w64 ((w64 ((w64 ((w64 ((w64 ((w64 ((w64 ((w64 ((w64 ((w64 (u0.Start.tdiv 8)) * 8)) + 7)) - (u0.Start.tmod 8))) + u0.Size)) - 1)) - x39)).tdiv 8)) * 8)) + 7))⟩, ⟨55, [], .int .i64 (w64 ((w64 ((w64 ((w64 ((w64 ((w64 ((w64 (u0.Start.tdiv 8)) * 8)) + 7)) - (u0.Start.tmod 8))) + u0.Size)) - 1)) - x39))⟩, ⟨56, [], .int .i64 ((w64 ((w64 ((w64 ((w64 ((w64 ((w64 ((w64 (u0.Start.tdiv 8)) * 8)) + 7)) - (u0.Start.tmod 8))) + u0.Size)) - 1)) - x39)).tmod 8)⟩, ⟨57, [], .int .i64 (w64 ((w64 ((w64 ((w64 ((w64 ((w64 ((w64 ((w64 ((w64 ((w64 ((w64 (u0.Start.tdiv 8)) * 8)) + 7)) - (u0.Start.tmod 8))) + u0.Size)) - 1)) - x39)).tdiv 8)) * 8)) + 7)) - ((w64 ((w64 ((w64 ((w64 ((w64 ((w64 ((w64 (u0.Start.tdiv 8)) * 8)) + 7)) - (u0.Start.tmod 8))) + u0.Size)) - 1)) - x39)).tmod 8)))⟩, ⟨58, [], .pointer (some ⟨g16, x39.toNat * 1, none⟩)⟩] a194 := by (try simp only [List.length_set] at hF196); (try simp only [List.length_set]); exact hF196.region (by kernel_rfl) (by kernel_rfl)
   clear hF196
   have hM201 : Mem w.heap.size [] w Z [.own (tyInt .i64) 3 (some ⟨g16, 0, none⟩) u0.Size.toNat (zg160.set x39.toNat (w64 ((w64 ((w64 ((w64 ((w64 ((w64 ((w64 ((w64 ((w64 ((w64 ((w64 (u0.Start.tdiv 8)) * 8)) + 7)) - (u0.Start.tmod 8))) + u0.Size)) - 1)) - x39)).tdiv 8)) * 8)) + 7)) - ((w64 ((w64 ((w64 ((w64 ((w64 ((w64 ((w64 (u0.Start.tdiv 8)) * 8)) + 7)) - (u0.Start.tmod 8))) + u0.Size)) - 1)) - x39)).tmod 8)))), .row b2 [str u0.Name, .int .i64 u0.Start, .int .i64 u0.Size, .bool u0.Back, .bool u0.Signed, .int .i64 u0.Mul, .int .i64 u0.Div, .int .i64 u0.Add, .int .i64 u0.Key] 23] Z wd198 := hM199; clear hM199
   refine nlH (hQ171 _ _ ?_); clear hQ171 hQ171Q
   refine ibn ?_
   refine thn ?_
   have hF202 : Fr 61 [] [⟨1, [], .pointer (some ⟨b2, 0, none⟩)⟩, ⟨3, [], .slice (some ⟨g16, 0, none⟩) (zg160.set x39.toNat (w64 ((w64 ((w64 ((w64 ((w64 ((w64 ((w64 ((w64 ((w64 ((w64 ((w64 (u0.Start.tdiv 8)) * 8)) + 7)) - (u0.Start.tmod 8))) + u0.Size)) - 1)) - x39)).tdiv 8)) * 8)) + 7)) - ((w64 ((w64 ((w64 ((w64 ((w64 ((w64 ((w64 (u0.Start.tdiv 8)) * 8)) + 7)) - (u0.Start.tmod 8))) + u0.Size)) - 1)) - x39)).tmod 8)))).length u0.Size.toNat⟩, ⟨5, [], .int .i64 (w64 ((w64 ((w64 ((w64 (u0.Start.tdiv 8)) * 8)) + 7)) - (u0.Start.tmod 8)))⟩, ⟨38, [], .int .i64 ((List.replicate u0.Size.toNat (0 : Int)).length : Int)⟩, ⟨39, [], .int .i64 x39⟩] a194 := hF200.region (by kernel_rfl) (by kernel_rfl); clear hF200
   refine rgH ?_; intro hQ203Q hQ203
   refine s1 hF202 59 (.int .i64 (w64 (x39 + 1))) ?_; intro a204 hF205; clear hF202
   refine s1 hF205 39 (.int .i64 (w64 (x39 + 1))) ?_; intro a206 hF207; clear hF205
   refine nlH (hQ203 _ _ ?_); clear hQ203 hQ203Q
   refine rd ?_
   exact ⟨⟨w64 (x39 + 1), zg160.set x39.toNat (w64 ((w64 ((w64 ((w64 ((w64 ((w64 ((w64 ((w64 ((w64 ((w64 ((w64 (u0.Start.tdiv 8)) * 8)) + 7)) - (u0.Start.tmod 8))) + u0.Size)) - 1)) - x39)).tdiv 8)) * 8)) + 7)) - ((w64 ((w64 ((w64 ((w64 ((w64 ((w64 ((w64 (u0.Start.tdiv 8)) * 8)) + 7)) - (u0.Start.tmod 8))) + u0.Size)) - 1)) - x39)).tmod 8)))⟩, hp191.1, hp191.2, (hF207.region (by kernel_rfl) (by kernel_rfl)).anyβ _ (by kernel_rfl), hM201.keep (List.Sublist.cons_cons _ (List.Sublist.cons_cons _ (List.Sublist.slnil)))⟩
  · -- no
   have hp208 := hp143.2 hb147; clear hp143
   refine wp_exit ?_
   refine thx ?_
   refine thx ?_
   refine ibx ?_
   refine thn ?_
   refine sqH ?_; intro hQ209Q hQ209
   refine s1 hF146 60 (.slice (some ⟨g16, 0, none⟩) zg160.length u0.Size.toNat) ?_; intro a210 hF211; clear hF146
   refine s1 hF211 2 (.slice (some ⟨g16, 0, none⟩) zg160.length u0.Size.toNat) ?_; intro a212 hF213; clear hF211
   refine nlH (hQ209 _ _ ?_); clear hQ209 hQ209Q
   refine wp_ret ?_
   refine rt (fn := Tryd.f25) (v := .slice (some ⟨g16, 0, none⟩) zg160.length u0.Size.toNat) hF213 (re1 hF213 (fn := Tryd.f25) rfl (by kernel_rfl)) ?_
   exact ⟨zg160, (some ⟨g16, 0, none⟩), u0.Size.toNat, Z, rfl, hp208, hM142.keep (List.Sublist.cons_cons _ (List.Sublist.cons _ (List.Sublist.slnil)))⟩

set_option maxRecDepth 100000 in
set_option maxHeartbeats 0 in
theorem rin_walk (u0 : Int) (u1 : Int) (u2 : Int)  (Z : Fz) (w : World)  (hZ : Z.on w) {K : Bool → Prop} (hp : rin_vc u0 u1 u2 K) : Calls Tryd.prog 37 #[.int .i64 u0, .int .i64 u1, .int .i64 u2] w fun e w' => ∃ r : Bool, e = .returned (.bool r) ∧ K r ∧ Below w.heap.size w w' := by
 refine enter0 Tryd.func37 rfl rfl (by kernel_rfl) ?_; intro a0 hF0; have hM0 := Mem.start w Z hZ; have hle0 := Fz.le.refl Z
 refine sqH ?_; intro hQ1Q hQ1
 refine s1 hF0 6 (.bool false) ?_; intro a2 hF3; clear hF0
 refine nlH (hQ1 _ _ ?_); clear hQ1 hQ1Q
 refine sqH ?_; intro hQ4Q hQ4
 refine s1 hF3 7 (.int .i64 u0) ?_; intro a5 hF6; clear hF3
 refine s1 hF6 8 (.int .i64 u1) ?_; intro a7 hF8; clear hF6
 refine s1 hF8 9 (.bool (decide (u0 ≥ u1))) ?_; intro a9 hF10; clear hF8
 refine s1 hF10 10 (.bool (decide (u0 ≥ u1))) ?_; intro a11 hF12; clear hF10
 have hF13 := hF12.atom ((decide (u0 ≥ u1)) == true) (by kernel_rfl); clear hF12
 refine gp hF13 11 0 [] (decide (u0 ≥ u1)) (.int .i64 u0) rfl rfl ?_; intro a14 hF15; clear hF13
 refine gp hF15 12 0 [] (decide (u0 ≥ u1)) (.int .i64 u2) rfl rfl ?_; intro a16 hF17; clear hF15
 refine gp hF17 13 0 [] (decide (u0 ≥ u1)) (.bool (decide (u0 ≤ u2))) rfl rfl ?_; intro a18 hF19; clear hF17
 refine st hF19 (.bool ((decide (u0 ≥ u1)) && (decide (u0 ≤ u2)))) (nog rfl _) rfl (by kernel_rfl) (pk_and hF19 (g := []) (m := 0) (b := decide (u0 ≥ u1)) (v := decide (u0 ≤ u2)) rfl (by kernel_rfl) (by kernel_rfl) (by kernel_rfl) rfl) ?_; intro a20 hF21; clear hF19
 refine s1 hF21 6 (.bool ((decide (u0 ≥ u1)) && (decide (u0 ≤ u2)))) ?_; intro a22 hF23; clear hF21
 refine nlH (hQ4 _ _ ?_); clear hQ4 hQ4Q
 refine wp_ret ?_
 refine rt (fn := Tryd.f37) (v := .bool ((decide (u0 ≥ u1)) && (decide (u0 ≤ u2)))) hF23 (re1 hF23 (fn := Tryd.f37) rfl (by kernel_rfl)) ?_
 exact ⟨(decide (u0 ≥ u1)) && (decide (u0 ≤ u2)), rfl, hp, hM0.below⟩
theorem rin_fun (u0 : Int) (u1 : Int) (u2 : Int)  (Z : Fz) (w : World)  (hZ : Z.on w) : Calls Tryd.prog 37 #[.int .i64 u0, .int .i64 u1, .int .i64 u2] w fun e w' => e = .returned (.bool (rin u0 u1 u2)) ∧ Below w.heap.size w w' :=
  (rin_walk u0 u1 u2  Z w  hZ (rin_ok u0 u1 u2)).mono fun _ _ ⟨r, he, hk, hb⟩ => ⟨by subst hk; exact he, hb⟩

theorem trim_fun (u0 : List UInt8) (u1 : List UInt8) (hpre : u0.length ≤ 9223372036854775807 ∧ u1.length < 4294967281 ∧ u1.all (fun b => decide (b.toNat < 128)) = true) (Z : Fz) (w : World) (hZ : Z.on w) : Calls Tryd.prog 60 #[str u0, str u1] w fun e w' => e = .returned (str (trimS u0 u1)) ∧ Below w.heap.size w w' := by
  have h := Any.strings_Trim_laid Tryd.lays160 (by kernel_rfl) ⟨⟨u0⟩⟩ ⟨⟨u1⟩⟩ w (by show u0.length ≤ _; exact hpre.1) (by show u1.length < _; exact hpre.2.1) (ascii_of_all hpre.2.2)
  exact h

end Go.Proofs.YtdndfbamhnchfaaDoor
