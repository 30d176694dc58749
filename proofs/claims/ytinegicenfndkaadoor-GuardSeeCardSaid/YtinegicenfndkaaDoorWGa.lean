/- The walks, made by program: each call does what its pure predicate says. -/
import Derived.Test.YtinegicenfndkaaDoorPGa
import Derived.Test.YtinegicenfndkaaDoorWBl
set_option linter.unusedVariables false
set_option linter.unusedSimpArgs false
namespace Go.Proofs.YtinegicenfndkaaDoor
open Go.Sy Go.RowKit
set_option maxRecDepth 100000 in
set_option maxHeartbeats 0 in
theorem bclone_walk (u0 : List Int) (ao1 : Option Addr) (cap2 : Nat) (Z : Fz) (w : World) (hs3 : SlR (tyInt .u8) Z ao1 cap2 u0) (hZ : Z.on w) {K : (List Int) → Prop} (hp : bclone_vc u0 K) : Calls Tryd.prog 43 #[.slice ao1 u0.length cap2] w fun e w' => ∃ (r : (List Int)) (ao1001 : Option Addr) (cap1002 : Nat) (Z' : Fz), e = .returned (.slice ao1001 r.length cap1002) ∧ K r ∧ Mem w.heap.size [] w Z [.own (tyInt .u8) 5 ao1001 cap1002 r] Z' w' := by
 refine enter0 Tryd.func43 rfl rfl (by kernel_rfl) ?_; intro a0 hF0; have hM0 := Mem.start w Z hZ; have hle0 := Fz.le.refl Z
 have hp4 := hp (hs3.small); clear hp
 refine sqH ?_; intro hQ5Q hQ5
 refine s1 hF0 2 (.slice none 0 0) ?_; intro a6 hF7; clear hF0
 refine nlH (hQ5 _ _ ?_); clear hQ5 hQ5Q
 refine wp_seq ?_
 refine sqH ?_; intro hQ8Q hQ8
 refine s1 hF7 3 (.slice ao1 u0.length cap2) ?_; intro a9 hF10; clear hF7
 obtain ⟨nb11, hnb12⟩ : ∃ b, ao1.isNone = b := ⟨_, rfl⟩; have hp13 := hp4 nb11 (by rw [← hnb12]; exact hs3.isNone); clear hp4
 refine st hF10 (.bool nb11) (nog rfl _) rfl (by kernel_rfl) (re_ (r := .ok (.value (.bool ao1.isNone)) w) (by cases ao1 <;> exact p0 hF10 (by kernel_rfl)) (by rw [hnb12])) ?_; intro a14 hF15; clear hF10
 refine nlH (hQ8 _ _ ?_); clear hQ8 hQ8Q
 refine cd hF15 (t := nb11) (by kernel_rfl) (fun hb16 => ?_) (fun hb16 => ?_)
 · -- yes
  have hp17 := hp13.1 hb16; clear hp13
  refine sqH ?_; intro hQ18Q hQ18
  refine s1 hF15 2 (.slice none 0 0) ?_; intro a19 hF20; clear hF15
  refine nlH (hQ18 _ _ ?_); clear hQ18 hQ18Q
  refine wp_ret ?_
  refine thr ?_
  have hM21 : Mem w.heap.size [] w Z [.own (tyInt .u8) 5 none 0 ([] : List Int)] Z w := hM0.addNil (tyInt .u8) 5 (by decide); clear hM0
  refine rt (fn := Tryd.f43) (v := .slice none ([] : List Int).length 0) hF20 (re1 hF20 (fn := Tryd.f43) rfl (by kernel_rfl)) ?_
  exact ⟨([] : List Int), none, 0, Z, rfl, hp17, hM21.keep (List.Sublist.cons_cons _ (List.Sublist.slnil))⟩
 · -- no
  have hp22 := hp13.2 hb16; clear hp13
  refine wp_skip ?_
  refine thn ?_
  refine sqH ?_; intro hQ23Q hQ23
  refine sn hF15 hM0 (fun b => .slice (some ⟨b, 0, none⟩) 0 0) [] 5 (nog rfl _) rfl (by kernel_rfl) (by kernel_rfl) ?_; intro b24 a25 wd27 hF26 hM28; clear hF15 hM0
  refine s1 hF26 6 (.slice ao1 u0.length cap2) ?_; intro a29 hF30; clear hF26
  have hM31 : Mem w.heap.size [] w Z [.own (tyInt .u8) 5 (some ⟨b24, 0, none⟩) 0 ([] : List Int)] Z wd27 := hM28.rowOwn (T := (tyInt .u8)) (xs := ([] : List Int)) 0 rfl (by decide) (by show 0 ≤ lim; decide) (RepAll.nil _ _); clear hM28
  have hc32 := hp22.1; have hp33 := hp22.2; clear hp22
  refine ap hF30 hM31 0 (T := (tyInt .u8)) (xs := ([] : List Int)) (ys := u0) (ao := (some ⟨b24, 0, none⟩)) (cap := 0) (ao2 := ao1) (cap2 := cap2) (t := 32) (e := 5) (bytes := 1) (nog rfl _) rfl (by kernel_rfl) rfl (by kernel_rfl) (by kernel_rfl) (by kernel_rfl) rfl (Src.fz (by decide) hM31.fz hs3) hc32 ?_; intro ao34 cap35 a39 wd36 hnil37 hF40 hM38; clear hF30 hM31
  have hM41 : Mem w.heap.size [] w Z [.own (tyInt .u8) 5 ao34 cap35 (([] : List Int) ++ u0)] Z wd36 := hM38; clear hM38
  refine s1 hF40 2 (.slice ao34 (([] : List Int) ++ u0).length cap35) ?_; intro a42 hF43; clear hF40
  refine nlH (hQ23 _ _ ?_); clear hQ23 hQ23Q
  refine wp_ret ?_
  refine rt (fn := Tryd.f43) (v := .slice ao34 (([] : List Int) ++ u0).length cap35) hF43 (re1 hF43 (fn := Tryd.f43) rfl (by kernel_rfl)) ?_
  exact ⟨([] : List Int) ++ u0, ao34, cap35, Z, rfl, hp33, hM41.keep (List.Sublist.cons_cons _ (List.Sublist.slnil))⟩

set_option maxRecDepth 100000 in
set_option maxHeartbeats 0 in
theorem cbyte_walk (u0 : List Int) (ao1 : Option Addr) (cap2 : Nat) (Z : Fz) (w : World) (hs3 : SlR (tyInt .u8) Z ao1 cap2 u0) (hZ : Z.on w) {K : Int → Prop} (hp : cbyte_vc u0 K) : Calls Tryd.prog 111 #[.slice ao1 u0.length cap2] w fun e w' => ∃ r : Int, e = .returned (.int .u8 r) ∧ K r ∧ Below w.heap.size w w' := by
 refine enter0 Tryd.func111 rfl rfl (by kernel_rfl) ?_; intro a0 hF0; have hM0 := Mem.start w Z hZ; have hle0 := Fz.le.refl Z
 have hp4 := hp (hs3.small); clear hp
 refine sqH ?_; intro hQ5Q hQ5
 refine s1 hF0 2 (.int .u8 0) ?_; intro a6 hF7; clear hF0
 refine nlH (hQ5 _ _ ?_); clear hQ5 hQ5Q
 refine sqH ?_; intro hQ8Q hQ8
 refine s1 hF7 3 (.int .u8 255) ?_; intro a9 hF10; clear hF7
 refine nlH (hQ8 _ _ ?_); clear hQ8 hQ8Q
 refine wp_seq ?_
 refine sqH ?_; intro hQ11Q hQ11
 refine s1 hF10 6 (.slice ao1 u0.length cap2) ?_; intro a12 hF13; clear hF10
 refine s1 hF13 7 (.int .i64 (u0.length : Int)) ?_; intro a14 hF15; clear hF13
 refine s1 hF15 8 (.int .i64 0) ?_; intro a16 hF17; clear hF15
 refine nlH (hQ11 _ _ ?_); clear hQ11 hQ11Q
 refine wp_block ?_
 have hF18 : Fr 29 [] [⟨3, [], .int .u8 255⟩, ⟨6, [], .slice ao1 u0.length cap2⟩, ⟨7, [], .int .i64 (u0.length : Int)⟩, ⟨8, [], .int .i64 0⟩] a16 := hF17.region (by kernel_rfl) (by kernel_rfl); clear hF17
 have hF20 : Fr 29 [] [⟨3, [], .int .u8 255⟩, ⟨6, [], .slice ao1 u0.length cap2⟩, ⟨7, [], .int .i64 (u0.length : Int)⟩, ⟨8, [], .int .i64 0⟩] a16 := hF18.region (by kernel_rfl) (by kernel_rfl); clear hF18
 obtain ⟨inv19, mu19, hI23, hr22⟩ := hp4
 refine lp (ι := Int × Int) (fun (s : Int × Int) => [⟨3, [], .int .u8 s.1⟩, ⟨6, [], .slice ao1 u0.length cap2⟩, ⟨7, [], .int .i64 (u0.length : Int)⟩, ⟨8, [], .int .i64 s.2⟩]) (fun (s : Int × Int) => []) (fun (s : Int × Int) => Z) (fun (s : Int × Int) => inv19 s.1 s.2) (fun (s : Int × Int) => mu19 s.1 s.2) ⟨255, 0⟩ hI23 (by exact hF20.region (by kernel_rfl) (by kernel_rfl)) (by exact hM0) ?_
 rintro ⟨x3, x8⟩ hI21 a25 wd26 hF27 hM28
 have hF29 : Fr 29 [] [⟨3, [], .int .u8 x3⟩, ⟨6, [], .slice ao1 u0.length cap2⟩, ⟨7, [], .int .i64 (u0.length : Int)⟩, ⟨8, [], .int .i64 x8⟩] a25 := hF27; clear hF27 hF20
 have hM30 : Mem w.heap.size [] w Z [] Z wd26 := hM28; clear hM28 hM0
 have hp31 := hr22 x3 x8 hI21
 refine sqH ?_; intro hQ32Q hQ32
 refine s1 hF29 9 (.bool (decide (x8 < (u0.length : Int)))) ?_; intro a33 hF34; clear hF29
 refine nlH (hQ32 _ _ ?_); clear hQ32 hQ32Q
 refine wp_seq ?_
 refine cd hF34 (t := decide (x8 < (u0.length : Int))) (by kernel_rfl) (fun hb35 => ?_) (fun hb35 => ?_)
 · -- yes
  have hp36 := hp31.1 hb35; clear hp31
  refine wp_skip ?_
  refine thn ?_
  refine wp_seq ?_
  refine wp_block ?_
  refine sqH ?_; intro hQ37Q hQ37
  have hc38 := hp36.1; have hp39 := hp36.2; clear hp36
  refine ix hF34 (T := (tyInt .u8)) (xs := u0) hs3 x8 hc38 (k := .i64) (e := 5) (bytes := 1) (nog rfl _) rfl (by kernel_rfl) rfl (by kernel_rfl) (by kernel_rfl) (by kernel_rfl) ?_; intro b40 off41 cs42 q43 a47 hq44 hP45 hT46 hF48; clear hF34
  have hp49 := hp39 q43 hq44; clear hp39
  obtain rfl : cs42 = ([.int .u8 q43] : List Value) := hT46
  refine z1 hF48 hM30 11 hP45 0 (.int .u8 q43) rfl ?_; intro a50 hF51; clear hF48
  refine s1 hF51 5 (.int .u8 q43) ?_; intro a52 hF53; clear hF51
  refine nlH (hQ37 _ _ ?_); clear hQ37 hQ37Q
  refine sqH ?_; intro hQ54Q hQ54
  refine s1 hF53 12 (.int .u8 x3) ?_; intro a55 hF56; clear hF53
  refine s1 hF56 13 (.int .u8 q43) ?_; intro a57 hF58; clear hF56
  refine s1 hF58 14 (.int .u8 (bXor .u8 x3 q43)) ?_; intro a59 hF60; clear hF58
  refine s1 hF60 3 (.int .u8 (bXor .u8 x3 q43)) ?_; intro a61 hF62; clear hF60
  refine nlH (hQ54 _ _ ?_); clear hQ54 hQ54Q
  refine sqH ?_; intro hQ63Q hQ63
  refine s1 hF62 15 (.int .i64 0) ?_; intro a64 hF65; clear hF62
  refine nlH (hQ63 _ _ ?_); clear hQ63 hQ63Q
  refine wp_block ?_
  have hF66 : Fr 29 [] [⟨3, [], .int .u8 (bXor .u8 x3 q43)⟩, ⟨6, [], .slice ao1 u0.length cap2⟩, ⟨7, [], .int .i64 (u0.length : Int)⟩, ⟨8, [], .int .i64 x8⟩, ⟨15, [], .int .i64 0⟩] a64 := hF65.region (by kernel_rfl) (by kernel_rfl); clear hF65
  have hF68 : Fr 29 [] [⟨3, [], .int .u8 (bXor .u8 x3 q43)⟩, ⟨6, [], .slice ao1 u0.length cap2⟩, ⟨7, [], .int .i64 (u0.length : Int)⟩, ⟨8, [], .int .i64 x8⟩, ⟨15, [], .int .i64 0⟩] a64 := hF66.region (by kernel_rfl) (by kernel_rfl); clear hF66
  obtain ⟨inv67, mu67, hI71, hr70⟩ := hp49
  refine lp (ι := Int × Int) (fun (s : Int × Int) => [⟨3, [], .int .u8 s.1⟩, ⟨6, [], .slice ao1 u0.length cap2⟩, ⟨7, [], .int .i64 (u0.length : Int)⟩, ⟨8, [], .int .i64 x8⟩, ⟨15, [], .int .i64 s.2⟩]) (fun (s : Int × Int) => []) (fun (s : Int × Int) => Z) (fun (s : Int × Int) => inv67 s.1 s.2) (fun (s : Int × Int) => mu67 s.1 s.2) ⟨bXor .u8 x3 q43, 0⟩ hI71 (by exact hF68.region (by kernel_rfl) (by kernel_rfl)) (by exact hM30) ?_
  rintro ⟨x3v, x15⟩ hI69 a73 wd74 hF75 hM76
  have hF77 : Fr 29 [] [⟨3, [], .int .u8 x3v⟩, ⟨6, [], .slice ao1 u0.length cap2⟩, ⟨7, [], .int .i64 (u0.length : Int)⟩, ⟨8, [], .int .i64 x8⟩, ⟨15, [], .int .i64 x15⟩] a73 := hF75; clear hF75 hF68
  have hM78 : Mem w.heap.size [] w Z [] Z wd74 := hM76; clear hM76 hM30
  have hp79 := hr70 x3v x15 hI69
  refine sqH ?_; intro hQ80Q hQ80
  refine s1 hF77 16 (.bool (decide (x15 < 8))) ?_; intro a81 hF82; clear hF77
  refine nlH (hQ80 _ _ ?_); clear hQ80 hQ80Q
  refine wp_seq ?_
  refine cd hF82 (t := decide (x15 < 8)) (by kernel_rfl) (fun hb83 => ?_) (fun hb83 => ?_)
  · -- yes
   have hp84 := hp79.1 hb83; clear hp79
   refine wp_skip ?_
   refine thn ?_
   refine wp_seq ?_
   refine wp_block ?_
   refine sqH ?_; intro hQ85Q hQ85
   refine s1 hF82 17 (.int .u8 x3v) ?_; intro a86 hF87; clear hF82
   refine s1 hF87 18 (.int .u8 (bAnd .u8 x3v 128)) ?_; intro a88 hF89; clear hF87
   refine s1 hF89 19 (.bool ((bAnd .u8 x3v 128) != 0)) ?_; intro a90 hF91; clear hF89
   refine nlH (hQ85 _ _ ?_); clear hQ85 hQ85Q
   refine cd hF91 (t := (bAnd .u8 x3v 128) != 0) (by kernel_rfl) (fun hb92 => ?_) (fun hb92 => ?_)
   · -- yes
    have hp93 := hp84.1 hb92; clear hp84
    refine rgH ?_; intro hQ94Q hQ94
    refine s1 hF91 20 (.int .u8 x3v) ?_; intro a95 hF96; clear hF91
    refine s1 hF96 21 (.int .u8 (bShl .u8 x3v 1)) ?_; intro a97 hF98; clear hF96
    refine s1 hF98 22 (.int .u8 (bXor .u8 (bShl .u8 x3v 1) 47)) ?_; intro a99 hF100; clear hF98
    refine s1 hF100 3 (.int .u8 (bXor .u8 (bShl .u8 x3v 1) 47)) ?_; intro a101 hF102; clear hF100
    refine nlH (hQ94 _ _ ?_); clear hQ94 hQ94Q
    refine ibn ?_
    refine thn ?_
    refine rgH ?_; intro hQ103Q hQ103
    refine s1 hF102 25 (.int .i64 (w64 (x15 + 1))) ?_; intro a104 hF105; clear hF102
    refine s1 hF105 15 (.int .i64 (w64 (x15 + 1))) ?_; intro a106 hF107; clear hF105
    refine nlH (hQ103 _ _ ?_); clear hQ103 hQ103Q
    refine rd ?_
    exact ⟨⟨bXor .u8 (bShl .u8 x3v 1) 47, w64 (x15 + 1)⟩, hp93.1, hp93.2, (hF107.region (by kernel_rfl) (by kernel_rfl)).anyβ _ (by kernel_rfl), hM78.keep (List.Sublist.slnil)⟩
   · -- no
    have hp108 := hp84.2 hb92; clear hp84
    refine rgH ?_; intro hQ109Q hQ109
    refine s1 hF91 23 (.int .u8 x3v) ?_; intro a110 hF111; clear hF91
    refine s1 hF111 24 (.int .u8 (bShl .u8 x3v 1)) ?_; intro a112 hF113; clear hF111
    refine s1 hF113 3 (.int .u8 (bShl .u8 x3v 1)) ?_; intro a114 hF115; clear hF113
    refine nlH (hQ109 _ _ ?_); clear hQ109 hQ109Q
    refine ibn ?_
    refine thn ?_
    refine rgH ?_; intro hQ116Q hQ116
    refine s1 hF115 25 (.int .i64 (w64 (x15 + 1))) ?_; intro a117 hF118; clear hF115
    refine s1 hF118 15 (.int .i64 (w64 (x15 + 1))) ?_; intro a119 hF120; clear hF118
    refine nlH (hQ116 _ _ ?_); clear hQ116 hQ116Q
    refine rd ?_
    exact ⟨⟨bShl .u8 x3v 1, w64 (x15 + 1)⟩, hp108.1, hp108.2, (hF120.region (by kernel_rfl) (by kernel_rfl)).anyβ _ (by kernel_rfl), hM78.keep (List.Sublist.slnil)⟩
  · -- no
   have hp121 := hp79.2 hb83; clear hp79
   refine wp_exit ?_
   refine thx ?_
   refine thx ?_
   refine ibx ?_
   refine ibn ?_
   refine thn ?_
   refine rgH ?_; intro hQ122Q hQ122
   refine s1 hF82 26 (.int .i64 (w64 (x8 + 1))) ?_; intro a123 hF124; clear hF82
   refine s1 hF124 8 (.int .i64 (w64 (x8 + 1))) ?_; intro a125 hF126; clear hF124
   refine nlH (hQ122 _ _ ?_); clear hQ122 hQ122Q
   refine rd ?_
   exact ⟨⟨x3v, w64 (x8 + 1)⟩, hp121.1, hp121.2, (hF126.region (by kernel_rfl) (by kernel_rfl)).anyβ _ (by kernel_rfl), hM78.keep (List.Sublist.slnil)⟩
 · -- no
  have hp127 := hp31.2 hb35; clear hp31
  refine wp_exit ?_
  refine thx ?_
  refine thx ?_
  refine ibx ?_
  refine thn ?_
  refine sqH ?_; intro hQ128Q hQ128
  refine s1 hF34 27 (.int .u8 x3) ?_; intro a129 hF130; clear hF34
  refine s1 hF130 28 (.int .u8 (bXor .u8 x3 255)) ?_; intro a131 hF132; clear hF130
  refine s1 hF132 2 (.int .u8 (bXor .u8 x3 255)) ?_; intro a133 hF134; clear hF132
  refine nlH (hQ128 _ _ ?_); clear hQ128 hQ128Q
  refine wp_ret ?_
  refine rt (fn := Tryd.f111) (v := .int .u8 (bXor .u8 x3 255)) hF134 (re1 hF134 (fn := Tryd.f111) rfl (by kernel_rfl)) ?_
  exact ⟨bXor .u8 x3 255, rfl, hp127, hM30.below⟩

set_option maxRecDepth 100000 in
set_option maxHeartbeats 0 in
theorem gcheck_walk (u0 : Guard)  (Z : Fz) (w : World)  (hZ : Z.on w) {K : Int → Prop} (hp : gcheck_vc u0 K) : Calls Tryd.prog 41 #[.agg #[.int .i64 u0.Key, .int .i64 u0.Last, .int .i64 u0.Bad, .int .i64 u0.State]] w fun e w' => ∃ r : Int, e = .returned (.int .i64 r) ∧ K r ∧ Below w.heap.size w w' := by
 refine enter0 Tryd.func41 rfl rfl (by kernel_rfl) ?_; intro a0 hF0; have hM0 := Mem.start w Z hZ; have hle0 := Fz.le.refl Z
 refine sqH ?_; intro hQ1Q hQ1
 refine sn hF0 hM0 (fun b => .pointer (some ⟨b, 0, none⟩)) [.int .i64 u0.Key, .int .i64 u0.Last, .int .i64 u0.Bad, .int .i64 u0.State] 62 (nog rfl _) rfl (by kernel_rfl) (by kernel_rfl) ?_; intro b2 a3 wd5 hF4 hM6; clear hF0 hM0
 refine s1 hF4 2 (.int .i64 0) ?_; intro a7 hF8; clear hF4
 refine nlH (hQ1 _ _ ?_); clear hQ1 hQ1Q
 refine wp_seq ?_
 refine sqH ?_; intro hQ9Q hQ9
 refine s1 hF8 3 (.pointer (some ⟨b2, 0, none⟩)) ?_; intro a10 hF11; clear hF8
 refine l1 hF11 hM6 4 0 0 (.int .i64 u0.Key) rfl rfl ?_; intro a12 hF13; clear hF11
 refine s1 hF13 5 (.bool (decide (u0.Key < 0))) ?_; intro a14 hF15; clear hF13
 refine s1 hF15 6 (.bool (decide (u0.Key < 0))) ?_; intro a16 hF17; clear hF15
 have hF18 := hF17.atom ((decide (u0.Key < 0)) == false) (by kernel_rfl); clear hF17
 refine gp hF18 7 0 [] (decide (u0.Key < 0)) (.pointer (some ⟨b2, 0, none⟩)) rfl rfl ?_; intro a19 hF20; clear hF18
 refine gd hF20 (.int .i64 u0.Key) (m := 0) (cj := []) (bj := decide (u0.Key < 0)) rfl rfl (by kernel_rfl) rfl (by kernel_rfl) (by kernel_rfl) (by kernel_rfl) (fun hg => ld hF20 hM6 0 (g := [0]) (b := b2) (off := 0) (cs := [.int .i64 u0.Key, .int .i64 u0.Last, .int .i64 u0.Bad, .int .i64 u0.State]) (ty := 62) rfl (by kernel_rfl) (by kernel_rfl) (by kernel_rfl) (by kernel_rfl) hg) ?_; intro a21 hF22; clear hF20
 refine gp hF22 9 0 [] (decide (u0.Key < 0)) (.bool (decide (u0.Key > 65535))) rfl rfl ?_; intro a23 hF24; clear hF22
 refine st hF24 (.bool ((decide (u0.Key < 0)) || (decide (u0.Key > 65535)))) (nog rfl _) rfl (by kernel_rfl) (pk_or hF24 (g := []) (m := 0) (b := decide (u0.Key < 0)) (v := decide (u0.Key > 65535)) rfl (by kernel_rfl) (by kernel_rfl) (by kernel_rfl) rfl) ?_; intro a25 hF26; clear hF24
 refine s1 hF26 11 (.bool ((decide (u0.Key < 0)) || (decide (u0.Key > 65535)))) ?_; intro a27 hF28; clear hF26
 have hF29 := hF28.atom (((decide (u0.Key < 0)) || (decide (u0.Key > 65535))) == false) (by kernel_rfl); clear hF28
 refine gp hF29 12 1 [] ((decide (u0.Key < 0)) || (decide (u0.Key > 65535))) (.pointer (some ⟨b2, 1, none⟩)) rfl rfl ?_; intro a30 hF31; clear hF29
 refine gd hF31 (.int .i64 u0.Last) (m := 1) (cj := []) (bj := (decide (u0.Key < 0)) || (decide (u0.Key > 65535))) rfl rfl (by kernel_rfl) rfl (by kernel_rfl) (by kernel_rfl) (by kernel_rfl) (fun hg => ld hF31 hM6 0 (g := [1]) (b := b2) (off := 1) (cs := [.int .i64 u0.Key, .int .i64 u0.Last, .int .i64 u0.Bad, .int .i64 u0.State]) (ty := 62) rfl (by kernel_rfl) (by kernel_rfl) (by kernel_rfl) (by kernel_rfl) hg) ?_; intro a32 hF33; clear hF31
 refine gp hF33 14 1 [] ((decide (u0.Key < 0)) || (decide (u0.Key > 65535))) (.bool (decide (u0.Last < (-1)))) rfl rfl ?_; intro a34 hF35; clear hF33
 refine st hF35 (.bool (((decide (u0.Key < 0)) || (decide (u0.Key > 65535))) || (decide (u0.Last < (-1))))) (nog rfl _) rfl (by kernel_rfl) (pk_or hF35 (g := []) (m := 1) (b := (decide (u0.Key < 0)) || (decide (u0.Key > 65535))) (v := decide (u0.Last < (-1))) rfl (by kernel_rfl) (by kernel_rfl) (by kernel_rfl) rfl) ?_; intro a36 hF37; clear hF35
 refine s1 hF37 16 (.bool (((decide (u0.Key < 0)) || (decide (u0.Key > 65535))) || (decide (u0.Last < (-1))))) ?_; intro a38 hF39; clear hF37
 have hF40 := hF39.atom ((((decide (u0.Key < 0)) || (decide (u0.Key > 65535))) || (decide (u0.Last < (-1)))) == false) (by kernel_rfl); clear hF39
 refine gp hF40 17 2 [] (((decide (u0.Key < 0)) || (decide (u0.Key > 65535))) || (decide (u0.Last < (-1)))) (.pointer (some ⟨b2, 1, none⟩)) rfl rfl ?_; intro a41 hF42; clear hF40
 refine gd hF42 (.int .i64 u0.Last) (m := 2) (cj := []) (bj := ((decide (u0.Key < 0)) || (decide (u0.Key > 65535))) || (decide (u0.Last < (-1)))) rfl rfl (by kernel_rfl) rfl (by kernel_rfl) (by kernel_rfl) (by kernel_rfl) (fun hg => ld hF42 hM6 0 (g := [2]) (b := b2) (off := 1) (cs := [.int .i64 u0.Key, .int .i64 u0.Last, .int .i64 u0.Bad, .int .i64 u0.State]) (ty := 62) rfl (by kernel_rfl) (by kernel_rfl) (by kernel_rfl) (by kernel_rfl) hg) ?_; intro a43 hF44; clear hF42
 refine gp hF44 19 2 [] (((decide (u0.Key < 0)) || (decide (u0.Key > 65535))) || (decide (u0.Last < (-1)))) (.bool (decide (u0.Last ≥ 15))) rfl rfl ?_; intro a45 hF46; clear hF44
 refine st hF46 (.bool ((((decide (u0.Key < 0)) || (decide (u0.Key > 65535))) || (decide (u0.Last < (-1)))) || (decide (u0.Last ≥ 15)))) (nog rfl _) rfl (by kernel_rfl) (pk_or hF46 (g := []) (m := 2) (b := ((decide (u0.Key < 0)) || (decide (u0.Key > 65535))) || (decide (u0.Last < (-1)))) (v := decide (u0.Last ≥ 15)) rfl (by kernel_rfl) (by kernel_rfl) (by kernel_rfl) rfl) ?_; intro a47 hF48; clear hF46
 refine s1 hF48 21 (.bool ((((decide (u0.Key < 0)) || (decide (u0.Key > 65535))) || (decide (u0.Last < (-1)))) || (decide (u0.Last ≥ 15)))) ?_; intro a49 hF50; clear hF48
 have hF51 := hF50.atom (((((decide (u0.Key < 0)) || (decide (u0.Key > 65535))) || (decide (u0.Last < (-1)))) || (decide (u0.Last ≥ 15))) == false) (by kernel_rfl); clear hF50
 refine gp hF51 22 3 [] ((((decide (u0.Key < 0)) || (decide (u0.Key > 65535))) || (decide (u0.Last < (-1)))) || (decide (u0.Last ≥ 15))) (.pointer (some ⟨b2, 2, none⟩)) rfl rfl ?_; intro a52 hF53; clear hF51
 refine gd hF53 (.int .i64 u0.Bad) (m := 3) (cj := []) (bj := (((decide (u0.Key < 0)) || (decide (u0.Key > 65535))) || (decide (u0.Last < (-1)))) || (decide (u0.Last ≥ 15))) rfl rfl (by kernel_rfl) rfl (by kernel_rfl) (by kernel_rfl) (by kernel_rfl) (fun hg => ld hF53 hM6 0 (g := [3]) (b := b2) (off := 2) (cs := [.int .i64 u0.Key, .int .i64 u0.Last, .int .i64 u0.Bad, .int .i64 u0.State]) (ty := 62) rfl (by kernel_rfl) (by kernel_rfl) (by kernel_rfl) (by kernel_rfl) hg) ?_; intro a54 hF55; clear hF53
 refine gp hF55 24 3 [] ((((decide (u0.Key < 0)) || (decide (u0.Key > 65535))) || (decide (u0.Last < (-1)))) || (decide (u0.Last ≥ 15))) (.bool (decide (u0.Bad < 0))) rfl rfl ?_; intro a56 hF57; clear hF55
 refine st hF57 (.bool (((((decide (u0.Key < 0)) || (decide (u0.Key > 65535))) || (decide (u0.Last < (-1)))) || (decide (u0.Last ≥ 15))) || (decide (u0.Bad < 0)))) (nog rfl _) rfl (by kernel_rfl) (pk_or hF57 (g := []) (m := 3) (b := (((decide (u0.Key < 0)) || (decide (u0.Key > 65535))) || (decide (u0.Last < (-1)))) || (decide (u0.Last ≥ 15))) (v := decide (u0.Bad < 0)) rfl (by kernel_rfl) (by kernel_rfl) (by kernel_rfl) rfl) ?_; intro a58 hF59; clear hF57
 refine s1 hF59 26 (.bool (((((decide (u0.Key < 0)) || (decide (u0.Key > 65535))) || (decide (u0.Last < (-1)))) || (decide (u0.Last ≥ 15))) || (decide (u0.Bad < 0)))) ?_; intro a60 hF61; clear hF59
 have hF62 := hF61.atom ((((((decide (u0.Key < 0)) || (decide (u0.Key > 65535))) || (decide (u0.Last < (-1)))) || (decide (u0.Last ≥ 15))) || (decide (u0.Bad < 0))) == false) (by kernel_rfl); clear hF61
 refine gp hF62 27 4 [] (((((decide (u0.Key < 0)) || (decide (u0.Key > 65535))) || (decide (u0.Last < (-1)))) || (decide (u0.Last ≥ 15))) || (decide (u0.Bad < 0))) (.pointer (some ⟨b2, 3, none⟩)) rfl rfl ?_; intro a63 hF64; clear hF62
 refine gd hF64 (.int .i64 u0.State) (m := 4) (cj := []) (bj := ((((decide (u0.Key < 0)) || (decide (u0.Key > 65535))) || (decide (u0.Last < (-1)))) || (decide (u0.Last ≥ 15))) || (decide (u0.Bad < 0))) rfl rfl (by kernel_rfl) rfl (by kernel_rfl) (by kernel_rfl) (by kernel_rfl) (fun hg => ld hF64 hM6 0 (g := [4]) (b := b2) (off := 3) (cs := [.int .i64 u0.Key, .int .i64 u0.Last, .int .i64 u0.Bad, .int .i64 u0.State]) (ty := 62) rfl (by kernel_rfl) (by kernel_rfl) (by kernel_rfl) (by kernel_rfl) hg) ?_; intro a65 hF66; clear hF64
 refine gp hF66 29 4 [] (((((decide (u0.Key < 0)) || (decide (u0.Key > 65535))) || (decide (u0.Last < (-1)))) || (decide (u0.Last ≥ 15))) || (decide (u0.Bad < 0))) (.bool (decide (u0.State < 0))) rfl rfl ?_; intro a67 hF68; clear hF66
 refine st hF68 (.bool ((((((decide (u0.Key < 0)) || (decide (u0.Key > 65535))) || (decide (u0.Last < (-1)))) || (decide (u0.Last ≥ 15))) || (decide (u0.Bad < 0))) || (decide (u0.State < 0)))) (nog rfl _) rfl (by kernel_rfl) (pk_or hF68 (g := []) (m := 4) (b := ((((decide (u0.Key < 0)) || (decide (u0.Key > 65535))) || (decide (u0.Last < (-1)))) || (decide (u0.Last ≥ 15))) || (decide (u0.Bad < 0))) (v := decide (u0.State < 0)) rfl (by kernel_rfl) (by kernel_rfl) (by kernel_rfl) rfl) ?_; intro a69 hF70; clear hF68
 refine s1 hF70 31 (.bool ((((((decide (u0.Key < 0)) || (decide (u0.Key > 65535))) || (decide (u0.Last < (-1)))) || (decide (u0.Last ≥ 15))) || (decide (u0.Bad < 0))) || (decide (u0.State < 0)))) ?_; intro a71 hF72; clear hF70
 have hF73 := hF72.atom (((((((decide (u0.Key < 0)) || (decide (u0.Key > 65535))) || (decide (u0.Last < (-1)))) || (decide (u0.Last ≥ 15))) || (decide (u0.Bad < 0))) || (decide (u0.State < 0))) == false) (by kernel_rfl); clear hF72
 refine gp hF73 32 5 [] ((((((decide (u0.Key < 0)) || (decide (u0.Key > 65535))) || (decide (u0.Last < (-1)))) || (decide (u0.Last ≥ 15))) || (decide (u0.Bad < 0))) || (decide (u0.State < 0))) (.pointer (some ⟨b2, 3, none⟩)) rfl rfl ?_; intro a74 hF75; clear hF73
 refine gd hF75 (.int .i64 u0.State) (m := 5) (cj := []) (bj := (((((decide (u0.Key < 0)) || (decide (u0.Key > 65535))) || (decide (u0.Last < (-1)))) || (decide (u0.Last ≥ 15))) || (decide (u0.Bad < 0))) || (decide (u0.State < 0))) rfl rfl (by kernel_rfl) rfl (by kernel_rfl) (by kernel_rfl) (by kernel_rfl) (fun hg => ld hF75 hM6 0 (g := [5]) (b := b2) (off := 3) (cs := [.int .i64 u0.Key, .int .i64 u0.Last, .int .i64 u0.Bad, .int .i64 u0.State]) (ty := 62) rfl (by kernel_rfl) (by kernel_rfl) (by kernel_rfl) (by kernel_rfl) hg) ?_; intro a76 hF77; clear hF75
 refine gp hF77 34 5 [] ((((((decide (u0.Key < 0)) || (decide (u0.Key > 65535))) || (decide (u0.Last < (-1)))) || (decide (u0.Last ≥ 15))) || (decide (u0.Bad < 0))) || (decide (u0.State < 0))) (.bool (decide (u0.State > 4))) rfl rfl ?_; intro a78 hF79; clear hF77
 refine st hF79 (.bool (((((((decide (u0.Key < 0)) || (decide (u0.Key > 65535))) || (decide (u0.Last < (-1)))) || (decide (u0.Last ≥ 15))) || (decide (u0.Bad < 0))) || (decide (u0.State < 0))) || (decide (u0.State > 4)))) (nog rfl _) rfl (by kernel_rfl) (pk_or hF79 (g := []) (m := 5) (b := (((((decide (u0.Key < 0)) || (decide (u0.Key > 65535))) || (decide (u0.Last < (-1)))) || (decide (u0.Last ≥ 15))) || (decide (u0.Bad < 0))) || (decide (u0.State < 0))) (v := decide (u0.State > 4)) rfl (by kernel_rfl) (by kernel_rfl) (by kernel_rfl) rfl) ?_; intro a80 hF81; clear hF79
 refine nlH (hQ9 _ _ ?_); clear hQ9 hQ9Q
 refine cd hF81 (t := ((((((decide (u0.Key < 0)) || (decide (u0.Key > 65535))) || (decide (u0.Last < (-1)))) || (decide (u0.Last ≥ 15))) || (decide (u0.Bad < 0))) || (decide (u0.State < 0))) || (decide (u0.State > 4))) (by kernel_rfl) (fun hb82 => ?_) (fun hb82 => ?_)
 · -- yes
  have hp83 := hp.1 hb82; clear hp
  have hF84 : Fr 36 [] [] a80 := hF81.region (by kernel_rfl) (by kernel_rfl); clear hF81
  refine sqH ?_; intro hQ85Q hQ85
  refine s1 hF84 2 (.int .i64 3) ?_; intro a86 hF87; clear hF84
  refine nlH (hQ85 _ _ ?_); clear hQ85 hQ85Q
  refine wp_ret ?_
  refine thr ?_
  refine rt (fn := Tryd.f41) (v := .int .i64 3) hF87 (re1 hF87 (fn := Tryd.f41) rfl (by kernel_rfl)) ?_
  exact ⟨3, rfl, hp83, hM6.below⟩
 · -- no
  have hp88 := hp.2 hb82; clear hp
  refine wp_skip ?_
  refine thn ?_
  have hF89 : Fr 36 [] [] a80 := hF81.region (by kernel_rfl) (by kernel_rfl); clear hF81
  refine sqH ?_; intro hQ90Q hQ90
  refine s1 hF89 2 (.int .i64 0) ?_; intro a91 hF92; clear hF89
  refine nlH (hQ90 _ _ ?_); clear hQ90 hQ90Q
  refine wp_ret ?_
  refine rt (fn := Tryd.f41) (v := .int .i64 0) hF92 (re1 hF92 (fn := Tryd.f41) rfl (by kernel_rfl)) ?_
  exact ⟨0, rfl, hp88, hM6.below⟩
theorem gcheck_fun (u0 : Guard)  (Z : Fz) (w : World)  (hZ : Z.on w) : Calls Tryd.prog 41 #[.agg #[.int .i64 u0.Key, .int .i64 u0.Last, .int .i64 u0.Bad, .int .i64 u0.State]] w fun e w' => e = .returned (.int .i64 (gcheck u0)) ∧ Below w.heap.size w w' :=
  (gcheck_walk u0  Z w  hZ (gcheck_ok u0)).mono fun _ _ ⟨r, he, hk, hb⟩ => ⟨by subst hk; exact he, hb⟩

end Go.Proofs.YtinegicenfndkaaDoor
