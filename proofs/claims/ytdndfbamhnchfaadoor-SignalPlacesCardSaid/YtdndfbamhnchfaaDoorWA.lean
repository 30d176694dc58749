/- The walks, made by program: each call does what its pure predicate says. -/
import Derived.Test.YtdndfbamhnchfaaDoorPA
import Derived.Test.YtdndfbamhnchfaaDoorWZ
set_option linter.unusedVariables false
set_option linter.unusedSimpArgs false
namespace Go.Proofs.YtdndfbamhnchfaaDoor
open Go.Sy Go.RowKit
theorem irev_fun (u0 : List Int) (ao1 : Option Addr) (cap2 : Nat) (B : Nat) (w0 : World) (Z0 : Fz) (Rr : List Res) (Z : Fz) (w : World) (hM0 : Mem B [] w0 Z0 ((.own (tyInt .i64) 3 ao1 cap2 u0) :: Rr) Z w) (hZ : Z.on w) : Calls Tryd.prog 90 #[.slice ao1 u0.length cap2] w fun e w' => ∃ (Z' : Fz), e = .returned (.tuple #[]) ∧ Fz.le Z Z' ∧ ((irevS u0).length = u0.length) ∧ Mem B [] w0 Z0 ((.own (tyInt .i64) 3 ao1 cap2 (irevS u0)) :: Rr) Z' w' :=
  (irev_walk u0 ao1 cap2 B w0 Z0 Rr Z w hM0 hZ (irev_ok u0)).mono fun _ _ ⟨r, h0, he, hk, f0, f1, hm⟩ => by subst hk; exact ⟨h0, he, f0, f1, hm⟩

theorem sgcd_fun (u0 : Int) (u1 : Int) (hpre : (-4611686018427387904 ≤ u0 ∧ u0 ≤ 4611686018427387904) ∧ -4611686018427387904 ≤ u1 ∧ u1 ≤ 4611686018427387904)  (Z : Fz) (w : World)  (hZ : Z.on w) : Calls Tryd.prog 45 #[.int .i64 u0, .int .i64 u1] w fun e w' => e = .returned (.int .i64 (ngcd u0 u1)) ∧ Below w.heap.size w w' :=
  (sgcd_walk u0 u1  Z w  hZ (sgcd_ok u0 u1 hpre)).mono fun _ _ ⟨r, he, hk, hb⟩ => ⟨by subst hk; exact he, hb⟩

theorem sbounds_fun (u0 : Signal) (hpre : 1 ≤ u0.Size ∧ u0.Size ≤ 40)  (Z : Fz) (w : World)  (hZ : Z.on w) : Calls Tryd.prog 46 #[.agg #[str u0.Name, .int .i64 u0.Start, .int .i64 u0.Size, .bool u0.Back, .bool u0.Signed, .int .i64 u0.Mul, .int .i64 u0.Div, .int .i64 u0.Add, .int .i64 u0.Key]] w fun e w' => e = .returned (.tuple #[.int .i64 ((boundsS u0).1), .int .i64 ((boundsS u0).2)]) ∧ Below w.heap.size w w' :=
  (sbounds_walk u0  Z w  hZ (sbounds_ok u0 hpre)).mono fun _ _ ⟨r, he, hk, hb⟩ => ⟨by subst hk; exact he, hb⟩

theorem sname_fun (u0 : List UInt8)  (Z : Fz) (w : World)  (hZ : Z.on w) : Calls Tryd.prog 20 #[str u0] w fun e w' => e = .returned (.bool (nameS u0)) ∧ Below w.heap.size w w' :=
  (sname_walk u0  Z w  hZ (sname_ok u0)).mono fun _ _ ⟨r, he, hk, hb⟩ => ⟨by subst hk; exact he, hb⟩

theorem imax_fun (u0 : List Int) (hpre : 0 < u0.length) (ao1 : Option Addr) (cap2 : Nat) (Z : Fz) (w : World) (hs3 : SlR (tyInt .i64) Z ao1 cap2 u0) (hZ : Z.on w) : Calls Tryd.prog 58 #[.slice ao1 u0.length cap2] w fun e w' => e = .returned (.int .i64 (maxL u0)) ∧ Below w.heap.size w w' :=
  (imax_walk u0 ao1 cap2 Z w hs3 hZ (imax_ok u0 hpre)).mono fun _ _ ⟨r, he, hk, hb⟩ => ⟨by subst hk; exact he, hb⟩

theorem imin_fun (u0 : List Int) (hpre : 0 < u0.length) (ao1 : Option Addr) (cap2 : Nat) (Z : Fz) (w : World) (hs3 : SlR (tyInt .i64) Z ao1 cap2 u0) (hZ : Z.on w) : Calls Tryd.prog 59 #[.slice ao1 u0.length cap2] w fun e w' => e = .returned (.int .i64 (minL u0)) ∧ Below w.heap.size w w' :=
  (imin_walk u0 ao1 cap2 Z w hs3 hZ (imin_ok u0 hpre)).mono fun _ _ ⟨r, he, hk, hb⟩ => ⟨by subst hk; exact he, hb⟩

theorem bclone_fun (u0 : List Int) (hpre : u0.length ≤ 140737488355328) (ao1 : Option Addr) (cap2 : Nat) (Z : Fz) (w : World) (hs3 : SlR (tyInt .u8) Z ao1 cap2 u0) (hZ : Z.on w) : Calls Tryd.prog 12 #[.slice ao1 u0.length cap2] w fun e w' => ∃ (ao1001 : Option Addr) (cap1002 : Nat) (Z' : Fz), e = .returned (.slice ao1001 (bcloneS u0).length cap1002) ∧ Mem w.heap.size [] w Z [.own (tyInt .u8) 5 ao1001 cap1002 (bcloneS u0)] Z' w' :=
  (bclone_walk u0 ao1 cap2 Z w hs3 hZ (bclone_ok u0 hpre)).mono fun _ _ ⟨r, h0, h1, h2, he, hk, hm⟩ => by subst hk; exact ⟨h0, h1, h2, he, hm⟩

theorem beq_fun (u0 : List Int) (u1 : List Int) (ao1 : Option Addr) (cap2 : Nat) (ao4 : Option Addr) (cap5 : Nat) (Z : Fz) (w : World) (hs3 : SlR (tyInt .u8) Z ao1 cap2 u0) (hs6 : SlR (tyInt .u8) Z ao4 cap5 u1) (hZ : Z.on w) : Calls Tryd.prog 15 #[.slice ao1 u0.length cap2, .slice ao4 u1.length cap5] w fun e w' => e = .returned (.bool (beqS u0 u1)) ∧ Below w.heap.size w w' :=
  (beq_walk u0 u1 ao1 cap2 ao4 cap5 Z w hs3 hs6 hZ (beq_ok u0 u1)).mono fun _ _ ⟨r, he, hk, hb⟩ => ⟨by subst hk; exact he, hb⟩

set_option maxRecDepth 100000 in
set_option maxHeartbeats 0 in
theorem splaces_walk (u0 : Signal)  (Z : Fz) (w : World)  (hZ : Z.on w) {K : (List Int) → Prop} (hp : splaces_vc u0 K) : Calls Tryd.prog 57 #[.agg #[str u0.Name, .int .i64 u0.Start, .int .i64 u0.Size, .bool u0.Back, .bool u0.Signed, .int .i64 u0.Mul, .int .i64 u0.Div, .int .i64 u0.Add, .int .i64 u0.Key]] w fun e w' => ∃ (r : (List Int)) (ao1001 : Option Addr) (cap1002 : Nat) (Z' : Fz), e = .returned (.slice ao1001 r.length cap1002) ∧ K r ∧ Mem w.heap.size [] w Z [.own (tyInt .i64) 3 ao1001 cap1002 r] Z' w' := by
 refine enter0 Tryd.func57 rfl rfl (by kernel_rfl) ?_; intro a0 hF0; have hM0 := Mem.start w Z hZ; have hle0 := Fz.le.refl Z
 refine sqH ?_; intro hQ1Q hQ1
 refine sn hF0 hM0 (fun b => .pointer (some ⟨b, 0, none⟩)) [str u0.Name, .int .i64 u0.Start, .int .i64 u0.Size, .bool u0.Back, .bool u0.Signed, .int .i64 u0.Mul, .int .i64 u0.Div, .int .i64 u0.Add, .int .i64 u0.Key] 23 (nog rfl _) rfl (by kernel_rfl) (by kernel_rfl) ?_; intro b2 a3 wd5 hF4 hM6; clear hF0 hM0
 refine s1 hF4 2 (.slice none 0 0) ?_; intro a7 hF8; clear hF4
 refine nlH (hQ1 _ _ ?_); clear hQ1 hQ1Q
 refine sqH ?_; intro hQ9Q hQ9
 refine s1 hF8 3 (.slice none 0 0) ?_; intro a10 hF11; clear hF8
 refine nlH (hQ9 _ _ ?_); clear hQ9 hQ9Q
 refine sqH ?_; intro hQ12Q hQ12
 refine s1 hF11 5 (.pointer (some ⟨b2, 1, none⟩)) ?_; intro a13 hF14; clear hF11
 refine l1 hF14 hM6 6 0 1 (.int .i64 u0.Start) rfl rfl ?_; intro a15 hF16; clear hF14
 refine s1 hF16 4 (.int .i64 u0.Start) ?_; intro a17 hF18; clear hF16
 refine nlH (hQ12 _ _ ?_); clear hQ12 hQ12Q
 refine wp_seq ?_
 refine sqH ?_; intro hQ19Q hQ19
 refine s1 hF18 7 (.pointer (some ⟨b2, 2, none⟩)) ?_; intro a20 hF21; clear hF18
 refine l1 hF21 hM6 8 0 2 (.int .i64 u0.Size) rfl rfl ?_; intro a22 hF23; clear hF21
 refine s1 hF23 9 (.int .i64 0) ?_; intro a24 hF25; clear hF23
 refine nlH (hQ19 _ _ ?_); clear hQ19 hQ19Q
 refine wp_block ?_
 have hF26 : Fr 35 [] [⟨1, [], .pointer (some ⟨b2, 0, none⟩)⟩, ⟨3, [], .slice none 0 0⟩, ⟨4, [], .int .i64 u0.Start⟩, ⟨8, [], .int .i64 u0.Size⟩, ⟨9, [], .int .i64 0⟩] a24 := hF25.region (by kernel_rfl) (by kernel_rfl); clear hF25
 have hM28 : Mem w.heap.size [] w Z [.own (tyInt .i64) 3 none 0 ([] : List Int), .row b2 [str u0.Name, .int .i64 u0.Start, .int .i64 u0.Size, .bool u0.Back, .bool u0.Signed, .int .i64 u0.Mul, .int .i64 u0.Div, .int .i64 u0.Add, .int .i64 u0.Key] 23] Z wd5 := hM6.addNil (tyInt .i64) 3 (by decide); clear hM6
 have hF29 : Fr 35 [] [⟨1, [], .pointer (some ⟨b2, 0, none⟩)⟩, ⟨3, [], .slice none ([] : List Int).length 0⟩, ⟨4, [], .int .i64 u0.Start⟩, ⟨8, [], .int .i64 u0.Size⟩, ⟨9, [], .int .i64 0⟩] a24 := hF26.region (by kernel_rfl) (by kernel_rfl); clear hF26
 obtain ⟨inv27, mu27, hI32, hr31⟩ := hp
 refine lp (ι := (List Int) × Int × Int × (Option Addr) × Nat) (fun (s : (List Int) × Int × Int × (Option Addr) × Nat) => [⟨1, [], .pointer (some ⟨b2, 0, none⟩)⟩, ⟨3, [], .slice s.2.2.2.1 s.1.length s.2.2.2.2⟩, ⟨4, [], .int .i64 s.2.1⟩, ⟨8, [], .int .i64 u0.Size⟩, ⟨9, [], .int .i64 s.2.2.1⟩]) (fun (s : (List Int) × Int × Int × (Option Addr) × Nat) => [.own (tyInt .i64) 3 s.2.2.2.1 s.2.2.2.2 s.1, .row b2 [str u0.Name, .int .i64 u0.Start, .int .i64 u0.Size, .bool u0.Back, .bool u0.Signed, .int .i64 u0.Mul, .int .i64 u0.Div, .int .i64 u0.Add, .int .i64 u0.Key] 23]) (fun (s : (List Int) × Int × Int × (Option Addr) × Nat) => Z) (fun (s : (List Int) × Int × Int × (Option Addr) × Nat) => inv27 s.1 s.2.1 s.2.2.1) (fun (s : (List Int) × Int × Int × (Option Addr) × Nat) => mu27 s.1 s.2.1 s.2.2.1) ⟨([] : List Int), u0.Start, 0, none, 0⟩ hI32 (by exact hF29.region (by kernel_rfl) (by kernel_rfl)) (by exact hM28) ?_
 rintro ⟨x3, x4, x9, aox3, capx3⟩ hI30 a34 wd35 hF36 hM37
 have hF38 : Fr 35 [] [⟨1, [], .pointer (some ⟨b2, 0, none⟩)⟩, ⟨3, [], .slice aox3 x3.length capx3⟩, ⟨4, [], .int .i64 x4⟩, ⟨8, [], .int .i64 u0.Size⟩, ⟨9, [], .int .i64 x9⟩] a34 := hF36; clear hF36 hF29
 have hM39 : Mem w.heap.size [] w Z [.own (tyInt .i64) 3 aox3 capx3 x3, .row b2 [str u0.Name, .int .i64 u0.Start, .int .i64 u0.Size, .bool u0.Back, .bool u0.Signed, .int .i64 u0.Mul, .int .i64 u0.Div, .int .i64 u0.Add, .int .i64 u0.Key] 23] Z wd35 := hM37; clear hM37 hM28
 have hp40 := hr31 x3 x4 x9 hI30
 refine sqH ?_; intro hQ41Q hQ41
 refine s1 hF38 10 (.bool (decide (x9 < u0.Size))) ?_; intro a42 hF43; clear hF38
 refine nlH (hQ41 _ _ ?_); clear hQ41 hQ41Q
 refine wp_seq ?_
 refine cd hF43 (t := decide (x9 < u0.Size)) (by kernel_rfl) (fun hb44 => ?_) (fun hb44 => ?_)
 · -- yes
  have hp45 := hp40.1 hb44; clear hp40
  refine wp_skip ?_
  refine thn ?_
  refine wp_seq ?_
  refine wp_block ?_
  refine sqH ?_; intro hQ46Q hQ46
  refine s1 hF43 11 (.slice aox3 x3.length capx3) ?_; intro a47 hF48; clear hF43
  refine s1 hF48 12 (.int .i64 x4) ?_; intro a49 hF50; clear hF48
  refine sn hF50 hM39 (fun b => .slice (some ⟨b, 0, none⟩) 1 1) [.int .i64 x4] 3 (nog rfl _) rfl (by kernel_rfl) (by kernel_rfl) ?_; intro b51 a52 wd54 hF53 hM55; clear hF50 hM39
  have hc56 := hp45.1; have hp57 := hp45.2; clear hp45
  refine ap hF53 hM55 1 (T := (tyInt .i64)) (xs := x3) (ys := [x4]) (ao := aox3) (cap := capx3) (ao2 := (some ⟨b51, 0, none⟩)) (cap2 := 1) (t := 43) (e := 3) (bytes := 8) (nog rfl _) rfl (by kernel_rfl) rfl (by kernel_rfl) (by kernel_rfl) (by kernel_rfl) rfl (Src.row hM55 0 rfl (RepAll.one (T := (tyInt .i64)) (x := x4) rfl)) hc56 ?_; intro ao58 cap59 a63 wd60 hnil61 hF64 hM62; clear hF53 hM55
  have hM65 : Mem w.heap.size [] w Z [.row b51 [.int .i64 x4] 3, .own (tyInt .i64) 3 ao58 cap59 (x3 ++ [x4]), .row b2 [str u0.Name, .int .i64 u0.Start, .int .i64 u0.Size, .bool u0.Back, .bool u0.Signed, .int .i64 u0.Mul, .int .i64 u0.Div, .int .i64 u0.Add, .int .i64 u0.Key] 23] Z wd60 := hM62; clear hM62
  refine s1 hF64 3 (.slice ao58 (x3 ++ [x4]).length cap59) ?_; intro a66 hF67; clear hF64
  refine nlH (hQ46 _ _ ?_); clear hQ46 hQ46Q
  refine wp_block ?_
  refine sqH ?_; intro hQ68Q hQ68
  refine s1 hF67 18 (.pointer (some ⟨b2, 3, none⟩)) ?_; intro a69 hF70; clear hF67
  refine l1 hF70 hM65 19 2 3 (.bool u0.Back) rfl rfl ?_; intro a71 hF72; clear hF70
  refine s1 hF72 20 (.bool (!u0.Back)) ?_; intro a73 hF74; clear hF72
  refine s1 hF74 17 (.bool (!u0.Back)) ?_; intro a75 hF76; clear hF74
  refine nlH (hQ68 _ _ ?_); clear hQ68 hQ68Q
  refine cd hF76 (t := !u0.Back) (by kernel_rfl) (fun hb77 => ?_) (fun hb77 => ?_)
  · -- yes
   have hp78 := hp57.1 hb77; clear hp57
   refine rgH ?_; intro hQ79Q hQ79
   refine s1 hF76 21 (.int .i64 x4) ?_; intro a80 hF81; clear hF76
   refine s1 hF81 22 (.int .i64 (w64 (x4 + 1))) ?_; intro a82 hF83; clear hF81
   refine s1 hF83 4 (.int .i64 (w64 (x4 + 1))) ?_; intro a84 hF85; clear hF83
   refine nlH (hQ79 _ _ ?_); clear hQ79 hQ79Q
   refine ibn ?_
   refine ibn ?_
   refine thn ?_
   refine rgH ?_; intro hQ86Q hQ86
   refine s1 hF85 29 (.int .i64 (w64 (x9 + 1))) ?_; intro a87 hF88; clear hF85
   refine s1 hF88 9 (.int .i64 (w64 (x9 + 1))) ?_; intro a89 hF90; clear hF88
   refine nlH (hQ86 _ _ ?_); clear hQ86 hQ86Q
   refine rd ?_
   exact ⟨⟨x3 ++ [x4], w64 (x4 + 1), w64 (x9 + 1), ao58, cap59⟩, hp78.1, hp78.2, (hF90.region (by kernel_rfl) (by kernel_rfl)).anyβ _ (by kernel_rfl), hM65.keep (List.Sublist.cons _ (List.Sublist.cons_cons _ (List.Sublist.cons_cons _ (List.Sublist.slnil))))⟩
  · -- no
   have hp91 := hp57.2 hb77; clear hp57
   refine sqH ?_; intro hQ92Q hQ92
   refine s1 hF76 24 (.int .i64 x4) ?_; intro a93 hF94; clear hF76
   refine s1 hF94 25 (.int .i64 (x4.tmod 8)) ?_; intro a95 hF96; clear hF94
   refine s1 hF96 26 (.bool ((x4.tmod 8) == 0)) ?_; intro a97 hF98; clear hF96
   refine s1 hF98 23 (.bool ((x4.tmod 8) == 0)) ?_; intro a99 hF100; clear hF98
   refine nlH (hQ92 _ _ ?_); clear hQ92 hQ92Q
   refine cd hF100 (t := (x4.tmod 8) == 0) (by kernel_rfl) (fun hb101 => ?_) (fun hb101 => ?_)
   · -- yes
    have hp102 := hp91.1 hb101; clear hp91
    have hF103 : Fr 35 [] [⟨1, [], .pointer (some ⟨b2, 0, none⟩)⟩, ⟨3, [], .slice ao58 (x3 ++ [x4]).length cap59⟩, ⟨4, [], .int .i64 x4⟩, ⟨8, [], .int .i64 u0.Size⟩, ⟨9, [], .int .i64 x9⟩] a99 := hF100.region (by kernel_rfl) (by kernel_rfl); clear hF100
    refine rgH ?_; intro hQ104Q hQ104
    refine s1 hF103 27 (.int .i64 x4) ?_; intro a105 hF106; clear hF103
    refine s1 hF106 28 (.int .i64 (w64 (x4 + 15))) ?_; intro a107 hF108; clear hF106
    refine s1 hF108 4 (.int .i64 (w64 (x4 + 15))) ?_; intro a109 hF110; clear hF108
    refine nlH (hQ104 _ _ ?_); clear hQ104 hQ104Q
    refine ibn ?_
    refine ibn ?_
    refine thn ?_
    refine rgH ?_; intro hQ111Q hQ111
    refine s1 hF110 29 (.int .i64 (w64 (x9 + 1))) ?_; intro a112 hF113; clear hF110
    refine s1 hF113 9 (.int .i64 (w64 (x9 + 1))) ?_; intro a114 hF115; clear hF113
    refine nlH (hQ111 _ _ ?_); clear hQ111 hQ111Q
    refine rd ?_
    exact ⟨⟨x3 ++ [x4], w64 (x4 + 15), w64 (x9 + 1), ao58, cap59⟩, hp102.1, hp102.2, (hF115.region (by kernel_rfl) (by kernel_rfl)).anyβ _ (by kernel_rfl), hM65.keep (List.Sublist.cons _ (List.Sublist.cons_cons _ (List.Sublist.cons_cons _ (List.Sublist.slnil))))⟩
   · -- no
    have hp116 := hp91.2 hb101; clear hp91
    have hF117 : Fr 35 [] [⟨1, [], .pointer (some ⟨b2, 0, none⟩)⟩, ⟨3, [], .slice ao58 (x3 ++ [x4]).length cap59⟩, ⟨4, [], .int .i64 x4⟩, ⟨8, [], .int .i64 u0.Size⟩, ⟨9, [], .int .i64 x9⟩] a99 := hF100.region (by kernel_rfl) (by kernel_rfl); clear hF100
    refine rgH ?_; intro hQ118Q hQ118
    refine s1 hF117 15 (.int .i64 x4) ?_; intro a119 hF120; clear hF117
    refine s1 hF120 16 (.int .i64 (w64 (x4 - 1))) ?_; intro a121 hF122; clear hF120
    refine s1 hF122 4 (.int .i64 (w64 (x4 - 1))) ?_; intro a123 hF124; clear hF122
    refine nlH (hQ118 _ _ ?_); clear hQ118 hQ118Q
    refine ibn ?_
    refine ibn ?_
    refine thn ?_
    refine rgH ?_; intro hQ125Q hQ125
    refine s1 hF124 29 (.int .i64 (w64 (x9 + 1))) ?_; intro a126 hF127; clear hF124
    refine s1 hF127 9 (.int .i64 (w64 (x9 + 1))) ?_; intro a128 hF129; clear hF127
    refine nlH (hQ125 _ _ ?_); clear hQ125 hQ125Q
    refine rd ?_
    exact ⟨⟨x3 ++ [x4], w64 (x4 - 1), w64 (x9 + 1), ao58, cap59⟩, hp116.1, hp116.2, (hF129.region (by kernel_rfl) (by kernel_rfl)).anyβ _ (by kernel_rfl), hM65.keep (List.Sublist.cons _ (List.Sublist.cons_cons _ (List.Sublist.cons_cons _ (List.Sublist.slnil))))⟩
 · -- no
  have hp130 := hp40.2 hb44; clear hp40
  refine wp_exit ?_
  refine thx ?_
  refine thx ?_
  refine ibx ?_
  refine thn ?_
  refine wp_seq ?_
  refine sqH ?_; intro hQ131Q hQ131
  refine s1 hF43 30 (.pointer (some ⟨b2, 3, none⟩)) ?_; intro a132 hF133; clear hF43
  refine l1 hF133 hM39 31 1 3 (.bool u0.Back) rfl rfl ?_; intro a134 hF135; clear hF133
  refine nlH (hQ131 _ _ ?_); clear hQ131 hQ131Q
  refine cd hF135 (t := u0.Back) (by kernel_rfl) (fun hb136 => ?_) (fun hb136 => ?_)
  · -- yes
   have hp137 := hp130.1 hb136; clear hp130
   refine rgH ?_; intro hQ138Q hQ138
   refine s1 hF135 32 (.slice aox3 x3.length capx3) ?_; intro a139 hF140; clear hF135
   refine cl hF140 90 #[.slice aox3 x3.length capx3] (nog rfl _) rfl (by kernel_rfl) (by kernel_rfl) ?_
   refine (irev_fun x3 aox3 capx3 _ _ _ _ _ _ hM39 hM39.fz).mono ?_; rintro _ wd141 ⟨Z146, rfl, hle147, hl145, hm⟩; refine ⟨_, rfl, ?_⟩; intro a142 hF143; have hM144 := hm; clear hm hM39 hF140
   replace hle0 := Fz.le.trans hle0 hle147
   have hF148 : Fr 35 [] [⟨1, [], .pointer (some ⟨b2, 0, none⟩)⟩, ⟨3, [], .slice aox3 (irevS x3).length capx3⟩, ⟨4, [], .int .i64 x4⟩, ⟨8, [], .int .i64 u0.Size⟩, ⟨9, [], .int .i64 x9⟩, ⟨10, [], .bool (decide (x9 < u0.Size))⟩, ⟨30, [], .pointer (some ⟨b2, 3, none⟩)⟩, ⟨31, [], .bool u0.Back⟩, ⟨32, [], .slice aox3 (irevS x3).length capx3⟩, ⟨33, [], .tuple #[]⟩] a142 := by rw [hl145]; exact hF143.region (by kernel_rfl) (by kernel_rfl)
   clear hF143
   have hM149 : Mem w.heap.size [] w Z [.own (tyInt .i64) 3 aox3 capx3 (irevS x3), .row b2 [str u0.Name, .int .i64 u0.Start, .int .i64 u0.Size, .bool u0.Back, .bool u0.Signed, .int .i64 u0.Mul, .int .i64 u0.Div, .int .i64 u0.Add, .int .i64 u0.Key] 23] Z146 wd141 := hM144; clear hM144
   have hp150 := hp137 (hM149.ownSmall 0 rfl); clear hp137
   refine nlH (hQ138 _ _ ?_); clear hQ138 hQ138Q
   refine thn ?_
   refine sqH ?_; intro hQ151Q hQ151
   refine s1 hF148 34 (.slice aox3 (irevS x3).length capx3) ?_; intro a152 hF153; clear hF148
   refine s1 hF153 2 (.slice aox3 (irevS x3).length capx3) ?_; intro a154 hF155; clear hF153
   refine nlH (hQ151 _ _ ?_); clear hQ151 hQ151Q
   refine wp_ret ?_
   refine rt (fn := Tryd.f57) (v := .slice aox3 (irevS x3).length capx3) hF155 (re1 hF155 (fn := Tryd.f57) rfl (by kernel_rfl)) ?_
   exact ⟨(irevS x3), aox3, capx3, Z146, rfl, hp150, hM149.keep (List.Sublist.cons_cons _ (List.Sublist.cons _ (List.Sublist.slnil)))⟩
  · -- no
   have hp156 := hp130.2 hb136; clear hp130
   refine wp_skip ?_
   refine thn ?_
   refine sqH ?_; intro hQ157Q hQ157
   refine s1 hF135 34 (.slice aox3 x3.length capx3) ?_; intro a158 hF159; clear hF135
   refine s1 hF159 2 (.slice aox3 x3.length capx3) ?_; intro a160 hF161; clear hF159
   refine nlH (hQ157 _ _ ?_); clear hQ157 hQ157Q
   refine wp_ret ?_
   refine rt (fn := Tryd.f57) (v := .slice aox3 x3.length capx3) hF161 (re1 hF161 (fn := Tryd.f57) rfl (by kernel_rfl)) ?_
   exact ⟨x3, aox3, capx3, Z, rfl, hp156, hM39.keep (List.Sublist.cons_cons _ (List.Sublist.cons _ (List.Sublist.slnil)))⟩

set_option maxRecDepth 100000 in
set_option maxHeartbeats 0 in
theorem smean_walk (u0 : Signal) (u1 : Int)  (Z : Fz) (w : World)  (hZ : Z.on w) {K : Reading → Prop} (hp : smean_vc u0 u1 K) : Calls Tryd.prog 36 #[.agg #[str u0.Name, .int .i64 u0.Start, .int .i64 u0.Size, .bool u0.Back, .bool u0.Signed, .int .i64 u0.Mul, .int .i64 u0.Div, .int .i64 u0.Add, .int .i64 u0.Key], .int .i64 u1] w fun e w' => ∃ r : Reading, e = .returned (.agg #[str r.Name, .int .i64 r.Num, .int .i64 r.Den]) ∧ K r ∧ Below w.heap.size w w' := by
 refine enter0 Tryd.func36 rfl rfl (by kernel_rfl) ?_; intro a0 hF0; have hM0 := Mem.start w Z hZ; have hle0 := Fz.le.refl Z
 refine sqH ?_; intro hQ1Q hQ1
 refine sn hF0 hM0 (fun b => .pointer (some ⟨b, 0, none⟩)) [str u0.Name, .int .i64 u0.Start, .int .i64 u0.Size, .bool u0.Back, .bool u0.Signed, .int .i64 u0.Mul, .int .i64 u0.Div, .int .i64 u0.Add, .int .i64 u0.Key] 23 (nog rfl _) rfl (by kernel_rfl) (by kernel_rfl) ?_; intro b2 a3 wd5 hF4 hM6; clear hF0 hM0
 refine sn hF4 hM6 (fun b => .pointer (some ⟨b, 0, none⟩)) [str [], .int .i64 0, .int .i64 0] 26 (nog rfl _) rfl (by kernel_rfl) (by kernel_rfl) ?_; intro b7 a8 wd10 hF9 hM11; clear hF4 hM6
 refine nlH (hQ1 _ _ ?_); clear hQ1 hQ1Q
 have hF12 : Fr 32 [] [⟨1, [], .int .i64 u1⟩, ⟨2, [], .pointer (some ⟨b2, 0, none⟩)⟩, ⟨4, [], .pointer (some ⟨b7, 0, none⟩)⟩] a8 := hF9.region (by kernel_rfl) (by kernel_rfl); clear hF9
 refine sqQH mixed (by kernel_rfl) hM11 ?_; intro hQ13Q hQ13
 refine q1 hF12 8 (.int .i64 u1) ?_; intro a15 hF16; clear hF12
 refine q1 hF16 9 (.pointer (some ⟨b2, 5, none⟩)) ?_; intro a18 hF19; clear hF16
 refine qst hF19 (.int .i64 u0.Mul) (nog rfl _) rfl (by kernel_rfl) (fun v20 hC => ld hF19 hC 1 (g := []) (b := b2) (off := 5) (cs := [str u0.Name, .int .i64 u0.Start, .int .i64 u0.Size, .bool u0.Back, .bool u0.Signed, .int .i64 u0.Mul, .int .i64 u0.Div, .int .i64 u0.Add, .int .i64 u0.Key]) (ty := 23) rfl (by kernel_rfl) (by kernel_rfl) (by kernel_rfl) (by kernel_rfl) rfl) ?_; intro a21 hF22; clear hF19
 refine q1 hF22 11 (.int .i64 (w64 (u1 * u0.Mul))) ?_; intro a24 hF25; clear hF22
 refine q1 hF25 12 (.pointer (some ⟨b2, 7, none⟩)) ?_; intro a27 hF28; clear hF25
 refine qst hF28 (.int .i64 u0.Add) (nog rfl _) rfl (by kernel_rfl) (fun v29 hC => ld hF28 hC 1 (g := []) (b := b2) (off := 7) (cs := [str u0.Name, .int .i64 u0.Start, .int .i64 u0.Size, .bool u0.Back, .bool u0.Signed, .int .i64 u0.Mul, .int .i64 u0.Div, .int .i64 u0.Add, .int .i64 u0.Key]) (ty := 23) rfl (by kernel_rfl) (by kernel_rfl) (by kernel_rfl) (by kernel_rfl) rfl) ?_; intro a30 hF31; clear hF28
 refine q1 hF31 14 (.pointer (some ⟨b2, 6, none⟩)) ?_; intro a33 hF34; clear hF31
 refine qst hF34 (.int .i64 u0.Div) (nog rfl _) rfl (by kernel_rfl) (fun v35 hC => ld hF34 hC 1 (g := []) (b := b2) (off := 6) (cs := [str u0.Name, .int .i64 u0.Start, .int .i64 u0.Size, .bool u0.Back, .bool u0.Signed, .int .i64 u0.Mul, .int .i64 u0.Div, .int .i64 u0.Add, .int .i64 u0.Key]) (ty := 23) rfl (by kernel_rfl) (by kernel_rfl) (by kernel_rfl) (by kernel_rfl) rfl) ?_; intro a36 hF37; clear hF34
 refine q1 hF37 16 (.int .i64 (w64 (u0.Add * u0.Div))) ?_; intro a39 hF40; clear hF37
 refine q1 hF40 17 (.int .i64 (w64 ((w64 (u1 * u0.Mul)) + (w64 (u0.Add * u0.Div))))) ?_; intro a42 hF43; clear hF40
 refine q1 hF43 18 (.pointer (some ⟨b2, 6, none⟩)) ?_; intro a45 hF46; clear hF43
 refine qst hF46 (.int .i64 u0.Div) (nog rfl _) rfl (by kernel_rfl) (fun v47 hC => ld hF46 hC 1 (g := []) (b := b2) (off := 6) (cs := [str u0.Name, .int .i64 u0.Start, .int .i64 u0.Size, .bool u0.Back, .bool u0.Signed, .int .i64 u0.Mul, .int .i64 u0.Div, .int .i64 u0.Add, .int .i64 u0.Key]) (ty := 23) rfl (by kernel_rfl) (by kernel_rfl) (by kernel_rfl) (by kernel_rfl) rfl) ?_; intro a48 hF49; clear hF46
 refine q1 hF49 5 (.int .i64 (w64 ((w64 (u1 * u0.Mul)) + (w64 (u0.Add * u0.Div))))) ?_; intro a51 hF52; clear hF49
 refine q1 hF52 6 (.int .i64 u0.Div) ?_; intro a54 hF55; clear hF52
 refine qnl (hQ13 _ ?_); clear hQ13 hQ13Q; intro wd56 hM57; clear hM11
 have hF58 : Fr 32 [] [⟨2, [], .pointer (some ⟨b2, 0, none⟩)⟩, ⟨4, [], .pointer (some ⟨b7, 0, none⟩)⟩, ⟨5, [], .int .i64 (w64 ((w64 (u1 * u0.Mul)) + (w64 (u0.Add * u0.Div))))⟩, ⟨6, [], .int .i64 u0.Div⟩] a54 := hF55.region (by kernel_rfl) (by kernel_rfl); clear hF55
 refine sqH ?_; intro hQ59Q hQ59
 refine s1 hF58 20 (.int .i64 (w64 ((w64 (u1 * u0.Mul)) + (w64 (u0.Add * u0.Div))))) ?_; intro a60 hF61; clear hF58
 refine s1 hF61 21 (.int .i64 u0.Div) ?_; intro a62 hF63; clear hF61
 have hc64 := hp.1; have hp65 := hp.2; clear hp
 refine fcl hF63 hM57 (.int .i64 (ngcd (w64 ((w64 (u1 * u0.Mul)) + (w64 (u0.Add * u0.Div)))) u0.Div)) 45 #[.int .i64 (w64 ((w64 (u1 * u0.Mul)) + (w64 (u0.Add * u0.Div)))), .int .i64 u0.Div] (nog rfl _) rfl (by kernel_rfl) (fun _ => by kernel_rfl) (sgcd_fun (w64 ((w64 (u1 * u0.Mul)) + (w64 (u0.Add * u0.Div)))) u0.Div hc64 _ _ hM57.fz) ?_; intro a66 wd68 hF67 hM69; clear hF63 hM57
 refine s1 hF67 7 (.int .i64 (ngcd (w64 ((w64 (u1 * u0.Mul)) + (w64 (u0.Add * u0.Div)))) u0.Div)) ?_; intro a70 hF71; clear hF67
 refine nlH (hQ59 _ _ ?_); clear hQ59 hQ59Q
 have hF72 : Fr 32 [] [⟨2, [], .pointer (some ⟨b2, 0, none⟩)⟩, ⟨4, [], .pointer (some ⟨b7, 0, none⟩)⟩, ⟨5, [], .int .i64 (w64 ((w64 (u1 * u0.Mul)) + (w64 (u0.Add * u0.Div))))⟩, ⟨6, [], .int .i64 u0.Div⟩, ⟨7, [], .int .i64 (ngcd (w64 ((w64 (u1 * u0.Mul)) + (w64 (u0.Add * u0.Div)))) u0.Div)⟩] a70 := hF71.region (by kernel_rfl) (by kernel_rfl); clear hF71
 have hcd4_0 := hp65.1; have hp93 := hp65.2; clear hp65
 have hcd7_0 := hp93.1; have hp94 := hp93.2; clear hp93
 refine wp_seq (any_invE mixed [[], [0], [], [], [2, 3], [], [], [5, 6], [1, 4, 7], [0, 1, 2, 3, 4, 5, 6, 7, 8]] 10 (fun S a w1 => ∃ (ud23 : Value) (ud24 : Value) (ud25 : Value) (ud26 : Value) (ud27 : Value) (ud28 : Value) (ud29 : Value) (ud30 : Value) (ud31 : Value) (rh0 : Res) (rh1 : Res), Fz.le Z Z ∧ Fr 32 [] [⟨2, [], .pointer (some ⟨b2, 0, none⟩)⟩, ⟨4, [], .pointer (some ⟨b7, 0, none⟩)⟩, ⟨5, [], .int .i64 (w64 ((w64 (u1 * u0.Mul)) + (w64 (u0.Add * u0.Div))))⟩, ⟨6, [], .int .i64 u0.Div⟩, ⟨7, [], .int .i64 (ngcd (w64 ((w64 (u1 * u0.Mul)) + (w64 (u0.Add * u0.Div)))) u0.Div)⟩, ⟨23, [], ud23⟩, ⟨24, [], ud24⟩, ⟨25, [], ud25⟩, ⟨26, [], ud26⟩, ⟨27, [], ud27⟩, ⟨28, [], ud28⟩, ⟨29, [], ud29⟩, ⟨30, [], ud30⟩, ⟨31, [], ud31⟩] a ∧ Mem w.heap.size [] w Z [rh0, rh1] Z w1 ∧ (S 0 = true → ud23 = .pointer (some ⟨b2, 0, none⟩)) ∧ (S 1 = true → ud24 = str u0.Name) ∧ (S 2 = true → ud25 = .int .i64 (w64 ((w64 (u1 * u0.Mul)) + (w64 (u0.Add * u0.Div))))) ∧ (S 3 = true → ud26 = .int .i64 (ngcd (w64 ((w64 (u1 * u0.Mul)) + (w64 (u0.Add * u0.Div)))) u0.Div)) ∧ (S 4 = true → ud27 = .int .i64 (w64 ((w64 ((w64 (u1 * u0.Mul)) + (w64 (u0.Add * u0.Div)))).tdiv (ngcd (w64 ((w64 (u1 * u0.Mul)) + (w64 (u0.Add * u0.Div)))) u0.Div)))) ∧ (S 5 = true → ud28 = .int .i64 u0.Div) ∧ (S 6 = true → ud29 = .int .i64 (ngcd (w64 ((w64 (u1 * u0.Mul)) + (w64 (u0.Add * u0.Div)))) u0.Div)) ∧ (S 7 = true → ud30 = .int .i64 (w64 (u0.Div.tdiv (ngcd (w64 ((w64 (u1 * u0.Mul)) + (w64 (u0.Add * u0.Div)))) u0.Div)))) ∧ (S 8 = true → ud31 = .agg #[str u0.Name, .int .i64 (w64 ((w64 ((w64 (u1 * u0.Mul)) + (w64 (u0.Add * u0.Div)))).tdiv (ngcd (w64 ((w64 (u1 * u0.Mul)) + (w64 (u0.Add * u0.Div)))) u0.Div))), .int .i64 (w64 (u0.Div.tdiv (ngcd (w64 ((w64 (u1 * u0.Mul)) + (w64 (u0.Add * u0.Div)))) u0.Div)))]) ∧ (S 9 = false → rh0 = .row b7 [str [], .int .i64 0, .int .i64 0] 26) ∧ (S 9 = true → rh0 = .row b7 [str u0.Name, .int .i64 (w64 ((w64 ((w64 (u1 * u0.Mul)) + (w64 (u0.Add * u0.Div)))).tdiv (ngcd (w64 ((w64 (u1 * u0.Mul)) + (w64 (u0.Add * u0.Div)))) u0.Div))), .int .i64 (w64 (u0.Div.tdiv (ngcd (w64 ((w64 (u1 * u0.Mul)) + (w64 (u0.Add * u0.Div)))) u0.Div)))] 26) ∧ (rh1 = .row b2 [str u0.Name, .int .i64 u0.Start, .int .i64 u0.Size, .bool u0.Back, .bool u0.Signed, .int .i64 u0.Mul, .int .i64 u0.Div, .int .i64 u0.Add, .int .i64 u0.Key] 23)) ?h0 ?hs ?hE)
 case h0 =>
  have hF96 := hF72.any 23
  have hF97 := hF96.any 24
  have hF98 := hF97.any 25
  have hF99 := hF98.any 26
  have hF100 := hF99.any 27
  have hF101 := hF100.any 28
  have hF102 := hF101.any 29
  have hF103 := hF102.any 30
  have hF104 := hF103.any 31
  have hM105 := (hM69.perm (List.Perm.refl _)).drew
  exact ⟨a70.tmps.getD 23 undef, a70.tmps.getD 24 undef, a70.tmps.getD 25 undef, a70.tmps.getD 26 undef, a70.tmps.getD 27 undef, a70.tmps.getD 28 undef, a70.tmps.getD 29 undef, a70.tmps.getD 30 undef, a70.tmps.getD 31 undef, .row b7 [str [], .int .i64 0, .int .i64 0] 26, .row b2 [str u0.Name, .int .i64 u0.Start, .int .i64 u0.Size, .bool u0.Back, .bool u0.Signed, .int .i64 u0.Mul, .int .i64 u0.Div, .int .i64 u0.Add, .int .i64 u0.Key] 23, Fz.le.refl _, hF104.region (by kernel_rfl) (by kernel_rfl), hM105, ff, ff, ff, ff, ff, ff, ff, ff, ff, kf, ff, rfl⟩
 case hs =>
  intro S hcl i o hil hi hSi hpre a w1 hI; refine Go.Sy.hid ?_; intro G hG; obtain ⟨ud23, hI⟩ := hI; obtain ⟨ud24, hI⟩ := hI; obtain ⟨ud25, hI⟩ := hI; obtain ⟨ud26, hI⟩ := hI; obtain ⟨ud27, hI⟩ := hI; obtain ⟨ud28, hI⟩ := hI; obtain ⟨ud29, hI⟩ := hI; obtain ⟨ud30, hI⟩ := hI; obtain ⟨ud31, hI⟩ := hI; obtain ⟨rh0, hI⟩ := hI; obtain ⟨rh1, hI⟩ := hI; obtain ⟨hle95, hI⟩ := hI; obtain ⟨hFx, hI⟩ := hI; obtain ⟨hMx, hI⟩ := hI; obtain ⟨cu23, hI⟩ := hI; obtain ⟨cu24, hI⟩ := hI; obtain ⟨cu25, hI⟩ := hI; obtain ⟨cu26, hI⟩ := hI; obtain ⟨cu27, hI⟩ := hI; obtain ⟨cu28, hI⟩ := hI; obtain ⟨cu29, hI⟩ := hI; obtain ⟨cu30, hI⟩ := hI; obtain ⟨cu31, hI⟩ := hI; obtain ⟨cr0_0, hI⟩ := hI; obtain ⟨cr0_1, hI⟩ := hI; have cr1_0 := hI; clear hI
  have hcase : i = 0 ∨ i = 1 ∨ i = 2 ∨ i = 3 ∨ i = 4 ∨ i = 5 ∨ i = 6 ∨ i = 7 ∨ i = 8 ∨ i = 9 := by clear hi; omega
  rcases hcase with rfl | rfl | rfl | rfl | rfl | rfl | rfl | rfl | rfl | rfl
  · -- 0: fieldAddr
   obtain rfl := Option.some.inj hi
   have hx0 := hSi
   have hx1 := negF hcl 1 0 (by kernel_rfl) hx0
   have hx8 := negF hcl 8 1 (by kernel_rfl) hx1
   have hx9 := negF hcl 9 0 (by kernel_rfl) hx0
   obtain rfl := cr0_0 hx9
   obtain rfl := cr1_0
   refine hG (any_step ?_); clear hG G; intro A J hJ
   have hle0 := Fz.le.trans hle0 hle95
   refine s1 hFx 23 (.pointer (some ⟨b2, 0, none⟩)) ?_; intro a106 hF107; clear hFx
   refine nl (qnI (hJ _ _ ?_)); clear hJ J
   exact ⟨.pointer (some ⟨b2, 0, none⟩), ud24, ud25, ud26, ud27, ud28, ud29, ud30, ud31, .row b7 [str [], .int .i64 0, .int .i64 0] 26, .row b2 [str u0.Name, .int .i64 u0.Start, .int .i64 u0.Size, .bool u0.Back, .bool u0.Signed, .int .i64 u0.Mul, .int .i64 u0.Div, .int .i64 u0.Add, .int .i64 u0.Key] 23, hle95, hF107.region (by kernel_rfl) (by kernel_rfl), hMx.perm (List.Perm.refl _), kf, (nt hx1), cu25, cu26, cu27, cu28, cu29, cu30, (nt hx8), kf, (nt hx9), rfl⟩
  · -- 1: load
   obtain rfl := Option.some.inj hi
   have hx0 := hpre 0 (by kernel_rfl)
   have hx1 := hSi
   have hx8 := negF hcl 8 1 (by kernel_rfl) hx1
   have hx9 := negF hcl 9 1 (by kernel_rfl) hx1
   obtain rfl := cu23 hx0
   obtain rfl := cr0_0 hx9
   obtain rfl := cr1_0
   refine hG (any_step ?_); clear hG G; intro A J hJ
   have hle0 := Fz.le.trans hle0 hle95
   refine l1 hFx hMx 24 1 0 (str u0.Name) rfl rfl ?_; intro a109 hF110; clear hFx
   refine nl (qnI (hJ _ _ ?_)); clear hJ J
   exact ⟨.pointer (some ⟨b2, 0, none⟩), str u0.Name, ud25, ud26, ud27, ud28, ud29, ud30, ud31, .row b7 [str [], .int .i64 0, .int .i64 0] 26, .row b2 [str u0.Name, .int .i64 u0.Start, .int .i64 u0.Size, .bool u0.Back, .bool u0.Signed, .int .i64 u0.Mul, .int .i64 u0.Div, .int .i64 u0.Add, .int .i64 u0.Key] 23, hle95, hF110.region (by kernel_rfl) (by kernel_rfl), hMx.perm (List.Perm.refl _), kf, kf, cu25, cu26, cu27, cu28, cu29, cu30, (nt hx8), kf, (nt hx9), rfl⟩
  · -- 2: move
   obtain rfl := Option.some.inj hi
   have hx2 := hSi
   have hx4 := negF hcl 4 2 (by kernel_rfl) hx2
   have hx8 := negF hcl 8 4 (by kernel_rfl) hx4
   have hx9 := negF hcl 9 2 (by kernel_rfl) hx2
   obtain rfl := cr0_0 hx9
   obtain rfl := cr1_0
   refine hG (any_step ?_); clear hG G; intro A J hJ
   have hle0 := Fz.le.trans hle0 hle95
   refine s1 hFx 25 (.int .i64 (w64 ((w64 (u1 * u0.Mul)) + (w64 (u0.Add * u0.Div))))) ?_; intro a112 hF113; clear hFx
   refine nl (qnI (hJ _ _ ?_)); clear hJ J
   exact ⟨ud23, ud24, .int .i64 (w64 ((w64 (u1 * u0.Mul)) + (w64 (u0.Add * u0.Div)))), ud26, ud27, ud28, ud29, ud30, ud31, .row b7 [str [], .int .i64 0, .int .i64 0] 26, .row b2 [str u0.Name, .int .i64 u0.Start, .int .i64 u0.Size, .bool u0.Back, .bool u0.Signed, .int .i64 u0.Mul, .int .i64 u0.Div, .int .i64 u0.Add, .int .i64 u0.Key] 23, hle95, hF113.region (by kernel_rfl) (by kernel_rfl), hMx.perm (List.Perm.refl _), cu23, cu24, kf, cu26, (nt hx4), cu28, cu29, cu30, (nt hx8), kf, (nt hx9), rfl⟩
  · -- 3: move
   obtain rfl := Option.some.inj hi
   have hx3 := hSi
   have hx4 := negF hcl 4 3 (by kernel_rfl) hx3
   have hx8 := negF hcl 8 4 (by kernel_rfl) hx4
   have hx9 := negF hcl 9 3 (by kernel_rfl) hx3
   obtain rfl := cr0_0 hx9
   obtain rfl := cr1_0
   refine hG (any_step ?_); clear hG G; intro A J hJ
   have hle0 := Fz.le.trans hle0 hle95
   refine s1 hFx 26 (.int .i64 (ngcd (w64 ((w64 (u1 * u0.Mul)) + (w64 (u0.Add * u0.Div)))) u0.Div)) ?_; intro a115 hF116; clear hFx
   refine nl (qnI (hJ _ _ ?_)); clear hJ J
   exact ⟨ud23, ud24, ud25, .int .i64 (ngcd (w64 ((w64 (u1 * u0.Mul)) + (w64 (u0.Add * u0.Div)))) u0.Div), ud27, ud28, ud29, ud30, ud31, .row b7 [str [], .int .i64 0, .int .i64 0] 26, .row b2 [str u0.Name, .int .i64 u0.Start, .int .i64 u0.Size, .bool u0.Back, .bool u0.Signed, .int .i64 u0.Mul, .int .i64 u0.Div, .int .i64 u0.Add, .int .i64 u0.Key] 23, hle95, hF116.region (by kernel_rfl) (by kernel_rfl), hMx.perm (List.Perm.refl _), cu23, cu24, cu25, kf, (nt hx4), cu28, cu29, cu30, (nt hx8), kf, (nt hx9), rfl⟩
  · -- 4: binOp
   obtain rfl := Option.some.inj hi
   have hx3 := hpre 3 (by kernel_rfl)
   have hx2 := hpre 2 (by kernel_rfl)
   have hx4 := hSi
   have hx8 := negF hcl 8 4 (by kernel_rfl) hx4
   have hx9 := negF hcl 9 4 (by kernel_rfl) hx4
   obtain rfl := cu25 hx2
   obtain rfl := cu26 hx3
   obtain rfl := cr0_0 hx9
   obtain rfl := cr1_0
   refine hG (any_step ?_); clear hG G; intro A J hJ
   have hle0 := Fz.le.trans hle0 hle95
   refine st hFx (.int .i64 (w64 ((w64 ((w64 (u1 * u0.Mul)) + (w64 (u0.Add * u0.Div)))).tdiv (ngcd (w64 ((w64 (u1 * u0.Mul)) + (w64 (u0.Add * u0.Div)))) u0.Div)))) (nog rfl _) rfl (by kernel_rfl) (quo_run hFx (g := []) rfl (by kernel_rfl) (by kernel_rfl) hcd4_0 rfl) ?_; intro a118 hF119; clear hFx
   refine nl (qnI (hJ _ _ ?_)); clear hJ J
   exact ⟨ud23, ud24, .int .i64 (w64 ((w64 (u1 * u0.Mul)) + (w64 (u0.Add * u0.Div)))), .int .i64 (ngcd (w64 ((w64 (u1 * u0.Mul)) + (w64 (u0.Add * u0.Div)))) u0.Div), .int .i64 (w64 ((w64 ((w64 (u1 * u0.Mul)) + (w64 (u0.Add * u0.Div)))).tdiv (ngcd (w64 ((w64 (u1 * u0.Mul)) + (w64 (u0.Add * u0.Div)))) u0.Div))), ud28, ud29, ud30, ud31, .row b7 [str [], .int .i64 0, .int .i64 0] 26, .row b2 [str u0.Name, .int .i64 u0.Start, .int .i64 u0.Size, .bool u0.Back, .bool u0.Signed, .int .i64 u0.Mul, .int .i64 u0.Div, .int .i64 u0.Add, .int .i64 u0.Key] 23, hle95, hF119.region (by kernel_rfl) (by kernel_rfl), hMx.perm (List.Perm.refl _), cu23, cu24, kf, kf, kf, cu28, cu29, cu30, (nt hx8), kf, (nt hx9), rfl⟩
  · -- 5: move
   obtain rfl := Option.some.inj hi
   have hx5 := hSi
   have hx7 := negF hcl 7 5 (by kernel_rfl) hx5
   have hx8 := negF hcl 8 7 (by kernel_rfl) hx7
   have hx9 := negF hcl 9 5 (by kernel_rfl) hx5
   obtain rfl := cr0_0 hx9
   obtain rfl := cr1_0
   refine hG (any_step ?_); clear hG G; intro A J hJ
   have hle0 := Fz.le.trans hle0 hle95
   refine s1 hFx 28 (.int .i64 u0.Div) ?_; intro a121 hF122; clear hFx
   refine nl (qnI (hJ _ _ ?_)); clear hJ J
   exact ⟨ud23, ud24, ud25, ud26, ud27, .int .i64 u0.Div, ud29, ud30, ud31, .row b7 [str [], .int .i64 0, .int .i64 0] 26, .row b2 [str u0.Name, .int .i64 u0.Start, .int .i64 u0.Size, .bool u0.Back, .bool u0.Signed, .int .i64 u0.Mul, .int .i64 u0.Div, .int .i64 u0.Add, .int .i64 u0.Key] 23, hle95, hF122.region (by kernel_rfl) (by kernel_rfl), hMx.perm (List.Perm.refl _), cu23, cu24, cu25, cu26, cu27, kf, cu29, (nt hx7), (nt hx8), kf, (nt hx9), rfl⟩
  · -- 6: move
   obtain rfl := Option.some.inj hi
   have hx6 := hSi
   have hx7 := negF hcl 7 6 (by kernel_rfl) hx6
   have hx8 := negF hcl 8 7 (by kernel_rfl) hx7
   have hx9 := negF hcl 9 6 (by kernel_rfl) hx6
   obtain rfl := cr0_0 hx9
   obtain rfl := cr1_0
   refine hG (any_step ?_); clear hG G; intro A J hJ
   have hle0 := Fz.le.trans hle0 hle95
   refine s1 hFx 29 (.int .i64 (ngcd (w64 ((w64 (u1 * u0.Mul)) + (w64 (u0.Add * u0.Div)))) u0.Div)) ?_; intro a124 hF125; clear hFx
   refine nl (qnI (hJ _ _ ?_)); clear hJ J
   exact ⟨ud23, ud24, ud25, ud26, ud27, ud28, .int .i64 (ngcd (w64 ((w64 (u1 * u0.Mul)) + (w64 (u0.Add * u0.Div)))) u0.Div), ud30, ud31, .row b7 [str [], .int .i64 0, .int .i64 0] 26, .row b2 [str u0.Name, .int .i64 u0.Start, .int .i64 u0.Size, .bool u0.Back, .bool u0.Signed, .int .i64 u0.Mul, .int .i64 u0.Div, .int .i64 u0.Add, .int .i64 u0.Key] 23, hle95, hF125.region (by kernel_rfl) (by kernel_rfl), hMx.perm (List.Perm.refl _), cu23, cu24, cu25, cu26, cu27, cu28, kf, (nt hx7), (nt hx8), kf, (nt hx9), rfl⟩
  · -- 7: binOp
   obtain rfl := Option.some.inj hi
   have hx6 := hpre 6 (by kernel_rfl)
   have hx5 := hpre 5 (by kernel_rfl)
   have hx7 := hSi
   have hx8 := negF hcl 8 7 (by kernel_rfl) hx7
   have hx9 := negF hcl 9 7 (by kernel_rfl) hx7
   obtain rfl := cu28 hx5
   obtain rfl := cu29 hx6
   obtain rfl := cr0_0 hx9
   obtain rfl := cr1_0
   refine hG (any_step ?_); clear hG G; intro A J hJ
   have hle0 := Fz.le.trans hle0 hle95
   refine st hFx (.int .i64 (w64 (u0.Div.tdiv (ngcd (w64 ((w64 (u1 * u0.Mul)) + (w64 (u0.Add * u0.Div)))) u0.Div)))) (nog rfl _) rfl (by kernel_rfl) (quo_run hFx (g := []) rfl (by kernel_rfl) (by kernel_rfl) hcd7_0 rfl) ?_; intro a127 hF128; clear hFx
   refine nl (qnI (hJ _ _ ?_)); clear hJ J
   exact ⟨ud23, ud24, ud25, ud26, ud27, .int .i64 u0.Div, .int .i64 (ngcd (w64 ((w64 (u1 * u0.Mul)) + (w64 (u0.Add * u0.Div)))) u0.Div), .int .i64 (w64 (u0.Div.tdiv (ngcd (w64 ((w64 (u1 * u0.Mul)) + (w64 (u0.Add * u0.Div)))) u0.Div))), ud31, .row b7 [str [], .int .i64 0, .int .i64 0] 26, .row b2 [str u0.Name, .int .i64 u0.Start, .int .i64 u0.Size, .bool u0.Back, .bool u0.Signed, .int .i64 u0.Mul, .int .i64 u0.Div, .int .i64 u0.Add, .int .i64 u0.Key] 23, hle95, hF128.region (by kernel_rfl) (by kernel_rfl), hMx.perm (List.Perm.refl _), cu23, cu24, cu25, cu26, cu27, kf, kf, kf, (nt hx8), kf, (nt hx9), rfl⟩
  · -- 8: build
   obtain rfl := Option.some.inj hi
   have hx7 := hpre 7 (by kernel_rfl)
   have hx4 := hpre 4 (by kernel_rfl)
   have hx1 := hpre 1 (by kernel_rfl)
   have hx6 := hcl 7 6 (by kernel_rfl) hx7
   have hx5 := hcl 7 5 (by kernel_rfl) hx7
   have hx3 := hcl 4 3 (by kernel_rfl) hx4
   have hx2 := hcl 4 2 (by kernel_rfl) hx4
   have hx0 := hcl 1 0 (by kernel_rfl) hx1
   have hx8 := hSi
   have hx9 := negF hcl 9 8 (by kernel_rfl) hx8
   obtain rfl := cu23 hx0
   obtain rfl := cu24 hx1
   obtain rfl := cu25 hx2
   obtain rfl := cu26 hx3
   obtain rfl := cu27 hx4
   obtain rfl := cu28 hx5
   obtain rfl := cu29 hx6
   obtain rfl := cu30 hx7
   obtain rfl := cr0_0 hx9
   obtain rfl := cr1_0
   refine hG (any_step ?_); clear hG G; intro A J hJ
   have hle0 := Fz.le.trans hle0 hle95
   refine s1 hFx 31 (.agg #[str u0.Name, .int .i64 (w64 ((w64 ((w64 (u1 * u0.Mul)) + (w64 (u0.Add * u0.Div)))).tdiv (ngcd (w64 ((w64 (u1 * u0.Mul)) + (w64 (u0.Add * u0.Div)))) u0.Div))), .int .i64 (w64 (u0.Div.tdiv (ngcd (w64 ((w64 (u1 * u0.Mul)) + (w64 (u0.Add * u0.Div)))) u0.Div)))]) ?_; intro a130 hF131; clear hFx
   refine nl (qnI (hJ _ _ ?_)); clear hJ J
   exact ⟨.pointer (some ⟨b2, 0, none⟩), str u0.Name, .int .i64 (w64 ((w64 (u1 * u0.Mul)) + (w64 (u0.Add * u0.Div)))), .int .i64 (ngcd (w64 ((w64 (u1 * u0.Mul)) + (w64 (u0.Add * u0.Div)))) u0.Div), .int .i64 (w64 ((w64 ((w64 (u1 * u0.Mul)) + (w64 (u0.Add * u0.Div)))).tdiv (ngcd (w64 ((w64 (u1 * u0.Mul)) + (w64 (u0.Add * u0.Div)))) u0.Div))), .int .i64 u0.Div, .int .i64 (ngcd (w64 ((w64 (u1 * u0.Mul)) + (w64 (u0.Add * u0.Div)))) u0.Div), .int .i64 (w64 (u0.Div.tdiv (ngcd (w64 ((w64 (u1 * u0.Mul)) + (w64 (u0.Add * u0.Div)))) u0.Div))), .agg #[str u0.Name, .int .i64 (w64 ((w64 ((w64 (u1 * u0.Mul)) + (w64 (u0.Add * u0.Div)))).tdiv (ngcd (w64 ((w64 (u1 * u0.Mul)) + (w64 (u0.Add * u0.Div)))) u0.Div))), .int .i64 (w64 (u0.Div.tdiv (ngcd (w64 ((w64 (u1 * u0.Mul)) + (w64 (u0.Add * u0.Div)))) u0.Div)))], .row b7 [str [], .int .i64 0, .int .i64 0] 26, .row b2 [str u0.Name, .int .i64 u0.Start, .int .i64 u0.Size, .bool u0.Back, .bool u0.Signed, .int .i64 u0.Mul, .int .i64 u0.Div, .int .i64 u0.Add, .int .i64 u0.Key] 23, hle95, hF131.region (by kernel_rfl) (by kernel_rfl), hMx.perm (List.Perm.refl _), kf, kf, kf, kf, kf, kf, kf, kf, kf, kf, (nt hx9), rfl⟩
  · -- 9: store
   obtain rfl := Option.some.inj hi
   have hx8 := hpre 8 (by kernel_rfl)
   have hx7 := hpre 7 (by kernel_rfl)
   have hx6 := hpre 6 (by kernel_rfl)
   have hx5 := hpre 5 (by kernel_rfl)
   have hx4 := hpre 4 (by kernel_rfl)
   have hx3 := hpre 3 (by kernel_rfl)
   have hx2 := hpre 2 (by kernel_rfl)
   have hx1 := hpre 1 (by kernel_rfl)
   have hx0 := hpre 0 (by kernel_rfl)
   have hx9 := hSi
   obtain rfl := cu23 hx0
   obtain rfl := cu24 hx1
   obtain rfl := cu25 hx2
   obtain rfl := cu26 hx3
   obtain rfl := cu27 hx4
   obtain rfl := cu28 hx5
   obtain rfl := cu29 hx6
   obtain rfl := cu30 hx7
   obtain rfl := cu31 hx8
   obtain rfl := cr0_0 hx9
   obtain rfl := cr1_0
   refine hG (any_step ?_); clear hG G; intro A J hJ
   have hle0 := Fz.le.trans hle0 hle95
   refine sr hFx hMx 0 [str u0.Name, .int .i64 (w64 ((w64 ((w64 (u1 * u0.Mul)) + (w64 (u0.Add * u0.Div)))).tdiv (ngcd (w64 ((w64 (u1 * u0.Mul)) + (w64 (u0.Add * u0.Div)))) u0.Div))), .int .i64 (w64 (u0.Div.tdiv (ngcd (w64 ((w64 (u1 * u0.Mul)) + (w64 (u0.Add * u0.Div)))) u0.Div)))] (b := b7) (off := 0) (cs := [str [], .int .i64 0, .int .i64 0]) (ty := 26) (u := .agg #[str u0.Name, .int .i64 (w64 ((w64 ((w64 (u1 * u0.Mul)) + (w64 (u0.Add * u0.Div)))).tdiv (ngcd (w64 ((w64 (u1 * u0.Mul)) + (w64 (u0.Add * u0.Div)))) u0.Div))), .int .i64 (w64 (u0.Div.tdiv (ngcd (w64 ((w64 (u1 * u0.Mul)) + (w64 (u0.Add * u0.Div)))) u0.Div)))]) (nog rfl _) rfl rfl (by kernel_rfl) (by kernel_rfl) (by kernel_rfl) (by kernel_rfl) (by kernel_rfl) (by kernel_rfl) (by kernel_rfl) ?_; intro wd133 hM134; clear hMx
   refine nl (qnI (hJ _ _ ?_)); clear hJ J
   exact ⟨.pointer (some ⟨b2, 0, none⟩), str u0.Name, .int .i64 (w64 ((w64 (u1 * u0.Mul)) + (w64 (u0.Add * u0.Div)))), .int .i64 (ngcd (w64 ((w64 (u1 * u0.Mul)) + (w64 (u0.Add * u0.Div)))) u0.Div), .int .i64 (w64 ((w64 ((w64 (u1 * u0.Mul)) + (w64 (u0.Add * u0.Div)))).tdiv (ngcd (w64 ((w64 (u1 * u0.Mul)) + (w64 (u0.Add * u0.Div)))) u0.Div))), .int .i64 u0.Div, .int .i64 (ngcd (w64 ((w64 (u1 * u0.Mul)) + (w64 (u0.Add * u0.Div)))) u0.Div), .int .i64 (w64 (u0.Div.tdiv (ngcd (w64 ((w64 (u1 * u0.Mul)) + (w64 (u0.Add * u0.Div)))) u0.Div))), .agg #[str u0.Name, .int .i64 (w64 ((w64 ((w64 (u1 * u0.Mul)) + (w64 (u0.Add * u0.Div)))).tdiv (ngcd (w64 ((w64 (u1 * u0.Mul)) + (w64 (u0.Add * u0.Div)))) u0.Div))), .int .i64 (w64 (u0.Div.tdiv (ngcd (w64 ((w64 (u1 * u0.Mul)) + (w64 (u0.Add * u0.Div)))) u0.Div)))], .row b7 [str u0.Name, .int .i64 (w64 ((w64 ((w64 (u1 * u0.Mul)) + (w64 (u0.Add * u0.Div)))).tdiv (ngcd (w64 ((w64 (u1 * u0.Mul)) + (w64 (u0.Add * u0.Div)))) u0.Div))), .int .i64 (w64 (u0.Div.tdiv (ngcd (w64 ((w64 (u1 * u0.Mul)) + (w64 (u0.Add * u0.Div)))) u0.Div)))] 26, .row b2 [str u0.Name, .int .i64 u0.Start, .int .i64 u0.Size, .bool u0.Back, .bool u0.Signed, .int .i64 u0.Mul, .int .i64 u0.Div, .int .i64 u0.Add, .int .i64 u0.Key] 23, hle95, hFx.region (by kernel_rfl) (by kernel_rfl), hM134.perm (List.Perm.refl _), kf, kf, kf, kf, kf, kf, kf, kf, kf, nu, kf, rfl⟩
 case hE =>
  intro S hS a136 wd137 hI; refine Go.Sy.hid ?_; intro G hG; obtain ⟨ud23, hI⟩ := hI; obtain ⟨ud24, hI⟩ := hI; obtain ⟨ud25, hI⟩ := hI; obtain ⟨ud26, hI⟩ := hI; obtain ⟨ud27, hI⟩ := hI; obtain ⟨ud28, hI⟩ := hI; obtain ⟨ud29, hI⟩ := hI; obtain ⟨ud30, hI⟩ := hI; obtain ⟨ud31, hI⟩ := hI; obtain ⟨rh0, hI⟩ := hI; obtain ⟨rh1, hI⟩ := hI; obtain ⟨hle95, hI⟩ := hI; obtain ⟨hFx, hI⟩ := hI; obtain ⟨hMx, hI⟩ := hI; obtain ⟨cu23, hI⟩ := hI; obtain ⟨cu24, hI⟩ := hI; obtain ⟨cu25, hI⟩ := hI; obtain ⟨cu26, hI⟩ := hI; obtain ⟨cu27, hI⟩ := hI; obtain ⟨cu28, hI⟩ := hI; obtain ⟨cu29, hI⟩ := hI; obtain ⟨cu30, hI⟩ := hI; obtain ⟨cu31, hI⟩ := hI; obtain ⟨cr0_0, hI⟩ := hI; obtain ⟨cr0_1, hI⟩ := hI; have cr1_0 := hI; clear hI; refine hG ?_; clear hG G
  obtain rfl := cu23 (hS 0 (by decide))
  obtain rfl := cu24 (hS 1 (by decide))
  obtain rfl := cu25 (hS 2 (by decide))
  obtain rfl := cu26 (hS 3 (by decide))
  obtain rfl := cu27 (hS 4 (by decide))
  obtain rfl := cu28 (hS 5 (by decide))
  obtain rfl := cu29 (hS 6 (by decide))
  obtain rfl := cu30 (hS 7 (by decide))
  obtain rfl := cu31 (hS 8 (by decide))
  obtain rfl := cr0_1 (hS 9 (by decide))
  obtain rfl := cr1_0
  have hle0 := Fz.le.trans hle0 hle95
  refine thn ?_
  refine wp_ret ?_
  refine rt (fn := Tryd.f36) (v := .agg #[str u0.Name, .int .i64 (w64 ((w64 ((w64 (u1 * u0.Mul)) + (w64 (u0.Add * u0.Div)))).tdiv (ngcd (w64 ((w64 (u1 * u0.Mul)) + (w64 (u0.Add * u0.Div)))) u0.Div))), .int .i64 (w64 (u0.Div.tdiv (ngcd (w64 ((w64 (u1 * u0.Mul)) + (w64 (u0.Add * u0.Div)))) u0.Div)))]) hFx (re1c hFx (fn := Tryd.f36) rfl (ad := ⟨b7, 0, none⟩) (by kernel_rfl) (loadVar_run hMx 0 (b := b7) (k := 3) (vs := [str u0.Name, .int .i64 (w64 ((w64 ((w64 (u1 * u0.Mul)) + (w64 (u0.Add * u0.Div)))).tdiv (ngcd (w64 ((w64 (u1 * u0.Mul)) + (w64 (u0.Add * u0.Div)))) u0.Div))), .int .i64 (w64 (u0.Div.tdiv (ngcd (w64 ((w64 (u1 * u0.Mul)) + (w64 (u0.Add * u0.Div)))) u0.Div)))]) (ty := 26) rfl (by kernel_rfl) (by kernel_rfl)) ) ?_
  exact ⟨(⟨u0.Name, w64 ((w64 ((w64 (u1 * u0.Mul)) + (w64 (u0.Add * u0.Div)))).tdiv (ngcd (w64 ((w64 (u1 * u0.Mul)) + (w64 (u0.Add * u0.Div)))) u0.Div)), w64 (u0.Div.tdiv (ngcd (w64 ((w64 (u1 * u0.Mul)) + (w64 (u0.Add * u0.Div)))) u0.Div))⟩ : Reading), rfl, hp94, hMx.below⟩

end Go.Proofs.YtdndfbamhnchfaaDoor
