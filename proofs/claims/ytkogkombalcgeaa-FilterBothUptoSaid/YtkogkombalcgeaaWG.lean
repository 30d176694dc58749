/- The walks, made by program: each call does what its pure predicate says. -/
import Derived.Test.YtkogkombalcgeaaPG
import Derived.Test.YtkogkombalcgeaaWF
set_option linter.unusedVariables false
set_option linter.unusedSimpArgs false
namespace Go.Proofs.Ytkogkombalcgeaa
open Go.Sy Go.RowKit
theorem fgrow_fun (u1 : Int) (hpre : 0 ≤ u1 ∧ u1 ≤ 4000000)  (Z : Fz) (w : World)  (hZ : Z.on w) : Calls Try.prog 56 #[.slice none 0 0, .int .i64 u1] w fun e w' => ∃ (ao1001 : Option Addr) (cap1002 : Nat) (Z' : Fz), e = .returned (.slice ao1001 (fgrowS u1).length cap1002) ∧ Mem w.heap.size [] w Z [.own tyFilter 28 ao1001 cap1002 (fgrowS u1)] Z' w' :=
  (fgrow_walk u1  Z w  hZ (fgrow_ok u1 hpre)).mono fun _ _ ⟨r, h0, h1, h2, he, hk, hm⟩ => by subst hk; exact ⟨h0, h1, h2, he, hm⟩

set_option maxRecDepth 100000 in
theorem fconcat_walk (u0 : List (List Filter)) (ao1 : Option Addr) (cap2 : Nat) (Z : Fz) (w : World) (hs3 : SlR (tySl tyFilter) Z ao1 cap2 u0) (hZ : Z.on w) {K : (List Filter) → Prop} (hp : fconcat_vc u0 K) : Calls Try.prog 29 #[.slice ao1 u0.length cap2] w fun e w' => ∃ (r : (List Filter)) (ao1001 : Option Addr) (cap1002 : Nat) (Z' : Fz), e = .returned (.slice ao1001 r.length cap1002) ∧ K r ∧ Mem w.heap.size [] w Z [.own tyFilter 28 ao1001 cap1002 r] Z' w' := by
 refine enter0 Try.func29 rfl rfl (by kernel_rfl) ?_; intro a0 hF0; have hM0 := Mem.start w Z hZ; have hle0 := Fz.le.refl Z
 have hp4 := hp (hs3.small); clear hp
 refine sqH ?_; intro hQ5Q hQ5
 refine s1 hF0 2 (.slice none 0 0) ?_; intro a6 hF7; clear hF0
 refine nlH (hQ5 _ _ ?_); clear hQ5 hQ5Q
 refine sqH ?_; intro hQ8Q hQ8
 refine s1 hF7 3 (.int .i64 0) ?_; intro a9 hF10; clear hF7
 refine nlH (hQ8 _ _ ?_); clear hQ8 hQ8Q
 refine wp_seq ?_
 refine sqH ?_; intro hQ11Q hQ11
 refine s1 hF10 9 (.slice ao1 u0.length cap2) ?_; intro a12 hF13; clear hF10
 refine s1 hF13 10 (.int .i64 (u0.length : Int)) ?_; intro a14 hF15; clear hF13
 refine s1 hF15 11 (.int .i64 0) ?_; intro a16 hF17; clear hF15
 refine nlH (hQ11 _ _ ?_); clear hQ11 hQ11Q
 refine wp_block ?_
 have hF18 : Fr 36 [] [⟨0, [], .slice ao1 u0.length cap2⟩, ⟨3, [], .int .i64 0⟩, ⟨9, [], .slice ao1 u0.length cap2⟩, ⟨10, [], .int .i64 (u0.length : Int)⟩, ⟨11, [], .int .i64 0⟩] a16 := hF17.region (by kernel_rfl) (by kernel_rfl); clear hF17
 have hF20 : Fr 36 [] [⟨0, [], .slice ao1 u0.length cap2⟩, ⟨3, [], .int .i64 0⟩, ⟨9, [], .slice ao1 u0.length cap2⟩, ⟨10, [], .int .i64 (u0.length : Int)⟩, ⟨11, [], .int .i64 0⟩] a16 := hF18.region (by kernel_rfl) (by kernel_rfl); clear hF18
 obtain ⟨inv19, mu19, hI23, hr22⟩ := hp4
 refine lp (ι := Int × Int) (fun (s : Int × Int) => [⟨0, [], .slice ao1 u0.length cap2⟩, ⟨3, [], .int .i64 s.1⟩, ⟨9, [], .slice ao1 u0.length cap2⟩, ⟨10, [], .int .i64 (u0.length : Int)⟩, ⟨11, [], .int .i64 s.2⟩]) (fun (s : Int × Int) => []) (fun (s : Int × Int) => Z) (fun (s : Int × Int) => inv19 s.1 s.2) (fun (s : Int × Int) => mu19 s.1 s.2) ⟨0, 0⟩ hI23 (by exact hF20.region (by kernel_rfl) (by kernel_rfl)) (by exact hM0) ?_
 rintro ⟨x3, x11⟩ hI21 a25 wd26 hF27 hM28
 have hF29 : Fr 36 [] [⟨0, [], .slice ao1 u0.length cap2⟩, ⟨3, [], .int .i64 x3⟩, ⟨9, [], .slice ao1 u0.length cap2⟩, ⟨10, [], .int .i64 (u0.length : Int)⟩, ⟨11, [], .int .i64 x11⟩] a25 := hF27; clear hF27 hF20
 have hM30 : Mem w.heap.size [] w Z [] Z wd26 := hM28; clear hM28 hM0
 have hp31 := hr22 x3 x11 hI21
 refine sqH ?_; intro hQ32Q hQ32
 refine s1 hF29 12 (.bool (decide (x11 < (u0.length : Int)))) ?_; intro a33 hF34; clear hF29
 refine nlH (hQ32 _ _ ?_); clear hQ32 hQ32Q
 refine wp_seq ?_
 refine cd hF34 (t := decide (x11 < (u0.length : Int))) (by kernel_rfl) (fun hb35 => ?_) (fun hb35 => ?_)
 · -- yes
  have hp36 := hp31.1 hb35; clear hp31
  refine wp_skip ?_
  refine thn ?_
  refine wp_seq ?_
  refine wp_block ?_
  refine sqH ?_; intro hQ37Q hQ37
  have hc38 := hp36.1; have hp39 := hp36.2; clear hp36
  refine ix hF34 (T := (tySl tyFilter)) (xs := u0) hs3 x11 hc38 (k := .i64) (e := 22) (bytes := 24) (nog rfl _) rfl (by kernel_rfl) rfl (by kernel_rfl) (by kernel_rfl) (by kernel_rfl) ?_; intro b40 off41 cs42 q43 a47 hq44 hP45 hT46 hF48; clear hF34
  have hp49 := hp39 q43 hq44; clear hp39
  obtain ⟨ao50, cap51, rfl, hs52⟩ := hT46
  have hp53 := hp49 (hs52.small); clear hp49
  refine z1 hF48 hM30 14 hP45 0 (.slice ao50 q43.length cap51) rfl ?_; intro a54 hF55; clear hF48
  refine s1 hF55 5 (.slice ao50 q43.length cap51) ?_; intro a56 hF57; clear hF55
  refine nlH (hQ37 _ _ ?_); clear hQ37 hQ37Q
  refine sqH ?_; intro hQ58Q hQ58
  refine s1 hF57 15 (.int .i64 x3) ?_; intro a59 hF60; clear hF57
  refine s1 hF60 16 (.slice ao50 q43.length cap51) ?_; intro a61 hF62; clear hF60
  refine s1 hF62 17 (.int .i64 (q43.length : Int)) ?_; intro a63 hF64; clear hF62
  refine s1 hF64 18 (.int .i64 (w64 (x3 + (q43.length : Int)))) ?_; intro a65 hF66; clear hF64
  refine s1 hF66 3 (.int .i64 (w64 (x3 + (q43.length : Int)))) ?_; intro a67 hF68; clear hF66
  refine nlH (hQ58 _ _ ?_); clear hQ58 hQ58Q
  refine sqH ?_; intro hQ69Q hQ69
  refine s1 hF68 19 (.int .i64 (w64 (x3 + (q43.length : Int)))) ?_; intro a70 hF71; clear hF68
  refine s1 hF71 20 (.bool (decide ((w64 (x3 + (q43.length : Int))) < 0))) ?_; intro a72 hF73; clear hF71
  refine nlH (hQ69 _ _ ?_); clear hQ69 hQ69Q
  refine cd hF73 (t := decide ((w64 (x3 + (q43.length : Int))) < 0)) (by kernel_rfl) (fun hb74 => ?_) (fun hb74 => ?_)
  · -- yes
   have hp75 := hp53.1 hb74; clear hp53
   exact False.elim hp75
  · -- no
   have hp76 := hp53.2 hb74; clear hp53
   refine wp_skip ?_
   refine ibn ?_
   refine thn ?_
   refine rgH ?_; intro hQ77Q hQ77
   refine s1 hF73 22 (.int .i64 (w64 (x11 + 1))) ?_; intro a78 hF79; clear hF73
   refine s1 hF79 11 (.int .i64 (w64 (x11 + 1))) ?_; intro a80 hF81; clear hF79
   refine nlH (hQ77 _ _ ?_); clear hQ77 hQ77Q
   refine rd ?_
   exact ⟨⟨w64 (x3 + (q43.length : Int)), w64 (x11 + 1)⟩, hp76.1, hp76.2, (hF81.region (by kernel_rfl) (by kernel_rfl)).anyβ _ (by kernel_rfl), hM30.keep (List.Sublist.slnil)⟩
 · -- no
  have hp82 := hp31.2 hb35; clear hp31
  refine wp_exit ?_
  refine thx ?_
  refine thx ?_
  refine ibx ?_
  refine thn ?_
  refine sqH ?_; intro hQ83Q hQ83
  refine s1 hF34 23 (.int .i64 x3) ?_; intro a84 hF85; clear hF34
  have hc86 := hp82.1; have hp87 := hp82.2; clear hp82
  refine cl hF85 56 #[.slice none 0 0, .int .i64 x3] (nog rfl _) rfl (by kernel_rfl) (by kernel_rfl) ?_
  refine (fgrow_fun x3 hc86 _ _ hM30.fz).mono ?_; rintro _ wd88 ⟨ao92, cap93, Z94, rfl, hm⟩; refine ⟨_, rfl, ?_⟩; intro a89 hF90; have hM91 := hM30.callZ hm; have hle95 := hm.ext.le; clear hm hM30 hF85
  replace hs3 := hs3.mono hle95
  replace hle0 := Fz.le.trans hle0 hle95
  have hM96 : Mem w.heap.size [] w Z [.own tyFilter 28 ao92 cap93 (fgrowS x3)] Z94 wd88 := hM91; clear hM91
  have hp97 := hp87 (hM96.ownSmall 0 rfl); clear hp87
  refine s1 hF90 6 (.slice ao92 (fgrowS x3).length cap93) ?_; intro a98 hF99; clear hF90
  refine nlH (hQ83 _ _ ?_); clear hQ83 hQ83Q
  refine wp_seq ?_
  refine sqH ?_; intro hQ100Q hQ100
  refine s1 hF99 25 (.slice ao1 u0.length cap2) ?_; intro a101 hF102; clear hF99
  refine s1 hF102 26 (.int .i64 (u0.length : Int)) ?_; intro a103 hF104; clear hF102
  refine s1 hF104 27 (.int .i64 0) ?_; intro a105 hF106; clear hF104
  refine nlH (hQ100 _ _ ?_); clear hQ100 hQ100Q
  refine wp_block ?_
  have hF107 : Fr 36 [] [⟨6, [], .slice ao92 (fgrowS x3).length cap93⟩, ⟨25, [], .slice ao1 u0.length cap2⟩, ⟨26, [], .int .i64 (u0.length : Int)⟩, ⟨27, [], .int .i64 0⟩] a105 := hF106.region (by kernel_rfl) (by kernel_rfl); clear hF106
  have hF109 : Fr 36 [] [⟨6, [], .slice ao92 (fgrowS x3).length cap93⟩, ⟨25, [], .slice ao1 u0.length cap2⟩, ⟨26, [], .int .i64 (u0.length : Int)⟩, ⟨27, [], .int .i64 0⟩] a105 := hF107.region (by kernel_rfl) (by kernel_rfl); clear hF107
  obtain ⟨inv108, mu108, hI112, hr111⟩ := hp97
  refine lp (ι := (List Filter) × Int × (Option Addr) × Nat) (fun (s : (List Filter) × Int × (Option Addr) × Nat) => [⟨6, [], .slice s.2.2.1 s.1.length s.2.2.2⟩, ⟨25, [], .slice ao1 u0.length cap2⟩, ⟨26, [], .int .i64 (u0.length : Int)⟩, ⟨27, [], .int .i64 s.2.1⟩]) (fun (s : (List Filter) × Int × (Option Addr) × Nat) => [.own tyFilter 28 s.2.2.1 s.2.2.2 s.1]) (fun (s : (List Filter) × Int × (Option Addr) × Nat) => Z94) (fun (s : (List Filter) × Int × (Option Addr) × Nat) => inv108 s.1 s.2.1) (fun (s : (List Filter) × Int × (Option Addr) × Nat) => mu108 s.1 s.2.1) ⟨(fgrowS x3), 0, ao92, cap93⟩ hI112 (by exact hF109.region (by kernel_rfl) (by kernel_rfl)) (by exact hM96) ?_
  rintro ⟨x6, x27, aox6, capx6⟩ hI110 a114 wd115 hF116 hM117
  have hF118 : Fr 36 [] [⟨6, [], .slice aox6 x6.length capx6⟩, ⟨25, [], .slice ao1 u0.length cap2⟩, ⟨26, [], .int .i64 (u0.length : Int)⟩, ⟨27, [], .int .i64 x27⟩] a114 := hF116; clear hF116 hF109
  have hM119 : Mem w.heap.size [] w Z [.own tyFilter 28 aox6 capx6 x6] Z94 wd115 := hM117; clear hM117 hM96
  have hp120 := hr111 x6 x27 hI110
  refine sqH ?_; intro hQ121Q hQ121
  refine s1 hF118 28 (.bool (decide (x27 < (u0.length : Int)))) ?_; intro a122 hF123; clear hF118
  refine nlH (hQ121 _ _ ?_); clear hQ121 hQ121Q
  refine wp_seq ?_
  refine cd hF123 (t := decide (x27 < (u0.length : Int))) (by kernel_rfl) (fun hb124 => ?_) (fun hb124 => ?_)
  · -- yes
   have hp125 := hp120.1 hb124; clear hp120
   refine wp_skip ?_
   refine thn ?_
   refine wp_seq ?_
   refine wp_block ?_
   refine sqH ?_; intro hQ126Q hQ126
   have hc127 := hp125.1; have hp128 := hp125.2; clear hp125
   refine ix hF123 (T := (tySl tyFilter)) (xs := u0) hs3 x27 hc127 (k := .i64) (e := 22) (bytes := 24) (nog rfl _) rfl (by kernel_rfl) rfl (by kernel_rfl) (by kernel_rfl) (by kernel_rfl) ?_; intro b129 off130 cs131 q132 a136 hq133 hP134 hT135 hF137; clear hF123
   have hp138 := hp128 q132 hq133; clear hp128
   obtain ⟨ao139, cap140, rfl, hs141⟩ := hT135
   have hp142 := hp138 (hs141.small); clear hp138
   refine z1 hF137 hM119 30 hP134 0 (.slice ao139 q132.length cap140) rfl ?_; intro a143 hF144; clear hF137
   refine s1 hF144 8 (.slice ao139 q132.length cap140) ?_; intro a145 hF146; clear hF144
   refine nlH (hQ126 _ _ ?_); clear hQ126 hQ126Q
   refine rgH ?_; intro hQ147Q hQ147
   refine s1 hF146 31 (.slice aox6 x6.length capx6) ?_; intro a148 hF149; clear hF146
   refine s1 hF149 32 (.slice ao139 q132.length cap140) ?_; intro a150 hF151; clear hF149
   have hc152 := hp142.1; have hp153 := hp142.2; clear hp142
   refine ap hF151 hM119 0 (T := tyFilter) (xs := x6) (ys := q132) (ao := aox6) (cap := capx6) (ao2 := ao139) (cap2 := cap140) (t := 22) (e := 28) (bytes := 24) (nog rfl _) rfl (by kernel_rfl) rfl (by kernel_rfl) (by kernel_rfl) (by kernel_rfl) rfl (Src.fz (by decide) hM119.fz hs141) hc152 ?_; intro ao154 cap155 a159 wd156 hnil157 hF160 hM158; clear hF151 hM119
   have hM161 : Mem w.heap.size [] w Z [.own tyFilter 28 ao154 cap155 (x6 ++ q132)] Z94 wd156 := hM158; clear hM158
   refine s1 hF160 6 (.slice ao154 (x6 ++ q132).length cap155) ?_; intro a162 hF163; clear hF160
   refine nlH (hQ147 _ _ ?_); clear hQ147 hQ147Q
   refine ibn ?_
   refine thn ?_
   refine rgH ?_; intro hQ164Q hQ164
   refine s1 hF163 34 (.int .i64 (w64 (x27 + 1))) ?_; intro a165 hF166; clear hF163
   refine s1 hF166 27 (.int .i64 (w64 (x27 + 1))) ?_; intro a167 hF168; clear hF166
   refine nlH (hQ164 _ _ ?_); clear hQ164 hQ164Q
   refine rd ?_
   exact ⟨⟨x6 ++ q132, w64 (x27 + 1), ao154, cap155⟩, hp153.1, hp153.2, (hF168.region (by kernel_rfl) (by kernel_rfl)).anyβ _ (by kernel_rfl), hM161.keep (List.Sublist.cons_cons _ (List.Sublist.slnil))⟩
  · -- no
   have hp169 := hp120.2 hb124; clear hp120
   refine wp_exit ?_
   refine thx ?_
   refine thx ?_
   refine ibx ?_
   refine thn ?_
   refine sqH ?_; intro hQ170Q hQ170
   refine s1 hF123 35 (.slice aox6 x6.length capx6) ?_; intro a171 hF172; clear hF123
   refine s1 hF172 2 (.slice aox6 x6.length capx6) ?_; intro a173 hF174; clear hF172
   refine nlH (hQ170 _ _ ?_); clear hQ170 hQ170Q
   refine wp_ret ?_
   refine rt (fn := Try.f29) (v := .slice aox6 x6.length capx6) hF174 (re1 hF174 (fn := Try.f29) rfl (by kernel_rfl)) ?_
   exact ⟨x6, aox6, capx6, Z94, rfl, hp169, hM119.keep (List.Sublist.cons_cons _ (List.Sublist.slnil))⟩

end Go.Proofs.Ytkogkombalcgeaa
