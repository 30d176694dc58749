/- The walks, made by program: each call does what its pure predicate says. -/
import Derived.Test.YtkogkombalcgeaaPL
import Derived.Test.YtkogkombalcgeaaWK
set_option linter.unusedVariables false
set_option linter.unusedSimpArgs false
namespace Go.Proofs.Ytkogkombalcgeaa
open Go.Sy Go.RowKit
theorem bclone_fun (u0 : List Int) (hpre : u0.length ≤ 1000000) (ao1 : Option Addr) (cap2 : Nat) (Z : Fz) (w : World) (hs3 : SlR (tyInt .u8) Z ao1 cap2 u0) (hZ : Z.on w) : Calls Try.prog 57 #[.slice ao1 u0.length cap2] w fun e w' => ∃ (ao1001 : Option Addr) (cap1002 : Nat) (Z' : Fz), e = .returned (.slice ao1001 (bcloneS u0).length cap1002) ∧ Mem w.heap.size [] w Z [.own (tyInt .u8) 5 ao1001 cap1002 (bcloneS u0)] Z' w' :=
  (bclone_walk u0 ao1 cap2 Z w hs3 hZ (bclone_ok u0 hpre)).mono fun _ _ ⟨r, h0, h1, h2, he, hk, hm⟩ => by subst hk; exact ⟨h0, h1, h2, he, hm⟩

theorem prow_fun (u0 : List Int) (u1 : List Int) (hpre : u0.length ≤ 1000000 ∧ u1.length ≤ 1000000) (ao1 : Option Addr) (cap2 : Nat) (ao4 : Option Addr) (cap5 : Nat) (B : Nat) (w0 : World) (Z0 : Fz) (Rr : List Res) (Z : Fz) (w : World) (hs3 : SlR (tyInt .u8) Z ao1 cap2 u0) (hM0 : Mem B [] w0 Z0 ((.own (tyInt .u8) 5 ao4 cap5 u1) :: Rr) Z w) (hZ : Z.on w) : Calls Try.prog 58 #[.slice ao1 u0.length cap2, .slice ao4 u1.length cap5] w fun e w' => ∃ (ao1001 : Option Addr) (cap1002 : Nat) (Z' : Fz), e = .returned (.slice ao1001 (prowS u0 u1).length cap1002) ∧ Fz.le Z Z' ∧ Mem B [] w0 Z0 ((.own (tyInt .u8) 5 ao1001 cap1002 (prowS u0 u1)) :: Rr) Z' w' :=
  (prow_walk u0 u1 ao1 cap2 ao4 cap5 B w0 Z0 Rr Z w hs3 hM0 hZ (prow_ok u0 u1 hpre)).mono fun _ _ ⟨r, h0, h1, h2, he, hk, f0, hm⟩ => by subst hk; exact ⟨h0, h1, h2, he, f0, hm⟩

theorem rchecks_fun (u0 : Sender) (ao1 : Option Addr) (cap2 : Nat) (Z : Fz) (w : World) (hs3 : SlR (tyInt .u8) Z ao1 cap2 u0.Data) (hZ : Z.on w) : Calls Try.prog 32 #[.agg #[.slice ao1 u0.Data.length cap2, .int .i64 u0.At, .int .i64 u0.Next, .int .i64 u0.Left, .bool u0.Done]] w fun e w' => e = .returned (.int .i64 (pchecks u0)) ∧ Below w.heap.size w w' :=
  (rchecks_walk u0 ao1 cap2 Z w hs3 hZ (rchecks_ok u0)).mono fun _ _ ⟨r, he, hk, hb⟩ => ⟨by subst hk; exact he, hb⟩

theorem beq_fun (u0 : List Int) (u1 : List Int) (ao1 : Option Addr) (cap2 : Nat) (ao4 : Option Addr) (cap5 : Nat) (Z : Fz) (w : World) (hs3 : SlR (tyInt .u8) Z ao1 cap2 u0) (hs6 : SlR (tyInt .u8) Z ao4 cap5 u1) (hZ : Z.on w) : Calls Try.prog 37 #[.slice ao1 u0.length cap2, .slice ao4 u1.length cap5] w fun e w' => e = .returned (.bool (beqS u0 u1)) ∧ Below w.heap.size w w' :=
  (beq_walk u0 u1 ao1 cap2 ao4 cap5 Z w hs3 hs6 hZ (beq_ok u0 u1)).mono fun _ _ ⟨r, he, hk, hb⟩ => ⟨by subst hk; exact he, hb⟩

theorem bgrow_fun (u1 : Int) (hpre : 0 ≤ u1 ∧ u1 ≤ 4000000)  (Z : Fz) (w : World)  (hZ : Z.on w) : Calls Try.prog 62 #[.slice none 0 0, .int .i64 u1] w fun e w' => ∃ (ao1001 : Option Addr) (cap1002 : Nat) (Z' : Fz), e = .returned (.slice ao1001 (bgrowS u1).length cap1002) ∧ Mem w.heap.size [] w Z [.own (tyInt .u8) 5 ao1001 cap1002 (bgrowS u1)] Z' w' :=
  (bgrow_walk u1  Z w  hZ (bgrow_ok u1 hpre)).mono fun _ _ ⟨r, h0, h1, h2, he, hk, hm⟩ => by subst hk; exact ⟨h0, h1, h2, he, hm⟩

set_option maxRecDepth 100000 in
theorem bconcat_walk (u0 : List (List Int)) (ao1 : Option Addr) (cap2 : Nat) (Z : Fz) (w : World) (hs3 : SlR (tySl (tyInt .u8)) Z ao1 cap2 u0) (hZ : Z.on w) {K : (List Int) → Prop} (hp : bconcat_vc u0 K) : Calls Try.prog 46 #[.slice ao1 u0.length cap2] w fun e w' => ∃ (r : (List Int)) (ao1001 : Option Addr) (cap1002 : Nat) (Z' : Fz), e = .returned (.slice ao1001 r.length cap1002) ∧ K r ∧ Mem w.heap.size [] w Z [.own (tyInt .u8) 5 ao1001 cap1002 r] Z' w' := by
 refine enter0 Try.func46 rfl rfl (by kernel_rfl) ?_; intro a0 hF0; have hM0 := Mem.start w Z hZ; have hle0 := Fz.le.refl Z
 have hp4 := hp (hs3.small); clear hp
 refine sqH ?_; intro hQ5Q hQ5
 refine s1 hF0 2 (.slice none 0 0) ?_; intro a6 hF7; clear hF0
 refine nlH (hQ5 _ _ ?_); clear hQ5 hQ5Q
 refine sqH ?_; intro hQ8Q hQ8
 refine s1 hF7 3 (.int .i64 0) ?_; intro a9 hF10; clear hF7
 refine nlH (hQ8 _ _ ?_); clear hQ8 hQ8Q
 refine wp_seq ?_
 refine sqH ?_; intro hQ11Q hQ11
 refine s1 hF10 9 (.slice ao1 u0.length cap2) ?_; intro a12 hF13; clear hF10
 refine s1 hF13 10 (.int .i64 (u0.length : Int)) ?_; intro a14 hF15; clear hF13
 refine s1 hF15 11 (.int .i64 0) ?_; intro a16 hF17; clear hF15
 refine nlH (hQ11 _ _ ?_); clear hQ11 hQ11Q
 refine wp_block ?_
 have hF18 : Fr 36 [] [⟨0, [], .slice ao1 u0.length cap2⟩, ⟨3, [], .int .i64 0⟩, ⟨9, [], .slice ao1 u0.length cap2⟩, ⟨10, [], .int .i64 (u0.length : Int)⟩, ⟨11, [], .int .i64 0⟩] a16 := hF17.region (by kernel_rfl) (by kernel_rfl); clear hF17
 have hF20 : Fr 36 [] [⟨0, [], .slice ao1 u0.length cap2⟩, ⟨3, [], .int .i64 0⟩, ⟨9, [], .slice ao1 u0.length cap2⟩, ⟨10, [], .int .i64 (u0.length : Int)⟩, ⟨11, [], .int .i64 0⟩] a16 := hF18.region (by kernel_rfl) (by kernel_rfl); clear hF18
 obtain ⟨inv19, mu19, hI23, hr22⟩ := hp4
 refine lp (ι := Int × Int) (fun (s : Int × Int) => [⟨0, [], .slice ao1 u0.length cap2⟩, ⟨3, [], .int .i64 s.1⟩, ⟨9, [], .slice ao1 u0.length cap2⟩, ⟨10, [], .int .i64 (u0.length : Int)⟩, ⟨11, [], .int .i64 s.2⟩]) (fun (s : Int × Int) => []) (fun (s : Int × Int) => Z) (fun (s : Int × Int) => inv19 s.1 s.2) (fun (s : Int × Int) => mu19 s.1 s.2) ⟨0, 0⟩ hI23 (by exact hF20.region (by kernel_rfl) (by kernel_rfl)) (by exact hM0) ?_
 rintro ⟨x3, x11⟩ hI21 a25 wd26 hF27 hM28
 have hF29 : Fr 36 [] [⟨0, [], .slice ao1 u0.length cap2⟩, ⟨3, [], .int .i64 x3⟩, ⟨9, [], .slice ao1 u0.length cap2⟩, ⟨10, [], .int .i64 (u0.length : Int)⟩, ⟨11, [], .int .i64 x11⟩] a25 := hF27; clear hF27 hF20
 have hM30 : Mem w.heap.size [] w Z [] Z wd26 := hM28; clear hM28 hM0
 have hp31 := hr22 x3 x11 hI21
 refine sqH ?_; intro hQ32Q hQ32
 refine s1 hF29 12 (.bool (decide (x11 < (u0.length : Int)))) ?_; intro a33 hF34; clear hF29
 refine nlH (hQ32 _ _ ?_); clear hQ32 hQ32Q
 refine wp_seq ?_
 refine cd hF34 (t := decide (x11 < (u0.length : Int))) (by kernel_rfl) (fun hb35 => ?_) (fun hb35 => ?_)
 · -- yes
  have hp36 := hp31.1 hb35; clear hp31
  refine wp_skip ?_
  refine thn ?_
  refine wp_seq ?_
  refine wp_block ?_
  refine sqH ?_; intro hQ37Q hQ37
  have hc38 := hp36.1; have hp39 := hp36.2; clear hp36
  refine ix hF34 (T := (tySl (tyInt .u8))) (xs := u0) hs3 x11 hc38 (k := .i64) (e := 36) (bytes := 24) (nog rfl _) rfl (by kernel_rfl) rfl (by kernel_rfl) (by kernel_rfl) (by kernel_rfl) ?_; intro b40 off41 cs42 q43 a47 hq44 hP45 hT46 hF48; clear hF34
  have hp49 := hp39 q43 hq44; clear hp39
  obtain ⟨ao50, cap51, rfl, hs52⟩ := hT46
  have hp53 := hp49 (hs52.small); clear hp49
  refine z1 hF48 hM30 14 hP45 0 (.slice ao50 q43.length cap51) rfl ?_; intro a54 hF55; clear hF48
  refine s1 hF55 5 (.slice ao50 q43.length cap51) ?_; intro a56 hF57; clear hF55
  refine nlH (hQ37 _ _ ?_); clear hQ37 hQ37Q
  refine sqH ?_; intro hQ58Q hQ58
  refine s1 hF57 15 (.int .i64 x3) ?_; intro a59 hF60; clear hF57
  refine s1 hF60 16 (.slice ao50 q43.length cap51) ?_; intro a61 hF62; clear hF60
  refine s1 hF62 17 (.int .i64 (q43.length : Int)) ?_; intro a63 hF64; clear hF62
  refine s1 hF64 18 (.int .i64 (w64 (x3 + (q43.length : Int)))) ?_; intro a65 hF66; clear hF64
  refine s1 hF66 3 (.int .i64 (w64 (x3 + (q43.length : Int)))) ?_; intro a67 hF68; clear hF66
  refine nlH (hQ58 _ _ ?_); clear hQ58 hQ58Q
  refine sqH ?_; intro hQ69Q hQ69
  refine s1 hF68 19 (.int .i64 (w64 (x3 + (q43.length : Int)))) ?_; intro a70 hF71; clear hF68
  refine s1 hF71 20 (.bool (decide ((w64 (x3 + (q43.length : Int))) < 0))) ?_; intro a72 hF73; clear hF71
  refine nlH (hQ69 _ _ ?_); clear hQ69 hQ69Q
  refine cd hF73 (t := decide ((w64 (x3 + (q43.length : Int))) < 0)) (by kernel_rfl) (fun hb74 => ?_) (fun hb74 => ?_)
  · -- yes
   have hp75 := hp53.1 hb74; clear hp53
   exact False.elim hp75
  · -- no
   have hp76 := hp53.2 hb74; clear hp53
   refine wp_skip ?_
   refine ibn ?_
   refine thn ?_
   refine rgH ?_; intro hQ77Q hQ77
   refine s1 hF73 22 (.int .i64 (w64 (x11 + 1))) ?_; intro a78 hF79; clear hF73
   refine s1 hF79 11 (.int .i64 (w64 (x11 + 1))) ?_; intro a80 hF81; clear hF79
   refine nlH (hQ77 _ _ ?_); clear hQ77 hQ77Q
   refine rd ?_
   exact ⟨⟨w64 (x3 + (q43.length : Int)), w64 (x11 + 1)⟩, hp76.1, hp76.2, (hF81.region (by kernel_rfl) (by kernel_rfl)).anyβ _ (by kernel_rfl), hM30.keep (List.Sublist.slnil)⟩
 · -- no
  have hp82 := hp31.2 hb35; clear hp31
  refine wp_exit ?_
  refine thx ?_
  refine thx ?_
  refine ibx ?_
  refine thn ?_
  refine sqH ?_; intro hQ83Q hQ83
  refine s1 hF34 23 (.int .i64 x3) ?_; intro a84 hF85; clear hF34
  have hc86 := hp82.1; have hp87 := hp82.2; clear hp82
  refine cl hF85 62 #[.slice none 0 0, .int .i64 x3] (nog rfl _) rfl (by kernel_rfl) (by kernel_rfl) ?_
  refine (bgrow_fun x3 hc86 _ _ hM30.fz).mono ?_; rintro _ wd88 ⟨ao92, cap93, Z94, rfl, hm⟩; refine ⟨_, rfl, ?_⟩; intro a89 hF90; have hM91 := hM30.callZ hm; have hle95 := hm.ext.le; clear hm hM30 hF85
  replace hs3 := hs3.mono hle95
  replace hle0 := Fz.le.trans hle0 hle95
  have hM96 : Mem w.heap.size [] w Z [.own (tyInt .u8) 5 ao92 cap93 (bgrowS x3)] Z94 wd88 := hM91; clear hM91
  have hp97 := hp87 (hM96.ownSmall 0 rfl); clear hp87
  refine s1 hF90 6 (.slice ao92 (bgrowS x3).length cap93) ?_; intro a98 hF99; clear hF90
  refine nlH (hQ83 _ _ ?_); clear hQ83 hQ83Q
  refine wp_seq ?_
  refine sqH ?_; intro hQ100Q hQ100
  refine s1 hF99 25 (.slice ao1 u0.length cap2) ?_; intro a101 hF102; clear hF99
  refine s1 hF102 26 (.int .i64 (u0.length : Int)) ?_; intro a103 hF104; clear hF102
  refine s1 hF104 27 (.int .i64 0) ?_; intro a105 hF106; clear hF104
  refine nlH (hQ100 _ _ ?_); clear hQ100 hQ100Q
  refine wp_block ?_
  have hF107 : Fr 36 [] [⟨6, [], .slice ao92 (bgrowS x3).length cap93⟩, ⟨25, [], .slice ao1 u0.length cap2⟩, ⟨26, [], .int .i64 (u0.length : Int)⟩, ⟨27, [], .int .i64 0⟩] a105 := hF106.region (by kernel_rfl) (by kernel_rfl); clear hF106
  have hF109 : Fr 36 [] [⟨6, [], .slice ao92 (bgrowS x3).length cap93⟩, ⟨25, [], .slice ao1 u0.length cap2⟩, ⟨26, [], .int .i64 (u0.length : Int)⟩, ⟨27, [], .int .i64 0⟩] a105 := hF107.region (by kernel_rfl) (by kernel_rfl); clear hF107
  obtain ⟨inv108, mu108, hI112, hr111⟩ := hp97
  refine lp (ι := (List Int) × Int × (Option Addr) × Nat) (fun (s : (List Int) × Int × (Option Addr) × Nat) => [⟨6, [], .slice s.2.2.1 s.1.length s.2.2.2⟩, ⟨25, [], .slice ao1 u0.length cap2⟩, ⟨26, [], .int .i64 (u0.length : Int)⟩, ⟨27, [], .int .i64 s.2.1⟩]) (fun (s : (List Int) × Int × (Option Addr) × Nat) => [.own (tyInt .u8) 5 s.2.2.1 s.2.2.2 s.1]) (fun (s : (List Int) × Int × (Option Addr) × Nat) => Z94) (fun (s : (List Int) × Int × (Option Addr) × Nat) => inv108 s.1 s.2.1) (fun (s : (List Int) × Int × (Option Addr) × Nat) => mu108 s.1 s.2.1) ⟨(bgrowS x3), 0, ao92, cap93⟩ hI112 (by exact hF109.region (by kernel_rfl) (by kernel_rfl)) (by exact hM96) ?_
  rintro ⟨x6, x27, aox6, capx6⟩ hI110 a114 wd115 hF116 hM117
  have hF118 : Fr 36 [] [⟨6, [], .slice aox6 x6.length capx6⟩, ⟨25, [], .slice ao1 u0.length cap2⟩, ⟨26, [], .int .i64 (u0.length : Int)⟩, ⟨27, [], .int .i64 x27⟩] a114 := hF116; clear hF116 hF109
  have hM119 : Mem w.heap.size [] w Z [.own (tyInt .u8) 5 aox6 capx6 x6] Z94 wd115 := hM117; clear hM117 hM96
  have hp120 := hr111 x6 x27 hI110
  refine sqH ?_; intro hQ121Q hQ121
  refine s1 hF118 28 (.bool (decide (x27 < (u0.length : Int)))) ?_; intro a122 hF123; clear hF118
  refine nlH (hQ121 _ _ ?_); clear hQ121 hQ121Q
  refine wp_seq ?_
  refine cd hF123 (t := decide (x27 < (u0.length : Int))) (by kernel_rfl) (fun hb124 => ?_) (fun hb124 => ?_)
  · -- yes
   have hp125 := hp120.1 hb124; clear hp120
   refine wp_skip ?_
   refine thn ?_
   refine wp_seq ?_
   refine wp_block ?_
   refine sqH ?_; intro hQ126Q hQ126
   have hc127 := hp125.1; have hp128 := hp125.2; clear hp125
   refine ix hF123 (T := (tySl (tyInt .u8))) (xs := u0) hs3 x27 hc127 (k := .i64) (e := 36) (bytes := 24) (nog rfl _) rfl (by kernel_rfl) rfl (by kernel_rfl) (by kernel_rfl) (by kernel_rfl) ?_; intro b129 off130 cs131 q132 a136 hq133 hP134 hT135 hF137; clear hF123
   have hp138 := hp128 q132 hq133; clear hp128
   obtain ⟨ao139, cap140, rfl, hs141⟩ := hT135
   have hp142 := hp138 (hs141.small); clear hp138
   refine z1 hF137 hM119 30 hP134 0 (.slice ao139 q132.length cap140) rfl ?_; intro a143 hF144; clear hF137
   refine s1 hF144 8 (.slice ao139 q132.length cap140) ?_; intro a145 hF146; clear hF144
   refine nlH (hQ126 _ _ ?_); clear hQ126 hQ126Q
   refine rgH ?_; intro hQ147Q hQ147
   refine s1 hF146 31 (.slice aox6 x6.length capx6) ?_; intro a148 hF149; clear hF146
   refine s1 hF149 32 (.slice ao139 q132.length cap140) ?_; intro a150 hF151; clear hF149
   have hc152 := hp142.1; have hp153 := hp142.2; clear hp142
   refine ap hF151 hM119 0 (T := (tyInt .u8)) (xs := x6) (ys := q132) (ao := aox6) (cap := capx6) (ao2 := ao139) (cap2 := cap140) (t := 36) (e := 5) (bytes := 1) (nog rfl _) rfl (by kernel_rfl) rfl (by kernel_rfl) (by kernel_rfl) (by kernel_rfl) rfl (Src.fz (by decide) hM119.fz hs141) hc152 ?_; intro ao154 cap155 a159 wd156 hnil157 hF160 hM158; clear hF151 hM119
   have hM161 : Mem w.heap.size [] w Z [.own (tyInt .u8) 5 ao154 cap155 (x6 ++ q132)] Z94 wd156 := hM158; clear hM158
   refine s1 hF160 6 (.slice ao154 (x6 ++ q132).length cap155) ?_; intro a162 hF163; clear hF160
   refine nlH (hQ147 _ _ ?_); clear hQ147 hQ147Q
   refine ibn ?_
   refine thn ?_
   refine rgH ?_; intro hQ164Q hQ164
   refine s1 hF163 34 (.int .i64 (w64 (x27 + 1))) ?_; intro a165 hF166; clear hF163
   refine s1 hF166 27 (.int .i64 (w64 (x27 + 1))) ?_; intro a167 hF168; clear hF166
   refine nlH (hQ164 _ _ ?_); clear hQ164 hQ164Q
   refine rd ?_
   exact ⟨⟨x6 ++ q132, w64 (x27 + 1), ao154, cap155⟩, hp153.1, hp153.2, (hF168.region (by kernel_rfl) (by kernel_rfl)).anyβ _ (by kernel_rfl), hM161.keep (List.Sublist.cons_cons _ (List.Sublist.slnil))⟩
  · -- no
   have hp169 := hp120.2 hb124; clear hp120
   refine wp_exit ?_
   refine thx ?_
   refine thx ?_
   refine ibx ?_
   refine thn ?_
   refine sqH ?_; intro hQ170Q hQ170
   refine s1 hF123 35 (.slice aox6 x6.length capx6) ?_; intro a171 hF172; clear hF123
   refine s1 hF172 2 (.slice aox6 x6.length capx6) ?_; intro a173 hF174; clear hF172
   refine nlH (hQ170 _ _ ?_); clear hQ170 hQ170Q
   refine wp_ret ?_
   refine rt (fn := Try.f46) (v := .slice aox6 x6.length capx6) hF174 (re1 hF174 (fn := Try.f46) rfl (by kernel_rfl)) ?_
   exact ⟨x6, aox6, capx6, Z94, rfl, hp169, hM119.keep (List.Sublist.cons_cons _ (List.Sublist.slnil))⟩

set_option maxRecDepth 100000 in
theorem ptold_walk (u0 : Sender) (u1 : List Int) (ao1 : Option Addr) (cap2 : Nat) (ao4 : Option Addr) (cap5 : Nat) (Z : Fz) (w : World) (hs3 : SlR (tyInt .u8) Z ao1 cap2 u0.Data) (hs6 : SlR (tyInt .u8) Z ao4 cap5 u1) (hZ : Z.on w) {K : (Sender × Int) → Prop} (hp : ptold_vc u0 u1 K) : Calls Try.prog 30 #[.agg #[.slice ao1 u0.Data.length cap2, .int .i64 u0.At, .int .i64 u0.Next, .int .i64 u0.Left, .bool u0.Done], .slice ao4 u1.length cap5] w fun e w' => ∃ (r : Sender × Int) (ao1001 : Option Addr) (cap1002 : Nat) (Z' : Fz), e = .returned (.tuple #[.agg #[.slice ao1001 r.1.Data.length cap1002, .int .i64 r.1.At, .int .i64 r.1.Next, .int .i64 r.1.Left, .bool r.1.Done], .int .i64 r.2]) ∧ K r ∧ SlR (tyInt .u8) Z' ao1001 cap1002 r.1.Data ∧ Mem w.heap.size [] w Z [] Z' w' := by
 refine enter0 Try.func30 rfl rfl (by kernel_rfl) ?_; intro a0 hF0; have hM0 := Mem.start w Z hZ; have hle0 := Fz.le.refl Z
 have hp7 := hp (hs3.small); clear hp
 have hp8 := hp7 (hs6.small); clear hp7
 refine sqH ?_; intro hQ9Q hQ9
 refine sn hF0 hM0 (fun b => .pointer (some ⟨b, 0, none⟩)) [.slice ao1 u0.Data.length cap2, .int .i64 u0.At, .int .i64 u0.Next, .int .i64 u0.Left, .bool u0.Done] 53 (nog rfl _) rfl (by kernel_rfl) (by kernel_rfl) ?_; intro b10 a11 wd13 hF12 hM14; clear hF0 hM0
 refine sn hF12 hM14 (fun b => .pointer (some ⟨b, 0, none⟩)) [.slice none 0 0, .int .i64 0, .int .i64 0, .int .i64 0, .bool false] 53 (nog rfl _) rfl (by kernel_rfl) (by kernel_rfl) ?_; intro b15 a16 wd18 hF17 hM19; clear hF12 hM14
 refine s1 hF17 5 (.int .i64 0) ?_; intro a20 hF21; clear hF17
 refine nlH (hQ9 _ _ ?_); clear hQ9 hQ9Q
 refine wp_seq ?_
 refine sqH ?_; intro hQ22Q hQ22
 refine l2 hF21 hM19 7 1 0 5 [.slice ao1 u0.Data.length cap2, .int .i64 u0.At, .int .i64 u0.Next, .int .i64 u0.Left, .bool u0.Done] rfl rfl ?_; intro a23 hF24; clear hF21
 refine fcl hF24 hM19 (.int .i64 (pchecks u0)) 34 #[.agg #[.slice ao1 u0.Data.length cap2, .int .i64 u0.At, .int .i64 u0.Next, .int .i64 u0.Left, .bool u0.Done]] (nog rfl _) rfl (by kernel_rfl) (fun _ => by kernel_rfl) (pchecks_fun u0 ao1 cap2 _ _ hs3 hM19.fz) ?_; intro a25 wd27 hF26 hM28; clear hF24 hM19
 refine s1 hF26 6 (.int .i64 (pchecks u0)) ?_; intro a29 hF30; clear hF26
 refine nlH (hQ22 _ _ ?_); clear hQ22 hQ22Q
 refine sqH ?_; intro hQ31Q hQ31
 refine s1 hF30 9 (.int .i64 (pchecks u0)) ?_; intro a32 hF33; clear hF30
 refine s1 hF33 10 (.bool ((pchecks u0) != 0)) ?_; intro a34 hF35; clear hF33
 refine nlH (hQ31 _ _ ?_); clear hQ31 hQ31Q
 refine cd hF35 (t := (pchecks u0) != 0) (by kernel_rfl) (fun hb36 => ?_) (fun hb36 => ?_)
 · -- yes
  have hp37 := hp8.1 hb36; clear hp8
  refine sqH ?_; intro hQ38Q hQ38
  refine s1 hF35 11 (.agg #[.slice none 0 0, .int .i64 0, .int .i64 0, .int .i64 0, .bool false]) ?_; intro a39 hF40; clear hF35
  refine s1 hF40 12 (.int .i64 (pchecks u0)) ?_; intro a41 hF42; clear hF40
  refine sr hF42 hM28 0 [.slice none 0 0, .int .i64 0, .int .i64 0, .int .i64 0, .bool false] (b := b15) (off := 0) (cs := [.slice none 0 0, .int .i64 0, .int .i64 0, .int .i64 0, .bool false]) (ty := 53) (u := .agg #[.slice none 0 0, .int .i64 0, .int .i64 0, .int .i64 0, .bool false]) (nog rfl _) rfl rfl (by kernel_rfl) (by kernel_rfl) (by kernel_rfl) (by kernel_rfl) (by kernel_rfl) (by kernel_rfl) (by kernel_rfl) ?_; intro wd43 hM44; clear hM28
  refine s1 hF42 5 (.int .i64 (pchecks u0)) ?_; intro a45 hF46; clear hF42
  have hM47 : Mem w.heap.size [] w Z [.row b15 [.slice none 0 0, .int .i64 0, .int .i64 0, .int .i64 0, .bool false] 53, .row b10 [.slice ao1 u0.Data.length cap2, .int .i64 u0.At, .int .i64 u0.Next, .int .i64 u0.Left, .bool u0.Done] 53] Z wd43 := hM44; clear hM44
  refine nlH (hQ38 _ _ ?_); clear hQ38 hQ38Q
  refine wp_ret ?_
  refine thr ?_
  refine rt (fn := Try.f30) (v := .tuple #[.agg #[.slice none 0 0, .int .i64 0, .int .i64 0, .int .i64 0, .bool false], .int .i64 (pchecks u0)]) hF46 (re2c hF46 (fn := Try.f30) rfl (ad := ⟨b15, 0, none⟩) (by kernel_rfl) (loadVar_run hM47 0 (b := b15) (k := 5) (vs := [.slice none 0 0, .int .i64 0, .int .i64 0, .int .i64 0, .bool false]) (ty := 53) rfl (by kernel_rfl) (by kernel_rfl)) (by kernel_rfl)) ?_
  exact ⟨((⟨[], 0, 0, 0, false⟩ : Sender), (pchecks u0)), none, 0, Z, rfl, hp37, (SlR.nil _ _), hM47.keep (List.Sublist.cons _ (List.Sublist.cons _ (List.Sublist.slnil)))⟩
 · -- no
  have hp48 := hp8.2 hb36; clear hp8
  refine wp_skip ?_
  refine thn ?_
  refine wp_seq ?_
  refine sqH ?_; intro hQ49Q hQ49
  refine s1 hF35 13 (.slice ao4 u1.length cap5) ?_; intro a50 hF51; clear hF35
  refine s1 hF51 14 (.int .i64 (u1.length : Int)) ?_; intro a52 hF53; clear hF51
  refine s1 hF53 15 (.bool ((u1.length : Int) != 3)) ?_; intro a54 hF55; clear hF53
  refine s1 hF55 16 (.bool ((u1.length : Int) != 3)) ?_; intro a56 hF57; clear hF55
  have hF58 := hF57.atom (((u1.length : Int) != 3) == false) (by kernel_rfl); clear hF57
  refine gp hF58 17 0 [] ((u1.length : Int) != 3) (.slice ao4 u1.length cap5) rfl rfl ?_; intro a59 hF60; clear hF58
  rcases Bool.eq_false_or_eq_true ((u1.length : Int) != 3) with hb61 | hb61
  · -- true
   have hp62 := hp48.1 hb61; clear hp48
   have hF63 := hF60.reval (d := 16) (c := []) (v := .bool ((u1.length : Int) != 3)) (by kernel_rfl) (.bool true) (by rw [hb61]); clear hF60
   have hF64 := hF63.setc (d := 17) (c := [0]) (v := .slice ao4 u1.length cap5) (by kernel_rfl) (v' := undef) (by rw [hb61]; kernel_rfl); clear hF63
   refine sk hF64 (b := true) rfl rfl (by kernel_rfl) (by kernel_rfl) rfl rfl (by kernel_rfl) ?_; intro a65 hF66; clear hF64
   refine sk hF66 (b := true) rfl rfl (by kernel_rfl) (by kernel_rfl) rfl rfl (by kernel_rfl) ?_; intro a67 hF68; clear hF66
   refine sk hF68 (b := true) rfl rfl (by kernel_rfl) (by kernel_rfl) rfl rfl (by kernel_rfl) ?_; intro a69 hF70; clear hF68
   refine sk hF70 (b := true) rfl rfl (by kernel_rfl) (by kernel_rfl) rfl rfl (by kernel_rfl) ?_; intro a71 hF72; clear hF70
   refine s1 hF72 22 (.bool true) ?_; intro a73 hF74; clear hF72
   refine s1 hF74 23 (.bool true) ?_; intro a75 hF76; clear hF74
   refine sk hF76 (b := true) rfl rfl (by kernel_rfl) (by kernel_rfl) rfl rfl (by kernel_rfl) ?_; intro a77 hF78; clear hF76
   refine sk hF78 (b := true) rfl rfl (by kernel_rfl) (by kernel_rfl) rfl rfl (by kernel_rfl) ?_; intro a79 hF80; clear hF78
   refine sk hF80 (b := true) rfl rfl (by kernel_rfl) (by kernel_rfl) rfl rfl (by kernel_rfl) ?_; intro a81 hF82; clear hF80
   refine sk hF82 (b := true) rfl rfl (by kernel_rfl) (by kernel_rfl) rfl rfl (by kernel_rfl) ?_; intro a83 hF84; clear hF82
   refine sk hF84 (b := true) rfl rfl (by kernel_rfl) (by kernel_rfl) rfl rfl (by kernel_rfl) ?_; intro a85 hF86; clear hF84
   refine s1 hF86 29 (.bool true) ?_; intro a87 hF88; clear hF86
   refine nlH (hQ49 _ _ ?_); clear hQ49 hQ49Q
   refine cdT hF88 (by kernel_rfl) ?_
   have hF89 : Fr 58 [] [⟨4, [], .pointer (some ⟨b15, 0, none⟩)⟩] a87 := hF88.region (by kernel_rfl) (by kernel_rfl); clear hF88
   refine sqH ?_; intro hQ90Q hQ90
   refine s1 hF89 30 (.agg #[.slice none 0 0, .int .i64 0, .int .i64 0, .int .i64 0, .bool false]) ?_; intro a91 hF92; clear hF89
   refine sr hF92 hM28 0 [.slice none 0 0, .int .i64 0, .int .i64 0, .int .i64 0, .bool false] (b := b15) (off := 0) (cs := [.slice none 0 0, .int .i64 0, .int .i64 0, .int .i64 0, .bool false]) (ty := 53) (u := .agg #[.slice none 0 0, .int .i64 0, .int .i64 0, .int .i64 0, .bool false]) (nog rfl _) rfl rfl (by kernel_rfl) (by kernel_rfl) (by kernel_rfl) (by kernel_rfl) (by kernel_rfl) (by kernel_rfl) (by kernel_rfl) ?_; intro wd93 hM94; clear hM28
   refine s1 hF92 5 (.int .i64 4) ?_; intro a95 hF96; clear hF92
   have hM97 : Mem w.heap.size [] w Z [.row b15 [.slice none 0 0, .int .i64 0, .int .i64 0, .int .i64 0, .bool false] 53, .row b10 [.slice ao1 u0.Data.length cap2, .int .i64 u0.At, .int .i64 u0.Next, .int .i64 u0.Left, .bool u0.Done] 53] Z wd93 := hM94; clear hM94
   refine nlH (hQ90 _ _ ?_); clear hQ90 hQ90Q
   refine wp_ret ?_
   refine thr ?_
   refine rt (fn := Try.f30) (v := .tuple #[.agg #[.slice none 0 0, .int .i64 0, .int .i64 0, .int .i64 0, .bool false], .int .i64 4]) hF96 (re2c hF96 (fn := Try.f30) rfl (ad := ⟨b15, 0, none⟩) (by kernel_rfl) (loadVar_run hM97 0 (b := b15) (k := 5) (vs := [.slice none 0 0, .int .i64 0, .int .i64 0, .int .i64 0, .bool false]) (ty := 53) rfl (by kernel_rfl) (by kernel_rfl)) (by kernel_rfl)) ?_
   exact ⟨((⟨[], 0, 0, 0, false⟩ : Sender), 4), none, 0, Z, rfl, hp62, (SlR.nil _ _), hM97.keep (List.Sublist.cons _ (List.Sublist.cons _ (List.Sublist.slnil)))⟩
  · -- false
   have hp98 := hp48.2 hb61; clear hp48
   have hF99 := hF60.reval (d := 16) (c := []) (v := .bool ((u1.length : Int) != 3)) (by kernel_rfl) (.bool false) (by rw [hb61]); clear hF60
   have hF100 := hF99.setc (d := 17) (c := [0]) (v := .slice ao4 u1.length cap5) (by kernel_rfl) (v' := .slice ao4 u1.length cap5) (by rw [hb61]; kernel_rfl); clear hF99
   have hc101 := hp98.1; have hp102 := hp98.2; clear hp98
   refine ix hF100 (T := (tyInt .u8)) (xs := u1) hs6 (0 : Int) hc101 (k := .i64) (e := 5) (bytes := 1) (by rw [wanted_of hF100 (b := false) rfl rfl (by kernel_rfl) (by kernel_rfl)]; rfl) rfl (by kernel_rfl) rfl (by kernel_rfl) (by kernel_rfl) (by kernel_rfl) ?_; intro b103 off104 cs105 q106 a110 hq107 hP108 hT109 hF111; clear hF100
   have hp112 := hp102 q106 hq107; clear hp102
   obtain rfl : cs105 = ([.int .u8 q106] : List Value) := hT109
   refine st hF111 (.int .u8 q106) (by rw [wanted_of hF111 (b := false) rfl rfl (by kernel_rfl) (by kernel_rfl)]; rfl) rfl (by kernel_rfl) (lz hF111 hM28.fz hP108 0 (g := []) rfl (by kernel_rfl) (by kernel_rfl) (by kernel_rfl) rfl) ?_; intro a113 hF114; clear hF111
   refine st hF114 (.int .u8 (bShr .u8 q106 4)) (by rw [wanted_of hF114 (b := false) rfl rfl (by kernel_rfl) (by kernel_rfl)]; rfl) rfl (by kernel_rfl) (p0 hF114 (by kernel_rfl)) ?_; intro a115 hF116; clear hF114
   refine st hF116 (.bool ((bShr .u8 q106 4) != 3)) (by rw [wanted_of hF116 (b := false) rfl rfl (by kernel_rfl) (by kernel_rfl)]; rfl) rfl (by kernel_rfl) (p0 hF116 (by kernel_rfl)) ?_; intro a117 hF118; clear hF116
   refine s1 hF118 22 (.bool ((bShr .u8 q106 4) != 3)) ?_; intro a119 hF120; clear hF118
   refine s1 hF120 23 (.bool ((bShr .u8 q106 4) != 3)) ?_; intro a121 hF122; clear hF120
   have hF123 := hF122.atom (((bShr .u8 q106 4) != 3) == false) (by kernel_rfl); clear hF122
   refine gp hF123 24 1 [] ((bShr .u8 q106 4) != 3) (.slice ao4 u1.length cap5) rfl rfl ?_; intro a124 hF125; clear hF123
   rcases Bool.eq_false_or_eq_true ((bShr .u8 q106 4) != 3) with hb126 | hb126
   · -- true
    have hp127 := hp112.1 hb126; clear hp112
    have hF128 := hF125.reval (d := 23) (c := []) (v := .bool ((bShr .u8 q106 4) != 3)) (by kernel_rfl) (.bool true) (by rw [hb126]); clear hF125
    have hF129 := hF128.setc (d := 24) (c := [1]) (v := .slice ao4 u1.length cap5) (by kernel_rfl) (v' := undef) (by rw [hb126]; kernel_rfl); clear hF128
    refine sk hF129 (b := true) rfl rfl (by kernel_rfl) (by kernel_rfl) rfl rfl (by kernel_rfl) ?_; intro a130 hF131; clear hF129
    refine sk hF131 (b := true) rfl rfl (by kernel_rfl) (by kernel_rfl) rfl rfl (by kernel_rfl) ?_; intro a132 hF133; clear hF131
    refine sk hF133 (b := true) rfl rfl (by kernel_rfl) (by kernel_rfl) rfl rfl (by kernel_rfl) ?_; intro a134 hF135; clear hF133
    refine sk hF135 (b := true) rfl rfl (by kernel_rfl) (by kernel_rfl) rfl rfl (by kernel_rfl) ?_; intro a136 hF137; clear hF135
    refine s1 hF137 29 (.bool true) ?_; intro a138 hF139; clear hF137
    refine nlH (hQ49 _ _ ?_); clear hQ49 hQ49Q
    refine cdT hF139 (by kernel_rfl) ?_
    have hF140 : Fr 58 [] [⟨4, [], .pointer (some ⟨b15, 0, none⟩)⟩] a138 := hF139.region (by kernel_rfl) (by kernel_rfl); clear hF139
    refine sqH ?_; intro hQ141Q hQ141
    refine s1 hF140 30 (.agg #[.slice none 0 0, .int .i64 0, .int .i64 0, .int .i64 0, .bool false]) ?_; intro a142 hF143; clear hF140
    refine sr hF143 hM28 0 [.slice none 0 0, .int .i64 0, .int .i64 0, .int .i64 0, .bool false] (b := b15) (off := 0) (cs := [.slice none 0 0, .int .i64 0, .int .i64 0, .int .i64 0, .bool false]) (ty := 53) (u := .agg #[.slice none 0 0, .int .i64 0, .int .i64 0, .int .i64 0, .bool false]) (nog rfl _) rfl rfl (by kernel_rfl) (by kernel_rfl) (by kernel_rfl) (by kernel_rfl) (by kernel_rfl) (by kernel_rfl) (by kernel_rfl) ?_; intro wd144 hM145; clear hM28
    refine s1 hF143 5 (.int .i64 4) ?_; intro a146 hF147; clear hF143
    have hM148 : Mem w.heap.size [] w Z [.row b15 [.slice none 0 0, .int .i64 0, .int .i64 0, .int .i64 0, .bool false] 53, .row b10 [.slice ao1 u0.Data.length cap2, .int .i64 u0.At, .int .i64 u0.Next, .int .i64 u0.Left, .bool u0.Done] 53] Z wd144 := hM145; clear hM145
    refine nlH (hQ141 _ _ ?_); clear hQ141 hQ141Q
    refine wp_ret ?_
    refine thr ?_
    refine rt (fn := Try.f30) (v := .tuple #[.agg #[.slice none 0 0, .int .i64 0, .int .i64 0, .int .i64 0, .bool false], .int .i64 4]) hF147 (re2c hF147 (fn := Try.f30) rfl (ad := ⟨b15, 0, none⟩) (by kernel_rfl) (loadVar_run hM148 0 (b := b15) (k := 5) (vs := [.slice none 0 0, .int .i64 0, .int .i64 0, .int .i64 0, .bool false]) (ty := 53) rfl (by kernel_rfl) (by kernel_rfl)) (by kernel_rfl)) ?_
    exact ⟨((⟨[], 0, 0, 0, false⟩ : Sender), 4), none, 0, Z, rfl, hp127, (SlR.nil _ _), hM148.keep (List.Sublist.cons _ (List.Sublist.cons _ (List.Sublist.slnil)))⟩
   · -- false
    have hp149 := hp112.2 hb126; clear hp112
    have hF150 := hF125.reval (d := 23) (c := []) (v := .bool ((bShr .u8 q106 4) != 3)) (by kernel_rfl) (.bool false) (by rw [hb126]); clear hF125
    have hF151 := hF150.setc (d := 24) (c := [1]) (v := .slice ao4 u1.length cap5) (by kernel_rfl) (v' := .slice ao4 u1.length cap5) (by rw [hb126]; kernel_rfl); clear hF150
    have hc152 := hp149.1; have hp153 := hp149.2; clear hp149
    refine ix hF151 (T := (tyInt .u8)) (xs := u1) hs6 (0 : Int) hc152 (k := .i64) (e := 5) (bytes := 1) (by rw [wanted_of hF151 (b := false) rfl rfl (by kernel_rfl) (by kernel_rfl)]; rfl) rfl (by kernel_rfl) rfl (by kernel_rfl) (by kernel_rfl) (by kernel_rfl) ?_; intro b154 off155 cs156 q157 a161 hq158 hP159 hT160 hF162; clear hF151
    have hp163 := hp153 q157 hq158; clear hp153
    obtain rfl : cs156 = ([.int .u8 q157] : List Value) := hT160
    refine st hF162 (.int .u8 q157) (by rw [wanted_of hF162 (b := false) rfl rfl (by kernel_rfl) (by kernel_rfl)]; rfl) rfl (by kernel_rfl) (lz hF162 hM28.fz hP159 0 (g := []) rfl (by kernel_rfl) (by kernel_rfl) (by kernel_rfl) rfl) ?_; intro a164 hF165; clear hF162
    refine st hF165 (.int .u8 (bAnd .u8 q157 15)) (by rw [wanted_of hF165 (b := false) rfl rfl (by kernel_rfl) (by kernel_rfl)]; rfl) rfl (by kernel_rfl) (p0 hF165 (by kernel_rfl)) ?_; intro a166 hF167; clear hF165
    refine st hF167 (.bool (decide ((bAnd .u8 q157 15) > 2))) (by rw [wanted_of hF167 (b := false) rfl rfl (by kernel_rfl) (by kernel_rfl)]; rfl) rfl (by kernel_rfl) (p0 hF167 (by kernel_rfl)) ?_; intro a168 hF169; clear hF167
    refine s1 hF169 29 (.bool (decide ((bAnd .u8 q157 15) > 2))) ?_; intro a170 hF171; clear hF169
    refine nlH (hQ49 _ _ ?_); clear hQ49 hQ49Q
    refine cd hF171 (t := decide ((bAnd .u8 q157 15) > 2)) (by kernel_rfl) (fun hb172 => ?_) (fun hb172 => ?_)
    · -- yes
     have hp173 := hp163.1 hb172; clear hp163
     have hF174 : Fr 58 [] [⟨4, [], .pointer (some ⟨b15, 0, none⟩)⟩] a170 := hF171.region (by kernel_rfl) (by kernel_rfl); clear hF171
     refine sqH ?_; intro hQ175Q hQ175
     refine s1 hF174 30 (.agg #[.slice none 0 0, .int .i64 0, .int .i64 0, .int .i64 0, .bool false]) ?_; intro a176 hF177; clear hF174
     refine sr hF177 hM28 0 [.slice none 0 0, .int .i64 0, .int .i64 0, .int .i64 0, .bool false] (b := b15) (off := 0) (cs := [.slice none 0 0, .int .i64 0, .int .i64 0, .int .i64 0, .bool false]) (ty := 53) (u := .agg #[.slice none 0 0, .int .i64 0, .int .i64 0, .int .i64 0, .bool false]) (nog rfl _) rfl rfl (by kernel_rfl) (by kernel_rfl) (by kernel_rfl) (by kernel_rfl) (by kernel_rfl) (by kernel_rfl) (by kernel_rfl) ?_; intro wd178 hM179; clear hM28
     refine s1 hF177 5 (.int .i64 4) ?_; intro a180 hF181; clear hF177
     have hM182 : Mem w.heap.size [] w Z [.row b15 [.slice none 0 0, .int .i64 0, .int .i64 0, .int .i64 0, .bool false] 53, .row b10 [.slice ao1 u0.Data.length cap2, .int .i64 u0.At, .int .i64 u0.Next, .int .i64 u0.Left, .bool u0.Done] 53] Z wd178 := hM179; clear hM179
     refine nlH (hQ175 _ _ ?_); clear hQ175 hQ175Q
     refine wp_ret ?_
     refine thr ?_
     refine rt (fn := Try.f30) (v := .tuple #[.agg #[.slice none 0 0, .int .i64 0, .int .i64 0, .int .i64 0, .bool false], .int .i64 4]) hF181 (re2c hF181 (fn := Try.f30) rfl (ad := ⟨b15, 0, none⟩) (by kernel_rfl) (loadVar_run hM182 0 (b := b15) (k := 5) (vs := [.slice none 0 0, .int .i64 0, .int .i64 0, .int .i64 0, .bool false]) (ty := 53) rfl (by kernel_rfl) (by kernel_rfl)) (by kernel_rfl)) ?_
     exact ⟨((⟨[], 0, 0, 0, false⟩ : Sender), 4), none, 0, Z, rfl, hp173, (SlR.nil _ _), hM182.keep (List.Sublist.cons _ (List.Sublist.cons _ (List.Sublist.slnil)))⟩
    · -- no
     have hp183 := hp163.2 hb172; clear hp163
     refine wp_skip ?_
     refine thn ?_
     refine wp_seq ?_
     have hF184 : Fr 58 [] [⟨1, [], .slice ao4 u1.length cap5⟩, ⟨2, [], .pointer (some ⟨b10, 0, none⟩)⟩, ⟨4, [], .pointer (some ⟨b15, 0, none⟩)⟩] a170 := hF171.region (by kernel_rfl) (by kernel_rfl); clear hF171
     refine sqH ?_; intro hQ185Q hQ185
     refine s1 hF184 31 (.pointer (some ⟨b10, 4, none⟩)) ?_; intro a186 hF187; clear hF184
     refine l1 hF187 hM28 32 1 4 (.bool u0.Done) rfl rfl ?_; intro a188 hF189; clear hF187
     refine s1 hF189 33 (.bool u0.Done) ?_; intro a190 hF191; clear hF189
     have hF192 := hF191.atom (u0.Done == false) (by kernel_rfl); clear hF191
     refine gp hF192 34 0 [] (u0.Done) (.pointer (some ⟨b10, 3, none⟩)) rfl rfl ?_; intro a193 hF194; clear hF192
     refine gd hF194 (.int .i64 u0.Left) (m := 0) (cj := []) (bj := u0.Done) rfl rfl (by kernel_rfl) rfl (by kernel_rfl) (by kernel_rfl) (by kernel_rfl) (fun hg => ld hF194 hM28 1 (g := [0]) (b := b10) (off := 3) (cs := [.slice ao1 u0.Data.length cap2, .int .i64 u0.At, .int .i64 u0.Next, .int .i64 u0.Left, .bool u0.Done]) (ty := 53) rfl (by kernel_rfl) (by kernel_rfl) (by kernel_rfl) (by kernel_rfl) hg) ?_; intro a195 hF196; clear hF194
     refine gp hF196 36 0 [] (u0.Done) (.bool (decide (u0.Left ≥ 0))) rfl rfl ?_; intro a197 hF198; clear hF196
     refine st hF198 (.bool (u0.Done || (decide (u0.Left ≥ 0)))) (nog rfl _) rfl (by kernel_rfl) (pk_or hF198 (g := []) (m := 0) (b := u0.Done) (v := decide (u0.Left ≥ 0)) rfl (by kernel_rfl) (by kernel_rfl) (by kernel_rfl) rfl) ?_; intro a199 hF200; clear hF198
     refine nlH (hQ185 _ _ ?_); clear hQ185 hQ185Q
     refine cd hF200 (t := u0.Done || (decide (u0.Left ≥ 0))) (by kernel_rfl) (fun hb201 => ?_) (fun hb201 => ?_)
     · -- yes
      have hp202 := hp183.1 hb201; clear hp183
      have hF203 : Fr 58 [] [⟨4, [], .pointer (some ⟨b15, 0, none⟩)⟩] a199 := hF200.region (by kernel_rfl) (by kernel_rfl); clear hF200
      refine sqH ?_; intro hQ204Q hQ204
      refine s1 hF203 38 (.agg #[.slice none 0 0, .int .i64 0, .int .i64 0, .int .i64 0, .bool false]) ?_; intro a205 hF206; clear hF203
      refine sr hF206 hM28 0 [.slice none 0 0, .int .i64 0, .int .i64 0, .int .i64 0, .bool false] (b := b15) (off := 0) (cs := [.slice none 0 0, .int .i64 0, .int .i64 0, .int .i64 0, .bool false]) (ty := 53) (u := .agg #[.slice none 0 0, .int .i64 0, .int .i64 0, .int .i64 0, .bool false]) (nog rfl _) rfl rfl (by kernel_rfl) (by kernel_rfl) (by kernel_rfl) (by kernel_rfl) (by kernel_rfl) (by kernel_rfl) (by kernel_rfl) ?_; intro wd207 hM208; clear hM28
      refine s1 hF206 5 (.int .i64 12) ?_; intro a209 hF210; clear hF206
      have hM211 : Mem w.heap.size [] w Z [.row b15 [.slice none 0 0, .int .i64 0, .int .i64 0, .int .i64 0, .bool false] 53, .row b10 [.slice ao1 u0.Data.length cap2, .int .i64 u0.At, .int .i64 u0.Next, .int .i64 u0.Left, .bool u0.Done] 53] Z wd207 := hM208; clear hM208
      refine nlH (hQ204 _ _ ?_); clear hQ204 hQ204Q
      refine wp_ret ?_
      refine thr ?_
      refine rt (fn := Try.f30) (v := .tuple #[.agg #[.slice none 0 0, .int .i64 0, .int .i64 0, .int .i64 0, .bool false], .int .i64 12]) hF210 (re2c hF210 (fn := Try.f30) rfl (ad := ⟨b15, 0, none⟩) (by kernel_rfl) (loadVar_run hM211 0 (b := b15) (k := 5) (vs := [.slice none 0 0, .int .i64 0, .int .i64 0, .int .i64 0, .bool false]) (ty := 53) rfl (by kernel_rfl) (by kernel_rfl)) (by kernel_rfl)) ?_
      exact ⟨((⟨[], 0, 0, 0, false⟩ : Sender), 12), none, 0, Z, rfl, hp202, (SlR.nil _ _), hM211.keep (List.Sublist.cons _ (List.Sublist.cons _ (List.Sublist.slnil)))⟩
     · -- no
      have hp212 := hp183.2 hb201; clear hp183
      refine wp_skip ?_
      refine thn ?_
      have hF213 : Fr 58 [] [⟨1, [], .slice ao4 u1.length cap5⟩, ⟨2, [], .pointer (some ⟨b10, 0, none⟩)⟩, ⟨4, [], .pointer (some ⟨b15, 0, none⟩)⟩] a199 := hF200.region (by kernel_rfl) (by kernel_rfl); clear hF200
      refine sqH ?_; intro hQ214Q hQ214
      refine s1 hF213 39 (.pointer (some ⟨b10, 0, none⟩)) ?_; intro a215 hF216; clear hF213
      refine l1 hF216 hM28 40 1 0 (.slice ao1 u0.Data.length cap2) rfl rfl ?_; intro a217 hF218; clear hF216
      have hc219 := hp212.1; have hp220 := hp212.2; clear hp212
      refine cl hF218 57 #[.slice ao1 u0.Data.length cap2] (nog rfl _) rfl (by kernel_rfl) (by kernel_rfl) ?_
      refine (bclone_fun u0.Data hc219 ao1 cap2 _ _ hs3 hM28.fz).mono ?_; rintro _ wd221 ⟨ao225, cap226, Z227, rfl, hm⟩; refine ⟨_, rfl, ?_⟩; intro a222 hF223; have hM224 := hM28.callZ hm; have hle228 := hm.ext.le; clear hm hM28 hF218
      replace hs3 := hs3.mono hle228
      replace hs6 := hs6.mono hle228
      replace hP108 := hP108.mono hle228
      replace hP159 := hP159.mono hle228
      replace hle0 := Fz.le.trans hle0 hle228
      have hM229 : Mem w.heap.size [] w Z [.own (tyInt .u8) 5 ao225 cap226 (bcloneS u0.Data), .row b15 [.slice none 0 0, .int .i64 0, .int .i64 0, .int .i64 0, .bool false] 53, .row b10 [.slice ao1 u0.Data.length cap2, .int .i64 u0.At, .int .i64 u0.Next, .int .i64 u0.Left, .bool u0.Done] 53] Z227 wd221 := hM224; clear hM224
      have hp230 := hp220 (hM229.ownSmall 0 rfl); clear hp220
      refine s1 hF223 42 (.pointer (some ⟨b10, 0, none⟩)) ?_; intro a231 hF232; clear hF223
      refine sr hF232 hM229 2 [.slice ao225 (bcloneS u0.Data).length cap226, .int .i64 u0.At, .int .i64 u0.Next, .int .i64 u0.Left, .bool u0.Done] (b := b10) (off := 0) (cs := [.slice ao1 u0.Data.length cap2, .int .i64 u0.At, .int .i64 u0.Next, .int .i64 u0.Left, .bool u0.Done]) (ty := 53) (u := .slice ao225 (bcloneS u0.Data).length cap226) (nog rfl _) rfl rfl (by kernel_rfl) (by kernel_rfl) (by kernel_rfl) (by kernel_rfl) (by kernel_rfl) (by kernel_rfl) (by kernel_rfl) ?_; intro wd233 hM234; clear hM229
      have hM235 : Mem w.heap.size [] w Z [.own (tyInt .u8) 5 ao225 cap226 (bcloneS u0.Data), .row b15 [.slice none 0 0, .int .i64 0, .int .i64 0, .int .i64 0, .bool false] 53, .row b10 [.slice ao225 (bcloneS u0.Data).length cap226, .int .i64 u0.At, .int .i64 u0.Next, .int .i64 u0.Left, .bool u0.Done] 53] Z227 wd233 := hM234; clear hM234
      refine nlH (hQ214 _ _ ?_); clear hQ214 hQ214Q
      refine wp_seq ?_
      refine sqH ?_; intro hQ236Q hQ236
      refine s1 hF232 43 (.slice ao4 u1.length cap5) ?_; intro a237 hF238; clear hF232
      have hc239 := hp230.1; have hp240 := hp230.2; clear hp230
      refine ix hF238 (T := (tyInt .u8)) (xs := u1) hs6 (0 : Int) hc239 (k := .i64) (e := 5) (bytes := 1) (nog rfl _) rfl (by kernel_rfl) rfl (by kernel_rfl) (by kernel_rfl) (by kernel_rfl) ?_; intro b241 off242 cs243 q244 a248 hq245 hP246 hT247 hF249; clear hF238
      have hp250 := hp240 q244 hq245; clear hp240
      obtain rfl : cs243 = ([.int .u8 q244] : List Value) := hT247
      refine z1 hF249 hM235 45 hP246 0 (.int .u8 q244) rfl ?_; intro a251 hF252; clear hF249
      refine s1 hF252 46 (.int .u8 (bAnd .u8 q244 15)) ?_; intro a253 hF254; clear hF252
      refine nlH (hQ236 _ _ ?_); clear hQ236 hQ236Q
      refine wp_block ?_
      refine sqH ?_; intro hQ255Q hQ255
      refine s1 hF254 48 (.bool ((bAnd .u8 q244 15) == 0)) ?_; intro a256 hF257; clear hF254
      refine s1 hF257 47 (.bool ((bAnd .u8 q244 15) == 0)) ?_; intro a258 hF259; clear hF257
      refine nlH (hQ255 _ _ ?_); clear hQ255 hQ255Q
      refine cd hF259 (t := (bAnd .u8 q244 15) == 0) (by kernel_rfl) (fun hb260 => ?_) (fun hb260 => ?_)
      · -- yes
       have hp261 := hp250.1 hb260; clear hp250
       refine rgH ?_; intro hQ262Q hQ262
       refine s1 hF259 49 (.slice ao4 u1.length cap5) ?_; intro a263 hF264; clear hF259
       have hc265 := hp261.1; have hp266 := hp261.2; clear hp261
       refine ix hF264 (T := (tyInt .u8)) (xs := u1) hs6 (1 : Int) hc265 (k := .i64) (e := 5) (bytes := 1) (nog rfl _) rfl (by kernel_rfl) rfl (by kernel_rfl) (by kernel_rfl) (by kernel_rfl) ?_; intro b267 off268 cs269 q270 a274 hq271 hP272 hT273 hF275; clear hF264
       have hp276 := hp266 q270 hq271; clear hp266
       obtain rfl : cs269 = ([.int .u8 q270] : List Value) := hT273
       refine z1 hF275 hM235 51 hP272 0 (.int .u8 q270) rfl ?_; intro a277 hF278; clear hF275
       refine s1 hF278 52 (.int .i64 (w64 q270)) ?_; intro a279 hF280; clear hF278
       refine s1 hF280 53 (.pointer (some ⟨b10, 3, none⟩)) ?_; intro a281 hF282; clear hF280
       refine sr hF282 hM235 2 [.slice ao225 (bcloneS u0.Data).length cap226, .int .i64 u0.At, .int .i64 u0.Next, .int .i64 (w64 q270), .bool u0.Done] (b := b10) (off := 3) (cs := [.slice ao225 (bcloneS u0.Data).length cap226, .int .i64 u0.At, .int .i64 u0.Next, .int .i64 u0.Left, .bool u0.Done]) (ty := 53) (u := .int .i64 (w64 q270)) (nog rfl _) rfl rfl (by kernel_rfl) (by kernel_rfl) (by kernel_rfl) (by kernel_rfl) (by kernel_rfl) (by kernel_rfl) (by kernel_rfl) ?_; intro wd283 hM284; clear hM235
       have hM285 : Mem w.heap.size [] w Z [.own (tyInt .u8) 5 ao225 cap226 (bcloneS u0.Data), .row b15 [.slice none 0 0, .int .i64 0, .int .i64 0, .int .i64 0, .bool false] 53, .row b10 [.slice ao225 (bcloneS u0.Data).length cap226, .int .i64 u0.At, .int .i64 u0.Next, .int .i64 (w64 q270), .bool u0.Done] 53] Z227 wd283 := hM284; clear hM284
       refine nlH (hQ262 _ _ ?_); clear hQ262 hQ262Q
       refine ibn ?_
       refine thn ?_
       have hF286 : Fr 58 [] [⟨2, [], .pointer (some ⟨b10, 0, none⟩)⟩, ⟨4, [], .pointer (some ⟨b15, 0, none⟩)⟩] a281 := hF282.region (by kernel_rfl) (by kernel_rfl); clear hF282
       refine sqH ?_; intro hQ287Q hQ287
       refine l2 hF286 hM285 57 2 0 5 [.slice ao225 (bcloneS u0.Data).length cap226, .int .i64 u0.At, .int .i64 u0.Next, .int .i64 (w64 q270), .bool u0.Done] rfl rfl ?_; intro a288 hF289; clear hF286
       refine sr hF289 hM285 1 [.slice ao225 (bcloneS u0.Data).length cap226, .int .i64 u0.At, .int .i64 u0.Next, .int .i64 (w64 q270), .bool u0.Done] (b := b15) (off := 0) (cs := [.slice none 0 0, .int .i64 0, .int .i64 0, .int .i64 0, .bool false]) (ty := 53) (u := .agg #[.slice ao225 (bcloneS u0.Data).length cap226, .int .i64 u0.At, .int .i64 u0.Next, .int .i64 (w64 q270), .bool u0.Done]) (nog rfl _) rfl rfl (by kernel_rfl) (by kernel_rfl) (by kernel_rfl) (by kernel_rfl) (by kernel_rfl) (by kernel_rfl) (by kernel_rfl) ?_; intro wd290 hM291; clear hM285
       refine s1 hF289 5 (.int .i64 0) ?_; intro a292 hF293; clear hF289
       have hM294 : Mem w.heap.size [] w Z [.own (tyInt .u8) 5 ao225 cap226 (bcloneS u0.Data), .row b15 [.slice ao225 (bcloneS u0.Data).length cap226, .int .i64 u0.At, .int .i64 u0.Next, .int .i64 (w64 q270), .bool u0.Done] 53, .row b10 [.slice ao225 (bcloneS u0.Data).length cap226, .int .i64 u0.At, .int .i64 u0.Next, .int .i64 (w64 q270), .bool u0.Done] 53] Z227 wd290 := hM291; clear hM291
       refine nlH (hQ287 _ _ ?_); clear hQ287 hQ287Q
       refine wp_ret ?_
       obtain ⟨Z295, hle296, hM297, hs298⟩ := hM294.freeze 0 rfl
       replace hs3 := hs3.mono hle296
       replace hs6 := hs6.mono hle296
       replace hP108 := hP108.mono hle296
       replace hP159 := hP159.mono hle296
       replace hP246 := hP246.mono hle296
       replace hP272 := hP272.mono hle296
       replace hle0 := Fz.le.trans hle0 hle296
       have hM299 : Mem w.heap.size [] w Z [.row b15 [.slice ao225 (bcloneS u0.Data).length cap226, .int .i64 u0.At, .int .i64 u0.Next, .int .i64 (w64 q270), .bool u0.Done] 53, .row b10 [.slice ao225 (bcloneS u0.Data).length cap226, .int .i64 u0.At, .int .i64 u0.Next, .int .i64 (w64 q270), .bool u0.Done] 53] Z295 wd290 := hM297; clear hM297
       refine rt (fn := Try.f30) (v := .tuple #[.agg #[.slice ao225 (bcloneS u0.Data).length cap226, .int .i64 u0.At, .int .i64 u0.Next, .int .i64 (w64 q270), .bool u0.Done], .int .i64 0]) hF293 (re2c hF293 (fn := Try.f30) rfl (ad := ⟨b15, 0, none⟩) (by kernel_rfl) (loadVar_run hM299 0 (b := b15) (k := 5) (vs := [.slice ao225 (bcloneS u0.Data).length cap226, .int .i64 u0.At, .int .i64 u0.Next, .int .i64 (w64 q270), .bool u0.Done]) (ty := 53) rfl (by kernel_rfl) (by kernel_rfl)) (by kernel_rfl)) ?_
       exact ⟨((⟨(bcloneS u0.Data), u0.At, u0.Next, w64 q270, u0.Done⟩ : Sender), 0), ao225, cap226, Z295, rfl, hp276, hs298, hM299.keep (List.Sublist.cons _ (List.Sublist.cons _ (List.Sublist.slnil)))⟩
      · -- no
       have hp300 := hp250.2 hb260; clear hp250
       refine sqH ?_; intro hQ301Q hQ301
       refine s1 hF259 55 (.bool ((bAnd .u8 q244 15) == 2)) ?_; intro a302 hF303; clear hF259
       refine s1 hF303 54 (.bool ((bAnd .u8 q244 15) == 2)) ?_; intro a304 hF305; clear hF303
       refine nlH (hQ301 _ _ ?_); clear hQ301 hQ301Q
       refine cd hF305 (t := (bAnd .u8 q244 15) == 2) (by kernel_rfl) (fun hb306 => ?_) (fun hb306 => ?_)
       · -- yes
        have hp307 := hp300.1 hb306; clear hp300
        refine sqH ?_; intro hQ308Q hQ308
        refine s1 hF305 56 (.agg #[.slice none 0 0, .int .i64 0, .int .i64 0, .int .i64 0, .bool false]) ?_; intro a309 hF310; clear hF305
        refine sr hF310 hM235 1 [.slice none 0 0, .int .i64 0, .int .i64 0, .int .i64 0, .bool false] (b := b15) (off := 0) (cs := [.slice none 0 0, .int .i64 0, .int .i64 0, .int .i64 0, .bool false]) (ty := 53) (u := .agg #[.slice none 0 0, .int .i64 0, .int .i64 0, .int .i64 0, .bool false]) (nog rfl _) rfl rfl (by kernel_rfl) (by kernel_rfl) (by kernel_rfl) (by kernel_rfl) (by kernel_rfl) (by kernel_rfl) (by kernel_rfl) ?_; intro wd311 hM312; clear hM235
        refine s1 hF310 5 (.int .i64 11) ?_; intro a313 hF314; clear hF310
        have hM315 : Mem w.heap.size [] w Z [.own (tyInt .u8) 5 ao225 cap226 (bcloneS u0.Data), .row b15 [.slice none 0 0, .int .i64 0, .int .i64 0, .int .i64 0, .bool false] 53, .row b10 [.slice ao225 (bcloneS u0.Data).length cap226, .int .i64 u0.At, .int .i64 u0.Next, .int .i64 u0.Left, .bool u0.Done] 53] Z227 wd311 := hM312; clear hM312
        refine nlH (hQ308 _ _ ?_); clear hQ308 hQ308Q
        refine wp_ret ?_
        refine ibr ?_
        refine thr ?_
        refine rt (fn := Try.f30) (v := .tuple #[.agg #[.slice none 0 0, .int .i64 0, .int .i64 0, .int .i64 0, .bool false], .int .i64 11]) hF314 (re2c hF314 (fn := Try.f30) rfl (ad := ⟨b15, 0, none⟩) (by kernel_rfl) (loadVar_run hM315 1 (b := b15) (k := 5) (vs := [.slice none 0 0, .int .i64 0, .int .i64 0, .int .i64 0, .bool false]) (ty := 53) rfl (by kernel_rfl) (by kernel_rfl)) (by kernel_rfl)) ?_
        exact ⟨((⟨[], 0, 0, 0, false⟩ : Sender), 11), none, 0, Z227, rfl, hp307, (SlR.nil _ _), hM315.keep (List.Sublist.cons _ (List.Sublist.cons _ (List.Sublist.cons _ (List.Sublist.slnil))))⟩
       · -- no
        have hp316 := hp300.2 hb306; clear hp300
        refine wp_skip ?_
        refine ibn ?_
        refine thn ?_
        refine sqH ?_; intro hQ317Q hQ317
        refine l2 hF305 hM235 57 2 0 5 [.slice ao225 (bcloneS u0.Data).length cap226, .int .i64 u0.At, .int .i64 u0.Next, .int .i64 u0.Left, .bool u0.Done] rfl rfl ?_; intro a318 hF319; clear hF305
        refine sr hF319 hM235 1 [.slice ao225 (bcloneS u0.Data).length cap226, .int .i64 u0.At, .int .i64 u0.Next, .int .i64 u0.Left, .bool u0.Done] (b := b15) (off := 0) (cs := [.slice none 0 0, .int .i64 0, .int .i64 0, .int .i64 0, .bool false]) (ty := 53) (u := .agg #[.slice ao225 (bcloneS u0.Data).length cap226, .int .i64 u0.At, .int .i64 u0.Next, .int .i64 u0.Left, .bool u0.Done]) (nog rfl _) rfl rfl (by kernel_rfl) (by kernel_rfl) (by kernel_rfl) (by kernel_rfl) (by kernel_rfl) (by kernel_rfl) (by kernel_rfl) ?_; intro wd320 hM321; clear hM235
        refine s1 hF319 5 (.int .i64 0) ?_; intro a322 hF323; clear hF319
        have hM324 : Mem w.heap.size [] w Z [.own (tyInt .u8) 5 ao225 cap226 (bcloneS u0.Data), .row b15 [.slice ao225 (bcloneS u0.Data).length cap226, .int .i64 u0.At, .int .i64 u0.Next, .int .i64 u0.Left, .bool u0.Done] 53, .row b10 [.slice ao225 (bcloneS u0.Data).length cap226, .int .i64 u0.At, .int .i64 u0.Next, .int .i64 u0.Left, .bool u0.Done] 53] Z227 wd320 := hM321; clear hM321
        refine nlH (hQ317 _ _ ?_); clear hQ317 hQ317Q
        refine wp_ret ?_
        obtain ⟨Z325, hle326, hM327, hs328⟩ := hM324.freeze 0 rfl
        replace hs3 := hs3.mono hle326
        replace hs6 := hs6.mono hle326
        replace hP108 := hP108.mono hle326
        replace hP159 := hP159.mono hle326
        replace hP246 := hP246.mono hle326
        replace hle0 := Fz.le.trans hle0 hle326
        have hM329 : Mem w.heap.size [] w Z [.row b15 [.slice ao225 (bcloneS u0.Data).length cap226, .int .i64 u0.At, .int .i64 u0.Next, .int .i64 u0.Left, .bool u0.Done] 53, .row b10 [.slice ao225 (bcloneS u0.Data).length cap226, .int .i64 u0.At, .int .i64 u0.Next, .int .i64 u0.Left, .bool u0.Done] 53] Z325 wd320 := hM327; clear hM327
        refine rt (fn := Try.f30) (v := .tuple #[.agg #[.slice ao225 (bcloneS u0.Data).length cap226, .int .i64 u0.At, .int .i64 u0.Next, .int .i64 u0.Left, .bool u0.Done], .int .i64 0]) hF323 (re2c hF323 (fn := Try.f30) rfl (ad := ⟨b15, 0, none⟩) (by kernel_rfl) (loadVar_run hM329 0 (b := b15) (k := 5) (vs := [.slice ao225 (bcloneS u0.Data).length cap226, .int .i64 u0.At, .int .i64 u0.Next, .int .i64 u0.Left, .bool u0.Done]) (ty := 53) rfl (by kernel_rfl) (by kernel_rfl)) (by kernel_rfl)) ?_
        exact ⟨((⟨(bcloneS u0.Data), u0.At, u0.Next, u0.Left, u0.Done⟩ : Sender), 0), ao225, cap226, Z325, rfl, hp316, hs328, hM329.keep (List.Sublist.cons _ (List.Sublist.cons _ (List.Sublist.slnil)))⟩
theorem ptold_fun (u0 : Sender) (u1 : List Int) (ao1 : Option Addr) (cap2 : Nat) (ao4 : Option Addr) (cap5 : Nat) (Z : Fz) (w : World) (hs3 : SlR (tyInt .u8) Z ao1 cap2 u0.Data) (hs6 : SlR (tyInt .u8) Z ao4 cap5 u1) (hZ : Z.on w) : Calls Try.prog 30 #[.agg #[.slice ao1 u0.Data.length cap2, .int .i64 u0.At, .int .i64 u0.Next, .int .i64 u0.Left, .bool u0.Done], .slice ao4 u1.length cap5] w fun e w' => ∃ (ao1001 : Option Addr) (cap1002 : Nat) (Z' : Fz), e = .returned (.tuple #[.agg #[.slice ao1001 (ptold u0 u1).1.Data.length cap1002, .int .i64 (ptold u0 u1).1.At, .int .i64 (ptold u0 u1).1.Next, .int .i64 (ptold u0 u1).1.Left, .bool (ptold u0 u1).1.Done], .int .i64 (ptold u0 u1).2]) ∧ SlR (tyInt .u8) Z' ao1001 cap1002 (ptold u0 u1).1.Data ∧ Mem w.heap.size [] w Z [] Z' w' :=
  (ptold_walk u0 u1 ao1 cap2 ao4 cap5 Z w hs3 hs6 hZ (ptold_ok u0 u1)).mono fun _ _ ⟨r, h0, h1, h2, he, hk, f0, hm⟩ => by subst hk; exact ⟨h0, h1, h2, he, f0, hm⟩

set_option maxRecDepth 100000 in
theorem pnext_walk (u0 : Sender) (ao1 : Option Addr) (cap2 : Nat) (Z : Fz) (w : World) (hs3 : SlR (tyInt .u8) Z ao1 cap2 u0.Data) (hZ : Z.on w) {K : (Sender × (List Int) × Int) → Prop} (hp : pnext_vc u0 K) : Calls Try.prog 31 #[.agg #[.slice ao1 u0.Data.length cap2, .int .i64 u0.At, .int .i64 u0.Next, .int .i64 u0.Left, .bool u0.Done]] w fun e w' => ∃ (r : Sender × (List Int) × Int) (ao1001 : Option Addr) (cap1002 : Nat) (ao1004 : Option Addr) (cap1005 : Nat) (Z' : Fz), e = .returned (.tuple #[.agg #[.slice ao1001 r.1.Data.length cap1002, .int .i64 r.1.At, .int .i64 r.1.Next, .int .i64 r.1.Left, .bool r.1.Done], .slice ao1004 r.2.1.length cap1005, .int .i64 r.2.2]) ∧ K r ∧ SlR (tyInt .u8) Z' ao1001 cap1002 r.1.Data ∧ Mem w.heap.size [] w Z [.own (tyInt .u8) 5 ao1004 cap1005 r.2.1] Z' w' := by
 refine enter0 Try.func31 rfl rfl (by kernel_rfl) ?_; intro a0 hF0; have hM0 := Mem.start w Z hZ; have hle0 := Fz.le.refl Z
 have hp4 := hp (hs3.small); clear hp
 refine sqH ?_; intro hQ5Q hQ5
 refine sn hF0 hM0 (fun b => .pointer (some ⟨b, 0, none⟩)) [.slice ao1 u0.Data.length cap2, .int .i64 u0.At, .int .i64 u0.Next, .int .i64 u0.Left, .bool u0.Done] 53 (nog rfl _) rfl (by kernel_rfl) (by kernel_rfl) ?_; intro b6 a7 wd9 hF8 hM10; clear hF0 hM0
 refine sn hF8 hM10 (fun b => .pointer (some ⟨b, 0, none⟩)) [.slice none 0 0, .int .i64 0, .int .i64 0, .int .i64 0, .bool false] 53 (nog rfl _) rfl (by kernel_rfl) (by kernel_rfl) ?_; intro b11 a12 wd14 hF13 hM15; clear hF8 hM10
 refine s1 hF13 3 (.slice none 0 0) ?_; intro a16 hF17; clear hF13
 refine s1 hF17 4 (.int .i64 0) ?_; intro a18 hF19; clear hF17
 refine nlH (hQ5 _ _ ?_); clear hQ5 hQ5Q
 refine wp_seq ?_
 refine sqH ?_; intro hQ20Q hQ20
 refine l2 hF19 hM15 8 1 0 5 [.slice ao1 u0.Data.length cap2, .int .i64 u0.At, .int .i64 u0.Next, .int .i64 u0.Left, .bool u0.Done] rfl rfl ?_; intro a21 hF22; clear hF19
 refine fcl hF22 hM15 (.int .i64 (pchecks u0)) 34 #[.agg #[.slice ao1 u0.Data.length cap2, .int .i64 u0.At, .int .i64 u0.Next, .int .i64 u0.Left, .bool u0.Done]] (nog rfl _) rfl (by kernel_rfl) (fun _ => by kernel_rfl) (pchecks_fun u0 ao1 cap2 _ _ hs3 hM15.fz) ?_; intro a23 wd25 hF24 hM26; clear hF22 hM15
 refine s1 hF24 5 (.int .i64 (pchecks u0)) ?_; intro a27 hF28; clear hF24
 refine nlH (hQ20 _ _ ?_); clear hQ20 hQ20Q
 refine sqH ?_; intro hQ29Q hQ29
 refine s1 hF28 10 (.int .i64 (pchecks u0)) ?_; intro a30 hF31; clear hF28
 refine s1 hF31 11 (.bool ((pchecks u0) != 0)) ?_; intro a32 hF33; clear hF31
 refine nlH (hQ29 _ _ ?_); clear hQ29 hQ29Q
 refine cd hF33 (t := (pchecks u0) != 0) (by kernel_rfl) (fun hb34 => ?_) (fun hb34 => ?_)
 · -- yes
  have hp35 := hp4.1 hb34; clear hp4
  refine sqH ?_; intro hQ36Q hQ36
  refine s1 hF33 12 (.agg #[.slice none 0 0, .int .i64 0, .int .i64 0, .int .i64 0, .bool false]) ?_; intro a37 hF38; clear hF33
  refine s1 hF38 13 (.int .i64 (pchecks u0)) ?_; intro a39 hF40; clear hF38
  refine sr hF40 hM26 0 [.slice none 0 0, .int .i64 0, .int .i64 0, .int .i64 0, .bool false] (b := b11) (off := 0) (cs := [.slice none 0 0, .int .i64 0, .int .i64 0, .int .i64 0, .bool false]) (ty := 53) (u := .agg #[.slice none 0 0, .int .i64 0, .int .i64 0, .int .i64 0, .bool false]) (nog rfl _) rfl rfl (by kernel_rfl) (by kernel_rfl) (by kernel_rfl) (by kernel_rfl) (by kernel_rfl) (by kernel_rfl) (by kernel_rfl) ?_; intro wd41 hM42; clear hM26
  refine s1 hF40 3 (.slice none 0 0) ?_; intro a43 hF44; clear hF40
  refine s1 hF44 4 (.int .i64 (pchecks u0)) ?_; intro a45 hF46; clear hF44
  have hM47 : Mem w.heap.size [] w Z [.row b11 [.slice none 0 0, .int .i64 0, .int .i64 0, .int .i64 0, .bool false] 53, .row b6 [.slice ao1 u0.Data.length cap2, .int .i64 u0.At, .int .i64 u0.Next, .int .i64 u0.Left, .bool u0.Done] 53] Z wd41 := hM42; clear hM42
  refine nlH (hQ36 _ _ ?_); clear hQ36 hQ36Q
  refine wp_ret ?_
  refine thr ?_
  have hM48 : Mem w.heap.size [] w Z [.own (tyInt .u8) 5 none 0 ([] : List Int), .row b11 [.slice none 0 0, .int .i64 0, .int .i64 0, .int .i64 0, .bool false] 53, .row b6 [.slice ao1 u0.Data.length cap2, .int .i64 u0.At, .int .i64 u0.Next, .int .i64 u0.Left, .bool u0.Done] 53] Z wd41 := hM47.addNil (tyInt .u8) 5 (by decide); clear hM47
  refine rt (fn := Try.f31) (v := .tuple #[.agg #[.slice none 0 0, .int .i64 0, .int .i64 0, .int .i64 0, .bool false], .slice none ([] : List Int).length 0, .int .i64 (pchecks u0)]) hF46 (re3c hF46 (fn := Try.f31) rfl (ad := ⟨b11, 0, none⟩) (by kernel_rfl) (loadVar_run hM48 1 (b := b11) (k := 5) (vs := [.slice none 0 0, .int .i64 0, .int .i64 0, .int .i64 0, .bool false]) (ty := 53) rfl (by kernel_rfl) (by kernel_rfl)) (by kernel_rfl) (by kernel_rfl)) ?_
  exact ⟨((⟨[], 0, 0, 0, false⟩ : Sender), ([] : List Int), (pchecks u0)), none, 0, none, 0, Z, rfl, hp35, (SlR.nil _ _), hM48.keep (List.Sublist.cons_cons _ (List.Sublist.cons _ (List.Sublist.cons _ (List.Sublist.slnil))))⟩
 · -- no
  have hp49 := hp4.2 hb34; clear hp4
  refine wp_skip ?_
  refine thn ?_
  refine wp_seq ?_
  refine sqH ?_; intro hQ50Q hQ50
  refine s1 hF33 14 (.pointer (some ⟨b6, 4, none⟩)) ?_; intro a51 hF52; clear hF33
  refine l1 hF52 hM26 15 1 4 (.bool u0.Done) rfl rfl ?_; intro a53 hF54; clear hF52
  refine s1 hF54 16 (.bool u0.Done) ?_; intro a55 hF56; clear hF54
  have hF57 := hF56.atom (u0.Done == false) (by kernel_rfl); clear hF56
  refine gp hF57 17 0 [] (u0.Done) (.pointer (some ⟨b6, 3, none⟩)) rfl rfl ?_; intro a58 hF59; clear hF57
  refine gd hF59 (.int .i64 u0.Left) (m := 0) (cj := []) (bj := u0.Done) rfl rfl (by kernel_rfl) rfl (by kernel_rfl) (by kernel_rfl) (by kernel_rfl) (fun hg => ld hF59 hM26 1 (g := [0]) (b := b6) (off := 3) (cs := [.slice ao1 u0.Data.length cap2, .int .i64 u0.At, .int .i64 u0.Next, .int .i64 u0.Left, .bool u0.Done]) (ty := 53) rfl (by kernel_rfl) (by kernel_rfl) (by kernel_rfl) (by kernel_rfl) hg) ?_; intro a60 hF61; clear hF59
  refine gp hF61 19 0 [] (u0.Done) (.bool (decide (u0.Left < 0))) rfl rfl ?_; intro a62 hF63; clear hF61
  refine st hF63 (.bool (u0.Done || (decide (u0.Left < 0)))) (nog rfl _) rfl (by kernel_rfl) (pk_or hF63 (g := []) (m := 0) (b := u0.Done) (v := decide (u0.Left < 0)) rfl (by kernel_rfl) (by kernel_rfl) (by kernel_rfl) rfl) ?_; intro a64 hF65; clear hF63
  refine nlH (hQ50 _ _ ?_); clear hQ50 hQ50Q
  refine cd hF65 (t := u0.Done || (decide (u0.Left < 0))) (by kernel_rfl) (fun hb66 => ?_) (fun hb66 => ?_)
  · -- yes
   have hp67 := hp49.1 hb66; clear hp49
   have hF68 : Fr 82 [] [⟨2, [], .pointer (some ⟨b11, 0, none⟩)⟩] a64 := hF65.region (by kernel_rfl) (by kernel_rfl); clear hF65
   refine sqH ?_; intro hQ69Q hQ69
   refine s1 hF68 21 (.agg #[.slice none 0 0, .int .i64 0, .int .i64 0, .int .i64 0, .bool false]) ?_; intro a70 hF71; clear hF68
   refine sr hF71 hM26 0 [.slice none 0 0, .int .i64 0, .int .i64 0, .int .i64 0, .bool false] (b := b11) (off := 0) (cs := [.slice none 0 0, .int .i64 0, .int .i64 0, .int .i64 0, .bool false]) (ty := 53) (u := .agg #[.slice none 0 0, .int .i64 0, .int .i64 0, .int .i64 0, .bool false]) (nog rfl _) rfl rfl (by kernel_rfl) (by kernel_rfl) (by kernel_rfl) (by kernel_rfl) (by kernel_rfl) (by kernel_rfl) (by kernel_rfl) ?_; intro wd72 hM73; clear hM26
   refine s1 hF71 3 (.slice none 0 0) ?_; intro a74 hF75; clear hF71
   refine s1 hF75 4 (.int .i64 12) ?_; intro a76 hF77; clear hF75
   have hM78 : Mem w.heap.size [] w Z [.row b11 [.slice none 0 0, .int .i64 0, .int .i64 0, .int .i64 0, .bool false] 53, .row b6 [.slice ao1 u0.Data.length cap2, .int .i64 u0.At, .int .i64 u0.Next, .int .i64 u0.Left, .bool u0.Done] 53] Z wd72 := hM73; clear hM73
   refine nlH (hQ69 _ _ ?_); clear hQ69 hQ69Q
   refine wp_ret ?_
   refine thr ?_
   have hM79 : Mem w.heap.size [] w Z [.own (tyInt .u8) 5 none 0 ([] : List Int), .row b11 [.slice none 0 0, .int .i64 0, .int .i64 0, .int .i64 0, .bool false] 53, .row b6 [.slice ao1 u0.Data.length cap2, .int .i64 u0.At, .int .i64 u0.Next, .int .i64 u0.Left, .bool u0.Done] 53] Z wd72 := hM78.addNil (tyInt .u8) 5 (by decide); clear hM78
   refine rt (fn := Try.f31) (v := .tuple #[.agg #[.slice none 0 0, .int .i64 0, .int .i64 0, .int .i64 0, .bool false], .slice none ([] : List Int).length 0, .int .i64 12]) hF77 (re3c hF77 (fn := Try.f31) rfl (ad := ⟨b11, 0, none⟩) (by kernel_rfl) (loadVar_run hM79 1 (b := b11) (k := 5) (vs := [.slice none 0 0, .int .i64 0, .int .i64 0, .int .i64 0, .bool false]) (ty := 53) rfl (by kernel_rfl) (by kernel_rfl)) (by kernel_rfl) (by kernel_rfl)) ?_
   exact ⟨((⟨[], 0, 0, 0, false⟩ : Sender), ([] : List Int), 12), none, 0, none, 0, Z, rfl, hp67, (SlR.nil _ _), hM79.keep (List.Sublist.cons_cons _ (List.Sublist.cons _ (List.Sublist.cons _ (List.Sublist.slnil))))⟩
  · -- no
   have hp80 := hp49.2 hb66; clear hp49
   refine wp_skip ?_
   refine thn ?_
   have hF81 : Fr 82 [] [⟨1, [], .pointer (some ⟨b6, 0, none⟩)⟩, ⟨2, [], .pointer (some ⟨b11, 0, none⟩)⟩] a64 := hF65.region (by kernel_rfl) (by kernel_rfl); clear hF65
   refine sqH ?_; intro hQ82Q hQ82
   refine s1 hF81 22 (.pointer (some ⟨b6, 0, none⟩)) ?_; intro a83 hF84; clear hF81
   refine l1 hF84 hM26 23 1 0 (.slice ao1 u0.Data.length cap2) rfl rfl ?_; intro a85 hF86; clear hF84
   refine s1 hF86 24 (.int .i64 (u0.Data.length : Int)) ?_; intro a87 hF88; clear hF86
   refine s1 hF88 25 (.pointer (some ⟨b6, 1, none⟩)) ?_; intro a89 hF90; clear hF88
   refine l1 hF90 hM26 26 1 1 (.int .i64 u0.At) rfl rfl ?_; intro a91 hF92; clear hF90
   refine s1 hF92 27 (.int .i64 (w64 ((u0.Data.length : Int) - u0.At))) ?_; intro a93 hF94; clear hF92
   refine st hF94 (.int .i64 (min 7 (w64 ((u0.Data.length : Int) - u0.At)))) (nog rfl _) rfl (by kernel_rfl) (re_ (p0 hF94 (r := .ok (.value (.int .i64 (if (w64 ((u0.Data.length : Int) - u0.At)) < 7 then (w64 ((u0.Data.length : Int) - u0.At)) else 7))) wd25) (by kernel_rfl)) (by rw [imin])) ?_; intro a95 hF96; clear hF94
   refine s1 hF96 6 (.int .i64 (min 7 (w64 ((u0.Data.length : Int) - u0.At)))) ?_; intro a97 hF98; clear hF96
   refine nlH (hQ82 _ _ ?_); clear hQ82 hQ82Q
   have hF99 : Fr 82 [] [⟨1, [], .pointer (some ⟨b6, 0, none⟩)⟩, ⟨2, [], .pointer (some ⟨b11, 0, none⟩)⟩, ⟨6, [], .int .i64 (min 7 (w64 ((u0.Data.length : Int) - u0.At)))⟩] a97 := hF98.region (by kernel_rfl) (by kernel_rfl); clear hF98
   have hcd8_0 := hp80.1; have hp147 := hp80.2; clear hp80
   have hcd14_0 := hp147.1; have hp148 := hp147.2; clear hp147
   refine wp_seq (any_invE mixed [[], [0], [], [2], [], [4], [], [5, 6], [1, 3, 7], [], [9], [10], [11], [12], [8, 13], [0, 1, 2, 3, 4, 5, 6, 7, 8, 9, 10, 11, 12, 13, 14]] 16 (fun S a w1 => ∃ (ao116 : Option Addr) (cap117 : Nat) (b130 : Nat) (ao140 : Option Addr) (cap141 : Nat) (ud7 : Value) (ud29 : Value) (ud30 : Value) (ud31 : Value) (ud32 : Value) (ud33 : Value) (ud34 : Value) (ud35 : Value) (ud36 : Value) (ud37 : Value) (ud38 : Value) (ud39 : Value) (ud40 : Value) (ud41 : Value) (ud42 : Value) (ud43 : Value) (rh0 : Res) (rh1 : Res) (rh2 : Res) (Z149 : Fz), Fz.le Z Z149 ∧ Fr 82 [] [⟨1, [], .pointer (some ⟨b6, 0, none⟩)⟩, ⟨2, [], .pointer (some ⟨b11, 0, none⟩)⟩, ⟨6, [], .int .i64 (min 7 (w64 ((u0.Data.length : Int) - u0.At)))⟩, ⟨7, [], ud7⟩, ⟨29, [], ud29⟩, ⟨30, [], ud30⟩, ⟨31, [], ud31⟩, ⟨32, [], ud32⟩, ⟨33, [], ud33⟩, ⟨34, [], ud34⟩, ⟨35, [], ud35⟩, ⟨36, [], ud36⟩, ⟨37, [], ud37⟩, ⟨38, [], ud38⟩, ⟨39, [], ud39⟩, ⟨40, [], ud40⟩, ⟨41, [], ud41⟩, ⟨42, [], ud42⟩, ⟨43, [], ud43⟩] a ∧ Mem w.heap.size [] w Z [rh0, rh1, rh2] Z149 w1 ∧ (S 15 = true → ud7 = .slice ao140 (prowS ((u0.Data.take (w64 (u0.At + (min 7 (w64 ((u0.Data.length : Int) - u0.At))))).toNat).drop u0.At.toNat) ([bOr .u8 32 (w8 u0.Next)] : List Int)).length cap141) ∧ (S 0 = true → ud29 = .pointer (some ⟨b6, 0, none⟩)) ∧ (S 1 = true → ud30 = .slice ao1 u0.Data.length cap2) ∧ (S 2 = true → ud31 = .pointer (some ⟨b6, 1, none⟩)) ∧ (S 3 = true → ud32 = .int .i64 u0.At) ∧ (S 4 = true → ud33 = .pointer (some ⟨b6, 1, none⟩)) ∧ (S 5 = true → ud34 = .int .i64 u0.At) ∧ (S 6 = true → ud35 = .int .i64 (min 7 (w64 ((u0.Data.length : Int) - u0.At)))) ∧ (S 7 = true → ud36 = .int .i64 (w64 (u0.At + (min 7 (w64 ((u0.Data.length : Int) - u0.At)))))) ∧ (S 8 = true → ud37 = .slice ao116 ((u0.Data.take (w64 (u0.At + (min 7 (w64 ((u0.Data.length : Int) - u0.At))))).toNat).drop u0.At.toNat).length cap117) ∧ (S 9 = true → ud38 = .pointer (some ⟨b6, 2, none⟩)) ∧ (S 10 = true → ud39 = .int .i64 u0.Next) ∧ (S 11 = true → ud40 = .int .u8 (w8 u0.Next)) ∧ (S 12 = true → ud41 = .int .u8 (bOr .u8 32 (w8 u0.Next))) ∧ (S 13 = true → ud42 = .slice (some ⟨b130, 0, none⟩) 1 1) ∧ (S 14 = true → ud43 = .slice ao140 (prowS ((u0.Data.take (w64 (u0.At + (min 7 (w64 ((u0.Data.length : Int) - u0.At))))).toNat).drop u0.At.toNat) ([bOr .u8 32 (w8 u0.Next)] : List Int)).length cap141) ∧ (rh0 = .row b11 [.slice none 0 0, .int .i64 0, .int .i64 0, .int .i64 0, .bool false] 53) ∧ (rh1 = .row b6 [.slice ao1 u0.Data.length cap2, .int .i64 u0.At, .int .i64 u0.Next, .int .i64 u0.Left, .bool u0.Done] 53) ∧ (S 13 = false → rh2 = .nil) ∧ (S 13 = true → S 14 = false → rh2 = .row b130 [.int .u8 (bOr .u8 32 (w8 u0.Next))] 5) ∧ (S 14 = true → rh2 = .own (tyInt .u8) 5 ao140 cap141 (prowS ((u0.Data.take (w64 (u0.At + (min 7 (w64 ((u0.Data.length : Int) - u0.At))))).toNat).drop u0.At.toNat) ([bOr .u8 32 (w8 u0.Next)] : List Int))) ∧ (S 8 = true → SlR (tyInt .u8) Z149 ao116 cap117 ((u0.Data.take (w64 (u0.At + (min 7 (w64 ((u0.Data.length : Int) - u0.At))))).toNat).drop u0.At.toNat))) ?h0 ?hs ?hE)
   case h0 =>
    have hF151 := hF99.any 7
    have hF152 := hF151.any 29
    have hF153 := hF152.any 30
    have hF154 := hF153.any 31
    have hF155 := hF154.any 32
    have hF156 := hF155.any 33
    have hF157 := hF156.any 34
    have hF158 := hF157.any 35
    have hF159 := hF158.any 36
    have hF160 := hF159.any 37
    have hF161 := hF160.any 38
    have hF162 := hF161.any 39
    have hF163 := hF162.any 40
    have hF164 := hF163.any 41
    have hF165 := hF164.any 42
    have hF166 := hF165.any 43
    have hM167 := hM26.nilRes
    have hM168 := (hM167.perm ((pk 1 rfl).trans (((pk 1 rfl).trans ((List.Perm.refl _).cons _)).cons _))).drew
    exact ⟨none, 0, 0, none, 0, a97.tmps.getD 7 undef, a97.tmps.getD 29 undef, a97.tmps.getD 30 undef, a97.tmps.getD 31 undef, a97.tmps.getD 32 undef, a97.tmps.getD 33 undef, a97.tmps.getD 34 undef, a97.tmps.getD 35 undef, a97.tmps.getD 36 undef, a97.tmps.getD 37 undef, a97.tmps.getD 38 undef, a97.tmps.getD 39 undef, a97.tmps.getD 40 undef, a97.tmps.getD 41 undef, a97.tmps.getD 42 undef, a97.tmps.getD 43 undef, .row b11 [.slice none 0 0, .int .i64 0, .int .i64 0, .int .i64 0, .bool false] 53, .row b6 [.slice ao1 u0.Data.length cap2, .int .i64 u0.At, .int .i64 u0.Next, .int .i64 u0.Left, .bool u0.Done] 53, .nil, Z, Fz.le.refl _, hF166.region (by kernel_rfl) (by kernel_rfl), hM168, ff, ff, ff, ff, ff, ff, ff, ff, ff, ff, ff, ff, ff, ff, ff, ff, rfl, rfl, kf, ff, ff, ff⟩
   case hs =>
    intro S hcl i o hil hi hSi hpre a w1 hI; refine hid ?_; intro G hG; obtain ⟨ao116, hI⟩ := hI; obtain ⟨cap117, hI⟩ := hI; obtain ⟨b130, hI⟩ := hI; obtain ⟨ao140, hI⟩ := hI; obtain ⟨cap141, hI⟩ := hI; obtain ⟨ud7, hI⟩ := hI; obtain ⟨ud29, hI⟩ := hI; obtain ⟨ud30, hI⟩ := hI; obtain ⟨ud31, hI⟩ := hI; obtain ⟨ud32, hI⟩ := hI; obtain ⟨ud33, hI⟩ := hI; obtain ⟨ud34, hI⟩ := hI; obtain ⟨ud35, hI⟩ := hI; obtain ⟨ud36, hI⟩ := hI; obtain ⟨ud37, hI⟩ := hI; obtain ⟨ud38, hI⟩ := hI; obtain ⟨ud39, hI⟩ := hI; obtain ⟨ud40, hI⟩ := hI; obtain ⟨ud41, hI⟩ := hI; obtain ⟨ud42, hI⟩ := hI; obtain ⟨ud43, hI⟩ := hI; obtain ⟨rh0, hI⟩ := hI; obtain ⟨rh1, hI⟩ := hI; obtain ⟨rh2, hI⟩ := hI; obtain ⟨Z149, hI⟩ := hI; obtain ⟨hle150, hI⟩ := hI; obtain ⟨hFx, hI⟩ := hI; obtain ⟨hMx, hI⟩ := hI; obtain ⟨cu7, hI⟩ := hI; obtain ⟨cu29, hI⟩ := hI; obtain ⟨cu30, hI⟩ := hI; obtain ⟨cu31, hI⟩ := hI; obtain ⟨cu32, hI⟩ := hI; obtain ⟨cu33, hI⟩ := hI; obtain ⟨cu34, hI⟩ := hI; obtain ⟨cu35, hI⟩ := hI; obtain ⟨cu36, hI⟩ := hI; obtain ⟨cu37, hI⟩ := hI; obtain ⟨cu38, hI⟩ := hI; obtain ⟨cu39, hI⟩ := hI; obtain ⟨cu40, hI⟩ := hI; obtain ⟨cu41, hI⟩ := hI; obtain ⟨cu42, hI⟩ := hI; obtain ⟨cu43, hI⟩ := hI; obtain ⟨cr0_0, hI⟩ := hI; obtain ⟨cr1_0, hI⟩ := hI; obtain ⟨cr2_0, hI⟩ := hI; obtain ⟨cr2_1, hI⟩ := hI; obtain ⟨cr2_2, hI⟩ := hI; have cf0 := hI; clear hI
    have hcase : i = 0 ∨ i = 1 ∨ i = 2 ∨ i = 3 ∨ i = 4 ∨ i = 5 ∨ i = 6 ∨ i = 7 ∨ i = 8 ∨ i = 9 ∨ i = 10 ∨ i = 11 ∨ i = 12 ∨ i = 13 ∨ i = 14 ∨ i = 15 := by clear hi; omega
    rcases hcase with rfl | rfl | rfl | rfl | rfl | rfl | rfl | rfl | rfl | rfl | rfl | rfl | rfl | rfl | rfl | rfl
    · -- 0: fieldAddr
     obtain rfl := Option.some.inj hi
     have hx0 := hSi
     have hx1 := negF hcl 1 0 (by kernel_rfl) hx0
     have hx8 := negF hcl 8 1 (by kernel_rfl) hx1
     have hx14 := negF hcl 14 8 (by kernel_rfl) hx8
     have hx15 := negF hcl 15 0 (by kernel_rfl) hx0
     obtain rfl := cr0_0
     obtain rfl := cr1_0
     refine hG (any_step ?_); clear hG G; intro A J hJ
     have hle0 := Fz.le.trans hle0 hle150
     have hzst := Fz.le.refl Z149
     have hs169 := hs3.mono hle150
     refine s1 hFx 29 (.pointer (some ⟨b6, 0, none⟩)) ?_; intro a170 hF171; clear hFx
     refine nl (qnI (hJ _ _ ?_)); clear hJ J
     exact ⟨ao116, cap117, b130, ao140, cap141, ud7, .pointer (some ⟨b6, 0, none⟩), ud30, ud31, ud32, ud33, ud34, ud35, ud36, ud37, ud38, ud39, ud40, ud41, ud42, ud43, .row b11 [.slice none 0 0, .int .i64 0, .int .i64 0, .int .i64 0, .bool false] 53, .row b6 [.slice ao1 u0.Data.length cap2, .int .i64 u0.At, .int .i64 u0.Next, .int .i64 u0.Left, .bool u0.Done] 53, rh2, Z149, hle150, hF171.region (by kernel_rfl) (by kernel_rfl), hMx.perm (List.Perm.refl _), (nt hx15), kf, (nt hx1), cu31, cu32, cu33, cu34, cu35, cu36, (nt hx8), cu38, cu39, cu40, cu41, cu42, (nt hx14), rfl, rfl, cr2_0, cr2_1, (nt hx14), (nt hx8)⟩
    · -- 1: load
     obtain rfl := Option.some.inj hi
     have hx0 := hpre 0 (by kernel_rfl)
     have hx1 := hSi
     have hx8 := negF hcl 8 1 (by kernel_rfl) hx1
     have hx14 := negF hcl 14 8 (by kernel_rfl) hx8
     have hx15 := negF hcl 15 1 (by kernel_rfl) hx1
     obtain rfl := cu29 hx0
     obtain rfl := cr0_0
     obtain rfl := cr1_0
     refine hG (any_step ?_); clear hG G; intro A J hJ
     have hle0 := Fz.le.trans hle0 hle150
     have hzst := Fz.le.refl Z149
     have hs173 := hs3.mono hle150
     refine l1 hFx hMx 30 1 0 (.slice ao1 u0.Data.length cap2) rfl rfl ?_; intro a174 hF175; clear hFx
     refine nl (qnI (hJ _ _ ?_)); clear hJ J
     exact ⟨ao116, cap117, b130, ao140, cap141, ud7, .pointer (some ⟨b6, 0, none⟩), .slice ao1 u0.Data.length cap2, ud31, ud32, ud33, ud34, ud35, ud36, ud37, ud38, ud39, ud40, ud41, ud42, ud43, .row b11 [.slice none 0 0, .int .i64 0, .int .i64 0, .int .i64 0, .bool false] 53, .row b6 [.slice ao1 u0.Data.length cap2, .int .i64 u0.At, .int .i64 u0.Next, .int .i64 u0.Left, .bool u0.Done] 53, rh2, Z149, hle150, hF175.region (by kernel_rfl) (by kernel_rfl), hMx.perm (List.Perm.refl _), (nt hx15), kf, kf, cu31, cu32, cu33, cu34, cu35, cu36, (nt hx8), cu38, cu39, cu40, cu41, cu42, (nt hx14), rfl, rfl, cr2_0, cr2_1, (nt hx14), (nt hx8)⟩
    · -- 2: fieldAddr
     obtain rfl := Option.some.inj hi
     have hx2 := hSi
     have hx3 := negF hcl 3 2 (by kernel_rfl) hx2
     have hx8 := negF hcl 8 3 (by kernel_rfl) hx3
     have hx14 := negF hcl 14 8 (by kernel_rfl) hx8
     have hx15 := negF hcl 15 2 (by kernel_rfl) hx2
     obtain rfl := cr0_0
     obtain rfl := cr1_0
     refine hG (any_step ?_); clear hG G; intro A J hJ
     have hle0 := Fz.le.trans hle0 hle150
     have hzst := Fz.le.refl Z149
     have hs177 := hs3.mono hle150
     refine s1 hFx 31 (.pointer (some ⟨b6, 1, none⟩)) ?_; intro a178 hF179; clear hFx
     refine nl (qnI (hJ _ _ ?_)); clear hJ J
     exact ⟨ao116, cap117, b130, ao140, cap141, ud7, ud29, ud30, .pointer (some ⟨b6, 1, none⟩), ud32, ud33, ud34, ud35, ud36, ud37, ud38, ud39, ud40, ud41, ud42, ud43, .row b11 [.slice none 0 0, .int .i64 0, .int .i64 0, .int .i64 0, .bool false] 53, .row b6 [.slice ao1 u0.Data.length cap2, .int .i64 u0.At, .int .i64 u0.Next, .int .i64 u0.Left, .bool u0.Done] 53, rh2, Z149, hle150, hF179.region (by kernel_rfl) (by kernel_rfl), hMx.perm (List.Perm.refl _), (nt hx15), cu29, cu30, kf, (nt hx3), cu33, cu34, cu35, cu36, (nt hx8), cu38, cu39, cu40, cu41, cu42, (nt hx14), rfl, rfl, cr2_0, cr2_1, (nt hx14), (nt hx8)⟩
    · -- 3: load
     obtain rfl := Option.some.inj hi
     have hx2 := hpre 2 (by kernel_rfl)
     have hx3 := hSi
     have hx8 := negF hcl 8 3 (by kernel_rfl) hx3
     have hx14 := negF hcl 14 8 (by kernel_rfl) hx8
     have hx15 := negF hcl 15 3 (by kernel_rfl) hx3
     obtain rfl := cu31 hx2
     obtain rfl := cr0_0
     obtain rfl := cr1_0
     refine hG (any_step ?_); clear hG G; intro A J hJ
     have hle0 := Fz.le.trans hle0 hle150
     have hzst := Fz.le.refl Z149
     have hs181 := hs3.mono hle150
     refine l1 hFx hMx 32 1 1 (.int .i64 u0.At) rfl rfl ?_; intro a182 hF183; clear hFx
     refine nl (qnI (hJ _ _ ?_)); clear hJ J
     exact ⟨ao116, cap117, b130, ao140, cap141, ud7, ud29, ud30, .pointer (some ⟨b6, 1, none⟩), .int .i64 u0.At, ud33, ud34, ud35, ud36, ud37, ud38, ud39, ud40, ud41, ud42, ud43, .row b11 [.slice none 0 0, .int .i64 0, .int .i64 0, .int .i64 0, .bool false] 53, .row b6 [.slice ao1 u0.Data.length cap2, .int .i64 u0.At, .int .i64 u0.Next, .int .i64 u0.Left, .bool u0.Done] 53, rh2, Z149, hle150, hF183.region (by kernel_rfl) (by kernel_rfl), hMx.perm (List.Perm.refl _), (nt hx15), cu29, cu30, kf, kf, cu33, cu34, cu35, cu36, (nt hx8), cu38, cu39, cu40, cu41, cu42, (nt hx14), rfl, rfl, cr2_0, cr2_1, (nt hx14), (nt hx8)⟩
    · -- 4: fieldAddr
     obtain rfl := Option.some.inj hi
     have hx4 := hSi
     have hx5 := negF hcl 5 4 (by kernel_rfl) hx4
     have hx7 := negF hcl 7 5 (by kernel_rfl) hx5
     have hx8 := negF hcl 8 7 (by kernel_rfl) hx7
     have hx14 := negF hcl 14 8 (by kernel_rfl) hx8
     have hx15 := negF hcl 15 4 (by kernel_rfl) hx4
     obtain rfl := cr0_0
     obtain rfl := cr1_0
     refine hG (any_step ?_); clear hG G; intro A J hJ
     have hle0 := Fz.le.trans hle0 hle150
     have hzst := Fz.le.refl Z149
     have hs185 := hs3.mono hle150
     refine s1 hFx 33 (.pointer (some ⟨b6, 1, none⟩)) ?_; intro a186 hF187; clear hFx
     refine nl (qnI (hJ _ _ ?_)); clear hJ J
     exact ⟨ao116, cap117, b130, ao140, cap141, ud7, ud29, ud30, ud31, ud32, .pointer (some ⟨b6, 1, none⟩), ud34, ud35, ud36, ud37, ud38, ud39, ud40, ud41, ud42, ud43, .row b11 [.slice none 0 0, .int .i64 0, .int .i64 0, .int .i64 0, .bool false] 53, .row b6 [.slice ao1 u0.Data.length cap2, .int .i64 u0.At, .int .i64 u0.Next, .int .i64 u0.Left, .bool u0.Done] 53, rh2, Z149, hle150, hF187.region (by kernel_rfl) (by kernel_rfl), hMx.perm (List.Perm.refl _), (nt hx15), cu29, cu30, cu31, cu32, kf, (nt hx5), cu35, (nt hx7), (nt hx8), cu38, cu39, cu40, cu41, cu42, (nt hx14), rfl, rfl, cr2_0, cr2_1, (nt hx14), (nt hx8)⟩
    · -- 5: load
     obtain rfl := Option.some.inj hi
     have hx4 := hpre 4 (by kernel_rfl)
     have hx5 := hSi
     have hx7 := negF hcl 7 5 (by kernel_rfl) hx5
     have hx8 := negF hcl 8 7 (by kernel_rfl) hx7
     have hx14 := negF hcl 14 8 (by kernel_rfl) hx8
     have hx15 := negF hcl 15 5 (by kernel_rfl) hx5
     obtain rfl := cu33 hx4
     obtain rfl := cr0_0
     obtain rfl := cr1_0
     refine hG (any_step ?_); clear hG G; intro A J hJ
     have hle0 := Fz.le.trans hle0 hle150
     have hzst := Fz.le.refl Z149
     have hs189 := hs3.mono hle150
     refine l1 hFx hMx 34 1 1 (.int .i64 u0.At) rfl rfl ?_; intro a190 hF191; clear hFx
     refine nl (qnI (hJ _ _ ?_)); clear hJ J
     exact ⟨ao116, cap117, b130, ao140, cap141, ud7, ud29, ud30, ud31, ud32, .pointer (some ⟨b6, 1, none⟩), .int .i64 u0.At, ud35, ud36, ud37, ud38, ud39, ud40, ud41, ud42, ud43, .row b11 [.slice none 0 0, .int .i64 0, .int .i64 0, .int .i64 0, .bool false] 53, .row b6 [.slice ao1 u0.Data.length cap2, .int .i64 u0.At, .int .i64 u0.Next, .int .i64 u0.Left, .bool u0.Done] 53, rh2, Z149, hle150, hF191.region (by kernel_rfl) (by kernel_rfl), hMx.perm (List.Perm.refl _), (nt hx15), cu29, cu30, cu31, cu32, kf, kf, cu35, (nt hx7), (nt hx8), cu38, cu39, cu40, cu41, cu42, (nt hx14), rfl, rfl, cr2_0, cr2_1, (nt hx14), (nt hx8)⟩
    · -- 6: move
     obtain rfl := Option.some.inj hi
     have hx6 := hSi
     have hx7 := negF hcl 7 6 (by kernel_rfl) hx6
     have hx8 := negF hcl 8 7 (by kernel_rfl) hx7
     have hx14 := negF hcl 14 8 (by kernel_rfl) hx8
     have hx15 := negF hcl 15 6 (by kernel_rfl) hx6
     obtain rfl := cr0_0
     obtain rfl := cr1_0
     refine hG (any_step ?_); clear hG G; intro A J hJ
     have hle0 := Fz.le.trans hle0 hle150
     have hzst := Fz.le.refl Z149
     have hs193 := hs3.mono hle150
     refine s1 hFx 35 (.int .i64 (min 7 (w64 ((u0.Data.length : Int) - u0.At)))) ?_; intro a194 hF195; clear hFx
     refine nl (qnI (hJ _ _ ?_)); clear hJ J
     exact ⟨ao116, cap117, b130, ao140, cap141, ud7, ud29, ud30, ud31, ud32, ud33, ud34, .int .i64 (min 7 (w64 ((u0.Data.length : Int) - u0.At))), ud36, ud37, ud38, ud39, ud40, ud41, ud42, ud43, .row b11 [.slice none 0 0, .int .i64 0, .int .i64 0, .int .i64 0, .bool false] 53, .row b6 [.slice ao1 u0.Data.length cap2, .int .i64 u0.At, .int .i64 u0.Next, .int .i64 u0.Left, .bool u0.Done] 53, rh2, Z149, hle150, hF195.region (by kernel_rfl) (by kernel_rfl), hMx.perm (List.Perm.refl _), (nt hx15), cu29, cu30, cu31, cu32, cu33, cu34, kf, (nt hx7), (nt hx8), cu38, cu39, cu40, cu41, cu42, (nt hx14), rfl, rfl, cr2_0, cr2_1, (nt hx14), (nt hx8)⟩
    · -- 7: binOp
     obtain rfl := Option.some.inj hi
     have hx6 := hpre 6 (by kernel_rfl)
     have hx5 := hpre 5 (by kernel_rfl)
     have hx4 := hcl 5 4 (by kernel_rfl) hx5
     have hx7 := hSi
     have hx8 := negF hcl 8 7 (by kernel_rfl) hx7
     have hx14 := negF hcl 14 8 (by kernel_rfl) hx8
     have hx15 := negF hcl 15 7 (by kernel_rfl) hx7
     obtain rfl := cu33 hx4
     obtain rfl := cu34 hx5
     obtain rfl := cu35 hx6
     obtain rfl := cr0_0
     obtain rfl := cr1_0
     refine hG (any_step ?_); clear hG G; intro A J hJ
     have hle0 := Fz.le.trans hle0 hle150
     have hzst := Fz.le.refl Z149
     have hs197 := hs3.mono hle150
     refine s1 hFx 36 (.int .i64 (w64 (u0.At + (min 7 (w64 ((u0.Data.length : Int) - u0.At)))))) ?_; intro a198 hF199; clear hFx
     refine nl (qnI (hJ _ _ ?_)); clear hJ J
     exact ⟨ao116, cap117, b130, ao140, cap141, ud7, ud29, ud30, ud31, ud32, .pointer (some ⟨b6, 1, none⟩), .int .i64 u0.At, .int .i64 (min 7 (w64 ((u0.Data.length : Int) - u0.At))), .int .i64 (w64 (u0.At + (min 7 (w64 ((u0.Data.length : Int) - u0.At))))), ud37, ud38, ud39, ud40, ud41, ud42, ud43, .row b11 [.slice none 0 0, .int .i64 0, .int .i64 0, .int .i64 0, .bool false] 53, .row b6 [.slice ao1 u0.Data.length cap2, .int .i64 u0.At, .int .i64 u0.Next, .int .i64 u0.Left, .bool u0.Done] 53, rh2, Z149, hle150, hF199.region (by kernel_rfl) (by kernel_rfl), hMx.perm (List.Perm.refl _), (nt hx15), cu29, cu30, cu31, cu32, kf, kf, kf, kf, (nt hx8), cu38, cu39, cu40, cu41, cu42, (nt hx14), rfl, rfl, cr2_0, cr2_1, (nt hx14), (nt hx8)⟩
    · -- 8: slice
     obtain rfl := Option.some.inj hi
     have hx7 := hpre 7 (by kernel_rfl)
     have hx3 := hpre 3 (by kernel_rfl)
     have hx1 := hpre 1 (by kernel_rfl)
     have hx6 := hcl 7 6 (by kernel_rfl) hx7
     have hx5 := hcl 7 5 (by kernel_rfl) hx7
     have hx2 := hcl 3 2 (by kernel_rfl) hx3
     have hx0 := hcl 1 0 (by kernel_rfl) hx1
     have hx4 := hcl 5 4 (by kernel_rfl) hx5
     have hx8 := hSi
     have hx14 := negF hcl 14 8 (by kernel_rfl) hx8
     have hx15 := negF hcl 15 8 (by kernel_rfl) hx8
     obtain rfl := cu29 hx0
     obtain rfl := cu30 hx1
     obtain rfl := cu31 hx2
     obtain rfl := cu32 hx3
     obtain rfl := cu33 hx4
     obtain rfl := cu34 hx5
     obtain rfl := cu35 hx6
     obtain rfl := cu36 hx7
     obtain rfl := cr0_0
     obtain rfl := cr1_0
     refine hG (any_step ?_); clear hG G; intro A J hJ
     have hle0 := Fz.le.trans hle0 hle150
     have hzst := Fz.le.refl Z149
     have hs201 := hs3.mono hle150
     refine slI hFx (T := (tyInt .u8)) (xs := u0.Data) hs201 u0.At (w64 (u0.At + (min 7 (w64 ((u0.Data.length : Int) - u0.At))))) hcd8_0 (k := .i64) (k' := .i64) (e := 5) (bytes := 1) (nog rfl _) rfl (by kernel_rfl) rfl (by kernel_rfl) (by kernel_rfl) (by kernel_rfl) (by kernel_rfl) ?_; intro ao202 cap203 a206 hn204 hs205 hF207; clear hFx
     refine nl (qnI (hJ _ _ ?_)); clear hJ J
     exact ⟨ao202, cap203, b130, ao140, cap141, ud7, .pointer (some ⟨b6, 0, none⟩), .slice ao1 u0.Data.length cap2, .pointer (some ⟨b6, 1, none⟩), .int .i64 u0.At, .pointer (some ⟨b6, 1, none⟩), .int .i64 u0.At, .int .i64 (min 7 (w64 ((u0.Data.length : Int) - u0.At))), .int .i64 (w64 (u0.At + (min 7 (w64 ((u0.Data.length : Int) - u0.At))))), .slice ao202 ((u0.Data.take (w64 (u0.At + (min 7 (w64 ((u0.Data.length : Int) - u0.At))))).toNat).drop u0.At.toNat).length cap203, ud38, ud39, ud40, ud41, ud42, ud43, .row b11 [.slice none 0 0, .int .i64 0, .int .i64 0, .int .i64 0, .bool false] 53, .row b6 [.slice ao1 u0.Data.length cap2, .int .i64 u0.At, .int .i64 u0.Next, .int .i64 u0.Left, .bool u0.Done] 53, rh2, Z149, hle150, hF207.region (by kernel_rfl) (by kernel_rfl), hMx.perm (List.Perm.refl _), (nt hx15), kf, kf, kf, kf, kf, kf, kf, kf, kf, cu38, cu39, cu40, cu41, cu42, (nt hx14), rfl, rfl, cr2_0, cr2_1, (nt hx14), (fun _ => hs205)⟩
    · -- 9: fieldAddr
     obtain rfl := Option.some.inj hi
     have hx9 := hSi
     have hx10 := negF hcl 10 9 (by kernel_rfl) hx9
     have hx11 := negF hcl 11 10 (by kernel_rfl) hx10
     have hx12 := negF hcl 12 11 (by kernel_rfl) hx11
     have hx13 := negF hcl 13 12 (by kernel_rfl) hx12
     have hx14 := negF hcl 14 13 (by kernel_rfl) hx13
     have hx15 := negF hcl 15 9 (by kernel_rfl) hx9
     obtain rfl := cr0_0
     obtain rfl := cr1_0
     obtain rfl := cr2_0 hx13
     refine hG (any_step ?_); clear hG G; intro A J hJ
     have hle0 := Fz.le.trans hle0 hle150
     have hzst := Fz.le.refl Z149
     have hs209 := hs3.mono hle150
     have hM210 := hMx.keep (List.Sublist.cons_cons _ (List.Sublist.cons_cons _ (List.Sublist.cons _ (List.Sublist.slnil)))); clear hMx
     refine s1 hFx 38 (.pointer (some ⟨b6, 2, none⟩)) ?_; intro a211 hF212; clear hFx
     refine nl (qnI (hJ _ _ ?_)); clear hJ J
     have hM213 := hM210.nilRes
     exact ⟨ao116, cap117, b130, ao140, cap141, ud7, ud29, ud30, ud31, ud32, ud33, ud34, ud35, ud36, ud37, .pointer (some ⟨b6, 2, none⟩), ud39, ud40, ud41, ud42, ud43, .row b11 [.slice none 0 0, .int .i64 0, .int .i64 0, .int .i64 0, .bool false] 53, .row b6 [.slice ao1 u0.Data.length cap2, .int .i64 u0.At, .int .i64 u0.Next, .int .i64 u0.Left, .bool u0.Done] 53, .nil, Z149, hle150, hF212.region (by kernel_rfl) (by kernel_rfl), hM213.perm ((pk 1 rfl).trans (((pk 1 rfl).trans ((List.Perm.refl _).cons _)).cons _)), (nt hx15), cu29, cu30, cu31, cu32, cu33, cu34, cu35, cu36, cu37, kf, (nt hx10), (nt hx11), (nt hx12), (nt hx13), (nt hx14), rfl, rfl, kf, (fun h _ => nt hx13 h), (nt hx14), cf0⟩
    · -- 10: load
     obtain rfl := Option.some.inj hi
     have hx9 := hpre 9 (by kernel_rfl)
     have hx10 := hSi
     have hx11 := negF hcl 11 10 (by kernel_rfl) hx10
     have hx12 := negF hcl 12 11 (by kernel_rfl) hx11
     have hx13 := negF hcl 13 12 (by kernel_rfl) hx12
     have hx14 := negF hcl 14 13 (by kernel_rfl) hx13
     have hx15 := negF hcl 15 10 (by kernel_rfl) hx10
     obtain rfl := cu38 hx9
     obtain rfl := cr0_0
     obtain rfl := cr1_0
     obtain rfl := cr2_0 hx13
     refine hG (any_step ?_); clear hG G; intro A J hJ
     have hle0 := Fz.le.trans hle0 hle150
     have hzst := Fz.le.refl Z149
     have hs215 := hs3.mono hle150
     have hM216 := hMx.keep (List.Sublist.cons_cons _ (List.Sublist.cons_cons _ (List.Sublist.cons _ (List.Sublist.slnil)))); clear hMx
     refine l1 hFx hM216 39 1 2 (.int .i64 u0.Next) rfl rfl ?_; intro a217 hF218; clear hFx
     refine nl (qnI (hJ _ _ ?_)); clear hJ J
     have hM219 := hM216.nilRes
     exact ⟨ao116, cap117, b130, ao140, cap141, ud7, ud29, ud30, ud31, ud32, ud33, ud34, ud35, ud36, ud37, .pointer (some ⟨b6, 2, none⟩), .int .i64 u0.Next, ud40, ud41, ud42, ud43, .row b11 [.slice none 0 0, .int .i64 0, .int .i64 0, .int .i64 0, .bool false] 53, .row b6 [.slice ao1 u0.Data.length cap2, .int .i64 u0.At, .int .i64 u0.Next, .int .i64 u0.Left, .bool u0.Done] 53, .nil, Z149, hle150, hF218.region (by kernel_rfl) (by kernel_rfl), hM219.perm ((pk 1 rfl).trans (((pk 1 rfl).trans ((List.Perm.refl _).cons _)).cons _)), (nt hx15), cu29, cu30, cu31, cu32, cu33, cu34, cu35, cu36, cu37, kf, kf, (nt hx11), (nt hx12), (nt hx13), (nt hx14), rfl, rfl, kf, (fun h _ => nt hx13 h), (nt hx14), cf0⟩
    · -- 11: convert
     obtain rfl := Option.some.inj hi
     have hx10 := hpre 10 (by kernel_rfl)
     have hx9 := hcl 10 9 (by kernel_rfl) hx10
     have hx11 := hSi
     have hx12 := negF hcl 12 11 (by kernel_rfl) hx11
     have hx13 := negF hcl 13 12 (by kernel_rfl) hx12
     have hx14 := negF hcl 14 13 (by kernel_rfl) hx13
     have hx15 := negF hcl 15 11 (by kernel_rfl) hx11
     obtain rfl := cu38 hx9
     obtain rfl := cu39 hx10
     obtain rfl := cr0_0
     obtain rfl := cr1_0
     obtain rfl := cr2_0 hx13
     refine hG (any_step ?_); clear hG G; intro A J hJ
     have hle0 := Fz.le.trans hle0 hle150
     have hzst := Fz.le.refl Z149
     have hs221 := hs3.mono hle150
     have hM222 := hMx.keep (List.Sublist.cons_cons _ (List.Sublist.cons_cons _ (List.Sublist.cons _ (List.Sublist.slnil)))); clear hMx
     refine s1 hFx 40 (.int .u8 (w8 u0.Next)) ?_; intro a223 hF224; clear hFx
     refine nl (qnI (hJ _ _ ?_)); clear hJ J
     have hM225 := hM222.nilRes
     exact ⟨ao116, cap117, b130, ao140, cap141, ud7, ud29, ud30, ud31, ud32, ud33, ud34, ud35, ud36, ud37, .pointer (some ⟨b6, 2, none⟩), .int .i64 u0.Next, .int .u8 (w8 u0.Next), ud41, ud42, ud43, .row b11 [.slice none 0 0, .int .i64 0, .int .i64 0, .int .i64 0, .bool false] 53, .row b6 [.slice ao1 u0.Data.length cap2, .int .i64 u0.At, .int .i64 u0.Next, .int .i64 u0.Left, .bool u0.Done] 53, .nil, Z149, hle150, hF224.region (by kernel_rfl) (by kernel_rfl), hM225.perm ((pk 1 rfl).trans (((pk 1 rfl).trans ((List.Perm.refl _).cons _)).cons _)), (nt hx15), cu29, cu30, cu31, cu32, cu33, cu34, cu35, cu36, cu37, kf, kf, kf, (nt hx12), (nt hx13), (nt hx14), rfl, rfl, kf, (fun h _ => nt hx13 h), (nt hx14), cf0⟩
    · -- 12: binOp
     obtain rfl := Option.some.inj hi
     have hx11 := hpre 11 (by kernel_rfl)
     have hx10 := hcl 11 10 (by kernel_rfl) hx11
     have hx9 := hcl 10 9 (by kernel_rfl) hx10
     have hx12 := hSi
     have hx13 := negF hcl 13 12 (by kernel_rfl) hx12
     have hx14 := negF hcl 14 13 (by kernel_rfl) hx13
     have hx15 := negF hcl 15 12 (by kernel_rfl) hx12
     obtain rfl := cu38 hx9
     obtain rfl := cu39 hx10
     obtain rfl := cu40 hx11
     obtain rfl := cr0_0
     obtain rfl := cr1_0
     obtain rfl := cr2_0 hx13
     refine hG (any_step ?_); clear hG G; intro A J hJ
     have hle0 := Fz.le.trans hle0 hle150
     have hzst := Fz.le.refl Z149
     have hs227 := hs3.mono hle150
     have hM228 := hMx.keep (List.Sublist.cons_cons _ (List.Sublist.cons_cons _ (List.Sublist.cons _ (List.Sublist.slnil)))); clear hMx
     refine s1 hFx 41 (.int .u8 (bOr .u8 32 (w8 u0.Next))) ?_; intro a229 hF230; clear hFx
     refine nl (qnI (hJ _ _ ?_)); clear hJ J
     have hM231 := hM228.nilRes
     exact ⟨ao116, cap117, b130, ao140, cap141, ud7, ud29, ud30, ud31, ud32, ud33, ud34, ud35, ud36, ud37, .pointer (some ⟨b6, 2, none⟩), .int .i64 u0.Next, .int .u8 (w8 u0.Next), .int .u8 (bOr .u8 32 (w8 u0.Next)), ud42, ud43, .row b11 [.slice none 0 0, .int .i64 0, .int .i64 0, .int .i64 0, .bool false] 53, .row b6 [.slice ao1 u0.Data.length cap2, .int .i64 u0.At, .int .i64 u0.Next, .int .i64 u0.Left, .bool u0.Done] 53, .nil, Z149, hle150, hF230.region (by kernel_rfl) (by kernel_rfl), hM231.perm ((pk 1 rfl).trans (((pk 1 rfl).trans ((List.Perm.refl _).cons _)).cons _)), (nt hx15), cu29, cu30, cu31, cu32, cu33, cu34, cu35, cu36, cu37, kf, kf, kf, kf, (nt hx13), (nt hx14), rfl, rfl, kf, (fun h _ => nt hx13 h), (nt hx14), cf0⟩
    · -- 13: buildSlice
     obtain rfl := Option.some.inj hi
     have hx12 := hpre 12 (by kernel_rfl)
     have hx11 := hcl 12 11 (by kernel_rfl) hx12
     have hx10 := hcl 11 10 (by kernel_rfl) hx11
     have hx9 := hcl 10 9 (by kernel_rfl) hx10
     have hx13 := hSi
     have hx14 := negF hcl 14 13 (by kernel_rfl) hx13
     have hx15 := negF hcl 15 13 (by kernel_rfl) hx13
     obtain rfl := cu38 hx9
     obtain rfl := cu39 hx10
     obtain rfl := cu40 hx11
     obtain rfl := cu41 hx12
     obtain rfl := cr0_0
     obtain rfl := cr1_0
     obtain rfl := cr2_0 hx13
     refine hG (any_step ?_); clear hG G; intro A J hJ
     have hle0 := Fz.le.trans hle0 hle150
     have hzst := Fz.le.refl Z149
     have hs233 := hs3.mono hle150
     have hM234 := hMx.keep (List.Sublist.cons_cons _ (List.Sublist.cons_cons _ (List.Sublist.cons _ (List.Sublist.slnil)))); clear hMx
     refine sn hFx hM234 (fun b => .slice (some ⟨b, 0, none⟩) 1 1) [.int .u8 (bOr .u8 32 (w8 u0.Next))] 5 (nog rfl _) rfl (by kernel_rfl) (by kernel_rfl) ?_; intro b235 a236 wd238 hF237 hM239; clear hFx hM234
     refine nl (qnI (hJ _ _ ?_)); clear hJ J
     exact ⟨ao116, cap117, b235, ao140, cap141, ud7, ud29, ud30, ud31, ud32, ud33, ud34, ud35, ud36, ud37, .pointer (some ⟨b6, 2, none⟩), .int .i64 u0.Next, .int .u8 (w8 u0.Next), .int .u8 (bOr .u8 32 (w8 u0.Next)), .slice (some ⟨b235, 0, none⟩) 1 1, ud43, .row b11 [.slice none 0 0, .int .i64 0, .int .i64 0, .int .i64 0, .bool false] 53, .row b6 [.slice ao1 u0.Data.length cap2, .int .i64 u0.At, .int .i64 u0.Next, .int .i64 u0.Left, .bool u0.Done] 53, .row b235 [.int .u8 (bOr .u8 32 (w8 u0.Next))] 5, Z149, hle150, hF237.region (by kernel_rfl) (by kernel_rfl), hM239.perm ((pk 1 rfl).trans (((pk 1 rfl).trans ((List.Perm.refl _).cons _)).cons _)), (nt hx15), cu29, cu30, cu31, cu32, cu33, cu34, cu35, cu36, cu37, kf, kf, kf, kf, kf, (nt hx14), rfl, rfl, nu, kf2, (nt hx14), cf0⟩
    · -- 14: call
     obtain rfl := Option.some.inj hi
     have hx13 := hpre 13 (by kernel_rfl)
     have hx8 := hpre 8 (by kernel_rfl)
     have hx12 := hcl 13 12 (by kernel_rfl) hx13
     have hx7 := hcl 8 7 (by kernel_rfl) hx8
     have hx3 := hcl 8 3 (by kernel_rfl) hx8
     have hx1 := hcl 8 1 (by kernel_rfl) hx8
     have hx11 := hcl 12 11 (by kernel_rfl) hx12
     have hx6 := hcl 7 6 (by kernel_rfl) hx7
     have hx5 := hcl 7 5 (by kernel_rfl) hx7
     have hx2 := hcl 3 2 (by kernel_rfl) hx3
     have hx0 := hcl 1 0 (by kernel_rfl) hx1
     have hx10 := hcl 11 10 (by kernel_rfl) hx11
     have hx4 := hcl 5 4 (by kernel_rfl) hx5
     have hx9 := hcl 10 9 (by kernel_rfl) hx10
     have hx14 := hSi
     have hx15 := negF hcl 15 14 (by kernel_rfl) hx14
     obtain rfl := cu29 hx0
     obtain rfl := cu30 hx1
     obtain rfl := cu31 hx2
     obtain rfl := cu32 hx3
     obtain rfl := cu33 hx4
     obtain rfl := cu34 hx5
     obtain rfl := cu35 hx6
     obtain rfl := cu36 hx7
     obtain rfl := cu37 hx8
     obtain rfl := cu38 hx9
     obtain rfl := cu39 hx10
     obtain rfl := cu40 hx11
     obtain rfl := cu41 hx12
     obtain rfl := cu42 hx13
     obtain rfl := cr0_0
     obtain rfl := cr1_0
     obtain rfl := cr2_1 hx13 hx14
     refine hG (any_step ?_); clear hG G; intro A J hJ
     have hle0 := Fz.le.trans hle0 hle150
     have hzst := Fz.le.refl Z149
     have hs241 := hs3.mono hle150
     have hs242 := cf0 hx8
     have hM243 : Mem w.heap.size [] w Z [.row b11 [.slice none 0 0, .int .i64 0, .int .i64 0, .int .i64 0, .bool false] 53, .row b6 [.slice ao1 u0.Data.length cap2, .int .i64 u0.At, .int .i64 u0.Next, .int .i64 u0.Left, .bool u0.Done] 53, .own (tyInt .u8) 5 (some ⟨b130, 0, none⟩) 1 ([bOr .u8 32 (w8 u0.Next)] : List Int)] Z149 w1 := hMx.rowOwn (T := (tyInt .u8)) (xs := ([bOr .u8 32 (w8 u0.Next)] : List Int)) 2 rfl (by decide) (by show 1 ≤ lim; decide) (RepAll.one (T := (tyInt .u8)) (x := bOr .u8 32 (w8 u0.Next)) rfl); clear hMx
     refine cl hFx 58 #[.slice ao116 ((u0.Data.take (w64 (u0.At + (min 7 (w64 ((u0.Data.length : Int) - u0.At))))).toNat).drop u0.At.toNat).length cap117, .slice (some ⟨b130, 0, none⟩) ([bOr .u8 32 (w8 u0.Next)] : List Int).length 1] (nog rfl _) rfl (by kernel_rfl) (by kernel_rfl) ?_
     refine (prow_fun ((u0.Data.take (w64 (u0.At + (min 7 (w64 ((u0.Data.length : Int) - u0.At))))).toNat).drop u0.At.toNat) ([bOr .u8 32 (w8 u0.Next)] : List Int) hcd14_0 ao116 cap117 (some ⟨b130, 0, none⟩) 1 _ _ _ _ _ _ hs242 (hM243.perm (pk 2 rfl)) hM243.fz).mono ?_; rintro _ wd244 ⟨ao248, cap249, Z250, rfl, hle251, hm⟩; refine ⟨_, rfl, ?_⟩; intro a245 hF246; have hM247 := hm; clear hm hM243 hFx
     replace hzst := hzst.mono hle251
     replace hs241 := hs241.mono hle251
     replace hs242 := hs242.mono hle251
     replace hle0 := Fz.le.trans hle0 hle251
     have hM252 : Mem w.heap.size [] w Z [.own (tyInt .u8) 5 ao248 cap249 (prowS ((u0.Data.take (w64 (u0.At + (min 7 (w64 ((u0.Data.length : Int) - u0.At))))).toNat).drop u0.At.toNat) ([bOr .u8 32 (w8 u0.Next)] : List Int)), .row b11 [.slice none 0 0, .int .i64 0, .int .i64 0, .int .i64 0, .bool false] 53, .row b6 [.slice ao1 u0.Data.length cap2, .int .i64 u0.At, .int .i64 u0.Next, .int .i64 u0.Left, .bool u0.Done] 53] Z250 wd244 := hM247; clear hM247
     refine nl (qnI (hJ _ _ ?_)); clear hJ J
     exact ⟨ao116, cap117, b130, ao248, cap249, ud7, .pointer (some ⟨b6, 0, none⟩), .slice ao1 u0.Data.length cap2, .pointer (some ⟨b6, 1, none⟩), .int .i64 u0.At, .pointer (some ⟨b6, 1, none⟩), .int .i64 u0.At, .int .i64 (min 7 (w64 ((u0.Data.length : Int) - u0.At))), .int .i64 (w64 (u0.At + (min 7 (w64 ((u0.Data.length : Int) - u0.At))))), .slice ao116 ((u0.Data.take (w64 (u0.At + (min 7 (w64 ((u0.Data.length : Int) - u0.At))))).toNat).drop u0.At.toNat).length cap117, .pointer (some ⟨b6, 2, none⟩), .int .i64 u0.Next, .int .u8 (w8 u0.Next), .int .u8 (bOr .u8 32 (w8 u0.Next)), .slice (some ⟨b130, 0, none⟩) 1 1, .slice ao248 (prowS ((u0.Data.take (w64 (u0.At + (min 7 (w64 ((u0.Data.length : Int) - u0.At))))).toNat).drop u0.At.toNat) ([bOr .u8 32 (w8 u0.Next)] : List Int)).length cap249, .row b11 [.slice none 0 0, .int .i64 0, .int .i64 0, .int .i64 0, .bool false] 53, .row b6 [.slice ao1 u0.Data.length cap2, .int .i64 u0.At, .int .i64 u0.Next, .int .i64 u0.Left, .bool u0.Done] 53, .own (tyInt .u8) 5 ao248 cap249 (prowS ((u0.Data.take (w64 (u0.At + (min 7 (w64 ((u0.Data.length : Int) - u0.At))))).toNat).drop u0.At.toNat) ([bOr .u8 32 (w8 u0.Next)] : List Int)), Z250, hle150.trans hzst, hF246.region (by kernel_rfl) (by kernel_rfl), hM252.perm ((pk 1 rfl).trans (((pk 1 rfl).trans ((List.Perm.refl _).cons _)).cons _)), (nt hx15), kf, kf, kf, kf, kf, kf, kf, kf, kf, kf, kf, kf, kf, kf, kf, rfl, rfl, (tn hx13), (fun _ => nu), kf, (fun _ => hs242)⟩
    · -- 15: assign
     obtain rfl := Option.some.inj hi
     have hx14 := hpre 14 (by kernel_rfl)
     have hx13 := hpre 13 (by kernel_rfl)
     have hx12 := hpre 12 (by kernel_rfl)
     have hx11 := hpre 11 (by kernel_rfl)
     have hx10 := hpre 10 (by kernel_rfl)
     have hx9 := hpre 9 (by kernel_rfl)
     have hx8 := hpre 8 (by kernel_rfl)
     have hx7 := hpre 7 (by kernel_rfl)
     have hx6 := hpre 6 (by kernel_rfl)
     have hx5 := hpre 5 (by kernel_rfl)
     have hx4 := hpre 4 (by kernel_rfl)
     have hx3 := hpre 3 (by kernel_rfl)
     have hx2 := hpre 2 (by kernel_rfl)
     have hx1 := hpre 1 (by kernel_rfl)
     have hx0 := hpre 0 (by kernel_rfl)
     have hx15 := hSi
     obtain rfl := cu29 hx0
     obtain rfl := cu30 hx1
     obtain rfl := cu31 hx2
     obtain rfl := cu32 hx3
     obtain rfl := cu33 hx4
     obtain rfl := cu34 hx5
     obtain rfl := cu35 hx6
     obtain rfl := cu36 hx7
     obtain rfl := cu37 hx8
     obtain rfl := cu38 hx9
     obtain rfl := cu39 hx10
     obtain rfl := cu40 hx11
     obtain rfl := cu41 hx12
     obtain rfl := cu42 hx13
     obtain rfl := cu43 hx14
     obtain rfl := cr0_0
     obtain rfl := cr1_0
     obtain rfl := cr2_2 hx14
     refine hG (any_step ?_); clear hG G; intro A J hJ
     have hle0 := Fz.le.trans hle0 hle150
     have hzst := Fz.le.refl Z149
     have hs254 := hs3.mono hle150
     have hs255 := cf0 hx8
     refine s1 hFx 7 (.slice ao140 (prowS ((u0.Data.take (w64 (u0.At + (min 7 (w64 ((u0.Data.length : Int) - u0.At))))).toNat).drop u0.At.toNat) ([bOr .u8 32 (w8 u0.Next)] : List Int)).length cap141) ?_; intro a256 hF257; clear hFx
     refine nl (qnI (hJ _ _ ?_)); clear hJ J
     exact ⟨ao116, cap117, b130, ao140, cap141, .slice ao140 (prowS ((u0.Data.take (w64 (u0.At + (min 7 (w64 ((u0.Data.length : Int) - u0.At))))).toNat).drop u0.At.toNat) ([bOr .u8 32 (w8 u0.Next)] : List Int)).length cap141, .pointer (some ⟨b6, 0, none⟩), .slice ao1 u0.Data.length cap2, .pointer (some ⟨b6, 1, none⟩), .int .i64 u0.At, .pointer (some ⟨b6, 1, none⟩), .int .i64 u0.At, .int .i64 (min 7 (w64 ((u0.Data.length : Int) - u0.At))), .int .i64 (w64 (u0.At + (min 7 (w64 ((u0.Data.length : Int) - u0.At))))), .slice ao116 ((u0.Data.take (w64 (u0.At + (min 7 (w64 ((u0.Data.length : Int) - u0.At))))).toNat).drop u0.At.toNat).length cap117, .pointer (some ⟨b6, 2, none⟩), .int .i64 u0.Next, .int .u8 (w8 u0.Next), .int .u8 (bOr .u8 32 (w8 u0.Next)), .slice (some ⟨b130, 0, none⟩) 1 1, .slice ao140 (prowS ((u0.Data.take (w64 (u0.At + (min 7 (w64 ((u0.Data.length : Int) - u0.At))))).toNat).drop u0.At.toNat) ([bOr .u8 32 (w8 u0.Next)] : List Int)).length cap141, .row b11 [.slice none 0 0, .int .i64 0, .int .i64 0, .int .i64 0, .bool false] 53, .row b6 [.slice ao1 u0.Data.length cap2, .int .i64 u0.At, .int .i64 u0.Next, .int .i64 u0.Left, .bool u0.Done] 53, .own (tyInt .u8) 5 ao140 cap141 (prowS ((u0.Data.take (w64 (u0.At + (min 7 (w64 ((u0.Data.length : Int) - u0.At))))).toNat).drop u0.At.toNat) ([bOr .u8 32 (w8 u0.Next)] : List Int)), Z149, hle150, hF257.region (by kernel_rfl) (by kernel_rfl), hMx.perm (List.Perm.refl _), kf, kf, kf, kf, kf, kf, kf, kf, kf, kf, kf, kf, kf, kf, kf, kf, rfl, rfl, (tn hx13), (fun _ => tn hx14), kf, (fun _ => hs255)⟩
   case hE =>
    intro S hS a259 wd260 hI; refine hid ?_; intro G hG; obtain ⟨ao116, hI⟩ := hI; obtain ⟨cap117, hI⟩ := hI; obtain ⟨b130, hI⟩ := hI; obtain ⟨ao140, hI⟩ := hI; obtain ⟨cap141, hI⟩ := hI; obtain ⟨ud7, hI⟩ := hI; obtain ⟨ud29, hI⟩ := hI; obtain ⟨ud30, hI⟩ := hI; obtain ⟨ud31, hI⟩ := hI; obtain ⟨ud32, hI⟩ := hI; obtain ⟨ud33, hI⟩ := hI; obtain ⟨ud34, hI⟩ := hI; obtain ⟨ud35, hI⟩ := hI; obtain ⟨ud36, hI⟩ := hI; obtain ⟨ud37, hI⟩ := hI; obtain ⟨ud38, hI⟩ := hI; obtain ⟨ud39, hI⟩ := hI; obtain ⟨ud40, hI⟩ := hI; obtain ⟨ud41, hI⟩ := hI; obtain ⟨ud42, hI⟩ := hI; obtain ⟨ud43, hI⟩ := hI; obtain ⟨rh0, hI⟩ := hI; obtain ⟨rh1, hI⟩ := hI; obtain ⟨rh2, hI⟩ := hI; obtain ⟨Z149, hI⟩ := hI; obtain ⟨hle150, hI⟩ := hI; obtain ⟨hFx, hI⟩ := hI; obtain ⟨hMx, hI⟩ := hI; obtain ⟨cu7, hI⟩ := hI; obtain ⟨cu29, hI⟩ := hI; obtain ⟨cu30, hI⟩ := hI; obtain ⟨cu31, hI⟩ := hI; obtain ⟨cu32, hI⟩ := hI; obtain ⟨cu33, hI⟩ := hI; obtain ⟨cu34, hI⟩ := hI; obtain ⟨cu35, hI⟩ := hI; obtain ⟨cu36, hI⟩ := hI; obtain ⟨cu37, hI⟩ := hI; obtain ⟨cu38, hI⟩ := hI; obtain ⟨cu39, hI⟩ := hI; obtain ⟨cu40, hI⟩ := hI; obtain ⟨cu41, hI⟩ := hI; obtain ⟨cu42, hI⟩ := hI; obtain ⟨cu43, hI⟩ := hI; obtain ⟨cr0_0, hI⟩ := hI; obtain ⟨cr1_0, hI⟩ := hI; obtain ⟨cr2_0, hI⟩ := hI; obtain ⟨cr2_1, hI⟩ := hI; obtain ⟨cr2_2, hI⟩ := hI; have cf0 := hI; clear hI; refine hG ?_; clear hG G
    obtain rfl := cu7 (hS 15 (by decide))
    obtain rfl := cu29 (hS 0 (by decide))
    obtain rfl := cu30 (hS 1 (by decide))
    obtain rfl := cu31 (hS 2 (by decide))
    obtain rfl := cu32 (hS 3 (by decide))
    obtain rfl := cu33 (hS 4 (by decide))
    obtain rfl := cu34 (hS 5 (by decide))
    obtain rfl := cu35 (hS 6 (by decide))
    obtain rfl := cu36 (hS 7 (by decide))
    obtain rfl := cu37 (hS 8 (by decide))
    obtain rfl := cu38 (hS 9 (by decide))
    obtain rfl := cu39 (hS 10 (by decide))
    obtain rfl := cu40 (hS 11 (by decide))
    obtain rfl := cu41 (hS 12 (by decide))
    obtain rfl := cu42 (hS 13 (by decide))
    obtain rfl := cu43 (hS 14 (by decide))
    obtain rfl := cr0_0
    obtain rfl := cr1_0
    obtain rfl := cr2_2 (hS 14 (by decide))
    have hle0 := Fz.le.trans hle0 hle150
    have hs261 := hs3.mono hle150
    have hs262 := cf0 (hS 8 (by decide))
    refine thn ?_
    have hF263 : Fr 82 [] [⟨1, [], .pointer (some ⟨b6, 0, none⟩)⟩, ⟨2, [], .pointer (some ⟨b11, 0, none⟩)⟩, ⟨6, [], .int .i64 (min 7 (w64 ((u0.Data.length : Int) - u0.At)))⟩, ⟨7, [], .slice ao140 (prowS ((u0.Data.take (w64 (u0.At + (min 7 (w64 ((u0.Data.length : Int) - u0.At))))).toNat).drop u0.At.toNat) ([bOr .u8 32 (w8 u0.Next)] : List Int)).length cap141⟩] a259 := hFx.region (by kernel_rfl) (by kernel_rfl); clear hFx
    refine sqH ?_; intro hQ264Q hQ264
    refine s1 hF263 44 (.pointer (some ⟨b6, 0, none⟩)) ?_; intro a265 hF266; clear hF263
    refine l1 hF266 hMx 45 1 0 (.slice ao1 u0.Data.length cap2) rfl rfl ?_; intro a267 hF268; clear hF266
    have hc269 := hp148.1; have hp270 := hp148.2; clear hp148
    refine cl hF268 57 #[.slice ao1 u0.Data.length cap2] (nog rfl _) rfl (by kernel_rfl) (by kernel_rfl) ?_
    refine (bclone_fun u0.Data hc269 ao1 cap2 _ _ hs261 hMx.fz).mono ?_; rintro _ wd271 ⟨ao275, cap276, Z277, rfl, hm⟩; refine ⟨_, rfl, ?_⟩; intro a272 hF273; have hM274 := hMx.callZ hm; have hle278 := hm.ext.le; clear hm hMx hF268
    replace hs261 := hs261.mono hle278
    replace hs262 := hs262.mono hle278
    replace hle0 := Fz.le.trans hle0 hle278
    have hM279 : Mem w.heap.size [] w Z [.own (tyInt .u8) 5 ao275 cap276 (bcloneS u0.Data), .row b11 [.slice none 0 0, .int .i64 0, .int .i64 0, .int .i64 0, .bool false] 53, .row b6 [.slice ao1 u0.Data.length cap2, .int .i64 u0.At, .int .i64 u0.Next, .int .i64 u0.Left, .bool u0.Done] 53, .own (tyInt .u8) 5 ao140 cap141 (prowS ((u0.Data.take (w64 (u0.At + (min 7 (w64 ((u0.Data.length : Int) - u0.At))))).toNat).drop u0.At.toNat) ([bOr .u8 32 (w8 u0.Next)] : List Int))] Z277 wd271 := hM274; clear hM274
    have hp280 := hp270 (hM279.ownSmall 0 rfl); clear hp270
    refine s1 hF273 47 (.pointer (some ⟨b6, 0, none⟩)) ?_; intro a281 hF282; clear hF273
    refine sr hF282 hM279 2 [.slice ao275 (bcloneS u0.Data).length cap276, .int .i64 u0.At, .int .i64 u0.Next, .int .i64 u0.Left, .bool u0.Done] (b := b6) (off := 0) (cs := [.slice ao1 u0.Data.length cap2, .int .i64 u0.At, .int .i64 u0.Next, .int .i64 u0.Left, .bool u0.Done]) (ty := 53) (u := .slice ao275 (bcloneS u0.Data).length cap276) (nog rfl _) rfl rfl (by kernel_rfl) (by kernel_rfl) (by kernel_rfl) (by kernel_rfl) (by kernel_rfl) (by kernel_rfl) (by kernel_rfl) ?_; intro wd283 hM284; clear hM279
    have hM285 : Mem w.heap.size [] w Z [.own (tyInt .u8) 5 ao275 cap276 (bcloneS u0.Data), .row b11 [.slice none 0 0, .int .i64 0, .int .i64 0, .int .i64 0, .bool false] 53, .row b6 [.slice ao275 (bcloneS u0.Data).length cap276, .int .i64 u0.At, .int .i64 u0.Next, .int .i64 u0.Left, .bool u0.Done] 53, .own (tyInt .u8) 5 ao140 cap141 (prowS ((u0.Data.take (w64 (u0.At + (min 7 (w64 ((u0.Data.length : Int) - u0.At))))).toNat).drop u0.At.toNat) ([bOr .u8 32 (w8 u0.Next)] : List Int))] Z277 wd283 := hM284; clear hM284
    refine nlH (hQ264 _ _ ?_); clear hQ264 hQ264Q
    refine sqH ?_; intro hQ286Q hQ286
    refine s1 hF282 48 (.pointer (some ⟨b6, 1, none⟩)) ?_; intro a287 hF288; clear hF282
    refine l1 hF288 hM285 49 2 1 (.int .i64 u0.At) rfl rfl ?_; intro a289 hF290; clear hF288
    refine s1 hF290 50 (.int .i64 (min 7 (w64 ((u0.Data.length : Int) - u0.At)))) ?_; intro a291 hF292; clear hF290
    refine s1 hF292 51 (.int .i64 (w64 (u0.At + (min 7 (w64 ((u0.Data.length : Int) - u0.At)))))) ?_; intro a293 hF294; clear hF292
    refine s1 hF294 52 (.pointer (some ⟨b6, 1, none⟩)) ?_; intro a295 hF296; clear hF294
    refine sr hF296 hM285 2 [.slice ao275 (bcloneS u0.Data).length cap276, .int .i64 (w64 (u0.At + (min 7 (w64 ((u0.Data.length : Int) - u0.At))))), .int .i64 u0.Next, .int .i64 u0.Left, .bool u0.Done] (b := b6) (off := 1) (cs := [.slice ao275 (bcloneS u0.Data).length cap276, .int .i64 u0.At, .int .i64 u0.Next, .int .i64 u0.Left, .bool u0.Done]) (ty := 53) (u := .int .i64 (w64 (u0.At + (min 7 (w64 ((u0.Data.length : Int) - u0.At)))))) (nog rfl _) rfl rfl (by kernel_rfl) (by kernel_rfl) (by kernel_rfl) (by kernel_rfl) (by kernel_rfl) (by kernel_rfl) (by kernel_rfl) ?_; intro wd297 hM298; clear hM285
    have hM299 : Mem w.heap.size [] w Z [.own (tyInt .u8) 5 ao275 cap276 (bcloneS u0.Data), .row b11 [.slice none 0 0, .int .i64 0, .int .i64 0, .int .i64 0, .bool false] 53, .row b6 [.slice ao275 (bcloneS u0.Data).length cap276, .int .i64 (w64 (u0.At + (min 7 (w64 ((u0.Data.length : Int) - u0.At))))), .int .i64 u0.Next, .int .i64 u0.Left, .bool u0.Done] 53, .own (tyInt .u8) 5 ao140 cap141 (prowS ((u0.Data.take (w64 (u0.At + (min 7 (w64 ((u0.Data.length : Int) - u0.At))))).toNat).drop u0.At.toNat) ([bOr .u8 32 (w8 u0.Next)] : List Int))] Z277 wd297 := hM298; clear hM298
    refine nlH (hQ286 _ _ ?_); clear hQ286 hQ286Q
    refine sqH ?_; intro hQ300Q hQ300
    refine s1 hF296 53 (.pointer (some ⟨b6, 2, none⟩)) ?_; intro a301 hF302; clear hF296
    refine l1 hF302 hM299 54 2 2 (.int .i64 u0.Next) rfl rfl ?_; intro a303 hF304; clear hF302
    refine s1 hF304 55 (.int .i64 (w64 (u0.Next + 1))) ?_; intro a305 hF306; clear hF304
    refine s1 hF306 56 (.int .i64 ((w64 (u0.Next + 1)).tmod 16)) ?_; intro a307 hF308; clear hF306
    refine s1 hF308 57 (.pointer (some ⟨b6, 2, none⟩)) ?_; intro a309 hF310; clear hF308
    refine sr hF310 hM299 2 [.slice ao275 (bcloneS u0.Data).length cap276, .int .i64 (w64 (u0.At + (min 7 (w64 ((u0.Data.length : Int) - u0.At))))), .int .i64 ((w64 (u0.Next + 1)).tmod 16), .int .i64 u0.Left, .bool u0.Done] (b := b6) (off := 2) (cs := [.slice ao275 (bcloneS u0.Data).length cap276, .int .i64 (w64 (u0.At + (min 7 (w64 ((u0.Data.length : Int) - u0.At))))), .int .i64 u0.Next, .int .i64 u0.Left, .bool u0.Done]) (ty := 53) (u := .int .i64 ((w64 (u0.Next + 1)).tmod 16)) (nog rfl _) rfl rfl (by kernel_rfl) (by kernel_rfl) (by kernel_rfl) (by kernel_rfl) (by kernel_rfl) (by kernel_rfl) (by kernel_rfl) ?_; intro wd311 hM312; clear hM299
    have hM313 : Mem w.heap.size [] w Z [.own (tyInt .u8) 5 ao275 cap276 (bcloneS u0.Data), .row b11 [.slice none 0 0, .int .i64 0, .int .i64 0, .int .i64 0, .bool false] 53, .row b6 [.slice ao275 (bcloneS u0.Data).length cap276, .int .i64 (w64 (u0.At + (min 7 (w64 ((u0.Data.length : Int) - u0.At))))), .int .i64 ((w64 (u0.Next + 1)).tmod 16), .int .i64 u0.Left, .bool u0.Done] 53, .own (tyInt .u8) 5 ao140 cap141 (prowS ((u0.Data.take (w64 (u0.At + (min 7 (w64 ((u0.Data.length : Int) - u0.At))))).toNat).drop u0.At.toNat) ([bOr .u8 32 (w8 u0.Next)] : List Int))] Z277 wd311 := hM312; clear hM312
    refine nlH (hQ300 _ _ ?_); clear hQ300 hQ300Q
    refine wp_seq ?_
    refine wp_block ?_
    have hF314 : Fr 82 [] [⟨1, [], .pointer (some ⟨b6, 0, none⟩)⟩, ⟨2, [], .pointer (some ⟨b11, 0, none⟩)⟩, ⟨7, [], .slice ao140 (prowS ((u0.Data.take (w64 (u0.At + (min 7 (w64 ((u0.Data.length : Int) - u0.At))))).toNat).drop u0.At.toNat) ([bOr .u8 32 (w8 u0.Next)] : List Int)).length cap141⟩] a309 := hF310.region (by kernel_rfl) (by kernel_rfl); clear hF310
    refine sqH ?_; intro hQ315Q hQ315
    refine s1 hF314 59 (.pointer (some ⟨b6, 1, none⟩)) ?_; intro a316 hF317; clear hF314
    refine l1 hF317 hM313 60 2 1 (.int .i64 (w64 (u0.At + (min 7 (w64 ((u0.Data.length : Int) - u0.At)))))) rfl rfl ?_; intro a318 hF319; clear hF317
    refine s1 hF319 61 (.pointer (some ⟨b6, 0, none⟩)) ?_; intro a320 hF321; clear hF319
    refine l1 hF321 hM313 62 2 0 (.slice ao275 (bcloneS u0.Data).length cap276) rfl rfl ?_; intro a322 hF323; clear hF321
    refine s1 hF323 63 (.int .i64 ((bcloneS u0.Data).length : Int)) ?_; intro a324 hF325; clear hF323
    refine s1 hF325 64 (.bool ((w64 (u0.At + (min 7 (w64 ((u0.Data.length : Int) - u0.At))))) == ((bcloneS u0.Data).length : Int))) ?_; intro a326 hF327; clear hF325
    refine s1 hF327 58 (.bool ((w64 (u0.At + (min 7 (w64 ((u0.Data.length : Int) - u0.At))))) == ((bcloneS u0.Data).length : Int))) ?_; intro a328 hF329; clear hF327
    refine nlH (hQ315 _ _ ?_); clear hQ315 hQ315Q
    refine cd hF329 (t := (w64 (u0.At + (min 7 (w64 ((u0.Data.length : Int) - u0.At))))) == ((bcloneS u0.Data).length : Int)) (by kernel_rfl) (fun hb330 => ?_) (fun hb330 => ?_)
    · -- yes
     have hp331 := hp280.1 hb330; clear hp280
     refine rgH ?_; intro hQ332Q hQ332
     refine s1 hF329 65 (.pointer (some ⟨b6, 4, none⟩)) ?_; intro a333 hF334; clear hF329
     refine sr hF334 hM313 2 [.slice ao275 (bcloneS u0.Data).length cap276, .int .i64 (w64 (u0.At + (min 7 (w64 ((u0.Data.length : Int) - u0.At))))), .int .i64 ((w64 (u0.Next + 1)).tmod 16), .int .i64 u0.Left, .bool true] (b := b6) (off := 4) (cs := [.slice ao275 (bcloneS u0.Data).length cap276, .int .i64 (w64 (u0.At + (min 7 (w64 ((u0.Data.length : Int) - u0.At))))), .int .i64 ((w64 (u0.Next + 1)).tmod 16), .int .i64 u0.Left, .bool u0.Done]) (ty := 53) (u := .bool true) (nog rfl _) rfl rfl (by kernel_rfl) (by kernel_rfl) (by kernel_rfl) (by kernel_rfl) (by kernel_rfl) (by kernel_rfl) (by kernel_rfl) ?_; intro wd335 hM336; clear hM313
     refine s1 hF334 66 (.pointer (some ⟨b6, 3, none⟩)) ?_; intro a337 hF338; clear hF334
     refine sr hF338 hM336 2 [.slice ao275 (bcloneS u0.Data).length cap276, .int .i64 (w64 (u0.At + (min 7 (w64 ((u0.Data.length : Int) - u0.At))))), .int .i64 ((w64 (u0.Next + 1)).tmod 16), .int .i64 0, .bool true] (b := b6) (off := 3) (cs := [.slice ao275 (bcloneS u0.Data).length cap276, .int .i64 (w64 (u0.At + (min 7 (w64 ((u0.Data.length : Int) - u0.At))))), .int .i64 ((w64 (u0.Next + 1)).tmod 16), .int .i64 u0.Left, .bool true]) (ty := 53) (u := .int .i64 0) (nog rfl _) rfl rfl (by kernel_rfl) (by kernel_rfl) (by kernel_rfl) (by kernel_rfl) (by kernel_rfl) (by kernel_rfl) (by kernel_rfl) ?_; intro wd339 hM340; clear hM336
     have hM341 : Mem w.heap.size [] w Z [.own (tyInt .u8) 5 ao275 cap276 (bcloneS u0.Data), .row b11 [.slice none 0 0, .int .i64 0, .int .i64 0, .int .i64 0, .bool false] 53, .row b6 [.slice ao275 (bcloneS u0.Data).length cap276, .int .i64 (w64 (u0.At + (min 7 (w64 ((u0.Data.length : Int) - u0.At))))), .int .i64 ((w64 (u0.Next + 1)).tmod 16), .int .i64 0, .bool true] 53, .own (tyInt .u8) 5 ao140 cap141 (prowS ((u0.Data.take (w64 (u0.At + (min 7 (w64 ((u0.Data.length : Int) - u0.At))))).toNat).drop u0.At.toNat) ([bOr .u8 32 (w8 u0.Next)] : List Int))] Z277 wd339 := hM340; clear hM340
     refine nlH (hQ332 _ _ ?_); clear hQ332 hQ332Q
     refine ibn ?_
     refine thn ?_
     refine sqH ?_; intro hQ342Q hQ342
     refine l2 hF338 hM341 80 2 0 5 [.slice ao275 (bcloneS u0.Data).length cap276, .int .i64 (w64 (u0.At + (min 7 (w64 ((u0.Data.length : Int) - u0.At))))), .int .i64 ((w64 (u0.Next + 1)).tmod 16), .int .i64 0, .bool true] rfl rfl ?_; intro a343 hF344; clear hF338
     refine s1 hF344 81 (.slice ao140 (prowS ((u0.Data.take (w64 (u0.At + (min 7 (w64 ((u0.Data.length : Int) - u0.At))))).toNat).drop u0.At.toNat) ([bOr .u8 32 (w8 u0.Next)] : List Int)).length cap141) ?_; intro a345 hF346; clear hF344
     refine sr hF346 hM341 1 [.slice ao275 (bcloneS u0.Data).length cap276, .int .i64 (w64 (u0.At + (min 7 (w64 ((u0.Data.length : Int) - u0.At))))), .int .i64 ((w64 (u0.Next + 1)).tmod 16), .int .i64 0, .bool true] (b := b11) (off := 0) (cs := [.slice none 0 0, .int .i64 0, .int .i64 0, .int .i64 0, .bool false]) (ty := 53) (u := .agg #[.slice ao275 (bcloneS u0.Data).length cap276, .int .i64 (w64 (u0.At + (min 7 (w64 ((u0.Data.length : Int) - u0.At))))), .int .i64 ((w64 (u0.Next + 1)).tmod 16), .int .i64 0, .bool true]) (nog rfl _) rfl rfl (by kernel_rfl) (by kernel_rfl) (by kernel_rfl) (by kernel_rfl) (by kernel_rfl) (by kernel_rfl) (by kernel_rfl) ?_; intro wd347 hM348; clear hM341
     refine s1 hF346 3 (.slice ao140 (prowS ((u0.Data.take (w64 (u0.At + (min 7 (w64 ((u0.Data.length : Int) - u0.At))))).toNat).drop u0.At.toNat) ([bOr .u8 32 (w8 u0.Next)] : List Int)).length cap141) ?_; intro a349 hF350; clear hF346
     refine s1 hF350 4 (.int .i64 0) ?_; intro a351 hF352; clear hF350
     have hM353 : Mem w.heap.size [] w Z [.own (tyInt .u8) 5 ao275 cap276 (bcloneS u0.Data), .row b11 [.slice ao275 (bcloneS u0.Data).length cap276, .int .i64 (w64 (u0.At + (min 7 (w64 ((u0.Data.length : Int) - u0.At))))), .int .i64 ((w64 (u0.Next + 1)).tmod 16), .int .i64 0, .bool true] 53, .row b6 [.slice ao275 (bcloneS u0.Data).length cap276, .int .i64 (w64 (u0.At + (min 7 (w64 ((u0.Data.length : Int) - u0.At))))), .int .i64 ((w64 (u0.Next + 1)).tmod 16), .int .i64 0, .bool true] 53, .own (tyInt .u8) 5 ao140 cap141 (prowS ((u0.Data.take (w64 (u0.At + (min 7 (w64 ((u0.Data.length : Int) - u0.At))))).toNat).drop u0.At.toNat) ([bOr .u8 32 (w8 u0.Next)] : List Int))] Z277 wd347 := hM348; clear hM348
     refine nlH (hQ342 _ _ ?_); clear hQ342 hQ342Q
     refine wp_ret ?_
     obtain ⟨Z354, hle355, hM356, hs357⟩ := hM353.freeze 0 rfl
     replace hs261 := hs261.mono hle355
     replace hs262 := hs262.mono hle355
     replace hle0 := Fz.le.trans hle0 hle355
     have hM358 : Mem w.heap.size [] w Z [.row b11 [.slice ao275 (bcloneS u0.Data).length cap276, .int .i64 (w64 (u0.At + (min 7 (w64 ((u0.Data.length : Int) - u0.At))))), .int .i64 ((w64 (u0.Next + 1)).tmod 16), .int .i64 0, .bool true] 53, .row b6 [.slice ao275 (bcloneS u0.Data).length cap276, .int .i64 (w64 (u0.At + (min 7 (w64 ((u0.Data.length : Int) - u0.At))))), .int .i64 ((w64 (u0.Next + 1)).tmod 16), .int .i64 0, .bool true] 53, .own (tyInt .u8) 5 ao140 cap141 (prowS ((u0.Data.take (w64 (u0.At + (min 7 (w64 ((u0.Data.length : Int) - u0.At))))).toNat).drop u0.At.toNat) ([bOr .u8 32 (w8 u0.Next)] : List Int))] Z354 wd347 := hM356; clear hM356
     refine rt (fn := Try.f31) (v := .tuple #[.agg #[.slice ao275 (bcloneS u0.Data).length cap276, .int .i64 (w64 (u0.At + (min 7 (w64 ((u0.Data.length : Int) - u0.At))))), .int .i64 ((w64 (u0.Next + 1)).tmod 16), .int .i64 0, .bool true], .slice ao140 (prowS ((u0.Data.take (w64 (u0.At + (min 7 (w64 ((u0.Data.length : Int) - u0.At))))).toNat).drop u0.At.toNat) ([bOr .u8 32 (w8 u0.Next)] : List Int)).length cap141, .int .i64 0]) hF352 (re3c hF352 (fn := Try.f31) rfl (ad := ⟨b11, 0, none⟩) (by kernel_rfl) (loadVar_run hM358 0 (b := b11) (k := 5) (vs := [.slice ao275 (bcloneS u0.Data).length cap276, .int .i64 (w64 (u0.At + (min 7 (w64 ((u0.Data.length : Int) - u0.At))))), .int .i64 ((w64 (u0.Next + 1)).tmod 16), .int .i64 0, .bool true]) (ty := 53) rfl (by kernel_rfl) (by kernel_rfl)) (by kernel_rfl) (by kernel_rfl)) ?_
     exact ⟨((⟨(bcloneS u0.Data), w64 (u0.At + (min 7 (w64 ((u0.Data.length : Int) - u0.At)))), (w64 (u0.Next + 1)).tmod 16, 0, true⟩ : Sender), (prowS ((u0.Data.take (w64 (u0.At + (min 7 (w64 ((u0.Data.length : Int) - u0.At))))).toNat).drop u0.At.toNat) ([bOr .u8 32 (w8 u0.Next)] : List Int)), 0), ao275, cap276, ao140, cap141, Z354, rfl, hp331, hs357, hM358.keep (List.Sublist.cons _ (List.Sublist.cons _ (List.Sublist.cons_cons _ (List.Sublist.slnil))))⟩
    · -- no
     have hp359 := hp280.2 hb330; clear hp280
     refine sqH ?_; intro hQ360Q hQ360
     refine s1 hF329 68 (.pointer (some ⟨b6, 3, none⟩)) ?_; intro a361 hF362; clear hF329
     refine l1 hF362 hM313 69 2 3 (.int .i64 u0.Left) rfl rfl ?_; intro a363 hF364; clear hF362
     refine s1 hF364 70 (.bool (u0.Left == 1)) ?_; intro a365 hF366; clear hF364
     refine s1 hF366 67 (.bool (u0.Left == 1)) ?_; intro a367 hF368; clear hF366
     refine nlH (hQ360 _ _ ?_); clear hQ360 hQ360Q
     refine cd hF368 (t := u0.Left == 1) (by kernel_rfl) (fun hb369 => ?_) (fun hb369 => ?_)
     · -- yes
      have hp370 := hp359.1 hb369; clear hp359
      refine rgH ?_; intro hQ371Q hQ371
      refine s1 hF368 71 (.pointer (some ⟨b6, 3, none⟩)) ?_; intro a372 hF373; clear hF368
      refine sr hF373 hM313 2 [.slice ao275 (bcloneS u0.Data).length cap276, .int .i64 (w64 (u0.At + (min 7 (w64 ((u0.Data.length : Int) - u0.At))))), .int .i64 ((w64 (u0.Next + 1)).tmod 16), .int .i64 (-1), .bool u0.Done] (b := b6) (off := 3) (cs := [.slice ao275 (bcloneS u0.Data).length cap276, .int .i64 (w64 (u0.At + (min 7 (w64 ((u0.Data.length : Int) - u0.At))))), .int .i64 ((w64 (u0.Next + 1)).tmod 16), .int .i64 u0.Left, .bool u0.Done]) (ty := 53) (u := .int .i64 (-1)) (nog rfl _) rfl rfl (by kernel_rfl) (by kernel_rfl) (by kernel_rfl) (by kernel_rfl) (by kernel_rfl) (by kernel_rfl) (by kernel_rfl) ?_; intro wd374 hM375; clear hM313
      have hM376 : Mem w.heap.size [] w Z [.own (tyInt .u8) 5 ao275 cap276 (bcloneS u0.Data), .row b11 [.slice none 0 0, .int .i64 0, .int .i64 0, .int .i64 0, .bool false] 53, .row b6 [.slice ao275 (bcloneS u0.Data).length cap276, .int .i64 (w64 (u0.At + (min 7 (w64 ((u0.Data.length : Int) - u0.At))))), .int .i64 ((w64 (u0.Next + 1)).tmod 16), .int .i64 (-1), .bool u0.Done] 53, .own (tyInt .u8) 5 ao140 cap141 (prowS ((u0.Data.take (w64 (u0.At + (min 7 (w64 ((u0.Data.length : Int) - u0.At))))).toNat).drop u0.At.toNat) ([bOr .u8 32 (w8 u0.Next)] : List Int))] Z277 wd374 := hM375; clear hM375
      refine nlH (hQ371 _ _ ?_); clear hQ371 hQ371Q
      refine ibn ?_
      refine thn ?_
      refine sqH ?_; intro hQ377Q hQ377
      refine l2 hF373 hM376 80 2 0 5 [.slice ao275 (bcloneS u0.Data).length cap276, .int .i64 (w64 (u0.At + (min 7 (w64 ((u0.Data.length : Int) - u0.At))))), .int .i64 ((w64 (u0.Next + 1)).tmod 16), .int .i64 (-1), .bool u0.Done] rfl rfl ?_; intro a378 hF379; clear hF373
      refine s1 hF379 81 (.slice ao140 (prowS ((u0.Data.take (w64 (u0.At + (min 7 (w64 ((u0.Data.length : Int) - u0.At))))).toNat).drop u0.At.toNat) ([bOr .u8 32 (w8 u0.Next)] : List Int)).length cap141) ?_; intro a380 hF381; clear hF379
      refine sr hF381 hM376 1 [.slice ao275 (bcloneS u0.Data).length cap276, .int .i64 (w64 (u0.At + (min 7 (w64 ((u0.Data.length : Int) - u0.At))))), .int .i64 ((w64 (u0.Next + 1)).tmod 16), .int .i64 (-1), .bool u0.Done] (b := b11) (off := 0) (cs := [.slice none 0 0, .int .i64 0, .int .i64 0, .int .i64 0, .bool false]) (ty := 53) (u := .agg #[.slice ao275 (bcloneS u0.Data).length cap276, .int .i64 (w64 (u0.At + (min 7 (w64 ((u0.Data.length : Int) - u0.At))))), .int .i64 ((w64 (u0.Next + 1)).tmod 16), .int .i64 (-1), .bool u0.Done]) (nog rfl _) rfl rfl (by kernel_rfl) (by kernel_rfl) (by kernel_rfl) (by kernel_rfl) (by kernel_rfl) (by kernel_rfl) (by kernel_rfl) ?_; intro wd382 hM383; clear hM376
      refine s1 hF381 3 (.slice ao140 (prowS ((u0.Data.take (w64 (u0.At + (min 7 (w64 ((u0.Data.length : Int) - u0.At))))).toNat).drop u0.At.toNat) ([bOr .u8 32 (w8 u0.Next)] : List Int)).length cap141) ?_; intro a384 hF385; clear hF381
      refine s1 hF385 4 (.int .i64 0) ?_; intro a386 hF387; clear hF385
      have hM388 : Mem w.heap.size [] w Z [.own (tyInt .u8) 5 ao275 cap276 (bcloneS u0.Data), .row b11 [.slice ao275 (bcloneS u0.Data).length cap276, .int .i64 (w64 (u0.At + (min 7 (w64 ((u0.Data.length : Int) - u0.At))))), .int .i64 ((w64 (u0.Next + 1)).tmod 16), .int .i64 (-1), .bool u0.Done] 53, .row b6 [.slice ao275 (bcloneS u0.Data).length cap276, .int .i64 (w64 (u0.At + (min 7 (w64 ((u0.Data.length : Int) - u0.At))))), .int .i64 ((w64 (u0.Next + 1)).tmod 16), .int .i64 (-1), .bool u0.Done] 53, .own (tyInt .u8) 5 ao140 cap141 (prowS ((u0.Data.take (w64 (u0.At + (min 7 (w64 ((u0.Data.length : Int) - u0.At))))).toNat).drop u0.At.toNat) ([bOr .u8 32 (w8 u0.Next)] : List Int))] Z277 wd382 := hM383; clear hM383
      refine nlH (hQ377 _ _ ?_); clear hQ377 hQ377Q
      refine wp_ret ?_
      obtain ⟨Z389, hle390, hM391, hs392⟩ := hM388.freeze 0 rfl
      replace hs261 := hs261.mono hle390
      replace hs262 := hs262.mono hle390
      replace hle0 := Fz.le.trans hle0 hle390
      have hM393 : Mem w.heap.size [] w Z [.row b11 [.slice ao275 (bcloneS u0.Data).length cap276, .int .i64 (w64 (u0.At + (min 7 (w64 ((u0.Data.length : Int) - u0.At))))), .int .i64 ((w64 (u0.Next + 1)).tmod 16), .int .i64 (-1), .bool u0.Done] 53, .row b6 [.slice ao275 (bcloneS u0.Data).length cap276, .int .i64 (w64 (u0.At + (min 7 (w64 ((u0.Data.length : Int) - u0.At))))), .int .i64 ((w64 (u0.Next + 1)).tmod 16), .int .i64 (-1), .bool u0.Done] 53, .own (tyInt .u8) 5 ao140 cap141 (prowS ((u0.Data.take (w64 (u0.At + (min 7 (w64 ((u0.Data.length : Int) - u0.At))))).toNat).drop u0.At.toNat) ([bOr .u8 32 (w8 u0.Next)] : List Int))] Z389 wd382 := hM391; clear hM391
      refine rt (fn := Try.f31) (v := .tuple #[.agg #[.slice ao275 (bcloneS u0.Data).length cap276, .int .i64 (w64 (u0.At + (min 7 (w64 ((u0.Data.length : Int) - u0.At))))), .int .i64 ((w64 (u0.Next + 1)).tmod 16), .int .i64 (-1), .bool u0.Done], .slice ao140 (prowS ((u0.Data.take (w64 (u0.At + (min 7 (w64 ((u0.Data.length : Int) - u0.At))))).toNat).drop u0.At.toNat) ([bOr .u8 32 (w8 u0.Next)] : List Int)).length cap141, .int .i64 0]) hF387 (re3c hF387 (fn := Try.f31) rfl (ad := ⟨b11, 0, none⟩) (by kernel_rfl) (loadVar_run hM393 0 (b := b11) (k := 5) (vs := [.slice ao275 (bcloneS u0.Data).length cap276, .int .i64 (w64 (u0.At + (min 7 (w64 ((u0.Data.length : Int) - u0.At))))), .int .i64 ((w64 (u0.Next + 1)).tmod 16), .int .i64 (-1), .bool u0.Done]) (ty := 53) rfl (by kernel_rfl) (by kernel_rfl)) (by kernel_rfl) (by kernel_rfl)) ?_
      exact ⟨((⟨(bcloneS u0.Data), w64 (u0.At + (min 7 (w64 ((u0.Data.length : Int) - u0.At)))), (w64 (u0.Next + 1)).tmod 16, -1, u0.Done⟩ : Sender), (prowS ((u0.Data.take (w64 (u0.At + (min 7 (w64 ((u0.Data.length : Int) - u0.At))))).toNat).drop u0.At.toNat) ([bOr .u8 32 (w8 u0.Next)] : List Int)), 0), ao275, cap276, ao140, cap141, Z389, rfl, hp370, hs392, hM393.keep (List.Sublist.cons _ (List.Sublist.cons _ (List.Sublist.cons_cons _ (List.Sublist.slnil))))⟩
     · -- no
      have hp394 := hp359.2 hb369; clear hp359
      refine sqH ?_; intro hQ395Q hQ395
      refine s1 hF368 73 (.pointer (some ⟨b6, 3, none⟩)) ?_; intro a396 hF397; clear hF368
      refine l1 hF397 hM313 74 2 3 (.int .i64 u0.Left) rfl rfl ?_; intro a398 hF399; clear hF397
      refine s1 hF399 75 (.bool (decide (u0.Left > 1))) ?_; intro a400 hF401; clear hF399
      refine s1 hF401 72 (.bool (decide (u0.Left > 1))) ?_; intro a402 hF403; clear hF401
      refine nlH (hQ395 _ _ ?_); clear hQ395 hQ395Q
      refine cd hF403 (t := decide (u0.Left > 1)) (by kernel_rfl) (fun hb404 => ?_) (fun hb404 => ?_)
      · -- yes
       have hp405 := hp394.1 hb404; clear hp394
       have hF406 : Fr 82 [] [⟨1, [], .pointer (some ⟨b6, 0, none⟩)⟩, ⟨2, [], .pointer (some ⟨b11, 0, none⟩)⟩, ⟨7, [], .slice ao140 (prowS ((u0.Data.take (w64 (u0.At + (min 7 (w64 ((u0.Data.length : Int) - u0.At))))).toNat).drop u0.At.toNat) ([bOr .u8 32 (w8 u0.Next)] : List Int)).length cap141⟩] a402 := hF403.region (by kernel_rfl) (by kernel_rfl); clear hF403
       refine rgH ?_; intro hQ407Q hQ407
       refine s1 hF406 76 (.pointer (some ⟨b6, 3, none⟩)) ?_; intro a408 hF409; clear hF406
       refine l1 hF409 hM313 77 2 3 (.int .i64 u0.Left) rfl rfl ?_; intro a410 hF411; clear hF409
       refine s1 hF411 78 (.int .i64 (w64 (u0.Left - 1))) ?_; intro a412 hF413; clear hF411
       refine s1 hF413 79 (.pointer (some ⟨b6, 3, none⟩)) ?_; intro a414 hF415; clear hF413
       refine sr hF415 hM313 2 [.slice ao275 (bcloneS u0.Data).length cap276, .int .i64 (w64 (u0.At + (min 7 (w64 ((u0.Data.length : Int) - u0.At))))), .int .i64 ((w64 (u0.Next + 1)).tmod 16), .int .i64 (w64 (u0.Left - 1)), .bool u0.Done] (b := b6) (off := 3) (cs := [.slice ao275 (bcloneS u0.Data).length cap276, .int .i64 (w64 (u0.At + (min 7 (w64 ((u0.Data.length : Int) - u0.At))))), .int .i64 ((w64 (u0.Next + 1)).tmod 16), .int .i64 u0.Left, .bool u0.Done]) (ty := 53) (u := .int .i64 (w64 (u0.Left - 1))) (nog rfl _) rfl rfl (by kernel_rfl) (by kernel_rfl) (by kernel_rfl) (by kernel_rfl) (by kernel_rfl) (by kernel_rfl) (by kernel_rfl) ?_; intro wd416 hM417; clear hM313
       have hM418 : Mem w.heap.size [] w Z [.own (tyInt .u8) 5 ao275 cap276 (bcloneS u0.Data), .row b11 [.slice none 0 0, .int .i64 0, .int .i64 0, .int .i64 0, .bool false] 53, .row b6 [.slice ao275 (bcloneS u0.Data).length cap276, .int .i64 (w64 (u0.At + (min 7 (w64 ((u0.Data.length : Int) - u0.At))))), .int .i64 ((w64 (u0.Next + 1)).tmod 16), .int .i64 (w64 (u0.Left - 1)), .bool u0.Done] 53, .own (tyInt .u8) 5 ao140 cap141 (prowS ((u0.Data.take (w64 (u0.At + (min 7 (w64 ((u0.Data.length : Int) - u0.At))))).toNat).drop u0.At.toNat) ([bOr .u8 32 (w8 u0.Next)] : List Int))] Z277 wd416 := hM417; clear hM417
       refine nlH (hQ407 _ _ ?_); clear hQ407 hQ407Q
       refine ibn ?_
       refine thn ?_
       refine sqH ?_; intro hQ419Q hQ419
       refine l2 hF415 hM418 80 2 0 5 [.slice ao275 (bcloneS u0.Data).length cap276, .int .i64 (w64 (u0.At + (min 7 (w64 ((u0.Data.length : Int) - u0.At))))), .int .i64 ((w64 (u0.Next + 1)).tmod 16), .int .i64 (w64 (u0.Left - 1)), .bool u0.Done] rfl rfl ?_; intro a420 hF421; clear hF415
       refine s1 hF421 81 (.slice ao140 (prowS ((u0.Data.take (w64 (u0.At + (min 7 (w64 ((u0.Data.length : Int) - u0.At))))).toNat).drop u0.At.toNat) ([bOr .u8 32 (w8 u0.Next)] : List Int)).length cap141) ?_; intro a422 hF423; clear hF421
       refine sr hF423 hM418 1 [.slice ao275 (bcloneS u0.Data).length cap276, .int .i64 (w64 (u0.At + (min 7 (w64 ((u0.Data.length : Int) - u0.At))))), .int .i64 ((w64 (u0.Next + 1)).tmod 16), .int .i64 (w64 (u0.Left - 1)), .bool u0.Done] (b := b11) (off := 0) (cs := [.slice none 0 0, .int .i64 0, .int .i64 0, .int .i64 0, .bool false]) (ty := 53) (u := .agg #[.slice ao275 (bcloneS u0.Data).length cap276, .int .i64 (w64 (u0.At + (min 7 (w64 ((u0.Data.length : Int) - u0.At))))), .int .i64 ((w64 (u0.Next + 1)).tmod 16), .int .i64 (w64 (u0.Left - 1)), .bool u0.Done]) (nog rfl _) rfl rfl (by kernel_rfl) (by kernel_rfl) (by kernel_rfl) (by kernel_rfl) (by kernel_rfl) (by kernel_rfl) (by kernel_rfl) ?_; intro wd424 hM425; clear hM418
       refine s1 hF423 3 (.slice ao140 (prowS ((u0.Data.take (w64 (u0.At + (min 7 (w64 ((u0.Data.length : Int) - u0.At))))).toNat).drop u0.At.toNat) ([bOr .u8 32 (w8 u0.Next)] : List Int)).length cap141) ?_; intro a426 hF427; clear hF423
       refine s1 hF427 4 (.int .i64 0) ?_; intro a428 hF429; clear hF427
       have hM430 : Mem w.heap.size [] w Z [.own (tyInt .u8) 5 ao275 cap276 (bcloneS u0.Data), .row b11 [.slice ao275 (bcloneS u0.Data).length cap276, .int .i64 (w64 (u0.At + (min 7 (w64 ((u0.Data.length : Int) - u0.At))))), .int .i64 ((w64 (u0.Next + 1)).tmod 16), .int .i64 (w64 (u0.Left - 1)), .bool u0.Done] 53, .row b6 [.slice ao275 (bcloneS u0.Data).length cap276, .int .i64 (w64 (u0.At + (min 7 (w64 ((u0.Data.length : Int) - u0.At))))), .int .i64 ((w64 (u0.Next + 1)).tmod 16), .int .i64 (w64 (u0.Left - 1)), .bool u0.Done] 53, .own (tyInt .u8) 5 ao140 cap141 (prowS ((u0.Data.take (w64 (u0.At + (min 7 (w64 ((u0.Data.length : Int) - u0.At))))).toNat).drop u0.At.toNat) ([bOr .u8 32 (w8 u0.Next)] : List Int))] Z277 wd424 := hM425; clear hM425
       refine nlH (hQ419 _ _ ?_); clear hQ419 hQ419Q
       refine wp_ret ?_
       obtain ⟨Z431, hle432, hM433, hs434⟩ := hM430.freeze 0 rfl
       replace hs261 := hs261.mono hle432
       replace hs262 := hs262.mono hle432
       replace hle0 := Fz.le.trans hle0 hle432
       have hM435 : Mem w.heap.size [] w Z [.row b11 [.slice ao275 (bcloneS u0.Data).length cap276, .int .i64 (w64 (u0.At + (min 7 (w64 ((u0.Data.length : Int) - u0.At))))), .int .i64 ((w64 (u0.Next + 1)).tmod 16), .int .i64 (w64 (u0.Left - 1)), .bool u0.Done] 53, .row b6 [.slice ao275 (bcloneS u0.Data).length cap276, .int .i64 (w64 (u0.At + (min 7 (w64 ((u0.Data.length : Int) - u0.At))))), .int .i64 ((w64 (u0.Next + 1)).tmod 16), .int .i64 (w64 (u0.Left - 1)), .bool u0.Done] 53, .own (tyInt .u8) 5 ao140 cap141 (prowS ((u0.Data.take (w64 (u0.At + (min 7 (w64 ((u0.Data.length : Int) - u0.At))))).toNat).drop u0.At.toNat) ([bOr .u8 32 (w8 u0.Next)] : List Int))] Z431 wd424 := hM433; clear hM433
       refine rt (fn := Try.f31) (v := .tuple #[.agg #[.slice ao275 (bcloneS u0.Data).length cap276, .int .i64 (w64 (u0.At + (min 7 (w64 ((u0.Data.length : Int) - u0.At))))), .int .i64 ((w64 (u0.Next + 1)).tmod 16), .int .i64 (w64 (u0.Left - 1)), .bool u0.Done], .slice ao140 (prowS ((u0.Data.take (w64 (u0.At + (min 7 (w64 ((u0.Data.length : Int) - u0.At))))).toNat).drop u0.At.toNat) ([bOr .u8 32 (w8 u0.Next)] : List Int)).length cap141, .int .i64 0]) hF429 (re3c hF429 (fn := Try.f31) rfl (ad := ⟨b11, 0, none⟩) (by kernel_rfl) (loadVar_run hM435 0 (b := b11) (k := 5) (vs := [.slice ao275 (bcloneS u0.Data).length cap276, .int .i64 (w64 (u0.At + (min 7 (w64 ((u0.Data.length : Int) - u0.At))))), .int .i64 ((w64 (u0.Next + 1)).tmod 16), .int .i64 (w64 (u0.Left - 1)), .bool u0.Done]) (ty := 53) rfl (by kernel_rfl) (by kernel_rfl)) (by kernel_rfl) (by kernel_rfl)) ?_
       exact ⟨((⟨(bcloneS u0.Data), w64 (u0.At + (min 7 (w64 ((u0.Data.length : Int) - u0.At)))), (w64 (u0.Next + 1)).tmod 16, w64 (u0.Left - 1), u0.Done⟩ : Sender), (prowS ((u0.Data.take (w64 (u0.At + (min 7 (w64 ((u0.Data.length : Int) - u0.At))))).toNat).drop u0.At.toNat) ([bOr .u8 32 (w8 u0.Next)] : List Int)), 0), ao275, cap276, ao140, cap141, Z431, rfl, hp405, hs434, hM435.keep (List.Sublist.cons _ (List.Sublist.cons _ (List.Sublist.cons_cons _ (List.Sublist.slnil))))⟩
      · -- no
       have hp436 := hp394.2 hb404; clear hp394
       refine wp_skip ?_
       refine ibn ?_
       refine thn ?_
       have hF437 : Fr 82 [] [⟨1, [], .pointer (some ⟨b6, 0, none⟩)⟩, ⟨2, [], .pointer (some ⟨b11, 0, none⟩)⟩, ⟨7, [], .slice ao140 (prowS ((u0.Data.take (w64 (u0.At + (min 7 (w64 ((u0.Data.length : Int) - u0.At))))).toNat).drop u0.At.toNat) ([bOr .u8 32 (w8 u0.Next)] : List Int)).length cap141⟩] a402 := hF403.region (by kernel_rfl) (by kernel_rfl); clear hF403
       refine sqH ?_; intro hQ438Q hQ438
       refine l2 hF437 hM313 80 2 0 5 [.slice ao275 (bcloneS u0.Data).length cap276, .int .i64 (w64 (u0.At + (min 7 (w64 ((u0.Data.length : Int) - u0.At))))), .int .i64 ((w64 (u0.Next + 1)).tmod 16), .int .i64 u0.Left, .bool u0.Done] rfl rfl ?_; intro a439 hF440; clear hF437
       refine s1 hF440 81 (.slice ao140 (prowS ((u0.Data.take (w64 (u0.At + (min 7 (w64 ((u0.Data.length : Int) - u0.At))))).toNat).drop u0.At.toNat) ([bOr .u8 32 (w8 u0.Next)] : List Int)).length cap141) ?_; intro a441 hF442; clear hF440
       refine sr hF442 hM313 1 [.slice ao275 (bcloneS u0.Data).length cap276, .int .i64 (w64 (u0.At + (min 7 (w64 ((u0.Data.length : Int) - u0.At))))), .int .i64 ((w64 (u0.Next + 1)).tmod 16), .int .i64 u0.Left, .bool u0.Done] (b := b11) (off := 0) (cs := [.slice none 0 0, .int .i64 0, .int .i64 0, .int .i64 0, .bool false]) (ty := 53) (u := .agg #[.slice ao275 (bcloneS u0.Data).length cap276, .int .i64 (w64 (u0.At + (min 7 (w64 ((u0.Data.length : Int) - u0.At))))), .int .i64 ((w64 (u0.Next + 1)).tmod 16), .int .i64 u0.Left, .bool u0.Done]) (nog rfl _) rfl rfl (by kernel_rfl) (by kernel_rfl) (by kernel_rfl) (by kernel_rfl) (by kernel_rfl) (by kernel_rfl) (by kernel_rfl) ?_; intro wd443 hM444; clear hM313
       refine s1 hF442 3 (.slice ao140 (prowS ((u0.Data.take (w64 (u0.At + (min 7 (w64 ((u0.Data.length : Int) - u0.At))))).toNat).drop u0.At.toNat) ([bOr .u8 32 (w8 u0.Next)] : List Int)).length cap141) ?_; intro a445 hF446; clear hF442
       refine s1 hF446 4 (.int .i64 0) ?_; intro a447 hF448; clear hF446
       have hM449 : Mem w.heap.size [] w Z [.own (tyInt .u8) 5 ao275 cap276 (bcloneS u0.Data), .row b11 [.slice ao275 (bcloneS u0.Data).length cap276, .int .i64 (w64 (u0.At + (min 7 (w64 ((u0.Data.length : Int) - u0.At))))), .int .i64 ((w64 (u0.Next + 1)).tmod 16), .int .i64 u0.Left, .bool u0.Done] 53, .row b6 [.slice ao275 (bcloneS u0.Data).length cap276, .int .i64 (w64 (u0.At + (min 7 (w64 ((u0.Data.length : Int) - u0.At))))), .int .i64 ((w64 (u0.Next + 1)).tmod 16), .int .i64 u0.Left, .bool u0.Done] 53, .own (tyInt .u8) 5 ao140 cap141 (prowS ((u0.Data.take (w64 (u0.At + (min 7 (w64 ((u0.Data.length : Int) - u0.At))))).toNat).drop u0.At.toNat) ([bOr .u8 32 (w8 u0.Next)] : List Int))] Z277 wd443 := hM444; clear hM444
       refine nlH (hQ438 _ _ ?_); clear hQ438 hQ438Q
       refine wp_ret ?_
       obtain ⟨Z450, hle451, hM452, hs453⟩ := hM449.freeze 0 rfl
       replace hs261 := hs261.mono hle451
       replace hs262 := hs262.mono hle451
       replace hle0 := Fz.le.trans hle0 hle451
       have hM454 : Mem w.heap.size [] w Z [.row b11 [.slice ao275 (bcloneS u0.Data).length cap276, .int .i64 (w64 (u0.At + (min 7 (w64 ((u0.Data.length : Int) - u0.At))))), .int .i64 ((w64 (u0.Next + 1)).tmod 16), .int .i64 u0.Left, .bool u0.Done] 53, .row b6 [.slice ao275 (bcloneS u0.Data).length cap276, .int .i64 (w64 (u0.At + (min 7 (w64 ((u0.Data.length : Int) - u0.At))))), .int .i64 ((w64 (u0.Next + 1)).tmod 16), .int .i64 u0.Left, .bool u0.Done] 53, .own (tyInt .u8) 5 ao140 cap141 (prowS ((u0.Data.take (w64 (u0.At + (min 7 (w64 ((u0.Data.length : Int) - u0.At))))).toNat).drop u0.At.toNat) ([bOr .u8 32 (w8 u0.Next)] : List Int))] Z450 wd443 := hM452; clear hM452
       refine rt (fn := Try.f31) (v := .tuple #[.agg #[.slice ao275 (bcloneS u0.Data).length cap276, .int .i64 (w64 (u0.At + (min 7 (w64 ((u0.Data.length : Int) - u0.At))))), .int .i64 ((w64 (u0.Next + 1)).tmod 16), .int .i64 u0.Left, .bool u0.Done], .slice ao140 (prowS ((u0.Data.take (w64 (u0.At + (min 7 (w64 ((u0.Data.length : Int) - u0.At))))).toNat).drop u0.At.toNat) ([bOr .u8 32 (w8 u0.Next)] : List Int)).length cap141, .int .i64 0]) hF448 (re3c hF448 (fn := Try.f31) rfl (ad := ⟨b11, 0, none⟩) (by kernel_rfl) (loadVar_run hM454 0 (b := b11) (k := 5) (vs := [.slice ao275 (bcloneS u0.Data).length cap276, .int .i64 (w64 (u0.At + (min 7 (w64 ((u0.Data.length : Int) - u0.At))))), .int .i64 ((w64 (u0.Next + 1)).tmod 16), .int .i64 u0.Left, .bool u0.Done]) (ty := 53) rfl (by kernel_rfl) (by kernel_rfl)) (by kernel_rfl) (by kernel_rfl)) ?_
       exact ⟨((⟨(bcloneS u0.Data), w64 (u0.At + (min 7 (w64 ((u0.Data.length : Int) - u0.At)))), (w64 (u0.Next + 1)).tmod 16, u0.Left, u0.Done⟩ : Sender), (prowS ((u0.Data.take (w64 (u0.At + (min 7 (w64 ((u0.Data.length : Int) - u0.At))))).toNat).drop u0.At.toNat) ([bOr .u8 32 (w8 u0.Next)] : List Int)), 0), ao275, cap276, ao140, cap141, Z450, rfl, hp436, hs453, hM454.keep (List.Sublist.cons _ (List.Sublist.cons _ (List.Sublist.cons_cons _ (List.Sublist.slnil))))⟩
theorem pnext_fun (u0 : Sender) (ao1 : Option Addr) (cap2 : Nat) (Z : Fz) (w : World) (hs3 : SlR (tyInt .u8) Z ao1 cap2 u0.Data) (hZ : Z.on w) : Calls Try.prog 31 #[.agg #[.slice ao1 u0.Data.length cap2, .int .i64 u0.At, .int .i64 u0.Next, .int .i64 u0.Left, .bool u0.Done]] w fun e w' => ∃ (ao1001 : Option Addr) (cap1002 : Nat) (ao1004 : Option Addr) (cap1005 : Nat) (Z' : Fz), e = .returned (.tuple #[.agg #[.slice ao1001 (pnext u0).1.Data.length cap1002, .int .i64 (pnext u0).1.At, .int .i64 (pnext u0).1.Next, .int .i64 (pnext u0).1.Left, .bool (pnext u0).1.Done], .slice ao1004 (pnext u0).2.1.length cap1005, .int .i64 (pnext u0).2.2]) ∧ SlR (tyInt .u8) Z' ao1001 cap1002 (pnext u0).1.Data ∧ Mem w.heap.size [] w Z [.own (tyInt .u8) 5 ao1004 cap1005 (pnext u0).2.1] Z' w' :=
  (pnext_walk u0 ao1 cap2 Z w hs3 hZ (pnext_ok u0)).mono fun _ _ ⟨r, h0, h1, h2, h3, h4, he, hk, f0, hm⟩ => by subst hk; exact ⟨h0, h1, h2, h3, h4, he, f0, hm⟩

set_option maxRecDepth 100000 in
theorem psplit_walk (u0 : List Int) (ao1 : Option Addr) (cap2 : Nat) (Z : Fz) (w : World) (hs3 : SlR (tyInt .u8) Z ao1 cap2 u0) (hZ : Z.on w) {K : ((List (List Int)) × Int) → Prop} (hp : psplit_vc u0 K) : Calls Try.prog 40 #[.slice ao1 u0.length cap2] w fun e w' => ∃ (r : (List (List Int)) × Int) (ao1001 : Option Addr) (cap1002 : Nat) (Z' : Fz), e = .returned (.tuple #[.slice ao1001 r.1.length cap1002, .int .i64 r.2]) ∧ K r ∧ Mem w.heap.size [] w Z [.own (tySl (tyInt .u8)) 36 ao1001 cap1002 r.1] Z' w' := by
 refine enter0 Try.func40 rfl rfl (by kernel_rfl) ?_; intro a0 hF0; have hM0 := Mem.start w Z hZ; have hle0 := Fz.le.refl Z
 have hp4 := hp (hs3.small); clear hp
 refine sqH ?_; intro hQ5Q hQ5
 refine s1 hF0 2 (.slice none 0 0) ?_; intro a6 hF7; clear hF0
 refine s1 hF7 3 (.int .i64 0) ?_; intro a8 hF9; clear hF7
 refine nlH (hQ5 _ _ ?_); clear hQ5 hQ5Q
 refine wp_seq ?_
 refine sqH ?_; intro hQ10Q hQ10
 refine s1 hF9 8 (.slice ao1 u0.length cap2) ?_; intro a11 hF12; clear hF9
 refine s1 hF12 9 (.int .i64 (u0.length : Int)) ?_; intro a13 hF14; clear hF12
 refine s1 hF14 10 (.bool ((u0.length : Int) == 0)) ?_; intro a15 hF16; clear hF14
 refine nlH (hQ10 _ _ ?_); clear hQ10 hQ10Q
 refine cd hF16 (t := (u0.length : Int) == 0) (by kernel_rfl) (fun hb17 => ?_) (fun hb17 => ?_)
 · -- yes
  have hp18 := hp4.1 hb17; clear hp4
  refine sqH ?_; intro hQ19Q hQ19
  refine s1 hF16 2 (.slice none 0 0) ?_; intro a20 hF21; clear hF16
  refine s1 hF21 3 (.int .i64 7) ?_; intro a22 hF23; clear hF21
  refine nlH (hQ19 _ _ ?_); clear hQ19 hQ19Q
  refine wp_ret ?_
  refine thr ?_
  have hM24 : Mem w.heap.size [] w Z [.own (tySl (tyInt .u8)) 36 none 0 ([] : List (List Int))] Z w := hM0.addNil (tySl (tyInt .u8)) 36 (by decide); clear hM0
  refine rt (fn := Try.f40) (v := .tuple #[.slice none ([] : List (List Int)).length 0, .int .i64 7]) hF23 (re2 hF23 (fn := Try.f40) rfl (by kernel_rfl) (by kernel_rfl)) ?_
  exact ⟨(([] : List (List Int)), 7), none, 0, Z, rfl, hp18, hM24.keep (List.Sublist.cons_cons _ (List.Sublist.slnil))⟩
 · -- no
  have hp25 := hp4.2 hb17; clear hp4
  refine wp_skip ?_
  refine thn ?_
  refine wp_seq ?_
  refine sqH ?_; intro hQ26Q hQ26
  refine s1 hF16 11 (.slice ao1 u0.length cap2) ?_; intro a27 hF28; clear hF16
  refine s1 hF28 12 (.int .i64 (u0.length : Int)) ?_; intro a29 hF30; clear hF28
  refine s1 hF30 13 (.bool (decide ((u0.length : Int) > 300))) ?_; intro a31 hF32; clear hF30
  refine nlH (hQ26 _ _ ?_); clear hQ26 hQ26Q
  refine cd hF32 (t := decide ((u0.length : Int) > 300)) (by kernel_rfl) (fun hb33 => ?_) (fun hb33 => ?_)
  · -- yes
   have hp34 := hp25.1 hb33; clear hp25
   refine sqH ?_; intro hQ35Q hQ35
   refine s1 hF32 2 (.slice none 0 0) ?_; intro a36 hF37; clear hF32
   refine s1 hF37 3 (.int .i64 2) ?_; intro a38 hF39; clear hF37
   refine nlH (hQ35 _ _ ?_); clear hQ35 hQ35Q
   refine wp_ret ?_
   refine thr ?_
   have hM40 : Mem w.heap.size [] w Z [.own (tySl (tyInt .u8)) 36 none 0 ([] : List (List Int))] Z w := hM0.addNil (tySl (tyInt .u8)) 36 (by decide); clear hM0
   refine rt (fn := Try.f40) (v := .tuple #[.slice none ([] : List (List Int)).length 0, .int .i64 2]) hF39 (re2 hF39 (fn := Try.f40) rfl (by kernel_rfl) (by kernel_rfl)) ?_
   exact ⟨(([] : List (List Int)), 2), none, 0, Z, rfl, hp34, hM40.keep (List.Sublist.cons_cons _ (List.Sublist.slnil))⟩
  · -- no
   have hp41 := hp25.2 hb33; clear hp25
   refine wp_skip ?_
   refine thn ?_
   refine wp_seq ?_
   refine sqH ?_; intro hQ42Q hQ42
   refine s1 hF32 14 (.slice ao1 u0.length cap2) ?_; intro a43 hF44; clear hF32
   refine s1 hF44 15 (.int .i64 (u0.length : Int)) ?_; intro a45 hF46; clear hF44
   refine s1 hF46 16 (.bool (decide ((u0.length : Int) ≤ 7))) ?_; intro a47 hF48; clear hF46
   refine nlH (hQ42 _ _ ?_); clear hQ42 hQ42Q
   refine cd hF48 (t := decide ((u0.length : Int) ≤ 7)) (by kernel_rfl) (fun hb49 => ?_) (fun hb49 => ?_)
   · -- yes
    have hp50 := hp41.1 hb49; clear hp41
    refine sqH ?_; intro hQ51Q hQ51
    refine s1 hF48 17 (.slice ao1 u0.length cap2) ?_; intro a52 hF53; clear hF48
    refine s1 hF53 18 (.slice ao1 u0.length cap2) ?_; intro a54 hF55; clear hF53
    refine s1 hF55 19 (.int .i64 (u0.length : Int)) ?_; intro a56 hF57; clear hF55
    refine s1 hF57 20 (.int .u8 (w8 (u0.length : Int))) ?_; intro a58 hF59; clear hF57
    refine sn hF59 hM0 (fun b => .slice (some ⟨b, 0, none⟩) 1 1) [.int .u8 (w8 (u0.length : Int))] 5 (nog rfl _) rfl (by kernel_rfl) (by kernel_rfl) ?_; intro b60 a61 wd63 hF62 hM64; clear hF59 hM0
    have hM65 : Mem w.heap.size [] w Z [.own (tyInt .u8) 5 (some ⟨b60, 0, none⟩) 1 ([w8 (u0.length : Int)] : List Int)] Z wd63 := hM64.rowOwn (T := (tyInt .u8)) (xs := ([w8 (u0.length : Int)] : List Int)) 0 rfl (by decide) (by show 1 ≤ lim; decide) (RepAll.one (T := (tyInt .u8)) (x := w8 (u0.length : Int)) rfl); clear hM64
    have hc66 := hp50.1; have hp67 := hp50.2; clear hp50
    refine cl hF62 58 #[.slice ao1 u0.length cap2, .slice (some ⟨b60, 0, none⟩) ([w8 (u0.length : Int)] : List Int).length 1] (nog rfl _) rfl (by kernel_rfl) (by kernel_rfl) ?_
    refine (prow_fun u0 ([w8 (u0.length : Int)] : List Int) hc66 ao1 cap2 (some ⟨b60, 0, none⟩) 1 _ _ _ _ _ _ hs3 hM65 hM65.fz).mono ?_; rintro _ wd68 ⟨ao72, cap73, Z74, rfl, hle75, hm⟩; refine ⟨_, rfl, ?_⟩; intro a69 hF70; have hM71 := hm; clear hm hM65 hF62
    replace hs3 := hs3.mono hle75
    replace hle0 := Fz.le.trans hle0 hle75
    have hM76 : Mem w.heap.size [] w Z [.own (tyInt .u8) 5 ao72 cap73 (prowS u0 ([w8 (u0.length : Int)] : List Int))] Z74 wd68 := hM71; clear hM71
    have hp77 := hp67 (hM76.ownSmall 0 rfl); clear hp67
    refine sn hF70 hM76 (fun b => .slice (some ⟨b, 0, none⟩) 1 1) [.slice ao72 (prowS u0 ([w8 (u0.length : Int)] : List Int)).length cap73] 36 (nog rfl _) rfl (by kernel_rfl) (by kernel_rfl) ?_; intro b78 a79 wd81 hF80 hM82; clear hF70 hM76
    refine s1 hF80 2 (.slice (some ⟨b78, 0, none⟩) 1 1) ?_; intro a83 hF84; clear hF80
    refine s1 hF84 3 (.int .i64 0) ?_; intro a85 hF86; clear hF84
    refine nlH (hQ51 _ _ ?_); clear hQ51 hQ51Q
    refine wp_ret ?_
    refine thr ?_
    obtain ⟨Z87, hle88, hM89, hs90⟩ := hM82.freeze 1 rfl
    replace hs3 := hs3.mono hle88
    replace hle0 := Fz.le.trans hle0 hle88
    have hM91 : Mem w.heap.size [] w Z [.row b78 [.slice ao72 (prowS u0 ([w8 (u0.length : Int)] : List Int)).length cap73] 36] Z87 wd81 := hM89; clear hM89
    have hM92 : Mem w.heap.size [] w Z [.own (tySl (tyInt .u8)) 36 (some ⟨b78, 0, none⟩) 1 ([(prowS u0 ([w8 (u0.length : Int)] : List Int))] : List (List Int))] Z87 wd81 := hM91.rowOwn (T := (tySl (tyInt .u8))) (xs := ([(prowS u0 ([w8 (u0.length : Int)] : List Int))] : List (List Int))) 0 rfl (by decide) (by show 1 ≤ lim; decide) (RepAll.one (T := (tySl (tyInt .u8))) (x := (prowS u0 ([w8 (u0.length : Int)] : List Int))) ⟨ao72, cap73, rfl, hs90⟩); clear hM91
    refine rt (fn := Try.f40) (v := .tuple #[.slice (some ⟨b78, 0, none⟩) ([(prowS u0 ([w8 (u0.length : Int)] : List Int))] : List (List Int)).length 1, .int .i64 0]) hF86 (re2 hF86 (fn := Try.f40) rfl (by kernel_rfl) (by kernel_rfl)) ?_
    exact ⟨(([(prowS u0 ([w8 (u0.length : Int)] : List Int))] : List (List Int)), 0), (some ⟨b78, 0, none⟩), 1, Z87, rfl, hp77, hM92.keep (List.Sublist.cons_cons _ (List.Sublist.slnil))⟩
   · -- no
    have hp93 := hp41.2 hb49; clear hp41
    refine wp_skip ?_
    refine thn ?_
    refine sqH ?_; intro hQ94Q hQ94
    refine s1 hF48 24 (.slice ao1 u0.length cap2) ?_; intro a95 hF96; clear hF48
    have hc97 := hp93.1; have hp98 := hp93.2; clear hp93
    refine slH hF96 (T := (tyInt .u8)) (xs := u0) hs3 (6 : Int) hc97 (k' := .i64) (e := 5) (bytes := 1) (nog rfl _) rfl (by kernel_rfl) rfl (by kernel_rfl) (by kernel_rfl) (by kernel_rfl) ?_; intro ao99 cap100 a103 hn101 hs102 hF104; clear hF96
    refine s1 hF104 26 (.slice ao1 u0.length cap2) ?_; intro a105 hF106; clear hF104
    refine s1 hF106 27 (.int .i64 (u0.length : Int)) ?_; intro a107 hF108; clear hF106
    refine s1 hF108 28 (.int .i64 (bShr .i64 (u0.length : Int) 8)) ?_; intro a109 hF110; clear hF108
    refine s1 hF110 29 (.int .u8 (w8 (bShr .i64 (u0.length : Int) 8))) ?_; intro a111 hF112; clear hF110
    refine s1 hF112 30 (.int .u8 (bOr .u8 16 (w8 (bShr .i64 (u0.length : Int) 8)))) ?_; intro a113 hF114; clear hF112
    refine s1 hF114 31 (.slice ao1 u0.length cap2) ?_; intro a115 hF116; clear hF114
    refine s1 hF116 32 (.int .i64 (u0.length : Int)) ?_; intro a117 hF118; clear hF116
    refine s1 hF118 33 (.int .u8 (w8 (u0.length : Int))) ?_; intro a119 hF120; clear hF118
    refine sn hF120 hM0 (fun b => .slice (some ⟨b, 0, none⟩) 2 2) [.int .u8 (bOr .u8 16 (w8 (bShr .i64 (u0.length : Int) 8))), .int .u8 (w8 (u0.length : Int))] 5 (nog rfl _) rfl (by kernel_rfl) (by kernel_rfl) ?_; intro b121 a122 wd124 hF123 hM125; clear hF120 hM0
    have hM126 : Mem w.heap.size [] w Z [.own (tyInt .u8) 5 (some ⟨b121, 0, none⟩) 2 ([bOr .u8 16 (w8 (bShr .i64 (u0.length : Int) 8)), w8 (u0.length : Int)] : List Int)] Z wd124 := hM125.rowOwn (T := (tyInt .u8)) (xs := ([bOr .u8 16 (w8 (bShr .i64 (u0.length : Int) 8)), w8 (u0.length : Int)] : List Int)) 0 rfl (by decide) (by show 2 ≤ lim; decide) ((RepAll.one (T := (tyInt .u8)) (x := bOr .u8 16 (w8 (bShr .i64 (u0.length : Int) 8))) rfl).append (RepAll.one (T := (tyInt .u8)) (x := w8 (u0.length : Int)) rfl)); clear hM125
    have hc127 := hp98.1; have hp128 := hp98.2; clear hp98
    refine cl hF123 58 #[.slice ao99 (u0.take (6 : Int).toNat).length cap100, .slice (some ⟨b121, 0, none⟩) ([bOr .u8 16 (w8 (bShr .i64 (u0.length : Int) 8)), w8 (u0.length : Int)] : List Int).length 2] (nog rfl _) rfl (by kernel_rfl) (by kernel_rfl) ?_
    refine (prow_fun (u0.take (6 : Int).toNat) ([bOr .u8 16 (w8 (bShr .i64 (u0.length : Int) 8)), w8 (u0.length : Int)] : List Int) hc127 ao99 cap100 (some ⟨b121, 0, none⟩) 2 _ _ _ _ _ _ hs102 hM126 hM126.fz).mono ?_; rintro _ wd129 ⟨ao133, cap134, Z135, rfl, hle136, hm⟩; refine ⟨_, rfl, ?_⟩; intro a130 hF131; have hM132 := hm; clear hm hM126 hF123
    replace hs3 := hs3.mono hle136
    replace hs102 := hs102.mono hle136
    replace hle0 := Fz.le.trans hle0 hle136
    have hM137 : Mem w.heap.size [] w Z [.own (tyInt .u8) 5 ao133 cap134 (prowS (u0.take (6 : Int).toNat) ([bOr .u8 16 (w8 (bShr .i64 (u0.length : Int) 8)), w8 (u0.length : Int)] : List Int))] Z135 wd129 := hM132; clear hM132
    have hp138 := hp128 (hM137.ownSmall 0 rfl); clear hp128
    refine sn hF131 hM137 (fun b => .slice (some ⟨b, 0, none⟩) 1 1) [.slice ao133 (prowS (u0.take (6 : Int).toNat) ([bOr .u8 16 (w8 (bShr .i64 (u0.length : Int) 8)), w8 (u0.length : Int)] : List Int)).length cap134] 36 (nog rfl _) rfl (by kernel_rfl) (by kernel_rfl) ?_; intro b139 a140 wd142 hF141 hM143; clear hF131 hM137
    refine s1 hF141 4 (.slice (some ⟨b139, 0, none⟩) 1 1) ?_; intro a144 hF145; clear hF141
    refine nlH (hQ94 _ _ ?_); clear hQ94 hQ94Q
    refine wp_seq ?_
    have hF146 : Fr 63 [] [⟨0, [], .slice ao1 u0.length cap2⟩, ⟨4, [], .slice (some ⟨b139, 0, none⟩) 1 1⟩] a144 := hF145.region (by kernel_rfl) (by kernel_rfl); clear hF145
    have hcd1_0 := hp138.1; have hp159 := hp138.2; clear hp138
    refine wp_seq (any_invE mixed [[], [0], [], [0, 1, 2]] 4 (fun S a w1 => ∃ (ao149 : Option Addr) (cap150 : Nat) (ud5 : Value) (ud6 : Value) (ud37 : Value) (ud38 : Value) (rh0 : Res) (rh1 : Res), Fz.le Z135 Z135 ∧ Fr 63 [] [⟨0, [], .slice ao1 u0.length cap2⟩, ⟨4, [], .slice (some ⟨b139, 0, none⟩) 1 1⟩, ⟨5, [], ud5⟩, ⟨6, [], ud6⟩, ⟨37, [], ud37⟩, ⟨38, [], ud38⟩] a ∧ Mem w.heap.size [] w Z [rh0, rh1] Z135 w1 ∧ (S 2 = true → ud5 = .int .i64 1) ∧ (S 3 = true → ud6 = .slice ao149 (u0.drop (6 : Int).toNat).length cap150) ∧ (S 0 = true → ud37 = .slice ao1 u0.length cap2) ∧ (S 1 = true → ud38 = .slice ao149 (u0.drop (6 : Int).toNat).length cap150) ∧ (rh0 = .row b139 [.slice ao133 (prowS (u0.take (6 : Int).toNat) ([bOr .u8 16 (w8 (bShr .i64 (u0.length : Int) 8)), w8 (u0.length : Int)] : List Int)).length cap134] 36) ∧ (rh1 = .own (tyInt .u8) 5 ao133 cap134 (prowS (u0.take (6 : Int).toNat) ([bOr .u8 16 (w8 (bShr .i64 (u0.length : Int) 8)), w8 (u0.length : Int)] : List Int))) ∧ (S 1 = true → SlR (tyInt .u8) Z135 ao149 cap150 (u0.drop (6 : Int).toNat))) ?h0 ?hs ?hE)
    case h0 =>
     have hF161 := hF146.any 5
     have hF162 := hF161.any 6
     have hF163 := hF162.any 37
     have hF164 := hF163.any 38
     have hM165 := (hM143.perm (List.Perm.refl _)).drew
     exact ⟨none, 0, a144.tmps.getD 5 undef, a144.tmps.getD 6 undef, a144.tmps.getD 37 undef, a144.tmps.getD 38 undef, .row b139 [.slice ao133 (prowS (u0.take (6 : Int).toNat) ([bOr .u8 16 (w8 (bShr .i64 (u0.length : Int) 8)), w8 (u0.length : Int)] : List Int)).length cap134] 36, .own (tyInt .u8) 5 ao133 cap134 (prowS (u0.take (6 : Int).toNat) ([bOr .u8 16 (w8 (bShr .i64 (u0.length : Int) 8)), w8 (u0.length : Int)] : List Int)), Fz.le.refl _, hF164.region (by kernel_rfl) (by kernel_rfl), hM165, ff, ff, ff, ff, rfl, rfl, ff⟩
    case hs =>
     intro S hcl i o hil hi hSi hpre a w1 hI; refine hid ?_; intro G hG; obtain ⟨ao149, hI⟩ := hI; obtain ⟨cap150, hI⟩ := hI; obtain ⟨ud5, hI⟩ := hI; obtain ⟨ud6, hI⟩ := hI; obtain ⟨ud37, hI⟩ := hI; obtain ⟨ud38, hI⟩ := hI; obtain ⟨rh0, hI⟩ := hI; obtain ⟨rh1, hI⟩ := hI; obtain ⟨hle160, hI⟩ := hI; obtain ⟨hFx, hI⟩ := hI; obtain ⟨hMx, hI⟩ := hI; obtain ⟨cu5, hI⟩ := hI; obtain ⟨cu6, hI⟩ := hI; obtain ⟨cu37, hI⟩ := hI; obtain ⟨cu38, hI⟩ := hI; obtain ⟨cr0_0, hI⟩ := hI; obtain ⟨cr1_0, hI⟩ := hI; have cf0 := hI; clear hI
     have hcase : i = 0 ∨ i = 1 ∨ i = 2 ∨ i = 3 := by clear hi; omega
     rcases hcase with rfl | rfl | rfl | rfl
     · -- 0: move
      obtain rfl := Option.some.inj hi
      have hx0 := hSi
      have hx1 := negF hcl 1 0 (by kernel_rfl) hx0
      have hx3 := negF hcl 3 0 (by kernel_rfl) hx0
      obtain rfl := cr0_0
      obtain rfl := cr1_0
      refine hG (any_step ?_); clear hG G; intro A J hJ
      have hle0 := Fz.le.trans hle0 hle160
      have hs166 := hs3.mono hle160
      have hs167 := hs102.mono hle160
      refine s1 hFx 37 (.slice ao1 u0.length cap2) ?_; intro a168 hF169; clear hFx
      refine nl (qnI (hJ _ _ ?_)); clear hJ J
      exact ⟨ao149, cap150, ud5, ud6, .slice ao1 u0.length cap2, ud38, .row b139 [.slice ao133 (prowS (u0.take (6 : Int).toNat) ([bOr .u8 16 (w8 (bShr .i64 (u0.length : Int) 8)), w8 (u0.length : Int)] : List Int)).length cap134] 36, .own (tyInt .u8) 5 ao133 cap134 (prowS (u0.take (6 : Int).toNat) ([bOr .u8 16 (w8 (bShr .i64 (u0.length : Int) 8)), w8 (u0.length : Int)] : List Int)), hle160, hF169.region (by kernel_rfl) (by kernel_rfl), hMx.perm (List.Perm.refl _), cu5, (nt hx3), kf, (nt hx1), rfl, rfl, (nt hx1)⟩
     · -- 1: slice
      obtain rfl := Option.some.inj hi
      have hx0 := hpre 0 (by kernel_rfl)
      have hx1 := hSi
      have hx3 := negF hcl 3 1 (by kernel_rfl) hx1
      obtain rfl := cu37 hx0
      obtain rfl := cr0_0
      obtain rfl := cr1_0
      refine hG (any_step ?_); clear hG G; intro A J hJ
      have hle0 := Fz.le.trans hle0 hle160
      have hs171 := hs3.mono hle160
      have hs172 := hs102.mono hle160
      refine slL hFx (T := (tyInt .u8)) (xs := u0) hs171 (6 : Int) hcd1_0 (k := .i64) (e := 5) (bytes := 1) (nog rfl _) rfl (by kernel_rfl) rfl (by kernel_rfl) (by kernel_rfl) (by kernel_rfl) ?_; intro ao173 cap174 a177 hn175 hs176 hF178; clear hFx
      refine nl (qnI (hJ _ _ ?_)); clear hJ J
      exact ⟨ao173, cap174, ud5, ud6, .slice ao1 u0.length cap2, .slice ao173 (u0.drop (6 : Int).toNat).length cap174, .row b139 [.slice ao133 (prowS (u0.take (6 : Int).toNat) ([bOr .u8 16 (w8 (bShr .i64 (u0.length : Int) 8)), w8 (u0.length : Int)] : List Int)).length cap134] 36, .own (tyInt .u8) 5 ao133 cap134 (prowS (u0.take (6 : Int).toNat) ([bOr .u8 16 (w8 (bShr .i64 (u0.length : Int) 8)), w8 (u0.length : Int)] : List Int)), hle160, hF178.region (by kernel_rfl) (by kernel_rfl), hMx.perm (List.Perm.refl _), cu5, (nt hx3), kf, kf, rfl, rfl, (fun _ => hs176)⟩
     · -- 2: assign
      obtain rfl := Option.some.inj hi
      have hx2 := hSi
      have hx3 := negF hcl 3 2 (by kernel_rfl) hx2
      obtain rfl := cr0_0
      obtain rfl := cr1_0
      refine hG (any_step ?_); clear hG G; intro A J hJ
      have hle0 := Fz.le.trans hle0 hle160
      have hs180 := hs3.mono hle160
      have hs181 := hs102.mono hle160
      refine s1 hFx 5 (.int .i64 1) ?_; intro a182 hF183; clear hFx
      refine nl (qnI (hJ _ _ ?_)); clear hJ J
      exact ⟨ao149, cap150, .int .i64 1, ud6, ud37, ud38, .row b139 [.slice ao133 (prowS (u0.take (6 : Int).toNat) ([bOr .u8 16 (w8 (bShr .i64 (u0.length : Int) 8)), w8 (u0.length : Int)] : List Int)).length cap134] 36, .own (tyInt .u8) 5 ao133 cap134 (prowS (u0.take (6 : Int).toNat) ([bOr .u8 16 (w8 (bShr .i64 (u0.length : Int) 8)), w8 (u0.length : Int)] : List Int)), hle160, hF183.region (by kernel_rfl) (by kernel_rfl), hMx.perm (List.Perm.refl _), kf, (nt hx3), cu37, cu38, rfl, rfl, cf0⟩
     · -- 3: assign
      obtain rfl := Option.some.inj hi
      have hx2 := hpre 2 (by kernel_rfl)
      have hx1 := hpre 1 (by kernel_rfl)
      have hx0 := hpre 0 (by kernel_rfl)
      have hx3 := hSi
      obtain rfl := cu5 hx2
      obtain rfl := cu37 hx0
      obtain rfl := cu38 hx1
      obtain rfl := cr0_0
      obtain rfl := cr1_0
      refine hG (any_step ?_); clear hG G; intro A J hJ
      have hle0 := Fz.le.trans hle0 hle160
      have hs185 := hs3.mono hle160
      have hs186 := hs102.mono hle160
      have hs187 := cf0 hx1
      refine s1 hFx 6 (.slice ao149 (u0.drop (6 : Int).toNat).length cap150) ?_; intro a188 hF189; clear hFx
      refine nl (qnI (hJ _ _ ?_)); clear hJ J
      exact ⟨ao149, cap150, .int .i64 1, .slice ao149 (u0.drop (6 : Int).toNat).length cap150, .slice ao1 u0.length cap2, .slice ao149 (u0.drop (6 : Int).toNat).length cap150, .row b139 [.slice ao133 (prowS (u0.take (6 : Int).toNat) ([bOr .u8 16 (w8 (bShr .i64 (u0.length : Int) 8)), w8 (u0.length : Int)] : List Int)).length cap134] 36, .own (tyInt .u8) 5 ao133 cap134 (prowS (u0.take (6 : Int).toNat) ([bOr .u8 16 (w8 (bShr .i64 (u0.length : Int) 8)), w8 (u0.length : Int)] : List Int)), hle160, hF189.region (by kernel_rfl) (by kernel_rfl), hMx.perm (List.Perm.refl _), kf, kf, kf, kf, rfl, rfl, (fun _ => hs187)⟩
    case hE =>
     intro S hS a191 wd192 hI; refine hid ?_; intro G hG; obtain ⟨ao149, hI⟩ := hI; obtain ⟨cap150, hI⟩ := hI; obtain ⟨ud5, hI⟩ := hI; obtain ⟨ud6, hI⟩ := hI; obtain ⟨ud37, hI⟩ := hI; obtain ⟨ud38, hI⟩ := hI; obtain ⟨rh0, hI⟩ := hI; obtain ⟨rh1, hI⟩ := hI; obtain ⟨hle160, hI⟩ := hI; obtain ⟨hFx, hI⟩ := hI; obtain ⟨hMx, hI⟩ := hI; obtain ⟨cu5, hI⟩ := hI; obtain ⟨cu6, hI⟩ := hI; obtain ⟨cu37, hI⟩ := hI; obtain ⟨cu38, hI⟩ := hI; obtain ⟨cr0_0, hI⟩ := hI; obtain ⟨cr1_0, hI⟩ := hI; have cf0 := hI; clear hI; refine hG ?_; clear hG G
     obtain rfl := cu5 (hS 2 (by decide))
     obtain rfl := cu6 (hS 3 (by decide))
     obtain rfl := cu37 (hS 0 (by decide))
     obtain rfl := cu38 (hS 1 (by decide))
     obtain rfl := cr0_0
     obtain rfl := cr1_0
     have hle0 := Fz.le.trans hle0 hle160
     have hs193 := hs3.mono hle160
     have hs194 := hs102.mono hle160
     have hs195 := cf0 (hS 1 (by decide))
     refine thn ?_
     refine wp_block ?_
     have hF196 : Fr 63 [] [⟨4, [], .slice (some ⟨b139, 0, none⟩) 1 1⟩, ⟨5, [], .int .i64 1⟩, ⟨6, [], .slice ao149 (u0.drop (6 : Int).toNat).length cap150⟩] a191 := hFx.region (by kernel_rfl) (by kernel_rfl); clear hFx
     obtain ⟨Z198, hle199, hM200, hs201⟩ := hMx.freeze 1 rfl
     replace hs193 := hs193.mono hle199
     replace hs194 := hs194.mono hle199
     replace hs195 := hs195.mono hle199
     replace hle0 := Fz.le.trans hle0 hle199
     have hM202 : Mem w.heap.size [] w Z [.row b139 [.slice ao133 (prowS (u0.take (6 : Int).toNat) ([bOr .u8 16 (w8 (bShr .i64 (u0.length : Int) 8)), w8 (u0.length : Int)] : List Int)).length cap134] 36] Z198 wd192 := hM200; clear hM200
     have hM203 : Mem w.heap.size [] w Z [.own (tySl (tyInt .u8)) 36 (some ⟨b139, 0, none⟩) 1 ([(prowS (u0.take (6 : Int).toNat) ([bOr .u8 16 (w8 (bShr .i64 (u0.length : Int) 8)), w8 (u0.length : Int)] : List Int))] : List (List Int))] Z198 wd192 := hM202.rowOwn (T := (tySl (tyInt .u8))) (xs := ([(prowS (u0.take (6 : Int).toNat) ([bOr .u8 16 (w8 (bShr .i64 (u0.length : Int) 8)), w8 (u0.length : Int)] : List Int))] : List (List Int))) 0 rfl (by decide) (by show 1 ≤ lim; decide) (RepAll.one (T := (tySl (tyInt .u8))) (x := (prowS (u0.take (6 : Int).toNat) ([bOr .u8 16 (w8 (bShr .i64 (u0.length : Int) 8)), w8 (u0.length : Int)] : List Int))) ⟨ao133, cap134, rfl, hs201⟩); clear hM202
     have hF204 : Fr 63 [] [⟨4, [], .slice (some ⟨b139, 0, none⟩) ([(prowS (u0.take (6 : Int).toNat) ([bOr .u8 16 (w8 (bShr .i64 (u0.length : Int) 8)), w8 (u0.length : Int)] : List Int))] : List (List Int)).length 1⟩, ⟨5, [], .int .i64 1⟩, ⟨6, [], .slice ao149 (u0.drop (6 : Int).toNat).length cap150⟩] a191 := hF196.region (by kernel_rfl) (by kernel_rfl); clear hF196
     obtain ⟨inv197, mu197, hI207, hr206⟩ := hp159
     have hle208 := hle0
     refine lp (ι := (List (List Int)) × Int × (List Int) × (Option Addr) × Nat × (Option Addr) × Nat × Fz) (fun (s : (List (List Int)) × Int × (List Int) × (Option Addr) × Nat × (Option Addr) × Nat × Fz) => [⟨4, [], .slice s.2.2.2.1 s.1.length s.2.2.2.2.1⟩, ⟨5, [], .int .i64 s.2.1⟩, ⟨6, [], .slice s.2.2.2.2.2.1 s.2.2.1.length s.2.2.2.2.2.2.1⟩]) (fun (s : (List (List Int)) × Int × (List Int) × (Option Addr) × Nat × (Option Addr) × Nat × Fz) => [.own (tySl (tyInt .u8)) 36 s.2.2.2.1 s.2.2.2.2.1 s.1]) (fun (s : (List (List Int)) × Int × (List Int) × (Option Addr) × Nat × (Option Addr) × Nat × Fz) => s.2.2.2.2.2.2.2) (fun (s : (List (List Int)) × Int × (List Int) × (Option Addr) × Nat × (Option Addr) × Nat × Fz) => inv197 s.1 s.2.1 s.2.2.1 ∧ SlR (tyInt .u8) s.2.2.2.2.2.2.2 s.2.2.2.2.2.1 s.2.2.2.2.2.2.1 s.2.2.1 ∧ Fz.le Z198 s.2.2.2.2.2.2.2) (fun (s : (List (List Int)) × Int × (List Int) × (Option Addr) × Nat × (Option Addr) × Nat × Fz) => mu197 s.1 s.2.1 s.2.2.1) ⟨([(prowS (u0.take (6 : Int).toNat) ([bOr .u8 16 (w8 (bShr .i64 (u0.length : Int) 8)), w8 (u0.length : Int)] : List Int))] : List (List Int)), 1, u0.drop (6 : Int).toNat, (some ⟨b139, 0, none⟩), 1, ao149, cap150, Z198⟩ ⟨hI207, hs195, Fz.le.refl _⟩ (by exact hF204.region (by kernel_rfl) (by kernel_rfl)) (by exact hM203) ?_
     rintro ⟨x4, x5, x6, aox4, capx4, aox6, capx6, ZL197⟩ ⟨hI205, hsx6, hleL197⟩ a209 wd210 hF211 hM212
     have hF213 : Fr 63 [] [⟨4, [], .slice aox4 x4.length capx4⟩, ⟨5, [], .int .i64 x5⟩, ⟨6, [], .slice aox6 x6.length capx6⟩] a209 := hF211; clear hF211 hF204
     have hM214 : Mem w.heap.size [] w Z [.own (tySl (tyInt .u8)) 36 aox4 capx4 x4] ZL197 wd210 := hM212; clear hM212 hM203
     have hp215 := hr206 x4 x5 x6 hI205
     replace hle0 := Fz.le.trans hle0 hleL197
     have hs216 := hs193.mono hleL197
     have hs217 := hs194.mono hleL197
     have hs218 := hs195.mono hleL197
     have hs219 := hs201.mono hleL197
     refine wp_seq ?_
     refine sqH ?_; intro hQ220Q hQ220
     refine s1 hF213 39 (.slice aox6 x6.length capx6) ?_; intro a221 hF222; clear hF213
     refine s1 hF222 40 (.int .i64 (x6.length : Int)) ?_; intro a223 hF224; clear hF222
     refine s1 hF224 41 (.bool (decide ((x6.length : Int) > 0))) ?_; intro a225 hF226; clear hF224
     refine nlH (hQ220 _ _ ?_); clear hQ220 hQ220Q
     refine cd hF226 (t := decide ((x6.length : Int) > 0)) (by kernel_rfl) (fun hb227 => ?_) (fun hb227 => ?_)
     · -- yes
      have hp228 := hp215.1 hb227; clear hp215
      refine wp_skip ?_
      refine thn ?_
      refine wp_seq ?_
      refine wp_block ?_
      refine sqH ?_; intro hQ229Q hQ229
      refine s1 hF226 44 (.slice aox6 x6.length capx6) ?_; intro a230 hF231; clear hF226
      refine s1 hF231 45 (.int .i64 (x6.length : Int)) ?_; intro a232 hF233; clear hF231
      refine st hF233 (.int .i64 (min 7 (x6.length : Int))) (nog rfl _) rfl (by kernel_rfl) (re_ (p0 hF233 (r := .ok (.value (.int .i64 (if (x6.length : Int) < 7 then (x6.length : Int) else 7))) wd210) (by kernel_rfl)) (by rw [imin])) ?_; intro a234 hF235; clear hF233
      refine s1 hF235 7 (.int .i64 (min 7 (x6.length : Int))) ?_; intro a236 hF237; clear hF235
      refine nlH (hQ229 _ _ ?_); clear hQ229 hQ229Q
      refine sqH ?_; intro hQ238Q hQ238
      refine s1 hF237 47 (.slice aox4 x4.length capx4) ?_; intro a239 hF240; clear hF237
      refine s1 hF240 48 (.slice aox6 x6.length capx6) ?_; intro a241 hF242; clear hF240
      refine s1 hF242 49 (.int .i64 (min 7 (x6.length : Int))) ?_; intro a243 hF244; clear hF242
      have hc245 := hp228.1; have hp246 := hp228.2; clear hp228
      refine slH hF244 (T := (tyInt .u8)) (xs := x6) hsx6 (min 7 (x6.length : Int)) hc245 (k' := .i64) (e := 5) (bytes := 1) (nog rfl _) rfl (by kernel_rfl) rfl (by kernel_rfl) (by kernel_rfl) (by kernel_rfl) ?_; intro ao247 cap248 a251 hn249 hs250 hF252; clear hF244
      refine s1 hF252 51 (.int .i64 x5) ?_; intro a253 hF254; clear hF252
      refine s1 hF254 52 (.int .i64 (x5.tmod 16)) ?_; intro a255 hF256; clear hF254
      refine s1 hF256 53 (.int .u8 (w8 (x5.tmod 16))) ?_; intro a257 hF258; clear hF256
      refine s1 hF258 54 (.int .u8 (bOr .u8 32 (w8 (x5.tmod 16)))) ?_; intro a259 hF260; clear hF258
      refine sn hF260 hM214 (fun b => .slice (some ⟨b, 0, none⟩) 1 1) [.int .u8 (bOr .u8 32 (w8 (x5.tmod 16)))] 5 (nog rfl _) rfl (by kernel_rfl) (by kernel_rfl) ?_; intro b261 a262 wd264 hF263 hM265; clear hF260 hM214
      have hM266 : Mem w.heap.size [] w Z [.own (tyInt .u8) 5 (some ⟨b261, 0, none⟩) 1 ([bOr .u8 32 (w8 (x5.tmod 16))] : List Int), .own (tySl (tyInt .u8)) 36 aox4 capx4 x4] ZL197 wd264 := hM265.rowOwn (T := (tyInt .u8)) (xs := ([bOr .u8 32 (w8 (x5.tmod 16))] : List Int)) 0 rfl (by decide) (by show 1 ≤ lim; decide) (RepAll.one (T := (tyInt .u8)) (x := bOr .u8 32 (w8 (x5.tmod 16))) rfl); clear hM265
      have hc267 := hp246.1; have hp268 := hp246.2; clear hp246
      refine cl hF263 58 #[.slice ao247 (x6.take (min 7 (x6.length : Int)).toNat).length cap248, .slice (some ⟨b261, 0, none⟩) ([bOr .u8 32 (w8 (x5.tmod 16))] : List Int).length 1] (nog rfl _) rfl (by kernel_rfl) (by kernel_rfl) ?_
      refine (prow_fun (x6.take (min 7 (x6.length : Int)).toNat) ([bOr .u8 32 (w8 (x5.tmod 16))] : List Int) hc267 ao247 cap248 (some ⟨b261, 0, none⟩) 1 _ _ _ _ _ _ hs250 hM266 hM266.fz).mono ?_; rintro _ wd269 ⟨ao273, cap274, Z275, rfl, hle276, hm⟩; refine ⟨_, rfl, ?_⟩; intro a270 hF271; have hM272 := hm; clear hm hM266 hF263
      replace hs216 := hs216.mono hle276
      replace hs217 := hs217.mono hle276
      replace hs218 := hs218.mono hle276
      replace hs219 := hs219.mono hle276
      replace hsx6 := hsx6.mono hle276
      replace hleL197 := hleL197.mono hle276
      replace hs250 := hs250.mono hle276
      replace hle0 := Fz.le.trans hle0 hle276
      have hM277 : Mem w.heap.size [] w Z [.own (tyInt .u8) 5 ao273 cap274 (prowS (x6.take (min 7 (x6.length : Int)).toNat) ([bOr .u8 32 (w8 (x5.tmod 16))] : List Int)), .own (tySl (tyInt .u8)) 36 aox4 capx4 x4] Z275 wd269 := hM272; clear hM272
      have hp278 := hp268 (hM277.ownSmall 0 rfl); clear hp268
      refine sn hF271 hM277 (fun b => .slice (some ⟨b, 0, none⟩) 1 1) [.slice ao273 (prowS (x6.take (min 7 (x6.length : Int)).toNat) ([bOr .u8 32 (w8 (x5.tmod 16))] : List Int)).length cap274] 36 (nog rfl _) rfl (by kernel_rfl) (by kernel_rfl) ?_; intro b279 a280 wd282 hF281 hM283; clear hF271 hM277
      obtain ⟨Z284, hle285, hM286, hs287⟩ := hM283.freeze 1 rfl
      replace hs216 := hs216.mono hle285
      replace hs217 := hs217.mono hle285
      replace hs218 := hs218.mono hle285
      replace hs219 := hs219.mono hle285
      replace hsx6 := hsx6.mono hle285
      replace hleL197 := hleL197.mono hle285
      replace hs250 := hs250.mono hle285
      replace hle0 := Fz.le.trans hle0 hle285
      have hM288 : Mem w.heap.size [] w Z [.row b279 [.slice ao273 (prowS (x6.take (min 7 (x6.length : Int)).toNat) ([bOr .u8 32 (w8 (x5.tmod 16))] : List Int)).length cap274] 36, .own (tySl (tyInt .u8)) 36 aox4 capx4 x4] Z284 wd282 := hM286; clear hM286
      have hc289 := hp278.1; have hp290 := hp278.2; clear hp278
      refine ap hF281 hM288 1 (T := (tySl (tyInt .u8))) (xs := x4) (ys := [(prowS (x6.take (min 7 (x6.length : Int)).toNat) ([bOr .u8 32 (w8 (x5.tmod 16))] : List Int))]) (ao := aox4) (cap := capx4) (ao2 := (some ⟨b279, 0, none⟩)) (cap2 := 1) (t := 60) (e := 36) (bytes := 24) (nog rfl _) rfl (by kernel_rfl) rfl (by kernel_rfl) (by kernel_rfl) (by kernel_rfl) rfl (Src.row hM288 0 rfl (RepAll.one (T := (tySl (tyInt .u8))) (x := (prowS (x6.take (min 7 (x6.length : Int)).toNat) ([bOr .u8 32 (w8 (x5.tmod 16))] : List Int))) ⟨ao273, cap274, rfl, hs287⟩)) hc289 ?_; intro ao291 cap292 a296 wd293 hnil294 hF297 hM295; clear hF281 hM288
      have hM298 : Mem w.heap.size [] w Z [.row b279 [.slice ao273 (prowS (x6.take (min 7 (x6.length : Int)).toNat) ([bOr .u8 32 (w8 (x5.tmod 16))] : List Int)).length cap274] 36, .own (tySl (tyInt .u8)) 36 ao291 cap292 (x4 ++ [(prowS (x6.take (min 7 (x6.length : Int)).toNat) ([bOr .u8 32 (w8 (x5.tmod 16))] : List Int))])] Z284 wd293 := hM295; clear hM295
      refine s1 hF297 4 (.slice ao291 (x4 ++ [(prowS (x6.take (min 7 (x6.length : Int)).toNat) ([bOr .u8 32 (w8 (x5.tmod 16))] : List Int))]).length cap292) ?_; intro a299 hF300; clear hF297
      refine nlH (hQ238 _ _ ?_); clear hQ238 hQ238Q
      have hF301 : Fr 63 [] [⟨4, [], .slice ao291 (x4 ++ [(prowS (x6.take (min 7 (x6.length : Int)).toNat) ([bOr .u8 32 (w8 (x5.tmod 16))] : List Int))]).length cap292⟩, ⟨5, [], .int .i64 x5⟩, ⟨6, [], .slice aox6 x6.length capx6⟩, ⟨7, [], .int .i64 (min 7 (x6.length : Int))⟩] a299 := hF300.region (by kernel_rfl) (by kernel_rfl); clear hF300
      refine rgH ?_; intro hQ302Q hQ302
      refine s1 hF301 59 (.slice aox6 x6.length capx6) ?_; intro a303 hF304; clear hF301
      refine s1 hF304 60 (.int .i64 (min 7 (x6.length : Int))) ?_; intro a305 hF306; clear hF304
      have hc307 := hp290.1; have hp308 := hp290.2; clear hp290
      refine slL hF306 (T := (tyInt .u8)) (xs := x6) hsx6 (min 7 (x6.length : Int)) hc307 (k := .i64) (e := 5) (bytes := 1) (nog rfl _) rfl (by kernel_rfl) rfl (by kernel_rfl) (by kernel_rfl) (by kernel_rfl) ?_; intro ao309 cap310 a313 hn311 hs312 hF314; clear hF306
      refine s1 hF314 6 (.slice ao309 (x6.drop (min 7 (x6.length : Int)).toNat).length cap310) ?_; intro a315 hF316; clear hF314
      refine nlH (hQ302 _ _ ?_); clear hQ302 hQ302Q
      refine ibn ?_
      refine thn ?_
      refine rgH ?_; intro hQ317Q hQ317
      refine s1 hF316 42 (.int .i64 x5) ?_; intro a318 hF319; clear hF316
      refine s1 hF319 43 (.int .i64 (w64 (x5 + 1))) ?_; intro a320 hF321; clear hF319
      refine s1 hF321 5 (.int .i64 (w64 (x5 + 1))) ?_; intro a322 hF323; clear hF321
      refine nlH (hQ317 _ _ ?_); clear hQ317 hQ317Q
      refine rd ?_
      exact ⟨⟨x4 ++ [(prowS (x6.take (min 7 (x6.length : Int)).toNat) ([bOr .u8 32 (w8 (x5.tmod 16))] : List Int))], w64 (x5 + 1), x6.drop (min 7 (x6.length : Int)).toNat, ao291, cap292, ao309, cap310, Z284⟩, ⟨hp308.1, hs312, hleL197⟩, hp308.2, (hF323.region (by kernel_rfl) (by kernel_rfl)).anyβ _ (by kernel_rfl), hM298.keep (List.Sublist.cons _ (List.Sublist.cons_cons _ (List.Sublist.slnil)))⟩
     · -- no
      have hp324 := hp215.2 hb227; clear hp215
      refine wp_exit ?_
      refine thx ?_
      refine thx ?_
      refine ibx ?_
      refine thn ?_
      refine sqH ?_; intro hQ325Q hQ325
      refine s1 hF226 62 (.slice aox4 x4.length capx4) ?_; intro a326 hF327; clear hF226
      refine s1 hF327 2 (.slice aox4 x4.length capx4) ?_; intro a328 hF329; clear hF327
      refine s1 hF329 3 (.int .i64 0) ?_; intro a330 hF331; clear hF329
      refine nlH (hQ325 _ _ ?_); clear hQ325 hQ325Q
      refine wp_ret ?_
      refine rt (fn := Try.f40) (v := .tuple #[.slice aox4 x4.length capx4, .int .i64 0]) hF331 (re2 hF331 (fn := Try.f40) rfl (by kernel_rfl) (by kernel_rfl)) ?_
      exact ⟨(x4, 0), aox4, capx4, ZL197, rfl, hp324, hM214.keep (List.Sublist.cons_cons _ (List.Sublist.slnil))⟩

set_option maxRecDepth 100000 in
theorem psames_walk (u0 : Sender) (u1 : Sender) (ao1 : Option Addr) (cap2 : Nat) (ao4 : Option Addr) (cap5 : Nat) (Z : Fz) (w : World) (hs3 : SlR (tyInt .u8) Z ao1 cap2 u0.Data) (hs6 : SlR (tyInt .u8) Z ao4 cap5 u1.Data) (hZ : Z.on w) {K : Bool → Prop} (hp : psames_vc u0 u1 K) : Calls Try.prog 35 #[.agg #[.slice ao1 u0.Data.length cap2, .int .i64 u0.At, .int .i64 u0.Next, .int .i64 u0.Left, .bool u0.Done], .agg #[.slice ao4 u1.Data.length cap5, .int .i64 u1.At, .int .i64 u1.Next, .int .i64 u1.Left, .bool u1.Done]] w fun e w' => ∃ r : Bool, e = .returned (.bool r) ∧ K r ∧ Below w.heap.size w w' := by
 refine enter0 Try.func35 rfl rfl (by kernel_rfl) ?_; intro a0 hF0; have hM0 := Mem.start w Z hZ; have hle0 := Fz.le.refl Z
 have hp7 := hp (hs3.small); clear hp
 have hp8 := hp7 (hs6.small); clear hp7
 refine sqH ?_; intro hQ9Q hQ9
 refine sn hF0 hM0 (fun b => .pointer (some ⟨b, 0, none⟩)) [.slice ao1 u0.Data.length cap2, .int .i64 u0.At, .int .i64 u0.Next, .int .i64 u0.Left, .bool u0.Done] 53 (nog rfl _) rfl (by kernel_rfl) (by kernel_rfl) ?_; intro b10 a11 wd13 hF12 hM14; clear hF0 hM0
 refine sn hF12 hM14 (fun b => .pointer (some ⟨b, 0, none⟩)) [.slice ao4 u1.Data.length cap5, .int .i64 u1.At, .int .i64 u1.Next, .int .i64 u1.Left, .bool u1.Done] 53 (nog rfl _) rfl (by kernel_rfl) (by kernel_rfl) ?_; intro b15 a16 wd18 hF17 hM19; clear hF12 hM14
 refine s1 hF17 4 (.bool false) ?_; intro a20 hF21; clear hF17
 refine nlH (hQ9 _ _ ?_); clear hQ9 hQ9Q
 refine sqH ?_; intro hQ22Q hQ22
 refine s1 hF21 5 (.pointer (some ⟨b10, 0, none⟩)) ?_; intro a23 hF24; clear hF21
 refine l1 hF24 hM19 6 1 0 (.slice ao1 u0.Data.length cap2) rfl rfl ?_; intro a25 hF26; clear hF24
 refine s1 hF26 7 (.pointer (some ⟨b15, 0, none⟩)) ?_; intro a27 hF28; clear hF26
 refine l1 hF28 hM19 8 0 0 (.slice ao4 u1.Data.length cap5) rfl rfl ?_; intro a29 hF30; clear hF28
 refine fcl hF30 hM19 (.bool (beqS u0.Data u1.Data)) 37 #[.slice ao1 u0.Data.length cap2, .slice ao4 u1.Data.length cap5] (nog rfl _) rfl (by kernel_rfl) (fun _ => by kernel_rfl) (beq_fun u0.Data u1.Data ao1 cap2 ao4 cap5 _ _ hs3 hs6 hM19.fz) ?_; intro a31 wd33 hF32 hM34; clear hF30 hM19
 refine s1 hF32 10 (.bool (beqS u0.Data u1.Data)) ?_; intro a35 hF36; clear hF32
 have hF37 := hF36.atom ((beqS u0.Data u1.Data) == true) (by kernel_rfl); clear hF36
 refine gp hF37 11 0 [] ((beqS u0.Data u1.Data)) (.pointer (some ⟨b10, 1, none⟩)) rfl rfl ?_; intro a38 hF39; clear hF37
 refine gd hF39 (.int .i64 u0.At) (m := 0) (cj := []) (bj := (beqS u0.Data u1.Data)) rfl rfl (by kernel_rfl) rfl (by kernel_rfl) (by kernel_rfl) (by kernel_rfl) (fun hg => ld hF39 hM34 1 (g := [0]) (b := b10) (off := 1) (cs := [.slice ao1 u0.Data.length cap2, .int .i64 u0.At, .int .i64 u0.Next, .int .i64 u0.Left, .bool u0.Done]) (ty := 53) rfl (by kernel_rfl) (by kernel_rfl) (by kernel_rfl) (by kernel_rfl) hg) ?_; intro a40 hF41; clear hF39
 refine gp hF41 13 0 [] ((beqS u0.Data u1.Data)) (.pointer (some ⟨b15, 1, none⟩)) rfl rfl ?_; intro a42 hF43; clear hF41
 refine gd hF43 (.int .i64 u1.At) (m := 0) (cj := []) (bj := (beqS u0.Data u1.Data)) rfl rfl (by kernel_rfl) rfl (by kernel_rfl) (by kernel_rfl) (by kernel_rfl) (fun hg => ld hF43 hM34 0 (g := [0]) (b := b15) (off := 1) (cs := [.slice ao4 u1.Data.length cap5, .int .i64 u1.At, .int .i64 u1.Next, .int .i64 u1.Left, .bool u1.Done]) (ty := 53) rfl (by kernel_rfl) (by kernel_rfl) (by kernel_rfl) (by kernel_rfl) hg) ?_; intro a44 hF45; clear hF43
 refine gp hF45 15 0 [] ((beqS u0.Data u1.Data)) (.bool (u0.At == u1.At)) rfl rfl ?_; intro a46 hF47; clear hF45
 refine st hF47 (.bool ((beqS u0.Data u1.Data) && (u0.At == u1.At))) (nog rfl _) rfl (by kernel_rfl) (pk_and hF47 (g := []) (m := 0) (b := (beqS u0.Data u1.Data)) (v := u0.At == u1.At) rfl (by kernel_rfl) (by kernel_rfl) (by kernel_rfl) rfl) ?_; intro a48 hF49; clear hF47
 refine s1 hF49 17 (.bool ((beqS u0.Data u1.Data) && (u0.At == u1.At))) ?_; intro a50 hF51; clear hF49
 have hF52 := hF51.atom (((beqS u0.Data u1.Data) && (u0.At == u1.At)) == true) (by kernel_rfl); clear hF51
 refine gp hF52 18 1 [] ((beqS u0.Data u1.Data) && (u0.At == u1.At)) (.pointer (some ⟨b10, 2, none⟩)) rfl rfl ?_; intro a53 hF54; clear hF52
 refine gd hF54 (.int .i64 u0.Next) (m := 1) (cj := []) (bj := (beqS u0.Data u1.Data) && (u0.At == u1.At)) rfl rfl (by kernel_rfl) rfl (by kernel_rfl) (by kernel_rfl) (by kernel_rfl) (fun hg => ld hF54 hM34 1 (g := [1]) (b := b10) (off := 2) (cs := [.slice ao1 u0.Data.length cap2, .int .i64 u0.At, .int .i64 u0.Next, .int .i64 u0.Left, .bool u0.Done]) (ty := 53) rfl (by kernel_rfl) (by kernel_rfl) (by kernel_rfl) (by kernel_rfl) hg) ?_; intro a55 hF56; clear hF54
 refine gp hF56 20 1 [] ((beqS u0.Data u1.Data) && (u0.At == u1.At)) (.pointer (some ⟨b15, 2, none⟩)) rfl rfl ?_; intro a57 hF58; clear hF56
 refine gd hF58 (.int .i64 u1.Next) (m := 1) (cj := []) (bj := (beqS u0.Data u1.Data) && (u0.At == u1.At)) rfl rfl (by kernel_rfl) rfl (by kernel_rfl) (by kernel_rfl) (by kernel_rfl) (fun hg => ld hF58 hM34 0 (g := [1]) (b := b15) (off := 2) (cs := [.slice ao4 u1.Data.length cap5, .int .i64 u1.At, .int .i64 u1.Next, .int .i64 u1.Left, .bool u1.Done]) (ty := 53) rfl (by kernel_rfl) (by kernel_rfl) (by kernel_rfl) (by kernel_rfl) hg) ?_; intro a59 hF60; clear hF58
 refine gp hF60 22 1 [] ((beqS u0.Data u1.Data) && (u0.At == u1.At)) (.bool (u0.Next == u1.Next)) rfl rfl ?_; intro a61 hF62; clear hF60
 refine st hF62 (.bool (((beqS u0.Data u1.Data) && (u0.At == u1.At)) && (u0.Next == u1.Next))) (nog rfl _) rfl (by kernel_rfl) (pk_and hF62 (g := []) (m := 1) (b := (beqS u0.Data u1.Data) && (u0.At == u1.At)) (v := u0.Next == u1.Next) rfl (by kernel_rfl) (by kernel_rfl) (by kernel_rfl) rfl) ?_; intro a63 hF64; clear hF62
 refine s1 hF64 24 (.bool (((beqS u0.Data u1.Data) && (u0.At == u1.At)) && (u0.Next == u1.Next))) ?_; intro a65 hF66; clear hF64
 have hF67 := hF66.atom ((((beqS u0.Data u1.Data) && (u0.At == u1.At)) && (u0.Next == u1.Next)) == true) (by kernel_rfl); clear hF66
 refine gp hF67 25 2 [] (((beqS u0.Data u1.Data) && (u0.At == u1.At)) && (u0.Next == u1.Next)) (.pointer (some ⟨b10, 3, none⟩)) rfl rfl ?_; intro a68 hF69; clear hF67
 refine gd hF69 (.int .i64 u0.Left) (m := 2) (cj := []) (bj := ((beqS u0.Data u1.Data) && (u0.At == u1.At)) && (u0.Next == u1.Next)) rfl rfl (by kernel_rfl) rfl (by kernel_rfl) (by kernel_rfl) (by kernel_rfl) (fun hg => ld hF69 hM34 1 (g := [2]) (b := b10) (off := 3) (cs := [.slice ao1 u0.Data.length cap2, .int .i64 u0.At, .int .i64 u0.Next, .int .i64 u0.Left, .bool u0.Done]) (ty := 53) rfl (by kernel_rfl) (by kernel_rfl) (by kernel_rfl) (by kernel_rfl) hg) ?_; intro a70 hF71; clear hF69
 refine gp hF71 27 2 [] (((beqS u0.Data u1.Data) && (u0.At == u1.At)) && (u0.Next == u1.Next)) (.pointer (some ⟨b15, 3, none⟩)) rfl rfl ?_; intro a72 hF73; clear hF71
 refine gd hF73 (.int .i64 u1.Left) (m := 2) (cj := []) (bj := ((beqS u0.Data u1.Data) && (u0.At == u1.At)) && (u0.Next == u1.Next)) rfl rfl (by kernel_rfl) rfl (by kernel_rfl) (by kernel_rfl) (by kernel_rfl) (fun hg => ld hF73 hM34 0 (g := [2]) (b := b15) (off := 3) (cs := [.slice ao4 u1.Data.length cap5, .int .i64 u1.At, .int .i64 u1.Next, .int .i64 u1.Left, .bool u1.Done]) (ty := 53) rfl (by kernel_rfl) (by kernel_rfl) (by kernel_rfl) (by kernel_rfl) hg) ?_; intro a74 hF75; clear hF73
 refine gp hF75 29 2 [] (((beqS u0.Data u1.Data) && (u0.At == u1.At)) && (u0.Next == u1.Next)) (.bool (u0.Left == u1.Left)) rfl rfl ?_; intro a76 hF77; clear hF75
 refine st hF77 (.bool ((((beqS u0.Data u1.Data) && (u0.At == u1.At)) && (u0.Next == u1.Next)) && (u0.Left == u1.Left))) (nog rfl _) rfl (by kernel_rfl) (pk_and hF77 (g := []) (m := 2) (b := ((beqS u0.Data u1.Data) && (u0.At == u1.At)) && (u0.Next == u1.Next)) (v := u0.Left == u1.Left) rfl (by kernel_rfl) (by kernel_rfl) (by kernel_rfl) rfl) ?_; intro a78 hF79; clear hF77
 refine s1 hF79 31 (.bool ((((beqS u0.Data u1.Data) && (u0.At == u1.At)) && (u0.Next == u1.Next)) && (u0.Left == u1.Left))) ?_; intro a80 hF81; clear hF79
 have hF82 := hF81.atom (((((beqS u0.Data u1.Data) && (u0.At == u1.At)) && (u0.Next == u1.Next)) && (u0.Left == u1.Left)) == true) (by kernel_rfl); clear hF81
 refine gp hF82 32 3 [] ((((beqS u0.Data u1.Data) && (u0.At == u1.At)) && (u0.Next == u1.Next)) && (u0.Left == u1.Left)) (.pointer (some ⟨b10, 4, none⟩)) rfl rfl ?_; intro a83 hF84; clear hF82
 refine gd hF84 (.bool u0.Done) (m := 3) (cj := []) (bj := (((beqS u0.Data u1.Data) && (u0.At == u1.At)) && (u0.Next == u1.Next)) && (u0.Left == u1.Left)) rfl rfl (by kernel_rfl) rfl (by kernel_rfl) (by kernel_rfl) (by kernel_rfl) (fun hg => ld hF84 hM34 1 (g := [3]) (b := b10) (off := 4) (cs := [.slice ao1 u0.Data.length cap2, .int .i64 u0.At, .int .i64 u0.Next, .int .i64 u0.Left, .bool u0.Done]) (ty := 53) rfl (by kernel_rfl) (by kernel_rfl) (by kernel_rfl) (by kernel_rfl) hg) ?_; intro a85 hF86; clear hF84
 refine gp hF86 34 3 [] ((((beqS u0.Data u1.Data) && (u0.At == u1.At)) && (u0.Next == u1.Next)) && (u0.Left == u1.Left)) (.pointer (some ⟨b15, 4, none⟩)) rfl rfl ?_; intro a87 hF88; clear hF86
 refine gd hF88 (.bool u1.Done) (m := 3) (cj := []) (bj := (((beqS u0.Data u1.Data) && (u0.At == u1.At)) && (u0.Next == u1.Next)) && (u0.Left == u1.Left)) rfl rfl (by kernel_rfl) rfl (by kernel_rfl) (by kernel_rfl) (by kernel_rfl) (fun hg => ld hF88 hM34 0 (g := [3]) (b := b15) (off := 4) (cs := [.slice ao4 u1.Data.length cap5, .int .i64 u1.At, .int .i64 u1.Next, .int .i64 u1.Left, .bool u1.Done]) (ty := 53) rfl (by kernel_rfl) (by kernel_rfl) (by kernel_rfl) (by kernel_rfl) hg) ?_; intro a89 hF90; clear hF88
 refine gp hF90 36 3 [] ((((beqS u0.Data u1.Data) && (u0.At == u1.At)) && (u0.Next == u1.Next)) && (u0.Left == u1.Left)) (.bool (u0.Done == u1.Done)) rfl rfl ?_; intro a91 hF92; clear hF90
 refine st hF92 (.bool (((((beqS u0.Data u1.Data) && (u0.At == u1.At)) && (u0.Next == u1.Next)) && (u0.Left == u1.Left)) && (u0.Done == u1.Done))) (nog rfl _) rfl (by kernel_rfl) (pk_and hF92 (g := []) (m := 3) (b := (((beqS u0.Data u1.Data) && (u0.At == u1.At)) && (u0.Next == u1.Next)) && (u0.Left == u1.Left)) (v := u0.Done == u1.Done) rfl (by kernel_rfl) (by kernel_rfl) (by kernel_rfl) rfl) ?_; intro a93 hF94; clear hF92
 refine s1 hF94 4 (.bool (((((beqS u0.Data u1.Data) && (u0.At == u1.At)) && (u0.Next == u1.Next)) && (u0.Left == u1.Left)) && (u0.Done == u1.Done))) ?_; intro a95 hF96; clear hF94
 refine nlH (hQ22 _ _ ?_); clear hQ22 hQ22Q
 refine wp_ret ?_
 refine rt (fn := Try.f35) (v := .bool (((((beqS u0.Data u1.Data) && (u0.At == u1.At)) && (u0.Next == u1.Next)) && (u0.Left == u1.Left)) && (u0.Done == u1.Done))) hF96 (re1 hF96 (fn := Try.f35) rfl (by kernel_rfl)) ?_
 exact ⟨((((beqS u0.Data u1.Data) && (u0.At == u1.At)) && (u0.Next == u1.Next)) && (u0.Left == u1.Left)) && (u0.Done == u1.Done), rfl, hp8, hM34.below⟩
theorem psames_fun (u0 : Sender) (u1 : Sender) (ao1 : Option Addr) (cap2 : Nat) (ao4 : Option Addr) (cap5 : Nat) (Z : Fz) (w : World) (hs3 : SlR (tyInt .u8) Z ao1 cap2 u0.Data) (hs6 : SlR (tyInt .u8) Z ao4 cap5 u1.Data) (hZ : Z.on w) : Calls Try.prog 35 #[.agg #[.slice ao1 u0.Data.length cap2, .int .i64 u0.At, .int .i64 u0.Next, .int .i64 u0.Left, .bool u0.Done], .agg #[.slice ao4 u1.Data.length cap5, .int .i64 u1.At, .int .i64 u1.Next, .int .i64 u1.Left, .bool u1.Done]] w fun e w' => e = .returned (.bool (psames u0 u1)) ∧ Below w.heap.size w w' :=
  (psames_walk u0 u1 ao1 cap2 ao4 cap5 Z w hs3 hs6 hZ (psames_ok u0 u1)).mono fun _ _ ⟨r, he, hk, hb⟩ => ⟨by subst hk; exact he, hb⟩

set_option maxRecDepth 100000 in
theorem psameg_walk (u0 : Getter) (u1 : Getter) (ao1 : Option Addr) (cap2 : Nat) (ao4 : Option Addr) (cap5 : Nat) (Z : Fz) (w : World) (hs3 : SlR (tyInt .u8) Z ao1 cap2 u0.Data) (hs6 : SlR (tyInt .u8) Z ao4 cap5 u1.Data) (hZ : Z.on w) {K : Bool → Prop} (hp : psameg_vc u0 u1 K) : Calls Try.prog 47 #[.agg #[.int .i64 u0.Want, .slice ao1 u0.Data.length cap2, .int .i64 u0.Next, .int .i64 u0.Block, .int .i64 u0.Left], .agg #[.int .i64 u1.Want, .slice ao4 u1.Data.length cap5, .int .i64 u1.Next, .int .i64 u1.Block, .int .i64 u1.Left]] w fun e w' => ∃ r : Bool, e = .returned (.bool r) ∧ K r ∧ Below w.heap.size w w' := by
 refine enter0 Try.func47 rfl rfl (by kernel_rfl) ?_; intro a0 hF0; have hM0 := Mem.start w Z hZ; have hle0 := Fz.le.refl Z
 have hp7 := hp (hs3.small); clear hp
 have hp8 := hp7 (hs6.small); clear hp7
 refine sqH ?_; intro hQ9Q hQ9
 refine sn hF0 hM0 (fun b => .pointer (some ⟨b, 0, none⟩)) [.int .i64 u0.Want, .slice ao1 u0.Data.length cap2, .int .i64 u0.Next, .int .i64 u0.Block, .int .i64 u0.Left] 71 (nog rfl _) rfl (by kernel_rfl) (by kernel_rfl) ?_; intro b10 a11 wd13 hF12 hM14; clear hF0 hM0
 refine sn hF12 hM14 (fun b => .pointer (some ⟨b, 0, none⟩)) [.int .i64 u1.Want, .slice ao4 u1.Data.length cap5, .int .i64 u1.Next, .int .i64 u1.Block, .int .i64 u1.Left] 71 (nog rfl _) rfl (by kernel_rfl) (by kernel_rfl) ?_; intro b15 a16 wd18 hF17 hM19; clear hF12 hM14
 refine s1 hF17 4 (.bool false) ?_; intro a20 hF21; clear hF17
 refine nlH (hQ9 _ _ ?_); clear hQ9 hQ9Q
 refine sqH ?_; intro hQ22Q hQ22
 refine s1 hF21 5 (.pointer (some ⟨b10, 0, none⟩)) ?_; intro a23 hF24; clear hF21
 refine l1 hF24 hM19 6 1 0 (.int .i64 u0.Want) rfl rfl ?_; intro a25 hF26; clear hF24
 refine s1 hF26 7 (.pointer (some ⟨b15, 0, none⟩)) ?_; intro a27 hF28; clear hF26
 refine l1 hF28 hM19 8 0 0 (.int .i64 u1.Want) rfl rfl ?_; intro a29 hF30; clear hF28
 refine s1 hF30 9 (.bool (u0.Want == u1.Want)) ?_; intro a31 hF32; clear hF30
 refine s1 hF32 10 (.bool (u0.Want == u1.Want)) ?_; intro a33 hF34; clear hF32
 have hF35 := hF34.atom ((u0.Want == u1.Want) == true) (by kernel_rfl); clear hF34
 refine gp hF35 11 0 [] (u0.Want == u1.Want) (.pointer (some ⟨b10, 1, none⟩)) rfl rfl ?_; intro a36 hF37; clear hF35
 refine gd hF37 (.slice ao1 u0.Data.length cap2) (m := 0) (cj := []) (bj := u0.Want == u1.Want) rfl rfl (by kernel_rfl) rfl (by kernel_rfl) (by kernel_rfl) (by kernel_rfl) (fun hg => ld hF37 hM19 1 (g := [0]) (b := b10) (off := 1) (cs := [.int .i64 u0.Want, .slice ao1 u0.Data.length cap2, .int .i64 u0.Next, .int .i64 u0.Block, .int .i64 u0.Left]) (ty := 71) rfl (by kernel_rfl) (by kernel_rfl) (by kernel_rfl) (by kernel_rfl) hg) ?_; intro a38 hF39; clear hF37
 refine gp hF39 13 0 [] (u0.Want == u1.Want) (.pointer (some ⟨b15, 1, none⟩)) rfl rfl ?_; intro a40 hF41; clear hF39
 refine gd hF41 (.slice ao4 u1.Data.length cap5) (m := 0) (cj := []) (bj := u0.Want == u1.Want) rfl rfl (by kernel_rfl) rfl (by kernel_rfl) (by kernel_rfl) (by kernel_rfl) (fun hg => ld hF41 hM19 0 (g := [0]) (b := b15) (off := 1) (cs := [.int .i64 u1.Want, .slice ao4 u1.Data.length cap5, .int .i64 u1.Next, .int .i64 u1.Block, .int .i64 u1.Left]) (ty := 71) rfl (by kernel_rfl) (by kernel_rfl) (by kernel_rfl) (by kernel_rfl) hg) ?_; intro a42 hF43; clear hF41
 refine gcl hF43 hM19 (.bool (beqS u0.Data u1.Data)) 37 #[.slice ao1 u0.Data.length cap2, .slice ao4 u1.Data.length cap5] (m := 0) (cj := []) (bj := u0.Want == u1.Want) rfl rfl (by kernel_rfl) rfl (by kernel_rfl) (by kernel_rfl) (by kernel_rfl) (fun _ => by kernel_rfl) (fun hg => beq_fun u0.Data u1.Data ao1 cap2 ao4 cap5 _ _ hs3 hs6 hM19.fz) ?_; intro a44 wd46 hF45 hM47; clear hF43 hM19
 refine st hF45 (.bool ((u0.Want == u1.Want) && (beqS u0.Data u1.Data))) (nog rfl _) rfl (by kernel_rfl) (pk_and hF45 (g := []) (m := 0) (b := u0.Want == u1.Want) (v := (beqS u0.Data u1.Data)) rfl (by kernel_rfl) (by kernel_rfl) (by kernel_rfl) rfl) ?_; intro a48 hF49; clear hF45
 refine s1 hF49 17 (.bool ((u0.Want == u1.Want) && (beqS u0.Data u1.Data))) ?_; intro a50 hF51; clear hF49
 have hF52 := hF51.atom (((u0.Want == u1.Want) && (beqS u0.Data u1.Data)) == true) (by kernel_rfl); clear hF51
 refine gp hF52 18 1 [] ((u0.Want == u1.Want) && (beqS u0.Data u1.Data)) (.pointer (some ⟨b10, 2, none⟩)) rfl rfl ?_; intro a53 hF54; clear hF52
 refine gd hF54 (.int .i64 u0.Next) (m := 1) (cj := []) (bj := (u0.Want == u1.Want) && (beqS u0.Data u1.Data)) rfl rfl (by kernel_rfl) rfl (by kernel_rfl) (by kernel_rfl) (by kernel_rfl) (fun hg => ld hF54 hM47 1 (g := [1]) (b := b10) (off := 2) (cs := [.int .i64 u0.Want, .slice ao1 u0.Data.length cap2, .int .i64 u0.Next, .int .i64 u0.Block, .int .i64 u0.Left]) (ty := 71) rfl (by kernel_rfl) (by kernel_rfl) (by kernel_rfl) (by kernel_rfl) hg) ?_; intro a55 hF56; clear hF54
 refine gp hF56 20 1 [] ((u0.Want == u1.Want) && (beqS u0.Data u1.Data)) (.pointer (some ⟨b15, 2, none⟩)) rfl rfl ?_; intro a57 hF58; clear hF56
 refine gd hF58 (.int .i64 u1.Next) (m := 1) (cj := []) (bj := (u0.Want == u1.Want) && (beqS u0.Data u1.Data)) rfl rfl (by kernel_rfl) rfl (by kernel_rfl) (by kernel_rfl) (by kernel_rfl) (fun hg => ld hF58 hM47 0 (g := [1]) (b := b15) (off := 2) (cs := [.int .i64 u1.Want, .slice ao4 u1.Data.length cap5, .int .i64 u1.Next, .int .i64 u1.Block, .int .i64 u1.Left]) (ty := 71) rfl (by kernel_rfl) (by kernel_rfl) (by kernel_rfl) (by kernel_rfl) hg) ?_; intro a59 hF60; clear hF58
 refine gp hF60 22 1 [] ((u0.Want == u1.Want) && (beqS u0.Data u1.Data)) (.bool (u0.Next == u1.Next)) rfl rfl ?_; intro a61 hF62; clear hF60
 refine st hF62 (.bool (((u0.Want == u1.Want) && (beqS u0.Data u1.Data)) && (u0.Next == u1.Next))) (nog rfl _) rfl (by kernel_rfl) (pk_and hF62 (g := []) (m := 1) (b := (u0.Want == u1.Want) && (beqS u0.Data u1.Data)) (v := u0.Next == u1.Next) rfl (by kernel_rfl) (by kernel_rfl) (by kernel_rfl) rfl) ?_; intro a63 hF64; clear hF62
 refine s1 hF64 24 (.bool (((u0.Want == u1.Want) && (beqS u0.Data u1.Data)) && (u0.Next == u1.Next))) ?_; intro a65 hF66; clear hF64
 have hF67 := hF66.atom ((((u0.Want == u1.Want) && (beqS u0.Data u1.Data)) && (u0.Next == u1.Next)) == true) (by kernel_rfl); clear hF66
 refine gp hF67 25 2 [] (((u0.Want == u1.Want) && (beqS u0.Data u1.Data)) && (u0.Next == u1.Next)) (.pointer (some ⟨b10, 3, none⟩)) rfl rfl ?_; intro a68 hF69; clear hF67
 refine gd hF69 (.int .i64 u0.Block) (m := 2) (cj := []) (bj := ((u0.Want == u1.Want) && (beqS u0.Data u1.Data)) && (u0.Next == u1.Next)) rfl rfl (by kernel_rfl) rfl (by kernel_rfl) (by kernel_rfl) (by kernel_rfl) (fun hg => ld hF69 hM47 1 (g := [2]) (b := b10) (off := 3) (cs := [.int .i64 u0.Want, .slice ao1 u0.Data.length cap2, .int .i64 u0.Next, .int .i64 u0.Block, .int .i64 u0.Left]) (ty := 71) rfl (by kernel_rfl) (by kernel_rfl) (by kernel_rfl) (by kernel_rfl) hg) ?_; intro a70 hF71; clear hF69
 refine gp hF71 27 2 [] (((u0.Want == u1.Want) && (beqS u0.Data u1.Data)) && (u0.Next == u1.Next)) (.pointer (some ⟨b15, 3, none⟩)) rfl rfl ?_; intro a72 hF73; clear hF71
 refine gd hF73 (.int .i64 u1.Block) (m := 2) (cj := []) (bj := ((u0.Want == u1.Want) && (beqS u0.Data u1.Data)) && (u0.Next == u1.Next)) rfl rfl (by kernel_rfl) rfl (by kernel_rfl) (by kernel_rfl) (by kernel_rfl) (fun hg => ld hF73 hM47 0 (g := [2]) (b := b15) (off := 3) (cs := [.int .i64 u1.Want, .slice ao4 u1.Data.length cap5, .int .i64 u1.Next, .int .i64 u1.Block, .int .i64 u1.Left]) (ty := 71) rfl (by kernel_rfl) (by kernel_rfl) (by kernel_rfl) (by kernel_rfl) hg) ?_; intro a74 hF75; clear hF73
 refine gp hF75 29 2 [] (((u0.Want == u1.Want) && (beqS u0.Data u1.Data)) && (u0.Next == u1.Next)) (.bool (u0.Block == u1.Block)) rfl rfl ?_; intro a76 hF77; clear hF75
 refine st hF77 (.bool ((((u0.Want == u1.Want) && (beqS u0.Data u1.Data)) && (u0.Next == u1.Next)) && (u0.Block == u1.Block))) (nog rfl _) rfl (by kernel_rfl) (pk_and hF77 (g := []) (m := 2) (b := ((u0.Want == u1.Want) && (beqS u0.Data u1.Data)) && (u0.Next == u1.Next)) (v := u0.Block == u1.Block) rfl (by kernel_rfl) (by kernel_rfl) (by kernel_rfl) rfl) ?_; intro a78 hF79; clear hF77
 refine s1 hF79 31 (.bool ((((u0.Want == u1.Want) && (beqS u0.Data u1.Data)) && (u0.Next == u1.Next)) && (u0.Block == u1.Block))) ?_; intro a80 hF81; clear hF79
 have hF82 := hF81.atom (((((u0.Want == u1.Want) && (beqS u0.Data u1.Data)) && (u0.Next == u1.Next)) && (u0.Block == u1.Block)) == true) (by kernel_rfl); clear hF81
 refine gp hF82 32 3 [] ((((u0.Want == u1.Want) && (beqS u0.Data u1.Data)) && (u0.Next == u1.Next)) && (u0.Block == u1.Block)) (.pointer (some ⟨b10, 4, none⟩)) rfl rfl ?_; intro a83 hF84; clear hF82
 refine gd hF84 (.int .i64 u0.Left) (m := 3) (cj := []) (bj := (((u0.Want == u1.Want) && (beqS u0.Data u1.Data)) && (u0.Next == u1.Next)) && (u0.Block == u1.Block)) rfl rfl (by kernel_rfl) rfl (by kernel_rfl) (by kernel_rfl) (by kernel_rfl) (fun hg => ld hF84 hM47 1 (g := [3]) (b := b10) (off := 4) (cs := [.int .i64 u0.Want, .slice ao1 u0.Data.length cap2, .int .i64 u0.Next, .int .i64 u0.Block, .int .i64 u0.Left]) (ty := 71) rfl (by kernel_rfl) (by kernel_rfl) (by kernel_rfl) (by kernel_rfl) hg) ?_; intro a85 hF86; clear hF84
 refine gp hF86 34 3 [] ((((u0.Want == u1.Want) && (beqS u0.Data u1.Data)) && (u0.Next == u1.Next)) && (u0.Block == u1.Block)) (.pointer (some ⟨b15, 4, none⟩)) rfl rfl ?_; intro a87 hF88; clear hF86
 refine gd hF88 (.int .i64 u1.Left) (m := 3) (cj := []) (bj := (((u0.Want == u1.Want) && (beqS u0.Data u1.Data)) && (u0.Next == u1.Next)) && (u0.Block == u1.Block)) rfl rfl (by kernel_rfl) rfl (by kernel_rfl) (by kernel_rfl) (by kernel_rfl) (fun hg => ld hF88 hM47 0 (g := [3]) (b := b15) (off := 4) (cs := [.int .i64 u1.Want, .slice ao4 u1.Data.length cap5, .int .i64 u1.Next, .int .i64 u1.Block, .int .i64 u1.Left]) (ty := 71) rfl (by kernel_rfl) (by kernel_rfl) (by kernel_rfl) (by kernel_rfl) hg) ?_; intro a89 hF90; clear hF88
 refine gp hF90 36 3 [] ((((u0.Want == u1.Want) && (beqS u0.Data u1.Data)) && (u0.Next == u1.Next)) && (u0.Block == u1.Block)) (.bool (u0.Left == u1.Left)) rfl rfl ?_; intro a91 hF92; clear hF90
 refine st hF92 (.bool (((((u0.Want == u1.Want) && (beqS u0.Data u1.Data)) && (u0.Next == u1.Next)) && (u0.Block == u1.Block)) && (u0.Left == u1.Left))) (nog rfl _) rfl (by kernel_rfl) (pk_and hF92 (g := []) (m := 3) (b := (((u0.Want == u1.Want) && (beqS u0.Data u1.Data)) && (u0.Next == u1.Next)) && (u0.Block == u1.Block)) (v := u0.Left == u1.Left) rfl (by kernel_rfl) (by kernel_rfl) (by kernel_rfl) rfl) ?_; intro a93 hF94; clear hF92
 refine s1 hF94 4 (.bool (((((u0.Want == u1.Want) && (beqS u0.Data u1.Data)) && (u0.Next == u1.Next)) && (u0.Block == u1.Block)) && (u0.Left == u1.Left))) ?_; intro a95 hF96; clear hF94
 refine nlH (hQ22 _ _ ?_); clear hQ22 hQ22Q
 refine wp_ret ?_
 refine rt (fn := Try.f47) (v := .bool (((((u0.Want == u1.Want) && (beqS u0.Data u1.Data)) && (u0.Next == u1.Next)) && (u0.Block == u1.Block)) && (u0.Left == u1.Left))) hF96 (re1 hF96 (fn := Try.f47) rfl (by kernel_rfl)) ?_
 exact ⟨((((u0.Want == u1.Want) && (beqS u0.Data u1.Data)) && (u0.Next == u1.Next)) && (u0.Block == u1.Block)) && (u0.Left == u1.Left), rfl, hp8, hM47.below⟩
theorem psameg_fun (u0 : Getter) (u1 : Getter) (ao1 : Option Addr) (cap2 : Nat) (ao4 : Option Addr) (cap5 : Nat) (Z : Fz) (w : World) (hs3 : SlR (tyInt .u8) Z ao1 cap2 u0.Data) (hs6 : SlR (tyInt .u8) Z ao4 cap5 u1.Data) (hZ : Z.on w) : Calls Try.prog 47 #[.agg #[.int .i64 u0.Want, .slice ao1 u0.Data.length cap2, .int .i64 u0.Next, .int .i64 u0.Block, .int .i64 u0.Left], .agg #[.int .i64 u1.Want, .slice ao4 u1.Data.length cap5, .int .i64 u1.Next, .int .i64 u1.Block, .int .i64 u1.Left]] w fun e w' => e = .returned (.bool (psameg u0 u1)) ∧ Below w.heap.size w w' :=
  (psameg_walk u0 u1 ao1 cap2 ao4 cap5 Z w hs3 hs6 hZ (psameg_ok u0 u1)).mono fun _ _ ⟨r, he, hk, hb⟩ => ⟨by subst hk; exact he, hb⟩

set_option maxRecDepth 100000 in
theorem ppartsof_walk (u0 : List Int) (ao1 : Option Addr) (cap2 : Nat) (Z : Fz) (w : World) (hs3 : SlR (tyInt .u8) Z ao1 cap2 u0) (hZ : Z.on w) {K : (List (List Int)) → Prop} (hp : ppartsof_vc u0 K) : Calls Try.prog 36 #[.slice ao1 u0.length cap2] w fun e w' => ∃ (r : (List (List Int))) (ao1001 : Option Addr) (cap1002 : Nat) (Z' : Fz), e = .returned (.slice ao1001 r.length cap1002) ∧ K r ∧ Mem w.heap.size [] w Z [.own (tySl (tyInt .u8)) 36 ao1001 cap1002 r] Z' w' := by
 refine enter0 Try.func36 rfl rfl (by kernel_rfl) ?_; intro a0 hF0; have hM0 := Mem.start w Z hZ; have hle0 := Fz.le.refl Z
 have hp4 := hp (hs3.small); clear hp
 refine sqH ?_; intro hQ5Q hQ5
 refine s1 hF0 2 (.slice none 0 0) ?_; intro a6 hF7; clear hF0
 refine nlH (hQ5 _ _ ?_); clear hQ5 hQ5Q
 refine sqH ?_; intro hQ8Q hQ8
 refine s1 hF7 6 (.slice ao1 u0.length cap2) ?_; intro a9 hF10; clear hF7
 refine s1 hF10 7 (.int .i64 (u0.length : Int)) ?_; intro a11 hF12; clear hF10
 refine s1 hF12 3 (.int .i64 (u0.length : Int)) ?_; intro a13 hF14; clear hF12
 refine nlH (hQ8 _ _ ?_); clear hQ8 hQ8Q
 refine wp_seq ?_
 refine sqH ?_; intro hQ15Q hQ15
 refine s1 hF14 8 (.int .i64 (u0.length : Int)) ?_; intro a16 hF17; clear hF14
 refine s1 hF17 9 (.bool (decide ((u0.length : Int) ≤ 7))) ?_; intro a18 hF19; clear hF17
 refine nlH (hQ15 _ _ ?_); clear hQ15 hQ15Q
 refine cd hF19 (t := decide ((u0.length : Int) ≤ 7)) (by kernel_rfl) (fun hb20 => ?_) (fun hb20 => ?_)
 · -- yes
  have hp21 := hp4.1 hb20; clear hp4
  refine sqH ?_; intro hQ22Q hQ22
  refine s1 hF19 10 (.int .i64 (u0.length : Int)) ?_; intro a23 hF24; clear hF19
  refine s1 hF24 11 (.int .u8 (w8 (u0.length : Int))) ?_; intro a25 hF26; clear hF24
  refine sn hF26 hM0 (fun b => .slice (some ⟨b, 0, none⟩) 1 1) [.int .u8 (w8 (u0.length : Int))] 5 (nog rfl _) rfl (by kernel_rfl) (by kernel_rfl) ?_; intro b27 a28 wd30 hF29 hM31; clear hF26 hM0
  refine s1 hF29 13 (.slice ao1 u0.length cap2) ?_; intro a32 hF33; clear hF29
  have hM34 : Mem w.heap.size [] w Z [.own (tyInt .u8) 5 (some ⟨b27, 0, none⟩) 1 ([w8 (u0.length : Int)] : List Int)] Z wd30 := hM31.rowOwn (T := (tyInt .u8)) (xs := ([w8 (u0.length : Int)] : List Int)) 0 rfl (by decide) (by show 1 ≤ lim; decide) (RepAll.one (T := (tyInt .u8)) (x := w8 (u0.length : Int)) rfl); clear hM31
  have hc35 := hp21.1; have hp36 := hp21.2; clear hp21
  refine ap hF33 hM34 0 (T := (tyInt .u8)) (xs := ([w8 (u0.length : Int)] : List Int)) (ys := u0) (ao := (some ⟨b27, 0, none⟩)) (cap := 1) (ao2 := ao1) (cap2 := cap2) (t := 36) (e := 5) (bytes := 1) (nog rfl _) rfl (by kernel_rfl) rfl (by kernel_rfl) (by kernel_rfl) (by kernel_rfl) rfl (Src.fz (by decide) hM34.fz hs3) hc35 ?_; intro ao37 cap38 a42 wd39 hnil40 hF43 hM41; clear hF33 hM34
  have hM44 : Mem w.heap.size [] w Z [.own (tyInt .u8) 5 ao37 cap38 (([w8 (u0.length : Int)] : List Int) ++ u0)] Z wd39 := hM41; clear hM41
  refine sn hF43 hM44 (fun b => .slice (some ⟨b, 0, none⟩) 1 1) [.slice ao37 (([w8 (u0.length : Int)] : List Int) ++ u0).length cap38] 36 (nog rfl _) rfl (by kernel_rfl) (by kernel_rfl) ?_; intro b45 a46 wd48 hF47 hM49; clear hF43 hM44
  refine s1 hF47 2 (.slice (some ⟨b45, 0, none⟩) 1 1) ?_; intro a50 hF51; clear hF47
  refine nlH (hQ22 _ _ ?_); clear hQ22 hQ22Q
  refine wp_ret ?_
  refine thr ?_
  obtain ⟨Z52, hle53, hM54, hs55⟩ := hM49.freeze 1 rfl
  replace hs3 := hs3.mono hle53
  replace hle0 := Fz.le.trans hle0 hle53
  have hM56 : Mem w.heap.size [] w Z [.row b45 [.slice ao37 (([w8 (u0.length : Int)] : List Int) ++ u0).length cap38] 36] Z52 wd48 := hM54; clear hM54
  have hM57 : Mem w.heap.size [] w Z [.own (tySl (tyInt .u8)) 36 (some ⟨b45, 0, none⟩) 1 ([([w8 (u0.length : Int)] : List Int) ++ u0] : List (List Int))] Z52 wd48 := hM56.rowOwn (T := (tySl (tyInt .u8))) (xs := ([([w8 (u0.length : Int)] : List Int) ++ u0] : List (List Int))) 0 rfl (by decide) (by show 1 ≤ lim; decide) (RepAll.one (T := (tySl (tyInt .u8))) (x := ([w8 (u0.length : Int)] : List Int) ++ u0) ⟨ao37, cap38, rfl, hs55⟩); clear hM56
  refine rt (fn := Try.f36) (v := .slice (some ⟨b45, 0, none⟩) ([([w8 (u0.length : Int)] : List Int) ++ u0] : List (List Int)).length 1) hF51 (re1 hF51 (fn := Try.f36) rfl (by kernel_rfl)) ?_
  exact ⟨([([w8 (u0.length : Int)] : List Int) ++ u0] : List (List Int)), (some ⟨b45, 0, none⟩), 1, Z52, rfl, hp36, hM57.keep (List.Sublist.cons_cons _ (List.Sublist.slnil))⟩
 · -- no
  have hp58 := hp4.2 hb20; clear hp4
  refine wp_skip ?_
  refine thn ?_
  refine sqH ?_; intro hQ59Q hQ59
  refine s1 hF19 16 (.int .i64 (u0.length : Int)) ?_; intro a60 hF61; clear hF19
  refine s1 hF61 17 (.int .i64 (w64 ((u0.length : Int).tdiv 256))) ?_; intro a62 hF63; clear hF61
  refine s1 hF63 18 (.int .i64 (w64 (16 + (w64 ((u0.length : Int).tdiv 256))))) ?_; intro a64 hF65; clear hF63
  refine s1 hF65 19 (.int .u8 (w8 (w64 (16 + (w64 ((u0.length : Int).tdiv 256)))))) ?_; intro a66 hF67; clear hF65
  refine s1 hF67 20 (.int .i64 (u0.length : Int)) ?_; intro a68 hF69; clear hF67
  refine s1 hF69 21 (.int .i64 ((u0.length : Int).tmod 256)) ?_; intro a70 hF71; clear hF69
  refine s1 hF71 22 (.int .u8 (w8 ((u0.length : Int).tmod 256))) ?_; intro a72 hF73; clear hF71
  refine sn hF73 hM0 (fun b => .slice (some ⟨b, 0, none⟩) 2 2) [.int .u8 (w8 (w64 (16 + (w64 ((u0.length : Int).tdiv 256))))), .int .u8 (w8 ((u0.length : Int).tmod 256))] 5 (nog rfl _) rfl (by kernel_rfl) (by kernel_rfl) ?_; intro b74 a75 wd77 hF76 hM78; clear hF73 hM0
  refine s1 hF76 24 (.slice ao1 u0.length cap2) ?_; intro a79 hF80; clear hF76
  have hc81 := hp58.1; have hp82 := hp58.2; clear hp58
  refine slH hF80 (T := (tyInt .u8)) (xs := u0) hs3 (6 : Int) hc81 (k' := .i64) (e := 5) (bytes := 1) (nog rfl _) rfl (by kernel_rfl) rfl (by kernel_rfl) (by kernel_rfl) (by kernel_rfl) ?_; intro ao83 cap84 a87 hn85 hs86 hF88; clear hF80
  have hM89 : Mem w.heap.size [] w Z [.own (tyInt .u8) 5 (some ⟨b74, 0, none⟩) 2 ([w8 (w64 (16 + (w64 ((u0.length : Int).tdiv 256)))), w8 ((u0.length : Int).tmod 256)] : List Int)] Z wd77 := hM78.rowOwn (T := (tyInt .u8)) (xs := ([w8 (w64 (16 + (w64 ((u0.length : Int).tdiv 256)))), w8 ((u0.length : Int).tmod 256)] : List Int)) 0 rfl (by decide) (by show 2 ≤ lim; decide) ((RepAll.one (T := (tyInt .u8)) (x := w8 (w64 (16 + (w64 ((u0.length : Int).tdiv 256))))) rfl).append (RepAll.one (T := (tyInt .u8)) (x := w8 ((u0.length : Int).tmod 256)) rfl)); clear hM78
  have hc90 := hp82.1; have hp91 := hp82.2; clear hp82
  refine ap hF88 hM89 0 (T := (tyInt .u8)) (xs := ([w8 (w64 (16 + (w64 ((u0.length : Int).tdiv 256)))), w8 ((u0.length : Int).tmod 256)] : List Int)) (ys := u0.take (6 : Int).toNat) (ao := (some ⟨b74, 0, none⟩)) (cap := 2) (ao2 := ao83) (cap2 := cap84) (t := 36) (e := 5) (bytes := 1) (nog rfl _) rfl (by kernel_rfl) rfl (by kernel_rfl) (by kernel_rfl) (by kernel_rfl) rfl (Src.fz (by decide) hM89.fz hs86) hc90 ?_; intro ao92 cap93 a97 wd94 hnil95 hF98 hM96; clear hF88 hM89
  have hM99 : Mem w.heap.size [] w Z [.own (tyInt .u8) 5 ao92 cap93 (([w8 (w64 (16 + (w64 ((u0.length : Int).tdiv 256)))), w8 ((u0.length : Int).tmod 256)] : List Int) ++ (u0.take (6 : Int).toNat))] Z wd94 := hM96; clear hM96
  refine sn hF98 hM99 (fun b => .slice (some ⟨b, 0, none⟩) 1 1) [.slice ao92 (([w8 (w64 (16 + (w64 ((u0.length : Int).tdiv 256)))), w8 ((u0.length : Int).tmod 256)] : List Int) ++ (u0.take (6 : Int).toNat)).length cap93] 36 (nog rfl _) rfl (by kernel_rfl) (by kernel_rfl) ?_; intro b100 a101 wd103 hF102 hM104; clear hF98 hM99
  refine s1 hF102 4 (.slice (some ⟨b100, 0, none⟩) 1 1) ?_; intro a105 hF106; clear hF102
  refine nlH (hQ59 _ _ ?_); clear hQ59 hQ59Q
  refine wp_seq ?_
  have hF107 : Fr 57 [] [⟨0, [], .slice ao1 u0.length cap2⟩, ⟨3, [], .int .i64 (u0.length : Int)⟩, ⟨4, [], .slice (some ⟨b100, 0, none⟩) 1 1⟩] a105 := hF106.region (by kernel_rfl) (by kernel_rfl); clear hF106
  refine sqH ?_; intro hQ108Q hQ108
  refine s1 hF107 5 (.int .i64 1) ?_; intro a109 hF110; clear hF107
  refine nlH (hQ108 _ _ ?_); clear hQ108 hQ108Q
  refine wp_block ?_
  have hF111 : Fr 57 [] [⟨0, [], .slice ao1 u0.length cap2⟩, ⟨3, [], .int .i64 (u0.length : Int)⟩, ⟨4, [], .slice (some ⟨b100, 0, none⟩) 1 1⟩, ⟨5, [], .int .i64 1⟩] a109 := hF110.region (by kernel_rfl) (by kernel_rfl); clear hF110
  obtain ⟨Z113, hle114, hM115, hs116⟩ := hM104.freeze 1 rfl
  replace hs3 := hs3.mono hle114
  replace hs86 := hs86.mono hle114
  replace hle0 := Fz.le.trans hle0 hle114
  have hM117 : Mem w.heap.size [] w Z [.row b100 [.slice ao92 (([w8 (w64 (16 + (w64 ((u0.length : Int).tdiv 256)))), w8 ((u0.length : Int).tmod 256)] : List Int) ++ (u0.take (6 : Int).toNat)).length cap93] 36] Z113 wd103 := hM115; clear hM115
  have hM118 : Mem w.heap.size [] w Z [.own (tySl (tyInt .u8)) 36 (some ⟨b100, 0, none⟩) 1 ([([w8 (w64 (16 + (w64 ((u0.length : Int).tdiv 256)))), w8 ((u0.length : Int).tmod 256)] : List Int) ++ (u0.take (6 : Int).toNat)] : List (List Int))] Z113 wd103 := hM117.rowOwn (T := (tySl (tyInt .u8))) (xs := ([([w8 (w64 (16 + (w64 ((u0.length : Int).tdiv 256)))), w8 ((u0.length : Int).tmod 256)] : List Int) ++ (u0.take (6 : Int).toNat)] : List (List Int))) 0 rfl (by decide) (by show 1 ≤ lim; decide) (RepAll.one (T := (tySl (tyInt .u8))) (x := ([w8 (w64 (16 + (w64 ((u0.length : Int).tdiv 256)))), w8 ((u0.length : Int).tmod 256)] : List Int) ++ (u0.take (6 : Int).toNat)) ⟨ao92, cap93, rfl, hs116⟩); clear hM117
  have hF119 : Fr 57 [] [⟨0, [], .slice ao1 u0.length cap2⟩, ⟨3, [], .int .i64 (u0.length : Int)⟩, ⟨4, [], .slice (some ⟨b100, 0, none⟩) ([([w8 (w64 (16 + (w64 ((u0.length : Int).tdiv 256)))), w8 ((u0.length : Int).tmod 256)] : List Int) ++ (u0.take (6 : Int).toNat)] : List (List Int)).length 1⟩, ⟨5, [], .int .i64 1⟩] a109 := hF111.region (by kernel_rfl) (by kernel_rfl); clear hF111
  obtain ⟨inv112, mu112, hI122, hr121⟩ := hp91
  have hle123 := hle0
  refine lp (ι := (List (List Int)) × Int × (Option Addr) × Nat × Fz) (fun (s : (List (List Int)) × Int × (Option Addr) × Nat × Fz) => [⟨0, [], .slice ao1 u0.length cap2⟩, ⟨3, [], .int .i64 (u0.length : Int)⟩, ⟨4, [], .slice s.2.2.1 s.1.length s.2.2.2.1⟩, ⟨5, [], .int .i64 s.2.1⟩]) (fun (s : (List (List Int)) × Int × (Option Addr) × Nat × Fz) => [.own (tySl (tyInt .u8)) 36 s.2.2.1 s.2.2.2.1 s.1]) (fun (s : (List (List Int)) × Int × (Option Addr) × Nat × Fz) => s.2.2.2.2) (fun (s : (List (List Int)) × Int × (Option Addr) × Nat × Fz) => inv112 s.1 s.2.1 ∧ Fz.le Z113 s.2.2.2.2) (fun (s : (List (List Int)) × Int × (Option Addr) × Nat × Fz) => mu112 s.1 s.2.1) ⟨([([w8 (w64 (16 + (w64 ((u0.length : Int).tdiv 256)))), w8 ((u0.length : Int).tmod 256)] : List Int) ++ (u0.take (6 : Int).toNat)] : List (List Int)), 1, (some ⟨b100, 0, none⟩), 1, Z113⟩ ⟨hI122, Fz.le.refl _⟩ (by exact hF119.region (by kernel_rfl) (by kernel_rfl)) (by exact hM118) ?_
  rintro ⟨x4, x5, aox4, capx4, ZL112⟩ ⟨hI120, hleL112⟩ a124 wd125 hF126 hM127
  have hF128 : Fr 57 [] [⟨0, [], .slice ao1 u0.length cap2⟩, ⟨3, [], .int .i64 (u0.length : Int)⟩, ⟨4, [], .slice aox4 x4.length capx4⟩, ⟨5, [], .int .i64 x5⟩] a124 := hF126; clear hF126 hF119
  have hM129 : Mem w.heap.size [] w Z [.own (tySl (tyInt .u8)) 36 aox4 capx4 x4] ZL112 wd125 := hM127; clear hM127 hM118
  have hp130 := hr121 x4 x5 hI120
  replace hle0 := Fz.le.trans hle0 hleL112
  have hs131 := hs3.mono hleL112
  have hs132 := hs86.mono hleL112
  have hs133 := hs116.mono hleL112
  refine wp_seq ?_
  refine sqH ?_; intro hQ134Q hQ134
  refine s1 hF128 28 (.int .i64 x5) ?_; intro a135 hF136; clear hF128
  refine s1 hF136 29 (.int .i64 (w64 (x5 - 1))) ?_; intro a137 hF138; clear hF136
  refine s1 hF138 30 (.int .i64 (w64 (7 * (w64 (x5 - 1))))) ?_; intro a139 hF140; clear hF138
  refine s1 hF140 31 (.int .i64 (w64 (6 + (w64 (7 * (w64 (x5 - 1))))))) ?_; intro a141 hF142; clear hF140
  refine s1 hF142 32 (.int .i64 (u0.length : Int)) ?_; intro a143 hF144; clear hF142
  refine s1 hF144 33 (.bool (decide ((w64 (6 + (w64 (7 * (w64 (x5 - 1)))))) < (u0.length : Int)))) ?_; intro a145 hF146; clear hF144
  refine nlH (hQ134 _ _ ?_); clear hQ134 hQ134Q
  refine cd hF146 (t := decide ((w64 (6 + (w64 (7 * (w64 (x5 - 1)))))) < (u0.length : Int))) (by kernel_rfl) (fun hb147 => ?_) (fun hb147 => ?_)
  · -- yes
   have hp148 := hp130.1 hb147; clear hp130
   refine wp_skip ?_
   refine thn ?_
   refine wp_seq ?_
   refine wp_block ?_
   refine rgH ?_; intro hQ149Q hQ149
   refine s1 hF146 36 (.slice aox4 x4.length capx4) ?_; intro a150 hF151; clear hF146
   refine s1 hF151 37 (.int .i64 x5) ?_; intro a152 hF153; clear hF151
   refine s1 hF153 38 (.int .i64 (x5.tmod 16)) ?_; intro a154 hF155; clear hF153
   refine s1 hF155 39 (.int .i64 (w64 (32 + (x5.tmod 16)))) ?_; intro a156 hF157; clear hF155
   refine s1 hF157 40 (.int .u8 (w8 (w64 (32 + (x5.tmod 16))))) ?_; intro a158 hF159; clear hF157
   refine sn hF159 hM129 (fun b => .slice (some ⟨b, 0, none⟩) 1 1) [.int .u8 (w8 (w64 (32 + (x5.tmod 16))))] 5 (nog rfl _) rfl (by kernel_rfl) (by kernel_rfl) ?_; intro b160 a161 wd163 hF162 hM164; clear hF159 hM129
   refine s1 hF162 42 (.slice ao1 u0.length cap2) ?_; intro a165 hF166; clear hF162
   refine s1 hF166 43 (.int .i64 x5) ?_; intro a167 hF168; clear hF166
   refine s1 hF168 44 (.int .i64 (w64 (x5 - 1))) ?_; intro a169 hF170; clear hF168
   refine s1 hF170 45 (.int .i64 (w64 (7 * (w64 (x5 - 1))))) ?_; intro a171 hF172; clear hF170
   refine s1 hF172 46 (.int .i64 (w64 (6 + (w64 (7 * (w64 (x5 - 1))))))) ?_; intro a173 hF174; clear hF172
   refine s1 hF174 47 (.int .i64 x5) ?_; intro a175 hF176; clear hF174
   refine s1 hF176 48 (.int .i64 (w64 (7 * x5))) ?_; intro a177 hF178; clear hF176
   refine s1 hF178 49 (.int .i64 (w64 (6 + (w64 (7 * x5))))) ?_; intro a179 hF180; clear hF178
   refine s1 hF180 50 (.int .i64 (u0.length : Int)) ?_; intro a181 hF182; clear hF180
   refine st hF182 (.int .i64 (min (w64 (6 + (w64 (7 * x5)))) (u0.length : Int))) (nog rfl _) rfl (by kernel_rfl) (re_ (p0 hF182 (r := .ok (.value (.int .i64 (if (u0.length : Int) < (w64 (6 + (w64 (7 * x5)))) then (u0.length : Int) else (w64 (6 + (w64 (7 * x5))))))) wd163) (by kernel_rfl)) (by rw [imin])) ?_; intro a183 hF184; clear hF182
   have hc185 := hp148.1; have hp186 := hp148.2; clear hp148
   refine slI hF184 (T := (tyInt .u8)) (xs := u0) hs131 (w64 (6 + (w64 (7 * (w64 (x5 - 1)))))) (min (w64 (6 + (w64 (7 * x5)))) (u0.length : Int)) hc185 (k := .i64) (k' := .i64) (e := 5) (bytes := 1) (nog rfl _) rfl (by kernel_rfl) rfl (by kernel_rfl) (by kernel_rfl) (by kernel_rfl) (by kernel_rfl) ?_; intro ao187 cap188 a191 hn189 hs190 hF192; clear hF184
   have hM193 : Mem w.heap.size [] w Z [.own (tyInt .u8) 5 (some ⟨b160, 0, none⟩) 1 ([w8 (w64 (32 + (x5.tmod 16)))] : List Int), .own (tySl (tyInt .u8)) 36 aox4 capx4 x4] ZL112 wd163 := hM164.rowOwn (T := (tyInt .u8)) (xs := ([w8 (w64 (32 + (x5.tmod 16)))] : List Int)) 0 rfl (by decide) (by show 1 ≤ lim; decide) (RepAll.one (T := (tyInt .u8)) (x := w8 (w64 (32 + (x5.tmod 16)))) rfl); clear hM164
   have hc194 := hp186.1; have hp195 := hp186.2; clear hp186
   refine ap hF192 hM193 0 (T := (tyInt .u8)) (xs := ([w8 (w64 (32 + (x5.tmod 16)))] : List Int)) (ys := (u0.take (min (w64 (6 + (w64 (7 * x5)))) (u0.length : Int)).toNat).drop (w64 (6 + (w64 (7 * (w64 (x5 - 1)))))).toNat) (ao := (some ⟨b160, 0, none⟩)) (cap := 1) (ao2 := ao187) (cap2 := cap188) (t := 36) (e := 5) (bytes := 1) (nog rfl _) rfl (by kernel_rfl) rfl (by kernel_rfl) (by kernel_rfl) (by kernel_rfl) rfl (Src.fz (by decide) hM193.fz hs190) hc194 ?_; intro ao196 cap197 a201 wd198 hnil199 hF202 hM200; clear hF192 hM193
   have hM203 : Mem w.heap.size [] w Z [.own (tyInt .u8) 5 ao196 cap197 (([w8 (w64 (32 + (x5.tmod 16)))] : List Int) ++ ((u0.take (min (w64 (6 + (w64 (7 * x5)))) (u0.length : Int)).toNat).drop (w64 (6 + (w64 (7 * (w64 (x5 - 1)))))).toNat)), .own (tySl (tyInt .u8)) 36 aox4 capx4 x4] ZL112 wd198 := hM200; clear hM200
   refine sn hF202 hM203 (fun b => .slice (some ⟨b, 0, none⟩) 1 1) [.slice ao196 (([w8 (w64 (32 + (x5.tmod 16)))] : List Int) ++ ((u0.take (min (w64 (6 + (w64 (7 * x5)))) (u0.length : Int)).toNat).drop (w64 (6 + (w64 (7 * (w64 (x5 - 1)))))).toNat)).length cap197] 36 (nog rfl _) rfl (by kernel_rfl) (by kernel_rfl) ?_; intro b204 a205 wd207 hF206 hM208; clear hF202 hM203
   obtain ⟨Z209, hle210, hM211, hs212⟩ := hM208.freeze 1 rfl
   replace hs131 := hs131.mono hle210
   replace hs132 := hs132.mono hle210
   replace hs133 := hs133.mono hle210
   replace hleL112 := hleL112.mono hle210
   replace hs190 := hs190.mono hle210
   replace hle0 := Fz.le.trans hle0 hle210
   have hM213 : Mem w.heap.size [] w Z [.row b204 [.slice ao196 (([w8 (w64 (32 + (x5.tmod 16)))] : List Int) ++ ((u0.take (min (w64 (6 + (w64 (7 * x5)))) (u0.length : Int)).toNat).drop (w64 (6 + (w64 (7 * (w64 (x5 - 1)))))).toNat)).length cap197] 36, .own (tySl (tyInt .u8)) 36 aox4 capx4 x4] Z209 wd207 := hM211; clear hM211
   have hc214 := hp195.1; have hp215 := hp195.2; clear hp195
   refine ap hF206 hM213 1 (T := (tySl (tyInt .u8))) (xs := x4) (ys := [([w8 (w64 (32 + (x5.tmod 16)))] : List Int) ++ ((u0.take (min (w64 (6 + (w64 (7 * x5)))) (u0.length : Int)).toNat).drop (w64 (6 + (w64 (7 * (w64 (x5 - 1)))))).toNat)]) (ao := aox4) (cap := capx4) (ao2 := (some ⟨b204, 0, none⟩)) (cap2 := 1) (t := 60) (e := 36) (bytes := 24) (nog rfl _) rfl (by kernel_rfl) rfl (by kernel_rfl) (by kernel_rfl) (by kernel_rfl) rfl (Src.row hM213 0 rfl (RepAll.one (T := (tySl (tyInt .u8))) (x := (([w8 (w64 (32 + (x5.tmod 16)))] : List Int) ++ ((u0.take (min (w64 (6 + (w64 (7 * x5)))) (u0.length : Int)).toNat).drop (w64 (6 + (w64 (7 * (w64 (x5 - 1)))))).toNat))) ⟨ao196, cap197, rfl, hs212⟩)) hc214 ?_; intro ao216 cap217 a221 wd218 hnil219 hF222 hM220; clear hF206 hM213
   have hM223 : Mem w.heap.size [] w Z [.row b204 [.slice ao196 (([w8 (w64 (32 + (x5.tmod 16)))] : List Int) ++ ((u0.take (min (w64 (6 + (w64 (7 * x5)))) (u0.length : Int)).toNat).drop (w64 (6 + (w64 (7 * (w64 (x5 - 1)))))).toNat)).length cap197] 36, .own (tySl (tyInt .u8)) 36 ao216 cap217 (x4 ++ [([w8 (w64 (32 + (x5.tmod 16)))] : List Int) ++ ((u0.take (min (w64 (6 + (w64 (7 * x5)))) (u0.length : Int)).toNat).drop (w64 (6 + (w64 (7 * (w64 (x5 - 1)))))).toNat)])] Z209 wd218 := hM220; clear hM220
   refine s1 hF222 4 (.slice ao216 (x4 ++ [([w8 (w64 (32 + (x5.tmod 16)))] : List Int) ++ ((u0.take (min (w64 (6 + (w64 (7 * x5)))) (u0.length : Int)).toNat).drop (w64 (6 + (w64 (7 * (w64 (x5 - 1)))))).toNat)]).length cap217) ?_; intro a224 hF225; clear hF222
   refine nlH (hQ149 _ _ ?_); clear hQ149 hQ149Q
   refine ibn ?_
   refine thn ?_
   have hF226 : Fr 57 [] [⟨0, [], .slice ao1 u0.length cap2⟩, ⟨3, [], .int .i64 (u0.length : Int)⟩, ⟨4, [], .slice ao216 (x4 ++ [([w8 (w64 (32 + (x5.tmod 16)))] : List Int) ++ ((u0.take (min (w64 (6 + (w64 (7 * x5)))) (u0.length : Int)).toNat).drop (w64 (6 + (w64 (7 * (w64 (x5 - 1)))))).toNat)]).length cap217⟩, ⟨5, [], .int .i64 x5⟩] a224 := hF225.region (by kernel_rfl) (by kernel_rfl); clear hF225
   refine rgH ?_; intro hQ227Q hQ227
   refine s1 hF226 34 (.int .i64 x5) ?_; intro a228 hF229; clear hF226
   refine s1 hF229 35 (.int .i64 (w64 (x5 + 1))) ?_; intro a230 hF231; clear hF229
   refine s1 hF231 5 (.int .i64 (w64 (x5 + 1))) ?_; intro a232 hF233; clear hF231
   refine nlH (hQ227 _ _ ?_); clear hQ227 hQ227Q
   refine rd ?_
   exact ⟨⟨x4 ++ [([w8 (w64 (32 + (x5.tmod 16)))] : List Int) ++ ((u0.take (min (w64 (6 + (w64 (7 * x5)))) (u0.length : Int)).toNat).drop (w64 (6 + (w64 (7 * (w64 (x5 - 1)))))).toNat)], w64 (x5 + 1), ao216, cap217, Z209⟩, ⟨hp215.1, hleL112⟩, hp215.2, (hF233.region (by kernel_rfl) (by kernel_rfl)).anyβ _ (by kernel_rfl), hM223.keep (List.Sublist.cons _ (List.Sublist.cons_cons _ (List.Sublist.slnil)))⟩
  · -- no
   have hp234 := hp130.2 hb147; clear hp130
   refine wp_exit ?_
   refine thx ?_
   refine thx ?_
   refine ibx ?_
   refine thn ?_
   refine sqH ?_; intro hQ235Q hQ235
   refine s1 hF146 56 (.slice aox4 x4.length capx4) ?_; intro a236 hF237; clear hF146
   refine s1 hF237 2 (.slice aox4 x4.length capx4) ?_; intro a238 hF239; clear hF237
   refine nlH (hQ235 _ _ ?_); clear hQ235 hQ235Q
   refine wp_ret ?_
   refine rt (fn := Try.f36) (v := .slice aox4 x4.length capx4) hF239 (re1 hF239 (fn := Try.f36) rfl (by kernel_rfl)) ?_
   exact ⟨x4, aox4, capx4, ZL112, rfl, hp234, hM129.keep (List.Sublist.cons_cons _ (List.Sublist.slnil))⟩

set_option maxRecDepth 100000 in
theorem rcheckg_walk (u0 : Getter) (ao1 : Option Addr) (cap2 : Nat) (Z : Fz) (w : World) (hs3 : SlR (tyInt .u8) Z ao1 cap2 u0.Data) (hZ : Z.on w) {K : Int → Prop} (hp : rcheckg_vc u0 K) : Calls Try.prog 45 #[.agg #[.int .i64 u0.Want, .slice ao1 u0.Data.length cap2, .int .i64 u0.Next, .int .i64 u0.Block, .int .i64 u0.Left]] w fun e w' => ∃ r : Int, e = .returned (.int .i64 r) ∧ K r ∧ Below w.heap.size w w' := by
 refine enter0 Try.func45 rfl rfl (by kernel_rfl) ?_; intro a0 hF0; have hM0 := Mem.start w Z hZ; have hle0 := Fz.le.refl Z
 have hp4 := hp (hs3.small); clear hp
 refine sqH ?_; intro hQ5Q hQ5
 refine sn hF0 hM0 (fun b => .pointer (some ⟨b, 0, none⟩)) [.int .i64 u0.Want, .slice ao1 u0.Data.length cap2, .int .i64 u0.Next, .int .i64 u0.Block, .int .i64 u0.Left] 71 (nog rfl _) rfl (by kernel_rfl) (by kernel_rfl) ?_; intro b6 a7 wd9 hF8 hM10; clear hF0 hM0
 refine s1 hF8 2 (.int .i64 0) ?_; intro a11 hF12; clear hF8
 refine nlH (hQ5 _ _ ?_); clear hQ5 hQ5Q
 refine sqH ?_; intro hQ13Q hQ13
 refine s1 hF12 3 (.func (.func 61) #[] #[]) ?_; intro a14 hF15; clear hF12
 refine nlH (hQ13 _ _ ?_); clear hQ13 hQ13Q
 refine wp_seq ?_
 refine sqH ?_; intro hQ16Q hQ16
 refine s1 hF15 5 (.func (.func 61) #[] #[]) ?_; intro a17 hF18; clear hF15
 refine s1 hF18 6 (.pointer (some ⟨b6, 0, none⟩)) ?_; intro a19 hF20; clear hF18
 refine l1 hF20 hM10 7 0 0 (.int .i64 u0.Want) rfl rfl ?_; intro a21 hF22; clear hF20
 refine fcl hF22 hM10 (.bool (pin u0.Want 300)) 61 #[.int .i64 u0.Want, .int .i64 300] (nog rfl _) rfl (by kernel_rfl) (fun _ => by kernel_rfl) (pin_fun u0.Want 300 _ _ hM10.fz) ?_; intro a23 wd25 hF24 hM26; clear hF22 hM10
 refine s1 hF24 9 (.bool (!(pin u0.Want 300))) ?_; intro a27 hF28; clear hF24
 refine s1 hF28 10 (.bool (!(pin u0.Want 300))) ?_; intro a29 hF30; clear hF28
 have hF31 := hF30.atom ((!(pin u0.Want 300)) == false) (by kernel_rfl); clear hF30
 refine gp hF31 11 0 [] (!(pin u0.Want 300)) (.func (.func 61) #[] #[]) rfl rfl ?_; intro a32 hF33; clear hF31
 refine gp hF33 12 0 [] (!(pin u0.Want 300)) (.pointer (some ⟨b6, 3, none⟩)) rfl rfl ?_; intro a34 hF35; clear hF33
 refine gd hF35 (.int .i64 u0.Block) (m := 0) (cj := []) (bj := !(pin u0.Want 300)) rfl rfl (by kernel_rfl) rfl (by kernel_rfl) (by kernel_rfl) (by kernel_rfl) (fun hg => ld hF35 hM26 0 (g := [0]) (b := b6) (off := 3) (cs := [.int .i64 u0.Want, .slice ao1 u0.Data.length cap2, .int .i64 u0.Next, .int .i64 u0.Block, .int .i64 u0.Left]) (ty := 71) rfl (by kernel_rfl) (by kernel_rfl) (by kernel_rfl) (by kernel_rfl) hg) ?_; intro a36 hF37; clear hF35
 refine gcl hF37 hM26 (.bool (pin u0.Block 255)) 61 #[.int .i64 u0.Block, .int .i64 255] (m := 0) (cj := []) (bj := !(pin u0.Want 300)) rfl rfl (by kernel_rfl) rfl (by kernel_rfl) (by kernel_rfl) (by kernel_rfl) (fun _ => by kernel_rfl) (fun hg => pin_fun u0.Block 255 _ _ hM26.fz) ?_; intro a38 wd40 hF39 hM41; clear hF37 hM26
 refine gp hF39 15 0 [] (!(pin u0.Want 300)) (.bool (!(pin u0.Block 255))) rfl rfl ?_; intro a42 hF43; clear hF39
 refine st hF43 (.bool ((!(pin u0.Want 300)) || (!(pin u0.Block 255)))) (nog rfl _) rfl (by kernel_rfl) (pk_or hF43 (g := []) (m := 0) (b := !(pin u0.Want 300)) (v := !(pin u0.Block 255)) rfl (by kernel_rfl) (by kernel_rfl) (by kernel_rfl) rfl) ?_; intro a44 hF45; clear hF43
 refine s1 hF45 17 (.bool ((!(pin u0.Want 300)) || (!(pin u0.Block 255)))) ?_; intro a46 hF47; clear hF45
 have hF48 := hF47.atom (((!(pin u0.Want 300)) || (!(pin u0.Block 255))) == false) (by kernel_rfl); clear hF47
 refine gp hF48 18 1 [] ((!(pin u0.Want 300)) || (!(pin u0.Block 255))) (.func (.func 61) #[] #[]) rfl rfl ?_; intro a49 hF50; clear hF48
 refine gp hF50 19 1 [] ((!(pin u0.Want 300)) || (!(pin u0.Block 255))) (.pointer (some ⟨b6, 4, none⟩)) rfl rfl ?_; intro a51 hF52; clear hF50
 refine gd hF52 (.int .i64 u0.Left) (m := 1) (cj := []) (bj := (!(pin u0.Want 300)) || (!(pin u0.Block 255))) rfl rfl (by kernel_rfl) rfl (by kernel_rfl) (by kernel_rfl) (by kernel_rfl) (fun hg => ld hF52 hM41 0 (g := [1]) (b := b6) (off := 4) (cs := [.int .i64 u0.Want, .slice ao1 u0.Data.length cap2, .int .i64 u0.Next, .int .i64 u0.Block, .int .i64 u0.Left]) (ty := 71) rfl (by kernel_rfl) (by kernel_rfl) (by kernel_rfl) (by kernel_rfl) hg) ?_; intro a53 hF54; clear hF52
 refine gp hF54 21 1 [] ((!(pin u0.Want 300)) || (!(pin u0.Block 255))) (.pointer (some ⟨b6, 3, none⟩)) rfl rfl ?_; intro a55 hF56; clear hF54
 refine gd hF56 (.int .i64 u0.Block) (m := 1) (cj := []) (bj := (!(pin u0.Want 300)) || (!(pin u0.Block 255))) rfl rfl (by kernel_rfl) rfl (by kernel_rfl) (by kernel_rfl) (by kernel_rfl) (fun hg => ld hF56 hM41 0 (g := [1]) (b := b6) (off := 3) (cs := [.int .i64 u0.Want, .slice ao1 u0.Data.length cap2, .int .i64 u0.Next, .int .i64 u0.Block, .int .i64 u0.Left]) (ty := 71) rfl (by kernel_rfl) (by kernel_rfl) (by kernel_rfl) (by kernel_rfl) hg) ?_; intro a57 hF58; clear hF56
 refine gcl hF58 hM41 (.bool (pin u0.Left u0.Block)) 61 #[.int .i64 u0.Left, .int .i64 u0.Block] (m := 1) (cj := []) (bj := (!(pin u0.Want 300)) || (!(pin u0.Block 255))) rfl rfl (by kernel_rfl) rfl (by kernel_rfl) (by kernel_rfl) (by kernel_rfl) (fun _ => by kernel_rfl) (fun hg => pin_fun u0.Left u0.Block _ _ hM41.fz) ?_; intro a59 wd61 hF60 hM62; clear hF58 hM41
 refine gp hF60 24 1 [] ((!(pin u0.Want 300)) || (!(pin u0.Block 255))) (.bool (!(pin u0.Left u0.Block))) rfl rfl ?_; intro a63 hF64; clear hF60
 refine st hF64 (.bool (((!(pin u0.Want 300)) || (!(pin u0.Block 255))) || (!(pin u0.Left u0.Block)))) (nog rfl _) rfl (by kernel_rfl) (pk_or hF64 (g := []) (m := 1) (b := (!(pin u0.Want 300)) || (!(pin u0.Block 255))) (v := !(pin u0.Left u0.Block)) rfl (by kernel_rfl) (by kernel_rfl) (by kernel_rfl) rfl) ?_; intro a65 hF66; clear hF64
 refine s1 hF66 26 (.bool (((!(pin u0.Want 300)) || (!(pin u0.Block 255))) || (!(pin u0.Left u0.Block)))) ?_; intro a67 hF68; clear hF66
 have hF69 := hF68.atom ((((!(pin u0.Want 300)) || (!(pin u0.Block 255))) || (!(pin u0.Left u0.Block))) == false) (by kernel_rfl); clear hF68
 refine gp hF69 27 2 [] (((!(pin u0.Want 300)) || (!(pin u0.Block 255))) || (!(pin u0.Left u0.Block))) (.func (.func 61) #[] #[]) rfl rfl ?_; intro a70 hF71; clear hF69
 refine gp hF71 28 2 [] (((!(pin u0.Want 300)) || (!(pin u0.Block 255))) || (!(pin u0.Left u0.Block))) (.pointer (some ⟨b6, 2, none⟩)) rfl rfl ?_; intro a72 hF73; clear hF71
 refine gd hF73 (.int .i64 u0.Next) (m := 2) (cj := []) (bj := ((!(pin u0.Want 300)) || (!(pin u0.Block 255))) || (!(pin u0.Left u0.Block))) rfl rfl (by kernel_rfl) rfl (by kernel_rfl) (by kernel_rfl) (by kernel_rfl) (fun hg => ld hF73 hM62 0 (g := [2]) (b := b6) (off := 2) (cs := [.int .i64 u0.Want, .slice ao1 u0.Data.length cap2, .int .i64 u0.Next, .int .i64 u0.Block, .int .i64 u0.Left]) (ty := 71) rfl (by kernel_rfl) (by kernel_rfl) (by kernel_rfl) (by kernel_rfl) hg) ?_; intro a74 hF75; clear hF73
 refine gcl hF75 hM62 (.bool (pin u0.Next 15)) 61 #[.int .i64 u0.Next, .int .i64 15] (m := 2) (cj := []) (bj := ((!(pin u0.Want 300)) || (!(pin u0.Block 255))) || (!(pin u0.Left u0.Block))) rfl rfl (by kernel_rfl) rfl (by kernel_rfl) (by kernel_rfl) (by kernel_rfl) (fun _ => by kernel_rfl) (fun hg => pin_fun u0.Next 15 _ _ hM62.fz) ?_; intro a76 wd78 hF77 hM79; clear hF75 hM62
 refine gp hF77 31 2 [] (((!(pin u0.Want 300)) || (!(pin u0.Block 255))) || (!(pin u0.Left u0.Block))) (.bool (!(pin u0.Next 15))) rfl rfl ?_; intro a80 hF81; clear hF77
 refine st hF81 (.bool ((((!(pin u0.Want 300)) || (!(pin u0.Block 255))) || (!(pin u0.Left u0.Block))) || (!(pin u0.Next 15)))) (nog rfl _) rfl (by kernel_rfl) (pk_or hF81 (g := []) (m := 2) (b := ((!(pin u0.Want 300)) || (!(pin u0.Block 255))) || (!(pin u0.Left u0.Block))) (v := !(pin u0.Next 15)) rfl (by kernel_rfl) (by kernel_rfl) (by kernel_rfl) rfl) ?_; intro a82 hF83; clear hF81
 refine nlH (hQ16 _ _ ?_); clear hQ16 hQ16Q
 refine cd hF83 (t := (((!(pin u0.Want 300)) || (!(pin u0.Block 255))) || (!(pin u0.Left u0.Block))) || (!(pin u0.Next 15))) (by kernel_rfl) (fun hb84 => ?_) (fun hb84 => ?_)
 · -- yes
  have hp85 := hp4.1 hb84; clear hp4
  have hF86 : Fr 92 [] [] a82 := hF83.region (by kernel_rfl) (by kernel_rfl); clear hF83
  refine sqH ?_; intro hQ87Q hQ87
  refine s1 hF86 2 (.int .i64 3) ?_; intro a88 hF89; clear hF86
  refine nlH (hQ87 _ _ ?_); clear hQ87 hQ87Q
  refine wp_ret ?_
  refine thr ?_
  refine rt (fn := Try.f45) (v := .int .i64 3) hF89 (re1 hF89 (fn := Try.f45) rfl (by kernel_rfl)) ?_
  exact ⟨3, rfl, hp85, hM79.below⟩
 · -- no
  have hp90 := hp4.2 hb84; clear hp4
  refine wp_skip ?_
  refine thn ?_
  refine wp_seq ?_
  have hF91 : Fr 92 [] [⟨1, [], .pointer (some ⟨b6, 0, none⟩)⟩] a82 := hF83.region (by kernel_rfl) (by kernel_rfl); clear hF83
  refine sqH ?_; intro hQ92Q hQ92
  refine s1 hF91 33 (.pointer (some ⟨b6, 0, none⟩)) ?_; intro a93 hF94; clear hF91
  refine l1 hF94 hM79 34 0 0 (.int .i64 u0.Want) rfl rfl ?_; intro a95 hF96; clear hF94
  refine s1 hF96 35 (.bool (u0.Want == 0)) ?_; intro a97 hF98; clear hF96
  refine nlH (hQ92 _ _ ?_); clear hQ92 hQ92Q
  refine cd hF98 (t := u0.Want == 0) (by kernel_rfl) (fun hb99 => ?_) (fun hb99 => ?_)
  · -- yes
   have hp100 := hp90.1 hb99; clear hp90
   refine wp_seq ?_
   refine sqH ?_; intro hQ101Q hQ101
   refine s1 hF98 36 (.pointer (some ⟨b6, 1, none⟩)) ?_; intro a102 hF103; clear hF98
   refine l1 hF103 hM79 37 0 1 (.slice ao1 u0.Data.length cap2) rfl rfl ?_; intro a104 hF105; clear hF103
   refine s1 hF105 38 (.int .i64 (u0.Data.length : Int)) ?_; intro a106 hF107; clear hF105
   refine s1 hF107 39 (.bool ((u0.Data.length : Int) != 0)) ?_; intro a108 hF109; clear hF107
   refine s1 hF109 40 (.bool ((u0.Data.length : Int) != 0)) ?_; intro a110 hF111; clear hF109
   have hF112 := hF111.atom (((u0.Data.length : Int) != 0) == false) (by kernel_rfl); clear hF111
   refine gp hF112 41 0 [] ((u0.Data.length : Int) != 0) (.pointer (some ⟨b6, 2, none⟩)) rfl rfl ?_; intro a113 hF114; clear hF112
   refine gd hF114 (.int .i64 u0.Next) (m := 0) (cj := []) (bj := (u0.Data.length : Int) != 0) rfl rfl (by kernel_rfl) rfl (by kernel_rfl) (by kernel_rfl) (by kernel_rfl) (fun hg => ld hF114 hM79 0 (g := [0]) (b := b6) (off := 2) (cs := [.int .i64 u0.Want, .slice ao1 u0.Data.length cap2, .int .i64 u0.Next, .int .i64 u0.Block, .int .i64 u0.Left]) (ty := 71) rfl (by kernel_rfl) (by kernel_rfl) (by kernel_rfl) (by kernel_rfl) hg) ?_; intro a115 hF116; clear hF114
   refine gp hF116 43 0 [] ((u0.Data.length : Int) != 0) (.bool (u0.Next != 0)) rfl rfl ?_; intro a117 hF118; clear hF116
   refine st hF118 (.bool (((u0.Data.length : Int) != 0) || (u0.Next != 0))) (nog rfl _) rfl (by kernel_rfl) (pk_or hF118 (g := []) (m := 0) (b := (u0.Data.length : Int) != 0) (v := u0.Next != 0) rfl (by kernel_rfl) (by kernel_rfl) (by kernel_rfl) rfl) ?_; intro a119 hF120; clear hF118
   refine s1 hF120 45 (.bool (((u0.Data.length : Int) != 0) || (u0.Next != 0))) ?_; intro a121 hF122; clear hF120
   have hF123 := hF122.atom ((((u0.Data.length : Int) != 0) || (u0.Next != 0)) == false) (by kernel_rfl); clear hF122
   refine gp hF123 46 1 [] (((u0.Data.length : Int) != 0) || (u0.Next != 0)) (.pointer (some ⟨b6, 4, none⟩)) rfl rfl ?_; intro a124 hF125; clear hF123
   refine gd hF125 (.int .i64 u0.Left) (m := 1) (cj := []) (bj := ((u0.Data.length : Int) != 0) || (u0.Next != 0)) rfl rfl (by kernel_rfl) rfl (by kernel_rfl) (by kernel_rfl) (by kernel_rfl) (fun hg => ld hF125 hM79 0 (g := [1]) (b := b6) (off := 4) (cs := [.int .i64 u0.Want, .slice ao1 u0.Data.length cap2, .int .i64 u0.Next, .int .i64 u0.Block, .int .i64 u0.Left]) (ty := 71) rfl (by kernel_rfl) (by kernel_rfl) (by kernel_rfl) (by kernel_rfl) hg) ?_; intro a126 hF127; clear hF125
   refine gp hF127 48 1 [] (((u0.Data.length : Int) != 0) || (u0.Next != 0)) (.bool (u0.Left != 0)) rfl rfl ?_; intro a128 hF129; clear hF127
   refine st hF129 (.bool ((((u0.Data.length : Int) != 0) || (u0.Next != 0)) || (u0.Left != 0))) (nog rfl _) rfl (by kernel_rfl) (pk_or hF129 (g := []) (m := 1) (b := ((u0.Data.length : Int) != 0) || (u0.Next != 0)) (v := u0.Left != 0) rfl (by kernel_rfl) (by kernel_rfl) (by kernel_rfl) rfl) ?_; intro a130 hF131; clear hF129
   refine nlH (hQ101 _ _ ?_); clear hQ101 hQ101Q
   refine cd hF131 (t := (((u0.Data.length : Int) != 0) || (u0.Next != 0)) || (u0.Left != 0)) (by kernel_rfl) (fun hb132 => ?_) (fun hb132 => ?_)
   · -- yes
    have hp133 := hp100.1 hb132; clear hp100
    have hF134 : Fr 92 [] [] a130 := hF131.region (by kernel_rfl) (by kernel_rfl); clear hF131
    refine sqH ?_; intro hQ135Q hQ135
    refine s1 hF134 2 (.int .i64 4) ?_; intro a136 hF137; clear hF134
    refine nlH (hQ135 _ _ ?_); clear hQ135 hQ135Q
    refine wp_ret ?_
    refine thr ?_
    refine thr ?_
    refine rt (fn := Try.f45) (v := .int .i64 4) hF137 (re1 hF137 (fn := Try.f45) rfl (by kernel_rfl)) ?_
    exact ⟨4, rfl, hp133, hM79.below⟩
   · -- no
    have hp138 := hp100.2 hb132; clear hp100
    refine wp_skip ?_
    refine thn ?_
    have hF139 : Fr 92 [] [] a130 := hF131.region (by kernel_rfl) (by kernel_rfl); clear hF131
    refine sqH ?_; intro hQ140Q hQ140
    refine s1 hF139 2 (.int .i64 0) ?_; intro a141 hF142; clear hF139
    refine nlH (hQ140 _ _ ?_); clear hQ140 hQ140Q
    refine wp_ret ?_
    refine thr ?_
    refine rt (fn := Try.f45) (v := .int .i64 0) hF142 (re1 hF142 (fn := Try.f45) rfl (by kernel_rfl)) ?_
    exact ⟨0, rfl, hp138, hM79.below⟩
  · -- no
   have hp143 := hp90.2 hb99; clear hp90
   refine wp_skip ?_
   refine thn ?_
   refine sqH ?_; intro hQ144Q hQ144
   refine s1 hF98 50 (.pointer (some ⟨b6, 1, none⟩)) ?_; intro a145 hF146; clear hF98
   refine l1 hF146 hM79 51 0 1 (.slice ao1 u0.Data.length cap2) rfl rfl ?_; intro a147 hF148; clear hF146
   refine s1 hF148 52 (.int .i64 (u0.Data.length : Int)) ?_; intro a149 hF150; clear hF148
   refine s1 hF150 4 (.int .i64 (u0.Data.length : Int)) ?_; intro a151 hF152; clear hF150
   refine nlH (hQ144 _ _ ?_); clear hQ144 hQ144Q
   refine wp_seq ?_
   refine sqH ?_; intro hQ153Q hQ153
   refine s1 hF152 53 (.pointer (some ⟨b6, 0, none⟩)) ?_; intro a154 hF155; clear hF152
   refine l1 hF155 hM79 54 0 0 (.int .i64 u0.Want) rfl rfl ?_; intro a156 hF157; clear hF155
   refine s1 hF157 55 (.bool (decide (u0.Want < 8))) ?_; intro a158 hF159; clear hF157
   refine s1 hF159 56 (.bool (decide (u0.Want < 8))) ?_; intro a160 hF161; clear hF159
   have hF162 := hF161.atom ((decide (u0.Want < 8)) == false) (by kernel_rfl); clear hF161
   refine gp hF162 57 0 [] (decide (u0.Want < 8)) (.int .i64 (u0.Data.length : Int)) rfl rfl ?_; intro a163 hF164; clear hF162
   refine gp hF164 58 0 [] (decide (u0.Want < 8)) (.bool (decide ((u0.Data.length : Int) < 6))) rfl rfl ?_; intro a165 hF166; clear hF164
   refine st hF166 (.bool ((decide (u0.Want < 8)) || (decide ((u0.Data.length : Int) < 6)))) (nog rfl _) rfl (by kernel_rfl) (pk_or hF166 (g := []) (m := 0) (b := decide (u0.Want < 8)) (v := decide ((u0.Data.length : Int) < 6)) rfl (by kernel_rfl) (by kernel_rfl) (by kernel_rfl) rfl) ?_; intro a167 hF168; clear hF166
   refine s1 hF168 60 (.bool ((decide (u0.Want < 8)) || (decide ((u0.Data.length : Int) < 6)))) ?_; intro a169 hF170; clear hF168
   have hF171 := hF170.atom (((decide (u0.Want < 8)) || (decide ((u0.Data.length : Int) < 6))) == false) (by kernel_rfl); clear hF170
   refine gp hF171 61 1 [] ((decide (u0.Want < 8)) || (decide ((u0.Data.length : Int) < 6))) (.int .i64 (u0.Data.length : Int)) rfl rfl ?_; intro a172 hF173; clear hF171
   refine gp hF173 62 1 [] ((decide (u0.Want < 8)) || (decide ((u0.Data.length : Int) < 6))) (.pointer (some ⟨b6, 0, none⟩)) rfl rfl ?_; intro a174 hF175; clear hF173
   refine gd hF175 (.int .i64 u0.Want) (m := 1) (cj := []) (bj := (decide (u0.Want < 8)) || (decide ((u0.Data.length : Int) < 6))) rfl rfl (by kernel_rfl) rfl (by kernel_rfl) (by kernel_rfl) (by kernel_rfl) (fun hg => ld hF175 hM79 0 (g := [1]) (b := b6) (off := 0) (cs := [.int .i64 u0.Want, .slice ao1 u0.Data.length cap2, .int .i64 u0.Next, .int .i64 u0.Block, .int .i64 u0.Left]) (ty := 71) rfl (by kernel_rfl) (by kernel_rfl) (by kernel_rfl) (by kernel_rfl) hg) ?_; intro a176 hF177; clear hF175
   refine gp hF177 64 1 [] ((decide (u0.Want < 8)) || (decide ((u0.Data.length : Int) < 6))) (.bool (decide ((u0.Data.length : Int) ≥ u0.Want))) rfl rfl ?_; intro a178 hF179; clear hF177
   refine st hF179 (.bool (((decide (u0.Want < 8)) || (decide ((u0.Data.length : Int) < 6))) || (decide ((u0.Data.length : Int) ≥ u0.Want)))) (nog rfl _) rfl (by kernel_rfl) (pk_or hF179 (g := []) (m := 1) (b := (decide (u0.Want < 8)) || (decide ((u0.Data.length : Int) < 6))) (v := decide ((u0.Data.length : Int) ≥ u0.Want)) rfl (by kernel_rfl) (by kernel_rfl) (by kernel_rfl) rfl) ?_; intro a180 hF181; clear hF179
   refine s1 hF181 66 (.bool (((decide (u0.Want < 8)) || (decide ((u0.Data.length : Int) < 6))) || (decide ((u0.Data.length : Int) ≥ u0.Want)))) ?_; intro a182 hF183; clear hF181
   have hF184 := hF183.atom ((((decide (u0.Want < 8)) || (decide ((u0.Data.length : Int) < 6))) || (decide ((u0.Data.length : Int) ≥ u0.Want))) == false) (by kernel_rfl); clear hF183
   refine gp hF184 67 2 [] (((decide (u0.Want < 8)) || (decide ((u0.Data.length : Int) < 6))) || (decide ((u0.Data.length : Int) ≥ u0.Want))) (.int .i64 (u0.Data.length : Int)) rfl rfl ?_; intro a185 hF186; clear hF184
   refine gp hF186 68 2 [] (((decide (u0.Want < 8)) || (decide ((u0.Data.length : Int) < 6))) || (decide ((u0.Data.length : Int) ≥ u0.Want))) (.int .i64 (w64 ((u0.Data.length : Int) - 6))) rfl rfl ?_; intro a187 hF188; clear hF186
   refine gp hF188 69 2 [] (((decide (u0.Want < 8)) || (decide ((u0.Data.length : Int) < 6))) || (decide ((u0.Data.length : Int) ≥ u0.Want))) (.int .i64 ((w64 ((u0.Data.length : Int) - 6)).tmod 7)) rfl rfl ?_; intro a189 hF190; clear hF188
   refine gp hF190 70 2 [] (((decide (u0.Want < 8)) || (decide ((u0.Data.length : Int) < 6))) || (decide ((u0.Data.length : Int) ≥ u0.Want))) (.bool (((w64 ((u0.Data.length : Int) - 6)).tmod 7) != 0)) rfl rfl ?_; intro a191 hF192; clear hF190
   refine st hF192 (.bool ((((decide (u0.Want < 8)) || (decide ((u0.Data.length : Int) < 6))) || (decide ((u0.Data.length : Int) ≥ u0.Want))) || (((w64 ((u0.Data.length : Int) - 6)).tmod 7) != 0))) (nog rfl _) rfl (by kernel_rfl) (pk_or hF192 (g := []) (m := 2) (b := ((decide (u0.Want < 8)) || (decide ((u0.Data.length : Int) < 6))) || (decide ((u0.Data.length : Int) ≥ u0.Want))) (v := ((w64 ((u0.Data.length : Int) - 6)).tmod 7) != 0) rfl (by kernel_rfl) (by kernel_rfl) (by kernel_rfl) rfl) ?_; intro a193 hF194; clear hF192
   refine s1 hF194 72 (.bool ((((decide (u0.Want < 8)) || (decide ((u0.Data.length : Int) < 6))) || (decide ((u0.Data.length : Int) ≥ u0.Want))) || (((w64 ((u0.Data.length : Int) - 6)).tmod 7) != 0))) ?_; intro a195 hF196; clear hF194
   have hF197 := hF196.atom (((((decide (u0.Want < 8)) || (decide ((u0.Data.length : Int) < 6))) || (decide ((u0.Data.length : Int) ≥ u0.Want))) || (((w64 ((u0.Data.length : Int) - 6)).tmod 7) != 0)) == false) (by kernel_rfl); clear hF196
   refine gp hF197 73 3 [] ((((decide (u0.Want < 8)) || (decide ((u0.Data.length : Int) < 6))) || (decide ((u0.Data.length : Int) ≥ u0.Want))) || (((w64 ((u0.Data.length : Int) - 6)).tmod 7) != 0)) (.pointer (some ⟨b6, 2, none⟩)) rfl rfl ?_; intro a198 hF199; clear hF197
   refine gd hF199 (.int .i64 u0.Next) (m := 3) (cj := []) (bj := (((decide (u0.Want < 8)) || (decide ((u0.Data.length : Int) < 6))) || (decide ((u0.Data.length : Int) ≥ u0.Want))) || (((w64 ((u0.Data.length : Int) - 6)).tmod 7) != 0)) rfl rfl (by kernel_rfl) rfl (by kernel_rfl) (by kernel_rfl) (by kernel_rfl) (fun hg => ld hF199 hM79 0 (g := [3]) (b := b6) (off := 2) (cs := [.int .i64 u0.Want, .slice ao1 u0.Data.length cap2, .int .i64 u0.Next, .int .i64 u0.Block, .int .i64 u0.Left]) (ty := 71) rfl (by kernel_rfl) (by kernel_rfl) (by kernel_rfl) (by kernel_rfl) hg) ?_; intro a200 hF201; clear hF199
   refine gp hF201 75 3 [] ((((decide (u0.Want < 8)) || (decide ((u0.Data.length : Int) < 6))) || (decide ((u0.Data.length : Int) ≥ u0.Want))) || (((w64 ((u0.Data.length : Int) - 6)).tmod 7) != 0)) (.int .i64 (u0.Data.length : Int)) rfl rfl ?_; intro a202 hF203; clear hF201
   refine gp hF203 76 3 [] ((((decide (u0.Want < 8)) || (decide ((u0.Data.length : Int) < 6))) || (decide ((u0.Data.length : Int) ≥ u0.Want))) || (((w64 ((u0.Data.length : Int) - 6)).tmod 7) != 0)) (.int .i64 (w64 ((u0.Data.length : Int) - 6))) rfl rfl ?_; intro a204 hF205; clear hF203
   refine gp hF205 77 3 [] ((((decide (u0.Want < 8)) || (decide ((u0.Data.length : Int) < 6))) || (decide ((u0.Data.length : Int) ≥ u0.Want))) || (((w64 ((u0.Data.length : Int) - 6)).tmod 7) != 0)) (.int .i64 (w64 ((w64 ((u0.Data.length : Int) - 6)).tdiv 7))) rfl rfl ?_; intro a206 hF207; clear hF205
   refine gp hF207 78 3 [] ((((decide (u0.Want < 8)) || (decide ((u0.Data.length : Int) < 6))) || (decide ((u0.Data.length : Int) ≥ u0.Want))) || (((w64 ((u0.Data.length : Int) - 6)).tmod 7) != 0)) (.int .i64 (w64 ((w64 ((w64 ((u0.Data.length : Int) - 6)).tdiv 7)) + 1))) rfl rfl ?_; intro a208 hF209; clear hF207
   refine gp hF209 79 3 [] ((((decide (u0.Want < 8)) || (decide ((u0.Data.length : Int) < 6))) || (decide ((u0.Data.length : Int) ≥ u0.Want))) || (((w64 ((u0.Data.length : Int) - 6)).tmod 7) != 0)) (.int .i64 ((w64 ((w64 ((w64 ((u0.Data.length : Int) - 6)).tdiv 7)) + 1)).tmod 16)) rfl rfl ?_; intro a210 hF211; clear hF209
   refine gp hF211 80 3 [] ((((decide (u0.Want < 8)) || (decide ((u0.Data.length : Int) < 6))) || (decide ((u0.Data.length : Int) ≥ u0.Want))) || (((w64 ((u0.Data.length : Int) - 6)).tmod 7) != 0)) (.bool (u0.Next != ((w64 ((w64 ((w64 ((u0.Data.length : Int) - 6)).tdiv 7)) + 1)).tmod 16))) rfl rfl ?_; intro a212 hF213; clear hF211
   refine st hF213 (.bool (((((decide (u0.Want < 8)) || (decide ((u0.Data.length : Int) < 6))) || (decide ((u0.Data.length : Int) ≥ u0.Want))) || (((w64 ((u0.Data.length : Int) - 6)).tmod 7) != 0)) || (u0.Next != ((w64 ((w64 ((w64 ((u0.Data.length : Int) - 6)).tdiv 7)) + 1)).tmod 16)))) (nog rfl _) rfl (by kernel_rfl) (pk_or hF213 (g := []) (m := 3) (b := (((decide (u0.Want < 8)) || (decide ((u0.Data.length : Int) < 6))) || (decide ((u0.Data.length : Int) ≥ u0.Want))) || (((w64 ((u0.Data.length : Int) - 6)).tmod 7) != 0)) (v := u0.Next != ((w64 ((w64 ((w64 ((u0.Data.length : Int) - 6)).tdiv 7)) + 1)).tmod 16)) rfl (by kernel_rfl) (by kernel_rfl) (by kernel_rfl) rfl) ?_; intro a214 hF215; clear hF213
   refine s1 hF215 82 (.bool (((((decide (u0.Want < 8)) || (decide ((u0.Data.length : Int) < 6))) || (decide ((u0.Data.length : Int) ≥ u0.Want))) || (((w64 ((u0.Data.length : Int) - 6)).tmod 7) != 0)) || (u0.Next != ((w64 ((w64 ((w64 ((u0.Data.length : Int) - 6)).tdiv 7)) + 1)).tmod 16)))) ?_; intro a216 hF217; clear hF215
   have hF218 := hF217.atom ((((((decide (u0.Want < 8)) || (decide ((u0.Data.length : Int) < 6))) || (decide ((u0.Data.length : Int) ≥ u0.Want))) || (((w64 ((u0.Data.length : Int) - 6)).tmod 7) != 0)) || (u0.Next != ((w64 ((w64 ((w64 ((u0.Data.length : Int) - 6)).tdiv 7)) + 1)).tmod 16))) == false) (by kernel_rfl); clear hF217
   refine gp hF218 83 4 [] (((((decide (u0.Want < 8)) || (decide ((u0.Data.length : Int) < 6))) || (decide ((u0.Data.length : Int) ≥ u0.Want))) || (((w64 ((u0.Data.length : Int) - 6)).tmod 7) != 0)) || (u0.Next != ((w64 ((w64 ((w64 ((u0.Data.length : Int) - 6)).tdiv 7)) + 1)).tmod 16))) (.pointer (some ⟨b6, 4, none⟩)) rfl rfl ?_; intro a219 hF220; clear hF218
   refine gd hF220 (.int .i64 u0.Left) (m := 4) (cj := []) (bj := ((((decide (u0.Want < 8)) || (decide ((u0.Data.length : Int) < 6))) || (decide ((u0.Data.length : Int) ≥ u0.Want))) || (((w64 ((u0.Data.length : Int) - 6)).tmod 7) != 0)) || (u0.Next != ((w64 ((w64 ((w64 ((u0.Data.length : Int) - 6)).tdiv 7)) + 1)).tmod 16))) rfl rfl (by kernel_rfl) rfl (by kernel_rfl) (by kernel_rfl) (by kernel_rfl) (fun hg => ld hF220 hM79 0 (g := [4]) (b := b6) (off := 4) (cs := [.int .i64 u0.Want, .slice ao1 u0.Data.length cap2, .int .i64 u0.Next, .int .i64 u0.Block, .int .i64 u0.Left]) (ty := 71) rfl (by kernel_rfl) (by kernel_rfl) (by kernel_rfl) (by kernel_rfl) hg) ?_; intro a221 hF222; clear hF220
   refine gp hF222 85 4 [] (((((decide (u0.Want < 8)) || (decide ((u0.Data.length : Int) < 6))) || (decide ((u0.Data.length : Int) ≥ u0.Want))) || (((w64 ((u0.Data.length : Int) - 6)).tmod 7) != 0)) || (u0.Next != ((w64 ((w64 ((w64 ((u0.Data.length : Int) - 6)).tdiv 7)) + 1)).tmod 16))) (.bool (u0.Left == 0)) rfl rfl ?_; intro a223 hF224; clear hF222
   refine gp hF224 86 4 [] (((((decide (u0.Want < 8)) || (decide ((u0.Data.length : Int) < 6))) || (decide ((u0.Data.length : Int) ≥ u0.Want))) || (((w64 ((u0.Data.length : Int) - 6)).tmod 7) != 0)) || (u0.Next != ((w64 ((w64 ((w64 ((u0.Data.length : Int) - 6)).tdiv 7)) + 1)).tmod 16))) (.bool (u0.Left == 0)) rfl rfl ?_; intro a225 hF226; clear hF224
   have hF227 := hF226.atom ((u0.Left == 0) == true) (by kernel_rfl); clear hF226
   refine gp hF227 87 5 [4] (u0.Left == 0) (.pointer (some ⟨b6, 3, none⟩)) rfl rfl ?_; intro a228 hF229; clear hF227
   refine gd hF229 (.int .i64 u0.Block) (m := 5) (cj := [4]) (bj := u0.Left == 0) rfl rfl (by kernel_rfl) rfl (by kernel_rfl) (by kernel_rfl) (by kernel_rfl) (fun hg => ld hF229 hM79 0 (g := [5, 4]) (b := b6) (off := 3) (cs := [.int .i64 u0.Want, .slice ao1 u0.Data.length cap2, .int .i64 u0.Next, .int .i64 u0.Block, .int .i64 u0.Left]) (ty := 71) rfl (by kernel_rfl) (by kernel_rfl) (by kernel_rfl) (by kernel_rfl) hg) ?_; intro a230 hF231; clear hF229
   refine gp hF231 89 5 [4] (u0.Left == 0) (.bool (u0.Block != 0)) rfl rfl ?_; intro a232 hF233; clear hF231
   refine gd hF233 (.bool ((u0.Left == 0) && (u0.Block != 0))) (m := 4) (cj := []) (bj := ((((decide (u0.Want < 8)) || (decide ((u0.Data.length : Int) < 6))) || (decide ((u0.Data.length : Int) ≥ u0.Want))) || (((w64 ((u0.Data.length : Int) - 6)).tmod 7) != 0)) || (u0.Next != ((w64 ((w64 ((w64 ((u0.Data.length : Int) - 6)).tdiv 7)) + 1)).tmod 16))) rfl rfl (by kernel_rfl) rfl (by kernel_rfl) (by kernel_rfl) (by kernel_rfl) (fun hg => pk_and hF233 (g := [4]) (m := 5) (b := u0.Left == 0) (v := u0.Block != 0) rfl (by kernel_rfl) (by kernel_rfl) (by kernel_rfl) hg) ?_; intro a234 hF235; clear hF233
   refine st hF235 (.bool ((((((decide (u0.Want < 8)) || (decide ((u0.Data.length : Int) < 6))) || (decide ((u0.Data.length : Int) ≥ u0.Want))) || (((w64 ((u0.Data.length : Int) - 6)).tmod 7) != 0)) || (u0.Next != ((w64 ((w64 ((w64 ((u0.Data.length : Int) - 6)).tdiv 7)) + 1)).tmod 16))) || ((u0.Left == 0) && (u0.Block != 0)))) (nog rfl _) rfl (by kernel_rfl) (pk_or hF235 (g := []) (m := 4) (b := ((((decide (u0.Want < 8)) || (decide ((u0.Data.length : Int) < 6))) || (decide ((u0.Data.length : Int) ≥ u0.Want))) || (((w64 ((u0.Data.length : Int) - 6)).tmod 7) != 0)) || (u0.Next != ((w64 ((w64 ((w64 ((u0.Data.length : Int) - 6)).tdiv 7)) + 1)).tmod 16))) (v := (u0.Left == 0) && (u0.Block != 0)) rfl (by kernel_rfl) (by kernel_rfl) (by kernel_rfl) rfl) ?_; intro a236 hF237; clear hF235
   refine nlH (hQ153 _ _ ?_); clear hQ153 hQ153Q
   refine cd hF237 (t := (((((decide (u0.Want < 8)) || (decide ((u0.Data.length : Int) < 6))) || (decide ((u0.Data.length : Int) ≥ u0.Want))) || (((w64 ((u0.Data.length : Int) - 6)).tmod 7) != 0)) || (u0.Next != ((w64 ((w64 ((w64 ((u0.Data.length : Int) - 6)).tdiv 7)) + 1)).tmod 16))) || ((u0.Left == 0) && (u0.Block != 0))) (by kernel_rfl) (fun hb238 => ?_) (fun hb238 => ?_)
   · -- yes
    have hp239 := hp143.1 hb238; clear hp143
    have hF240 : Fr 92 [] [] a236 := hF237.region (by kernel_rfl) (by kernel_rfl); clear hF237
    refine sqH ?_; intro hQ241Q hQ241
    refine s1 hF240 2 (.int .i64 4) ?_; intro a242 hF243; clear hF240
    refine nlH (hQ241 _ _ ?_); clear hQ241 hQ241Q
    refine wp_ret ?_
    refine thr ?_
    refine rt (fn := Try.f45) (v := .int .i64 4) hF243 (re1 hF243 (fn := Try.f45) rfl (by kernel_rfl)) ?_
    exact ⟨4, rfl, hp239, hM79.below⟩
   · -- no
    have hp244 := hp143.2 hb238; clear hp143
    refine wp_skip ?_
    refine thn ?_
    have hF245 : Fr 92 [] [] a236 := hF237.region (by kernel_rfl) (by kernel_rfl); clear hF237
    refine sqH ?_; intro hQ246Q hQ246
    refine s1 hF245 2 (.int .i64 0) ?_; intro a247 hF248; clear hF245
    refine nlH (hQ246 _ _ ?_); clear hQ246 hQ246Q
    refine wp_ret ?_
    refine rt (fn := Try.f45) (v := .int .i64 0) hF248 (re1 hF248 (fn := Try.f45) rfl (by kernel_rfl)) ?_
    exact ⟨0, rfl, hp244, hM79.below⟩
theorem rcheckg_fun (u0 : Getter) (ao1 : Option Addr) (cap2 : Nat) (Z : Fz) (w : World) (hs3 : SlR (tyInt .u8) Z ao1 cap2 u0.Data) (hZ : Z.on w) : Calls Try.prog 45 #[.agg #[.int .i64 u0.Want, .slice ao1 u0.Data.length cap2, .int .i64 u0.Next, .int .i64 u0.Block, .int .i64 u0.Left]] w fun e w' => e = .returned (.int .i64 (rcheckg u0)) ∧ Below w.heap.size w w' :=
  (rcheckg_walk u0 ao1 cap2 Z w hs3 hZ (rcheckg_ok u0)).mono fun _ _ ⟨r, he, hk, hb⟩ => ⟨by subst hk; exact he, hb⟩

set_option maxRecDepth 100000 in
theorem peqf_walk (u0 : List (List Int)) (u1 : List (List Int)) (u2 : (List Int) → (List Int) → Bool) (ao1 : Option Addr) (cap2 : Nat) (ao4 : Option Addr) (cap5 : Nat) (fid7 : Nat) (caps8 : Array Value) (Z : Fz) (w : World) (hs3 : SlR (tySl (tyInt .u8)) Z ao1 cap2 u0) (hs6 : SlR (tySl (tyInt .u8)) Z ao4 cap5 u1) (hf9 : ∀ (Z1 : Fz) (w1 : World), Z.le Z1 → Z1.on w1 → ∀ (x0 : List Int) (x1 : List Int) (xao0 : Option Addr) (xcap0 : Nat) (xao1 : Option Addr) (xcap1 : Nat), SlR (tyInt .u8) Z1 xao0 xcap0 x0 → SlR (tyInt .u8) Z1 xao1 xcap1 x1 → Calls Try.prog fid7 (#[.slice xao0 x0.length xcap0, .slice xao1 x1.length xcap1] ++ caps8) w1 fun e w2 => e = .returned (.bool (u2 x0 x1)) ∧ Below w1.heap.size w1 w2) (hg10 : ∀ x w, Sem.run Try.prog (callFunc fid7 x) w = .ok (.enter fid7 x) w) (hZ : Z.on w) {K : Bool → Prop} (hp : peqf_vc u0 u1 u2 K) : Calls Try.prog 60 #[.slice ao1 u0.length cap2, .slice ao4 u1.length cap5, .func (.func fid7) #[] caps8] w fun e w' => ∃ r : Bool, e = .returned (.bool r) ∧ K r ∧ Below w.heap.size w w' := by
 refine enter0 Try.func60 rfl rfl (by kernel_rfl) ?_; intro a0 hF0; have hM0 := Mem.start w Z hZ; have hle0 := Fz.le.refl Z
 have hp11 := hp (hs3.small); clear hp
 have hp12 := hp11 (hs6.small); clear hp11
 refine sqH ?_; intro hQ13Q hQ13
 refine s1 hF0 6 (.bool false) ?_; intro a14 hF15; clear hF0
 refine nlH (hQ13 _ _ ?_); clear hQ13 hQ13Q
 refine wp_seq ?_
 refine sqH ?_; intro hQ16Q hQ16
 refine s1 hF15 10 (.slice ao1 u0.length cap2) ?_; intro a17 hF18; clear hF15
 refine s1 hF18 11 (.int .i64 (u0.length : Int)) ?_; intro a19 hF20; clear hF18
 refine s1 hF20 12 (.slice ao4 u1.length cap5) ?_; intro a21 hF22; clear hF20
 refine s1 hF22 13 (.int .i64 (u1.length : Int)) ?_; intro a23 hF24; clear hF22
 refine s1 hF24 14 (.bool ((u0.length : Int) != (u1.length : Int))) ?_; intro a25 hF26; clear hF24
 refine nlH (hQ16 _ _ ?_); clear hQ16 hQ16Q
 refine cd hF26 (t := (u0.length : Int) != (u1.length : Int)) (by kernel_rfl) (fun hb27 => ?_) (fun hb27 => ?_)
 · -- yes
  have hp28 := hp12.1 hb27; clear hp12
  refine sqH ?_; intro hQ29Q hQ29
  refine s1 hF26 6 (.bool false) ?_; intro a30 hF31; clear hF26
  refine nlH (hQ29 _ _ ?_); clear hQ29 hQ29Q
  refine wp_ret ?_
  refine thr ?_
  refine rt (fn := Try.f60) (v := .bool false) hF31 (re1 hF31 (fn := Try.f60) rfl (by kernel_rfl)) ?_
  exact ⟨false, rfl, hp28, hM0.below⟩
 · -- no
  have hp32 := hp12.2 hb27; clear hp12
  refine wp_skip ?_
  refine thn ?_
  refine wp_seq ?_
  refine sqH ?_; intro hQ33Q hQ33
  refine s1 hF26 15 (.slice ao1 u0.length cap2) ?_; intro a34 hF35; clear hF26
  refine s1 hF35 16 (.int .i64 (u0.length : Int)) ?_; intro a36 hF37; clear hF35
  refine s1 hF37 17 (.int .i64 0) ?_; intro a38 hF39; clear hF37
  refine nlH (hQ33 _ _ ?_); clear hQ33 hQ33Q
  refine wp_block ?_
  have hF40 : Fr 32 [] [⟨1, [], .slice ao4 u1.length cap5⟩, ⟨2, [], .func (.func fid7) #[] caps8⟩, ⟨15, [], .slice ao1 u0.length cap2⟩, ⟨16, [], .int .i64 (u0.length : Int)⟩, ⟨17, [], .int .i64 0⟩] a38 := hF39.region (by kernel_rfl) (by kernel_rfl); clear hF39
  have hF42 : Fr 32 [] [⟨1, [], .slice ao4 u1.length cap5⟩, ⟨2, [], .func (.func fid7) #[] caps8⟩, ⟨15, [], .slice ao1 u0.length cap2⟩, ⟨16, [], .int .i64 (u0.length : Int)⟩, ⟨17, [], .int .i64 0⟩] a38 := hF40.region (by kernel_rfl) (by kernel_rfl); clear hF40
  obtain ⟨inv41, mu41, hI45, hr44⟩ := hp32
  refine lp (ι := Int) (fun (s : Int) => [⟨1, [], .slice ao4 u1.length cap5⟩, ⟨2, [], .func (.func fid7) #[] caps8⟩, ⟨15, [], .slice ao1 u0.length cap2⟩, ⟨16, [], .int .i64 (u0.length : Int)⟩, ⟨17, [], .int .i64 s⟩]) (fun (s : Int) => []) (fun (s : Int) => Z) (fun (s : Int) => inv41 s) (fun (s : Int) => mu41 s) 0 hI45 (by exact hF42.region (by kernel_rfl) (by kernel_rfl)) (by exact hM0) ?_
  rintro x17 hI43 a47 wd48 hF49 hM50
  have hF51 : Fr 32 [] [⟨1, [], .slice ao4 u1.length cap5⟩, ⟨2, [], .func (.func fid7) #[] caps8⟩, ⟨15, [], .slice ao1 u0.length cap2⟩, ⟨16, [], .int .i64 (u0.length : Int)⟩, ⟨17, [], .int .i64 x17⟩] a47 := hF49; clear hF49 hF42
  have hM52 : Mem w.heap.size [] w Z [] Z wd48 := hM50; clear hM50 hM0
  have hp53 := hr44 x17 hI43
  refine sqH ?_; intro hQ54Q hQ54
  refine s1 hF51 18 (.bool (decide (x17 < (u0.length : Int)))) ?_; intro a55 hF56; clear hF51
  refine nlH (hQ54 _ _ ?_); clear hQ54 hQ54Q
  refine wp_seq ?_
  refine cd hF56 (t := decide (x17 < (u0.length : Int))) (by kernel_rfl) (fun hb57 => ?_) (fun hb57 => ?_)
  · -- yes
   have hp58 := hp53.1 hb57; clear hp53
   refine wp_skip ?_
   refine thn ?_
   refine wp_seq ?_
   refine wp_block ?_
   refine sqH ?_; intro hQ59Q hQ59
   refine s1 hF56 19 (.int .i64 x17) ?_; intro a60 hF61; clear hF56
   have hc62 := hp58.1; have hp63 := hp58.2; clear hp58
   refine ix hF61 (T := (tySl (tyInt .u8))) (xs := u0) hs3 x17 hc62 (k := .i64) (e := 36) (bytes := 24) (nog rfl _) rfl (by kernel_rfl) rfl (by kernel_rfl) (by kernel_rfl) (by kernel_rfl) ?_; intro b64 off65 cs66 q67 a71 hq68 hP69 hT70 hF72; clear hF61
   have hp73 := hp63 q67 hq68; clear hp63
   obtain ⟨ao74, cap75, rfl, hs76⟩ := hT70
   have hp77 := hp73 (hs76.small); clear hp73
   refine z1 hF72 hM52 21 hP69 0 (.slice ao74 q67.length cap75) rfl ?_; intro a78 hF79; clear hF72
   refine s1 hF79 7 (.int .i64 x17) ?_; intro a80 hF81; clear hF79
   refine s1 hF81 8 (.slice ao74 q67.length cap75) ?_; intro a82 hF83; clear hF81
   refine nlH (hQ59 _ _ ?_); clear hQ59 hQ59Q
   refine sqH ?_; intro hQ84Q hQ84
   refine s1 hF83 22 (.slice ao4 u1.length cap5) ?_; intro a85 hF86; clear hF83
   refine s1 hF86 23 (.int .i64 x17) ?_; intro a87 hF88; clear hF86
   have hc89 := hp77.1; have hp90 := hp77.2; clear hp77
   refine ix hF88 (T := (tySl (tyInt .u8))) (xs := u1) hs6 x17 hc89 (k := .i64) (e := 36) (bytes := 24) (nog rfl _) rfl (by kernel_rfl) rfl (by kernel_rfl) (by kernel_rfl) (by kernel_rfl) ?_; intro b91 off92 cs93 q94 a98 hq95 hP96 hT97 hF99; clear hF88
   have hp100 := hp90 q94 hq95; clear hp90
   obtain ⟨ao101, cap102, rfl, hs103⟩ := hT97
   have hp104 := hp100 (hs103.small); clear hp100
   refine z1 hF99 hM52 25 hP96 0 (.slice ao101 q94.length cap102) rfl ?_; intro a105 hF106; clear hF99
   refine s1 hF106 9 (.slice ao101 q94.length cap102) ?_; intro a107 hF108; clear hF106
   refine nlH (hQ84 _ _ ?_); clear hQ84 hQ84Q
   refine sqH ?_; intro hQ109Q hQ109
   refine s1 hF108 26 (.func (.func fid7) #[] caps8) ?_; intro a110 hF111; clear hF108
   refine s1 hF111 27 (.slice ao74 q67.length cap75) ?_; intro a112 hF113; clear hF111
   refine s1 hF113 28 (.slice ao101 q94.length cap102) ?_; intro a114 hF115; clear hF113
   have hc120 := hf9 _ _ hle0 hM52.fz q67 q94 ao74 cap75 ao101 cap102 hs76 hs103
   refine fcl hF115 hM52 (.bool (u2 q67 q94)) fid7 (#[.slice ao74 q67.length cap75, .slice ao101 q94.length cap102] ++ caps8) (nog rfl _) rfl (by kernel_rfl) ?h1 ?h2 ?_
   case h1 => exact fv_run rfl (by kernel_rfl) (by kernel_rfl) hg10
   case h2 => exact hc120
   intro a116 wd118 hF117 hM119; clear hF115 hM52
   refine s1 hF117 30 (.bool (!(u2 q67 q94))) ?_; intro a121 hF122; clear hF117
   refine nlH (hQ109 _ _ ?_); clear hQ109 hQ109Q
   refine cd hF122 (t := !(u2 q67 q94)) (by kernel_rfl) (fun hb123 => ?_) (fun hb123 => ?_)
   · -- yes
    have hp124 := hp104.1 hb123; clear hp104
    have hF125 : Fr 32 [] [] a121 := hF122.region (by kernel_rfl) (by kernel_rfl); clear hF122
    refine sqH ?_; intro hQ126Q hQ126
    refine s1 hF125 6 (.bool false) ?_; intro a127 hF128; clear hF125
    refine nlH (hQ126 _ _ ?_); clear hQ126 hQ126Q
    refine wp_ret ?_
    refine ibr ?_
    refine thr ?_
    refine thr ?_
    refine ibr ?_
    refine thr ?_
    refine rt (fn := Try.f60) (v := .bool false) hF128 (re1 hF128 (fn := Try.f60) rfl (by kernel_rfl)) ?_
    exact ⟨false, rfl, hp124, hM119.below⟩
   · -- no
    have hp129 := hp104.2 hb123; clear hp104
    refine wp_skip ?_
    refine ibn ?_
    refine thn ?_
    have hF130 : Fr 32 [] [⟨1, [], .slice ao4 u1.length cap5⟩, ⟨2, [], .func (.func fid7) #[] caps8⟩, ⟨15, [], .slice ao1 u0.length cap2⟩, ⟨16, [], .int .i64 (u0.length : Int)⟩, ⟨17, [], .int .i64 x17⟩] a121 := hF122.region (by kernel_rfl) (by kernel_rfl); clear hF122
    refine rgH ?_; intro hQ131Q hQ131
    refine s1 hF130 31 (.int .i64 (w64 (x17 + 1))) ?_; intro a132 hF133; clear hF130
    refine s1 hF133 17 (.int .i64 (w64 (x17 + 1))) ?_; intro a134 hF135; clear hF133
    refine nlH (hQ131 _ _ ?_); clear hQ131 hQ131Q
    refine rd ?_
    exact ⟨w64 (x17 + 1), hp129.1, hp129.2, (hF135.region (by kernel_rfl) (by kernel_rfl)).anyβ _ (by kernel_rfl), hM119.keep (List.Sublist.slnil)⟩
  · -- no
   have hp136 := hp53.2 hb57; clear hp53
   refine wp_exit ?_
   refine thx ?_
   refine thx ?_
   refine ibx ?_
   refine thn ?_
   refine sqH ?_; intro hQ137Q hQ137
   refine s1 hF56 6 (.bool true) ?_; intro a138 hF139; clear hF56
   refine nlH (hQ137 _ _ ?_); clear hQ137 hQ137Q
   refine wp_ret ?_
   refine rt (fn := Try.f60) (v := .bool true) hF139 (re1 hF139 (fn := Try.f60) rfl (by kernel_rfl)) ?_
   exact ⟨true, rfl, hp136, hM52.below⟩

end Go.Proofs.Ytkogkombalcgeaa
