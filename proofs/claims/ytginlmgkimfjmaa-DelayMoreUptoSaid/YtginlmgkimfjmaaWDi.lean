/- The walks, made by program: each call does what its pure predicate says. -/
import Derived.Test.YtginlmgkimfjmaaPDi
import Derived.Test.YtginlmgkimfjmaaWDh
set_option linter.unusedVariables false
set_option linter.unusedSimpArgs false
namespace Go.Proofs.Ytginlmgkimfjmaa
open Go.Sy Go.RowKit
theorem dworst_fun (u0 : List Task) (u1 : Int) (hpre : dcheckS u0 = 0 ∧ 0 ≤ u1 ∧ u1 < (u0.length : Int)) (ao1 : Option Addr) (cap2 : Nat) (Z : Fz) (w : World) (hs3 : SlR tyTask Z ao1 cap2 u0) (hZ : Z.on w) : Calls Try.prog 48 #[.slice ao1 u0.length cap2, .int .i64 u1] w fun e w' => e = .returned (.int .i64 (worstS u0 u1)) ∧ Below w.heap.size w w' :=
  (dworst_walk u0 u1 ao1 cap2 Z w hs3 hZ (dworst_ok2 u0 u1 hpre)).mono fun _ _ ⟨r, he, hk, hb⟩ => ⟨by subst hk; exact he, hb⟩

set_option maxRecDepth 100000 in
set_option maxHeartbeats 0 in
theorem dWorst_walk (u0 : List Task) (ao1 : Option Addr) (cap2 : Nat) (Z : Fz) (w : World) (hs3 : SlR tyTask Z ao1 cap2 u0) (hZ : Z.on w) {K : ((List Stop) × Int) → Prop} (hp : dWorst_vc u0 K) : Calls Try.prog 15 #[.slice ao1 u0.length cap2] w fun e w' => ∃ (r : (List Stop) × Int) (ao1001 : Option Addr) (cap1002 : Nat) (Z' : Fz), e = .returned (.tuple #[.slice ao1001 r.1.length cap1002, .int .i64 r.2]) ∧ K r ∧ Mem w.heap.size [] w Z [.own tyStop 40 ao1001 cap1002 r.1] Z' w' := by
 refine enter0 Try.func15 rfl rfl (by kernel_rfl) ?_; intro a0 hF0; have hM0 := Mem.start w Z hZ; have hle0 := Fz.le.refl Z
 have hp4 := hp (hs3.small); clear hp
 refine sqH ?_; intro hQ5Q hQ5
 refine s1 hF0 2 (.slice none 0 0) ?_; intro a6 hF7; clear hF0
 refine s1 hF7 3 (.int .i64 0) ?_; intro a8 hF9; clear hF7
 refine nlH (hQ5 _ _ ?_); clear hQ5 hQ5Q
 refine wp_seq ?_
 refine sqH ?_; intro hQ10Q hQ10
 refine s1 hF9 9 (.slice ao1 u0.length cap2) ?_; intro a11 hF12; clear hF9
 refine fcl hF12 hM0 (.int .i64 (dcheckS u0)) 47 #[.slice ao1 u0.length cap2] (nog rfl _) rfl (by kernel_rfl) (fun _ => by kernel_rfl) (dcheck_fun u0 ao1 cap2 _ _ hs3 hM0.fz) ?_; intro a13 wd15 hF14 hM16; clear hF12 hM0
 refine s1 hF14 4 (.int .i64 (dcheckS u0)) ?_; intro a17 hF18; clear hF14
 refine nlH (hQ10 _ _ ?_); clear hQ10 hQ10Q
 refine sqH ?_; intro hQ19Q hQ19
 refine s1 hF18 11 (.int .i64 (dcheckS u0)) ?_; intro a20 hF21; clear hF18
 refine s1 hF21 12 (.bool ((dcheckS u0) != 0)) ?_; intro a22 hF23; clear hF21
 refine nlH (hQ19 _ _ ?_); clear hQ19 hQ19Q
 refine cd hF23 (t := (dcheckS u0) != 0) (by kernel_rfl) (fun hb24 => ?_) (fun hb24 => ?_)
 · -- yes
  have hp25 := hp4.1 hb24; clear hp4
  refine sqH ?_; intro hQ26Q hQ26
  refine s1 hF23 13 (.int .i64 (dcheckS u0)) ?_; intro a27 hF28; clear hF23
  refine s1 hF28 2 (.slice none 0 0) ?_; intro a29 hF30; clear hF28
  refine s1 hF30 3 (.int .i64 (dcheckS u0)) ?_; intro a31 hF32; clear hF30
  refine nlH (hQ26 _ _ ?_); clear hQ26 hQ26Q
  refine wp_ret ?_
  refine thr ?_
  have hM33 : Mem w.heap.size [] w Z [.own tyStop 40 none 0 ([] : List Stop)] Z wd15 := hM16.addNil tyStop 40 (by decide); clear hM16
  refine rt (fn := Try.f15) (v := .tuple #[.slice none ([] : List Stop).length 0, .int .i64 (dcheckS u0)]) hF32 (re2 hF32 (fn := Try.f15) rfl (by kernel_rfl) (by kernel_rfl)) ?_
  exact ⟨(([] : List Stop), (dcheckS u0)), none, 0, Z, rfl, hp25, hM33.keep (List.Sublist.cons_cons _ (List.Sublist.slnil))⟩
 · -- no
  have hp34 := hp4.2 hb24; clear hp4
  refine wp_skip ?_
  refine thn ?_
  refine sqH ?_; intro hQ35Q hQ35
  refine s1 hF23 5 (.slice none 0 0) ?_; intro a36 hF37; clear hF23
  refine nlH (hQ35 _ _ ?_); clear hQ35 hQ35Q
  refine wp_seq ?_
  refine sqH ?_; intro hQ38Q hQ38
  refine s1 hF37 14 (.slice ao1 u0.length cap2) ?_; intro a39 hF40; clear hF37
  refine s1 hF40 15 (.int .i64 (u0.length : Int)) ?_; intro a41 hF42; clear hF40
  refine s1 hF42 16 (.int .i64 0) ?_; intro a43 hF44; clear hF42
  refine nlH (hQ38 _ _ ?_); clear hQ38 hQ38Q
  refine wp_block ?_
  have hF45 : Fr 39 [] [⟨0, [], .slice ao1 u0.length cap2⟩, ⟨5, [], .slice none 0 0⟩, ⟨14, [], .slice ao1 u0.length cap2⟩, ⟨15, [], .int .i64 (u0.length : Int)⟩, ⟨16, [], .int .i64 0⟩] a43 := hF44.region (by kernel_rfl) (by kernel_rfl); clear hF44
  have hM47 : Mem w.heap.size [] w Z [.own tyStop 40 none 0 ([] : List Stop)] Z wd15 := hM16.addNil tyStop 40 (by decide); clear hM16
  have hF48 : Fr 39 [] [⟨0, [], .slice ao1 u0.length cap2⟩, ⟨5, [], .slice none ([] : List Stop).length 0⟩, ⟨14, [], .slice ao1 u0.length cap2⟩, ⟨15, [], .int .i64 (u0.length : Int)⟩, ⟨16, [], .int .i64 0⟩] a43 := hF45.region (by kernel_rfl) (by kernel_rfl); clear hF45
  obtain ⟨inv46, mu46, hI51, hr50⟩ := hp34
  refine lp (ι := (List Stop) × Int × (Option Addr) × Nat) (fun (s : (List Stop) × Int × (Option Addr) × Nat) => [⟨0, [], .slice ao1 u0.length cap2⟩, ⟨5, [], .slice s.2.2.1 s.1.length s.2.2.2⟩, ⟨14, [], .slice ao1 u0.length cap2⟩, ⟨15, [], .int .i64 (u0.length : Int)⟩, ⟨16, [], .int .i64 s.2.1⟩]) (fun (s : (List Stop) × Int × (Option Addr) × Nat) => [.own tyStop 40 s.2.2.1 s.2.2.2 s.1]) (fun (s : (List Stop) × Int × (Option Addr) × Nat) => Z) (fun (s : (List Stop) × Int × (Option Addr) × Nat) => inv46 s.1 s.2.1) (fun (s : (List Stop) × Int × (Option Addr) × Nat) => mu46 s.1 s.2.1) ⟨([] : List Stop), 0, none, 0⟩ hI51 (by exact hF48.region (by kernel_rfl) (by kernel_rfl)) (by exact hM47) ?_
  rintro ⟨x5, x16, aox5, capx5⟩ hI49 a53 wd54 hF55 hM56
  have hF57 : Fr 39 [] [⟨0, [], .slice ao1 u0.length cap2⟩, ⟨5, [], .slice aox5 x5.length capx5⟩, ⟨14, [], .slice ao1 u0.length cap2⟩, ⟨15, [], .int .i64 (u0.length : Int)⟩, ⟨16, [], .int .i64 x16⟩] a53 := hF55; clear hF55 hF48
  have hM58 : Mem w.heap.size [] w Z [.own tyStop 40 aox5 capx5 x5] Z wd54 := hM56; clear hM56 hM47
  have hp59 := hr50 x5 x16 hI49
  refine sqH ?_; intro hQ60Q hQ60
  refine s1 hF57 17 (.bool (decide (x16 < (u0.length : Int)))) ?_; intro a61 hF62; clear hF57
  refine nlH (hQ60 _ _ ?_); clear hQ60 hQ60Q
  refine wp_seq ?_
  refine cd hF62 (t := decide (x16 < (u0.length : Int))) (by kernel_rfl) (fun hb63 => ?_) (fun hb63 => ?_)
  · -- yes
   have hp64 := hp59.1 hb63; clear hp59
   refine wp_skip ?_
   refine thn ?_
   refine wp_seq ?_
   refine wp_block ?_
   refine sqH ?_; intro hQ65Q hQ65
   refine s1 hF62 18 (.int .i64 x16) ?_; intro a66 hF67; clear hF62
   have hc68 := hp64.1; have hp69 := hp64.2; clear hp64
   refine ix hF67 (T := tyTask) (xs := u0) hs3 x16 hc68 (k := .i64) (e := 34) (bytes := 40) (nog rfl _) rfl (by kernel_rfl) rfl (by kernel_rfl) (by kernel_rfl) (by kernel_rfl) ?_; intro b70 off71 cs72 q73 a77 hq74 hP75 hT76 hF78; clear hF67
   have hp79 := hp69 q73 hq74; clear hp69
   obtain rfl : cs72 = ([.int .i64 q73.ID, .int .i64 q73.Bytes, .int .i64 q73.Every, .int .i64 q73.Late, .int .i64 q73.Jitter] : List Value) := hT76
   refine z2 hF78 hM58 20 hP75 0 5 [.int .i64 q73.ID, .int .i64 q73.Bytes, .int .i64 q73.Every, .int .i64 q73.Late, .int .i64 q73.Jitter] rfl ?_; intro a80 hF81; clear hF78
   refine sn hF81 hM58 (fun b => .pointer (some ⟨b, 0, none⟩)) [.int .i64 0, .int .i64 0, .int .i64 0, .int .i64 0, .int .i64 0] 34 (nog rfl _) rfl (by kernel_rfl) (by kernel_rfl) ?_; intro b82 a83 wd85 hF84 hM86; clear hF81 hM58
   refine s1 hF84 6 (.int .i64 x16) ?_; intro a87 hF88; clear hF84
   refine sr hF88 hM86 0 [.int .i64 q73.ID, .int .i64 q73.Bytes, .int .i64 q73.Every, .int .i64 q73.Late, .int .i64 q73.Jitter] (b := b82) (off := 0) (cs := [.int .i64 0, .int .i64 0, .int .i64 0, .int .i64 0, .int .i64 0]) (ty := 34) (u := .agg #[.int .i64 q73.ID, .int .i64 q73.Bytes, .int .i64 q73.Every, .int .i64 q73.Late, .int .i64 q73.Jitter]) (nog rfl _) rfl rfl (by kernel_rfl) (by kernel_rfl) (by kernel_rfl) (by kernel_rfl) (by kernel_rfl) (by kernel_rfl) (by kernel_rfl) ?_; intro wd89 hM90; clear hM86
   have hM91 : Mem w.heap.size [] w Z [.row b82 [.int .i64 q73.ID, .int .i64 q73.Bytes, .int .i64 q73.Every, .int .i64 q73.Late, .int .i64 q73.Jitter] 34, .own tyStop 40 aox5 capx5 x5] Z wd89 := hM90; clear hM90
   refine nlH (hQ65 _ _ ?_); clear hQ65 hQ65Q
   refine sqH ?_; intro hQ92Q hQ92
   refine s1 hF88 21 (.slice ao1 u0.length cap2) ?_; intro a93 hF94; clear hF88
   refine s1 hF94 22 (.int .i64 x16) ?_; intro a95 hF96; clear hF94
   have hc97 := hp79.1; have hp98 := hp79.2; clear hp79
   refine fcl hF96 hM91 (.int .i64 (worstS u0 x16)) 48 #[.slice ao1 u0.length cap2, .int .i64 x16] (nog rfl _) rfl (by kernel_rfl) (fun _ => by kernel_rfl) (dworst_fun u0 x16 hc97 ao1 cap2 _ _ hs3 hM91.fz) ?_; intro a99 wd101 hF100 hM102; clear hF96 hM91
   refine s1 hF100 8 (.int .i64 (worstS u0 x16)) ?_; intro a103 hF104; clear hF100
   refine nlH (hQ92 _ _ ?_); clear hQ92 hQ92Q
   refine rgH ?_; intro hQ105Q hQ105
   refine s1 hF104 24 (.slice aox5 x5.length capx5) ?_; intro a106 hF107; clear hF104
   refine s1 hF107 25 (.int .i64 (worstS u0 x16)) ?_; intro a108 hF109; clear hF107
   refine s1 hF109 26 (.int .i64 (worstS u0 x16)) ?_; intro a110 hF111; clear hF109
   refine s1 hF111 27 (.bool (decide ((worstS u0 x16) ≥ 0))) ?_; intro a112 hF113; clear hF111
   refine s1 hF113 28 (.bool (decide ((worstS u0 x16) ≥ 0))) ?_; intro a114 hF115; clear hF113
   have hF116 := hF115.atom ((decide ((worstS u0 x16) ≥ 0)) == true) (by kernel_rfl); clear hF115
   refine gp hF116 29 0 [] (decide ((worstS u0 x16) ≥ 0)) (.int .i64 (worstS u0 x16)) rfl rfl ?_; intro a117 hF118; clear hF116
   refine gp hF118 30 0 [] (decide ((worstS u0 x16) ≥ 0)) (.pointer (some ⟨b82, 3, none⟩)) rfl rfl ?_; intro a119 hF120; clear hF118
   refine gd hF120 (.int .i64 q73.Late) (m := 0) (cj := []) (bj := decide ((worstS u0 x16) ≥ 0)) rfl rfl (by kernel_rfl) rfl (by kernel_rfl) (by kernel_rfl) (by kernel_rfl) (fun hg => ld hF120 hM102 0 (g := [0]) (b := b82) (off := 3) (cs := [.int .i64 q73.ID, .int .i64 q73.Bytes, .int .i64 q73.Every, .int .i64 q73.Late, .int .i64 q73.Jitter]) (ty := 34) rfl (by kernel_rfl) (by kernel_rfl) (by kernel_rfl) (by kernel_rfl) hg) ?_; intro a121 hF122; clear hF120
   refine gp hF122 32 0 [] (decide ((worstS u0 x16) ≥ 0)) (.bool (decide ((worstS u0 x16) ≤ q73.Late))) rfl rfl ?_; intro a123 hF124; clear hF122
   refine st hF124 (.bool ((decide ((worstS u0 x16) ≥ 0)) && (decide ((worstS u0 x16) ≤ q73.Late)))) (nog rfl _) rfl (by kernel_rfl) (pk_and hF124 (g := []) (m := 0) (b := decide ((worstS u0 x16) ≥ 0)) (v := decide ((worstS u0 x16) ≤ q73.Late)) rfl (by kernel_rfl) (by kernel_rfl) (by kernel_rfl) rfl) ?_; intro a125 hF126; clear hF124
   refine s1 hF126 34 (.agg #[.int .i64 (worstS u0 x16), .bool ((decide ((worstS u0 x16) ≥ 0)) && (decide ((worstS u0 x16) ≤ q73.Late)))]) ?_; intro a127 hF128; clear hF126
   refine sn hF128 hM102 (fun b => .slice (some ⟨b, 0, none⟩) 1 1) [.int .i64 (worstS u0 x16), .bool ((decide ((worstS u0 x16) ≥ 0)) && (decide ((worstS u0 x16) ≤ q73.Late)))] 40 (nog rfl _) rfl (by kernel_rfl) (by kernel_rfl) ?_; intro b129 a130 wd132 hF131 hM133; clear hF128 hM102
   have hc134 := hp98.1; have hp135 := hp98.2; clear hp98
   refine ap hF131 hM133 2 (T := tyStop) (xs := x5) (ys := [(⟨(worstS u0 x16), (decide ((worstS u0 x16) ≥ 0)) && (decide ((worstS u0 x16) ≤ q73.Late))⟩ : Stop)]) (ao := aox5) (cap := capx5) (ao2 := (some ⟨b129, 0, none⟩)) (cap2 := 1) (t := 35) (e := 40) (bytes := 16) (nog rfl _) rfl (by kernel_rfl) rfl (by kernel_rfl) (by kernel_rfl) (by kernel_rfl) rfl (Src.row hM133 0 rfl (RepAll.one (T := tyStop) (x := (⟨(worstS u0 x16), (decide ((worstS u0 x16) ≥ 0)) && (decide ((worstS u0 x16) ≤ q73.Late))⟩ : Stop)) rfl)) hc134 ?_; intro ao136 cap137 a141 wd138 hnil139 hF142 hM140; clear hF131 hM133
   have hM143 : Mem w.heap.size [] w Z [.row b129 [.int .i64 (worstS u0 x16), .bool ((decide ((worstS u0 x16) ≥ 0)) && (decide ((worstS u0 x16) ≤ q73.Late)))] 40, .row b82 [.int .i64 q73.ID, .int .i64 q73.Bytes, .int .i64 q73.Every, .int .i64 q73.Late, .int .i64 q73.Jitter] 34, .own tyStop 40 ao136 cap137 (x5 ++ [(⟨(worstS u0 x16), (decide ((worstS u0 x16) ≥ 0)) && (decide ((worstS u0 x16) ≤ q73.Late))⟩ : Stop)])] Z wd138 := hM140; clear hM140
   refine s1 hF142 5 (.slice ao136 (x5 ++ [(⟨(worstS u0 x16), (decide ((worstS u0 x16) ≥ 0)) && (decide ((worstS u0 x16) ≤ q73.Late))⟩ : Stop)]).length cap137) ?_; intro a144 hF145; clear hF142
   refine nlH (hQ105 _ _ ?_); clear hQ105 hQ105Q
   refine ibn ?_
   refine thn ?_
   have hF146 : Fr 39 [] [⟨0, [], .slice ao1 u0.length cap2⟩, ⟨5, [], .slice ao136 (x5 ++ [(⟨(worstS u0 x16), (decide ((worstS u0 x16) ≥ 0)) && (decide ((worstS u0 x16) ≤ q73.Late))⟩ : Stop)]).length cap137⟩, ⟨14, [], .slice ao1 u0.length cap2⟩, ⟨15, [], .int .i64 (u0.length : Int)⟩, ⟨16, [], .int .i64 x16⟩] a144 := hF145.region (by kernel_rfl) (by kernel_rfl); clear hF145
   refine rgH ?_; intro hQ147Q hQ147
   refine s1 hF146 37 (.int .i64 (w64 (x16 + 1))) ?_; intro a148 hF149; clear hF146
   refine s1 hF149 16 (.int .i64 (w64 (x16 + 1))) ?_; intro a150 hF151; clear hF149
   refine nlH (hQ147 _ _ ?_); clear hQ147 hQ147Q
   refine rd ?_
   exact ⟨⟨x5 ++ [(⟨(worstS u0 x16), (decide ((worstS u0 x16) ≥ 0)) && (decide ((worstS u0 x16) ≤ q73.Late))⟩ : Stop)], w64 (x16 + 1), ao136, cap137⟩, hp135.1, hp135.2, (hF151.region (by kernel_rfl) (by kernel_rfl)).anyβ _ (by kernel_rfl), hM143.keep (List.Sublist.cons _ (List.Sublist.cons _ (List.Sublist.cons_cons _ (List.Sublist.slnil))))⟩
  · -- no
   have hp152 := hp59.2 hb63; clear hp59
   refine wp_exit ?_
   refine thx ?_
   refine thx ?_
   refine ibx ?_
   refine thn ?_
   refine sqH ?_; intro hQ153Q hQ153
   refine s1 hF62 38 (.slice aox5 x5.length capx5) ?_; intro a154 hF155; clear hF62
   refine s1 hF155 2 (.slice aox5 x5.length capx5) ?_; intro a156 hF157; clear hF155
   refine s1 hF157 3 (.int .i64 0) ?_; intro a158 hF159; clear hF157
   refine nlH (hQ153 _ _ ?_); clear hQ153 hQ153Q
   refine wp_ret ?_
   refine rt (fn := Try.f15) (v := .tuple #[.slice aox5 x5.length capx5, .int .i64 0]) hF159 (re2 hF159 (fn := Try.f15) rfl (by kernel_rfl) (by kernel_rfl)) ?_
   exact ⟨(x5, 0), aox5, capx5, Z, rfl, hp152, hM58.keep (List.Sublist.cons_cons _ (List.Sublist.slnil))⟩

set_option maxRecDepth 100000 in
set_option maxHeartbeats 0 in
theorem dtasks_walk   (Z : Fz) (w : World)  (hZ : Z.on w) {K : (List Task) → Prop} (hp : dtasks_vc  K) : Calls Try.prog 49 #[] w fun e w' => ∃ (r : (List Task)) (ao1001 : Option Addr) (cap1002 : Nat) (Z' : Fz), e = .returned (.slice ao1001 r.length cap1002) ∧ K r ∧ Mem w.heap.size [] w Z [.own tyTask 34 ao1001 cap1002 r] Z' w' := by
 refine enter0 Try.func49 rfl rfl (by kernel_rfl) ?_; intro a0 hF0; have hM0 := Mem.start w Z hZ; have hle0 := Fz.le.refl Z
 refine sqH ?_; intro hQ1Q hQ1
 refine s1 hF0 0 (.slice none 0 0) ?_; intro a2 hF3; clear hF0
 refine nlH (hQ1 _ _ ?_); clear hQ1 hQ1Q
 refine sqH ?_; intro hQ4Q hQ4
 refine s1 hF3 1 (.agg #[.int .i64 1, .int .i64 8, .int .i64 1000, .int .i64 1000, .int .i64 0]) ?_; intro a5 hF6; clear hF3
 refine s1 hF6 2 (.agg #[.int .i64 2, .int .i64 8, .int .i64 1000, .int .i64 1000, .int .i64 0]) ?_; intro a7 hF8; clear hF6
 refine sn hF8 hM0 (fun b => .slice (some ⟨b, 0, none⟩) 2 2) [.int .i64 1, .int .i64 8, .int .i64 1000, .int .i64 1000, .int .i64 0, .int .i64 2, .int .i64 8, .int .i64 1000, .int .i64 1000, .int .i64 0] 34 (nog rfl _) rfl (by kernel_rfl) (by kernel_rfl) ?_; intro b9 a10 wd12 hF11 hM13; clear hF8 hM0
 refine s1 hF11 0 (.slice (some ⟨b9, 0, none⟩) 2 2) ?_; intro a14 hF15; clear hF11
 refine nlH (hQ4 _ _ ?_); clear hQ4 hQ4Q
 refine wp_ret ?_
 have hM16 : Mem w.heap.size [] w Z [.own tyTask 34 (some ⟨b9, 0, none⟩) 2 ([(⟨1, 8, 1000, 1000, 0⟩ : Task), (⟨2, 8, 1000, 1000, 0⟩ : Task)] : List Task)] Z wd12 := hM13.rowOwn (T := tyTask) (xs := ([(⟨1, 8, 1000, 1000, 0⟩ : Task), (⟨2, 8, 1000, 1000, 0⟩ : Task)] : List Task)) 0 rfl (by decide) (by show 2 ≤ lim; decide) ((RepAll.one (T := tyTask) (x := (⟨1, 8, 1000, 1000, 0⟩ : Task)) rfl).append (RepAll.one (T := tyTask) (x := (⟨2, 8, 1000, 1000, 0⟩ : Task)) rfl)); clear hM13
 refine rt (fn := Try.f49) (v := .slice (some ⟨b9, 0, none⟩) ([(⟨1, 8, 1000, 1000, 0⟩ : Task), (⟨2, 8, 1000, 1000, 0⟩ : Task)] : List Task).length 2) hF15 (re1 hF15 (fn := Try.f49) rfl (by kernel_rfl)) ?_
 exact ⟨([(⟨1, 8, 1000, 1000, 0⟩ : Task), (⟨2, 8, 1000, 1000, 0⟩ : Task)] : List Task), (some ⟨b9, 0, none⟩), 2, Z, rfl, hp, hM16.keep (List.Sublist.cons_cons _ (List.Sublist.slnil))⟩

set_option maxRecDepth 100000 in
set_option maxHeartbeats 0 in
theorem stopeq_walk (u0 : List Stop) (u1 : List Stop) (ao1 : Option Addr) (cap2 : Nat) (ao4 : Option Addr) (cap5 : Nat) (Z : Fz) (w : World) (hs3 : SlR tyStop Z ao1 cap2 u0) (hs6 : SlR tyStop Z ao4 cap5 u1) (hZ : Z.on w) {K : Bool → Prop} (hp : stopeq_vc u0 u1 K) : Calls Try.prog 50 #[.slice ao1 u0.length cap2, .slice ao4 u1.length cap5] w fun e w' => ∃ r : Bool, e = .returned (.bool r) ∧ K r ∧ Below w.heap.size w w' := by
 refine enter0 Try.func50 rfl rfl (by kernel_rfl) ?_; intro a0 hF0; have hM0 := Mem.start w Z hZ; have hle0 := Fz.le.refl Z
 have hp7 := hp (hs3.small); clear hp
 have hp8 := hp7 (hs6.small); clear hp7
 refine sqH ?_; intro hQ9Q hQ9
 refine s1 hF0 4 (.bool false) ?_; intro a10 hF11; clear hF0
 refine nlH (hQ9 _ _ ?_); clear hQ9 hQ9Q
 refine wp_seq ?_
 refine sqH ?_; intro hQ12Q hQ12
 refine s1 hF11 6 (.slice ao1 u0.length cap2) ?_; intro a13 hF14; clear hF11
 refine s1 hF14 7 (.int .i64 (u0.length : Int)) ?_; intro a15 hF16; clear hF14
 refine s1 hF16 8 (.slice ao4 u1.length cap5) ?_; intro a17 hF18; clear hF16
 refine s1 hF18 9 (.int .i64 (u1.length : Int)) ?_; intro a19 hF20; clear hF18
 refine s1 hF20 10 (.bool ((u0.length : Int) != (u1.length : Int))) ?_; intro a21 hF22; clear hF20
 refine nlH (hQ12 _ _ ?_); clear hQ12 hQ12Q
 refine cd hF22 (t := (u0.length : Int) != (u1.length : Int)) (by kernel_rfl) (fun hb23 => ?_) (fun hb23 => ?_)
 · -- yes
  have hp24 := hp8.1 hb23; clear hp8
  refine sqH ?_; intro hQ25Q hQ25
  refine s1 hF22 4 (.bool false) ?_; intro a26 hF27; clear hF22
  refine nlH (hQ25 _ _ ?_); clear hQ25 hQ25Q
  refine wp_ret ?_
  refine thr ?_
  refine rt (fn := Try.f50) (v := .bool false) hF27 (re1 hF27 (fn := Try.f50) rfl (by kernel_rfl)) ?_
  exact ⟨false, rfl, hp24, hM0.below⟩
 · -- no
  have hp28 := hp8.2 hb23; clear hp8
  refine wp_skip ?_
  refine thn ?_
  refine wp_seq ?_
  refine sqH ?_; intro hQ29Q hQ29
  refine s1 hF22 11 (.slice ao1 u0.length cap2) ?_; intro a30 hF31; clear hF22
  refine s1 hF31 12 (.int .i64 (u0.length : Int)) ?_; intro a32 hF33; clear hF31
  refine s1 hF33 13 (.int .i64 0) ?_; intro a34 hF35; clear hF33
  refine nlH (hQ29 _ _ ?_); clear hQ29 hQ29Q
  refine wp_block ?_
  have hF36 : Fr 26 [] [⟨0, [], .slice ao1 u0.length cap2⟩, ⟨1, [], .slice ao4 u1.length cap5⟩, ⟨12, [], .int .i64 (u0.length : Int)⟩, ⟨13, [], .int .i64 0⟩] a34 := hF35.region (by kernel_rfl) (by kernel_rfl); clear hF35
  have hF38 : Fr 26 [] [⟨0, [], .slice ao1 u0.length cap2⟩, ⟨1, [], .slice ao4 u1.length cap5⟩, ⟨12, [], .int .i64 (u0.length : Int)⟩, ⟨13, [], .int .i64 0⟩] a34 := hF36.region (by kernel_rfl) (by kernel_rfl); clear hF36
  obtain ⟨inv37, mu37, hI41, hr40⟩ := hp28
  refine lp (ι := Int) (fun (s : Int) => [⟨0, [], .slice ao1 u0.length cap2⟩, ⟨1, [], .slice ao4 u1.length cap5⟩, ⟨12, [], .int .i64 (u0.length : Int)⟩, ⟨13, [], .int .i64 s⟩]) (fun (s : Int) => []) (fun (s : Int) => Z) (fun (s : Int) => inv37 s) (fun (s : Int) => mu37 s) 0 hI41 (by exact hF38.region (by kernel_rfl) (by kernel_rfl)) (by exact hM0) ?_
  rintro x13 hI39 a43 wd44 hF45 hM46
  have hF47 : Fr 26 [] [⟨0, [], .slice ao1 u0.length cap2⟩, ⟨1, [], .slice ao4 u1.length cap5⟩, ⟨12, [], .int .i64 (u0.length : Int)⟩, ⟨13, [], .int .i64 x13⟩] a43 := hF45; clear hF45 hF38
  have hM48 : Mem w.heap.size [] w Z [] Z wd44 := hM46; clear hM46 hM0
  have hp49 := hr40 x13 hI39
  refine sqH ?_; intro hQ50Q hQ50
  refine s1 hF47 14 (.bool (decide (x13 < (u0.length : Int)))) ?_; intro a51 hF52; clear hF47
  refine nlH (hQ50 _ _ ?_); clear hQ50 hQ50Q
  refine wp_seq ?_
  refine cd hF52 (t := decide (x13 < (u0.length : Int))) (by kernel_rfl) (fun hb53 => ?_) (fun hb53 => ?_)
  · -- yes
   have hp54 := hp49.1 hb53; clear hp49
   refine wp_skip ?_
   refine thn ?_
   refine wp_seq ?_
   refine wp_block ?_
   refine sqH ?_; intro hQ55Q hQ55
   refine s1 hF52 15 (.int .i64 x13) ?_; intro a56 hF57; clear hF52
   refine s1 hF57 5 (.int .i64 x13) ?_; intro a58 hF59; clear hF57
   refine nlH (hQ55 _ _ ?_); clear hQ55 hQ55Q
   have hF60 : Fr 26 [] [⟨0, [], .slice ao1 u0.length cap2⟩, ⟨1, [], .slice ao4 u1.length cap5⟩, ⟨5, [], .int .i64 x13⟩, ⟨12, [], .int .i64 (u0.length : Int)⟩, ⟨13, [], .int .i64 x13⟩] a58 := hF59.region (by kernel_rfl) (by kernel_rfl); clear hF59
   refine sqQH mixed (by kernel_rfl) hM48 ?_; intro hQ61Q hQ61
   refine q1 hF60 16 (.slice ao1 u0.length cap2) ?_; intro a63 hF64; clear hF60
   refine q1 hF64 17 (.int .i64 x13) ?_; intro a66 hF67; clear hF64
   have hc69 := hp54.1; have hp70 := hp54.2; clear hp54
   refine qix hF67 (T := tyStop) (xs := u0) hs3 x13 hc69 (k := .i64) (e := 40) (bytes := 16) (nog rfl _) rfl (by kernel_rfl) rfl (by kernel_rfl) (by kernel_rfl) (by kernel_rfl) ?_; intro b71 off72 cs73 q74 a78 hq75 hP76 hT77 hF79; clear hF67
   have hp80 := hp70 q74 hq75; clear hp70
   obtain rfl : cs73 = ([.int .i64 q74.Wait, .bool q74.Fits] : List Value) := hT77
   refine qst hF79 (.agg #[.int .i64 q74.Wait, .bool q74.Fits]) (nog rfl _) rfl (by kernel_rfl) (fun v81 hC => lza hF79 hC.fz hP76 0 (g := []) (m := 2) (vs := [.int .i64 q74.Wait, .bool q74.Fits]) rfl (by kernel_rfl) (by kernel_rfl) (by kernel_rfl) (by kernel_rfl) rfl) ?_; intro a82 hF83; clear hF79
   refine q1 hF83 20 (.slice ao4 u1.length cap5) ?_; intro a85 hF86; clear hF83
   refine q1 hF86 21 (.int .i64 x13) ?_; intro a88 hF89; clear hF86
   have hc91 := hp80.1; have hp92 := hp80.2; clear hp80
   refine qix hF89 (T := tyStop) (xs := u1) hs6 x13 hc91 (k := .i64) (e := 40) (bytes := 16) (nog rfl _) rfl (by kernel_rfl) rfl (by kernel_rfl) (by kernel_rfl) (by kernel_rfl) ?_; intro b93 off94 cs95 q96 a100 hq97 hP98 hT99 hF101; clear hF89
   have hp102 := hp92 q96 hq97; clear hp92
   obtain rfl : cs95 = ([.int .i64 q96.Wait, .bool q96.Fits] : List Value) := hT99
   refine qst hF101 (.agg #[.int .i64 q96.Wait, .bool q96.Fits]) (nog rfl _) rfl (by kernel_rfl) (fun v103 hC => lza hF101 hC.fz hP98 0 (g := []) (m := 2) (vs := [.int .i64 q96.Wait, .bool q96.Fits]) rfl (by kernel_rfl) (by kernel_rfl) (by kernel_rfl) (by kernel_rfl) rfl) ?_; intro a104 hF105; clear hF101
   refine qst hF105 (.bool (!((q74.Wait == q96.Wait) && ((q74.Fits == q96.Fits) && true)))) (nog rfl _) rfl (by kernel_rfl) (fun v106 hC => nes_run hF105 (g := []) (xs := #[.int .i64 q74.Wait, .bool q74.Fits]) (ys := #[.int .i64 q96.Wait, .bool q96.Fits]) (b := (q74.Wait == q96.Wait) && ((q74.Fits == q96.Fits) && true)) rfl (by kernel_rfl) (by kernel_rfl) (by kernel_rfl) (by kernel_rfl) rfl) ?_; intro a107 hF108; clear hF105
   refine qnl (hQ61 _ ?_); clear hQ61 hQ61Q; intro wd109 hM110; clear hM48
   refine cd hF108 (t := !((q74.Wait == q96.Wait) && ((q74.Fits == q96.Fits) && true))) (by kernel_rfl) (fun hb111 => ?_) (fun hb111 => ?_)
   · -- yes
    have hp112 := hp102.1 hb111; clear hp102
    refine sqH ?_; intro hQ113Q hQ113
    refine s1 hF108 4 (.bool false) ?_; intro a114 hF115; clear hF108
    refine nlH (hQ113 _ _ ?_); clear hQ113 hQ113Q
    refine wp_ret ?_
    refine ibr ?_
    refine thr ?_
    refine thr ?_
    refine ibr ?_
    refine thr ?_
    refine rt (fn := Try.f50) (v := .bool false) hF115 (re1 hF115 (fn := Try.f50) rfl (by kernel_rfl)) ?_
    exact ⟨false, rfl, hp112, hM110.below⟩
   · -- no
    have hp116 := hp102.2 hb111; clear hp102
    refine wp_skip ?_
    refine ibn ?_
    refine thn ?_
    refine rgH ?_; intro hQ117Q hQ117
    refine s1 hF108 25 (.int .i64 (w64 (x13 + 1))) ?_; intro a118 hF119; clear hF108
    refine s1 hF119 13 (.int .i64 (w64 (x13 + 1))) ?_; intro a120 hF121; clear hF119
    refine nlH (hQ117 _ _ ?_); clear hQ117 hQ117Q
    refine rd ?_
    exact ⟨w64 (x13 + 1), hp116.1, hp116.2, (hF121.region (by kernel_rfl) (by kernel_rfl)).anyβ _ (by kernel_rfl), hM110.keep (List.Sublist.slnil)⟩
  · -- no
   have hp122 := hp49.2 hb53; clear hp49
   refine wp_exit ?_
   refine thx ?_
   refine thx ?_
   refine ibx ?_
   refine thn ?_
   refine sqH ?_; intro hQ123Q hQ123
   refine s1 hF52 4 (.bool true) ?_; intro a124 hF125; clear hF52
   refine nlH (hQ123 _ _ ?_); clear hQ123 hQ123Q
   refine wp_ret ?_
   refine rt (fn := Try.f50) (v := .bool true) hF125 (re1 hF125 (fn := Try.f50) rfl (by kernel_rfl)) ?_
   exact ⟨true, rfl, hp122, hM48.below⟩

end Go.Proofs.Ytginlmgkimfjmaa
