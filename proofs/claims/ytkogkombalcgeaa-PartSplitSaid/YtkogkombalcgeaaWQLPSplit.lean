/- The walks, made by program: each call does what its pure predicate says. -/
import Derived.Test.YtkogkombalcgeaaWQ
set_option linter.unusedVariables false
set_option linter.unusedSimpArgs false
namespace Go.Proofs.Ytkogkombalcgeaa
open Go.Sy Go.RowKit
set_option maxRecDepth 100000 in
theorem LPSplit_walk (u0 : List Int) (ao1 : Option Addr) (cap2 : Nat) (Z : Fz) (w : World) (hs3 : SlR (tyInt .u8) Z ao1 cap2 u0) (hZ : Z.on w) {K : Bool → Prop} (hp : LPSplit_vc u0 K) : Calls Try.prog 13 #[.slice ao1 u0.length cap2] w fun e w' => ∃ r : Bool, e = .returned (.bool r) ∧ K r ∧ Below w.heap.size w w' := by
 refine enter0 Try.func13 rfl rfl (by kernel_rfl) ?_; intro a0 hF0; have hM0 := Mem.start w Z hZ; have hle0 := Fz.le.refl Z
 have hp4 := hp (hs3.small); clear hp
 refine sqH ?_; intro hQ5Q hQ5
 refine s1 hF0 2 (.bool false) ?_; intro a6 hF7; clear hF0
 refine nlH (hQ5 _ _ ?_); clear hQ5 hQ5Q
 refine sqH ?_; intro hQ8Q hQ8
 refine s1 hF7 12 (.slice ao1 u0.length cap2) ?_; intro a9 hF10; clear hF7
 refine cl hF10 40 #[.slice ao1 u0.length cap2] (nog rfl _) rfl (by kernel_rfl) (by kernel_rfl) ?_
 refine (psplit_fun u0 ao1 cap2 _ _ hs3 hM0.fz).mono ?_; rintro _ wd11 ⟨ao15, cap16, Z17, rfl, hm⟩; refine ⟨_, rfl, ?_⟩; intro a12 hF13; have hM14 := hM0.callZ hm; have hle18 := hm.ext.le; clear hm hM0 hF10
 replace hs3 := hs3.mono hle18
 replace hle0 := Fz.le.trans hle0 hle18
 have hM19 : Mem w.heap.size [] w Z [.own (tySl (tyInt .u8)) 36 ao15 cap16 ((psplitS u0).1)] Z17 wd11 := hM14; clear hM14
 have hp20 := hp4 (hM19.ownSmall 0 rfl); clear hp4
 refine s1 hF13 11 (.tuple #[.slice ao15 ((psplitS u0).1).length cap16, .int .i64 ((psplitS u0).2)]) ?_; intro a21 hF22; clear hF13
 refine s1 hF22 14 (.slice ao15 ((psplitS u0).1).length cap16) ?_; intro a23 hF24; clear hF22
 refine s1 hF24 15 (.int .i64 ((psplitS u0).2)) ?_; intro a25 hF26; clear hF24
 refine s1 hF26 3 (.slice ao15 ((psplitS u0).1).length cap16) ?_; intro a27 hF28; clear hF26
 refine s1 hF28 4 (.int .i64 ((psplitS u0).2)) ?_; intro a29 hF30; clear hF28
 refine nlH (hQ8 _ _ ?_); clear hQ8 hQ8Q
 refine sqH ?_; intro hQ31Q hQ31
 refine s1 hF30 17 (.slice ao1 u0.length cap2) ?_; intro a32 hF33; clear hF30
 refine cl hF33 43 #[.slice ao1 u0.length cap2] (nog rfl _) rfl (by kernel_rfl) (by kernel_rfl) ?_
 refine (pbegin_fun u0 ao1 cap2 _ _ hs3 hM19.fz).mono ?_; rintro _ wd34 ⟨ao38, cap39, ao41, cap42, Z44, rfl, hs40, hs43, hm⟩; refine ⟨_, rfl, ?_⟩; intro a35 hF36; have hM37 := hM19.callZ hm; have hle45 := hm.ext.le; clear hm hM19 hF33
 replace hs3 := hs3.mono hle45
 replace hle0 := Fz.le.trans hle0 hle45
 have hM46 : Mem w.heap.size [] w Z [.own (tySl (tyInt .u8)) 36 ao15 cap16 ((psplitS u0).1)] Z44 wd34 := hM37; clear hM37
 have hp47 := hp20 (hs40.small); clear hp20
 have hp48 := hp47 (hs43.small); clear hp47
 refine s1 hF36 16 (.tuple #[.agg #[.slice ao38 (((pbeginS u0).1).Data).length cap39, .int .i64 (((pbeginS u0).1).At), .int .i64 (((pbeginS u0).1).Next), .int .i64 (((pbeginS u0).1).Left), .bool (((pbeginS u0).1).Done)], .slice ao41 ((pbeginS u0).2.1).length cap42, .int .i64 ((pbeginS u0).2.2)]) ?_; intro a49 hF50; clear hF36
 refine s1 hF50 19 (.agg #[.slice ao38 (((pbeginS u0).1).Data).length cap39, .int .i64 (((pbeginS u0).1).At), .int .i64 (((pbeginS u0).1).Next), .int .i64 (((pbeginS u0).1).Left), .bool (((pbeginS u0).1).Done)]) ?_; intro a51 hF52; clear hF50
 refine s1 hF52 20 (.slice ao41 ((pbeginS u0).2.1).length cap42) ?_; intro a53 hF54; clear hF52
 refine s1 hF54 21 (.int .i64 ((pbeginS u0).2.2)) ?_; intro a55 hF56; clear hF54
 refine sn hF56 hM46 (fun b => .pointer (some ⟨b, 0, none⟩)) [.slice none 0 0, .int .i64 0, .int .i64 0, .int .i64 0, .bool false] 53 (nog rfl _) rfl (by kernel_rfl) (by kernel_rfl) ?_; intro b57 a58 wd60 hF59 hM61; clear hF56 hM46
 refine sr hF59 hM61 0 [.slice ao38 (((pbeginS u0).1).Data).length cap39, .int .i64 (((pbeginS u0).1).At), .int .i64 (((pbeginS u0).1).Next), .int .i64 (((pbeginS u0).1).Left), .bool (((pbeginS u0).1).Done)] (b := b57) (off := 0) (cs := [.slice none 0 0, .int .i64 0, .int .i64 0, .int .i64 0, .bool false]) (ty := 53) (u := .agg #[.slice ao38 (((pbeginS u0).1).Data).length cap39, .int .i64 (((pbeginS u0).1).At), .int .i64 (((pbeginS u0).1).Next), .int .i64 (((pbeginS u0).1).Left), .bool (((pbeginS u0).1).Done)]) (nog rfl _) rfl rfl (by kernel_rfl) (by kernel_rfl) (by kernel_rfl) (by kernel_rfl) (by kernel_rfl) (by kernel_rfl) (by kernel_rfl) ?_; intro wd62 hM63; clear hM61
 refine s1 hF59 6 (.slice ao41 ((pbeginS u0).2.1).length cap42) ?_; intro a64 hF65; clear hF59
 refine s1 hF65 7 (.int .i64 ((pbeginS u0).2.2)) ?_; intro a66 hF67; clear hF65
 have hM68 : Mem w.heap.size [] w Z [.row b57 [.slice ao38 (((pbeginS u0).1).Data).length cap39, .int .i64 (((pbeginS u0).1).At), .int .i64 (((pbeginS u0).1).Next), .int .i64 (((pbeginS u0).1).Left), .bool (((pbeginS u0).1).Done)] 53, .own (tySl (tyInt .u8)) 36 ao15 cap16 ((psplitS u0).1)] Z44 wd62 := hM63; clear hM63
 refine nlH (hQ31 _ _ ?_); clear hQ31 hQ31Q
 refine wp_seq ?_
 have hF69 : Fr 90 [] [⟨0, [], .slice ao1 u0.length cap2⟩, ⟨3, [], .slice ao15 ((psplitS u0).1).length cap16⟩, ⟨4, [], .int .i64 ((psplitS u0).2)⟩, ⟨5, [], .pointer (some ⟨b57, 0, none⟩)⟩, ⟨6, [], .slice ao41 ((pbeginS u0).2.1).length cap42⟩, ⟨7, [], .int .i64 ((pbeginS u0).2.2)⟩] a66 := hF67.region (by kernel_rfl) (by kernel_rfl); clear hF67
 refine sqH ?_; intro hQ70Q hQ70
 refine s1 hF69 22 (.slice ao1 u0.length cap2) ?_; intro a71 hF72; clear hF69
 refine fcl hF72 hM68 (.int .i64 (pbad u0)) 39 #[.slice ao1 u0.length cap2] (nog rfl _) rfl (by kernel_rfl) (fun _ => by kernel_rfl) (pbad_fun u0 ao1 cap2 _ _ hs3 hM68.fz) ?_; intro a73 wd75 hF74 hM76; clear hF72 hM68
 refine s1 hF74 8 (.int .i64 (pbad u0)) ?_; intro a77 hF78; clear hF74
 refine nlH (hQ70 _ _ ?_); clear hQ70 hQ70Q
 refine sqH ?_; intro hQ79Q hQ79
 refine fcl hF78 hM76 (.bool true) 33 #[] (nog rfl _) rfl (by kernel_rfl) (fun _ => by kernel_rfl) (parted_fun  _ _ hM76.fz) ?_; intro a80 wd82 hF81 hM83; clear hF78 hM76
 refine s1 hF81 25 (.bool false) ?_; intro a84 hF85; clear hF81
 refine s1 hF85 26 (.bool false) ?_; intro a86 hF87; clear hF85
 refine st hF87 (.int .i64 (pbad u0)) (by rw [wanted_of hF87 (b := false) rfl rfl (by kernel_rfl) (by kernel_rfl)]; rfl) rfl (by kernel_rfl) (p0 hF87 (by kernel_rfl)) ?_; intro a88 hF89; clear hF87
 refine st hF89 (.bool ((pbad u0) != 0)) (by rw [wanted_of hF89 (b := false) rfl rfl (by kernel_rfl) (by kernel_rfl)]; rfl) rfl (by kernel_rfl) (p0 hF89 (by kernel_rfl)) ?_; intro a90 hF91; clear hF89
 refine s1 hF91 29 (.bool ((pbad u0) != 0)) ?_; intro a92 hF93; clear hF91
 refine nlH (hQ79 _ _ ?_); clear hQ79 hQ79Q
 refine cd hF93 (t := (pbad u0) != 0) (by kernel_rfl) (fun hb94 => ?_) (fun hb94 => ?_)
 · -- yes
  have hp95 := hp48.1 hb94; clear hp48
  refine sqH ?_; intro hQ96Q hQ96
  refine fcl hF93 hM83 (.bool true) 33 #[] (nog rfl _) rfl (by kernel_rfl) (fun _ => by kernel_rfl) (parted_fun  _ _ hM83.fz) ?_; intro a97 wd99 hF98 hM100; clear hF93 hM83
  refine s1 hF98 31 (.bool true) ?_; intro a101 hF102; clear hF98
  refine st hF102 (.int .i64 ((psplitS u0).2)) (by rw [wanted_of hF102 (b := true) rfl rfl (by kernel_rfl) (by kernel_rfl)]; rfl) rfl (by kernel_rfl) (p0 hF102 (by kernel_rfl)) ?_; intro a103 hF104; clear hF102
  refine st hF104 (.int .i64 (pbad u0)) (by rw [wanted_of hF104 (b := true) rfl rfl (by kernel_rfl) (by kernel_rfl)]; rfl) rfl (by kernel_rfl) (p0 hF104 (by kernel_rfl)) ?_; intro a105 hF106; clear hF104
  refine st hF106 (.bool (((psplitS u0).2) == (pbad u0))) (by rw [wanted_of hF106 (b := true) rfl rfl (by kernel_rfl) (by kernel_rfl)]; rfl) rfl (by kernel_rfl) (p0 hF106 (by kernel_rfl)) ?_; intro a107 hF108; clear hF106
  refine s1 hF108 35 (.bool (((psplitS u0).2) == (pbad u0))) ?_; intro a109 hF110; clear hF108
  refine s1 hF110 36 (.bool (((psplitS u0).2) == (pbad u0))) ?_; intro a111 hF112; clear hF110
  have hF113 := hF112.atom ((((psplitS u0).2) == (pbad u0)) == true) (by kernel_rfl); clear hF112
  refine gp hF113 37 0 [] (((psplitS u0).2) == (pbad u0)) (.int .i64 ((pbeginS u0).2.2)) rfl rfl ?_; intro a114 hF115; clear hF113
  refine gp hF115 38 0 [] (((psplitS u0).2) == (pbad u0)) (.int .i64 (pbad u0)) rfl rfl ?_; intro a116 hF117; clear hF115
  refine gp hF117 39 0 [] (((psplitS u0).2) == (pbad u0)) (.bool (((pbeginS u0).2.2) == (pbad u0))) rfl rfl ?_; intro a118 hF119; clear hF117
  refine st hF119 (.bool ((((psplitS u0).2) == (pbad u0)) && (((pbeginS u0).2.2) == (pbad u0)))) (nog rfl _) rfl (by kernel_rfl) (pk_and hF119 (g := []) (m := 0) (b := ((psplitS u0).2) == (pbad u0)) (v := ((pbeginS u0).2.2) == (pbad u0)) rfl (by kernel_rfl) (by kernel_rfl) (by kernel_rfl) rfl) ?_; intro a120 hF121; clear hF119
  refine s1 hF121 41 (.bool ((((psplitS u0).2) == (pbad u0)) && (((pbeginS u0).2.2) == (pbad u0)))) ?_; intro a122 hF123; clear hF121
  have hF124 := hF123.atom (((((psplitS u0).2) == (pbad u0)) && (((pbeginS u0).2.2) == (pbad u0))) == true) (by kernel_rfl); clear hF123
  refine gp hF124 42 1 [] ((((psplitS u0).2) == (pbad u0)) && (((pbeginS u0).2.2) == (pbad u0))) (.slice ao15 ((psplitS u0).1).length cap16) rfl rfl ?_; intro a125 hF126; clear hF124
  refine gp hF126 43 1 [] ((((psplitS u0).2) == (pbad u0)) && (((pbeginS u0).2.2) == (pbad u0))) (.int .i64 (((psplitS u0).1).length : Int)) rfl rfl ?_; intro a127 hF128; clear hF126
  refine gp hF128 44 1 [] ((((psplitS u0).2) == (pbad u0)) && (((pbeginS u0).2.2) == (pbad u0))) (.bool ((((psplitS u0).1).length : Int) == 0)) rfl rfl ?_; intro a129 hF130; clear hF128
  refine st hF130 (.bool (((((psplitS u0).2) == (pbad u0)) && (((pbeginS u0).2.2) == (pbad u0))) && ((((psplitS u0).1).length : Int) == 0))) (nog rfl _) rfl (by kernel_rfl) (pk_and hF130 (g := []) (m := 1) (b := (((psplitS u0).2) == (pbad u0)) && (((pbeginS u0).2.2) == (pbad u0))) (v := (((psplitS u0).1).length : Int) == 0) rfl (by kernel_rfl) (by kernel_rfl) (by kernel_rfl) rfl) ?_; intro a131 hF132; clear hF130
  refine s1 hF132 46 (.bool (((((psplitS u0).2) == (pbad u0)) && (((pbeginS u0).2.2) == (pbad u0))) && ((((psplitS u0).1).length : Int) == 0))) ?_; intro a133 hF134; clear hF132
  have hF135 := hF134.atom ((((((psplitS u0).2) == (pbad u0)) && (((pbeginS u0).2.2) == (pbad u0))) && ((((psplitS u0).1).length : Int) == 0)) == true) (by kernel_rfl); clear hF134
  refine gp hF135 47 2 [] (((((psplitS u0).2) == (pbad u0)) && (((pbeginS u0).2.2) == (pbad u0))) && ((((psplitS u0).1).length : Int) == 0)) (.slice ao41 ((pbeginS u0).2.1).length cap42) rfl rfl ?_; intro a136 hF137; clear hF135
  refine gp hF137 48 2 [] (((((psplitS u0).2) == (pbad u0)) && (((pbeginS u0).2.2) == (pbad u0))) && ((((psplitS u0).1).length : Int) == 0)) (.int .i64 (((pbeginS u0).2.1).length : Int)) rfl rfl ?_; intro a138 hF139; clear hF137
  refine gp hF139 49 2 [] (((((psplitS u0).2) == (pbad u0)) && (((pbeginS u0).2.2) == (pbad u0))) && ((((psplitS u0).1).length : Int) == 0)) (.bool ((((pbeginS u0).2.1).length : Int) == 0)) rfl rfl ?_; intro a140 hF141; clear hF139
  refine st hF141 (.bool ((((((psplitS u0).2) == (pbad u0)) && (((pbeginS u0).2.2) == (pbad u0))) && ((((psplitS u0).1).length : Int) == 0)) && ((((pbeginS u0).2.1).length : Int) == 0))) (nog rfl _) rfl (by kernel_rfl) (pk_and hF141 (g := []) (m := 2) (b := ((((psplitS u0).2) == (pbad u0)) && (((pbeginS u0).2.2) == (pbad u0))) && ((((psplitS u0).1).length : Int) == 0)) (v := (((pbeginS u0).2.1).length : Int) == 0) rfl (by kernel_rfl) (by kernel_rfl) (by kernel_rfl) rfl) ?_; intro a142 hF143; clear hF141
  refine s1 hF143 51 (.bool ((((((psplitS u0).2) == (pbad u0)) && (((pbeginS u0).2.2) == (pbad u0))) && ((((psplitS u0).1).length : Int) == 0)) && ((((pbeginS u0).2.1).length : Int) == 0))) ?_; intro a144 hF145; clear hF143
  have hF146 := hF145.atom (((((((psplitS u0).2) == (pbad u0)) && (((pbeginS u0).2.2) == (pbad u0))) && ((((psplitS u0).1).length : Int) == 0)) && ((((pbeginS u0).2.1).length : Int) == 0)) == true) (by kernel_rfl); clear hF145
  refine gd hF146 (.agg #[.slice ao38 (((pbeginS u0).1).Data).length cap39, .int .i64 (((pbeginS u0).1).At), .int .i64 (((pbeginS u0).1).Next), .int .i64 (((pbeginS u0).1).Left), .bool (((pbeginS u0).1).Done)]) (m := 3) (cj := []) (bj := (((((psplitS u0).2) == (pbad u0)) && (((pbeginS u0).2.2) == (pbad u0))) && ((((psplitS u0).1).length : Int) == 0)) && ((((pbeginS u0).2.1).length : Int) == 0)) rfl rfl (by kernel_rfl) rfl (by kernel_rfl) (by kernel_rfl) (by kernel_rfl) (fun hg => lda hF146 hM100 0 (g := [3]) (b := b57) (off := 0) (k := 5) (cs := [.slice ao38 (((pbeginS u0).1).Data).length cap39, .int .i64 (((pbeginS u0).1).At), .int .i64 (((pbeginS u0).1).Next), .int .i64 (((pbeginS u0).1).Left), .bool (((pbeginS u0).1).Done)]) (vs := [.slice ao38 (((pbeginS u0).1).Data).length cap39, .int .i64 (((pbeginS u0).1).At), .int .i64 (((pbeginS u0).1).Next), .int .i64 (((pbeginS u0).1).Left), .bool (((pbeginS u0).1).Done)]) (ty := 53) rfl (by kernel_rfl) (by kernel_rfl) (by kernel_rfl) (by kernel_rfl) (by kernel_rfl) hg) ?_; intro a147 hF148; clear hF146
  refine gp hF148 53 3 [] ((((((psplitS u0).2) == (pbad u0)) && (((pbeginS u0).2.2) == (pbad u0))) && ((((psplitS u0).1).length : Int) == 0)) && ((((pbeginS u0).2.1).length : Int) == 0)) (.agg #[.slice none 0 0, .int .i64 0, .int .i64 0, .int .i64 0, .bool false]) rfl rfl ?_; intro a149 hF150; clear hF148
  refine gcl hF150 hM100 (.bool (psames ((pbeginS u0).1) (⟨[], 0, 0, 0, false⟩ : Sender))) 35 #[.agg #[.slice ao38 (((pbeginS u0).1).Data).length cap39, .int .i64 (((pbeginS u0).1).At), .int .i64 (((pbeginS u0).1).Next), .int .i64 (((pbeginS u0).1).Left), .bool (((pbeginS u0).1).Done)], .agg #[.slice none 0 0, .int .i64 0, .int .i64 0, .int .i64 0, .bool false]] (m := 3) (cj := []) (bj := (((((psplitS u0).2) == (pbad u0)) && (((pbeginS u0).2.2) == (pbad u0))) && ((((psplitS u0).1).length : Int) == 0)) && ((((pbeginS u0).2.1).length : Int) == 0)) rfl rfl (by kernel_rfl) rfl (by kernel_rfl) (by kernel_rfl) (by kernel_rfl) (fun _ => by kernel_rfl) (fun hg => psames_fun ((pbeginS u0).1) (⟨[], 0, 0, 0, false⟩ : Sender) ao38 cap39 none 0 _ _ hs40 (SlR.nil _ _) hM100.fz) ?_; intro a151 wd153 hF152 hM154; clear hF150 hM100
  refine st hF152 (.bool (((((((psplitS u0).2) == (pbad u0)) && (((pbeginS u0).2.2) == (pbad u0))) && ((((psplitS u0).1).length : Int) == 0)) && ((((pbeginS u0).2.1).length : Int) == 0)) && (psames ((pbeginS u0).1) (⟨[], 0, 0, 0, false⟩ : Sender)))) (nog rfl _) rfl (by kernel_rfl) (pk_and hF152 (g := []) (m := 3) (b := (((((psplitS u0).2) == (pbad u0)) && (((pbeginS u0).2.2) == (pbad u0))) && ((((psplitS u0).1).length : Int) == 0)) && ((((pbeginS u0).2.1).length : Int) == 0)) (v := (psames ((pbeginS u0).1) (⟨[], 0, 0, 0, false⟩ : Sender))) rfl (by kernel_rfl) (by kernel_rfl) (by kernel_rfl) rfl) ?_; intro a155 hF156; clear hF152
  refine s1 hF156 2 (.bool (((((((psplitS u0).2) == (pbad u0)) && (((pbeginS u0).2.2) == (pbad u0))) && ((((psplitS u0).1).length : Int) == 0)) && ((((pbeginS u0).2.1).length : Int) == 0)) && (psames ((pbeginS u0).1) (⟨[], 0, 0, 0, false⟩ : Sender)))) ?_; intro a157 hF158; clear hF156
  refine nlH (hQ96 _ _ ?_); clear hQ96 hQ96Q
  refine wp_ret ?_
  refine thr ?_
  refine rt (fn := Try.f13) (v := .bool (((((((psplitS u0).2) == (pbad u0)) && (((pbeginS u0).2.2) == (pbad u0))) && ((((psplitS u0).1).length : Int) == 0)) && ((((pbeginS u0).2.1).length : Int) == 0)) && (psames ((pbeginS u0).1) (⟨[], 0, 0, 0, false⟩ : Sender)))) hF158 (re1 hF158 (fn := Try.f13) rfl (by kernel_rfl)) ?_
  exact ⟨((((((psplitS u0).2) == (pbad u0)) && (((pbeginS u0).2.2) == (pbad u0))) && ((((psplitS u0).1).length : Int) == 0)) && ((((pbeginS u0).2.1).length : Int) == 0)) && (psames ((pbeginS u0).1) (⟨[], 0, 0, 0, false⟩ : Sender)), rfl, hp95, hM154.below⟩
 · -- no
  have hp159 := hp48.2 hb94; clear hp48
  refine wp_skip ?_
  refine thn ?_
  refine sqH ?_; intro hQ160Q hQ160
  refine s1 hF93 56 (.slice ao1 u0.length cap2) ?_; intro a161 hF162; clear hF93
  have hc163 := hp159.1; have hp164 := hp159.2; clear hp159
  refine cl hF162 36 #[.slice ao1 u0.length cap2] (nog rfl _) rfl (by kernel_rfl) (by kernel_rfl) ?_
  refine (ppartsof_fun u0 hc163 ao1 cap2 _ _ hs3 hM83.fz).mono ?_; rintro _ wd165 ⟨ao169, cap170, Z171, rfl, hm⟩; refine ⟨_, rfl, ?_⟩; intro a166 hF167; have hM168 := hM83.callZ hm; have hle172 := hm.ext.le; clear hm hM83 hF162
  replace hs3 := hs3.mono hle172
  replace hs40 := hs40.mono hle172
  replace hs43 := hs43.mono hle172
  replace hle0 := Fz.le.trans hle0 hle172
  have hM173 : Mem w.heap.size [] w Z [.own (tySl (tyInt .u8)) 36 ao169 cap170 (ppartsofS u0), .row b57 [.slice ao38 (((pbeginS u0).1).Data).length cap39, .int .i64 (((pbeginS u0).1).At), .int .i64 (((pbeginS u0).1).Next), .int .i64 (((pbeginS u0).1).Left), .bool (((pbeginS u0).1).Done)] 53, .own (tySl (tyInt .u8)) 36 ao15 cap16 ((psplitS u0).1)] Z171 wd165 := hM168; clear hM168
  have hp174 := hp164 (hM173.ownSmall 0 rfl); clear hp164
  refine s1 hF167 9 (.slice ao169 (ppartsofS u0).length cap170) ?_; intro a175 hF176; clear hF167
  refine nlH (hQ160 _ _ ?_); clear hQ160 hQ160Q
  refine sqH ?_; intro hQ177Q hQ177
  refine s1 hF176 58 (.slice ao1 u0.length cap2) ?_; intro a178 hF179; clear hF176
  refine s1 hF179 59 (.agg #[.slice ao1 u0.length cap2, .int .i64 6, .int .i64 1, .int .i64 (-1), .bool false]) ?_; intro a180 hF181; clear hF179
  refine sn hF181 hM173 (fun b => .pointer (some ⟨b, 0, none⟩)) [.slice none 0 0, .int .i64 0, .int .i64 0, .int .i64 0, .bool false] 53 (nog rfl _) rfl (by kernel_rfl) (by kernel_rfl) ?_; intro b182 a183 wd185 hF184 hM186; clear hF181 hM173
  refine sr hF184 hM186 0 [.slice ao1 u0.length cap2, .int .i64 6, .int .i64 1, .int .i64 (-1), .bool false] (b := b182) (off := 0) (cs := [.slice none 0 0, .int .i64 0, .int .i64 0, .int .i64 0, .bool false]) (ty := 53) (u := .agg #[.slice ao1 u0.length cap2, .int .i64 6, .int .i64 1, .int .i64 (-1), .bool false]) (nog rfl _) rfl rfl (by kernel_rfl) (by kernel_rfl) (by kernel_rfl) (by kernel_rfl) (by kernel_rfl) (by kernel_rfl) (by kernel_rfl) ?_; intro wd187 hM188; clear hM186
  have hM189 : Mem w.heap.size [] w Z [.row b182 [.slice ao1 u0.length cap2, .int .i64 6, .int .i64 1, .int .i64 (-1), .bool false] 53, .own (tySl (tyInt .u8)) 36 ao169 cap170 (ppartsofS u0), .row b57 [.slice ao38 (((pbeginS u0).1).Data).length cap39, .int .i64 (((pbeginS u0).1).At), .int .i64 (((pbeginS u0).1).Next), .int .i64 (((pbeginS u0).1).Left), .bool (((pbeginS u0).1).Done)] 53, .own (tySl (tyInt .u8)) 36 ao15 cap16 ((psplitS u0).1)] Z171 wd187 := hM188; clear hM188
  refine nlH (hQ177 _ _ ?_); clear hQ177 hQ177Q
  refine wp_seq ?_
  have hF190 : Fr 90 [] [⟨0, [], .slice ao1 u0.length cap2⟩, ⟨3, [], .slice ao15 ((psplitS u0).1).length cap16⟩, ⟨4, [], .int .i64 ((psplitS u0).2)⟩, ⟨5, [], .pointer (some ⟨b57, 0, none⟩)⟩, ⟨6, [], .slice ao41 ((pbeginS u0).2.1).length cap42⟩, ⟨7, [], .int .i64 ((pbeginS u0).2.2)⟩, ⟨9, [], .slice ao169 (ppartsofS u0).length cap170⟩, ⟨10, [], .pointer (some ⟨b182, 0, none⟩)⟩] a183 := hF184.region (by kernel_rfl) (by kernel_rfl); clear hF184
  refine sqH ?_; intro hQ191Q hQ191
  refine s1 hF190 60 (.slice ao169 (ppartsofS u0).length cap170) ?_; intro a192 hF193; clear hF190
  refine s1 hF193 61 (.int .i64 ((ppartsofS u0).length : Int)) ?_; intro a194 hF195; clear hF193
  refine s1 hF195 62 (.bool (((ppartsofS u0).length : Int) == 1)) ?_; intro a196 hF197; clear hF195
  refine nlH (hQ191 _ _ ?_); clear hQ191 hQ191Q
  refine cd hF197 (t := ((ppartsofS u0).length : Int) == 1) (by kernel_rfl) (fun hb198 => ?_) (fun hb198 => ?_)
  · -- yes
   have hp199 := hp174.1 hb198; clear hp174
   refine rgH ?_; intro hQ200Q hQ200
   refine s1 hF197 63 (.slice ao1 u0.length cap2) ?_; intro a201 hF202; clear hF197
   refine s1 hF202 64 (.slice ao1 u0.length cap2) ?_; intro a203 hF204; clear hF202
   refine s1 hF204 65 (.int .i64 (u0.length : Int)) ?_; intro a205 hF206; clear hF204
   refine s1 hF206 66 (.agg #[.slice ao1 u0.length cap2, .int .i64 (u0.length : Int), .int .i64 1, .int .i64 0, .bool true]) ?_; intro a207 hF208; clear hF206
   refine sr hF208 hM189 0 [.slice ao1 u0.length cap2, .int .i64 (u0.length : Int), .int .i64 1, .int .i64 0, .bool true] (b := b182) (off := 0) (cs := [.slice ao1 u0.length cap2, .int .i64 6, .int .i64 1, .int .i64 (-1), .bool false]) (ty := 53) (u := .agg #[.slice ao1 u0.length cap2, .int .i64 (u0.length : Int), .int .i64 1, .int .i64 0, .bool true]) (nog rfl _) rfl rfl (by kernel_rfl) (by kernel_rfl) (by kernel_rfl) (by kernel_rfl) (by kernel_rfl) (by kernel_rfl) (by kernel_rfl) ?_; intro wd209 hM210; clear hM189
   have hM211 : Mem w.heap.size [] w Z [.row b182 [.slice ao1 u0.length cap2, .int .i64 (u0.length : Int), .int .i64 1, .int .i64 0, .bool true] 53, .own (tySl (tyInt .u8)) 36 ao169 cap170 (ppartsofS u0), .row b57 [.slice ao38 (((pbeginS u0).1).Data).length cap39, .int .i64 (((pbeginS u0).1).At), .int .i64 (((pbeginS u0).1).Next), .int .i64 (((pbeginS u0).1).Left), .bool (((pbeginS u0).1).Done)] 53, .own (tySl (tyInt .u8)) 36 ao15 cap16 ((psplitS u0).1)] Z171 wd209 := hM210; clear hM210
   refine nlH (hQ200 _ _ ?_); clear hQ200 hQ200Q
   refine thn ?_
   refine sqH ?_; intro hQ212Q hQ212
   refine s1 hF208 67 (.int .i64 ((psplitS u0).2)) ?_; intro a213 hF214; clear hF208
   refine s1 hF214 68 (.bool (((psplitS u0).2) == 0)) ?_; intro a215 hF216; clear hF214
   refine s1 hF216 69 (.bool (((psplitS u0).2) == 0)) ?_; intro a217 hF218; clear hF216
   have hF219 := hF218.atom ((((psplitS u0).2) == 0) == true) (by kernel_rfl); clear hF218
   refine gp hF219 70 0 [] (((psplitS u0).2) == 0) (.int .i64 ((pbeginS u0).2.2)) rfl rfl ?_; intro a220 hF221; clear hF219
   refine gp hF221 71 0 [] (((psplitS u0).2) == 0) (.bool (((pbeginS u0).2.2) == 0)) rfl rfl ?_; intro a222 hF223; clear hF221
   refine st hF223 (.bool ((((psplitS u0).2) == 0) && (((pbeginS u0).2.2) == 0))) (nog rfl _) rfl (by kernel_rfl) (pk_and hF223 (g := []) (m := 0) (b := ((psplitS u0).2) == 0) (v := ((pbeginS u0).2.2) == 0) rfl (by kernel_rfl) (by kernel_rfl) (by kernel_rfl) rfl) ?_; intro a224 hF225; clear hF223
   refine s1 hF225 73 (.bool ((((psplitS u0).2) == 0) && (((pbeginS u0).2.2) == 0))) ?_; intro a226 hF227; clear hF225
   have hF228 := hF227.atom (((((psplitS u0).2) == 0) && (((pbeginS u0).2.2) == 0)) == true) (by kernel_rfl); clear hF227
   refine gp hF228 74 1 [] ((((psplitS u0).2) == 0) && (((pbeginS u0).2.2) == 0)) (.slice ao15 ((psplitS u0).1).length cap16) rfl rfl ?_; intro a229 hF230; clear hF228
   refine gp hF230 75 1 [] ((((psplitS u0).2) == 0) && (((pbeginS u0).2.2) == 0)) (.slice ao169 (ppartsofS u0).length cap170) rfl rfl ?_; intro a231 hF232; clear hF230
   obtain ⟨Z233, hle234, hM235, hs236⟩ := hM211.freeze 3 rfl
   replace hs3 := hs3.mono hle234
   replace hs40 := hs40.mono hle234
   replace hs43 := hs43.mono hle234
   replace hle0 := Fz.le.trans hle0 hle234
   have hM237 : Mem w.heap.size [] w Z [.row b182 [.slice ao1 u0.length cap2, .int .i64 (u0.length : Int), .int .i64 1, .int .i64 0, .bool true] 53, .own (tySl (tyInt .u8)) 36 ao169 cap170 (ppartsofS u0), .row b57 [.slice ao38 (((pbeginS u0).1).Data).length cap39, .int .i64 (((pbeginS u0).1).At), .int .i64 (((pbeginS u0).1).Next), .int .i64 (((pbeginS u0).1).Left), .bool (((pbeginS u0).1).Done)] 53] Z233 wd209 := hM235; clear hM235
   obtain ⟨Z238, hle239, hM240, hs241⟩ := hM237.freeze 1 rfl
   replace hs3 := hs3.mono hle239
   replace hs40 := hs40.mono hle239
   replace hs43 := hs43.mono hle239
   replace hs236 := hs236.mono hle239
   replace hle0 := Fz.le.trans hle0 hle239
   have hM242 : Mem w.heap.size [] w Z [.row b182 [.slice ao1 u0.length cap2, .int .i64 (u0.length : Int), .int .i64 1, .int .i64 0, .bool true] 53, .row b57 [.slice ao38 (((pbeginS u0).1).Data).length cap39, .int .i64 (((pbeginS u0).1).At), .int .i64 (((pbeginS u0).1).Next), .int .i64 (((pbeginS u0).1).Left), .bool (((pbeginS u0).1).Done)] 53] Z238 wd209 := hM240; clear hM240
   refine gcl hF232 hM242 (.bool (psamep ((psplitS u0).1) (ppartsofS u0))) 44 #[.slice ao15 ((psplitS u0).1).length cap16, .slice ao169 (ppartsofS u0).length cap170] (m := 1) (cj := []) (bj := (((psplitS u0).2) == 0) && (((pbeginS u0).2.2) == 0)) rfl rfl (by kernel_rfl) rfl (by kernel_rfl) (by kernel_rfl) (by kernel_rfl) (fun _ => by kernel_rfl) (fun hg => psamep_fun ((psplitS u0).1) (ppartsofS u0) ao15 cap16 ao169 cap170 _ _ hs236 hs241 hM242.fz) ?_; intro a243 wd245 hF244 hM246; clear hF232 hM242
   refine st hF244 (.bool (((((psplitS u0).2) == 0) && (((pbeginS u0).2.2) == 0)) && (psamep ((psplitS u0).1) (ppartsofS u0)))) (nog rfl _) rfl (by kernel_rfl) (pk_and hF244 (g := []) (m := 1) (b := (((psplitS u0).2) == 0) && (((pbeginS u0).2.2) == 0)) (v := (psamep ((psplitS u0).1) (ppartsofS u0))) rfl (by kernel_rfl) (by kernel_rfl) (by kernel_rfl) rfl) ?_; intro a247 hF248; clear hF244
   refine s1 hF248 78 (.bool (((((psplitS u0).2) == 0) && (((pbeginS u0).2.2) == 0)) && (psamep ((psplitS u0).1) (ppartsofS u0)))) ?_; intro a249 hF250; clear hF248
   have hF251 := hF250.atom ((((((psplitS u0).2) == 0) && (((pbeginS u0).2.2) == 0)) && (psamep ((psplitS u0).1) (ppartsofS u0))) == true) (by kernel_rfl); clear hF250
   refine gp hF251 79 2 [] (((((psplitS u0).2) == 0) && (((pbeginS u0).2.2) == 0)) && (psamep ((psplitS u0).1) (ppartsofS u0))) (.slice ao41 ((pbeginS u0).2.1).length cap42) rfl rfl ?_; intro a252 hF253; clear hF251
   refine gp hF253 80 2 [] (((((psplitS u0).2) == 0) && (((pbeginS u0).2.2) == 0)) && (psamep ((psplitS u0).1) (ppartsofS u0))) (.slice ao169 (ppartsofS u0).length cap170) rfl rfl ?_; intro a254 hF255; clear hF253
   rcases Bool.eq_false_or_eq_true (((((psplitS u0).2) == 0) && (((pbeginS u0).2.2) == 0)) && (psamep ((psplitS u0).1) (ppartsofS u0))) with hb256 | hb256
   · -- true
    have hp257 := hp199.1 hb256; clear hp199
    have hF258 := hF255.reval (d := 78) (c := []) (v := .bool (((((psplitS u0).2) == 0) && (((pbeginS u0).2.2) == 0)) && (psamep ((psplitS u0).1) (ppartsofS u0)))) (by kernel_rfl) (.bool true) (by rw [hb256]); clear hF255
    have hF259 := hF258.setc (d := 79) (c := [2]) (v := .slice ao41 ((pbeginS u0).2.1).length cap42) (by kernel_rfl) (v' := .slice ao41 ((pbeginS u0).2.1).length cap42) (by rw [hb256]; kernel_rfl); clear hF258
    have hF260 := hF259.setc (d := 80) (c := [2]) (v := .slice ao169 (ppartsofS u0).length cap170) (by kernel_rfl) (v' := .slice ao169 (ppartsofS u0).length cap170) (by rw [hb256]; kernel_rfl); clear hF259
    have hc261 := hp257.1; have hp262 := hp257.2; clear hp257
    refine ix hF260 (T := (tySl (tyInt .u8))) (xs := (ppartsofS u0)) hs241 (0 : Int) hc261 (k := .i64) (e := 36) (bytes := 24) (by rw [wanted_of hF260 (b := true) rfl rfl (by kernel_rfl) (by kernel_rfl)]; rfl) rfl (by kernel_rfl) rfl (by kernel_rfl) (by kernel_rfl) (by kernel_rfl) ?_; intro b263 off264 cs265 q266 a270 hq267 hP268 hT269 hF271; clear hF260
    have hp272 := hp262 q266 hq267; clear hp262
    obtain ⟨ao273, cap274, rfl, hs275⟩ := hT269
    have hp276 := hp272 (hs275.small); clear hp272
    refine st hF271 (.slice ao273 q266.length cap274) (by rw [wanted_of hF271 (b := true) rfl rfl (by kernel_rfl) (by kernel_rfl)]; rfl) rfl (by kernel_rfl) (lz hF271 hM246.fz hP268 0 (g := []) rfl (by kernel_rfl) (by kernel_rfl) (by kernel_rfl) rfl) ?_; intro a277 hF278; clear hF271
    refine fcl hF278 hM246 (.bool (beqS ((pbeginS u0).2.1) q266)) 37 #[.slice ao41 ((pbeginS u0).2.1).length cap42, .slice ao273 q266.length cap274] (by rw [wanted_of hF278 (b := true) rfl rfl (by kernel_rfl) (by kernel_rfl)]; rfl) rfl (by kernel_rfl) (fun _ => by kernel_rfl) (beq_fun ((pbeginS u0).2.1) q266 ao41 cap42 ao273 cap274 _ _ hs43 hs275 hM246.fz) ?_; intro a279 wd281 hF280 hM282; clear hF278 hM246
    refine s1 hF280 84 (.bool (beqS ((pbeginS u0).2.1) q266)) ?_; intro a283 hF284; clear hF280
    refine s1 hF284 85 (.bool (beqS ((pbeginS u0).2.1) q266)) ?_; intro a285 hF286; clear hF284
    have hF287 := hF286.atom ((beqS ((pbeginS u0).2.1) q266) == true) (by kernel_rfl); clear hF286
    refine gd hF287 (.agg #[.slice ao38 (((pbeginS u0).1).Data).length cap39, .int .i64 (((pbeginS u0).1).At), .int .i64 (((pbeginS u0).1).Next), .int .i64 (((pbeginS u0).1).Left), .bool (((pbeginS u0).1).Done)]) (m := 3) (cj := []) (bj := (beqS ((pbeginS u0).2.1) q266)) rfl rfl (by kernel_rfl) rfl (by kernel_rfl) (by kernel_rfl) (by kernel_rfl) (fun hg => lda hF287 hM282 1 (g := [3]) (b := b57) (off := 0) (k := 5) (cs := [.slice ao38 (((pbeginS u0).1).Data).length cap39, .int .i64 (((pbeginS u0).1).At), .int .i64 (((pbeginS u0).1).Next), .int .i64 (((pbeginS u0).1).Left), .bool (((pbeginS u0).1).Done)]) (vs := [.slice ao38 (((pbeginS u0).1).Data).length cap39, .int .i64 (((pbeginS u0).1).At), .int .i64 (((pbeginS u0).1).Next), .int .i64 (((pbeginS u0).1).Left), .bool (((pbeginS u0).1).Done)]) (ty := 53) rfl (by kernel_rfl) (by kernel_rfl) (by kernel_rfl) (by kernel_rfl) (by kernel_rfl) hg) ?_; intro a288 hF289; clear hF287
    refine gd hF289 (.agg #[.slice ao1 u0.length cap2, .int .i64 (u0.length : Int), .int .i64 1, .int .i64 0, .bool true]) (m := 3) (cj := []) (bj := (beqS ((pbeginS u0).2.1) q266)) rfl rfl (by kernel_rfl) rfl (by kernel_rfl) (by kernel_rfl) (by kernel_rfl) (fun hg => lda hF289 hM282 0 (g := [3]) (b := b182) (off := 0) (k := 5) (cs := [.slice ao1 u0.length cap2, .int .i64 (u0.length : Int), .int .i64 1, .int .i64 0, .bool true]) (vs := [.slice ao1 u0.length cap2, .int .i64 (u0.length : Int), .int .i64 1, .int .i64 0, .bool true]) (ty := 53) rfl (by kernel_rfl) (by kernel_rfl) (by kernel_rfl) (by kernel_rfl) (by kernel_rfl) hg) ?_; intro a290 hF291; clear hF289
    refine gcl hF291 hM282 (.bool (psames ((pbeginS u0).1) (⟨u0, (u0.length : Int), 1, 0, true⟩ : Sender))) 35 #[.agg #[.slice ao38 (((pbeginS u0).1).Data).length cap39, .int .i64 (((pbeginS u0).1).At), .int .i64 (((pbeginS u0).1).Next), .int .i64 (((pbeginS u0).1).Left), .bool (((pbeginS u0).1).Done)], .agg #[.slice ao1 u0.length cap2, .int .i64 (u0.length : Int), .int .i64 1, .int .i64 0, .bool true]] (m := 3) (cj := []) (bj := (beqS ((pbeginS u0).2.1) q266)) rfl rfl (by kernel_rfl) rfl (by kernel_rfl) (by kernel_rfl) (by kernel_rfl) (fun _ => by kernel_rfl) (fun hg => psames_fun ((pbeginS u0).1) (⟨u0, (u0.length : Int), 1, 0, true⟩ : Sender) ao38 cap39 ao1 cap2 _ _ hs40 hs3 hM282.fz) ?_; intro a292 wd294 hF293 hM295; clear hF291 hM282
    refine st hF293 (.bool ((beqS ((pbeginS u0).2.1) q266) && (psames ((pbeginS u0).1) (⟨u0, (u0.length : Int), 1, 0, true⟩ : Sender)))) (nog rfl _) rfl (by kernel_rfl) (pk_and hF293 (g := []) (m := 3) (b := (beqS ((pbeginS u0).2.1) q266)) (v := (psames ((pbeginS u0).1) (⟨u0, (u0.length : Int), 1, 0, true⟩ : Sender))) rfl (by kernel_rfl) (by kernel_rfl) (by kernel_rfl) rfl) ?_; intro a296 hF297; clear hF293
    refine s1 hF297 2 (.bool ((beqS ((pbeginS u0).2.1) q266) && (psames ((pbeginS u0).1) (⟨u0, (u0.length : Int), 1, 0, true⟩ : Sender)))) ?_; intro a298 hF299; clear hF297
    refine nlH (hQ212 _ _ ?_); clear hQ212 hQ212Q
    refine wp_ret ?_
    refine rt (fn := Try.f13) (v := .bool ((beqS ((pbeginS u0).2.1) q266) && (psames ((pbeginS u0).1) (⟨u0, (u0.length : Int), 1, 0, true⟩ : Sender)))) hF299 (re1 hF299 (fn := Try.f13) rfl (by kernel_rfl)) ?_
    exact ⟨(beqS ((pbeginS u0).2.1) q266) && (psames ((pbeginS u0).1) (⟨u0, (u0.length : Int), 1, 0, true⟩ : Sender)), rfl, hp276, hM295.below⟩
   · -- false
    have hp300 := hp199.2 hb256; clear hp199
    have hF301 := hF255.reval (d := 78) (c := []) (v := .bool (((((psplitS u0).2) == 0) && (((pbeginS u0).2.2) == 0)) && (psamep ((psplitS u0).1) (ppartsofS u0)))) (by kernel_rfl) (.bool false) (by rw [hb256]); clear hF255
    have hF302 := hF301.setc (d := 79) (c := [2]) (v := .slice ao41 ((pbeginS u0).2.1).length cap42) (by kernel_rfl) (v' := undef) (by rw [hb256]; kernel_rfl); clear hF301
    have hF303 := hF302.setc (d := 80) (c := [2]) (v := .slice ao169 (ppartsofS u0).length cap170) (by kernel_rfl) (v' := undef) (by rw [hb256]; kernel_rfl); clear hF302
    refine sk hF303 (b := false) rfl rfl (by kernel_rfl) (by kernel_rfl) rfl rfl (by kernel_rfl) ?_; intro a304 hF305; clear hF303
    refine sk hF305 (b := false) rfl rfl (by kernel_rfl) (by kernel_rfl) rfl rfl (by kernel_rfl) ?_; intro a306 hF307; clear hF305
    refine sk hF307 (b := false) rfl rfl (by kernel_rfl) (by kernel_rfl) rfl rfl (by kernel_rfl) ?_; intro a308 hF309; clear hF307
    refine s1 hF309 84 (.bool false) ?_; intro a310 hF311; clear hF309
    refine s1 hF311 85 (.bool false) ?_; intro a312 hF313; clear hF311
    refine sk hF313 (b := false) rfl rfl (by kernel_rfl) (by kernel_rfl) rfl rfl (by kernel_rfl) ?_; intro a314 hF315; clear hF313
    refine sk hF315 (b := false) rfl rfl (by kernel_rfl) (by kernel_rfl) rfl rfl (by kernel_rfl) ?_; intro a316 hF317; clear hF315
    refine sk hF317 (b := false) rfl rfl (by kernel_rfl) (by kernel_rfl) rfl rfl (by kernel_rfl) ?_; intro a318 hF319; clear hF317
    refine s1 hF319 89 (.bool false) ?_; intro a320 hF321; clear hF319
    refine s1 hF321 2 (.bool false) ?_; intro a322 hF323; clear hF321
    refine nlH (hQ212 _ _ ?_); clear hQ212 hQ212Q
    refine wp_ret ?_
    refine rt (fn := Try.f13) (v := .bool false) hF323 (re1 hF323 (fn := Try.f13) rfl (by kernel_rfl)) ?_
    exact ⟨false, rfl, hp300, hM246.below⟩
  · -- no
   have hp324 := hp174.2 hb198; clear hp174
   refine wp_skip ?_
   refine thn ?_
   refine sqH ?_; intro hQ325Q hQ325
   refine s1 hF197 67 (.int .i64 ((psplitS u0).2)) ?_; intro a326 hF327; clear hF197
   refine s1 hF327 68 (.bool (((psplitS u0).2) == 0)) ?_; intro a328 hF329; clear hF327
   refine s1 hF329 69 (.bool (((psplitS u0).2) == 0)) ?_; intro a330 hF331; clear hF329
   have hF332 := hF331.atom ((((psplitS u0).2) == 0) == true) (by kernel_rfl); clear hF331
   refine gp hF332 70 0 [] (((psplitS u0).2) == 0) (.int .i64 ((pbeginS u0).2.2)) rfl rfl ?_; intro a333 hF334; clear hF332
   refine gp hF334 71 0 [] (((psplitS u0).2) == 0) (.bool (((pbeginS u0).2.2) == 0)) rfl rfl ?_; intro a335 hF336; clear hF334
   refine st hF336 (.bool ((((psplitS u0).2) == 0) && (((pbeginS u0).2.2) == 0))) (nog rfl _) rfl (by kernel_rfl) (pk_and hF336 (g := []) (m := 0) (b := ((psplitS u0).2) == 0) (v := ((pbeginS u0).2.2) == 0) rfl (by kernel_rfl) (by kernel_rfl) (by kernel_rfl) rfl) ?_; intro a337 hF338; clear hF336
   refine s1 hF338 73 (.bool ((((psplitS u0).2) == 0) && (((pbeginS u0).2.2) == 0))) ?_; intro a339 hF340; clear hF338
   have hF341 := hF340.atom (((((psplitS u0).2) == 0) && (((pbeginS u0).2.2) == 0)) == true) (by kernel_rfl); clear hF340
   refine gp hF341 74 1 [] ((((psplitS u0).2) == 0) && (((pbeginS u0).2.2) == 0)) (.slice ao15 ((psplitS u0).1).length cap16) rfl rfl ?_; intro a342 hF343; clear hF341
   refine gp hF343 75 1 [] ((((psplitS u0).2) == 0) && (((pbeginS u0).2.2) == 0)) (.slice ao169 (ppartsofS u0).length cap170) rfl rfl ?_; intro a344 hF345; clear hF343
   obtain ⟨Z346, hle347, hM348, hs349⟩ := hM189.freeze 3 rfl
   replace hs3 := hs3.mono hle347
   replace hs40 := hs40.mono hle347
   replace hs43 := hs43.mono hle347
   replace hle0 := Fz.le.trans hle0 hle347
   have hM350 : Mem w.heap.size [] w Z [.row b182 [.slice ao1 u0.length cap2, .int .i64 6, .int .i64 1, .int .i64 (-1), .bool false] 53, .own (tySl (tyInt .u8)) 36 ao169 cap170 (ppartsofS u0), .row b57 [.slice ao38 (((pbeginS u0).1).Data).length cap39, .int .i64 (((pbeginS u0).1).At), .int .i64 (((pbeginS u0).1).Next), .int .i64 (((pbeginS u0).1).Left), .bool (((pbeginS u0).1).Done)] 53] Z346 wd187 := hM348; clear hM348
   obtain ⟨Z351, hle352, hM353, hs354⟩ := hM350.freeze 1 rfl
   replace hs3 := hs3.mono hle352
   replace hs40 := hs40.mono hle352
   replace hs43 := hs43.mono hle352
   replace hs349 := hs349.mono hle352
   replace hle0 := Fz.le.trans hle0 hle352
   have hM355 : Mem w.heap.size [] w Z [.row b182 [.slice ao1 u0.length cap2, .int .i64 6, .int .i64 1, .int .i64 (-1), .bool false] 53, .row b57 [.slice ao38 (((pbeginS u0).1).Data).length cap39, .int .i64 (((pbeginS u0).1).At), .int .i64 (((pbeginS u0).1).Next), .int .i64 (((pbeginS u0).1).Left), .bool (((pbeginS u0).1).Done)] 53] Z351 wd187 := hM353; clear hM353
   refine gcl hF345 hM355 (.bool (psamep ((psplitS u0).1) (ppartsofS u0))) 44 #[.slice ao15 ((psplitS u0).1).length cap16, .slice ao169 (ppartsofS u0).length cap170] (m := 1) (cj := []) (bj := (((psplitS u0).2) == 0) && (((pbeginS u0).2.2) == 0)) rfl rfl (by kernel_rfl) rfl (by kernel_rfl) (by kernel_rfl) (by kernel_rfl) (fun _ => by kernel_rfl) (fun hg => psamep_fun ((psplitS u0).1) (ppartsofS u0) ao15 cap16 ao169 cap170 _ _ hs349 hs354 hM355.fz) ?_; intro a356 wd358 hF357 hM359; clear hF345 hM355
   refine st hF357 (.bool (((((psplitS u0).2) == 0) && (((pbeginS u0).2.2) == 0)) && (psamep ((psplitS u0).1) (ppartsofS u0)))) (nog rfl _) rfl (by kernel_rfl) (pk_and hF357 (g := []) (m := 1) (b := (((psplitS u0).2) == 0) && (((pbeginS u0).2.2) == 0)) (v := (psamep ((psplitS u0).1) (ppartsofS u0))) rfl (by kernel_rfl) (by kernel_rfl) (by kernel_rfl) rfl) ?_; intro a360 hF361; clear hF357
   refine s1 hF361 78 (.bool (((((psplitS u0).2) == 0) && (((pbeginS u0).2.2) == 0)) && (psamep ((psplitS u0).1) (ppartsofS u0)))) ?_; intro a362 hF363; clear hF361
   have hF364 := hF363.atom ((((((psplitS u0).2) == 0) && (((pbeginS u0).2.2) == 0)) && (psamep ((psplitS u0).1) (ppartsofS u0))) == true) (by kernel_rfl); clear hF363
   refine gp hF364 79 2 [] (((((psplitS u0).2) == 0) && (((pbeginS u0).2.2) == 0)) && (psamep ((psplitS u0).1) (ppartsofS u0))) (.slice ao41 ((pbeginS u0).2.1).length cap42) rfl rfl ?_; intro a365 hF366; clear hF364
   refine gp hF366 80 2 [] (((((psplitS u0).2) == 0) && (((pbeginS u0).2.2) == 0)) && (psamep ((psplitS u0).1) (ppartsofS u0))) (.slice ao169 (ppartsofS u0).length cap170) rfl rfl ?_; intro a367 hF368; clear hF366
   rcases Bool.eq_false_or_eq_true (((((psplitS u0).2) == 0) && (((pbeginS u0).2.2) == 0)) && (psamep ((psplitS u0).1) (ppartsofS u0))) with hb369 | hb369
   · -- true
    have hp370 := hp324.1 hb369; clear hp324
    have hF371 := hF368.reval (d := 78) (c := []) (v := .bool (((((psplitS u0).2) == 0) && (((pbeginS u0).2.2) == 0)) && (psamep ((psplitS u0).1) (ppartsofS u0)))) (by kernel_rfl) (.bool true) (by rw [hb369]); clear hF368
    have hF372 := hF371.setc (d := 79) (c := [2]) (v := .slice ao41 ((pbeginS u0).2.1).length cap42) (by kernel_rfl) (v' := .slice ao41 ((pbeginS u0).2.1).length cap42) (by rw [hb369]; kernel_rfl); clear hF371
    have hF373 := hF372.setc (d := 80) (c := [2]) (v := .slice ao169 (ppartsofS u0).length cap170) (by kernel_rfl) (v' := .slice ao169 (ppartsofS u0).length cap170) (by rw [hb369]; kernel_rfl); clear hF372
    have hc374 := hp370.1; have hp375 := hp370.2; clear hp370
    refine ix hF373 (T := (tySl (tyInt .u8))) (xs := (ppartsofS u0)) hs354 (0 : Int) hc374 (k := .i64) (e := 36) (bytes := 24) (by rw [wanted_of hF373 (b := true) rfl rfl (by kernel_rfl) (by kernel_rfl)]; rfl) rfl (by kernel_rfl) rfl (by kernel_rfl) (by kernel_rfl) (by kernel_rfl) ?_; intro b376 off377 cs378 q379 a383 hq380 hP381 hT382 hF384; clear hF373
    have hp385 := hp375 q379 hq380; clear hp375
    obtain ⟨ao386, cap387, rfl, hs388⟩ := hT382
    have hp389 := hp385 (hs388.small); clear hp385
    refine st hF384 (.slice ao386 q379.length cap387) (by rw [wanted_of hF384 (b := true) rfl rfl (by kernel_rfl) (by kernel_rfl)]; rfl) rfl (by kernel_rfl) (lz hF384 hM359.fz hP381 0 (g := []) rfl (by kernel_rfl) (by kernel_rfl) (by kernel_rfl) rfl) ?_; intro a390 hF391; clear hF384
    refine fcl hF391 hM359 (.bool (beqS ((pbeginS u0).2.1) q379)) 37 #[.slice ao41 ((pbeginS u0).2.1).length cap42, .slice ao386 q379.length cap387] (by rw [wanted_of hF391 (b := true) rfl rfl (by kernel_rfl) (by kernel_rfl)]; rfl) rfl (by kernel_rfl) (fun _ => by kernel_rfl) (beq_fun ((pbeginS u0).2.1) q379 ao41 cap42 ao386 cap387 _ _ hs43 hs388 hM359.fz) ?_; intro a392 wd394 hF393 hM395; clear hF391 hM359
    refine s1 hF393 84 (.bool (beqS ((pbeginS u0).2.1) q379)) ?_; intro a396 hF397; clear hF393
    refine s1 hF397 85 (.bool (beqS ((pbeginS u0).2.1) q379)) ?_; intro a398 hF399; clear hF397
    have hF400 := hF399.atom ((beqS ((pbeginS u0).2.1) q379) == true) (by kernel_rfl); clear hF399
    refine gd hF400 (.agg #[.slice ao38 (((pbeginS u0).1).Data).length cap39, .int .i64 (((pbeginS u0).1).At), .int .i64 (((pbeginS u0).1).Next), .int .i64 (((pbeginS u0).1).Left), .bool (((pbeginS u0).1).Done)]) (m := 3) (cj := []) (bj := (beqS ((pbeginS u0).2.1) q379)) rfl rfl (by kernel_rfl) rfl (by kernel_rfl) (by kernel_rfl) (by kernel_rfl) (fun hg => lda hF400 hM395 1 (g := [3]) (b := b57) (off := 0) (k := 5) (cs := [.slice ao38 (((pbeginS u0).1).Data).length cap39, .int .i64 (((pbeginS u0).1).At), .int .i64 (((pbeginS u0).1).Next), .int .i64 (((pbeginS u0).1).Left), .bool (((pbeginS u0).1).Done)]) (vs := [.slice ao38 (((pbeginS u0).1).Data).length cap39, .int .i64 (((pbeginS u0).1).At), .int .i64 (((pbeginS u0).1).Next), .int .i64 (((pbeginS u0).1).Left), .bool (((pbeginS u0).1).Done)]) (ty := 53) rfl (by kernel_rfl) (by kernel_rfl) (by kernel_rfl) (by kernel_rfl) (by kernel_rfl) hg) ?_; intro a401 hF402; clear hF400
    refine gd hF402 (.agg #[.slice ao1 u0.length cap2, .int .i64 6, .int .i64 1, .int .i64 (-1), .bool false]) (m := 3) (cj := []) (bj := (beqS ((pbeginS u0).2.1) q379)) rfl rfl (by kernel_rfl) rfl (by kernel_rfl) (by kernel_rfl) (by kernel_rfl) (fun hg => lda hF402 hM395 0 (g := [3]) (b := b182) (off := 0) (k := 5) (cs := [.slice ao1 u0.length cap2, .int .i64 6, .int .i64 1, .int .i64 (-1), .bool false]) (vs := [.slice ao1 u0.length cap2, .int .i64 6, .int .i64 1, .int .i64 (-1), .bool false]) (ty := 53) rfl (by kernel_rfl) (by kernel_rfl) (by kernel_rfl) (by kernel_rfl) (by kernel_rfl) hg) ?_; intro a403 hF404; clear hF402
    refine gcl hF404 hM395 (.bool (psames ((pbeginS u0).1) (⟨u0, 6, 1, -1, false⟩ : Sender))) 35 #[.agg #[.slice ao38 (((pbeginS u0).1).Data).length cap39, .int .i64 (((pbeginS u0).1).At), .int .i64 (((pbeginS u0).1).Next), .int .i64 (((pbeginS u0).1).Left), .bool (((pbeginS u0).1).Done)], .agg #[.slice ao1 u0.length cap2, .int .i64 6, .int .i64 1, .int .i64 (-1), .bool false]] (m := 3) (cj := []) (bj := (beqS ((pbeginS u0).2.1) q379)) rfl rfl (by kernel_rfl) rfl (by kernel_rfl) (by kernel_rfl) (by kernel_rfl) (fun _ => by kernel_rfl) (fun hg => psames_fun ((pbeginS u0).1) (⟨u0, 6, 1, -1, false⟩ : Sender) ao38 cap39 ao1 cap2 _ _ hs40 hs3 hM395.fz) ?_; intro a405 wd407 hF406 hM408; clear hF404 hM395
    refine st hF406 (.bool ((beqS ((pbeginS u0).2.1) q379) && (psames ((pbeginS u0).1) (⟨u0, 6, 1, -1, false⟩ : Sender)))) (nog rfl _) rfl (by kernel_rfl) (pk_and hF406 (g := []) (m := 3) (b := (beqS ((pbeginS u0).2.1) q379)) (v := (psames ((pbeginS u0).1) (⟨u0, 6, 1, -1, false⟩ : Sender))) rfl (by kernel_rfl) (by kernel_rfl) (by kernel_rfl) rfl) ?_; intro a409 hF410; clear hF406
    refine s1 hF410 2 (.bool ((beqS ((pbeginS u0).2.1) q379) && (psames ((pbeginS u0).1) (⟨u0, 6, 1, -1, false⟩ : Sender)))) ?_; intro a411 hF412; clear hF410
    refine nlH (hQ325 _ _ ?_); clear hQ325 hQ325Q
    refine wp_ret ?_
    refine rt (fn := Try.f13) (v := .bool ((beqS ((pbeginS u0).2.1) q379) && (psames ((pbeginS u0).1) (⟨u0, 6, 1, -1, false⟩ : Sender)))) hF412 (re1 hF412 (fn := Try.f13) rfl (by kernel_rfl)) ?_
    exact ⟨(beqS ((pbeginS u0).2.1) q379) && (psames ((pbeginS u0).1) (⟨u0, 6, 1, -1, false⟩ : Sender)), rfl, hp389, hM408.below⟩
   · -- false
    have hp413 := hp324.2 hb369; clear hp324
    have hF414 := hF368.reval (d := 78) (c := []) (v := .bool (((((psplitS u0).2) == 0) && (((pbeginS u0).2.2) == 0)) && (psamep ((psplitS u0).1) (ppartsofS u0)))) (by kernel_rfl) (.bool false) (by rw [hb369]); clear hF368
    have hF415 := hF414.setc (d := 79) (c := [2]) (v := .slice ao41 ((pbeginS u0).2.1).length cap42) (by kernel_rfl) (v' := undef) (by rw [hb369]; kernel_rfl); clear hF414
    have hF416 := hF415.setc (d := 80) (c := [2]) (v := .slice ao169 (ppartsofS u0).length cap170) (by kernel_rfl) (v' := undef) (by rw [hb369]; kernel_rfl); clear hF415
    refine sk hF416 (b := false) rfl rfl (by kernel_rfl) (by kernel_rfl) rfl rfl (by kernel_rfl) ?_; intro a417 hF418; clear hF416
    refine sk hF418 (b := false) rfl rfl (by kernel_rfl) (by kernel_rfl) rfl rfl (by kernel_rfl) ?_; intro a419 hF420; clear hF418
    refine sk hF420 (b := false) rfl rfl (by kernel_rfl) (by kernel_rfl) rfl rfl (by kernel_rfl) ?_; intro a421 hF422; clear hF420
    refine s1 hF422 84 (.bool false) ?_; intro a423 hF424; clear hF422
    refine s1 hF424 85 (.bool false) ?_; intro a425 hF426; clear hF424
    refine sk hF426 (b := false) rfl rfl (by kernel_rfl) (by kernel_rfl) rfl rfl (by kernel_rfl) ?_; intro a427 hF428; clear hF426
    refine sk hF428 (b := false) rfl rfl (by kernel_rfl) (by kernel_rfl) rfl rfl (by kernel_rfl) ?_; intro a429 hF430; clear hF428
    refine sk hF430 (b := false) rfl rfl (by kernel_rfl) (by kernel_rfl) rfl rfl (by kernel_rfl) ?_; intro a431 hF432; clear hF430
    refine s1 hF432 89 (.bool false) ?_; intro a433 hF434; clear hF432
    refine s1 hF434 2 (.bool false) ?_; intro a435 hF436; clear hF434
    refine nlH (hQ325 _ _ ?_); clear hQ325 hQ325Q
    refine wp_ret ?_
    refine rt (fn := Try.f13) (v := .bool false) hF436 (re1 hF436 (fn := Try.f13) rfl (by kernel_rfl)) ?_
    exact ⟨false, rfl, hp413, hM359.below⟩

end Go.Proofs.Ytkogkombalcgeaa
