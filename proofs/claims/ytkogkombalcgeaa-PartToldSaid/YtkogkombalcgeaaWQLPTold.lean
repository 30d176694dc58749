/- The walks, made by program: each call does what its pure predicate says. -/
import Derived.Test.YtkogkombalcgeaaWQ
set_option linter.unusedVariables false
set_option linter.unusedSimpArgs false
namespace Go.Proofs.Ytkogkombalcgeaa
open Go.Sy Go.RowKit
set_option maxRecDepth 100000 in
theorem LPTold_walk (u0 : Sender) (u1 : List Int) (ao1 : Option Addr) (cap2 : Nat) (ao4 : Option Addr) (cap5 : Nat) (Z : Fz) (w : World) (hs3 : SlR (tyInt .u8) Z ao1 cap2 u0.Data) (hs6 : SlR (tyInt .u8) Z ao4 cap5 u1) (hZ : Z.on w) {K : Bool → Prop} (hp : LPTold_vc u0 u1 K) : Calls Try.prog 9 #[.agg #[.slice ao1 u0.Data.length cap2, .int .i64 u0.At, .int .i64 u0.Next, .int .i64 u0.Left, .bool u0.Done], .slice ao4 u1.length cap5] w fun e w' => ∃ r : Bool, e = .returned (.bool r) ∧ K r ∧ Below w.heap.size w w' := by
 refine enter0 Try.func9 rfl rfl (by kernel_rfl) ?_; intro a0 hF0; have hM0 := Mem.start w Z hZ; have hle0 := Fz.le.refl Z
 have hp7 := hp (hs3.small); clear hp
 have hp8 := hp7 (hs6.small); clear hp7
 refine sqH ?_; intro hQ9Q hQ9
 refine sn hF0 hM0 (fun b => .pointer (some ⟨b, 0, none⟩)) [.slice ao1 u0.Data.length cap2, .int .i64 u0.At, .int .i64 u0.Next, .int .i64 u0.Left, .bool u0.Done] 53 (nog rfl _) rfl (by kernel_rfl) (by kernel_rfl) ?_; intro b10 a11 wd13 hF12 hM14; clear hF0 hM0
 refine s1 hF12 4 (.bool false) ?_; intro a15 hF16; clear hF12
 refine nlH (hQ9 _ _ ?_); clear hQ9 hQ9Q
 refine sqH ?_; intro hQ17Q hQ17
 refine l2 hF16 hM14 15 0 0 5 [.slice ao1 u0.Data.length cap2, .int .i64 u0.At, .int .i64 u0.Next, .int .i64 u0.Left, .bool u0.Done] rfl rfl ?_; intro a18 hF19; clear hF16
 refine s1 hF19 16 (.slice ao4 u1.length cap5) ?_; intro a20 hF21; clear hF19
 refine cl hF21 30 #[.agg #[.slice ao1 u0.Data.length cap2, .int .i64 u0.At, .int .i64 u0.Next, .int .i64 u0.Left, .bool u0.Done], .slice ao4 u1.length cap5] (nog rfl _) rfl (by kernel_rfl) (by kernel_rfl) ?_
 refine (ptold_fun u0 u1 ao1 cap2 ao4 cap5 _ _ hs3 hs6 hM14.fz).mono ?_; rintro _ wd22 ⟨ao26, cap27, Z29, rfl, hs28, hm⟩; refine ⟨_, rfl, ?_⟩; intro a23 hF24; have hM25 := hM14.callZ hm; have hle30 := hm.ext.le; clear hm hM14 hF21
 replace hs3 := hs3.mono hle30
 replace hs6 := hs6.mono hle30
 replace hle0 := Fz.le.trans hle0 hle30
 have hM31 : Mem w.heap.size [] w Z [.row b10 [.slice ao1 u0.Data.length cap2, .int .i64 u0.At, .int .i64 u0.Next, .int .i64 u0.Left, .bool u0.Done] 53] Z29 wd22 := hM25; clear hM25
 have hp32 := hp8 (hs28.small); clear hp8
 refine s1 hF24 14 (.tuple #[.agg #[.slice ao26 (((ptold u0 u1).1).Data).length cap27, .int .i64 (((ptold u0 u1).1).At), .int .i64 (((ptold u0 u1).1).Next), .int .i64 (((ptold u0 u1).1).Left), .bool (((ptold u0 u1).1).Done)], .int .i64 ((ptold u0 u1).2)]) ?_; intro a33 hF34; clear hF24
 refine s1 hF34 18 (.agg #[.slice ao26 (((ptold u0 u1).1).Data).length cap27, .int .i64 (((ptold u0 u1).1).At), .int .i64 (((ptold u0 u1).1).Next), .int .i64 (((ptold u0 u1).1).Left), .bool (((ptold u0 u1).1).Done)]) ?_; intro a35 hF36; clear hF34
 refine s1 hF36 19 (.int .i64 ((ptold u0 u1).2)) ?_; intro a37 hF38; clear hF36
 refine sn hF38 hM31 (fun b => .pointer (some ⟨b, 0, none⟩)) [.slice none 0 0, .int .i64 0, .int .i64 0, .int .i64 0, .bool false] 53 (nog rfl _) rfl (by kernel_rfl) (by kernel_rfl) ?_; intro b39 a40 wd42 hF41 hM43; clear hF38 hM31
 refine sr hF41 hM43 0 [.slice ao26 (((ptold u0 u1).1).Data).length cap27, .int .i64 (((ptold u0 u1).1).At), .int .i64 (((ptold u0 u1).1).Next), .int .i64 (((ptold u0 u1).1).Left), .bool (((ptold u0 u1).1).Done)] (b := b39) (off := 0) (cs := [.slice none 0 0, .int .i64 0, .int .i64 0, .int .i64 0, .bool false]) (ty := 53) (u := .agg #[.slice ao26 (((ptold u0 u1).1).Data).length cap27, .int .i64 (((ptold u0 u1).1).At), .int .i64 (((ptold u0 u1).1).Next), .int .i64 (((ptold u0 u1).1).Left), .bool (((ptold u0 u1).1).Done)]) (nog rfl _) rfl rfl (by kernel_rfl) (by kernel_rfl) (by kernel_rfl) (by kernel_rfl) (by kernel_rfl) (by kernel_rfl) (by kernel_rfl) ?_; intro wd44 hM45; clear hM43
 refine s1 hF41 6 (.int .i64 ((ptold u0 u1).2)) ?_; intro a46 hF47; clear hF41
 have hM48 : Mem w.heap.size [] w Z [.row b39 [.slice ao26 (((ptold u0 u1).1).Data).length cap27, .int .i64 (((ptold u0 u1).1).At), .int .i64 (((ptold u0 u1).1).Next), .int .i64 (((ptold u0 u1).1).Left), .bool (((ptold u0 u1).1).Done)] 53, .row b10 [.slice ao1 u0.Data.length cap2, .int .i64 u0.At, .int .i64 u0.Next, .int .i64 u0.Left, .bool u0.Done] 53] Z29 wd44 := hM45; clear hM45
 refine nlH (hQ17 _ _ ?_); clear hQ17 hQ17Q
 refine sqH ?_; intro hQ49Q hQ49
 refine l2 hF47 hM48 21 1 0 5 [.slice ao1 u0.Data.length cap2, .int .i64 u0.At, .int .i64 u0.Next, .int .i64 u0.Left, .bool u0.Done] rfl rfl ?_; intro a50 hF51; clear hF47
 refine cl hF51 31 #[.agg #[.slice ao1 u0.Data.length cap2, .int .i64 u0.At, .int .i64 u0.Next, .int .i64 u0.Left, .bool u0.Done]] (nog rfl _) rfl (by kernel_rfl) (by kernel_rfl) ?_
 refine (pnext_fun u0 ao1 cap2 _ _ hs3 hM48.fz).mono ?_; rintro _ wd52 ⟨ao56, cap57, ao59, cap60, Z61, rfl, hs58, hm⟩; refine ⟨_, rfl, ?_⟩; intro a53 hF54; have hM55 := hM48.callZ hm; have hle62 := hm.ext.le; clear hm hM48 hF51
 replace hs3 := hs3.mono hle62
 replace hs6 := hs6.mono hle62
 replace hs28 := hs28.mono hle62
 replace hle0 := Fz.le.trans hle0 hle62
 have hM63 : Mem w.heap.size [] w Z [.own (tyInt .u8) 5 ao59 cap60 ((pnext u0).2.1), .row b39 [.slice ao26 (((ptold u0 u1).1).Data).length cap27, .int .i64 (((ptold u0 u1).1).At), .int .i64 (((ptold u0 u1).1).Next), .int .i64 (((ptold u0 u1).1).Left), .bool (((ptold u0 u1).1).Done)] 53, .row b10 [.slice ao1 u0.Data.length cap2, .int .i64 u0.At, .int .i64 u0.Next, .int .i64 u0.Left, .bool u0.Done] 53] Z61 wd52 := hM55; clear hM55
 have hp64 := hp32 (hM63.ownSmall 0 rfl); clear hp32
 have hp65 := hp64 (hs58.small); clear hp64
 refine s1 hF54 20 (.tuple #[.agg #[.slice ao56 (((pnext u0).1).Data).length cap57, .int .i64 (((pnext u0).1).At), .int .i64 (((pnext u0).1).Next), .int .i64 (((pnext u0).1).Left), .bool (((pnext u0).1).Done)], .slice ao59 ((pnext u0).2.1).length cap60, .int .i64 ((pnext u0).2.2)]) ?_; intro a66 hF67; clear hF54
 refine s1 hF67 23 (.agg #[.slice ao56 (((pnext u0).1).Data).length cap57, .int .i64 (((pnext u0).1).At), .int .i64 (((pnext u0).1).Next), .int .i64 (((pnext u0).1).Left), .bool (((pnext u0).1).Done)]) ?_; intro a68 hF69; clear hF67
 refine s1 hF69 24 (.slice ao59 ((pnext u0).2.1).length cap60) ?_; intro a70 hF71; clear hF69
 refine s1 hF71 25 (.int .i64 ((pnext u0).2.2)) ?_; intro a72 hF73; clear hF71
 refine sn hF73 hM63 (fun b => .pointer (some ⟨b, 0, none⟩)) [.slice none 0 0, .int .i64 0, .int .i64 0, .int .i64 0, .bool false] 53 (nog rfl _) rfl (by kernel_rfl) (by kernel_rfl) ?_; intro b74 a75 wd77 hF76 hM78; clear hF73 hM63
 refine sr hF76 hM78 0 [.slice ao56 (((pnext u0).1).Data).length cap57, .int .i64 (((pnext u0).1).At), .int .i64 (((pnext u0).1).Next), .int .i64 (((pnext u0).1).Left), .bool (((pnext u0).1).Done)] (b := b74) (off := 0) (cs := [.slice none 0 0, .int .i64 0, .int .i64 0, .int .i64 0, .bool false]) (ty := 53) (u := .agg #[.slice ao56 (((pnext u0).1).Data).length cap57, .int .i64 (((pnext u0).1).At), .int .i64 (((pnext u0).1).Next), .int .i64 (((pnext u0).1).Left), .bool (((pnext u0).1).Done)]) (nog rfl _) rfl rfl (by kernel_rfl) (by kernel_rfl) (by kernel_rfl) (by kernel_rfl) (by kernel_rfl) (by kernel_rfl) (by kernel_rfl) ?_; intro wd79 hM80; clear hM78
 refine s1 hF76 8 (.slice ao59 ((pnext u0).2.1).length cap60) ?_; intro a81 hF82; clear hF76
 refine s1 hF82 9 (.int .i64 ((pnext u0).2.2)) ?_; intro a83 hF84; clear hF82
 have hM85 : Mem w.heap.size [] w Z [.row b74 [.slice ao56 (((pnext u0).1).Data).length cap57, .int .i64 (((pnext u0).1).At), .int .i64 (((pnext u0).1).Next), .int .i64 (((pnext u0).1).Left), .bool (((pnext u0).1).Done)] 53, .own (tyInt .u8) 5 ao59 cap60 ((pnext u0).2.1), .row b39 [.slice ao26 (((ptold u0 u1).1).Data).length cap27, .int .i64 (((ptold u0 u1).1).At), .int .i64 (((ptold u0 u1).1).Next), .int .i64 (((ptold u0 u1).1).Left), .bool (((ptold u0 u1).1).Done)] 53, .row b10 [.slice ao1 u0.Data.length cap2, .int .i64 u0.At, .int .i64 u0.Next, .int .i64 u0.Left, .bool u0.Done] 53] Z61 wd79 := hM80; clear hM80
 refine nlH (hQ49 _ _ ?_); clear hQ49 hQ49Q
 have hF86 : Fr 201 [] [⟨1, [], .slice ao4 u1.length cap5⟩, ⟨2, [], .pointer (some ⟨b10, 0, none⟩)⟩, ⟨5, [], .pointer (some ⟨b39, 0, none⟩)⟩, ⟨6, [], .int .i64 ((ptold u0 u1).2)⟩, ⟨7, [], .pointer (some ⟨b74, 0, none⟩)⟩, ⟨8, [], .slice ao59 ((pnext u0).2.1).length cap60⟩, ⟨9, [], .int .i64 ((pnext u0).2.2)⟩] a83 := hF84.region (by kernel_rfl) (by kernel_rfl); clear hF84
 refine sqH ?_; intro hQ87Q hQ87
 refine l2 hF86 hM85 26 3 0 5 [.slice ao1 u0.Data.length cap2, .int .i64 u0.At, .int .i64 u0.Next, .int .i64 u0.Left, .bool u0.Done] rfl rfl ?_; intro a88 hF89; clear hF86
 refine fcl hF89 hM85 (.int .i64 (pchecks u0)) 32 #[.agg #[.slice ao1 u0.Data.length cap2, .int .i64 u0.At, .int .i64 u0.Next, .int .i64 u0.Left, .bool u0.Done]] (nog rfl _) rfl (by kernel_rfl) (fun _ => by kernel_rfl) (rchecks_fun u0 ao1 cap2 _ _ hs3 hM85.fz) ?_; intro a90 wd92 hF91 hM93; clear hF89 hM85
 refine s1 hF91 10 (.int .i64 (pchecks u0)) ?_; intro a94 hF95; clear hF91
 refine nlH (hQ87 _ _ ?_); clear hQ87 hQ87Q
 refine wp_seq ?_
 refine sqH ?_; intro hQ96Q hQ96
 refine fcl hF95 hM93 (.bool true) 33 #[] (nog rfl _) rfl (by kernel_rfl) (fun _ => by kernel_rfl) (parted_fun  _ _ hM93.fz) ?_; intro a97 wd99 hF98 hM100; clear hF95 hM93
 refine s1 hF98 29 (.bool false) ?_; intro a101 hF102; clear hF98
 refine s1 hF102 30 (.bool false) ?_; intro a103 hF104; clear hF102
 refine st hF104 (.agg #[.slice ao1 u0.Data.length cap2, .int .i64 u0.At, .int .i64 u0.Next, .int .i64 u0.Left, .bool u0.Done]) (by rw [wanted_of hF104 (b := false) rfl rfl (by kernel_rfl) (by kernel_rfl)]; rfl) rfl (by kernel_rfl) (lda hF104 hM100 3 (g := []) (b := b10) (off := 0) (k := 5) (cs := [.slice ao1 u0.Data.length cap2, .int .i64 u0.At, .int .i64 u0.Next, .int .i64 u0.Left, .bool u0.Done]) (vs := [.slice ao1 u0.Data.length cap2, .int .i64 u0.At, .int .i64 u0.Next, .int .i64 u0.Left, .bool u0.Done]) (ty := 53) rfl (by kernel_rfl) (by kernel_rfl) (by kernel_rfl) (by kernel_rfl) (by kernel_rfl) rfl) ?_; intro a105 hF106; clear hF104
 refine fcl hF106 hM100 (.int .i64 (pchecks u0)) 34 #[.agg #[.slice ao1 u0.Data.length cap2, .int .i64 u0.At, .int .i64 u0.Next, .int .i64 u0.Left, .bool u0.Done]] (by rw [wanted_of hF106 (b := false) rfl rfl (by kernel_rfl) (by kernel_rfl)]; rfl) rfl (by kernel_rfl) (fun _ => by kernel_rfl) (pchecks_fun u0 ao1 cap2 _ _ hs3 hM100.fz) ?_; intro a107 wd109 hF108 hM110; clear hF106 hM100
 refine st hF108 (.int .i64 (pchecks u0)) (by rw [wanted_of hF108 (b := false) rfl rfl (by kernel_rfl) (by kernel_rfl)]; rfl) rfl (by kernel_rfl) (p0 hF108 (by kernel_rfl)) ?_; intro a111 hF112; clear hF108
 refine st hF112 (.bool ((pchecks u0) != (pchecks u0))) (by rw [wanted_of hF112 (b := false) rfl rfl (by kernel_rfl) (by kernel_rfl)]; rfl) rfl (by kernel_rfl) (p0 hF112 (by kernel_rfl)) ?_; intro a113 hF114; clear hF112
 refine s1 hF114 35 (.bool ((pchecks u0) != (pchecks u0))) ?_; intro a115 hF116; clear hF114
 refine nlH (hQ96 _ _ ?_); clear hQ96 hQ96Q
 refine cd hF116 (t := (pchecks u0) != (pchecks u0)) (by kernel_rfl) (fun hb117 => ?_) (fun hb117 => ?_)
 · -- yes
  have hp118 := hp65.1 hb117; clear hp65
  refine sqH ?_; intro hQ119Q hQ119
  refine s1 hF116 4 (.bool false) ?_; intro a120 hF121; clear hF116
  refine nlH (hQ119 _ _ ?_); clear hQ119 hQ119Q
  refine wp_ret ?_
  refine thr ?_
  refine rt (fn := Try.f9) (v := .bool false) hF121 (re1 hF121 (fn := Try.f9) rfl (by kernel_rfl)) ?_
  exact ⟨false, rfl, hp118, hM110.below⟩
 · -- no
  have hp122 := hp65.2 hb117; clear hp65
  refine wp_skip ?_
  refine thn ?_
  refine wp_seq ?_
  refine sqH ?_; intro hQ123Q hQ123
  refine s1 hF116 36 (.int .i64 (pchecks u0)) ?_; intro a124 hF125; clear hF116
  refine s1 hF125 37 (.bool ((pchecks u0) != 0)) ?_; intro a126 hF127; clear hF125
  refine nlH (hQ123 _ _ ?_); clear hQ123 hQ123Q
  refine cd hF127 (t := (pchecks u0) != 0) (by kernel_rfl) (fun hb128 => ?_) (fun hb128 => ?_)
  · -- yes
   have hp129 := hp122.1 hb128; clear hp122
   refine sqH ?_; intro hQ130Q hQ130
   refine s1 hF127 38 (.int .i64 ((ptold u0 u1).2)) ?_; intro a131 hF132; clear hF127
   refine s1 hF132 39 (.int .i64 (pchecks u0)) ?_; intro a133 hF134; clear hF132
   refine s1 hF134 40 (.bool (((ptold u0 u1).2) == (pchecks u0))) ?_; intro a135 hF136; clear hF134
   refine s1 hF136 41 (.bool (((ptold u0 u1).2) == (pchecks u0))) ?_; intro a137 hF138; clear hF136
   have hF139 := hF138.atom ((((ptold u0 u1).2) == (pchecks u0)) == true) (by kernel_rfl); clear hF138
   refine gp hF139 42 0 [] (((ptold u0 u1).2) == (pchecks u0)) (.int .i64 ((pnext u0).2.2)) rfl rfl ?_; intro a140 hF141; clear hF139
   refine gp hF141 43 0 [] (((ptold u0 u1).2) == (pchecks u0)) (.int .i64 (pchecks u0)) rfl rfl ?_; intro a142 hF143; clear hF141
   refine gp hF143 44 0 [] (((ptold u0 u1).2) == (pchecks u0)) (.bool (((pnext u0).2.2) == (pchecks u0))) rfl rfl ?_; intro a144 hF145; clear hF143
   refine st hF145 (.bool ((((ptold u0 u1).2) == (pchecks u0)) && (((pnext u0).2.2) == (pchecks u0)))) (nog rfl _) rfl (by kernel_rfl) (pk_and hF145 (g := []) (m := 0) (b := ((ptold u0 u1).2) == (pchecks u0)) (v := ((pnext u0).2.2) == (pchecks u0)) rfl (by kernel_rfl) (by kernel_rfl) (by kernel_rfl) rfl) ?_; intro a146 hF147; clear hF145
   refine s1 hF147 46 (.bool ((((ptold u0 u1).2) == (pchecks u0)) && (((pnext u0).2.2) == (pchecks u0)))) ?_; intro a148 hF149; clear hF147
   have hF150 := hF149.atom (((((ptold u0 u1).2) == (pchecks u0)) && (((pnext u0).2.2) == (pchecks u0))) == true) (by kernel_rfl); clear hF149
   refine gd hF150 (.agg #[.slice ao26 (((ptold u0 u1).1).Data).length cap27, .int .i64 (((ptold u0 u1).1).At), .int .i64 (((ptold u0 u1).1).Next), .int .i64 (((ptold u0 u1).1).Left), .bool (((ptold u0 u1).1).Done)]) (m := 1) (cj := []) (bj := (((ptold u0 u1).2) == (pchecks u0)) && (((pnext u0).2.2) == (pchecks u0))) rfl rfl (by kernel_rfl) rfl (by kernel_rfl) (by kernel_rfl) (by kernel_rfl) (fun hg => lda hF150 hM110 2 (g := [1]) (b := b39) (off := 0) (k := 5) (cs := [.slice ao26 (((ptold u0 u1).1).Data).length cap27, .int .i64 (((ptold u0 u1).1).At), .int .i64 (((ptold u0 u1).1).Next), .int .i64 (((ptold u0 u1).1).Left), .bool (((ptold u0 u1).1).Done)]) (vs := [.slice ao26 (((ptold u0 u1).1).Data).length cap27, .int .i64 (((ptold u0 u1).1).At), .int .i64 (((ptold u0 u1).1).Next), .int .i64 (((ptold u0 u1).1).Left), .bool (((ptold u0 u1).1).Done)]) (ty := 53) rfl (by kernel_rfl) (by kernel_rfl) (by kernel_rfl) (by kernel_rfl) (by kernel_rfl) hg) ?_; intro a151 hF152; clear hF150
   refine gp hF152 48 1 [] ((((ptold u0 u1).2) == (pchecks u0)) && (((pnext u0).2.2) == (pchecks u0))) (.agg #[.slice none 0 0, .int .i64 0, .int .i64 0, .int .i64 0, .bool false]) rfl rfl ?_; intro a153 hF154; clear hF152
   refine gcl hF154 hM110 (.bool (psames ((ptold u0 u1).1) (⟨[], 0, 0, 0, false⟩ : Sender))) 35 #[.agg #[.slice ao26 (((ptold u0 u1).1).Data).length cap27, .int .i64 (((ptold u0 u1).1).At), .int .i64 (((ptold u0 u1).1).Next), .int .i64 (((ptold u0 u1).1).Left), .bool (((ptold u0 u1).1).Done)], .agg #[.slice none 0 0, .int .i64 0, .int .i64 0, .int .i64 0, .bool false]] (m := 1) (cj := []) (bj := (((ptold u0 u1).2) == (pchecks u0)) && (((pnext u0).2.2) == (pchecks u0))) rfl rfl (by kernel_rfl) rfl (by kernel_rfl) (by kernel_rfl) (by kernel_rfl) (fun _ => by kernel_rfl) (fun hg => psames_fun ((ptold u0 u1).1) (⟨[], 0, 0, 0, false⟩ : Sender) ao26 cap27 none 0 _ _ hs28 (SlR.nil _ _) hM110.fz) ?_; intro a155 wd157 hF156 hM158; clear hF154 hM110
   refine st hF156 (.bool (((((ptold u0 u1).2) == (pchecks u0)) && (((pnext u0).2.2) == (pchecks u0))) && (psames ((ptold u0 u1).1) (⟨[], 0, 0, 0, false⟩ : Sender)))) (nog rfl _) rfl (by kernel_rfl) (pk_and hF156 (g := []) (m := 1) (b := (((ptold u0 u1).2) == (pchecks u0)) && (((pnext u0).2.2) == (pchecks u0))) (v := (psames ((ptold u0 u1).1) (⟨[], 0, 0, 0, false⟩ : Sender))) rfl (by kernel_rfl) (by kernel_rfl) (by kernel_rfl) rfl) ?_; intro a159 hF160; clear hF156
   refine s1 hF160 51 (.bool (((((ptold u0 u1).2) == (pchecks u0)) && (((pnext u0).2.2) == (pchecks u0))) && (psames ((ptold u0 u1).1) (⟨[], 0, 0, 0, false⟩ : Sender)))) ?_; intro a161 hF162; clear hF160
   have hF163 := hF162.atom ((((((ptold u0 u1).2) == (pchecks u0)) && (((pnext u0).2.2) == (pchecks u0))) && (psames ((ptold u0 u1).1) (⟨[], 0, 0, 0, false⟩ : Sender))) == true) (by kernel_rfl); clear hF162
   refine gd hF163 (.agg #[.slice ao56 (((pnext u0).1).Data).length cap57, .int .i64 (((pnext u0).1).At), .int .i64 (((pnext u0).1).Next), .int .i64 (((pnext u0).1).Left), .bool (((pnext u0).1).Done)]) (m := 2) (cj := []) (bj := ((((ptold u0 u1).2) == (pchecks u0)) && (((pnext u0).2.2) == (pchecks u0))) && (psames ((ptold u0 u1).1) (⟨[], 0, 0, 0, false⟩ : Sender))) rfl rfl (by kernel_rfl) rfl (by kernel_rfl) (by kernel_rfl) (by kernel_rfl) (fun hg => lda hF163 hM158 0 (g := [2]) (b := b74) (off := 0) (k := 5) (cs := [.slice ao56 (((pnext u0).1).Data).length cap57, .int .i64 (((pnext u0).1).At), .int .i64 (((pnext u0).1).Next), .int .i64 (((pnext u0).1).Left), .bool (((pnext u0).1).Done)]) (vs := [.slice ao56 (((pnext u0).1).Data).length cap57, .int .i64 (((pnext u0).1).At), .int .i64 (((pnext u0).1).Next), .int .i64 (((pnext u0).1).Left), .bool (((pnext u0).1).Done)]) (ty := 53) rfl (by kernel_rfl) (by kernel_rfl) (by kernel_rfl) (by kernel_rfl) (by kernel_rfl) hg) ?_; intro a164 hF165; clear hF163
   refine gp hF165 53 2 [] (((((ptold u0 u1).2) == (pchecks u0)) && (((pnext u0).2.2) == (pchecks u0))) && (psames ((ptold u0 u1).1) (⟨[], 0, 0, 0, false⟩ : Sender))) (.agg #[.slice none 0 0, .int .i64 0, .int .i64 0, .int .i64 0, .bool false]) rfl rfl ?_; intro a166 hF167; clear hF165
   refine gcl hF167 hM158 (.bool (psames ((pnext u0).1) (⟨[], 0, 0, 0, false⟩ : Sender))) 35 #[.agg #[.slice ao56 (((pnext u0).1).Data).length cap57, .int .i64 (((pnext u0).1).At), .int .i64 (((pnext u0).1).Next), .int .i64 (((pnext u0).1).Left), .bool (((pnext u0).1).Done)], .agg #[.slice none 0 0, .int .i64 0, .int .i64 0, .int .i64 0, .bool false]] (m := 2) (cj := []) (bj := ((((ptold u0 u1).2) == (pchecks u0)) && (((pnext u0).2.2) == (pchecks u0))) && (psames ((ptold u0 u1).1) (⟨[], 0, 0, 0, false⟩ : Sender))) rfl rfl (by kernel_rfl) rfl (by kernel_rfl) (by kernel_rfl) (by kernel_rfl) (fun _ => by kernel_rfl) (fun hg => psames_fun ((pnext u0).1) (⟨[], 0, 0, 0, false⟩ : Sender) ao56 cap57 none 0 _ _ hs58 (SlR.nil _ _) hM158.fz) ?_; intro a168 wd170 hF169 hM171; clear hF167 hM158
   refine st hF169 (.bool ((((((ptold u0 u1).2) == (pchecks u0)) && (((pnext u0).2.2) == (pchecks u0))) && (psames ((ptold u0 u1).1) (⟨[], 0, 0, 0, false⟩ : Sender))) && (psames ((pnext u0).1) (⟨[], 0, 0, 0, false⟩ : Sender)))) (nog rfl _) rfl (by kernel_rfl) (pk_and hF169 (g := []) (m := 2) (b := ((((ptold u0 u1).2) == (pchecks u0)) && (((pnext u0).2.2) == (pchecks u0))) && (psames ((ptold u0 u1).1) (⟨[], 0, 0, 0, false⟩ : Sender))) (v := (psames ((pnext u0).1) (⟨[], 0, 0, 0, false⟩ : Sender))) rfl (by kernel_rfl) (by kernel_rfl) (by kernel_rfl) rfl) ?_; intro a172 hF173; clear hF169
   refine s1 hF173 56 (.bool ((((((ptold u0 u1).2) == (pchecks u0)) && (((pnext u0).2.2) == (pchecks u0))) && (psames ((ptold u0 u1).1) (⟨[], 0, 0, 0, false⟩ : Sender))) && (psames ((pnext u0).1) (⟨[], 0, 0, 0, false⟩ : Sender)))) ?_; intro a174 hF175; clear hF173
   have hF176 := hF175.atom (((((((ptold u0 u1).2) == (pchecks u0)) && (((pnext u0).2.2) == (pchecks u0))) && (psames ((ptold u0 u1).1) (⟨[], 0, 0, 0, false⟩ : Sender))) && (psames ((pnext u0).1) (⟨[], 0, 0, 0, false⟩ : Sender))) == true) (by kernel_rfl); clear hF175
   refine gp hF176 57 3 [] ((((((ptold u0 u1).2) == (pchecks u0)) && (((pnext u0).2.2) == (pchecks u0))) && (psames ((ptold u0 u1).1) (⟨[], 0, 0, 0, false⟩ : Sender))) && (psames ((pnext u0).1) (⟨[], 0, 0, 0, false⟩ : Sender))) (.slice ao59 ((pnext u0).2.1).length cap60) rfl rfl ?_; intro a177 hF178; clear hF176
   refine gp hF178 58 3 [] ((((((ptold u0 u1).2) == (pchecks u0)) && (((pnext u0).2.2) == (pchecks u0))) && (psames ((ptold u0 u1).1) (⟨[], 0, 0, 0, false⟩ : Sender))) && (psames ((pnext u0).1) (⟨[], 0, 0, 0, false⟩ : Sender))) (.int .i64 (((pnext u0).2.1).length : Int)) rfl rfl ?_; intro a179 hF180; clear hF178
   refine gp hF180 59 3 [] ((((((ptold u0 u1).2) == (pchecks u0)) && (((pnext u0).2.2) == (pchecks u0))) && (psames ((ptold u0 u1).1) (⟨[], 0, 0, 0, false⟩ : Sender))) && (psames ((pnext u0).1) (⟨[], 0, 0, 0, false⟩ : Sender))) (.bool ((((pnext u0).2.1).length : Int) == 0)) rfl rfl ?_; intro a181 hF182; clear hF180
   refine st hF182 (.bool (((((((ptold u0 u1).2) == (pchecks u0)) && (((pnext u0).2.2) == (pchecks u0))) && (psames ((ptold u0 u1).1) (⟨[], 0, 0, 0, false⟩ : Sender))) && (psames ((pnext u0).1) (⟨[], 0, 0, 0, false⟩ : Sender))) && ((((pnext u0).2.1).length : Int) == 0))) (nog rfl _) rfl (by kernel_rfl) (pk_and hF182 (g := []) (m := 3) (b := (((((ptold u0 u1).2) == (pchecks u0)) && (((pnext u0).2.2) == (pchecks u0))) && (psames ((ptold u0 u1).1) (⟨[], 0, 0, 0, false⟩ : Sender))) && (psames ((pnext u0).1) (⟨[], 0, 0, 0, false⟩ : Sender))) (v := (((pnext u0).2.1).length : Int) == 0) rfl (by kernel_rfl) (by kernel_rfl) (by kernel_rfl) rfl) ?_; intro a183 hF184; clear hF182
   refine s1 hF184 4 (.bool (((((((ptold u0 u1).2) == (pchecks u0)) && (((pnext u0).2.2) == (pchecks u0))) && (psames ((ptold u0 u1).1) (⟨[], 0, 0, 0, false⟩ : Sender))) && (psames ((pnext u0).1) (⟨[], 0, 0, 0, false⟩ : Sender))) && ((((pnext u0).2.1).length : Int) == 0))) ?_; intro a185 hF186; clear hF184
   refine nlH (hQ130 _ _ ?_); clear hQ130 hQ130Q
   refine wp_ret ?_
   refine thr ?_
   refine rt (fn := Try.f9) (v := .bool (((((((ptold u0 u1).2) == (pchecks u0)) && (((pnext u0).2.2) == (pchecks u0))) && (psames ((ptold u0 u1).1) (⟨[], 0, 0, 0, false⟩ : Sender))) && (psames ((pnext u0).1) (⟨[], 0, 0, 0, false⟩ : Sender))) && ((((pnext u0).2.1).length : Int) == 0))) hF186 (re1 hF186 (fn := Try.f9) rfl (by kernel_rfl)) ?_
   exact ⟨((((((ptold u0 u1).2) == (pchecks u0)) && (((pnext u0).2.2) == (pchecks u0))) && (psames ((ptold u0 u1).1) (⟨[], 0, 0, 0, false⟩ : Sender))) && (psames ((pnext u0).1) (⟨[], 0, 0, 0, false⟩ : Sender))) && ((((pnext u0).2.1).length : Int) == 0), rfl, hp129, hM171.below⟩
  · -- no
   have hp187 := hp122.2 hb128; clear hp122
   refine wp_skip ?_
   refine thn ?_
   refine sqH ?_; intro hQ188Q hQ188
   refine l2 hF127 hM110 61 3 0 5 [.slice ao1 u0.Data.length cap2, .int .i64 u0.At, .int .i64 u0.Next, .int .i64 u0.Left, .bool u0.Done] rfl rfl ?_; intro a189 hF190; clear hF127
   refine sn hF190 hM110 (fun b => .pointer (some ⟨b, 0, none⟩)) [.slice none 0 0, .int .i64 0, .int .i64 0, .int .i64 0, .bool false] 53 (nog rfl _) rfl (by kernel_rfl) (by kernel_rfl) ?_; intro b191 a192 wd194 hF193 hM195; clear hF190 hM110
   refine sr hF193 hM195 0 [.slice ao1 u0.Data.length cap2, .int .i64 u0.At, .int .i64 u0.Next, .int .i64 u0.Left, .bool u0.Done] (b := b191) (off := 0) (cs := [.slice none 0 0, .int .i64 0, .int .i64 0, .int .i64 0, .bool false]) (ty := 53) (u := .agg #[.slice ao1 u0.Data.length cap2, .int .i64 u0.At, .int .i64 u0.Next, .int .i64 u0.Left, .bool u0.Done]) (nog rfl _) rfl rfl (by kernel_rfl) (by kernel_rfl) (by kernel_rfl) (by kernel_rfl) (by kernel_rfl) (by kernel_rfl) (by kernel_rfl) ?_; intro wd196 hM197; clear hM195
   have hM198 : Mem w.heap.size [] w Z [.row b191 [.slice ao1 u0.Data.length cap2, .int .i64 u0.At, .int .i64 u0.Next, .int .i64 u0.Left, .bool u0.Done] 53, .row b74 [.slice ao56 (((pnext u0).1).Data).length cap57, .int .i64 (((pnext u0).1).At), .int .i64 (((pnext u0).1).Next), .int .i64 (((pnext u0).1).Left), .bool (((pnext u0).1).Done)] 53, .own (tyInt .u8) 5 ao59 cap60 ((pnext u0).2.1), .row b39 [.slice ao26 (((ptold u0 u1).1).Data).length cap27, .int .i64 (((ptold u0 u1).1).At), .int .i64 (((ptold u0 u1).1).Next), .int .i64 (((ptold u0 u1).1).Left), .bool (((ptold u0 u1).1).Done)] 53, .row b10 [.slice ao1 u0.Data.length cap2, .int .i64 u0.At, .int .i64 u0.Next, .int .i64 u0.Left, .bool u0.Done] 53] Z61 wd196 := hM197; clear hM197
   refine nlH (hQ188 _ _ ?_); clear hQ188 hQ188Q
   have hF199 : Fr 201 [] [⟨1, [], .slice ao4 u1.length cap5⟩, ⟨2, [], .pointer (some ⟨b10, 0, none⟩)⟩, ⟨5, [], .pointer (some ⟨b39, 0, none⟩)⟩, ⟨6, [], .int .i64 ((ptold u0 u1).2)⟩, ⟨7, [], .pointer (some ⟨b74, 0, none⟩)⟩, ⟨8, [], .slice ao59 ((pnext u0).2.1).length cap60⟩, ⟨9, [], .int .i64 ((pnext u0).2.2)⟩, ⟨10, [], .int .i64 (pchecks u0)⟩, ⟨11, [], .pointer (some ⟨b191, 0, none⟩)⟩] a192 := hF193.region (by kernel_rfl) (by kernel_rfl); clear hF193
   have hF201 : Fr 201 [] [⟨1, [], .slice ao4 u1.length cap5⟩, ⟨2, [], .pointer (some ⟨b10, 0, none⟩)⟩, ⟨5, [], .pointer (some ⟨b39, 0, none⟩)⟩, ⟨6, [], .int .i64 ((ptold u0 u1).2)⟩, ⟨7, [], .pointer (some ⟨b74, 0, none⟩)⟩, ⟨8, [], .slice ao59 ((pnext u0).2.1).length cap60⟩, ⟨9, [], .int .i64 ((pnext u0).2.2)⟩, ⟨10, [], .int .i64 (pchecks u0)⟩, ⟨11, [], .pointer (some ⟨b191, 0, none⟩)⟩] a192 := hF199.region (by kernel_rfl) (by kernel_rfl); clear hF199
   obtain ⟨inv200, hp202, hp203⟩ := hp187
   refine wp_seq_k fun KJ204 hKJ205 => ?_
   have hJ206 : ∀ (x10 : Int) (yb191 : Sender) (aoyb191_0 : Option Addr) (capyb191_0 : Nat), inv200 x10 yb191 ∧ SlR (tyInt .u8) Z61 aoyb191_0 capyb191_0 yb191.Data → ∀ a1 w1, Fr 201 [] [⟨2, [], .pointer (some ⟨b10, 0, none⟩)⟩, ⟨5, [], .pointer (some ⟨b39, 0, none⟩)⟩, ⟨6, [], .int .i64 ((ptold u0 u1).2)⟩, ⟨7, [], .pointer (some ⟨b74, 0, none⟩)⟩, ⟨8, [], .slice ao59 ((pnext u0).2.1).length cap60⟩, ⟨9, [], .int .i64 ((pnext u0).2.2)⟩, ⟨10, [], .int .i64 x10⟩, ⟨11, [], .pointer (some ⟨b191, 0, none⟩)⟩] a1 → Mem w.heap.size [] w Z [.row b191 [.slice aoyb191_0 yb191.Data.length capyb191_0, .int .i64 yb191.At, .int .i64 yb191.Next, .int .i64 yb191.Left, .bool yb191.Done] 53, .row b74 [.slice ao56 (((pnext u0).1).Data).length cap57, .int .i64 (((pnext u0).1).At), .int .i64 (((pnext u0).1).Next), .int .i64 (((pnext u0).1).Left), .bool (((pnext u0).1).Done)] 53, .own (tyInt .u8) 5 ao59 cap60 ((pnext u0).2.1), .row b39 [.slice ao26 (((ptold u0 u1).1).Data).length cap27, .int .i64 (((ptold u0 u1).1).At), .int .i64 (((ptold u0 u1).1).Next), .int .i64 (((ptold u0 u1).1).Left), .bool (((ptold u0 u1).1).Done)] 53, .row b10 [.slice ao1 u0.Data.length cap2, .int .i64 u0.At, .int .i64 u0.Next, .int .i64 u0.Left, .bool u0.Done] 53] Z61 w1 → KJ204 a1 w1 := by
    rintro x10 yb191 aoyb191_0 capyb191_0 ⟨hI211, hsyb191_0⟩ a207 wd208 hF209 hM210; clear hF201 hM198
    refine hKJ205 _ _ ?_; clear hKJ205
    have hp212 := hp203 x10 yb191 hI211
    refine wp_seq ?_
    refine sqH ?_; intro hQ213Q hQ213
    refine s1 hF209 101 (.int .i64 ((ptold u0 u1).2)) ?_; intro a214 hF215; clear hF209
    refine s1 hF215 102 (.int .i64 x10) ?_; intro a216 hF217; clear hF215
    refine s1 hF217 103 (.bool (((ptold u0 u1).2) != x10)) ?_; intro a218 hF219; clear hF217
    refine s1 hF219 104 (.bool (((ptold u0 u1).2) != x10)) ?_; intro a220 hF221; clear hF219
    have hF222 := hF221.atom ((((ptold u0 u1).2) != x10) == false) (by kernel_rfl); clear hF221
    refine gp hF222 105 0 [] (((ptold u0 u1).2) != x10) (.int .i64 x10) rfl rfl ?_; intro a223 hF224; clear hF222
    refine gp hF224 106 0 [] (((ptold u0 u1).2) != x10) (.bool (x10 != 0)) rfl rfl ?_; intro a225 hF226; clear hF224
    refine gp hF226 107 0 [] (((ptold u0 u1).2) != x10) (.bool (x10 != 0)) rfl rfl ?_; intro a227 hF228; clear hF226
    have hF229 := hF228.atom ((x10 != 0) == true) (by kernel_rfl); clear hF228
    refine gd hF229 (.agg #[.slice ao26 (((ptold u0 u1).1).Data).length cap27, .int .i64 (((ptold u0 u1).1).At), .int .i64 (((ptold u0 u1).1).Next), .int .i64 (((ptold u0 u1).1).Left), .bool (((ptold u0 u1).1).Done)]) (m := 1) (cj := [0]) (bj := x10 != 0) rfl rfl (by kernel_rfl) rfl (by kernel_rfl) (by kernel_rfl) (by kernel_rfl) (fun hg => lda hF229 hM210 3 (g := [1, 0]) (b := b39) (off := 0) (k := 5) (cs := [.slice ao26 (((ptold u0 u1).1).Data).length cap27, .int .i64 (((ptold u0 u1).1).At), .int .i64 (((ptold u0 u1).1).Next), .int .i64 (((ptold u0 u1).1).Left), .bool (((ptold u0 u1).1).Done)]) (vs := [.slice ao26 (((ptold u0 u1).1).Data).length cap27, .int .i64 (((ptold u0 u1).1).At), .int .i64 (((ptold u0 u1).1).Next), .int .i64 (((ptold u0 u1).1).Left), .bool (((ptold u0 u1).1).Done)]) (ty := 53) rfl (by kernel_rfl) (by kernel_rfl) (by kernel_rfl) (by kernel_rfl) (by kernel_rfl) hg) ?_; intro a230 hF231; clear hF229
    refine gp hF231 109 1 [0] (x10 != 0) (.agg #[.slice none 0 0, .int .i64 0, .int .i64 0, .int .i64 0, .bool false]) rfl rfl ?_; intro a232 hF233; clear hF231
    refine gcl hF233 hM210 (.bool (psames ((ptold u0 u1).1) (⟨[], 0, 0, 0, false⟩ : Sender))) 35 #[.agg #[.slice ao26 (((ptold u0 u1).1).Data).length cap27, .int .i64 (((ptold u0 u1).1).At), .int .i64 (((ptold u0 u1).1).Next), .int .i64 (((ptold u0 u1).1).Left), .bool (((ptold u0 u1).1).Done)], .agg #[.slice none 0 0, .int .i64 0, .int .i64 0, .int .i64 0, .bool false]] (m := 1) (cj := [0]) (bj := x10 != 0) rfl rfl (by kernel_rfl) rfl (by kernel_rfl) (by kernel_rfl) (by kernel_rfl) (fun _ => by kernel_rfl) (fun hg => psames_fun ((ptold u0 u1).1) (⟨[], 0, 0, 0, false⟩ : Sender) ao26 cap27 none 0 _ _ hs28 (SlR.nil _ _) hM210.fz) ?_; intro a234 wd236 hF235 hM237; clear hF233 hM210
    refine gp hF235 111 1 [0] (x10 != 0) (.bool (!(psames ((ptold u0 u1).1) (⟨[], 0, 0, 0, false⟩ : Sender)))) rfl rfl ?_; intro a238 hF239; clear hF235
    refine gd hF239 (.bool ((x10 != 0) && (!(psames ((ptold u0 u1).1) (⟨[], 0, 0, 0, false⟩ : Sender))))) (m := 0) (cj := []) (bj := ((ptold u0 u1).2) != x10) rfl rfl (by kernel_rfl) rfl (by kernel_rfl) (by kernel_rfl) (by kernel_rfl) (fun hg => pk_and hF239 (g := [0]) (m := 1) (b := x10 != 0) (v := !(psames ((ptold u0 u1).1) (⟨[], 0, 0, 0, false⟩ : Sender))) rfl (by kernel_rfl) (by kernel_rfl) (by kernel_rfl) hg) ?_; intro a240 hF241; clear hF239
    refine st hF241 (.bool ((((ptold u0 u1).2) != x10) || ((x10 != 0) && (!(psames ((ptold u0 u1).1) (⟨[], 0, 0, 0, false⟩ : Sender)))))) (nog rfl _) rfl (by kernel_rfl) (pk_or hF241 (g := []) (m := 0) (b := ((ptold u0 u1).2) != x10) (v := (x10 != 0) && (!(psames ((ptold u0 u1).1) (⟨[], 0, 0, 0, false⟩ : Sender)))) rfl (by kernel_rfl) (by kernel_rfl) (by kernel_rfl) rfl) ?_; intro a242 hF243; clear hF241
    refine s1 hF243 114 (.bool ((((ptold u0 u1).2) != x10) || ((x10 != 0) && (!(psames ((ptold u0 u1).1) (⟨[], 0, 0, 0, false⟩ : Sender)))))) ?_; intro a244 hF245; clear hF243
    have hF246 := hF245.atom (((((ptold u0 u1).2) != x10) || ((x10 != 0) && (!(psames ((ptold u0 u1).1) (⟨[], 0, 0, 0, false⟩ : Sender))))) == false) (by kernel_rfl); clear hF245
    refine gp hF246 115 2 [] ((((ptold u0 u1).2) != x10) || ((x10 != 0) && (!(psames ((ptold u0 u1).1) (⟨[], 0, 0, 0, false⟩ : Sender))))) (.int .i64 x10) rfl rfl ?_; intro a247 hF248; clear hF246
    refine gp hF248 116 2 [] ((((ptold u0 u1).2) != x10) || ((x10 != 0) && (!(psames ((ptold u0 u1).1) (⟨[], 0, 0, 0, false⟩ : Sender))))) (.bool (x10 == 0)) rfl rfl ?_; intro a249 hF250; clear hF248
    refine gp hF250 117 2 [] ((((ptold u0 u1).2) != x10) || ((x10 != 0) && (!(psames ((ptold u0 u1).1) (⟨[], 0, 0, 0, false⟩ : Sender))))) (.bool (x10 == 0)) rfl rfl ?_; intro a251 hF252; clear hF250
    have hF253 := hF252.atom ((x10 == 0) == true) (by kernel_rfl); clear hF252
    refine gd hF253 (.agg #[.slice ao26 (((ptold u0 u1).1).Data).length cap27, .int .i64 (((ptold u0 u1).1).At), .int .i64 (((ptold u0 u1).1).Next), .int .i64 (((ptold u0 u1).1).Left), .bool (((ptold u0 u1).1).Done)]) (m := 3) (cj := [2]) (bj := x10 == 0) rfl rfl (by kernel_rfl) rfl (by kernel_rfl) (by kernel_rfl) (by kernel_rfl) (fun hg => lda hF253 hM237 3 (g := [3, 2]) (b := b39) (off := 0) (k := 5) (cs := [.slice ao26 (((ptold u0 u1).1).Data).length cap27, .int .i64 (((ptold u0 u1).1).At), .int .i64 (((ptold u0 u1).1).Next), .int .i64 (((ptold u0 u1).1).Left), .bool (((ptold u0 u1).1).Done)]) (vs := [.slice ao26 (((ptold u0 u1).1).Data).length cap27, .int .i64 (((ptold u0 u1).1).At), .int .i64 (((ptold u0 u1).1).Next), .int .i64 (((ptold u0 u1).1).Left), .bool (((ptold u0 u1).1).Done)]) (ty := 53) rfl (by kernel_rfl) (by kernel_rfl) (by kernel_rfl) (by kernel_rfl) (by kernel_rfl) hg) ?_; intro a254 hF255; clear hF253
    refine gd hF255 (.agg #[.slice aoyb191_0 yb191.Data.length capyb191_0, .int .i64 yb191.At, .int .i64 yb191.Next, .int .i64 yb191.Left, .bool yb191.Done]) (m := 3) (cj := [2]) (bj := x10 == 0) rfl rfl (by kernel_rfl) rfl (by kernel_rfl) (by kernel_rfl) (by kernel_rfl) (fun hg => lda hF255 hM237 0 (g := [3, 2]) (b := b191) (off := 0) (k := 5) (cs := [.slice aoyb191_0 yb191.Data.length capyb191_0, .int .i64 yb191.At, .int .i64 yb191.Next, .int .i64 yb191.Left, .bool yb191.Done]) (vs := [.slice aoyb191_0 yb191.Data.length capyb191_0, .int .i64 yb191.At, .int .i64 yb191.Next, .int .i64 yb191.Left, .bool yb191.Done]) (ty := 53) rfl (by kernel_rfl) (by kernel_rfl) (by kernel_rfl) (by kernel_rfl) (by kernel_rfl) hg) ?_; intro a256 hF257; clear hF255
    refine gcl hF257 hM237 (.bool (psames ((ptold u0 u1).1) yb191)) 35 #[.agg #[.slice ao26 (((ptold u0 u1).1).Data).length cap27, .int .i64 (((ptold u0 u1).1).At), .int .i64 (((ptold u0 u1).1).Next), .int .i64 (((ptold u0 u1).1).Left), .bool (((ptold u0 u1).1).Done)], .agg #[.slice aoyb191_0 yb191.Data.length capyb191_0, .int .i64 yb191.At, .int .i64 yb191.Next, .int .i64 yb191.Left, .bool yb191.Done]] (m := 3) (cj := [2]) (bj := x10 == 0) rfl rfl (by kernel_rfl) rfl (by kernel_rfl) (by kernel_rfl) (by kernel_rfl) (fun _ => by kernel_rfl) (fun hg => psames_fun ((ptold u0 u1).1) yb191 ao26 cap27 aoyb191_0 capyb191_0 _ _ hs28 hsyb191_0 hM237.fz) ?_; intro a258 wd260 hF259 hM261; clear hF257 hM237
    refine gp hF259 121 3 [2] (x10 == 0) (.bool (!(psames ((ptold u0 u1).1) yb191))) rfl rfl ?_; intro a262 hF263; clear hF259
    refine gd hF263 (.bool ((x10 == 0) && (!(psames ((ptold u0 u1).1) yb191)))) (m := 2) (cj := []) (bj := (((ptold u0 u1).2) != x10) || ((x10 != 0) && (!(psames ((ptold u0 u1).1) (⟨[], 0, 0, 0, false⟩ : Sender))))) rfl rfl (by kernel_rfl) rfl (by kernel_rfl) (by kernel_rfl) (by kernel_rfl) (fun hg => pk_and hF263 (g := [2]) (m := 3) (b := x10 == 0) (v := !(psames ((ptold u0 u1).1) yb191)) rfl (by kernel_rfl) (by kernel_rfl) (by kernel_rfl) hg) ?_; intro a264 hF265; clear hF263
    refine st hF265 (.bool (((((ptold u0 u1).2) != x10) || ((x10 != 0) && (!(psames ((ptold u0 u1).1) (⟨[], 0, 0, 0, false⟩ : Sender))))) || ((x10 == 0) && (!(psames ((ptold u0 u1).1) yb191))))) (nog rfl _) rfl (by kernel_rfl) (pk_or hF265 (g := []) (m := 2) (b := (((ptold u0 u1).2) != x10) || ((x10 != 0) && (!(psames ((ptold u0 u1).1) (⟨[], 0, 0, 0, false⟩ : Sender))))) (v := (x10 == 0) && (!(psames ((ptold u0 u1).1) yb191))) rfl (by kernel_rfl) (by kernel_rfl) (by kernel_rfl) rfl) ?_; intro a266 hF267; clear hF265
    refine nlH (hQ213 _ _ ?_); clear hQ213 hQ213Q
    refine cd hF267 (t := ((((ptold u0 u1).2) != x10) || ((x10 != 0) && (!(psames ((ptold u0 u1).1) (⟨[], 0, 0, 0, false⟩ : Sender))))) || ((x10 == 0) && (!(psames ((ptold u0 u1).1) yb191)))) (by kernel_rfl) (fun hb268 => ?_) (fun hb268 => ?_)
    · -- yes
     have hp269 := hp212.1 hb268; clear hp212
     have hF270 : Fr 201 [] [] a266 := hF267.region (by kernel_rfl) (by kernel_rfl); clear hF267
     refine sqH ?_; intro hQ271Q hQ271
     refine s1 hF270 4 (.bool false) ?_; intro a272 hF273; clear hF270
     refine nlH (hQ271 _ _ ?_); clear hQ271 hQ271Q
     refine wp_ret ?_
     refine thr ?_
     refine rt (fn := Try.f9) (v := .bool false) hF273 (re1 hF273 (fn := Try.f9) rfl (by kernel_rfl)) ?_
     exact ⟨false, rfl, hp269, hM261.below⟩
    · -- no
     have hp274 := hp212.2 hb268; clear hp212
     refine wp_skip ?_
     refine thn ?_
     refine wp_seq ?_
     have hF275 : Fr 201 [] [⟨2, [], .pointer (some ⟨b10, 0, none⟩)⟩, ⟨7, [], .pointer (some ⟨b74, 0, none⟩)⟩, ⟨8, [], .slice ao59 ((pnext u0).2.1).length cap60⟩, ⟨9, [], .int .i64 ((pnext u0).2.2)⟩, ⟨11, [], .pointer (some ⟨b191, 0, none⟩)⟩] a266 := hF267.region (by kernel_rfl) (by kernel_rfl); clear hF267
     refine sqH ?_; intro hQ276Q hQ276
     refine s1 hF275 124 (.pointer (some ⟨b10, 4, none⟩)) ?_; intro a277 hF278; clear hF275
     refine l1 hF278 hM261 125 4 4 (.bool u0.Done) rfl rfl ?_; intro a279 hF280; clear hF278
     refine s1 hF280 126 (.bool u0.Done) ?_; intro a281 hF282; clear hF280
     have hF283 := hF282.atom (u0.Done == false) (by kernel_rfl); clear hF282
     refine gp hF283 127 0 [] (u0.Done) (.pointer (some ⟨b10, 3, none⟩)) rfl rfl ?_; intro a284 hF285; clear hF283
     refine gd hF285 (.int .i64 u0.Left) (m := 0) (cj := []) (bj := u0.Done) rfl rfl (by kernel_rfl) rfl (by kernel_rfl) (by kernel_rfl) (by kernel_rfl) (fun hg => ld hF285 hM261 4 (g := [0]) (b := b10) (off := 3) (cs := [.slice ao1 u0.Data.length cap2, .int .i64 u0.At, .int .i64 u0.Next, .int .i64 u0.Left, .bool u0.Done]) (ty := 53) rfl (by kernel_rfl) (by kernel_rfl) (by kernel_rfl) (by kernel_rfl) hg) ?_; intro a286 hF287; clear hF285
     refine gp hF287 129 0 [] (u0.Done) (.bool (u0.Left == (-1))) rfl rfl ?_; intro a288 hF289; clear hF287
     refine st hF289 (.bool (u0.Done || (u0.Left == (-1)))) (nog rfl _) rfl (by kernel_rfl) (pk_or hF289 (g := []) (m := 0) (b := u0.Done) (v := u0.Left == (-1)) rfl (by kernel_rfl) (by kernel_rfl) (by kernel_rfl) rfl) ?_; intro a290 hF291; clear hF289
     refine nlH (hQ276 _ _ ?_); clear hQ276 hQ276Q
     refine cd hF291 (t := u0.Done || (u0.Left == (-1))) (by kernel_rfl) (fun hb292 => ?_) (fun hb292 => ?_)
     · -- yes
      have hp293 := hp274.1 hb292; clear hp274
      have hF294 : Fr 201 [] [⟨7, [], .pointer (some ⟨b74, 0, none⟩)⟩, ⟨8, [], .slice ao59 ((pnext u0).2.1).length cap60⟩, ⟨9, [], .int .i64 ((pnext u0).2.2)⟩] a290 := hF291.region (by kernel_rfl) (by kernel_rfl); clear hF291
      refine sqH ?_; intro hQ295Q hQ295
      refine s1 hF294 131 (.int .i64 ((pnext u0).2.2)) ?_; intro a296 hF297; clear hF294
      refine s1 hF297 132 (.bool (((pnext u0).2.2) == 12)) ?_; intro a298 hF299; clear hF297
      refine s1 hF299 133 (.bool (((pnext u0).2.2) == 12)) ?_; intro a300 hF301; clear hF299
      have hF302 := hF301.atom ((((pnext u0).2.2) == 12) == true) (by kernel_rfl); clear hF301
      refine gd hF302 (.agg #[.slice ao56 (((pnext u0).1).Data).length cap57, .int .i64 (((pnext u0).1).At), .int .i64 (((pnext u0).1).Next), .int .i64 (((pnext u0).1).Left), .bool (((pnext u0).1).Done)]) (m := 0) (cj := []) (bj := ((pnext u0).2.2) == 12) rfl rfl (by kernel_rfl) rfl (by kernel_rfl) (by kernel_rfl) (by kernel_rfl) (fun hg => lda hF302 hM261 1 (g := [0]) (b := b74) (off := 0) (k := 5) (cs := [.slice ao56 (((pnext u0).1).Data).length cap57, .int .i64 (((pnext u0).1).At), .int .i64 (((pnext u0).1).Next), .int .i64 (((pnext u0).1).Left), .bool (((pnext u0).1).Done)]) (vs := [.slice ao56 (((pnext u0).1).Data).length cap57, .int .i64 (((pnext u0).1).At), .int .i64 (((pnext u0).1).Next), .int .i64 (((pnext u0).1).Left), .bool (((pnext u0).1).Done)]) (ty := 53) rfl (by kernel_rfl) (by kernel_rfl) (by kernel_rfl) (by kernel_rfl) (by kernel_rfl) hg) ?_; intro a303 hF304; clear hF302
      refine gp hF304 135 0 [] (((pnext u0).2.2) == 12) (.agg #[.slice none 0 0, .int .i64 0, .int .i64 0, .int .i64 0, .bool false]) rfl rfl ?_; intro a305 hF306; clear hF304
      refine gcl hF306 hM261 (.bool (psames ((pnext u0).1) (⟨[], 0, 0, 0, false⟩ : Sender))) 35 #[.agg #[.slice ao56 (((pnext u0).1).Data).length cap57, .int .i64 (((pnext u0).1).At), .int .i64 (((pnext u0).1).Next), .int .i64 (((pnext u0).1).Left), .bool (((pnext u0).1).Done)], .agg #[.slice none 0 0, .int .i64 0, .int .i64 0, .int .i64 0, .bool false]] (m := 0) (cj := []) (bj := ((pnext u0).2.2) == 12) rfl rfl (by kernel_rfl) rfl (by kernel_rfl) (by kernel_rfl) (by kernel_rfl) (fun _ => by kernel_rfl) (fun hg => psames_fun ((pnext u0).1) (⟨[], 0, 0, 0, false⟩ : Sender) ao56 cap57 none 0 _ _ hs58 (SlR.nil _ _) hM261.fz) ?_; intro a307 wd309 hF308 hM310; clear hF306 hM261
      refine st hF308 (.bool ((((pnext u0).2.2) == 12) && (psames ((pnext u0).1) (⟨[], 0, 0, 0, false⟩ : Sender)))) (nog rfl _) rfl (by kernel_rfl) (pk_and hF308 (g := []) (m := 0) (b := ((pnext u0).2.2) == 12) (v := (psames ((pnext u0).1) (⟨[], 0, 0, 0, false⟩ : Sender))) rfl (by kernel_rfl) (by kernel_rfl) (by kernel_rfl) rfl) ?_; intro a311 hF312; clear hF308
      refine s1 hF312 138 (.bool ((((pnext u0).2.2) == 12) && (psames ((pnext u0).1) (⟨[], 0, 0, 0, false⟩ : Sender)))) ?_; intro a313 hF314; clear hF312
      have hF315 := hF314.atom (((((pnext u0).2.2) == 12) && (psames ((pnext u0).1) (⟨[], 0, 0, 0, false⟩ : Sender))) == true) (by kernel_rfl); clear hF314
      refine gp hF315 139 1 [] ((((pnext u0).2.2) == 12) && (psames ((pnext u0).1) (⟨[], 0, 0, 0, false⟩ : Sender))) (.slice ao59 ((pnext u0).2.1).length cap60) rfl rfl ?_; intro a316 hF317; clear hF315
      refine gp hF317 140 1 [] ((((pnext u0).2.2) == 12) && (psames ((pnext u0).1) (⟨[], 0, 0, 0, false⟩ : Sender))) (.int .i64 (((pnext u0).2.1).length : Int)) rfl rfl ?_; intro a318 hF319; clear hF317
      refine gp hF319 141 1 [] ((((pnext u0).2.2) == 12) && (psames ((pnext u0).1) (⟨[], 0, 0, 0, false⟩ : Sender))) (.bool ((((pnext u0).2.1).length : Int) == 0)) rfl rfl ?_; intro a320 hF321; clear hF319
      refine st hF321 (.bool (((((pnext u0).2.2) == 12) && (psames ((pnext u0).1) (⟨[], 0, 0, 0, false⟩ : Sender))) && ((((pnext u0).2.1).length : Int) == 0))) (nog rfl _) rfl (by kernel_rfl) (pk_and hF321 (g := []) (m := 1) (b := (((pnext u0).2.2) == 12) && (psames ((pnext u0).1) (⟨[], 0, 0, 0, false⟩ : Sender))) (v := (((pnext u0).2.1).length : Int) == 0) rfl (by kernel_rfl) (by kernel_rfl) (by kernel_rfl) rfl) ?_; intro a322 hF323; clear hF321
      refine s1 hF323 4 (.bool (((((pnext u0).2.2) == 12) && (psames ((pnext u0).1) (⟨[], 0, 0, 0, false⟩ : Sender))) && ((((pnext u0).2.1).length : Int) == 0))) ?_; intro a324 hF325; clear hF323
      refine nlH (hQ295 _ _ ?_); clear hQ295 hQ295Q
      refine wp_ret ?_
      refine thr ?_
      refine rt (fn := Try.f9) (v := .bool (((((pnext u0).2.2) == 12) && (psames ((pnext u0).1) (⟨[], 0, 0, 0, false⟩ : Sender))) && ((((pnext u0).2.1).length : Int) == 0))) hF325 (re1 hF325 (fn := Try.f9) rfl (by kernel_rfl)) ?_
      exact ⟨((((pnext u0).2.2) == 12) && (psames ((pnext u0).1) (⟨[], 0, 0, 0, false⟩ : Sender))) && ((((pnext u0).2.1).length : Int) == 0), rfl, hp293, hM310.below⟩
     · -- no
      have hp326 := hp274.2 hb292; clear hp274
      refine wp_skip ?_
      refine thn ?_
      have hF327 : Fr 201 [] [⟨2, [], .pointer (some ⟨b10, 0, none⟩)⟩, ⟨7, [], .pointer (some ⟨b74, 0, none⟩)⟩, ⟨8, [], .slice ao59 ((pnext u0).2.1).length cap60⟩, ⟨9, [], .int .i64 ((pnext u0).2.2)⟩, ⟨11, [], .pointer (some ⟨b191, 0, none⟩)⟩] a290 := hF291.region (by kernel_rfl) (by kernel_rfl); clear hF291
      refine sqH ?_; intro hQ328Q hQ328
      refine s1 hF327 143 (.pointer (some ⟨b10, 0, none⟩)) ?_; intro a329 hF330; clear hF327
      refine l1 hF330 hM261 144 4 0 (.slice ao1 u0.Data.length cap2) rfl rfl ?_; intro a331 hF332; clear hF330
      have hc333 := hp326.1; have hp334 := hp326.2; clear hp326
      refine cl hF332 36 #[.slice ao1 u0.Data.length cap2] (nog rfl _) rfl (by kernel_rfl) (by kernel_rfl) ?_
      refine (ppartsof_fun u0.Data hc333 ao1 cap2 _ _ hs3 hM261.fz).mono ?_; rintro _ wd335 ⟨ao339, cap340, Z341, rfl, hm⟩; refine ⟨_, rfl, ?_⟩; intro a336 hF337; have hM338 := hM261.callZ hm; have hle342 := hm.ext.le; clear hm hM261 hF332
      replace hs3 := hs3.mono hle342
      replace hs6 := hs6.mono hle342
      replace hs28 := hs28.mono hle342
      replace hs58 := hs58.mono hle342
      replace hsyb191_0 := hsyb191_0.mono hle342
      replace hle0 := Fz.le.trans hle0 hle342
      have hM343 : Mem w.heap.size [] w Z [.own (tySl (tyInt .u8)) 36 ao339 cap340 (ppartsofS u0.Data), .row b191 [.slice aoyb191_0 yb191.Data.length capyb191_0, .int .i64 yb191.At, .int .i64 yb191.Next, .int .i64 yb191.Left, .bool yb191.Done] 53, .row b74 [.slice ao56 (((pnext u0).1).Data).length cap57, .int .i64 (((pnext u0).1).At), .int .i64 (((pnext u0).1).Next), .int .i64 (((pnext u0).1).Left), .bool (((pnext u0).1).Done)] 53, .own (tyInt .u8) 5 ao59 cap60 ((pnext u0).2.1), .row b39 [.slice ao26 (((ptold u0 u1).1).Data).length cap27, .int .i64 (((ptold u0 u1).1).At), .int .i64 (((ptold u0 u1).1).Next), .int .i64 (((ptold u0 u1).1).Left), .bool (((ptold u0 u1).1).Done)] 53, .row b10 [.slice ao1 u0.Data.length cap2, .int .i64 u0.At, .int .i64 u0.Next, .int .i64 u0.Left, .bool u0.Done] 53] Z341 wd335 := hM338; clear hM338
      have hp344 := hp334 (hM343.ownSmall 0 rfl); clear hp334
      refine s1 hF337 12 (.slice ao339 (ppartsofS u0.Data).length cap340) ?_; intro a345 hF346; clear hF337
      refine nlH (hQ328 _ _ ?_); clear hQ328 hQ328Q
      refine sqH ?_; intro hQ347Q hQ347
      refine s1 hF346 146 (.pointer (some ⟨b10, 1, none⟩)) ?_; intro a348 hF349; clear hF346
      refine l1 hF349 hM343 147 5 1 (.int .i64 u0.At) rfl rfl ?_; intro a350 hF351; clear hF349
      refine s1 hF351 148 (.int .i64 (w64 (u0.At - 6))) ?_; intro a352 hF353; clear hF351
      refine s1 hF353 149 (.int .i64 (w64 ((w64 (u0.At - 6)).tdiv 7))) ?_; intro a354 hF355; clear hF353
      refine s1 hF355 150 (.int .i64 (w64 ((w64 ((w64 (u0.At - 6)).tdiv 7)) + 1))) ?_; intro a356 hF357; clear hF355
      refine s1 hF357 13 (.int .i64 (w64 ((w64 ((w64 (u0.At - 6)).tdiv 7)) + 1))) ?_; intro a358 hF359; clear hF357
      refine nlH (hQ347 _ _ ?_); clear hQ347 hQ347Q
      refine sqH ?_; intro hQ360Q hQ360
      refine l2 hF359 hM343 151 5 0 5 [.slice ao1 u0.Data.length cap2, .int .i64 u0.At, .int .i64 u0.Next, .int .i64 u0.Left, .bool u0.Done] rfl rfl ?_; intro a361 hF362; clear hF359
      refine sr hF362 hM343 1 [.slice ao1 u0.Data.length cap2, .int .i64 u0.At, .int .i64 u0.Next, .int .i64 u0.Left, .bool u0.Done] (b := b191) (off := 0) (cs := [.slice aoyb191_0 yb191.Data.length capyb191_0, .int .i64 yb191.At, .int .i64 yb191.Next, .int .i64 yb191.Left, .bool yb191.Done]) (ty := 53) (u := .agg #[.slice ao1 u0.Data.length cap2, .int .i64 u0.At, .int .i64 u0.Next, .int .i64 u0.Left, .bool u0.Done]) (nog rfl _) rfl rfl (by kernel_rfl) (by kernel_rfl) (by kernel_rfl) (by kernel_rfl) (by kernel_rfl) (by kernel_rfl) (by kernel_rfl) ?_; intro wd363 hM364; clear hM343
      have hM365 : Mem w.heap.size [] w Z [.own (tySl (tyInt .u8)) 36 ao339 cap340 (ppartsofS u0.Data), .row b191 [.slice ao1 u0.Data.length cap2, .int .i64 u0.At, .int .i64 u0.Next, .int .i64 u0.Left, .bool u0.Done] 53, .row b74 [.slice ao56 (((pnext u0).1).Data).length cap57, .int .i64 (((pnext u0).1).At), .int .i64 (((pnext u0).1).Next), .int .i64 (((pnext u0).1).Left), .bool (((pnext u0).1).Done)] 53, .own (tyInt .u8) 5 ao59 cap60 ((pnext u0).2.1), .row b39 [.slice ao26 (((ptold u0 u1).1).Data).length cap27, .int .i64 (((ptold u0 u1).1).At), .int .i64 (((ptold u0 u1).1).Next), .int .i64 (((ptold u0 u1).1).Left), .bool (((ptold u0 u1).1).Done)] 53, .row b10 [.slice ao1 u0.Data.length cap2, .int .i64 u0.At, .int .i64 u0.Next, .int .i64 u0.Left, .bool u0.Done] 53] Z341 wd363 := hM364; clear hM364
      refine nlH (hQ360 _ _ ?_); clear hQ360 hQ360Q
      refine sqH ?_; intro hQ366Q hQ366
      refine s1 hF362 152 (.pointer (some ⟨b10, 1, none⟩)) ?_; intro a367 hF368; clear hF362
      refine l1 hF368 hM365 153 5 1 (.int .i64 u0.At) rfl rfl ?_; intro a369 hF370; clear hF368
      refine s1 hF370 154 (.int .i64 (w64 (u0.At + 7))) ?_; intro a371 hF372; clear hF370
      refine s1 hF372 155 (.pointer (some ⟨b10, 0, none⟩)) ?_; intro a373 hF374; clear hF372
      refine l1 hF374 hM365 156 5 0 (.slice ao1 u0.Data.length cap2) rfl rfl ?_; intro a375 hF376; clear hF374
      refine s1 hF376 157 (.int .i64 (u0.Data.length : Int)) ?_; intro a377 hF378; clear hF376
      refine st hF378 (.int .i64 (min (w64 (u0.At + 7)) (u0.Data.length : Int))) (nog rfl _) rfl (by kernel_rfl) (re_ (p0 hF378 (r := .ok (.value (.int .i64 (if (u0.Data.length : Int) < (w64 (u0.At + 7)) then (u0.Data.length : Int) else (w64 (u0.At + 7))))) wd363) (by kernel_rfl)) (by rw [imin])) ?_; intro a379 hF380; clear hF378
      refine s1 hF380 159 (.pointer (some ⟨b191, 1, none⟩)) ?_; intro a381 hF382; clear hF380
      refine sr hF382 hM365 1 [.slice ao1 u0.Data.length cap2, .int .i64 (min (w64 (u0.At + 7)) (u0.Data.length : Int)), .int .i64 u0.Next, .int .i64 u0.Left, .bool u0.Done] (b := b191) (off := 1) (cs := [.slice ao1 u0.Data.length cap2, .int .i64 u0.At, .int .i64 u0.Next, .int .i64 u0.Left, .bool u0.Done]) (ty := 53) (u := .int .i64 (min (w64 (u0.At + 7)) (u0.Data.length : Int))) (nog rfl _) rfl rfl (by kernel_rfl) (by kernel_rfl) (by kernel_rfl) (by kernel_rfl) (by kernel_rfl) (by kernel_rfl) (by kernel_rfl) ?_; intro wd383 hM384; clear hM365
      have hM385 : Mem w.heap.size [] w Z [.own (tySl (tyInt .u8)) 36 ao339 cap340 (ppartsofS u0.Data), .row b191 [.slice ao1 u0.Data.length cap2, .int .i64 (min (w64 (u0.At + 7)) (u0.Data.length : Int)), .int .i64 u0.Next, .int .i64 u0.Left, .bool u0.Done] 53, .row b74 [.slice ao56 (((pnext u0).1).Data).length cap57, .int .i64 (((pnext u0).1).At), .int .i64 (((pnext u0).1).Next), .int .i64 (((pnext u0).1).Left), .bool (((pnext u0).1).Done)] 53, .own (tyInt .u8) 5 ao59 cap60 ((pnext u0).2.1), .row b39 [.slice ao26 (((ptold u0 u1).1).Data).length cap27, .int .i64 (((ptold u0 u1).1).At), .int .i64 (((ptold u0 u1).1).Next), .int .i64 (((ptold u0 u1).1).Left), .bool (((ptold u0 u1).1).Done)] 53, .row b10 [.slice ao1 u0.Data.length cap2, .int .i64 u0.At, .int .i64 u0.Next, .int .i64 u0.Left, .bool u0.Done] 53] Z341 wd383 := hM384; clear hM384
      refine nlH (hQ366 _ _ ?_); clear hQ366 hQ366Q
      have hF386 : Fr 201 [] [⟨2, [], .pointer (some ⟨b10, 0, none⟩)⟩, ⟨7, [], .pointer (some ⟨b74, 0, none⟩)⟩, ⟨8, [], .slice ao59 ((pnext u0).2.1).length cap60⟩, ⟨9, [], .int .i64 ((pnext u0).2.2)⟩, ⟨11, [], .pointer (some ⟨b191, 0, none⟩)⟩, ⟨12, [], .slice ao339 (ppartsofS u0.Data).length cap340⟩, ⟨13, [], .int .i64 (w64 ((w64 ((w64 (u0.At - 6)).tdiv 7)) + 1))⟩] a381 := hF382.region (by kernel_rfl) (by kernel_rfl); clear hF382
      refine sqH ?_; intro hQ387Q hQ387
      refine s1 hF386 160 (.pointer (some ⟨b10, 2, none⟩)) ?_; intro a388 hF389; clear hF386
      refine l1 hF389 hM385 161 5 2 (.int .i64 u0.Next) rfl rfl ?_; intro a390 hF391; clear hF389
      refine s1 hF391 162 (.int .i64 (w64 (u0.Next + 1))) ?_; intro a392 hF393; clear hF391
      refine s1 hF393 163 (.int .i64 ((w64 (u0.Next + 1)).tmod 16)) ?_; intro a394 hF395; clear hF393
      refine s1 hF395 164 (.pointer (some ⟨b191, 2, none⟩)) ?_; intro a396 hF397; clear hF395
      refine sr hF397 hM385 1 [.slice ao1 u0.Data.length cap2, .int .i64 (min (w64 (u0.At + 7)) (u0.Data.length : Int)), .int .i64 ((w64 (u0.Next + 1)).tmod 16), .int .i64 u0.Left, .bool u0.Done] (b := b191) (off := 2) (cs := [.slice ao1 u0.Data.length cap2, .int .i64 (min (w64 (u0.At + 7)) (u0.Data.length : Int)), .int .i64 u0.Next, .int .i64 u0.Left, .bool u0.Done]) (ty := 53) (u := .int .i64 ((w64 (u0.Next + 1)).tmod 16)) (nog rfl _) rfl rfl (by kernel_rfl) (by kernel_rfl) (by kernel_rfl) (by kernel_rfl) (by kernel_rfl) (by kernel_rfl) (by kernel_rfl) ?_; intro wd398 hM399; clear hM385
      have hM400 : Mem w.heap.size [] w Z [.own (tySl (tyInt .u8)) 36 ao339 cap340 (ppartsofS u0.Data), .row b191 [.slice ao1 u0.Data.length cap2, .int .i64 (min (w64 (u0.At + 7)) (u0.Data.length : Int)), .int .i64 ((w64 (u0.Next + 1)).tmod 16), .int .i64 u0.Left, .bool u0.Done] 53, .row b74 [.slice ao56 (((pnext u0).1).Data).length cap57, .int .i64 (((pnext u0).1).At), .int .i64 (((pnext u0).1).Next), .int .i64 (((pnext u0).1).Left), .bool (((pnext u0).1).Done)] 53, .own (tyInt .u8) 5 ao59 cap60 ((pnext u0).2.1), .row b39 [.slice ao26 (((ptold u0 u1).1).Data).length cap27, .int .i64 (((ptold u0 u1).1).At), .int .i64 (((ptold u0 u1).1).Next), .int .i64 (((ptold u0 u1).1).Left), .bool (((ptold u0 u1).1).Done)] 53, .row b10 [.slice ao1 u0.Data.length cap2, .int .i64 u0.At, .int .i64 u0.Next, .int .i64 u0.Left, .bool u0.Done] 53] Z341 wd398 := hM399; clear hM399
      refine nlH (hQ387 _ _ ?_); clear hQ387 hQ387Q
      refine wp_seq ?_
      refine sqH ?_; intro hQ401Q hQ401
      refine s1 hF397 165 (.pointer (some ⟨b191, 1, none⟩)) ?_; intro a402 hF403; clear hF397
      refine l1 hF403 hM400 166 1 1 (.int .i64 (min (w64 (u0.At + 7)) (u0.Data.length : Int))) rfl rfl ?_; intro a404 hF405; clear hF403
      refine s1 hF405 167 (.pointer (some ⟨b10, 0, none⟩)) ?_; intro a406 hF407; clear hF405
      refine l1 hF407 hM400 168 5 0 (.slice ao1 u0.Data.length cap2) rfl rfl ?_; intro a408 hF409; clear hF407
      refine s1 hF409 169 (.int .i64 (u0.Data.length : Int)) ?_; intro a410 hF411; clear hF409
      refine s1 hF411 170 (.bool ((min (w64 (u0.At + 7)) (u0.Data.length : Int)) == (u0.Data.length : Int))) ?_; intro a412 hF413; clear hF411
      refine s1 hF413 171 (.pointer (some ⟨b191, 4, none⟩)) ?_; intro a414 hF415; clear hF413
      refine sr hF415 hM400 1 [.slice ao1 u0.Data.length cap2, .int .i64 (min (w64 (u0.At + 7)) (u0.Data.length : Int)), .int .i64 ((w64 (u0.Next + 1)).tmod 16), .int .i64 u0.Left, .bool ((min (w64 (u0.At + 7)) (u0.Data.length : Int)) == (u0.Data.length : Int))] (b := b191) (off := 4) (cs := [.slice ao1 u0.Data.length cap2, .int .i64 (min (w64 (u0.At + 7)) (u0.Data.length : Int)), .int .i64 ((w64 (u0.Next + 1)).tmod 16), .int .i64 u0.Left, .bool u0.Done]) (ty := 53) (u := .bool ((min (w64 (u0.At + 7)) (u0.Data.length : Int)) == (u0.Data.length : Int))) (nog rfl _) rfl rfl (by kernel_rfl) (by kernel_rfl) (by kernel_rfl) (by kernel_rfl) (by kernel_rfl) (by kernel_rfl) (by kernel_rfl) ?_; intro wd416 hM417; clear hM400
      have hM418 : Mem w.heap.size [] w Z [.own (tySl (tyInt .u8)) 36 ao339 cap340 (ppartsofS u0.Data), .row b191 [.slice ao1 u0.Data.length cap2, .int .i64 (min (w64 (u0.At + 7)) (u0.Data.length : Int)), .int .i64 ((w64 (u0.Next + 1)).tmod 16), .int .i64 u0.Left, .bool ((min (w64 (u0.At + 7)) (u0.Data.length : Int)) == (u0.Data.length : Int))] 53, .row b74 [.slice ao56 (((pnext u0).1).Data).length cap57, .int .i64 (((pnext u0).1).At), .int .i64 (((pnext u0).1).Next), .int .i64 (((pnext u0).1).Left), .bool (((pnext u0).1).Done)] 53, .own (tyInt .u8) 5 ao59 cap60 ((pnext u0).2.1), .row b39 [.slice ao26 (((ptold u0 u1).1).Data).length cap27, .int .i64 (((ptold u0 u1).1).At), .int .i64 (((ptold u0 u1).1).Next), .int .i64 (((ptold u0 u1).1).Left), .bool (((ptold u0 u1).1).Done)] 53, .row b10 [.slice ao1 u0.Data.length cap2, .int .i64 u0.At, .int .i64 u0.Next, .int .i64 u0.Left, .bool u0.Done] 53] Z341 wd416 := hM417; clear hM417
      refine nlH (hQ401 _ _ ?_); clear hQ401 hQ401Q
      refine sqH ?_; intro hQ419Q hQ419
      refine s1 hF415 172 (.pointer (some ⟨b191, 4, none⟩)) ?_; intro a420 hF421; clear hF415
      refine l1 hF421 hM418 173 1 4 (.bool ((min (w64 (u0.At + 7)) (u0.Data.length : Int)) == (u0.Data.length : Int))) rfl rfl ?_; intro a422 hF423; clear hF421
      refine nlH (hQ419 _ _ ?_); clear hQ419 hQ419Q
      refine cd hF423 (t := (min (w64 (u0.At + 7)) (u0.Data.length : Int)) == (u0.Data.length : Int)) (by kernel_rfl) (fun hb424 => ?_) (fun hb424 => ?_)
      · -- yes
       have hp425 := hp344.1 hb424; clear hp344
       have hF426 : Fr 201 [] [⟨7, [], .pointer (some ⟨b74, 0, none⟩)⟩, ⟨8, [], .slice ao59 ((pnext u0).2.1).length cap60⟩, ⟨9, [], .int .i64 ((pnext u0).2.2)⟩, ⟨11, [], .pointer (some ⟨b191, 0, none⟩)⟩, ⟨12, [], .slice ao339 (ppartsofS u0.Data).length cap340⟩, ⟨13, [], .int .i64 (w64 ((w64 ((w64 (u0.At - 6)).tdiv 7)) + 1))⟩] a422 := hF423.region (by kernel_rfl) (by kernel_rfl); clear hF423
       refine rgH ?_; intro hQ427Q hQ427
       refine s1 hF426 174 (.pointer (some ⟨b191, 3, none⟩)) ?_; intro a428 hF429; clear hF426
       refine sr hF429 hM418 1 [.slice ao1 u0.Data.length cap2, .int .i64 (min (w64 (u0.At + 7)) (u0.Data.length : Int)), .int .i64 ((w64 (u0.Next + 1)).tmod 16), .int .i64 0, .bool ((min (w64 (u0.At + 7)) (u0.Data.length : Int)) == (u0.Data.length : Int))] (b := b191) (off := 3) (cs := [.slice ao1 u0.Data.length cap2, .int .i64 (min (w64 (u0.At + 7)) (u0.Data.length : Int)), .int .i64 ((w64 (u0.Next + 1)).tmod 16), .int .i64 u0.Left, .bool ((min (w64 (u0.At + 7)) (u0.Data.length : Int)) == (u0.Data.length : Int))]) (ty := 53) (u := .int .i64 0) (nog rfl _) rfl rfl (by kernel_rfl) (by kernel_rfl) (by kernel_rfl) (by kernel_rfl) (by kernel_rfl) (by kernel_rfl) (by kernel_rfl) ?_; intro wd430 hM431; clear hM418
       have hM432 : Mem w.heap.size [] w Z [.own (tySl (tyInt .u8)) 36 ao339 cap340 (ppartsofS u0.Data), .row b191 [.slice ao1 u0.Data.length cap2, .int .i64 (min (w64 (u0.At + 7)) (u0.Data.length : Int)), .int .i64 ((w64 (u0.Next + 1)).tmod 16), .int .i64 0, .bool ((min (w64 (u0.At + 7)) (u0.Data.length : Int)) == (u0.Data.length : Int))] 53, .row b74 [.slice ao56 (((pnext u0).1).Data).length cap57, .int .i64 (((pnext u0).1).At), .int .i64 (((pnext u0).1).Next), .int .i64 (((pnext u0).1).Left), .bool (((pnext u0).1).Done)] 53, .own (tyInt .u8) 5 ao59 cap60 ((pnext u0).2.1), .row b39 [.slice ao26 (((ptold u0 u1).1).Data).length cap27, .int .i64 (((ptold u0 u1).1).At), .int .i64 (((ptold u0 u1).1).Next), .int .i64 (((ptold u0 u1).1).Left), .bool (((ptold u0 u1).1).Done)] 53, .row b10 [.slice ao1 u0.Data.length cap2, .int .i64 u0.At, .int .i64 u0.Next, .int .i64 u0.Left, .bool u0.Done] 53] Z341 wd430 := hM431; clear hM431
       refine nlH (hQ427 _ _ ?_); clear hQ427 hQ427Q
       refine thn ?_
       refine sqH ?_; intro hQ433Q hQ433
       refine s1 hF429 186 (.int .i64 ((pnext u0).2.2)) ?_; intro a434 hF435; clear hF429
       refine s1 hF435 187 (.bool (((pnext u0).2.2) == 0)) ?_; intro a436 hF437; clear hF435
       refine s1 hF437 188 (.bool (((pnext u0).2.2) == 0)) ?_; intro a438 hF439; clear hF437
       have hF440 := hF439.atom ((((pnext u0).2.2) == 0) == true) (by kernel_rfl); clear hF439
       refine gp hF440 189 0 [] (((pnext u0).2.2) == 0) (.slice ao59 ((pnext u0).2.1).length cap60) rfl rfl ?_; intro a441 hF442; clear hF440
       refine gp hF442 190 0 [] (((pnext u0).2.2) == 0) (.slice ao339 (ppartsofS u0.Data).length cap340) rfl rfl ?_; intro a443 hF444; clear hF442
       refine gp hF444 191 0 [] (((pnext u0).2.2) == 0) (.int .i64 (w64 ((w64 ((w64 (u0.At - 6)).tdiv 7)) + 1))) rfl rfl ?_; intro a445 hF446; clear hF444
       rcases Bool.eq_false_or_eq_true (((pnext u0).2.2) == 0) with hb447 | hb447
       · -- true
        have hp448 := hp425.1 hb447; clear hp425
        have hF449 := hF446.reval (d := 188) (c := []) (v := .bool (((pnext u0).2.2) == 0)) (by kernel_rfl) (.bool true) (by rw [hb447]); clear hF446
        have hF450 := hF449.setc (d := 189) (c := [0]) (v := .slice ao59 ((pnext u0).2.1).length cap60) (by kernel_rfl) (v' := .slice ao59 ((pnext u0).2.1).length cap60) (by rw [hb447]; kernel_rfl); clear hF449
        have hF451 := hF450.setc (d := 190) (c := [0]) (v := .slice ao339 (ppartsofS u0.Data).length cap340) (by kernel_rfl) (v' := .slice ao339 (ppartsofS u0.Data).length cap340) (by rw [hb447]; kernel_rfl); clear hF450
        have hF452 := hF451.setc (d := 191) (c := [0]) (v := .int .i64 (w64 ((w64 ((w64 (u0.At - 6)).tdiv 7)) + 1))) (by kernel_rfl) (v' := .int .i64 (w64 ((w64 ((w64 (u0.At - 6)).tdiv 7)) + 1))) (by rw [hb447]; kernel_rfl); clear hF451
        have hc453 := hp448.1; have hp454 := hp448.2; clear hp448
        refine ixo hF452 hM432 0 (T := (tySl (tyInt .u8))) (xs := (ppartsofS u0.Data)) (w64 ((w64 ((w64 (u0.At - 6)).tdiv 7)) + 1)) hc453 (k := .i64) (e := 36) (bytes := 24) (by rw [wanted_of hF452 (b := true) rfl rfl (by kernel_rfl) (by kernel_rfl)]; rfl) rfl (by kernel_rfl) rfl (by kernel_rfl) (by kernel_rfl) rfl (by kernel_rfl) ?_; intro g455 a457 hg456 hF458; clear hF452
        subst hg456
        have hF459 : Fr 201 [] [⟨7, [], .pointer (some ⟨b74, 0, none⟩)⟩, ⟨8, [], .slice ao59 ((pnext u0).2.1).length cap60⟩, ⟨9, [], .int .i64 ((pnext u0).2.2)⟩, ⟨11, [], .pointer (some ⟨b191, 0, none⟩)⟩, ⟨12, [], .slice (some ⟨g455, 0, none⟩) (ppartsofS u0.Data).length cap340⟩, ⟨13, [], .int .i64 (w64 ((w64 ((w64 (u0.At - 6)).tdiv 7)) + 1))⟩, ⟨174, [], .pointer (some ⟨b191, 3, none⟩)⟩, ⟨186, [], .int .i64 ((pnext u0).2.2)⟩, ⟨187, [], .bool (((pnext u0).2.2) == 0)⟩, ⟨188, [], .bool true⟩, ⟨189, [], .slice ao59 ((pnext u0).2.1).length cap60⟩, ⟨190, [], .slice (some ⟨g455, 0, none⟩) (ppartsofS u0.Data).length cap340⟩, ⟨191, [], .int .i64 (w64 ((w64 ((w64 (u0.At - 6)).tdiv 7)) + 1))⟩, ⟨192, [], .pointer (some ⟨g455, (w64 ((w64 ((w64 (u0.At - 6)).tdiv 7)) + 1)).toNat * 1, none⟩)⟩] a457 := hF458.region (by kernel_rfl) (by kernel_rfl); clear hF458
        have hM460 : Mem w.heap.size [] w Z [.own (tySl (tyInt .u8)) 36 (some ⟨g455, 0, none⟩) cap340 (ppartsofS u0.Data), .row b191 [.slice ao1 u0.Data.length cap2, .int .i64 (min (w64 (u0.At + 7)) (u0.Data.length : Int)), .int .i64 ((w64 (u0.Next + 1)).tmod 16), .int .i64 0, .bool ((min (w64 (u0.At + 7)) (u0.Data.length : Int)) == (u0.Data.length : Int))] 53, .row b74 [.slice ao56 (((pnext u0).1).Data).length cap57, .int .i64 (((pnext u0).1).At), .int .i64 (((pnext u0).1).Next), .int .i64 (((pnext u0).1).Left), .bool (((pnext u0).1).Done)] 53, .own (tyInt .u8) 5 ao59 cap60 ((pnext u0).2.1), .row b39 [.slice ao26 (((ptold u0 u1).1).Data).length cap27, .int .i64 (((ptold u0 u1).1).At), .int .i64 (((ptold u0 u1).1).Next), .int .i64 (((ptold u0 u1).1).Left), .bool (((ptold u0 u1).1).Done)] 53, .row b10 [.slice ao1 u0.Data.length cap2, .int .i64 u0.At, .int .i64 u0.Next, .int .i64 u0.Left, .bool u0.Done] 53] Z341 wd430 := hM432; clear hM432
        obtain ⟨q461, hq462⟩ : ∃ q, (ppartsofS u0.Data)[(w64 ((w64 ((w64 (u0.At - 6)).tdiv 7)) + 1)).toNat]? = some q := ⟨_, List.getElem?_eq_getElem (by first | omega | (simp only [List.length_set] at *; omega))⟩; have hp463 := hp454 q461 hq462; clear hp454
        obtain ⟨cs464, hT465, hcl466⟩ := own_el hM460 0 (T := (tySl (tyInt .u8))) (xs := (ppartsofS u0.Data)) rfl (w64 ((w64 ((w64 (u0.At - 6)).tdiv 7)) + 1)).toNat hq462
        obtain ⟨ao467, cap468, rfl, hs469⟩ := hT465
        have hp470 := hp463 (hs469.small); clear hp463
        refine lc1 hF459 193 (.slice ao467 q461.length cap468) (hcl466 0 _ rfl) rfl ?_ (hw := (by rw [wanted_of hF459 (b := true) rfl rfl (by kernel_rfl) (by kernel_rfl)]; rfl)); intro a471 hF472; clear hF459
        obtain ⟨Z473, hle474, hM475, hs476⟩ := hM460.freeze 3 rfl
        replace hs3 := hs3.mono hle474
        replace hs6 := hs6.mono hle474
        replace hs28 := hs28.mono hle474
        replace hs58 := hs58.mono hle474
        replace hsyb191_0 := hsyb191_0.mono hle474
        replace hs469 := hs469.mono hle474
        replace hle0 := Fz.le.trans hle0 hle474
        have hM477 : Mem w.heap.size [] w Z [.own (tySl (tyInt .u8)) 36 (some ⟨g455, 0, none⟩) cap340 (ppartsofS u0.Data), .row b191 [.slice ao1 u0.Data.length cap2, .int .i64 (min (w64 (u0.At + 7)) (u0.Data.length : Int)), .int .i64 ((w64 (u0.Next + 1)).tmod 16), .int .i64 0, .bool ((min (w64 (u0.At + 7)) (u0.Data.length : Int)) == (u0.Data.length : Int))] 53, .row b74 [.slice ao56 (((pnext u0).1).Data).length cap57, .int .i64 (((pnext u0).1).At), .int .i64 (((pnext u0).1).Next), .int .i64 (((pnext u0).1).Left), .bool (((pnext u0).1).Done)] 53, .row b39 [.slice ao26 (((ptold u0 u1).1).Data).length cap27, .int .i64 (((ptold u0 u1).1).At), .int .i64 (((ptold u0 u1).1).Next), .int .i64 (((ptold u0 u1).1).Left), .bool (((ptold u0 u1).1).Done)] 53, .row b10 [.slice ao1 u0.Data.length cap2, .int .i64 u0.At, .int .i64 u0.Next, .int .i64 u0.Left, .bool u0.Done] 53] Z473 wd430 := hM475; clear hM475
        refine fcl hF472 hM477 (.bool (beqS ((pnext u0).2.1) q461)) 37 #[.slice ao59 ((pnext u0).2.1).length cap60, .slice ao467 q461.length cap468] (by rw [wanted_of hF472 (b := true) rfl rfl (by kernel_rfl) (by kernel_rfl)]; rfl) rfl (by kernel_rfl) (fun _ => by kernel_rfl) (beq_fun ((pnext u0).2.1) q461 ao59 cap60 ao467 cap468 _ _ hs476 hs469 hM477.fz) ?_; intro a478 wd480 hF479 hM481; clear hF472 hM477
        refine s1 hF479 195 (.bool (beqS ((pnext u0).2.1) q461)) ?_; intro a482 hF483; clear hF479
        refine s1 hF483 196 (.bool (beqS ((pnext u0).2.1) q461)) ?_; intro a484 hF485; clear hF483
        have hF486 := hF485.atom ((beqS ((pnext u0).2.1) q461) == true) (by kernel_rfl); clear hF485
        refine gd hF486 (.agg #[.slice ao56 (((pnext u0).1).Data).length cap57, .int .i64 (((pnext u0).1).At), .int .i64 (((pnext u0).1).Next), .int .i64 (((pnext u0).1).Left), .bool (((pnext u0).1).Done)]) (m := 0) (cj := []) (bj := (beqS ((pnext u0).2.1) q461)) rfl rfl (by kernel_rfl) rfl (by kernel_rfl) (by kernel_rfl) (by kernel_rfl) (fun hg => lda hF486 hM481 2 (g := [0]) (b := b74) (off := 0) (k := 5) (cs := [.slice ao56 (((pnext u0).1).Data).length cap57, .int .i64 (((pnext u0).1).At), .int .i64 (((pnext u0).1).Next), .int .i64 (((pnext u0).1).Left), .bool (((pnext u0).1).Done)]) (vs := [.slice ao56 (((pnext u0).1).Data).length cap57, .int .i64 (((pnext u0).1).At), .int .i64 (((pnext u0).1).Next), .int .i64 (((pnext u0).1).Left), .bool (((pnext u0).1).Done)]) (ty := 53) rfl (by kernel_rfl) (by kernel_rfl) (by kernel_rfl) (by kernel_rfl) (by kernel_rfl) hg) ?_; intro a487 hF488; clear hF486
        refine gd hF488 (.agg #[.slice ao1 u0.Data.length cap2, .int .i64 (min (w64 (u0.At + 7)) (u0.Data.length : Int)), .int .i64 ((w64 (u0.Next + 1)).tmod 16), .int .i64 0, .bool ((min (w64 (u0.At + 7)) (u0.Data.length : Int)) == (u0.Data.length : Int))]) (m := 0) (cj := []) (bj := (beqS ((pnext u0).2.1) q461)) rfl rfl (by kernel_rfl) rfl (by kernel_rfl) (by kernel_rfl) (by kernel_rfl) (fun hg => lda hF488 hM481 1 (g := [0]) (b := b191) (off := 0) (k := 5) (cs := [.slice ao1 u0.Data.length cap2, .int .i64 (min (w64 (u0.At + 7)) (u0.Data.length : Int)), .int .i64 ((w64 (u0.Next + 1)).tmod 16), .int .i64 0, .bool ((min (w64 (u0.At + 7)) (u0.Data.length : Int)) == (u0.Data.length : Int))]) (vs := [.slice ao1 u0.Data.length cap2, .int .i64 (min (w64 (u0.At + 7)) (u0.Data.length : Int)), .int .i64 ((w64 (u0.Next + 1)).tmod 16), .int .i64 0, .bool ((min (w64 (u0.At + 7)) (u0.Data.length : Int)) == (u0.Data.length : Int))]) (ty := 53) rfl (by kernel_rfl) (by kernel_rfl) (by kernel_rfl) (by kernel_rfl) (by kernel_rfl) hg) ?_; intro a489 hF490; clear hF488
        refine gcl hF490 hM481 (.bool (psames ((pnext u0).1) (⟨u0.Data, min (w64 (u0.At + 7)) (u0.Data.length : Int), (w64 (u0.Next + 1)).tmod 16, 0, (min (w64 (u0.At + 7)) (u0.Data.length : Int)) == (u0.Data.length : Int)⟩ : Sender))) 35 #[.agg #[.slice ao56 (((pnext u0).1).Data).length cap57, .int .i64 (((pnext u0).1).At), .int .i64 (((pnext u0).1).Next), .int .i64 (((pnext u0).1).Left), .bool (((pnext u0).1).Done)], .agg #[.slice ao1 u0.Data.length cap2, .int .i64 (min (w64 (u0.At + 7)) (u0.Data.length : Int)), .int .i64 ((w64 (u0.Next + 1)).tmod 16), .int .i64 0, .bool ((min (w64 (u0.At + 7)) (u0.Data.length : Int)) == (u0.Data.length : Int))]] (m := 0) (cj := []) (bj := (beqS ((pnext u0).2.1) q461)) rfl rfl (by kernel_rfl) rfl (by kernel_rfl) (by kernel_rfl) (by kernel_rfl) (fun _ => by kernel_rfl) (fun hg => psames_fun ((pnext u0).1) (⟨u0.Data, min (w64 (u0.At + 7)) (u0.Data.length : Int), (w64 (u0.Next + 1)).tmod 16, 0, (min (w64 (u0.At + 7)) (u0.Data.length : Int)) == (u0.Data.length : Int)⟩ : Sender) ao56 cap57 ao1 cap2 _ _ hs58 hs3 hM481.fz) ?_; intro a491 wd493 hF492 hM494; clear hF490 hM481
        refine st hF492 (.bool ((beqS ((pnext u0).2.1) q461) && (psames ((pnext u0).1) (⟨u0.Data, min (w64 (u0.At + 7)) (u0.Data.length : Int), (w64 (u0.Next + 1)).tmod 16, 0, (min (w64 (u0.At + 7)) (u0.Data.length : Int)) == (u0.Data.length : Int)⟩ : Sender)))) (nog rfl _) rfl (by kernel_rfl) (pk_and hF492 (g := []) (m := 0) (b := (beqS ((pnext u0).2.1) q461)) (v := (psames ((pnext u0).1) (⟨u0.Data, min (w64 (u0.At + 7)) (u0.Data.length : Int), (w64 (u0.Next + 1)).tmod 16, 0, (min (w64 (u0.At + 7)) (u0.Data.length : Int)) == (u0.Data.length : Int)⟩ : Sender))) rfl (by kernel_rfl) (by kernel_rfl) (by kernel_rfl) rfl) ?_; intro a495 hF496; clear hF492
        refine s1 hF496 4 (.bool ((beqS ((pnext u0).2.1) q461) && (psames ((pnext u0).1) (⟨u0.Data, min (w64 (u0.At + 7)) (u0.Data.length : Int), (w64 (u0.Next + 1)).tmod 16, 0, (min (w64 (u0.At + 7)) (u0.Data.length : Int)) == (u0.Data.length : Int)⟩ : Sender)))) ?_; intro a497 hF498; clear hF496
        refine nlH (hQ433 _ _ ?_); clear hQ433 hQ433Q
        refine wp_ret ?_
        refine rt (fn := Try.f9) (v := .bool ((beqS ((pnext u0).2.1) q461) && (psames ((pnext u0).1) (⟨u0.Data, min (w64 (u0.At + 7)) (u0.Data.length : Int), (w64 (u0.Next + 1)).tmod 16, 0, (min (w64 (u0.At + 7)) (u0.Data.length : Int)) == (u0.Data.length : Int)⟩ : Sender)))) hF498 (re1 hF498 (fn := Try.f9) rfl (by kernel_rfl)) ?_
        exact ⟨(beqS ((pnext u0).2.1) q461) && (psames ((pnext u0).1) (⟨u0.Data, min (w64 (u0.At + 7)) (u0.Data.length : Int), (w64 (u0.Next + 1)).tmod 16, 0, (min (w64 (u0.At + 7)) (u0.Data.length : Int)) == (u0.Data.length : Int)⟩ : Sender)), rfl, hp470, hM494.below⟩
       · -- false
        have hp499 := hp425.2 hb447; clear hp425
        have hF500 := hF446.reval (d := 188) (c := []) (v := .bool (((pnext u0).2.2) == 0)) (by kernel_rfl) (.bool false) (by rw [hb447]); clear hF446
        have hF501 := hF500.setc (d := 189) (c := [0]) (v := .slice ao59 ((pnext u0).2.1).length cap60) (by kernel_rfl) (v' := undef) (by rw [hb447]; kernel_rfl); clear hF500
        have hF502 := hF501.setc (d := 190) (c := [0]) (v := .slice ao339 (ppartsofS u0.Data).length cap340) (by kernel_rfl) (v' := undef) (by rw [hb447]; kernel_rfl); clear hF501
        have hF503 := hF502.setc (d := 191) (c := [0]) (v := .int .i64 (w64 ((w64 ((w64 (u0.At - 6)).tdiv 7)) + 1))) (by kernel_rfl) (v' := undef) (by rw [hb447]; kernel_rfl); clear hF502
        refine sk hF503 (b := false) rfl rfl (by kernel_rfl) (by kernel_rfl) rfl rfl (by kernel_rfl) ?_; intro a504 hF505; clear hF503
        refine sk hF505 (b := false) rfl rfl (by kernel_rfl) (by kernel_rfl) rfl rfl (by kernel_rfl) ?_; intro a506 hF507; clear hF505
        refine sk hF507 (b := false) rfl rfl (by kernel_rfl) (by kernel_rfl) rfl rfl (by kernel_rfl) ?_; intro a508 hF509; clear hF507
        refine s1 hF509 195 (.bool false) ?_; intro a510 hF511; clear hF509
        refine s1 hF511 196 (.bool false) ?_; intro a512 hF513; clear hF511
        refine sk hF513 (b := false) rfl rfl (by kernel_rfl) (by kernel_rfl) rfl rfl (by kernel_rfl) ?_; intro a514 hF515; clear hF513
        refine sk hF515 (b := false) rfl rfl (by kernel_rfl) (by kernel_rfl) rfl rfl (by kernel_rfl) ?_; intro a516 hF517; clear hF515
        refine sk hF517 (b := false) rfl rfl (by kernel_rfl) (by kernel_rfl) rfl rfl (by kernel_rfl) ?_; intro a518 hF519; clear hF517
        refine s1 hF519 200 (.bool false) ?_; intro a520 hF521; clear hF519
        refine s1 hF521 4 (.bool false) ?_; intro a522 hF523; clear hF521
        refine nlH (hQ433 _ _ ?_); clear hQ433 hQ433Q
        refine wp_ret ?_
        refine rt (fn := Try.f9) (v := .bool false) hF523 (re1 hF523 (fn := Try.f9) rfl (by kernel_rfl)) ?_
        exact ⟨false, rfl, hp499, hM432.below⟩
      · -- no
       have hp524 := hp344.2 hb424; clear hp344
       have hF525 : Fr 201 [] [⟨2, [], .pointer (some ⟨b10, 0, none⟩)⟩, ⟨7, [], .pointer (some ⟨b74, 0, none⟩)⟩, ⟨8, [], .slice ao59 ((pnext u0).2.1).length cap60⟩, ⟨9, [], .int .i64 ((pnext u0).2.2)⟩, ⟨11, [], .pointer (some ⟨b191, 0, none⟩)⟩, ⟨12, [], .slice ao339 (ppartsofS u0.Data).length cap340⟩, ⟨13, [], .int .i64 (w64 ((w64 ((w64 (u0.At - 6)).tdiv 7)) + 1))⟩] a422 := hF423.region (by kernel_rfl) (by kernel_rfl); clear hF423
       refine sqH ?_; intro hQ526Q hQ526
       refine s1 hF525 175 (.pointer (some ⟨b10, 3, none⟩)) ?_; intro a527 hF528; clear hF525
       refine l1 hF528 hM418 176 5 3 (.int .i64 u0.Left) rfl rfl ?_; intro a529 hF530; clear hF528
       refine s1 hF530 177 (.bool (u0.Left == 1)) ?_; intro a531 hF532; clear hF530
       refine nlH (hQ526 _ _ ?_); clear hQ526 hQ526Q
       refine cd hF532 (t := u0.Left == 1) (by kernel_rfl) (fun hb533 => ?_) (fun hb533 => ?_)
       · -- yes
        have hp534 := hp524.1 hb533; clear hp524
        refine rgH ?_; intro hQ535Q hQ535
        refine s1 hF532 178 (.pointer (some ⟨b191, 3, none⟩)) ?_; intro a536 hF537; clear hF532
        refine sr hF537 hM418 1 [.slice ao1 u0.Data.length cap2, .int .i64 (min (w64 (u0.At + 7)) (u0.Data.length : Int)), .int .i64 ((w64 (u0.Next + 1)).tmod 16), .int .i64 (-1), .bool ((min (w64 (u0.At + 7)) (u0.Data.length : Int)) == (u0.Data.length : Int))] (b := b191) (off := 3) (cs := [.slice ao1 u0.Data.length cap2, .int .i64 (min (w64 (u0.At + 7)) (u0.Data.length : Int)), .int .i64 ((w64 (u0.Next + 1)).tmod 16), .int .i64 u0.Left, .bool ((min (w64 (u0.At + 7)) (u0.Data.length : Int)) == (u0.Data.length : Int))]) (ty := 53) (u := .int .i64 (-1)) (nog rfl _) rfl rfl (by kernel_rfl) (by kernel_rfl) (by kernel_rfl) (by kernel_rfl) (by kernel_rfl) (by kernel_rfl) (by kernel_rfl) ?_; intro wd538 hM539; clear hM418
        have hM540 : Mem w.heap.size [] w Z [.own (tySl (tyInt .u8)) 36 ao339 cap340 (ppartsofS u0.Data), .row b191 [.slice ao1 u0.Data.length cap2, .int .i64 (min (w64 (u0.At + 7)) (u0.Data.length : Int)), .int .i64 ((w64 (u0.Next + 1)).tmod 16), .int .i64 (-1), .bool ((min (w64 (u0.At + 7)) (u0.Data.length : Int)) == (u0.Data.length : Int))] 53, .row b74 [.slice ao56 (((pnext u0).1).Data).length cap57, .int .i64 (((pnext u0).1).At), .int .i64 (((pnext u0).1).Next), .int .i64 (((pnext u0).1).Left), .bool (((pnext u0).1).Done)] 53, .own (tyInt .u8) 5 ao59 cap60 ((pnext u0).2.1), .row b39 [.slice ao26 (((ptold u0 u1).1).Data).length cap27, .int .i64 (((ptold u0 u1).1).At), .int .i64 (((ptold u0 u1).1).Next), .int .i64 (((ptold u0 u1).1).Left), .bool (((ptold u0 u1).1).Done)] 53, .row b10 [.slice ao1 u0.Data.length cap2, .int .i64 u0.At, .int .i64 u0.Next, .int .i64 u0.Left, .bool u0.Done] 53] Z341 wd538 := hM539; clear hM539
        refine nlH (hQ535 _ _ ?_); clear hQ535 hQ535Q
        refine thn ?_
        refine sqH ?_; intro hQ541Q hQ541
        refine s1 hF537 186 (.int .i64 ((pnext u0).2.2)) ?_; intro a542 hF543; clear hF537
        refine s1 hF543 187 (.bool (((pnext u0).2.2) == 0)) ?_; intro a544 hF545; clear hF543
        refine s1 hF545 188 (.bool (((pnext u0).2.2) == 0)) ?_; intro a546 hF547; clear hF545
        have hF548 := hF547.atom ((((pnext u0).2.2) == 0) == true) (by kernel_rfl); clear hF547
        refine gp hF548 189 0 [] (((pnext u0).2.2) == 0) (.slice ao59 ((pnext u0).2.1).length cap60) rfl rfl ?_; intro a549 hF550; clear hF548
        refine gp hF550 190 0 [] (((pnext u0).2.2) == 0) (.slice ao339 (ppartsofS u0.Data).length cap340) rfl rfl ?_; intro a551 hF552; clear hF550
        refine gp hF552 191 0 [] (((pnext u0).2.2) == 0) (.int .i64 (w64 ((w64 ((w64 (u0.At - 6)).tdiv 7)) + 1))) rfl rfl ?_; intro a553 hF554; clear hF552
        rcases Bool.eq_false_or_eq_true (((pnext u0).2.2) == 0) with hb555 | hb555
        · -- true
         have hp556 := hp534.1 hb555; clear hp534
         have hF557 := hF554.reval (d := 188) (c := []) (v := .bool (((pnext u0).2.2) == 0)) (by kernel_rfl) (.bool true) (by rw [hb555]); clear hF554
         have hF558 := hF557.setc (d := 189) (c := [0]) (v := .slice ao59 ((pnext u0).2.1).length cap60) (by kernel_rfl) (v' := .slice ao59 ((pnext u0).2.1).length cap60) (by rw [hb555]; kernel_rfl); clear hF557
         have hF559 := hF558.setc (d := 190) (c := [0]) (v := .slice ao339 (ppartsofS u0.Data).length cap340) (by kernel_rfl) (v' := .slice ao339 (ppartsofS u0.Data).length cap340) (by rw [hb555]; kernel_rfl); clear hF558
         have hF560 := hF559.setc (d := 191) (c := [0]) (v := .int .i64 (w64 ((w64 ((w64 (u0.At - 6)).tdiv 7)) + 1))) (by kernel_rfl) (v' := .int .i64 (w64 ((w64 ((w64 (u0.At - 6)).tdiv 7)) + 1))) (by rw [hb555]; kernel_rfl); clear hF559
         have hc561 := hp556.1; have hp562 := hp556.2; clear hp556
         refine ixo hF560 hM540 0 (T := (tySl (tyInt .u8))) (xs := (ppartsofS u0.Data)) (w64 ((w64 ((w64 (u0.At - 6)).tdiv 7)) + 1)) hc561 (k := .i64) (e := 36) (bytes := 24) (by rw [wanted_of hF560 (b := true) rfl rfl (by kernel_rfl) (by kernel_rfl)]; rfl) rfl (by kernel_rfl) rfl (by kernel_rfl) (by kernel_rfl) rfl (by kernel_rfl) ?_; intro g563 a565 hg564 hF566; clear hF560
         subst hg564
         have hF567 : Fr 201 [] [⟨2, [], .pointer (some ⟨b10, 0, none⟩)⟩, ⟨7, [], .pointer (some ⟨b74, 0, none⟩)⟩, ⟨8, [], .slice ao59 ((pnext u0).2.1).length cap60⟩, ⟨9, [], .int .i64 ((pnext u0).2.2)⟩, ⟨11, [], .pointer (some ⟨b191, 0, none⟩)⟩, ⟨12, [], .slice (some ⟨g563, 0, none⟩) (ppartsofS u0.Data).length cap340⟩, ⟨13, [], .int .i64 (w64 ((w64 ((w64 (u0.At - 6)).tdiv 7)) + 1))⟩, ⟨175, [], .pointer (some ⟨b10, 3, none⟩)⟩, ⟨176, [], .int .i64 u0.Left⟩, ⟨177, [], .bool (u0.Left == 1)⟩, ⟨178, [], .pointer (some ⟨b191, 3, none⟩)⟩, ⟨186, [], .int .i64 ((pnext u0).2.2)⟩, ⟨187, [], .bool (((pnext u0).2.2) == 0)⟩, ⟨188, [], .bool true⟩, ⟨189, [], .slice ao59 ((pnext u0).2.1).length cap60⟩, ⟨190, [], .slice (some ⟨g563, 0, none⟩) (ppartsofS u0.Data).length cap340⟩, ⟨191, [], .int .i64 (w64 ((w64 ((w64 (u0.At - 6)).tdiv 7)) + 1))⟩, ⟨192, [], .pointer (some ⟨g563, (w64 ((w64 ((w64 (u0.At - 6)).tdiv 7)) + 1)).toNat * 1, none⟩)⟩] a565 := hF566.region (by kernel_rfl) (by kernel_rfl); clear hF566
         have hM568 : Mem w.heap.size [] w Z [.own (tySl (tyInt .u8)) 36 (some ⟨g563, 0, none⟩) cap340 (ppartsofS u0.Data), .row b191 [.slice ao1 u0.Data.length cap2, .int .i64 (min (w64 (u0.At + 7)) (u0.Data.length : Int)), .int .i64 ((w64 (u0.Next + 1)).tmod 16), .int .i64 (-1), .bool ((min (w64 (u0.At + 7)) (u0.Data.length : Int)) == (u0.Data.length : Int))] 53, .row b74 [.slice ao56 (((pnext u0).1).Data).length cap57, .int .i64 (((pnext u0).1).At), .int .i64 (((pnext u0).1).Next), .int .i64 (((pnext u0).1).Left), .bool (((pnext u0).1).Done)] 53, .own (tyInt .u8) 5 ao59 cap60 ((pnext u0).2.1), .row b39 [.slice ao26 (((ptold u0 u1).1).Data).length cap27, .int .i64 (((ptold u0 u1).1).At), .int .i64 (((ptold u0 u1).1).Next), .int .i64 (((ptold u0 u1).1).Left), .bool (((ptold u0 u1).1).Done)] 53, .row b10 [.slice ao1 u0.Data.length cap2, .int .i64 u0.At, .int .i64 u0.Next, .int .i64 u0.Left, .bool u0.Done] 53] Z341 wd538 := hM540; clear hM540
         obtain ⟨q569, hq570⟩ : ∃ q, (ppartsofS u0.Data)[(w64 ((w64 ((w64 (u0.At - 6)).tdiv 7)) + 1)).toNat]? = some q := ⟨_, List.getElem?_eq_getElem (by first | omega | (simp only [List.length_set] at *; omega))⟩; have hp571 := hp562 q569 hq570; clear hp562
         obtain ⟨cs572, hT573, hcl574⟩ := own_el hM568 0 (T := (tySl (tyInt .u8))) (xs := (ppartsofS u0.Data)) rfl (w64 ((w64 ((w64 (u0.At - 6)).tdiv 7)) + 1)).toNat hq570
         obtain ⟨ao575, cap576, rfl, hs577⟩ := hT573
         have hp578 := hp571 (hs577.small); clear hp571
         refine lc1 hF567 193 (.slice ao575 q569.length cap576) (hcl574 0 _ rfl) rfl ?_ (hw := (by rw [wanted_of hF567 (b := true) rfl rfl (by kernel_rfl) (by kernel_rfl)]; rfl)); intro a579 hF580; clear hF567
         obtain ⟨Z581, hle582, hM583, hs584⟩ := hM568.freeze 3 rfl
         replace hs3 := hs3.mono hle582
         replace hs6 := hs6.mono hle582
         replace hs28 := hs28.mono hle582
         replace hs58 := hs58.mono hle582
         replace hsyb191_0 := hsyb191_0.mono hle582
         replace hs577 := hs577.mono hle582
         replace hle0 := Fz.le.trans hle0 hle582
         have hM585 : Mem w.heap.size [] w Z [.own (tySl (tyInt .u8)) 36 (some ⟨g563, 0, none⟩) cap340 (ppartsofS u0.Data), .row b191 [.slice ao1 u0.Data.length cap2, .int .i64 (min (w64 (u0.At + 7)) (u0.Data.length : Int)), .int .i64 ((w64 (u0.Next + 1)).tmod 16), .int .i64 (-1), .bool ((min (w64 (u0.At + 7)) (u0.Data.length : Int)) == (u0.Data.length : Int))] 53, .row b74 [.slice ao56 (((pnext u0).1).Data).length cap57, .int .i64 (((pnext u0).1).At), .int .i64 (((pnext u0).1).Next), .int .i64 (((pnext u0).1).Left), .bool (((pnext u0).1).Done)] 53, .row b39 [.slice ao26 (((ptold u0 u1).1).Data).length cap27, .int .i64 (((ptold u0 u1).1).At), .int .i64 (((ptold u0 u1).1).Next), .int .i64 (((ptold u0 u1).1).Left), .bool (((ptold u0 u1).1).Done)] 53, .row b10 [.slice ao1 u0.Data.length cap2, .int .i64 u0.At, .int .i64 u0.Next, .int .i64 u0.Left, .bool u0.Done] 53] Z581 wd538 := hM583; clear hM583
         refine fcl hF580 hM585 (.bool (beqS ((pnext u0).2.1) q569)) 37 #[.slice ao59 ((pnext u0).2.1).length cap60, .slice ao575 q569.length cap576] (by rw [wanted_of hF580 (b := true) rfl rfl (by kernel_rfl) (by kernel_rfl)]; rfl) rfl (by kernel_rfl) (fun _ => by kernel_rfl) (beq_fun ((pnext u0).2.1) q569 ao59 cap60 ao575 cap576 _ _ hs584 hs577 hM585.fz) ?_; intro a586 wd588 hF587 hM589; clear hF580 hM585
         refine s1 hF587 195 (.bool (beqS ((pnext u0).2.1) q569)) ?_; intro a590 hF591; clear hF587
         refine s1 hF591 196 (.bool (beqS ((pnext u0).2.1) q569)) ?_; intro a592 hF593; clear hF591
         have hF594 := hF593.atom ((beqS ((pnext u0).2.1) q569) == true) (by kernel_rfl); clear hF593
         refine gd hF594 (.agg #[.slice ao56 (((pnext u0).1).Data).length cap57, .int .i64 (((pnext u0).1).At), .int .i64 (((pnext u0).1).Next), .int .i64 (((pnext u0).1).Left), .bool (((pnext u0).1).Done)]) (m := 0) (cj := []) (bj := (beqS ((pnext u0).2.1) q569)) rfl rfl (by kernel_rfl) rfl (by kernel_rfl) (by kernel_rfl) (by kernel_rfl) (fun hg => lda hF594 hM589 2 (g := [0]) (b := b74) (off := 0) (k := 5) (cs := [.slice ao56 (((pnext u0).1).Data).length cap57, .int .i64 (((pnext u0).1).At), .int .i64 (((pnext u0).1).Next), .int .i64 (((pnext u0).1).Left), .bool (((pnext u0).1).Done)]) (vs := [.slice ao56 (((pnext u0).1).Data).length cap57, .int .i64 (((pnext u0).1).At), .int .i64 (((pnext u0).1).Next), .int .i64 (((pnext u0).1).Left), .bool (((pnext u0).1).Done)]) (ty := 53) rfl (by kernel_rfl) (by kernel_rfl) (by kernel_rfl) (by kernel_rfl) (by kernel_rfl) hg) ?_; intro a595 hF596; clear hF594
         refine gd hF596 (.agg #[.slice ao1 u0.Data.length cap2, .int .i64 (min (w64 (u0.At + 7)) (u0.Data.length : Int)), .int .i64 ((w64 (u0.Next + 1)).tmod 16), .int .i64 (-1), .bool ((min (w64 (u0.At + 7)) (u0.Data.length : Int)) == (u0.Data.length : Int))]) (m := 0) (cj := []) (bj := (beqS ((pnext u0).2.1) q569)) rfl rfl (by kernel_rfl) rfl (by kernel_rfl) (by kernel_rfl) (by kernel_rfl) (fun hg => lda hF596 hM589 1 (g := [0]) (b := b191) (off := 0) (k := 5) (cs := [.slice ao1 u0.Data.length cap2, .int .i64 (min (w64 (u0.At + 7)) (u0.Data.length : Int)), .int .i64 ((w64 (u0.Next + 1)).tmod 16), .int .i64 (-1), .bool ((min (w64 (u0.At + 7)) (u0.Data.length : Int)) == (u0.Data.length : Int))]) (vs := [.slice ao1 u0.Data.length cap2, .int .i64 (min (w64 (u0.At + 7)) (u0.Data.length : Int)), .int .i64 ((w64 (u0.Next + 1)).tmod 16), .int .i64 (-1), .bool ((min (w64 (u0.At + 7)) (u0.Data.length : Int)) == (u0.Data.length : Int))]) (ty := 53) rfl (by kernel_rfl) (by kernel_rfl) (by kernel_rfl) (by kernel_rfl) (by kernel_rfl) hg) ?_; intro a597 hF598; clear hF596
         refine gcl hF598 hM589 (.bool (psames ((pnext u0).1) (⟨u0.Data, min (w64 (u0.At + 7)) (u0.Data.length : Int), (w64 (u0.Next + 1)).tmod 16, -1, (min (w64 (u0.At + 7)) (u0.Data.length : Int)) == (u0.Data.length : Int)⟩ : Sender))) 35 #[.agg #[.slice ao56 (((pnext u0).1).Data).length cap57, .int .i64 (((pnext u0).1).At), .int .i64 (((pnext u0).1).Next), .int .i64 (((pnext u0).1).Left), .bool (((pnext u0).1).Done)], .agg #[.slice ao1 u0.Data.length cap2, .int .i64 (min (w64 (u0.At + 7)) (u0.Data.length : Int)), .int .i64 ((w64 (u0.Next + 1)).tmod 16), .int .i64 (-1), .bool ((min (w64 (u0.At + 7)) (u0.Data.length : Int)) == (u0.Data.length : Int))]] (m := 0) (cj := []) (bj := (beqS ((pnext u0).2.1) q569)) rfl rfl (by kernel_rfl) rfl (by kernel_rfl) (by kernel_rfl) (by kernel_rfl) (fun _ => by kernel_rfl) (fun hg => psames_fun ((pnext u0).1) (⟨u0.Data, min (w64 (u0.At + 7)) (u0.Data.length : Int), (w64 (u0.Next + 1)).tmod 16, -1, (min (w64 (u0.At + 7)) (u0.Data.length : Int)) == (u0.Data.length : Int)⟩ : Sender) ao56 cap57 ao1 cap2 _ _ hs58 hs3 hM589.fz) ?_; intro a599 wd601 hF600 hM602; clear hF598 hM589
         refine st hF600 (.bool ((beqS ((pnext u0).2.1) q569) && (psames ((pnext u0).1) (⟨u0.Data, min (w64 (u0.At + 7)) (u0.Data.length : Int), (w64 (u0.Next + 1)).tmod 16, -1, (min (w64 (u0.At + 7)) (u0.Data.length : Int)) == (u0.Data.length : Int)⟩ : Sender)))) (nog rfl _) rfl (by kernel_rfl) (pk_and hF600 (g := []) (m := 0) (b := (beqS ((pnext u0).2.1) q569)) (v := (psames ((pnext u0).1) (⟨u0.Data, min (w64 (u0.At + 7)) (u0.Data.length : Int), (w64 (u0.Next + 1)).tmod 16, -1, (min (w64 (u0.At + 7)) (u0.Data.length : Int)) == (u0.Data.length : Int)⟩ : Sender))) rfl (by kernel_rfl) (by kernel_rfl) (by kernel_rfl) rfl) ?_; intro a603 hF604; clear hF600
         refine s1 hF604 4 (.bool ((beqS ((pnext u0).2.1) q569) && (psames ((pnext u0).1) (⟨u0.Data, min (w64 (u0.At + 7)) (u0.Data.length : Int), (w64 (u0.Next + 1)).tmod 16, -1, (min (w64 (u0.At + 7)) (u0.Data.length : Int)) == (u0.Data.length : Int)⟩ : Sender)))) ?_; intro a605 hF606; clear hF604
         refine nlH (hQ541 _ _ ?_); clear hQ541 hQ541Q
         refine wp_ret ?_
         refine rt (fn := Try.f9) (v := .bool ((beqS ((pnext u0).2.1) q569) && (psames ((pnext u0).1) (⟨u0.Data, min (w64 (u0.At + 7)) (u0.Data.length : Int), (w64 (u0.Next + 1)).tmod 16, -1, (min (w64 (u0.At + 7)) (u0.Data.length : Int)) == (u0.Data.length : Int)⟩ : Sender)))) hF606 (re1 hF606 (fn := Try.f9) rfl (by kernel_rfl)) ?_
         exact ⟨(beqS ((pnext u0).2.1) q569) && (psames ((pnext u0).1) (⟨u0.Data, min (w64 (u0.At + 7)) (u0.Data.length : Int), (w64 (u0.Next + 1)).tmod 16, -1, (min (w64 (u0.At + 7)) (u0.Data.length : Int)) == (u0.Data.length : Int)⟩ : Sender)), rfl, hp578, hM602.below⟩
        · -- false
         have hp607 := hp534.2 hb555; clear hp534
         have hF608 := hF554.reval (d := 188) (c := []) (v := .bool (((pnext u0).2.2) == 0)) (by kernel_rfl) (.bool false) (by rw [hb555]); clear hF554
         have hF609 := hF608.setc (d := 189) (c := [0]) (v := .slice ao59 ((pnext u0).2.1).length cap60) (by kernel_rfl) (v' := undef) (by rw [hb555]; kernel_rfl); clear hF608
         have hF610 := hF609.setc (d := 190) (c := [0]) (v := .slice ao339 (ppartsofS u0.Data).length cap340) (by kernel_rfl) (v' := undef) (by rw [hb555]; kernel_rfl); clear hF609
         have hF611 := hF610.setc (d := 191) (c := [0]) (v := .int .i64 (w64 ((w64 ((w64 (u0.At - 6)).tdiv 7)) + 1))) (by kernel_rfl) (v' := undef) (by rw [hb555]; kernel_rfl); clear hF610
         refine sk hF611 (b := false) rfl rfl (by kernel_rfl) (by kernel_rfl) rfl rfl (by kernel_rfl) ?_; intro a612 hF613; clear hF611
         refine sk hF613 (b := false) rfl rfl (by kernel_rfl) (by kernel_rfl) rfl rfl (by kernel_rfl) ?_; intro a614 hF615; clear hF613
         refine sk hF615 (b := false) rfl rfl (by kernel_rfl) (by kernel_rfl) rfl rfl (by kernel_rfl) ?_; intro a616 hF617; clear hF615
         refine s1 hF617 195 (.bool false) ?_; intro a618 hF619; clear hF617
         refine s1 hF619 196 (.bool false) ?_; intro a620 hF621; clear hF619
         refine sk hF621 (b := false) rfl rfl (by kernel_rfl) (by kernel_rfl) rfl rfl (by kernel_rfl) ?_; intro a622 hF623; clear hF621
         refine sk hF623 (b := false) rfl rfl (by kernel_rfl) (by kernel_rfl) rfl rfl (by kernel_rfl) ?_; intro a624 hF625; clear hF623
         refine sk hF625 (b := false) rfl rfl (by kernel_rfl) (by kernel_rfl) rfl rfl (by kernel_rfl) ?_; intro a626 hF627; clear hF625
         refine s1 hF627 200 (.bool false) ?_; intro a628 hF629; clear hF627
         refine s1 hF629 4 (.bool false) ?_; intro a630 hF631; clear hF629
         refine nlH (hQ541 _ _ ?_); clear hQ541 hQ541Q
         refine wp_ret ?_
         refine rt (fn := Try.f9) (v := .bool false) hF631 (re1 hF631 (fn := Try.f9) rfl (by kernel_rfl)) ?_
         exact ⟨false, rfl, hp607, hM540.below⟩
       · -- no
        have hp632 := hp524.2 hb533; clear hp524
        refine sqH ?_; intro hQ633Q hQ633
        refine s1 hF532 179 (.pointer (some ⟨b10, 3, none⟩)) ?_; intro a634 hF635; clear hF532
        refine l1 hF635 hM418 180 5 3 (.int .i64 u0.Left) rfl rfl ?_; intro a636 hF637; clear hF635
        refine s1 hF637 181 (.bool (decide (u0.Left > 1))) ?_; intro a638 hF639; clear hF637
        refine nlH (hQ633 _ _ ?_); clear hQ633 hQ633Q
        refine cd hF639 (t := decide (u0.Left > 1)) (by kernel_rfl) (fun hb640 => ?_) (fun hb640 => ?_)
        · -- yes
         have hp641 := hp632.1 hb640; clear hp632
         refine rgH ?_; intro hQ642Q hQ642
         refine s1 hF639 182 (.pointer (some ⟨b191, 3, none⟩)) ?_; intro a643 hF644; clear hF639
         refine l1 hF644 hM418 183 1 3 (.int .i64 u0.Left) rfl rfl ?_; intro a645 hF646; clear hF644
         refine s1 hF646 184 (.int .i64 (w64 (u0.Left - 1))) ?_; intro a647 hF648; clear hF646
         refine s1 hF648 185 (.pointer (some ⟨b191, 3, none⟩)) ?_; intro a649 hF650; clear hF648
         refine sr hF650 hM418 1 [.slice ao1 u0.Data.length cap2, .int .i64 (min (w64 (u0.At + 7)) (u0.Data.length : Int)), .int .i64 ((w64 (u0.Next + 1)).tmod 16), .int .i64 (w64 (u0.Left - 1)), .bool ((min (w64 (u0.At + 7)) (u0.Data.length : Int)) == (u0.Data.length : Int))] (b := b191) (off := 3) (cs := [.slice ao1 u0.Data.length cap2, .int .i64 (min (w64 (u0.At + 7)) (u0.Data.length : Int)), .int .i64 ((w64 (u0.Next + 1)).tmod 16), .int .i64 u0.Left, .bool ((min (w64 (u0.At + 7)) (u0.Data.length : Int)) == (u0.Data.length : Int))]) (ty := 53) (u := .int .i64 (w64 (u0.Left - 1))) (nog rfl _) rfl rfl (by kernel_rfl) (by kernel_rfl) (by kernel_rfl) (by kernel_rfl) (by kernel_rfl) (by kernel_rfl) (by kernel_rfl) ?_; intro wd651 hM652; clear hM418
         have hM653 : Mem w.heap.size [] w Z [.own (tySl (tyInt .u8)) 36 ao339 cap340 (ppartsofS u0.Data), .row b191 [.slice ao1 u0.Data.length cap2, .int .i64 (min (w64 (u0.At + 7)) (u0.Data.length : Int)), .int .i64 ((w64 (u0.Next + 1)).tmod 16), .int .i64 (w64 (u0.Left - 1)), .bool ((min (w64 (u0.At + 7)) (u0.Data.length : Int)) == (u0.Data.length : Int))] 53, .row b74 [.slice ao56 (((pnext u0).1).Data).length cap57, .int .i64 (((pnext u0).1).At), .int .i64 (((pnext u0).1).Next), .int .i64 (((pnext u0).1).Left), .bool (((pnext u0).1).Done)] 53, .own (tyInt .u8) 5 ao59 cap60 ((pnext u0).2.1), .row b39 [.slice ao26 (((ptold u0 u1).1).Data).length cap27, .int .i64 (((ptold u0 u1).1).At), .int .i64 (((ptold u0 u1).1).Next), .int .i64 (((ptold u0 u1).1).Left), .bool (((ptold u0 u1).1).Done)] 53, .row b10 [.slice ao1 u0.Data.length cap2, .int .i64 u0.At, .int .i64 u0.Next, .int .i64 u0.Left, .bool u0.Done] 53] Z341 wd651 := hM652; clear hM652
         refine nlH (hQ642 _ _ ?_); clear hQ642 hQ642Q
         refine thn ?_
         refine sqH ?_; intro hQ654Q hQ654
         refine s1 hF650 186 (.int .i64 ((pnext u0).2.2)) ?_; intro a655 hF656; clear hF650
         refine s1 hF656 187 (.bool (((pnext u0).2.2) == 0)) ?_; intro a657 hF658; clear hF656
         refine s1 hF658 188 (.bool (((pnext u0).2.2) == 0)) ?_; intro a659 hF660; clear hF658
         have hF661 := hF660.atom ((((pnext u0).2.2) == 0) == true) (by kernel_rfl); clear hF660
         refine gp hF661 189 0 [] (((pnext u0).2.2) == 0) (.slice ao59 ((pnext u0).2.1).length cap60) rfl rfl ?_; intro a662 hF663; clear hF661
         refine gp hF663 190 0 [] (((pnext u0).2.2) == 0) (.slice ao339 (ppartsofS u0.Data).length cap340) rfl rfl ?_; intro a664 hF665; clear hF663
         refine gp hF665 191 0 [] (((pnext u0).2.2) == 0) (.int .i64 (w64 ((w64 ((w64 (u0.At - 6)).tdiv 7)) + 1))) rfl rfl ?_; intro a666 hF667; clear hF665
         rcases Bool.eq_false_or_eq_true (((pnext u0).2.2) == 0) with hb668 | hb668
         · -- true
          have hp669 := hp641.1 hb668; clear hp641
          have hF670 := hF667.reval (d := 188) (c := []) (v := .bool (((pnext u0).2.2) == 0)) (by kernel_rfl) (.bool true) (by rw [hb668]); clear hF667
          have hF671 := hF670.setc (d := 189) (c := [0]) (v := .slice ao59 ((pnext u0).2.1).length cap60) (by kernel_rfl) (v' := .slice ao59 ((pnext u0).2.1).length cap60) (by rw [hb668]; kernel_rfl); clear hF670
          have hF672 := hF671.setc (d := 190) (c := [0]) (v := .slice ao339 (ppartsofS u0.Data).length cap340) (by kernel_rfl) (v' := .slice ao339 (ppartsofS u0.Data).length cap340) (by rw [hb668]; kernel_rfl); clear hF671
          have hF673 := hF672.setc (d := 191) (c := [0]) (v := .int .i64 (w64 ((w64 ((w64 (u0.At - 6)).tdiv 7)) + 1))) (by kernel_rfl) (v' := .int .i64 (w64 ((w64 ((w64 (u0.At - 6)).tdiv 7)) + 1))) (by rw [hb668]; kernel_rfl); clear hF672
          have hc674 := hp669.1; have hp675 := hp669.2; clear hp669
          refine ixo hF673 hM653 0 (T := (tySl (tyInt .u8))) (xs := (ppartsofS u0.Data)) (w64 ((w64 ((w64 (u0.At - 6)).tdiv 7)) + 1)) hc674 (k := .i64) (e := 36) (bytes := 24) (by rw [wanted_of hF673 (b := true) rfl rfl (by kernel_rfl) (by kernel_rfl)]; rfl) rfl (by kernel_rfl) rfl (by kernel_rfl) (by kernel_rfl) rfl (by kernel_rfl) ?_; intro g676 a678 hg677 hF679; clear hF673
          subst hg677
          have hF680 : Fr 201 [] [⟨2, [], .pointer (some ⟨b10, 0, none⟩)⟩, ⟨7, [], .pointer (some ⟨b74, 0, none⟩)⟩, ⟨8, [], .slice ao59 ((pnext u0).2.1).length cap60⟩, ⟨9, [], .int .i64 ((pnext u0).2.2)⟩, ⟨11, [], .pointer (some ⟨b191, 0, none⟩)⟩, ⟨12, [], .slice (some ⟨g676, 0, none⟩) (ppartsofS u0.Data).length cap340⟩, ⟨13, [], .int .i64 (w64 ((w64 ((w64 (u0.At - 6)).tdiv 7)) + 1))⟩, ⟨175, [], .pointer (some ⟨b10, 3, none⟩)⟩, ⟨176, [], .int .i64 u0.Left⟩, ⟨177, [], .bool (u0.Left == 1)⟩, ⟨179, [], .pointer (some ⟨b10, 3, none⟩)⟩, ⟨180, [], .int .i64 u0.Left⟩, ⟨181, [], .bool (decide (u0.Left > 1))⟩, ⟨182, [], .pointer (some ⟨b191, 3, none⟩)⟩, ⟨183, [], .int .i64 u0.Left⟩, ⟨184, [], .int .i64 (w64 (u0.Left - 1))⟩, ⟨185, [], .pointer (some ⟨b191, 3, none⟩)⟩, ⟨186, [], .int .i64 ((pnext u0).2.2)⟩, ⟨187, [], .bool (((pnext u0).2.2) == 0)⟩, ⟨188, [], .bool true⟩, ⟨189, [], .slice ao59 ((pnext u0).2.1).length cap60⟩, ⟨190, [], .slice (some ⟨g676, 0, none⟩) (ppartsofS u0.Data).length cap340⟩, ⟨191, [], .int .i64 (w64 ((w64 ((w64 (u0.At - 6)).tdiv 7)) + 1))⟩, ⟨192, [], .pointer (some ⟨g676, (w64 ((w64 ((w64 (u0.At - 6)).tdiv 7)) + 1)).toNat * 1, none⟩)⟩] a678 := hF679.region (by kernel_rfl) (by kernel_rfl); clear hF679
          have hM681 : Mem w.heap.size [] w Z [.own (tySl (tyInt .u8)) 36 (some ⟨g676, 0, none⟩) cap340 (ppartsofS u0.Data), .row b191 [.slice ao1 u0.Data.length cap2, .int .i64 (min (w64 (u0.At + 7)) (u0.Data.length : Int)), .int .i64 ((w64 (u0.Next + 1)).tmod 16), .int .i64 (w64 (u0.Left - 1)), .bool ((min (w64 (u0.At + 7)) (u0.Data.length : Int)) == (u0.Data.length : Int))] 53, .row b74 [.slice ao56 (((pnext u0).1).Data).length cap57, .int .i64 (((pnext u0).1).At), .int .i64 (((pnext u0).1).Next), .int .i64 (((pnext u0).1).Left), .bool (((pnext u0).1).Done)] 53, .own (tyInt .u8) 5 ao59 cap60 ((pnext u0).2.1), .row b39 [.slice ao26 (((ptold u0 u1).1).Data).length cap27, .int .i64 (((ptold u0 u1).1).At), .int .i64 (((ptold u0 u1).1).Next), .int .i64 (((ptold u0 u1).1).Left), .bool (((ptold u0 u1).1).Done)] 53, .row b10 [.slice ao1 u0.Data.length cap2, .int .i64 u0.At, .int .i64 u0.Next, .int .i64 u0.Left, .bool u0.Done] 53] Z341 wd651 := hM653; clear hM653
          obtain ⟨q682, hq683⟩ : ∃ q, (ppartsofS u0.Data)[(w64 ((w64 ((w64 (u0.At - 6)).tdiv 7)) + 1)).toNat]? = some q := ⟨_, List.getElem?_eq_getElem (by first | omega | (simp only [List.length_set] at *; omega))⟩; have hp684 := hp675 q682 hq683; clear hp675
          obtain ⟨cs685, hT686, hcl687⟩ := own_el hM681 0 (T := (tySl (tyInt .u8))) (xs := (ppartsofS u0.Data)) rfl (w64 ((w64 ((w64 (u0.At - 6)).tdiv 7)) + 1)).toNat hq683
          obtain ⟨ao688, cap689, rfl, hs690⟩ := hT686
          have hp691 := hp684 (hs690.small); clear hp684
          refine lc1 hF680 193 (.slice ao688 q682.length cap689) (hcl687 0 _ rfl) rfl ?_ (hw := (by rw [wanted_of hF680 (b := true) rfl rfl (by kernel_rfl) (by kernel_rfl)]; rfl)); intro a692 hF693; clear hF680
          obtain ⟨Z694, hle695, hM696, hs697⟩ := hM681.freeze 3 rfl
          replace hs3 := hs3.mono hle695
          replace hs6 := hs6.mono hle695
          replace hs28 := hs28.mono hle695
          replace hs58 := hs58.mono hle695
          replace hsyb191_0 := hsyb191_0.mono hle695
          replace hs690 := hs690.mono hle695
          replace hle0 := Fz.le.trans hle0 hle695
          have hM698 : Mem w.heap.size [] w Z [.own (tySl (tyInt .u8)) 36 (some ⟨g676, 0, none⟩) cap340 (ppartsofS u0.Data), .row b191 [.slice ao1 u0.Data.length cap2, .int .i64 (min (w64 (u0.At + 7)) (u0.Data.length : Int)), .int .i64 ((w64 (u0.Next + 1)).tmod 16), .int .i64 (w64 (u0.Left - 1)), .bool ((min (w64 (u0.At + 7)) (u0.Data.length : Int)) == (u0.Data.length : Int))] 53, .row b74 [.slice ao56 (((pnext u0).1).Data).length cap57, .int .i64 (((pnext u0).1).At), .int .i64 (((pnext u0).1).Next), .int .i64 (((pnext u0).1).Left), .bool (((pnext u0).1).Done)] 53, .row b39 [.slice ao26 (((ptold u0 u1).1).Data).length cap27, .int .i64 (((ptold u0 u1).1).At), .int .i64 (((ptold u0 u1).1).Next), .int .i64 (((ptold u0 u1).1).Left), .bool (((ptold u0 u1).1).Done)] 53, .row b10 [.slice ao1 u0.Data.length cap2, .int .i64 u0.At, .int .i64 u0.Next, .int .i64 u0.Left, .bool u0.Done] 53] Z694 wd651 := hM696; clear hM696
          refine fcl hF693 hM698 (.bool (beqS ((pnext u0).2.1) q682)) 37 #[.slice ao59 ((pnext u0).2.1).length cap60, .slice ao688 q682.length cap689] (by rw [wanted_of hF693 (b := true) rfl rfl (by kernel_rfl) (by kernel_rfl)]; rfl) rfl (by kernel_rfl) (fun _ => by kernel_rfl) (beq_fun ((pnext u0).2.1) q682 ao59 cap60 ao688 cap689 _ _ hs697 hs690 hM698.fz) ?_; intro a699 wd701 hF700 hM702; clear hF693 hM698
          refine s1 hF700 195 (.bool (beqS ((pnext u0).2.1) q682)) ?_; intro a703 hF704; clear hF700
          refine s1 hF704 196 (.bool (beqS ((pnext u0).2.1) q682)) ?_; intro a705 hF706; clear hF704
          have hF707 := hF706.atom ((beqS ((pnext u0).2.1) q682) == true) (by kernel_rfl); clear hF706
          refine gd hF707 (.agg #[.slice ao56 (((pnext u0).1).Data).length cap57, .int .i64 (((pnext u0).1).At), .int .i64 (((pnext u0).1).Next), .int .i64 (((pnext u0).1).Left), .bool (((pnext u0).1).Done)]) (m := 0) (cj := []) (bj := (beqS ((pnext u0).2.1) q682)) rfl rfl (by kernel_rfl) rfl (by kernel_rfl) (by kernel_rfl) (by kernel_rfl) (fun hg => lda hF707 hM702 2 (g := [0]) (b := b74) (off := 0) (k := 5) (cs := [.slice ao56 (((pnext u0).1).Data).length cap57, .int .i64 (((pnext u0).1).At), .int .i64 (((pnext u0).1).Next), .int .i64 (((pnext u0).1).Left), .bool (((pnext u0).1).Done)]) (vs := [.slice ao56 (((pnext u0).1).Data).length cap57, .int .i64 (((pnext u0).1).At), .int .i64 (((pnext u0).1).Next), .int .i64 (((pnext u0).1).Left), .bool (((pnext u0).1).Done)]) (ty := 53) rfl (by kernel_rfl) (by kernel_rfl) (by kernel_rfl) (by kernel_rfl) (by kernel_rfl) hg) ?_; intro a708 hF709; clear hF707
          refine gd hF709 (.agg #[.slice ao1 u0.Data.length cap2, .int .i64 (min (w64 (u0.At + 7)) (u0.Data.length : Int)), .int .i64 ((w64 (u0.Next + 1)).tmod 16), .int .i64 (w64 (u0.Left - 1)), .bool ((min (w64 (u0.At + 7)) (u0.Data.length : Int)) == (u0.Data.length : Int))]) (m := 0) (cj := []) (bj := (beqS ((pnext u0).2.1) q682)) rfl rfl (by kernel_rfl) rfl (by kernel_rfl) (by kernel_rfl) (by kernel_rfl) (fun hg => lda hF709 hM702 1 (g := [0]) (b := b191) (off := 0) (k := 5) (cs := [.slice ao1 u0.Data.length cap2, .int .i64 (min (w64 (u0.At + 7)) (u0.Data.length : Int)), .int .i64 ((w64 (u0.Next + 1)).tmod 16), .int .i64 (w64 (u0.Left - 1)), .bool ((min (w64 (u0.At + 7)) (u0.Data.length : Int)) == (u0.Data.length : Int))]) (vs := [.slice ao1 u0.Data.length cap2, .int .i64 (min (w64 (u0.At + 7)) (u0.Data.length : Int)), .int .i64 ((w64 (u0.Next + 1)).tmod 16), .int .i64 (w64 (u0.Left - 1)), .bool ((min (w64 (u0.At + 7)) (u0.Data.length : Int)) == (u0.Data.length : Int))]) (ty := 53) rfl (by kernel_rfl) (by kernel_rfl) (by kernel_rfl) (by kernel_rfl) (by kernel_rfl) hg) ?_; intro a710 hF711; clear hF709
          refine gcl hF711 hM702 (.bool (psames ((pnext u0).1) (⟨u0.Data, min (w64 (u0.At + 7)) (u0.Data.length : Int), (w64 (u0.Next + 1)).tmod 16, w64 (u0.Left - 1), (min (w64 (u0.At + 7)) (u0.Data.length : Int)) == (u0.Data.length : Int)⟩ : Sender))) 35 #[.agg #[.slice ao56 (((pnext u0).1).Data).length cap57, .int .i64 (((pnext u0).1).At), .int .i64 (((pnext u0).1).Next), .int .i64 (((pnext u0).1).Left), .bool (((pnext u0).1).Done)], .agg #[.slice ao1 u0.Data.length cap2, .int .i64 (min (w64 (u0.At + 7)) (u0.Data.length : Int)), .int .i64 ((w64 (u0.Next + 1)).tmod 16), .int .i64 (w64 (u0.Left - 1)), .bool ((min (w64 (u0.At + 7)) (u0.Data.length : Int)) == (u0.Data.length : Int))]] (m := 0) (cj := []) (bj := (beqS ((pnext u0).2.1) q682)) rfl rfl (by kernel_rfl) rfl (by kernel_rfl) (by kernel_rfl) (by kernel_rfl) (fun _ => by kernel_rfl) (fun hg => psames_fun ((pnext u0).1) (⟨u0.Data, min (w64 (u0.At + 7)) (u0.Data.length : Int), (w64 (u0.Next + 1)).tmod 16, w64 (u0.Left - 1), (min (w64 (u0.At + 7)) (u0.Data.length : Int)) == (u0.Data.length : Int)⟩ : Sender) ao56 cap57 ao1 cap2 _ _ hs58 hs3 hM702.fz) ?_; intro a712 wd714 hF713 hM715; clear hF711 hM702
          refine st hF713 (.bool ((beqS ((pnext u0).2.1) q682) && (psames ((pnext u0).1) (⟨u0.Data, min (w64 (u0.At + 7)) (u0.Data.length : Int), (w64 (u0.Next + 1)).tmod 16, w64 (u0.Left - 1), (min (w64 (u0.At + 7)) (u0.Data.length : Int)) == (u0.Data.length : Int)⟩ : Sender)))) (nog rfl _) rfl (by kernel_rfl) (pk_and hF713 (g := []) (m := 0) (b := (beqS ((pnext u0).2.1) q682)) (v := (psames ((pnext u0).1) (⟨u0.Data, min (w64 (u0.At + 7)) (u0.Data.length : Int), (w64 (u0.Next + 1)).tmod 16, w64 (u0.Left - 1), (min (w64 (u0.At + 7)) (u0.Data.length : Int)) == (u0.Data.length : Int)⟩ : Sender))) rfl (by kernel_rfl) (by kernel_rfl) (by kernel_rfl) rfl) ?_; intro a716 hF717; clear hF713
          refine s1 hF717 4 (.bool ((beqS ((pnext u0).2.1) q682) && (psames ((pnext u0).1) (⟨u0.Data, min (w64 (u0.At + 7)) (u0.Data.length : Int), (w64 (u0.Next + 1)).tmod 16, w64 (u0.Left - 1), (min (w64 (u0.At + 7)) (u0.Data.length : Int)) == (u0.Data.length : Int)⟩ : Sender)))) ?_; intro a718 hF719; clear hF717
          refine nlH (hQ654 _ _ ?_); clear hQ654 hQ654Q
          refine wp_ret ?_
          refine rt (fn := Try.f9) (v := .bool ((beqS ((pnext u0).2.1) q682) && (psames ((pnext u0).1) (⟨u0.Data, min (w64 (u0.At + 7)) (u0.Data.length : Int), (w64 (u0.Next + 1)).tmod 16, w64 (u0.Left - 1), (min (w64 (u0.At + 7)) (u0.Data.length : Int)) == (u0.Data.length : Int)⟩ : Sender)))) hF719 (re1 hF719 (fn := Try.f9) rfl (by kernel_rfl)) ?_
          exact ⟨(beqS ((pnext u0).2.1) q682) && (psames ((pnext u0).1) (⟨u0.Data, min (w64 (u0.At + 7)) (u0.Data.length : Int), (w64 (u0.Next + 1)).tmod 16, w64 (u0.Left - 1), (min (w64 (u0.At + 7)) (u0.Data.length : Int)) == (u0.Data.length : Int)⟩ : Sender)), rfl, hp691, hM715.below⟩
         · -- false
          have hp720 := hp641.2 hb668; clear hp641
          have hF721 := hF667.reval (d := 188) (c := []) (v := .bool (((pnext u0).2.2) == 0)) (by kernel_rfl) (.bool false) (by rw [hb668]); clear hF667
          have hF722 := hF721.setc (d := 189) (c := [0]) (v := .slice ao59 ((pnext u0).2.1).length cap60) (by kernel_rfl) (v' := undef) (by rw [hb668]; kernel_rfl); clear hF721
          have hF723 := hF722.setc (d := 190) (c := [0]) (v := .slice ao339 (ppartsofS u0.Data).length cap340) (by kernel_rfl) (v' := undef) (by rw [hb668]; kernel_rfl); clear hF722
          have hF724 := hF723.setc (d := 191) (c := [0]) (v := .int .i64 (w64 ((w64 ((w64 (u0.At - 6)).tdiv 7)) + 1))) (by kernel_rfl) (v' := undef) (by rw [hb668]; kernel_rfl); clear hF723
          refine sk hF724 (b := false) rfl rfl (by kernel_rfl) (by kernel_rfl) rfl rfl (by kernel_rfl) ?_; intro a725 hF726; clear hF724
          refine sk hF726 (b := false) rfl rfl (by kernel_rfl) (by kernel_rfl) rfl rfl (by kernel_rfl) ?_; intro a727 hF728; clear hF726
          refine sk hF728 (b := false) rfl rfl (by kernel_rfl) (by kernel_rfl) rfl rfl (by kernel_rfl) ?_; intro a729 hF730; clear hF728
          refine s1 hF730 195 (.bool false) ?_; intro a731 hF732; clear hF730
          refine s1 hF732 196 (.bool false) ?_; intro a733 hF734; clear hF732
          refine sk hF734 (b := false) rfl rfl (by kernel_rfl) (by kernel_rfl) rfl rfl (by kernel_rfl) ?_; intro a735 hF736; clear hF734
          refine sk hF736 (b := false) rfl rfl (by kernel_rfl) (by kernel_rfl) rfl rfl (by kernel_rfl) ?_; intro a737 hF738; clear hF736
          refine sk hF738 (b := false) rfl rfl (by kernel_rfl) (by kernel_rfl) rfl rfl (by kernel_rfl) ?_; intro a739 hF740; clear hF738
          refine s1 hF740 200 (.bool false) ?_; intro a741 hF742; clear hF740
          refine s1 hF742 4 (.bool false) ?_; intro a743 hF744; clear hF742
          refine nlH (hQ654 _ _ ?_); clear hQ654 hQ654Q
          refine wp_ret ?_
          refine rt (fn := Try.f9) (v := .bool false) hF744 (re1 hF744 (fn := Try.f9) rfl (by kernel_rfl)) ?_
          exact ⟨false, rfl, hp720, hM653.below⟩
        · -- no
         have hp745 := hp632.2 hb640; clear hp632
         refine wp_skip ?_
         refine thn ?_
         refine sqH ?_; intro hQ746Q hQ746
         refine s1 hF639 186 (.int .i64 ((pnext u0).2.2)) ?_; intro a747 hF748; clear hF639
         refine s1 hF748 187 (.bool (((pnext u0).2.2) == 0)) ?_; intro a749 hF750; clear hF748
         refine s1 hF750 188 (.bool (((pnext u0).2.2) == 0)) ?_; intro a751 hF752; clear hF750
         have hF753 := hF752.atom ((((pnext u0).2.2) == 0) == true) (by kernel_rfl); clear hF752
         refine gp hF753 189 0 [] (((pnext u0).2.2) == 0) (.slice ao59 ((pnext u0).2.1).length cap60) rfl rfl ?_; intro a754 hF755; clear hF753
         refine gp hF755 190 0 [] (((pnext u0).2.2) == 0) (.slice ao339 (ppartsofS u0.Data).length cap340) rfl rfl ?_; intro a756 hF757; clear hF755
         refine gp hF757 191 0 [] (((pnext u0).2.2) == 0) (.int .i64 (w64 ((w64 ((w64 (u0.At - 6)).tdiv 7)) + 1))) rfl rfl ?_; intro a758 hF759; clear hF757
         rcases Bool.eq_false_or_eq_true (((pnext u0).2.2) == 0) with hb760 | hb760
         · -- true
          have hp761 := hp745.1 hb760; clear hp745
          have hF762 := hF759.reval (d := 188) (c := []) (v := .bool (((pnext u0).2.2) == 0)) (by kernel_rfl) (.bool true) (by rw [hb760]); clear hF759
          have hF763 := hF762.setc (d := 189) (c := [0]) (v := .slice ao59 ((pnext u0).2.1).length cap60) (by kernel_rfl) (v' := .slice ao59 ((pnext u0).2.1).length cap60) (by rw [hb760]; kernel_rfl); clear hF762
          have hF764 := hF763.setc (d := 190) (c := [0]) (v := .slice ao339 (ppartsofS u0.Data).length cap340) (by kernel_rfl) (v' := .slice ao339 (ppartsofS u0.Data).length cap340) (by rw [hb760]; kernel_rfl); clear hF763
          have hF765 := hF764.setc (d := 191) (c := [0]) (v := .int .i64 (w64 ((w64 ((w64 (u0.At - 6)).tdiv 7)) + 1))) (by kernel_rfl) (v' := .int .i64 (w64 ((w64 ((w64 (u0.At - 6)).tdiv 7)) + 1))) (by rw [hb760]; kernel_rfl); clear hF764
          have hc766 := hp761.1; have hp767 := hp761.2; clear hp761
          refine ixo hF765 hM418 0 (T := (tySl (tyInt .u8))) (xs := (ppartsofS u0.Data)) (w64 ((w64 ((w64 (u0.At - 6)).tdiv 7)) + 1)) hc766 (k := .i64) (e := 36) (bytes := 24) (by rw [wanted_of hF765 (b := true) rfl rfl (by kernel_rfl) (by kernel_rfl)]; rfl) rfl (by kernel_rfl) rfl (by kernel_rfl) (by kernel_rfl) rfl (by kernel_rfl) ?_; intro g768 a770 hg769 hF771; clear hF765
          subst hg769
          have hF772 : Fr 201 [] [⟨2, [], .pointer (some ⟨b10, 0, none⟩)⟩, ⟨7, [], .pointer (some ⟨b74, 0, none⟩)⟩, ⟨8, [], .slice ao59 ((pnext u0).2.1).length cap60⟩, ⟨9, [], .int .i64 ((pnext u0).2.2)⟩, ⟨11, [], .pointer (some ⟨b191, 0, none⟩)⟩, ⟨12, [], .slice (some ⟨g768, 0, none⟩) (ppartsofS u0.Data).length cap340⟩, ⟨13, [], .int .i64 (w64 ((w64 ((w64 (u0.At - 6)).tdiv 7)) + 1))⟩, ⟨175, [], .pointer (some ⟨b10, 3, none⟩)⟩, ⟨176, [], .int .i64 u0.Left⟩, ⟨177, [], .bool (u0.Left == 1)⟩, ⟨179, [], .pointer (some ⟨b10, 3, none⟩)⟩, ⟨180, [], .int .i64 u0.Left⟩, ⟨181, [], .bool (decide (u0.Left > 1))⟩, ⟨186, [], .int .i64 ((pnext u0).2.2)⟩, ⟨187, [], .bool (((pnext u0).2.2) == 0)⟩, ⟨188, [], .bool true⟩, ⟨189, [], .slice ao59 ((pnext u0).2.1).length cap60⟩, ⟨190, [], .slice (some ⟨g768, 0, none⟩) (ppartsofS u0.Data).length cap340⟩, ⟨191, [], .int .i64 (w64 ((w64 ((w64 (u0.At - 6)).tdiv 7)) + 1))⟩, ⟨192, [], .pointer (some ⟨g768, (w64 ((w64 ((w64 (u0.At - 6)).tdiv 7)) + 1)).toNat * 1, none⟩)⟩] a770 := hF771.region (by kernel_rfl) (by kernel_rfl); clear hF771
          have hM773 : Mem w.heap.size [] w Z [.own (tySl (tyInt .u8)) 36 (some ⟨g768, 0, none⟩) cap340 (ppartsofS u0.Data), .row b191 [.slice ao1 u0.Data.length cap2, .int .i64 (min (w64 (u0.At + 7)) (u0.Data.length : Int)), .int .i64 ((w64 (u0.Next + 1)).tmod 16), .int .i64 u0.Left, .bool ((min (w64 (u0.At + 7)) (u0.Data.length : Int)) == (u0.Data.length : Int))] 53, .row b74 [.slice ao56 (((pnext u0).1).Data).length cap57, .int .i64 (((pnext u0).1).At), .int .i64 (((pnext u0).1).Next), .int .i64 (((pnext u0).1).Left), .bool (((pnext u0).1).Done)] 53, .own (tyInt .u8) 5 ao59 cap60 ((pnext u0).2.1), .row b39 [.slice ao26 (((ptold u0 u1).1).Data).length cap27, .int .i64 (((ptold u0 u1).1).At), .int .i64 (((ptold u0 u1).1).Next), .int .i64 (((ptold u0 u1).1).Left), .bool (((ptold u0 u1).1).Done)] 53, .row b10 [.slice ao1 u0.Data.length cap2, .int .i64 u0.At, .int .i64 u0.Next, .int .i64 u0.Left, .bool u0.Done] 53] Z341 wd416 := hM418; clear hM418
          obtain ⟨q774, hq775⟩ : ∃ q, (ppartsofS u0.Data)[(w64 ((w64 ((w64 (u0.At - 6)).tdiv 7)) + 1)).toNat]? = some q := ⟨_, List.getElem?_eq_getElem (by first | omega | (simp only [List.length_set] at *; omega))⟩; have hp776 := hp767 q774 hq775; clear hp767
          obtain ⟨cs777, hT778, hcl779⟩ := own_el hM773 0 (T := (tySl (tyInt .u8))) (xs := (ppartsofS u0.Data)) rfl (w64 ((w64 ((w64 (u0.At - 6)).tdiv 7)) + 1)).toNat hq775
          obtain ⟨ao780, cap781, rfl, hs782⟩ := hT778
          have hp783 := hp776 (hs782.small); clear hp776
          refine lc1 hF772 193 (.slice ao780 q774.length cap781) (hcl779 0 _ rfl) rfl ?_ (hw := (by rw [wanted_of hF772 (b := true) rfl rfl (by kernel_rfl) (by kernel_rfl)]; rfl)); intro a784 hF785; clear hF772
          obtain ⟨Z786, hle787, hM788, hs789⟩ := hM773.freeze 3 rfl
          replace hs3 := hs3.mono hle787
          replace hs6 := hs6.mono hle787
          replace hs28 := hs28.mono hle787
          replace hs58 := hs58.mono hle787
          replace hsyb191_0 := hsyb191_0.mono hle787
          replace hs782 := hs782.mono hle787
          replace hle0 := Fz.le.trans hle0 hle787
          have hM790 : Mem w.heap.size [] w Z [.own (tySl (tyInt .u8)) 36 (some ⟨g768, 0, none⟩) cap340 (ppartsofS u0.Data), .row b191 [.slice ao1 u0.Data.length cap2, .int .i64 (min (w64 (u0.At + 7)) (u0.Data.length : Int)), .int .i64 ((w64 (u0.Next + 1)).tmod 16), .int .i64 u0.Left, .bool ((min (w64 (u0.At + 7)) (u0.Data.length : Int)) == (u0.Data.length : Int))] 53, .row b74 [.slice ao56 (((pnext u0).1).Data).length cap57, .int .i64 (((pnext u0).1).At), .int .i64 (((pnext u0).1).Next), .int .i64 (((pnext u0).1).Left), .bool (((pnext u0).1).Done)] 53, .row b39 [.slice ao26 (((ptold u0 u1).1).Data).length cap27, .int .i64 (((ptold u0 u1).1).At), .int .i64 (((ptold u0 u1).1).Next), .int .i64 (((ptold u0 u1).1).Left), .bool (((ptold u0 u1).1).Done)] 53, .row b10 [.slice ao1 u0.Data.length cap2, .int .i64 u0.At, .int .i64 u0.Next, .int .i64 u0.Left, .bool u0.Done] 53] Z786 wd416 := hM788; clear hM788
          refine fcl hF785 hM790 (.bool (beqS ((pnext u0).2.1) q774)) 37 #[.slice ao59 ((pnext u0).2.1).length cap60, .slice ao780 q774.length cap781] (by rw [wanted_of hF785 (b := true) rfl rfl (by kernel_rfl) (by kernel_rfl)]; rfl) rfl (by kernel_rfl) (fun _ => by kernel_rfl) (beq_fun ((pnext u0).2.1) q774 ao59 cap60 ao780 cap781 _ _ hs789 hs782 hM790.fz) ?_; intro a791 wd793 hF792 hM794; clear hF785 hM790
          refine s1 hF792 195 (.bool (beqS ((pnext u0).2.1) q774)) ?_; intro a795 hF796; clear hF792
          refine s1 hF796 196 (.bool (beqS ((pnext u0).2.1) q774)) ?_; intro a797 hF798; clear hF796
          have hF799 := hF798.atom ((beqS ((pnext u0).2.1) q774) == true) (by kernel_rfl); clear hF798
          refine gd hF799 (.agg #[.slice ao56 (((pnext u0).1).Data).length cap57, .int .i64 (((pnext u0).1).At), .int .i64 (((pnext u0).1).Next), .int .i64 (((pnext u0).1).Left), .bool (((pnext u0).1).Done)]) (m := 0) (cj := []) (bj := (beqS ((pnext u0).2.1) q774)) rfl rfl (by kernel_rfl) rfl (by kernel_rfl) (by kernel_rfl) (by kernel_rfl) (fun hg => lda hF799 hM794 2 (g := [0]) (b := b74) (off := 0) (k := 5) (cs := [.slice ao56 (((pnext u0).1).Data).length cap57, .int .i64 (((pnext u0).1).At), .int .i64 (((pnext u0).1).Next), .int .i64 (((pnext u0).1).Left), .bool (((pnext u0).1).Done)]) (vs := [.slice ao56 (((pnext u0).1).Data).length cap57, .int .i64 (((pnext u0).1).At), .int .i64 (((pnext u0).1).Next), .int .i64 (((pnext u0).1).Left), .bool (((pnext u0).1).Done)]) (ty := 53) rfl (by kernel_rfl) (by kernel_rfl) (by kernel_rfl) (by kernel_rfl) (by kernel_rfl) hg) ?_; intro a800 hF801; clear hF799
          refine gd hF801 (.agg #[.slice ao1 u0.Data.length cap2, .int .i64 (min (w64 (u0.At + 7)) (u0.Data.length : Int)), .int .i64 ((w64 (u0.Next + 1)).tmod 16), .int .i64 u0.Left, .bool ((min (w64 (u0.At + 7)) (u0.Data.length : Int)) == (u0.Data.length : Int))]) (m := 0) (cj := []) (bj := (beqS ((pnext u0).2.1) q774)) rfl rfl (by kernel_rfl) rfl (by kernel_rfl) (by kernel_rfl) (by kernel_rfl) (fun hg => lda hF801 hM794 1 (g := [0]) (b := b191) (off := 0) (k := 5) (cs := [.slice ao1 u0.Data.length cap2, .int .i64 (min (w64 (u0.At + 7)) (u0.Data.length : Int)), .int .i64 ((w64 (u0.Next + 1)).tmod 16), .int .i64 u0.Left, .bool ((min (w64 (u0.At + 7)) (u0.Data.length : Int)) == (u0.Data.length : Int))]) (vs := [.slice ao1 u0.Data.length cap2, .int .i64 (min (w64 (u0.At + 7)) (u0.Data.length : Int)), .int .i64 ((w64 (u0.Next + 1)).tmod 16), .int .i64 u0.Left, .bool ((min (w64 (u0.At + 7)) (u0.Data.length : Int)) == (u0.Data.length : Int))]) (ty := 53) rfl (by kernel_rfl) (by kernel_rfl) (by kernel_rfl) (by kernel_rfl) (by kernel_rfl) hg) ?_; intro a802 hF803; clear hF801
          refine gcl hF803 hM794 (.bool (psames ((pnext u0).1) (⟨u0.Data, min (w64 (u0.At + 7)) (u0.Data.length : Int), (w64 (u0.Next + 1)).tmod 16, u0.Left, (min (w64 (u0.At + 7)) (u0.Data.length : Int)) == (u0.Data.length : Int)⟩ : Sender))) 35 #[.agg #[.slice ao56 (((pnext u0).1).Data).length cap57, .int .i64 (((pnext u0).1).At), .int .i64 (((pnext u0).1).Next), .int .i64 (((pnext u0).1).Left), .bool (((pnext u0).1).Done)], .agg #[.slice ao1 u0.Data.length cap2, .int .i64 (min (w64 (u0.At + 7)) (u0.Data.length : Int)), .int .i64 ((w64 (u0.Next + 1)).tmod 16), .int .i64 u0.Left, .bool ((min (w64 (u0.At + 7)) (u0.Data.length : Int)) == (u0.Data.length : Int))]] (m := 0) (cj := []) (bj := (beqS ((pnext u0).2.1) q774)) rfl rfl (by kernel_rfl) rfl (by kernel_rfl) (by kernel_rfl) (by kernel_rfl) (fun _ => by kernel_rfl) (fun hg => psames_fun ((pnext u0).1) (⟨u0.Data, min (w64 (u0.At + 7)) (u0.Data.length : Int), (w64 (u0.Next + 1)).tmod 16, u0.Left, (min (w64 (u0.At + 7)) (u0.Data.length : Int)) == (u0.Data.length : Int)⟩ : Sender) ao56 cap57 ao1 cap2 _ _ hs58 hs3 hM794.fz) ?_; intro a804 wd806 hF805 hM807; clear hF803 hM794
          refine st hF805 (.bool ((beqS ((pnext u0).2.1) q774) && (psames ((pnext u0).1) (⟨u0.Data, min (w64 (u0.At + 7)) (u0.Data.length : Int), (w64 (u0.Next + 1)).tmod 16, u0.Left, (min (w64 (u0.At + 7)) (u0.Data.length : Int)) == (u0.Data.length : Int)⟩ : Sender)))) (nog rfl _) rfl (by kernel_rfl) (pk_and hF805 (g := []) (m := 0) (b := (beqS ((pnext u0).2.1) q774)) (v := (psames ((pnext u0).1) (⟨u0.Data, min (w64 (u0.At + 7)) (u0.Data.length : Int), (w64 (u0.Next + 1)).tmod 16, u0.Left, (min (w64 (u0.At + 7)) (u0.Data.length : Int)) == (u0.Data.length : Int)⟩ : Sender))) rfl (by kernel_rfl) (by kernel_rfl) (by kernel_rfl) rfl) ?_; intro a808 hF809; clear hF805
          refine s1 hF809 4 (.bool ((beqS ((pnext u0).2.1) q774) && (psames ((pnext u0).1) (⟨u0.Data, min (w64 (u0.At + 7)) (u0.Data.length : Int), (w64 (u0.Next + 1)).tmod 16, u0.Left, (min (w64 (u0.At + 7)) (u0.Data.length : Int)) == (u0.Data.length : Int)⟩ : Sender)))) ?_; intro a810 hF811; clear hF809
          refine nlH (hQ746 _ _ ?_); clear hQ746 hQ746Q
          refine wp_ret ?_
          refine rt (fn := Try.f9) (v := .bool ((beqS ((pnext u0).2.1) q774) && (psames ((pnext u0).1) (⟨u0.Data, min (w64 (u0.At + 7)) (u0.Data.length : Int), (w64 (u0.Next + 1)).tmod 16, u0.Left, (min (w64 (u0.At + 7)) (u0.Data.length : Int)) == (u0.Data.length : Int)⟩ : Sender)))) hF811 (re1 hF811 (fn := Try.f9) rfl (by kernel_rfl)) ?_
          exact ⟨(beqS ((pnext u0).2.1) q774) && (psames ((pnext u0).1) (⟨u0.Data, min (w64 (u0.At + 7)) (u0.Data.length : Int), (w64 (u0.Next + 1)).tmod 16, u0.Left, (min (w64 (u0.At + 7)) (u0.Data.length : Int)) == (u0.Data.length : Int)⟩ : Sender)), rfl, hp783, hM807.below⟩
         · -- false
          have hp812 := hp745.2 hb760; clear hp745
          have hF813 := hF759.reval (d := 188) (c := []) (v := .bool (((pnext u0).2.2) == 0)) (by kernel_rfl) (.bool false) (by rw [hb760]); clear hF759
          have hF814 := hF813.setc (d := 189) (c := [0]) (v := .slice ao59 ((pnext u0).2.1).length cap60) (by kernel_rfl) (v' := undef) (by rw [hb760]; kernel_rfl); clear hF813
          have hF815 := hF814.setc (d := 190) (c := [0]) (v := .slice ao339 (ppartsofS u0.Data).length cap340) (by kernel_rfl) (v' := undef) (by rw [hb760]; kernel_rfl); clear hF814
          have hF816 := hF815.setc (d := 191) (c := [0]) (v := .int .i64 (w64 ((w64 ((w64 (u0.At - 6)).tdiv 7)) + 1))) (by kernel_rfl) (v' := undef) (by rw [hb760]; kernel_rfl); clear hF815
          refine sk hF816 (b := false) rfl rfl (by kernel_rfl) (by kernel_rfl) rfl rfl (by kernel_rfl) ?_; intro a817 hF818; clear hF816
          refine sk hF818 (b := false) rfl rfl (by kernel_rfl) (by kernel_rfl) rfl rfl (by kernel_rfl) ?_; intro a819 hF820; clear hF818
          refine sk hF820 (b := false) rfl rfl (by kernel_rfl) (by kernel_rfl) rfl rfl (by kernel_rfl) ?_; intro a821 hF822; clear hF820
          refine s1 hF822 195 (.bool false) ?_; intro a823 hF824; clear hF822
          refine s1 hF824 196 (.bool false) ?_; intro a825 hF826; clear hF824
          refine sk hF826 (b := false) rfl rfl (by kernel_rfl) (by kernel_rfl) rfl rfl (by kernel_rfl) ?_; intro a827 hF828; clear hF826
          refine sk hF828 (b := false) rfl rfl (by kernel_rfl) (by kernel_rfl) rfl rfl (by kernel_rfl) ?_; intro a829 hF830; clear hF828
          refine sk hF830 (b := false) rfl rfl (by kernel_rfl) (by kernel_rfl) rfl rfl (by kernel_rfl) ?_; intro a831 hF832; clear hF830
          refine s1 hF832 200 (.bool false) ?_; intro a833 hF834; clear hF832
          refine s1 hF834 4 (.bool false) ?_; intro a835 hF836; clear hF834
          refine nlH (hQ746 _ _ ?_); clear hQ746 hQ746Q
          refine wp_ret ?_
          refine rt (fn := Try.f9) (v := .bool false) hF836 (re1 hF836 (fn := Try.f9) rfl (by kernel_rfl)) ?_
          exact ⟨false, rfl, hp812, hM418.below⟩
   refine wp_block ?_
   refine sqH ?_; intro hQ837Q hQ837
   refine s1 hF201 63 (.slice ao4 u1.length cap5) ?_; intro a838 hF839; clear hF201
   refine s1 hF839 64 (.int .i64 (u1.length : Int)) ?_; intro a840 hF841; clear hF839
   refine s1 hF841 65 (.bool ((u1.length : Int) != 3)) ?_; intro a842 hF843; clear hF841
   refine s1 hF843 66 (.bool ((u1.length : Int) != 3)) ?_; intro a844 hF845; clear hF843
   have hF846 := hF845.atom (((u1.length : Int) != 3) == false) (by kernel_rfl); clear hF845
   refine gp hF846 67 0 [] ((u1.length : Int) != 3) (.slice ao4 u1.length cap5) rfl rfl ?_; intro a847 hF848; clear hF846
   rcases Bool.eq_false_or_eq_true ((u1.length : Int) != 3) with hb849 | hb849
   · -- true
    have hp850 := hp202.1 hb849; clear hp202
    have hF851 := hF848.reval (d := 66) (c := []) (v := .bool ((u1.length : Int) != 3)) (by kernel_rfl) (.bool true) (by rw [hb849]); clear hF848
    have hF852 := hF851.setc (d := 67) (c := [0]) (v := .slice ao4 u1.length cap5) (by kernel_rfl) (v' := undef) (by rw [hb849]; kernel_rfl); clear hF851
    refine sk hF852 (b := true) rfl rfl (by kernel_rfl) (by kernel_rfl) rfl rfl (by kernel_rfl) ?_; intro a853 hF854; clear hF852
    refine sk hF854 (b := true) rfl rfl (by kernel_rfl) (by kernel_rfl) rfl rfl (by kernel_rfl) ?_; intro a855 hF856; clear hF854
    refine sk hF856 (b := true) rfl rfl (by kernel_rfl) (by kernel_rfl) rfl rfl (by kernel_rfl) ?_; intro a857 hF858; clear hF856
    refine s1 hF858 71 (.bool true) ?_; intro a859 hF860; clear hF858
    refine s1 hF860 72 (.bool true) ?_; intro a861 hF862; clear hF860
    refine sk hF862 (b := true) rfl rfl (by kernel_rfl) (by kernel_rfl) rfl rfl (by kernel_rfl) ?_; intro a863 hF864; clear hF862
    refine sk hF864 (b := true) rfl rfl (by kernel_rfl) (by kernel_rfl) rfl rfl (by kernel_rfl) ?_; intro a865 hF866; clear hF864
    refine sk hF866 (b := true) rfl rfl (by kernel_rfl) (by kernel_rfl) rfl rfl (by kernel_rfl) ?_; intro a867 hF868; clear hF866
    refine sk hF868 (b := true) rfl rfl (by kernel_rfl) (by kernel_rfl) rfl rfl (by kernel_rfl) ?_; intro a869 hF870; clear hF868
    refine s1 hF870 77 (.bool true) ?_; intro a871 hF872; clear hF870
    refine s1 hF872 62 (.bool true) ?_; intro a873 hF874; clear hF872
    refine nlH (hQ837 _ _ ?_); clear hQ837 hQ837Q
    refine cdT hF874 (by kernel_rfl) ?_
    have hF875 : Fr 201 [] [⟨2, [], .pointer (some ⟨b10, 0, none⟩)⟩, ⟨5, [], .pointer (some ⟨b39, 0, none⟩)⟩, ⟨6, [], .int .i64 ((ptold u0 u1).2)⟩, ⟨7, [], .pointer (some ⟨b74, 0, none⟩)⟩, ⟨8, [], .slice ao59 ((pnext u0).2.1).length cap60⟩, ⟨9, [], .int .i64 ((pnext u0).2.2)⟩, ⟨11, [], .pointer (some ⟨b191, 0, none⟩)⟩] a873 := hF874.region (by kernel_rfl) (by kernel_rfl); clear hF874
    refine rgH ?_; intro hQ876Q hQ876
    refine s1 hF875 10 (.int .i64 4) ?_; intro a877 hF878; clear hF875
    refine nlH (hQ876 _ _ ?_); clear hQ876 hQ876Q
    refine ibn ?_
    refine rd ?_
    exact hJ206 4 u0 ao1 cap2 ⟨hp850, hs3⟩ _ _ ((hF878.region (by kernel_rfl) (by kernel_rfl)).anyβ _ (by kernel_rfl)) (hM198.keep (List.Sublist.cons_cons _ (List.Sublist.cons_cons _ (List.Sublist.cons_cons _ (List.Sublist.cons_cons _ (List.Sublist.cons_cons _ (List.Sublist.slnil)))))))
   · -- false
    have hp879 := hp202.2 hb849; clear hp202
    have hF880 := hF848.reval (d := 66) (c := []) (v := .bool ((u1.length : Int) != 3)) (by kernel_rfl) (.bool false) (by rw [hb849]); clear hF848
    have hF881 := hF880.setc (d := 67) (c := [0]) (v := .slice ao4 u1.length cap5) (by kernel_rfl) (v' := .slice ao4 u1.length cap5) (by rw [hb849]; kernel_rfl); clear hF880
    have hc882 := hp879.1; have hp883 := hp879.2; clear hp879
    refine ix hF881 (T := (tyInt .u8)) (xs := u1) hs6 (0 : Int) hc882 (k := .i64) (e := 5) (bytes := 1) (by rw [wanted_of hF881 (b := false) rfl rfl (by kernel_rfl) (by kernel_rfl)]; rfl) rfl (by kernel_rfl) rfl (by kernel_rfl) (by kernel_rfl) (by kernel_rfl) ?_; intro b884 off885 cs886 q887 a891 hq888 hP889 hT890 hF892; clear hF881
    have hp893 := hp883 q887 hq888; clear hp883
    obtain rfl : cs886 = ([.int .u8 q887] : List Value) := hT890
    refine st hF892 (.int .u8 q887) (by rw [wanted_of hF892 (b := false) rfl rfl (by kernel_rfl) (by kernel_rfl)]; rfl) rfl (by kernel_rfl) (lz hF892 hM198.fz hP889 0 (g := []) rfl (by kernel_rfl) (by kernel_rfl) (by kernel_rfl) rfl) ?_; intro a894 hF895; clear hF892
    refine st hF895 (.bool (decide (q887 < 48))) (by rw [wanted_of hF895 (b := false) rfl rfl (by kernel_rfl) (by kernel_rfl)]; rfl) rfl (by kernel_rfl) (p0 hF895 (by kernel_rfl)) ?_; intro a896 hF897; clear hF895
    refine s1 hF897 71 (.bool (decide (q887 < 48))) ?_; intro a898 hF899; clear hF897
    refine s1 hF899 72 (.bool (decide (q887 < 48))) ?_; intro a900 hF901; clear hF899
    have hF902 := hF901.atom ((decide (q887 < 48)) == false) (by kernel_rfl); clear hF901
    refine gp hF902 73 1 [] (decide (q887 < 48)) (.slice ao4 u1.length cap5) rfl rfl ?_; intro a903 hF904; clear hF902
    rcases Bool.eq_false_or_eq_true (decide (q887 < 48)) with hb905 | hb905
    · -- true
     have hp906 := hp893.1 hb905; clear hp893
     have hF907 := hF904.reval (d := 72) (c := []) (v := .bool (decide (q887 < 48))) (by kernel_rfl) (.bool true) (by rw [hb905]); clear hF904
     have hF908 := hF907.setc (d := 73) (c := [1]) (v := .slice ao4 u1.length cap5) (by kernel_rfl) (v' := undef) (by rw [hb905]; kernel_rfl); clear hF907
     refine sk hF908 (b := true) rfl rfl (by kernel_rfl) (by kernel_rfl) rfl rfl (by kernel_rfl) ?_; intro a909 hF910; clear hF908
     refine sk hF910 (b := true) rfl rfl (by kernel_rfl) (by kernel_rfl) rfl rfl (by kernel_rfl) ?_; intro a911 hF912; clear hF910
     refine sk hF912 (b := true) rfl rfl (by kernel_rfl) (by kernel_rfl) rfl rfl (by kernel_rfl) ?_; intro a913 hF914; clear hF912
     refine s1 hF914 77 (.bool true) ?_; intro a915 hF916; clear hF914
     refine s1 hF916 62 (.bool true) ?_; intro a917 hF918; clear hF916
     refine nlH (hQ837 _ _ ?_); clear hQ837 hQ837Q
     refine cdT hF918 (by kernel_rfl) ?_
     have hF919 : Fr 201 [] [⟨2, [], .pointer (some ⟨b10, 0, none⟩)⟩, ⟨5, [], .pointer (some ⟨b39, 0, none⟩)⟩, ⟨6, [], .int .i64 ((ptold u0 u1).2)⟩, ⟨7, [], .pointer (some ⟨b74, 0, none⟩)⟩, ⟨8, [], .slice ao59 ((pnext u0).2.1).length cap60⟩, ⟨9, [], .int .i64 ((pnext u0).2.2)⟩, ⟨11, [], .pointer (some ⟨b191, 0, none⟩)⟩] a917 := hF918.region (by kernel_rfl) (by kernel_rfl); clear hF918
     refine rgH ?_; intro hQ920Q hQ920
     refine s1 hF919 10 (.int .i64 4) ?_; intro a921 hF922; clear hF919
     refine nlH (hQ920 _ _ ?_); clear hQ920 hQ920Q
     refine ibn ?_
     refine rd ?_
     exact hJ206 4 u0 ao1 cap2 ⟨hp906, hs3⟩ _ _ ((hF922.region (by kernel_rfl) (by kernel_rfl)).anyβ _ (by kernel_rfl)) (hM198.keep (List.Sublist.cons_cons _ (List.Sublist.cons_cons _ (List.Sublist.cons_cons _ (List.Sublist.cons_cons _ (List.Sublist.cons_cons _ (List.Sublist.slnil)))))))
    · -- false
     have hp923 := hp893.2 hb905; clear hp893
     have hF924 := hF904.reval (d := 72) (c := []) (v := .bool (decide (q887 < 48))) (by kernel_rfl) (.bool false) (by rw [hb905]); clear hF904
     have hF925 := hF924.setc (d := 73) (c := [1]) (v := .slice ao4 u1.length cap5) (by kernel_rfl) (v' := .slice ao4 u1.length cap5) (by rw [hb905]; kernel_rfl); clear hF924
     have hc926 := hp923.1; have hp927 := hp923.2; clear hp923
     refine ix hF925 (T := (tyInt .u8)) (xs := u1) hs6 (0 : Int) hc926 (k := .i64) (e := 5) (bytes := 1) (by rw [wanted_of hF925 (b := false) rfl rfl (by kernel_rfl) (by kernel_rfl)]; rfl) rfl (by kernel_rfl) rfl (by kernel_rfl) (by kernel_rfl) (by kernel_rfl) ?_; intro b928 off929 cs930 q931 a935 hq932 hP933 hT934 hF936; clear hF925
     have hp937 := hp927 q931 hq932; clear hp927
     obtain rfl : cs930 = ([.int .u8 q931] : List Value) := hT934
     refine st hF936 (.int .u8 q931) (by rw [wanted_of hF936 (b := false) rfl rfl (by kernel_rfl) (by kernel_rfl)]; rfl) rfl (by kernel_rfl) (lz hF936 hM198.fz hP933 0 (g := []) rfl (by kernel_rfl) (by kernel_rfl) (by kernel_rfl) rfl) ?_; intro a938 hF939; clear hF936
     refine st hF939 (.bool (decide (q931 > 50))) (by rw [wanted_of hF939 (b := false) rfl rfl (by kernel_rfl) (by kernel_rfl)]; rfl) rfl (by kernel_rfl) (p0 hF939 (by kernel_rfl)) ?_; intro a940 hF941; clear hF939
     refine s1 hF941 77 (.bool (decide (q931 > 50))) ?_; intro a942 hF943; clear hF941
     refine s1 hF943 62 (.bool (decide (q931 > 50))) ?_; intro a944 hF945; clear hF943
     refine nlH (hQ837 _ _ ?_); clear hQ837 hQ837Q
     refine cd hF945 (t := decide (q931 > 50)) (by kernel_rfl) (fun hb946 => ?_) (fun hb946 => ?_)
     · -- yes
      have hp947 := hp937.1 hb946; clear hp937
      have hF948 : Fr 201 [] [⟨2, [], .pointer (some ⟨b10, 0, none⟩)⟩, ⟨5, [], .pointer (some ⟨b39, 0, none⟩)⟩, ⟨6, [], .int .i64 ((ptold u0 u1).2)⟩, ⟨7, [], .pointer (some ⟨b74, 0, none⟩)⟩, ⟨8, [], .slice ao59 ((pnext u0).2.1).length cap60⟩, ⟨9, [], .int .i64 ((pnext u0).2.2)⟩, ⟨11, [], .pointer (some ⟨b191, 0, none⟩)⟩] a944 := hF945.region (by kernel_rfl) (by kernel_rfl); clear hF945
      refine rgH ?_; intro hQ949Q hQ949
      refine s1 hF948 10 (.int .i64 4) ?_; intro a950 hF951; clear hF948
      refine nlH (hQ949 _ _ ?_); clear hQ949 hQ949Q
      refine ibn ?_
      refine rd ?_
      exact hJ206 4 u0 ao1 cap2 ⟨hp947, hs3⟩ _ _ ((hF951.region (by kernel_rfl) (by kernel_rfl)).anyβ _ (by kernel_rfl)) (hM198.keep (List.Sublist.cons_cons _ (List.Sublist.cons_cons _ (List.Sublist.cons_cons _ (List.Sublist.cons_cons _ (List.Sublist.cons_cons _ (List.Sublist.slnil)))))))
     · -- no
      have hp952 := hp937.2 hb946; clear hp937
      have hF953 : Fr 201 [] [⟨1, [], .slice ao4 u1.length cap5⟩, ⟨2, [], .pointer (some ⟨b10, 0, none⟩)⟩, ⟨5, [], .pointer (some ⟨b39, 0, none⟩)⟩, ⟨6, [], .int .i64 ((ptold u0 u1).2)⟩, ⟨7, [], .pointer (some ⟨b74, 0, none⟩)⟩, ⟨8, [], .slice ao59 ((pnext u0).2.1).length cap60⟩, ⟨9, [], .int .i64 ((pnext u0).2.2)⟩, ⟨10, [], .int .i64 (pchecks u0)⟩, ⟨11, [], .pointer (some ⟨b191, 0, none⟩)⟩] a944 := hF945.region (by kernel_rfl) (by kernel_rfl); clear hF945
      refine sqH ?_; intro hQ954Q hQ954
      refine s1 hF953 79 (.pointer (some ⟨b10, 4, none⟩)) ?_; intro a955 hF956; clear hF953
      refine l1 hF956 hM198 80 4 4 (.bool u0.Done) rfl rfl ?_; intro a957 hF958; clear hF956
      refine s1 hF958 81 (.bool u0.Done) ?_; intro a959 hF960; clear hF958
      have hF961 := hF960.atom (u0.Done == false) (by kernel_rfl); clear hF960
      refine gp hF961 82 0 [] (u0.Done) (.pointer (some ⟨b10, 3, none⟩)) rfl rfl ?_; intro a962 hF963; clear hF961
      refine gd hF963 (.int .i64 u0.Left) (m := 0) (cj := []) (bj := u0.Done) rfl rfl (by kernel_rfl) rfl (by kernel_rfl) (by kernel_rfl) (by kernel_rfl) (fun hg => ld hF963 hM198 4 (g := [0]) (b := b10) (off := 3) (cs := [.slice ao1 u0.Data.length cap2, .int .i64 u0.At, .int .i64 u0.Next, .int .i64 u0.Left, .bool u0.Done]) (ty := 53) rfl (by kernel_rfl) (by kernel_rfl) (by kernel_rfl) (by kernel_rfl) hg) ?_; intro a964 hF965; clear hF963
      refine gp hF965 84 0 [] (u0.Done) (.bool (u0.Left != (-1))) rfl rfl ?_; intro a966 hF967; clear hF965
      refine st hF967 (.bool (u0.Done || (u0.Left != (-1)))) (nog rfl _) rfl (by kernel_rfl) (pk_or hF967 (g := []) (m := 0) (b := u0.Done) (v := u0.Left != (-1)) rfl (by kernel_rfl) (by kernel_rfl) (by kernel_rfl) rfl) ?_; intro a968 hF969; clear hF967
      refine s1 hF969 78 (.bool (u0.Done || (u0.Left != (-1)))) ?_; intro a970 hF971; clear hF969
      refine nlH (hQ954 _ _ ?_); clear hQ954 hQ954Q
      refine cd hF971 (t := u0.Done || (u0.Left != (-1))) (by kernel_rfl) (fun hb972 => ?_) (fun hb972 => ?_)
      · -- yes
       have hp973 := hp952.1 hb972; clear hp952
       have hF974 : Fr 201 [] [⟨2, [], .pointer (some ⟨b10, 0, none⟩)⟩, ⟨5, [], .pointer (some ⟨b39, 0, none⟩)⟩, ⟨6, [], .int .i64 ((ptold u0 u1).2)⟩, ⟨7, [], .pointer (some ⟨b74, 0, none⟩)⟩, ⟨8, [], .slice ao59 ((pnext u0).2.1).length cap60⟩, ⟨9, [], .int .i64 ((pnext u0).2.2)⟩, ⟨11, [], .pointer (some ⟨b191, 0, none⟩)⟩] a970 := hF971.region (by kernel_rfl) (by kernel_rfl); clear hF971
       refine rgH ?_; intro hQ975Q hQ975
       refine s1 hF974 10 (.int .i64 12) ?_; intro a976 hF977; clear hF974
       refine nlH (hQ975 _ _ ?_); clear hQ975 hQ975Q
       refine ibn ?_
       refine rd ?_
       exact hJ206 12 u0 ao1 cap2 ⟨hp973, hs3⟩ _ _ ((hF977.region (by kernel_rfl) (by kernel_rfl)).anyβ _ (by kernel_rfl)) (hM198.keep (List.Sublist.cons_cons _ (List.Sublist.cons_cons _ (List.Sublist.cons_cons _ (List.Sublist.cons_cons _ (List.Sublist.cons_cons _ (List.Sublist.slnil)))))))
      · -- no
       have hp978 := hp952.2 hb972; clear hp952
       have hF979 : Fr 201 [] [⟨1, [], .slice ao4 u1.length cap5⟩, ⟨2, [], .pointer (some ⟨b10, 0, none⟩)⟩, ⟨5, [], .pointer (some ⟨b39, 0, none⟩)⟩, ⟨6, [], .int .i64 ((ptold u0 u1).2)⟩, ⟨7, [], .pointer (some ⟨b74, 0, none⟩)⟩, ⟨8, [], .slice ao59 ((pnext u0).2.1).length cap60⟩, ⟨9, [], .int .i64 ((pnext u0).2.2)⟩, ⟨10, [], .int .i64 (pchecks u0)⟩, ⟨11, [], .pointer (some ⟨b191, 0, none⟩)⟩] a970 := hF971.region (by kernel_rfl) (by kernel_rfl); clear hF971
       refine sqH ?_; intro hQ980Q hQ980
       refine s1 hF979 87 (.slice ao4 u1.length cap5) ?_; intro a981 hF982; clear hF979
       have hc983 := hp978.1; have hp984 := hp978.2; clear hp978
       refine ix hF982 (T := (tyInt .u8)) (xs := u1) hs6 (0 : Int) hc983 (k := .i64) (e := 5) (bytes := 1) (nog rfl _) rfl (by kernel_rfl) rfl (by kernel_rfl) (by kernel_rfl) (by kernel_rfl) ?_; intro b985 off986 cs987 q988 a992 hq989 hP990 hT991 hF993; clear hF982
       have hp994 := hp984 q988 hq989; clear hp984
       obtain rfl : cs987 = ([.int .u8 q988] : List Value) := hT991
       refine z1 hF993 hM198 89 hP990 0 (.int .u8 q988) rfl ?_; intro a995 hF996; clear hF993
       refine s1 hF996 90 (.bool (q988 == 50)) ?_; intro a997 hF998; clear hF996
       refine s1 hF998 86 (.bool (q988 == 50)) ?_; intro a999 hF1000; clear hF998
       refine nlH (hQ980 _ _ ?_); clear hQ980 hQ980Q
       refine cd hF1000 (t := q988 == 50) (by kernel_rfl) (fun hb1001 => ?_) (fun hb1001 => ?_)
       · -- yes
        have hp1002 := hp994.1 hb1001; clear hp994
        refine rgH ?_; intro hQ1003Q hQ1003
        refine s1 hF1000 10 (.int .i64 11) ?_; intro a1004 hF1005; clear hF1000
        refine nlH (hQ1003 _ _ ?_); clear hQ1003 hQ1003Q
        refine ibn ?_
        refine rd ?_
        exact hJ206 11 u0 ao1 cap2 ⟨hp1002, hs3⟩ _ _ ((hF1005.region (by kernel_rfl) (by kernel_rfl)).anyβ _ (by kernel_rfl)) (hM198.keep (List.Sublist.cons_cons _ (List.Sublist.cons_cons _ (List.Sublist.cons_cons _ (List.Sublist.cons_cons _ (List.Sublist.cons_cons _ (List.Sublist.slnil)))))))
       · -- no
        have hp1006 := hp994.2 hb1001; clear hp994
        refine sqH ?_; intro hQ1007Q hQ1007
        refine s1 hF1000 92 (.slice ao4 u1.length cap5) ?_; intro a1008 hF1009; clear hF1000
        have hc1010 := hp1006.1; have hp1011 := hp1006.2; clear hp1006
        refine ix hF1009 (T := (tyInt .u8)) (xs := u1) hs6 (0 : Int) hc1010 (k := .i64) (e := 5) (bytes := 1) (nog rfl _) rfl (by kernel_rfl) rfl (by kernel_rfl) (by kernel_rfl) (by kernel_rfl) ?_; intro b1012 off1013 cs1014 q1015 a1019 hq1016 hP1017 hT1018 hF1020; clear hF1009
        have hp1021 := hp1011 q1015 hq1016; clear hp1011
        obtain rfl : cs1014 = ([.int .u8 q1015] : List Value) := hT1018
        refine z1 hF1020 hM198 94 hP1017 0 (.int .u8 q1015) rfl ?_; intro a1022 hF1023; clear hF1020
        refine s1 hF1023 95 (.bool (q1015 == 48)) ?_; intro a1024 hF1025; clear hF1023
        refine s1 hF1025 91 (.bool (q1015 == 48)) ?_; intro a1026 hF1027; clear hF1025
        refine nlH (hQ1007 _ _ ?_); clear hQ1007 hQ1007Q
        refine cd hF1027 (t := q1015 == 48) (by kernel_rfl) (fun hb1028 => ?_) (fun hb1028 => ?_)
        · -- yes
         have hp1029 := hp1021.1 hb1028; clear hp1021
         refine rgH ?_; intro hQ1030Q hQ1030
         refine s1 hF1027 96 (.slice ao4 u1.length cap5) ?_; intro a1031 hF1032; clear hF1027
         have hc1033 := hp1029.1; have hp1034 := hp1029.2; clear hp1029
         refine ix hF1032 (T := (tyInt .u8)) (xs := u1) hs6 (1 : Int) hc1033 (k := .i64) (e := 5) (bytes := 1) (nog rfl _) rfl (by kernel_rfl) rfl (by kernel_rfl) (by kernel_rfl) (by kernel_rfl) ?_; intro b1035 off1036 cs1037 q1038 a1042 hq1039 hP1040 hT1041 hF1043; clear hF1032
         have hp1044 := hp1034 q1038 hq1039; clear hp1034
         obtain rfl : cs1037 = ([.int .u8 q1038] : List Value) := hT1041
         refine z1 hF1043 hM198 98 hP1040 0 (.int .u8 q1038) rfl ?_; intro a1045 hF1046; clear hF1043
         refine s1 hF1046 99 (.int .i64 (w64 q1038)) ?_; intro a1047 hF1048; clear hF1046
         refine s1 hF1048 100 (.pointer (some ⟨b191, 3, none⟩)) ?_; intro a1049 hF1050; clear hF1048
         refine sr hF1050 hM198 0 [.slice ao1 u0.Data.length cap2, .int .i64 u0.At, .int .i64 u0.Next, .int .i64 (w64 q1038), .bool u0.Done] (b := b191) (off := 3) (cs := [.slice ao1 u0.Data.length cap2, .int .i64 u0.At, .int .i64 u0.Next, .int .i64 u0.Left, .bool u0.Done]) (ty := 53) (u := .int .i64 (w64 q1038)) (nog rfl _) rfl rfl (by kernel_rfl) (by kernel_rfl) (by kernel_rfl) (by kernel_rfl) (by kernel_rfl) (by kernel_rfl) (by kernel_rfl) ?_; intro wd1051 hM1052; clear hM198
         have hM1053 : Mem w.heap.size [] w Z [.row b191 [.slice ao1 u0.Data.length cap2, .int .i64 u0.At, .int .i64 u0.Next, .int .i64 (w64 q1038), .bool u0.Done] 53, .row b74 [.slice ao56 (((pnext u0).1).Data).length cap57, .int .i64 (((pnext u0).1).At), .int .i64 (((pnext u0).1).Next), .int .i64 (((pnext u0).1).Left), .bool (((pnext u0).1).Done)] 53, .own (tyInt .u8) 5 ao59 cap60 ((pnext u0).2.1), .row b39 [.slice ao26 (((ptold u0 u1).1).Data).length cap27, .int .i64 (((ptold u0 u1).1).At), .int .i64 (((ptold u0 u1).1).Next), .int .i64 (((ptold u0 u1).1).Left), .bool (((ptold u0 u1).1).Done)] 53, .row b10 [.slice ao1 u0.Data.length cap2, .int .i64 u0.At, .int .i64 u0.Next, .int .i64 u0.Left, .bool u0.Done] 53] Z61 wd1051 := hM1052; clear hM1052
         refine nlH (hQ1030 _ _ ?_); clear hQ1030 hQ1030Q
         refine ibn ?_
         refine rd ?_
         exact hJ206 (pchecks u0) (⟨u0.Data, u0.At, u0.Next, w64 q1038, u0.Done⟩ : Sender) ao1 cap2 ⟨hp1044, hs3⟩ _ _ ((hF1050.region (by kernel_rfl) (by kernel_rfl)).anyβ _ (by kernel_rfl)) (hM1053.keep (List.Sublist.cons_cons _ (List.Sublist.cons_cons _ (List.Sublist.cons_cons _ (List.Sublist.cons_cons _ (List.Sublist.cons_cons _ (List.Sublist.slnil)))))))
        · -- no
         have hp1054 := hp1021.2 hb1028; clear hp1021
         refine wp_skip ?_
         refine ibn ?_
         refine rd ?_
         exact hJ206 (pchecks u0) u0 ao1 cap2 ⟨hp1054, hs3⟩ _ _ ((hF1027.region (by kernel_rfl) (by kernel_rfl)).anyβ _ (by kernel_rfl)) (hM198.keep (List.Sublist.cons_cons _ (List.Sublist.cons_cons _ (List.Sublist.cons_cons _ (List.Sublist.cons_cons _ (List.Sublist.cons_cons _ (List.Sublist.slnil)))))))

end Go.Proofs.Ytkogkombalcgeaa
