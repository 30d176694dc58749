/- The walks, made by program: each call does what its pure predicate says. -/
import Derived.Test.YtginlmgkimfjmaaPDu
import Derived.Test.YtginlmgkimfjmaaWDt
set_option linter.unusedVariables false
set_option linter.unusedSimpArgs false
namespace Go.Proofs.Ytginlmgkimfjmaa
open Go.Sy Go.RowKit
theorem chkT_fun (u0 : List Task) (ao1 : Option Addr) (cap2 : Nat) (Z : Fz) (w : World) (hs3 : SlR tyTask Z ao1 cap2 u0) (hZ : Z.on w) : Calls Try.prog 21 #[.slice ao1 u0.length cap2] w fun e w' => e = .returned (.int .i64 (dcheckS u0)) ∧ Below w.heap.size w w' :=
  (chkT_walk u0 ao1 cap2 Z w hs3 hZ (chkT_ok u0)).mono fun _ _ ⟨r, he, hk, hb⟩ => ⟨by subst hk; exact he, hb⟩

theorem played_fun   (Z : Fz) (w : World)  (hZ : Z.on w) : Calls Try.prog 19 #[] w fun e w' => e = .returned (.bool true) ∧ Below w.heap.size w w' :=
  (played_walk   Z w  hZ (played_ok )).mono fun _ _ ⟨r, he, hk, hb⟩ => ⟨by subst hk; exact he, hb⟩

set_option maxRecDepth 100000 in
set_option maxHeartbeats 0 in
theorem LWaits_walk (u0 : List Task) (u1 : List Slot) (ao1 : Option Addr) (cap2 : Nat) (ao4 : Option Addr) (cap5 : Nat) (Z : Fz) (w : World) (hs3 : SlR tyTask Z ao1 cap2 u0) (hs6 : SlR tySlot Z ao4 cap5 u1) (hZ : Z.on w) {K : Bool → Prop} (hp : LWaits_vc u0 u1 K) : Calls Try.prog 6 #[.slice ao1 u0.length cap2, .slice ao4 u1.length cap5] w fun e w' => ∃ r : Bool, e = .returned (.bool r) ∧ K r ∧ Below w.heap.size w w' := by
 refine enter0 Try.func6 rfl rfl (by kernel_rfl) ?_; intro a0 hF0; have hM0 := Mem.start w Z hZ; have hle0 := Fz.le.refl Z
 have hp7 := hp (hs3.small); clear hp
 have hp8 := hp7 (hs6.small); clear hp7
 refine sqH ?_; intro hQ9Q hQ9
 refine s1 hF0 4 (.bool false) ?_; intro a10 hF11; clear hF0
 refine nlH (hQ9 _ _ ?_); clear hQ9 hQ9Q
 refine sqH ?_; intro hQ12Q hQ12
 refine s1 hF11 12 (.slice ao1 u0.length cap2) ?_; intro a13 hF14; clear hF11
 refine s1 hF14 13 (.slice ao4 u1.length cap5) ?_; intro a15 hF16; clear hF14
 have hc17 := hp8.1; have hp18 := hp8.2; clear hp8
 refine cl hF16 20 #[.slice ao1 u0.length cap2, .slice ao4 u1.length cap5] (nog rfl _) rfl (by kernel_rfl) (by kernel_rfl) ?_
 refine (swaits_fun u0 u1 hc17 ao1 cap2 ao4 cap5 _ _ hs3 hs6 hM0.fz).mono ?_; rintro _ wd19 ⟨ao23, cap24, Z25, rfl, hm⟩; refine ⟨_, rfl, ?_⟩; intro a20 hF21; have hM22 := hM0.callZ hm; have hle26 := hm.ext.le; clear hm hM0 hF16
 replace hs3 := hs3.mono hle26
 replace hs6 := hs6.mono hle26
 replace hle0 := Fz.le.trans hle0 hle26
 have hM27 : Mem w.heap.size [] w Z [.own (tyInt .i64) 3 ao23 cap24 ((swaitsS u0 u1).1)] Z25 wd19 := hM22; clear hM22
 have hp28 := hp18 (hM27.ownSmall 0 rfl); clear hp18
 refine s1 hF21 11 (.tuple #[.slice ao23 ((swaitsS u0 u1).1).length cap24, .int .i64 ((swaitsS u0 u1).2)]) ?_; intro a29 hF30; clear hF21
 refine s1 hF30 15 (.slice ao23 ((swaitsS u0 u1).1).length cap24) ?_; intro a31 hF32; clear hF30
 refine s1 hF32 16 (.int .i64 ((swaitsS u0 u1).2)) ?_; intro a33 hF34; clear hF32
 refine s1 hF34 5 (.slice ao23 ((swaitsS u0 u1).1).length cap24) ?_; intro a35 hF36; clear hF34
 refine s1 hF36 6 (.int .i64 ((swaitsS u0 u1).2)) ?_; intro a37 hF38; clear hF36
 refine nlH (hQ12 _ _ ?_); clear hQ12 hQ12Q
 refine sqH ?_; intro hQ39Q hQ39
 refine s1 hF38 17 (.slice ao1 u0.length cap2) ?_; intro a40 hF41; clear hF38
 refine fcl hF41 hM27 (.int .i64 (dcheckS u0)) 21 #[.slice ao1 u0.length cap2] (nog rfl _) rfl (by kernel_rfl) (fun _ => by kernel_rfl) (chkT_fun u0 ao1 cap2 _ _ hs3 hM27.fz) ?_; intro a42 wd44 hF43 hM45; clear hF41 hM27
 refine s1 hF43 7 (.int .i64 (dcheckS u0)) ?_; intro a46 hF47; clear hF43
 refine nlH (hQ39 _ _ ?_); clear hQ39 hQ39Q
 refine sqH ?_; intro hQ48Q hQ48
 refine s1 hF47 19 (.slice ao1 u0.length cap2) ?_; intro a49 hF50; clear hF47
 refine s1 hF50 20 (.int .i64 (u0.length : Int)) ?_; intro a51 hF52; clear hF50
 have hc53 := hp28.1; have hp54 := hp28.2; clear hp28
 refine mks hF52 hM45 (T := (tyInt .i64)) (u0.length : Int) (u0.length : Int) (k := .i64) (k' := .i64) (e := 3) (bytes := 8) (zs := [.int .i64 0]) (z := 0) (by simp only [lim]; omega) (nog rfl _) rfl (by kernel_rfl) rfl (by kernel_rfl) (by kernel_rfl) (by kernel_rfl) (by kernel_rfl) rfl ?_; intro g55 a58 wd56 hF59 hM57; clear hF52 hM45
 have hM60 : Mem w.heap.size [] w Z [.own (tyInt .i64) 3 (some ⟨g55, 0, none⟩) ((u0.length : Int).toNat) (List.replicate (u0.length : Int).toNat (0 : Int)), .own (tyInt .i64) 3 ao23 cap24 ((swaitsS u0 u1).1)] Z25 wd56 := hM57; clear hM57
 refine s1 hF59 8 (.slice (some ⟨g55, 0, none⟩) (List.replicate (u0.length : Int).toNat (0 : Int)).length ((u0.length : Int).toNat)) ?_; intro a61 hF62; clear hF59
 refine nlH (hQ48 _ _ ?_); clear hQ48 hQ48Q
 refine wp_seq ?_
 have hF63 : Fr 94 [] [⟨0, [], .slice ao1 u0.length cap2⟩, ⟨1, [], .slice ao4 u1.length cap5⟩, ⟨5, [], .slice ao23 ((swaitsS u0 u1).1).length cap24⟩, ⟨6, [], .int .i64 ((swaitsS u0 u1).2)⟩, ⟨7, [], .int .i64 (dcheckS u0)⟩, ⟨8, [], .slice (some ⟨g55, 0, none⟩) (List.replicate (u0.length : Int).toNat (0 : Int)).length ((u0.length : Int).toNat)⟩] a61 := hF62.reg; clear hF62
 refine sqH ?_; intro hQ64Q hQ64
 refine s1 hF63 22 (.slice ao4 u1.length cap5) ?_; intro a65 hF66; clear hF63
 refine s1 hF66 23 (.int .i64 (u1.length : Int)) ?_; intro a67 hF68; clear hF66
 refine s1 hF68 24 (.int .i64 0) ?_; intro a69 hF70; clear hF68
 refine nlH (hQ64 _ _ ?_); clear hQ64 hQ64Q
 refine wp_block ?_
 have hF71 : Fr 94 [] [⟨0, [], .slice ao1 u0.length cap2⟩, ⟨5, [], .slice ao23 ((swaitsS u0 u1).1).length cap24⟩, ⟨6, [], .int .i64 ((swaitsS u0 u1).2)⟩, ⟨7, [], .int .i64 (dcheckS u0)⟩, ⟨8, [], .slice (some ⟨g55, 0, none⟩) (List.replicate (u0.length : Int).toNat (0 : Int)).length ((u0.length : Int).toNat)⟩, ⟨22, [], .slice ao4 u1.length cap5⟩, ⟨23, [], .int .i64 (u1.length : Int)⟩, ⟨24, [], .int .i64 0⟩] a69 := hF70.reg; clear hF70
 have hF73 : Fr 94 [] [⟨0, [], .slice ao1 u0.length cap2⟩, ⟨5, [], .slice ao23 ((swaitsS u0 u1).1).length cap24⟩, ⟨6, [], .int .i64 ((swaitsS u0 u1).2)⟩, ⟨7, [], .int .i64 (dcheckS u0)⟩, ⟨8, [], .slice (some ⟨g55, 0, none⟩) (List.replicate (u0.length : Int).toNat (0 : Int)).length ((u0.length : Int).toNat)⟩, ⟨22, [], .slice ao4 u1.length cap5⟩, ⟨23, [], .int .i64 (u1.length : Int)⟩, ⟨24, [], .int .i64 0⟩] a69 := hF71.reg; clear hF71
 obtain ⟨inv72, mu72, hI76, hr75⟩ := hp54
 refine lp (ι := Int × Int × (List Int)) (fun (s : Int × Int × (List Int)) => [⟨0, [], .slice ao1 u0.length cap2⟩, ⟨5, [], .slice ao23 ((swaitsS u0 u1).1).length cap24⟩, ⟨6, [], .int .i64 ((swaitsS u0 u1).2)⟩, ⟨7, [], .int .i64 s.1⟩, ⟨8, [], .slice (some ⟨g55, 0, none⟩) s.2.2.length ((u0.length : Int).toNat)⟩, ⟨22, [], .slice ao4 u1.length cap5⟩, ⟨23, [], .int .i64 (u1.length : Int)⟩, ⟨24, [], .int .i64 s.2.1⟩]) (fun (s : Int × Int × (List Int)) => [.own (tyInt .i64) 3 (some ⟨g55, 0, none⟩) ((u0.length : Int).toNat) s.2.2, .own (tyInt .i64) 3 ao23 cap24 ((swaitsS u0 u1).1)]) (fun (s : Int × Int × (List Int)) => Z25) (fun (s : Int × Int × (List Int)) => inv72 s.1 s.2.1 s.2.2) (fun (s : Int × Int × (List Int)) => mu72 s.1 s.2.1 s.2.2) ⟨(dcheckS u0), 0, (List.replicate (u0.length : Int).toNat (0 : Int))⟩ hI76 (by exact hF73.reg) (by exact hM60) ?_
 rintro ⟨x7, x24, zg550⟩ hI74 a78 wd79 hF80 hM81
 have hF82 : Fr 94 [] [⟨0, [], .slice ao1 u0.length cap2⟩, ⟨5, [], .slice ao23 ((swaitsS u0 u1).1).length cap24⟩, ⟨6, [], .int .i64 ((swaitsS u0 u1).2)⟩, ⟨7, [], .int .i64 x7⟩, ⟨8, [], .slice (some ⟨g55, 0, none⟩) zg550.length ((u0.length : Int).toNat)⟩, ⟨22, [], .slice ao4 u1.length cap5⟩, ⟨23, [], .int .i64 (u1.length : Int)⟩, ⟨24, [], .int .i64 x24⟩] a78 := hF80; clear hF80 hF73
 have hM83 : Mem w.heap.size [] w Z [.own (tyInt .i64) 3 (some ⟨g55, 0, none⟩) ((u0.length : Int).toNat) zg550, .own (tyInt .i64) 3 ao23 cap24 ((swaitsS u0 u1).1)] Z25 wd79 := hM81; clear hM81 hM60
 have hp84 := hr75 x7 x24 zg550 hI74
 refine sqH ?_; intro hQ85Q hQ85
 refine s1 hF82 25 (.bool (decide (x24 < (u1.length : Int)))) ?_; intro a86 hF87; clear hF82
 refine nlH (hQ85 _ _ ?_); clear hQ85 hQ85Q
 refine wp_seq ?_
 refine cd hF87 (t := decide (x24 < (u1.length : Int))) (by kernel_rfl) (fun hb88 => ?_) (fun hb88 => ?_)
 ·
  have hp89 := hp84.1 hb88; clear hp84
  refine wp_skip ?_
  refine thn ?_
  have hF90 : Fr 94 [] [⟨0, [], .slice ao1 u0.length cap2⟩, ⟨5, [], .slice ao23 ((swaitsS u0 u1).1).length cap24⟩, ⟨6, [], .int .i64 ((swaitsS u0 u1).2)⟩, ⟨7, [], .int .i64 x7⟩, ⟨8, [], .slice (some ⟨g55, 0, none⟩) zg550.length ((u0.length : Int).toNat)⟩, ⟨22, [], .slice ao4 u1.length cap5⟩, ⟨23, [], .int .i64 (u1.length : Int)⟩, ⟨24, [], .int .i64 x24⟩] a86 := hF87.reg; clear hF87
  have hF92 : Fr 94 [] [⟨0, [], .slice ao1 u0.length cap2⟩, ⟨5, [], .slice ao23 ((swaitsS u0 u1).1).length cap24⟩, ⟨6, [], .int .i64 ((swaitsS u0 u1).2)⟩, ⟨7, [], .int .i64 x7⟩, ⟨8, [], .slice (some ⟨g55, 0, none⟩) zg550.length ((u0.length : Int).toNat)⟩, ⟨22, [], .slice ao4 u1.length cap5⟩, ⟨23, [], .int .i64 (u1.length : Int)⟩, ⟨24, [], .int .i64 x24⟩] a86 := hF90.reg; clear hF90
  obtain ⟨inv91, hp93, hp94⟩ := hp89
  refine wp_seq_k fun KJ95 hKJ96 => ?_
  have hJ97 : ∀ (x7v : Int) (zg550v : List Int), inv91 x7v zg550v → ∀ a1 w1, Fr 94 [] [⟨0, [], .slice ao1 u0.length cap2⟩, ⟨5, [], .slice ao23 ((swaitsS u0 u1).1).length cap24⟩, ⟨6, [], .int .i64 ((swaitsS u0 u1).2)⟩, ⟨7, [], .int .i64 x7v⟩, ⟨8, [], .slice (some ⟨g55, 0, none⟩) zg550v.length ((u0.length : Int).toNat)⟩, ⟨22, [], .slice ao4 u1.length cap5⟩, ⟨23, [], .int .i64 (u1.length : Int)⟩, ⟨24, [], .int .i64 x24⟩] a1 → Mem w.heap.size [] w Z [.own (tyInt .i64) 3 (some ⟨g55, 0, none⟩) ((u0.length : Int).toNat) zg550v, .own (tyInt .i64) 3 ao23 cap24 ((swaitsS u0 u1).1)] Z25 w1 → KJ95 a1 w1 := by
   rintro x7v zg550v hI102 a98 wd99 hF100 hM101; clear hF92 hM83
   refine hKJ96 _ _ ?_; clear hKJ96
   have hp103 := hp94 x7v zg550v hI102
   refine rgH ?_; intro hQ104Q hQ104
   refine s1 hF100 69 (.int .i64 (w64 (x24 + 1))) ?_; intro a105 hF106; clear hF100
   refine s1 hF106 24 (.int .i64 (w64 (x24 + 1))) ?_; intro a107 hF108; clear hF106
   refine nlH (hQ104 _ _ ?_); clear hQ104 hQ104Q
   refine rd ?_
   exact ⟨⟨x7v, w64 (x24 + 1), zg550v⟩, hp103.1, hp103.2, (hF108.reg).anyβ _ (by kernel_rfl), hM101.keep (List.Sublist.cons_cons _ (List.Sublist.cons_cons _ (List.Sublist.slnil)))⟩
  refine wp_block ?_
  refine sqH ?_; intro hQ109Q hQ109
  have hc110 := hp93.1; have hp111 := hp93.2; clear hp93
  refine ix hF92 (T := tySlot) (xs := u1) hs6 x24 hc110 (k := .i64) (e := 48) (bytes := 32) (nog rfl _) rfl (by kernel_rfl) rfl (by kernel_rfl) (by kernel_rfl) (by kernel_rfl) ?_; intro b112 off113 cs114 q115 a119 hq116 hP117 hT118 hF120; clear hF92
  have hp121 := hp111 q115 hq116; clear hp111
  obtain rfl : cs114 = ([.int .i64 q115.Task, .int .i64 q115.Asked, .int .i64 q115.From, .int .i64 q115.End] : List Value) := hT118
  refine z2 hF120 hM83 27 hP117 0 4 [.int .i64 q115.Task, .int .i64 q115.Asked, .int .i64 q115.From, .int .i64 q115.End] rfl ?_; intro a122 hF123; clear hF120
  refine sn hF123 hM83 (fun b => .pointer (some ⟨b, 0, none⟩)) [.int .i64 0, .int .i64 0, .int .i64 0, .int .i64 0] 48 (nog rfl _) rfl (by kernel_rfl) (by kernel_rfl) ?_; intro b124 a125 wd127 hF126 hM128; clear hF123 hM83
  refine sr hF126 hM128 0 [.int .i64 q115.Task, .int .i64 q115.Asked, .int .i64 q115.From, .int .i64 q115.End] (b := b124) (off := 0) (cs := [.int .i64 0, .int .i64 0, .int .i64 0, .int .i64 0]) (ty := 48) (u := .agg #[.int .i64 q115.Task, .int .i64 q115.Asked, .int .i64 q115.From, .int .i64 q115.End]) (nog rfl _) rfl rfl (by kernel_rfl) (by kernel_rfl) (by kernel_rfl) (by kernel_rfl) (by kernel_rfl) (by kernel_rfl) (by kernel_rfl) ?_; intro wd129 hM130; clear hM128
  have hM131 : Mem w.heap.size [] w Z [.row b124 [.int .i64 q115.Task, .int .i64 q115.Asked, .int .i64 q115.From, .int .i64 q115.End] 48, .own (tyInt .i64) 3 (some ⟨g55, 0, none⟩) ((u0.length : Int).toNat) zg550, .own (tyInt .i64) 3 ao23 cap24 ((swaitsS u0 u1).1)] Z25 wd129 := hM130; clear hM130
  refine nlH (hQ109 _ _ ?_); clear hQ109 hQ109Q
  refine wp_seq ?_
  refine sqH ?_; intro hQ132Q hQ132
  refine s1 hF126 28 (.int .i64 x7) ?_; intro a133 hF134; clear hF126
  refine s1 hF134 29 (.bool (x7 == 0)) ?_; intro a135 hF136; clear hF134
  refine s1 hF136 30 (.bool (x7 == 0)) ?_; intro a137 hF138; clear hF136
  have hF139 := hF138.atom ((x7 == 0) == true) (by kernel_rfl); clear hF138
  refine gp hF139 31 0 [] (x7 == 0) (.pointer (some ⟨b124, 0, none⟩)) rfl rfl ?_; intro a140 hF141; clear hF139
  refine gd hF141 (.int .i64 q115.Task) (m := 0) (cj := []) (bj := x7 == 0) rfl rfl (by kernel_rfl) rfl (by kernel_rfl) (by kernel_rfl) (by kernel_rfl) (fun hg => ld hF141 hM131 0 (g := [0]) (b := b124) (off := 0) (cs := [.int .i64 q115.Task, .int .i64 q115.Asked, .int .i64 q115.From, .int .i64 q115.End]) (ty := 48) rfl (by kernel_rfl) (by kernel_rfl) (by kernel_rfl) (by kernel_rfl) hg) ?_; intro a142 hF143; clear hF141
  refine gp hF143 33 0 [] (x7 == 0) (.bool (decide (q115.Task < 0))) rfl rfl ?_; intro a144 hF145; clear hF143
  refine gp hF145 34 0 [] (x7 == 0) (.bool (decide (q115.Task < 0))) rfl rfl ?_; intro a146 hF147; clear hF145
  have hF148 := hF147.atom ((decide (q115.Task < 0)) == false) (by kernel_rfl); clear hF147
  refine gp hF148 35 1 [0] (decide (q115.Task < 0)) (.pointer (some ⟨b124, 0, none⟩)) rfl rfl ?_; intro a149 hF150; clear hF148
  refine gd hF150 (.int .i64 q115.Task) (m := 1) (cj := [0]) (bj := decide (q115.Task < 0)) rfl rfl (by kernel_rfl) rfl (by kernel_rfl) (by kernel_rfl) (by kernel_rfl) (fun hg => ld hF150 hM131 0 (g := [1, 0]) (b := b124) (off := 0) (cs := [.int .i64 q115.Task, .int .i64 q115.Asked, .int .i64 q115.From, .int .i64 q115.End]) (ty := 48) rfl (by kernel_rfl) (by kernel_rfl) (by kernel_rfl) (by kernel_rfl) hg) ?_; intro a151 hF152; clear hF150
  refine gp hF152 37 1 [0] (decide (q115.Task < 0)) (.slice ao1 u0.length cap2) rfl rfl ?_; intro a153 hF154; clear hF152
  refine gp hF154 38 1 [0] (decide (q115.Task < 0)) (.int .i64 (u0.length : Int)) rfl rfl ?_; intro a155 hF156; clear hF154
  refine gp hF156 39 1 [0] (decide (q115.Task < 0)) (.bool (decide (q115.Task ≥ (u0.length : Int)))) rfl rfl ?_; intro a157 hF158; clear hF156
  refine gd hF158 (.bool ((decide (q115.Task < 0)) || (decide (q115.Task ≥ (u0.length : Int))))) (m := 0) (cj := []) (bj := x7 == 0) rfl rfl (by kernel_rfl) rfl (by kernel_rfl) (by kernel_rfl) (by kernel_rfl) (fun hg => pk_or hF158 (g := [0]) (m := 1) (b := decide (q115.Task < 0)) (v := decide (q115.Task ≥ (u0.length : Int))) rfl (by kernel_rfl) (by kernel_rfl) (by kernel_rfl) hg) ?_; intro a159 hF160; clear hF158
  refine gp hF160 41 0 [] (x7 == 0) (.bool ((decide (q115.Task < 0)) || (decide (q115.Task ≥ (u0.length : Int))))) rfl rfl ?_; intro a161 hF162; clear hF160
  have hF163 := hF162.atom (((decide (q115.Task < 0)) || (decide (q115.Task ≥ (u0.length : Int)))) == false) (by kernel_rfl); clear hF162
  refine gp hF163 42 2 [0] ((decide (q115.Task < 0)) || (decide (q115.Task ≥ (u0.length : Int)))) (.pointer (some ⟨b124, 1, none⟩)) rfl rfl ?_; intro a164 hF165; clear hF163
  refine gd hF165 (.int .i64 q115.Asked) (m := 2) (cj := [0]) (bj := (decide (q115.Task < 0)) || (decide (q115.Task ≥ (u0.length : Int)))) rfl rfl (by kernel_rfl) rfl (by kernel_rfl) (by kernel_rfl) (by kernel_rfl) (fun hg => ld hF165 hM131 0 (g := [2, 0]) (b := b124) (off := 1) (cs := [.int .i64 q115.Task, .int .i64 q115.Asked, .int .i64 q115.From, .int .i64 q115.End]) (ty := 48) rfl (by kernel_rfl) (by kernel_rfl) (by kernel_rfl) (by kernel_rfl) hg) ?_; intro a166 hF167; clear hF165
  refine gp hF167 44 2 [0] ((decide (q115.Task < 0)) || (decide (q115.Task ≥ (u0.length : Int)))) (.bool (decide (q115.Asked < 0))) rfl rfl ?_; intro a168 hF169; clear hF167
  refine gd hF169 (.bool (((decide (q115.Task < 0)) || (decide (q115.Task ≥ (u0.length : Int)))) || (decide (q115.Asked < 0)))) (m := 0) (cj := []) (bj := x7 == 0) rfl rfl (by kernel_rfl) rfl (by kernel_rfl) (by kernel_rfl) (by kernel_rfl) (fun hg => pk_or hF169 (g := [0]) (m := 2) (b := (decide (q115.Task < 0)) || (decide (q115.Task ≥ (u0.length : Int)))) (v := decide (q115.Asked < 0)) rfl (by kernel_rfl) (by kernel_rfl) (by kernel_rfl) hg) ?_; intro a170 hF171; clear hF169
  refine gp hF171 46 0 [] (x7 == 0) (.bool (((decide (q115.Task < 0)) || (decide (q115.Task ≥ (u0.length : Int)))) || (decide (q115.Asked < 0)))) rfl rfl ?_; intro a172 hF173; clear hF171
  have hF174 := hF173.atom ((((decide (q115.Task < 0)) || (decide (q115.Task ≥ (u0.length : Int)))) || (decide (q115.Asked < 0))) == false) (by kernel_rfl); clear hF173
  refine gp hF174 47 3 [0] (((decide (q115.Task < 0)) || (decide (q115.Task ≥ (u0.length : Int)))) || (decide (q115.Asked < 0))) (.pointer (some ⟨b124, 3, none⟩)) rfl rfl ?_; intro a175 hF176; clear hF174
  refine gd hF176 (.int .i64 q115.End) (m := 3) (cj := [0]) (bj := ((decide (q115.Task < 0)) || (decide (q115.Task ≥ (u0.length : Int)))) || (decide (q115.Asked < 0))) rfl rfl (by kernel_rfl) rfl (by kernel_rfl) (by kernel_rfl) (by kernel_rfl) (fun hg => ld hF176 hM131 0 (g := [3, 0]) (b := b124) (off := 3) (cs := [.int .i64 q115.Task, .int .i64 q115.Asked, .int .i64 q115.From, .int .i64 q115.End]) (ty := 48) rfl (by kernel_rfl) (by kernel_rfl) (by kernel_rfl) (by kernel_rfl) hg) ?_; intro a177 hF178; clear hF176
  refine gp hF178 49 3 [0] (((decide (q115.Task < 0)) || (decide (q115.Task ≥ (u0.length : Int)))) || (decide (q115.Asked < 0))) (.bool (decide (q115.End > 10000000))) rfl rfl ?_; intro a179 hF180; clear hF178
  refine gd hF180 (.bool ((((decide (q115.Task < 0)) || (decide (q115.Task ≥ (u0.length : Int)))) || (decide (q115.Asked < 0))) || (decide (q115.End > 10000000)))) (m := 0) (cj := []) (bj := x7 == 0) rfl rfl (by kernel_rfl) rfl (by kernel_rfl) (by kernel_rfl) (by kernel_rfl) (fun hg => pk_or hF180 (g := [0]) (m := 3) (b := ((decide (q115.Task < 0)) || (decide (q115.Task ≥ (u0.length : Int)))) || (decide (q115.Asked < 0))) (v := decide (q115.End > 10000000)) rfl (by kernel_rfl) (by kernel_rfl) (by kernel_rfl) hg) ?_; intro a181 hF182; clear hF180
  refine st hF182 (.bool ((x7 == 0) && ((((decide (q115.Task < 0)) || (decide (q115.Task ≥ (u0.length : Int)))) || (decide (q115.Asked < 0))) || (decide (q115.End > 10000000))))) (nog rfl _) rfl (by kernel_rfl) (pk_and hF182 (g := []) (m := 0) (b := x7 == 0) (v := (((decide (q115.Task < 0)) || (decide (q115.Task ≥ (u0.length : Int)))) || (decide (q115.Asked < 0))) || (decide (q115.End > 10000000))) rfl (by kernel_rfl) (by kernel_rfl) (by kernel_rfl) rfl) ?_; intro a183 hF184; clear hF182
  refine nlH (hQ132 _ _ ?_); clear hQ132 hQ132Q
  refine cd hF184 (t := (x7 == 0) && ((((decide (q115.Task < 0)) || (decide (q115.Task ≥ (u0.length : Int)))) || (decide (q115.Asked < 0))) || (decide (q115.End > 10000000)))) (by kernel_rfl) (fun hb185 => ?_) (fun hb185 => ?_)
  ·
   have hp186 := hp121.1 hb185; clear hp121
   have hF187 : Fr 94 [] [⟨0, [], .slice ao1 u0.length cap2⟩, ⟨5, [], .slice ao23 ((swaitsS u0 u1).1).length cap24⟩, ⟨6, [], .int .i64 ((swaitsS u0 u1).2)⟩, ⟨8, [], .slice (some ⟨g55, 0, none⟩) zg550.length ((u0.length : Int).toNat)⟩, ⟨10, [], .pointer (some ⟨b124, 0, none⟩)⟩, ⟨22, [], .slice ao4 u1.length cap5⟩, ⟨23, [], .int .i64 (u1.length : Int)⟩, ⟨24, [], .int .i64 x24⟩] a183 := hF184.reg; clear hF184
   refine rgH ?_; intro hQ188Q hQ188
   refine s1 hF187 7 (.int .i64 3) ?_; intro a189 hF190; clear hF187
   refine nlH (hQ188 _ _ ?_); clear hQ188 hQ188Q
   refine thn ?_
   refine sqH ?_; intro hQ191Q hQ191
   refine s1 hF190 52 (.int .i64 3) ?_; intro a192 hF193; clear hF190
   refine s1 hF193 53 (.bool false) ?_; intro a194 hF195; clear hF193
   refine nlH (hQ191 _ _ ?_); clear hQ191 hQ191Q
   refine cdF hF195 (by kernel_rfl) ?_
   refine wp_skip ?_
   refine ibn ?_
   refine rd ?_
   exact hJ97 3 zg550 hp186 _ _ ((hF195.reg).anyβ _ (by kernel_rfl)) (hM131.keep (List.Sublist.cons _ (List.Sublist.cons_cons _ (List.Sublist.cons_cons _ (List.Sublist.slnil)))))
  ·
   have hp196 := hp121.2 hb185; clear hp121
   refine wp_skip ?_
   refine thn ?_
   have hF197 : Fr 94 [] [⟨0, [], .slice ao1 u0.length cap2⟩, ⟨5, [], .slice ao23 ((swaitsS u0 u1).1).length cap24⟩, ⟨6, [], .int .i64 ((swaitsS u0 u1).2)⟩, ⟨7, [], .int .i64 x7⟩, ⟨8, [], .slice (some ⟨g55, 0, none⟩) zg550.length ((u0.length : Int).toNat)⟩, ⟨10, [], .pointer (some ⟨b124, 0, none⟩)⟩, ⟨22, [], .slice ao4 u1.length cap5⟩, ⟨23, [], .int .i64 (u1.length : Int)⟩, ⟨24, [], .int .i64 x24⟩] a183 := hF184.reg; clear hF184
   refine sqH ?_; intro hQ198Q hQ198
   refine s1 hF197 52 (.int .i64 x7) ?_; intro a199 hF200; clear hF197
   refine s1 hF200 53 (.bool (x7 == 0)) ?_; intro a201 hF202; clear hF200
   refine nlH (hQ198 _ _ ?_); clear hQ198 hQ198Q
   refine cd hF202 (t := x7 == 0) (by kernel_rfl) (fun hb203 => ?_) (fun hb203 => ?_)
   ·
    have hp204 := hp196.1 hb203; clear hp196
    have hF205 : Fr 94 [] [⟨0, [], .slice ao1 u0.length cap2⟩, ⟨5, [], .slice ao23 ((swaitsS u0 u1).1).length cap24⟩, ⟨6, [], .int .i64 ((swaitsS u0 u1).2)⟩, ⟨7, [], .int .i64 x7⟩, ⟨8, [], .slice (some ⟨g55, 0, none⟩) zg550.length ((u0.length : Int).toNat)⟩, ⟨10, [], .pointer (some ⟨b124, 0, none⟩)⟩, ⟨22, [], .slice ao4 u1.length cap5⟩, ⟨23, [], .int .i64 (u1.length : Int)⟩, ⟨24, [], .int .i64 x24⟩] a201 := hF202.reg; clear hF202
    have hcd6_0 := hp204.1; have hp249 := hp204.2; clear hp204
    obtain ⟨qd7_0, hqd7_0⟩ : ∃ q, zg550[q115.Task.toNat]? = some q := ⟨_, List.getElem?_eq_getElem (by omega)⟩; have hp250 := hp249 qd7_0 hqd7_0; clear hp249
    have hcd14_0 := hp250.1; have hp251 := hp250.2; clear hp250
    refine any_invE mixed [[], [], [1], [], [], [4], [3, 5], [6], [], [8], [], [10], [9, 11], [7, 12], [0, 1, 2, 3, 4, 5, 6, 7, 8, 9, 10, 11, 12, 13], [0, 1, 2, 3, 4, 5, 6, 7, 8, 9, 10, 11, 12, 13, 14]] 16 (fun S a w1 => ∃ (g218 : Nat) (g241 : Nat) (ud54 : Value) (ud55 : Value) (ud56 : Value) (ud57 : Value) (ud58 : Value) (ud59 : Value) (ud60 : Value) (ud61 : Value) (ud62 : Value) (ud63 : Value) (ud64 : Value) (ud65 : Value) (ud66 : Value) (ud67 : Value) (ud68 : Value) (rh0 : Res) (rh1 : Res) (rh2 : Res), Fz.le Z25 Z25 ∧ Fr 94 [] [⟨0, [], .slice ao1 u0.length cap2⟩, ⟨5, [], .slice ao23 ((swaitsS u0 u1).1).length cap24⟩, ⟨6, [], .int .i64 ((swaitsS u0 u1).2)⟩, ⟨7, [], .int .i64 x7⟩, ⟨8, [], .slice (some ⟨g55, 0, none⟩) zg550.length ((u0.length : Int).toNat)⟩, ⟨10, [], .pointer (some ⟨b124, 0, none⟩)⟩, ⟨22, [], .slice ao4 u1.length cap5⟩, ⟨23, [], .int .i64 (u1.length : Int)⟩, ⟨24, [], .int .i64 x24⟩, ⟨54, [], ud54⟩, ⟨55, [], ud55⟩, ⟨56, [], ud56⟩, ⟨57, [], ud57⟩, ⟨58, [], ud58⟩, ⟨59, [], ud59⟩, ⟨60, [], ud60⟩, ⟨61, [], ud61⟩, ⟨62, [], ud62⟩, ⟨63, [], ud63⟩, ⟨64, [], ud64⟩, ⟨65, [], ud65⟩, ⟨66, [], ud66⟩, ⟨67, [], ud67⟩, ⟨68, [], ud68⟩] a ∧ Mem w.heap.size [] w Z [rh0, rh1, rh2] Z25 w1 ∧ (S 0 = true → ud54 = .slice (some ⟨g55, 0, none⟩) zg550.length ((u0.length : Int).toNat)) ∧ (S 1 = true → ud55 = .pointer (some ⟨b124, 0, none⟩)) ∧ (S 2 = true → ud56 = .int .i64 q115.Task) ∧ (S 3 = true → ud57 = .slice (some ⟨g55, 0, none⟩) zg550.length ((u0.length : Int).toNat)) ∧ (S 4 = true → ud58 = .pointer (some ⟨b124, 0, none⟩)) ∧ (S 5 = true → ud59 = .int .i64 q115.Task) ∧ (S 6 = true → ud60 = .pointer (some ⟨g55, q115.Task.toNat * 1, none⟩)) ∧ (S 7 = true → ud61 = .int .i64 qd7_0) ∧ (S 8 = true → ud62 = .pointer (some ⟨b124, 3, none⟩)) ∧ (S 9 = true → ud63 = .int .i64 q115.End) ∧ (S 10 = true → ud64 = .pointer (some ⟨b124, 1, none⟩)) ∧ (S 11 = true → ud65 = .int .i64 q115.Asked) ∧ (S 12 = true → ud66 = .int .i64 (w64 (q115.End - q115.Asked))) ∧ (S 13 = true → ud67 = .int .i64 (max qd7_0 (w64 (q115.End - q115.Asked)))) ∧ (S 14 = true → ud68 = .pointer (some ⟨g55, q115.Task.toNat * 1, none⟩)) ∧ (rh0 = .row b124 [.int .i64 q115.Task, .int .i64 q115.Asked, .int .i64 q115.From, .int .i64 q115.End] 48) ∧ (S 15 = false → rh1 = .own (tyInt .i64) 3 (some ⟨g55, 0, none⟩) ((u0.length : Int).toNat) zg550) ∧ (S 15 = true → rh1 = .own (tyInt .i64) 3 (some ⟨g55, 0, none⟩) ((u0.length : Int).toNat) (zg550.set q115.Task.toNat (max qd7_0 (w64 (q115.End - q115.Asked))))) ∧ (rh2 = .own (tyInt .i64) 3 ao23 cap24 ((swaitsS u0 u1).1))) ?h0 ?hs ?hE
    case h0 =>
     have hF253 := hF205.any 54
     have hF254 := hF253.any 55
     have hF255 := hF254.any 56
     have hF256 := hF255.any 57
     have hF257 := hF256.any 58
     have hF258 := hF257.any 59
     have hF259 := hF258.any 60
     have hF260 := hF259.any 61
     have hF261 := hF260.any 62
     have hF262 := hF261.any 63
     have hF263 := hF262.any 64
     have hF264 := hF263.any 65
     have hF265 := hF264.any 66
     have hF266 := hF265.any 67
     have hF267 := hF266.any 68
     have hM268 := (hM131.perm lpr).drew
     exact ⟨0, 0, a201.tmps.getD 54 undef, a201.tmps.getD 55 undef, a201.tmps.getD 56 undef, a201.tmps.getD 57 undef, a201.tmps.getD 58 undef, a201.tmps.getD 59 undef, a201.tmps.getD 60 undef, a201.tmps.getD 61 undef, a201.tmps.getD 62 undef, a201.tmps.getD 63 undef, a201.tmps.getD 64 undef, a201.tmps.getD 65 undef, a201.tmps.getD 66 undef, a201.tmps.getD 67 undef, a201.tmps.getD 68 undef, .row b124 [.int .i64 q115.Task, .int .i64 q115.Asked, .int .i64 q115.From, .int .i64 q115.End] 48, .own (tyInt .i64) 3 (some ⟨g55, 0, none⟩) ((u0.length : Int).toNat) zg550, .own (tyInt .i64) 3 ao23 cap24 ((swaitsS u0 u1).1), Fz.le.refl _, hF267.reg, hM268, ff, ff, ff, ff, ff, ff, ff, ff, ff, ff, ff, ff, ff, ff, ff, rfl, kf, ff, rfl⟩
    case hs =>
     intro S hcl i o hil hi hSi hpre a w1 hI; refine Go.Sy.hid ?_; intro G hG; obtain ⟨g218, g241, ud54, ud55, ud56, ud57, ud58, ud59, ud60, ud61, ud62, ud63, ud64, ud65, ud66, ud67, ud68, rh0, rh1, rh2, hle252, hFx, hMx, cu54, cu55, cu56, cu57, cu58, cu59, cu60, cu61, cu62, cu63, cu64, cu65, cu66, cu67, cu68, cr0_0, cr1_0, cr1_1, hI⟩ := hI; have cr2_0 := hI; clear hI
     have hcase : i = 0 ∨ i = 1 ∨ i = 2 ∨ i = 3 ∨ i = 4 ∨ i = 5 ∨ i = 6 ∨ i = 7 ∨ i = 8 ∨ i = 9 ∨ i = 10 ∨ i = 11 ∨ i = 12 ∨ i = 13 ∨ i = 14 ∨ i = 15 := by clear hi; omega
     rcases hcase with rfl | rfl | rfl | rfl | rfl | rfl | rfl | rfl | rfl | rfl | rfl | rfl | rfl | rfl | rfl | rfl
     ·
      obtain rfl := oj hi
      have hx0 := hSi
      have hx14 := ngF hcl 14 0 hx0
      have hx15 := ngF hcl 15 0 hx0
      obtain rfl := cr0_0
      obtain rfl := cr1_0 hx15
      obtain rfl := cr2_0
      refine hG (any_step ?_); clear hG G; intro A J hJ
      have hle0 := Fz.le.trans hle0 hle252
      have hs269 := hs3.mono hle252
      have hs270 := hs6.mono hle252
      have hs271 := hP117.mono hle252
      refine s1 hFx 54 (.slice (some ⟨g55, 0, none⟩) zg550.length ((u0.length : Int).toNat)) ?_; intro a272 hF273; clear hFx
      refine nl (qnI (hJ _ _ ?_)); clear hJ J
      exact ⟨g218, g241, .slice (some ⟨g55, 0, none⟩) zg550.length ((u0.length : Int).toNat), ud55, ud56, ud57, ud58, ud59, ud60, ud61, ud62, ud63, ud64, ud65, ud66, ud67, ud68, .row b124 [.int .i64 q115.Task, .int .i64 q115.Asked, .int .i64 q115.From, .int .i64 q115.End] 48, .own (tyInt .i64) 3 (some ⟨g55, 0, none⟩) ((u0.length : Int).toNat) zg550, .own (tyInt .i64) 3 ao23 cap24 ((swaitsS u0 u1).1), hle252, hF273.reg, hMx.perm lpr, kf, cu55, cu56, cu57, cu58, cu59, cu60, cu61, cu62, cu63, cu64, cu65, cu66, cu67, (nt hx14), rfl, kf, (nt hx15), rfl⟩
     ·
      obtain rfl := oj hi
      have hx1 := hSi
      have hx2 := ngF hcl 2 1 hx1
      have hx14 := ngF hcl 14 1 hx1
      have hx15 := ngF hcl 15 1 hx1
      obtain rfl := cr0_0
      obtain rfl := cr1_0 hx15
      obtain rfl := cr2_0
      refine hG (any_step ?_); clear hG G; intro A J hJ
      have hle0 := Fz.le.trans hle0 hle252
      have hs275 := hs3.mono hle252
      have hs276 := hs6.mono hle252
      have hs277 := hP117.mono hle252
      refine s1 hFx 55 (.pointer (some ⟨b124, 0, none⟩)) ?_; intro a278 hF279; clear hFx
      refine nl (qnI (hJ _ _ ?_)); clear hJ J
      exact ⟨g218, g241, ud54, .pointer (some ⟨b124, 0, none⟩), ud56, ud57, ud58, ud59, ud60, ud61, ud62, ud63, ud64, ud65, ud66, ud67, ud68, .row b124 [.int .i64 q115.Task, .int .i64 q115.Asked, .int .i64 q115.From, .int .i64 q115.End] 48, .own (tyInt .i64) 3 (some ⟨g55, 0, none⟩) ((u0.length : Int).toNat) zg550, .own (tyInt .i64) 3 ao23 cap24 ((swaitsS u0 u1).1), hle252, hF279.reg, hMx.perm lpr, cu54, kf, (nt hx2), cu57, cu58, cu59, cu60, cu61, cu62, cu63, cu64, cu65, cu66, cu67, (nt hx14), rfl, kf, (nt hx15), rfl⟩
     ·
      obtain rfl := oj hi
      have hx1 := hpre 1 (by kernel_rfl)
      have hx2 := hSi
      have hx14 := ngF hcl 14 2 hx2
      have hx15 := ngF hcl 15 2 hx2
      obtain rfl := cu55 hx1
      obtain rfl := cr0_0
      obtain rfl := cr1_0 hx15
      obtain rfl := cr2_0
      refine hG (any_step ?_); clear hG G; intro A J hJ
      have hle0 := Fz.le.trans hle0 hle252
      have hs281 := hs3.mono hle252
      have hs282 := hs6.mono hle252
      have hs283 := hP117.mono hle252
      refine l1 hFx hMx 56 0 0 (.int .i64 q115.Task) rfl rfl ?_; intro a284 hF285; clear hFx
      refine nl (qnI (hJ _ _ ?_)); clear hJ J
      exact ⟨g218, g241, ud54, .pointer (some ⟨b124, 0, none⟩), .int .i64 q115.Task, ud57, ud58, ud59, ud60, ud61, ud62, ud63, ud64, ud65, ud66, ud67, ud68, .row b124 [.int .i64 q115.Task, .int .i64 q115.Asked, .int .i64 q115.From, .int .i64 q115.End] 48, .own (tyInt .i64) 3 (some ⟨g55, 0, none⟩) ((u0.length : Int).toNat) zg550, .own (tyInt .i64) 3 ao23 cap24 ((swaitsS u0 u1).1), hle252, hF285.reg, hMx.perm lpr, cu54, kf, kf, cu57, cu58, cu59, cu60, cu61, cu62, cu63, cu64, cu65, cu66, cu67, (nt hx14), rfl, kf, (nt hx15), rfl⟩
     ·
      obtain rfl := oj hi
      have hx3 := hSi
      have hx6 := ngF hcl 6 3 hx3
      have hx7 := ngF hcl 7 6 hx6
      have hx13 := ngF hcl 13 7 hx7
      have hx14 := ngF hcl 14 3 hx3
      have hx15 := ngF hcl 15 3 hx3
      obtain rfl := cr0_0
      obtain rfl := cr1_0 hx15
      obtain rfl := cr2_0
      refine hG (any_step ?_); clear hG G; intro A J hJ
      have hle0 := Fz.le.trans hle0 hle252
      have hs287 := hs3.mono hle252
      have hs288 := hs6.mono hle252
      have hs289 := hP117.mono hle252
      refine s1 hFx 57 (.slice (some ⟨g55, 0, none⟩) zg550.length ((u0.length : Int).toNat)) ?_; intro a290 hF291; clear hFx
      refine nl (qnI (hJ _ _ ?_)); clear hJ J
      exact ⟨g218, g241, ud54, ud55, ud56, .slice (some ⟨g55, 0, none⟩) zg550.length ((u0.length : Int).toNat), ud58, ud59, ud60, ud61, ud62, ud63, ud64, ud65, ud66, ud67, ud68, .row b124 [.int .i64 q115.Task, .int .i64 q115.Asked, .int .i64 q115.From, .int .i64 q115.End] 48, .own (tyInt .i64) 3 (some ⟨g55, 0, none⟩) ((u0.length : Int).toNat) zg550, .own (tyInt .i64) 3 ao23 cap24 ((swaitsS u0 u1).1), hle252, hF291.reg, hMx.perm lpr, cu54, cu55, cu56, kf, cu58, cu59, (nt hx6), (nt hx7), cu62, cu63, cu64, cu65, cu66, (nt hx13), (nt hx14), rfl, kf, (nt hx15), rfl⟩
     ·
      obtain rfl := oj hi
      have hx4 := hSi
      have hx5 := ngF hcl 5 4 hx4
      have hx6 := ngF hcl 6 5 hx5
      have hx7 := ngF hcl 7 6 hx6
      have hx13 := ngF hcl 13 7 hx7
      have hx14 := ngF hcl 14 4 hx4
      have hx15 := ngF hcl 15 4 hx4
      obtain rfl := cr0_0
      obtain rfl := cr1_0 hx15
      obtain rfl := cr2_0
      refine hG (any_step ?_); clear hG G; intro A J hJ
      have hle0 := Fz.le.trans hle0 hle252
      have hs293 := hs3.mono hle252
      have hs294 := hs6.mono hle252
      have hs295 := hP117.mono hle252
      refine s1 hFx 58 (.pointer (some ⟨b124, 0, none⟩)) ?_; intro a296 hF297; clear hFx
      refine nl (qnI (hJ _ _ ?_)); clear hJ J
      exact ⟨g218, g241, ud54, ud55, ud56, ud57, .pointer (some ⟨b124, 0, none⟩), ud59, ud60, ud61, ud62, ud63, ud64, ud65, ud66, ud67, ud68, .row b124 [.int .i64 q115.Task, .int .i64 q115.Asked, .int .i64 q115.From, .int .i64 q115.End] 48, .own (tyInt .i64) 3 (some ⟨g55, 0, none⟩) ((u0.length : Int).toNat) zg550, .own (tyInt .i64) 3 ao23 cap24 ((swaitsS u0 u1).1), hle252, hF297.reg, hMx.perm lpr, cu54, cu55, cu56, cu57, kf, (nt hx5), (nt hx6), (nt hx7), cu62, cu63, cu64, cu65, cu66, (nt hx13), (nt hx14), rfl, kf, (nt hx15), rfl⟩
     ·
      obtain rfl := oj hi
      have hx4 := hpre 4 (by kernel_rfl)
      have hx5 := hSi
      have hx6 := ngF hcl 6 5 hx5
      have hx7 := ngF hcl 7 6 hx6
      have hx13 := ngF hcl 13 7 hx7
      have hx14 := ngF hcl 14 5 hx5
      have hx15 := ngF hcl 15 5 hx5
      obtain rfl := cu58 hx4
      obtain rfl := cr0_0
      obtain rfl := cr1_0 hx15
      obtain rfl := cr2_0
      refine hG (any_step ?_); clear hG G; intro A J hJ
      have hle0 := Fz.le.trans hle0 hle252
      have hs299 := hs3.mono hle252
      have hs300 := hs6.mono hle252
      have hs301 := hP117.mono hle252
      refine l1 hFx hMx 59 0 0 (.int .i64 q115.Task) rfl rfl ?_; intro a302 hF303; clear hFx
      refine nl (qnI (hJ _ _ ?_)); clear hJ J
      exact ⟨g218, g241, ud54, ud55, ud56, ud57, .pointer (some ⟨b124, 0, none⟩), .int .i64 q115.Task, ud60, ud61, ud62, ud63, ud64, ud65, ud66, ud67, ud68, .row b124 [.int .i64 q115.Task, .int .i64 q115.Asked, .int .i64 q115.From, .int .i64 q115.End] 48, .own (tyInt .i64) 3 (some ⟨g55, 0, none⟩) ((u0.length : Int).toNat) zg550, .own (tyInt .i64) 3 ao23 cap24 ((swaitsS u0 u1).1), hle252, hF303.reg, hMx.perm lpr, cu54, cu55, cu56, cu57, kf, kf, (nt hx6), (nt hx7), cu62, cu63, cu64, cu65, cu66, (nt hx13), (nt hx14), rfl, kf, (nt hx15), rfl⟩
     ·
      obtain rfl := oj hi
      have hx5 := hpre 5 (by kernel_rfl)
      have hx3 := hpre 3 (by kernel_rfl)
      have hx4 := hcl 5 4 (by kernel_rfl) hx5
      have hx6 := hSi
      have hx7 := ngF hcl 7 6 hx6
      have hx13 := ngF hcl 13 7 hx7
      have hx14 := ngF hcl 14 6 hx6
      have hx15 := ngF hcl 15 6 hx6
      obtain rfl := cu57 hx3
      obtain rfl := cu58 hx4
      obtain rfl := cu59 hx5
      obtain rfl := cr0_0
      obtain rfl := cr1_0 hx15
      obtain rfl := cr2_0
      refine hG (any_step ?_); clear hG G; intro A J hJ
      have hle0 := Fz.le.trans hle0 hle252
      have hs305 := hs3.mono hle252
      have hs306 := hs6.mono hle252
      have hs307 := hP117.mono hle252
      refine ixo hFx hMx 1 (T := (tyInt .i64)) (xs := zg550) q115.Task (by simpa only [List.length_set] using hcd6_0) (k := .i64) (e := 3) (bytes := 8) (nog rfl _) rfl (by kernel_rfl) rfl (by kernel_rfl) (by kernel_rfl) rfl (by kernel_rfl) ?_; intro g308 a310 hg309 hF311; clear hFx
      obtain rfl : g55 = g308 := by simpa using hg309
      have hF312 : Fr 94 [] [⟨0, [], .slice ao1 u0.length cap2⟩, ⟨5, [], .slice ao23 ((swaitsS u0 u1).1).length cap24⟩, ⟨6, [], .int .i64 ((swaitsS u0 u1).2)⟩, ⟨7, [], .int .i64 x7⟩, ⟨8, [], .slice (some ⟨g55, 0, none⟩) zg550.length ((u0.length : Int).toNat)⟩, ⟨10, [], .pointer (some ⟨b124, 0, none⟩)⟩, ⟨22, [], .slice ao4 u1.length cap5⟩, ⟨23, [], .int .i64 (u1.length : Int)⟩, ⟨24, [], .int .i64 x24⟩, ⟨54, [], ud54⟩, ⟨55, [], ud55⟩, ⟨56, [], ud56⟩, ⟨57, [], .slice (some ⟨g55, 0, none⟩) zg550.length ((u0.length : Int).toNat)⟩, ⟨58, [], .pointer (some ⟨b124, 0, none⟩)⟩, ⟨59, [], .int .i64 q115.Task⟩, ⟨60, [], .pointer (some ⟨g55, q115.Task.toNat * 1, none⟩)⟩, ⟨61, [], ud61⟩, ⟨62, [], ud62⟩, ⟨63, [], ud63⟩, ⟨64, [], ud64⟩, ⟨65, [], ud65⟩, ⟨66, [], ud66⟩, ⟨67, [], ud67⟩, ⟨68, [], ud68⟩] a310 := hF311.reg; clear hF311
      have hM313 : Mem w.heap.size [] w Z [.row b124 [.int .i64 q115.Task, .int .i64 q115.Asked, .int .i64 q115.From, .int .i64 q115.End] 48, .own (tyInt .i64) 3 (some ⟨g55, 0, none⟩) ((u0.length : Int).toNat) zg550, .own (tyInt .i64) 3 ao23 cap24 ((swaitsS u0 u1).1)] Z25 w1 := hMx; clear hMx
      refine nl (qnI (hJ _ _ ?_)); clear hJ J
      exact ⟨g55, g241, ud54, ud55, ud56, .slice (some ⟨g55, 0, none⟩) zg550.length ((u0.length : Int).toNat), .pointer (some ⟨b124, 0, none⟩), .int .i64 q115.Task, .pointer (some ⟨g55, q115.Task.toNat * 1, none⟩), ud61, ud62, ud63, ud64, ud65, ud66, ud67, ud68, .row b124 [.int .i64 q115.Task, .int .i64 q115.Asked, .int .i64 q115.From, .int .i64 q115.End] 48, .own (tyInt .i64) 3 (some ⟨g55, 0, none⟩) ((u0.length : Int).toNat) zg550, .own (tyInt .i64) 3 ao23 cap24 ((swaitsS u0 u1).1), hle252, hF312.reg, hM313.perm lpr, cu54, cu55, cu56, kf, kf, kf, kf, (nt hx7), cu62, cu63, cu64, cu65, cu66, (nt hx13), (nt hx14), rfl, kf, (nt hx15), rfl⟩
     ·
      obtain rfl := oj hi
      have hx6 := hpre 6 (by kernel_rfl)
      have hx5 := hcl 6 5 (by kernel_rfl) hx6
      have hx3 := hcl 6 3 (by kernel_rfl) hx6
      have hx4 := hcl 5 4 (by kernel_rfl) hx5
      have hx7 := hSi
      have hx13 := ngF hcl 13 7 hx7
      have hx14 := ngF hcl 14 7 hx7
      have hx15 := ngF hcl 15 7 hx7
      obtain rfl := cu57 hx3
      obtain rfl := cu58 hx4
      obtain rfl := cu59 hx5
      obtain rfl := cu60 hx6
      obtain rfl := cr0_0
      obtain rfl := cr1_0 hx15
      obtain rfl := cr2_0
      refine hG (any_step ?_); clear hG G; intro A J hJ
      have hle0 := Fz.le.trans hle0 hle252
      have hs315 := hs3.mono hle252
      have hs316 := hs6.mono hle252
      have hs317 := hP117.mono hle252
      obtain ⟨cs318, hT319, hcl320⟩ := own_el hMx 1 (T := (tyInt .i64)) (xs := zg550) rfl q115.Task.toNat hqd7_0
      obtain rfl : cs318 = ([.int .i64 qd7_0] : List Value) := hT319
      refine lc1 hFx 61 (.int .i64 qd7_0) (hcl320 0 _ rfl) rfl ?_; intro a321 hF322; clear hFx
      refine nl (qnI (hJ _ _ ?_)); clear hJ J
      exact ⟨g218, g241, ud54, ud55, ud56, .slice (some ⟨g55, 0, none⟩) zg550.length ((u0.length : Int).toNat), .pointer (some ⟨b124, 0, none⟩), .int .i64 q115.Task, .pointer (some ⟨g55, q115.Task.toNat * 1, none⟩), .int .i64 qd7_0, ud62, ud63, ud64, ud65, ud66, ud67, ud68, .row b124 [.int .i64 q115.Task, .int .i64 q115.Asked, .int .i64 q115.From, .int .i64 q115.End] 48, .own (tyInt .i64) 3 (some ⟨g55, 0, none⟩) ((u0.length : Int).toNat) zg550, .own (tyInt .i64) 3 ao23 cap24 ((swaitsS u0 u1).1), hle252, hF322.reg, hMx.perm lpr, cu54, cu55, cu56, kf, kf, kf, kf, kf, cu62, cu63, cu64, cu65, cu66, (nt hx13), (nt hx14), rfl, kf, (nt hx15), rfl⟩
     ·
      obtain rfl := oj hi
      have hx8 := hSi
      have hx9 := ngF hcl 9 8 hx8
      have hx12 := ngF hcl 12 9 hx9
      have hx13 := ngF hcl 13 12 hx12
      have hx14 := ngF hcl 14 8 hx8
      have hx15 := ngF hcl 15 8 hx8
      obtain rfl := cr0_0
      obtain rfl := cr1_0 hx15
      obtain rfl := cr2_0
      refine hG (any_step ?_); clear hG G; intro A J hJ
      have hle0 := Fz.le.trans hle0 hle252
      have hs324 := hs3.mono hle252
      have hs325 := hs6.mono hle252
      have hs326 := hP117.mono hle252
      refine s1 hFx 62 (.pointer (some ⟨b124, 3, none⟩)) ?_; intro a327 hF328; clear hFx
      refine nl (qnI (hJ _ _ ?_)); clear hJ J
      exact ⟨g218, g241, ud54, ud55, ud56, ud57, ud58, ud59, ud60, ud61, .pointer (some ⟨b124, 3, none⟩), ud63, ud64, ud65, ud66, ud67, ud68, .row b124 [.int .i64 q115.Task, .int .i64 q115.Asked, .int .i64 q115.From, .int .i64 q115.End] 48, .own (tyInt .i64) 3 (some ⟨g55, 0, none⟩) ((u0.length : Int).toNat) zg550, .own (tyInt .i64) 3 ao23 cap24 ((swaitsS u0 u1).1), hle252, hF328.reg, hMx.perm lpr, cu54, cu55, cu56, cu57, cu58, cu59, cu60, cu61, kf, (nt hx9), cu64, cu65, (nt hx12), (nt hx13), (nt hx14), rfl, kf, (nt hx15), rfl⟩
     ·
      obtain rfl := oj hi
      have hx8 := hpre 8 (by kernel_rfl)
      have hx9 := hSi
      have hx12 := ngF hcl 12 9 hx9
      have hx13 := ngF hcl 13 12 hx12
      have hx14 := ngF hcl 14 9 hx9
      have hx15 := ngF hcl 15 9 hx9
      obtain rfl := cu62 hx8
      obtain rfl := cr0_0
      obtain rfl := cr1_0 hx15
      obtain rfl := cr2_0
      refine hG (any_step ?_); clear hG G; intro A J hJ
      have hle0 := Fz.le.trans hle0 hle252
      have hs330 := hs3.mono hle252
      have hs331 := hs6.mono hle252
      have hs332 := hP117.mono hle252
      refine l1 hFx hMx 63 0 3 (.int .i64 q115.End) rfl rfl ?_; intro a333 hF334; clear hFx
      refine nl (qnI (hJ _ _ ?_)); clear hJ J
      exact ⟨g218, g241, ud54, ud55, ud56, ud57, ud58, ud59, ud60, ud61, .pointer (some ⟨b124, 3, none⟩), .int .i64 q115.End, ud64, ud65, ud66, ud67, ud68, .row b124 [.int .i64 q115.Task, .int .i64 q115.Asked, .int .i64 q115.From, .int .i64 q115.End] 48, .own (tyInt .i64) 3 (some ⟨g55, 0, none⟩) ((u0.length : Int).toNat) zg550, .own (tyInt .i64) 3 ao23 cap24 ((swaitsS u0 u1).1), hle252, hF334.reg, hMx.perm lpr, cu54, cu55, cu56, cu57, cu58, cu59, cu60, cu61, kf, kf, cu64, cu65, (nt hx12), (nt hx13), (nt hx14), rfl, kf, (nt hx15), rfl⟩
     ·
      obtain rfl := oj hi
      have hx10 := hSi
      have hx11 := ngF hcl 11 10 hx10
      have hx12 := ngF hcl 12 11 hx11
      have hx13 := ngF hcl 13 12 hx12
      have hx14 := ngF hcl 14 10 hx10
      have hx15 := ngF hcl 15 10 hx10
      obtain rfl := cr0_0
      obtain rfl := cr1_0 hx15
      obtain rfl := cr2_0
      refine hG (any_step ?_); clear hG G; intro A J hJ
      have hle0 := Fz.le.trans hle0 hle252
      have hs336 := hs3.mono hle252
      have hs337 := hs6.mono hle252
      have hs338 := hP117.mono hle252
      refine s1 hFx 64 (.pointer (some ⟨b124, 1, none⟩)) ?_; intro a339 hF340; clear hFx
      refine nl (qnI (hJ _ _ ?_)); clear hJ J
      exact ⟨g218, g241, ud54, ud55, ud56, ud57, ud58, ud59, ud60, ud61, ud62, ud63, .pointer (some ⟨b124, 1, none⟩), ud65, ud66, ud67, ud68, .row b124 [.int .i64 q115.Task, .int .i64 q115.Asked, .int .i64 q115.From, .int .i64 q115.End] 48, .own (tyInt .i64) 3 (some ⟨g55, 0, none⟩) ((u0.length : Int).toNat) zg550, .own (tyInt .i64) 3 ao23 cap24 ((swaitsS u0 u1).1), hle252, hF340.reg, hMx.perm lpr, cu54, cu55, cu56, cu57, cu58, cu59, cu60, cu61, cu62, cu63, kf, (nt hx11), (nt hx12), (nt hx13), (nt hx14), rfl, kf, (nt hx15), rfl⟩
     ·
      obtain rfl := oj hi
      have hx10 := hpre 10 (by kernel_rfl)
      have hx11 := hSi
      have hx12 := ngF hcl 12 11 hx11
      have hx13 := ngF hcl 13 12 hx12
      have hx14 := ngF hcl 14 11 hx11
      have hx15 := ngF hcl 15 11 hx11
      obtain rfl := cu64 hx10
      obtain rfl := cr0_0
      obtain rfl := cr1_0 hx15
      obtain rfl := cr2_0
      refine hG (any_step ?_); clear hG G; intro A J hJ
      have hle0 := Fz.le.trans hle0 hle252
      have hs342 := hs3.mono hle252
      have hs343 := hs6.mono hle252
      have hs344 := hP117.mono hle252
      refine l1 hFx hMx 65 0 1 (.int .i64 q115.Asked) rfl rfl ?_; intro a345 hF346; clear hFx
      refine nl (qnI (hJ _ _ ?_)); clear hJ J
      exact ⟨g218, g241, ud54, ud55, ud56, ud57, ud58, ud59, ud60, ud61, ud62, ud63, .pointer (some ⟨b124, 1, none⟩), .int .i64 q115.Asked, ud66, ud67, ud68, .row b124 [.int .i64 q115.Task, .int .i64 q115.Asked, .int .i64 q115.From, .int .i64 q115.End] 48, .own (tyInt .i64) 3 (some ⟨g55, 0, none⟩) ((u0.length : Int).toNat) zg550, .own (tyInt .i64) 3 ao23 cap24 ((swaitsS u0 u1).1), hle252, hF346.reg, hMx.perm lpr, cu54, cu55, cu56, cu57, cu58, cu59, cu60, cu61, cu62, cu63, kf, kf, (nt hx12), (nt hx13), (nt hx14), rfl, kf, (nt hx15), rfl⟩
     ·
      obtain rfl := oj hi
      have hx11 := hpre 11 (by kernel_rfl)
      have hx9 := hpre 9 (by kernel_rfl)
      have hx10 := hcl 11 10 (by kernel_rfl) hx11
      have hx8 := hcl 9 8 (by kernel_rfl) hx9
      have hx12 := hSi
      have hx13 := ngF hcl 13 12 hx12
      have hx14 := ngF hcl 14 12 hx12
      have hx15 := ngF hcl 15 12 hx12
      obtain rfl := cu62 hx8
      obtain rfl := cu63 hx9
      obtain rfl := cu64 hx10
      obtain rfl := cu65 hx11
      obtain rfl := cr0_0
      obtain rfl := cr1_0 hx15
      obtain rfl := cr2_0
      refine hG (any_step ?_); clear hG G; intro A J hJ
      have hle0 := Fz.le.trans hle0 hle252
      have hs348 := hs3.mono hle252
      have hs349 := hs6.mono hle252
      have hs350 := hP117.mono hle252
      refine s1 hFx 66 (.int .i64 (w64 (q115.End - q115.Asked))) ?_; intro a351 hF352; clear hFx
      refine nl (qnI (hJ _ _ ?_)); clear hJ J
      exact ⟨g218, g241, ud54, ud55, ud56, ud57, ud58, ud59, ud60, ud61, .pointer (some ⟨b124, 3, none⟩), .int .i64 q115.End, .pointer (some ⟨b124, 1, none⟩), .int .i64 q115.Asked, .int .i64 (w64 (q115.End - q115.Asked)), ud67, ud68, .row b124 [.int .i64 q115.Task, .int .i64 q115.Asked, .int .i64 q115.From, .int .i64 q115.End] 48, .own (tyInt .i64) 3 (some ⟨g55, 0, none⟩) ((u0.length : Int).toNat) zg550, .own (tyInt .i64) 3 ao23 cap24 ((swaitsS u0 u1).1), hle252, hF352.reg, hMx.perm lpr, cu54, cu55, cu56, cu57, cu58, cu59, cu60, cu61, kf, kf, kf, kf, kf, (nt hx13), (nt hx14), rfl, kf, (nt hx15), rfl⟩
     ·
      obtain rfl := oj hi
      have hx12 := hpre 12 (by kernel_rfl)
      have hx7 := hpre 7 (by kernel_rfl)
      have hx11 := hcl 12 11 (by kernel_rfl) hx12
      have hx9 := hcl 12 9 (by kernel_rfl) hx12
      have hx6 := hcl 7 6 (by kernel_rfl) hx7
      have hx10 := hcl 11 10 (by kernel_rfl) hx11
      have hx8 := hcl 9 8 (by kernel_rfl) hx9
      have hx5 := hcl 6 5 (by kernel_rfl) hx6
      have hx3 := hcl 6 3 (by kernel_rfl) hx6
      have hx4 := hcl 5 4 (by kernel_rfl) hx5
      have hx13 := hSi
      have hx14 := ngF hcl 14 13 hx13
      have hx15 := ngF hcl 15 13 hx13
      obtain rfl := cu57 hx3
      obtain rfl := cu58 hx4
      obtain rfl := cu59 hx5
      obtain rfl := cu60 hx6
      obtain rfl := cu61 hx7
      obtain rfl := cu62 hx8
      obtain rfl := cu63 hx9
      obtain rfl := cu64 hx10
      obtain rfl := cu65 hx11
      obtain rfl := cu66 hx12
      obtain rfl := cr0_0
      obtain rfl := cr1_0 hx15
      obtain rfl := cr2_0
      refine hG (any_step ?_); clear hG G; intro A J hJ
      have hle0 := Fz.le.trans hle0 hle252
      have hs354 := hs3.mono hle252
      have hs355 := hs6.mono hle252
      have hs356 := hP117.mono hle252
      refine st hFx (.int .i64 (max qd7_0 (w64 (q115.End - q115.Asked)))) (nog rfl _) rfl (by kernel_rfl) (re_ (p0 hFx (r := .ok (.value (.int .i64 (if qd7_0 < (w64 (q115.End - q115.Asked)) then (w64 (q115.End - q115.Asked)) else qd7_0))) w1) (by kernel_rfl)) (by rw [imax])) ?_; intro a357 hF358; clear hFx
      refine nl (qnI (hJ _ _ ?_)); clear hJ J
      exact ⟨g218, g241, ud54, ud55, ud56, .slice (some ⟨g55, 0, none⟩) zg550.length ((u0.length : Int).toNat), .pointer (some ⟨b124, 0, none⟩), .int .i64 q115.Task, .pointer (some ⟨g55, q115.Task.toNat * 1, none⟩), .int .i64 qd7_0, .pointer (some ⟨b124, 3, none⟩), .int .i64 q115.End, .pointer (some ⟨b124, 1, none⟩), .int .i64 q115.Asked, .int .i64 (w64 (q115.End - q115.Asked)), .int .i64 (max qd7_0 (w64 (q115.End - q115.Asked))), ud68, .row b124 [.int .i64 q115.Task, .int .i64 q115.Asked, .int .i64 q115.From, .int .i64 q115.End] 48, .own (tyInt .i64) 3 (some ⟨g55, 0, none⟩) ((u0.length : Int).toNat) zg550, .own (tyInt .i64) 3 ao23 cap24 ((swaitsS u0 u1).1), hle252, hF358.reg, hMx.perm lpr, cu54, cu55, cu56, kf, kf, kf, kf, kf, kf, kf, kf, kf, kf, kf, (nt hx14), rfl, kf, (nt hx15), rfl⟩
     ·
      obtain rfl := oj hi
      have hx13 := hpre 13 (by kernel_rfl)
      have hx12 := hpre 12 (by kernel_rfl)
      have hx11 := hpre 11 (by kernel_rfl)
      have hx10 := hpre 10 (by kernel_rfl)
      have hx9 := hpre 9 (by kernel_rfl)
      have hx8 := hpre 8 (by kernel_rfl)
      have hx7 := hpre 7 (by kernel_rfl)
      have hx6 := hpre 6 (by kernel_rfl)
      have hx5 := hpre 5 (by kernel_rfl)
      have hx4 := hpre 4 (by kernel_rfl)
      have hx3 := hpre 3 (by kernel_rfl)
      have hx2 := hpre 2 (by kernel_rfl)
      have hx1 := hpre 1 (by kernel_rfl)
      have hx0 := hpre 0 (by kernel_rfl)
      have hx14 := hSi
      have hx15 := ngF hcl 15 14 hx14
      obtain rfl := cu54 hx0
      obtain rfl := cu55 hx1
      obtain rfl := cu56 hx2
      obtain rfl := cu57 hx3
      obtain rfl := cu58 hx4
      obtain rfl := cu59 hx5
      obtain rfl := cu60 hx6
      obtain rfl := cu61 hx7
      obtain rfl := cu62 hx8
      obtain rfl := cu63 hx9
      obtain rfl := cu64 hx10
      obtain rfl := cu65 hx11
      obtain rfl := cu66 hx12
      obtain rfl := cu67 hx13
      obtain rfl := cr0_0
      obtain rfl := cr1_0 hx15
      obtain rfl := cr2_0
      refine hG (any_step ?_); clear hG G; intro A J hJ
      have hle0 := Fz.le.trans hle0 hle252
      have hs360 := hs3.mono hle252
      have hs361 := hs6.mono hle252
      have hs362 := hP117.mono hle252
      refine ixo hFx hMx 1 (T := (tyInt .i64)) (xs := zg550) q115.Task (by simpa only [List.length_set] using hcd14_0) (k := .i64) (e := 3) (bytes := 8) (nog rfl _) rfl (by kernel_rfl) rfl (by kernel_rfl) (by kernel_rfl) rfl (by kernel_rfl) ?_; intro g363 a365 hg364 hF366; clear hFx
      obtain rfl : g55 = g363 := by simpa using hg364
      have hF367 : Fr 94 [] [⟨0, [], .slice ao1 u0.length cap2⟩, ⟨5, [], .slice ao23 ((swaitsS u0 u1).1).length cap24⟩, ⟨6, [], .int .i64 ((swaitsS u0 u1).2)⟩, ⟨7, [], .int .i64 x7⟩, ⟨8, [], .slice (some ⟨g55, 0, none⟩) zg550.length ((u0.length : Int).toNat)⟩, ⟨10, [], .pointer (some ⟨b124, 0, none⟩)⟩, ⟨22, [], .slice ao4 u1.length cap5⟩, ⟨23, [], .int .i64 (u1.length : Int)⟩, ⟨24, [], .int .i64 x24⟩, ⟨54, [], .slice (some ⟨g55, 0, none⟩) zg550.length ((u0.length : Int).toNat)⟩, ⟨55, [], .pointer (some ⟨b124, 0, none⟩)⟩, ⟨56, [], .int .i64 q115.Task⟩, ⟨57, [], .slice (some ⟨g55, 0, none⟩) zg550.length ((u0.length : Int).toNat)⟩, ⟨58, [], .pointer (some ⟨b124, 0, none⟩)⟩, ⟨59, [], .int .i64 q115.Task⟩, ⟨60, [], .pointer (some ⟨g55, q115.Task.toNat * 1, none⟩)⟩, ⟨61, [], .int .i64 qd7_0⟩, ⟨62, [], .pointer (some ⟨b124, 3, none⟩)⟩, ⟨63, [], .int .i64 q115.End⟩, ⟨64, [], .pointer (some ⟨b124, 1, none⟩)⟩, ⟨65, [], .int .i64 q115.Asked⟩, ⟨66, [], .int .i64 (w64 (q115.End - q115.Asked))⟩, ⟨67, [], .int .i64 (max qd7_0 (w64 (q115.End - q115.Asked)))⟩, ⟨68, [], .pointer (some ⟨g55, q115.Task.toNat * 1, none⟩)⟩] a365 := hF366.reg; clear hF366
      have hM368 : Mem w.heap.size [] w Z [.row b124 [.int .i64 q115.Task, .int .i64 q115.Asked, .int .i64 q115.From, .int .i64 q115.End] 48, .own (tyInt .i64) 3 (some ⟨g55, 0, none⟩) ((u0.length : Int).toNat) zg550, .own (tyInt .i64) 3 ao23 cap24 ((swaitsS u0 u1).1)] Z25 w1 := hMx; clear hMx
      refine nl (qnI (hJ _ _ ?_)); clear hJ J
      exact ⟨g218, g55, .slice (some ⟨g55, 0, none⟩) zg550.length ((u0.length : Int).toNat), .pointer (some ⟨b124, 0, none⟩), .int .i64 q115.Task, .slice (some ⟨g55, 0, none⟩) zg550.length ((u0.length : Int).toNat), .pointer (some ⟨b124, 0, none⟩), .int .i64 q115.Task, .pointer (some ⟨g55, q115.Task.toNat * 1, none⟩), .int .i64 qd7_0, .pointer (some ⟨b124, 3, none⟩), .int .i64 q115.End, .pointer (some ⟨b124, 1, none⟩), .int .i64 q115.Asked, .int .i64 (w64 (q115.End - q115.Asked)), .int .i64 (max qd7_0 (w64 (q115.End - q115.Asked))), .pointer (some ⟨g55, q115.Task.toNat * 1, none⟩), .row b124 [.int .i64 q115.Task, .int .i64 q115.Asked, .int .i64 q115.From, .int .i64 q115.End] 48, .own (tyInt .i64) 3 (some ⟨g55, 0, none⟩) ((u0.length : Int).toNat) zg550, .own (tyInt .i64) 3 ao23 cap24 ((swaitsS u0 u1).1), hle252, hF367.reg, hM368.perm lpr, kf, kf, kf, kf, kf, kf, kf, kf, kf, kf, kf, kf, kf, kf, kf, rfl, kf, (nt hx15), rfl⟩
     ·
      obtain rfl := oj hi
      have hx14 := hpre 14 (by kernel_rfl)
      have hx13 := hpre 13 (by kernel_rfl)
      have hx12 := hpre 12 (by kernel_rfl)
      have hx11 := hpre 11 (by kernel_rfl)
      have hx10 := hpre 10 (by kernel_rfl)
      have hx9 := hpre 9 (by kernel_rfl)
      have hx8 := hpre 8 (by kernel_rfl)
      have hx7 := hpre 7 (by kernel_rfl)
      have hx6 := hpre 6 (by kernel_rfl)
      have hx5 := hpre 5 (by kernel_rfl)
      have hx4 := hpre 4 (by kernel_rfl)
      have hx3 := hpre 3 (by kernel_rfl)
      have hx2 := hpre 2 (by kernel_rfl)
      have hx1 := hpre 1 (by kernel_rfl)
      have hx0 := hpre 0 (by kernel_rfl)
      have hx15 := hSi
      obtain rfl := cu54 hx0
      obtain rfl := cu55 hx1
      obtain rfl := cu56 hx2
      obtain rfl := cu57 hx3
      obtain rfl := cu58 hx4
      obtain rfl := cu59 hx5
      obtain rfl := cu60 hx6
      obtain rfl := cu61 hx7
      obtain rfl := cu62 hx8
      obtain rfl := cu63 hx9
      obtain rfl := cu64 hx10
      obtain rfl := cu65 hx11
      obtain rfl := cu66 hx12
      obtain rfl := cu67 hx13
      obtain rfl := cu68 hx14
      obtain rfl := cr0_0
      obtain rfl := cr1_0 hx15
      obtain rfl := cr2_0
      refine hG (any_step ?_); clear hG G; intro A J hJ
      have hle0 := Fz.le.trans hle0 hle252
      have hs370 := hs3.mono hle252
      have hs371 := hs6.mono hle252
      have hs372 := hP117.mono hle252
      refine so hFx hMx 1 (T := (tyInt .i64)) (xs := zg550) q115.Task.toNat (max qd7_0 (w64 (q115.End - q115.Asked))) (u := .int .i64 (max qd7_0 (w64 (q115.End - q115.Asked)))) (nog rfl _) rfl rfl (by kernel_rfl) rfl (by kernel_rfl) rfl (by kernel_rfl) (by first | omega | (simp only [List.length_set] at *; omega)) rfl ?_; intro wd373 hM374; clear hMx
      refine nl (qnI (hJ _ _ ?_)); clear hJ J
      exact ⟨g218, g241, .slice (some ⟨g55, 0, none⟩) zg550.length ((u0.length : Int).toNat), .pointer (some ⟨b124, 0, none⟩), .int .i64 q115.Task, .slice (some ⟨g55, 0, none⟩) zg550.length ((u0.length : Int).toNat), .pointer (some ⟨b124, 0, none⟩), .int .i64 q115.Task, .pointer (some ⟨g55, q115.Task.toNat * 1, none⟩), .int .i64 qd7_0, .pointer (some ⟨b124, 3, none⟩), .int .i64 q115.End, .pointer (some ⟨b124, 1, none⟩), .int .i64 q115.Asked, .int .i64 (w64 (q115.End - q115.Asked)), .int .i64 (max qd7_0 (w64 (q115.End - q115.Asked))), .pointer (some ⟨g55, q115.Task.toNat * 1, none⟩), .row b124 [.int .i64 q115.Task, .int .i64 q115.Asked, .int .i64 q115.From, .int .i64 q115.End] 48, .own (tyInt .i64) 3 (some ⟨g55, 0, none⟩) ((u0.length : Int).toNat) (zg550.set q115.Task.toNat (max qd7_0 (w64 (q115.End - q115.Asked)))), .own (tyInt .i64) 3 ao23 cap24 ((swaitsS u0 u1).1), hle252, hFx.reg, hM374.perm lpr, kf, kf, kf, kf, kf, kf, kf, kf, kf, kf, kf, kf, kf, kf, kf, rfl, nu, kf, rfl⟩
    case hE =>
     intro S hS a376 wd377 hI; refine Go.Sy.hid ?_; intro G hG; obtain ⟨g218, g241, ud54, ud55, ud56, ud57, ud58, ud59, ud60, ud61, ud62, ud63, ud64, ud65, ud66, ud67, ud68, rh0, rh1, rh2, hle252, hFx, hMx, cu54, cu55, cu56, cu57, cu58, cu59, cu60, cu61, cu62, cu63, cu64, cu65, cu66, cu67, cu68, cr0_0, cr1_0, cr1_1, hI⟩ := hI; have cr2_0 := hI; clear hI; refine hG ?_; clear hG G
     obtain rfl := cu54 (hS 0 (by decide))
     obtain rfl := cu55 (hS 1 (by decide))
     obtain rfl := cu56 (hS 2 (by decide))
     obtain rfl := cu57 (hS 3 (by decide))
     obtain rfl := cu58 (hS 4 (by decide))
     obtain rfl := cu59 (hS 5 (by decide))
     obtain rfl := cu60 (hS 6 (by decide))
     obtain rfl := cu61 (hS 7 (by decide))
     obtain rfl := cu62 (hS 8 (by decide))
     obtain rfl := cu63 (hS 9 (by decide))
     obtain rfl := cu64 (hS 10 (by decide))
     obtain rfl := cu65 (hS 11 (by decide))
     obtain rfl := cu66 (hS 12 (by decide))
     obtain rfl := cu67 (hS 13 (by decide))
     obtain rfl := cu68 (hS 14 (by decide))
     obtain rfl := cr0_0
     obtain rfl := cr1_1 (hS 15 (by decide))
     obtain rfl := cr2_0
     have hle0 := Fz.le.trans hle0 hle252
     have hs378 := hs3.mono hle252
     have hs379 := hs6.mono hle252
     have hs380 := hP117.mono hle252
     have hl381 : (zg550.set q115.Task.toNat (max qd7_0 (w64 (q115.End - q115.Asked)))).length = zg550.length := by simp; try omega
     have hF382 : Fr 94 [] [⟨0, [], .slice ao1 u0.length cap2⟩, ⟨5, [], .slice ao23 ((swaitsS u0 u1).1).length cap24⟩, ⟨6, [], .int .i64 ((swaitsS u0 u1).2)⟩, ⟨7, [], .int .i64 x7⟩, ⟨8, [], .slice (some ⟨g55, 0, none⟩) (zg550.set q115.Task.toNat (max qd7_0 (w64 (q115.End - q115.Asked)))).length ((u0.length : Int).toNat)⟩, ⟨10, [], .pointer (some ⟨b124, 0, none⟩)⟩, ⟨22, [], .slice ao4 u1.length cap5⟩, ⟨23, [], .int .i64 (u1.length : Int)⟩, ⟨24, [], .int .i64 x24⟩, ⟨54, [], .slice (some ⟨g55, 0, none⟩) (zg550.set q115.Task.toNat (max qd7_0 (w64 (q115.End - q115.Asked)))).length ((u0.length : Int).toNat)⟩, ⟨55, [], .pointer (some ⟨b124, 0, none⟩)⟩, ⟨56, [], .int .i64 q115.Task⟩, ⟨57, [], .slice (some ⟨g55, 0, none⟩) (zg550.set q115.Task.toNat (max qd7_0 (w64 (q115.End - q115.Asked)))).length ((u0.length : Int).toNat)⟩, ⟨58, [], .pointer (some ⟨b124, 0, none⟩)⟩, ⟨59, [], .int .i64 q115.Task⟩, ⟨60, [], .pointer (some ⟨g55, q115.Task.toNat * 1, none⟩)⟩, ⟨61, [], .int .i64 qd7_0⟩, ⟨62, [], .pointer (some ⟨b124, 3, none⟩)⟩, ⟨63, [], .int .i64 q115.End⟩, ⟨64, [], .pointer (some ⟨b124, 1, none⟩)⟩, ⟨65, [], .int .i64 q115.Asked⟩, ⟨66, [], .int .i64 (w64 (q115.End - q115.Asked))⟩, ⟨67, [], .int .i64 (max qd7_0 (w64 (q115.End - q115.Asked)))⟩, ⟨68, [], .pointer (some ⟨g55, q115.Task.toNat * 1, none⟩)⟩] a376 := by rw [hl381]; exact hFx.reg
     clear hFx
     refine ibn ?_
     refine rd ?_
     exact hJ97 x7 (zg550.set q115.Task.toNat (max qd7_0 (w64 (q115.End - q115.Asked)))) hp251 _ _ ((hF382.reg).anyβ _ (by kernel_rfl)) (hMx.keep (List.Sublist.cons _ (List.Sublist.cons_cons _ (List.Sublist.cons_cons _ (List.Sublist.slnil)))))
   ·
    have hp383 := hp196.2 hb203; clear hp196
    refine wp_skip ?_
    refine ibn ?_
    refine rd ?_
    exact hJ97 x7 zg550 hp383 _ _ ((hF202.reg).anyβ _ (by kernel_rfl)) (hM131.keep (List.Sublist.cons _ (List.Sublist.cons_cons _ (List.Sublist.cons_cons _ (List.Sublist.slnil)))))
 ·
  have hp384 := hp84.2 hb88; clear hp84
  refine wp_exit ?_
  refine thx ?_
  refine thx ?_
  refine ibx ?_
  refine thn ?_
  refine wp_seq ?_
  refine sqH ?_; intro hQ385Q hQ385
  refine fcl hF87 hM83 (.bool true) 19 #[] (nog rfl _) rfl (by kernel_rfl) (fun _ => by kernel_rfl) (played_fun  _ _ hM83.fz) ?_; intro a386 wd388 hF387 hM389; clear hF87 hM83
  refine s1 hF387 71 (.bool false) ?_; intro a390 hF391; clear hF387
  refine s1 hF391 72 (.bool false) ?_; intro a392 hF393; clear hF391
  refine st hF393 (.int .i64 x7) (by rw [wanted_of hF393 (b := false) rfl rfl (by kernel_rfl) (by kernel_rfl)]; rfl) rfl (by kernel_rfl) (p0 hF393 (by kernel_rfl)) ?_; intro a394 hF395; clear hF393
  refine st hF395 (.bool (x7 != 0)) (by rw [wanted_of hF395 (b := false) rfl rfl (by kernel_rfl) (by kernel_rfl)]; rfl) rfl (by kernel_rfl) (p0 hF395 (by kernel_rfl)) ?_; intro a396 hF397; clear hF395
  refine s1 hF397 75 (.bool (x7 != 0)) ?_; intro a398 hF399; clear hF397
  refine nlH (hQ385 _ _ ?_); clear hQ385 hQ385Q
  refine cd hF399 (t := x7 != 0) (by kernel_rfl) (fun hb400 => ?_) (fun hb400 => ?_)
  ·
   have hp401 := hp384.1 hb400; clear hp384
   refine sqH ?_; intro hQ402Q hQ402
   refine fcl hF399 hM389 (.bool true) 19 #[] (nog rfl _) rfl (by kernel_rfl) (fun _ => by kernel_rfl) (played_fun  _ _ hM389.fz) ?_; intro a403 wd405 hF404 hM406; clear hF399 hM389
   refine s1 hF404 77 (.bool true) ?_; intro a407 hF408; clear hF404
   refine st hF408 (.int .i64 ((swaitsS u0 u1).2)) (by rw [wanted_of hF408 (b := true) rfl rfl (by kernel_rfl) (by kernel_rfl)]; rfl) rfl (by kernel_rfl) (p0 hF408 (by kernel_rfl)) ?_; intro a409 hF410; clear hF408
   refine st hF410 (.int .i64 x7) (by rw [wanted_of hF410 (b := true) rfl rfl (by kernel_rfl) (by kernel_rfl)]; rfl) rfl (by kernel_rfl) (p0 hF410 (by kernel_rfl)) ?_; intro a411 hF412; clear hF410
   refine st hF412 (.bool (((swaitsS u0 u1).2) == x7)) (by rw [wanted_of hF412 (b := true) rfl rfl (by kernel_rfl) (by kernel_rfl)]; rfl) rfl (by kernel_rfl) (p0 hF412 (by kernel_rfl)) ?_; intro a413 hF414; clear hF412
   refine s1 hF414 81 (.bool (((swaitsS u0 u1).2) == x7)) ?_; intro a415 hF416; clear hF414
   refine s1 hF416 82 (.bool (((swaitsS u0 u1).2) == x7)) ?_; intro a417 hF418; clear hF416
   have hF419 := hF418.atom ((((swaitsS u0 u1).2) == x7) == true) (by kernel_rfl); clear hF418
   refine gp hF419 83 0 [] (((swaitsS u0 u1).2) == x7) (.slice ao23 ((swaitsS u0 u1).1).length cap24) rfl rfl ?_; intro a420 hF421; clear hF419
   refine gp hF421 84 0 [] (((swaitsS u0 u1).2) == x7) (.int .i64 (((swaitsS u0 u1).1).length : Int)) rfl rfl ?_; intro a422 hF423; clear hF421
   refine gp hF423 85 0 [] (((swaitsS u0 u1).2) == x7) (.bool ((((swaitsS u0 u1).1).length : Int) == 0)) rfl rfl ?_; intro a424 hF425; clear hF423
   refine st hF425 (.bool ((((swaitsS u0 u1).2) == x7) && ((((swaitsS u0 u1).1).length : Int) == 0))) (nog rfl _) rfl (by kernel_rfl) (pk_and hF425 (g := []) (m := 0) (b := ((swaitsS u0 u1).2) == x7) (v := (((swaitsS u0 u1).1).length : Int) == 0) rfl (by kernel_rfl) (by kernel_rfl) (by kernel_rfl) rfl) ?_; intro a426 hF427; clear hF425
   refine s1 hF427 4 (.bool ((((swaitsS u0 u1).2) == x7) && ((((swaitsS u0 u1).1).length : Int) == 0))) ?_; intro a428 hF429; clear hF427
   refine nlH (hQ402 _ _ ?_); clear hQ402 hQ402Q
   refine wp_ret ?_
   refine thr ?_
   refine rt (fn := Try.f6) (v := .bool ((((swaitsS u0 u1).2) == x7) && ((((swaitsS u0 u1).1).length : Int) == 0))) hF429 (re1 hF429 (fn := Try.f6) rfl (by kernel_rfl)) ?_
   exact ⟨(((swaitsS u0 u1).2) == x7) && ((((swaitsS u0 u1).1).length : Int) == 0), rfl, hp401, hM406.below⟩
  ·
   have hp430 := hp384.2 hb400; clear hp384
   refine wp_skip ?_
   refine thn ?_
   refine sqH ?_; intro hQ431Q hQ431
   refine s1 hF399 87 (.int .i64 ((swaitsS u0 u1).2)) ?_; intro a432 hF433; clear hF399
   refine s1 hF433 88 (.bool (((swaitsS u0 u1).2) == 0)) ?_; intro a434 hF435; clear hF433
   refine s1 hF435 89 (.bool (((swaitsS u0 u1).2) == 0)) ?_; intro a436 hF437; clear hF435
   have hF438 := hF437.atom ((((swaitsS u0 u1).2) == 0) == true) (by kernel_rfl); clear hF437
   refine gp hF438 90 0 [] (((swaitsS u0 u1).2) == 0) (.slice ao23 ((swaitsS u0 u1).1).length cap24) rfl rfl ?_; intro a439 hF440; clear hF438
   refine gp hF440 91 0 [] (((swaitsS u0 u1).2) == 0) (.slice (some ⟨g55, 0, none⟩) zg550.length ((u0.length : Int).toNat)) rfl rfl ?_; intro a441 hF442; clear hF440
   obtain ⟨Z443, hle444, hM445, hs446⟩ := hM389.freeze 1 rfl
   replace hs3 := hs3.mono hle444
   replace hs6 := hs6.mono hle444
   replace hle0 := Fz.le.trans hle0 hle444
   have hM447 : Mem w.heap.size [] w Z [.own (tyInt .i64) 3 (some ⟨g55, 0, none⟩) ((u0.length : Int).toNat) zg550] Z443 wd388 := hM445; clear hM445
   obtain ⟨Z448, hle449, hM450, hs451⟩ := hM447.freeze 0 rfl
   replace hs3 := hs3.mono hle449
   replace hs6 := hs6.mono hle449
   replace hs446 := hs446.mono hle449
   replace hle0 := Fz.le.trans hle0 hle449
   have hM452 : Mem w.heap.size [] w Z [] Z448 wd388 := hM450; clear hM450
   refine gcl hF442 hM452 (.bool (ieqS ((swaitsS u0 u1).1) zg550)) 22 #[.slice ao23 ((swaitsS u0 u1).1).length cap24, .slice (some ⟨g55, 0, none⟩) zg550.length ((u0.length : Int).toNat)] (m := 0) (cj := []) (bj := ((swaitsS u0 u1).2) == 0) rfl rfl (by kernel_rfl) rfl (by kernel_rfl) (by kernel_rfl) (by kernel_rfl) (fun _ => by kernel_rfl) (fun hg => ieq_fun ((swaitsS u0 u1).1) zg550 ao23 cap24 (some ⟨g55, 0, none⟩) ((u0.length : Int).toNat) _ _ hs446 hs451 hM452.fz) ?_; intro a453 wd455 hF454 hM456; clear hF442 hM452
   refine st hF454 (.bool ((((swaitsS u0 u1).2) == 0) && (ieqS ((swaitsS u0 u1).1) zg550))) (nog rfl _) rfl (by kernel_rfl) (pk_and hF454 (g := []) (m := 0) (b := ((swaitsS u0 u1).2) == 0) (v := (ieqS ((swaitsS u0 u1).1) zg550)) rfl (by kernel_rfl) (by kernel_rfl) (by kernel_rfl) rfl) ?_; intro a457 hF458; clear hF454
   refine s1 hF458 4 (.bool ((((swaitsS u0 u1).2) == 0) && (ieqS ((swaitsS u0 u1).1) zg550))) ?_; intro a459 hF460; clear hF458
   refine nlH (hQ431 _ _ ?_); clear hQ431 hQ431Q
   refine wp_ret ?_
   refine rt (fn := Try.f6) (v := .bool ((((swaitsS u0 u1).2) == 0) && (ieqS ((swaitsS u0 u1).1) zg550))) hF460 (re1 hF460 (fn := Try.f6) rfl (by kernel_rfl)) ?_
   exact ⟨(((swaitsS u0 u1).2) == 0) && (ieqS ((swaitsS u0 u1).1) zg550), rfl, hp430, hM456.below⟩

end Go.Proofs.Ytginlmgkimfjmaa
