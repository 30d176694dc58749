/- The walks, made by program: each call does what its pure predicate says. -/
import Derived.Test.YtfafpnacflcgmaaDoorPE
import Derived.Test.YtfafpnacflcgmaaDoorWD
set_option linter.unusedVariables false
set_option linter.unusedSimpArgs false
namespace Go.Proofs.YtfafpnacflcgmaaDoor
open Go.Sy Go.RowKit
theorem stuffed_fun   (Z : Fz) (w : World)  (hZ : Z.on w) : Calls Tryd.prog 28 #[] w fun e w' => e = .returned (.bool true) ∧ Below w.heap.size w w' :=
  (stuffed_walk   Z w  hZ (stuffed_ok )).mono fun _ _ ⟨r, he, hk, hb⟩ => ⟨by subst hk; exact he, hb⟩

set_option maxRecDepth 100000 in
set_option maxHeartbeats 0 in
theorem LJoin_walk (u0 : List UInt8) (u1 : List UInt8)  (Z : Fz) (w : World)  (hZ : Z.on w) {K : Bool → Prop} (hp : LJoin_vc u0 u1 K) : Calls Tryd.prog 3 #[str u0, str u1] w fun e w' => ∃ r : Bool, e = .returned (.bool r) ∧ K r ∧ Below w.heap.size w w' := by
 refine enter0 Tryd.func3 rfl rfl (by kernel_rfl) ?_; intro a0 hF0; have hM0 := Mem.start w Z hZ; have hle0 := Fz.le.refl Z
 refine sqH ?_; intro hQ1Q hQ1
 refine s1 hF0 4 (.bool false) ?_; intro a2 hF3; clear hF0
 refine nlH (hQ1 _ _ ?_); clear hQ1 hQ1Q
 refine sqH ?_; intro hQ4Q hQ4
 refine s1 hF3 11 (str u0) ?_; intro a5 hF6; clear hF3
 refine fcl hF6 hM0 (.tuple #[.int .i64 ((bnumberS u0).1), .int .i64 ((bnumberS u0).2)]) 13 #[str u0] (nog rfl _) rfl (by kernel_rfl) (fun _ => by kernel_rfl) (bnumber_fun u0 _ _ hM0.fz) ?_; intro a7 wd9 hF8 hM10; clear hF6 hM0
 refine s1 hF8 10 (.tuple #[.int .i64 ((bnumberS u0).1), .int .i64 ((bnumberS u0).2)]) ?_; intro a11 hF12; clear hF8
 refine s1 hF12 13 (.int .i64 ((bnumberS u0).1)) ?_; intro a13 hF14; clear hF12
 refine s1 hF14 14 (.int .i64 ((bnumberS u0).2)) ?_; intro a15 hF16; clear hF14
 refine s1 hF16 5 (.int .i64 ((bnumberS u0).1)) ?_; intro a17 hF18; clear hF16
 refine s1 hF18 6 (.int .i64 ((bnumberS u0).2)) ?_; intro a19 hF20; clear hF18
 refine nlH (hQ4 _ _ ?_); clear hQ4 hQ4Q
 refine sqH ?_; intro hQ21Q hQ21
 refine s1 hF20 16 (str u1) ?_; intro a22 hF23; clear hF20
 refine fcl hF23 hM10 (.tuple #[.int .i64 ((bnumberS u1).1), .int .i64 ((bnumberS u1).2)]) 13 #[str u1] (nog rfl _) rfl (by kernel_rfl) (fun _ => by kernel_rfl) (bnumber_fun u1 _ _ hM10.fz) ?_; intro a24 wd26 hF25 hM27; clear hF23 hM10
 refine s1 hF25 15 (.tuple #[.int .i64 ((bnumberS u1).1), .int .i64 ((bnumberS u1).2)]) ?_; intro a28 hF29; clear hF25
 refine s1 hF29 18 (.int .i64 ((bnumberS u1).1)) ?_; intro a30 hF31; clear hF29
 refine s1 hF31 19 (.int .i64 ((bnumberS u1).2)) ?_; intro a32 hF33; clear hF31
 refine s1 hF33 7 (.int .i64 ((bnumberS u1).1)) ?_; intro a34 hF35; clear hF33
 refine s1 hF35 8 (.int .i64 ((bnumberS u1).2)) ?_; intro a36 hF37; clear hF35
 refine nlH (hQ21 _ _ ?_); clear hQ21 hQ21Q
 refine wp_seq ?_
 have hF38 : Fr 58 [] [⟨0, [], str u0⟩, ⟨1, [], str u1⟩, ⟨5, [], .int .i64 ((bnumberS u0).1)⟩, ⟨6, [], .int .i64 ((bnumberS u0).2)⟩, ⟨7, [], .int .i64 ((bnumberS u1).1)⟩, ⟨8, [], .int .i64 ((bnumberS u1).2)⟩] a36 := hF37.region (by kernel_rfl) (by kernel_rfl); clear hF37
 refine sqH ?_; intro hQ39Q hQ39
 refine fcl hF38 hM27 (.bool true) 14 #[] (nog rfl _) rfl (by kernel_rfl) (fun _ => by kernel_rfl) (rowed_fun  _ _ hM27.fz) ?_; intro a40 wd42 hF41 hM43; clear hF38 hM27
 refine s1 hF41 21 (.bool false) ?_; intro a44 hF45; clear hF41
 refine s1 hF45 22 (.bool false) ?_; intro a46 hF47; clear hF45
 refine st hF47 (.int .i64 ((bnumberS u0).2)) (by rw [wanted_of hF47 (b := false) rfl rfl (by kernel_rfl) (by kernel_rfl)]; rfl) rfl (by kernel_rfl) (p0 hF47 (by kernel_rfl)) ?_; intro a48 hF49; clear hF47
 refine st hF49 (.bool (((bnumberS u0).2) != 0)) (by rw [wanted_of hF49 (b := false) rfl rfl (by kernel_rfl) (by kernel_rfl)]; rfl) rfl (by kernel_rfl) (p0 hF49 (by kernel_rfl)) ?_; intro a50 hF51; clear hF49
 refine s1 hF51 25 (.bool (((bnumberS u0).2) != 0)) ?_; intro a52 hF53; clear hF51
 refine s1 hF53 26 (.bool (((bnumberS u0).2) != 0)) ?_; intro a54 hF55; clear hF53
 have hF56 := hF55.atom ((((bnumberS u0).2) != 0) == false) (by kernel_rfl); clear hF55
 refine gp hF56 27 0 [] (((bnumberS u0).2) != 0) (.int .i64 ((bnumberS u1).2)) rfl rfl ?_; intro a57 hF58; clear hF56
 refine gp hF58 28 0 [] (((bnumberS u0).2) != 0) (.bool (((bnumberS u1).2) != 0)) rfl rfl ?_; intro a59 hF60; clear hF58
 refine st hF60 (.bool ((((bnumberS u0).2) != 0) || (((bnumberS u1).2) != 0))) (nog rfl _) rfl (by kernel_rfl) (pk_or hF60 (g := []) (m := 0) (b := ((bnumberS u0).2) != 0) (v := ((bnumberS u1).2) != 0) rfl (by kernel_rfl) (by kernel_rfl) (by kernel_rfl) rfl) ?_; intro a61 hF62; clear hF60
 refine s1 hF62 30 (.bool ((((bnumberS u0).2) != 0) || (((bnumberS u1).2) != 0))) ?_; intro a63 hF64; clear hF62
 have hF65 := hF64.atom (((((bnumberS u0).2) != 0) || (((bnumberS u1).2) != 0)) == false) (by kernel_rfl); clear hF64
 refine gp hF65 31 1 [] ((((bnumberS u0).2) != 0) || (((bnumberS u1).2) != 0)) (str u0) rfl rfl ?_; intro a66 hF67; clear hF65
 refine gp hF67 32 1 [] ((((bnumberS u0).2) != 0) || (((bnumberS u1).2) != 0)) (.int .i64 (u0.length : Int)) rfl rfl ?_; intro a68 hF69; clear hF67
 refine gp hF69 33 1 [] ((((bnumberS u0).2) != 0) || (((bnumberS u1).2) != 0)) (str u1) rfl rfl ?_; intro a70 hF71; clear hF69
 refine gp hF71 34 1 [] ((((bnumberS u0).2) != 0) || (((bnumberS u1).2) != 0)) (.int .i64 (u1.length : Int)) rfl rfl ?_; intro a72 hF73; clear hF71
 refine gp hF73 35 1 [] ((((bnumberS u0).2) != 0) || (((bnumberS u1).2) != 0)) (.int .i64 (w64 ((u0.length : Int) + (u1.length : Int)))) rfl rfl ?_; intro a74 hF75; clear hF73
 refine gp hF75 36 1 [] ((((bnumberS u0).2) != 0) || (((bnumberS u1).2) != 0)) (.bool (decide ((w64 ((u0.length : Int) + (u1.length : Int))) > 62))) rfl rfl ?_; intro a76 hF77; clear hF75
 refine st hF77 (.bool (((((bnumberS u0).2) != 0) || (((bnumberS u1).2) != 0)) || (decide ((w64 ((u0.length : Int) + (u1.length : Int))) > 62)))) (nog rfl _) rfl (by kernel_rfl) (pk_or hF77 (g := []) (m := 1) (b := (((bnumberS u0).2) != 0) || (((bnumberS u1).2) != 0)) (v := decide ((w64 ((u0.length : Int) + (u1.length : Int))) > 62)) rfl (by kernel_rfl) (by kernel_rfl) (by kernel_rfl) rfl) ?_; intro a78 hF79; clear hF77
 refine nlH (hQ39 _ _ ?_); clear hQ39 hQ39Q
 refine cd hF79 (t := ((((bnumberS u0).2) != 0) || (((bnumberS u1).2) != 0)) || (decide ((w64 ((u0.length : Int) + (u1.length : Int))) > 62))) (by kernel_rfl) (fun hb80 => ?_) (fun hb80 => ?_)
 · -- yes
  have hp81 := hp.1 hb80; clear hp
  have hF82 : Fr 58 [] [] a78 := hF79.region (by kernel_rfl) (by kernel_rfl); clear hF79
  refine sqH ?_; intro hQ83Q hQ83
  refine fcl hF82 hM43 (.bool true) 14 #[] (nog rfl _) rfl (by kernel_rfl) (fun _ => by kernel_rfl) (rowed_fun  _ _ hM43.fz) ?_; intro a84 wd86 hF85 hM87; clear hF82 hM43
  refine s1 hF85 4 (.bool true) ?_; intro a88 hF89; clear hF85
  refine nlH (hQ83 _ _ ?_); clear hQ83 hQ83Q
  refine wp_ret ?_
  refine thr ?_
  refine rt (fn := Tryd.f3) (v := .bool true) hF89 (re1 hF89 (fn := Tryd.f3) rfl (by kernel_rfl)) ?_
  exact ⟨true, rfl, hp81, hM87.below⟩
 · -- no
  have hp90 := hp.2 hb80; clear hp
  refine wp_skip ?_
  refine thn ?_
  have hF91 : Fr 58 [] [⟨0, [], str u0⟩, ⟨1, [], str u1⟩, ⟨5, [], .int .i64 ((bnumberS u0).1)⟩, ⟨7, [], .int .i64 ((bnumberS u1).1)⟩] a78 := hF79.region (by kernel_rfl) (by kernel_rfl); clear hF79
  refine sqH ?_; intro hQ92Q hQ92
  refine s1 hF91 40 (str u0) ?_; intro a93 hF94; clear hF91
  refine s1 hF94 41 (str u1) ?_; intro a95 hF96; clear hF94
  have hc97 := hp90.1; have hp98 := hp90.2; clear hp90
  refine st hF96 (str (u0 ++ u1)) (nog rfl _) rfl (by kernel_rfl) (stradd_run hF96 (g := []) rfl (by kernel_rfl) (by kernel_rfl) hc97 rfl) ?_; intro a99 hF100; clear hF96
  refine fcl hF100 hM43 (.tuple #[.int .i64 ((bnumberS (u0 ++ u1)).1), .int .i64 ((bnumberS (u0 ++ u1)).2)]) 13 #[str (u0 ++ u1)] (nog rfl _) rfl (by kernel_rfl) (fun _ => by kernel_rfl) (bnumber_fun (u0 ++ u1) _ _ hM43.fz) ?_; intro a101 wd103 hF102 hM104; clear hF100 hM43
  refine s1 hF102 39 (.tuple #[.int .i64 ((bnumberS (u0 ++ u1)).1), .int .i64 ((bnumberS (u0 ++ u1)).2)]) ?_; intro a105 hF106; clear hF102
  refine s1 hF106 44 (.int .i64 ((bnumberS (u0 ++ u1)).1)) ?_; intro a107 hF108; clear hF106
  refine s1 hF108 45 (.int .i64 ((bnumberS (u0 ++ u1)).2)) ?_; intro a109 hF110; clear hF108
  refine s1 hF110 9 (.int .i64 ((bnumberS (u0 ++ u1)).1)) ?_; intro a111 hF112; clear hF110
  refine s1 hF112 6 (.int .i64 ((bnumberS (u0 ++ u1)).2)) ?_; intro a113 hF114; clear hF112
  refine nlH (hQ92 _ _ ?_); clear hQ92 hQ92Q
  refine sqH ?_; intro hQ115Q hQ115
  refine s1 hF114 46 (.int .i64 ((bnumberS (u0 ++ u1)).2)) ?_; intro a116 hF117; clear hF114
  refine s1 hF117 47 (.bool (((bnumberS (u0 ++ u1)).2) == 0)) ?_; intro a118 hF119; clear hF117
  refine s1 hF119 48 (.bool (((bnumberS (u0 ++ u1)).2) == 0)) ?_; intro a120 hF121; clear hF119
  have hF122 := hF121.atom ((((bnumberS (u0 ++ u1)).2) == 0) == true) (by kernel_rfl); clear hF121
  refine gp hF122 49 0 [] (((bnumberS (u0 ++ u1)).2) == 0) (.int .i64 ((bnumberS (u0 ++ u1)).1)) rfl rfl ?_; intro a123 hF124; clear hF122
  refine gp hF124 50 0 [] (((bnumberS (u0 ++ u1)).2) == 0) (.int .i64 ((bnumberS u0).1)) rfl rfl ?_; intro a125 hF126; clear hF124
  refine gp hF126 51 0 [] (((bnumberS (u0 ++ u1)).2) == 0) (str u1) rfl rfl ?_; intro a127 hF128; clear hF126
  refine gp hF128 52 0 [] (((bnumberS (u0 ++ u1)).2) == 0) (.int .i64 (u1.length : Int)) rfl rfl ?_; intro a129 hF130; clear hF128
  rcases Bool.eq_false_or_eq_true (((bnumberS (u0 ++ u1)).2) == 0) with hb131 | hb131
  · -- true
   have hp132 := hp98.1 hb131; clear hp98
   have hF133 := hF130.reval (d := 48) (c := []) (v := .bool (((bnumberS (u0 ++ u1)).2) == 0)) (by kernel_rfl) (.bool true) (by rw [hb131]); clear hF130
   have hF134 := hF133.setc (d := 49) (c := [0]) (v := .int .i64 ((bnumberS (u0 ++ u1)).1)) (by kernel_rfl) (v' := .int .i64 ((bnumberS (u0 ++ u1)).1)) (by rw [hb131]; kernel_rfl); clear hF133
   have hF135 := hF134.setc (d := 50) (c := [0]) (v := .int .i64 ((bnumberS u0).1)) (by kernel_rfl) (v' := .int .i64 ((bnumberS u0).1)) (by rw [hb131]; kernel_rfl); clear hF134
   have hF136 := hF135.setc (d := 51) (c := [0]) (v := str u1) (by kernel_rfl) (v' := str u1) (by rw [hb131]; kernel_rfl); clear hF135
   have hF137 := hF136.setc (d := 52) (c := [0]) (v := .int .i64 (u1.length : Int)) (by kernel_rfl) (v' := .int .i64 (u1.length : Int)) (by rw [hb131]; kernel_rfl); clear hF136
   have hc138 := hp132.1; have hp139 := hp132.2; clear hp132
   refine st hF137 (.int .i64 (bShl .i64 ((bnumberS u0).1) (u1.length : Int))) (by rw [wanted_of hF137 (b := true) rfl rfl (by kernel_rfl) (by kernel_rfl)]; rfl) rfl (by kernel_rfl) (shl_run hF137 (g := []) (k' := .i64) rfl (by kernel_rfl) (by kernel_rfl) hc138 rfl) ?_; intro a140 hF141; clear hF137
   refine st hF141 (.int .i64 ((bnumberS u1).1)) (by rw [wanted_of hF141 (b := true) rfl rfl (by kernel_rfl) (by kernel_rfl)]; rfl) rfl (by kernel_rfl) (p0 hF141 (by kernel_rfl)) ?_; intro a142 hF143; clear hF141
   refine st hF143 (.int .i64 (w64 ((bShl .i64 ((bnumberS u0).1) (u1.length : Int)) + ((bnumberS u1).1)))) (by rw [wanted_of hF143 (b := true) rfl rfl (by kernel_rfl) (by kernel_rfl)]; rfl) rfl (by kernel_rfl) (p0 hF143 (by kernel_rfl)) ?_; intro a144 hF145; clear hF143
   refine st hF145 (.bool (((bnumberS (u0 ++ u1)).1) == (w64 ((bShl .i64 ((bnumberS u0).1) (u1.length : Int)) + ((bnumberS u1).1))))) (by rw [wanted_of hF145 (b := true) rfl rfl (by kernel_rfl) (by kernel_rfl)]; rfl) rfl (by kernel_rfl) (p0 hF145 (by kernel_rfl)) ?_; intro a146 hF147; clear hF145
   refine s1 hF147 57 (.bool (((bnumberS (u0 ++ u1)).1) == (w64 ((bShl .i64 ((bnumberS u0).1) (u1.length : Int)) + ((bnumberS u1).1))))) ?_; intro a148 hF149; clear hF147
   refine s1 hF149 4 (.bool (((bnumberS (u0 ++ u1)).1) == (w64 ((bShl .i64 ((bnumberS u0).1) (u1.length : Int)) + ((bnumberS u1).1))))) ?_; intro a150 hF151; clear hF149
   refine nlH (hQ115 _ _ ?_); clear hQ115 hQ115Q
   refine wp_ret ?_
   refine rt (fn := Tryd.f3) (v := .bool (((bnumberS (u0 ++ u1)).1) == (w64 ((bShl .i64 ((bnumberS u0).1) (u1.length : Int)) + ((bnumberS u1).1))))) hF151 (re1 hF151 (fn := Tryd.f3) rfl (by kernel_rfl)) ?_
   exact ⟨((bnumberS (u0 ++ u1)).1) == (w64 ((bShl .i64 ((bnumberS u0).1) (u1.length : Int)) + ((bnumberS u1).1))), rfl, hp139, hM104.below⟩
  · -- false
   have hp152 := hp98.2 hb131; clear hp98
   have hF153 := hF130.reval (d := 48) (c := []) (v := .bool (((bnumberS (u0 ++ u1)).2) == 0)) (by kernel_rfl) (.bool false) (by rw [hb131]); clear hF130
   have hF154 := hF153.setc (d := 49) (c := [0]) (v := .int .i64 ((bnumberS (u0 ++ u1)).1)) (by kernel_rfl) (v' := undef) (by rw [hb131]; kernel_rfl); clear hF153
   have hF155 := hF154.setc (d := 50) (c := [0]) (v := .int .i64 ((bnumberS u0).1)) (by kernel_rfl) (v' := undef) (by rw [hb131]; kernel_rfl); clear hF154
   have hF156 := hF155.setc (d := 51) (c := [0]) (v := str u1) (by kernel_rfl) (v' := undef) (by rw [hb131]; kernel_rfl); clear hF155
   have hF157 := hF156.setc (d := 52) (c := [0]) (v := .int .i64 (u1.length : Int)) (by kernel_rfl) (v' := undef) (by rw [hb131]; kernel_rfl); clear hF156
   refine sk hF157 (b := false) rfl rfl (by kernel_rfl) (by kernel_rfl) rfl rfl (by kernel_rfl) ?_; intro a158 hF159; clear hF157
   refine sk hF159 (b := false) rfl rfl (by kernel_rfl) (by kernel_rfl) rfl rfl (by kernel_rfl) ?_; intro a160 hF161; clear hF159
   refine sk hF161 (b := false) rfl rfl (by kernel_rfl) (by kernel_rfl) rfl rfl (by kernel_rfl) ?_; intro a162 hF163; clear hF161
   refine sk hF163 (b := false) rfl rfl (by kernel_rfl) (by kernel_rfl) rfl rfl (by kernel_rfl) ?_; intro a164 hF165; clear hF163
   refine s1 hF165 57 (.bool false) ?_; intro a166 hF167; clear hF165
   refine s1 hF167 4 (.bool false) ?_; intro a168 hF169; clear hF167
   refine nlH (hQ115 _ _ ?_); clear hQ115 hQ115Q
   refine wp_ret ?_
   refine rt (fn := Tryd.f3) (v := .bool false) hF169 (re1 hF169 (fn := Tryd.f3) rfl (by kernel_rfl)) ?_
   exact ⟨false, rfl, hp152, hM104.below⟩

set_option maxRecDepth 100000 in
set_option maxHeartbeats 0 in
theorem LParts_walk (u0 : List UInt8) (u1 : Int) (u2 : Int)  (Z : Fz) (w : World)  (hZ : Z.on w) {K : Bool → Prop} (hp : LParts_vc u0 u1 u2 K) : Calls Tryd.prog 7 #[str u0, .int .i64 u1, .int .i64 u2] w fun e w' => ∃ r : Bool, e = .returned (.bool r) ∧ K r ∧ Below w.heap.size w w' := by
 refine enter0 Tryd.func7 rfl rfl (by kernel_rfl) ?_; intro a0 hF0; have hM0 := Mem.start w Z hZ; have hle0 := Fz.le.refl Z
 refine sqH ?_; intro hQ1Q hQ1
 refine s1 hF0 6 (.bool false) ?_; intro a2 hF3; clear hF0
 refine nlH (hQ1 _ _ ?_); clear hQ1 hQ1Q
 refine sqH ?_; intro hQ4Q hQ4
 refine s1 hF3 14 (str u0) ?_; intro a5 hF6; clear hF3
 refine s1 hF6 15 (.int .i64 u1) ?_; intro a7 hF8; clear hF6
 have hc9 := hp.1; have hp10 := hp.2; clear hp
 refine fcl hF8 hM0 (.tuple #[str ((stakeS u0 u1).1), .int .i64 ((stakeS u0 u1).2.1), .int .i64 ((stakeS u0 u1).2.2)]) 27 #[str u0, .int .i64 u1] (nog rfl _) rfl (by kernel_rfl) (fun _ => by kernel_rfl) (stake_fun u0 u1 hc9 _ _ hM0.fz) ?_; intro a11 wd13 hF12 hM14; clear hF8 hM0
 refine s1 hF12 13 (.tuple #[str ((stakeS u0 u1).1), .int .i64 ((stakeS u0 u1).2.1), .int .i64 ((stakeS u0 u1).2.2)]) ?_; intro a15 hF16; clear hF12
 refine s1 hF16 17 (str ((stakeS u0 u1).1)) ?_; intro a17 hF18; clear hF16
 refine s1 hF18 18 (.int .i64 ((stakeS u0 u1).2.1)) ?_; intro a19 hF20; clear hF18
 refine s1 hF20 19 (.int .i64 ((stakeS u0 u1).2.2)) ?_; intro a21 hF22; clear hF20
 refine s1 hF22 7 (str ((stakeS u0 u1).1)) ?_; intro a23 hF24; clear hF22
 refine s1 hF24 8 (.int .i64 ((stakeS u0 u1).2.1)) ?_; intro a25 hF26; clear hF24
 refine s1 hF26 9 (.int .i64 ((stakeS u0 u1).2.2)) ?_; intro a27 hF28; clear hF26
 refine nlH (hQ4 _ _ ?_); clear hQ4 hQ4Q
 refine sqH ?_; intro hQ29Q hQ29
 refine s1 hF28 21 (str u0) ?_; intro a30 hF31; clear hF28
 refine s1 hF31 22 (.int .i64 u2) ?_; intro a32 hF33; clear hF31
 have hc34 := hp10.1; have hp35 := hp10.2; clear hp10
 refine fcl hF33 hM14 (.tuple #[str ((stakeS u0 u2).1), .int .i64 ((stakeS u0 u2).2.1), .int .i64 ((stakeS u0 u2).2.2)]) 27 #[str u0, .int .i64 u2] (nog rfl _) rfl (by kernel_rfl) (fun _ => by kernel_rfl) (stake_fun u0 u2 hc34 _ _ hM14.fz) ?_; intro a36 wd38 hF37 hM39; clear hF33 hM14
 refine s1 hF37 20 (.tuple #[str ((stakeS u0 u2).1), .int .i64 ((stakeS u0 u2).2.1), .int .i64 ((stakeS u0 u2).2.2)]) ?_; intro a40 hF41; clear hF37
 refine s1 hF41 24 (str ((stakeS u0 u2).1)) ?_; intro a42 hF43; clear hF41
 refine s1 hF43 25 (.int .i64 ((stakeS u0 u2).2.1)) ?_; intro a44 hF45; clear hF43
 refine s1 hF45 26 (.int .i64 ((stakeS u0 u2).2.2)) ?_; intro a46 hF47; clear hF45
 refine s1 hF47 10 (str ((stakeS u0 u2).1)) ?_; intro a48 hF49; clear hF47
 refine s1 hF49 11 (.int .i64 ((stakeS u0 u2).2.1)) ?_; intro a50 hF51; clear hF49
 refine s1 hF51 12 (.int .i64 ((stakeS u0 u2).2.2)) ?_; intro a52 hF53; clear hF51
 refine nlH (hQ29 _ _ ?_); clear hQ29 hQ29Q
 refine wp_seq ?_
 have hF54 : Fr 74 [] [⟨1, [], .int .i64 u1⟩, ⟨2, [], .int .i64 u2⟩, ⟨7, [], str ((stakeS u0 u1).1)⟩, ⟨8, [], .int .i64 ((stakeS u0 u1).2.1)⟩, ⟨9, [], .int .i64 ((stakeS u0 u1).2.2)⟩, ⟨10, [], str ((stakeS u0 u2).1)⟩, ⟨11, [], .int .i64 ((stakeS u0 u2).2.1)⟩, ⟨12, [], .int .i64 ((stakeS u0 u2).2.2)⟩] a52 := hF53.region (by kernel_rfl) (by kernel_rfl); clear hF53
 refine sqH ?_; intro hQ55Q hQ55
 refine fcl hF54 hM39 (.bool true) 28 #[] (nog rfl _) rfl (by kernel_rfl) (fun _ => by kernel_rfl) (stuffed_fun  _ _ hM39.fz) ?_; intro a56 wd58 hF57 hM59; clear hF54 hM39
 refine s1 hF57 28 (.bool false) ?_; intro a60 hF61; clear hF57
 refine s1 hF61 29 (.bool false) ?_; intro a62 hF63; clear hF61
 refine st hF63 (.int .i64 u1) (by rw [wanted_of hF63 (b := false) rfl rfl (by kernel_rfl) (by kernel_rfl)]; rfl) rfl (by kernel_rfl) (p0 hF63 (by kernel_rfl)) ?_; intro a64 hF65; clear hF63
 refine st hF65 (.int .i64 u2) (by rw [wanted_of hF65 (b := false) rfl rfl (by kernel_rfl) (by kernel_rfl)]; rfl) rfl (by kernel_rfl) (p0 hF65 (by kernel_rfl)) ?_; intro a66 hF67; clear hF65
 refine st hF67 (.bool (decide (u1 > u2))) (by rw [wanted_of hF67 (b := false) rfl rfl (by kernel_rfl) (by kernel_rfl)]; rfl) rfl (by kernel_rfl) (p0 hF67 (by kernel_rfl)) ?_; intro a68 hF69; clear hF67
 refine s1 hF69 33 (.bool (decide (u1 > u2))) ?_; intro a70 hF71; clear hF69
 refine s1 hF71 34 (.bool (decide (u1 > u2))) ?_; intro a72 hF73; clear hF71
 have hF74 := hF73.atom ((decide (u1 > u2)) == false) (by kernel_rfl); clear hF73
 refine gp hF74 35 0 [] (decide (u1 > u2)) (.int .i64 ((stakeS u0 u1).2.2)) rfl rfl ?_; intro a75 hF76; clear hF74
 refine gp hF76 36 0 [] (decide (u1 > u2)) (.bool (((stakeS u0 u1).2.2) != 0)) rfl rfl ?_; intro a77 hF78; clear hF76
 refine st hF78 (.bool ((decide (u1 > u2)) || (((stakeS u0 u1).2.2) != 0))) (nog rfl _) rfl (by kernel_rfl) (pk_or hF78 (g := []) (m := 0) (b := decide (u1 > u2)) (v := ((stakeS u0 u1).2.2) != 0) rfl (by kernel_rfl) (by kernel_rfl) (by kernel_rfl) rfl) ?_; intro a79 hF80; clear hF78
 refine s1 hF80 38 (.bool ((decide (u1 > u2)) || (((stakeS u0 u1).2.2) != 0))) ?_; intro a81 hF82; clear hF80
 have hF83 := hF82.atom (((decide (u1 > u2)) || (((stakeS u0 u1).2.2) != 0)) == false) (by kernel_rfl); clear hF82
 refine gp hF83 39 1 [] ((decide (u1 > u2)) || (((stakeS u0 u1).2.2) != 0)) (.int .i64 ((stakeS u0 u2).2.2)) rfl rfl ?_; intro a84 hF85; clear hF83
 refine gp hF85 40 1 [] ((decide (u1 > u2)) || (((stakeS u0 u1).2.2) != 0)) (.bool (((stakeS u0 u2).2.2) != 0)) rfl rfl ?_; intro a86 hF87; clear hF85
 refine st hF87 (.bool (((decide (u1 > u2)) || (((stakeS u0 u1).2.2) != 0)) || (((stakeS u0 u2).2.2) != 0))) (nog rfl _) rfl (by kernel_rfl) (pk_or hF87 (g := []) (m := 1) (b := (decide (u1 > u2)) || (((stakeS u0 u1).2.2) != 0)) (v := ((stakeS u0 u2).2.2) != 0) rfl (by kernel_rfl) (by kernel_rfl) (by kernel_rfl) rfl) ?_; intro a88 hF89; clear hF87
 refine nlH (hQ55 _ _ ?_); clear hQ55 hQ55Q
 refine cd hF89 (t := ((decide (u1 > u2)) || (((stakeS u0 u1).2.2) != 0)) || (((stakeS u0 u2).2.2) != 0)) (by kernel_rfl) (fun hb90 => ?_) (fun hb90 => ?_)
 · -- yes
  have hp91 := hp35.1 hb90; clear hp35
  have hF92 : Fr 74 [] [⟨1, [], .int .i64 u1⟩, ⟨2, [], .int .i64 u2⟩, ⟨9, [], .int .i64 ((stakeS u0 u1).2.2)⟩, ⟨12, [], .int .i64 ((stakeS u0 u2).2.2)⟩] a88 := hF89.region (by kernel_rfl) (by kernel_rfl); clear hF89
  refine sqH ?_; intro hQ93Q hQ93
  refine fcl hF92 hM59 (.bool true) 28 #[] (nog rfl _) rfl (by kernel_rfl) (fun _ => by kernel_rfl) (stuffed_fun  _ _ hM59.fz) ?_; intro a94 wd96 hF95 hM97; clear hF92 hM59
  refine s1 hF95 43 (.bool true) ?_; intro a98 hF99; clear hF95
  refine st hF99 (.int .i64 u1) (by rw [wanted_of hF99 (b := true) rfl rfl (by kernel_rfl) (by kernel_rfl)]; rfl) rfl (by kernel_rfl) (p0 hF99 (by kernel_rfl)) ?_; intro a100 hF101; clear hF99
  refine st hF101 (.int .i64 u2) (by rw [wanted_of hF101 (b := true) rfl rfl (by kernel_rfl) (by kernel_rfl)]; rfl) rfl (by kernel_rfl) (p0 hF101 (by kernel_rfl)) ?_; intro a102 hF103; clear hF101
  refine st hF103 (.bool (decide (u1 > u2))) (by rw [wanted_of hF103 (b := true) rfl rfl (by kernel_rfl) (by kernel_rfl)]; rfl) rfl (by kernel_rfl) (p0 hF103 (by kernel_rfl)) ?_; intro a104 hF105; clear hF103
  refine st hF105 (.bool (decide (u1 > u2))) (by rw [wanted_of hF105 (b := true) rfl rfl (by kernel_rfl) (by kernel_rfl)]; rfl) rfl (by kernel_rfl) (p0 hF105 (by kernel_rfl)) ?_; intro a106 hF107; clear hF105
  have hF108 := hF107.atom ((decide (u1 > u2)) == false) (by kernel_rfl); clear hF107
  refine gp hF108 48 0 [] (decide (u1 > u2)) (.int .i64 u1) rfl rfl ?_; intro a109 hF110; clear hF108
  refine gp hF110 49 0 [] (decide (u1 > u2)) (.bool (decide (u1 < 0))) rfl rfl ?_; intro a111 hF112; clear hF110
  refine st hF112 (.bool ((decide (u1 > u2)) || (decide (u1 < 0)))) (by rw [wanted_of hF112 (b := true) rfl rfl (by kernel_rfl) (by kernel_rfl)]; rfl) rfl (by kernel_rfl) (pk_or hF112 (g := []) (m := 0) (b := decide (u1 > u2)) (v := decide (u1 < 0)) rfl (by kernel_rfl) (by kernel_rfl) (by kernel_rfl) rfl) ?_; intro a113 hF114; clear hF112
  refine st hF114 (.bool ((decide (u1 > u2)) || (decide (u1 < 0)))) (by rw [wanted_of hF114 (b := true) rfl rfl (by kernel_rfl) (by kernel_rfl)]; rfl) rfl (by kernel_rfl) (p0 hF114 (by kernel_rfl)) ?_; intro a115 hF116; clear hF114
  have hF117 := hF116.atom (((decide (u1 > u2)) || (decide (u1 < 0))) == false) (by kernel_rfl); clear hF116
  refine gp hF117 52 1 [] ((decide (u1 > u2)) || (decide (u1 < 0))) (.int .i64 ((stakeS u0 u2).2.2)) rfl rfl ?_; intro a118 hF119; clear hF117
  refine gp hF119 53 1 [] ((decide (u1 > u2)) || (decide (u1 < 0))) (.bool (((stakeS u0 u2).2.2) != 0)) rfl rfl ?_; intro a120 hF121; clear hF119
  refine st hF121 (.bool (((decide (u1 > u2)) || (decide (u1 < 0))) || (((stakeS u0 u2).2.2) != 0))) (by rw [wanted_of hF121 (b := true) rfl rfl (by kernel_rfl) (by kernel_rfl)]; rfl) rfl (by kernel_rfl) (pk_or hF121 (g := []) (m := 1) (b := (decide (u1 > u2)) || (decide (u1 < 0))) (v := ((stakeS u0 u2).2.2) != 0) rfl (by kernel_rfl) (by kernel_rfl) (by kernel_rfl) rfl) ?_; intro a122 hF123; clear hF121
  refine st hF123 (.bool (((decide (u1 > u2)) || (decide (u1 < 0))) || (((stakeS u0 u2).2.2) != 0))) (by rw [wanted_of hF123 (b := true) rfl rfl (by kernel_rfl) (by kernel_rfl)]; rfl) rfl (by kernel_rfl) (p0 hF123 (by kernel_rfl)) ?_; intro a124 hF125; clear hF123
  have hF126 := hF125.atom ((((decide (u1 > u2)) || (decide (u1 < 0))) || (((stakeS u0 u2).2.2) != 0)) == false) (by kernel_rfl); clear hF125
  refine gp hF126 56 2 [] (((decide (u1 > u2)) || (decide (u1 < 0))) || (((stakeS u0 u2).2.2) != 0)) (.int .i64 ((stakeS u0 u1).2.2)) rfl rfl ?_; intro a127 hF128; clear hF126
  refine gp hF128 57 2 [] (((decide (u1 > u2)) || (decide (u1 < 0))) || (((stakeS u0 u2).2.2) != 0)) (.bool (((stakeS u0 u1).2.2) == 0)) rfl rfl ?_; intro a129 hF130; clear hF128
  refine st hF130 (.bool ((((decide (u1 > u2)) || (decide (u1 < 0))) || (((stakeS u0 u2).2.2) != 0)) || (((stakeS u0 u1).2.2) == 0))) (by rw [wanted_of hF130 (b := true) rfl rfl (by kernel_rfl) (by kernel_rfl)]; rfl) rfl (by kernel_rfl) (pk_or hF130 (g := []) (m := 2) (b := ((decide (u1 > u2)) || (decide (u1 < 0))) || (((stakeS u0 u2).2.2) != 0)) (v := ((stakeS u0 u1).2.2) == 0) rfl (by kernel_rfl) (by kernel_rfl) (by kernel_rfl) rfl) ?_; intro a131 hF132; clear hF130
  refine s1 hF132 59 (.bool ((((decide (u1 > u2)) || (decide (u1 < 0))) || (((stakeS u0 u2).2.2) != 0)) || (((stakeS u0 u1).2.2) == 0))) ?_; intro a133 hF134; clear hF132
  refine s1 hF134 6 (.bool ((((decide (u1 > u2)) || (decide (u1 < 0))) || (((stakeS u0 u2).2.2) != 0)) || (((stakeS u0 u1).2.2) == 0))) ?_; intro a135 hF136; clear hF134
  refine nlH (hQ93 _ _ ?_); clear hQ93 hQ93Q
  refine wp_ret ?_
  refine thr ?_
  refine rt (fn := Tryd.f7) (v := .bool ((((decide (u1 > u2)) || (decide (u1 < 0))) || (((stakeS u0 u2).2.2) != 0)) || (((stakeS u0 u1).2.2) == 0))) hF136 (re1 hF136 (fn := Tryd.f7) rfl (by kernel_rfl)) ?_
  exact ⟨(((decide (u1 > u2)) || (decide (u1 < 0))) || (((stakeS u0 u2).2.2) != 0)) || (((stakeS u0 u1).2.2) == 0), rfl, hp91, hM97.below⟩
 · -- no
  have hp137 := hp35.2 hb90; clear hp35
  refine wp_skip ?_
  refine thn ?_
  have hF138 : Fr 74 [] [⟨1, [], .int .i64 u1⟩, ⟨7, [], str ((stakeS u0 u1).1)⟩, ⟨8, [], .int .i64 ((stakeS u0 u1).2.1)⟩, ⟨10, [], str ((stakeS u0 u2).1)⟩, ⟨11, [], .int .i64 ((stakeS u0 u2).2.1)⟩] a88 := hF89.region (by kernel_rfl) (by kernel_rfl); clear hF89
  refine sqH ?_; intro hQ139Q hQ139
  refine s1 hF138 60 (str ((stakeS u0 u2).1)) ?_; intro a140 hF141; clear hF138
  refine s1 hF141 61 (str ((stakeS u0 u1).1)) ?_; intro a142 hF143; clear hF141
  refine fcl hF143 hM59 (.bool (hasprefix ((stakeS u0 u2).1) ((stakeS u0 u1).1))) 29 #[str ((stakeS u0 u2).1), str ((stakeS u0 u1).1)] (nog rfl _) rfl (by kernel_rfl) (fun _ => by kernel_rfl) (hasprefix_fun ((stakeS u0 u2).1) ((stakeS u0 u1).1) _ _ hM59.fz) ?_; intro a144 wd146 hF145 hM147; clear hF143 hM59
  refine s1 hF145 63 (.bool (hasprefix ((stakeS u0 u2).1) ((stakeS u0 u1).1))) ?_; intro a148 hF149; clear hF145
  have hF150 := hF149.atom ((hasprefix ((stakeS u0 u2).1) ((stakeS u0 u1).1)) == true) (by kernel_rfl); clear hF149
  refine gp hF150 64 0 [] ((hasprefix ((stakeS u0 u2).1) ((stakeS u0 u1).1))) (.int .i64 ((stakeS u0 u1).2.1)) rfl rfl ?_; intro a151 hF152; clear hF150
  refine gp hF152 65 0 [] ((hasprefix ((stakeS u0 u2).1) ((stakeS u0 u1).1))) (.int .i64 ((stakeS u0 u2).2.1)) rfl rfl ?_; intro a153 hF154; clear hF152
  refine gp hF154 66 0 [] ((hasprefix ((stakeS u0 u2).1) ((stakeS u0 u1).1))) (.bool (decide (((stakeS u0 u1).2.1) ≤ ((stakeS u0 u2).2.1)))) rfl rfl ?_; intro a155 hF156; clear hF154
  refine st hF156 (.bool ((hasprefix ((stakeS u0 u2).1) ((stakeS u0 u1).1)) && (decide (((stakeS u0 u1).2.1) ≤ ((stakeS u0 u2).2.1))))) (nog rfl _) rfl (by kernel_rfl) (pk_and hF156 (g := []) (m := 0) (b := (hasprefix ((stakeS u0 u2).1) ((stakeS u0 u1).1))) (v := decide (((stakeS u0 u1).2.1) ≤ ((stakeS u0 u2).2.1))) rfl (by kernel_rfl) (by kernel_rfl) (by kernel_rfl) rfl) ?_; intro a157 hF158; clear hF156
  refine s1 hF158 68 (.bool ((hasprefix ((stakeS u0 u2).1) ((stakeS u0 u1).1)) && (decide (((stakeS u0 u1).2.1) ≤ ((stakeS u0 u2).2.1))))) ?_; intro a159 hF160; clear hF158
  have hF161 := hF160.atom (((hasprefix ((stakeS u0 u2).1) ((stakeS u0 u1).1)) && (decide (((stakeS u0 u1).2.1) ≤ ((stakeS u0 u2).2.1)))) == true) (by kernel_rfl); clear hF160
  refine gp hF161 69 1 [] ((hasprefix ((stakeS u0 u2).1) ((stakeS u0 u1).1)) && (decide (((stakeS u0 u1).2.1) ≤ ((stakeS u0 u2).2.1)))) (str ((stakeS u0 u1).1)) rfl rfl ?_; intro a162 hF163; clear hF161
  refine gp hF163 70 1 [] ((hasprefix ((stakeS u0 u2).1) ((stakeS u0 u1).1)) && (decide (((stakeS u0 u1).2.1) ≤ ((stakeS u0 u2).2.1)))) (.int .i64 (((stakeS u0 u1).1).length : Int)) rfl rfl ?_; intro a164 hF165; clear hF163
  refine gp hF165 71 1 [] ((hasprefix ((stakeS u0 u2).1) ((stakeS u0 u1).1)) && (decide (((stakeS u0 u1).2.1) ≤ ((stakeS u0 u2).2.1)))) (.int .i64 u1) rfl rfl ?_; intro a166 hF167; clear hF165
  refine gp hF167 72 1 [] ((hasprefix ((stakeS u0 u2).1) ((stakeS u0 u1).1)) && (decide (((stakeS u0 u1).2.1) ≤ ((stakeS u0 u2).2.1)))) (.bool ((((stakeS u0 u1).1).length : Int) == u1)) rfl rfl ?_; intro a168 hF169; clear hF167
  refine st hF169 (.bool (((hasprefix ((stakeS u0 u2).1) ((stakeS u0 u1).1)) && (decide (((stakeS u0 u1).2.1) ≤ ((stakeS u0 u2).2.1)))) && ((((stakeS u0 u1).1).length : Int) == u1))) (nog rfl _) rfl (by kernel_rfl) (pk_and hF169 (g := []) (m := 1) (b := (hasprefix ((stakeS u0 u2).1) ((stakeS u0 u1).1)) && (decide (((stakeS u0 u1).2.1) ≤ ((stakeS u0 u2).2.1)))) (v := (((stakeS u0 u1).1).length : Int) == u1) rfl (by kernel_rfl) (by kernel_rfl) (by kernel_rfl) rfl) ?_; intro a170 hF171; clear hF169
  refine s1 hF171 6 (.bool (((hasprefix ((stakeS u0 u2).1) ((stakeS u0 u1).1)) && (decide (((stakeS u0 u1).2.1) ≤ ((stakeS u0 u2).2.1)))) && ((((stakeS u0 u1).1).length : Int) == u1))) ?_; intro a172 hF173; clear hF171
  refine nlH (hQ139 _ _ ?_); clear hQ139 hQ139Q
  refine wp_ret ?_
  refine rt (fn := Tryd.f7) (v := .bool (((hasprefix ((stakeS u0 u2).1) ((stakeS u0 u1).1)) && (decide (((stakeS u0 u1).2.1) ≤ ((stakeS u0 u2).2.1)))) && ((((stakeS u0 u1).1).length : Int) == u1))) hF173 (re1 hF173 (fn := Tryd.f7) rfl (by kernel_rfl)) ?_
  exact ⟨((hasprefix ((stakeS u0 u2).1) ((stakeS u0 u1).1)) && (decide (((stakeS u0 u1).2.1) ≤ ((stakeS u0 u2).2.1)))) && ((((stakeS u0 u1).1).length : Int) == u1), rfl, hp137, hM147.below⟩

set_option maxRecDepth 100000 in
set_option maxHeartbeats 0 in
theorem LBack_walk (u0 : List UInt8) (u1 : List UInt8)  (Z : Fz) (w : World)  (hZ : Z.on w) {K : Bool → Prop} (hp : LBack_vc u0 u1 K) : Calls Tryd.prog 8 #[str u0, str u1] w fun e w' => ∃ r : Bool, e = .returned (.bool r) ∧ K r ∧ Below w.heap.size w w' := by
 refine enter0 Tryd.func8 rfl rfl (by kernel_rfl) ?_; intro a0 hF0; have hM0 := Mem.start w Z hZ; have hle0 := Fz.le.refl Z
 refine sqH ?_; intro hQ1Q hQ1
 refine s1 hF0 4 (.bool false) ?_; intro a2 hF3; clear hF0
 refine nlH (hQ1 _ _ ?_); clear hQ1 hQ1Q
 refine sqH ?_; intro hQ4Q hQ4
 refine s1 hF3 14 (str u0) ?_; intro a5 hF6; clear hF3
 refine fcl hF6 hM0 (.tuple #[str ((sputS u0).1), .int .i64 ((sputS u0).2)]) 30 #[str u0] (nog rfl _) rfl (by kernel_rfl) (fun _ => by kernel_rfl) (sput_fun u0 _ _ hM0.fz) ?_; intro a7 wd9 hF8 hM10; clear hF6 hM0
 refine s1 hF8 13 (.tuple #[str ((sputS u0).1), .int .i64 ((sputS u0).2)]) ?_; intro a11 hF12; clear hF8
 refine s1 hF12 16 (str ((sputS u0).1)) ?_; intro a13 hF14; clear hF12
 refine s1 hF14 17 (.int .i64 ((sputS u0).2)) ?_; intro a15 hF16; clear hF14
 refine s1 hF16 5 (str ((sputS u0).1)) ?_; intro a17 hF18; clear hF16
 refine s1 hF18 6 (.int .i64 ((sputS u0).2)) ?_; intro a19 hF20; clear hF18
 refine nlH (hQ4 _ _ ?_); clear hQ4 hQ4Q
 refine wp_seq ?_
 refine sqH ?_; intro hQ21Q hQ21
 refine fcl hF20 hM10 (.bool true) 28 #[] (nog rfl _) rfl (by kernel_rfl) (fun _ => by kernel_rfl) (stuffed_fun  _ _ hM10.fz) ?_; intro a22 wd24 hF23 hM25; clear hF20 hM10
 refine s1 hF23 19 (.bool false) ?_; intro a26 hF27; clear hF23
 refine s1 hF27 20 (.bool false) ?_; intro a28 hF29; clear hF27
 refine st hF29 (.int .i64 ((sputS u0).2)) (by rw [wanted_of hF29 (b := false) rfl rfl (by kernel_rfl) (by kernel_rfl)]; rfl) rfl (by kernel_rfl) (p0 hF29 (by kernel_rfl)) ?_; intro a30 hF31; clear hF29
 refine st hF31 (.bool (((sputS u0).2) != 0)) (by rw [wanted_of hF31 (b := false) rfl rfl (by kernel_rfl) (by kernel_rfl)]; rfl) rfl (by kernel_rfl) (p0 hF31 (by kernel_rfl)) ?_; intro a32 hF33; clear hF31
 refine s1 hF33 23 (.bool (((sputS u0).2) != 0)) ?_; intro a34 hF35; clear hF33
 refine s1 hF35 24 (.bool (((sputS u0).2) != 0)) ?_; intro a36 hF37; clear hF35
 have hF38 := hF37.atom ((((sputS u0).2) != 0) == false) (by kernel_rfl); clear hF37
 refine gp hF38 25 0 [] (((sputS u0).2) != 0) (str u1) rfl rfl ?_; intro a39 hF40; clear hF38
 refine gcl hF40 hM25 (.int .i64 (bcheckS u1)) 22 #[str u1] (m := 0) (cj := []) (bj := ((sputS u0).2) != 0) rfl rfl (by kernel_rfl) rfl (by kernel_rfl) (by kernel_rfl) (by kernel_rfl) (fun _ => by kernel_rfl) (fun hg => bcheck_fun u1 _ _ hM25.fz) ?_; intro a41 wd43 hF42 hM44; clear hF40 hM25
 refine gp hF42 27 0 [] (((sputS u0).2) != 0) (.bool ((bcheckS u1) != 0)) rfl rfl ?_; intro a45 hF46; clear hF42
 refine st hF46 (.bool ((((sputS u0).2) != 0) || ((bcheckS u1) != 0))) (nog rfl _) rfl (by kernel_rfl) (pk_or hF46 (g := []) (m := 0) (b := ((sputS u0).2) != 0) (v := (bcheckS u1) != 0) rfl (by kernel_rfl) (by kernel_rfl) (by kernel_rfl) rfl) ?_; intro a47 hF48; clear hF46
 refine s1 hF48 29 (.bool ((((sputS u0).2) != 0) || ((bcheckS u1) != 0))) ?_; intro a49 hF50; clear hF48
 have hF51 := hF50.atom (((((sputS u0).2) != 0) || ((bcheckS u1) != 0)) == false) (by kernel_rfl); clear hF50
 refine gp hF51 30 1 [] ((((sputS u0).2) != 0) || ((bcheckS u1) != 0)) (str ((sputS u0).1)) rfl rfl ?_; intro a52 hF53; clear hF51
 refine gp hF53 31 1 [] ((((sputS u0).2) != 0) || ((bcheckS u1) != 0)) (.int .i64 (((sputS u0).1).length : Int)) rfl rfl ?_; intro a54 hF55; clear hF53
 refine gp hF55 32 1 [] ((((sputS u0).2) != 0) || ((bcheckS u1) != 0)) (str u1) rfl rfl ?_; intro a56 hF57; clear hF55
 refine gp hF57 33 1 [] ((((sputS u0).2) != 0) || ((bcheckS u1) != 0)) (.int .i64 (u1.length : Int)) rfl rfl ?_; intro a58 hF59; clear hF57
 refine gp hF59 34 1 [] ((((sputS u0).2) != 0) || ((bcheckS u1) != 0)) (.int .i64 (w64 ((((sputS u0).1).length : Int) + (u1.length : Int)))) rfl rfl ?_; intro a60 hF61; clear hF59
 refine gp hF61 35 1 [] ((((sputS u0).2) != 0) || ((bcheckS u1) != 0)) (.bool (decide ((w64 ((((sputS u0).1).length : Int) + (u1.length : Int))) > 1000))) rfl rfl ?_; intro a62 hF63; clear hF61
 refine st hF63 (.bool (((((sputS u0).2) != 0) || ((bcheckS u1) != 0)) || (decide ((w64 ((((sputS u0).1).length : Int) + (u1.length : Int))) > 1000)))) (nog rfl _) rfl (by kernel_rfl) (pk_or hF63 (g := []) (m := 1) (b := (((sputS u0).2) != 0) || ((bcheckS u1) != 0)) (v := decide ((w64 ((((sputS u0).1).length : Int) + (u1.length : Int))) > 1000)) rfl (by kernel_rfl) (by kernel_rfl) (by kernel_rfl) rfl) ?_; intro a64 hF65; clear hF63
 refine nlH (hQ21 _ _ ?_); clear hQ21 hQ21Q
 refine cd hF65 (t := ((((sputS u0).2) != 0) || ((bcheckS u1) != 0)) || (decide ((w64 ((((sputS u0).1).length : Int) + (u1.length : Int))) > 1000))) (by kernel_rfl) (fun hb66 => ?_) (fun hb66 => ?_)
 · -- yes
  have hp67 := hp.1 hb66; clear hp
  have hF68 : Fr 90 [] [] a64 := hF65.region (by kernel_rfl) (by kernel_rfl); clear hF65
  refine sqH ?_; intro hQ69Q hQ69
  refine fcl hF68 hM44 (.bool true) 28 #[] (nog rfl _) rfl (by kernel_rfl) (fun _ => by kernel_rfl) (stuffed_fun  _ _ hM44.fz) ?_; intro a70 wd72 hF71 hM73; clear hF68 hM44
  refine s1 hF71 4 (.bool true) ?_; intro a74 hF75; clear hF71
  refine nlH (hQ69 _ _ ?_); clear hQ69 hQ69Q
  refine wp_ret ?_
  refine thr ?_
  refine rt (fn := Tryd.f8) (v := .bool true) hF75 (re1 hF75 (fn := Tryd.f8) rfl (by kernel_rfl)) ?_
  exact ⟨true, rfl, hp67, hM73.below⟩
 · -- no
  have hp76 := hp.2 hb66; clear hp
  refine wp_skip ?_
  refine thn ?_
  have hF77 : Fr 90 [] [⟨0, [], str u0⟩, ⟨1, [], str u1⟩, ⟨5, [], str ((sputS u0).1)⟩] a64 := hF65.region (by kernel_rfl) (by kernel_rfl); clear hF65
  refine sqH ?_; intro hQ78Q hQ78
  refine s1 hF77 39 (str ((sputS u0).1)) ?_; intro a79 hF80; clear hF77
  refine s1 hF80 40 (str u1) ?_; intro a81 hF82; clear hF80
  have hc83 := hp76.1; have hp84 := hp76.2; clear hp76
  refine st hF82 (str (((sputS u0).1) ++ u1)) (nog rfl _) rfl (by kernel_rfl) (stradd_run hF82 (g := []) rfl (by kernel_rfl) (by kernel_rfl) hc83 rfl) ?_; intro a85 hF86; clear hF82
  refine s1 hF86 42 (str u0) ?_; intro a87 hF88; clear hF86
  refine s1 hF88 43 (.int .i64 (u0.length : Int)) ?_; intro a89 hF90; clear hF88
  have hc91 := hp84.1; have hp92 := hp84.2; clear hp84
  refine fcl hF90 hM44 (.tuple #[str ((stakeS (((sputS u0).1) ++ u1) (u0.length : Int)).1), .int .i64 ((stakeS (((sputS u0).1) ++ u1) (u0.length : Int)).2.1), .int .i64 ((stakeS (((sputS u0).1) ++ u1) (u0.length : Int)).2.2)]) 27 #[str (((sputS u0).1) ++ u1), .int .i64 (u0.length : Int)] (nog rfl _) rfl (by kernel_rfl) (fun _ => by kernel_rfl) (stake_fun (((sputS u0).1) ++ u1) (u0.length : Int) hc91 _ _ hM44.fz) ?_; intro a93 wd95 hF94 hM96; clear hF90 hM44
  refine s1 hF94 38 (.tuple #[str ((stakeS (((sputS u0).1) ++ u1) (u0.length : Int)).1), .int .i64 ((stakeS (((sputS u0).1) ++ u1) (u0.length : Int)).2.1), .int .i64 ((stakeS (((sputS u0).1) ++ u1) (u0.length : Int)).2.2)]) ?_; intro a97 hF98; clear hF94
  refine s1 hF98 45 (str ((stakeS (((sputS u0).1) ++ u1) (u0.length : Int)).1)) ?_; intro a99 hF100; clear hF98
  refine s1 hF100 46 (.int .i64 ((stakeS (((sputS u0).1) ++ u1) (u0.length : Int)).2.1)) ?_; intro a101 hF102; clear hF100
  refine s1 hF102 47 (.int .i64 ((stakeS (((sputS u0).1) ++ u1) (u0.length : Int)).2.2)) ?_; intro a103 hF104; clear hF102
  refine s1 hF104 7 (str ((stakeS (((sputS u0).1) ++ u1) (u0.length : Int)).1)) ?_; intro a105 hF106; clear hF104
  refine s1 hF106 8 (.int .i64 ((stakeS (((sputS u0).1) ++ u1) (u0.length : Int)).2.1)) ?_; intro a107 hF108; clear hF106
  refine s1 hF108 6 (.int .i64 ((stakeS (((sputS u0).1) ++ u1) (u0.length : Int)).2.2)) ?_; intro a109 hF110; clear hF108
  refine nlH (hQ78 _ _ ?_); clear hQ78 hQ78Q
  refine sqH ?_; intro hQ111Q hQ111
  refine s1 hF110 49 (str u0) ?_; intro a112 hF113; clear hF110
  refine s1 hF113 50 (.int .i64 (u0.length : Int)) ?_; intro a114 hF115; clear hF113
  refine fcl hF115 hM96 (.tuple #[.int .i64 ((smost (u0.length : Int)).1), .int .i64 ((smost (u0.length : Int)).2)]) 31 #[.int .i64 (u0.length : Int)] (nog rfl _) rfl (by kernel_rfl) (fun _ => by kernel_rfl) (smost_fun (u0.length : Int) _ _ hM96.fz) ?_; intro a116 wd118 hF117 hM119; clear hF115 hM96
  refine s1 hF117 48 (.tuple #[.int .i64 ((smost (u0.length : Int)).1), .int .i64 ((smost (u0.length : Int)).2)]) ?_; intro a120 hF121; clear hF117
  refine s1 hF121 52 (.int .i64 ((smost (u0.length : Int)).1)) ?_; intro a122 hF123; clear hF121
  refine s1 hF123 53 (.int .i64 ((smost (u0.length : Int)).2)) ?_; intro a124 hF125; clear hF123
  refine s1 hF125 9 (.int .i64 ((smost (u0.length : Int)).1)) ?_; intro a126 hF127; clear hF125
  refine s1 hF127 10 (.int .i64 ((smost (u0.length : Int)).2)) ?_; intro a128 hF129; clear hF127
  refine nlH (hQ111 _ _ ?_); clear hQ111 hQ111Q
  have hF130 : Fr 90 [] [⟨0, [], str u0⟩, ⟨5, [], str ((sputS u0).1)⟩, ⟨6, [], .int .i64 ((stakeS (((sputS u0).1) ++ u1) (u0.length : Int)).2.2)⟩, ⟨7, [], str ((stakeS (((sputS u0).1) ++ u1) (u0.length : Int)).1)⟩, ⟨8, [], .int .i64 ((stakeS (((sputS u0).1) ++ u1) (u0.length : Int)).2.1)⟩, ⟨9, [], .int .i64 ((smost (u0.length : Int)).1)⟩, ⟨10, [], .int .i64 ((smost (u0.length : Int)).2)⟩] a128 := hF129.region (by kernel_rfl) (by kernel_rfl); clear hF129
  refine sqH ?_; intro hQ131Q hQ131
  refine s1 hF130 55 (str ((sputS u0).1)) ?_; intro a132 hF133; clear hF130
  refine fcl hF133 hM119 (.tuple #[.int .i64 ((brunS ((sputS u0).1)).1), .int .i64 ((brunS ((sputS u0).1)).2)]) 20 #[str ((sputS u0).1)] (nog rfl _) rfl (by kernel_rfl) (fun _ => by kernel_rfl) (brun_fun ((sputS u0).1) _ _ hM119.fz) ?_; intro a134 wd136 hF135 hM137; clear hF133 hM119
  refine s1 hF135 54 (.tuple #[.int .i64 ((brunS ((sputS u0).1)).1), .int .i64 ((brunS ((sputS u0).1)).2)]) ?_; intro a138 hF139; clear hF135
  refine s1 hF139 57 (.int .i64 ((brunS ((sputS u0).1)).1)) ?_; intro a140 hF141; clear hF139
  refine s1 hF141 58 (.int .i64 ((brunS ((sputS u0).1)).2)) ?_; intro a142 hF143; clear hF141
  refine s1 hF143 11 (.int .i64 ((brunS ((sputS u0).1)).1)) ?_; intro a144 hF145; clear hF143
  refine s1 hF145 12 (.int .i64 ((brunS ((sputS u0).1)).2)) ?_; intro a146 hF147; clear hF145
  refine nlH (hQ131 _ _ ?_); clear hQ131 hQ131Q
  refine sqH ?_; intro hQ148Q hQ148
  refine s1 hF147 59 (.int .i64 ((stakeS (((sputS u0).1) ++ u1) (u0.length : Int)).2.2)) ?_; intro a149 hF150; clear hF147
  refine s1 hF150 60 (.bool (((stakeS (((sputS u0).1) ++ u1) (u0.length : Int)).2.2) == 0)) ?_; intro a151 hF152; clear hF150
  refine s1 hF152 61 (.bool (((stakeS (((sputS u0).1) ++ u1) (u0.length : Int)).2.2) == 0)) ?_; intro a153 hF154; clear hF152
  have hF155 := hF154.atom ((((stakeS (((sputS u0).1) ++ u1) (u0.length : Int)).2.2) == 0) == true) (by kernel_rfl); clear hF154
  refine gp hF155 62 0 [] (((stakeS (((sputS u0).1) ++ u1) (u0.length : Int)).2.2) == 0) (.int .i64 ((smost (u0.length : Int)).2)) rfl rfl ?_; intro a156 hF157; clear hF155
  refine gp hF157 63 0 [] (((stakeS (((sputS u0).1) ++ u1) (u0.length : Int)).2.2) == 0) (.bool (((smost (u0.length : Int)).2) == 0)) rfl rfl ?_; intro a158 hF159; clear hF157
  refine st hF159 (.bool ((((stakeS (((sputS u0).1) ++ u1) (u0.length : Int)).2.2) == 0) && (((smost (u0.length : Int)).2) == 0))) (nog rfl _) rfl (by kernel_rfl) (pk_and hF159 (g := []) (m := 0) (b := ((stakeS (((sputS u0).1) ++ u1) (u0.length : Int)).2.2) == 0) (v := ((smost (u0.length : Int)).2) == 0) rfl (by kernel_rfl) (by kernel_rfl) (by kernel_rfl) rfl) ?_; intro a160 hF161; clear hF159
  refine s1 hF161 65 (.bool ((((stakeS (((sputS u0).1) ++ u1) (u0.length : Int)).2.2) == 0) && (((smost (u0.length : Int)).2) == 0))) ?_; intro a162 hF163; clear hF161
  have hF164 := hF163.atom (((((stakeS (((sputS u0).1) ++ u1) (u0.length : Int)).2.2) == 0) && (((smost (u0.length : Int)).2) == 0)) == true) (by kernel_rfl); clear hF163
  refine gp hF164 66 1 [] ((((stakeS (((sputS u0).1) ++ u1) (u0.length : Int)).2.2) == 0) && (((smost (u0.length : Int)).2) == 0)) (.int .i64 ((brunS ((sputS u0).1)).2)) rfl rfl ?_; intro a165 hF166; clear hF164
  refine gp hF166 67 1 [] ((((stakeS (((sputS u0).1) ++ u1) (u0.length : Int)).2.2) == 0) && (((smost (u0.length : Int)).2) == 0)) (.bool (((brunS ((sputS u0).1)).2) == 0)) rfl rfl ?_; intro a167 hF168; clear hF166
  refine st hF168 (.bool (((((stakeS (((sputS u0).1) ++ u1) (u0.length : Int)).2.2) == 0) && (((smost (u0.length : Int)).2) == 0)) && (((brunS ((sputS u0).1)).2) == 0))) (nog rfl _) rfl (by kernel_rfl) (pk_and hF168 (g := []) (m := 1) (b := (((stakeS (((sputS u0).1) ++ u1) (u0.length : Int)).2.2) == 0) && (((smost (u0.length : Int)).2) == 0)) (v := ((brunS ((sputS u0).1)).2) == 0) rfl (by kernel_rfl) (by kernel_rfl) (by kernel_rfl) rfl) ?_; intro a169 hF170; clear hF168
  refine s1 hF170 69 (.bool (((((stakeS (((sputS u0).1) ++ u1) (u0.length : Int)).2.2) == 0) && (((smost (u0.length : Int)).2) == 0)) && (((brunS ((sputS u0).1)).2) == 0))) ?_; intro a171 hF172; clear hF170
  have hF173 := hF172.atom ((((((stakeS (((sputS u0).1) ++ u1) (u0.length : Int)).2.2) == 0) && (((smost (u0.length : Int)).2) == 0)) && (((brunS ((sputS u0).1)).2) == 0)) == true) (by kernel_rfl); clear hF172
  refine gp hF173 70 2 [] (((((stakeS (((sputS u0).1) ++ u1) (u0.length : Int)).2.2) == 0) && (((smost (u0.length : Int)).2) == 0)) && (((brunS ((sputS u0).1)).2) == 0)) (str ((stakeS (((sputS u0).1) ++ u1) (u0.length : Int)).1)) rfl rfl ?_; intro a174 hF175; clear hF173
  refine gp hF175 71 2 [] (((((stakeS (((sputS u0).1) ++ u1) (u0.length : Int)).2.2) == 0) && (((smost (u0.length : Int)).2) == 0)) && (((brunS ((sputS u0).1)).2) == 0)) (str u0) rfl rfl ?_; intro a176 hF177; clear hF175
  refine gd hF177 (.bool (((stakeS (((sputS u0).1) ++ u1) (u0.length : Int)).1) == u0)) (m := 2) (cj := []) (bj := ((((stakeS (((sputS u0).1) ++ u1) (u0.length : Int)).2.2) == 0) && (((smost (u0.length : Int)).2) == 0)) && (((brunS ((sputS u0).1)).2) == 0)) rfl rfl (by kernel_rfl) rfl (by kernel_rfl) (by kernel_rfl) (by kernel_rfl) (fun hg => strcmp_run hF177 (g := [2]) (op := .eql) rfl (by kernel_rfl) (by kernel_rfl) (by decide) hg) ?_; intro a178 hF179; clear hF177
  refine st hF179 (.bool ((((((stakeS (((sputS u0).1) ++ u1) (u0.length : Int)).2.2) == 0) && (((smost (u0.length : Int)).2) == 0)) && (((brunS ((sputS u0).1)).2) == 0)) && (((stakeS (((sputS u0).1) ++ u1) (u0.length : Int)).1) == u0))) (nog rfl _) rfl (by kernel_rfl) (pk_and hF179 (g := []) (m := 2) (b := ((((stakeS (((sputS u0).1) ++ u1) (u0.length : Int)).2.2) == 0) && (((smost (u0.length : Int)).2) == 0)) && (((brunS ((sputS u0).1)).2) == 0)) (v := ((stakeS (((sputS u0).1) ++ u1) (u0.length : Int)).1) == u0) rfl (by kernel_rfl) (by kernel_rfl) (by kernel_rfl) rfl) ?_; intro a180 hF181; clear hF179
  refine s1 hF181 74 (.bool ((((((stakeS (((sputS u0).1) ++ u1) (u0.length : Int)).2.2) == 0) && (((smost (u0.length : Int)).2) == 0)) && (((brunS ((sputS u0).1)).2) == 0)) && (((stakeS (((sputS u0).1) ++ u1) (u0.length : Int)).1) == u0))) ?_; intro a182 hF183; clear hF181
  have hF184 := hF183.atom (((((((stakeS (((sputS u0).1) ++ u1) (u0.length : Int)).2.2) == 0) && (((smost (u0.length : Int)).2) == 0)) && (((brunS ((sputS u0).1)).2) == 0)) && (((stakeS (((sputS u0).1) ++ u1) (u0.length : Int)).1) == u0)) == true) (by kernel_rfl); clear hF183
  refine gp hF184 75 3 [] ((((((stakeS (((sputS u0).1) ++ u1) (u0.length : Int)).2.2) == 0) && (((smost (u0.length : Int)).2) == 0)) && (((brunS ((sputS u0).1)).2) == 0)) && (((stakeS (((sputS u0).1) ++ u1) (u0.length : Int)).1) == u0)) (.int .i64 ((stakeS (((sputS u0).1) ++ u1) (u0.length : Int)).2.1)) rfl rfl ?_; intro a185 hF186; clear hF184
  refine gp hF186 76 3 [] ((((((stakeS (((sputS u0).1) ++ u1) (u0.length : Int)).2.2) == 0) && (((smost (u0.length : Int)).2) == 0)) && (((brunS ((sputS u0).1)).2) == 0)) && (((stakeS (((sputS u0).1) ++ u1) (u0.length : Int)).1) == u0)) (str ((sputS u0).1)) rfl rfl ?_; intro a187 hF188; clear hF186
  refine gp hF188 77 3 [] ((((((stakeS (((sputS u0).1) ++ u1) (u0.length : Int)).2.2) == 0) && (((smost (u0.length : Int)).2) == 0)) && (((brunS ((sputS u0).1)).2) == 0)) && (((stakeS (((sputS u0).1) ++ u1) (u0.length : Int)).1) == u0)) (.int .i64 (((sputS u0).1).length : Int)) rfl rfl ?_; intro a189 hF190; clear hF188
  refine gp hF190 78 3 [] ((((((stakeS (((sputS u0).1) ++ u1) (u0.length : Int)).2.2) == 0) && (((smost (u0.length : Int)).2) == 0)) && (((brunS ((sputS u0).1)).2) == 0)) && (((stakeS (((sputS u0).1) ++ u1) (u0.length : Int)).1) == u0)) (.bool (((stakeS (((sputS u0).1) ++ u1) (u0.length : Int)).2.1) == (((sputS u0).1).length : Int))) rfl rfl ?_; intro a191 hF192; clear hF190
  refine st hF192 (.bool (((((((stakeS (((sputS u0).1) ++ u1) (u0.length : Int)).2.2) == 0) && (((smost (u0.length : Int)).2) == 0)) && (((brunS ((sputS u0).1)).2) == 0)) && (((stakeS (((sputS u0).1) ++ u1) (u0.length : Int)).1) == u0)) && (((stakeS (((sputS u0).1) ++ u1) (u0.length : Int)).2.1) == (((sputS u0).1).length : Int)))) (nog rfl _) rfl (by kernel_rfl) (pk_and hF192 (g := []) (m := 3) (b := (((((stakeS (((sputS u0).1) ++ u1) (u0.length : Int)).2.2) == 0) && (((smost (u0.length : Int)).2) == 0)) && (((brunS ((sputS u0).1)).2) == 0)) && (((stakeS (((sputS u0).1) ++ u1) (u0.length : Int)).1) == u0)) (v := ((stakeS (((sputS u0).1) ++ u1) (u0.length : Int)).2.1) == (((sputS u0).1).length : Int)) rfl (by kernel_rfl) (by kernel_rfl) (by kernel_rfl) rfl) ?_; intro a193 hF194; clear hF192
  refine s1 hF194 80 (.bool (((((((stakeS (((sputS u0).1) ++ u1) (u0.length : Int)).2.2) == 0) && (((smost (u0.length : Int)).2) == 0)) && (((brunS ((sputS u0).1)).2) == 0)) && (((stakeS (((sputS u0).1) ++ u1) (u0.length : Int)).1) == u0)) && (((stakeS (((sputS u0).1) ++ u1) (u0.length : Int)).2.1) == (((sputS u0).1).length : Int)))) ?_; intro a195 hF196; clear hF194
  have hF197 := hF196.atom ((((((((stakeS (((sputS u0).1) ++ u1) (u0.length : Int)).2.2) == 0) && (((smost (u0.length : Int)).2) == 0)) && (((brunS ((sputS u0).1)).2) == 0)) && (((stakeS (((sputS u0).1) ++ u1) (u0.length : Int)).1) == u0)) && (((stakeS (((sputS u0).1) ++ u1) (u0.length : Int)).2.1) == (((sputS u0).1).length : Int))) == true) (by kernel_rfl); clear hF196
  refine gp hF197 81 4 [] (((((((stakeS (((sputS u0).1) ++ u1) (u0.length : Int)).2.2) == 0) && (((smost (u0.length : Int)).2) == 0)) && (((brunS ((sputS u0).1)).2) == 0)) && (((stakeS (((sputS u0).1) ++ u1) (u0.length : Int)).1) == u0)) && (((stakeS (((sputS u0).1) ++ u1) (u0.length : Int)).2.1) == (((sputS u0).1).length : Int))) (str ((sputS u0).1)) rfl rfl ?_; intro a198 hF199; clear hF197
  refine gp hF199 82 4 [] (((((((stakeS (((sputS u0).1) ++ u1) (u0.length : Int)).2.2) == 0) && (((smost (u0.length : Int)).2) == 0)) && (((brunS ((sputS u0).1)).2) == 0)) && (((stakeS (((sputS u0).1) ++ u1) (u0.length : Int)).1) == u0)) && (((stakeS (((sputS u0).1) ++ u1) (u0.length : Int)).2.1) == (((sputS u0).1).length : Int))) (.int .i64 (((sputS u0).1).length : Int)) rfl rfl ?_; intro a200 hF201; clear hF199
  refine gp hF201 83 4 [] (((((((stakeS (((sputS u0).1) ++ u1) (u0.length : Int)).2.2) == 0) && (((smost (u0.length : Int)).2) == 0)) && (((brunS ((sputS u0).1)).2) == 0)) && (((stakeS (((sputS u0).1) ++ u1) (u0.length : Int)).1) == u0)) && (((stakeS (((sputS u0).1) ++ u1) (u0.length : Int)).2.1) == (((sputS u0).1).length : Int))) (.int .i64 ((smost (u0.length : Int)).1)) rfl rfl ?_; intro a202 hF203; clear hF201
  refine gp hF203 84 4 [] (((((((stakeS (((sputS u0).1) ++ u1) (u0.length : Int)).2.2) == 0) && (((smost (u0.length : Int)).2) == 0)) && (((brunS ((sputS u0).1)).2) == 0)) && (((stakeS (((sputS u0).1) ++ u1) (u0.length : Int)).1) == u0)) && (((stakeS (((sputS u0).1) ++ u1) (u0.length : Int)).2.1) == (((sputS u0).1).length : Int))) (.bool (decide ((((sputS u0).1).length : Int) ≤ ((smost (u0.length : Int)).1)))) rfl rfl ?_; intro a204 hF205; clear hF203
  refine st hF205 (.bool ((((((((stakeS (((sputS u0).1) ++ u1) (u0.length : Int)).2.2) == 0) && (((smost (u0.length : Int)).2) == 0)) && (((brunS ((sputS u0).1)).2) == 0)) && (((stakeS (((sputS u0).1) ++ u1) (u0.length : Int)).1) == u0)) && (((stakeS (((sputS u0).1) ++ u1) (u0.length : Int)).2.1) == (((sputS u0).1).length : Int))) && (decide ((((sputS u0).1).length : Int) ≤ ((smost (u0.length : Int)).1))))) (nog rfl _) rfl (by kernel_rfl) (pk_and hF205 (g := []) (m := 4) (b := ((((((stakeS (((sputS u0).1) ++ u1) (u0.length : Int)).2.2) == 0) && (((smost (u0.length : Int)).2) == 0)) && (((brunS ((sputS u0).1)).2) == 0)) && (((stakeS (((sputS u0).1) ++ u1) (u0.length : Int)).1) == u0)) && (((stakeS (((sputS u0).1) ++ u1) (u0.length : Int)).2.1) == (((sputS u0).1).length : Int))) (v := decide ((((sputS u0).1).length : Int) ≤ ((smost (u0.length : Int)).1))) rfl (by kernel_rfl) (by kernel_rfl) (by kernel_rfl) rfl) ?_; intro a206 hF207; clear hF205
  refine s1 hF207 86 (.bool ((((((((stakeS (((sputS u0).1) ++ u1) (u0.length : Int)).2.2) == 0) && (((smost (u0.length : Int)).2) == 0)) && (((brunS ((sputS u0).1)).2) == 0)) && (((stakeS (((sputS u0).1) ++ u1) (u0.length : Int)).1) == u0)) && (((stakeS (((sputS u0).1) ++ u1) (u0.length : Int)).2.1) == (((sputS u0).1).length : Int))) && (decide ((((sputS u0).1).length : Int) ≤ ((smost (u0.length : Int)).1))))) ?_; intro a208 hF209; clear hF207
  have hF210 := hF209.atom (((((((((stakeS (((sputS u0).1) ++ u1) (u0.length : Int)).2.2) == 0) && (((smost (u0.length : Int)).2) == 0)) && (((brunS ((sputS u0).1)).2) == 0)) && (((stakeS (((sputS u0).1) ++ u1) (u0.length : Int)).1) == u0)) && (((stakeS (((sputS u0).1) ++ u1) (u0.length : Int)).2.1) == (((sputS u0).1).length : Int))) && (decide ((((sputS u0).1).length : Int) ≤ ((smost (u0.length : Int)).1)))) == true) (by kernel_rfl); clear hF209
  refine gp hF210 87 5 [] ((((((((stakeS (((sputS u0).1) ++ u1) (u0.length : Int)).2.2) == 0) && (((smost (u0.length : Int)).2) == 0)) && (((brunS ((sputS u0).1)).2) == 0)) && (((stakeS (((sputS u0).1) ++ u1) (u0.length : Int)).1) == u0)) && (((stakeS (((sputS u0).1) ++ u1) (u0.length : Int)).2.1) == (((sputS u0).1).length : Int))) && (decide ((((sputS u0).1).length : Int) ≤ ((smost (u0.length : Int)).1)))) (.int .i64 ((brunS ((sputS u0).1)).1)) rfl rfl ?_; intro a211 hF212; clear hF210
  refine gp hF212 88 5 [] ((((((((stakeS (((sputS u0).1) ++ u1) (u0.length : Int)).2.2) == 0) && (((smost (u0.length : Int)).2) == 0)) && (((brunS ((sputS u0).1)).2) == 0)) && (((stakeS (((sputS u0).1) ++ u1) (u0.length : Int)).1) == u0)) && (((stakeS (((sputS u0).1) ++ u1) (u0.length : Int)).2.1) == (((sputS u0).1).length : Int))) && (decide ((((sputS u0).1).length : Int) ≤ ((smost (u0.length : Int)).1)))) (.bool (decide (((brunS ((sputS u0).1)).1) < 6))) rfl rfl ?_; intro a213 hF214; clear hF212
  refine st hF214 (.bool (((((((((stakeS (((sputS u0).1) ++ u1) (u0.length : Int)).2.2) == 0) && (((smost (u0.length : Int)).2) == 0)) && (((brunS ((sputS u0).1)).2) == 0)) && (((stakeS (((sputS u0).1) ++ u1) (u0.length : Int)).1) == u0)) && (((stakeS (((sputS u0).1) ++ u1) (u0.length : Int)).2.1) == (((sputS u0).1).length : Int))) && (decide ((((sputS u0).1).length : Int) ≤ ((smost (u0.length : Int)).1)))) && (decide (((brunS ((sputS u0).1)).1) < 6)))) (nog rfl _) rfl (by kernel_rfl) (pk_and hF214 (g := []) (m := 5) (b := (((((((stakeS (((sputS u0).1) ++ u1) (u0.length : Int)).2.2) == 0) && (((smost (u0.length : Int)).2) == 0)) && (((brunS ((sputS u0).1)).2) == 0)) && (((stakeS (((sputS u0).1) ++ u1) (u0.length : Int)).1) == u0)) && (((stakeS (((sputS u0).1) ++ u1) (u0.length : Int)).2.1) == (((sputS u0).1).length : Int))) && (decide ((((sputS u0).1).length : Int) ≤ ((smost (u0.length : Int)).1)))) (v := decide (((brunS ((sputS u0).1)).1) < 6)) rfl (by kernel_rfl) (by kernel_rfl) (by kernel_rfl) rfl) ?_; intro a215 hF216; clear hF214
  refine s1 hF216 4 (.bool (((((((((stakeS (((sputS u0).1) ++ u1) (u0.length : Int)).2.2) == 0) && (((smost (u0.length : Int)).2) == 0)) && (((brunS ((sputS u0).1)).2) == 0)) && (((stakeS (((sputS u0).1) ++ u1) (u0.length : Int)).1) == u0)) && (((stakeS (((sputS u0).1) ++ u1) (u0.length : Int)).2.1) == (((sputS u0).1).length : Int))) && (decide ((((sputS u0).1).length : Int) ≤ ((smost (u0.length : Int)).1)))) && (decide (((brunS ((sputS u0).1)).1) < 6)))) ?_; intro a217 hF218; clear hF216
  refine nlH (hQ148 _ _ ?_); clear hQ148 hQ148Q
  refine wp_ret ?_
  refine rt (fn := Tryd.f8) (v := .bool (((((((((stakeS (((sputS u0).1) ++ u1) (u0.length : Int)).2.2) == 0) && (((smost (u0.length : Int)).2) == 0)) && (((brunS ((sputS u0).1)).2) == 0)) && (((stakeS (((sputS u0).1) ++ u1) (u0.length : Int)).1) == u0)) && (((stakeS (((sputS u0).1) ++ u1) (u0.length : Int)).2.1) == (((sputS u0).1).length : Int))) && (decide ((((sputS u0).1).length : Int) ≤ ((smost (u0.length : Int)).1)))) && (decide (((brunS ((sputS u0).1)).1) < 6)))) hF218 (re1 hF218 (fn := Tryd.f8) rfl (by kernel_rfl)) ?_
  exact ⟨((((((((stakeS (((sputS u0).1) ++ u1) (u0.length : Int)).2.2) == 0) && (((smost (u0.length : Int)).2) == 0)) && (((brunS ((sputS u0).1)).2) == 0)) && (((stakeS (((sputS u0).1) ++ u1) (u0.length : Int)).1) == u0)) && (((stakeS (((sputS u0).1) ++ u1) (u0.length : Int)).2.1) == (((sputS u0).1).length : Int))) && (decide ((((sputS u0).1).length : Int) ≤ ((smost (u0.length : Int)).1)))) && (decide (((brunS ((sputS u0).1)).1) < 6)), rfl, hp92, hM137.below⟩

set_option maxRecDepth 100000 in
set_option maxHeartbeats 0 in
theorem LPut_walk (u0 : List UInt8)  (Z : Fz) (w : World)  (hZ : Z.on w) {K : Bool → Prop} (hp : LPut_vc u0 K) : Calls Tryd.prog 9 #[str u0] w fun e w' => ∃ r : Bool, e = .returned (.bool r) ∧ K r ∧ Below w.heap.size w w' := by
 refine enter0 Tryd.func9 rfl rfl (by kernel_rfl) ?_; intro a0 hF0; have hM0 := Mem.start w Z hZ; have hle0 := Fz.le.refl Z
 refine sqH ?_; intro hQ1Q hQ1
 refine s1 hF0 2 (.bool false) ?_; intro a2 hF3; clear hF0
 refine nlH (hQ1 _ _ ?_); clear hQ1 hQ1Q
 refine sqH ?_; intro hQ4Q hQ4
 refine s1 hF3 7 (str u0) ?_; intro a5 hF6; clear hF3
 refine fcl hF6 hM0 (.tuple #[str ((sputS u0).1), .int .i64 ((sputS u0).2)]) 30 #[str u0] (nog rfl _) rfl (by kernel_rfl) (fun _ => by kernel_rfl) (sput_fun u0 _ _ hM0.fz) ?_; intro a7 wd9 hF8 hM10; clear hF6 hM0
 refine s1 hF8 6 (.tuple #[str ((sputS u0).1), .int .i64 ((sputS u0).2)]) ?_; intro a11 hF12; clear hF8
 refine s1 hF12 9 (str ((sputS u0).1)) ?_; intro a13 hF14; clear hF12
 refine s1 hF14 10 (.int .i64 ((sputS u0).2)) ?_; intro a15 hF16; clear hF14
 refine s1 hF16 3 (str ((sputS u0).1)) ?_; intro a17 hF18; clear hF16
 refine s1 hF18 4 (.int .i64 ((sputS u0).2)) ?_; intro a19 hF20; clear hF18
 refine nlH (hQ4 _ _ ?_); clear hQ4 hQ4Q
 refine wp_seq ?_
 refine sqH ?_; intro hQ21Q hQ21
 refine s1 hF20 11 (str u0) ?_; intro a22 hF23; clear hF20
 refine fcl hF23 hM10 (.int .i64 (bcheckS u0)) 21 #[str u0] (nog rfl _) rfl (by kernel_rfl) (fun _ => by kernel_rfl) (rcheckrow_fun u0 _ _ hM10.fz) ?_; intro a24 wd26 hF25 hM27; clear hF23 hM10
 refine s1 hF25 5 (.int .i64 (bcheckS u0)) ?_; intro a28 hF29; clear hF25
 refine nlH (hQ21 _ _ ?_); clear hQ21 hQ21Q
 refine sqH ?_; intro hQ30Q hQ30
 refine fcl hF29 hM27 (.bool true) 28 #[] (nog rfl _) rfl (by kernel_rfl) (fun _ => by kernel_rfl) (stuffed_fun  _ _ hM27.fz) ?_; intro a31 wd33 hF32 hM34; clear hF29 hM27
 refine s1 hF32 14 (.bool false) ?_; intro a35 hF36; clear hF32
 refine s1 hF36 15 (.bool false) ?_; intro a37 hF38; clear hF36
 refine st hF38 (.int .i64 (bcheckS u0)) (by rw [wanted_of hF38 (b := false) rfl rfl (by kernel_rfl) (by kernel_rfl)]; rfl) rfl (by kernel_rfl) (p0 hF38 (by kernel_rfl)) ?_; intro a39 hF40; clear hF38
 refine st hF40 (.bool ((bcheckS u0) != 0)) (by rw [wanted_of hF40 (b := false) rfl rfl (by kernel_rfl) (by kernel_rfl)]; rfl) rfl (by kernel_rfl) (p0 hF40 (by kernel_rfl)) ?_; intro a41 hF42; clear hF40
 refine s1 hF42 18 (.bool ((bcheckS u0) != 0)) ?_; intro a43 hF44; clear hF42
 refine nlH (hQ30 _ _ ?_); clear hQ30 hQ30Q
 refine cd hF44 (t := (bcheckS u0) != 0) (by kernel_rfl) (fun hb45 => ?_) (fun hb45 => ?_)
 · -- yes
  have hp46 := hp.1 hb45; clear hp
  have hF47 : Fr 37 [] [⟨3, [], str ((sputS u0).1)⟩, ⟨4, [], .int .i64 ((sputS u0).2)⟩, ⟨5, [], .int .i64 (bcheckS u0)⟩] a43 := hF44.region (by kernel_rfl) (by kernel_rfl); clear hF44
  refine sqH ?_; intro hQ48Q hQ48
  refine fcl hF47 hM34 (.bool true) 28 #[] (nog rfl _) rfl (by kernel_rfl) (fun _ => by kernel_rfl) (stuffed_fun  _ _ hM34.fz) ?_; intro a49 wd51 hF50 hM52; clear hF47 hM34
  refine s1 hF50 20 (.bool true) ?_; intro a53 hF54; clear hF50
  refine st hF54 (.int .i64 ((sputS u0).2)) (by rw [wanted_of hF54 (b := true) rfl rfl (by kernel_rfl) (by kernel_rfl)]; rfl) rfl (by kernel_rfl) (p0 hF54 (by kernel_rfl)) ?_; intro a55 hF56; clear hF54
  refine st hF56 (.int .i64 (bcheckS u0)) (by rw [wanted_of hF56 (b := true) rfl rfl (by kernel_rfl) (by kernel_rfl)]; rfl) rfl (by kernel_rfl) (p0 hF56 (by kernel_rfl)) ?_; intro a57 hF58; clear hF56
  refine st hF58 (.bool (((sputS u0).2) == (bcheckS u0))) (by rw [wanted_of hF58 (b := true) rfl rfl (by kernel_rfl) (by kernel_rfl)]; rfl) rfl (by kernel_rfl) (p0 hF58 (by kernel_rfl)) ?_; intro a59 hF60; clear hF58
  refine s1 hF60 24 (.bool (((sputS u0).2) == (bcheckS u0))) ?_; intro a61 hF62; clear hF60
  refine s1 hF62 25 (.bool (((sputS u0).2) == (bcheckS u0))) ?_; intro a63 hF64; clear hF62
  have hF65 := hF64.atom ((((sputS u0).2) == (bcheckS u0)) == true) (by kernel_rfl); clear hF64
  refine gp hF65 26 0 [] (((sputS u0).2) == (bcheckS u0)) (str ((sputS u0).1)) rfl rfl ?_; intro a66 hF67; clear hF65
  refine gd hF67 (.bool (((sputS u0).1) == [])) (m := 0) (cj := []) (bj := ((sputS u0).2) == (bcheckS u0)) rfl rfl (by kernel_rfl) rfl (by kernel_rfl) (by kernel_rfl) (by kernel_rfl) (fun hg => strcmp_run hF67 (g := [0]) (op := .eql) rfl (by kernel_rfl) (by kernel_rfl) (by decide) hg) ?_; intro a68 hF69; clear hF67
  refine st hF69 (.bool ((((sputS u0).2) == (bcheckS u0)) && (((sputS u0).1) == []))) (nog rfl _) rfl (by kernel_rfl) (pk_and hF69 (g := []) (m := 0) (b := ((sputS u0).2) == (bcheckS u0)) (v := ((sputS u0).1) == []) rfl (by kernel_rfl) (by kernel_rfl) (by kernel_rfl) rfl) ?_; intro a70 hF71; clear hF69
  refine s1 hF71 2 (.bool ((((sputS u0).2) == (bcheckS u0)) && (((sputS u0).1) == []))) ?_; intro a72 hF73; clear hF71
  refine nlH (hQ48 _ _ ?_); clear hQ48 hQ48Q
  refine wp_ret ?_
  refine thr ?_
  refine rt (fn := Tryd.f9) (v := .bool ((((sputS u0).2) == (bcheckS u0)) && (((sputS u0).1) == []))) hF73 (re1 hF73 (fn := Tryd.f9) rfl (by kernel_rfl)) ?_
  exact ⟨(((sputS u0).2) == (bcheckS u0)) && (((sputS u0).1) == []), rfl, hp46, hM52.below⟩
 · -- no
  have hp74 := hp.2 hb45; clear hp
  refine wp_skip ?_
  refine thn ?_
  have hF75 : Fr 37 [] [⟨0, [], str u0⟩, ⟨3, [], str ((sputS u0).1)⟩, ⟨4, [], .int .i64 ((sputS u0).2)⟩] a43 := hF44.region (by kernel_rfl) (by kernel_rfl); clear hF44
  refine sqH ?_; intro hQ76Q hQ76
  refine s1 hF75 29 (.int .i64 ((sputS u0).2)) ?_; intro a77 hF78; clear hF75
  refine s1 hF78 30 (.bool (((sputS u0).2) == 0)) ?_; intro a79 hF80; clear hF78
  refine s1 hF80 31 (.bool (((sputS u0).2) == 0)) ?_; intro a81 hF82; clear hF80
  have hF83 := hF82.atom ((((sputS u0).2) == 0) == true) (by kernel_rfl); clear hF82
  refine gp hF83 32 0 [] (((sputS u0).2) == 0) (str ((sputS u0).1)) rfl rfl ?_; intro a84 hF85; clear hF83
  refine gp hF85 33 0 [] (((sputS u0).2) == 0) (str u0) rfl rfl ?_; intro a86 hF87; clear hF85
  rcases Bool.eq_false_or_eq_true (((sputS u0).2) == 0) with hb88 | hb88
  · -- true
   have hp89 := hp74.1 hb88; clear hp74
   have hF90 := hF87.reval (d := 31) (c := []) (v := .bool (((sputS u0).2) == 0)) (by kernel_rfl) (.bool true) (by rw [hb88]); clear hF87
   have hF91 := hF90.setc (d := 32) (c := [0]) (v := str ((sputS u0).1)) (by kernel_rfl) (v' := str ((sputS u0).1)) (by rw [hb88]; kernel_rfl); clear hF90
   have hF92 := hF91.setc (d := 33) (c := [0]) (v := str u0) (by kernel_rfl) (v' := str u0) (by rw [hb88]; kernel_rfl); clear hF91
   have hc93 := hp89.1; have hp94 := hp89.2; clear hp89
   refine fcl hF92 hM34 (str (putbitsS u0)) 32 #[str u0] (by rw [wanted_of hF92 (b := true) rfl rfl (by kernel_rfl) (by kernel_rfl)]; rfl) rfl (by kernel_rfl) (fun _ => by kernel_rfl) (putbits_fun u0 hc93 _ _ hM34.fz) ?_; intro a95 wd97 hF96 hM98; clear hF92 hM34
   refine st hF96 (.bool (((sputS u0).1) == (putbitsS u0))) (by rw [wanted_of hF96 (b := true) rfl rfl (by kernel_rfl) (by kernel_rfl)]; rfl) rfl (by kernel_rfl) (strcmp_run hF96 (g := []) (op := .eql) rfl (by kernel_rfl) (by kernel_rfl) (by decide) rfl) ?_; intro a99 hF100; clear hF96
   refine s1 hF100 36 (.bool (((sputS u0).1) == (putbitsS u0))) ?_; intro a101 hF102; clear hF100
   refine s1 hF102 2 (.bool (((sputS u0).1) == (putbitsS u0))) ?_; intro a103 hF104; clear hF102
   refine nlH (hQ76 _ _ ?_); clear hQ76 hQ76Q
   refine wp_ret ?_
   refine rt (fn := Tryd.f9) (v := .bool (((sputS u0).1) == (putbitsS u0))) hF104 (re1 hF104 (fn := Tryd.f9) rfl (by kernel_rfl)) ?_
   exact ⟨((sputS u0).1) == (putbitsS u0), rfl, hp94, hM98.below⟩
  · -- false
   have hp105 := hp74.2 hb88; clear hp74
   have hF106 := hF87.reval (d := 31) (c := []) (v := .bool (((sputS u0).2) == 0)) (by kernel_rfl) (.bool false) (by rw [hb88]); clear hF87
   have hF107 := hF106.setc (d := 32) (c := [0]) (v := str ((sputS u0).1)) (by kernel_rfl) (v' := undef) (by rw [hb88]; kernel_rfl); clear hF106
   have hF108 := hF107.setc (d := 33) (c := [0]) (v := str u0) (by kernel_rfl) (v' := undef) (by rw [hb88]; kernel_rfl); clear hF107
   refine sk hF108 (b := false) rfl rfl (by kernel_rfl) (by kernel_rfl) rfl rfl (by kernel_rfl) ?_; intro a109 hF110; clear hF108
   refine sk hF110 (b := false) rfl rfl (by kernel_rfl) (by kernel_rfl) rfl rfl (by kernel_rfl) ?_; intro a111 hF112; clear hF110
   refine s1 hF112 36 (.bool false) ?_; intro a113 hF114; clear hF112
   refine s1 hF114 2 (.bool false) ?_; intro a115 hF116; clear hF114
   refine nlH (hQ76 _ _ ?_); clear hQ76 hQ76Q
   refine wp_ret ?_
   refine rt (fn := Tryd.f9) (v := .bool false) hF116 (re1 hF116 (fn := Tryd.f9) rfl (by kernel_rfl)) ?_
   exact ⟨false, rfl, hp105, hM34.below⟩

set_option maxRecDepth 100000 in
set_option maxHeartbeats 0 in
theorem LTake_walk (u0 : List UInt8) (u1 : Int)  (Z : Fz) (w : World)  (hZ : Z.on w) {K : Bool → Prop} (hp : LTake_vc u0 u1 K) : Calls Tryd.prog 10 #[str u0, .int .i64 u1] w fun e w' => ∃ r : Bool, e = .returned (.bool r) ∧ K r ∧ Below w.heap.size w w' := by
 refine enter0 Tryd.func10 rfl rfl (by kernel_rfl) ?_; intro a0 hF0; have hM0 := Mem.start w Z hZ; have hle0 := Fz.le.refl Z
 refine sqH ?_; intro hQ1Q hQ1
 refine s1 hF0 4 (.bool false) ?_; intro a2 hF3; clear hF0
 refine nlH (hQ1 _ _ ?_); clear hQ1 hQ1Q
 refine sqH ?_; intro hQ4Q hQ4
 refine s1 hF3 13 (str u0) ?_; intro a5 hF6; clear hF3
 refine s1 hF6 14 (.int .i64 u1) ?_; intro a7 hF8; clear hF6
 have hc9 := hp.1; have hp10 := hp.2; clear hp
 refine fcl hF8 hM0 (.tuple #[str ((stakeS u0 u1).1), .int .i64 ((stakeS u0 u1).2.1), .int .i64 ((stakeS u0 u1).2.2)]) 27 #[str u0, .int .i64 u1] (nog rfl _) rfl (by kernel_rfl) (fun _ => by kernel_rfl) (stake_fun u0 u1 hc9 _ _ hM0.fz) ?_; intro a11 wd13 hF12 hM14; clear hF8 hM0
 refine s1 hF12 12 (.tuple #[str ((stakeS u0 u1).1), .int .i64 ((stakeS u0 u1).2.1), .int .i64 ((stakeS u0 u1).2.2)]) ?_; intro a15 hF16; clear hF12
 refine s1 hF16 16 (str ((stakeS u0 u1).1)) ?_; intro a17 hF18; clear hF16
 refine s1 hF18 17 (.int .i64 ((stakeS u0 u1).2.1)) ?_; intro a19 hF20; clear hF18
 refine s1 hF20 18 (.int .i64 ((stakeS u0 u1).2.2)) ?_; intro a21 hF22; clear hF20
 refine s1 hF22 5 (str ((stakeS u0 u1).1)) ?_; intro a23 hF24; clear hF22
 refine s1 hF24 6 (.int .i64 ((stakeS u0 u1).2.1)) ?_; intro a25 hF26; clear hF24
 refine s1 hF26 7 (.int .i64 ((stakeS u0 u1).2.2)) ?_; intro a27 hF28; clear hF26
 refine nlH (hQ4 _ _ ?_); clear hQ4 hQ4Q
 refine sqH ?_; intro hQ29Q hQ29
 refine s1 hF28 19 (str u0) ?_; intro a30 hF31; clear hF28
 refine fcl hF31 hM14 (.int .i64 (bcheckS u0)) 21 #[str u0] (nog rfl _) rfl (by kernel_rfl) (fun _ => by kernel_rfl) (rcheckrow_fun u0 _ _ hM14.fz) ?_; intro a32 wd34 hF33 hM35; clear hF31 hM14
 refine s1 hF33 8 (.int .i64 (bcheckS u0)) ?_; intro a36 hF37; clear hF33
 refine nlH (hQ29 _ _ ?_); clear hQ29 hQ29Q
 refine wp_seq ?_
 have hF38 : Fr 71 [] [⟨0, [], str u0⟩, ⟨1, [], .int .i64 u1⟩, ⟨5, [], str ((stakeS u0 u1).1)⟩, ⟨6, [], .int .i64 ((stakeS u0 u1).2.1)⟩, ⟨7, [], .int .i64 ((stakeS u0 u1).2.2)⟩, ⟨8, [], .int .i64 (bcheckS u0)⟩] a36 := hF37.region (by kernel_rfl) (by kernel_rfl); clear hF37
 refine sqH ?_; intro hQ39Q hQ39
 refine s1 hF38 21 (.int .i64 (bcheckS u0)) ?_; intro a40 hF41; clear hF38
 refine s1 hF41 22 (.bool ((bcheckS u0) == 0)) ?_; intro a42 hF43; clear hF41
 refine s1 hF43 23 (.bool ((bcheckS u0) == 0)) ?_; intro a44 hF45; clear hF43
 have hF46 := hF45.atom (((bcheckS u0) == 0) == true) (by kernel_rfl); clear hF45
 refine gp hF46 24 0 [] ((bcheckS u0) == 0) (.int .i64 u1) rfl rfl ?_; intro a47 hF48; clear hF46
 refine gp hF48 25 0 [] ((bcheckS u0) == 0) (.bool (decide (u1 < 0))) rfl rfl ?_; intro a49 hF50; clear hF48
 refine gp hF50 26 0 [] ((bcheckS u0) == 0) (.bool (decide (u1 < 0))) rfl rfl ?_; intro a51 hF52; clear hF50
 have hF53 := hF52.atom ((decide (u1 < 0)) == false) (by kernel_rfl); clear hF52
 refine gp hF53 27 1 [0] (decide (u1 < 0)) (.int .i64 u1) rfl rfl ?_; intro a54 hF55; clear hF53
 refine gp hF55 28 1 [0] (decide (u1 < 0)) (.bool (decide (u1 > 1000))) rfl rfl ?_; intro a56 hF57; clear hF55
 refine gd hF57 (.bool ((decide (u1 < 0)) || (decide (u1 > 1000)))) (m := 0) (cj := []) (bj := (bcheckS u0) == 0) rfl rfl (by kernel_rfl) rfl (by kernel_rfl) (by kernel_rfl) (by kernel_rfl) (fun hg => pk_or hF57 (g := [0]) (m := 1) (b := decide (u1 < 0)) (v := decide (u1 > 1000)) rfl (by kernel_rfl) (by kernel_rfl) (by kernel_rfl) hg) ?_; intro a58 hF59; clear hF57
 refine st hF59 (.bool (((bcheckS u0) == 0) && ((decide (u1 < 0)) || (decide (u1 > 1000))))) (nog rfl _) rfl (by kernel_rfl) (pk_and hF59 (g := []) (m := 0) (b := (bcheckS u0) == 0) (v := (decide (u1 < 0)) || (decide (u1 > 1000))) rfl (by kernel_rfl) (by kernel_rfl) (by kernel_rfl) rfl) ?_; intro a60 hF61; clear hF59
 refine nlH (hQ39 _ _ ?_); clear hQ39 hQ39Q
 refine cd hF61 (t := ((bcheckS u0) == 0) && ((decide (u1 < 0)) || (decide (u1 > 1000)))) (by kernel_rfl) (fun hb62 => ?_) (fun hb62 => ?_)
 · -- yes
  have hp63 := hp10.1 hb62; clear hp10
  have hF64 : Fr 71 [] [⟨0, [], str u0⟩, ⟨1, [], .int .i64 u1⟩, ⟨5, [], str ((stakeS u0 u1).1)⟩, ⟨6, [], .int .i64 ((stakeS u0 u1).2.1)⟩, ⟨7, [], .int .i64 ((stakeS u0 u1).2.2)⟩] a60 := hF61.region (by kernel_rfl) (by kernel_rfl); clear hF61
  refine rgH ?_; intro hQ65Q hQ65
  refine s1 hF64 8 (.int .i64 3) ?_; intro a66 hF67; clear hF64
  refine nlH (hQ65 _ _ ?_); clear hQ65 hQ65Q
  refine thn ?_
  refine wp_seq ?_
  refine sqH ?_; intro hQ68Q hQ68
  refine fcl hF67 hM35 (.bool true) 28 #[] (nog rfl _) rfl (by kernel_rfl) (fun _ => by kernel_rfl) (stuffed_fun  _ _ hM35.fz) ?_; intro a69 wd71 hF70 hM72; clear hF67 hM35
  refine s1 hF70 32 (.bool false) ?_; intro a73 hF74; clear hF70
  refine s1 hF74 33 (.bool false) ?_; intro a75 hF76; clear hF74
  refine st hF76 (.int .i64 3) (by rw [wanted_of hF76 (b := false) rfl rfl (by kernel_rfl) (by kernel_rfl)]; rfl) rfl (by kernel_rfl) (p0 hF76 (by kernel_rfl)) ?_; intro a77 hF78; clear hF76
  refine st hF78 (.bool true) (by rw [wanted_of hF78 (b := false) rfl rfl (by kernel_rfl) (by kernel_rfl)]; rfl) rfl (by kernel_rfl) (p0 hF78 (by kernel_rfl)) ?_; intro a79 hF80; clear hF78
  refine s1 hF80 36 (.bool true) ?_; intro a81 hF82; clear hF80
  refine nlH (hQ68 _ _ ?_); clear hQ68 hQ68Q
  refine cdT hF82 (by kernel_rfl) ?_
  refine sqH ?_; intro hQ83Q hQ83
  refine fcl hF82 hM72 (.bool true) 28 #[] (nog rfl _) rfl (by kernel_rfl) (fun _ => by kernel_rfl) (stuffed_fun  _ _ hM72.fz) ?_; intro a84 wd86 hF85 hM87; clear hF82 hM72
  refine s1 hF85 38 (.bool true) ?_; intro a88 hF89; clear hF85
  refine st hF89 (.int .i64 ((stakeS u0 u1).2.2)) (by rw [wanted_of hF89 (b := true) rfl rfl (by kernel_rfl) (by kernel_rfl)]; rfl) rfl (by kernel_rfl) (p0 hF89 (by kernel_rfl)) ?_; intro a90 hF91; clear hF89
  refine st hF91 (.int .i64 3) (by rw [wanted_of hF91 (b := true) rfl rfl (by kernel_rfl) (by kernel_rfl)]; rfl) rfl (by kernel_rfl) (p0 hF91 (by kernel_rfl)) ?_; intro a92 hF93; clear hF91
  refine st hF93 (.bool (((stakeS u0 u1).2.2) == 3)) (by rw [wanted_of hF93 (b := true) rfl rfl (by kernel_rfl) (by kernel_rfl)]; rfl) rfl (by kernel_rfl) (p0 hF93 (by kernel_rfl)) ?_; intro a94 hF95; clear hF93
  refine s1 hF95 42 (.bool (((stakeS u0 u1).2.2) == 3)) ?_; intro a96 hF97; clear hF95
  refine s1 hF97 43 (.bool (((stakeS u0 u1).2.2) == 3)) ?_; intro a98 hF99; clear hF97
  have hF100 := hF99.atom ((((stakeS u0 u1).2.2) == 3) == true) (by kernel_rfl); clear hF99
  refine gp hF100 44 0 [] (((stakeS u0 u1).2.2) == 3) (str ((stakeS u0 u1).1)) rfl rfl ?_; intro a101 hF102; clear hF100
  refine gd hF102 (.bool (((stakeS u0 u1).1) == [])) (m := 0) (cj := []) (bj := ((stakeS u0 u1).2.2) == 3) rfl rfl (by kernel_rfl) rfl (by kernel_rfl) (by kernel_rfl) (by kernel_rfl) (fun hg => strcmp_run hF102 (g := [0]) (op := .eql) rfl (by kernel_rfl) (by kernel_rfl) (by decide) hg) ?_; intro a103 hF104; clear hF102
  refine st hF104 (.bool ((((stakeS u0 u1).2.2) == 3) && (((stakeS u0 u1).1) == []))) (nog rfl _) rfl (by kernel_rfl) (pk_and hF104 (g := []) (m := 0) (b := ((stakeS u0 u1).2.2) == 3) (v := ((stakeS u0 u1).1) == []) rfl (by kernel_rfl) (by kernel_rfl) (by kernel_rfl) rfl) ?_; intro a105 hF106; clear hF104
  refine s1 hF106 47 (.bool ((((stakeS u0 u1).2.2) == 3) && (((stakeS u0 u1).1) == []))) ?_; intro a107 hF108; clear hF106
  have hF109 := hF108.atom (((((stakeS u0 u1).2.2) == 3) && (((stakeS u0 u1).1) == [])) == true) (by kernel_rfl); clear hF108
  refine gp hF109 48 1 [] ((((stakeS u0 u1).2.2) == 3) && (((stakeS u0 u1).1) == [])) (.int .i64 ((stakeS u0 u1).2.1)) rfl rfl ?_; intro a110 hF111; clear hF109
  refine gp hF111 49 1 [] ((((stakeS u0 u1).2.2) == 3) && (((stakeS u0 u1).1) == [])) (.bool (((stakeS u0 u1).2.1) == 0)) rfl rfl ?_; intro a112 hF113; clear hF111
  refine st hF113 (.bool (((((stakeS u0 u1).2.2) == 3) && (((stakeS u0 u1).1) == [])) && (((stakeS u0 u1).2.1) == 0))) (nog rfl _) rfl (by kernel_rfl) (pk_and hF113 (g := []) (m := 1) (b := (((stakeS u0 u1).2.2) == 3) && (((stakeS u0 u1).1) == [])) (v := ((stakeS u0 u1).2.1) == 0) rfl (by kernel_rfl) (by kernel_rfl) (by kernel_rfl) rfl) ?_; intro a114 hF115; clear hF113
  refine s1 hF115 4 (.bool (((((stakeS u0 u1).2.2) == 3) && (((stakeS u0 u1).1) == [])) && (((stakeS u0 u1).2.1) == 0))) ?_; intro a116 hF117; clear hF115
  refine nlH (hQ83 _ _ ?_); clear hQ83 hQ83Q
  refine wp_ret ?_
  refine thr ?_
  refine rt (fn := Tryd.f10) (v := .bool (((((stakeS u0 u1).2.2) == 3) && (((stakeS u0 u1).1) == [])) && (((stakeS u0 u1).2.1) == 0))) hF117 (re1 hF117 (fn := Tryd.f10) rfl (by kernel_rfl)) ?_
  exact ⟨((((stakeS u0 u1).2.2) == 3) && (((stakeS u0 u1).1) == [])) && (((stakeS u0 u1).2.1) == 0), rfl, hp63, hM87.below⟩
 · -- no
  have hp118 := hp10.2 hb62; clear hp10
  refine wp_skip ?_
  refine thn ?_
  refine wp_seq ?_
  have hF119 : Fr 71 [] [⟨0, [], str u0⟩, ⟨1, [], .int .i64 u1⟩, ⟨5, [], str ((stakeS u0 u1).1)⟩, ⟨6, [], .int .i64 ((stakeS u0 u1).2.1)⟩, ⟨7, [], .int .i64 ((stakeS u0 u1).2.2)⟩, ⟨8, [], .int .i64 (bcheckS u0)⟩] a60 := hF61.region (by kernel_rfl) (by kernel_rfl); clear hF61
  refine sqH ?_; intro hQ120Q hQ120
  refine fcl hF119 hM35 (.bool true) 28 #[] (nog rfl _) rfl (by kernel_rfl) (fun _ => by kernel_rfl) (stuffed_fun  _ _ hM35.fz) ?_; intro a121 wd123 hF122 hM124; clear hF119 hM35
  refine s1 hF122 32 (.bool false) ?_; intro a125 hF126; clear hF122
  refine s1 hF126 33 (.bool false) ?_; intro a127 hF128; clear hF126
  refine st hF128 (.int .i64 (bcheckS u0)) (by rw [wanted_of hF128 (b := false) rfl rfl (by kernel_rfl) (by kernel_rfl)]; rfl) rfl (by kernel_rfl) (p0 hF128 (by kernel_rfl)) ?_; intro a129 hF130; clear hF128
  refine st hF130 (.bool ((bcheckS u0) != 0)) (by rw [wanted_of hF130 (b := false) rfl rfl (by kernel_rfl) (by kernel_rfl)]; rfl) rfl (by kernel_rfl) (p0 hF130 (by kernel_rfl)) ?_; intro a131 hF132; clear hF130
  refine s1 hF132 36 (.bool ((bcheckS u0) != 0)) ?_; intro a133 hF134; clear hF132
  refine nlH (hQ120 _ _ ?_); clear hQ120 hQ120Q
  refine cd hF134 (t := (bcheckS u0) != 0) (by kernel_rfl) (fun hb135 => ?_) (fun hb135 => ?_)
  · -- yes
   have hp136 := hp118.1 hb135; clear hp118
   refine sqH ?_; intro hQ137Q hQ137
   refine fcl hF134 hM124 (.bool true) 28 #[] (nog rfl _) rfl (by kernel_rfl) (fun _ => by kernel_rfl) (stuffed_fun  _ _ hM124.fz) ?_; intro a138 wd140 hF139 hM141; clear hF134 hM124
   refine s1 hF139 38 (.bool true) ?_; intro a142 hF143; clear hF139
   refine st hF143 (.int .i64 ((stakeS u0 u1).2.2)) (by rw [wanted_of hF143 (b := true) rfl rfl (by kernel_rfl) (by kernel_rfl)]; rfl) rfl (by kernel_rfl) (p0 hF143 (by kernel_rfl)) ?_; intro a144 hF145; clear hF143
   refine st hF145 (.int .i64 (bcheckS u0)) (by rw [wanted_of hF145 (b := true) rfl rfl (by kernel_rfl) (by kernel_rfl)]; rfl) rfl (by kernel_rfl) (p0 hF145 (by kernel_rfl)) ?_; intro a146 hF147; clear hF145
   refine st hF147 (.bool (((stakeS u0 u1).2.2) == (bcheckS u0))) (by rw [wanted_of hF147 (b := true) rfl rfl (by kernel_rfl) (by kernel_rfl)]; rfl) rfl (by kernel_rfl) (p0 hF147 (by kernel_rfl)) ?_; intro a148 hF149; clear hF147
   refine s1 hF149 42 (.bool (((stakeS u0 u1).2.2) == (bcheckS u0))) ?_; intro a150 hF151; clear hF149
   refine s1 hF151 43 (.bool (((stakeS u0 u1).2.2) == (bcheckS u0))) ?_; intro a152 hF153; clear hF151
   have hF154 := hF153.atom ((((stakeS u0 u1).2.2) == (bcheckS u0)) == true) (by kernel_rfl); clear hF153
   refine gp hF154 44 0 [] (((stakeS u0 u1).2.2) == (bcheckS u0)) (str ((stakeS u0 u1).1)) rfl rfl ?_; intro a155 hF156; clear hF154
   refine gd hF156 (.bool (((stakeS u0 u1).1) == [])) (m := 0) (cj := []) (bj := ((stakeS u0 u1).2.2) == (bcheckS u0)) rfl rfl (by kernel_rfl) rfl (by kernel_rfl) (by kernel_rfl) (by kernel_rfl) (fun hg => strcmp_run hF156 (g := [0]) (op := .eql) rfl (by kernel_rfl) (by kernel_rfl) (by decide) hg) ?_; intro a157 hF158; clear hF156
   refine st hF158 (.bool ((((stakeS u0 u1).2.2) == (bcheckS u0)) && (((stakeS u0 u1).1) == []))) (nog rfl _) rfl (by kernel_rfl) (pk_and hF158 (g := []) (m := 0) (b := ((stakeS u0 u1).2.2) == (bcheckS u0)) (v := ((stakeS u0 u1).1) == []) rfl (by kernel_rfl) (by kernel_rfl) (by kernel_rfl) rfl) ?_; intro a159 hF160; clear hF158
   refine s1 hF160 47 (.bool ((((stakeS u0 u1).2.2) == (bcheckS u0)) && (((stakeS u0 u1).1) == []))) ?_; intro a161 hF162; clear hF160
   have hF163 := hF162.atom (((((stakeS u0 u1).2.2) == (bcheckS u0)) && (((stakeS u0 u1).1) == [])) == true) (by kernel_rfl); clear hF162
   refine gp hF163 48 1 [] ((((stakeS u0 u1).2.2) == (bcheckS u0)) && (((stakeS u0 u1).1) == [])) (.int .i64 ((stakeS u0 u1).2.1)) rfl rfl ?_; intro a164 hF165; clear hF163
   refine gp hF165 49 1 [] ((((stakeS u0 u1).2.2) == (bcheckS u0)) && (((stakeS u0 u1).1) == [])) (.bool (((stakeS u0 u1).2.1) == 0)) rfl rfl ?_; intro a166 hF167; clear hF165
   refine st hF167 (.bool (((((stakeS u0 u1).2.2) == (bcheckS u0)) && (((stakeS u0 u1).1) == [])) && (((stakeS u0 u1).2.1) == 0))) (nog rfl _) rfl (by kernel_rfl) (pk_and hF167 (g := []) (m := 1) (b := (((stakeS u0 u1).2.2) == (bcheckS u0)) && (((stakeS u0 u1).1) == [])) (v := ((stakeS u0 u1).2.1) == 0) rfl (by kernel_rfl) (by kernel_rfl) (by kernel_rfl) rfl) ?_; intro a168 hF169; clear hF167
   refine s1 hF169 4 (.bool (((((stakeS u0 u1).2.2) == (bcheckS u0)) && (((stakeS u0 u1).1) == [])) && (((stakeS u0 u1).2.1) == 0))) ?_; intro a170 hF171; clear hF169
   refine nlH (hQ137 _ _ ?_); clear hQ137 hQ137Q
   refine wp_ret ?_
   refine thr ?_
   refine rt (fn := Tryd.f10) (v := .bool (((((stakeS u0 u1).2.2) == (bcheckS u0)) && (((stakeS u0 u1).1) == [])) && (((stakeS u0 u1).2.1) == 0))) hF171 (re1 hF171 (fn := Tryd.f10) rfl (by kernel_rfl)) ?_
   exact ⟨((((stakeS u0 u1).2.2) == (bcheckS u0)) && (((stakeS u0 u1).1) == [])) && (((stakeS u0 u1).2.1) == 0), rfl, hp136, hM141.below⟩
  · -- no
   have hp172 := hp118.2 hb135; clear hp118
   refine wp_skip ?_
   refine thn ?_
   refine sqH ?_; intro hQ173Q hQ173
   refine s1 hF134 52 (str u0) ?_; intro a174 hF175; clear hF134
   refine s1 hF175 53 (.int .i64 u1) ?_; intro a176 hF177; clear hF175
   have hc178 := hp172.1; have hp179 := hp172.2; clear hp172
   refine fcl hF177 hM124 (.tuple #[str ((takebitsS u0 u1).1), .int .i64 ((takebitsS u0 u1).2.1), .int .i64 ((takebitsS u0 u1).2.2)]) 33 #[str u0, .int .i64 u1] (nog rfl _) rfl (by kernel_rfl) (fun _ => by kernel_rfl) (takebits_fun u0 u1 hc178 _ _ hM124.fz) ?_; intro a180 wd182 hF181 hM183; clear hF177 hM124
   refine s1 hF181 51 (.tuple #[str ((takebitsS u0 u1).1), .int .i64 ((takebitsS u0 u1).2.1), .int .i64 ((takebitsS u0 u1).2.2)]) ?_; intro a184 hF185; clear hF181
   refine s1 hF185 55 (str ((takebitsS u0 u1).1)) ?_; intro a186 hF187; clear hF185
   refine s1 hF187 56 (.int .i64 ((takebitsS u0 u1).2.1)) ?_; intro a188 hF189; clear hF187
   refine s1 hF189 57 (.int .i64 ((takebitsS u0 u1).2.2)) ?_; intro a190 hF191; clear hF189
   refine s1 hF191 9 (str ((takebitsS u0 u1).1)) ?_; intro a192 hF193; clear hF191
   refine s1 hF193 10 (.int .i64 ((takebitsS u0 u1).2.1)) ?_; intro a194 hF195; clear hF193
   refine s1 hF195 11 (.int .i64 ((takebitsS u0 u1).2.2)) ?_; intro a196 hF197; clear hF195
   refine nlH (hQ173 _ _ ?_); clear hQ173 hQ173Q
   have hF198 : Fr 71 [] [⟨5, [], str ((stakeS u0 u1).1)⟩, ⟨6, [], .int .i64 ((stakeS u0 u1).2.1)⟩, ⟨7, [], .int .i64 ((stakeS u0 u1).2.2)⟩, ⟨9, [], str ((takebitsS u0 u1).1)⟩, ⟨10, [], .int .i64 ((takebitsS u0 u1).2.1)⟩, ⟨11, [], .int .i64 ((takebitsS u0 u1).2.2)⟩] a196 := hF197.region (by kernel_rfl) (by kernel_rfl); clear hF197
   refine sqH ?_; intro hQ199Q hQ199
   refine s1 hF198 58 (.int .i64 ((stakeS u0 u1).2.2)) ?_; intro a200 hF201; clear hF198
   refine s1 hF201 59 (.int .i64 ((takebitsS u0 u1).2.2)) ?_; intro a202 hF203; clear hF201
   refine s1 hF203 60 (.bool (((stakeS u0 u1).2.2) == ((takebitsS u0 u1).2.2))) ?_; intro a204 hF205; clear hF203
   refine s1 hF205 61 (.bool (((stakeS u0 u1).2.2) == ((takebitsS u0 u1).2.2))) ?_; intro a206 hF207; clear hF205
   have hF208 := hF207.atom ((((stakeS u0 u1).2.2) == ((takebitsS u0 u1).2.2)) == true) (by kernel_rfl); clear hF207
   refine gp hF208 62 0 [] (((stakeS u0 u1).2.2) == ((takebitsS u0 u1).2.2)) (str ((stakeS u0 u1).1)) rfl rfl ?_; intro a209 hF210; clear hF208
   refine gp hF210 63 0 [] (((stakeS u0 u1).2.2) == ((takebitsS u0 u1).2.2)) (str ((takebitsS u0 u1).1)) rfl rfl ?_; intro a211 hF212; clear hF210
   refine gd hF212 (.bool (((stakeS u0 u1).1) == ((takebitsS u0 u1).1))) (m := 0) (cj := []) (bj := ((stakeS u0 u1).2.2) == ((takebitsS u0 u1).2.2)) rfl rfl (by kernel_rfl) rfl (by kernel_rfl) (by kernel_rfl) (by kernel_rfl) (fun hg => strcmp_run hF212 (g := [0]) (op := .eql) rfl (by kernel_rfl) (by kernel_rfl) (by decide) hg) ?_; intro a213 hF214; clear hF212
   refine st hF214 (.bool ((((stakeS u0 u1).2.2) == ((takebitsS u0 u1).2.2)) && (((stakeS u0 u1).1) == ((takebitsS u0 u1).1)))) (nog rfl _) rfl (by kernel_rfl) (pk_and hF214 (g := []) (m := 0) (b := ((stakeS u0 u1).2.2) == ((takebitsS u0 u1).2.2)) (v := ((stakeS u0 u1).1) == ((takebitsS u0 u1).1)) rfl (by kernel_rfl) (by kernel_rfl) (by kernel_rfl) rfl) ?_; intro a215 hF216; clear hF214
   refine s1 hF216 66 (.bool ((((stakeS u0 u1).2.2) == ((takebitsS u0 u1).2.2)) && (((stakeS u0 u1).1) == ((takebitsS u0 u1).1)))) ?_; intro a217 hF218; clear hF216
   have hF219 := hF218.atom (((((stakeS u0 u1).2.2) == ((takebitsS u0 u1).2.2)) && (((stakeS u0 u1).1) == ((takebitsS u0 u1).1))) == true) (by kernel_rfl); clear hF218
   refine gp hF219 67 1 [] ((((stakeS u0 u1).2.2) == ((takebitsS u0 u1).2.2)) && (((stakeS u0 u1).1) == ((takebitsS u0 u1).1))) (.int .i64 ((stakeS u0 u1).2.1)) rfl rfl ?_; intro a220 hF221; clear hF219
   refine gp hF221 68 1 [] ((((stakeS u0 u1).2.2) == ((takebitsS u0 u1).2.2)) && (((stakeS u0 u1).1) == ((takebitsS u0 u1).1))) (.int .i64 ((takebitsS u0 u1).2.1)) rfl rfl ?_; intro a222 hF223; clear hF221
   refine gp hF223 69 1 [] ((((stakeS u0 u1).2.2) == ((takebitsS u0 u1).2.2)) && (((stakeS u0 u1).1) == ((takebitsS u0 u1).1))) (.bool (((stakeS u0 u1).2.1) == ((takebitsS u0 u1).2.1))) rfl rfl ?_; intro a224 hF225; clear hF223
   refine st hF225 (.bool (((((stakeS u0 u1).2.2) == ((takebitsS u0 u1).2.2)) && (((stakeS u0 u1).1) == ((takebitsS u0 u1).1))) && (((stakeS u0 u1).2.1) == ((takebitsS u0 u1).2.1)))) (nog rfl _) rfl (by kernel_rfl) (pk_and hF225 (g := []) (m := 1) (b := (((stakeS u0 u1).2.2) == ((takebitsS u0 u1).2.2)) && (((stakeS u0 u1).1) == ((takebitsS u0 u1).1))) (v := ((stakeS u0 u1).2.1) == ((takebitsS u0 u1).2.1)) rfl (by kernel_rfl) (by kernel_rfl) (by kernel_rfl) rfl) ?_; intro a226 hF227; clear hF225
   refine s1 hF227 4 (.bool (((((stakeS u0 u1).2.2) == ((takebitsS u0 u1).2.2)) && (((stakeS u0 u1).1) == ((takebitsS u0 u1).1))) && (((stakeS u0 u1).2.1) == ((takebitsS u0 u1).2.1)))) ?_; intro a228 hF229; clear hF227
   refine nlH (hQ199 _ _ ?_); clear hQ199 hQ199Q
   refine wp_ret ?_
   refine rt (fn := Tryd.f10) (v := .bool (((((stakeS u0 u1).2.2) == ((takebitsS u0 u1).2.2)) && (((stakeS u0 u1).1) == ((takebitsS u0 u1).1))) && (((stakeS u0 u1).2.1) == ((takebitsS u0 u1).2.1)))) hF229 (re1 hF229 (fn := Tryd.f10) rfl (by kernel_rfl)) ?_
   exact ⟨((((stakeS u0 u1).2.2) == ((takebitsS u0 u1).2.2)) && (((stakeS u0 u1).1) == ((takebitsS u0 u1).1))) && (((stakeS u0 u1).2.1) == ((takebitsS u0 u1).2.1)), rfl, hp179, hM183.below⟩

set_option maxRecDepth 100000 in
set_option maxHeartbeats 0 in
theorem LFixed_walk (u0 : List UInt8) (u1 : Int) (u2 : Int)  (Z : Fz) (w : World)  (hZ : Z.on w) {K : Bool → Prop} (hp : LFixed_vc u0 u1 u2 K) : Calls Tryd.prog 11 #[str u0, .int .u8 u1, .int .i64 u2] w fun e w' => ∃ r : Bool, e = .returned (.bool r) ∧ K r ∧ Below w.heap.size w w' := by
 refine enter0 Tryd.func11 rfl rfl (by kernel_rfl) ?_; intro a0 hF0; have hM0 := Mem.start w Z hZ; have hle0 := Fz.le.refl Z
 refine sqH ?_; intro hQ1Q hQ1
 refine s1 hF0 6 (.bool false) ?_; intro a2 hF3; clear hF0
 refine nlH (hQ1 _ _ ?_); clear hQ1 hQ1Q
 refine sqH ?_; intro hQ4Q hQ4
 refine s1 hF3 13 (str u0) ?_; intro a5 hF6; clear hF3
 refine s1 hF6 14 (.int .u8 u1) ?_; intro a7 hF8; clear hF6
 refine fcl hF8 hM0 (.tuple #[str ((sfixedS u0 u1).1), .int .i64 ((sfixedS u0 u1).2)]) 34 #[str u0, .int .u8 u1] (nog rfl _) rfl (by kernel_rfl) (fun _ => by kernel_rfl) (sfixed_fun u0 u1 _ _ hM0.fz) ?_; intro a9 wd11 hF10 hM12; clear hF8 hM0
 refine s1 hF10 12 (.tuple #[str ((sfixedS u0 u1).1), .int .i64 ((sfixedS u0 u1).2)]) ?_; intro a13 hF14; clear hF10
 refine s1 hF14 16 (str ((sfixedS u0 u1).1)) ?_; intro a15 hF16; clear hF14
 refine s1 hF16 17 (.int .i64 ((sfixedS u0 u1).2)) ?_; intro a17 hF18; clear hF16
 refine s1 hF18 7 (str ((sfixedS u0 u1).1)) ?_; intro a19 hF20; clear hF18
 refine s1 hF20 8 (.int .i64 ((sfixedS u0 u1).2)) ?_; intro a21 hF22; clear hF20
 refine nlH (hQ4 _ _ ?_); clear hQ4 hQ4Q
 refine sqH ?_; intro hQ23Q hQ23
 refine s1 hF22 19 (.int .i64 u2) ?_; intro a24 hF25; clear hF22
 refine fcl hF25 hM12 (.tuple #[.int .i64 ((smost u2).1), .int .i64 ((smost u2).2)]) 31 #[.int .i64 u2] (nog rfl _) rfl (by kernel_rfl) (fun _ => by kernel_rfl) (smost_fun u2 _ _ hM12.fz) ?_; intro a26 wd28 hF27 hM29; clear hF25 hM12
 refine s1 hF27 18 (.tuple #[.int .i64 ((smost u2).1), .int .i64 ((smost u2).2)]) ?_; intro a30 hF31; clear hF27
 refine s1 hF31 21 (.int .i64 ((smost u2).1)) ?_; intro a32 hF33; clear hF31
 refine s1 hF33 22 (.int .i64 ((smost u2).2)) ?_; intro a34 hF35; clear hF33
 refine s1 hF35 9 (.int .i64 ((smost u2).1)) ?_; intro a36 hF37; clear hF35
 refine s1 hF37 10 (.int .i64 ((smost u2).2)) ?_; intro a38 hF39; clear hF37
 refine nlH (hQ23 _ _ ?_); clear hQ23 hQ23Q
 refine wp_seq ?_
 have hF40 : Fr 79 [] [⟨0, [], str u0⟩, ⟨1, [], .int .u8 u1⟩, ⟨2, [], .int .i64 u2⟩, ⟨7, [], str ((sfixedS u0 u1).1)⟩, ⟨8, [], .int .i64 ((sfixedS u0 u1).2)⟩, ⟨9, [], .int .i64 ((smost u2).1)⟩, ⟨10, [], .int .i64 ((smost u2).2)⟩] a38 := hF39.region (by kernel_rfl) (by kernel_rfl); clear hF39
 refine sqH ?_; intro hQ41Q hQ41
 refine fcl hF40 hM29 (.bool true) 28 #[] (nog rfl _) rfl (by kernel_rfl) (fun _ => by kernel_rfl) (stuffed_fun  _ _ hM29.fz) ?_; intro a42 wd44 hF43 hM45; clear hF40 hM29
 refine s1 hF43 24 (.bool false) ?_; intro a46 hF47; clear hF43
 refine nlH (hQ41 _ _ ?_); clear hQ41 hQ41Q
 refine cdF hF47 (by kernel_rfl) ?_
 refine wp_skip ?_
 refine thn ?_
 refine wp_seq ?_
 refine sqH ?_; intro hQ48Q hQ48
 refine s1 hF47 25 (.int .i64 u2) ?_; intro a49 hF50; clear hF47
 refine s1 hF50 26 (.bool (decide (u2 < 0))) ?_; intro a51 hF52; clear hF50
 refine s1 hF52 27 (.bool (decide (u2 < 0))) ?_; intro a53 hF54; clear hF52
 have hF55 := hF54.atom ((decide (u2 < 0)) == false) (by kernel_rfl); clear hF54
 refine gp hF55 28 0 [] (decide (u2 < 0)) (.int .i64 u2) rfl rfl ?_; intro a56 hF57; clear hF55
 refine gp hF57 29 0 [] (decide (u2 < 0)) (.bool (decide (u2 > 1000))) rfl rfl ?_; intro a58 hF59; clear hF57
 refine st hF59 (.bool ((decide (u2 < 0)) || (decide (u2 > 1000)))) (nog rfl _) rfl (by kernel_rfl) (pk_or hF59 (g := []) (m := 0) (b := decide (u2 < 0)) (v := decide (u2 > 1000)) rfl (by kernel_rfl) (by kernel_rfl) (by kernel_rfl) rfl) ?_; intro a60 hF61; clear hF59
 refine nlH (hQ48 _ _ ?_); clear hQ48 hQ48Q
 refine cd hF61 (t := (decide (u2 < 0)) || (decide (u2 > 1000))) (by kernel_rfl) (fun hb62 => ?_) (fun hb62 => ?_)
 · -- yes
  have hp63 := hp.1 hb62; clear hp
  have hF64 : Fr 79 [] [⟨0, [], str u0⟩, ⟨1, [], .int .u8 u1⟩, ⟨7, [], str ((sfixedS u0 u1).1)⟩, ⟨8, [], .int .i64 ((sfixedS u0 u1).2)⟩, ⟨9, [], .int .i64 ((smost u2).1)⟩, ⟨10, [], .int .i64 ((smost u2).2)⟩] a60 := hF61.region (by kernel_rfl) (by kernel_rfl); clear hF61
  refine sqH ?_; intro hQ65Q hQ65
  refine s1 hF64 31 (.int .i64 ((smost u2).2)) ?_; intro a66 hF67; clear hF64
  refine s1 hF67 32 (.bool (((smost u2).2) != 3)) ?_; intro a68 hF69; clear hF67
  refine s1 hF69 33 (.bool (((smost u2).2) != 3)) ?_; intro a70 hF71; clear hF69
  have hF72 := hF71.atom ((((smost u2).2) != 3) == false) (by kernel_rfl); clear hF71
  refine gp hF72 34 0 [] (((smost u2).2) != 3) (.int .i64 ((smost u2).1)) rfl rfl ?_; intro a73 hF74; clear hF72
  refine gp hF74 35 0 [] (((smost u2).2) != 3) (.bool (((smost u2).1) != 0)) rfl rfl ?_; intro a75 hF76; clear hF74
  refine st hF76 (.bool ((((smost u2).2) != 3) || (((smost u2).1) != 0))) (nog rfl _) rfl (by kernel_rfl) (pk_or hF76 (g := []) (m := 0) (b := ((smost u2).2) != 3) (v := ((smost u2).1) != 0) rfl (by kernel_rfl) (by kernel_rfl) (by kernel_rfl) rfl) ?_; intro a77 hF78; clear hF76
  refine nlH (hQ65 _ _ ?_); clear hQ65 hQ65Q
  refine cd hF78 (t := (((smost u2).2) != 3) || (((smost u2).1) != 0)) (by kernel_rfl) (fun hb79 => ?_) (fun hb79 => ?_)
  · -- yes
   have hp80 := hp63.1 hb79; clear hp63
   have hF81 : Fr 79 [] [] a77 := hF78.region (by kernel_rfl) (by kernel_rfl); clear hF78
   refine sqH ?_; intro hQ82Q hQ82
   refine s1 hF81 6 (.bool false) ?_; intro a83 hF84; clear hF81
   refine nlH (hQ82 _ _ ?_); clear hQ82 hQ82Q
   refine wp_ret ?_
   refine thr ?_
   refine rt (fn := Tryd.f11) (v := .bool false) hF84 (re1 hF84 (fn := Tryd.f11) rfl (by kernel_rfl)) ?_
   exact ⟨false, rfl, hp80, hM45.below⟩
  · -- no
   have hp85 := hp63.2 hb79; clear hp63
   refine wp_skip ?_
   refine thn ?_
   have hF86 : Fr 79 [] [⟨0, [], str u0⟩, ⟨1, [], .int .u8 u1⟩, ⟨7, [], str ((sfixedS u0 u1).1)⟩, ⟨8, [], .int .i64 ((sfixedS u0 u1).2)⟩] a77 := hF78.region (by kernel_rfl) (by kernel_rfl); clear hF78
   refine sqH ?_; intro hQ87Q hQ87
   refine s1 hF86 49 (str u0) ?_; intro a88 hF89; clear hF86
   refine fcl hF89 hM45 (.int .i64 (bcheckS u0)) 21 #[str u0] (nog rfl _) rfl (by kernel_rfl) (fun _ => by kernel_rfl) (rcheckrow_fun u0 _ _ hM45.fz) ?_; intro a90 wd92 hF91 hM93; clear hF89 hM45
   refine s1 hF91 11 (.int .i64 (bcheckS u0)) ?_; intro a94 hF95; clear hF91
   refine nlH (hQ87 _ _ ?_); clear hQ87 hQ87Q
   refine wp_seq ?_
   refine sqH ?_; intro hQ96Q hQ96
   refine s1 hF95 51 (.int .i64 (bcheckS u0)) ?_; intro a97 hF98; clear hF95
   refine s1 hF98 52 (.bool ((bcheckS u0) == 0)) ?_; intro a99 hF100; clear hF98
   refine s1 hF100 53 (.bool ((bcheckS u0) == 0)) ?_; intro a101 hF102; clear hF100
   have hF103 := hF102.atom (((bcheckS u0) == 0) == true) (by kernel_rfl); clear hF102
   refine gp hF103 54 0 [] ((bcheckS u0) == 0) (.int .u8 u1) rfl rfl ?_; intro a104 hF105; clear hF103
   refine gp hF105 55 0 [] ((bcheckS u0) == 0) (.bool (u1 != 48)) rfl rfl ?_; intro a106 hF107; clear hF105
   refine st hF107 (.bool (((bcheckS u0) == 0) && (u1 != 48))) (nog rfl _) rfl (by kernel_rfl) (pk_and hF107 (g := []) (m := 0) (b := (bcheckS u0) == 0) (v := u1 != 48) rfl (by kernel_rfl) (by kernel_rfl) (by kernel_rfl) rfl) ?_; intro a108 hF109; clear hF107
   refine s1 hF109 57 (.bool (((bcheckS u0) == 0) && (u1 != 48))) ?_; intro a110 hF111; clear hF109
   have hF112 := hF111.atom ((((bcheckS u0) == 0) && (u1 != 48)) == true) (by kernel_rfl); clear hF111
   refine gp hF112 58 1 [] (((bcheckS u0) == 0) && (u1 != 48)) (.int .u8 u1) rfl rfl ?_; intro a113 hF114; clear hF112
   refine gp hF114 59 1 [] (((bcheckS u0) == 0) && (u1 != 48)) (.bool (u1 != 49)) rfl rfl ?_; intro a115 hF116; clear hF114
   refine st hF116 (.bool ((((bcheckS u0) == 0) && (u1 != 48)) && (u1 != 49))) (nog rfl _) rfl (by kernel_rfl) (pk_and hF116 (g := []) (m := 1) (b := ((bcheckS u0) == 0) && (u1 != 48)) (v := u1 != 49) rfl (by kernel_rfl) (by kernel_rfl) (by kernel_rfl) rfl) ?_; intro a117 hF118; clear hF116
   refine nlH (hQ96 _ _ ?_); clear hQ96 hQ96Q
   refine cd hF118 (t := (((bcheckS u0) == 0) && (u1 != 48)) && (u1 != 49)) (by kernel_rfl) (fun hb119 => ?_) (fun hb119 => ?_)
   · -- yes
    have hp120 := hp85.1 hb119; clear hp85
    have hF121 : Fr 79 [] [⟨0, [], str u0⟩, ⟨1, [], .int .u8 u1⟩, ⟨7, [], str ((sfixedS u0 u1).1)⟩, ⟨8, [], .int .i64 ((sfixedS u0 u1).2)⟩] a117 := hF118.region (by kernel_rfl) (by kernel_rfl); clear hF118
    refine rgH ?_; intro hQ122Q hQ122
    refine s1 hF121 11 (.int .i64 3) ?_; intro a123 hF124; clear hF121
    refine nlH (hQ122 _ _ ?_); clear hQ122 hQ122Q
    refine thn ?_
    refine wp_seq ?_
    refine sqH ?_; intro hQ125Q hQ125
    refine s1 hF124 61 (.int .i64 3) ?_; intro a126 hF127; clear hF124
    refine s1 hF127 62 (.bool true) ?_; intro a128 hF129; clear hF127
    refine nlH (hQ125 _ _ ?_); clear hQ125 hQ125Q
    refine cdT hF129 (by kernel_rfl) ?_
    refine sqH ?_; intro hQ130Q hQ130
    refine s1 hF129 63 (.int .i64 ((sfixedS u0 u1).2)) ?_; intro a131 hF132; clear hF129
    refine s1 hF132 64 (.int .i64 3) ?_; intro a133 hF134; clear hF132
    refine s1 hF134 65 (.bool (((sfixedS u0 u1).2) == 3)) ?_; intro a135 hF136; clear hF134
    refine s1 hF136 66 (.bool (((sfixedS u0 u1).2) == 3)) ?_; intro a137 hF138; clear hF136
    have hF139 := hF138.atom ((((sfixedS u0 u1).2) == 3) == true) (by kernel_rfl); clear hF138
    refine gp hF139 67 0 [] (((sfixedS u0 u1).2) == 3) (str ((sfixedS u0 u1).1)) rfl rfl ?_; intro a140 hF141; clear hF139
    refine gd hF141 (.bool (((sfixedS u0 u1).1) == [])) (m := 0) (cj := []) (bj := ((sfixedS u0 u1).2) == 3) rfl rfl (by kernel_rfl) rfl (by kernel_rfl) (by kernel_rfl) (by kernel_rfl) (fun hg => strcmp_run hF141 (g := [0]) (op := .eql) rfl (by kernel_rfl) (by kernel_rfl) (by decide) hg) ?_; intro a142 hF143; clear hF141
    refine st hF143 (.bool ((((sfixedS u0 u1).2) == 3) && (((sfixedS u0 u1).1) == []))) (nog rfl _) rfl (by kernel_rfl) (pk_and hF143 (g := []) (m := 0) (b := ((sfixedS u0 u1).2) == 3) (v := ((sfixedS u0 u1).1) == []) rfl (by kernel_rfl) (by kernel_rfl) (by kernel_rfl) rfl) ?_; intro a144 hF145; clear hF143
    refine s1 hF145 6 (.bool ((((sfixedS u0 u1).2) == 3) && (((sfixedS u0 u1).1) == []))) ?_; intro a146 hF147; clear hF145
    refine nlH (hQ130 _ _ ?_); clear hQ130 hQ130Q
    refine wp_ret ?_
    refine thr ?_
    refine rt (fn := Tryd.f11) (v := .bool ((((sfixedS u0 u1).2) == 3) && (((sfixedS u0 u1).1) == []))) hF147 (re1 hF147 (fn := Tryd.f11) rfl (by kernel_rfl)) ?_
    exact ⟨(((sfixedS u0 u1).2) == 3) && (((sfixedS u0 u1).1) == []), rfl, hp120, hM93.below⟩
   · -- no
    have hp148 := hp85.2 hb119; clear hp85
    refine wp_skip ?_
    refine thn ?_
    refine wp_seq ?_
    have hF149 : Fr 79 [] [⟨0, [], str u0⟩, ⟨1, [], .int .u8 u1⟩, ⟨7, [], str ((sfixedS u0 u1).1)⟩, ⟨8, [], .int .i64 ((sfixedS u0 u1).2)⟩, ⟨11, [], .int .i64 (bcheckS u0)⟩] a117 := hF118.region (by kernel_rfl) (by kernel_rfl); clear hF118
    refine sqH ?_; intro hQ150Q hQ150
    refine s1 hF149 61 (.int .i64 (bcheckS u0)) ?_; intro a151 hF152; clear hF149
    refine s1 hF152 62 (.bool ((bcheckS u0) != 0)) ?_; intro a153 hF154; clear hF152
    refine nlH (hQ150 _ _ ?_); clear hQ150 hQ150Q
    refine cd hF154 (t := (bcheckS u0) != 0) (by kernel_rfl) (fun hb155 => ?_) (fun hb155 => ?_)
    · -- yes
     have hp156 := hp148.1 hb155; clear hp148
     refine sqH ?_; intro hQ157Q hQ157
     refine s1 hF154 63 (.int .i64 ((sfixedS u0 u1).2)) ?_; intro a158 hF159; clear hF154
     refine s1 hF159 64 (.int .i64 (bcheckS u0)) ?_; intro a160 hF161; clear hF159
     refine s1 hF161 65 (.bool (((sfixedS u0 u1).2) == (bcheckS u0))) ?_; intro a162 hF163; clear hF161
     refine s1 hF163 66 (.bool (((sfixedS u0 u1).2) == (bcheckS u0))) ?_; intro a164 hF165; clear hF163
     have hF166 := hF165.atom ((((sfixedS u0 u1).2) == (bcheckS u0)) == true) (by kernel_rfl); clear hF165
     refine gp hF166 67 0 [] (((sfixedS u0 u1).2) == (bcheckS u0)) (str ((sfixedS u0 u1).1)) rfl rfl ?_; intro a167 hF168; clear hF166
     refine gd hF168 (.bool (((sfixedS u0 u1).1) == [])) (m := 0) (cj := []) (bj := ((sfixedS u0 u1).2) == (bcheckS u0)) rfl rfl (by kernel_rfl) rfl (by kernel_rfl) (by kernel_rfl) (by kernel_rfl) (fun hg => strcmp_run hF168 (g := [0]) (op := .eql) rfl (by kernel_rfl) (by kernel_rfl) (by decide) hg) ?_; intro a169 hF170; clear hF168
     refine st hF170 (.bool ((((sfixedS u0 u1).2) == (bcheckS u0)) && (((sfixedS u0 u1).1) == []))) (nog rfl _) rfl (by kernel_rfl) (pk_and hF170 (g := []) (m := 0) (b := ((sfixedS u0 u1).2) == (bcheckS u0)) (v := ((sfixedS u0 u1).1) == []) rfl (by kernel_rfl) (by kernel_rfl) (by kernel_rfl) rfl) ?_; intro a171 hF172; clear hF170
     refine s1 hF172 6 (.bool ((((sfixedS u0 u1).2) == (bcheckS u0)) && (((sfixedS u0 u1).1) == []))) ?_; intro a173 hF174; clear hF172
     refine nlH (hQ157 _ _ ?_); clear hQ157 hQ157Q
     refine wp_ret ?_
     refine thr ?_
     refine rt (fn := Tryd.f11) (v := .bool ((((sfixedS u0 u1).2) == (bcheckS u0)) && (((sfixedS u0 u1).1) == []))) hF174 (re1 hF174 (fn := Tryd.f11) rfl (by kernel_rfl)) ?_
     exact ⟨(((sfixedS u0 u1).2) == (bcheckS u0)) && (((sfixedS u0 u1).1) == []), rfl, hp156, hM93.below⟩
    · -- no
     have hp175 := hp148.2 hb155; clear hp148
     refine wp_skip ?_
     refine thn ?_
     refine sqH ?_; intro hQ176Q hQ176
     refine s1 hF154 70 (.int .i64 ((sfixedS u0 u1).2)) ?_; intro a177 hF178; clear hF154
     refine s1 hF178 71 (.bool (((sfixedS u0 u1).2) == 0)) ?_; intro a179 hF180; clear hF178
     refine s1 hF180 72 (.bool (((sfixedS u0 u1).2) == 0)) ?_; intro a181 hF182; clear hF180
     have hF183 := hF182.atom ((((sfixedS u0 u1).2) == 0) == true) (by kernel_rfl); clear hF182
     refine gp hF183 73 0 [] (((sfixedS u0 u1).2) == 0) (str ((sfixedS u0 u1).1)) rfl rfl ?_; intro a184 hF185; clear hF183
     refine gp hF185 74 0 [] (((sfixedS u0 u1).2) == 0) (str u0) rfl rfl ?_; intro a186 hF187; clear hF185
     refine gp hF187 75 0 [] (((sfixedS u0 u1).2) == 0) (.int .u8 u1) rfl rfl ?_; intro a188 hF189; clear hF187
     rcases Bool.eq_false_or_eq_true (((sfixedS u0 u1).2) == 0) with hb190 | hb190
     · -- true
      have hp191 := hp175.1 hb190; clear hp175
      have hF192 := hF189.reval (d := 72) (c := []) (v := .bool (((sfixedS u0 u1).2) == 0)) (by kernel_rfl) (.bool true) (by rw [hb190]); clear hF189
      have hF193 := hF192.setc (d := 73) (c := [0]) (v := str ((sfixedS u0 u1).1)) (by kernel_rfl) (v' := str ((sfixedS u0 u1).1)) (by rw [hb190]; kernel_rfl); clear hF192
      have hF194 := hF193.setc (d := 74) (c := [0]) (v := str u0) (by kernel_rfl) (v' := str u0) (by rw [hb190]; kernel_rfl); clear hF193
      have hF195 := hF194.setc (d := 75) (c := [0]) (v := .int .u8 u1) (by kernel_rfl) (v' := .int .u8 u1) (by rw [hb190]; kernel_rfl); clear hF194
      have hc196 := hp191.1; have hp197 := hp191.2; clear hp191
      refine fcl hF195 hM93 (str (fixbitsS u0 u1)) 35 #[str u0, .int .u8 u1] (by rw [wanted_of hF195 (b := true) rfl rfl (by kernel_rfl) (by kernel_rfl)]; rfl) rfl (by kernel_rfl) (fun _ => by kernel_rfl) (fixbits_fun u0 u1 hc196 _ _ hM93.fz) ?_; intro a198 wd200 hF199 hM201; clear hF195 hM93
      refine st hF199 (.bool (((sfixedS u0 u1).1) == (fixbitsS u0 u1))) (by rw [wanted_of hF199 (b := true) rfl rfl (by kernel_rfl) (by kernel_rfl)]; rfl) rfl (by kernel_rfl) (strcmp_run hF199 (g := []) (op := .eql) rfl (by kernel_rfl) (by kernel_rfl) (by decide) rfl) ?_; intro a202 hF203; clear hF199
      refine s1 hF203 78 (.bool (((sfixedS u0 u1).1) == (fixbitsS u0 u1))) ?_; intro a204 hF205; clear hF203
      refine s1 hF205 6 (.bool (((sfixedS u0 u1).1) == (fixbitsS u0 u1))) ?_; intro a206 hF207; clear hF205
      refine nlH (hQ176 _ _ ?_); clear hQ176 hQ176Q
      refine wp_ret ?_
      refine rt (fn := Tryd.f11) (v := .bool (((sfixedS u0 u1).1) == (fixbitsS u0 u1))) hF207 (re1 hF207 (fn := Tryd.f11) rfl (by kernel_rfl)) ?_
      exact ⟨((sfixedS u0 u1).1) == (fixbitsS u0 u1), rfl, hp197, hM201.below⟩
     · -- false
      have hp208 := hp175.2 hb190; clear hp175
      have hF209 := hF189.reval (d := 72) (c := []) (v := .bool (((sfixedS u0 u1).2) == 0)) (by kernel_rfl) (.bool false) (by rw [hb190]); clear hF189
      have hF210 := hF209.setc (d := 73) (c := [0]) (v := str ((sfixedS u0 u1).1)) (by kernel_rfl) (v' := undef) (by rw [hb190]; kernel_rfl); clear hF209
      have hF211 := hF210.setc (d := 74) (c := [0]) (v := str u0) (by kernel_rfl) (v' := undef) (by rw [hb190]; kernel_rfl); clear hF210
      have hF212 := hF211.setc (d := 75) (c := [0]) (v := .int .u8 u1) (by kernel_rfl) (v' := undef) (by rw [hb190]; kernel_rfl); clear hF211
      refine sk hF212 (b := false) rfl rfl (by kernel_rfl) (by kernel_rfl) rfl rfl (by kernel_rfl) ?_; intro a213 hF214; clear hF212
      refine sk hF214 (b := false) rfl rfl (by kernel_rfl) (by kernel_rfl) rfl rfl (by kernel_rfl) ?_; intro a215 hF216; clear hF214
      refine s1 hF216 78 (.bool false) ?_; intro a217 hF218; clear hF216
      refine s1 hF218 6 (.bool false) ?_; intro a219 hF220; clear hF218
      refine nlH (hQ176 _ _ ?_); clear hQ176 hQ176Q
      refine wp_ret ?_
      refine rt (fn := Tryd.f11) (v := .bool false) hF220 (re1 hF220 (fn := Tryd.f11) rfl (by kernel_rfl)) ?_
      exact ⟨false, rfl, hp208, hM93.below⟩
 · -- no
  have hp221 := hp.2 hb62; clear hp
  have hF222 : Fr 79 [] [⟨0, [], str u0⟩, ⟨1, [], .int .u8 u1⟩, ⟨2, [], .int .i64 u2⟩, ⟨7, [], str ((sfixedS u0 u1).1)⟩, ⟨8, [], .int .i64 ((sfixedS u0 u1).2)⟩, ⟨9, [], .int .i64 ((smost u2).1)⟩, ⟨10, [], .int .i64 ((smost u2).2)⟩] a60 := hF61.region (by kernel_rfl) (by kernel_rfl); clear hF61
  refine sqH ?_; intro hQ223Q hQ223
  refine s1 hF222 37 (.int .i64 ((smost u2).2)) ?_; intro a224 hF225; clear hF222
  refine s1 hF225 38 (.bool (((smost u2).2) != 0)) ?_; intro a226 hF227; clear hF225
  refine s1 hF227 39 (.bool (((smost u2).2) != 0)) ?_; intro a228 hF229; clear hF227
  have hF230 := hF229.atom ((((smost u2).2) != 0) == false) (by kernel_rfl); clear hF229
  refine gp hF230 40 0 [] (((smost u2).2) != 0) (.int .i64 ((smost u2).1)) rfl rfl ?_; intro a231 hF232; clear hF230
  refine gp hF232 41 0 [] (((smost u2).2) != 0) (.int .i64 u2) rfl rfl ?_; intro a233 hF234; clear hF232
  refine gp hF234 42 0 [] (((smost u2).2) != 0) (.int .i64 u2) rfl rfl ?_; intro a235 hF236; clear hF234
  refine gp hF236 43 0 [] (((smost u2).2) != 0) (.int .i64 (w64 (u2 - 1))) rfl rfl ?_; intro a237 hF238; clear hF236
  refine gd hF238 (.int .i64 (max (w64 (u2 - 1)) 0)) (m := 0) (cj := []) (bj := ((smost u2).2) != 0) rfl rfl (by kernel_rfl) rfl (by kernel_rfl) (by kernel_rfl) (by kernel_rfl) (fun hg => re_ (pu hF238 (g := [0]) (r := .ok (.value (.int .i64 (if (w64 (u2 - 1)) < 0 then 0 else (w64 (u2 - 1))))) wd44) (by kernel_rfl) hg) (by rw [imax])) ?_; intro a239 hF240; clear hF238
  refine gp hF240 45 0 [] (((smost u2).2) != 0) (.int .i64 (w64 ((max (w64 (u2 - 1)) 0).tdiv 4))) rfl rfl ?_; intro a241 hF242; clear hF240
  refine gp hF242 46 0 [] (((smost u2).2) != 0) (.int .i64 (w64 (u2 + (w64 ((max (w64 (u2 - 1)) 0).tdiv 4))))) rfl rfl ?_; intro a243 hF244; clear hF242
  refine gp hF244 47 0 [] (((smost u2).2) != 0) (.bool (((smost u2).1) != (w64 (u2 + (w64 ((max (w64 (u2 - 1)) 0).tdiv 4)))))) rfl rfl ?_; intro a245 hF246; clear hF244
  refine st hF246 (.bool ((((smost u2).2) != 0) || (((smost u2).1) != (w64 (u2 + (w64 ((max (w64 (u2 - 1)) 0).tdiv 4))))))) (nog rfl _) rfl (by kernel_rfl) (pk_or hF246 (g := []) (m := 0) (b := ((smost u2).2) != 0) (v := ((smost u2).1) != (w64 (u2 + (w64 ((max (w64 (u2 - 1)) 0).tdiv 4))))) rfl (by kernel_rfl) (by kernel_rfl) (by kernel_rfl) rfl) ?_; intro a247 hF248; clear hF246
  refine nlH (hQ223 _ _ ?_); clear hQ223 hQ223Q
  refine cd hF248 (t := (((smost u2).2) != 0) || (((smost u2).1) != (w64 (u2 + (w64 ((max (w64 (u2 - 1)) 0).tdiv 4)))))) (by kernel_rfl) (fun hb249 => ?_) (fun hb249 => ?_)
  · -- yes
   have hp250 := hp221.1 hb249; clear hp221
   have hF251 : Fr 79 [] [] a247 := hF248.region (by kernel_rfl) (by kernel_rfl); clear hF248
   refine sqH ?_; intro hQ252Q hQ252
   refine s1 hF251 6 (.bool false) ?_; intro a253 hF254; clear hF251
   refine nlH (hQ252 _ _ ?_); clear hQ252 hQ252Q
   refine wp_ret ?_
   refine thr ?_
   refine rt (fn := Tryd.f11) (v := .bool false) hF254 (re1 hF254 (fn := Tryd.f11) rfl (by kernel_rfl)) ?_
   exact ⟨false, rfl, hp250, hM45.below⟩
  · -- no
   have hp255 := hp221.2 hb249; clear hp221
   refine wp_skip ?_
   refine thn ?_
   have hF256 : Fr 79 [] [⟨0, [], str u0⟩, ⟨1, [], .int .u8 u1⟩, ⟨7, [], str ((sfixedS u0 u1).1)⟩, ⟨8, [], .int .i64 ((sfixedS u0 u1).2)⟩] a247 := hF248.region (by kernel_rfl) (by kernel_rfl); clear hF248
   refine sqH ?_; intro hQ257Q hQ257
   refine s1 hF256 49 (str u0) ?_; intro a258 hF259; clear hF256
   refine fcl hF259 hM45 (.int .i64 (bcheckS u0)) 21 #[str u0] (nog rfl _) rfl (by kernel_rfl) (fun _ => by kernel_rfl) (rcheckrow_fun u0 _ _ hM45.fz) ?_; intro a260 wd262 hF261 hM263; clear hF259 hM45
   refine s1 hF261 11 (.int .i64 (bcheckS u0)) ?_; intro a264 hF265; clear hF261
   refine nlH (hQ257 _ _ ?_); clear hQ257 hQ257Q
   refine wp_seq ?_
   refine sqH ?_; intro hQ266Q hQ266
   refine s1 hF265 51 (.int .i64 (bcheckS u0)) ?_; intro a267 hF268; clear hF265
   refine s1 hF268 52 (.bool ((bcheckS u0) == 0)) ?_; intro a269 hF270; clear hF268
   refine s1 hF270 53 (.bool ((bcheckS u0) == 0)) ?_; intro a271 hF272; clear hF270
   have hF273 := hF272.atom (((bcheckS u0) == 0) == true) (by kernel_rfl); clear hF272
   refine gp hF273 54 0 [] ((bcheckS u0) == 0) (.int .u8 u1) rfl rfl ?_; intro a274 hF275; clear hF273
   refine gp hF275 55 0 [] ((bcheckS u0) == 0) (.bool (u1 != 48)) rfl rfl ?_; intro a276 hF277; clear hF275
   refine st hF277 (.bool (((bcheckS u0) == 0) && (u1 != 48))) (nog rfl _) rfl (by kernel_rfl) (pk_and hF277 (g := []) (m := 0) (b := (bcheckS u0) == 0) (v := u1 != 48) rfl (by kernel_rfl) (by kernel_rfl) (by kernel_rfl) rfl) ?_; intro a278 hF279; clear hF277
   refine s1 hF279 57 (.bool (((bcheckS u0) == 0) && (u1 != 48))) ?_; intro a280 hF281; clear hF279
   have hF282 := hF281.atom ((((bcheckS u0) == 0) && (u1 != 48)) == true) (by kernel_rfl); clear hF281
   refine gp hF282 58 1 [] (((bcheckS u0) == 0) && (u1 != 48)) (.int .u8 u1) rfl rfl ?_; intro a283 hF284; clear hF282
   refine gp hF284 59 1 [] (((bcheckS u0) == 0) && (u1 != 48)) (.bool (u1 != 49)) rfl rfl ?_; intro a285 hF286; clear hF284
   refine st hF286 (.bool ((((bcheckS u0) == 0) && (u1 != 48)) && (u1 != 49))) (nog rfl _) rfl (by kernel_rfl) (pk_and hF286 (g := []) (m := 1) (b := ((bcheckS u0) == 0) && (u1 != 48)) (v := u1 != 49) rfl (by kernel_rfl) (by kernel_rfl) (by kernel_rfl) rfl) ?_; intro a287 hF288; clear hF286
   refine nlH (hQ266 _ _ ?_); clear hQ266 hQ266Q
   refine cd hF288 (t := (((bcheckS u0) == 0) && (u1 != 48)) && (u1 != 49)) (by kernel_rfl) (fun hb289 => ?_) (fun hb289 => ?_)
   · -- yes
    have hp290 := hp255.1 hb289; clear hp255
    have hF291 : Fr 79 [] [⟨0, [], str u0⟩, ⟨1, [], .int .u8 u1⟩, ⟨7, [], str ((sfixedS u0 u1).1)⟩, ⟨8, [], .int .i64 ((sfixedS u0 u1).2)⟩] a287 := hF288.region (by kernel_rfl) (by kernel_rfl); clear hF288
    refine rgH ?_; intro hQ292Q hQ292
    refine s1 hF291 11 (.int .i64 3) ?_; intro a293 hF294; clear hF291
    refine nlH (hQ292 _ _ ?_); clear hQ292 hQ292Q
    refine thn ?_
    refine wp_seq ?_
    refine sqH ?_; intro hQ295Q hQ295
    refine s1 hF294 61 (.int .i64 3) ?_; intro a296 hF297; clear hF294
    refine s1 hF297 62 (.bool true) ?_; intro a298 hF299; clear hF297
    refine nlH (hQ295 _ _ ?_); clear hQ295 hQ295Q
    refine cdT hF299 (by kernel_rfl) ?_
    refine sqH ?_; intro hQ300Q hQ300
    refine s1 hF299 63 (.int .i64 ((sfixedS u0 u1).2)) ?_; intro a301 hF302; clear hF299
    refine s1 hF302 64 (.int .i64 3) ?_; intro a303 hF304; clear hF302
    refine s1 hF304 65 (.bool (((sfixedS u0 u1).2) == 3)) ?_; intro a305 hF306; clear hF304
    refine s1 hF306 66 (.bool (((sfixedS u0 u1).2) == 3)) ?_; intro a307 hF308; clear hF306
    have hF309 := hF308.atom ((((sfixedS u0 u1).2) == 3) == true) (by kernel_rfl); clear hF308
    refine gp hF309 67 0 [] (((sfixedS u0 u1).2) == 3) (str ((sfixedS u0 u1).1)) rfl rfl ?_; intro a310 hF311; clear hF309
    refine gd hF311 (.bool (((sfixedS u0 u1).1) == [])) (m := 0) (cj := []) (bj := ((sfixedS u0 u1).2) == 3) rfl rfl (by kernel_rfl) rfl (by kernel_rfl) (by kernel_rfl) (by kernel_rfl) (fun hg => strcmp_run hF311 (g := [0]) (op := .eql) rfl (by kernel_rfl) (by kernel_rfl) (by decide) hg) ?_; intro a312 hF313; clear hF311
    refine st hF313 (.bool ((((sfixedS u0 u1).2) == 3) && (((sfixedS u0 u1).1) == []))) (nog rfl _) rfl (by kernel_rfl) (pk_and hF313 (g := []) (m := 0) (b := ((sfixedS u0 u1).2) == 3) (v := ((sfixedS u0 u1).1) == []) rfl (by kernel_rfl) (by kernel_rfl) (by kernel_rfl) rfl) ?_; intro a314 hF315; clear hF313
    refine s1 hF315 6 (.bool ((((sfixedS u0 u1).2) == 3) && (((sfixedS u0 u1).1) == []))) ?_; intro a316 hF317; clear hF315
    refine nlH (hQ300 _ _ ?_); clear hQ300 hQ300Q
    refine wp_ret ?_
    refine thr ?_
    refine rt (fn := Tryd.f11) (v := .bool ((((sfixedS u0 u1).2) == 3) && (((sfixedS u0 u1).1) == []))) hF317 (re1 hF317 (fn := Tryd.f11) rfl (by kernel_rfl)) ?_
    exact ⟨(((sfixedS u0 u1).2) == 3) && (((sfixedS u0 u1).1) == []), rfl, hp290, hM263.below⟩
   · -- no
    have hp318 := hp255.2 hb289; clear hp255
    refine wp_skip ?_
    refine thn ?_
    refine wp_seq ?_
    have hF319 : Fr 79 [] [⟨0, [], str u0⟩, ⟨1, [], .int .u8 u1⟩, ⟨7, [], str ((sfixedS u0 u1).1)⟩, ⟨8, [], .int .i64 ((sfixedS u0 u1).2)⟩, ⟨11, [], .int .i64 (bcheckS u0)⟩] a287 := hF288.region (by kernel_rfl) (by kernel_rfl); clear hF288
    refine sqH ?_; intro hQ320Q hQ320
    refine s1 hF319 61 (.int .i64 (bcheckS u0)) ?_; intro a321 hF322; clear hF319
    refine s1 hF322 62 (.bool ((bcheckS u0) != 0)) ?_; intro a323 hF324; clear hF322
    refine nlH (hQ320 _ _ ?_); clear hQ320 hQ320Q
    refine cd hF324 (t := (bcheckS u0) != 0) (by kernel_rfl) (fun hb325 => ?_) (fun hb325 => ?_)
    · -- yes
     have hp326 := hp318.1 hb325; clear hp318
     refine sqH ?_; intro hQ327Q hQ327
     refine s1 hF324 63 (.int .i64 ((sfixedS u0 u1).2)) ?_; intro a328 hF329; clear hF324
     refine s1 hF329 64 (.int .i64 (bcheckS u0)) ?_; intro a330 hF331; clear hF329
     refine s1 hF331 65 (.bool (((sfixedS u0 u1).2) == (bcheckS u0))) ?_; intro a332 hF333; clear hF331
     refine s1 hF333 66 (.bool (((sfixedS u0 u1).2) == (bcheckS u0))) ?_; intro a334 hF335; clear hF333
     have hF336 := hF335.atom ((((sfixedS u0 u1).2) == (bcheckS u0)) == true) (by kernel_rfl); clear hF335
     refine gp hF336 67 0 [] (((sfixedS u0 u1).2) == (bcheckS u0)) (str ((sfixedS u0 u1).1)) rfl rfl ?_; intro a337 hF338; clear hF336
     refine gd hF338 (.bool (((sfixedS u0 u1).1) == [])) (m := 0) (cj := []) (bj := ((sfixedS u0 u1).2) == (bcheckS u0)) rfl rfl (by kernel_rfl) rfl (by kernel_rfl) (by kernel_rfl) (by kernel_rfl) (fun hg => strcmp_run hF338 (g := [0]) (op := .eql) rfl (by kernel_rfl) (by kernel_rfl) (by decide) hg) ?_; intro a339 hF340; clear hF338
     refine st hF340 (.bool ((((sfixedS u0 u1).2) == (bcheckS u0)) && (((sfixedS u0 u1).1) == []))) (nog rfl _) rfl (by kernel_rfl) (pk_and hF340 (g := []) (m := 0) (b := ((sfixedS u0 u1).2) == (bcheckS u0)) (v := ((sfixedS u0 u1).1) == []) rfl (by kernel_rfl) (by kernel_rfl) (by kernel_rfl) rfl) ?_; intro a341 hF342; clear hF340
     refine s1 hF342 6 (.bool ((((sfixedS u0 u1).2) == (bcheckS u0)) && (((sfixedS u0 u1).1) == []))) ?_; intro a343 hF344; clear hF342
     refine nlH (hQ327 _ _ ?_); clear hQ327 hQ327Q
     refine wp_ret ?_
     refine thr ?_
     refine rt (fn := Tryd.f11) (v := .bool ((((sfixedS u0 u1).2) == (bcheckS u0)) && (((sfixedS u0 u1).1) == []))) hF344 (re1 hF344 (fn := Tryd.f11) rfl (by kernel_rfl)) ?_
     exact ⟨(((sfixedS u0 u1).2) == (bcheckS u0)) && (((sfixedS u0 u1).1) == []), rfl, hp326, hM263.below⟩
    · -- no
     have hp345 := hp318.2 hb325; clear hp318
     refine wp_skip ?_
     refine thn ?_
     refine sqH ?_; intro hQ346Q hQ346
     refine s1 hF324 70 (.int .i64 ((sfixedS u0 u1).2)) ?_; intro a347 hF348; clear hF324
     refine s1 hF348 71 (.bool (((sfixedS u0 u1).2) == 0)) ?_; intro a349 hF350; clear hF348
     refine s1 hF350 72 (.bool (((sfixedS u0 u1).2) == 0)) ?_; intro a351 hF352; clear hF350
     have hF353 := hF352.atom ((((sfixedS u0 u1).2) == 0) == true) (by kernel_rfl); clear hF352
     refine gp hF353 73 0 [] (((sfixedS u0 u1).2) == 0) (str ((sfixedS u0 u1).1)) rfl rfl ?_; intro a354 hF355; clear hF353
     refine gp hF355 74 0 [] (((sfixedS u0 u1).2) == 0) (str u0) rfl rfl ?_; intro a356 hF357; clear hF355
     refine gp hF357 75 0 [] (((sfixedS u0 u1).2) == 0) (.int .u8 u1) rfl rfl ?_; intro a358 hF359; clear hF357
     rcases Bool.eq_false_or_eq_true (((sfixedS u0 u1).2) == 0) with hb360 | hb360
     · -- true
      have hp361 := hp345.1 hb360; clear hp345
      have hF362 := hF359.reval (d := 72) (c := []) (v := .bool (((sfixedS u0 u1).2) == 0)) (by kernel_rfl) (.bool true) (by rw [hb360]); clear hF359
      have hF363 := hF362.setc (d := 73) (c := [0]) (v := str ((sfixedS u0 u1).1)) (by kernel_rfl) (v' := str ((sfixedS u0 u1).1)) (by rw [hb360]; kernel_rfl); clear hF362
      have hF364 := hF363.setc (d := 74) (c := [0]) (v := str u0) (by kernel_rfl) (v' := str u0) (by rw [hb360]; kernel_rfl); clear hF363
      have hF365 := hF364.setc (d := 75) (c := [0]) (v := .int .u8 u1) (by kernel_rfl) (v' := .int .u8 u1) (by rw [hb360]; kernel_rfl); clear hF364
      have hc366 := hp361.1; have hp367 := hp361.2; clear hp361
      refine fcl hF365 hM263 (str (fixbitsS u0 u1)) 35 #[str u0, .int .u8 u1] (by rw [wanted_of hF365 (b := true) rfl rfl (by kernel_rfl) (by kernel_rfl)]; rfl) rfl (by kernel_rfl) (fun _ => by kernel_rfl) (fixbits_fun u0 u1 hc366 _ _ hM263.fz) ?_; intro a368 wd370 hF369 hM371; clear hF365 hM263
      refine st hF369 (.bool (((sfixedS u0 u1).1) == (fixbitsS u0 u1))) (by rw [wanted_of hF369 (b := true) rfl rfl (by kernel_rfl) (by kernel_rfl)]; rfl) rfl (by kernel_rfl) (strcmp_run hF369 (g := []) (op := .eql) rfl (by kernel_rfl) (by kernel_rfl) (by decide) rfl) ?_; intro a372 hF373; clear hF369
      refine s1 hF373 78 (.bool (((sfixedS u0 u1).1) == (fixbitsS u0 u1))) ?_; intro a374 hF375; clear hF373
      refine s1 hF375 6 (.bool (((sfixedS u0 u1).1) == (fixbitsS u0 u1))) ?_; intro a376 hF377; clear hF375
      refine nlH (hQ346 _ _ ?_); clear hQ346 hQ346Q
      refine wp_ret ?_
      refine rt (fn := Tryd.f11) (v := .bool (((sfixedS u0 u1).1) == (fixbitsS u0 u1))) hF377 (re1 hF377 (fn := Tryd.f11) rfl (by kernel_rfl)) ?_
      exact ⟨((sfixedS u0 u1).1) == (fixbitsS u0 u1), rfl, hp367, hM371.below⟩
     · -- false
      have hp378 := hp345.2 hb360; clear hp345
      have hF379 := hF359.reval (d := 72) (c := []) (v := .bool (((sfixedS u0 u1).2) == 0)) (by kernel_rfl) (.bool false) (by rw [hb360]); clear hF359
      have hF380 := hF379.setc (d := 73) (c := [0]) (v := str ((sfixedS u0 u1).1)) (by kernel_rfl) (v' := undef) (by rw [hb360]; kernel_rfl); clear hF379
      have hF381 := hF380.setc (d := 74) (c := [0]) (v := str u0) (by kernel_rfl) (v' := undef) (by rw [hb360]; kernel_rfl); clear hF380
      have hF382 := hF381.setc (d := 75) (c := [0]) (v := .int .u8 u1) (by kernel_rfl) (v' := undef) (by rw [hb360]; kernel_rfl); clear hF381
      refine sk hF382 (b := false) rfl rfl (by kernel_rfl) (by kernel_rfl) rfl rfl (by kernel_rfl) ?_; intro a383 hF384; clear hF382
      refine sk hF384 (b := false) rfl rfl (by kernel_rfl) (by kernel_rfl) rfl rfl (by kernel_rfl) ?_; intro a385 hF386; clear hF384
      refine s1 hF386 78 (.bool false) ?_; intro a387 hF388; clear hF386
      refine s1 hF388 6 (.bool false) ?_; intro a389 hF390; clear hF388
      refine nlH (hQ346 _ _ ?_); clear hQ346 hQ346Q
      refine wp_ret ?_
      refine rt (fn := Tryd.f11) (v := .bool false) hF390 (re1 hF390 (fn := Tryd.f11) rfl (by kernel_rfl)) ?_
      exact ⟨false, rfl, hp378, hM263.below⟩

end Go.Proofs.YtfafpnacflcgmaaDoor
