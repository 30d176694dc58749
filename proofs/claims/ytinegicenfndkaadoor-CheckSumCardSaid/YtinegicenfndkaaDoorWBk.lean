/- The walks, made by program: each call does what its pure predicate says. -/
import Derived.Test.YtinegicenfndkaaDoorPBk
import Derived.Test.YtinegicenfndkaaDoorWBj
set_option linter.unusedVariables false
set_option linter.unusedSimpArgs false
namespace Go.Proofs.YtinegicenfndkaaDoor
open Go.Sy Go.RowKit
theorem rsumof_fun (u0 : Int) (u1 : List UInt8) (hpre : (0 ≤ u0 ∧ u0 < 5) ∧ isRow u1 = true ∧ u1.length ≤ 1000)  (Z : Fz) (w : World) (hg5 : SlR (tyInt .u8) Z (some ⟨5, 0, none⟩) 64 deBruijn64) (hZ : Z.on w) : Calls Tryd.prog 19 #[.int .i64 u0, str u1] w fun e w' => e = .returned (str (sumR u0 u1)) ∧ Below w.heap.size w w' :=
  (rsumof_walk u0 u1  Z w hg5 hZ (rsumof_ok u0 u1 hpre)).mono fun _ _ ⟨r, he, hk, hb⟩ => ⟨by subst hk; exact he, hb⟩

set_option maxRecDepth 100000 in
set_option maxHeartbeats 0 in
theorem LSum_walk (u0 : Int) (u1 : List UInt8)  (Z : Fz) (w : World) (hg5 : SlR (tyInt .u8) Z (some ⟨5, 0, none⟩) 64 deBruijn64) (hZ : Z.on w) {K : Bool → Prop} (hp : LSum_vc u0 u1 K) : Calls Tryd.prog 5 #[.int .i64 u0, str u1] w fun e w' => ∃ r : Bool, e = .returned (.bool r) ∧ K r ∧ Below w.heap.size w w' := by
 refine enter0 Tryd.func5 rfl rfl (by kernel_rfl) ?_; intro a0 hF0; have hM0 := Mem.start w Z hZ; have hle0 := Fz.le.refl Z
 refine sqH ?_; intro hQ1Q hQ1
 refine s1 hF0 4 (.bool false) ?_; intro a2 hF3; clear hF0
 refine nlH (hQ1 _ _ ?_); clear hQ1 hQ1Q
 refine sqH ?_; intro hQ4Q hQ4
 refine s1 hF3 14 (.int .i64 u0) ?_; intro a5 hF6; clear hF3
 refine s1 hF6 15 (str u1) ?_; intro a7 hF8; clear hF6
 refine fcl hF8 hM0 (.tuple #[str ((csumS u0 u1).1), .int .i64 ((csumS u0 u1).2)]) 11 #[.int .i64 u0, str u1] (nog rfl _) rfl (by kernel_rfl) (fun _ => by kernel_rfl) (csum_fun u0 u1 _ _ hM0.fz) ?_; intro a9 wd11 hF10 hM12; clear hF8 hM0
 refine s1 hF10 13 (.tuple #[str ((csumS u0 u1).1), .int .i64 ((csumS u0 u1).2)]) ?_; intro a13 hF14; clear hF10
 refine s1 hF14 17 (str ((csumS u0 u1).1)) ?_; intro a15 hF16; clear hF14
 refine s1 hF16 18 (.int .i64 ((csumS u0 u1).2)) ?_; intro a17 hF18; clear hF16
 refine s1 hF18 5 (str ((csumS u0 u1).1)) ?_; intro a19 hF20; clear hF18
 refine s1 hF20 6 (.int .i64 ((csumS u0 u1).2)) ?_; intro a21 hF22; clear hF20
 refine nlH (hQ4 _ _ ?_); clear hQ4 hQ4Q
 refine sqH ?_; intro hQ23Q hQ23
 refine s1 hF22 20 (.int .i64 u0) ?_; intro a24 hF25; clear hF22
 refine s1 hF25 21 (str u1) ?_; intro a26 hF27; clear hF25
 refine fcl hF27 hM12 (.tuple #[.bool ((choldsS u0 u1).1), .int .i64 ((choldsS u0 u1).2)]) 17 #[.int .i64 u0, str u1] (nog rfl _) rfl (by kernel_rfl) (fun _ => by kernel_rfl) (cholds_fun u0 u1 _ _ hM12.fz) ?_; intro a28 wd30 hF29 hM31; clear hF27 hM12
 refine s1 hF29 19 (.tuple #[.bool ((choldsS u0 u1).1), .int .i64 ((choldsS u0 u1).2)]) ?_; intro a32 hF33; clear hF29
 refine s1 hF33 23 (.bool ((choldsS u0 u1).1)) ?_; intro a34 hF35; clear hF33
 refine s1 hF35 24 (.int .i64 ((choldsS u0 u1).2)) ?_; intro a36 hF37; clear hF35
 refine s1 hF37 7 (.bool ((choldsS u0 u1).1)) ?_; intro a38 hF39; clear hF37
 refine s1 hF39 8 (.int .i64 ((choldsS u0 u1).2)) ?_; intro a40 hF41; clear hF39
 refine nlH (hQ23 _ _ ?_); clear hQ23 hQ23Q
 have hF42 : Fr 128 [] [⟨0, [], .int .i64 u0⟩, ⟨1, [], str u1⟩, ⟨5, [], str ((csumS u0 u1).1)⟩, ⟨6, [], .int .i64 ((csumS u0 u1).2)⟩, ⟨7, [], .bool ((choldsS u0 u1).1)⟩, ⟨8, [], .int .i64 ((choldsS u0 u1).2)⟩] a40 := hF41.region (by kernel_rfl) (by kernel_rfl); clear hF41
 refine sqH ?_; intro hQ43Q hQ43
 refine s1 hF42 26 (.int .i64 u0) ?_; intro a44 hF45; clear hF42
 refine fcl hF45 hM31 (.tuple #[.int .i64 ((csize u0).1), .int .i64 ((csize u0).2)]) 14 #[.int .i64 u0] (nog rfl _) rfl (by kernel_rfl) (fun _ => by kernel_rfl) (csize_fun u0 _ _ hM31.fz) ?_; intro a46 wd48 hF47 hM49; clear hF45 hM31
 refine s1 hF47 25 (.tuple #[.int .i64 ((csize u0).1), .int .i64 ((csize u0).2)]) ?_; intro a50 hF51; clear hF47
 refine s1 hF51 28 (.int .i64 ((csize u0).1)) ?_; intro a52 hF53; clear hF51
 refine s1 hF53 29 (.int .i64 ((csize u0).2)) ?_; intro a54 hF55; clear hF53
 refine s1 hF55 9 (.int .i64 ((csize u0).1)) ?_; intro a56 hF57; clear hF55
 refine s1 hF57 10 (.int .i64 ((csize u0).2)) ?_; intro a58 hF59; clear hF57
 refine nlH (hQ43 _ _ ?_); clear hQ43 hQ43Q
 refine sqH ?_; intro hQ60Q hQ60
 refine s1 hF59 30 (str u1) ?_; intro a61 hF62; clear hF59
 refine fcl hF62 hM49 (.int .i64 (bcheckS u1)) 18 #[str u1] (nog rfl _) rfl (by kernel_rfl) (fun _ => by kernel_rfl) (rcheckrow_fun u1 _ _ hM49.fz) ?_; intro a63 wd65 hF64 hM66; clear hF62 hM49
 refine s1 hF64 11 (.int .i64 (bcheckS u1)) ?_; intro a67 hF68; clear hF64
 refine nlH (hQ60 _ _ ?_); clear hQ60 hQ60Q
 refine sqH ?_; intro hQ69Q hQ69
 refine s1 hF68 32 (.int .i64 u0) ?_; intro a70 hF71; clear hF68
 refine s1 hF71 33 (.bool (decide (u0 < 0))) ?_; intro a72 hF73; clear hF71
 refine s1 hF73 34 (.bool (decide (u0 < 0))) ?_; intro a74 hF75; clear hF73
 have hF76 := hF75.atom ((decide (u0 < 0)) == false) (by kernel_rfl); clear hF75
 refine gp hF76 35 0 [] (decide (u0 < 0)) (.int .i64 u0) rfl rfl ?_; intro a77 hF78; clear hF76
 refine gp hF78 36 0 [] (decide (u0 < 0)) (.bool (decide (u0 > 4))) rfl rfl ?_; intro a79 hF80; clear hF78
 refine st hF80 (.bool ((decide (u0 < 0)) || (decide (u0 > 4)))) (nog rfl _) rfl (by kernel_rfl) (pk_or hF80 (g := []) (m := 0) (b := decide (u0 < 0)) (v := decide (u0 > 4)) rfl (by kernel_rfl) (by kernel_rfl) (by kernel_rfl) rfl) ?_; intro a81 hF82; clear hF80
 refine s1 hF82 12 (.bool ((decide (u0 < 0)) || (decide (u0 > 4)))) ?_; intro a83 hF84; clear hF82
 refine nlH (hQ69 _ _ ?_); clear hQ69 hQ69Q
 refine wp_seq ?_
 have hF85 : Fr 128 [] [⟨0, [], .int .i64 u0⟩, ⟨1, [], str u1⟩, ⟨5, [], str ((csumS u0 u1).1)⟩, ⟨6, [], .int .i64 ((csumS u0 u1).2)⟩, ⟨7, [], .bool ((choldsS u0 u1).1)⟩, ⟨8, [], .int .i64 ((choldsS u0 u1).2)⟩, ⟨9, [], .int .i64 ((csize u0).1)⟩, ⟨10, [], .int .i64 ((csize u0).2)⟩, ⟨11, [], .int .i64 (bcheckS u1)⟩, ⟨12, [], .bool ((decide (u0 < 0)) || (decide (u0 > 4)))⟩] a83 := hF84.region (by kernel_rfl) (by kernel_rfl); clear hF84
 refine sqH ?_; intro hQ86Q hQ86
 refine fcl hF85 hM66 (.bool true) 12 #[] (nog rfl _) rfl (by kernel_rfl) (fun _ => by kernel_rfl) (summed_fun  _ _ hM66.fz) ?_; intro a87 wd89 hF88 hM90; clear hF85 hM66
 refine s1 hF88 39 (.bool false) ?_; intro a91 hF92; clear hF88
 refine s1 hF92 40 (.bool false) ?_; intro a93 hF94; clear hF92
 refine st hF94 (.bool ((decide (u0 < 0)) || (decide (u0 > 4)))) (by rw [wanted_of hF94 (b := false) rfl rfl (by kernel_rfl) (by kernel_rfl)]; rfl) rfl (by kernel_rfl) (p0 hF94 (by kernel_rfl)) ?_; intro a95 hF96; clear hF94
 refine st hF96 (.int .i64 ((csize u0).2)) (by rw [wanted_of hF96 (b := false) rfl rfl (by kernel_rfl) (by kernel_rfl)]; rfl) rfl (by kernel_rfl) (p0 hF96 (by kernel_rfl)) ?_; intro a97 hF98; clear hF96
 refine st hF98 (.bool (((csize u0).2) == 8)) (by rw [wanted_of hF98 (b := false) rfl rfl (by kernel_rfl) (by kernel_rfl)]; rfl) rfl (by kernel_rfl) (p0 hF98 (by kernel_rfl)) ?_; intro a99 hF100; clear hF98
 refine st hF100 (.bool (((decide (u0 < 0)) || (decide (u0 > 4))) != (((csize u0).2) == 8))) (by rw [wanted_of hF100 (b := false) rfl rfl (by kernel_rfl) (by kernel_rfl)]; rfl) rfl (by kernel_rfl) (p0 hF100 (by kernel_rfl)) ?_; intro a101 hF102; clear hF100
 refine s1 hF102 45 (.bool (((decide (u0 < 0)) || (decide (u0 > 4))) != (((csize u0).2) == 8))) ?_; intro a103 hF104; clear hF102
 refine s1 hF104 46 (.bool (((decide (u0 < 0)) || (decide (u0 > 4))) != (((csize u0).2) == 8))) ?_; intro a105 hF106; clear hF104
 have hF107 := hF106.atom ((((decide (u0 < 0)) || (decide (u0 > 4))) != (((csize u0).2) == 8)) == false) (by kernel_rfl); clear hF106
 refine gp hF107 47 0 [] (((decide (u0 < 0)) || (decide (u0 > 4))) != (((csize u0).2) == 8)) (.bool ((decide (u0 < 0)) || (decide (u0 > 4)))) rfl rfl ?_; intro a108 hF109; clear hF107
 refine gp hF109 48 0 [] (((decide (u0 < 0)) || (decide (u0 > 4))) != (((csize u0).2) == 8)) (.bool ((decide (u0 < 0)) || (decide (u0 > 4)))) rfl rfl ?_; intro a110 hF111; clear hF109
 have hF112 := hF111.atom (((decide (u0 < 0)) || (decide (u0 > 4))) == true) (by kernel_rfl); clear hF111
 refine gp hF112 49 1 [0] ((decide (u0 < 0)) || (decide (u0 > 4))) (.int .i64 ((csize u0).1)) rfl rfl ?_; intro a113 hF114; clear hF112
 refine gp hF114 50 1 [0] ((decide (u0 < 0)) || (decide (u0 > 4))) (.bool (((csize u0).1) != 0)) rfl rfl ?_; intro a115 hF116; clear hF114
 refine gd hF116 (.bool (((decide (u0 < 0)) || (decide (u0 > 4))) && (((csize u0).1) != 0))) (m := 0) (cj := []) (bj := ((decide (u0 < 0)) || (decide (u0 > 4))) != (((csize u0).2) == 8)) rfl rfl (by kernel_rfl) rfl (by kernel_rfl) (by kernel_rfl) (by kernel_rfl) (fun hg => pk_and hF116 (g := [0]) (m := 1) (b := (decide (u0 < 0)) || (decide (u0 > 4))) (v := ((csize u0).1) != 0) rfl (by kernel_rfl) (by kernel_rfl) (by kernel_rfl) hg) ?_; intro a117 hF118; clear hF116
 refine st hF118 (.bool ((((decide (u0 < 0)) || (decide (u0 > 4))) != (((csize u0).2) == 8)) || (((decide (u0 < 0)) || (decide (u0 > 4))) && (((csize u0).1) != 0)))) (nog rfl _) rfl (by kernel_rfl) (pk_or hF118 (g := []) (m := 0) (b := ((decide (u0 < 0)) || (decide (u0 > 4))) != (((csize u0).2) == 8)) (v := ((decide (u0 < 0)) || (decide (u0 > 4))) && (((csize u0).1) != 0)) rfl (by kernel_rfl) (by kernel_rfl) (by kernel_rfl) rfl) ?_; intro a119 hF120; clear hF118
 refine nlH (hQ86 _ _ ?_); clear hQ86 hQ86Q
 refine cd hF120 (t := (((decide (u0 < 0)) || (decide (u0 > 4))) != (((csize u0).2) == 8)) || (((decide (u0 < 0)) || (decide (u0 > 4))) && (((csize u0).1) != 0))) (by kernel_rfl) (fun hb121 => ?_) (fun hb121 => ?_)
 · -- yes
  have hp122 := hp.1 hb121; clear hp
  have hF123 : Fr 128 [] [] a119 := hF120.region (by kernel_rfl) (by kernel_rfl); clear hF120
  refine sqH ?_; intro hQ124Q hQ124
  refine s1 hF123 4 (.bool false) ?_; intro a125 hF126; clear hF123
  refine nlH (hQ124 _ _ ?_); clear hQ124 hQ124Q
  refine wp_ret ?_
  refine thr ?_
  refine rt (fn := Tryd.f5) (v := .bool false) hF126 (re1 hF126 (fn := Tryd.f5) rfl (by kernel_rfl)) ?_
  exact ⟨false, rfl, hp122, hM90.below⟩
 · -- no
  have hp127 := hp.2 hb121; clear hp
  refine wp_skip ?_
  refine thn ?_
  refine wp_seq ?_
  have hF128 : Fr 128 [] [⟨0, [], .int .i64 u0⟩, ⟨1, [], str u1⟩, ⟨5, [], str ((csumS u0 u1).1)⟩, ⟨6, [], .int .i64 ((csumS u0 u1).2)⟩, ⟨7, [], .bool ((choldsS u0 u1).1)⟩, ⟨8, [], .int .i64 ((choldsS u0 u1).2)⟩, ⟨9, [], .int .i64 ((csize u0).1)⟩, ⟨10, [], .int .i64 ((csize u0).2)⟩, ⟨11, [], .int .i64 (bcheckS u1)⟩, ⟨12, [], .bool ((decide (u0 < 0)) || (decide (u0 > 4)))⟩] a119 := hF120.region (by kernel_rfl) (by kernel_rfl); clear hF120
  refine sqH ?_; intro hQ129Q hQ129
  refine s1 hF128 53 (.int .i64 (bcheckS u1)) ?_; intro a130 hF131; clear hF128
  refine s1 hF131 54 (.bool ((bcheckS u1) == 0)) ?_; intro a132 hF133; clear hF131
  refine s1 hF133 55 (.bool ((bcheckS u1) == 0)) ?_; intro a134 hF135; clear hF133
  have hF136 := hF135.atom (((bcheckS u1) == 0) == true) (by kernel_rfl); clear hF135
  refine gp hF136 56 0 [] ((bcheckS u1) == 0) (.bool ((decide (u0 < 0)) || (decide (u0 > 4)))) rfl rfl ?_; intro a137 hF138; clear hF136
  refine st hF138 (.bool (((bcheckS u1) == 0) && ((decide (u0 < 0)) || (decide (u0 > 4))))) (nog rfl _) rfl (by kernel_rfl) (pk_and hF138 (g := []) (m := 0) (b := (bcheckS u1) == 0) (v := (decide (u0 < 0)) || (decide (u0 > 4))) rfl (by kernel_rfl) (by kernel_rfl) (by kernel_rfl) rfl) ?_; intro a139 hF140; clear hF138
  refine nlH (hQ129 _ _ ?_); clear hQ129 hQ129Q
  refine cd hF140 (t := ((bcheckS u1) == 0) && ((decide (u0 < 0)) || (decide (u0 > 4)))) (by kernel_rfl) (fun hb141 => ?_) (fun hb141 => ?_)
  · -- yes
   have hp142 := hp127.1 hb141; clear hp127
   have hF143 : Fr 128 [] [⟨0, [], .int .i64 u0⟩, ⟨1, [], str u1⟩, ⟨5, [], str ((csumS u0 u1).1)⟩, ⟨6, [], .int .i64 ((csumS u0 u1).2)⟩, ⟨7, [], .bool ((choldsS u0 u1).1)⟩, ⟨8, [], .int .i64 ((choldsS u0 u1).2)⟩, ⟨9, [], .int .i64 ((csize u0).1)⟩, ⟨10, [], .int .i64 ((csize u0).2)⟩] a139 := hF140.region (by kernel_rfl) (by kernel_rfl); clear hF140
   refine rgH ?_; intro hQ144Q hQ144
   refine s1 hF143 11 (.int .i64 8) ?_; intro a145 hF146; clear hF143
   refine nlH (hQ144 _ _ ?_); clear hQ144 hQ144Q
   refine thn ?_
   refine wp_seq ?_
   refine sqH ?_; intro hQ147Q hQ147
   refine s1 hF146 58 (.int .i64 8) ?_; intro a148 hF149; clear hF146
   refine s1 hF149 59 (.bool true) ?_; intro a150 hF151; clear hF149
   refine nlH (hQ147 _ _ ?_); clear hQ147 hQ147Q
   refine cdT hF151 (by kernel_rfl) ?_
   refine sqH ?_; intro hQ152Q hQ152
   refine s1 hF151 60 (.int .i64 ((csumS u0 u1).2)) ?_; intro a153 hF154; clear hF151
   refine s1 hF154 61 (.int .i64 8) ?_; intro a155 hF156; clear hF154
   refine s1 hF156 62 (.bool (((csumS u0 u1).2) == 8)) ?_; intro a157 hF158; clear hF156
   refine s1 hF158 63 (.bool (((csumS u0 u1).2) == 8)) ?_; intro a159 hF160; clear hF158
   have hF161 := hF160.atom ((((csumS u0 u1).2) == 8) == true) (by kernel_rfl); clear hF160
   refine gp hF161 64 0 [] (((csumS u0 u1).2) == 8) (.int .i64 ((choldsS u0 u1).2)) rfl rfl ?_; intro a162 hF163; clear hF161
   refine gp hF163 65 0 [] (((csumS u0 u1).2) == 8) (.int .i64 8) rfl rfl ?_; intro a164 hF165; clear hF163
   refine gp hF165 66 0 [] (((csumS u0 u1).2) == 8) (.bool (((choldsS u0 u1).2) == 8)) rfl rfl ?_; intro a166 hF167; clear hF165
   refine st hF167 (.bool ((((csumS u0 u1).2) == 8) && (((choldsS u0 u1).2) == 8))) (nog rfl _) rfl (by kernel_rfl) (pk_and hF167 (g := []) (m := 0) (b := ((csumS u0 u1).2) == 8) (v := ((choldsS u0 u1).2) == 8) rfl (by kernel_rfl) (by kernel_rfl) (by kernel_rfl) rfl) ?_; intro a168 hF169; clear hF167
   refine s1 hF169 68 (.bool ((((csumS u0 u1).2) == 8) && (((choldsS u0 u1).2) == 8))) ?_; intro a170 hF171; clear hF169
   have hF172 := hF171.atom (((((csumS u0 u1).2) == 8) && (((choldsS u0 u1).2) == 8)) == true) (by kernel_rfl); clear hF171
   refine gp hF172 69 1 [] ((((csumS u0 u1).2) == 8) && (((choldsS u0 u1).2) == 8)) (str ((csumS u0 u1).1)) rfl rfl ?_; intro a173 hF174; clear hF172
   refine gd hF174 (.bool (((csumS u0 u1).1) == ([] : List UInt8))) (m := 1) (cj := []) (bj := (((csumS u0 u1).2) == 8) && (((choldsS u0 u1).2) == 8)) rfl rfl (by kernel_rfl) rfl (by kernel_rfl) (by kernel_rfl) (by kernel_rfl) (fun hg => strcmp_run hF174 (g := [1]) (op := .eql) rfl (by kernel_rfl) (by kernel_rfl) (by decide) hg) ?_; intro a175 hF176; clear hF174
   refine st hF176 (.bool (((((csumS u0 u1).2) == 8) && (((choldsS u0 u1).2) == 8)) && (((csumS u0 u1).1) == ([] : List UInt8)))) (nog rfl _) rfl (by kernel_rfl) (pk_and hF176 (g := []) (m := 1) (b := (((csumS u0 u1).2) == 8) && (((choldsS u0 u1).2) == 8)) (v := ((csumS u0 u1).1) == ([] : List UInt8)) rfl (by kernel_rfl) (by kernel_rfl) (by kernel_rfl) rfl) ?_; intro a177 hF178; clear hF176
   refine s1 hF178 72 (.bool (((((csumS u0 u1).2) == 8) && (((choldsS u0 u1).2) == 8)) && (((csumS u0 u1).1) == ([] : List UInt8)))) ?_; intro a179 hF180; clear hF178
   have hF181 := hF180.atom ((((((csumS u0 u1).2) == 8) && (((choldsS u0 u1).2) == 8)) && (((csumS u0 u1).1) == ([] : List UInt8))) == true) (by kernel_rfl); clear hF180
   refine gp hF181 73 2 [] (((((csumS u0 u1).2) == 8) && (((choldsS u0 u1).2) == 8)) && (((csumS u0 u1).1) == ([] : List UInt8))) (.bool ((choldsS u0 u1).1)) rfl rfl ?_; intro a182 hF183; clear hF181
   refine gp hF183 74 2 [] (((((csumS u0 u1).2) == 8) && (((choldsS u0 u1).2) == 8)) && (((csumS u0 u1).1) == ([] : List UInt8))) (.bool (!((choldsS u0 u1).1))) rfl rfl ?_; intro a184 hF185; clear hF183
   refine st hF185 (.bool ((((((csumS u0 u1).2) == 8) && (((choldsS u0 u1).2) == 8)) && (((csumS u0 u1).1) == ([] : List UInt8))) && (!((choldsS u0 u1).1)))) (nog rfl _) rfl (by kernel_rfl) (pk_and hF185 (g := []) (m := 2) (b := ((((csumS u0 u1).2) == 8) && (((choldsS u0 u1).2) == 8)) && (((csumS u0 u1).1) == ([] : List UInt8))) (v := !((choldsS u0 u1).1)) rfl (by kernel_rfl) (by kernel_rfl) (by kernel_rfl) rfl) ?_; intro a186 hF187; clear hF185
   refine s1 hF187 4 (.bool ((((((csumS u0 u1).2) == 8) && (((choldsS u0 u1).2) == 8)) && (((csumS u0 u1).1) == ([] : List UInt8))) && (!((choldsS u0 u1).1)))) ?_; intro a188 hF189; clear hF187
   refine nlH (hQ152 _ _ ?_); clear hQ152 hQ152Q
   refine wp_ret ?_
   refine thr ?_
   refine rt (fn := Tryd.f5) (v := .bool ((((((csumS u0 u1).2) == 8) && (((choldsS u0 u1).2) == 8)) && (((csumS u0 u1).1) == ([] : List UInt8))) && (!((choldsS u0 u1).1)))) hF189 (re1 hF189 (fn := Tryd.f5) rfl (by kernel_rfl)) ?_
   exact ⟨(((((csumS u0 u1).2) == 8) && (((choldsS u0 u1).2) == 8)) && (((csumS u0 u1).1) == ([] : List UInt8))) && (!((choldsS u0 u1).1)), rfl, hp142, hM90.below⟩
  · -- no
   have hp190 := hp127.2 hb141; clear hp127
   refine wp_skip ?_
   refine thn ?_
   refine wp_seq ?_
   have hF191 : Fr 128 [] [⟨0, [], .int .i64 u0⟩, ⟨1, [], str u1⟩, ⟨5, [], str ((csumS u0 u1).1)⟩, ⟨6, [], .int .i64 ((csumS u0 u1).2)⟩, ⟨7, [], .bool ((choldsS u0 u1).1)⟩, ⟨8, [], .int .i64 ((choldsS u0 u1).2)⟩, ⟨9, [], .int .i64 ((csize u0).1)⟩, ⟨10, [], .int .i64 ((csize u0).2)⟩, ⟨11, [], .int .i64 (bcheckS u1)⟩] a139 := hF140.region (by kernel_rfl) (by kernel_rfl); clear hF140
   refine sqH ?_; intro hQ192Q hQ192
   refine s1 hF191 58 (.int .i64 (bcheckS u1)) ?_; intro a193 hF194; clear hF191
   refine s1 hF194 59 (.bool ((bcheckS u1) != 0)) ?_; intro a195 hF196; clear hF194
   refine nlH (hQ192 _ _ ?_); clear hQ192 hQ192Q
   refine cd hF196 (t := (bcheckS u1) != 0) (by kernel_rfl) (fun hb197 => ?_) (fun hb197 => ?_)
   · -- yes
    have hp198 := hp190.1 hb197; clear hp190
    refine sqH ?_; intro hQ199Q hQ199
    refine s1 hF196 60 (.int .i64 ((csumS u0 u1).2)) ?_; intro a200 hF201; clear hF196
    refine s1 hF201 61 (.int .i64 (bcheckS u1)) ?_; intro a202 hF203; clear hF201
    refine s1 hF203 62 (.bool (((csumS u0 u1).2) == (bcheckS u1))) ?_; intro a204 hF205; clear hF203
    refine s1 hF205 63 (.bool (((csumS u0 u1).2) == (bcheckS u1))) ?_; intro a206 hF207; clear hF205
    have hF208 := hF207.atom ((((csumS u0 u1).2) == (bcheckS u1)) == true) (by kernel_rfl); clear hF207
    refine gp hF208 64 0 [] (((csumS u0 u1).2) == (bcheckS u1)) (.int .i64 ((choldsS u0 u1).2)) rfl rfl ?_; intro a209 hF210; clear hF208
    refine gp hF210 65 0 [] (((csumS u0 u1).2) == (bcheckS u1)) (.int .i64 (bcheckS u1)) rfl rfl ?_; intro a211 hF212; clear hF210
    refine gp hF212 66 0 [] (((csumS u0 u1).2) == (bcheckS u1)) (.bool (((choldsS u0 u1).2) == (bcheckS u1))) rfl rfl ?_; intro a213 hF214; clear hF212
    refine st hF214 (.bool ((((csumS u0 u1).2) == (bcheckS u1)) && (((choldsS u0 u1).2) == (bcheckS u1)))) (nog rfl _) rfl (by kernel_rfl) (pk_and hF214 (g := []) (m := 0) (b := ((csumS u0 u1).2) == (bcheckS u1)) (v := ((choldsS u0 u1).2) == (bcheckS u1)) rfl (by kernel_rfl) (by kernel_rfl) (by kernel_rfl) rfl) ?_; intro a215 hF216; clear hF214
    refine s1 hF216 68 (.bool ((((csumS u0 u1).2) == (bcheckS u1)) && (((choldsS u0 u1).2) == (bcheckS u1)))) ?_; intro a217 hF218; clear hF216
    have hF219 := hF218.atom (((((csumS u0 u1).2) == (bcheckS u1)) && (((choldsS u0 u1).2) == (bcheckS u1))) == true) (by kernel_rfl); clear hF218
    refine gp hF219 69 1 [] ((((csumS u0 u1).2) == (bcheckS u1)) && (((choldsS u0 u1).2) == (bcheckS u1))) (str ((csumS u0 u1).1)) rfl rfl ?_; intro a220 hF221; clear hF219
    refine gd hF221 (.bool (((csumS u0 u1).1) == ([] : List UInt8))) (m := 1) (cj := []) (bj := (((csumS u0 u1).2) == (bcheckS u1)) && (((choldsS u0 u1).2) == (bcheckS u1))) rfl rfl (by kernel_rfl) rfl (by kernel_rfl) (by kernel_rfl) (by kernel_rfl) (fun hg => strcmp_run hF221 (g := [1]) (op := .eql) rfl (by kernel_rfl) (by kernel_rfl) (by decide) hg) ?_; intro a222 hF223; clear hF221
    refine st hF223 (.bool (((((csumS u0 u1).2) == (bcheckS u1)) && (((choldsS u0 u1).2) == (bcheckS u1))) && (((csumS u0 u1).1) == ([] : List UInt8)))) (nog rfl _) rfl (by kernel_rfl) (pk_and hF223 (g := []) (m := 1) (b := (((csumS u0 u1).2) == (bcheckS u1)) && (((choldsS u0 u1).2) == (bcheckS u1))) (v := ((csumS u0 u1).1) == ([] : List UInt8)) rfl (by kernel_rfl) (by kernel_rfl) (by kernel_rfl) rfl) ?_; intro a224 hF225; clear hF223
    refine s1 hF225 72 (.bool (((((csumS u0 u1).2) == (bcheckS u1)) && (((choldsS u0 u1).2) == (bcheckS u1))) && (((csumS u0 u1).1) == ([] : List UInt8)))) ?_; intro a226 hF227; clear hF225
    have hF228 := hF227.atom ((((((csumS u0 u1).2) == (bcheckS u1)) && (((choldsS u0 u1).2) == (bcheckS u1))) && (((csumS u0 u1).1) == ([] : List UInt8))) == true) (by kernel_rfl); clear hF227
    refine gp hF228 73 2 [] (((((csumS u0 u1).2) == (bcheckS u1)) && (((choldsS u0 u1).2) == (bcheckS u1))) && (((csumS u0 u1).1) == ([] : List UInt8))) (.bool ((choldsS u0 u1).1)) rfl rfl ?_; intro a229 hF230; clear hF228
    refine gp hF230 74 2 [] (((((csumS u0 u1).2) == (bcheckS u1)) && (((choldsS u0 u1).2) == (bcheckS u1))) && (((csumS u0 u1).1) == ([] : List UInt8))) (.bool (!((choldsS u0 u1).1))) rfl rfl ?_; intro a231 hF232; clear hF230
    refine st hF232 (.bool ((((((csumS u0 u1).2) == (bcheckS u1)) && (((choldsS u0 u1).2) == (bcheckS u1))) && (((csumS u0 u1).1) == ([] : List UInt8))) && (!((choldsS u0 u1).1)))) (nog rfl _) rfl (by kernel_rfl) (pk_and hF232 (g := []) (m := 2) (b := ((((csumS u0 u1).2) == (bcheckS u1)) && (((choldsS u0 u1).2) == (bcheckS u1))) && (((csumS u0 u1).1) == ([] : List UInt8))) (v := !((choldsS u0 u1).1)) rfl (by kernel_rfl) (by kernel_rfl) (by kernel_rfl) rfl) ?_; intro a233 hF234; clear hF232
    refine s1 hF234 4 (.bool ((((((csumS u0 u1).2) == (bcheckS u1)) && (((choldsS u0 u1).2) == (bcheckS u1))) && (((csumS u0 u1).1) == ([] : List UInt8))) && (!((choldsS u0 u1).1)))) ?_; intro a235 hF236; clear hF234
    refine nlH (hQ199 _ _ ?_); clear hQ199 hQ199Q
    refine wp_ret ?_
    refine thr ?_
    refine rt (fn := Tryd.f5) (v := .bool ((((((csumS u0 u1).2) == (bcheckS u1)) && (((choldsS u0 u1).2) == (bcheckS u1))) && (((csumS u0 u1).1) == ([] : List UInt8))) && (!((choldsS u0 u1).1)))) hF236 (re1 hF236 (fn := Tryd.f5) rfl (by kernel_rfl)) ?_
    exact ⟨(((((csumS u0 u1).2) == (bcheckS u1)) && (((choldsS u0 u1).2) == (bcheckS u1))) && (((csumS u0 u1).1) == ([] : List UInt8))) && (!((choldsS u0 u1).1)), rfl, hp198, hM90.below⟩
   · -- no
    have hp237 := hp190.2 hb197; clear hp190
    refine wp_skip ?_
    refine thn ?_
    refine wp_seq ?_
    refine sqH ?_; intro hQ238Q hQ238
    refine s1 hF196 76 (.int .i64 ((csize u0).2)) ?_; intro a239 hF240; clear hF196
    refine s1 hF240 77 (.bool (((csize u0).2) != 0)) ?_; intro a241 hF242; clear hF240
    refine s1 hF242 78 (.bool (((csize u0).2) != 0)) ?_; intro a243 hF244; clear hF242
    have hF245 := hF244.atom ((((csize u0).2) != 0) == false) (by kernel_rfl); clear hF244
    refine gp hF245 79 0 [] (((csize u0).2) != 0) (.int .i64 ((csize u0).1)) rfl rfl ?_; intro a246 hF247; clear hF245
    rcases Bool.eq_false_or_eq_true (((csize u0).2) != 0) with hb248 | hb248
    · -- true
     have hp249 := hp237.1 hb248; clear hp237
     have hF250 := hF247.reval (d := 78) (c := []) (v := .bool (((csize u0).2) != 0)) (by kernel_rfl) (.bool true) (by rw [hb248]); clear hF247
     have hF251 := hF250.setc (d := 79) (c := [0]) (v := .int .i64 ((csize u0).1)) (by kernel_rfl) (v' := undef) (by rw [hb248]; kernel_rfl); clear hF250
     refine sk hF251 (b := true) rfl rfl (by kernel_rfl) (by kernel_rfl) rfl rfl (by kernel_rfl) ?_; intro a252 hF253; clear hF251
     refine sk hF253 (b := true) rfl rfl (by kernel_rfl) (by kernel_rfl) rfl rfl (by kernel_rfl) ?_; intro a254 hF255; clear hF253
     refine sk hF255 (b := true) rfl rfl (by kernel_rfl) (by kernel_rfl) rfl rfl (by kernel_rfl) ?_; intro a256 hF257; clear hF255
     refine sk hF257 (b := true) rfl rfl (by kernel_rfl) (by kernel_rfl) rfl rfl (by kernel_rfl) ?_; intro a258 hF259; clear hF257
     refine sk hF259 (b := true) rfl rfl (by kernel_rfl) (by kernel_rfl) rfl rfl (by kernel_rfl) ?_; intro a260 hF261; clear hF259
     refine s1 hF261 85 (.bool true) ?_; intro a262 hF263; clear hF261
     refine s1 hF263 86 (.bool true) ?_; intro a264 hF265; clear hF263
     refine sk hF265 (b := true) rfl rfl (by kernel_rfl) (by kernel_rfl) rfl rfl (by kernel_rfl) ?_; intro a266 hF267; clear hF265
     refine sk hF267 (b := true) rfl rfl (by kernel_rfl) (by kernel_rfl) rfl rfl (by kernel_rfl) ?_; intro a268 hF269; clear hF267
     refine s1 hF269 89 (.bool true) ?_; intro a270 hF271; clear hF269
     refine s1 hF271 90 (.bool true) ?_; intro a272 hF273; clear hF271
     refine sk hF273 (b := true) rfl rfl (by kernel_rfl) (by kernel_rfl) rfl rfl (by kernel_rfl) ?_; intro a274 hF275; clear hF273
     refine sk hF275 (b := true) rfl rfl (by kernel_rfl) (by kernel_rfl) rfl rfl (by kernel_rfl) ?_; intro a276 hF277; clear hF275
     refine sk hF277 (b := true) rfl rfl (by kernel_rfl) (by kernel_rfl) rfl rfl (by kernel_rfl) ?_; intro a278 hF279; clear hF277
     refine sk hF279 (b := true) rfl rfl (by kernel_rfl) (by kernel_rfl) rfl rfl (by kernel_rfl) ?_; intro a280 hF281; clear hF279
     refine sk hF281 (b := true) rfl rfl (by kernel_rfl) (by kernel_rfl) rfl rfl (by kernel_rfl) ?_; intro a282 hF283; clear hF281
     refine s1 hF283 96 (.bool true) ?_; intro a284 hF285; clear hF283
     refine nlH (hQ238 _ _ ?_); clear hQ238 hQ238Q
     refine cdT hF285 (by kernel_rfl) ?_
     have hF286 : Fr 128 [] [] a284 := hF285.region (by kernel_rfl) (by kernel_rfl); clear hF285
     refine sqH ?_; intro hQ287Q hQ287
     refine s1 hF286 4 (.bool false) ?_; intro a288 hF289; clear hF286
     refine nlH (hQ287 _ _ ?_); clear hQ287 hQ287Q
     refine wp_ret ?_
     refine thr ?_
     refine rt (fn := Tryd.f5) (v := .bool false) hF289 (re1 hF289 (fn := Tryd.f5) rfl (by kernel_rfl)) ?_
     exact ⟨false, rfl, hp249, hM90.below⟩
    · -- false
     have hp290 := hp237.2 hb248; clear hp237
     have hF291 := hF247.reval (d := 78) (c := []) (v := .bool (((csize u0).2) != 0)) (by kernel_rfl) (.bool false) (by rw [hb248]); clear hF247
     have hF292 := hF291.setc (d := 79) (c := [0]) (v := .int .i64 ((csize u0).1)) (by kernel_rfl) (v' := .int .i64 ((csize u0).1)) (by rw [hb248]; kernel_rfl); clear hF291
     refine sn hF292 hM90 (fun b => .slice (some ⟨b, 0, none⟩) 5 5) [.int .i64 15, .int .i64 17, .int .i64 21, .int .i64 8, .int .i64 16] 3 (by rw [wanted_of hF292 (b := false) rfl rfl (by kernel_rfl) (by kernel_rfl)]; rfl) rfl (by kernel_rfl) (by kernel_rfl) ?_; intro b293 a294 wd296 hF295 hM297; clear hF292 hM90
     refine st hF295 (.int .i64 u0) (by rw [wanted_of hF295 (b := false) rfl rfl (by kernel_rfl) (by kernel_rfl)]; rfl) rfl (by kernel_rfl) (p0 hF295 (by kernel_rfl)) ?_; intro a298 hF299; clear hF295
     have hM300 : Mem w.heap.size [] w Z [.own (tyInt .i64) 3 (some ⟨b293, 0, none⟩) 5 ([15, 17, 21, 8, 16] : List Int)] Z wd296 := hM297.rowOwn (T := (tyInt .i64)) (xs := ([15, 17, 21, 8, 16] : List Int)) 0 rfl (by decide) (by show 5 ≤ lim; decide) ((RepAll.one (T := (tyInt .i64)) (x := 15) rfl).append ((RepAll.one (T := (tyInt .i64)) (x := 17) rfl).append ((RepAll.one (T := (tyInt .i64)) (x := 21) rfl).append ((RepAll.one (T := (tyInt .i64)) (x := 8) rfl).append (RepAll.one (T := (tyInt .i64)) (x := 16) rfl))))); clear hM297
     obtain ⟨Z301, hle302, hM303, hs304⟩ := hM300.freeze 0 rfl
     replace hg5 := hg5.mono hle302
     replace hle0 := Fz.le.trans hle0 hle302
     have hM305 : Mem w.heap.size [] w Z [] Z301 wd296 := hM303; clear hM303
     have hc306 := hp290.1; have hp307 := hp290.2; clear hp290
     refine ix hF299 (T := (tyInt .i64)) (xs := ([15, 17, 21, 8, 16] : List Int)) hs304 u0 hc306 (k := .i64) (e := 3) (bytes := 8) (by rw [wanted_of hF299 (b := false) rfl rfl (by kernel_rfl) (by kernel_rfl)]; rfl) rfl (by kernel_rfl) rfl (by kernel_rfl) (by kernel_rfl) (by kernel_rfl) ?_; intro b308 off309 cs310 q311 a315 hq312 hP313 hT314 hF316; clear hF299
     have hp317 := hp307 q311 hq312; clear hp307
     obtain rfl : cs310 = ([.int .i64 q311] : List Value) := hT314
     refine st hF316 (.int .i64 q311) (by rw [wanted_of hF316 (b := false) rfl rfl (by kernel_rfl) (by kernel_rfl)]; rfl) rfl (by kernel_rfl) (lz hF316 hM305.fz hP313 0 (g := []) rfl (by kernel_rfl) (by kernel_rfl) (by kernel_rfl) rfl) ?_; intro a318 hF319; clear hF316
     refine st hF319 (.bool (((csize u0).1) != q311)) (by rw [wanted_of hF319 (b := false) rfl rfl (by kernel_rfl) (by kernel_rfl)]; rfl) rfl (by kernel_rfl) (p0 hF319 (by kernel_rfl)) ?_; intro a320 hF321; clear hF319
     refine s1 hF321 85 (.bool (((csize u0).1) != q311)) ?_; intro a322 hF323; clear hF321
     refine s1 hF323 86 (.bool (((csize u0).1) != q311)) ?_; intro a324 hF325; clear hF323
     have hF326 := hF325.atom ((((csize u0).1) != q311) == false) (by kernel_rfl); clear hF325
     refine gp hF326 87 1 [] (((csize u0).1) != q311) (.int .i64 ((csumS u0 u1).2)) rfl rfl ?_; intro a327 hF328; clear hF326
     refine gp hF328 88 1 [] (((csize u0).1) != q311) (.bool (((csumS u0 u1).2) != 0)) rfl rfl ?_; intro a329 hF330; clear hF328
     refine st hF330 (.bool ((((csize u0).1) != q311) || (((csumS u0 u1).2) != 0))) (nog rfl _) rfl (by kernel_rfl) (pk_or hF330 (g := []) (m := 1) (b := ((csize u0).1) != q311) (v := ((csumS u0 u1).2) != 0) rfl (by kernel_rfl) (by kernel_rfl) (by kernel_rfl) rfl) ?_; intro a331 hF332; clear hF330
     refine s1 hF332 90 (.bool ((((csize u0).1) != q311) || (((csumS u0 u1).2) != 0))) ?_; intro a333 hF334; clear hF332
     have hF335 := hF334.atom (((((csize u0).1) != q311) || (((csumS u0 u1).2) != 0)) == false) (by kernel_rfl); clear hF334
     refine gp hF335 91 2 [] ((((csize u0).1) != q311) || (((csumS u0 u1).2) != 0)) (str ((csumS u0 u1).1)) rfl rfl ?_; intro a336 hF337; clear hF335
     refine gp hF337 92 2 [] ((((csize u0).1) != q311) || (((csumS u0 u1).2) != 0)) (.int .i64 u0) rfl rfl ?_; intro a338 hF339; clear hF337
     refine gp hF339 93 2 [] ((((csize u0).1) != q311) || (((csumS u0 u1).2) != 0)) (str u1) rfl rfl ?_; intro a340 hF341; clear hF339
     rcases Bool.eq_false_or_eq_true ((((csize u0).1) != q311) || (((csumS u0 u1).2) != 0)) with hb342 | hb342
     · -- true
      have hp343 := hp317.1 hb342; clear hp317
      have hF344 := hF341.reval (d := 90) (c := []) (v := .bool ((((csize u0).1) != q311) || (((csumS u0 u1).2) != 0))) (by kernel_rfl) (.bool true) (by rw [hb342]); clear hF341
      have hF345 := hF344.setc (d := 91) (c := [2]) (v := str ((csumS u0 u1).1)) (by kernel_rfl) (v' := undef) (by rw [hb342]; kernel_rfl); clear hF344
      have hF346 := hF345.setc (d := 92) (c := [2]) (v := .int .i64 u0) (by kernel_rfl) (v' := undef) (by rw [hb342]; kernel_rfl); clear hF345
      have hF347 := hF346.setc (d := 93) (c := [2]) (v := str u1) (by kernel_rfl) (v' := undef) (by rw [hb342]; kernel_rfl); clear hF346
      refine sk hF347 (b := true) rfl rfl (by kernel_rfl) (by kernel_rfl) rfl rfl (by kernel_rfl) ?_; intro a348 hF349; clear hF347
      refine sk hF349 (b := true) rfl rfl (by kernel_rfl) (by kernel_rfl) rfl rfl (by kernel_rfl) ?_; intro a350 hF351; clear hF349
      refine s1 hF351 96 (.bool true) ?_; intro a352 hF353; clear hF351
      refine nlH (hQ238 _ _ ?_); clear hQ238 hQ238Q
      refine cdT hF353 (by kernel_rfl) ?_
      have hF354 : Fr 128 [] [] a352 := hF353.region (by kernel_rfl) (by kernel_rfl); clear hF353
      refine sqH ?_; intro hQ355Q hQ355
      refine s1 hF354 4 (.bool false) ?_; intro a356 hF357; clear hF354
      refine nlH (hQ355 _ _ ?_); clear hQ355 hQ355Q
      refine wp_ret ?_
      refine thr ?_
      refine rt (fn := Tryd.f5) (v := .bool false) hF357 (re1 hF357 (fn := Tryd.f5) rfl (by kernel_rfl)) ?_
      exact ⟨false, rfl, hp343, hM305.below⟩
     · -- false
      have hp358 := hp317.2 hb342; clear hp317
      have hF359 := hF341.reval (d := 90) (c := []) (v := .bool ((((csize u0).1) != q311) || (((csumS u0 u1).2) != 0))) (by kernel_rfl) (.bool false) (by rw [hb342]); clear hF341
      have hF360 := hF359.setc (d := 91) (c := [2]) (v := str ((csumS u0 u1).1)) (by kernel_rfl) (v' := str ((csumS u0 u1).1)) (by rw [hb342]; kernel_rfl); clear hF359
      have hF361 := hF360.setc (d := 92) (c := [2]) (v := .int .i64 u0) (by kernel_rfl) (v' := .int .i64 u0) (by rw [hb342]; kernel_rfl); clear hF360
      have hF362 := hF361.setc (d := 93) (c := [2]) (v := str u1) (by kernel_rfl) (v' := str u1) (by rw [hb342]; kernel_rfl); clear hF361
      have hc363 := hp358.1; have hp364 := hp358.2; clear hp358
      refine fcl hF362 hM305 (str (sumR u0 u1)) 19 #[.int .i64 u0, str u1] (by rw [wanted_of hF362 (b := false) rfl rfl (by kernel_rfl) (by kernel_rfl)]; rfl) rfl (by kernel_rfl) (fun _ => by kernel_rfl) (rsumof_fun u0 u1 hc363 _ _ hg5 hM305.fz) ?_; intro a365 wd367 hF366 hM368; clear hF362 hM305
      refine st hF366 (.bool (((csumS u0 u1).1) != (sumR u0 u1))) (by rw [wanted_of hF366 (b := false) rfl rfl (by kernel_rfl) (by kernel_rfl)]; rfl) rfl (by kernel_rfl) (strcmp_run hF366 (g := []) (op := .neq) rfl (by kernel_rfl) (by kernel_rfl) (by decide) rfl) ?_; intro a369 hF370; clear hF366
      refine s1 hF370 96 (.bool (((csumS u0 u1).1) != (sumR u0 u1))) ?_; intro a371 hF372; clear hF370
      refine nlH (hQ238 _ _ ?_); clear hQ238 hQ238Q
      refine cd hF372 (t := ((csumS u0 u1).1) != (sumR u0 u1)) (by kernel_rfl) (fun hb373 => ?_) (fun hb373 => ?_)
      · -- yes
       have hp374 := hp364.1 hb373; clear hp364
       have hF375 : Fr 128 [] [] a371 := hF372.region (by kernel_rfl) (by kernel_rfl); clear hF372
       refine sqH ?_; intro hQ376Q hQ376
       refine s1 hF375 4 (.bool false) ?_; intro a377 hF378; clear hF375
       refine nlH (hQ376 _ _ ?_); clear hQ376 hQ376Q
       refine wp_ret ?_
       refine thr ?_
       refine rt (fn := Tryd.f5) (v := .bool false) hF378 (re1 hF378 (fn := Tryd.f5) rfl (by kernel_rfl)) ?_
       exact ⟨false, rfl, hp374, hM368.below⟩
      · -- no
       have hp379 := hp364.2 hb373; clear hp364
       refine wp_skip ?_
       refine thn ?_
       refine wp_seq ?_
       have hF380 : Fr 128 [] [⟨0, [], .int .i64 u0⟩, ⟨1, [], str u1⟩, ⟨7, [], .bool ((choldsS u0 u1).1)⟩, ⟨8, [], .int .i64 ((choldsS u0 u1).2)⟩, ⟨9, [], .int .i64 ((csize u0).1)⟩] a371 := hF372.region (by kernel_rfl) (by kernel_rfl); clear hF372
       refine sqH ?_; intro hQ381Q hQ381
       refine s1 hF380 97 (str u1) ?_; intro a382 hF383; clear hF380
       refine s1 hF383 98 (.int .i64 (u1.length : Int)) ?_; intro a384 hF385; clear hF383
       refine s1 hF385 99 (.int .i64 ((csize u0).1)) ?_; intro a386 hF387; clear hF385
       refine s1 hF387 100 (.bool (decide ((u1.length : Int) < ((csize u0).1)))) ?_; intro a388 hF389; clear hF387
       refine nlH (hQ381 _ _ ?_); clear hQ381 hQ381Q
       refine cd hF389 (t := decide ((u1.length : Int) < ((csize u0).1))) (by kernel_rfl) (fun hb390 => ?_) (fun hb390 => ?_)
       · -- yes
        have hp391 := hp379.1 hb390; clear hp379
        refine sqH ?_; intro hQ392Q hQ392
        refine s1 hF389 101 (.int .i64 ((choldsS u0 u1).2)) ?_; intro a393 hF394; clear hF389
        refine s1 hF394 102 (.bool (((choldsS u0 u1).2) == 7)) ?_; intro a395 hF396; clear hF394
        refine s1 hF396 103 (.bool (((choldsS u0 u1).2) == 7)) ?_; intro a397 hF398; clear hF396
        have hF399 := hF398.atom ((((choldsS u0 u1).2) == 7) == true) (by kernel_rfl); clear hF398
        refine gp hF399 104 0 [] (((choldsS u0 u1).2) == 7) (.bool ((choldsS u0 u1).1)) rfl rfl ?_; intro a400 hF401; clear hF399
        refine gp hF401 105 0 [] (((choldsS u0 u1).2) == 7) (.bool (!((choldsS u0 u1).1))) rfl rfl ?_; intro a402 hF403; clear hF401
        refine st hF403 (.bool ((((choldsS u0 u1).2) == 7) && (!((choldsS u0 u1).1)))) (nog rfl _) rfl (by kernel_rfl) (pk_and hF403 (g := []) (m := 0) (b := ((choldsS u0 u1).2) == 7) (v := !((choldsS u0 u1).1)) rfl (by kernel_rfl) (by kernel_rfl) (by kernel_rfl) rfl) ?_; intro a404 hF405; clear hF403
        refine s1 hF405 4 (.bool ((((choldsS u0 u1).2) == 7) && (!((choldsS u0 u1).1)))) ?_; intro a406 hF407; clear hF405
        refine nlH (hQ392 _ _ ?_); clear hQ392 hQ392Q
        refine wp_ret ?_
        refine thr ?_
        refine rt (fn := Tryd.f5) (v := .bool ((((choldsS u0 u1).2) == 7) && (!((choldsS u0 u1).1)))) hF407 (re1 hF407 (fn := Tryd.f5) rfl (by kernel_rfl)) ?_
        exact ⟨(((choldsS u0 u1).2) == 7) && (!((choldsS u0 u1).1)), rfl, hp391, hM368.below⟩
       · -- no
        have hp408 := hp379.2 hb390; clear hp379
        refine wp_skip ?_
        refine thn ?_
        have hF409 : Fr 128 [] [⟨0, [], .int .i64 u0⟩, ⟨1, [], str u1⟩, ⟨7, [], .bool ((choldsS u0 u1).1)⟩, ⟨8, [], .int .i64 ((choldsS u0 u1).2)⟩, ⟨9, [], .int .i64 ((csize u0).1)⟩] a388 := hF389.region (by kernel_rfl) (by kernel_rfl); clear hF389
        rcases Bool.eq_false_or_eq_true (((choldsS u0 u1).2) == 0) with hb410 | hb410
        · -- true
         have hp411 := hp408.1 hb410; clear hp408
         have hF412 : Fr 128 [] [⟨0, [], .int .i64 u0⟩, ⟨1, [], str u1⟩, ⟨7, [], .bool ((choldsS u0 u1).1)⟩, ⟨8, [], .int .i64 ((choldsS u0 u1).2)⟩, ⟨9, [], .int .i64 ((csize u0).1)⟩] a388 := hF409.region (by kernel_rfl) (by kernel_rfl); clear hF409
         refine sqQH mixed (by kernel_rfl) hM368 ?_; intro hQ413Q hQ413
         refine q1 hF412 107 (.int .i64 ((choldsS u0 u1).2)) ?_; intro a415 hF416; clear hF412
         refine q1 hF416 108 (.bool (((choldsS u0 u1).2) == 0)) ?_; intro a418 hF419; clear hF416
         have hF420 := hF419.reval (d := 108) (c := []) (v := .bool (((choldsS u0 u1).2) == 0)) (by kernel_rfl) (.bool true) (by rw [hb410]); clear hF419
         refine q1 hF420 109 (.bool true) ?_; intro a422 hF423; clear hF420
         refine qst hF423 (.bool ((choldsS u0 u1).1)) (by rw [wanted_of hF423 (b := true) rfl rfl (by kernel_rfl) (by kernel_rfl)]; rfl) rfl (by kernel_rfl) (fun v424 hC => p0 hF423 (by kernel_rfl)) ?_; intro a425 hF426; clear hF423
         refine qst hF426 (.int .i64 u0) (by rw [wanted_of hF426 (b := true) rfl rfl (by kernel_rfl) (by kernel_rfl)]; rfl) rfl (by kernel_rfl) (fun v427 hC => p0 hF426 (by kernel_rfl)) ?_; intro a428 hF429; clear hF426
         refine qst hF429 (str u1) (by rw [wanted_of hF429 (b := true) rfl rfl (by kernel_rfl) (by kernel_rfl)]; rfl) rfl (by kernel_rfl) (fun v430 hC => p0 hF429 (by kernel_rfl)) ?_; intro a431 hF432; clear hF429
         refine qst hF432 (str u1) (by rw [wanted_of hF432 (b := true) rfl rfl (by kernel_rfl) (by kernel_rfl)]; rfl) rfl (by kernel_rfl) (fun v433 hC => p0 hF432 (by kernel_rfl)) ?_; intro a434 hF435; clear hF432
         refine qst hF435 (.int .i64 (u1.length : Int)) (by rw [wanted_of hF435 (b := true) rfl rfl (by kernel_rfl) (by kernel_rfl)]; rfl) rfl (by kernel_rfl) (fun v436 hC => p0 hF435 (by kernel_rfl)) ?_; intro a437 hF438; clear hF435
         refine qst hF438 (.int .i64 ((csize u0).1)) (by rw [wanted_of hF438 (b := true) rfl rfl (by kernel_rfl) (by kernel_rfl)]; rfl) rfl (by kernel_rfl) (fun v439 hC => p0 hF438 (by kernel_rfl)) ?_; intro a440 hF441; clear hF438
         refine qst hF441 (.int .i64 (w64 ((u1.length : Int) - ((csize u0).1)))) (by rw [wanted_of hF441 (b := true) rfl rfl (by kernel_rfl) (by kernel_rfl)]; rfl) rfl (by kernel_rfl) (fun v442 hC => p0 hF441 (by kernel_rfl)) ?_; intro a443 hF444; clear hF441
         have hc446 := hp411.1; have hp447 := hp411.2; clear hp411
         refine qst hF444 (str (u1.take (w64 ((u1.length : Int) - ((csize u0).1))).toNat)) (by rw [wanted_of hF444 (b := true) rfl rfl (by kernel_rfl) (by kernel_rfl)]; rfl) rfl (by kernel_rfl) (fun v445 hC => strslH_run hF444 (g := []) (k := .i64) rfl (by kernel_rfl) (by kernel_rfl) (by kernel_rfl) hc446 rfl) ?_; intro a448 hF449; clear hF444
         have hc451 := hp447.1; have hp452 := hp447.2; clear hp447
         refine qcl hF449 (str (sumR u0 (u1.take (w64 ((u1.length : Int) - ((csize u0).1))).toNat))) 19 #[.int .i64 u0, str (u1.take (w64 ((u1.length : Int) - ((csize u0).1))).toNat)] (by rw [wanted_of hF449 (b := true) rfl rfl (by kernel_rfl) (by kernel_rfl)]; rfl) rfl (by kernel_rfl) (fun _ => by kernel_rfl) (qfc fun w hC => rsumof_fun u0 (u1.take (w64 ((u1.length : Int) - ((csize u0).1))).toNat) hc451 _ _ hg5 hC.fz) ?_; intro a453 hF454; clear hF449
         refine qst hF454 (str u1) (by rw [wanted_of hF454 (b := true) rfl rfl (by kernel_rfl) (by kernel_rfl)]; rfl) rfl (by kernel_rfl) (fun v455 hC => p0 hF454 (by kernel_rfl)) ?_; intro a456 hF457; clear hF454
         refine qst hF457 (str u1) (by rw [wanted_of hF457 (b := true) rfl rfl (by kernel_rfl) (by kernel_rfl)]; rfl) rfl (by kernel_rfl) (fun v458 hC => p0 hF457 (by kernel_rfl)) ?_; intro a459 hF460; clear hF457
         refine qst hF460 (.int .i64 (u1.length : Int)) (by rw [wanted_of hF460 (b := true) rfl rfl (by kernel_rfl) (by kernel_rfl)]; rfl) rfl (by kernel_rfl) (fun v461 hC => p0 hF460 (by kernel_rfl)) ?_; intro a462 hF463; clear hF460
         refine qst hF463 (.int .i64 ((csize u0).1)) (by rw [wanted_of hF463 (b := true) rfl rfl (by kernel_rfl) (by kernel_rfl)]; rfl) rfl (by kernel_rfl) (fun v464 hC => p0 hF463 (by kernel_rfl)) ?_; intro a465 hF466; clear hF463
         refine qst hF466 (.int .i64 (w64 ((u1.length : Int) - ((csize u0).1)))) (by rw [wanted_of hF466 (b := true) rfl rfl (by kernel_rfl) (by kernel_rfl)]; rfl) rfl (by kernel_rfl) (fun v467 hC => p0 hF466 (by kernel_rfl)) ?_; intro a468 hF469; clear hF466
         have hc471 := hp452.1; have hp472 := hp452.2; clear hp452
         refine qst hF469 (str (u1.drop (w64 ((u1.length : Int) - ((csize u0).1))).toNat)) (by rw [wanted_of hF469 (b := true) rfl rfl (by kernel_rfl) (by kernel_rfl)]; rfl) rfl (by kernel_rfl) (fun v470 hC => strslL_run hF469 (g := []) (k := .i64) rfl (by kernel_rfl) (by kernel_rfl) (by kernel_rfl) hc471 rfl) ?_; intro a473 hF474; clear hF469
         refine qst hF474 (.bool ((sumR u0 (u1.take (w64 ((u1.length : Int) - ((csize u0).1))).toNat)) == (u1.drop (w64 ((u1.length : Int) - ((csize u0).1))).toNat))) (by rw [wanted_of hF474 (b := true) rfl rfl (by kernel_rfl) (by kernel_rfl)]; rfl) rfl (by kernel_rfl) (fun v475 hC => strcmp_run hF474 (g := []) (op := .eql) rfl (by kernel_rfl) (by kernel_rfl) (by decide) rfl) ?_; intro a476 hF477; clear hF474
         refine qst hF477 (.bool (((choldsS u0 u1).1) == ((sumR u0 (u1.take (w64 ((u1.length : Int) - ((csize u0).1))).toNat)) == (u1.drop (w64 ((u1.length : Int) - ((csize u0).1))).toNat)))) (by rw [wanted_of hF477 (b := true) rfl rfl (by kernel_rfl) (by kernel_rfl)]; rfl) rfl (by kernel_rfl) (fun v478 hC => p0 hF477 (by kernel_rfl)) ?_; intro a479 hF480; clear hF477
         refine q1 hF480 127 (.bool (((choldsS u0 u1).1) == ((sumR u0 (u1.take (w64 ((u1.length : Int) - ((csize u0).1))).toNat)) == (u1.drop (w64 ((u1.length : Int) - ((csize u0).1))).toNat)))) ?_; intro a482 hF483; clear hF480
         refine q1 hF483 4 (.bool (((choldsS u0 u1).1) == ((sumR u0 (u1.take (w64 ((u1.length : Int) - ((csize u0).1))).toNat)) == (u1.drop (w64 ((u1.length : Int) - ((csize u0).1))).toNat)))) ?_; intro a485 hF486; clear hF483
         refine qnl (hQ413 _ ?_); clear hQ413 hQ413Q; intro wd487 hM488; clear hM368
         refine wp_ret ?_
         refine rt (fn := Tryd.f5) (v := .bool (((choldsS u0 u1).1) == ((sumR u0 (u1.take (w64 ((u1.length : Int) - ((csize u0).1))).toNat)) == (u1.drop (w64 ((u1.length : Int) - ((csize u0).1))).toNat)))) hF486 (re1 hF486 (fn := Tryd.f5) rfl (by kernel_rfl)) ?_
         exact ⟨((choldsS u0 u1).1) == ((sumR u0 (u1.take (w64 ((u1.length : Int) - ((csize u0).1))).toNat)) == (u1.drop (w64 ((u1.length : Int) - ((csize u0).1))).toNat)), rfl, hp472, hM488.below⟩
        · -- false
         have hp489 := hp408.2 hb410; clear hp408
         have hF490 : Fr 128 [] [⟨0, [], .int .i64 u0⟩, ⟨1, [], str u1⟩, ⟨7, [], .bool ((choldsS u0 u1).1)⟩, ⟨8, [], .int .i64 ((choldsS u0 u1).2)⟩, ⟨9, [], .int .i64 ((csize u0).1)⟩] a388 := hF409.region (by kernel_rfl) (by kernel_rfl); clear hF409
         refine sqQH mixed (by kernel_rfl) hM368 ?_; intro hQ491Q hQ491
         refine q1 hF490 107 (.int .i64 ((choldsS u0 u1).2)) ?_; intro a493 hF494; clear hF490
         refine q1 hF494 108 (.bool (((choldsS u0 u1).2) == 0)) ?_; intro a496 hF497; clear hF494
         have hF498 := hF497.reval (d := 108) (c := []) (v := .bool (((choldsS u0 u1).2) == 0)) (by kernel_rfl) (.bool false) (by rw [hb410]); clear hF497
         refine q1 hF498 109 (.bool false) ?_; intro a500 hF501; clear hF498
         refine qsk hF501 (b := false) rfl rfl (by kernel_rfl) (by kernel_rfl) rfl rfl (by kernel_rfl) ?_; intro a502 hF503; clear hF501
         refine qsk hF503 (b := false) rfl rfl (by kernel_rfl) (by kernel_rfl) rfl rfl (by kernel_rfl) ?_; intro a504 hF505; clear hF503
         refine qsk hF505 (b := false) rfl rfl (by kernel_rfl) (by kernel_rfl) rfl rfl (by kernel_rfl) ?_; intro a506 hF507; clear hF505
         refine qsk hF507 (b := false) rfl rfl (by kernel_rfl) (by kernel_rfl) rfl rfl (by kernel_rfl) ?_; intro a508 hF509; clear hF507
         refine qsk hF509 (b := false) rfl rfl (by kernel_rfl) (by kernel_rfl) rfl rfl (by kernel_rfl) ?_; intro a510 hF511; clear hF509
         refine qsk hF511 (b := false) rfl rfl (by kernel_rfl) (by kernel_rfl) rfl rfl (by kernel_rfl) ?_; intro a512 hF513; clear hF511
         refine qsk hF513 (b := false) rfl rfl (by kernel_rfl) (by kernel_rfl) rfl rfl (by kernel_rfl) ?_; intro a514 hF515; clear hF513
         refine qsk hF515 (b := false) rfl rfl (by kernel_rfl) (by kernel_rfl) rfl rfl (by kernel_rfl) ?_; intro a516 hF517; clear hF515
         refine qsk hF517 (b := false) rfl rfl (by kernel_rfl) (by kernel_rfl) rfl rfl (by kernel_rfl) ?_; intro a518 hF519; clear hF517
         refine qsk hF519 (b := false) rfl rfl (by kernel_rfl) (by kernel_rfl) rfl rfl (by kernel_rfl) ?_; intro a520 hF521; clear hF519
         refine qsk hF521 (b := false) rfl rfl (by kernel_rfl) (by kernel_rfl) rfl rfl (by kernel_rfl) ?_; intro a522 hF523; clear hF521
         refine qsk hF523 (b := false) rfl rfl (by kernel_rfl) (by kernel_rfl) rfl rfl (by kernel_rfl) ?_; intro a524 hF525; clear hF523
         refine qsk hF525 (b := false) rfl rfl (by kernel_rfl) (by kernel_rfl) rfl rfl (by kernel_rfl) ?_; intro a526 hF527; clear hF525
         refine qsk hF527 (b := false) rfl rfl (by kernel_rfl) (by kernel_rfl) rfl rfl (by kernel_rfl) ?_; intro a528 hF529; clear hF527
         refine qsk hF529 (b := false) rfl rfl (by kernel_rfl) (by kernel_rfl) rfl rfl (by kernel_rfl) ?_; intro a530 hF531; clear hF529
         refine qsk hF531 (b := false) rfl rfl (by kernel_rfl) (by kernel_rfl) rfl rfl (by kernel_rfl) ?_; intro a532 hF533; clear hF531
         refine qsk hF533 (b := false) rfl rfl (by kernel_rfl) (by kernel_rfl) rfl rfl (by kernel_rfl) ?_; intro a534 hF535; clear hF533
         refine q1 hF535 127 (.bool false) ?_; intro a537 hF538; clear hF535
         refine q1 hF538 4 (.bool false) ?_; intro a540 hF541; clear hF538
         refine qnl (hQ491 _ ?_); clear hQ491 hQ491Q; intro wd542 hM543; clear hM368
         refine wp_ret ?_
         refine rt (fn := Tryd.f5) (v := .bool false) hF541 (re1 hF541 (fn := Tryd.f5) rfl (by kernel_rfl)) ?_
         exact ⟨false, rfl, hp489, hM543.below⟩

end Go.Proofs.YtinegicenfndkaaDoor
