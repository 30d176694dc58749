/- The walks, made by program: each call does what its pure predicate says. -/
import Derived.Test.YtmbdcehmeiiaoaaDoorWH
set_option linter.unusedVariables false
set_option linter.unusedSimpArgs false
namespace Go.Proofs.YtmbdcehmeiiaoaaDoor
open Go.Sy Go.RowKit
set_option maxRecDepth 100000 in
set_option maxHeartbeats 0 in
theorem LBack_walk (u0 : Frame) (u1 : List UInt8) (ao1 : Option Addr) (cap2 : Nat) (Z : Fz) (w : World) (hs3 : SlR (tyInt .u8) Z ao1 cap2 u0.Data) (hZ : Z.on w) {K : Bool → Prop} (hp : LBack_vc u0 u1 K) : Calls Tryd.prog 6 #[.agg #[.int .i64 u0.ID, .bool u0.Long, .bool u0.Fast, .bool u0.Remote, .int .i64 u0.Size, .slice ao1 u0.Data.length cap2], str u1] w fun e w' => ∃ r : Bool, e = .returned (.bool r) ∧ K r ∧ Below w.heap.size w w' := by
 refine enter0 Tryd.func6 rfl rfl (by kernel_rfl) ?_; intro a0 hF0; have hM0 := Mem.start w Z hZ; have hle0 := Fz.le.refl Z
 have hp4 := hp (hs3.small); clear hp
 refine sqH ?_; intro hQ5Q hQ5
 refine sn hF0 hM0 (fun b => .pointer (some ⟨b, 0, none⟩)) [.int .i64 u0.ID, .bool u0.Long, .bool u0.Fast, .bool u0.Remote, .int .i64 u0.Size, .slice ao1 u0.Data.length cap2] 24 (nog rfl _) rfl (by kernel_rfl) (by kernel_rfl) ?_; intro b6 a7 wd9 hF8 hM10; clear hF0 hM0
 refine s1 hF8 4 (.bool false) ?_; intro a11 hF12; clear hF8
 refine nlH (hQ5 _ _ ?_); clear hQ5 hQ5Q
 refine sqH ?_; intro hQ13Q hQ13
 refine l2 hF12 hM10 13 0 0 6 [.int .i64 u0.ID, .bool u0.Long, .bool u0.Fast, .bool u0.Remote, .int .i64 u0.Size, .slice ao1 u0.Data.length cap2] rfl rfl ?_; intro a14 hF15; clear hF12
 have hc16 := hp4.1; have hp17 := hp4.2; clear hp4
 refine fcl hF15 hM10 (.tuple #[str ((BitsS u0).1), .int .i64 ((BitsS u0).2)]) 10 #[.agg #[.int .i64 u0.ID, .bool u0.Long, .bool u0.Fast, .bool u0.Remote, .int .i64 u0.Size, .slice ao1 u0.Data.length cap2]] (nog rfl _) rfl (by kernel_rfl) (fun _ => by kernel_rfl) (fBits_fun u0 hc16 ao1 cap2 _ _ hs3 hM10.fz) ?_; intro a18 wd20 hF19 hM21; clear hF15 hM10
 refine s1 hF19 12 (.tuple #[str ((BitsS u0).1), .int .i64 ((BitsS u0).2)]) ?_; intro a22 hF23; clear hF19
 refine s1 hF23 15 (str ((BitsS u0).1)) ?_; intro a24 hF25; clear hF23
 refine s1 hF25 16 (.int .i64 ((BitsS u0).2)) ?_; intro a26 hF27; clear hF25
 refine s1 hF27 5 (str ((BitsS u0).1)) ?_; intro a28 hF29; clear hF27
 refine s1 hF29 6 (.int .i64 ((BitsS u0).2)) ?_; intro a30 hF31; clear hF29
 refine nlH (hQ13 _ _ ?_); clear hQ13 hQ13Q
 refine wp_seq ?_
 refine sqH ?_; intro hQ32Q hQ32
 refine fcl hF31 hM21 (.bool true) 11 #[] (nog rfl _) rfl (by kernel_rfl) (fun _ => by kernel_rfl) (framed_fun  _ _ hM21.fz) ?_; intro a33 wd35 hF34 hM36; clear hF31 hM21
 refine s1 hF34 18 (.bool false) ?_; intro a37 hF38; clear hF34
 refine s1 hF38 19 (.bool false) ?_; intro a39 hF40; clear hF38
 refine st hF40 (.int .i64 ((BitsS u0).2)) (by rw [wanted_of hF40 (b := false) rfl rfl (by kernel_rfl) (by kernel_rfl)]; rfl) rfl (by kernel_rfl) (p0 hF40 (by kernel_rfl)) ?_; intro a41 hF42; clear hF40
 refine st hF42 (.bool (((BitsS u0).2) != 0)) (by rw [wanted_of hF42 (b := false) rfl rfl (by kernel_rfl) (by kernel_rfl)]; rfl) rfl (by kernel_rfl) (p0 hF42 (by kernel_rfl)) ?_; intro a43 hF44; clear hF42
 refine s1 hF44 22 (.bool (((BitsS u0).2) != 0)) ?_; intro a45 hF46; clear hF44
 refine s1 hF46 23 (.bool (((BitsS u0).2) != 0)) ?_; intro a47 hF48; clear hF46
 have hF49 := hF48.atom ((((BitsS u0).2) != 0) == false) (by kernel_rfl); clear hF48
 refine gp hF49 24 0 [] (((BitsS u0).2) != 0) (str u1) rfl rfl ?_; intro a50 hF51; clear hF49
 refine gcl hF51 hM36 (.int .i64 (bcheckS u1)) 16 #[str u1] (m := 0) (cj := []) (bj := ((BitsS u0).2) != 0) rfl rfl (by kernel_rfl) rfl (by kernel_rfl) (by kernel_rfl) (by kernel_rfl) (fun _ => by kernel_rfl) (fun hg => bcheck_fun u1 _ _ hM36.fz) ?_; intro a52 wd54 hF53 hM55; clear hF51 hM36
 refine gp hF53 26 0 [] (((BitsS u0).2) != 0) (.bool ((bcheckS u1) != 0)) rfl rfl ?_; intro a56 hF57; clear hF53
 refine st hF57 (.bool ((((BitsS u0).2) != 0) || ((bcheckS u1) != 0))) (nog rfl _) rfl (by kernel_rfl) (pk_or hF57 (g := []) (m := 0) (b := ((BitsS u0).2) != 0) (v := (bcheckS u1) != 0) rfl (by kernel_rfl) (by kernel_rfl) (by kernel_rfl) rfl) ?_; intro a58 hF59; clear hF57
 refine s1 hF59 28 (.bool ((((BitsS u0).2) != 0) || ((bcheckS u1) != 0))) ?_; intro a60 hF61; clear hF59
 have hF62 := hF61.atom (((((BitsS u0).2) != 0) || ((bcheckS u1) != 0)) == false) (by kernel_rfl); clear hF61
 refine gp hF62 29 1 [] ((((BitsS u0).2) != 0) || ((bcheckS u1) != 0)) (str ((BitsS u0).1)) rfl rfl ?_; intro a63 hF64; clear hF62
 refine gp hF64 30 1 [] ((((BitsS u0).2) != 0) || ((bcheckS u1) != 0)) (.int .i64 (((BitsS u0).1).length : Int)) rfl rfl ?_; intro a65 hF66; clear hF64
 refine gp hF66 31 1 [] ((((BitsS u0).2) != 0) || ((bcheckS u1) != 0)) (str u1) rfl rfl ?_; intro a67 hF68; clear hF66
 refine gp hF68 32 1 [] ((((BitsS u0).2) != 0) || ((bcheckS u1) != 0)) (.int .i64 (u1.length : Int)) rfl rfl ?_; intro a69 hF70; clear hF68
 refine gp hF70 33 1 [] ((((BitsS u0).2) != 0) || ((bcheckS u1) != 0)) (.int .i64 (w64 ((((BitsS u0).1).length : Int) + (u1.length : Int)))) rfl rfl ?_; intro a71 hF72; clear hF70
 refine gp hF72 34 1 [] ((((BitsS u0).2) != 0) || ((bcheckS u1) != 0)) (.bool (decide ((w64 ((((BitsS u0).1).length : Int) + (u1.length : Int))) > 1000))) rfl rfl ?_; intro a73 hF74; clear hF72
 refine st hF74 (.bool (((((BitsS u0).2) != 0) || ((bcheckS u1) != 0)) || (decide ((w64 ((((BitsS u0).1).length : Int) + (u1.length : Int))) > 1000)))) (nog rfl _) rfl (by kernel_rfl) (pk_or hF74 (g := []) (m := 1) (b := (((BitsS u0).2) != 0) || ((bcheckS u1) != 0)) (v := decide ((w64 ((((BitsS u0).1).length : Int) + (u1.length : Int))) > 1000)) rfl (by kernel_rfl) (by kernel_rfl) (by kernel_rfl) rfl) ?_; intro a75 hF76; clear hF74
 refine nlH (hQ32 _ _ ?_); clear hQ32 hQ32Q
 refine cd hF76 (t := ((((BitsS u0).2) != 0) || ((bcheckS u1) != 0)) || (decide ((w64 ((((BitsS u0).1).length : Int) + (u1.length : Int))) > 1000))) (by kernel_rfl) (fun hb77 => ?_) (fun hb77 => ?_)
 · -- yes
  have hp78 := hp17.1 hb77; clear hp17
  have hF79 : Fr 80 [] [] a75 := hF76.region (by kernel_rfl) (by kernel_rfl); clear hF76
  refine sqH ?_; intro hQ80Q hQ80
  refine fcl hF79 hM55 (.bool true) 11 #[] (nog rfl _) rfl (by kernel_rfl) (fun _ => by kernel_rfl) (framed_fun  _ _ hM55.fz) ?_; intro a81 wd83 hF82 hM84; clear hF79 hM55
  refine s1 hF82 4 (.bool true) ?_; intro a85 hF86; clear hF82
  refine nlH (hQ80 _ _ ?_); clear hQ80 hQ80Q
  refine wp_ret ?_
  refine thr ?_
  refine rt (fn := Tryd.f6) (v := .bool true) hF86 (re1 hF86 (fn := Tryd.f6) rfl (by kernel_rfl)) ?_
  exact ⟨true, rfl, hp78, hM84.below⟩
 · -- no
  have hp87 := hp17.2 hb77; clear hp17
  refine wp_skip ?_
  refine thn ?_
  have hF88 : Fr 80 [] [⟨1, [], str u1⟩, ⟨2, [], .pointer (some ⟨b6, 0, none⟩)⟩, ⟨5, [], str ((BitsS u0).1)⟩] a75 := hF76.region (by kernel_rfl) (by kernel_rfl); clear hF76
  refine sqH ?_; intro hQ89Q hQ89
  refine s1 hF88 38 (str ((BitsS u0).1)) ?_; intro a90 hF91; clear hF88
  refine s1 hF91 39 (str u1) ?_; intro a92 hF93; clear hF91
  have hc94 := hp87.1; have hp95 := hp87.2; clear hp87
  refine st hF93 (str (((BitsS u0).1) ++ u1)) (nog rfl _) rfl (by kernel_rfl) (stradd_run hF93 (g := []) rfl (by kernel_rfl) (by kernel_rfl) hc94 rfl) ?_; intro a96 hF97; clear hF93
  refine cl hF97 12 #[str (((BitsS u0).1) ++ u1)] (nog rfl _) rfl (by kernel_rfl) (by kernel_rfl) ?_
  refine (fRead_fun (((BitsS u0).1) ++ u1) _ _ hM55.fz).mono ?_; rintro _ wd98 ⟨ao102, cap103, Z105, rfl, hs104, hm⟩; refine ⟨_, rfl, ?_⟩; intro a99 hF100; have hM101 := hM55.callZ hm; have hle106 := hm.ext.le; clear hm hM55 hF97
  replace hs3 := hs3.mono hle106
  replace hle0 := Fz.le.trans hle0 hle106
  have hM107 : Mem w.heap.size [] w Z [.row b6 [.int .i64 u0.ID, .bool u0.Long, .bool u0.Fast, .bool u0.Remote, .int .i64 u0.Size, .slice ao1 u0.Data.length cap2] 24] Z105 wd98 := hM101; clear hM101
  have hp108 := hp95 (hs104.small); clear hp95
  refine s1 hF100 37 (.tuple #[.agg #[.int .i64 (((readS (((BitsS u0).1) ++ u1)).1).ID), .bool (((readS (((BitsS u0).1) ++ u1)).1).Long), .bool (((readS (((BitsS u0).1) ++ u1)).1).Fast), .bool (((readS (((BitsS u0).1) ++ u1)).1).Remote), .int .i64 (((readS (((BitsS u0).1) ++ u1)).1).Size), .slice ao102 (((readS (((BitsS u0).1) ++ u1)).1).Data).length cap103], .int .i64 ((readS (((BitsS u0).1) ++ u1)).2.1), .int .i64 ((readS (((BitsS u0).1) ++ u1)).2.2)]) ?_; intro a109 hF110; clear hF100
  refine s1 hF110 42 (.agg #[.int .i64 (((readS (((BitsS u0).1) ++ u1)).1).ID), .bool (((readS (((BitsS u0).1) ++ u1)).1).Long), .bool (((readS (((BitsS u0).1) ++ u1)).1).Fast), .bool (((readS (((BitsS u0).1) ++ u1)).1).Remote), .int .i64 (((readS (((BitsS u0).1) ++ u1)).1).Size), .slice ao102 (((readS (((BitsS u0).1) ++ u1)).1).Data).length cap103]) ?_; intro a111 hF112; clear hF110
  refine s1 hF112 43 (.int .i64 ((readS (((BitsS u0).1) ++ u1)).2.1)) ?_; intro a113 hF114; clear hF112
  refine s1 hF114 44 (.int .i64 ((readS (((BitsS u0).1) ++ u1)).2.2)) ?_; intro a115 hF116; clear hF114
  refine sn hF116 hM107 (fun b => .pointer (some ⟨b, 0, none⟩)) [.int .i64 0, .bool false, .bool false, .bool false, .int .i64 0, .slice none 0 0] 24 (nog rfl _) rfl (by kernel_rfl) (by kernel_rfl) ?_; intro b117 a118 wd120 hF119 hM121; clear hF116 hM107
  refine sr hF119 hM121 0 [.int .i64 (((readS (((BitsS u0).1) ++ u1)).1).ID), .bool (((readS (((BitsS u0).1) ++ u1)).1).Long), .bool (((readS (((BitsS u0).1) ++ u1)).1).Fast), .bool (((readS (((BitsS u0).1) ++ u1)).1).Remote), .int .i64 (((readS (((BitsS u0).1) ++ u1)).1).Size), .slice ao102 (((readS (((BitsS u0).1) ++ u1)).1).Data).length cap103] (b := b117) (off := 0) (cs := [.int .i64 0, .bool false, .bool false, .bool false, .int .i64 0, .slice none 0 0]) (ty := 24) (u := .agg #[.int .i64 (((readS (((BitsS u0).1) ++ u1)).1).ID), .bool (((readS (((BitsS u0).1) ++ u1)).1).Long), .bool (((readS (((BitsS u0).1) ++ u1)).1).Fast), .bool (((readS (((BitsS u0).1) ++ u1)).1).Remote), .int .i64 (((readS (((BitsS u0).1) ++ u1)).1).Size), .slice ao102 (((readS (((BitsS u0).1) ++ u1)).1).Data).length cap103]) (nog rfl _) rfl rfl (by kernel_rfl) (by kernel_rfl) (by kernel_rfl) (by kernel_rfl) (by kernel_rfl) (by kernel_rfl) (by kernel_rfl) ?_; intro wd122 hM123; clear hM121
  refine s1 hF119 8 (.int .i64 ((readS (((BitsS u0).1) ++ u1)).2.1)) ?_; intro a124 hF125; clear hF119
  refine s1 hF125 6 (.int .i64 ((readS (((BitsS u0).1) ++ u1)).2.2)) ?_; intro a126 hF127; clear hF125
  have hM128 : Mem w.heap.size [] w Z [.row b117 [.int .i64 (((readS (((BitsS u0).1) ++ u1)).1).ID), .bool (((readS (((BitsS u0).1) ++ u1)).1).Long), .bool (((readS (((BitsS u0).1) ++ u1)).1).Fast), .bool (((readS (((BitsS u0).1) ++ u1)).1).Remote), .int .i64 (((readS (((BitsS u0).1) ++ u1)).1).Size), .slice ao102 (((readS (((BitsS u0).1) ++ u1)).1).Data).length cap103] 24, .row b6 [.int .i64 u0.ID, .bool u0.Long, .bool u0.Fast, .bool u0.Remote, .int .i64 u0.Size, .slice ao1 u0.Data.length cap2] 24] Z105 wd122 := hM123; clear hM123
  refine nlH (hQ89 _ _ ?_); clear hQ89 hQ89Q
  refine sqH ?_; intro hQ129Q hQ129
  refine s1 hF127 45 (.pointer (some ⟨b6, 5, none⟩)) ?_; intro a130 hF131; clear hF127
  refine l1 hF131 hM128 46 1 5 (.slice ao1 u0.Data.length cap2) rfl rfl ?_; intro a132 hF133; clear hF131
  refine s1 hF133 47 (.int .i64 (u0.Data.length : Int)) ?_; intro a134 hF135; clear hF133
  refine s1 hF135 9 (.int .i64 (u0.Data.length : Int)) ?_; intro a136 hF137; clear hF135
  refine nlH (hQ129 _ _ ?_); clear hQ129 hQ129Q
  have hF138 : Fr 80 [] [⟨2, [], .pointer (some ⟨b6, 0, none⟩)⟩, ⟨5, [], str ((BitsS u0).1)⟩, ⟨6, [], .int .i64 ((readS (((BitsS u0).1) ++ u1)).2.2)⟩, ⟨7, [], .pointer (some ⟨b117, 0, none⟩)⟩, ⟨8, [], .int .i64 ((readS (((BitsS u0).1) ++ u1)).2.1)⟩, ⟨9, [], .int .i64 (u0.Data.length : Int)⟩] a136 := hF137.region (by kernel_rfl) (by kernel_rfl); clear hF137
  refine sqH ?_; intro hQ139Q hQ139
  refine s1 hF138 49 (.pointer (some ⟨b6, 1, none⟩)) ?_; intro a140 hF141; clear hF138
  refine l1 hF141 hM128 50 1 1 (.bool u0.Long) rfl rfl ?_; intro a142 hF143; clear hF141
  refine s1 hF143 51 (.pointer (some ⟨b6, 2, none⟩)) ?_; intro a144 hF145; clear hF143
  refine l1 hF145 hM128 52 1 2 (.bool u0.Fast) rfl rfl ?_; intro a146 hF147; clear hF145
  refine s1 hF147 53 (.int .i64 (u0.Data.length : Int)) ?_; intro a148 hF149; clear hF147
  refine fcl hF149 hM128 (.tuple #[.int .i64 ((flongestS u0.Long u0.Fast (u0.Data.length : Int)).1), .int .i64 ((flongestS u0.Long u0.Fast (u0.Data.length : Int)).2)]) 17 #[.bool u0.Long, .bool u0.Fast, .int .i64 (u0.Data.length : Int)] (nog rfl _) rfl (by kernel_rfl) (fun _ => by kernel_rfl) (flongest_fun u0.Long u0.Fast (u0.Data.length : Int) _ _ hM128.fz) ?_; intro a150 wd152 hF151 hM153; clear hF149 hM128
  refine s1 hF151 48 (.tuple #[.int .i64 ((flongestS u0.Long u0.Fast (u0.Data.length : Int)).1), .int .i64 ((flongestS u0.Long u0.Fast (u0.Data.length : Int)).2)]) ?_; intro a154 hF155; clear hF151
  refine s1 hF155 55 (.int .i64 ((flongestS u0.Long u0.Fast (u0.Data.length : Int)).1)) ?_; intro a156 hF157; clear hF155
  refine s1 hF157 56 (.int .i64 ((flongestS u0.Long u0.Fast (u0.Data.length : Int)).2)) ?_; intro a158 hF159; clear hF157
  refine s1 hF159 10 (.int .i64 ((flongestS u0.Long u0.Fast (u0.Data.length : Int)).1)) ?_; intro a160 hF161; clear hF159
  refine s1 hF161 11 (.int .i64 ((flongestS u0.Long u0.Fast (u0.Data.length : Int)).2)) ?_; intro a162 hF163; clear hF161
  refine nlH (hQ139 _ _ ?_); clear hQ139 hQ139Q
  refine sqH ?_; intro hQ164Q hQ164
  refine s1 hF163 57 (.int .i64 ((readS (((BitsS u0).1) ++ u1)).2.2)) ?_; intro a165 hF166; clear hF163
  refine s1 hF166 58 (.bool (((readS (((BitsS u0).1) ++ u1)).2.2) == 0)) ?_; intro a167 hF168; clear hF166
  refine s1 hF168 59 (.bool (((readS (((BitsS u0).1) ++ u1)).2.2) == 0)) ?_; intro a169 hF170; clear hF168
  have hF171 := hF170.atom ((((readS (((BitsS u0).1) ++ u1)).2.2) == 0) == true) (by kernel_rfl); clear hF170
  refine gp hF171 60 0 [] (((readS (((BitsS u0).1) ++ u1)).2.2) == 0) (.int .i64 ((flongestS u0.Long u0.Fast (u0.Data.length : Int)).2)) rfl rfl ?_; intro a172 hF173; clear hF171
  refine gp hF173 61 0 [] (((readS (((BitsS u0).1) ++ u1)).2.2) == 0) (.bool (((flongestS u0.Long u0.Fast (u0.Data.length : Int)).2) == 0)) rfl rfl ?_; intro a174 hF175; clear hF173
  refine st hF175 (.bool ((((readS (((BitsS u0).1) ++ u1)).2.2) == 0) && (((flongestS u0.Long u0.Fast (u0.Data.length : Int)).2) == 0))) (nog rfl _) rfl (by kernel_rfl) (pk_and hF175 (g := []) (m := 0) (b := ((readS (((BitsS u0).1) ++ u1)).2.2) == 0) (v := ((flongestS u0.Long u0.Fast (u0.Data.length : Int)).2) == 0) rfl (by kernel_rfl) (by kernel_rfl) (by kernel_rfl) rfl) ?_; intro a176 hF177; clear hF175
  refine s1 hF177 63 (.bool ((((readS (((BitsS u0).1) ++ u1)).2.2) == 0) && (((flongestS u0.Long u0.Fast (u0.Data.length : Int)).2) == 0))) ?_; intro a178 hF179; clear hF177
  have hF180 := hF179.atom (((((readS (((BitsS u0).1) ++ u1)).2.2) == 0) && (((flongestS u0.Long u0.Fast (u0.Data.length : Int)).2) == 0)) == true) (by kernel_rfl); clear hF179
  refine gp hF180 64 1 [] ((((readS (((BitsS u0).1) ++ u1)).2.2) == 0) && (((flongestS u0.Long u0.Fast (u0.Data.length : Int)).2) == 0)) (.int .i64 ((readS (((BitsS u0).1) ++ u1)).2.1)) rfl rfl ?_; intro a181 hF182; clear hF180
  refine gp hF182 65 1 [] ((((readS (((BitsS u0).1) ++ u1)).2.2) == 0) && (((flongestS u0.Long u0.Fast (u0.Data.length : Int)).2) == 0)) (str ((BitsS u0).1)) rfl rfl ?_; intro a183 hF184; clear hF182
  refine gp hF184 66 1 [] ((((readS (((BitsS u0).1) ++ u1)).2.2) == 0) && (((flongestS u0.Long u0.Fast (u0.Data.length : Int)).2) == 0)) (.int .i64 (((BitsS u0).1).length : Int)) rfl rfl ?_; intro a185 hF186; clear hF184
  refine gp hF186 67 1 [] ((((readS (((BitsS u0).1) ++ u1)).2.2) == 0) && (((flongestS u0.Long u0.Fast (u0.Data.length : Int)).2) == 0)) (.bool (((readS (((BitsS u0).1) ++ u1)).2.1) == (((BitsS u0).1).length : Int))) rfl rfl ?_; intro a187 hF188; clear hF186
  refine st hF188 (.bool (((((readS (((BitsS u0).1) ++ u1)).2.2) == 0) && (((flongestS u0.Long u0.Fast (u0.Data.length : Int)).2) == 0)) && (((readS (((BitsS u0).1) ++ u1)).2.1) == (((BitsS u0).1).length : Int)))) (nog rfl _) rfl (by kernel_rfl) (pk_and hF188 (g := []) (m := 1) (b := (((readS (((BitsS u0).1) ++ u1)).2.2) == 0) && (((flongestS u0.Long u0.Fast (u0.Data.length : Int)).2) == 0)) (v := ((readS (((BitsS u0).1) ++ u1)).2.1) == (((BitsS u0).1).length : Int)) rfl (by kernel_rfl) (by kernel_rfl) (by kernel_rfl) rfl) ?_; intro a189 hF190; clear hF188
  refine s1 hF190 69 (.bool (((((readS (((BitsS u0).1) ++ u1)).2.2) == 0) && (((flongestS u0.Long u0.Fast (u0.Data.length : Int)).2) == 0)) && (((readS (((BitsS u0).1) ++ u1)).2.1) == (((BitsS u0).1).length : Int)))) ?_; intro a191 hF192; clear hF190
  have hF193 := hF192.atom ((((((readS (((BitsS u0).1) ++ u1)).2.2) == 0) && (((flongestS u0.Long u0.Fast (u0.Data.length : Int)).2) == 0)) && (((readS (((BitsS u0).1) ++ u1)).2.1) == (((BitsS u0).1).length : Int))) == true) (by kernel_rfl); clear hF192
  refine gd hF193 (.agg #[.int .i64 u0.ID, .bool u0.Long, .bool u0.Fast, .bool u0.Remote, .int .i64 u0.Size, .slice ao1 u0.Data.length cap2]) (m := 2) (cj := []) (bj := ((((readS (((BitsS u0).1) ++ u1)).2.2) == 0) && (((flongestS u0.Long u0.Fast (u0.Data.length : Int)).2) == 0)) && (((readS (((BitsS u0).1) ++ u1)).2.1) == (((BitsS u0).1).length : Int))) rfl rfl (by kernel_rfl) rfl (by kernel_rfl) (by kernel_rfl) (by kernel_rfl) (fun hg => lda hF193 hM153 1 (g := [2]) (b := b6) (off := 0) (k := 6) (cs := [.int .i64 u0.ID, .bool u0.Long, .bool u0.Fast, .bool u0.Remote, .int .i64 u0.Size, .slice ao1 u0.Data.length cap2]) (vs := [.int .i64 u0.ID, .bool u0.Long, .bool u0.Fast, .bool u0.Remote, .int .i64 u0.Size, .slice ao1 u0.Data.length cap2]) (ty := 24) rfl (by kernel_rfl) (by kernel_rfl) (by kernel_rfl) (by kernel_rfl) (by kernel_rfl) hg) ?_; intro a194 hF195; clear hF193
  refine gd hF195 (.agg #[.int .i64 (((readS (((BitsS u0).1) ++ u1)).1).ID), .bool (((readS (((BitsS u0).1) ++ u1)).1).Long), .bool (((readS (((BitsS u0).1) ++ u1)).1).Fast), .bool (((readS (((BitsS u0).1) ++ u1)).1).Remote), .int .i64 (((readS (((BitsS u0).1) ++ u1)).1).Size), .slice ao102 (((readS (((BitsS u0).1) ++ u1)).1).Data).length cap103]) (m := 2) (cj := []) (bj := ((((readS (((BitsS u0).1) ++ u1)).2.2) == 0) && (((flongestS u0.Long u0.Fast (u0.Data.length : Int)).2) == 0)) && (((readS (((BitsS u0).1) ++ u1)).2.1) == (((BitsS u0).1).length : Int))) rfl rfl (by kernel_rfl) rfl (by kernel_rfl) (by kernel_rfl) (by kernel_rfl) (fun hg => lda hF195 hM153 0 (g := [2]) (b := b117) (off := 0) (k := 6) (cs := [.int .i64 (((readS (((BitsS u0).1) ++ u1)).1).ID), .bool (((readS (((BitsS u0).1) ++ u1)).1).Long), .bool (((readS (((BitsS u0).1) ++ u1)).1).Fast), .bool (((readS (((BitsS u0).1) ++ u1)).1).Remote), .int .i64 (((readS (((BitsS u0).1) ++ u1)).1).Size), .slice ao102 (((readS (((BitsS u0).1) ++ u1)).1).Data).length cap103]) (vs := [.int .i64 (((readS (((BitsS u0).1) ++ u1)).1).ID), .bool (((readS (((BitsS u0).1) ++ u1)).1).Long), .bool (((readS (((BitsS u0).1) ++ u1)).1).Fast), .bool (((readS (((BitsS u0).1) ++ u1)).1).Remote), .int .i64 (((readS (((BitsS u0).1) ++ u1)).1).Size), .slice ao102 (((readS (((BitsS u0).1) ++ u1)).1).Data).length cap103]) (ty := 24) rfl (by kernel_rfl) (by kernel_rfl) (by kernel_rfl) (by kernel_rfl) (by kernel_rfl) hg) ?_; intro a196 hF197; clear hF195
  refine gcl hF197 hM153 (.bool (sameS u0 ((readS (((BitsS u0).1) ++ u1)).1))) 13 #[.agg #[.int .i64 u0.ID, .bool u0.Long, .bool u0.Fast, .bool u0.Remote, .int .i64 u0.Size, .slice ao1 u0.Data.length cap2], .agg #[.int .i64 (((readS (((BitsS u0).1) ++ u1)).1).ID), .bool (((readS (((BitsS u0).1) ++ u1)).1).Long), .bool (((readS (((BitsS u0).1) ++ u1)).1).Fast), .bool (((readS (((BitsS u0).1) ++ u1)).1).Remote), .int .i64 (((readS (((BitsS u0).1) ++ u1)).1).Size), .slice ao102 (((readS (((BitsS u0).1) ++ u1)).1).Data).length cap103]] (m := 2) (cj := []) (bj := ((((readS (((BitsS u0).1) ++ u1)).2.2) == 0) && (((flongestS u0.Long u0.Fast (u0.Data.length : Int)).2) == 0)) && (((readS (((BitsS u0).1) ++ u1)).2.1) == (((BitsS u0).1).length : Int))) rfl rfl (by kernel_rfl) rfl (by kernel_rfl) (by kernel_rfl) (by kernel_rfl) (fun _ => by kernel_rfl) (fun hg => fSame_fun u0 ((readS (((BitsS u0).1) ++ u1)).1) ao1 cap2 ao102 cap103 _ _ hs3 hs104 hM153.fz) ?_; intro a198 wd200 hF199 hM201; clear hF197 hM153
  refine st hF199 (.bool ((((((readS (((BitsS u0).1) ++ u1)).2.2) == 0) && (((flongestS u0.Long u0.Fast (u0.Data.length : Int)).2) == 0)) && (((readS (((BitsS u0).1) ++ u1)).2.1) == (((BitsS u0).1).length : Int))) && (sameS u0 ((readS (((BitsS u0).1) ++ u1)).1)))) (nog rfl _) rfl (by kernel_rfl) (pk_and hF199 (g := []) (m := 2) (b := ((((readS (((BitsS u0).1) ++ u1)).2.2) == 0) && (((flongestS u0.Long u0.Fast (u0.Data.length : Int)).2) == 0)) && (((readS (((BitsS u0).1) ++ u1)).2.1) == (((BitsS u0).1).length : Int))) (v := (sameS u0 ((readS (((BitsS u0).1) ++ u1)).1))) rfl (by kernel_rfl) (by kernel_rfl) (by kernel_rfl) rfl) ?_; intro a202 hF203; clear hF199
  refine s1 hF203 74 (.bool ((((((readS (((BitsS u0).1) ++ u1)).2.2) == 0) && (((flongestS u0.Long u0.Fast (u0.Data.length : Int)).2) == 0)) && (((readS (((BitsS u0).1) ++ u1)).2.1) == (((BitsS u0).1).length : Int))) && (sameS u0 ((readS (((BitsS u0).1) ++ u1)).1)))) ?_; intro a204 hF205; clear hF203
  have hF206 := hF205.atom (((((((readS (((BitsS u0).1) ++ u1)).2.2) == 0) && (((flongestS u0.Long u0.Fast (u0.Data.length : Int)).2) == 0)) && (((readS (((BitsS u0).1) ++ u1)).2.1) == (((BitsS u0).1).length : Int))) && (sameS u0 ((readS (((BitsS u0).1) ++ u1)).1))) == true) (by kernel_rfl); clear hF205
  refine gp hF206 75 3 [] ((((((readS (((BitsS u0).1) ++ u1)).2.2) == 0) && (((flongestS u0.Long u0.Fast (u0.Data.length : Int)).2) == 0)) && (((readS (((BitsS u0).1) ++ u1)).2.1) == (((BitsS u0).1).length : Int))) && (sameS u0 ((readS (((BitsS u0).1) ++ u1)).1))) (str ((BitsS u0).1)) rfl rfl ?_; intro a207 hF208; clear hF206
  refine gp hF208 76 3 [] ((((((readS (((BitsS u0).1) ++ u1)).2.2) == 0) && (((flongestS u0.Long u0.Fast (u0.Data.length : Int)).2) == 0)) && (((readS (((BitsS u0).1) ++ u1)).2.1) == (((BitsS u0).1).length : Int))) && (sameS u0 ((readS (((BitsS u0).1) ++ u1)).1))) (.int .i64 (((BitsS u0).1).length : Int)) rfl rfl ?_; intro a209 hF210; clear hF208
  refine gp hF210 77 3 [] ((((((readS (((BitsS u0).1) ++ u1)).2.2) == 0) && (((flongestS u0.Long u0.Fast (u0.Data.length : Int)).2) == 0)) && (((readS (((BitsS u0).1) ++ u1)).2.1) == (((BitsS u0).1).length : Int))) && (sameS u0 ((readS (((BitsS u0).1) ++ u1)).1))) (.int .i64 ((flongestS u0.Long u0.Fast (u0.Data.length : Int)).1)) rfl rfl ?_; intro a211 hF212; clear hF210
  refine gp hF212 78 3 [] ((((((readS (((BitsS u0).1) ++ u1)).2.2) == 0) && (((flongestS u0.Long u0.Fast (u0.Data.length : Int)).2) == 0)) && (((readS (((BitsS u0).1) ++ u1)).2.1) == (((BitsS u0).1).length : Int))) && (sameS u0 ((readS (((BitsS u0).1) ++ u1)).1))) (.bool (decide ((((BitsS u0).1).length : Int) ≤ ((flongestS u0.Long u0.Fast (u0.Data.length : Int)).1)))) rfl rfl ?_; intro a213 hF214; clear hF212
  refine st hF214 (.bool (((((((readS (((BitsS u0).1) ++ u1)).2.2) == 0) && (((flongestS u0.Long u0.Fast (u0.Data.length : Int)).2) == 0)) && (((readS (((BitsS u0).1) ++ u1)).2.1) == (((BitsS u0).1).length : Int))) && (sameS u0 ((readS (((BitsS u0).1) ++ u1)).1))) && (decide ((((BitsS u0).1).length : Int) ≤ ((flongestS u0.Long u0.Fast (u0.Data.length : Int)).1))))) (nog rfl _) rfl (by kernel_rfl) (pk_and hF214 (g := []) (m := 3) (b := (((((readS (((BitsS u0).1) ++ u1)).2.2) == 0) && (((flongestS u0.Long u0.Fast (u0.Data.length : Int)).2) == 0)) && (((readS (((BitsS u0).1) ++ u1)).2.1) == (((BitsS u0).1).length : Int))) && (sameS u0 ((readS (((BitsS u0).1) ++ u1)).1))) (v := decide ((((BitsS u0).1).length : Int) ≤ ((flongestS u0.Long u0.Fast (u0.Data.length : Int)).1))) rfl (by kernel_rfl) (by kernel_rfl) (by kernel_rfl) rfl) ?_; intro a215 hF216; clear hF214
  refine s1 hF216 4 (.bool (((((((readS (((BitsS u0).1) ++ u1)).2.2) == 0) && (((flongestS u0.Long u0.Fast (u0.Data.length : Int)).2) == 0)) && (((readS (((BitsS u0).1) ++ u1)).2.1) == (((BitsS u0).1).length : Int))) && (sameS u0 ((readS (((BitsS u0).1) ++ u1)).1))) && (decide ((((BitsS u0).1).length : Int) ≤ ((flongestS u0.Long u0.Fast (u0.Data.length : Int)).1))))) ?_; intro a217 hF218; clear hF216
  refine nlH (hQ164 _ _ ?_); clear hQ164 hQ164Q
  refine wp_ret ?_
  refine rt (fn := Tryd.f6) (v := .bool (((((((readS (((BitsS u0).1) ++ u1)).2.2) == 0) && (((flongestS u0.Long u0.Fast (u0.Data.length : Int)).2) == 0)) && (((readS (((BitsS u0).1) ++ u1)).2.1) == (((BitsS u0).1).length : Int))) && (sameS u0 ((readS (((BitsS u0).1) ++ u1)).1))) && (decide ((((BitsS u0).1).length : Int) ≤ ((flongestS u0.Long u0.Fast (u0.Data.length : Int)).1))))) hF218 (re1 hF218 (fn := Tryd.f6) rfl (by kernel_rfl)) ?_
  exact ⟨((((((readS (((BitsS u0).1) ++ u1)).2.2) == 0) && (((flongestS u0.Long u0.Fast (u0.Data.length : Int)).2) == 0)) && (((readS (((BitsS u0).1) ++ u1)).2.1) == (((BitsS u0).1).length : Int))) && (sameS u0 ((readS (((BitsS u0).1) ++ u1)).1))) && (decide ((((BitsS u0).1).length : Int) ≤ ((flongestS u0.Long u0.Fast (u0.Data.length : Int)).1))), rfl, hp108, hM201.below⟩

end Go.Proofs.YtmbdcehmeiiaoaaDoor
