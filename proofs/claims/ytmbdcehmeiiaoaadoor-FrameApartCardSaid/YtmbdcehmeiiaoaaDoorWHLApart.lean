/- The walks, made by program: each call does what its pure predicate says. -/
import Derived.Test.YtmbdcehmeiiaoaaDoorWH
set_option linter.unusedVariables false
set_option linter.unusedSimpArgs false
namespace Go.Proofs.YtmbdcehmeiiaoaaDoor
open Go.Sy Go.RowKit
set_option maxRecDepth 100000 in
set_option maxHeartbeats 0 in
theorem LApart_walk (u0 : Frame) (u1 : Frame) (ao1 : Option Addr) (cap2 : Nat) (ao4 : Option Addr) (cap5 : Nat) (Z : Fz) (w : World) (hs3 : SlR (tyInt .u8) Z ao1 cap2 u0.Data) (hs6 : SlR (tyInt .u8) Z ao4 cap5 u1.Data) (hZ : Z.on w) {K : Bool → Prop} (hp : LApart_vc u0 u1 K) : Calls Tryd.prog 4 #[.agg #[.int .i64 u0.ID, .bool u0.Long, .bool u0.Fast, .bool u0.Remote, .int .i64 u0.Size, .slice ao1 u0.Data.length cap2], .agg #[.int .i64 u1.ID, .bool u1.Long, .bool u1.Fast, .bool u1.Remote, .int .i64 u1.Size, .slice ao4 u1.Data.length cap5]] w fun e w' => ∃ r : Bool, e = .returned (.bool r) ∧ K r ∧ Below w.heap.size w w' := by
 refine enter0 Tryd.func4 rfl rfl (by kernel_rfl) ?_; intro a0 hF0; have hM0 := Mem.start w Z hZ; have hle0 := Fz.le.refl Z
 have hp7 := hp (hs3.small); clear hp
 have hp8 := hp7 (hs6.small); clear hp7
 refine sqH ?_; intro hQ9Q hQ9
 refine sn hF0 hM0 (fun b => .pointer (some ⟨b, 0, none⟩)) [.int .i64 u0.ID, .bool u0.Long, .bool u0.Fast, .bool u0.Remote, .int .i64 u0.Size, .slice ao1 u0.Data.length cap2] 24 (nog rfl _) rfl (by kernel_rfl) (by kernel_rfl) ?_; intro b10 a11 wd13 hF12 hM14; clear hF0 hM0
 refine sn hF12 hM14 (fun b => .pointer (some ⟨b, 0, none⟩)) [.int .i64 u1.ID, .bool u1.Long, .bool u1.Fast, .bool u1.Remote, .int .i64 u1.Size, .slice ao4 u1.Data.length cap5] 24 (nog rfl _) rfl (by kernel_rfl) (by kernel_rfl) ?_; intro b15 a16 wd18 hF17 hM19; clear hF12 hM14
 refine s1 hF17 4 (.bool false) ?_; intro a20 hF21; clear hF17
 refine nlH (hQ9 _ _ ?_); clear hQ9 hQ9Q
 refine sqH ?_; intro hQ22Q hQ22
 refine l2 hF21 hM19 10 1 0 6 [.int .i64 u0.ID, .bool u0.Long, .bool u0.Fast, .bool u0.Remote, .int .i64 u0.Size, .slice ao1 u0.Data.length cap2] rfl rfl ?_; intro a23 hF24; clear hF21
 have hc25 := hp8.1; have hp26 := hp8.2; clear hp8
 refine fcl hF24 hM19 (.tuple #[str ((BitsS u0).1), .int .i64 ((BitsS u0).2)]) 10 #[.agg #[.int .i64 u0.ID, .bool u0.Long, .bool u0.Fast, .bool u0.Remote, .int .i64 u0.Size, .slice ao1 u0.Data.length cap2]] (nog rfl _) rfl (by kernel_rfl) (fun _ => by kernel_rfl) (fBits_fun u0 hc25 ao1 cap2 _ _ hs3 hM19.fz) ?_; intro a27 wd29 hF28 hM30; clear hF24 hM19
 refine s1 hF28 9 (.tuple #[str ((BitsS u0).1), .int .i64 ((BitsS u0).2)]) ?_; intro a31 hF32; clear hF28
 refine s1 hF32 12 (str ((BitsS u0).1)) ?_; intro a33 hF34; clear hF32
 refine s1 hF34 13 (.int .i64 ((BitsS u0).2)) ?_; intro a35 hF36; clear hF34
 refine s1 hF36 5 (str ((BitsS u0).1)) ?_; intro a37 hF38; clear hF36
 refine s1 hF38 6 (.int .i64 ((BitsS u0).2)) ?_; intro a39 hF40; clear hF38
 refine nlH (hQ22 _ _ ?_); clear hQ22 hQ22Q
 refine sqH ?_; intro hQ41Q hQ41
 refine l2 hF40 hM30 15 0 0 6 [.int .i64 u1.ID, .bool u1.Long, .bool u1.Fast, .bool u1.Remote, .int .i64 u1.Size, .slice ao4 u1.Data.length cap5] rfl rfl ?_; intro a42 hF43; clear hF40
 have hc44 := hp26.1; have hp45 := hp26.2; clear hp26
 refine fcl hF43 hM30 (.tuple #[str ((BitsS u1).1), .int .i64 ((BitsS u1).2)]) 10 #[.agg #[.int .i64 u1.ID, .bool u1.Long, .bool u1.Fast, .bool u1.Remote, .int .i64 u1.Size, .slice ao4 u1.Data.length cap5]] (nog rfl _) rfl (by kernel_rfl) (fun _ => by kernel_rfl) (fBits_fun u1 hc44 ao4 cap5 _ _ hs6 hM30.fz) ?_; intro a46 wd48 hF47 hM49; clear hF43 hM30
 refine s1 hF47 14 (.tuple #[str ((BitsS u1).1), .int .i64 ((BitsS u1).2)]) ?_; intro a50 hF51; clear hF47
 refine s1 hF51 17 (str ((BitsS u1).1)) ?_; intro a52 hF53; clear hF51
 refine s1 hF53 18 (.int .i64 ((BitsS u1).2)) ?_; intro a54 hF55; clear hF53
 refine s1 hF55 7 (str ((BitsS u1).1)) ?_; intro a56 hF57; clear hF55
 refine s1 hF57 8 (.int .i64 ((BitsS u1).2)) ?_; intro a58 hF59; clear hF57
 refine nlH (hQ41 _ _ ?_); clear hQ41 hQ41Q
 refine wp_seq ?_
 have hF60 : Fr 46 [] [⟨2, [], .pointer (some ⟨b10, 0, none⟩)⟩, ⟨3, [], .pointer (some ⟨b15, 0, none⟩)⟩, ⟨5, [], str ((BitsS u0).1)⟩, ⟨6, [], .int .i64 ((BitsS u0).2)⟩, ⟨7, [], str ((BitsS u1).1)⟩, ⟨8, [], .int .i64 ((BitsS u1).2)⟩] a58 := hF59.region (by kernel_rfl) (by kernel_rfl); clear hF59
 refine sqH ?_; intro hQ61Q hQ61
 refine fcl hF60 hM49 (.bool true) 11 #[] (nog rfl _) rfl (by kernel_rfl) (fun _ => by kernel_rfl) (framed_fun  _ _ hM49.fz) ?_; intro a62 wd64 hF63 hM65; clear hF60 hM49
 refine s1 hF63 20 (.bool false) ?_; intro a66 hF67; clear hF63
 refine s1 hF67 21 (.bool false) ?_; intro a68 hF69; clear hF67
 refine st hF69 (.int .i64 ((BitsS u0).2)) (by rw [wanted_of hF69 (b := false) rfl rfl (by kernel_rfl) (by kernel_rfl)]; rfl) rfl (by kernel_rfl) (p0 hF69 (by kernel_rfl)) ?_; intro a70 hF71; clear hF69
 refine st hF71 (.bool (((BitsS u0).2) != 0)) (by rw [wanted_of hF71 (b := false) rfl rfl (by kernel_rfl) (by kernel_rfl)]; rfl) rfl (by kernel_rfl) (p0 hF71 (by kernel_rfl)) ?_; intro a72 hF73; clear hF71
 refine s1 hF73 24 (.bool (((BitsS u0).2) != 0)) ?_; intro a74 hF75; clear hF73
 refine s1 hF75 25 (.bool (((BitsS u0).2) != 0)) ?_; intro a76 hF77; clear hF75
 have hF78 := hF77.atom ((((BitsS u0).2) != 0) == false) (by kernel_rfl); clear hF77
 refine gp hF78 26 0 [] (((BitsS u0).2) != 0) (.int .i64 ((BitsS u1).2)) rfl rfl ?_; intro a79 hF80; clear hF78
 refine gp hF80 27 0 [] (((BitsS u0).2) != 0) (.bool (((BitsS u1).2) != 0)) rfl rfl ?_; intro a81 hF82; clear hF80
 refine st hF82 (.bool ((((BitsS u0).2) != 0) || (((BitsS u1).2) != 0))) (nog rfl _) rfl (by kernel_rfl) (pk_or hF82 (g := []) (m := 0) (b := ((BitsS u0).2) != 0) (v := ((BitsS u1).2) != 0) rfl (by kernel_rfl) (by kernel_rfl) (by kernel_rfl) rfl) ?_; intro a83 hF84; clear hF82
 refine nlH (hQ61 _ _ ?_); clear hQ61 hQ61Q
 refine cd hF84 (t := (((BitsS u0).2) != 0) || (((BitsS u1).2) != 0)) (by kernel_rfl) (fun hb85 => ?_) (fun hb85 => ?_)
 · -- yes
  have hp86 := hp45.1 hb85; clear hp45
  have hF87 : Fr 46 [] [] a83 := hF84.region (by kernel_rfl) (by kernel_rfl); clear hF84
  refine sqH ?_; intro hQ88Q hQ88
  refine fcl hF87 hM65 (.bool true) 11 #[] (nog rfl _) rfl (by kernel_rfl) (fun _ => by kernel_rfl) (framed_fun  _ _ hM65.fz) ?_; intro a89 wd91 hF90 hM92; clear hF87 hM65
  refine s1 hF90 4 (.bool true) ?_; intro a93 hF94; clear hF90
  refine nlH (hQ88 _ _ ?_); clear hQ88 hQ88Q
  refine wp_ret ?_
  refine thr ?_
  refine rt (fn := Tryd.f4) (v := .bool true) hF94 (re1 hF94 (fn := Tryd.f4) rfl (by kernel_rfl)) ?_
  exact ⟨true, rfl, hp86, hM92.below⟩
 · -- no
  have hp95 := hp45.2 hb85; clear hp45
  refine wp_skip ?_
  refine thn ?_
  have hF96 : Fr 46 [] [⟨2, [], .pointer (some ⟨b10, 0, none⟩)⟩, ⟨3, [], .pointer (some ⟨b15, 0, none⟩)⟩, ⟨5, [], str ((BitsS u0).1)⟩, ⟨7, [], str ((BitsS u1).1)⟩] a83 := hF84.region (by kernel_rfl) (by kernel_rfl); clear hF84
  refine sqQH mixed (by kernel_rfl) hM65 ?_; intro hQ97Q hQ97
  refine q1 hF96 30 (str ((BitsS u0).1)) ?_; intro a99 hF100; clear hF96
  refine q1 hF100 31 (str ((BitsS u1).1)) ?_; intro a102 hF103; clear hF100
  refine qcl hF103 (.bool (hasprefix ((BitsS u0).1) ((BitsS u1).1))) 14 #[str ((BitsS u0).1), str ((BitsS u1).1)] (nog rfl _) rfl (by kernel_rfl) (fun _ => by kernel_rfl) (qfc fun w hC => hasprefix_fun ((BitsS u0).1) ((BitsS u1).1) _ _ hC.fz) ?_; intro a105 hF106; clear hF103
  refine qst hF106 (.agg #[.int .i64 u0.ID, .bool u0.Long, .bool u0.Fast, .bool u0.Remote, .int .i64 u0.Size, .slice ao1 u0.Data.length cap2]) (nog rfl _) rfl (by kernel_rfl) (fun v107 hC => lda hF106 hC 1 (g := []) (b := b10) (off := 0) (k := 6) (cs := [.int .i64 u0.ID, .bool u0.Long, .bool u0.Fast, .bool u0.Remote, .int .i64 u0.Size, .slice ao1 u0.Data.length cap2]) (vs := [.int .i64 u0.ID, .bool u0.Long, .bool u0.Fast, .bool u0.Remote, .int .i64 u0.Size, .slice ao1 u0.Data.length cap2]) (ty := 24) rfl (by kernel_rfl) (by kernel_rfl) (by kernel_rfl) (by kernel_rfl) (by kernel_rfl) rfl) ?_; intro a108 hF109; clear hF106
  refine qst hF109 (.agg #[.int .i64 u1.ID, .bool u1.Long, .bool u1.Fast, .bool u1.Remote, .int .i64 u1.Size, .slice ao4 u1.Data.length cap5]) (nog rfl _) rfl (by kernel_rfl) (fun v110 hC => lda hF109 hC 0 (g := []) (b := b15) (off := 0) (k := 6) (cs := [.int .i64 u1.ID, .bool u1.Long, .bool u1.Fast, .bool u1.Remote, .int .i64 u1.Size, .slice ao4 u1.Data.length cap5]) (vs := [.int .i64 u1.ID, .bool u1.Long, .bool u1.Fast, .bool u1.Remote, .int .i64 u1.Size, .slice ao4 u1.Data.length cap5]) (ty := 24) rfl (by kernel_rfl) (by kernel_rfl) (by kernel_rfl) (by kernel_rfl) (by kernel_rfl) rfl) ?_; intro a111 hF112; clear hF109
  refine qcl hF112 (.bool (sameS u0 u1)) 13 #[.agg #[.int .i64 u0.ID, .bool u0.Long, .bool u0.Fast, .bool u0.Remote, .int .i64 u0.Size, .slice ao1 u0.Data.length cap2], .agg #[.int .i64 u1.ID, .bool u1.Long, .bool u1.Fast, .bool u1.Remote, .int .i64 u1.Size, .slice ao4 u1.Data.length cap5]] (nog rfl _) rfl (by kernel_rfl) (fun _ => by kernel_rfl) (qfc fun w hC => fSame_fun u0 u1 ao1 cap2 ao4 cap5 _ _ hs3 hs6 hC.fz) ?_; intro a114 hF115; clear hF112
  refine q1 hF115 36 (.bool ((hasprefix ((BitsS u0).1) ((BitsS u1).1)) == (sameS u0 u1))) ?_; intro a117 hF118; clear hF115
  refine q1 hF118 37 (.bool ((hasprefix ((BitsS u0).1) ((BitsS u1).1)) == (sameS u0 u1))) ?_; intro a120 hF121; clear hF118
  have hF122 := hF121.atom (((hasprefix ((BitsS u0).1) ((BitsS u1).1)) == (sameS u0 u1)) == true) (by kernel_rfl); clear hF121
  refine qgd hF122 (str ((BitsS u0).1)) (m := 0) (cj := []) (bj := (hasprefix ((BitsS u0).1) ((BitsS u1).1)) == (sameS u0 u1)) rfl rfl (by kernel_rfl) rfl (by kernel_rfl) (by kernel_rfl) (by kernel_rfl) (fun hg => qat_ok (fun v123 hC => pu hF122 (g := [0]) (by kernel_rfl) hg)) ?_; intro a124 hF125; clear hF122
  refine qgd hF125 (str ((BitsS u1).1)) (m := 0) (cj := []) (bj := (hasprefix ((BitsS u0).1) ((BitsS u1).1)) == (sameS u0 u1)) rfl rfl (by kernel_rfl) rfl (by kernel_rfl) (by kernel_rfl) (by kernel_rfl) (fun hg => qat_ok (fun v126 hC => pu hF125 (g := [0]) (by kernel_rfl) hg)) ?_; intro a127 hF128; clear hF125
  refine qgd hF128 (.bool (((BitsS u0).1) == ((BitsS u1).1))) (m := 0) (cj := []) (bj := (hasprefix ((BitsS u0).1) ((BitsS u1).1)) == (sameS u0 u1)) rfl rfl (by kernel_rfl) rfl (by kernel_rfl) (by kernel_rfl) (by kernel_rfl) (fun hg => qat_ok (fun v129 hC => strcmp_run hF128 (g := [0]) (op := .eql) rfl (by kernel_rfl) (by kernel_rfl) (by decide) hg)) ?_; intro a130 hF131; clear hF128
  refine qgd hF131 (.agg #[.int .i64 u0.ID, .bool u0.Long, .bool u0.Fast, .bool u0.Remote, .int .i64 u0.Size, .slice ao1 u0.Data.length cap2]) (m := 0) (cj := []) (bj := (hasprefix ((BitsS u0).1) ((BitsS u1).1)) == (sameS u0 u1)) rfl rfl (by kernel_rfl) rfl (by kernel_rfl) (by kernel_rfl) (by kernel_rfl) (fun hg => qat_ok (fun v132 hC => lda hF131 hC 1 (g := [0]) (b := b10) (off := 0) (k := 6) (cs := [.int .i64 u0.ID, .bool u0.Long, .bool u0.Fast, .bool u0.Remote, .int .i64 u0.Size, .slice ao1 u0.Data.length cap2]) (vs := [.int .i64 u0.ID, .bool u0.Long, .bool u0.Fast, .bool u0.Remote, .int .i64 u0.Size, .slice ao1 u0.Data.length cap2]) (ty := 24) rfl (by kernel_rfl) (by kernel_rfl) (by kernel_rfl) (by kernel_rfl) (by kernel_rfl) hg)) ?_; intro a133 hF134; clear hF131
  refine qgd hF134 (.agg #[.int .i64 u1.ID, .bool u1.Long, .bool u1.Fast, .bool u1.Remote, .int .i64 u1.Size, .slice ao4 u1.Data.length cap5]) (m := 0) (cj := []) (bj := (hasprefix ((BitsS u0).1) ((BitsS u1).1)) == (sameS u0 u1)) rfl rfl (by kernel_rfl) rfl (by kernel_rfl) (by kernel_rfl) (by kernel_rfl) (fun hg => qat_ok (fun v135 hC => lda hF134 hC 0 (g := [0]) (b := b15) (off := 0) (k := 6) (cs := [.int .i64 u1.ID, .bool u1.Long, .bool u1.Fast, .bool u1.Remote, .int .i64 u1.Size, .slice ao4 u1.Data.length cap5]) (vs := [.int .i64 u1.ID, .bool u1.Long, .bool u1.Fast, .bool u1.Remote, .int .i64 u1.Size, .slice ao4 u1.Data.length cap5]) (ty := 24) rfl (by kernel_rfl) (by kernel_rfl) (by kernel_rfl) (by kernel_rfl) (by kernel_rfl) hg)) ?_; intro a136 hF137; clear hF134
  refine qgd hF137 (.bool (sameS u0 u1)) (m := 0) (cj := []) (bj := (hasprefix ((BitsS u0).1) ((BitsS u1).1)) == (sameS u0 u1)) rfl rfl (by kernel_rfl) rfl (by kernel_rfl) (by kernel_rfl) (by kernel_rfl) (fun hg => qat_cl hF137 (g := [0]) 13 #[.agg #[.int .i64 u0.ID, .bool u0.Long, .bool u0.Fast, .bool u0.Remote, .int .i64 u0.Size, .slice ao1 u0.Data.length cap2], .agg #[.int .i64 u1.ID, .bool u1.Long, .bool u1.Fast, .bool u1.Remote, .int .i64 u1.Size, .slice ao4 u1.Data.length cap5]] hg (fun _ => by kernel_rfl) (qfc fun w hC => fSame_fun u0 u1 ao1 cap2 ao4 cap5 _ _ hs3 hs6 hC.fz)) ?_; intro a139 hF140; clear hF137
  refine qgd hF140 (.bool ((((BitsS u0).1) == ((BitsS u1).1)) == (sameS u0 u1))) (m := 0) (cj := []) (bj := (hasprefix ((BitsS u0).1) ((BitsS u1).1)) == (sameS u0 u1)) rfl rfl (by kernel_rfl) rfl (by kernel_rfl) (by kernel_rfl) (by kernel_rfl) (fun hg => qat_ok (fun v141 hC => pu hF140 (g := [0]) (by kernel_rfl) hg)) ?_; intro a142 hF143; clear hF140
  refine qst hF143 (.bool (((hasprefix ((BitsS u0).1) ((BitsS u1).1)) == (sameS u0 u1)) && ((((BitsS u0).1) == ((BitsS u1).1)) == (sameS u0 u1)))) (nog rfl _) rfl (by kernel_rfl) (fun v144 hC => pk_and hF143 (g := []) (m := 0) (b := (hasprefix ((BitsS u0).1) ((BitsS u1).1)) == (sameS u0 u1)) (v := (((BitsS u0).1) == ((BitsS u1).1)) == (sameS u0 u1)) rfl (by kernel_rfl) (by kernel_rfl) (by kernel_rfl) rfl) ?_; intro a145 hF146; clear hF143
  refine q1 hF146 4 (.bool (((hasprefix ((BitsS u0).1) ((BitsS u1).1)) == (sameS u0 u1)) && ((((BitsS u0).1) == ((BitsS u1).1)) == (sameS u0 u1)))) ?_; intro a148 hF149; clear hF146
  refine qnl (hQ97 _ ?_); clear hQ97 hQ97Q; intro wd150 hM151; clear hM65
  refine wp_ret ?_
  refine rt (fn := Tryd.f4) (v := .bool (((hasprefix ((BitsS u0).1) ((BitsS u1).1)) == (sameS u0 u1)) && ((((BitsS u0).1) == ((BitsS u1).1)) == (sameS u0 u1)))) hF149 (re1 hF149 (fn := Tryd.f4) rfl (by kernel_rfl)) ?_
  exact ⟨((hasprefix ((BitsS u0).1) ((BitsS u1).1)) == (sameS u0 u1)) && ((((BitsS u0).1) == ((BitsS u1).1)) == (sameS u0 u1)), rfl, hp95, hM151.below⟩

end Go.Proofs.YtmbdcehmeiiaoaaDoor
