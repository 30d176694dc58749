/- The walks, made by program: each call does what its pure predicate says. -/
import Derived.Test.YtodkadlfhlagpaaPC
import Derived.Test.YtodkadlfhlagpaaWB
set_option linter.unusedVariables false
set_option linter.unusedSimpArgs false
namespace Go.Proofs.Ytodkadlfhlagpaa
open Go.Sy Go.RowKit
theorem well_fun   (Z : Fz) (w : World)  (hZ : Z.on w) : Calls Try.prog 11 #[] w fun e w' => e = .returned (.bool true) ∧ Below w.heap.size w w' :=
  (well_walk   Z w  hZ (well_ok )).mono fun _ _ ⟨r, he, hk, hb⟩ => ⟨by subst hk; exact he, hb⟩

set_option maxRecDepth 100000 in
theorem HStep_walk (u0 : Health) (u1 : List Int) (ao1 : Option Addr) (cap2 : Nat) (Z : Fz) (w : World) (hs3 : SlR (tyInt .i64) Z ao1 cap2 u1) (hZ : Z.on w) {K : Bool → Prop} (hp : HStep_vc u0 u1 K) : Calls Try.prog 4 #[.agg #[.int .i64 u0.Sent, .int .i64 u0.Got, .int .i64 u0.Rest], .slice ao1 u1.length cap2] w fun e w' => ∃ r : Bool, e = .returned (.bool r) ∧ K r ∧ Below w.heap.size w w' := by
 refine enter0 Try.func4 rfl rfl (by kernel_rfl) ?_; intro a0 hF0; have hM0 := Mem.start w Z hZ; have hle0 := Fz.le.refl Z
 have hp4 := hp (hs3.small); clear hp
 refine sqH ?_; intro hQ5Q hQ5
 refine sn hF0 hM0 (fun b => .pointer (some ⟨b, 0, none⟩)) [.int .i64 u0.Sent, .int .i64 u0.Got, .int .i64 u0.Rest] 28 (nog rfl _) rfl (by kernel_rfl) (by kernel_rfl) ?_; intro b6 a7 wd9 hF8 hM10; clear hF0 hM0
 refine s1 hF8 4 (.bool false) ?_; intro a11 hF12; clear hF8
 refine nlH (hQ5 _ _ ?_); clear hQ5 hQ5Q
 refine sqH ?_; intro hQ13Q hQ13
 refine l2 hF12 hM10 16 0 0 3 [.int .i64 u0.Sent, .int .i64 u0.Got, .int .i64 u0.Rest] rfl rfl ?_; intro a14 hF15; clear hF12
 refine s1 hF15 17 (.slice ao1 u1.length cap2) ?_; intro a16 hF17; clear hF15
 refine fcl hF17 hM10 (.tuple #[.agg #[.int .i64 (((hstepS u0 u1).1).Sent), .int .i64 (((hstepS u0 u1).1).Got), .int .i64 (((hstepS u0 u1).1).Rest)], .int .i64 ((hstepS u0 u1).2.1), .int .i64 ((hstepS u0 u1).2.2)]) 8 #[.agg #[.int .i64 u0.Sent, .int .i64 u0.Got, .int .i64 u0.Rest], .slice ao1 u1.length cap2] (nog rfl _) rfl (by kernel_rfl) (fun _ => by kernel_rfl) (hstep_fun u0 u1 ao1 cap2 _ _ hs3 hM10.fz) ?_; intro a18 wd20 hF19 hM21; clear hF17 hM10
 refine s1 hF19 15 (.tuple #[.agg #[.int .i64 (((hstepS u0 u1).1).Sent), .int .i64 (((hstepS u0 u1).1).Got), .int .i64 (((hstepS u0 u1).1).Rest)], .int .i64 ((hstepS u0 u1).2.1), .int .i64 ((hstepS u0 u1).2.2)]) ?_; intro a22 hF23; clear hF19
 refine s1 hF23 19 (.agg #[.int .i64 (((hstepS u0 u1).1).Sent), .int .i64 (((hstepS u0 u1).1).Got), .int .i64 (((hstepS u0 u1).1).Rest)]) ?_; intro a24 hF25; clear hF23
 refine s1 hF25 20 (.int .i64 ((hstepS u0 u1).2.1)) ?_; intro a26 hF27; clear hF25
 refine s1 hF27 21 (.int .i64 ((hstepS u0 u1).2.2)) ?_; intro a28 hF29; clear hF27
 refine sn hF29 hM21 (fun b => .pointer (some ⟨b, 0, none⟩)) [.int .i64 0, .int .i64 0, .int .i64 0] 28 (nog rfl _) rfl (by kernel_rfl) (by kernel_rfl) ?_; intro b30 a31 wd33 hF32 hM34; clear hF29 hM21
 refine sr hF32 hM34 0 [.int .i64 (((hstepS u0 u1).1).Sent), .int .i64 (((hstepS u0 u1).1).Got), .int .i64 (((hstepS u0 u1).1).Rest)] (b := b30) (off := 0) (cs := [.int .i64 0, .int .i64 0, .int .i64 0]) (ty := 28) (u := .agg #[.int .i64 (((hstepS u0 u1).1).Sent), .int .i64 (((hstepS u0 u1).1).Got), .int .i64 (((hstepS u0 u1).1).Rest)]) (nog rfl _) rfl rfl (by kernel_rfl) (by kernel_rfl) (by kernel_rfl) (by kernel_rfl) (by kernel_rfl) (by kernel_rfl) (by kernel_rfl) ?_; intro wd35 hM36; clear hM34
 refine s1 hF32 6 (.int .i64 ((hstepS u0 u1).2.1)) ?_; intro a37 hF38; clear hF32
 refine s1 hF38 7 (.int .i64 ((hstepS u0 u1).2.2)) ?_; intro a39 hF40; clear hF38
 have hM41 : Mem w.heap.size [] w Z [.row b30 [.int .i64 (((hstepS u0 u1).1).Sent), .int .i64 (((hstepS u0 u1).1).Got), .int .i64 (((hstepS u0 u1).1).Rest)] 28, .row b6 [.int .i64 u0.Sent, .int .i64 u0.Got, .int .i64 u0.Rest] 28] Z wd35 := hM36; clear hM36
 refine nlH (hQ13 _ _ ?_); clear hQ13 hQ13Q
 refine sqH ?_; intro hQ42Q hQ42
 refine l2 hF40 hM41 23 1 0 3 [.int .i64 u0.Sent, .int .i64 u0.Got, .int .i64 u0.Rest] rfl rfl ?_; intro a43 hF44; clear hF40
 refine fcl hF44 hM41 (.tuple #[.int .i64 ((hState u0).1), .int .i64 ((hState u0).2)]) 9 #[.agg #[.int .i64 u0.Sent, .int .i64 u0.Got, .int .i64 u0.Rest]] (nog rfl _) rfl (by kernel_rfl) (fun _ => by kernel_rfl) (hState_fun u0 _ _ hM41.fz) ?_; intro a45 wd47 hF46 hM48; clear hF44 hM41
 refine s1 hF46 22 (.tuple #[.int .i64 ((hState u0).1), .int .i64 ((hState u0).2)]) ?_; intro a49 hF50; clear hF46
 refine s1 hF50 25 (.int .i64 ((hState u0).1)) ?_; intro a51 hF52; clear hF50
 refine s1 hF52 26 (.int .i64 ((hState u0).2)) ?_; intro a53 hF54; clear hF52
 refine s1 hF54 8 (.int .i64 ((hState u0).1)) ?_; intro a55 hF56; clear hF54
 refine s1 hF56 9 (.int .i64 ((hState u0).2)) ?_; intro a57 hF58; clear hF56
 refine nlH (hQ42 _ _ ?_); clear hQ42 hQ42Q
 have hF59 : Fr 122 [] [⟨1, [], .slice ao1 u1.length cap2⟩, ⟨2, [], .pointer (some ⟨b6, 0, none⟩)⟩, ⟨5, [], .pointer (some ⟨b30, 0, none⟩)⟩, ⟨6, [], .int .i64 ((hstepS u0 u1).2.1)⟩, ⟨7, [], .int .i64 ((hstepS u0 u1).2.2)⟩, ⟨8, [], .int .i64 ((hState u0).1)⟩, ⟨9, [], .int .i64 ((hState u0).2)⟩] a57 := hF58.region (by kernel_rfl) (by kernel_rfl); clear hF58
 refine sqH ?_; intro hQ60Q hQ60
 refine l2 hF59 hM48 27 1 0 3 [.int .i64 u0.Sent, .int .i64 u0.Got, .int .i64 u0.Rest] rfl rfl ?_; intro a61 hF62; clear hF59
 refine fcl hF62 hM48 (.int .i64 (rcheckh u0)) 10 #[.agg #[.int .i64 u0.Sent, .int .i64 u0.Got, .int .i64 u0.Rest]] (nog rfl _) rfl (by kernel_rfl) (fun _ => by kernel_rfl) (rcheckh_fun u0 _ _ hM48.fz) ?_; intro a63 wd65 hF64 hM66; clear hF62 hM48
 refine s1 hF64 10 (.int .i64 (rcheckh u0)) ?_; intro a67 hF68; clear hF64
 refine nlH (hQ60 _ _ ?_); clear hQ60 hQ60Q
 refine wp_seq ?_
 refine sqH ?_; intro hQ69Q hQ69
 refine fcl hF68 hM66 (.bool true) 11 #[] (nog rfl _) rfl (by kernel_rfl) (fun _ => by kernel_rfl) (well_fun  _ _ hM66.fz) ?_; intro a70 wd72 hF71 hM73; clear hF68 hM66
 refine s1 hF71 30 (.bool false) ?_; intro a74 hF75; clear hF71
 refine s1 hF75 31 (.bool false) ?_; intro a76 hF77; clear hF75
 refine st hF77 (.agg #[.int .i64 u0.Sent, .int .i64 u0.Got, .int .i64 u0.Rest]) (by rw [wanted_of hF77 (b := false) rfl rfl (by kernel_rfl) (by kernel_rfl)]; rfl) rfl (by kernel_rfl) (lda hF77 hM73 1 (g := []) (b := b6) (off := 0) (k := 3) (cs := [.int .i64 u0.Sent, .int .i64 u0.Got, .int .i64 u0.Rest]) (vs := [.int .i64 u0.Sent, .int .i64 u0.Got, .int .i64 u0.Rest]) (ty := 28) rfl (by kernel_rfl) (by kernel_rfl) (by kernel_rfl) (by kernel_rfl) (by kernel_rfl) rfl) ?_; intro a78 hF79; clear hF77
 refine fcl hF79 hM73 (.int .i64 (hcheck u0)) 12 #[.agg #[.int .i64 u0.Sent, .int .i64 u0.Got, .int .i64 u0.Rest]] (by rw [wanted_of hF79 (b := false) rfl rfl (by kernel_rfl) (by kernel_rfl)]; rfl) rfl (by kernel_rfl) (fun _ => by kernel_rfl) (hcheck_fun u0 _ _ hM73.fz) ?_; intro a80 wd82 hF81 hM83; clear hF79 hM73
 refine st hF81 (.int .i64 (rcheckh u0)) (by rw [wanted_of hF81 (b := false) rfl rfl (by kernel_rfl) (by kernel_rfl)]; rfl) rfl (by kernel_rfl) (p0 hF81 (by kernel_rfl)) ?_; intro a84 hF85; clear hF81
 refine st hF85 (.bool ((hcheck u0) != (rcheckh u0))) (by rw [wanted_of hF85 (b := false) rfl rfl (by kernel_rfl) (by kernel_rfl)]; rfl) rfl (by kernel_rfl) (p0 hF85 (by kernel_rfl)) ?_; intro a86 hF87; clear hF85
 refine s1 hF87 36 (.bool ((hcheck u0) != (rcheckh u0))) ?_; intro a88 hF89; clear hF87
 refine nlH (hQ69 _ _ ?_); clear hQ69 hQ69Q
 refine cd hF89 (t := (hcheck u0) != (rcheckh u0)) (by kernel_rfl) (fun hb90 => ?_) (fun hb90 => ?_)
 · -- yes
  have hp91 := hp4.1 hb90; clear hp4
  refine sqH ?_; intro hQ92Q hQ92
  refine s1 hF89 4 (.bool false) ?_; intro a93 hF94; clear hF89
  refine nlH (hQ92 _ _ ?_); clear hQ92 hQ92Q
  refine wp_ret ?_
  refine thr ?_
  refine rt (fn := Try.f4) (v := .bool false) hF94 (re1 hF94 (fn := Try.f4) rfl (by kernel_rfl)) ?_
  exact ⟨false, rfl, hp91, hM83.below⟩
 · -- no
  have hp95 := hp4.2 hb90; clear hp4
  refine wp_skip ?_
  refine thn ?_
  refine wp_seq ?_
  refine sqH ?_; intro hQ96Q hQ96
  refine s1 hF89 37 (.int .i64 (rcheckh u0)) ?_; intro a97 hF98; clear hF89
  refine s1 hF98 38 (.bool ((rcheckh u0) != 0)) ?_; intro a99 hF100; clear hF98
  refine nlH (hQ96 _ _ ?_); clear hQ96 hQ96Q
  refine cd hF100 (t := (rcheckh u0) != 0) (by kernel_rfl) (fun hb101 => ?_) (fun hb101 => ?_)
  · -- yes
   have hp102 := hp95.1 hb101; clear hp95
   refine sqH ?_; intro hQ103Q hQ103
   refine s1 hF100 39 (.int .i64 ((hstepS u0 u1).2.2)) ?_; intro a104 hF105; clear hF100
   refine s1 hF105 40 (.int .i64 (rcheckh u0)) ?_; intro a106 hF107; clear hF105
   refine s1 hF107 41 (.bool (((hstepS u0 u1).2.2) == (rcheckh u0))) ?_; intro a108 hF109; clear hF107
   refine s1 hF109 42 (.bool (((hstepS u0 u1).2.2) == (rcheckh u0))) ?_; intro a110 hF111; clear hF109
   have hF112 := hF111.atom ((((hstepS u0 u1).2.2) == (rcheckh u0)) == true) (by kernel_rfl); clear hF111
   refine gp hF112 43 0 [] (((hstepS u0 u1).2.2) == (rcheckh u0)) (.int .i64 ((hState u0).2)) rfl rfl ?_; intro a113 hF114; clear hF112
   refine gp hF114 44 0 [] (((hstepS u0 u1).2.2) == (rcheckh u0)) (.int .i64 (rcheckh u0)) rfl rfl ?_; intro a115 hF116; clear hF114
   refine gp hF116 45 0 [] (((hstepS u0 u1).2.2) == (rcheckh u0)) (.bool (((hState u0).2) == (rcheckh u0))) rfl rfl ?_; intro a117 hF118; clear hF116
   refine st hF118 (.bool ((((hstepS u0 u1).2.2) == (rcheckh u0)) && (((hState u0).2) == (rcheckh u0)))) (nog rfl _) rfl (by kernel_rfl) (pk_and hF118 (g := []) (m := 0) (b := ((hstepS u0 u1).2.2) == (rcheckh u0)) (v := ((hState u0).2) == (rcheckh u0)) rfl (by kernel_rfl) (by kernel_rfl) (by kernel_rfl) rfl) ?_; intro a119 hF120; clear hF118
   refine s1 hF120 47 (.bool ((((hstepS u0 u1).2.2) == (rcheckh u0)) && (((hState u0).2) == (rcheckh u0)))) ?_; intro a121 hF122; clear hF120
   have hF123 := hF122.atom (((((hstepS u0 u1).2.2) == (rcheckh u0)) && (((hState u0).2) == (rcheckh u0))) == true) (by kernel_rfl); clear hF122
   refine gd hF123 (.agg #[.int .i64 (((hstepS u0 u1).1).Sent), .int .i64 (((hstepS u0 u1).1).Got), .int .i64 (((hstepS u0 u1).1).Rest)]) (m := 1) (cj := []) (bj := (((hstepS u0 u1).2.2) == (rcheckh u0)) && (((hState u0).2) == (rcheckh u0))) rfl rfl (by kernel_rfl) rfl (by kernel_rfl) (by kernel_rfl) (by kernel_rfl) (fun hg => lda hF123 hM83 0 (g := [1]) (b := b30) (off := 0) (k := 3) (cs := [.int .i64 (((hstepS u0 u1).1).Sent), .int .i64 (((hstepS u0 u1).1).Got), .int .i64 (((hstepS u0 u1).1).Rest)]) (vs := [.int .i64 (((hstepS u0 u1).1).Sent), .int .i64 (((hstepS u0 u1).1).Got), .int .i64 (((hstepS u0 u1).1).Rest)]) (ty := 28) rfl (by kernel_rfl) (by kernel_rfl) (by kernel_rfl) (by kernel_rfl) (by kernel_rfl) hg) ?_; intro a124 hF125; clear hF123
   refine gp hF125 49 1 [] ((((hstepS u0 u1).2.2) == (rcheckh u0)) && (((hState u0).2) == (rcheckh u0))) (.agg #[.int .i64 0, .int .i64 0, .int .i64 0]) rfl rfl ?_; intro a126 hF127; clear hF125
   refine gd hF127 (.bool (((((hstepS u0 u1).1).Sent) == 0) && (((((hstepS u0 u1).1).Got) == 0) && (((((hstepS u0 u1).1).Rest) == 0) && true)))) (m := 1) (cj := []) (bj := (((hstepS u0 u1).2.2) == (rcheckh u0)) && (((hState u0).2) == (rcheckh u0))) rfl rfl (by kernel_rfl) rfl (by kernel_rfl) (by kernel_rfl) (by kernel_rfl) (fun hg => eqs_run hF127 (g := [1]) (xs := #[.int .i64 (((hstepS u0 u1).1).Sent), .int .i64 (((hstepS u0 u1).1).Got), .int .i64 (((hstepS u0 u1).1).Rest)]) (ys := #[.int .i64 0, .int .i64 0, .int .i64 0]) (b := ((((hstepS u0 u1).1).Sent) == 0) && (((((hstepS u0 u1).1).Got) == 0) && (((((hstepS u0 u1).1).Rest) == 0) && true))) rfl (by kernel_rfl) (by kernel_rfl) (by kernel_rfl) (by kernel_rfl) hg) ?_; intro a128 hF129; clear hF127
   refine st hF129 (.bool (((((hstepS u0 u1).2.2) == (rcheckh u0)) && (((hState u0).2) == (rcheckh u0))) && (((((hstepS u0 u1).1).Sent) == 0) && (((((hstepS u0 u1).1).Got) == 0) && (((((hstepS u0 u1).1).Rest) == 0) && true))))) (nog rfl _) rfl (by kernel_rfl) (pk_and hF129 (g := []) (m := 1) (b := (((hstepS u0 u1).2.2) == (rcheckh u0)) && (((hState u0).2) == (rcheckh u0))) (v := ((((hstepS u0 u1).1).Sent) == 0) && (((((hstepS u0 u1).1).Got) == 0) && (((((hstepS u0 u1).1).Rest) == 0) && true))) rfl (by kernel_rfl) (by kernel_rfl) (by kernel_rfl) rfl) ?_; intro a130 hF131; clear hF129
   refine s1 hF131 52 (.bool (((((hstepS u0 u1).2.2) == (rcheckh u0)) && (((hState u0).2) == (rcheckh u0))) && (((((hstepS u0 u1).1).Sent) == 0) && (((((hstepS u0 u1).1).Got) == 0) && (((((hstepS u0 u1).1).Rest) == 0) && true))))) ?_; intro a132 hF133; clear hF131
   have hF134 := hF133.atom ((((((hstepS u0 u1).2.2) == (rcheckh u0)) && (((hState u0).2) == (rcheckh u0))) && (((((hstepS u0 u1).1).Sent) == 0) && (((((hstepS u0 u1).1).Got) == 0) && (((((hstepS u0 u1).1).Rest) == 0) && true)))) == true) (by kernel_rfl); clear hF133
   refine gp hF134 53 2 [] (((((hstepS u0 u1).2.2) == (rcheckh u0)) && (((hState u0).2) == (rcheckh u0))) && (((((hstepS u0 u1).1).Sent) == 0) && (((((hstepS u0 u1).1).Got) == 0) && (((((hstepS u0 u1).1).Rest) == 0) && true)))) (.int .i64 ((hstepS u0 u1).2.1)) rfl rfl ?_; intro a135 hF136; clear hF134
   refine gp hF136 54 2 [] (((((hstepS u0 u1).2.2) == (rcheckh u0)) && (((hState u0).2) == (rcheckh u0))) && (((((hstepS u0 u1).1).Sent) == 0) && (((((hstepS u0 u1).1).Got) == 0) && (((((hstepS u0 u1).1).Rest) == 0) && true)))) (.bool (((hstepS u0 u1).2.1) == 0)) rfl rfl ?_; intro a137 hF138; clear hF136
   refine st hF138 (.bool ((((((hstepS u0 u1).2.2) == (rcheckh u0)) && (((hState u0).2) == (rcheckh u0))) && (((((hstepS u0 u1).1).Sent) == 0) && (((((hstepS u0 u1).1).Got) == 0) && (((((hstepS u0 u1).1).Rest) == 0) && true)))) && (((hstepS u0 u1).2.1) == 0))) (nog rfl _) rfl (by kernel_rfl) (pk_and hF138 (g := []) (m := 2) (b := ((((hstepS u0 u1).2.2) == (rcheckh u0)) && (((hState u0).2) == (rcheckh u0))) && (((((hstepS u0 u1).1).Sent) == 0) && (((((hstepS u0 u1).1).Got) == 0) && (((((hstepS u0 u1).1).Rest) == 0) && true)))) (v := ((hstepS u0 u1).2.1) == 0) rfl (by kernel_rfl) (by kernel_rfl) (by kernel_rfl) rfl) ?_; intro a139 hF140; clear hF138
   refine s1 hF140 56 (.bool ((((((hstepS u0 u1).2.2) == (rcheckh u0)) && (((hState u0).2) == (rcheckh u0))) && (((((hstepS u0 u1).1).Sent) == 0) && (((((hstepS u0 u1).1).Got) == 0) && (((((hstepS u0 u1).1).Rest) == 0) && true)))) && (((hstepS u0 u1).2.1) == 0))) ?_; intro a141 hF142; clear hF140
   have hF143 := hF142.atom (((((((hstepS u0 u1).2.2) == (rcheckh u0)) && (((hState u0).2) == (rcheckh u0))) && (((((hstepS u0 u1).1).Sent) == 0) && (((((hstepS u0 u1).1).Got) == 0) && (((((hstepS u0 u1).1).Rest) == 0) && true)))) && (((hstepS u0 u1).2.1) == 0)) == true) (by kernel_rfl); clear hF142
   refine gp hF143 57 3 [] ((((((hstepS u0 u1).2.2) == (rcheckh u0)) && (((hState u0).2) == (rcheckh u0))) && (((((hstepS u0 u1).1).Sent) == 0) && (((((hstepS u0 u1).1).Got) == 0) && (((((hstepS u0 u1).1).Rest) == 0) && true)))) && (((hstepS u0 u1).2.1) == 0)) (.int .i64 ((hState u0).1)) rfl rfl ?_; intro a144 hF145; clear hF143
   refine gp hF145 58 3 [] ((((((hstepS u0 u1).2.2) == (rcheckh u0)) && (((hState u0).2) == (rcheckh u0))) && (((((hstepS u0 u1).1).Sent) == 0) && (((((hstepS u0 u1).1).Got) == 0) && (((((hstepS u0 u1).1).Rest) == 0) && true)))) && (((hstepS u0 u1).2.1) == 0)) (.bool (((hState u0).1) == 0)) rfl rfl ?_; intro a146 hF147; clear hF145
   refine st hF147 (.bool (((((((hstepS u0 u1).2.2) == (rcheckh u0)) && (((hState u0).2) == (rcheckh u0))) && (((((hstepS u0 u1).1).Sent) == 0) && (((((hstepS u0 u1).1).Got) == 0) && (((((hstepS u0 u1).1).Rest) == 0) && true)))) && (((hstepS u0 u1).2.1) == 0)) && (((hState u0).1) == 0))) (nog rfl _) rfl (by kernel_rfl) (pk_and hF147 (g := []) (m := 3) (b := (((((hstepS u0 u1).2.2) == (rcheckh u0)) && (((hState u0).2) == (rcheckh u0))) && (((((hstepS u0 u1).1).Sent) == 0) && (((((hstepS u0 u1).1).Got) == 0) && (((((hstepS u0 u1).1).Rest) == 0) && true)))) && (((hstepS u0 u1).2.1) == 0)) (v := ((hState u0).1) == 0) rfl (by kernel_rfl) (by kernel_rfl) (by kernel_rfl) rfl) ?_; intro a148 hF149; clear hF147
   refine s1 hF149 4 (.bool (((((((hstepS u0 u1).2.2) == (rcheckh u0)) && (((hState u0).2) == (rcheckh u0))) && (((((hstepS u0 u1).1).Sent) == 0) && (((((hstepS u0 u1).1).Got) == 0) && (((((hstepS u0 u1).1).Rest) == 0) && true)))) && (((hstepS u0 u1).2.1) == 0)) && (((hState u0).1) == 0))) ?_; intro a150 hF151; clear hF149
   refine nlH (hQ103 _ _ ?_); clear hQ103 hQ103Q
   refine wp_ret ?_
   refine thr ?_
   refine rt (fn := Try.f4) (v := .bool (((((((hstepS u0 u1).2.2) == (rcheckh u0)) && (((hState u0).2) == (rcheckh u0))) && (((((hstepS u0 u1).1).Sent) == 0) && (((((hstepS u0 u1).1).Got) == 0) && (((((hstepS u0 u1).1).Rest) == 0) && true)))) && (((hstepS u0 u1).2.1) == 0)) && (((hState u0).1) == 0))) hF151 (re1 hF151 (fn := Try.f4) rfl (by kernel_rfl)) ?_
   exact ⟨((((((hstepS u0 u1).2.2) == (rcheckh u0)) && (((hState u0).2) == (rcheckh u0))) && (((((hstepS u0 u1).1).Sent) == 0) && (((((hstepS u0 u1).1).Got) == 0) && (((((hstepS u0 u1).1).Rest) == 0) && true)))) && (((hstepS u0 u1).2.1) == 0)) && (((hState u0).1) == 0), rfl, hp102, hM83.below⟩
  · -- no
   have hp152 := hp95.2 hb101; clear hp95
   refine wp_skip ?_
   refine thn ?_
   refine wp_seq ?_
   refine sqH ?_; intro hQ153Q hQ153
   refine s1 hF100 60 (.int .i64 ((hState u0).2)) ?_; intro a154 hF155; clear hF100
   refine s1 hF155 61 (.bool (((hState u0).2) != 0)) ?_; intro a156 hF157; clear hF155
   refine s1 hF157 62 (.bool (((hState u0).2) != 0)) ?_; intro a158 hF159; clear hF157
   have hF160 := hF159.atom ((((hState u0).2) != 0) == false) (by kernel_rfl); clear hF159
   refine gp hF160 63 0 [] (((hState u0).2) != 0) (.int .i64 ((hState u0).1)) rfl rfl ?_; intro a161 hF162; clear hF160
   refine gd hF162 (.agg #[.int .i64 u0.Sent, .int .i64 u0.Got, .int .i64 u0.Rest]) (m := 0) (cj := []) (bj := ((hState u0).2) != 0) rfl rfl (by kernel_rfl) rfl (by kernel_rfl) (by kernel_rfl) (by kernel_rfl) (fun hg => lda hF162 hM83 1 (g := [0]) (b := b6) (off := 0) (k := 3) (cs := [.int .i64 u0.Sent, .int .i64 u0.Got, .int .i64 u0.Rest]) (vs := [.int .i64 u0.Sent, .int .i64 u0.Got, .int .i64 u0.Rest]) (ty := 28) rfl (by kernel_rfl) (by kernel_rfl) (by kernel_rfl) (by kernel_rfl) (by kernel_rfl) hg) ?_; intro a163 hF164; clear hF162
   refine gcl hF164 hM83 (.int .i64 (rstate u0)) 13 #[.agg #[.int .i64 u0.Sent, .int .i64 u0.Got, .int .i64 u0.Rest]] (m := 0) (cj := []) (bj := ((hState u0).2) != 0) rfl rfl (by kernel_rfl) rfl (by kernel_rfl) (by kernel_rfl) (by kernel_rfl) (fun _ => by kernel_rfl) (fun hg => rstate_fun u0 _ _ hM83.fz) ?_; intro a165 wd167 hF166 hM168; clear hF164 hM83
   refine gp hF166 66 0 [] (((hState u0).2) != 0) (.bool (((hState u0).1) != (rstate u0))) rfl rfl ?_; intro a169 hF170; clear hF166
   refine st hF170 (.bool ((((hState u0).2) != 0) || (((hState u0).1) != (rstate u0)))) (nog rfl _) rfl (by kernel_rfl) (pk_or hF170 (g := []) (m := 0) (b := ((hState u0).2) != 0) (v := ((hState u0).1) != (rstate u0)) rfl (by kernel_rfl) (by kernel_rfl) (by kernel_rfl) rfl) ?_; intro a171 hF172; clear hF170
   refine nlH (hQ153 _ _ ?_); clear hQ153 hQ153Q
   refine cd hF172 (t := (((hState u0).2) != 0) || (((hState u0).1) != (rstate u0))) (by kernel_rfl) (fun hb173 => ?_) (fun hb173 => ?_)
   · -- yes
    have hp174 := hp152.1 hb173; clear hp152
    have hF175 : Fr 122 [] [] a171 := hF172.region (by kernel_rfl) (by kernel_rfl); clear hF172
    refine sqH ?_; intro hQ176Q hQ176
    refine s1 hF175 4 (.bool false) ?_; intro a177 hF178; clear hF175
    refine nlH (hQ176 _ _ ?_); clear hQ176 hQ176Q
    refine wp_ret ?_
    refine thr ?_
    refine rt (fn := Try.f4) (v := .bool false) hF178 (re1 hF178 (fn := Try.f4) rfl (by kernel_rfl)) ?_
    exact ⟨false, rfl, hp174, hM168.below⟩
   · -- no
    have hp179 := hp152.2 hb173; clear hp152
    refine wp_skip ?_
    refine thn ?_
    refine wp_seq ?_
    have hF180 : Fr 122 [] [⟨1, [], .slice ao1 u1.length cap2⟩, ⟨2, [], .pointer (some ⟨b6, 0, none⟩)⟩, ⟨5, [], .pointer (some ⟨b30, 0, none⟩)⟩, ⟨6, [], .int .i64 ((hstepS u0 u1).2.1)⟩, ⟨7, [], .int .i64 ((hstepS u0 u1).2.2)⟩] a171 := hF172.region (by kernel_rfl) (by kernel_rfl); clear hF172
    refine sqH ?_; intro hQ181Q hQ181
    refine s1 hF180 68 (.slice ao1 u1.length cap2) ?_; intro a182 hF183; clear hF180
    refine s1 hF183 69 (.int .i64 (u1.length : Int)) ?_; intro a184 hF185; clear hF183
    refine s1 hF185 70 (.bool (decide ((u1.length : Int) > 1000))) ?_; intro a186 hF187; clear hF185
    refine nlH (hQ181 _ _ ?_); clear hQ181 hQ181Q
    refine cd hF187 (t := decide ((u1.length : Int) > 1000)) (by kernel_rfl) (fun hb188 => ?_) (fun hb188 => ?_)
    · -- yes
     have hp189 := hp179.1 hb188; clear hp179
     refine sqH ?_; intro hQ190Q hQ190
     refine s1 hF187 71 (.int .i64 ((hstepS u0 u1).2.2)) ?_; intro a191 hF192; clear hF187
     refine s1 hF192 72 (.bool (((hstepS u0 u1).2.2) == 2)) ?_; intro a193 hF194; clear hF192
     refine s1 hF194 73 (.bool (((hstepS u0 u1).2.2) == 2)) ?_; intro a195 hF196; clear hF194
     have hF197 := hF196.atom ((((hstepS u0 u1).2.2) == 2) == true) (by kernel_rfl); clear hF196
     refine gd hF197 (.agg #[.int .i64 (((hstepS u0 u1).1).Sent), .int .i64 (((hstepS u0 u1).1).Got), .int .i64 (((hstepS u0 u1).1).Rest)]) (m := 0) (cj := []) (bj := ((hstepS u0 u1).2.2) == 2) rfl rfl (by kernel_rfl) rfl (by kernel_rfl) (by kernel_rfl) (by kernel_rfl) (fun hg => lda hF197 hM168 0 (g := [0]) (b := b30) (off := 0) (k := 3) (cs := [.int .i64 (((hstepS u0 u1).1).Sent), .int .i64 (((hstepS u0 u1).1).Got), .int .i64 (((hstepS u0 u1).1).Rest)]) (vs := [.int .i64 (((hstepS u0 u1).1).Sent), .int .i64 (((hstepS u0 u1).1).Got), .int .i64 (((hstepS u0 u1).1).Rest)]) (ty := 28) rfl (by kernel_rfl) (by kernel_rfl) (by kernel_rfl) (by kernel_rfl) (by kernel_rfl) hg) ?_; intro a198 hF199; clear hF197
     refine gp hF199 75 0 [] (((hstepS u0 u1).2.2) == 2) (.agg #[.int .i64 0, .int .i64 0, .int .i64 0]) rfl rfl ?_; intro a200 hF201; clear hF199
     refine gd hF201 (.bool (((((hstepS u0 u1).1).Sent) == 0) && (((((hstepS u0 u1).1).Got) == 0) && (((((hstepS u0 u1).1).Rest) == 0) && true)))) (m := 0) (cj := []) (bj := ((hstepS u0 u1).2.2) == 2) rfl rfl (by kernel_rfl) rfl (by kernel_rfl) (by kernel_rfl) (by kernel_rfl) (fun hg => eqs_run hF201 (g := [0]) (xs := #[.int .i64 (((hstepS u0 u1).1).Sent), .int .i64 (((hstepS u0 u1).1).Got), .int .i64 (((hstepS u0 u1).1).Rest)]) (ys := #[.int .i64 0, .int .i64 0, .int .i64 0]) (b := ((((hstepS u0 u1).1).Sent) == 0) && (((((hstepS u0 u1).1).Got) == 0) && (((((hstepS u0 u1).1).Rest) == 0) && true))) rfl (by kernel_rfl) (by kernel_rfl) (by kernel_rfl) (by kernel_rfl) hg) ?_; intro a202 hF203; clear hF201
     refine st hF203 (.bool ((((hstepS u0 u1).2.2) == 2) && (((((hstepS u0 u1).1).Sent) == 0) && (((((hstepS u0 u1).1).Got) == 0) && (((((hstepS u0 u1).1).Rest) == 0) && true))))) (nog rfl _) rfl (by kernel_rfl) (pk_and hF203 (g := []) (m := 0) (b := ((hstepS u0 u1).2.2) == 2) (v := ((((hstepS u0 u1).1).Sent) == 0) && (((((hstepS u0 u1).1).Got) == 0) && (((((hstepS u0 u1).1).Rest) == 0) && true))) rfl (by kernel_rfl) (by kernel_rfl) (by kernel_rfl) rfl) ?_; intro a204 hF205; clear hF203
     refine s1 hF205 78 (.bool ((((hstepS u0 u1).2.2) == 2) && (((((hstepS u0 u1).1).Sent) == 0) && (((((hstepS u0 u1).1).Got) == 0) && (((((hstepS u0 u1).1).Rest) == 0) && true))))) ?_; intro a206 hF207; clear hF205
     have hF208 := hF207.atom (((((hstepS u0 u1).2.2) == 2) && (((((hstepS u0 u1).1).Sent) == 0) && (((((hstepS u0 u1).1).Got) == 0) && (((((hstepS u0 u1).1).Rest) == 0) && true)))) == true) (by kernel_rfl); clear hF207
     refine gp hF208 79 1 [] ((((hstepS u0 u1).2.2) == 2) && (((((hstepS u0 u1).1).Sent) == 0) && (((((hstepS u0 u1).1).Got) == 0) && (((((hstepS u0 u1).1).Rest) == 0) && true)))) (.int .i64 ((hstepS u0 u1).2.1)) rfl rfl ?_; intro a209 hF210; clear hF208
     refine gp hF210 80 1 [] ((((hstepS u0 u1).2.2) == 2) && (((((hstepS u0 u1).1).Sent) == 0) && (((((hstepS u0 u1).1).Got) == 0) && (((((hstepS u0 u1).1).Rest) == 0) && true)))) (.bool (((hstepS u0 u1).2.1) == 0)) rfl rfl ?_; intro a211 hF212; clear hF210
     refine st hF212 (.bool (((((hstepS u0 u1).2.2) == 2) && (((((hstepS u0 u1).1).Sent) == 0) && (((((hstepS u0 u1).1).Got) == 0) && (((((hstepS u0 u1).1).Rest) == 0) && true)))) && (((hstepS u0 u1).2.1) == 0))) (nog rfl _) rfl (by kernel_rfl) (pk_and hF212 (g := []) (m := 1) (b := (((hstepS u0 u1).2.2) == 2) && (((((hstepS u0 u1).1).Sent) == 0) && (((((hstepS u0 u1).1).Got) == 0) && (((((hstepS u0 u1).1).Rest) == 0) && true)))) (v := ((hstepS u0 u1).2.1) == 0) rfl (by kernel_rfl) (by kernel_rfl) (by kernel_rfl) rfl) ?_; intro a213 hF214; clear hF212
     refine s1 hF214 4 (.bool (((((hstepS u0 u1).2.2) == 2) && (((((hstepS u0 u1).1).Sent) == 0) && (((((hstepS u0 u1).1).Got) == 0) && (((((hstepS u0 u1).1).Rest) == 0) && true)))) && (((hstepS u0 u1).2.1) == 0))) ?_; intro a215 hF216; clear hF214
     refine nlH (hQ190 _ _ ?_); clear hQ190 hQ190Q
     refine wp_ret ?_
     refine thr ?_
     refine rt (fn := Try.f4) (v := .bool (((((hstepS u0 u1).2.2) == 2) && (((((hstepS u0 u1).1).Sent) == 0) && (((((hstepS u0 u1).1).Got) == 0) && (((((hstepS u0 u1).1).Rest) == 0) && true)))) && (((hstepS u0 u1).2.1) == 0))) hF216 (re1 hF216 (fn := Try.f4) rfl (by kernel_rfl)) ?_
     exact ⟨((((hstepS u0 u1).2.2) == 2) && (((((hstepS u0 u1).1).Sent) == 0) && (((((hstepS u0 u1).1).Got) == 0) && (((((hstepS u0 u1).1).Rest) == 0) && true)))) && (((hstepS u0 u1).2.1) == 0), rfl, hp189, hM168.below⟩
    · -- no
     have hp217 := hp179.2 hb188; clear hp179
     refine wp_skip ?_
     refine thn ?_
     refine wp_seq ?_
     refine sqH ?_; intro hQ218Q hQ218
     refine s1 hF187 82 (.slice ao1 u1.length cap2) ?_; intro a219 hF220; clear hF187
     refine s1 hF220 83 (.int .i64 (u1.length : Int)) ?_; intro a221 hF222; clear hF220
     refine s1 hF222 84 (.int .i64 0) ?_; intro a223 hF224; clear hF222
     refine nlH (hQ218 _ _ ?_); clear hQ218 hQ218Q
     refine wp_block ?_
     have hF225 : Fr 122 [] [⟨2, [], .pointer (some ⟨b6, 0, none⟩)⟩, ⟨5, [], .pointer (some ⟨b30, 0, none⟩)⟩, ⟨6, [], .int .i64 ((hstepS u0 u1).2.1)⟩, ⟨7, [], .int .i64 ((hstepS u0 u1).2.2)⟩, ⟨82, [], .slice ao1 u1.length cap2⟩, ⟨83, [], .int .i64 (u1.length : Int)⟩, ⟨84, [], .int .i64 0⟩] a223 := hF224.region (by kernel_rfl) (by kernel_rfl); clear hF224
     have hF227 : Fr 122 [] [⟨2, [], .pointer (some ⟨b6, 0, none⟩)⟩, ⟨5, [], .pointer (some ⟨b30, 0, none⟩)⟩, ⟨6, [], .int .i64 ((hstepS u0 u1).2.1)⟩, ⟨7, [], .int .i64 ((hstepS u0 u1).2.2)⟩, ⟨82, [], .slice ao1 u1.length cap2⟩, ⟨83, [], .int .i64 (u1.length : Int)⟩, ⟨84, [], .int .i64 0⟩] a223 := hF225.region (by kernel_rfl) (by kernel_rfl); clear hF225
     obtain ⟨inv226, mu226, hI230, hr229⟩ := hp217
     refine lp (ι := Int × Health) (fun (s : Int × Health) => [⟨2, [], .pointer (some ⟨b6, 0, none⟩)⟩, ⟨5, [], .pointer (some ⟨b30, 0, none⟩)⟩, ⟨6, [], .int .i64 ((hstepS u0 u1).2.1)⟩, ⟨7, [], .int .i64 ((hstepS u0 u1).2.2)⟩, ⟨82, [], .slice ao1 u1.length cap2⟩, ⟨83, [], .int .i64 (u1.length : Int)⟩, ⟨84, [], .int .i64 s.1⟩]) (fun (s : Int × Health) => [.row b30 [.int .i64 (((hstepS u0 u1).1).Sent), .int .i64 (((hstepS u0 u1).1).Got), .int .i64 (((hstepS u0 u1).1).Rest)] 28, .row b6 [.int .i64 s.2.Sent, .int .i64 s.2.Got, .int .i64 s.2.Rest] 28]) (fun (s : Int × Health) => Z) (fun (s : Int × Health) => inv226 s.1 s.2) (fun (s : Int × Health) => mu226 s.1 s.2) ⟨0, u0⟩ hI230 (by exact hF227.region (by kernel_rfl) (by kernel_rfl)) (by exact hM168) ?_
     rintro ⟨x84, yb6⟩ hI228 a232 wd233 hF234 hM235
     have hF236 : Fr 122 [] [⟨2, [], .pointer (some ⟨b6, 0, none⟩)⟩, ⟨5, [], .pointer (some ⟨b30, 0, none⟩)⟩, ⟨6, [], .int .i64 ((hstepS u0 u1).2.1)⟩, ⟨7, [], .int .i64 ((hstepS u0 u1).2.2)⟩, ⟨82, [], .slice ao1 u1.length cap2⟩, ⟨83, [], .int .i64 (u1.length : Int)⟩, ⟨84, [], .int .i64 x84⟩] a232 := hF234; clear hF234 hF227
     have hM237 : Mem w.heap.size [] w Z [.row b30 [.int .i64 (((hstepS u0 u1).1).Sent), .int .i64 (((hstepS u0 u1).1).Got), .int .i64 (((hstepS u0 u1).1).Rest)] 28, .row b6 [.int .i64 yb6.Sent, .int .i64 yb6.Got, .int .i64 yb6.Rest] 28] Z wd233 := hM235; clear hM235 hM168
     have hp238 := hr229 x84 yb6 hI228
     refine sqH ?_; intro hQ239Q hQ239
     refine s1 hF236 85 (.bool (decide (x84 < (u1.length : Int)))) ?_; intro a240 hF241; clear hF236
     refine nlH (hQ239 _ _ ?_); clear hQ239 hQ239Q
     refine wp_seq ?_
     refine cd hF241 (t := decide (x84 < (u1.length : Int))) (by kernel_rfl) (fun hb242 => ?_) (fun hb242 => ?_)
     · -- yes
      have hp243 := hp238.1 hb242; clear hp238
      refine wp_skip ?_
      refine thn ?_
      refine wp_seq ?_
      refine wp_block ?_
      refine sqH ?_; intro hQ244Q hQ244
      refine s1 hF241 86 (.int .i64 x84) ?_; intro a245 hF246; clear hF241
      have hc247 := hp243.1; have hp248 := hp243.2; clear hp243
      refine ix hF246 (T := (tyInt .i64)) (xs := u1) hs3 x84 hc247 (k := .i64) (e := 3) (bytes := 8) (nog rfl _) rfl (by kernel_rfl) rfl (by kernel_rfl) (by kernel_rfl) (by kernel_rfl) ?_; intro b249 off250 cs251 q252 a256 hq253 hP254 hT255 hF257; clear hF246
      have hp258 := hp248 q252 hq253; clear hp248
      obtain rfl : cs251 = ([.int .i64 q252] : List Value) := hT255
      refine z1 hF257 hM237 88 hP254 0 (.int .i64 q252) rfl ?_; intro a259 hF260; clear hF257
      refine s1 hF260 11 (.int .i64 x84) ?_; intro a261 hF262; clear hF260
      refine s1 hF262 12 (.int .i64 q252) ?_; intro a263 hF264; clear hF262
      refine nlH (hQ244 _ _ ?_); clear hQ244 hQ244Q
      refine sqH ?_; intro hQ265Q hQ265
      refine l2 hF264 hM237 90 1 0 3 [.int .i64 yb6.Sent, .int .i64 yb6.Got, .int .i64 yb6.Rest] rfl rfl ?_; intro a266 hF267; clear hF264
      refine s1 hF267 91 (.int .i64 q252) ?_; intro a268 hF269; clear hF267
      refine fcl hF269 hM237 (.tuple #[.agg #[.int .i64 (((rstep yb6 q252).1).Sent), .int .i64 (((rstep yb6 q252).1).Got), .int .i64 (((rstep yb6 q252).1).Rest)], .bool ((rstep yb6 q252).2)]) 14 #[.agg #[.int .i64 yb6.Sent, .int .i64 yb6.Got, .int .i64 yb6.Rest], .int .i64 q252] (nog rfl _) rfl (by kernel_rfl) (fun _ => by kernel_rfl) (rstep_fun yb6 q252 _ _ hM237.fz) ?_; intro a270 wd272 hF271 hM273; clear hF269 hM237
      refine s1 hF271 89 (.tuple #[.agg #[.int .i64 (((rstep yb6 q252).1).Sent), .int .i64 (((rstep yb6 q252).1).Got), .int .i64 (((rstep yb6 q252).1).Rest)], .bool ((rstep yb6 q252).2)]) ?_; intro a274 hF275; clear hF271
      refine s1 hF275 93 (.agg #[.int .i64 (((rstep yb6 q252).1).Sent), .int .i64 (((rstep yb6 q252).1).Got), .int .i64 (((rstep yb6 q252).1).Rest)]) ?_; intro a276 hF277; clear hF275
      refine s1 hF277 94 (.bool ((rstep yb6 q252).2)) ?_; intro a278 hF279; clear hF277
      refine sn hF279 hM273 (fun b => .pointer (some ⟨b, 0, none⟩)) [.int .i64 0, .int .i64 0, .int .i64 0] 28 (nog rfl _) rfl (by kernel_rfl) (by kernel_rfl) ?_; intro b280 a281 wd283 hF282 hM284; clear hF279 hM273
      refine sr hF282 hM284 0 [.int .i64 (((rstep yb6 q252).1).Sent), .int .i64 (((rstep yb6 q252).1).Got), .int .i64 (((rstep yb6 q252).1).Rest)] (b := b280) (off := 0) (cs := [.int .i64 0, .int .i64 0, .int .i64 0]) (ty := 28) (u := .agg #[.int .i64 (((rstep yb6 q252).1).Sent), .int .i64 (((rstep yb6 q252).1).Got), .int .i64 (((rstep yb6 q252).1).Rest)]) (nog rfl _) rfl rfl (by kernel_rfl) (by kernel_rfl) (by kernel_rfl) (by kernel_rfl) (by kernel_rfl) (by kernel_rfl) (by kernel_rfl) ?_; intro wd285 hM286; clear hM284
      refine s1 hF282 14 (.bool ((rstep yb6 q252).2)) ?_; intro a287 hF288; clear hF282
      have hM289 : Mem w.heap.size [] w Z [.row b280 [.int .i64 (((rstep yb6 q252).1).Sent), .int .i64 (((rstep yb6 q252).1).Got), .int .i64 (((rstep yb6 q252).1).Rest)] 28, .row b30 [.int .i64 (((hstepS u0 u1).1).Sent), .int .i64 (((hstepS u0 u1).1).Got), .int .i64 (((hstepS u0 u1).1).Rest)] 28, .row b6 [.int .i64 yb6.Sent, .int .i64 yb6.Got, .int .i64 yb6.Rest] 28] Z wd285 := hM286; clear hM286
      refine nlH (hQ265 _ _ ?_); clear hQ265 hQ265Q
      refine wp_seq ?_
      have hF290 : Fr 122 [] [⟨2, [], .pointer (some ⟨b6, 0, none⟩)⟩, ⟨5, [], .pointer (some ⟨b30, 0, none⟩)⟩, ⟨6, [], .int .i64 ((hstepS u0 u1).2.1)⟩, ⟨7, [], .int .i64 ((hstepS u0 u1).2.2)⟩, ⟨11, [], .int .i64 x84⟩, ⟨13, [], .pointer (some ⟨b280, 0, none⟩)⟩, ⟨14, [], .bool ((rstep yb6 q252).2)⟩, ⟨82, [], .slice ao1 u1.length cap2⟩, ⟨83, [], .int .i64 (u1.length : Int)⟩, ⟨84, [], .int .i64 x84⟩] a287 := hF288.region (by kernel_rfl) (by kernel_rfl); clear hF288
      refine sqH ?_; intro hQ291Q hQ291
      refine s1 hF290 95 (.bool ((rstep yb6 q252).2)) ?_; intro a292 hF293; clear hF290
      refine s1 hF293 96 (.bool (!((rstep yb6 q252).2))) ?_; intro a294 hF295; clear hF293
      refine nlH (hQ291 _ _ ?_); clear hQ291 hQ291Q
      refine cd hF295 (t := !((rstep yb6 q252).2)) (by kernel_rfl) (fun hb296 => ?_) (fun hb296 => ?_)
      · -- yes
       have hp297 := hp258.1 hb296; clear hp258
       refine sqH ?_; intro hQ298Q hQ298
       refine s1 hF295 97 (.int .i64 ((hstepS u0 u1).2.2)) ?_; intro a299 hF300; clear hF295
       refine s1 hF300 98 (.bool (((hstepS u0 u1).2.2) == 8)) ?_; intro a301 hF302; clear hF300
       refine s1 hF302 99 (.bool (((hstepS u0 u1).2.2) == 8)) ?_; intro a303 hF304; clear hF302
       have hF305 := hF304.atom ((((hstepS u0 u1).2.2) == 8) == true) (by kernel_rfl); clear hF304
       refine gp hF305 100 0 [] (((hstepS u0 u1).2.2) == 8) (.int .i64 ((hstepS u0 u1).2.1)) rfl rfl ?_; intro a306 hF307; clear hF305
       refine gp hF307 101 0 [] (((hstepS u0 u1).2.2) == 8) (.int .i64 x84) rfl rfl ?_; intro a308 hF309; clear hF307
       refine gp hF309 102 0 [] (((hstepS u0 u1).2.2) == 8) (.bool (((hstepS u0 u1).2.1) == x84)) rfl rfl ?_; intro a310 hF311; clear hF309
       refine st hF311 (.bool ((((hstepS u0 u1).2.2) == 8) && (((hstepS u0 u1).2.1) == x84))) (nog rfl _) rfl (by kernel_rfl) (pk_and hF311 (g := []) (m := 0) (b := ((hstepS u0 u1).2.2) == 8) (v := ((hstepS u0 u1).2.1) == x84) rfl (by kernel_rfl) (by kernel_rfl) (by kernel_rfl) rfl) ?_; intro a312 hF313; clear hF311
       refine s1 hF313 104 (.bool ((((hstepS u0 u1).2.2) == 8) && (((hstepS u0 u1).2.1) == x84))) ?_; intro a314 hF315; clear hF313
       have hF316 := hF315.atom (((((hstepS u0 u1).2.2) == 8) && (((hstepS u0 u1).2.1) == x84)) == true) (by kernel_rfl); clear hF315
       refine gd hF316 (.agg #[.int .i64 (((hstepS u0 u1).1).Sent), .int .i64 (((hstepS u0 u1).1).Got), .int .i64 (((hstepS u0 u1).1).Rest)]) (m := 1) (cj := []) (bj := (((hstepS u0 u1).2.2) == 8) && (((hstepS u0 u1).2.1) == x84)) rfl rfl (by kernel_rfl) rfl (by kernel_rfl) (by kernel_rfl) (by kernel_rfl) (fun hg => lda hF316 hM289 1 (g := [1]) (b := b30) (off := 0) (k := 3) (cs := [.int .i64 (((hstepS u0 u1).1).Sent), .int .i64 (((hstepS u0 u1).1).Got), .int .i64 (((hstepS u0 u1).1).Rest)]) (vs := [.int .i64 (((hstepS u0 u1).1).Sent), .int .i64 (((hstepS u0 u1).1).Got), .int .i64 (((hstepS u0 u1).1).Rest)]) (ty := 28) rfl (by kernel_rfl) (by kernel_rfl) (by kernel_rfl) (by kernel_rfl) (by kernel_rfl) hg) ?_; intro a317 hF318; clear hF316
       refine gp hF318 106 1 [] ((((hstepS u0 u1).2.2) == 8) && (((hstepS u0 u1).2.1) == x84)) (.agg #[.int .i64 0, .int .i64 0, .int .i64 0]) rfl rfl ?_; intro a319 hF320; clear hF318
       refine gd hF320 (.bool (((((hstepS u0 u1).1).Sent) == 0) && (((((hstepS u0 u1).1).Got) == 0) && (((((hstepS u0 u1).1).Rest) == 0) && true)))) (m := 1) (cj := []) (bj := (((hstepS u0 u1).2.2) == 8) && (((hstepS u0 u1).2.1) == x84)) rfl rfl (by kernel_rfl) rfl (by kernel_rfl) (by kernel_rfl) (by kernel_rfl) (fun hg => eqs_run hF320 (g := [1]) (xs := #[.int .i64 (((hstepS u0 u1).1).Sent), .int .i64 (((hstepS u0 u1).1).Got), .int .i64 (((hstepS u0 u1).1).Rest)]) (ys := #[.int .i64 0, .int .i64 0, .int .i64 0]) (b := ((((hstepS u0 u1).1).Sent) == 0) && (((((hstepS u0 u1).1).Got) == 0) && (((((hstepS u0 u1).1).Rest) == 0) && true))) rfl (by kernel_rfl) (by kernel_rfl) (by kernel_rfl) (by kernel_rfl) hg) ?_; intro a321 hF322; clear hF320
       refine st hF322 (.bool (((((hstepS u0 u1).2.2) == 8) && (((hstepS u0 u1).2.1) == x84)) && (((((hstepS u0 u1).1).Sent) == 0) && (((((hstepS u0 u1).1).Got) == 0) && (((((hstepS u0 u1).1).Rest) == 0) && true))))) (nog rfl _) rfl (by kernel_rfl) (pk_and hF322 (g := []) (m := 1) (b := (((hstepS u0 u1).2.2) == 8) && (((hstepS u0 u1).2.1) == x84)) (v := ((((hstepS u0 u1).1).Sent) == 0) && (((((hstepS u0 u1).1).Got) == 0) && (((((hstepS u0 u1).1).Rest) == 0) && true))) rfl (by kernel_rfl) (by kernel_rfl) (by kernel_rfl) rfl) ?_; intro a323 hF324; clear hF322
       refine s1 hF324 4 (.bool (((((hstepS u0 u1).2.2) == 8) && (((hstepS u0 u1).2.1) == x84)) && (((((hstepS u0 u1).1).Sent) == 0) && (((((hstepS u0 u1).1).Got) == 0) && (((((hstepS u0 u1).1).Rest) == 0) && true))))) ?_; intro a325 hF326; clear hF324
       refine nlH (hQ298 _ _ ?_); clear hQ298 hQ298Q
       refine wp_ret ?_
       refine thr ?_
       refine ibr ?_
       refine thr ?_
       refine thr ?_
       refine ibr ?_
       refine thr ?_
       refine rt (fn := Try.f4) (v := .bool (((((hstepS u0 u1).2.2) == 8) && (((hstepS u0 u1).2.1) == x84)) && (((((hstepS u0 u1).1).Sent) == 0) && (((((hstepS u0 u1).1).Got) == 0) && (((((hstepS u0 u1).1).Rest) == 0) && true))))) hF326 (re1 hF326 (fn := Try.f4) rfl (by kernel_rfl)) ?_
       exact ⟨((((hstepS u0 u1).2.2) == 8) && (((hstepS u0 u1).2.1) == x84)) && (((((hstepS u0 u1).1).Sent) == 0) && (((((hstepS u0 u1).1).Got) == 0) && (((((hstepS u0 u1).1).Rest) == 0) && true))), rfl, hp297, hM289.below⟩
      · -- no
       have hp327 := hp258.2 hb296; clear hp258
       refine wp_skip ?_
       refine thn ?_
       refine rgH ?_; intro hQ328Q hQ328
       refine l2 hF295 hM289 109 0 0 3 [.int .i64 (((rstep yb6 q252).1).Sent), .int .i64 (((rstep yb6 q252).1).Got), .int .i64 (((rstep yb6 q252).1).Rest)] rfl rfl ?_; intro a329 hF330; clear hF295
       refine sr hF330 hM289 2 [.int .i64 (((rstep yb6 q252).1).Sent), .int .i64 (((rstep yb6 q252).1).Got), .int .i64 (((rstep yb6 q252).1).Rest)] (b := b6) (off := 0) (cs := [.int .i64 yb6.Sent, .int .i64 yb6.Got, .int .i64 yb6.Rest]) (ty := 28) (u := .agg #[.int .i64 (((rstep yb6 q252).1).Sent), .int .i64 (((rstep yb6 q252).1).Got), .int .i64 (((rstep yb6 q252).1).Rest)]) (nog rfl _) rfl rfl (by kernel_rfl) (by kernel_rfl) (by kernel_rfl) (by kernel_rfl) (by kernel_rfl) (by kernel_rfl) (by kernel_rfl) ?_; intro wd331 hM332; clear hM289
       have hM333 : Mem w.heap.size [] w Z [.row b280 [.int .i64 (((rstep yb6 q252).1).Sent), .int .i64 (((rstep yb6 q252).1).Got), .int .i64 (((rstep yb6 q252).1).Rest)] 28, .row b30 [.int .i64 (((hstepS u0 u1).1).Sent), .int .i64 (((hstepS u0 u1).1).Got), .int .i64 (((hstepS u0 u1).1).Rest)] 28, .row b6 [.int .i64 (((rstep yb6 q252).1).Sent), .int .i64 (((rstep yb6 q252).1).Got), .int .i64 (((rstep yb6 q252).1).Rest)] 28] Z wd331 := hM332; clear hM332
       refine nlH (hQ328 _ _ ?_); clear hQ328 hQ328Q
       refine ibn ?_
       refine thn ?_
       refine rgH ?_; intro hQ334Q hQ334
       refine s1 hF330 110 (.int .i64 (w64 (x84 + 1))) ?_; intro a335 hF336; clear hF330
       refine s1 hF336 84 (.int .i64 (w64 (x84 + 1))) ?_; intro a337 hF338; clear hF336
       refine nlH (hQ334 _ _ ?_); clear hQ334 hQ334Q
       refine rd ?_
       exact ⟨⟨w64 (x84 + 1), ((rstep yb6 q252).1)⟩, hp327.1, hp327.2, (hF338.region (by kernel_rfl) (by kernel_rfl)).anyβ _ (by kernel_rfl), hM333.keep (List.Sublist.cons _ (List.Sublist.cons_cons _ (List.Sublist.cons_cons _ (List.Sublist.slnil))))⟩
     · -- no
      have hp339 := hp238.2 hb242; clear hp238
      refine wp_exit ?_
      refine thx ?_
      refine thx ?_
      refine ibx ?_
      refine thn ?_
      refine sqH ?_; intro hQ340Q hQ340
      refine s1 hF241 111 (.int .i64 ((hstepS u0 u1).2.2)) ?_; intro a341 hF342; clear hF241
      refine s1 hF342 112 (.bool (((hstepS u0 u1).2.2) == 0)) ?_; intro a343 hF344; clear hF342
      refine s1 hF344 113 (.bool (((hstepS u0 u1).2.2) == 0)) ?_; intro a345 hF346; clear hF344
      have hF347 := hF346.atom ((((hstepS u0 u1).2.2) == 0) == true) (by kernel_rfl); clear hF346
      refine gp hF347 114 0 [] (((hstepS u0 u1).2.2) == 0) (.int .i64 ((hstepS u0 u1).2.1)) rfl rfl ?_; intro a348 hF349; clear hF347
      refine gp hF349 115 0 [] (((hstepS u0 u1).2.2) == 0) (.bool (((hstepS u0 u1).2.1) == 0)) rfl rfl ?_; intro a350 hF351; clear hF349
      refine st hF351 (.bool ((((hstepS u0 u1).2.2) == 0) && (((hstepS u0 u1).2.1) == 0))) (nog rfl _) rfl (by kernel_rfl) (pk_and hF351 (g := []) (m := 0) (b := ((hstepS u0 u1).2.2) == 0) (v := ((hstepS u0 u1).2.1) == 0) rfl (by kernel_rfl) (by kernel_rfl) (by kernel_rfl) rfl) ?_; intro a352 hF353; clear hF351
      refine s1 hF353 117 (.bool ((((hstepS u0 u1).2.2) == 0) && (((hstepS u0 u1).2.1) == 0))) ?_; intro a354 hF355; clear hF353
      have hF356 := hF355.atom (((((hstepS u0 u1).2.2) == 0) && (((hstepS u0 u1).2.1) == 0)) == true) (by kernel_rfl); clear hF355
      refine gd hF356 (.agg #[.int .i64 (((hstepS u0 u1).1).Sent), .int .i64 (((hstepS u0 u1).1).Got), .int .i64 (((hstepS u0 u1).1).Rest)]) (m := 1) (cj := []) (bj := (((hstepS u0 u1).2.2) == 0) && (((hstepS u0 u1).2.1) == 0)) rfl rfl (by kernel_rfl) rfl (by kernel_rfl) (by kernel_rfl) (by kernel_rfl) (fun hg => lda hF356 hM237 0 (g := [1]) (b := b30) (off := 0) (k := 3) (cs := [.int .i64 (((hstepS u0 u1).1).Sent), .int .i64 (((hstepS u0 u1).1).Got), .int .i64 (((hstepS u0 u1).1).Rest)]) (vs := [.int .i64 (((hstepS u0 u1).1).Sent), .int .i64 (((hstepS u0 u1).1).Got), .int .i64 (((hstepS u0 u1).1).Rest)]) (ty := 28) rfl (by kernel_rfl) (by kernel_rfl) (by kernel_rfl) (by kernel_rfl) (by kernel_rfl) hg) ?_; intro a357 hF358; clear hF356
      refine gd hF358 (.agg #[.int .i64 yb6.Sent, .int .i64 yb6.Got, .int .i64 yb6.Rest]) (m := 1) (cj := []) (bj := (((hstepS u0 u1).2.2) == 0) && (((hstepS u0 u1).2.1) == 0)) rfl rfl (by kernel_rfl) rfl (by kernel_rfl) (by kernel_rfl) (by kernel_rfl) (fun hg => lda hF358 hM237 1 (g := [1]) (b := b6) (off := 0) (k := 3) (cs := [.int .i64 yb6.Sent, .int .i64 yb6.Got, .int .i64 yb6.Rest]) (vs := [.int .i64 yb6.Sent, .int .i64 yb6.Got, .int .i64 yb6.Rest]) (ty := 28) rfl (by kernel_rfl) (by kernel_rfl) (by kernel_rfl) (by kernel_rfl) (by kernel_rfl) hg) ?_; intro a359 hF360; clear hF358
      refine gd hF360 (.bool (((((hstepS u0 u1).1).Sent) == yb6.Sent) && (((((hstepS u0 u1).1).Got) == yb6.Got) && (((((hstepS u0 u1).1).Rest) == yb6.Rest) && true)))) (m := 1) (cj := []) (bj := (((hstepS u0 u1).2.2) == 0) && (((hstepS u0 u1).2.1) == 0)) rfl rfl (by kernel_rfl) rfl (by kernel_rfl) (by kernel_rfl) (by kernel_rfl) (fun hg => eqs_run hF360 (g := [1]) (xs := #[.int .i64 (((hstepS u0 u1).1).Sent), .int .i64 (((hstepS u0 u1).1).Got), .int .i64 (((hstepS u0 u1).1).Rest)]) (ys := #[.int .i64 yb6.Sent, .int .i64 yb6.Got, .int .i64 yb6.Rest]) (b := ((((hstepS u0 u1).1).Sent) == yb6.Sent) && (((((hstepS u0 u1).1).Got) == yb6.Got) && (((((hstepS u0 u1).1).Rest) == yb6.Rest) && true))) rfl (by kernel_rfl) (by kernel_rfl) (by kernel_rfl) (by kernel_rfl) hg) ?_; intro a361 hF362; clear hF360
      refine st hF362 (.bool (((((hstepS u0 u1).2.2) == 0) && (((hstepS u0 u1).2.1) == 0)) && (((((hstepS u0 u1).1).Sent) == yb6.Sent) && (((((hstepS u0 u1).1).Got) == yb6.Got) && (((((hstepS u0 u1).1).Rest) == yb6.Rest) && true))))) (nog rfl _) rfl (by kernel_rfl) (pk_and hF362 (g := []) (m := 1) (b := (((hstepS u0 u1).2.2) == 0) && (((hstepS u0 u1).2.1) == 0)) (v := ((((hstepS u0 u1).1).Sent) == yb6.Sent) && (((((hstepS u0 u1).1).Got) == yb6.Got) && (((((hstepS u0 u1).1).Rest) == yb6.Rest) && true))) rfl (by kernel_rfl) (by kernel_rfl) (by kernel_rfl) rfl) ?_; intro a363 hF364; clear hF362
      refine s1 hF364 4 (.bool (((((hstepS u0 u1).2.2) == 0) && (((hstepS u0 u1).2.1) == 0)) && (((((hstepS u0 u1).1).Sent) == yb6.Sent) && (((((hstepS u0 u1).1).Got) == yb6.Got) && (((((hstepS u0 u1).1).Rest) == yb6.Rest) && true))))) ?_; intro a365 hF366; clear hF364
      refine nlH (hQ340 _ _ ?_); clear hQ340 hQ340Q
      refine wp_ret ?_
      refine rt (fn := Try.f4) (v := .bool (((((hstepS u0 u1).2.2) == 0) && (((hstepS u0 u1).2.1) == 0)) && (((((hstepS u0 u1).1).Sent) == yb6.Sent) && (((((hstepS u0 u1).1).Got) == yb6.Got) && (((((hstepS u0 u1).1).Rest) == yb6.Rest) && true))))) hF366 (re1 hF366 (fn := Try.f4) rfl (by kernel_rfl)) ?_
      exact ⟨((((hstepS u0 u1).2.2) == 0) && (((hstepS u0 u1).2.1) == 0)) && (((((hstepS u0 u1).1).Sent) == yb6.Sent) && (((((hstepS u0 u1).1).Got) == yb6.Got) && (((((hstepS u0 u1).1).Rest) == yb6.Rest) && true))), rfl, hp339, hM237.below⟩

set_option maxRecDepth 100000 in
theorem HTill_walk (u0 : Health)  (Z : Fz) (w : World)  (hZ : Z.on w) {K : Bool → Prop} (hp : HTill_vc u0 K) : Calls Try.prog 6 #[.agg #[.int .i64 u0.Sent, .int .i64 u0.Got, .int .i64 u0.Rest]] w fun e w' => ∃ r : Bool, e = .returned (.bool r) ∧ K r ∧ Below w.heap.size w w' := by
 refine enter0 Try.func6 rfl rfl (by kernel_rfl) ?_; intro a0 hF0; have hM0 := Mem.start w Z hZ; have hle0 := Fz.le.refl Z
 refine sqH ?_; intro hQ1Q hQ1
 refine sn hF0 hM0 (fun b => .pointer (some ⟨b, 0, none⟩)) [.int .i64 u0.Sent, .int .i64 u0.Got, .int .i64 u0.Rest] 28 (nog rfl _) rfl (by kernel_rfl) (by kernel_rfl) ?_; intro b2 a3 wd5 hF4 hM6; clear hF0 hM0
 refine s1 hF4 2 (.bool false) ?_; intro a7 hF8; clear hF4
 refine nlH (hQ1 _ _ ?_); clear hQ1 hQ1Q
 refine sqH ?_; intro hQ9Q hQ9
 refine l2 hF8 hM6 9 0 0 3 [.int .i64 u0.Sent, .int .i64 u0.Got, .int .i64 u0.Rest] rfl rfl ?_; intro a10 hF11; clear hF8
 refine fcl hF11 hM6 (.tuple #[.int .i64 ((hTill u0).1), .int .i64 ((hTill u0).2)]) 16 #[.agg #[.int .i64 u0.Sent, .int .i64 u0.Got, .int .i64 u0.Rest]] (nog rfl _) rfl (by kernel_rfl) (fun _ => by kernel_rfl) (hTill_fun u0 _ _ hM6.fz) ?_; intro a12 wd14 hF13 hM15; clear hF11 hM6
 refine s1 hF13 8 (.tuple #[.int .i64 ((hTill u0).1), .int .i64 ((hTill u0).2)]) ?_; intro a16 hF17; clear hF13
 refine s1 hF17 11 (.int .i64 ((hTill u0).1)) ?_; intro a18 hF19; clear hF17
 refine s1 hF19 12 (.int .i64 ((hTill u0).2)) ?_; intro a20 hF21; clear hF19
 refine s1 hF21 3 (.int .i64 ((hTill u0).1)) ?_; intro a22 hF23; clear hF21
 refine s1 hF23 4 (.int .i64 ((hTill u0).2)) ?_; intro a24 hF25; clear hF23
 refine nlH (hQ9 _ _ ?_); clear hQ9 hQ9Q
 refine wp_seq ?_
 refine sqH ?_; intro hQ26Q hQ26
 refine l2 hF25 hM15 13 0 0 3 [.int .i64 u0.Sent, .int .i64 u0.Got, .int .i64 u0.Rest] rfl rfl ?_; intro a27 hF28; clear hF25
 refine fcl hF28 hM15 (.int .i64 (rcheckh u0)) 10 #[.agg #[.int .i64 u0.Sent, .int .i64 u0.Got, .int .i64 u0.Rest]] (nog rfl _) rfl (by kernel_rfl) (fun _ => by kernel_rfl) (rcheckh_fun u0 _ _ hM15.fz) ?_; intro a29 wd31 hF30 hM32; clear hF28 hM15
 refine s1 hF30 5 (.int .i64 (rcheckh u0)) ?_; intro a33 hF34; clear hF30
 refine nlH (hQ26 _ _ ?_); clear hQ26 hQ26Q
 refine sqH ?_; intro hQ35Q hQ35
 refine fcl hF34 hM32 (.bool true) 11 #[] (nog rfl _) rfl (by kernel_rfl) (fun _ => by kernel_rfl) (well_fun  _ _ hM32.fz) ?_; intro a36 wd38 hF37 hM39; clear hF34 hM32
 refine s1 hF37 16 (.bool false) ?_; intro a40 hF41; clear hF37
 refine s1 hF41 17 (.bool false) ?_; intro a42 hF43; clear hF41
 refine st hF43 (.int .i64 (rcheckh u0)) (by rw [wanted_of hF43 (b := false) rfl rfl (by kernel_rfl) (by kernel_rfl)]; rfl) rfl (by kernel_rfl) (p0 hF43 (by kernel_rfl)) ?_; intro a44 hF45; clear hF43
 refine st hF45 (.bool ((rcheckh u0) != 0)) (by rw [wanted_of hF45 (b := false) rfl rfl (by kernel_rfl) (by kernel_rfl)]; rfl) rfl (by kernel_rfl) (p0 hF45 (by kernel_rfl)) ?_; intro a46 hF47; clear hF45
 refine s1 hF47 20 (.bool ((rcheckh u0) != 0)) ?_; intro a48 hF49; clear hF47
 refine nlH (hQ35 _ _ ?_); clear hQ35 hQ35Q
 refine cd hF49 (t := (rcheckh u0) != 0) (by kernel_rfl) (fun hb50 => ?_) (fun hb50 => ?_)
 · -- yes
  have hp51 := hp.1 hb50; clear hp
  have hF52 : Fr 69 [] [⟨3, [], .int .i64 ((hTill u0).1)⟩, ⟨4, [], .int .i64 ((hTill u0).2)⟩, ⟨5, [], .int .i64 (rcheckh u0)⟩] a48 := hF49.region (by kernel_rfl) (by kernel_rfl); clear hF49
  refine sqH ?_; intro hQ53Q hQ53
  refine fcl hF52 hM39 (.bool true) 11 #[] (nog rfl _) rfl (by kernel_rfl) (fun _ => by kernel_rfl) (well_fun  _ _ hM39.fz) ?_; intro a54 wd56 hF55 hM57; clear hF52 hM39
  refine s1 hF55 22 (.bool true) ?_; intro a58 hF59; clear hF55
  refine st hF59 (.int .i64 ((hTill u0).2)) (by rw [wanted_of hF59 (b := true) rfl rfl (by kernel_rfl) (by kernel_rfl)]; rfl) rfl (by kernel_rfl) (p0 hF59 (by kernel_rfl)) ?_; intro a60 hF61; clear hF59
  refine st hF61 (.int .i64 (rcheckh u0)) (by rw [wanted_of hF61 (b := true) rfl rfl (by kernel_rfl) (by kernel_rfl)]; rfl) rfl (by kernel_rfl) (p0 hF61 (by kernel_rfl)) ?_; intro a62 hF63; clear hF61
  refine st hF63 (.bool (((hTill u0).2) == (rcheckh u0))) (by rw [wanted_of hF63 (b := true) rfl rfl (by kernel_rfl) (by kernel_rfl)]; rfl) rfl (by kernel_rfl) (p0 hF63 (by kernel_rfl)) ?_; intro a64 hF65; clear hF63
  refine s1 hF65 26 (.bool (((hTill u0).2) == (rcheckh u0))) ?_; intro a66 hF67; clear hF65
  refine s1 hF67 27 (.bool (((hTill u0).2) == (rcheckh u0))) ?_; intro a68 hF69; clear hF67
  have hF70 := hF69.atom ((((hTill u0).2) == (rcheckh u0)) == true) (by kernel_rfl); clear hF69
  refine gp hF70 28 0 [] (((hTill u0).2) == (rcheckh u0)) (.int .i64 ((hTill u0).1)) rfl rfl ?_; intro a71 hF72; clear hF70
  refine gp hF72 29 0 [] (((hTill u0).2) == (rcheckh u0)) (.bool (((hTill u0).1) == 0)) rfl rfl ?_; intro a73 hF74; clear hF72
  refine st hF74 (.bool ((((hTill u0).2) == (rcheckh u0)) && (((hTill u0).1) == 0))) (nog rfl _) rfl (by kernel_rfl) (pk_and hF74 (g := []) (m := 0) (b := ((hTill u0).2) == (rcheckh u0)) (v := ((hTill u0).1) == 0) rfl (by kernel_rfl) (by kernel_rfl) (by kernel_rfl) rfl) ?_; intro a75 hF76; clear hF74
  refine s1 hF76 2 (.bool ((((hTill u0).2) == (rcheckh u0)) && (((hTill u0).1) == 0))) ?_; intro a77 hF78; clear hF76
  refine nlH (hQ53 _ _ ?_); clear hQ53 hQ53Q
  refine wp_ret ?_
  refine thr ?_
  refine rt (fn := Try.f6) (v := .bool ((((hTill u0).2) == (rcheckh u0)) && (((hTill u0).1) == 0))) hF78 (re1 hF78 (fn := Try.f6) rfl (by kernel_rfl)) ?_
  exact ⟨(((hTill u0).2) == (rcheckh u0)) && (((hTill u0).1) == 0), rfl, hp51, hM57.below⟩
 · -- no
  have hp79 := hp.2 hb50; clear hp
  refine wp_skip ?_
  refine thn ?_
  refine wp_seq ?_
  have hF80 : Fr 69 [] [⟨1, [], .pointer (some ⟨b2, 0, none⟩)⟩, ⟨3, [], .int .i64 ((hTill u0).1)⟩, ⟨4, [], .int .i64 ((hTill u0).2)⟩] a48 := hF49.region (by kernel_rfl) (by kernel_rfl); clear hF49
  refine sqH ?_; intro hQ81Q hQ81
  refine s1 hF80 31 (.int .i64 ((hTill u0).2)) ?_; intro a82 hF83; clear hF80
  refine s1 hF83 32 (.bool (((hTill u0).2) != 0)) ?_; intro a84 hF85; clear hF83
  refine s1 hF85 33 (.bool (((hTill u0).2) != 0)) ?_; intro a86 hF87; clear hF85
  have hF88 := hF87.atom ((((hTill u0).2) != 0) == false) (by kernel_rfl); clear hF87
  refine gp hF88 34 0 [] (((hTill u0).2) != 0) (.int .i64 ((hTill u0).1)) rfl rfl ?_; intro a89 hF90; clear hF88
  refine gp hF90 35 0 [] (((hTill u0).2) != 0) (.bool (decide (((hTill u0).1) < 0))) rfl rfl ?_; intro a91 hF92; clear hF90
  refine st hF92 (.bool ((((hTill u0).2) != 0) || (decide (((hTill u0).1) < 0)))) (nog rfl _) rfl (by kernel_rfl) (pk_or hF92 (g := []) (m := 0) (b := ((hTill u0).2) != 0) (v := decide (((hTill u0).1) < 0)) rfl (by kernel_rfl) (by kernel_rfl) (by kernel_rfl) rfl) ?_; intro a93 hF94; clear hF92
  refine s1 hF94 37 (.bool ((((hTill u0).2) != 0) || (decide (((hTill u0).1) < 0)))) ?_; intro a95 hF96; clear hF94
  have hF97 := hF96.atom (((((hTill u0).2) != 0) || (decide (((hTill u0).1) < 0))) == false) (by kernel_rfl); clear hF96
  refine gp hF97 38 1 [] ((((hTill u0).2) != 0) || (decide (((hTill u0).1) < 0))) (.int .i64 ((hTill u0).1)) rfl rfl ?_; intro a98 hF99; clear hF97
  refine gp hF99 39 1 [] ((((hTill u0).2) != 0) || (decide (((hTill u0).1) < 0))) (.bool (decide (((hTill u0).1) > 32))) rfl rfl ?_; intro a100 hF101; clear hF99
  refine st hF101 (.bool (((((hTill u0).2) != 0) || (decide (((hTill u0).1) < 0))) || (decide (((hTill u0).1) > 32)))) (nog rfl _) rfl (by kernel_rfl) (pk_or hF101 (g := []) (m := 1) (b := (((hTill u0).2) != 0) || (decide (((hTill u0).1) < 0))) (v := decide (((hTill u0).1) > 32)) rfl (by kernel_rfl) (by kernel_rfl) (by kernel_rfl) rfl) ?_; intro a102 hF103; clear hF101
  refine s1 hF103 41 (.bool (((((hTill u0).2) != 0) || (decide (((hTill u0).1) < 0))) || (decide (((hTill u0).1) > 32)))) ?_; intro a104 hF105; clear hF103
  have hF106 := hF105.atom ((((((hTill u0).2) != 0) || (decide (((hTill u0).1) < 0))) || (decide (((hTill u0).1) > 32))) == false) (by kernel_rfl); clear hF105
  refine gp hF106 42 2 [] (((((hTill u0).2) != 0) || (decide (((hTill u0).1) < 0))) || (decide (((hTill u0).1) > 32))) (.int .i64 ((hTill u0).1)) rfl rfl ?_; intro a107 hF108; clear hF106
  refine gp hF108 43 2 [] (((((hTill u0).2) != 0) || (decide (((hTill u0).1) < 0))) || (decide (((hTill u0).1) > 32))) (.bool (((hTill u0).1) == 0)) rfl rfl ?_; intro a109 hF110; clear hF108
  refine gd hF110 (.agg #[.int .i64 u0.Sent, .int .i64 u0.Got, .int .i64 u0.Rest]) (m := 2) (cj := []) (bj := ((((hTill u0).2) != 0) || (decide (((hTill u0).1) < 0))) || (decide (((hTill u0).1) > 32))) rfl rfl (by kernel_rfl) rfl (by kernel_rfl) (by kernel_rfl) (by kernel_rfl) (fun hg => lda hF110 hM39 0 (g := [2]) (b := b2) (off := 0) (k := 3) (cs := [.int .i64 u0.Sent, .int .i64 u0.Got, .int .i64 u0.Rest]) (vs := [.int .i64 u0.Sent, .int .i64 u0.Got, .int .i64 u0.Rest]) (ty := 28) rfl (by kernel_rfl) (by kernel_rfl) (by kernel_rfl) (by kernel_rfl) (by kernel_rfl) hg) ?_; intro a111 hF112; clear hF110
  refine gcl hF112 hM39 (.int .i64 (rstate u0)) 13 #[.agg #[.int .i64 u0.Sent, .int .i64 u0.Got, .int .i64 u0.Rest]] (m := 2) (cj := []) (bj := ((((hTill u0).2) != 0) || (decide (((hTill u0).1) < 0))) || (decide (((hTill u0).1) > 32))) rfl rfl (by kernel_rfl) rfl (by kernel_rfl) (by kernel_rfl) (by kernel_rfl) (fun _ => by kernel_rfl) (fun hg => rstate_fun u0 _ _ hM39.fz) ?_; intro a113 wd115 hF114 hM116; clear hF112 hM39
  refine gp hF114 46 2 [] (((((hTill u0).2) != 0) || (decide (((hTill u0).1) < 0))) || (decide (((hTill u0).1) > 32))) (.bool ((rstate u0) == 2)) rfl rfl ?_; intro a117 hF118; clear hF114
  refine gp hF118 47 2 [] (((((hTill u0).2) != 0) || (decide (((hTill u0).1) < 0))) || (decide (((hTill u0).1) > 32))) (.bool ((((hTill u0).1) == 0) != ((rstate u0) == 2))) rfl rfl ?_; intro a119 hF120; clear hF118
  refine st hF120 (.bool ((((((hTill u0).2) != 0) || (decide (((hTill u0).1) < 0))) || (decide (((hTill u0).1) > 32))) || ((((hTill u0).1) == 0) != ((rstate u0) == 2)))) (nog rfl _) rfl (by kernel_rfl) (pk_or hF120 (g := []) (m := 2) (b := ((((hTill u0).2) != 0) || (decide (((hTill u0).1) < 0))) || (decide (((hTill u0).1) > 32))) (v := (((hTill u0).1) == 0) != ((rstate u0) == 2)) rfl (by kernel_rfl) (by kernel_rfl) (by kernel_rfl) rfl) ?_; intro a121 hF122; clear hF120
  refine nlH (hQ81 _ _ ?_); clear hQ81 hQ81Q
  refine cd hF122 (t := (((((hTill u0).2) != 0) || (decide (((hTill u0).1) < 0))) || (decide (((hTill u0).1) > 32))) || ((((hTill u0).1) == 0) != ((rstate u0) == 2))) (by kernel_rfl) (fun hb123 => ?_) (fun hb123 => ?_)
  · -- yes
   have hp124 := hp79.1 hb123; clear hp79
   have hF125 : Fr 69 [] [] a121 := hF122.region (by kernel_rfl) (by kernel_rfl); clear hF122
   refine sqH ?_; intro hQ126Q hQ126
   refine s1 hF125 2 (.bool false) ?_; intro a127 hF128; clear hF125
   refine nlH (hQ126 _ _ ?_); clear hQ126 hQ126Q
   refine wp_ret ?_
   refine thr ?_
   refine rt (fn := Try.f6) (v := .bool false) hF128 (re1 hF128 (fn := Try.f6) rfl (by kernel_rfl)) ?_
   exact ⟨false, rfl, hp124, hM116.below⟩
  · -- no
   have hp129 := hp79.2 hb123; clear hp79
   refine wp_skip ?_
   refine thn ?_
   have hF130 : Fr 69 [] [⟨1, [], .pointer (some ⟨b2, 0, none⟩)⟩, ⟨3, [], .int .i64 ((hTill u0).1)⟩] a121 := hF122.region (by kernel_rfl) (by kernel_rfl); clear hF122
   refine sqH ?_; intro hQ131Q hQ131
   refine l2 hF130 hM116 49 0 0 3 [.int .i64 u0.Sent, .int .i64 u0.Got, .int .i64 u0.Rest] rfl rfl ?_; intro a132 hF133; clear hF130
   refine sn hF133 hM116 (fun b => .pointer (some ⟨b, 0, none⟩)) [.int .i64 0, .int .i64 0, .int .i64 0] 28 (nog rfl _) rfl (by kernel_rfl) (by kernel_rfl) ?_; intro b134 a135 wd137 hF136 hM138; clear hF133 hM116
   refine sr hF136 hM138 0 [.int .i64 u0.Sent, .int .i64 u0.Got, .int .i64 u0.Rest] (b := b134) (off := 0) (cs := [.int .i64 0, .int .i64 0, .int .i64 0]) (ty := 28) (u := .agg #[.int .i64 u0.Sent, .int .i64 u0.Got, .int .i64 u0.Rest]) (nog rfl _) rfl rfl (by kernel_rfl) (by kernel_rfl) (by kernel_rfl) (by kernel_rfl) (by kernel_rfl) (by kernel_rfl) (by kernel_rfl) ?_; intro wd139 hM140; clear hM138
   have hM141 : Mem w.heap.size [] w Z [.row b134 [.int .i64 u0.Sent, .int .i64 u0.Got, .int .i64 u0.Rest] 28, .row b2 [.int .i64 u0.Sent, .int .i64 u0.Got, .int .i64 u0.Rest] 28] Z wd139 := hM140; clear hM140
   refine nlH (hQ131 _ _ ?_); clear hQ131 hQ131Q
   refine wp_seq ?_
   refine sqH ?_; intro hQ142Q hQ142
   refine s1 hF136 50 (.int .i64 ((hTill u0).1)) ?_; intro a143 hF144; clear hF136
   refine s1 hF144 51 (.int .i64 0) ?_; intro a145 hF146; clear hF144
   refine nlH (hQ142 _ _ ?_); clear hQ142 hQ142Q
   refine wp_block ?_
   have hF147 : Fr 69 [] [⟨3, [], .int .i64 ((hTill u0).1)⟩, ⟨6, [], .pointer (some ⟨b134, 0, none⟩)⟩, ⟨50, [], .int .i64 ((hTill u0).1)⟩, ⟨51, [], .int .i64 0⟩] a145 := hF146.region (by kernel_rfl) (by kernel_rfl); clear hF146
   have hF149 : Fr 69 [] [⟨3, [], .int .i64 ((hTill u0).1)⟩, ⟨6, [], .pointer (some ⟨b134, 0, none⟩)⟩, ⟨50, [], .int .i64 ((hTill u0).1)⟩, ⟨51, [], .int .i64 0⟩] a145 := hF147.region (by kernel_rfl) (by kernel_rfl); clear hF147
   obtain ⟨inv148, mu148, hI152, hr151⟩ := hp129
   refine lp (ι := Int × Health) (fun (s : Int × Health) => [⟨3, [], .int .i64 ((hTill u0).1)⟩, ⟨6, [], .pointer (some ⟨b134, 0, none⟩)⟩, ⟨50, [], .int .i64 ((hTill u0).1)⟩, ⟨51, [], .int .i64 s.1⟩]) (fun (s : Int × Health) => [.row b134 [.int .i64 s.2.Sent, .int .i64 s.2.Got, .int .i64 s.2.Rest] 28, .row b2 [.int .i64 u0.Sent, .int .i64 u0.Got, .int .i64 u0.Rest] 28]) (fun (s : Int × Health) => Z) (fun (s : Int × Health) => inv148 s.1 s.2) (fun (s : Int × Health) => mu148 s.1 s.2) ⟨0, u0⟩ hI152 (by exact hF149.region (by kernel_rfl) (by kernel_rfl)) (by exact hM141) ?_
   rintro ⟨x51, yb134⟩ hI150 a154 wd155 hF156 hM157
   have hF158 : Fr 69 [] [⟨3, [], .int .i64 ((hTill u0).1)⟩, ⟨6, [], .pointer (some ⟨b134, 0, none⟩)⟩, ⟨50, [], .int .i64 ((hTill u0).1)⟩, ⟨51, [], .int .i64 x51⟩] a154 := hF156; clear hF156 hF149
   have hM159 : Mem w.heap.size [] w Z [.row b134 [.int .i64 yb134.Sent, .int .i64 yb134.Got, .int .i64 yb134.Rest] 28, .row b2 [.int .i64 u0.Sent, .int .i64 u0.Got, .int .i64 u0.Rest] 28] Z wd155 := hM157; clear hM157 hM141
   have hp160 := hr151 x51 yb134 hI150
   refine sqH ?_; intro hQ161Q hQ161
   refine s1 hF158 52 (.bool (decide (x51 < ((hTill u0).1)))) ?_; intro a162 hF163; clear hF158
   refine nlH (hQ161 _ _ ?_); clear hQ161 hQ161Q
   refine wp_seq ?_
   refine cd hF163 (t := decide (x51 < ((hTill u0).1))) (by kernel_rfl) (fun hb164 => ?_) (fun hb164 => ?_)
   · -- yes
    have hp165 := hp160.1 hb164; clear hp160
    refine wp_skip ?_
    refine thn ?_
    refine wp_seq ?_
    refine wp_block ?_
    refine sqH ?_; intro hQ166Q hQ166
    refine s1 hF163 53 (.int .i64 x51) ?_; intro a167 hF168; clear hF163
    refine s1 hF168 7 (.int .i64 x51) ?_; intro a169 hF170; clear hF168
    refine nlH (hQ166 _ _ ?_); clear hQ166 hQ166Q
    refine wp_seq ?_
    refine sqH ?_; intro hQ171Q hQ171
    refine l2 hF170 hM159 54 0 0 3 [.int .i64 yb134.Sent, .int .i64 yb134.Got, .int .i64 yb134.Rest] rfl rfl ?_; intro a172 hF173; clear hF170
    refine fcl hF173 hM159 (.int .i64 (rstate yb134)) 13 #[.agg #[.int .i64 yb134.Sent, .int .i64 yb134.Got, .int .i64 yb134.Rest]] (nog rfl _) rfl (by kernel_rfl) (fun _ => by kernel_rfl) (rstate_fun yb134 _ _ hM159.fz) ?_; intro a174 wd176 hF175 hM177; clear hF173 hM159
    refine s1 hF175 56 (.bool ((rstate yb134) == 2)) ?_; intro a178 hF179; clear hF175
    refine nlH (hQ171 _ _ ?_); clear hQ171 hQ171Q
    refine cd hF179 (t := (rstate yb134) == 2) (by kernel_rfl) (fun hb180 => ?_) (fun hb180 => ?_)
    · -- yes
     have hp181 := hp165.1 hb180; clear hp165
     refine sqH ?_; intro hQ182Q hQ182
     refine s1 hF179 57 (.int .i64 x51) ?_; intro a183 hF184; clear hF179
     refine s1 hF184 58 (.int .i64 ((hTill u0).1)) ?_; intro a185 hF186; clear hF184
     refine s1 hF186 59 (.bool (x51 == ((hTill u0).1))) ?_; intro a187 hF188; clear hF186
     refine s1 hF188 2 (.bool (x51 == ((hTill u0).1))) ?_; intro a189 hF190; clear hF188
     refine nlH (hQ182 _ _ ?_); clear hQ182 hQ182Q
     refine wp_ret ?_
     refine thr ?_
     refine ibr ?_
     refine thr ?_
     refine thr ?_
     refine ibr ?_
     refine thr ?_
     refine rt (fn := Try.f6) (v := .bool (x51 == ((hTill u0).1))) hF190 (re1 hF190 (fn := Try.f6) rfl (by kernel_rfl)) ?_
     exact ⟨x51 == ((hTill u0).1), rfl, hp181, hM177.below⟩
    · -- no
     have hp191 := hp165.2 hb180; clear hp165
     refine wp_skip ?_
     refine thn ?_
     refine rgH ?_; intro hQ192Q hQ192
     refine l2 hF179 hM177 61 0 0 3 [.int .i64 yb134.Sent, .int .i64 yb134.Got, .int .i64 yb134.Rest] rfl rfl ?_; intro a193 hF194; clear hF179
     refine fcl hF194 hM177 (.tuple #[.agg #[.int .i64 (((rstep yb134 3).1).Sent), .int .i64 (((rstep yb134 3).1).Got), .int .i64 (((rstep yb134 3).1).Rest)], .bool ((rstep yb134 3).2)]) 14 #[.agg #[.int .i64 yb134.Sent, .int .i64 yb134.Got, .int .i64 yb134.Rest], .int .i64 3] (nog rfl _) rfl (by kernel_rfl) (fun _ => by kernel_rfl) (rstep_fun yb134 3 _ _ hM177.fz) ?_; intro a195 wd197 hF196 hM198; clear hF194 hM177
     refine s1 hF196 60 (.tuple #[.agg #[.int .i64 (((rstep yb134 3).1).Sent), .int .i64 (((rstep yb134 3).1).Got), .int .i64 (((rstep yb134 3).1).Rest)], .bool ((rstep yb134 3).2)]) ?_; intro a199 hF200; clear hF196
     refine s1 hF200 63 (.agg #[.int .i64 (((rstep yb134 3).1).Sent), .int .i64 (((rstep yb134 3).1).Got), .int .i64 (((rstep yb134 3).1).Rest)]) ?_; intro a201 hF202; clear hF200
     refine s1 hF202 64 (.bool ((rstep yb134 3).2)) ?_; intro a203 hF204; clear hF202
     refine sr hF204 hM198 0 [.int .i64 (((rstep yb134 3).1).Sent), .int .i64 (((rstep yb134 3).1).Got), .int .i64 (((rstep yb134 3).1).Rest)] (b := b134) (off := 0) (cs := [.int .i64 yb134.Sent, .int .i64 yb134.Got, .int .i64 yb134.Rest]) (ty := 28) (u := .agg #[.int .i64 (((rstep yb134 3).1).Sent), .int .i64 (((rstep yb134 3).1).Got), .int .i64 (((rstep yb134 3).1).Rest)]) (nog rfl _) rfl rfl (by kernel_rfl) (by kernel_rfl) (by kernel_rfl) (by kernel_rfl) (by kernel_rfl) (by kernel_rfl) (by kernel_rfl) ?_; intro wd205 hM206; clear hM198
     have hM207 : Mem w.heap.size [] w Z [.row b134 [.int .i64 (((rstep yb134 3).1).Sent), .int .i64 (((rstep yb134 3).1).Got), .int .i64 (((rstep yb134 3).1).Rest)] 28, .row b2 [.int .i64 u0.Sent, .int .i64 u0.Got, .int .i64 u0.Rest] 28] Z wd205 := hM206; clear hM206
     refine nlH (hQ192 _ _ ?_); clear hQ192 hQ192Q
     refine ibn ?_
     refine thn ?_
     refine rgH ?_; intro hQ208Q hQ208
     refine s1 hF204 65 (.int .i64 (w64 (x51 + 1))) ?_; intro a209 hF210; clear hF204
     refine s1 hF210 51 (.int .i64 (w64 (x51 + 1))) ?_; intro a211 hF212; clear hF210
     refine nlH (hQ208 _ _ ?_); clear hQ208 hQ208Q
     refine rd ?_
     exact ⟨⟨w64 (x51 + 1), ((rstep yb134 3).1)⟩, hp191.1, hp191.2, (hF212.region (by kernel_rfl) (by kernel_rfl)).anyβ _ (by kernel_rfl), hM207.keep (List.Sublist.cons_cons _ (List.Sublist.cons_cons _ (List.Sublist.slnil)))⟩
   · -- no
    have hp213 := hp160.2 hb164; clear hp160
    refine wp_exit ?_
    refine thx ?_
    refine thx ?_
    refine ibx ?_
    refine thn ?_
    refine sqH ?_; intro hQ214Q hQ214
    refine l2 hF163 hM159 66 0 0 3 [.int .i64 yb134.Sent, .int .i64 yb134.Got, .int .i64 yb134.Rest] rfl rfl ?_; intro a215 hF216; clear hF163
    refine fcl hF216 hM159 (.int .i64 (rstate yb134)) 13 #[.agg #[.int .i64 yb134.Sent, .int .i64 yb134.Got, .int .i64 yb134.Rest]] (nog rfl _) rfl (by kernel_rfl) (fun _ => by kernel_rfl) (rstate_fun yb134 _ _ hM159.fz) ?_; intro a217 wd219 hF218 hM220; clear hF216 hM159
    refine s1 hF218 68 (.bool ((rstate yb134) == 2)) ?_; intro a221 hF222; clear hF218
    refine s1 hF222 2 (.bool ((rstate yb134) == 2)) ?_; intro a223 hF224; clear hF222
    refine nlH (hQ214 _ _ ?_); clear hQ214 hQ214Q
    refine wp_ret ?_
    refine rt (fn := Try.f6) (v := .bool ((rstate yb134) == 2)) hF224 (re1 hF224 (fn := Try.f6) rfl (by kernel_rfl)) ?_
    exact ⟨(rstate yb134) == 2, rfl, hp213, hM220.below⟩

set_option maxRecDepth 100000 in
theorem HRests_walk (u0 : Health) (u1 : List Int) (ao1 : Option Addr) (cap2 : Nat) (Z : Fz) (w : World) (hs3 : SlR (tyInt .i64) Z ao1 cap2 u1) (hZ : Z.on w) {K : Bool → Prop} (hp : HRests_vc u0 u1 K) : Calls Try.prog 5 #[.agg #[.int .i64 u0.Sent, .int .i64 u0.Got, .int .i64 u0.Rest], .slice ao1 u1.length cap2] w fun e w' => ∃ r : Bool, e = .returned (.bool r) ∧ K r ∧ Below w.heap.size w w' := by
 refine enter0 Try.func5 rfl rfl (by kernel_rfl) ?_; intro a0 hF0; have hM0 := Mem.start w Z hZ; have hle0 := Fz.le.refl Z
 have hp4 := hp (hs3.small); clear hp
 refine sqH ?_; intro hQ5Q hQ5
 refine sn hF0 hM0 (fun b => .pointer (some ⟨b, 0, none⟩)) [.int .i64 u0.Sent, .int .i64 u0.Got, .int .i64 u0.Rest] 28 (nog rfl _) rfl (by kernel_rfl) (by kernel_rfl) ?_; intro b6 a7 wd9 hF8 hM10; clear hF0 hM0
 refine s1 hF8 4 (.bool false) ?_; intro a11 hF12; clear hF8
 refine nlH (hQ5 _ _ ?_); clear hQ5 hQ5Q
 refine sqH ?_; intro hQ13Q hQ13
 refine l2 hF12 hM10 19 0 0 3 [.int .i64 u0.Sent, .int .i64 u0.Got, .int .i64 u0.Rest] rfl rfl ?_; intro a14 hF15; clear hF12
 refine s1 hF15 20 (.slice ao1 u1.length cap2) ?_; intro a16 hF17; clear hF15
 refine fcl hF17 hM10 (.tuple #[.agg #[.int .i64 (((hstepS u0 u1).1).Sent), .int .i64 (((hstepS u0 u1).1).Got), .int .i64 (((hstepS u0 u1).1).Rest)], .int .i64 ((hstepS u0 u1).2.1), .int .i64 ((hstepS u0 u1).2.2)]) 8 #[.agg #[.int .i64 u0.Sent, .int .i64 u0.Got, .int .i64 u0.Rest], .slice ao1 u1.length cap2] (nog rfl _) rfl (by kernel_rfl) (fun _ => by kernel_rfl) (hstep_fun u0 u1 ao1 cap2 _ _ hs3 hM10.fz) ?_; intro a18 wd20 hF19 hM21; clear hF17 hM10
 refine s1 hF19 18 (.tuple #[.agg #[.int .i64 (((hstepS u0 u1).1).Sent), .int .i64 (((hstepS u0 u1).1).Got), .int .i64 (((hstepS u0 u1).1).Rest)], .int .i64 ((hstepS u0 u1).2.1), .int .i64 ((hstepS u0 u1).2.2)]) ?_; intro a22 hF23; clear hF19
 refine s1 hF23 22 (.agg #[.int .i64 (((hstepS u0 u1).1).Sent), .int .i64 (((hstepS u0 u1).1).Got), .int .i64 (((hstepS u0 u1).1).Rest)]) ?_; intro a24 hF25; clear hF23
 refine s1 hF25 23 (.int .i64 ((hstepS u0 u1).2.1)) ?_; intro a26 hF27; clear hF25
 refine s1 hF27 24 (.int .i64 ((hstepS u0 u1).2.2)) ?_; intro a28 hF29; clear hF27
 refine sn hF29 hM21 (fun b => .pointer (some ⟨b, 0, none⟩)) [.int .i64 0, .int .i64 0, .int .i64 0] 28 (nog rfl _) rfl (by kernel_rfl) (by kernel_rfl) ?_; intro b30 a31 wd33 hF32 hM34; clear hF29 hM21
 refine sr hF32 hM34 0 [.int .i64 (((hstepS u0 u1).1).Sent), .int .i64 (((hstepS u0 u1).1).Got), .int .i64 (((hstepS u0 u1).1).Rest)] (b := b30) (off := 0) (cs := [.int .i64 0, .int .i64 0, .int .i64 0]) (ty := 28) (u := .agg #[.int .i64 (((hstepS u0 u1).1).Sent), .int .i64 (((hstepS u0 u1).1).Got), .int .i64 (((hstepS u0 u1).1).Rest)]) (nog rfl _) rfl rfl (by kernel_rfl) (by kernel_rfl) (by kernel_rfl) (by kernel_rfl) (by kernel_rfl) (by kernel_rfl) (by kernel_rfl) ?_; intro wd35 hM36; clear hM34
 refine s1 hF32 6 (.int .i64 ((hstepS u0 u1).2.1)) ?_; intro a37 hF38; clear hF32
 refine s1 hF38 7 (.int .i64 ((hstepS u0 u1).2.2)) ?_; intro a39 hF40; clear hF38
 have hM41 : Mem w.heap.size [] w Z [.row b30 [.int .i64 (((hstepS u0 u1).1).Sent), .int .i64 (((hstepS u0 u1).1).Got), .int .i64 (((hstepS u0 u1).1).Rest)] 28, .row b6 [.int .i64 u0.Sent, .int .i64 u0.Got, .int .i64 u0.Rest] 28] Z wd35 := hM36; clear hM36
 refine nlH (hQ13 _ _ ?_); clear hQ13 hQ13Q
 refine wp_seq ?_
 refine sqH ?_; intro hQ42Q hQ42
 refine fcl hF40 hM41 (.bool true) 11 #[] (nog rfl _) rfl (by kernel_rfl) (fun _ => by kernel_rfl) (well_fun  _ _ hM41.fz) ?_; intro a43 wd45 hF44 hM46; clear hF40 hM41
 refine s1 hF44 26 (.bool false) ?_; intro a47 hF48; clear hF44
 refine s1 hF48 27 (.bool false) ?_; intro a49 hF50; clear hF48
 refine st hF50 (.int .i64 ((hstepS u0 u1).2.2)) (by rw [wanted_of hF50 (b := false) rfl rfl (by kernel_rfl) (by kernel_rfl)]; rfl) rfl (by kernel_rfl) (p0 hF50 (by kernel_rfl)) ?_; intro a51 hF52; clear hF50
 refine st hF52 (.bool (((hstepS u0 u1).2.2) != 0)) (by rw [wanted_of hF52 (b := false) rfl rfl (by kernel_rfl) (by kernel_rfl)]; rfl) rfl (by kernel_rfl) (p0 hF52 (by kernel_rfl)) ?_; intro a53 hF54; clear hF52
 refine s1 hF54 30 (.bool (((hstepS u0 u1).2.2) != 0)) ?_; intro a55 hF56; clear hF54
 refine nlH (hQ42 _ _ ?_); clear hQ42 hQ42Q
 refine cd hF56 (t := ((hstepS u0 u1).2.2) != 0) (by kernel_rfl) (fun hb57 => ?_) (fun hb57 => ?_)
 · -- yes
  have hp58 := hp4.1 hb57; clear hp4
  have hF59 : Fr 92 [] [] a55 := hF56.region (by kernel_rfl) (by kernel_rfl); clear hF56
  refine sqH ?_; intro hQ60Q hQ60
  refine fcl hF59 hM46 (.bool true) 11 #[] (nog rfl _) rfl (by kernel_rfl) (fun _ => by kernel_rfl) (well_fun  _ _ hM46.fz) ?_; intro a61 wd63 hF62 hM64; clear hF59 hM46
  refine s1 hF62 4 (.bool true) ?_; intro a65 hF66; clear hF62
  refine nlH (hQ60 _ _ ?_); clear hQ60 hQ60Q
  refine wp_ret ?_
  refine thr ?_
  refine rt (fn := Try.f5) (v := .bool true) hF66 (re1 hF66 (fn := Try.f5) rfl (by kernel_rfl)) ?_
  exact ⟨true, rfl, hp58, hM64.below⟩
 · -- no
  have hp67 := hp4.2 hb57; clear hp4
  refine wp_skip ?_
  refine thn ?_
  refine wp_seq ?_
  have hF68 : Fr 92 [] [⟨1, [], .slice ao1 u1.length cap2⟩, ⟨2, [], .pointer (some ⟨b6, 0, none⟩)⟩, ⟨5, [], .pointer (some ⟨b30, 0, none⟩)⟩] a55 := hF56.region (by kernel_rfl) (by kernel_rfl); clear hF56
  refine sqH ?_; intro hQ69Q hQ69
  refine l2 hF68 hM46 32 0 0 3 [.int .i64 (((hstepS u0 u1).1).Sent), .int .i64 (((hstepS u0 u1).1).Got), .int .i64 (((hstepS u0 u1).1).Rest)] rfl rfl ?_; intro a70 hF71; clear hF68
  refine fcl hF71 hM46 (.int .i64 (hcheck ((hstepS u0 u1).1))) 12 #[.agg #[.int .i64 (((hstepS u0 u1).1).Sent), .int .i64 (((hstepS u0 u1).1).Got), .int .i64 (((hstepS u0 u1).1).Rest)]] (nog rfl _) rfl (by kernel_rfl) (fun _ => by kernel_rfl) (hcheck_fun ((hstepS u0 u1).1) _ _ hM46.fz) ?_; intro a72 wd74 hF73 hM75; clear hF71 hM46
  refine s1 hF73 34 (.bool ((hcheck ((hstepS u0 u1).1)) != 0)) ?_; intro a76 hF77; clear hF73
  refine nlH (hQ69 _ _ ?_); clear hQ69 hQ69Q
  refine cd hF77 (t := (hcheck ((hstepS u0 u1).1)) != 0) (by kernel_rfl) (fun hb78 => ?_) (fun hb78 => ?_)
  · -- yes
   have hp79 := hp67.1 hb78; clear hp67
   refine sqH ?_; intro hQ80Q hQ80
   refine s1 hF77 4 (.bool false) ?_; intro a81 hF82; clear hF77
   refine nlH (hQ80 _ _ ?_); clear hQ80 hQ80Q
   refine wp_ret ?_
   refine thr ?_
   refine rt (fn := Try.f5) (v := .bool false) hF82 (re1 hF82 (fn := Try.f5) rfl (by kernel_rfl)) ?_
   exact ⟨false, rfl, hp79, hM75.below⟩
  · -- no
   have hp83 := hp67.2 hb78; clear hp67
   refine wp_skip ?_
   refine thn ?_
   have hF84 : Fr 92 [] [⟨1, [], .slice ao1 u1.length cap2⟩, ⟨2, [], .pointer (some ⟨b6, 0, none⟩)⟩] a76 := hF77.region (by kernel_rfl) (by kernel_rfl); clear hF77
   have hcd2_0 := hp83.1; have hp135 := hp83.2; clear hp83
   refine wp_seq (any_invE mixed [[], [], [1], [0, 2], [3], [4], [4], [4], [], [0, 1, 2, 3, 4, 5, 8], [0, 1, 2, 3, 4, 5, 6, 8, 9], [0, 1, 2, 3, 4, 5, 6, 7, 8, 9, 10]] 12 (fun S a w1 => ∃ (b87 : Nat) (ao102 : Option Addr) (cap103 : Nat) (b124 : Nat) (ud7 : Value) (ud8 : Value) (ud9 : Value) (ud35 : Value) (ud36 : Value) (ud37 : Value) (ud38 : Value) (ud39 : Value) (ud40 : Value) (ud41 : Value) (ud42 : Value) (rh0 : Res) (rh1 : Res) (rh2 : Res) (rh3 : Res) (Z136 : Fz), Fz.le Z Z136 ∧ Fr 92 [] [⟨1, [], .slice ao1 u1.length cap2⟩, ⟨2, [], .pointer (some ⟨b6, 0, none⟩)⟩, ⟨7, [], ud7⟩, ⟨8, [], ud8⟩, ⟨9, [], ud9⟩, ⟨35, [], ud35⟩, ⟨36, [], ud36⟩, ⟨37, [], ud37⟩, ⟨38, [], ud38⟩, ⟨39, [], ud39⟩, ⟨40, [], ud40⟩, ⟨41, [], ud41⟩, ⟨42, [], ud42⟩] a ∧ Mem w.heap.size [] w Z [rh0, rh1, rh2, rh3] Z136 w1 ∧ (S 11 = true → ud7 = .int .i64 ((hstepS u0 (srepS ([3] : List Int) 32)).2.2)) ∧ (S 8 = true → ud8 = .pointer (some ⟨b124, 0, none⟩)) ∧ (S 10 = true → ud9 = .int .i64 ((hstepS u0 (srepS ([3] : List Int) 32)).2.1)) ∧ (S 4 = true → ud35 = .tuple #[.agg #[.int .i64 (((hstepS u0 (srepS ([3] : List Int) 32)).1).Sent), .int .i64 (((hstepS u0 (srepS ([3] : List Int) 32)).1).Got), .int .i64 (((hstepS u0 (srepS ([3] : List Int) 32)).1).Rest)], .int .i64 ((hstepS u0 (srepS ([3] : List Int) 32)).2.1), .int .i64 ((hstepS u0 (srepS ([3] : List Int) 32)).2.2)]) ∧ (S 0 = true → ud36 = .agg #[.int .i64 u0.Sent, .int .i64 u0.Got, .int .i64 u0.Rest]) ∧ (S 1 = true → ud37 = .slice (some ⟨b87, 0, none⟩) 1 1) ∧ (S 2 = true → ud38 = .slice ao102 (srepS ([3] : List Int) 32).length cap103) ∧ (S 3 = true → ud39 = .tuple #[.agg #[.int .i64 (((hstepS u0 (srepS ([3] : List Int) 32)).1).Sent), .int .i64 (((hstepS u0 (srepS ([3] : List Int) 32)).1).Got), .int .i64 (((hstepS u0 (srepS ([3] : List Int) 32)).1).Rest)], .int .i64 ((hstepS u0 (srepS ([3] : List Int) 32)).2.1), .int .i64 ((hstepS u0 (srepS ([3] : List Int) 32)).2.2)]) ∧ (S 5 = true → ud40 = .agg #[.int .i64 (((hstepS u0 (srepS ([3] : List Int) 32)).1).Sent), .int .i64 (((hstepS u0 (srepS ([3] : List Int) 32)).1).Got), .int .i64 (((hstepS u0 (srepS ([3] : List Int) 32)).1).Rest)]) ∧ (S 6 = true → ud41 = .int .i64 ((hstepS u0 (srepS ([3] : List Int) 32)).2.1)) ∧ (S 7 = true → ud42 = .int .i64 ((hstepS u0 (srepS ([3] : List Int) 32)).2.2)) ∧ (rh0 = .row b30 [.int .i64 (((hstepS u0 u1).1).Sent), .int .i64 (((hstepS u0 u1).1).Got), .int .i64 (((hstepS u0 u1).1).Rest)] 28) ∧ (rh1 = .row b6 [.int .i64 u0.Sent, .int .i64 u0.Got, .int .i64 u0.Rest] 28) ∧ (S 1 = false → rh2 = .nil) ∧ (S 1 = true → S 2 = false → rh2 = .row b87 [.int .i64 3] 3) ∧ (S 2 = true → S 3 = false → rh2 = .own (tyInt .i64) 3 ao102 cap103 (srepS ([3] : List Int) 32)) ∧ (S 3 = true → rh2 = .nil) ∧ (S 8 = false → rh3 = .nil) ∧ (S 8 = true → S 9 = false → rh3 = .row b124 [.int .i64 0, .int .i64 0, .int .i64 0] 28) ∧ (S 9 = true → rh3 = .row b124 [.int .i64 (((hstepS u0 (srepS ([3] : List Int) 32)).1).Sent), .int .i64 (((hstepS u0 (srepS ([3] : List Int) 32)).1).Got), .int .i64 (((hstepS u0 (srepS ([3] : List Int) 32)).1).Rest)] 28) ∧ (S 2 = true → SlR (tyInt .i64) Z136 (some ⟨b87, 0, none⟩) 1 ([3] : List Int)) ∧ (S 3 = true → SlR (tyInt .i64) Z136 ao102 cap103 (srepS ([3] : List Int) 32))) ?h0 ?hs ?hE)
   case h0 =>
    have hF138 := hF84.any 7
    have hF139 := hF138.any 8
    have hF140 := hF139.any 9
    have hF141 := hF140.any 35
    have hF142 := hF141.any 36
    have hF143 := hF142.any 37
    have hF144 := hF143.any 38
    have hF145 := hF144.any 39
    have hF146 := hF145.any 40
    have hF147 := hF146.any 41
    have hF148 := hF147.any 42
    have hM149 := hM75.nilRes
    have hM150 := hM149.nilRes
    have hM151 := (hM150.perm ((pk 2 rfl).trans (((pk 2 rfl).trans (((pk 1 rfl).trans ((List.Perm.refl _).cons _)).cons _)).cons _))).drew
    exact ⟨0, none, 0, 0, a76.tmps.getD 7 undef, a76.tmps.getD 8 undef, a76.tmps.getD 9 undef, a76.tmps.getD 35 undef, a76.tmps.getD 36 undef, a76.tmps.getD 37 undef, a76.tmps.getD 38 undef, a76.tmps.getD 39 undef, a76.tmps.getD 40 undef, a76.tmps.getD 41 undef, a76.tmps.getD 42 undef, .row b30 [.int .i64 (((hstepS u0 u1).1).Sent), .int .i64 (((hstepS u0 u1).1).Got), .int .i64 (((hstepS u0 u1).1).Rest)] 28, .row b6 [.int .i64 u0.Sent, .int .i64 u0.Got, .int .i64 u0.Rest] 28, .nil, .nil, Z, Fz.le.refl _, hF148.region (by kernel_rfl) (by kernel_rfl), hM151, ff, ff, ff, ff, ff, ff, ff, ff, ff, ff, ff, rfl, rfl, kf, ff, ff, ff, kf, ff, ff, ff, ff⟩
   case hs =>
    intro S hcl i o hil hi hSi hpre a w1 hI; refine hid ?_; intro G hG; obtain ⟨b87, hI⟩ := hI; obtain ⟨ao102, hI⟩ := hI; obtain ⟨cap103, hI⟩ := hI; obtain ⟨b124, hI⟩ := hI; obtain ⟨ud7, hI⟩ := hI; obtain ⟨ud8, hI⟩ := hI; obtain ⟨ud9, hI⟩ := hI; obtain ⟨ud35, hI⟩ := hI; obtain ⟨ud36, hI⟩ := hI; obtain ⟨ud37, hI⟩ := hI; obtain ⟨ud38, hI⟩ := hI; obtain ⟨ud39, hI⟩ := hI; obtain ⟨ud40, hI⟩ := hI; obtain ⟨ud41, hI⟩ := hI; obtain ⟨ud42, hI⟩ := hI; obtain ⟨rh0, hI⟩ := hI; obtain ⟨rh1, hI⟩ := hI; obtain ⟨rh2, hI⟩ := hI; obtain ⟨rh3, hI⟩ := hI; obtain ⟨Z136, hI⟩ := hI; obtain ⟨hle137, hI⟩ := hI; obtain ⟨hFx, hI⟩ := hI; obtain ⟨hMx, hI⟩ := hI; obtain ⟨cu7, hI⟩ := hI; obtain ⟨cu8, hI⟩ := hI; obtain ⟨cu9, hI⟩ := hI; obtain ⟨cu35, hI⟩ := hI; obtain ⟨cu36, hI⟩ := hI; obtain ⟨cu37, hI⟩ := hI; obtain ⟨cu38, hI⟩ := hI; obtain ⟨cu39, hI⟩ := hI; obtain ⟨cu40, hI⟩ := hI; obtain ⟨cu41, hI⟩ := hI; obtain ⟨cu42, hI⟩ := hI; obtain ⟨cr0_0, hI⟩ := hI; obtain ⟨cr1_0, hI⟩ := hI; obtain ⟨cr2_0, hI⟩ := hI; obtain ⟨cr2_1, hI⟩ := hI; obtain ⟨cr2_2, hI⟩ := hI; obtain ⟨cr2_3, hI⟩ := hI; obtain ⟨cr3_0, hI⟩ := hI; obtain ⟨cr3_1, hI⟩ := hI; obtain ⟨cr3_2, hI⟩ := hI; obtain ⟨cf0, hI⟩ := hI; have cf1 := hI; clear hI
    have hcase : i = 0 ∨ i = 1 ∨ i = 2 ∨ i = 3 ∨ i = 4 ∨ i = 5 ∨ i = 6 ∨ i = 7 ∨ i = 8 ∨ i = 9 ∨ i = 10 ∨ i = 11 := by clear hi; omega
    rcases hcase with rfl | rfl | rfl | rfl | rfl | rfl | rfl | rfl | rfl | rfl | rfl | rfl
    · -- 0: load
     obtain rfl := Option.some.inj hi
     have hx0 := hSi
     have hx3 := negF hcl 3 0 (by kernel_rfl) hx0
     have hx4 := negF hcl 4 3 (by kernel_rfl) hx3
     have hx5 := negF hcl 5 4 (by kernel_rfl) hx4
     have hx6 := negF hcl 6 4 (by kernel_rfl) hx4
     have hx7 := negF hcl 7 4 (by kernel_rfl) hx4
     have hx9 := negF hcl 9 0 (by kernel_rfl) hx0
     have hx10 := negF hcl 10 0 (by kernel_rfl) hx0
     have hx11 := negF hcl 11 0 (by kernel_rfl) hx0
     obtain rfl := cr0_0
     obtain rfl := cr1_0
     refine hG (any_step ?_); clear hG G; intro A J hJ
     have hle0 := Fz.le.trans hle0 hle137
     have hzst := Fz.le.refl Z136
     have hs152 := hs3.mono hle137
     refine l2 hFx hMx 36 1 0 3 [.int .i64 u0.Sent, .int .i64 u0.Got, .int .i64 u0.Rest] rfl rfl ?_; intro a153 hF154; clear hFx
     refine nl (qnI (hJ _ _ ?_)); clear hJ J
     exact ⟨b87, ao102, cap103, b124, ud7, ud8, ud9, ud35, .agg #[.int .i64 u0.Sent, .int .i64 u0.Got, .int .i64 u0.Rest], ud37, ud38, ud39, ud40, ud41, ud42, .row b30 [.int .i64 (((hstepS u0 u1).1).Sent), .int .i64 (((hstepS u0 u1).1).Got), .int .i64 (((hstepS u0 u1).1).Rest)] 28, .row b6 [.int .i64 u0.Sent, .int .i64 u0.Got, .int .i64 u0.Rest] 28, rh2, rh3, Z136, hle137, hF154.region (by kernel_rfl) (by kernel_rfl), hMx.perm (List.Perm.refl _), (nt hx11), cu8, (nt hx10), (nt hx4), kf, cu37, cu38, (nt hx3), (nt hx5), (nt hx6), (nt hx7), rfl, rfl, cr2_0, cr2_1, cr2_2, (nt hx3), cr3_0, cr3_1, (nt hx9), cf0, (nt hx3)⟩
    · -- 1: buildSlice
     obtain rfl := Option.some.inj hi
     have hx1 := hSi
     have hx2 := negF hcl 2 1 (by kernel_rfl) hx1
     have hx3 := negF hcl 3 2 (by kernel_rfl) hx2
     have hx4 := negF hcl 4 3 (by kernel_rfl) hx3
     have hx5 := negF hcl 5 4 (by kernel_rfl) hx4
     have hx6 := negF hcl 6 4 (by kernel_rfl) hx4
     have hx7 := negF hcl 7 4 (by kernel_rfl) hx4
     have hx9 := negF hcl 9 1 (by kernel_rfl) hx1
     have hx10 := negF hcl 10 1 (by kernel_rfl) hx1
     have hx11 := negF hcl 11 1 (by kernel_rfl) hx1
     obtain rfl := cr0_0
     obtain rfl := cr1_0
     obtain rfl := cr2_0 hx1
     refine hG (any_step ?_); clear hG G; intro A J hJ
     have hle0 := Fz.le.trans hle0 hle137
     have hzst := Fz.le.refl Z136
     have hs156 := hs3.mono hle137
     have hM157 := hMx.keep (List.Sublist.cons_cons _ (List.Sublist.cons_cons _ (List.Sublist.cons _ (List.Sublist.cons_cons _ (List.Sublist.slnil))))); clear hMx
     refine sn hFx hM157 (fun b => .slice (some ⟨b, 0, none⟩) 1 1) [.int .i64 3] 3 (nog rfl _) rfl (by kernel_rfl) (by kernel_rfl) ?_; intro b158 a159 wd161 hF160 hM162; clear hFx hM157
     refine nl (qnI (hJ _ _ ?_)); clear hJ J
     exact ⟨b158, ao102, cap103, b124, ud7, ud8, ud9, ud35, ud36, .slice (some ⟨b158, 0, none⟩) 1 1, ud38, ud39, ud40, ud41, ud42, .row b30 [.int .i64 (((hstepS u0 u1).1).Sent), .int .i64 (((hstepS u0 u1).1).Got), .int .i64 (((hstepS u0 u1).1).Rest)] 28, .row b6 [.int .i64 u0.Sent, .int .i64 u0.Got, .int .i64 u0.Rest] 28, .row b158 [.int .i64 3] 3, rh3, Z136, hle137, hF160.region (by kernel_rfl) (by kernel_rfl), hM162.perm ((pk 1 rfl).trans (((pk 1 rfl).trans ((List.Perm.refl _).cons _)).cons _)), (nt hx11), cu8, (nt hx10), (nt hx4), cu36, kf, (nt hx2), (nt hx3), (nt hx5), (nt hx6), (nt hx7), rfl, rfl, nu, kf2, (fun h _ => nt hx2 h), (nt hx3), cr3_0, cr3_1, (nt hx9), (nt hx2), (nt hx3)⟩
    · -- 2: call
     obtain rfl := Option.some.inj hi
     have hx1 := hpre 1 (by kernel_rfl)
     have hx2 := hSi
     have hx3 := negF hcl 3 2 (by kernel_rfl) hx2
     have hx4 := negF hcl 4 3 (by kernel_rfl) hx3
     have hx5 := negF hcl 5 4 (by kernel_rfl) hx4
     have hx6 := negF hcl 6 4 (by kernel_rfl) hx4
     have hx7 := negF hcl 7 4 (by kernel_rfl) hx4
     have hx9 := negF hcl 9 2 (by kernel_rfl) hx2
     have hx10 := negF hcl 10 2 (by kernel_rfl) hx2
     have hx11 := negF hcl 11 2 (by kernel_rfl) hx2
     obtain rfl := cu37 hx1
     obtain rfl := cr0_0
     obtain rfl := cr1_0
     obtain rfl := cr2_1 hx1 hx2
     refine hG (any_step ?_); clear hG G; intro A J hJ
     have hle0 := Fz.le.trans hle0 hle137
     have hzst := Fz.le.refl Z136
     have hs164 := hs3.mono hle137
     have hM165 : Mem w.heap.size [] w Z [.row b30 [.int .i64 (((hstepS u0 u1).1).Sent), .int .i64 (((hstepS u0 u1).1).Got), .int .i64 (((hstepS u0 u1).1).Rest)] 28, .row b6 [.int .i64 u0.Sent, .int .i64 u0.Got, .int .i64 u0.Rest] 28, .own (tyInt .i64) 3 (some ⟨b87, 0, none⟩) 1 ([3] : List Int), rh3] Z136 w1 := hMx.rowOwn (T := (tyInt .i64)) (xs := ([3] : List Int)) 2 rfl (by decide) (by decide) (RepAll.one (T := (tyInt .i64)) (x := 3) rfl); clear hMx
     obtain ⟨Z166, hle167, hM168, hs169⟩ := hM165.freeze 2 rfl
     replace hzst := hzst.mono hle167
     replace hs164 := hs164.mono hle167
     replace hle0 := Fz.le.trans hle0 hle167
     have hM170 : Mem w.heap.size [] w Z [.row b30 [.int .i64 (((hstepS u0 u1).1).Sent), .int .i64 (((hstepS u0 u1).1).Got), .int .i64 (((hstepS u0 u1).1).Rest)] 28, .row b6 [.int .i64 u0.Sent, .int .i64 u0.Got, .int .i64 u0.Rest] 28, rh3] Z166 w1 := hM168; clear hM168
     refine cl hFx 15 #[.slice (some ⟨b87, 0, none⟩) ([3] : List Int).length 1, .int .i64 32] (nog rfl _) rfl (by kernel_rfl) (by kernel_rfl) ?_
     refine (srep_fun ([3] : List Int) 32 hcd2_0 (some ⟨b87, 0, none⟩) 1 _ _ hs169 hM170.fz).mono ?_; rintro _ wd171 ⟨ao175, cap176, Z177, rfl, hm⟩; refine ⟨_, rfl, ?_⟩; intro a172 hF173; have hM174 := hM170.callZ hm; have hle178 := hm.ext.le; clear hm hM170 hFx
     replace hzst := hzst.mono hle178
     replace hs164 := hs164.mono hle178
     replace hs169 := hs169.mono hle178
     replace hle0 := Fz.le.trans hle0 hle178
     have hM179 : Mem w.heap.size [] w Z [.own (tyInt .i64) 3 ao175 cap176 (srepS ([3] : List Int) 32), .row b30 [.int .i64 (((hstepS u0 u1).1).Sent), .int .i64 (((hstepS u0 u1).1).Got), .int .i64 (((hstepS u0 u1).1).Rest)] 28, .row b6 [.int .i64 u0.Sent, .int .i64 u0.Got, .int .i64 u0.Rest] 28, rh3] Z177 wd171 := hM174; clear hM174
     refine nl (qnI (hJ _ _ ?_)); clear hJ J
     exact ⟨b87, ao175, cap176, b124, ud7, ud8, ud9, ud35, ud36, .slice (some ⟨b87, 0, none⟩) 1 1, .slice ao175 (srepS ([3] : List Int) 32).length cap176, ud39, ud40, ud41, ud42, .row b30 [.int .i64 (((hstepS u0 u1).1).Sent), .int .i64 (((hstepS u0 u1).1).Got), .int .i64 (((hstepS u0 u1).1).Rest)] 28, .row b6 [.int .i64 u0.Sent, .int .i64 u0.Got, .int .i64 u0.Rest] 28, .own (tyInt .i64) 3 ao175 cap176 (srepS ([3] : List Int) 32), rh3, Z177, hle137.trans hzst, hF173.region (by kernel_rfl) (by kernel_rfl), hM179.perm ((pk 1 rfl).trans (((pk 1 rfl).trans ((List.Perm.refl _).cons _)).cons _)), (nt hx11), cu8, (nt hx10), (nt hx4), cu36, kf, kf, (nt hx3), (nt hx5), (nt hx6), (nt hx7), rfl, rfl, (tn hx1), (fun _ => nu), kf2, (nt hx3), cr3_0, cr3_1, (nt hx9), (fun _ => hs169), (nt hx3)⟩
    · -- 3: call
     obtain rfl := Option.some.inj hi
     have hx2 := hpre 2 (by kernel_rfl)
     have hx0 := hpre 0 (by kernel_rfl)
     have hx1 := hcl 2 1 (by kernel_rfl) hx2
     have hx3 := hSi
     have hx4 := negF hcl 4 3 (by kernel_rfl) hx3
     have hx5 := negF hcl 5 4 (by kernel_rfl) hx4
     have hx6 := negF hcl 6 4 (by kernel_rfl) hx4
     have hx7 := negF hcl 7 4 (by kernel_rfl) hx4
     have hx9 := negF hcl 9 3 (by kernel_rfl) hx3
     have hx10 := negF hcl 10 3 (by kernel_rfl) hx3
     have hx11 := negF hcl 11 3 (by kernel_rfl) hx3
     obtain rfl := cu36 hx0
     obtain rfl := cu37 hx1
     obtain rfl := cu38 hx2
     obtain rfl := cr0_0
     obtain rfl := cr1_0
     obtain rfl := cr2_2 hx2 hx3
     refine hG (any_step ?_); clear hG G; intro A J hJ
     have hle0 := Fz.le.trans hle0 hle137
     have hzst := Fz.le.refl Z136
     have hs181 := hs3.mono hle137
     have hs182 := cf0 hx2
     obtain ⟨Z183, hle184, hM185, hs186⟩ := hMx.freeze 2 rfl
     replace hzst := hzst.mono hle184
     replace hs181 := hs181.mono hle184
     replace hs182 := hs182.mono hle184
     replace hle0 := Fz.le.trans hle0 hle184
     have hM187 : Mem w.heap.size [] w Z [.row b30 [.int .i64 (((hstepS u0 u1).1).Sent), .int .i64 (((hstepS u0 u1).1).Got), .int .i64 (((hstepS u0 u1).1).Rest)] 28, .row b6 [.int .i64 u0.Sent, .int .i64 u0.Got, .int .i64 u0.Rest] 28, rh3] Z183 w1 := hM185; clear hM185
     refine fcl hFx hM187 (.tuple #[.agg #[.int .i64 (((hstepS u0 (srepS ([3] : List Int) 32)).1).Sent), .int .i64 (((hstepS u0 (srepS ([3] : List Int) 32)).1).Got), .int .i64 (((hstepS u0 (srepS ([3] : List Int) 32)).1).Rest)], .int .i64 ((hstepS u0 (srepS ([3] : List Int) 32)).2.1), .int .i64 ((hstepS u0 (srepS ([3] : List Int) 32)).2.2)]) 8 #[.agg #[.int .i64 u0.Sent, .int .i64 u0.Got, .int .i64 u0.Rest], .slice ao102 (srepS ([3] : List Int) 32).length cap103] (nog rfl _) rfl (by kernel_rfl) (fun _ => by kernel_rfl) (hstep_fun u0 (srepS ([3] : List Int) 32) ao102 cap103 _ _ hs186 hM187.fz) ?_; intro a188 wd190 hF189 hM191; clear hFx hM187
     refine nl (qnI (hJ _ _ ?_)); clear hJ J
     have hM192 := hM191.nilRes
     exact ⟨b87, ao102, cap103, b124, ud7, ud8, ud9, ud35, .agg #[.int .i64 u0.Sent, .int .i64 u0.Got, .int .i64 u0.Rest], .slice (some ⟨b87, 0, none⟩) 1 1, .slice ao102 (srepS ([3] : List Int) 32).length cap103, .tuple #[.agg #[.int .i64 (((hstepS u0 (srepS ([3] : List Int) 32)).1).Sent), .int .i64 (((hstepS u0 (srepS ([3] : List Int) 32)).1).Got), .int .i64 (((hstepS u0 (srepS ([3] : List Int) 32)).1).Rest)], .int .i64 ((hstepS u0 (srepS ([3] : List Int) 32)).2.1), .int .i64 ((hstepS u0 (srepS ([3] : List Int) 32)).2.2)], ud40, ud41, ud42, .row b30 [.int .i64 (((hstepS u0 u1).1).Sent), .int .i64 (((hstepS u0 u1).1).Got), .int .i64 (((hstepS u0 u1).1).Rest)] 28, .row b6 [.int .i64 u0.Sent, .int .i64 u0.Got, .int .i64 u0.Rest] 28, .nil, rh3, Z183, hle137.trans hzst, hF189.region (by kernel_rfl) (by kernel_rfl), hM192.perm ((pk 1 rfl).trans (((pk 1 rfl).trans ((List.Perm.refl _).cons _)).cons _)), (nt hx11), cu8, (nt hx10), (nt hx4), kf, kf, kf, kf, (nt hx5), (nt hx6), (nt hx7), rfl, rfl, (tn hx1), (fun _ => tn hx2), (fun _ => nu), kf, cr3_0, cr3_1, (nt hx9), (fun _ => hs182), (fun _ => hs186)⟩
    · -- 4: move
     obtain rfl := Option.some.inj hi
     have hx3 := hpre 3 (by kernel_rfl)
     have hx2 := hcl 3 2 (by kernel_rfl) hx3
     have hx0 := hcl 3 0 (by kernel_rfl) hx3
     have hx1 := hcl 2 1 (by kernel_rfl) hx2
     have hx4 := hSi
     have hx5 := negF hcl 5 4 (by kernel_rfl) hx4
     have hx6 := negF hcl 6 4 (by kernel_rfl) hx4
     have hx7 := negF hcl 7 4 (by kernel_rfl) hx4
     have hx9 := negF hcl 9 4 (by kernel_rfl) hx4
     have hx10 := negF hcl 10 4 (by kernel_rfl) hx4
     have hx11 := negF hcl 11 4 (by kernel_rfl) hx4
     obtain rfl := cu36 hx0
     obtain rfl := cu37 hx1
     obtain rfl := cu38 hx2
     obtain rfl := cu39 hx3
     obtain rfl := cr0_0
     obtain rfl := cr1_0
     obtain rfl := cr2_3 hx3
     refine hG (any_step ?_); clear hG G; intro A J hJ
     have hle0 := Fz.le.trans hle0 hle137
     have hzst := Fz.le.refl Z136
     have hs194 := hs3.mono hle137
     have hs195 := cf0 hx2
     have hs196 := cf1 hx3
     have hM197 := hMx.keep (List.Sublist.cons_cons _ (List.Sublist.cons_cons _ (List.Sublist.cons _ (List.Sublist.cons_cons _ (List.Sublist.slnil))))); clear hMx
     refine s1 hFx 35 (.tuple #[.agg #[.int .i64 (((hstepS u0 (srepS ([3] : List Int) 32)).1).Sent), .int .i64 (((hstepS u0 (srepS ([3] : List Int) 32)).1).Got), .int .i64 (((hstepS u0 (srepS ([3] : List Int) 32)).1).Rest)], .int .i64 ((hstepS u0 (srepS ([3] : List Int) 32)).2.1), .int .i64 ((hstepS u0 (srepS ([3] : List Int) 32)).2.2)]) ?_; intro a198 hF199; clear hFx
     refine nl (qnI (hJ _ _ ?_)); clear hJ J
     have hM200 := hM197.nilRes
     exact ⟨b87, ao102, cap103, b124, ud7, ud8, ud9, .tuple #[.agg #[.int .i64 (((hstepS u0 (srepS ([3] : List Int) 32)).1).Sent), .int .i64 (((hstepS u0 (srepS ([3] : List Int) 32)).1).Got), .int .i64 (((hstepS u0 (srepS ([3] : List Int) 32)).1).Rest)], .int .i64 ((hstepS u0 (srepS ([3] : List Int) 32)).2.1), .int .i64 ((hstepS u0 (srepS ([3] : List Int) 32)).2.2)], .agg #[.int .i64 u0.Sent, .int .i64 u0.Got, .int .i64 u0.Rest], .slice (some ⟨b87, 0, none⟩) 1 1, .slice ao102 (srepS ([3] : List Int) 32).length cap103, .tuple #[.agg #[.int .i64 (((hstepS u0 (srepS ([3] : List Int) 32)).1).Sent), .int .i64 (((hstepS u0 (srepS ([3] : List Int) 32)).1).Got), .int .i64 (((hstepS u0 (srepS ([3] : List Int) 32)).1).Rest)], .int .i64 ((hstepS u0 (srepS ([3] : List Int) 32)).2.1), .int .i64 ((hstepS u0 (srepS ([3] : List Int) 32)).2.2)], ud40, ud41, ud42, .row b30 [.int .i64 (((hstepS u0 u1).1).Sent), .int .i64 (((hstepS u0 u1).1).Got), .int .i64 (((hstepS u0 u1).1).Rest)] 28, .row b6 [.int .i64 u0.Sent, .int .i64 u0.Got, .int .i64 u0.Rest] 28, .nil, rh3, Z136, hle137, hF199.region (by kernel_rfl) (by kernel_rfl), hM200.perm ((pk 1 rfl).trans (((pk 1 rfl).trans ((List.Perm.refl _).cons _)).cons _)), (nt hx11), cu8, (nt hx10), kf, kf, kf, kf, kf, (nt hx5), (nt hx6), (nt hx7), rfl, rfl, (tn hx1), (fun _ => tn hx2), (fun _ => tn hx3), kf, cr3_0, cr3_1, (nt hx9), (fun _ => hs195), (fun _ => hs196)⟩
    · -- 5: extract
     obtain rfl := Option.some.inj hi
     have hx4 := hpre 4 (by kernel_rfl)
     have hx3 := hcl 4 3 (by kernel_rfl) hx4
     have hx2 := hcl 3 2 (by kernel_rfl) hx3
     have hx0 := hcl 3 0 (by kernel_rfl) hx3
     have hx1 := hcl 2 1 (by kernel_rfl) hx2
     have hx5 := hSi
     have hx9 := negF hcl 9 5 (by kernel_rfl) hx5
     have hx10 := negF hcl 10 5 (by kernel_rfl) hx5
     have hx11 := negF hcl 11 5 (by kernel_rfl) hx5
     obtain rfl := cu35 hx4
     obtain rfl := cu36 hx0
     obtain rfl := cu37 hx1
     obtain rfl := cu38 hx2
     obtain rfl := cu39 hx3
     obtain rfl := cr0_0
     obtain rfl := cr1_0
     obtain rfl := cr2_3 hx3
     refine hG (any_step ?_); clear hG G; intro A J hJ
     have hle0 := Fz.le.trans hle0 hle137
     have hzst := Fz.le.refl Z136
     have hs202 := hs3.mono hle137
     have hs203 := cf0 hx2
     have hs204 := cf1 hx3
     have hM205 := hMx.keep (List.Sublist.cons_cons _ (List.Sublist.cons_cons _ (List.Sublist.cons _ (List.Sublist.cons_cons _ (List.Sublist.slnil))))); clear hMx
     refine s1 hFx 40 (.agg #[.int .i64 (((hstepS u0 (srepS ([3] : List Int) 32)).1).Sent), .int .i64 (((hstepS u0 (srepS ([3] : List Int) 32)).1).Got), .int .i64 (((hstepS u0 (srepS ([3] : List Int) 32)).1).Rest)]) ?_; intro a206 hF207; clear hFx
     refine nl (qnI (hJ _ _ ?_)); clear hJ J
     have hM208 := hM205.nilRes
     exact ⟨b87, ao102, cap103, b124, ud7, ud8, ud9, .tuple #[.agg #[.int .i64 (((hstepS u0 (srepS ([3] : List Int) 32)).1).Sent), .int .i64 (((hstepS u0 (srepS ([3] : List Int) 32)).1).Got), .int .i64 (((hstepS u0 (srepS ([3] : List Int) 32)).1).Rest)], .int .i64 ((hstepS u0 (srepS ([3] : List Int) 32)).2.1), .int .i64 ((hstepS u0 (srepS ([3] : List Int) 32)).2.2)], .agg #[.int .i64 u0.Sent, .int .i64 u0.Got, .int .i64 u0.Rest], .slice (some ⟨b87, 0, none⟩) 1 1, .slice ao102 (srepS ([3] : List Int) 32).length cap103, .tuple #[.agg #[.int .i64 (((hstepS u0 (srepS ([3] : List Int) 32)).1).Sent), .int .i64 (((hstepS u0 (srepS ([3] : List Int) 32)).1).Got), .int .i64 (((hstepS u0 (srepS ([3] : List Int) 32)).1).Rest)], .int .i64 ((hstepS u0 (srepS ([3] : List Int) 32)).2.1), .int .i64 ((hstepS u0 (srepS ([3] : List Int) 32)).2.2)], .agg #[.int .i64 (((hstepS u0 (srepS ([3] : List Int) 32)).1).Sent), .int .i64 (((hstepS u0 (srepS ([3] : List Int) 32)).1).Got), .int .i64 (((hstepS u0 (srepS ([3] : List Int) 32)).1).Rest)], ud41, ud42, .row b30 [.int .i64 (((hstepS u0 u1).1).Sent), .int .i64 (((hstepS u0 u1).1).Got), .int .i64 (((hstepS u0 u1).1).Rest)] 28, .row b6 [.int .i64 u0.Sent, .int .i64 u0.Got, .int .i64 u0.Rest] 28, .nil, rh3, Z136, hle137, hF207.region (by kernel_rfl) (by kernel_rfl), hM208.perm ((pk 1 rfl).trans (((pk 1 rfl).trans ((List.Perm.refl _).cons _)).cons _)), (nt hx11), cu8, (nt hx10), kf, kf, kf, kf, kf, kf, cu41, cu42, rfl, rfl, (tn hx1), (fun _ => tn hx2), (fun _ => tn hx3), kf, cr3_0, cr3_1, (nt hx9), (fun _ => hs203), (fun _ => hs204)⟩
    · -- 6: extract
     obtain rfl := Option.some.inj hi
     have hx4 := hpre 4 (by kernel_rfl)
     have hx3 := hcl 4 3 (by kernel_rfl) hx4
     have hx2 := hcl 3 2 (by kernel_rfl) hx3
     have hx0 := hcl 3 0 (by kernel_rfl) hx3
     have hx1 := hcl 2 1 (by kernel_rfl) hx2
     have hx6 := hSi
     have hx10 := negF hcl 10 6 (by kernel_rfl) hx6
     have hx11 := negF hcl 11 6 (by kernel_rfl) hx6
     obtain rfl := cu35 hx4
     obtain rfl := cu36 hx0
     obtain rfl := cu37 hx1
     obtain rfl := cu38 hx2
     obtain rfl := cu39 hx3
     obtain rfl := cr0_0
     obtain rfl := cr1_0
     obtain rfl := cr2_3 hx3
     refine hG (any_step ?_); clear hG G; intro A J hJ
     have hle0 := Fz.le.trans hle0 hle137
     have hzst := Fz.le.refl Z136
     have hs210 := hs3.mono hle137
     have hs211 := cf0 hx2
     have hs212 := cf1 hx3
     have hM213 := hMx.keep (List.Sublist.cons_cons _ (List.Sublist.cons_cons _ (List.Sublist.cons _ (List.Sublist.cons_cons _ (List.Sublist.slnil))))); clear hMx
     refine s1 hFx 41 (.int .i64 ((hstepS u0 (srepS ([3] : List Int) 32)).2.1)) ?_; intro a214 hF215; clear hFx
     refine nl (qnI (hJ _ _ ?_)); clear hJ J
     have hM216 := hM213.nilRes
     exact ⟨b87, ao102, cap103, b124, ud7, ud8, ud9, .tuple #[.agg #[.int .i64 (((hstepS u0 (srepS ([3] : List Int) 32)).1).Sent), .int .i64 (((hstepS u0 (srepS ([3] : List Int) 32)).1).Got), .int .i64 (((hstepS u0 (srepS ([3] : List Int) 32)).1).Rest)], .int .i64 ((hstepS u0 (srepS ([3] : List Int) 32)).2.1), .int .i64 ((hstepS u0 (srepS ([3] : List Int) 32)).2.2)], .agg #[.int .i64 u0.Sent, .int .i64 u0.Got, .int .i64 u0.Rest], .slice (some ⟨b87, 0, none⟩) 1 1, .slice ao102 (srepS ([3] : List Int) 32).length cap103, .tuple #[.agg #[.int .i64 (((hstepS u0 (srepS ([3] : List Int) 32)).1).Sent), .int .i64 (((hstepS u0 (srepS ([3] : List Int) 32)).1).Got), .int .i64 (((hstepS u0 (srepS ([3] : List Int) 32)).1).Rest)], .int .i64 ((hstepS u0 (srepS ([3] : List Int) 32)).2.1), .int .i64 ((hstepS u0 (srepS ([3] : List Int) 32)).2.2)], ud40, .int .i64 ((hstepS u0 (srepS ([3] : List Int) 32)).2.1), ud42, .row b30 [.int .i64 (((hstepS u0 u1).1).Sent), .int .i64 (((hstepS u0 u1).1).Got), .int .i64 (((hstepS u0 u1).1).Rest)] 28, .row b6 [.int .i64 u0.Sent, .int .i64 u0.Got, .int .i64 u0.Rest] 28, .nil, rh3, Z136, hle137, hF215.region (by kernel_rfl) (by kernel_rfl), hM216.perm ((pk 1 rfl).trans (((pk 1 rfl).trans ((List.Perm.refl _).cons _)).cons _)), (nt hx11), cu8, (nt hx10), kf, kf, kf, kf, kf, cu40, kf, cu42, rfl, rfl, (tn hx1), (fun _ => tn hx2), (fun _ => tn hx3), kf, cr3_0, cr3_1, cr3_2, (fun _ => hs211), (fun _ => hs212)⟩
    · -- 7: extract
     obtain rfl := Option.some.inj hi
     have hx4 := hpre 4 (by kernel_rfl)
     have hx3 := hcl 4 3 (by kernel_rfl) hx4
     have hx2 := hcl 3 2 (by kernel_rfl) hx3
     have hx0 := hcl 3 0 (by kernel_rfl) hx3
     have hx1 := hcl 2 1 (by kernel_rfl) hx2
     have hx7 := hSi
     have hx11 := negF hcl 11 7 (by kernel_rfl) hx7
     obtain rfl := cu35 hx4
     obtain rfl := cu36 hx0
     obtain rfl := cu37 hx1
     obtain rfl := cu38 hx2
     obtain rfl := cu39 hx3
     obtain rfl := cr0_0
     obtain rfl := cr1_0
     obtain rfl := cr2_3 hx3
     refine hG (any_step ?_); clear hG G; intro A J hJ
     have hle0 := Fz.le.trans hle0 hle137
     have hzst := Fz.le.refl Z136
     have hs218 := hs3.mono hle137
     have hs219 := cf0 hx2
     have hs220 := cf1 hx3
     have hM221 := hMx.keep (List.Sublist.cons_cons _ (List.Sublist.cons_cons _ (List.Sublist.cons _ (List.Sublist.cons_cons _ (List.Sublist.slnil))))); clear hMx
     refine s1 hFx 42 (.int .i64 ((hstepS u0 (srepS ([3] : List Int) 32)).2.2)) ?_; intro a222 hF223; clear hFx
     refine nl (qnI (hJ _ _ ?_)); clear hJ J
     have hM224 := hM221.nilRes
     exact ⟨b87, ao102, cap103, b124, ud7, ud8, ud9, .tuple #[.agg #[.int .i64 (((hstepS u0 (srepS ([3] : List Int) 32)).1).Sent), .int .i64 (((hstepS u0 (srepS ([3] : List Int) 32)).1).Got), .int .i64 (((hstepS u0 (srepS ([3] : List Int) 32)).1).Rest)], .int .i64 ((hstepS u0 (srepS ([3] : List Int) 32)).2.1), .int .i64 ((hstepS u0 (srepS ([3] : List Int) 32)).2.2)], .agg #[.int .i64 u0.Sent, .int .i64 u0.Got, .int .i64 u0.Rest], .slice (some ⟨b87, 0, none⟩) 1 1, .slice ao102 (srepS ([3] : List Int) 32).length cap103, .tuple #[.agg #[.int .i64 (((hstepS u0 (srepS ([3] : List Int) 32)).1).Sent), .int .i64 (((hstepS u0 (srepS ([3] : List Int) 32)).1).Got), .int .i64 (((hstepS u0 (srepS ([3] : List Int) 32)).1).Rest)], .int .i64 ((hstepS u0 (srepS ([3] : List Int) 32)).2.1), .int .i64 ((hstepS u0 (srepS ([3] : List Int) 32)).2.2)], ud40, ud41, .int .i64 ((hstepS u0 (srepS ([3] : List Int) 32)).2.2), .row b30 [.int .i64 (((hstepS u0 u1).1).Sent), .int .i64 (((hstepS u0 u1).1).Got), .int .i64 (((hstepS u0 u1).1).Rest)] 28, .row b6 [.int .i64 u0.Sent, .int .i64 u0.Got, .int .i64 u0.Rest] 28, .nil, rh3, Z136, hle137, hF223.region (by kernel_rfl) (by kernel_rfl), hM224.perm ((pk 1 rfl).trans (((pk 1 rfl).trans ((List.Perm.refl _).cons _)).cons _)), (nt hx11), cu8, cu9, kf, kf, kf, kf, kf, cu40, cu41, kf, rfl, rfl, (tn hx1), (fun _ => tn hx2), (fun _ => tn hx3), kf, cr3_0, cr3_1, cr3_2, (fun _ => hs219), (fun _ => hs220)⟩
    · -- 8: alloc
     obtain rfl := Option.some.inj hi
     have hx8 := hSi
     have hx9 := negF hcl 9 8 (by kernel_rfl) hx8
     have hx10 := negF hcl 10 8 (by kernel_rfl) hx8
     have hx11 := negF hcl 11 8 (by kernel_rfl) hx8
     obtain rfl := cr0_0
     obtain rfl := cr1_0
     obtain rfl := cr3_0 hx8
     refine hG (any_step ?_); clear hG G; intro A J hJ
     have hle0 := Fz.le.trans hle0 hle137
     have hzst := Fz.le.refl Z136
     have hs226 := hs3.mono hle137
     have hM227 := hMx.keep (List.Sublist.cons_cons _ (List.Sublist.cons_cons _ (List.Sublist.cons_cons _ (List.Sublist.cons _ (List.Sublist.slnil))))); clear hMx
     refine sn hFx hM227 (fun b => .pointer (some ⟨b, 0, none⟩)) [.int .i64 0, .int .i64 0, .int .i64 0] 28 (nog rfl _) rfl (by kernel_rfl) (by kernel_rfl) ?_; intro b228 a229 wd231 hF230 hM232; clear hFx hM227
     refine nl (qnI (hJ _ _ ?_)); clear hJ J
     exact ⟨b87, ao102, cap103, b228, ud7, .pointer (some ⟨b228, 0, none⟩), ud9, ud35, ud36, ud37, ud38, ud39, ud40, ud41, ud42, .row b30 [.int .i64 (((hstepS u0 u1).1).Sent), .int .i64 (((hstepS u0 u1).1).Got), .int .i64 (((hstepS u0 u1).1).Rest)] 28, .row b6 [.int .i64 u0.Sent, .int .i64 u0.Got, .int .i64 u0.Rest] 28, rh2, .row b228 [.int .i64 0, .int .i64 0, .int .i64 0] 28, Z136, hle137, hF230.region (by kernel_rfl) (by kernel_rfl), hM232.perm ((pk 1 rfl).trans (((pk 1 rfl).trans (((pk 1 rfl).trans ((List.Perm.refl _).cons _)).cons _)).cons _)), (nt hx11), kf, (nt hx10), cu35, cu36, cu37, cu38, cu39, cu40, cu41, cu42, rfl, rfl, cr2_0, cr2_1, cr2_2, cr2_3, nu, kf2, (nt hx9), cf0, cf1⟩
    · -- 9: store
     obtain rfl := Option.some.inj hi
     have hx8 := hpre 8 (by kernel_rfl)
     have hx5 := hpre 5 (by kernel_rfl)
     have hx4 := hpre 4 (by kernel_rfl)
     have hx3 := hpre 3 (by kernel_rfl)
     have hx2 := hpre 2 (by kernel_rfl)
     have hx1 := hpre 1 (by kernel_rfl)
     have hx0 := hpre 0 (by kernel_rfl)
     have hx9 := hSi
     have hx10 := negF hcl 10 9 (by kernel_rfl) hx9
     have hx11 := negF hcl 11 9 (by kernel_rfl) hx9
     obtain rfl := cu8 hx8
     obtain rfl := cu35 hx4
     obtain rfl := cu36 hx0
     obtain rfl := cu37 hx1
     obtain rfl := cu38 hx2
     obtain rfl := cu39 hx3
     obtain rfl := cu40 hx5
     obtain rfl := cr0_0
     obtain rfl := cr1_0
     obtain rfl := cr2_3 hx3
     obtain rfl := cr3_1 hx8 hx9
     refine hG (any_step ?_); clear hG G; intro A J hJ
     have hle0 := Fz.le.trans hle0 hle137
     have hzst := Fz.le.refl Z136
     have hs234 := hs3.mono hle137
     have hs235 := cf0 hx2
     have hs236 := cf1 hx3
     have hM237 := hMx.keep (List.Sublist.cons_cons _ (List.Sublist.cons_cons _ (List.Sublist.cons _ (List.Sublist.cons_cons _ (List.Sublist.slnil))))); clear hMx
     refine sr hFx hM237 2 [.int .i64 (((hstepS u0 (srepS ([3] : List Int) 32)).1).Sent), .int .i64 (((hstepS u0 (srepS ([3] : List Int) 32)).1).Got), .int .i64 (((hstepS u0 (srepS ([3] : List Int) 32)).1).Rest)] (b := b124) (off := 0) (cs := [.int .i64 0, .int .i64 0, .int .i64 0]) (ty := 28) (u := .agg #[.int .i64 (((hstepS u0 (srepS ([3] : List Int) 32)).1).Sent), .int .i64 (((hstepS u0 (srepS ([3] : List Int) 32)).1).Got), .int .i64 (((hstepS u0 (srepS ([3] : List Int) 32)).1).Rest)]) (nog rfl _) rfl rfl (by kernel_rfl) (by kernel_rfl) (by kernel_rfl) (by kernel_rfl) (by kernel_rfl) (by kernel_rfl) (by kernel_rfl) ?_; intro wd238 hM239; clear hM237
     refine nl (qnI (hJ _ _ ?_)); clear hJ J
     have hM240 := hM239.nilRes
     exact ⟨b87, ao102, cap103, b124, ud7, .pointer (some ⟨b124, 0, none⟩), ud9, .tuple #[.agg #[.int .i64 (((hstepS u0 (srepS ([3] : List Int) 32)).1).Sent), .int .i64 (((hstepS u0 (srepS ([3] : List Int) 32)).1).Got), .int .i64 (((hstepS u0 (srepS ([3] : List Int) 32)).1).Rest)], .int .i64 ((hstepS u0 (srepS ([3] : List Int) 32)).2.1), .int .i64 ((hstepS u0 (srepS ([3] : List Int) 32)).2.2)], .agg #[.int .i64 u0.Sent, .int .i64 u0.Got, .int .i64 u0.Rest], .slice (some ⟨b87, 0, none⟩) 1 1, .slice ao102 (srepS ([3] : List Int) 32).length cap103, .tuple #[.agg #[.int .i64 (((hstepS u0 (srepS ([3] : List Int) 32)).1).Sent), .int .i64 (((hstepS u0 (srepS ([3] : List Int) 32)).1).Got), .int .i64 (((hstepS u0 (srepS ([3] : List Int) 32)).1).Rest)], .int .i64 ((hstepS u0 (srepS ([3] : List Int) 32)).2.1), .int .i64 ((hstepS u0 (srepS ([3] : List Int) 32)).2.2)], .agg #[.int .i64 (((hstepS u0 (srepS ([3] : List Int) 32)).1).Sent), .int .i64 (((hstepS u0 (srepS ([3] : List Int) 32)).1).Got), .int .i64 (((hstepS u0 (srepS ([3] : List Int) 32)).1).Rest)], ud41, ud42, .row b30 [.int .i64 (((hstepS u0 u1).1).Sent), .int .i64 (((hstepS u0 u1).1).Got), .int .i64 (((hstepS u0 u1).1).Rest)] 28, .row b6 [.int .i64 u0.Sent, .int .i64 u0.Got, .int .i64 u0.Rest] 28, .nil, .row b124 [.int .i64 (((hstepS u0 (srepS ([3] : List Int) 32)).1).Sent), .int .i64 (((hstepS u0 (srepS ([3] : List Int) 32)).1).Got), .int .i64 (((hstepS u0 (srepS ([3] : List Int) 32)).1).Rest)] 28, Z136, hle137, hFx.region (by kernel_rfl) (by kernel_rfl), hM240.perm ((pk 1 rfl).trans (((pk 1 rfl).trans ((List.Perm.refl _).cons _)).cons _)), (nt hx11), kf, (nt hx10), kf, kf, kf, kf, kf, kf, cu41, cu42, rfl, rfl, (tn hx1), (fun _ => tn hx2), (fun _ => tn hx3), kf, (tn hx8), (fun _ => nu), kf, (fun _ => hs235), (fun _ => hs236)⟩
    · -- 10: assign
     obtain rfl := Option.some.inj hi
     have hx9 := hpre 9 (by kernel_rfl)
     have hx8 := hpre 8 (by kernel_rfl)
     have hx6 := hpre 6 (by kernel_rfl)
     have hx5 := hpre 5 (by kernel_rfl)
     have hx4 := hpre 4 (by kernel_rfl)
     have hx3 := hpre 3 (by kernel_rfl)
     have hx2 := hpre 2 (by kernel_rfl)
     have hx1 := hpre 1 (by kernel_rfl)
     have hx0 := hpre 0 (by kernel_rfl)
     have hx10 := hSi
     have hx11 := negF hcl 11 10 (by kernel_rfl) hx10
     obtain rfl := cu8 hx8
     obtain rfl := cu35 hx4
     obtain rfl := cu36 hx0
     obtain rfl := cu37 hx1
     obtain rfl := cu38 hx2
     obtain rfl := cu39 hx3
     obtain rfl := cu40 hx5
     obtain rfl := cu41 hx6
     obtain rfl := cr0_0
     obtain rfl := cr1_0
     obtain rfl := cr2_3 hx3
     obtain rfl := cr3_2 hx9
     refine hG (any_step ?_); clear hG G; intro A J hJ
     have hle0 := Fz.le.trans hle0 hle137
     have hzst := Fz.le.refl Z136
     have hs242 := hs3.mono hle137
     have hs243 := cf0 hx2
     have hs244 := cf1 hx3
     have hM245 := hMx.keep (List.Sublist.cons_cons _ (List.Sublist.cons_cons _ (List.Sublist.cons _ (List.Sublist.cons_cons _ (List.Sublist.slnil))))); clear hMx
     refine s1 hFx 9 (.int .i64 ((hstepS u0 (srepS ([3] : List Int) 32)).2.1)) ?_; intro a246 hF247; clear hFx
     refine nl (qnI (hJ _ _ ?_)); clear hJ J
     have hM248 := hM245.nilRes
     exact ⟨b87, ao102, cap103, b124, ud7, .pointer (some ⟨b124, 0, none⟩), .int .i64 ((hstepS u0 (srepS ([3] : List Int) 32)).2.1), .tuple #[.agg #[.int .i64 (((hstepS u0 (srepS ([3] : List Int) 32)).1).Sent), .int .i64 (((hstepS u0 (srepS ([3] : List Int) 32)).1).Got), .int .i64 (((hstepS u0 (srepS ([3] : List Int) 32)).1).Rest)], .int .i64 ((hstepS u0 (srepS ([3] : List Int) 32)).2.1), .int .i64 ((hstepS u0 (srepS ([3] : List Int) 32)).2.2)], .agg #[.int .i64 u0.Sent, .int .i64 u0.Got, .int .i64 u0.Rest], .slice (some ⟨b87, 0, none⟩) 1 1, .slice ao102 (srepS ([3] : List Int) 32).length cap103, .tuple #[.agg #[.int .i64 (((hstepS u0 (srepS ([3] : List Int) 32)).1).Sent), .int .i64 (((hstepS u0 (srepS ([3] : List Int) 32)).1).Got), .int .i64 (((hstepS u0 (srepS ([3] : List Int) 32)).1).Rest)], .int .i64 ((hstepS u0 (srepS ([3] : List Int) 32)).2.1), .int .i64 ((hstepS u0 (srepS ([3] : List Int) 32)).2.2)], .agg #[.int .i64 (((hstepS u0 (srepS ([3] : List Int) 32)).1).Sent), .int .i64 (((hstepS u0 (srepS ([3] : List Int) 32)).1).Got), .int .i64 (((hstepS u0 (srepS ([3] : List Int) 32)).1).Rest)], .int .i64 ((hstepS u0 (srepS ([3] : List Int) 32)).2.1), ud42, .row b30 [.int .i64 (((hstepS u0 u1).1).Sent), .int .i64 (((hstepS u0 u1).1).Got), .int .i64 (((hstepS u0 u1).1).Rest)] 28, .row b6 [.int .i64 u0.Sent, .int .i64 u0.Got, .int .i64 u0.Rest] 28, .nil, .row b124 [.int .i64 (((hstepS u0 (srepS ([3] : List Int) 32)).1).Sent), .int .i64 (((hstepS u0 (srepS ([3] : List Int) 32)).1).Got), .int .i64 (((hstepS u0 (srepS ([3] : List Int) 32)).1).Rest)] 28, Z136, hle137, hF247.region (by kernel_rfl) (by kernel_rfl), hM248.perm ((pk 1 rfl).trans (((pk 1 rfl).trans ((List.Perm.refl _).cons _)).cons _)), (nt hx11), kf, kf, kf, kf, kf, kf, kf, kf, kf, cu42, rfl, rfl, (tn hx1), (fun _ => tn hx2), (fun _ => tn hx3), kf, (tn hx8), (fun _ => tn hx9), kf, (fun _ => hs243), (fun _ => hs244)⟩
    · -- 11: assign
     obtain rfl := Option.some.inj hi
     have hx10 := hpre 10 (by kernel_rfl)
     have hx9 := hpre 9 (by kernel_rfl)
     have hx8 := hpre 8 (by kernel_rfl)
     have hx7 := hpre 7 (by kernel_rfl)
     have hx6 := hpre 6 (by kernel_rfl)
     have hx5 := hpre 5 (by kernel_rfl)
     have hx4 := hpre 4 (by kernel_rfl)
     have hx3 := hpre 3 (by kernel_rfl)
     have hx2 := hpre 2 (by kernel_rfl)
     have hx1 := hpre 1 (by kernel_rfl)
     have hx0 := hpre 0 (by kernel_rfl)
     have hx11 := hSi
     obtain rfl := cu8 hx8
     obtain rfl := cu9 hx10
     obtain rfl := cu35 hx4
     obtain rfl := cu36 hx0
     obtain rfl := cu37 hx1
     obtain rfl := cu38 hx2
     obtain rfl := cu39 hx3
     obtain rfl := cu40 hx5
     obtain rfl := cu41 hx6
     obtain rfl := cu42 hx7
     obtain rfl := cr0_0
     obtain rfl := cr1_0
     obtain rfl := cr2_3 hx3
     obtain rfl := cr3_2 hx9
     refine hG (any_step ?_); clear hG G; intro A J hJ
     have hle0 := Fz.le.trans hle0 hle137
     have hzst := Fz.le.refl Z136
     have hs250 := hs3.mono hle137
     have hs251 := cf0 hx2
     have hs252 := cf1 hx3
     have hM253 := hMx.keep (List.Sublist.cons_cons _ (List.Sublist.cons_cons _ (List.Sublist.cons _ (List.Sublist.cons_cons _ (List.Sublist.slnil))))); clear hMx
     refine s1 hFx 7 (.int .i64 ((hstepS u0 (srepS ([3] : List Int) 32)).2.2)) ?_; intro a254 hF255; clear hFx
     refine nl (qnI (hJ _ _ ?_)); clear hJ J
     have hM256 := hM253.nilRes
     exact ⟨b87, ao102, cap103, b124, .int .i64 ((hstepS u0 (srepS ([3] : List Int) 32)).2.2), .pointer (some ⟨b124, 0, none⟩), .int .i64 ((hstepS u0 (srepS ([3] : List Int) 32)).2.1), .tuple #[.agg #[.int .i64 (((hstepS u0 (srepS ([3] : List Int) 32)).1).Sent), .int .i64 (((hstepS u0 (srepS ([3] : List Int) 32)).1).Got), .int .i64 (((hstepS u0 (srepS ([3] : List Int) 32)).1).Rest)], .int .i64 ((hstepS u0 (srepS ([3] : List Int) 32)).2.1), .int .i64 ((hstepS u0 (srepS ([3] : List Int) 32)).2.2)], .agg #[.int .i64 u0.Sent, .int .i64 u0.Got, .int .i64 u0.Rest], .slice (some ⟨b87, 0, none⟩) 1 1, .slice ao102 (srepS ([3] : List Int) 32).length cap103, .tuple #[.agg #[.int .i64 (((hstepS u0 (srepS ([3] : List Int) 32)).1).Sent), .int .i64 (((hstepS u0 (srepS ([3] : List Int) 32)).1).Got), .int .i64 (((hstepS u0 (srepS ([3] : List Int) 32)).1).Rest)], .int .i64 ((hstepS u0 (srepS ([3] : List Int) 32)).2.1), .int .i64 ((hstepS u0 (srepS ([3] : List Int) 32)).2.2)], .agg #[.int .i64 (((hstepS u0 (srepS ([3] : List Int) 32)).1).Sent), .int .i64 (((hstepS u0 (srepS ([3] : List Int) 32)).1).Got), .int .i64 (((hstepS u0 (srepS ([3] : List Int) 32)).1).Rest)], .int .i64 ((hstepS u0 (srepS ([3] : List Int) 32)).2.1), .int .i64 ((hstepS u0 (srepS ([3] : List Int) 32)).2.2), .row b30 [.int .i64 (((hstepS u0 u1).1).Sent), .int .i64 (((hstepS u0 u1).1).Got), .int .i64 (((hstepS u0 u1).1).Rest)] 28, .row b6 [.int .i64 u0.Sent, .int .i64 u0.Got, .int .i64 u0.Rest] 28, .nil, .row b124 [.int .i64 (((hstepS u0 (srepS ([3] : List Int) 32)).1).Sent), .int .i64 (((hstepS u0 (srepS ([3] : List Int) 32)).1).Got), .int .i64 (((hstepS u0 (srepS ([3] : List Int) 32)).1).Rest)] 28, Z136, hle137, hF255.region (by kernel_rfl) (by kernel_rfl), hM256.perm ((pk 1 rfl).trans (((pk 1 rfl).trans ((List.Perm.refl _).cons _)).cons _)), kf, kf, kf, kf, kf, kf, kf, kf, kf, kf, kf, rfl, rfl, (tn hx1), (fun _ => tn hx2), (fun _ => tn hx3), kf, (tn hx8), (fun _ => tn hx9), kf, (fun _ => hs251), (fun _ => hs252)⟩
   case hE =>
    intro S hS a258 wd259 hI; refine hid ?_; intro G hG; obtain ⟨b87, hI⟩ := hI; obtain ⟨ao102, hI⟩ := hI; obtain ⟨cap103, hI⟩ := hI; obtain ⟨b124, hI⟩ := hI; obtain ⟨ud7, hI⟩ := hI; obtain ⟨ud8, hI⟩ := hI; obtain ⟨ud9, hI⟩ := hI; obtain ⟨ud35, hI⟩ := hI; obtain ⟨ud36, hI⟩ := hI; obtain ⟨ud37, hI⟩ := hI; obtain ⟨ud38, hI⟩ := hI; obtain ⟨ud39, hI⟩ := hI; obtain ⟨ud40, hI⟩ := hI; obtain ⟨ud41, hI⟩ := hI; obtain ⟨ud42, hI⟩ := hI; obtain ⟨rh0, hI⟩ := hI; obtain ⟨rh1, hI⟩ := hI; obtain ⟨rh2, hI⟩ := hI; obtain ⟨rh3, hI⟩ := hI; obtain ⟨Z136, hI⟩ := hI; obtain ⟨hle137, hI⟩ := hI; obtain ⟨hFx, hI⟩ := hI; obtain ⟨hMx, hI⟩ := hI; obtain ⟨cu7, hI⟩ := hI; obtain ⟨cu8, hI⟩ := hI; obtain ⟨cu9, hI⟩ := hI; obtain ⟨cu35, hI⟩ := hI; obtain ⟨cu36, hI⟩ := hI; obtain ⟨cu37, hI⟩ := hI; obtain ⟨cu38, hI⟩ := hI; obtain ⟨cu39, hI⟩ := hI; obtain ⟨cu40, hI⟩ := hI; obtain ⟨cu41, hI⟩ := hI; obtain ⟨cu42, hI⟩ := hI; obtain ⟨cr0_0, hI⟩ := hI; obtain ⟨cr1_0, hI⟩ := hI; obtain ⟨cr2_0, hI⟩ := hI; obtain ⟨cr2_1, hI⟩ := hI; obtain ⟨cr2_2, hI⟩ := hI; obtain ⟨cr2_3, hI⟩ := hI; obtain ⟨cr3_0, hI⟩ := hI; obtain ⟨cr3_1, hI⟩ := hI; obtain ⟨cr3_2, hI⟩ := hI; obtain ⟨cf0, hI⟩ := hI; have cf1 := hI; clear hI; refine hG ?_; clear hG G
    obtain rfl := cu7 (hS 11 (by decide))
    obtain rfl := cu8 (hS 8 (by decide))
    obtain rfl := cu9 (hS 10 (by decide))
    obtain rfl := cu35 (hS 4 (by decide))
    obtain rfl := cu36 (hS 0 (by decide))
    obtain rfl := cu37 (hS 1 (by decide))
    obtain rfl := cu38 (hS 2 (by decide))
    obtain rfl := cu39 (hS 3 (by decide))
    obtain rfl := cu40 (hS 5 (by decide))
    obtain rfl := cu41 (hS 6 (by decide))
    obtain rfl := cu42 (hS 7 (by decide))
    obtain rfl := cr0_0
    obtain rfl := cr1_0
    obtain rfl := cr2_3 (hS 3 (by decide))
    obtain rfl := cr3_2 (hS 9 (by decide))
    have hle0 := Fz.le.trans hle0 hle137
    have hs260 := hs3.mono hle137
    have hs261 := cf0 (hS 2 (by decide))
    have hs262 := cf1 (hS 3 (by decide))
    have hMx := hMx.keep (List.Sublist.cons_cons _ (List.Sublist.cons_cons _ (List.Sublist.cons _ (List.Sublist.cons_cons _ (List.Sublist.slnil)))))
    refine thn ?_
    refine wp_seq ?_
    have hF263 : Fr 92 [] [⟨1, [], .slice ao1 u1.length cap2⟩, ⟨7, [], .int .i64 ((hstepS u0 (srepS ([3] : List Int) 32)).2.2)⟩, ⟨8, [], .pointer (some ⟨b124, 0, none⟩)⟩] a258 := hFx.region (by kernel_rfl) (by kernel_rfl); clear hFx
    refine sqH ?_; intro hQ264Q hQ264
    refine s1 hF263 43 (.int .i64 ((hstepS u0 (srepS ([3] : List Int) 32)).2.2)) ?_; intro a265 hF266; clear hF263
    refine s1 hF266 44 (.bool (((hstepS u0 (srepS ([3] : List Int) 32)).2.2) != 0)) ?_; intro a267 hF268; clear hF266
    refine nlH (hQ264 _ _ ?_); clear hQ264 hQ264Q
    refine cd hF268 (t := ((hstepS u0 (srepS ([3] : List Int) 32)).2.2) != 0) (by kernel_rfl) (fun hb269 => ?_) (fun hb269 => ?_)
    · -- yes
     have hp270 := hp135.1 hb269; clear hp135
     refine sqH ?_; intro hQ271Q hQ271
     refine s1 hF268 4 (.bool false) ?_; intro a272 hF273; clear hF268
     refine nlH (hQ271 _ _ ?_); clear hQ271 hQ271Q
     refine wp_ret ?_
     refine thr ?_
     refine rt (fn := Try.f5) (v := .bool false) hF273 (re1 hF273 (fn := Try.f5) rfl (by kernel_rfl)) ?_
     exact ⟨false, rfl, hp270, hMx.below⟩
    · -- no
     have hp274 := hp135.2 hb269; clear hp135
     refine wp_skip ?_
     refine thn ?_
     refine sqH ?_; intro hQ275Q hQ275
     refine s1 hF268 10 (.slice none 0 0) ?_; intro a276 hF277; clear hF268
     refine nlH (hQ275 _ _ ?_); clear hQ275 hQ275Q
     refine wp_seq ?_
     refine sqH ?_; intro hQ278Q hQ278
     refine s1 hF277 45 (.slice ao1 u1.length cap2) ?_; intro a279 hF280; clear hF277
     refine s1 hF280 46 (.int .i64 (u1.length : Int)) ?_; intro a281 hF282; clear hF280
     refine s1 hF282 47 (.int .i64 0) ?_; intro a283 hF284; clear hF282
     refine nlH (hQ278 _ _ ?_); clear hQ278 hQ278Q
     refine wp_block ?_
     have hF285 : Fr 92 [] [⟨8, [], .pointer (some ⟨b124, 0, none⟩)⟩, ⟨10, [], .slice none 0 0⟩, ⟨45, [], .slice ao1 u1.length cap2⟩, ⟨46, [], .int .i64 (u1.length : Int)⟩, ⟨47, [], .int .i64 0⟩] a283 := hF284.region (by kernel_rfl) (by kernel_rfl); clear hF284
     have hM287 : Mem w.heap.size [] w Z [.own (tyInt .i64) 3 none 0 ([] : List Int), .row b30 [.int .i64 (((hstepS u0 u1).1).Sent), .int .i64 (((hstepS u0 u1).1).Got), .int .i64 (((hstepS u0 u1).1).Rest)] 28, .row b6 [.int .i64 u0.Sent, .int .i64 u0.Got, .int .i64 u0.Rest] 28, .row b124 [.int .i64 (((hstepS u0 (srepS ([3] : List Int) 32)).1).Sent), .int .i64 (((hstepS u0 (srepS ([3] : List Int) 32)).1).Got), .int .i64 (((hstepS u0 (srepS ([3] : List Int) 32)).1).Rest)] 28] Z136 wd259 := hMx.addNil (tyInt .i64) 3 (by decide); clear hMx
     have hF288 : Fr 92 [] [⟨8, [], .pointer (some ⟨b124, 0, none⟩)⟩, ⟨10, [], .slice none ([] : List Int).length 0⟩, ⟨45, [], .slice ao1 u1.length cap2⟩, ⟨46, [], .int .i64 (u1.length : Int)⟩, ⟨47, [], .int .i64 0⟩] a283 := hF285.region (by kernel_rfl) (by kernel_rfl); clear hF285
     obtain ⟨inv286, mu286, hI291, hr290⟩ := hp274
     refine lp (ι := (List Int) × Int × (Option Addr) × Nat) (fun (s : (List Int) × Int × (Option Addr) × Nat) => [⟨8, [], .pointer (some ⟨b124, 0, none⟩)⟩, ⟨10, [], .slice s.2.2.1 s.1.length s.2.2.2⟩, ⟨45, [], .slice ao1 u1.length cap2⟩, ⟨46, [], .int .i64 (u1.length : Int)⟩, ⟨47, [], .int .i64 s.2.1⟩]) (fun (s : (List Int) × Int × (Option Addr) × Nat) => [.own (tyInt .i64) 3 s.2.2.1 s.2.2.2 s.1, .row b30 [.int .i64 (((hstepS u0 u1).1).Sent), .int .i64 (((hstepS u0 u1).1).Got), .int .i64 (((hstepS u0 u1).1).Rest)] 28, .row b6 [.int .i64 u0.Sent, .int .i64 u0.Got, .int .i64 u0.Rest] 28, .row b124 [.int .i64 (((hstepS u0 (srepS ([3] : List Int) 32)).1).Sent), .int .i64 (((hstepS u0 (srepS ([3] : List Int) 32)).1).Got), .int .i64 (((hstepS u0 (srepS ([3] : List Int) 32)).1).Rest)] 28]) (fun (s : (List Int) × Int × (Option Addr) × Nat) => Z136) (fun (s : (List Int) × Int × (Option Addr) × Nat) => inv286 s.1 s.2.1) (fun (s : (List Int) × Int × (Option Addr) × Nat) => mu286 s.1 s.2.1) ⟨([] : List Int), 0, none, 0⟩ hI291 (by exact hF288.region (by kernel_rfl) (by kernel_rfl)) (by exact hM287) ?_
     rintro ⟨x10, x47, aox10, capx10⟩ hI289 a293 wd294 hF295 hM296
     have hF297 : Fr 92 [] [⟨8, [], .pointer (some ⟨b124, 0, none⟩)⟩, ⟨10, [], .slice aox10 x10.length capx10⟩, ⟨45, [], .slice ao1 u1.length cap2⟩, ⟨46, [], .int .i64 (u1.length : Int)⟩, ⟨47, [], .int .i64 x47⟩] a293 := hF295; clear hF295 hF288
     have hM298 : Mem w.heap.size [] w Z [.own (tyInt .i64) 3 aox10 capx10 x10, .row b30 [.int .i64 (((hstepS u0 u1).1).Sent), .int .i64 (((hstepS u0 u1).1).Got), .int .i64 (((hstepS u0 u1).1).Rest)] 28, .row b6 [.int .i64 u0.Sent, .int .i64 u0.Got, .int .i64 u0.Rest] 28, .row b124 [.int .i64 (((hstepS u0 (srepS ([3] : List Int) 32)).1).Sent), .int .i64 (((hstepS u0 (srepS ([3] : List Int) 32)).1).Got), .int .i64 (((hstepS u0 (srepS ([3] : List Int) 32)).1).Rest)] 28] Z136 wd294 := hM296; clear hM296 hM287
     have hp299 := hr290 x10 x47 hI289
     refine sqH ?_; intro hQ300Q hQ300
     refine s1 hF297 48 (.bool (decide (x47 < (u1.length : Int)))) ?_; intro a301 hF302; clear hF297
     refine nlH (hQ300 _ _ ?_); clear hQ300 hQ300Q
     refine wp_seq ?_
     refine cd hF302 (t := decide (x47 < (u1.length : Int))) (by kernel_rfl) (fun hb303 => ?_) (fun hb303 => ?_)
     · -- yes
      have hp304 := hp299.1 hb303; clear hp299
      refine wp_skip ?_
      refine thn ?_
      refine wp_seq ?_
      refine wp_block ?_
      refine sqH ?_; intro hQ305Q hQ305
      have hc306 := hp304.1; have hp307 := hp304.2; clear hp304
      refine ix hF302 (T := (tyInt .i64)) (xs := u1) hs260 x47 hc306 (k := .i64) (e := 3) (bytes := 8) (nog rfl _) rfl (by kernel_rfl) rfl (by kernel_rfl) (by kernel_rfl) (by kernel_rfl) ?_; intro b308 off309 cs310 q311 a315 hq312 hP313 hT314 hF316; clear hF302
      have hp317 := hp307 q311 hq312; clear hp307
      obtain rfl : cs310 = ([.int .i64 q311] : List Value) := hT314
      refine z1 hF316 hM298 50 hP313 0 (.int .i64 q311) rfl ?_; intro a318 hF319; clear hF316
      refine s1 hF319 12 (.int .i64 q311) ?_; intro a320 hF321; clear hF319
      refine nlH (hQ305 _ _ ?_); clear hQ305 hQ305Q
      refine sqH ?_; intro hQ322Q hQ322
      refine s1 hF321 51 (.int .i64 q311) ?_; intro a323 hF324; clear hF321
      refine s1 hF324 52 (.bool (q311 != 6)) ?_; intro a325 hF326; clear hF324
      refine nlH (hQ322 _ _ ?_); clear hQ322 hQ322Q
      refine cd hF326 (t := q311 != 6) (by kernel_rfl) (fun hb327 => ?_) (fun hb327 => ?_)
      · -- yes
       have hp328 := hp317.1 hb327; clear hp317
       refine rgH ?_; intro hQ329Q hQ329
       refine s1 hF326 53 (.slice aox10 x10.length capx10) ?_; intro a330 hF331; clear hF326
       refine s1 hF331 54 (.int .i64 q311) ?_; intro a332 hF333; clear hF331
       refine sn hF333 hM298 (fun b => .slice (some ⟨b, 0, none⟩) 1 1) [.int .i64 q311] 3 (nog rfl _) rfl (by kernel_rfl) (by kernel_rfl) ?_; intro b334 a335 wd337 hF336 hM338; clear hF333 hM298
       have hc339 := hp328.1; have hp340 := hp328.2; clear hp328
       refine ap hF336 hM338 1 (T := (tyInt .i64)) (xs := x10) (ys := [q311]) (ao := aox10) (cap := capx10) (ao2 := (some ⟨b334, 0, none⟩)) (cap2 := 1) (t := 24) (e := 3) (bytes := 8) (nog rfl _) rfl (by kernel_rfl) rfl (by kernel_rfl) (by kernel_rfl) (by kernel_rfl) rfl (Src.row hM338 0 rfl (RepAll.one (T := (tyInt .i64)) (x := q311) rfl)) hc339 ?_; intro ao341 cap342 a346 wd343 hnil344 hF347 hM345; clear hF336 hM338
       have hM348 : Mem w.heap.size [] w Z [.row b334 [.int .i64 q311] 3, .own (tyInt .i64) 3 ao341 cap342 (x10 ++ [q311]), .row b30 [.int .i64 (((hstepS u0 u1).1).Sent), .int .i64 (((hstepS u0 u1).1).Got), .int .i64 (((hstepS u0 u1).1).Rest)] 28, .row b6 [.int .i64 u0.Sent, .int .i64 u0.Got, .int .i64 u0.Rest] 28, .row b124 [.int .i64 (((hstepS u0 (srepS ([3] : List Int) 32)).1).Sent), .int .i64 (((hstepS u0 (srepS ([3] : List Int) 32)).1).Got), .int .i64 (((hstepS u0 (srepS ([3] : List Int) 32)).1).Rest)] 28] Z136 wd343 := hM345; clear hM345
       refine s1 hF347 10 (.slice ao341 (x10 ++ [q311]).length cap342) ?_; intro a349 hF350; clear hF347
       refine nlH (hQ329 _ _ ?_); clear hQ329 hQ329Q
       refine ibn ?_
       refine thn ?_
       refine rgH ?_; intro hQ351Q hQ351
       refine s1 hF350 57 (.int .i64 (w64 (x47 + 1))) ?_; intro a352 hF353; clear hF350
       refine s1 hF353 47 (.int .i64 (w64 (x47 + 1))) ?_; intro a354 hF355; clear hF353
       refine nlH (hQ351 _ _ ?_); clear hQ351 hQ351Q
       refine rd ?_
       exact ⟨⟨x10 ++ [q311], w64 (x47 + 1), ao341, cap342⟩, hp340.1, hp340.2, (hF355.region (by kernel_rfl) (by kernel_rfl)).anyβ _ (by kernel_rfl), hM348.keep (List.Sublist.cons _ (List.Sublist.cons_cons _ (List.Sublist.cons_cons _ (List.Sublist.cons_cons _ (List.Sublist.cons_cons _ (List.Sublist.slnil))))))⟩
      · -- no
       have hp356 := hp317.2 hb327; clear hp317
       refine wp_skip ?_
       refine ibn ?_
       refine thn ?_
       refine rgH ?_; intro hQ357Q hQ357
       refine s1 hF326 57 (.int .i64 (w64 (x47 + 1))) ?_; intro a358 hF359; clear hF326
       refine s1 hF359 47 (.int .i64 (w64 (x47 + 1))) ?_; intro a360 hF361; clear hF359
       refine nlH (hQ357 _ _ ?_); clear hQ357 hQ357Q
       refine rd ?_
       exact ⟨⟨x10, w64 (x47 + 1), aox10, capx10⟩, hp356.1, hp356.2, (hF361.region (by kernel_rfl) (by kernel_rfl)).anyβ _ (by kernel_rfl), hM298.keep (List.Sublist.cons_cons _ (List.Sublist.cons_cons _ (List.Sublist.cons_cons _ (List.Sublist.cons_cons _ (List.Sublist.slnil)))))⟩
     · -- no
      have hp362 := hp299.2 hb303; clear hp299
      refine wp_exit ?_
      refine thx ?_
      refine thx ?_
      refine ibx ?_
      refine thn ?_
      refine sqH ?_; intro hQ363Q hQ363
      refine l2 hF302 hM298 59 3 0 3 [.int .i64 (((hstepS u0 (srepS ([3] : List Int) 32)).1).Sent), .int .i64 (((hstepS u0 (srepS ([3] : List Int) 32)).1).Got), .int .i64 (((hstepS u0 (srepS ([3] : List Int) 32)).1).Rest)] rfl rfl ?_; intro a364 hF365; clear hF302
      refine s1 hF365 60 (.slice aox10 x10.length capx10) ?_; intro a366 hF367; clear hF365
      obtain ⟨Z368, hle369, hM370, hs371⟩ := hM298.freeze 0 rfl
      replace hs260 := hs260.mono hle369
      replace hs261 := hs261.mono hle369
      replace hs262 := hs262.mono hle369
      replace hle0 := Fz.le.trans hle0 hle369
      have hM372 : Mem w.heap.size [] w Z [.row b30 [.int .i64 (((hstepS u0 u1).1).Sent), .int .i64 (((hstepS u0 u1).1).Got), .int .i64 (((hstepS u0 u1).1).Rest)] 28, .row b6 [.int .i64 u0.Sent, .int .i64 u0.Got, .int .i64 u0.Rest] 28, .row b124 [.int .i64 (((hstepS u0 (srepS ([3] : List Int) 32)).1).Sent), .int .i64 (((hstepS u0 (srepS ([3] : List Int) 32)).1).Got), .int .i64 (((hstepS u0 (srepS ([3] : List Int) 32)).1).Rest)] 28] Z368 wd294 := hM370; clear hM370
      refine fcl hF367 hM372 (.tuple #[.agg #[.int .i64 (((hstepS ((hstepS u0 (srepS ([3] : List Int) 32)).1) x10).1).Sent), .int .i64 (((hstepS ((hstepS u0 (srepS ([3] : List Int) 32)).1) x10).1).Got), .int .i64 (((hstepS ((hstepS u0 (srepS ([3] : List Int) 32)).1) x10).1).Rest)], .int .i64 ((hstepS ((hstepS u0 (srepS ([3] : List Int) 32)).1) x10).2.1), .int .i64 ((hstepS ((hstepS u0 (srepS ([3] : List Int) 32)).1) x10).2.2)]) 8 #[.agg #[.int .i64 (((hstepS u0 (srepS ([3] : List Int) 32)).1).Sent), .int .i64 (((hstepS u0 (srepS ([3] : List Int) 32)).1).Got), .int .i64 (((hstepS u0 (srepS ([3] : List Int) 32)).1).Rest)], .slice aox10 x10.length capx10] (nog rfl _) rfl (by kernel_rfl) (fun _ => by kernel_rfl) (hstep_fun ((hstepS u0 (srepS ([3] : List Int) 32)).1) x10 aox10 capx10 _ _ hs371 hM372.fz) ?_; intro a373 wd375 hF374 hM376; clear hF367 hM372
      refine s1 hF374 58 (.tuple #[.agg #[.int .i64 (((hstepS ((hstepS u0 (srepS ([3] : List Int) 32)).1) x10).1).Sent), .int .i64 (((hstepS ((hstepS u0 (srepS ([3] : List Int) 32)).1) x10).1).Got), .int .i64 (((hstepS ((hstepS u0 (srepS ([3] : List Int) 32)).1) x10).1).Rest)], .int .i64 ((hstepS ((hstepS u0 (srepS ([3] : List Int) 32)).1) x10).2.1), .int .i64 ((hstepS ((hstepS u0 (srepS ([3] : List Int) 32)).1) x10).2.2)]) ?_; intro a377 hF378; clear hF374
      refine s1 hF378 62 (.agg #[.int .i64 (((hstepS ((hstepS u0 (srepS ([3] : List Int) 32)).1) x10).1).Sent), .int .i64 (((hstepS ((hstepS u0 (srepS ([3] : List Int) 32)).1) x10).1).Got), .int .i64 (((hstepS ((hstepS u0 (srepS ([3] : List Int) 32)).1) x10).1).Rest)]) ?_; intro a379 hF380; clear hF378
      refine s1 hF380 63 (.int .i64 ((hstepS ((hstepS u0 (srepS ([3] : List Int) 32)).1) x10).2.1)) ?_; intro a381 hF382; clear hF380
      refine s1 hF382 64 (.int .i64 ((hstepS ((hstepS u0 (srepS ([3] : List Int) 32)).1) x10).2.2)) ?_; intro a383 hF384; clear hF382
      refine sn hF384 hM376 (fun b => .pointer (some ⟨b, 0, none⟩)) [.int .i64 0, .int .i64 0, .int .i64 0] 28 (nog rfl _) rfl (by kernel_rfl) (by kernel_rfl) ?_; intro b385 a386 wd388 hF387 hM389; clear hF384 hM376
      refine sr hF387 hM389 0 [.int .i64 (((hstepS ((hstepS u0 (srepS ([3] : List Int) 32)).1) x10).1).Sent), .int .i64 (((hstepS ((hstepS u0 (srepS ([3] : List Int) 32)).1) x10).1).Got), .int .i64 (((hstepS ((hstepS u0 (srepS ([3] : List Int) 32)).1) x10).1).Rest)] (b := b385) (off := 0) (cs := [.int .i64 0, .int .i64 0, .int .i64 0]) (ty := 28) (u := .agg #[.int .i64 (((hstepS ((hstepS u0 (srepS ([3] : List Int) 32)).1) x10).1).Sent), .int .i64 (((hstepS ((hstepS u0 (srepS ([3] : List Int) 32)).1) x10).1).Got), .int .i64 (((hstepS ((hstepS u0 (srepS ([3] : List Int) 32)).1) x10).1).Rest)]) (nog rfl _) rfl rfl (by kernel_rfl) (by kernel_rfl) (by kernel_rfl) (by kernel_rfl) (by kernel_rfl) (by kernel_rfl) (by kernel_rfl) ?_; intro wd390 hM391; clear hM389
      refine s1 hF387 14 (.int .i64 ((hstepS ((hstepS u0 (srepS ([3] : List Int) 32)).1) x10).2.1)) ?_; intro a392 hF393; clear hF387
      refine s1 hF393 7 (.int .i64 ((hstepS ((hstepS u0 (srepS ([3] : List Int) 32)).1) x10).2.2)) ?_; intro a394 hF395; clear hF393
      have hM396 : Mem w.heap.size [] w Z [.row b385 [.int .i64 (((hstepS ((hstepS u0 (srepS ([3] : List Int) 32)).1) x10).1).Sent), .int .i64 (((hstepS ((hstepS u0 (srepS ([3] : List Int) 32)).1) x10).1).Got), .int .i64 (((hstepS ((hstepS u0 (srepS ([3] : List Int) 32)).1) x10).1).Rest)] 28, .row b30 [.int .i64 (((hstepS u0 u1).1).Sent), .int .i64 (((hstepS u0 u1).1).Got), .int .i64 (((hstepS u0 u1).1).Rest)] 28, .row b6 [.int .i64 u0.Sent, .int .i64 u0.Got, .int .i64 u0.Rest] 28, .row b124 [.int .i64 (((hstepS u0 (srepS ([3] : List Int) 32)).1).Sent), .int .i64 (((hstepS u0 (srepS ([3] : List Int) 32)).1).Got), .int .i64 (((hstepS u0 (srepS ([3] : List Int) 32)).1).Rest)] 28] Z368 wd390 := hM391; clear hM391
      refine nlH (hQ363 _ _ ?_); clear hQ363 hQ363Q
      have hF397 : Fr 92 [] [⟨7, [], .int .i64 ((hstepS ((hstepS u0 (srepS ([3] : List Int) 32)).1) x10).2.2)⟩, ⟨8, [], .pointer (some ⟨b124, 0, none⟩)⟩, ⟨13, [], .pointer (some ⟨b385, 0, none⟩)⟩] a394 := hF395.region (by kernel_rfl) (by kernel_rfl); clear hF395
      have hcd5_0 := hp362.1; have hp454 := hp362.2; clear hp362
      refine wp_seq (any_invE mixed [[], [], [], [2], [3], [1, 4], [0, 5], [6], [7], [7], [7], [], [0, 1, 2, 3, 4, 5, 6, 7, 8, 11], [0, 1, 2, 3, 4, 5, 6, 7, 8, 9, 11, 12], [0, 1, 2, 3, 4, 5, 6, 7, 8, 9, 10, 11, 12, 13]] 15 (fun S a w1 => ∃ (b400 : Nat) (ao421 : Option Addr) (cap422 : Nat) (b443 : Nat) (ud15 : Value) (ud16 : Value) (ud17 : Value) (ud65 : Value) (ud66 : Value) (ud67 : Value) (ud68 : Value) (ud69 : Value) (ud70 : Value) (ud71 : Value) (ud72 : Value) (ud73 : Value) (ud74 : Value) (ud75 : Value) (rh0 : Res) (rh1 : Res) (rh2 : Res) (rh3 : Res) (rh4 : Res) (rh5 : Res) (Z455 : Fz), Fz.le Z368 Z455 ∧ Fr 92 [] [⟨7, [], .int .i64 ((hstepS ((hstepS u0 (srepS ([3] : List Int) 32)).1) x10).2.2)⟩, ⟨8, [], .pointer (some ⟨b124, 0, none⟩)⟩, ⟨13, [], .pointer (some ⟨b385, 0, none⟩)⟩, ⟨15, [], ud15⟩, ⟨16, [], ud16⟩, ⟨17, [], ud17⟩, ⟨65, [], ud65⟩, ⟨66, [], ud66⟩, ⟨67, [], ud67⟩, ⟨68, [], ud68⟩, ⟨69, [], ud69⟩, ⟨70, [], ud70⟩, ⟨71, [], ud71⟩, ⟨72, [], ud72⟩, ⟨73, [], ud73⟩, ⟨74, [], ud74⟩, ⟨75, [], ud75⟩] a ∧ Mem w.heap.size [] w Z [rh0, rh1, rh2, rh3, rh4, rh5] Z455 w1 ∧ (S 11 = true → ud15 = .pointer (some ⟨b443, 0, none⟩)) ∧ (S 13 = true → ud16 = .int .i64 ((hstepS ((hstepS u0 (srepS ([3] : List Int) 32)).1) (srepS ([6] : List Int) (w64 (128 - (((hstepS u0 (srepS ([3] : List Int) 32)).1).Rest))))).2.1)) ∧ (S 14 = true → ud17 = .int .i64 ((hstepS ((hstepS u0 (srepS ([3] : List Int) 32)).1) (srepS ([6] : List Int) (w64 (128 - (((hstepS u0 (srepS ([3] : List Int) 32)).1).Rest))))).2.2)) ∧ (S 7 = true → ud65 = .tuple #[.agg #[.int .i64 (((hstepS ((hstepS u0 (srepS ([3] : List Int) 32)).1) (srepS ([6] : List Int) (w64 (128 - (((hstepS u0 (srepS ([3] : List Int) 32)).1).Rest))))).1).Sent), .int .i64 (((hstepS ((hstepS u0 (srepS ([3] : List Int) 32)).1) (srepS ([6] : List Int) (w64 (128 - (((hstepS u0 (srepS ([3] : List Int) 32)).1).Rest))))).1).Got), .int .i64 (((hstepS ((hstepS u0 (srepS ([3] : List Int) 32)).1) (srepS ([6] : List Int) (w64 (128 - (((hstepS u0 (srepS ([3] : List Int) 32)).1).Rest))))).1).Rest)], .int .i64 ((hstepS ((hstepS u0 (srepS ([3] : List Int) 32)).1) (srepS ([6] : List Int) (w64 (128 - (((hstepS u0 (srepS ([3] : List Int) 32)).1).Rest))))).2.1), .int .i64 ((hstepS ((hstepS u0 (srepS ([3] : List Int) 32)).1) (srepS ([6] : List Int) (w64 (128 - (((hstepS u0 (srepS ([3] : List Int) 32)).1).Rest))))).2.2)]) ∧ (S 0 = true → ud66 = .agg #[.int .i64 (((hstepS u0 (srepS ([3] : List Int) 32)).1).Sent), .int .i64 (((hstepS u0 (srepS ([3] : List Int) 32)).1).Got), .int .i64 (((hstepS u0 (srepS ([3] : List Int) 32)).1).Rest)]) ∧ (S 1 = true → ud67 = .slice (some ⟨b400, 0, none⟩) 1 1) ∧ (S 2 = true → ud68 = .pointer (some ⟨b124, 2, none⟩)) ∧ (S 3 = true → ud69 = .int .i64 (((hstepS u0 (srepS ([3] : List Int) 32)).1).Rest)) ∧ (S 4 = true → ud70 = .int .i64 (w64 (128 - (((hstepS u0 (srepS ([3] : List Int) 32)).1).Rest)))) ∧ (S 5 = true → ud71 = .slice ao421 (srepS ([6] : List Int) (w64 (128 - (((hstepS u0 (srepS ([3] : List Int) 32)).1).Rest)))).length cap422) ∧ (S 6 = true → ud72 = .tuple #[.agg #[.int .i64 (((hstepS ((hstepS u0 (srepS ([3] : List Int) 32)).1) (srepS ([6] : List Int) (w64 (128 - (((hstepS u0 (srepS ([3] : List Int) 32)).1).Rest))))).1).Sent), .int .i64 (((hstepS ((hstepS u0 (srepS ([3] : List Int) 32)).1) (srepS ([6] : List Int) (w64 (128 - (((hstepS u0 (srepS ([3] : List Int) 32)).1).Rest))))).1).Got), .int .i64 (((hstepS ((hstepS u0 (srepS ([3] : List Int) 32)).1) (srepS ([6] : List Int) (w64 (128 - (((hstepS u0 (srepS ([3] : List Int) 32)).1).Rest))))).1).Rest)], .int .i64 ((hstepS ((hstepS u0 (srepS ([3] : List Int) 32)).1) (srepS ([6] : List Int) (w64 (128 - (((hstepS u0 (srepS ([3] : List Int) 32)).1).Rest))))).2.1), .int .i64 ((hstepS ((hstepS u0 (srepS ([3] : List Int) 32)).1) (srepS ([6] : List Int) (w64 (128 - (((hstepS u0 (srepS ([3] : List Int) 32)).1).Rest))))).2.2)]) ∧ (S 8 = true → ud73 = .agg #[.int .i64 (((hstepS ((hstepS u0 (srepS ([3] : List Int) 32)).1) (srepS ([6] : List Int) (w64 (128 - (((hstepS u0 (srepS ([3] : List Int) 32)).1).Rest))))).1).Sent), .int .i64 (((hstepS ((hstepS u0 (srepS ([3] : List Int) 32)).1) (srepS ([6] : List Int) (w64 (128 - (((hstepS u0 (srepS ([3] : List Int) 32)).1).Rest))))).1).Got), .int .i64 (((hstepS ((hstepS u0 (srepS ([3] : List Int) 32)).1) (srepS ([6] : List Int) (w64 (128 - (((hstepS u0 (srepS ([3] : List Int) 32)).1).Rest))))).1).Rest)]) ∧ (S 9 = true → ud74 = .int .i64 ((hstepS ((hstepS u0 (srepS ([3] : List Int) 32)).1) (srepS ([6] : List Int) (w64 (128 - (((hstepS u0 (srepS ([3] : List Int) 32)).1).Rest))))).2.1)) ∧ (S 10 = true → ud75 = .int .i64 ((hstepS ((hstepS u0 (srepS ([3] : List Int) 32)).1) (srepS ([6] : List Int) (w64 (128 - (((hstepS u0 (srepS ([3] : List Int) 32)).1).Rest))))).2.2)) ∧ (rh0 = .row b385 [.int .i64 (((hstepS ((hstepS u0 (srepS ([3] : List Int) 32)).1) x10).1).Sent), .int .i64 (((hstepS ((hstepS u0 (srepS ([3] : List Int) 32)).1) x10).1).Got), .int .i64 (((hstepS ((hstepS u0 (srepS ([3] : List Int) 32)).1) x10).1).Rest)] 28) ∧ (rh1 = .row b30 [.int .i64 (((hstepS u0 u1).1).Sent), .int .i64 (((hstepS u0 u1).1).Got), .int .i64 (((hstepS u0 u1).1).Rest)] 28) ∧ (rh2 = .row b6 [.int .i64 u0.Sent, .int .i64 u0.Got, .int .i64 u0.Rest] 28) ∧ (rh3 = .row b124 [.int .i64 (((hstepS u0 (srepS ([3] : List Int) 32)).1).Sent), .int .i64 (((hstepS u0 (srepS ([3] : List Int) 32)).1).Got), .int .i64 (((hstepS u0 (srepS ([3] : List Int) 32)).1).Rest)] 28) ∧ (S 1 = false → rh4 = .nil) ∧ (S 1 = true → S 5 = false → rh4 = .row b400 [.int .i64 6] 3) ∧ (S 5 = true → S 6 = false → rh4 = .own (tyInt .i64) 3 ao421 cap422 (srepS ([6] : List Int) (w64 (128 - (((hstepS u0 (srepS ([3] : List Int) 32)).1).Rest))))) ∧ (S 6 = true → rh4 = .nil) ∧ (S 11 = false → rh5 = .nil) ∧ (S 11 = true → S 12 = false → rh5 = .row b443 [.int .i64 0, .int .i64 0, .int .i64 0] 28) ∧ (S 12 = true → rh5 = .row b443 [.int .i64 (((hstepS ((hstepS u0 (srepS ([3] : List Int) 32)).1) (srepS ([6] : List Int) (w64 (128 - (((hstepS u0 (srepS ([3] : List Int) 32)).1).Rest))))).1).Sent), .int .i64 (((hstepS ((hstepS u0 (srepS ([3] : List Int) 32)).1) (srepS ([6] : List Int) (w64 (128 - (((hstepS u0 (srepS ([3] : List Int) 32)).1).Rest))))).1).Got), .int .i64 (((hstepS ((hstepS u0 (srepS ([3] : List Int) 32)).1) (srepS ([6] : List Int) (w64 (128 - (((hstepS u0 (srepS ([3] : List Int) 32)).1).Rest))))).1).Rest)] 28) ∧ (S 5 = true → SlR (tyInt .i64) Z455 (some ⟨b400, 0, none⟩) 1 ([6] : List Int)) ∧ (S 6 = true → SlR (tyInt .i64) Z455 ao421 cap422 (srepS ([6] : List Int) (w64 (128 - (((hstepS u0 (srepS ([3] : List Int) 32)).1).Rest)))))) ?h0 ?hs ?hE)
      case h0 =>
       have hF457 := hF397.any 15
       have hF458 := hF457.any 16
       have hF459 := hF458.any 17
       have hF460 := hF459.any 65
       have hF461 := hF460.any 66
       have hF462 := hF461.any 67
       have hF463 := hF462.any 68
       have hF464 := hF463.any 69
       have hF465 := hF464.any 70
       have hF466 := hF465.any 71
       have hF467 := hF466.any 72
       have hF468 := hF467.any 73
       have hF469 := hF468.any 74
       have hF470 := hF469.any 75
       have hM471 := hM396.nilRes
       have hM472 := hM471.nilRes
       have hM473 := (hM472.perm ((pk 2 rfl).trans (((pk 2 rfl).trans (((pk 2 rfl).trans (((pk 2 rfl).trans (((pk 1 rfl).trans ((List.Perm.refl _).cons _)).cons _)).cons _)).cons _)).cons _))).drew
       exact ⟨0, none, 0, 0, a394.tmps.getD 15 undef, a394.tmps.getD 16 undef, a394.tmps.getD 17 undef, a394.tmps.getD 65 undef, a394.tmps.getD 66 undef, a394.tmps.getD 67 undef, a394.tmps.getD 68 undef, a394.tmps.getD 69 undef, a394.tmps.getD 70 undef, a394.tmps.getD 71 undef, a394.tmps.getD 72 undef, a394.tmps.getD 73 undef, a394.tmps.getD 74 undef, a394.tmps.getD 75 undef, .row b385 [.int .i64 (((hstepS ((hstepS u0 (srepS ([3] : List Int) 32)).1) x10).1).Sent), .int .i64 (((hstepS ((hstepS u0 (srepS ([3] : List Int) 32)).1) x10).1).Got), .int .i64 (((hstepS ((hstepS u0 (srepS ([3] : List Int) 32)).1) x10).1).Rest)] 28, .row b30 [.int .i64 (((hstepS u0 u1).1).Sent), .int .i64 (((hstepS u0 u1).1).Got), .int .i64 (((hstepS u0 u1).1).Rest)] 28, .row b6 [.int .i64 u0.Sent, .int .i64 u0.Got, .int .i64 u0.Rest] 28, .row b124 [.int .i64 (((hstepS u0 (srepS ([3] : List Int) 32)).1).Sent), .int .i64 (((hstepS u0 (srepS ([3] : List Int) 32)).1).Got), .int .i64 (((hstepS u0 (srepS ([3] : List Int) 32)).1).Rest)] 28, .nil, .nil, Z368, Fz.le.refl _, hF470.region (by kernel_rfl) (by kernel_rfl), hM473, ff, ff, ff, ff, ff, ff, ff, ff, ff, ff, ff, ff, ff, ff, rfl, rfl, rfl, rfl, kf, ff, ff, ff, kf, ff, ff, ff, ff⟩
      case hs =>
       intro S hcl i o hil hi hSi hpre a w1 hI; refine hid ?_; intro G hG; obtain ⟨b400, hI⟩ := hI; obtain ⟨ao421, hI⟩ := hI; obtain ⟨cap422, hI⟩ := hI; obtain ⟨b443, hI⟩ := hI; obtain ⟨ud15, hI⟩ := hI; obtain ⟨ud16, hI⟩ := hI; obtain ⟨ud17, hI⟩ := hI; obtain ⟨ud65, hI⟩ := hI; obtain ⟨ud66, hI⟩ := hI; obtain ⟨ud67, hI⟩ := hI; obtain ⟨ud68, hI⟩ := hI; obtain ⟨ud69, hI⟩ := hI; obtain ⟨ud70, hI⟩ := hI; obtain ⟨ud71, hI⟩ := hI; obtain ⟨ud72, hI⟩ := hI; obtain ⟨ud73, hI⟩ := hI; obtain ⟨ud74, hI⟩ := hI; obtain ⟨ud75, hI⟩ := hI; obtain ⟨rh0, hI⟩ := hI; obtain ⟨rh1, hI⟩ := hI; obtain ⟨rh2, hI⟩ := hI; obtain ⟨rh3, hI⟩ := hI; obtain ⟨rh4, hI⟩ := hI; obtain ⟨rh5, hI⟩ := hI; obtain ⟨Z455, hI⟩ := hI; obtain ⟨hle456, hI⟩ := hI; obtain ⟨hFx, hI⟩ := hI; obtain ⟨hMx, hI⟩ := hI; obtain ⟨cu15, hI⟩ := hI; obtain ⟨cu16, hI⟩ := hI; obtain ⟨cu17, hI⟩ := hI; obtain ⟨cu65, hI⟩ := hI; obtain ⟨cu66, hI⟩ := hI; obtain ⟨cu67, hI⟩ := hI; obtain ⟨cu68, hI⟩ := hI; obtain ⟨cu69, hI⟩ := hI; obtain ⟨cu70, hI⟩ := hI; obtain ⟨cu71, hI⟩ := hI; obtain ⟨cu72, hI⟩ := hI; obtain ⟨cu73, hI⟩ := hI; obtain ⟨cu74, hI⟩ := hI; obtain ⟨cu75, hI⟩ := hI; obtain ⟨cr0_0, hI⟩ := hI; obtain ⟨cr1_0, hI⟩ := hI; obtain ⟨cr2_0, hI⟩ := hI; obtain ⟨cr3_0, hI⟩ := hI; obtain ⟨cr4_0, hI⟩ := hI; obtain ⟨cr4_1, hI⟩ := hI; obtain ⟨cr4_2, hI⟩ := hI; obtain ⟨cr4_3, hI⟩ := hI; obtain ⟨cr5_0, hI⟩ := hI; obtain ⟨cr5_1, hI⟩ := hI; obtain ⟨cr5_2, hI⟩ := hI; obtain ⟨cf0, hI⟩ := hI; have cf1 := hI; clear hI
       have hcase : i = 0 ∨ i = 1 ∨ i = 2 ∨ i = 3 ∨ i = 4 ∨ i = 5 ∨ i = 6 ∨ i = 7 ∨ i = 8 ∨ i = 9 ∨ i = 10 ∨ i = 11 ∨ i = 12 ∨ i = 13 ∨ i = 14 := by clear hi; omega
       rcases hcase with rfl | rfl | rfl | rfl | rfl | rfl | rfl | rfl | rfl | rfl | rfl | rfl | rfl | rfl | rfl
       · -- 0: load
        obtain rfl := Option.some.inj hi
        have hx0 := hSi
        have hx6 := negF hcl 6 0 (by kernel_rfl) hx0
        have hx7 := negF hcl 7 6 (by kernel_rfl) hx6
        have hx8 := negF hcl 8 7 (by kernel_rfl) hx7
        have hx9 := negF hcl 9 7 (by kernel_rfl) hx7
        have hx10 := negF hcl 10 7 (by kernel_rfl) hx7
        have hx12 := negF hcl 12 0 (by kernel_rfl) hx0
        have hx13 := negF hcl 13 0 (by kernel_rfl) hx0
        have hx14 := negF hcl 14 0 (by kernel_rfl) hx0
        obtain rfl := cr0_0
        obtain rfl := cr1_0
        obtain rfl := cr2_0
        obtain rfl := cr3_0
        refine hG (any_step ?_); clear hG G; intro A J hJ
        have hle0 := Fz.le.trans hle0 hle456
        have hzst := Fz.le.refl Z455
        have hs474 := hs260.mono hle456
        have hs475 := hs261.mono hle456
        have hs476 := hs262.mono hle456
        have hs477 := hs371.mono hle456
        refine l2 hFx hMx 66 3 0 3 [.int .i64 (((hstepS u0 (srepS ([3] : List Int) 32)).1).Sent), .int .i64 (((hstepS u0 (srepS ([3] : List Int) 32)).1).Got), .int .i64 (((hstepS u0 (srepS ([3] : List Int) 32)).1).Rest)] rfl rfl ?_; intro a478 hF479; clear hFx
        refine nl (qnI (hJ _ _ ?_)); clear hJ J
        exact ⟨b400, ao421, cap422, b443, ud15, ud16, ud17, ud65, .agg #[.int .i64 (((hstepS u0 (srepS ([3] : List Int) 32)).1).Sent), .int .i64 (((hstepS u0 (srepS ([3] : List Int) 32)).1).Got), .int .i64 (((hstepS u0 (srepS ([3] : List Int) 32)).1).Rest)], ud67, ud68, ud69, ud70, ud71, ud72, ud73, ud74, ud75, .row b385 [.int .i64 (((hstepS ((hstepS u0 (srepS ([3] : List Int) 32)).1) x10).1).Sent), .int .i64 (((hstepS ((hstepS u0 (srepS ([3] : List Int) 32)).1) x10).1).Got), .int .i64 (((hstepS ((hstepS u0 (srepS ([3] : List Int) 32)).1) x10).1).Rest)] 28, .row b30 [.int .i64 (((hstepS u0 u1).1).Sent), .int .i64 (((hstepS u0 u1).1).Got), .int .i64 (((hstepS u0 u1).1).Rest)] 28, .row b6 [.int .i64 u0.Sent, .int .i64 u0.Got, .int .i64 u0.Rest] 28, .row b124 [.int .i64 (((hstepS u0 (srepS ([3] : List Int) 32)).1).Sent), .int .i64 (((hstepS u0 (srepS ([3] : List Int) 32)).1).Got), .int .i64 (((hstepS u0 (srepS ([3] : List Int) 32)).1).Rest)] 28, rh4, rh5, Z455, hle456, hF479.region (by kernel_rfl) (by kernel_rfl), hMx.perm (List.Perm.refl _), cu15, (nt hx13), (nt hx14), (nt hx7), kf, cu67, cu68, cu69, cu70, cu71, (nt hx6), (nt hx8), (nt hx9), (nt hx10), rfl, rfl, rfl, rfl, cr4_0, cr4_1, cr4_2, (nt hx6), cr5_0, cr5_1, (nt hx12), cf0, (nt hx6)⟩
       · -- 1: buildSlice
        obtain rfl := Option.some.inj hi
        have hx1 := hSi
        have hx5 := negF hcl 5 1 (by kernel_rfl) hx1
        have hx6 := negF hcl 6 5 (by kernel_rfl) hx5
        have hx7 := negF hcl 7 6 (by kernel_rfl) hx6
        have hx8 := negF hcl 8 7 (by kernel_rfl) hx7
        have hx9 := negF hcl 9 7 (by kernel_rfl) hx7
        have hx10 := negF hcl 10 7 (by kernel_rfl) hx7
        have hx12 := negF hcl 12 1 (by kernel_rfl) hx1
        have hx13 := negF hcl 13 1 (by kernel_rfl) hx1
        have hx14 := negF hcl 14 1 (by kernel_rfl) hx1
        obtain rfl := cr0_0
        obtain rfl := cr1_0
        obtain rfl := cr2_0
        obtain rfl := cr3_0
        obtain rfl := cr4_0 hx1
        refine hG (any_step ?_); clear hG G; intro A J hJ
        have hle0 := Fz.le.trans hle0 hle456
        have hzst := Fz.le.refl Z455
        have hs481 := hs260.mono hle456
        have hs482 := hs261.mono hle456
        have hs483 := hs262.mono hle456
        have hs484 := hs371.mono hle456
        have hM485 := hMx.keep (List.Sublist.cons_cons _ (List.Sublist.cons_cons _ (List.Sublist.cons_cons _ (List.Sublist.cons_cons _ (List.Sublist.cons _ (List.Sublist.cons_cons _ (List.Sublist.slnil))))))); clear hMx
        refine sn hFx hM485 (fun b => .slice (some ⟨b, 0, none⟩) 1 1) [.int .i64 6] 3 (nog rfl _) rfl (by kernel_rfl) (by kernel_rfl) ?_; intro b486 a487 wd489 hF488 hM490; clear hFx hM485
        refine nl (qnI (hJ _ _ ?_)); clear hJ J
        exact ⟨b486, ao421, cap422, b443, ud15, ud16, ud17, ud65, ud66, .slice (some ⟨b486, 0, none⟩) 1 1, ud68, ud69, ud70, ud71, ud72, ud73, ud74, ud75, .row b385 [.int .i64 (((hstepS ((hstepS u0 (srepS ([3] : List Int) 32)).1) x10).1).Sent), .int .i64 (((hstepS ((hstepS u0 (srepS ([3] : List Int) 32)).1) x10).1).Got), .int .i64 (((hstepS ((hstepS u0 (srepS ([3] : List Int) 32)).1) x10).1).Rest)] 28, .row b30 [.int .i64 (((hstepS u0 u1).1).Sent), .int .i64 (((hstepS u0 u1).1).Got), .int .i64 (((hstepS u0 u1).1).Rest)] 28, .row b6 [.int .i64 u0.Sent, .int .i64 u0.Got, .int .i64 u0.Rest] 28, .row b124 [.int .i64 (((hstepS u0 (srepS ([3] : List Int) 32)).1).Sent), .int .i64 (((hstepS u0 (srepS ([3] : List Int) 32)).1).Got), .int .i64 (((hstepS u0 (srepS ([3] : List Int) 32)).1).Rest)] 28, .row b486 [.int .i64 6] 3, rh5, Z455, hle456, hF488.region (by kernel_rfl) (by kernel_rfl), hM490.perm ((pk 1 rfl).trans (((pk 1 rfl).trans (((pk 1 rfl).trans (((pk 1 rfl).trans ((List.Perm.refl _).cons _)).cons _)).cons _)).cons _)), cu15, (nt hx13), (nt hx14), (nt hx7), cu66, kf, cu68, cu69, cu70, (nt hx5), (nt hx6), (nt hx8), (nt hx9), (nt hx10), rfl, rfl, rfl, rfl, nu, kf2, (fun h _ => nt hx5 h), (nt hx6), cr5_0, cr5_1, (nt hx12), (nt hx5), (nt hx6)⟩
       · -- 2: fieldAddr
        obtain rfl := Option.some.inj hi
        have hx2 := hSi
        have hx3 := negF hcl 3 2 (by kernel_rfl) hx2
        have hx4 := negF hcl 4 3 (by kernel_rfl) hx3
        have hx5 := negF hcl 5 4 (by kernel_rfl) hx4
        have hx6 := negF hcl 6 5 (by kernel_rfl) hx5
        have hx7 := negF hcl 7 6 (by kernel_rfl) hx6
        have hx8 := negF hcl 8 7 (by kernel_rfl) hx7
        have hx9 := negF hcl 9 7 (by kernel_rfl) hx7
        have hx10 := negF hcl 10 7 (by kernel_rfl) hx7
        have hx12 := negF hcl 12 2 (by kernel_rfl) hx2
        have hx13 := negF hcl 13 2 (by kernel_rfl) hx2
        have hx14 := negF hcl 14 2 (by kernel_rfl) hx2
        obtain rfl := cr0_0
        obtain rfl := cr1_0
        obtain rfl := cr2_0
        obtain rfl := cr3_0
        refine hG (any_step ?_); clear hG G; intro A J hJ
        have hle0 := Fz.le.trans hle0 hle456
        have hzst := Fz.le.refl Z455
        have hs492 := hs260.mono hle456
        have hs493 := hs261.mono hle456
        have hs494 := hs262.mono hle456
        have hs495 := hs371.mono hle456
        refine s1 hFx 68 (.pointer (some ⟨b124, 2, none⟩)) ?_; intro a496 hF497; clear hFx
        refine nl (qnI (hJ _ _ ?_)); clear hJ J
        exact ⟨b400, ao421, cap422, b443, ud15, ud16, ud17, ud65, ud66, ud67, .pointer (some ⟨b124, 2, none⟩), ud69, ud70, ud71, ud72, ud73, ud74, ud75, .row b385 [.int .i64 (((hstepS ((hstepS u0 (srepS ([3] : List Int) 32)).1) x10).1).Sent), .int .i64 (((hstepS ((hstepS u0 (srepS ([3] : List Int) 32)).1) x10).1).Got), .int .i64 (((hstepS ((hstepS u0 (srepS ([3] : List Int) 32)).1) x10).1).Rest)] 28, .row b30 [.int .i64 (((hstepS u0 u1).1).Sent), .int .i64 (((hstepS u0 u1).1).Got), .int .i64 (((hstepS u0 u1).1).Rest)] 28, .row b6 [.int .i64 u0.Sent, .int .i64 u0.Got, .int .i64 u0.Rest] 28, .row b124 [.int .i64 (((hstepS u0 (srepS ([3] : List Int) 32)).1).Sent), .int .i64 (((hstepS u0 (srepS ([3] : List Int) 32)).1).Got), .int .i64 (((hstepS u0 (srepS ([3] : List Int) 32)).1).Rest)] 28, rh4, rh5, Z455, hle456, hF497.region (by kernel_rfl) (by kernel_rfl), hMx.perm (List.Perm.refl _), cu15, (nt hx13), (nt hx14), (nt hx7), cu66, cu67, kf, (nt hx3), (nt hx4), (nt hx5), (nt hx6), (nt hx8), (nt hx9), (nt hx10), rfl, rfl, rfl, rfl, cr4_0, cr4_1, (fun h _ => nt hx5 h), (nt hx6), cr5_0, cr5_1, (nt hx12), (nt hx5), (nt hx6)⟩
       · -- 3: load
        obtain rfl := Option.some.inj hi
        have hx2 := hpre 2 (by kernel_rfl)
        have hx3 := hSi
        have hx4 := negF hcl 4 3 (by kernel_rfl) hx3
        have hx5 := negF hcl 5 4 (by kernel_rfl) hx4
        have hx6 := negF hcl 6 5 (by kernel_rfl) hx5
        have hx7 := negF hcl 7 6 (by kernel_rfl) hx6
        have hx8 := negF hcl 8 7 (by kernel_rfl) hx7
        have hx9 := negF hcl 9 7 (by kernel_rfl) hx7
        have hx10 := negF hcl 10 7 (by kernel_rfl) hx7
        have hx12 := negF hcl 12 3 (by kernel_rfl) hx3
        have hx13 := negF hcl 13 3 (by kernel_rfl) hx3
        have hx14 := negF hcl 14 3 (by kernel_rfl) hx3
        obtain rfl := cu68 hx2
        obtain rfl := cr0_0
        obtain rfl := cr1_0
        obtain rfl := cr2_0
        obtain rfl := cr3_0
        refine hG (any_step ?_); clear hG G; intro A J hJ
        have hle0 := Fz.le.trans hle0 hle456
        have hzst := Fz.le.refl Z455
        have hs499 := hs260.mono hle456
        have hs500 := hs261.mono hle456
        have hs501 := hs262.mono hle456
        have hs502 := hs371.mono hle456
        refine l1 hFx hMx 69 3 2 (.int .i64 (((hstepS u0 (srepS ([3] : List Int) 32)).1).Rest)) rfl rfl ?_; intro a503 hF504; clear hFx
        refine nl (qnI (hJ _ _ ?_)); clear hJ J
        exact ⟨b400, ao421, cap422, b443, ud15, ud16, ud17, ud65, ud66, ud67, .pointer (some ⟨b124, 2, none⟩), .int .i64 (((hstepS u0 (srepS ([3] : List Int) 32)).1).Rest), ud70, ud71, ud72, ud73, ud74, ud75, .row b385 [.int .i64 (((hstepS ((hstepS u0 (srepS ([3] : List Int) 32)).1) x10).1).Sent), .int .i64 (((hstepS ((hstepS u0 (srepS ([3] : List Int) 32)).1) x10).1).Got), .int .i64 (((hstepS ((hstepS u0 (srepS ([3] : List Int) 32)).1) x10).1).Rest)] 28, .row b30 [.int .i64 (((hstepS u0 u1).1).Sent), .int .i64 (((hstepS u0 u1).1).Got), .int .i64 (((hstepS u0 u1).1).Rest)] 28, .row b6 [.int .i64 u0.Sent, .int .i64 u0.Got, .int .i64 u0.Rest] 28, .row b124 [.int .i64 (((hstepS u0 (srepS ([3] : List Int) 32)).1).Sent), .int .i64 (((hstepS u0 (srepS ([3] : List Int) 32)).1).Got), .int .i64 (((hstepS u0 (srepS ([3] : List Int) 32)).1).Rest)] 28, rh4, rh5, Z455, hle456, hF504.region (by kernel_rfl) (by kernel_rfl), hMx.perm (List.Perm.refl _), cu15, (nt hx13), (nt hx14), (nt hx7), cu66, cu67, kf, kf, (nt hx4), (nt hx5), (nt hx6), (nt hx8), (nt hx9), (nt hx10), rfl, rfl, rfl, rfl, cr4_0, cr4_1, (fun h _ => nt hx5 h), (nt hx6), cr5_0, cr5_1, (nt hx12), (nt hx5), (nt hx6)⟩
       · -- 4: binOp
        obtain rfl := Option.some.inj hi
        have hx3 := hpre 3 (by kernel_rfl)
        have hx2 := hcl 3 2 (by kernel_rfl) hx3
        have hx4 := hSi
        have hx5 := negF hcl 5 4 (by kernel_rfl) hx4
        have hx6 := negF hcl 6 5 (by kernel_rfl) hx5
        have hx7 := negF hcl 7 6 (by kernel_rfl) hx6
        have hx8 := negF hcl 8 7 (by kernel_rfl) hx7
        have hx9 := negF hcl 9 7 (by kernel_rfl) hx7
        have hx10 := negF hcl 10 7 (by kernel_rfl) hx7
        have hx12 := negF hcl 12 4 (by kernel_rfl) hx4
        have hx13 := negF hcl 13 4 (by kernel_rfl) hx4
        have hx14 := negF hcl 14 4 (by kernel_rfl) hx4
        obtain rfl := cu68 hx2
        obtain rfl := cu69 hx3
        obtain rfl := cr0_0
        obtain rfl := cr1_0
        obtain rfl := cr2_0
        obtain rfl := cr3_0
        refine hG (any_step ?_); clear hG G; intro A J hJ
        have hle0 := Fz.le.trans hle0 hle456
        have hzst := Fz.le.refl Z455
        have hs506 := hs260.mono hle456
        have hs507 := hs261.mono hle456
        have hs508 := hs262.mono hle456
        have hs509 := hs371.mono hle456
        refine s1 hFx 70 (.int .i64 (w64 (128 - (((hstepS u0 (srepS ([3] : List Int) 32)).1).Rest)))) ?_; intro a510 hF511; clear hFx
        refine nl (qnI (hJ _ _ ?_)); clear hJ J
        exact ⟨b400, ao421, cap422, b443, ud15, ud16, ud17, ud65, ud66, ud67, .pointer (some ⟨b124, 2, none⟩), .int .i64 (((hstepS u0 (srepS ([3] : List Int) 32)).1).Rest), .int .i64 (w64 (128 - (((hstepS u0 (srepS ([3] : List Int) 32)).1).Rest))), ud71, ud72, ud73, ud74, ud75, .row b385 [.int .i64 (((hstepS ((hstepS u0 (srepS ([3] : List Int) 32)).1) x10).1).Sent), .int .i64 (((hstepS ((hstepS u0 (srepS ([3] : List Int) 32)).1) x10).1).Got), .int .i64 (((hstepS ((hstepS u0 (srepS ([3] : List Int) 32)).1) x10).1).Rest)] 28, .row b30 [.int .i64 (((hstepS u0 u1).1).Sent), .int .i64 (((hstepS u0 u1).1).Got), .int .i64 (((hstepS u0 u1).1).Rest)] 28, .row b6 [.int .i64 u0.Sent, .int .i64 u0.Got, .int .i64 u0.Rest] 28, .row b124 [.int .i64 (((hstepS u0 (srepS ([3] : List Int) 32)).1).Sent), .int .i64 (((hstepS u0 (srepS ([3] : List Int) 32)).1).Got), .int .i64 (((hstepS u0 (srepS ([3] : List Int) 32)).1).Rest)] 28, rh4, rh5, Z455, hle456, hF511.region (by kernel_rfl) (by kernel_rfl), hMx.perm (List.Perm.refl _), cu15, (nt hx13), (nt hx14), (nt hx7), cu66, cu67, kf, kf, kf, (nt hx5), (nt hx6), (nt hx8), (nt hx9), (nt hx10), rfl, rfl, rfl, rfl, cr4_0, cr4_1, (fun h _ => nt hx5 h), (nt hx6), cr5_0, cr5_1, (nt hx12), (nt hx5), (nt hx6)⟩
       · -- 5: call
        obtain rfl := Option.some.inj hi
        have hx4 := hpre 4 (by kernel_rfl)
        have hx1 := hpre 1 (by kernel_rfl)
        have hx3 := hcl 4 3 (by kernel_rfl) hx4
        have hx2 := hcl 3 2 (by kernel_rfl) hx3
        have hx5 := hSi
        have hx6 := negF hcl 6 5 (by kernel_rfl) hx5
        have hx7 := negF hcl 7 6 (by kernel_rfl) hx6
        have hx8 := negF hcl 8 7 (by kernel_rfl) hx7
        have hx9 := negF hcl 9 7 (by kernel_rfl) hx7
        have hx10 := negF hcl 10 7 (by kernel_rfl) hx7
        have hx12 := negF hcl 12 5 (by kernel_rfl) hx5
        have hx13 := negF hcl 13 5 (by kernel_rfl) hx5
        have hx14 := negF hcl 14 5 (by kernel_rfl) hx5
        obtain rfl := cu67 hx1
        obtain rfl := cu68 hx2
        obtain rfl := cu69 hx3
        obtain rfl := cu70 hx4
        obtain rfl := cr0_0
        obtain rfl := cr1_0
        obtain rfl := cr2_0
        obtain rfl := cr3_0
        obtain rfl := cr4_1 hx1 hx5
        refine hG (any_step ?_); clear hG G; intro A J hJ
        have hle0 := Fz.le.trans hle0 hle456
        have hzst := Fz.le.refl Z455
        have hs513 := hs260.mono hle456
        have hs514 := hs261.mono hle456
        have hs515 := hs262.mono hle456
        have hs516 := hs371.mono hle456
        have hM517 : Mem w.heap.size [] w Z [.row b385 [.int .i64 (((hstepS ((hstepS u0 (srepS ([3] : List Int) 32)).1) x10).1).Sent), .int .i64 (((hstepS ((hstepS u0 (srepS ([3] : List Int) 32)).1) x10).1).Got), .int .i64 (((hstepS ((hstepS u0 (srepS ([3] : List Int) 32)).1) x10).1).Rest)] 28, .row b30 [.int .i64 (((hstepS u0 u1).1).Sent), .int .i64 (((hstepS u0 u1).1).Got), .int .i64 (((hstepS u0 u1).1).Rest)] 28, .row b6 [.int .i64 u0.Sent, .int .i64 u0.Got, .int .i64 u0.Rest] 28, .row b124 [.int .i64 (((hstepS u0 (srepS ([3] : List Int) 32)).1).Sent), .int .i64 (((hstepS u0 (srepS ([3] : List Int) 32)).1).Got), .int .i64 (((hstepS u0 (srepS ([3] : List Int) 32)).1).Rest)] 28, .own (tyInt .i64) 3 (some ⟨b400, 0, none⟩) 1 ([6] : List Int), rh5] Z455 w1 := hMx.rowOwn (T := (tyInt .i64)) (xs := ([6] : List Int)) 4 rfl (by decide) (by decide) (RepAll.one (T := (tyInt .i64)) (x := 6) rfl); clear hMx
        obtain ⟨Z518, hle519, hM520, hs521⟩ := hM517.freeze 4 rfl
        replace hzst := hzst.mono hle519
        replace hs513 := hs513.mono hle519
        replace hs514 := hs514.mono hle519
        replace hs515 := hs515.mono hle519
        replace hs516 := hs516.mono hle519
        replace hle0 := Fz.le.trans hle0 hle519
        have hM522 : Mem w.heap.size [] w Z [.row b385 [.int .i64 (((hstepS ((hstepS u0 (srepS ([3] : List Int) 32)).1) x10).1).Sent), .int .i64 (((hstepS ((hstepS u0 (srepS ([3] : List Int) 32)).1) x10).1).Got), .int .i64 (((hstepS ((hstepS u0 (srepS ([3] : List Int) 32)).1) x10).1).Rest)] 28, .row b30 [.int .i64 (((hstepS u0 u1).1).Sent), .int .i64 (((hstepS u0 u1).1).Got), .int .i64 (((hstepS u0 u1).1).Rest)] 28, .row b6 [.int .i64 u0.Sent, .int .i64 u0.Got, .int .i64 u0.Rest] 28, .row b124 [.int .i64 (((hstepS u0 (srepS ([3] : List Int) 32)).1).Sent), .int .i64 (((hstepS u0 (srepS ([3] : List Int) 32)).1).Got), .int .i64 (((hstepS u0 (srepS ([3] : List Int) 32)).1).Rest)] 28, rh5] Z518 w1 := hM520; clear hM520
        refine cl hFx 15 #[.slice (some ⟨b400, 0, none⟩) ([6] : List Int).length 1, .int .i64 (w64 (128 - (((hstepS u0 (srepS ([3] : List Int) 32)).1).Rest)))] (nog rfl _) rfl (by kernel_rfl) (by kernel_rfl) ?_
        refine (srep_fun ([6] : List Int) (w64 (128 - (((hstepS u0 (srepS ([3] : List Int) 32)).1).Rest))) hcd5_0 (some ⟨b400, 0, none⟩) 1 _ _ hs521 hM522.fz).mono ?_; rintro _ wd523 ⟨ao527, cap528, Z529, rfl, hm⟩; refine ⟨_, rfl, ?_⟩; intro a524 hF525; have hM526 := hM522.callZ hm; have hle530 := hm.ext.le; clear hm hM522 hFx
        replace hzst := hzst.mono hle530
        replace hs513 := hs513.mono hle530
        replace hs514 := hs514.mono hle530
        replace hs515 := hs515.mono hle530
        replace hs516 := hs516.mono hle530
        replace hs521 := hs521.mono hle530
        replace hle0 := Fz.le.trans hle0 hle530
        have hM531 : Mem w.heap.size [] w Z [.own (tyInt .i64) 3 ao527 cap528 (srepS ([6] : List Int) (w64 (128 - (((hstepS u0 (srepS ([3] : List Int) 32)).1).Rest)))), .row b385 [.int .i64 (((hstepS ((hstepS u0 (srepS ([3] : List Int) 32)).1) x10).1).Sent), .int .i64 (((hstepS ((hstepS u0 (srepS ([3] : List Int) 32)).1) x10).1).Got), .int .i64 (((hstepS ((hstepS u0 (srepS ([3] : List Int) 32)).1) x10).1).Rest)] 28, .row b30 [.int .i64 (((hstepS u0 u1).1).Sent), .int .i64 (((hstepS u0 u1).1).Got), .int .i64 (((hstepS u0 u1).1).Rest)] 28, .row b6 [.int .i64 u0.Sent, .int .i64 u0.Got, .int .i64 u0.Rest] 28, .row b124 [.int .i64 (((hstepS u0 (srepS ([3] : List Int) 32)).1).Sent), .int .i64 (((hstepS u0 (srepS ([3] : List Int) 32)).1).Got), .int .i64 (((hstepS u0 (srepS ([3] : List Int) 32)).1).Rest)] 28, rh5] Z529 wd523 := hM526; clear hM526
        refine nl (qnI (hJ _ _ ?_)); clear hJ J
        exact ⟨b400, ao527, cap528, b443, ud15, ud16, ud17, ud65, ud66, .slice (some ⟨b400, 0, none⟩) 1 1, .pointer (some ⟨b124, 2, none⟩), .int .i64 (((hstepS u0 (srepS ([3] : List Int) 32)).1).Rest), .int .i64 (w64 (128 - (((hstepS u0 (srepS ([3] : List Int) 32)).1).Rest))), .slice ao527 (srepS ([6] : List Int) (w64 (128 - (((hstepS u0 (srepS ([3] : List Int) 32)).1).Rest)))).length cap528, ud72, ud73, ud74, ud75, .row b385 [.int .i64 (((hstepS ((hstepS u0 (srepS ([3] : List Int) 32)).1) x10).1).Sent), .int .i64 (((hstepS ((hstepS u0 (srepS ([3] : List Int) 32)).1) x10).1).Got), .int .i64 (((hstepS ((hstepS u0 (srepS ([3] : List Int) 32)).1) x10).1).Rest)] 28, .row b30 [.int .i64 (((hstepS u0 u1).1).Sent), .int .i64 (((hstepS u0 u1).1).Got), .int .i64 (((hstepS u0 u1).1).Rest)] 28, .row b6 [.int .i64 u0.Sent, .int .i64 u0.Got, .int .i64 u0.Rest] 28, .row b124 [.int .i64 (((hstepS u0 (srepS ([3] : List Int) 32)).1).Sent), .int .i64 (((hstepS u0 (srepS ([3] : List Int) 32)).1).Got), .int .i64 (((hstepS u0 (srepS ([3] : List Int) 32)).1).Rest)] 28, .own (tyInt .i64) 3 ao527 cap528 (srepS ([6] : List Int) (w64 (128 - (((hstepS u0 (srepS ([3] : List Int) 32)).1).Rest)))), rh5, Z529, hle456.trans hzst, hF525.region (by kernel_rfl) (by kernel_rfl), hM531.perm ((pk 1 rfl).trans (((pk 1 rfl).trans (((pk 1 rfl).trans (((pk 1 rfl).trans ((List.Perm.refl _).cons _)).cons _)).cons _)).cons _)), cu15, (nt hx13), (nt hx14), (nt hx7), cu66, kf, kf, kf, kf, kf, (nt hx6), (nt hx8), (nt hx9), (nt hx10), rfl, rfl, rfl, rfl, (tn hx1), (fun _ => nu), kf2, (nt hx6), cr5_0, cr5_1, (nt hx12), (fun _ => hs521), (nt hx6)⟩
       · -- 6: call
        obtain rfl := Option.some.inj hi
        have hx5 := hpre 5 (by kernel_rfl)
        have hx0 := hpre 0 (by kernel_rfl)
        have hx4 := hcl 5 4 (by kernel_rfl) hx5
        have hx1 := hcl 5 1 (by kernel_rfl) hx5
        have hx3 := hcl 4 3 (by kernel_rfl) hx4
        have hx2 := hcl 3 2 (by kernel_rfl) hx3
        have hx6 := hSi
        have hx7 := negF hcl 7 6 (by kernel_rfl) hx6
        have hx8 := negF hcl 8 7 (by kernel_rfl) hx7
        have hx9 := negF hcl 9 7 (by kernel_rfl) hx7
        have hx10 := negF hcl 10 7 (by kernel_rfl) hx7
        have hx12 := negF hcl 12 6 (by kernel_rfl) hx6
        have hx13 := negF hcl 13 6 (by kernel_rfl) hx6
        have hx14 := negF hcl 14 6 (by kernel_rfl) hx6
        obtain rfl := cu66 hx0
        obtain rfl := cu67 hx1
        obtain rfl := cu68 hx2
        obtain rfl := cu69 hx3
        obtain rfl := cu70 hx4
        obtain rfl := cu71 hx5
        obtain rfl := cr0_0
        obtain rfl := cr1_0
        obtain rfl := cr2_0
        obtain rfl := cr3_0
        obtain rfl := cr4_2 hx5 hx6
        refine hG (any_step ?_); clear hG G; intro A J hJ
        have hle0 := Fz.le.trans hle0 hle456
        have hzst := Fz.le.refl Z455
        have hs533 := hs260.mono hle456
        have hs534 := hs261.mono hle456
        have hs535 := hs262.mono hle456
        have hs536 := hs371.mono hle456
        have hs537 := cf0 hx5
        obtain ⟨Z538, hle539, hM540, hs541⟩ := hMx.freeze 4 rfl
        replace hzst := hzst.mono hle539
        replace hs533 := hs533.mono hle539
        replace hs534 := hs534.mono hle539
        replace hs535 := hs535.mono hle539
        replace hs536 := hs536.mono hle539
        replace hs537 := hs537.mono hle539
        replace hle0 := Fz.le.trans hle0 hle539
        have hM542 : Mem w.heap.size [] w Z [.row b385 [.int .i64 (((hstepS ((hstepS u0 (srepS ([3] : List Int) 32)).1) x10).1).Sent), .int .i64 (((hstepS ((hstepS u0 (srepS ([3] : List Int) 32)).1) x10).1).Got), .int .i64 (((hstepS ((hstepS u0 (srepS ([3] : List Int) 32)).1) x10).1).Rest)] 28, .row b30 [.int .i64 (((hstepS u0 u1).1).Sent), .int .i64 (((hstepS u0 u1).1).Got), .int .i64 (((hstepS u0 u1).1).Rest)] 28, .row b6 [.int .i64 u0.Sent, .int .i64 u0.Got, .int .i64 u0.Rest] 28, .row b124 [.int .i64 (((hstepS u0 (srepS ([3] : List Int) 32)).1).Sent), .int .i64 (((hstepS u0 (srepS ([3] : List Int) 32)).1).Got), .int .i64 (((hstepS u0 (srepS ([3] : List Int) 32)).1).Rest)] 28, rh5] Z538 w1 := hM540; clear hM540
        refine fcl hFx hM542 (.tuple #[.agg #[.int .i64 (((hstepS ((hstepS u0 (srepS ([3] : List Int) 32)).1) (srepS ([6] : List Int) (w64 (128 - (((hstepS u0 (srepS ([3] : List Int) 32)).1).Rest))))).1).Sent), .int .i64 (((hstepS ((hstepS u0 (srepS ([3] : List Int) 32)).1) (srepS ([6] : List Int) (w64 (128 - (((hstepS u0 (srepS ([3] : List Int) 32)).1).Rest))))).1).Got), .int .i64 (((hstepS ((hstepS u0 (srepS ([3] : List Int) 32)).1) (srepS ([6] : List Int) (w64 (128 - (((hstepS u0 (srepS ([3] : List Int) 32)).1).Rest))))).1).Rest)], .int .i64 ((hstepS ((hstepS u0 (srepS ([3] : List Int) 32)).1) (srepS ([6] : List Int) (w64 (128 - (((hstepS u0 (srepS ([3] : List Int) 32)).1).Rest))))).2.1), .int .i64 ((hstepS ((hstepS u0 (srepS ([3] : List Int) 32)).1) (srepS ([6] : List Int) (w64 (128 - (((hstepS u0 (srepS ([3] : List Int) 32)).1).Rest))))).2.2)]) 8 #[.agg #[.int .i64 (((hstepS u0 (srepS ([3] : List Int) 32)).1).Sent), .int .i64 (((hstepS u0 (srepS ([3] : List Int) 32)).1).Got), .int .i64 (((hstepS u0 (srepS ([3] : List Int) 32)).1).Rest)], .slice ao421 (srepS ([6] : List Int) (w64 (128 - (((hstepS u0 (srepS ([3] : List Int) 32)).1).Rest)))).length cap422] (nog rfl _) rfl (by kernel_rfl) (fun _ => by kernel_rfl) (hstep_fun ((hstepS u0 (srepS ([3] : List Int) 32)).1) (srepS ([6] : List Int) (w64 (128 - (((hstepS u0 (srepS ([3] : List Int) 32)).1).Rest)))) ao421 cap422 _ _ hs541 hM542.fz) ?_; intro a543 wd545 hF544 hM546; clear hFx hM542
        refine nl (qnI (hJ _ _ ?_)); clear hJ J
        have hM547 := hM546.nilRes
        exact ⟨b400, ao421, cap422, b443, ud15, ud16, ud17, ud65, .agg #[.int .i64 (((hstepS u0 (srepS ([3] : List Int) 32)).1).Sent), .int .i64 (((hstepS u0 (srepS ([3] : List Int) 32)).1).Got), .int .i64 (((hstepS u0 (srepS ([3] : List Int) 32)).1).Rest)], .slice (some ⟨b400, 0, none⟩) 1 1, .pointer (some ⟨b124, 2, none⟩), .int .i64 (((hstepS u0 (srepS ([3] : List Int) 32)).1).Rest), .int .i64 (w64 (128 - (((hstepS u0 (srepS ([3] : List Int) 32)).1).Rest))), .slice ao421 (srepS ([6] : List Int) (w64 (128 - (((hstepS u0 (srepS ([3] : List Int) 32)).1).Rest)))).length cap422, .tuple #[.agg #[.int .i64 (((hstepS ((hstepS u0 (srepS ([3] : List Int) 32)).1) (srepS ([6] : List Int) (w64 (128 - (((hstepS u0 (srepS ([3] : List Int) 32)).1).Rest))))).1).Sent), .int .i64 (((hstepS ((hstepS u0 (srepS ([3] : List Int) 32)).1) (srepS ([6] : List Int) (w64 (128 - (((hstepS u0 (srepS ([3] : List Int) 32)).1).Rest))))).1).Got), .int .i64 (((hstepS ((hstepS u0 (srepS ([3] : List Int) 32)).1) (srepS ([6] : List Int) (w64 (128 - (((hstepS u0 (srepS ([3] : List Int) 32)).1).Rest))))).1).Rest)], .int .i64 ((hstepS ((hstepS u0 (srepS ([3] : List Int) 32)).1) (srepS ([6] : List Int) (w64 (128 - (((hstepS u0 (srepS ([3] : List Int) 32)).1).Rest))))).2.1), .int .i64 ((hstepS ((hstepS u0 (srepS ([3] : List Int) 32)).1) (srepS ([6] : List Int) (w64 (128 - (((hstepS u0 (srepS ([3] : List Int) 32)).1).Rest))))).2.2)], ud73, ud74, ud75, .row b385 [.int .i64 (((hstepS ((hstepS u0 (srepS ([3] : List Int) 32)).1) x10).1).Sent), .int .i64 (((hstepS ((hstepS u0 (srepS ([3] : List Int) 32)).1) x10).1).Got), .int .i64 (((hstepS ((hstepS u0 (srepS ([3] : List Int) 32)).1) x10).1).Rest)] 28, .row b30 [.int .i64 (((hstepS u0 u1).1).Sent), .int .i64 (((hstepS u0 u1).1).Got), .int .i64 (((hstepS u0 u1).1).Rest)] 28, .row b6 [.int .i64 u0.Sent, .int .i64 u0.Got, .int .i64 u0.Rest] 28, .row b124 [.int .i64 (((hstepS u0 (srepS ([3] : List Int) 32)).1).Sent), .int .i64 (((hstepS u0 (srepS ([3] : List Int) 32)).1).Got), .int .i64 (((hstepS u0 (srepS ([3] : List Int) 32)).1).Rest)] 28, .nil, rh5, Z538, hle456.trans hzst, hF544.region (by kernel_rfl) (by kernel_rfl), hM547.perm ((pk 1 rfl).trans (((pk 1 rfl).trans (((pk 1 rfl).trans (((pk 1 rfl).trans ((List.Perm.refl _).cons _)).cons _)).cons _)).cons _)), cu15, (nt hx13), (nt hx14), (nt hx7), kf, kf, kf, kf, kf, kf, kf, (nt hx8), (nt hx9), (nt hx10), rfl, rfl, rfl, rfl, (tn hx1), (fun _ => tn hx5), (fun _ => nu), kf, cr5_0, cr5_1, (nt hx12), (fun _ => hs537), (fun _ => hs541)⟩
       · -- 7: move
        obtain rfl := Option.some.inj hi
        have hx6 := hpre 6 (by kernel_rfl)
        have hx5 := hcl 6 5 (by kernel_rfl) hx6
        have hx0 := hcl 6 0 (by kernel_rfl) hx6
        have hx4 := hcl 5 4 (by kernel_rfl) hx5
        have hx1 := hcl 5 1 (by kernel_rfl) hx5
        have hx3 := hcl 4 3 (by kernel_rfl) hx4
        have hx2 := hcl 3 2 (by kernel_rfl) hx3
        have hx7 := hSi
        have hx8 := negF hcl 8 7 (by kernel_rfl) hx7
        have hx9 := negF hcl 9 7 (by kernel_rfl) hx7
        have hx10 := negF hcl 10 7 (by kernel_rfl) hx7
        have hx12 := negF hcl 12 7 (by kernel_rfl) hx7
        have hx13 := negF hcl 13 7 (by kernel_rfl) hx7
        have hx14 := negF hcl 14 7 (by kernel_rfl) hx7
        obtain rfl := cu66 hx0
        obtain rfl := cu67 hx1
        obtain rfl := cu68 hx2
        obtain rfl := cu69 hx3
        obtain rfl := cu70 hx4
        obtain rfl := cu71 hx5
        obtain rfl := cu72 hx6
        obtain rfl := cr0_0
        obtain rfl := cr1_0
        obtain rfl := cr2_0
        obtain rfl := cr3_0
        obtain rfl := cr4_3 hx6
        refine hG (any_step ?_); clear hG G; intro A J hJ
        have hle0 := Fz.le.trans hle0 hle456
        have hzst := Fz.le.refl Z455
        have hs549 := hs260.mono hle456
        have hs550 := hs261.mono hle456
        have hs551 := hs262.mono hle456
        have hs552 := hs371.mono hle456
        have hs553 := cf0 hx5
        have hs554 := cf1 hx6
        have hM555 := hMx.keep (List.Sublist.cons_cons _ (List.Sublist.cons_cons _ (List.Sublist.cons_cons _ (List.Sublist.cons_cons _ (List.Sublist.cons _ (List.Sublist.cons_cons _ (List.Sublist.slnil))))))); clear hMx
        refine s1 hFx 65 (.tuple #[.agg #[.int .i64 (((hstepS ((hstepS u0 (srepS ([3] : List Int) 32)).1) (srepS ([6] : List Int) (w64 (128 - (((hstepS u0 (srepS ([3] : List Int) 32)).1).Rest))))).1).Sent), .int .i64 (((hstepS ((hstepS u0 (srepS ([3] : List Int) 32)).1) (srepS ([6] : List Int) (w64 (128 - (((hstepS u0 (srepS ([3] : List Int) 32)).1).Rest))))).1).Got), .int .i64 (((hstepS ((hstepS u0 (srepS ([3] : List Int) 32)).1) (srepS ([6] : List Int) (w64 (128 - (((hstepS u0 (srepS ([3] : List Int) 32)).1).Rest))))).1).Rest)], .int .i64 ((hstepS ((hstepS u0 (srepS ([3] : List Int) 32)).1) (srepS ([6] : List Int) (w64 (128 - (((hstepS u0 (srepS ([3] : List Int) 32)).1).Rest))))).2.1), .int .i64 ((hstepS ((hstepS u0 (srepS ([3] : List Int) 32)).1) (srepS ([6] : List Int) (w64 (128 - (((hstepS u0 (srepS ([3] : List Int) 32)).1).Rest))))).2.2)]) ?_; intro a556 hF557; clear hFx
        refine nl (qnI (hJ _ _ ?_)); clear hJ J
        have hM558 := hM555.nilRes
        exact ⟨b400, ao421, cap422, b443, ud15, ud16, ud17, .tuple #[.agg #[.int .i64 (((hstepS ((hstepS u0 (srepS ([3] : List Int) 32)).1) (srepS ([6] : List Int) (w64 (128 - (((hstepS u0 (srepS ([3] : List Int) 32)).1).Rest))))).1).Sent), .int .i64 (((hstepS ((hstepS u0 (srepS ([3] : List Int) 32)).1) (srepS ([6] : List Int) (w64 (128 - (((hstepS u0 (srepS ([3] : List Int) 32)).1).Rest))))).1).Got), .int .i64 (((hstepS ((hstepS u0 (srepS ([3] : List Int) 32)).1) (srepS ([6] : List Int) (w64 (128 - (((hstepS u0 (srepS ([3] : List Int) 32)).1).Rest))))).1).Rest)], .int .i64 ((hstepS ((hstepS u0 (srepS ([3] : List Int) 32)).1) (srepS ([6] : List Int) (w64 (128 - (((hstepS u0 (srepS ([3] : List Int) 32)).1).Rest))))).2.1), .int .i64 ((hstepS ((hstepS u0 (srepS ([3] : List Int) 32)).1) (srepS ([6] : List Int) (w64 (128 - (((hstepS u0 (srepS ([3] : List Int) 32)).1).Rest))))).2.2)], .agg #[.int .i64 (((hstepS u0 (srepS ([3] : List Int) 32)).1).Sent), .int .i64 (((hstepS u0 (srepS ([3] : List Int) 32)).1).Got), .int .i64 (((hstepS u0 (srepS ([3] : List Int) 32)).1).Rest)], .slice (some ⟨b400, 0, none⟩) 1 1, .pointer (some ⟨b124, 2, none⟩), .int .i64 (((hstepS u0 (srepS ([3] : List Int) 32)).1).Rest), .int .i64 (w64 (128 - (((hstepS u0 (srepS ([3] : List Int) 32)).1).Rest))), .slice ao421 (srepS ([6] : List Int) (w64 (128 - (((hstepS u0 (srepS ([3] : List Int) 32)).1).Rest)))).length cap422, .tuple #[.agg #[.int .i64 (((hstepS ((hstepS u0 (srepS ([3] : List Int) 32)).1) (srepS ([6] : List Int) (w64 (128 - (((hstepS u0 (srepS ([3] : List Int) 32)).1).Rest))))).1).Sent), .int .i64 (((hstepS ((hstepS u0 (srepS ([3] : List Int) 32)).1) (srepS ([6] : List Int) (w64 (128 - (((hstepS u0 (srepS ([3] : List Int) 32)).1).Rest))))).1).Got), .int .i64 (((hstepS ((hstepS u0 (srepS ([3] : List Int) 32)).1) (srepS ([6] : List Int) (w64 (128 - (((hstepS u0 (srepS ([3] : List Int) 32)).1).Rest))))).1).Rest)], .int .i64 ((hstepS ((hstepS u0 (srepS ([3] : List Int) 32)).1) (srepS ([6] : List Int) (w64 (128 - (((hstepS u0 (srepS ([3] : List Int) 32)).1).Rest))))).2.1), .int .i64 ((hstepS ((hstepS u0 (srepS ([3] : List Int) 32)).1) (srepS ([6] : List Int) (w64 (128 - (((hstepS u0 (srepS ([3] : List Int) 32)).1).Rest))))).2.2)], ud73, ud74, ud75, .row b385 [.int .i64 (((hstepS ((hstepS u0 (srepS ([3] : List Int) 32)).1) x10).1).Sent), .int .i64 (((hstepS ((hstepS u0 (srepS ([3] : List Int) 32)).1) x10).1).Got), .int .i64 (((hstepS ((hstepS u0 (srepS ([3] : List Int) 32)).1) x10).1).Rest)] 28, .row b30 [.int .i64 (((hstepS u0 u1).1).Sent), .int .i64 (((hstepS u0 u1).1).Got), .int .i64 (((hstepS u0 u1).1).Rest)] 28, .row b6 [.int .i64 u0.Sent, .int .i64 u0.Got, .int .i64 u0.Rest] 28, .row b124 [.int .i64 (((hstepS u0 (srepS ([3] : List Int) 32)).1).Sent), .int .i64 (((hstepS u0 (srepS ([3] : List Int) 32)).1).Got), .int .i64 (((hstepS u0 (srepS ([3] : List Int) 32)).1).Rest)] 28, .nil, rh5, Z455, hle456, hF557.region (by kernel_rfl) (by kernel_rfl), hM558.perm ((pk 1 rfl).trans (((pk 1 rfl).trans (((pk 1 rfl).trans (((pk 1 rfl).trans ((List.Perm.refl _).cons _)).cons _)).cons _)).cons _)), cu15, (nt hx13), (nt hx14), kf, kf, kf, kf, kf, kf, kf, kf, (nt hx8), (nt hx9), (nt hx10), rfl, rfl, rfl, rfl, (tn hx1), (fun _ => tn hx5), (fun _ => tn hx6), kf, cr5_0, cr5_1, (nt hx12), (fun _ => hs553), (fun _ => hs554)⟩
       · -- 8: extract
        obtain rfl := Option.some.inj hi
        have hx7 := hpre 7 (by kernel_rfl)
        have hx6 := hcl 7 6 (by kernel_rfl) hx7
        have hx5 := hcl 6 5 (by kernel_rfl) hx6
        have hx0 := hcl 6 0 (by kernel_rfl) hx6
        have hx4 := hcl 5 4 (by kernel_rfl) hx5
        have hx1 := hcl 5 1 (by kernel_rfl) hx5
        have hx3 := hcl 4 3 (by kernel_rfl) hx4
        have hx2 := hcl 3 2 (by kernel_rfl) hx3
        have hx8 := hSi
        have hx12 := negF hcl 12 8 (by kernel_rfl) hx8
        have hx13 := negF hcl 13 8 (by kernel_rfl) hx8
        have hx14 := negF hcl 14 8 (by kernel_rfl) hx8
        obtain rfl := cu65 hx7
        obtain rfl := cu66 hx0
        obtain rfl := cu67 hx1
        obtain rfl := cu68 hx2
        obtain rfl := cu69 hx3
        obtain rfl := cu70 hx4
        obtain rfl := cu71 hx5
        obtain rfl := cu72 hx6
        obtain rfl := cr0_0
        obtain rfl := cr1_0
        obtain rfl := cr2_0
        obtain rfl := cr3_0
        obtain rfl := cr4_3 hx6
        refine hG (any_step ?_); clear hG G; intro A J hJ
        have hle0 := Fz.le.trans hle0 hle456
        have hzst := Fz.le.refl Z455
        have hs560 := hs260.mono hle456
        have hs561 := hs261.mono hle456
        have hs562 := hs262.mono hle456
        have hs563 := hs371.mono hle456
        have hs564 := cf0 hx5
        have hs565 := cf1 hx6
        have hM566 := hMx.keep (List.Sublist.cons_cons _ (List.Sublist.cons_cons _ (List.Sublist.cons_cons _ (List.Sublist.cons_cons _ (List.Sublist.cons _ (List.Sublist.cons_cons _ (List.Sublist.slnil))))))); clear hMx
        refine s1 hFx 73 (.agg #[.int .i64 (((hstepS ((hstepS u0 (srepS ([3] : List Int) 32)).1) (srepS ([6] : List Int) (w64 (128 - (((hstepS u0 (srepS ([3] : List Int) 32)).1).Rest))))).1).Sent), .int .i64 (((hstepS ((hstepS u0 (srepS ([3] : List Int) 32)).1) (srepS ([6] : List Int) (w64 (128 - (((hstepS u0 (srepS ([3] : List Int) 32)).1).Rest))))).1).Got), .int .i64 (((hstepS ((hstepS u0 (srepS ([3] : List Int) 32)).1) (srepS ([6] : List Int) (w64 (128 - (((hstepS u0 (srepS ([3] : List Int) 32)).1).Rest))))).1).Rest)]) ?_; intro a567 hF568; clear hFx
        refine nl (qnI (hJ _ _ ?_)); clear hJ J
        have hM569 := hM566.nilRes
        exact ⟨b400, ao421, cap422, b443, ud15, ud16, ud17, .tuple #[.agg #[.int .i64 (((hstepS ((hstepS u0 (srepS ([3] : List Int) 32)).1) (srepS ([6] : List Int) (w64 (128 - (((hstepS u0 (srepS ([3] : List Int) 32)).1).Rest))))).1).Sent), .int .i64 (((hstepS ((hstepS u0 (srepS ([3] : List Int) 32)).1) (srepS ([6] : List Int) (w64 (128 - (((hstepS u0 (srepS ([3] : List Int) 32)).1).Rest))))).1).Got), .int .i64 (((hstepS ((hstepS u0 (srepS ([3] : List Int) 32)).1) (srepS ([6] : List Int) (w64 (128 - (((hstepS u0 (srepS ([3] : List Int) 32)).1).Rest))))).1).Rest)], .int .i64 ((hstepS ((hstepS u0 (srepS ([3] : List Int) 32)).1) (srepS ([6] : List Int) (w64 (128 - (((hstepS u0 (srepS ([3] : List Int) 32)).1).Rest))))).2.1), .int .i64 ((hstepS ((hstepS u0 (srepS ([3] : List Int) 32)).1) (srepS ([6] : List Int) (w64 (128 - (((hstepS u0 (srepS ([3] : List Int) 32)).1).Rest))))).2.2)], .agg #[.int .i64 (((hstepS u0 (srepS ([3] : List Int) 32)).1).Sent), .int .i64 (((hstepS u0 (srepS ([3] : List Int) 32)).1).Got), .int .i64 (((hstepS u0 (srepS ([3] : List Int) 32)).1).Rest)], .slice (some ⟨b400, 0, none⟩) 1 1, .pointer (some ⟨b124, 2, none⟩), .int .i64 (((hstepS u0 (srepS ([3] : List Int) 32)).1).Rest), .int .i64 (w64 (128 - (((hstepS u0 (srepS ([3] : List Int) 32)).1).Rest))), .slice ao421 (srepS ([6] : List Int) (w64 (128 - (((hstepS u0 (srepS ([3] : List Int) 32)).1).Rest)))).length cap422, .tuple #[.agg #[.int .i64 (((hstepS ((hstepS u0 (srepS ([3] : List Int) 32)).1) (srepS ([6] : List Int) (w64 (128 - (((hstepS u0 (srepS ([3] : List Int) 32)).1).Rest))))).1).Sent), .int .i64 (((hstepS ((hstepS u0 (srepS ([3] : List Int) 32)).1) (srepS ([6] : List Int) (w64 (128 - (((hstepS u0 (srepS ([3] : List Int) 32)).1).Rest))))).1).Got), .int .i64 (((hstepS ((hstepS u0 (srepS ([3] : List Int) 32)).1) (srepS ([6] : List Int) (w64 (128 - (((hstepS u0 (srepS ([3] : List Int) 32)).1).Rest))))).1).Rest)], .int .i64 ((hstepS ((hstepS u0 (srepS ([3] : List Int) 32)).1) (srepS ([6] : List Int) (w64 (128 - (((hstepS u0 (srepS ([3] : List Int) 32)).1).Rest))))).2.1), .int .i64 ((hstepS ((hstepS u0 (srepS ([3] : List Int) 32)).1) (srepS ([6] : List Int) (w64 (128 - (((hstepS u0 (srepS ([3] : List Int) 32)).1).Rest))))).2.2)], .agg #[.int .i64 (((hstepS ((hstepS u0 (srepS ([3] : List Int) 32)).1) (srepS ([6] : List Int) (w64 (128 - (((hstepS u0 (srepS ([3] : List Int) 32)).1).Rest))))).1).Sent), .int .i64 (((hstepS ((hstepS u0 (srepS ([3] : List Int) 32)).1) (srepS ([6] : List Int) (w64 (128 - (((hstepS u0 (srepS ([3] : List Int) 32)).1).Rest))))).1).Got), .int .i64 (((hstepS ((hstepS u0 (srepS ([3] : List Int) 32)).1) (srepS ([6] : List Int) (w64 (128 - (((hstepS u0 (srepS ([3] : List Int) 32)).1).Rest))))).1).Rest)], ud74, ud75, .row b385 [.int .i64 (((hstepS ((hstepS u0 (srepS ([3] : List Int) 32)).1) x10).1).Sent), .int .i64 (((hstepS ((hstepS u0 (srepS ([3] : List Int) 32)).1) x10).1).Got), .int .i64 (((hstepS ((hstepS u0 (srepS ([3] : List Int) 32)).1) x10).1).Rest)] 28, .row b30 [.int .i64 (((hstepS u0 u1).1).Sent), .int .i64 (((hstepS u0 u1).1).Got), .int .i64 (((hstepS u0 u1).1).Rest)] 28, .row b6 [.int .i64 u0.Sent, .int .i64 u0.Got, .int .i64 u0.Rest] 28, .row b124 [.int .i64 (((hstepS u0 (srepS ([3] : List Int) 32)).1).Sent), .int .i64 (((hstepS u0 (srepS ([3] : List Int) 32)).1).Got), .int .i64 (((hstepS u0 (srepS ([3] : List Int) 32)).1).Rest)] 28, .nil, rh5, Z455, hle456, hF568.region (by kernel_rfl) (by kernel_rfl), hM569.perm ((pk 1 rfl).trans (((pk 1 rfl).trans (((pk 1 rfl).trans (((pk 1 rfl).trans ((List.Perm.refl _).cons _)).cons _)).cons _)).cons _)), cu15, (nt hx13), (nt hx14), kf, kf, kf, kf, kf, kf, kf, kf, kf, cu74, cu75, rfl, rfl, rfl, rfl, (tn hx1), (fun _ => tn hx5), (fun _ => tn hx6), kf, cr5_0, cr5_1, (nt hx12), (fun _ => hs564), (fun _ => hs565)⟩
       · -- 9: extract
        obtain rfl := Option.some.inj hi
        have hx7 := hpre 7 (by kernel_rfl)
        have hx6 := hcl 7 6 (by kernel_rfl) hx7
        have hx5 := hcl 6 5 (by kernel_rfl) hx6
        have hx0 := hcl 6 0 (by kernel_rfl) hx6
        have hx4 := hcl 5 4 (by kernel_rfl) hx5
        have hx1 := hcl 5 1 (by kernel_rfl) hx5
        have hx3 := hcl 4 3 (by kernel_rfl) hx4
        have hx2 := hcl 3 2 (by kernel_rfl) hx3
        have hx9 := hSi
        have hx13 := negF hcl 13 9 (by kernel_rfl) hx9
        have hx14 := negF hcl 14 9 (by kernel_rfl) hx9
        obtain rfl := cu65 hx7
        obtain rfl := cu66 hx0
        obtain rfl := cu67 hx1
        obtain rfl := cu68 hx2
        obtain rfl := cu69 hx3
        obtain rfl := cu70 hx4
        obtain rfl := cu71 hx5
        obtain rfl := cu72 hx6
        obtain rfl := cr0_0
        obtain rfl := cr1_0
        obtain rfl := cr2_0
        obtain rfl := cr3_0
        obtain rfl := cr4_3 hx6
        refine hG (any_step ?_); clear hG G; intro A J hJ
        have hle0 := Fz.le.trans hle0 hle456
        have hzst := Fz.le.refl Z455
        have hs571 := hs260.mono hle456
        have hs572 := hs261.mono hle456
        have hs573 := hs262.mono hle456
        have hs574 := hs371.mono hle456
        have hs575 := cf0 hx5
        have hs576 := cf1 hx6
        have hM577 := hMx.keep (List.Sublist.cons_cons _ (List.Sublist.cons_cons _ (List.Sublist.cons_cons _ (List.Sublist.cons_cons _ (List.Sublist.cons _ (List.Sublist.cons_cons _ (List.Sublist.slnil))))))); clear hMx
        refine s1 hFx 74 (.int .i64 ((hstepS ((hstepS u0 (srepS ([3] : List Int) 32)).1) (srepS ([6] : List Int) (w64 (128 - (((hstepS u0 (srepS ([3] : List Int) 32)).1).Rest))))).2.1)) ?_; intro a578 hF579; clear hFx
        refine nl (qnI (hJ _ _ ?_)); clear hJ J
        have hM580 := hM577.nilRes
        exact ⟨b400, ao421, cap422, b443, ud15, ud16, ud17, .tuple #[.agg #[.int .i64 (((hstepS ((hstepS u0 (srepS ([3] : List Int) 32)).1) (srepS ([6] : List Int) (w64 (128 - (((hstepS u0 (srepS ([3] : List Int) 32)).1).Rest))))).1).Sent), .int .i64 (((hstepS ((hstepS u0 (srepS ([3] : List Int) 32)).1) (srepS ([6] : List Int) (w64 (128 - (((hstepS u0 (srepS ([3] : List Int) 32)).1).Rest))))).1).Got), .int .i64 (((hstepS ((hstepS u0 (srepS ([3] : List Int) 32)).1) (srepS ([6] : List Int) (w64 (128 - (((hstepS u0 (srepS ([3] : List Int) 32)).1).Rest))))).1).Rest)], .int .i64 ((hstepS ((hstepS u0 (srepS ([3] : List Int) 32)).1) (srepS ([6] : List Int) (w64 (128 - (((hstepS u0 (srepS ([3] : List Int) 32)).1).Rest))))).2.1), .int .i64 ((hstepS ((hstepS u0 (srepS ([3] : List Int) 32)).1) (srepS ([6] : List Int) (w64 (128 - (((hstepS u0 (srepS ([3] : List Int) 32)).1).Rest))))).2.2)], .agg #[.int .i64 (((hstepS u0 (srepS ([3] : List Int) 32)).1).Sent), .int .i64 (((hstepS u0 (srepS ([3] : List Int) 32)).1).Got), .int .i64 (((hstepS u0 (srepS ([3] : List Int) 32)).1).Rest)], .slice (some ⟨b400, 0, none⟩) 1 1, .pointer (some ⟨b124, 2, none⟩), .int .i64 (((hstepS u0 (srepS ([3] : List Int) 32)).1).Rest), .int .i64 (w64 (128 - (((hstepS u0 (srepS ([3] : List Int) 32)).1).Rest))), .slice ao421 (srepS ([6] : List Int) (w64 (128 - (((hstepS u0 (srepS ([3] : List Int) 32)).1).Rest)))).length cap422, .tuple #[.agg #[.int .i64 (((hstepS ((hstepS u0 (srepS ([3] : List Int) 32)).1) (srepS ([6] : List Int) (w64 (128 - (((hstepS u0 (srepS ([3] : List Int) 32)).1).Rest))))).1).Sent), .int .i64 (((hstepS ((hstepS u0 (srepS ([3] : List Int) 32)).1) (srepS ([6] : List Int) (w64 (128 - (((hstepS u0 (srepS ([3] : List Int) 32)).1).Rest))))).1).Got), .int .i64 (((hstepS ((hstepS u0 (srepS ([3] : List Int) 32)).1) (srepS ([6] : List Int) (w64 (128 - (((hstepS u0 (srepS ([3] : List Int) 32)).1).Rest))))).1).Rest)], .int .i64 ((hstepS ((hstepS u0 (srepS ([3] : List Int) 32)).1) (srepS ([6] : List Int) (w64 (128 - (((hstepS u0 (srepS ([3] : List Int) 32)).1).Rest))))).2.1), .int .i64 ((hstepS ((hstepS u0 (srepS ([3] : List Int) 32)).1) (srepS ([6] : List Int) (w64 (128 - (((hstepS u0 (srepS ([3] : List Int) 32)).1).Rest))))).2.2)], ud73, .int .i64 ((hstepS ((hstepS u0 (srepS ([3] : List Int) 32)).1) (srepS ([6] : List Int) (w64 (128 - (((hstepS u0 (srepS ([3] : List Int) 32)).1).Rest))))).2.1), ud75, .row b385 [.int .i64 (((hstepS ((hstepS u0 (srepS ([3] : List Int) 32)).1) x10).1).Sent), .int .i64 (((hstepS ((hstepS u0 (srepS ([3] : List Int) 32)).1) x10).1).Got), .int .i64 (((hstepS ((hstepS u0 (srepS ([3] : List Int) 32)).1) x10).1).Rest)] 28, .row b30 [.int .i64 (((hstepS u0 u1).1).Sent), .int .i64 (((hstepS u0 u1).1).Got), .int .i64 (((hstepS u0 u1).1).Rest)] 28, .row b6 [.int .i64 u0.Sent, .int .i64 u0.Got, .int .i64 u0.Rest] 28, .row b124 [.int .i64 (((hstepS u0 (srepS ([3] : List Int) 32)).1).Sent), .int .i64 (((hstepS u0 (srepS ([3] : List Int) 32)).1).Got), .int .i64 (((hstepS u0 (srepS ([3] : List Int) 32)).1).Rest)] 28, .nil, rh5, Z455, hle456, hF579.region (by kernel_rfl) (by kernel_rfl), hM580.perm ((pk 1 rfl).trans (((pk 1 rfl).trans (((pk 1 rfl).trans (((pk 1 rfl).trans ((List.Perm.refl _).cons _)).cons _)).cons _)).cons _)), cu15, (nt hx13), (nt hx14), kf, kf, kf, kf, kf, kf, kf, kf, cu73, kf, cu75, rfl, rfl, rfl, rfl, (tn hx1), (fun _ => tn hx5), (fun _ => tn hx6), kf, cr5_0, cr5_1, cr5_2, (fun _ => hs575), (fun _ => hs576)⟩
       · -- 10: extract
        obtain rfl := Option.some.inj hi
        have hx7 := hpre 7 (by kernel_rfl)
        have hx6 := hcl 7 6 (by kernel_rfl) hx7
        have hx5 := hcl 6 5 (by kernel_rfl) hx6
        have hx0 := hcl 6 0 (by kernel_rfl) hx6
        have hx4 := hcl 5 4 (by kernel_rfl) hx5
        have hx1 := hcl 5 1 (by kernel_rfl) hx5
        have hx3 := hcl 4 3 (by kernel_rfl) hx4
        have hx2 := hcl 3 2 (by kernel_rfl) hx3
        have hx10 := hSi
        have hx14 := negF hcl 14 10 (by kernel_rfl) hx10
        obtain rfl := cu65 hx7
        obtain rfl := cu66 hx0
        obtain rfl := cu67 hx1
        obtain rfl := cu68 hx2
        obtain rfl := cu69 hx3
        obtain rfl := cu70 hx4
        obtain rfl := cu71 hx5
        obtain rfl := cu72 hx6
        obtain rfl := cr0_0
        obtain rfl := cr1_0
        obtain rfl := cr2_0
        obtain rfl := cr3_0
        obtain rfl := cr4_3 hx6
        refine hG (any_step ?_); clear hG G; intro A J hJ
        have hle0 := Fz.le.trans hle0 hle456
        have hzst := Fz.le.refl Z455
        have hs582 := hs260.mono hle456
        have hs583 := hs261.mono hle456
        have hs584 := hs262.mono hle456
        have hs585 := hs371.mono hle456
        have hs586 := cf0 hx5
        have hs587 := cf1 hx6
        have hM588 := hMx.keep (List.Sublist.cons_cons _ (List.Sublist.cons_cons _ (List.Sublist.cons_cons _ (List.Sublist.cons_cons _ (List.Sublist.cons _ (List.Sublist.cons_cons _ (List.Sublist.slnil))))))); clear hMx
        refine s1 hFx 75 (.int .i64 ((hstepS ((hstepS u0 (srepS ([3] : List Int) 32)).1) (srepS ([6] : List Int) (w64 (128 - (((hstepS u0 (srepS ([3] : List Int) 32)).1).Rest))))).2.2)) ?_; intro a589 hF590; clear hFx
        refine nl (qnI (hJ _ _ ?_)); clear hJ J
        have hM591 := hM588.nilRes
        exact ⟨b400, ao421, cap422, b443, ud15, ud16, ud17, .tuple #[.agg #[.int .i64 (((hstepS ((hstepS u0 (srepS ([3] : List Int) 32)).1) (srepS ([6] : List Int) (w64 (128 - (((hstepS u0 (srepS ([3] : List Int) 32)).1).Rest))))).1).Sent), .int .i64 (((hstepS ((hstepS u0 (srepS ([3] : List Int) 32)).1) (srepS ([6] : List Int) (w64 (128 - (((hstepS u0 (srepS ([3] : List Int) 32)).1).Rest))))).1).Got), .int .i64 (((hstepS ((hstepS u0 (srepS ([3] : List Int) 32)).1) (srepS ([6] : List Int) (w64 (128 - (((hstepS u0 (srepS ([3] : List Int) 32)).1).Rest))))).1).Rest)], .int .i64 ((hstepS ((hstepS u0 (srepS ([3] : List Int) 32)).1) (srepS ([6] : List Int) (w64 (128 - (((hstepS u0 (srepS ([3] : List Int) 32)).1).Rest))))).2.1), .int .i64 ((hstepS ((hstepS u0 (srepS ([3] : List Int) 32)).1) (srepS ([6] : List Int) (w64 (128 - (((hstepS u0 (srepS ([3] : List Int) 32)).1).Rest))))).2.2)], .agg #[.int .i64 (((hstepS u0 (srepS ([3] : List Int) 32)).1).Sent), .int .i64 (((hstepS u0 (srepS ([3] : List Int) 32)).1).Got), .int .i64 (((hstepS u0 (srepS ([3] : List Int) 32)).1).Rest)], .slice (some ⟨b400, 0, none⟩) 1 1, .pointer (some ⟨b124, 2, none⟩), .int .i64 (((hstepS u0 (srepS ([3] : List Int) 32)).1).Rest), .int .i64 (w64 (128 - (((hstepS u0 (srepS ([3] : List Int) 32)).1).Rest))), .slice ao421 (srepS ([6] : List Int) (w64 (128 - (((hstepS u0 (srepS ([3] : List Int) 32)).1).Rest)))).length cap422, .tuple #[.agg #[.int .i64 (((hstepS ((hstepS u0 (srepS ([3] : List Int) 32)).1) (srepS ([6] : List Int) (w64 (128 - (((hstepS u0 (srepS ([3] : List Int) 32)).1).Rest))))).1).Sent), .int .i64 (((hstepS ((hstepS u0 (srepS ([3] : List Int) 32)).1) (srepS ([6] : List Int) (w64 (128 - (((hstepS u0 (srepS ([3] : List Int) 32)).1).Rest))))).1).Got), .int .i64 (((hstepS ((hstepS u0 (srepS ([3] : List Int) 32)).1) (srepS ([6] : List Int) (w64 (128 - (((hstepS u0 (srepS ([3] : List Int) 32)).1).Rest))))).1).Rest)], .int .i64 ((hstepS ((hstepS u0 (srepS ([3] : List Int) 32)).1) (srepS ([6] : List Int) (w64 (128 - (((hstepS u0 (srepS ([3] : List Int) 32)).1).Rest))))).2.1), .int .i64 ((hstepS ((hstepS u0 (srepS ([3] : List Int) 32)).1) (srepS ([6] : List Int) (w64 (128 - (((hstepS u0 (srepS ([3] : List Int) 32)).1).Rest))))).2.2)], ud73, ud74, .int .i64 ((hstepS ((hstepS u0 (srepS ([3] : List Int) 32)).1) (srepS ([6] : List Int) (w64 (128 - (((hstepS u0 (srepS ([3] : List Int) 32)).1).Rest))))).2.2), .row b385 [.int .i64 (((hstepS ((hstepS u0 (srepS ([3] : List Int) 32)).1) x10).1).Sent), .int .i64 (((hstepS ((hstepS u0 (srepS ([3] : List Int) 32)).1) x10).1).Got), .int .i64 (((hstepS ((hstepS u0 (srepS ([3] : List Int) 32)).1) x10).1).Rest)] 28, .row b30 [.int .i64 (((hstepS u0 u1).1).Sent), .int .i64 (((hstepS u0 u1).1).Got), .int .i64 (((hstepS u0 u1).1).Rest)] 28, .row b6 [.int .i64 u0.Sent, .int .i64 u0.Got, .int .i64 u0.Rest] 28, .row b124 [.int .i64 (((hstepS u0 (srepS ([3] : List Int) 32)).1).Sent), .int .i64 (((hstepS u0 (srepS ([3] : List Int) 32)).1).Got), .int .i64 (((hstepS u0 (srepS ([3] : List Int) 32)).1).Rest)] 28, .nil, rh5, Z455, hle456, hF590.region (by kernel_rfl) (by kernel_rfl), hM591.perm ((pk 1 rfl).trans (((pk 1 rfl).trans (((pk 1 rfl).trans (((pk 1 rfl).trans ((List.Perm.refl _).cons _)).cons _)).cons _)).cons _)), cu15, cu16, (nt hx14), kf, kf, kf, kf, kf, kf, kf, kf, cu73, cu74, kf, rfl, rfl, rfl, rfl, (tn hx1), (fun _ => tn hx5), (fun _ => tn hx6), kf, cr5_0, cr5_1, cr5_2, (fun _ => hs586), (fun _ => hs587)⟩
       · -- 11: alloc
        obtain rfl := Option.some.inj hi
        have hx11 := hSi
        have hx12 := negF hcl 12 11 (by kernel_rfl) hx11
        have hx13 := negF hcl 13 11 (by kernel_rfl) hx11
        have hx14 := negF hcl 14 11 (by kernel_rfl) hx11
        obtain rfl := cr0_0
        obtain rfl := cr1_0
        obtain rfl := cr2_0
        obtain rfl := cr3_0
        obtain rfl := cr5_0 hx11
        refine hG (any_step ?_); clear hG G; intro A J hJ
        have hle0 := Fz.le.trans hle0 hle456
        have hzst := Fz.le.refl Z455
        have hs593 := hs260.mono hle456
        have hs594 := hs261.mono hle456
        have hs595 := hs262.mono hle456
        have hs596 := hs371.mono hle456
        have hM597 := hMx.keep (List.Sublist.cons_cons _ (List.Sublist.cons_cons _ (List.Sublist.cons_cons _ (List.Sublist.cons_cons _ (List.Sublist.cons_cons _ (List.Sublist.cons _ (List.Sublist.slnil))))))); clear hMx
        refine sn hFx hM597 (fun b => .pointer (some ⟨b, 0, none⟩)) [.int .i64 0, .int .i64 0, .int .i64 0] 28 (nog rfl _) rfl (by kernel_rfl) (by kernel_rfl) ?_; intro b598 a599 wd601 hF600 hM602; clear hFx hM597
        refine nl (qnI (hJ _ _ ?_)); clear hJ J
        exact ⟨b400, ao421, cap422, b598, .pointer (some ⟨b598, 0, none⟩), ud16, ud17, ud65, ud66, ud67, ud68, ud69, ud70, ud71, ud72, ud73, ud74, ud75, .row b385 [.int .i64 (((hstepS ((hstepS u0 (srepS ([3] : List Int) 32)).1) x10).1).Sent), .int .i64 (((hstepS ((hstepS u0 (srepS ([3] : List Int) 32)).1) x10).1).Got), .int .i64 (((hstepS ((hstepS u0 (srepS ([3] : List Int) 32)).1) x10).1).Rest)] 28, .row b30 [.int .i64 (((hstepS u0 u1).1).Sent), .int .i64 (((hstepS u0 u1).1).Got), .int .i64 (((hstepS u0 u1).1).Rest)] 28, .row b6 [.int .i64 u0.Sent, .int .i64 u0.Got, .int .i64 u0.Rest] 28, .row b124 [.int .i64 (((hstepS u0 (srepS ([3] : List Int) 32)).1).Sent), .int .i64 (((hstepS u0 (srepS ([3] : List Int) 32)).1).Got), .int .i64 (((hstepS u0 (srepS ([3] : List Int) 32)).1).Rest)] 28, rh4, .row b598 [.int .i64 0, .int .i64 0, .int .i64 0] 28, Z455, hle456, hF600.region (by kernel_rfl) (by kernel_rfl), hM602.perm ((pk 1 rfl).trans (((pk 1 rfl).trans (((pk 1 rfl).trans (((pk 1 rfl).trans (((pk 1 rfl).trans ((List.Perm.refl _).cons _)).cons _)).cons _)).cons _)).cons _)), kf, (nt hx13), (nt hx14), cu65, cu66, cu67, cu68, cu69, cu70, cu71, cu72, cu73, cu74, cu75, rfl, rfl, rfl, rfl, cr4_0, cr4_1, cr4_2, cr4_3, nu, kf2, (nt hx12), cf0, cf1⟩
       · -- 12: store
        obtain rfl := Option.some.inj hi
        have hx11 := hpre 11 (by kernel_rfl)
        have hx8 := hpre 8 (by kernel_rfl)
        have hx7 := hpre 7 (by kernel_rfl)
        have hx6 := hpre 6 (by kernel_rfl)
        have hx5 := hpre 5 (by kernel_rfl)
        have hx4 := hpre 4 (by kernel_rfl)
        have hx3 := hpre 3 (by kernel_rfl)
        have hx2 := hpre 2 (by kernel_rfl)
        have hx1 := hpre 1 (by kernel_rfl)
        have hx0 := hpre 0 (by kernel_rfl)
        have hx12 := hSi
        have hx13 := negF hcl 13 12 (by kernel_rfl) hx12
        have hx14 := negF hcl 14 12 (by kernel_rfl) hx12
        obtain rfl := cu15 hx11
        obtain rfl := cu65 hx7
        obtain rfl := cu66 hx0
        obtain rfl := cu67 hx1
        obtain rfl := cu68 hx2
        obtain rfl := cu69 hx3
        obtain rfl := cu70 hx4
        obtain rfl := cu71 hx5
        obtain rfl := cu72 hx6
        obtain rfl := cu73 hx8
        obtain rfl := cr0_0
        obtain rfl := cr1_0
        obtain rfl := cr2_0
        obtain rfl := cr3_0
        obtain rfl := cr4_3 hx6
        obtain rfl := cr5_1 hx11 hx12
        refine hG (any_step ?_); clear hG G; intro A J hJ
        have hle0 := Fz.le.trans hle0 hle456
        have hzst := Fz.le.refl Z455
        have hs604 := hs260.mono hle456
        have hs605 := hs261.mono hle456
        have hs606 := hs262.mono hle456
        have hs607 := hs371.mono hle456
        have hs608 := cf0 hx5
        have hs609 := cf1 hx6
        have hM610 := hMx.keep (List.Sublist.cons_cons _ (List.Sublist.cons_cons _ (List.Sublist.cons_cons _ (List.Sublist.cons_cons _ (List.Sublist.cons _ (List.Sublist.cons_cons _ (List.Sublist.slnil))))))); clear hMx
        refine sr hFx hM610 4 [.int .i64 (((hstepS ((hstepS u0 (srepS ([3] : List Int) 32)).1) (srepS ([6] : List Int) (w64 (128 - (((hstepS u0 (srepS ([3] : List Int) 32)).1).Rest))))).1).Sent), .int .i64 (((hstepS ((hstepS u0 (srepS ([3] : List Int) 32)).1) (srepS ([6] : List Int) (w64 (128 - (((hstepS u0 (srepS ([3] : List Int) 32)).1).Rest))))).1).Got), .int .i64 (((hstepS ((hstepS u0 (srepS ([3] : List Int) 32)).1) (srepS ([6] : List Int) (w64 (128 - (((hstepS u0 (srepS ([3] : List Int) 32)).1).Rest))))).1).Rest)] (b := b443) (off := 0) (cs := [.int .i64 0, .int .i64 0, .int .i64 0]) (ty := 28) (u := .agg #[.int .i64 (((hstepS ((hstepS u0 (srepS ([3] : List Int) 32)).1) (srepS ([6] : List Int) (w64 (128 - (((hstepS u0 (srepS ([3] : List Int) 32)).1).Rest))))).1).Sent), .int .i64 (((hstepS ((hstepS u0 (srepS ([3] : List Int) 32)).1) (srepS ([6] : List Int) (w64 (128 - (((hstepS u0 (srepS ([3] : List Int) 32)).1).Rest))))).1).Got), .int .i64 (((hstepS ((hstepS u0 (srepS ([3] : List Int) 32)).1) (srepS ([6] : List Int) (w64 (128 - (((hstepS u0 (srepS ([3] : List Int) 32)).1).Rest))))).1).Rest)]) (nog rfl _) rfl rfl (by kernel_rfl) (by kernel_rfl) (by kernel_rfl) (by kernel_rfl) (by kernel_rfl) (by kernel_rfl) (by kernel_rfl) ?_; intro wd611 hM612; clear hM610
        refine nl (qnI (hJ _ _ ?_)); clear hJ J
        have hM613 := hM612.nilRes
        exact ⟨b400, ao421, cap422, b443, .pointer (some ⟨b443, 0, none⟩), ud16, ud17, .tuple #[.agg #[.int .i64 (((hstepS ((hstepS u0 (srepS ([3] : List Int) 32)).1) (srepS ([6] : List Int) (w64 (128 - (((hstepS u0 (srepS ([3] : List Int) 32)).1).Rest))))).1).Sent), .int .i64 (((hstepS ((hstepS u0 (srepS ([3] : List Int) 32)).1) (srepS ([6] : List Int) (w64 (128 - (((hstepS u0 (srepS ([3] : List Int) 32)).1).Rest))))).1).Got), .int .i64 (((hstepS ((hstepS u0 (srepS ([3] : List Int) 32)).1) (srepS ([6] : List Int) (w64 (128 - (((hstepS u0 (srepS ([3] : List Int) 32)).1).Rest))))).1).Rest)], .int .i64 ((hstepS ((hstepS u0 (srepS ([3] : List Int) 32)).1) (srepS ([6] : List Int) (w64 (128 - (((hstepS u0 (srepS ([3] : List Int) 32)).1).Rest))))).2.1), .int .i64 ((hstepS ((hstepS u0 (srepS ([3] : List Int) 32)).1) (srepS ([6] : List Int) (w64 (128 - (((hstepS u0 (srepS ([3] : List Int) 32)).1).Rest))))).2.2)], .agg #[.int .i64 (((hstepS u0 (srepS ([3] : List Int) 32)).1).Sent), .int .i64 (((hstepS u0 (srepS ([3] : List Int) 32)).1).Got), .int .i64 (((hstepS u0 (srepS ([3] : List Int) 32)).1).Rest)], .slice (some ⟨b400, 0, none⟩) 1 1, .pointer (some ⟨b124, 2, none⟩), .int .i64 (((hstepS u0 (srepS ([3] : List Int) 32)).1).Rest), .int .i64 (w64 (128 - (((hstepS u0 (srepS ([3] : List Int) 32)).1).Rest))), .slice ao421 (srepS ([6] : List Int) (w64 (128 - (((hstepS u0 (srepS ([3] : List Int) 32)).1).Rest)))).length cap422, .tuple #[.agg #[.int .i64 (((hstepS ((hstepS u0 (srepS ([3] : List Int) 32)).1) (srepS ([6] : List Int) (w64 (128 - (((hstepS u0 (srepS ([3] : List Int) 32)).1).Rest))))).1).Sent), .int .i64 (((hstepS ((hstepS u0 (srepS ([3] : List Int) 32)).1) (srepS ([6] : List Int) (w64 (128 - (((hstepS u0 (srepS ([3] : List Int) 32)).1).Rest))))).1).Got), .int .i64 (((hstepS ((hstepS u0 (srepS ([3] : List Int) 32)).1) (srepS ([6] : List Int) (w64 (128 - (((hstepS u0 (srepS ([3] : List Int) 32)).1).Rest))))).1).Rest)], .int .i64 ((hstepS ((hstepS u0 (srepS ([3] : List Int) 32)).1) (srepS ([6] : List Int) (w64 (128 - (((hstepS u0 (srepS ([3] : List Int) 32)).1).Rest))))).2.1), .int .i64 ((hstepS ((hstepS u0 (srepS ([3] : List Int) 32)).1) (srepS ([6] : List Int) (w64 (128 - (((hstepS u0 (srepS ([3] : List Int) 32)).1).Rest))))).2.2)], .agg #[.int .i64 (((hstepS ((hstepS u0 (srepS ([3] : List Int) 32)).1) (srepS ([6] : List Int) (w64 (128 - (((hstepS u0 (srepS ([3] : List Int) 32)).1).Rest))))).1).Sent), .int .i64 (((hstepS ((hstepS u0 (srepS ([3] : List Int) 32)).1) (srepS ([6] : List Int) (w64 (128 - (((hstepS u0 (srepS ([3] : List Int) 32)).1).Rest))))).1).Got), .int .i64 (((hstepS ((hstepS u0 (srepS ([3] : List Int) 32)).1) (srepS ([6] : List Int) (w64 (128 - (((hstepS u0 (srepS ([3] : List Int) 32)).1).Rest))))).1).Rest)], ud74, ud75, .row b385 [.int .i64 (((hstepS ((hstepS u0 (srepS ([3] : List Int) 32)).1) x10).1).Sent), .int .i64 (((hstepS ((hstepS u0 (srepS ([3] : List Int) 32)).1) x10).1).Got), .int .i64 (((hstepS ((hstepS u0 (srepS ([3] : List Int) 32)).1) x10).1).Rest)] 28, .row b30 [.int .i64 (((hstepS u0 u1).1).Sent), .int .i64 (((hstepS u0 u1).1).Got), .int .i64 (((hstepS u0 u1).1).Rest)] 28, .row b6 [.int .i64 u0.Sent, .int .i64 u0.Got, .int .i64 u0.Rest] 28, .row b124 [.int .i64 (((hstepS u0 (srepS ([3] : List Int) 32)).1).Sent), .int .i64 (((hstepS u0 (srepS ([3] : List Int) 32)).1).Got), .int .i64 (((hstepS u0 (srepS ([3] : List Int) 32)).1).Rest)] 28, .nil, .row b443 [.int .i64 (((hstepS ((hstepS u0 (srepS ([3] : List Int) 32)).1) (srepS ([6] : List Int) (w64 (128 - (((hstepS u0 (srepS ([3] : List Int) 32)).1).Rest))))).1).Sent), .int .i64 (((hstepS ((hstepS u0 (srepS ([3] : List Int) 32)).1) (srepS ([6] : List Int) (w64 (128 - (((hstepS u0 (srepS ([3] : List Int) 32)).1).Rest))))).1).Got), .int .i64 (((hstepS ((hstepS u0 (srepS ([3] : List Int) 32)).1) (srepS ([6] : List Int) (w64 (128 - (((hstepS u0 (srepS ([3] : List Int) 32)).1).Rest))))).1).Rest)] 28, Z455, hle456, hFx.region (by kernel_rfl) (by kernel_rfl), hM613.perm ((pk 1 rfl).trans (((pk 1 rfl).trans (((pk 1 rfl).trans (((pk 1 rfl).trans ((List.Perm.refl _).cons _)).cons _)).cons _)).cons _)), kf, (nt hx13), (nt hx14), kf, kf, kf, kf, kf, kf, kf, kf, kf, cu74, cu75, rfl, rfl, rfl, rfl, (tn hx1), (fun _ => tn hx5), (fun _ => tn hx6), kf, (tn hx11), (fun _ => nu), kf, (fun _ => hs608), (fun _ => hs609)⟩
       · -- 13: assign
        obtain rfl := Option.some.inj hi
        have hx12 := hpre 12 (by kernel_rfl)
        have hx11 := hpre 11 (by kernel_rfl)
        have hx9 := hpre 9 (by kernel_rfl)
        have hx8 := hpre 8 (by kernel_rfl)
        have hx7 := hpre 7 (by kernel_rfl)
        have hx6 := hpre 6 (by kernel_rfl)
        have hx5 := hpre 5 (by kernel_rfl)
        have hx4 := hpre 4 (by kernel_rfl)
        have hx3 := hpre 3 (by kernel_rfl)
        have hx2 := hpre 2 (by kernel_rfl)
        have hx1 := hpre 1 (by kernel_rfl)
        have hx0 := hpre 0 (by kernel_rfl)
        have hx13 := hSi
        have hx14 := negF hcl 14 13 (by kernel_rfl) hx13
        obtain rfl := cu15 hx11
        obtain rfl := cu65 hx7
        obtain rfl := cu66 hx0
        obtain rfl := cu67 hx1
        obtain rfl := cu68 hx2
        obtain rfl := cu69 hx3
        obtain rfl := cu70 hx4
        obtain rfl := cu71 hx5
        obtain rfl := cu72 hx6
        obtain rfl := cu73 hx8
        obtain rfl := cu74 hx9
        obtain rfl := cr0_0
        obtain rfl := cr1_0
        obtain rfl := cr2_0
        obtain rfl := cr3_0
        obtain rfl := cr4_3 hx6
        obtain rfl := cr5_2 hx12
        refine hG (any_step ?_); clear hG G; intro A J hJ
        have hle0 := Fz.le.trans hle0 hle456
        have hzst := Fz.le.refl Z455
        have hs615 := hs260.mono hle456
        have hs616 := hs261.mono hle456
        have hs617 := hs262.mono hle456
        have hs618 := hs371.mono hle456
        have hs619 := cf0 hx5
        have hs620 := cf1 hx6
        have hM621 := hMx.keep (List.Sublist.cons_cons _ (List.Sublist.cons_cons _ (List.Sublist.cons_cons _ (List.Sublist.cons_cons _ (List.Sublist.cons _ (List.Sublist.cons_cons _ (List.Sublist.slnil))))))); clear hMx
        refine s1 hFx 16 (.int .i64 ((hstepS ((hstepS u0 (srepS ([3] : List Int) 32)).1) (srepS ([6] : List Int) (w64 (128 - (((hstepS u0 (srepS ([3] : List Int) 32)).1).Rest))))).2.1)) ?_; intro a622 hF623; clear hFx
        refine nl (qnI (hJ _ _ ?_)); clear hJ J
        have hM624 := hM621.nilRes
        exact ⟨b400, ao421, cap422, b443, .pointer (some ⟨b443, 0, none⟩), .int .i64 ((hstepS ((hstepS u0 (srepS ([3] : List Int) 32)).1) (srepS ([6] : List Int) (w64 (128 - (((hstepS u0 (srepS ([3] : List Int) 32)).1).Rest))))).2.1), ud17, .tuple #[.agg #[.int .i64 (((hstepS ((hstepS u0 (srepS ([3] : List Int) 32)).1) (srepS ([6] : List Int) (w64 (128 - (((hstepS u0 (srepS ([3] : List Int) 32)).1).Rest))))).1).Sent), .int .i64 (((hstepS ((hstepS u0 (srepS ([3] : List Int) 32)).1) (srepS ([6] : List Int) (w64 (128 - (((hstepS u0 (srepS ([3] : List Int) 32)).1).Rest))))).1).Got), .int .i64 (((hstepS ((hstepS u0 (srepS ([3] : List Int) 32)).1) (srepS ([6] : List Int) (w64 (128 - (((hstepS u0 (srepS ([3] : List Int) 32)).1).Rest))))).1).Rest)], .int .i64 ((hstepS ((hstepS u0 (srepS ([3] : List Int) 32)).1) (srepS ([6] : List Int) (w64 (128 - (((hstepS u0 (srepS ([3] : List Int) 32)).1).Rest))))).2.1), .int .i64 ((hstepS ((hstepS u0 (srepS ([3] : List Int) 32)).1) (srepS ([6] : List Int) (w64 (128 - (((hstepS u0 (srepS ([3] : List Int) 32)).1).Rest))))).2.2)], .agg #[.int .i64 (((hstepS u0 (srepS ([3] : List Int) 32)).1).Sent), .int .i64 (((hstepS u0 (srepS ([3] : List Int) 32)).1).Got), .int .i64 (((hstepS u0 (srepS ([3] : List Int) 32)).1).Rest)], .slice (some ⟨b400, 0, none⟩) 1 1, .pointer (some ⟨b124, 2, none⟩), .int .i64 (((hstepS u0 (srepS ([3] : List Int) 32)).1).Rest), .int .i64 (w64 (128 - (((hstepS u0 (srepS ([3] : List Int) 32)).1).Rest))), .slice ao421 (srepS ([6] : List Int) (w64 (128 - (((hstepS u0 (srepS ([3] : List Int) 32)).1).Rest)))).length cap422, .tuple #[.agg #[.int .i64 (((hstepS ((hstepS u0 (srepS ([3] : List Int) 32)).1) (srepS ([6] : List Int) (w64 (128 - (((hstepS u0 (srepS ([3] : List Int) 32)).1).Rest))))).1).Sent), .int .i64 (((hstepS ((hstepS u0 (srepS ([3] : List Int) 32)).1) (srepS ([6] : List Int) (w64 (128 - (((hstepS u0 (srepS ([3] : List Int) 32)).1).Rest))))).1).Got), .int .i64 (((hstepS ((hstepS u0 (srepS ([3] : List Int) 32)).1) (srepS ([6] : List Int) (w64 (128 - (((hstepS u0 (srepS ([3] : List Int) 32)).1).Rest))))).1).Rest)], .int .i64 ((hstepS ((hstepS u0 (srepS ([3] : List Int) 32)).1) (srepS ([6] : List Int) (w64 (128 - (((hstepS u0 (srepS ([3] : List Int) 32)).1).Rest))))).2.1), .int .i64 ((hstepS ((hstepS u0 (srepS ([3] : List Int) 32)).1) (srepS ([6] : List Int) (w64 (128 - (((hstepS u0 (srepS ([3] : List Int) 32)).1).Rest))))).2.2)], .agg #[.int .i64 (((hstepS ((hstepS u0 (srepS ([3] : List Int) 32)).1) (srepS ([6] : List Int) (w64 (128 - (((hstepS u0 (srepS ([3] : List Int) 32)).1).Rest))))).1).Sent), .int .i64 (((hstepS ((hstepS u0 (srepS ([3] : List Int) 32)).1) (srepS ([6] : List Int) (w64 (128 - (((hstepS u0 (srepS ([3] : List Int) 32)).1).Rest))))).1).Got), .int .i64 (((hstepS ((hstepS u0 (srepS ([3] : List Int) 32)).1) (srepS ([6] : List Int) (w64 (128 - (((hstepS u0 (srepS ([3] : List Int) 32)).1).Rest))))).1).Rest)], .int .i64 ((hstepS ((hstepS u0 (srepS ([3] : List Int) 32)).1) (srepS ([6] : List Int) (w64 (128 - (((hstepS u0 (srepS ([3] : List Int) 32)).1).Rest))))).2.1), ud75, .row b385 [.int .i64 (((hstepS ((hstepS u0 (srepS ([3] : List Int) 32)).1) x10).1).Sent), .int .i64 (((hstepS ((hstepS u0 (srepS ([3] : List Int) 32)).1) x10).1).Got), .int .i64 (((hstepS ((hstepS u0 (srepS ([3] : List Int) 32)).1) x10).1).Rest)] 28, .row b30 [.int .i64 (((hstepS u0 u1).1).Sent), .int .i64 (((hstepS u0 u1).1).Got), .int .i64 (((hstepS u0 u1).1).Rest)] 28, .row b6 [.int .i64 u0.Sent, .int .i64 u0.Got, .int .i64 u0.Rest] 28, .row b124 [.int .i64 (((hstepS u0 (srepS ([3] : List Int) 32)).1).Sent), .int .i64 (((hstepS u0 (srepS ([3] : List Int) 32)).1).Got), .int .i64 (((hstepS u0 (srepS ([3] : List Int) 32)).1).Rest)] 28, .nil, .row b443 [.int .i64 (((hstepS ((hstepS u0 (srepS ([3] : List Int) 32)).1) (srepS ([6] : List Int) (w64 (128 - (((hstepS u0 (srepS ([3] : List Int) 32)).1).Rest))))).1).Sent), .int .i64 (((hstepS ((hstepS u0 (srepS ([3] : List Int) 32)).1) (srepS ([6] : List Int) (w64 (128 - (((hstepS u0 (srepS ([3] : List Int) 32)).1).Rest))))).1).Got), .int .i64 (((hstepS ((hstepS u0 (srepS ([3] : List Int) 32)).1) (srepS ([6] : List Int) (w64 (128 - (((hstepS u0 (srepS ([3] : List Int) 32)).1).Rest))))).1).Rest)] 28, Z455, hle456, hF623.region (by kernel_rfl) (by kernel_rfl), hM624.perm ((pk 1 rfl).trans (((pk 1 rfl).trans (((pk 1 rfl).trans (((pk 1 rfl).trans ((List.Perm.refl _).cons _)).cons _)).cons _)).cons _)), kf, kf, (nt hx14), kf, kf, kf, kf, kf, kf, kf, kf, kf, kf, cu75, rfl, rfl, rfl, rfl, (tn hx1), (fun _ => tn hx5), (fun _ => tn hx6), kf, (tn hx11), (fun _ => tn hx12), kf, (fun _ => hs619), (fun _ => hs620)⟩
       · -- 14: assign
        obtain rfl := Option.some.inj hi
        have hx13 := hpre 13 (by kernel_rfl)
        have hx12 := hpre 12 (by kernel_rfl)
        have hx11 := hpre 11 (by kernel_rfl)
        have hx10 := hpre 10 (by kernel_rfl)
        have hx9 := hpre 9 (by kernel_rfl)
        have hx8 := hpre 8 (by kernel_rfl)
        have hx7 := hpre 7 (by kernel_rfl)
        have hx6 := hpre 6 (by kernel_rfl)
        have hx5 := hpre 5 (by kernel_rfl)
        have hx4 := hpre 4 (by kernel_rfl)
        have hx3 := hpre 3 (by kernel_rfl)
        have hx2 := hpre 2 (by kernel_rfl)
        have hx1 := hpre 1 (by kernel_rfl)
        have hx0 := hpre 0 (by kernel_rfl)
        have hx14 := hSi
        obtain rfl := cu15 hx11
        obtain rfl := cu16 hx13
        obtain rfl := cu65 hx7
        obtain rfl := cu66 hx0
        obtain rfl := cu67 hx1
        obtain rfl := cu68 hx2
        obtain rfl := cu69 hx3
        obtain rfl := cu70 hx4
        obtain rfl := cu71 hx5
        obtain rfl := cu72 hx6
        obtain rfl := cu73 hx8
        obtain rfl := cu74 hx9
        obtain rfl := cu75 hx10
        obtain rfl := cr0_0
        obtain rfl := cr1_0
        obtain rfl := cr2_0
        obtain rfl := cr3_0
        obtain rfl := cr4_3 hx6
        obtain rfl := cr5_2 hx12
        refine hG (any_step ?_); clear hG G; intro A J hJ
        have hle0 := Fz.le.trans hle0 hle456
        have hzst := Fz.le.refl Z455
        have hs626 := hs260.mono hle456
        have hs627 := hs261.mono hle456
        have hs628 := hs262.mono hle456
        have hs629 := hs371.mono hle456
        have hs630 := cf0 hx5
        have hs631 := cf1 hx6
        have hM632 := hMx.keep (List.Sublist.cons_cons _ (List.Sublist.cons_cons _ (List.Sublist.cons_cons _ (List.Sublist.cons_cons _ (List.Sublist.cons _ (List.Sublist.cons_cons _ (List.Sublist.slnil))))))); clear hMx
        refine s1 hFx 17 (.int .i64 ((hstepS ((hstepS u0 (srepS ([3] : List Int) 32)).1) (srepS ([6] : List Int) (w64 (128 - (((hstepS u0 (srepS ([3] : List Int) 32)).1).Rest))))).2.2)) ?_; intro a633 hF634; clear hFx
        refine nl (qnI (hJ _ _ ?_)); clear hJ J
        have hM635 := hM632.nilRes
        exact ⟨b400, ao421, cap422, b443, .pointer (some ⟨b443, 0, none⟩), .int .i64 ((hstepS ((hstepS u0 (srepS ([3] : List Int) 32)).1) (srepS ([6] : List Int) (w64 (128 - (((hstepS u0 (srepS ([3] : List Int) 32)).1).Rest))))).2.1), .int .i64 ((hstepS ((hstepS u0 (srepS ([3] : List Int) 32)).1) (srepS ([6] : List Int) (w64 (128 - (((hstepS u0 (srepS ([3] : List Int) 32)).1).Rest))))).2.2), .tuple #[.agg #[.int .i64 (((hstepS ((hstepS u0 (srepS ([3] : List Int) 32)).1) (srepS ([6] : List Int) (w64 (128 - (((hstepS u0 (srepS ([3] : List Int) 32)).1).Rest))))).1).Sent), .int .i64 (((hstepS ((hstepS u0 (srepS ([3] : List Int) 32)).1) (srepS ([6] : List Int) (w64 (128 - (((hstepS u0 (srepS ([3] : List Int) 32)).1).Rest))))).1).Got), .int .i64 (((hstepS ((hstepS u0 (srepS ([3] : List Int) 32)).1) (srepS ([6] : List Int) (w64 (128 - (((hstepS u0 (srepS ([3] : List Int) 32)).1).Rest))))).1).Rest)], .int .i64 ((hstepS ((hstepS u0 (srepS ([3] : List Int) 32)).1) (srepS ([6] : List Int) (w64 (128 - (((hstepS u0 (srepS ([3] : List Int) 32)).1).Rest))))).2.1), .int .i64 ((hstepS ((hstepS u0 (srepS ([3] : List Int) 32)).1) (srepS ([6] : List Int) (w64 (128 - (((hstepS u0 (srepS ([3] : List Int) 32)).1).Rest))))).2.2)], .agg #[.int .i64 (((hstepS u0 (srepS ([3] : List Int) 32)).1).Sent), .int .i64 (((hstepS u0 (srepS ([3] : List Int) 32)).1).Got), .int .i64 (((hstepS u0 (srepS ([3] : List Int) 32)).1).Rest)], .slice (some ⟨b400, 0, none⟩) 1 1, .pointer (some ⟨b124, 2, none⟩), .int .i64 (((hstepS u0 (srepS ([3] : List Int) 32)).1).Rest), .int .i64 (w64 (128 - (((hstepS u0 (srepS ([3] : List Int) 32)).1).Rest))), .slice ao421 (srepS ([6] : List Int) (w64 (128 - (((hstepS u0 (srepS ([3] : List Int) 32)).1).Rest)))).length cap422, .tuple #[.agg #[.int .i64 (((hstepS ((hstepS u0 (srepS ([3] : List Int) 32)).1) (srepS ([6] : List Int) (w64 (128 - (((hstepS u0 (srepS ([3] : List Int) 32)).1).Rest))))).1).Sent), .int .i64 (((hstepS ((hstepS u0 (srepS ([3] : List Int) 32)).1) (srepS ([6] : List Int) (w64 (128 - (((hstepS u0 (srepS ([3] : List Int) 32)).1).Rest))))).1).Got), .int .i64 (((hstepS ((hstepS u0 (srepS ([3] : List Int) 32)).1) (srepS ([6] : List Int) (w64 (128 - (((hstepS u0 (srepS ([3] : List Int) 32)).1).Rest))))).1).Rest)], .int .i64 ((hstepS ((hstepS u0 (srepS ([3] : List Int) 32)).1) (srepS ([6] : List Int) (w64 (128 - (((hstepS u0 (srepS ([3] : List Int) 32)).1).Rest))))).2.1), .int .i64 ((hstepS ((hstepS u0 (srepS ([3] : List Int) 32)).1) (srepS ([6] : List Int) (w64 (128 - (((hstepS u0 (srepS ([3] : List Int) 32)).1).Rest))))).2.2)], .agg #[.int .i64 (((hstepS ((hstepS u0 (srepS ([3] : List Int) 32)).1) (srepS ([6] : List Int) (w64 (128 - (((hstepS u0 (srepS ([3] : List Int) 32)).1).Rest))))).1).Sent), .int .i64 (((hstepS ((hstepS u0 (srepS ([3] : List Int) 32)).1) (srepS ([6] : List Int) (w64 (128 - (((hstepS u0 (srepS ([3] : List Int) 32)).1).Rest))))).1).Got), .int .i64 (((hstepS ((hstepS u0 (srepS ([3] : List Int) 32)).1) (srepS ([6] : List Int) (w64 (128 - (((hstepS u0 (srepS ([3] : List Int) 32)).1).Rest))))).1).Rest)], .int .i64 ((hstepS ((hstepS u0 (srepS ([3] : List Int) 32)).1) (srepS ([6] : List Int) (w64 (128 - (((hstepS u0 (srepS ([3] : List Int) 32)).1).Rest))))).2.1), .int .i64 ((hstepS ((hstepS u0 (srepS ([3] : List Int) 32)).1) (srepS ([6] : List Int) (w64 (128 - (((hstepS u0 (srepS ([3] : List Int) 32)).1).Rest))))).2.2), .row b385 [.int .i64 (((hstepS ((hstepS u0 (srepS ([3] : List Int) 32)).1) x10).1).Sent), .int .i64 (((hstepS ((hstepS u0 (srepS ([3] : List Int) 32)).1) x10).1).Got), .int .i64 (((hstepS ((hstepS u0 (srepS ([3] : List Int) 32)).1) x10).1).Rest)] 28, .row b30 [.int .i64 (((hstepS u0 u1).1).Sent), .int .i64 (((hstepS u0 u1).1).Got), .int .i64 (((hstepS u0 u1).1).Rest)] 28, .row b6 [.int .i64 u0.Sent, .int .i64 u0.Got, .int .i64 u0.Rest] 28, .row b124 [.int .i64 (((hstepS u0 (srepS ([3] : List Int) 32)).1).Sent), .int .i64 (((hstepS u0 (srepS ([3] : List Int) 32)).1).Got), .int .i64 (((hstepS u0 (srepS ([3] : List Int) 32)).1).Rest)] 28, .nil, .row b443 [.int .i64 (((hstepS ((hstepS u0 (srepS ([3] : List Int) 32)).1) (srepS ([6] : List Int) (w64 (128 - (((hstepS u0 (srepS ([3] : List Int) 32)).1).Rest))))).1).Sent), .int .i64 (((hstepS ((hstepS u0 (srepS ([3] : List Int) 32)).1) (srepS ([6] : List Int) (w64 (128 - (((hstepS u0 (srepS ([3] : List Int) 32)).1).Rest))))).1).Got), .int .i64 (((hstepS ((hstepS u0 (srepS ([3] : List Int) 32)).1) (srepS ([6] : List Int) (w64 (128 - (((hstepS u0 (srepS ([3] : List Int) 32)).1).Rest))))).1).Rest)] 28, Z455, hle456, hF634.region (by kernel_rfl) (by kernel_rfl), hM635.perm ((pk 1 rfl).trans (((pk 1 rfl).trans (((pk 1 rfl).trans (((pk 1 rfl).trans ((List.Perm.refl _).cons _)).cons _)).cons _)).cons _)), kf, kf, kf, kf, kf, kf, kf, kf, kf, kf, kf, kf, kf, kf, rfl, rfl, rfl, rfl, (tn hx1), (fun _ => tn hx5), (fun _ => tn hx6), kf, (tn hx11), (fun _ => tn hx12), kf, (fun _ => hs630), (fun _ => hs631)⟩
      case hE =>
       intro S hS a637 wd638 hI; refine hid ?_; intro G hG; obtain ⟨b400, hI⟩ := hI; obtain ⟨ao421, hI⟩ := hI; obtain ⟨cap422, hI⟩ := hI; obtain ⟨b443, hI⟩ := hI; obtain ⟨ud15, hI⟩ := hI; obtain ⟨ud16, hI⟩ := hI; obtain ⟨ud17, hI⟩ := hI; obtain ⟨ud65, hI⟩ := hI; obtain ⟨ud66, hI⟩ := hI; obtain ⟨ud67, hI⟩ := hI; obtain ⟨ud68, hI⟩ := hI; obtain ⟨ud69, hI⟩ := hI; obtain ⟨ud70, hI⟩ := hI; obtain ⟨ud71, hI⟩ := hI; obtain ⟨ud72, hI⟩ := hI; obtain ⟨ud73, hI⟩ := hI; obtain ⟨ud74, hI⟩ := hI; obtain ⟨ud75, hI⟩ := hI; obtain ⟨rh0, hI⟩ := hI; obtain ⟨rh1, hI⟩ := hI; obtain ⟨rh2, hI⟩ := hI; obtain ⟨rh3, hI⟩ := hI; obtain ⟨rh4, hI⟩ := hI; obtain ⟨rh5, hI⟩ := hI; obtain ⟨Z455, hI⟩ := hI; obtain ⟨hle456, hI⟩ := hI; obtain ⟨hFx, hI⟩ := hI; obtain ⟨hMx, hI⟩ := hI; obtain ⟨cu15, hI⟩ := hI; obtain ⟨cu16, hI⟩ := hI; obtain ⟨cu17, hI⟩ := hI; obtain ⟨cu65, hI⟩ := hI; obtain ⟨cu66, hI⟩ := hI; obtain ⟨cu67, hI⟩ := hI; obtain ⟨cu68, hI⟩ := hI; obtain ⟨cu69, hI⟩ := hI; obtain ⟨cu70, hI⟩ := hI; obtain ⟨cu71, hI⟩ := hI; obtain ⟨cu72, hI⟩ := hI; obtain ⟨cu73, hI⟩ := hI; obtain ⟨cu74, hI⟩ := hI; obtain ⟨cu75, hI⟩ := hI; obtain ⟨cr0_0, hI⟩ := hI; obtain ⟨cr1_0, hI⟩ := hI; obtain ⟨cr2_0, hI⟩ := hI; obtain ⟨cr3_0, hI⟩ := hI; obtain ⟨cr4_0, hI⟩ := hI; obtain ⟨cr4_1, hI⟩ := hI; obtain ⟨cr4_2, hI⟩ := hI; obtain ⟨cr4_3, hI⟩ := hI; obtain ⟨cr5_0, hI⟩ := hI; obtain ⟨cr5_1, hI⟩ := hI; obtain ⟨cr5_2, hI⟩ := hI; obtain ⟨cf0, hI⟩ := hI; have cf1 := hI; clear hI; refine hG ?_; clear hG G
       obtain rfl := cu15 (hS 11 (by decide))
       obtain rfl := cu16 (hS 13 (by decide))
       obtain rfl := cu17 (hS 14 (by decide))
       obtain rfl := cu65 (hS 7 (by decide))
       obtain rfl := cu66 (hS 0 (by decide))
       obtain rfl := cu67 (hS 1 (by decide))
       obtain rfl := cu68 (hS 2 (by decide))
       obtain rfl := cu69 (hS 3 (by decide))
       obtain rfl := cu70 (hS 4 (by decide))
       obtain rfl := cu71 (hS 5 (by decide))
       obtain rfl := cu72 (hS 6 (by decide))
       obtain rfl := cu73 (hS 8 (by decide))
       obtain rfl := cu74 (hS 9 (by decide))
       obtain rfl := cu75 (hS 10 (by decide))
       obtain rfl := cr0_0
       obtain rfl := cr1_0
       obtain rfl := cr2_0
       obtain rfl := cr3_0
       obtain rfl := cr4_3 (hS 6 (by decide))
       obtain rfl := cr5_2 (hS 12 (by decide))
       have hle0 := Fz.le.trans hle0 hle456
       have hs639 := hs260.mono hle456
       have hs640 := hs261.mono hle456
       have hs641 := hs262.mono hle456
       have hs642 := hs371.mono hle456
       have hs643 := cf0 (hS 5 (by decide))
       have hs644 := cf1 (hS 6 (by decide))
       have hMx := hMx.keep (List.Sublist.cons_cons _ (List.Sublist.cons_cons _ (List.Sublist.cons_cons _ (List.Sublist.cons_cons _ (List.Sublist.cons _ (List.Sublist.cons_cons _ (List.Sublist.slnil)))))))
       refine thn ?_
       have hF645 : Fr 92 [] [⟨7, [], .int .i64 ((hstepS ((hstepS u0 (srepS ([3] : List Int) 32)).1) x10).2.2)⟩, ⟨8, [], .pointer (some ⟨b124, 0, none⟩)⟩, ⟨13, [], .pointer (some ⟨b385, 0, none⟩)⟩, ⟨15, [], .pointer (some ⟨b443, 0, none⟩)⟩, ⟨17, [], .int .i64 ((hstepS ((hstepS u0 (srepS ([3] : List Int) 32)).1) (srepS ([6] : List Int) (w64 (128 - (((hstepS u0 (srepS ([3] : List Int) 32)).1).Rest))))).2.2)⟩] a637 := hFx.region (by kernel_rfl) (by kernel_rfl); clear hFx
       refine sqH ?_; intro hQ646Q hQ646
       refine s1 hF645 76 (.int .i64 ((hstepS ((hstepS u0 (srepS ([3] : List Int) 32)).1) x10).2.2)) ?_; intro a647 hF648; clear hF645
       refine s1 hF648 77 (.bool (((hstepS ((hstepS u0 (srepS ([3] : List Int) 32)).1) x10).2.2) == 0)) ?_; intro a649 hF650; clear hF648
       refine s1 hF650 78 (.bool (((hstepS ((hstepS u0 (srepS ([3] : List Int) 32)).1) x10).2.2) == 0)) ?_; intro a651 hF652; clear hF650
       have hF653 := hF652.atom ((((hstepS ((hstepS u0 (srepS ([3] : List Int) 32)).1) x10).2.2) == 0) == true) (by kernel_rfl); clear hF652
       refine gp hF653 79 0 [] (((hstepS ((hstepS u0 (srepS ([3] : List Int) 32)).1) x10).2.2) == 0) (.int .i64 ((hstepS ((hstepS u0 (srepS ([3] : List Int) 32)).1) (srepS ([6] : List Int) (w64 (128 - (((hstepS u0 (srepS ([3] : List Int) 32)).1).Rest))))).2.2)) rfl rfl ?_; intro a654 hF655; clear hF653
       refine gp hF655 80 0 [] (((hstepS ((hstepS u0 (srepS ([3] : List Int) 32)).1) x10).2.2) == 0) (.bool (((hstepS ((hstepS u0 (srepS ([3] : List Int) 32)).1) (srepS ([6] : List Int) (w64 (128 - (((hstepS u0 (srepS ([3] : List Int) 32)).1).Rest))))).2.2) == 0)) rfl rfl ?_; intro a656 hF657; clear hF655
       refine st hF657 (.bool ((((hstepS ((hstepS u0 (srepS ([3] : List Int) 32)).1) x10).2.2) == 0) && (((hstepS ((hstepS u0 (srepS ([3] : List Int) 32)).1) (srepS ([6] : List Int) (w64 (128 - (((hstepS u0 (srepS ([3] : List Int) 32)).1).Rest))))).2.2) == 0))) (nog rfl _) rfl (by kernel_rfl) (pk_and hF657 (g := []) (m := 0) (b := ((hstepS ((hstepS u0 (srepS ([3] : List Int) 32)).1) x10).2.2) == 0) (v := ((hstepS ((hstepS u0 (srepS ([3] : List Int) 32)).1) (srepS ([6] : List Int) (w64 (128 - (((hstepS u0 (srepS ([3] : List Int) 32)).1).Rest))))).2.2) == 0) rfl (by kernel_rfl) (by kernel_rfl) (by kernel_rfl) rfl) ?_; intro a658 hF659; clear hF657
       refine s1 hF659 82 (.bool ((((hstepS ((hstepS u0 (srepS ([3] : List Int) 32)).1) x10).2.2) == 0) && (((hstepS ((hstepS u0 (srepS ([3] : List Int) 32)).1) (srepS ([6] : List Int) (w64 (128 - (((hstepS u0 (srepS ([3] : List Int) 32)).1).Rest))))).2.2) == 0))) ?_; intro a660 hF661; clear hF659
       have hF662 := hF661.atom (((((hstepS ((hstepS u0 (srepS ([3] : List Int) 32)).1) x10).2.2) == 0) && (((hstepS ((hstepS u0 (srepS ([3] : List Int) 32)).1) (srepS ([6] : List Int) (w64 (128 - (((hstepS u0 (srepS ([3] : List Int) 32)).1).Rest))))).2.2) == 0)) == true) (by kernel_rfl); clear hF661
       refine gd hF662 (.agg #[.int .i64 (((hstepS ((hstepS u0 (srepS ([3] : List Int) 32)).1) x10).1).Sent), .int .i64 (((hstepS ((hstepS u0 (srepS ([3] : List Int) 32)).1) x10).1).Got), .int .i64 (((hstepS ((hstepS u0 (srepS ([3] : List Int) 32)).1) x10).1).Rest)]) (m := 1) (cj := []) (bj := (((hstepS ((hstepS u0 (srepS ([3] : List Int) 32)).1) x10).2.2) == 0) && (((hstepS ((hstepS u0 (srepS ([3] : List Int) 32)).1) (srepS ([6] : List Int) (w64 (128 - (((hstepS u0 (srepS ([3] : List Int) 32)).1).Rest))))).2.2) == 0)) rfl rfl (by kernel_rfl) rfl (by kernel_rfl) (by kernel_rfl) (by kernel_rfl) (fun hg => lda hF662 hMx 0 (g := [1]) (b := b385) (off := 0) (k := 3) (cs := [.int .i64 (((hstepS ((hstepS u0 (srepS ([3] : List Int) 32)).1) x10).1).Sent), .int .i64 (((hstepS ((hstepS u0 (srepS ([3] : List Int) 32)).1) x10).1).Got), .int .i64 (((hstepS ((hstepS u0 (srepS ([3] : List Int) 32)).1) x10).1).Rest)]) (vs := [.int .i64 (((hstepS ((hstepS u0 (srepS ([3] : List Int) 32)).1) x10).1).Sent), .int .i64 (((hstepS ((hstepS u0 (srepS ([3] : List Int) 32)).1) x10).1).Got), .int .i64 (((hstepS ((hstepS u0 (srepS ([3] : List Int) 32)).1) x10).1).Rest)]) (ty := 28) rfl (by kernel_rfl) (by kernel_rfl) (by kernel_rfl) (by kernel_rfl) (by kernel_rfl) hg) ?_; intro a663 hF664; clear hF662
       refine gd hF664 (.agg #[.int .i64 (((hstepS u0 (srepS ([3] : List Int) 32)).1).Sent), .int .i64 (((hstepS u0 (srepS ([3] : List Int) 32)).1).Got), .int .i64 (((hstepS u0 (srepS ([3] : List Int) 32)).1).Rest)]) (m := 1) (cj := []) (bj := (((hstepS ((hstepS u0 (srepS ([3] : List Int) 32)).1) x10).2.2) == 0) && (((hstepS ((hstepS u0 (srepS ([3] : List Int) 32)).1) (srepS ([6] : List Int) (w64 (128 - (((hstepS u0 (srepS ([3] : List Int) 32)).1).Rest))))).2.2) == 0)) rfl rfl (by kernel_rfl) rfl (by kernel_rfl) (by kernel_rfl) (by kernel_rfl) (fun hg => lda hF664 hMx 3 (g := [1]) (b := b124) (off := 0) (k := 3) (cs := [.int .i64 (((hstepS u0 (srepS ([3] : List Int) 32)).1).Sent), .int .i64 (((hstepS u0 (srepS ([3] : List Int) 32)).1).Got), .int .i64 (((hstepS u0 (srepS ([3] : List Int) 32)).1).Rest)]) (vs := [.int .i64 (((hstepS u0 (srepS ([3] : List Int) 32)).1).Sent), .int .i64 (((hstepS u0 (srepS ([3] : List Int) 32)).1).Got), .int .i64 (((hstepS u0 (srepS ([3] : List Int) 32)).1).Rest)]) (ty := 28) rfl (by kernel_rfl) (by kernel_rfl) (by kernel_rfl) (by kernel_rfl) (by kernel_rfl) hg) ?_; intro a665 hF666; clear hF664
       refine gd hF666 (.bool (((((hstepS ((hstepS u0 (srepS ([3] : List Int) 32)).1) x10).1).Sent) == (((hstepS u0 (srepS ([3] : List Int) 32)).1).Sent)) && (((((hstepS ((hstepS u0 (srepS ([3] : List Int) 32)).1) x10).1).Got) == (((hstepS u0 (srepS ([3] : List Int) 32)).1).Got)) && (((((hstepS ((hstepS u0 (srepS ([3] : List Int) 32)).1) x10).1).Rest) == (((hstepS u0 (srepS ([3] : List Int) 32)).1).Rest)) && true)))) (m := 1) (cj := []) (bj := (((hstepS ((hstepS u0 (srepS ([3] : List Int) 32)).1) x10).2.2) == 0) && (((hstepS ((hstepS u0 (srepS ([3] : List Int) 32)).1) (srepS ([6] : List Int) (w64 (128 - (((hstepS u0 (srepS ([3] : List Int) 32)).1).Rest))))).2.2) == 0)) rfl rfl (by kernel_rfl) rfl (by kernel_rfl) (by kernel_rfl) (by kernel_rfl) (fun hg => eqs_run hF666 (g := [1]) (xs := #[.int .i64 (((hstepS ((hstepS u0 (srepS ([3] : List Int) 32)).1) x10).1).Sent), .int .i64 (((hstepS ((hstepS u0 (srepS ([3] : List Int) 32)).1) x10).1).Got), .int .i64 (((hstepS ((hstepS u0 (srepS ([3] : List Int) 32)).1) x10).1).Rest)]) (ys := #[.int .i64 (((hstepS u0 (srepS ([3] : List Int) 32)).1).Sent), .int .i64 (((hstepS u0 (srepS ([3] : List Int) 32)).1).Got), .int .i64 (((hstepS u0 (srepS ([3] : List Int) 32)).1).Rest)]) (b := ((((hstepS ((hstepS u0 (srepS ([3] : List Int) 32)).1) x10).1).Sent) == (((hstepS u0 (srepS ([3] : List Int) 32)).1).Sent)) && (((((hstepS ((hstepS u0 (srepS ([3] : List Int) 32)).1) x10).1).Got) == (((hstepS u0 (srepS ([3] : List Int) 32)).1).Got)) && (((((hstepS ((hstepS u0 (srepS ([3] : List Int) 32)).1) x10).1).Rest) == (((hstepS u0 (srepS ([3] : List Int) 32)).1).Rest)) && true))) rfl (by kernel_rfl) (by kernel_rfl) (by kernel_rfl) (by kernel_rfl) hg) ?_; intro a667 hF668; clear hF666
       refine st hF668 (.bool (((((hstepS ((hstepS u0 (srepS ([3] : List Int) 32)).1) x10).2.2) == 0) && (((hstepS ((hstepS u0 (srepS ([3] : List Int) 32)).1) (srepS ([6] : List Int) (w64 (128 - (((hstepS u0 (srepS ([3] : List Int) 32)).1).Rest))))).2.2) == 0)) && (((((hstepS ((hstepS u0 (srepS ([3] : List Int) 32)).1) x10).1).Sent) == (((hstepS u0 (srepS ([3] : List Int) 32)).1).Sent)) && (((((hstepS ((hstepS u0 (srepS ([3] : List Int) 32)).1) x10).1).Got) == (((hstepS u0 (srepS ([3] : List Int) 32)).1).Got)) && (((((hstepS ((hstepS u0 (srepS ([3] : List Int) 32)).1) x10).1).Rest) == (((hstepS u0 (srepS ([3] : List Int) 32)).1).Rest)) && true))))) (nog rfl _) rfl (by kernel_rfl) (pk_and hF668 (g := []) (m := 1) (b := (((hstepS ((hstepS u0 (srepS ([3] : List Int) 32)).1) x10).2.2) == 0) && (((hstepS ((hstepS u0 (srepS ([3] : List Int) 32)).1) (srepS ([6] : List Int) (w64 (128 - (((hstepS u0 (srepS ([3] : List Int) 32)).1).Rest))))).2.2) == 0)) (v := ((((hstepS ((hstepS u0 (srepS ([3] : List Int) 32)).1) x10).1).Sent) == (((hstepS u0 (srepS ([3] : List Int) 32)).1).Sent)) && (((((hstepS ((hstepS u0 (srepS ([3] : List Int) 32)).1) x10).1).Got) == (((hstepS u0 (srepS ([3] : List Int) 32)).1).Got)) && (((((hstepS ((hstepS u0 (srepS ([3] : List Int) 32)).1) x10).1).Rest) == (((hstepS u0 (srepS ([3] : List Int) 32)).1).Rest)) && true))) rfl (by kernel_rfl) (by kernel_rfl) (by kernel_rfl) rfl) ?_; intro a669 hF670; clear hF668
       refine s1 hF670 87 (.bool (((((hstepS ((hstepS u0 (srepS ([3] : List Int) 32)).1) x10).2.2) == 0) && (((hstepS ((hstepS u0 (srepS ([3] : List Int) 32)).1) (srepS ([6] : List Int) (w64 (128 - (((hstepS u0 (srepS ([3] : List Int) 32)).1).Rest))))).2.2) == 0)) && (((((hstepS ((hstepS u0 (srepS ([3] : List Int) 32)).1) x10).1).Sent) == (((hstepS u0 (srepS ([3] : List Int) 32)).1).Sent)) && (((((hstepS ((hstepS u0 (srepS ([3] : List Int) 32)).1) x10).1).Got) == (((hstepS u0 (srepS ([3] : List Int) 32)).1).Got)) && (((((hstepS ((hstepS u0 (srepS ([3] : List Int) 32)).1) x10).1).Rest) == (((hstepS u0 (srepS ([3] : List Int) 32)).1).Rest)) && true))))) ?_; intro a671 hF672; clear hF670
       have hF673 := hF672.atom ((((((hstepS ((hstepS u0 (srepS ([3] : List Int) 32)).1) x10).2.2) == 0) && (((hstepS ((hstepS u0 (srepS ([3] : List Int) 32)).1) (srepS ([6] : List Int) (w64 (128 - (((hstepS u0 (srepS ([3] : List Int) 32)).1).Rest))))).2.2) == 0)) && (((((hstepS ((hstepS u0 (srepS ([3] : List Int) 32)).1) x10).1).Sent) == (((hstepS u0 (srepS ([3] : List Int) 32)).1).Sent)) && (((((hstepS ((hstepS u0 (srepS ([3] : List Int) 32)).1) x10).1).Got) == (((hstepS u0 (srepS ([3] : List Int) 32)).1).Got)) && (((((hstepS ((hstepS u0 (srepS ([3] : List Int) 32)).1) x10).1).Rest) == (((hstepS u0 (srepS ([3] : List Int) 32)).1).Rest)) && true)))) == true) (by kernel_rfl); clear hF672
       refine gd hF673 (.agg #[.int .i64 (((hstepS ((hstepS u0 (srepS ([3] : List Int) 32)).1) (srepS ([6] : List Int) (w64 (128 - (((hstepS u0 (srepS ([3] : List Int) 32)).1).Rest))))).1).Sent), .int .i64 (((hstepS ((hstepS u0 (srepS ([3] : List Int) 32)).1) (srepS ([6] : List Int) (w64 (128 - (((hstepS u0 (srepS ([3] : List Int) 32)).1).Rest))))).1).Got), .int .i64 (((hstepS ((hstepS u0 (srepS ([3] : List Int) 32)).1) (srepS ([6] : List Int) (w64 (128 - (((hstepS u0 (srepS ([3] : List Int) 32)).1).Rest))))).1).Rest)]) (m := 2) (cj := []) (bj := ((((hstepS ((hstepS u0 (srepS ([3] : List Int) 32)).1) x10).2.2) == 0) && (((hstepS ((hstepS u0 (srepS ([3] : List Int) 32)).1) (srepS ([6] : List Int) (w64 (128 - (((hstepS u0 (srepS ([3] : List Int) 32)).1).Rest))))).2.2) == 0)) && (((((hstepS ((hstepS u0 (srepS ([3] : List Int) 32)).1) x10).1).Sent) == (((hstepS u0 (srepS ([3] : List Int) 32)).1).Sent)) && (((((hstepS ((hstepS u0 (srepS ([3] : List Int) 32)).1) x10).1).Got) == (((hstepS u0 (srepS ([3] : List Int) 32)).1).Got)) && (((((hstepS ((hstepS u0 (srepS ([3] : List Int) 32)).1) x10).1).Rest) == (((hstepS u0 (srepS ([3] : List Int) 32)).1).Rest)) && true)))) rfl rfl (by kernel_rfl) rfl (by kernel_rfl) (by kernel_rfl) (by kernel_rfl) (fun hg => lda hF673 hMx 4 (g := [2]) (b := b443) (off := 0) (k := 3) (cs := [.int .i64 (((hstepS ((hstepS u0 (srepS ([3] : List Int) 32)).1) (srepS ([6] : List Int) (w64 (128 - (((hstepS u0 (srepS ([3] : List Int) 32)).1).Rest))))).1).Sent), .int .i64 (((hstepS ((hstepS u0 (srepS ([3] : List Int) 32)).1) (srepS ([6] : List Int) (w64 (128 - (((hstepS u0 (srepS ([3] : List Int) 32)).1).Rest))))).1).Got), .int .i64 (((hstepS ((hstepS u0 (srepS ([3] : List Int) 32)).1) (srepS ([6] : List Int) (w64 (128 - (((hstepS u0 (srepS ([3] : List Int) 32)).1).Rest))))).1).Rest)]) (vs := [.int .i64 (((hstepS ((hstepS u0 (srepS ([3] : List Int) 32)).1) (srepS ([6] : List Int) (w64 (128 - (((hstepS u0 (srepS ([3] : List Int) 32)).1).Rest))))).1).Sent), .int .i64 (((hstepS ((hstepS u0 (srepS ([3] : List Int) 32)).1) (srepS ([6] : List Int) (w64 (128 - (((hstepS u0 (srepS ([3] : List Int) 32)).1).Rest))))).1).Got), .int .i64 (((hstepS ((hstepS u0 (srepS ([3] : List Int) 32)).1) (srepS ([6] : List Int) (w64 (128 - (((hstepS u0 (srepS ([3] : List Int) 32)).1).Rest))))).1).Rest)]) (ty := 28) rfl (by kernel_rfl) (by kernel_rfl) (by kernel_rfl) (by kernel_rfl) (by kernel_rfl) hg) ?_; intro a674 hF675; clear hF673
       refine gp hF675 89 2 [] (((((hstepS ((hstepS u0 (srepS ([3] : List Int) 32)).1) x10).2.2) == 0) && (((hstepS ((hstepS u0 (srepS ([3] : List Int) 32)).1) (srepS ([6] : List Int) (w64 (128 - (((hstepS u0 (srepS ([3] : List Int) 32)).1).Rest))))).2.2) == 0)) && (((((hstepS ((hstepS u0 (srepS ([3] : List Int) 32)).1) x10).1).Sent) == (((hstepS u0 (srepS ([3] : List Int) 32)).1).Sent)) && (((((hstepS ((hstepS u0 (srepS ([3] : List Int) 32)).1) x10).1).Got) == (((hstepS u0 (srepS ([3] : List Int) 32)).1).Got)) && (((((hstepS ((hstepS u0 (srepS ([3] : List Int) 32)).1) x10).1).Rest) == (((hstepS u0 (srepS ([3] : List Int) 32)).1).Rest)) && true)))) (.agg #[.int .i64 0, .int .i64 0, .int .i64 0]) rfl rfl ?_; intro a676 hF677; clear hF675
       refine gd hF677 (.bool (((((hstepS ((hstepS u0 (srepS ([3] : List Int) 32)).1) (srepS ([6] : List Int) (w64 (128 - (((hstepS u0 (srepS ([3] : List Int) 32)).1).Rest))))).1).Sent) == 0) && (((((hstepS ((hstepS u0 (srepS ([3] : List Int) 32)).1) (srepS ([6] : List Int) (w64 (128 - (((hstepS u0 (srepS ([3] : List Int) 32)).1).Rest))))).1).Got) == 0) && (((((hstepS ((hstepS u0 (srepS ([3] : List Int) 32)).1) (srepS ([6] : List Int) (w64 (128 - (((hstepS u0 (srepS ([3] : List Int) 32)).1).Rest))))).1).Rest) == 0) && true)))) (m := 2) (cj := []) (bj := ((((hstepS ((hstepS u0 (srepS ([3] : List Int) 32)).1) x10).2.2) == 0) && (((hstepS ((hstepS u0 (srepS ([3] : List Int) 32)).1) (srepS ([6] : List Int) (w64 (128 - (((hstepS u0 (srepS ([3] : List Int) 32)).1).Rest))))).2.2) == 0)) && (((((hstepS ((hstepS u0 (srepS ([3] : List Int) 32)).1) x10).1).Sent) == (((hstepS u0 (srepS ([3] : List Int) 32)).1).Sent)) && (((((hstepS ((hstepS u0 (srepS ([3] : List Int) 32)).1) x10).1).Got) == (((hstepS u0 (srepS ([3] : List Int) 32)).1).Got)) && (((((hstepS ((hstepS u0 (srepS ([3] : List Int) 32)).1) x10).1).Rest) == (((hstepS u0 (srepS ([3] : List Int) 32)).1).Rest)) && true)))) rfl rfl (by kernel_rfl) rfl (by kernel_rfl) (by kernel_rfl) (by kernel_rfl) (fun hg => eqs_run hF677 (g := [2]) (xs := #[.int .i64 (((hstepS ((hstepS u0 (srepS ([3] : List Int) 32)).1) (srepS ([6] : List Int) (w64 (128 - (((hstepS u0 (srepS ([3] : List Int) 32)).1).Rest))))).1).Sent), .int .i64 (((hstepS ((hstepS u0 (srepS ([3] : List Int) 32)).1) (srepS ([6] : List Int) (w64 (128 - (((hstepS u0 (srepS ([3] : List Int) 32)).1).Rest))))).1).Got), .int .i64 (((hstepS ((hstepS u0 (srepS ([3] : List Int) 32)).1) (srepS ([6] : List Int) (w64 (128 - (((hstepS u0 (srepS ([3] : List Int) 32)).1).Rest))))).1).Rest)]) (ys := #[.int .i64 0, .int .i64 0, .int .i64 0]) (b := ((((hstepS ((hstepS u0 (srepS ([3] : List Int) 32)).1) (srepS ([6] : List Int) (w64 (128 - (((hstepS u0 (srepS ([3] : List Int) 32)).1).Rest))))).1).Sent) == 0) && (((((hstepS ((hstepS u0 (srepS ([3] : List Int) 32)).1) (srepS ([6] : List Int) (w64 (128 - (((hstepS u0 (srepS ([3] : List Int) 32)).1).Rest))))).1).Got) == 0) && (((((hstepS ((hstepS u0 (srepS ([3] : List Int) 32)).1) (srepS ([6] : List Int) (w64 (128 - (((hstepS u0 (srepS ([3] : List Int) 32)).1).Rest))))).1).Rest) == 0) && true))) rfl (by kernel_rfl) (by kernel_rfl) (by kernel_rfl) (by kernel_rfl) hg) ?_; intro a678 hF679; clear hF677
       refine st hF679 (.bool ((((((hstepS ((hstepS u0 (srepS ([3] : List Int) 32)).1) x10).2.2) == 0) && (((hstepS ((hstepS u0 (srepS ([3] : List Int) 32)).1) (srepS ([6] : List Int) (w64 (128 - (((hstepS u0 (srepS ([3] : List Int) 32)).1).Rest))))).2.2) == 0)) && (((((hstepS ((hstepS u0 (srepS ([3] : List Int) 32)).1) x10).1).Sent) == (((hstepS u0 (srepS ([3] : List Int) 32)).1).Sent)) && (((((hstepS ((hstepS u0 (srepS ([3] : List Int) 32)).1) x10).1).Got) == (((hstepS u0 (srepS ([3] : List Int) 32)).1).Got)) && (((((hstepS ((hstepS u0 (srepS ([3] : List Int) 32)).1) x10).1).Rest) == (((hstepS u0 (srepS ([3] : List Int) 32)).1).Rest)) && true)))) && (((((hstepS ((hstepS u0 (srepS ([3] : List Int) 32)).1) (srepS ([6] : List Int) (w64 (128 - (((hstepS u0 (srepS ([3] : List Int) 32)).1).Rest))))).1).Sent) == 0) && (((((hstepS ((hstepS u0 (srepS ([3] : List Int) 32)).1) (srepS ([6] : List Int) (w64 (128 - (((hstepS u0 (srepS ([3] : List Int) 32)).1).Rest))))).1).Got) == 0) && (((((hstepS ((hstepS u0 (srepS ([3] : List Int) 32)).1) (srepS ([6] : List Int) (w64 (128 - (((hstepS u0 (srepS ([3] : List Int) 32)).1).Rest))))).1).Rest) == 0) && true))))) (nog rfl _) rfl (by kernel_rfl) (pk_and hF679 (g := []) (m := 2) (b := ((((hstepS ((hstepS u0 (srepS ([3] : List Int) 32)).1) x10).2.2) == 0) && (((hstepS ((hstepS u0 (srepS ([3] : List Int) 32)).1) (srepS ([6] : List Int) (w64 (128 - (((hstepS u0 (srepS ([3] : List Int) 32)).1).Rest))))).2.2) == 0)) && (((((hstepS ((hstepS u0 (srepS ([3] : List Int) 32)).1) x10).1).Sent) == (((hstepS u0 (srepS ([3] : List Int) 32)).1).Sent)) && (((((hstepS ((hstepS u0 (srepS ([3] : List Int) 32)).1) x10).1).Got) == (((hstepS u0 (srepS ([3] : List Int) 32)).1).Got)) && (((((hstepS ((hstepS u0 (srepS ([3] : List Int) 32)).1) x10).1).Rest) == (((hstepS u0 (srepS ([3] : List Int) 32)).1).Rest)) && true)))) (v := ((((hstepS ((hstepS u0 (srepS ([3] : List Int) 32)).1) (srepS ([6] : List Int) (w64 (128 - (((hstepS u0 (srepS ([3] : List Int) 32)).1).Rest))))).1).Sent) == 0) && (((((hstepS ((hstepS u0 (srepS ([3] : List Int) 32)).1) (srepS ([6] : List Int) (w64 (128 - (((hstepS u0 (srepS ([3] : List Int) 32)).1).Rest))))).1).Got) == 0) && (((((hstepS ((hstepS u0 (srepS ([3] : List Int) 32)).1) (srepS ([6] : List Int) (w64 (128 - (((hstepS u0 (srepS ([3] : List Int) 32)).1).Rest))))).1).Rest) == 0) && true))) rfl (by kernel_rfl) (by kernel_rfl) (by kernel_rfl) rfl) ?_; intro a680 hF681; clear hF679
       refine s1 hF681 4 (.bool ((((((hstepS ((hstepS u0 (srepS ([3] : List Int) 32)).1) x10).2.2) == 0) && (((hstepS ((hstepS u0 (srepS ([3] : List Int) 32)).1) (srepS ([6] : List Int) (w64 (128 - (((hstepS u0 (srepS ([3] : List Int) 32)).1).Rest))))).2.2) == 0)) && (((((hstepS ((hstepS u0 (srepS ([3] : List Int) 32)).1) x10).1).Sent) == (((hstepS u0 (srepS ([3] : List Int) 32)).1).Sent)) && (((((hstepS ((hstepS u0 (srepS ([3] : List Int) 32)).1) x10).1).Got) == (((hstepS u0 (srepS ([3] : List Int) 32)).1).Got)) && (((((hstepS ((hstepS u0 (srepS ([3] : List Int) 32)).1) x10).1).Rest) == (((hstepS u0 (srepS ([3] : List Int) 32)).1).Rest)) && true)))) && (((((hstepS ((hstepS u0 (srepS ([3] : List Int) 32)).1) (srepS ([6] : List Int) (w64 (128 - (((hstepS u0 (srepS ([3] : List Int) 32)).1).Rest))))).1).Sent) == 0) && (((((hstepS ((hstepS u0 (srepS ([3] : List Int) 32)).1) (srepS ([6] : List Int) (w64 (128 - (((hstepS u0 (srepS ([3] : List Int) 32)).1).Rest))))).1).Got) == 0) && (((((hstepS ((hstepS u0 (srepS ([3] : List Int) 32)).1) (srepS ([6] : List Int) (w64 (128 - (((hstepS u0 (srepS ([3] : List Int) 32)).1).Rest))))).1).Rest) == 0) && true))))) ?_; intro a682 hF683; clear hF681
       refine nlH (hQ646 _ _ ?_); clear hQ646 hQ646Q
       refine wp_ret ?_
       refine rt (fn := Try.f5) (v := .bool ((((((hstepS ((hstepS u0 (srepS ([3] : List Int) 32)).1) x10).2.2) == 0) && (((hstepS ((hstepS u0 (srepS ([3] : List Int) 32)).1) (srepS ([6] : List Int) (w64 (128 - (((hstepS u0 (srepS ([3] : List Int) 32)).1).Rest))))).2.2) == 0)) && (((((hstepS ((hstepS u0 (srepS ([3] : List Int) 32)).1) x10).1).Sent) == (((hstepS u0 (srepS ([3] : List Int) 32)).1).Sent)) && (((((hstepS ((hstepS u0 (srepS ([3] : List Int) 32)).1) x10).1).Got) == (((hstepS u0 (srepS ([3] : List Int) 32)).1).Got)) && (((((hstepS ((hstepS u0 (srepS ([3] : List Int) 32)).1) x10).1).Rest) == (((hstepS u0 (srepS ([3] : List Int) 32)).1).Rest)) && true)))) && (((((hstepS ((hstepS u0 (srepS ([3] : List Int) 32)).1) (srepS ([6] : List Int) (w64 (128 - (((hstepS u0 (srepS ([3] : List Int) 32)).1).Rest))))).1).Sent) == 0) && (((((hstepS ((hstepS u0 (srepS ([3] : List Int) 32)).1) (srepS ([6] : List Int) (w64 (128 - (((hstepS u0 (srepS ([3] : List Int) 32)).1).Rest))))).1).Got) == 0) && (((((hstepS ((hstepS u0 (srepS ([3] : List Int) 32)).1) (srepS ([6] : List Int) (w64 (128 - (((hstepS u0 (srepS ([3] : List Int) 32)).1).Rest))))).1).Rest) == 0) && true))))) hF683 (re1 hF683 (fn := Try.f5) rfl (by kernel_rfl)) ?_
       exact ⟨(((((hstepS ((hstepS u0 (srepS ([3] : List Int) 32)).1) x10).2.2) == 0) && (((hstepS ((hstepS u0 (srepS ([3] : List Int) 32)).1) (srepS ([6] : List Int) (w64 (128 - (((hstepS u0 (srepS ([3] : List Int) 32)).1).Rest))))).2.2) == 0)) && (((((hstepS ((hstepS u0 (srepS ([3] : List Int) 32)).1) x10).1).Sent) == (((hstepS u0 (srepS ([3] : List Int) 32)).1).Sent)) && (((((hstepS ((hstepS u0 (srepS ([3] : List Int) 32)).1) x10).1).Got) == (((hstepS u0 (srepS ([3] : List Int) 32)).1).Got)) && (((((hstepS ((hstepS u0 (srepS ([3] : List Int) 32)).1) x10).1).Rest) == (((hstepS u0 (srepS ([3] : List Int) 32)).1).Rest)) && true)))) && (((((hstepS ((hstepS u0 (srepS ([3] : List Int) 32)).1) (srepS ([6] : List Int) (w64 (128 - (((hstepS u0 (srepS ([3] : List Int) 32)).1).Rest))))).1).Sent) == 0) && (((((hstepS ((hstepS u0 (srepS ([3] : List Int) 32)).1) (srepS ([6] : List Int) (w64 (128 - (((hstepS u0 (srepS ([3] : List Int) 32)).1).Rest))))).1).Got) == 0) && (((((hstepS ((hstepS u0 (srepS ([3] : List Int) 32)).1) (srepS ([6] : List Int) (w64 (128 - (((hstepS u0 (srepS ([3] : List Int) 32)).1).Rest))))).1).Rest) == 0) && true))), rfl, hp454, hMx.below⟩

end Go.Proofs.Ytodkadlfhlagpaa
