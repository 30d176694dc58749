/- The walks, made by program: each call does what its pure predicate says. -/
import Derived.Test.YtkogkombalcgeaaPD
import Derived.Test.YtkogkombalcgeaaWC
set_option linter.unusedVariables false
set_option linter.unusedSimpArgs false
namespace Go.Proofs.Ytkogkombalcgeaa
open Go.Sy Go.RowKit
theorem fCount_fun (u0 : List Filter) (u1 : Bool) (ao1 : Option Addr) (cap2 : Nat) (Z : Fz) (w : World) (hs3 : SlR tyFilter Z ao1 cap2 u0) (hZ : Z.on w) : Calls Try.prog 18 #[.slice ao1 u0.length cap2, .bool u1] w fun e w' => e = .returned (.tuple #[.int .i64 ((fCountS u0 u1).1), .int .i64 ((fCountS u0 u1).2)]) ∧ Below w.heap.size w w' :=
  (fCount_walk u0 u1 ao1 cap2 Z w hs3 hZ (fCount_ok u0 u1)).mono fun _ _ ⟨r, he, hk, hb⟩ => ⟨by subst hk; exact he, hb⟩

set_option maxRecDepth 100000 in
theorem filtered_walk   (Z : Fz) (w : World)  (hZ : Z.on w) {K : Bool → Prop} (hp : filtered_vc  K) : Calls Try.prog 16 #[] w fun e w' => ∃ r : Bool, e = .returned (.bool r) ∧ K r ∧ Below w.heap.size w w' := by
 refine enter0 Try.func16 rfl rfl (by kernel_rfl) ?_; intro a0 hF0; have hM0 := Mem.start w Z hZ; have hle0 := Fz.le.refl Z
 refine sqH ?_; intro hQ1Q hQ1
 refine s1 hF0 0 (.bool false) ?_; intro a2 hF3; clear hF0
 refine nlH (hQ1 _ _ ?_); clear hQ1 hQ1Q
 refine sqH ?_; intro hQ4Q hQ4
 refine cl hF3 15 #[.int .i64 3, .int .i64 6, .bool false] (nog rfl _) rfl (by kernel_rfl) (by kernel_rfl) ?_
 refine (franges_fun 3 6 false _ _ hM0.fz).mono ?_; rintro _ wd5 ⟨ao9, cap10, Z11, rfl, hm⟩; refine ⟨_, rfl, ?_⟩; intro a6 hF7; have hM8 := hM0.callZ hm; have hle12 := hm.ext.le; clear hm hM0 hF3
 replace hle0 := Fz.le.trans hle0 hle12
 have hM13 : Mem w.heap.size [] w Z [.own tyFilter 28 ao9 cap10 ((rangesS 3 6 false).1)] Z11 wd5 := hM8; clear hM8
 have hp14 := hp (hM13.ownSmall 0 rfl); clear hp
 refine s1 hF7 5 (.tuple #[.slice ao9 ((rangesS 3 6 false).1).length cap10, .int .i64 ((rangesS 3 6 false).2)]) ?_; intro a15 hF16; clear hF7
 refine s1 hF16 7 (.slice ao9 ((rangesS 3 6 false).1).length cap10) ?_; intro a17 hF18; clear hF16
 refine s1 hF18 8 (.int .i64 ((rangesS 3 6 false).2)) ?_; intro a19 hF20; clear hF18
 refine s1 hF20 1 (.slice ao9 ((rangesS 3 6 false).1).length cap10) ?_; intro a21 hF22; clear hF20
 refine s1 hF22 2 (.int .i64 ((rangesS 3 6 false).2)) ?_; intro a23 hF24; clear hF22
 refine nlH (hQ4 _ _ ?_); clear hQ4 hQ4Q
 refine sqH ?_; intro hQ25Q hQ25
 refine s1 hF24 10 (.slice ao9 ((rangesS 3 6 false).1).length cap10) ?_; intro a26 hF27; clear hF24
 obtain ⟨Z28, hle29, hM30, hs31⟩ := hM13.freeze 0 rfl
 replace hle0 := Fz.le.trans hle0 hle29
 have hM32 : Mem w.heap.size [] w Z [] Z28 wd5 := hM30; clear hM30
 refine fcl hF27 hM32 (.tuple #[.int .i64 ((fCountS ((rangesS 3 6 false).1) false).1), .int .i64 ((fCountS ((rangesS 3 6 false).1) false).2)]) 18 #[.slice ao9 ((rangesS 3 6 false).1).length cap10, .bool false] (nog rfl _) rfl (by kernel_rfl) (fun _ => by kernel_rfl) (fCount_fun ((rangesS 3 6 false).1) false ao9 cap10 _ _ hs31 hM32.fz) ?_; intro a33 wd35 hF34 hM36; clear hF27 hM32
 refine s1 hF34 9 (.tuple #[.int .i64 ((fCountS ((rangesS 3 6 false).1) false).1), .int .i64 ((fCountS ((rangesS 3 6 false).1) false).2)]) ?_; intro a37 hF38; clear hF34
 refine s1 hF38 12 (.int .i64 ((fCountS ((rangesS 3 6 false).1) false).1)) ?_; intro a39 hF40; clear hF38
 refine s1 hF40 13 (.int .i64 ((fCountS ((rangesS 3 6 false).1) false).2)) ?_; intro a41 hF42; clear hF40
 refine s1 hF42 3 (.int .i64 ((fCountS ((rangesS 3 6 false).1) false).1)) ?_; intro a43 hF44; clear hF42
 refine s1 hF44 4 (.int .i64 ((fCountS ((rangesS 3 6 false).1) false).2)) ?_; intro a45 hF46; clear hF44
 refine nlH (hQ25 _ _ ?_); clear hQ25 hQ25Q
 have hF47 : Fr 32 [] [⟨1, [], .slice ao9 ((rangesS 3 6 false).1).length cap10⟩, ⟨2, [], .int .i64 ((rangesS 3 6 false).2)⟩, ⟨3, [], .int .i64 ((fCountS ((rangesS 3 6 false).1) false).1)⟩, ⟨4, [], .int .i64 ((fCountS ((rangesS 3 6 false).1) false).2)⟩] a45 := hF46.region (by kernel_rfl) (by kernel_rfl); clear hF46
 refine sqH ?_; intro hQ48Q hQ48
 refine s1 hF47 14 (.int .i64 ((rangesS 3 6 false).2)) ?_; intro a49 hF50; clear hF47
 refine s1 hF50 15 (.bool (((rangesS 3 6 false).2) == 0)) ?_; intro a51 hF52; clear hF50
 refine s1 hF52 16 (.bool (((rangesS 3 6 false).2) == 0)) ?_; intro a53 hF54; clear hF52
 have hF55 := hF54.atom ((((rangesS 3 6 false).2) == 0) == true) (by kernel_rfl); clear hF54
 refine gp hF55 17 0 [] (((rangesS 3 6 false).2) == 0) (.int .i64 ((fCountS ((rangesS 3 6 false).1) false).2)) rfl rfl ?_; intro a56 hF57; clear hF55
 refine gp hF57 18 0 [] (((rangesS 3 6 false).2) == 0) (.bool (((fCountS ((rangesS 3 6 false).1) false).2) == 0)) rfl rfl ?_; intro a58 hF59; clear hF57
 refine st hF59 (.bool ((((rangesS 3 6 false).2) == 0) && (((fCountS ((rangesS 3 6 false).1) false).2) == 0))) (nog rfl _) rfl (by kernel_rfl) (pk_and hF59 (g := []) (m := 0) (b := ((rangesS 3 6 false).2) == 0) (v := ((fCountS ((rangesS 3 6 false).1) false).2) == 0) rfl (by kernel_rfl) (by kernel_rfl) (by kernel_rfl) rfl) ?_; intro a60 hF61; clear hF59
 refine s1 hF61 20 (.bool ((((rangesS 3 6 false).2) == 0) && (((fCountS ((rangesS 3 6 false).1) false).2) == 0))) ?_; intro a62 hF63; clear hF61
 have hF64 := hF63.atom (((((rangesS 3 6 false).2) == 0) && (((fCountS ((rangesS 3 6 false).1) false).2) == 0)) == true) (by kernel_rfl); clear hF63
 refine gp hF64 21 1 [] ((((rangesS 3 6 false).2) == 0) && (((fCountS ((rangesS 3 6 false).1) false).2) == 0)) (.int .i64 ((fCountS ((rangesS 3 6 false).1) false).1)) rfl rfl ?_; intro a65 hF66; clear hF64
 refine gp hF66 22 1 [] ((((rangesS 3 6 false).2) == 0) && (((fCountS ((rangesS 3 6 false).1) false).2) == 0)) (.bool (((fCountS ((rangesS 3 6 false).1) false).1) == 4)) rfl rfl ?_; intro a67 hF68; clear hF66
 refine st hF68 (.bool (((((rangesS 3 6 false).2) == 0) && (((fCountS ((rangesS 3 6 false).1) false).2) == 0)) && (((fCountS ((rangesS 3 6 false).1) false).1) == 4))) (nog rfl _) rfl (by kernel_rfl) (pk_and hF68 (g := []) (m := 1) (b := (((rangesS 3 6 false).2) == 0) && (((fCountS ((rangesS 3 6 false).1) false).2) == 0)) (v := ((fCountS ((rangesS 3 6 false).1) false).1) == 4) rfl (by kernel_rfl) (by kernel_rfl) (by kernel_rfl) rfl) ?_; intro a69 hF70; clear hF68
 refine s1 hF70 24 (.bool (((((rangesS 3 6 false).2) == 0) && (((fCountS ((rangesS 3 6 false).1) false).2) == 0)) && (((fCountS ((rangesS 3 6 false).1) false).1) == 4))) ?_; intro a71 hF72; clear hF70
 have hF73 := hF72.atom ((((((rangesS 3 6 false).2) == 0) && (((fCountS ((rangesS 3 6 false).1) false).2) == 0)) && (((fCountS ((rangesS 3 6 false).1) false).1) == 4)) == true) (by kernel_rfl); clear hF72
 refine gp hF73 25 2 [] (((((rangesS 3 6 false).2) == 0) && (((fCountS ((rangesS 3 6 false).1) false).2) == 0)) && (((fCountS ((rangesS 3 6 false).1) false).1) == 4)) (.slice ao9 ((rangesS 3 6 false).1).length cap10) rfl rfl ?_; intro a74 hF75; clear hF73
 refine gp hF75 26 2 [] (((((rangesS 3 6 false).2) == 0) && (((fCountS ((rangesS 3 6 false).1) false).2) == 0)) && (((fCountS ((rangesS 3 6 false).1) false).1) == 4)) (.agg #[.int .i64 3, .int .i64 2047, .bool false]) rfl rfl ?_; intro a76 hF77; clear hF75
 refine gp hF77 27 2 [] (((((rangesS 3 6 false).2) == 0) && (((fCountS ((rangesS 3 6 false).1) false).2) == 0)) && (((fCountS ((rangesS 3 6 false).1) false).1) == 4)) (.agg #[.int .i64 4, .int .i64 2046, .bool false]) rfl rfl ?_; intro a78 hF79; clear hF77
 refine gp hF79 28 2 [] (((((rangesS 3 6 false).2) == 0) && (((fCountS ((rangesS 3 6 false).1) false).2) == 0)) && (((fCountS ((rangesS 3 6 false).1) false).1) == 4)) (.agg #[.int .i64 6, .int .i64 2047, .bool false]) rfl rfl ?_; intro a80 hF81; clear hF79
 rcases Bool.eq_false_or_eq_true (((((rangesS 3 6 false).2) == 0) && (((fCountS ((rangesS 3 6 false).1) false).2) == 0)) && (((fCountS ((rangesS 3 6 false).1) false).1) == 4)) with hb82 | hb82
 · -- true
  have hp83 := hp14.1 hb82; clear hp14
  have hF84 := hF81.reval (d := 24) (c := []) (v := .bool (((((rangesS 3 6 false).2) == 0) && (((fCountS ((rangesS 3 6 false).1) false).2) == 0)) && (((fCountS ((rangesS 3 6 false).1) false).1) == 4))) (by kernel_rfl) (.bool true) (by rw [hb82]); clear hF81
  have hF85 := hF84.setc (d := 25) (c := [2]) (v := .slice ao9 ((rangesS 3 6 false).1).length cap10) (by kernel_rfl) (v' := .slice ao9 ((rangesS 3 6 false).1).length cap10) (by rw [hb82]; kernel_rfl); clear hF84
  have hF86 := hF85.setc (d := 26) (c := [2]) (v := .agg #[.int .i64 3, .int .i64 2047, .bool false]) (by kernel_rfl) (v' := .agg #[.int .i64 3, .int .i64 2047, .bool false]) (by rw [hb82]; kernel_rfl); clear hF85
  have hF87 := hF86.setc (d := 27) (c := [2]) (v := .agg #[.int .i64 4, .int .i64 2046, .bool false]) (by kernel_rfl) (v' := .agg #[.int .i64 4, .int .i64 2046, .bool false]) (by rw [hb82]; kernel_rfl); clear hF86
  have hF88 := hF87.setc (d := 28) (c := [2]) (v := .agg #[.int .i64 6, .int .i64 2047, .bool false]) (by kernel_rfl) (v' := .agg #[.int .i64 6, .int .i64 2047, .bool false]) (by rw [hb82]; kernel_rfl); clear hF87
  refine sn hF88 hM36 (fun b => .slice (some ⟨b, 0, none⟩) 3 3) [.int .i64 3, .int .i64 2047, .bool false, .int .i64 4, .int .i64 2046, .bool false, .int .i64 6, .int .i64 2047, .bool false] 28 (by rw [wanted_of hF88 (b := true) rfl rfl (by kernel_rfl) (by kernel_rfl)]; rfl) rfl (by kernel_rfl) (by kernel_rfl) ?_; intro b89 a90 wd92 hF91 hM93; clear hF88 hM36
  have hM94 : Mem w.heap.size [] w Z [.own tyFilter 28 (some ⟨b89, 0, none⟩) 3 ([(⟨3, 2047, false⟩ : Filter), (⟨4, 2046, false⟩ : Filter), (⟨6, 2047, false⟩ : Filter)] : List Filter)] Z28 wd92 := hM93.rowOwn (T := tyFilter) (xs := ([(⟨3, 2047, false⟩ : Filter), (⟨4, 2046, false⟩ : Filter), (⟨6, 2047, false⟩ : Filter)] : List Filter)) 0 rfl (by decide) (by decide) ((RepAll.one (T := tyFilter) (x := (⟨3, 2047, false⟩ : Filter)) rfl).append ((RepAll.one (T := tyFilter) (x := (⟨4, 2046, false⟩ : Filter)) rfl).append (RepAll.one (T := tyFilter) (x := (⟨6, 2047, false⟩ : Filter)) rfl))); clear hM93
  obtain ⟨Z95, hle96, hM97, hs98⟩ := hM94.freeze 0 rfl
  replace hs31 := hs31.mono hle96
  replace hle0 := Fz.le.trans hle0 hle96
  have hM99 : Mem w.heap.size [] w Z [] Z95 wd92 := hM97; clear hM97
  refine fcl hF91 hM99 (.bool (feqS ((rangesS 3 6 false).1) ([(⟨3, 2047, false⟩ : Filter), (⟨4, 2046, false⟩ : Filter), (⟨6, 2047, false⟩ : Filter)] : List Filter))) 17 #[.slice ao9 ((rangesS 3 6 false).1).length cap10, .slice (some ⟨b89, 0, none⟩) ([(⟨3, 2047, false⟩ : Filter), (⟨4, 2046, false⟩ : Filter), (⟨6, 2047, false⟩ : Filter)] : List Filter).length 3] (by rw [wanted_of hF91 (b := true) rfl rfl (by kernel_rfl) (by kernel_rfl)]; rfl) rfl (by kernel_rfl) (fun _ => by kernel_rfl) (feq_fun ((rangesS 3 6 false).1) ([(⟨3, 2047, false⟩ : Filter), (⟨4, 2046, false⟩ : Filter), (⟨6, 2047, false⟩ : Filter)] : List Filter) ao9 cap10 (some ⟨b89, 0, none⟩) 3 _ _ hs31 hs98 hM99.fz) ?_; intro a100 wd102 hF101 hM103; clear hF91 hM99
  refine s1 hF101 31 (.bool (feqS ((rangesS 3 6 false).1) ([(⟨3, 2047, false⟩ : Filter), (⟨4, 2046, false⟩ : Filter), (⟨6, 2047, false⟩ : Filter)] : List Filter))) ?_; intro a104 hF105; clear hF101
  refine s1 hF105 0 (.bool (feqS ((rangesS 3 6 false).1) ([(⟨3, 2047, false⟩ : Filter), (⟨4, 2046, false⟩ : Filter), (⟨6, 2047, false⟩ : Filter)] : List Filter))) ?_; intro a106 hF107; clear hF105
  refine nlH (hQ48 _ _ ?_); clear hQ48 hQ48Q
  refine wp_ret ?_
  refine rt (fn := Try.f16) (v := .bool (feqS ((rangesS 3 6 false).1) ([(⟨3, 2047, false⟩ : Filter), (⟨4, 2046, false⟩ : Filter), (⟨6, 2047, false⟩ : Filter)] : List Filter))) hF107 (re1 hF107 (fn := Try.f16) rfl (by kernel_rfl)) ?_
  exact ⟨(feqS ((rangesS 3 6 false).1) ([(⟨3, 2047, false⟩ : Filter), (⟨4, 2046, false⟩ : Filter), (⟨6, 2047, false⟩ : Filter)] : List Filter)), rfl, hp83, hM103.below⟩
 · -- false
  have hp108 := hp14.2 hb82; clear hp14
  have hF109 := hF81.reval (d := 24) (c := []) (v := .bool (((((rangesS 3 6 false).2) == 0) && (((fCountS ((rangesS 3 6 false).1) false).2) == 0)) && (((fCountS ((rangesS 3 6 false).1) false).1) == 4))) (by kernel_rfl) (.bool false) (by rw [hb82]); clear hF81
  have hF110 := hF109.setc (d := 25) (c := [2]) (v := .slice ao9 ((rangesS 3 6 false).1).length cap10) (by kernel_rfl) (v' := undef) (by rw [hb82]; kernel_rfl); clear hF109
  have hF111 := hF110.setc (d := 26) (c := [2]) (v := .agg #[.int .i64 3, .int .i64 2047, .bool false]) (by kernel_rfl) (v' := undef) (by rw [hb82]; kernel_rfl); clear hF110
  have hF112 := hF111.setc (d := 27) (c := [2]) (v := .agg #[.int .i64 4, .int .i64 2046, .bool false]) (by kernel_rfl) (v' := undef) (by rw [hb82]; kernel_rfl); clear hF111
  have hF113 := hF112.setc (d := 28) (c := [2]) (v := .agg #[.int .i64 6, .int .i64 2047, .bool false]) (by kernel_rfl) (v' := undef) (by rw [hb82]; kernel_rfl); clear hF112
  refine sk hF113 (b := false) rfl rfl (by kernel_rfl) (by kernel_rfl) rfl rfl (by kernel_rfl) ?_; intro a114 hF115; clear hF113
  refine sk hF115 (b := false) rfl rfl (by kernel_rfl) (by kernel_rfl) rfl rfl (by kernel_rfl) ?_; intro a116 hF117; clear hF115
  refine s1 hF117 31 (.bool false) ?_; intro a118 hF119; clear hF117
  refine s1 hF119 0 (.bool false) ?_; intro a120 hF121; clear hF119
  refine nlH (hQ48 _ _ ?_); clear hQ48 hQ48Q
  refine wp_ret ?_
  refine rt (fn := Try.f16) (v := .bool false) hF121 (re1 hF121 (fn := Try.f16) rfl (by kernel_rfl)) ?_
  exact ⟨false, rfl, hp108, hM36.below⟩

end Go.Proofs.Ytkogkombalcgeaa
