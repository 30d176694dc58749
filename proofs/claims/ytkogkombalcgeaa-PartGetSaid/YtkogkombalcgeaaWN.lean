/- The walks, made by program: each call does what its pure predicate says. -/
import Derived.Test.YtkogkombalcgeaaPN
import Derived.Test.YtkogkombalcgeaaWM
set_option linter.unusedVariables false
set_option linter.unusedSimpArgs false
namespace Go.Proofs.Ytkogkombalcgeaa
open Go.Sy Go.RowKit
theorem pbegin_fun (u0 : List Int) (ao1 : Option Addr) (cap2 : Nat) (Z : Fz) (w : World) (hs3 : SlR (tyInt .u8) Z ao1 cap2 u0) (hZ : Z.on w) : Calls Try.prog 43 #[.slice ao1 u0.length cap2] w fun e w' => ∃ (ao1001 : Option Addr) (cap1002 : Nat) (ao1004 : Option Addr) (cap1005 : Nat) (Z' : Fz), e = .returned (.tuple #[.agg #[.slice ao1001 (pbeginS u0).1.Data.length cap1002, .int .i64 (pbeginS u0).1.At, .int .i64 (pbeginS u0).1.Next, .int .i64 (pbeginS u0).1.Left, .bool (pbeginS u0).1.Done], .slice ao1004 (pbeginS u0).2.1.length cap1005, .int .i64 (pbeginS u0).2.2]) ∧ SlR (tyInt .u8) Z' ao1001 cap1002 (pbeginS u0).1.Data ∧ SlR (tyInt .u8) Z' ao1004 cap1005 (pbeginS u0).2.1 ∧ Mem w.heap.size [] w Z [] Z' w' :=
  (pbegin_walk u0 ao1 cap2 Z w hs3 hZ (pbegin_ok u0)).mono fun _ _ ⟨r, h0, h1, h2, h3, h4, he, hk, f0, f1, hm⟩ => by subst hk; exact ⟨h0, h1, h2, h3, h4, he, f0, f1, hm⟩

theorem pget_fun (u0 : Getter) (u1 : List Int) (hpre : ∀ x ∈ u1, 0 ≤ x ∧ x ≤ 255) (ao1 : Option Addr) (cap2 : Nat) (ao4 : Option Addr) (cap5 : Nat) (Z : Fz) (w : World) (hs3 : SlR (tyInt .u8) Z ao1 cap2 u0.Data) (hs6 : SlR (tyInt .u8) Z ao4 cap5 u1) (hZ : Z.on w) : Calls Try.prog 41 #[.agg #[.int .i64 u0.Want, .slice ao1 u0.Data.length cap2, .int .i64 u0.Next, .int .i64 u0.Block, .int .i64 u0.Left], .slice ao4 u1.length cap5] w fun e w' => ∃ (ao1001 : Option Addr) (cap1002 : Nat) (ao1004 : Option Addr) (cap1005 : Nat) (ao1007 : Option Addr) (cap1008 : Nat) (Z' : Fz), e = .returned (.tuple #[.agg #[.int .i64 (pgetS u0 u1).1.Want, .slice ao1001 (pgetS u0 u1).1.Data.length cap1002, .int .i64 (pgetS u0 u1).1.Next, .int .i64 (pgetS u0 u1).1.Block, .int .i64 (pgetS u0 u1).1.Left], .slice ao1004 (pgetS u0 u1).2.1.length cap1005, .slice ao1007 (pgetS u0 u1).2.2.1.length cap1008, .int .i64 (pgetS u0 u1).2.2.2.1]) ∧ SlR (tyInt .u8) Z' ao1001 cap1002 (pgetS u0 u1).1.Data ∧ (ao1004.isNone = (pgetS u0 u1).2.2.2.2.1) ∧ (ao1007.isNone = (pgetS u0 u1).2.2.2.2.2) ∧ Mem w.heap.size [] w Z [.own (tyInt .u8) 5 ao1004 cap1005 (pgetS u0 u1).2.1, .own (tyInt .u8) 5 ao1007 cap1008 (pgetS u0 u1).2.2.1] Z' w' :=
  (pget_walk u0 u1 ao1 cap2 ao4 cap5 Z w hs3 hs6 hZ (pget_ok u0 u1 hpre)).mono fun _ _ ⟨r, h0, h1, h2, h3, h4, h5, h6, he, hk, f0, f1, f2, hm⟩ => by subst hk; exact ⟨h0, h1, h2, h3, h4, h5, h6, he, f0, f1, f2, hm⟩

set_option maxRecDepth 100000 in
theorem psend_walk (u0 : List Int) (u1 : Int) (ao1 : Option Addr) (cap2 : Nat) (Z : Fz) (w : World) (hs3 : SlR (tyInt .u8) Z ao1 cap2 u0) (hZ : Z.on w) {K : ((List Int) × Int × Int) → Prop} (hp : psend_vc u0 u1 K) : Calls Try.prog 38 #[.slice ao1 u0.length cap2, .int .i64 u1] w fun e w' => ∃ (r : (List Int) × Int × Int) (ao1001 : Option Addr) (cap1002 : Nat) (Z' : Fz), e = .returned (.tuple #[.slice ao1001 r.1.length cap1002, .int .i64 r.2.1, .int .i64 r.2.2]) ∧ K r ∧ Mem w.heap.size [] w Z [.own (tyInt .u8) 5 ao1001 cap1002 r.1] Z' w' := by
 refine enter0 Try.func38 rfl rfl (by kernel_rfl) ?_; intro a0 hF0; have hM0 := Mem.start w Z hZ; have hle0 := Fz.le.refl Z
 have hp4 := hp (hs3.small); clear hp
 refine sqH ?_; intro hQ5Q hQ5
 refine s1 hF0 4 (.slice none 0 0) ?_; intro a6 hF7; clear hF0
 refine s1 hF7 5 (.int .i64 0) ?_; intro a8 hF9; clear hF7
 refine s1 hF9 6 (.int .i64 0) ?_; intro a10 hF11; clear hF9
 refine nlH (hQ5 _ _ ?_); clear hQ5 hQ5Q
 refine wp_seq ?_
 refine sqH ?_; intro hQ12Q hQ12
 refine s1 hF11 14 (.int .i64 u1) ?_; intro a13 hF14; clear hF11
 refine s1 hF14 15 (.bool (decide (u1 < 0))) ?_; intro a15 hF16; clear hF14
 refine s1 hF16 16 (.bool (decide (u1 < 0))) ?_; intro a17 hF18; clear hF16
 have hF19 := hF18.atom ((decide (u1 < 0)) == false) (by kernel_rfl); clear hF18
 refine gp hF19 17 0 [] (decide (u1 < 0)) (.int .i64 u1) rfl rfl ?_; intro a20 hF21; clear hF19
 refine gp hF21 18 0 [] (decide (u1 < 0)) (.bool (decide (u1 > 255))) rfl rfl ?_; intro a22 hF23; clear hF21
 refine st hF23 (.bool ((decide (u1 < 0)) || (decide (u1 > 255)))) (nog rfl _) rfl (by kernel_rfl) (pk_or hF23 (g := []) (m := 0) (b := decide (u1 < 0)) (v := decide (u1 > 255)) rfl (by kernel_rfl) (by kernel_rfl) (by kernel_rfl) rfl) ?_; intro a24 hF25; clear hF23
 refine nlH (hQ12 _ _ ?_); clear hQ12 hQ12Q
 refine cd hF25 (t := (decide (u1 < 0)) || (decide (u1 > 255))) (by kernel_rfl) (fun hb26 => ?_) (fun hb26 => ?_)
 · -- yes
  have hp27 := hp4.1 hb26; clear hp4
  have hF28 : Fr 71 [] [] a24 := hF25.region (by kernel_rfl) (by kernel_rfl); clear hF25
  refine sqH ?_; intro hQ29Q hQ29
  refine s1 hF28 4 (.slice none 0 0) ?_; intro a30 hF31; clear hF28
  refine s1 hF31 5 (.int .i64 0) ?_; intro a32 hF33; clear hF31
  refine s1 hF33 6 (.int .i64 3) ?_; intro a34 hF35; clear hF33
  refine nlH (hQ29 _ _ ?_); clear hQ29 hQ29Q
  refine wp_ret ?_
  refine thr ?_
  have hM36 : Mem w.heap.size [] w Z [.own (tyInt .u8) 5 none 0 ([] : List Int)] Z w := hM0.addNil (tyInt .u8) 5 (by decide); clear hM0
  refine rt (fn := Try.f38) (v := .tuple #[.slice none ([] : List Int).length 0, .int .i64 0, .int .i64 3]) hF35 (re3 hF35 (fn := Try.f38) rfl (by kernel_rfl) (by kernel_rfl) (by kernel_rfl)) ?_
  exact ⟨(([] : List Int), 0, 3), none, 0, Z, rfl, hp27, hM36.keep (List.Sublist.cons_cons _ (List.Sublist.slnil))⟩
 · -- no
  have hp37 := hp4.2 hb26; clear hp4
  refine wp_skip ?_
  refine thn ?_
  have hF38 : Fr 71 [] [⟨0, [], .slice ao1 u0.length cap2⟩, ⟨1, [], .int .i64 u1⟩, ⟨5, [], .int .i64 0⟩] a24 := hF25.region (by kernel_rfl) (by kernel_rfl); clear hF25
  refine sqH ?_; intro hQ39Q hQ39
  refine s1 hF38 21 (.slice ao1 u0.length cap2) ?_; intro a40 hF41; clear hF38
  refine cl hF41 43 #[.slice ao1 u0.length cap2] (nog rfl _) rfl (by kernel_rfl) (by kernel_rfl) ?_
  refine (pbegin_fun u0 ao1 cap2 _ _ hs3 hM0.fz).mono ?_; rintro _ wd42 ⟨ao46, cap47, ao49, cap50, Z52, rfl, hs48, hs51, hm⟩; refine ⟨_, rfl, ?_⟩; intro a43 hF44; have hM45 := hM0.callZ hm; have hle53 := hm.ext.le; clear hm hM0 hF41
  replace hs3 := hs3.mono hle53
  replace hle0 := Fz.le.trans hle0 hle53
  have hM54 : Mem w.heap.size [] w Z [] Z52 wd42 := hM45; clear hM45
  have hp55 := hp37 (hs48.small); clear hp37
  have hp56 := hp55 (hs51.small); clear hp55
  refine s1 hF44 20 (.tuple #[.agg #[.slice ao46 (((pbeginS u0).1).Data).length cap47, .int .i64 (((pbeginS u0).1).At), .int .i64 (((pbeginS u0).1).Next), .int .i64 (((pbeginS u0).1).Left), .bool (((pbeginS u0).1).Done)], .slice ao49 ((pbeginS u0).2.1).length cap50, .int .i64 ((pbeginS u0).2.2)]) ?_; intro a57 hF58; clear hF44
  refine s1 hF58 23 (.agg #[.slice ao46 (((pbeginS u0).1).Data).length cap47, .int .i64 (((pbeginS u0).1).At), .int .i64 (((pbeginS u0).1).Next), .int .i64 (((pbeginS u0).1).Left), .bool (((pbeginS u0).1).Done)]) ?_; intro a59 hF60; clear hF58
  refine s1 hF60 24 (.slice ao49 ((pbeginS u0).2.1).length cap50) ?_; intro a61 hF62; clear hF60
  refine s1 hF62 25 (.int .i64 ((pbeginS u0).2.2)) ?_; intro a63 hF64; clear hF62
  refine sn hF64 hM54 (fun b => .pointer (some ⟨b, 0, none⟩)) [.slice none 0 0, .int .i64 0, .int .i64 0, .int .i64 0, .bool false] 53 (nog rfl _) rfl (by kernel_rfl) (by kernel_rfl) ?_; intro b65 a66 wd68 hF67 hM69; clear hF64 hM54
  refine sr hF67 hM69 0 [.slice ao46 (((pbeginS u0).1).Data).length cap47, .int .i64 (((pbeginS u0).1).At), .int .i64 (((pbeginS u0).1).Next), .int .i64 (((pbeginS u0).1).Left), .bool (((pbeginS u0).1).Done)] (b := b65) (off := 0) (cs := [.slice none 0 0, .int .i64 0, .int .i64 0, .int .i64 0, .bool false]) (ty := 53) (u := .agg #[.slice ao46 (((pbeginS u0).1).Data).length cap47, .int .i64 (((pbeginS u0).1).At), .int .i64 (((pbeginS u0).1).Next), .int .i64 (((pbeginS u0).1).Left), .bool (((pbeginS u0).1).Done)]) (nog rfl _) rfl rfl (by kernel_rfl) (by kernel_rfl) (by kernel_rfl) (by kernel_rfl) (by kernel_rfl) (by kernel_rfl) (by kernel_rfl) ?_; intro wd70 hM71; clear hM69
  refine s1 hF67 8 (.slice ao49 ((pbeginS u0).2.1).length cap50) ?_; intro a72 hF73; clear hF67
  refine s1 hF73 6 (.int .i64 ((pbeginS u0).2.2)) ?_; intro a74 hF75; clear hF73
  have hM76 : Mem w.heap.size [] w Z [.row b65 [.slice ao46 (((pbeginS u0).1).Data).length cap47, .int .i64 (((pbeginS u0).1).At), .int .i64 (((pbeginS u0).1).Next), .int .i64 (((pbeginS u0).1).Left), .bool (((pbeginS u0).1).Done)] 53] Z52 wd70 := hM71; clear hM71
  refine nlH (hQ39 _ _ ?_); clear hQ39 hQ39Q
  refine wp_seq ?_
  refine sqH ?_; intro hQ77Q hQ77
  refine s1 hF75 26 (.int .i64 ((pbeginS u0).2.2)) ?_; intro a78 hF79; clear hF75
  refine s1 hF79 27 (.bool (((pbeginS u0).2.2) != 0)) ?_; intro a80 hF81; clear hF79
  refine nlH (hQ77 _ _ ?_); clear hQ77 hQ77Q
  refine cd hF81 (t := ((pbeginS u0).2.2) != 0) (by kernel_rfl) (fun hb82 => ?_) (fun hb82 => ?_)
  · -- yes
   have hp83 := hp56.1 hb82; clear hp56
   refine sqH ?_; intro hQ84Q hQ84
   refine s1 hF81 28 (.int .i64 ((pbeginS u0).2.2)) ?_; intro a85 hF86; clear hF81
   refine s1 hF86 4 (.slice none 0 0) ?_; intro a87 hF88; clear hF86
   refine s1 hF88 5 (.int .i64 0) ?_; intro a89 hF90; clear hF88
   refine s1 hF90 6 (.int .i64 ((pbeginS u0).2.2)) ?_; intro a91 hF92; clear hF90
   refine nlH (hQ84 _ _ ?_); clear hQ84 hQ84Q
   refine wp_ret ?_
   refine thr ?_
   have hM93 : Mem w.heap.size [] w Z [.own (tyInt .u8) 5 none 0 ([] : List Int), .row b65 [.slice ao46 (((pbeginS u0).1).Data).length cap47, .int .i64 (((pbeginS u0).1).At), .int .i64 (((pbeginS u0).1).Next), .int .i64 (((pbeginS u0).1).Left), .bool (((pbeginS u0).1).Done)] 53] Z52 wd70 := hM76.addNil (tyInt .u8) 5 (by decide); clear hM76
   refine rt (fn := Try.f38) (v := .tuple #[.slice none ([] : List Int).length 0, .int .i64 0, .int .i64 ((pbeginS u0).2.2)]) hF92 (re3 hF92 (fn := Try.f38) rfl (by kernel_rfl) (by kernel_rfl) (by kernel_rfl)) ?_
   exact ⟨(([] : List Int), 0, (pbeginS u0).2.2), none, 0, Z52, rfl, hp83, hM93.keep (List.Sublist.cons_cons _ (List.Sublist.cons _ (List.Sublist.slnil)))⟩
  · -- no
   have hp94 := hp56.2 hb82; clear hp56
   refine wp_skip ?_
   refine thn ?_
   refine sqH ?_; intro hQ95Q hQ95
   refine s1 hF81 29 (.int .i64 u1) ?_; intro a96 hF97; clear hF81
   refine s1 hF97 30 (.agg #[.int .i64 0, .slice none 0 0, .int .i64 0, .int .i64 u1, .int .i64 0]) ?_; intro a98 hF99; clear hF97
   refine sn hF99 hM76 (fun b => .pointer (some ⟨b, 0, none⟩)) [.int .i64 0, .slice none 0 0, .int .i64 0, .int .i64 0, .int .i64 0] 71 (nog rfl _) rfl (by kernel_rfl) (by kernel_rfl) ?_; intro b100 a101 wd103 hF102 hM104; clear hF99 hM76
   refine sr hF102 hM104 0 [.int .i64 0, .slice none 0 0, .int .i64 0, .int .i64 u1, .int .i64 0] (b := b100) (off := 0) (cs := [.int .i64 0, .slice none 0 0, .int .i64 0, .int .i64 0, .int .i64 0]) (ty := 71) (u := .agg #[.int .i64 0, .slice none 0 0, .int .i64 0, .int .i64 u1, .int .i64 0]) (nog rfl _) rfl rfl (by kernel_rfl) (by kernel_rfl) (by kernel_rfl) (by kernel_rfl) (by kernel_rfl) (by kernel_rfl) (by kernel_rfl) ?_; intro wd105 hM106; clear hM104
   have hM107 : Mem w.heap.size [] w Z [.row b100 [.int .i64 0, .slice none 0 0, .int .i64 0, .int .i64 u1, .int .i64 0] 71, .row b65 [.slice ao46 (((pbeginS u0).1).Data).length cap47, .int .i64 (((pbeginS u0).1).At), .int .i64 (((pbeginS u0).1).Next), .int .i64 (((pbeginS u0).1).Left), .bool (((pbeginS u0).1).Done)] 53] Z52 wd105 := hM106; clear hM106
   refine nlH (hQ95 _ _ ?_); clear hQ95 hQ95Q
   refine wp_block ?_
   have hF108 : Fr 71 [] [⟨5, [], .int .i64 0⟩, ⟨7, [], .pointer (some ⟨b65, 0, none⟩)⟩, ⟨8, [], .slice ao49 ((pbeginS u0).2.1).length cap50⟩, ⟨9, [], .pointer (some ⟨b100, 0, none⟩)⟩] a101 := hF102.region (by kernel_rfl) (by kernel_rfl); clear hF102
   have hF110 : Fr 71 [] [⟨5, [], .int .i64 0⟩, ⟨7, [], .pointer (some ⟨b65, 0, none⟩)⟩, ⟨8, [], .slice ao49 ((pbeginS u0).2.1).length cap50⟩, ⟨9, [], .pointer (some ⟨b100, 0, none⟩)⟩] a101 := hF108.region (by kernel_rfl) (by kernel_rfl); clear hF108
   obtain ⟨inv109, mu109, hI113, hr112⟩ := hp94
   have hle114 := hle0
   refine lp (ι := Int × (List Int) × Getter × Sender × (Option Addr) × Nat × (Option Addr) × Nat × (Option Addr) × Nat × Fz) (fun (s : Int × (List Int) × Getter × Sender × (Option Addr) × Nat × (Option Addr) × Nat × (Option Addr) × Nat × Fz) => [⟨5, [], .int .i64 s.1⟩, ⟨7, [], .pointer (some ⟨b65, 0, none⟩)⟩, ⟨8, [], .slice s.2.2.2.2.1 s.2.1.length s.2.2.2.2.2.1⟩, ⟨9, [], .pointer (some ⟨b100, 0, none⟩)⟩]) (fun (s : Int × (List Int) × Getter × Sender × (Option Addr) × Nat × (Option Addr) × Nat × (Option Addr) × Nat × Fz) => [.row b100 [.int .i64 s.2.2.1.Want, .slice s.2.2.2.2.2.2.1 s.2.2.1.Data.length s.2.2.2.2.2.2.2.1, .int .i64 s.2.2.1.Next, .int .i64 s.2.2.1.Block, .int .i64 s.2.2.1.Left] 71, .row b65 [.slice s.2.2.2.2.2.2.2.2.1 s.2.2.2.1.Data.length s.2.2.2.2.2.2.2.2.2.1, .int .i64 s.2.2.2.1.At, .int .i64 s.2.2.2.1.Next, .int .i64 s.2.2.2.1.Left, .bool s.2.2.2.1.Done] 53]) (fun (s : Int × (List Int) × Getter × Sender × (Option Addr) × Nat × (Option Addr) × Nat × (Option Addr) × Nat × Fz) => s.2.2.2.2.2.2.2.2.2.2) (fun (s : Int × (List Int) × Getter × Sender × (Option Addr) × Nat × (Option Addr) × Nat × (Option Addr) × Nat × Fz) => inv109 s.1 s.2.1 s.2.2.1 s.2.2.2.1 ∧ SlR (tyInt .u8) s.2.2.2.2.2.2.2.2.2.2 s.2.2.2.2.1 s.2.2.2.2.2.1 s.2.1 ∧ SlR (tyInt .u8) s.2.2.2.2.2.2.2.2.2.2 s.2.2.2.2.2.2.1 s.2.2.2.2.2.2.2.1 s.2.2.1.Data ∧ SlR (tyInt .u8) s.2.2.2.2.2.2.2.2.2.2 s.2.2.2.2.2.2.2.2.1 s.2.2.2.2.2.2.2.2.2.1 s.2.2.2.1.Data ∧ Fz.le Z52 s.2.2.2.2.2.2.2.2.2.2) (fun (s : Int × (List Int) × Getter × Sender × (Option Addr) × Nat × (Option Addr) × Nat × (Option Addr) × Nat × Fz) => mu109 s.1 s.2.1 s.2.2.1 s.2.2.2.1) ⟨0, (pbeginS u0).2.1, (⟨0, [], 0, u1, 0⟩ : Getter), ((pbeginS u0).1), ao49, cap50, none, 0, ao46, cap47, Z52⟩ ⟨hI113, hs51, (SlR.nil _ _), hs48, Fz.le.refl _⟩ (by exact hF110.region (by kernel_rfl) (by kernel_rfl)) (by exact hM107) ?_
   rintro ⟨x5, x8, yb100, yb65, aox8, capx8, aoyb100_0, capyb100_0, aoyb65_0, capyb65_0, ZL109⟩ ⟨hI111, hsx8, hsyb100_0, hsyb65_0, hleL109⟩ a115 wd116 hF117 hM118
   have hF119 : Fr 71 [] [⟨5, [], .int .i64 x5⟩, ⟨7, [], .pointer (some ⟨b65, 0, none⟩)⟩, ⟨8, [], .slice aox8 x8.length capx8⟩, ⟨9, [], .pointer (some ⟨b100, 0, none⟩)⟩] a115 := hF117; clear hF117 hF110
   have hM120 : Mem w.heap.size [] w Z [.row b100 [.int .i64 yb100.Want, .slice aoyb100_0 yb100.Data.length capyb100_0, .int .i64 yb100.Next, .int .i64 yb100.Block, .int .i64 yb100.Left] 71, .row b65 [.slice aoyb65_0 yb65.Data.length capyb65_0, .int .i64 yb65.At, .int .i64 yb65.Next, .int .i64 yb65.Left, .bool yb65.Done] 53] ZL109 wd116 := hM118; clear hM118 hM107
   have hp121 := hr112 x5 x8 yb100 yb65 hI111
   replace hle0 := Fz.le.trans hle0 hleL109
   have hs122 := hs3.mono hleL109
   have hs123 := hs48.mono hleL109
   have hs124 := hs51.mono hleL109
   refine wp_block ?_
   refine sqH ?_; intro hQ125Q hQ125
   refine s1 hF119 31 (.int .i64 x5) ?_; intro a126 hF127; clear hF119
   refine s1 hF127 32 (.int .i64 (w64 (x5 + 1))) ?_; intro a128 hF129; clear hF127
   refine s1 hF129 5 (.int .i64 (w64 (x5 + 1))) ?_; intro a130 hF131; clear hF129
   refine nlH (hQ125 _ _ ?_); clear hQ125 hQ125Q
   refine sqH ?_; intro hQ132Q hQ132
   refine l2 hF131 hM120 34 0 0 5 [.int .i64 yb100.Want, .slice aoyb100_0 yb100.Data.length capyb100_0, .int .i64 yb100.Next, .int .i64 yb100.Block, .int .i64 yb100.Left] rfl rfl ?_; intro a133 hF134; clear hF131
   refine s1 hF134 35 (.slice aox8 x8.length capx8) ?_; intro a135 hF136; clear hF134
   have hc137 := hp121.1; have hp138 := hp121.2; clear hp121
   refine cl hF136 41 #[.agg #[.int .i64 yb100.Want, .slice aoyb100_0 yb100.Data.length capyb100_0, .int .i64 yb100.Next, .int .i64 yb100.Block, .int .i64 yb100.Left], .slice aox8 x8.length capx8] (nog rfl _) rfl (by kernel_rfl) (by kernel_rfl) ?_
   refine (pget_fun yb100 x8 hc137 aoyb100_0 capyb100_0 aox8 capx8 _ _ hsyb100_0 hsx8 hM120.fz).mono ?_; rintro _ wd139 ⟨ao143, cap144, ao146, cap147, ao149, cap150, Z152, rfl, hs145, hn148, hn151, hm⟩; refine ⟨_, rfl, ?_⟩; intro a140 hF141; have hM142 := hM120.callZ hm; have hle153 := hm.ext.le; clear hm hM120 hF136
   replace hs122 := hs122.mono hle153
   replace hs123 := hs123.mono hle153
   replace hs124 := hs124.mono hle153
   replace hsx8 := hsx8.mono hle153
   replace hsyb100_0 := hsyb100_0.mono hle153
   replace hsyb65_0 := hsyb65_0.mono hle153
   replace hleL109 := hleL109.mono hle153
   replace hle0 := Fz.le.trans hle0 hle153
   have hM154 : Mem w.heap.size [] w Z [.own (tyInt .u8) 5 ao146 cap147 ((pgetS yb100 x8).2.1), .own (tyInt .u8) 5 ao149 cap150 ((pgetS yb100 x8).2.2.1), .row b100 [.int .i64 yb100.Want, .slice aoyb100_0 yb100.Data.length capyb100_0, .int .i64 yb100.Next, .int .i64 yb100.Block, .int .i64 yb100.Left] 71, .row b65 [.slice aoyb65_0 yb65.Data.length capyb65_0, .int .i64 yb65.At, .int .i64 yb65.Next, .int .i64 yb65.Left, .bool yb65.Done] 53] Z152 wd139 := hM142; clear hM142
   have hp155 := hp138 (hM154.ownSmall 0 rfl); clear hp138
   have hp156 := hp155 (hM154.ownSmall 1 rfl); clear hp155
   have hp157 := hp156 (hs145.small); clear hp156
   refine s1 hF141 33 (.tuple #[.agg #[.int .i64 (((pgetS yb100 x8).1).Want), .slice ao143 (((pgetS yb100 x8).1).Data).length cap144, .int .i64 (((pgetS yb100 x8).1).Next), .int .i64 (((pgetS yb100 x8).1).Block), .int .i64 (((pgetS yb100 x8).1).Left)], .slice ao146 ((pgetS yb100 x8).2.1).length cap147, .slice ao149 ((pgetS yb100 x8).2.2.1).length cap150, .int .i64 ((pgetS yb100 x8).2.2.2.1)]) ?_; intro a158 hF159; clear hF141
   refine s1 hF159 37 (.agg #[.int .i64 (((pgetS yb100 x8).1).Want), .slice ao143 (((pgetS yb100 x8).1).Data).length cap144, .int .i64 (((pgetS yb100 x8).1).Next), .int .i64 (((pgetS yb100 x8).1).Block), .int .i64 (((pgetS yb100 x8).1).Left)]) ?_; intro a160 hF161; clear hF159
   refine s1 hF161 38 (.slice ao146 ((pgetS yb100 x8).2.1).length cap147) ?_; intro a162 hF163; clear hF161
   refine s1 hF163 39 (.slice ao149 ((pgetS yb100 x8).2.2.1).length cap150) ?_; intro a164 hF165; clear hF163
   refine s1 hF165 40 (.int .i64 ((pgetS yb100 x8).2.2.2.1)) ?_; intro a166 hF167; clear hF165
   refine sn hF167 hM154 (fun b => .pointer (some ⟨b, 0, none⟩)) [.int .i64 0, .slice none 0 0, .int .i64 0, .int .i64 0, .int .i64 0] 71 (nog rfl _) rfl (by kernel_rfl) (by kernel_rfl) ?_; intro b168 a169 wd171 hF170 hM172; clear hF167 hM154
   refine sr hF170 hM172 0 [.int .i64 (((pgetS yb100 x8).1).Want), .slice ao143 (((pgetS yb100 x8).1).Data).length cap144, .int .i64 (((pgetS yb100 x8).1).Next), .int .i64 (((pgetS yb100 x8).1).Block), .int .i64 (((pgetS yb100 x8).1).Left)] (b := b168) (off := 0) (cs := [.int .i64 0, .slice none 0 0, .int .i64 0, .int .i64 0, .int .i64 0]) (ty := 71) (u := .agg #[.int .i64 (((pgetS yb100 x8).1).Want), .slice ao143 (((pgetS yb100 x8).1).Data).length cap144, .int .i64 (((pgetS yb100 x8).1).Next), .int .i64 (((pgetS yb100 x8).1).Block), .int .i64 (((pgetS yb100 x8).1).Left)]) (nog rfl _) rfl rfl (by kernel_rfl) (by kernel_rfl) (by kernel_rfl) (by kernel_rfl) (by kernel_rfl) (by kernel_rfl) (by kernel_rfl) ?_; intro wd173 hM174; clear hM172
   refine s1 hF170 11 (.slice ao146 ((pgetS yb100 x8).2.1).length cap147) ?_; intro a175 hF176; clear hF170
   refine s1 hF176 12 (.slice ao149 ((pgetS yb100 x8).2.2.1).length cap150) ?_; intro a177 hF178; clear hF176
   refine s1 hF178 13 (.int .i64 ((pgetS yb100 x8).2.2.2.1)) ?_; intro a179 hF180; clear hF178
   have hM181 : Mem w.heap.size [] w Z [.row b168 [.int .i64 (((pgetS yb100 x8).1).Want), .slice ao143 (((pgetS yb100 x8).1).Data).length cap144, .int .i64 (((pgetS yb100 x8).1).Next), .int .i64 (((pgetS yb100 x8).1).Block), .int .i64 (((pgetS yb100 x8).1).Left)] 71, .own (tyInt .u8) 5 ao146 cap147 ((pgetS yb100 x8).2.1), .own (tyInt .u8) 5 ao149 cap150 ((pgetS yb100 x8).2.2.1), .row b100 [.int .i64 yb100.Want, .slice aoyb100_0 yb100.Data.length capyb100_0, .int .i64 yb100.Next, .int .i64 yb100.Block, .int .i64 yb100.Left] 71, .row b65 [.slice aoyb65_0 yb65.Data.length capyb65_0, .int .i64 yb65.At, .int .i64 yb65.Next, .int .i64 yb65.Left, .bool yb65.Done] 53] Z152 wd173 := hM174; clear hM174
   refine nlH (hQ132 _ _ ?_); clear hQ132 hQ132Q
   refine wp_seq ?_
   have hF182 : Fr 71 [] [⟨5, [], .int .i64 (w64 (x5 + 1))⟩, ⟨7, [], .pointer (some ⟨b65, 0, none⟩)⟩, ⟨9, [], .pointer (some ⟨b100, 0, none⟩)⟩, ⟨10, [], .pointer (some ⟨b168, 0, none⟩)⟩, ⟨11, [], .slice ao146 ((pgetS yb100 x8).2.1).length cap147⟩, ⟨12, [], .slice ao149 ((pgetS yb100 x8).2.2.1).length cap150⟩, ⟨13, [], .int .i64 ((pgetS yb100 x8).2.2.2.1)⟩] a179 := hF180.region (by kernel_rfl) (by kernel_rfl); clear hF180
   refine sqH ?_; intro hQ183Q hQ183
   refine s1 hF182 41 (.int .i64 ((pgetS yb100 x8).2.2.2.1)) ?_; intro a184 hF185; clear hF182
   refine s1 hF185 42 (.bool (((pgetS yb100 x8).2.2.2.1) != 0)) ?_; intro a186 hF187; clear hF185
   refine nlH (hQ183 _ _ ?_); clear hQ183 hQ183Q
   refine cd hF187 (t := ((pgetS yb100 x8).2.2.2.1) != 0) (by kernel_rfl) (fun hb188 => ?_) (fun hb188 => ?_)
   · -- yes
    have hp189 := hp157.1 hb188; clear hp157
    refine sqH ?_; intro hQ190Q hQ190
    refine s1 hF187 43 (.int .i64 ((pgetS yb100 x8).2.2.2.1)) ?_; intro a191 hF192; clear hF187
    refine s1 hF192 4 (.slice none 0 0) ?_; intro a193 hF194; clear hF192
    refine s1 hF194 5 (.int .i64 0) ?_; intro a195 hF196; clear hF194
    refine s1 hF196 6 (.int .i64 ((pgetS yb100 x8).2.2.2.1)) ?_; intro a197 hF198; clear hF196
    refine nlH (hQ190 _ _ ?_); clear hQ190 hQ190Q
    refine wp_ret ?_
    refine thr ?_
    refine ibr ?_
    refine thr ?_
    refine ibr ?_
    have hM199 : Mem w.heap.size [] w Z [.own (tyInt .u8) 5 none 0 ([] : List Int), .row b168 [.int .i64 (((pgetS yb100 x8).1).Want), .slice ao143 (((pgetS yb100 x8).1).Data).length cap144, .int .i64 (((pgetS yb100 x8).1).Next), .int .i64 (((pgetS yb100 x8).1).Block), .int .i64 (((pgetS yb100 x8).1).Left)] 71, .own (tyInt .u8) 5 ao146 cap147 ((pgetS yb100 x8).2.1), .own (tyInt .u8) 5 ao149 cap150 ((pgetS yb100 x8).2.2.1), .row b100 [.int .i64 yb100.Want, .slice aoyb100_0 yb100.Data.length capyb100_0, .int .i64 yb100.Next, .int .i64 yb100.Block, .int .i64 yb100.Left] 71, .row b65 [.slice aoyb65_0 yb65.Data.length capyb65_0, .int .i64 yb65.At, .int .i64 yb65.Next, .int .i64 yb65.Left, .bool yb65.Done] 53] Z152 wd173 := hM181.addNil (tyInt .u8) 5 (by decide); clear hM181
    refine rt (fn := Try.f38) (v := .tuple #[.slice none ([] : List Int).length 0, .int .i64 0, .int .i64 ((pgetS yb100 x8).2.2.2.1)]) hF198 (re3 hF198 (fn := Try.f38) rfl (by kernel_rfl) (by kernel_rfl) (by kernel_rfl)) ?_
    exact ⟨(([] : List Int), 0, (pgetS yb100 x8).2.2.2.1), none, 0, Z152, rfl, hp189, hM199.keep (List.Sublist.cons_cons _ (List.Sublist.cons _ (List.Sublist.cons _ (List.Sublist.cons _ (List.Sublist.cons _ (List.Sublist.cons _ (List.Sublist.slnil)))))))⟩
   · -- no
    have hp200 := hp157.2 hb188; clear hp157
    refine wp_skip ?_
    refine thn ?_
    refine sqH ?_; intro hQ201Q hQ201
    refine l2 hF187 hM181 44 0 0 5 [.int .i64 (((pgetS yb100 x8).1).Want), .slice ao143 (((pgetS yb100 x8).1).Data).length cap144, .int .i64 (((pgetS yb100 x8).1).Next), .int .i64 (((pgetS yb100 x8).1).Block), .int .i64 (((pgetS yb100 x8).1).Left)] rfl rfl ?_; intro a202 hF203; clear hF187
    refine sr hF203 hM181 3 [.int .i64 (((pgetS yb100 x8).1).Want), .slice ao143 (((pgetS yb100 x8).1).Data).length cap144, .int .i64 (((pgetS yb100 x8).1).Next), .int .i64 (((pgetS yb100 x8).1).Block), .int .i64 (((pgetS yb100 x8).1).Left)] (b := b100) (off := 0) (cs := [.int .i64 yb100.Want, .slice aoyb100_0 yb100.Data.length capyb100_0, .int .i64 yb100.Next, .int .i64 yb100.Block, .int .i64 yb100.Left]) (ty := 71) (u := .agg #[.int .i64 (((pgetS yb100 x8).1).Want), .slice ao143 (((pgetS yb100 x8).1).Data).length cap144, .int .i64 (((pgetS yb100 x8).1).Next), .int .i64 (((pgetS yb100 x8).1).Block), .int .i64 (((pgetS yb100 x8).1).Left)]) (nog rfl _) rfl rfl (by kernel_rfl) (by kernel_rfl) (by kernel_rfl) (by kernel_rfl) (by kernel_rfl) (by kernel_rfl) (by kernel_rfl) ?_; intro wd204 hM205; clear hM181
    have hM206 : Mem w.heap.size [] w Z [.row b168 [.int .i64 (((pgetS yb100 x8).1).Want), .slice ao143 (((pgetS yb100 x8).1).Data).length cap144, .int .i64 (((pgetS yb100 x8).1).Next), .int .i64 (((pgetS yb100 x8).1).Block), .int .i64 (((pgetS yb100 x8).1).Left)] 71, .own (tyInt .u8) 5 ao146 cap147 ((pgetS yb100 x8).2.1), .own (tyInt .u8) 5 ao149 cap150 ((pgetS yb100 x8).2.2.1), .row b100 [.int .i64 (((pgetS yb100 x8).1).Want), .slice ao143 (((pgetS yb100 x8).1).Data).length cap144, .int .i64 (((pgetS yb100 x8).1).Next), .int .i64 (((pgetS yb100 x8).1).Block), .int .i64 (((pgetS yb100 x8).1).Left)] 71, .row b65 [.slice aoyb65_0 yb65.Data.length capyb65_0, .int .i64 yb65.At, .int .i64 yb65.Next, .int .i64 yb65.Left, .bool yb65.Done] 53] Z152 wd204 := hM205; clear hM205
    refine nlH (hQ201 _ _ ?_); clear hQ201 hQ201Q
    refine wp_seq ?_
    refine sqH ?_; intro hQ207Q hQ207
    refine s1 hF203 45 (.slice ao149 ((pgetS yb100 x8).2.2.1).length cap150) ?_; intro a208 hF209; clear hF203
    refine st hF209 (.bool (!((pgetS yb100 x8).2.2.2.2.2))) (nog rfl _) rfl (by kernel_rfl) (re_ (r := .ok (.value (.bool (!ao149.isNone))) wd204) (by cases ao149 <;> exact p0 hF209 (by kernel_rfl)) (by rw [hn151])) ?_; intro a210 hF211; clear hF209
    refine nlH (hQ207 _ _ ?_); clear hQ207 hQ207Q
    refine cd hF211 (t := !((pgetS yb100 x8).2.2.2.2.2)) (by kernel_rfl) (fun hb212 => ?_) (fun hb212 => ?_)
    · -- yes
     have hp213 := hp200.1 hb212; clear hp200
     refine sqH ?_; intro hQ214Q hQ214
     refine s1 hF211 47 (.slice ao149 ((pgetS yb100 x8).2.2.1).length cap150) ?_; intro a215 hF216; clear hF211
     refine s1 hF216 48 (.int .i64 (w64 (x5 + 1))) ?_; intro a217 hF218; clear hF216
     refine s1 hF218 4 (.slice ao149 ((pgetS yb100 x8).2.2.1).length cap150) ?_; intro a219 hF220; clear hF218
     refine s1 hF220 5 (.int .i64 (w64 (x5 + 1))) ?_; intro a221 hF222; clear hF220
     refine s1 hF222 6 (.int .i64 0) ?_; intro a223 hF224; clear hF222
     refine nlH (hQ214 _ _ ?_); clear hQ214 hQ214Q
     refine wp_ret ?_
     refine thr ?_
     refine ibr ?_
     refine thr ?_
     refine ibr ?_
     refine rt (fn := Try.f38) (v := .tuple #[.slice ao149 ((pgetS yb100 x8).2.2.1).length cap150, .int .i64 (w64 (x5 + 1)), .int .i64 0]) hF224 (re3 hF224 (fn := Try.f38) rfl (by kernel_rfl) (by kernel_rfl) (by kernel_rfl)) ?_
     exact ⟨((pgetS yb100 x8).2.2.1, w64 (x5 + 1), 0), ao149, cap150, Z152, rfl, hp213, hM206.keep (List.Sublist.cons _ (List.Sublist.cons _ (List.Sublist.cons_cons _ (List.Sublist.cons _ (List.Sublist.cons _ (List.Sublist.slnil))))))⟩
    · -- no
     have hp225 := hp200.2 hb212; clear hp200
     refine wp_skip ?_
     refine thn ?_
     refine wp_seq ?_
     refine sqH ?_; intro hQ226Q hQ226
     refine s1 hF211 49 (.slice ao146 ((pgetS yb100 x8).2.1).length cap147) ?_; intro a227 hF228; clear hF211
     refine st hF228 (.bool (!((pgetS yb100 x8).2.2.2.2.1))) (nog rfl _) rfl (by kernel_rfl) (re_ (r := .ok (.value (.bool (!ao146.isNone))) wd204) (by cases ao146 <;> exact p0 hF228 (by kernel_rfl)) (by rw [hn148])) ?_; intro a229 hF230; clear hF228
     refine nlH (hQ226 _ _ ?_); clear hQ226 hQ226Q
     refine cd hF230 (t := !((pgetS yb100 x8).2.2.2.2.1)) (by kernel_rfl) (fun hb231 => ?_) (fun hb231 => ?_)
     · -- yes
      have hp232 := hp225.1 hb231; clear hp225
      refine sqH ?_; intro hQ233Q hQ233
      refine s1 hF230 51 (.int .i64 (w64 (x5 + 1))) ?_; intro a234 hF235; clear hF230
      refine s1 hF235 52 (.int .i64 (w64 ((w64 (x5 + 1)) + 1))) ?_; intro a236 hF237; clear hF235
      refine s1 hF237 5 (.int .i64 (w64 ((w64 (x5 + 1)) + 1))) ?_; intro a238 hF239; clear hF237
      refine nlH (hQ233 _ _ ?_); clear hQ233 hQ233Q
      refine sqH ?_; intro hQ240Q hQ240
      refine l2 hF239 hM206 54 4 0 5 [.slice aoyb65_0 yb65.Data.length capyb65_0, .int .i64 yb65.At, .int .i64 yb65.Next, .int .i64 yb65.Left, .bool yb65.Done] rfl rfl ?_; intro a241 hF242; clear hF239
      refine s1 hF242 55 (.slice ao146 ((pgetS yb100 x8).2.1).length cap147) ?_; intro a243 hF244; clear hF242
      obtain ⟨Z245, hle246, hM247, hs248⟩ := hM206.freeze 1 rfl
      replace hs122 := hs122.mono hle246
      replace hs123 := hs123.mono hle246
      replace hs124 := hs124.mono hle246
      replace hsx8 := hsx8.mono hle246
      replace hsyb100_0 := hsyb100_0.mono hle246
      replace hsyb65_0 := hsyb65_0.mono hle246
      replace hleL109 := hleL109.mono hle246
      replace hs145 := hs145.mono hle246
      replace hle0 := Fz.le.trans hle0 hle246
      have hM249 : Mem w.heap.size [] w Z [.row b168 [.int .i64 (((pgetS yb100 x8).1).Want), .slice ao143 (((pgetS yb100 x8).1).Data).length cap144, .int .i64 (((pgetS yb100 x8).1).Next), .int .i64 (((pgetS yb100 x8).1).Block), .int .i64 (((pgetS yb100 x8).1).Left)] 71, .own (tyInt .u8) 5 ao149 cap150 ((pgetS yb100 x8).2.2.1), .row b100 [.int .i64 (((pgetS yb100 x8).1).Want), .slice ao143 (((pgetS yb100 x8).1).Data).length cap144, .int .i64 (((pgetS yb100 x8).1).Next), .int .i64 (((pgetS yb100 x8).1).Block), .int .i64 (((pgetS yb100 x8).1).Left)] 71, .row b65 [.slice aoyb65_0 yb65.Data.length capyb65_0, .int .i64 yb65.At, .int .i64 yb65.Next, .int .i64 yb65.Left, .bool yb65.Done] 53] Z245 wd204 := hM247; clear hM247
      refine cl hF244 30 #[.agg #[.slice aoyb65_0 yb65.Data.length capyb65_0, .int .i64 yb65.At, .int .i64 yb65.Next, .int .i64 yb65.Left, .bool yb65.Done], .slice ao146 ((pgetS yb100 x8).2.1).length cap147] (nog rfl _) rfl (by kernel_rfl) (by kernel_rfl) ?_
      refine (ptold_fun yb65 ((pgetS yb100 x8).2.1) aoyb65_0 capyb65_0 ao146 cap147 _ _ hsyb65_0 hs248 hM249.fz).mono ?_; rintro _ wd250 ⟨ao254, cap255, Z257, rfl, hs256, hm⟩; refine ⟨_, rfl, ?_⟩; intro a251 hF252; have hM253 := hM249.callZ hm; have hle258 := hm.ext.le; clear hm hM249 hF244
      replace hs122 := hs122.mono hle258
      replace hs123 := hs123.mono hle258
      replace hs124 := hs124.mono hle258
      replace hsx8 := hsx8.mono hle258
      replace hsyb100_0 := hsyb100_0.mono hle258
      replace hsyb65_0 := hsyb65_0.mono hle258
      replace hleL109 := hleL109.mono hle258
      replace hs145 := hs145.mono hle258
      replace hs248 := hs248.mono hle258
      replace hle0 := Fz.le.trans hle0 hle258
      have hM259 : Mem w.heap.size [] w Z [.row b168 [.int .i64 (((pgetS yb100 x8).1).Want), .slice ao143 (((pgetS yb100 x8).1).Data).length cap144, .int .i64 (((pgetS yb100 x8).1).Next), .int .i64 (((pgetS yb100 x8).1).Block), .int .i64 (((pgetS yb100 x8).1).Left)] 71, .own (tyInt .u8) 5 ao149 cap150 ((pgetS yb100 x8).2.2.1), .row b100 [.int .i64 (((pgetS yb100 x8).1).Want), .slice ao143 (((pgetS yb100 x8).1).Data).length cap144, .int .i64 (((pgetS yb100 x8).1).Next), .int .i64 (((pgetS yb100 x8).1).Block), .int .i64 (((pgetS yb100 x8).1).Left)] 71, .row b65 [.slice aoyb65_0 yb65.Data.length capyb65_0, .int .i64 yb65.At, .int .i64 yb65.Next, .int .i64 yb65.Left, .bool yb65.Done] 53] Z257 wd250 := hM253; clear hM253
      have hp260 := hp232 (hs256.small); clear hp232
      refine s1 hF252 53 (.tuple #[.agg #[.slice ao254 (((ptold yb65 ((pgetS yb100 x8).2.1)).1).Data).length cap255, .int .i64 (((ptold yb65 ((pgetS yb100 x8).2.1)).1).At), .int .i64 (((ptold yb65 ((pgetS yb100 x8).2.1)).1).Next), .int .i64 (((ptold yb65 ((pgetS yb100 x8).2.1)).1).Left), .bool (((ptold yb65 ((pgetS yb100 x8).2.1)).1).Done)], .int .i64 ((ptold yb65 ((pgetS yb100 x8).2.1)).2)]) ?_; intro a261 hF262; clear hF252
      refine s1 hF262 57 (.agg #[.slice ao254 (((ptold yb65 ((pgetS yb100 x8).2.1)).1).Data).length cap255, .int .i64 (((ptold yb65 ((pgetS yb100 x8).2.1)).1).At), .int .i64 (((ptold yb65 ((pgetS yb100 x8).2.1)).1).Next), .int .i64 (((ptold yb65 ((pgetS yb100 x8).2.1)).1).Left), .bool (((ptold yb65 ((pgetS yb100 x8).2.1)).1).Done)]) ?_; intro a263 hF264; clear hF262
      refine s1 hF264 58 (.int .i64 ((ptold yb65 ((pgetS yb100 x8).2.1)).2)) ?_; intro a265 hF266; clear hF264
      refine sr hF266 hM259 3 [.slice ao254 (((ptold yb65 ((pgetS yb100 x8).2.1)).1).Data).length cap255, .int .i64 (((ptold yb65 ((pgetS yb100 x8).2.1)).1).At), .int .i64 (((ptold yb65 ((pgetS yb100 x8).2.1)).1).Next), .int .i64 (((ptold yb65 ((pgetS yb100 x8).2.1)).1).Left), .bool (((ptold yb65 ((pgetS yb100 x8).2.1)).1).Done)] (b := b65) (off := 0) (cs := [.slice aoyb65_0 yb65.Data.length capyb65_0, .int .i64 yb65.At, .int .i64 yb65.Next, .int .i64 yb65.Left, .bool yb65.Done]) (ty := 53) (u := .agg #[.slice ao254 (((ptold yb65 ((pgetS yb100 x8).2.1)).1).Data).length cap255, .int .i64 (((ptold yb65 ((pgetS yb100 x8).2.1)).1).At), .int .i64 (((ptold yb65 ((pgetS yb100 x8).2.1)).1).Next), .int .i64 (((ptold yb65 ((pgetS yb100 x8).2.1)).1).Left), .bool (((ptold yb65 ((pgetS yb100 x8).2.1)).1).Done)]) (nog rfl _) rfl rfl (by kernel_rfl) (by kernel_rfl) (by kernel_rfl) (by kernel_rfl) (by kernel_rfl) (by kernel_rfl) (by kernel_rfl) ?_; intro wd267 hM268; clear hM259
      refine s1 hF266 13 (.int .i64 ((ptold yb65 ((pgetS yb100 x8).2.1)).2)) ?_; intro a269 hF270; clear hF266
      have hM271 : Mem w.heap.size [] w Z [.row b168 [.int .i64 (((pgetS yb100 x8).1).Want), .slice ao143 (((pgetS yb100 x8).1).Data).length cap144, .int .i64 (((pgetS yb100 x8).1).Next), .int .i64 (((pgetS yb100 x8).1).Block), .int .i64 (((pgetS yb100 x8).1).Left)] 71, .own (tyInt .u8) 5 ao149 cap150 ((pgetS yb100 x8).2.2.1), .row b100 [.int .i64 (((pgetS yb100 x8).1).Want), .slice ao143 (((pgetS yb100 x8).1).Data).length cap144, .int .i64 (((pgetS yb100 x8).1).Next), .int .i64 (((pgetS yb100 x8).1).Block), .int .i64 (((pgetS yb100 x8).1).Left)] 71, .row b65 [.slice ao254 (((ptold yb65 ((pgetS yb100 x8).2.1)).1).Data).length cap255, .int .i64 (((ptold yb65 ((pgetS yb100 x8).2.1)).1).At), .int .i64 (((ptold yb65 ((pgetS yb100 x8).2.1)).1).Next), .int .i64 (((ptold yb65 ((pgetS yb100 x8).2.1)).1).Left), .bool (((ptold yb65 ((pgetS yb100 x8).2.1)).1).Done)] 53] Z257 wd267 := hM268; clear hM268
      refine nlH (hQ240 _ _ ?_); clear hQ240 hQ240Q
      have hF272 : Fr 71 [] [⟨5, [], .int .i64 (w64 ((w64 (x5 + 1)) + 1))⟩, ⟨7, [], .pointer (some ⟨b65, 0, none⟩)⟩, ⟨9, [], .pointer (some ⟨b100, 0, none⟩)⟩, ⟨13, [], .int .i64 ((ptold yb65 ((pgetS yb100 x8).2.1)).2)⟩] a269 := hF270.region (by kernel_rfl) (by kernel_rfl); clear hF270
      refine sqH ?_; intro hQ273Q hQ273
      refine s1 hF272 59 (.int .i64 ((ptold yb65 ((pgetS yb100 x8).2.1)).2)) ?_; intro a274 hF275; clear hF272
      refine s1 hF275 60 (.bool (((ptold yb65 ((pgetS yb100 x8).2.1)).2) != 0)) ?_; intro a276 hF277; clear hF275
      refine nlH (hQ273 _ _ ?_); clear hQ273 hQ273Q
      refine cd hF277 (t := ((ptold yb65 ((pgetS yb100 x8).2.1)).2) != 0) (by kernel_rfl) (fun hb278 => ?_) (fun hb278 => ?_)
      · -- yes
       have hp279 := hp260.1 hb278; clear hp260
       refine sqH ?_; intro hQ280Q hQ280
       refine s1 hF277 61 (.int .i64 ((ptold yb65 ((pgetS yb100 x8).2.1)).2)) ?_; intro a281 hF282; clear hF277
       refine s1 hF282 4 (.slice none 0 0) ?_; intro a283 hF284; clear hF282
       refine s1 hF284 5 (.int .i64 0) ?_; intro a285 hF286; clear hF284
       refine s1 hF286 6 (.int .i64 ((ptold yb65 ((pgetS yb100 x8).2.1)).2)) ?_; intro a287 hF288; clear hF286
       refine nlH (hQ280 _ _ ?_); clear hQ280 hQ280Q
       refine wp_ret ?_
       refine thr ?_
       refine ibr ?_
       refine thr ?_
       refine ibr ?_
       have hM289 : Mem w.heap.size [] w Z [.own (tyInt .u8) 5 none 0 ([] : List Int), .row b168 [.int .i64 (((pgetS yb100 x8).1).Want), .slice ao143 (((pgetS yb100 x8).1).Data).length cap144, .int .i64 (((pgetS yb100 x8).1).Next), .int .i64 (((pgetS yb100 x8).1).Block), .int .i64 (((pgetS yb100 x8).1).Left)] 71, .own (tyInt .u8) 5 ao149 cap150 ((pgetS yb100 x8).2.2.1), .row b100 [.int .i64 (((pgetS yb100 x8).1).Want), .slice ao143 (((pgetS yb100 x8).1).Data).length cap144, .int .i64 (((pgetS yb100 x8).1).Next), .int .i64 (((pgetS yb100 x8).1).Block), .int .i64 (((pgetS yb100 x8).1).Left)] 71, .row b65 [.slice ao254 (((ptold yb65 ((pgetS yb100 x8).2.1)).1).Data).length cap255, .int .i64 (((ptold yb65 ((pgetS yb100 x8).2.1)).1).At), .int .i64 (((ptold yb65 ((pgetS yb100 x8).2.1)).1).Next), .int .i64 (((ptold yb65 ((pgetS yb100 x8).2.1)).1).Left), .bool (((ptold yb65 ((pgetS yb100 x8).2.1)).1).Done)] 53] Z257 wd267 := hM271.addNil (tyInt .u8) 5 (by decide); clear hM271
       refine rt (fn := Try.f38) (v := .tuple #[.slice none ([] : List Int).length 0, .int .i64 0, .int .i64 ((ptold yb65 ((pgetS yb100 x8).2.1)).2)]) hF288 (re3 hF288 (fn := Try.f38) rfl (by kernel_rfl) (by kernel_rfl) (by kernel_rfl)) ?_
       exact ⟨(([] : List Int), 0, (ptold yb65 ((pgetS yb100 x8).2.1)).2), none, 0, Z257, rfl, hp279, hM289.keep (List.Sublist.cons_cons _ (List.Sublist.cons _ (List.Sublist.cons _ (List.Sublist.cons _ (List.Sublist.cons _ (List.Sublist.slnil))))))⟩
      · -- no
       have hp290 := hp260.2 hb278; clear hp260
       refine wp_skip ?_
       refine thn ?_
       refine sqH ?_; intro hQ291Q hQ291
       refine l2 hF277 hM271 63 3 0 5 [.slice ao254 (((ptold yb65 ((pgetS yb100 x8).2.1)).1).Data).length cap255, .int .i64 (((ptold yb65 ((pgetS yb100 x8).2.1)).1).At), .int .i64 (((ptold yb65 ((pgetS yb100 x8).2.1)).1).Next), .int .i64 (((ptold yb65 ((pgetS yb100 x8).2.1)).1).Left), .bool (((ptold yb65 ((pgetS yb100 x8).2.1)).1).Done)] rfl rfl ?_; intro a292 hF293; clear hF277
       refine cl hF293 31 #[.agg #[.slice ao254 (((ptold yb65 ((pgetS yb100 x8).2.1)).1).Data).length cap255, .int .i64 (((ptold yb65 ((pgetS yb100 x8).2.1)).1).At), .int .i64 (((ptold yb65 ((pgetS yb100 x8).2.1)).1).Next), .int .i64 (((ptold yb65 ((pgetS yb100 x8).2.1)).1).Left), .bool (((ptold yb65 ((pgetS yb100 x8).2.1)).1).Done)]] (nog rfl _) rfl (by kernel_rfl) (by kernel_rfl) ?_
       refine (pnext_fun ((ptold yb65 ((pgetS yb100 x8).2.1)).1) ao254 cap255 _ _ hs256 hM271.fz).mono ?_; rintro _ wd294 ⟨ao298, cap299, ao301, cap302, Z303, rfl, hs300, hm⟩; refine ⟨_, rfl, ?_⟩; intro a295 hF296; have hM297 := hM271.callZ hm; have hle304 := hm.ext.le; clear hm hM271 hF293
       replace hs122 := hs122.mono hle304
       replace hs123 := hs123.mono hle304
       replace hs124 := hs124.mono hle304
       replace hsx8 := hsx8.mono hle304
       replace hsyb100_0 := hsyb100_0.mono hle304
       replace hsyb65_0 := hsyb65_0.mono hle304
       replace hleL109 := hleL109.mono hle304
       replace hs145 := hs145.mono hle304
       replace hs248 := hs248.mono hle304
       replace hs256 := hs256.mono hle304
       replace hle0 := Fz.le.trans hle0 hle304
       have hM305 : Mem w.heap.size [] w Z [.own (tyInt .u8) 5 ao301 cap302 ((pnext ((ptold yb65 ((pgetS yb100 x8).2.1)).1)).2.1), .row b168 [.int .i64 (((pgetS yb100 x8).1).Want), .slice ao143 (((pgetS yb100 x8).1).Data).length cap144, .int .i64 (((pgetS yb100 x8).1).Next), .int .i64 (((pgetS yb100 x8).1).Block), .int .i64 (((pgetS yb100 x8).1).Left)] 71, .own (tyInt .u8) 5 ao149 cap150 ((pgetS yb100 x8).2.2.1), .row b100 [.int .i64 (((pgetS yb100 x8).1).Want), .slice ao143 (((pgetS yb100 x8).1).Data).length cap144, .int .i64 (((pgetS yb100 x8).1).Next), .int .i64 (((pgetS yb100 x8).1).Block), .int .i64 (((pgetS yb100 x8).1).Left)] 71, .row b65 [.slice ao254 (((ptold yb65 ((pgetS yb100 x8).2.1)).1).Data).length cap255, .int .i64 (((ptold yb65 ((pgetS yb100 x8).2.1)).1).At), .int .i64 (((ptold yb65 ((pgetS yb100 x8).2.1)).1).Next), .int .i64 (((ptold yb65 ((pgetS yb100 x8).2.1)).1).Left), .bool (((ptold yb65 ((pgetS yb100 x8).2.1)).1).Done)] 53] Z303 wd294 := hM297; clear hM297
       have hp306 := hp290 (hM305.ownSmall 0 rfl); clear hp290
       have hp307 := hp306 (hs300.small); clear hp306
       refine s1 hF296 62 (.tuple #[.agg #[.slice ao298 (((pnext ((ptold yb65 ((pgetS yb100 x8).2.1)).1)).1).Data).length cap299, .int .i64 (((pnext ((ptold yb65 ((pgetS yb100 x8).2.1)).1)).1).At), .int .i64 (((pnext ((ptold yb65 ((pgetS yb100 x8).2.1)).1)).1).Next), .int .i64 (((pnext ((ptold yb65 ((pgetS yb100 x8).2.1)).1)).1).Left), .bool (((pnext ((ptold yb65 ((pgetS yb100 x8).2.1)).1)).1).Done)], .slice ao301 ((pnext ((ptold yb65 ((pgetS yb100 x8).2.1)).1)).2.1).length cap302, .int .i64 ((pnext ((ptold yb65 ((pgetS yb100 x8).2.1)).1)).2.2)]) ?_; intro a308 hF309; clear hF296
       refine s1 hF309 65 (.agg #[.slice ao298 (((pnext ((ptold yb65 ((pgetS yb100 x8).2.1)).1)).1).Data).length cap299, .int .i64 (((pnext ((ptold yb65 ((pgetS yb100 x8).2.1)).1)).1).At), .int .i64 (((pnext ((ptold yb65 ((pgetS yb100 x8).2.1)).1)).1).Next), .int .i64 (((pnext ((ptold yb65 ((pgetS yb100 x8).2.1)).1)).1).Left), .bool (((pnext ((ptold yb65 ((pgetS yb100 x8).2.1)).1)).1).Done)]) ?_; intro a310 hF311; clear hF309
       refine s1 hF311 66 (.slice ao301 ((pnext ((ptold yb65 ((pgetS yb100 x8).2.1)).1)).2.1).length cap302) ?_; intro a312 hF313; clear hF311
       refine s1 hF313 67 (.int .i64 ((pnext ((ptold yb65 ((pgetS yb100 x8).2.1)).1)).2.2)) ?_; intro a314 hF315; clear hF313
       refine sr hF315 hM305 4 [.slice ao298 (((pnext ((ptold yb65 ((pgetS yb100 x8).2.1)).1)).1).Data).length cap299, .int .i64 (((pnext ((ptold yb65 ((pgetS yb100 x8).2.1)).1)).1).At), .int .i64 (((pnext ((ptold yb65 ((pgetS yb100 x8).2.1)).1)).1).Next), .int .i64 (((pnext ((ptold yb65 ((pgetS yb100 x8).2.1)).1)).1).Left), .bool (((pnext ((ptold yb65 ((pgetS yb100 x8).2.1)).1)).1).Done)] (b := b65) (off := 0) (cs := [.slice ao254 (((ptold yb65 ((pgetS yb100 x8).2.1)).1).Data).length cap255, .int .i64 (((ptold yb65 ((pgetS yb100 x8).2.1)).1).At), .int .i64 (((ptold yb65 ((pgetS yb100 x8).2.1)).1).Next), .int .i64 (((ptold yb65 ((pgetS yb100 x8).2.1)).1).Left), .bool (((ptold yb65 ((pgetS yb100 x8).2.1)).1).Done)]) (ty := 53) (u := .agg #[.slice ao298 (((pnext ((ptold yb65 ((pgetS yb100 x8).2.1)).1)).1).Data).length cap299, .int .i64 (((pnext ((ptold yb65 ((pgetS yb100 x8).2.1)).1)).1).At), .int .i64 (((pnext ((ptold yb65 ((pgetS yb100 x8).2.1)).1)).1).Next), .int .i64 (((pnext ((ptold yb65 ((pgetS yb100 x8).2.1)).1)).1).Left), .bool (((pnext ((ptold yb65 ((pgetS yb100 x8).2.1)).1)).1).Done)]) (nog rfl _) rfl rfl (by kernel_rfl) (by kernel_rfl) (by kernel_rfl) (by kernel_rfl) (by kernel_rfl) (by kernel_rfl) (by kernel_rfl) ?_; intro wd316 hM317; clear hM305
       refine s1 hF315 8 (.slice ao301 ((pnext ((ptold yb65 ((pgetS yb100 x8).2.1)).1)).2.1).length cap302) ?_; intro a318 hF319; clear hF315
       refine s1 hF319 13 (.int .i64 ((pnext ((ptold yb65 ((pgetS yb100 x8).2.1)).1)).2.2)) ?_; intro a320 hF321; clear hF319
       have hM322 : Mem w.heap.size [] w Z [.own (tyInt .u8) 5 ao301 cap302 ((pnext ((ptold yb65 ((pgetS yb100 x8).2.1)).1)).2.1), .row b168 [.int .i64 (((pgetS yb100 x8).1).Want), .slice ao143 (((pgetS yb100 x8).1).Data).length cap144, .int .i64 (((pgetS yb100 x8).1).Next), .int .i64 (((pgetS yb100 x8).1).Block), .int .i64 (((pgetS yb100 x8).1).Left)] 71, .own (tyInt .u8) 5 ao149 cap150 ((pgetS yb100 x8).2.2.1), .row b100 [.int .i64 (((pgetS yb100 x8).1).Want), .slice ao143 (((pgetS yb100 x8).1).Data).length cap144, .int .i64 (((pgetS yb100 x8).1).Next), .int .i64 (((pgetS yb100 x8).1).Block), .int .i64 (((pgetS yb100 x8).1).Left)] 71, .row b65 [.slice ao298 (((pnext ((ptold yb65 ((pgetS yb100 x8).2.1)).1)).1).Data).length cap299, .int .i64 (((pnext ((ptold yb65 ((pgetS yb100 x8).2.1)).1)).1).At), .int .i64 (((pnext ((ptold yb65 ((pgetS yb100 x8).2.1)).1)).1).Next), .int .i64 (((pnext ((ptold yb65 ((pgetS yb100 x8).2.1)).1)).1).Left), .bool (((pnext ((ptold yb65 ((pgetS yb100 x8).2.1)).1)).1).Done)] 53] Z303 wd316 := hM317; clear hM317
       refine nlH (hQ291 _ _ ?_); clear hQ291 hQ291Q
       refine sqH ?_; intro hQ323Q hQ323
       refine s1 hF321 68 (.int .i64 ((pnext ((ptold yb65 ((pgetS yb100 x8).2.1)).1)).2.2)) ?_; intro a324 hF325; clear hF321
       refine s1 hF325 69 (.bool (((pnext ((ptold yb65 ((pgetS yb100 x8).2.1)).1)).2.2) != 0)) ?_; intro a326 hF327; clear hF325
       refine nlH (hQ323 _ _ ?_); clear hQ323 hQ323Q
       refine cd hF327 (t := ((pnext ((ptold yb65 ((pgetS yb100 x8).2.1)).1)).2.2) != 0) (by kernel_rfl) (fun hb328 => ?_) (fun hb328 => ?_)
       · -- yes
        have hp329 := hp307.1 hb328; clear hp307
        refine sqH ?_; intro hQ330Q hQ330
        refine s1 hF327 70 (.int .i64 ((pnext ((ptold yb65 ((pgetS yb100 x8).2.1)).1)).2.2)) ?_; intro a331 hF332; clear hF327
        refine s1 hF332 4 (.slice none 0 0) ?_; intro a333 hF334; clear hF332
        refine s1 hF334 5 (.int .i64 0) ?_; intro a335 hF336; clear hF334
        refine s1 hF336 6 (.int .i64 ((pnext ((ptold yb65 ((pgetS yb100 x8).2.1)).1)).2.2)) ?_; intro a337 hF338; clear hF336
        refine nlH (hQ330 _ _ ?_); clear hQ330 hQ330Q
        refine wp_ret ?_
        refine ibr ?_
        refine thr ?_
        refine ibr ?_
        have hM339 : Mem w.heap.size [] w Z [.own (tyInt .u8) 5 none 0 ([] : List Int), .own (tyInt .u8) 5 ao301 cap302 ((pnext ((ptold yb65 ((pgetS yb100 x8).2.1)).1)).2.1), .row b168 [.int .i64 (((pgetS yb100 x8).1).Want), .slice ao143 (((pgetS yb100 x8).1).Data).length cap144, .int .i64 (((pgetS yb100 x8).1).Next), .int .i64 (((pgetS yb100 x8).1).Block), .int .i64 (((pgetS yb100 x8).1).Left)] 71, .own (tyInt .u8) 5 ao149 cap150 ((pgetS yb100 x8).2.2.1), .row b100 [.int .i64 (((pgetS yb100 x8).1).Want), .slice ao143 (((pgetS yb100 x8).1).Data).length cap144, .int .i64 (((pgetS yb100 x8).1).Next), .int .i64 (((pgetS yb100 x8).1).Block), .int .i64 (((pgetS yb100 x8).1).Left)] 71, .row b65 [.slice ao298 (((pnext ((ptold yb65 ((pgetS yb100 x8).2.1)).1)).1).Data).length cap299, .int .i64 (((pnext ((ptold yb65 ((pgetS yb100 x8).2.1)).1)).1).At), .int .i64 (((pnext ((ptold yb65 ((pgetS yb100 x8).2.1)).1)).1).Next), .int .i64 (((pnext ((ptold yb65 ((pgetS yb100 x8).2.1)).1)).1).Left), .bool (((pnext ((ptold yb65 ((pgetS yb100 x8).2.1)).1)).1).Done)] 53] Z303 wd316 := hM322.addNil (tyInt .u8) 5 (by decide); clear hM322
        refine rt (fn := Try.f38) (v := .tuple #[.slice none ([] : List Int).length 0, .int .i64 0, .int .i64 ((pnext ((ptold yb65 ((pgetS yb100 x8).2.1)).1)).2.2)]) hF338 (re3 hF338 (fn := Try.f38) rfl (by kernel_rfl) (by kernel_rfl) (by kernel_rfl)) ?_
        exact ⟨(([] : List Int), 0, (pnext ((ptold yb65 ((pgetS yb100 x8).2.1)).1)).2.2), none, 0, Z303, rfl, hp329, hM339.keep (List.Sublist.cons_cons _ (List.Sublist.cons _ (List.Sublist.cons _ (List.Sublist.cons _ (List.Sublist.cons _ (List.Sublist.cons _ (List.Sublist.slnil)))))))⟩
       · -- no
        have hp340 := hp307.2 hb328; clear hp307
        refine wp_skip ?_
        refine ibn ?_
        refine rd ?_
        obtain ⟨Z341, hle342, hM343, hs344⟩ := hM322.freeze 0 rfl
        replace hs122 := hs122.mono hle342
        replace hs123 := hs123.mono hle342
        replace hs124 := hs124.mono hle342
        replace hsx8 := hsx8.mono hle342
        replace hsyb100_0 := hsyb100_0.mono hle342
        replace hsyb65_0 := hsyb65_0.mono hle342
        replace hleL109 := hleL109.mono hle342
        replace hs145 := hs145.mono hle342
        replace hs248 := hs248.mono hle342
        replace hs256 := hs256.mono hle342
        replace hs300 := hs300.mono hle342
        replace hle0 := Fz.le.trans hle0 hle342
        have hM345 : Mem w.heap.size [] w Z [.row b168 [.int .i64 (((pgetS yb100 x8).1).Want), .slice ao143 (((pgetS yb100 x8).1).Data).length cap144, .int .i64 (((pgetS yb100 x8).1).Next), .int .i64 (((pgetS yb100 x8).1).Block), .int .i64 (((pgetS yb100 x8).1).Left)] 71, .own (tyInt .u8) 5 ao149 cap150 ((pgetS yb100 x8).2.2.1), .row b100 [.int .i64 (((pgetS yb100 x8).1).Want), .slice ao143 (((pgetS yb100 x8).1).Data).length cap144, .int .i64 (((pgetS yb100 x8).1).Next), .int .i64 (((pgetS yb100 x8).1).Block), .int .i64 (((pgetS yb100 x8).1).Left)] 71, .row b65 [.slice ao298 (((pnext ((ptold yb65 ((pgetS yb100 x8).2.1)).1)).1).Data).length cap299, .int .i64 (((pnext ((ptold yb65 ((pgetS yb100 x8).2.1)).1)).1).At), .int .i64 (((pnext ((ptold yb65 ((pgetS yb100 x8).2.1)).1)).1).Next), .int .i64 (((pnext ((ptold yb65 ((pgetS yb100 x8).2.1)).1)).1).Left), .bool (((pnext ((ptold yb65 ((pgetS yb100 x8).2.1)).1)).1).Done)] 53] Z341 wd316 := hM343; clear hM343
        exact ⟨⟨w64 ((w64 (x5 + 1)) + 1), (pnext ((ptold yb65 ((pgetS yb100 x8).2.1)).1)).2.1, ((pgetS yb100 x8).1), ((pnext ((ptold yb65 ((pgetS yb100 x8).2.1)).1)).1), ao301, cap302, ao143, cap144, ao298, cap299, Z341⟩, ⟨hp340.1, hs344, hs145, hs300, hleL109⟩, hp340.2, (hF327.region (by kernel_rfl) (by kernel_rfl)).anyβ _ (by kernel_rfl), hM345.keep (List.Sublist.cons _ (List.Sublist.cons _ (List.Sublist.cons_cons _ (List.Sublist.cons_cons _ (List.Sublist.slnil)))))⟩
     · -- no
      have hp346 := hp225.2 hb231; clear hp225
      refine wp_skip ?_
      refine thn ?_
      refine sqH ?_; intro hQ347Q hQ347
      refine l2 hF230 hM206 63 4 0 5 [.slice aoyb65_0 yb65.Data.length capyb65_0, .int .i64 yb65.At, .int .i64 yb65.Next, .int .i64 yb65.Left, .bool yb65.Done] rfl rfl ?_; intro a348 hF349; clear hF230
      refine cl hF349 31 #[.agg #[.slice aoyb65_0 yb65.Data.length capyb65_0, .int .i64 yb65.At, .int .i64 yb65.Next, .int .i64 yb65.Left, .bool yb65.Done]] (nog rfl _) rfl (by kernel_rfl) (by kernel_rfl) ?_
      refine (pnext_fun yb65 aoyb65_0 capyb65_0 _ _ hsyb65_0 hM206.fz).mono ?_; rintro _ wd350 ⟨ao354, cap355, ao357, cap358, Z359, rfl, hs356, hm⟩; refine ⟨_, rfl, ?_⟩; intro a351 hF352; have hM353 := hM206.callZ hm; have hle360 := hm.ext.le; clear hm hM206 hF349
      replace hs122 := hs122.mono hle360
      replace hs123 := hs123.mono hle360
      replace hs124 := hs124.mono hle360
      replace hsx8 := hsx8.mono hle360
      replace hsyb100_0 := hsyb100_0.mono hle360
      replace hsyb65_0 := hsyb65_0.mono hle360
      replace hleL109 := hleL109.mono hle360
      replace hs145 := hs145.mono hle360
      replace hle0 := Fz.le.trans hle0 hle360
      have hM361 : Mem w.heap.size [] w Z [.own (tyInt .u8) 5 ao357 cap358 ((pnext yb65).2.1), .row b168 [.int .i64 (((pgetS yb100 x8).1).Want), .slice ao143 (((pgetS yb100 x8).1).Data).length cap144, .int .i64 (((pgetS yb100 x8).1).Next), .int .i64 (((pgetS yb100 x8).1).Block), .int .i64 (((pgetS yb100 x8).1).Left)] 71, .own (tyInt .u8) 5 ao146 cap147 ((pgetS yb100 x8).2.1), .own (tyInt .u8) 5 ao149 cap150 ((pgetS yb100 x8).2.2.1), .row b100 [.int .i64 (((pgetS yb100 x8).1).Want), .slice ao143 (((pgetS yb100 x8).1).Data).length cap144, .int .i64 (((pgetS yb100 x8).1).Next), .int .i64 (((pgetS yb100 x8).1).Block), .int .i64 (((pgetS yb100 x8).1).Left)] 71, .row b65 [.slice aoyb65_0 yb65.Data.length capyb65_0, .int .i64 yb65.At, .int .i64 yb65.Next, .int .i64 yb65.Left, .bool yb65.Done] 53] Z359 wd350 := hM353; clear hM353
      have hp362 := hp346 (hM361.ownSmall 0 rfl); clear hp346
      have hp363 := hp362 (hs356.small); clear hp362
      refine s1 hF352 62 (.tuple #[.agg #[.slice ao354 (((pnext yb65).1).Data).length cap355, .int .i64 (((pnext yb65).1).At), .int .i64 (((pnext yb65).1).Next), .int .i64 (((pnext yb65).1).Left), .bool (((pnext yb65).1).Done)], .slice ao357 ((pnext yb65).2.1).length cap358, .int .i64 ((pnext yb65).2.2)]) ?_; intro a364 hF365; clear hF352
      refine s1 hF365 65 (.agg #[.slice ao354 (((pnext yb65).1).Data).length cap355, .int .i64 (((pnext yb65).1).At), .int .i64 (((pnext yb65).1).Next), .int .i64 (((pnext yb65).1).Left), .bool (((pnext yb65).1).Done)]) ?_; intro a366 hF367; clear hF365
      refine s1 hF367 66 (.slice ao357 ((pnext yb65).2.1).length cap358) ?_; intro a368 hF369; clear hF367
      refine s1 hF369 67 (.int .i64 ((pnext yb65).2.2)) ?_; intro a370 hF371; clear hF369
      refine sr hF371 hM361 5 [.slice ao354 (((pnext yb65).1).Data).length cap355, .int .i64 (((pnext yb65).1).At), .int .i64 (((pnext yb65).1).Next), .int .i64 (((pnext yb65).1).Left), .bool (((pnext yb65).1).Done)] (b := b65) (off := 0) (cs := [.slice aoyb65_0 yb65.Data.length capyb65_0, .int .i64 yb65.At, .int .i64 yb65.Next, .int .i64 yb65.Left, .bool yb65.Done]) (ty := 53) (u := .agg #[.slice ao354 (((pnext yb65).1).Data).length cap355, .int .i64 (((pnext yb65).1).At), .int .i64 (((pnext yb65).1).Next), .int .i64 (((pnext yb65).1).Left), .bool (((pnext yb65).1).Done)]) (nog rfl _) rfl rfl (by kernel_rfl) (by kernel_rfl) (by kernel_rfl) (by kernel_rfl) (by kernel_rfl) (by kernel_rfl) (by kernel_rfl) ?_; intro wd372 hM373; clear hM361
      refine s1 hF371 8 (.slice ao357 ((pnext yb65).2.1).length cap358) ?_; intro a374 hF375; clear hF371
      refine s1 hF375 13 (.int .i64 ((pnext yb65).2.2)) ?_; intro a376 hF377; clear hF375
      have hM378 : Mem w.heap.size [] w Z [.own (tyInt .u8) 5 ao357 cap358 ((pnext yb65).2.1), .row b168 [.int .i64 (((pgetS yb100 x8).1).Want), .slice ao143 (((pgetS yb100 x8).1).Data).length cap144, .int .i64 (((pgetS yb100 x8).1).Next), .int .i64 (((pgetS yb100 x8).1).Block), .int .i64 (((pgetS yb100 x8).1).Left)] 71, .own (tyInt .u8) 5 ao146 cap147 ((pgetS yb100 x8).2.1), .own (tyInt .u8) 5 ao149 cap150 ((pgetS yb100 x8).2.2.1), .row b100 [.int .i64 (((pgetS yb100 x8).1).Want), .slice ao143 (((pgetS yb100 x8).1).Data).length cap144, .int .i64 (((pgetS yb100 x8).1).Next), .int .i64 (((pgetS yb100 x8).1).Block), .int .i64 (((pgetS yb100 x8).1).Left)] 71, .row b65 [.slice ao354 (((pnext yb65).1).Data).length cap355, .int .i64 (((pnext yb65).1).At), .int .i64 (((pnext yb65).1).Next), .int .i64 (((pnext yb65).1).Left), .bool (((pnext yb65).1).Done)] 53] Z359 wd372 := hM373; clear hM373
      refine nlH (hQ347 _ _ ?_); clear hQ347 hQ347Q
      have hF379 : Fr 71 [] [⟨5, [], .int .i64 (w64 (x5 + 1))⟩, ⟨7, [], .pointer (some ⟨b65, 0, none⟩)⟩, ⟨8, [], .slice ao357 ((pnext yb65).2.1).length cap358⟩, ⟨9, [], .pointer (some ⟨b100, 0, none⟩)⟩, ⟨13, [], .int .i64 ((pnext yb65).2.2)⟩] a376 := hF377.region (by kernel_rfl) (by kernel_rfl); clear hF377
      refine sqH ?_; intro hQ380Q hQ380
      refine s1 hF379 68 (.int .i64 ((pnext yb65).2.2)) ?_; intro a381 hF382; clear hF379
      refine s1 hF382 69 (.bool (((pnext yb65).2.2) != 0)) ?_; intro a383 hF384; clear hF382
      refine nlH (hQ380 _ _ ?_); clear hQ380 hQ380Q
      refine cd hF384 (t := ((pnext yb65).2.2) != 0) (by kernel_rfl) (fun hb385 => ?_) (fun hb385 => ?_)
      · -- yes
       have hp386 := hp363.1 hb385; clear hp363
       refine sqH ?_; intro hQ387Q hQ387
       refine s1 hF384 70 (.int .i64 ((pnext yb65).2.2)) ?_; intro a388 hF389; clear hF384
       refine s1 hF389 4 (.slice none 0 0) ?_; intro a390 hF391; clear hF389
       refine s1 hF391 5 (.int .i64 0) ?_; intro a392 hF393; clear hF391
       refine s1 hF393 6 (.int .i64 ((pnext yb65).2.2)) ?_; intro a394 hF395; clear hF393
       refine nlH (hQ387 _ _ ?_); clear hQ387 hQ387Q
       refine wp_ret ?_
       refine ibr ?_
       refine thr ?_
       refine ibr ?_
       have hM396 : Mem w.heap.size [] w Z [.own (tyInt .u8) 5 none 0 ([] : List Int), .own (tyInt .u8) 5 ao357 cap358 ((pnext yb65).2.1), .row b168 [.int .i64 (((pgetS yb100 x8).1).Want), .slice ao143 (((pgetS yb100 x8).1).Data).length cap144, .int .i64 (((pgetS yb100 x8).1).Next), .int .i64 (((pgetS yb100 x8).1).Block), .int .i64 (((pgetS yb100 x8).1).Left)] 71, .own (tyInt .u8) 5 ao146 cap147 ((pgetS yb100 x8).2.1), .own (tyInt .u8) 5 ao149 cap150 ((pgetS yb100 x8).2.2.1), .row b100 [.int .i64 (((pgetS yb100 x8).1).Want), .slice ao143 (((pgetS yb100 x8).1).Data).length cap144, .int .i64 (((pgetS yb100 x8).1).Next), .int .i64 (((pgetS yb100 x8).1).Block), .int .i64 (((pgetS yb100 x8).1).Left)] 71, .row b65 [.slice ao354 (((pnext yb65).1).Data).length cap355, .int .i64 (((pnext yb65).1).At), .int .i64 (((pnext yb65).1).Next), .int .i64 (((pnext yb65).1).Left), .bool (((pnext yb65).1).Done)] 53] Z359 wd372 := hM378.addNil (tyInt .u8) 5 (by decide); clear hM378
       refine rt (fn := Try.f38) (v := .tuple #[.slice none ([] : List Int).length 0, .int .i64 0, .int .i64 ((pnext yb65).2.2)]) hF395 (re3 hF395 (fn := Try.f38) rfl (by kernel_rfl) (by kernel_rfl) (by kernel_rfl)) ?_
       exact ⟨(([] : List Int), 0, (pnext yb65).2.2), none, 0, Z359, rfl, hp386, hM396.keep (List.Sublist.cons_cons _ (List.Sublist.cons _ (List.Sublist.cons _ (List.Sublist.cons _ (List.Sublist.cons _ (List.Sublist.cons _ (List.Sublist.cons _ (List.Sublist.slnil))))))))⟩
      · -- no
       have hp397 := hp363.2 hb385; clear hp363
       refine wp_skip ?_
       refine ibn ?_
       refine rd ?_
       obtain ⟨Z398, hle399, hM400, hs401⟩ := hM378.freeze 0 rfl
       replace hs122 := hs122.mono hle399
       replace hs123 := hs123.mono hle399
       replace hs124 := hs124.mono hle399
       replace hsx8 := hsx8.mono hle399
       replace hsyb100_0 := hsyb100_0.mono hle399
       replace hsyb65_0 := hsyb65_0.mono hle399
       replace hleL109 := hleL109.mono hle399
       replace hs145 := hs145.mono hle399
       replace hs356 := hs356.mono hle399
       replace hle0 := Fz.le.trans hle0 hle399
       have hM402 : Mem w.heap.size [] w Z [.row b168 [.int .i64 (((pgetS yb100 x8).1).Want), .slice ao143 (((pgetS yb100 x8).1).Data).length cap144, .int .i64 (((pgetS yb100 x8).1).Next), .int .i64 (((pgetS yb100 x8).1).Block), .int .i64 (((pgetS yb100 x8).1).Left)] 71, .own (tyInt .u8) 5 ao146 cap147 ((pgetS yb100 x8).2.1), .own (tyInt .u8) 5 ao149 cap150 ((pgetS yb100 x8).2.2.1), .row b100 [.int .i64 (((pgetS yb100 x8).1).Want), .slice ao143 (((pgetS yb100 x8).1).Data).length cap144, .int .i64 (((pgetS yb100 x8).1).Next), .int .i64 (((pgetS yb100 x8).1).Block), .int .i64 (((pgetS yb100 x8).1).Left)] 71, .row b65 [.slice ao354 (((pnext yb65).1).Data).length cap355, .int .i64 (((pnext yb65).1).At), .int .i64 (((pnext yb65).1).Next), .int .i64 (((pnext yb65).1).Left), .bool (((pnext yb65).1).Done)] 53] Z398 wd372 := hM400; clear hM400
       exact ⟨⟨w64 (x5 + 1), (pnext yb65).2.1, ((pgetS yb100 x8).1), ((pnext yb65).1), ao357, cap358, ao143, cap144, ao354, cap355, Z398⟩, ⟨hp397.1, hs401, hs145, hs356, hleL109⟩, hp397.2, (hF384.region (by kernel_rfl) (by kernel_rfl)).anyβ _ (by kernel_rfl), hM402.keep (List.Sublist.cons _ (List.Sublist.cons _ (List.Sublist.cons _ (List.Sublist.cons_cons _ (List.Sublist.cons_cons _ (List.Sublist.slnil))))))⟩

end Go.Proofs.Ytkogkombalcgeaa
