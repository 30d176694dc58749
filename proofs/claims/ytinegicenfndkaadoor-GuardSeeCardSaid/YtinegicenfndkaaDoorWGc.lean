/- The walks, made by program: each call does what its pure predicate says. -/
import Derived.Test.YtinegicenfndkaaDoorPGc
import Derived.Test.YtinegicenfndkaaDoorWGb
set_option linter.unusedVariables false
set_option linter.unusedSimpArgs false
namespace Go.Proofs.YtinegicenfndkaaDoor
open Go.Sy Go.RowKit
theorem gsum_fun (u0 : Int) (u1 : List Int) (hpre : (∀ x ∈ u1, 0 ≤ x ∧ x ≤ 255) ∧ 1 ≤ u1.length ∧ u1.length ≤ 1000000) (ao1 : Option Addr) (cap2 : Nat) (Z : Fz) (w : World) (hs3 : SlR (tyInt .u8) Z ao1 cap2 u1) (hZ : Z.on w) : Calls Tryd.prog 75 #[.int .i64 u0, .slice ao1 u1.length cap2] w fun e w' => e = .returned (.int .u8 (gsumS u0 u1)) ∧ Below w.heap.size w w' :=
  (gsum_walk u0 u1 ao1 cap2 Z w hs3 hZ (gsum_ok u0 u1 hpre)).mono fun _ _ ⟨r, he, hk, hb⟩ => ⟨by subst hk; exact he, hb⟩

set_option maxRecDepth 100000 in
set_option maxHeartbeats 0 in
theorem gput_walk (u0 : Int) (u1 : Int) (u2 : List Int) (ao1 : Option Addr) (cap2 : Nat) (Z : Fz) (w : World) (hs3 : SlR (tyInt .u8) Z ao1 cap2 u2) (hZ : Z.on w) {K : ((List Int) × Int) → Prop} (hp : gput_vc u0 u1 u2 K) : Calls Tryd.prog 44 #[.int .i64 u0, .int .i64 u1, .slice ao1 u2.length cap2] w fun e w' => ∃ (r : (List Int) × Int) (ao1001 : Option Addr) (cap1002 : Nat) (Z' : Fz), e = .returned (.tuple #[.slice ao1001 r.1.length cap1002, .int .i64 r.2]) ∧ K r ∧ Mem w.heap.size [] w Z [.own (tyInt .u8) 5 ao1001 cap1002 r.1] Z' w' := by
 refine enter0 Tryd.func44 rfl rfl (by kernel_rfl) ?_; intro a0 hF0; have hM0 := Mem.start w Z hZ; have hle0 := Fz.le.refl Z
 have hp4 := hp (hs3.small); clear hp
 refine sqH ?_; intro hQ5Q hQ5
 refine s1 hF0 6 (.slice none 0 0) ?_; intro a6 hF7; clear hF0
 refine s1 hF7 7 (.int .i64 0) ?_; intro a8 hF9; clear hF7
 refine nlH (hQ5 _ _ ?_); clear hQ5 hQ5Q
 refine wp_seq ?_
 refine sqH ?_; intro hQ10Q hQ10
 refine s1 hF9 9 (.int .i64 u0) ?_; intro a11 hF12; clear hF9
 refine s1 hF12 10 (.bool (decide (u0 < 0))) ?_; intro a13 hF14; clear hF12
 refine s1 hF14 11 (.bool (decide (u0 < 0))) ?_; intro a15 hF16; clear hF14
 have hF17 := hF16.atom ((decide (u0 < 0)) == false) (by kernel_rfl); clear hF16
 refine gp hF17 12 0 [] (decide (u0 < 0)) (.int .i64 u0) rfl rfl ?_; intro a18 hF19; clear hF17
 refine gp hF19 13 0 [] (decide (u0 < 0)) (.bool (decide (u0 > 65535))) rfl rfl ?_; intro a20 hF21; clear hF19
 refine st hF21 (.bool ((decide (u0 < 0)) || (decide (u0 > 65535)))) (nog rfl _) rfl (by kernel_rfl) (pk_or hF21 (g := []) (m := 0) (b := decide (u0 < 0)) (v := decide (u0 > 65535)) rfl (by kernel_rfl) (by kernel_rfl) (by kernel_rfl) rfl) ?_; intro a22 hF23; clear hF21
 refine s1 hF23 15 (.bool ((decide (u0 < 0)) || (decide (u0 > 65535)))) ?_; intro a24 hF25; clear hF23
 have hF26 := hF25.atom (((decide (u0 < 0)) || (decide (u0 > 65535))) == false) (by kernel_rfl); clear hF25
 refine gp hF26 16 1 [] ((decide (u0 < 0)) || (decide (u0 > 65535))) (.int .i64 u1) rfl rfl ?_; intro a27 hF28; clear hF26
 refine gp hF28 17 1 [] ((decide (u0 < 0)) || (decide (u0 > 65535))) (.bool (decide (u1 < 0))) rfl rfl ?_; intro a29 hF30; clear hF28
 refine st hF30 (.bool (((decide (u0 < 0)) || (decide (u0 > 65535))) || (decide (u1 < 0)))) (nog rfl _) rfl (by kernel_rfl) (pk_or hF30 (g := []) (m := 1) (b := (decide (u0 < 0)) || (decide (u0 > 65535))) (v := decide (u1 < 0)) rfl (by kernel_rfl) (by kernel_rfl) (by kernel_rfl) rfl) ?_; intro a31 hF32; clear hF30
 refine s1 hF32 19 (.bool (((decide (u0 < 0)) || (decide (u0 > 65535))) || (decide (u1 < 0)))) ?_; intro a33 hF34; clear hF32
 have hF35 := hF34.atom ((((decide (u0 < 0)) || (decide (u0 > 65535))) || (decide (u1 < 0))) == false) (by kernel_rfl); clear hF34
 refine gp hF35 20 2 [] (((decide (u0 < 0)) || (decide (u0 > 65535))) || (decide (u1 < 0))) (.int .i64 u1) rfl rfl ?_; intro a36 hF37; clear hF35
 refine gp hF37 21 2 [] (((decide (u0 < 0)) || (decide (u0 > 65535))) || (decide (u1 < 0))) (.bool (decide (u1 ≥ 15))) rfl rfl ?_; intro a38 hF39; clear hF37
 refine st hF39 (.bool ((((decide (u0 < 0)) || (decide (u0 > 65535))) || (decide (u1 < 0))) || (decide (u1 ≥ 15)))) (nog rfl _) rfl (by kernel_rfl) (pk_or hF39 (g := []) (m := 2) (b := ((decide (u0 < 0)) || (decide (u0 > 65535))) || (decide (u1 < 0))) (v := decide (u1 ≥ 15)) rfl (by kernel_rfl) (by kernel_rfl) (by kernel_rfl) rfl) ?_; intro a40 hF41; clear hF39
 refine nlH (hQ10 _ _ ?_); clear hQ10 hQ10Q
 refine cd hF41 (t := (((decide (u0 < 0)) || (decide (u0 > 65535))) || (decide (u1 < 0))) || (decide (u1 ≥ 15))) (by kernel_rfl) (fun hb42 => ?_) (fun hb42 => ?_)
 · -- yes
  have hp43 := hp4.1 hb42; clear hp4
  have hF44 : Fr 46 [] [] a40 := hF41.region (by kernel_rfl) (by kernel_rfl); clear hF41
  refine sqH ?_; intro hQ45Q hQ45
  refine s1 hF44 6 (.slice none 0 0) ?_; intro a46 hF47; clear hF44
  refine s1 hF47 7 (.int .i64 3) ?_; intro a48 hF49; clear hF47
  refine nlH (hQ45 _ _ ?_); clear hQ45 hQ45Q
  refine wp_ret ?_
  refine thr ?_
  have hM50 : Mem w.heap.size [] w Z [.own (tyInt .u8) 5 none 0 ([] : List Int)] Z w := hM0.addNil (tyInt .u8) 5 (by decide); clear hM0
  refine rt (fn := Tryd.f44) (v := .tuple #[.slice none ([] : List Int).length 0, .int .i64 3]) hF49 (re2 hF49 (fn := Tryd.f44) rfl (by kernel_rfl) (by kernel_rfl)) ?_
  exact ⟨(([] : List Int), 3), none, 0, Z, rfl, hp43, hM50.keep (List.Sublist.cons_cons _ (List.Sublist.slnil))⟩
 · -- no
  have hp51 := hp4.2 hb42; clear hp4
  refine wp_skip ?_
  refine thn ?_
  refine wp_seq ?_
  have hF52 : Fr 46 [] [⟨0, [], .int .i64 u0⟩, ⟨1, [], .int .i64 u1⟩, ⟨2, [], .slice ao1 u2.length cap2⟩] a40 := hF41.region (by kernel_rfl) (by kernel_rfl); clear hF41
  refine sqH ?_; intro hQ53Q hQ53
  refine s1 hF52 23 (.slice ao1 u2.length cap2) ?_; intro a54 hF55; clear hF52
  refine s1 hF55 24 (.int .i64 (u2.length : Int)) ?_; intro a56 hF57; clear hF55
  refine s1 hF57 25 (.bool (decide ((u2.length : Int) < 2))) ?_; intro a58 hF59; clear hF57
  refine nlH (hQ53 _ _ ?_); clear hQ53 hQ53Q
  refine cd hF59 (t := decide ((u2.length : Int) < 2)) (by kernel_rfl) (fun hb60 => ?_) (fun hb60 => ?_)
  · -- yes
   have hp61 := hp51.1 hb60; clear hp51
   refine sqH ?_; intro hQ62Q hQ62
   refine s1 hF59 6 (.slice none 0 0) ?_; intro a63 hF64; clear hF59
   refine s1 hF64 7 (.int .i64 7) ?_; intro a65 hF66; clear hF64
   refine nlH (hQ62 _ _ ?_); clear hQ62 hQ62Q
   refine wp_ret ?_
   refine thr ?_
   have hM67 : Mem w.heap.size [] w Z [.own (tyInt .u8) 5 none 0 ([] : List Int)] Z w := hM0.addNil (tyInt .u8) 5 (by decide); clear hM0
   refine rt (fn := Tryd.f44) (v := .tuple #[.slice none ([] : List Int).length 0, .int .i64 7]) hF66 (re2 hF66 (fn := Tryd.f44) rfl (by kernel_rfl) (by kernel_rfl)) ?_
   exact ⟨(([] : List Int), 7), none, 0, Z, rfl, hp61, hM67.keep (List.Sublist.cons_cons _ (List.Sublist.slnil))⟩
  · -- no
   have hp68 := hp51.2 hb60; clear hp51
   refine wp_skip ?_
   refine thn ?_
   refine wp_seq ?_
   refine sqH ?_; intro hQ69Q hQ69
   refine s1 hF59 26 (.slice ao1 u2.length cap2) ?_; intro a70 hF71; clear hF59
   refine s1 hF71 27 (.int .i64 (u2.length : Int)) ?_; intro a72 hF73; clear hF71
   refine s1 hF73 28 (.bool (decide ((u2.length : Int) > 64))) ?_; intro a74 hF75; clear hF73
   refine nlH (hQ69 _ _ ?_); clear hQ69 hQ69Q
   refine cd hF75 (t := decide ((u2.length : Int) > 64)) (by kernel_rfl) (fun hb76 => ?_) (fun hb76 => ?_)
   · -- yes
    have hp77 := hp68.1 hb76; clear hp68
    refine sqH ?_; intro hQ78Q hQ78
    refine s1 hF75 6 (.slice none 0 0) ?_; intro a79 hF80; clear hF75
    refine s1 hF80 7 (.int .i64 2) ?_; intro a81 hF82; clear hF80
    refine nlH (hQ78 _ _ ?_); clear hQ78 hQ78Q
    refine wp_ret ?_
    refine thr ?_
    have hM83 : Mem w.heap.size [] w Z [.own (tyInt .u8) 5 none 0 ([] : List Int)] Z w := hM0.addNil (tyInt .u8) 5 (by decide); clear hM0
    refine rt (fn := Tryd.f44) (v := .tuple #[.slice none ([] : List Int).length 0, .int .i64 2]) hF82 (re2 hF82 (fn := Tryd.f44) rfl (by kernel_rfl) (by kernel_rfl)) ?_
    exact ⟨(([] : List Int), 2), none, 0, Z, rfl, hp77, hM83.keep (List.Sublist.cons_cons _ (List.Sublist.slnil))⟩
   · -- no
    have hp84 := hp68.2 hb76; clear hp68
    refine wp_skip ?_
    refine thn ?_
    refine sqH ?_; intro hQ85Q hQ85
    refine s1 hF75 29 (.slice ao1 u2.length cap2) ?_; intro a86 hF87; clear hF75
    have hc88 := hp84.1; have hp89 := hp84.2; clear hp84
    refine cl hF87 43 #[.slice ao1 u2.length cap2] (nog rfl _) rfl (by kernel_rfl) (by kernel_rfl) ?_
    refine (bclone_fun u2 hc88 ao1 cap2 _ _ hs3 hM0.fz).mono ?_; rintro _ wd90 ⟨ao94, cap95, Z96, rfl, hm⟩; refine ⟨_, rfl, ?_⟩; intro a91 hF92; have hM93 := hM0.callZ hm; have hle97 := hm.ext.le; clear hm hM0 hF87
    replace hs3 := hs3.mono hle97
    replace hle0 := Fz.le.trans hle0 hle97
    have hM98 : Mem w.heap.size [] w Z [.own (tyInt .u8) 5 ao94 cap95 (bcloneS u2)] Z96 wd90 := hM93; clear hM93
    have hp99 := hp89 (hM98.ownSmall 0 rfl); clear hp89
    refine s1 hF92 8 (.slice ao94 (bcloneS u2).length cap95) ?_; intro a100 hF101; clear hF92
    refine nlH (hQ85 _ _ ?_); clear hQ85 hQ85Q
    refine sqH ?_; intro hQ102Q hQ102
    refine s1 hF101 31 (.slice ao94 (bcloneS u2).length cap95) ?_; intro a103 hF104; clear hF101
    refine s1 hF104 32 (.slice ao94 (bcloneS u2).length cap95) ?_; intro a105 hF106; clear hF104
    have hc107 := hp99.1; have hp108 := hp99.2; clear hp99
    refine ixo hF106 hM98 0 (T := (tyInt .u8)) (xs := (bcloneS u2)) (1 : Int) hc107 (k := .i64) (e := 5) (bytes := 1) (nog rfl _) rfl (by kernel_rfl) rfl (by kernel_rfl) (by kernel_rfl) rfl (by kernel_rfl) ?_; intro g109 a111 hg110 hF112; clear hF106
    subst hg110
    have hF113 : Fr 46 [] [⟨0, [], .int .i64 u0⟩, ⟨1, [], .int .i64 u1⟩, ⟨2, [], .slice ao1 u2.length cap2⟩, ⟨8, [], .slice (some ⟨g109, 0, none⟩) (bcloneS u2).length cap95⟩, ⟨23, [], .slice ao1 u2.length cap2⟩, ⟨24, [], .int .i64 (u2.length : Int)⟩, ⟨25, [], .bool (decide ((u2.length : Int) < 2))⟩, ⟨26, [], .slice ao1 u2.length cap2⟩, ⟨27, [], .int .i64 (u2.length : Int)⟩, ⟨28, [], .bool (decide ((u2.length : Int) > 64))⟩, ⟨29, [], .slice ao1 u2.length cap2⟩, ⟨30, [], .slice (some ⟨g109, 0, none⟩) (bcloneS u2).length cap95⟩, ⟨31, [], .slice (some ⟨g109, 0, none⟩) (bcloneS u2).length cap95⟩, ⟨32, [], .slice (some ⟨g109, 0, none⟩) (bcloneS u2).length cap95⟩, ⟨33, [], .pointer (some ⟨g109, (1 : Int).toNat * 1, none⟩)⟩] a111 := hF112.region (by kernel_rfl) (by kernel_rfl); clear hF112
    have hM114 : Mem w.heap.size [] w Z [.own (tyInt .u8) 5 (some ⟨g109, 0, none⟩) cap95 (bcloneS u2)] Z96 wd90 := hM98; clear hM98
    obtain ⟨q115, hq116⟩ : ∃ q, (bcloneS u2)[(1 : Int).toNat]? = some q := ⟨_, List.getElem?_eq_getElem (by first | omega | (simp only [List.length_set] at *; omega))⟩; have hp117 := hp108 q115 hq116; clear hp108
    obtain ⟨cs118, hT119, hcl120⟩ := own_el hM114 0 (T := (tyInt .u8)) (xs := (bcloneS u2)) rfl (1 : Int).toNat hq116
    obtain rfl : cs118 = ([.int .u8 q115] : List Value) := hT119
    refine lc1 hF113 34 (.int .u8 q115) (hcl120 0 _ rfl) rfl ?_; intro a121 hF122; clear hF113
    refine s1 hF122 35 (.int .u8 (bAnd .u8 q115 240)) ?_; intro a123 hF124; clear hF122
    refine s1 hF124 36 (.int .i64 u1) ?_; intro a125 hF126; clear hF124
    refine s1 hF126 37 (.int .u8 (w8 u1)) ?_; intro a127 hF128; clear hF126
    refine s1 hF128 38 (.int .u8 (bOr .u8 (bAnd .u8 q115 240) (w8 u1))) ?_; intro a129 hF130; clear hF128
    have hc131 := hp117.1; have hp132 := hp117.2; clear hp117
    refine ixo hF130 hM114 0 (T := (tyInt .u8)) (xs := (bcloneS u2)) (1 : Int) hc131 (k := .i64) (e := 5) (bytes := 1) (nog rfl _) rfl (by kernel_rfl) rfl (by kernel_rfl) (by kernel_rfl) rfl (by kernel_rfl) ?_; intro g133 a135 hg134 hF136; clear hF130
    obtain rfl : g109 = g133 := by simpa using hg134
    have hF137 : Fr 46 [] [⟨0, [], .int .i64 u0⟩, ⟨1, [], .int .i64 u1⟩, ⟨2, [], .slice ao1 u2.length cap2⟩, ⟨8, [], .slice (some ⟨g109, 0, none⟩) (bcloneS u2).length cap95⟩, ⟨23, [], .slice ao1 u2.length cap2⟩, ⟨24, [], .int .i64 (u2.length : Int)⟩, ⟨25, [], .bool (decide ((u2.length : Int) < 2))⟩, ⟨26, [], .slice ao1 u2.length cap2⟩, ⟨27, [], .int .i64 (u2.length : Int)⟩, ⟨28, [], .bool (decide ((u2.length : Int) > 64))⟩, ⟨29, [], .slice ao1 u2.length cap2⟩, ⟨30, [], .slice (some ⟨g109, 0, none⟩) (bcloneS u2).length cap95⟩, ⟨31, [], .slice (some ⟨g109, 0, none⟩) (bcloneS u2).length cap95⟩, ⟨32, [], .slice (some ⟨g109, 0, none⟩) (bcloneS u2).length cap95⟩, ⟨33, [], .pointer (some ⟨g109, (1 : Int).toNat * 1, none⟩)⟩, ⟨34, [], .int .u8 q115⟩, ⟨35, [], .int .u8 (bAnd .u8 q115 240)⟩, ⟨36, [], .int .i64 u1⟩, ⟨37, [], .int .u8 (w8 u1)⟩, ⟨38, [], .int .u8 (bOr .u8 (bAnd .u8 q115 240) (w8 u1))⟩, ⟨39, [], .pointer (some ⟨g109, (1 : Int).toNat * 1, none⟩)⟩] a135 := hF136.region (by kernel_rfl) (by kernel_rfl); clear hF136
    have hM138 : Mem w.heap.size [] w Z [.own (tyInt .u8) 5 (some ⟨g109, 0, none⟩) cap95 (bcloneS u2)] Z96 wd90 := hM114; clear hM114
    refine so hF137 hM138 0 (T := (tyInt .u8)) (xs := (bcloneS u2)) (1 : Int).toNat (bOr .u8 (bAnd .u8 q115 240) (w8 u1)) (u := .int .u8 (bOr .u8 (bAnd .u8 q115 240) (w8 u1))) (nog rfl _) rfl rfl (by kernel_rfl) rfl (by kernel_rfl) rfl (by kernel_rfl) (by first | omega | (simp only [List.length_set] at *; omega)) rfl ?_; intro wd139 hM140; clear hM138
    have hF141 : Fr 46 [] [⟨0, [], .int .i64 u0⟩, ⟨1, [], .int .i64 u1⟩, ⟨2, [], .slice ao1 u2.length cap2⟩, ⟨8, [], .slice (some ⟨g109, 0, none⟩) ((bcloneS u2).set (1 : Int).toNat (bOr .u8 (bAnd .u8 q115 240) (w8 u1))).length cap95⟩, ⟨23, [], .slice ao1 u2.length cap2⟩, ⟨24, [], .int .i64 (u2.length : Int)⟩, ⟨25, [], .bool (decide ((u2.length : Int) < 2))⟩, ⟨26, [], .slice ao1 u2.length cap2⟩, ⟨27, [], .int .i64 (u2.length : Int)⟩, ⟨28, [], .bool (decide ((u2.length : Int) > 64))⟩, ⟨29, [], .slice ao1 u2.length cap2⟩, ⟨30, [], .slice (some ⟨g109, 0, none⟩) ((bcloneS u2).set (1 : Int).toNat (bOr .u8 (bAnd .u8 q115 240) (w8 u1))).length cap95⟩, ⟨31, [], .slice (some ⟨g109, 0, none⟩) ((bcloneS u2).set (1 : Int).toNat (bOr .u8 (bAnd .u8 q115 240) (w8 u1))).length cap95⟩, ⟨32, [], .slice (some ⟨g109, 0, none⟩) ((bcloneS u2).set (1 : Int).toNat (bOr .u8 (bAnd .u8 q115 240) (w8 u1))).length cap95⟩, ⟨33, [], .pointer (some ⟨g109, (1 : Int).toNat * 1, none⟩)⟩, ⟨34, [], .int .u8 q115⟩, ⟨35, [], .int .u8 (bAnd .u8 q115 240)⟩, ⟨36, [], .int .i64 u1⟩, ⟨37, [], .int .u8 (w8 u1)⟩, ⟨38, [], .int .u8 (bOr .u8 (bAnd .u8 q115 240) (w8 u1))⟩, ⟨39, [], .pointer (some ⟨g109, (1 : Int).toNat * 1, none⟩)⟩] a135 := by (try simp only [List.length_set] at hF137); (try simp only [List.length_set]); exact hF137.region (by kernel_rfl) (by kernel_rfl)
    clear hF137
    have hM142 : Mem w.heap.size [] w Z [.own (tyInt .u8) 5 (some ⟨g109, 0, none⟩) cap95 ((bcloneS u2).set (1 : Int).toNat (bOr .u8 (bAnd .u8 q115 240) (w8 u1)))] Z96 wd139 := hM140; clear hM140
    refine nlH (hQ102 _ _ ?_); clear hQ102 hQ102Q
    have hF143 : Fr 46 [] [⟨0, [], .int .i64 u0⟩, ⟨8, [], .slice (some ⟨g109, 0, none⟩) ((bcloneS u2).set (1 : Int).toNat (bOr .u8 (bAnd .u8 q115 240) (w8 u1))).length cap95⟩] a135 := hF141.region (by kernel_rfl) (by kernel_rfl); clear hF141
    refine sqH ?_; intro hQ144Q hQ144
    refine s1 hF143 40 (.slice (some ⟨g109, 0, none⟩) ((bcloneS u2).set (1 : Int).toNat (bOr .u8 (bAnd .u8 q115 240) (w8 u1))).length cap95) ?_; intro a145 hF146; clear hF143
    refine s1 hF146 41 (.int .i64 u0) ?_; intro a147 hF148; clear hF146
    refine s1 hF148 42 (.slice (some ⟨g109, 0, none⟩) ((bcloneS u2).set (1 : Int).toNat (bOr .u8 (bAnd .u8 q115 240) (w8 u1))).length cap95) ?_; intro a149 hF150; clear hF148
    have hc152 := hp132.1; have hp153 := hp132.2; clear hp132
    refine fcl hF150 hM142 (.int .u8 (gsumS u0 ((bcloneS u2).set (1 : Int).toNat (bOr .u8 (bAnd .u8 q115 240) (w8 u1))))) 75 #[.int .i64 u0, .slice (some ⟨g109, 0, none⟩) ((bcloneS u2).set (1 : Int).toNat (bOr .u8 (bAnd .u8 q115 240) (w8 u1))).length cap95] (nog rfl _) rfl (by kernel_rfl) (fun _ => by kernel_rfl) ((by obtain ⟨Z9, hle9, hon9, hs151⟩ := hM142.lend 0 rfl; exact gsum_fun u0 ((bcloneS u2).set (1 : Int).toNat (bOr .u8 (bAnd .u8 q115 240) (w8 u1))) hc152 (some ⟨g109, 0, none⟩) cap95 _ _ hs151 hon9)) ?_; intro a154 wd156 hF155 hM157; clear hF150 hM142
    have hc158 := hp153.1; have hp159 := hp153.2; clear hp153
    refine ixo hF155 hM157 0 (T := (tyInt .u8)) (xs := (bcloneS u2).set (1 : Int).toNat (bOr .u8 (bAnd .u8 q115 240) (w8 u1))) (0 : Int) hc158 (k := .i64) (e := 5) (bytes := 1) (nog rfl _) rfl (by kernel_rfl) rfl (by kernel_rfl) (by kernel_rfl) rfl (by kernel_rfl) ?_; intro g160 a162 hg161 hF163; clear hF155
    obtain rfl : g109 = g160 := by simpa using hg161
    have hF164 : Fr 46 [] [⟨0, [], .int .i64 u0⟩, ⟨8, [], .slice (some ⟨g109, 0, none⟩) ((bcloneS u2).set (1 : Int).toNat (bOr .u8 (bAnd .u8 q115 240) (w8 u1))).length cap95⟩, ⟨40, [], .slice (some ⟨g109, 0, none⟩) ((bcloneS u2).set (1 : Int).toNat (bOr .u8 (bAnd .u8 q115 240) (w8 u1))).length cap95⟩, ⟨41, [], .int .i64 u0⟩, ⟨42, [], .slice (some ⟨g109, 0, none⟩) ((bcloneS u2).set (1 : Int).toNat (bOr .u8 (bAnd .u8 q115 240) (w8 u1))).length cap95⟩, ⟨43, [], .int .u8 (gsumS u0 ((bcloneS u2).set (1 : Int).toNat (bOr .u8 (bAnd .u8 q115 240) (w8 u1))))⟩, ⟨44, [], .pointer (some ⟨g109, (0 : Int).toNat * 1, none⟩)⟩] a162 := hF163.region (by kernel_rfl) (by kernel_rfl); clear hF163
    have hM165 : Mem w.heap.size [] w Z [.own (tyInt .u8) 5 (some ⟨g109, 0, none⟩) cap95 ((bcloneS u2).set (1 : Int).toNat (bOr .u8 (bAnd .u8 q115 240) (w8 u1)))] Z96 wd156 := hM157; clear hM157
    refine so hF164 hM165 0 (T := (tyInt .u8)) (xs := (bcloneS u2).set (1 : Int).toNat (bOr .u8 (bAnd .u8 q115 240) (w8 u1))) (0 : Int).toNat (gsumS u0 ((bcloneS u2).set (1 : Int).toNat (bOr .u8 (bAnd .u8 q115 240) (w8 u1)))) (u := .int .u8 (gsumS u0 ((bcloneS u2).set (1 : Int).toNat (bOr .u8 (bAnd .u8 q115 240) (w8 u1))))) (nog rfl _) rfl rfl (by kernel_rfl) rfl (by kernel_rfl) rfl (by kernel_rfl) (by first | omega | (simp only [List.length_set] at *; omega)) rfl ?_; intro wd166 hM167; clear hM165
    have hF168 : Fr 46 [] [⟨0, [], .int .i64 u0⟩, ⟨8, [], .slice (some ⟨g109, 0, none⟩) (((bcloneS u2).set (1 : Int).toNat (bOr .u8 (bAnd .u8 q115 240) (w8 u1))).set (0 : Int).toNat (gsumS u0 ((bcloneS u2).set (1 : Int).toNat (bOr .u8 (bAnd .u8 q115 240) (w8 u1))))).length cap95⟩, ⟨40, [], .slice (some ⟨g109, 0, none⟩) (((bcloneS u2).set (1 : Int).toNat (bOr .u8 (bAnd .u8 q115 240) (w8 u1))).set (0 : Int).toNat (gsumS u0 ((bcloneS u2).set (1 : Int).toNat (bOr .u8 (bAnd .u8 q115 240) (w8 u1))))).length cap95⟩, ⟨41, [], .int .i64 u0⟩, ⟨42, [], .slice (some ⟨g109, 0, none⟩) (((bcloneS u2).set (1 : Int).toNat (bOr .u8 (bAnd .u8 q115 240) (w8 u1))).set (0 : Int).toNat (gsumS u0 ((bcloneS u2).set (1 : Int).toNat (bOr .u8 (bAnd .u8 q115 240) (w8 u1))))).length cap95⟩, ⟨43, [], .int .u8 (gsumS u0 ((bcloneS u2).set (1 : Int).toNat (bOr .u8 (bAnd .u8 q115 240) (w8 u1))))⟩, ⟨44, [], .pointer (some ⟨g109, (0 : Int).toNat * 1, none⟩)⟩] a162 := by (try simp only [List.length_set] at hF164); (try simp only [List.length_set]); exact hF164.region (by kernel_rfl) (by kernel_rfl)
    clear hF164
    have hM169 : Mem w.heap.size [] w Z [.own (tyInt .u8) 5 (some ⟨g109, 0, none⟩) cap95 (((bcloneS u2).set (1 : Int).toNat (bOr .u8 (bAnd .u8 q115 240) (w8 u1))).set (0 : Int).toNat (gsumS u0 ((bcloneS u2).set (1 : Int).toNat (bOr .u8 (bAnd .u8 q115 240) (w8 u1)))))] Z96 wd166 := hM167; clear hM167
    refine nlH (hQ144 _ _ ?_); clear hQ144 hQ144Q
    refine sqH ?_; intro hQ170Q hQ170
    refine s1 hF168 45 (.slice (some ⟨g109, 0, none⟩) (((bcloneS u2).set (1 : Int).toNat (bOr .u8 (bAnd .u8 q115 240) (w8 u1))).set (0 : Int).toNat (gsumS u0 ((bcloneS u2).set (1 : Int).toNat (bOr .u8 (bAnd .u8 q115 240) (w8 u1))))).length cap95) ?_; intro a171 hF172; clear hF168
    refine s1 hF172 6 (.slice (some ⟨g109, 0, none⟩) (((bcloneS u2).set (1 : Int).toNat (bOr .u8 (bAnd .u8 q115 240) (w8 u1))).set (0 : Int).toNat (gsumS u0 ((bcloneS u2).set (1 : Int).toNat (bOr .u8 (bAnd .u8 q115 240) (w8 u1))))).length cap95) ?_; intro a173 hF174; clear hF172
    refine s1 hF174 7 (.int .i64 0) ?_; intro a175 hF176; clear hF174
    refine nlH (hQ170 _ _ ?_); clear hQ170 hQ170Q
    refine wp_ret ?_
    refine rt (fn := Tryd.f44) (v := .tuple #[.slice (some ⟨g109, 0, none⟩) (((bcloneS u2).set (1 : Int).toNat (bOr .u8 (bAnd .u8 q115 240) (w8 u1))).set (0 : Int).toNat (gsumS u0 ((bcloneS u2).set (1 : Int).toNat (bOr .u8 (bAnd .u8 q115 240) (w8 u1))))).length cap95, .int .i64 0]) hF176 (re2 hF176 (fn := Tryd.f44) rfl (by kernel_rfl) (by kernel_rfl)) ?_
    exact ⟨(((bcloneS u2).set (1 : Int).toNat (bOr .u8 (bAnd .u8 q115 240) (w8 u1))).set (0 : Int).toNat (gsumS u0 ((bcloneS u2).set (1 : Int).toNat (bOr .u8 (bAnd .u8 q115 240) (w8 u1)))), 0), (some ⟨g109, 0, none⟩), cap95, Z96, rfl, hp159, hM169.keep (List.Sublist.cons_cons _ (List.Sublist.slnil))⟩

set_option maxRecDepth 100000 in
set_option maxHeartbeats 0 in
theorem gbad_walk (u0 : Guard) (b1 : Nat) (B : Nat) (w0 : World) (Z0 : Fz) (Rr : List Res) (Z : Fz) (w : World) (hM0 : Mem B [] w0 Z0 ((.row b1 [.int .i64 u0.Key, .int .i64 u0.Last, .int .i64 u0.Bad, .int .i64 u0.State] 62) :: Rr) Z w) (hZ : Z.on w) {K : (Guard × Int × Guard) → Prop} (hp : gbad_vc u0 K) : Calls Tryd.prog 74 #[.pointer (some ⟨b1, 0, none⟩)] w fun e w' => ∃ (r : Guard × Int × Guard) (Z' : Fz), e = .returned (.tuple #[.agg #[.int .i64 r.1.Key, .int .i64 r.1.Last, .int .i64 r.1.Bad, .int .i64 r.1.State], .int .i64 r.2.1]) ∧ K r ∧ Fz.le Z Z' ∧ Mem B [] w0 Z0 ((.row b1 [.int .i64 r.2.2.Key, .int .i64 r.2.2.Last, .int .i64 r.2.2.Bad, .int .i64 r.2.2.State] 62) :: Rr) Z' w' := by
 refine enter0 Tryd.func74 rfl rfl (by kernel_rfl) ?_; intro a0 hF0; have hle0 := Fz.le.refl Z
 refine sqH ?_; intro hQ2Q hQ2
 refine sn hF0 hM0 (fun b => .pointer (some ⟨b, 0, none⟩)) [.int .i64 0, .int .i64 0, .int .i64 0, .int .i64 0] 62 (nog rfl _) rfl (by kernel_rfl) (by kernel_rfl) ?_; intro b3 a4 wd6 hF5 hM7; clear hF0 hM0
 refine s1 hF5 2 (.int .i64 0) ?_; intro a8 hF9; clear hF5
 refine nlH (hQ2 _ _ ?_); clear hQ2 hQ2Q
 refine sqH ?_; intro hQ10Q hQ10
 refine s1 hF9 3 (.pointer (some ⟨b1, 3, none⟩)) ?_; intro a11 hF12; clear hF9
 refine sr hF12 hM7 1 [.int .i64 u0.Key, .int .i64 u0.Last, .int .i64 u0.Bad, .int .i64 4] (b := b1) (off := 3) (cs := [.int .i64 u0.Key, .int .i64 u0.Last, .int .i64 u0.Bad, .int .i64 u0.State]) (ty := 62) (u := .int .i64 4) (nog rfl _) rfl rfl (by kernel_rfl) (by kernel_rfl) (by kernel_rfl) (by kernel_rfl) (by kernel_rfl) (by kernel_rfl) (by kernel_rfl) ?_; intro wd13 hM14; clear hM7
 have hM15 : Mem B [] w0 Z0 ((.row b3 [.int .i64 0, .int .i64 0, .int .i64 0, .int .i64 0] 62) :: (.row b1 [.int .i64 u0.Key, .int .i64 u0.Last, .int .i64 u0.Bad, .int .i64 4] 62) :: Rr) Z wd13 := hM14; clear hM14
 refine nlH (hQ10 _ _ ?_); clear hQ10 hQ10Q
 refine sqH ?_; intro hQ16Q hQ16
 refine s1 hF12 4 (.pointer (some ⟨b1, 2, none⟩)) ?_; intro a17 hF18; clear hF12
 refine l1 hF18 hM15 5 1 2 (.int .i64 u0.Bad) rfl rfl ?_; intro a19 hF20; clear hF18
 refine s1 hF20 6 (.int .i64 (w64 (u0.Bad + 1))) ?_; intro a21 hF22; clear hF20
 refine st hF22 (.int .i64 (min (w64 (u0.Bad + 1)) 1000000)) (nog rfl _) rfl (by kernel_rfl) (re_ (p0 hF22 (r := .ok (.value (.int .i64 (if 1000000 < (w64 (u0.Bad + 1)) then 1000000 else (w64 (u0.Bad + 1))))) wd13) (by kernel_rfl)) (by rw [imin])) ?_; intro a23 hF24; clear hF22
 refine s1 hF24 8 (.pointer (some ⟨b1, 2, none⟩)) ?_; intro a25 hF26; clear hF24
 refine sr hF26 hM15 1 [.int .i64 u0.Key, .int .i64 u0.Last, .int .i64 (min (w64 (u0.Bad + 1)) 1000000), .int .i64 4] (b := b1) (off := 2) (cs := [.int .i64 u0.Key, .int .i64 u0.Last, .int .i64 u0.Bad, .int .i64 4]) (ty := 62) (u := .int .i64 (min (w64 (u0.Bad + 1)) 1000000)) (nog rfl _) rfl rfl (by kernel_rfl) (by kernel_rfl) (by kernel_rfl) (by kernel_rfl) (by kernel_rfl) (by kernel_rfl) (by kernel_rfl) ?_; intro wd27 hM28; clear hM15
 have hM29 : Mem B [] w0 Z0 ((.row b3 [.int .i64 0, .int .i64 0, .int .i64 0, .int .i64 0] 62) :: (.row b1 [.int .i64 u0.Key, .int .i64 u0.Last, .int .i64 (min (w64 (u0.Bad + 1)) 1000000), .int .i64 4] 62) :: Rr) Z wd27 := hM28; clear hM28
 refine nlH (hQ16 _ _ ?_); clear hQ16 hQ16Q
 refine sqH ?_; intro hQ30Q hQ30
 refine l2 hF26 hM29 9 1 0 4 [.int .i64 u0.Key, .int .i64 u0.Last, .int .i64 (min (w64 (u0.Bad + 1)) 1000000), .int .i64 4] rfl rfl ?_; intro a31 hF32; clear hF26
 refine sr hF32 hM29 0 [.int .i64 u0.Key, .int .i64 u0.Last, .int .i64 (min (w64 (u0.Bad + 1)) 1000000), .int .i64 4] (b := b3) (off := 0) (cs := [.int .i64 0, .int .i64 0, .int .i64 0, .int .i64 0]) (ty := 62) (u := .agg #[.int .i64 u0.Key, .int .i64 u0.Last, .int .i64 (min (w64 (u0.Bad + 1)) 1000000), .int .i64 4]) (nog rfl _) rfl rfl (by kernel_rfl) (by kernel_rfl) (by kernel_rfl) (by kernel_rfl) (by kernel_rfl) (by kernel_rfl) (by kernel_rfl) ?_; intro wd33 hM34; clear hM29
 refine s1 hF32 2 (.int .i64 0) ?_; intro a35 hF36; clear hF32
 have hM37 : Mem B [] w0 Z0 ((.row b3 [.int .i64 u0.Key, .int .i64 u0.Last, .int .i64 (min (w64 (u0.Bad + 1)) 1000000), .int .i64 4] 62) :: (.row b1 [.int .i64 u0.Key, .int .i64 u0.Last, .int .i64 (min (w64 (u0.Bad + 1)) 1000000), .int .i64 4] 62) :: Rr) Z wd33 := hM34; clear hM34
 refine nlH (hQ30 _ _ ?_); clear hQ30 hQ30Q
 refine wp_ret ?_
 refine rt (fn := Tryd.f74) (v := .tuple #[.agg #[.int .i64 u0.Key, .int .i64 u0.Last, .int .i64 (min (w64 (u0.Bad + 1)) 1000000), .int .i64 4], .int .i64 0]) hF36 (re2c hF36 (fn := Tryd.f74) rfl (ad := ⟨b3, 0, none⟩) (by kernel_rfl) (loadVar_run hM37 0 (b := b3) (k := 4) (vs := [.int .i64 u0.Key, .int .i64 u0.Last, .int .i64 (min (w64 (u0.Bad + 1)) 1000000), .int .i64 4]) (ty := 62) rfl (by kernel_rfl) (by kernel_rfl)) (by kernel_rfl)) ?_
 exact ⟨((⟨u0.Key, u0.Last, min (w64 (u0.Bad + 1)) 1000000, 4⟩ : Guard), 0, (⟨u0.Key, u0.Last, min (w64 (u0.Bad + 1)) 1000000, 4⟩ : Guard)), Z, rfl, hp, hle0, hM37.keep (List.Sublist.cons _ (List.Sublist.cons_cons _ (List.Sublist.refl _)))⟩

end Go.Proofs.YtinegicenfndkaaDoor
