/- The walks, made by program: each call does what its pure predicate says. -/
import Derived.Test.YtdndfbamhnchfaaDoorPB
import Derived.Test.YtdndfbamhnchfaaDoorWA
set_option linter.unusedVariables false
set_option linter.unusedSimpArgs false
namespace Go.Proofs.YtdndfbamhnchfaaDoor
open Go.Sy Go.RowKit
theorem splaces_fun (u0 : Signal) (hpre : (0 ≤ u0.Start ∧ u0.Start ≤ 512) ∧ 1 ≤ u0.Size ∧ u0.Size ≤ 40)  (Z : Fz) (w : World)  (hZ : Z.on w) : Calls Tryd.prog 57 #[.agg #[str u0.Name, .int .i64 u0.Start, .int .i64 u0.Size, .bool u0.Back, .bool u0.Signed, .int .i64 u0.Mul, .int .i64 u0.Div, .int .i64 u0.Add, .int .i64 u0.Key]] w fun e w' => ∃ (ao1001 : Option Addr) (cap1002 : Nat) (Z' : Fz), e = .returned (.slice ao1001 (placesS u0).length cap1002) ∧ Mem w.heap.size [] w Z [.own (tyInt .i64) 3 ao1001 cap1002 (placesS u0)] Z' w' :=
  (splaces_walk u0  Z w  hZ (splaces_ok u0 hpre)).mono fun _ _ ⟨r, h0, h1, h2, he, hk, hm⟩ => by subst hk; exact ⟨h0, h1, h2, he, hm⟩

theorem smean_fun (u0 : Signal) (u1 : Int) (hpre : factS u0 ∧ -1099511627776 ≤ u1 ∧ u1 ≤ 1099511627776)  (Z : Fz) (w : World)  (hZ : Z.on w) : Calls Tryd.prog 36 #[.agg #[str u0.Name, .int .i64 u0.Start, .int .i64 u0.Size, .bool u0.Back, .bool u0.Signed, .int .i64 u0.Mul, .int .i64 u0.Div, .int .i64 u0.Add, .int .i64 u0.Key], .int .i64 u1] w fun e w' => e = .returned (.agg #[str ((meanS u0 u1).Name), .int .i64 ((meanS u0 u1).Num), .int .i64 ((meanS u0 u1).Den)]) ∧ Below w.heap.size w w' :=
  (smean_walk u0 u1  Z w  hZ (smean_ok u0 u1 hpre)).mono fun _ _ ⟨r, he, hk, hb⟩ => ⟨by subst hk; exact he, hb⟩

set_option maxRecDepth 100000 in
set_option maxHeartbeats 0 in
theorem scheck_walk (u0 : Signal) (u1 : Int)  (Z : Fz) (w : World)  (hZ : Z.on w) {K : Int → Prop} (hp : scheck_vc u0 u1 K) : Calls Tryd.prog 19 #[.agg #[str u0.Name, .int .i64 u0.Start, .int .i64 u0.Size, .bool u0.Back, .bool u0.Signed, .int .i64 u0.Mul, .int .i64 u0.Div, .int .i64 u0.Add, .int .i64 u0.Key], .int .i64 u1] w fun e w' => ∃ r : Int, e = .returned (.int .i64 r) ∧ K r ∧ Below w.heap.size w w' := by
 refine enter0 Tryd.func19 rfl rfl (by kernel_rfl) ?_; intro a0 hF0; have hM0 := Mem.start w Z hZ; have hle0 := Fz.le.refl Z
 refine sqH ?_; intro hQ1Q hQ1
 refine sn hF0 hM0 (fun b => .pointer (some ⟨b, 0, none⟩)) [str u0.Name, .int .i64 u0.Start, .int .i64 u0.Size, .bool u0.Back, .bool u0.Signed, .int .i64 u0.Mul, .int .i64 u0.Div, .int .i64 u0.Add, .int .i64 u0.Key] 23 (nog rfl _) rfl (by kernel_rfl) (by kernel_rfl) ?_; intro b2 a3 wd5 hF4 hM6; clear hF0 hM0
 refine s1 hF4 4 (.int .i64 0) ?_; intro a7 hF8; clear hF4
 refine nlH (hQ1 _ _ ?_); clear hQ1 hQ1Q
 refine wp_seq ?_
 refine wp_block ?_
 refine sqH ?_; intro hQ9Q hQ9
 refine s1 hF8 7 (.pointer (some ⟨b2, 0, none⟩)) ?_; intro a10 hF11; clear hF8
 refine l1 hF11 hM6 8 0 0 (str u0.Name) rfl rfl ?_; intro a12 hF13; clear hF11
 refine fcl hF13 hM6 (.bool (nameS u0.Name)) 20 #[str u0.Name] (nog rfl _) rfl (by kernel_rfl) (fun _ => by kernel_rfl) (sname_fun u0.Name _ _ hM6.fz) ?_; intro a14 wd16 hF15 hM17; clear hF13 hM6
 refine s1 hF15 10 (.bool (!(nameS u0.Name))) ?_; intro a18 hF19; clear hF15
 refine s1 hF19 6 (.bool (!(nameS u0.Name))) ?_; intro a20 hF21; clear hF19
 refine nlH (hQ9 _ _ ?_); clear hQ9 hQ9Q
 refine cd hF21 (t := !(nameS u0.Name)) (by kernel_rfl) (fun hb22 => ?_) (fun hb22 => ?_)
 ·
  have hp23 := hp.1 hb22; clear hp
  refine sqH ?_; intro hQ24Q hQ24
  refine s1 hF21 4 (.int .i64 1) ?_; intro a25 hF26; clear hF21
  refine nlH (hQ24 _ _ ?_); clear hQ24 hQ24Q
  refine wp_ret ?_
  refine ibr ?_
  refine thr ?_
  refine rt (fn := Tryd.f19) (v := .int .i64 1) hF26 (re1 hF26 (fn := Tryd.f19) rfl (by kernel_rfl)) ?_
  exact ⟨1, rfl, hp23, hM17.below⟩
 ·
  have hp27 := hp.2 hb22; clear hp
  refine sqH ?_; intro hQ28Q hQ28
  refine s1 hF21 12 (.int .i64 u1) ?_; intro a29 hF30; clear hF21
  refine s1 hF30 13 (.bool (decide (u1 < 0))) ?_; intro a31 hF32; clear hF30
  refine s1 hF32 14 (.bool (decide (u1 < 0))) ?_; intro a33 hF34; clear hF32
  have hF35 := hF34.atom ((decide (u1 < 0)) == false) (by kernel_rfl); clear hF34
  refine gp hF35 15 0 [] (decide (u1 < 0)) (.int .i64 u1) rfl rfl ?_; intro a36 hF37; clear hF35
  refine gp hF37 16 0 [] (decide (u1 < 0)) (.bool (decide (u1 > 64))) rfl rfl ?_; intro a38 hF39; clear hF37
  refine st hF39 (.bool ((decide (u1 < 0)) || (decide (u1 > 64)))) (nog rfl _) rfl (by kernel_rfl) (pk_or hF39 (g := []) (m := 0) (b := decide (u1 < 0)) (v := decide (u1 > 64)) rfl (by kernel_rfl) (by kernel_rfl) (by kernel_rfl) rfl) ?_; intro a40 hF41; clear hF39
  refine s1 hF41 18 (.bool ((decide (u1 < 0)) || (decide (u1 > 64)))) ?_; intro a42 hF43; clear hF41
  have hF44 := hF43.atom (((decide (u1 < 0)) || (decide (u1 > 64))) == false) (by kernel_rfl); clear hF43
  refine gp hF44 19 1 [] ((decide (u1 < 0)) || (decide (u1 > 64))) (.pointer (some ⟨b2, 2, none⟩)) rfl rfl ?_; intro a45 hF46; clear hF44
  refine gd hF46 (.int .i64 u0.Size) (m := 1) (cj := []) (bj := (decide (u1 < 0)) || (decide (u1 > 64))) rfl rfl (by kernel_rfl) rfl (by kernel_rfl) (by kernel_rfl) (by kernel_rfl) (fun hg => ld hF46 hM17 0 (g := [1]) (b := b2) (off := 2) (cs := [str u0.Name, .int .i64 u0.Start, .int .i64 u0.Size, .bool u0.Back, .bool u0.Signed, .int .i64 u0.Mul, .int .i64 u0.Div, .int .i64 u0.Add, .int .i64 u0.Key]) (ty := 23) rfl (by kernel_rfl) (by kernel_rfl) (by kernel_rfl) (by kernel_rfl) hg) ?_; intro a47 hF48; clear hF46
  refine gp hF48 21 1 [] ((decide (u1 < 0)) || (decide (u1 > 64))) (.bool (decide (u0.Size < 1))) rfl rfl ?_; intro a49 hF50; clear hF48
  refine st hF50 (.bool (((decide (u1 < 0)) || (decide (u1 > 64))) || (decide (u0.Size < 1)))) (nog rfl _) rfl (by kernel_rfl) (pk_or hF50 (g := []) (m := 1) (b := (decide (u1 < 0)) || (decide (u1 > 64))) (v := decide (u0.Size < 1)) rfl (by kernel_rfl) (by kernel_rfl) (by kernel_rfl) rfl) ?_; intro a51 hF52; clear hF50
  refine s1 hF52 23 (.bool (((decide (u1 < 0)) || (decide (u1 > 64))) || (decide (u0.Size < 1)))) ?_; intro a53 hF54; clear hF52
  have hF55 := hF54.atom ((((decide (u1 < 0)) || (decide (u1 > 64))) || (decide (u0.Size < 1))) == false) (by kernel_rfl); clear hF54
  refine gp hF55 24 2 [] (((decide (u1 < 0)) || (decide (u1 > 64))) || (decide (u0.Size < 1))) (.pointer (some ⟨b2, 2, none⟩)) rfl rfl ?_; intro a56 hF57; clear hF55
  refine gd hF57 (.int .i64 u0.Size) (m := 2) (cj := []) (bj := ((decide (u1 < 0)) || (decide (u1 > 64))) || (decide (u0.Size < 1))) rfl rfl (by kernel_rfl) rfl (by kernel_rfl) (by kernel_rfl) (by kernel_rfl) (fun hg => ld hF57 hM17 0 (g := [2]) (b := b2) (off := 2) (cs := [str u0.Name, .int .i64 u0.Start, .int .i64 u0.Size, .bool u0.Back, .bool u0.Signed, .int .i64 u0.Mul, .int .i64 u0.Div, .int .i64 u0.Add, .int .i64 u0.Key]) (ty := 23) rfl (by kernel_rfl) (by kernel_rfl) (by kernel_rfl) (by kernel_rfl) hg) ?_; intro a58 hF59; clear hF57
  refine gp hF59 26 2 [] (((decide (u1 < 0)) || (decide (u1 > 64))) || (decide (u0.Size < 1))) (.bool (decide (u0.Size > 40))) rfl rfl ?_; intro a60 hF61; clear hF59
  refine st hF61 (.bool ((((decide (u1 < 0)) || (decide (u1 > 64))) || (decide (u0.Size < 1))) || (decide (u0.Size > 40)))) (nog rfl _) rfl (by kernel_rfl) (pk_or hF61 (g := []) (m := 2) (b := ((decide (u1 < 0)) || (decide (u1 > 64))) || (decide (u0.Size < 1))) (v := decide (u0.Size > 40)) rfl (by kernel_rfl) (by kernel_rfl) (by kernel_rfl) rfl) ?_; intro a62 hF63; clear hF61
  refine s1 hF63 11 (.bool ((((decide (u1 < 0)) || (decide (u1 > 64))) || (decide (u0.Size < 1))) || (decide (u0.Size > 40)))) ?_; intro a64 hF65; clear hF63
  refine nlH (hQ28 _ _ ?_); clear hQ28 hQ28Q
  refine cd hF65 (t := (((decide (u1 < 0)) || (decide (u1 > 64))) || (decide (u0.Size < 1))) || (decide (u0.Size > 40))) (by kernel_rfl) (fun hb66 => ?_) (fun hb66 => ?_)
  ·
   have hp67 := hp27.1 hb66; clear hp27
   have hF68 : Fr 98 [] [] a64 := hF65.reg; clear hF65
   refine sqH ?_; intro hQ69Q hQ69
   refine s1 hF68 4 (.int .i64 3) ?_; intro a70 hF71; clear hF68
   refine nlH (hQ69 _ _ ?_); clear hQ69 hQ69Q
   refine wp_ret ?_
   refine ibr ?_
   refine thr ?_
   refine rt (fn := Tryd.f19) (v := .int .i64 3) hF71 (re1 hF71 (fn := Tryd.f19) rfl (by kernel_rfl)) ?_
   exact ⟨3, rfl, hp67, hM17.below⟩
  ·
   have hp72 := hp27.2 hb66; clear hp27
   have hF73 : Fr 98 [] [⟨1, [], .int .i64 u1⟩, ⟨2, [], .pointer (some ⟨b2, 0, none⟩)⟩] a64 := hF65.reg; clear hF65
   refine sqH ?_; intro hQ74Q hQ74
   refine s1 hF73 29 (.pointer (some ⟨b2, 5, none⟩)) ?_; intro a75 hF76; clear hF73
   refine l1 hF76 hM17 30 0 5 (.int .i64 u0.Mul) rfl rfl ?_; intro a77 hF78; clear hF76
   refine s1 hF78 31 (.bool (u0.Mul == 0)) ?_; intro a79 hF80; clear hF78
   refine s1 hF80 32 (.bool (u0.Mul == 0)) ?_; intro a81 hF82; clear hF80
   have hF83 := hF82.atom ((u0.Mul == 0) == false) (by kernel_rfl); clear hF82
   refine gp hF83 33 0 [] (u0.Mul == 0) (.pointer (some ⟨b2, 5, none⟩)) rfl rfl ?_; intro a84 hF85; clear hF83
   refine gd hF85 (.int .i64 u0.Mul) (m := 0) (cj := []) (bj := u0.Mul == 0) rfl rfl (by kernel_rfl) rfl (by kernel_rfl) (by kernel_rfl) (by kernel_rfl) (fun hg => ld hF85 hM17 0 (g := [0]) (b := b2) (off := 5) (cs := [str u0.Name, .int .i64 u0.Start, .int .i64 u0.Size, .bool u0.Back, .bool u0.Signed, .int .i64 u0.Mul, .int .i64 u0.Div, .int .i64 u0.Add, .int .i64 u0.Key]) (ty := 23) rfl (by kernel_rfl) (by kernel_rfl) (by kernel_rfl) (by kernel_rfl) hg) ?_; intro a86 hF87; clear hF85
   refine gp hF87 35 0 [] (u0.Mul == 0) (.pointer (some ⟨b2, 5, none⟩)) rfl rfl ?_; intro a88 hF89; clear hF87
   refine gd hF89 (.int .i64 u0.Mul) (m := 0) (cj := []) (bj := u0.Mul == 0) rfl rfl (by kernel_rfl) rfl (by kernel_rfl) (by kernel_rfl) (by kernel_rfl) (fun hg => ld hF89 hM17 0 (g := [0]) (b := b2) (off := 5) (cs := [str u0.Name, .int .i64 u0.Start, .int .i64 u0.Size, .bool u0.Back, .bool u0.Signed, .int .i64 u0.Mul, .int .i64 u0.Div, .int .i64 u0.Add, .int .i64 u0.Key]) (ty := 23) rfl (by kernel_rfl) (by kernel_rfl) (by kernel_rfl) (by kernel_rfl) hg) ?_; intro a90 hF91; clear hF89
   refine gp hF91 37 0 [] (u0.Mul == 0) (.int .i64 (w64 (0 - u0.Mul))) rfl rfl ?_; intro a92 hF93; clear hF91
   refine gd hF93 (.int .i64 (max u0.Mul (w64 (0 - u0.Mul)))) (m := 0) (cj := []) (bj := u0.Mul == 0) rfl rfl (by kernel_rfl) rfl (by kernel_rfl) (by kernel_rfl) (by kernel_rfl) (fun hg => re_ (pu hF93 (g := [0]) (r := .ok (.value (.int .i64 (if u0.Mul < (w64 (0 - u0.Mul)) then (w64 (0 - u0.Mul)) else u0.Mul))) wd16) (by kernel_rfl) hg) (by rw [imax])) ?_; intro a94 hF95; clear hF93
   refine gp hF95 39 0 [] (u0.Mul == 0) (.bool (decide ((max u0.Mul (w64 (0 - u0.Mul))) > 1000000))) rfl rfl ?_; intro a96 hF97; clear hF95
   refine st hF97 (.bool ((u0.Mul == 0) || (decide ((max u0.Mul (w64 (0 - u0.Mul))) > 1000000)))) (nog rfl _) rfl (by kernel_rfl) (pk_or hF97 (g := []) (m := 0) (b := u0.Mul == 0) (v := decide ((max u0.Mul (w64 (0 - u0.Mul))) > 1000000)) rfl (by kernel_rfl) (by kernel_rfl) (by kernel_rfl) rfl) ?_; intro a98 hF99; clear hF97
   refine s1 hF99 41 (.bool ((u0.Mul == 0) || (decide ((max u0.Mul (w64 (0 - u0.Mul))) > 1000000)))) ?_; intro a100 hF101; clear hF99
   have hF102 := hF101.atom (((u0.Mul == 0) || (decide ((max u0.Mul (w64 (0 - u0.Mul))) > 1000000))) == false) (by kernel_rfl); clear hF101
   refine gp hF102 42 1 [] ((u0.Mul == 0) || (decide ((max u0.Mul (w64 (0 - u0.Mul))) > 1000000))) (.pointer (some ⟨b2, 5, none⟩)) rfl rfl ?_; intro a103 hF104; clear hF102
   refine gd hF104 (.int .i64 u0.Mul) (m := 1) (cj := []) (bj := (u0.Mul == 0) || (decide ((max u0.Mul (w64 (0 - u0.Mul))) > 1000000))) rfl rfl (by kernel_rfl) rfl (by kernel_rfl) (by kernel_rfl) (by kernel_rfl) (fun hg => ld hF104 hM17 0 (g := [1]) (b := b2) (off := 5) (cs := [str u0.Name, .int .i64 u0.Start, .int .i64 u0.Size, .bool u0.Back, .bool u0.Signed, .int .i64 u0.Mul, .int .i64 u0.Div, .int .i64 u0.Add, .int .i64 u0.Key]) (ty := 23) rfl (by kernel_rfl) (by kernel_rfl) (by kernel_rfl) (by kernel_rfl) hg) ?_; intro a105 hF106; clear hF104
   refine gp hF106 44 1 [] ((u0.Mul == 0) || (decide ((max u0.Mul (w64 (0 - u0.Mul))) > 1000000))) (.bool (decide (u0.Mul < (-1000000)))) rfl rfl ?_; intro a107 hF108; clear hF106
   refine st hF108 (.bool (((u0.Mul == 0) || (decide ((max u0.Mul (w64 (0 - u0.Mul))) > 1000000))) || (decide (u0.Mul < (-1000000))))) (nog rfl _) rfl (by kernel_rfl) (pk_or hF108 (g := []) (m := 1) (b := (u0.Mul == 0) || (decide ((max u0.Mul (w64 (0 - u0.Mul))) > 1000000))) (v := decide (u0.Mul < (-1000000))) rfl (by kernel_rfl) (by kernel_rfl) (by kernel_rfl) rfl) ?_; intro a109 hF110; clear hF108
   refine s1 hF110 46 (.bool (((u0.Mul == 0) || (decide ((max u0.Mul (w64 (0 - u0.Mul))) > 1000000))) || (decide (u0.Mul < (-1000000))))) ?_; intro a111 hF112; clear hF110
   have hF113 := hF112.atom ((((u0.Mul == 0) || (decide ((max u0.Mul (w64 (0 - u0.Mul))) > 1000000))) || (decide (u0.Mul < (-1000000)))) == false) (by kernel_rfl); clear hF112
   refine gp hF113 47 2 [] (((u0.Mul == 0) || (decide ((max u0.Mul (w64 (0 - u0.Mul))) > 1000000))) || (decide (u0.Mul < (-1000000)))) (.pointer (some ⟨b2, 6, none⟩)) rfl rfl ?_; intro a114 hF115; clear hF113
   refine gd hF115 (.int .i64 u0.Div) (m := 2) (cj := []) (bj := ((u0.Mul == 0) || (decide ((max u0.Mul (w64 (0 - u0.Mul))) > 1000000))) || (decide (u0.Mul < (-1000000)))) rfl rfl (by kernel_rfl) rfl (by kernel_rfl) (by kernel_rfl) (by kernel_rfl) (fun hg => ld hF115 hM17 0 (g := [2]) (b := b2) (off := 6) (cs := [str u0.Name, .int .i64 u0.Start, .int .i64 u0.Size, .bool u0.Back, .bool u0.Signed, .int .i64 u0.Mul, .int .i64 u0.Div, .int .i64 u0.Add, .int .i64 u0.Key]) (ty := 23) rfl (by kernel_rfl) (by kernel_rfl) (by kernel_rfl) (by kernel_rfl) hg) ?_; intro a116 hF117; clear hF115
   refine gp hF117 49 2 [] (((u0.Mul == 0) || (decide ((max u0.Mul (w64 (0 - u0.Mul))) > 1000000))) || (decide (u0.Mul < (-1000000)))) (.bool (decide (u0.Div < 1))) rfl rfl ?_; intro a118 hF119; clear hF117
   refine st hF119 (.bool ((((u0.Mul == 0) || (decide ((max u0.Mul (w64 (0 - u0.Mul))) > 1000000))) || (decide (u0.Mul < (-1000000)))) || (decide (u0.Div < 1)))) (nog rfl _) rfl (by kernel_rfl) (pk_or hF119 (g := []) (m := 2) (b := ((u0.Mul == 0) || (decide ((max u0.Mul (w64 (0 - u0.Mul))) > 1000000))) || (decide (u0.Mul < (-1000000)))) (v := decide (u0.Div < 1)) rfl (by kernel_rfl) (by kernel_rfl) (by kernel_rfl) rfl) ?_; intro a120 hF121; clear hF119
   refine s1 hF121 51 (.bool ((((u0.Mul == 0) || (decide ((max u0.Mul (w64 (0 - u0.Mul))) > 1000000))) || (decide (u0.Mul < (-1000000)))) || (decide (u0.Div < 1)))) ?_; intro a122 hF123; clear hF121
   have hF124 := hF123.atom (((((u0.Mul == 0) || (decide ((max u0.Mul (w64 (0 - u0.Mul))) > 1000000))) || (decide (u0.Mul < (-1000000)))) || (decide (u0.Div < 1))) == false) (by kernel_rfl); clear hF123
   refine gp hF124 52 3 [] ((((u0.Mul == 0) || (decide ((max u0.Mul (w64 (0 - u0.Mul))) > 1000000))) || (decide (u0.Mul < (-1000000)))) || (decide (u0.Div < 1))) (.pointer (some ⟨b2, 6, none⟩)) rfl rfl ?_; intro a125 hF126; clear hF124
   refine gd hF126 (.int .i64 u0.Div) (m := 3) (cj := []) (bj := (((u0.Mul == 0) || (decide ((max u0.Mul (w64 (0 - u0.Mul))) > 1000000))) || (decide (u0.Mul < (-1000000)))) || (decide (u0.Div < 1))) rfl rfl (by kernel_rfl) rfl (by kernel_rfl) (by kernel_rfl) (by kernel_rfl) (fun hg => ld hF126 hM17 0 (g := [3]) (b := b2) (off := 6) (cs := [str u0.Name, .int .i64 u0.Start, .int .i64 u0.Size, .bool u0.Back, .bool u0.Signed, .int .i64 u0.Mul, .int .i64 u0.Div, .int .i64 u0.Add, .int .i64 u0.Key]) (ty := 23) rfl (by kernel_rfl) (by kernel_rfl) (by kernel_rfl) (by kernel_rfl) hg) ?_; intro a127 hF128; clear hF126
   refine gp hF128 54 3 [] ((((u0.Mul == 0) || (decide ((max u0.Mul (w64 (0 - u0.Mul))) > 1000000))) || (decide (u0.Mul < (-1000000)))) || (decide (u0.Div < 1))) (.bool (decide (u0.Div > 1000000))) rfl rfl ?_; intro a129 hF130; clear hF128
   refine st hF130 (.bool (((((u0.Mul == 0) || (decide ((max u0.Mul (w64 (0 - u0.Mul))) > 1000000))) || (decide (u0.Mul < (-1000000)))) || (decide (u0.Div < 1))) || (decide (u0.Div > 1000000)))) (nog rfl _) rfl (by kernel_rfl) (pk_or hF130 (g := []) (m := 3) (b := (((u0.Mul == 0) || (decide ((max u0.Mul (w64 (0 - u0.Mul))) > 1000000))) || (decide (u0.Mul < (-1000000)))) || (decide (u0.Div < 1))) (v := decide (u0.Div > 1000000)) rfl (by kernel_rfl) (by kernel_rfl) (by kernel_rfl) rfl) ?_; intro a131 hF132; clear hF130
   refine s1 hF132 56 (.bool (((((u0.Mul == 0) || (decide ((max u0.Mul (w64 (0 - u0.Mul))) > 1000000))) || (decide (u0.Mul < (-1000000)))) || (decide (u0.Div < 1))) || (decide (u0.Div > 1000000)))) ?_; intro a133 hF134; clear hF132
   have hF135 := hF134.atom ((((((u0.Mul == 0) || (decide ((max u0.Mul (w64 (0 - u0.Mul))) > 1000000))) || (decide (u0.Mul < (-1000000)))) || (decide (u0.Div < 1))) || (decide (u0.Div > 1000000))) == false) (by kernel_rfl); clear hF134
   refine gp hF135 57 4 [] (((((u0.Mul == 0) || (decide ((max u0.Mul (w64 (0 - u0.Mul))) > 1000000))) || (decide (u0.Mul < (-1000000)))) || (decide (u0.Div < 1))) || (decide (u0.Div > 1000000))) (.pointer (some ⟨b2, 7, none⟩)) rfl rfl ?_; intro a136 hF137; clear hF135
   refine gd hF137 (.int .i64 u0.Add) (m := 4) (cj := []) (bj := ((((u0.Mul == 0) || (decide ((max u0.Mul (w64 (0 - u0.Mul))) > 1000000))) || (decide (u0.Mul < (-1000000)))) || (decide (u0.Div < 1))) || (decide (u0.Div > 1000000))) rfl rfl (by kernel_rfl) rfl (by kernel_rfl) (by kernel_rfl) (by kernel_rfl) (fun hg => ld hF137 hM17 0 (g := [4]) (b := b2) (off := 7) (cs := [str u0.Name, .int .i64 u0.Start, .int .i64 u0.Size, .bool u0.Back, .bool u0.Signed, .int .i64 u0.Mul, .int .i64 u0.Div, .int .i64 u0.Add, .int .i64 u0.Key]) (ty := 23) rfl (by kernel_rfl) (by kernel_rfl) (by kernel_rfl) (by kernel_rfl) hg) ?_; intro a138 hF139; clear hF137
   refine gp hF139 59 4 [] (((((u0.Mul == 0) || (decide ((max u0.Mul (w64 (0 - u0.Mul))) > 1000000))) || (decide (u0.Mul < (-1000000)))) || (decide (u0.Div < 1))) || (decide (u0.Div > 1000000))) (.bool (decide (u0.Add > 1000000))) rfl rfl ?_; intro a140 hF141; clear hF139
   refine st hF141 (.bool ((((((u0.Mul == 0) || (decide ((max u0.Mul (w64 (0 - u0.Mul))) > 1000000))) || (decide (u0.Mul < (-1000000)))) || (decide (u0.Div < 1))) || (decide (u0.Div > 1000000))) || (decide (u0.Add > 1000000)))) (nog rfl _) rfl (by kernel_rfl) (pk_or hF141 (g := []) (m := 4) (b := ((((u0.Mul == 0) || (decide ((max u0.Mul (w64 (0 - u0.Mul))) > 1000000))) || (decide (u0.Mul < (-1000000)))) || (decide (u0.Div < 1))) || (decide (u0.Div > 1000000))) (v := decide (u0.Add > 1000000)) rfl (by kernel_rfl) (by kernel_rfl) (by kernel_rfl) rfl) ?_; intro a142 hF143; clear hF141
   refine s1 hF143 61 (.bool ((((((u0.Mul == 0) || (decide ((max u0.Mul (w64 (0 - u0.Mul))) > 1000000))) || (decide (u0.Mul < (-1000000)))) || (decide (u0.Div < 1))) || (decide (u0.Div > 1000000))) || (decide (u0.Add > 1000000)))) ?_; intro a144 hF145; clear hF143
   have hF146 := hF145.atom (((((((u0.Mul == 0) || (decide ((max u0.Mul (w64 (0 - u0.Mul))) > 1000000))) || (decide (u0.Mul < (-1000000)))) || (decide (u0.Div < 1))) || (decide (u0.Div > 1000000))) || (decide (u0.Add > 1000000))) == false) (by kernel_rfl); clear hF145
   refine gp hF146 62 5 [] ((((((u0.Mul == 0) || (decide ((max u0.Mul (w64 (0 - u0.Mul))) > 1000000))) || (decide (u0.Mul < (-1000000)))) || (decide (u0.Div < 1))) || (decide (u0.Div > 1000000))) || (decide (u0.Add > 1000000))) (.pointer (some ⟨b2, 7, none⟩)) rfl rfl ?_; intro a147 hF148; clear hF146
   refine gd hF148 (.int .i64 u0.Add) (m := 5) (cj := []) (bj := (((((u0.Mul == 0) || (decide ((max u0.Mul (w64 (0 - u0.Mul))) > 1000000))) || (decide (u0.Mul < (-1000000)))) || (decide (u0.Div < 1))) || (decide (u0.Div > 1000000))) || (decide (u0.Add > 1000000))) rfl rfl (by kernel_rfl) rfl (by kernel_rfl) (by kernel_rfl) (by kernel_rfl) (fun hg => ld hF148 hM17 0 (g := [5]) (b := b2) (off := 7) (cs := [str u0.Name, .int .i64 u0.Start, .int .i64 u0.Size, .bool u0.Back, .bool u0.Signed, .int .i64 u0.Mul, .int .i64 u0.Div, .int .i64 u0.Add, .int .i64 u0.Key]) (ty := 23) rfl (by kernel_rfl) (by kernel_rfl) (by kernel_rfl) (by kernel_rfl) hg) ?_; intro a149 hF150; clear hF148
   refine gp hF150 64 5 [] ((((((u0.Mul == 0) || (decide ((max u0.Mul (w64 (0 - u0.Mul))) > 1000000))) || (decide (u0.Mul < (-1000000)))) || (decide (u0.Div < 1))) || (decide (u0.Div > 1000000))) || (decide (u0.Add > 1000000))) (.bool (decide (u0.Add < (-1000000)))) rfl rfl ?_; intro a151 hF152; clear hF150
   refine st hF152 (.bool (((((((u0.Mul == 0) || (decide ((max u0.Mul (w64 (0 - u0.Mul))) > 1000000))) || (decide (u0.Mul < (-1000000)))) || (decide (u0.Div < 1))) || (decide (u0.Div > 1000000))) || (decide (u0.Add > 1000000))) || (decide (u0.Add < (-1000000))))) (nog rfl _) rfl (by kernel_rfl) (pk_or hF152 (g := []) (m := 5) (b := (((((u0.Mul == 0) || (decide ((max u0.Mul (w64 (0 - u0.Mul))) > 1000000))) || (decide (u0.Mul < (-1000000)))) || (decide (u0.Div < 1))) || (decide (u0.Div > 1000000))) || (decide (u0.Add > 1000000))) (v := decide (u0.Add < (-1000000))) rfl (by kernel_rfl) (by kernel_rfl) (by kernel_rfl) rfl) ?_; intro a153 hF154; clear hF152
   refine s1 hF154 28 (.bool (((((((u0.Mul == 0) || (decide ((max u0.Mul (w64 (0 - u0.Mul))) > 1000000))) || (decide (u0.Mul < (-1000000)))) || (decide (u0.Div < 1))) || (decide (u0.Div > 1000000))) || (decide (u0.Add > 1000000))) || (decide (u0.Add < (-1000000))))) ?_; intro a155 hF156; clear hF154
   refine nlH (hQ74 _ _ ?_); clear hQ74 hQ74Q
   refine cd hF156 (t := ((((((u0.Mul == 0) || (decide ((max u0.Mul (w64 (0 - u0.Mul))) > 1000000))) || (decide (u0.Mul < (-1000000)))) || (decide (u0.Div < 1))) || (decide (u0.Div > 1000000))) || (decide (u0.Add > 1000000))) || (decide (u0.Add < (-1000000)))) (by kernel_rfl) (fun hb157 => ?_) (fun hb157 => ?_)
   ·
    have hp158 := hp72.1 hb157; clear hp72
    have hF159 : Fr 98 [] [] a155 := hF156.reg; clear hF156
    refine sqH ?_; intro hQ160Q hQ160
    refine s1 hF159 4 (.int .i64 3) ?_; intro a161 hF162; clear hF159
    refine nlH (hQ160 _ _ ?_); clear hQ160 hQ160Q
    refine wp_ret ?_
    refine ibr ?_
    refine thr ?_
    refine rt (fn := Tryd.f19) (v := .int .i64 3) hF162 (re1 hF162 (fn := Tryd.f19) rfl (by kernel_rfl)) ?_
    exact ⟨3, rfl, hp158, hM17.below⟩
   ·
    have hp163 := hp72.2 hb157; clear hp72
    have hF164 : Fr 98 [] [⟨1, [], .int .i64 u1⟩, ⟨2, [], .pointer (some ⟨b2, 0, none⟩)⟩] a155 := hF156.reg; clear hF156
    refine sqH ?_; intro hQ165Q hQ165
    refine s1 hF164 67 (.pointer (some ⟨b2, 8, none⟩)) ?_; intro a166 hF167; clear hF164
    refine l1 hF167 hM17 68 0 8 (.int .i64 u0.Key) rfl rfl ?_; intro a168 hF169; clear hF167
    refine s1 hF169 69 (.bool (decide (u0.Key < (-1)))) ?_; intro a170 hF171; clear hF169
    refine s1 hF171 70 (.bool (decide (u0.Key < (-1)))) ?_; intro a172 hF173; clear hF171
    have hF174 := hF173.atom ((decide (u0.Key < (-1))) == false) (by kernel_rfl); clear hF173
    refine gp hF174 71 0 [] (decide (u0.Key < (-1))) (.pointer (some ⟨b2, 8, none⟩)) rfl rfl ?_; intro a175 hF176; clear hF174
    refine gd hF176 (.int .i64 u0.Key) (m := 0) (cj := []) (bj := decide (u0.Key < (-1))) rfl rfl (by kernel_rfl) rfl (by kernel_rfl) (by kernel_rfl) (by kernel_rfl) (fun hg => ld hF176 hM17 0 (g := [0]) (b := b2) (off := 8) (cs := [str u0.Name, .int .i64 u0.Start, .int .i64 u0.Size, .bool u0.Back, .bool u0.Signed, .int .i64 u0.Mul, .int .i64 u0.Div, .int .i64 u0.Add, .int .i64 u0.Key]) (ty := 23) rfl (by kernel_rfl) (by kernel_rfl) (by kernel_rfl) (by kernel_rfl) hg) ?_; intro a177 hF178; clear hF176
    refine gp hF178 73 0 [] (decide (u0.Key < (-1))) (.bool (decide (u0.Key > 255))) rfl rfl ?_; intro a179 hF180; clear hF178
    refine st hF180 (.bool ((decide (u0.Key < (-1))) || (decide (u0.Key > 255)))) (nog rfl _) rfl (by kernel_rfl) (pk_or hF180 (g := []) (m := 0) (b := decide (u0.Key < (-1))) (v := decide (u0.Key > 255)) rfl (by kernel_rfl) (by kernel_rfl) (by kernel_rfl) rfl) ?_; intro a181 hF182; clear hF180
    refine s1 hF182 66 (.bool ((decide (u0.Key < (-1))) || (decide (u0.Key > 255)))) ?_; intro a183 hF184; clear hF182
    refine nlH (hQ165 _ _ ?_); clear hQ165 hQ165Q
    refine cd hF184 (t := (decide (u0.Key < (-1))) || (decide (u0.Key > 255))) (by kernel_rfl) (fun hb185 => ?_) (fun hb185 => ?_)
    ·
     have hp186 := hp163.1 hb185; clear hp163
     have hF187 : Fr 98 [] [] a183 := hF184.reg; clear hF184
     refine sqH ?_; intro hQ188Q hQ188
     refine s1 hF187 4 (.int .i64 3) ?_; intro a189 hF190; clear hF187
     refine nlH (hQ188 _ _ ?_); clear hQ188 hQ188Q
     refine wp_ret ?_
     refine ibr ?_
     refine thr ?_
     refine rt (fn := Tryd.f19) (v := .int .i64 3) hF190 (re1 hF190 (fn := Tryd.f19) rfl (by kernel_rfl)) ?_
     exact ⟨3, rfl, hp186, hM17.below⟩
    ·
     have hp191 := hp163.2 hb185; clear hp163
     have hF192 : Fr 98 [] [⟨1, [], .int .i64 u1⟩, ⟨2, [], .pointer (some ⟨b2, 0, none⟩)⟩] a183 := hF184.reg; clear hF184
     refine sqH ?_; intro hQ193Q hQ193
     refine s1 hF192 76 (.pointer (some ⟨b2, 1, none⟩)) ?_; intro a194 hF195; clear hF192
     refine l1 hF195 hM17 77 0 1 (.int .i64 u0.Start) rfl rfl ?_; intro a196 hF197; clear hF195
     refine s1 hF197 78 (.bool (decide (u0.Start < 0))) ?_; intro a198 hF199; clear hF197
     refine s1 hF199 79 (.bool (decide (u0.Start < 0))) ?_; intro a200 hF201; clear hF199
     have hF202 := hF201.atom ((decide (u0.Start < 0)) == false) (by kernel_rfl); clear hF201
     refine gp hF202 80 0 [] (decide (u0.Start < 0)) (.pointer (some ⟨b2, 1, none⟩)) rfl rfl ?_; intro a203 hF204; clear hF202
     refine gd hF204 (.int .i64 u0.Start) (m := 0) (cj := []) (bj := decide (u0.Start < 0)) rfl rfl (by kernel_rfl) rfl (by kernel_rfl) (by kernel_rfl) (by kernel_rfl) (fun hg => ld hF204 hM17 0 (g := [0]) (b := b2) (off := 1) (cs := [str u0.Name, .int .i64 u0.Start, .int .i64 u0.Size, .bool u0.Back, .bool u0.Signed, .int .i64 u0.Mul, .int .i64 u0.Div, .int .i64 u0.Add, .int .i64 u0.Key]) (ty := 23) rfl (by kernel_rfl) (by kernel_rfl) (by kernel_rfl) (by kernel_rfl) hg) ?_; intro a205 hF206; clear hF204
     refine gp hF206 82 0 [] (decide (u0.Start < 0)) (.int .i64 u1) rfl rfl ?_; intro a207 hF208; clear hF206
     refine gp hF208 83 0 [] (decide (u0.Start < 0)) (.int .i64 (w64 (8 * u1))) rfl rfl ?_; intro a209 hF210; clear hF208
     refine gp hF210 84 0 [] (decide (u0.Start < 0)) (.bool (decide (u0.Start ≥ (w64 (8 * u1))))) rfl rfl ?_; intro a211 hF212; clear hF210
     refine st hF212 (.bool ((decide (u0.Start < 0)) || (decide (u0.Start ≥ (w64 (8 * u1)))))) (nog rfl _) rfl (by kernel_rfl) (pk_or hF212 (g := []) (m := 0) (b := decide (u0.Start < 0)) (v := decide (u0.Start ≥ (w64 (8 * u1)))) rfl (by kernel_rfl) (by kernel_rfl) (by kernel_rfl) rfl) ?_; intro a213 hF214; clear hF212
     refine s1 hF214 75 (.bool ((decide (u0.Start < 0)) || (decide (u0.Start ≥ (w64 (8 * u1)))))) ?_; intro a215 hF216; clear hF214
     refine nlH (hQ193 _ _ ?_); clear hQ193 hQ193Q
     refine cd hF216 (t := (decide (u0.Start < 0)) || (decide (u0.Start ≥ (w64 (8 * u1))))) (by kernel_rfl) (fun hb217 => ?_) (fun hb217 => ?_)
     ·
      have hp218 := hp191.1 hb217; clear hp191
      have hF219 : Fr 98 [] [] a215 := hF216.reg; clear hF216
      refine sqH ?_; intro hQ220Q hQ220
      refine s1 hF219 4 (.int .i64 7) ?_; intro a221 hF222; clear hF219
      refine nlH (hQ220 _ _ ?_); clear hQ220 hQ220Q
      refine wp_ret ?_
      refine ibr ?_
      refine thr ?_
      refine rt (fn := Tryd.f19) (v := .int .i64 7) hF222 (re1 hF222 (fn := Tryd.f19) rfl (by kernel_rfl)) ?_
      exact ⟨7, rfl, hp218, hM17.below⟩
     ·
      have hp223 := hp191.2 hb217; clear hp191
      refine wp_skip ?_
      refine ibn ?_
      refine thn ?_
      refine wp_seq ?_
      have hF224 : Fr 98 [] [⟨1, [], .int .i64 u1⟩, ⟨2, [], .pointer (some ⟨b2, 0, none⟩)⟩] a215 := hF216.reg; clear hF216
      refine sqH ?_; intro hQ225Q hQ225
      refine l2 hF224 hM17 86 0 0 9 [str u0.Name, .int .i64 u0.Start, .int .i64 u0.Size, .bool u0.Back, .bool u0.Signed, .int .i64 u0.Mul, .int .i64 u0.Div, .int .i64 u0.Add, .int .i64 u0.Key] rfl rfl ?_; intro a226 hF227; clear hF224
      have hc228 := hp223.1; have hp229 := hp223.2; clear hp223
      refine cl hF227 57 #[.agg #[str u0.Name, .int .i64 u0.Start, .int .i64 u0.Size, .bool u0.Back, .bool u0.Signed, .int .i64 u0.Mul, .int .i64 u0.Div, .int .i64 u0.Add, .int .i64 u0.Key]] (nog rfl _) rfl (by kernel_rfl) (by kernel_rfl) ?_
      refine (splaces_fun u0 hc228 _ _ hM17.fz).mono ?_; rintro _ wd230 ⟨ao234, cap235, Z236, rfl, hm⟩; refine ⟨_, rfl, ?_⟩; intro a231 hF232; have hM233 := hM17.callZ hm; have hle237 := hm.ext.le; clear hm hM17 hF227
      replace hle0 := Fz.le.trans hle0 hle237
      have hM238 : Mem w.heap.size [] w Z [.own (tyInt .i64) 3 ao234 cap235 (placesS u0), .row b2 [str u0.Name, .int .i64 u0.Start, .int .i64 u0.Size, .bool u0.Back, .bool u0.Signed, .int .i64 u0.Mul, .int .i64 u0.Div, .int .i64 u0.Add, .int .i64 u0.Key] 23] Z236 wd230 := hM233; clear hM233
      have hp239 := hp229 (hM238.ownSmall 0 rfl); clear hp229
      refine s1 hF232 5 (.slice ao234 (placesS u0).length cap235) ?_; intro a240 hF241; clear hF232
      refine nlH (hQ225 _ _ ?_); clear hQ225 hQ225Q
      refine sqH ?_; intro hQ242Q hQ242
      refine s1 hF241 88 (.slice ao234 (placesS u0).length cap235) ?_; intro a243 hF244; clear hF241
      obtain ⟨Z245, hle246, hM247, hs248⟩ := hM238.freeze 0 rfl
      replace hle0 := Fz.le.trans hle0 hle246
      have hM249 : Mem w.heap.size [] w Z [.row b2 [str u0.Name, .int .i64 u0.Start, .int .i64 u0.Size, .bool u0.Back, .bool u0.Signed, .int .i64 u0.Mul, .int .i64 u0.Div, .int .i64 u0.Add, .int .i64 u0.Key] 23] Z245 wd230 := hM247; clear hM247
      have hc250 := hp239.1; have hp251 := hp239.2; clear hp239
      refine fcl hF244 hM249 (.int .i64 (maxL (placesS u0))) 58 #[.slice ao234 (placesS u0).length cap235] (nog rfl _) rfl (by kernel_rfl) (fun _ => by kernel_rfl) (imax_fun (placesS u0) hc250 ao234 cap235 _ _ hs248 hM249.fz) ?_; intro a252 wd254 hF253 hM255; clear hF244 hM249
      refine s1 hF253 90 (.int .i64 u1) ?_; intro a256 hF257; clear hF253
      refine s1 hF257 91 (.int .i64 (w64 (8 * u1))) ?_; intro a258 hF259; clear hF257
      refine s1 hF259 92 (.bool (decide ((maxL (placesS u0)) ≥ (w64 (8 * u1))))) ?_; intro a260 hF261; clear hF259
      refine s1 hF261 93 (.bool (decide ((maxL (placesS u0)) ≥ (w64 (8 * u1))))) ?_; intro a262 hF263; clear hF261
      have hF264 := hF263.atom ((decide ((maxL (placesS u0)) ≥ (w64 (8 * u1)))) == false) (by kernel_rfl); clear hF263
      refine gp hF264 94 0 [] (decide ((maxL (placesS u0)) ≥ (w64 (8 * u1)))) (.slice ao234 (placesS u0).length cap235) rfl rfl ?_; intro a265 hF266; clear hF264
      rcases Bool.eq_false_or_eq_true (decide ((maxL (placesS u0)) ≥ (w64 (8 * u1)))) with hb267 | hb267
      ·
       have hp268 := hp251.1 hb267; clear hp251
       have hF269 := hF266.reval (d := 93) (c := []) (v := .bool (decide ((maxL (placesS u0)) ≥ (w64 (8 * u1))))) (by kernel_rfl) (.bool true) (by rw [hb267]); clear hF266
       have hF270 := hF269.setc (d := 94) (c := [0]) (v := .slice ao234 (placesS u0).length cap235) (by kernel_rfl) (v' := undef) (by rw [hb267]; kernel_rfl); clear hF269
       refine sk hF270 (b := true) rfl rfl (by kernel_rfl) (by kernel_rfl) rfl rfl (by kernel_rfl) ?_; intro a271 hF272; clear hF270
       refine sk hF272 (b := true) rfl rfl (by kernel_rfl) (by kernel_rfl) rfl rfl (by kernel_rfl) ?_; intro a273 hF274; clear hF272
       refine s1 hF274 97 (.bool true) ?_; intro a275 hF276; clear hF274
       refine nlH (hQ242 _ _ ?_); clear hQ242 hQ242Q
       refine cdT hF276 (by kernel_rfl) ?_
       have hF277 : Fr 98 [] [] a275 := hF276.reg; clear hF276
       refine sqH ?_; intro hQ278Q hQ278
       refine s1 hF277 4 (.int .i64 7) ?_; intro a279 hF280; clear hF277
       refine nlH (hQ278 _ _ ?_); clear hQ278 hQ278Q
       refine wp_ret ?_
       refine thr ?_
       refine rt (fn := Tryd.f19) (v := .int .i64 7) hF280 (re1 hF280 (fn := Tryd.f19) rfl (by kernel_rfl)) ?_
       exact ⟨7, rfl, hp268, hM255.below⟩
      ·
       have hp281 := hp251.2 hb267; clear hp251
       have hF282 := hF266.reval (d := 93) (c := []) (v := .bool (decide ((maxL (placesS u0)) ≥ (w64 (8 * u1))))) (by kernel_rfl) (.bool false) (by rw [hb267]); clear hF266
       have hF283 := hF282.setc (d := 94) (c := [0]) (v := .slice ao234 (placesS u0).length cap235) (by kernel_rfl) (v' := .slice ao234 (placesS u0).length cap235) (by rw [hb267]; kernel_rfl); clear hF282
       have hc284 := hp281.1; have hp285 := hp281.2; clear hp281
       refine fcl hF283 hM255 (.int .i64 (minL (placesS u0))) 59 #[.slice ao234 (placesS u0).length cap235] (by rw [wanted_of hF283 (b := false) rfl rfl (by kernel_rfl) (by kernel_rfl)]; rfl) rfl (by kernel_rfl) (fun _ => by kernel_rfl) (imin_fun (placesS u0) hc284 ao234 cap235 _ _ hs248 hM255.fz) ?_; intro a286 wd288 hF287 hM289; clear hF283 hM255
       refine st hF287 (.bool (decide ((minL (placesS u0)) < 0))) (by rw [wanted_of hF287 (b := false) rfl rfl (by kernel_rfl) (by kernel_rfl)]; rfl) rfl (by kernel_rfl) (p0 hF287 (by kernel_rfl)) ?_; intro a290 hF291; clear hF287
       refine s1 hF291 97 (.bool (decide ((minL (placesS u0)) < 0))) ?_; intro a292 hF293; clear hF291
       refine nlH (hQ242 _ _ ?_); clear hQ242 hQ242Q
       refine cd hF293 (t := decide ((minL (placesS u0)) < 0)) (by kernel_rfl) (fun hb294 => ?_) (fun hb294 => ?_)
       ·
        have hp295 := hp285.1 hb294; clear hp285
        have hF296 : Fr 98 [] [] a292 := hF293.reg; clear hF293
        refine sqH ?_; intro hQ297Q hQ297
        refine s1 hF296 4 (.int .i64 7) ?_; intro a298 hF299; clear hF296
        refine nlH (hQ297 _ _ ?_); clear hQ297 hQ297Q
        refine wp_ret ?_
        refine thr ?_
        refine rt (fn := Tryd.f19) (v := .int .i64 7) hF299 (re1 hF299 (fn := Tryd.f19) rfl (by kernel_rfl)) ?_
        exact ⟨7, rfl, hp295, hM289.below⟩
       ·
        have hp300 := hp285.2 hb294; clear hp285
        refine wp_skip ?_
        refine thn ?_
        have hF301 : Fr 98 [] [] a292 := hF293.reg; clear hF293
        refine sqH ?_; intro hQ302Q hQ302
        refine s1 hF301 4 (.int .i64 0) ?_; intro a303 hF304; clear hF301
        refine nlH (hQ302 _ _ ?_); clear hQ302 hQ302Q
        refine wp_ret ?_
        refine rt (fn := Tryd.f19) (v := .int .i64 0) hF304 (re1 hF304 (fn := Tryd.f19) rfl (by kernel_rfl)) ?_
        exact ⟨0, rfl, hp300, hM289.below⟩

set_option maxRecDepth 100000 in
set_option maxHeartbeats 0 in
theorem sget_walk (u0 : Signal) (u1 : List Int) (ao1 : Option Addr) (cap2 : Nat) (Z : Fz) (w : World) (hs3 : SlR (tyInt .u8) Z ao1 cap2 u1) (hZ : Z.on w) {K : Int → Prop} (hp : sget_vc u0 u1 K) : Calls Tryd.prog 35 #[.agg #[str u0.Name, .int .i64 u0.Start, .int .i64 u0.Size, .bool u0.Back, .bool u0.Signed, .int .i64 u0.Mul, .int .i64 u0.Div, .int .i64 u0.Add, .int .i64 u0.Key], .slice ao1 u1.length cap2] w fun e w' => ∃ r : Int, e = .returned (.int .i64 r) ∧ K r ∧ Below w.heap.size w w' := by
 refine enter0 Tryd.func35 rfl rfl (by kernel_rfl) ?_; intro a0 hF0; have hM0 := Mem.start w Z hZ; have hle0 := Fz.le.refl Z
 have hp4 := hp (hs3.small); clear hp
 refine sqH ?_; intro hQ5Q hQ5
 refine sn hF0 hM0 (fun b => .pointer (some ⟨b, 0, none⟩)) [str u0.Name, .int .i64 u0.Start, .int .i64 u0.Size, .bool u0.Back, .bool u0.Signed, .int .i64 u0.Mul, .int .i64 u0.Div, .int .i64 u0.Add, .int .i64 u0.Key] 23 (nog rfl _) rfl (by kernel_rfl) (by kernel_rfl) ?_; intro b6 a7 wd9 hF8 hM10; clear hF0 hM0
 refine s1 hF8 4 (.int .i64 0) ?_; intro a11 hF12; clear hF8
 refine nlH (hQ5 _ _ ?_); clear hQ5 hQ5Q
 refine sqH ?_; intro hQ13Q hQ13
 refine s1 hF12 5 (.int .i64 0) ?_; intro a14 hF15; clear hF12
 refine nlH (hQ13 _ _ ?_); clear hQ13 hQ13Q
 refine wp_seq ?_
 refine sqH ?_; intro hQ16Q hQ16
 refine l2 hF15 hM10 8 0 0 9 [str u0.Name, .int .i64 u0.Start, .int .i64 u0.Size, .bool u0.Back, .bool u0.Signed, .int .i64 u0.Mul, .int .i64 u0.Div, .int .i64 u0.Add, .int .i64 u0.Key] rfl rfl ?_; intro a17 hF18; clear hF15
 have hc19 := hp4.1; have hp20 := hp4.2; clear hp4
 refine cl hF18 57 #[.agg #[str u0.Name, .int .i64 u0.Start, .int .i64 u0.Size, .bool u0.Back, .bool u0.Signed, .int .i64 u0.Mul, .int .i64 u0.Div, .int .i64 u0.Add, .int .i64 u0.Key]] (nog rfl _) rfl (by kernel_rfl) (by kernel_rfl) ?_
 refine (splaces_fun u0 hc19 _ _ hM10.fz).mono ?_; rintro _ wd21 ⟨ao25, cap26, Z27, rfl, hm⟩; refine ⟨_, rfl, ?_⟩; intro a22 hF23; have hM24 := hM10.callZ hm; have hle28 := hm.ext.le; clear hm hM10 hF18
 replace hs3 := hs3.mono hle28
 replace hle0 := Fz.le.trans hle0 hle28
 have hM29 : Mem w.heap.size [] w Z [.own (tyInt .i64) 3 ao25 cap26 (placesS u0), .row b6 [str u0.Name, .int .i64 u0.Start, .int .i64 u0.Size, .bool u0.Back, .bool u0.Signed, .int .i64 u0.Mul, .int .i64 u0.Div, .int .i64 u0.Add, .int .i64 u0.Key] 23] Z27 wd21 := hM24; clear hM24
 have hp30 := hp20 (hM29.ownSmall 0 rfl); clear hp20
 refine s1 hF23 10 (.int .i64 ((placesS u0).length : Int)) ?_; intro a31 hF32; clear hF23
 refine s1 hF32 11 (.int .i64 0) ?_; intro a33 hF34; clear hF32
 refine nlH (hQ16 _ _ ?_); clear hQ16 hQ16Q
 refine wp_block ?_
 have hF35 : Fr 47 [] [⟨1, [], .slice ao1 u1.length cap2⟩, ⟨2, [], .pointer (some ⟨b6, 0, none⟩)⟩, ⟨5, [], .int .i64 0⟩, ⟨9, [], .slice ao25 (placesS u0).length cap26⟩, ⟨10, [], .int .i64 ((placesS u0).length : Int)⟩, ⟨11, [], .int .i64 0⟩] a33 := hF34.reg; clear hF34
 obtain ⟨Z37, hle38, hM39, hs40⟩ := hM29.freeze 0 rfl
 replace hs3 := hs3.mono hle38
 replace hle0 := Fz.le.trans hle0 hle38
 have hM41 : Mem w.heap.size [] w Z [.row b6 [str u0.Name, .int .i64 u0.Start, .int .i64 u0.Size, .bool u0.Back, .bool u0.Signed, .int .i64 u0.Mul, .int .i64 u0.Div, .int .i64 u0.Add, .int .i64 u0.Key] 23] Z37 wd21 := hM39; clear hM39
 have hF42 : Fr 47 [] [⟨1, [], .slice ao1 u1.length cap2⟩, ⟨2, [], .pointer (some ⟨b6, 0, none⟩)⟩, ⟨5, [], .int .i64 0⟩, ⟨9, [], .slice ao25 (placesS u0).length cap26⟩, ⟨10, [], .int .i64 ((placesS u0).length : Int)⟩, ⟨11, [], .int .i64 0⟩] a33 := hF35.reg; clear hF35
 obtain ⟨inv36, mu36, hI45, hr44⟩ := hp30
 refine lp (ι := Int × Int) (fun (s : Int × Int) => [⟨1, [], .slice ao1 u1.length cap2⟩, ⟨2, [], .pointer (some ⟨b6, 0, none⟩)⟩, ⟨5, [], .int .i64 s.1⟩, ⟨9, [], .slice ao25 (placesS u0).length cap26⟩, ⟨10, [], .int .i64 ((placesS u0).length : Int)⟩, ⟨11, [], .int .i64 s.2⟩]) (fun (s : Int × Int) => [.row b6 [str u0.Name, .int .i64 u0.Start, .int .i64 u0.Size, .bool u0.Back, .bool u0.Signed, .int .i64 u0.Mul, .int .i64 u0.Div, .int .i64 u0.Add, .int .i64 u0.Key] 23]) (fun (s : Int × Int) => Z37) (fun (s : Int × Int) => inv36 s.1 s.2) (fun (s : Int × Int) => mu36 s.1 s.2) ⟨0, 0⟩ hI45 (by exact hF42.reg) (by exact hM41) ?_
 rintro ⟨x5, x11⟩ hI43 a47 wd48 hF49 hM50
 have hF51 : Fr 47 [] [⟨1, [], .slice ao1 u1.length cap2⟩, ⟨2, [], .pointer (some ⟨b6, 0, none⟩)⟩, ⟨5, [], .int .i64 x5⟩, ⟨9, [], .slice ao25 (placesS u0).length cap26⟩, ⟨10, [], .int .i64 ((placesS u0).length : Int)⟩, ⟨11, [], .int .i64 x11⟩] a47 := hF49; clear hF49 hF42
 have hM52 : Mem w.heap.size [] w Z [.row b6 [str u0.Name, .int .i64 u0.Start, .int .i64 u0.Size, .bool u0.Back, .bool u0.Signed, .int .i64 u0.Mul, .int .i64 u0.Div, .int .i64 u0.Add, .int .i64 u0.Key] 23] Z37 wd48 := hM50; clear hM50 hM41
 have hp53 := hr44 x5 x11 hI43
 refine sqH ?_; intro hQ54Q hQ54
 refine s1 hF51 12 (.bool (decide (x11 < ((placesS u0).length : Int)))) ?_; intro a55 hF56; clear hF51
 refine nlH (hQ54 _ _ ?_); clear hQ54 hQ54Q
 refine wp_seq ?_
 refine cd hF56 (t := decide (x11 < ((placesS u0).length : Int))) (by kernel_rfl) (fun hb57 => ?_) (fun hb57 => ?_)
 ·
  have hp58 := hp53.1 hb57; clear hp53
  refine wp_skip ?_
  refine thn ?_
  refine wp_seq ?_
  refine wp_block ?_
  refine sqH ?_; intro hQ59Q hQ59
  refine s1 hF56 13 (.int .i64 x11) ?_; intro a60 hF61; clear hF56
  have hc62 := hp58.1; have hp63 := hp58.2; clear hp58
  refine ix hF61 (T := (tyInt .i64)) (xs := (placesS u0)) hs40 x11 hc62 (k := .i64) (e := 3) (bytes := 8) (nog rfl _) rfl (by kernel_rfl) rfl (by kernel_rfl) (by kernel_rfl) (by kernel_rfl) ?_; intro b64 off65 cs66 q67 a71 hq68 hP69 hT70 hF72; clear hF61
  have hp73 := hp63 q67 hq68; clear hp63
  obtain rfl : cs66 = ([.int .i64 q67] : List Value) := hT70
  refine z1 hF72 hM52 15 hP69 0 (.int .i64 q67) rfl ?_; intro a74 hF75; clear hF72
  refine s1 hF75 6 (.int .i64 x11) ?_; intro a76 hF77; clear hF75
  refine s1 hF77 7 (.int .i64 q67) ?_; intro a78 hF79; clear hF77
  refine nlH (hQ59 _ _ ?_); clear hQ59 hQ59Q
  refine rgH ?_; intro hQ80Q hQ80
  refine s1 hF79 16 (.int .i64 x5) ?_; intro a81 hF82; clear hF79
  refine s1 hF82 17 (.slice ao1 u1.length cap2) ?_; intro a83 hF84; clear hF82
  refine s1 hF84 18 (.int .i64 q67) ?_; intro a85 hF86; clear hF84
  refine s1 hF86 19 (.int .i64 (w64 (q67.tdiv 8))) ?_; intro a87 hF88; clear hF86
  have hc89 := hp73.1; have hp90 := hp73.2; clear hp73
  refine ix hF88 (T := (tyInt .u8)) (xs := u1) hs3 (w64 (q67.tdiv 8)) hc89 (k := .i64) (e := 5) (bytes := 1) (nog rfl _) rfl (by kernel_rfl) rfl (by kernel_rfl) (by kernel_rfl) (by kernel_rfl) ?_; intro b91 off92 cs93 q94 a98 hq95 hP96 hT97 hF99; clear hF88
  have hp100 := hp90 q94 hq95; clear hp90
  obtain rfl : cs93 = ([.int .u8 q94] : List Value) := hT97
  refine z1 hF99 hM52 21 hP96 0 (.int .u8 q94) rfl ?_; intro a101 hF102; clear hF99
  refine s1 hF102 22 (.int .i64 q67) ?_; intro a103 hF104; clear hF102
  refine s1 hF104 23 (.int .i64 (q67.tmod 8)) ?_; intro a105 hF106; clear hF104
  have hc107 := hp100.1; have hp108 := hp100.2; clear hp100
  refine st hF106 (.int .u8 (bShr .u8 q94 (q67.tmod 8))) (nog rfl _) rfl (by kernel_rfl) (shr_run hF106 (g := []) (k' := .i64) rfl (by kernel_rfl) (by kernel_rfl) hc107 rfl) ?_; intro a109 hF110; clear hF106
  refine s1 hF110 25 (.int .u8 (bAnd .u8 (bShr .u8 q94 (q67.tmod 8)) 1)) ?_; intro a111 hF112; clear hF110
  refine s1 hF112 26 (.int .i64 (w64 (bAnd .u8 (bShr .u8 q94 (q67.tmod 8)) 1))) ?_; intro a113 hF114; clear hF112
  refine s1 hF114 27 (.int .i64 x11) ?_; intro a115 hF116; clear hF114
  have hc117 := hp108.1; have hp118 := hp108.2; clear hp108
  refine st hF116 (.int .i64 (bShl .i64 (w64 (bAnd .u8 (bShr .u8 q94 (q67.tmod 8)) 1)) x11)) (nog rfl _) rfl (by kernel_rfl) (shl_run hF116 (g := []) (k' := .i64) rfl (by kernel_rfl) (by kernel_rfl) hc117 rfl) ?_; intro a119 hF120; clear hF116
  refine s1 hF120 29 (.int .i64 (bOr .i64 x5 (bShl .i64 (w64 (bAnd .u8 (bShr .u8 q94 (q67.tmod 8)) 1)) x11))) ?_; intro a121 hF122; clear hF120
  refine s1 hF122 5 (.int .i64 (bOr .i64 x5 (bShl .i64 (w64 (bAnd .u8 (bShr .u8 q94 (q67.tmod 8)) 1)) x11))) ?_; intro a123 hF124; clear hF122
  refine nlH (hQ80 _ _ ?_); clear hQ80 hQ80Q
  refine ibn ?_
  refine thn ?_
  have hF125 : Fr 47 [] [⟨1, [], .slice ao1 u1.length cap2⟩, ⟨2, [], .pointer (some ⟨b6, 0, none⟩)⟩, ⟨5, [], .int .i64 (bOr .i64 x5 (bShl .i64 (w64 (bAnd .u8 (bShr .u8 q94 (q67.tmod 8)) 1)) x11))⟩, ⟨9, [], .slice ao25 (placesS u0).length cap26⟩, ⟨10, [], .int .i64 ((placesS u0).length : Int)⟩, ⟨11, [], .int .i64 x11⟩] a123 := hF124.reg; clear hF124
  refine rgH ?_; intro hQ126Q hQ126
  refine s1 hF125 30 (.int .i64 (w64 (x11 + 1))) ?_; intro a127 hF128; clear hF125
  refine s1 hF128 11 (.int .i64 (w64 (x11 + 1))) ?_; intro a129 hF130; clear hF128
  refine nlH (hQ126 _ _ ?_); clear hQ126 hQ126Q
  refine rd ?_
  exact ⟨⟨bOr .i64 x5 (bShl .i64 (w64 (bAnd .u8 (bShr .u8 q94 (q67.tmod 8)) 1)) x11), w64 (x11 + 1)⟩, hp118.1, hp118.2, (hF130.reg).anyβ _ (by kernel_rfl), hM52.keep (List.Sublist.cons_cons _ (List.Sublist.slnil))⟩
 ·
  have hp131 := hp53.2 hb57; clear hp53
  refine wp_exit ?_
  refine thx ?_
  refine thx ?_
  refine ibx ?_
  refine thn ?_
  refine wp_seq ?_
  refine sqH ?_; intro hQ132Q hQ132
  refine s1 hF56 31 (.pointer (some ⟨b6, 4, none⟩)) ?_; intro a133 hF134; clear hF56
  refine l1 hF134 hM52 32 0 4 (.bool u0.Signed) rfl rfl ?_; intro a135 hF136; clear hF134
  refine s1 hF136 33 (.bool u0.Signed) ?_; intro a137 hF138; clear hF136
  have hF139 := hF138.atom (u0.Signed == true) (by kernel_rfl); clear hF138
  refine gp hF139 34 0 [] (u0.Signed) (.int .i64 x5) rfl rfl ?_; intro a140 hF141; clear hF139
  refine gp hF141 35 0 [] (u0.Signed) (.pointer (some ⟨b6, 2, none⟩)) rfl rfl ?_; intro a142 hF143; clear hF141
  refine gd hF143 (.int .i64 u0.Size) (m := 0) (cj := []) (bj := u0.Signed) rfl rfl (by kernel_rfl) rfl (by kernel_rfl) (by kernel_rfl) (by kernel_rfl) (fun hg => ld hF143 hM52 0 (g := [0]) (b := b6) (off := 2) (cs := [str u0.Name, .int .i64 u0.Start, .int .i64 u0.Size, .bool u0.Back, .bool u0.Signed, .int .i64 u0.Mul, .int .i64 u0.Div, .int .i64 u0.Add, .int .i64 u0.Key]) (ty := 23) rfl (by kernel_rfl) (by kernel_rfl) (by kernel_rfl) (by kernel_rfl) hg) ?_; intro a144 hF145; clear hF143
  refine gp hF145 37 0 [] (u0.Signed) (.int .i64 (w64 (u0.Size - 1))) rfl rfl ?_; intro a146 hF147; clear hF145
  rcases Bool.eq_false_or_eq_true (u0.Signed) with hb148 | hb148
  ·
   have hp149 := hp131.1 hb148; clear hp131
   have hF150 := hF147.reval (d := 33) (c := []) (v := .bool u0.Signed) (by kernel_rfl) (.bool true) (by rw [hb148]); clear hF147
   have hF151 := hF150.setc (d := 34) (c := [0]) (v := .int .i64 x5) (by kernel_rfl) (v' := .int .i64 x5) (by rw [hb148]; kernel_rfl); clear hF150
   have hF152 := hF151.setc (d := 35) (c := [0]) (v := .pointer (some ⟨b6, 2, none⟩)) (by kernel_rfl) (v' := .pointer (some ⟨b6, 2, none⟩)) (by rw [hb148]; kernel_rfl); clear hF151
   have hF153 := hF152.setc (d := 36) (c := [0]) (v := .int .i64 u0.Size) (by kernel_rfl) (v' := .int .i64 u0.Size) (by rw [hb148]; kernel_rfl); clear hF152
   have hF154 := hF153.setc (d := 37) (c := [0]) (v := .int .i64 (w64 (u0.Size - 1))) (by kernel_rfl) (v' := .int .i64 (w64 (u0.Size - 1))) (by rw [hb148]; kernel_rfl); clear hF153
   have hc155 := hp149.1; have hp156 := hp149.2; clear hp149
   refine st hF154 (.int .i64 (bShr .i64 x5 (w64 (u0.Size - 1)))) (by rw [wanted_of hF154 (b := true) rfl rfl (by kernel_rfl) (by kernel_rfl)]; rfl) rfl (by kernel_rfl) (shr_run hF154 (g := []) (k' := .i64) rfl (by kernel_rfl) (by kernel_rfl) hc155 rfl) ?_; intro a157 hF158; clear hF154
   refine st hF158 (.bool ((bShr .i64 x5 (w64 (u0.Size - 1))) == 1)) (by rw [wanted_of hF158 (b := true) rfl rfl (by kernel_rfl) (by kernel_rfl)]; rfl) rfl (by kernel_rfl) (p0 hF158 (by kernel_rfl)) ?_; intro a159 hF160; clear hF158
   refine s1 hF160 40 (.bool ((bShr .i64 x5 (w64 (u0.Size - 1))) == 1)) ?_; intro a161 hF162; clear hF160
   refine nlH (hQ132 _ _ ?_); clear hQ132 hQ132Q
   refine cd hF162 (t := (bShr .i64 x5 (w64 (u0.Size - 1))) == 1) (by kernel_rfl) (fun hb163 => ?_) (fun hb163 => ?_)
   ·
    have hp164 := hp156.1 hb163; clear hp156
    have hF165 : Fr 47 [] [⟨2, [], .pointer (some ⟨b6, 0, none⟩)⟩, ⟨5, [], .int .i64 x5⟩] a161 := hF162.reg; clear hF162
    refine rgH ?_; intro hQ166Q hQ166
    refine s1 hF165 41 (.int .i64 x5) ?_; intro a167 hF168; clear hF165
    refine s1 hF168 42 (.pointer (some ⟨b6, 2, none⟩)) ?_; intro a169 hF170; clear hF168
    refine l1 hF170 hM52 43 0 2 (.int .i64 u0.Size) rfl rfl ?_; intro a171 hF172; clear hF170
    have hc173 := hp164.1; have hp174 := hp164.2; clear hp164
    refine st hF172 (.int .i64 (bShl .i64 1 u0.Size)) (nog rfl _) rfl (by kernel_rfl) (shl_run hF172 (g := []) (k' := .i64) rfl (by kernel_rfl) (by kernel_rfl) hc173 rfl) ?_; intro a175 hF176; clear hF172
    refine s1 hF176 45 (.int .i64 (w64 (x5 - (bShl .i64 1 u0.Size)))) ?_; intro a177 hF178; clear hF176
    refine s1 hF178 5 (.int .i64 (w64 (x5 - (bShl .i64 1 u0.Size)))) ?_; intro a179 hF180; clear hF178
    refine nlH (hQ166 _ _ ?_); clear hQ166 hQ166Q
    refine thn ?_
    refine sqH ?_; intro hQ181Q hQ181
    refine s1 hF180 46 (.int .i64 (w64 (x5 - (bShl .i64 1 u0.Size)))) ?_; intro a182 hF183; clear hF180
    refine s1 hF183 4 (.int .i64 (w64 (x5 - (bShl .i64 1 u0.Size)))) ?_; intro a184 hF185; clear hF183
    refine nlH (hQ181 _ _ ?_); clear hQ181 hQ181Q
    refine wp_ret ?_
    refine rt (fn := Tryd.f35) (v := .int .i64 (w64 (x5 - (bShl .i64 1 u0.Size)))) hF185 (re1 hF185 (fn := Tryd.f35) rfl (by kernel_rfl)) ?_
    exact ⟨w64 (x5 - (bShl .i64 1 u0.Size)), rfl, hp174, hM52.below⟩
   ·
    have hp186 := hp156.2 hb163; clear hp156
    refine wp_skip ?_
    refine thn ?_
    have hF187 : Fr 47 [] [⟨5, [], .int .i64 x5⟩] a161 := hF162.reg; clear hF162
    refine sqH ?_; intro hQ188Q hQ188
    refine s1 hF187 46 (.int .i64 x5) ?_; intro a189 hF190; clear hF187
    refine s1 hF190 4 (.int .i64 x5) ?_; intro a191 hF192; clear hF190
    refine nlH (hQ188 _ _ ?_); clear hQ188 hQ188Q
    refine wp_ret ?_
    refine rt (fn := Tryd.f35) (v := .int .i64 x5) hF192 (re1 hF192 (fn := Tryd.f35) rfl (by kernel_rfl)) ?_
    exact ⟨x5, rfl, hp186, hM52.below⟩
  ·
   have hp193 := hp131.2 hb148; clear hp131
   have hF194 := hF147.reval (d := 33) (c := []) (v := .bool u0.Signed) (by kernel_rfl) (.bool false) (by rw [hb148]); clear hF147
   have hF195 := hF194.setc (d := 34) (c := [0]) (v := .int .i64 x5) (by kernel_rfl) (v' := undef) (by rw [hb148]; kernel_rfl); clear hF194
   have hF196 := hF195.setc (d := 35) (c := [0]) (v := .pointer (some ⟨b6, 2, none⟩)) (by kernel_rfl) (v' := undef) (by rw [hb148]; kernel_rfl); clear hF195
   have hF197 := hF196.setc (d := 36) (c := [0]) (v := .int .i64 u0.Size) (by kernel_rfl) (v' := undef) (by rw [hb148]; kernel_rfl); clear hF196
   have hF198 := hF197.setc (d := 37) (c := [0]) (v := .int .i64 (w64 (u0.Size - 1))) (by kernel_rfl) (v' := undef) (by rw [hb148]; kernel_rfl); clear hF197
   refine sk hF198 (b := false) rfl rfl (by kernel_rfl) (by kernel_rfl) rfl rfl (by kernel_rfl) ?_; intro a199 hF200; clear hF198
   refine sk hF200 (b := false) rfl rfl (by kernel_rfl) (by kernel_rfl) rfl rfl (by kernel_rfl) ?_; intro a201 hF202; clear hF200
   refine s1 hF202 40 (.bool false) ?_; intro a203 hF204; clear hF202
   refine nlH (hQ132 _ _ ?_); clear hQ132 hQ132Q
   refine cdF hF204 (by kernel_rfl) ?_
   refine wp_skip ?_
   refine thn ?_
   have hF205 : Fr 47 [] [⟨5, [], .int .i64 x5⟩] a203 := hF204.reg; clear hF204
   refine sqH ?_; intro hQ206Q hQ206
   refine s1 hF205 46 (.int .i64 x5) ?_; intro a207 hF208; clear hF205
   refine s1 hF208 4 (.int .i64 x5) ?_; intro a209 hF210; clear hF208
   refine nlH (hQ206 _ _ ?_); clear hQ206 hQ206Q
   refine wp_ret ?_
   refine rt (fn := Tryd.f35) (v := .int .i64 x5) hF210 (re1 hF210 (fn := Tryd.f35) rfl (by kernel_rfl)) ?_
   exact ⟨x5, rfl, hp193, hM52.below⟩

set_option maxRecDepth 100000 in
set_option maxHeartbeats 0 in
theorem sputd_walk (u0 : Signal) (u1 : List Int) (u2 : Int) (ao1 : Option Addr) (cap2 : Nat) (B : Nat) (w0 : World) (Z0 : Fz) (Rr : List Res) (Z : Fz) (w : World) (hM0 : Mem B [] w0 Z0 ((.own (tyInt .u8) 5 ao1 cap2 u1) :: Rr) Z w) (hZ : Z.on w) {K : (List Int) → Prop} (hp : sputd_vc u0 u1 u2 K) : Calls Tryd.prog 47 #[.agg #[str u0.Name, .int .i64 u0.Start, .int .i64 u0.Size, .bool u0.Back, .bool u0.Signed, .int .i64 u0.Mul, .int .i64 u0.Div, .int .i64 u0.Add, .int .i64 u0.Key], .slice ao1 u1.length cap2, .int .i64 u2] w fun e w' => ∃ (r : (List Int)) (Z' : Fz), e = .returned (.tuple #[]) ∧ K r ∧ Fz.le Z Z' ∧ (r.length = u1.length) ∧ Mem B [] w0 Z0 ((.own (tyInt .u8) 5 ao1 cap2 r) :: Rr) Z' w' := by
 refine enter0 Tryd.func47 rfl rfl (by kernel_rfl) ?_; intro a0 hF0; have hle0 := Fz.le.refl Z
 have hp3 := hp (hM0.ownSmall 0 rfl); clear hp
 refine sqH ?_; intro hQ4Q hQ4
 refine sn hF0 hM0 (fun b => .pointer (some ⟨b, 0, none⟩)) [str u0.Name, .int .i64 u0.Start, .int .i64 u0.Size, .bool u0.Back, .bool u0.Signed, .int .i64 u0.Mul, .int .i64 u0.Div, .int .i64 u0.Add, .int .i64 u0.Key] 23 (nog rfl _) rfl (by kernel_rfl) (by kernel_rfl) ?_; intro b5 a6 wd8 hF7 hM9; clear hF0 hM0
 refine nlH (hQ4 _ _ ?_); clear hQ4 hQ4Q
 refine sqH ?_; intro hQ10Q hQ10
 refine l2 hF7 hM9 8 0 0 9 [str u0.Name, .int .i64 u0.Start, .int .i64 u0.Size, .bool u0.Back, .bool u0.Signed, .int .i64 u0.Mul, .int .i64 u0.Div, .int .i64 u0.Add, .int .i64 u0.Key] rfl rfl ?_; intro a11 hF12; clear hF7
 have hc13 := hp3.1; have hp14 := hp3.2; clear hp3
 refine cl hF12 57 #[.agg #[str u0.Name, .int .i64 u0.Start, .int .i64 u0.Size, .bool u0.Back, .bool u0.Signed, .int .i64 u0.Mul, .int .i64 u0.Div, .int .i64 u0.Add, .int .i64 u0.Key]] (nog rfl _) rfl (by kernel_rfl) (by kernel_rfl) ?_
 refine (splaces_fun u0 hc13 _ _ hM9.fz).mono ?_; rintro _ wd15 ⟨ao19, cap20, Z21, rfl, hm⟩; refine ⟨_, rfl, ?_⟩; intro a16 hF17; have hM18 := hM9.callZ hm; have hle22 := hm.ext.le; clear hm hM9 hF12
 replace hle0 := Fz.le.trans hle0 hle22
 have hM23 : Mem B [] w0 Z0 ((.own (tyInt .i64) 3 ao19 cap20 (placesS u0)) :: (.row b5 [str u0.Name, .int .i64 u0.Start, .int .i64 u0.Size, .bool u0.Back, .bool u0.Signed, .int .i64 u0.Mul, .int .i64 u0.Div, .int .i64 u0.Add, .int .i64 u0.Key] 23) :: (.own (tyInt .u8) 5 ao1 cap2 u1) :: Rr) Z21 wd15 := hM18; clear hM18
 have hp24 := hp14 (hM23.ownSmall 0 rfl); clear hp14
 refine s1 hF17 10 (.int .i64 ((placesS u0).length : Int)) ?_; intro a25 hF26; clear hF17
 refine s1 hF26 11 (.int .i64 0) ?_; intro a27 hF28; clear hF26
 refine nlH (hQ10 _ _ ?_); clear hQ10 hQ10Q
 refine wp_block ?_
 have hF29 : Fr 39 [] [⟨1, [], .slice ao1 u1.length cap2⟩, ⟨2, [], .int .i64 u2⟩, ⟨9, [], .slice ao19 (placesS u0).length cap20⟩, ⟨10, [], .int .i64 ((placesS u0).length : Int)⟩, ⟨11, [], .int .i64 0⟩] a27 := hF28.reg; clear hF28
 obtain ⟨Z31, hle32, hM33, hs34⟩ := hM23.freeze 0 rfl
 replace hle0 := Fz.le.trans hle0 hle32
 have hM35 : Mem B [] w0 Z0 ((.row b5 [str u0.Name, .int .i64 u0.Start, .int .i64 u0.Size, .bool u0.Back, .bool u0.Signed, .int .i64 u0.Mul, .int .i64 u0.Div, .int .i64 u0.Add, .int .i64 u0.Key] 23) :: (.own (tyInt .u8) 5 ao1 cap2 u1) :: Rr) Z31 wd15 := hM33; clear hM33
 have hF36 : Fr 39 [] [⟨1, [], .slice ao1 u1.length cap2⟩, ⟨2, [], .int .i64 u2⟩, ⟨9, [], .slice ao19 (placesS u0).length cap20⟩, ⟨10, [], .int .i64 ((placesS u0).length : Int)⟩, ⟨11, [], .int .i64 0⟩] a27 := hF29.reg; clear hF29
 obtain ⟨inv30, mu30, hI39, hr38⟩ := hp24
 refine lp (ι := Int × (List Int)) (fun (s : Int × (List Int)) => [⟨1, [], .slice ao1 s.2.length cap2⟩, ⟨2, [], .int .i64 u2⟩, ⟨9, [], .slice ao19 (placesS u0).length cap20⟩, ⟨10, [], .int .i64 ((placesS u0).length : Int)⟩, ⟨11, [], .int .i64 s.1⟩]) (fun (s : Int × (List Int)) => ((.row b5 [str u0.Name, .int .i64 u0.Start, .int .i64 u0.Size, .bool u0.Back, .bool u0.Signed, .int .i64 u0.Mul, .int .i64 u0.Div, .int .i64 u0.Add, .int .i64 u0.Key] 23) :: (.own (tyInt .u8) 5 ao1 cap2 s.2) :: Rr)) (fun (s : Int × (List Int)) => Z31) (fun (s : Int × (List Int)) => inv30 s.1 s.2) (fun (s : Int × (List Int)) => mu30 s.1 s.2) ⟨0, u1⟩ hI39 (by exact hF36.reg) (by exact hM35) ?_
 rintro ⟨x11, zao1⟩ hI37 a41 wd42 hF43 hM44
 have hF45 : Fr 39 [] [⟨1, [], .slice ao1 zao1.length cap2⟩, ⟨2, [], .int .i64 u2⟩, ⟨9, [], .slice ao19 (placesS u0).length cap20⟩, ⟨10, [], .int .i64 ((placesS u0).length : Int)⟩, ⟨11, [], .int .i64 x11⟩] a41 := hF43; clear hF43 hF36
 have hM46 : Mem B [] w0 Z0 ((.row b5 [str u0.Name, .int .i64 u0.Start, .int .i64 u0.Size, .bool u0.Back, .bool u0.Signed, .int .i64 u0.Mul, .int .i64 u0.Div, .int .i64 u0.Add, .int .i64 u0.Key] 23) :: (.own (tyInt .u8) 5 ao1 cap2 zao1) :: Rr) Z31 wd42 := hM44; clear hM44 hM35
 have hp47 := hr38 x11 zao1 hI37
 refine sqH ?_; intro hQ48Q hQ48
 refine s1 hF45 12 (.bool (decide (x11 < ((placesS u0).length : Int)))) ?_; intro a49 hF50; clear hF45
 refine nlH (hQ48 _ _ ?_); clear hQ48 hQ48Q
 refine wp_seq ?_
 refine cd hF50 (t := decide (x11 < ((placesS u0).length : Int))) (by kernel_rfl) (fun hb51 => ?_) (fun hb51 => ?_)
 ·
  have hp52 := hp47.1 hb51; clear hp47
  refine wp_skip ?_
  refine thn ?_
  refine wp_seq ?_
  refine wp_block ?_
  refine sqH ?_; intro hQ53Q hQ53
  refine s1 hF50 13 (.int .i64 x11) ?_; intro a54 hF55; clear hF50
  have hc56 := hp52.1; have hp57 := hp52.2; clear hp52
  refine ix hF55 (T := (tyInt .i64)) (xs := (placesS u0)) hs34 x11 hc56 (k := .i64) (e := 3) (bytes := 8) (nog rfl _) rfl (by kernel_rfl) rfl (by kernel_rfl) (by kernel_rfl) (by kernel_rfl) ?_; intro b58 off59 cs60 q61 a65 hq62 hP63 hT64 hF66; clear hF55
  have hp67 := hp57 q61 hq62; clear hp57
  obtain rfl : cs60 = ([.int .i64 q61] : List Value) := hT64
  refine z1 hF66 hM46 15 hP63 0 (.int .i64 q61) rfl ?_; intro a68 hF69; clear hF66
  refine s1 hF69 6 (.int .i64 x11) ?_; intro a70 hF71; clear hF69
  refine s1 hF71 7 (.int .i64 q61) ?_; intro a72 hF73; clear hF71
  refine nlH (hQ53 _ _ ?_); clear hQ53 hQ53Q
  have hF74 : Fr 39 [] [⟨1, [], .slice ao1 zao1.length cap2⟩, ⟨2, [], .int .i64 u2⟩, ⟨6, [], .int .i64 x11⟩, ⟨7, [], .int .i64 q61⟩, ⟨9, [], .slice ao19 (placesS u0).length cap20⟩, ⟨10, [], .int .i64 ((placesS u0).length : Int)⟩, ⟨11, [], .int .i64 x11⟩] a72 := hF73.reg; clear hF73
  have hcd6_0 := hp67.1; have hp128 := hp67.2; clear hp67
  obtain ⟨qd7_0, hqd7_0⟩ : ∃ q, zao1[(w64 (q61.tdiv 8)).toNat]? = some q := ⟨_, List.getElem?_eq_getElem (by omega)⟩; have hp129 := hp128 qd7_0 hqd7_0; clear hp128
  have hcd10_0 := hp129.1; have hp130 := hp129.2; clear hp129
  have hcd14_0 := hp130.1; have hp131 := hp130.2; clear hp130
  have hcd19_0 := hp131.1; have hp132 := hp131.2; clear hp131
  have hcd21_0 := hp132.1; have hp133 := hp132.2; clear hp132
  refine any_invE mixed [[], [], [1], [], [], [4], [3, 5], [6], [], [8], [9], [7, 10], [], [], [12, 13], [14], [15], [], [17], [16, 18], [11, 19], [0, 1, 2, 3, 4, 5, 6, 7, 8, 9, 10, 11, 12, 13, 14, 15, 16, 17, 18, 19, 20], [0, 1, 2, 3, 4, 5, 6, 7, 8, 9, 10, 11, 12, 13, 14, 15, 16, 17, 18, 19, 20, 21]] 23 (fun S a w1 => ∃ (g87 : Nat) (g122 : Nat) (ud16 : Value) (ud17 : Value) (ud18 : Value) (ud19 : Value) (ud20 : Value) (ud21 : Value) (ud22 : Value) (ud23 : Value) (ud24 : Value) (ud25 : Value) (ud26 : Value) (ud27 : Value) (ud28 : Value) (ud29 : Value) (ud30 : Value) (ud31 : Value) (ud32 : Value) (ud33 : Value) (ud34 : Value) (ud35 : Value) (ud36 : Value) (ud37 : Value) (rh0 : Res) (rh1 : Res), Fz.le Z31 Z31 ∧ Fr 39 [] [⟨1, [], .slice ao1 zao1.length cap2⟩, ⟨2, [], .int .i64 u2⟩, ⟨6, [], .int .i64 x11⟩, ⟨7, [], .int .i64 q61⟩, ⟨9, [], .slice ao19 (placesS u0).length cap20⟩, ⟨10, [], .int .i64 ((placesS u0).length : Int)⟩, ⟨11, [], .int .i64 x11⟩, ⟨16, [], ud16⟩, ⟨17, [], ud17⟩, ⟨18, [], ud18⟩, ⟨19, [], ud19⟩, ⟨20, [], ud20⟩, ⟨21, [], ud21⟩, ⟨22, [], ud22⟩, ⟨23, [], ud23⟩, ⟨24, [], ud24⟩, ⟨25, [], ud25⟩, ⟨26, [], ud26⟩, ⟨27, [], ud27⟩, ⟨28, [], ud28⟩, ⟨29, [], ud29⟩, ⟨30, [], ud30⟩, ⟨31, [], ud31⟩, ⟨32, [], ud32⟩, ⟨33, [], ud33⟩, ⟨34, [], ud34⟩, ⟨35, [], ud35⟩, ⟨36, [], ud36⟩, ⟨37, [], ud37⟩] a ∧ Mem B [] w0 Z0 (rh0 :: rh1 :: Rr) Z31 w1 ∧ (S 0 = true → ud16 = .slice ao1 zao1.length cap2) ∧ (S 1 = true → ud17 = .int .i64 q61) ∧ (S 2 = true → ud18 = .int .i64 (w64 (q61.tdiv 8))) ∧ (S 3 = true → ud19 = .slice ao1 zao1.length cap2) ∧ (S 4 = true → ud20 = .int .i64 q61) ∧ (S 5 = true → ud21 = .int .i64 (w64 (q61.tdiv 8))) ∧ (S 6 = true → ud22 = .pointer (some ⟨g87, (w64 (q61.tdiv 8)).toNat * 1, none⟩)) ∧ (S 7 = true → ud23 = .int .u8 qd7_0) ∧ (S 8 = true → ud24 = .int .i64 q61) ∧ (S 9 = true → ud25 = .int .i64 (q61.tmod 8)) ∧ (S 10 = true → ud26 = .int .u8 (bShl .u8 1 (q61.tmod 8))) ∧ (S 11 = true → ud27 = .int .u8 (bAndNot .u8 qd7_0 (bShl .u8 1 (q61.tmod 8)))) ∧ (S 12 = true → ud28 = .int .i64 u2) ∧ (S 13 = true → ud29 = .int .i64 x11) ∧ (S 14 = true → ud30 = .int .i64 (bShr .i64 u2 x11)) ∧ (S 15 = true → ud31 = .int .i64 (bAnd .i64 (bShr .i64 u2 x11) 1)) ∧ (S 16 = true → ud32 = .int .u8 (w8 (bAnd .i64 (bShr .i64 u2 x11) 1))) ∧ (S 17 = true → ud33 = .int .i64 q61) ∧ (S 18 = true → ud34 = .int .i64 (q61.tmod 8)) ∧ (S 19 = true → ud35 = .int .u8 (bShl .u8 (w8 (bAnd .i64 (bShr .i64 u2 x11) 1)) (q61.tmod 8))) ∧ (S 20 = true → ud36 = .int .u8 (bOr .u8 (bAndNot .u8 qd7_0 (bShl .u8 1 (q61.tmod 8))) (bShl .u8 (w8 (bAnd .i64 (bShr .i64 u2 x11) 1)) (q61.tmod 8)))) ∧ (S 21 = true → ud37 = .pointer (some ⟨g122, (w64 (q61.tdiv 8)).toNat * 1, none⟩)) ∧ (rh0 = .row b5 [str u0.Name, .int .i64 u0.Start, .int .i64 u0.Size, .bool u0.Back, .bool u0.Signed, .int .i64 u0.Mul, .int .i64 u0.Div, .int .i64 u0.Add, .int .i64 u0.Key] 23) ∧ (S 22 = false → rh1 = .own (tyInt .u8) 5 ao1 cap2 zao1) ∧ (S 22 = true → rh1 = .own (tyInt .u8) 5 ao1 cap2 (zao1.set (w64 (q61.tdiv 8)).toNat (bOr .u8 (bAndNot .u8 qd7_0 (bShl .u8 1 (q61.tmod 8))) (bShl .u8 (w8 (bAnd .i64 (bShr .i64 u2 x11) 1)) (q61.tmod 8))))) ∧ (S 6 = true → ao1 = some ⟨g87, 0, none⟩) ∧ (S 21 = true → ao1 = some ⟨g122, 0, none⟩)) ?h0 ?hs ?hE
  case h0 =>
   have hF135 := hF74.any 16
   have hF136 := hF135.any 17
   have hF137 := hF136.any 18
   have hF138 := hF137.any 19
   have hF139 := hF138.any 20
   have hF140 := hF139.any 21
   have hF141 := hF140.any 22
   have hF142 := hF141.any 23
   have hF143 := hF142.any 24
   have hF144 := hF143.any 25
   have hF145 := hF144.any 26
   have hF146 := hF145.any 27
   have hF147 := hF146.any 28
   have hF148 := hF147.any 29
   have hF149 := hF148.any 30
   have hF150 := hF149.any 31
   have hF151 := hF150.any 32
   have hF152 := hF151.any 33
   have hF153 := hF152.any 34
   have hF154 := hF153.any 35
   have hF155 := hF154.any 36
   have hF156 := hF155.any 37
   have hM157 := (hM46.perm lpr).drew
   exact ⟨0, 0, a72.tmps.getD 16 undef, a72.tmps.getD 17 undef, a72.tmps.getD 18 undef, a72.tmps.getD 19 undef, a72.tmps.getD 20 undef, a72.tmps.getD 21 undef, a72.tmps.getD 22 undef, a72.tmps.getD 23 undef, a72.tmps.getD 24 undef, a72.tmps.getD 25 undef, a72.tmps.getD 26 undef, a72.tmps.getD 27 undef, a72.tmps.getD 28 undef, a72.tmps.getD 29 undef, a72.tmps.getD 30 undef, a72.tmps.getD 31 undef, a72.tmps.getD 32 undef, a72.tmps.getD 33 undef, a72.tmps.getD 34 undef, a72.tmps.getD 35 undef, a72.tmps.getD 36 undef, a72.tmps.getD 37 undef, .row b5 [str u0.Name, .int .i64 u0.Start, .int .i64 u0.Size, .bool u0.Back, .bool u0.Signed, .int .i64 u0.Mul, .int .i64 u0.Div, .int .i64 u0.Add, .int .i64 u0.Key] 23, .own (tyInt .u8) 5 ao1 cap2 zao1, Fz.le.refl _, hF156.reg, hM157, ff, ff, ff, ff, ff, ff, ff, ff, ff, ff, ff, ff, ff, ff, ff, ff, ff, ff, ff, ff, ff, ff, rfl, kf, ff, ff, ff⟩
  case hs =>
   intro S hcl i o hil hi hSi hpre a w1 hI; refine Go.Sy.hid ?_; intro G hG; obtain ⟨g87, g122, ud16, ud17, ud18, ud19, ud20, ud21, ud22, ud23, ud24, ud25, ud26, ud27, ud28, ud29, ud30, ud31, ud32, ud33, ud34, ud35, ud36, ud37, rh0, rh1, hle134, hFx, hMx, cu16, cu17, cu18, cu19, cu20, cu21, cu22, cu23, cu24, cu25, cu26, cu27, cu28, cu29, cu30, cu31, cu32, cu33, cu34, cu35, cu36, cu37, cr0_0, cr1_0, cr1_1, cf0, hI⟩ := hI; have cf1 := hI; clear hI
   have hcase : i = 0 ∨ i = 1 ∨ i = 2 ∨ i = 3 ∨ i = 4 ∨ i = 5 ∨ i = 6 ∨ i = 7 ∨ i = 8 ∨ i = 9 ∨ i = 10 ∨ i = 11 ∨ i = 12 ∨ i = 13 ∨ i = 14 ∨ i = 15 ∨ i = 16 ∨ i = 17 ∨ i = 18 ∨ i = 19 ∨ i = 20 ∨ i = 21 ∨ i = 22 := by clear hi; omega
   rcases hcase with rfl | rfl | rfl | rfl | rfl | rfl | rfl | rfl | rfl | rfl | rfl | rfl | rfl | rfl | rfl | rfl | rfl | rfl | rfl | rfl | rfl | rfl | rfl
   ·
    obtain rfl := oj hi
    have hx0 := hSi
    have hx21 := ngF hcl 21 0 hx0
    have hx22 := ngF hcl 22 0 hx0
    obtain rfl := cr0_0
    obtain rfl := cr1_0 hx22
    refine hG (any_step ?_); clear hG G; intro A J hJ
    have hle0 := Fz.le.trans hle0 hle134
    have hs158 := hs34.mono hle134
    have hs159 := hP63.mono hle134
    refine s1 hFx 16 (.slice ao1 zao1.length cap2) ?_; intro a160 hF161; clear hFx
    refine nl (qnI (hJ _ _ ?_)); clear hJ J
    exact ⟨g87, g122, .slice ao1 zao1.length cap2, ud17, ud18, ud19, ud20, ud21, ud22, ud23, ud24, ud25, ud26, ud27, ud28, ud29, ud30, ud31, ud32, ud33, ud34, ud35, ud36, ud37, .row b5 [str u0.Name, .int .i64 u0.Start, .int .i64 u0.Size, .bool u0.Back, .bool u0.Signed, .int .i64 u0.Mul, .int .i64 u0.Div, .int .i64 u0.Add, .int .i64 u0.Key] 23, .own (tyInt .u8) 5 ao1 cap2 zao1, hle134, hF161.reg, hMx.perm lpr, kf, cu17, cu18, cu19, cu20, cu21, cu22, cu23, cu24, cu25, cu26, cu27, cu28, cu29, cu30, cu31, cu32, cu33, cu34, cu35, cu36, (nt hx21), rfl, kf, (nt hx22), cf0, (nt hx21)⟩
   ·
    obtain rfl := oj hi
    have hx1 := hSi
    have hx2 := ngF hcl 2 1 hx1
    have hx21 := ngF hcl 21 1 hx1
    have hx22 := ngF hcl 22 1 hx1
    obtain rfl := cr0_0
    obtain rfl := cr1_0 hx22
    refine hG (any_step ?_); clear hG G; intro A J hJ
    have hle0 := Fz.le.trans hle0 hle134
    have hs163 := hs34.mono hle134
    have hs164 := hP63.mono hle134
    refine s1 hFx 17 (.int .i64 q61) ?_; intro a165 hF166; clear hFx
    refine nl (qnI (hJ _ _ ?_)); clear hJ J
    exact ⟨g87, g122, ud16, .int .i64 q61, ud18, ud19, ud20, ud21, ud22, ud23, ud24, ud25, ud26, ud27, ud28, ud29, ud30, ud31, ud32, ud33, ud34, ud35, ud36, ud37, .row b5 [str u0.Name, .int .i64 u0.Start, .int .i64 u0.Size, .bool u0.Back, .bool u0.Signed, .int .i64 u0.Mul, .int .i64 u0.Div, .int .i64 u0.Add, .int .i64 u0.Key] 23, .own (tyInt .u8) 5 ao1 cap2 zao1, hle134, hF166.reg, hMx.perm lpr, cu16, kf, (nt hx2), cu19, cu20, cu21, cu22, cu23, cu24, cu25, cu26, cu27, cu28, cu29, cu30, cu31, cu32, cu33, cu34, cu35, cu36, (nt hx21), rfl, kf, (nt hx22), cf0, (nt hx21)⟩
   ·
    obtain rfl := oj hi
    have hx1 := hpre 1 (by kernel_rfl)
    have hx2 := hSi
    have hx21 := ngF hcl 21 2 hx2
    have hx22 := ngF hcl 22 2 hx2
    obtain rfl := cu17 hx1
    obtain rfl := cr0_0
    obtain rfl := cr1_0 hx22
    refine hG (any_step ?_); clear hG G; intro A J hJ
    have hle0 := Fz.le.trans hle0 hle134
    have hs168 := hs34.mono hle134
    have hs169 := hP63.mono hle134
    refine s1 hFx 18 (.int .i64 (w64 (q61.tdiv 8))) ?_; intro a170 hF171; clear hFx
    refine nl (qnI (hJ _ _ ?_)); clear hJ J
    exact ⟨g87, g122, ud16, .int .i64 q61, .int .i64 (w64 (q61.tdiv 8)), ud19, ud20, ud21, ud22, ud23, ud24, ud25, ud26, ud27, ud28, ud29, ud30, ud31, ud32, ud33, ud34, ud35, ud36, ud37, .row b5 [str u0.Name, .int .i64 u0.Start, .int .i64 u0.Size, .bool u0.Back, .bool u0.Signed, .int .i64 u0.Mul, .int .i64 u0.Div, .int .i64 u0.Add, .int .i64 u0.Key] 23, .own (tyInt .u8) 5 ao1 cap2 zao1, hle134, hF171.reg, hMx.perm lpr, cu16, kf, kf, cu19, cu20, cu21, cu22, cu23, cu24, cu25, cu26, cu27, cu28, cu29, cu30, cu31, cu32, cu33, cu34, cu35, cu36, (nt hx21), rfl, kf, (nt hx22), cf0, (nt hx21)⟩
   ·
    obtain rfl := oj hi
    have hx3 := hSi
    have hx6 := ngF hcl 6 3 hx3
    have hx7 := ngF hcl 7 6 hx6
    have hx11 := ngF hcl 11 7 hx7
    have hx20 := ngF hcl 20 11 hx11
    have hx21 := ngF hcl 21 3 hx3
    have hx22 := ngF hcl 22 3 hx3
    obtain rfl := cr0_0
    obtain rfl := cr1_0 hx22
    refine hG (any_step ?_); clear hG G; intro A J hJ
    have hle0 := Fz.le.trans hle0 hle134
    have hs173 := hs34.mono hle134
    have hs174 := hP63.mono hle134
    refine s1 hFx 19 (.slice ao1 zao1.length cap2) ?_; intro a175 hF176; clear hFx
    refine nl (qnI (hJ _ _ ?_)); clear hJ J
    exact ⟨g87, g122, ud16, ud17, ud18, .slice ao1 zao1.length cap2, ud20, ud21, ud22, ud23, ud24, ud25, ud26, ud27, ud28, ud29, ud30, ud31, ud32, ud33, ud34, ud35, ud36, ud37, .row b5 [str u0.Name, .int .i64 u0.Start, .int .i64 u0.Size, .bool u0.Back, .bool u0.Signed, .int .i64 u0.Mul, .int .i64 u0.Div, .int .i64 u0.Add, .int .i64 u0.Key] 23, .own (tyInt .u8) 5 ao1 cap2 zao1, hle134, hF176.reg, hMx.perm lpr, cu16, cu17, cu18, kf, cu20, cu21, (nt hx6), (nt hx7), cu24, cu25, cu26, (nt hx11), cu28, cu29, cu30, cu31, cu32, cu33, cu34, cu35, (nt hx20), (nt hx21), rfl, kf, (nt hx22), (nt hx6), (nt hx21)⟩
   ·
    obtain rfl := oj hi
    have hx4 := hSi
    have hx5 := ngF hcl 5 4 hx4
    have hx6 := ngF hcl 6 5 hx5
    have hx7 := ngF hcl 7 6 hx6
    have hx11 := ngF hcl 11 7 hx7
    have hx20 := ngF hcl 20 11 hx11
    have hx21 := ngF hcl 21 4 hx4
    have hx22 := ngF hcl 22 4 hx4
    obtain rfl := cr0_0
    obtain rfl := cr1_0 hx22
    refine hG (any_step ?_); clear hG G; intro A J hJ
    have hle0 := Fz.le.trans hle0 hle134
    have hs178 := hs34.mono hle134
    have hs179 := hP63.mono hle134
    refine s1 hFx 20 (.int .i64 q61) ?_; intro a180 hF181; clear hFx
    refine nl (qnI (hJ _ _ ?_)); clear hJ J
    exact ⟨g87, g122, ud16, ud17, ud18, ud19, .int .i64 q61, ud21, ud22, ud23, ud24, ud25, ud26, ud27, ud28, ud29, ud30, ud31, ud32, ud33, ud34, ud35, ud36, ud37, .row b5 [str u0.Name, .int .i64 u0.Start, .int .i64 u0.Size, .bool u0.Back, .bool u0.Signed, .int .i64 u0.Mul, .int .i64 u0.Div, .int .i64 u0.Add, .int .i64 u0.Key] 23, .own (tyInt .u8) 5 ao1 cap2 zao1, hle134, hF181.reg, hMx.perm lpr, cu16, cu17, cu18, cu19, kf, (nt hx5), (nt hx6), (nt hx7), cu24, cu25, cu26, (nt hx11), cu28, cu29, cu30, cu31, cu32, cu33, cu34, cu35, (nt hx20), (nt hx21), rfl, kf, (nt hx22), (nt hx6), (nt hx21)⟩
   ·
    obtain rfl := oj hi
    have hx4 := hpre 4 (by kernel_rfl)
    have hx5 := hSi
    have hx6 := ngF hcl 6 5 hx5
    have hx7 := ngF hcl 7 6 hx6
    have hx11 := ngF hcl 11 7 hx7
    have hx20 := ngF hcl 20 11 hx11
    have hx21 := ngF hcl 21 5 hx5
    have hx22 := ngF hcl 22 5 hx5
    obtain rfl := cu20 hx4
    obtain rfl := cr0_0
    obtain rfl := cr1_0 hx22
    refine hG (any_step ?_); clear hG G; intro A J hJ
    have hle0 := Fz.le.trans hle0 hle134
    have hs183 := hs34.mono hle134
    have hs184 := hP63.mono hle134
    refine s1 hFx 21 (.int .i64 (w64 (q61.tdiv 8))) ?_; intro a185 hF186; clear hFx
    refine nl (qnI (hJ _ _ ?_)); clear hJ J
    exact ⟨g87, g122, ud16, ud17, ud18, ud19, .int .i64 q61, .int .i64 (w64 (q61.tdiv 8)), ud22, ud23, ud24, ud25, ud26, ud27, ud28, ud29, ud30, ud31, ud32, ud33, ud34, ud35, ud36, ud37, .row b5 [str u0.Name, .int .i64 u0.Start, .int .i64 u0.Size, .bool u0.Back, .bool u0.Signed, .int .i64 u0.Mul, .int .i64 u0.Div, .int .i64 u0.Add, .int .i64 u0.Key] 23, .own (tyInt .u8) 5 ao1 cap2 zao1, hle134, hF186.reg, hMx.perm lpr, cu16, cu17, cu18, cu19, kf, kf, (nt hx6), (nt hx7), cu24, cu25, cu26, (nt hx11), cu28, cu29, cu30, cu31, cu32, cu33, cu34, cu35, (nt hx20), (nt hx21), rfl, kf, (nt hx22), (nt hx6), (nt hx21)⟩
   ·
    obtain rfl := oj hi
    have hx5 := hpre 5 (by kernel_rfl)
    have hx3 := hpre 3 (by kernel_rfl)
    have hx4 := hcl 5 4 (by kernel_rfl) hx5
    have hx6 := hSi
    have hx7 := ngF hcl 7 6 hx6
    have hx11 := ngF hcl 11 7 hx7
    have hx20 := ngF hcl 20 11 hx11
    have hx21 := ngF hcl 21 6 hx6
    have hx22 := ngF hcl 22 6 hx6
    obtain rfl := cu19 hx3
    obtain rfl := cu20 hx4
    obtain rfl := cu21 hx5
    obtain rfl := cr0_0
    obtain rfl := cr1_0 hx22
    refine hG (any_step ?_); clear hG G; intro A J hJ
    have hle0 := Fz.le.trans hle0 hle134
    have hs188 := hs34.mono hle134
    have hs189 := hP63.mono hle134
    refine ixo hFx hMx 1 (T := (tyInt .u8)) (xs := zao1) (w64 (q61.tdiv 8)) (by simpa only [List.length_set] using hcd6_0) (k := .i64) (e := 5) (bytes := 1) (nog rfl _) rfl (by kernel_rfl) rfl (by kernel_rfl) (by kernel_rfl) rfl (by kernel_rfl) ?_; intro g190 a192 hg191 hF193; clear hFx
    refine nl (qnI (hJ _ _ ?_)); clear hJ J
    exact ⟨g190, g122, ud16, ud17, ud18, .slice ao1 zao1.length cap2, .int .i64 q61, .int .i64 (w64 (q61.tdiv 8)), .pointer (some ⟨g190, (w64 (q61.tdiv 8)).toNat * 1, none⟩), ud23, ud24, ud25, ud26, ud27, ud28, ud29, ud30, ud31, ud32, ud33, ud34, ud35, ud36, ud37, .row b5 [str u0.Name, .int .i64 u0.Start, .int .i64 u0.Size, .bool u0.Back, .bool u0.Signed, .int .i64 u0.Mul, .int .i64 u0.Div, .int .i64 u0.Add, .int .i64 u0.Key] 23, .own (tyInt .u8) 5 ao1 cap2 zao1, hle134, hF193.reg, hMx.perm lpr, cu16, cu17, cu18, kf, kf, kf, kf, (nt hx7), cu24, cu25, cu26, (nt hx11), cu28, cu29, cu30, cu31, cu32, cu33, cu34, cu35, (nt hx20), (nt hx21), rfl, kf, (nt hx22), (fun _ => hg191), (nt hx21)⟩
   ·
    obtain rfl := oj hi
    have hx6 := hpre 6 (by kernel_rfl)
    have hx5 := hcl 6 5 (by kernel_rfl) hx6
    have hx3 := hcl 6 3 (by kernel_rfl) hx6
    have hx4 := hcl 5 4 (by kernel_rfl) hx5
    have hx7 := hSi
    have hx11 := ngF hcl 11 7 hx7
    have hx20 := ngF hcl 20 11 hx11
    have hx21 := ngF hcl 21 7 hx7
    have hx22 := ngF hcl 22 7 hx7
    obtain rfl := cu19 hx3
    obtain rfl := cu20 hx4
    obtain rfl := cu21 hx5
    obtain rfl := cu22 hx6
    obtain rfl := cr0_0
    obtain rfl := cr1_0 hx22
    refine hG (any_step ?_); clear hG G; intro A J hJ
    have hle0 := Fz.le.trans hle0 hle134
    have hs195 := hs34.mono hle134
    have hs196 := hP63.mono hle134
    have hs197 := cf0 hx6
    obtain ⟨cs198, hT199, hcl200⟩ := own_elx hMx 1 (T := (tyInt .u8)) (xs := zao1) rfl hs197 (w64 (q61.tdiv 8)).toNat hqd7_0
    obtain rfl : cs198 = ([.int .u8 qd7_0] : List Value) := hT199
    refine lc1 hFx 23 (.int .u8 qd7_0) (hcl200 0 _ rfl) rfl ?_; intro a201 hF202; clear hFx
    refine nl (qnI (hJ _ _ ?_)); clear hJ J
    exact ⟨g87, g122, ud16, ud17, ud18, .slice ao1 zao1.length cap2, .int .i64 q61, .int .i64 (w64 (q61.tdiv 8)), .pointer (some ⟨g87, (w64 (q61.tdiv 8)).toNat * 1, none⟩), .int .u8 qd7_0, ud24, ud25, ud26, ud27, ud28, ud29, ud30, ud31, ud32, ud33, ud34, ud35, ud36, ud37, .row b5 [str u0.Name, .int .i64 u0.Start, .int .i64 u0.Size, .bool u0.Back, .bool u0.Signed, .int .i64 u0.Mul, .int .i64 u0.Div, .int .i64 u0.Add, .int .i64 u0.Key] 23, .own (tyInt .u8) 5 ao1 cap2 zao1, hle134, hF202.reg, hMx.perm lpr, cu16, cu17, cu18, kf, kf, kf, kf, kf, cu24, cu25, cu26, (nt hx11), cu28, cu29, cu30, cu31, cu32, cu33, cu34, cu35, (nt hx20), (nt hx21), rfl, kf, (nt hx22), (fun _ => hs197), (nt hx21)⟩
   ·
    obtain rfl := oj hi
    have hx8 := hSi
    have hx9 := ngF hcl 9 8 hx8
    have hx10 := ngF hcl 10 9 hx9
    have hx11 := ngF hcl 11 10 hx10
    have hx20 := ngF hcl 20 11 hx11
    have hx21 := ngF hcl 21 8 hx8
    have hx22 := ngF hcl 22 8 hx8
    obtain rfl := cr0_0
    obtain rfl := cr1_0 hx22
    refine hG (any_step ?_); clear hG G; intro A J hJ
    have hle0 := Fz.le.trans hle0 hle134
    have hs204 := hs34.mono hle134
    have hs205 := hP63.mono hle134
    refine s1 hFx 24 (.int .i64 q61) ?_; intro a206 hF207; clear hFx
    refine nl (qnI (hJ _ _ ?_)); clear hJ J
    exact ⟨g87, g122, ud16, ud17, ud18, ud19, ud20, ud21, ud22, ud23, .int .i64 q61, ud25, ud26, ud27, ud28, ud29, ud30, ud31, ud32, ud33, ud34, ud35, ud36, ud37, .row b5 [str u0.Name, .int .i64 u0.Start, .int .i64 u0.Size, .bool u0.Back, .bool u0.Signed, .int .i64 u0.Mul, .int .i64 u0.Div, .int .i64 u0.Add, .int .i64 u0.Key] 23, .own (tyInt .u8) 5 ao1 cap2 zao1, hle134, hF207.reg, hMx.perm lpr, cu16, cu17, cu18, cu19, cu20, cu21, cu22, cu23, kf, (nt hx9), (nt hx10), (nt hx11), cu28, cu29, cu30, cu31, cu32, cu33, cu34, cu35, (nt hx20), (nt hx21), rfl, kf, (nt hx22), cf0, (nt hx21)⟩
   ·
    obtain rfl := oj hi
    have hx8 := hpre 8 (by kernel_rfl)
    have hx9 := hSi
    have hx10 := ngF hcl 10 9 hx9
    have hx11 := ngF hcl 11 10 hx10
    have hx20 := ngF hcl 20 11 hx11
    have hx21 := ngF hcl 21 9 hx9
    have hx22 := ngF hcl 22 9 hx9
    obtain rfl := cu24 hx8
    obtain rfl := cr0_0
    obtain rfl := cr1_0 hx22
    refine hG (any_step ?_); clear hG G; intro A J hJ
    have hle0 := Fz.le.trans hle0 hle134
    have hs209 := hs34.mono hle134
    have hs210 := hP63.mono hle134
    refine s1 hFx 25 (.int .i64 (q61.tmod 8)) ?_; intro a211 hF212; clear hFx
    refine nl (qnI (hJ _ _ ?_)); clear hJ J
    exact ⟨g87, g122, ud16, ud17, ud18, ud19, ud20, ud21, ud22, ud23, .int .i64 q61, .int .i64 (q61.tmod 8), ud26, ud27, ud28, ud29, ud30, ud31, ud32, ud33, ud34, ud35, ud36, ud37, .row b5 [str u0.Name, .int .i64 u0.Start, .int .i64 u0.Size, .bool u0.Back, .bool u0.Signed, .int .i64 u0.Mul, .int .i64 u0.Div, .int .i64 u0.Add, .int .i64 u0.Key] 23, .own (tyInt .u8) 5 ao1 cap2 zao1, hle134, hF212.reg, hMx.perm lpr, cu16, cu17, cu18, cu19, cu20, cu21, cu22, cu23, kf, kf, (nt hx10), (nt hx11), cu28, cu29, cu30, cu31, cu32, cu33, cu34, cu35, (nt hx20), (nt hx21), rfl, kf, (nt hx22), cf0, (nt hx21)⟩
   ·
    obtain rfl := oj hi
    have hx9 := hpre 9 (by kernel_rfl)
    have hx8 := hcl 9 8 (by kernel_rfl) hx9
    have hx10 := hSi
    have hx11 := ngF hcl 11 10 hx10
    have hx20 := ngF hcl 20 11 hx11
    have hx21 := ngF hcl 21 10 hx10
    have hx22 := ngF hcl 22 10 hx10
    obtain rfl := cu24 hx8
    obtain rfl := cu25 hx9
    obtain rfl := cr0_0
    obtain rfl := cr1_0 hx22
    refine hG (any_step ?_); clear hG G; intro A J hJ
    have hle0 := Fz.le.trans hle0 hle134
    have hs214 := hs34.mono hle134
    have hs215 := hP63.mono hle134
    refine st hFx (.int .u8 (bShl .u8 1 (q61.tmod 8))) (nog rfl _) rfl (by kernel_rfl) (shl_run hFx (g := []) (k' := .i64) rfl (by kernel_rfl) (by kernel_rfl) hcd10_0 rfl) ?_; intro a216 hF217; clear hFx
    refine nl (qnI (hJ _ _ ?_)); clear hJ J
    exact ⟨g87, g122, ud16, ud17, ud18, ud19, ud20, ud21, ud22, ud23, .int .i64 q61, .int .i64 (q61.tmod 8), .int .u8 (bShl .u8 1 (q61.tmod 8)), ud27, ud28, ud29, ud30, ud31, ud32, ud33, ud34, ud35, ud36, ud37, .row b5 [str u0.Name, .int .i64 u0.Start, .int .i64 u0.Size, .bool u0.Back, .bool u0.Signed, .int .i64 u0.Mul, .int .i64 u0.Div, .int .i64 u0.Add, .int .i64 u0.Key] 23, .own (tyInt .u8) 5 ao1 cap2 zao1, hle134, hF217.reg, hMx.perm lpr, cu16, cu17, cu18, cu19, cu20, cu21, cu22, cu23, kf, kf, kf, (nt hx11), cu28, cu29, cu30, cu31, cu32, cu33, cu34, cu35, (nt hx20), (nt hx21), rfl, kf, (nt hx22), cf0, (nt hx21)⟩
   ·
    obtain rfl := oj hi
    have hx10 := hpre 10 (by kernel_rfl)
    have hx7 := hpre 7 (by kernel_rfl)
    have hx9 := hcl 10 9 (by kernel_rfl) hx10
    have hx6 := hcl 7 6 (by kernel_rfl) hx7
    have hx8 := hcl 9 8 (by kernel_rfl) hx9
    have hx5 := hcl 6 5 (by kernel_rfl) hx6
    have hx3 := hcl 6 3 (by kernel_rfl) hx6
    have hx4 := hcl 5 4 (by kernel_rfl) hx5
    have hx11 := hSi
    have hx20 := ngF hcl 20 11 hx11
    have hx21 := ngF hcl 21 11 hx11
    have hx22 := ngF hcl 22 11 hx11
    obtain rfl := cu19 hx3
    obtain rfl := cu20 hx4
    obtain rfl := cu21 hx5
    obtain rfl := cu22 hx6
    obtain rfl := cu23 hx7
    obtain rfl := cu24 hx8
    obtain rfl := cu25 hx9
    obtain rfl := cu26 hx10
    obtain rfl := cr0_0
    obtain rfl := cr1_0 hx22
    refine hG (any_step ?_); clear hG G; intro A J hJ
    have hle0 := Fz.le.trans hle0 hle134
    have hs219 := hs34.mono hle134
    have hs220 := hP63.mono hle134
    have hs221 := cf0 hx6
    refine s1 hFx 27 (.int .u8 (bAndNot .u8 qd7_0 (bShl .u8 1 (q61.tmod 8)))) ?_; intro a222 hF223; clear hFx
    refine nl (qnI (hJ _ _ ?_)); clear hJ J
    exact ⟨g87, g122, ud16, ud17, ud18, .slice ao1 zao1.length cap2, .int .i64 q61, .int .i64 (w64 (q61.tdiv 8)), .pointer (some ⟨g87, (w64 (q61.tdiv 8)).toNat * 1, none⟩), .int .u8 qd7_0, .int .i64 q61, .int .i64 (q61.tmod 8), .int .u8 (bShl .u8 1 (q61.tmod 8)), .int .u8 (bAndNot .u8 qd7_0 (bShl .u8 1 (q61.tmod 8))), ud28, ud29, ud30, ud31, ud32, ud33, ud34, ud35, ud36, ud37, .row b5 [str u0.Name, .int .i64 u0.Start, .int .i64 u0.Size, .bool u0.Back, .bool u0.Signed, .int .i64 u0.Mul, .int .i64 u0.Div, .int .i64 u0.Add, .int .i64 u0.Key] 23, .own (tyInt .u8) 5 ao1 cap2 zao1, hle134, hF223.reg, hMx.perm lpr, cu16, cu17, cu18, kf, kf, kf, kf, kf, kf, kf, kf, kf, cu28, cu29, cu30, cu31, cu32, cu33, cu34, cu35, (nt hx20), (nt hx21), rfl, kf, (nt hx22), (fun _ => hs221), (nt hx21)⟩
   ·
    obtain rfl := oj hi
    have hx12 := hSi
    have hx14 := ngF hcl 14 12 hx12
    have hx15 := ngF hcl 15 14 hx14
    have hx16 := ngF hcl 16 15 hx15
    have hx19 := ngF hcl 19 16 hx16
    have hx20 := ngF hcl 20 19 hx19
    have hx21 := ngF hcl 21 12 hx12
    have hx22 := ngF hcl 22 12 hx12
    obtain rfl := cr0_0
    obtain rfl := cr1_0 hx22
    refine hG (any_step ?_); clear hG G; intro A J hJ
    have hle0 := Fz.le.trans hle0 hle134
    have hs225 := hs34.mono hle134
    have hs226 := hP63.mono hle134
    refine s1 hFx 28 (.int .i64 u2) ?_; intro a227 hF228; clear hFx
    refine nl (qnI (hJ _ _ ?_)); clear hJ J
    exact ⟨g87, g122, ud16, ud17, ud18, ud19, ud20, ud21, ud22, ud23, ud24, ud25, ud26, ud27, .int .i64 u2, ud29, ud30, ud31, ud32, ud33, ud34, ud35, ud36, ud37, .row b5 [str u0.Name, .int .i64 u0.Start, .int .i64 u0.Size, .bool u0.Back, .bool u0.Signed, .int .i64 u0.Mul, .int .i64 u0.Div, .int .i64 u0.Add, .int .i64 u0.Key] 23, .own (tyInt .u8) 5 ao1 cap2 zao1, hle134, hF228.reg, hMx.perm lpr, cu16, cu17, cu18, cu19, cu20, cu21, cu22, cu23, cu24, cu25, cu26, cu27, kf, cu29, (nt hx14), (nt hx15), (nt hx16), cu33, cu34, (nt hx19), (nt hx20), (nt hx21), rfl, kf, (nt hx22), cf0, (nt hx21)⟩
   ·
    obtain rfl := oj hi
    have hx13 := hSi
    have hx14 := ngF hcl 14 13 hx13
    have hx15 := ngF hcl 15 14 hx14
    have hx16 := ngF hcl 16 15 hx15
    have hx19 := ngF hcl 19 16 hx16
    have hx20 := ngF hcl 20 19 hx19
    have hx21 := ngF hcl 21 13 hx13
    have hx22 := ngF hcl 22 13 hx13
    obtain rfl := cr0_0
    obtain rfl := cr1_0 hx22
    refine hG (any_step ?_); clear hG G; intro A J hJ
    have hle0 := Fz.le.trans hle0 hle134
    have hs230 := hs34.mono hle134
    have hs231 := hP63.mono hle134
    refine s1 hFx 29 (.int .i64 x11) ?_; intro a232 hF233; clear hFx
    refine nl (qnI (hJ _ _ ?_)); clear hJ J
    exact ⟨g87, g122, ud16, ud17, ud18, ud19, ud20, ud21, ud22, ud23, ud24, ud25, ud26, ud27, ud28, .int .i64 x11, ud30, ud31, ud32, ud33, ud34, ud35, ud36, ud37, .row b5 [str u0.Name, .int .i64 u0.Start, .int .i64 u0.Size, .bool u0.Back, .bool u0.Signed, .int .i64 u0.Mul, .int .i64 u0.Div, .int .i64 u0.Add, .int .i64 u0.Key] 23, .own (tyInt .u8) 5 ao1 cap2 zao1, hle134, hF233.reg, hMx.perm lpr, cu16, cu17, cu18, cu19, cu20, cu21, cu22, cu23, cu24, cu25, cu26, cu27, cu28, kf, (nt hx14), (nt hx15), (nt hx16), cu33, cu34, (nt hx19), (nt hx20), (nt hx21), rfl, kf, (nt hx22), cf0, (nt hx21)⟩
   ·
    obtain rfl := oj hi
    have hx13 := hpre 13 (by kernel_rfl)
    have hx12 := hpre 12 (by kernel_rfl)
    have hx14 := hSi
    have hx15 := ngF hcl 15 14 hx14
    have hx16 := ngF hcl 16 15 hx15
    have hx19 := ngF hcl 19 16 hx16
    have hx20 := ngF hcl 20 19 hx19
    have hx21 := ngF hcl 21 14 hx14
    have hx22 := ngF hcl 22 14 hx14
    obtain rfl := cu28 hx12
    obtain rfl := cu29 hx13
    obtain rfl := cr0_0
    obtain rfl := cr1_0 hx22
    refine hG (any_step ?_); clear hG G; intro A J hJ
    have hle0 := Fz.le.trans hle0 hle134
    have hs235 := hs34.mono hle134
    have hs236 := hP63.mono hle134
    refine st hFx (.int .i64 (bShr .i64 u2 x11)) (nog rfl _) rfl (by kernel_rfl) (shr_run hFx (g := []) (k' := .i64) rfl (by kernel_rfl) (by kernel_rfl) hcd14_0 rfl) ?_; intro a237 hF238; clear hFx
    refine nl (qnI (hJ _ _ ?_)); clear hJ J
    exact ⟨g87, g122, ud16, ud17, ud18, ud19, ud20, ud21, ud22, ud23, ud24, ud25, ud26, ud27, .int .i64 u2, .int .i64 x11, .int .i64 (bShr .i64 u2 x11), ud31, ud32, ud33, ud34, ud35, ud36, ud37, .row b5 [str u0.Name, .int .i64 u0.Start, .int .i64 u0.Size, .bool u0.Back, .bool u0.Signed, .int .i64 u0.Mul, .int .i64 u0.Div, .int .i64 u0.Add, .int .i64 u0.Key] 23, .own (tyInt .u8) 5 ao1 cap2 zao1, hle134, hF238.reg, hMx.perm lpr, cu16, cu17, cu18, cu19, cu20, cu21, cu22, cu23, cu24, cu25, cu26, cu27, kf, kf, kf, (nt hx15), (nt hx16), cu33, cu34, (nt hx19), (nt hx20), (nt hx21), rfl, kf, (nt hx22), cf0, (nt hx21)⟩
   ·
    obtain rfl := oj hi
    have hx14 := hpre 14 (by kernel_rfl)
    have hx13 := hcl 14 13 (by kernel_rfl) hx14
    have hx12 := hcl 14 12 (by kernel_rfl) hx14
    have hx15 := hSi
    have hx16 := ngF hcl 16 15 hx15
    have hx19 := ngF hcl 19 16 hx16
    have hx20 := ngF hcl 20 19 hx19
    have hx21 := ngF hcl 21 15 hx15
    have hx22 := ngF hcl 22 15 hx15
    obtain rfl := cu28 hx12
    obtain rfl := cu29 hx13
    obtain rfl := cu30 hx14
    obtain rfl := cr0_0
    obtain rfl := cr1_0 hx22
    refine hG (any_step ?_); clear hG G; intro A J hJ
    have hle0 := Fz.le.trans hle0 hle134
    have hs240 := hs34.mono hle134
    have hs241 := hP63.mono hle134
    refine s1 hFx 31 (.int .i64 (bAnd .i64 (bShr .i64 u2 x11) 1)) ?_; intro a242 hF243; clear hFx
    refine nl (qnI (hJ _ _ ?_)); clear hJ J
    exact ⟨g87, g122, ud16, ud17, ud18, ud19, ud20, ud21, ud22, ud23, ud24, ud25, ud26, ud27, .int .i64 u2, .int .i64 x11, .int .i64 (bShr .i64 u2 x11), .int .i64 (bAnd .i64 (bShr .i64 u2 x11) 1), ud32, ud33, ud34, ud35, ud36, ud37, .row b5 [str u0.Name, .int .i64 u0.Start, .int .i64 u0.Size, .bool u0.Back, .bool u0.Signed, .int .i64 u0.Mul, .int .i64 u0.Div, .int .i64 u0.Add, .int .i64 u0.Key] 23, .own (tyInt .u8) 5 ao1 cap2 zao1, hle134, hF243.reg, hMx.perm lpr, cu16, cu17, cu18, cu19, cu20, cu21, cu22, cu23, cu24, cu25, cu26, cu27, kf, kf, kf, kf, (nt hx16), cu33, cu34, (nt hx19), (nt hx20), (nt hx21), rfl, kf, (nt hx22), cf0, (nt hx21)⟩
   ·
    obtain rfl := oj hi
    have hx15 := hpre 15 (by kernel_rfl)
    have hx14 := hcl 15 14 (by kernel_rfl) hx15
    have hx13 := hcl 14 13 (by kernel_rfl) hx14
    have hx12 := hcl 14 12 (by kernel_rfl) hx14
    have hx16 := hSi
    have hx19 := ngF hcl 19 16 hx16
    have hx20 := ngF hcl 20 19 hx19
    have hx21 := ngF hcl 21 16 hx16
    have hx22 := ngF hcl 22 16 hx16
    obtain rfl := cu28 hx12
    obtain rfl := cu29 hx13
    obtain rfl := cu30 hx14
    obtain rfl := cu31 hx15
    obtain rfl := cr0_0
    obtain rfl := cr1_0 hx22
    refine hG (any_step ?_); clear hG G; intro A J hJ
    have hle0 := Fz.le.trans hle0 hle134
    have hs245 := hs34.mono hle134
    have hs246 := hP63.mono hle134
    refine s1 hFx 32 (.int .u8 (w8 (bAnd .i64 (bShr .i64 u2 x11) 1))) ?_; intro a247 hF248; clear hFx
    refine nl (qnI (hJ _ _ ?_)); clear hJ J
    exact ⟨g87, g122, ud16, ud17, ud18, ud19, ud20, ud21, ud22, ud23, ud24, ud25, ud26, ud27, .int .i64 u2, .int .i64 x11, .int .i64 (bShr .i64 u2 x11), .int .i64 (bAnd .i64 (bShr .i64 u2 x11) 1), .int .u8 (w8 (bAnd .i64 (bShr .i64 u2 x11) 1)), ud33, ud34, ud35, ud36, ud37, .row b5 [str u0.Name, .int .i64 u0.Start, .int .i64 u0.Size, .bool u0.Back, .bool u0.Signed, .int .i64 u0.Mul, .int .i64 u0.Div, .int .i64 u0.Add, .int .i64 u0.Key] 23, .own (tyInt .u8) 5 ao1 cap2 zao1, hle134, hF248.reg, hMx.perm lpr, cu16, cu17, cu18, cu19, cu20, cu21, cu22, cu23, cu24, cu25, cu26, cu27, kf, kf, kf, kf, kf, cu33, cu34, (nt hx19), (nt hx20), (nt hx21), rfl, kf, (nt hx22), cf0, (nt hx21)⟩
   ·
    obtain rfl := oj hi
    have hx17 := hSi
    have hx18 := ngF hcl 18 17 hx17
    have hx19 := ngF hcl 19 18 hx18
    have hx20 := ngF hcl 20 19 hx19
    have hx21 := ngF hcl 21 17 hx17
    have hx22 := ngF hcl 22 17 hx17
    obtain rfl := cr0_0
    obtain rfl := cr1_0 hx22
    refine hG (any_step ?_); clear hG G; intro A J hJ
    have hle0 := Fz.le.trans hle0 hle134
    have hs250 := hs34.mono hle134
    have hs251 := hP63.mono hle134
    refine s1 hFx 33 (.int .i64 q61) ?_; intro a252 hF253; clear hFx
    refine nl (qnI (hJ _ _ ?_)); clear hJ J
    exact ⟨g87, g122, ud16, ud17, ud18, ud19, ud20, ud21, ud22, ud23, ud24, ud25, ud26, ud27, ud28, ud29, ud30, ud31, ud32, .int .i64 q61, ud34, ud35, ud36, ud37, .row b5 [str u0.Name, .int .i64 u0.Start, .int .i64 u0.Size, .bool u0.Back, .bool u0.Signed, .int .i64 u0.Mul, .int .i64 u0.Div, .int .i64 u0.Add, .int .i64 u0.Key] 23, .own (tyInt .u8) 5 ao1 cap2 zao1, hle134, hF253.reg, hMx.perm lpr, cu16, cu17, cu18, cu19, cu20, cu21, cu22, cu23, cu24, cu25, cu26, cu27, cu28, cu29, cu30, cu31, cu32, kf, (nt hx18), (nt hx19), (nt hx20), (nt hx21), rfl, kf, (nt hx22), cf0, (nt hx21)⟩
   ·
    obtain rfl := oj hi
    have hx17 := hpre 17 (by kernel_rfl)
    have hx18 := hSi
    have hx19 := ngF hcl 19 18 hx18
    have hx20 := ngF hcl 20 19 hx19
    have hx21 := ngF hcl 21 18 hx18
    have hx22 := ngF hcl 22 18 hx18
    obtain rfl := cu33 hx17
    obtain rfl := cr0_0
    obtain rfl := cr1_0 hx22
    refine hG (any_step ?_); clear hG G; intro A J hJ
    have hle0 := Fz.le.trans hle0 hle134
    have hs255 := hs34.mono hle134
    have hs256 := hP63.mono hle134
    refine s1 hFx 34 (.int .i64 (q61.tmod 8)) ?_; intro a257 hF258; clear hFx
    refine nl (qnI (hJ _ _ ?_)); clear hJ J
    exact ⟨g87, g122, ud16, ud17, ud18, ud19, ud20, ud21, ud22, ud23, ud24, ud25, ud26, ud27, ud28, ud29, ud30, ud31, ud32, .int .i64 q61, .int .i64 (q61.tmod 8), ud35, ud36, ud37, .row b5 [str u0.Name, .int .i64 u0.Start, .int .i64 u0.Size, .bool u0.Back, .bool u0.Signed, .int .i64 u0.Mul, .int .i64 u0.Div, .int .i64 u0.Add, .int .i64 u0.Key] 23, .own (tyInt .u8) 5 ao1 cap2 zao1, hle134, hF258.reg, hMx.perm lpr, cu16, cu17, cu18, cu19, cu20, cu21, cu22, cu23, cu24, cu25, cu26, cu27, cu28, cu29, cu30, cu31, cu32, kf, kf, (nt hx19), (nt hx20), (nt hx21), rfl, kf, (nt hx22), cf0, (nt hx21)⟩
   ·
    obtain rfl := oj hi
    have hx18 := hpre 18 (by kernel_rfl)
    have hx16 := hpre 16 (by kernel_rfl)
    have hx17 := hcl 18 17 (by kernel_rfl) hx18
    have hx15 := hcl 16 15 (by kernel_rfl) hx16
    have hx14 := hcl 15 14 (by kernel_rfl) hx15
    have hx13 := hcl 14 13 (by kernel_rfl) hx14
    have hx12 := hcl 14 12 (by kernel_rfl) hx14
    have hx19 := hSi
    have hx20 := ngF hcl 20 19 hx19
    have hx21 := ngF hcl 21 19 hx19
    have hx22 := ngF hcl 22 19 hx19
    obtain rfl := cu28 hx12
    obtain rfl := cu29 hx13
    obtain rfl := cu30 hx14
    obtain rfl := cu31 hx15
    obtain rfl := cu32 hx16
    obtain rfl := cu33 hx17
    obtain rfl := cu34 hx18
    obtain rfl := cr0_0
    obtain rfl := cr1_0 hx22
    refine hG (any_step ?_); clear hG G; intro A J hJ
    have hle0 := Fz.le.trans hle0 hle134
    have hs260 := hs34.mono hle134
    have hs261 := hP63.mono hle134
    refine st hFx (.int .u8 (bShl .u8 (w8 (bAnd .i64 (bShr .i64 u2 x11) 1)) (q61.tmod 8))) (nog rfl _) rfl (by kernel_rfl) (shl_run hFx (g := []) (k' := .i64) rfl (by kernel_rfl) (by kernel_rfl) hcd19_0 rfl) ?_; intro a262 hF263; clear hFx
    refine nl (qnI (hJ _ _ ?_)); clear hJ J
    exact ⟨g87, g122, ud16, ud17, ud18, ud19, ud20, ud21, ud22, ud23, ud24, ud25, ud26, ud27, .int .i64 u2, .int .i64 x11, .int .i64 (bShr .i64 u2 x11), .int .i64 (bAnd .i64 (bShr .i64 u2 x11) 1), .int .u8 (w8 (bAnd .i64 (bShr .i64 u2 x11) 1)), .int .i64 q61, .int .i64 (q61.tmod 8), .int .u8 (bShl .u8 (w8 (bAnd .i64 (bShr .i64 u2 x11) 1)) (q61.tmod 8)), ud36, ud37, .row b5 [str u0.Name, .int .i64 u0.Start, .int .i64 u0.Size, .bool u0.Back, .bool u0.Signed, .int .i64 u0.Mul, .int .i64 u0.Div, .int .i64 u0.Add, .int .i64 u0.Key] 23, .own (tyInt .u8) 5 ao1 cap2 zao1, hle134, hF263.reg, hMx.perm lpr, cu16, cu17, cu18, cu19, cu20, cu21, cu22, cu23, cu24, cu25, cu26, cu27, kf, kf, kf, kf, kf, kf, kf, kf, (nt hx20), (nt hx21), rfl, kf, (nt hx22), cf0, (nt hx21)⟩
   ·
    obtain rfl := oj hi
    have hx19 := hpre 19 (by kernel_rfl)
    have hx11 := hpre 11 (by kernel_rfl)
    have hx18 := hcl 19 18 (by kernel_rfl) hx19
    have hx16 := hcl 19 16 (by kernel_rfl) hx19
    have hx10 := hcl 11 10 (by kernel_rfl) hx11
    have hx7 := hcl 11 7 (by kernel_rfl) hx11
    have hx17 := hcl 18 17 (by kernel_rfl) hx18
    have hx15 := hcl 16 15 (by kernel_rfl) hx16
    have hx9 := hcl 10 9 (by kernel_rfl) hx10
    have hx6 := hcl 7 6 (by kernel_rfl) hx7
    have hx14 := hcl 15 14 (by kernel_rfl) hx15
    have hx8 := hcl 9 8 (by kernel_rfl) hx9
    have hx5 := hcl 6 5 (by kernel_rfl) hx6
    have hx3 := hcl 6 3 (by kernel_rfl) hx6
    have hx13 := hcl 14 13 (by kernel_rfl) hx14
    have hx12 := hcl 14 12 (by kernel_rfl) hx14
    have hx4 := hcl 5 4 (by kernel_rfl) hx5
    have hx20 := hSi
    have hx21 := ngF hcl 21 20 hx20
    have hx22 := ngF hcl 22 20 hx20
    obtain rfl := cu19 hx3
    obtain rfl := cu20 hx4
    obtain rfl := cu21 hx5
    obtain rfl := cu22 hx6
    obtain rfl := cu23 hx7
    obtain rfl := cu24 hx8
    obtain rfl := cu25 hx9
    obtain rfl := cu26 hx10
    obtain rfl := cu27 hx11
    obtain rfl := cu28 hx12
    obtain rfl := cu29 hx13
    obtain rfl := cu30 hx14
    obtain rfl := cu31 hx15
    obtain rfl := cu32 hx16
    obtain rfl := cu33 hx17
    obtain rfl := cu34 hx18
    obtain rfl := cu35 hx19
    obtain rfl := cr0_0
    obtain rfl := cr1_0 hx22
    refine hG (any_step ?_); clear hG G; intro A J hJ
    have hle0 := Fz.le.trans hle0 hle134
    have hs265 := hs34.mono hle134
    have hs266 := hP63.mono hle134
    have hs267 := cf0 hx6
    refine s1 hFx 36 (.int .u8 (bOr .u8 (bAndNot .u8 qd7_0 (bShl .u8 1 (q61.tmod 8))) (bShl .u8 (w8 (bAnd .i64 (bShr .i64 u2 x11) 1)) (q61.tmod 8)))) ?_; intro a268 hF269; clear hFx
    refine nl (qnI (hJ _ _ ?_)); clear hJ J
    exact ⟨g87, g122, ud16, ud17, ud18, .slice ao1 zao1.length cap2, .int .i64 q61, .int .i64 (w64 (q61.tdiv 8)), .pointer (some ⟨g87, (w64 (q61.tdiv 8)).toNat * 1, none⟩), .int .u8 qd7_0, .int .i64 q61, .int .i64 (q61.tmod 8), .int .u8 (bShl .u8 1 (q61.tmod 8)), .int .u8 (bAndNot .u8 qd7_0 (bShl .u8 1 (q61.tmod 8))), .int .i64 u2, .int .i64 x11, .int .i64 (bShr .i64 u2 x11), .int .i64 (bAnd .i64 (bShr .i64 u2 x11) 1), .int .u8 (w8 (bAnd .i64 (bShr .i64 u2 x11) 1)), .int .i64 q61, .int .i64 (q61.tmod 8), .int .u8 (bShl .u8 (w8 (bAnd .i64 (bShr .i64 u2 x11) 1)) (q61.tmod 8)), .int .u8 (bOr .u8 (bAndNot .u8 qd7_0 (bShl .u8 1 (q61.tmod 8))) (bShl .u8 (w8 (bAnd .i64 (bShr .i64 u2 x11) 1)) (q61.tmod 8))), ud37, .row b5 [str u0.Name, .int .i64 u0.Start, .int .i64 u0.Size, .bool u0.Back, .bool u0.Signed, .int .i64 u0.Mul, .int .i64 u0.Div, .int .i64 u0.Add, .int .i64 u0.Key] 23, .own (tyInt .u8) 5 ao1 cap2 zao1, hle134, hF269.reg, hMx.perm lpr, cu16, cu17, cu18, kf, kf, kf, kf, kf, kf, kf, kf, kf, kf, kf, kf, kf, kf, kf, kf, kf, kf, (nt hx21), rfl, kf, (nt hx22), (fun _ => hs267), (nt hx21)⟩
   ·
    obtain rfl := oj hi
    have hx20 := hpre 20 (by kernel_rfl)
    have hx19 := hpre 19 (by kernel_rfl)
    have hx18 := hpre 18 (by kernel_rfl)
    have hx17 := hpre 17 (by kernel_rfl)
    have hx16 := hpre 16 (by kernel_rfl)
    have hx15 := hpre 15 (by kernel_rfl)
    have hx14 := hpre 14 (by kernel_rfl)
    have hx13 := hpre 13 (by kernel_rfl)
    have hx12 := hpre 12 (by kernel_rfl)
    have hx11 := hpre 11 (by kernel_rfl)
    have hx10 := hpre 10 (by kernel_rfl)
    have hx9 := hpre 9 (by kernel_rfl)
    have hx8 := hpre 8 (by kernel_rfl)
    have hx7 := hpre 7 (by kernel_rfl)
    have hx6 := hpre 6 (by kernel_rfl)
    have hx5 := hpre 5 (by kernel_rfl)
    have hx4 := hpre 4 (by kernel_rfl)
    have hx3 := hpre 3 (by kernel_rfl)
    have hx2 := hpre 2 (by kernel_rfl)
    have hx1 := hpre 1 (by kernel_rfl)
    have hx0 := hpre 0 (by kernel_rfl)
    have hx21 := hSi
    have hx22 := ngF hcl 22 21 hx21
    obtain rfl := cu16 hx0
    obtain rfl := cu17 hx1
    obtain rfl := cu18 hx2
    obtain rfl := cu19 hx3
    obtain rfl := cu20 hx4
    obtain rfl := cu21 hx5
    obtain rfl := cu22 hx6
    obtain rfl := cu23 hx7
    obtain rfl := cu24 hx8
    obtain rfl := cu25 hx9
    obtain rfl := cu26 hx10
    obtain rfl := cu27 hx11
    obtain rfl := cu28 hx12
    obtain rfl := cu29 hx13
    obtain rfl := cu30 hx14
    obtain rfl := cu31 hx15
    obtain rfl := cu32 hx16
    obtain rfl := cu33 hx17
    obtain rfl := cu34 hx18
    obtain rfl := cu35 hx19
    obtain rfl := cu36 hx20
    obtain rfl := cr0_0
    obtain rfl := cr1_0 hx22
    refine hG (any_step ?_); clear hG G; intro A J hJ
    have hle0 := Fz.le.trans hle0 hle134
    have hs271 := hs34.mono hle134
    have hs272 := hP63.mono hle134
    have hs273 := cf0 hx6
    refine ixo hFx hMx 1 (T := (tyInt .u8)) (xs := zao1) (w64 (q61.tdiv 8)) (by simpa only [List.length_set] using hcd21_0) (k := .i64) (e := 5) (bytes := 1) (nog rfl _) rfl (by kernel_rfl) rfl (by kernel_rfl) (by kernel_rfl) rfl (by kernel_rfl) ?_; intro g274 a276 hg275 hF277; clear hFx
    refine nl (qnI (hJ _ _ ?_)); clear hJ J
    exact ⟨g87, g274, .slice ao1 zao1.length cap2, .int .i64 q61, .int .i64 (w64 (q61.tdiv 8)), .slice ao1 zao1.length cap2, .int .i64 q61, .int .i64 (w64 (q61.tdiv 8)), .pointer (some ⟨g87, (w64 (q61.tdiv 8)).toNat * 1, none⟩), .int .u8 qd7_0, .int .i64 q61, .int .i64 (q61.tmod 8), .int .u8 (bShl .u8 1 (q61.tmod 8)), .int .u8 (bAndNot .u8 qd7_0 (bShl .u8 1 (q61.tmod 8))), .int .i64 u2, .int .i64 x11, .int .i64 (bShr .i64 u2 x11), .int .i64 (bAnd .i64 (bShr .i64 u2 x11) 1), .int .u8 (w8 (bAnd .i64 (bShr .i64 u2 x11) 1)), .int .i64 q61, .int .i64 (q61.tmod 8), .int .u8 (bShl .u8 (w8 (bAnd .i64 (bShr .i64 u2 x11) 1)) (q61.tmod 8)), .int .u8 (bOr .u8 (bAndNot .u8 qd7_0 (bShl .u8 1 (q61.tmod 8))) (bShl .u8 (w8 (bAnd .i64 (bShr .i64 u2 x11) 1)) (q61.tmod 8))), .pointer (some ⟨g274, (w64 (q61.tdiv 8)).toNat * 1, none⟩), .row b5 [str u0.Name, .int .i64 u0.Start, .int .i64 u0.Size, .bool u0.Back, .bool u0.Signed, .int .i64 u0.Mul, .int .i64 u0.Div, .int .i64 u0.Add, .int .i64 u0.Key] 23, .own (tyInt .u8) 5 ao1 cap2 zao1, hle134, hF277.reg, hMx.perm lpr, kf, kf, kf, kf, kf, kf, kf, kf, kf, kf, kf, kf, kf, kf, kf, kf, kf, kf, kf, kf, kf, kf, rfl, kf, (nt hx22), (fun _ => hs273), (fun _ => hg275)⟩
   ·
    obtain rfl := oj hi
    have hx21 := hpre 21 (by kernel_rfl)
    have hx20 := hpre 20 (by kernel_rfl)
    have hx19 := hpre 19 (by kernel_rfl)
    have hx18 := hpre 18 (by kernel_rfl)
    have hx17 := hpre 17 (by kernel_rfl)
    have hx16 := hpre 16 (by kernel_rfl)
    have hx15 := hpre 15 (by kernel_rfl)
    have hx14 := hpre 14 (by kernel_rfl)
    have hx13 := hpre 13 (by kernel_rfl)
    have hx12 := hpre 12 (by kernel_rfl)
    have hx11 := hpre 11 (by kernel_rfl)
    have hx10 := hpre 10 (by kernel_rfl)
    have hx9 := hpre 9 (by kernel_rfl)
    have hx8 := hpre 8 (by kernel_rfl)
    have hx7 := hpre 7 (by kernel_rfl)
    have hx6 := hpre 6 (by kernel_rfl)
    have hx5 := hpre 5 (by kernel_rfl)
    have hx4 := hpre 4 (by kernel_rfl)
    have hx3 := hpre 3 (by kernel_rfl)
    have hx2 := hpre 2 (by kernel_rfl)
    have hx1 := hpre 1 (by kernel_rfl)
    have hx0 := hpre 0 (by kernel_rfl)
    have hx22 := hSi
    obtain rfl := cu16 hx0
    obtain rfl := cu17 hx1
    obtain rfl := cu18 hx2
    obtain rfl := cu19 hx3
    obtain rfl := cu20 hx4
    obtain rfl := cu21 hx5
    obtain rfl := cu22 hx6
    obtain rfl := cu23 hx7
    obtain rfl := cu24 hx8
    obtain rfl := cu25 hx9
    obtain rfl := cu26 hx10
    obtain rfl := cu27 hx11
    obtain rfl := cu28 hx12
    obtain rfl := cu29 hx13
    obtain rfl := cu30 hx14
    obtain rfl := cu31 hx15
    obtain rfl := cu32 hx16
    obtain rfl := cu33 hx17
    obtain rfl := cu34 hx18
    obtain rfl := cu35 hx19
    obtain rfl := cu36 hx20
    obtain rfl := cu37 hx21
    obtain rfl := cr0_0
    obtain rfl := cr1_0 hx22
    refine hG (any_step ?_); clear hG G; intro A J hJ
    have hle0 := Fz.le.trans hle0 hle134
    have hs279 := hs34.mono hle134
    have hs280 := hP63.mono hle134
    have hs281 := cf0 hx6
    have hs282 := cf1 hx21
    refine sox hFx hMx 1 hs282 (T := (tyInt .u8)) (xs := zao1) (w64 (q61.tdiv 8)).toNat (bOr .u8 (bAndNot .u8 qd7_0 (bShl .u8 1 (q61.tmod 8))) (bShl .u8 (w8 (bAnd .i64 (bShr .i64 u2 x11) 1)) (q61.tmod 8))) (u := .int .u8 (bOr .u8 (bAndNot .u8 qd7_0 (bShl .u8 1 (q61.tmod 8))) (bShl .u8 (w8 (bAnd .i64 (bShr .i64 u2 x11) 1)) (q61.tmod 8)))) (nog rfl _) rfl rfl (by kernel_rfl) rfl (by kernel_rfl) rfl (by kernel_rfl) (by first | omega | (simp only [List.length_set] at *; omega)) rfl ?_; intro wd283 hM284; clear hMx
    refine nl (qnI (hJ _ _ ?_)); clear hJ J
    exact ⟨g87, g122, .slice ao1 zao1.length cap2, .int .i64 q61, .int .i64 (w64 (q61.tdiv 8)), .slice ao1 zao1.length cap2, .int .i64 q61, .int .i64 (w64 (q61.tdiv 8)), .pointer (some ⟨g87, (w64 (q61.tdiv 8)).toNat * 1, none⟩), .int .u8 qd7_0, .int .i64 q61, .int .i64 (q61.tmod 8), .int .u8 (bShl .u8 1 (q61.tmod 8)), .int .u8 (bAndNot .u8 qd7_0 (bShl .u8 1 (q61.tmod 8))), .int .i64 u2, .int .i64 x11, .int .i64 (bShr .i64 u2 x11), .int .i64 (bAnd .i64 (bShr .i64 u2 x11) 1), .int .u8 (w8 (bAnd .i64 (bShr .i64 u2 x11) 1)), .int .i64 q61, .int .i64 (q61.tmod 8), .int .u8 (bShl .u8 (w8 (bAnd .i64 (bShr .i64 u2 x11) 1)) (q61.tmod 8)), .int .u8 (bOr .u8 (bAndNot .u8 qd7_0 (bShl .u8 1 (q61.tmod 8))) (bShl .u8 (w8 (bAnd .i64 (bShr .i64 u2 x11) 1)) (q61.tmod 8))), .pointer (some ⟨g122, (w64 (q61.tdiv 8)).toNat * 1, none⟩), .row b5 [str u0.Name, .int .i64 u0.Start, .int .i64 u0.Size, .bool u0.Back, .bool u0.Signed, .int .i64 u0.Mul, .int .i64 u0.Div, .int .i64 u0.Add, .int .i64 u0.Key] 23, .own (tyInt .u8) 5 ao1 cap2 (zao1.set (w64 (q61.tdiv 8)).toNat (bOr .u8 (bAndNot .u8 qd7_0 (bShl .u8 1 (q61.tmod 8))) (bShl .u8 (w8 (bAnd .i64 (bShr .i64 u2 x11) 1)) (q61.tmod 8)))), hle134, hFx.reg, hM284.perm lpr, kf, kf, kf, kf, kf, kf, kf, kf, kf, kf, kf, kf, kf, kf, kf, kf, kf, kf, kf, kf, kf, kf, rfl, nu, kf, (fun _ => hs281), (fun _ => hs282)⟩
  case hE =>
   intro S hS a286 wd287 hI; refine Go.Sy.hid ?_; intro G hG; obtain ⟨g87, g122, ud16, ud17, ud18, ud19, ud20, ud21, ud22, ud23, ud24, ud25, ud26, ud27, ud28, ud29, ud30, ud31, ud32, ud33, ud34, ud35, ud36, ud37, rh0, rh1, hle134, hFx, hMx, cu16, cu17, cu18, cu19, cu20, cu21, cu22, cu23, cu24, cu25, cu26, cu27, cu28, cu29, cu30, cu31, cu32, cu33, cu34, cu35, cu36, cu37, cr0_0, cr1_0, cr1_1, cf0, hI⟩ := hI; have cf1 := hI; clear hI; refine hG ?_; clear hG G
   obtain rfl := cu16 (hS 0 (by decide))
   obtain rfl := cu17 (hS 1 (by decide))
   obtain rfl := cu18 (hS 2 (by decide))
   obtain rfl := cu19 (hS 3 (by decide))
   obtain rfl := cu20 (hS 4 (by decide))
   obtain rfl := cu21 (hS 5 (by decide))
   obtain rfl := cu22 (hS 6 (by decide))
   obtain rfl := cu23 (hS 7 (by decide))
   obtain rfl := cu24 (hS 8 (by decide))
   obtain rfl := cu25 (hS 9 (by decide))
   obtain rfl := cu26 (hS 10 (by decide))
   obtain rfl := cu27 (hS 11 (by decide))
   obtain rfl := cu28 (hS 12 (by decide))
   obtain rfl := cu29 (hS 13 (by decide))
   obtain rfl := cu30 (hS 14 (by decide))
   obtain rfl := cu31 (hS 15 (by decide))
   obtain rfl := cu32 (hS 16 (by decide))
   obtain rfl := cu33 (hS 17 (by decide))
   obtain rfl := cu34 (hS 18 (by decide))
   obtain rfl := cu35 (hS 19 (by decide))
   obtain rfl := cu36 (hS 20 (by decide))
   obtain rfl := cu37 (hS 21 (by decide))
   obtain rfl := cr0_0
   obtain rfl := cr1_1 (hS 22 (by decide))
   have hle0 := Fz.le.trans hle0 hle134
   have hs288 := hs34.mono hle134
   have hs289 := hP63.mono hle134
   have hs290 := cf0 (hS 6 (by decide))
   have hs291 := cf1 (hS 21 (by decide))
   have hl292 : (zao1.set (w64 (q61.tdiv 8)).toNat (bOr .u8 (bAndNot .u8 qd7_0 (bShl .u8 1 (q61.tmod 8))) (bShl .u8 (w8 (bAnd .i64 (bShr .i64 u2 x11) 1)) (q61.tmod 8)))).length = zao1.length := by simp; try omega
   have hF293 : Fr 39 [] [⟨1, [], .slice ao1 (zao1.set (w64 (q61.tdiv 8)).toNat (bOr .u8 (bAndNot .u8 qd7_0 (bShl .u8 1 (q61.tmod 8))) (bShl .u8 (w8 (bAnd .i64 (bShr .i64 u2 x11) 1)) (q61.tmod 8)))).length cap2⟩, ⟨2, [], .int .i64 u2⟩, ⟨6, [], .int .i64 x11⟩, ⟨7, [], .int .i64 q61⟩, ⟨9, [], .slice ao19 (placesS u0).length cap20⟩, ⟨10, [], .int .i64 ((placesS u0).length : Int)⟩, ⟨11, [], .int .i64 x11⟩, ⟨16, [], .slice ao1 (zao1.set (w64 (q61.tdiv 8)).toNat (bOr .u8 (bAndNot .u8 qd7_0 (bShl .u8 1 (q61.tmod 8))) (bShl .u8 (w8 (bAnd .i64 (bShr .i64 u2 x11) 1)) (q61.tmod 8)))).length cap2⟩, ⟨17, [], .int .i64 q61⟩, ⟨18, [], .int .i64 (w64 (q61.tdiv 8))⟩, ⟨19, [], .slice ao1 (zao1.set (w64 (q61.tdiv 8)).toNat (bOr .u8 (bAndNot .u8 qd7_0 (bShl .u8 1 (q61.tmod 8))) (bShl .u8 (w8 (bAnd .i64 (bShr .i64 u2 x11) 1)) (q61.tmod 8)))).length cap2⟩, ⟨20, [], .int .i64 q61⟩, ⟨21, [], .int .i64 (w64 (q61.tdiv 8))⟩, ⟨22, [], .pointer (some ⟨g87, (w64 (q61.tdiv 8)).toNat * 1, none⟩)⟩, ⟨23, [], .int .u8 qd7_0⟩, ⟨24, [], .int .i64 q61⟩, ⟨25, [], .int .i64 (q61.tmod 8)⟩, ⟨26, [], .int .u8 (bShl .u8 1 (q61.tmod 8))⟩, ⟨27, [], .int .u8 (bAndNot .u8 qd7_0 (bShl .u8 1 (q61.tmod 8)))⟩, ⟨28, [], .int .i64 u2⟩, ⟨29, [], .int .i64 x11⟩, ⟨30, [], .int .i64 (bShr .i64 u2 x11)⟩, ⟨31, [], .int .i64 (bAnd .i64 (bShr .i64 u2 x11) 1)⟩, ⟨32, [], .int .u8 (w8 (bAnd .i64 (bShr .i64 u2 x11) 1))⟩, ⟨33, [], .int .i64 q61⟩, ⟨34, [], .int .i64 (q61.tmod 8)⟩, ⟨35, [], .int .u8 (bShl .u8 (w8 (bAnd .i64 (bShr .i64 u2 x11) 1)) (q61.tmod 8))⟩, ⟨36, [], .int .u8 (bOr .u8 (bAndNot .u8 qd7_0 (bShl .u8 1 (q61.tmod 8))) (bShl .u8 (w8 (bAnd .i64 (bShr .i64 u2 x11) 1)) (q61.tmod 8)))⟩, ⟨37, [], .pointer (some ⟨g122, (w64 (q61.tdiv 8)).toNat * 1, none⟩)⟩] a286 := by rw [hl292]; exact hFx.reg
   clear hFx
   refine ibn ?_
   refine thn ?_
   have hF294 : Fr 39 [] [⟨1, [], .slice ao1 (zao1.set (w64 (q61.tdiv 8)).toNat (bOr .u8 (bAndNot .u8 qd7_0 (bShl .u8 1 (q61.tmod 8))) (bShl .u8 (w8 (bAnd .i64 (bShr .i64 u2 x11) 1)) (q61.tmod 8)))).length cap2⟩, ⟨2, [], .int .i64 u2⟩, ⟨9, [], .slice ao19 (placesS u0).length cap20⟩, ⟨10, [], .int .i64 ((placesS u0).length : Int)⟩, ⟨11, [], .int .i64 x11⟩] a286 := hF293.reg; clear hF293
   refine rgH ?_; intro hQ295Q hQ295
   refine s1 hF294 38 (.int .i64 (w64 (x11 + 1))) ?_; intro a296 hF297; clear hF294
   refine s1 hF297 11 (.int .i64 (w64 (x11 + 1))) ?_; intro a298 hF299; clear hF297
   refine nlH (hQ295 _ _ ?_); clear hQ295 hQ295Q
   refine rd ?_
   exact ⟨⟨w64 (x11 + 1), zao1.set (w64 (q61.tdiv 8)).toNat (bOr .u8 (bAndNot .u8 qd7_0 (bShl .u8 1 (q61.tmod 8))) (bShl .u8 (w8 (bAnd .i64 (bShr .i64 u2 x11) 1)) (q61.tmod 8)))⟩, hp133.1, hp133.2, (hF299.reg).anyβ _ (by kernel_rfl), hMx.keep (List.Sublist.cons_cons _ (List.Sublist.cons_cons _ (List.Sublist.refl _)))⟩
 ·
  have hp300 := hp47.2 hb51; clear hp47
  refine wp_exit ?_
  refine thx ?_
  refine thx ?_
  refine ibx ?_
  have hc301 := hp300.1; have hp302 := hp300.2; clear hp300
  refine rN (fn := Tryd.f47) (v := .tuple #[]) hF50 (re0 hF50 (fn := Tryd.f47) rfl) ?_
  exact ⟨zao1, Z31, rfl, hp302, hle0, hc301, hM46.keep (List.Sublist.cons _ (List.Sublist.cons_cons _ (List.Sublist.refl _)))⟩

end Go.Proofs.YtdndfbamhnchfaaDoor
