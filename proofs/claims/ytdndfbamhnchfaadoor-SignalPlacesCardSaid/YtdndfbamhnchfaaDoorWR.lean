/- The walks, made by program: each call does what its pure predicate says. -/
import Derived.Test.YtdndfbamhnchfaaDoorPR
import Derived.Test.YtdndfbamhnchfaaDoorWQ
set_option linter.unusedVariables false
set_option linter.unusedSimpArgs false
namespace Go.Proofs.YtdndfbamhnchfaaDoor
open Go.Sy Go.RowKit
theorem risname_fun (u0 : List UInt8)  (Z : Fz) (w : World)  (hZ : Z.on w) : Calls Tryd.prog 21 #[str u0] w fun e w' => e = .returned (.bool (nameS u0)) ∧ Below w.heap.size w w' :=
  (risname_walk u0  Z w  hZ (risname_ok u0)).mono fun _ _ ⟨r, he, hk, hb⟩ => ⟨by subst hk; exact he, hb⟩

set_option maxRecDepth 100000 in
set_option maxHeartbeats 0 in
theorem rcheck_walk (u0 : Signal) (u1 : Int)  (Z : Fz) (w : World)  (hZ : Z.on w) {K : Int → Prop} (hp : rcheck_vc u0 u1 K) : Calls Tryd.prog 8 #[.agg #[str u0.Name, .int .i64 u0.Start, .int .i64 u0.Size, .bool u0.Back, .bool u0.Signed, .int .i64 u0.Mul, .int .i64 u0.Div, .int .i64 u0.Add, .int .i64 u0.Key], .int .i64 u1] w fun e w' => ∃ r : Int, e = .returned (.int .i64 r) ∧ K r ∧ Below w.heap.size w w' := by
 refine enter0 Tryd.func8 rfl rfl (by kernel_rfl) ?_; intro a0 hF0; have hM0 := Mem.start w Z hZ; have hle0 := Fz.le.refl Z
 refine sqH ?_; intro hQ1Q hQ1
 refine sn hF0 hM0 (fun b => .pointer (some ⟨b, 0, none⟩)) [str u0.Name, .int .i64 u0.Start, .int .i64 u0.Size, .bool u0.Back, .bool u0.Signed, .int .i64 u0.Mul, .int .i64 u0.Div, .int .i64 u0.Add, .int .i64 u0.Key] 23 (nog rfl _) rfl (by kernel_rfl) (by kernel_rfl) ?_; intro b2 a3 wd5 hF4 hM6; clear hF0 hM0
 refine s1 hF4 4 (.int .i64 0) ?_; intro a7 hF8; clear hF4
 refine nlH (hQ1 _ _ ?_); clear hQ1 hQ1Q
 refine wp_seq ?_
 refine sqH ?_; intro hQ9Q hQ9
 refine s1 hF8 8 (.pointer (some ⟨b2, 0, none⟩)) ?_; intro a10 hF11; clear hF8
 refine l1 hF11 hM6 9 0 0 (str u0.Name) rfl rfl ?_; intro a12 hF13; clear hF11
 refine fcl hF13 hM6 (.bool (nameS u0.Name)) 21 #[str u0.Name] (nog rfl _) rfl (by kernel_rfl) (fun _ => by kernel_rfl) (risname_fun u0.Name _ _ hM6.fz) ?_; intro a14 wd16 hF15 hM17; clear hF13 hM6
 refine s1 hF15 11 (.bool (!(nameS u0.Name))) ?_; intro a18 hF19; clear hF15
 refine nlH (hQ9 _ _ ?_); clear hQ9 hQ9Q
 refine cd hF19 (t := !(nameS u0.Name)) (by kernel_rfl) (fun hb20 => ?_) (fun hb20 => ?_)
 · -- yes
  have hp21 := hp.1 hb20; clear hp
  refine sqH ?_; intro hQ22Q hQ22
  refine s1 hF19 4 (.int .i64 1) ?_; intro a23 hF24; clear hF19
  refine nlH (hQ22 _ _ ?_); clear hQ22 hQ22Q
  refine wp_ret ?_
  refine thr ?_
  refine rt (fn := Tryd.f8) (v := .int .i64 1) hF24 (re1 hF24 (fn := Tryd.f8) rfl (by kernel_rfl)) ?_
  exact ⟨1, rfl, hp21, hM17.below⟩
 · -- no
  have hp25 := hp.2 hb20; clear hp
  refine wp_skip ?_
  refine thn ?_
  refine sqH ?_; intro hQ26Q hQ26
  refine s1 hF19 5 (.func (.func 37) #[] #[]) ?_; intro a27 hF28; clear hF19
  refine nlH (hQ26 _ _ ?_); clear hQ26 hQ26Q
  refine wp_seq ?_
  refine sqH ?_; intro hQ29Q hQ29
  refine s1 hF28 12 (.func (.func 37) #[] #[]) ?_; intro a30 hF31; clear hF28
  refine s1 hF31 13 (.int .i64 u1) ?_; intro a32 hF33; clear hF31
  refine fcl hF33 hM17 (.bool (rin u1 0 64)) 37 #[.int .i64 u1, .int .i64 0, .int .i64 64] (nog rfl _) rfl (by kernel_rfl) (fun _ => by kernel_rfl) (rin_fun u1 0 64 _ _ hM17.fz) ?_; intro a34 wd36 hF35 hM37; clear hF33 hM17
  refine s1 hF35 15 (.bool (!(rin u1 0 64))) ?_; intro a38 hF39; clear hF35
  refine s1 hF39 16 (.bool (!(rin u1 0 64))) ?_; intro a40 hF41; clear hF39
  have hF42 := hF41.atom ((!(rin u1 0 64)) == false) (by kernel_rfl); clear hF41
  refine gp hF42 17 0 [] (!(rin u1 0 64)) (.func (.func 37) #[] #[]) rfl rfl ?_; intro a43 hF44; clear hF42
  refine gp hF44 18 0 [] (!(rin u1 0 64)) (.pointer (some ⟨b2, 2, none⟩)) rfl rfl ?_; intro a45 hF46; clear hF44
  refine gd hF46 (.int .i64 u0.Size) (m := 0) (cj := []) (bj := !(rin u1 0 64)) rfl rfl (by kernel_rfl) rfl (by kernel_rfl) (by kernel_rfl) (by kernel_rfl) (fun hg => ld hF46 hM37 0 (g := [0]) (b := b2) (off := 2) (cs := [str u0.Name, .int .i64 u0.Start, .int .i64 u0.Size, .bool u0.Back, .bool u0.Signed, .int .i64 u0.Mul, .int .i64 u0.Div, .int .i64 u0.Add, .int .i64 u0.Key]) (ty := 23) rfl (by kernel_rfl) (by kernel_rfl) (by kernel_rfl) (by kernel_rfl) hg) ?_; intro a47 hF48; clear hF46
  refine gcl hF48 hM37 (.bool (rin u0.Size 1 40)) 37 #[.int .i64 u0.Size, .int .i64 1, .int .i64 40] (m := 0) (cj := []) (bj := !(rin u1 0 64)) rfl rfl (by kernel_rfl) rfl (by kernel_rfl) (by kernel_rfl) (by kernel_rfl) (fun _ => by kernel_rfl) (fun hg => rin_fun u0.Size 1 40 _ _ hM37.fz) ?_; intro a49 wd51 hF50 hM52; clear hF48 hM37
  refine gp hF50 21 0 [] (!(rin u1 0 64)) (.bool (!(rin u0.Size 1 40))) rfl rfl ?_; intro a53 hF54; clear hF50
  refine st hF54 (.bool ((!(rin u1 0 64)) || (!(rin u0.Size 1 40)))) (nog rfl _) rfl (by kernel_rfl) (pk_or hF54 (g := []) (m := 0) (b := !(rin u1 0 64)) (v := !(rin u0.Size 1 40)) rfl (by kernel_rfl) (by kernel_rfl) (by kernel_rfl) rfl) ?_; intro a55 hF56; clear hF54
  refine s1 hF56 23 (.bool ((!(rin u1 0 64)) || (!(rin u0.Size 1 40)))) ?_; intro a57 hF58; clear hF56
  have hF59 := hF58.atom (((!(rin u1 0 64)) || (!(rin u0.Size 1 40))) == false) (by kernel_rfl); clear hF58
  refine gp hF59 24 1 [] ((!(rin u1 0 64)) || (!(rin u0.Size 1 40))) (.pointer (some ⟨b2, 5, none⟩)) rfl rfl ?_; intro a60 hF61; clear hF59
  refine gd hF61 (.int .i64 u0.Mul) (m := 1) (cj := []) (bj := (!(rin u1 0 64)) || (!(rin u0.Size 1 40))) rfl rfl (by kernel_rfl) rfl (by kernel_rfl) (by kernel_rfl) (by kernel_rfl) (fun hg => ld hF61 hM52 0 (g := [1]) (b := b2) (off := 5) (cs := [str u0.Name, .int .i64 u0.Start, .int .i64 u0.Size, .bool u0.Back, .bool u0.Signed, .int .i64 u0.Mul, .int .i64 u0.Div, .int .i64 u0.Add, .int .i64 u0.Key]) (ty := 23) rfl (by kernel_rfl) (by kernel_rfl) (by kernel_rfl) (by kernel_rfl) hg) ?_; intro a62 hF63; clear hF61
  refine gp hF63 26 1 [] ((!(rin u1 0 64)) || (!(rin u0.Size 1 40))) (.bool (u0.Mul == 0)) rfl rfl ?_; intro a64 hF65; clear hF63
  refine st hF65 (.bool (((!(rin u1 0 64)) || (!(rin u0.Size 1 40))) || (u0.Mul == 0))) (nog rfl _) rfl (by kernel_rfl) (pk_or hF65 (g := []) (m := 1) (b := (!(rin u1 0 64)) || (!(rin u0.Size 1 40))) (v := u0.Mul == 0) rfl (by kernel_rfl) (by kernel_rfl) (by kernel_rfl) rfl) ?_; intro a66 hF67; clear hF65
  refine s1 hF67 28 (.bool (((!(rin u1 0 64)) || (!(rin u0.Size 1 40))) || (u0.Mul == 0))) ?_; intro a68 hF69; clear hF67
  have hF70 := hF69.atom ((((!(rin u1 0 64)) || (!(rin u0.Size 1 40))) || (u0.Mul == 0)) == false) (by kernel_rfl); clear hF69
  refine gp hF70 29 2 [] (((!(rin u1 0 64)) || (!(rin u0.Size 1 40))) || (u0.Mul == 0)) (.func (.func 37) #[] #[]) rfl rfl ?_; intro a71 hF72; clear hF70
  refine gp hF72 30 2 [] (((!(rin u1 0 64)) || (!(rin u0.Size 1 40))) || (u0.Mul == 0)) (.pointer (some ⟨b2, 5, none⟩)) rfl rfl ?_; intro a73 hF74; clear hF72
  refine gd hF74 (.int .i64 u0.Mul) (m := 2) (cj := []) (bj := ((!(rin u1 0 64)) || (!(rin u0.Size 1 40))) || (u0.Mul == 0)) rfl rfl (by kernel_rfl) rfl (by kernel_rfl) (by kernel_rfl) (by kernel_rfl) (fun hg => ld hF74 hM52 0 (g := [2]) (b := b2) (off := 5) (cs := [str u0.Name, .int .i64 u0.Start, .int .i64 u0.Size, .bool u0.Back, .bool u0.Signed, .int .i64 u0.Mul, .int .i64 u0.Div, .int .i64 u0.Add, .int .i64 u0.Key]) (ty := 23) rfl (by kernel_rfl) (by kernel_rfl) (by kernel_rfl) (by kernel_rfl) hg) ?_; intro a75 hF76; clear hF74
  refine gcl hF76 hM52 (.bool (rin u0.Mul (-1000000) 1000000)) 37 #[.int .i64 u0.Mul, .int .i64 (-1000000), .int .i64 1000000] (m := 2) (cj := []) (bj := ((!(rin u1 0 64)) || (!(rin u0.Size 1 40))) || (u0.Mul == 0)) rfl rfl (by kernel_rfl) rfl (by kernel_rfl) (by kernel_rfl) (by kernel_rfl) (fun _ => by kernel_rfl) (fun hg => rin_fun u0.Mul (-1000000) 1000000 _ _ hM52.fz) ?_; intro a77 wd79 hF78 hM80; clear hF76 hM52
  refine gp hF78 33 2 [] (((!(rin u1 0 64)) || (!(rin u0.Size 1 40))) || (u0.Mul == 0)) (.bool (!(rin u0.Mul (-1000000) 1000000))) rfl rfl ?_; intro a81 hF82; clear hF78
  refine st hF82 (.bool ((((!(rin u1 0 64)) || (!(rin u0.Size 1 40))) || (u0.Mul == 0)) || (!(rin u0.Mul (-1000000) 1000000)))) (nog rfl _) rfl (by kernel_rfl) (pk_or hF82 (g := []) (m := 2) (b := ((!(rin u1 0 64)) || (!(rin u0.Size 1 40))) || (u0.Mul == 0)) (v := !(rin u0.Mul (-1000000) 1000000)) rfl (by kernel_rfl) (by kernel_rfl) (by kernel_rfl) rfl) ?_; intro a83 hF84; clear hF82
  refine s1 hF84 35 (.bool ((((!(rin u1 0 64)) || (!(rin u0.Size 1 40))) || (u0.Mul == 0)) || (!(rin u0.Mul (-1000000) 1000000)))) ?_; intro a85 hF86; clear hF84
  have hF87 := hF86.atom (((((!(rin u1 0 64)) || (!(rin u0.Size 1 40))) || (u0.Mul == 0)) || (!(rin u0.Mul (-1000000) 1000000))) == false) (by kernel_rfl); clear hF86
  refine gp hF87 36 3 [] ((((!(rin u1 0 64)) || (!(rin u0.Size 1 40))) || (u0.Mul == 0)) || (!(rin u0.Mul (-1000000) 1000000))) (.func (.func 37) #[] #[]) rfl rfl ?_; intro a88 hF89; clear hF87
  refine gp hF89 37 3 [] ((((!(rin u1 0 64)) || (!(rin u0.Size 1 40))) || (u0.Mul == 0)) || (!(rin u0.Mul (-1000000) 1000000))) (.pointer (some ⟨b2, 6, none⟩)) rfl rfl ?_; intro a90 hF91; clear hF89
  refine gd hF91 (.int .i64 u0.Div) (m := 3) (cj := []) (bj := (((!(rin u1 0 64)) || (!(rin u0.Size 1 40))) || (u0.Mul == 0)) || (!(rin u0.Mul (-1000000) 1000000))) rfl rfl (by kernel_rfl) rfl (by kernel_rfl) (by kernel_rfl) (by kernel_rfl) (fun hg => ld hF91 hM80 0 (g := [3]) (b := b2) (off := 6) (cs := [str u0.Name, .int .i64 u0.Start, .int .i64 u0.Size, .bool u0.Back, .bool u0.Signed, .int .i64 u0.Mul, .int .i64 u0.Div, .int .i64 u0.Add, .int .i64 u0.Key]) (ty := 23) rfl (by kernel_rfl) (by kernel_rfl) (by kernel_rfl) (by kernel_rfl) hg) ?_; intro a92 hF93; clear hF91
  refine gcl hF93 hM80 (.bool (rin u0.Div 1 1000000)) 37 #[.int .i64 u0.Div, .int .i64 1, .int .i64 1000000] (m := 3) (cj := []) (bj := (((!(rin u1 0 64)) || (!(rin u0.Size 1 40))) || (u0.Mul == 0)) || (!(rin u0.Mul (-1000000) 1000000))) rfl rfl (by kernel_rfl) rfl (by kernel_rfl) (by kernel_rfl) (by kernel_rfl) (fun _ => by kernel_rfl) (fun hg => rin_fun u0.Div 1 1000000 _ _ hM80.fz) ?_; intro a94 wd96 hF95 hM97; clear hF93 hM80
  refine gp hF95 40 3 [] ((((!(rin u1 0 64)) || (!(rin u0.Size 1 40))) || (u0.Mul == 0)) || (!(rin u0.Mul (-1000000) 1000000))) (.bool (!(rin u0.Div 1 1000000))) rfl rfl ?_; intro a98 hF99; clear hF95
  refine st hF99 (.bool (((((!(rin u1 0 64)) || (!(rin u0.Size 1 40))) || (u0.Mul == 0)) || (!(rin u0.Mul (-1000000) 1000000))) || (!(rin u0.Div 1 1000000)))) (nog rfl _) rfl (by kernel_rfl) (pk_or hF99 (g := []) (m := 3) (b := (((!(rin u1 0 64)) || (!(rin u0.Size 1 40))) || (u0.Mul == 0)) || (!(rin u0.Mul (-1000000) 1000000))) (v := !(rin u0.Div 1 1000000)) rfl (by kernel_rfl) (by kernel_rfl) (by kernel_rfl) rfl) ?_; intro a100 hF101; clear hF99
  refine s1 hF101 42 (.bool (((((!(rin u1 0 64)) || (!(rin u0.Size 1 40))) || (u0.Mul == 0)) || (!(rin u0.Mul (-1000000) 1000000))) || (!(rin u0.Div 1 1000000)))) ?_; intro a102 hF103; clear hF101
  have hF104 := hF103.atom ((((((!(rin u1 0 64)) || (!(rin u0.Size 1 40))) || (u0.Mul == 0)) || (!(rin u0.Mul (-1000000) 1000000))) || (!(rin u0.Div 1 1000000))) == false) (by kernel_rfl); clear hF103
  refine gp hF104 43 4 [] (((((!(rin u1 0 64)) || (!(rin u0.Size 1 40))) || (u0.Mul == 0)) || (!(rin u0.Mul (-1000000) 1000000))) || (!(rin u0.Div 1 1000000))) (.func (.func 37) #[] #[]) rfl rfl ?_; intro a105 hF106; clear hF104
  refine gp hF106 44 4 [] (((((!(rin u1 0 64)) || (!(rin u0.Size 1 40))) || (u0.Mul == 0)) || (!(rin u0.Mul (-1000000) 1000000))) || (!(rin u0.Div 1 1000000))) (.pointer (some ⟨b2, 7, none⟩)) rfl rfl ?_; intro a107 hF108; clear hF106
  refine gd hF108 (.int .i64 u0.Add) (m := 4) (cj := []) (bj := ((((!(rin u1 0 64)) || (!(rin u0.Size 1 40))) || (u0.Mul == 0)) || (!(rin u0.Mul (-1000000) 1000000))) || (!(rin u0.Div 1 1000000))) rfl rfl (by kernel_rfl) rfl (by kernel_rfl) (by kernel_rfl) (by kernel_rfl) (fun hg => ld hF108 hM97 0 (g := [4]) (b := b2) (off := 7) (cs := [str u0.Name, .int .i64 u0.Start, .int .i64 u0.Size, .bool u0.Back, .bool u0.Signed, .int .i64 u0.Mul, .int .i64 u0.Div, .int .i64 u0.Add, .int .i64 u0.Key]) (ty := 23) rfl (by kernel_rfl) (by kernel_rfl) (by kernel_rfl) (by kernel_rfl) hg) ?_; intro a109 hF110; clear hF108
  refine gcl hF110 hM97 (.bool (rin u0.Add (-1000000) 1000000)) 37 #[.int .i64 u0.Add, .int .i64 (-1000000), .int .i64 1000000] (m := 4) (cj := []) (bj := ((((!(rin u1 0 64)) || (!(rin u0.Size 1 40))) || (u0.Mul == 0)) || (!(rin u0.Mul (-1000000) 1000000))) || (!(rin u0.Div 1 1000000))) rfl rfl (by kernel_rfl) rfl (by kernel_rfl) (by kernel_rfl) (by kernel_rfl) (fun _ => by kernel_rfl) (fun hg => rin_fun u0.Add (-1000000) 1000000 _ _ hM97.fz) ?_; intro a111 wd113 hF112 hM114; clear hF110 hM97
  refine gp hF112 47 4 [] (((((!(rin u1 0 64)) || (!(rin u0.Size 1 40))) || (u0.Mul == 0)) || (!(rin u0.Mul (-1000000) 1000000))) || (!(rin u0.Div 1 1000000))) (.bool (!(rin u0.Add (-1000000) 1000000))) rfl rfl ?_; intro a115 hF116; clear hF112
  refine st hF116 (.bool ((((((!(rin u1 0 64)) || (!(rin u0.Size 1 40))) || (u0.Mul == 0)) || (!(rin u0.Mul (-1000000) 1000000))) || (!(rin u0.Div 1 1000000))) || (!(rin u0.Add (-1000000) 1000000)))) (nog rfl _) rfl (by kernel_rfl) (pk_or hF116 (g := []) (m := 4) (b := ((((!(rin u1 0 64)) || (!(rin u0.Size 1 40))) || (u0.Mul == 0)) || (!(rin u0.Mul (-1000000) 1000000))) || (!(rin u0.Div 1 1000000))) (v := !(rin u0.Add (-1000000) 1000000)) rfl (by kernel_rfl) (by kernel_rfl) (by kernel_rfl) rfl) ?_; intro a117 hF118; clear hF116
  refine s1 hF118 49 (.bool ((((((!(rin u1 0 64)) || (!(rin u0.Size 1 40))) || (u0.Mul == 0)) || (!(rin u0.Mul (-1000000) 1000000))) || (!(rin u0.Div 1 1000000))) || (!(rin u0.Add (-1000000) 1000000)))) ?_; intro a119 hF120; clear hF118
  have hF121 := hF120.atom (((((((!(rin u1 0 64)) || (!(rin u0.Size 1 40))) || (u0.Mul == 0)) || (!(rin u0.Mul (-1000000) 1000000))) || (!(rin u0.Div 1 1000000))) || (!(rin u0.Add (-1000000) 1000000))) == false) (by kernel_rfl); clear hF120
  refine gp hF121 50 5 [] ((((((!(rin u1 0 64)) || (!(rin u0.Size 1 40))) || (u0.Mul == 0)) || (!(rin u0.Mul (-1000000) 1000000))) || (!(rin u0.Div 1 1000000))) || (!(rin u0.Add (-1000000) 1000000))) (.func (.func 37) #[] #[]) rfl rfl ?_; intro a122 hF123; clear hF121
  refine gp hF123 51 5 [] ((((((!(rin u1 0 64)) || (!(rin u0.Size 1 40))) || (u0.Mul == 0)) || (!(rin u0.Mul (-1000000) 1000000))) || (!(rin u0.Div 1 1000000))) || (!(rin u0.Add (-1000000) 1000000))) (.pointer (some ⟨b2, 8, none⟩)) rfl rfl ?_; intro a124 hF125; clear hF123
  refine gd hF125 (.int .i64 u0.Key) (m := 5) (cj := []) (bj := (((((!(rin u1 0 64)) || (!(rin u0.Size 1 40))) || (u0.Mul == 0)) || (!(rin u0.Mul (-1000000) 1000000))) || (!(rin u0.Div 1 1000000))) || (!(rin u0.Add (-1000000) 1000000))) rfl rfl (by kernel_rfl) rfl (by kernel_rfl) (by kernel_rfl) (by kernel_rfl) (fun hg => ld hF125 hM114 0 (g := [5]) (b := b2) (off := 8) (cs := [str u0.Name, .int .i64 u0.Start, .int .i64 u0.Size, .bool u0.Back, .bool u0.Signed, .int .i64 u0.Mul, .int .i64 u0.Div, .int .i64 u0.Add, .int .i64 u0.Key]) (ty := 23) rfl (by kernel_rfl) (by kernel_rfl) (by kernel_rfl) (by kernel_rfl) hg) ?_; intro a126 hF127; clear hF125
  refine gcl hF127 hM114 (.bool (rin u0.Key (-1) 255)) 37 #[.int .i64 u0.Key, .int .i64 (-1), .int .i64 255] (m := 5) (cj := []) (bj := (((((!(rin u1 0 64)) || (!(rin u0.Size 1 40))) || (u0.Mul == 0)) || (!(rin u0.Mul (-1000000) 1000000))) || (!(rin u0.Div 1 1000000))) || (!(rin u0.Add (-1000000) 1000000))) rfl rfl (by kernel_rfl) rfl (by kernel_rfl) (by kernel_rfl) (by kernel_rfl) (fun _ => by kernel_rfl) (fun hg => rin_fun u0.Key (-1) 255 _ _ hM114.fz) ?_; intro a128 wd130 hF129 hM131; clear hF127 hM114
  refine gp hF129 54 5 [] ((((((!(rin u1 0 64)) || (!(rin u0.Size 1 40))) || (u0.Mul == 0)) || (!(rin u0.Mul (-1000000) 1000000))) || (!(rin u0.Div 1 1000000))) || (!(rin u0.Add (-1000000) 1000000))) (.bool (!(rin u0.Key (-1) 255))) rfl rfl ?_; intro a132 hF133; clear hF129
  refine st hF133 (.bool (((((((!(rin u1 0 64)) || (!(rin u0.Size 1 40))) || (u0.Mul == 0)) || (!(rin u0.Mul (-1000000) 1000000))) || (!(rin u0.Div 1 1000000))) || (!(rin u0.Add (-1000000) 1000000))) || (!(rin u0.Key (-1) 255)))) (nog rfl _) rfl (by kernel_rfl) (pk_or hF133 (g := []) (m := 5) (b := (((((!(rin u1 0 64)) || (!(rin u0.Size 1 40))) || (u0.Mul == 0)) || (!(rin u0.Mul (-1000000) 1000000))) || (!(rin u0.Div 1 1000000))) || (!(rin u0.Add (-1000000) 1000000))) (v := !(rin u0.Key (-1) 255)) rfl (by kernel_rfl) (by kernel_rfl) (by kernel_rfl) rfl) ?_; intro a134 hF135; clear hF133
  refine nlH (hQ29 _ _ ?_); clear hQ29 hQ29Q
  refine cd hF135 (t := ((((((!(rin u1 0 64)) || (!(rin u0.Size 1 40))) || (u0.Mul == 0)) || (!(rin u0.Mul (-1000000) 1000000))) || (!(rin u0.Div 1 1000000))) || (!(rin u0.Add (-1000000) 1000000))) || (!(rin u0.Key (-1) 255))) (by kernel_rfl) (fun hb136 => ?_) (fun hb136 => ?_)
  · -- yes
   have hp137 := hp25.1 hb136; clear hp25
   have hF138 : Fr 76 [] [] a134 := hF135.region (by kernel_rfl) (by kernel_rfl); clear hF135
   refine sqH ?_; intro hQ139Q hQ139
   refine s1 hF138 4 (.int .i64 3) ?_; intro a140 hF141; clear hF138
   refine nlH (hQ139 _ _ ?_); clear hQ139 hQ139Q
   refine wp_ret ?_
   refine thr ?_
   refine rt (fn := Tryd.f8) (v := .int .i64 3) hF141 (re1 hF141 (fn := Tryd.f8) rfl (by kernel_rfl)) ?_
   exact ⟨3, rfl, hp137, hM131.below⟩
  · -- no
   have hp142 := hp25.2 hb136; clear hp25
   refine wp_skip ?_
   refine thn ?_
   refine wp_seq ?_
   have hF143 : Fr 76 [] [⟨1, [], .int .i64 u1⟩, ⟨2, [], .pointer (some ⟨b2, 0, none⟩)⟩, ⟨5, [], .func (.func 37) #[] #[]⟩] a134 := hF135.region (by kernel_rfl) (by kernel_rfl); clear hF135
   refine sqH ?_; intro hQ144Q hQ144
   refine s1 hF143 56 (.func (.func 37) #[] #[]) ?_; intro a145 hF146; clear hF143
   refine s1 hF146 57 (.pointer (some ⟨b2, 1, none⟩)) ?_; intro a147 hF148; clear hF146
   refine l1 hF148 hM131 58 0 1 (.int .i64 u0.Start) rfl rfl ?_; intro a149 hF150; clear hF148
   refine s1 hF150 59 (.int .i64 u1) ?_; intro a151 hF152; clear hF150
   refine s1 hF152 60 (.int .i64 (w64 (8 * u1))) ?_; intro a153 hF154; clear hF152
   refine s1 hF154 61 (.int .i64 (w64 ((w64 (8 * u1)) - 1))) ?_; intro a155 hF156; clear hF154
   refine fcl hF156 hM131 (.bool (rin u0.Start 0 (w64 ((w64 (8 * u1)) - 1)))) 37 #[.int .i64 u0.Start, .int .i64 0, .int .i64 (w64 ((w64 (8 * u1)) - 1))] (nog rfl _) rfl (by kernel_rfl) (fun _ => by kernel_rfl) (rin_fun u0.Start 0 (w64 ((w64 (8 * u1)) - 1)) _ _ hM131.fz) ?_; intro a157 wd159 hF158 hM160; clear hF156 hM131
   refine s1 hF158 63 (.bool (!(rin u0.Start 0 (w64 ((w64 (8 * u1)) - 1))))) ?_; intro a161 hF162; clear hF158
   refine nlH (hQ144 _ _ ?_); clear hQ144 hQ144Q
   refine cd hF162 (t := !(rin u0.Start 0 (w64 ((w64 (8 * u1)) - 1)))) (by kernel_rfl) (fun hb163 => ?_) (fun hb163 => ?_)
   · -- yes
    have hp164 := hp142.1 hb163; clear hp142
    refine sqH ?_; intro hQ165Q hQ165
    refine s1 hF162 4 (.int .i64 7) ?_; intro a166 hF167; clear hF162
    refine nlH (hQ165 _ _ ?_); clear hQ165 hQ165Q
    refine wp_ret ?_
    refine thr ?_
    refine rt (fn := Tryd.f8) (v := .int .i64 7) hF167 (re1 hF167 (fn := Tryd.f8) rfl (by kernel_rfl)) ?_
    exact ⟨7, rfl, hp164, hM160.below⟩
   · -- no
    have hp168 := hp142.2 hb163; clear hp142
    refine wp_skip ?_
    refine thn ?_
    refine wp_seq ?_
    refine sqH ?_; intro hQ169Q hQ169
    refine l2 hF162 hM160 64 0 0 9 [str u0.Name, .int .i64 u0.Start, .int .i64 u0.Size, .bool u0.Back, .bool u0.Signed, .int .i64 u0.Mul, .int .i64 u0.Div, .int .i64 u0.Add, .int .i64 u0.Key] rfl rfl ?_; intro a170 hF171; clear hF162
    have hc172 := hp168.1; have hp173 := hp168.2; clear hp168
    refine cl hF171 25 #[.agg #[str u0.Name, .int .i64 u0.Start, .int .i64 u0.Size, .bool u0.Back, .bool u0.Signed, .int .i64 u0.Mul, .int .i64 u0.Div, .int .i64 u0.Add, .int .i64 u0.Key]] (nog rfl _) rfl (by kernel_rfl) (by kernel_rfl) ?_
    refine (rplaces_fun u0 hc172 _ _ hM160.fz).mono ?_; rintro _ wd174 ⟨ao178, cap179, Z180, rfl, hm⟩; refine ⟨_, rfl, ?_⟩; intro a175 hF176; have hM177 := hM160.callZ hm; have hle181 := hm.ext.le; clear hm hM160 hF171
    replace hle0 := Fz.le.trans hle0 hle181
    have hM182 : Mem w.heap.size [] w Z [.own (tyInt .i64) 3 ao178 cap179 (placesS u0), .row b2 [str u0.Name, .int .i64 u0.Start, .int .i64 u0.Size, .bool u0.Back, .bool u0.Signed, .int .i64 u0.Mul, .int .i64 u0.Div, .int .i64 u0.Add, .int .i64 u0.Key] 23] Z180 wd174 := hM177; clear hM177
    have hp183 := hp173 (hM182.ownSmall 0 rfl); clear hp173
    refine s1 hF176 66 (.int .i64 ((placesS u0).length : Int)) ?_; intro a184 hF185; clear hF176
    refine s1 hF185 67 (.int .i64 0) ?_; intro a186 hF187; clear hF185
    refine nlH (hQ169 _ _ ?_); clear hQ169 hQ169Q
    refine wp_block ?_
    have hF188 : Fr 76 [] [⟨1, [], .int .i64 u1⟩, ⟨65, [], .slice ao178 (placesS u0).length cap179⟩, ⟨66, [], .int .i64 ((placesS u0).length : Int)⟩, ⟨67, [], .int .i64 0⟩] a186 := hF187.region (by kernel_rfl) (by kernel_rfl); clear hF187
    obtain ⟨Z190, hle191, hM192, hs193⟩ := hM182.freeze 0 rfl
    replace hle0 := Fz.le.trans hle0 hle191
    have hM194 : Mem w.heap.size [] w Z [.row b2 [str u0.Name, .int .i64 u0.Start, .int .i64 u0.Size, .bool u0.Back, .bool u0.Signed, .int .i64 u0.Mul, .int .i64 u0.Div, .int .i64 u0.Add, .int .i64 u0.Key] 23] Z190 wd174 := hM192; clear hM192
    have hF195 : Fr 76 [] [⟨1, [], .int .i64 u1⟩, ⟨65, [], .slice ao178 (placesS u0).length cap179⟩, ⟨66, [], .int .i64 ((placesS u0).length : Int)⟩, ⟨67, [], .int .i64 0⟩] a186 := hF188.region (by kernel_rfl) (by kernel_rfl); clear hF188
    obtain ⟨inv189, mu189, hI198, hr197⟩ := hp183
    refine lp (ι := Int) (fun (s : Int) => [⟨1, [], .int .i64 u1⟩, ⟨65, [], .slice ao178 (placesS u0).length cap179⟩, ⟨66, [], .int .i64 ((placesS u0).length : Int)⟩, ⟨67, [], .int .i64 s⟩]) (fun (s : Int) => [.row b2 [str u0.Name, .int .i64 u0.Start, .int .i64 u0.Size, .bool u0.Back, .bool u0.Signed, .int .i64 u0.Mul, .int .i64 u0.Div, .int .i64 u0.Add, .int .i64 u0.Key] 23]) (fun (s : Int) => Z190) (fun (s : Int) => inv189 s) (fun (s : Int) => mu189 s) 0 hI198 (by exact hF195.region (by kernel_rfl) (by kernel_rfl)) (by exact hM194) ?_
    rintro x67 hI196 a200 wd201 hF202 hM203
    have hF204 : Fr 76 [] [⟨1, [], .int .i64 u1⟩, ⟨65, [], .slice ao178 (placesS u0).length cap179⟩, ⟨66, [], .int .i64 ((placesS u0).length : Int)⟩, ⟨67, [], .int .i64 x67⟩] a200 := hF202; clear hF202 hF195
    have hM205 : Mem w.heap.size [] w Z [.row b2 [str u0.Name, .int .i64 u0.Start, .int .i64 u0.Size, .bool u0.Back, .bool u0.Signed, .int .i64 u0.Mul, .int .i64 u0.Div, .int .i64 u0.Add, .int .i64 u0.Key] 23] Z190 wd201 := hM203; clear hM203 hM194
    have hp206 := hr197 x67 hI196
    refine sqH ?_; intro hQ207Q hQ207
    refine s1 hF204 68 (.bool (decide (x67 < ((placesS u0).length : Int)))) ?_; intro a208 hF209; clear hF204
    refine nlH (hQ207 _ _ ?_); clear hQ207 hQ207Q
    refine wp_seq ?_
    refine cd hF209 (t := decide (x67 < ((placesS u0).length : Int))) (by kernel_rfl) (fun hb210 => ?_) (fun hb210 => ?_)
    · -- yes
     have hp211 := hp206.1 hb210; clear hp206
     refine wp_skip ?_
     refine thn ?_
     refine wp_seq ?_
     refine wp_block ?_
     refine sqH ?_; intro hQ212Q hQ212
     have hc213 := hp211.1; have hp214 := hp211.2; clear hp211
     refine ix hF209 (T := (tyInt .i64)) (xs := (placesS u0)) hs193 x67 hc213 (k := .i64) (e := 3) (bytes := 8) (nog rfl _) rfl (by kernel_rfl) rfl (by kernel_rfl) (by kernel_rfl) (by kernel_rfl) ?_; intro b215 off216 cs217 q218 a222 hq219 hP220 hT221 hF223; clear hF209
     have hp224 := hp214 q218 hq219; clear hp214
     obtain rfl : cs217 = ([.int .i64 q218] : List Value) := hT221
     refine z1 hF223 hM205 70 hP220 0 (.int .i64 q218) rfl ?_; intro a225 hF226; clear hF223
     refine s1 hF226 7 (.int .i64 q218) ?_; intro a227 hF228; clear hF226
     refine nlH (hQ212 _ _ ?_); clear hQ212 hQ212Q
     refine sqH ?_; intro hQ229Q hQ229
     refine s1 hF228 71 (.int .i64 q218) ?_; intro a230 hF231; clear hF228
     refine s1 hF231 72 (.int .i64 u1) ?_; intro a232 hF233; clear hF231
     refine s1 hF233 73 (.int .i64 (w64 (8 * u1))) ?_; intro a234 hF235; clear hF233
     refine s1 hF235 74 (.bool (decide (q218 ≥ (w64 (8 * u1))))) ?_; intro a236 hF237; clear hF235
     refine nlH (hQ229 _ _ ?_); clear hQ229 hQ229Q
     refine cd hF237 (t := decide (q218 ≥ (w64 (8 * u1)))) (by kernel_rfl) (fun hb238 => ?_) (fun hb238 => ?_)
     · -- yes
      have hp239 := hp224.1 hb238; clear hp224
      refine sqH ?_; intro hQ240Q hQ240
      refine s1 hF237 4 (.int .i64 7) ?_; intro a241 hF242; clear hF237
      refine nlH (hQ240 _ _ ?_); clear hQ240 hQ240Q
      refine wp_ret ?_
      refine ibr ?_
      refine thr ?_
      refine thr ?_
      refine ibr ?_
      refine thr ?_
      refine rt (fn := Tryd.f8) (v := .int .i64 7) hF242 (re1 hF242 (fn := Tryd.f8) rfl (by kernel_rfl)) ?_
      exact ⟨7, rfl, hp239, hM205.below⟩
     · -- no
      have hp243 := hp224.2 hb238; clear hp224
      refine wp_skip ?_
      refine ibn ?_
      refine thn ?_
      refine rgH ?_; intro hQ244Q hQ244
      refine s1 hF237 75 (.int .i64 (w64 (x67 + 1))) ?_; intro a245 hF246; clear hF237
      refine s1 hF246 67 (.int .i64 (w64 (x67 + 1))) ?_; intro a247 hF248; clear hF246
      refine nlH (hQ244 _ _ ?_); clear hQ244 hQ244Q
      refine rd ?_
      exact ⟨w64 (x67 + 1), hp243.1, hp243.2, (hF248.region (by kernel_rfl) (by kernel_rfl)).anyβ _ (by kernel_rfl), hM205.keep (List.Sublist.cons_cons _ (List.Sublist.slnil))⟩
    · -- no
     have hp249 := hp206.2 hb210; clear hp206
     refine wp_exit ?_
     refine thx ?_
     refine thx ?_
     refine ibx ?_
     refine thn ?_
     refine sqH ?_; intro hQ250Q hQ250
     refine s1 hF209 4 (.int .i64 0) ?_; intro a251 hF252; clear hF209
     refine nlH (hQ250 _ _ ?_); clear hQ250 hQ250Q
     refine wp_ret ?_
     refine rt (fn := Tryd.f8) (v := .int .i64 0) hF252 (re1 hF252 (fn := Tryd.f8) rfl (by kernel_rfl)) ?_
     exact ⟨0, rfl, hp249, hM205.below⟩

set_option maxRecDepth 100000 in
set_option maxHeartbeats 0 in
theorem splc_walk (u0 : Signal) (u1 : Int)  (Z : Fz) (w : World)  (hZ : Z.on w) {K : ((List Int) × Int) → Prop} (hp : splc_vc u0 u1 K) : Calls Tryd.prog 18 #[.agg #[str u0.Name, .int .i64 u0.Start, .int .i64 u0.Size, .bool u0.Back, .bool u0.Signed, .int .i64 u0.Mul, .int .i64 u0.Div, .int .i64 u0.Add, .int .i64 u0.Key], .int .i64 u1] w fun e w' => ∃ (r : (List Int) × Int) (ao1001 : Option Addr) (cap1002 : Nat) (Z' : Fz), e = .returned (.tuple #[.slice ao1001 r.1.length cap1002, .int .i64 r.2]) ∧ K r ∧ Mem w.heap.size [] w Z [.own (tyInt .i64) 3 ao1001 cap1002 r.1] Z' w' := by
 refine enter0 Tryd.func18 rfl rfl (by kernel_rfl) ?_; intro a0 hF0; have hM0 := Mem.start w Z hZ; have hle0 := Fz.le.refl Z
 refine sqH ?_; intro hQ1Q hQ1
 refine sn hF0 hM0 (fun b => .pointer (some ⟨b, 0, none⟩)) [str u0.Name, .int .i64 u0.Start, .int .i64 u0.Size, .bool u0.Back, .bool u0.Signed, .int .i64 u0.Mul, .int .i64 u0.Div, .int .i64 u0.Add, .int .i64 u0.Key] 23 (nog rfl _) rfl (by kernel_rfl) (by kernel_rfl) ?_; intro b2 a3 wd5 hF4 hM6; clear hF0 hM0
 refine s1 hF4 4 (.slice none 0 0) ?_; intro a7 hF8; clear hF4
 refine s1 hF8 5 (.int .i64 0) ?_; intro a9 hF10; clear hF8
 refine nlH (hQ1 _ _ ?_); clear hQ1 hQ1Q
 refine wp_seq ?_
 refine sqH ?_; intro hQ11Q hQ11
 refine l2 hF10 hM6 7 0 0 9 [str u0.Name, .int .i64 u0.Start, .int .i64 u0.Size, .bool u0.Back, .bool u0.Signed, .int .i64 u0.Mul, .int .i64 u0.Div, .int .i64 u0.Add, .int .i64 u0.Key] rfl rfl ?_; intro a12 hF13; clear hF10
 refine s1 hF13 8 (.int .i64 u1) ?_; intro a14 hF15; clear hF13
 refine fcl hF15 hM6 (.int .i64 (checkS u0 u1)) 19 #[.agg #[str u0.Name, .int .i64 u0.Start, .int .i64 u0.Size, .bool u0.Back, .bool u0.Signed, .int .i64 u0.Mul, .int .i64 u0.Div, .int .i64 u0.Add, .int .i64 u0.Key], .int .i64 u1] (nog rfl _) rfl (by kernel_rfl) (fun _ => by kernel_rfl) (scheck_fun u0 u1 _ _ hM6.fz) ?_; intro a16 wd18 hF17 hM19; clear hF15 hM6
 refine s1 hF17 6 (.int .i64 (checkS u0 u1)) ?_; intro a20 hF21; clear hF17
 refine nlH (hQ11 _ _ ?_); clear hQ11 hQ11Q
 refine sqH ?_; intro hQ22Q hQ22
 refine s1 hF21 10 (.int .i64 (checkS u0 u1)) ?_; intro a23 hF24; clear hF21
 refine s1 hF24 11 (.bool ((checkS u0 u1) != 0)) ?_; intro a25 hF26; clear hF24
 refine nlH (hQ22 _ _ ?_); clear hQ22 hQ22Q
 refine cd hF26 (t := (checkS u0 u1) != 0) (by kernel_rfl) (fun hb27 => ?_) (fun hb27 => ?_)
 · -- yes
  have hp28 := hp.1 hb27; clear hp
  refine sqH ?_; intro hQ29Q hQ29
  refine s1 hF26 12 (.int .i64 (checkS u0 u1)) ?_; intro a30 hF31; clear hF26
  refine s1 hF31 4 (.slice none 0 0) ?_; intro a32 hF33; clear hF31
  refine s1 hF33 5 (.int .i64 (checkS u0 u1)) ?_; intro a34 hF35; clear hF33
  refine nlH (hQ29 _ _ ?_); clear hQ29 hQ29Q
  refine wp_ret ?_
  refine thr ?_
  have hM36 : Mem w.heap.size [] w Z [.own (tyInt .i64) 3 none 0 ([] : List Int), .row b2 [str u0.Name, .int .i64 u0.Start, .int .i64 u0.Size, .bool u0.Back, .bool u0.Signed, .int .i64 u0.Mul, .int .i64 u0.Div, .int .i64 u0.Add, .int .i64 u0.Key] 23] Z wd18 := hM19.addNil (tyInt .i64) 3 (by decide); clear hM19
  refine rt (fn := Tryd.f18) (v := .tuple #[.slice none ([] : List Int).length 0, .int .i64 (checkS u0 u1)]) hF35 (re2 hF35 (fn := Tryd.f18) rfl (by kernel_rfl) (by kernel_rfl)) ?_
  exact ⟨(([] : List Int), (checkS u0 u1)), none, 0, Z, rfl, hp28, hM36.keep (List.Sublist.cons_cons _ (List.Sublist.cons _ (List.Sublist.slnil)))⟩
 · -- no
  have hp37 := hp.2 hb27; clear hp
  refine wp_skip ?_
  refine thn ?_
  refine sqH ?_; intro hQ38Q hQ38
  refine l2 hF26 hM19 13 0 0 9 [str u0.Name, .int .i64 u0.Start, .int .i64 u0.Size, .bool u0.Back, .bool u0.Signed, .int .i64 u0.Mul, .int .i64 u0.Div, .int .i64 u0.Add, .int .i64 u0.Key] rfl rfl ?_; intro a39 hF40; clear hF26
  have hc41 := hp37.1; have hp42 := hp37.2; clear hp37
  refine cl hF40 57 #[.agg #[str u0.Name, .int .i64 u0.Start, .int .i64 u0.Size, .bool u0.Back, .bool u0.Signed, .int .i64 u0.Mul, .int .i64 u0.Div, .int .i64 u0.Add, .int .i64 u0.Key]] (nog rfl _) rfl (by kernel_rfl) (by kernel_rfl) ?_
  refine (splaces_fun u0 hc41 _ _ hM19.fz).mono ?_; rintro _ wd43 ⟨ao47, cap48, Z49, rfl, hm⟩; refine ⟨_, rfl, ?_⟩; intro a44 hF45; have hM46 := hM19.callZ hm; have hle50 := hm.ext.le; clear hm hM19 hF40
  replace hle0 := Fz.le.trans hle0 hle50
  have hM51 : Mem w.heap.size [] w Z [.own (tyInt .i64) 3 ao47 cap48 (placesS u0), .row b2 [str u0.Name, .int .i64 u0.Start, .int .i64 u0.Size, .bool u0.Back, .bool u0.Signed, .int .i64 u0.Mul, .int .i64 u0.Div, .int .i64 u0.Add, .int .i64 u0.Key] 23] Z49 wd43 := hM46; clear hM46
  have hp52 := hp42 (hM51.ownSmall 0 rfl); clear hp42
  refine s1 hF45 4 (.slice ao47 (placesS u0).length cap48) ?_; intro a53 hF54; clear hF45
  refine s1 hF54 5 (.int .i64 0) ?_; intro a55 hF56; clear hF54
  refine nlH (hQ38 _ _ ?_); clear hQ38 hQ38Q
  refine wp_ret ?_
  refine rt (fn := Tryd.f18) (v := .tuple #[.slice ao47 (placesS u0).length cap48, .int .i64 0]) hF56 (re2 hF56 (fn := Tryd.f18) rfl (by kernel_rfl) (by kernel_rfl)) ?_
  exact ⟨((placesS u0), 0), ao47, cap48, Z49, rfl, hp52, hM51.keep (List.Sublist.cons_cons _ (List.Sublist.cons _ (List.Sublist.slnil)))⟩

set_option maxRecDepth 100000 in
set_option maxHeartbeats 0 in
theorem rover_walk (u0 : Signal) (u1 : Signal)  (Z : Fz) (w : World)  (hZ : Z.on w) {K : Bool → Prop} (hp : rover_vc u0 u1 K) : Calls Tryd.prog 23 #[.agg #[str u0.Name, .int .i64 u0.Start, .int .i64 u0.Size, .bool u0.Back, .bool u0.Signed, .int .i64 u0.Mul, .int .i64 u0.Div, .int .i64 u0.Add, .int .i64 u0.Key], .agg #[str u1.Name, .int .i64 u1.Start, .int .i64 u1.Size, .bool u1.Back, .bool u1.Signed, .int .i64 u1.Mul, .int .i64 u1.Div, .int .i64 u1.Add, .int .i64 u1.Key]] w fun e w' => ∃ r : Bool, e = .returned (.bool r) ∧ K r ∧ Below w.heap.size w w' := by
 refine enter0 Tryd.func23 rfl rfl (by kernel_rfl) ?_; intro a0 hF0; have hM0 := Mem.start w Z hZ; have hle0 := Fz.le.refl Z
 refine sqH ?_; intro hQ1Q hQ1
 refine sn hF0 hM0 (fun b => .pointer (some ⟨b, 0, none⟩)) [str u0.Name, .int .i64 u0.Start, .int .i64 u0.Size, .bool u0.Back, .bool u0.Signed, .int .i64 u0.Mul, .int .i64 u0.Div, .int .i64 u0.Add, .int .i64 u0.Key] 23 (nog rfl _) rfl (by kernel_rfl) (by kernel_rfl) ?_; intro b2 a3 wd5 hF4 hM6; clear hF0 hM0
 refine sn hF4 hM6 (fun b => .pointer (some ⟨b, 0, none⟩)) [str u1.Name, .int .i64 u1.Start, .int .i64 u1.Size, .bool u1.Back, .bool u1.Signed, .int .i64 u1.Mul, .int .i64 u1.Div, .int .i64 u1.Add, .int .i64 u1.Key] 23 (nog rfl _) rfl (by kernel_rfl) (by kernel_rfl) ?_; intro b7 a8 wd10 hF9 hM11; clear hF4 hM6
 refine s1 hF9 4 (.bool false) ?_; intro a12 hF13; clear hF9
 refine nlH (hQ1 _ _ ?_); clear hQ1 hQ1Q
 refine sqH ?_; intro hQ14Q hQ14
 refine l2 hF13 hM11 6 0 0 9 [str u1.Name, .int .i64 u1.Start, .int .i64 u1.Size, .bool u1.Back, .bool u1.Signed, .int .i64 u1.Mul, .int .i64 u1.Div, .int .i64 u1.Add, .int .i64 u1.Key] rfl rfl ?_; intro a15 hF16; clear hF13
 have hc17 := hp.1; have hp18 := hp.2; clear hp
 refine cl hF16 25 #[.agg #[str u1.Name, .int .i64 u1.Start, .int .i64 u1.Size, .bool u1.Back, .bool u1.Signed, .int .i64 u1.Mul, .int .i64 u1.Div, .int .i64 u1.Add, .int .i64 u1.Key]] (nog rfl _) rfl (by kernel_rfl) (by kernel_rfl) ?_
 refine (rplaces_fun u1 hc17 _ _ hM11.fz).mono ?_; rintro _ wd19 ⟨ao23, cap24, Z25, rfl, hm⟩; refine ⟨_, rfl, ?_⟩; intro a20 hF21; have hM22 := hM11.callZ hm; have hle26 := hm.ext.le; clear hm hM11 hF16
 replace hle0 := Fz.le.trans hle0 hle26
 have hM27 : Mem w.heap.size [] w Z [.own (tyInt .i64) 3 ao23 cap24 (placesS u1), .row b7 [str u1.Name, .int .i64 u1.Start, .int .i64 u1.Size, .bool u1.Back, .bool u1.Signed, .int .i64 u1.Mul, .int .i64 u1.Div, .int .i64 u1.Add, .int .i64 u1.Key] 23, .row b2 [str u0.Name, .int .i64 u0.Start, .int .i64 u0.Size, .bool u0.Back, .bool u0.Signed, .int .i64 u0.Mul, .int .i64 u0.Div, .int .i64 u0.Add, .int .i64 u0.Key] 23] Z25 wd19 := hM22; clear hM22
 have hp28 := hp18 (hM27.ownSmall 0 rfl); clear hp18
 refine sn hF21 hM27 (fun b => .pointer (some ⟨b, 0, none⟩)) [.slice none 0 0] 43 (nog rfl _) rfl (by kernel_rfl) (by kernel_rfl) ?_; intro b29 a30 wd32 hF31 hM33; clear hF21 hM27
 refine sr hF31 hM33 0 [.slice ao23 (placesS u1).length cap24] (b := b29) (off := 0) (cs := [.slice none 0 0]) (ty := 43) (u := .slice ao23 (placesS u1).length cap24) (nog rfl _) rfl rfl (by kernel_rfl) (by kernel_rfl) (by kernel_rfl) (by kernel_rfl) (by kernel_rfl) (by kernel_rfl) (by kernel_rfl) ?_; intro wd34 hM35; clear hM33
 have hM36 : Mem w.heap.size [] w Z [.row b29 [.slice ao23 (placesS u1).length cap24] 43, .own (tyInt .i64) 3 ao23 cap24 (placesS u1), .row b7 [str u1.Name, .int .i64 u1.Start, .int .i64 u1.Size, .bool u1.Back, .bool u1.Signed, .int .i64 u1.Mul, .int .i64 u1.Div, .int .i64 u1.Add, .int .i64 u1.Key] 23, .row b2 [str u0.Name, .int .i64 u0.Start, .int .i64 u0.Size, .bool u0.Back, .bool u0.Signed, .int .i64 u0.Mul, .int .i64 u0.Div, .int .i64 u0.Add, .int .i64 u0.Key] 23] Z25 wd34 := hM35; clear hM35
 refine nlH (hQ14 _ _ ?_); clear hQ14 hQ14Q
 refine sqH ?_; intro hQ37Q hQ37
 refine l2 hF31 hM36 8 3 0 9 [str u0.Name, .int .i64 u0.Start, .int .i64 u0.Size, .bool u0.Back, .bool u0.Signed, .int .i64 u0.Mul, .int .i64 u0.Div, .int .i64 u0.Add, .int .i64 u0.Key] rfl rfl ?_; intro a38 hF39; clear hF31
 have hc40 := hp28.1; have hp41 := hp28.2; clear hp28
 refine cl hF39 25 #[.agg #[str u0.Name, .int .i64 u0.Start, .int .i64 u0.Size, .bool u0.Back, .bool u0.Signed, .int .i64 u0.Mul, .int .i64 u0.Div, .int .i64 u0.Add, .int .i64 u0.Key]] (nog rfl _) rfl (by kernel_rfl) (by kernel_rfl) ?_
 refine (rplaces_fun u0 hc40 _ _ hM36.fz).mono ?_; rintro _ wd42 ⟨ao46, cap47, Z48, rfl, hm⟩; refine ⟨_, rfl, ?_⟩; intro a43 hF44; have hM45 := hM36.callZ hm; have hle49 := hm.ext.le; clear hm hM36 hF39
 replace hle0 := Fz.le.trans hle0 hle49
 have hM50 : Mem w.heap.size [] w Z [.own (tyInt .i64) 3 ao46 cap47 (placesS u0), .row b29 [.slice ao23 (placesS u1).length cap24] 43, .own (tyInt .i64) 3 ao23 cap24 (placesS u1), .row b7 [str u1.Name, .int .i64 u1.Start, .int .i64 u1.Size, .bool u1.Back, .bool u1.Signed, .int .i64 u1.Mul, .int .i64 u1.Div, .int .i64 u1.Add, .int .i64 u1.Key] 23, .row b2 [str u0.Name, .int .i64 u0.Start, .int .i64 u0.Size, .bool u0.Back, .bool u0.Signed, .int .i64 u0.Mul, .int .i64 u0.Div, .int .i64 u0.Add, .int .i64 u0.Key] 23] Z48 wd42 := hM45; clear hM45
 have hp51 := hp41 (hM50.ownSmall 0 rfl); clear hp41
 refine s1 hF44 10 (.func (.func 64) #[] #[.pointer (some ⟨b29, 0, none⟩)]) ?_; intro a52 hF53; clear hF44
 obtain ⟨Z54, hle55, hM56, hs57⟩ := hM50.freeze 0 rfl
 replace hle0 := Fz.le.trans hle0 hle55
 have hM58 : Mem w.heap.size [] w Z [.row b29 [.slice ao23 (placesS u1).length cap24] 43, .own (tyInt .i64) 3 ao23 cap24 (placesS u1), .row b7 [str u1.Name, .int .i64 u1.Start, .int .i64 u1.Size, .bool u1.Back, .bool u1.Signed, .int .i64 u1.Mul, .int .i64 u1.Div, .int .i64 u1.Add, .int .i64 u1.Key] 23, .row b2 [str u0.Name, .int .i64 u0.Start, .int .i64 u0.Size, .bool u0.Back, .bool u0.Signed, .int .i64 u0.Mul, .int .i64 u0.Div, .int .i64 u0.Add, .int .i64 u0.Key] 23] Z54 wd42 := hM56; clear hM56
 obtain ⟨Z59, hle60, hM61, hs62⟩ := hM58.freeze 1 rfl
 replace hs57 := hs57.mono hle60
 replace hle0 := Fz.le.trans hle0 hle60
 have hM63 : Mem w.heap.size [] w Z [.row b29 [.slice ao23 (placesS u1).length cap24] 43, .row b7 [str u1.Name, .int .i64 u1.Start, .int .i64 u1.Size, .bool u1.Back, .bool u1.Signed, .int .i64 u1.Mul, .int .i64 u1.Div, .int .i64 u1.Add, .int .i64 u1.Key] 23, .row b2 [str u0.Name, .int .i64 u0.Start, .int .i64 u0.Size, .bool u0.Back, .bool u0.Signed, .int .i64 u0.Mul, .int .i64 u0.Div, .int .i64 u0.Add, .int .i64 u0.Key] 23] Z59 wd42 := hM61; clear hM61
 obtain ⟨Z64, hle65, hM66, hP67⟩ := hM63.freezeRow 0 rfl
 replace hs57 := hs57.mono hle65
 replace hs62 := hs62.mono hle65
 replace hle0 := Fz.le.trans hle0 hle65
 have hM68 : Mem w.heap.size [] w Z [.row b7 [str u1.Name, .int .i64 u1.Start, .int .i64 u1.Size, .bool u1.Back, .bool u1.Signed, .int .i64 u1.Mul, .int .i64 u1.Div, .int .i64 u1.Add, .int .i64 u1.Key] 23, .row b2 [str u0.Name, .int .i64 u0.Start, .int .i64 u0.Size, .bool u0.Back, .bool u0.Signed, .int .i64 u0.Mul, .int .i64 u0.Div, .int .i64 u0.Add, .int .i64 u0.Key] 23] Z64 wd42 := hM66; clear hM66
 refine fcl hF53 hM68 (.bool (icontfS (placesS u0) (fun x0 => rov1 x0 (placesS u1)))) 63 #[.slice ao46 (placesS u0).length cap47, .func (.func 64) #[] #[.pointer (some ⟨b29, 0, none⟩)]] (nog rfl _) rfl (by kernel_rfl) (fun _ => by kernel_rfl) (icontf_fun (placesS u0) (fun x0 => rov1 x0 (placesS u1)) ao46 cap47 64 #[.pointer (some ⟨b29, 0, none⟩)] _ _ hs57 (fun Z1 w1 h1 h2 x0 => rov1_fun x0 (placesS u1) b29 0 ao23 cap24 Z1 w1 (hP67.mono h1) (SlR.mono hs62 h1) h2) (fun _ _ => by kernel_rfl) hM68.fz) ?_; intro a69 wd71 hF70 hM72; clear hF53 hM68
 refine s1 hF70 4 (.bool (icontfS (placesS u0) (fun x0 => rov1 x0 (placesS u1)))) ?_; intro a73 hF74; clear hF70
 refine nlH (hQ37 _ _ ?_); clear hQ37 hQ37Q
 refine wp_ret ?_
 refine rt (fn := Tryd.f23) (v := .bool (icontfS (placesS u0) (fun x0 => rov1 x0 (placesS u1)))) hF74 (re1 hF74 (fn := Tryd.f23) rfl (by kernel_rfl)) ?_
 exact ⟨(icontfS (placesS u0) (fun x0 => rov1 x0 (placesS u1))), rfl, hp51, hM72.below⟩

set_option maxRecDepth 100000 in
set_option maxHeartbeats 0 in
theorem ieq_walk (u0 : List Int) (u1 : List Int) (ao1 : Option Addr) (cap2 : Nat) (ao4 : Option Addr) (cap5 : Nat) (Z : Fz) (w : World) (hs3 : SlR (tyInt .i64) Z ao1 cap2 u0) (hs6 : SlR (tyInt .i64) Z ao4 cap5 u1) (hZ : Z.on w) {K : Bool → Prop} (hp : ieq_vc u0 u1 K) : Calls Tryd.prog 24 #[.slice ao1 u0.length cap2, .slice ao4 u1.length cap5] w fun e w' => ∃ r : Bool, e = .returned (.bool r) ∧ K r ∧ Below w.heap.size w w' := by
 refine enter0 Tryd.func24 rfl rfl (by kernel_rfl) ?_; intro a0 hF0; have hM0 := Mem.start w Z hZ; have hle0 := Fz.le.refl Z
 have hp7 := hp (hs3.small); clear hp
 have hp8 := hp7 (hs6.small); clear hp7
 refine sqH ?_; intro hQ9Q hQ9
 refine s1 hF0 4 (.bool false) ?_; intro a10 hF11; clear hF0
 refine nlH (hQ9 _ _ ?_); clear hQ9 hQ9Q
 refine wp_seq ?_
 refine sqH ?_; intro hQ12Q hQ12
 refine s1 hF11 6 (.slice ao1 u0.length cap2) ?_; intro a13 hF14; clear hF11
 refine s1 hF14 7 (.int .i64 (u0.length : Int)) ?_; intro a15 hF16; clear hF14
 refine s1 hF16 8 (.slice ao4 u1.length cap5) ?_; intro a17 hF18; clear hF16
 refine s1 hF18 9 (.int .i64 (u1.length : Int)) ?_; intro a19 hF20; clear hF18
 refine s1 hF20 10 (.bool ((u0.length : Int) != (u1.length : Int))) ?_; intro a21 hF22; clear hF20
 refine nlH (hQ12 _ _ ?_); clear hQ12 hQ12Q
 refine cd hF22 (t := (u0.length : Int) != (u1.length : Int)) (by kernel_rfl) (fun hb23 => ?_) (fun hb23 => ?_)
 · -- yes
  have hp24 := hp8.1 hb23; clear hp8
  refine sqH ?_; intro hQ25Q hQ25
  refine s1 hF22 4 (.bool false) ?_; intro a26 hF27; clear hF22
  refine nlH (hQ25 _ _ ?_); clear hQ25 hQ25Q
  refine wp_ret ?_
  refine thr ?_
  refine rt (fn := Tryd.f24) (v := .bool false) hF27 (re1 hF27 (fn := Tryd.f24) rfl (by kernel_rfl)) ?_
  exact ⟨false, rfl, hp24, hM0.below⟩
 · -- no
  have hp28 := hp8.2 hb23; clear hp8
  refine wp_skip ?_
  refine thn ?_
  refine wp_seq ?_
  refine sqH ?_; intro hQ29Q hQ29
  refine s1 hF22 11 (.slice ao1 u0.length cap2) ?_; intro a30 hF31; clear hF22
  refine s1 hF31 12 (.int .i64 (u0.length : Int)) ?_; intro a32 hF33; clear hF31
  refine s1 hF33 13 (.int .i64 0) ?_; intro a34 hF35; clear hF33
  refine nlH (hQ29 _ _ ?_); clear hQ29 hQ29Q
  refine wp_block ?_
  have hF36 : Fr 26 [] [⟨0, [], .slice ao1 u0.length cap2⟩, ⟨1, [], .slice ao4 u1.length cap5⟩, ⟨12, [], .int .i64 (u0.length : Int)⟩, ⟨13, [], .int .i64 0⟩] a34 := hF35.region (by kernel_rfl) (by kernel_rfl); clear hF35
  have hF38 : Fr 26 [] [⟨0, [], .slice ao1 u0.length cap2⟩, ⟨1, [], .slice ao4 u1.length cap5⟩, ⟨12, [], .int .i64 (u0.length : Int)⟩, ⟨13, [], .int .i64 0⟩] a34 := hF36.region (by kernel_rfl) (by kernel_rfl); clear hF36
  obtain ⟨inv37, mu37, hI41, hr40⟩ := hp28
  refine lp (ι := Int) (fun (s : Int) => [⟨0, [], .slice ao1 u0.length cap2⟩, ⟨1, [], .slice ao4 u1.length cap5⟩, ⟨12, [], .int .i64 (u0.length : Int)⟩, ⟨13, [], .int .i64 s⟩]) (fun (s : Int) => []) (fun (s : Int) => Z) (fun (s : Int) => inv37 s) (fun (s : Int) => mu37 s) 0 hI41 (by exact hF38.region (by kernel_rfl) (by kernel_rfl)) (by exact hM0) ?_
  rintro x13 hI39 a43 wd44 hF45 hM46
  have hF47 : Fr 26 [] [⟨0, [], .slice ao1 u0.length cap2⟩, ⟨1, [], .slice ao4 u1.length cap5⟩, ⟨12, [], .int .i64 (u0.length : Int)⟩, ⟨13, [], .int .i64 x13⟩] a43 := hF45; clear hF45 hF38
  have hM48 : Mem w.heap.size [] w Z [] Z wd44 := hM46; clear hM46 hM0
  have hp49 := hr40 x13 hI39
  refine sqH ?_; intro hQ50Q hQ50
  refine s1 hF47 14 (.bool (decide (x13 < (u0.length : Int)))) ?_; intro a51 hF52; clear hF47
  refine nlH (hQ50 _ _ ?_); clear hQ50 hQ50Q
  refine wp_seq ?_
  refine cd hF52 (t := decide (x13 < (u0.length : Int))) (by kernel_rfl) (fun hb53 => ?_) (fun hb53 => ?_)
  · -- yes
   have hp54 := hp49.1 hb53; clear hp49
   refine wp_skip ?_
   refine thn ?_
   refine wp_seq ?_
   refine wp_block ?_
   refine sqH ?_; intro hQ55Q hQ55
   refine s1 hF52 15 (.int .i64 x13) ?_; intro a56 hF57; clear hF52
   refine s1 hF57 5 (.int .i64 x13) ?_; intro a58 hF59; clear hF57
   refine nlH (hQ55 _ _ ?_); clear hQ55 hQ55Q
   have hF60 : Fr 26 [] [⟨0, [], .slice ao1 u0.length cap2⟩, ⟨1, [], .slice ao4 u1.length cap5⟩, ⟨5, [], .int .i64 x13⟩, ⟨12, [], .int .i64 (u0.length : Int)⟩, ⟨13, [], .int .i64 x13⟩] a58 := hF59.region (by kernel_rfl) (by kernel_rfl); clear hF59
   refine sqQH mixed (by kernel_rfl) hM48 ?_; intro hQ61Q hQ61
   refine q1 hF60 16 (.slice ao1 u0.length cap2) ?_; intro a63 hF64; clear hF60
   refine q1 hF64 17 (.int .i64 x13) ?_; intro a66 hF67; clear hF64
   have hc69 := hp54.1; have hp70 := hp54.2; clear hp54
   refine qix hF67 (T := (tyInt .i64)) (xs := u0) hs3 x13 hc69 (k := .i64) (e := 3) (bytes := 8) (nog rfl _) rfl (by kernel_rfl) rfl (by kernel_rfl) (by kernel_rfl) (by kernel_rfl) ?_; intro b71 off72 cs73 q74 a78 hq75 hP76 hT77 hF79; clear hF67
   have hp80 := hp70 q74 hq75; clear hp70
   obtain rfl : cs73 = ([.int .i64 q74] : List Value) := hT77
   refine qst hF79 (.int .i64 q74) (nog rfl _) rfl (by kernel_rfl) (fun v81 hC => lz hF79 hC.fz hP76 0 (g := []) rfl (by kernel_rfl) (by kernel_rfl) (by kernel_rfl) rfl) ?_; intro a82 hF83; clear hF79
   refine q1 hF83 20 (.slice ao4 u1.length cap5) ?_; intro a85 hF86; clear hF83
   refine q1 hF86 21 (.int .i64 x13) ?_; intro a88 hF89; clear hF86
   have hc91 := hp80.1; have hp92 := hp80.2; clear hp80
   refine qix hF89 (T := (tyInt .i64)) (xs := u1) hs6 x13 hc91 (k := .i64) (e := 3) (bytes := 8) (nog rfl _) rfl (by kernel_rfl) rfl (by kernel_rfl) (by kernel_rfl) (by kernel_rfl) ?_; intro b93 off94 cs95 q96 a100 hq97 hP98 hT99 hF101; clear hF89
   have hp102 := hp92 q96 hq97; clear hp92
   obtain rfl : cs95 = ([.int .i64 q96] : List Value) := hT99
   refine qst hF101 (.int .i64 q96) (nog rfl _) rfl (by kernel_rfl) (fun v103 hC => lz hF101 hC.fz hP98 0 (g := []) rfl (by kernel_rfl) (by kernel_rfl) (by kernel_rfl) rfl) ?_; intro a104 hF105; clear hF101
   refine q1 hF105 24 (.bool (q74 != q96)) ?_; intro a107 hF108; clear hF105
   refine qnl (hQ61 _ ?_); clear hQ61 hQ61Q; intro wd109 hM110; clear hM48
   refine cd hF108 (t := q74 != q96) (by kernel_rfl) (fun hb111 => ?_) (fun hb111 => ?_)
   · -- yes
    have hp112 := hp102.1 hb111; clear hp102
    refine sqH ?_; intro hQ113Q hQ113
    refine s1 hF108 4 (.bool false) ?_; intro a114 hF115; clear hF108
    refine nlH (hQ113 _ _ ?_); clear hQ113 hQ113Q
    refine wp_ret ?_
    refine ibr ?_
    refine thr ?_
    refine thr ?_
    refine ibr ?_
    refine thr ?_
    refine rt (fn := Tryd.f24) (v := .bool false) hF115 (re1 hF115 (fn := Tryd.f24) rfl (by kernel_rfl)) ?_
    exact ⟨false, rfl, hp112, hM110.below⟩
   · -- no
    have hp116 := hp102.2 hb111; clear hp102
    refine wp_skip ?_
    refine ibn ?_
    refine thn ?_
    refine rgH ?_; intro hQ117Q hQ117
    refine s1 hF108 25 (.int .i64 (w64 (x13 + 1))) ?_; intro a118 hF119; clear hF108
    refine s1 hF119 13 (.int .i64 (w64 (x13 + 1))) ?_; intro a120 hF121; clear hF119
    refine nlH (hQ117 _ _ ?_); clear hQ117 hQ117Q
    refine rd ?_
    exact ⟨w64 (x13 + 1), hp116.1, hp116.2, (hF121.region (by kernel_rfl) (by kernel_rfl)).anyβ _ (by kernel_rfl), hM110.keep (List.Sublist.slnil)⟩
  · -- no
   have hp122 := hp49.2 hb53; clear hp49
   refine wp_exit ?_
   refine thx ?_
   refine thx ?_
   refine ibx ?_
   refine thn ?_
   refine sqH ?_; intro hQ123Q hQ123
   refine s1 hF52 4 (.bool true) ?_; intro a124 hF125; clear hF52
   refine nlH (hQ123 _ _ ?_); clear hQ123 hQ123Q
   refine wp_ret ?_
   refine rt (fn := Tryd.f24) (v := .bool true) hF125 (re1 hF125 (fn := Tryd.f24) rfl (by kernel_rfl)) ?_
   exact ⟨true, rfl, hp122, hM48.below⟩

end Go.Proofs.YtdndfbamhnchfaaDoor
